/- The plain law, part 1. No condition. -/
import Derived.Test.YtmijckhlnkgaiaaGreatDoorPMassRight0
import Derived.KernelRfl
set_option linter.unusedVariables false
set_option linter.unusedSimpArgs false
set_option linter.unnecessarySimpa false
namespace Go.Av
open Go
theorem arW (x:B32):hN 4 (x &&& 15#32) ^^^ (x >>> 4)=hN 4 x:=by
 have hs:=anl 4 (x >>> 4) (by decide) fun j hj=>by
  rw[BitVec.getLsbD_ushiftRight];exact BitVec.getLsbD_of_ge _ _ (by omega)
 have e:x=(x &&& 15#32) ^^^ ((x >>> 4) <<< 4):=by
  refine BitVec.eq_of_getLsbD_eq fun i hi=> ?_;simp only[BitVec.getLsbD_xor,BitVec.getLsbD_and,BitVec.getLsbD_shiftLeft,BitVec.getLsbD_ushiftRight];by_cases h4:i<4
  ·have h15:(15#32).getLsbD i=true:=by
    have:i=0\/i=1\/i=2\/i=3:=by omega
    rcases this with rfl | rfl | rfl | rfl<;>rfl
   rw[h15];simp [h4]
  ·have h15:(15#32).getLsbD i=false:=by
    have:(15#32)=BitVec.ofNat 32 15:=rfl;rw[this,BitVec.getLsbD_ofNat];have:Nat.testBit 15 i=false:=Nat.testBit_lt_two_pow (Nat.lt_of_lt_of_le (by decide:15<2^4) (Nat.pow_le_pow_right (by decide) (by omega)));simp [this]
   have:4+(i - 4)=i:=by omega
   rw[h15,this];simp [h4,hi]
 conv=>rhs;rw[e,am7,hs]
def ofB (b:Int):B32:=BitVec.ofInt 32 b
def toI (x:B32):Int:=(x.toNat:Int)
theorem afI (x:B32):0<=toI x/\toI x<4294967296:=by
 have:=x.isLt;unfold toI;omega
theorem aaV (x:B32):ofB (toI x)=x:=by
 apply BitVec.eq_of_toNat_eq;unfold ofB toI;rw[BitVec.toNat_ofInt];have:=x.isLt;omega
theorem apq {b:Int} (h1:0<=b) (h2:b<4294967296):toI (ofB b)=b:=by
 unfold ofB toI;rw[BitVec.toNat_ofInt];omega
theorem anA (x:B32):wr .u32 (toI x)=toI x:=by
 have:=afI x;rw[afD];omega
theorem VK (x y:B32):wr .u32 (gQ .u32 (toI x) (toI y))=toI (x ^^^ y):=by
 have:gQ .u32 (toI x) (toI y)=toI (x ^^^ y):=by
  show((BitVec.ofInt 32 (toI x) ^^^ BitVec.ofInt 32 (toI y)).toNat:Int)=_;have h1:=aaV x;have h2:=aaV y;unfold ofB at h1 h2;rw[h1,h2];rfl
 rw[this,anA]
theorem amh (x y:B32):wr .u32 (jl .u32 (toI x) (toI y))=toI (x &&& y):=by
 have:jl .u32 (toI x) (toI y)=toI (x &&& y):=by
  show((BitVec.ofInt 32 (toI x) &&& BitVec.ofInt 32 (toI y)).toNat:Int)=_;have h1:=aaV x;have h2:=aaV y;unfold ofB at h1 h2;rw[h1,h2];rfl
 rw[this,anA]
theorem anX (x:B32) (k:Nat) (hk:k<=32):dn .u32 (toI x) (k:Int)=toI (x >>> k):=by
 unfold dn toI;have:min ((k:Int).toNat) (IntKind.bits .u32)=k:=by simp only[IntKind.bits,Int.toNat_natCast];omega
 rw[this,Int.fdiv_eq_ediv_of_nonneg _ (Int.le_of_lt (Int.pow_pos (by decide))),BitVec.toNat_ushiftRight,Nat.shiftRight_eq_div_pow];simp
theorem ahY {b:Int} (h1:0<=b) (h2:b<=255):wr .u32 b=toI (ofB b):=by
 rw[apq h1 (by omega),afD];omega
theorem apX (x:B32):(toI x%2=1)↔x.getLsbD 0=true:=by
 unfold toI;rw[BitVec.getLsbD,Nat.testBit_zero];simp only[decide_eq_true_eq];omega
theorem abL (x:B32):dI (toI x)=some (toI (hN 4 x)):=by
 refine Wq.eq ?_;unfold dI;refine Wq.bind (Q:=fun y=>y=toI (hN 4 x)) ?_ fun y hy=>(ah _).2 hy;refine gu (n:=4) (by decide) (fun i v=>v=toI (hN i x)) _ (fun i v hi hj=> ?_) (fun v hj=> ?_) _ 0 (by decide) rfl
 ·subst hj;simp only;unfold Ib;rw[au (DL (by omega))];have e1:(1:Int)=toI 1#32:=rfl;have e15:(3988292384:Int)=toI 3988292384#32:=rfl;have e2:dn .u32 (toI (hN i x)) 1=toI (hN i x >>> 1):=anX _ 1 (by decide);rw[e2,e15,VK];have hb:wr .u32 (jl .u32 (toI (hN i x)) 1)=toI (hN i x &&& 1#32):=by conv=>lhs;rw[e1,amh]
  rw[hb,af6 i 1];have hl:(ieq (toI (hN i x &&& 1#32)) 1=true)↔(hN i x).getLsbD 0=true:=by
   rw[aK,<-apX];unfold toI;have:(hN i x &&& 1#32).toNat=(hN i x).toNat%2:=by
    rw[BitVec.toNat_and];exact Nat.and_two_pow_sub_one_eq_mod _ 1
   rw[this];omega
  cases hc:ieq (toI (hN i x &&& 1#32)) 1 with
  |true=>
   rw[aP,ah];refine⟨bQ (by omega),?_⟩;show _=toI (hB (hN i x));unfold hB;rw[if_pos (hl.1 hc)]
  |false=>
   rw[aO,ah];refine⟨bQ (by omega),?_⟩;show _=toI (hB (hN i x));unfold hB;rw[if_neg (fun h=>by rw[hl.2 h]at hc;cases hc),BitVec.xor_zero]
 ·subst hj;simp only;unfold Ib;rw[bW (zQ (by omega)),ah]
def ones:B32:=BitVec.allOnes 32
def agn (n:B32) (l:List Int):B32:=l.foldl (fun n b=>hN 8 (n ^^^ ofB b)) n
def ajf (l:List Int):Int:=toI (ones ^^^ agn ones l)
theorem ahf (n:B32) (a b:List Int):agn n (a++b)=agn (agn n a) b:=List.foldl_append
theorem akB {l:List Int} (hl:l.length<999999) (hb:CZ l):Kr l=some (ajf l):=by
 refine Wq.eq ?_;unfold Kr Wj;have e0:(4294967295:Int)=toI ones:=rfl;have e00:(0:Int)=toI 0#32:=rfl;have e15:(15:Int)=toI 15#32:=rfl;refine Wq.bind (Q:=fun y=>y=ajf l) (Wq.bind (Q:=fun y=>y=toI (agn ones l)) ?_ fun y hy=> ?_) fun y hy=>(ah _).2 hy
 ·have hi0:wr .u32 (gQ .u32 4294967295 0)=toI ones:=by
   conv=>lhs;rw[e0,e00,VK]
   simp
  rw[hi0];refine gu hl (fun i v=>v=toI (agn ones (l.take i))) _ (fun i v hi hj=> ?_) (fun v hj=> ?_) _ 0 (Nat.zero_le _) rfl
  ·subst hj;simp only;unfold Ia;obtain⟨b1,b2⟩:=hb.get hi;have e4:∀x:B32,dn .u32 (toI x) 4=toI (x >>> 4):=fun x=>anX x 4 (by decide);rw[apW l hi,aS l i hi,ahY b1 b2,VK,e15,amh,abL,ai,e4,VK,arW,amh,abL,ai,e4,VK,arW,ah];refine⟨bQ (by omega),?_⟩;rw[List.take_succ_eq_append_getElem hi,ahf,<-af6]
   rfl
  ·subst hj;simp only;unfold Ia;rw[ams,ah,List.take_length]
 ·subst hy;rw[ah]
  conv=>lhs;rw[e0,VK]
  rfl
theorem alK {l:List Int} (hl:l.length<999999) (hb:CZ l):yD l=some (ajf l):=by
 refine Wq.eq ?_;unfold yD BM;have e0:(4294967295:Int)=toI ones:=rfl;have e00:(0:Int)=toI 0#32:=rfl;have e15:(3988292384:Int)=toI 3988292384#32:=rfl;refine Wq.bind (Q:=fun y=>y=ajf l) (Wq.bind (Q:=fun y=>y=toI (agn ones l)) ?_ fun y hy=> ?_) fun y hy=>(ah _).2 hy
 ·have hi0:wr .u32 (gQ .u32 0 4294967295)=toI ones:=by
   conv=>lhs;rw[e0,e00,VK]
   simp
  rw[hi0];refine gu hl (fun i v=>v=toI (agn ones (l.take i))) _ (fun i v hi hj=> ?_) (fun v hj=> ?_) _ 0 (Nat.zero_le _) rfl
  ·subst hj;simp only;unfold qR;obtain⟨b1,b2⟩:=hb.get hi;rw[apW l hi,aS l i hi,ahY b1 b2,VK];generalize hz:agn ones (l.take i) ^^^ ofB l[i]=z;refine Wq.bind (Q:=fun y=>y=toI (hN 8 z)) ?_ fun y hy=> ?_
   ·refine gu (n:=8) (by decide) (fun i v=>v=toI (hN i z)) _ (fun i v hi hj=> ?_) (fun v hj=> ?_) _ 0 (by decide) rfl
    ·subst hj;simp only;unfold pJ;rw[au (DL (by omega)),af6 i 1];have r0:=afI (hN i z);have q1:wr .u32 (QW (toI (hN i z)) 2)=toI (hN i z >>> 1):=by
      rw[<-anX _ 1 (by decide)];unfold QW dn;rw[Int.tdiv_eq_ediv_of_nonneg r0.1,afD,Int.fdiv_eq_ediv_of_nonneg _ (by decide)];show _=toI (hN i z) / 2^1;omega
     have hl:(ieq (Jl (toI (hN i z)) 2) 1=true)↔(hN i z).getLsbD 0=true:=by
      rw[aK,<-apX];unfold Jl;rw[Int.tmod_eq_emod_of_nonneg r0.1]
     rw[q1,e15,VK];cases hc:ieq (Jl (toI (hN i z)) 2) 1 with
     |true=>
      rw[aP,ah];refine⟨bQ (by omega),?_⟩;show _=toI (hB (hN i z));unfold hB;rw[if_pos (hl.1 hc)]
     |false=>
      rw[aO,ah];refine⟨bQ (by omega),?_⟩;show _=toI (hB (hN i z));unfold hB;rw[if_neg (fun h=>by rw[hl.2 h]at hc;cases hc),BitVec.xor_zero]
    ·subst hj;simp only;unfold pJ;rw[bW (zQ (by omega)),ah]
   ·subst hy;rw[ah];refine⟨bQ (by omega),?_⟩;rw[List.take_succ_eq_append_getElem hi,ahf,<-hz]
    rfl
  ·subst hj;simp only;unfold qR;rw[ams,ah,List.take_length]
 ·subst hy;rw[ah]
  conv=>lhs;rw[e0,VK,BitVec.xor_comm]
  rfl
def Yc (n:Int):List Int:=[n%256,n / 256%256,n / 65536%256,n / 16777216%256]
theorem aiH (n:Int):CZ (Yc n):=fun x hx=>by
 unfold Yc at hx;simp only[List.mem_cons,List.not_mem_nil,or_false]at hx;rcases hx with rfl | rfl | rfl | rfl<;>omega
def p8 (l:List Int):List Int:=l.flatMap fun n=>rH n 8
theorem flat_length {α β:Type} {f:α->List β} {m:Nat} (h:∀x,(f x).length=m):∀l:List α,(l.flatMap f).length=m*l.length
 |[]=>rfl
 |x::l=>by rw[List.flatMap_cons,List.length_append,h,flat_length h l,List.length_cons,Nat.mul_add,Nat.mul_one,Nat.add_comm]
theorem ai6 {n:Int} {i:Nat} (hi:i<4):ile 0 (wr .i64 (cO 8 (i:Int)))=true/\wr .u8 (dn .u32 n (wr .i64 (cO 8 (i:Int))))=n / 256^i%256:=by
 have h1:wr .i64 (cO 8 (i:Int))=((8*i:Nat):Int):=by
  unfold cO;rw[bV (by omega) (by omega)];omega
 have h2:min (((8*i:Nat):Int).toNat) (IntKind.bits .u32)=8*i:=by
  simp only[IntKind.bits,Int.toNat_natCast];omega
 rw[h1];refine⟨gV (by omega),?_⟩;unfold dn;rw[h2,Int.pow_mul,MV,Int.fdiv_eq_ediv_of_nonneg _ (Int.le_of_lt (Int.pow_pos (by decide)))]
 rfl
theorem abN (n:Int) {j:Nat} (hj:j<8):n%18446744073709551616 / 256^j%256=n / 256^j%256:=by
 have:j=0\/j=1\/j=2\/j=3\/j=4\/j=5\/j=6\/j=7:=by omega
 rcases this with rfl | rfl | rfl | rfl | rfl | rfl | rfl | rfl
 ·rw[show(256:Int)^0=1 by decide];omega
 ·rw[show(256:Int)^1=256 by decide];omega
 ·rw[show(256:Int)^2=65536 by decide];omega
 ·rw[show(256:Int)^3=16777216 by decide];omega
 ·rw[show(256:Int)^4=4294967296 by decide];omega
 ·rw[show(256:Int)^5=1099511627776 by decide];omega
 ·rw[show(256:Int)^6=281474976710656 by decide];omega
 ·rw[show(256:Int)^7=72057594037927936 by decide];omega
def b1 (n:Int):Prop:=0<=n/\n<=255
theorem anb {l:List Int} (h:okL ahj l):CZ l:=fun x hx=>h.1 x hx
def msgP (m:eU):Prop:=kF m.order/\(0<=m.account/\m.account<8)/\(0<=m.symbol/\m.symbol<8)/\(m.side=1\/m.side=2)/\(0<=m.lsn/\m.lsn<=1000000000)/\
 ((m.kind=1/\1<=m.qty/\1<=m.price/\m.version=0)\/(m.kind=2/\1<=m.qty/\1<=m.price/\1<=m.version)\/(m.kind=3/\m.qty=0/\m.price=0/\m.version=0))
instance (m:eU):Decidable (msgP m):=by unfold msgP kF;infer_instance
theorem arB (m:eU):Wq (lZ m) fun b=>b=true↔msgP m:=by
 unfold lZ msgP kF;simp only[iQ,dH,ah,aH,aJ,aW,bf,aG,aF,aZ,bg,aX,bF,aK,aN,bD,bH,true_implies,ne_eq,not_true_eq_false,false_implies,and_true,true_and,or_self,reduceCtorEq]
 grind
theorem ajW (m:eU):lZ m=some (decide (msgP m)):=(arB m).dec
theorem apT (m:eU):fQ m=some (decide (msgP m)):=by
 refine Wq.dec ?_;unfold fQ msgP kF;simp only[iQ,dH,ah,aH,aJ,aW,bf,aG,aF,aZ,bg,aX,bF,aK,aN,bD,bH,true_implies,ne_eq,not_true_eq_false,false_implies,and_true,true_and,or_self,reduceCtorEq]
 grind
def Hg:List eU->Int->Int->Prop
 |[],_,_=>True
 |m::r,a,z=>msgP m/\a<m.lsn/\m.lsn<=z/\Hg r m.lsn z
theorem ak2 {l:List eU} {i:Nat} (hi:i<l.length) {a z:Int}:Hg (l.drop i) a z↔msgP l[i]/\a<l[i].lsn/\l[i].lsn<=z/\Hg (l.drop (i+1)) l[i].lsn z:=by
 rw[List.drop_eq_getElem_cons hi];rfl
theorem amL (l:List eU) (a z:Int) (hl:l.length<999999):Wq (Fe l a z) fun b=>b=true↔Hg l a z:=by
 unfold Fe;refine Wq.bind (Q:=fun w:Bool ⊕ Bool=>match w with | .inl b=>b=false/\¬Hg l a z | .inr _=>Hg l a z)
  (gu (n:=l.length) (step:=fun v:Int×Bool×Int=>uI (len l) l z v.1 v.2.1 v.2.2) hl (fun i x=>Hg l a z↔Hg (l.drop i) x.2 z) _ ?_ ?_ _ 0 (Nat.zero_le _) (by simp)) ?_
 ·rintro i ⟨q,x⟩ hi hj;simp only at hj;simp only[uI];rw[au (by rw[cu];simpa using hi),au (inb l i hi),aS l i hi,ajW,ai,hj,ak2 hi];simp only[iQ,dH,ah,aH,aJ,aW,bf,aG,aF,aZ,bg,aX,bF,aK,aN,bD,bH,true_implies,ne_eq,not_true_eq_false,false_implies,and_true,true_and,or_self,reduceCtorEq];refine⟨fun h=> ?_,fun h=> ?_⟩
  ·rintro⟨h1,h2,h3,_⟩;rcases h with (h | h) | h
   ·simp [h1]at h
   ·omega
   ·omega
  ·refine⟨bQ (by omega),?_⟩;have h1:msgP l[i]:=by simpa using h.1.1
   exact⟨fun h=>h.2.2.2,fun g=>⟨h1,by omega,by omega,g⟩⟩
 ·rintro⟨q,x⟩ hj;simp only at hj;simp only[uI];rw[bW (by rw[show((l.length:Nat):Int)=len l from rfl];simp [ilt]),ah];show Hg l a z;rw[hj,List.drop_length];trivial
 ·intro w hw
  match w,hw with
  |.inl b,h=>simp only[dJ,ah];simp [h.1,h.2]
  |.inr _,h=>simp only[dJ,ah];simpa using h
def Po:List uX->Int->Int->Prop
 |[],_,_=>True
 |n::r,a,x=>a<n.seq/\n.seq<=x+8/\Po r n.seq x
theorem acB {l:List uX} {i:Nat} (hi:i<l.length) {a z:Int}:Po (l.drop i) a z↔a<l[i].seq/\l[i].seq<=z+8/\Po (l.drop (i+1)) l[i].seq z:=by
 rw[List.drop_eq_getElem_cons hi];rfl
def XT (f:xG) (x:Int):Prop:=1<=x/\x<=1000000001/\f.held.length<=8/\Po f.held x x
theorem afx (f:xG) (x:Int):Wq (JR f x) fun b=>b=true↔XT f x:=by
 unfold JR XT;rw[dH];refine⟨fun h=>(ah _).2 ?_,fun h=> ?_⟩
 ·simp only[aH,aJ,aW,bf,aG,aF,aZ,bg,aX,bF,aK,aN,bD,bH,len]at h;constructor
  ·intro g;cases g
  ·intro g;omega
 simp only[aH,aJ,aW,bf,aG,aF,aZ,bg,aX,bF,aK,aN,bD,bH,len]at h;have hl:f.held.length<=8:=by omega
 have hwr:wr .i64 (aB x 8)=x+8:=bV (by simp only[aB];omega) (by simp only[aB];omega);refine Wq.bind (Q:=fun w:Bool ⊕ Bool=>match w with | .inl b=>b=false/\¬Po f.held x x | .inr _=>Po f.held x x)
  (gu (n:=f.held.length) (step:=fun v:Int×Int×Bool=>xC (len f.held) f.held x v.1 v.2.1 v.2.2) (by omega) (fun i y=>Po f.held x x↔Po (f.held.drop i) y.1 x) _ ?_ ?_ _ 0 (Nat.zero_le _) (by simp)) ?_
 ·rintro i ⟨y,q⟩ hi hj;simp only at hj;simp only[xC];rw[au (by rw[cu];simpa using hi),au (inb f.held i hi),aS f.held i hi,hj,acB hi,hwr];simp only[iQ,dH,ah,aH,aJ,aW,bf,aG,aF,aZ,bg,aX,bF,aK,aN,bD,bH,true_implies,ne_eq,not_true_eq_false,false_implies,and_true,true_and,or_self,reduceCtorEq];refine⟨fun h=> ?_,fun h=> ?_⟩
  ·rintro⟨h1,h2,_⟩;omega
  ·exact⟨bQ (by omega),fun h=>h.2.2,fun g=>⟨by omega,by omega,g⟩⟩
 ·rintro⟨y,q⟩ hj;simp only at hj;simp only[xC];rw[bW (by rw[show((f.held.length:Nat):Int)=len f.held from rfl];simp [ilt]),ah];show Po f.held x x;rw[hj,List.drop_length];trivial
 ·intro w hw
  match w,hw with
  |.inl b,h=>simp only[dJ,ah];simp [h.1,h.2]
  |.inr _,h=>
   simp only[dJ,ah];simp only[true_iff];exact⟨by omega,by omega,hl,h⟩
theorem acF {s t:ay} {a y:Int} (h:(SI s t a y).2=0):(SI s t a y).1.orders=t.orders:=by
 unfold SI at h ⊢;by_cases h1:WA t
 ·rw[if_neg (fun g=>g h1)]at h ⊢;by_cases h2:KQ s t a y
  ·rw[if_pos h2]at h;simp at h
  ·rw[if_neg h2]
 ·rw[if_pos h1]at h;simp at h
theorem amd {s:ay} {r:dB} (h0:(doS s r).2=0) (hk:r.kind=1\/r.kind=2\/r.kind=3):
 ∃o∈(doS s r).1.orders,o.id=r.order/\(r.kind=2->1<=o.newQty/\1<=o.newPrice/\1<=o.version):=by
 have hm:=((ZX s r).good h0).1
 have hrec:=hm.2.1
 have hords:=hm.1.fine.ords
 unfold doS at h0 ⊢
 rw[if_neg (fun g=>g hm)]at h0 ⊢
 rcases hk with hk | hk | hk
 ·rw[if_pos hk]at h0 ⊢
  by_cases h1:s.kill=true
  ·rw[if_pos h1]at h0;simp at h0
  rw[if_neg h1]at h0 ⊢
  by_cases h2:s.orders.length=64
  ·rw[if_pos h2]at h0;simp at h0
  rw[if_neg h2]at h0 ⊢
  rw[acF h0]
  exact⟨fK r,by simp [aQ],rfl,fun h=>by omega⟩
 ·rw[if_neg (by omega),if_pos hk]at h0 ⊢
  cases hf:wE s.orders r.order with
  |none=>rw[hf]at h0;simp at h0
  |some k=>
   rw[hf]at h0
   simp only at h0 ⊢
   obtain⟨hkl,hid⟩:=lu hf
   have hg:aj s.orders k=s.orders[k]:=by simp [aj,hkl]
   by_cases h1:sW (aj s.orders k)
   ·rw[if_neg (fun g=>g h1)]at h0 ⊢
    by_cases h2:s.kill=true
    ·rw[if_pos h2]at h0;simp at h0
    rw[if_neg h2]at h0 ⊢
    rw[acF h0]
    refine⟨oI (aj s.orders k) r.qty r.price,?_,?_,fun _=> ?_⟩
    ·show _∈dN s.orders k _
     exact List.mem_set hkl _
    ·rw[hg];exact hid
    ·have hv:=(hords s.orders[k] (List.getElem_mem hkl)).1.2.2.2.1
     rw[hg]
     unfold nI at hrec
     refine⟨?_,?_,?_⟩
     ·show 1<=r.qty;omega
     ·show 1<=r.price;omega
     ·show 1<=s.orders[k].version+1;omega
   ·rw[if_pos h1]at h0;simp at h0
 ·rw[if_neg (by omega),if_neg (by omega),if_pos hk]at h0 ⊢
  cases hf:wE s.orders r.order with
  |none=>rw[hf]at h0;simp at h0
  |some k=>
   rw[hf]at h0
   simp only at h0 ⊢
   obtain⟨hkl,hid⟩:=lu hf
   have hg:aj s.orders k=s.orders[k]:=by simp [aj,hkl]
   by_cases h1:(aj s.orders k).asked=true
   ·rw[if_pos h1]at h0;simp at h0
   rw[if_neg h1]
   refine⟨ak0 (aj s.orders k),?_,?_,fun h=>by omega⟩
   ·show _∈dN s.orders k _
    exact List.mem_set hkl _
   ·rw[hg];exact hid
theorem ars {o:ax} (ho:sO o) {k z:Int} (hk:k=1\/k=2\/k=3) (h2:k=2->1<=o.newQty/\1<=o.newPrice/\1<=o.version) (hz:0<=z/\z<=1000000000):Wq (iM k o z) fun m=>msgP m/\m.lsn=z:=by
 obtain⟨b1,b2,b3,b4,b5,b6⟩:=ho.1;unfold iM;rw[dQ,dQ,kZ,decide_eq_true ho];simp only[ai,aI,aU,aP,ajW];rcases hk with rfl | rfl | rfl
 ·have hm:msgP (eU.mk 1 o.id o.account o.symbol o.side o.qty o.price 0 z):=⟨b1,b2,b3,b4,hz,.inl ⟨rfl,b5,b6,rfl⟩⟩;rw[if_pos rfl,decide_eq_true hm];exact(ah _).2 ⟨hm,rfl⟩
 ·obtain⟨c1,c2,c3⟩:=h2 rfl;have hm:msgP (eU.mk 2 o.id o.account o.symbol o.side o.newQty o.newPrice o.version z):=⟨b1,b2,b3,b4,hz,.inr (.inl ⟨rfl,c1,c2,c3⟩)⟩;rw[if_neg (by decide),if_pos rfl,decide_eq_true hm];exact(ah _).2 ⟨hm,rfl⟩
 ·have hm:msgP (eU.mk 3 o.id o.account o.symbol o.side 0 0 0 z):=⟨b1,b2,b3,b4,hz,.inr (.inr ⟨rfl,rfl,rfl,rfl⟩)⟩;rw[if_neg (by decide),if_neg (by decide),decide_eq_true hm];exact(ah _).2 ⟨hm,rfl⟩
theorem agK:∀ {l:List eU} {a z y:Int} {m:eU},Hg l a z->a<=z->msgP m->z<m.lsn->m.lsn<=y->Hg (l++[m]) a y
 |[],a,z,y,m,_,ha,hm,h1,h2=>⟨hm,by omega,h2,trivial⟩
 |n::r,a,z,y,m,h,_,hm,h1,h2=>⟨h.1,h.2.1,by have:=h.2.2.1;omega,agK h.2.2.2 h.2.2.1 hm h1 h2⟩
def chn:List eU->Option Int->Prop
 |[],_=>True
 |m::r,o=>msgP m/\(∀q,o=some q->q<m.lsn)/\chn r (some m.lsn)
theorem afT:∀(l:List eU) (a z:Int),Hg l a z↔chn l (some a)/\(∀m,l.getLast?=some m->m.lsn<=z)
 |[],a,z=>by simp [Hg,chn]
 |[m],a,z=>by simp [Hg,chn];grind
 |m::n::r,a,z=>by
  have ih:=afT (n::r) m.lsn z
  rw[show Hg (m::n::r) a z↔msgP m/\a<m.lsn/\m.lsn<=z/\Hg (n::r) m.lsn z from Iff.rfl,ih,
   show chn (m::n::r) (some a)↔msgP m/\(∀q,some a=some q->q<m.lsn)/\chn (n::r) (some m.lsn)from Iff.rfl,List.getLast?_cons_cons]
  constructor
  ·rintro⟨h1,h2,h3,h4,h5⟩
   exact⟨⟨h1,fun q hq=>by cases hq;exact h2,h4⟩,h5⟩
  ·rintro⟨⟨h1,h2,h4⟩,h5⟩
   have ho:=ih.2 ⟨h4,h5⟩
   have:m.lsn<n.lsn/\n.lsn<=z:=⟨ho.2.1,ho.2.2.1⟩
   exact⟨h1,h2 a rfl,by omega,h4,h5⟩
theorem ahg {l:List eU} {a:Int}:chn l (some a)↔chn l none/\(∀h:0<l.length,a<l[0].lsn):=by
 cases l with
 |nil=>simp [chn]
 |cons m r=>
  simp only[chn];constructor
  ·rintro⟨h1,h2,h3⟩;exact⟨⟨h1,(fun q hq=>(by cases hq)),h3⟩,fun _=>h2 a rfl⟩
  ·rintro⟨⟨h1,_,h3⟩,h2⟩;exact⟨h1,(fun q hq=>(by cases hq;exact h2 (by simp))),h3⟩
def pv (l:List eU):Nat->Option Int
 |0=>none
 |j+1=>(l[j]?).map (·.lsn)
theorem amx (l:List eU) (a z:Int) (hl:l.length<999999):Wq (uM l a z) fun b=>b=true↔Hg l a z:=by
 unfold uM;refine Wq.bind (Q:=fun w:Bool ⊕ Bool=>match w with | .inl b=>b=false/\¬chn l none | .inr _=>chn l none)
  (gu (n:=l.length) (step:=fun v:Int×Bool=>lQ l v.1 v.2) hl (fun i x=>chn l none↔chn (l.drop i) (pv l i)) _ ?_ ?_ _ 0 (Nat.zero_le _) (by simp [pv])) ?_
 ·rintro i q hi hj;have hj2:chn l none↔msgP l[i]/\(∀q,pv l i=some q->q<l[i].lsn)/\chn (l.drop (i+1)) (pv l (i+1)):=by
   rw[hj,List.drop_eq_getElem_cons hi];simp only[chn,pv,List.getElem?_eq_getElem hi,Option.map_some]
  have hw:0<i->wr .i64 (aV (i:Int) 1)=((i - 1:Nat):Int):=fun h=>by
   rw[bV (by simp only[aV];omega) (by simp only[aV];omega)];simp only[aV];omega
  have hp:0<i->pv l i=some (l[i - 1]'(by omega)).lsn:=fun h=>by
   obtain⟨j,rfl⟩:∃j,i=j+1:=⟨i - 1,by omega⟩;simp [pv,List.getElem?_eq_getElem (show j<l.length by omega)]
  simp only[lQ];have c1:band (ile 0 (i:Int)) (ilt (i:Int) (len l))=true:=inb l i hi;rw[au (by rw[cu];simpa using hi),au c1,aS l i hi,apT,ai,au (by rw[aW];exact .inl c1)];by_cases h0:0<i
  ·have c2:band (ile 0 ((i - 1:Nat):Int)) (ilt ((i - 1:Nat):Int) (len l))=true:=inb l (i - 1) (by omega);rw[hw h0,au (by rw[aW];exact .inl c2),aS l (i - 1) (by omega)];simp only[iQ,dH,ah,aH,aJ,aW,bf,aG,aF,aZ,bg,aX,bF,aK,aN,bD,bH,true_implies,ne_eq,not_true_eq_false,false_implies,and_true,true_and,or_self,reduceCtorEq];rw[hj2,hp h0];refine⟨fun h=> ?_,fun h=>⟨bQ (by omega),?_⟩⟩
   ·rintro⟨g1,g2,_⟩;have:=g2 _ rfl;rcases h with h | h
    ·simp [g1]at h
    ·omega
   ·have g1:msgP l[i]:=by simpa using h.1
    refine⟨fun g=>g.2.2,fun g=>⟨g1,fun q hq=> ?_,g⟩⟩;cases hq;rcases h.2 with h2 | h2<;>omega
  ·have hz:i=0:=by omega
   subst hz;rw[au (by simp [bor,band,ak,ilt])];simp only[iQ,dH,ah,aH,aJ,aW,bf,aG,aF,aZ,bg,aX,bF,aK,aN,bD,bH,true_implies,ne_eq,not_true_eq_false,false_implies,and_true,true_and,or_self,reduceCtorEq];rw[hj2];refine⟨fun h=> ?_,fun h=>⟨bQ (by omega),?_⟩⟩
   ·rintro⟨g1,_,_⟩;rcases h with h | h
    ·simp [g1]at h
    ·omega
   ·have g1:msgP l[0]:=by simpa using h.1
    exact⟨fun g=>g.2.2,fun g=>⟨g1,fun q hq=>by simp [pv]at hq,g⟩⟩
 ·rintro q hj;simp only[lQ];rw[bW (by rw[show((l.length:Nat):Int)=len l from rfl];simp [ilt]),ah];rw[List.drop_length]at hj;exact hj.2 trivial
 ·intro w hw
  match w,hw with
  |.inl b,h=>
   simp only[dJ,ah];rw[h.1,afT,ahg];simp [h.2]
  |.inr _,h=>
   simp only[dJ];cases l with
   |nil=>exact(ah _).2 (by simp [Hg,bor,ieq,len])
   |cons m r=>
    have hlen:(wr .i64 (aV (len (m::r)) 1))=((r.length:Nat):Int):=by
     rw[bV (by simp only[aV,len,List.length_cons];omega) (by simp only[aV,len];omega)];simp [aV,len]
    have c2:band (ile 0 ((r.length:Nat):Int)) (ilt ((r.length:Nat):Int) (len (m::r)))=true:=inb (m::r) r.length (by simp);rw[au (by rw[aW,aZ];left;simp only[len,List.length_cons];omega),hlen,au (by rw[aW];exact .inl c2),ah,afT,ahg,aS (m::r) r.length (by simp)];have hg:(m::r).getLast?=some ((m::r)[r.length]'(by simp)):=by rw[List.getLast?_eq_getElem?];simp
    rw[hg];have hm0:aj (m::r) 0=m:=by simp [aj]
    rw[hm0];simp only[aH,aJ,aW,bf,aG,aF,aZ,bg,aX,bF,aK,aN,bD,bH,len];constructor
    ·rintro(g | ⟨g1,g2⟩)
     ·simp at g;omega
     ·exact⟨⟨h,fun _=>g1⟩,fun x hx=>by cases hx;exact g2⟩
    ·rintro⟨⟨_,g1⟩,g2⟩;exact .inr ⟨g1 (by simp),g2 _ rfl⟩
def pvs (l:List uX) (x:Int):Nat->Int
 |0=>x
 |j+1=>match l[j]? with | some n=>n.seq | none=>x
theorem agc (f:xG) (x:Int) (hok:∀n∈f.held,inI n.seq):Wq (uK f x) fun b=>b=true↔XT f x:=by
 unfold uK XT;rw[dH];refine⟨fun h=>(ah _).2 ?_,fun h=> ?_⟩
 ·simp only[aH,aJ,aW,bf,aG,aF,aZ,bg,aX,bF,aK,aN,bD,bH,len]at h;constructor
  ·intro g;cases g
  ·intro g;omega
 simp only[aH,aJ,aW,bf,aG,aF,aZ,bg,aX,bF,aK,aN,bD,bH,len]at h;have hl:f.held.length<=8:=by omega
 refine Wq.bind (Q:=fun w:Bool ⊕ Bool=>match w with | .inl b=>b=false/\¬Po f.held x x | .inr _=>Po f.held x x)
  (gu (n:=f.held.length) (step:=fun v:Int×Bool=>mO x f v.1 v.2) (by omega) (fun i y=>(Po f.held x x↔Po (f.held.drop i) (pvs f.held x i) x)/\x<=pvs f.held x i) _ ?_ ?_ _ 0 (Nat.zero_le _) (by simp [pvs])) ?_
 ·rintro i q hi ⟨hj,hx⟩;have hs:=hok _ (List.getElem_mem hi);rw[acB hi]at hj;have hnext:pvs f.held x (i+1)=f.held[i].seq:=by simp [pvs,List.getElem?_eq_getElem hi]
  have hp:0<i->∃h:i - 1<f.held.length,pvs f.held x i=f.held[i - 1].seq:=fun h=>by
   obtain⟨j,rfl⟩:∃j,i=j+1:=⟨i - 1,by omega⟩;exact⟨by omega,by simp [pvs,List.getElem?_eq_getElem (show j<f.held.length by omega)]⟩
  have hw:0<i->wr .i64 (aV (i:Int) 1)=((i - 1:Nat):Int):=fun h=>by
   rw[bV (by simp only[aV];omega) (by simp only[aV];omega)];simp only[aV];omega
  have hw8:x<f.held[i].seq->wr .i64 (aV f.held[i].seq 8)=f.held[i].seq - 8:=fun h=>ng ⟨by simp only[aV];have:=hs.1;omega,by simp only[aV];have:=hs.2;omega⟩;have c1:=inb f.held i hi;simp only[mO];rw[au (by rw[cu];simpa using hi),au c1,aS f.held i hi];by_cases h0:0<i
  ·obtain⟨h1,h2⟩:=hp h0;rw[hw h0,au (by rw[aW];exact .inl (inb f.held (i - 1) h1)),aS f.held (i - 1) h1,hj,hnext,h2];rw[h2]at hx;by_cases hxs:x<f.held[i].seq
   ·rw[hw8 hxs];simp only[iQ,dH,ah,aH,aJ,aW,bf,aG,aF,aZ,bg,aX,bF,aK,aN,bD,bH,true_implies,ne_eq,not_true_eq_false,false_implies,and_true,true_and,or_self,reduceCtorEq];refine⟨fun h=> ?_,fun h=>⟨bQ (by omega),⟨fun g=>g.2.2,fun g=>⟨by omega,by omega,g⟩⟩,by omega⟩⟩;rintro⟨g1,g2,_⟩;omega
   ·simp only[iQ,dH,ah,aH,aJ,aW,bf,aG,aF,aZ,bg,aX,bF,aK,aN,bD,bH,true_implies,ne_eq,not_true_eq_false,false_implies,and_true,true_and,or_self,reduceCtorEq];refine⟨fun h=> ?_,fun h=>by omega⟩;rintro⟨g1,g2,_⟩;omega
  ·have hz:i=0:=by omega
   subst hz;rw[au (by simp [bor,band,ak,ilt]),hj,hnext];by_cases hxs:x<f.held[0].seq
   ·rw[hw8 hxs];simp only[iQ,dH,ah,aH,aJ,aW,bf,aG,aF,aZ,bg,aX,bF,aK,aN,bD,bH,true_implies,ne_eq,not_true_eq_false,false_implies,and_true,true_and,or_self,reduceCtorEq];refine⟨fun h=> ?_,fun h=>⟨bQ (by omega),⟨fun g=>g.2.2,fun g=>⟨hxs,by omega,g⟩⟩,by omega⟩⟩;rintro⟨g1,g2,_⟩;omega
   ·simp only[iQ,dH,ah,aH,aJ,aW,bf,aG,aF,aZ,bg,aX,bF,aK,aN,bD,bH,true_implies,ne_eq,not_true_eq_false,false_implies,and_true,true_and,or_self,reduceCtorEq];refine⟨fun h=> ?_,fun h=>by omega⟩;rintro⟨g1,g2,_⟩;have:pvs f.held x 0=x:=rfl;omega
 ·rintro q ⟨hj,_⟩;simp only[mO];rw[bW (by rw[show((f.held.length:Nat):Int)=len f.held from rfl];simp [ilt]),ah];rw[List.drop_length]at hj;exact hj.2 trivial
 ·intro w hw
  match w,hw with
  |.inl b,h=>simp only[dJ,ah];simp [h.1,h.2]
  |.inr _,h=>
   simp only[dJ,ah];simp only[true_iff];exact⟨by omega,by omega,hl,h⟩
theorem ar7 (k:Int) (o:ax) (z:Int):zO k o z=iM k o z:=by
 unfold zO iM;simp only[dQ,vT,kZ,ai,apT,ajW];by_cases h1:k=1<;>by_cases h2:k=2<;>simp only[h1,h2,if_true,if_false]<;>(try omega)<;>
  by_cases h3:sO o<;>simp [h3,cnd,ak,band,bor,ai]<;>split<;>simp_all
theorem Zi (l:List eU) (hl:l.length<999999):jq l l=some true:=by
 refine Wq.eq ?_;unfold jq;rw[bW (by rw[aF,aK])];refine Wq.bind (WY (l:=l) (m:=l) rfl hl (step:=fun v:Int×Bool=>jw l l v.1 v.2) (fun i h hh q=> ?_) (fun q=> ?_) _) fun w hw=> ?_
 ·simp only[jw];rw[au (by rw[cu];simpa using h),au (inb _ i h),au (inb _ i hh),aS _ i h,bW (by simp [ak,band,ieq]),ah,bQ (by omega)];exact⟨fun _=>rfl,fun g=>absurd rfl g⟩
 ·simp only[jw];rw[bW (by rw[show((l.length:Nat):Int)=len l from rfl];simp [ilt])]
 ·match w,hw with
  |.inl b,h=>exact absurd rfl h.2
  |.inr _,_=>simp only[dJ,ah]
theorem alc (f:xG) (hl:f.held.length<999999):wL f f=some true:=by
 refine Wq.eq ?_;unfold wL;rw[bW (by rw[bf,aF,aF,aK,bD];exact⟨rfl,rfl⟩)];refine Wq.bind (WY (l:=f.held) (m:=f.held) rfl hl (step:=fun v:Int×Bool=>nV f f v.1 v.2) (fun i h hh q=> ?_) (fun q=> ?_) _) fun w hw=> ?_
 ·simp only[nV];rw[au (by rw[cu];simpa using h),au (inb _ i h),au (inb _ i hh),aS _ i h,bW (by simp [ak,band,ieq]),ah,bQ (by omega)];exact⟨fun _=>rfl,fun g=>absurd rfl g⟩
 ·simp only[nV];rw[bW (by rw[show((f.held.length:Nat):Int)=len f.held from rfl];simp [ilt])]
 ·match w,hw with
  |.inl b,h=>exact absurd rfl h.2
  |.inr _,_=>simp only[dJ,ah]
theorem ark (k:Int) (o:ax) (z:Int):∃m,iM k o z=some m:=by
 unfold iM;simp only[dQ,kZ,ai,ajW];by_cases h1:k=1<;>by_cases h2:k=2<;>simp only[h1,h2,if_true,if_false]<;>
  by_cases h3:sO o<;>simp [h3,cnd,ak,band,bor,ai]<;>split<;>exact⟨_,rfl⟩
def PX (c:UInt8):Prop:=(97<=c.toNat/\c.toNat<=122)\/(48<=c.toNat/\c.toNat<=57)\/c.toNat=46
instance (c:UInt8):Decidable (PX c):=by unfold PX;infer_instance
def qI (s:List UInt8):Prop:=(∀c∈s,PX c)/\1<=s.length/\s.length<=16
instance (s:List UInt8):Decidable (qI s):=by unfold qI;infer_instance
theorem U2:∀(x y:List UInt8),slt x y=decide (x<y)
 |[],[]=>by simp [slt,Op.bytesLess]
 |_::_,[]=>by simp [slt,Op.bytesLess]
 |[],_::_=>by simp [slt,Op.bytesLess]
 |a::x,b::y=>by
  have ih:=U2 x y
  unfold slt at*
  rw[Op.bytesLess,ih]
  simp only[List.cons_lt_cons_iff]
  by_cases h1:a<b<;>by_cases h2:a=b<;>by_cases h3:x<y<;>simp [h1,h2,h3]
theorem U8 (a:List UInt8):¬a<a:=List.lt_irrefl a
theorem YX {a b c:List UInt8} (h:a<b) (k:b<c):a<c:=List.lt_trans h k
theorem ajD (a b:List UInt8):a<b\/a=b\/b<a:=by
 by_cases h:a<b
 ·exact .inl h
 ·by_cases k:b<a
  ·exact .inr (.inr k)
  ·exact .inr (.inl (List.le_antisymm (List.not_lt.1 k) (List.not_lt.1 h)))
theorem anD {n:Nat} (hn:n<999999) {step:Int×Bool->Option ((Int×Bool) ⊕ (Bool ⊕ Bool))} (P:Nat->Prop)
 (h:∀(i:Nat) (q:Bool),i<n->(∀j,j<i->P j)->Wq (step ((i:Int),q)) fun r=>match r with | .inl (k,_)=>k=((i+1:Nat):Int)/\P i | .inr (.inl b)=>b=false/\¬P i | .inr (.inr _)=>False)
 (he:∀q:Bool,Wq (step ((n:Int),q)) fun r=>match r with | .inr (.inr _)=>True | _=>False) (q0:Bool):
 Wq (bZ step LF ((0:Int),q0)) fun w=>match w with | .inl b=>b=false/\¬∀i,i<n->P i | .inr _=>∀i,i<n->P i:=by
 refine gu (n:=n) hn (fun i _=>∀j,j<i->P j) _ (fun i q hi hj=>(h i q hi hj).mono fun r hr=> ?_) (fun q hj=>(he q).mono fun r hr=> ?_) q0 0 (Nat.zero_le _) (fun j hj=>by omega)
 ·match r,hr with
  |.inl (k,_),hr=>
   refine⟨hr.1,fun j hj2=> ?_⟩
   by_cases e:j=i
   ·subst e;exact hr.2
   ·exact hj j (by omega)
  |.inr (.inl b),hr=>exact⟨hr.1,fun g=>hr.2 (g i hi)⟩
  |.inr (.inr _),hr=>exact hr.elim
 ·match r,hr with
  |.inl _,hr=>exact hr.elim
  |.inr (.inl b),hr=>exact hr.elim
  |.inr (.inr _),_=>exact hj
theorem acw (l:List UInt8) (i:Nat) (h:i<l.length):Vu l (itn (i:Int))=(l[i].toNat:Int):=by
 simp [Vu,itn,h]
theorem BK {α:Type} (l:List α):ilt ((l.length:Nat):Int) (len l)=false:=by
 rw[show((l.length:Nat):Int)=len l from rfl];simp [ilt]
theorem aqy (c:UInt8):NJ (c.toNat:Int)=some (decide (PX c)):=by
 refine Wq.dec ?_;unfold NJ PX;rw[ah];simp only[aH,aJ,aW,bf,aG,aF,aZ,bg,aX,bF,aK,aN,bD,bH];omega
theorem U6 {s:List UInt8}:(∀i,i<s.length->∀h:i<s.length,PX s[i])↔∀c∈s,PX c:=by
 constructor
 ·intro h c hc;obtain⟨i,hi,rfl⟩:=List.mem_iff_getElem.1 hc;exact h i hi hi
 ·intro h i hi h2;exact h _ (List.getElem_mem h2)
theorem ako {s:List UInt8} (hs:s.length<999999):EO s=some (decide (qI s)):=by
 refine Wq.dec ?_;unfold EO;refine Wq.bind (anD (n:=s.length) (step:=fun v:Int×Bool=>yV (len s) s v.1 v.2) hs (fun i=>∀h:i<s.length,PX s[i]) (fun i q hi hj=> ?_) (fun q=> ?_) false) fun w hw=> ?_
 ·simp only[yV];rw[au (by rw[cu];simpa using hi),au (inb s i hi),acw s i hi,aqy,ai,dP,uH];split
  ·rename_i h;rw[ah];exact⟨bQ (by omega),fun _=>h⟩
  ·rename_i h;rw[ah];exact⟨rfl,fun g=>h (g hi)⟩
 ·simp only[yV];rw[bW (BK s),ah];trivial
 ·unfold qI
  match w,hw with
  |.inl b,hw=>
   simp only[dJ,ah];rw[hw.1];constructor
   ·intro g;cases g
   ·intro g;exact absurd (U6.2 g.1) hw.2
  |.inr q,hw=>
   simp only[dJ,ah,aH,aJ,aW,bf,aG,aF,aZ,bg,aX,bF,aK,aN,bD,bH,len];have:=U6.1 hw;constructor
   ·intro g;exact⟨this,by omega,by omega⟩
   ·intro g;omega
theorem agp {s:List UInt8} (hs:s.length<999999):mF s=some (decide (qI s)):=by
 refine Wq.dec ?_;unfold mF;refine Wq.bind (anD (n:=s.length) (step:=fun v:Int×Bool=>lI s v.1 v.2) hs (fun i=>∀h:i<s.length,PX s[i]) (fun i q hi hj=> ?_) (fun q=> ?_) false) fun w hw=> ?_
 ·simp only[lI];rw[au (by rw[cu];simpa using hi),au (inb s i hi),acw s i hi,bQ (by omega)];simp only[iQ,dH,ah,aH,aJ,aW,bf,aG,aF,aZ,bg,aX,bF,aK,aN,bD,bH,true_implies,ne_eq,not_true_eq_false,false_implies,and_true,true_and,or_self,reduceCtorEq];refine⟨fun h=>fun g=> ?_,fun h=>fun _=> ?_⟩
  ·have:=g hi;unfold PX at this;omega
  ·unfold PX;omega
 ·simp only[lI];rw[bW (BK s),ah];trivial
 ·unfold qI
  match w,hw with
  |.inl b,hw=>
   simp only[dJ,ah];rw[hw.1];constructor
   ·intro g;cases g
   ·intro g;exact absurd (U6.2 g.1) hw.2
  |.inr q,hw=>
   simp only[dJ,ah,aH,aJ,aW,bf,aG,aF,aZ,bg,aX,bF,aK,aN,bD,bH,len];have:=U6.1 hw;constructor
   ·intro g;exact⟨this,by omega,by omega⟩
   ·intro g;omega
def okF (f:bn):Prop:=qI f.name/\0<=f.sure/\f.sure<=len f.data
instance (f:bn):Decidable (okF f):=by unfold okF;infer_instance
def iK (l:List bn):Nat:=(l.map (·.data.length)).sum
def OI (l:List bn):Prop:=l.Pairwise fun f g=>f.name<g.name
instance (l:List bn):Decidable (OI l):=by unfold OI;infer_instance
def yZ (l:List bn):Prop:=(∀f∈l,okF f)/\OI l
instance (l:List bn):Decidable (yZ l):=by unfold yZ;infer_instance
def iC (d:aC):Prop:=(0<=d.room/\d.room<=65536/\ -1<=d.fuse/\d.files.length<=64)/\yZ d.files/\(iK d.files:Int)<=d.room
instance (d:aC):Decidable (iC d):=by unfold iC;infer_instance
def nameB (d:aC):Prop:=∀f∈d.files,f.name.length<999999
theorem iR {α:Type} {l:List α} {i:Nat} (h:i<l.length):l.take (i+1)=l.take i++[l[i]]:=by simp
theorem uO (a b:List bn):iK (a++b)=iK a+iK b:=by simp [iK]
theorem QK (f:bn) (l:List bn):iK (f::l)=f.data.length+iK l:=by simp [iK]
theorem Du {l:List bn} {i:Nat} (h:i<l.length):iK (l.take (i+1))=iK (l.take i)+l[i].data.length:=by
 rw[iR h,uO];simp [iK]
theorem Kz (l:List bn) (i:Nat):iK (l.take i)<=iK l:=by
 have:=uO (l.take i) (l.drop i);rw[List.take_append_drop]at this;omega
theorem yT (a b:List bn):yZ (a++b)↔yZ a/\yZ b/\∀f∈a,∀g∈b,f.name<g.name:=by
 unfold yZ OI;rw[List.pairwise_append];constructor
 ·rintro⟨h1,h2,h3,h4⟩;exact⟨⟨fun f hf=>h1 f (List.mem_append_left _ hf),h2⟩,⟨fun f hf=>h1 f (List.mem_append_right _ hf),h3⟩,h4⟩
 ·rintro⟨⟨h1,h2⟩,⟨h3,h4⟩,h5⟩;exact⟨fun f hf=>(List.mem_append.1 hf).elim (h1 f) (h3 f),h2,h4,h5⟩
theorem adV (f:bn):yZ [f]↔okF f:=by simp [yZ,OI]
theorem abW {l:List bn} {i:Nat} (h:i<l.length):yZ (l.take (i+1))↔yZ (l.take i)/\okF l[i]/\(0<i->∀g:i - 1<l.length,l[i - 1].name<l[i].name):=by
 rw[iR h,yT,adV];constructor
 ·rintro⟨h1,h2,h3⟩;exact⟨h1,h2,fun hi g=>h3 _ (by rw[List.mem_iff_getElem];exact⟨i - 1,by rw[List.length_take];omega,by simp⟩) _ (List.mem_singleton.2 rfl)⟩
 ·rintro⟨h1,h2,h3⟩;refine⟨h1,h2,fun f hf g hg=> ?_⟩;rw[List.mem_singleton.1 hg];obtain⟨j,hj,rfl⟩:=List.mem_iff_getElem.1 hf;rw[List.length_take]at hj;rw[List.getElem_take];have h4:=h3 (by omega) (by omega);by_cases e:j=i - 1
  ·subst e;exact h4
  ·have:=List.pairwise_iff_getElem.1 h1.2 j (i - 1) (by rw[List.length_take];omega) (by rw[List.length_take];omega) (by omega);rw[List.getElem_take,List.getElem_take]at this;exact YX this h4
theorem ad7 {l:List bn} (h:yZ l) (i:Nat):yZ (l.take i):=by
 have:=(yT (l.take i) (l.drop i)).1 (by rw[List.take_append_drop];exact h);exact this.1
theorem JU {d:aC} (hn:nameB d):pO d=some (decide (iC d)):=by
 refine Wq.dec ?_;unfold pO;rw[dH];refine⟨fun h=>(ah _).2 ?_,fun h=> ?_⟩
 ·simp only[aH,aJ,aW,bf,aG,aF,aZ,bg,aX,bF,aK,aN,bD,bH,len]at h;unfold iC;constructor
  ·intro g;cases g
  ·rintro⟨g, -⟩;omega
 simp only[aH,aJ,aW,bf,aG,aF,aZ,bg,aX,bF,aK,aN,bD,bH,len]at h;have hl:d.files.length<=64:=by omega
 refine Wq.bind (Q:=fun w=>match w with
  |.inl b=>b=false/\¬iC d
  |.inr _=>iC d)
  (gu (n:=d.files.length) (step:=fun v:Int×Int×Bool=>wX (len d.files) d.files d v.1 v.2.1 v.2.2) (by omega)
    (fun i x=>yZ (d.files.take i)/\x.1=d.room - (iK (d.files.take i):Int)/\0<=x.1) _ ?_ ?_ _ 0 (Nat.zero_le _) ⟨by simp [yZ,OI],by simp [iK],by simp only;omega⟩) ?_
 ·rintro i ⟨room,q⟩ hi ⟨h1,h2,h3⟩;simp only at h2 h3;simp only[wX];rw[au (by rw[cu];simpa using hi),au (inb _ i hi),aS _ i hi,ako (hn _ (List.getElem_mem hi)),ai];have hu:=Du hi;have hg:=abW hi;have e1:0<i->wr .i64 (aV (i:Int) 1)=((i - 1:Nat):Int):=fun h0=>by
   rw[aV,bV (by omega) (by omega)];omega
  have hgd:bor (band (ile 0 (wr .i64 (aV (i:Int) 1))) (ilt (wr .i64 (aV (i:Int) 1)) (len d.files))) (ak (band (ak (ak (decide (qI d.files[i].name)))) (ilt 0 (i:Int))))=true:=by
   rw[aW];by_cases h0:0<i
   ·left;rw[e1 h0];exact inb _ _ (by omega)
   ·right;rw[aG,aJ];right;exact zQ (by omega)
  rw[au hgd,dH];have prev:(0<i->∀g:i - 1<d.files.length,d.files[i - 1].name<d.files[i].name)↔band (ilt 0 (i:Int)) (ak (slt (aj d.files (itn (wr .i64 (aV (i:Int) 1)))).name d.files[i].name))=false:=by
   by_cases h0:0<i
   ·rw[e1 h0,aS _ _ (by omega:i - 1<d.files.length),U2,DL (by omega),oQ,aF,decide_eq_true_iff];exact⟨fun g=>g h0 (by omega),fun g _ _=>g⟩
   ·rw[zQ (by omega),yK];simp [h0]
  refine⟨fun hb=>(ah _).2 ⟨rfl,fun hd=> ?_⟩,fun hb=>(ah _).2 ?_⟩
  ·have g1:=(hg.1 (ad7 hd.2.1 (i+1)));have g2:=prev.1 g1.2.2;have g3:=Kz d.files (i+1);have g4:=hd.2.2;obtain⟨k1,k2,k3⟩:=g1.2.1;rw[g2]at hb;simp only[aH,aJ,aW,bf,aG,aF,aZ,bg,aX,bF,aK,aN,bD,bH,decide_eq_false_iff_not,len]at hb k3;rcases hb with (((hb | hb) | hb) | hb) | hb
   ·exact hb k1
   ·cases hb
   ·omega
   ·omega
   ·omega
  ·simp only[bf,aF,decide_eq_true_iff]at hb;obtain⟨⟨⟨⟨b1,b2⟩,b3⟩,b4⟩,b5⟩:=hb;have b6:=prev.2 b2;simp only[bg,len]at b3 b4 b5;have e2:wr .i64 (aV room (len d.files[i].data))=room - (d.files[i].data.length:Int):=by
    rw[aV,bV (by simp only[len];omega) (by simp only[len];omega)];rfl
   refine⟨bQ (by omega),hg.2 ⟨h1,⟨b1,b3,b4⟩,b6⟩,?_,?_⟩
   ·simp only;rw[e2,hu];omega
   ·simp only;rw[e2];omega
 ·rintro⟨room,q⟩ ⟨h1,h2,h3⟩;simp only[wX];rw[bW (BK _),ah];rw[List.take_length]at h1 h2;simp only at h2 h3;exact⟨by omega,h1,by omega⟩
 ·rintro(b | q) hw
  ·simp only[dJ,ah];simp [hw.1,hw.2]
  ·simp only[dJ,ah];simp [hw]
theorem FV {d:aC} (hn:nameB d):jC d=some (decide (iC d)):=by
 refine Wq.dec ?_;unfold jC;rw[dH];refine⟨fun h=>(ah _).2 ?_,fun h=> ?_⟩
 ·simp only[aH,aJ,aW,bf,aG,aF,aZ,bg,aX,bF,aK,aN,bD,bH,len]at h;unfold iC;constructor
  ·intro g;cases g
  ·rintro⟨g, -⟩;omega
 simp only[aH,aJ,aW,bf,aG,aF,aZ,bg,aX,bF,aK,aN,bD,bH,len]at h;have hl:d.files.length<=64:=by omega
 refine Wq.bind (Q:=fun w=>match w with
  |.inl b=>b=false/\¬iC d
  |.inr x=>yZ d.files/\x.1=(iK d.files:Int))
  (gu (n:=d.files.length) (step:=fun v:Int×Int×Bool=>kY d v.1 v.2.1 v.2.2) (by omega)
    (fun i x=>yZ (d.files.take i)/\x.1=(iK (d.files.take i):Int)/\x.1<=65536*i) _ ?_ ?_ _ 0 (Nat.zero_le _) ⟨by simp [yZ,OI],by simp [iK],by simp⟩) ?_
 ·rintro i ⟨n,q⟩ hi ⟨h1,h2,h3⟩;simp only at h2 h3;simp only[kY];rw[au (by rw[cu];simpa using hi),au (inb _ i hi),aS _ i hi,agp (hn _ (List.getElem_mem hi)),ai];have hu:=Du hi;have hg:=abW hi;have e1:0<i->wr .i64 (aV (i:Int) 1)=((i - 1:Nat):Int):=fun h0=>by
   rw[aV,bV (by omega) (by omega)];omega
  have prev:(0<i->∀g:i - 1<d.files.length,d.files[i - 1].name<d.files[i].name)↔band (ilt 0 (i:Int)) (bor (slt d.files[i].name (aj d.files (itn (wr .i64 (aV (i:Int) 1)))).name) (seq d.files[i].name (aj d.files (itn (wr .i64 (aV (i:Int) 1)))).name))=false:=by
   by_cases h0:0<i
   ·rw[e1 h0,aS _ _ (by omega:i - 1<d.files.length),U2,DL (by omega),oQ,bf,ad4,decide_eq_false_iff_not];constructor
    ·intro g;have g1:=g h0 (by omega);exact⟨fun g2=>U8 _ (YX g1 g2),fun g2=>U8 _ (g2▸g1)⟩
    ·rintro⟨g1,g2⟩ _ _;rcases ajD d.files[i - 1].name d.files[i].name with g | g | g
     ·exact g
     ·exact absurd g.symm g2
     ·exact absurd g g1
   ·rw[zQ (by omega),yK];simp [h0]
  have hgd:bor (band (ile 0 (wr .i64 (aV (i:Int) 1))) (ilt (wr .i64 (aV (i:Int) 1)) (len d.files))) (ak (ilt 0 (i:Int)))=true:=by
   rw[aW];by_cases h0:0<i
   ·left;rw[e1 h0];exact inb _ _ (by omega)
   ·right;rw[aG];exact zQ (by omega)
  rw[dH];have hall:iC d->yZ (d.files.take i)/\okF d.files[i]/\(0<i->∀g:i - 1<d.files.length,d.files[i - 1].name<d.files[i].name)/\d.files[i].data.length<=65536:=fun hd=>by
   have g1:=(hg.1 (ad7 hd.2.1 (i+1)));have g3:=Kz d.files (i+1);have g4:=hd.2.2;exact⟨g1.1,g1.2.1,g1.2.2,by omega⟩
  refine⟨fun hb=>(ah _).2 ⟨rfl,fun hd=> ?_⟩,fun hb=> ?_⟩
  ·obtain⟨g1,⟨k1,k2,k3⟩,g3,g4⟩:=hall hd;simp only[aH,aJ,aW,bf,aG,aF,aZ,bg,aX,bF,aK,aN,bD,bH,decide_eq_false_iff_not,len]at hb k3;rcases hb with ((hb | hb) | hb) | hb
   ·exact hb k1
   ·omega
   ·omega
   ·omega
  rw[au hgd,dH];refine⟨fun hb2=>(ah _).2 ⟨rfl,fun hd=> ?_⟩,fun hb2=>(ah _).2 ?_⟩
  ·rw[prev.1 (hall hd).2.2.1]at hb2;cases hb2
  ·simp only[bf,aF,decide_eq_true_iff]at hb;obtain⟨⟨⟨b1,b3⟩,b4⟩,b5⟩:=hb;have b6:=prev.2 hb2;simp only[bg,len]at b3 b4 b5;have e2:wr .i64 (aB n (len d.files[i].data))=n+(d.files[i].data.length:Int):=by
    rw[aB,bV (by simp only[len];omega) (by simp only[len];omega)];rfl
   refine⟨bQ (by omega),hg.2 ⟨h1,⟨b1,b3,b4⟩,b6⟩,?_,?_⟩
   ·simp only;rw[e2,hu];omega
   ·simp only;rw[e2];omega
 ·rintro⟨n,q⟩ ⟨h1,h2,h3⟩;simp only[kY];rw[bW (BK _),ah];rw[List.take_length]at h1 h2;exact⟨h1,h2⟩
 ·rintro(b | q) hw
  ·simp only[dJ,ah];simp [hw.1,hw.2]
  ·simp only[dJ,ah,hw.2];unfold iC;simp only[aH,aJ,aW,bf,aG,aF,aZ,bg,aX,bF,aK,aN,bD,bH];constructor
   ·intro g;exact⟨⟨by omega,by omega,by omega,hl⟩,hw.1,g⟩
   ·intro g;exact g.2.2
abbrev Nm:=List UInt8
def lG (l:List bn) (n:Nm):Option bn:=l.find? fun f=>decide (f.name=n)
def LZ (n:Nm) (l:List bn):List bn:=l.filter fun f=>decide (f.name≠n)
def tX (f:bn):List bn->List bn
 |[]=>[f]
 |g::r=>if g.name<f.name then g::tX f r else f::LZ f.name (g::r)
theorem Hu {n:Nm} {l:List bn} (h:∀f∈l,f.name≠n):LZ n l=l:=by
 unfold LZ;rw[List.filter_eq_self];intro f hf;simpa using h f hf
theorem ZW (n:Nm) (a b:List bn):LZ n (a++b)=LZ n a++LZ n b:=by simp [LZ]
theorem J7 (n:Nm) (f:bn) (b:List bn):LZ n (f::b)=if f.name=n then LZ n b else f::LZ n b:=by
 unfold LZ;rw[List.filter_cons];by_cases h:f.name=n<;>simp [h]
theorem ZK {n:Nm} {l:List bn} (h:∀f∈l,f.name≠n):lG l n=none:=by
 unfold lG;rw[List.find?_eq_none];intro f hf;simpa using h f hf
theorem Z9 {n:Nm} {a:List bn} (h:∀f∈a,f.name≠n) (b:List bn):lG (a++b) n=lG b n:=by
 unfold lG;rw[List.find?_append];have:=ZK h;unfold lG at this;rw[this];rfl
theorem zn (n:Nm) (f:bn) (b:List bn):lG (f::b) n=if f.name=n then some f else lG b n:=by
 unfold lG;rw[List.find?_cons];by_cases h:f.name=n<;>simp [h]
theorem Ei {n:Nm} {l:List bn} {f:bn} (h:lG l n=some f):f∈l/\f.name=n:=
 ⟨List.mem_of_find?_eq_some h,by simpa using List.find?_some h⟩
theorem Ym {a b:Nm} (h:a<b):a≠b:=fun e=>U8 _ (e▸h)
inductive oG (n:Nm):List bn->Nat->Option bn->Prop
 |no (a b:List bn) (ha:∀f∈a,f.name<n) (hb:∀f∈b,n<f.name):oG n (a++b) a.length none
 |yes (a:List bn) (f:bn) (b:List bn) (e:f.name=n) (ha:∀f∈a,f.name<n) (hb:∀f∈b,n<f.name):oG n (a++f::b) a.length (some f)
theorem oG.get {n:Nm} {l:List bn} {i:Nat} {o:Option bn} (h:oG n l i o):lG l n=o:=by
 cases h with
 |no a b ha hb=>exact ZK fun f hf=>(List.mem_append.1 hf).elim (fun h=>Ym (ha f h)) (fun h=>(Ym (hb f h)).symm)
 |yes a f b e ha hb=>rw[Z9 fun f h=>Ym (ha f h),zn,if_pos e]
theorem oG.le {n:Nm} {l:List bn} {i:Nat} {o:Option bn} (h:oG n l i o):i<=l.length:=by
 cases h<;>simp
theorem oG.lt {n:Nm} {l:List bn} {i:Nat} {f:bn} (h:oG n l i (some f)):∃g:i<l.length,l[i]=f/\f.name=n:=by
 cases h with
 |yes a f b e ha hb=>exact⟨by simp,by simp,e⟩
theorem Au {f:bn} {a:List bn} (ha:∀g∈a,g.name<f.name) (b:List bn):tX f (a++b)=a++tX f b:=by
 induction a with
 |nil=>rfl
 |cons g a ih=>
  rw[List.cons_append,tX,if_pos (ha g (List.mem_cons_self ..)),ih fun g hg=>ha g (List.mem_cons_of_mem _ hg)];rfl
theorem Nh {f:bn} {b:List bn} (hb:∀g∈b,f.name<g.name):tX f b=f::b:=by
 cases b with
 |nil=>rfl
 |cons g b=>rw[tX,if_neg fun h=>U8 _ (YX h (hb g (List.mem_cons_self ..))),Hu fun g hg=>(Ym (hb g hg)).symm]
theorem aaT {f g:bn} {b:List bn} (e:g.name=f.name) (hb:∀g∈b,f.name<g.name):tX f (g::b)=f::b:=by
 rw[tX,if_neg (e▸U8 _),J7,if_pos e,Hu fun g hg=>(Ym (hb g hg)).symm]
theorem oG.ins {n:Nm} {l:List bn} {i:Nat} {f:bn} (h:oG n l i none) (e:f.name=n):l.take i++f::l.drop i=tX f l:=by
 subst e;cases h with
 |no a b ha hb=>rw[Au ha,Nh hb];simp
theorem oG.set {n:Nm} {l:List bn} {i:Nat} {f g:bn} (h:oG n l i (some g)) (e:f.name=n):l.set i f=tX f l:=by
 subst e;cases h with
 |yes a g b e ha hb=>rw[Au ha,aaT e hb];simp
theorem oG.del {n:Nm} {l:List bn} {i:Nat} {g:bn} (h:oG n l i (some g)):l.eraseIdx i=LZ n l:=by
 cases h with
 |yes a g b e ha hb=>
  rw[ZW,J7,if_pos e,Hu fun g hg=>Ym (ha g hg),Hu fun g hg=>(Ym (hb g hg)).symm,List.eraseIdx_append_of_length_le (Nat.le_refl _)];simp
theorem afR {l:List bn} (h:OI l) {i j:Nat} (hij:i<j) (hj:j<l.length):l[i].name<l[j].name:=
 List.pairwise_iff_getElem.1 h i j (by omega) hj hij
theorem ald {l:List bn} (h:OI l) {n:Nm} {i:Nat} (hi:i<=l.length) (h1:∀(j:Nat) (h:j<l.length),j<i->l[j].name<n) (h2:∀(j:Nat) (h:j<l.length),i<=j->¬l[j].name<n):
 oG n l i (if g:i<l.length then if l[i].name=n then some l[i]else none else none):=by
 have ha:∀f∈l.take i,f.name<n:=fun f hf=>by
  obtain⟨j,hj,rfl⟩:=List.mem_iff_getElem.1 hf
  rw[List.length_take]at hj
  rw[List.getElem_take]
  exact h1 j (by omega) (by omega)
 have hle:(l.take i).length=i:=by rw[List.length_take];omega
 by_cases g:i<l.length
 ·rw[dif_pos g]
  have hb:∀f∈l.drop (i+1),l[i].name<f.name:=fun f hf=>by
   obtain⟨j,hj,rfl⟩:=List.mem_iff_getElem.1 hf
   rw[List.length_drop]at hj
   rw[List.getElem_drop]
   exact afR h (by omega) (by omega)
  have e:l.take i++l[i]::l.drop (i+1)=l:=by rw[<-List.drop_eq_getElem_cons g,List.take_append_drop]
  by_cases k:l[i].name=n
  ·rw[if_pos k]
   have:=oG.yes (l.take i) l[i] (l.drop (i+1)) k ha (k▸hb)
   rwa[e,hle]at this
  ·rw[if_neg k]
   have hlt:n<l[i].name:=by
    rcases ajD n l[i].name with c | c | c
    ·exact c
    ·exact absurd c.symm k
    ·exact absurd c (h2 i g (Nat.le_refl _))
   have:=oG.no (l.take i) (l[i]::l.drop (i+1)) ha (fun f hf=>by
    rcases List.mem_cons.1 hf with c | c
    ·subst c;exact hlt
    ·exact YX hlt (hb f c))
   rwa[e,hle]at this
 ·rw[dif_neg g]
  have:=oG.no (l.take i) [] ha (by simp)
  rw[List.append_nil,hle,List.take_of_length_le (by omega)]at this
  exact this
theorem alx (n:Nat) (h:n<1000000000):wr .i64 (dn .u64 (wr .u64 (wr .i64 (n:Int))) 1)=((n / 2:Nat):Int):=by
 have e1:wr .i64 (n:Int)=n:=bV (by omega) (by omega);have e2:wr .u64 (n:Int)=n:=by rw[rX];omega
 have e3:dn .u64 (n:Int) 1=((n / 2:Nat):Int):=by
  unfold dn;simp [Int.shiftRight_eq_div_pow,IntKind.bits,IntKind.signed];exact Int.fdiv_eq_ediv_of_nonneg _ (by decide)
 rw[e1,e2,e3,bV (by omega) (by omega)]
theorem ajI (a b:Nm):agi a b<0↔a<b:=by
 unfold agi;rw[U2,uH];by_cases h:a<b
 ·simp [h]
 ·rw[if_neg h];cases seq a b<;>simp [cnd,h]
theorem akd (a b:Nm):agi a b=0↔a=b:=by
 unfold agi;rw[U2,uH];by_cases h:a<b
 ·simp [h,Ym h]
 ·rw[if_neg h];by_cases k:a=b
  ·rw[au (by rw[agN];exact k)];simp [k]
  ·rw[bW (by rw[ad4];exact k)];simp [k]
theorem agh {d:aC} {n:Nm} (ha:OI d.files) (hl:d.files.length<=100000):
 Wq (xR d n) fun r=>∃(i:Nat) (o:Option bn),r.1=(i:Int)/\oG n d.files i o/\r.2=o.isSome:=by
 unfold xR
 refine Wq.bind (Q:=fun w:Int=>∃i:Nat,w=(i:Int)/\i<=d.files.length/\(∀(j:Nat) (h:j<d.files.length),j<i->d.files[j].name<n)/\(∀(j:Nat) (h:j<d.files.length),i<=j->¬d.files[j].name<n))
  (Uf (step:=fun x:Int×Int=>eG d.files n x.1 x.2) (fun v=>(v.1 - v.2).toNat)
    (fun x=>∃lo hi:Nat,x=((hi:Int),(lo:Int))/\lo<=hi/\hi<=d.files.length/\(∀(j:Nat) (h:j<d.files.length),j<lo->d.files[j].name<n)/\(∀(j:Nat) (h:j<d.files.length),hi<=j->¬d.files[j].name<n)) _ ?_ LF _ (aaw (by simp only[len];omega)) ⟨0,d.files.length,rfl,Nat.zero_le _,Nat.le_refl _,fun j _ h=>by omega,fun j h1 h2=>by omega⟩) ?_
 ·rintro _ ⟨lo,hi,rfl,g1,g2,g3,g4⟩
  simp only[eG]
  rw[dH]
  refine⟨fun h=> ?_,fun h=>(ah _).2 ?_⟩
  ·rw[aZ]at h
   have e1:wr .i64 (dn .u64 (wr .u64 (wr .i64 (aB (lo:Int) (hi:Int)))) 1)=(((lo+hi) / 2:Nat):Int):=by
    rw[<-alx (lo+hi) (by omega)];unfold aB;rw[Int.natCast_add]
   have hm:(lo+hi) / 2<d.files.length:=by omega
   rw[e1,au (inb _ _ hm),aS _ _ hm,uD,ai,dH,ah,ah]
   refine⟨fun h2=> ?_,fun h2=> ?_⟩
   ·rw[aZ,ajI]at h2
    refine⟨⟨(lo+hi) / 2+1,hi,by rw[bQ (by omega)],by omega,g2,fun j hj h3=> ?_,g4⟩,?_⟩
    ·rcases Nat.lt_or_ge j ((lo+hi) / 2)with h4 | h4
     ·exact YX (afR ha h4 hm) h2
     ·have:j=(lo+hi) / 2:=by omega
      subst this;exact h2
    ·simp only;rw[bQ (by omega)];omega
   ·rw[bg]at h2
    have h2':¬d.files[(lo+hi) / 2].name<n:=by rw[<-ajI];omega
    refine⟨⟨lo,(lo+hi) / 2,rfl,by omega,by omega,g3,fun j hj h3=> ?_⟩,?_⟩
    ·rcases Nat.lt_or_ge ((lo+hi) / 2) j with h4 | h4
     ·exact fun g=>h2' (YX (afR ha h4 hj) g)
     ·have:j=(lo+hi) / 2:=by omega
      subst this;exact h2'
    ·simp only;omega
  ·rw[bg]at h
   have:lo=hi:=by omega
   subst this
   exact⟨lo,rfl,g2,g3,g4⟩
 rintro _ ⟨i,rfl,hi,g1,g2⟩
 have hs:=ald ha hi g1 g2
 by_cases hil:i<d.files.length
 ·have h1:ilt (i:Int) (len d.files)=true:=DL (by simp only[len];omega)
  rw[au (by rw[aW];exact .inl (inb _ i hil)),au h1,aS _ i hil,uD,ai,ah]
  refine⟨i,_,rfl,hs,?_⟩
  rw[dif_pos hil,h1,oQ]
  by_cases k:d.files[i].name=n
  ·rw[if_pos k];show ieq _ 0=true;rw[aK,akd];exact k
  ·rw[if_neg k];show ieq _ 0=false;rw[aN,ne_eq,akd];exact k
 ·have h1:ilt (i:Int) (len d.files)=false:=zQ (by simp only[len];omega)
  rw[au (by rw[aW,aG];exact .inr h1),bW h1,ah]
  refine⟨i,_,rfl,hs,?_⟩
  rw[dif_neg hil,h1];rfl
theorem aiW {d:aC} {n:Nm} (ha:OI d.files) (hl:d.files.length<=100000):
 Wq (og d n) fun r=>(r= -1/\lG d.files n=none)\/∃(i:Nat) (h:i<d.files.length),r=(i:Int)/\lG d.files n=some d.files[i]:=by
 unfold og
 refine Wq.bind (Q:=fun w:Int ⊕ Int=>match w with
  |.inl k=>∃(i:Nat) (h:i<d.files.length),k=(i:Int)/\lG d.files n=some d.files[i]
  |.inr _=>∀f∈d.files,f.name≠n)
  (gu (n:=d.files.length) (step:=fun v:Int×Int=>nJ n d v.1 v.2) (by omega) (fun i x=>∀f∈d.files.take i,f.name≠n) _ ?_ ?_ _ 0 (Nat.zero_le _) (by simp)) ?_
 ·rintro i x hi hx
  simp only[nJ]
  rw[au (by rw[cu];simpa using hi),au (inb _ i hi),aS _ i hi,dH]
  refine⟨fun he=>(ah _).2 ⟨i,hi,rfl,?_⟩,fun he=>(ah _).2 ⟨bQ (by omega),?_⟩⟩
  ·rw[agN]at he
   have:lG (d.files.take i++d.files.drop i) n=some d.files[i]:=by rw[Z9 hx,List.drop_eq_getElem_cons hi,zn,if_pos he]
   rwa[List.take_append_drop]at this
  ·rw[ad4]at he
   rw[iR hi]
   intro f hf
   rcases List.mem_append.1 hf with c | c
   ·exact hx f c
   ·rw[List.mem_singleton.1 c];exact he
 ·rintro x hx
  simp only[nJ]
  rw[bW (BK _),ah]
  rwa[List.take_length]at hx
 ·rintro(w | w) hw
  ·simp only[dJ,ah];obtain⟨i,h,e,g⟩:=hw;exact .inr ⟨i,h,e,g⟩
  ·simp only[dJ,ah];exact .inl ⟨trivial,ZK hw⟩
def qG (d:aC) (ns:List Nm):Int:=if ¬iC d then 1 else if d.down=true then 9 else if ∀n∈ns,qI n then 0 else 1
def eX (d:aC):aC×Bool:=if d.fuse=0 then (⟨d.files,d.room,d.fuse,true⟩,false)else if d.fuse= -1 then (d,true)else (⟨d.files,d.room,d.fuse - 1,d.down⟩,true)
def EW (d:aC) (f:bn):aC:=⟨tX f d.files,d.room,d.fuse,d.down⟩
def ard (d:aC) (n:Nm):aC:=⟨LZ n d.files,d.room,d.fuse,d.down⟩
theorem alP {α:Type} (a b:Nm) (x y:α):cnd (seq a b) x y=if a=b then x else y:=by
 by_cases h:a=b
 ·rw[if_pos h,au (by rw[agN];exact h)]
 ·rw[if_neg h,bW (by rw[ad4];exact h)]
theorem Bd {d:aC} {ns:List Nm}:qG d ns=0↔iC d/\d.down=false/\∀n∈ns,qI n:=by
 unfold qG;by_cases h1:iC d
 ·cases h2:d.down
  ·by_cases h3:∀n∈ns,qI n
   ·simp [h1,h3]
   ·simp [h1,h3]
  ·simp [h1]
 ·simp [h1]
theorem aay (d:aC) (a:Nm):qG d [a,a]=qG d [a]:=by
 unfold qG;have:(∀n∈[a,a],qI n)↔∀n∈[a],qI n:=by simp
 by_cases h:∀n∈[a],qI n
 ·simp only[if_pos h,if_pos (this.2 h)]
 ·simp only[if_neg h,if_neg (fun g=>h (this.1 g))]
theorem afU {d:aC} {ns:List Nm} (hn:nameB d) (hs:∀n∈ns,n.length<999999) (hl:ns.length<1000):uZ d ns=some (qG d ns):=by
 refine Wq.eq ?_;unfold uZ qG;rw[JU hn,ai,dP,uH];by_cases hd:iC d
 case neg=>rw[if_neg hd,ah];simp [hd]
 rw[if_pos hd];cases hw:d.down
 case true=>rw[aP,ah];simp [hd]
 rw[aO]
 refine Wq.bind (Q:=fun w:Int ⊕ Int=>match w with
  |.inl k=>0<=k/\¬∀n∈ns,qI n
  |.inr _=>∀n∈ns,qI n)
  (gu (n:=ns.length) (step:=fun v:Int×Int=>dS (len ns) ns v.1 v.2) (by omega) (fun i x=>∀n∈ns.take i,qI n) _ ?_ ?_ _ 0 (Nat.zero_le _) (by simp)) ?_
 ·rintro i x hi hx;simp only[dS];rw[au (by rw[cu];simpa using hi),au (inb _ i hi),aS _ i hi,ako (hs _ (List.getElem_mem hi)),ai,dP,uH];split
  ·rename_i g;refine(ah _).2 ⟨bQ (by omega),?_⟩;rw[iR hi];intro f hf;rcases List.mem_append.1 hf with c | c
   ·exact hx f c
   ·rw[List.mem_singleton.1 c];exact g
  ·rename_i g;exact(ah _).2 ⟨by omega,fun h=>g (h _ (List.getElem_mem hi))⟩
 ·rintro x hx;simp only[dS];rw[bW (BK _),ah];rwa[List.take_length]at hx
 ·rintro(w | w) hw2
  ·simp only[dJ];rw[au (gV hw2.1),ah,if_neg (fun h=>h hd),if_neg (by simp),if_neg hw2.2]
  ·simp only[dJ];rw[ah,if_neg (fun h=>h hd),if_neg (by simp),if_pos hw2]
theorem adS {d:aC} {a b:Nm} (hn:nameB d) (ha:a.length<999999) (hb:b.length<999999):ql d a b=some (qG d [a,b]):=by
 refine Wq.eq ?_;unfold ql qG;rw[FV hn,ai,dP,uH];by_cases hd:iC d
 case neg=>rw[if_neg hd,ah];simp [hd]
 rw[if_pos hd];cases hw:d.down
 case true=>rw[aP,ah];simp [hd]
 rw[aO,agp ha,ai,agp hb,if_neg (show ¬¬iC d from fun h=>h hd),if_neg (show ¬(false=true) by simp)];by_cases h1:qI a
 ·rw[decide_eq_true h1,aI,aU,aP,ai,dD,dP,uH];by_cases h2:qI b
  ·rw[if_pos h2,ah,if_pos (by simp [h1,h2])]
  ·rw[if_neg h2,ah,if_neg (by simp [h1,h2])]
 ·rw[decide_eq_false h1,aU,aI,aO,ai,ja,aP,ah,if_neg (by simp [h1])]
theorem ajP {d:aC} (hf: -1<=d.fuse) (hf2:inI d.fuse):jI d=some (eX d):=by
 unfold jI eX;rw[dQ,Ea];unfold inI at hf2;by_cases h0:d.fuse=0
 ·rw[if_pos h0,if_pos h0]
 rw[if_neg h0,if_neg h0];by_cases h1:d.fuse= -1
 ·rw[if_neg (by omega),if_pos h1]
 ·rw[if_pos (by omega),if_neg h1,ng ⟨by simp only[aV];omega,by simp only[aV];omega⟩];rfl
theorem aro {d:aC} (hl:d.files.length<999999) (hu:iK d.files<=10000000):Ns d=some (iK d.files:Int):=by
 refine Wq.eq ?_;unfold Ns;refine Wq.bind (gu (n:=d.files.length) (step:=fun v:Int×Int=>A7 (len d.files) d.files v.1 v.2) hl (fun i x=>x=(iK (d.files.take i):Int)) (fun w=>w=(iK d.files:Int)) ?_ ?_ 0 0 (Nat.zero_le _) (by simp [iK])) ?_
 ·rintro i x hi rfl;simp only[A7];rw[au (by rw[cu];simpa using hi),au (inb _ i hi),aS _ i hi,ah];have h1:=Du hi;have h2:=Kz d.files (i+1);refine⟨bQ (by omega),?_⟩;rw[aB,bV (by simp only[len];omega) (by simp only[len];omega)];simp only[len];omega
 ·rintro x rfl;simp only[A7];rw[bW (BK _),ah,List.take_length]
 ·rintro w rfl;exact(ah _).2 rfl
theorem anu {d:aC} (hl:d.files.length<999999) (hu:iK d.files<=10000000):qL d=some (iK d.files:Int):=by
 refine Wq.eq ?_;unfold qL;refine Wq.bind (gu (n:=d.files.length) (step:=fun v:Int×Int=>nM d v.1 v.2) hl (fun i x=>x=(iK (d.files.take i):Int)) (fun w=>w=(iK d.files:Int)) ?_ ?_ 0 0 (Nat.zero_le _) (by simp [iK])) ?_
 ·rintro i x hi rfl;simp only[nM];rw[au (by rw[cu];simpa using hi),au (inb _ i hi),aS _ i hi,ah];have h1:=Du hi;have h2:=Kz d.files (i+1);refine⟨bQ (by omega),?_⟩;rw[aB,bV (by simp only[len];omega) (by simp only[len];omega)];simp only[len];omega
 ·rintro x rfl;simp only[nM];rw[bW (BK _),ah,List.take_length]
 ·rintro w rfl;exact(ah _).2 rfl
theorem amF (n:Nm) (l:List bn):(LZ n l).length<=l.length:=List.length_filter_le ..
theorem aj9 {d:aC} {f:bn} (hl:d.files.length<99999):kE d f=some (EW d f):=by
 refine Wq.eq ?_;unfold kE
 refine Wq.bind (gu (n:=d.files.length) (step:=fun v:Int×Bool×List bn=>lV f d v.1 v.2.1 v.2.2) (by omega)
  (fun i x=>(x.2++if x.1=true then LZ f.name (d.files.drop i)else tX f (d.files.drop i))=tX f d.files/\x.2.length<=i+if x.1=true then 1 else 0) (fun w=>(w.2++if w.1=true then []else [f])=tX f d.files/\w.2.length<=d.files.length+1) ?_ ?_ (false,[]) 0 (Nat.zero_le _) (by simp)) ?_
 ·rintro i ⟨q,x⟩ hi ⟨h1,h2⟩;simp only at h1 h2;have h2':x.length<=i+1:=by split at h2<;>omega
  simp only[lV];have g1:ile (len (aQ x [f])) 68719476736=true:=gV (by simp only[len,aQ,List.length_append,List.length_singleton];omega);have g2:ile (len (aQ (aQ x [f]) [d.files[i]])) 68719476736=true:=gV (by simp only[len,aQ,List.length_append,List.length_singleton];omega);have g3:ile (len (aQ x [d.files[i]])) 68719476736=true:=gV (by simp only[len,aQ,List.length_append,List.length_singleton];omega);rw[au (by rw[cu];simpa using hi),au (by rw[aW];exact .inl (inb _ i hi))];simp only[au (inb d.files i hi),aS _ i hi,au g1,au g2,au g3,dP];rw[List.drop_eq_getElem_cons hi]at h1;cases q
  ·simp only[Bool.false_eq_true,if_false,tX]at h1 h2;rw[aU,oQ,dP,U2,uH];by_cases hlt:d.files[i].name<f.name
   ·rw[if_pos hlt]at h1 ⊢;rw[bW (by rw[ad4];exact Ym hlt),ah];exact⟨bQ (by omega),by simpa [aQ] using h1,by simp [aQ];omega⟩
   ·rw[if_neg hlt,J7]at h1;rw[if_neg hlt,alP];by_cases e:d.files[i].name=f.name
    ·rw[if_pos e]at h1 ⊢;rw[ah];exact⟨bQ (by omega),by simpa [aQ] using h1,by simp [aQ];omega⟩
    ·rw[if_neg e]at h1 ⊢;rw[ah];exact⟨bQ (by omega),by simpa [aQ] using h1,by simp [aQ];omega⟩
  ·simp only[if_true,J7]at h1 h2;rw[aI,yK,aO,alP];by_cases e:d.files[i].name=f.name
   ·rw[if_pos e]at h1 ⊢;rw[ah];exact⟨bQ (by omega),by simpa [aQ] using h1,by simp;omega⟩
   ·rw[if_neg e]at h1 ⊢;rw[ah];exact⟨bQ (by omega),by simpa [aQ] using h1,by simp [aQ];omega⟩
 ·rintro⟨q,x⟩ ⟨h1,h2⟩;simp only[lV];rw[bW (BK _),ah];refine⟨?_,by split at h2<;>simp only at h2 ⊢ <;>omega⟩
  simp only[List.drop_length]at h1;simpa [LZ,tX] using h1
 ·rintro⟨q,x⟩ ⟨h1,h2⟩;simp only at h1 h2;rw[au (x:=some _) (gV (by simp only[len,aQ,List.length_append,List.length_singleton];omega))];cases q
  ·rw[aU,aP,ah];unfold EW;rw[<-h1];rfl
  ·rw[aI,aO,ah];unfold EW;rw[<-h1];simp
theorem abJ {l:List bn} (h:l.length<1000000):bT l=some l:=by unfold bT;exact AQ h
def ag8 (p:aC×Bool):aC×Int:=(p.1,if p.2=true then 0 else 9)
def pK (d:aC) (n:Nm) (b:List Int):aC×Int:=
 if qG d [n]≠0 then (d,qG d [n])else
 if d.room<(iK d.files:Int)+(b.length:Int)\/(lG d.files n=none/\64<=d.files.length)then (d,6)else
 ag8 (eX (EW d ⟨n,((lG d.files n).getD ⟨n,[],0⟩).data++b,((lG d.files n).getD ⟨n,[],0⟩).sure⟩))
def Es (d:aC) (n:Nm):aC×Int:=
 if qG d [n]≠0 then (d,qG d [n])else
 match lG d.files n with
 |none=>(d,7)
 |some f=>if (eX d).2=true then (EW (eX d).1 ⟨n,f.data,len f.data⟩,0)else ((eX d).1,9)
def H7 (d:aC) (n:Nm):aC×Int:=
 if qG d [n]≠0 then (d,qG d [n])else
 match lG d.files n with
 |none=>(d,7)
 |some f=>if (eX d).2=true then (ard (eX d).1 n,0)else ((eX d).1,9)
structure Vj (d:aC):Prop where
 nm:nameB d
 fu:inI d.fuse
theorem iC.fl {d:aC} (h:iC d):d.files.length<=64:=h.1.2.2.2
theorem iC.us {d:aC} (h:iC d):iK d.files<=65536:=by have:=h.2.2;have:=h.1;omega
theorem iC.asc {d:aC} (h:iC d):OI d.files:=h.2.1.2
theorem iP (d:aC):(eX d).1.files=d.files:=by unfold eX;split<;>(try split)<;>rfl
theorem KH (d:aC):(eX d).1.room=d.room:=by unfold eX;split<;>(try split)<;>rfl
theorem aa4 {α:Type} (d:aC) (hf: -1<=d.fuse) (hf2:inI d.fuse) (x:α) (y:Int->Bool->α):
 cnd (ieq d.fuse 0) x (cnd (ieq d.fuse (-1)) (y d.fuse d.down) (y (wr .i64 (aV d.fuse 1)) d.down))=if (eX d).2=true then y (eX d).1.fuse (eX d).1.down else x:=by
 rw[dQ,dQ]
 unfold eX
 unfold inI at hf2
 by_cases h0:d.fuse=0
 ·simp [h0]
 by_cases h1:d.fuse= -1
 ·simp [h1]
 ·rw[if_neg h0,if_neg h1,if_neg h0,if_neg h1,if_pos rfl,ng ⟨by simp only[aV];omega,by simp only[aV];omega⟩];rfl
theorem aaW {d:aC} (h:¬(eX d).2=true):(eX d).1=⟨d.files,d.room,d.fuse,true⟩:=by
 unfold eX at h ⊢;split
 ·rfl
 ·rename_i h0;rw[if_neg h0]at h;split at h<;>simp at h
theorem cut_out {α:Type} (l r:List α) (i:Nat) (h:i<l.length):
 (sQ (sQ l i (l.drop (i+1))) (i+(l.drop (i+1)).length) r).take (i+(l.drop (i+1)).length)=l.eraseIdx i:=by
 unfold sQ
 have h1:(l.take i).length=i:=by rw[List.length_take];omega
 have e:(l.take i++(l.drop (i+1)++l.drop (i+(l.drop (i+1)).length))).take (i+(l.drop (i+1)).length)=l.take i++l.drop (i+1):=by
  rw[<-List.append_assoc,List.take_append_of_le_length (by rw[List.length_append,h1];exact Nat.le_refl _),List.take_of_length_le (by rw[List.length_append,h1];exact Nat.le_refl _)]
 rw[e,List.take_append_of_le_length (by rw[List.length_append,h1];exact Nat.le_refl _),List.take_of_length_le (by rw[List.length_append,h1];exact Nat.le_refl _),List.eraseIdx_eq_take_drop_succ]
theorem anT {α:Type} (l:List α) (i:Nat) (h:i<l.length):cZ (dR l (itn ((i+1:Nat):Int))) (itn (aV (len l) ((i+1:Nat):Int)))=l.drop (i+1):=by
 unfold cZ dR aV;rw[J3];apply List.take_of_length_le;rw[List.length_drop];simp only[itn,len];omega
theorem anO {α:Type} (l:List α) (i:Nat) (h:i<l.length):nad i (itn (len (l.drop (i+1))))=i+(l.drop (i+1)).length:=by simp [nad,itn,len]
theorem alm {α:Type} (l:List α) (i:Nat) (ys:List α) (h:i+ys.length<=l.length):(sQ l i ys).length=l.length:=by
 unfold sQ;simp only[List.length_append,List.length_take,List.length_drop];omega
theorem amr (n:Nat):nad 0 n=n:=by simp [nad]
theorem apx (n:Nat):itn (nti n)=n:=by simp [itn,nti]
theorem anj {l:List bn} {i:Nat} (h:i<l.length) (hl:l.length<999999):gX l (i:Int) ((i+1:Nat):Int)=some (l.eraseIdx i):=by
 unfold gX;have hdl:(l.drop (i+1)).length=l.length - (i+1):=List.length_drop ..;rw[anT l i h,J3,anO l i h,amr,apx];have hlc:=alm l i (l.drop (i+1)) (by omega)
 rw[au (by simp only[aH,aX,len];omega),dQ,if_neg (by omega),au (by simp only[aH,aX,len];omega),au (by simp only[aH,aX,len];omega),au (by simp only[aB,nti,aX,len];omega),
  au (by simp only[aH,aX,len,aV,nti,hlc];omega)]
 congr 1;exact cut_out l _ i h
theorem agR {l:List VA} (hl:l.length<1000) (hs:(l.flatMap (·.all)).length<1000000):pV l=some (l.flatMap (·.all)):=by
 have tk:∀ {i:Nat} (h:i<l.length),((l.take (i+1)).flatMap (·.all))=((l.take i).flatMap (·.all))++l[i].all:=fun h=>by
  rw[iR h,List.flatMap_append];simp
 have le:∀i:Nat,((l.take i).flatMap (·.all)).length<=(l.flatMap (·.all)).length:=fun i=>by
  have:(l.flatMap (·.all))=((l.take i).flatMap (·.all))++((l.drop i).flatMap (·.all)):=by rw[<-List.flatMap_append,List.take_append_drop]
  rw[this,List.length_append];omega
 have loop2:∀x:List Int,x=[]->Wq (bZ (fun v:Int×List Int=>je (len l) l v.1 v.2) LF (0,x)) fun w=>w=l.flatMap (·.all):=by
  rintro _ rfl;refine gu (n:=l.length) (by omega) (fun i x=>x=(l.take i).flatMap (·.all)) _ ?_ ?_ [] 0 (Nat.zero_le _) (by simp)
  ·rintro i x hi rfl;simp only[je];have:=le (i+1);rw[tk hi]at this;rw[au (by rw[cu];simpa using hi),au (inb _ i hi),aS _ i hi,au (gV (by simp only[len,aQ];omega)),ah];exact⟨bQ (by omega),(tk hi).symm⟩
  ·rintro x rfl;simp only[je];rw[bW (BK _),ah,List.take_length]
 refine Wq.eq ?_;unfold pV;refine Wq.bind (gu (n:=l.length) (step:=fun v:Int×Int=>mg (len l) l v.1 v.2) (by omega) (fun i x=>x=(((l.take i).flatMap (·.all)).length:Int)) (fun w=>w=((l.flatMap (·.all)).length:Int)) ?_ ?_ 0 0 (Nat.zero_le _) (by simp)) ?_
 ·rintro i x hi rfl;simp only[mg];have h1:=le (i+1);rw[tk hi,List.length_append]at h1;have e:wr .i64 (aB (((l.take i).flatMap (·.all)).length:Int) (len l[i].all))=(((l.take (i+1)).flatMap (·.all)).length:Int):=by
   rw[tk hi,List.length_append,aB,bV (by simp only[len];omega) (by simp only[len];omega)];simp only[len];omega
  rw[au (by rw[cu];simpa using hi),au (inb _ i hi),aS _ i hi,e,bW (zQ (by omega)),ah];exact⟨bQ (by omega),rfl⟩
 ·rintro x rfl;simp only[mg];rw[bW (BK _),ah,List.take_length]
 ·rintro w rfl;have e:wr .i64 (aV ((l.flatMap (·.all)).length:Int) 0)=((l.flatMap (·.all)).length:Int):=by rw[aV,bV (by omega) (by omega)];omega
  rw[bW (zQ (by omega)),e,dH];constructor
  ·intro h;rw[aZ]at h;rw[au (by simp only[aH,aZ,aX];omega),au (gV (by simp only[len];omega))];exact(loop2 _ (by simp [cZ])).bind fun a h=>(ah _).2 h
  ·intro h;exact(loop2 _ rfl).bind fun a h=>(ah _).2 h
theorem anC {l:List bn} {i:Nat} {f:bn} (h:i<=l.length) (hl:l.length<999999):pI l (i:Int) [f]=some (l.take i++f::l.drop i):=by
 unfold pI;simp only[];rw[au (by simp only[aH,aX,len,aB];omega),J3];rfl
theorem ar0 {i:Nat} (h:i<1000000):wr .i64 (aB (i:Int) 1)=((i+1:Nat):Int):=bQ h
theorem amJ {α:Type} [Inhabited α] (l:List α) (i:Nat) (h:i<l.length):aj l i=l[i]:=by simp [aj,h]
theorem ab2 {P:Nm->Prop} {n:Nm} (h:P n):∀m∈[n],P m:=fun m hm=>by rw[List.mem_singleton.1 hm];exact h
theorem am1 {d:aC} {n:Nm} (h:Vj d) (hn:n.length<999999):wo d n=some (H7 d n):=by
 refine Wq.eq ?_;unfold wo H7;rw[afU h.nm (ab2 hn) (by simp),ai,dP,dQ,dP,dQ];by_cases h0:qG d [n]=0
 case neg=>rw[if_neg h0,if_neg h0,ah,if_pos h0]
 rw[if_pos h0,if_neg (fun g=>g h0)];obtain⟨hd,hw, -⟩:=Bd.1 h0;refine(agh hd.asc (by have:=hd.fl;omega)).bind ?_;rintro⟨k,b⟩ ⟨i,o,e1,e2,e3⟩;simp only at e1 e3;subst e1 e3;have hg:=e2.get;rw[hg];cases o with
 |none=>simp only[Option.isSome_none];rw[aU,aP,ah]
 |some f=>
  obtain⟨hi,-, -⟩:=e2.lt;have hl:=hd.fl;simp only[Option.isSome_some];rw[aI,aO,ar0 (by omega)];simp only[abJ (show d.files.length<1000000 by omega),ai,anj hi (by omega)];rw[aa4 d hd.1.2.2.1 h.fu (some (aC.mk d.files d.room d.fuse true,(9:Int))) (fun a b=>some (aC.mk (d.files.eraseIdx i) d.room a b,(0:Int))),e2.del];by_cases hs:(eX d).2=true
  ·rw[if_pos hs,ah,if_pos hs];unfold ard;rw[iP,KH]
  ·rw[if_neg hs,ah,if_neg hs,aaW hs]
theorem aqJ {d:aC} {n:Nm} (h:Vj d) (hn:n.length<999999):Ep d n=some (Es d n):=by
 refine Wq.eq ?_;unfold Ep Es;rw[afU h.nm (ab2 hn) (by simp),ai,dP,dQ,dP,dQ];by_cases h0:qG d [n]=0
 case neg=>rw[if_neg h0,if_neg h0,ah,if_pos h0]
 rw[if_pos h0,if_neg (fun g=>g h0)];obtain⟨hd,hw, -⟩:=Bd.1 h0;refine(agh hd.asc (by have:=hd.fl;omega)).bind ?_;rintro⟨k,b⟩ ⟨i,o,e1,e2,e3⟩;simp only at e1 e3;subst e1 e3;have hg:=e2.get;rw[hg];cases o with
 |none=>simp only[Option.isSome_none];rw[aU,aP,ah]
 |some f=>
  obtain⟨hi,hf,hfn⟩:=e2.lt;have hl:=hd.fl;simp only[Option.isSome_some];rw[aI,aO];simp only[abJ (show d.files.length<1000000 by omega),ai,au (inb d.files i hi),J3,amJ d.files i hi];rw[aa4 d hd.1.2.2.1 h.fu (some (aC.mk d.files d.room d.fuse true,(9:Int))) (fun a b=>some (aC.mk (dN d.files i (bn.mk d.files[i].name d.files[i].data (len d.files[i].data))) d.room a b,(0:Int))),hf];have e:=e2.set (f:=⟨n,f.data,len f.data⟩) rfl;by_cases hs:(eX d).2=true
  ·rw[if_pos hs,ah,if_pos hs];unfold EW dN;rw[iP,KH,hfn,e]
  ·rw[if_neg hs,ah,if_neg hs,aaW hs]
theorem ana {d:aC} {n:Nm} {b:List Int} (h:Vj d) (hn:n.length<999999) (hb:b.length<900000):zi d n b=some (pK d n b):=by
 refine Wq.eq ?_;unfold zi pK;rw[afU h.nm (ab2 hn) (by simp),ai,dP,dQ];by_cases h0:qG d [n]=0
 case neg=>rw[if_neg h0,ah,if_pos h0]
 rw[if_pos h0,if_neg (fun g=>g h0)];obtain⟨hd,hw, -⟩:=Bd.1 h0;have hl:=hd.fl;have hu:=hd.us;have hr:=hd.1;refine(agh hd.asc (by omega)).bind ?_;rintro⟨k,q⟩ ⟨i,o,e1,e2,e3⟩;simp only at e1 e3;subst e1 e3;have hg:=e2.get;rw[hg,aro (by omega) (by omega),ai];have e4:wr .i64 (aV d.room (iK d.files:Int))=d.room - (iK d.files:Int):=by rw[aV,ng ⟨by omega,by omega⟩]
 have hcond:(bor (ilt (wr .i64 (aV d.room (iK d.files:Int))) (len b)) (band (ak o.isSome) (ieq (len d.files) 64))=true)↔(d.room<(iK d.files:Int)+(b.length:Int)\/(o=none/\64<=d.files.length)):=by
  rw[e4];simp only[aH,aJ,aW,bf,aG,aF,aZ,bg,aX,bF,aK,aN,bD,bH,len];cases o<;>simp<;>omega
 rw[dH];refine⟨fun hc=>(ah _).2 ?_,fun hc=> ?_⟩
 ·rw[if_pos (hcond.1 hc)]
 rw[if_neg (fun g=>by rw[hcond.2 g]at hc;cases hc),abJ (by omega),ai];have hnot:¬(d.room<(iK d.files:Int)+(b.length:Int)\/(o=none/\64<=d.files.length)):=fun g=>by rw[hcond.2 g]at hc;cases hc
 cases o with
 |none=>
  simp only[Option.isSome_none,Option.getD_none,List.nil_append];have hil:=e2.le;rw[aU,aP,anC hil (by omega),ai,e2.ins rfl];have e5:tX ⟨n,[],0⟩ d.files=d.files.take i++⟨n,[],0⟩::d.files.drop i:=(e2.ins (f:=⟨n,[],0⟩) rfl).symm;have hlen:(d.files.take i).length=i:=by rw[List.length_take];omega
  have hi:i<(tX ⟨n,[],0⟩ d.files).length:=by rw[e5];simp;omega
  have hgt:(tX ⟨n,[],0⟩ d.files)[i]=⟨n,[],0⟩:=by
   simp only[e5];rw[List.getElem_append_right (by omega)];simp [hlen]
  have hst:dN (tX ⟨n,[],0⟩ d.files) i ⟨n,b,0⟩=tX ⟨n,b,0⟩ d.files:=by
   rw[<-e2.ins (f:=⟨n,b,0⟩) rfl,e5];unfold dN;rw[List.set_append_right _ _ (by omega)];simp [hlen]
  rw[au (inb _ i hi),aS _ i hi,hgt,agR (by simp) (by simp only[List.flatMap_cons,List.flatMap_nil,List.append_nil,List.nil_append];omega),ai,au (inb _ i hi),J3];simp only[List.flatMap_cons,List.flatMap_nil,List.nil_append,List.append_nil];have e6:aj (tX ⟨n,[],0⟩ d.files) i=⟨n,[],0⟩:=by rw[amJ _ i hi,hgt]
  rw[hst,aa4 d hd.1.2.2.1 h.fu (some (aC.mk (tX ⟨n,b,0⟩ d.files) d.room d.fuse true,(9:Int))) (fun x y=>some (aC.mk (tX ⟨n,b,0⟩ d.files) d.room x y,(0:Int)))];have sw:eX (EW d ⟨n,b,0⟩)=(⟨tX ⟨n,b,0⟩ d.files,d.room,(eX d).1.fuse,(eX d).1.down⟩,(eX d).2):=by
   unfold eX EW;split<;>(try split)<;>rfl
  rw[sw];unfold ag8;simp only[];by_cases hs:(eX d).2=true
  ·rw[if_pos hs,ah,if_pos hs]
  ·rw[if_neg hs,ah,if_neg hs,aaW hs]
 |some f=>
  simp only[Option.isSome_some,Option.getD_some];obtain⟨hi,hf,hfn⟩:=e2.lt;have hus:=Du hi;have hus2:=Kz d.files (i+1);rw[aI,aO,au (inb _ i hi),aS _ i hi,hf,agR (by simp) (by simp only[List.flatMap_cons,List.flatMap_nil,List.append_nil,List.length_append];rw[hf]at hus;omega),ai,au (inb _ i hi),J3];simp only[List.flatMap_cons,List.flatMap_nil,List.append_nil];have e6:aj d.files i=f:=by rw[amJ _ i hi,hf]
  have hst:dN d.files i ⟨f.name,f.data++b,f.sure⟩=tX ⟨n,f.data++b,f.sure⟩ d.files:=by rw[hfn];exact e2.set rfl
  rw[hst,aa4 d hd.1.2.2.1 h.fu (some (aC.mk (tX ⟨n,f.data++b,f.sure⟩ d.files) d.room d.fuse true,(9:Int))) (fun x y=>some (aC.mk (tX ⟨n,f.data++b,f.sure⟩ d.files) d.room x y,(0:Int)))];have sw:eX (EW d ⟨n,f.data++b,f.sure⟩)=(⟨tX ⟨n,f.data++b,f.sure⟩ d.files,d.room,(eX d).1.fuse,(eX d).1.down⟩,(eX d).2):=by
   unfold eX EW;split<;>(try split)<;>rfl
  rw[sw];unfold ag8;simp only[];by_cases hs:(eX d).2=true
  ·rw[if_pos hs,ah,if_pos hs]
  ·rw[if_neg hs,ah,if_neg hs,aaW hs]
theorem aot (a b:Int):ji a b=if b<a then b else a:=by
 unfold ji;rfl
theorem aoB {n:Nm} {l:List bn} (h:OI l):OI (LZ n l):=by
 unfold OI LZ;exact List.Pairwise.sublist List.filter_sublist h
theorem aeA {l:List bn} {n:Nm} {f:bn} (h:lG l n=some f):f.name=n:=(Ei h).2
theorem ap9 {d:aC} {n:Nm} (h:Vj d) (hn:n.length<999999):oq d n=some (Es d n):=by
 refine Wq.eq ?_;unfold oq Es;rw[adS h.nm hn hn,ai,dP,dQ,aay];by_cases h0:qG d [n]=0
 case neg=>rw[if_neg h0,ah,if_pos h0]
 rw[if_pos h0,if_neg (fun g=>g h0)];obtain⟨hd,hw, -⟩:=Bd.1 h0;have hl:=hd.fl;refine(aiW hd.asc (by omega)).bind ?_;rintro k (⟨rfl,hg⟩ | ⟨i,hi,rfl,hg⟩)
 ·rw[au (DL (by omega)),ah,hg]
 ·rw[bW (zQ (by omega)),ajP hd.1.2.2.1 h.fu,ai,dP,AB,hg,iP,aeA hg |>.symm];by_cases hs:(eX d).2=true
  ·rw[if_pos hs,au (inb _ i hi),aS _ i hi,aj9 (by rw[iP];omega),ai,ah];simp only[];rw[if_pos hs]
  ·rw[if_neg hs,ah];simp only[];rw[if_neg hs]
theorem am9 {d:aC} {n:Nm} {b:List Int} (h:Vj d) (hn:n.length<999999) (hb:b.length<900000):kP d n b=some (pK d n b):=by
 refine Wq.eq ?_;unfold kP pK;rw[adS h.nm hn hn,ai,dP,dQ,aay];by_cases h0:qG d [n]=0
 case neg=>rw[if_neg h0,ah,if_pos h0]
 rw[if_pos h0,if_neg (fun g=>g h0)];obtain⟨hd,hw, -⟩:=Bd.1 h0;have hl:=hd.fl;have hu:=hd.us;have hr:=hd.1;have e4:wr .i64 (aB (iK d.files:Int) (len b))=(iK d.files:Int)+(b.length:Int):=by rw[aB,ng ⟨by simp only[len];omega,by simp only[len];omega⟩];rfl
 have fin:∀f:bn,Wq (af (kE d f) fun y3=>af (jI y3) fun y4=>cnd (ak y4.2) (some (y4.1,(9:Int))) (some (y4.1,0))) fun x=>x=ag8 (eX (EW d f)):=fun f=>by
  rw[aj9 (by omega),ai,ajP (d:=EW d f) hd.1.2.2.1 h.fu,ai,dP,AB];unfold ag8;by_cases hs:(eX (EW d f)).2=true
  ·rw[if_pos hs,ah,if_pos hs]
  ·rw[if_neg hs,ah,if_neg hs]
 refine(aiW hd.asc (by omega)).bind ?_;rintro k0 (⟨rfl,hg⟩ | ⟨i,hi,rfl,hg⟩)
 ·rw[bW (MX (by omega)),anu (by omega) (by omega),ai,e4,dH,hg];refine⟨fun hc=> ?_,fun hc=> ?_⟩
  ·simp only[aH,aJ,aW,bf,aG,aF,aZ,bg,aX,bF,aK,aN,bD,bH,len]at hc;rw[ah,if_pos (by rcases hc with g | g;exact .inl (by omega);exact .inr ⟨rfl,by omega⟩)]
  ·simp only[aH,aJ,aW,bf,aG,aF,aZ,bg,aX,bF,aK,aN,bD,bH,len]at hc;have hn2:¬(d.room<(iK d.files:Int)+(b.length:Int)\/((none:Option bn)=none/\64<=d.files.length)):=by
    rintro(g | ⟨-, g⟩)<;>omega
   rw[if_neg hn2,au (gV (by simp only[len];omega))];exact fin _
 ·have hus:=Du hi;have hus2:=Kz d.files (i+1);rw[au (gV (by omega)),au (inb _ i hi),anu (by omega) (by omega),ai,e4,dH,hg];refine⟨fun hc=> ?_,fun hc=> ?_⟩
  ·simp only[aH,aJ,aW,bf,aG,aF,aZ,bg,aX,bF,aK,aN,bD,bH,len]at hc;rw[ah,if_pos (.inl (by omega))]
  ·simp only[aH,aJ,aW,bf,aG,aF,aZ,bg,aX,bF,aK,aN,bD,bH,len]at hc;rw[if_neg (by simp;omega),aS _ i hi,au (gV (by simp only[len];omega)),au (gV (by simp only[len,aQ,List.length_append];omega)),Option.getD_some,aeA hg];exact fin _
theorem alj (d:aC) (hl:okL Qz d.files):Wq (uT d) fun b=>b=true->d.files.length<=70/\∀f∈d.files,f.name.length<=100/\f.data.length<=70000:=by
 unfold uT;rw[dH];refine⟨fun h=>(ah _).2 (by intro g;cases g),fun h=> ?_⟩;simp only[aH,aJ,aW,bf,aG,aF,aZ,bg,aX,bF,aK,aN,bD,bH,len]at h
 refine Wq.bind (Q:=fun w=>match w with
  |.inl b=>b=false
  |.inr _=>∀f∈d.files,f.name.length<=100/\f.data.length<=70000)
  (gu (n:=d.files.length) (step:=fun v:Int×Int×Bool=>kQ d v.1 v.2.1 v.2.2) (by omega) (fun i x=>∀f∈d.files.take i,f.name.length<=100/\f.data.length<=70000) _ ?_ ?_ _ 0 (Nat.zero_le _) (by simp)) ?_
 ·rintro i ⟨n,q⟩ hi hx;simp only[kQ];rw[au (by rw[cu];simpa using hi),au (inb _ i hi),au (by rw[aW];exact .inl (inb _ i hi)),aS _ i hi,au (inb _ i hi),dH,ah,ah];refine⟨fun _=>rfl,fun hb=>⟨bQ (by omega),?_⟩⟩;simp only[aH,aJ,aW,bf,aG,aF,aZ,bg,aX,bF,aK,aN,bD,bH,len]at hb;rw[iR hi];intro f hf;rcases List.mem_append.1 hf with c | c
  ·exact hx f c
  ·rw[List.mem_singleton.1 c];omega
 ·rintro⟨n,q⟩ hx;simp only[kQ];rw[bW (BK _),ah];rwa[List.take_length]at hx
 ·rintro(w | w) hw
  ·simp only[dJ,ah];simp only at hw;rw[hw];intro g;cases g
  ·simp only[dJ,ah];exact fun _=>⟨by omega,hw⟩
theorem amU (d:aC) (hl:d.files.length<999999):wK d d=some true:=by
 refine Wq.eq ?_;unfold wK;rw[bW (by simp only[bf,aF,aK,bD,and_self])]
 refine Wq.bind (Q:=fun w:Bool ⊕ Bool=>match w with
  |.inl b=>False
  |.inr _=>True)
  (gu (n:=d.files.length) (step:=fun v:Int×Bool=>nD d d v.1 v.2) (by omega) (fun i x=>True) _ ?_ ?_ _ 0 (Nat.zero_le _) trivial) ?_
 ·rintro i q hi -;simp only[nD];rw[au (by rw[cu];simpa using hi),au (inb _ i hi),au (inb _ i hi),bW (by simp only[bf,aF,aK,agN,and_self]),ah];exact⟨bQ (by omega),trivial⟩
 ·rintro q -;simp only[nD];rw[bW (BK _),ah];trivial
 ·rintro(w | w) hw
  ·exact hw.elim
  ·simp only[dJ,ah]
theorem amD (l:List Int):0<=ajf l/\ajf l<4294967296:=afI _
theorem qI.len {n:Nm} (h:qI n):n.length<999999:=by have:=h.2.2;omega
def AU (d:aC):Prop:=∀f∈d.files,CZ f.data
theorem JH {l:List bn} (h:OI l) (hl:l.length<=100000) (n:Nm):∃i o,oG n l i o:=by
 obtain⟨_,_,i,o,_,h2,_⟩:=agh (d:=⟨l,0,0,false⟩) (n:=n) h hl;exact⟨i,o,h2⟩
theorem get_put (f:bn) (m:Nm):∀l:List bn,lG (tX f l) m=if m=f.name then some f else lG l m
 |[]=>by
  rw[tX,zn]
  by_cases h:m=f.name
  ·rw[if_pos h.symm,if_pos h]
  ·rw[if_neg (fun e=>h e.symm),if_neg h]
 |g::r=>by
  rw[tX]
  by_cases hlt:g.name<f.name
  ·rw[if_pos hlt,zn,zn,get_put f m r]
   by_cases h:m=f.name
   ·rw[if_neg (fun e=>U8 f.name (by rw[e,h]at hlt;exact hlt)),if_pos h,if_pos h]
   ·rw[if_neg h,if_neg h]
  ·rw[if_neg hlt,zn]
   by_cases h:m=f.name
   ·rw[if_pos h.symm,if_pos h]
   ·rw[if_neg (fun e=>h e.symm),if_neg h]
    exact gd m h (g::r)
where
 gd (m:Nm) (h:m≠f.name):∀l:List bn,lG (LZ f.name l) m=lG l m
 |[]=>rfl
 |g::r=>by
  rw[J7]
  by_cases e:g.name=f.name
  ·rw[if_pos e,gd m h r,zn,if_neg (fun k=>h (by rw[<-k,e]))]
  ·rw[if_neg e,zn,zn,gd m h r]
theorem ZM (f:bn) (l:List bn):yZ (f::l)↔okF f/\yZ l/\∀g∈l,f.name<g.name:=by
 have:=yT [f] l;rw[List.singleton_append,adV]at this;rw[this];simp
def aaH (o:Option bn):Nat:=match o with | some f=>f.data.length | none=>0
theorem oG.used {n:Nm} {l:List bn} {i:Nat} {o:Option bn} (h:oG n l i o) (f:bn) (e:f.name=n):iK (tX f l)+aaH o=iK l+f.data.length:=by
 subst e;cases h with
 |no a b ha hb=>rw[Au ha,Nh hb,uO,uO,QK];simp only[aaH];omega
 |yes a g b e ha hb=>rw[Au ha,aaT e hb,uO,uO,QK,QK];simp only[aaH];omega
theorem oG.long {n:Nm} {l:List bn} {i:Nat} {o:Option bn} (h:oG n l i o) (f:bn) (e:f.name=n):(tX f l).length=l.length+if o=none then 1 else 0:=by
 subst e;cases h with
 |no a b ha hb=>rw[Au ha,Nh hb];simp;omega
 |yes a g b e ha hb=>rw[Au ha,aaT e hb];simp
theorem oG.good {n:Nm} {l:List bn} {i:Nat} {o:Option bn} (h:oG n l i o) {f:bn} (e:f.name=n) (hf:okF f) (hl:yZ l):yZ (tX f l):=by
 subst e;cases h with
 |no a b ha hb=>
  rw[Au ha,Nh hb];obtain⟨h1,h2,h3⟩:=(yT _ _).1 hl;refine(yT _ _).2 ⟨h1,(ZM _ _).2 ⟨hf,h2,hb⟩,fun g hg k hk=> ?_⟩;rcases List.mem_cons.1 hk with rfl | hk
  ·exact ha g hg
  ·exact h3 g hg k hk
 |yes a g b e ha hb=>
  rw[Au ha,aaT e hb];obtain⟨h1,h2,h3⟩:=(yT _ _).1 hl;refine(yT _ _).2 ⟨h1,(ZM _ _).2 ⟨hf,((ZM _ _).1 h2).2.1,hb⟩,fun g hg k hk=> ?_⟩;rcases List.mem_cons.1 hk with rfl | hk
  ·exact ha g hg
  ·exact h3 g hg k (List.mem_cons_of_mem _ hk)
theorem oG.usedD {n:Nm} {l:List bn} {i:Nat} {o:Option bn} (h:oG n l i o):iK (LZ n l)+aaH o=iK l:=by
 cases h with
 |no a b ha hb=>rw[Hu (fun f hf=>(List.mem_append.1 hf).elim (fun g=>Ym (ha f g)) (fun g=>(Ym (hb f g)).symm))];rfl
 |yes a g b e ha hb=>
  rw[ZW,J7,if_pos e,Hu fun g hg=>Ym (ha g hg),Hu fun g hg=>(Ym (hb g hg)).symm,uO,uO,QK];simp only[aaH];omega
theorem amM {n:Nm} {l:List bn} (h:yZ l):yZ (LZ n l):=⟨fun f hf=>h.1 f (List.mem_filter.1 hf).1,aoB h.2⟩
structure Keep (d e:aC):Prop where
 right:iC e
 fz:e.fuse<=d.fuse
 room:e.room=d.room
theorem Keep.refl {d:aC} (h:iC d):Keep d d:=⟨h,Int.le_refl _,rfl⟩
theorem Keep.trans {a b c:aC} (h:Keep a b) (k:Keep b c):Keep a c:=⟨k.right,Int.le_trans k.fz h.fz,k.room.trans h.room⟩
theorem iC.bnd {d:aC} (h:iC d) (hf:inI d.fuse):Vj d:=
 ⟨fun f hf=>by have:=(h.2.1.1 f hf).1.2.2;omega,hf⟩
theorem Keep.bnd {d e:aC} (h:Keep d e) (hf:inI d.fuse):Vj e:=by
 refine h.right.bnd ?_;have:=h.fz;have:=h.right.1.2.2.1;unfold inI at*;omega
theorem Xm (d:aC):(d.fuse=0/\(eX d).1.fuse=0/\(eX d).1.down=true/\(eX d).2=false)\/((eX d).1.fuse<=d.fuse/\(-1<=d.fuse-> -1<=(eX d).1.fuse)/\(eX d).1.down=d.down/\(eX d).2=true):=by
 unfold eX;by_cases h0:d.fuse=0
 ·simp [h0]
 by_cases h1:d.fuse= -1
 ·simp [h1]
 ·rw[if_neg h0,if_neg h1];right;simp only;exact⟨by omega,fun _=>by omega,trivial,trivial⟩
theorem WJ {d:aC} (h:iC d):Keep d (eX d).1:=by
 have hf:=Xm d;have h1:=h.1;refine⟨⟨⟨?_,?_,?_,?_⟩,?_,?_⟩,?_,KH d⟩<;>(try rw[KH])<;>(try rw[iP])
 ·omega
 ·omega
 ·rcases hf with hf | hf
  ·omega
  ·exact hf.2.1 h1.2.2.1
 ·omega
 ·exact h.2.1
 ·exact h.2.2
 ·rcases hf with hf | hf<;>omega
theorem aew {d:aC} {f:bn} (h:iC d) (hf:okF f) (hu:(iK d.files:Int)+f.data.length<=d.room+aaH (lG d.files f.name)) (hl:lG d.files f.name≠none\/d.files.length<64):Keep d (EW d f):=by
 obtain⟨i,o,hs⟩:=JH h.asc (by have:=h.fl;omega) f.name;have g1:=hs.used f rfl;have g2:=hs.long f rfl;rw[hs.get]at hu hl;have h1:=h.1;refine⟨⟨⟨h1.1,h1.2.1,h1.2.2.1,?_⟩,hs.good rfl hf h.2.1,?_⟩,Int.le_refl _,rfl⟩
 ·show(tX f d.files).length<=64;rw[g2];split
  ·rename_i e;rcases hl with c | c
   ·exact absurd e c
   ·omega
  ·omega
 ·show(iK (tX f d.files):Int)<=d.room;omega
theorem anc {d:aC} {n:Nm} (h:iC d):Keep d (ard d n):=by
 obtain⟨i,o,hs⟩:=JH h.asc (by have:=h.fl;omega) n;have g1:=hs.usedD;have h1:=h.1;have h2:=h.2.2;have:=amF n d.files;exact⟨⟨⟨h1.1,h1.2.1,h1.2.2.1,Nat.le_trans this h1.2.2.2⟩,amM h.2.1,by show(iK (LZ n d.files):Int)<=d.room;omega⟩,Int.le_refl _,rfl⟩
theorem aqg {d:aC} {n:Nm} {f:bn} (h:iC d) (hg:lG d.files n=some f):okF f/\f.name=n:=⟨h.2.1.1 f (Ei hg).1,(Ei hg).2⟩
theorem OY (p:aC×Bool):(ag8 p).1=p.1:=rfl
theorem Nr {d:aC} {n:Nm} {b:List Int} (h:iC d):Keep d (pK d n b).1:=by
 unfold pK;by_cases h0:qG d [n]=0
 case neg=>rw[if_pos h0];exact Keep.refl h
 rw[if_neg (fun g=>g h0)];have hn:=(Bd.1 h0).2.2 n (List.mem_singleton.2 rfl);by_cases hc:d.room<(iK d.files:Int)+(b.length:Int)\/(lG d.files n=none/\64<=d.files.length)
 ·rw[if_pos hc];exact Keep.refl h
 rw[if_neg hc,OY];have hw:Keep d (EW d ⟨n,((lG d.files n).getD ⟨n,[],0⟩).data++b,((lG d.files n).getD ⟨n,[],0⟩).sure⟩):=by
  have hc1:¬d.room<(iK d.files:Int)+(b.length:Int):=fun g=>hc (.inl g);refine aew h ?_ ?_ ?_
  ·cases hg:lG d.files n with
   |none=>exact⟨hn,Int.le_refl _,by simp only[len,Option.getD_none];omega⟩
   |some f=>
    have hf:=(aqg h hg).1;exact⟨hn,hf.2.1,by have:=hf.2.2;simp only[Option.getD_some,len,List.length_append]at this ⊢; omega⟩
  ·cases hg:lG d.files n with
   |none=>simp only[aaH,Option.getD_none,List.nil_append];omega
   |some f=>simp only[aaH,Option.getD_some,List.length_append];omega
  ·cases hg:lG d.files n with
   |none=>right;have:¬64<=d.files.length:=fun g=>hc (.inr ⟨hg,g⟩);omega
   |some f=>left;intro e;cases e
 exact hw.trans (WJ hw.right)
theorem aek {d:aC} {n:Nm} (h:iC d):Keep d (Es d n).1:=by
 unfold Es;by_cases h0:qG d [n]=0
 case neg=>rw[if_pos h0];exact Keep.refl h
 rw[if_neg (fun g=>g h0)];have hn:=(Bd.1 h0).2.2 n (List.mem_singleton.2 rfl);have hk:=WJ h;cases hg:lG d.files n with
 |none=>exact Keep.refl h
 |some f=>
  simp only;split
  ·refine hk.trans (aew hk.right ⟨hn,by simp only[len];omega,Int.le_refl _⟩ ?_ ?_)
   ·simp only;rw[iP,KH,hg];simp only[aaH];have:=h.2.2;omega
   ·left;simp only;rw[iP,hg];intro e;cases e
  ·exact hk
theorem aam {d:aC} {n:Nm} (h:iC d):Keep d (H7 d n).1:=by
 unfold H7;by_cases h0:qG d [n]=0
 case neg=>rw[if_pos h0];exact Keep.refl h
 rw[if_neg (fun g=>g h0)];have hk:=WJ h;cases hg:lG d.files n with
 |none=>exact Keep.refl h
 |some f=>
  simp only;split
  ·exact hk.trans (anc hk.right)
  ·exact hk
theorem ajH {f g:bn}:∀ {l:List bn},g∈tX f l->g=f\/g∈l
 |[],h=> .inl (List.mem_singleton.1 h)
 |k::r,h=>by
  rw[tX]at h
  split at h
  ·rcases List.mem_cons.1 h with rfl | h
   ·exact .inr (List.mem_cons_self ..)
   ·rcases ajH h with e | e
    ·exact .inl e
    ·exact .inr (List.mem_cons_of_mem _ e)
  ·rcases List.mem_cons.1 h with rfl | h
   ·exact .inl rfl
   ·exact .inr (List.mem_filter.1 h).1
theorem ael {d:aC} {f:bn} (h:AU d) (hf:CZ f.data):AU (EW d f):=fun g hg=>by
 rcases ajH hg with rfl | hg
 ·exact hf
 ·exact h g hg
theorem WG {d:aC} (h:AU d):AU (eX d).1:=fun g hg=>by rw[iP]at hg;exact h g hg
theorem ahU {d:aC} {n:Nm} {f:bn} (h:AU d) (hg:lG d.files n=some f):CZ f.data:=h f (Ei hg).1
theorem ag9 {d:aC} {n:Nm} {b:List Int} (h:AU d) (hb:CZ b):AU (pK d n b).1:=by
 unfold pK;split
 ·exact h
 ·split
  ·exact h
  ·rw[OY];refine WG (ael h ?_);cases hg:lG d.files n with
   |none=>exact hb
   |some f=>exact(ahU h hg).app hb
theorem alA {d:aC} {n:Nm} (h:AU d):AU (Es d n).1:=by
 unfold Es;split
 ·exact h
 ·cases hg:lG d.files n with
  |none=>exact h
  |some f=>simp only;split;exact ael (WG h) (show CZ f.data from ahU h hg);exact WG h
def ab4 (p:aC×Int) (f:aC->aC×Int):aC×Int:=if p.2≠0 then p else f p.1
theorem Yt {p:aC×Int} {f:aC->aC×Int} (h:p.2≠0):ab4 p f=p:=if_pos h
theorem then_ok {p:aC×Int} {f:aC->aC×Int} (h:p.2=0):ab4 p f=f p.1:=if_neg (fun g=>g h)
theorem akP {d:aC} {p:aC×Int} {f:aC->aC×Int} (h:Keep d p.1) (hf:∀e,iC e->Keep e (f e).1):Keep d (ab4 p f).1:=by
 unfold ab4;split
 ·exact h
 ·exact h.trans (hf _ h.right)
theorem akW {p:aC×Int} {f:aC->aC×Int} (h:AU p.1) (hf:∀e,AU e->AU (f e).1):AU (ab4 p f).1:=by
 unfold ab4;split
 ·exact h
 ·exact hf _ h
def adK (v:Nat):Nm:=List.replicate (10 - (NP 20 v).length) 48++NP 20 v
def C9 (g:Int):Prop:=1<=g/\g<=1000000000
theorem abK {v:Nat} (h:v<=1000000000):(adK v).length=10:=by
 have:=PI 20 v 10 (by omega) (by decide);unfold adK;rw[List.length_append,List.length_replicate];omega
theorem acH (v:Nat):∀c∈adK v,Vq c:=by
 intro c hc;rcases List.mem_append.1 hc with h | h
 ·rw[List.mem_replicate]at h;rw[h.2,xB];decide
 ·exact Yw _ _ c h
theorem abU {v:Nat} (h:v<=1000000000):wG (adK v)=v:=by
 unfold adK;rw[Xq,abQ 20 v (by omega)]
theorem amW {c:UInt8} (h:Vq c):PX c:=by rw[xB]at h;exact .inr (.inl h)
theorem aoO {g:Int} (h:C9 g):(fmt10 g).length<=10:=by
 have:fmt10 g=NP 20 g.toNat:=by unfold fmt10;rw[if_neg (by have:=h.1;omega)]
 rw[this];exact PI 20 _ 10 (by unfold C9 at h;omega) (by decide)
theorem Xk:∀(l:List UInt8) (a:Nat),l.foldl (fun n c=>n*10+(c.toNat - 48)) a=a*10^l.length+wG l
 |[],a=>by simp [wG]
 |x::l,a=>by
  have h1:=Xk l (a*10+(x.toNat - 48))
  have h2:=Xk l (0*10+(x.toNat - 48))
  have e:wG (x::l)=l.foldl (fun n c=>n*10+(c.toNat - 48)) (0*10+(x.toNat - 48)):=rfl
  rw[List.foldl_cons,h1,e,h2,List.length_cons,Nat.pow_succ,Nat.add_mul,Nat.add_mul,Nat.mul_assoc,Nat.mul_comm 10 (10^l.length)];omega
theorem alE (c:UInt8) (l:List UInt8):wG (c::l)=(c.toNat - 48)*10^l.length+wG l:=by
 have h2:=Xk l (0*10+(c.toNat - 48));have e:wG (c::l)=l.foldl (fun n c=>n*10+(c.toNat - 48)) (0*10+(c.toNat - 48)):=rfl;rw[e,h2,Nat.zero_mul,Nat.zero_add]
theorem amv (g:Int) (h:0<=g):u2s [wr .u8 (aB 48 (wr .u8 (Jl g 10)))]=[UInt8.ofNat (48+(g%10).toNat)]:=by
 unfold u2s Jl;rw[Int.tmod_eq_emod_of_nonneg h,MV,MV,aB];simp only[List.map_cons,List.map_nil];congr 2;omega
theorem aoN {d:aC} (h:YS d):AU d:=fun f hf=>anb (h.files.1 f hf).data
theorem alI {d:aC} (h:YS d) (hs:d.files.length<=70/\∀f∈d.files,f.name.length<=100/\f.data.length<=70000):Vj d:=
 ⟨fun f hf=>by have:=(hs.2 f hf).1;omega,h.fuse⟩
structure UpD (d:aC):Prop where
 right:iC d
 up:d.down=false
structure akx (d e:aC) (c:Int):Prop where
 code:(c=0/\e.down=false)\/(c=9/\e.down=true/\d.fuse≠ -1)
 fuse:d.fuse= -1->e.fuse= -1
 keep:Keep d e
theorem akx.up {d e:aC} {c:Int} (h:akx d e c) (hc:c=0):UpD e:=⟨h.keep.right,by rcases h.code with g | g;exact g.2;rw[hc]at g;exact absurd g.1 (by decide)⟩
theorem akx.cases {d e:aC} {c:Int} (h:akx d e c):c=0\/(c=9/\e.down=true/\d.fuse≠ -1):=h.code.imp (·.1) id
theorem UpD.first {d:aC} (h:UpD d) {ns:List Nm} (hn:∀n∈ns,qI n):qG d ns=0:=Bd.2 ⟨h.right,h.up,hn⟩
theorem akT {d:aC} (h:UpD d):((eX d).2=true/\(eX d).1.down=false)\/((eX d).2=false/\(eX d).1.down=true/\d.fuse≠ -1):=by
 have:=Xm d;have hu:=h.up;rcases this with ⟨h0,h1,h2,h3⟩ | ⟨h1,h2,h3,h4⟩
 ·exact .inr ⟨h3,h2,by omega⟩
 ·exact .inl ⟨h4,by rw[h3,hu]⟩
theorem acV {d:aC} (h:d.fuse= -1):eX d=(d,true):=by unfold eX;rw[if_neg (by omega),if_pos h]
theorem afu {d:aC} {n:Nm} {b:List Int} (h:UpD d) (hn:qI n):
 ((pK d n b).2=6/\(pK d n b).1=d/\(d.room<(iK d.files:Int)+(b.length:Int)\/(lG d.files n=none/\64<=d.files.length)))\/
 (akx d (pK d n b).1 (pK d n b).2/\(∀m,lG (pK d n b).1.files m=if m=n then some ⟨n,((lG d.files n).getD ⟨n,[],0⟩).data++b,((lG d.files n).getD ⟨n,[],0⟩).sure⟩else lG d.files m)/\
   iK (pK d n b).1.files=iK d.files+b.length/\(pK d n b).1.files.length<=d.files.length+1):=by
 have hk:=Nr (n:=n) (b:=b) h.right
 have h0:=h.first (ab2 hn)
 unfold pK at hk ⊢
 rw[if_neg (fun g=>g h0)]at hk ⊢
 by_cases hc:d.room<(iK d.files:Int)+(b.length:Int)\/(lG d.files n=none/\64<=d.files.length)
 ·rw[if_pos hc];exact .inl ⟨rfl,rfl,hc⟩
 rw[if_neg hc]at hk ⊢
 right
 obtain⟨i,o,hs⟩:=JH h.right.asc (by have:=h.right.fl;omega) n
 generalize hF:(⟨n,((lG d.files n).getD ⟨n,[],0⟩).data++b,((lG d.files n).getD ⟨n,[],0⟩).sure⟩:bn)=F at hk ⊢
 have hFn:F.name=n:=by rw[<-hF]
 have g1:=hs.used F hFn
 have g2:=hs.long F hFn
 have hup:(EW d F).down=false:=h.up
 have hold:F.data.length=aaH o+b.length:=by
  rw[<-hF,<-hs.get]
  cases lG d.files n<;>simp [aaH]
 refine⟨⟨?_,?_,hk⟩,fun m=> ?_,?_,?_⟩
 ·have hsf:=Xm (EW d F)
  rcases hsf with ⟨q0,q1,q2,q3⟩ | ⟨q1,q2,q3,q4⟩
  ·right;unfold ag8;rw[q3];exact⟨rfl,q2,by have:d.fuse=0:=q0;omega⟩
  ·left;unfold ag8;rw[q4];exact⟨rfl,by rw[q3];exact hup⟩
 ·intro hf
  rw[OY,acV (show(EW d F).fuse= -1 from hf)];exact hf
 ·rw[OY,iP]
  show lG (tX F d.files) m=_
  rw[get_put,hFn]
 ·rw[OY,iP]
  show iK (tX F d.files)=_
  omega
 ·rw[OY,iP]
  show(tX F d.files).length<=_
  rw[g2];split<;>omega
theorem aiG {d:aC} {n:Nm} {f:bn} (h:UpD d) (hn:qI n) (hg:lG d.files n=some f):
 akx d (Es d n).1 (Es d n).2/\((Es d n).2=0->∀m,lG (Es d n).1.files m=if m=n then some ⟨n,f.data,len f.data⟩else lG d.files m)/\((Es d n).2≠0->(Es d n).1.files=d.files)/\
  iK (Es d n).1.files=iK d.files/\(Es d n).1.files.length=d.files.length:=by
 have hk:=aek (n:=n) h.right
 have h0:=h.first (ab2 hn)
 unfold Es at hk ⊢
 rw[if_neg (fun g=>g h0),hg]at hk ⊢
 simp only at hk ⊢
 obtain⟨i,o,hs⟩:=JH h.right.asc (by have:=h.right.fl;omega) n
 have g1:=hs.used ⟨n,f.data,len f.data⟩ rfl
 have g2:=hs.long ⟨n,f.data,len f.data⟩ rfl
 have ho:=hs.get
 rw[hg]at ho
 subst ho
 rcases akT h with ⟨q1,q2⟩ | ⟨q1,q2,q3⟩
 ·rw[if_pos q1]at hk ⊢
  refine⟨⟨.inl ⟨rfl,q2⟩,fun hf=> ?_,hk⟩,fun _ m=> ?_,fun g=>absurd rfl g,?_,?_⟩
  ·rw[acV hf];exact hf
  ·show lG (tX _ (eX d).1.files) m=_
   rw[iP,get_put]
  ·show iK (tX _ (eX d).1.files)=_
   rw[iP];simp only[aaH]at g1;omega
  ·show(tX _ (eX d).1.files).length=_
   rw[iP,g2];simp
 ·rw[if_neg (by rw[q1];decide)]at hk ⊢
  refine⟨⟨.inr ⟨rfl,q2,q3⟩,fun hf=>absurd hf q3,hk⟩,fun g=>absurd g (show ¬(9:Int)=0 by decide),fun _=>iP d,?_,?_⟩
  ·rw[iP]
  ·rw[iP]
theorem akY {l:List bn} {f:bn} (h:OI (f::l)):∀g∈l,g.name≠f.name:=fun g hg=>(Ym ((List.pairwise_cons.1 h).1 g hg)).symm
theorem get_mem {l:List bn} (h:OI l) {f:bn} (hf:f∈l):lG l f.name=some f:=by
 induction l with
 |nil=>cases hf
 |cons g l ih=>
  rw[zn];rcases List.mem_cons.1 hf with rfl | hf
  ·rw[if_pos rfl]
  ·rw[if_neg (fun e=>akY h f hf e.symm)];exact ih (List.pairwise_cons.1 h).2 hf
theorem afS {s:ay} (hr:iW s) (hsh:rW s):Wq (jU s) fun b=>b=true↔iZ s:=
 Qo s hr (by unfold rW at hsh;omega) (by unfold rW at hsh;omega) (by unfold rW at hsh;omega)
def uy:Nm:=[108,111,103,46]
def mr (g:Int):Nm:=Ju uy g
theorem O8 {g:Int} (h:C9 g):mr g=uy++adK g.toNat:=by
 unfold mr Ju adK;have:fmt10 g=NP 20 g.toNat:=by unfold fmt10;rw[if_neg (by have:=h.1;omega)]
 rw[if_neg (by unfold C9 at h;omega),this,List.append_assoc]
theorem alN {g:Int} (h:¬C9 g):mr g=[]:=by
 unfold mr Ju;rw[if_pos (by unfold C9 at h;omega)]
theorem ad6 {g:Int} (h:C9 g):(mr g).length=14:=by
 rw[O8 h,List.length_append,abK (by unfold C9 at h;omega)];rfl
theorem Y5 {g:Int} (h:C9 g):yL uy (mr g)=g:=by
 have hv:g.toNat<=1000000000:=by unfold C9 at h;omega
 have e1:(mr g).take uy.length=uy:=by rw[O8 h,List.take_left]
 have e2:(mr g).drop uy.length=adK g.toNat:=by rw[O8 h,List.drop_left]
 unfold yL;rw[e1,e2,if_pos ⟨rfl,abK hv,acH _,by rw[abU hv];exact hv⟩,abU hv];unfold C9 at h;omega
theorem aex {s:Nm} (h:yL uy s≠0):C9 (yL uy s)/\s=mr (yL uy s):=by
 have hc:s.take uy.length=uy/\(s.drop uy.length).length=10/\(∀c∈s.drop uy.length,48<=c/\c<=57)/\wG (s.drop uy.length)<=1000000000:=by
  apply Classical.byContradiction;intro g;exact h (if_neg g)
 have e:yL uy s=((wG (s.drop uy.length):Nat):Int):=if_pos hc;obtain⟨h1,h2,h3,h4⟩:=hc;have hg:C9 (yL uy s):=by rw[e]at h ⊢; unfold C9;omega
 refine⟨hg,?_⟩;rw[O8 hg,e,Int.toNat_natCast];have:=anL h2 h3 (XQ 10 _ h2 h3);unfold adK;rw[this]
 conv=>lhs;rw[<-List.take_append_drop uy.length s,h1]
theorem IY {g:Int} (h:C9 g):qI (mr g):=by
 refine⟨?_,by rw[ad6 h];decide,by rw[ad6 h];decide⟩;rw[O8 h];intro c hc;rcases List.mem_append.1 hc with k | k
 ·have:∀c∈uy,PX c:=by decide
  exact this c k
 ·exact amW (acH _ c k)
theorem acN (g:Int):jD g=some (mr g):=by
 refine Wq.eq ?_;unfold jD;rw[dH];refine⟨fun h=> ?_,fun h=> ?_⟩
 ·simp only[aH,aJ,aW,bf,aG,aF,aZ,bg,aX,bF,aK,aN,bD,bH]at h;rw[ah,alN (by unfold C9;omega)]
 ·simp only[aH,aJ,aW,bf,aG,aF,aZ,bg,aX,bF,aK,aN,bD,bH]at h;have hg:C9 g:=⟨by omega,by omega⟩;have hl:=aoO hg;have ef:ou g 10=some (fmt10 g):=by
   unfold ou aln;rw[au (by rw[aH,aK,aH,aX,aX];unfold C9 at hg;exact⟨rfl,by omega,by omega⟩)]
  have ew:wr .i64 (aV 10 (len (fmt10 g)))=((10 - (fmt10 g).length:Nat):Int):=by
   rw[aV,bV (by simp only[len];omega) (by simp only[len];omega)];simp only[len];omega
  have er:rM [(UInt8.ofNat 48)] ((10 - (fmt10 g).length:Nat):Int)=some (List.replicate (10 - (fmt10 g).length) 48):=by
   unfold rM ak4;have e1:len [(UInt8.ofNat 48)]=1:=rfl;rw[e1,au (by simp only[aH,aX,cO,Int.one_mul];exact⟨by omega,by omega,by omega⟩),J3,ac8];rfl
  rw[ef,ai,ew,er,ai,au (gV (by simp only[len,aB,List.length_replicate];omega)),au (gV (by simp only[len,aB,aQ,List.length_append,List.length_replicate,List.length_cons,List.length_nil];omega)),ah];unfold mr Ju;rw[if_neg (by unfold C9 at hg;omega)];rfl
theorem acR {g:Int} (h:C9 g):gq g=some (mr g):=by
 refine Wq.eq ?_;unfold gq
 refine Wq.bind (gu (n:=10) (step:=fun v:Int×List UInt8×Int=>nP v.1 v.2.1 v.2.2) (by decide)
  (fun i x=>x.1.length=i/\(∀c∈x.1,Vq c)/\x.2=((g.toNat / 10^i:Nat):Int)/\wG x.1=g.toNat%10^i) (fun w=>w.length=10/\(∀c∈w,Vq c)/\wG w=g.toNat%10^10) ?_ ?_ _ 0 (by decide) ⟨rfl,by simp,?_,by simp [wG,Nat.mod_one]⟩) ?_
 ·rintro i ⟨out,n⟩ hi ⟨h1,h2,h3,h4⟩;simp only at h1 h2 h3 h4;simp only[nP];have hn:0<=n:=by rw[h3];exact Int.natCast_nonneg _
  have hm:=Nat.mod_lt (g.toNat / 10^i) (show 10>0 by decide);have em:(n%10).toNat=g.toNat / 10^i%10:=by rw[h3];omega
  have hle:g.toNat / 10^i<=1000000000:=Nat.le_trans (Nat.div_le_self _ _) (by unfold C9 at h;omega);rw[au (DL (by omega)),amv n hn,em,au (gV (by simp only[aB,len,List.length_singleton];omega)),ah];refine⟨bQ (by omega),?_,?_,?_,?_⟩
  ·simp [aQ,h1]
  ·intro c hc;simp only[aQ,List.singleton_append,List.mem_cons]at hc;rcases hc with rfl | hc
   ·rw[xB,J9 hm];omega
   ·exact h2 c hc
  ·simp only;unfold QW;rw[Int.tdiv_eq_ediv_of_nonneg hn,h3,bV (by omega) (by omega),Nat.pow_succ,<-Nat.div_div_eq_div_mul];rfl
  ·simp only[aQ,List.singleton_append];rw[alE,J9 hm,h4,h1,Nat.pow_succ,Nat.mod_mul];rw[show 48+g.toNat / 10^i%10 - 48=g.toNat / 10^i%10 by omega,Nat.mul_comm];omega
 ·rintro⟨out,n⟩ ⟨h1,h2,h3,h4⟩;simp only[nP];rw[bW (zQ (by omega)),ah];exact⟨h1,h2,h4⟩
 ·simp only[Nat.pow_zero,Nat.div_one];unfold C9 at h;omega
 ·rintro w ⟨h1,h2,h3⟩;rw[au (gV (by simp only[aB,len];omega)),ah];have hv:g.toNat<=1000000000:=by unfold C9 at h;omega
  rw[Nat.mod_eq_of_lt (by omega)]at h3;have:w=adK g.toNat:=aco 10 _ _ h1 (abK hv) h2 (acH _) (by rw[h3,abU hv]);rw[this,O8 h];rfl
theorem agk {s:Nm} (hs:s.length<999999):tu s=some (yL uy s):=by
 refine Wq.eq ?_;unfold tu;have hg:bor (ile 4 (len s)) (ak (ak (ak (ieq (len s) 14))))=true:=by
  simp only[aH,aJ,aW,bf,aG,aF,aZ,bg,aX,bF,aK,aN,bD,bH,len];omega
 rw[au hg,dH];have ht:cZ s 4=s.take uy.length:=rfl;have hp:[(UInt8.ofNat 108),(UInt8.ofNat 111),(UInt8.ofNat 103),(UInt8.ofNat 46)]=uy:=rfl;refine⟨fun hc=>(ah _).2 ?_,fun hc=> ?_⟩
 ·rw[ht,hp]at hc;simp only[aW,aG,aN,ad4,len]at hc;unfold yL;rw[if_neg];rintro⟨g1,g2, -⟩;rcases hc with c | c
  ·rw[List.length_drop]at g2;have:uy.length=4:=rfl;omega
  ·exact c g1
 ·rw[ht,hp]at hc;simp only[bf,aF,aK,agN,len]at hc;obtain⟨h14,h4x⟩:=hc;have h14':s.length=14:=by omega
  have hdl:(s.drop 4).length=10:=by rw[List.length_drop];omega
  refine Wq.bind (Q:=fun w=>match w with
   |.inl k=>k=0/\¬∀c∈s.drop 4,Vq c
   |.inr x=>(∀c∈s.drop 4,Vq c)/\x.1=(wG (s.drop 4):Int))
   (gu (n:=14) (step:=fun v:Int×Int×Int=>jZ s v.1 v.2.1 v.2.2) (by decide)
     (fun i x=>4<=i/\(∀c∈(s.drop 4).take (i - 4),Vq c)/\x.1=(wG ((s.drop 4).take (i - 4)):Int)) _ ?_ ?_ _ 4 (by decide) ⟨Nat.le_refl _,by simp,by simp [wG]⟩) ?_
  ·rintro i ⟨n,q⟩ hi ⟨h1,h2,h3⟩;simp only at h3;simp only[jZ];have his:i<s.length:=by omega
   have hd:i - 4<(s.drop 4).length:=by omega
   have hel:(s.drop 4)[i - 4]=s[i]:=by rw[List.getElem_drop];congr 1;omega
   have hvl:=XQ (i - 4) ((s.drop 4).take (i - 4)) (by rw[List.length_take];omega) h2;have hpw:10^(i - 4)<=10^10:=Nat.pow_le_pow_right (by decide) (by omega);have h255:=s[i].toNat_lt;rw[au (DL (by omega)),au (inb _ _ his),au (by rw[aW];exact .inl (inb _ _ his)),acw _ _ his,dH];refine⟨fun hb=>(ah _).2 ⟨rfl,fun g=> ?_⟩,fun hb=> ?_⟩
   ·have:=xB.1 (g s[i] (by rw[<-hel];exact List.getElem_mem hd));simp only[aH,aJ,aW,bf,aG,aF,aZ,bg,aX,bF,aK,aN,bD,bH]at hb;omega
   ·simp only[aH,aJ,aW,bf,aG,aF,aZ,bg,aX,bF,aK,aN,bD,bH]at hb;rw[au (inb _ _ his),ah];have e1:wr .i64 (cO n 10)=n*10:=by rw[cO,bV (by omega) (by omega)]
    have e2:wr .i64 (wr .u8 (aV (s[i].toNat:Int) 48))=(s[i].toNat:Int) - 48:=by
     rw[aV,MV,bV (by omega) (by omega)];omega
    have e3:i+1 - 4=(i - 4)+1:=by omega
    rw[e1,e2];refine⟨bQ (by omega),by omega,?_,?_⟩
    ·rw[e3,iR hd,hel];intro c hc;rcases List.mem_append.1 hc with k | k
     ·exact h2 c k
     ·rw[List.mem_singleton.1 k,xB];omega
    ·simp only;rw[e3,iR hd,hel,O6,aB,bV (by omega) (by omega),h3];omega
  ·rintro⟨n,q⟩ ⟨h1,h2,h3⟩;simp only[jZ];rw[bW (zQ (by omega)),ah];rw[show(14 - 4:Nat)=(s.drop 4).length by omega,List.take_length]at h2 h3;exact⟨h2,h3⟩
  ·have hsn:uy.length=4:=rfl;rintro(k | ⟨n,q⟩) hw
   ·simp only[dJ,ah];unfold yL;rw[hw.1,if_neg (fun g=>hw.2 g.2.2.1)]
   ·simp only at hw;simp only[dJ];rw[Ea,hw.2];unfold yL;rw[hsn];split
    ·rename_i hgt;rw[ah,if_neg (fun g=>by have:=g.2.2.2;omega)]
    ·rename_i hgt;rw[ah,if_pos ⟨h4x,hdl,hw.1,by omega⟩]
def BP (f:bY):Prop:=1<=f.epoch/\f.epoch<=1000000/\1<=f.lsn/\f.lsn<=1000000000/\1<=f.kind/\f.kind<=6
instance (f:bY):Decidable (BP f):=by unfold BP;infer_instance
def rowP:List bY->Int->Int->Prop
 |[],_,_=>True
 |f::r,n,e=>BP f/\f.lsn=n/\e<=f.epoch/\rowP r (f.lsn+1) f.epoch
instance aob:∀(l:List bY) (n e:Int),Decidable (rowP l n e)
 |[],_,_=>isTrue trivial
 |f::r,n,e=>by
  unfold rowP
  have:=aob r (f.lsn+1) f.epoch
  infer_instance
theorem VY (f:bY):vW f=some (decide (BP f)):=by
 refine Wq.dec ?_;unfold vW BP;rw[ah];simp only[aH,aJ,aW,bf,aG,aF,aZ,bg,aX,bF,aK,aN,bD,bH];omega
theorem adr (f:bY):uz f=some (decide (BP f)):=by
 refine Wq.dec ?_;unfold uz BP;rw[ah];simp only[aH,aJ,aW,bf,aG,aF,aZ,bg,aX,bF,aK,aN,bD,bH];omega
theorem aiB {l:List bY} {n e:Int} (hl:l.length<999999):P8 l n e=some (decide (rowP l n e)):=by
 refine Wq.dec ?_;unfold P8;refine Wq.bind (Q:=fun w=>match w with | .inl w=>w.1=false/\¬rowP l n e | .inr _=>rowP l n e)
  (gu (n:=l.length) (step:=fun v:Int×Bool×Int×Int=>CQ (len l) l v.1 v.2.1 v.2.2.1 v.2.2.2) hl (fun i x=>rowP l n e↔rowP (l.drop i) x.2.1 x.2.2) _ ?_ ?_ _ 0 (Nat.zero_le _) (by simp)) ?_
 ·rintro i ⟨q,a,b⟩ hi hx;simp only at hx;simp only[CQ];rw[au (by rw[cu];simpa using hi),au (inb _ i hi),aS _ i hi,VY,ai,dH];rw[List.drop_eq_getElem_cons hi,rowP]at hx;refine⟨fun h=>(ah _).2 ⟨rfl,fun g=> ?_⟩,fun h=>(ah _).2 ⟨bQ (by omega),?_⟩⟩
  ·obtain⟨g1,g2,g3, -⟩:=hx.1 g;simp only[aH,aJ,aW,bf,aG,aF,aZ,bg,aX,bF,aK,aN,bD,bH,decide_eq_false_iff_not]at h;rcases h with (h | h) | h
   ·exact h g1
   ·exact h g2
   ·omega
  ·simp only[aH,aJ,aW,bf,aG,aF,aZ,bg,aX,bF,aK,aN,bD,bH,decide_eq_true_iff]at h;obtain⟨⟨h1,h2⟩,h3⟩:=h;have h1':=h1;unfold BP at h1';have ew:wr .i64 (aB l[i].lsn 1)=l[i].lsn+1:=by rw[aB,bV (by omega) (by omega)]
   simp only;rw[ew];exact hx.trans ⟨fun g=>g.2.2.2,fun g=>⟨h1,h2,h3,g⟩⟩
 ·rintro⟨q,a,b⟩ hx;simp only[CQ];rw[bW (BK _),ah];rw[List.drop_length]at hx;exact hx.2 trivial
 ·rintro(w | w) hw
  ·simp only[dJ,ah];simp [hw.1,hw.2]
  ·simp only[dJ,ah];simp only at hw;simp [hw]
theorem air {l:List bY} {n e:Int} (hl:l.length<999999):yN l n e=some (decide (rowP l n e)):=by
 refine Wq.dec ?_;unfold yN;refine Wq.bind (Q:=fun w=>match w with | .inl w=>w=false/\¬rowP l n e | .inr _=>rowP l n e)
  (gu (n:=l.length) (step:=fun v:Int×Bool=>oJ l n e v.1 v.2) hl
    (fun i x=>(i=0/\(rowP l n e↔rowP (l.drop i) n e))\/∃(k:Nat) (hk:k<l.length),i=k+1/\BP l[k]/\(rowP l n e↔rowP (l.drop i) (l[k].lsn+1) l[k].epoch)) _ ?_ ?_ _ 0 (Nat.zero_le _) (.inl ⟨rfl,by simp⟩)) ?_
 ·rintro i q hi hx;simp only[oJ];have h0l:ilt 0 (len l)=true:=DL (by simp only[len];omega);rw[au (by rw[cu];simpa using hi),au (inb _ i hi),aS _ i hi,adr,ai,dP,uH,h0l];rw[List.drop_eq_getElem_cons hi]at hx;by_cases hf:BP l[i]
  case neg=>
   rw[if_neg hf,ah];refine⟨rfl,fun g=> ?_⟩;rcases hx with ⟨-, hx⟩ | ⟨k,hk,-, -, hx⟩
   ·exact hf (hx.1 g).1
   ·exact hf (hx.1 g).1
  rw[if_pos hf];simp only[ja,aP,inb l i hi];rcases hx with ⟨rfl,hx⟩ | ⟨k,hk,rfl,hfk,hx⟩
  ·have e0:ilt ((0:Nat):Int) ((0:Nat):Int)=false:=rfl;have z1:ilt 0 ((0:Nat):Int)=false:=rfl;have z2:ieq ((0:Nat):Int) 0=true:=rfl;have g0:aj l 0=l[0]:=by simp [aj,hi]
   rw[z1,z2,g0];simp only[oQ,aax,aU,aeH,aP,yK,aiI];rw[dH];rw[rowP]at hx;refine⟨fun h=>(ah _).2 ⟨rfl,fun g=> ?_⟩,fun h=>(ah _).2 ⟨bQ (by omega),.inr ⟨0,hi,rfl,hf,?_⟩⟩⟩
   ·obtain⟨g1,g2,g3, -⟩:=hx.1 g;simp only[aH,aJ,aW,bf,aG,aF,aZ,bg,aX,bF,aK,aN,bD,bH]at h;rcases h with h | h
    ·exact h g2
    ·omega
   ·simp only[aH,aJ,aW,bf,aG,aF,aZ,bg,aX,bF,aK,aN,bD,bH]at h;exact hx.trans ⟨fun g=>g.2.2.2,fun g=>⟨hf,h.1,h.2,g⟩⟩
  ·have z1:ilt 0 ((k+1:Nat):Int)=true:=DL (by omega);have z2:ieq ((k+1:Nat):Int) 0=false:=by rw[aN];omega
   have e1:wr .i64 (aV ((k+1:Nat):Int) 1)=(k:Int):=by rw[aV,bV (by omega) (by omega)];omega
   have hfk':=hfk;unfold BP at hfk';have ew:wr .i64 (aB l[k].lsn 1)=l[k].lsn+1:=by rw[aB,bV (by omega) (by omega)]
   rw[z1,z2,e1,aS _ k hk,ew,inb l k hk];simp only[oQ,yK,ja,aP,dD];rw[dH];rw[rowP]at hx;refine⟨fun h=>(ah _).2 ⟨rfl,fun g=> ?_⟩,fun h=>(ah _).2 ⟨bQ (by omega),.inr ⟨k+1,hi,rfl,hf,?_⟩⟩⟩
   ·obtain⟨g1,g2,g3, -⟩:=hx.1 g;simp only[aH,aJ,aW,bf,aG,aF,aZ,bg,aX,bF,aK,aN,bD,bH]at h;rcases h with h | h
    ·exact h g2
    ·omega
   ·simp only[aH,aJ,aW,bf,aG,aF,aZ,bg,aX,bF,aK,aN,bD,bH]at h;exact hx.trans ⟨fun g=>g.2.2.2,fun g=>⟨hf,h.1,h.2,g⟩⟩
 ·rintro q hx;simp only[oJ];rw[bW (BK _),ah];rw[List.drop_length]at hx;rcases hx with ⟨-, hx⟩ | ⟨k,hk,-, -, hx⟩
  ·exact hx.2 trivial
  ·exact hx.2 trivial
 ·rintro(w | w) hw
  ·simp only[dJ,ah];simp only at hw;simp [hw.1,hw.2]
  ·simp only[dJ,ah];simp only at hw;simp [hw]
def yH (w:dG):Prop:=(1<=w.epoch/\w.epoch<=1000000)/\(1<=w.next/\w.next<=1000000001)/\(0<=w.sure/\w.sure<w.next)/\w.wait.length<=32/\(w.wait.length:Int)=w.next - 1 - w.sure/\rowP w.wait (w.sure+1) 1/\
 (∀f∈w.wait,f.epoch=w.epoch)/\((w.seg=0/\w.count=0)\/(1<=w.seg/\1<=w.count/\w.count<=8/\w.seg+w.count=w.sure+1))
instance (w:dG):Decidable (yH w):=by unfold yH;infer_instance
theorem ahW:∀ {l:List bY} {n e:Int},e<=1->(rowP l n e↔rowP l n 1)
 |[],_,_,_=>Iff.rfl
 |f::r,n,e,h=>by unfold rowP BP;constructor<;>rintro⟨g1,g2,g3,g4⟩<;>exact⟨g1,g2,by omega,g4⟩
structure yM (w:dG):Prop where
 epoch:inI w.epoch
 next:inI w.next
 sure:inI w.sure
 seg:inI w.seg
 count:inI w.count
 few:w.wait.length<999999
theorem apd {a b c:Int} (h1:0<=c) (h2:c<=1000000000) (ha:inI a) (hb:inI b):(band (band (band (band (ile 1 a) (ile 1 b)) (ile b 8)) (ile a (wr .i64 (aB c 1)))) (ieq (wr .i64 (aB a b)) (wr .i64 (aB c 1)))=true)↔(1<=a/\1<=b/\b<=8/\a+b=c+1):=by
 have e1:wr .i64 (aB c 1)=c+1:=by rw[aB,bV (by omega) (by omega)]
 rw[e1];simp only[aH,aJ,aW,bf,aG,aF,aZ,bg,aX,bF,aK,aN,bD,bH,aB];constructor
 ·rintro⟨⟨⟨⟨g1,g2⟩,g3⟩,g4⟩,g5⟩;rw[bV (by omega) (by omega)]at g5;exact⟨g1,g2,g3,g5⟩
 ·rintro⟨g1,g2,g3,g4⟩;rw[bV (by omega) (by omega)];exact⟨⟨⟨⟨g1,g2⟩,g3⟩,by omega⟩,g4⟩
theorem Uc {w:dG} (hw:yM w):DT w=some (decide (yH w)):=by
 obtain⟨o1,o2,o3,o4,o5,hl⟩:=hw;refine Wq.dec ?_;unfold DT;rw[dH];refine⟨fun h=>(ah _).2 ?_,fun h=> ?_⟩
 ·simp only[aH,aJ,aW,bf,aG,aF,aZ,bg,aX,bF,aK,aN,bD,bH]at h;unfold yH;constructor
  ·intro g;cases g
  ·rintro⟨g1,g2,g3, -⟩;omega
 simp only[aH,aJ,aW,bf,aG,aF,aZ,bg,aX,bF,aK,aN,bD,bH]at h;have e1:wr .i64 (aV (wr .i64 (aV w.next 1)) w.sure)=w.next - 1 - w.sure:=by
  rw[aV,aV,bV (n:=w.next - 1) (by omega) (by omega),bV (by omega) (by omega)]
 have e2:wr .i64 (aB w.sure 1)=w.sure+1:=by rw[aB,bV (by omega) (by omega)]
 have hse:=apd (c:=w.sure) (by omega) (by omega) o4 o5;rw[e1,e2];rw[e2]at hse;have tail:∀(A B:Bool),(A=false->B=false->((∀f∈w.wait,f.epoch=w.epoch)/\(w.wait.length<=32/\(w.wait.length:Int)=w.next - 1 - w.sure/\rowP w.wait (w.sure+1) 1)))->((A=true\/B=true)->¬((∀f∈w.wait,f.epoch=w.epoch)/\(w.wait.length<=32/\(w.wait.length:Int)=w.next - 1 - w.sure/\rowP w.wait (w.sure+1) 1)))->
  Wq (cnd (bor A B) (some false) (cnd (ieq w.seg 0) (some (ieq w.count 0)) (some (band (band (band (band (ile 1 w.seg) (ile 1 w.count)) (ile w.count 8)) (ile w.seg (w.sure+1))) (ieq (wr .i64 (aB w.seg w.count)) (w.sure+1)))))) fun b=>b=true↔yH w:=by
  intro A B h1 h2;rw[dH];refine⟨fun hc=>(ah _).2 ?_,fun hc=> ?_⟩
  ·rw[aW]at hc;unfold yH;constructor
   ·intro g;cases g
   ·rintro⟨-, -, -, g4,g5,g6,g7, -⟩;exact absurd ⟨g7,g4,g5,g6⟩ (h2 hc)
  ·rw[bf]at hc;obtain⟨k1,k2,k3,k4⟩:=h1 hc.1 hc.2;rw[dQ];by_cases hs:w.seg=0
   ·rw[if_pos hs,ah,aK];unfold yH;constructor
    ·intro g;exact⟨by omega,by omega,by omega,k2,k3,k4,k1,.inl ⟨hs,g⟩⟩
    ·rintro⟨-, -, -, -, -, -, -, g⟩;rcases g with g | g
     ·exact g.2
     ·omega
   ·rw[if_neg hs,ah,hse];unfold yH;constructor
    ·intro g;exact⟨by omega,by omega,by omega,k2,k3,k4,k1,.inr g⟩
    ·rintro⟨-, -, -, -, -, -, -, g⟩;rcases g with g | g
     ·exact absurd g.1 hs
     ·exact g
 by_cases hA:w.wait.length<=32/\(w.wait.length:Int)=w.next - 1 - w.sure
 case neg=>
  have hAb:bor (ilt 32 (len w.wait)) (ak (ieq (len w.wait) (w.next - 1 - w.sure)))=true:=by
   simp only[aH,aJ,aW,bf,aG,aF,aZ,bg,aX,bF,aK,aN,bD,bH,len];omega
  rw[hAb,aI,aO,ai];simp only[ja,aI,aO];exact tail true false (fun g=>by cases g) (fun _ g=>hA ⟨g.2.1,g.2.2.1⟩)
 have hAb:bor (ilt 32 (len w.wait)) (ak (ieq (len w.wait) (w.next - 1 - w.sure)))=false:=by
  simp only[aH,aJ,aW,bf,aG,aF,aZ,bg,aX,bF,aK,aN,bD,bH,len];omega
 rw[hAb,aU,aP,aiB hl,ai];simp only[dD];by_cases hr:rowP w.wait (w.sure+1) 1
 case neg=>
  rw[decide_eq_false hr];simp only[aU,aI,aO,ja];exact tail true false (fun g=>by cases g) (fun _ g=>hr g.2.2.2)
 rw[decide_eq_true hr];simp only[aI,aU,aP,dD];refine Wq.bind (Q:=fun w'=>match w' with | .inl k=>0<=k/\¬∀f∈w.wait,f.epoch=w.epoch | .inr _=>∀f∈w.wait,f.epoch=w.epoch)
  (gu (n:=w.wait.length) (step:=fun v:Int×Int=>dM (len w.wait) w.wait w.epoch w.next w.sure w.seg w.count w.wait v.1 v.2) hl (fun i x=>∀f∈w.wait.take i,f.epoch=w.epoch) _ ?_ ?_ _ 0 (Nat.zero_le _) (by simp)) ?_
 ·rintro i x hi hx;simp only[dM];rw[au (by rw[cu];simpa using hi),au (inb _ i hi),aS _ i hi,dP,dQ];split
  ·rename_i g;refine(ah _).2 ⟨bQ (by omega),?_⟩;rw[iR hi];intro f hf;rcases List.mem_append.1 hf with c | c
   ·exact hx f c
   ·rw[List.mem_singleton.1 c];exact g
  ·rename_i g;exact(ah _).2 ⟨by omega,fun k=>g (k _ (List.getElem_mem hi))⟩
 ·rintro x hx;simp only[dM];rw[bW (BK _),ah];rwa[List.take_length]at hx
 ·rintro(k | k) hk
  ·simp only[dJ];have:=tail false (ile 0 k) (fun _ g=>by rw[bF]at g;have:=hk.1;omega) (fun _ g=>hk.2 g.1);simpa only[dD] using this
  ·simp only[dJ];exact tail false false (fun _ _=>⟨hk,hA.1,hA.2,hr⟩) (fun g=>by rcases g with g | g<;>cases g)
theorem Uy {w:dG} (hw:yM w):lU w=some (decide (yH w)):=by
 obtain⟨o1,o2,o3,o4,o5,hl⟩:=hw;unfold inI at o2 o3 o4 o5;refine Wq.dec ?_;unfold lU;rw[dH];by_cases hb:w.next= -9223372036854775808
 ·refine⟨fun _=>(ah _).2 ?_,fun h=> ?_⟩
  ·unfold yH;constructor
   ·intro g;cases g
   ·rintro⟨g1,g2,g3, -⟩;omega
  ·simp only[aH,aJ,aW,bf,aG,aF,aZ,bg,aX,bF,aK,aN,bD,bH]at h;omega
 have e0:wr .i64 (aV w.next 1)=w.next - 1:=by rw[aV,ng ⟨by omega,by omega⟩]
 rw[e0];refine⟨fun h=>(ah _).2 ?_,fun h=> ?_⟩
 ·simp only[aH,aJ,aW,bf,aG,aF,aZ,bg,aX,bF,aK,aN,bD,bH,len]at h;unfold yH;constructor
  ·intro g;cases g
  ·rintro⟨g1,g2,g3,g4, -⟩;omega
 simp only[aH,aJ,aW,bf,aG,aF,aZ,bg,aX,bF,aK,aN,bD,bH,len]at h;have e1:wr .i64 (aV (wr .i64 (aV w.next w.sure)) 1)=w.next - 1 - w.sure:=by
  rw[aV,aV,bV (n:=w.next - w.sure) (by omega) (by omega),ng ⟨by omega,by omega⟩];omega
 have e2:wr .i64 (aB w.sure 1)=w.sure+1:=by rw[aB,bV (by omega) (by omega)]
 rw[e1,e2];have no:¬((w.wait.length:Int)=w.next - 1 - w.sure/\rowP w.wait (w.sure+1) 1)->¬yH w:=fun g k=>by unfold yH at k;exact g ⟨k.2.2.2.2.1,k.2.2.2.2.2.1⟩
 by_cases hA:(w.wait.length:Int)=w.next - 1 - w.sure
 case neg=>
  have hAb:ieq (len w.wait) (w.next - 1 - w.sure)=false:=by rw[aN];exact hA
  rw[hAb];simp only[aU,aI,aO,ai,ja,aP];rw[ah];exact⟨fun g=>(by cases g),fun g=>absurd g (no fun k=>hA k.1)⟩
 have hAb:ieq (len w.wait) (w.next - 1 - w.sure)=true:=by rw[aK];exact hA
 rw[hAb];simp only[aI,aU,aP,dD];rw[air hl,ai,dP,uH];by_cases hr:rowP w.wait (w.sure+1) 0
 case neg=>
  rw[if_neg hr,ah];exact⟨fun g=>(by cases g),fun g=>absurd g (no fun k=>hr ((ahW (by decide)).2 k.2))⟩
 rw[if_pos hr];refine Wq.bind (Q:=fun w'=>match w' with | .inl b=>b=false/\¬∀f∈w.wait,f.epoch=w.epoch | .inr _=>∀f∈w.wait,f.epoch=w.epoch)
  (gu (n:=w.wait.length) (step:=fun v:Int×Bool=>kT w v.1 v.2) hl (fun i x=>∀f∈w.wait.take i,f.epoch=w.epoch) _ ?_ ?_ _ 0 (Nat.zero_le _) (by simp)) ?_
 ·rintro i x hi hx;simp only[kT];rw[au (by rw[cu];simpa using hi),au (inb _ i hi),aS _ i hi,dP,dQ];split
  ·rename_i g;refine(ah _).2 ⟨bQ (by omega),?_⟩;rw[iR hi];intro f hf;rcases List.mem_append.1 hf with c | c
   ·exact hx f c
   ·rw[List.mem_singleton.1 c];exact g
  ·rename_i g;exact(ah _).2 ⟨rfl,fun k=>g (k _ (List.getElem_mem hi))⟩
 ·rintro x hx;simp only[kT];rw[bW (BK _),ah];rwa[List.take_length]at hx
 ·rintro(k | k) hk
  ·simp only[dJ,ah];simp only at hk;rw[hk.1];exact⟨fun g=>(by cases g),fun g=>absurd g.2.2.2.2.2.2.1 hk.2⟩
  ·simp only[dJ];simp only at hk;have base:((1<=w.epoch/\w.epoch<=1000000)/\(1<=w.next/\w.next<=1000000001)/\(0<=w.sure/\w.sure<w.next))/\w.wait.length<=32:=by omega
   have hr1:=(ahW (l:=w.wait) (n:=w.sure+1) (e:=0) (by decide)).1 hr;rw[dH];refine⟨fun g=>(ah _).2 ?_,fun g=>(ah _).2 ?_⟩
   ·simp only[aH,aJ,aW,bf,aG,aF,aZ,bg,aX,bF,aK,aN,bD,bH]at g;exact⟨fun _=>⟨base.1.1,base.1.2.1,base.1.2.2,base.2,hA,hr1,hk,.inl g⟩,fun _=>rfl⟩
   ·simp only[aH,aJ,aW,bf,aG,aF,aZ,bg,aX,bF,aK,aN,bD,bH]at g ⊢;constructor
    ·rintro⟨⟨⟨⟨g1,g2⟩,g3⟩,g4⟩,g5⟩;rw[aB,bV (by omega) (by omega)]at g5;exact⟨base.1.1,base.1.2.1,base.1.2.2,base.2,hA,hr1,hk,.inr ⟨g1,g3,g4,g5⟩⟩
    ·rintro⟨-, -, -, -, -, -, -, k8⟩;rcases k8 with k8 | ⟨k1,k2,k3,k4⟩
     ·rcases g with g | g
      ·exact absurd k8.1 g
      ·exact absurd k8.2 g
     ·rw[aB,bV (by omega) (by omega)];exact⟨⟨⟨⟨k1,by omega⟩,k2⟩,k3⟩,k4⟩
theorem aoz (s:Nm):0<=yL uy s:=by unfold yL;split<;>omega
theorem XR (s:Nm):JI s=some (yL uy s):=rfl
def xX (l:List bn):List Int:=(l.map fun f=>yL uy f.name).filter fun n=>decide (0<n)
def abb (d:aC):List Int:=if iC d then xX d.files else []
theorem aeY (a b:List bn):xX (a++b)=xX a++xX b:=by simp [xX]
theorem adW (f:bn):xX [f]=if 0<yL uy f.name then [yL uy f.name]else []:=by
 unfold xX;by_cases h:0<yL uy f.name<;>simp [h]
theorem Ve (l:List bn):(xX l).length<=l.length:=by
 unfold xX;exact Nat.le_trans (List.length_filter_le ..) (by simp)
theorem abE {d:aC} (hn:nameB d):sJ d=some (abb d):=by
 refine Wq.eq ?_;unfold sJ abb;rw[JU hn,ai,dP,uH];by_cases hd:iC d
 case neg=>rw[if_neg hd,ah,if_neg hd]
 rw[if_pos hd,if_pos hd];have hl:=hd.fl;refine Wq.bind (gu (n:=d.files.length) (step:=fun v:Int×List Int=>rZ (len d.files) d.files v.1 v.2) (by omega) (fun i x=>x=xX (d.files.take i)) (fun w=>w=xX d.files) ?_ ?_ _ 0 (Nat.zero_le _) (by simp [xX])) fun w hw=>(ah _).2 hw
 ·rintro i x hi rfl;simp only[rZ];have h1:=Ve (d.files.take i);rw[List.length_take]at h1;rw[au (by rw[cu];simpa using hi),au (inb _ i hi),aS _ i hi,XR,ai,Ea,au (gV (by simp only[len,aQ,List.length_append,List.length_singleton];omega)),iR hi,aeY,adW];split
  ·rw[ah];exact⟨bQ (by omega),rfl⟩
  ·rw[ah];exact⟨bQ (by omega),by simp⟩
 ·rintro x rfl;simp only[rZ];rw[bW (BK _),ah,List.take_length]
theorem acO {d:aC} (hn:nameB d) (hl:d.files.length<99999):qx d=some (abb d):=by
 refine Wq.eq ?_;unfold qx;by_cases hd:iC d
 case neg=>
  have hz:abb d=[]:=by unfold abb;rw[if_neg hd]
  rw[hz];refine Wq.bind (Q:=fun w=>w=[]) (Uf (step:=fun v:Int×List Int=>fM d v.1 v.2) (fun _=>0) (fun v=>v=(0,[])) _ ?_ LF _ (aaw (by decide)) rfl) fun w hw=>(ah _).2 hw;rintro _ rfl;simp only[fM];rw[FV hn,decide_eq_false hd];refine Wq.bind (Q:=fun b=>b=false) ?_ fun b hb=> ?_
  ·rw[dH,ah];exact⟨fun _=>rfl,fun _=>rfl⟩
  ·rw[hb,aax,aO,ah]
 have hz:abb d=xX d.files:=by unfold abb;rw[if_pos hd]
 rw[hz];refine Wq.bind (gu (n:=d.files.length) (step:=fun v:Int×List Int=>fM d v.1 v.2) (by omega) (fun i x=>x=xX (d.files.take i)) (fun w=>w=xX d.files) ?_ ?_ _ 0 (Nat.zero_le _) (by simp [xX])) fun w hw=>(ah _).2 hw
 ·rintro i x hi rfl;simp only[fM];have hnm:=(hd.2.1.1 _ (List.getElem_mem hi)).1;have h1:=Ve (d.files.take i);rw[List.length_take]at h1;have hlt:ilt (i:Int) (len d.files)=true:=by rw[cu];simpa using hi
  rw[hlt,aP,FV hn,decide_eq_true hd,ai,oQ,aP,au (LD (gV (by omega)) rfl),aS _ i hi,agk hnm.len,ai,Ea,au (gV (by simp only[len,aQ,List.length_append,List.length_singleton];omega)),iR hi,aeY,adW];split
  ·rw[ah];exact⟨bQ (by omega),rfl⟩
  ·rw[ah];exact⟨bQ (by omega),by simp⟩
 ·rintro x rfl;simp only[fM];rw[BK,aO,ai,yK,aO,ah,List.take_length]
def xU (w:dG) (d:aC):Prop:=yH w/\iC d/\(∀f∈d.files,yL uy f.name<=w.sure)/\(w.seg=0\/∃f,lG d.files (mr w.seg)=some f/\(f.data.length:Int)=w.count*72)
theorem X6 {d:aC} (ha:OI d.files) {g:Int} (hg:C9 g) {f:bn} (hf:f∈d.files):yL uy f.name=g↔lG d.files (mr g)=some f:=by
 constructor
 ·intro h;have hne:yL uy f.name≠0:=by rw[h];unfold C9 at hg;omega
  have:=(aex hne).2;rw[h]at this;rw[<-this];exact get_mem ha hf
 ·intro h;rw[(Ei h).2,Y5 hg]
theorem yH.seg {w:dG} (h:yH w) (hs:w.seg≠0):C9 w.seg/\w.seg<=w.sure/\1<=w.count/\w.count<=8/\w.seg+w.count=w.sure+1:=by
 obtain⟨-, h2,h3,-, -, -, -, h8⟩:=h;rcases h8 with h8 | h8
 ·exact absurd h8.1 hs
 ·exact⟨⟨h8.1,by omega⟩,by omega,h8.2.1,h8.2.2.1,h8.2.2.2⟩
open Classical in
theorem acp {w:dG} {d:aC} (hw:yM w) (hn:nameB d):KT w d=some (decide (xU w d)):=by
 refine Wq.dec ?_;unfold KT;rw[Uc hw,ai];by_cases hp:yH w
 case neg=>
  rw[decide_eq_false hp];simp only[aU,aI,aO,ai,ja,aP];rw[ah];exact⟨fun g=>(by cases g),fun g=>absurd g.1 hp⟩
 rw[decide_eq_true hp,aI,aU,aP,JU hn,ai,dD,dP,uH];by_cases hd:iC d
 case neg=>
  rw[if_neg hd,ah];exact⟨fun g=>(by cases g),fun g=>absurd g.2.1 hd⟩
 rw[if_pos hd];have hl:=hd.fl;have hus:=hd.us;have esz:∀f∈d.files,(f.data.length:Int)<=65536:=fun f hf=>by
  obtain⟨j,hj,rfl⟩:=List.mem_iff_getElem.1 hf;have:=Du hj;have:=Kz d.files (j+1);omega
 have ecnt:wr .i64 (cO w.count 72)=w.count*72:=by
  have:=hp.2.2.2.2.2.2.2;rw[cO,bV (by omega) (by omega)]
 refine Wq.bind (Q:=fun x=>match x with
  |.inl b=>b=false/\¬∀f∈d.files,yL uy f.name<=w.sure
  |.inr x=>(∀f∈d.files,yL uy f.name<=w.sure)/\(x.1=true↔(w.seg=0\/∃f∈d.files,w.seg≠0/\yL uy f.name=w.seg/\(f.data.length:Int)=w.count*72)))
  (gu (n:=d.files.length) (step:=fun v:Int×Bool×Bool=>Aq (len d.files) d.files w v.1 v.2.1 v.2.2) (by omega)
    (fun i x=>(∀f∈d.files.take i,yL uy f.name<=w.sure)/\(x.1=true↔(w.seg=0\/∃f∈d.files.take i,w.seg≠0/\yL uy f.name=w.seg/\(f.data.length:Int)=w.count*72))) _ ?_ ?_ _ 0 (Nat.zero_le _) ⟨by simp,by simp only[aK,List.take_zero];simp⟩) ?_
 ·rintro i ⟨v,q⟩ hi ⟨h1,h2⟩;simp only at h2;simp only[Aq];have hnn:=aoz d.files[i].name;rw[au (by rw[cu];simpa using hi),au (inb _ i hi),aS _ i hi,XR,ai,ecnt,dH];refine⟨fun hc=>(ah _).2 ⟨bQ (by omega),?_,?_⟩,fun hc=> ?_⟩
  ·simp only[aH,aJ,aW,bf,aG,aF,aZ,bg,aX,bF,aK,aN,bD,bH]at hc;have hs:=hp.seg (by omega);rw[iR hi];intro f hf;rcases List.mem_append.1 hf with c | c
   ·exact h1 f c
   ·rw[List.mem_singleton.1 c];omega
  ·simp only[aH,aJ,aW,bf,aG,aF,aZ,bg,aX,bF,aK,aN,bD,bH]at hc;have hs:=hp.seg (by omega);have hsz:w.seg≠0:=by omega
   simp only;rw[aK,iR hi];constructor
   ·intro g;exact .inr ⟨d.files[i],List.mem_append_right _ (List.mem_singleton.2 rfl),hsz,hc.2,g⟩
   ·rintro(g | ⟨f,hf,-, g2,g3⟩)
    ·exact absurd g hsz
    ·have hfm:f∈d.files:=by
      rcases List.mem_append.1 hf with c | c
      ·exact List.mem_of_mem_take c
      ·rw[List.mem_singleton.1 c];exact List.getElem_mem hi
     have e1:=(X6 hd.asc hs.1 hfm).1 g2;have e2:=(X6 hd.asc hs.1 (List.getElem_mem hi)).1 hc.2;rw[e1]at e2;rw[<-Option.some.inj e2];exact g3
  ·rw[dH];refine⟨fun hc2=>(ah _).2 ⟨rfl,fun g=> ?_⟩,fun hc2=>(ah _).2 ⟨bQ (by omega),?_,?_⟩⟩
   ·simp only[aH,aJ,aW,bf,aG,aF,aZ,bg,aX,bF,aK,aN,bD,bH]at hc2;have:=g _ (List.getElem_mem hi);omega
   ·simp only[aH,aJ,aW,bf,aG,aF,aZ,bg,aX,bF,aK,aN,bD,bH]at hc2;rw[iR hi];intro f hf;rcases List.mem_append.1 hf with c | c
    ·exact h1 f c
    ·rw[List.mem_singleton.1 c];exact hc2
   ·simp only[aH,aJ,aW,bf,aG,aF,aZ,bg,aX,bF,aK,aN,bD,bH]at hc hc2;simp only;rw[h2,iR hi];constructor
    ·rintro(g | ⟨f,hf,g⟩)
     ·exact .inl g
     ·exact .inr ⟨f,List.mem_append_left _ hf,g⟩
    ·rintro(g | ⟨f,hf,g1,g2,g3⟩)
     ·exact .inl g
     ·rcases List.mem_append.1 hf with c | c
      ·exact .inr ⟨f,c,g1,g2,g3⟩
      ·rw[List.mem_singleton.1 c]at g2;have hs:=hp.seg g1;have:=hs.1.1;omega
 ·rintro⟨v,q⟩ ⟨h1,h2⟩;simp only[Aq];rw[bW (BK _),ah];rw[List.take_length]at h1 h2;exact⟨h1,h2⟩
 ·rintro(x | x) hx
  ·simp only[dJ,ah];simp only at hx;rw[hx.1];exact⟨fun g=>(by cases g),fun g=>absurd g.2.2.1 hx.2⟩
  ·simp only[dJ,ah];simp only at hx;rw[hx.2];unfold xU;constructor
   ·rintro(g | ⟨f,hf,g1,g2,g3⟩)
    ·exact⟨hp,hd,hx.1,.inl g⟩
    ·exact⟨hp,hd,hx.1,.inr ⟨f,(X6 hd.asc (hp.seg g1).1 hf).1 g2,g3⟩⟩
   ·rintro⟨-, -, -, g | ⟨f,g1,g2⟩⟩
    ·exact .inl g
    ·by_cases hs:w.seg=0
     ·exact .inl hs
     ·exact .inr ⟨f,(Ei g1).1,hs,(X6 hd.asc (hp.seg hs).1 (Ei g1).1).2 g1,g2⟩
open Classical in
theorem aa7 {w:dG} {d:aC} (hw:yM w) (hn:nameB d):qN w d=some (decide (xU w d)):=by
 refine Wq.dec ?_;unfold qN;rw[Uy hw,ai];by_cases hp:yH w
 case neg=>
  rw[decide_eq_false hp];simp only[aU,aI,aO,ai,ja,aP];rw[ah];exact⟨fun g=>(by cases g),fun g=>absurd g.1 hp⟩
 rw[decide_eq_true hp,aI,aU,aP,FV hn,ai,dD,dP,uH];by_cases hd:iC d
 case neg=>
  rw[if_neg hd,ah];exact⟨fun g=>(by cases g),fun g=>absurd g.2.1 hd⟩
 rw[if_pos hd,acO hn (by have:=hd.fl;omega),ai];have hl:=hd.fl;have hsg:abb d=xX d.files:=by unfold abb;rw[if_pos hd]
 have hsl:=Ve d.files;rw[hsg];have ecnt:wr .i64 (cO w.count 72)=w.count*72:=by
  have:=hp.2.2.2.2.2.2.2;rw[cO,bV (by omega) (by omega)]
 have hmem:(∀n∈xX d.files,n<=w.sure)↔∀f∈d.files,yL uy f.name<=w.sure:=by
  unfold xX;constructor
  ·intro h f hf;by_cases h0:0<yL uy f.name
   ·exact h _ (List.mem_filter.2 ⟨List.mem_map.2 ⟨f,hf,rfl⟩,by simpa using h0⟩)
   ·have:=hp.2.2.1;omega
  ·intro h n hn;obtain⟨hn1, -⟩:=List.mem_filter.1 hn;obtain⟨f,hf,rfl⟩:=List.mem_map.1 hn1;exact h f hf
 generalize xX d.files=L at hsl hmem ⊢
 refine Wq.bind (Q:=fun x=>match x with
  |.inl b=>b=false/\¬∀n∈L,n<=w.sure
  |.inr x=>∀n∈L,n<=w.sure)
  (gu (n:=L.length) (step:=fun v:Int×Bool=>mP L w v.1 v.2) (by omega) (fun i x=>∀n∈L.take i,n<=w.sure) _ ?_ ?_ _ 0 (Nat.zero_le _) (by simp)) ?_
 ·rintro i x hi hx;simp only[mP];rw[au (by rw[cu];simpa using hi),au (inb _ i hi),aS _ i hi,Ea];split
  ·rename_i g;rw[ah];exact⟨rfl,fun k=>by have:=k _ (List.getElem_mem hi);omega⟩
  ·rename_i g;rw[ah];refine⟨bQ (by omega),?_⟩;rw[iR hi];intro f hf;rcases List.mem_append.1 hf with c | c
   ·exact hx f c
   ·rw[List.mem_singleton.1 c];omega
 ·rintro x hx;simp only[mP];rw[bW (BK _),ah];rwa[List.take_length]at hx
 ·rintro(x | x) hx
  ·simp only[dJ,ah];simp only at hx;rw[hx.1];exact⟨fun g=>(by cases g),fun g=>absurd (hmem.2 g.2.2.1) hx.2⟩
  ·simp only[dJ];simp only at hx;rw[dQ];by_cases hs:w.seg=0
   ·rw[if_pos hs,ah];exact⟨fun _=>⟨hp,hd,hmem.1 hx,.inl hs⟩,fun _=>rfl⟩
   ·rw[if_neg hs,acR (hp.seg hs).1,ai];refine(aiW hd.asc (by omega)).bind ?_;rintro k (⟨rfl,hg⟩ | ⟨i,hi,rfl,hg⟩)
    ·rw[au (by rw[aW,aG];exact .inr (MX (by omega))),ah,show ile 0 (-1)=false from rfl,yK];constructor
     ·intro g;cases g
     ·rintro⟨-, -, -, g | ⟨f,g1, -⟩⟩
      ·exact absurd g hs
      ·rw[hg]at g1;cases g1
    ·rw[au (by rw[aW];exact .inl (inb _ _ hi)),ah,aS _ _ hi,show ile 0 (i:Int)=true from gV (by omega),oQ,aK,ecnt];constructor
     ·intro g;exact⟨hp,hd,hmem.1 hx,.inr ⟨_,hg,g⟩⟩
     ·rintro⟨-, -, -, g | ⟨f,g1,g2⟩⟩
      ·exact absurd g hs
      ·rw[hg]at g1;rw[Option.some.inj g1];exact g2
def N9 (f:bY):List Int:=rH 72 4++rH f.epoch 4++rH f.lsn 8++rH f.kind 4++rH f.b0 8++rH f.b1 8++rH f.b2 8++rH f.b3 8++rH f.b4 8++rH f.b5 8
def Rf (f:bY):List Int:=N9 f++Yc (ajf (N9 f))
theorem KX (f:bY):(N9 f).length=68:=by simp [N9,kU]
theorem aiq (f:bY):(Rf f).length=72:=by simp [Rf,KX,Yc]
theorem TW (f:bY):CZ (N9 f):=by
 unfold N9;exact((((((((((xK _ _).app (xK _ _)).app (xK _ _)).app (xK _ _)).app (xK _ _)).app (xK _ _)).app (xK _ _)).app (xK _ _)).app (xK _ _)).app (xK _ _))
theorem ahn (f:bY):CZ (Rf f):=(TW f).app (aiH _)
theorem agY (n:Int) {j:Nat} (hj:j<8):dn .u64 n ((8*j:Nat):Int)=n / 256^j:=by
 have h2:min (((8*j:Nat):Int).toNat) (IntKind.bits .u64)=8*j:=by
  simp only[IntKind.bits,Int.toNat_natCast];omega
 unfold dn;rw[h2,Int.pow_mul,Int.fdiv_eq_ediv_of_nonneg _ (Int.le_of_lt (Int.pow_pos (by decide)))]
 rfl
theorem aq6 {n:Int} {i:Nat} (hi:i<8):ile 0 (wr .i64 (cO 8 (i:Int)))=true/\wr .u8 (dn .u64 (wr .u64 n) (wr .i64 (cO 8 (i:Int))))=n / 256^i%256:=by
 have h1:wr .i64 (cO 8 (i:Int))=((8*i:Nat):Int):=by
  unfold cO;rw[bV (by omega) (by omega)];omega
 rw[h1,agY _ hi,MV,rX];exact⟨gV (by omega),abN n hi⟩
theorem alS {n:Int} {acc:List Int} (k:Nat) (hk:k<=8) (hl:acc.length<1000000):bZ (fun v:Int×List Int=>bG (wr .u64 n) v.1 v.2) LF ((k:Int) - 1,acc)=some (acc++rH n k):=by
 refine Wq.eq (aqX (n:=k) (by omega) (fun i x=>x++rH n i=acc++rH n k/\x.length+i=acc.length+k) _ (fun i x hi hj=> ?_) (fun x hj=> ?_) acc ⟨rfl,rfl⟩)
 ·obtain⟨h1,h2⟩:=aq6 (n:=n) (i:=i) (by omega);simp only;unfold bG;rw[h2,au (gV (by omega)),au h1,au (yI (n:=1000100) (by simp only[aQ,List.length_append,List.length_cons,List.length_nil];omega) (by decide)),ah];refine⟨ape (by omega),?_,?_⟩
  ·rw[<-hj.1];show(x++[_])++rH n i=x++(_::rH n i);rw[List.append_assoc];rfl
  ·simp only[aQ,List.length_append,List.length_cons,List.length_nil];omega
 ·simp only;unfold bG;rw[bW (MX (by omega)),ah];have:=hj.1;simpa [rH] using this
theorem ai1 (c:Int):[wr .u8 c,wr .u8 (dn .u32 c 8),wr .u8 (dn .u32 c 16),wr .u8 (dn .u32 c 24)]=Yc c:=by
 have t1:wr .u8 (dn .u32 c 8)=c / 256^1%256:=(ai6 (n:=c) (i:=1) (by decide)).2;have t2:wr .u8 (dn .u32 c 16)=c / 256^2%256:=(ai6 (n:=c) (i:=2) (by decide)).2;have t3:wr .u8 (dn .u32 c 24)=c / 256^3%256:=(ai6 (n:=c) (i:=3) (by decide)).2;rw[t1,t2,t3,MV];rfl
theorem ab5 {f:bY} (h:BP f):Fb f=some (Rf f,0):=by
 refine Wq.eq ?_;unfold Fb;rw[VY,decide_eq_true h,ai,aI,aO];have p4:=fun(n:Int) (acc:List Int) (hl:acc.length<1000000)=>alS (n:=n) (acc:=acc) 4 (by decide) hl;have p8:=fun(n:Int) (acc:List Int) (hl:acc.length<1000000)=>alS (n:=n) (acc:=acc) 8 (by decide) hl;have c4:((4:Nat):Int) - 1=3:=rfl;have c8:((8:Nat):Int) - 1=7:=rfl;simp only[c4]at p4;simp only[c8]at p8;have e72:(72:Int)=wr .u64 72:=rfl;have L1:jV=bG:=rfl;have L2:jB=bG:=rfl;have L3:jF=bG:=rfl;have L4:jA=bG:=rfl;have L5:jy=bG:=rfl;have L6:jO=bG:=rfl;have L7:jL=bG:=rfl;have L8:jM=bG:=rfl;have L9:jG=bG:=rfl;have q72:bZ (fun v:Int×List Int=>bG 72 v.1 v.2) LF (3,[])=some ([]++rH 72 4):=p4 72 [] (by simp);rw[L1,L2,L3,L4,L5,L6,L7,L8,L9,q72,ai,p4 _ _ (by simp [kU]),ai,p8 _ _ (by simp [kU]),ai,p4 _ _ (by simp [kU]),ai,p8 _ _ (by simp [kU]),ai,p8 _ _ (by simp [kU]),ai,p8 _ _ (by simp [kU]),ai,p8 _ _ (by simp [kU]),ai,p8 _ _ (by simp [kU]),ai,p8 _ _ (by simp [kU]),ai];have eH:[]++rH 72 4++rH f.epoch 4++rH f.lsn 8++rH f.kind 4++rH f.b0 8++rH f.b1 8++rH f.b2 8++rH f.b3 8++rH f.b4 8++rH f.b5 8=N9 f:=by unfold N9;rw[List.nil_append]
 rw[eH,akB (by rw[KX];decide) (TW f),ai,ai1,au (yI (n:=1000) (by simp [aQ,KX,Yc]) (by decide)),ah]
 rfl
theorem afd (n:Int):kG (wr .u64 n)=some (rH n 4):=by
 unfold kG;have t1:dn .u64 (wr .u64 n) 8=wr .u64 n / 256^1:=agY (wr .u64 n) (j:=1) (by decide);have t2:dn .u64 (wr .u64 n) 16=wr .u64 n / 256^2:=agY (wr .u64 n) (j:=2) (by decide);have t3:dn .u64 (wr .u64 n) 24=wr .u64 n / 256^3:=agY (wr .u64 n) (j:=3) (by decide);have u:=fun {j:Nat} (hj:j<8)=>abN n hj;have t0:wr .u8 (wr .u64 n)=n / 256^0%256:=by rw[MV,rX];have:=u (j:=0) (by decide);simpa using this
 rw[t1,t2,t3,t0,MV,MV,MV,rX,u (by decide),u (by decide),u (by decide)]
 rfl
theorem QB (n:Int):fJ n=some (rH n 8):=by
 refine Wq.eq ?_;unfold fJ;have hX:0<=wr .u64 n/\wr .u64 n<18446744073709551616:=by rw[rX];omega
 have hs:dn .u64 (wr .u64 n) 32=wr .u64 n / 256^4:=agY (wr .u64 n) (j:=4) (by decide);have h256:(256:Int)^4=4294967296:=by decide
 have hw:wr .u64 (wr .u64 n / 256^4)=wr .u64 n / 256^4:=by
  rw[rX (wr .u64 n / 256^4),h256];omega
 rw[hs,<-hw,afd,ai,afd,ai,au (yI (n:=100) (by simp [aQ,kU]) (by decide)),ah];have u:=fun {j:Nat} (hj:j<8)=>abN n hj;have v:∀j:Nat,j<4->wr .u64 n / 256^4 / 256^j%256=n / 256^(j+4)%256:=fun j hj=>by
  rw[Int.ediv_ediv_of_nonneg (by decide),<-Int.pow_add,rX,Nat.add_comm 4 j,u (by omega)]
 show rH (wr .u64 n / 256^4) 4++rH n 4=rH n 8;simp only[rH,List.cons_append,List.nil_append];rw[v 3 (by decide),v 2 (by decide),v 1 (by decide),v 0 (by decide)]
theorem aqS (c:Int) (h:0<=c/\c<4294967296):[wr .u8 (Jl c 256),wr .u8 (Jl (wr .u32 (QW c 256)) 256),wr .u8 (Jl (wr .u32 (QW c 65536)) 256),wr .u8 (wr .u32 (QW c 16777216))]=Yc c:=by
 have q:∀m:Int,0<m->wr .u32 (QW c m)=c / m:=fun m hm=>by
  unfold QW;rw[Int.tdiv_eq_ediv_of_nonneg h.1,afD,Int.emod_eq_of_lt (Int.ediv_nonneg h.1 (by omega)) (by have:=Int.ediv_le_self m h.1;omega)]
 have n:∀m:Int,0<m->0<=c / m:=fun m hm=>Int.ediv_nonneg h.1 (by omega);unfold Yc;rw[q 256 (by decide),q 65536 (by decide),q 16777216 (by decide)];unfold Jl;rw[Int.tmod_eq_emod_of_nonneg h.1,Int.tmod_eq_emod_of_nonneg (n 256 (by decide)),Int.tmod_eq_emod_of_nonneg (n 65536 (by decide)),MV,MV,MV,MV,Int.emod_emod,Int.emod_emod,Int.emod_emod]
theorem arK:([0,0,0,72]:List Int)=rH 72 4:=by decide
theorem acr (f:bY):sV f=some (Rf f):=by
 refine Wq.eq ?_;unfold sV;have big:∀l:List Int,l.length<=1000->ile (len l) 68719476736=true:=fun l h=>yI (n:=1000) h (by decide)
 rw[afd,ai,au (big _ (by simp [aQ,kU])),QB,ai,au (big _ (by simp [aQ,kU])),afd,ai,au (big _ (by simp [aQ,kU])),QB,ai,au (big _ (by simp [aQ,kU])),
  QB,ai,au (big _ (by simp [aQ,kU])),QB,ai,au (big _ (by simp [aQ,kU])),QB,ai,au (big _ (by simp [aQ,kU])),QB,ai,au (big _ (by simp [aQ,kU])),QB,ai,au (big _ (by simp [aQ,kU]))]
 have eH:aQ (aQ (aQ (aQ (aQ (aQ (aQ (aQ (aQ [0,0,0,72] (rH f.epoch 4)) (rH f.lsn 8)) (rH f.kind 4)) (rH f.b0 8)) (rH f.b1 8)) (rH f.b2 8)) (rH f.b3 8)) (rH f.b4 8)) (rH f.b5 8)=N9 f:=by
  rw[arK];unfold aQ N9;exact Eq.refl _
 rw[eH,alK (by rw[KX];decide) (TW f),ai,aqS _ (amD _),au (big _ (by simp [aQ,KX,Yc])),ah];unfold Rf aQ;exact Eq.refl _
def rowB (l:List bY):List Int:=l.flatMap Rf
theorem TM (l:List bY):(rowB l).length=72*l.length:=flat_length aiq l
theorem akv (l:List bY):CZ (rowB l):=ai9 fun x _=>ahn x
theorem ahx (a b:List bY):rowB (a++b)=rowB a++rowB b:=by simp [rowB]
theorem aiN {l:List bY} (hl:l.length<1000) (h:∀f∈l,BP f):G6 l=some (rowB l,0):=by
 refine Wq.eq ?_;unfold G6;refine Wq.bind (Q:=fun w=>match w with | .inl _=>False | .inr w=>w.1=rowB l)
  (gu (n:=l.length) (step:=fun v:Int×List Int×Int×List Int=>CP (len l) l v.1 v.2.1 v.2.2.1 v.2.2.2) (by omega) (fun i x=>x.1=rowB (l.take i)) _ ?_ ?_ _ 0 (Nat.zero_le _) (by simp [rowB])) ?_
 ·rintro i ⟨b,e,z⟩ hi hx;simp only at hx;subst hx;simp only[CP];have hbl:=TM (l.take (i+1));rw[List.length_take]at hbl;rw[au (by rw[cu];simpa using hi),au (inb _ i hi),aS _ i hi,ab5 (h _ (List.getElem_mem hi)),ai];have eb:aQ (rowB (l.take i)) (Rf l[i])=rowB (l.take (i+1)):=by rw[iR hi,ahx];simp [aQ,rowB]
  simp only[kD,aI,aO];rw[eb,au (yI (n:=72000) (by omega) (by decide)),ah];exact⟨bQ (by omega),rfl⟩
 ·rintro⟨b,e,z⟩ hx;simp only at hx;simp only[CP];rw[bW (BK _),ah];rwa[List.take_length]at hx
 ·rintro(w | w) hw
  ·exact hw.elim
  ·simp only[dJ,ah];simp only at hw;rw[hw]
theorem aiV {l:List bY} (hl:l.length<1000):o6 l=some (rowB l):=by
 refine Wq.eq ?_;unfold o6;refine Wq.bind (gu (n:=l.length) (step:=fun v:Int×List Int=>oN l v.1 v.2) (by omega) (fun i x=>x=rowB (l.take i)) (fun w=>w=rowB l) ?_ ?_ _ 0 (Nat.zero_le _) (by simp [rowB])) fun w hw=>(ah _).2 hw
 ·rintro i x hi rfl;simp only[oN];have hbl:=TM (l.take (i+1));rw[List.length_take]at hbl;have eb:aQ (rowB (l.take i)) (Rf l[i])=rowB (l.take (i+1)):=by rw[iR hi,ahx];simp [aQ,rowB]
  rw[au (by rw[cu];simpa using hi),au (inb _ i hi),aS _ i hi,acr,ai,eb,au (yI (n:=72000) (by omega) (by decide)),ah];exact⟨bQ (by omega),rfl⟩
 ·rintro x rfl;simp only[oN];rw[bW (BK _),ah,List.take_length]
def vZ (w:dG):Int×Int:=if w.seg=0\/w.count=8 then (w.sure+1,0)else (w.seg,w.count)
def jP (w:dG):Nat:=min w.wait.length (8 - (vZ w).2).toNat
def vC (w:dG):dG:=⟨w.epoch,w.next,w.sure+(jP w:Int),(vZ w).1,(vZ w).2+(jP w:Int),w.wait.drop (jP w)⟩
def writeW (w:dG) (d:aC):aC×Int:=ab4 (pK d (mr (vZ w).1) (rowB (w.wait.take (jP w)))) fun d=>Es d (mr (vZ w).1)
def pG:Nat->dG->aC->dG×aC×Int
 |0,w,d=>(w,d,0)
 |k+1,w,d=>if w.wait=[]then (w,d,0)else if (writeW w d).2≠0 then (w,(writeW w d).1,(writeW w d).2)else pG k (vC w) (writeW w d).1
open Classical in
noncomputable def dV (w:dG) (d:aC):dG×aC×Int:=if xU w d then pG 40 w d else (w,d,1)
theorem ac2:∀ {l:List bY} {n e:Int},rowP l n e->∀f∈l,BP f
 |[],_,_,_,f,hf=>by cases hf
 |g::l,n,e,h,f,hf=>by
  unfold rowP at h
  rcases List.mem_cons.1 hf with rfl | hf
  ·exact h.1
  ·exact ac2 h.2.2.2 f hf
theorem aeW:∀ {l:List bY} {n e:Int} (k:Nat),k<=l.length->rowP l n e->rowP (l.drop k) (n+k) 1
 |l,n,e,0,_,h=>by
  rw[List.drop_zero,Int.natCast_zero,Int.add_zero]
  cases l with
  |nil=>trivial
  |cons f r=>unfold rowP at h ⊢; exact⟨h.1,h.2.1,h.1.1,h.2.2.2⟩
 |[],n,e,k+1,hk,h=>by simp at hk
 |f::r,n,e,k+1,hk,h=>by
  unfold rowP at h
  rw[List.drop_succ_cons]
  have:=aeW k (by simp at hk;omega) h.2.2.2
  rw[show n+((k+1:Nat):Int)=f.lsn+1+(k:Int) by rw[h.2.1];omega]
  exact this
theorem UW {w:dG} (hw:yH w) (hne:w.wait≠[]):C9 (vZ w).1/\0<=(vZ w).2/\(vZ w).2<=7/\(vZ w).1+(vZ w).2=w.sure+1:=by
 obtain⟨h1,h2,h3,h4,h5,h6,h7,h8⟩:=hw;have hl:0<w.wait.length:=List.length_pos_iff.2 hne;unfold vZ C9;split
 ·simp only;omega
 ·rename_i h;simp only;rcases h8 with h8 | h8<;>omega
theorem LC {w:dG} (hw:yH w) (hne:w.wait≠[]):1<=jP w/\jP w<=w.wait.length/\(jP w:Int)<=8 - (vZ w).2/\(jP w:Int)=ji (len w.wait) (8 - (vZ w).2):=by
 obtain⟨-, g1,g2, -⟩:=UW hw hne;have hl:0<w.wait.length:=List.length_pos_iff.2 hne;have hl2:len w.wait=(w.wait.length:Int):=rfl;rw[aot];unfold jP;refine⟨by omega,by omega,by omega,?_⟩;by_cases h:8 - (vZ w).2<len w.wait
 ·rw[if_pos h];omega
 ·rw[if_neg h];omega
theorem TY {w:dG} (hw:yH w) (hne:w.wait≠[]):yH (vC w):=by
 obtain⟨g0,g1,g2,g3⟩:=UW hw hne;obtain⟨t1,t2,t3, -⟩:=LC hw hne;obtain⟨h1,h2,h3,h4,h5,h6,h7,h8⟩:=hw;unfold C9 at g0;have hr:=aeW (jP w) t2 h6;refine⟨h1,h2,⟨?_,?_⟩,?_,?_,?_,?_,.inr ⟨g0.1,?_,?_,?_⟩⟩
 ·simp only[vC];omega
 ·simp only[vC];omega
 ·simp only[vC,List.length_drop];omega
 ·simp only[vC,List.length_drop];omega
 ·simp only[vC];rw[show w.sure+(jP w:Int)+1=w.sure+1+(jP w:Int) by omega];exact hr
 ·intro f hf;exact h7 f (List.mem_of_mem_drop hf)
 ·simp only[vC];omega
 ·simp only[vC];omega
 ·simp only[vC];omega
theorem Uj {w:dG} {d:aC} (h:iC d):Keep d (writeW w d).1:=akP (Nr h) fun e he=>aek he
theorem agE {w:dG} {d:aC} (h:AU d):AU (writeW w d).1:=akW (ag9 h (akv _)) fun e he=>alA he
theorem aeD {l:List bY} (h:l.length<1000000):dL l=some l:=by unfold dL;exact AQ h
abbrev CmR:=(Int×aC×dG×aC×dG) ⊕ ((Int×aC×dG×aC×dG) ⊕ (Int×aC×dG×aC×dG))
theorem amj {w:dG} {d:aC} (hw:yH w) (hne:w.wait≠[]) (hd:Vj d) (hdp:iC d) (v0:Int) (v1:aC) (v2:dG) {N S C T:Int} (hN:N=(jP w:Int)) (hS:S=(vZ w).1) (hC:C=(vZ w).2+(jP w:Int)) (hT:T=w.sure+(jP w:Int)):
 Wq (cnd (band (ile 0 N) (ile N (len w.wait))) (af (G6 (cZ w.wait (itn N))) fun y0=>af (jD S) fun y1=>af (zi d y1 y0.1) fun y2=>cnd (ieq y2.2 0) (af (jD S) fun y3=>af (Ep y2.1 y3) fun y4=>cnd (ak (ieq y4.2 0)) (some (Sum.inr (Sum.inl (y4.2,y4.1,w,y4.1,w)))) (cnd (band (ile 0 N) (ile N (len w.wait))) (af (dL (dR w.wait (itn N))) fun y5=>some (Sum.inl (v0,v1,v2,y4.1,dG.mk w.epoch w.next T S C y5))) none)) (cnd (ak (ieq y2.2 0)) (some (Sum.inr (Sum.inl (y2.2,y2.1,w,y2.1,w)))) (cnd (band (ile 0 N) (ile N (len w.wait))) (af (dL (dR w.wait (itn N))) fun y6=>some (Sum.inl (v0,v1,v2,y2.1,dG.mk w.epoch w.next T S C y6))) none))) none)
  fun x:CmR=>x=if (writeW w d).2≠0 then Sum.inr (Sum.inl ((writeW w d).2,(writeW w d).1,w,(writeW w d).1,w))else Sum.inl (v0,v1,v2,(writeW w d).1,vC w):=by
 obtain⟨g0,g1,g2,g3⟩:=UW hw hne
 obtain⟨t1,t2,t3, -⟩:=LC hw hne
 subst hN hS hC hT
 have hin:band (ile 0 (jP w:Int)) (ile (jP w:Int) (len w.wait))=true:=LD (gV (by omega)) (gV (by simp only[len];omega))
 have hfr:=ac2 hw.2.2.2.2.2.1
 have hlen:=hw.2.2.2.1
 have hn:=IY g0
 rw[J3,au hin,show cZ w.wait (jP w)=w.wait.take (jP w)from rfl,aiN (by rw[List.length_take];omega) (fun f hf=>hfr f (List.mem_of_mem_take hf)),ai,acN]
 change Wq (af (some (mr (vZ w).1)) _) _
 have hbl:=TM (w.wait.take (jP w))
 rw[List.length_take]at hbl
 rw[ai,ana hd hn.len (by simp only;omega),ai,dQ]
 unfold writeW
 simp only
 by_cases h0:(pK d (mr (vZ w).1) (rowB (w.wait.take (jP w)))).2=0
 ·have hk:=Nr (n:=mr (vZ w).1) (b:=rowB (w.wait.take (jP w))) hdp
  rw[if_pos h0,ai,aqJ (hk.bnd hd.fu) hn.len,ai,dP,dQ,then_ok h0]
  by_cases h1:(Es (pK d (mr (vZ w).1) (rowB (w.wait.take (jP w)))).1 (mr (vZ w).1)).2=0
  ·rw[if_pos h1,au hin,show dR w.wait (jP w)=w.wait.drop (jP w)from rfl,aeD (by rw[List.length_drop];omega),ai,ah,if_neg (fun g=>g h1)]
   rfl
  ·rw[if_neg h1,ah,if_pos h1]
 ·rw[if_neg h0,dP,dQ,if_neg h0,ah,Yt h0,if_pos h0]
theorem afF {w:dG} (h:yH w):yM w:=by
 obtain⟨h1,h2,h3,h4,h5,h6,h7,h8⟩:=h;refine⟨⟨by omega,by omega⟩,⟨by omega,by omega⟩,⟨by omega,by omega⟩,?_,?_,by omega⟩<;>unfold inI<;>rcases h8 with h8 | h8<;>omega
theorem aa6 (k:Nat) {w:dG} {d:aC} (h:w.wait=[]):pG k w d=(w,d,0):=by
 cases k with
 |zero=>rfl
 |succ k=>rw[pG,if_pos h]
theorem af2 {w:dG} {d:aC} (hw:yM w) (hd:Vj d):JL w d=some (dV w d):=by
 classical
 refine Wq.eq ?_;unfold JL dV;rw[acp hw hd.nm,ai,dP,uH];by_cases hf:xU w d
 case neg=>rw[if_neg hf,ah,if_neg hf]
 rw[if_pos hf,if_pos hf]
 refine Wq.bind (Q:=fun x:(Int×aC×dG×aC×dG) ⊕ (Int×aC×dG×aC×dG)=>match x with
  |.inl x=>pG 40 w d=(x.2.2.1,x.2.1,x.1)
  |.inr x=>pG 40 w d=(x.2.2.2.2,x.2.2.2.1,0))
  (Uf (step:=fun v:Int×aC×dG×aC×dG=>Dk v.1 v.2.1 v.2.2.1 v.2.2.2.1 v.2.2.2.2)
    (fun v=>v.2.2.2.2.wait.length)
    (fun v=>yH v.2.2.2.2/\iC v.2.2.2.1/\inI v.2.2.2.1.fuse/\∃k,v.2.2.2.2.wait.length<=k/\pG 40 w d=pG k v.2.2.2.2 v.2.2.2.1) _ ?_ LF _ (aaw (by have:=hf.1.2.2.2.1;simp only;omega)) ⟨hf.1,hf.2.1,hd.fu,40,by have:=hf.1.2.2.2.1;simp only;omega,rfl⟩) ?_
 ·rintro⟨v0,v1,v2,e,u⟩ ⟨hu,he,hfu,k,hk,hkk⟩;simp only at hu he hfu hk hkk;simp only[Dk];rw[Ea];by_cases hz:0<len u.wait
  case neg=>
   have hnil:u.wait=[]:=List.eq_nil_of_length_eq_zero (by simp only[len]at hz;omega);rw[if_neg hz,ah];simp only;rw[hkk,aa6 k hnil]
  have hne:u.wait≠[]:=fun h=>by rw[h]at hz;simp [len]at hz
  rw[if_pos hz];obtain⟨s0,s1,s2,s3⟩:=UW hu hne;obtain⟨t1,t2,t3,t4⟩:=LC hu hne;have hsure:=hu.2.2.1;have hnx:=hu.2.1;have e1:wr .i64 (aB u.sure 1)=u.sure+1:=by rw[aB,bV (by omega) (by omega)]
  obtain⟨k,rfl⟩:∃j,k=j+1:=⟨k - 1,by have:=List.length_pos_iff.2 hne;omega⟩;have hk2:pG (k+1) u e=if (writeW u e).2≠0 then (u,(writeW u e).1,(writeW u e).2)else pG k (vC u) (writeW u e).1:=by rw[pG,if_neg hne]
  rw[hk2]at hkk;have hkw:=Uj (w:=u) he;rw[dH];refine⟨fun hc=> ?_,fun hc=> ?_⟩
  ·have hseg:vZ u=(u.sure+1,0):=by unfold vZ;simp only[aH,aJ,aW,bf,aG,aF,aZ,bg,aX,bF,aK,aN,bD,bH]at hc;rw[if_pos hc]
   rw[hseg]at t3 t4 s0 s3;have e8:ji (len u.wait) 8=(jP u:Int):=by rw[t4];rfl
   rw[e8,e1];have e9:wr .i64 (aB u.sure (jP u:Int))=u.sure+(jP u:Int):=by rw[aB,bV (by omega) (by omega)]
   have e10:wr .i64 (aB 0 (jP u:Int))=(jP u:Int):=by rw[aB,bV (by omega) (by omega)];omega
   rw[e9,e10];refine(amj hu hne (he.bnd hfu) he v0 v1 v2 rfl (by rw[hseg]) (by rw[hseg];simp) rfl).mono fun x hx=> ?_;rw[hx];by_cases hwz:(writeW u e).2≠0
   ·rw[if_pos hwz]at hkk ⊢;exact hkk
   ·rw[if_neg hwz]at hkk ⊢;exact⟨⟨TY hu hne,hkw.right,(hkw.bnd hfu).fu,k,by simp only[vC,List.length_drop];omega,hkk⟩,by simp only[vC,List.length_drop];omega⟩
  ·have hseg:vZ u=(u.seg,u.count):=by unfold vZ;simp only[aH,aJ,aW,bf,aG,aF,aZ,bg,aX,bF,aK,aN,bD,bH]at hc;rw[if_neg (by omega)]
   rw[hseg]at t3 t4 s0 s1 s2 s3;simp only at s1 s2;have e8:wr .i64 (aV 8 u.count)=8 - u.count:=by rw[aV,bV (by omega) (by omega)]
   have e8':ji (len u.wait) (8 - u.count)=(jP u:Int):=by rw[t4]
   rw[e8,e8'];have e9:wr .i64 (aB u.sure (jP u:Int))=u.sure+(jP u:Int):=by rw[aB,bV (by omega) (by omega)]
   have e10:wr .i64 (aB u.count (jP u:Int))=u.count+(jP u:Int):=by rw[aB,bV (by omega) (by omega)]
   rw[e9,e10];refine(amj hu hne (he.bnd hfu) he v0 v1 v2 rfl (by rw[hseg]) (by rw[hseg]) rfl).mono fun x hx=> ?_;rw[hx];by_cases hwz:(writeW u e).2≠0
   ·rw[if_pos hwz]at hkk ⊢;exact hkk
   ·rw[if_neg hwz]at hkk ⊢;exact⟨⟨TY hu hne,hkw.right,(hkw.bnd hfu).fu,k,by simp only[vC,List.length_drop];omega,hkk⟩,by simp only[vC,List.length_drop];omega⟩
 ·rintro(x | x) hx
  ·simp only[dJ,ah];simp only at hx;exact hx.symm
  ·simp only[dJ,ah];simp only at hx;exact hx.symm
theorem ao6 {w v:dG} (hc:0<=v.count/\v.count<=8) (hl:w.wait.length<=32):
 Wq (bZ (fun x:Int×dG=>iI w x.1 x.2) LF (0,v)) fun r=>∃n:Nat,n=min w.wait.length (8 - v.count).toNat/\r=((n:Int),⟨v.epoch,v.next,v.sure,v.seg,v.count+(n:Int),v.wait⟩):=by
 refine Uf (fun x:Int×dG=>(min w.wait.length (8 - v.count).toNat) - x.1.toNat) (fun x=>∃i:Nat,i<=min w.wait.length (8 - v.count).toNat/\x=((i:Int),⟨v.epoch,v.next,v.sure,v.seg,v.count+(i:Int),v.wait⟩)) _ ?_ LF _ (aaw (by simp only;omega)) ⟨0,Nat.zero_le _,by simp⟩
 rintro _ ⟨i,hi,rfl⟩
 simp only[iI]
 rw[dH]
 refine⟨fun h=>(ah _).2 ⟨⟨i+1,?_,?_⟩,?_⟩,fun h=>(ah _).2 ⟨i,?_,rfl⟩⟩
 ·simp only[aH,aJ,aW,bf,aG,aF,aZ,bg,aX,bF,aK,aN,bD,bH,len]at h;omega
 ·rw[bQ (by omega),aB,bV (by omega) (by omega)]
  simp only[Prod.mk.injEq,dG.mk.injEq,true_and]
  exact⟨by omega,trivial⟩
 ·simp only[aH,aJ,aW,bf,aG,aF,aZ,bg,aX,bF,aK,aN,bD,bH,len]at h
  simp only
  rw[bQ (by omega)];omega
 ·simp only[aH,aJ,aW,bf,aG,aF,aZ,bg,aX,bF,aK,aN,bD,bH,len]at h;omega
theorem anY {w v:dG} {d:aC} (hw:yH w) (hne:w.wait≠[]) (hd:Vj d) (hdp:iC d) (v0:Int) (v1:aC) (v2:dG) (hv:v=⟨w.epoch,w.next,w.sure,(vZ w).1,(vZ w).2,w.wait⟩):
 Wq (af (bZ (fun v=>iI w v.1 v.2) LF (0,v)) fun y0=>cnd (band (ile 0 y0.1) (ile y0.1 (len w.wait))) (af (gq y0.2.seg) fun y1=>cnd (band (ile 0 y0.1) (ile y0.1 (len w.wait))) (af (o6 (cZ w.wait (itn y0.1))) fun y2=>af (kP d y1 y2) fun y3=>cnd (ak (ieq y3.2 0)) (some (Sum.inr (Sum.inl (y3.2,y3.1,w,d,w)))) (af (gq y0.2.seg) fun y4=>af (oq y3.1 y4) fun y5=>cnd (ak (ieq y5.2 0)) (some (Sum.inr (Sum.inl (y5.2,y5.1,w,d,w)))) (some (Sum.inl (v0,v1,v2,y5.1,dG.mk y0.2.epoch y0.2.next (wr .i64 (aB w.sure y0.1)) y0.2.seg y0.2.count (dR w.wait (itn y0.1))))))) none) none)
  fun x:CmR=>x=if (writeW w d).2≠0 then Sum.inr (Sum.inl ((writeW w d).2,(writeW w d).1,w,d,w))else Sum.inl (v0,v1,v2,(writeW w d).1,vC w):=by
 obtain⟨g0,g1,g2,g3⟩:=UW hw hne
 obtain⟨t1,t2,t3, -⟩:=LC hw hne
 have hlen:=hw.2.2.2.1
 have hsure:=hw.2.2.1
 have hnx:=hw.2.1
 have hfr:=ac2 hw.2.2.2.2.2.1
 have hn:=IY g0
 refine(ao6 (w:=w) (v:=v) (by subst hv;simp only;omega) hlen).bind ?_
 rintro _ ⟨n,hnn,rfl⟩
 have en:n=jP w:=by rw[hnn,hv];rfl
 subst en
 have hin:band (ile 0 (jP w:Int)) (ile (jP w:Int) (len w.wait))=true:=LD (gV (by omega)) (gV (by simp only[len];omega))
 simp only
 have hvs:v.seg=(vZ w).1:=by rw[hv]
 have hbl:=TM (w.wait.take (jP w))
 rw[List.length_take]at hbl
 rw[au hin,hvs,acR g0,ai,au hin,J3,show cZ w.wait (jP w)=w.wait.take (jP w)from rfl,aiV (by rw[List.length_take];omega),ai,am9 hd hn.len (by omega),ai,dP,dQ]
 unfold writeW
 by_cases h0:(pK d (mr (vZ w).1) (rowB (w.wait.take (jP w)))).2=0
 ·have hk:=Nr (n:=mr (vZ w).1) (b:=rowB (w.wait.take (jP w))) hdp
  rw[if_pos h0,ai,ap9 (hk.bnd hd.fu) hn.len,ai,dP,dQ,then_ok h0]
  by_cases h1:(Es (pK d (mr (vZ w).1) (rowB (w.wait.take (jP w)))).1 (mr (vZ w).1)).2=0
  ·rw[if_pos h1,ah,if_neg (fun g=>g h1),aB,bV (by omega) (by omega)]
   subst hv
   rfl
  ·rw[if_neg h1,ah,if_pos h1]
 ·rw[if_neg h0,ah,Yt h0,if_pos h0]
theorem YM {w:dG} {d:aC} (hw:yM w) (hd:Vj d):oP w d=some (dV w d):=by
 classical
 refine Wq.eq ?_;unfold oP dV;rw[aa7 hw hd.nm,ai,dP,uH];by_cases hf:xU w d
 case neg=>rw[if_neg hf,ah,if_neg hf]
 rw[if_pos hf,if_pos hf]
 refine Wq.bind (Q:=fun x:(Int×aC×dG×aC×dG) ⊕ (Int×aC×dG×aC×dG)=>match x with
  |.inl x=>pG 40 w d=(x.2.2.1,x.2.1,x.1)
  |.inr x=>pG 40 w d=(x.2.2.2.2,x.2.2.2.1,0))
  (Uf (step:=fun v:Int×aC×dG×aC×dG=>pz v.1 v.2.1 v.2.2.1 v.2.2.2.1 v.2.2.2.2)
    (fun v=>v.2.2.2.2.wait.length)
    (fun v=>yH v.2.2.2.2/\iC v.2.2.2.1/\inI v.2.2.2.1.fuse/\∃k,v.2.2.2.2.wait.length<=k/\pG 40 w d=pG k v.2.2.2.2 v.2.2.2.1) _ ?_ LF _ (aaw (by have:=hf.1.2.2.2.1;simp only;omega)) ⟨hf.1,hf.2.1,hd.fu,40,by have:=hf.1.2.2.2.1;simp only;omega,rfl⟩) ?_
 ·rintro⟨v0,v1,v2,e,u⟩ ⟨hu,he,hfu,k,hk,hkk⟩;simp only at hu he hfu hk hkk;simp only[pz];rw[Ea];by_cases hz:0<len u.wait
  case neg=>
   have hnil:u.wait=[]:=List.eq_nil_of_length_eq_zero (by simp only[len]at hz;omega);rw[if_neg hz,ah];simp only;rw[hkk,aa6 k hnil]
  have hne:u.wait≠[]:=fun h=>by rw[h]at hz;simp [len]at hz
  rw[if_pos hz];obtain⟨t1,t2,t3,t4⟩:=LC hu hne;have hsure:=hu.2.2.1;have hnx:=hu.2.1;have e1:wr .i64 (aB u.sure 1)=u.sure+1:=by rw[aB,bV (by omega) (by omega)]
  obtain⟨k,rfl⟩:∃j,k=j+1:=⟨k - 1,by have:=List.length_pos_iff.2 hne;omega⟩;have hk2:pG (k+1) u e=if (writeW u e).2≠0 then (u,(writeW u e).1,(writeW u e).2)else pG k (vC u) (writeW u e).1:=by rw[pG,if_neg hne]
  rw[hk2]at hkk;have hkw:=Uj (w:=u) he;rw[dH];refine⟨fun hc=> ?_,fun hc=> ?_⟩
  ·have hseg:vZ u=(u.sure+1,0):=by unfold vZ;simp only[aH,aJ,aW,bf,aG,aF,aZ,bg,aX,bF,aK,aN,bD,bH]at hc;rw[if_pos hc]
   rw[e1];refine(anY hu hne (he.bnd hfu) he v0 v1 v2 (by rw[hseg])).mono fun x hx=> ?_;rw[hx];by_cases hwz:(writeW u e).2≠0
   ·rw[if_pos hwz]at hkk ⊢;exact hkk
   ·rw[if_neg hwz]at hkk ⊢;exact⟨⟨TY hu hne,hkw.right,(hkw.bnd hfu).fu,k,by simp only[vC,List.length_drop];omega,hkk⟩,by simp only[vC,List.length_drop];omega⟩
  ·have hseg:vZ u=(u.seg,u.count):=by unfold vZ;simp only[aH,aJ,aW,bf,aG,aF,aZ,bg,aX,bF,aK,aN,bD,bH]at hc;rw[if_neg (by omega)]
   refine(anY hu hne (he.bnd hfu) he v0 v1 v2 (by rw[hseg])).mono fun x hx=> ?_;rw[hx];by_cases hwz:(writeW u e).2≠0
   ·rw[if_pos hwz]at hkk ⊢;exact hkk
   ·rw[if_neg hwz]at hkk ⊢;exact⟨⟨TY hu hne,hkw.right,(hkw.bnd hfu).fu,k,by simp only[vC,List.length_drop];omega,hkk⟩,by simp only[vC,List.length_drop];omega⟩
 ·rintro(x | x) hx
  ·simp only[dJ,ah];simp only at hx;exact hx.symm
  ·simp only[dJ,ah];simp only at hx;exact hx.symm
open Classical in
noncomputable def VB (w:dG) (k:Int) (b:SA6):dG×Int:=
 if ¬yH w\/k<1\/6<k then (w,1)else if 1000000000<w.next then (w,3)else if w.wait.length=32 then (w,6)
 else (⟨w.epoch,w.next+1,w.sure,w.seg,w.count,w.wait++[⟨w.epoch,w.next,k,b.a0,b.a1,b.a2,b.a3,b.a4,b.a5⟩]⟩,0)
theorem aky {w:dG} {k:Int} {b:SA6} (hw:yM w):Va w k b=some (VB w k b):=by
 refine Wq.eq ?_;unfold Va VB;rw[Uc hw,ai,dP,uH];by_cases hp:yH w
 case neg=>rw[if_neg hp,dP,uH,if_neg hp,ah,if_pos (.inl hp)]
 rw[if_pos hp,Ea k 1,Ea k 1];by_cases h1:k<1
 ·rw[if_pos h1,if_pos h1,ah,if_pos (.inr (.inl h1))]
 rw[if_neg h1,Ea 6 k];by_cases h6:6<k
 ·rw[if_pos h6,ah,if_pos (.inr (.inr h6))]
 rw[if_neg h6,if_neg (fun g=>by rcases g with g | g | g;exact g hp;exact h1 g;exact h6 g),Ea,dQ]
 by_cases hn:1000000000<w.next
 ·rw[if_pos hn,ah,if_pos hn]
 rw[if_neg hn,if_neg hn];have hlen:=hp.2.2.2.1;have hnx:=hp.2.1;by_cases hl:w.wait.length=32
 ·rw[if_pos (by simp only[len];omega),ah,if_pos hl]
 ·rw[if_neg (by simp only[len];omega),aeD (by omega),ai,au (yI (n:=100) (by simp [aQ];omega) (by decide)),ah,if_neg hl,aB,bV (by omega) (by omega)];rfl
theorem akF {w:dG} {k:Int} {b:SA6} (hw:yM w):yw w k b=some (VB w k b):=by
 refine Wq.eq ?_;unfold yw VB;rw[Uy hw,ai,dH];refine⟨fun h=>(ah _).2 ?_,fun h=> ?_⟩
 ·simp only[aH,aJ,aW,bf,aG,aF,aZ,bg,aX,bF,aK,aN,bD,bH,decide_eq_false_iff_not]at h;rw[if_pos (by rcases h with (h | h) | h;exact .inl h;exact .inr (.inl h);exact .inr (.inr h))]
 ·simp only[aH,aJ,aW,bf,aG,aF,aZ,bg,aX,bF,aK,aN,bD,bH,decide_eq_true_iff]at h;obtain⟨⟨hp,h1⟩,h6⟩:=h;rw[if_neg (fun g=>by rcases g with g | g | g;exact g hp;omega;omega),Ea,ajZ]
  by_cases hn:1000000000<w.next
  ·rw[if_pos hn,ah,if_pos hn]
  rw[if_neg hn,if_neg hn];have hlen:=hp.2.2.2.1;have hnx:=hp.2.1;by_cases hl:w.wait.length=32
  ·rw[if_pos (by simp only[len];omega),ah,if_pos hl]
  ·rw[if_neg (by simp only[len];omega),au (yI (n:=100) (by omega) (by decide)),au (yI (n:=100) (by simp [aQ];omega) (by decide)),ah,if_neg hl,aB,bV (by omega) (by omega)];rfl
def ajT (w:dG):List Int->Int
 |[]=>w.sure
 |m::_=>m - 1
def Jm (w:dG) (lsn:Int):List Int->aC->aC×Int
 |[],d=>(d,0)
 |n::r,d=>if n=w.seg then Jm w lsn r d else if lsn<ajT w r then (d,0)else if (H7 d (mr n)).2≠0 then H7 d (mr n)else Jm w lsn r (H7 d (mr n)).1
open Classical in
noncomputable def amA (w:dG) (d:aC) (lsn:Int):aC×Int:=if xU w d then Jm w lsn (xX d.files) d else (d,1)
theorem ahR {d:aC}:∀n∈xX d.files,C9 n:=fun n hn=>by
 obtain⟨h1,h2⟩:=List.mem_filter.1 hn;obtain⟨f,hf,rfl⟩:=List.mem_map.1 h1;exact(aex (by simp at h2;omega)).1
theorem aib {w:dG} {d:aC} {lsn:Int} (hw:yM w) (hd:Vj d):Qd w d lsn=some (amA w d lsn):=by
 classical
 refine Wq.eq ?_;unfold Qd amA;rw[acp hw hd.nm,ai,dP,uH];by_cases hf:xU w d
 case neg=>rw[if_neg hf,ah,if_neg hf]
 rw[if_pos hf,if_pos hf,abE hd.nm,ai,show abb d=xX d.files by unfold abb;rw[if_pos hf.2.1]];have hsl:=Ve d.files;have hfl:=hf.2.1.fl;have hgen:=ahR (d:=d);have hsure:=hf.1.2.2.1;generalize xX d.files=L at hsl hgen ⊢
 refine Wq.bind (Q:=fun x=>match x with
  |.inl x=>Jm w lsn L d=(x.2.2,0)
  |.inr x=>Jm w lsn L d=(x.2.1,x.1))
  (gu (n:=L.length) (step:=fun v:Int×Int×aC×aC=>Bc (len L) lsn L L w v.1 v.2.1 v.2.2.1 v.2.2.2) (by omega)
    (fun i x=>Jm w lsn L d=Jm w lsn (L.drop i) x.2.2/\iC x.2.2/\inI x.2.2.fuse) _ ?_ ?_ _ 0 (Nat.zero_le _) ⟨by simp,hf.2.1,hd.fu⟩) ?_
 ·rintro i ⟨a,z,e⟩ hi ⟨h1,h2,h3⟩;simp only at h1 h2 h3;simp only[Bc];rw[List.drop_eq_getElem_cons hi,Jm]at h1;have hg:=hgen _ (List.getElem_mem hi);have hn:=IY hg;rw[au (by rw[cu];simpa using hi),au (inb _ i hi),aS _ i hi,bQ (by omega),Ea,dQ,dQ];have rem:∀last:Int,ajT w (L.drop (i+1))=last->L[i]≠w.seg->
   Wq (cnd (ilt lsn last) (some (Sum.inr (Sum.inl (a,z,e)))) (af (jD L[i]) fun y0=>af (wo e y0) fun y1=>cnd (ak (ieq y1.2 0)) (some (Sum.inr (Sum.inr (y1.2,y1.1,y1.1)))) (some (Sum.inl (((i+1:Nat):Int),a,z,y1.1)))))
   fun r:(Int×Int×aC×aC) ⊕ ((Int×aC×aC) ⊕ (Int×aC×aC))=>match r with
    |.inl (k,x')=>k=((i+1:Nat):Int)/\Jm w lsn L d=Jm w lsn (L.drop (i+1)) x'.2.2/\iC x'.2.2/\inI x'.2.2.fuse
    |.inr w'=>match w' with | .inl x=>Jm w lsn L d=(x.2.2,0) | .inr x=>Jm w lsn L d=(x.2.1,x.1):=by
   intro last hlast hseg;rw[if_neg hseg,hlast]at h1;rw[Ea];by_cases hlt:lsn<last
   ·rw[if_pos hlt]at h1 ⊢;rw[ah];exact h1
   ·rw[if_neg hlt]at h1 ⊢;rw[acN];change Wq (af (some (mr L[i])) _) _;rw[ai,am1 (h2.bnd h3) hn.len,ai,dP,dQ];by_cases h0:(H7 e (mr L[i])).2=0
    ·rw[if_pos h0,ah];rw[if_neg (fun g=>g h0)]at h1;have hk:=aam (n:=mr L[i]) h2;exact⟨rfl,h1,hk.right,(hk.bnd h3).fu⟩
    ·rw[if_neg h0,ah];rw[if_pos h0]at h1;exact h1
  by_cases hnx:((i+1:Nat):Int)<len L
  ·have hi1:i+1<L.length:=by simp only[len]at hnx;omega
   have hg1:=hgen _ (List.getElem_mem hi1);unfold C9 at hg1;rw[if_pos hnx,au (inb _ _ hi1),aS _ _ hi1,aV,bV (by omega) (by omega)];by_cases hseg:L[i]=w.seg
   ·rw[if_pos hseg]at h1 ⊢;rw[ah];exact⟨rfl,h1,h2,h3⟩
   ·rw[if_neg hseg];refine(rem (L[i+1] - 1) (by rw[List.drop_eq_getElem_cons hi1,ajT]) hseg).mono fun r hr=> ?_
    match r,hr with
    |.inl (k,x'),hr=>exact hr
    |.inr (.inl x),hr=>exact hr
    |.inr (.inr x),hr=>exact hr
  ·rw[if_neg hnx];by_cases hseg:L[i]=w.seg
   ·rw[if_pos hseg]at h1 ⊢;rw[ah];exact⟨rfl,h1,h2,h3⟩
   ·rw[if_neg hseg];refine(rem w.sure (by rw[List.drop_eq_nil_of_le (by simp only[len]at hnx;omega),ajT]) hseg).mono fun r hr=> ?_
    match r,hr with
    |.inl (k,x'),hr=>exact hr
    |.inr (.inl x),hr=>exact hr
    |.inr (.inr x),hr=>exact hr
 ·rintro⟨a,z,e⟩ ⟨h1,h2,h3⟩;simp only at h1;simp only[Bc];rw[bW (BK _),ah];rw[List.drop_length]at h1;exact h1
 ·rintro(x | x) hx
  ·simp only[dJ,ah];simp only at hx;exact hx.symm
  ·simp only[dJ,ah];simp only at hx;exact hx.symm
def upP (g:bM):Prop:=(g.up=true/\g.disk.down=false/\xU g.wal g.disk)\/(g.up=false/\g.disk.down=true/\g.outbox=[]/\g.feed.held=[]/\g.feed.gap=false)
def qi (g:bM):Prop:=iC g.disk/\iZ g.state/\yH g.wal/\g.state.lsn+1=g.wal.next/\Hg g.outbox g.wal.sure g.state.lsn/\XT g.feed (g.state.seq+1)/\(∀n∈g.feed.held,nI (DX n))/\(0<=g.gen/\g.gen<=1000000000)/\upP g
noncomputable instance (g:bM):Decidable (qi g):=Classical.propDecidable _
structure SG (g:bM):Prop where
 st:iW g.state
 sh:rW g.state
 wal:yM g.wal
 wl:g.wal.wait.length<=40
 bnd:Vj g.disk
 byte:AU g.disk
 fl:g.disk.files.length<=70
 ol:g.outbox.length<=9999
 hl:g.feed.held.length<=200
 ok:∀n∈g.feed.held,aa1 n
 gen:inI g.gen
theorem Zc (w:dG) (lsn:Int):∀(l:List Int) (d:aC),iC d->(∀n∈l,C9 n)->(Jm w lsn l d).2≠1
 |[],d,hd,_=>by rw[Jm];simp
 |n::r,d,hd,hg=>by
  have hk:=aam (n:=mr n) hd
  have h1:(H7 d (mr n)).2≠1:=by
   unfold H7
   split
   ·rename_i h
    unfold qG at h ⊢
    rw[if_neg (fun g=>g hd)]at h ⊢
    split at h
    ·rename_i h2;simp [h2]
    ·rename_i h2
     rw[if_pos (by intro m hm;rw[List.mem_singleton.1 hm];exact IY (hg n (by simp)))]at h
     exact absurd rfl h
   ·split
    ·simp
    ·split<;>simp
  rw[Jm]
  split
  ·exact Zc w lsn r d hd fun m hm=>hg m (by simp [hm])
  split
  ·simp
  split
  ·exact h1
  ·exact Zc w lsn r _ hk.right fun m hm=>hg m (by simp [hm])
open Classical in
theorem ah6 {w:dG} {d:aC} (hw:yM w) (hd:Vj d):xQ w d=some (decide (xU w d)):=by
 unfold xQ;rw[aib hw hd,ai];unfold amA;by_cases h:xU w d
 ·rw[if_pos h];have:=Zc w 0 (xX d.files) d h.2.1 ahR;rw[show ieq (Jm w 0 (xX d.files) d).2 1=false by rw[aN];exact this];simp [h,ak]
 ·rw[if_neg h];simp [h,ieq,ak]
theorem aoC (l:List uX) (hl:l.length<999999):Wq (bZ (fun v:Int×Int=>dO (len l) l v.1 v.2) LF (0,0)) fun w=>match w with
 |.inl k=>0<=k/\¬∀n∈l,nI (DX n)
 |.inr _=>∀n∈l,nI (DX n):=by
 refine gu (n:=l.length) hl (fun i _=>∀n∈l.take i,nI (DX n)) _ (fun i q hi hj=> ?_) (fun q hj=> ?_) _ 0 (Nat.zero_le _) (fun n hn=>by simp at hn)
 ·simp only[dO]
  rw[au (by rw[cu];simpa using hi),au (inb l i hi),aS _ i hi,show EN l[i]=some (DX l[i])from rfl,ai]
  refine(DF _).bind fun b hb=> ?_
  rw[dH,ah,ah]
  refine⟨fun h=>⟨by omega,fun g=> ?_⟩,fun h=>⟨bQ (by omega),fun n hn=> ?_⟩⟩
  ·rw[aG]at h;subst h
   have:=hb.2 (g _ (List.getElem_mem hi));cases this
  ·rw[aF]at h
   rcases(pR hi).1 hn with h1 | rfl
   ·exact hj n h1
   ·exact hb.1 h
 ·simp only[dO]
  rw[bW (by rw[show((l.length:Nat):Int)=len l from rfl];simp [ilt]),ah]
  rw[List.take_length]at hj
  exact hj
theorem aj0 (g:bM):qZ g=some (decide (g.outbox=[]/\g.feed.held=[]/\g.feed.gap=false)):=by
 unfold qZ;congr 1;rw[Bool.eq_iff_iff];simp only[aH,aJ,aW,bf,aG,aF,aZ,bg,aX,bF,aK,aN,bD,bH,decide_eq_true_eq,len];constructor
 ·rintro⟨⟨h1,h2⟩,h3⟩;exact⟨List.eq_nil_of_length_eq_zero (by omega),List.eq_nil_of_length_eq_zero (by omega),h3⟩
 ·rintro⟨h1,h2,h3⟩;rw[h1,h2];exact⟨⟨rfl,rfl⟩,h3⟩
theorem akA {g:bM} (hg:SG g):Wq (af (cnd (band (band (band (ile 0 g.gen) (ile g.gen 1000000000)) (ak (beq g.up g.disk.down))) g.up) (xQ g.wal g.disk) (some false)) fun y7=>af (cnd (band (band (band (band (ile 0 g.gen) (ile g.gen 1000000000)) (ak (beq g.up g.disk.down))) (ak (band g.up y7))) (ak g.up)) (qZ g) (some false)) fun y8=>some (band (band (band (ile 0 g.gen) (ile g.gen 1000000000)) (ak (beq g.up g.disk.down))) (bor (band g.up y7) (band (ak g.up) y8)))) fun b=>b=true↔((0<=g.gen/\g.gen<=1000000000)/\upP g):=by
 classical
 obtain⟨q,hq1,hq2⟩:∃q:Bool,qZ g=some q/\(q=true↔(g.outbox=[]/\g.feed.held=[]/\g.feed.gap=false)):=⟨_,aj0 g,decide_eq_true_iff⟩;obtain⟨f,hf1,hf2⟩:∃f:Bool,xQ g.wal g.disk=some f/\(f=true↔xU g.wal g.disk):=⟨_,ah6 hg.wal hg.bnd,decide_eq_true_iff⟩;unfold upP;rw[hq1,hf1,<-hq2,<-hf2];by_cases hG:0<=g.gen/\g.gen<=1000000000
 ·have e1:band (ile 0 g.gen) (ile g.gen 1000000000)=true:=by simp only[aH,aJ,aW,bf,aG,aF,aZ,bg,aX,bF,aK,aN,bD,bH];exact hG
  rw[e1];cases hu:g.up<;>cases hd:g.disk.down<;>cases f<;>cases q<;>simp [hG,cnd,band,bor,ak,beq,ai,ah]
 ·have e1:band (ile 0 g.gen) (ile g.gen 1000000000)=false:=by simp only[aH,aJ,aW,bf,aG,aF,aZ,bg,aX,bF,aK,aN,bD,bH];omega
  rw[e1];simp only[show ∀x,band false x=false from fun x=>rfl,aO,ai,ah];exact⟨fun h=>(by cases h),fun h=>absurd h.1 hG⟩
theorem ajA {a b:Int} (hb:1<=b/\b<=1000000001):(a=wr .i64 (aV b 1))↔a+1=b:=by
 rw[aV,bV (by omega) (by omega)];omega
theorem YP {g:bM} (hg:SG g):EU g=some (decide (qi g)):=by
 classical
 refine Wq.dec ?_;unfold EU qi;rw[JU hg.bnd.nm,ai];by_cases h1:iC g.disk
 case neg=>
  rw[decide_eq_false h1];simp only[aU,aI,ja,dD,aP,aO,ai,show ∀x,bor true x=true from fun x=>rfl];rw[ah];exact⟨fun h=>(by cases h),fun h=>absurd h.1 h1⟩
 rw[decide_eq_true h1];simp only[aI,aU,aP];refine(Qo g.state hg.st hg.sh.1 hg.sh.2.2.1 hg.sh.2.2.2).bind fun b hb=> ?_;cases b with
 |false=>
  have:¬iZ g.state:=fun h=>by have:=hb.2 h;cases this
  simp only[aU,aI,ja,dD,aP,aO,ai,show ∀x,bor true x=true from fun x=>rfl,show ∀x,bor false x=x from fun x=>rfl];rw[ah];exact⟨fun h=>(by cases h),fun h=>absurd h.2.1 this⟩
 |true=>
 have hR:=hb.1 rfl;simp only[aI,aU,dD,aP];rw[Uc hg.wal,ai];by_cases h2:yH g.wal
 case neg=>
  rw[decide_eq_false h2];simp only[aU,show ∀x,bor false x=x from fun x=>rfl,aP];rw[ah];exact⟨fun h=>(by cases h),fun h=>absurd h.2.2.1 h2⟩
 rw[decide_eq_true h2];simp only[aI,aU,show ∀x,bor false x=x from fun x=>rfl,aO];have hn:=h2.2.1;by_cases h3:g.state.lsn+1=g.wal.next
 case neg=>
  have e3:ieq g.state.lsn (wr .i64 (aV g.wal.next 1))=false:=by rw[aN,ne_eq,ajA hn];exact h3
  rw[e3];simp only[aU,aI,aO,ai,show ∀x,bor true x=true from fun x=>rfl,aP];rw[ah];exact⟨fun h=>(by cases h),fun h=>absurd h.2.2.2.1 h3⟩
 have e3:ieq g.state.lsn (wr .i64 (aV g.wal.next 1))=true:=by rw[aK,ajA hn];exact h3
 rw[e3];simp only[aU,aI,aP,show ∀x,bor false x=x from fun x=>rfl];refine(amL g.outbox g.wal.sure g.state.lsn (by have:=hg.ol;omega)).bind fun c hc=> ?_;cases c with
 |false=>
  have:¬Hg g.outbox g.wal.sure g.state.lsn:=fun h=>by have:=hc.2 h;cases this
  simp only[aU,aI,aO,ai,show ∀x,bor true x=true from fun x=>rfl,aP];rw[ah];exact⟨fun h=>(by cases h),fun h=>absurd h.2.2.2.2.1 this⟩
 |true=>
 have hO:=hc.1 rfl;have hq:=hR.fine.seq;have hw:wr .i64 (aB g.state.seq 1)=g.state.seq+1:=bV (by simp only[aB];omega) (by simp only[aB];omega);rw[hw];simp only[aI,aU,aP,show ∀x,bor false x=x from fun x=>rfl];refine(afx g.feed _).bind fun d hd=> ?_;cases d with
 |false=>
  have:¬XT g.feed (g.state.seq+1):=fun h=>by have:=hd.2 h;cases this
  simp only[aU,aI,aO,ai,show ∀x,bor true x=true from fun x=>rfl,aP];rw[ah];exact⟨fun h=>(by cases h),fun h=>absurd h.2.2.2.2.2.1 this⟩
 |true=>
 have hF:=hd.1 rfl;simp only[aI,aU,aP,show ∀x,bor false x=x from fun x=>rfl,aO];refine(aoC g.feed.held (by have:=hg.hl;omega)).bind ?_;rintro(k | k) hk
 ·simp only[dJ];rw[au (gV hk.1),ah];exact⟨fun h=>(by cases h),fun h=>absurd h.2.2.2.2.2.2.1 hk.2⟩
 ·simp only[dJ];obtain⟨b,h,q⟩:=akA hg;exact⟨b,h,fun hb=>⟨h1,hR,h2,h3,hO,hF,hk,q.1 hb⟩,fun hh=>q.2 hh.2.2.2.2.2.2.2⟩
theorem YJ {g:bM} (hg:SG g):pY g=some (decide (qi g)):=by
 classical
 refine Wq.dec ?_;unfold pY qi;refine(af9 hg.st hg.sh).bind fun b hb=> ?_;cases b with
 |false=>
  have:¬iZ g.state:=fun h=>by have:=hb.2 h;cases this
  simp only[aU,aI,ja,dD,aP,aO,ai,show ∀x,bor true x=true from fun x=>rfl,show ∀x,bor false x=x from fun x=>rfl];rw[ah];exact⟨fun h=>(by cases h),fun h=>absurd h.2.1 this⟩
 |true=>
 have hR:=hb.1 rfl;simp only[aI,aU,dD,aP];rw[Uy hg.wal,ai];by_cases h2:yH g.wal
 case neg=>
  rw[decide_eq_false h2];simp only[aU,aI,show ∀x,bor false x=x from fun x=>rfl,show ∀x,bor true x=true from fun x=>rfl,aP,aO,ai];rw[ah];exact⟨fun h=>(by cases h),fun h=>absurd h.2.2.1 h2⟩
 rw[decide_eq_true h2];simp only[aI,aU,show ∀x,bor false x=x from fun x=>rfl,aP];rw[FV hg.bnd.nm,ai];by_cases h1:iC g.disk
 case neg=>
  rw[decide_eq_false h1];simp only[aU,aI,show ∀x,bor true x=true from fun x=>rfl,aP];rw[ah];exact⟨fun h=>(by cases h),fun h=>absurd h.1 h1⟩
 rw[decide_eq_true h1];simp only[aI,show ∀x,bor false x=x from fun x=>rfl];have hn:=h2.2.1;have hL:=hR.fine.lsn;have hl1:wr .i64 (aB g.state.lsn 1)=g.state.lsn+1:=bV (by simp only[aB];omega) (by simp only[aB];omega);rw[hl1,dH];refine⟨fun h=>(ah _).2 ?_,fun h=> ?_⟩
 ·simp only[aH,aJ,aW,bf,aG,aF,aZ,bg,aX,bF,aK,aN,bD,bH]at h;refine⟨fun h=>(by cases h),fun k=> ?_⟩;have k3:=k.2.2.2.1;have k8:=k.2.2.2.2.2.2.2.1;omega
 simp only[aH,aJ,aW,bf,aG,aF,aZ,bg,aX,bF,aK,aN,bD,bH]at h;have h3:g.state.lsn+1=g.wal.next:=h.1.1;have hgen:0<=g.gen/\g.gen<=1000000000:=by omega
 refine(amx g.outbox g.wal.sure g.state.lsn (by have:=hg.ol;omega)).bind fun c hc=> ?_;cases c with
 |false=>
  have:¬Hg g.outbox g.wal.sure g.state.lsn:=fun h=>by have:=hc.2 h;cases this
  simp only[aU,aI,aO,ai,show ∀x,bor true x=true from fun x=>rfl,aP];rw[ah];exact⟨fun h=>(by cases h),fun h=>absurd h.2.2.2.2.1 this⟩
 |true=>
 have hO:=hc.1 rfl;have hq:=hR.fine.seq;have hw:wr .i64 (aB g.state.seq 1)=g.state.seq+1:=bV (by simp only[aB];omega) (by simp only[aB];omega);rw[hw];simp only[aI,aU,aP,show ∀x,bor false x=x from fun x=>rfl];refine(agc g.feed _ (fun n hn=>(hg.ok n hn).seq)).bind fun d hd=> ?_;cases d with
 |false=>
  have:¬XT g.feed (g.state.seq+1):=fun h=>by have:=hd.2 h;cases this
  simp only[aU,aP];rw[ah];exact⟨fun h=>(by cases h),fun h=>absurd h.2.2.2.2.2.1 this⟩
 |true=>
 have hF:=hd.1 rfl;simp only[aI,aO];refine Wq.bind (Q:=fun w:Bool ⊕ Bool=>match w with | .inl b=>b=false/\¬∀n∈g.feed.held,nI (DX n) | .inr _=>∀n∈g.feed.held,nI (DX n))
  (gu (n:=g.feed.held.length) (step:=fun v:Int×Bool=>kR g v.1 v.2) (by have:=hg.hl;omega) (fun i _=>∀n∈g.feed.held.take i,nI (DX n)) _ (fun i q hi hj=> ?_) (fun q hj=> ?_) _ 0 (Nat.zero_le _) (fun n hn=>by simp at hn)) ?_
 ·simp only[kR];have hhl:=hg.hl;rw[au (by rw[cu];simpa using hi),au (inb g.feed.held i hi),aS _ i hi,show zG g.feed.held[i]=some (DX g.feed.held[i])from rfl,ai];refine(IG _).bind fun b hb=> ?_;rw[dH,ah,ah];refine⟨fun h=>⟨rfl,fun g=> ?_⟩,fun h=>⟨bQ (by omega),fun n hn=> ?_⟩⟩
  ·rw[aG]at h;subst h;have:=hb.2 (g _ (List.getElem_mem hi));cases this
  ·rw[aF]at h;rcases(pR hi).1 hn with h1 | rfl
   ·exact hj n h1
   ·exact hb.1 h
 ·simp only[kR];rw[bW (BK _),ah];rw[List.take_length]at hj;exact hj
 rintro(k | k) hk
 ·simp only[dJ,ah];simp only at hk;rw[hk.1];exact⟨fun h=>(by cases h),fun h=>absurd h.2.2.2.2.2.2.1 hk.2⟩
 ·simp only[dJ];simp only at hk;have base:(upP g↔(iC g.disk/\iZ g.state/\yH g.wal/\g.state.lsn+1=g.wal.next/\Hg g.outbox g.wal.sure g.state.lsn/\XT g.feed (g.state.seq+1)/\(∀n∈g.feed.held,nI (DX n))/\(0<=g.gen/\g.gen<=1000000000)/\upP g)):=
   ⟨fun h=>⟨h1,hR,h2,h3,hO,hF,hk,hgen,h⟩,fun h=>h.2.2.2.2.2.2.2.2⟩
  rw[aa7 hg.wal hg.bnd.nm];have e0:=aj0 g;unfold qZ at e0;have e0:=Option.some.inj e0;cases hu:g.up<;>cases hdn:g.disk.down
  ·simp only[aO,ai,ah,show ∀x,band false x=false from fun x=>rfl];refine⟨fun h=>(by cases h),fun h=> ?_⟩;have h:=base.2 h;unfold upP at h;rw[hu,hdn]at h;rcases h with h | h<;>simp at h
  ·rw[aP,ah,aU,show ∀x,band true x=x from fun x=>rfl,e0,decide_eq_true_eq,<-base];unfold upP;rw[hu,hdn];simp
  ·rw[aO,aP,ai,ah,show ∀x,band true x=x from fun x=>rfl,decide_eq_true_eq,<-base];unfold upP;rw[hu,hdn];simp
  ·simp only[aP,aI,ah,show ∀x,band false x=false from fun x=>rfl];refine⟨fun h=>(by cases h),fun h=> ?_⟩;have h:=base.2 h;unfold upP at h;rw[hu,hdn]at h;rcases h with h | h<;>simp at h
noncomputable def oH (g:bM):Int:=if ¬qi g then 1 else if g.up=true then 0 else 9
theorem QJ {g:bM} (hg:SG g):Bl g=some (oH g):=by
 unfold Bl oH;rw[YP hg,ai,dP,uH];by_cases h:qi g
 ·rw[if_pos h,if_neg (fun k=>k h)];cases g.up<;>rfl
 ·rw[if_neg h,if_pos h]
theorem Qm {g:bM} (hg:SG g):l7 g=some (oH g):=by
 unfold l7 oH;rw[YJ hg,ai,dP,uH];by_cases h:qi g
 ·rw[if_pos h,if_neg (fun k=>k h)];cases g.up<;>rfl
 ·rw[if_neg h,if_pos h]
theorem GX {g:bM}:oH g=0↔qi g/\g.up=true:=by
 unfold oH;by_cases h:qi g
 ·rw[if_neg (fun k=>k h)];by_cases hu:g.up=true
  ·simp [h,hu]
  ·simp [h,hu]
 ·rw[if_pos h];simp [h]
def Tm (r:dB):SA6:=if r.kind=1 then ⟨r.order,r.account,r.symbol,r.side,r.qty,r.price⟩else if r.kind=4 then ⟨r.account,r.symbol,r.long,r.short,r.opn,0⟩else if r.kind=5 then (if r.on=true then ⟨1,0,0,0,0,0⟩else ⟨0,0,0,0,0,0⟩)
 else if r.kind=6 then ⟨r.seq,r.what,r.order,r.qty,r.price,0⟩else ⟨r.order,r.qty,r.price,0,0,0⟩
theorem aip {r:dB} (h:nI r):lF r=some (Tm r,0):=by
 unfold lF Tm;obtain⟨b,hb,q⟩:=DF r;have:=q.2 h;subst this;rw[hb,ai,aI,aO,dQ,dQ,dQ,dQ];split
 ·rfl
 split
 ·rfl
 split
 ·cases r.on<;>rfl
 split<;>rfl
theorem aio {r:dB} (h:nI r):wP r=some (Tm r):=by
 unfold wP Tm;rw[dQ,dQ,dQ,dQ,dQ];unfold nI at h;rcases h with h | h | h | h | h | h
 ·rw[if_pos h.1,if_pos h.1]
 ·rw[if_neg (by omega),if_pos h.1,if_neg (by omega),if_neg (by omega),if_neg (by omega),if_neg (by omega)]
 ·rw[if_neg (by omega),if_neg (by omega),if_pos h.1,if_neg (by omega),if_neg (by omega),if_neg (by omega),if_neg (by omega),h.2.2.2.2.2.1,h.2.2.2.2.2.2.1]
 ·rw[if_neg (by omega),if_neg (by omega),if_neg (by omega),if_pos h.1,if_neg (by omega),if_pos h.1]
 ·rw[if_neg (by omega),if_neg (by omega),if_neg (by omega),if_neg (by omega),if_neg (by omega),if_neg (by omega),if_neg (by omega),if_pos h.1];cases r.on<;>rfl
 ·rw[if_neg (by omega),if_neg (by omega),if_neg (by omega),if_neg (by omega),if_pos h.1,if_neg (by omega),if_neg (by omega),if_neg (by omega),if_pos h.1]
noncomputable def bU (g:bM) (r:dB):bM×Int:=
 if (doS g.state r).2≠0 then (g,(doS g.state r).2)else if (VB g.wal r.kind (Tm r)).2≠0 then (g,(VB g.wal r.kind (Tm r)).2)
 else (⟨g.disk,(VB g.wal r.kind (Tm r)).1,(doS g.state r).1,g.outbox,g.feed,g.gen,g.up⟩,0)
theorem Xy {g:bM} {r:dB} (hs:iW g.state) (hsh:rW g.state) (hw:yM g.wal) (hr:iF r):ES g r=some (bU g r):=by
 unfold ES bU;rw[aep hs hr hsh.1 hsh.2.2.1 hsh.2.2.2,ai,dP,dQ];by_cases h:(doS g.state r).2=0
 case neg=>rw[if_neg h,if_pos h]
 rw[if_pos h,if_neg (fun k=>k h),aip ((ZX g.state r).good h).1.2.1,ai,aky hw,ai,dP,dQ];by_cases h2:(VB g.wal r.kind (Tm r)).2=0
 ·rw[if_pos h2,if_neg (fun k=>k h2)]
 ·rw[if_neg h2,if_pos h2]
theorem aak {g:bM} {r:dB} (hs:iW g.state) (hsh:rW g.state) (hw:yM g.wal) (hr:iF r):qJ g r=some (bU g r):=by
 unfold qJ bU;rw[arL hs hr hsh,ai,dP,dQ];by_cases h:(doS g.state r).2=0
 case neg=>rw[if_neg h,if_pos h]
 rw[if_pos h,if_neg (fun k=>k h),aio ((ZX g.state r).good h).1.2.1,ai,akF hw,ai,dP,dQ];by_cases h2:(VB g.wal r.kind (Tm r)).2=0
 ·rw[if_pos h2,if_neg (fun k=>k h2)]
 ·rw[if_neg h2,if_pos h2]
theorem aeQ:∀ {l:List bY} {n e:Int} {f:bY},rowP l n e->BP f->f.lsn=n+l.length->e<=f.epoch->(∀x∈l,x.epoch<=f.epoch)->rowP (l++[f]) n e
 |[],n,e,f,_,hf,hl,he,_=>⟨hf,by simpa using hl,he,trivial⟩
 |x::r,n,e,f,h,hf,hl,he,hx=>by
  obtain⟨h1,h2,h3,h4⟩:=h
  refine⟨h1,h2,h3,aeQ h4 hf ?_ (hx x (by simp)) fun y hy=>hx y (by simp [hy])⟩
  simp only[List.length_cons]at hl;omega
structure apz (w v:dG):Prop where
 wal:yH v
 next:v.next=w.next+1
 sure:v.sure=w.sure
 seg:v.seg=w.seg
 count:v.count=w.count
 few:v.wait.length=w.wait.length+1
 lim:w.next<=1000000000
theorem aqr {w:dG} {k:Int} {b:SA6} (h:(VB w k b).2=0):yH w/\apz w (VB w k b).1:=by
 unfold VB at h ⊢;split at h
 ·cases h
 rename_i h1;split at h
 ·cases h
 rename_i h2;split at h
 ·cases h
 rename_i h3;rw[if_neg h1,if_neg h2,if_neg h3];have hw:yH w:=Classical.not_not.1 fun g=>h1 (.inl g);refine⟨hw,⟨?_,rfl,rfl,rfl,rfl,by simp,by omega⟩⟩;obtain⟨w1,w2,w3,w4,w5,w6,w7,w8⟩:=hw;have hk:1<=k/\k<=6:=by omega
 refine⟨w1,by simp only;omega,by simp only;omega,by simp only[List.length_append,List.length_singleton];omega,by simp only[List.length_append,List.length_singleton];omega,?_,?_,w8⟩
 ·refine aeQ w6 ⟨w1.1,w1.2,by simp only;omega,by simp only;omega,hk.1,hk.2⟩ (by simp only;omega) w1.1 fun x hx=> ?_;rw[w7 x hx];exact Int.le_refl _
 ·intro x hx;rcases List.mem_append.1 hx with c | c
  ·exact w7 x c
  ·rw[List.mem_singleton.1 c]
theorem apz.fits {w v:dG} {d:aC} (h:apz w v) (hf:xU w d):xU v d:=by
 obtain⟨-, f2,f3,f4⟩:=hf;refine⟨h.wal,f2,?_,?_⟩
 ·rw[h.sure];exact f3
 ·rw[h.seg,h.count];exact f4
theorem amu {w:dG} {k:Int} {b:SA6}:(VB w k b).2≠9:=by
 unfold VB;split
 ·simp
 split
 ·simp
 split<;>simp
theorem ahw (s t:ay) (a y:Int):(SI s t a y).2≠9:=by
 unfold SI;split
 ·simp
 split<;>simp
theorem akg (s:ay) (r:dB):(doS s r).2≠9:=by
 unfold doS;split
 ·simp
 split
 ·split
  ·simp
  split
  ·simp
  exact ahw _ _ _ _
 split
 ·split
  ·simp
  split
  ·simp
  split
  ·simp
  exact ahw _ _ _ _
 split
 ·split
  ·simp
  split<;>simp
 split
 ·split<;>simp
 split
 ·simp
 split
 ·simp
 split
 ·simp
 split<;>simp
theorem adg (g:bM) (r:dB):(bU g r).2≠9:=by
 unfold bU;split
 ·exact akg _ _
 split
 ·exact amu
 ·simp
structure arV (g h:bM):Prop where
 disk:h.disk=g.disk
 put:apz g.wal h.wal
 R:iZ h.state
 lsn:h.state.lsn=g.state.lsn+1
 out:h.outbox=g.outbox
 feed:h.feed=g.feed
 gen:h.gen=g.gen
 up:h.up=g.up
 st:iW h.state
 sh:rW h.state
theorem KD {g:bM} {r:dB} (hs:iW g.state) (hsh:rW g.state) (hr:iF r) (h:(bU g r).2=0):arV g (bU g r).1/\(doS g.state r).2=0/\(bU g r).1.state=(doS g.state r).1:=by
 unfold bU at h ⊢;by_cases h1:(doS g.state r).2≠0
 ·rw[if_pos h1]at h;exact absurd h h1
 rw[if_neg h1]at h ⊢;by_cases h2:(VB g.wal r.kind (Tm r)).2≠0
 ·rw[if_pos h2]at h;exact absurd h h2
 rw[if_neg h2];have h1:(doS g.state r).2=0:=Classical.not_not.1 h1;have h2:(VB g.wal r.kind (Tm r)).2=0:=Classical.not_not.1 h2;have q:=(ZX g.state r).good h1;exact⟨⟨rfl,(aqr h2).2,aeS q.1.1 hs hr,q.2.1,rfl,rfl,rfl,rfl,(ZX g.state r).rng hs hr,ak8 hsh r⟩,h1,rfl⟩
theorem ahk:∀ {l:List eU} {a z:Int},Hg l a z->a<=z->(l.length:Int)<=z - a
 |[],a,z,_,h=>by simp;omega
 |m::r,a,z,h,_=>by
  have:=ahk h.2.2.2 h.2.2.1
  have:=h.2.1
  simp only[List.length_cons];omega
theorem SG.of {g:bM} (h:qi g) (st:iW g.state) (sh:rW g.state) (fu:inI g.disk.fuse) (by':AU g.disk) (ok:∀n∈g.feed.held,aa1 n):SG g:=by
 obtain⟨h1,h2,h3,h4,h5,h6,h7,h8,h9⟩:=h;have w:=afF h3;have hl:=h3.2.2.2.1;have hs:=h3.2.2.2.2.1;have ho:=ahk h5 (by have:=h3.2.2.1;omega);refine⟨st,sh,w,by omega,h1.bnd fu,by',by have:=h1.fl;omega,by omega,by have:=h6.2.2.1;omega,ok,by unfold inI;omega⟩
theorem afJ {g:bM} (h:qi g) (hu:g.up=true):g.disk.down=false/\xU g.wal g.disk:=by
 rcases h.2.2.2.2.2.2.2.2 with h | h
 ·exact h.2
 ·rw[h.1]at hu;cases hu
theorem WQ {g:bM} (hu:g.up=true):oH g≠9:=by
 unfold oH;rw[if_pos hu];split<;>simp
def ofM (k:Int) (o:ax) (z:Int):eU:=(iM k o z).getD ⟨0,0,0,0,0,0,0,0,0⟩
theorem apO (k:Int) (o:ax) (z:Int):iM k o z=some (ofM k o z):=by
 obtain⟨m,h⟩:=ark k o z;unfold ofM;rw[h];rfl
def Qp (g:bM) (r:dB):bM:=⟨g.disk,g.wal,g.state,g.outbox++[ofM r.kind (aj g.state.orders (itn (PU g.state.orders r.order))) g.state.lsn],g.feed,g.gen,g.up⟩
noncomputable def jv (g:bM) (r:dB):bM×Int:=
 if oH g≠0 then (g,oH g)else if r.kind<1\/3<r.kind then (g,1)else if (bU g r).2≠0 then (g,(bU g r).2)else (Qp (bU g r).1 r,0)
theorem YV {g:bM} {r:dB} (hg:SG g) (hr:iF r) (hk:¬(r.kind<1\/3<r.kind)) (h:(bU g r).2=0):∃(j:Nat) (hj:j<(bU g r).1.state.orders.length),PU (bU g r).1.state.orders r.order=(j:Int)/\
 (sO (bU g r).1.state.orders[j])/\(r.kind=2->1<=(bU g r).1.state.orders[j].newQty/\1<=(bU g r).1.state.orders[j].newPrice/\1<=(bU g r).1.state.orders[j].version):=by
 obtain⟨q,h1,h2⟩:=KD hg.st hg.sh hr h
 obtain⟨o,ho,hid,hv⟩:=amd h1 (by omega)
 rw[<-h2]at ho
 obtain⟨j,hj,hf,rfl⟩:=ao2 q.R.fine.asc ho
 rw[hid]at hf
 exact⟨j,hj,Dw hf,(q.R.fine.ords _ (List.getElem_mem hj)).1,hv⟩
theorem VS {g:bM} {r:dB} (hg:SG g) (hr:iF r):wu g r=some (jv g r):=by
 unfold wu jv;rw[QJ hg,ai,dP,dQ];by_cases h0:oH g=0
 case neg=>rw[if_neg h0,if_pos h0]
 rw[if_pos h0,if_neg (fun k=>k h0)];by_cases hk:r.kind<1\/3<r.kind
 ·rw[au (by simp only[aH,aJ,aW,bf,aG,aF,aZ,bg,aX,bF,aK,aN,bD,bH];exact hk),if_pos hk]
 rw[bW (by simp only[aH,aJ,aW,bf,aG,aF,aZ,bg,aX,bF,aK,aN,bD,bH];omega),if_neg hk,Xy hg.st hg.sh hg.wal hr,ai,dP,dQ];by_cases h:(bU g r).2=0
 case neg=>rw[if_neg h,if_pos h]
 rw[if_pos h,if_neg (fun k=>k h)];have hol:=hg.ol;obtain⟨j,hj,hf, -⟩:=YV hg hr hk h;obtain⟨q,-, -⟩:=KD hg.st hg.sh hr h;rw[MQ _ _ q.sh.1,ai,hf,au (inb _ j hj),show eY g.outbox=some g.outbox from AQ (by omega),ai,apO,ai,au (by simp only[aQ,len];exact gV (by simp;omega))];unfold Qp;rw[hf,q.out];rfl
theorem VP {g:bM} {r:dB} (hg:SG g) (hr:iF r):oL g r=some (jv g r):=by
 unfold oL jv;rw[Qm hg,ai,dP,dQ];by_cases h0:oH g=0
 case neg=>rw[if_neg h0,if_pos h0]
 rw[if_pos h0,if_neg (fun k=>k h0)];by_cases hk:r.kind<1\/3<r.kind
 ·rw[au (by simp only[aH,aJ,aW,bf,aG,aF,aZ,bg,aX,bF,aK,aN,bD,bH];omega),if_pos hk]
 rw[bW (by simp only[aH,aJ,aW,bf,aG,aF,aZ,bg,aX,bF,aK,aN,bD,bH];omega),if_neg hk,aak hg.st hg.sh hg.wal hr,ai,dP,dQ];by_cases h:(bU g r).2=0
 case neg=>rw[if_neg h,if_pos h]
 rw[if_pos h,if_neg (fun k=>k h)];have hol:=hg.ol;obtain⟨j,hj,hf, -⟩:=YV hg hr hk h;obtain⟨q,-, -⟩:=KD hg.st hg.sh hr h;rw[afG _ _ q.sh.1,ai,hf,au (inb _ j hj),ar7,apO,ai,au (yI (n:=99999) (by omega) (by decide)),au (by simp only[aQ,len];exact gV (by simp;omega))];unfold Qp;rw[hf,q.out];rfl
theorem afj {g:bM} {r:dB} (hg:SG g) (hr:iF r):SG (jv g r).1/\(qi g->qi (jv g r).1)/\(jv g r).1.up=g.up/\(jv g r).1.disk=g.disk/\(jv g r).1.wal.sure=g.wal.sure/\(jv g r).1.gen=g.gen/\(g.up=true->(jv g r).2≠9):=by
 unfold jv;by_cases h0:oH g=0
 case neg=>
  rw[if_pos h0];refine⟨hg,id,rfl,rfl,rfl,rfl,fun hu=> ?_⟩;exact WQ hu
 rw[if_neg (fun k=>k h0)];obtain⟨hG,hu⟩:=GX.1 h0;by_cases hk:r.kind<1\/3<r.kind
 ·rw[if_pos hk];exact⟨hg,id,rfl,rfl,rfl,rfl,fun _=>by simp⟩
 rw[if_neg hk];by_cases h:(bU g r).2=0
 case neg=>rw[if_pos h];exact⟨hg,id,rfl,rfl,rfl,rfl,fun _=>adg g r⟩
 rw[if_neg (fun k=>k h)];obtain⟨j,hj,hf,hoP,hv⟩:=YV hg hr hk h;obtain⟨q,hd0,hds⟩:=KD hg.st hg.sh hr h;obtain⟨h1,h2,h3,h4,h5,h6,h7,h8,h9⟩:=hG;have hfit:=afJ ⟨h1,h2,h3,h4,h5,h6,h7,h8,h9⟩ hu;have hseq:(bU g r).1.state.seq=g.state.seq:=by
  have:=((ZX g.state r).good hd0).2.2.1;rw[hds,this,if_neg (by omega)]
 have hsn:=h3.2.2.1;have hlim:=q.put.lim;have hlsn:=q.lsn;have hnew:Hg (Qp (bU g r).1 r).outbox g.wal.sure (g.state.lsn+1):=by
  unfold Qp;simp only;rw[q.out,hf,aS _ _ hj,hlsn];obtain⟨m,hm,hmp,hml⟩:=ars (k:=r.kind) (z:=g.state.lsn+1) hoP (by omega) hv (by omega);have:ofM r.kind (bU g r).1.state.orders[j] (g.state.lsn+1)=m:=by unfold ofM;rw[hm];rfl
  rw[this];exact agK (z:=g.state.lsn) h5 (by omega) hmp (by omega) (by omega)
 have hR:qi (Qp (bU g r).1 r):=by
  refine⟨by rw[show(Qp (bU g r).1 r).disk=_ from q.disk];exact h1,q.R,q.put.wal,?_,?_,?_,?_,?_,.inl ⟨q.up.trans hu,?_,?_⟩⟩
  ·show(bU g r).1.state.lsn+1=(bU g r).1.wal.next;rw[hlsn,q.put.next];omega
  ·rw[show(Qp (bU g r).1 r).wal.sure=g.wal.sure from q.put.sure,show(Qp (bU g r).1 r).state.lsn=g.state.lsn+1 from hlsn];exact hnew
  ·rw[show(Qp (bU g r).1 r).feed=g.feed from q.feed,show(Qp (bU g r).1 r).state.seq=g.state.seq from hseq];exact h6
  ·rw[show(Qp (bU g r).1 r).feed=g.feed from q.feed];exact h7
  ·rw[show(Qp (bU g r).1 r).gen=g.gen from q.gen];exact h8
  ·rw[show(Qp (bU g r).1 r).disk=g.disk from q.disk];exact hfit.1
  ·rw[show(Qp (bU g r).1 r).disk=g.disk from q.disk];exact q.put.fits hfit.2
 refine⟨SG.of hR q.st q.sh ?_ ?_ ?_,fun _=>hR,q.up,q.disk,q.put.sure,q.gen,fun _=>by simp⟩
 ·rw[show(Qp (bU g r).1 r).disk=g.disk from q.disk];exact hg.bnd.fu
 ·rw[show(Qp (bU g r).1 r).disk=g.disk from q.disk];exact hg.byte
 ·rw[show(Qp (bU g r).1 r).feed=g.feed from q.feed];exact hg.ok
theorem agw {l:List bn} (ha:OI l) {p:Nm->Prop}:(∀f∈l,p f.name)↔∀n f,lG l n=some f->p n:=by
 constructor
 ·intro h n f hg;have:=Ei hg;rw[<-this.2];exact h f this.1
 ·intro h f hf;exact h _ f (get_mem ha hf)
theorem aoq {w:dG} {d:aC} (hw:yH w) (hd:iC d) (h1:∀n f,lG d.files n=some f->yL uy n<=w.sure) (h2:w.seg=0\/∃f,lG d.files (mr w.seg)=some f/\(f.data.length:Int)=w.count*72):xU w d:=
 ⟨hw,hd,(agw hd.asc (p:=fun n=>yL uy n<=w.sure)).2 h1,h2⟩
theorem ahB {w:dG} {d:aC} (h:xU w d) {n:Nm} {f:bn} (hg:lG d.files n=some f):yL uy n<=w.sure:=
 (agw h.2.1.asc (p:=fun n=>yL uy n<=w.sure)).1 h.2.2.1 n f hg
theorem ajm {w:dG} {d:aC} (hne:w.wait≠[]) (hf:xU w d) (hu:d.down=false):
 ((writeW w d).2=0/\(writeW w d).1.down=false/\xU (vC w) (writeW w d).1)\/((writeW w d).2=6/\(writeW w d).1=d)\/((writeW w d).2=9/\(writeW w d).1.down=true):=by
 have hw:=hf.1
 obtain⟨g0,g1,g2,g3⟩:=UW hw hne
 obtain⟨t1,t2,t3, -⟩:=LC hw hne
 have hn:=IY g0
 have hU:UpD d:=⟨hf.2.1,hu⟩
 have hsr:=hw.2.2.1
 unfold writeW
 generalize hB:rowB (w.wait.take (jP w))=B
 have hBl:B.length=72*jP w:=by rw[<-hB,TM,List.length_take];omega
 rcases afu (b:=B) hU hn with ⟨a1,a2, -⟩ | ⟨a1,a2,a3,a4⟩
 ·right;left
  rw[Yt (by rw[a1];simp)];exact⟨a1,a2⟩
 rcases a1.cases with c | ⟨c1,c2, -⟩
 case inr=>
  right;right
  rw[Yt (by rw[c1];simp)];exact⟨c1,c2⟩
 rw[then_ok c]
 have hU2:=a1.up c
 have hg:=a2 (mr (vZ w).1)
 rw[if_pos rfl]at hg
 obtain⟨s1,s2,s3,s4,s5⟩:=aiG hU2 hn hg
 rcases s1.cases with e | ⟨e1,e2, -⟩
 case inr=>exact .inr (.inr ⟨e1,e2⟩)
 refine .inl ⟨e,(s1.up e).up,aoq (TY hw hne) (s1.up e).right (fun n f hgf=> ?_) (.inr ?_)⟩
 ·rw[s2 e n]at hgf
  by_cases hnn:n=mr (vZ w).1
  ·rw[hnn,Y5 g0];simp only[vC];omega
  ·rw[if_neg hnn,a2 n,if_neg hnn]at hgf
   have:=ahB hf hgf
   simp only[vC];omega
 ·refine⟨_,(s2 e _).trans (if_pos rfl),?_⟩
  simp only[vC,List.length_append,hBl]
  have hold:((((lG d.files (mr (vZ w).1)).getD ⟨mr (vZ w).1,[],0⟩).data.length:Nat):Int)=(vZ w).2*72:=by
   by_cases hs:w.seg=0\/w.count=8
   ·have hq:vZ w=(w.sure+1,0):=if_pos hs
    rw[hq]at g0 ⊢
    have:lG d.files (mr (w.sure+1))=none:=by
     cases hgg:lG d.files (mr (w.sure+1))with
     |none=>rfl
     |some f=>
      have:=ahB hf hgg
      rw[Y5 g0]at this;omega
    simp only[this];simp
   ·have hq:vZ w=(w.seg,w.count):=if_neg hs
    rw[hq]
    rcases hf.2.2.2 with hz | ⟨f,f1,f2⟩
    ·exact absurd (.inl hz) hs
    ·simp only[f1];simpa using f2
  push_cast
  omega
structure arY (w:dG) (d:aC) (r:dG×aC×Int):Prop where
 wal:yH r.1
 next:r.1.next=w.next
 epoch:r.1.epoch=w.epoch
 sure:w.sure<=r.1.sure
 keep:Keep d r.2.1
 byte:AU d->AU r.2.1
 code:(r.2.2=0/\r.2.1.down=false/\xU r.1 r.2.1/\r.1.wait=[])\/(r.2.2=6/\r.2.1.down=false/\xU r.1 r.2.1)\/(r.2.2=9/\r.2.1.down=true)
theorem acs:∀(k:Nat) {w:dG} {d:aC},w.wait.length<=k->xU w d->d.down=false->arY w d (pG k w d)
 |0,w,d,hk,hf,hu=>by
  rw[pG]
  exact⟨hf.1,rfl,rfl,Int.le_refl _,Keep.refl hf.2.1,id,.inl ⟨rfl,hu,hf,List.eq_nil_of_length_eq_zero (by show w.wait.length=0;omega)⟩⟩
 |k+1,w,d,hk,hf,hu=>by
  rw[pG]
  by_cases hne:w.wait=[]
  ·rw[if_pos hne]
   exact⟨hf.1,rfl,rfl,Int.le_refl _,Keep.refl hf.2.1,id,.inl ⟨rfl,hu,hf,hne⟩⟩
  rw[if_neg hne]
  have hkw:=Uj (w:=w) hf.2.1
  have hbw:AU d->AU (writeW w d).1:=fun h=>agE h
  obtain⟨t1,t2,-, -⟩:=LC hf.1 hne
  rcases ajm hne hf hu with ⟨a,b,c⟩ | ⟨a,b⟩ | ⟨a,b⟩
  ·rw[if_neg (fun g=>g a)]
   have ih:=acs k (w:=vC w) (d:=(writeW w d).1) (by simp only[vC,List.length_drop];omega) c b
   exact⟨ih.wal,ih.next,ih.epoch,by have:=ih.sure;rw[show(vC w).sure=w.sure+(jP w:Int)from rfl]at this;omega,hkw.trans ih.keep,fun h=>ih.byte (hbw h),ih.code⟩
  ·rw[if_pos (by rw[a];simp)]
   exact⟨hf.1,rfl,rfl,Int.le_refl _,hkw,hbw,.inr (.inl ⟨a,by rw[b];exact hu,by rw[b];exact hf⟩)⟩
  ·rw[if_pos (by rw[a];simp)]
   exact⟨hf.1,rfl,rfl,Int.le_refl _,hkw,hbw,.inr (.inr ⟨a,b⟩)⟩
theorem Za {w:dG} {d:aC} (hf:xU w d) (hu:d.down=false):arY w d (dV w d):=by
 unfold dV;rw[if_pos hf];exact acs 40 (by have:=hf.1.2.2.2.1;omega) hf hu
theorem QY {l:List eU} {s:Int} {i:Nat} (h1:∀(j:Nat) (h:j<l.length),j<i->l[j].lsn<=s) (h2:∀h:i<l.length,s<l[i].lsn) (hi:i<=l.length):
 l.take i=(l.takeWhile fun m=>decide (m.lsn<=s))/\l.drop i=(l.dropWhile fun m=>decide (m.lsn<=s)):=by
 induction l generalizing i with
 |nil=>simp at hi;subst hi;simp
 |cons m r ih=>
  cases i with
  |zero=>
   have:=h2 (by simp)
   simp at this
   rw[List.takeWhile_cons_of_neg (by simp;omega),List.dropWhile_cons_of_neg (by simp;omega)]
   simp
  |succ i=>
   have h0:=h1 0 (by simp) (by omega)
   simp at h0
   rw[List.takeWhile_cons_of_pos (by simpa using h0),List.dropWhile_cons_of_pos (by simpa using h0)]
   have:=ih (i:=i) (fun j h hj=>by have:=h1 (j+1) (by simp;omega) (by omega);simpa using this) (fun h=>by have:=h2 (by simp;omega);simpa using this) (by simp at hi;omega)
   simp [this.1,this.2]
def goM (l:List eU) (s:Int):List eU:=l.takeWhile fun m=>decide (m.lsn<=s)
def Pn (l:List eU) (s:Int):List eU:=l.dropWhile fun m=>decide (m.lsn<=s)
theorem UZ {l:List eU} (h:l.length<1000000):eY l=some l:=AQ h
theorem ac0 {α:Type} (l:List α) (i:Nat):cZ l (itn (i:Int))=l.take i:=rfl
theorem ac1 {α:Type} (l:List α) (i:Nat):dR l (itn (i:Int))=l.drop i:=rfl
theorem abw {l:List eU} {s:Int} (hl:l.length<99999):FC l s=some (goM l s,Pn l s):=by
 refine Wq.eq ?_;unfold FC
 refine Wq.bind (Q:=fun w:Int ⊕ Int=>match w with
  |.inl k=>∃i:Nat,k=(i:Int)/\i<=l.length/\l.take i=goM l s/\l.drop i=Pn l s
  |.inr _=>l=goM l s/\Pn l s=[])
  (gu (n:=l.length) (step:=fun v:Int×Int=>dW (len l) l s v.1 v.2) (by omega) (fun i _=>∀(j:Nat) (h:j<l.length),j<i->l[j].lsn<=s) _ (fun i q hi hj=> ?_) (fun q hj=> ?_) _ 0 (Nat.zero_le _) (fun j h hj=>by omega)) ?_
 ·simp only[dW];rw[au (by rw[cu];simpa using hi),au (inb l i hi),aS _ i hi,Ea];by_cases h:s<l[i].lsn
  ·rw[if_pos h];have:=QY hj (fun _=>h) (by omega);exact(ah _).2 ⟨i,rfl,by omega,this.1,this.2⟩
  ·rw[if_neg h];refine(ah _).2 ⟨bQ (by omega),fun j hjl hji=> ?_⟩;by_cases e:j=i
   ·subst e;omega
   ·exact hj j hjl (by omega)
 ·simp only[dW];rw[bW (BK _)];have:=QY (i:=l.length) hj (fun h=>by omega) (by omega);refine(ah _).2 ⟨?_,?_⟩
  ·have:=this.1;rw[List.take_length]at this;exact this
  ·have:=this.2;rw[List.drop_length]at this;exact this.symm
 ·rintro(k | k) hk
  ·obtain⟨i,rfl,hi,h1,h2⟩:=hk;simp only[dJ];have hin:band (ile 0 (i:Int)) (ile (i:Int) (len l))=true:=LD (gV (by omega)) (gV (by simp only[len];omega));rw[bW (zQ (by omega)),au hin,ac0,ac1,UZ (by rw[List.length_take];omega),ai,au hin,UZ (by rw[List.length_drop];omega),ai,ah,h1,h2]
  ·obtain⟨h1,h2⟩:=hk;simp only[dJ];have hin:band (ile 0 (len l)) (ile (len l) (len l))=true:=LD (gV (by simp only[len];omega)) (gV (by omega));rw[au hin,show cZ l (itn (len l))=l by rw[show len l=((l.length:Nat):Int)from rfl,ac0,List.take_length],show dR l (itn (len l))=[] by rw[show len l=((l.length:Nat):Int)from rfl,ac1,List.drop_length],UZ (by omega),ai,au hin,UZ (by simp),ai,ah,<-h1,h2]
theorem ac5 {l:List eU} {s:Int} (hl:l.length<99999):Wq (uF l s) fun k=>∃i:Nat,k=(i:Int)/\i<=l.length/\l.take i=goM l s/\l.drop i=Pn l s:=by
 unfold uF;refine Wq.bind (Q:=fun k:Int=>∃i:Nat,k=(i:Int)/\i<=l.length/\l.take i=goM l s/\l.drop i=Pn l s)
  (Uf (step:=fun v:Int=>qB l s v) (fun v=>l.length - v.toNat) (fun v=>∃i:Nat,v=(i:Int)/\i<=l.length/\∀(j:Nat) (h:j<l.length),j<i->l[j].lsn<=s) _ ?_ LF _ (aaw (by omega)) ⟨0,rfl,Nat.zero_le _,fun j h hj=>by omega⟩) (fun k hk=>(ah _).2 hk)
 rintro _ ⟨i,rfl,hi,hj⟩;simp only[qB];by_cases hlt:i<l.length
 ·rw[au (by rw[aW];exact .inl (inb _ i hlt)),cu,aS _ i hlt,dH];refine⟨fun h=>(ah _).2 ⟨⟨i+1,bQ (by omega),by omega,fun j hjl hji=> ?_⟩,?_⟩,fun h=>(ah _).2 ?_⟩
  ·simp only[aH,aJ,aW,bf,aG,aF,aZ,bg,aX,bF,aK,aN,bD,bH]at h;by_cases e:j=i
   ·subst e;exact h.2
   ·exact hj j hjl (by omega)
  ·rw[bQ (by omega)];omega
  ·have h:s<l[i].lsn:=by
    simp only[aH,aJ,aW,bf,aG,aF,aZ,bg,aX,bF,aK,aN,bD,bH]at h;rcases h with h | h
    ·simp at h;omega
    ·exact h
   have:=QY hj (fun _=>h) (by omega);exact⟨i,rfl,hi,this.1,this.2⟩
 ·have e:i=l.length:=by omega
  subst e;have hb:ilt ((l.length:Nat):Int) (len l)=false:=BK _;rw[hb,au (by simp only[aU];cases band (ile 0 _) false<;>rfl),show ∀x,band false x=false from fun x=>rfl,aO,ah]
  have:=QY (i:=l.length) hj (fun h=>by omega) (by omega);exact⟨_,rfl,by omega,this.1,this.2⟩
theorem adU:∀ {l:List eU} {a s z:Int},Hg l a z->a<=s->Hg (Pn l s) s z
 |[],a,s,z,h,_=>trivial
 |m::r,a,s,z,h,ha=>by
  unfold Pn
  by_cases hm:m.lsn<=s
  ·rw[List.dropWhile_cons_of_pos (by simpa using hm)]
   exact adU h.2.2.2 hm
  ·rw[List.dropWhile_cons_of_neg (by simpa using hm)]
   exact⟨h.1,by omega,h.2.2.1,h.2.2.2⟩
theorem arq (l:List eU) (s:Int):(goM l s).length+(Pn l s).length=l.length:=by
 unfold goM Pn;rw[<-List.length_append,List.takeWhile_append_dropWhile]
def ad1 (g:bM):bM:=⟨g.disk,g.wal,g.state,[],⟨[],false⟩,g.gen,false⟩
noncomputable def afk (g:bM):bM:=⟨(dV g.wal g.disk).2.1,(dV g.wal g.disk).1,g.state,g.outbox,g.feed,g.gen,g.up⟩
noncomputable def Yh (g:bM):bM×Int:=(if (dV g.wal g.disk).2.1.down=true then ad1 (afk g)else afk g,(dV g.wal g.disk).2.2)
theorem aej {g:bM} (hw:yM g.wal) (hd:Vj g.disk):Bg g=some (Yh g):=by
 unfold Bg Yh;rw[af2 hw hd,ai,AB];split<;>rfl
noncomputable def bC (g:bM):bM×List eU×Int:=
 if oH g≠0 then (g,[],oH g)else if (dV g.wal g.disk).2.1.down=true then (ad1 (afk g),[],(dV g.wal g.disk).2.2)
 else (⟨(dV g.wal g.disk).2.1,(dV g.wal g.disk).1,g.state,Pn g.outbox (dV g.wal g.disk).1.sure,g.feed,g.gen,g.up⟩,goM g.outbox (dV g.wal g.disk).1.sure,(dV g.wal g.disk).2.2)
theorem Q9 {g:bM} (hg:SG g):uS g=some (bC g):=by
 unfold uS bC;rw[QJ hg,ai,dP,dQ];by_cases h0:oH g=0
 case neg=>rw[if_neg h0,if_pos h0]
 rw[if_pos h0,if_neg (fun k=>k h0),aej hg.wal hg.bnd,ai];have hu:=(GX.1 h0).2;unfold Yh;by_cases hd:(dV g.wal g.disk).2.1.down=true
 ·rw[if_pos hd,if_pos hd];rfl
 ·rw[if_neg hd,if_neg hd];simp only[afk];rw[hu,aI,aO,abw (by have:=hg.ol;omega)];rfl
theorem YG {g:bM} (hg:SG g):pW g=some ⟨(bC g).1,(bC g).2.1,(bC g).2.2⟩:=by
 refine Wq.eq ?_;unfold pW bC;rw[Qm hg,ai,dP,dQ];by_cases h0:oH g=0
 case neg=>rw[if_neg h0,if_pos h0,ah]
 rw[if_pos h0,if_neg (fun k=>k h0),YM hg.wal hg.bnd,ai,AB];by_cases hd:(dV g.wal g.disk).2.1.down=true
 ·rw[if_pos hd,if_pos hd];exact(ah _).2 rfl
 ·rw[if_neg hd,if_neg hd];refine(ac5 (by have:=hg.ol;omega)).bind ?_;rintro _ ⟨i,rfl,hi,h1,h2⟩;have hin:band (ile 0 (i:Int)) (ile (i:Int) (len g.outbox))=true:=LD (gV (by omega)) (gV (by simp only[len];omega));rw[au hin,au hin,ac0,ac1,h1,h2,ah]
theorem ac9 {g:bM} (hd:iC g.disk) (hR:iZ g.state) (hw:yH g.wal) (hl:g.state.lsn+1=g.wal.next) (hgen:0<=g.gen/\g.gen<=1000000000) (hdn:g.disk.down=true):qi (ad1 g):=by
 have hq:=hR.fine.seq;exact⟨hd,hR,hw,hl,trivial,⟨by show 1<=g.state.seq+1;omega,by show g.state.seq+1<=_;omega,by simp [ad1],trivial⟩,fun n hn=>(by cases hn),hgen,.inr ⟨rfl,hdn,rfl,rfl,rfl⟩⟩
structure ar9 (g:bM) (r:bM×List eU×Int):Prop where
 sg:SG r.1
 right:qi r.1
 state:r.1.state=g.state
 gen:r.1.gen=g.gen
 next:r.1.wal.next=g.wal.next
 sure:g.wal.sure<=r.1.wal.sure
 how:(r.1.up=true/\(r.2.2=0\/r.2.2=6)/\r.1.feed=g.feed/\r.2.1=goM g.outbox r.1.wal.sure/\r.1.outbox=Pn g.outbox r.1.wal.sure/\(r.2.2=0->r.1.wal.wait=[]))\/(r.1.up=false/\r.2.2=9/\r.2.1=[])
theorem aei {g:bM} (h:oH g≠0):bC g=(g,[],oH g):=by unfold bC;rw[if_pos h]
theorem DW {g:bM} (hg:SG g) (h0:oH g=0):ar9 g (bC g):=by
 obtain⟨hG,hu⟩:=GX.1 h0;obtain⟨hdn,hfit⟩:=afJ hG hu;obtain⟨h1,h2,h3,h4,h5,h6,h7,h8,h9⟩:=hG;have q:=Za hfit hdn;have hL:=h2.fine.lsn;unfold bC;rw[if_neg (fun k=>k h0)];have hfu:=(q.keep.bnd hg.bnd.fu).fu;have hby:=q.byte hg.byte;have hnx:=q.next;have hsn:=q.wal.2.2.1;by_cases hd:(dV g.wal g.disk).2.1.down=true
 ·rw[if_pos hd];have e9:(dV g.wal g.disk).2.2=9:=by
   rcases q.code with ⟨-, c, -⟩ | ⟨-, c, -⟩ | ⟨c, -⟩
   ·rw[hd]at c;cases c
   ·rw[hd]at c;cases c
   ·exact c
  have hR:qi (ad1 (afk g)):=ac9 (g:=afk g) q.keep.right h2 q.wal (h4.trans hnx.symm) h8 hd;exact⟨SG.of hR hg.st hg.sh hfu hby (fun n hn=>(by cases hn)),hR,rfl,rfl,hnx,q.sure,.inr ⟨rfl,e9,rfl⟩⟩
 ·rw[if_neg hd];have hc:((dV g.wal g.disk).2.2=0\/(dV g.wal g.disk).2.2=6)/\xU (dV g.wal g.disk).1 (dV g.wal g.disk).2.1/\((dV g.wal g.disk).2.2=0->(dV g.wal g.disk).1.wait=[]):=by
   rcases q.code with ⟨c1,-, c2,c3⟩ | ⟨c1,-, c2⟩ | ⟨-, c⟩
   ·exact⟨.inl c1,c2,fun _=>c3⟩
   ·exact⟨.inr c1,c2,fun c=>(by omega)⟩
   ·exact absurd c hd
  have hR:qi ⟨(dV g.wal g.disk).2.1,(dV g.wal g.disk).1,g.state,Pn g.outbox (dV g.wal g.disk).1.sure,g.feed,g.gen,g.up⟩:=
   ⟨q.keep.right,h2,q.wal,h4.trans hnx.symm,adU h5 q.sure,h6,h7,h8,.inl ⟨hu,by simpa using hd,hc.2.1⟩⟩
  exact⟨SG.of hR hg.st hg.sh hfu hby hg.ok,hR,rfl,rfl,hnx,q.sure,.inl ⟨hu,hc.1,rfl,rfl,rfl,hc.2.2⟩⟩
noncomputable def zU (g:bM) (r:dB):bM×List eU×Int:=
 if oH g≠0 then (g,[],oH g)else if r.kind≠4/\r.kind≠5 then (g,[],1)else if (doS g.state r).2≠0 then (g,[],(doS g.state r).2)else
 if (bC g).2.2≠0 then bC g else
 if (bU (bC g).1 r).2≠0 then ((bC g).1,(bC g).2.1,(bU (bC g).1 r).2)else
 if (dV (bU (bC g).1 r).1.wal (bU (bC g).1 r).1.disk).2.2=0 then (afk (bU (bC g).1 r).1,(bC g).2.1,0)else
 if (dV (bU (bC g).1 r).1.wal (bU (bC g).1 r).1.disk).2.1.down=true then
  (ad1 ⟨(dV (bU (bC g).1 r).1.wal (bU (bC g).1 r).1.disk).2.1,(bC g).1.wal,(bC g).1.state,(bC g).1.outbox,(bC g).1.feed,(bC g).1.gen,(bC g).1.up⟩,(bC g).2.1,(dV (bU (bC g).1 r).1.wal (bU (bC g).1 r).1.disk).2.2)
 else ((bC g).1,(bC g).2.1,(dV (bU (bC g).1 r).1.wal (bU (bC g).1 r).1.disk).2.2)
theorem arQ {s:ay} {r:dB} (hr:iW s) (hrr:iF r) (hsh:rW s):Qj s r=some (doS s r).2:=by
 unfold Qj;rw[aep hr hrr hsh.1 hsh.2.2.1 hsh.2.2.2];rfl
theorem Xo {g:bM} {r:dB} (hg:SG g) (hr:iF r) (h0:oH g=0) (hf:(bC g).2.2=0) (hn:(bU (bC g).1 r).2=0):
 arV (bC g).1 (bU (bC g).1 r).1/\xU (bU (bC g).1 r).1.wal (bU (bC g).1 r).1.disk/\(bU (bC g).1 r).1.disk.down=false/\(bU (bC g).1 r).1.up=true:=by
 have q:=DW hg h0
 rcases q.how with ⟨hu,-, -, -⟩ | ⟨-, h, -⟩
 case inr=>rw[hf]at h;cases h
 obtain⟨hdn,hfit⟩:=afJ q.right hu
 have p:=(KD q.sg.st q.sg.sh hr hn).1
 exact⟨p,by rw[p.disk];exact p.put.fits hfit,by rw[p.disk];exact hdn,p.up.trans hu⟩
theorem ahr {g:bM} {r:dB} (hg:SG g) (hr:iF r):IK g r=some (zU g r):=by
 unfold IK zU;rw[QJ hg,ai,dP,dQ];by_cases h0:oH g=0
 case neg=>rw[if_neg h0,if_pos h0]
 rw[if_pos h0,if_neg (fun k=>k h0)];by_cases hk:r.kind≠4/\r.kind≠5
 ·rw[au (by simp only[aH,aJ,aW,bf,aG,aF,aZ,bg,aX,bF,aK,aN,bD,bH];exact hk),if_pos hk]
 rw[bW (by simp only[aH,aJ,aW,bf,aG,aF,aZ,bg,aX,bF,aK,aN,bD,bH];omega),if_neg hk,arQ hg.st hr hg.sh,ai,dP,dQ];by_cases h1:(doS g.state r).2=0
 case neg=>rw[if_neg h1,if_pos h1]
 rw[if_pos h1,if_neg (fun k=>k h1),Q9 hg,ai,dP,dQ];by_cases hf:(bC g).2.2=0
 case neg=>rw[if_neg hf,if_pos hf]
 have q:=DW hg h0;rw[if_pos hf,if_neg (fun k=>k hf),Xy q.sg.st q.sg.sh q.sg.wal hr,ai,dP,dQ];by_cases hn:(bU (bC g).1 r).2=0
 case neg=>rw[if_neg hn,if_pos hn]
 rw[if_pos hn,if_neg (fun k=>k hn)];obtain⟨p,hfit,hdn,hup⟩:=Xo hg hr h0 hf hn;rw[aej (afF hfit.1) (hfit.2.1.bnd (by rw[p.disk];exact q.sg.bnd.fu)),ai,dQ];have cq:=Za hfit hdn;unfold Yh;by_cases hc:(dV (bU (bC g).1 r).1.wal (bU (bC g).1 r).1.disk).2.2=0
 ·rw[if_pos hc,if_pos hc];have:¬(dV (bU (bC g).1 r).1.wal (bU (bC g).1 r).1.disk).2.1.down=true:=by
   rcases cq.code with ⟨-, c, -⟩ | ⟨c, -⟩ | ⟨c, -⟩
   ·rw[c];simp
   ·omega
   ·omega
  rw[if_neg this]
 ·rw[if_neg hc,if_neg hc];by_cases hd:(dV (bU (bC g).1 r).1.wal (bU (bC g).1 r).1.disk).2.1.down=true
  ·rw[if_pos hd,if_pos hd];rfl
  ·rw[if_neg hd,if_neg hd];simp only[afk];rw[hup,aP]
theorem ahE {g:bM} {r:dB} (hg:SG g) (hr:iF r):qK g r=some ⟨(zU g r).1,(zU g r).2.1,(zU g r).2.2⟩:=by
 unfold qK zU;rw[Qm hg,ai,dP,dQ];by_cases h0:oH g=0
 case neg=>rw[if_neg h0,if_pos h0]
 rw[if_pos h0,if_neg (fun k=>k h0)];by_cases hk:r.kind≠4/\r.kind≠5
 ·rw[au (by simp only[aH,aJ,aW,bf,aG,aF,aZ,bg,aX,bF,aK,aN,bD,bH];exact hk),if_pos hk]
 rw[bW (by simp only[aH,aJ,aW,bf,aG,aF,aZ,bg,aX,bF,aK,aN,bD,bH];omega),if_neg hk,arL hg.st hr hg.sh,ai,dP,dQ];by_cases h1:(doS g.state r).2=0
 case neg=>rw[if_neg h1,if_pos h1]
 rw[if_pos h1,if_neg (fun k=>k h1),YG hg,ai,dP,dQ];by_cases hf:(bC g).2.2=0
 case neg=>rw[if_neg hf,if_pos hf]
 have q:=DW hg h0;rw[if_pos hf,if_neg (fun k=>k hf),aak q.sg.st q.sg.sh q.sg.wal hr,ai,dP,dQ];by_cases hn:(bU (bC g).1 r).2=0
 case neg=>rw[if_neg hn,if_pos hn]
 rw[if_pos hn,if_neg (fun k=>k hn)];obtain⟨p,hfit,hdn,hup⟩:=Xo hg hr h0 hf hn;rw[YM (afF hfit.1) (hfit.2.1.bnd (by rw[p.disk];exact q.sg.bnd.fu)),ai,dQ];by_cases hc:(dV (bU (bC g).1 r).1.wal (bU (bC g).1 r).1.disk).2.2=0
 ·rw[if_pos hc,if_pos hc];rfl
 ·rw[if_neg hc,if_neg hc,AB];by_cases hd:(dV (bU (bC g).1 r).1.wal (bU (bC g).1 r).1.disk).2.1.down=true
  ·rw[if_pos hd,if_pos hd];rfl
  ·rw[if_neg hd,if_neg hd]
structure ahy (g h:bM) (e:Int):Prop where
 sg:SG h
 right:qi g->qi h
 down:g.up=true->(h.up=false↔e=9)
 low:g.up=false->h=g
theorem KG {g:bM} (hg:SG g):ahy g (bC g).1 (bC g).2.2:=by
 by_cases h0:oH g=0
 case neg=>
  rw[aei h0];exact⟨hg,id,fun hu=>⟨fun h=>(by rw[hu]at h;cases h),fun h=>absurd h (WQ hu)⟩,fun _=>rfl⟩
 have q:=DW hg h0;refine⟨q.sg,fun _=>q.right,fun hu=> ?_,fun hu=> ?_⟩
 ·rcases q.how with ⟨h1,h2, -⟩ | ⟨h1,h2, -⟩
  ·rw[h1];constructor
   ·intro h;cases h
   ·intro h;omega
  ·exact⟨fun _=>h2,fun _=>h1⟩
 ·have:=(GX.1 h0).2;rw[hu]at this;cases this
theorem ZH {g:bM} (hg:SG g) {e:Int} (he:g.up=true->e≠9):ahy g g e:=
 ⟨hg,id,fun hu=>⟨fun h=>(by rw[hu]at h;cases h),fun h=>absurd h (he hu)⟩,fun _=>rfl⟩
end Go.Av
