/- The plain law, part 1. No condition. -/
import Derived.Test.YtkndbmahpiebkaaGreatDoorPStoreRow0
import Derived.KernelRfl
set_option linter.unusedVariables false
set_option linter.unusedSimpArgs false
set_option linter.unnecessarySimpa false
namespace Go.Av
open Go
theorem VO {l k:List Int} (h:l.length=k.length) (h1:∀x∈l,inI x) (h2:∀x∈k,inI x) (he:p8 l=p8 k):l=k:=
 Om (P:=inI) (fun x=>rW x 8) (fun x y hx hy h=>aj2 hx hy h) h h1 h2 he
theorem agi {l k:List Int} (h:l.length=k.length) (h1:∀x∈l,b1 x) (h2:∀x∈k,b1 x) (he:p1 l=p1 k):l=k:=
 Om (P:=b1) (fun x=>rW x 1) (fun x y hx hy h=>aiR hx hy h) h h1 h2 he
def b1O (o:aA):Prop:=fV o/\b1 o.account/\b1 o.symbol/\b1 o.side/\b1 o.phase
theorem aeu {a b:Bool} (h:NY a=NY b):a=b:=by cases a<;>cases b<;>first | rfl | (exact absurd h (by decide))
theorem Qm (a:Bool):b1 (NY a):=by cases a<;>(unfold b1 NY;decide)
theorem anR {P:Int->Prop} {a b c d:Int} (h1:P a) (h2:P b) (h3:P c) (h4:P d):∀x∈[a,b,c,d],P x:=fun x hx=>by
 simp only[List.mem_cons,List.not_mem_nil,or_false]at hx
 rcases hx with rfl | rfl | rfl | rfl<;>assumption
theorem ap2 {P:Int->Prop} {a b c d e f:Int} (h1:P a) (h2:P b) (h3:P c) (h4:P d) (h5:P e) (h6:P f):∀x∈[a,b,c,d,e,f],P x:=fun x hx=>by
 simp only[List.mem_cons,List.not_mem_nil,or_false]at hx
 rcases hx with rfl | rfl | rfl | rfl | rfl | rfl<;>assumption
theorem anT {P:Int->Prop} {a b c:Int} (h1:P a) (h2:P b) (h3:P c):∀x∈[a,b,c],P x:=fun x hx=>by
 simp only[List.mem_cons,List.not_mem_nil,or_false]at hx
 rcases hx with rfl | rfl | rfl<;>assumption
theorem all1 {P:Int->Prop} {a:Int} (h1:P a):∀x∈[a],P x:=fun x hx=>by
 simp only[List.mem_cons,List.not_mem_nil,or_false]at hx
 rw[hx];exact h1
theorem ahk {o p:aA} (ho:b1O o) (hp:b1O p) (h:ku o=ku p):o=p:=by
 unfold ku at h
 obtain⟨⟨a1,_,_,_,a2,a3,a4,_,a5,a6,a7⟩,a8,a9,a10,a11⟩:=ho
 obtain⟨⟨c1,_,_,_,c2,c3,c4,_,c5,c6,c7⟩,c8,c9,c10,c11⟩:=hp
 obtain⟨e1,h⟩:=List.append_inj h (by rw[Ac,Ac];rfl)
 obtain⟨e2,h⟩:=List.append_inj h (by rw[GU,GU];rfl)
 obtain⟨e3,h⟩:=List.append_inj h (by rw[Ac,Ac];rfl)
 have e1:=VO (by rfl) (all1 a1) (all1 c1) e1
 have e2:=agi (by rfl) (anR a8 a9 a10 a11) (anR c8 c9 c10 c11) e2
 have e3:=VO (by rfl) (ap2 a2 a3 a4 a5 a6 a7) (ap2 c2 c3 c4 c5 c6 c7) e3
 have e4:=agi (by rfl) (all1 (Qm _)) (all1 (Qm _)) h
 simp only[List.cons.injEq,and_true]at e1 e2 e3 e4
 exact(abS o p).1 ⟨e1,e2.1,e2.2.1,e2.2.2.1,e3.1,e3.2.1,e3.2.2.1,e2.2.2.2,e3.2.2.2.1,e3.2.2.2.2.1,e3.2.2.2.2.2,aeu e4⟩
structure B1S (s:ai):Prop where
 ok:iF s
 acc:b1 s.accounts
 sym:b1 s.symbols
 many:b1 (len s.orders)
 ords:∀o∈s.orders,b1O o
structure ahX (s t:ai):Prop where
 acc:s.accounts=t.accounts
 sym:s.symbols=t.symbols
 ords:s.orders=t.orders
 pos:s.cells.map (·.pos)=t.cells.map (·.pos)
 lims:s.limits=t.limits
 caps:s.caps=t.caps
 kill:s.kill=t.kill
 last:s.last=t.last
 seq:s.seq=t.seq
 lsn:s.lsn=t.lsn
theorem amN {s t:ai} (hs:B1S s) (ht:B1S t) (h1:s.orders.length=t.orders.length) (h2:s.cells.length=t.cells.length) (h3:s.limits.length=t.limits.length) (h4:s.caps.length=t.caps.length) (h:encZ s=encZ t):ahX s t:=by
 unfold encZ at h
 have hb:=(List.append_inj h (by rw[Ko,Ko,h1,h2,h3,h4])).1
 unfold uH at hb
 obtain⟨hh,hb⟩:=List.append_inj hb (by rw[Gh,Gh])
 obtain⟨ho,hb⟩:=List.append_inj hb (by rw[flat_length nG,flat_length nG,h1])
 obtain⟨hc,hb⟩:=List.append_inj hb (by rw[flat_length KG,flat_length KG,h2])
 obtain⟨hl,hk⟩:=List.append_inj hb (by rw[flat_length OZ,flat_length OZ,h3])
 unfold headB at hh
 obtain⟨hp,hq⟩:=List.append_inj (List.append_cancel_left hh) (by rw[GU,GU];rfl)
 have e1:=agi (by rfl) (anR hs.acc hs.sym (Qm _) hs.many) (anR ht.acc ht.sym (Qm _) ht.many) hp
 have e2:=VO (by rfl) (anT hs.ok.last hs.ok.seq hs.ok.lsn) (anT ht.ok.last ht.ok.seq ht.ok.lsn) hq
 simp only[List.cons.injEq,and_true]at e1 e2
 rw[Gn,Gn]at hc
 refine⟨e1.1,e1.2.1,Om nG (fun x y hx hy h=>ahk hx hy h) h1 hs.ords ht.ords ho,VO (by simp [h2]) (fun x hx=> ?_) (fun x hx=> ?_) hc,?_,VO h4 hs.ok.caps.1 ht.ok.caps.1 hk,aeu e1.2.2.1,e2.1,e2.2.1,e2.2.2⟩
 ·obtain⟨c,h5,rfl⟩:=List.mem_map.1 hx
  exact(hs.ok.cells.1 c h5).pos
 ·obtain⟨c,h5,rfl⟩:=List.mem_map.1 hx
  exact(ht.ok.cells.1 c h5).pos
 ·refine Om (P:=MX) OZ (fun x y hx hy h=> ?_) h3 hs.ok.limits.1 ht.ok.limits.1 hl
  have:=VO (by rfl) (anT hx.long hx.short hx.opn) (anT hy.long hy.short hy.opn) h
  simp only[List.cons.injEq,and_true]at this
  exact(aeP x y).1 this
theorem flat_get {α:Type} {f:α->List Int} {m:Nat} (hm:∀x,(f x).length=m):∀(l:List α) (i:Nat) (h:i<l.length),((l.flatMap f).drop (m*i)).take m=f l[i]
 |[],i,h=>by simp at h
 |x::l,0,h=>by
  rw[List.flatMap_cons,Nat.mul_zero,List.drop_zero,List.take_append_of_le_length (by rw[hm];exact Nat.le_refl _),List.take_of_length_le (by rw[hm];exact Nat.le_refl _)]
  rfl
 |x::l,i+1,h=>by
  have e:(f x++l.flatMap f).drop (m*(i+1))=(l.flatMap f).drop (m*i):=by
   rw[List.drop_append,List.drop_of_length_le (by rw[hm,Nat.mul_succ];omega),List.nil_append,hm]
   congr 1
   rw[Nat.mul_succ];omega
  rw[List.flatMap_cons,e]
  exact flat_get hm l i (by simpa using h)
theorem aly (s:ai):∃r,encZ s=[115,110,97,102,wr .u8 s.accounts,wr .u8 s.symbols,wr .u8 (NY s.kill),wr .u8 (len s.orders)]++r:=by
 refine⟨p8 [s.last,s.seq,s.lsn]++(s.orders.flatMap ku++(s.cells.flatMap ED++(s.limits.flatMap VZ++p8 s.caps)))++qV (xA (uH s)),?_⟩
 unfold encZ
 conv=>lhs;arg 1;rw[uH,headB,aqX,magic]
 simp
theorem ae2 {n:Int} (h:b1 n):wr .u8 n=n:=by
 unfold b1 at h
 rw[aej,Int.emod_eq_of_lt h.1 (by omega)]
theorem afF {s:ai} (hr:iF s) (h:gu s):B1S s:=by
 obtain⟨f1,f2,f3,f4,f5,f6,f7,f8⟩:=h.few
 refine⟨hr,⟨by omega,by omega⟩,⟨by omega,by omega⟩,⟨by unfold len;omega,by unfold len;omega⟩,fun o ho=> ?_⟩
 obtain⟨hp,_,_,_⟩:=h.fine.ords o ho
 have hb:=hp.1
 unfold PE at hb
 have hph:o.phase=1\/o.phase=2\/o.phase=3:=by
  have:=hp.2.2.2.2.2
  revert this
  by_cases q1:o.phase=1
  ·exact fun _=> .inl q1
  ·by_cases q2:o.phase=2
   ·exact fun _=> .inr (.inl q2)
   ·intro this
    have:o.phase=3:=by
     simp_all
    exact .inr (.inr this)
 exact⟨hr.orders.1 o ho,⟨by omega,by omega⟩,⟨by omega,by omega⟩,⟨by omega,by omega⟩,⟨by omega,by omega⟩⟩
theorem ZR {s:ai} (hr:iF s) (h:gu s):xw (encZ s)/\sumP (encZ s)/\¬akn (encZ s)/\at1 (encZ s) 4=s.accounts/\at1 (encZ s) 5=s.symbols/\nZ (encZ s) 7=s.orders.length/\cN (encZ s)=s.cells.length/\nZ (encZ s) 4=s.caps.length:=by
 obtain⟨f1,f2,f3,f4,f5,f6,f7,f8⟩:=h.few
 have hb:=afF hr h
 obtain⟨r,he⟩:=aly s
 rw[ae2 hb.acc,ae2 hb.sym,ae2 (Qm _),ae2 hb.many]at he
 have a4:at1 (encZ s) 4=s.accounts:=by rw[he];rfl
 have a5:at1 (encZ s) 5=s.symbols:=by rw[he];rfl
 have a6:at1 (encZ s) 6=NY s.kill:=by rw[he];rfl
 have a7:at1 (encZ s) 7=len s.orders:=by rw[he];rfl
 have n4:nZ (encZ s) 4=s.caps.length:=by unfold nZ;rw[a4,f4]
 have n7:nZ (encZ s) 7=s.orders.length:=by unfold nZ;rw[a7];unfold len;omega
 have hc:cN (encZ s)=s.cells.length:=by
  have:((cN (encZ s):Nat):Int)=s.accounts*s.symbols:=by
   unfold cN
   rw[Int.natCast_mul,Nr (A8 s),Nr (A8 s),a4,a5]
  omega
 have hlen:=IG s
 have hbl:=Ko s
 refine⟨⟨by omega,?_,by omega,by omega,by rw[a7];unfold len;omega,?_⟩,?_,?_,a4,a5,n7,hc,n4⟩
 ·rw[he];rfl
 ·unfold NZ QF off2
  rw[n4,n7,hc];omega
 ·unfold sumP
  have e:(encZ s).length - 4=(uH s).length:=by omega
  rw[e]
  have d:(encZ s).drop (uH s).length=qV (xA (uH s)):=by
   unfold encZ
   rw[List.drop_append_of_le_length (Nat.le_refl _),List.drop_of_length_le (Nat.le_refl _),List.nil_append]
  have t:(encZ s).take (uH s).length=uH s:=by
   unfold encZ
   rw[List.take_append_of_le_length (Nat.le_refl _),List.take_of_length_le (Nat.le_refl _)]
  rw[d,t]
 ·rintro(h1 | ⟨i,hi,h1⟩)
  ·rw[a6]at h1
   have:=aeD s.kill
   omega
  ·rw[n7]at hi
   have hlt:32+61*i+60<(encZ s).length:=by omega
   have hg:((s.orders.flatMap ku).drop (61*i)).take 61=ku s.orders[i]:=flat_get nG s.orders i hi
   have hsp:encZ s=headB s++(s.orders.flatMap ku++((s.cells.flatMap ED++(s.limits.flatMap VZ++p8 s.caps))++qV (xA (uH s)))):=by
    unfold encZ
    conv=>lhs;arg 1;rw[uH]
    simp only[List.append_assoc]
   have hol:(s.orders.flatMap ku).length=61*s.orders.length:=flat_length nG _
   have hbyte:(encZ s)[32+61*i+60]=(ku s.orders[i])[60]'(by rw[nG];decide):=by
    have h60:(ku s.orders[i])[60]? =some ((ku s.orders[i])[60]'(by rw[nG];decide)):=List.getElem?_eq_getElem _
    have h61:(encZ s)[32+61*i+60]? =(ku s.orders[i])[60]? :=by
     rw[<-hg,List.getElem?_take,if_pos (by decide),List.getElem?_drop,hsp,List.getElem?_append_right (by rw[Gh];omega),Gh,List.getElem?_append_left (by omega)]
     congr 1;omega
    rw[h60,List.getElem?_eq_getElem hlt]at h61
    exact Option.some.inj h61
   have hlast:(ku s.orders[i])[60]'(by rw[nG];decide)=NY s.orders[i].asked:=by
    have e1:ku s.orders[i]=(p8 [s.orders[i].id]++(p1 [s.orders[i].account,s.orders[i].symbol,s.orders[i].side,s.orders[i].phase]++p8 [s.orders[i].qty,s.orders[i].price,s.orders[i].filled,s.orders[i].newQty,s.orders[i].newPrice,s.orders[i].version]))++[NY s.orders[i].asked]:=by
     unfold ku
     rw[Vj (NY _),ae2 (Qm _)]
     simp only[List.append_assoc]
    have h60:(ku s.orders[i])[60]? =some ((ku s.orders[i])[60]'(by rw[nG];decide)):=List.getElem?_eq_getElem _
    have:(ku s.orders[i])[60]? =some (NY s.orders[i].asked):=by
     rw[e1,List.getElem?_append_right (by simp [Ac,GU])]
     simp [Ac,GU]
    rw[this]at h60
    exact(Option.some.inj h60).symm
   rw[ac4 hlt,hbyte,hlast]at h1
   have:=aeD s.orders[i].asked
   omega
theorem alg {s t:ai} (h:ahX s t) (hc:s.cells=t.cells):s=t:=
 (acJ s t).1 ⟨h.acc,h.sym,h.kill,h.last,h.seq,h.lsn,h.ords,hc,h.lims,h.caps⟩
theorem ank {s t:ai} (h:s.cells.map (·.pos)=t.cells.map (·.pos)) (hy:s.symbols=t.symbols) (l:List aA):dA s l=dA t l:=by
 have hl:s.cells.length=t.cells.length:=by simpa using congrArg List.length h
 refine List.ext_getElem (by rw[gq,gq,hl]) fun i h1 h2=> ?_
 rw[kR,kR]
 have hi:(s.cells.map (·.pos))[i]'(by rw[gq]at h1;simpa using h1)=(t.cells.map (·.pos))[i]'(by rw[gq]at h2;simpa using h2):=by simp only[h]
 simp only[List.getElem_map]at hi
 exact congr (congrArg lJ (congrArg (fun n=>aK.mk n 0 0 0) hi)) (congrArg (fun n=>mF n (i:Int) l) hy)
theorem abq {s:ai} (hr:iF s) (h:gu s):rY (pZ (encZ s))=s:=by
 obtain⟨hf,hs,ho,a4,a5,n7,hc,n4⟩:=ZR hr h
 have hb:=A8 s
 have he:=ajb hb hf hs ho
 have hB:=afF hr h
 obtain⟨f1,f2,f3,f4,f5,f6,f7,f8⟩:=h.few
 obtain⟨b,hbe⟩:∃b,b=encZ s:=⟨_,rfl⟩
 rw[<-hbe]at hf hs ho a4 a5 n7 hc n4 hb he ⊢
 have l1:(rY (pZ b)).orders.length=s.orders.length:=by
  show(FB b).length=_
  simp only[FB,List.length_map,List.length_range,n7]
 have l2:(pZ b).cells.length=s.cells.length:=by
  show(DF b).length=_
  simp only[DF,List.length_map,List.length_range,hc]
 have l3:(rY (pZ b)).limits.length=s.limits.length:=by
  show(QU b).length=_
  simp only[QU,List.length_map,List.length_range,hc,f3]
 have l4:(rY (pZ b)).caps.length=s.caps.length:=by
  show(QY b).length=_
  simp only[QY,List.length_map,List.length_range,n4]
 obtain⟨t,ht⟩:∃t:ai,t=pZ b:=⟨_,rfl⟩
 have henc:encZ t=encZ (rY (pZ b)):=by
  have hcb:t.cells.flatMap ED=(rY (pZ b)).cells.flatMap ED:=by
   rw[Gn,Gn,ht]
   show _=p8 ((dA (pZ b) (pZ b).orders).map _)
   rw[adM]
  have:uH t=uH (rY (pZ b)):=by
   unfold uH
   rw[hcb,ht];rfl
  unfold encZ
  rw[this]
 have htB:B1S t:=by
  have hc8:=Ee b
  refine⟨⟨EI ?_,EI ?_,⟨fun o ho=> ?_,?_⟩,⟨fun c hcm=> ?_,?_⟩,⟨fun x hx=> ?_,?_⟩,⟨fun x hx=> ?_,?_⟩,?_,?_,?_⟩,?_,?_,?_,fun o ho=> ?_⟩
  ·rw[ht];exact kK hb 4
  ·rw[ht];exact kK hb 5
  ·rw[ht]at ho;exact(ahH hb o ho).1
  ·rw[ht];show(rY (pZ b)).orders.length<=_;omega
  ·rw[ht]at hcm
   obtain⟨q1,q2⟩:=aeo c hcm
   rw[q2]
   exact⟨q1,⟨by simp only;omega,by simp only;omega⟩,⟨by simp only;omega,by simp only;omega⟩,⟨by simp only;omega,by simp only;omega⟩⟩
  ·rw[ht];omega
  ·rw[ht]at hx
   obtain⟨i,_,rfl⟩:=List.mem_map.1 (show x∈QU b from hx)
   exact⟨hc8 _,hc8 _,hc8 _⟩
  ·rw[ht];show(rY (pZ b)).limits.length<=_;omega
  ·rw[ht]at hx
   obtain⟨i,_,rfl⟩:=List.mem_map.1 (show x∈QY b from hx)
   exact hc8 _
  ·rw[ht];show(rY (pZ b)).caps.length<=_;omega
  ·rw[ht];exact hc8 _
  ·rw[ht];exact hc8 _
  ·rw[ht];exact hc8 _
  ·rw[ht];exact kK hb 4
  ·rw[ht];exact kK hb 5
  ·rw[ht]
   have:=kK hb 7
   have:len (pZ b).orders=at1 b 7:=by
    show((FB b).length:Int)=_
    simp only[FB,List.length_map,List.length_range]
    exact Nr hb 7
   rw[this];exact kK hb 7
  ·rw[ht]at ho
   obtain⟨i,_,rfl⟩:=List.mem_map.1 (show o∈FB b from ho)
   exact⟨aea hb _,kK hb _,kK hb _,kK hb _,kK hb _⟩
 have hsame:ahX t s:=amN htB hB (by rw[ht];exact l1) (by rw[ht];exact l2) (by rw[ht];exact l3) (by rw[ht];exact l4) (by rw[henc,he,hbe])
 have hfs:ahX (rY (pZ b)) s:=by
  obtain⟨q1,q2,q3,q4,q5,q6,q7,q8,q9,q10⟩:=hsame
  rw[ht]at q1 q2 q3 q4 q5 q6 q7 q8 q9 q10
  refine⟨q1,q2,q3,?_,q5,q6,q7,q8,q9,q10⟩
  show(dA (pZ b) (pZ b).orders).map _=_
  rw[adM,q4]
 refine alg hfs ?_
 rw[h.cells]
 show dA (pZ b) (pZ b).orders=_
 have q3:(pZ b).orders=s.orders:=by rw[<-ht];exact hsame.ords
 rw[q3]
 exact ank (by rw[<-ht];exact hsame.pos) (by rw[<-ht];exact hsame.sym) _
theorem alL {s:ai} (hr:iF s) (h:gu s):WZ (encZ s):=by
 obtain⟨_,_,ho,_⟩:=ZR hr h
 exact⟨ho,by rw[abq hr h];exact h⟩
theorem adB {s:ai} (hr:iF s) (h:gu s):su (encZ s)=some (s,0):=by
 have hl:=IG s
 obtain⟨f1,f2,f3,f4,f5,f6,f7,f8⟩:=h.few
 obtain⟨r,e,q⟩:=Ui (A8 s) (by omega)
 obtain⟨hf,hs,ho,_⟩:=ZR hr h
 rw[e,q.good hf hs (alL hr h),abq hr h]
theorem aeH:xQ zS:=by unfold xQ zS;decide
def QI (c:UInt8):Prop:=(97<=c.toNat/\c.toNat<=122)\/(48<=c.toNat/\c.toNat<=57)\/c.toNat=46
instance (c:UInt8):Decidable (QI c):=by unfold QI;infer_instance
def jY (s:List UInt8):Prop:=(∀c∈s,QI c)/\1<=s.length/\s.length<=16
instance (s:List UInt8):Decidable (jY s):=by unfold jY;infer_instance
theorem Yl:∀(x y:List UInt8),slt x y=decide (x<y)
 |[],[]=>by simp [slt,Op.bytesLess]
 |_::_,[]=>by simp [slt,Op.bytesLess]
 |[],_::_=>by simp [slt,Op.bytesLess]
 |a::x,b::y=>by
  have ih:=Yl x y
  unfold slt at*
  rw[Op.bytesLess,ih]
  simp only[List.cons_lt_cons_iff]
  by_cases h1:a<b<;>by_cases h2:a=b<;>by_cases h3:x<y<;>simp [h1,h2,h3]
theorem Yc (a:List UInt8):¬a<a:=List.lt_irrefl a
theorem Z9 {a b c:List UInt8} (h:a<b) (k:b<c):a<c:=List.lt_trans h k
theorem amQ (a b:List UInt8):a<b\/a=b\/b<a:=by
 by_cases h:a<b
 ·exact .inl h
 ·by_cases k:b<a
  ·exact .inr (.inr k)
  ·exact .inr (.inl (List.le_antisymm (List.not_lt.1 k) (List.not_lt.1 h)))
theorem aoU {n:Nat} (hn:n<999999) {step:Int×Bool->Option ((Int×Bool) ⊕ (Bool ⊕ Bool))} (P:Nat->Prop)
 (h:∀(i:Nat) (q:Bool),i<n->(∀j,j<i->P j)->Wq (step ((i:Int),q)) fun r=>match r with | .inl (k,_)=>k=((i+1:Nat):Int)/\P i | .inr (.inl b)=>b=false/\¬P i | .inr (.inr _)=>False)
 (he:∀q:Bool,Wq (step ((n:Int),q)) fun r=>match r with | .inr (.inr _)=>True | _=>False) (q0:Bool):
 Wq (bT step LF ((0:Int),q0)) fun w=>match w with | .inl b=>b=false/\¬∀i,i<n->P i | .inr _=>∀i,i<n->P i:=by
 refine pF (n:=n) hn (fun i _=>∀j,j<i->P j) _ (fun i q hi hj=>(h i q hi hj).mono fun r hr=> ?_) (fun q hj=>(he q).mono fun r hr=> ?_) q0 0 (Nat.zero_le _) (fun j hj=>by omega)
 ·match r,hr with
  |.inl (k,_),hr=>
   refine⟨hr.1,fun j hj2=> ?_⟩
   by_cases e:j=i
   ·subst e;exact hr.2
   ·exact hj j (by omega)
  |.inr (.inl b),hr=>exact⟨hr.1,fun g=>hr.2 (g i hi)⟩
  |.inr (.inr _),hr=>exact hr.elim
 ·match r,hr with
  |.inl _,hr=>exact hr.elim
  |.inr (.inl b),hr=>exact hr.elim
  |.inr (.inr _),_=>exact hj
theorem amj (l:List UInt8) (i:Nat) (h:i<l.length):ag7 l (itn (i:Int))=(l[i].toNat:Int):=by
 simp [ag7,itn,h]
theorem acV {α:Type} (l:List α):ilt ((l.length:Nat):Int) (len l)=false:=by
 rw[show((l.length:Nat):Int)=len l from rfl];simp [ilt]
theorem aoT (c:UInt8):EJ (c.toNat:Int)=some (decide (QI c)):=by
 refine Wq.dec ?_
 unfold EJ QI
 rw[au]
 simp only[bF,dh,dV,eX,bI,bP,dP,eP,dm,fB,bK,bJ,fC,fD]
 omega
theorem acu {s:List UInt8}:(∀i,i<s.length->∀h:i<s.length,QI s[i])↔∀c∈s,QI c:=by
 constructor
 ·intro h c hc
  obtain⟨i,hi,rfl⟩:=List.mem_iff_getElem.1 hc
  exact h i hi hi
 ·intro h i hi h2
  exact h _ (List.getElem_mem h2)
theorem ahD {s:List UInt8} (hs:s.length<999999):yx s=some (decide (jY s)):=by
 refine Wq.dec ?_
 unfold yx
 refine Wq.bind (aoU (n:=s.length) (step:=fun v:Int×Bool=>qZ (len s) s v.fst v.snd) hs (fun i=>∀h:i<s.length,QI s[i]) (fun i q hi hj=> ?_) (fun q=> ?_) false) fun w hw=> ?_
 ·simp only[qZ]
  rw[aI (by rw[jl];simpa using hi),aI (inb s i hi),amj s i hi,aoT,aj,lM,KX]
  split
  ·rename_i h;rw[au];exact⟨fE (by omega),fun _=>h⟩
  ·rename_i h;rw[au];exact⟨rfl,fun g=>h (g hi)⟩
 ·simp only[qZ]
  rw[dN (acV s),au];trivial
 ·unfold jY
  match w,hw with
  |.inl b,hw=>
   simp only[qQ,au]
   rw[hw.1]
   constructor
   ·intro g;cases g
   ·intro g;exact absurd (acu.2 g.1) hw.2
  |.inr q,hw=>
   simp only[qQ,au,bF,dh,dV,eX,bI,bP,dP,eP,dm,fB,bK,bJ,fC,fD,len]
   have:=acu.1 hw
   constructor
   ·intro g;exact⟨this,by omega,by omega⟩
   ·intro g;omega
def okF (f:ay):Prop:=jY f.name/\0<=f.sure/\f.sure<=len f.data
instance (f:ay):Decidable (okF f):=by unfold okF;infer_instance
def fP (l:List ay):Nat:=(l.map (·.data.length)).sum
def JH (l:List ay):Prop:=l.Pairwise fun f g=>f.name<g.name
instance (l:List ay):Decidable (JH l):=by unfold JH;infer_instance
def zu (l:List ay):Prop:=(∀f∈l,okF f)/\JH l
instance (l:List ay):Decidable (zu l):=by unfold zu;infer_instance
def jo (d:ak):Prop:=(0<=d.room/\d.room<=65536/\ -1<=d.fuse/\d.files.length<=64)/\zu d.files/\(fP d.files:Int)<=d.room
instance (d:ak):Decidable (jo d):=by unfold jo;infer_instance
def nameB (d:ak):Prop:=∀f∈d.files,f.name.length<999999
theorem Aa {α:Type} {l:List α} {i:Nat} (h:i<l.length):l.take (i+1)=l.take i++[l[i]]:=by simp
theorem rX (a b:List ay):fP (a++b)=fP a+fP b:=by simp [fP]
theorem DU (f:ay) (l:List ay):fP (f::l)=f.data.length+fP l:=by simp [fP]
theorem zW {l:List ay} {i:Nat} (h:i<l.length):fP (l.take (i+1))=fP (l.take i)+l[i].data.length:=by
 rw[Aa h,rX];simp [fP]
theorem Il (l:List ay) (i:Nat):fP (l.take i)<=fP l:=by
 have:=rX (l.take i) (l.drop i)
 rw[List.take_append_drop]at this;omega
theorem uZ (a b:List ay):zu (a++b)↔zu a/\zu b/\∀f∈a,∀g∈b,f.name<g.name:=by
 unfold zu JH
 rw[List.pairwise_append]
 constructor
 ·rintro⟨h1,h2,h3,h4⟩
  exact⟨⟨fun f hf=>h1 f (List.mem_append_left _ hf),h2⟩,⟨fun f hf=>h1 f (List.mem_append_right _ hf),h3⟩,h4⟩
 ·rintro⟨⟨h1,h2⟩,⟨h3,h4⟩,h5⟩
  exact⟨fun f hf=>(List.mem_append.1 hf).elim (h1 f) (h3 f),h2,h4,h5⟩
theorem abC (f:ay):zu [f]↔okF f:=by simp [zu,JH]
theorem agM {l:List ay} {i:Nat} (h:i<l.length):zu (l.take (i+1))↔zu (l.take i)/\okF l[i]/\(0<i->∀g:i - 1<l.length,l[i - 1].name<l[i].name):=by
 rw[Aa h,uZ,abC]
 constructor
 ·rintro⟨h1,h2,h3⟩
  exact⟨h1,h2,fun hi g=>h3 _ (by rw[List.mem_iff_getElem];exact⟨i - 1,by rw[List.length_take];omega,by simp⟩) _ (List.mem_singleton.2 rfl)⟩
 ·rintro⟨h1,h2,h3⟩
  refine⟨h1,h2,fun f hf g hg=> ?_⟩
  rw[List.mem_singleton.1 hg]
  obtain⟨j,hj,rfl⟩:=List.mem_iff_getElem.1 hf
  rw[List.length_take]at hj
  rw[List.getElem_take]
  have h4:=h3 (by omega) (by omega)
  by_cases e:j=i - 1
  ·subst e;exact h4
  ·have:=List.pairwise_iff_getElem.1 h1.2 j (i - 1) (by rw[List.length_take];omega) (by rw[List.length_take];omega) (by omega)
   rw[List.getElem_take,List.getElem_take]at this
   exact Z9 this h4
theorem ai8 {l:List ay} (h:zu l) (i:Nat):zu (l.take i):=by
 have:=(uZ (l.take i) (l.drop i)).1 (by rw[List.take_append_drop];exact h)
 exact this.1
theorem MO {d:ak} (hn:nameB d):rP d=some (decide (jo d)):=by
 refine Wq.dec ?_
 unfold rP
 rw[jW]
 refine⟨fun h=>(au _).2 ?_,fun h=> ?_⟩
 ·simp only[bF,dh,dV,eX,bI,bP,dP,eP,dm,fB,bK,bJ,fC,fD,len]at h
  unfold jo
  constructor
  ·intro g;cases g
  ·rintro⟨g, -⟩;omega
 simp only[bF,dh,dV,eX,bI,bP,dP,eP,dm,fB,bK,bJ,fC,fD,len]at h
 have hl:d.files.length<=64:=by omega
 refine Wq.bind (Q:=fun w=>match w with
  |.inl b=>b=false/\¬jo d
  |.inr _=>jo d)
  (pF (n:=d.files.length) (step:=fun v:Int×Int×Bool=>qo (len d.files) d.files d v.fst v.snd.fst v.snd.snd) (by omega)
    (fun i x=>zu (d.files.take i)/\x.1=d.room - (fP (d.files.take i):Int)/\0<=x.1) _ ?_ ?_ _ 0 (Nat.zero_le _) ⟨by simp [zu,JH],by simp [fP],by simp only;omega⟩) ?_
 ·rintro i ⟨room,q⟩ hi ⟨h1,h2,h3⟩
  simp only at h2 h3
  simp only[qo]
  rw[aI (by rw[jl];simpa using hi),aI (inb _ i hi),bQ _ i hi,ahD (hn _ (List.getElem_mem hi)),aj]
  have hu:=zW hi
  have hg:=agM hi
  have e1:0<i->wr .i64 (aG (i:Int) 1)=((i - 1:Nat):Int):=fun h0=>by
   rw[aG,dI (by omega) (by omega)];omega
  have hgd:bor (band (ile 0 (wr .i64 (aG (i:Int) 1))) (ilt (wr .i64 (aG (i:Int) 1)) (len d.files))) (aF (band (aF (aF (decide (jY d.files[i].name)))) (ilt 0 (i:Int))))=true:=by
   rw[dV]
   by_cases h0:0<i
   ·left;rw[e1 h0];exact inb _ _ (by omega)
   ·right;rw[bI,dh];right;exact BD (by omega)
  rw[aI hgd,jW]
  have prev:(0<i->∀g:i - 1<d.files.length,d.files[i - 1].name<d.files[i].name)↔band (ilt 0 (i:Int)) (aF (slt (ah d.files (itn (wr .i64 (aG (i:Int) 1)))).name d.files[i].name))=false:=by
   by_cases h0:0<i
   ·rw[e1 h0,bQ _ _ (by omega:i - 1<d.files.length),Yl,CX (by omega),DL,bP,decide_eq_true_iff]
    exact⟨fun g=>g h0 (by omega),fun g _ _=>g⟩
   ·rw[BD (by omega),LM];simp [h0]
  refine⟨fun hb=>(au _).2 ⟨rfl,fun hd=> ?_⟩,fun hb=>(au _).2 ?_⟩
  ·have g1:=(hg.1 (ai8 hd.2.1 (i+1)))
   have g2:=prev.1 g1.2.2
   have g3:=Il d.files (i+1)
   have g4:=hd.2.2
   obtain⟨k1,k2,k3⟩:=g1.2.1
   rw[g2]at hb
   simp only[bF,dh,dV,eX,bI,bP,dP,eP,dm,fB,bK,bJ,fC,fD,decide_eq_false_iff_not,len]at hb k3
   rcases hb with (((hb | hb) | hb) | hb) | hb
   ·exact hb k1
   ·cases hb
   ·omega
   ·omega
   ·omega
  ·simp only[eX,bP,decide_eq_true_iff]at hb
   obtain⟨⟨⟨⟨b1,b2⟩,b3⟩,b4⟩,b5⟩:=hb
   have b6:=prev.2 b2
   simp only[eP,len]at b3 b4 b5
   have e2:wr .i64 (aG room (len d.files[i].data))=room - (d.files[i].data.length:Int):=by
    rw[aG,dI (by simp only[len];omega) (by simp only[len];omega)];rfl
   refine⟨fE (by omega),hg.2 ⟨h1,⟨b1,b3,b4⟩,b6⟩,?_,?_⟩
   ·simp only;rw[e2,hu];omega
   ·simp only;rw[e2];omega
 ·rintro⟨room,q⟩ ⟨h1,h2,h3⟩
  simp only[qo]
  rw[dN (acV _),au]
  rw[List.take_length]at h1 h2
  simp only at h2 h3
  exact⟨by omega,h1,by omega⟩
 ·rintro(b | q) hw
  ·simp only[qQ,au];simp [hw.1,hw.2]
  ·simp only[qQ,au];simp [hw]
abbrev Nm:=List UInt8
def bW (l:List ay) (n:Nm):Option ay:=l.find? fun f=>decide (f.name=n)
def yB (n:Nm) (l:List ay):List ay:=l.filter fun f=>decide (f.name≠n)
def qB (f:ay):List ay->List ay
 |[]=>[f]
 |g::r=>if g.name<f.name then g::qB f r else f::yB f.name (g::r)
theorem DJ {n:Nm} {l:List ay} (h:∀f∈l,f.name≠n):yB n l=l:=by
 unfold yB;rw[List.filter_eq_self];intro f hf;simpa using h f hf
theorem WC (n:Nm) (a b:List ay):yB n (a++b)=yB n a++yB n b:=by simp [yB]
theorem KR (n:Nm) (f:ay) (b:List ay):yB n (f::b)=if f.name=n then yB n b else f::yB n b:=by
 unfold yB;rw[List.filter_cons];by_cases h:f.name=n<;>simp [h]
theorem acv {n:Nm} {l:List ay} (h:∀f∈l,f.name≠n):bW l n=none:=by
 unfold bW;rw[List.find?_eq_none];intro f hf;simpa using h f hf
theorem ae0 {n:Nm} {a:List ay} (h:∀f∈a,f.name≠n) (b:List ay):bW (a++b) n=bW b n:=by
 unfold bW;rw[List.find?_append]
 have:=acv h
 unfold bW at this
 rw[this];rfl
theorem oL (n:Nm) (f:ay) (b:List ay):bW (f::b) n=if f.name=n then some f else bW b n:=by
 unfold bW;rw[List.find?_cons];by_cases h:f.name=n<;>simp [h]
theorem Kv {n:Nm} {l:List ay} {f:ay} (h:bW l n=some f):f∈l/\f.name=n:=
 ⟨List.mem_of_find?_eq_some h,by simpa using List.find?_some h⟩
theorem O0 {a b:Nm} (h:a<b):a≠b:=fun e=>Yc _ (e▸h)
inductive mP (n:Nm):List ay->Nat->Option ay->Prop
 |no (a b:List ay) (ha:∀f∈a,f.name<n) (hb:∀f∈b,n<f.name):mP n (a++b) a.length none
 |yes (a:List ay) (f:ay) (b:List ay) (e:f.name=n) (ha:∀f∈a,f.name<n) (hb:∀f∈b,n<f.name):mP n (a++f::b) a.length (some f)
theorem mP.get {n:Nm} {l:List ay} {i:Nat} {o:Option ay} (h:mP n l i o):bW l n=o:=by
 cases h with
 |no a b ha hb=>exact acv fun f hf=>(List.mem_append.1 hf).elim (fun h=>O0 (ha f h)) (fun h=>(O0 (hb f h)).symm)
 |yes a f b e ha hb=>rw[ae0 fun f h=>O0 (ha f h),oL,if_pos e]
theorem mP.le {n:Nm} {l:List ay} {i:Nat} {o:Option ay} (h:mP n l i o):i<=l.length:=by
 cases h<;>simp
theorem mP.lt {n:Nm} {l:List ay} {i:Nat} {f:ay} (h:mP n l i (some f)):∃g:i<l.length,l[i]=f/\f.name=n:=by
 cases h with
 |yes a f b e ha hb=>exact⟨by simp,by simp,e⟩
theorem xu {f:ay} {a:List ay} (ha:∀g∈a,g.name<f.name) (b:List ay):qB f (a++b)=a++qB f b:=by
 induction a with
 |nil=>rfl
 |cons g a ih=>
  rw[List.cons_append,qB,if_pos (ha g (List.mem_cons_self ..)),ih fun g hg=>ha g (List.mem_cons_of_mem _ hg)];rfl
theorem JC {f:ay} {b:List ay} (hb:∀g∈b,f.name<g.name):qB f b=f::b:=by
 cases b with
 |nil=>rfl
 |cons g b=>rw[qB,if_neg fun h=>Yc _ (Z9 h (hb g (List.mem_cons_self ..))),DJ fun g hg=>(O0 (hb g hg)).symm]
theorem Yd {f g:ay} {b:List ay} (e:g.name=f.name) (hb:∀g∈b,f.name<g.name):qB f (g::b)=f::b:=by
 rw[qB,if_neg (e▸Yc _),KR,if_pos e,DJ fun g hg=>(O0 (hb g hg)).symm]
theorem mP.ins {n:Nm} {l:List ay} {i:Nat} {f:ay} (h:mP n l i none) (e:f.name=n):l.take i++f::l.drop i=qB f l:=by
 subst e
 cases h with
 |no a b ha hb=>rw[xu ha,JC hb];simp
theorem mP.set {n:Nm} {l:List ay} {i:Nat} {f g:ay} (h:mP n l i (some g)) (e:f.name=n):l.set i f=qB f l:=by
 subst e
 cases h with
 |yes a g b e ha hb=>rw[xu ha,Yd e hb];simp
theorem mP.del {n:Nm} {l:List ay} {i:Nat} {g:ay} (h:mP n l i (some g)):l.eraseIdx i=yB n l:=by
 cases h with
 |yes a g b e ha hb=>
  rw[WC,KR,if_pos e,DJ fun g hg=>O0 (ha g hg),DJ fun g hg=>(O0 (hb g hg)).symm,List.eraseIdx_append_of_length_le (Nat.le_refl _)];simp
theorem adt {l:List ay} (h:JH l) {i j:Nat} (hij:i<j) (hj:j<l.length):l[i].name<l[j].name:=
 List.pairwise_iff_getElem.1 h i j (by omega) hj hij
theorem ajf {l:List ay} (h:JH l) {n:Nm} {i:Nat} (hi:i<=l.length) (h1:∀(j:Nat) (h:j<l.length),j<i->l[j].name<n) (h2:∀(j:Nat) (h:j<l.length),i<=j->¬l[j].name<n):
 mP n l i (if g:i<l.length then if l[i].name=n then some l[i]else none else none):=by
 have ha:∀f∈l.take i,f.name<n:=fun f hf=>by
  obtain⟨j,hj,rfl⟩:=List.mem_iff_getElem.1 hf
  rw[List.length_take]at hj
  rw[List.getElem_take]
  exact h1 j (by omega) (by omega)
 have hle:(l.take i).length=i:=by rw[List.length_take];omega
 by_cases g:i<l.length
 ·rw[dif_pos g]
  have hb:∀f∈l.drop (i+1),l[i].name<f.name:=fun f hf=>by
   obtain⟨j,hj,rfl⟩:=List.mem_iff_getElem.1 hf
   rw[List.length_drop]at hj
   rw[List.getElem_drop]
   exact adt h (by omega) (by omega)
  have e:l.take i++l[i]::l.drop (i+1)=l:=by rw[<-List.drop_eq_getElem_cons g,List.take_append_drop]
  by_cases k:l[i].name=n
  ·rw[if_pos k]
   have:=mP.yes (l.take i) l[i] (l.drop (i+1)) k ha (k▸hb)
   rwa[e,hle]at this
  ·rw[if_neg k]
   have hlt:n<l[i].name:=by
    rcases amQ n l[i].name with c | c | c
    ·exact c
    ·exact absurd c.symm k
    ·exact absurd c (h2 i g (Nat.le_refl _))
   have:=mP.no (l.take i) (l[i]::l.drop (i+1)) ha (fun f hf=>by
    rcases List.mem_cons.1 hf with c | c
    ·subst c;exact hlt
    ·exact Z9 hlt (hb f c))
   rwa[e,hle]at this
 ·rw[dif_neg g]
  have:=mP.no (l.take i) [] ha (by simp)
  rw[List.append_nil,hle,List.take_of_length_le (by omega)]at this
  exact this
theorem aju (n:Nat) (h:n<1000000000):wr .i64 (dG .u64 (wr .u64 (wr .i64 (n:Int))) 1)=((n / 2:Nat):Int):=by
 have e1:wr .i64 (n:Int)=n:=dI (by omega) (by omega)
 have e2:wr .u64 (n:Int)=n:=by rw[D8];omega
 have e3:dG .u64 (n:Int) 1=((n / 2:Nat):Int):=by
  unfold dG
  simp [Int.shiftRight_eq_div_pow,IntKind.bits,IntKind.signed]
  exact Int.fdiv_eq_ediv_of_nonneg _ (by decide)
 rw[e1,e2,e3,dI (by omega) (by omega)]
theorem aiE (a b:Nm):acU a b<0↔a<b:=by
 unfold acU
 rw[Yl,KX]
 by_cases h:a<b
 ·simp [h]
 ·rw[if_neg h]
  cases seq a b<;>simp [cnd,h]
theorem ait (a b:Nm):acU a b=0↔a=b:=by
 unfold acU
 rw[Yl,KX]
 by_cases h:a<b
 ·simp [h,O0 h]
 ·rw[if_neg h]
  by_cases k:a=b
  ·rw[aI (by rw[akf];exact k)];simp [k]
  ·rw[dN (by rw[alK];exact k)];simp [k]
theorem Pm {d:ak} {n:Nm} (ha:JH d.files) (hl:d.files.length<=100000):
 Wq (dL d n) fun r=>∃(i:Nat) (o:Option ay),r.1=(i:Int)/\mP n d.files i o/\r.2=o.isSome:=by
 unfold dL
 refine Wq.bind (Q:=fun w:Int=>∃i:Nat,w=(i:Int)/\i<=d.files.length/\(∀(j:Nat) (h:j<d.files.length),j<i->d.files[j].name<n)/\(∀(j:Nat) (h:j<d.files.length),i<=j->¬d.files[j].name<n))
  (adU (step:=fun x:Int×Int=>dK d.files n x.fst x.snd) (fun v=>(v.1 - v.2).toNat)
    (fun x=>∃lo hi:Nat,x=((hi:Int),(lo:Int))/\lo<=hi/\hi<=d.files.length/\(∀(j:Nat) (h:j<d.files.length),j<lo->d.files[j].name<n)/\(∀(j:Nat) (h:j<d.files.length),hi<=j->¬d.files[j].name<n)) _ ?_ LF _ (ahI (by simp only[len];omega)) ⟨0,d.files.length,rfl,Nat.zero_le _,Nat.le_refl _,fun j _ h=>by omega,fun j h1 h2=>by omega⟩) ?_
 ·rintro _ ⟨lo,hi,rfl,g1,g2,g3,g4⟩
  simp only[dK]
  rw[jW]
  refine⟨fun h=> ?_,fun h=>(au _).2 ?_⟩
  ·rw[dP]at h
   have e1:wr .i64 (dG .u64 (wr .u64 (wr .i64 (ax (lo:Int) (hi:Int)))) 1)=(((lo+hi) / 2:Nat):Int):=by
    rw[<-aju (lo+hi) (by omega)];unfold ax;rw[Int.natCast_add]
   have hm:(lo+hi) / 2<d.files.length:=by omega
   rw[e1,aI (inb _ _ hm),bQ _ _ hm,rM,aj,jW,au,au]
   refine⟨fun h2=> ?_,fun h2=> ?_⟩
   ·rw[dP,aiE]at h2
    refine⟨⟨(lo+hi) / 2+1,hi,by rw[fE (by omega)],by omega,g2,fun j hj h3=> ?_,g4⟩,?_⟩
    ·rcases Nat.lt_or_ge j ((lo+hi) / 2)with h4 | h4
     ·exact Z9 (adt ha h4 hm) h2
     ·have:j=(lo+hi) / 2:=by omega
      subst this;exact h2
    ·simp only;rw[fE (by omega)];omega
   ·rw[eP]at h2
    have h2':¬d.files[(lo+hi) / 2].name<n:=by rw[<-aiE];omega
    refine⟨⟨lo,(lo+hi) / 2,rfl,by omega,by omega,g3,fun j hj h3=> ?_⟩,?_⟩
    ·rcases Nat.lt_or_ge ((lo+hi) / 2) j with h4 | h4
     ·exact fun g=>h2' (Z9 (adt ha h4 hj) g)
     ·have:j=(lo+hi) / 2:=by omega
      subst this;exact h2'
    ·simp only;omega
  ·rw[eP]at h
   have:lo=hi:=by omega
   subst this
   exact⟨lo,rfl,g2,g3,g4⟩
 rintro _ ⟨i,rfl,hi,g1,g2⟩
 have hs:=ajf ha hi g1 g2
 by_cases hil:i<d.files.length
 ·have h1:ilt (i:Int) (len d.files)=true:=CX (by simp only[len];omega)
  rw[aI (by rw[dV];exact .inl (inb _ i hil)),aI h1,bQ _ i hil,rM,aj,au]
  refine⟨i,_,rfl,hs,?_⟩
  rw[dif_pos hil,h1,DL]
  by_cases k:d.files[i].name=n
  ·rw[if_pos k];show ieq _ 0=true;rw[bK,ait];exact k
  ·rw[if_neg k];show ieq _ 0=false;rw[bJ,ne_eq,ait];exact k
 ·have h1:ilt (i:Int) (len d.files)=false:=BD (by simp only[len];omega)
  rw[aI (by rw[dV,bI];exact .inr h1),dN h1,au]
  refine⟨i,_,rfl,hs,?_⟩
  rw[dif_neg hil,h1];rfl
def jB (d:ak) (ns:List Nm):Int:=if ¬jo d then 1 else if d.down=true then 9 else if ∀n∈ns,jY n then 0 else 1
def dF (d:ak):ak×Bool:=if d.fuse=0 then (⟨d.files,d.room,d.fuse,true⟩,false)else if d.fuse= -1 then (d,true)else (⟨d.files,d.room,d.fuse - 1,d.down⟩,true)
def Eg (d:ak) (f:ay):ak:=⟨qB f d.files,d.room,d.fuse,d.down⟩
def afT (d:ak) (n:Nm):ak:=⟨yB n d.files,d.room,d.fuse,d.down⟩
theorem aoY {α:Type} (a b:Nm) (x y:α):cnd (seq a b) x y=if a=b then x else y:=by
 by_cases h:a=b
 ·rw[if_pos h,aI (by rw[akf];exact h)]
 ·rw[if_neg h,dN (by rw[alK];exact h)]
theorem lH {d:ak} {ns:List Nm}:jB d ns=0↔jo d/\d.down=false/\∀n∈ns,jY n:=by
 unfold jB
 by_cases h1:jo d
 ·cases h2:d.down
  ·by_cases h3:∀n∈ns,jY n
   ·simp [h1,h3]
   ·simp [h1,h3]
  ·simp [h1]
 ·simp [h1]
theorem agW (d:ak) (a b:Nm):jB d [a,b]=jB d [b,a]:=by
 unfold jB
 have:(∀n∈[a,b],jY n)↔∀n∈[b,a],jY n:=by simp [and_comm]
 by_cases h:∀n∈[a,b],jY n
 ·simp only[if_pos h,if_pos (this.1 h)]
 ·simp only[if_neg h,if_neg (fun g=>h (this.2 g))]
theorem P7 {d:ak} {ns:List Nm} (hn:nameB d) (hs:∀n∈ns,n.length<999999) (hl:ns.length<1000):iU d ns=some (jB d ns):=by
 refine Wq.eq ?_
 unfold iU jB
 rw[MO hn,aj,lM,KX]
 by_cases hd:jo d
 case neg=>rw[if_neg hd,au];simp [hd]
 rw[if_pos hd]
 cases hw:d.down
 case true=>rw[bG,au];simp [hd]
 rw[bn]
 refine Wq.bind (Q:=fun w:Int ⊕ Int=>match w with
  |.inl k=>0<=k/\¬∀n∈ns,jY n
  |.inr _=>∀n∈ns,jY n)
  (pF (n:=ns.length) (step:=fun v:Int×Int=>cu (len ns) ns v.fst v.snd) (by omega) (fun i x=>∀n∈ns.take i,jY n) _ ?_ ?_ _ 0 (Nat.zero_le _) (by simp)) ?_
 ·rintro i x hi hx
  simp only[cu]
  rw[aI (by rw[jl];simpa using hi),aI (inb _ i hi),bQ _ i hi,ahD (hs _ (List.getElem_mem hi)),aj,lM,KX]
  split
  ·rename_i g
   refine(au _).2 ⟨fE (by omega),?_⟩
   rw[Aa hi]
   intro f hf
   rcases List.mem_append.1 hf with c | c
   ·exact hx f c
   ·rw[List.mem_singleton.1 c];exact g
  ·rename_i g
   exact(au _).2 ⟨by omega,fun h=>g (h _ (List.getElem_mem hi))⟩
 ·rintro x hx
  simp only[cu]
  rw[dN (acV _),au]
  rwa[List.take_length]at hx
 ·rintro(w | w) hw2
  ·simp only[qQ]
   rw[aI (kF hw2.1),au,if_neg (fun h=>h hd),if_neg (by simp),if_neg hw2.2]
  ·simp only[qQ]
   rw[au,if_neg (fun h=>h hd),if_neg (by simp),if_pos hw2]
theorem agv {l:List ay} (h:fP l<=10000000) {f:ay} (hf:f∈l):f.data.length<=10000000:=by
 obtain⟨i,hi,rfl⟩:=List.mem_iff_getElem.1 hf
 have:=zW hi
 have:=Il l (i+1)
 omega
theorem apy {d:ak} (hl:d.files.length<999999) (hu:fP d.files<=10000000):Bc d=some (fP d.files:Int):=by
 refine Wq.eq ?_
 unfold Bc
 refine Wq.bind (pF (n:=d.files.length) (step:=fun v:Int×Int=>um (len d.files) d.files v.fst v.snd) hl (fun i x=>x=(fP (d.files.take i):Int)) (fun w=>w=(fP d.files:Int)) ?_ ?_ 0 0 (Nat.zero_le _) (by simp [fP])) ?_
 ·rintro i x hi rfl
  simp only[um]
  rw[aI (by rw[jl];simpa using hi),aI (inb _ i hi),bQ _ i hi,au]
  have h1:=zW hi
  have h2:=Il d.files (i+1)
  refine⟨fE (by omega),?_⟩
  rw[ax,dI (by simp only[len];omega) (by simp only[len];omega)]
  simp only[len];omega
 ·rintro x rfl
  simp only[um]
  rw[dN (acV _),au,List.take_length]
 ·rintro w rfl
  exact(au _).2 rfl
theorem Zn (n:Nm) (l:List ay):(yB n l).length<=l.length:=List.length_filter_le ..
theorem KL {l:List ay} (h:l.length<1000000):aN l=some l:=by unfold aN;exact DI h
theorem Zg {l:List Int} (h:l.length<1000000):dw l=some l:=by unfold dw;exact DI h
def aj9 (p:ak×Bool):ak×Int:=(p.1,if p.2=true then 0 else 9)
def fK (d:ak) (n:Nm) (b:List Int):ak×Int:=
 if jB d [n]≠0 then (d,jB d [n])else
 if d.room<(fP d.files:Int)+(b.length:Int)\/(bW d.files n=none/\64<=d.files.length)then (d,6)else
 aj9 (dF (Eg d ⟨n,((bW d.files n).getD ⟨n,[],0⟩).data++b,((bW d.files n).getD ⟨n,[],0⟩).sure⟩))
def qU (d:ak) (n:Nm):ak×Int:=
 if jB d [n]≠0 then (d,jB d [n])else
 match bW d.files n with
 |none=>(d,7)
 |some f=>if (dF d).2=true then (Eg (dF d).1 ⟨n,f.data,len f.data⟩,0)else ((dF d).1,9)
def lg (d:ak) (a b:Nm):ak×Int:=
 if jB d [a,b]≠0 then (d,jB d [a,b])else
 match bW d.files a with
 |none=>(d,7)
 |some f=>if (dF d).2=true then (Eg (afT (dF d).1 a) ⟨b,f.data,f.sure⟩,0)else ((dF d).1,9)
def kS (d:ak) (n:Nm):ak×Int:=
 if jB d [n]≠0 then (d,jB d [n])else
 match bW d.files n with
 |none=>(d,7)
 |some f=>if (dF d).2=true then (afT (dF d).1 n,0)else ((dF d).1,9)
def Dy (d:ak) (n:Nm) (k:Int):ak×Int:=
 if jB d [n]≠0 then (d,jB d [n])else
 match bW d.files n with
 |none=>(d,7)
 |some f=>if k<0\/len f.data<k then (d,1)else
  if (dF d).2=true then (Eg (dF d).1 ⟨n,f.data.take k.toNat,if k<f.sure then k else f.sure⟩,0)else ((dF d).1,9)
def Oo (d:ak) (n:Nm):List Int×Int:=
 if jB d [n]≠0 then ([],jB d [n])else
 match bW d.files n with
 |none=>([],7)
 |some f=>(f.data,0)
structure OL (d:ak):Prop where
 nm:nameB d
 fu:inI d.fuse
theorem jo.fl {d:ak} (h:jo d):d.files.length<=64:=h.1.2.2.2
theorem jo.us {d:ak} (h:jo d):fP d.files<=65536:=by have:=h.2.2;have:=h.1;omega
theorem jo.asc {d:ak} (h:jo d):JH d.files:=h.2.1.2
theorem bM (d:ak):(dF d).1.files=d.files:=by unfold dF;split<;>(try split)<;>rfl
theorem uU (d:ak):(dF d).1.room=d.room:=by unfold dF;split<;>(try split)<;>rfl
theorem Qb {α:Type} (d:ak) (hf: -1<=d.fuse) (hf2:inI d.fuse) (x:α) (y:Int->Bool->α):
 cnd (ieq d.fuse 0) x (cnd (ieq d.fuse (-1)) (y d.fuse d.down) (y (wr .i64 (aG d.fuse 1)) d.down))=if (dF d).2=true then y (dF d).1.fuse (dF d).1.down else x:=by
 rw[kQ,kQ]
 unfold dF
 unfold inI at hf2
 by_cases h0:d.fuse=0
 ·simp [h0]
 by_cases h1:d.fuse= -1
 ·simp [h1]
 ·rw[if_neg h0,if_neg h1,if_neg h0,if_neg h1,if_pos rfl,Ky ⟨by simp only[aG];omega,by simp only[aG];omega⟩];rfl
theorem Qj {d:ak} (h:¬(dF d).2=true):(dF d).1=⟨d.files,d.room,d.fuse,true⟩:=by
 unfold dF at h ⊢
 split
 ·rfl
 ·rename_i h0
  rw[if_neg h0]at h
  split at h<;>simp at h
theorem cut_out {α:Type} (l r:List α) (i:Nat) (h:i<l.length):
 (eu (eu l i (l.drop (i+1))) (i+(l.drop (i+1)).length) r).take (i+(l.drop (i+1)).length)=l.eraseIdx i:=by
 unfold eu
 have h1:(l.take i).length=i:=by rw[List.length_take];omega
 have e:(l.take i++(l.drop (i+1)++l.drop (i+(l.drop (i+1)).length))).take (i+(l.drop (i+1)).length)=l.take i++l.drop (i+1):=by
  rw[<-List.append_assoc,List.take_append_of_le_length (by rw[List.length_append,h1];exact Nat.le_refl _),List.take_of_length_le (by rw[List.length_append,h1];exact Nat.le_refl _)]
 rw[e,List.take_append_of_le_length (by rw[List.length_append,h1];exact Nat.le_refl _),List.take_of_length_le (by rw[List.length_append,h1];exact Nat.le_refl _),List.eraseIdx_eq_take_drop_succ]
theorem af9 {α:Type} (l:List α) (i:Nat) (h:i<l.length):aC (aH l (itn ((i+1:Nat):Int))) (itn (aG (len l) ((i+1:Nat):Int)))=l.drop (i+1):=by
 unfold aC aH aG
 rw[qN]
 apply List.take_of_length_le
 rw[List.length_drop]
 simp only[itn,len];omega
theorem afg {α:Type} (l:List α) (i:Nat) (h:i<l.length):nad i (itn (len (l.drop (i+1))))=i+(l.drop (i+1)).length:=by simp [nad,itn,len]
theorem ab5 {α:Type} (l:List α) (i:Nat) (ys:List α) (h:i+ys.length<=l.length):(eu l i ys).length=l.length:=by
 unfold eu;simp only[List.length_append,List.length_take,List.length_drop];omega
theorem aeR (n:Nat):nad 0 n=n:=by simp [nad]
theorem ahF (n:Nat):itn (nti n)=n:=by simp [itn,nti]
theorem alh {l:List ay} {i:Nat} (h:i<l.length) (hl:l.length<999999):dJ l (i:Int) ((i+1:Nat):Int)=some (l.eraseIdx i):=by
 unfold dJ
 have hdl:(l.drop (i+1)).length=l.length - (i+1):=List.length_drop ..
 rw[af9 l i h,qN,afg l i h,aeR,ahF]
 have hlc:=ab5 l i (l.drop (i+1)) (by omega)
 rw[aI (by simp only[bF,dm,len];omega),kQ,if_neg (by omega),aI (by simp only[bF,dm,len];omega),aI (by simp only[bF,dm,len];omega),aI (by simp only[ax,nti,dm,len];omega),
  aI (by simp only[bF,dm,len,aG,nti,hlc];omega)]
 congr 1
 exact cut_out l _ i h
theorem af5 {l:List LD} (hl:l.length<1000) (hs:(l.flatMap (·.all)).length<1000000):jg l=some (l.flatMap (·.all)):=by
 have tk:∀ {i:Nat} (h:i<l.length),((l.take (i+1)).flatMap (·.all))=((l.take i).flatMap (·.all))++l[i].all:=fun h=>by
  rw[Aa h,List.flatMap_append];simp
 have le:∀i:Nat,((l.take i).flatMap (·.all)).length<=(l.flatMap (·.all)).length:=fun i=>by
  have:(l.flatMap (·.all))=((l.take i).flatMap (·.all))++((l.drop i).flatMap (·.all)):=by rw[<-List.flatMap_append,List.take_append_drop]
  rw[this,List.length_append];omega
 have loop2:∀x:List Int,x=[]->Wq (bT (fun v:Int×List Int=>iI (len l) l v.fst v.snd) LF (0,x)) fun w=>w=l.flatMap (·.all):=by
  rintro _ rfl
  refine pF (n:=l.length) (by omega) (fun i x=>x=(l.take i).flatMap (·.all)) _ ?_ ?_ [] 0 (Nat.zero_le _) (by simp)
  ·rintro i x hi rfl
   simp only[iI]
   have:=le (i+1)
   rw[tk hi]at this
   rw[aI (by rw[jl];simpa using hi),aI (inb _ i hi),bQ _ i hi,aI (kF (by simp only[len,jc];omega)),au]
   exact⟨fE (by omega),(tk hi).symm⟩
  ·rintro x rfl
   simp only[iI]
   rw[dN (acV _),au,List.take_length]
 refine Wq.eq ?_
 unfold jg
 refine Wq.bind (pF (n:=l.length) (step:=fun v:Int×Int=>jM (len l) l v.fst v.snd) (by omega) (fun i x=>x=(((l.take i).flatMap (·.all)).length:Int)) (fun w=>w=((l.flatMap (·.all)).length:Int)) ?_ ?_ 0 0 (Nat.zero_le _) (by simp)) ?_
 ·rintro i x hi rfl
  simp only[jM]
  have h1:=le (i+1)
  rw[tk hi,List.length_append]at h1
  have e:wr .i64 (ax (((l.take i).flatMap (·.all)).length:Int) (len l[i].all))=(((l.take (i+1)).flatMap (·.all)).length:Int):=by
   rw[tk hi,List.length_append,ax,dI (by simp only[len];omega) (by simp only[len];omega)];simp only[len];omega
  rw[aI (by rw[jl];simpa using hi),aI (inb _ i hi),bQ _ i hi,e,dN (BD (by omega)),au]
  exact⟨fE (by omega),rfl⟩
 ·rintro x rfl
  simp only[jM]
  rw[dN (acV _),au,List.take_length]
 ·rintro w rfl
  have e:wr .i64 (aG ((l.flatMap (·.all)).length:Int) 0)=((l.flatMap (·.all)).length:Int):=by rw[aG,dI (by omega) (by omega)];omega
  rw[dN (BD (by omega)),e,jW]
  constructor
  ·intro h
   rw[dP]at h
   rw[aI (by simp only[bF,dP,dm];omega),aI (kF (by simp only[len];omega))]
   exact(loop2 _ (by simp [aC])).bind fun a h=>(au _).2 h
  ·intro h
   exact(loop2 _ rfl).bind fun a h=>(au _).2 h
theorem aek {l:List ay} {i:Nat} {f:ay} (h:i<=l.length) (hl:l.length<999999):bf l (i:Int) [f]=some (l.take i++f::l.drop i):=by
 unfold bf
 simp only[]
 rw[aI (by simp only[bF,dm,len,ax];omega),qN];rfl
theorem aoJ {i:Nat} (h:i<1000000):wr .i64 (ax (i:Int) 1)=((i+1:Nat):Int):=fE h
theorem aaq {α:Type} [Inhabited α] (l:List α) (i:Nat) (h:i<l.length):ah l i=l[i]:=by simp [ah,h]
theorem DW {P:Nm->Prop} {n:Nm} (h:P n):∀m∈[n],P m:=fun m hm=>by rw[List.mem_singleton.1 hm];exact h
theorem aeB {d:ak} {n:Nm} (h:OL d) (hn:n.length<999999):qf d n=some (kS d n):=by
 refine Wq.eq ?_
 unfold qf kS
 rw[P7 h.nm (DW hn) (by simp),aj,lM,kQ,lM,kQ]
 by_cases h0:jB d [n]=0
 case neg=>rw[if_neg h0,if_neg h0,au,if_pos h0]
 rw[if_pos h0,if_neg (fun g=>g h0)]
 obtain⟨hd,hw, -⟩:=lH.1 h0
 refine(Pm hd.asc (by have:=hd.fl;omega)).bind ?_
 rintro⟨k,b⟩ ⟨i,o,e1,e2,e3⟩
 simp only at e1 e3
 subst e1 e3
 have hg:=e2.get
 rw[hg]
 cases o with
 |none=>simp only[Option.isSome_none];rw[bZ,bG,au]
 |some f=>
  obtain⟨hi,-, -⟩:=e2.lt
  have hl:=hd.fl
  simp only[Option.isSome_some]
  rw[bC,bn,aoJ (by omega)]
  simp only[KL (show d.files.length<1000000 by omega),aj,alh hi (by omega)]
  rw[Qb d hd.1.2.2.1 h.fu (some (ak.mk d.files d.room d.fuse true,(9:Int))) (fun a b=>some (ak.mk (d.files.eraseIdx i) d.room a b,(0:Int))),e2.del]
  by_cases hs:(dF d).2=true
  ·rw[if_pos hs,au,if_pos hs];unfold afT;rw[bM,uU]
  ·rw[if_neg hs,au,if_neg hs,Qj hs]
theorem agL {d:ak} {n:Nm} (h:OL d) (hn:n.length<999999):jA d n=some (qU d n):=by
 refine Wq.eq ?_
 unfold jA qU
 rw[P7 h.nm (DW hn) (by simp),aj,lM,kQ,lM,kQ]
 by_cases h0:jB d [n]=0
 case neg=>rw[if_neg h0,if_neg h0,au,if_pos h0]
 rw[if_pos h0,if_neg (fun g=>g h0)]
 obtain⟨hd,hw, -⟩:=lH.1 h0
 refine(Pm hd.asc (by have:=hd.fl;omega)).bind ?_
 rintro⟨k,b⟩ ⟨i,o,e1,e2,e3⟩
 simp only at e1 e3
 subst e1 e3
 have hg:=e2.get
 rw[hg]
 cases o with
 |none=>simp only[Option.isSome_none];rw[bZ,bG,au]
 |some f=>
  obtain⟨hi,hf,hfn⟩:=e2.lt
  have hl:=hd.fl
  simp only[Option.isSome_some]
  rw[bC,bn]
  simp only[KL (show d.files.length<1000000 by omega),aj,aI (inb d.files i hi),qN,aaq d.files i hi]
  rw[Qb d hd.1.2.2.1 h.fu (some (ak.mk d.files d.room d.fuse true,(9:Int))) (fun a b=>some (ak.mk (aY d.files i (ay.mk d.files[i].name d.files[i].data (len d.files[i].data))) d.room a b,(0:Int))),hf]
  have e:=e2.set (f:=⟨n,f.data,len f.data⟩) rfl
  by_cases hs:(dF d).2=true
  ·rw[if_pos hs,au,if_pos hs];unfold Eg aY;rw[bM,uU,hfn,e]
  ·rw[if_neg hs,au,if_neg hs,Qj hs]
theorem Y9 {d:ak} {n:Nm} (h:OL d) (hn:n.length<999999):kM d n=some (Oo d n):=by
 refine Wq.eq ?_
 unfold kM Oo
 rw[P7 h.nm (DW hn) (by simp),aj,lM,kQ,lM,kQ]
 by_cases h0:jB d [n]=0
 case neg=>rw[if_neg h0,if_neg h0,au,if_pos h0]
 rw[if_pos h0,if_neg (fun g=>g h0)]
 obtain⟨hd,hw, -⟩:=lH.1 h0
 refine(Pm hd.asc (by have:=hd.fl;omega)).bind ?_
 rintro⟨k,b⟩ ⟨i,o,e1,e2,e3⟩
 simp only at e1 e3
 subst e1 e3
 have hg:=e2.get
 rw[hg]
 cases o with
 |none=>simp only[Option.isSome_none];rw[bZ,bG,au]
 |some f=>
  obtain⟨hi,hf,hfn⟩:=e2.lt
  have hb:=agv (by have:=hd.us;omega:fP d.files<=10000000) (List.getElem_mem hi)
  have hus:=zW hi
  have hus2:=Il d.files (i+1)
  have:=hd.us
  simp only[Option.isSome_some]
  rw[bC,bn,aI (inb d.files i hi),bQ d.files i hi,Zg (by omega),aj,au,hf]
theorem YD {d:ak} {n:Nm} {b:List Int} (h:OL d) (hn:n.length<999999) (hb:b.length<900000):iK d n b=some (fK d n b):=by
 refine Wq.eq ?_
 unfold iK fK
 rw[P7 h.nm (DW hn) (by simp),aj,lM,kQ]
 by_cases h0:jB d [n]=0
 case neg=>rw[if_neg h0,au,if_pos h0]
 rw[if_pos h0,if_neg (fun g=>g h0)]
 obtain⟨hd,hw, -⟩:=lH.1 h0
 have hl:=hd.fl
 have hu:=hd.us
 have hr:=hd.1
 refine(Pm hd.asc (by omega)).bind ?_
 rintro⟨k,q⟩ ⟨i,o,e1,e2,e3⟩
 simp only at e1 e3
 subst e1 e3
 have hg:=e2.get
 rw[hg,apy (by omega) (by omega),aj]
 have e4:wr .i64 (aG d.room (fP d.files:Int))=d.room - (fP d.files:Int):=by rw[aG,Ky ⟨by omega,by omega⟩]
 have hcond:(bor (ilt (wr .i64 (aG d.room (fP d.files:Int))) (len b)) (band (aF o.isSome) (ieq (len d.files) 64))=true)↔(d.room<(fP d.files:Int)+(b.length:Int)\/(o=none/\64<=d.files.length)):=by
  rw[e4]
  simp only[bF,dh,dV,eX,bI,bP,dP,eP,dm,fB,bK,bJ,fC,fD,len]
  cases o<;>simp<;>omega
 rw[jW]
 refine⟨fun hc=>(au _).2 ?_,fun hc=> ?_⟩
 ·rw[if_pos (hcond.1 hc)]
 rw[if_neg (fun g=>by rw[hcond.2 g]at hc;cases hc),KL (by omega),aj]
 have hnot:¬(d.room<(fP d.files:Int)+(b.length:Int)\/(o=none/\64<=d.files.length)):=fun g=>by rw[hcond.2 g]at hc;cases hc
 cases o with
 |none=>
  simp only[Option.isSome_none,Option.getD_none,List.nil_append]
  have hil:=e2.le
  rw[bZ,bG,aek hil (by omega),aj,e2.ins rfl]
  have e5:qB ⟨n,[],0⟩ d.files=d.files.take i++⟨n,[],0⟩::d.files.drop i:=(e2.ins (f:=⟨n,[],0⟩) rfl).symm
  have hlen:(d.files.take i).length=i:=by rw[List.length_take];omega
  have hi:i<(qB ⟨n,[],0⟩ d.files).length:=by rw[e5];simp;omega
  have hgt:(qB ⟨n,[],0⟩ d.files)[i]=⟨n,[],0⟩:=by
   simp only[e5]
   rw[List.getElem_append_right (by omega)]
   simp [hlen]
  have hst:aY (qB ⟨n,[],0⟩ d.files) i ⟨n,b,0⟩=qB ⟨n,b,0⟩ d.files:=by
   rw[<-e2.ins (f:=⟨n,b,0⟩) rfl,e5]
   unfold aY
   rw[List.set_append_right _ _ (by omega)]
   simp [hlen]
  rw[aI (inb _ i hi),bQ _ i hi,hgt,af5 (by simp) (by simp only[List.flatMap_cons,List.flatMap_nil,List.append_nil,List.nil_append];omega),aj,aI (inb _ i hi),qN]
  simp only[List.flatMap_cons,List.flatMap_nil,List.nil_append,List.append_nil]
  have e6:ah (qB ⟨n,[],0⟩ d.files) i=⟨n,[],0⟩:=by rw[aaq _ i hi,hgt]
  rw[hst,Qb d hd.1.2.2.1 h.fu (some (ak.mk (qB ⟨n,b,0⟩ d.files) d.room d.fuse true,(9:Int))) (fun x y=>some (ak.mk (qB ⟨n,b,0⟩ d.files) d.room x y,(0:Int)))]
  have sw:dF (Eg d ⟨n,b,0⟩)=(⟨qB ⟨n,b,0⟩ d.files,d.room,(dF d).1.fuse,(dF d).1.down⟩,(dF d).2):=by
   unfold dF Eg;split<;>(try split)<;>rfl
  rw[sw]
  unfold aj9
  simp only[]
  by_cases hs:(dF d).2=true
  ·rw[if_pos hs,au,if_pos hs]
  ·rw[if_neg hs,au,if_neg hs,Qj hs]
 |some f=>
  simp only[Option.isSome_some,Option.getD_some]
  obtain⟨hi,hf,hfn⟩:=e2.lt
  have hus:=zW hi
  have hus2:=Il d.files (i+1)
  rw[bC,bn,aI (inb _ i hi),bQ _ i hi,hf,af5 (by simp) (by simp only[List.flatMap_cons,List.flatMap_nil,List.append_nil,List.length_append];rw[hf]at hus;omega),aj,aI (inb _ i hi),qN]
  simp only[List.flatMap_cons,List.flatMap_nil,List.append_nil]
  have e6:ah d.files i=f:=by rw[aaq _ i hi,hf]
  have hst:aY d.files i ⟨f.name,f.data++b,f.sure⟩=qB ⟨n,f.data++b,f.sure⟩ d.files:=by rw[hfn];exact e2.set rfl
  rw[hst,Qb d hd.1.2.2.1 h.fu (some (ak.mk (qB ⟨n,f.data++b,f.sure⟩ d.files) d.room d.fuse true,(9:Int))) (fun x y=>some (ak.mk (qB ⟨n,f.data++b,f.sure⟩ d.files) d.room x y,(0:Int)))]
  have sw:dF (Eg d ⟨n,f.data++b,f.sure⟩)=(⟨qB ⟨n,f.data++b,f.sure⟩ d.files,d.room,(dF d).1.fuse,(dF d).1.down⟩,(dF d).2):=by
   unfold dF Eg;split<;>(try split)<;>rfl
  rw[sw]
  unfold aj9
  simp only[]
  by_cases hs:(dF d).2=true
  ·rw[if_pos hs,au,if_pos hs]
  ·rw[if_neg hs,au,if_neg hs,Qj hs]
theorem aji {α:Type} (l:List α) (i:Nat) (x y:α):aY (aY l i x) i y=aY l i y:=by simp [aY]
theorem ajh {α:Type} [Inhabited α] (l:List α) (i:Nat) (x:α) (h:i<l.length):ah (aY l i x) i=x:=by simp [ah,aY,h]
theorem anv (a b:Int):jF a b=if b<a then b else a:=by
 unfold jF;rfl
theorem aqc {d:ak} {n:Nm} {k:Int} (h:OL d) (hn:n.length<999999):uX d n k=some (Dy d n k):=by
 refine Wq.eq ?_
 unfold uX Dy
 rw[P7 h.nm (DW hn) (by simp),aj,lM,kQ,lM,kQ]
 by_cases h0:jB d [n]=0
 case neg=>rw[if_neg h0,if_neg h0,au,if_pos h0]
 rw[if_pos h0,if_neg (fun g=>g h0)]
 obtain⟨hd,hw, -⟩:=lH.1 h0
 refine(Pm hd.asc (by have:=hd.fl;omega)).bind ?_
 rintro⟨k0,q⟩ ⟨i,o,e1,e2,e3⟩
 simp only at e1 e3
 subst e1 e3
 have hg:=e2.get
 rw[hg]
 cases o with
 |none=>simp only[Option.isSome_none];rw[bZ,bG,au]
 |some f=>
  obtain⟨hi,hf,hfn⟩:=e2.lt
  have hl:=hd.fl
  have hus:=zW hi
  have hus2:=Il d.files (i+1)
  have:=hd.us
  rw[hf]at hus
  simp only[Option.isSome_some]
  rw[bC,bn,aip,aip]
  by_cases hk:k<0
  ·rw[if_pos hk,if_pos hk,au,if_pos (.inl hk)]
  rw[if_neg hk,aI (inb _ i hi),bQ _ i hi,hf,aip]
  by_cases hk2:len f.data<k
  ·rw[if_pos hk2,au,if_pos (.inr hk2)]
  rw[if_neg hk2,if_neg (fun g=>g.elim hk hk2)]
  have hkk:band (ile 0 k) (ile k (len f.data))=true:=zX (kF (by omega)) (kF (by omega))
  have htl:(aC f.data (itn k)).length<1000000:=by unfold aC;rw[List.length_take];omega
  simp only[KL (show d.files.length<1000000 by omega),aj,aI (inb d.files i hi),qN,aaq d.files i hi,hf,aI hkk,Zg htl,aji,ajh d.files i _ hi]
  rw[Qb d hd.1.2.2.1 h.fu (some (ak.mk d.files d.room d.fuse true,(9:Int))) (fun a b=>some (ak.mk (aY d.files i (ay.mk f.name (aC f.data (itn k)) (jF f.sure k))) d.room a b,(0:Int))),anv]
  have e:=e2.set (f:=⟨n,f.data.take k.toNat,if k<f.sure then k else f.sure⟩) rfl
  by_cases hs:(dF d).2=true
  ·rw[if_pos hs,au,if_pos hs];unfold Eg aY aC itn;rw[bM,uU,hfn,e]
  ·rw[if_neg hs,au,if_neg hs,Qj hs]
theorem ao6 {d:ak} {x:ay} (ha:JH d.files) (hl:d.files.length<=100000) {α:Type} (R:List ay->Option α) (Q:α->Prop) (h:Wq (R (qB x d.files)) Q):
 Wq (af (dL d x.name) fun y9 => cnd y9.snd (cnd (band (ile 0 y9.fst) (ilt y9.fst (len d.files))) (R (aY d.files (itn y9.fst) x)) none) (af (bf d.files y9.fst [x]) fun y10 => R y10)) Q:=by
 refine(Pm ha hl).bind ?_
 rintro⟨k0,q⟩ ⟨i,o,e1,e2,e3⟩
 simp only at e1 e3
 subst e1 e3
 cases o with
 |none=>
  have:=e2.le
  simp only[Option.isSome_none]
  rw[bn,aek this (by omega),aj,e2.ins rfl]
  exact h
 |some f=>
  obtain⟨hi,hf,hfn⟩:=e2.lt
  simp only[Option.isSome_some]
  rw[bG,aI (inb _ i hi),qN]
  unfold aY
  rw[e2.set rfl]
  exact h
theorem adf {n:Nm} {l:List ay} (h:JH l):JH (yB n l):=by
 unfold JH yB;exact List.Pairwise.sublist List.filter_sublist h
theorem afV {l:List ay} {i:Nat} (h:i<l.length):
 aC (eu (eu l i (l.drop (i+1))) (i+(l.drop (i+1)).length) (iQ ay (itn (aG (len l) (nti (i+(l.drop (i+1)).length)))))) (i+(l.drop (i+1)).length)=l.eraseIdx i:=cut_out l _ i h
theorem afX {d:ak} {a b:Nm} (h:OL d) (hna:a.length<999999) (hnb:b.length<999999):jT d a b=some (lg d a b):=by
 refine Wq.eq ?_
 unfold jT lg
 have hns:∀m∈jc [b] [a],m.length<999999:=by intro m hm;simp [jc]at hm;rcases hm with rfl | rfl<;>assumption
 rw[aI (kF (by simp [len,jc])),P7 h.nm hns (by simp [jc]),aj,lM,kQ,lM,kQ,show jB d (jc [b] [a])=jB d [a,b]from agW d b a]
 by_cases h0:jB d [a,b]=0
 case neg=>rw[if_neg h0,if_neg h0,au,if_pos h0]
 rw[if_pos h0,if_neg (fun g=>g h0)]
 obtain⟨hd,hw, -⟩:=lH.1 h0
 refine(Pm hd.asc (by have:=hd.fl;omega)).bind ?_
 rintro⟨k0,q⟩ ⟨i,o,e1,e2,e3⟩
 simp only at e1 e3
 subst e1 e3
 have hg:=e2.get
 rw[hg]
 cases o with
 |none=>simp only[Option.isSome_none];rw[bZ,bG,au]
 |some f=>
  obtain⟨hi,hf,hfn⟩:=e2.lt
  have hl:=hd.fl
  have hdl:(d.files.drop (i+1)).length=d.files.length - (i+1):=List.length_drop ..
  have hlc:=ab5 d.files i (d.files.drop (i+1)) (by omega)
  simp only[Option.isSome_some]
  rw[bC,bn]
  have tl:=af9 d.files i hi
  rw[qN]at tl
  simp only[KL (show d.files.length<1000000 by omega),aj,aoJ (show i<1000000 by omega),qN,tl,aaq d.files i hi,hf]
  have hf':ah d.files (itn (i:Int))=f:=by rw[qN,aaq _ _ hi,hf]
  have c1:band (ile 0 (i:Int)) (ilt (i:Int) (len d.files))=true:=inb _ i hi
  have c2:band (band (band (ile 0 (i:Int)) (ile (i:Int) ((i+1:Nat):Int))) (ile ((i+1:Nat):Int) (len d.files))) (band (ile ((i+1:Nat):Int) (len d.files)) (ile (len d.files) (len d.files)))=true:=by
   simp only[bF,dm,len];omega
  have c3:ieq (i:Int) ((i+1:Nat):Int)=false:=by rw[bJ];omega
  have c4:band (ile 0 (i:Int)) (ile (i:Int) (len d.files))=true:=by simp only[bF,dm,len];omega
  have c5:band (ile 0 ((i+1:Nat):Int)) (ile ((i+1:Nat):Int) (len d.files))=true:=by simp only[bF,dm,len];omega
  have c6:ile (ax (nti i) (len (d.files.drop (i+1)))) (len d.files)=true:=by simp only[ax,nti,dm,len];omega
  have c7:band (band (ile 0 (nti (i+(d.files.drop (i+1)).length))) (ile (nti (i+(d.files.drop (i+1)).length)) (len d.files))) (ile (len d.files) (aG (len (eu d.files i (d.files.drop (i+1)))) 0))=true:=by
   simp only[bF,dm,len,aG,nti,hlc];omega
  simp only[afg d.files i hi,aeR,ahF,aI c1,aI c2,dN c3,aI c4,aI c5,aI c6,aI c7,afV hi,e2.del]
  have key:=Qb d hd.1.2.2.1 h.fu (some (ak.mk d.files d.room d.fuse true,(9:Int))) (fun x y=>af (dL (ak.mk (yB a d.files) d.room x y) b) fun y9 => cnd y9.snd (cnd (band (ile 0 y9.fst) (ilt y9.fst (len (yB a d.files)))) (some (ak.mk (aY (yB a d.files) (itn y9.fst) (ay.mk b f.data f.sure)) d.room x y,(0:Int))) none) (af (bf (yB a d.files) y9.fst [ay.mk b f.data f.sure]) fun y10 => some (ak.mk y10 d.room x y,(0:Int))))
  rw[key]
  by_cases hs:(dF d).2=true
  ·rw[if_pos hs,if_pos hs]
   have hdl2:=Zn a d.files
   refine ao6 (d:=ak.mk (yB a d.files) d.room (dF d).1.fuse (dF d).1.down) (x:=⟨b,f.data,f.sure⟩) (adf hd.asc) (by simp only;omega) (fun l=>some (ak.mk l d.room (dF d).1.fuse (dF d).1.down,(0:Int))) _ ?_
   rw[au];unfold Eg afT;simp only;rw[bM,uU]
  ·rw[if_neg hs,au,if_neg hs,Qj hs]
def Ez (f:ay) (k:Int):ay:=⟨f.name,f.data.take (f.sure+jF (imax k 0) (len f.data - f.sure)).toNat,f.sure+jF (imax k 0) (len f.data - f.sure)⟩
def CY (keep:List Int) (i:Nat):Int:=if keep=[]then 0 else ah keep (i%keep.length)
def TG (d:ak) (keep:List Int) (fuse:Int):ak×Int:=
 if jo d/\ -1<=fuse then (⟨d.files.mapIdx fun i f=>Ez f (CY keep i),d.room,fuse,false⟩,0)else (d,1)
theorem aio {f:ay} (h1:0<=f.sure) (h2:f.sure<=len f.data) (k:Int):f.sure<=f.sure+jF (imax k 0) (len f.data - f.sure)/\f.sure+jF (imax k 0) (len f.data - f.sure)<=len f.data:=by
 unfold jF imax;split<;>split<;>omega
theorem amm {f:ay} {k:Int} (h1:0<=f.sure) (h2:f.sure<=len f.data) (h3:f.data.length<900000):Aj f k=some (Ez f k):=by
 unfold Aj Ez
 have e1:wr .i64 (aG (len f.data) f.sure)=len f.data - f.sure:=by rw[aG,dI (by omega) (by simp only[len];omega)]
 have g:=aio h1 h2 k
 have e2:wr .i64 (ax f.sure (jF (imax k 0) (len f.data - f.sure)))=f.sure+jF (imax k 0) (len f.data - f.sure):=by rw[ax,dI (by omega) (by simp only[len]at g ⊢; omega)]
 rw[e1,e2,aI (zX (kF (by omega)) (kF (by omega))),Zg (by unfold aC;rw[List.length_take];omega),aj];rfl
theorem apI {d:ak} {keep:List Int} {fuse:Int} (h:OL d) (hk:keep.length<1000000):Eh d keep fuse=some (TG d keep fuse):=by
 refine Wq.eq ?_
 unfold Eh TG
 rw[MO h.nm,aj,jW]
 refine⟨fun hc=> ?_,fun hc=> ?_⟩
 ·simp only[bF,dh,dV,eX,bI,bP,dP,eP,dm,fB,bK,bJ,fC,fD,decide_eq_false_iff_not]at hc
  rw[au,if_neg]
  rintro⟨g1,g2⟩
  rcases hc with c | c
  ·exact c g1
  ·omega
 simp only[bF,dh,dV,eX,bI,bP,dP,eP,dm,fB,bK,bJ,fC,fD,decide_eq_true_iff]at hc
 obtain⟨hd,hf⟩:=hc
 have hl:=hd.fl
 rw[if_pos ⟨hd,hf⟩,KL (by omega),aj]
 refine Wq.bind (Q:=fun w:Unit×Int×Int×Bool×List ay=>w.2.1=d.room/\w.2.2.2.2=d.files.mapIdx fun i f=>Ez f (CY keep i))
  (pF (n:=d.files.length) (step:=fun v:Int×Unit×Int×Int×Bool×List ay=>qY (len d.files) keep v.fst v.snd.fst v.snd.snd.fst v.snd.snd.snd.fst v.snd.snd.snd.snd.fst v.snd.snd.snd.snd.snd) (by omega)
    (fun i x=>x.2.1=d.room/\x.2.2.2.2.length=d.files.length/\(∀(j:Nat) (g:j<x.2.2.2.2.length) (g2:j<d.files.length),x.2.2.2.2[j]=if j<i then Ez d.files[j] (CY keep j)else d.files[j])) _ ?_ ?_ _ 0 (Nat.zero_le _) ⟨rfl,rfl,fun j g g2=>by simp⟩) ?_
 ·rintro i ⟨u,r,fz,dn,l⟩ hi ⟨h1,h2,h3⟩
  simp only at h1 h2 h3
  simp only[qY]
  have hil:i<l.length:=by omega
  have hg:=h3 i hil hi
  rw[if_neg (by omega)]at hg
  have hok:=hd.2.1.1 _ (List.getElem_mem hi)
  have hus:=zW hi
  have hus2:=Il d.files (i+1)
  have hu:=hd.us
  rw[aI (by rw[jl];simpa using hi),aI (inb _ i hil),bQ _ i hil,hg,qN]
  have next:∀k:Int,k=CY keep i->(match (Sum.inl (wr .i64 (ax (i:Int) 1),u,r,fz,dn,aY l i (Ez d.files[i] k)):(Int×Unit×Int×Int×Bool×List ay) ⊕ (Unit×Int×Int×Bool×List ay))with
   |.inl (k,x')=>k=((i+1:Nat):Int)/\x'.2.1=d.room/\x'.2.2.2.2.length=d.files.length/\(∀(j:Nat) (g:j<x'.2.2.2.2.length) (g2:j<d.files.length),x'.2.2.2.2[j]=if j<i+1 then Ez d.files[j] (CY keep j)else d.files[j])
   |.inr w=>w.2.1=d.room/\w.2.2.2.2=d.files.mapIdx fun i f=>Ez f (CY keep i)):=by
   rintro _ rfl
   refine⟨fE (by omega),h1,by rw[rZ];exact h2,fun j g g2=> ?_⟩
   have gl:j<l.length:=by simp only[rZ]at g;exact g
   simp only[aY]
   rw[List.getElem_set]
   by_cases e:i=j
   ·subst e;rw[if_pos rfl,if_pos (by omega)]
   ·rw[if_neg e,h3 j gl g2]
    by_cases c:j<i
    ·rw[if_pos c,if_pos (by omega)]
    ·rw[if_neg c,if_neg (by omega)]
  rw[aip]
  by_cases hk0:0<len keep
  ·rw[if_pos hk0]
   have hkl:0<keep.length:=by simp only[len]at hk0;omega
   have em:F5 (i:Int) (len keep)=((i%keep.length:Nat):Int):=by unfold F5 len;rw[Int.tmod_eq_emod_of_nonneg (by omega)];rfl
   have hm:i%keep.length<keep.length:=Nat.mod_lt _ hkl
   rw[lM,kQ,if_neg (by omega),em,aI (inb _ _ hm),qN,amm hok.2.1 hok.2.2 (by omega),aj,aI (inb _ i hil),au]
   exact next _ (by unfold CY;rw[if_neg (by intro e;rw[e]at hkl;simp at hkl)])
  ·rw[if_neg hk0,amm hok.2.1 hok.2.2 (by omega),aj,aI (inb _ i hil),au]
   exact next _ (by unfold CY;rw[if_pos (List.eq_nil_of_length_eq_zero (by simp only[len]at hk0;omega))])
 ·rintro⟨u,r,fz,dn,l⟩ ⟨h1,h2,h3⟩
  simp only at h1 h2 h3
  simp only[qY]
  rw[dN (acV _),au]
  refine⟨h1,?_⟩
  refine List.ext_getElem (by rw[List.length_mapIdx];exact h2) fun j g1 g2=> ?_
  have g1':j<l.length:=g1
  rw[List.getElem_mapIdx,h3 j g1 (by omega),if_pos (by omega)]
 ·rintro⟨u,r,fz,dn,l⟩ ⟨h1,h2⟩
  rw[au]
  simp only at h1 h2
  simp only[h1,h2]
def aon {α:Type}:List Int->Int->(Int->Option α)->Option α
 |[],n,k=>k n
 |b::l,n,k=>af (bY (wr .u32 (oH .u32 (wr .u32 (gJ .u32 n (wr .u32 b))) 15))) fun y0=>af (bY (wr .u32 (oH .u32 (wr .u32 (gJ .u32 y0 (dG .u32 (wr .u32 (gJ .u32 n (wr .u32 b))) 4))) 15))) fun y1=>
  aon l (wr .u32 (gJ .u32 y1 (dG .u32 (wr .u32 (gJ .u32 y0 (dG .u32 (wr .u32 (gJ .u32 n (wr .u32 b))) 4))) 4))) k
theorem aew {α:Type} (k:Int->Option α):∀(l:List Int) (n:B32),fM l->aon l (toI n) k=k (toI (abd n l))
 |[],n,_=>rfl
 |b::l,n,hb=>by
  have e15:(15:Int)=toI 15#32:=rfl
  obtain⟨b1,b2⟩:=hb b (List.mem_cons_self ..)
  have e4:∀x:B32,dG .u32 (toI x) 4=toI (x >>> 4):=fun x=>alj x 4 (by decide)
  have ih:=aew k l (hN 8 (n ^^^ ofB b)) fun x hx=>hb x (List.mem_cons_of_mem _ hx)
  rw[aon,aeM b1 b2,QL,e15,af0,MV,aj,e4,QL,aol,af0,MV,aj,e4,QL,aol,<-aeg]
  exact ih
def sh8 (n k:Int):Int:=wr .u8 (dG .i64 n k)
def afB (s:dM):List Int:=[sh8 s.gen 56,sh8 s.gen 48,sh8 s.gen 40,sh8 s.gen 32,sh8 s.gen 24,sh8 s.gen 16,sh8 s.gen 8,sh8 s.gen 0,sh8 s.lsn 56,sh8 s.lsn 48,sh8 s.lsn 40,sh8 s.lsn 32,sh8 s.lsn 24,sh8 s.lsn 16,sh8 s.lsn 8,sh8 s.lsn 0]
def apw (s:dM) (n:Int):aeK:=⟨sh8 s.gen 56,sh8 s.gen 48,sh8 s.gen 40,sh8 s.gen 32,sh8 s.gen 24,sh8 s.gen 16,sh8 s.gen 8,sh8 s.gen 0,sh8 s.lsn 56,sh8 s.lsn 48,sh8 s.lsn 40,sh8 s.lsn 32,sh8 s.lsn 24,sh8 s.lsn 16,sh8 s.lsn 8,sh8 s.lsn 0,
 wr .u8 (dG .u32 (wr .u32 (gJ .u32 4294967295 n)) 0),wr .u8 (dG .u32 (wr .u32 (gJ .u32 4294967295 n)) 8),wr .u8 (dG .u32 (wr .u32 (gJ .u32 4294967295 n)) 16),wr .u8 (dG .u32 (wr .u32 (gJ .u32 4294967295 n)) 24)⟩
theorem apk (s:dM):nY s=aon (afB s) 4294967295 fun n=>some (apw s n):=rfl
def oU (s:dM):List Int:=tq s.gen 8++tq s.lsn 8
def nR (s:dM):List Int:=oU s++qV (xA (oU s))
def toL (a:aeK):List Int:=[a.a0,a.a1,a.a2,a.a3,a.a4,a.a5,a.a6,a.a7,a.a8,a.a9,a.a10,a.a11,a.a12,a.a13,a.a14,a.a15,a.a16,a.a17,a.a18,a.a19]
def yY (s:dM):Prop:=1<=s.gen/\s.gen<=1000000000/\0<=s.lsn/\s.lsn<=1000000000
instance (s:dM):Decidable (yY s):=by unfold yY;infer_instance
theorem Lj (s:dM):(oU s).length=16:=by simp [oU,rW]
theorem Gv (s:dM):(nR s).length=20:=by simp [nR,Lj,qV]
theorem Zw (s:dM):fM (oU s):=(Ld _ _).app (Ld _ _)
theorem agS (s:dM):fM (nR s):=(Zw s).app (aaB _)
theorem Oz (n:Int) {i:Nat} (hi:i<8):sh8 n (wr .i64 (jq 8 (i:Int)))=n / 256^i%256:=(byte_of hi).2
theorem aqP (n:Int):sh8 n 0=n / 256^0%256:=Oz n (i:=0) (by decide)
theorem aqt (n:Int):sh8 n 8=n / 256^1%256:=Oz n (i:=1) (by decide)
theorem aqn (n:Int):sh8 n 16=n / 256^2%256:=Oz n (i:=2) (by decide)
theorem aqC (n:Int):sh8 n 24=n / 256^3%256:=Oz n (i:=3) (by decide)
theorem ap3 (n:Int):sh8 n 32=n / 256^4%256:=Oz n (i:=4) (by decide)
theorem aqb (n:Int):sh8 n 40=n / 256^5%256:=Oz n (i:=5) (by decide)
theorem aql (n:Int):sh8 n 48=n / 256^6%256:=Oz n (i:=6) (by decide)
theorem aqp (n:Int):sh8 n 56=n / 256^7%256:=Oz n (i:=7) (by decide)
theorem afm (s:dM):afB s=oU s:=by
 unfold afB oU
 simp only[aqP,aqt,aqn,aqC,ap3,aqb,aql,aqp,tq,List.cons_append,List.nil_append]
theorem UL (s:dM):Wq (nY s) fun a=>toL a=nR s:=by
 rw[apk,afm,show(4294967295:Int)=toI ones from rfl,aew _ _ _ (Zw s),au]
 have e:wr .u32 (gJ .u32 (toI ones) (toI (abd ones (oU s))))=xA (oU s):=QL _ _
 have t0:wr .u8 (dG .u32 (xA (oU s)) 0)=xA (oU s) / 256^0%256:=(U8 (n:=xA (oU s)) (i:=0) (by decide)).2
 have t1:wr .u8 (dG .u32 (xA (oU s)) 8)=xA (oU s) / 256^1%256:=(U8 (n:=xA (oU s)) (i:=1) (by decide)).2
 have t2:wr .u8 (dG .u32 (xA (oU s)) 16)=xA (oU s) / 256^2%256:=(U8 (n:=xA (oU s)) (i:=2) (by decide)).2
 have t3:wr .u8 (dG .u32 (xA (oU s)) 24)=xA (oU s) / 256^3%256:=(U8 (n:=xA (oU s)) (i:=3) (by decide)).2
 have e':wr .u32 (gJ .u32 4294967295 (toI (abd ones (oU s))))=xA (oU s):=e
 have key:toL (apw s (toI (abd ones (oU s))))=afB s++[xA (oU s) / 256^0%256,xA (oU s) / 256^1%256,xA (oU s) / 256^2%256,xA (oU s) / 256^3%256]:=by
  unfold toL apw afB
  simp only[e',t0,t1,t2,t3,List.cons_append,List.nil_append]
 rw[key,afm]
 unfold nR qV
 simp
theorem aqx {b:List Int} {i:Nat} (h:i+8<=b.length):(b.drop i).take 8=[ah b i,ah b (i+1),ah b (i+2),ah b (i+3),ah b (i+4),ah b (i+5),ah b (i+6),ah b (i+7)]:=by
 refine List.ext_getElem (by simp;omega) fun j h1 h2=> ?_
 simp only[List.length_cons,List.length_nil]at h2
 rw[List.getElem_take,List.getElem_drop]
 match j,h2 with
 |0,_=>simp [ah,show i<b.length by omega]
 |1,_=>simp [ah,show i+1<b.length by omega]
 |2,_=>simp [ah,show i+2<b.length by omega]
 |3,_=>simp [ah,show i+3<b.length by omega]
 |4,_=>simp [ah,show i+4<b.length by omega]
 |5,_=>simp [ah,show i+5<b.length by omega]
 |6,_=>simp [ah,show i+6<b.length by omega]
 |7,_=>simp [ah,show i+7<b.length by omega]
 |j+8,h=>omega
def or8 (a c:Int):Int:=wr .i64 (ior .i64 (wr .i64 (pU .i64 a 8)) (wr .i64 c))
theorem SB {n c:Int} (h:0<=c/\c<=255):or8 (wr .i64 n) c=wr .i64 (n*256+c):=by
 unfold or8;rw[adP _ _ h.1 h.2,ak8]
theorem ap6 {b:List Int} (hb:fM b) {i:Nat} (h:i+8<=b.length):
 or8 (or8 (or8 (or8 (or8 (or8 (or8 (wr .i64 (ior .i64 0 (wr .i64 (ah b i)))) (ah b (i+1))) (ah b (i+2))) (ah b (i+3))) (ah b (i+4))) (ah b (i+5))) (ah b (i+6))) (ah b (i+7))=at8 b i:=by
 have rng:∀j,j<b.length->0<=ah b j/\ah b j<=255:=fun j hj=>by
  have:=hb.get hj
  rw[aaq b j hj];exact this
 have e0:wr .i64 (ior .i64 0 (wr .i64 (ah b i)))=wr .i64 (0*256+ah b i):=adP 0 _ (rng i (by omega)).1 (rng i (by omega)).2
 rw[e0,SB (rng _ (by omega)),SB (rng _ (by omega)),SB (rng _ (by omega)),SB (rng _ (by omega)),SB (rng _ (by omega)),SB (rng _ (by omega)),SB (rng _ (by omega))]
 unfold at8
 rw[aqx h]
 rfl
def atS (b:List Int):dM:=⟨at8 b 0,at8 b 8⟩
def slD (b:List Int):dM×Int:=if b.length≠20 then (⟨0,0⟩,2)else if b.drop 16≠qV (xA (b.take 16))then (⟨0,0⟩,10)else if yY (atS b)then (atS b,0)else (⟨0,0⟩,2)
theorem alW {b:List Int} (hb:fM b) (h:b.length=20):oU (atS b)=b.take 16:=by
 unfold oU atS at8
 simp only
 rw[ahi ((hb.drop 0).take 8) (by simp;omega),ahi ((hb.drop 8).take 8) (by simp;omega)]
 rw[show(16:Nat)=8+8 from rfl,List.take_add,List.drop_zero]
theorem ak4 {b:List Int} (hb:fM b) (h:b.length=20):nR (atS b)=b↔b.drop 16=qV (xA (b.take 16)):=by
 unfold nR
 rw[alW hb h]
 constructor
 ·intro e
  have:=congrArg (List.drop 16) e
  rw[List.drop_append_of_le_length (by rw[List.length_take];omega),List.drop_eq_nil_of_le (by rw[List.length_take];omega),List.nil_append]at this
  exact this.symm
 ·intro e;rw[<-e,List.take_append_drop]
theorem Uw (s:dM):uP s=some (decide (yY s)):=by
 refine Wq.dec ?_
 unfold uP yY
 rw[au]
 simp only[bF,dh,dV,eX,bI,bP,dP,eP,dm,fB,bK,bJ,fC,fD]
 omega
theorem akl {b:List Int} (h:b.length=20):b=[ah b 0,ah b 1,ah b 2,ah b 3,ah b 4,ah b 5,ah b 6,ah b 7,ah b 8,ah b 9,ah b 10,ah b 11,ah b 12,ah b 13,ah b 14,ah b 15,ah b 16,ah b 17,ah b 18,ah b 19]:=by
 match b,h with
 |[_,_,_,_,_,_,_,_,_,_,_,_,_,_,_,_,_,_,_,_],_=>rfl
theorem Rl {b:List Int} (hb:fM b):lS b=some (slD b):=by
 refine Wq.eq ?_
 unfold lS slD
 rw[lM,kQ]
 by_cases h:b.length=20
 case neg=>rw[if_neg (by simp only[len];omega),au,if_pos h]
 rw[if_pos (by simp only[len];omega),if_neg (fun g=>g h)]
 have hg:=ap6 hb (i:=0) (by omega)
 have hl:=ap6 hb (i:=8) (by omega)
 unfold or8 at hg hl
 simp only[Nat.zero_add,Nat.reduceAdd]at hg hl
 have lt:∀k:Int,k<20->ilt k (len b)=true:=fun k hk=>CX (by simp only[len];omega)
 simp only[hg,hl]
 rw[aI (lt 0 (by decide)),aI (lt 8 (by decide)),aI (lt 1 (by decide)),aI (lt 9 (by decide)),aI (lt 2 (by decide)),aI (lt 10 (by decide)),aI (lt 3 (by decide)),aI (lt 11 (by decide)),aI (lt 4 (by decide)),aI (lt 12 (by decide)),aI (lt 5 (by decide)),aI (lt 13 (by decide)),aI (lt 6 (by decide)),aI (lt 14 (by decide)),aI (lt 7 (by decide)),aI (lt 15 (by decide))]
 refine(UL (atS b)).bind fun a ha=> ?_
 rw[aI (kF (by simp only[len];omega)),jW]
 have hcmp:toL a=b↔b.drop 16=qV (xA (b.take 16)):=by rw[ha];exact ak4 hb h
 have hcmp2:toL a=b↔(a.a0=ah b 0/\a.a1=ah b 1/\a.a2=ah b 2/\a.a3=ah b 3/\a.a4=ah b 4/\a.a5=ah b 5/\a.a6=ah b 6/\a.a7=ah b 7/\a.a8=ah b 8/\a.a9=ah b 9/\a.a10=ah b 10/\a.a11=ah b 11/\a.a12=ah b 12/\a.a13=ah b 13/\a.a14=ah b 14/\a.a15=ah b 15/\a.a16=ah b 16/\a.a17=ah b 17/\a.a18=ah b 18/\a.a19=ah b 19):=by
  have:=akl h
  generalize ah b 0=b0,ah b 1=b1,ah b 2=b2,ah b 3=b3,ah b 4=b4,ah b 5=b5,ah b 6=b6,ah b 7=b7,ah b 8=b8,ah b 9=b9,ah b 10=b10,ah b 11=b11,ah b 12=b12,ah b 13=b13,ah b 14=b14,ah b 15=b15,ah b 16=b16,ah b 17=b17,ah b 18=b18,ah b 19=b19 at this ⊢
  subst this
  simp only[toL,List.cons.injEq,and_true]
 refine⟨fun hc=>(au _).2 ?_,fun hc=> ?_⟩
 ·rw[if_pos]
  rw[bI]at hc
  intro e
  have e2:=hcmp2.1 (hcmp.2 e)
  rw[<-Bool.not_eq_true]at hc
  apply hc
  simp only[bF,bK,and_true]
  exact e2
 ·rw[bP]at hc
  simp only[bF,bK,and_true]at hc
  have e:=hcmp.1 (hcmp2.2 hc)
  rw[if_neg (fun g=>g e),Uw,aj,lM,KX]
  have ea:dM.mk (at8 b 0) (at8 b 8)=atS b:=rfl
  rw[ea]
  by_cases hp:yY (atS b)
  ·rw[if_pos hp,if_pos hp,au]
  ·rw[if_neg hp,if_neg hp,au]
def n0:Nm:=[115,108,111,116,46,48]
def n1:Nm:=[115,108,111,116,46,49]
def nmS (g:Int):Nm:=if g%2=0 then n0 else n1
theorem n01:n0<n1:=by decide
theorem YO:jY n0:=by decide
theorem aaC:jY n1:=by decide
theorem acw (g:Int):jY (nmS g):=by unfold nmS;split;exact YO;exact aaC
theorem jY.len {n:Nm} (h:jY n):n.length<999999:=by have:=h.2.2;omega
theorem Ob {g:Int} (h:0<=g):jO g=some (nmS g):=by
 unfold jO nmS F5
 rw[kQ,Int.tmod_eq_emod_of_nonneg h];split<;>rfl
def ctF (l:List ay) (n:Nm):List Int:=match bW l n with | some f=>f.data | none=>[]
def jP (d:ak):Prop:=∀f∈d.files,fM f.data
theorem TA {d:ak} (h:jP d) (n:Nm):fM (ctF d.files n):=by
 unfold ctF
 cases hg:bW d.files n with
 |none=>intro x hx;cases hx
 |some f=>exact h f (Kv hg).1
def oN (best:dM) (par:Int) (b:List Int):dM:=if (slD b).2=0/\(slD b).1.gen%2=par/\best.gen<(slD b).1.gen then (slD b).1 else best
def sF (c0 c1:List Int):dM:=oN (oN ⟨0,0⟩ 0 c0) 1 c1
def jh (l:List ay):dM:=sF (ctF l n0) (ctF l n1)
def eF (d:ak):dM×Int:=if ¬jo d then (⟨0,0⟩,1)else if d.down=true then (⟨0,0⟩,9)else if (jh d.files).gen=0 then (⟨0,0⟩,7)else (jh d.files,0)
theorem aiN {b:List Int} (h:(slD b).2=0):yY (slD b).1/\slD b=(atS b,0)/\b.length=20/\b.drop 16=qV (xA (b.take 16)):=by
 unfold slD at h ⊢
 by_cases h1:b.length≠20
 ·simp [h1]at h
 rw[if_neg h1]at h ⊢
 by_cases h2:b.drop 16≠qV (xA (b.take 16))
 ·simp [h2]at h
 rw[if_neg h2]at h ⊢
 by_cases h3:yY (atS b)
 ·rw[if_pos h3];exact⟨h3,rfl,Classical.not_not.1 h1,Classical.not_not.1 h2⟩
 ·simp [h3]at h
theorem abp (s:dM) (p:Int) (b:List Int):oN s p b=s\/yY (oN s p b):=by
 unfold oN;split
 ·rename_i h;exact .inr (aiN h.1).1
 ·exact .inl rfl
theorem Zc (a b:List Int):sF a b=⟨0,0⟩\/yY (sF a b):=by
 unfold sF
 rcases abp (oN ⟨0,0⟩ 0 a) 1 b with h | h
 ·rw[h];exact abp _ _ _
 ·exact .inr h
theorem J7 (a b:List Int):0<=(sF a b).gen/\(sF a b).gen<=1000000000:=by
 rcases Zc a b with h | h
 ·rw[h];simp
 ·exact⟨by have:=h.1;omega,h.2.1⟩
theorem ag1 {a b:List Int} (h:(sF a b).gen=0):sF a b=⟨0,0⟩:=by
 rcases Zc a b with g | g
 ·exact g
 ·have:=g.1;omega
theorem aec {d:ak} {n:Nm} (hd:jo d) (hw:d.down=false) (hn:jY n):(Oo d n).1=ctF d.files n:=by
 unfold Oo ctF
 rw[if_neg (fun g=>g (lH.2 ⟨hd,hw,DW hn⟩))]
 cases bW d.files n<;>rfl
theorem O1 {d:ak} (h:OL d) (hb:jP d):sH d=some (eF d):=by
 refine Wq.eq ?_
 unfold sH eF
 rw[MO h.nm,aj,lM,KX]
 by_cases hd:jo d
 case neg=>rw[if_neg hd,au,if_pos hd]
 rw[if_pos hd,if_neg (fun g=>g hd)]
 cases hw:d.down
 case true=>rw[bG,au];simp
 rw[bn,if_neg (by simp),Ob (by decide),aj,show nmS 0=n0 from rfl,Y9 h YO.len,aj,aec hd hw YO,Rl (TA hb _),aj]
 simp only[Ob (show(0:Int)<=1 by decide),aj,show nmS 1=n1 from rfl,Y9 h aaC.len,aec hd hw aaC,Rl (TA hb _)]
 have pos:∀b:List Int,(slD b).2=0->F5 (slD b).1.gen 2=(slD b).1.gen%2:=fun b hb=>by
  have:=(aiN hb).1.1
  unfold F5;exact Int.tmod_eq_emod_of_nonneg (by omega)
 have iff2:∀(b:List Int) (s:dM) (p:Int),(band (band (ieq (slD b).2 0) (ieq (F5 (slD b).1.gen 2) p)) (ilt s.gen (slD b).1.gen)=true)↔((slD b).2=0/\(slD b).1.gen%2=p/\s.gen<(slD b).1.gen):=fun b s p=>by
  simp only[bF,bK,dP]
  constructor
  ·rintro⟨⟨h1,h2⟩,h3⟩;exact⟨h1,by rw[<-pos b h1];exact h2,h3⟩
  ·rintro⟨h1,h2,h3⟩;exact⟨⟨h1,by rw[pos b h1];exact h2⟩,h3⟩
 have i0:=iff2 (ctF d.files n0) ⟨0,0⟩ 0
 rw[jW]
 refine⟨fun hc=> ?_,fun hc=> ?_⟩
 ·have e0:oN ⟨0,0⟩ 0 (ctF d.files n0)=(slD (ctF d.files n0)).1:=by unfold oN;rw[if_pos (i0.1 hc)]
  rw[jW]
  refine⟨fun hc2=> ?_,fun hc2=> ?_⟩
  ·have e1:jh d.files=(slD (ctF d.files n1)).1:=by unfold jh sF;rw[e0];unfold oN;rw[if_pos ((iff2 _ _ 1).1 hc2)]
   rw[<-e1,kQ]
   split<;>rw[au]
  ·have e1:jh d.files=(slD (ctF d.files n0)).1:=by unfold jh sF;rw[e0];unfold oN;rw[if_neg fun g=>by rw[(iff2 _ _ 1).2 g]at hc2;cases hc2]
   rw[<-e1,kQ]
   split<;>rw[au]
 ·have e0:oN ⟨0,0⟩ 0 (ctF d.files n0)=⟨0,0⟩:=by unfold oN;rw[if_neg fun g=>by rw[i0.2 g]at hc;cases hc]
  rw[jW]
  refine⟨fun hc2=> ?_,fun hc2=> ?_⟩
  ·have e1:jh d.files=(slD (ctF d.files n1)).1:=by unfold jh sF;rw[e0];unfold oN;rw[if_pos ((iff2 _ ⟨0,0⟩ 1).1 hc2)]
   rw[<-e1,kQ]
   split<;>rw[au]
  ·have e1:jh d.files=⟨0,0⟩:=by unfold jh sF;rw[e0];unfold oN;rw[if_neg fun g=>by rw[(iff2 _ ⟨0,0⟩ 1).2 g]at hc2;cases hc2]
   rw[e1,au,if_pos rfl]
theorem mg {l:List ay} (h:JH l) (hl:l.length<=100000) (n:Nm):∃i o,mP n l i o:=by
 obtain⟨_,_,i,o,_,h2,_⟩:=Pm (d:=⟨l,0,0,false⟩) (n:=n) h hl
 exact⟨i,o,h2⟩
theorem afr (b:dM) (p:Int):oN b p []=b:=by unfold oN slD;simp
theorem get_put (f:ay) (m:Nm):∀l:List ay,bW (qB f l) m=if m=f.name then some f else bW l m
 |[]=>by
  rw[qB,oL]
  by_cases h:m=f.name
  ·rw[if_pos h.symm,if_pos h]
  ·rw[if_neg (fun e=>h e.symm),if_neg h]
 |g::r=>by
  rw[qB]
  by_cases hlt:g.name<f.name
  ·rw[if_pos hlt,oL,oL,get_put f m r]
   by_cases h:m=f.name
   ·rw[if_neg (fun e=>Yc f.name (by rw[e,h]at hlt;exact hlt)),if_pos h,if_pos h]
   ·rw[if_neg h,if_neg h]
  ·rw[if_neg hlt,oL]
   by_cases h:m=f.name
   ·rw[if_pos h.symm,if_pos h]
   ·rw[if_neg (fun e=>h e.symm),if_neg h]
    exact gd m h (g::r)
where
 gd (m:Nm) (h:m≠f.name):∀l:List ay,bW (yB f.name l) m=bW l m
 |[]=>rfl
 |g::r=>by
  rw[KR]
  by_cases e:g.name=f.name
  ·rw[if_pos e,gd m h r,oL,if_neg (fun k=>h (by rw[<-k,e]))]
  ·rw[if_neg e,oL,oL,gd m h r]
theorem Ya (n m:Nm):∀l:List ay,bW (yB n l) m=if m=n then none else bW l m
 |[]=>by simp [yB,bW]
 |g::r=>by
  rw[KR]
  by_cases e:g.name=n
  ·rw[if_pos e,Ya n m r]
   by_cases h:m=n
   ·rw[if_pos h,if_pos h]
   ·rw[if_neg h,if_neg h,oL,if_neg (fun k=>h (by rw[<-k,e]))]
  ·rw[if_neg e,oL,Ya n m r]
   by_cases h:m=n
   ·rw[if_pos h,if_pos h,if_neg (fun k=>e (by rw[k,h]))]
   ·rw[if_neg h,if_neg h,oL]
theorem V4 (f:ay) (l:List ay):zu (f::l)↔okF f/\zu l/\∀g∈l,f.name<g.name:=by
 have:=uZ [f] l
 rw[List.singleton_append,abC]at this
 rw[this]
 simp
def OD (o:Option ay):Nat:=match o with | some f=>f.data.length | none=>0
theorem mP.used {n:Nm} {l:List ay} {i:Nat} {o:Option ay} (h:mP n l i o) (f:ay) (e:f.name=n):fP (qB f l)+OD o=fP l+f.data.length:=by
 subst e
 cases h with
 |no a b ha hb=>rw[xu ha,JC hb,rX,rX,DU];simp only[OD];omega
 |yes a g b e ha hb=>rw[xu ha,Yd e hb,rX,rX,DU,DU];simp only[OD];omega
theorem mP.long {n:Nm} {l:List ay} {i:Nat} {o:Option ay} (h:mP n l i o) (f:ay) (e:f.name=n):(qB f l).length=l.length+if o=none then 1 else 0:=by
 subst e
 cases h with
 |no a b ha hb=>rw[xu ha,JC hb];simp;omega
 |yes a g b e ha hb=>rw[xu ha,Yd e hb];simp
theorem mP.good {n:Nm} {l:List ay} {i:Nat} {o:Option ay} (h:mP n l i o) {f:ay} (e:f.name=n) (hf:okF f) (hl:zu l):zu (qB f l):=by
 subst e
 cases h with
 |no a b ha hb=>
  rw[xu ha,JC hb]
  obtain⟨h1,h2,h3⟩:=(uZ _ _).1 hl
  refine(uZ _ _).2 ⟨h1,(V4 _ _).2 ⟨hf,h2,hb⟩,fun g hg k hk=> ?_⟩
  rcases List.mem_cons.1 hk with rfl | hk
  ·exact ha g hg
  ·exact h3 g hg k hk
 |yes a g b e ha hb=>
  rw[xu ha,Yd e hb]
  obtain⟨h1,h2,h3⟩:=(uZ _ _).1 hl
  refine(uZ _ _).2 ⟨h1,(V4 _ _).2 ⟨hf,((V4 _ _).1 h2).2.1,hb⟩,fun g hg k hk=> ?_⟩
  rcases List.mem_cons.1 hk with rfl | hk
  ·exact ha g hg
  ·exact h3 g hg k (List.mem_cons_of_mem _ hk)
theorem mP.usedD {n:Nm} {l:List ay} {i:Nat} {o:Option ay} (h:mP n l i o):fP (yB n l)+OD o=fP l:=by
 cases h with
 |no a b ha hb=>rw[DJ (fun f hf=>(List.mem_append.1 hf).elim (fun g=>O0 (ha f g)) (fun g=>(O0 (hb f g)).symm))];rfl
 |yes a g b e ha hb=>
  rw[WC,KR,if_pos e,DJ fun g hg=>O0 (ha g hg),DJ fun g hg=>(O0 (hb g hg)).symm,rX,rX,DU]
  simp only[OD];omega
theorem amD {n:Nm} {l:List ay} (h:zu l):zu (yB n l):=⟨fun f hf=>h.1 f (List.mem_filter.1 hf).1,adf h.2⟩
structure Keep (d e:ak):Prop where
 right:jo e
 fz:e.fuse<=d.fuse
 room:e.room=d.room
theorem Keep.refl {d:ak} (h:jo d):Keep d d:=⟨h,Int.le_refl _,rfl⟩
theorem Keep.trans {a b c:ak} (h:Keep a b) (k:Keep b c):Keep a c:=⟨k.right,Int.le_trans k.fz h.fz,k.room.trans h.room⟩
theorem jo.bnd {d:ak} (h:jo d) (hf:inI d.fuse):OL d:=
 ⟨fun f hf=>by have:=(h.2.1.1 f hf).1.2.2;omega,hf⟩
theorem Keep.bnd {d e:ak} (h:Keep d e) (hf:inI d.fuse):OL e:=by
 refine h.right.bnd ?_
 have:=h.fz
 have:=h.right.1.2.2.1
 unfold inI at*
 omega
theorem Sm (d:ak):(d.fuse=0/\(dF d).1.fuse=0/\(dF d).1.down=true/\(dF d).2=false)\/((dF d).1.fuse<=d.fuse/\(-1<=d.fuse-> -1<=(dF d).1.fuse)/\(dF d).1.down=d.down/\(dF d).2=true):=by
 unfold dF
 by_cases h0:d.fuse=0
 ·simp [h0]
 by_cases h1:d.fuse= -1
 ·simp [h1]
 ·rw[if_neg h0,if_neg h1];right;simp only;exact⟨by omega,fun _=>by omega,trivial,trivial⟩
theorem GX {d:ak} (h:jo d):Keep d (dF d).1:=by
 have hf:=Sm d
 have h1:=h.1
 refine⟨⟨⟨?_,?_,?_,?_⟩,?_,?_⟩,?_,uU d⟩<;>(try rw[uU])<;>(try rw[bM])
 ·omega
 ·omega
 ·rcases hf with hf | hf
  ·omega
  ·exact hf.2.1 h1.2.2.1
 ·omega
 ·exact h.2.1
 ·exact h.2.2
 ·rcases hf with hf | hf<;>omega
theorem Qn {d:ak} {f:ay} (h:jo d) (hf:okF f) (hu:(fP d.files:Int)+f.data.length<=d.room+OD (bW d.files f.name)) (hl:bW d.files f.name≠none\/d.files.length<64):Keep d (Eg d f):=by
 obtain⟨i,o,hs⟩:=mg h.asc (by have:=h.fl;omega) f.name
 have g1:=hs.used f rfl
 have g2:=hs.long f rfl
 rw[hs.get]at hu hl
 have h1:=h.1
 refine⟨⟨⟨h1.1,h1.2.1,h1.2.2.1,?_⟩,hs.good rfl hf h.2.1,?_⟩,Int.le_refl _,rfl⟩
 ·show(qB f d.files).length<=64
  rw[g2]
  split
  ·rename_i e;rcases hl with c | c
   ·exact absurd e c
   ·omega
  ·omega
 ·show(fP (qB f d.files):Int)<=d.room
  omega
theorem afC {d:ak} {n:Nm} (h:jo d):Keep d (afT d n):=by
 obtain⟨i,o,hs⟩:=mg h.asc (by have:=h.fl;omega) n
 have g1:=hs.usedD
 have h1:=h.1
 have h2:=h.2.2
 have:=Zn n d.files
 exact⟨⟨⟨h1.1,h1.2.1,h1.2.2.1,Nat.le_trans this h1.2.2.2⟩,amD h.2.1,by show(fP (yB n d.files):Int)<=d.room;omega⟩,Int.le_refl _,rfl⟩
theorem YG {d:ak} {n:Nm} {f:ay} (h:jo d) (hg:bW d.files n=some f):okF f/\f.name=n:=⟨h.2.1.1 f (Kv hg).1,(Kv hg).2⟩
theorem KY (p:ak×Bool):(aj9 p).1=p.1:=rfl
theorem Ey {d:ak} {n:Nm} {b:List Int} (h:jo d):Keep d (fK d n b).1:=by
 unfold fK
 by_cases h0:jB d [n]=0
 case neg=>rw[if_pos h0];exact Keep.refl h
 rw[if_neg (fun g=>g h0)]
 have hn:=(lH.1 h0).2.2 n (List.mem_singleton.2 rfl)
 by_cases hc:d.room<(fP d.files:Int)+(b.length:Int)\/(bW d.files n=none/\64<=d.files.length)
 ·rw[if_pos hc];exact Keep.refl h
 rw[if_neg hc,KY]
 have hw:Keep d (Eg d ⟨n,((bW d.files n).getD ⟨n,[],0⟩).data++b,((bW d.files n).getD ⟨n,[],0⟩).sure⟩):=by
  have hc1:¬d.room<(fP d.files:Int)+(b.length:Int):=fun g=>hc (.inl g)
  refine Qn h ?_ ?_ ?_
  ·cases hg:bW d.files n with
   |none=>exact⟨hn,Int.le_refl _,by simp only[len,Option.getD_none];omega⟩
   |some f=>
    have hf:=(YG h hg).1
    exact⟨hn,hf.2.1,by have:=hf.2.2;simp only[Option.getD_some,len,List.length_append]at this ⊢; omega⟩
  ·cases hg:bW d.files n with
   |none=>simp only[OD,Option.getD_none,List.nil_append];omega
   |some f=>simp only[OD,Option.getD_some,List.length_append];omega
  ·cases hg:bW d.files n with
   |none=>right;have:¬64<=d.files.length:=fun g=>hc (.inr ⟨hg,g⟩);omega
   |some f=>left;intro e;cases e
 exact hw.trans (GX hw.right)
theorem Qg {d:ak} {n:Nm} (h:jo d):Keep d (qU d n).1:=by
 unfold qU
 by_cases h0:jB d [n]=0
 case neg=>rw[if_pos h0];exact Keep.refl h
 rw[if_neg (fun g=>g h0)]
 have hn:=(lH.1 h0).2.2 n (List.mem_singleton.2 rfl)
 have hk:=GX h
 cases hg:bW d.files n with
 |none=>exact Keep.refl h
 |some f=>
  simp only
  split
  ·refine hk.trans (Qn hk.right ⟨hn,by simp only[len];omega,Int.le_refl _⟩ ?_ ?_)
   ·simp only;rw[bM,uU,hg];simp only[OD];have:=h.2.2;omega
   ·left;simp only;rw[bM,hg];intro e;cases e
  ·exact hk
theorem I4 {d:ak} {n:Nm} (h:jo d):Keep d (kS d n).1:=by
 unfold kS
 by_cases h0:jB d [n]=0
 case neg=>rw[if_pos h0];exact Keep.refl h
 rw[if_neg (fun g=>g h0)]
 have hk:=GX h
 cases hg:bW d.files n with
 |none=>exact Keep.refl h
 |some f=>
  simp only
  split
  ·exact hk.trans (afC hk.right)
  ·exact hk
theorem Z7 {d:ak} {n:Nm} {k:Int} (h:jo d):Keep d (Dy d n k).1:=by
 unfold Dy
 by_cases h0:jB d [n]=0
 case neg=>rw[if_pos h0];exact Keep.refl h
 rw[if_neg (fun g=>g h0)]
 have hn:=(lH.1 h0).2.2 n (List.mem_singleton.2 rfl)
 have hk:=GX h
 cases hg:bW d.files n with
 |none=>exact Keep.refl h
 |some f=>
  simp only
  have hf:=(YG h hg).1
  by_cases hc:k<0\/len f.data<k
  ·rw[if_pos hc];exact Keep.refl h
  rw[if_neg hc]
  have h1:¬k<0:=fun g=>hc (.inl g)
  have h2:¬len f.data<k:=fun g=>hc (.inr g)
  simp only[len]at h2
  have hl:(f.data.take k.toNat).length=k.toNat:=by rw[List.length_take];omega
  split
  ·refine hk.trans (Qn hk.right ⟨hn,?_,?_⟩ ?_ ?_)
   ·simp only;have:=hf.2.1;split<;>omega
   ·simp only[len,hl];split<;>omega
   ·simp only;rw[bM,uU,hg,hl];simp only[OD];have:=h.2.2;omega
   ·left;simp only;rw[bM,hg];intro e;cases e
  ·exact hk
theorem Ph {d:ak} {a b:Nm} (h:jo d):Keep d (lg d a b).1:=by
 unfold lg
 by_cases h0:jB d [a,b]=0
 case neg=>rw[if_pos h0];exact Keep.refl h
 rw[if_neg (fun g=>g h0)]
 have hn:=(lH.1 h0).2.2 b (by simp)
 have hk:=GX h
 cases hg:bW d.files a with
 |none=>exact Keep.refl h
 |some f=>
  simp only
  have hf:=(YG h hg).1
  split
  ·have hk2:=hk.trans (afC (n:=a) hk.right)
   refine hk2.trans (Qn hk2.right ⟨hn,hf.2.1,hf.2.2⟩ ?_ ?_)
   ·obtain⟨i,o,hs⟩:=mg h.asc (by have:=h.fl;omega) a
    have hu:=hs.usedD
    rw[<-hs.get,hg]at hu
    have hd:=h.2.2
    simp only[afT]
    rw[bM,uU]
    simp only[OD]at hu ⊢
    omega
   ·right
    obtain⟨i,o,hs⟩:=mg h.asc (by have:=h.fl;omega) a
    have hi:=hs.get
    rw[hg]at hi
    subst hi
    have hd:=hs.del
    obtain⟨hil,-, -⟩:=hs.lt
    have hfl:=h.fl
    simp only[afT]
    rw[bM,<-hd,List.length_eraseIdx_of_lt hil]
    omega
  ·exact hk
theorem aid {f g:ay}:∀ {l:List ay},g∈qB f l->g=f\/g∈l
 |[],h=> .inl (List.mem_singleton.1 h)
 |k::r,h=>by
  rw[qB]at h
  split at h
  ·rcases List.mem_cons.1 h with rfl | h
   ·exact .inr (List.mem_cons_self ..)
   ·rcases aid h with e | e
    ·exact .inl e
    ·exact .inr (List.mem_cons_of_mem _ e)
  ·rcases List.mem_cons.1 h with rfl | h
   ·exact .inl rfl
   ·exact .inr (List.mem_filter.1 h).1
theorem Qe {d:ak} {f:ay} (h:jP d) (hf:fM f.data):jP (Eg d f):=fun g hg=>by
 rcases aid hg with rfl | hg
 ·exact hf
 ·exact h g hg
theorem uS {d:ak} (h:jP d):jP (dF d).1:=fun g hg=>by rw[bM]at hg;exact h g hg
theorem ael {d:ak} {n:Nm} (h:jP d):jP (afT d n):=fun g hg=>h g (List.mem_filter.1 hg).1
theorem Uc {d:ak} {n:Nm} {f:ay} (h:jP d) (hg:bW d.files n=some f):fM f.data:=h f (Kv hg).1
theorem Jj {d:ak} {n:Nm} {b:List Int} (h:jP d) (hb:fM b):jP (fK d n b).1:=by
 unfold fK
 split
 ·exact h
 ·split
  ·exact h
  ·rw[KY]
   refine uS (Qe h ?_)
   cases hg:bW d.files n with
   |none=>exact hb
   |some f=>exact(Uc h hg).app hb
theorem P8 {d:ak} {n:Nm} (h:jP d):jP (qU d n).1:=by
 unfold qU
 split
 ·exact h
 ·cases hg:bW d.files n with
  |none=>exact h
  |some f=>simp only;split;exact Qe (uS h) (show fM f.data from Uc h hg);exact uS h
theorem OO {d:ak} {n:Nm} (h:jP d):jP (kS d n).1:=by
 unfold kS
 split
 ·exact h
 ·cases hg:bW d.files n with
  |none=>exact h
  |some f=>simp only;split;exact ael (uS h);exact uS h
theorem amH {d:ak} {n:Nm} {k:Int} (h:jP d):jP (Dy d n k).1:=by
 unfold Dy
 split
 ·exact h
 ·cases hg:bW d.files n with
  |none=>exact h
  |some f=>simp only;split;exact h;split;exact Qe (uS h) (show fM (f.data.take _)from(Uc h hg).take _);exact uS h
theorem O3 {d:ak} {a b:Nm} (h:jP d):jP (lg d a b).1:=by
 unfold lg
 split
 ·exact h
 ·cases hg:bW d.files a with
  |none=>exact h
  |some f=>simp only;split;exact Qe (ael (uS h)) (show fM f.data from Uc h hg);exact uS h
def kU (p:ak×Int) (f:ak->ak×Int):ak×Int:=if p.2≠0 then p else f p.1
def uj (d:ak) (n:Nm):ak×Int:=if bW d.files n=none then (d,0)else Dy d n 0
def agI (d:ak) (n:Nm) (b:List Int):ak×Int:=kU (kU (uj d n) fun d=>fK d n b) fun d=>qU d n
def yQ (d:ak) (s:dM):ak×Int:=
 if ¬yY s\/(eF d).2=1 then (d,1)else if (eF d).2=9 then (d,9)else if s.gen≠(eF d).1.gen+1 then (d,8)else agI d (nmS s.gen) (nR s)
theorem iH {p:ak×Int} {f:ak->ak×Int} (h:p.2≠0):kU p f=p:=if_pos h
theorem then_ok {p:ak×Int} {f:ak->ak×Int} (h:p.2=0):kU p f=f p.1:=if_neg (fun g=>g h)
theorem Zr {d:ak} (h1:(eF d).2≠1) (h2:(eF d).2≠9):jo d/\d.down=false:=by
 unfold eF at h1 h2
 by_cases hd:jo d
 ·rw[if_neg (fun g=>g hd)]at h1 h2
  cases hw:d.down
  ·exact⟨hd,rfl⟩
  ·rw[hw]at h2;simp at h2
 ·rw[if_pos hd]at h1;simp at h1
theorem Qi (d:ak):0<=(eF d).1.gen/\(eF d).1.gen<=1000000000:=by
 unfold eF
 split
 ·simp
 ·split
  ·simp
  ·split
   ·simp
   ·exact J7 _ _
theorem yh {d:ak} (h:jo d) (hw:d.down=false):(eF d).1=jh d.files/\((eF d).2=7/\(jh d.files).gen=0\/(eF d).2=0/\1<=(jh d.files).gen):=by
 unfold eF
 rw[if_neg (fun g=>g h),hw,if_neg (by simp)]
 have:=J7 (ctF d.files n0) (ctF d.files n1)
 by_cases h0:(jh d.files).gen=0
 ·rw[if_pos h0]
  exact⟨by unfold jh at h0 ⊢; rw[ag1 h0],.inl ⟨rfl,h0⟩⟩
 ·rw[if_neg h0]
  exact⟨rfl,.inr ⟨rfl,by unfold jh at h0 ⊢; omega⟩⟩
theorem Zt {d:ak} {n:Nm} (h:jo d) (hw:d.down=false) (hn:jY n):(Oo d n).2=7↔bW d.files n=none:=by
 unfold Oo
 rw[if_neg (fun g=>g (lH.2 ⟨h,hw,DW hn⟩))]
 cases bW d.files n<;>simp
theorem agG {d:ak} {n:Nm} (h:jo d):Keep d (uj d n).1:=by
 unfold uj;split
 ·exact Keep.refl h
 ·exact Z7 h
theorem ahg {d:ak} {n:Nm} (h:jP d):jP (uj d n).1:=by
 unfold uj;split
 ·exact h
 ·exact amH h
theorem abY {d:ak} {p:ak×Int} {f:ak->ak×Int} (h:Keep d p.1) (hf:∀e,jo e->Keep e (f e).1):Keep d (kU p f).1:=by
 unfold kU;split
 ·exact h
 ·exact h.trans (hf _ h.right)
theorem Dv {p:ak×Int} {f:ak->ak×Int} (h:jP p.1) (hf:∀e,jP e->jP (f e).1):jP (kU p f).1:=by
 unfold kU;split
 ·exact h
 ·exact hf _ h
theorem ajR {d:ak} {n:Nm} {b:List Int} (h:jo d):Keep d (agI d n b).1:=abY (abY (agG h) fun e he=>Ey he) fun e he=>Qg he
theorem aiO {d:ak} {n:Nm} {b:List Int} (h:jP d) (hb:fM b):jP (agI d n b).1:=Dv (Dv (ahg h) fun e he=>Jj he hb) fun e he=>P8 he
theorem aaf {d:ak} {s:dM} (h:jo d):Keep d (yQ d s).1:=by
 unfold yQ;split
 ·exact Keep.refl h
 ·split
  ·exact Keep.refl h
  ·split
   ·exact Keep.refl h
   ·exact ajR h
theorem agE {d:ak} {s:dM} (h:jP d):jP (yQ d s).1:=by
 unfold yQ;split
 ·exact h
 ·split
  ·exact h
  ·split
   ·exact h
   ·exact aiO h (agS s)
theorem ah4 {d:ak} {n:Nm} {b:List Int} (h:OL d) (hn:jY n) (hb:b.length<900000):
 Wq (af (iK d n b) fun y5 => cnd (aF (ieq y5.snd 0)) (some y5) (af (jA y5.fst n) fun y6 => cnd (aF (ieq y6.snd 0)) (some y6) (some (y6.fst,0)))) fun x=>x=kU (fK d n b) fun d=>qU d n:=by
 rw[YD h hn.len hb,aj,lM,kQ]
 by_cases h0:(fK d n b).2=0
 case neg=>rw[if_neg h0,au,iH h0]
 rw[if_pos h0,then_ok h0]
 by_cases hd:jo d
 ·rw[agL ((Ey hd).bnd h.fu) hn.len,aj,lM,kQ]
  split
  ·rename_i g;rw[au,<-g]
  ·rw[au]
 ·have:(fK d n b).2≠0:=by
   have hf:jB d [n]=1:=by unfold jB;rw[if_pos hd]
   unfold fK;rw[if_pos (by rw[hf];decide),hf];show(1:Int)≠0;decide
  exact absurd h0 this
theorem anq {d:ak} {n:Nm} {k:Int} (h:OL d):OL (Dy d n k).1:=by
 by_cases hd:jo d
 ·exact(Z7 hd).bnd h.fu
 ·have hf:jB d [n]=1:=by unfold jB;rw[if_pos hd]
  unfold Dy;rw[if_pos (by rw[hf];decide)];exact h
theorem TP {d:ak} {s:dM} (h:OL d) (hb:jP d) (hs:inI s.gen):gV d s=some (yQ d s):=by
 refine Wq.eq ?_
 unfold gV yQ
 rw[Uw,aj,lM,KX]
 by_cases hp:yY s
 case neg=>rw[if_neg hp,au,if_pos (.inl hp)]
 rw[if_pos hp,O1 h hb,aj]
 have hg:=Qi d
 have eg:wr .i64 (ax (eF d).1.gen 1)=(eF d).1.gen+1:=by rw[ax,dI (by omega) (by omega)]
 rw[eg]
 have rest:(eF d).2≠1->(eF d).2≠9->Wq (cnd (aF (ieq s.gen ((eF d).1.gen+1))) (some (d,(8:Int))) (af (jO s.gen) fun y2 => af (nY s) fun y3 => af (kM d y2) fun y4 => cnd (ieq y4.snd 7) (af (iK d y2 (toL y3)) fun y5 => cnd (aF (ieq y5.snd 0)) (some y5) (af (jA y5.fst y2) fun y6 => cnd (aF (ieq y6.snd 0)) (some y6) (some (y6.fst,0)))) (af (uX d y2 0) fun y7 => cnd (aF (ieq y7.snd 0)) (some y7) (af (iK y7.fst y2 (toL y3)) fun y8 => cnd (aF (ieq y8.snd 0)) (some y8) (af (jA y8.fst y2) fun y9 => cnd (aF (ieq y9.snd 0)) (some y9) (some (y9.fst,0))))))) fun x=>x=if s.gen≠(eF d).1.gen+1 then (d,8)else agI d (nmS s.gen) (nR s):=by
  intro g1 g2
  obtain⟨hd,hw⟩:=Zr g1 g2
  rw[lM,kQ]
  by_cases he:s.gen=(eF d).1.gen+1
  case neg=>rw[if_neg he,au,if_pos he]
  rw[if_pos he,if_neg (fun g=>g he),Ob (by have:=hp.1;omega),aj]
  refine(UL s).bind fun a ha=> ?_
  rw[ha]
  have hn:=acw s.gen
  have hbl:=Gv s
  rw[Y9 h hn.len,aj,kQ]
  unfold agI
  by_cases h7:(Oo d (nmS s.gen)).2=7
  ·rw[if_pos h7]
   have hg:=(Zt hd hw hn).1 h7
   have:uj d (nmS s.gen)=(d,0):=by unfold uj;rw[if_pos hg]
   rw[this,show(kU (d,(0:Int)) fun d=>fK d (nmS s.gen) (nR s))=fK d (nmS s.gen) (nR s)from then_ok rfl]
   exact ah4 h hn (by omega)
  ·rw[if_neg h7]
   have hg:bW d.files (nmS s.gen)≠none:=fun g=>h7 ((Zt hd hw hn).2 g)
   have:uj d (nmS s.gen)=Dy d (nmS s.gen) 0:=by unfold uj;rw[if_neg hg]
   rw[this,aqc h hn.len,aj,lM,kQ]
   by_cases h0:(Dy d (nmS s.gen) 0).2=0
   ·rw[if_pos h0,show(kU (Dy d (nmS s.gen) 0) fun d=>fK d (nmS s.gen) (nR s))=fK (Dy d (nmS s.gen) 0).1 (nmS s.gen) (nR s)from then_ok h0]
    exact ah4 (anq h) hn (by omega)
   ·rw[if_neg h0,au,show(kU (Dy d (nmS s.gen) 0) fun d=>fK d (nmS s.gen) (nR s))=Dy d (nmS s.gen) 0 from iH h0,iH h0]
 rw[kQ,kQ,kQ]
 by_cases h1:(eF d).2=1
 ·rw[if_pos h1,if_pos h1,au,if_pos (.inr h1),h1]
 have hneg:¬(¬yY s\/(eF d).2=1):=fun g=>g.elim (fun g=>g hp) h1
 rw[if_neg h1,if_neg hneg]
 by_cases h9:(eF d).2=9
 ·rw[if_pos h9,au,if_pos h9,h9]
 rw[if_neg h9,if_neg h9]
 exact rest h1 h9
def zA:Nm:=[115,110,97,112,46]
def iL (g:Int):Nm:=ER zA g
def afk (v:Nat):Nm:=List.replicate (10 - (JW 20 v).length) 48++JW 20 v
def wB (g:Int):Prop:=1<=g/\g<=1000000000
theorem afd {v:Nat} (h:v<=1000000000):(afk v).length=10:=by
 have:=Pn 20 v 10 (by omega) (by decide)
 unfold afk;rw[List.length_append,List.length_replicate];omega
theorem aes (v:Nat):∀c∈afk v,VA c:=by
 intro c hc
 rcases List.mem_append.1 hc with h | h
 ·rw[List.mem_replicate]at h;rw[h.2,yj];decide
 ·exact UG _ _ c h
theorem afZ {v:Nat} (h:v<=1000000000):BG (afk v)=v:=by
 unfold afk;rw[RX,Y7 20 v (by omega)]
theorem UB {g:Int} (h:wB g):iL g=zA++afk g.toNat:=by
 unfold iL ER afk
 have:fmt10 g=JW 20 g.toNat:=by unfold fmt10;rw[if_neg (by have:=h.1;omega)]
 rw[if_neg (by unfold wB at h;omega),this,List.append_assoc]
theorem ai2 {g:Int} (h:¬wB g):iL g=[]:=by
 unfold iL ER;rw[if_pos (by unfold wB at h;omega)]
theorem Vp {g:Int} (h:wB g):(iL g).length=15:=by
 rw[UB h,List.length_append,afd (by unfold wB at h;omega)];rfl
theorem Wy {g:Int} (h:wB g):CQ zA (iL g)=g:=by
 have hv:g.toNat<=1000000000:=by unfold wB at h;omega
 have e1:(iL g).take zA.length=zA:=by rw[UB h,List.take_left]
 have e2:(iL g).drop zA.length=afk g.toNat:=by rw[UB h,List.drop_left]
 unfold CQ
 rw[e1,e2,if_pos ⟨rfl,afd hv,aes _,by rw[afZ hv];exact hv⟩,afZ hv]
 unfold wB at h;omega
theorem alY {g k:Int} (h:wB g) (hk:wB k) (e:iL g=iL k):g=k:=by rw[<-Wy h,e,Wy hk]
theorem akh {c:UInt8} (h:VA c):QI c:=by rw[yj]at h;exact .inr (.inl h)
theorem Px {g:Int} (h:wB g):jY (iL g):=by
 refine⟨?_,by rw[Vp h];decide,by rw[Vp h];decide⟩
 rw[UB h]
 intro c hc
 rcases List.mem_append.1 hc with k | k
 ·have:∀c∈zA,QI c:=by decide
  exact this c k
 ·exact akh (aes _ c k)
theorem aoi {g:Int} (h:wB g):(fmt10 g).length<=10:=by
 have:fmt10 g=JW 20 g.toNat:=by unfold fmt10;rw[if_neg (by have:=h.1;omega)]
 rw[this];exact Pn 20 _ 10 (by unfold wB at h;omega) (by decide)
theorem Gf (g:Int):dZ g=some (iL g):=by
 refine Wq.eq ?_
 unfold dZ
 rw[jW]
 refine⟨fun h=> ?_,fun h=> ?_⟩
 ·simp only[bF,dh,dV,eX,bI,bP,dP,eP,dm,fB,bK,bJ,fC,fD]at h
  rw[au,ai2 (by unfold wB;omega)]
 ·simp only[bF,dh,dV,eX,bI,bP,dP,eP,dm,fB,bK,bJ,fC,fD]at h
  have hg:wB g:=⟨by omega,by omega⟩
  have hl:=aoi hg
  have ef:pG g 10=some (fmt10 g):=by
   unfold pG aiZ
   rw[aI (by rw[bF,bK,bF,dm,dm];unfold wB at hg;exact⟨rfl,by omega,by omega⟩)]
  have ew:wr .i64 (aG 10 (len (fmt10 g)))=((10 - (fmt10 g).length:Nat):Int):=by
   rw[aG,dI (by simp only[len];omega) (by simp only[len];omega)];simp only[len];omega
  have er:tZ [(UInt8.ofNat 48)] ((10 - (fmt10 g).length:Nat):Int)=some (List.replicate (10 - (fmt10 g).length) 48):=by
   unfold tZ ajJ
   have e1:len [(UInt8.ofNat 48)]=1:=rfl
   rw[e1,aI (by simp only[bF,dm,jq,Int.one_mul];exact⟨by omega,by omega,by omega⟩),qN,Y3];rfl
  rw[ef,aj,ew,er,aj,aI (kF (by simp only[len,ax,List.length_replicate];omega)),aI (kF (by simp only[len,ax,jc,List.length_append,List.length_replicate,List.length_cons,List.length_nil];omega)),au]
  unfold iL ER
  rw[if_neg (by unfold wB at hg;omega)];rfl
theorem agT (s:Nm):tX s=some (decide (CQ zA s≠0)):=by
 unfold tX
 congr 1
 rw[Bool.eq_iff_iff,bI,bJ,decide_eq_true_iff];exact Iff.rfl
open Classical in
noncomputable def aaO (b:List Int):ai×Int:=if xw b then if sumP b then if WZ b then (rY (pZ b),0)else (zS,2)else (zS,10)else (zS,2)
theorem VX (b:List Int):af7 b (aaO b):=by
 unfold aaO
 refine⟨fun h=> ?_,fun h1 h2=> ?_,fun h1 h2 h3=> ?_,fun h1 h2 h3=> ?_⟩
 ·rw[if_neg h]
 ·rw[if_pos h1,if_neg h2]
 ·rw[if_pos h1,if_pos h2,if_neg h3]
 ·rw[if_pos h1,if_pos h2,if_pos h3]
theorem aeO {b:List Int} (hb:fM b) (hl:b.length<99999):su b=some (aaO b):=by
 obtain⟨r,e,h⟩:=Ui hb hl
 rw[e,h.uniq (VX b)]
theorem aki:aaO []=(zS,2):=(VX []).form fun h=>absurd h.many (by simp)
theorem aop {b:List Int} (h:(aaO b).2=0):xw b/\sumP b/\WZ b/\(aaO b).1=rY (pZ b):=by
 by_cases h1:xw b
 ·by_cases h2:sumP b
  ·by_cases h3:WZ b
   ·exact⟨h1,h2,h3,by rw[(VX b).good h1 h2 h3]⟩
   ·rw[(VX b).bad h1 h2 h3]at h;exact absurd h (by decide)
  ·rw[(VX b).sum h1 h2]at h;exact absurd h (by decide)
 ·rw[(VX b).form h1]at h;exact absurd h (by decide)
theorem ak1 {s:ai} (hr:iF s) (h:gu s) (hl:(encZ s).length<99999):aaO (encZ s)=(s,0):=by
 have:=adB hr h
 rw[aeO (A8 s) hl]at this
 exact Option.some.inj this
noncomputable def WG (b:List Int) (s:dM):ai×Int×Int:=if (aaO b).2=0/\(aaO b).1.lsn=s.lsn then ((aaO b).1,s.gen,0)else (zS,0,2)
noncomputable def ql (d:ak):ai×Int×Int:=if (eF d).2≠0 then (zS,0,(eF d).2)else WG (ctF d.files (iL (eF d).1.gen)) (eF d).1
theorem agf {d:ak} (h:(eF d).2=0):jo d/\d.down=false/\yY (eF d).1:=by
 obtain⟨hd,hw⟩:=Zr (by rw[h];decide) (by rw[h];decide)
 obtain⟨h1,h2⟩:=yh hd hw
 refine⟨hd,hw,?_⟩
 rcases h2 with ⟨g, -⟩ | ⟨-, g⟩
 ·rw[h]at g;exact absurd g (by decide)
 ·rw[h1]
  rcases Zc (ctF d.files n0) (ctF d.files n1)with k | k
  ·unfold jh at g;rw[k]at g;exact absurd g (by decide)
  ·exact k
theorem yY.gen {s:dM} (h:yY s):wB s.gen:=⟨h.1,h.2.1⟩
theorem apP {d:ak} (h:jo d) (n:Nm):(ctF d.files n).length<=65536:=by
 unfold ctF
 cases hg:bW d.files n with
 |none=>simp
 |some f=>
  obtain⟨i,o,hs⟩:=mg h.asc (by have:=h.fl;omega) n
  have hi:=hs.get
  rw[hg]at hi
  subst hi
  have:=hs.usedD
  have:=h.us
  simp only[OD]at*
  omega
theorem aqM:ai.mk 0 0 [] [] [] [] false 0 0 0=zS:=rfl
theorem adD {d:ak} (h:OL d) (hb:jP d):pK d=some (ql d):=by
 refine Wq.eq ?_
 unfold pK ql
 rw[O1 h hb,aj,lM,kQ,aqM]
 by_cases h0:(eF d).2=0
 case neg=>rw[if_neg h0,au,if_pos h0]
 obtain⟨hd,hw,hp⟩:=agf h0
 have hn:=Px hp.gen
 rw[if_pos h0,if_neg (fun g=>g h0),Gf,aj,Y9 h hn.len,aj,aec hd hw hn,kQ]
 have hrz:(Oo d (iL (eF d).1.gen)).2=if bW d.files (iL (eF d).1.gen)=none then 7 else 0:=by
  unfold Oo
  rw[if_neg (fun g=>g (lH.2 ⟨hd,hw,DW hn⟩))]
  cases bW d.files (iL (eF d).1.gen)<;>simp
 rw[hrz]
 by_cases hg:bW d.files (iL (eF d).1.gen)=none
 ·rw[if_pos hg,if_neg (by decide),au]
  unfold WG ctF
  rw[hg,aki,if_neg (fun g=>absurd g.1 (by decide))]
 ·rw[if_neg hg,if_pos rfl,aeO (TA hb _) (by have:=apP hd (iL (eF d).1.gen);omega),aj,jW]
  unfold WG
  refine⟨fun hc=> ?_,fun hc=> ?_⟩
  ·simp only[bF,dh,dV,eX,bI,bP,dP,eP,dm,fB,bK,bJ,fC,fD]at hc
   rw[au,if_pos hc]
  ·simp only[bF,dh,dV,eX,bI,bP,dP,eP,dm,fB,bK,bJ,fC,fD]at hc
   rw[au,if_neg]
   rintro⟨g1,g2⟩
   rcases hc with c | c
   ·exact c g1
   ·exact c g2
def iM:Nm:=[116,109,112]
theorem qp:jY iM:=by decide
def DY (gen:Int) (p:ak×Int) (f:ay):ak×Int:=if CQ zA f.name≠0/\f.name≠iL gen then kU p fun d=>kS d f.name else p
def og (gen:Int) (p:ak×Int) (l:List ay):ak×Int:=l.foldl (DY gen) p
def aaL (gen:Int) (p:ak×Int):ak×Int×Int:=if p.2≠0 then (p.1,0,p.2)else (p.1,gen,0)
def yP (d:ak):ak×Int:=if bW d.files iM=none then (d,0)else kS d iM
def Ae (d:ak) (gen lsn:Int) (b:List Int):ak×Int:=
 kU (kU (kU (kU (yP d) fun d=>fK d iM b) fun d=>qU d iM) fun d=>lg d iM (iL gen)) fun d=>yQ d ⟨gen,lsn⟩
open Classical in
noncomputable def sG (d:ak) (s:ai):ak×Int×Int:=
 if ¬gu s\/(eF d).2=1 then (d,0,1)else if (eF d).2=9 then (d,0,9)else if 1000000000<=(eF d).1.gen then (d,0,3)else
 aaL ((eF d).1.gen+1) (og ((eF d).1.gen+1) (Ae d ((eF d).1.gen+1) s.lsn (encZ s)) (Ae d ((eF d).1.gen+1) s.lsn (encZ s)).1.files)
theorem VG {gen:Int} {p:ak×Int} (h:p.2≠0):∀l,og gen p l=p
 |[]=>rfl
 |f::l=>by
  unfold og
  rw[List.foldl_cons]
  have:DY gen p f=p:=by unfold DY;split;exact iH h;rfl
  rw[this];exact VG h l
theorem ajo (gen:Int) (p:ak×Int) (a b:List ay):og gen p (a++b)=og gen (og gen p a) b:=by unfold og;rw[List.foldl_append]
theorem ajM (gen:Int) (p:ak×Int) (f:ay):og gen p [f]=DY gen p f:=rfl
theorem afR {gen:Int} {p:ak×Int} {f:ay} (h:jP p.1):jP (DY gen p f).1:=by
 unfold DY;split
 ·exact Dv h fun e he=>OO he
 ·exact h
theorem aae {gen:Int}:∀(l:List ay) {p:ak×Int},jP p.1->jP (og gen p l).1
 |[],_,h=>h
 |f::l,p,h=>by unfold og;rw[List.foldl_cons];exact aae l (afR h)
theorem afq {d:ak} (h:jo d):Keep d (yP d).1:=by
 unfold yP;split
 ·exact Keep.refl h
 ·exact I4 h
theorem Xu {d:ak} (h:jP d):jP (yP d).1:=by
 unfold yP;split
 ·exact h
 ·exact OO h
theorem agq {d:ak} {gen lsn:Int} {b:List Int} (h:jP d) (hb:fM b):jP (Ae d gen lsn b).1:=
 Dv (Dv (Dv (Dv (Xu h) fun e he=>Jj he hb) fun e he=>P8 he) fun e he=>O3 he) fun e he=>agE he
theorem ann {d0 d:ak} {e:Int} {gen:Int} (hg:wB gen) (hd0:jo d0) (hf:inI d0.fuse) (hk:Keep d0 d):
 Wq (af (bT (fun v:Int×bU => aQ (len d.files) d.files gen v.fst v.snd) LF (0,bU.mk d e)) fun y9 => cnd (aF (ieq y9.e 0)) (some (y9.d,(0:Int),y9.e)) (some (y9.d,gen,0))) fun x=>x=aaL gen (og gen (d,e) d.files):=by
 have hl:=hk.right.fl
 refine Wq.bind (pF (n:=d.files.length) (step:=fun v:Int×bU=>aQ (len d.files) d.files gen v.fst v.snd) (by omega)
  (fun i x=>(x.d,x.e)=og gen (d,e) (d.files.take i)/\Keep d0 x.d) (fun w=>(w.d,w.e)=og gen (d,e) d.files) ?_ ?_ _ 0 (Nat.zero_le _) ⟨rfl,hk⟩) ?_
 ·rintro i ⟨x,n⟩ hi ⟨h1,h2⟩
  simp only at h1 h2
  simp only[aQ]
  have hnm:=(hk.right.2.1.1 _ (List.getElem_mem hi)).1
  have hnx:Aa hi=Aa hi:=rfl
  rw[aI (by rw[jl];simpa using hi),aI (inb _ i hi),bQ _ i hi,agT,aj,Aa hi,ajo,<-h1,ajM,KX]
  have hx:OL x:=h2.bnd hf
  by_cases hs:CQ zA d.files[i].name≠0
  ·rw[if_pos hs,Gf,aj,decide_eq_true hs,DL,lM,aoY]
   unfold DY
   by_cases hq:d.files[i].name=iL gen
   ·rw[if_pos hq,au,if_neg (fun g=>g.2 hq)]
    exact⟨fE (by omega),rfl,h2⟩
   ·rw[if_neg hq,if_pos ⟨hs,hq⟩,kQ]
    by_cases h0:n=0
    ·rw[if_pos h0,aeB hx hnm.len,aj,au,then_ok (by exact h0)]
     exact⟨fE (by omega),rfl,h2.trans (I4 h2.right)⟩
    ·rw[if_neg h0,au,iH (by exact h0)]
     exact⟨fE (by omega),rfl,h2⟩
  ·rw[if_neg hs,aj,decide_eq_false hs,LM,bn,au]
   unfold DY
   rw[if_neg (fun g=>hs g.1)]
   exact⟨fE (by omega),rfl,h2⟩
 ·rintro⟨x,n⟩ ⟨h1,h2⟩
  simp only[aQ]
  rw[dN (acV _),au]
  rw[List.take_length]at h1
  exact h1
 ·rintro⟨x,n⟩ hw
  rw[<-hw,lM,kQ]
  unfold aaL
  simp only
  by_cases h0:n=0
  ·rw[if_pos h0,au,if_neg (fun g=>g h0)]
  ·rw[if_neg h0,au,if_pos h0]
theorem ap1 {d0:ak} {p:ak×Int} {gen:Int} (hg:wB gen) (hd0:jo d0) (hf:inI d0.fuse) (hk:Keep d0 p.1) (l:List ay) (hl:l=p.1.files):
 Wq (af (bT (fun v:Int×bU => aQ (len p.1.files) p.1.files gen v.fst v.snd) LF (0,bU.mk p.1 p.2)) fun y9 => cnd (aF (ieq y9.e 0)) (some (y9.d,(0:Int),y9.e)) (some (y9.d,gen,0))) fun x=>x=aaL gen (og gen p l):=by
 rw[hl];exact ann (d:=p.1) (e:=p.2) hg hd0 hf hk
theorem Cm {d0:ak} {p q:ak×Int} {gen:Int} (hg:wB gen) (hd0:jo d0) (hf:inI d0.fuse) (hk:Keep d0 p.1) (hq:q=p):
 Wq (af (bT (fun v:Int×bU => aQ (len p.1.files) p.1.files gen v.fst v.snd) LF (0,bU.mk p.1 p.2)) fun y9 => cnd (aF (ieq y9.e 0)) (some (y9.d,(0:Int),y9.e)) (some (y9.d,gen,0))) fun x=>x=aaL gen (og gen q q.1.files):=by
 rw[hq];exact ap1 hg hd0 hf hk _ rfl
theorem adV {d:ak} {s:ai} (h:OL d) (hb:jP d) (hr:iF s) (hsh:xQ s):pR d s=some (sG d s):=by
 refine Wq.eq ?_
 unfold pR sG
 by_cases hR:gu s
 case neg=>
  rw[Vo hr hsh hR,aj,aI (by rfl),au,if_pos (.inl hR)]
 have henc:(encZ s).length<900000:=by
  have h1:=IG s
  have h2:=hR.few
  omega
 rw[ac3 hr hsh hR,aj,dN (by rfl),O1 h hb,aj,kQ,kQ]
 by_cases h1:(eF d).2=1
 ·rw[if_pos h1,au,if_pos (.inr h1),h1]
 have hneg:¬(¬gu s\/(eF d).2=1):=fun g=>g.elim (fun g=>g hR) h1
 rw[if_neg h1,if_neg hneg]
 by_cases h9:(eF d).2=9
 ·rw[if_pos h9,au,if_pos h9,h9]
 rw[if_neg h9,if_neg h9,aqN]
 by_cases hov:1000000000<=(eF d).1.gen
 ·rw[if_pos hov,au,if_pos hov]
 rw[if_neg hov,if_neg hov]
 obtain⟨hd,hw⟩:=Zr h1 h9
 have hgn:=Qi d
 have eg:wr .i64 (ax (eF d).1.gen 1)=(eF d).1.gen+1:=by rw[ax,dI (by omega) (by omega)]
 rw[eg]
 have hG:wB ((eF d).1.gen+1):=⟨by omega,by omega⟩
 generalize (eF d).1.gen+1=gen at hG ⊢
 have et:[(UInt8.ofNat 116),(UInt8.ofNat 109),(UInt8.ofNat 112)]=iM:=rfl
 rw[et]
 have hfu:=h.fu
 have hN:=Px hG
 have k0:=afq hd
 have b0:=Xu hb
 rw[Y9 h qp.len,aj]
 have hrz:(Oo d iM).2=if bW d.files iM=none then 7 else 0:=by
  unfold Oo
  rw[if_neg (fun g=>g (lH.2 ⟨hd,hw,DW qp⟩))]
  cases bW d.files iM<;>simp
 rw[hrz,kQ]
 unfold Ae
 by_cases hg:bW d.files iM=none
 ·have hc:yP d=(d,0):=by unfold yP;rw[if_pos hg]
  rw[if_pos hg,if_neg (by decide),hc,show(kU (d,(0:Int)) fun d=>fK d iM (encZ s))=fK d iM (encZ s)from then_ok rfl,YD h qp.len henc,aj]
  have k1:=Ey (n:=iM) (b:=encZ s) hd
  have b1:=Jj (n:=iM) hb (A8 s)
  have hcl:∀q:ak×Int,ieq q.2 0=true\/ieq q.2 0=false:=fun q=>by cases ieq q.2 0<;>simp
  generalize hp1:fK d iM (encZ s)=p1 at k1 b1 ⊢
  rcases hcl p1 with e1 | e1
  case inr=>
   simp only[dN e1]
   refine Cm hG hd hfu k1 ?_
   rw[bJ]at e1
   rw[iH e1,iH e1,iH e1]
  rw[aI e1,agL (k1.bnd hfu) qp.len,aj]
  rw[bK]at e1
  rw[then_ok (p:=p1) e1]
  have k2:=k1.trans (Qg (n:=iM) k1.right)
  have b2:=P8 (n:=iM) b1
  generalize qU p1.1 iM=p2 at k2 b2 ⊢
  rcases hcl p2 with e2 | e2
  case inr=>
   simp only[dN e2]
   refine Cm hG hd hfu k2 ?_
   rw[bJ]at e2
   rw[iH e2,iH e2]
  rw[aI e2,Gf,aj,afX (k2.bnd hfu) qp.len hN.len,aj]
  rw[bK]at e2
  rw[then_ok (p:=p2) e2]
  have k3:=k2.trans (Ph (a:=iM) (b:=iL gen) k2.right)
  have b3:=O3 (a:=iM) (b:=iL gen) b2
  generalize lg p2.1 iM (iL gen)=p3 at k3 b3 ⊢
  rcases hcl p3 with e3 | e3
  case inr=>
   simp only[dN e3]
   refine Cm hG hd hfu k3 ?_
   rw[bJ]at e3
   rw[iH e3]
  rw[aI e3,TP (k3.bnd hfu) b3 (by unfold wB at hG;unfold inI;simp only;omega),aj]
  rw[bK]at e3
  rw[then_ok (p:=p3) e3]
  exact Cm hG hd hfu (k3.trans (aaf k3.right)) rfl
 ·have hc:yP d=kS d iM:=by unfold yP;rw[if_neg hg]
  rw[if_neg hg,if_pos rfl,hc,aeB h qp.len,aj]
  have k0:=I4 (n:=iM) hd
  have b0:=OO (n:=iM) hb
  generalize kS d iM=p at k0 b0 ⊢
  have hcl0:ieq p.2 0=true\/ieq p.2 0=false:=by cases ieq p.2 0<;>simp
  rcases hcl0 with e0 | e0
  case inr=>
   simp only[dN e0]
   refine Cm hG hd hfu k0 ?_
   rw[bJ]at e0
   rw[iH (p:=p) e0,iH e0,iH e0,iH e0]
  rw[aI e0,YD (k0.bnd hfu) qp.len henc,aj]
  rw[bK]at e0
  rw[then_ok (p:=p) e0]
  have k1:=k0.trans (Ey (n:=iM) (b:=encZ s) k0.right)
  have b1:=Jj (n:=iM) b0 (A8 s)
  have hcl:∀q:ak×Int,ieq q.2 0=true\/ieq q.2 0=false:=fun q=>by cases ieq q.2 0<;>simp
  generalize hp1:fK p.1 iM (encZ s)=p1 at k1 b1 ⊢
  rcases hcl p1 with e1 | e1
  case inr=>
   simp only[dN e1]
   refine Cm hG hd hfu k1 ?_
   rw[bJ]at e1
   rw[iH e1,iH e1,iH e1]
  rw[aI e1,agL (k1.bnd hfu) qp.len,aj]
  rw[bK]at e1
  rw[then_ok (p:=p1) e1]
  have k2:=k1.trans (Qg (n:=iM) k1.right)
  have b2:=P8 (n:=iM) b1
  generalize qU p1.1 iM=p2 at k2 b2 ⊢
  rcases hcl p2 with e2 | e2
  case inr=>
   simp only[dN e2]
   refine Cm hG hd hfu k2 ?_
   rw[bJ]at e2
   rw[iH e2,iH e2]
  rw[aI e2,Gf,aj,afX (k2.bnd hfu) qp.len hN.len,aj]
  rw[bK]at e2
  rw[then_ok (p:=p2) e2]
  have k3:=k2.trans (Ph (a:=iM) (b:=iL gen) k2.right)
  have b3:=O3 (a:=iM) (b:=iL gen) b2
  generalize lg p2.1 iM (iL gen)=p3 at k3 b3 ⊢
  rcases hcl p3 with e3 | e3
  case inr=>
   simp only[dN e3]
   refine Cm hG hd hfu k3 ?_
   rw[bJ]at e3
   rw[iH e3]
  rw[aI e3,TP (k3.bnd hfu) b3 (by unfold wB at hG;unfold inI;simp only;omega),aj]
  rw[bK]at e3
  rw[then_ok (p:=p3) e3]
  exact Cm hG hd hfu (k3.trans (aaf k3.right)) rfl
theorem agC (gen:Int) (p:ak×Int) (f:ay) (l:List ay):og gen p (f::l)=og gen (DY gen p f) l:=rfl
def afh {τ:Type} [DecidableEq τ] (n:Int) (f:Bool->Option τ):Option τ:=if n=0 then (if f true=f false then f true else none)else f false
theorem PW {τ:Type} [DecidableEq τ] (n:Int) (f:Bool->Option τ):UY n f=afh n f:=by
 unfold UY afh
 by_cases h:n=0
 ·rw[if_pos h,if_pos h]
  by_cases h2:f true=f false
  ·rw[if_pos h2,if_pos h2]
  ·rw[if_neg h2,if_neg h2]
 ·rw[if_neg h,if_neg h]
def gK (x0:(List aA)):Option ((List aA)):=afh (len x0) fun y0 => cnd (beq y0 true) (some []) (cnd (ile (len x0) 68719476736) (some x0) none)
theorem Ep:eU=gK:=by
 funext a0
 unfold eU gK
 simp only[PW]
def iy (x0:(List aK)):Option ((List aK)):=afh (len x0) fun y0 => cnd (beq y0 true) (some []) (cnd (ile (len x0) 68719476736) (some x0) none)
theorem EZ:fA=iy:=by
 funext a0
 unfold fA iy
 simp only[PW]
def iw (x0:(List dD)):Option ((List dD)):=afh (len x0) fun y0 => cnd (beq y0 true) (some []) (cnd (ile (len x0) 68719476736) (some x0) none)
theorem EU:eY=iw:=by
 funext a0
 unfold eY iw
 simp only[PW]
def jk (x0:(List Int)):Option ((List Int)):=afh (len x0) fun y0 => cnd (beq y0 true) (some []) (cnd (ile (len x0) 68719476736) (some x0) none)
theorem IV:gG=jk:=by
 funext a0
 unfold gG jk
 simp only[PW]
def I9 (x0:ai) (x1:mQ):Option (ai×Int):=af (oZ x0.lsn 1) fun y0 => af (cnd (aF (bor (aF (ieq y0.snd 0)) (ile 1000000000 x0.lsn))) (rU x1) (some false)) fun y1 => af (cnd (aF (bor (bor (aF (ieq y0.snd 0)) (ile 1000000000 x0.lsn)) (aF y1))) (lW x0) (some false)) fun y2 => cnd (bor (bor (bor (aF (ieq y0.snd 0)) (ile 1000000000 x0.lsn)) (aF y1)) (aF y2)) (some (x0,1)) (af (gK x0.orders) fun y3 => af (iy x0.cells) fun y4 => af (iw x0.limits) fun y5 => af (jk x0.caps) fun y6 => cnd (ieq x1.kind 1) (af (wL x1) fun y7 => cnd (ile x1.order x0.last) (cnd (ile x1.order x0.last) (some (x0,1)) (cnd x0.kill (some (x0,5)) (cnd (ieq (len y3) 64) (some (x0,6)) (af (gK y3) fun y8 => af (iy y4) fun y9 => af (iw y5) fun y10 => af (jk y6) fun y11 => af (aX (ai.mk x0.accounts x0.symbols y3 y4 y5 y6 x0.kill x0.last x0.seq x0.lsn) y7.fst.account y7.fst.symbol) fun y12 => cnd (band (ile 0 y12) (ilt y12 (len y4))) (af (iR (ah y4 (itn y12)) y7.fst) fun y13 => cnd (aF (ieq y13.snd 0)) (some (x0,3)) (cnd (ile (len (jc y3 [y7.fst])) 68719476736) (af (dO (ai.mk x0.accounts x0.symbols (jc y3 [y7.fst]) (aY y4 (itn y12) y13.fst) y5 y6 x0.kill y7.fst.id x0.seq x0.lsn) (ai.mk x0.accounts x0.symbols y8 y9 y10 y11 x0.kill x0.last x0.seq x0.lsn) y7.fst.account y7.fst.symbol) fun y14 => cnd (aF (ieq y14 0)) (some (x0,y14)) (some (ai.mk x0.accounts x0.symbols (jc y3 [y7.fst]) (aY y4 (itn y12) y13.fst) y5 y6 x0.kill y7.fst.id x0.seq (wr .i64 (ax x0.lsn 1)),0))) none)) none)))) (cnd (ile x0.accounts x1.account) (cnd (ile x0.accounts x1.account) (some (x0,1)) (cnd x0.kill (some (x0,5)) (cnd (ieq (len y3) 64) (some (x0,6)) (af (gK y3) fun y15 => af (iy y4) fun y16 => af (iw y5) fun y17 => af (jk y6) fun y18 => af (aX (ai.mk x0.accounts x0.symbols y3 y4 y5 y6 x0.kill x0.last x0.seq x0.lsn) y7.fst.account y7.fst.symbol) fun y19 => cnd (band (ile 0 y19) (ilt y19 (len y4))) (af (iR (ah y4 (itn y19)) y7.fst) fun y20 => cnd (aF (ieq y20.snd 0)) (some (x0,3)) (cnd (ile (len (jc y3 [y7.fst])) 68719476736) (af (dO (ai.mk x0.accounts x0.symbols (jc y3 [y7.fst]) (aY y4 (itn y19) y20.fst) y5 y6 x0.kill y7.fst.id x0.seq x0.lsn) (ai.mk x0.accounts x0.symbols y15 y16 y17 y18 x0.kill x0.last x0.seq x0.lsn) y7.fst.account y7.fst.symbol) fun y21 => cnd (aF (ieq y21 0)) (some (x0,y21)) (some (ai.mk x0.accounts x0.symbols (jc y3 [y7.fst]) (aY y4 (itn y19) y20.fst) y5 y6 x0.kill y7.fst.id x0.seq (wr .i64 (ax x0.lsn 1)),0))) none)) none)))) (cnd (ile x0.symbols x1.symbol) (some (x0,1)) (cnd x0.kill (some (x0,5)) (cnd (ieq (len y3) 64) (some (x0,6)) (af (gK y3) fun y22 => af (iy y4) fun y23 => af (iw y5) fun y24 => af (jk y6) fun y25 => af (aX (ai.mk x0.accounts x0.symbols y3 y4 y5 y6 x0.kill x0.last x0.seq x0.lsn) y7.fst.account y7.fst.symbol) fun y26 => cnd (band (ile 0 y26) (ilt y26 (len y4))) (af (iR (ah y4 (itn y26)) y7.fst) fun y27 => cnd (aF (ieq y27.snd 0)) (some (x0,3)) (cnd (ile (len (jc y3 [y7.fst])) 68719476736) (af (dO (ai.mk x0.accounts x0.symbols (jc y3 [y7.fst]) (aY y4 (itn y26) y27.fst) y5 y6 x0.kill y7.fst.id x0.seq x0.lsn) (ai.mk x0.accounts x0.symbols y22 y23 y24 y25 x0.kill x0.last x0.seq x0.lsn) y7.fst.account y7.fst.symbol) fun y28 => cnd (aF (ieq y28 0)) (some (x0,y28)) (some (ai.mk x0.accounts x0.symbols (jc y3 [y7.fst]) (aY y4 (itn y26) y27.fst) y5 y6 x0.kill y7.fst.id x0.seq (wr .i64 (ax x0.lsn 1)),0))) none)) none)))))) (cnd (ieq x1.kind 2) (af (qg (ai.mk x0.accounts x0.symbols y3 y4 y5 y6 x0.kill x0.last x0.seq x0.lsn) x1.order) fun y29 => cnd (ieq y29 (-1)) (some (x0,7)) (cnd (band (ile 0 y29) (ilt y29 (len y3))) (af (tK (ah y3 (itn y29)) x1.qty x1.price) fun y30 => cnd (aF (ieq y30.snd 0)) (some (x0,8)) (cnd x0.kill (some (x0,5)) (af (gK y3) fun y31 => af (iy y4) fun y32 => af (iw y5) fun y33 => af (jk y6) fun y34 => af (aX (ai.mk x0.accounts x0.symbols y3 y4 y5 y6 x0.kill x0.last x0.seq x0.lsn) (ah y3 (itn y29)).account (ah y3 (itn y29)).symbol) fun y35 => cnd (band (ile 0 y35) (ilt y35 (len y4))) (af (Ap (ah y4 (itn y35)) (ah y3 (itn y29))) fun y36 => af (iR y36.fst y30.fst) fun y37 => cnd (aF (ieq y37.snd 0)) (some (x0,3)) (cnd (band (ile 0 y29) (ilt y29 (len y3))) (af (dO (ai.mk x0.accounts x0.symbols (aY y3 (itn y29) y30.fst) (aY y4 (itn y35) y37.fst) y5 y6 x0.kill x0.last x0.seq x0.lsn) (ai.mk x0.accounts x0.symbols y31 y32 y33 y34 x0.kill x0.last x0.seq x0.lsn) (ah y3 (itn y29)).account (ah y3 (itn y29)).symbol) fun y38 => cnd (aF (ieq y38 0)) (some (x0,y38)) (some (ai.mk x0.accounts x0.symbols (aY y3 (itn y29) y30.fst) (aY y4 (itn y35) y37.fst) y5 y6 x0.kill x0.last x0.seq (wr .i64 (ax x0.lsn 1)),0))) none)) none))) none)) (cnd (ieq x1.kind 3) (af (qg (ai.mk x0.accounts x0.symbols y3 y4 y5 y6 x0.kill x0.last x0.seq x0.lsn) x1.order) fun y39 => cnd (ieq y39 (-1)) (some (x0,7)) (cnd (band (ile 0 y39) (ilt y39 (len y3))) (af (Bg (ah y3 (itn y39))) fun y40 => cnd (band (ile 0 y39) (ilt y39 (len y3))) (cnd (aF (ieq y40.snd 0)) (some (x0,y40.snd)) (some (ai.mk x0.accounts x0.symbols (aY y3 (itn y39) y40.fst) y4 y5 y6 x0.kill x0.last x0.seq (wr .i64 (ax x0.lsn 1)),0))) none) none)) (cnd (ieq x1.kind 4) (cnd (ile x0.accounts x1.account) (cnd (ile x0.accounts x1.account) (some (x0,1)) (cnd (ieq x1.symbol (-1)) (cnd (band (ile 0 x1.account) (ilt x1.account (len y6))) (some (ai.mk x0.accounts x0.symbols y3 y4 y5 (aY y6 (itn x1.account) x1.opn) x0.kill x0.last x0.seq (wr .i64 (ax x0.lsn 1)),0)) none) (af (aX (ai.mk x0.accounts x0.symbols y3 y4 y5 y6 x0.kill x0.last x0.seq x0.lsn) x1.account x1.symbol) fun y41 => cnd (band (ile 0 y41) (ilt y41 (len y5))) (some (ai.mk x0.accounts x0.symbols y3 y4 (aY y5 (itn y41) (dD.mk x1.long x1.short x1.opn)) y6 x0.kill x0.last x0.seq (wr .i64 (ax x0.lsn 1)),0)) none))) (cnd (ile x0.symbols x1.symbol) (some (x0,1)) (cnd (ieq x1.symbol (-1)) (cnd (band (ile 0 x1.account) (ilt x1.account (len y6))) (some (ai.mk x0.accounts x0.symbols y3 y4 y5 (aY y6 (itn x1.account) x1.opn) x0.kill x0.last x0.seq (wr .i64 (ax x0.lsn 1)),0)) none) (af (aX (ai.mk x0.accounts x0.symbols y3 y4 y5 y6 x0.kill x0.last x0.seq x0.lsn) x1.account x1.symbol) fun y42 => cnd (band (ile 0 y42) (ilt y42 (len y5))) (some (ai.mk x0.accounts x0.symbols y3 y4 (aY y5 (itn y42) (dD.mk x1.long x1.short x1.opn)) y6 x0.kill x0.last x0.seq (wr .i64 (ax x0.lsn 1)),0)) none)))) (cnd (ieq x1.kind 5) (some (ai.mk x0.accounts x0.symbols y3 y4 y5 y6 x1.on x0.last x0.seq (wr .i64 (ax x0.lsn 1)),0)) (cnd (aF (ieq x1.seq (wr .i64 (ax x0.seq 1)))) (some (x0,11)) (af (qg (ai.mk x0.accounts x0.symbols y3 y4 y5 y6 x0.kill x0.last x1.seq x0.lsn) x1.order) fun y43 => cnd (ieq y43 (-1)) (some (ai.mk x0.accounts x0.symbols y3 y4 y5 y6 x0.kill x0.last x1.seq (wr .i64 (ax x0.lsn 1)),0)) (cnd (band (ile 0 y43) (ilt y43 (len y3))) (af (yE (ah y3 (itn y43)) (zl.mk x1.seq x1.what x1.order x1.qty x1.price)) fun y44 => cnd (aF (ieq y44.snd 0)) (some (ai.mk x0.accounts x0.symbols y3 y4 y5 y6 x0.kill x0.last x1.seq (wr .i64 (ax x0.lsn 1)),0)) (af (aX (ai.mk x0.accounts x0.symbols y3 y4 y5 y6 x0.kill x0.last x1.seq x0.lsn) (ah y3 (itn y43)).account (ah y3 (itn y43)).symbol) fun y45 => cnd (band (ile 0 y45) (ilt y45 (len y4))) (af (Ap (ah y4 (itn y45)) (ah y3 (itn y43))) fun y46 => af (iR (ah (aY y4 (itn y45) y46.fst) (itn y45)) y44.fst) fun y47 => cnd (ieq x1.what 3) (af (DX (ah (aY (aY y4 (itn y45) y46.fst) (itn y45) y47.fst) (itn y45)) (ah y3 (itn y43)).side x1.qty) fun y48 => cnd (band (ile 0 y43) (ilt y43 (len y3))) (cnd (ieq y44.fst.phase 3) (af (gm (aY y3 (itn y43) y44.fst) y43 (wr .i64 (ax y43 1))) fun y49 => some (ai.mk x0.accounts x0.symbols y49 (aY (aY (aY y4 (itn y45) y46.fst) (itn y45) y47.fst) (itn y45) y48.fst) y5 y6 x0.kill x0.last x1.seq (wr .i64 (ax x0.lsn 1)),0)) (some (ai.mk x0.accounts x0.symbols (aY y3 (itn y43) y44.fst) (aY (aY (aY y4 (itn y45) y46.fst) (itn y45) y47.fst) (itn y45) y48.fst) y5 y6 x0.kill x0.last x1.seq (wr .i64 (ax x0.lsn 1)),0))) none) (cnd (band (ile 0 y43) (ilt y43 (len y3))) (cnd (ieq y44.fst.phase 3) (af (gm (aY y3 (itn y43) y44.fst) y43 (wr .i64 (ax y43 1))) fun y50 => some (ai.mk x0.accounts x0.symbols y50 (aY (aY y4 (itn y45) y46.fst) (itn y45) y47.fst) y5 y6 x0.kill x0.last x1.seq (wr .i64 (ax x0.lsn 1)),0)) (some (ai.mk x0.accounts x0.symbols (aY y3 (itn y43) y44.fst) (aY (aY y4 (itn y45) y46.fst) (itn y45) y47.fst) y5 y6 x0.kill x0.last x1.seq (wr .i64 (ax x0.lsn 1)),0))) none)) none)) none))))))))
theorem Ol:wI=I9:=by
 funext a0 a1
 unfold wI I9
 simp only[Ep,EZ,EU,IV]
def eH (x0:(List Int)):Option ((List Int)):=afh (len x0) fun y0 => cnd (beq y0 true) (some []) (cnd (ile (len x0) 68719476736) (some x0) none)
theorem zI:dw=eH:=by
 funext a0
 unfold dw eH
 simp only[PW]
def nX (x0:ak) (x1:(List UInt8)):Option ((List Int)×Int):=af (iU x0 [x1]) fun y0 => cnd (aF (ieq y0 0)) (cnd (aF (ieq y0 0)) (some ([],y0)) (cnd (ilt 0 (len x0.files)) (af (eH (ah x0.files 0).data) fun y1 => some (y1,0)) none)) (af (dL x0 x1) fun y2 => cnd (aF y2.snd) (some ([],7)) (cnd (band (ile 0 y2.fst) (ilt y2.fst (len x0.files))) (af (eH (ah x0.files (itn y2.fst)).data) fun y3 => some (y3,0)) none))
theorem yG:kM=nX:=by
 funext a0 a1
 unfold kM nX
 simp only[zI]
def zD (x0:ak):Option (dM×Int):=af (rP x0) fun y0 => cnd (aF y0) (some (dM.mk 0 0,1)) (cnd x0.down (some (dM.mk 0 0,9)) (af (jO 0) fun y1 => af (nX x0 y1) fun y2 => af (lS y2.fst) fun y3 => cnd (band (band (ieq y3.snd 0) (ieq (F5 y3.fst.gen 2) 0)) (ilt 0 y3.fst.gen)) (af (jO 1) fun y4 => af (nX x0 y4) fun y5 => af (lS y5.fst) fun y6 => cnd (band (band (ieq y6.snd 0) (ieq (F5 y6.fst.gen 2) 1)) (ilt y3.fst.gen y6.fst.gen)) (cnd (ieq y6.fst.gen 0) (some (dM.mk 0 0,7)) (some (y6.fst,0))) (cnd (ieq y3.fst.gen 0) (some (dM.mk 0 0,7)) (some (y3.fst,0)))) (af (jO 1) fun y7 => af (nX x0 y7) fun y8 => af (lS y8.fst) fun y9 => cnd (band (band (ieq y9.snd 0) (ieq (F5 y9.fst.gen 2) 1)) (ilt 0 y9.fst.gen)) (cnd (ieq y9.fst.gen 0) (some (dM.mk 0 0,7)) (some (y9.fst,0))) (some (dM.mk 0 0,7)))))
theorem Ea:sH=zD:=by
 funext a0
 unfold sH zD
 simp only[yG]
def BF (x0:ak):Option (ai×Int×Int):=af (zD x0) fun y0 => cnd (aF (ieq y0.snd 0)) (some (ai.mk 0 0 [] [] [] [] false 0 0 0,0,y0.snd)) (af (dZ y0.fst.gen) fun y1 => af (nX x0 y1) fun y2 => cnd (ieq y2.snd 0) (af (su y2.fst) fun y3 => cnd (band (ieq y3.snd 0) (ieq y3.fst.lsn y0.fst.lsn)) (some (y3.fst,y0.fst.gen,0)) (some (ai.mk 0 0 [] [] [] [] false 0 0 0,0,2))) (some (ai.mk 0 0 [] [] [] [] false 0 0 0,0,2)))
theorem U2:pK=BF:=by
 funext a0
 unfold pK BF
 simp only[yG,Ea]
def aS (x0:(List ay)):Option ((List ay)):=afh (len x0) fun y0 => cnd (beq y0 true) (some []) (cnd (ile (len x0) 68719476736) (some x0) none)
theorem jv:aN=aS:=by
 funext a0
 unfold aN aS
 simp only[PW]
def zT (x0:ak) (x1:(List UInt8)):Option (ak×Int):=af (iU x0 [x1]) fun y0 => cnd (aF (ieq y0 0)) (cnd (aF (ieq y0 0)) (some (x0,y0)) (cnd (ieq x0.fuse 0) (some (ak.mk x0.files x0.room x0.fuse true,9)) (cnd (ieq x0.fuse (-1)) (af (aS x0.files) fun y1 => af (dJ y1 0 1) fun y2 => some (ak.mk y2 x0.room x0.fuse x0.down,0)) (af (aS x0.files) fun y3 => af (dJ y3 0 1) fun y4 => some (ak.mk y4 x0.room (wr .i64 (aG x0.fuse 1)) x0.down,0))))) (af (dL x0 x1) fun y5 => cnd (aF y5.snd) (some (x0,7)) (cnd (ieq x0.fuse 0) (some (ak.mk x0.files x0.room x0.fuse true,9)) (cnd (ieq x0.fuse (-1)) (af (aS x0.files) fun y6 => af (dJ y6 y5.fst (wr .i64 (ax y5.fst 1))) fun y7 => some (ak.mk y7 x0.room x0.fuse x0.down,0)) (af (aS x0.files) fun y8 => af (dJ y8 y5.fst (wr .i64 (ax y5.fst 1))) fun y9 => some (ak.mk y9 x0.room (wr .i64 (aG x0.fuse 1)) x0.down,0)))))
theorem G8:qf=zT:=by
 funext a0 a1
 unfold qf zT
 simp only[jv]
def mM (x0:ak) (x1:(List UInt8)) (x2:(List Int)):Option (ak×Int):=af (iU x0 [x1]) fun y0 => cnd (aF (ieq y0 0)) (some (x0,y0)) (af (dL x0 x1) fun y1 => af (Bc x0) fun y2 => cnd (bor (ilt (wr .i64 (aG x0.room y2)) (len x2)) (band (aF y1.snd) (ieq (len x0.files) 64))) (some (x0,6)) (af (aS x0.files) fun y3 => cnd (aF y1.snd) (af (bf y3 y1.fst [ay.mk x1 [] 0]) fun y4 => cnd (band (ile 0 y1.fst) (ilt y1.fst (len y4))) (af (jg [LD.mk (ah y4 (itn y1.fst)).data,LD.mk x2]) fun y5 => cnd (band (ile 0 y1.fst) (ilt y1.fst (len y4))) (cnd (ieq x0.fuse 0) (some (ak.mk (aY y4 (itn y1.fst) (ay.mk (ah y4 (itn y1.fst)).name y5 (ah y4 (itn y1.fst)).sure)) x0.room x0.fuse true,9)) (cnd (ieq x0.fuse (-1)) (some (ak.mk (aY y4 (itn y1.fst) (ay.mk (ah y4 (itn y1.fst)).name y5 (ah y4 (itn y1.fst)).sure)) x0.room x0.fuse x0.down,0)) (some (ak.mk (aY y4 (itn y1.fst) (ay.mk (ah y4 (itn y1.fst)).name y5 (ah y4 (itn y1.fst)).sure)) x0.room (wr .i64 (aG x0.fuse 1)) x0.down,0)))) none) none) (cnd (band (ile 0 y1.fst) (ilt y1.fst (len y3))) (af (jg [LD.mk (ah y3 (itn y1.fst)).data,LD.mk x2]) fun y6 => cnd (band (ile 0 y1.fst) (ilt y1.fst (len y3))) (cnd (ieq x0.fuse 0) (some (ak.mk (aY y3 (itn y1.fst) (ay.mk (ah y3 (itn y1.fst)).name y6 (ah y3 (itn y1.fst)).sure)) x0.room x0.fuse true,9)) (cnd (ieq x0.fuse (-1)) (some (ak.mk (aY y3 (itn y1.fst) (ay.mk (ah y3 (itn y1.fst)).name y6 (ah y3 (itn y1.fst)).sure)) x0.room x0.fuse x0.down,0)) (some (ak.mk (aY y3 (itn y1.fst) (ay.mk (ah y3 (itn y1.fst)).name y6 (ah y3 (itn y1.fst)).sure)) x0.room (wr .i64 (aG x0.fuse 1)) x0.down,0)))) none) none)))
theorem Iz:iK=mM:=by
 funext a0 a1 a2
 unfold iK mM
 simp only[jv]
def nT (x0:ak) (x1:(List UInt8)):Option (ak×Int):=af (iU x0 [x1]) fun y0 => cnd (aF (ieq y0 0)) (cnd (aF (ieq y0 0)) (some (x0,y0)) (cnd (ieq x0.fuse 0) (some (ak.mk x0.files x0.room x0.fuse true,9)) (cnd (ieq x0.fuse (-1)) (af (aS x0.files) fun y1 => cnd (ilt 0 (len y1)) (cnd (ilt 0 (len y1)) (some (ak.mk (aY y1 0 (ay.mk (ah y1 0).name (ah y1 0).data (len (ah y1 0).data))) x0.room x0.fuse x0.down,0)) none) none) (af (aS x0.files) fun y2 => cnd (ilt 0 (len y2)) (cnd (ilt 0 (len y2)) (some (ak.mk (aY y2 0 (ay.mk (ah y2 0).name (ah y2 0).data (len (ah y2 0).data))) x0.room (wr .i64 (aG x0.fuse 1)) x0.down,0)) none) none)))) (af (dL x0 x1) fun y3 => cnd (aF y3.snd) (some (x0,7)) (cnd (ieq x0.fuse 0) (some (ak.mk x0.files x0.room x0.fuse true,9)) (cnd (ieq x0.fuse (-1)) (af (aS x0.files) fun y4 => cnd (band (ile 0 y3.fst) (ilt y3.fst (len y4))) (cnd (band (ile 0 y3.fst) (ilt y3.fst (len y4))) (some (ak.mk (aY y4 (itn y3.fst) (ay.mk (ah y4 (itn y3.fst)).name (ah y4 (itn y3.fst)).data (len (ah y4 (itn y3.fst)).data))) x0.room x0.fuse x0.down,0)) none) none) (af (aS x0.files) fun y5 => cnd (band (ile 0 y3.fst) (ilt y3.fst (len y5))) (cnd (band (ile 0 y3.fst) (ilt y3.fst (len y5))) (some (ak.mk (aY y5 (itn y3.fst) (ay.mk (ah y5 (itn y3.fst)).name (ah y5 (itn y3.fst)).data (len (ah y5 (itn y3.fst)).data))) x0.room (wr .i64 (aG x0.fuse 1)) x0.down,0)) none) none))))
theorem KU:jA=nT:=by
 funext a0 a1
 unfold jA nT
 simp only[jv]
def mG (x0:ak) (x1:(List UInt8)) (x2:(List UInt8)):Option (ak×Int):=cnd (ile (len (jc [x2] [x1])) 68719476736) (af (iU x0 (jc [x2] [x1])) fun y0 => cnd (aF (ieq y0 0)) (cnd (aF (ieq y0 0)) (some (x0,y0)) (cnd (ieq x0.fuse 0) (some (ak.mk x0.files x0.room x0.fuse true,9)) (cnd (ieq x0.fuse (-1)) (cnd (ilt 0 (len x0.files)) (af (aS x0.files) fun y1 => cnd (band (ile 1 (len y1)) (band (ile 1 (len y1)) (ile (len y1) (len y1)))) (cnd (ile 0 (len y1)) (cnd (ile 1 (len y1)) (cnd (ile (ax 0 (len (aC (aH y1 1) (itn (aG (len y1) 1))))) (len y1)) (cnd (band (band (ile 0 (nti (nad 0 (itn (len (aC (aH y1 1) (itn (aG (len y1) 1)))))))) (ile (nti (nad 0 (itn (len (aC (aH y1 1) (itn (aG (len y1) 1))))))) (len y1))) (ile (len y1) (aG (len (eu y1 0 (aC (aH y1 1) (itn (aG (len y1) 1))))) 0))) (af (dL (ak.mk (aC (eu (eu y1 0 (aC (aH y1 1) (itn (aG (len y1) 1)))) (nad 0 (itn (nti (nad 0 (itn (len (aC (aH y1 1) (itn (aG (len y1) 1))))))))) (iQ ay (itn (aG (len y1) (nti (nad 0 (itn (len (aC (aH y1 1) (itn (aG (len y1) 1))))))))))) (nad 0 (itn (len (aC (aH y1 1) (itn (aG (len y1) 1))))))) x0.room x0.fuse x0.down) x2) fun y2 => cnd y2.snd (cnd (band (ile 0 y2.fst) (ilt y2.fst (len (aC (eu (eu y1 0 (aC (aH y1 1) (itn (aG (len y1) 1)))) (nad 0 (itn (nti (nad 0 (itn (len (aC (aH y1 1) (itn (aG (len y1) 1))))))))) (iQ ay (itn (aG (len y1) (nti (nad 0 (itn (len (aC (aH y1 1) (itn (aG (len y1) 1))))))))))) (nad 0 (itn (len (aC (aH y1 1) (itn (aG (len y1) 1)))))))))) (some (ak.mk (aY (aC (eu (eu y1 0 (aC (aH y1 1) (itn (aG (len y1) 1)))) (nad 0 (itn (nti (nad 0 (itn (len (aC (aH y1 1) (itn (aG (len y1) 1))))))))) (iQ ay (itn (aG (len y1) (nti (nad 0 (itn (len (aC (aH y1 1) (itn (aG (len y1) 1))))))))))) (nad 0 (itn (len (aC (aH y1 1) (itn (aG (len y1) 1))))))) (itn y2.fst) (ay.mk x2 (ah x0.files 0).data (ah x0.files 0).sure)) x0.room x0.fuse x0.down,0)) none) (af (bf (aC (eu (eu y1 0 (aC (aH y1 1) (itn (aG (len y1) 1)))) (nad 0 (itn (nti (nad 0 (itn (len (aC (aH y1 1) (itn (aG (len y1) 1))))))))) (iQ ay (itn (aG (len y1) (nti (nad 0 (itn (len (aC (aH y1 1) (itn (aG (len y1) 1))))))))))) (nad 0 (itn (len (aC (aH y1 1) (itn (aG (len y1) 1))))))) y2.fst [ay.mk x2 (ah x0.files 0).data (ah x0.files 0).sure]) fun y3 => some (ak.mk y3 x0.room x0.fuse x0.down,0))) none) none) none) none) none) none) (cnd (ilt 0 (len x0.files)) (af (aS x0.files) fun y4 => cnd (band (ile 1 (len y4)) (band (ile 1 (len y4)) (ile (len y4) (len y4)))) (cnd (ile 0 (len y4)) (cnd (ile 1 (len y4)) (cnd (ile (ax 0 (len (aC (aH y4 1) (itn (aG (len y4) 1))))) (len y4)) (cnd (band (band (ile 0 (nti (nad 0 (itn (len (aC (aH y4 1) (itn (aG (len y4) 1)))))))) (ile (nti (nad 0 (itn (len (aC (aH y4 1) (itn (aG (len y4) 1))))))) (len y4))) (ile (len y4) (aG (len (eu y4 0 (aC (aH y4 1) (itn (aG (len y4) 1))))) 0))) (af (dL (ak.mk (aC (eu (eu y4 0 (aC (aH y4 1) (itn (aG (len y4) 1)))) (nad 0 (itn (nti (nad 0 (itn (len (aC (aH y4 1) (itn (aG (len y4) 1))))))))) (iQ ay (itn (aG (len y4) (nti (nad 0 (itn (len (aC (aH y4 1) (itn (aG (len y4) 1))))))))))) (nad 0 (itn (len (aC (aH y4 1) (itn (aG (len y4) 1))))))) x0.room (wr .i64 (aG x0.fuse 1)) x0.down) x2) fun y5 => cnd y5.snd (cnd (band (ile 0 y5.fst) (ilt y5.fst (len (aC (eu (eu y4 0 (aC (aH y4 1) (itn (aG (len y4) 1)))) (nad 0 (itn (nti (nad 0 (itn (len (aC (aH y4 1) (itn (aG (len y4) 1))))))))) (iQ ay (itn (aG (len y4) (nti (nad 0 (itn (len (aC (aH y4 1) (itn (aG (len y4) 1))))))))))) (nad 0 (itn (len (aC (aH y4 1) (itn (aG (len y4) 1)))))))))) (some (ak.mk (aY (aC (eu (eu y4 0 (aC (aH y4 1) (itn (aG (len y4) 1)))) (nad 0 (itn (nti (nad 0 (itn (len (aC (aH y4 1) (itn (aG (len y4) 1))))))))) (iQ ay (itn (aG (len y4) (nti (nad 0 (itn (len (aC (aH y4 1) (itn (aG (len y4) 1))))))))))) (nad 0 (itn (len (aC (aH y4 1) (itn (aG (len y4) 1))))))) (itn y5.fst) (ay.mk x2 (ah x0.files 0).data (ah x0.files 0).sure)) x0.room (wr .i64 (aG x0.fuse 1)) x0.down,0)) none) (af (bf (aC (eu (eu y4 0 (aC (aH y4 1) (itn (aG (len y4) 1)))) (nad 0 (itn (nti (nad 0 (itn (len (aC (aH y4 1) (itn (aG (len y4) 1))))))))) (iQ ay (itn (aG (len y4) (nti (nad 0 (itn (len (aC (aH y4 1) (itn (aG (len y4) 1))))))))))) (nad 0 (itn (len (aC (aH y4 1) (itn (aG (len y4) 1))))))) y5.fst [ay.mk x2 (ah x0.files 0).data (ah x0.files 0).sure]) fun y6 => some (ak.mk y6 x0.room (wr .i64 (aG x0.fuse 1)) x0.down,0))) none) none) none) none) none) none)))) (af (dL x0 x1) fun y7 => cnd (aF y7.snd) (some (x0,7)) (cnd (ieq x0.fuse 0) (some (ak.mk x0.files x0.room x0.fuse true,9)) (cnd (ieq x0.fuse (-1)) (cnd (band (ile 0 y7.fst) (ilt y7.fst (len x0.files))) (af (aS x0.files) fun y8 => cnd (band (band (band (ile 0 y7.fst) (ile y7.fst (wr .i64 (ax y7.fst 1)))) (ile (wr .i64 (ax y7.fst 1)) (len y8))) (band (ile (wr .i64 (ax y7.fst 1)) (len y8)) (ile (len y8) (len y8)))) (cnd (ieq y7.fst (wr .i64 (ax y7.fst 1))) (af (dL (ak.mk y8 x0.room x0.fuse x0.down) x2) fun y9 => cnd y9.snd (cnd (band (ile 0 y9.fst) (ilt y9.fst (len y8))) (some (ak.mk (aY y8 (itn y9.fst) (ay.mk x2 (ah x0.files (itn y7.fst)).data (ah x0.files (itn y7.fst)).sure)) x0.room x0.fuse x0.down,0)) none) (af (bf y8 y9.fst [ay.mk x2 (ah x0.files (itn y7.fst)).data (ah x0.files (itn y7.fst)).sure]) fun y10 => some (ak.mk y10 x0.room x0.fuse x0.down,0))) (cnd (band (ile 0 y7.fst) (ile y7.fst (len y8))) (cnd (band (ile 0 (wr .i64 (ax y7.fst 1))) (ile (wr .i64 (ax y7.fst 1)) (len y8))) (cnd (ile (ax (nti (itn y7.fst)) (len (aC (aH y8 (itn (wr .i64 (ax y7.fst 1)))) (itn (aG (len y8) (wr .i64 (ax y7.fst 1))))))) (len y8)) (cnd (band (band (ile 0 (nti (nad (itn y7.fst) (itn (len (aC (aH y8 (itn (wr .i64 (ax y7.fst 1)))) (itn (aG (len y8) (wr .i64 (ax y7.fst 1)))))))))) (ile (nti (nad (itn y7.fst) (itn (len (aC (aH y8 (itn (wr .i64 (ax y7.fst 1)))) (itn (aG (len y8) (wr .i64 (ax y7.fst 1))))))))) (len y8))) (ile (len y8) (aG (len (eu y8 (itn y7.fst) (aC (aH y8 (itn (wr .i64 (ax y7.fst 1)))) (itn (aG (len y8) (wr .i64 (ax y7.fst 1))))))) 0))) (af (dL (ak.mk (aC (eu (eu y8 (itn y7.fst) (aC (aH y8 (itn (wr .i64 (ax y7.fst 1)))) (itn (aG (len y8) (wr .i64 (ax y7.fst 1)))))) (nad 0 (itn (nti (nad (itn y7.fst) (itn (len (aC (aH y8 (itn (wr .i64 (ax y7.fst 1)))) (itn (aG (len y8) (wr .i64 (ax y7.fst 1))))))))))) (iQ ay (itn (aG (len y8) (nti (nad (itn y7.fst) (itn (len (aC (aH y8 (itn (wr .i64 (ax y7.fst 1)))) (itn (aG (len y8) (wr .i64 (ax y7.fst 1))))))))))))) (nad (itn y7.fst) (itn (len (aC (aH y8 (itn (wr .i64 (ax y7.fst 1)))) (itn (aG (len y8) (wr .i64 (ax y7.fst 1))))))))) x0.room x0.fuse x0.down) x2) fun y11 => cnd y11.snd (cnd (band (ile 0 y11.fst) (ilt y11.fst (len (aC (eu (eu y8 (itn y7.fst) (aC (aH y8 (itn (wr .i64 (ax y7.fst 1)))) (itn (aG (len y8) (wr .i64 (ax y7.fst 1)))))) (nad 0 (itn (nti (nad (itn y7.fst) (itn (len (aC (aH y8 (itn (wr .i64 (ax y7.fst 1)))) (itn (aG (len y8) (wr .i64 (ax y7.fst 1))))))))))) (iQ ay (itn (aG (len y8) (nti (nad (itn y7.fst) (itn (len (aC (aH y8 (itn (wr .i64 (ax y7.fst 1)))) (itn (aG (len y8) (wr .i64 (ax y7.fst 1))))))))))))) (nad (itn y7.fst) (itn (len (aC (aH y8 (itn (wr .i64 (ax y7.fst 1)))) (itn (aG (len y8) (wr .i64 (ax y7.fst 1)))))))))))) (some (ak.mk (aY (aC (eu (eu y8 (itn y7.fst) (aC (aH y8 (itn (wr .i64 (ax y7.fst 1)))) (itn (aG (len y8) (wr .i64 (ax y7.fst 1)))))) (nad 0 (itn (nti (nad (itn y7.fst) (itn (len (aC (aH y8 (itn (wr .i64 (ax y7.fst 1)))) (itn (aG (len y8) (wr .i64 (ax y7.fst 1))))))))))) (iQ ay (itn (aG (len y8) (nti (nad (itn y7.fst) (itn (len (aC (aH y8 (itn (wr .i64 (ax y7.fst 1)))) (itn (aG (len y8) (wr .i64 (ax y7.fst 1))))))))))))) (nad (itn y7.fst) (itn (len (aC (aH y8 (itn (wr .i64 (ax y7.fst 1)))) (itn (aG (len y8) (wr .i64 (ax y7.fst 1))))))))) (itn y11.fst) (ay.mk x2 (ah x0.files (itn y7.fst)).data (ah x0.files (itn y7.fst)).sure)) x0.room x0.fuse x0.down,0)) none) (af (bf (aC (eu (eu y8 (itn y7.fst) (aC (aH y8 (itn (wr .i64 (ax y7.fst 1)))) (itn (aG (len y8) (wr .i64 (ax y7.fst 1)))))) (nad 0 (itn (nti (nad (itn y7.fst) (itn (len (aC (aH y8 (itn (wr .i64 (ax y7.fst 1)))) (itn (aG (len y8) (wr .i64 (ax y7.fst 1))))))))))) (iQ ay (itn (aG (len y8) (nti (nad (itn y7.fst) (itn (len (aC (aH y8 (itn (wr .i64 (ax y7.fst 1)))) (itn (aG (len y8) (wr .i64 (ax y7.fst 1))))))))))))) (nad (itn y7.fst) (itn (len (aC (aH y8 (itn (wr .i64 (ax y7.fst 1)))) (itn (aG (len y8) (wr .i64 (ax y7.fst 1))))))))) y11.fst [ay.mk x2 (ah x0.files (itn y7.fst)).data (ah x0.files (itn y7.fst)).sure]) fun y12 => some (ak.mk y12 x0.room x0.fuse x0.down,0))) none) none) none) none)) none) none) (cnd (band (ile 0 y7.fst) (ilt y7.fst (len x0.files))) (af (aS x0.files) fun y13 => cnd (band (band (band (ile 0 y7.fst) (ile y7.fst (wr .i64 (ax y7.fst 1)))) (ile (wr .i64 (ax y7.fst 1)) (len y13))) (band (ile (wr .i64 (ax y7.fst 1)) (len y13)) (ile (len y13) (len y13)))) (cnd (ieq y7.fst (wr .i64 (ax y7.fst 1))) (af (dL (ak.mk y13 x0.room (wr .i64 (aG x0.fuse 1)) x0.down) x2) fun y14 => cnd y14.snd (cnd (band (ile 0 y14.fst) (ilt y14.fst (len y13))) (some (ak.mk (aY y13 (itn y14.fst) (ay.mk x2 (ah x0.files (itn y7.fst)).data (ah x0.files (itn y7.fst)).sure)) x0.room (wr .i64 (aG x0.fuse 1)) x0.down,0)) none) (af (bf y13 y14.fst [ay.mk x2 (ah x0.files (itn y7.fst)).data (ah x0.files (itn y7.fst)).sure]) fun y15 => some (ak.mk y15 x0.room (wr .i64 (aG x0.fuse 1)) x0.down,0))) (cnd (band (ile 0 y7.fst) (ile y7.fst (len y13))) (cnd (band (ile 0 (wr .i64 (ax y7.fst 1))) (ile (wr .i64 (ax y7.fst 1)) (len y13))) (cnd (ile (ax (nti (itn y7.fst)) (len (aC (aH y13 (itn (wr .i64 (ax y7.fst 1)))) (itn (aG (len y13) (wr .i64 (ax y7.fst 1))))))) (len y13)) (cnd (band (band (ile 0 (nti (nad (itn y7.fst) (itn (len (aC (aH y13 (itn (wr .i64 (ax y7.fst 1)))) (itn (aG (len y13) (wr .i64 (ax y7.fst 1)))))))))) (ile (nti (nad (itn y7.fst) (itn (len (aC (aH y13 (itn (wr .i64 (ax y7.fst 1)))) (itn (aG (len y13) (wr .i64 (ax y7.fst 1))))))))) (len y13))) (ile (len y13) (aG (len (eu y13 (itn y7.fst) (aC (aH y13 (itn (wr .i64 (ax y7.fst 1)))) (itn (aG (len y13) (wr .i64 (ax y7.fst 1))))))) 0))) (af (dL (ak.mk (aC (eu (eu y13 (itn y7.fst) (aC (aH y13 (itn (wr .i64 (ax y7.fst 1)))) (itn (aG (len y13) (wr .i64 (ax y7.fst 1)))))) (nad 0 (itn (nti (nad (itn y7.fst) (itn (len (aC (aH y13 (itn (wr .i64 (ax y7.fst 1)))) (itn (aG (len y13) (wr .i64 (ax y7.fst 1))))))))))) (iQ ay (itn (aG (len y13) (nti (nad (itn y7.fst) (itn (len (aC (aH y13 (itn (wr .i64 (ax y7.fst 1)))) (itn (aG (len y13) (wr .i64 (ax y7.fst 1))))))))))))) (nad (itn y7.fst) (itn (len (aC (aH y13 (itn (wr .i64 (ax y7.fst 1)))) (itn (aG (len y13) (wr .i64 (ax y7.fst 1))))))))) x0.room (wr .i64 (aG x0.fuse 1)) x0.down) x2) fun y16 => cnd y16.snd (cnd (band (ile 0 y16.fst) (ilt y16.fst (len (aC (eu (eu y13 (itn y7.fst) (aC (aH y13 (itn (wr .i64 (ax y7.fst 1)))) (itn (aG (len y13) (wr .i64 (ax y7.fst 1)))))) (nad 0 (itn (nti (nad (itn y7.fst) (itn (len (aC (aH y13 (itn (wr .i64 (ax y7.fst 1)))) (itn (aG (len y13) (wr .i64 (ax y7.fst 1))))))))))) (iQ ay (itn (aG (len y13) (nti (nad (itn y7.fst) (itn (len (aC (aH y13 (itn (wr .i64 (ax y7.fst 1)))) (itn (aG (len y13) (wr .i64 (ax y7.fst 1))))))))))))) (nad (itn y7.fst) (itn (len (aC (aH y13 (itn (wr .i64 (ax y7.fst 1)))) (itn (aG (len y13) (wr .i64 (ax y7.fst 1)))))))))))) (some (ak.mk (aY (aC (eu (eu y13 (itn y7.fst) (aC (aH y13 (itn (wr .i64 (ax y7.fst 1)))) (itn (aG (len y13) (wr .i64 (ax y7.fst 1)))))) (nad 0 (itn (nti (nad (itn y7.fst) (itn (len (aC (aH y13 (itn (wr .i64 (ax y7.fst 1)))) (itn (aG (len y13) (wr .i64 (ax y7.fst 1))))))))))) (iQ ay (itn (aG (len y13) (nti (nad (itn y7.fst) (itn (len (aC (aH y13 (itn (wr .i64 (ax y7.fst 1)))) (itn (aG (len y13) (wr .i64 (ax y7.fst 1))))))))))))) (nad (itn y7.fst) (itn (len (aC (aH y13 (itn (wr .i64 (ax y7.fst 1)))) (itn (aG (len y13) (wr .i64 (ax y7.fst 1))))))))) (itn y16.fst) (ay.mk x2 (ah x0.files (itn y7.fst)).data (ah x0.files (itn y7.fst)).sure)) x0.room (wr .i64 (aG x0.fuse 1)) x0.down,0)) none) (af (bf (aC (eu (eu y13 (itn y7.fst) (aC (aH y13 (itn (wr .i64 (ax y7.fst 1)))) (itn (aG (len y13) (wr .i64 (ax y7.fst 1)))))) (nad 0 (itn (nti (nad (itn y7.fst) (itn (len (aC (aH y13 (itn (wr .i64 (ax y7.fst 1)))) (itn (aG (len y13) (wr .i64 (ax y7.fst 1))))))))))) (iQ ay (itn (aG (len y13) (nti (nad (itn y7.fst) (itn (len (aC (aH y13 (itn (wr .i64 (ax y7.fst 1)))) (itn (aG (len y13) (wr .i64 (ax y7.fst 1))))))))))))) (nad (itn y7.fst) (itn (len (aC (aH y13 (itn (wr .i64 (ax y7.fst 1)))) (itn (aG (len y13) (wr .i64 (ax y7.fst 1))))))))) y16.fst [ay.mk x2 (ah x0.files (itn y7.fst)).data (ah x0.files (itn y7.fst)).sure]) fun y17 => some (ak.mk y17 x0.room (wr .i64 (aG x0.fuse 1)) x0.down,0))) none) none) none) none)) none) none))))) none
theorem SN:jT=mG:=by
 funext a0 a1 a2
 unfold jT mG
 simp only[jv]
def F8 (x0:ak) (x1:(List UInt8)) (x2:Int):Option (ak×Int):=af (iU x0 [x1]) fun y0 => cnd (aF (ieq y0 0)) (cnd (aF (ieq y0 0)) (some (x0,y0)) (cnd (ilt x2 0) (cnd (ilt x2 0) (some (x0,1)) (cnd (ieq x0.fuse 0) (some (ak.mk x0.files x0.room x0.fuse true,9)) (cnd (ieq x0.fuse (-1)) (af (aS x0.files) fun y1 => cnd (ilt 0 (len y1)) (cnd (band (ile 0 x2) (ile x2 (len (ah y1 0).data))) (af (eH (aC (ah y1 0).data (itn x2))) fun y2 => some (ak.mk (aY (aY y1 0 (ay.mk (ah y1 0).name y2 (ah y1 0).sure)) 0 (ay.mk (ah (aY y1 0 (ay.mk (ah y1 0).name y2 (ah y1 0).sure)) 0).name (ah (aY y1 0 (ay.mk (ah y1 0).name y2 (ah y1 0).sure)) 0).data (jF (ah y1 0).sure x2))) x0.room x0.fuse x0.down,0)) none) none) (af (aS x0.files) fun y3 => cnd (ilt 0 (len y3)) (cnd (band (ile 0 x2) (ile x2 (len (ah y3 0).data))) (af (eH (aC (ah y3 0).data (itn x2))) fun y4 => some (ak.mk (aY (aY y3 0 (ay.mk (ah y3 0).name y4 (ah y3 0).sure)) 0 (ay.mk (ah (aY y3 0 (ay.mk (ah y3 0).name y4 (ah y3 0).sure)) 0).name (ah (aY y3 0 (ay.mk (ah y3 0).name y4 (ah y3 0).sure)) 0).data (jF (ah y3 0).sure x2))) x0.room (wr .i64 (aG x0.fuse 1)) x0.down,0)) none) none)))) (cnd (ilt 0 (len x0.files)) (cnd (ilt (len (ah x0.files 0).data) x2) (some (x0,1)) (cnd (ieq x0.fuse 0) (some (ak.mk x0.files x0.room x0.fuse true,9)) (cnd (ieq x0.fuse (-1)) (af (aS x0.files) fun y5 => cnd (ilt 0 (len y5)) (cnd (band (ile 0 x2) (ile x2 (len (ah y5 0).data))) (af (eH (aC (ah y5 0).data (itn x2))) fun y6 => some (ak.mk (aY (aY y5 0 (ay.mk (ah y5 0).name y6 (ah y5 0).sure)) 0 (ay.mk (ah (aY y5 0 (ay.mk (ah y5 0).name y6 (ah y5 0).sure)) 0).name (ah (aY y5 0 (ay.mk (ah y5 0).name y6 (ah y5 0).sure)) 0).data (jF (ah y5 0).sure x2))) x0.room x0.fuse x0.down,0)) none) none) (af (aS x0.files) fun y7 => cnd (ilt 0 (len y7)) (cnd (band (ile 0 x2) (ile x2 (len (ah y7 0).data))) (af (eH (aC (ah y7 0).data (itn x2))) fun y8 => some (ak.mk (aY (aY y7 0 (ay.mk (ah y7 0).name y8 (ah y7 0).sure)) 0 (ay.mk (ah (aY y7 0 (ay.mk (ah y7 0).name y8 (ah y7 0).sure)) 0).name (ah (aY y7 0 (ay.mk (ah y7 0).name y8 (ah y7 0).sure)) 0).data (jF (ah y7 0).sure x2))) x0.room (wr .i64 (aG x0.fuse 1)) x0.down,0)) none) none)))) none))) (af (dL x0 x1) fun y9 => cnd (aF y9.snd) (some (x0,7)) (cnd (ilt x2 0) (cnd (ilt x2 0) (some (x0,1)) (cnd (ieq x0.fuse 0) (some (ak.mk x0.files x0.room x0.fuse true,9)) (cnd (ieq x0.fuse (-1)) (af (aS x0.files) fun y10 => cnd (band (ile 0 y9.fst) (ilt y9.fst (len y10))) (cnd (band (ile 0 x2) (ile x2 (len (ah y10 (itn y9.fst)).data))) (af (eH (aC (ah y10 (itn y9.fst)).data (itn x2))) fun y11 => some (ak.mk (aY (aY y10 (itn y9.fst) (ay.mk (ah y10 (itn y9.fst)).name y11 (ah y10 (itn y9.fst)).sure)) (itn y9.fst) (ay.mk (ah (aY y10 (itn y9.fst) (ay.mk (ah y10 (itn y9.fst)).name y11 (ah y10 (itn y9.fst)).sure)) (itn y9.fst)).name (ah (aY y10 (itn y9.fst) (ay.mk (ah y10 (itn y9.fst)).name y11 (ah y10 (itn y9.fst)).sure)) (itn y9.fst)).data (jF (ah y10 (itn y9.fst)).sure x2))) x0.room x0.fuse x0.down,0)) none) none) (af (aS x0.files) fun y12 => cnd (band (ile 0 y9.fst) (ilt y9.fst (len y12))) (cnd (band (ile 0 x2) (ile x2 (len (ah y12 (itn y9.fst)).data))) (af (eH (aC (ah y12 (itn y9.fst)).data (itn x2))) fun y13 => some (ak.mk (aY (aY y12 (itn y9.fst) (ay.mk (ah y12 (itn y9.fst)).name y13 (ah y12 (itn y9.fst)).sure)) (itn y9.fst) (ay.mk (ah (aY y12 (itn y9.fst) (ay.mk (ah y12 (itn y9.fst)).name y13 (ah y12 (itn y9.fst)).sure)) (itn y9.fst)).name (ah (aY y12 (itn y9.fst) (ay.mk (ah y12 (itn y9.fst)).name y13 (ah y12 (itn y9.fst)).sure)) (itn y9.fst)).data (jF (ah y12 (itn y9.fst)).sure x2))) x0.room (wr .i64 (aG x0.fuse 1)) x0.down,0)) none) none)))) (cnd (band (ile 0 y9.fst) (ilt y9.fst (len x0.files))) (cnd (ilt (len (ah x0.files (itn y9.fst)).data) x2) (some (x0,1)) (cnd (ieq x0.fuse 0) (some (ak.mk x0.files x0.room x0.fuse true,9)) (cnd (ieq x0.fuse (-1)) (af (aS x0.files) fun y14 => cnd (band (ile 0 y9.fst) (ilt y9.fst (len y14))) (cnd (band (ile 0 x2) (ile x2 (len (ah y14 (itn y9.fst)).data))) (af (eH (aC (ah y14 (itn y9.fst)).data (itn x2))) fun y15 => some (ak.mk (aY (aY y14 (itn y9.fst) (ay.mk (ah y14 (itn y9.fst)).name y15 (ah y14 (itn y9.fst)).sure)) (itn y9.fst) (ay.mk (ah (aY y14 (itn y9.fst) (ay.mk (ah y14 (itn y9.fst)).name y15 (ah y14 (itn y9.fst)).sure)) (itn y9.fst)).name (ah (aY y14 (itn y9.fst) (ay.mk (ah y14 (itn y9.fst)).name y15 (ah y14 (itn y9.fst)).sure)) (itn y9.fst)).data (jF (ah y14 (itn y9.fst)).sure x2))) x0.room x0.fuse x0.down,0)) none) none) (af (aS x0.files) fun y16 => cnd (band (ile 0 y9.fst) (ilt y9.fst (len y16))) (cnd (band (ile 0 x2) (ile x2 (len (ah y16 (itn y9.fst)).data))) (af (eH (aC (ah y16 (itn y9.fst)).data (itn x2))) fun y17 => some (ak.mk (aY (aY y16 (itn y9.fst) (ay.mk (ah y16 (itn y9.fst)).name y17 (ah y16 (itn y9.fst)).sure)) (itn y9.fst) (ay.mk (ah (aY y16 (itn y9.fst) (ay.mk (ah y16 (itn y9.fst)).name y17 (ah y16 (itn y9.fst)).sure)) (itn y9.fst)).name (ah (aY y16 (itn y9.fst) (ay.mk (ah y16 (itn y9.fst)).name y17 (ah y16 (itn y9.fst)).sure)) (itn y9.fst)).data (jF (ah y16 (itn y9.fst)).sure x2))) x0.room (wr .i64 (aG x0.fuse 1)) x0.down,0)) none) none)))) none)))
theorem XJ:uX=F8:=by
 funext a0 a1 a2
 unfold uX F8
 simp only[zI,jv]
def iG (x0:ak) (x1:dM):Option (ak×Int):=af (uP x1) fun y0 => cnd (aF y0) (some (x0,1)) (af (zD x0) fun y1 => cnd (ieq y1.snd 1) (cnd (ieq y1.snd 1) (some (x0,y1.snd)) (cnd (aF (ieq x1.gen (wr .i64 (ax y1.fst.gen 1)))) (some (x0,8)) (af (jO x1.gen) fun y2 => af (nY x1) fun y3 => af (nX x0 y2) fun y4 => cnd (ieq y4.snd 7) (af (mM x0 y2 [y3.a0,y3.a1,y3.a2,y3.a3,y3.a4,y3.a5,y3.a6,y3.a7,y3.a8,y3.a9,y3.a10,y3.a11,y3.a12,y3.a13,y3.a14,y3.a15,y3.a16,y3.a17,y3.a18,y3.a19]) fun y5 => cnd (aF (ieq y5.snd 0)) (some y5) (af (nT y5.fst y2) fun y6 => cnd (aF (ieq y6.snd 0)) (some y6) (some (y6.fst,0)))) (af (F8 x0 y2 0) fun y7 => cnd (aF (ieq y7.snd 0)) (some y7) (af (mM y7.fst y2 [y3.a0,y3.a1,y3.a2,y3.a3,y3.a4,y3.a5,y3.a6,y3.a7,y3.a8,y3.a9,y3.a10,y3.a11,y3.a12,y3.a13,y3.a14,y3.a15,y3.a16,y3.a17,y3.a18,y3.a19]) fun y8 => cnd (aF (ieq y8.snd 0)) (some y8) (af (nT y8.fst y2) fun y9 => cnd (aF (ieq y9.snd 0)) (some y9) (some (y9.fst,0)))))))) (cnd (ieq y1.snd 9) (some (x0,y1.snd)) (cnd (aF (ieq x1.gen (wr .i64 (ax y1.fst.gen 1)))) (some (x0,8)) (af (jO x1.gen) fun y10 => af (nY x1) fun y11 => af (nX x0 y10) fun y12 => cnd (ieq y12.snd 7) (af (mM x0 y10 [y11.a0,y11.a1,y11.a2,y11.a3,y11.a4,y11.a5,y11.a6,y11.a7,y11.a8,y11.a9,y11.a10,y11.a11,y11.a12,y11.a13,y11.a14,y11.a15,y11.a16,y11.a17,y11.a18,y11.a19]) fun y13 => cnd (aF (ieq y13.snd 0)) (some y13) (af (nT y13.fst y10) fun y14 => cnd (aF (ieq y14.snd 0)) (some y14) (some (y14.fst,0)))) (af (F8 x0 y10 0) fun y15 => cnd (aF (ieq y15.snd 0)) (some y15) (af (mM y15.fst y10 [y11.a0,y11.a1,y11.a2,y11.a3,y11.a4,y11.a5,y11.a6,y11.a7,y11.a8,y11.a9,y11.a10,y11.a11,y11.a12,y11.a13,y11.a14,y11.a15,y11.a16,y11.a17,y11.a18,y11.a19]) fun y16 => cnd (aF (ieq y16.snd 0)) (some y16) (af (nT y16.fst y10) fun y17 => cnd (aF (ieq y17.snd 0)) (some y17) (some (y17.fst,0)))))))))
theorem TI:gV=iG:=by
 funext a0 a1
 unfold gV iG
 simp only[yG,Ea,Iz,KU,XJ]
def aW (p0:Int) (p1:(List ay)) (p2:Int) (v0:Int) (v1:bU):Option ((Int×bU) ⊕ ((bU))):=cnd (ilt v0 p0) (cnd (band (ile 0 v0) (ilt v0 (len p1))) (af (tX (ah p1 (itn v0)).name) fun y0 => af (cnd y0 (dZ p2) (some [])) fun y1 => cnd (band y0 (aF (seq (ah p1 (itn v0)).name y1))) (cnd (ieq v1.e 0) (af (zT v1.d (ah p1 (itn v0)).name) fun y2 => some (Sum.inl (wr .i64 (ax v0 1),bU.mk y2.fst y2.snd))) (some (Sum.inl (wr .i64 (ax v0 1),v1)))) (some (Sum.inl (wr .i64 (ax v0 1),v1)))) none) (some (Sum.inr v1))
theorem KZ:aQ=aW:=by
 funext a0 a1 a2 a3 a4
 unfold aQ aW
 simp only[G8]
def Ci (x0:ak) (x1:ai):Option (ak×Int×Int):=af (rD x1) fun y0 => cnd (aF (ieq y0.snd 0)) (some (x0,0,1)) (af (zD x0) fun y1 => cnd (ieq y1.snd 1) (some (x0,0,y1.snd)) (cnd (ieq y1.snd 9) (some (x0,0,y1.snd)) (cnd (ile 1000000000 y1.fst.gen) (some (x0,0,3)) (af (nX x0 [(UInt8.ofNat 116),(UInt8.ofNat 109),(UInt8.ofNat 112)]) fun y2 => cnd (ieq y2.snd 0) (af (zT x0 [(UInt8.ofNat 116),(UInt8.ofNat 109),(UInt8.ofNat 112)]) fun y3 => cnd (ieq y3.snd 0) (af (mM y3.fst [(UInt8.ofNat 116),(UInt8.ofNat 109),(UInt8.ofNat 112)] y0.fst) fun y4 => cnd (ieq y4.snd 0) (af (nT y4.fst [(UInt8.ofNat 116),(UInt8.ofNat 109),(UInt8.ofNat 112)]) fun y5 => cnd (ieq y5.snd 0) (af (dZ (wr .i64 (ax y1.fst.gen 1))) fun y6 => af (mG y5.fst [(UInt8.ofNat 116),(UInt8.ofNat 109),(UInt8.ofNat 112)] y6) fun y7 => cnd (ieq y7.snd 0) (af (iG y7.fst (dM.mk (wr .i64 (ax y1.fst.gen 1)) x1.lsn)) fun y8 => af (bT (fun v => aW (len y8.fst.files) y8.fst.files (wr .i64 (ax y1.fst.gen 1)) v.fst v.snd) LF (0,bU.mk y8.fst y8.snd)) fun y9 => cnd (aF (ieq y9.e 0)) (some (y9.d,0,y9.e)) (some (y9.d,wr .i64 (ax y1.fst.gen 1),0))) (af (bT (fun v => aW (len y7.fst.files) y7.fst.files (wr .i64 (ax y1.fst.gen 1)) v.fst v.snd) LF (0,bU.mk y7.fst y7.snd)) fun y10 => cnd (aF (ieq y10.e 0)) (some (y10.d,0,y10.e)) (some (y10.d,wr .i64 (ax y1.fst.gen 1),0)))) (cnd (ieq y5.snd 0) (af (iG y5.fst (dM.mk (wr .i64 (ax y1.fst.gen 1)) x1.lsn)) fun y11 => af (bT (fun v => aW (len y11.fst.files) y11.fst.files (wr .i64 (ax y1.fst.gen 1)) v.fst v.snd) LF (0,bU.mk y11.fst y11.snd)) fun y12 => cnd (aF (ieq y12.e 0)) (some (y12.d,0,y12.e)) (some (y12.d,wr .i64 (ax y1.fst.gen 1),0))) (af (bT (fun v => aW (len y5.fst.files) y5.fst.files (wr .i64 (ax y1.fst.gen 1)) v.fst v.snd) LF (0,bU.mk y5.fst y5.snd)) fun y13 => cnd (aF (ieq y13.e 0)) (some (y13.d,0,y13.e)) (some (y13.d,wr .i64 (ax y1.fst.gen 1),0))))) (cnd (ieq y4.snd 0) (af (dZ (wr .i64 (ax y1.fst.gen 1))) fun y14 => af (mG y4.fst [(UInt8.ofNat 116),(UInt8.ofNat 109),(UInt8.ofNat 112)] y14) fun y15 => cnd (ieq y15.snd 0) (af (iG y15.fst (dM.mk (wr .i64 (ax y1.fst.gen 1)) x1.lsn)) fun y16 => af (bT (fun v => aW (len y16.fst.files) y16.fst.files (wr .i64 (ax y1.fst.gen 1)) v.fst v.snd) LF (0,bU.mk y16.fst y16.snd)) fun y17 => cnd (aF (ieq y17.e 0)) (some (y17.d,0,y17.e)) (some (y17.d,wr .i64 (ax y1.fst.gen 1),0))) (af (bT (fun v => aW (len y15.fst.files) y15.fst.files (wr .i64 (ax y1.fst.gen 1)) v.fst v.snd) LF (0,bU.mk y15.fst y15.snd)) fun y18 => cnd (aF (ieq y18.e 0)) (some (y18.d,0,y18.e)) (some (y18.d,wr .i64 (ax y1.fst.gen 1),0)))) (cnd (ieq y4.snd 0) (af (iG y4.fst (dM.mk (wr .i64 (ax y1.fst.gen 1)) x1.lsn)) fun y19 => af (bT (fun v => aW (len y19.fst.files) y19.fst.files (wr .i64 (ax y1.fst.gen 1)) v.fst v.snd) LF (0,bU.mk y19.fst y19.snd)) fun y20 => cnd (aF (ieq y20.e 0)) (some (y20.d,0,y20.e)) (some (y20.d,wr .i64 (ax y1.fst.gen 1),0))) (af (bT (fun v => aW (len y4.fst.files) y4.fst.files (wr .i64 (ax y1.fst.gen 1)) v.fst v.snd) LF (0,bU.mk y4.fst y4.snd)) fun y21 => cnd (aF (ieq y21.e 0)) (some (y21.d,0,y21.e)) (some (y21.d,wr .i64 (ax y1.fst.gen 1),0)))))) (cnd (ieq y3.snd 0) (af (nT y3.fst [(UInt8.ofNat 116),(UInt8.ofNat 109),(UInt8.ofNat 112)]) fun y22 => cnd (ieq y22.snd 0) (af (dZ (wr .i64 (ax y1.fst.gen 1))) fun y23 => af (mG y22.fst [(UInt8.ofNat 116),(UInt8.ofNat 109),(UInt8.ofNat 112)] y23) fun y24 => cnd (ieq y24.snd 0) (af (iG y24.fst (dM.mk (wr .i64 (ax y1.fst.gen 1)) x1.lsn)) fun y25 => af (bT (fun v => aW (len y25.fst.files) y25.fst.files (wr .i64 (ax y1.fst.gen 1)) v.fst v.snd) LF (0,bU.mk y25.fst y25.snd)) fun y26 => cnd (aF (ieq y26.e 0)) (some (y26.d,0,y26.e)) (some (y26.d,wr .i64 (ax y1.fst.gen 1),0))) (af (bT (fun v => aW (len y24.fst.files) y24.fst.files (wr .i64 (ax y1.fst.gen 1)) v.fst v.snd) LF (0,bU.mk y24.fst y24.snd)) fun y27 => cnd (aF (ieq y27.e 0)) (some (y27.d,0,y27.e)) (some (y27.d,wr .i64 (ax y1.fst.gen 1),0)))) (cnd (ieq y22.snd 0) (af (iG y22.fst (dM.mk (wr .i64 (ax y1.fst.gen 1)) x1.lsn)) fun y28 => af (bT (fun v => aW (len y28.fst.files) y28.fst.files (wr .i64 (ax y1.fst.gen 1)) v.fst v.snd) LF (0,bU.mk y28.fst y28.snd)) fun y29 => cnd (aF (ieq y29.e 0)) (some (y29.d,0,y29.e)) (some (y29.d,wr .i64 (ax y1.fst.gen 1),0))) (af (bT (fun v => aW (len y22.fst.files) y22.fst.files (wr .i64 (ax y1.fst.gen 1)) v.fst v.snd) LF (0,bU.mk y22.fst y22.snd)) fun y30 => cnd (aF (ieq y30.e 0)) (some (y30.d,0,y30.e)) (some (y30.d,wr .i64 (ax y1.fst.gen 1),0))))) (cnd (ieq y3.snd 0) (af (dZ (wr .i64 (ax y1.fst.gen 1))) fun y31 => af (mG y3.fst [(UInt8.ofNat 116),(UInt8.ofNat 109),(UInt8.ofNat 112)] y31) fun y32 => cnd (ieq y32.snd 0) (af (iG y32.fst (dM.mk (wr .i64 (ax y1.fst.gen 1)) x1.lsn)) fun y33 => af (bT (fun v => aW (len y33.fst.files) y33.fst.files (wr .i64 (ax y1.fst.gen 1)) v.fst v.snd) LF (0,bU.mk y33.fst y33.snd)) fun y34 => cnd (aF (ieq y34.e 0)) (some (y34.d,0,y34.e)) (some (y34.d,wr .i64 (ax y1.fst.gen 1),0))) (af (bT (fun v => aW (len y32.fst.files) y32.fst.files (wr .i64 (ax y1.fst.gen 1)) v.fst v.snd) LF (0,bU.mk y32.fst y32.snd)) fun y35 => cnd (aF (ieq y35.e 0)) (some (y35.d,0,y35.e)) (some (y35.d,wr .i64 (ax y1.fst.gen 1),0)))) (cnd (ieq y3.snd 0) (af (iG y3.fst (dM.mk (wr .i64 (ax y1.fst.gen 1)) x1.lsn)) fun y36 => af (bT (fun v => aW (len y36.fst.files) y36.fst.files (wr .i64 (ax y1.fst.gen 1)) v.fst v.snd) LF (0,bU.mk y36.fst y36.snd)) fun y37 => cnd (aF (ieq y37.e 0)) (some (y37.d,0,y37.e)) (some (y37.d,wr .i64 (ax y1.fst.gen 1),0))) (af (bT (fun v => aW (len y3.fst.files) y3.fst.files (wr .i64 (ax y1.fst.gen 1)) v.fst v.snd) LF (0,bU.mk y3.fst y3.snd)) fun y38 => cnd (aF (ieq y38.e 0)) (some (y38.d,0,y38.e)) (some (y38.d,wr .i64 (ax y1.fst.gen 1),0))))))) (af (mM x0 [(UInt8.ofNat 116),(UInt8.ofNat 109),(UInt8.ofNat 112)] y0.fst) fun y39 => cnd (ieq y39.snd 0) (af (nT y39.fst [(UInt8.ofNat 116),(UInt8.ofNat 109),(UInt8.ofNat 112)]) fun y40 => cnd (ieq y40.snd 0) (af (dZ (wr .i64 (ax y1.fst.gen 1))) fun y41 => af (mG y40.fst [(UInt8.ofNat 116),(UInt8.ofNat 109),(UInt8.ofNat 112)] y41) fun y42 => cnd (ieq y42.snd 0) (af (iG y42.fst (dM.mk (wr .i64 (ax y1.fst.gen 1)) x1.lsn)) fun y43 => af (bT (fun v => aW (len y43.fst.files) y43.fst.files (wr .i64 (ax y1.fst.gen 1)) v.fst v.snd) LF (0,bU.mk y43.fst y43.snd)) fun y44 => cnd (aF (ieq y44.e 0)) (some (y44.d,0,y44.e)) (some (y44.d,wr .i64 (ax y1.fst.gen 1),0))) (af (bT (fun v => aW (len y42.fst.files) y42.fst.files (wr .i64 (ax y1.fst.gen 1)) v.fst v.snd) LF (0,bU.mk y42.fst y42.snd)) fun y45 => cnd (aF (ieq y45.e 0)) (some (y45.d,0,y45.e)) (some (y45.d,wr .i64 (ax y1.fst.gen 1),0)))) (cnd (ieq y40.snd 0) (af (iG y40.fst (dM.mk (wr .i64 (ax y1.fst.gen 1)) x1.lsn)) fun y46 => af (bT (fun v => aW (len y46.fst.files) y46.fst.files (wr .i64 (ax y1.fst.gen 1)) v.fst v.snd) LF (0,bU.mk y46.fst y46.snd)) fun y47 => cnd (aF (ieq y47.e 0)) (some (y47.d,0,y47.e)) (some (y47.d,wr .i64 (ax y1.fst.gen 1),0))) (af (bT (fun v => aW (len y40.fst.files) y40.fst.files (wr .i64 (ax y1.fst.gen 1)) v.fst v.snd) LF (0,bU.mk y40.fst y40.snd)) fun y48 => cnd (aF (ieq y48.e 0)) (some (y48.d,0,y48.e)) (some (y48.d,wr .i64 (ax y1.fst.gen 1),0))))) (cnd (ieq y39.snd 0) (af (dZ (wr .i64 (ax y1.fst.gen 1))) fun y49 => af (mG y39.fst [(UInt8.ofNat 116),(UInt8.ofNat 109),(UInt8.ofNat 112)] y49) fun y50 => cnd (ieq y50.snd 0) (af (iG y50.fst (dM.mk (wr .i64 (ax y1.fst.gen 1)) x1.lsn)) fun y51 => af (bT (fun v => aW (len y51.fst.files) y51.fst.files (wr .i64 (ax y1.fst.gen 1)) v.fst v.snd) LF (0,bU.mk y51.fst y51.snd)) fun y52 => cnd (aF (ieq y52.e 0)) (some (y52.d,0,y52.e)) (some (y52.d,wr .i64 (ax y1.fst.gen 1),0))) (af (bT (fun v => aW (len y50.fst.files) y50.fst.files (wr .i64 (ax y1.fst.gen 1)) v.fst v.snd) LF (0,bU.mk y50.fst y50.snd)) fun y53 => cnd (aF (ieq y53.e 0)) (some (y53.d,0,y53.e)) (some (y53.d,wr .i64 (ax y1.fst.gen 1),0)))) (cnd (ieq y39.snd 0) (af (iG y39.fst (dM.mk (wr .i64 (ax y1.fst.gen 1)) x1.lsn)) fun y54 => af (bT (fun v => aW (len y54.fst.files) y54.fst.files (wr .i64 (ax y1.fst.gen 1)) v.fst v.snd) LF (0,bU.mk y54.fst y54.snd)) fun y55 => cnd (aF (ieq y55.e 0)) (some (y55.d,0,y55.e)) (some (y55.d,wr .i64 (ax y1.fst.gen 1),0))) (af (bT (fun v => aW (len y39.fst.files) y39.fst.files (wr .i64 (ax y1.fst.gen 1)) v.fst v.snd) LF (0,bU.mk y39.fst y39.snd)) fun y56 => cnd (aF (ieq y56.e 0)) (some (y56.d,0,y56.e)) (some (y56.d,wr .i64 (ax y1.fst.gen 1),0))))))))))
theorem TF:pR=Ci:=by
 funext a0 a1
 unfold pR Ci
 simp only[yG,Ea,G8,Iz,KU,SN,TI,KZ]
def BK:Option (Bool):=af (xI 1 1 (dD.mk 9 9 99) 99) fun y0 => af (I9 y0.fst (mQ.mk 1 5 0 0 2 3 2 0 0 0 false 0 0)) fun y1 => af (BF (ak.mk [] 999 (-1) false)) fun y2 => af (Ci (ak.mk [] 999 (-1) false) y0.fst) fun y3 => af (Ci y3.fst y1.fst) fun y4 => af (BF y4.fst) fun y5 => af (cnd (band (band (band (band (band (band (ieq y2.snd.snd 7) (ieq y3.snd.snd 0)) (ieq y4.snd.snd 0)) (ieq y5.snd.snd 0)) (ieq y3.snd.fst 1)) (ieq y4.snd.fst 2)) (ieq y5.snd.fst 2)) (iV y1.fst y5.fst) (some false)) fun y6 => af (cnd (band (band (band (band (band (band (band (band (band (ieq y2.snd.snd 7) (ieq y3.snd.snd 0)) (ieq y4.snd.snd 0)) (ieq y5.snd.snd 0)) (ieq y3.snd.fst 1)) (ieq y4.snd.fst 2)) (ieq y5.snd.fst 2)) y6) (ieq (len y5.fst.orders) 1)) (ieq (len y4.fst.files) 3)) (dZ 7) (some [])) fun y7 => some (band (band (band (band (band (band (band (band (band (band (ieq y2.snd.snd 7) (ieq y3.snd.snd 0)) (ieq y4.snd.snd 0)) (ieq y5.snd.snd 0)) (ieq y3.snd.fst 1)) (ieq y4.snd.fst 2)) (ieq y5.snd.fst 2)) y6) (ieq (len y5.fst.orders) 1)) (ieq (len y4.fst.files) 3)) (seq y7 [(UInt8.ofNat 115),(UInt8.ofNat 110),(UInt8.ofNat 97),(UInt8.ofNat 112),(UInt8.ofNat 46),(UInt8.ofNat 48),(UInt8.ofNat 48),(UInt8.ofNat 48),(UInt8.ofNat 48),(UInt8.ofNat 48),(UInt8.ofNat 48),(UInt8.ofNat 48),(UInt8.ofNat 48),(UInt8.ofNat 48),(UInt8.ofNat 55)]))
theorem IL:lK=BK:=by
 unfold lK BK
 simp only[Ol,U2,TF]
theorem aog:lK=some true:=by rw[IL];kernel_rfl
theorem ahw {d:ak} (hb:jP d):xQ (ql d).1:=by
 unfold ql
 split
 ·exact aeH
 ·unfold WG
  split
  ·rename_i h
   obtain⟨h1,h2,h3,h4⟩:=aop h.1
   simp only
   rw[h4]
   exact Y5 (TA hb _) h1
  ·exact aeH
structure UpD (d:ak):Prop where
 right:jo d
 up:d.down=false
structure aaw (d e:ak) (c:Int):Prop where
 code:(c=0/\e.down=false)\/(c=9/\e.down=true/\d.fuse≠ -1)
 fuse:d.fuse= -1->e.fuse= -1
 keep:Keep d e
theorem aaw.up {d e:ak} {c:Int} (h:aaw d e c) (hc:c=0):UpD e:=⟨h.keep.right,by rcases h.code with g | g;exact g.2;rw[hc]at g;exact absurd g.1 (by decide)⟩
theorem aaw.cases {d e:ak} {c:Int} (h:aaw d e c):c=0\/(c=9/\e.down=true/\d.fuse≠ -1):=h.code.imp (·.1) id
theorem UpD.first {d:ak} (h:UpD d) {ns:List Nm} (hn:∀n∈ns,jY n):jB d ns=0:=lH.2 ⟨h.right,h.up,hn⟩
theorem Qh {d:ak} (h:UpD d):((dF d).2=true/\(dF d).1.down=false)\/((dF d).2=false/\(dF d).1.down=true/\d.fuse≠ -1):=by
 have:=Sm d
 have hu:=h.up
 rcases this with ⟨h0,h1,h2,h3⟩ | ⟨h1,h2,h3,h4⟩
 ·exact .inr ⟨h3,h2,by omega⟩
 ·exact .inl ⟨h4,by rw[h3,hu]⟩
theorem Ir {d:ak} (h:d.fuse= -1):dF d=(d,true):=by unfold dF;rw[if_neg (by omega),if_pos h]
theorem Tt {d:ak} {n:Nm} {b:List Int} (h:UpD d) (hn:jY n):
 ((fK d n b).2=6/\(fK d n b).1=d/\(d.room<(fP d.files:Int)+(b.length:Int)\/(bW d.files n=none/\64<=d.files.length)))\/
 (aaw d (fK d n b).1 (fK d n b).2/\(∀m,bW (fK d n b).1.files m=if m=n then some ⟨n,((bW d.files n).getD ⟨n,[],0⟩).data++b,((bW d.files n).getD ⟨n,[],0⟩).sure⟩else bW d.files m)/\
   fP (fK d n b).1.files=fP d.files+b.length/\(fK d n b).1.files.length<=d.files.length+1):=by
 have hk:=Ey (n:=n) (b:=b) h.right
 have h0:=h.first (DW hn)
 unfold fK at hk ⊢
 rw[if_neg (fun g=>g h0)]at hk ⊢
 by_cases hc:d.room<(fP d.files:Int)+(b.length:Int)\/(bW d.files n=none/\64<=d.files.length)
 ·rw[if_pos hc];exact .inl ⟨rfl,rfl,hc⟩
 rw[if_neg hc]at hk ⊢
 right
 obtain⟨i,o,hs⟩:=mg h.right.asc (by have:=h.right.fl;omega) n
 generalize hF:(⟨n,((bW d.files n).getD ⟨n,[],0⟩).data++b,((bW d.files n).getD ⟨n,[],0⟩).sure⟩:ay)=F at hk ⊢
 have hFn:F.name=n:=by rw[<-hF]
 have g1:=hs.used F hFn
 have g2:=hs.long F hFn
 have hup:(Eg d F).down=false:=h.up
 have hold:F.data.length=OD o+b.length:=by
  rw[<-hF,<-hs.get]
  cases bW d.files n<;>simp [OD]
 refine⟨⟨?_,?_,hk⟩,fun m=> ?_,?_,?_⟩
 ·have hsf:=Sm (Eg d F)
  rcases hsf with ⟨q0,q1,q2,q3⟩ | ⟨q1,q2,q3,q4⟩
  ·right;unfold aj9;rw[q3];exact⟨rfl,q2,by have:d.fuse=0:=q0;omega⟩
  ·left;unfold aj9;rw[q4];exact⟨rfl,by rw[q3];exact hup⟩
 ·intro hf
  rw[KY,Ir (show(Eg d F).fuse= -1 from hf)];exact hf
 ·rw[KY,bM]
  show bW (qB F d.files) m=_
  rw[get_put,hFn]
 ·rw[KY,bM]
  show fP (qB F d.files)=_
  omega
 ·rw[KY,bM]
  show(qB F d.files).length<=_
  rw[g2];split<;>omega
theorem aam {d:ak} {n:Nm} {f:ay} (h:UpD d) (hn:jY n) (hg:bW d.files n=some f):
 aaw d (qU d n).1 (qU d n).2/\((qU d n).2=0->∀m,bW (qU d n).1.files m=if m=n then some ⟨n,f.data,len f.data⟩else bW d.files m)/\((qU d n).2≠0->(qU d n).1.files=d.files)/\
  fP (qU d n).1.files=fP d.files/\(qU d n).1.files.length=d.files.length:=by
 have hk:=Qg (n:=n) h.right
 have h0:=h.first (DW hn)
 unfold qU at hk ⊢
 rw[if_neg (fun g=>g h0),hg]at hk ⊢
 simp only at hk ⊢
 obtain⟨i,o,hs⟩:=mg h.right.asc (by have:=h.right.fl;omega) n
 have g1:=hs.used ⟨n,f.data,len f.data⟩ rfl
 have g2:=hs.long ⟨n,f.data,len f.data⟩ rfl
 have ho:=hs.get
 rw[hg]at ho
 subst ho
 rcases Qh h with ⟨q1,q2⟩ | ⟨q1,q2,q3⟩
 ·rw[if_pos q1]at hk ⊢
  refine⟨⟨.inl ⟨rfl,q2⟩,fun hf=> ?_,hk⟩,fun _ m=> ?_,fun g=>absurd rfl g,?_,?_⟩
  ·rw[Ir hf];exact hf
  ·show bW (qB _ (dF d).1.files) m=_
   rw[bM,get_put]
  ·show fP (qB _ (dF d).1.files)=_
   rw[bM];simp only[OD]at g1;omega
  ·show(qB _ (dF d).1.files).length=_
   rw[bM,g2];simp
 ·rw[if_neg (by rw[q1];decide)]at hk ⊢
  refine⟨⟨.inr ⟨rfl,q2,q3⟩,fun hf=>absurd hf q3,hk⟩,fun g=>absurd g (show ¬(9:Int)=0 by decide),fun _=>bM d,?_,?_⟩
  ·rw[bM]
  ·rw[bM]
theorem UQ {d:ak} {n:Nm} {f:ay} (h:UpD d) (hn:jY n) (hg:bW d.files n=some f):
 aaw d (kS d n).1 (kS d n).2/\((kS d n).2=0->∀m,bW (kS d n).1.files m=if m=n then none else bW d.files m)/\((kS d n).2≠0->(kS d n).1.files=d.files)/\
  fP (kS d n).1.files<=fP d.files/\(kS d n).1.files.length<=d.files.length:=by
 have hk:=I4 (n:=n) h.right
 have h0:=h.first (DW hn)
 unfold kS at hk ⊢
 rw[if_neg (fun g=>g h0),hg]at hk ⊢
 simp only at hk ⊢
 obtain⟨i,o,hs⟩:=mg h.right.asc (by have:=h.right.fl;omega) n
 have g1:=hs.usedD
 have g2:=Zn n d.files
 rcases Qh h with ⟨q1,q2⟩ | ⟨q1,q2,q3⟩
 ·rw[if_pos q1]at hk ⊢
  refine⟨⟨.inl ⟨rfl,q2⟩,fun hf=> ?_,hk⟩,fun _ m=> ?_,fun g=>absurd rfl g,?_,?_⟩
  ·rw[Ir hf];exact hf
  ·show bW (yB _ (dF d).1.files) m=_
   rw[bM,Ya]
  ·show fP (yB _ (dF d).1.files)<=_
   rw[bM];omega
  ·show(yB _ (dF d).1.files).length<=_
   rw[bM];exact g2
 ·rw[if_neg (by rw[q1];decide)]at hk ⊢
  refine⟨⟨.inr ⟨rfl,q2,q3⟩,fun hf=>absurd hf q3,hk⟩,fun g=>absurd g (show ¬(9:Int)=0 by decide),fun _=>bM d,?_,?_⟩
  ·rw[bM];exact Nat.le_refl _
  ·rw[bM];exact Nat.le_refl _
theorem adX {d:ak} {a b:Nm} {f:ay} (h:UpD d) (ha:jY a) (hb:jY b) (hg:bW d.files a=some f):
 aaw d (lg d a b).1 (lg d a b).2/\((lg d a b).2=0->∀m,bW (lg d a b).1.files m=if m=b then some ⟨b,f.data,f.sure⟩else if m=a then none else bW d.files m)/\((lg d a b).2≠0->(lg d a b).1.files=d.files)/\
  fP (lg d a b).1.files<=fP d.files/\(lg d a b).1.files.length<=d.files.length:=by
 have hk:=Ph (a:=a) (b:=b) h.right
 have h0:=h.first (ns:=[a,b]) (by intro n hn;simp at hn;rcases hn with rfl | rfl<;>assumption)
 unfold lg at hk ⊢
 rw[if_neg (fun g=>g h0),hg]at hk ⊢
 simp only at hk ⊢
 obtain⟨i,o,hs⟩:=mg h.right.asc (by have:=h.right.fl;omega) a
 have g1:=hs.usedD
 have ho:=hs.get
 rw[hg]at ho
 subst ho
 have hd:=hs.del
 obtain⟨hil,-, -⟩:=hs.lt
 have hlen:(yB a d.files).length=d.files.length - 1:=by rw[<-hd,List.length_eraseIdx_of_lt hil]
 obtain⟨j,o2,hs2⟩:=mg (adf (n:=a) h.right.asc) (by have:=h.right.fl;omega) b
 have g3:=hs2.used ⟨b,f.data,f.sure⟩ rfl
 have g4:=hs2.long ⟨b,f.data,f.sure⟩ rfl
 rcases Qh h with ⟨q1,q2⟩ | ⟨q1,q2,q3⟩
 ·rw[if_pos q1]at hk ⊢
  refine⟨⟨.inl ⟨rfl,q2⟩,fun hf=> ?_,hk⟩,fun _ m=> ?_,fun g=>absurd rfl g,?_,?_⟩
  ·rw[Ir hf];exact hf
  ·show bW (qB _ (yB a (dF d).1.files)) m=_
   rw[bM,get_put,Ya]
  ·show fP (qB _ (yB a (dF d).1.files))<=_
   rw[bM];simp only[OD]at g1 g3;omega
  ·show(qB _ (yB a (dF d).1.files)).length<=_
   rw[bM,g4];split<;>omega
 ·rw[if_neg (by rw[q1];decide)]at hk ⊢
  refine⟨⟨.inr ⟨rfl,q2,q3⟩,fun hf=>absurd hf q3,hk⟩,fun g=>absurd g (show ¬(9:Int)=0 by decide),fun _=>bM d,?_,?_⟩
  ·rw[bM];exact Nat.le_refl _
  ·rw[bM];exact Nat.le_refl _
theorem aj0 {d:ak} {n:Nm} {f:ay} (h:UpD d) (hn:jY n) (hg:bW d.files n=some f):
 aaw d (Dy d n 0).1 (Dy d n 0).2/\((Dy d n 0).2=0->∀m,bW (Dy d n 0).1.files m=if m=n then some ⟨n,[],0⟩else bW d.files m)/\((Dy d n 0).2≠0->(Dy d n 0).1.files=d.files)/\
  fP (Dy d n 0).1.files<=fP d.files/\(Dy d n 0).1.files.length=d.files.length:=by
 have hk:=Z7 (n:=n) (k:=0) h.right
 have h0:=h.first (DW hn)
 have hs0:=(YG h.right hg).1.2.1
 unfold Dy at hk ⊢
 rw[if_neg (fun g=>g h0),hg]at hk ⊢
 simp only at hk ⊢
 have hno:¬((0:Int)<0\/len f.data<0):=by simp only[len];omega
 have hsu:(if (0:Int)<f.sure then 0 else f.sure)=0:=by split<;>omega
 rw[if_neg hno,hsu,show(0:Int).toNat=0 from rfl,List.take_zero]at hk ⊢
 obtain⟨i,o,hs⟩:=mg h.right.asc (by have:=h.right.fl;omega) n
 have g1:=hs.used ⟨n,[],0⟩ rfl
 have g2:=hs.long ⟨n,[],0⟩ rfl
 have ho:=hs.get
 rw[hg]at ho
 subst ho
 rcases Qh h with ⟨q1,q2⟩ | ⟨q1,q2,q3⟩
 ·rw[if_pos q1]at hk ⊢
  refine⟨⟨.inl ⟨rfl,q2⟩,fun hf=> ?_,hk⟩,fun _ m=> ?_,fun g=>absurd rfl g,?_,?_⟩
  ·rw[Ir hf];exact hf
  ·show bW (qB _ (dF d).1.files) m=_
   rw[bM,get_put]
  ·show fP (qB _ (dF d).1.files)<=_
   rw[bM];simp only[OD,List.length_nil]at g1;omega
  ·show(qB _ (dF d).1.files).length=_
   rw[bM,g2];simp
 ·rw[if_neg (by rw[q1];decide)]at hk ⊢
  refine⟨⟨.inr ⟨rfl,q2,q3⟩,fun hf=>absurd hf q3,hk⟩,fun g=>absurd g (show ¬(9:Int)=0 by decide),fun _=>bM d,?_,?_⟩
  ·rw[bM];exact Nat.le_refl _
  ·rw[bM]
theorem ahv:iM≠n0:=by decide
theorem ahr:iM≠n1:=by decide
theorem Jv {g:Int} (h:wB g) {n:Nm} (hn:n.length≠15):iL g≠n:=fun e=>hn (by rw[<-e];exact Vp h)
theorem Yk (g:Int):(nmS g).length=6:=by unfold nmS;split<;>rfl
theorem ad1 (g:Int):nmS g≠iM:=fun e=>by have:=Yk g;rw[e]at this;exact absurd this (by decide)
theorem ahO:CQ zA iM=0:=by decide
theorem alV:CQ zA n0=0:=by decide
theorem amn:CQ zA n1=0:=by decide
theorem ahZ (g:Int):CQ zA (nmS g)=0:=by unfold nmS;split;exact alV;exact amn
structure D5 (D x:ak):Prop where
 oth:∀n,n≠iM->bW x.files n=bW D.files n
structure Wu (D:ak) (gen:Int) (b w:List Int) (x:ak):Prop where
 oth:∀n,n≠iM->n≠iL gen->n≠nmS gen->bW x.files n=bW D.files n
 snap:bW x.files (iL gen)=some ⟨iL gen,b,len b⟩
 slot:bW x.files (nmS gen)=bW D.files (nmS gen)\/∃f,bW x.files (nmS gen)=some f/\f.sure=0/\(f.data=[]\/f.data=w)
structure LU (D:ak) (gen:Int) (b w:List Int) (x:ak):Prop where
 oth:∀n,n≠iM->n≠nmS gen->CQ zA n=0->bW x.files n=bW D.files n
 snap:bW x.files (iL gen)=some ⟨iL gen,b,len b⟩
 slot:bW x.files (nmS gen)=some ⟨nmS gen,w,len w⟩
 olds:∀n,CQ zA n≠0->n≠iL gen->bW x.files n=none\/bW x.files n=bW D.files n
 tmp:bW x.files iM=none
structure EY (D x:ak) (m k:Nat):Prop where
 keep:Keep D x
 fuse:D.fuse= -1->x.fuse= -1
 used:fP x.files<=fP D.files+m
 long:x.files.length<=D.files.length+k
def aqD (D:ak) (m:Nat):Prop:=D.room<(fP D.files:Int)+(m:Int)+20\/63<=D.files.length
def SG (D:ak) (m:Nat) (c:Int):Prop:=(c=6/\aqD D m)\/(c=9/\D.fuse≠ -1)
theorem SG.ne {D:ak} {m:Nat} {c:Int} (h:SG D m c):c≠0:=by
 rcases h with ⟨h, -⟩ | ⟨h, -⟩<;>rw[h]<;>decide
theorem EY.pow {D x y:ak} {m k m' k':Nat} {c:Int} (h:EY D x m k) (p:aaw x y c) (hu:fP y.files<=fP D.files+m') (hl:y.files.length<=D.files.length+k'):EY D y m' k':=
 ⟨h.keep.trans p.keep,fun hf=>p.fuse (h.fuse hf),hu,hl⟩
theorem LW {D x y:ak} {m k:Nat} {c:Int} (h:EY D x m k) (p:aaw x y c) (hc:c≠0) (mm:Nat):SG D mm c:=by
 rcases p.cases with g | ⟨g,-, g2⟩
 ·exact absurd g hc
 ·exact .inr ⟨g,fun hf=>g2 (h.fuse hf)⟩
theorem aqe {D:ak} (h:UpD D) (m:Nat):EY D (yP D).1 0 0/\D5 D (yP D).1/\(((yP D).2=0/\(yP D).1.down=false/\bW (yP D).1.files iM=none)\/SG D m (yP D).2):=by
 have run0:EY D D 0 0:=⟨Keep.refl h.right,id,Nat.le_refl _,Nat.le_refl _⟩
 unfold yP
 cases hg:bW D.files iM with
 |none=>rw[if_pos rfl];exact⟨run0,⟨fun n _=>rfl⟩,.inl ⟨rfl,h.up,hg⟩⟩
 |some f=>
  rw[if_neg (by intro e;cases e)]
  obtain⟨hp,h1,h2,h3,h4⟩:=UQ h qp hg
  refine⟨run0.pow hp (by omega) (by omega),⟨fun n hn=> ?_⟩,?_⟩
  ·by_cases hc:(kS D iM).2=0
   ·rw[h1 hc n,if_neg hn]
   ·rw[h2 hc]
  ·by_cases hc:(kS D iM).2=0
   ·left;exact⟨hc,(hp.up hc).up,by rw[h1 hc,if_pos rfl]⟩
   ·right;exact LW run0 hp hc m
theorem aqo {D:ak} {p:ak×Int} {b:List Int} (hr:EY D p.1 0 0) (hA:D5 D p.1) (hc:(p.2=0/\p.1.down=false/\bW p.1.files iM=none)\/SG D b.length p.2):
 EY D (kU p fun d=>fK d iM b).1 b.length 1/\D5 D (kU p fun d=>fK d iM b).1/\
 (((kU p fun d=>fK d iM b).2=0/\(kU p fun d=>fK d iM b).1.down=false/\bW (kU p fun d=>fK d iM b).1.files iM=some ⟨iM,b,0⟩)\/SG D b.length (kU p fun d=>fK d iM b).2):=by
 have hr1:EY D p.1 b.length 1:=⟨hr.keep,hr.fuse,by have:=hr.used;omega,by have:=hr.long;omega⟩
 rcases hc with ⟨h0,hw,hg⟩ | hb
 case inr=>rw[iH hb.ne];exact⟨hr1,hA,.inr hb⟩
 rw[then_ok h0]
 have hu:UpD p.1:=⟨hr.keep.right,hw⟩
 rcases Tt (b:=b) hu qp with ⟨a1,a2,a3⟩ | ⟨a1,a2,a3,a4⟩
 ·refine⟨by rw[a2];exact hr1,by rw[a2];exact hA,.inr (.inl ⟨a1,?_⟩)⟩
  have:=hr.used;have:=hr.long;have:=hr.keep.room
  rcases a3 with g | ⟨-, g⟩
  ·left;omega
  ·right;omega
 ·refine⟨hr.pow a1 (by have:=hr.used;omega) (by have:=hr.long;omega),⟨fun n hn=> ?_⟩,?_⟩
  ·rw[a2,if_neg hn];exact hA.oth n hn
  ·by_cases hc:(fK p.1 iM b).2=0
   ·left;exact⟨hc,(a1.up hc).up,by rw[a2,if_pos rfl,hg];rfl⟩
   ·right;exact LW hr a1 hc _
theorem aqk {D:ak} {p:ak×Int} {b:List Int} (hr:EY D p.1 b.length 1) (hA:D5 D p.1) (hc:(p.2=0/\p.1.down=false/\bW p.1.files iM=some ⟨iM,b,0⟩)\/SG D b.length p.2):
 EY D (kU p fun d=>qU d iM).1 b.length 1/\D5 D (kU p fun d=>qU d iM).1/\
 (((kU p fun d=>qU d iM).2=0/\(kU p fun d=>qU d iM).1.down=false/\bW (kU p fun d=>qU d iM).1.files iM=some ⟨iM,b,len b⟩)\/SG D b.length (kU p fun d=>qU d iM).2):=by
 rcases hc with ⟨h0,hw,hg⟩ | hb
 case inr=>rw[iH hb.ne];exact⟨hr,hA,.inr hb⟩
 rw[then_ok h0]
 have hu:UpD p.1:=⟨hr.keep.right,hw⟩
 obtain⟨a1,a2,a3,a4,a5⟩:=aam hu qp hg
 refine⟨hr.pow a1 (by have:=hr.used;omega) (by have:=hr.long;omega),⟨fun n hn=> ?_⟩,?_⟩
 ·by_cases hc:(qU p.1 iM).2=0
  ·rw[a2 hc,if_neg hn];exact hA.oth n hn
  ·rw[a3 hc];exact hA.oth n hn
 ·by_cases hc:(qU p.1 iM).2=0
  ·left;exact⟨hc,(a1.up hc).up,by rw[a2 hc,if_pos rfl]⟩
  ·right;exact LW hr a1 hc _
structure Yi (D:ak) (gen:Int) (b:List Int) (x:ak):Prop where
 oth:∀n,n≠iM->n≠iL gen->bW x.files n=bW D.files n
 snap:bW x.files (iL gen)=some ⟨iL gen,b,len b⟩
 tmp:bW x.files iM=none
theorem walk3 {D:ak} {p:ak×Int} {b:List Int} {gen:Int} (hG:wB gen) (hr:EY D p.1 b.length 1) (hA:D5 D p.1) (hc:(p.2=0/\p.1.down=false/\bW p.1.files iM=some ⟨iM,b,len b⟩)\/SG D b.length p.2):
 EY D (kU p fun d=>lg d iM (iL gen)).1 b.length 1/\
 (((kU p fun d=>lg d iM (iL gen)).2=0/\(kU p fun d=>lg d iM (iL gen)).1.down=false/\Yi D gen b (kU p fun d=>lg d iM (iL gen)).1)\/
  (D5 D (kU p fun d=>lg d iM (iL gen)).1/\SG D b.length (kU p fun d=>lg d iM (iL gen)).2)):=by
 rcases hc with ⟨h0,hw,hg⟩ | hb
 case inr=>rw[iH hb.ne];exact⟨hr,.inr ⟨hA,hb⟩⟩
 rw[then_ok h0]
 have hu:UpD p.1:=⟨hr.keep.right,hw⟩
 have hne:iL gen≠iM:=Jv hG (by decide)
 obtain⟨a1,a2,a3,a4,a5⟩:=adX hu qp (Px hG) hg
 refine⟨hr.pow a1 (by have:=hr.used;omega) (by have:=hr.long;omega),?_⟩
 by_cases hc:(lg p.1 iM (iL gen)).2=0
 ·left
  refine⟨hc,(a1.up hc).up,⟨fun n h1 h2=> ?_,?_,?_⟩⟩
  ·rw[a2 hc,if_neg h2,if_neg h1];exact hA.oth n h1
  ·rw[a2 hc,if_pos rfl]
  ·rw[a2 hc,if_neg (Ne.symm hne),if_pos rfl]
 ·right
  exact⟨⟨fun n hn=>by rw[a3 hc];exact hA.oth n hn⟩,LW hr a1 hc _⟩
theorem Yi.ct {D x:ak} {gen:Int} {b:List Int} (hG:wB gen) (h:Yi D gen b x) {n:Nm} (h1:n≠iM) (h2:n.length≠15):bW x.files n=bW D.files n:=h.oth n h1 (Ne.symm (Jv hG h2))
theorem walk4 {D:ak} {p:ak×Int} {b:List Int} {gen lsn:Int} (hD:UpD D) (hG:wB gen) (hs:yY ⟨gen,lsn⟩) (hgen:gen=(eF D).1.gen+1) (hr:EY D p.1 b.length 1)
 (hc:(p.2=0/\p.1.down=false/\Yi D gen b p.1)\/(D5 D p.1/\SG D b.length p.2)):
 EY D (kU p fun d=>yQ d ⟨gen,lsn⟩).1 (b.length+20) 2/\
 (((kU p fun d=>yQ d ⟨gen,lsn⟩).2=0/\(kU p fun d=>yQ d ⟨gen,lsn⟩).1.down=false/\LU D gen b (nR ⟨gen,lsn⟩) (kU p fun d=>yQ d ⟨gen,lsn⟩).1)\/
  ((D5 D (kU p fun d=>yQ d ⟨gen,lsn⟩).1\/Wu D gen b (nR ⟨gen,lsn⟩) (kU p fun d=>yQ d ⟨gen,lsn⟩).1)/\SG D b.length (kU p fun d=>yQ d ⟨gen,lsn⟩).2)):=by
 have hr1:EY D p.1 (b.length+20) 2:=⟨hr.keep,hr.fuse,by have:=hr.used;omega,by have:=hr.long;omega⟩
 rcases hc with ⟨h0,hw,hB⟩ | ⟨hA,hb⟩
 case inr=>rw[iH hb.ne];exact⟨hr1,.inr ⟨.inl hA,hb⟩⟩
 rw[then_ok h0]
 have hu:UpD p.1:=⟨hr.keep.right,hw⟩
 generalize p.1=x at hr hr1 hB hu ⊢
 clear h0 hw
 have c0:ctF x.files n0=ctF D.files n0:=by unfold ctF;rw[hB.ct hG (Ne.symm ahv) (by decide)]
 have c1:ctF x.files n1=ctF D.files n1:=by unfold ctF;rw[hB.ct hG (Ne.symm ahr) (by decide)]
 obtain⟨r1,r2⟩:=yh hu.right hu.up
 obtain⟨q1,q2⟩:=yh hD.right hD.up
 have hz:jh x.files=jh D.files:=by unfold jh;rw[c0,c1]
 have hn1:(eF x).2≠1:=by rcases r2 with ⟨g, -⟩ | ⟨g, -⟩<;>rw[g]<;>decide
 have hn9:(eF x).2≠9:=by rcases r2 with ⟨g, -⟩ | ⟨g, -⟩<;>rw[g]<;>decide
 have hw:yQ x ⟨gen,lsn⟩=agI x (nmS gen) (nR ⟨gen,lsn⟩):=by
  unfold yQ
  rw[if_neg (fun g=>g.elim (fun g=>g hs) hn1),if_neg hn9,if_neg (fun g=>g (by simp only;rw[r1,hz,<-q1];exact hgen))]
 rw[hw]
 have hnm:=acw gen
 have hwl:=Gv ⟨gen,lsn⟩
 generalize nR ⟨gen,lsn⟩=w at hwl ⊢
 have hsl:=hB.ct hG (ad1 gen) (by rw[Yk];decide)
 have hne:iL gen≠nmS gen:=Jv hG (by rw[Yk];decide)
 have s0:EY D (uj x (nmS gen)).1 b.length 1/\(∀n,n≠nmS gen->bW (uj x (nmS gen)).1.files n=bW x.files n)/\
  (((uj x (nmS gen)).2=0/\(uj x (nmS gen)).1.down=false/\(bW (uj x (nmS gen)).1.files (nmS gen)=none\/bW (uj x (nmS gen)).1.files (nmS gen)=some ⟨nmS gen,[],0⟩))\/
   (SG D b.length (uj x (nmS gen)).2))/\(bW (uj x (nmS gen)).1.files (nmS gen)=bW x.files (nmS gen)\/bW (uj x (nmS gen)).1.files (nmS gen)=some ⟨nmS gen,[],0⟩):=by
  unfold uj
  cases hg:bW x.files (nmS gen)with
  |none=>rw[if_pos rfl];exact⟨hr,fun _ _=>rfl,.inl ⟨rfl,hu.up,.inl hg⟩,.inl hg⟩
  |some f=>
   rw[if_neg (by intro e;cases e)]
   obtain⟨a1,a2,a3,a4,a5⟩:=aj0 hu hnm hg
   refine⟨hr.pow a1 (by have:=hr.used;omega) (by have:=hr.long;omega),fun n hn=> ?_,?_,?_⟩
   ·by_cases hc:(Dy x (nmS gen) 0).2=0
    ·rw[a2 hc,if_neg hn]
    ·rw[a3 hc]
   ·by_cases hc:(Dy x (nmS gen) 0).2=0
    ·left;exact⟨hc,(a1.up hc).up,.inr (by rw[a2 hc,if_pos rfl])⟩
    ·right;exact LW hr a1 hc _
   ·by_cases hc:(Dy x (nmS gen) 0).2=0
    ·right;rw[a2 hc,if_pos rfl]
    ·left;rw[a3 hc];exact hg
 obtain⟨s1,s2,s3,s4⟩:=s0
 unfold agI
 generalize uj x (nmS gen)=y at s1 s2 s3 s4 ⊢
 have toB:∀z:ak,(∀n,n≠nmS gen->bW z.files n=bW x.files n)->(bW z.files (nmS gen)=bW x.files (nmS gen)\/∃f,bW z.files (nmS gen)=some f/\f.sure=0/\(f.data=[]\/f.data=w))->Wu D gen b w z:=fun z g1 g2=>
  ⟨fun n h1 h2 h3=>by rw[g1 n h3];exact hB.oth n h1 h2,by rw[g1 _ hne];exact hB.snap,g2.imp (fun g=>by rw[g,hsl]) id⟩
 have s4':bW y.1.files (nmS gen)=bW x.files (nmS gen)\/∃f,bW y.1.files (nmS gen)=some f/\f.sure=0/\(f.data=[]\/f.data=w):=s4.imp id fun g=>⟨_,g,rfl,.inl rfl⟩
 have s1':EY D y.1 (b.length+20) 2:=⟨s1.keep,s1.fuse,by have:=s1.used;omega,by have:=s1.long;omega⟩
 rcases s3 with ⟨g0,gw,gs⟩ | gb
 case inr=>
  rw[iH gb.ne,iH gb.ne]
  exact⟨s1',.inr ⟨.inr (toB _ s2 s4'),gb⟩⟩
 rw[then_ok (p:=y) g0]
 have hyu:UpD y.1:=⟨s1.keep.right,gw⟩
 have hold:(bW y.1.files (nmS gen)).getD ⟨nmS gen,[],0⟩=⟨nmS gen,[],0⟩:=by
  rcases gs with g | g<;>rw[g]<;>rfl
 rcases Tt (b:=w) hyu hnm with ⟨a1,a2,a3⟩ | ⟨a1,a2,a3,a4⟩
 ·rw[iH (by rw[a1];decide)]
  refine⟨by rw[a2];exact s1',.inr ⟨.inr (by rw[a2];exact toB _ s2 s4'),.inl ⟨a1,?_⟩⟩⟩
  have:=s1.used;have:=s1.long;have:=s1.keep.room
  rcases a3 with g | ⟨-, g⟩
  ·left;omega
  ·right;omega
 rw[hold]at a2
 simp only[List.nil_append]at a2
 have t1:EY D (fK y.1 (nmS gen) w).1 (b.length+20) 2:=s1.pow a1 (by have:=s1.used;omega) (by have:=s1.long;omega)
 have t2:∀n,n≠nmS gen->bW (fK y.1 (nmS gen) w).1.files n=bW x.files n:=fun n hn=>by rw[a2,if_neg hn];exact s2 n hn
 have t3:bW (fK y.1 (nmS gen) w).1.files (nmS gen)=some ⟨nmS gen,w,0⟩:=by rw[a2,if_pos rfl]
 by_cases hc:(fK y.1 (nmS gen) w).2=0
 case neg=>
  rw[iH hc]
  exact⟨t1,.inr ⟨.inr (toB _ t2 (.inr ⟨_,t3,rfl,.inr rfl⟩)),LW s1 a1 hc _⟩⟩
 rw[then_ok hc]
 have hzu:=a1.up hc
 obtain⟨b1,b2,b3,b4,b5⟩:=aam hzu hnm t3
 have u1:EY D (qU (fK y.1 (nmS gen) w).1 (nmS gen)).1 (b.length+20) 2:=t1.pow b1 (by have:=t1.used;omega) (by have:=t1.long;omega)
 refine⟨u1,?_⟩
 by_cases hc2:(qU (fK y.1 (nmS gen) w).1 (nmS gen)).2=0
 ·left
  refine⟨hc2,(b1.up hc2).up,⟨fun n h1 h2 h3=> ?_,?_,?_,fun n h1 h2=> .inr ?_,?_⟩⟩
  ·rw[b2 hc2,if_neg h2,t2 n h2]
   by_cases e:n=iL gen
   ·rw[e,Wy hG]at h3;unfold wB at hG;omega
   ·exact hB.oth n h1 e
  ·rw[b2 hc2,if_neg hne,t2 _ hne];exact hB.snap
  ·rw[b2 hc2,if_pos rfl]
  ·have hns:n≠nmS gen:=fun e=>h1 (by rw[e];exact ahZ gen)
   have hnt:n≠iM:=fun e=>h1 (by rw[e];exact ahO)
   rw[b2 hc2,if_neg hns,t2 n hns];exact hB.oth n hnt h2
  ·rw[b2 hc2,if_neg (Ne.symm (ad1 gen)),t2 _ (Ne.symm (ad1 gen))];exact hB.tmp
 ·right
  exact⟨.inr (toB _ (fun n hn=>by rw[b3 hc2];exact t2 n hn) (.inr ⟨_,by rw[b3 hc2];exact t3,rfl,.inr rfl⟩)),LW t1 b1 hc2 _⟩
theorem abD {l:List ay} {f:ay} (h:JH (f::l)):∀g∈l,g.name≠f.name:=fun g hg=>(O0 ((List.pairwise_cons.1 h).1 g hg)).symm
theorem get_mem {l:List ay} (h:JH l) {f:ay} (hf:f∈l):bW l f.name=some f:=by
 induction l with
 |nil=>cases hf
 |cons g l ih=>
  rw[oL]
  rcases List.mem_cons.1 hf with rfl | hf
  ·rw[if_pos rfl]
  ·rw[if_neg (fun e=>abD h f hf e.symm)]
   exact ih (List.pairwise_cons.1 h).2 hf
theorem RI {D:ak} {gen:Int} {b w:List Int} {M K:Nat} (hG:wB gen):∀(l:List ay) (p:ak×Int),JH l->(∀f∈l,jY f.name)->EY D p.1 M K->p.2=0->p.1.down=false->LU D gen b w p.1->
 (∀f∈l,CQ zA f.name≠0->f.name≠iL gen->bW p.1.files f.name≠none)->
 EY D (og gen p l).1 M K/\LU D gen b w (og gen p l).1/\
 (((og gen p l).2=0/\(og gen p l).1.down=false/\(∀f∈l,CQ zA f.name≠0->f.name≠iL gen->bW (og gen p l).1.files f.name=none)/\(∀n,bW p.1.files n=none->bW (og gen p l).1.files n=none))\/
  ((og gen p l).2=9/\D.fuse≠ -1))
 |[],p,_,_,hr,h0,hw,hC,_=>⟨hr,hC,.inl ⟨h0,hw,fun f hf=>(by cases hf),fun n h=>h⟩⟩
 |f::l,p,ha,hn,hr,h0,hw,hC,hp=>by
  rw[agC]
  have hal:=(List.pairwise_cons.1 ha).2
  have hnl:∀g∈l,jY g.name:=fun g hg=>hn g (List.mem_cons_of_mem _ hg)
  by_cases hs:CQ zA f.name≠0/\f.name≠iL gen
  case neg=>
   have e:DY gen p f=p:=by unfold DY;rw[if_neg hs]
   rw[e]
   obtain⟨g1,g2,g3⟩:=RI hG l p hal hnl hr h0 hw hC (fun g hg=>hp g (List.mem_cons_of_mem _ hg))
   refine⟨g1,g2,g3.imp (fun⟨q1,q2,q3,q4⟩=>⟨q1,q2,fun g hg h1 h2=> ?_,q4⟩) id⟩
   rcases List.mem_cons.1 hg with rfl | hg
   ·exact absurd ⟨h1,h2⟩ hs
   ·exact q3 g hg h1 h2
  have hu:UpD p.1:=⟨hr.keep.right,hw⟩
  have hne:=hp f (List.mem_cons_self ..) hs.1 hs.2
  obtain⟨k,hk⟩:∃k,bW p.1.files f.name=some k:=by
   cases h:bW p.1.files f.name with
   |none=>exact absurd h hne
   |some k=>exact⟨k,rfl⟩
  obtain⟨a1,a2,a3,a4,a5⟩:=UQ hu (hn f (List.mem_cons_self ..)) hk
  have e:DY gen p f=kS p.1 f.name:=by unfold DY;rw[if_pos hs,then_ok h0]
  rw[e]
  have hr1:EY D (kS p.1 f.name).1 M K:=hr.pow a1 (by have:=hr.used;omega) (by have:=hr.long;omega)
  have hf0:f.name≠iM:=fun g=>hs.1 (by rw[g];exact ahO)
  have hfS:f.name≠nmS gen:=fun g=>hs.1 (by rw[g];exact ahZ gen)
  by_cases hc:(kS p.1 f.name).2=0
  ·have get:=a2 hc
   have hC1:LU D gen b w (kS p.1 f.name).1:=by
    refine⟨fun n h1 h2 h3=> ?_,?_,?_,fun n h1 h2=> ?_,?_⟩
    ·rw[get,if_neg (fun g=>hs.1 (by rw[<-g];exact h3))];exact hC.oth n h1 h2 h3
    ·rw[get,if_neg (Ne.symm hs.2)];exact hC.snap
    ·rw[get,if_neg (Ne.symm hfS)];exact hC.slot
    ·rw[get];split
     ·exact .inl rfl
     ·exact hC.olds n h1 h2
    ·rw[get,if_neg (Ne.symm hf0)];exact hC.tmp
   obtain⟨g1,g2,g3⟩:=RI hG l (kS p.1 f.name) hal hnl hr1 hc (a1.up hc).up hC1 (fun g hg h1 h2=>by
    rw[get,if_neg (abD ha g hg)]
    exact hp g (List.mem_cons_of_mem _ hg) h1 h2)
   refine⟨g1,g2,g3.imp (fun⟨q1,q2,q3,q4⟩=>⟨q1,q2,fun g hg h1 h2=> ?_,fun n hn2=>q4 n ?_⟩) id⟩
   ·rcases List.mem_cons.1 hg with rfl | hg
    ·exact q4 _ (by rw[get,if_pos rfl])
    ·exact q3 g hg h1 h2
   ·rw[get];split
    ·rfl
    ·exact hn2
  ·rw[VG hc]
   have get:=a3 hc
   refine⟨hr1,?_,.inr ?_⟩
   ·exact⟨fun n h1 h2 h3=>by rw[get];exact hC.oth n h1 h2 h3,by rw[get];exact hC.snap,by rw[get];exact hC.slot,fun n h1 h2=>by rw[get];exact hC.olds n h1 h2,by rw[get];exact hC.tmp⟩
   ·rcases a1.cases with g | ⟨g,-, g2⟩
    ·exact absurd g hc
    ·exact⟨g,fun hf=>g2 (hr.fuse hf)⟩
structure ak6 (D:ak) (gen:Int) (b w:List Int) (r:ak×Int×Int):Prop where
 run:EY D r.1 (b.length+20) 2
 how:(r.2.2=0/\r.2.1=gen/\r.1.down=false/\LU D gen b w r.1/\∀n,CQ zA n≠0->n≠iL gen->bW r.1.files n=none)\/
  (r.2.1=0/\SG D b.length r.2.2/\(D5 D r.1\/Wu D gen b w r.1\/LU D gen b w r.1))
theorem agj {D:ak} {s:ai} (hD:UpD D) (hs:gu s) (hg:(eF D).1.gen<1000000000) (hl:0<=s.lsn/\s.lsn<=1000000000):
 ak6 D ((eF D).1.gen+1) (encZ s) (nR ⟨(eF D).1.gen+1,s.lsn⟩) (sG D s):=by
 have hgr:=Qi D
 obtain⟨q1,q2⟩:=yh hD.right hD.up
 have hn1:(eF D).2≠1:=by rcases q2 with ⟨g, -⟩ | ⟨g, -⟩<;>rw[g]<;>decide
 have hn9:(eF D).2≠9:=by rcases q2 with ⟨g, -⟩ | ⟨g, -⟩<;>rw[g]<;>decide
 have hsave:sG D s=aaL ((eF D).1.gen+1) (og ((eF D).1.gen+1) (Ae D ((eF D).1.gen+1) s.lsn (encZ s)) (Ae D ((eF D).1.gen+1) s.lsn (encZ s)).1.files):=by
  unfold sG
  rw[if_neg (fun g=>g.elim (fun g=>g hs) hn1),if_neg hn9,if_neg (by omega)]
 rw[hsave]
 have hG:wB ((eF D).1.gen+1):=⟨by omega,by omega⟩
 have hsl:yY ⟨(eF D).1.gen+1,s.lsn⟩:=⟨hG.1,hG.2,hl.1,hl.2⟩
 have w0:=aqe hD (encZ s).length
 have w1:=aqo (b:=encZ s) w0.1 w0.2.1 w0.2.2
 have w2:=aqk w1.1 w1.2.1 w1.2.2
 have w3:=walk3 hG w2.1 w2.2.1 w2.2.2
 have w4:=walk4 hD hG hsl rfl w3.1 w3.2
 change EY D (Ae D ((eF D).1.gen+1) s.lsn (encZ s)).1 _ _/\(((Ae D ((eF D).1.gen+1) s.lsn (encZ s)).2=0/\(Ae D ((eF D).1.gen+1) s.lsn (encZ s)).1.down=false/\LU D _ _ _ (Ae D ((eF D).1.gen+1) s.lsn (encZ s)).1)\/((D5 D (Ae D ((eF D).1.gen+1) s.lsn (encZ s)).1\/Wu D _ _ _ (Ae D ((eF D).1.gen+1) s.lsn (encZ s)).1)/\SG D _ (Ae D ((eF D).1.gen+1) s.lsn (encZ s)).2))at w4
 generalize (eF D).1.gen+1=gen at hG w4 ⊢
 generalize Ae D gen s.lsn (encZ s)=p at w4 ⊢
 generalize encZ s=b at w4 ⊢
 obtain⟨hr,hc⟩:=w4
 rcases hc with ⟨h0,hw,hC⟩ | ⟨hAB,hb⟩
 case inr=>
  rw[VG hb.ne]
  unfold aaL
  rw[if_pos hb.ne]
  exact⟨hr,.inr ⟨rfl,hb,hAB.imp id .inl⟩⟩
 obtain⟨g1,g2,g3⟩:=RI hG p.1.files p hr.keep.right.asc (fun f hf=>(hr.keep.right.2.1.1 f hf).1) hr h0 hw hC (fun f hf _ _=>by rw[get_mem hr.keep.right.asc hf];intro e;cases e)
 generalize hq:og gen p p.1.files=q at g1 g2 g3 ⊢
 rcases g3 with ⟨k1,k2,k3,k4⟩ | ⟨k1,k2⟩
 ·unfold aaL
  rw[if_neg (fun g=>g k1)]
  refine⟨g1,.inl ⟨rfl,rfl,k2,g2,fun n h1 h2=> ?_⟩⟩
  show bW q.1.files n=none
  cases hp:bW p.1.files n with
  |none=>exact k4 n hp
  |some f=>
   obtain⟨m1,m2⟩:=Kv hp
   have:=k3 f m1 (by rw[m2];exact h1) (by rw[m2];exact h2)
   rwa[m2]at this
 ·unfold aaL
  rw[if_pos (by rw[k1];decide)]
  exact⟨g1,.inr ⟨rfl,.inr ⟨k1,k2⟩,.inr (.inr g2)⟩⟩
theorem ZM:∀(l:List ay) (F:Nat->ay->ay),(∀i f,(F i f).name=f.name)->∀n,(bW l n=none->bW (l.mapIdx F) n=none)/\∀k,bW l n=some k->∃i,bW (l.mapIdx F) n=some (F i k)
 |[],F,hF,n=>⟨fun _=>rfl,fun k h=>by cases h⟩
 |g::l,F,hF,n=>by
  rw[List.mapIdx_cons,oL,oL,hF 0 g]
  have ih:=ZM l (fun i=>F (i+1)) (fun i f=>hF (i+1) f) n
  by_cases h:g.name=n
  ·rw[if_pos h,if_pos h]
   exact⟨fun e=>(by cases e),fun k e=>⟨0,by rw[<-Option.some.inj e]⟩⟩
  ·rw[if_neg h,if_neg h]
   exact⟨ih.1,fun k e=>by obtain⟨i,hi⟩:=ih.2 k e;exact⟨i+1,hi⟩⟩
theorem Xq:∀(l:List ay) (F:Nat->ay->ay),(∀i,∀f∈l,(F i f).data.length<=f.data.length)->fP (l.mapIdx F)<=fP l
 |[],F,_=>Nat.le_refl _
 |g::l,F,h=>by
  rw[List.mapIdx_cons,DU,DU]
  have:=Xq l (fun i=>F (i+1)) (fun i f hf=>h (i+1) f (List.mem_cons_of_mem _ hf))
  have:=h 0 g (List.mem_cons_self ..)
  omega
theorem agN {l:List ay} {F:Nat->ay->ay} (hF:∀i f,(F i f).name=f.name) (h:JH l):JH (l.mapIdx F):=by
 unfold JH at h ⊢
 rw[List.pairwise_iff_getElem]at h ⊢
 intro i j hi hj hij
 rw[List.length_mapIdx]at hi hj
 rw[List.getElem_mapIdx,List.getElem_mapIdx,hF,hF]
 exact h i j hi hj hij
theorem Yq {f:ay} (h:okF f) (k:Int):∃m:Nat,f.sure<=(m:Int)/\m<=f.data.length/\Ez f k=⟨f.name,f.data.take m,(m:Int)⟩:=by
 have g:=aio h.2.1 h.2.2 k
 refine⟨(f.sure+jF (imax k 0) (len f.data - f.sure)).toNat,by have:=h.2.1;omega,by simp only[len]at g ⊢; omega,?_⟩
 unfold Ez
 have e:(((f.sure+jF (imax k 0) (len f.data - f.sure)).toNat:Nat):Int)=f.sure+jF (imax k 0) (len f.data - f.sure):=by have:=h.2.1;omega
 rw[e]
structure Ro (D:ak):Prop where
 up:UpD D
 sure:∀n f,bW D.files n=some f->f.sure=len f.data
structure Nw (x b:ak) (fuse:Int):Prop where
 base:Ro b
 fz:b.fuse=fuse
 room:b.room=x.room
 non:∀n,bW x.files n=none->bW b.files n=none
 som:∀n k,bW x.files n=some k->∃m:Nat,k.sure<=(m:Int)/\m<=k.data.length/\bW b.files n=some ⟨n,k.data.take m,(m:Int)⟩
 used:fP b.files<=fP x.files
 long:b.files.length=x.files.length
theorem aof {x:ak} {keep:List Int} {fuse:Int} (h:jo x) (hf: -1<=fuse):(TG x keep fuse).2=0/\Nw x (TG x keep fuse).1 fuse:=by
 unfold TG
 rw[if_pos ⟨h,hf⟩]
 refine⟨rfl,?_⟩
 have hF:∀(i:Nat) (f:ay),(Ez f (CY keep i)).name=f.name:=fun i f=>rfl
 have hget:=fun n=>ZM x.files (fun i f=>Ez f (CY keep i)) hF n
 have hs:∀n k,bW x.files n=some k->∃m:Nat,k.sure<=(m:Int)/\m<=k.data.length/\bW (x.files.mapIdx fun i f=>Ez f (CY keep i)) n=some ⟨n,k.data.take m,(m:Int)⟩:=fun n k hk=>by
  obtain⟨i,hi⟩:=(hget n).2 k hk
  obtain⟨hok,hn⟩:=YG h hk
  obtain⟨m,m1,m2,m3⟩:=Yq hok (CY keep i)
  exact⟨m,m1,m2,by rw[hi,m3,hn]⟩
 have hmem:∀f∈(x.files.mapIdx fun i f=>Ez f (CY keep i)),∃k∈x.files,∃i,f=Ez k (CY keep i):=fun f hf=>by
  obtain⟨i,hi,rfl⟩:=List.mem_iff_getElem.1 hf
  rw[List.length_mapIdx]at hi
  rw[List.getElem_mapIdx]
  exact⟨_,List.getElem_mem hi,i,rfl⟩
 have hu:=Xq x.files (fun i f=>Ez f (CY keep i)) (fun i f hf=>by
  obtain⟨m,m1,m2,m3⟩:=Yq (h.2.1.1 f hf) (CY keep i)
  rw[m3];simp only[List.length_take];omega)
 have hr:jo ⟨x.files.mapIdx fun i f=>Ez f (CY keep i),x.room,fuse,false⟩:=by
  have h1:=h.1
  refine⟨⟨h1.1,h1.2.1,hf,by simp only[List.length_mapIdx];exact h1.2.2.2⟩,⟨fun f hfm=> ?_,agN hF h.asc⟩,?_⟩
  ·obtain⟨k,hk,i,rfl⟩:=hmem f hfm
   obtain⟨m,m1,m2,m3⟩:=Yq (h.2.1.1 k hk) (CY keep i)
   rw[m3]
   exact⟨(h.2.1.1 k hk).1,by simp only;omega,by simp only[len,List.length_take];omega⟩
  ·have:=h.2.2;simp only;omega
 refine⟨⟨⟨hr,rfl⟩,fun n f hg=> ?_⟩,rfl,rfl,fun n hn=>(hget n).1 hn,hs,hu,by simp only[List.length_mapIdx]⟩
 cases hx:bW x.files n with
 |none=>rw[(hget n).1 hx]at hg;cases hg
 |some k=>
  obtain⟨m,m1,m2,m3⟩:=hs n k hx
  rw[m3]at hg
  rw[<-Option.some.inj hg]
  simp only[len,List.length_take];omega
theorem ake {x:ak} {keep:List Int} {fuse:Int} (h:jP x):jP (TG x keep fuse).1:=by
 unfold TG
 split
 ·intro f hf
  obtain⟨i,hi,rfl⟩:=List.mem_iff_getElem.1 hf
  simp only[List.length_mapIdx]at hi
  simp only[List.getElem_mapIdx]
  exact(h _ (List.getElem_mem hi)).take _
 ·exact h
theorem Nw.ct {x b:ak} {fuse:Int} (h:Nw x b fuse) {n:Nm} (hs:∀k,bW x.files n=some k->k.sure=len k.data):ctF b.files n=ctF x.files n:=by
 unfold ctF
 cases hx:bW x.files n with
 |none=>rw[h.non n hx]
 |some k=>
  obtain⟨m,m1,m2,m3⟩:=h.som n k hx
  rw[m3]
  have:=hs k hx
  simp only[len]at this
  have e:m=k.data.length:=by omega
  simp only[e,List.take_length]
theorem ak9 {s:dM} (h:yY s):slD (nR s)=(s,0):=by
 have h16:(nR s).take 16=oU s:=by unfold nR;rw[List.take_append_of_le_length (by rw[Lj];exact Nat.le_refl _),List.take_of_length_le (by rw[Lj];exact Nat.le_refl _)]
 have hd:(nR s).drop 16=qV (xA (oU s)):=by unfold nR;rw[List.drop_append_of_le_length (by rw[Lj];exact Nat.le_refl _),List.drop_eq_nil_of_le (by rw[Lj];exact Nat.le_refl _),List.nil_append]
 have e:atS (nR s)=s:=by
  unfold atS at8
  have t1:((nR s).drop 0).take 8=tq s.gen 8:=by
   unfold nR oU
   rw[List.drop_zero,List.append_assoc,List.take_append_of_le_length (by rw[rW];exact Nat.le_refl _),List.take_of_length_le (by rw[rW];exact Nat.le_refl _)]
  have t2:((nR s).drop 8).take 8=tq s.lsn 8:=by
   unfold nR oU
   rw[List.append_assoc,List.drop_append_of_le_length (by rw[rW];exact Nat.le_refl _),List.drop_eq_nil_of_le (by rw[rW];exact Nat.le_refl _),List.nil_append,List.take_append_of_le_length (by rw[rW];exact Nat.le_refl _),List.take_of_length_le (by rw[rW];exact Nat.le_refl _)]
  obtain⟨h1,h2,h3,h4⟩:=h
  rw[t1,t2,aii ⟨by omega,by omega⟩,aii ⟨by omega,by omega⟩]
 unfold slD
 rw[if_neg (fun g=>g (Gv s)),h16,hd,if_neg (fun g=>g rfl),e,if_pos h]
theorem acN {b:List Int} (h:b.length≠20):(slD b).2≠0:=by unfold slD;rw[if_pos h];decide
theorem aeW {best:dM} {p:Int} {c:List Int} (h:(slD c).2≠0):oN best p c=best:=by unfold oN;rw[if_neg (fun g=>h g.1)]
theorem aem (best:dM) (p:Int) (c:List Int):best.gen<=(oN best p c).gen:=by
 unfold oN;split
 ·rename_i h;omega
 ·exact Int.le_refl _
theorem ajq (c:List Int):(oN ⟨0,0⟩ 0 c).gen%2=0:=by
 unfold oN;split
 ·rename_i h;exact h.2.1
 ·rfl
theorem ajC {c0 c0' c1:List Int} (h:(sF c0 c1).gen%2=1) (hc:(slD c0').2≠0):sF c0' c1=sF c0 c1:=by
 unfold sF at h ⊢
 rw[aeW hc]
 have p0:=ajq c0
 have g0:=aem ⟨0,0⟩ 0 c0
 generalize oN ⟨0,0⟩ 0 c0=s0 at h p0 g0 ⊢
 unfold oN at h ⊢
 split at h
 ·rename_i k
  rw[if_pos k,if_pos ⟨k.1,k.2.1,by have:=k.2.2;simp only at g0 ⊢; omega⟩]
 ·rw[h]at p0;exact absurd p0 (by decide)
theorem akS {c0 c1 c1':List Int} (h:(sF c0 c1).gen%2=0) (hc:(slD c1').2≠0):sF c0 c1'=sF c0 c1:=by
 unfold sF at h ⊢
 rw[aeW hc]
 generalize oN ⟨0,0⟩ 0 c0=s0 at h ⊢
 unfold oN at h ⊢
 split
 ·rename_i k
  rw[if_pos k,k.2.1]at h;exact absurd h (by decide)
 ·rfl
theorem aj1 (c0 c1:List Int) (h:(slD c1).2=0/\(slD c1).1.gen%2=1):(slD c1).1.gen<=(sF c0 c1).gen:=by
 unfold sF
 generalize oN ⟨0,0⟩ 0 c0=s0
 unfold oN
 split
 ·exact Int.le_refl _
 ·rename_i k
  by_cases e:s0.gen<(slD c1).1.gen
  ·exact absurd ⟨h.1,h.2,e⟩ k
  ·omega
theorem aaX {c0 c1 w:List Int} {s:dM} (hw:slD w=(s,0)) (hp:1<=s.gen) (h2:s.gen%2=0) (hlt:(sF c0 c1).gen<s.gen):sF w c1=s:=by
 have e0:oN ⟨0,0⟩ 0 w=s:=by unfold oN;rw[hw,if_pos ⟨rfl,h2,by simp only;omega⟩]
 unfold sF
 rw[e0]
 unfold oN
 rw[if_neg]
 rintro⟨g1,g2,g3⟩
 have:=aj1 c0 c1 ⟨g1,g2⟩
 omega
theorem acT {c0 c1 w:List Int} {s:dM} (hw:slD w=(s,0)) (h2:s.gen%2=1) (hlt:(sF c0 c1).gen<s.gen):sF c0 w=s:=by
 have g:=aem (oN ⟨0,0⟩ 0 c0) 1 c1
 unfold sF at hlt ⊢
 generalize oN ⟨0,0⟩ 0 c0=s0 at g hlt ⊢
 unfold oN at hlt g ⊢
 rw[hw,if_pos ⟨rfl,h2,by simp only;omega⟩]
theorem MP {b:ak} (h:UpD b):ql b=if (jh b.files).gen=0 then (zS,0,7)else WG (ctF b.files (iL (jh b.files).gen)) (jh b.files):=by
 obtain⟨h1,h2⟩:=yh h.right h.up
 unfold ql
 rcases h2 with ⟨g,e⟩ | ⟨g,e⟩
 ·rw[g,if_pos (by decide),if_pos e]
 ·rw[g,if_neg (by decide),h1,if_neg (by omega)]
theorem ac0 {D b:ak} (hD:UpD D) (hb:UpD b) (hs:jh b.files=jh D.files) (hc:(jh D.files).gen≠0->ctF b.files (iL (jh D.files).gen)=ctF D.files (iL (jh D.files).gen)):ql b=ql D:=by
 rw[MP hb,MP hD,hs]
 by_cases h:(jh D.files).gen=0
 ·rw[if_pos h,if_pos h]
 ·rw[if_neg h,if_neg h,hc h]
theorem aff {b:ak} {s:ai} {gen:Int} (hb:UpD b) (hr:iF s) (hs:gu s) (hl:(encZ s).length<99999) (hz:jh b.files=⟨gen,s.lsn⟩) (hG:wB gen) (hc:ctF b.files (iL gen)=encZ s):ql b=(s,gen,0):=by
 rw[MP hb,hz,if_neg (by simp only;unfold wB at hG;omega)]
 simp only
 rw[hc]
 unfold WG
 rw[ak1 hr hs hl,if_pos ⟨rfl,rfl⟩]
theorem aqm {l k:List ay} {n:Nm} (h:bW l n=bW k n):ctF l n=ctF k n:=by unfold ctF;rw[h]
theorem Nw.same {D x b:ak} {fuse:Int} (hb:Nw x b fuse) (hD:Ro D) {n:Nm} (h:bW x.files n=bW D.files n):ctF b.files n=ctF D.files n:=by
 rw[hb.ct (fun k hk=>hD.sure n k (by rw[<-h];exact hk)),aqm h]
theorem Nw.full {x b:ak} {fuse:Int} (hb:Nw x b fuse) {n:Nm} {c:List Int} (h:bW x.files n=some ⟨n,c,len c⟩):ctF b.files n=c:=by
 rw[hb.ct (fun k hk=>by rw[h]at hk;rw[<-Option.some.inj hk])]
 unfold ctF;rw[h]
theorem akv {D x b:ak} {fuse:Int} (hD:Ro D) (hA:D5 D x) (hb:Nw x b fuse):ql b=ql D:=by
 have c:∀n,n≠iM->ctF b.files n=ctF D.files n:=fun n hn=>hb.same hD (hA.oth n hn)
 refine ac0 hD.up hb.base.up ?_ fun hne=> ?_
 ·unfold jh;rw[c _ (Ne.symm ahv),c _ (Ne.symm ahr)]
 ·by_cases hg:wB (jh D.files).gen
  ·exact c _ (Jv hg (by decide))
  ·have:=J7 (ctF D.files n0) (ctF D.files n1)
   exact absurd ⟨by unfold jh at hne ⊢; omega,by unfold jh;exact this.2⟩ hg
theorem abx {D b:ak} {gen lsn:Int} (hs:yY ⟨gen,lsn⟩) (hgen:gen=(jh D.files).gen+1) (ho:∀n,n=n0\/n=n1->n≠nmS gen->ctF b.files n=ctF D.files n) (hw:ctF b.files (nmS gen)=nR ⟨gen,lsn⟩):jh b.files=⟨gen,lsn⟩:=by
 have hsl:=ak9 hs
 have hlt:(jh D.files).gen<gen:=by omega
 unfold jh at hlt ⊢
 unfold nmS at ho hw
 by_cases he:gen%2=0
 ·rw[if_pos he]at ho hw
  rw[hw,ho n1 (.inr rfl) (Ne.symm (O0 n01))]
  exact aaX (c0:=ctF D.files n0) hsl hs.1 he hlt
 ·rw[if_neg he]at ho hw
  rw[hw,ho n0 (.inl rfl) (O0 n01)]
  exact acT (c1:=ctF D.files n1) hsl (by simp only;omega) hlt
theorem ajG {D b:ak} {gen:Int} (hgen:gen=(jh D.files).gen+1) (ho:∀n,n=n0\/n=n1->n≠nmS gen->ctF b.files n=ctF D.files n) (hw:ctF b.files (nmS gen)=ctF D.files (nmS gen)\/(slD (ctF b.files (nmS gen))).2≠0):jh b.files=jh D.files:=by
 unfold jh at hgen ⊢
 unfold nmS at ho hw
 by_cases he:gen%2=0
 ·rw[if_pos he]at ho hw
  rw[ho n1 (.inr rfl) (Ne.symm (O0 n01))]
  rcases hw with g | g
  ·rw[g]
  ·exact ajC (by omega) g
 ·rw[if_neg he]at ho hw
  rw[ho n0 (.inl rfl) (O0 n01)]
  rcases hw with g | g
  ·rw[g]
  ·exact akS (by omega) g
structure ag3 (D:ak) (s:ai) (gen:Int):Prop where
 base:Ro D
 ok:iF s
 right:gu s
 short:(encZ s).length<99999
 gn:wB gen
 next:gen=(jh D.files).gen+1
theorem ag3.slot {D:ak} {s:ai} {gen:Int} (h:ag3 D s gen):yY ⟨gen,s.lsn⟩:=⟨h.gn.1,h.gn.2,h.right.fine.lsn.1,h.right.fine.lsn.2⟩
theorem ahL {gen:Int} (hG:wB gen) {n:Nm} (hn:n=n0\/n=n1):n≠iM/\n≠iL gen/\CQ zA n=0:=by
 rcases hn with rfl | rfl
 ·exact⟨Ne.symm ahv,Ne.symm (Jv hG (by decide)),alV⟩
 ·exact⟨Ne.symm ahr,Ne.symm (Jv hG (by decide)),amn⟩
theorem amg {D x b:ak} {s:ai} {gen fuse:Int} (h:ag3 D s gen) (hC:LU D gen (encZ s) (nR ⟨gen,s.lsn⟩) x) (hb:Nw x b fuse):ql b=(s,gen,0):=by
 refine aff hb.base.up h.ok h.right h.short ?_ h.gn (hb.full hC.snap)
 refine abx h.slot h.next (fun n hn hne=> ?_) (hb.full hC.slot)
 obtain⟨g1,g2,g3⟩:=ahL h.gn hn
 exact hb.same h.base (hC.oth n g1 hne g3)
theorem aoO {D x b:ak} {s:ai} {gen fuse:Int} (h:ag3 D s gen) (hB:Wu D gen (encZ s) (nR ⟨gen,s.lsn⟩) x) (hb:Nw x b fuse):ql b=ql D\/ql b=(s,gen,0):=by
 have ho:∀n,n=n0\/n=n1->n≠nmS gen->ctF b.files n=ctF D.files n:=fun n hn hne=>by
  obtain⟨g1,g2,g3⟩:=ahL h.gn hn
  exact hb.same h.base (hB.oth n g1 g2 hne)
 have hcase:(ctF b.files (nmS gen)=ctF D.files (nmS gen)\/(slD (ctF b.files (nmS gen))).2≠0)\/ctF b.files (nmS gen)=nR ⟨gen,s.lsn⟩:=by
  rcases hB.slot with g | ⟨f,g1,g2,g3⟩
  ·exact .inl (.inl (hb.same h.base g))
  ·obtain⟨m,m1,m2,m3⟩:=hb.som _ f g1
   have e:ctF b.files (nmS gen)=f.data.take m:=by unfold ctF;rw[m3]
   rw[e]
   rcases g3 with g3 | g3
   ·rw[g3];left;right;exact acN (by simp)
   ·rw[g3]at m2 ⊢
    rw[Gv]at m2
    by_cases hm:m=20
    ·right;rw[hm];exact List.take_of_length_le (by rw[Gv];exact Nat.le_refl _)
    ·left;right;exact acN (by rw[List.length_take,Gv];omega)
 rcases hcase with g | g
 ·left
  refine ac0 h.base.up hb.base.up (ajG h.next ho g) fun hne=> ?_
  have hgr:=J7 (ctF D.files n0) (ctF D.files n1)
  have hg:wB (jh D.files).gen:=⟨by unfold jh at hne ⊢; omega,by unfold jh;exact hgr.2⟩
  refine hb.same h.base (hB.oth _ (Jv hg (by decide)) ?_ (Jv hg (by rw[Yk];decide)))
  intro e
  have:=alY hg h.gn e
  have:=h.next
  omega
 ·right
  exact aff hb.base.up h.ok h.right h.short (abx h.slot h.next ho g) h.gn (hb.full hB.snap)
theorem amC {D x b:ak} {s:ai} {gen fuse:Int} (h:ag3 D s gen) (hx:D5 D x\/Wu D gen (encZ s) (nR ⟨gen,s.lsn⟩) x\/LU D gen (encZ s) (nR ⟨gen,s.lsn⟩) x) (hb:Nw x b fuse):ql b=ql D\/ql b=(s,gen,0):=by
 rcases hx with g | g | g
 ·exact .inl (akv h.base g hb)
 ·exact aoO h g hb
 ·exact .inr (amg h g hb)
theorem ajz {s:ai} (h:gu s):(encZ s).length<99999:=by
 have h1:=IG s
 have h2:=h.few
 omega
inductive afe (D:ak) (s:ai):Prop
 |over (h:sG D s=(D,0,3)) (hg:1000000000<=(eF D).1.gen)
 |new (gen:Int) (hn:ag3 D s gen) (h:ak6 D gen (encZ s) (nR ⟨gen,s.lsn⟩) (sG D s))
theorem akI {D:ak} {s:ai} (hD:Ro D) (hr:iF s) (hs:gu s):afe D s:=by
 obtain⟨q1,q2⟩:=yh hD.up.right hD.up.up
 have hgr:=Qi D
 by_cases hg:(eF D).1.gen<1000000000
 ·refine .new ((eF D).1.gen+1) ⟨hD,hr,hs,ajz hs,⟨by omega,by omega⟩,by rw[q1]⟩ (agj hD.up hs hg hs.fine.lsn)
 ·have hn1:(eF D).2≠1:=by rcases q2 with ⟨g, -⟩ | ⟨g, -⟩<;>rw[g]<;>decide
  have hn9:(eF D).2≠9:=by rcases q2 with ⟨g, -⟩ | ⟨g, -⟩<;>rw[g]<;>decide
  refine .over ?_ (by omega)
  unfold sG
  rw[if_neg (fun g=>g.elim (fun g=>g hs) hn1),if_neg hn9,if_pos (by omega)]
theorem afe.keep {D:ak} {s:ai} (hD:Ro D) (h:afe D s):Keep D (sG D s).1:=by
 cases h with
 |over h hg=>rw[h];exact Keep.refl hD.up.right
 |new gen hn h=>exact h.run.keep
theorem afe.load {D b:ak} {s:ai} {fuse:Int} (hD:Ro D) (h:afe D s) (hb:Nw (sG D s).1 b fuse):
 (ql b=ql D/\(sG D s).2.2≠0)\/(∃gen,ag3 D s gen/\ql b=(s,gen,0)/\((sG D s).2.1=0\/(sG D s).2.1=gen)/\((sG D s).2.2=0->(sG D s).2.1=gen)):=by
 cases h with
 |over h hg=>
  rw[h]at hb
  left
  exact⟨akv hD ⟨fun n _=>rfl⟩ hb,by rw[h];show ¬(3:Int)=0;decide⟩
 |new gen hn h=>
  rcases h.how with ⟨h1,h2,h3,h4,h5⟩ | ⟨h1,h2,h3⟩
  ·exact .inr ⟨gen,hn,amg hn h4 hb,.inr h2,fun _=>h2⟩
  ·rcases amC hn h3 hb with g | g
   ·exact .inl ⟨g,h2.ne⟩
   ·exact .inr ⟨gen,hn,g,.inl h1,fun e=>absurd e h2.ne⟩
theorem ajA {D:ak} {s:ai} (hb:jP D):jP (sG D s).1:=by
 unfold sG
 split
 ·exact hb
 ·split
  ·exact hb
  ·split
   ·exact hb
   ·have:=aae (gen:=(eF D).1.gen+1) (Ae D ((eF D).1.gen+1) s.lsn (encZ s)).1.files (agq (gen:=(eF D).1.gen+1) (lsn:=s.lsn) hb (A8 s))
    unfold aaL
    split<;>exact this
theorem ajZ {n m:Int} (h:inU n) (hm:m=12\/m=10):F5 (wr .i64 n) m=n%m/\0<=n%m/\n%m<=11:=by
 unfold inU at h
 rw[dI (by omega) (by omega)]
 unfold F5
 rw[Int.tmod_eq_emod_of_nonneg (by omega)]
 rcases hm with rfl | rfl<;>omega
def Nk (i:Nat):mQ:=⟨1,((i+1:Nat):Int),0,0,1,1,1,0,0,0,false,0,0⟩
def UX:dD:=⟨90,90,900⟩
noncomputable def wu:Nat->ai
 |0=>newS 1 2 UX 900
 |n+1=>(doS (wu n) (Nk n)).1
def akz:Nat->Option ai
 |0=>some (newS 1 2 UX 900)
 |n+1=>af (akz n) fun s=>af (I9 s (Nk n)) fun y=>cnd (ieq y.2 0) (some y.1) none
theorem aqA:(akz 12).isSome=true:=by kernel_rfl
structure GoodS (s:ai):Prop where
 ok:iF s
 right:gu s
 short:xQ s
 acc:s.accounts=1
 sym:s.symbols=2
theorem ap7:GoodS (wu 0):=by
 have hd:V7 1 2:=by unfold V7;decide
 have he:MX UX:=⟨by show inI 90;decide,by show inI 90;decide,by show inI 900;decide⟩
 have h:=akM hd he (show inI 900 by decide)
 exact⟨h.1,(abG hd UX 900).2 ⟨by unfold OE UX;decide,by decide⟩,h.2,rfl,rfl⟩
theorem agu {i:Nat} (h:i<1000):Jc (Nk i):=by
 have h0:inI 0:=by decide
 have h1:inI 1:=by decide
 constructor<;>first | exact h0 | exact h1 | (show inI ((i+1:Nat):Int);unfold inI;omega)
theorem acd {i:Nat} (h:i<1000) (g:GoodS (wu i)) (h0:(doS (wu i) (Nk i)).2=0):GoodS (wu (i+1)):=by
 have q:=aoF (wu i) (Nk i)
 obtain⟨_,_,_,_,h1,h2,_⟩:=q.good h0
 exact⟨q.rng g.ok (agu h),aiY g.right g.ok (agu h),ai4 g.short _,by rw[wu,h1];exact g.acc,by rw[wu,h2];exact g.sym⟩
theorem akw {i:Nat} (h:i<1000) (g:GoodS (wu i)):wI (wu i) (Nk i)=some (doS (wu i) (Nk i)):=
 ajs g.ok (agu h) g.short.1 g.short.2.2.1 g.short.2.2.2
theorem ahC:∀n,n<=900->∀s,akz n=some s->s=wu n/\GoodS (wu n)/\∀i,i<n->(doS (wu i) (Nk i)).2=0/\GoodS (wu i)
 |0,_,s,h=>⟨(Option.some.inj h).symm,ap7,fun i hi=>by omega⟩
 |n+1,hn,s,h=>by
  rw[akz]at h
  cases hc:akz n with
  |none=>rw[hc,anC]at h;cases h
  |some t=>
   obtain⟨rfl,g,hall⟩:=ahC n (by omega) t hc
   rw[hc,aj,<-Ol,akw (by omega) g,aj,kQ]at h
   by_cases h0:(doS (wu n) (Nk n)).2=0
   ·rw[if_pos h0]at h
    refine⟨(Option.some.inj h).symm,acd (by omega) g h0,fun i hi=> ?_⟩
    by_cases e:i=n
    ·subst e;exact⟨h0,g⟩
    ·exact hall i (by omega)
   ·rw[if_neg h0]at h;cases h
theorem anQ:∀i,i<12->(doS (wu i) (Nk i)).2=0/\GoodS (wu i)/\GoodS (wu (i+1)):=by
 obtain⟨s,hs⟩:=Option.isSome_iff_exists.1 aqA
 obtain⟨-, -, h⟩:=ahC 12 (by decide) s hs
 intro i hi
 exact⟨(h i hi).1,(h i hi).2,acd (by omega) (h i hi).2 (h i hi).1⟩
theorem amK {i:Nat} (g:GoodS (wu i)):(encZ (wu i)).length+20<=4032:=by
 have h1:=IG (wu i)
 obtain⟨f1,f2,f3,f4,f5,f6⟩:=g.right.few
 rw[g.acc]at f4 f5 f6
 rw[g.sym]at f6
 have:(1:Int).toNat=1:=rfl
 omega
structure AtS (d:ak) (was:ai) (gen:Int) (i:Nat):Prop where
 base:Ro d
 byte:jP d
 room:d.room=65536
 used:fP d.files<=4032*i
 long:d.files.length<=2*i
 load:ql d=(was,gen,(ql d).2.2)
 err:(ql d).2.2=0\/((ql d).2.2=7/\gen=0)
 gn:gen=(jh d.files).gen
 few:gen<=i
theorem aj8 {d:ak} {f:Int} (h:Ro d) (hf: -1<=f):Ro ⟨d.files,d.room,f,d.down⟩:=by
 have h1:=h.up.right.1
 exact⟨⟨⟨⟨h1.1,h1.2.1,hf,h1.2.2.2⟩,h.up.right.2.1,h.up.right.2.2⟩,h.up.up⟩,h.sure⟩
end Go.Av
