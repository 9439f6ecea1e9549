/- The plain law, part 1. No condition. -/
import Derived.Test.YtcodkbclgbcehaaGreatDoorPGateStays0
import Derived.KernelRfl
set_option linter.unusedVariables false
set_option linter.unusedSimpArgs false
set_option linter.unnecessarySimpa false
namespace Go.Av
open Go
theorem air {l:List aA} {i:Nat} (h:i<l.length) (hl:l.length<999999):dR l (i:Int) ((i+1:Nat):Int)=some (l.eraseIdx i):=by
 unfold dR
 have hdl:(l.drop (i+1)).length=l.length - (i+1):=List.length_drop ..
 rw[adh l i h,uY,adS l i h,acY,afI]
 have hlc:=ZY l i (l.drop (i+1)) (by omega)
 rw[aH (by simp only[aZ,bY,len];omega),fC,if_neg (by omega),aH (by simp only[aZ,bY,len];omega),aH (by simp only[aZ,bY,len];omega),aH (by simp only[au,nti,bY,len];omega),
  aH (by simp only[aZ,bY,len,aB,nti,hlc];omega)]
 congr 1
 exact cut_out l _ i h
theorem adl {l:List Oz} (hl:l.length<1000) (hs:(l.flatMap (·.all)).length<1000000):jP l=some (l.flatMap (·.all)):=by
 have tk:∀ {i:Nat} (h:i<l.length),((l.take (i+1)).flatMap (·.all))=((l.take i).flatMap (·.all))++l[i].all:=fun h=>by
  rw[kQ h,List.flatMap_append];simp
 have le:∀i:Nat,((l.take i).flatMap (·.all)).length<=(l.flatMap (·.all)).length:=fun i=>by
  have:(l.flatMap (·.all))=((l.take i).flatMap (·.all))++((l.drop i).flatMap (·.all)):=by rw[<-List.flatMap_append,List.take_append_drop]
  rw[this,List.length_append];omega
 have loop2:∀x:List Int,x=[]->Wq (bM (fun v:Int×List Int=>jl (len l) l v.1 v.2) LF (0,x)) fun w=>w=l.flatMap (·.all):=by
  rintro _ rfl
  refine lZ (n:=l.length) (by omega) (fun i x=>x=(l.take i).flatMap (·.all)) _ ?_ ?_ [] 0 (Nat.zero_le _) (by simp)
  ·rintro i x hi rfl
   simp only[jl]
   have:=le (i+1)
   rw[tk hi]at this
   rw[aH (by rw[ig];simpa using hi),aH (inb _ i hi),bQ _ i hi,aH (jG (by simp only[len,dB];omega)),ak]
   exact⟨eu (by omega),(tk hi).symm⟩
  ·rintro x rfl
   simp only[jl]
   rw[dH (Nb _),ak,List.take_length]
 refine Wq.eq ?_
 unfold jP
 refine Wq.bind (lZ (n:=l.length) (step:=fun v:Int×Int=>kW (len l) l v.1 v.2) (by omega) (fun i x=>x=(((l.take i).flatMap (·.all)).length:Int)) (fun w=>w=((l.flatMap (·.all)).length:Int)) ?_ ?_ 0 0 (Nat.zero_le _) (by simp)) ?_
 ·rintro i x hi rfl
  simp only[kW]
  have h1:=le (i+1)
  rw[tk hi,List.length_append]at h1
  have e:wr .i64 (au (((l.take i).flatMap (·.all)).length:Int) (len l[i].all))=(((l.take (i+1)).flatMap (·.all)).length:Int):=by
   rw[tk hi,List.length_append,au,bU (by simp only[len];omega) (by simp only[len];omega)];simp only[len];omega
  rw[aH (by rw[ig];simpa using hi),aH (inb _ i hi),bQ _ i hi,e,dH (Bv (by omega)),ak]
  exact⟨eu (by omega),rfl⟩
 ·rintro x rfl
  simp only[kW]
  rw[dH (Nb _),ak,List.take_length]
 ·rintro w rfl
  have e:wr .i64 (aB ((l.flatMap (·.all)).length:Int) 0)=((l.flatMap (·.all)).length:Int):=by rw[aB,bU (by omega) (by omega)];omega
  rw[dH (Bv (by omega)),e,iH]
  constructor
  ·intro h
   rw[dG]at h
   rw[aH (by simp only[aZ,dG,bY];omega),aH (jG (by simp only[len];omega))]
   exact(loop2 _ (by simp [ay])).bind fun a h=>(ak _).2 h
  ·intro h
   exact(loop2 _ rfl).bind fun a h=>(ak _).2 h
theorem adN {l:List aA} {i:Nat} {f:aA} (h:i<=l.length) (hl:l.length<999999):bg l (i:Int) [f]=some (l.take i++f::l.drop i):=by
 unfold bg
 simp only[]
 rw[aH (by simp only[aZ,bY,len,au];omega),uY];rfl
theorem alh {i:Nat} (h:i<1000000):wr .i64 (au (i:Int) 1)=((i+1:Nat):Int):=eu h
theorem Xf {α:Type} [Inhabited α] (l:List α) (i:Nat) (h:i<l.length):aj l i=l[i]:=by simp [aj,h]
theorem DW {P:Nm->Prop} {n:Nm} (h:P n):∀m∈[n],P m:=fun m hm=>by rw[List.mem_singleton.1 hm];exact h
theorem Ws {d:ah} {n:Nm} (h:Gf d) (hn:n.length<999999):lC d n=some (gX d n):=by
 refine Wq.eq ?_
 unfold lC gX
 rw[NW h.nm (DW hn) (by simp),ai,gm,fC,gm,fC]
 by_cases h0:iZ d [n]=0
 case neg=>rw[if_neg h0,if_neg h0,ak,if_pos h0]
 rw[if_pos h0,if_neg (fun g=>g h0)]
 obtain⟨hd,hw, -⟩:=kN.1 h0
 refine(Np hd.asc (by have:=hd.fl;omega)).bind ?_
 rintro⟨k,b⟩ ⟨i,o,e1,e2,e3⟩
 simp only at e1 e3
 subst e1 e3
 have hg:=e2.get
 rw[hg]
 cases o with
 |none=>simp only[Option.isSome_none];rw[bJ,bH,ak]
 |some f=>
  obtain⟨hi,-, -⟩:=e2.lt
  have hl:=hd.fl
  simp only[Option.isSome_some]
  rw[aU,aX,alh (by omega)]
  simp only[Lr (show d.files.length<1000000 by omega),ai,air hi (by omega)]
  rw[N9 d hd.1.2.2.1 h.fu (some (ah.mk d.files d.room d.fuse true,(9:Int))) (fun a b=>some (ah.mk (d.files.eraseIdx i) d.room a b,(0:Int))),e2.del]
  by_cases hs:(dA d).2=true
  ·rw[if_pos hs,ak,if_pos hs];unfold YI;rw[bT,sS]
  ·rw[if_neg hs,ak,if_neg hs,Oi hs]
theorem aaM {d:ah} {n:Nm} (h:Gf d) (hn:n.length<999999):iM d n=some (nJ d n):=by
 refine Wq.eq ?_
 unfold iM nJ
 rw[NW h.nm (DW hn) (by simp),ai,gm,fC,gm,fC]
 by_cases h0:iZ d [n]=0
 case neg=>rw[if_neg h0,if_neg h0,ak,if_pos h0]
 rw[if_pos h0,if_neg (fun g=>g h0)]
 obtain⟨hd,hw, -⟩:=kN.1 h0
 refine(Np hd.asc (by have:=hd.fl;omega)).bind ?_
 rintro⟨k,b⟩ ⟨i,o,e1,e2,e3⟩
 simp only at e1 e3
 subst e1 e3
 have hg:=e2.get
 rw[hg]
 cases o with
 |none=>simp only[Option.isSome_none];rw[bJ,bH,ak]
 |some f=>
  obtain⟨hi,hf,hfn⟩:=e2.lt
  have hl:=hd.fl
  simp only[Option.isSome_some]
  rw[aU,aX]
  simp only[Lr (show d.files.length<1000000 by omega),ai,aH (inb d.files i hi),uY,Xf d.files i hi]
  rw[N9 d hd.1.2.2.1 h.fu (some (ah.mk d.files d.room d.fuse true,(9:Int))) (fun a b=>some (ah.mk (aY d.files i (aA.mk d.files[i].name d.files[i].data (len d.files[i].data))) d.room a b,(0:Int))),hf]
  have e:=e2.set (f:=⟨n,f.data,len f.data⟩) rfl
  by_cases hs:(dA d).2=true
  ·rw[if_pos hs,ak,if_pos hs];unfold yj aY;rw[bT,sS,hfn,e]
  ·rw[if_neg hs,ak,if_neg hs,Oi hs]
theorem aaB {d:ah} {n:Nm} (h:Gf d) (hn:n.length<999999):lS d n=some (RH d n):=by
 refine Wq.eq ?_
 unfold lS RH
 rw[NW h.nm (DW hn) (by simp),ai,gm,fC,gm,fC]
 by_cases h0:iZ d [n]=0
 case neg=>rw[if_neg h0,if_neg h0,ak,if_pos h0]
 rw[if_pos h0,if_neg (fun g=>g h0)]
 obtain⟨hd,hw, -⟩:=kN.1 h0
 refine(Np hd.asc (by have:=hd.fl;omega)).bind ?_
 rintro⟨k,b⟩ ⟨i,o,e1,e2,e3⟩
 simp only at e1 e3
 subst e1 e3
 have hg:=e2.get
 rw[hg]
 cases o with
 |none=>simp only[Option.isSome_none];rw[bJ,bH,ak]
 |some f=>
  obtain⟨hi,hf,hfn⟩:=e2.lt
  have hb:=aeK (by have:=hd.us;omega:iC d.files<=10000000) (List.getElem_mem hi)
  have hus:=zn hi
  have hus2:=FK d.files (i+1)
  have:=hd.us
  simp only[Option.isSome_some]
  rw[aU,aX,aH (inb d.files i hi),bQ d.files i hi,acA (by omega),ai,ak,hf]
theorem SV {d:ah} {n:Nm} {b:List Int} (h:Gf d) (hn:n.length<999999) (hb:b.length<900000):gV d n b=some (eY d n b):=by
 refine Wq.eq ?_
 unfold gV eY
 rw[NW h.nm (DW hn) (by simp),ai,gm,fC]
 by_cases h0:iZ d [n]=0
 case neg=>rw[if_neg h0,ak,if_pos h0]
 rw[if_pos h0,if_neg (fun g=>g h0)]
 obtain⟨hd,hw, -⟩:=kN.1 h0
 have hl:=hd.fl
 have hu:=hd.us
 have hr:=hd.1
 refine(Np hd.asc (by omega)).bind ?_
 rintro⟨k,q⟩ ⟨i,o,e1,e2,e3⟩
 simp only at e1 e3
 subst e1 e3
 have hg:=e2.get
 rw[hg,al2 (by omega) (by omega),ai]
 have e4:wr .i64 (aB d.room (iC d.files:Int))=d.room - (iC d.files:Int):=by rw[aB,I9 ⟨by omega,by omega⟩]
 have hcond:(bor (ilt (wr .i64 (aB d.room (iC d.files:Int))) (len b)) (band (ax o.isSome) (ieq (len d.files) 64))=true)↔(d.room<(iC d.files:Int)+(b.length:Int)\/(o=none/\64<=d.files.length)):=by
  rw[e4]
  simp only[aZ,bV,dF,dL,bI,bK,dG,dK,bY,dQ,bD,bG,dV,dW,len]
  cases o<;>simp<;>omega
 rw[iH]
 refine⟨fun hc=>(ak _).2 ?_,fun hc=> ?_⟩
 ·rw[if_pos (hcond.1 hc)]
 rw[if_neg (fun g=>by rw[hcond.2 g]at hc;cases hc),Lr (by omega),ai]
 have hnot:¬(d.room<(iC d.files:Int)+(b.length:Int)\/(o=none/\64<=d.files.length)):=fun g=>by rw[hcond.2 g]at hc;cases hc
 cases o with
 |none=>
  simp only[Option.isSome_none,Option.getD_none,List.nil_append]
  have hil:=e2.le
  rw[bJ,bH,adN hil (by omega),ai,e2.ins rfl]
  have e5:oM ⟨n,[],0⟩ d.files=d.files.take i++⟨n,[],0⟩::d.files.drop i:=(e2.ins (f:=⟨n,[],0⟩) rfl).symm
  have hlen:(d.files.take i).length=i:=by rw[List.length_take];omega
  have hi:i<(oM ⟨n,[],0⟩ d.files).length:=by rw[e5];simp;omega
  have hgt:(oM ⟨n,[],0⟩ d.files)[i]=⟨n,[],0⟩:=by
   simp only[e5]
   rw[List.getElem_append_right (by omega)]
   simp [hlen]
  have hst:aY (oM ⟨n,[],0⟩ d.files) i ⟨n,b,0⟩=oM ⟨n,b,0⟩ d.files:=by
   rw[<-e2.ins (f:=⟨n,b,0⟩) rfl,e5]
   unfold aY
   rw[List.set_append_right _ _ (by omega)]
   simp [hlen]
  rw[aH (inb _ i hi),bQ _ i hi,hgt,adl (by simp) (by simp only[List.flatMap_cons,List.flatMap_nil,List.append_nil,List.nil_append];omega),ai,aH (inb _ i hi),uY]
  simp only[List.flatMap_cons,List.flatMap_nil,List.nil_append,List.append_nil]
  have e6:aj (oM ⟨n,[],0⟩ d.files) i=⟨n,[],0⟩:=by rw[Xf _ i hi,hgt]
  rw[hst,N9 d hd.1.2.2.1 h.fu (some (ah.mk (oM ⟨n,b,0⟩ d.files) d.room d.fuse true,(9:Int))) (fun x y=>some (ah.mk (oM ⟨n,b,0⟩ d.files) d.room x y,(0:Int)))]
  have sw:dA (yj d ⟨n,b,0⟩)=(⟨oM ⟨n,b,0⟩ d.files,d.room,(dA d).1.fuse,(dA d).1.down⟩,(dA d).2):=by
   unfold dA yj;split<;>(try split)<;>rfl
  rw[sw]
  unfold adT
  simp only[]
  by_cases hs:(dA d).2=true
  ·rw[if_pos hs,ak,if_pos hs]
  ·rw[if_neg hs,ak,if_neg hs,Oi hs]
 |some f=>
  simp only[Option.isSome_some,Option.getD_some]
  obtain⟨hi,hf,hfn⟩:=e2.lt
  have hus:=zn hi
  have hus2:=FK d.files (i+1)
  rw[aU,aX,aH (inb _ i hi),bQ _ i hi,hf,adl (by simp) (by simp only[List.flatMap_cons,List.flatMap_nil,List.append_nil,List.length_append];rw[hf]at hus;omega),ai,aH (inb _ i hi),uY]
  simp only[List.flatMap_cons,List.flatMap_nil,List.append_nil]
  have e6:aj d.files i=f:=by rw[Xf _ i hi,hf]
  have hst:aY d.files i ⟨f.name,f.data++b,f.sure⟩=oM ⟨n,f.data++b,f.sure⟩ d.files:=by rw[hfn];exact e2.set rfl
  rw[hst,N9 d hd.1.2.2.1 h.fu (some (ah.mk (oM ⟨n,f.data++b,f.sure⟩ d.files) d.room d.fuse true,(9:Int))) (fun x y=>some (ah.mk (oM ⟨n,f.data++b,f.sure⟩ d.files) d.room x y,(0:Int)))]
  have sw:dA (yj d ⟨n,f.data++b,f.sure⟩)=(⟨oM ⟨n,f.data++b,f.sure⟩ d.files,d.room,(dA d).1.fuse,(dA d).1.down⟩,(dA d).2):=by
   unfold dA yj;split<;>(try split)<;>rfl
  rw[sw]
  unfold adT
  simp only[]
  by_cases hs:(dA d).2=true
  ·rw[if_pos hs,ak,if_pos hs]
  ·rw[if_neg hs,ak,if_neg hs,Oi hs]
theorem agp {α:Type} (l:List α) (i:Nat) (x y:α):aY (aY l i x) i y=aY l i y:=by simp [aY]
theorem ag2 {α:Type} [Inhabited α] (l:List α) (i:Nat) (x:α) (h:i<l.length):aj (aY l i x) i=x:=by simp [aj,aY,h]
theorem afX (a b:Int):fJ a b=if b<a then b else a:=by
 unfold fJ;rfl
theorem anc {d:ah} {n:Nm} {k:Int} (h:Gf d) (hn:n.length<999999):wW d n k=some (Aj d n k):=by
 refine Wq.eq ?_
 unfold wW Aj
 rw[NW h.nm (DW hn) (by simp),ai,gm,fC,gm,fC]
 by_cases h0:iZ d [n]=0
 case neg=>rw[if_neg h0,if_neg h0,ak,if_pos h0]
 rw[if_pos h0,if_neg (fun g=>g h0)]
 obtain⟨hd,hw, -⟩:=kN.1 h0
 refine(Np hd.asc (by have:=hd.fl;omega)).bind ?_
 rintro⟨k0,q⟩ ⟨i,o,e1,e2,e3⟩
 simp only at e1 e3
 subst e1 e3
 have hg:=e2.get
 rw[hg]
 cases o with
 |none=>simp only[Option.isSome_none];rw[bJ,bH,ak]
 |some f=>
  obtain⟨hi,hf,hfn⟩:=e2.lt
  have hl:=hd.fl
  have hus:=zn hi
  have hus2:=FK d.files (i+1)
  have:=hd.us
  rw[hf]at hus
  simp only[Option.isSome_some]
  rw[aU,aX,G5,G5]
  by_cases hk:k<0
  ·rw[if_pos hk,if_pos hk,ak,if_pos (.inl hk)]
  rw[if_neg hk,aH (inb _ i hi),bQ _ i hi,hf,G5]
  by_cases hk2:len f.data<k
  ·rw[if_pos hk2,ak,if_pos (.inr hk2)]
  rw[if_neg hk2,if_neg (fun g=>g.elim hk hk2)]
  have hkk:band (ile 0 k) (ile k (len f.data))=true:=DV (jG (by omega)) (jG (by omega))
  have htl:(ay f.data (itn k)).length<1000000:=by unfold ay;rw[List.length_take];omega
  simp only[Lr (show d.files.length<1000000 by omega),ai,aH (inb d.files i hi),uY,Xf d.files i hi,hf,aH hkk,acA htl,agp,ag2 d.files i _ hi]
  rw[N9 d hd.1.2.2.1 h.fu (some (ah.mk d.files d.room d.fuse true,(9:Int))) (fun a b=>some (ah.mk (aY d.files i (aA.mk f.name (ay f.data (itn k)) (fJ f.sure k))) d.room a b,(0:Int))),afX]
  have e:=e2.set (f:=⟨n,f.data.take k.toNat,if k<f.sure then k else f.sure⟩) rfl
  by_cases hs:(dA d).2=true
  ·rw[if_pos hs,ak,if_pos hs];unfold yj aY ay itn;rw[bT,sS,hfn,e]
  ·rw[if_neg hs,ak,if_neg hs,Oi hs]
theorem alP {d:ah} {x:aA} (ha:Ji d.files) (hl:d.files.length<=100000) {α:Type} (R:List aA->Option α) (Q:α->Prop) (h:Wq (R (oM x d.files)) Q):
 Wq (af (dP d x.name) fun y9=>cnd y9.2 (cnd (band (ile 0 y9.1) (ilt y9.1 (len d.files))) (R (aY d.files (itn y9.1) x)) none) (af (bg d.files y9.1 [x]) fun y10=>R y10)) Q:=by
 refine(Np ha hl).bind ?_
 rintro⟨k0,q⟩ ⟨i,o,e1,e2,e3⟩
 simp only at e1 e3
 subst e1 e3
 cases o with
 |none=>
  have:=e2.le
  simp only[Option.isSome_none]
  rw[aX,adN this (by omega),ai,e2.ins rfl]
  exact h
 |some f=>
  obtain⟨hi,hf,hfn⟩:=e2.lt
  simp only[Option.isSome_some]
  rw[bH,aH (inb _ i hi),uY]
  unfold aY
  rw[e2.set rfl]
  exact h
theorem abD {n:Nm} {l:List aA} (h:Ji l):Ji (xK n l):=by
 unfold Ji xK;exact List.Pairwise.sublist List.filter_sublist h
theorem acu {l:List aA} {i:Nat} (h:i<l.length):
 ay (eU (eU l i (l.drop (i+1))) (i+(l.drop (i+1)).length) (jY aA (itn (aB (len l) (nti (i+(l.drop (i+1)).length)))))) (i+(l.drop (i+1)).length)=l.eraseIdx i:=cut_out l _ i h
theorem abZ {d:ah} {a b:Nm} (h:Gf d) (hna:a.length<999999) (hnb:b.length<999999):kJ d a b=some (jW d a b):=by
 refine Wq.eq ?_
 unfold kJ jW
 have hns:∀m∈dB [b] [a],m.length<999999:=by intro m hm;simp [dB]at hm;rcases hm with rfl | rfl<;>assumption
 rw[aH (jG (by simp [len,dB])),NW h.nm hns (by simp [dB]),ai,gm,fC,gm,fC,show iZ d (dB [b] [a])=iZ d [a,b]from aeI d b a]
 by_cases h0:iZ d [a,b]=0
 case neg=>rw[if_neg h0,if_neg h0,ak,if_pos h0]
 rw[if_pos h0,if_neg (fun g=>g h0)]
 obtain⟨hd,hw, -⟩:=kN.1 h0
 refine(Np hd.asc (by have:=hd.fl;omega)).bind ?_
 rintro⟨k0,q⟩ ⟨i,o,e1,e2,e3⟩
 simp only at e1 e3
 subst e1 e3
 have hg:=e2.get
 rw[hg]
 cases o with
 |none=>simp only[Option.isSome_none];rw[bJ,bH,ak]
 |some f=>
  obtain⟨hi,hf,hfn⟩:=e2.lt
  have hl:=hd.fl
  have hdl:(d.files.drop (i+1)).length=d.files.length - (i+1):=List.length_drop ..
  have hlc:=ZY d.files i (d.files.drop (i+1)) (by omega)
  simp only[Option.isSome_some]
  rw[aU,aX]
  have tl:=adh d.files i hi
  rw[uY]at tl
  simp only[Lr (show d.files.length<1000000 by omega),ai,alh (show i<1000000 by omega),uY,tl,Xf d.files i hi,hf]
  have hf':aj d.files (itn (i:Int))=f:=by rw[uY,Xf _ _ hi,hf]
  have c1:band (ile 0 (i:Int)) (ilt (i:Int) (len d.files))=true:=inb _ i hi
  have c2:band (band (band (ile 0 (i:Int)) (ile (i:Int) ((i+1:Nat):Int))) (ile ((i+1:Nat):Int) (len d.files))) (band (ile ((i+1:Nat):Int) (len d.files)) (ile (len d.files) (len d.files)))=true:=by
   simp only[aZ,bY,len];omega
  have c3:ieq (i:Int) ((i+1:Nat):Int)=false:=by rw[bG];omega
  have c4:band (ile 0 (i:Int)) (ile (i:Int) (len d.files))=true:=by simp only[aZ,bY,len];omega
  have c5:band (ile 0 ((i+1:Nat):Int)) (ile ((i+1:Nat):Int) (len d.files))=true:=by simp only[aZ,bY,len];omega
  have c6:ile (au (nti i) (len (d.files.drop (i+1)))) (len d.files)=true:=by simp only[au,nti,bY,len];omega
  have c7:band (band (ile 0 (nti (i+(d.files.drop (i+1)).length))) (ile (nti (i+(d.files.drop (i+1)).length)) (len d.files))) (ile (len d.files) (aB (len (eU d.files i (d.files.drop (i+1)))) 0))=true:=by
   simp only[aZ,bY,len,aB,nti,hlc];omega
  simp only[adS d.files i hi,acY,afI,aH c1,aH c2,dH c3,aH c4,aH c5,aH c6,aH c7,acu hi,e2.del]
  have key:=N9 d hd.1.2.2.1 h.fu (some (ah.mk d.files d.room d.fuse true,(9:Int))) (fun x y=>af (dP (ah.mk (xK a d.files) d.room x y) b) fun y9=>cnd y9.2 (cnd (band (ile 0 y9.1) (ilt y9.1 (len (xK a d.files)))) (some (ah.mk (aY (xK a d.files) (itn y9.1) (aA.mk b f.data f.sure)) d.room x y,(0:Int))) none) (af (bg (xK a d.files) y9.1 [aA.mk b f.data f.sure]) fun y10=>some (ah.mk y10 d.room x y,(0:Int))))
  rw[key]
  by_cases hs:(dA d).2=true
  ·rw[if_pos hs,if_pos hs]
   have hdl2:=XW a d.files
   refine alP (d:=ah.mk (xK a d.files) d.room (dA d).1.fuse (dA d).1.down) (x:=⟨b,f.data,f.sure⟩) (abD hd.asc) (by simp only;omega) (fun l=>some (ah.mk l d.room (dA d).1.fuse (dA d).1.down,(0:Int))) _ ?_
   rw[ak];unfold yj YI;simp only;rw[bT,sS]
  ·rw[if_neg hs,ak,if_neg hs,Oi hs]
theorem agu (d:ah) (hl:okL Sl d.files):Wq (qm d) fun b=>b=true->d.files.length<=70/\∀f∈d.files,f.name.length<=100/\f.data.length<=70000:=by
 unfold qm
 rw[iH]
 refine⟨fun h=>(ak _).2 (by intro g;cases g),fun h=> ?_⟩
 simp only[aZ,bV,dF,dL,bI,bK,dG,dK,bY,dQ,bD,bG,dV,dW,len]at h
 refine Wq.bind (Q:=fun w=>match w with
  |.inl b=>b=false
  |.inr _=>∀f∈d.files,f.name.length<=100/\f.data.length<=70000)
  (lZ (n:=d.files.length) (step:=fun v:Int×Int×Bool=>kH d v.1 v.2.1 v.2.2) (by omega) (fun i x=>∀f∈d.files.take i,f.name.length<=100/\f.data.length<=70000) _ ?_ ?_ _ 0 (Nat.zero_le _) (by simp)) ?_
 ·rintro i ⟨n,q⟩ hi hx
  simp only[kH]
  rw[aH (by rw[ig];simpa using hi),aH (inb _ i hi),aH (by rw[dF];exact .inl (inb _ i hi)),bQ _ i hi,aH (inb _ i hi),iH,ak,ak]
  refine⟨fun _=>rfl,fun hb=>⟨eu (by omega),?_⟩⟩
  simp only[aZ,bV,dF,dL,bI,bK,dG,dK,bY,dQ,bD,bG,dV,dW,len]at hb
  rw[kQ hi]
  intro f hf
  rcases List.mem_append.1 hf with c | c
  ·exact hx f c
  ·rw[List.mem_singleton.1 c];omega
 ·rintro⟨n,q⟩ hx
  simp only[kH]
  rw[dH (Nb _),ak]
  rwa[List.take_length]at hx
 ·rintro(w | w) hw
  ·simp only[jB,ak];simp only at hw;rw[hw];intro g;cases g
  ·simp only[jB,ak];exact fun _=>⟨by omega,hw⟩
def ak1 {α:Type}:List Int->Int->(Int->Option α)->Option α
 |[],n,k=>k n
 |b::l,n,k=>af (dn (wr .u32 (mW .u32 (wr .u32 (gY .u32 n (wr .u32 b))) 15))) fun y0=>af (dn (wr .u32 (mW .u32 (wr .u32 (gY .u32 y0 (bP .u32 (wr .u32 (gY .u32 n (wr .u32 b))) 4))) 15))) fun y1=>
  ak1 l (wr .u32 (gY .u32 y1 (bP .u32 (wr .u32 (gY .u32 y0 (bP .u32 (wr .u32 (gY .u32 n (wr .u32 b))) 4))) 4))) k
theorem acv {α:Type} (k:Int->Option α):∀(l:List Int) (n:B32),jw l->ak1 l (toI n) k=k (toI (YX n l))
 |[],n,_=>rfl
 |b::l,n,hb=>by
  have e15:(15:Int)=toI 15#32:=rfl
  obtain⟨b1,b2⟩:=hb b (List.mem_cons_self ..)
  have e4:∀x:B32,bP .u32 (toI x) 4=toI (x >>> 4):=fun x=>ahO x 4 (by decide)
  have ih:=acv k l (hN 8 (n ^^^ ofB b)) fun x hx=>hb x (List.mem_cons_of_mem _ hx)
  rw[ak1,ada b1 b2,OY,e15,acz,JI,ai,e4,OY,aj8,acz,JI,ai,e4,OY,aj8,<-aa7]
  exact ih
def sh8 (n k:Int):Int:=wr .u8 (bP .i64 n k)
def adn (s:eF):List Int:=[sh8 s.gen 56,sh8 s.gen 48,sh8 s.gen 40,sh8 s.gen 32,sh8 s.gen 24,sh8 s.gen 16,sh8 s.gen 8,sh8 s.gen 0,sh8 s.lsn 56,sh8 s.lsn 48,sh8 s.lsn 40,sh8 s.lsn 32,sh8 s.lsn 24,sh8 s.lsn 16,sh8 s.lsn 8,sh8 s.lsn 0]
def ama (s:eF) (n:Int):acD:=⟨sh8 s.gen 56,sh8 s.gen 48,sh8 s.gen 40,sh8 s.gen 32,sh8 s.gen 24,sh8 s.gen 16,sh8 s.gen 8,sh8 s.gen 0,sh8 s.lsn 56,sh8 s.lsn 48,sh8 s.lsn 40,sh8 s.lsn 32,sh8 s.lsn 24,sh8 s.lsn 16,sh8 s.lsn 8,sh8 s.lsn 0,
 wr .u8 (bP .u32 (wr .u32 (gY .u32 4294967295 n)) 0),wr .u8 (bP .u32 (wr .u32 (gY .u32 4294967295 n)) 8),wr .u8 (bP .u32 (wr .u32 (gY .u32 4294967295 n)) 16),wr .u8 (bP .u32 (wr .u32 (gY .u32 4294967295 n)) 24)⟩
theorem amo (s:eF):ou s=ak1 (adn s) 4294967295 fun n=>some (ama s n):=rfl
def pG (s:eF):List Int:=lY s.gen 8++lY s.lsn 8
def yO (s:eF):List Int:=pG s++wF (zW (pG s))
def toL (a:acD):List Int:=[a.a0,a.a1,a.a2,a.a3,a.a4,a.a5,a.a6,a.a7,a.a8,a.a9,a.a10,a.a11,a.a12,a.a13,a.a14,a.a15,a.a16,a.a17,a.a18,a.a19]
def F8 (s:eF):Prop:=1<=s.gen/\s.gen<=1000000000/\0<=s.lsn/\s.lsn<=1000000000
instance (s:eF):Decidable (F8 s):=by unfold F8;infer_instance
theorem agD (s:eF):(pG s).length=16:=by simp [pG,pq]
theorem aat (s:eF):(yO s).length=20:=by simp [yO,agD,wF]
theorem Wi (s:eF):jw (pG s):=(mF _ _).app (mF _ _)
theorem aeo (s:eF):jw (yO s):=(Wi s).app (Qh _)
theorem MV (n:Int) {i:Nat} (hi:i<8):sh8 n (wr .i64 (gu 8 (i:Int)))=n / 256^i%256:=(byte_of hi).2
theorem anp (n:Int):sh8 n 0=n / 256^0%256:=MV n (i:=0) (by decide)
theorem anq (n:Int):sh8 n 8=n / 256^1%256:=MV n (i:=1) (by decide)
theorem am7 (n:Int):sh8 n 16=n / 256^2%256:=MV n (i:=2) (by decide)
theorem amZ (n:Int):sh8 n 24=n / 256^3%256:=MV n (i:=3) (by decide)
theorem am6 (n:Int):sh8 n 32=n / 256^4%256:=MV n (i:=4) (by decide)
theorem amR (n:Int):sh8 n 40=n / 256^5%256:=MV n (i:=5) (by decide)
theorem am9 (n:Int):sh8 n 48=n / 256^6%256:=MV n (i:=6) (by decide)
theorem anu (n:Int):sh8 n 56=n / 256^7%256:=MV n (i:=7) (by decide)
theorem acN (s:eF):adn s=pG s:=by
 unfold adn pG
 simp only[anp,anq,am7,amZ,am6,amR,am9,anu,lY,List.cons_append,List.nil_append]
theorem Sz (s:eF):Wq (ou s) fun a=>toL a=yO s:=by
 rw[amo,acN,show(4294967295:Int)=toI ones from rfl,acv _ _ _ (Wi s),ak]
 have e:wr .u32 (gY .u32 (toI ones) (toI (YX ones (pG s))))=zW (pG s):=OY _ _
 have t0:wr .u8 (bP .u32 (zW (pG s)) 0)=zW (pG s) / 256^0%256:=(MF (n:=zW (pG s)) (i:=0) (by decide)).2
 have t1:wr .u8 (bP .u32 (zW (pG s)) 8)=zW (pG s) / 256^1%256:=(MF (n:=zW (pG s)) (i:=1) (by decide)).2
 have t2:wr .u8 (bP .u32 (zW (pG s)) 16)=zW (pG s) / 256^2%256:=(MF (n:=zW (pG s)) (i:=2) (by decide)).2
 have t3:wr .u8 (bP .u32 (zW (pG s)) 24)=zW (pG s) / 256^3%256:=(MF (n:=zW (pG s)) (i:=3) (by decide)).2
 have e':wr .u32 (gY .u32 4294967295 (toI (YX ones (pG s))))=zW (pG s):=e
 have key:toL (ama s (toI (YX ones (pG s))))=adn s++[zW (pG s) / 256^0%256,zW (pG s) / 256^1%256,zW (pG s) / 256^2%256,zW (pG s) / 256^3%256]:=by
  unfold toL ama adn
  simp only[e',t0,t1,t2,t3,List.cons_append,List.nil_append]
 rw[key,acN]
 unfold yO wF
 simp
theorem am5 {b:List Int} {i:Nat} (h:i+8<=b.length):(b.drop i).take 8=[aj b i,aj b (i+1),aj b (i+2),aj b (i+3),aj b (i+4),aj b (i+5),aj b (i+6),aj b (i+7)]:=by
 refine List.ext_getElem (by simp;omega) fun j h1 h2=> ?_
 simp only[List.length_cons,List.length_nil]at h2
 rw[List.getElem_take,List.getElem_drop]
 match j,h2 with
 |0,_=>simp [aj,show i<b.length by omega]
 |1,_=>simp [aj,show i+1<b.length by omega]
 |2,_=>simp [aj,show i+2<b.length by omega]
 |3,_=>simp [aj,show i+3<b.length by omega]
 |4,_=>simp [aj,show i+4<b.length by omega]
 |5,_=>simp [aj,show i+5<b.length by omega]
 |6,_=>simp [aj,show i+6<b.length by omega]
 |7,_=>simp [aj,show i+7<b.length by omega]
 |j+8,h=>omega
def or8 (a c:Int):Int:=wr .i64 (ior .i64 (wr .i64 (oJ .i64 a 8)) (wr .i64 c))
theorem P5 {n c:Int} (h:0<=c/\c<=255):or8 (wr .i64 n) c=wr .i64 (n*256+c):=by
 unfold or8;rw[afF _ _ h.1 h.2,alz]
theorem amQ {b:List Int} (hb:jw b) {i:Nat} (h:i+8<=b.length):
 or8 (or8 (or8 (or8 (or8 (or8 (or8 (wr .i64 (ior .i64 0 (wr .i64 (aj b i)))) (aj b (i+1))) (aj b (i+2))) (aj b (i+3))) (aj b (i+4))) (aj b (i+5))) (aj b (i+6))) (aj b (i+7))=at8 b i:=by
 have rng:∀j,j<b.length->0<=aj b j/\aj b j<=255:=fun j hj=>by
  have:=hb.get hj
  rw[Xf b j hj];exact this
 have e0:wr .i64 (ior .i64 0 (wr .i64 (aj b i)))=wr .i64 (0*256+aj b i):=afF 0 _ (rng i (by omega)).1 (rng i (by omega)).2
 rw[e0,P5 (rng _ (by omega)),P5 (rng _ (by omega)),P5 (rng _ (by omega)),P5 (rng _ (by omega)),P5 (rng _ (by omega)),P5 (rng _ (by omega)),P5 (rng _ (by omega))]
 unfold at8
 rw[am5 h]
 rfl
def atS (b:List Int):eF:=⟨at8 b 0,at8 b 8⟩
def slD (b:List Int):eF×Int:=if b.length≠20 then (⟨0,0⟩,2)else if b.drop 16≠wF (zW (b.take 16))then (⟨0,0⟩,10)else if F8 (atS b)then (atS b,0)else (⟨0,0⟩,2)
theorem aii {b:List Int} (hb:jw b) (h:b.length=20):pG (atS b)=b.take 16:=by
 unfold pG atS at8
 simp only
 rw[ah8 ((hb.drop 0).take 8) (by simp;omega),ah8 ((hb.drop 8).take 8) (by simp;omega)]
 rw[show(16:Nat)=8+8 from rfl,List.take_add,List.drop_zero]
theorem aiF {b:List Int} (hb:jw b) (h:b.length=20):yO (atS b)=b↔b.drop 16=wF (zW (b.take 16)):=by
 unfold yO
 rw[aii hb h]
 constructor
 ·intro e
  have:=congrArg (List.drop 16) e
  rw[List.drop_append_of_le_length (by rw[List.length_take];omega),List.drop_eq_nil_of_le (by rw[List.length_take];omega),List.nil_append]at this
  exact this.symm
 ·intro e;rw[<-e,List.take_append_drop]
theorem QZ (s:eF):xu s=some (decide (F8 s)):=by
 refine Wq.dec ?_
 unfold xu F8
 rw[ak]
 simp only[aZ,bV,dF,dL,bI,bK,dG,dK,bY,dQ,bD,bG,dV,dW]
 omega
theorem aie {b:List Int} (h:b.length=20):b=[aj b 0,aj b 1,aj b 2,aj b 3,aj b 4,aj b 5,aj b 6,aj b 7,aj b 8,aj b 9,aj b 10,aj b 11,aj b 12,aj b 13,aj b 14,aj b 15,aj b 16,aj b 17,aj b 18,aj b 19]:=by
 match b,h with
 |[_,_,_,_,_,_,_,_,_,_,_,_,_,_,_,_,_,_,_,_],_=>rfl
theorem OZ {b:List Int} (hb:jw b):mO b=some (slD b):=by
 refine Wq.eq ?_
 unfold mO slD
 rw[gm,fC]
 by_cases h:b.length=20
 case neg=>rw[if_neg (by simp only[len];omega),ak,if_pos h]
 rw[if_pos (by simp only[len];omega),if_neg (fun g=>g h)]
 have hg:=amQ hb (i:=0) (by omega)
 have hl:=amQ hb (i:=8) (by omega)
 unfold or8 at hg hl
 simp only[Nat.zero_add,Nat.reduceAdd]at hg hl
 have lt:∀k:Int,k<20->ilt k (len b)=true:=fun k hk=>Di (by simp only[len];omega)
 simp only[hg,hl]
 rw[aH (lt 0 (by decide)),aH (lt 8 (by decide)),aH (lt 1 (by decide)),aH (lt 9 (by decide)),aH (lt 2 (by decide)),aH (lt 10 (by decide)),aH (lt 3 (by decide)),aH (lt 11 (by decide)),aH (lt 4 (by decide)),aH (lt 12 (by decide)),aH (lt 5 (by decide)),aH (lt 13 (by decide)),aH (lt 6 (by decide)),aH (lt 14 (by decide)),aH (lt 7 (by decide)),aH (lt 15 (by decide))]
 refine(Sz (atS b)).bind fun a ha=> ?_
 rw[aH (jG (by simp only[len];omega)),iH]
 have hcmp:toL a=b↔b.drop 16=wF (zW (b.take 16)):=by rw[ha];exact aiF hb h
 have hcmp2:toL a=b↔(a.a0=aj b 0/\a.a1=aj b 1/\a.a2=aj b 2/\a.a3=aj b 3/\a.a4=aj b 4/\a.a5=aj b 5/\a.a6=aj b 6/\a.a7=aj b 7/\a.a8=aj b 8/\a.a9=aj b 9/\a.a10=aj b 10/\a.a11=aj b 11/\a.a12=aj b 12/\a.a13=aj b 13/\a.a14=aj b 14/\a.a15=aj b 15/\a.a16=aj b 16/\a.a17=aj b 17/\a.a18=aj b 18/\a.a19=aj b 19):=by
  have:=aie h
  generalize aj b 0=b0,aj b 1=b1,aj b 2=b2,aj b 3=b3,aj b 4=b4,aj b 5=b5,aj b 6=b6,aj b 7=b7,aj b 8=b8,aj b 9=b9,aj b 10=b10,aj b 11=b11,aj b 12=b12,aj b 13=b13,aj b 14=b14,aj b 15=b15,aj b 16=b16,aj b 17=b17,aj b 18=b18,aj b 19=b19 at this ⊢
  subst this
  simp only[toL,List.cons.injEq,and_true]
 refine⟨fun hc=>(ak _).2 ?_,fun hc=> ?_⟩
 ·rw[if_pos]
  rw[bI]at hc
  intro e
  have e2:=hcmp2.1 (hcmp.2 e)
  rw[<-Bool.not_eq_true]at hc
  apply hc
  simp only[aZ,bD,and_true]
  exact e2
 ·rw[bK]at hc
  simp only[aZ,bD,and_true]at hc
  have e:=hcmp.1 (hcmp2.2 hc)
  rw[if_neg (fun g=>g e),QZ,ai,gm,zD]
  have ea:eF.mk (at8 b 0) (at8 b 8)=atS b:=rfl
  rw[ea]
  by_cases hp:F8 (atS b)
  ·rw[if_pos hp,if_pos hp,ak]
  ·rw[if_neg hp,if_neg hp,ak]
def n0:Nm:=[115,108,111,116,46,48]
def n1:Nm:=[115,108,111,116,46,49]
def nmS (g:Int):Nm:=if g%2=0 then n0 else n1
theorem VW:jK n0:=by decide
theorem Ym:jK n1:=by decide
theorem ZG (g:Int):jK (nmS g):=by unfold nmS;split;exact VW;exact Ym
theorem jK.len {n:Nm} (h:jK n):n.length<999999:=by have:=h.2.2;omega
theorem Nk {g:Int} (h:0<=g):jZ g=some (nmS g):=by
 unfold jZ nmS zY
 rw[fC,Int.tmod_eq_emod_of_nonneg h];split<;>rfl
def ctF (l:List aA) (n:Nm):List Int:=match dw l n with | some f=>f.data | none=>[]
def iV (d:ah):Prop:=∀f∈d.files,jw f.data
theorem adH {d:ah} (h:iV d) (n:Nm):jw (ctF d.files n):=by
 unfold ctF
 cases hg:dw d.files n with
 |none=>intro x hx;cases hx
 |some f=>exact h f (xB hg).1
def Gt (best:eF) (par:Int) (b:List Int):eF:=if (slD b).2=0/\(slD b).1.gen%2=par/\best.gen<(slD b).1.gen then (slD b).1 else best
def KP (c0 c1:List Int):eF:=Gt (Gt ⟨0,0⟩ 0 c0) 1 c1
def Ag (l:List aA):eF:=KP (ctF l n0) (ctF l n1)
def eP (d:ah):eF×Int:=if ¬gG d then (⟨0,0⟩,1)else if d.down=true then (⟨0,0⟩,9)else if (Ag d.files).gen=0 then (⟨0,0⟩,7)else (Ag d.files,0)
theorem afD {b:List Int} (h:(slD b).2=0):F8 (slD b).1/\slD b=(atS b,0)/\b.length=20/\b.drop 16=wF (zW (b.take 16)):=by
 unfold slD at h ⊢
 by_cases h1:b.length≠20
 ·simp [h1]at h
 rw[if_neg h1]at h ⊢
 by_cases h2:b.drop 16≠wF (zW (b.take 16))
 ·simp [h2]at h
 rw[if_neg h2]at h ⊢
 by_cases h3:F8 (atS b)
 ·rw[if_pos h3];exact⟨h3,rfl,Classical.not_not.1 h1,Classical.not_not.1 h2⟩
 ·simp [h3]at h
theorem Zp (s:eF) (p:Int) (b:List Int):Gt s p b=s\/F8 (Gt s p b):=by
 unfold Gt;split
 ·rename_i h;exact .inr (afD h.1).1
 ·exact .inl rfl
theorem ab6 (a b:List Int):KP a b=⟨0,0⟩\/F8 (KP a b):=by
 unfold KP
 rcases Zp (Gt ⟨0,0⟩ 0 a) 1 b with h | h
 ·rw[h];exact Zp _ _ _
 ·exact .inr h
theorem ZV (a b:List Int):0<=(KP a b).gen/\(KP a b).gen<=1000000000:=by
 rcases ab6 a b with h | h
 ·rw[h];simp
 ·exact⟨by have:=h.1;omega,h.2.1⟩
theorem ad7 {a b:List Int} (h:(KP a b).gen=0):KP a b=⟨0,0⟩:=by
 rcases ab6 a b with g | g
 ·exact g
 ·have:=g.1;omega
theorem afW {d:ah} {n:Nm} (hd:gG d) (hw:d.down=false) (hn:jK n):(RH d n).1=ctF d.files n:=by
 unfold RH ctF
 rw[if_neg (fun g=>g (kN.2 ⟨hd,hw,DW hn⟩))]
 cases dw d.files n<;>rfl
theorem U5 {d:ah} (h:Gf d) (hb:iV d):wu d=some (eP d):=by
 refine Wq.eq ?_
 unfold wu eP
 rw[A7 h.nm,ai,gm,zD]
 by_cases hd:gG d
 case neg=>rw[if_neg hd,ak,if_pos hd]
 rw[if_pos hd,if_neg (fun g=>g hd)]
 cases hw:d.down
 case true=>rw[bH,ak];simp
 rw[aX,if_neg (by simp),Nk (by decide),ai,show nmS 0=n0 from rfl,aaB h VW.len,ai,afW hd hw VW,OZ (adH hb _),ai]
 simp only[Nk (show(0:Int)<=1 by decide),ai,show nmS 1=n1 from rfl,aaB h Ym.len,afW hd hw Ym,OZ (adH hb _)]
 have pos:∀b:List Int,(slD b).2=0->zY (slD b).1.gen 2=(slD b).1.gen%2:=fun b hb=>by
  have:=(afD hb).1.1
  unfold zY;exact Int.tmod_eq_emod_of_nonneg (by omega)
 have iff2:∀(b:List Int) (s:eF) (p:Int),(band (band (ieq (slD b).2 0) (ieq (zY (slD b).1.gen 2) p)) (ilt s.gen (slD b).1.gen)=true)↔((slD b).2=0/\(slD b).1.gen%2=p/\s.gen<(slD b).1.gen):=fun b s p=>by
  simp only[aZ,bD,dG]
  constructor
  ·rintro⟨⟨h1,h2⟩,h3⟩;exact⟨h1,by rw[<-pos b h1];exact h2,h3⟩
  ·rintro⟨h1,h2,h3⟩;exact⟨⟨h1,by rw[pos b h1];exact h2⟩,h3⟩
 have i0:=iff2 (ctF d.files n0) ⟨0,0⟩ 0
 rw[iH]
 refine⟨fun hc=> ?_,fun hc=> ?_⟩
 ·have e0:Gt ⟨0,0⟩ 0 (ctF d.files n0)=(slD (ctF d.files n0)).1:=by unfold Gt;rw[if_pos (i0.1 hc)]
  rw[iH]
  refine⟨fun hc2=> ?_,fun hc2=> ?_⟩
  ·have e1:Ag d.files=(slD (ctF d.files n1)).1:=by unfold Ag KP;rw[e0];unfold Gt;rw[if_pos ((iff2 _ _ 1).1 hc2)]
   rw[<-e1,fC]
   split<;>rw[ak]
  ·have e1:Ag d.files=(slD (ctF d.files n0)).1:=by unfold Ag KP;rw[e0];unfold Gt;rw[if_neg fun g=>by rw[(iff2 _ _ 1).2 g]at hc2;cases hc2]
   rw[<-e1,fC]
   split<;>rw[ak]
 ·have e0:Gt ⟨0,0⟩ 0 (ctF d.files n0)=⟨0,0⟩:=by unfold Gt;rw[if_neg fun g=>by rw[i0.2 g]at hc;cases hc]
  rw[iH]
  refine⟨fun hc2=> ?_,fun hc2=> ?_⟩
  ·have e1:Ag d.files=(slD (ctF d.files n1)).1:=by unfold Ag KP;rw[e0];unfold Gt;rw[if_pos ((iff2 _ ⟨0,0⟩ 1).1 hc2)]
   rw[<-e1,fC]
   split<;>rw[ak]
  ·have e1:Ag d.files=⟨0,0⟩:=by unfold Ag KP;rw[e0];unfold Gt;rw[if_neg fun g=>by rw[(iff2 _ ⟨0,0⟩ 1).2 g]at hc2;cases hc2]
   rw[e1,ak,if_pos rfl]
theorem mM {l:List aA} (h:Ji l) (hl:l.length<=100000) (n:Nm):∃i o,lW n l i o:=by
 obtain⟨_,_,i,o,_,h2,_⟩:=Np (d:=⟨l,0,0,false⟩) (n:=n) h hl
 exact⟨i,o,h2⟩
theorem get_put (f:aA) (m:Nm):∀l:List aA,dw (oM f l) m=if m=f.name then some f else dw l m
 |[]=>by
  rw[oM,pU]
  by_cases h:m=f.name
  ·rw[if_pos h.symm,if_pos h]
  ·rw[if_neg (fun e=>h e.symm),if_neg h]
 |g::r=>by
  rw[oM]
  by_cases hlt:g.name<f.name
  ·rw[if_pos hlt,pU,pU,get_put f m r]
   by_cases h:m=f.name
   ·rw[if_neg (fun e=>VQ f.name (by rw[e,h]at hlt;exact hlt)),if_pos h,if_pos h]
   ·rw[if_neg h,if_neg h]
  ·rw[if_neg hlt,pU]
   by_cases h:m=f.name
   ·rw[if_pos h.symm,if_pos h]
   ·rw[if_neg (fun e=>h e.symm),if_neg h]
    exact gd m h (g::r)
where
 gd (m:Nm) (h:m≠f.name):∀l:List aA,dw (xK f.name l) m=dw l m
 |[]=>rfl
 |g::r=>by
  rw[Jf]
  by_cases e:g.name=f.name
  ·rw[if_pos e,gd m h r,pU,if_neg (fun k=>h (by rw[<-k,e]))]
  ·rw[if_neg e,pU,pU,gd m h r]
theorem VT (n m:Nm):∀l:List aA,dw (xK n l) m=if m=n then none else dw l m
 |[]=>by simp [xK,dw]
 |g::r=>by
  rw[Jf]
  by_cases e:g.name=n
  ·rw[if_pos e,VT n m r]
   by_cases h:m=n
   ·rw[if_pos h,if_pos h]
   ·rw[if_neg h,if_neg h,pU,if_neg (fun k=>h (by rw[<-k,e]))]
  ·rw[if_neg e,pU,VT n m r]
   by_cases h:m=n
   ·rw[if_pos h,if_pos h,if_neg (fun k=>e (by rw[k,h]))]
   ·rw[if_neg h,if_neg h,pU]
theorem TN (f:aA) (l:List aA):yF (f::l)↔okF f/\yF l/\∀g∈l,f.name<g.name:=by
 have:=tJ [f] l
 rw[List.singleton_append,ZW]at this
 rw[this]
 simp
def Ov (o:Option aA):Nat:=match o with | some f=>f.data.length | none=>0
theorem lW.used {n:Nm} {l:List aA} {i:Nat} {o:Option aA} (h:lW n l i o) (f:aA) (e:f.name=n):iC (oM f l)+Ov o=iC l+f.data.length:=by
 subst e
 cases h with
 |no a b ha hb=>rw[wH ha,Hf hb,ql,ql,Jv];simp only[Ov];omega
 |yes a g b e ha hb=>rw[wH ha,VP e hb,ql,ql,Jv,Jv];simp only[Ov];omega
theorem lW.long {n:Nm} {l:List aA} {i:Nat} {o:Option aA} (h:lW n l i o) (f:aA) (e:f.name=n):(oM f l).length=l.length+if o=none then 1 else 0:=by
 subst e
 cases h with
 |no a b ha hb=>rw[wH ha,Hf hb];simp;omega
 |yes a g b e ha hb=>rw[wH ha,VP e hb];simp
theorem lW.good {n:Nm} {l:List aA} {i:Nat} {o:Option aA} (h:lW n l i o) {f:aA} (e:f.name=n) (hf:okF f) (hl:yF l):yF (oM f l):=by
 subst e
 cases h with
 |no a b ha hb=>
  rw[wH ha,Hf hb]
  obtain⟨h1,h2,h3⟩:=(tJ _ _).1 hl
  refine(tJ _ _).2 ⟨h1,(TN _ _).2 ⟨hf,h2,hb⟩,fun g hg k hk=> ?_⟩
  rcases List.mem_cons.1 hk with rfl | hk
  ·exact ha g hg
  ·exact h3 g hg k hk
 |yes a g b e ha hb=>
  rw[wH ha,VP e hb]
  obtain⟨h1,h2,h3⟩:=(tJ _ _).1 hl
  refine(tJ _ _).2 ⟨h1,(TN _ _).2 ⟨hf,((TN _ _).1 h2).2.1,hb⟩,fun g hg k hk=> ?_⟩
  rcases List.mem_cons.1 hk with rfl | hk
  ·exact ha g hg
  ·exact h3 g hg k (List.mem_cons_of_mem _ hk)
theorem lW.usedD {n:Nm} {l:List aA} {i:Nat} {o:Option aA} (h:lW n l i o):iC (xK n l)+Ov o=iC l:=by
 cases h with
 |no a b ha hb=>rw[BX (fun f hf=>(List.mem_append.1 hf).elim (fun g=>Uy (ha f g)) (fun g=>(Uy (hb f g)).symm))];rfl
 |yes a g b e ha hb=>
  rw[U1,Jf,if_pos e,BX fun g hg=>Uy (ha g hg),BX fun g hg=>(Uy (hb g hg)).symm,ql,ql,Jv]
  simp only[Ov];omega
theorem aip {n:Nm} {l:List aA} (h:yF l):yF (xK n l):=⟨fun f hf=>h.1 f (List.mem_filter.1 hf).1,abD h.2⟩
structure Keep (d e:ah):Prop where
 right:gG e
 fz:e.fuse<=d.fuse
 room:e.room=d.room
theorem Keep.refl {d:ah} (h:gG d):Keep d d:=⟨h,Int.le_refl _,rfl⟩
theorem Keep.trans {a b c:ah} (h:Keep a b) (k:Keep b c):Keep a c:=⟨k.right,Int.le_trans k.fz h.fz,k.room.trans h.room⟩
theorem gG.bnd {d:ah} (h:gG d) (hf:inI d.fuse):Gf d:=
 ⟨fun f hf=>by have:=(h.2.1.1 f hf).1.2.2;omega,hf⟩
theorem Keep.bnd {d e:ah} (h:Keep d e) (hf:inI d.fuse):Gf e:=by
 refine h.right.bnd ?_
 have:=h.fz
 have:=h.right.1.2.2.1
 unfold inI at*
 omega
theorem Qv (d:ah):(d.fuse=0/\(dA d).1.fuse=0/\(dA d).1.down=true/\(dA d).2=false)\/((dA d).1.fuse<=d.fuse/\(-1<=d.fuse-> -1<=(dA d).1.fuse)/\(dA d).1.down=d.down/\(dA d).2=true):=by
 unfold dA
 by_cases h0:d.fuse=0
 ·simp [h0]
 by_cases h1:d.fuse= -1
 ·simp [h1]
 ·rw[if_neg h0,if_neg h1];right;simp only;exact⟨by omega,fun _=>by omega,trivial,trivial⟩
theorem FM {d:ah} (h:gG d):Keep d (dA d).1:=by
 have hf:=Qv d
 have h1:=h.1
 refine⟨⟨⟨?_,?_,?_,?_⟩,?_,?_⟩,?_,sS d⟩<;>(try rw[sS])<;>(try rw[bT])
 ·omega
 ·omega
 ·rcases hf with hf | hf
  ·omega
  ·exact hf.2.1 h1.2.2.1
 ·omega
 ·exact h.2.1
 ·exact h.2.2
 ·rcases hf with hf | hf<;>omega
theorem NR {d:ah} {f:aA} (h:gG d) (hf:okF f) (hu:(iC d.files:Int)+f.data.length<=d.room+Ov (dw d.files f.name)) (hl:dw d.files f.name≠none\/d.files.length<64):Keep d (yj d f):=by
 obtain⟨i,o,hs⟩:=mM h.asc (by have:=h.fl;omega) f.name
 have g1:=hs.used f rfl
 have g2:=hs.long f rfl
 rw[hs.get]at hu hl
 have h1:=h.1
 refine⟨⟨⟨h1.1,h1.2.1,h1.2.2.1,?_⟩,hs.good rfl hf h.2.1,?_⟩,Int.le_refl _,rfl⟩
 ·show(oM f d.files).length<=64
  rw[g2]
  split
  ·rename_i e;rcases hl with c | c
   ·exact absurd e c
   ·omega
  ·omega
 ·show(iC (oM f d.files):Int)<=d.room
  omega
theorem acL {d:ah} {n:Nm} (h:gG d):Keep d (YI d n):=by
 obtain⟨i,o,hs⟩:=mM h.asc (by have:=h.fl;omega) n
 have g1:=hs.usedD
 have h1:=h.1
 have h2:=h.2.2
 have:=XW n d.files
 exact⟨⟨⟨h1.1,h1.2.1,h1.2.2.1,Nat.le_trans this h1.2.2.2⟩,aip h.2.1,by show(iC (xK n d.files):Int)<=d.room;omega⟩,Int.le_refl _,rfl⟩
theorem abw {d:ah} {n:Nm} {f:aA} (h:gG d) (hg:dw d.files n=some f):okF f/\f.name=n:=⟨h.2.1.1 f (xB hg).1,(xB hg).2⟩
theorem Ja (p:ah×Bool):(adT p).1=p.1:=rfl
theorem rZ {d:ah} {n:Nm} {b:List Int} (h:gG d):Keep d (eY d n b).1:=by
 unfold eY
 by_cases h0:iZ d [n]=0
 case neg=>rw[if_pos h0];exact Keep.refl h
 rw[if_neg (fun g=>g h0)]
 have hn:=(kN.1 h0).2.2 n (List.mem_singleton.2 rfl)
 by_cases hc:d.room<(iC d.files:Int)+(b.length:Int)\/(dw d.files n=none/\64<=d.files.length)
 ·rw[if_pos hc];exact Keep.refl h
 rw[if_neg hc,Ja]
 have hw:Keep d (yj d ⟨n,((dw d.files n).getD ⟨n,[],0⟩).data++b,((dw d.files n).getD ⟨n,[],0⟩).sure⟩):=by
  have hc1:¬d.room<(iC d.files:Int)+(b.length:Int):=fun g=>hc (.inl g)
  refine NR h ?_ ?_ ?_
  ·cases hg:dw d.files n with
   |none=>exact⟨hn,Int.le_refl _,by simp only[len,Option.getD_none];omega⟩
   |some f=>
    have hf:=(abw h hg).1
    exact⟨hn,hf.2.1,by have:=hf.2.2;simp only[Option.getD_some,len,List.length_append]at this ⊢; omega⟩
  ·cases hg:dw d.files n with
   |none=>simp only[Ov,Option.getD_none,List.nil_append];omega
   |some f=>simp only[Ov,Option.getD_some,List.length_append];omega
  ·cases hg:dw d.files n with
   |none=>right;have:¬64<=d.files.length:=fun g=>hc (.inr ⟨hg,g⟩);omega
   |some f=>left;intro e;cases e
 exact hw.trans (FM hw.right)
theorem EN {d:ah} {n:Nm} (h:gG d):Keep d (nJ d n).1:=by
 unfold nJ
 by_cases h0:iZ d [n]=0
 case neg=>rw[if_pos h0];exact Keep.refl h
 rw[if_neg (fun g=>g h0)]
 have hn:=(kN.1 h0).2.2 n (List.mem_singleton.2 rfl)
 have hk:=FM h
 cases hg:dw d.files n with
 |none=>exact Keep.refl h
 |some f=>
  simp only
  split
  ·refine hk.trans (NR hk.right ⟨hn,by simp only[len];omega,Int.le_refl _⟩ ?_ ?_)
   ·simp only;rw[bT,sS,hg];simp only[Ov];have:=h.2.2;omega
   ·left;simp only;rw[bT,hg];intro e;cases e
  ·exact hk
theorem rY {d:ah} {n:Nm} (h:gG d):Keep d (gX d n).1:=by
 unfold gX
 by_cases h0:iZ d [n]=0
 case neg=>rw[if_pos h0];exact Keep.refl h
 rw[if_neg (fun g=>g h0)]
 have hk:=FM h
 cases hg:dw d.files n with
 |none=>exact Keep.refl h
 |some f=>
  simp only
  split
  ·exact hk.trans (acL hk.right)
  ·exact hk
theorem Yy {d:ah} {n:Nm} {k:Int} (h:gG d):Keep d (Aj d n k).1:=by
 unfold Aj
 by_cases h0:iZ d [n]=0
 case neg=>rw[if_pos h0];exact Keep.refl h
 rw[if_neg (fun g=>g h0)]
 have hn:=(kN.1 h0).2.2 n (List.mem_singleton.2 rfl)
 have hk:=FM h
 cases hg:dw d.files n with
 |none=>exact Keep.refl h
 |some f=>
  simp only
  have hf:=(abw h hg).1
  by_cases hc:k<0\/len f.data<k
  ·rw[if_pos hc];exact Keep.refl h
  rw[if_neg hc]
  have h1:¬k<0:=fun g=>hc (.inl g)
  have h2:¬len f.data<k:=fun g=>hc (.inr g)
  simp only[len]at h2
  have hl:(f.data.take k.toNat).length=k.toNat:=by rw[List.length_take];omega
  split
  ·refine hk.trans (NR hk.right ⟨hn,?_,?_⟩ ?_ ?_)
   ·simp only;have:=hf.2.1;split<;>omega
   ·simp only[len,hl];split<;>omega
   ·simp only;rw[bT,sS,hg,hl];simp only[Ov];have:=h.2.2;omega
   ·left;simp only;rw[bT,hg];intro e;cases e
  ·exact hk
theorem GV {d:ah} {a b:Nm} (h:gG d):Keep d (jW d a b).1:=by
 unfold jW
 by_cases h0:iZ d [a,b]=0
 case neg=>rw[if_pos h0];exact Keep.refl h
 rw[if_neg (fun g=>g h0)]
 have hn:=(kN.1 h0).2.2 b (by simp)
 have hk:=FM h
 cases hg:dw d.files a with
 |none=>exact Keep.refl h
 |some f=>
  simp only
  have hf:=(abw h hg).1
  split
  ·have hk2:=hk.trans (acL (n:=a) hk.right)
   refine hk2.trans (NR hk2.right ⟨hn,hf.2.1,hf.2.2⟩ ?_ ?_)
   ·obtain⟨i,o,hs⟩:=mM h.asc (by have:=h.fl;omega) a
    have hu:=hs.usedD
    rw[<-hs.get,hg]at hu
    have hd:=h.2.2
    simp only[YI]
    rw[bT,sS]
    simp only[Ov]at hu ⊢
    omega
   ·right
    obtain⟨i,o,hs⟩:=mM h.asc (by have:=h.fl;omega) a
    have hi:=hs.get
    rw[hg]at hi
    subst hi
    have hd:=hs.del
    obtain⟨hil,-, -⟩:=hs.lt
    have hfl:=h.fl
    simp only[YI]
    rw[bT,<-hd,List.length_eraseIdx_of_lt hil]
    omega
  ·exact hk
theorem af2 {f g:aA}:∀ {l:List aA},g∈oM f l->g=f\/g∈l
 |[],h=> .inl (List.mem_singleton.1 h)
 |k::r,h=>by
  rw[oM]at h
  split at h
  ·rcases List.mem_cons.1 h with rfl | h
   ·exact .inr (List.mem_cons_self ..)
   ·rcases af2 h with e | e
    ·exact .inl e
    ·exact .inr (List.mem_cons_of_mem _ e)
  ·rcases List.mem_cons.1 h with rfl | h
   ·exact .inl rfl
   ·exact .inr (List.mem_filter.1 h).1
theorem NY {d:ah} {f:aA} (h:iV d) (hf:jw f.data):iV (yj d f):=fun g hg=>by
 rcases af2 hg with rfl | hg
 ·exact hf
 ·exact h g hg
theorem sK {d:ah} (h:iV d):iV (dA d).1:=fun g hg=>by rw[bT]at hg;exact h g hg
theorem adb {d:ah} {n:Nm} (h:iV d):iV (YI d n):=fun g hg=>h g (List.mem_filter.1 hg).1
theorem Q7 {d:ah} {n:Nm} {f:aA} (h:iV d) (hg:dw d.files n=some f):jw f.data:=h f (xB hg).1
theorem Du {d:ah} {n:Nm} {b:List Int} (h:iV d) (hb:jw b):iV (eY d n b).1:=by
 unfold eY
 split
 ·exact h
 ·split
  ·exact h
  ·rw[Ja]
   refine sK (NY h ?_)
   cases hg:dw d.files n with
   |none=>exact hb
   |some f=>exact(Q7 h hg).app hb
theorem Jo {d:ah} {n:Nm} (h:iV d):iV (nJ d n).1:=by
 unfold nJ
 split
 ·exact h
 ·cases hg:dw d.files n with
  |none=>exact h
  |some f=>simp only;split;exact NY (sK h) (show jw f.data from Q7 h hg);exact sK h
theorem Dp {d:ah} {n:Nm} (h:iV d):iV (gX d n).1:=by
 unfold gX
 split
 ·exact h
 ·cases hg:dw d.files n with
  |none=>exact h
  |some f=>simp only;split;exact adb (sK h);exact sK h
theorem aiE {d:ah} {n:Nm} {k:Int} (h:iV d):iV (Aj d n k).1:=by
 unfold Aj
 split
 ·exact h
 ·cases hg:dw d.files n with
  |none=>exact h
  |some f=>simp only;split;exact h;split;exact NY (sK h) (show jw (f.data.take _)from(Q7 h hg).take _);exact sK h
theorem MN {d:ah} {a b:Nm} (h:iV d):iV (jW d a b).1:=by
 unfold jW
 split
 ·exact h
 ·cases hg:dw d.files a with
  |none=>exact h
  |some f=>simp only;split;exact NY (adb (sK h)) (show jw f.data from Q7 h hg);exact sK h
def jX (p:ah×Int) (f:ah->ah×Int):ah×Int:=if p.2≠0 then p else f p.1
def qP (d:ah) (n:Nm):ah×Int:=if dw d.files n=none then (d,0)else Aj d n 0
def ac6 (d:ah) (n:Nm) (b:List Int):ah×Int:=jX (jX (qP d n) fun d=>eY d n b) fun d=>nJ d n
def uD (d:ah) (s:eF):ah×Int:=
 if ¬F8 s\/(eP d).2=1 then (d,1)else if (eP d).2=9 then (d,9)else if s.gen≠(eP d).1.gen+1 then (d,8)else ac6 d (nmS s.gen) (yO s)
theorem gy {p:ah×Int} {f:ah->ah×Int} (h:p.2≠0):jX p f=p:=if_pos h
theorem then_ok {p:ah×Int} {f:ah->ah×Int} (h:p.2=0):jX p f=f p.1:=if_neg (fun g=>g h)
theorem acS {d:ah} (h1:(eP d).2≠1) (h2:(eP d).2≠9):gG d/\d.down=false:=by
 unfold eP at h1 h2
 by_cases hd:gG d
 ·rw[if_neg (fun g=>g hd)]at h1 h2
  cases hw:d.down
  ·exact⟨hd,rfl⟩
  ·rw[hw]at h2;simp at h2
 ·rw[if_pos hd]at h1;simp at h1
theorem N7 (d:ah):0<=(eP d).1.gen/\(eP d).1.gen<=1000000000:=by
 unfold eP
 split
 ·simp
 ·split
  ·simp
  ·split
   ·simp
   ·exact ZV _ _
theorem Nh {d:ah} (h:gG d) (hw:d.down=false):(eP d).1=Ag d.files/\((eP d).2=7/\(Ag d.files).gen=0\/(eP d).2=0/\1<=(Ag d.files).gen):=by
 unfold eP
 rw[if_neg (fun g=>g h),hw,if_neg (by simp)]
 have:=ZV (ctF d.files n0) (ctF d.files n1)
 by_cases h0:(Ag d.files).gen=0
 ·rw[if_pos h0]
  exact⟨by unfold Ag at h0 ⊢; rw[ad7 h0],.inl ⟨rfl,h0⟩⟩
 ·rw[if_neg h0]
  exact⟨rfl,.inr ⟨rfl,by unfold Ag at h0 ⊢; omega⟩⟩
theorem X3 {d:ah} {n:Nm} (h:gG d) (hw:d.down=false) (hn:jK n):(RH d n).2=7↔dw d.files n=none:=by
 unfold RH
 rw[if_neg (fun g=>g (kN.2 ⟨h,hw,DW hn⟩))]
 cases dw d.files n<;>simp
theorem ad5 {d:ah} {n:Nm} (h:gG d):Keep d (qP d n).1:=by
 unfold qP;split
 ·exact Keep.refl h
 ·exact Yy h
theorem aer {d:ah} {n:Nm} (h:iV d):iV (qP d n).1:=by
 unfold qP;split
 ·exact h
 ·exact aiE h
theorem zJ {d:ah} {p:ah×Int} {f:ah->ah×Int} (h:Keep d p.1) (hf:∀e,gG e->Keep e (f e).1):Keep d (jX p f).1:=by
 unfold jX;split
 ·exact h
 ·exact h.trans (hf _ h.right)
theorem zO {p:ah×Int} {f:ah->ah×Int} (h:iV p.1) (hf:∀e,iV e->iV (f e).1):iV (jX p f).1:=by
 unfold jX;split
 ·exact h
 ·exact hf _ h
theorem agZ {d:ah} {n:Nm} {b:List Int} (h:gG d):Keep d (ac6 d n b).1:=zJ (zJ (ad5 h) fun e he=>rZ he) fun e he=>EN he
theorem agF {d:ah} {n:Nm} {b:List Int} (h:iV d) (hb:jw b):iV (ac6 d n b).1:=zO (zO (aer h) fun e he=>Du he hb) fun e he=>Jo he
theorem P9 {d:ah} {s:eF} (h:gG d):Keep d (uD d s).1:=by
 unfold uD;split
 ·exact Keep.refl h
 ·split
  ·exact Keep.refl h
  ·split
   ·exact Keep.refl h
   ·exact agZ h
theorem aeR {d:ah} {s:eF} (h:iV d):iV (uD d s).1:=by
 unfold uD;split
 ·exact h
 ·split
  ·exact h
  ·split
   ·exact h
   ·exact agF h (aeo s)
theorem aga {d:ah} {n:Nm} {b:List Int} (h:Gf d) (hn:jK n) (hb:b.length<900000):
 Wq (af (gV d n b) fun y5=>cnd (ax (ieq y5.2 0)) (some y5) (af (iM y5.1 n) fun y6=>cnd (ax (ieq y6.2 0)) (some y6) (some (y6.1,0)))) fun x=>x=jX (eY d n b) fun d=>nJ d n:=by
 rw[SV h hn.len hb,ai,gm,fC]
 by_cases h0:(eY d n b).2=0
 case neg=>rw[if_neg h0,ak,gy h0]
 rw[if_pos h0,then_ok h0]
 by_cases hd:gG d
 ·rw[aaM ((rZ hd).bnd h.fu) hn.len,ai,gm,fC]
  split
  ·rename_i g;rw[ak,<-g]
  ·rw[ak]
 ·have:(eY d n b).2≠0:=by
   have hf:iZ d [n]=1:=by unfold iZ;rw[if_pos hd]
   unfold eY;rw[if_pos (by rw[hf];decide),hf];show(1:Int)≠0;decide
  exact absurd h0 this
theorem akk {d:ah} {n:Nm} {k:Int} (h:Gf d):Gf (Aj d n k).1:=by
 by_cases hd:gG d
 ·exact(Yy hd).bnd h.fu
 ·have hf:iZ d [n]=1:=by unfold iZ;rw[if_pos hd]
  unfold Aj;rw[if_pos (by rw[hf];decide)];exact h
theorem Tm {d:ah} {s:eF} (h:Gf d) (hb:iV d) (hs:inI s.gen):iG d s=some (uD d s):=by
 refine Wq.eq ?_
 unfold iG uD
 rw[QZ,ai,gm,zD]
 by_cases hp:F8 s
 case neg=>rw[if_neg hp,ak,if_pos (.inl hp)]
 rw[if_pos hp,U5 h hb,ai]
 have hg:=N7 d
 have eg:wr .i64 (au (eP d).1.gen 1)=(eP d).1.gen+1:=by rw[au,bU (by omega) (by omega)]
 rw[eg]
 have rest:(eP d).2≠1->(eP d).2≠9->Wq (cnd (ax (ieq s.gen ((eP d).1.gen+1))) (some (d,(8:Int))) (af (jZ s.gen) fun y2=>af (ou s) fun y3=>af (lS d y2) fun y4=>cnd (ieq y4.2 7) (af (gV d y2 (toL y3)) fun y5=>cnd (ax (ieq y5.2 0)) (some y5) (af (iM y5.1 y2) fun y6=>cnd (ax (ieq y6.2 0)) (some y6) (some (y6.1,0)))) (af (wW d y2 0) fun y7=>cnd (ax (ieq y7.2 0)) (some y7) (af (gV y7.1 y2 (toL y3)) fun y8=>cnd (ax (ieq y8.2 0)) (some y8) (af (iM y8.1 y2) fun y9=>cnd (ax (ieq y9.2 0)) (some y9) (some (y9.1,0))))))) fun x=>x=if s.gen≠(eP d).1.gen+1 then (d,8)else ac6 d (nmS s.gen) (yO s):=by
  intro g1 g2
  obtain⟨hd,hw⟩:=acS g1 g2
  rw[gm,fC]
  by_cases he:s.gen=(eP d).1.gen+1
  case neg=>rw[if_neg he,ak,if_pos he]
  rw[if_pos he,if_neg (fun g=>g he),Nk (by have:=hp.1;omega),ai]
  refine(Sz s).bind fun a ha=> ?_
  rw[ha]
  have hn:=ZG s.gen
  have hbl:=aat s
  rw[aaB h hn.len,ai,fC]
  unfold ac6
  by_cases h7:(RH d (nmS s.gen)).2=7
  ·rw[if_pos h7]
   have hg:=(X3 hd hw hn).1 h7
   have:qP d (nmS s.gen)=(d,0):=by unfold qP;rw[if_pos hg]
   rw[this,show(jX (d,(0:Int)) fun d=>eY d (nmS s.gen) (yO s))=eY d (nmS s.gen) (yO s)from then_ok rfl]
   exact aga h hn (by omega)
  ·rw[if_neg h7]
   have hg:dw d.files (nmS s.gen)≠none:=fun g=>h7 ((X3 hd hw hn).2 g)
   have:qP d (nmS s.gen)=Aj d (nmS s.gen) 0:=by unfold qP;rw[if_neg hg]
   rw[this,anc h hn.len,ai,gm,fC]
   by_cases h0:(Aj d (nmS s.gen) 0).2=0
   ·rw[if_pos h0,show(jX (Aj d (nmS s.gen) 0) fun d=>eY d (nmS s.gen) (yO s))=eY (Aj d (nmS s.gen) 0).1 (nmS s.gen) (yO s)from then_ok h0]
    exact aga (akk h) hn (by omega)
   ·rw[if_neg h0,ak,show(jX (Aj d (nmS s.gen) 0) fun d=>eY d (nmS s.gen) (yO s))=Aj d (nmS s.gen) 0 from gy h0,gy h0]
 rw[fC,fC,fC]
 by_cases h1:(eP d).2=1
 ·rw[if_pos h1,if_pos h1,ak,if_pos (.inr h1),h1]
 have hneg:¬(¬F8 s\/(eP d).2=1):=fun g=>g.elim (fun g=>g hp) h1
 rw[if_neg h1,if_neg hneg]
 by_cases h9:(eP d).2=9
 ·rw[if_pos h9,ak,if_pos h9,h9]
 rw[if_neg h9,if_neg h9]
 exact rest h1 h9
def nI:Nm:=[115,110,97,112,46]
def jR (g:Int):Nm:=nR nI g
def Uc (v:Nat):Nm:=List.replicate (10 - (Fv 20 v).length) 48++Fv 20 v
def kC (g:Int):Prop:=1<=g/\g<=1000000000
theorem Ro {v:Nat} (h:v<=1000000000):(Uc v).length=10:=by
 have:=EW 20 v 10 (by omega) (by decide)
 unfold Uc;rw[List.length_append,List.length_replicate];omega
theorem RF (v:Nat):∀c∈Uc v,QW c:=by
 intro c hc
 rcases List.mem_append.1 hc with h | h
 ·rw[List.mem_replicate]at h;rw[h.2,tY];decide
 ·exact Rx _ _ c h
theorem RY {v:Nat} (h:v<=1000000000):qB (Uc v)=v:=by
 unfold Uc;rw[PI,Xy 20 v (by omega)]
theorem MZ {g:Int} (h:kC g):jR g=nI++Uc g.toNat:=by
 unfold jR nR Uc
 have:fmt10 g=Fv 20 g.toNat:=by unfold fmt10;rw[if_neg (by have:=h.1;omega)]
 rw[if_neg (by unfold kC at h;omega),this,List.append_assoc]
theorem agP {g:Int} (h:¬kC g):jR g=[]:=by
 unfold jR nR;rw[if_pos (by unfold kC at h;omega)]
theorem NQ {g:Int} (h:kC g):(jR g).length=15:=by
 rw[MZ h,List.length_append,Ro (by unfold kC at h;omega)];rfl
theorem ZO {g:Int} (h:kC g):jE nI (jR g)=g:=by
 have hv:g.toNat<=1000000000:=by unfold kC at h;omega
 have e1:(jR g).take nI.length=nI:=by rw[MZ h,List.take_left]
 have e2:(jR g).drop nI.length=Uc g.toNat:=by rw[MZ h,List.drop_left]
 unfold jE
 rw[e1,e2,if_pos ⟨rfl,Ro hv,RF _,by rw[RY hv];exact hv⟩,RY hv]
 unfold kC at h;omega
theorem aix {s:Nm} (h:jE nI s≠0):kC (jE nI s)/\s=jR (jE nI s):=by
 have hc:s.take nI.length=nI/\(s.drop nI.length).length=10/\(∀c∈s.drop nI.length,48<=c/\c<=57)/\qB (s.drop nI.length)<=1000000000:=by
  apply Classical.byContradiction
  intro g;exact h (if_neg g)
 have e:jE nI s=((qB (s.drop nI.length):Nat):Int):=if_pos hc
 obtain⟨h1,h2,h3,h4⟩:=hc
 have hg:kC (jE nI s):=by rw[e]at h ⊢; unfold kC;omega
 refine⟨hg,?_⟩
 rw[MZ hg,e,Int.toNat_natCast]
 have:=abn h2 h3 (J9 10 _ h2 h3)
 unfold Uc
 rw[this]
 conv=>lhs;rw[<-List.take_append_drop nI.length s,h1]
theorem acR {c:UInt8} (h:QW c):Me c:=by rw[tY]at h;exact .inr (.inl h)
theorem Vl {g:Int} (h:kC g):jK (jR g):=by
 refine⟨?_,by rw[NQ h];decide,by rw[NQ h];decide⟩
 rw[MZ h]
 intro c hc
 rcases List.mem_append.1 hc with k | k
 ·have:∀c∈nI,Me c:=by decide
  exact this c k
 ·exact acR (RF _ c k)
theorem afo {g:Int} (h:kC g):(fmt10 g).length<=10:=by
 have:fmt10 g=Fv 20 g.toNat:=by unfold fmt10;rw[if_neg (by have:=h.1;omega)]
 rw[this];exact EW 20 _ 10 (by unfold kC at h;omega) (by decide)
theorem Jq (g:Int):gQ g=some (jR g):=by
 refine Wq.eq ?_
 unfold gQ
 rw[iH]
 refine⟨fun h=> ?_,fun h=> ?_⟩
 ·simp only[aZ,bV,dF,dL,bI,bK,dG,dK,bY,dQ,bD,bG,dV,dW]at h
  rw[ak,agP (by unfold kC;omega)]
 ·simp only[aZ,bV,dF,dL,bI,bK,dG,dK,bY,dQ,bD,bG,dV,dW]at h
  have hg:kC g:=⟨by omega,by omega⟩
  have hl:=afo hg
  have ef:iO g 10=some (fmt10 g):=by
   unfold iO abv
   rw[aH (by rw[aZ,bD,aZ,bY,bY];unfold kC at hg;exact⟨rfl,by omega,by omega⟩)]
  have ew:wr .i64 (aB 10 (len (fmt10 g)))=((10 - (fmt10 g).length:Nat):Int):=by
   rw[aB,bU (by simp only[len];omega) (by simp only[len];omega)];simp only[len];omega
  have er:jV [(UInt8.ofNat 48)] ((10 - (fmt10 g).length:Nat):Int)=some (List.replicate (10 - (fmt10 g).length) 48):=by
   unfold jV aa3
   have e1:len [(UInt8.ofNat 48)]=1:=rfl
   rw[e1,aH (by simp only[aZ,bY,gu,Int.one_mul];exact⟨by omega,by omega,by omega⟩),uY,Mc];rfl
  rw[ef,ai,ew,er,ai,aH (jG (by simp only[len,au,List.length_replicate];omega)),aH (jG (by simp only[len,au,dB,List.length_append,List.length_replicate,List.length_cons,List.length_nil];omega)),ak]
  unfold jR nR
  rw[if_neg (by unfold kC at hg;omega)];rfl
theorem aef (s:Nm):rE s=some (decide (jE nI s≠0)):=by
 unfold rE
 congr 1
 rw[Bool.eq_iff_iff,bI,bG,decide_eq_true_iff];exact Iff.rfl
def iL:Nm:=[116,109,112]
theorem oK:jK iL:=by decide
def xY (gen:Int) (p:ah×Int) (f:aA):ah×Int:=if jE nI f.name≠0/\f.name≠jR gen then jX p fun d=>gX d f.name else p
def lg (gen:Int) (p:ah×Int) (l:List aA):ah×Int:=l.foldl (xY gen) p
def VA (gen:Int) (p:ah×Int):ah×Int×Int:=if p.2≠0 then (p.1,0,p.2)else (p.1,gen,0)
def vP (d:ah):ah×Int:=if dw d.files iL=none then (d,0)else gX d iL
def rD (d:ah) (gen lsn:Int) (b:List Int):ah×Int:=
 jX (jX (jX (jX (vP d) fun d=>eY d iL b) fun d=>nJ d iL) fun d=>jW d iL (jR gen)) fun d=>uD d ⟨gen,lsn⟩
open Classical in
noncomputable def lD (d:ah) (s:aC):ah×Int×Int:=
 if ¬iY s\/(eP d).2=1 then (d,0,1)else if (eP d).2=9 then (d,0,9)else if 1000000000<=(eP d).1.gen then (d,0,3)else
 VA ((eP d).1.gen+1) (lg ((eP d).1.gen+1) (rD d ((eP d).1.gen+1) s.lsn (encZ s)) (rD d ((eP d).1.gen+1) s.lsn (encZ s)).1.files)
theorem UC {gen:Int} {p:ah×Int} (h:p.2≠0):∀l,lg gen p l=p
 |[]=>rfl
 |f::l=>by
  unfold lg
  rw[List.foldl_cons]
  have:xY gen p f=p:=by unfold xY;split;exact gy h;rfl
  rw[this];exact UC h l
theorem agw (gen:Int) (p:ah×Int) (a b:List aA):lg gen p (a++b)=lg gen (lg gen p a) b:=by unfold lg;rw[List.foldl_append]
theorem agW (gen:Int) (p:ah×Int) (f:aA):lg gen p [f]=xY gen p f:=rfl
theorem abR {gen:Int} {d:ah} {p:ah×Int} {f:aA} (h:Keep d p.1):Keep d (xY gen p f).1:=by
 unfold xY;split
 ·exact zJ h fun e he=>rY he
 ·exact h
theorem acr {gen:Int} {p:ah×Int} {f:aA} (h:iV p.1):iV (xY gen p f).1:=by
 unfold xY;split
 ·exact zO h fun e he=>Dp he
 ·exact h
theorem Wh {gen:Int} {d:ah}:∀(l:List aA) {p:ah×Int},Keep d p.1->Keep d (lg gen p l).1
 |[],_,h=>h
 |f::l,p,h=>by unfold lg;rw[List.foldl_cons];exact Wh l (abR h)
theorem WX {gen:Int}:∀(l:List aA) {p:ah×Int},iV p.1->iV (lg gen p l).1
 |[],_,h=>h
 |f::l,p,h=>by unfold lg;rw[List.foldl_cons];exact WX l (acr h)
theorem UX {d:ah} (h:gG d):Keep d (vP d).1:=by
 unfold vP;split
 ·exact Keep.refl h
 ·exact rY h
theorem U4 {d:ah} (h:iV d):iV (vP d).1:=by
 unfold vP;split
 ·exact h
 ·exact Dp h
theorem aeY {d:ah} {gen lsn:Int} {b:List Int} (h:gG d):Keep d (rD d gen lsn b).1:=
 zJ (zJ (zJ (zJ (UX h) fun e he=>rZ he) fun e he=>EN he) fun e he=>GV he) fun e he=>P9 he
theorem adV {d:ah} {gen lsn:Int} {b:List Int} (h:iV d) (hb:jw b):iV (rD d gen lsn b).1:=
 zO (zO (zO (zO (U4 h) fun e he=>Du he hb) fun e he=>Jo he) fun e he=>MN he) fun e he=>aeR he
theorem ajP {d0 d:ah} {e:Int} {gen:Int} (hg:kC gen) (hd0:gG d0) (hf:inI d0.fuse) (hk:Keep d0 d):
 Wq (af (bM (fun v:Int×bZ=>aP (len d.files) d.files gen v.1 v.2) LF (0,bZ.mk d e)) fun y9=>cnd (ax (ieq y9.e 0)) (some (y9.d,(0:Int),y9.e)) (some (y9.d,gen,0))) fun x=>x=VA gen (lg gen (d,e) d.files):=by
 have hl:=hk.right.fl
 refine Wq.bind (lZ (n:=d.files.length) (step:=fun v:Int×bZ=>aP (len d.files) d.files gen v.1 v.2) (by omega)
  (fun i x=>(x.d,x.e)=lg gen (d,e) (d.files.take i)/\Keep d0 x.d) (fun w=>(w.d,w.e)=lg gen (d,e) d.files) ?_ ?_ _ 0 (Nat.zero_le _) ⟨rfl,hk⟩) ?_
 ·rintro i ⟨x,n⟩ hi ⟨h1,h2⟩
  simp only at h1 h2
  simp only[aP]
  have hnm:=(hk.right.2.1.1 _ (List.getElem_mem hi)).1
  have hnx:kQ hi=kQ hi:=rfl
  rw[aH (by rw[ig];simpa using hi),aH (inb _ i hi),bQ _ i hi,aef,ai,kQ hi,agw,<-h1,agW,zD]
  have hx:Gf x:=h2.bnd hf
  by_cases hs:jE nI d.files[i].name≠0
  ·rw[if_pos hs,Jq,ai,decide_eq_true hs,IA,gm,amq]
   unfold xY
   by_cases hq:d.files[i].name=jR gen
   ·rw[if_pos hq,ak,if_neg (fun g=>g.2 hq)]
    exact⟨eu (by omega),rfl,h2⟩
   ·rw[if_neg hq,if_pos ⟨hs,hq⟩,fC]
    by_cases h0:n=0
    ·rw[if_pos h0,Ws hx hnm.len,ai,ak,then_ok (by exact h0)]
     exact⟨eu (by omega),rfl,h2.trans (rY h2.right)⟩
    ·rw[if_neg h0,ak,gy (by exact h0)]
     exact⟨eu (by omega),rfl,h2⟩
  ·rw[if_neg hs,ai,decide_eq_false hs,Po,aX,ak]
   unfold xY
   rw[if_neg (fun g=>hs g.1)]
   exact⟨eu (by omega),rfl,h2⟩
 ·rintro⟨x,n⟩ ⟨h1,h2⟩
  simp only[aP]
  rw[dH (Nb _),ak]
  rw[List.take_length]at h1
  exact h1
 ·rintro⟨x,n⟩ hw
  rw[<-hw,gm,fC]
  unfold VA
  simp only
  by_cases h0:n=0
  ·rw[if_pos h0,ak,if_neg (fun g=>g h0)]
  ·rw[if_neg h0,ak,if_pos h0]
theorem anF {d0:ah} {p:ah×Int} {gen:Int} (hg:kC gen) (hd0:gG d0) (hf:inI d0.fuse) (hk:Keep d0 p.1) (l:List aA) (hl:l=p.1.files):
 Wq (af (bM (fun v:Int×bZ=>aP (len p.1.files) p.1.files gen v.1 v.2) LF (0,bZ.mk p.1 p.2)) fun y9=>cnd (ax (ieq y9.e 0)) (some (y9.d,(0:Int),y9.e)) (some (y9.d,gen,0))) fun x=>x=VA gen (lg gen p l):=by
 rw[hl];exact ajP (d:=p.1) (e:=p.2) hg hd0 hf hk
theorem Ai {d0:ah} {p q:ah×Int} {gen:Int} (hg:kC gen) (hd0:gG d0) (hf:inI d0.fuse) (hk:Keep d0 p.1) (hq:q=p):
 Wq (af (bM (fun v:Int×bZ=>aP (len p.1.files) p.1.files gen v.1 v.2) LF (0,bZ.mk p.1 p.2)) fun y9=>cnd (ax (ieq y9.e 0)) (some (y9.d,(0:Int),y9.e)) (some (y9.d,gen,0))) fun x=>x=VA gen (lg gen q q.1.files):=by
 rw[hq];exact anF hg hd0 hf hk _ rfl
theorem aaA {d:ah} {s:aC} (h:Gf d) (hb:iV d) (hr:ja s) (hsh:qI s):xO d s=some (lD d s):=by
 refine Wq.eq ?_
 unfold xO lD
 by_cases hR:iY s
 case neg=>
  rw[Tt hr hsh hR,ai,aH (by rfl),ak,if_pos (.inl hR)]
 have henc:(encZ s).length<900000:=by
  have h1:=WE s
  have h2:=hR.few
  omega
 rw[aaZ hr hsh hR,ai,dH (by rfl),U5 h hb,ai,fC,fC]
 by_cases h1:(eP d).2=1
 ·rw[if_pos h1,ak,if_pos (.inr h1),h1]
 have hneg:¬(¬iY s\/(eP d).2=1):=fun g=>g.elim (fun g=>g hR) h1
 rw[if_neg h1,if_neg hneg]
 by_cases h9:(eP d).2=9
 ·rw[if_pos h9,ak,if_pos h9,h9]
 rw[if_neg h9,if_neg h9,amW]
 by_cases hov:1000000000<=(eP d).1.gen
 ·rw[if_pos hov,ak,if_pos hov]
 rw[if_neg hov,if_neg hov]
 obtain⟨hd,hw⟩:=acS h1 h9
 have hgn:=N7 d
 have eg:wr .i64 (au (eP d).1.gen 1)=(eP d).1.gen+1:=by rw[au,bU (by omega) (by omega)]
 rw[eg]
 have hG:kC ((eP d).1.gen+1):=⟨by omega,by omega⟩
 generalize (eP d).1.gen+1=gen at hG ⊢
 have et:[(UInt8.ofNat 116),(UInt8.ofNat 109),(UInt8.ofNat 112)]=iL:=rfl
 rw[et]
 have hfu:=h.fu
 have hN:=Vl hG
 have k0:=UX hd
 have b0:=U4 hb
 rw[aaB h oK.len,ai]
 have hrz:(RH d iL).2=if dw d.files iL=none then 7 else 0:=by
  unfold RH
  rw[if_neg (fun g=>g (kN.2 ⟨hd,hw,DW oK⟩))]
  cases dw d.files iL<;>simp
 rw[hrz,fC]
 unfold rD
 by_cases hg:dw d.files iL=none
 ·have hc:vP d=(d,0):=by unfold vP;rw[if_pos hg]
  rw[if_pos hg,if_neg (by decide),hc,show(jX (d,(0:Int)) fun d=>eY d iL (encZ s))=eY d iL (encZ s)from then_ok rfl,SV h oK.len henc,ai]
  have k1:=rZ (n:=iL) (b:=encZ s) hd
  have b1:=Du (n:=iL) hb (TL s)
  have hcl:∀q:ah×Int,ieq q.2 0=true\/ieq q.2 0=false:=fun q=>by cases ieq q.2 0<;>simp
  generalize hp1:eY d iL (encZ s)=p1 at k1 b1 ⊢
  rcases hcl p1 with e1 | e1
  case inr=>
   simp only[dH e1]
   refine Ai hG hd hfu k1 ?_
   rw[bG]at e1
   rw[gy e1,gy e1,gy e1]
  rw[aH e1,aaM (k1.bnd hfu) oK.len,ai]
  rw[bD]at e1
  rw[then_ok (p:=p1) e1]
  have k2:=k1.trans (EN (n:=iL) k1.right)
  have b2:=Jo (n:=iL) b1
  generalize nJ p1.1 iL=p2 at k2 b2 ⊢
  rcases hcl p2 with e2 | e2
  case inr=>
   simp only[dH e2]
   refine Ai hG hd hfu k2 ?_
   rw[bG]at e2
   rw[gy e2,gy e2]
  rw[aH e2,Jq,ai,abZ (k2.bnd hfu) oK.len hN.len,ai]
  rw[bD]at e2
  rw[then_ok (p:=p2) e2]
  have k3:=k2.trans (GV (a:=iL) (b:=jR gen) k2.right)
  have b3:=MN (a:=iL) (b:=jR gen) b2
  generalize jW p2.1 iL (jR gen)=p3 at k3 b3 ⊢
  rcases hcl p3 with e3 | e3
  case inr=>
   simp only[dH e3]
   refine Ai hG hd hfu k3 ?_
   rw[bG]at e3
   rw[gy e3]
  rw[aH e3,Tm (k3.bnd hfu) b3 (by unfold kC at hG;unfold inI;simp only;omega),ai]
  rw[bD]at e3
  rw[then_ok (p:=p3) e3]
  exact Ai hG hd hfu (k3.trans (P9 k3.right)) rfl
 ·have hc:vP d=gX d iL:=by unfold vP;rw[if_neg hg]
  rw[if_neg hg,if_pos rfl,hc,Ws h oK.len,ai]
  have k0:=rY (n:=iL) hd
  have b0:=Dp (n:=iL) hb
  generalize gX d iL=p at k0 b0 ⊢
  have hcl0:ieq p.2 0=true\/ieq p.2 0=false:=by cases ieq p.2 0<;>simp
  rcases hcl0 with e0 | e0
  case inr=>
   simp only[dH e0]
   refine Ai hG hd hfu k0 ?_
   rw[bG]at e0
   rw[gy (p:=p) e0,gy e0,gy e0,gy e0]
  rw[aH e0,SV (k0.bnd hfu) oK.len henc,ai]
  rw[bD]at e0
  rw[then_ok (p:=p) e0]
  have k1:=k0.trans (rZ (n:=iL) (b:=encZ s) k0.right)
  have b1:=Du (n:=iL) b0 (TL s)
  have hcl:∀q:ah×Int,ieq q.2 0=true\/ieq q.2 0=false:=fun q=>by cases ieq q.2 0<;>simp
  generalize hp1:eY p.1 iL (encZ s)=p1 at k1 b1 ⊢
  rcases hcl p1 with e1 | e1
  case inr=>
   simp only[dH e1]
   refine Ai hG hd hfu k1 ?_
   rw[bG]at e1
   rw[gy e1,gy e1,gy e1]
  rw[aH e1,aaM (k1.bnd hfu) oK.len,ai]
  rw[bD]at e1
  rw[then_ok (p:=p1) e1]
  have k2:=k1.trans (EN (n:=iL) k1.right)
  have b2:=Jo (n:=iL) b1
  generalize nJ p1.1 iL=p2 at k2 b2 ⊢
  rcases hcl p2 with e2 | e2
  case inr=>
   simp only[dH e2]
   refine Ai hG hd hfu k2 ?_
   rw[bG]at e2
   rw[gy e2,gy e2]
  rw[aH e2,Jq,ai,abZ (k2.bnd hfu) oK.len hN.len,ai]
  rw[bD]at e2
  rw[then_ok (p:=p2) e2]
  have k3:=k2.trans (GV (a:=iL) (b:=jR gen) k2.right)
  have b3:=MN (a:=iL) (b:=jR gen) b2
  generalize jW p2.1 iL (jR gen)=p3 at k3 b3 ⊢
  rcases hcl p3 with e3 | e3
  case inr=>
   simp only[dH e3]
   refine Ai hG hd hfu k3 ?_
   rw[bG]at e3
   rw[gy e3]
  rw[aH e3,Tm (k3.bnd hfu) b3 (by unfold kC at hG;unfold inI;simp only;omega),ai]
  rw[bD]at e3
  rw[then_ok (p:=p3) e3]
  exact Ai hG hd hfu (k3.trans (P9 k3.right)) rfl
theorem VX (gen:Int) (p:ah×Int) (f:aA) (l:List aA):lg gen p (f::l)=lg gen (xY gen p f) l:=rfl
theorem ajE {d:ah} (h:Rz d):iV d:=fun f hf=>ah6 (h.files.1 f hf).data
theorem agO {d:ah} (h:Rz d) (hs:d.files.length<=70/\∀f∈d.files,f.name.length<=100/\f.data.length<=70000):Gf d:=
 ⟨fun f hf=>by have:=(hs.2 f hf).1;omega,h.fuse⟩
structure UpD (d:ah):Prop where
 right:gG d
 up:d.down=false
structure Xt (d e:ah) (c:Int):Prop where
 code:(c=0/\e.down=false)\/(c=9/\e.down=true/\d.fuse≠ -1)
 fuse:d.fuse= -1->e.fuse= -1
 keep:Keep d e
theorem Xt.up {d e:ah} {c:Int} (h:Xt d e c) (hc:c=0):UpD e:=⟨h.keep.right,by rcases h.code with g | g;exact g.2;rw[hc]at g;exact absurd g.1 (by decide)⟩
theorem Xt.cases {d e:ah} {c:Int} (h:Xt d e c):c=0\/(c=9/\e.down=true/\d.fuse≠ -1):=h.code.imp (·.1) id
theorem UpD.first {d:ah} (h:UpD d) {ns:List Nm} (hn:∀n∈ns,jK n):iZ d ns=0:=kN.2 ⟨h.right,h.up,hn⟩
theorem N8 {d:ah} (h:UpD d):((dA d).2=true/\(dA d).1.down=false)\/((dA d).2=false/\(dA d).1.down=true/\d.fuse≠ -1):=by
 have:=Qv d
 have hu:=h.up
 rcases this with ⟨h0,h1,h2,h3⟩ | ⟨h1,h2,h3,h4⟩
 ·exact .inr ⟨h3,h2,by omega⟩
 ·exact .inl ⟨h4,by rw[h3,hu]⟩
theorem EQ {d:ah} (h:d.fuse= -1):dA d=(d,true):=by unfold dA;rw[if_neg (by omega),if_pos h]
theorem J5 {d:ah} {n:Nm} {b:List Int} (h:UpD d) (hn:jK n):
 ((eY d n b).2=6/\(eY d n b).1=d/\(d.room<(iC d.files:Int)+(b.length:Int)\/(dw d.files n=none/\64<=d.files.length)))\/
 (Xt d (eY d n b).1 (eY d n b).2/\(∀m,dw (eY d n b).1.files m=if m=n then some ⟨n,((dw d.files n).getD ⟨n,[],0⟩).data++b,((dw d.files n).getD ⟨n,[],0⟩).sure⟩else dw d.files m)/\
   iC (eY d n b).1.files=iC d.files+b.length/\(eY d n b).1.files.length<=d.files.length+1):=by
 have hk:=rZ (n:=n) (b:=b) h.right
 have h0:=h.first (DW hn)
 unfold eY at hk ⊢
 rw[if_neg (fun g=>g h0)]at hk ⊢
 by_cases hc:d.room<(iC d.files:Int)+(b.length:Int)\/(dw d.files n=none/\64<=d.files.length)
 ·rw[if_pos hc];exact .inl ⟨rfl,rfl,hc⟩
 rw[if_neg hc]at hk ⊢
 right
 obtain⟨i,o,hs⟩:=mM h.right.asc (by have:=h.right.fl;omega) n
 generalize hF:(⟨n,((dw d.files n).getD ⟨n,[],0⟩).data++b,((dw d.files n).getD ⟨n,[],0⟩).sure⟩:aA)=F at hk ⊢
 have hFn:F.name=n:=by rw[<-hF]
 have g1:=hs.used F hFn
 have g2:=hs.long F hFn
 have hup:(yj d F).down=false:=h.up
 have hold:F.data.length=Ov o+b.length:=by
  rw[<-hF,<-hs.get]
  cases dw d.files n<;>simp [Ov]
 refine⟨⟨?_,?_,hk⟩,fun m=> ?_,?_,?_⟩
 ·have hsf:=Qv (yj d F)
  rcases hsf with ⟨q0,q1,q2,q3⟩ | ⟨q1,q2,q3,q4⟩
  ·right;unfold adT;rw[q3];exact⟨rfl,q2,by have:d.fuse=0:=q0;omega⟩
  ·left;unfold adT;rw[q4];exact⟨rfl,by rw[q3];exact hup⟩
 ·intro hf
  rw[Ja,EQ (show(yj d F).fuse= -1 from hf)];exact hf
 ·rw[Ja,bT]
  show dw (oM F d.files) m=_
  rw[get_put,hFn]
 ·rw[Ja,bT]
  show iC (oM F d.files)=_
  omega
 ·rw[Ja,bT]
  show(oM F d.files).length<=_
  rw[g2];split<;>omega
theorem PW {d:ah} {n:Nm} {f:aA} (h:UpD d) (hn:jK n) (hg:dw d.files n=some f):
 Xt d (nJ d n).1 (nJ d n).2/\((nJ d n).2=0->∀m,dw (nJ d n).1.files m=if m=n then some ⟨n,f.data,len f.data⟩else dw d.files m)/\((nJ d n).2≠0->(nJ d n).1.files=d.files)/\
  iC (nJ d n).1.files=iC d.files/\(nJ d n).1.files.length=d.files.length:=by
 have hk:=EN (n:=n) h.right
 have h0:=h.first (DW hn)
 unfold nJ at hk ⊢
 rw[if_neg (fun g=>g h0),hg]at hk ⊢
 simp only at hk ⊢
 obtain⟨i,o,hs⟩:=mM h.right.asc (by have:=h.right.fl;omega) n
 have g1:=hs.used ⟨n,f.data,len f.data⟩ rfl
 have g2:=hs.long ⟨n,f.data,len f.data⟩ rfl
 have ho:=hs.get
 rw[hg]at ho
 subst ho
 rcases N8 h with ⟨q1,q2⟩ | ⟨q1,q2,q3⟩
 ·rw[if_pos q1]at hk ⊢
  refine⟨⟨.inl ⟨rfl,q2⟩,fun hf=> ?_,hk⟩,fun _ m=> ?_,fun g=>absurd rfl g,?_,?_⟩
  ·rw[EQ hf];exact hf
  ·show dw (oM _ (dA d).1.files) m=_
   rw[bT,get_put]
  ·show iC (oM _ (dA d).1.files)=_
   rw[bT];simp only[Ov]at g1;omega
  ·show(oM _ (dA d).1.files).length=_
   rw[bT,g2];simp
 ·rw[if_neg (by rw[q1];decide)]at hk ⊢
  refine⟨⟨.inr ⟨rfl,q2,q3⟩,fun hf=>absurd hf q3,hk⟩,fun g=>absurd g (show ¬(9:Int)=0 by decide),fun _=>bT d,?_,?_⟩
  ·rw[bT]
  ·rw[bT]
theorem JW {d:ah} {n:Nm} {f:aA} (h:UpD d) (hn:jK n) (hg:dw d.files n=some f):
 Xt d (gX d n).1 (gX d n).2/\((gX d n).2=0->∀m,dw (gX d n).1.files m=if m=n then none else dw d.files m)/\((gX d n).2≠0->(gX d n).1.files=d.files)/\
  iC (gX d n).1.files<=iC d.files/\(gX d n).1.files.length<=d.files.length:=by
 have hk:=rY (n:=n) h.right
 have h0:=h.first (DW hn)
 unfold gX at hk ⊢
 rw[if_neg (fun g=>g h0),hg]at hk ⊢
 simp only at hk ⊢
 obtain⟨i,o,hs⟩:=mM h.right.asc (by have:=h.right.fl;omega) n
 have g1:=hs.usedD
 have g2:=XW n d.files
 rcases N8 h with ⟨q1,q2⟩ | ⟨q1,q2,q3⟩
 ·rw[if_pos q1]at hk ⊢
  refine⟨⟨.inl ⟨rfl,q2⟩,fun hf=> ?_,hk⟩,fun _ m=> ?_,fun g=>absurd rfl g,?_,?_⟩
  ·rw[EQ hf];exact hf
  ·show dw (xK _ (dA d).1.files) m=_
   rw[bT,VT]
  ·show iC (xK _ (dA d).1.files)<=_
   rw[bT];omega
  ·show(xK _ (dA d).1.files).length<=_
   rw[bT];exact g2
 ·rw[if_neg (by rw[q1];decide)]at hk ⊢
  refine⟨⟨.inr ⟨rfl,q2,q3⟩,fun hf=>absurd hf q3,hk⟩,fun g=>absurd g (show ¬(9:Int)=0 by decide),fun _=>bT d,?_,?_⟩
  ·rw[bT];exact Nat.le_refl _
  ·rw[bT];exact Nat.le_refl _
theorem abu {d:ah} {a b:Nm} {f:aA} (h:UpD d) (ha:jK a) (hb:jK b) (hg:dw d.files a=some f):
 Xt d (jW d a b).1 (jW d a b).2/\((jW d a b).2=0->∀m,dw (jW d a b).1.files m=if m=b then some ⟨b,f.data,f.sure⟩else if m=a then none else dw d.files m)/\((jW d a b).2≠0->(jW d a b).1.files=d.files)/\
  iC (jW d a b).1.files<=iC d.files/\(jW d a b).1.files.length<=d.files.length:=by
 have hk:=GV (a:=a) (b:=b) h.right
 have h0:=h.first (ns:=[a,b]) (by intro n hn;simp at hn;rcases hn with rfl | rfl<;>assumption)
 unfold jW at hk ⊢
 rw[if_neg (fun g=>g h0),hg]at hk ⊢
 simp only at hk ⊢
 obtain⟨i,o,hs⟩:=mM h.right.asc (by have:=h.right.fl;omega) a
 have g1:=hs.usedD
 have ho:=hs.get
 rw[hg]at ho
 subst ho
 have hd:=hs.del
 obtain⟨hil,-, -⟩:=hs.lt
 have hlen:(xK a d.files).length=d.files.length - 1:=by rw[<-hd,List.length_eraseIdx_of_lt hil]
 obtain⟨j,o2,hs2⟩:=mM (abD (n:=a) h.right.asc) (by have:=h.right.fl;omega) b
 have g3:=hs2.used ⟨b,f.data,f.sure⟩ rfl
 have g4:=hs2.long ⟨b,f.data,f.sure⟩ rfl
 rcases N8 h with ⟨q1,q2⟩ | ⟨q1,q2,q3⟩
 ·rw[if_pos q1]at hk ⊢
  refine⟨⟨.inl ⟨rfl,q2⟩,fun hf=> ?_,hk⟩,fun _ m=> ?_,fun g=>absurd rfl g,?_,?_⟩
  ·rw[EQ hf];exact hf
  ·show dw (oM _ (xK a (dA d).1.files)) m=_
   rw[bT,get_put,VT]
  ·show iC (oM _ (xK a (dA d).1.files))<=_
   rw[bT];simp only[Ov]at g1 g3;omega
  ·show(oM _ (xK a (dA d).1.files)).length<=_
   rw[bT,g4];split<;>omega
 ·rw[if_neg (by rw[q1];decide)]at hk ⊢
  refine⟨⟨.inr ⟨rfl,q2,q3⟩,fun hf=>absurd hf q3,hk⟩,fun g=>absurd g (show ¬(9:Int)=0 by decide),fun _=>bT d,?_,?_⟩
  ·rw[bT];exact Nat.le_refl _
  ·rw[bT];exact Nat.le_refl _
theorem agE {d:ah} {n:Nm} {f:aA} (h:UpD d) (hn:jK n) (hg:dw d.files n=some f):
 Xt d (Aj d n 0).1 (Aj d n 0).2/\((Aj d n 0).2=0->∀m,dw (Aj d n 0).1.files m=if m=n then some ⟨n,[],0⟩else dw d.files m)/\((Aj d n 0).2≠0->(Aj d n 0).1.files=d.files)/\
  iC (Aj d n 0).1.files<=iC d.files/\(Aj d n 0).1.files.length=d.files.length:=by
 have hk:=Yy (n:=n) (k:=0) h.right
 have h0:=h.first (DW hn)
 have hs0:=(abw h.right hg).1.2.1
 unfold Aj at hk ⊢
 rw[if_neg (fun g=>g h0),hg]at hk ⊢
 simp only at hk ⊢
 have hno:¬((0:Int)<0\/len f.data<0):=by simp only[len];omega
 have hsu:(if (0:Int)<f.sure then 0 else f.sure)=0:=by split<;>omega
 rw[if_neg hno,hsu,show(0:Int).toNat=0 from rfl,List.take_zero]at hk ⊢
 obtain⟨i,o,hs⟩:=mM h.right.asc (by have:=h.right.fl;omega) n
 have g1:=hs.used ⟨n,[],0⟩ rfl
 have g2:=hs.long ⟨n,[],0⟩ rfl
 have ho:=hs.get
 rw[hg]at ho
 subst ho
 rcases N8 h with ⟨q1,q2⟩ | ⟨q1,q2,q3⟩
 ·rw[if_pos q1]at hk ⊢
  refine⟨⟨.inl ⟨rfl,q2⟩,fun hf=> ?_,hk⟩,fun _ m=> ?_,fun g=>absurd rfl g,?_,?_⟩
  ·rw[EQ hf];exact hf
  ·show dw (oM _ (dA d).1.files) m=_
   rw[bT,get_put]
  ·show iC (oM _ (dA d).1.files)<=_
   rw[bT];simp only[Ov,List.length_nil]at g1;omega
  ·show(oM _ (dA d).1.files).length=_
   rw[bT,g2];simp
 ·rw[if_neg (by rw[q1];decide)]at hk ⊢
  refine⟨⟨.inr ⟨rfl,q2,q3⟩,fun hf=>absurd hf q3,hk⟩,fun g=>absurd g (show ¬(9:Int)=0 by decide),fun _=>bT d,?_,?_⟩
  ·rw[bT];exact Nat.le_refl _
  ·rw[bT]
theorem alH:iL≠n0:=by decide
theorem amz:iL≠n1:=by decide
theorem abq {g:Int} (h:kC g) {n:Nm} (hn:n.length≠15):jR g≠n:=fun e=>hn (by rw[<-e];exact NQ h)
theorem abB (g:Int):(nmS g).length=6:=by unfold nmS;split<;>rfl
theorem abr (g:Int):nmS g≠iL:=fun e=>by have:=abB g;rw[e]at this;exact absurd this (by decide)
theorem afc:jE nI iL=0:=by decide
theorem amH:jE nI n0=0:=by decide
theorem alS:jE nI n1=0:=by decide
theorem afw (g:Int):jE nI (nmS g)=0:=by unfold nmS;split;exact amH;exact alS
structure BI (D x:ah):Prop where
 oth:∀n,n≠iL->dw x.files n=dw D.files n
structure Uh (D:ah) (gen:Int) (b w:List Int) (x:ah):Prop where
 oth:∀n,n≠iL->n≠jR gen->n≠nmS gen->dw x.files n=dw D.files n
 snap:dw x.files (jR gen)=some ⟨jR gen,b,len b⟩
 slot:dw x.files (nmS gen)=dw D.files (nmS gen)\/∃f,dw x.files (nmS gen)=some f/\f.sure=0/\(f.data=[]\/f.data=w)
structure Kt (D:ah) (gen:Int) (b w:List Int) (x:ah):Prop where
 oth:∀n,n≠iL->n≠nmS gen->jE nI n=0->dw x.files n=dw D.files n
 snap:dw x.files (jR gen)=some ⟨jR gen,b,len b⟩
 slot:dw x.files (nmS gen)=some ⟨nmS gen,w,len w⟩
 olds:∀n,jE nI n≠0->n≠jR gen->dw x.files n=none\/dw x.files n=dw D.files n
 tmp:dw x.files iL=none
structure Ea (D x:ah) (m k:Nat):Prop where
 keep:Keep D x
 fuse:D.fuse= -1->x.fuse= -1
 used:iC x.files<=iC D.files+m
 long:x.files.length<=D.files.length+k
def anm (D:ah) (m:Nat):Prop:=D.room<(iC D.files:Int)+(m:Int)+20\/63<=D.files.length
def Pv (D:ah) (m:Nat) (c:Int):Prop:=(c=6/\anm D m)\/(c=9/\D.fuse≠ -1)
theorem Pv.ne {D:ah} {m:Nat} {c:Int} (h:Pv D m c):c≠0:=by
 rcases h with ⟨h, -⟩ | ⟨h, -⟩<;>rw[h]<;>decide
theorem Ea.pow {D x y:ah} {m k m' k':Nat} {c:Int} (h:Ea D x m k) (p:Xt x y c) (hu:iC y.files<=iC D.files+m') (hl:y.files.length<=D.files.length+k'):Ea D y m' k':=
 ⟨h.keep.trans p.keep,fun hf=>p.fuse (h.fuse hf),hu,hl⟩
theorem JR {D x y:ah} {m k:Nat} {c:Int} (h:Ea D x m k) (p:Xt x y c) (hc:c≠0) (mm:Nat):Pv D mm c:=by
 rcases p.cases with g | ⟨g,-, g2⟩
 ·exact absurd g hc
 ·exact .inr ⟨g,fun hf=>g2 (h.fuse hf)⟩
theorem amX {D:ah} (h:UpD D) (m:Nat):Ea D (vP D).1 0 0/\BI D (vP D).1/\(((vP D).2=0/\(vP D).1.down=false/\dw (vP D).1.files iL=none)\/Pv D m (vP D).2):=by
 have run0:Ea D D 0 0:=⟨Keep.refl h.right,id,Nat.le_refl _,Nat.le_refl _⟩
 unfold vP
 cases hg:dw D.files iL with
 |none=>rw[if_pos rfl];exact⟨run0,⟨fun n _=>rfl⟩,.inl ⟨rfl,h.up,hg⟩⟩
 |some f=>
  rw[if_neg (by intro e;cases e)]
  obtain⟨hp,h1,h2,h3,h4⟩:=JW h oK hg
  refine⟨run0.pow hp (by omega) (by omega),⟨fun n hn=> ?_⟩,?_⟩
  ·by_cases hc:(gX D iL).2=0
   ·rw[h1 hc n,if_neg hn]
   ·rw[h2 hc]
  ·by_cases hc:(gX D iL).2=0
   ·left;exact⟨hc,(hp.up hc).up,by rw[h1 hc,if_pos rfl]⟩
   ·right;exact JR run0 hp hc m
theorem anD {D:ah} {p:ah×Int} {b:List Int} (hr:Ea D p.1 0 0) (hA:BI D p.1) (hc:(p.2=0/\p.1.down=false/\dw p.1.files iL=none)\/Pv D b.length p.2):
 Ea D (jX p fun d=>eY d iL b).1 b.length 1/\BI D (jX p fun d=>eY d iL b).1/\
 (((jX p fun d=>eY d iL b).2=0/\(jX p fun d=>eY d iL b).1.down=false/\dw (jX p fun d=>eY d iL b).1.files iL=some ⟨iL,b,0⟩)\/Pv D b.length (jX p fun d=>eY d iL b).2):=by
 have hr1:Ea D p.1 b.length 1:=⟨hr.keep,hr.fuse,by have:=hr.used;omega,by have:=hr.long;omega⟩
 rcases hc with ⟨h0,hw,hg⟩ | hb
 case inr=>rw[gy hb.ne];exact⟨hr1,hA,.inr hb⟩
 rw[then_ok h0]
 have hu:UpD p.1:=⟨hr.keep.right,hw⟩
 rcases J5 (b:=b) hu oK with ⟨a1,a2,a3⟩ | ⟨a1,a2,a3,a4⟩
 ·refine⟨by rw[a2];exact hr1,by rw[a2];exact hA,.inr (.inl ⟨a1,?_⟩)⟩
  have:=hr.used;have:=hr.long;have:=hr.keep.room
  rcases a3 with g | ⟨-, g⟩
  ·left;omega
  ·right;omega
 ·refine⟨hr.pow a1 (by have:=hr.used;omega) (by have:=hr.long;omega),⟨fun n hn=> ?_⟩,?_⟩
  ·rw[a2,if_neg hn];exact hA.oth n hn
  ·by_cases hc:(eY p.1 iL b).2=0
   ·left;exact⟨hc,(a1.up hc).up,by rw[a2,if_pos rfl,hg];rfl⟩
   ·right;exact JR hr a1 hc _
theorem amS {D:ah} {p:ah×Int} {b:List Int} (hr:Ea D p.1 b.length 1) (hA:BI D p.1) (hc:(p.2=0/\p.1.down=false/\dw p.1.files iL=some ⟨iL,b,0⟩)\/Pv D b.length p.2):
 Ea D (jX p fun d=>nJ d iL).1 b.length 1/\BI D (jX p fun d=>nJ d iL).1/\
 (((jX p fun d=>nJ d iL).2=0/\(jX p fun d=>nJ d iL).1.down=false/\dw (jX p fun d=>nJ d iL).1.files iL=some ⟨iL,b,len b⟩)\/Pv D b.length (jX p fun d=>nJ d iL).2):=by
 rcases hc with ⟨h0,hw,hg⟩ | hb
 case inr=>rw[gy hb.ne];exact⟨hr,hA,.inr hb⟩
 rw[then_ok h0]
 have hu:UpD p.1:=⟨hr.keep.right,hw⟩
 obtain⟨a1,a2,a3,a4,a5⟩:=PW hu oK hg
 refine⟨hr.pow a1 (by have:=hr.used;omega) (by have:=hr.long;omega),⟨fun n hn=> ?_⟩,?_⟩
 ·by_cases hc:(nJ p.1 iL).2=0
  ·rw[a2 hc,if_neg hn];exact hA.oth n hn
  ·rw[a3 hc];exact hA.oth n hn
 ·by_cases hc:(nJ p.1 iL).2=0
  ·left;exact⟨hc,(a1.up hc).up,by rw[a2 hc,if_pos rfl]⟩
  ·right;exact JR hr a1 hc _
structure VN (D:ah) (gen:Int) (b:List Int) (x:ah):Prop where
 oth:∀n,n≠iL->n≠jR gen->dw x.files n=dw D.files n
 snap:dw x.files (jR gen)=some ⟨jR gen,b,len b⟩
 tmp:dw x.files iL=none
theorem walk3 {D:ah} {p:ah×Int} {b:List Int} {gen:Int} (hG:kC gen) (hr:Ea D p.1 b.length 1) (hA:BI D p.1) (hc:(p.2=0/\p.1.down=false/\dw p.1.files iL=some ⟨iL,b,len b⟩)\/Pv D b.length p.2):
 Ea D (jX p fun d=>jW d iL (jR gen)).1 b.length 1/\
 (((jX p fun d=>jW d iL (jR gen)).2=0/\(jX p fun d=>jW d iL (jR gen)).1.down=false/\VN D gen b (jX p fun d=>jW d iL (jR gen)).1)\/
  (BI D (jX p fun d=>jW d iL (jR gen)).1/\Pv D b.length (jX p fun d=>jW d iL (jR gen)).2)):=by
 rcases hc with ⟨h0,hw,hg⟩ | hb
 case inr=>rw[gy hb.ne];exact⟨hr,.inr ⟨hA,hb⟩⟩
 rw[then_ok h0]
 have hu:UpD p.1:=⟨hr.keep.right,hw⟩
 have hne:jR gen≠iL:=abq hG (by decide)
 obtain⟨a1,a2,a3,a4,a5⟩:=abu hu oK (Vl hG) hg
 refine⟨hr.pow a1 (by have:=hr.used;omega) (by have:=hr.long;omega),?_⟩
 by_cases hc:(jW p.1 iL (jR gen)).2=0
 ·left
  refine⟨hc,(a1.up hc).up,⟨fun n h1 h2=> ?_,?_,?_⟩⟩
  ·rw[a2 hc,if_neg h2,if_neg h1];exact hA.oth n h1
  ·rw[a2 hc,if_pos rfl]
  ·rw[a2 hc,if_neg (Ne.symm hne),if_pos rfl]
 ·right
  exact⟨⟨fun n hn=>by rw[a3 hc];exact hA.oth n hn⟩,JR hr a1 hc _⟩
theorem VN.ct {D x:ah} {gen:Int} {b:List Int} (hG:kC gen) (h:VN D gen b x) {n:Nm} (h1:n≠iL) (h2:n.length≠15):dw x.files n=dw D.files n:=h.oth n h1 (Ne.symm (abq hG h2))
theorem walk4 {D:ah} {p:ah×Int} {b:List Int} {gen lsn:Int} (hD:UpD D) (hG:kC gen) (hs:F8 ⟨gen,lsn⟩) (hgen:gen=(eP D).1.gen+1) (hr:Ea D p.1 b.length 1)
 (hc:(p.2=0/\p.1.down=false/\VN D gen b p.1)\/(BI D p.1/\Pv D b.length p.2)):
 Ea D (jX p fun d=>uD d ⟨gen,lsn⟩).1 (b.length+20) 2/\
 (((jX p fun d=>uD d ⟨gen,lsn⟩).2=0/\(jX p fun d=>uD d ⟨gen,lsn⟩).1.down=false/\Kt D gen b (yO ⟨gen,lsn⟩) (jX p fun d=>uD d ⟨gen,lsn⟩).1)\/
  ((BI D (jX p fun d=>uD d ⟨gen,lsn⟩).1\/Uh D gen b (yO ⟨gen,lsn⟩) (jX p fun d=>uD d ⟨gen,lsn⟩).1)/\Pv D b.length (jX p fun d=>uD d ⟨gen,lsn⟩).2)):=by
 have hr1:Ea D p.1 (b.length+20) 2:=⟨hr.keep,hr.fuse,by have:=hr.used;omega,by have:=hr.long;omega⟩
 rcases hc with ⟨h0,hw,hB⟩ | ⟨hA,hb⟩
 case inr=>rw[gy hb.ne];exact⟨hr1,.inr ⟨.inl hA,hb⟩⟩
 rw[then_ok h0]
 have hu:UpD p.1:=⟨hr.keep.right,hw⟩
 generalize p.1=x at hr hr1 hB hu ⊢
 clear h0 hw
 have c0:ctF x.files n0=ctF D.files n0:=by unfold ctF;rw[hB.ct hG (Ne.symm alH) (by decide)]
 have c1:ctF x.files n1=ctF D.files n1:=by unfold ctF;rw[hB.ct hG (Ne.symm amz) (by decide)]
 obtain⟨r1,r2⟩:=Nh hu.right hu.up
 obtain⟨q1,q2⟩:=Nh hD.right hD.up
 have hz:Ag x.files=Ag D.files:=by unfold Ag;rw[c0,c1]
 have hn1:(eP x).2≠1:=by rcases r2 with ⟨g, -⟩ | ⟨g, -⟩<;>rw[g]<;>decide
 have hn9:(eP x).2≠9:=by rcases r2 with ⟨g, -⟩ | ⟨g, -⟩<;>rw[g]<;>decide
 have hw:uD x ⟨gen,lsn⟩=ac6 x (nmS gen) (yO ⟨gen,lsn⟩):=by
  unfold uD
  rw[if_neg (fun g=>g.elim (fun g=>g hs) hn1),if_neg hn9,if_neg (fun g=>g (by simp only;rw[r1,hz,<-q1];exact hgen))]
 rw[hw]
 have hnm:=ZG gen
 have hwl:=aat ⟨gen,lsn⟩
 generalize yO ⟨gen,lsn⟩=w at hwl ⊢
 have hsl:=hB.ct hG (abr gen) (by rw[abB];decide)
 have hne:jR gen≠nmS gen:=abq hG (by rw[abB];decide)
 have s0:Ea D (qP x (nmS gen)).1 b.length 1/\(∀n,n≠nmS gen->dw (qP x (nmS gen)).1.files n=dw x.files n)/\
  (((qP x (nmS gen)).2=0/\(qP x (nmS gen)).1.down=false/\(dw (qP x (nmS gen)).1.files (nmS gen)=none\/dw (qP x (nmS gen)).1.files (nmS gen)=some ⟨nmS gen,[],0⟩))\/
   (Pv D b.length (qP x (nmS gen)).2))/\(dw (qP x (nmS gen)).1.files (nmS gen)=dw x.files (nmS gen)\/dw (qP x (nmS gen)).1.files (nmS gen)=some ⟨nmS gen,[],0⟩):=by
  unfold qP
  cases hg:dw x.files (nmS gen)with
  |none=>rw[if_pos rfl];exact⟨hr,fun _ _=>rfl,.inl ⟨rfl,hu.up,.inl hg⟩,.inl hg⟩
  |some f=>
   rw[if_neg (by intro e;cases e)]
   obtain⟨a1,a2,a3,a4,a5⟩:=agE hu hnm hg
   refine⟨hr.pow a1 (by have:=hr.used;omega) (by have:=hr.long;omega),fun n hn=> ?_,?_,?_⟩
   ·by_cases hc:(Aj x (nmS gen) 0).2=0
    ·rw[a2 hc,if_neg hn]
    ·rw[a3 hc]
   ·by_cases hc:(Aj x (nmS gen) 0).2=0
    ·left;exact⟨hc,(a1.up hc).up,.inr (by rw[a2 hc,if_pos rfl])⟩
    ·right;exact JR hr a1 hc _
   ·by_cases hc:(Aj x (nmS gen) 0).2=0
    ·right;rw[a2 hc,if_pos rfl]
    ·left;rw[a3 hc];exact hg
 obtain⟨s1,s2,s3,s4⟩:=s0
 unfold ac6
 generalize qP x (nmS gen)=y at s1 s2 s3 s4 ⊢
 have toB:∀z:ah,(∀n,n≠nmS gen->dw z.files n=dw x.files n)->(dw z.files (nmS gen)=dw x.files (nmS gen)\/∃f,dw z.files (nmS gen)=some f/\f.sure=0/\(f.data=[]\/f.data=w))->Uh D gen b w z:=fun z g1 g2=>
  ⟨fun n h1 h2 h3=>by rw[g1 n h3];exact hB.oth n h1 h2,by rw[g1 _ hne];exact hB.snap,g2.imp (fun g=>by rw[g,hsl]) id⟩
 have s4':dw y.1.files (nmS gen)=dw x.files (nmS gen)\/∃f,dw y.1.files (nmS gen)=some f/\f.sure=0/\(f.data=[]\/f.data=w):=s4.imp id fun g=>⟨_,g,rfl,.inl rfl⟩
 have s1':Ea D y.1 (b.length+20) 2:=⟨s1.keep,s1.fuse,by have:=s1.used;omega,by have:=s1.long;omega⟩
 rcases s3 with ⟨g0,gw,gs⟩ | gb
 case inr=>
  rw[gy gb.ne,gy gb.ne]
  exact⟨s1',.inr ⟨.inr (toB _ s2 s4'),gb⟩⟩
 rw[then_ok (p:=y) g0]
 have hyu:UpD y.1:=⟨s1.keep.right,gw⟩
 have hold:(dw y.1.files (nmS gen)).getD ⟨nmS gen,[],0⟩=⟨nmS gen,[],0⟩:=by
  rcases gs with g | g<;>rw[g]<;>rfl
 rcases J5 (b:=w) hyu hnm with ⟨a1,a2,a3⟩ | ⟨a1,a2,a3,a4⟩
 ·rw[gy (by rw[a1];decide)]
  refine⟨by rw[a2];exact s1',.inr ⟨.inr (by rw[a2];exact toB _ s2 s4'),.inl ⟨a1,?_⟩⟩⟩
  have:=s1.used;have:=s1.long;have:=s1.keep.room
  rcases a3 with g | ⟨-, g⟩
  ·left;omega
  ·right;omega
 rw[hold]at a2
 simp only[List.nil_append]at a2
 have t1:Ea D (eY y.1 (nmS gen) w).1 (b.length+20) 2:=s1.pow a1 (by have:=s1.used;omega) (by have:=s1.long;omega)
 have t2:∀n,n≠nmS gen->dw (eY y.1 (nmS gen) w).1.files n=dw x.files n:=fun n hn=>by rw[a2,if_neg hn];exact s2 n hn
 have t3:dw (eY y.1 (nmS gen) w).1.files (nmS gen)=some ⟨nmS gen,w,0⟩:=by rw[a2,if_pos rfl]
 by_cases hc:(eY y.1 (nmS gen) w).2=0
 case neg=>
  rw[gy hc]
  exact⟨t1,.inr ⟨.inr (toB _ t2 (.inr ⟨_,t3,rfl,.inr rfl⟩)),JR s1 a1 hc _⟩⟩
 rw[then_ok hc]
 have hzu:=a1.up hc
 obtain⟨b1,b2,b3,b4,b5⟩:=PW hzu hnm t3
 have u1:Ea D (nJ (eY y.1 (nmS gen) w).1 (nmS gen)).1 (b.length+20) 2:=t1.pow b1 (by have:=t1.used;omega) (by have:=t1.long;omega)
 refine⟨u1,?_⟩
 by_cases hc2:(nJ (eY y.1 (nmS gen) w).1 (nmS gen)).2=0
 ·left
  refine⟨hc2,(b1.up hc2).up,⟨fun n h1 h2 h3=> ?_,?_,?_,fun n h1 h2=> .inr ?_,?_⟩⟩
  ·rw[b2 hc2,if_neg h2,t2 n h2]
   by_cases e:n=jR gen
   ·rw[e,ZO hG]at h3;unfold kC at hG;omega
   ·exact hB.oth n h1 e
  ·rw[b2 hc2,if_neg hne,t2 _ hne];exact hB.snap
  ·rw[b2 hc2,if_pos rfl]
  ·have hns:n≠nmS gen:=fun e=>h1 (by rw[e];exact afw gen)
   have hnt:n≠iL:=fun e=>h1 (by rw[e];exact afc)
   rw[b2 hc2,if_neg hns,t2 n hns];exact hB.oth n hnt h2
  ·rw[b2 hc2,if_neg (Ne.symm (abr gen)),t2 _ (Ne.symm (abr gen))];exact hB.tmp
 ·right
  exact⟨.inr (toB _ (fun n hn=>by rw[b3 hc2];exact t2 n hn) (.inr ⟨_,by rw[b3 hc2];exact t3,rfl,.inr rfl⟩)),JR t1 b1 hc2 _⟩
theorem aau {l:List aA} {f:aA} (h:Ji (f::l)):∀g∈l,g.name≠f.name:=fun g hg=>(Uy ((List.pairwise_cons.1 h).1 g hg)).symm
theorem get_mem {l:List aA} (h:Ji l) {f:aA} (hf:f∈l):dw l f.name=some f:=by
 induction l with
 |nil=>cases hf
 |cons g l ih=>
  rw[pU]
  rcases List.mem_cons.1 hf with rfl | hf
  ·rw[if_pos rfl]
  ·rw[if_neg (fun e=>aau h f hf e.symm)]
   exact ih (List.pairwise_cons.1 h).2 hf
theorem Qc {D:ah} {gen:Int} {b w:List Int} {M K:Nat} (hG:kC gen):∀(l:List aA) (p:ah×Int),Ji l->(∀f∈l,jK f.name)->Ea D p.1 M K->p.2=0->p.1.down=false->Kt D gen b w p.1->
 (∀f∈l,jE nI f.name≠0->f.name≠jR gen->dw p.1.files f.name≠none)->
 Ea D (lg gen p l).1 M K/\Kt D gen b w (lg gen p l).1/\
 (((lg gen p l).2=0/\(lg gen p l).1.down=false/\(∀f∈l,jE nI f.name≠0->f.name≠jR gen->dw (lg gen p l).1.files f.name=none)/\(∀n,dw p.1.files n=none->dw (lg gen p l).1.files n=none))\/
  ((lg gen p l).2=9/\D.fuse≠ -1))
 |[],p,_,_,hr,h0,hw,hC,_=>⟨hr,hC,.inl ⟨h0,hw,fun f hf=>(by cases hf),fun n h=>h⟩⟩
 |f::l,p,ha,hn,hr,h0,hw,hC,hp=>by
  rw[VX]
  have hal:=(List.pairwise_cons.1 ha).2
  have hnl:∀g∈l,jK g.name:=fun g hg=>hn g (List.mem_cons_of_mem _ hg)
  by_cases hs:jE nI f.name≠0/\f.name≠jR gen
  case neg=>
   have e:xY gen p f=p:=by unfold xY;rw[if_neg hs]
   rw[e]
   obtain⟨g1,g2,g3⟩:=Qc hG l p hal hnl hr h0 hw hC (fun g hg=>hp g (List.mem_cons_of_mem _ hg))
   refine⟨g1,g2,g3.imp (fun⟨q1,q2,q3,q4⟩=>⟨q1,q2,fun g hg h1 h2=> ?_,q4⟩) id⟩
   rcases List.mem_cons.1 hg with rfl | hg
   ·exact absurd ⟨h1,h2⟩ hs
   ·exact q3 g hg h1 h2
  have hu:UpD p.1:=⟨hr.keep.right,hw⟩
  have hne:=hp f (List.mem_cons_self ..) hs.1 hs.2
  obtain⟨k,hk⟩:∃k,dw p.1.files f.name=some k:=by
   cases h:dw p.1.files f.name with
   |none=>exact absurd h hne
   |some k=>exact⟨k,rfl⟩
  obtain⟨a1,a2,a3,a4,a5⟩:=JW hu (hn f (List.mem_cons_self ..)) hk
  have e:xY gen p f=gX p.1 f.name:=by unfold xY;rw[if_pos hs,then_ok h0]
  rw[e]
  have hr1:Ea D (gX p.1 f.name).1 M K:=hr.pow a1 (by have:=hr.used;omega) (by have:=hr.long;omega)
  have hf0:f.name≠iL:=fun g=>hs.1 (by rw[g];exact afc)
  have hfS:f.name≠nmS gen:=fun g=>hs.1 (by rw[g];exact afw gen)
  by_cases hc:(gX p.1 f.name).2=0
  ·have get:=a2 hc
   have hC1:Kt D gen b w (gX p.1 f.name).1:=by
    refine⟨fun n h1 h2 h3=> ?_,?_,?_,fun n h1 h2=> ?_,?_⟩
    ·rw[get,if_neg (fun g=>hs.1 (by rw[<-g];exact h3))];exact hC.oth n h1 h2 h3
    ·rw[get,if_neg (Ne.symm hs.2)];exact hC.snap
    ·rw[get,if_neg (Ne.symm hfS)];exact hC.slot
    ·rw[get];split
     ·exact .inl rfl
     ·exact hC.olds n h1 h2
    ·rw[get,if_neg (Ne.symm hf0)];exact hC.tmp
   obtain⟨g1,g2,g3⟩:=Qc hG l (gX p.1 f.name) hal hnl hr1 hc (a1.up hc).up hC1 (fun g hg h1 h2=>by
    rw[get,if_neg (aau ha g hg)]
    exact hp g (List.mem_cons_of_mem _ hg) h1 h2)
   refine⟨g1,g2,g3.imp (fun⟨q1,q2,q3,q4⟩=>⟨q1,q2,fun g hg h1 h2=> ?_,fun n hn2=>q4 n ?_⟩) id⟩
   ·rcases List.mem_cons.1 hg with rfl | hg
    ·exact q4 _ (by rw[get,if_pos rfl])
    ·exact q3 g hg h1 h2
   ·rw[get];split
    ·rfl
    ·exact hn2
  ·rw[UC hc]
   have get:=a3 hc
   refine⟨hr1,?_,.inr ?_⟩
   ·exact⟨fun n h1 h2 h3=>by rw[get];exact hC.oth n h1 h2 h3,by rw[get];exact hC.snap,by rw[get];exact hC.slot,fun n h1 h2=>by rw[get];exact hC.olds n h1 h2,by rw[get];exact hC.tmp⟩
   ·rcases a1.cases with g | ⟨g,-, g2⟩
    ·exact absurd g hc
    ·exact⟨g,fun hf=>g2 (hr.fuse hf)⟩
structure alM (D:ah) (gen:Int) (b w:List Int) (r:ah×Int×Int):Prop where
 run:Ea D r.1 (b.length+20) 2
 how:(r.2.2=0/\r.2.1=gen/\r.1.down=false/\Kt D gen b w r.1/\∀n,jE nI n≠0->n≠jR gen->dw r.1.files n=none)\/
  (r.2.1=0/\Pv D b.length r.2.2/\(BI D r.1\/Uh D gen b w r.1\/Kt D gen b w r.1))
theorem Ye {D:ah} {s:aC} (hD:UpD D) (hs:iY s) (hg:(eP D).1.gen<1000000000) (hl:0<=s.lsn/\s.lsn<=1000000000):
 alM D ((eP D).1.gen+1) (encZ s) (yO ⟨(eP D).1.gen+1,s.lsn⟩) (lD D s):=by
 have hgr:=N7 D
 obtain⟨q1,q2⟩:=Nh hD.right hD.up
 have hn1:(eP D).2≠1:=by rcases q2 with ⟨g, -⟩ | ⟨g, -⟩<;>rw[g]<;>decide
 have hn9:(eP D).2≠9:=by rcases q2 with ⟨g, -⟩ | ⟨g, -⟩<;>rw[g]<;>decide
 have hsave:lD D s=VA ((eP D).1.gen+1) (lg ((eP D).1.gen+1) (rD D ((eP D).1.gen+1) s.lsn (encZ s)) (rD D ((eP D).1.gen+1) s.lsn (encZ s)).1.files):=by
  unfold lD
  rw[if_neg (fun g=>g.elim (fun g=>g hs) hn1),if_neg hn9,if_neg (by omega)]
 rw[hsave]
 have hG:kC ((eP D).1.gen+1):=⟨by omega,by omega⟩
 have hsl:F8 ⟨(eP D).1.gen+1,s.lsn⟩:=⟨hG.1,hG.2,hl.1,hl.2⟩
 have w0:=amX hD (encZ s).length
 have w1:=anD (b:=encZ s) w0.1 w0.2.1 w0.2.2
 have w2:=amS w1.1 w1.2.1 w1.2.2
 have w3:=walk3 hG w2.1 w2.2.1 w2.2.2
 have w4:=walk4 hD hG hsl rfl w3.1 w3.2
 change Ea D (rD D ((eP D).1.gen+1) s.lsn (encZ s)).1 _ _/\(((rD D ((eP D).1.gen+1) s.lsn (encZ s)).2=0/\(rD D ((eP D).1.gen+1) s.lsn (encZ s)).1.down=false/\Kt D _ _ _ (rD D ((eP D).1.gen+1) s.lsn (encZ s)).1)\/((BI D (rD D ((eP D).1.gen+1) s.lsn (encZ s)).1\/Uh D _ _ _ (rD D ((eP D).1.gen+1) s.lsn (encZ s)).1)/\Pv D _ (rD D ((eP D).1.gen+1) s.lsn (encZ s)).2))at w4
 generalize (eP D).1.gen+1=gen at hG w4 ⊢
 generalize rD D gen s.lsn (encZ s)=p at w4 ⊢
 generalize encZ s=b at w4 ⊢
 obtain⟨hr,hc⟩:=w4
 rcases hc with ⟨h0,hw,hC⟩ | ⟨hAB,hb⟩
 case inr=>
  rw[UC hb.ne]
  unfold VA
  rw[if_pos hb.ne]
  exact⟨hr,.inr ⟨rfl,hb,hAB.imp id .inl⟩⟩
 obtain⟨g1,g2,g3⟩:=Qc hG p.1.files p hr.keep.right.asc (fun f hf=>(hr.keep.right.2.1.1 f hf).1) hr h0 hw hC (fun f hf _ _=>by rw[get_mem hr.keep.right.asc hf];intro e;cases e)
 generalize hq:lg gen p p.1.files=q at g1 g2 g3 ⊢
 rcases g3 with ⟨k1,k2,k3,k4⟩ | ⟨k1,k2⟩
 ·unfold VA
  rw[if_neg (fun g=>g k1)]
  refine⟨g1,.inl ⟨rfl,rfl,k2,g2,fun n h1 h2=> ?_⟩⟩
  show dw q.1.files n=none
  cases hp:dw p.1.files n with
  |none=>exact k4 n hp
  |some f=>
   obtain⟨m1,m2⟩:=xB hp
   have:=k3 f m1 (by rw[m2];exact h1) (by rw[m2];exact h2)
   rwa[m2]at this
 ·unfold VA
  rw[if_pos (by rw[k1];decide)]
  exact⟨g1,.inr ⟨rfl,.inr ⟨k1,k2⟩,.inr (.inr g2)⟩⟩
theorem agn {D:ah} {s:aC} (hb:iV D):iV (lD D s).1:=by
 unfold lD
 split
 ·exact hb
 ·split
  ·exact hb
  ·split
   ·exact hb
   ·have:=WX (gen:=(eP D).1.gen+1) (rD D ((eP D).1.gen+1) s.lsn (encZ s)).1.files (adV (gen:=(eP D).1.gen+1) (lsn:=s.lsn) hb (TL s))
    unfold VA
    split<;>exact this
def rQ:Nm:=[108,111,103,46]
def kK (g:Int):Nm:=nR rQ g
theorem Nq {g:Int} (h:kC g):kK g=rQ++Uc g.toNat:=by
 unfold kK nR Uc
 have:fmt10 g=Fv 20 g.toNat:=by unfold fmt10;rw[if_neg (by have:=h.1;omega)]
 rw[if_neg (by unfold kC at h;omega),this,List.append_assoc]
theorem agq {g:Int} (h:¬kC g):kK g=[]:=by
 unfold kK nR;rw[if_pos (by unfold kC at h;omega)]
theorem Tz {g:Int} (h:kC g):(kK g).length=14:=by
 rw[Nq h,List.length_append,Ro (by unfold kC at h;omega)];rfl
theorem EL {g:Int} (h:kC g):jE rQ (kK g)=g:=by
 have hv:g.toNat<=1000000000:=by unfold kC at h;omega
 have e1:(kK g).take rQ.length=rQ:=by rw[Nq h,List.take_left]
 have e2:(kK g).drop rQ.length=Uc g.toNat:=by rw[Nq h,List.drop_left]
 unfold jE
 rw[e1,e2,if_pos ⟨rfl,Ro hv,RF _,by rw[RY hv];exact hv⟩,RY hv]
 unfold kC at h;omega
theorem Uw {s:Nm} (h:jE rQ s≠0):kC (jE rQ s)/\s=kK (jE rQ s):=by
 have hc:s.take rQ.length=rQ/\(s.drop rQ.length).length=10/\(∀c∈s.drop rQ.length,48<=c/\c<=57)/\qB (s.drop rQ.length)<=1000000000:=by
  apply Classical.byContradiction
  intro g;exact h (if_neg g)
 have e:jE rQ s=((qB (s.drop rQ.length):Nat):Int):=if_pos hc
 obtain⟨h1,h2,h3,h4⟩:=hc
 have hg:kC (jE rQ s):=by rw[e]at h ⊢; unfold kC;omega
 refine⟨hg,?_⟩
 rw[Nq hg,e,Int.toNat_natCast]
 have:=abn h2 h3 (J9 10 _ h2 h3)
 unfold Uc
 rw[this]
 conv=>lhs;rw[<-List.take_append_drop rQ.length s,h1]
theorem aht {g k:Int} (h:kC g) (hk:kC k) (e:kK g=kK k):g=k:=by rw[<-EL h,e,EL hk]
theorem DL {g:Int} (h:kC g):jK (kK g):=by
 refine⟨?_,by rw[Tz h];decide,by rw[Tz h];decide⟩
 rw[Nq h]
 intro c hc
 rcases List.mem_append.1 hc with k | k
 ·have:∀c∈rQ,Me c:=by decide
  exact this c k
 ·exact acR (RF _ c k)
theorem Yp (g:Int):iQ g=some (kK g):=by
 refine Wq.eq ?_
 unfold iQ
 rw[iH]
 refine⟨fun h=> ?_,fun h=> ?_⟩
 ·simp only[aZ,bV,dF,dL,bI,bK,dG,dK,bY,dQ,bD,bG,dV,dW]at h
  rw[ak,agq (by unfold kC;omega)]
 ·simp only[aZ,bV,dF,dL,bI,bK,dG,dK,bY,dQ,bD,bG,dV,dW]at h
  have hg:kC g:=⟨by omega,by omega⟩
  have hl:=afo hg
  have ef:iO g 10=some (fmt10 g):=by
   unfold iO abv
   rw[aH (by rw[aZ,bD,aZ,bY,bY];unfold kC at hg;exact⟨rfl,by omega,by omega⟩)]
  have ew:wr .i64 (aB 10 (len (fmt10 g)))=((10 - (fmt10 g).length:Nat):Int):=by
   rw[aB,bU (by simp only[len];omega) (by simp only[len];omega)];simp only[len];omega
  have er:jV [(UInt8.ofNat 48)] ((10 - (fmt10 g).length:Nat):Int)=some (List.replicate (10 - (fmt10 g).length) 48):=by
   unfold jV aa3
   have e1:len [(UInt8.ofNat 48)]=1:=rfl
   rw[e1,aH (by simp only[aZ,bY,gu,Int.one_mul];exact⟨by omega,by omega,by omega⟩),uY,Mc];rfl
  rw[ef,ai,ew,er,ai,aH (jG (by simp only[len,au,List.length_replicate];omega)),aH (jG (by simp only[len,au,dB,List.length_append,List.length_replicate,List.length_cons,List.length_nil];omega)),ak]
  unfold kK nR
  rw[if_neg (by unfold kC at hg;omega)];rfl
def Hy (f:fM):Prop:=1<=f.epoch/\f.epoch<=1000000/\1<=f.lsn/\f.lsn<=1000000000/\1<=f.kind/\f.kind<=6
instance (f:fM):Decidable (Hy f):=by unfold Hy;infer_instance
def rowP:List fM->Int->Int->Prop
 |[],_,_=>True
 |f::r,n,e=>Hy f/\f.lsn=n/\e<=f.epoch/\rowP r (f.lsn+1) f.epoch
instance aij:∀(l:List fM) (n e:Int),Decidable (rowP l n e)
 |[],_,_=>isTrue trivial
 |f::r,n,e=>by
  unfold rowP
  have:=aij r (f.lsn+1) f.epoch
  infer_instance
theorem OX (f:fM):yN f=some (decide (Hy f)):=by
 refine Wq.dec ?_
 unfold yN Hy
 rw[ak]
 simp only[aZ,bV,dF,dL,bI,bK,dG,dK,bY,dQ,bD,bG,dV,dW]
 omega
theorem aeA {l:List fM} {n e:Int} (hl:l.length<999999):Kr l n e=some (decide (rowP l n e)):=by
 refine Wq.dec ?_
 unfold Kr
 refine Wq.bind (Q:=fun w=>match w with | .inl w=>w.1=false/\¬rowP l n e | .inr _=>rowP l n e)
  (lZ (n:=l.length) (step:=fun v:Int×Bool×Int×Int=>yI (len l) l v.1 v.2.1 v.2.2.1 v.2.2.2) hl (fun i x=>rowP l n e↔rowP (l.drop i) x.2.1 x.2.2) _ ?_ ?_ _ 0 (Nat.zero_le _) (by simp)) ?_
 ·rintro i ⟨q,a,b⟩ hi hx
  simp only at hx
  simp only[yI]
  rw[aH (by rw[ig];simpa using hi),aH (inb _ i hi),bQ _ i hi,OX,ai,iH]
  rw[List.drop_eq_getElem_cons hi,rowP]at hx
  refine⟨fun h=>(ak _).2 ⟨rfl,fun g=> ?_⟩,fun h=>(ak _).2 ⟨eu (by omega),?_⟩⟩
  ·obtain⟨g1,g2,g3, -⟩:=hx.1 g
   simp only[aZ,bV,dF,dL,bI,bK,dG,dK,bY,dQ,bD,bG,dV,dW,decide_eq_false_iff_not]at h
   rcases h with (h | h) | h
   ·exact h g1
   ·exact h g2
   ·omega
  ·simp only[aZ,bV,dF,dL,bI,bK,dG,dK,bY,dQ,bD,bG,dV,dW,decide_eq_true_iff]at h
   obtain⟨⟨h1,h2⟩,h3⟩:=h
   have h1':=h1
   unfold Hy at h1'
   have ew:wr .i64 (au l[i].lsn 1)=l[i].lsn+1:=by rw[au,bU (by omega) (by omega)]
   simp only
   rw[ew]
   exact hx.trans ⟨fun g=>g.2.2.2,fun g=>⟨h1,h2,h3,g⟩⟩
 ·rintro⟨q,a,b⟩ hx
  simp only[yI]
  rw[dH (Nb _),ak]
  rw[List.drop_length]at hx
  exact hx.2 trivial
 ·rintro(w | w) hw
  ·simp only[jB,ak];simp [hw.1,hw.2]
  ·simp only[jB,ak];simp only at hw;simp [hw]
def zk (w:dZ):Prop:=(1<=w.epoch/\w.epoch<=1000000)/\(1<=w.next/\w.next<=1000000001)/\(0<=w.sure/\w.sure<w.next)/\w.wait.length<=32/\(w.wait.length:Int)=w.next - 1 - w.sure/\rowP w.wait (w.sure+1) 1/\
 (∀f∈w.wait,f.epoch=w.epoch)/\((w.seg=0/\w.count=0)\/(1<=w.seg/\1<=w.count/\w.count<=8/\w.seg+w.count=w.sure+1))
instance (w:dZ):Decidable (zk w):=by unfold zk;infer_instance
structure Ae (w:dZ):Prop where
 epoch:inI w.epoch
 next:inI w.next
 sure:inI w.sure
 seg:inI w.seg
 count:inI w.count
 few:w.wait.length<999999
theorem akx {a b c:Int} (h1:0<=c) (h2:c<=1000000000) (ha:inI a) (hb:inI b):(band (band (band (band (ile 1 a) (ile 1 b)) (ile b 8)) (ile a (wr .i64 (au c 1)))) (ieq (wr .i64 (au a b)) (wr .i64 (au c 1)))=true)↔(1<=a/\1<=b/\b<=8/\a+b=c+1):=by
 have e1:wr .i64 (au c 1)=c+1:=by rw[au,bU (by omega) (by omega)]
 rw[e1]
 simp only[aZ,bV,dF,dL,bI,bK,dG,dK,bY,dQ,bD,bG,dV,dW,au]
 constructor
 ·rintro⟨⟨⟨⟨g1,g2⟩,g3⟩,g4⟩,g5⟩
  rw[bU (by omega) (by omega)]at g5
  exact⟨g1,g2,g3,g5⟩
 ·rintro⟨g1,g2,g3,g4⟩
  rw[bU (by omega) (by omega)]
  exact⟨⟨⟨⟨g1,g2⟩,g3⟩,by omega⟩,g4⟩
theorem Nv {w:dZ} (hw:Ae w):rX w=some (decide (zk w)):=by
 obtain⟨o1,o2,o3,o4,o5,hl⟩:=hw
 refine Wq.dec ?_
 unfold rX
 rw[iH]
 refine⟨fun h=>(ak _).2 ?_,fun h=> ?_⟩
 ·simp only[aZ,bV,dF,dL,bI,bK,dG,dK,bY,dQ,bD,bG,dV,dW]at h
  unfold zk
  constructor
  ·intro g;cases g
  ·rintro⟨g1,g2,g3, -⟩;omega
 simp only[aZ,bV,dF,dL,bI,bK,dG,dK,bY,dQ,bD,bG,dV,dW]at h
 have e1:wr .i64 (aB (wr .i64 (aB w.next 1)) w.sure)=w.next - 1 - w.sure:=by
  rw[aB,aB,bU (n:=w.next - 1) (by omega) (by omega),bU (by omega) (by omega)]
 have e2:wr .i64 (au w.sure 1)=w.sure+1:=by rw[au,bU (by omega) (by omega)]
 have hse:=akx (c:=w.sure) (by omega) (by omega) o4 o5
 rw[e1,e2]
 rw[e2]at hse
 have tail:∀(A B:Bool),(A=false->B=false->((∀f∈w.wait,f.epoch=w.epoch)/\(w.wait.length<=32/\(w.wait.length:Int)=w.next - 1 - w.sure/\rowP w.wait (w.sure+1) 1)))->((A=true\/B=true)->¬((∀f∈w.wait,f.epoch=w.epoch)/\(w.wait.length<=32/\(w.wait.length:Int)=w.next - 1 - w.sure/\rowP w.wait (w.sure+1) 1)))->
  Wq (cnd (bor A B) (some false) (cnd (ieq w.seg 0) (some (ieq w.count 0)) (some (band (band (band (band (ile 1 w.seg) (ile 1 w.count)) (ile w.count 8)) (ile w.seg (w.sure+1))) (ieq (wr .i64 (au w.seg w.count)) (w.sure+1)))))) fun b=>b=true↔zk w:=by
  intro A B h1 h2
  rw[iH]
  refine⟨fun hc=>(ak _).2 ?_,fun hc=> ?_⟩
  ·rw[dF]at hc
   unfold zk
   constructor
   ·intro g;cases g
   ·rintro⟨-, -, -, g4,g5,g6,g7, -⟩
    exact absurd ⟨g7,g4,g5,g6⟩ (h2 hc)
  ·rw[dL]at hc
   obtain⟨k1,k2,k3,k4⟩:=h1 hc.1 hc.2
   rw[fC]
   by_cases hs:w.seg=0
   ·rw[if_pos hs,ak,bD]
    unfold zk
    constructor
    ·intro g;exact⟨by omega,by omega,by omega,k2,k3,k4,k1,.inl ⟨hs,g⟩⟩
    ·rintro⟨-, -, -, -, -, -, -, g⟩
     rcases g with g | g
     ·exact g.2
     ·omega
   ·rw[if_neg hs,ak,hse]
    unfold zk
    constructor
    ·intro g;exact⟨by omega,by omega,by omega,k2,k3,k4,k1,.inr g⟩
    ·rintro⟨-, -, -, -, -, -, -, g⟩
     rcases g with g | g
     ·exact absurd g.1 hs
     ·exact g
 by_cases hA:w.wait.length<=32/\(w.wait.length:Int)=w.next - 1 - w.sure
 case neg=>
  have hAb:bor (ilt 32 (len w.wait)) (ax (ieq (len w.wait) (w.next - 1 - w.sure)))=true:=by
   simp only[aZ,bV,dF,dL,bI,bK,dG,dK,bY,dQ,bD,bG,dV,dW,len];omega
  rw[hAb,aU,aX,ai]
  simp only[vT,aU,aX]
  exact tail true false (fun g=>by cases g) (fun _ g=>hA ⟨g.2.1,g.2.2.1⟩)
 have hAb:bor (ilt 32 (len w.wait)) (ax (ieq (len w.wait) (w.next - 1 - w.sure)))=false:=by
  simp only[aZ,bV,dF,dL,bI,bK,dG,dK,bY,dQ,bD,bG,dV,dW,len];omega
 rw[hAb,bJ,bH,aeA hl,ai]
 simp only[iD]
 by_cases hr:rowP w.wait (w.sure+1) 1
 case neg=>
  rw[decide_eq_false hr]
  simp only[bJ,aU,aX,vT]
  exact tail true false (fun g=>by cases g) (fun _ g=>hr g.2.2.2)
 rw[decide_eq_true hr]
 simp only[aU,bJ,bH,iD]
 refine Wq.bind (Q:=fun w'=>match w' with | .inl k=>0<=k/\¬∀f∈w.wait,f.epoch=w.epoch | .inr _=>∀f∈w.wait,f.epoch=w.epoch)
  (lZ (n:=w.wait.length) (step:=fun v:Int×Int=>dI (len w.wait) w.wait w.epoch w.next w.sure w.seg w.count w.wait v.1 v.2) hl (fun i x=>∀f∈w.wait.take i,f.epoch=w.epoch) _ ?_ ?_ _ 0 (Nat.zero_le _) (by simp)) ?_
 ·rintro i x hi hx
  simp only[dI]
  rw[aH (by rw[ig];simpa using hi),aH (inb _ i hi),bQ _ i hi,gm,fC]
  split
  ·rename_i g
   refine(ak _).2 ⟨eu (by omega),?_⟩
   rw[kQ hi]
   intro f hf
   rcases List.mem_append.1 hf with c | c
   ·exact hx f c
   ·rw[List.mem_singleton.1 c];exact g
  ·rename_i g
   exact(ak _).2 ⟨by omega,fun k=>g (k _ (List.getElem_mem hi))⟩
 ·rintro x hx
  simp only[dI]
  rw[dH (Nb _),ak]
  rwa[List.take_length]at hx
 ·rintro(k | k) hk
  ·simp only[jB]
   have:=tail false (ile 0 k) (fun _ g=>by rw[dQ]at g;have:=hk.1;omega) (fun _ g=>hk.2 g.1)
   simpa only[iD] using this
  ·simp only[jB]
   exact tail false false (fun _ _=>⟨hk,hA.1,hA.2,hr⟩) (fun g=>by rcases g with g | g<;>cases g)
theorem ak3 (s:Nm):0<=jE rQ s:=by unfold jE;split<;>omega
theorem Rl (s:Nm):Ez s=some (jE rQ s):=rfl
def BD (l:List aA):List Int:=(l.map fun f=>jE rQ f.name).filter fun n=>decide (0<n)
def ajZ (d:ah):List Int:=if gG d then BD d.files else []
theorem ahA (a b:List aA):BD (a++b)=BD a++BD b:=by simp [BD]
theorem agl (f:aA):BD [f]=if 0<jE rQ f.name then [jE rQ f.name]else []:=by
 unfold BD;by_cases h:0<jE rQ f.name<;>simp [h]
theorem aas (l:List aA):(BD l).length<=l.length:=by
 unfold BD;exact Nat.le_trans (List.length_filter_le ..) (by simp)
theorem W9 {d:ah} (hn:nameB d):wO d=some (ajZ d):=by
 refine Wq.eq ?_
 unfold wO ajZ
 rw[A7 hn,ai,gm,zD]
 by_cases hd:gG d
 case neg=>rw[if_neg hd,ak,if_neg hd]
 rw[if_pos hd,if_pos hd]
 have hl:=hd.fl
 refine Wq.bind (lZ (n:=d.files.length) (step:=fun v:Int×List Int=>oU (len d.files) d.files v.1 v.2) (by omega) (fun i x=>x=BD (d.files.take i)) (fun w=>w=BD d.files) ?_ ?_ _ 0 (Nat.zero_le _) (by simp [BD])) fun w hw=>(ak _).2 hw
 ·rintro i x hi rfl
  simp only[oU]
  have h1:=aas (d.files.take i)
  rw[List.length_take]at h1
  rw[aH (by rw[ig];simpa using hi),aH (inb _ i hi),bQ _ i hi,Rl,ai,G5,aH (jG (by simp only[len,dB,List.length_append,List.length_singleton];omega)),kQ hi,ahA,agl]
  split
  ·rw[ak];exact⟨eu (by omega),rfl⟩
  ·rw[ak];exact⟨eu (by omega),by simp⟩
 ·rintro x rfl
  simp only[oU]
  rw[dH (Nb _),ak,List.take_length]
def ny (w:dZ) (d:ah):Prop:=zk w/\gG d/\(∀f∈d.files,jE rQ f.name<=w.sure)/\(w.seg=0\/∃f,dw d.files (kK w.seg)=some f/\(f.data.length:Int)=w.count*72)
theorem QX {d:ah} (ha:Ji d.files) {g:Int} (hg:kC g) {f:aA} (hf:f∈d.files):jE rQ f.name=g↔dw d.files (kK g)=some f:=by
 constructor
 ·intro h
  have hne:jE rQ f.name≠0:=by rw[h];unfold kC at hg;omega
  have:=(Uw hne).2
  rw[h]at this
  rw[<-this]
  exact get_mem ha hf
 ·intro h
  rw[(xB h).2,EL hg]
theorem zk.seg {w:dZ} (h:zk w) (hs:w.seg≠0):kC w.seg/\w.seg<=w.sure/\1<=w.count/\w.count<=8/\w.seg+w.count=w.sure+1:=by
 obtain⟨-, h2,h3,-, -, -, -, h8⟩:=h
 rcases h8 with h8 | h8
 ·exact absurd h8.1 hs
 ·exact⟨⟨h8.1,by omega⟩,by omega,h8.2.1,h8.2.2.1,h8.2.2.2⟩
open Classical in
theorem Xd {w:dZ} {d:ah} (hw:Ae w) (hn:nameB d):zl w d=some (decide (ny w d)):=by
 refine Wq.dec ?_
 unfold zl
 rw[Nv hw,ai]
 by_cases hp:zk w
 case neg=>
  rw[decide_eq_false hp]
  simp only[bJ,aU,aX,ai,vT,bH]
  rw[ak]
  exact⟨fun g=>(by cases g),fun g=>absurd g.1 hp⟩
 rw[decide_eq_true hp,aU,bJ,bH,A7 hn,ai,iD,gm,zD]
 by_cases hd:gG d
 case neg=>
  rw[if_neg hd,ak]
  exact⟨fun g=>(by cases g),fun g=>absurd g.2.1 hd⟩
 rw[if_pos hd]
 have hl:=hd.fl
 have hus:=hd.us
 have esz:∀f∈d.files,(f.data.length:Int)<=65536:=fun f hf=>by
  obtain⟨j,hj,rfl⟩:=List.mem_iff_getElem.1 hf
  have:=zn hj
  have:=FK d.files (j+1)
  omega
 have ecnt:wr .i64 (gu w.count 72)=w.count*72:=by
  have:=hp.2.2.2.2.2.2.2
  rw[gu,bU (by omega) (by omega)]
 refine Wq.bind (Q:=fun x=>match x with
  |.inl b=>b=false/\¬∀f∈d.files,jE rQ f.name<=w.sure
  |.inr x=>(∀f∈d.files,jE rQ f.name<=w.sure)/\(x.1=true↔(w.seg=0\/∃f∈d.files,w.seg≠0/\jE rQ f.name=w.seg/\(f.data.length:Int)=w.count*72)))
  (lZ (n:=d.files.length) (step:=fun v:Int×Bool×Bool=>wL (len d.files) d.files w v.1 v.2.1 v.2.2) (by omega)
    (fun i x=>(∀f∈d.files.take i,jE rQ f.name<=w.sure)/\(x.1=true↔(w.seg=0\/∃f∈d.files.take i,w.seg≠0/\jE rQ f.name=w.seg/\(f.data.length:Int)=w.count*72))) _ ?_ ?_ _ 0 (Nat.zero_le _) ⟨by simp,by simp only[bD,List.take_zero];simp⟩) ?_
 ·rintro i ⟨v,q⟩ hi ⟨h1,h2⟩
  simp only at h2
  simp only[wL]
  have hnn:=ak3 d.files[i].name
  rw[aH (by rw[ig];simpa using hi),aH (inb _ i hi),bQ _ i hi,Rl,ai,ecnt,iH]
  refine⟨fun hc=>(ak _).2 ⟨eu (by omega),?_,?_⟩,fun hc=> ?_⟩
  ·simp only[aZ,bV,dF,dL,bI,bK,dG,dK,bY,dQ,bD,bG,dV,dW]at hc
   have hs:=hp.seg (by omega)
   rw[kQ hi]
   intro f hf
   rcases List.mem_append.1 hf with c | c
   ·exact h1 f c
   ·rw[List.mem_singleton.1 c];omega
  ·simp only[aZ,bV,dF,dL,bI,bK,dG,dK,bY,dQ,bD,bG,dV,dW]at hc
   have hs:=hp.seg (by omega)
   have hsz:w.seg≠0:=by omega
   simp only
   rw[bD,kQ hi]
   constructor
   ·intro g
    exact .inr ⟨d.files[i],List.mem_append_right _ (List.mem_singleton.2 rfl),hsz,hc.2,g⟩
   ·rintro(g | ⟨f,hf,-, g2,g3⟩)
    ·exact absurd g hsz
    ·have hfm:f∈d.files:=by
      rcases List.mem_append.1 hf with c | c
      ·exact List.mem_of_mem_take c
      ·rw[List.mem_singleton.1 c];exact List.getElem_mem hi
     have e1:=(QX hd.asc hs.1 hfm).1 g2
     have e2:=(QX hd.asc hs.1 (List.getElem_mem hi)).1 hc.2
     rw[e1]at e2
     rw[<-Option.some.inj e2];exact g3
  ·rw[iH]
   refine⟨fun hc2=>(ak _).2 ⟨rfl,fun g=> ?_⟩,fun hc2=>(ak _).2 ⟨eu (by omega),?_,?_⟩⟩
   ·simp only[aZ,bV,dF,dL,bI,bK,dG,dK,bY,dQ,bD,bG,dV,dW]at hc2
    have:=g _ (List.getElem_mem hi)
    omega
   ·simp only[aZ,bV,dF,dL,bI,bK,dG,dK,bY,dQ,bD,bG,dV,dW]at hc2
    rw[kQ hi]
    intro f hf
    rcases List.mem_append.1 hf with c | c
    ·exact h1 f c
    ·rw[List.mem_singleton.1 c];exact hc2
   ·simp only[aZ,bV,dF,dL,bI,bK,dG,dK,bY,dQ,bD,bG,dV,dW]at hc hc2
    simp only
    rw[h2,kQ hi]
    constructor
    ·rintro(g | ⟨f,hf,g⟩)
     ·exact .inl g
     ·exact .inr ⟨f,List.mem_append_left _ hf,g⟩
    ·rintro(g | ⟨f,hf,g1,g2,g3⟩)
     ·exact .inl g
     ·rcases List.mem_append.1 hf with c | c
      ·exact .inr ⟨f,c,g1,g2,g3⟩
      ·rw[List.mem_singleton.1 c]at g2
       have hs:=hp.seg g1
       have:=hs.1.1
       omega
 ·rintro⟨v,q⟩ ⟨h1,h2⟩
  simp only[wL]
  rw[dH (Nb _),ak]
  rw[List.take_length]at h1 h2
  exact⟨h1,h2⟩
 ·rintro(x | x) hx
  ·simp only[jB,ak]
   simp only at hx
   rw[hx.1]
   exact⟨fun g=>(by cases g),fun g=>absurd g.2.2.1 hx.2⟩
  ·simp only[jB,ak]
   simp only at hx
   rw[hx.2]
   unfold ny
   constructor
   ·rintro(g | ⟨f,hf,g1,g2,g3⟩)
    ·exact⟨hp,hd,hx.1,.inl g⟩
    ·exact⟨hp,hd,hx.1,.inr ⟨f,(QX hd.asc (hp.seg g1).1 hf).1 g2,g3⟩⟩
   ·rintro⟨-, -, -, g | ⟨f,g1,g2⟩⟩
    ·exact .inl g
    ·by_cases hs:w.seg=0
     ·exact .inl hs
     ·exact .inr ⟨f,(xB g1).1,hs,(QX hd.asc (hp.seg hs).1 (xB g1).1).2 g1,g2⟩
def NC (f:fM):List Int:=lY 72 4++lY f.epoch 4++lY f.lsn 8++lY f.kind 4++lY f.b0 8++lY f.b1 8++lY f.b2 8++lY f.b3 8++lY f.b4 8++lY f.b5 8
def TI (f:fM):List Int:=NC f++wF (zW (NC f))
theorem Qq (f:fM):(NC f).length=68:=by simp [NC,pq]
theorem aeP (f:fM):(TI f).length=72:=by simp [TI,Qq,wF]
theorem U3 (f:fM):jw (NC f):=by
 unfold NC
 exact((((((((((mF _ _).app (mF _ _)).app (mF _ _)).app (mF _ _)).app (mF _ _)).app (mF _ _)).app (mF _ _)).app (mF _ _)).app (mF _ _)).app (mF _ _))
theorem ac4 (f:fM):jw (TI f):=(U3 f).app (Qh _)
theorem anE (n:Int) {j:Nat} (hj:j<8):bP .u64 n ((8*j:Nat):Int)=n / 256^j:=by
 have h2:min (((8*j:Nat):Int).toNat) (IntKind.bits .u64)=8*j:=by
  simp only[IntKind.bits,Int.toNat_natCast];omega
 unfold bP
 rw[h2,Int.pow_mul,Int.fdiv_eq_ediv_of_nonneg _ (Int.le_of_lt (Int.pow_pos (by decide)))]
 rfl
theorem amd {n:Int} {i:Nat} (hi:i<8):ile 0 (wr .i64 (gu 8 (i:Int)))=true/\wr .u8 (bP .u64 (wr .u64 n) (wr .i64 (gu 8 (i:Int))))=n / 256^i%256:=by
 have h1:wr .i64 (gu 8 (i:Int))=((8*i:Nat):Int):=by
  unfold gu
  rw[bU (by omega) (by omega)];omega
 rw[h1,anE _ hi,afB,Ac]
 exact⟨jG (by omega),aiP n hi⟩
theorem ai4 {n:Int} {acc:List Int} (k:Nat) (hk:k<=8) (hl:acc.length<1000000):bM (fun v:Int×List Int=>aO (wr .u64 n) v.1 v.2) LF ((k:Int) - 1,acc)=some (acc++lY n k):=by
 refine Wq.eq (aiW (n:=k) (by omega) (fun i x=>x++lY n i=acc++lY n k/\x.length+i=acc.length+k) _ (fun i x hi hj=> ?_) (fun x hj=> ?_) acc ⟨rfl,rfl⟩)
 ·obtain⟨h1,h2⟩:=amd (n:=n) (i:=i) (by omega)
  simp only
  unfold aO
  rw[h2,aH (jG (by omega)),aH h1,aH (UF (n:=1000100) (by simp only[dB,List.length_append,List.length_cons,List.length_nil];omega) (by decide)),ak]
  refine⟨abd (by omega),?_,?_⟩
  ·rw[<-hj.1]
   show(x++[_])++lY n i=x++(_::lY n i)
   rw[List.append_assoc];rfl
  ·simp only[dB,List.length_append,List.length_cons,List.length_nil];omega
 ·simp only
  unfold aO
  rw[dH (KE (by omega)),ak]
  have:=hj.1
  simpa [lY] using this
theorem ad3 (c:Int):[wr .u8 c,wr .u8 (bP .u32 c 8),wr .u8 (bP .u32 c 16),wr .u8 (bP .u32 c 24)]=wF c:=by
 have t1:wr .u8 (bP .u32 c 8)=c / 256^1%256:=(MF (n:=c) (i:=1) (by decide)).2
 have t2:wr .u8 (bP .u32 c 16)=c / 256^2%256:=(MF (n:=c) (i:=2) (by decide)).2
 have t3:wr .u8 (bP .u32 c 24)=c / 256^3%256:=(MF (n:=c) (i:=3) (by decide)).2
 rw[t1,t2,t3,afB];rfl
theorem Xj {f:fM} (h:Hy f):Aq f=some (TI f,0):=by
 refine Wq.eq ?_
 unfold Aq
 rw[OX,decide_eq_true h,ai,aU,aX]
 have p4:=fun(n:Int) (acc:List Int) (hl:acc.length<1000000)=>ai4 (n:=n) (acc:=acc) 4 (by decide) hl
 have p8:=fun(n:Int) (acc:List Int) (hl:acc.length<1000000)=>ai4 (n:=n) (acc:=acc) 8 (by decide) hl
 have c4:((4:Nat):Int) - 1=3:=rfl
 have c8:((8:Nat):Int) - 1=7:=rfl
 simp only[c4]at p4
 simp only[c8]at p8
 have e72:(72:Int)=wr .u64 72:=rfl
 have L1:jT=aO:=rfl
 have L2:jI=aO:=rfl
 have L3:jy=aO:=rfl
 have L4:jO=aO:=rfl
 have L5:jC=aO:=rfl
 have L6:jH=aO:=rfl
 have L7:jF=aO:=rfl
 have L8:jM=aO:=rfl
 have L9:jJ=aO:=rfl
 have q72:bM (fun v:Int×List Int=>aO 72 v.1 v.2) LF (3,[])=some ([]++lY 72 4):=p4 72 [] (by simp)
 rw[L1,L2,L3,L4,L5,L6,L7,L8,L9,q72,ai,p4 _ _ (by simp [pq]),ai,p8 _ _ (by simp [pq]),ai,p4 _ _ (by simp [pq]),ai,p8 _ _ (by simp [pq]),ai,p8 _ _ (by simp [pq]),ai,p8 _ _ (by simp [pq]),ai,p8 _ _ (by simp [pq]),ai,p8 _ _ (by simp [pq]),ai,p8 _ _ (by simp [pq]),ai]
 have eH:[]++lY 72 4++lY f.epoch 4++lY f.lsn 8++lY f.kind 4++lY f.b0 8++lY f.b1 8++lY f.b2 8++lY f.b3 8++lY f.b4 8++lY f.b5 8=NC f:=by unfold NC;rw[List.nil_append]
 rw[eH,Y8 (by rw[Qq];decide) (U3 f),ai,ad3,aH (UF (n:=1000) (by simp [dB,Qq,wF]) (by decide)),ak]
 rfl
def rowB (l:List fM):List Int:=l.flatMap TI
theorem WV (l:List fM):(rowB l).length=72*l.length:=flat_length aeP l
theorem ahl (l:List fM):jw (rowB l):=BV fun x _=>ac4 x
theorem aji (a b:List fM):rowB (a++b)=rowB a++rowB b:=by simp [rowB]
theorem aeX {l:List fM} (hl:l.length<1000) (h:∀f∈l,Hy f):wV l=some (rowB l,0):=by
 refine Wq.eq ?_
 unfold wV
 refine Wq.bind (Q:=fun w=>match w with | .inl _=>False | .inr w=>w.1=rowB l)
  (lZ (n:=l.length) (step:=fun v:Int×List Int×Int×List Int=>yJ (len l) l v.1 v.2.1 v.2.2.1 v.2.2.2) (by omega) (fun i x=>x.1=rowB (l.take i)) _ ?_ ?_ _ 0 (Nat.zero_le _) (by simp [rowB])) ?_
 ·rintro i ⟨b,e,z⟩ hi hx
  simp only at hx
  subst hx
  simp only[yJ]
  have hbl:=WV (l.take (i+1))
  rw[List.length_take]at hbl
  rw[aH (by rw[ig];simpa using hi),aH (inb _ i hi),bQ _ i hi,Xj (h _ (List.getElem_mem hi)),ai]
  have eb:dB (rowB (l.take i)) (TI l[i])=rowB (l.take (i+1)):=by rw[kQ hi,aji];simp [dB,rowB]
  simp only[oN,aU,aX]
  rw[eb,aH (UF (n:=72000) (by omega) (by decide)),ak]
  exact⟨eu (by omega),rfl⟩
 ·rintro⟨b,e,z⟩ hx
  simp only at hx
  simp only[yJ]
  rw[dH (Nb _),ak]
  rwa[List.take_length]at hx
 ·rintro(w | w) hw
  ·exact hw.elim
  ·simp only[jB,ak];simp only at hw;rw[hw]
def yB (w:dZ):Int×Int:=if w.seg=0\/w.count=8 then (w.sure+1,0)else (w.seg,w.count)
def lV (w:dZ):Nat:=min w.wait.length (8 - (yB w).2).toNat
def wE (w:dZ):dZ:=⟨w.epoch,w.next,w.sure+(lV w:Int),(yB w).1,(yB w).2+(lV w:Int),w.wait.drop (lV w)⟩
def writeW (w:dZ) (d:ah):ah×Int:=jX (eY d (kK (yB w).1) (rowB (w.wait.take (lV w)))) fun d=>nJ d (kK (yB w).1)
def uN:Nat->dZ->ah->dZ×ah×Int
 |0,w,d=>(w,d,0)
 |k+1,w,d=>if w.wait=[]then (w,d,0)else if (writeW w d).2≠0 then (w,(writeW w d).1,(writeW w d).2)else uN k (wE w) (writeW w d).1
open Classical in
noncomputable def fA (w:dZ) (d:ah):dZ×ah×Int:=if ny w d then uN 40 w d else (w,d,1)
theorem adq:∀ {l:List fM} {n e:Int},rowP l n e->∀f∈l,Hy f
 |[],_,_,_,f,hf=>by cases hf
 |g::l,n,e,h,f,hf=>by
  unfold rowP at h
  rcases List.mem_cons.1 hf with rfl | hf
  ·exact h.1
  ·exact adq h.2.2.2 f hf
theorem Zo:∀ {l:List fM} {n e:Int} (k:Nat),k<=l.length->rowP l n e->rowP (l.drop k) (n+k) 1
 |l,n,e,0,_,h=>by
  rw[List.drop_zero,Int.natCast_zero,Int.add_zero]
  cases l with
  |nil=>trivial
  |cons f r=>unfold rowP at h ⊢; exact⟨h.1,h.2.1,h.1.1,h.2.2.2⟩
 |[],n,e,k+1,hk,h=>by simp at hk
 |f::r,n,e,k+1,hk,h=>by
  unfold rowP at h
  rw[List.drop_succ_cons]
  have:=Zo k (by simp at hk;omega) h.2.2.2
  rw[show n+((k+1:Nat):Int)=f.lsn+1+(k:Int) by rw[h.2.1];omega]
  exact this
theorem QD {w:dZ} (hw:zk w) (hne:w.wait≠[]):kC (yB w).1/\0<=(yB w).2/\(yB w).2<=7/\(yB w).1+(yB w).2=w.sure+1:=by
 obtain⟨h1,h2,h3,h4,h5,h6,h7,h8⟩:=hw
 have hl:0<w.wait.length:=List.length_pos_iff.2 hne
 unfold yB kC
 split
 ·simp only;omega
 ·rename_i h
  simp only
  rcases h8 with h8 | h8<;>omega
theorem LU {w:dZ} (hw:zk w) (hne:w.wait≠[]):1<=lV w/\lV w<=w.wait.length/\(lV w:Int)<=8 - (yB w).2/\(lV w:Int)=fJ (len w.wait) (8 - (yB w).2):=by
 obtain⟨-, g1,g2, -⟩:=QD hw hne
 have hl:0<w.wait.length:=List.length_pos_iff.2 hne
 have hl2:len w.wait=(w.wait.length:Int):=rfl
 rw[afX]
 unfold lV
 refine⟨by omega,by omega,by omega,?_⟩
 by_cases h:8 - (yB w).2<len w.wait
 ·rw[if_pos h];omega
 ·rw[if_neg h];omega
theorem Yl {w:dZ} (hw:zk w) (hne:w.wait≠[]):zk (wE w):=by
 obtain⟨g0,g1,g2,g3⟩:=QD hw hne
 obtain⟨t1,t2,t3, -⟩:=LU hw hne
 obtain⟨h1,h2,h3,h4,h5,h6,h7,h8⟩:=hw
 unfold kC at g0
 have hr:=Zo (lV w) t2 h6
 refine⟨h1,h2,⟨?_,?_⟩,?_,?_,?_,?_,.inr ⟨g0.1,?_,?_,?_⟩⟩
 ·simp only[wE];omega
 ·simp only[wE];omega
 ·simp only[wE,List.length_drop];omega
 ·simp only[wE,List.length_drop];omega
 ·simp only[wE]
  rw[show w.sure+(lV w:Int)+1=w.sure+1+(lV w:Int) by omega]
  exact hr
 ·intro f hf
  exact h7 f (List.mem_of_mem_drop hf)
 ·simp only[wE];omega
 ·simp only[wE];omega
 ·simp only[wE];omega
theorem UO {w:dZ} {d:ah} (h:gG d):Keep d (writeW w d).1:=zJ (rZ h) fun e he=>EN he
theorem abV {w:dZ} {d:ah} (h:iV d):iV (writeW w d).1:=zO (Du h (ahl _)) fun e he=>Jo he
theorem Zi {l:List fM} (h:l.length<1000000):cO l=some l:=by unfold cO;exact oV h
abbrev CmR:=(Int×ah×dZ×ah×dZ) ⊕ ((Int×ah×dZ×ah×dZ) ⊕ (Int×ah×dZ×ah×dZ))
theorem aiY {w:dZ} {d:ah} (hw:zk w) (hne:w.wait≠[]) (hd:Gf d) (hdp:gG d) (v0:Int) (v1:ah) (v2:dZ) {N S C T:Int} (hN:N=(lV w:Int)) (hS:S=(yB w).1) (hC:C=(yB w).2+(lV w:Int)) (hT:T=w.sure+(lV w:Int)):
 Wq (cnd (band (ile 0 N) (ile N (len w.wait))) (af (wV (ay w.wait (itn N))) fun y0=>af (iQ S) fun y1=>af (gV d y1 y0.1) fun y2=>cnd (ieq y2.2 0) (af (iQ S) fun y3=>af (iM y2.1 y3) fun y4=>cnd (ax (ieq y4.2 0)) (some (Sum.inr (Sum.inl (y4.2,y4.1,w,y4.1,w)))) (cnd (band (ile 0 N) (ile N (len w.wait))) (af (cO (aF w.wait (itn N))) fun y5=>some (Sum.inl (v0,v1,v2,y4.1,dZ.mk w.epoch w.next T S C y5))) none)) (cnd (ax (ieq y2.2 0)) (some (Sum.inr (Sum.inl (y2.2,y2.1,w,y2.1,w)))) (cnd (band (ile 0 N) (ile N (len w.wait))) (af (cO (aF w.wait (itn N))) fun y6=>some (Sum.inl (v0,v1,v2,y2.1,dZ.mk w.epoch w.next T S C y6))) none))) none)
  fun x:CmR=>x=if (writeW w d).2≠0 then Sum.inr (Sum.inl ((writeW w d).2,(writeW w d).1,w,(writeW w d).1,w))else Sum.inl (v0,v1,v2,(writeW w d).1,wE w):=by
 obtain⟨g0,g1,g2,g3⟩:=QD hw hne
 obtain⟨t1,t2,t3, -⟩:=LU hw hne
 subst hN hS hC hT
 have hin:band (ile 0 (lV w:Int)) (ile (lV w:Int) (len w.wait))=true:=DV (jG (by omega)) (jG (by simp only[len];omega))
 have hfr:=adq hw.2.2.2.2.2.1
 have hlen:=hw.2.2.2.1
 have hn:=DL g0
 rw[uY,aH hin,show ay w.wait (lV w)=w.wait.take (lV w)from rfl,aeX (by rw[List.length_take];omega) (fun f hf=>hfr f (List.mem_of_mem_take hf)),ai,Yp]
 change Wq (af (some (kK (yB w).1)) _) _
 have hbl:=WV (w.wait.take (lV w))
 rw[List.length_take]at hbl
 rw[ai,SV hd hn.len (by simp only;omega),ai,fC]
 unfold writeW
 simp only
 by_cases h0:(eY d (kK (yB w).1) (rowB (w.wait.take (lV w)))).2=0
 ·have hk:=rZ (n:=kK (yB w).1) (b:=rowB (w.wait.take (lV w))) hdp
  rw[if_pos h0,ai,aaM (hk.bnd hd.fu) hn.len,ai,gm,fC,then_ok h0]
  by_cases h1:(nJ (eY d (kK (yB w).1) (rowB (w.wait.take (lV w)))).1 (kK (yB w).1)).2=0
  ·rw[if_pos h1,aH hin,show aF w.wait (lV w)=w.wait.drop (lV w)from rfl,Zi (by rw[List.length_drop];omega),ai,ak,if_neg (fun g=>g h1)]
   rfl
  ·rw[if_neg h1,ak,if_pos h1]
 ·rw[if_neg h0,gm,fC,if_neg h0,ak,gy h0,if_pos h0]
theorem abj {w:dZ} (h:zk w):Ae w:=by
 obtain⟨h1,h2,h3,h4,h5,h6,h7,h8⟩:=h
 refine⟨⟨by omega,by omega⟩,⟨by omega,by omega⟩,⟨by omega,by omega⟩,?_,?_,by omega⟩<;>unfold inI<;>rcases h8 with h8 | h8<;>omega
theorem aeb (k:Nat) {w:dZ} {d:ah} (h:w.wait=[]):uN k w d=(w,d,0):=by
 cases k with
 |zero=>rfl
 |succ k=>rw[uN,if_pos h]
theorem aaW {w:dZ} {d:ah} (hw:Ae w) (hd:Gf d):xw w d=some (fA w d):=by
 classical
 refine Wq.eq ?_
 unfold xw fA
 rw[Xd hw hd.nm,ai,gm,zD]
 by_cases hf:ny w d
 case neg=>rw[if_neg hf,ak,if_neg hf]
 rw[if_pos hf,if_pos hf]
 refine Wq.bind (Q:=fun x:(Int×ah×dZ×ah×dZ) ⊕ (Int×ah×dZ×ah×dZ)=>match x with
  |.inl x=>uN 40 w d=(x.2.2.1,x.2.1,x.1)
  |.inr x=>uN 40 w d=(x.2.2.2.2,x.2.2.2.1,0))
  (WR (step:=fun v:Int×ah×dZ×ah×dZ=>pX v.1 v.2.1 v.2.2.1 v.2.2.2.1 v.2.2.2.2)
    (fun v=>v.2.2.2.2.wait.length)
    (fun v=>zk v.2.2.2.2/\gG v.2.2.2.1/\inI v.2.2.2.1.fuse/\∃k,v.2.2.2.2.wait.length<=k/\uN 40 w d=uN k v.2.2.2.2 v.2.2.2.1) _ ?_ LF _ (adM (by have:=hf.1.2.2.2.1;simp only;omega)) ⟨hf.1,hf.2.1,hd.fu,40,by have:=hf.1.2.2.2.1;simp only;omega,rfl⟩) ?_
 ·rintro⟨v0,v1,v2,e,u⟩ ⟨hu,he,hfu,k,hk,hkk⟩
  simp only at hu he hfu hk hkk
  simp only[pX]
  rw[G5]
  by_cases hz:0<len u.wait
  case neg=>
   have hnil:u.wait=[]:=List.eq_nil_of_length_eq_zero (by simp only[len]at hz;omega)
   rw[if_neg hz,ak]
   simp only
   rw[hkk,aeb k hnil]
  have hne:u.wait≠[]:=fun h=>by rw[h]at hz;simp [len]at hz
  rw[if_pos hz]
  obtain⟨s0,s1,s2,s3⟩:=QD hu hne
  obtain⟨t1,t2,t3,t4⟩:=LU hu hne
  have hsure:=hu.2.2.1
  have hnx:=hu.2.1
  have e1:wr .i64 (au u.sure 1)=u.sure+1:=by rw[au,bU (by omega) (by omega)]
  obtain⟨k,rfl⟩:∃j,k=j+1:=⟨k - 1,by have:=List.length_pos_iff.2 hne;omega⟩
  have hk2:uN (k+1) u e=if (writeW u e).2≠0 then (u,(writeW u e).1,(writeW u e).2)else uN k (wE u) (writeW u e).1:=by rw[uN,if_neg hne]
  rw[hk2]at hkk
  have hkw:=UO (w:=u) he
  rw[iH]
  refine⟨fun hc=> ?_,fun hc=> ?_⟩
  ·have hseg:yB u=(u.sure+1,0):=by unfold yB;simp only[aZ,bV,dF,dL,bI,bK,dG,dK,bY,dQ,bD,bG,dV,dW]at hc;rw[if_pos hc]
   rw[hseg]at t3 t4 s0 s3
   have e8:fJ (len u.wait) 8=(lV u:Int):=by rw[t4];rfl
   rw[e8,e1]
   have e9:wr .i64 (au u.sure (lV u:Int))=u.sure+(lV u:Int):=by rw[au,bU (by omega) (by omega)]
   have e10:wr .i64 (au 0 (lV u:Int))=(lV u:Int):=by rw[au,bU (by omega) (by omega)];omega
   rw[e9,e10]
   refine(aiY hu hne (he.bnd hfu) he v0 v1 v2 rfl (by rw[hseg]) (by rw[hseg];simp) rfl).mono fun x hx=> ?_
   rw[hx]
   by_cases hwz:(writeW u e).2≠0
   ·rw[if_pos hwz]at hkk ⊢
    exact hkk
   ·rw[if_neg hwz]at hkk ⊢
    exact⟨⟨Yl hu hne,hkw.right,(hkw.bnd hfu).fu,k,by simp only[wE,List.length_drop];omega,hkk⟩,by simp only[wE,List.length_drop];omega⟩
  ·have hseg:yB u=(u.seg,u.count):=by unfold yB;simp only[aZ,bV,dF,dL,bI,bK,dG,dK,bY,dQ,bD,bG,dV,dW]at hc;rw[if_neg (by omega)]
   rw[hseg]at t3 t4 s0 s1 s2 s3
   simp only at s1 s2
   have e8:wr .i64 (aB 8 u.count)=8 - u.count:=by rw[aB,bU (by omega) (by omega)]
   have e8':fJ (len u.wait) (8 - u.count)=(lV u:Int):=by rw[t4]
   rw[e8,e8']
   have e9:wr .i64 (au u.sure (lV u:Int))=u.sure+(lV u:Int):=by rw[au,bU (by omega) (by omega)]
   have e10:wr .i64 (au u.count (lV u:Int))=u.count+(lV u:Int):=by rw[au,bU (by omega) (by omega)]
   rw[e9,e10]
   refine(aiY hu hne (he.bnd hfu) he v0 v1 v2 rfl (by rw[hseg]) (by rw[hseg]) rfl).mono fun x hx=> ?_
   rw[hx]
   by_cases hwz:(writeW u e).2≠0
   ·rw[if_pos hwz]at hkk ⊢
    exact hkk
   ·rw[if_neg hwz]at hkk ⊢
    exact⟨⟨Yl hu hne,hkw.right,(hkw.bnd hfu).fu,k,by simp only[wE,List.length_drop];omega,hkk⟩,by simp only[wE,List.length_drop];omega⟩
 ·rintro(x | x) hx
  ·simp only[jB,ak];simp only at hx;exact hx.symm
  ·simp only[jB,ak];simp only at hx;exact hx.symm
open Classical in
noncomputable def UM (w:dZ) (k:Int) (b:SA6):dZ×Int:=
 if ¬zk w\/k<1\/6<k then (w,1)else if 1000000000<w.next then (w,3)else if w.wait.length=32 then (w,6)
 else (⟨w.epoch,w.next+1,w.sure,w.seg,w.count,w.wait++[⟨w.epoch,w.next,k,b.a0,b.a1,b.a2,b.a3,b.a4,b.a5⟩]⟩,0)
theorem ag7 {w:dZ} {k:Int} {b:SA6} (hw:Ae w):EH w k b=some (UM w k b):=by
 refine Wq.eq ?_
 unfold EH UM
 rw[Nv hw,ai,gm,zD]
 by_cases hp:zk w
 case neg=>rw[if_neg hp,gm,zD,if_neg hp,ak,if_pos (.inl hp)]
 rw[if_pos hp,G5 k 1,G5 k 1]
 by_cases h1:k<1
 ·rw[if_pos h1,if_pos h1,ak,if_pos (.inr (.inl h1))]
 rw[if_neg h1,G5 6 k]
 by_cases h6:6<k
 ·rw[if_pos h6,ak,if_pos (.inr (.inr h6))]
 rw[if_neg h6,if_neg (fun g=>by rcases g with g | g | g;exact g hp;exact h1 g;exact h6 g),G5,fC]
 by_cases hn:1000000000<w.next
 ·rw[if_pos hn,ak,if_pos hn]
 rw[if_neg hn,if_neg hn]
 have hlen:=hp.2.2.2.1
 have hnx:=hp.2.1
 by_cases hl:w.wait.length=32
 ·rw[if_pos (by simp only[len];omega),ak,if_pos hl]
 ·rw[if_neg (by simp only[len];omega),Zi (by omega),ai,aH (UF (n:=100) (by simp [dB];omega) (by decide)),ak,if_neg hl,au,bU (by omega) (by omega)];rfl
def afg (w:dZ):List Int->Int
 |[]=>w.sure
 |m::_=>m - 1
def AQ (w:dZ) (lsn:Int):List Int->ah->ah×Int
 |[],d=>(d,0)
 |n::r,d=>if n=w.seg then AQ w lsn r d else if lsn<afg w r then (d,0)else if (gX d (kK n)).2≠0 then gX d (kK n)else AQ w lsn r (gX d (kK n)).1
open Classical in
noncomputable def Yk (w:dZ) (d:ah) (lsn:Int):ah×Int:=if ny w d then AQ w lsn (BD d.files) d else (d,1)
theorem VY {d:ah}:∀n∈BD d.files,kC n:=fun n hn=>by
 obtain⟨h1,h2⟩:=List.mem_filter.1 hn
 obtain⟨f,hf,rfl⟩:=List.mem_map.1 h1
 exact(Uw (by simp at h2;omega)).1
theorem YA {w:dZ} {d:ah} {lsn:Int} (hw:Ae w) (hd:Gf d):zh w d lsn=some (Yk w d lsn):=by
 classical
 refine Wq.eq ?_
 unfold zh Yk
 rw[Xd hw hd.nm,ai,gm,zD]
 by_cases hf:ny w d
 case neg=>rw[if_neg hf,ak,if_neg hf]
 rw[if_pos hf,if_pos hf,W9 hd.nm,ai,show ajZ d=BD d.files by unfold ajZ;rw[if_pos hf.2.1]]
 have hsl:=aas d.files
 have hfl:=hf.2.1.fl
 have hgen:=VY (d:=d)
 have hsure:=hf.1.2.2.1
 generalize BD d.files=L at hsl hgen ⊢
 refine Wq.bind (Q:=fun x=>match x with
  |.inl x=>AQ w lsn L d=(x.2.2,0)
  |.inr x=>AQ w lsn L d=(x.2.1,x.1))
  (lZ (n:=L.length) (step:=fun v:Int×Int×ah×ah=>o8 (len L) lsn L L w v.1 v.2.1 v.2.2.1 v.2.2.2) (by omega)
    (fun i x=>AQ w lsn L d=AQ w lsn (L.drop i) x.2.2/\gG x.2.2/\inI x.2.2.fuse) _ ?_ ?_ _ 0 (Nat.zero_le _) ⟨by simp,hf.2.1,hd.fu⟩) ?_
 ·rintro i ⟨a,z,e⟩ hi ⟨h1,h2,h3⟩
  simp only at h1 h2 h3
  simp only[o8]
  rw[List.drop_eq_getElem_cons hi,AQ]at h1
  have hg:=hgen _ (List.getElem_mem hi)
  have hn:=DL hg
  rw[aH (by rw[ig];simpa using hi),aH (inb _ i hi),bQ _ i hi,eu (by omega),G5,fC,fC]
  have rem:∀last:Int,afg w (L.drop (i+1))=last->L[i]≠w.seg->
   Wq (cnd (ilt lsn last) (some (Sum.inr (Sum.inl (a,z,e)))) (af (iQ L[i]) fun y0=>af (lC e y0) fun y1=>cnd (ax (ieq y1.2 0)) (some (Sum.inr (Sum.inr (y1.2,y1.1,y1.1)))) (some (Sum.inl (((i+1:Nat):Int),a,z,y1.1)))))
   fun r:(Int×Int×ah×ah) ⊕ ((Int×ah×ah) ⊕ (Int×ah×ah))=>match r with
    |.inl (k,x')=>k=((i+1:Nat):Int)/\AQ w lsn L d=AQ w lsn (L.drop (i+1)) x'.2.2/\gG x'.2.2/\inI x'.2.2.fuse
    |.inr w'=>match w' with | .inl x=>AQ w lsn L d=(x.2.2,0) | .inr x=>AQ w lsn L d=(x.2.1,x.1):=by
   intro last hlast hseg
   rw[if_neg hseg,hlast]at h1
   rw[G5]
   by_cases hlt:lsn<last
   ·rw[if_pos hlt]at h1 ⊢
    rw[ak];exact h1
   ·rw[if_neg hlt]at h1 ⊢
    rw[Yp]
    change Wq (af (some (kK L[i])) _) _
    rw[ai,Ws (h2.bnd h3) hn.len,ai,gm,fC]
    by_cases h0:(gX e (kK L[i])).2=0
    ·rw[if_pos h0,ak]
     rw[if_neg (fun g=>g h0)]at h1
     have hk:=rY (n:=kK L[i]) h2
     exact⟨rfl,h1,hk.right,(hk.bnd h3).fu⟩
    ·rw[if_neg h0,ak]
     rw[if_pos h0]at h1
     exact h1
  by_cases hnx:((i+1:Nat):Int)<len L
  ·have hi1:i+1<L.length:=by simp only[len]at hnx;omega
   have hg1:=hgen _ (List.getElem_mem hi1)
   unfold kC at hg1
   rw[if_pos hnx,aH (inb _ _ hi1),bQ _ _ hi1,aB,bU (by omega) (by omega)]
   by_cases hseg:L[i]=w.seg
   ·rw[if_pos hseg]at h1 ⊢
    rw[ak];exact⟨rfl,h1,h2,h3⟩
   ·rw[if_neg hseg]
    refine(rem (L[i+1] - 1) (by rw[List.drop_eq_getElem_cons hi1,afg]) hseg).mono fun r hr=> ?_
    match r,hr with
    |.inl (k,x'),hr=>exact hr
    |.inr (.inl x),hr=>exact hr
    |.inr (.inr x),hr=>exact hr
  ·rw[if_neg hnx]
   by_cases hseg:L[i]=w.seg
   ·rw[if_pos hseg]at h1 ⊢
    rw[ak];exact⟨rfl,h1,h2,h3⟩
   ·rw[if_neg hseg]
    refine(rem w.sure (by rw[List.drop_eq_nil_of_le (by simp only[len]at hnx;omega),afg]) hseg).mono fun r hr=> ?_
    match r,hr with
    |.inl (k,x'),hr=>exact hr
    |.inr (.inl x),hr=>exact hr
    |.inr (.inr x),hr=>exact hr
 ·rintro⟨a,z,e⟩ ⟨h1,h2,h3⟩
  simp only at h1
  simp only[o8]
  rw[dH (Nb _),ak]
  rw[List.drop_length]at h1
  exact h1
 ·rintro(x | x) hx
  ·simp only[jB,ak];simp only at hx;exact hx.symm
  ·simp only[jB,ak];simp only at hx;exact hx.symm
def upP (g:aN):Prop:=(g.up=true/\g.disk.down=false/\ny g.wal g.disk)\/(g.up=false/\g.disk.down=true/\g.outbox=[]/\g.feed.held=[]/\g.feed.gap=false)
def qR (g:aN):Prop:=gG g.disk/\iY g.state/\zk g.wal/\g.state.lsn+1=g.wal.next/\Ik g.outbox g.wal.sure g.state.lsn/\Yf g.feed (g.state.seq+1)/\(∀n∈g.feed.held,xH (qy n))/\(0<=g.gen/\g.gen<=1000000000)/\upP g
noncomputable instance (g:aN):Decidable (qR g):=Classical.propDecidable _
structure SG (g:aN):Prop where
 st:ja g.state
 sh:qI g.state
 wal:Ae g.wal
 wl:g.wal.wait.length<=40
 bnd:Gf g.disk
 byte:iV g.disk
 fl:g.disk.files.length<=70
 ol:g.outbox.length<=9999
 hl:g.feed.held.length<=200
 ok:∀n∈g.feed.held,qZ n
 gen:inI g.gen
theorem UB (w:dZ) (lsn:Int):∀(l:List Int) (d:ah),gG d->(∀n∈l,kC n)->(AQ w lsn l d).2≠1
 |[],d,hd,_=>by rw[AQ];simp
 |n::r,d,hd,hg=>by
  have hk:=rY (n:=kK n) hd
  have h1:(gX d (kK n)).2≠1:=by
   unfold gX
   split
   ·rename_i h
    unfold iZ at h ⊢
    rw[if_neg (fun g=>g hd)]at h ⊢
    split at h
    ·rename_i h2;simp [h2]
    ·rename_i h2
     rw[if_pos (by intro m hm;rw[List.mem_singleton.1 hm];exact DL (hg n (by simp)))]at h
     exact absurd rfl h
   ·split
    ·simp
    ·split<;>simp
  rw[AQ]
  split
  ·exact UB w lsn r d hd fun m hm=>hg m (by simp [hm])
  split
  ·simp
  split
  ·exact h1
  ·exact UB w lsn r _ hk.right fun m hm=>hg m (by simp [hm])
open Classical in
theorem ady {w:dZ} {d:ah} (hw:Ae w) (hd:Gf d):oG w d=some (decide (ny w d)):=by
 unfold oG
 rw[YA hw hd,ai]
 unfold Yk
 by_cases h:ny w d
 ·rw[if_pos h]
  have:=UB w 0 (BD d.files) d h.2.1 VY
  rw[show ieq (AQ w 0 (BD d.files) d).2 1=false by rw[bG];exact this]
  simp [h,ax]
 ·rw[if_neg h];simp [h,ieq,ax]
theorem aj7 (l:List gq) (hl:l.length<999999):Wq (bM (fun v:Int×Int=>cZ (len l) l v.1 v.2) LF (0,0)) fun w=>match w with
 |.inl k=>0<=k/\¬∀n∈l,xH (qy n)
 |.inr _=>∀n∈l,xH (qy n):=by
 refine lZ (n:=l.length) hl (fun i _=>∀n∈l.take i,xH (qy n)) _ (fun i q hi hj=> ?_) (fun q hj=> ?_) _ 0 (Nat.zero_le _) (fun n hn=>by simp at hn)
 ·simp only[cZ]
  rw[aH (by rw[ig];simpa using hi),aH (inb l i hi),bQ _ i hi,show og l[i]=some (qy l[i])from rfl,ai]
  refine(vK _).bind fun b hb=> ?_
  rw[iH,ak,ak]
  refine⟨fun h=>⟨by omega,fun g=> ?_⟩,fun h=>⟨eu (by omega),fun n hn=> ?_⟩⟩
  ·rw[bI]at h;subst h
   have:=hb.2 (g _ (List.getElem_mem hi));cases this
  ·rw[bK]at h
   rcases(Dc hi).1 hn with h1 | rfl
   ·exact hj n h1
   ·exact hb.1 h
 ·simp only[cZ]
  rw[dH (by rw[show((l.length:Nat):Int)=len l from rfl];simp [ilt]),ak]
  rw[List.take_length]at hj
  exact hj
theorem akA (g:aN):lF g=some (decide (g.outbox=[]/\g.feed.held=[]/\g.feed.gap=false)):=by
 unfold lF
 congr 1
 rw[Bool.eq_iff_iff]
 simp only[aZ,bV,dF,dL,bI,bK,dG,dK,bY,dQ,bD,bG,dV,dW,decide_eq_true_eq,len]
 constructor
 ·rintro⟨⟨h1,h2⟩,h3⟩
  exact⟨List.eq_nil_of_length_eq_zero (by omega),List.eq_nil_of_length_eq_zero (by omega),h3⟩
 ·rintro⟨h1,h2,h3⟩
  rw[h1,h2];exact⟨⟨rfl,rfl⟩,h3⟩
theorem ahd {g:aN} (hg:SG g):Wq (af (cnd (band (band (band (ile 0 g.gen) (ile g.gen 1000000000)) (ax (beq g.up g.disk.down))) g.up) (oG g.wal g.disk) (some false)) fun y7=>af (cnd (band (band (band (band (ile 0 g.gen) (ile g.gen 1000000000)) (ax (beq g.up g.disk.down))) (ax (band g.up y7))) (ax g.up)) (lF g) (some false)) fun y8=>some (band (band (band (ile 0 g.gen) (ile g.gen 1000000000)) (ax (beq g.up g.disk.down))) (bor (band g.up y7) (band (ax g.up) y8)))) fun b=>b=true↔((0<=g.gen/\g.gen<=1000000000)/\upP g):=by
 classical
 obtain⟨q,hq1,hq2⟩:∃q:Bool,lF g=some q/\(q=true↔(g.outbox=[]/\g.feed.held=[]/\g.feed.gap=false)):=⟨_,akA g,decide_eq_true_iff⟩
 obtain⟨f,hf1,hf2⟩:∃f:Bool,oG g.wal g.disk=some f/\(f=true↔ny g.wal g.disk):=⟨_,ady hg.wal hg.bnd,decide_eq_true_iff⟩
 unfold upP
 rw[hq1,hf1,<-hq2,<-hf2]
 by_cases hG:0<=g.gen/\g.gen<=1000000000
 ·have e1:band (ile 0 g.gen) (ile g.gen 1000000000)=true:=by simp only[aZ,bV,dF,dL,bI,bK,dG,dK,bY,dQ,bD,bG,dV,dW];exact hG
  rw[e1]
  cases hu:g.up<;>cases hd:g.disk.down<;>cases f<;>cases q<;>simp [hG,cnd,band,bor,ax,beq,ai,ak]
 ·have e1:band (ile 0 g.gen) (ile g.gen 1000000000)=false:=by simp only[aZ,bV,dF,dL,bI,bK,dG,dK,bY,dQ,bD,bG,dV,dW];omega
  rw[e1]
  simp only[show ∀x,band false x=false from fun x=>rfl,aX,ai,ak]
  exact⟨fun h=>(by cases h),fun h=>absurd h.1 hG⟩
theorem afh {a b:Int} (hb:1<=b/\b<=1000000001):(a=wr .i64 (aB b 1))↔a+1=b:=by
 rw[aB,bU (by omega) (by omega)];omega
theorem Ko {g:aN} (hg:SG g):mG g=some (decide (qR g)):=by
 classical
 refine Wq.dec ?_
 unfold mG qR
 rw[A7 hg.bnd.nm,ai]
 by_cases h1:gG g.disk
 case neg=>
  rw[decide_eq_false h1]
  simp only[bJ,aU,vT,iD,bH,aX,ai,show ∀x,bor true x=true from fun x=>rfl]
  rw[ak];exact⟨fun h=>(by cases h),fun h=>absurd h.1 h1⟩
 rw[decide_eq_true h1]
 simp only[aU,bJ,bH]
 refine(EC g.state hg.st hg.sh.1 hg.sh.2.2.1 hg.sh.2.2.2).bind fun b hb=> ?_
 cases b with
 |false=>
  have:¬iY g.state:=fun h=>by have:=hb.2 h;cases this
  simp only[bJ,aU,vT,iD,bH,aX,ai,show ∀x,bor true x=true from fun x=>rfl,show ∀x,bor false x=x from fun x=>rfl]
  rw[ak];exact⟨fun h=>(by cases h),fun h=>absurd h.2.1 this⟩
 |true=>
 have hR:=hb.1 rfl
 simp only[aU,bJ,iD,bH]
 rw[Nv hg.wal,ai]
 by_cases h2:zk g.wal
 case neg=>
  rw[decide_eq_false h2]
  simp only[bJ,show ∀x,bor false x=x from fun x=>rfl,bH]
  rw[ak];exact⟨fun h=>(by cases h),fun h=>absurd h.2.2.1 h2⟩
 rw[decide_eq_true h2]
 simp only[aU,bJ,show ∀x,bor false x=x from fun x=>rfl,aX]
 have hn:=h2.2.1
 by_cases h3:g.state.lsn+1=g.wal.next
 case neg=>
  have e3:ieq g.state.lsn (wr .i64 (aB g.wal.next 1))=false:=by rw[bG,ne_eq,afh hn];exact h3
  rw[e3]
  simp only[bJ,aU,aX,ai,show ∀x,bor true x=true from fun x=>rfl,bH]
  rw[ak];exact⟨fun h=>(by cases h),fun h=>absurd h.2.2.2.1 h3⟩
 have e3:ieq g.state.lsn (wr .i64 (aB g.wal.next 1))=true:=by rw[bD,afh hn];exact h3
 rw[e3]
 simp only[bJ,aU,bH,show ∀x,bor false x=x from fun x=>rfl]
 refine(ahK g.outbox g.wal.sure g.state.lsn (by have:=hg.ol;omega)).bind fun c hc=> ?_
 cases c with
 |false=>
  have:¬Ik g.outbox g.wal.sure g.state.lsn:=fun h=>by have:=hc.2 h;cases this
  simp only[bJ,aU,aX,ai,show ∀x,bor true x=true from fun x=>rfl,bH]
  rw[ak];exact⟨fun h=>(by cases h),fun h=>absurd h.2.2.2.2.1 this⟩
 |true=>
 have hO:=hc.1 rfl
 have hq:=hR.fine.seq
 have hw:wr .i64 (au g.state.seq 1)=g.state.seq+1:=bU (by simp only[au];omega) (by simp only[au];omega)
 rw[hw]
 simp only[aU,bJ,bH,show ∀x,bor false x=x from fun x=>rfl]
 refine(Rq g.feed _).bind fun d hd=> ?_
 cases d with
 |false=>
  have:¬Yf g.feed (g.state.seq+1):=fun h=>by have:=hd.2 h;cases this
  simp only[bJ,aU,aX,ai,show ∀x,bor true x=true from fun x=>rfl,bH]
  rw[ak];exact⟨fun h=>(by cases h),fun h=>absurd h.2.2.2.2.2.1 this⟩
 |true=>
 have hF:=hd.1 rfl
 simp only[aU,bJ,bH,show ∀x,bor false x=x from fun x=>rfl,aX]
 refine(aj7 g.feed.held (by have:=hg.hl;omega)).bind ?_
 rintro(k | k) hk
 ·simp only[jB]
  rw[aH (jG hk.1),ak]
  exact⟨fun h=>(by cases h),fun h=>absurd h.2.2.2.2.2.2.1 hk.2⟩
 ·simp only[jB]
  obtain⟨b,h,q⟩:=ahd hg
  exact⟨b,h,fun hb=>⟨h1,hR,h2,h3,hO,hF,hk,q.1 hb⟩,fun hh=>q.2 hh.2.2.2.2.2.2.2⟩
noncomputable def lK (g:aN):Int:=if ¬qR g then 1 else if g.up=true then 0 else 9
theorem Eu {g:aN} (hg:SG g):nZ g=some (lK g):=by
 unfold nZ lK
 rw[Ko hg,ai,gm,zD]
 by_cases h:qR g
 ·rw[if_pos h,if_neg (fun k=>k h)];cases g.up<;>rfl
 ·rw[if_neg h,if_pos h]
theorem qM {g:aN}:lK g=0↔qR g/\g.up=true:=by
 unfold lK
 by_cases h:qR g
 ·rw[if_neg (fun k=>k h)]
  by_cases hu:g.up=true
  ·simp [h,hu]
  ·simp [h,hu]
 ·rw[if_pos h];simp [h]
def Vd (r:jm):SA6:=if r.kind=1 then ⟨r.order,r.account,r.symbol,r.side,r.qty,r.price⟩else if r.kind=4 then ⟨r.account,r.symbol,r.long,r.short,r.opn,0⟩else if r.kind=5 then (if r.on=true then ⟨1,0,0,0,0,0⟩else ⟨0,0,0,0,0,0⟩)
 else if r.kind=6 then ⟨r.seq,r.what,r.order,r.qty,r.price,0⟩else ⟨r.order,r.qty,r.price,0,0,0⟩
theorem adY {r:jm} (h:xH r):EY r=some (Vd r,0):=by
 unfold EY Vd
 obtain⟨b,hb,q⟩:=vK r
 have:=q.2 h;subst this
 rw[hb,ai,aU,aX,fC,fC,fC,fC]
 split
 ·rfl
 split
 ·rfl
 split
 ·cases r.on<;>rfl
 split<;>rfl
noncomputable def bn (g:aN) (r:jm):aN×Int:=
 if (doS g.state r).2≠0 then (g,(doS g.state r).2)else if (UM g.wal r.kind (Vd r)).2≠0 then (g,(UM g.wal r.kind (Vd r)).2)
 else (⟨g.disk,(UM g.wal r.kind (Vd r)).1,(doS g.state r).1,g.outbox,g.feed,g.gen,g.up⟩,0)
theorem J4 {g:aN} {r:jm} (hs:ja g.state) (hsh:qI g.state) (hw:Ae g.wal) (hr:nV r):qf g r=some (bn g r):=by
 unfold qf bn
 rw[aaf hs hr hsh.1 hsh.2.2.1 hsh.2.2.2,ai,gm,fC]
 by_cases h:(doS g.state r).2=0
 case neg=>rw[if_neg h,if_pos h]
 rw[if_pos h,if_neg (fun k=>k h),adY ((Vg g.state r).good h).1.2.1,ai,ag7 hw,ai,gm,fC]
 by_cases h2:(UM g.wal r.kind (Vd r)).2=0
 ·rw[if_pos h2,if_neg (fun k=>k h2)]
 ·rw[if_neg h2,if_pos h2]
theorem Zy:∀ {l:List fM} {n e:Int} {f:fM},rowP l n e->Hy f->f.lsn=n+l.length->e<=f.epoch->(∀x∈l,x.epoch<=f.epoch)->rowP (l++[f]) n e
 |[],n,e,f,_,hf,hl,he,_=>⟨hf,by simpa using hl,he,trivial⟩
 |x::r,n,e,f,h,hf,hl,he,hx=>by
  obtain⟨h1,h2,h3,h4⟩:=h
  refine⟨h1,h2,h3,Zy h4 hf ?_ (hx x (by simp)) fun y hy=>hx y (by simp [hy])⟩
  simp only[List.length_cons]at hl;omega
structure ajN (w v:dZ):Prop where
 wal:zk v
 next:v.next=w.next+1
 sure:v.sure=w.sure
 seg:v.seg=w.seg
 count:v.count=w.count
 few:v.wait.length=w.wait.length+1
 lim:w.next<=1000000000
theorem alV {w:dZ} {k:Int} {b:SA6} (h:(UM w k b).2=0):zk w/\ajN w (UM w k b).1:=by
 unfold UM at h ⊢
 split at h
 ·cases h
 rename_i h1
 split at h
 ·cases h
 rename_i h2
 split at h
 ·cases h
 rename_i h3
 rw[if_neg h1,if_neg h2,if_neg h3]
 have hw:zk w:=Classical.not_not.1 fun g=>h1 (.inl g)
 refine⟨hw,⟨?_,rfl,rfl,rfl,rfl,by simp,by omega⟩⟩
 obtain⟨w1,w2,w3,w4,w5,w6,w7,w8⟩:=hw
 have hk:1<=k/\k<=6:=by omega
 refine⟨w1,by simp only;omega,by simp only;omega,by simp only[List.length_append,List.length_singleton];omega,by simp only[List.length_append,List.length_singleton];omega,?_,?_,w8⟩
 ·refine Zy w6 ⟨w1.1,w1.2,by simp only;omega,by simp only;omega,hk.1,hk.2⟩ (by simp only;omega) w1.1 fun x hx=> ?_
  rw[w7 x hx];exact Int.le_refl _
 ·intro x hx
  rcases List.mem_append.1 hx with c | c
  ·exact w7 x c
  ·rw[List.mem_singleton.1 c]
theorem ajN.fits {w v:dZ} {d:ah} (h:ajN w v) (hf:ny w d):ny v d:=by
 obtain⟨-, f2,f3,f4⟩:=hf
 refine⟨h.wal,f2,?_,?_⟩
 ·rw[h.sure];exact f3
 ·rw[h.seg,h.count];exact f4
theorem aiB {w:dZ} {k:Int} {b:SA6}:(UM w k b).2≠9:=by
 unfold UM
 split
 ·simp
 split
 ·simp
 split<;>simp
theorem acX (s t:aC) (a y:Int):(Ou s t a y).2≠9:=by
 unfold Ou
 split
 ·simp
 split<;>simp
theorem ae8 (s:aC) (r:jm):(doS s r).2≠9:=by
 unfold doS
 split
 ·simp
 split
 ·split
  ·simp
  split
  ·simp
  exact acX _ _ _ _
 split
 ·split
  ·simp
  split
  ·simp
  split
  ·simp
  exact acX _ _ _ _
 split
 ·split
  ·simp
  split<;>simp
 split
 ·split<;>simp
 split
 ·simp
 split
 ·simp
 split
 ·simp
 split<;>simp
theorem Qj (g:aN) (r:jm):(bn g r).2≠9:=by
 unfold bn
 split
 ·exact ae8 _ _
 split
 ·exact aiB
 ·simp
structure anz (g h:aN):Prop where
 disk:h.disk=g.disk
 put:ajN g.wal h.wal
 R:iY h.state
 lsn:h.state.lsn=g.state.lsn+1
 out:h.outbox=g.outbox
 feed:h.feed=g.feed
 gen:h.gen=g.gen
 up:h.up=g.up
 st:ja h.state
 sh:qI h.state
theorem DC {g:aN} {r:jm} (hs:ja g.state) (hsh:qI g.state) (hr:nV r) (h:(bn g r).2=0):anz g (bn g r).1/\(doS g.state r).2=0/\(bn g r).1.state=(doS g.state r).1:=by
 unfold bn at h ⊢
 by_cases h1:(doS g.state r).2≠0
 ·rw[if_pos h1]at h;exact absurd h h1
 rw[if_neg h1]at h ⊢
 by_cases h2:(UM g.wal r.kind (Vd r)).2≠0
 ·rw[if_pos h2]at h;exact absurd h h2
 rw[if_neg h2]
 have h1:(doS g.state r).2=0:=Classical.not_not.1 h1
 have h2:(UM g.wal r.kind (Vd r)).2=0:=Classical.not_not.1 h2
 have q:=(Vg g.state r).good h1
 exact⟨⟨rfl,(alV h2).2,ag8 q.1.1 hs hr,q.2.1,rfl,rfl,rfl,rfl,(Vg g.state r).rng hs hr,ag9 hsh r⟩,h1,rfl⟩
theorem acF:∀ {l:List kM} {a z:Int},Ik l a z->a<=z->(l.length:Int)<=z - a
 |[],a,z,_,h=>by simp;omega
 |m::r,a,z,h,_=>by
  have:=acF h.2.2.2 h.2.2.1
  have:=h.2.1
  simp only[List.length_cons];omega
theorem SG.of {g:aN} (h:qR g) (st:ja g.state) (sh:qI g.state) (fu:inI g.disk.fuse) (by':iV g.disk) (ok:∀n∈g.feed.held,qZ n):SG g:=by
 obtain⟨h1,h2,h3,h4,h5,h6,h7,h8,h9⟩:=h
 have w:=abj h3
 have hl:=h3.2.2.2.1
 have hs:=h3.2.2.2.2.1
 have ho:=acF h5 (by have:=h3.2.2.1;omega)
 refine⟨st,sh,w,by omega,h1.bnd fu,by',by have:=h1.fl;omega,by omega,by have:=h6.2.2.1;omega,ok,by unfold inI;omega⟩
theorem S9 {g:aN} (h:qR g) (hu:g.up=true):g.disk.down=false/\ny g.wal g.disk:=by
 rcases h.2.2.2.2.2.2.2.2 with h | h
 ·exact h.2
 ·rw[h.1]at hu;cases hu
theorem Jz {g:aN} (hu:g.up=true):lK g≠9:=by
 unfold lK
 rw[if_pos hu]
 split<;>simp
def ofM (k:Int) (o:aG) (z:Int):kM:=(qp k o z).getD ⟨0,0,0,0,0,0,0,0,0⟩
theorem amU (k:Int) (o:aG) (z:Int):qp k o z=some (ofM k o z):=by
 obtain⟨m,h⟩:=amn k o z
 unfold ofM;rw[h];rfl
def MC (g:aN) (r:jm):aN:=⟨g.disk,g.wal,g.state,g.outbox++[ofM r.kind (aj g.state.orders (itn (Pe g.state.orders r.order))) g.state.lsn],g.feed,g.gen,g.up⟩
noncomputable def tH (g:aN) (r:jm):aN×Int:=
 if lK g≠0 then (g,lK g)else if r.kind<1\/3<r.kind then (g,1)else if (bn g r).2≠0 then (g,(bn g r).2)else (MC (bn g r).1 r,0)
theorem Y2 {g:aN} {r:jm} (hg:SG g) (hr:nV r) (hk:¬(r.kind<1\/3<r.kind)) (h:(bn g r).2=0):∃(j:Nat) (hj:j<(bn g r).1.state.orders.length),Pe (bn g r).1.state.orders r.order=(j:Int)/\
 (uy (bn g r).1.state.orders[j])/\(r.kind=2->1<=(bn g r).1.state.orders[j].newQty/\1<=(bn g r).1.state.orders[j].newPrice/\1<=(bn g r).1.state.orders[j].version):=by
 obtain⟨q,h1,h2⟩:=DC hg.st hg.sh hr h
 obtain⟨o,ho,hid,hv⟩:=ai8 h1 (by omega)
 rw[<-h2]at ho
 obtain⟨j,hj,hf,rfl⟩:=akE q.R.fine.asc ho
 rw[hid]at hf
 exact⟨j,hj,JJ hf,(q.R.fine.ords _ (List.getElem_mem hj)).1,hv⟩
theorem YL {g:aN} {r:jm} (hg:SG g) (hr:nV r):qQ g r=some (tH g r):=by
 unfold qQ tH
 rw[Eu hg,ai,gm,fC]
 by_cases h0:lK g=0
 case neg=>rw[if_neg h0,if_pos h0]
 rw[if_pos h0,if_neg (fun k=>k h0)]
 by_cases hk:r.kind<1\/3<r.kind
 ·rw[aH (by simp only[aZ,bV,dF,dL,bI,bK,dG,dK,bY,dQ,bD,bG,dV,dW];exact hk),if_pos hk]
 rw[dH (by simp only[aZ,bV,dF,dL,bI,bK,dG,dK,bY,dQ,bD,bG,dV,dW];omega),if_neg hk,J4 hg.st hg.sh hg.wal hr,ai,gm,fC]
 by_cases h:(bn g r).2=0
 case neg=>rw[if_neg h,if_pos h]
 rw[if_pos h,if_neg (fun k=>k h)]
 have hol:=hg.ol
 obtain⟨j,hj,hf, -⟩:=Y2 hg hr hk h
 obtain⟨q,-, -⟩:=DC hg.st hg.sh hr h
 rw[Hg _ _ q.sh.1,ai,hf,aH (inb _ j hj),show dU g.outbox=some g.outbox from oV (by omega),ai,amU,ai,aH (by simp only[dB,len];exact jG (by simp;omega))]
 unfold MC
 rw[hf,q.out];rfl
theorem aby {g:aN} {r:jm} (hg:SG g) (hr:nV r):SG (tH g r).1/\(qR g->qR (tH g r).1)/\(tH g r).1.up=g.up/\(tH g r).1.disk=g.disk/\(tH g r).1.wal.sure=g.wal.sure/\(tH g r).1.gen=g.gen/\(g.up=true->(tH g r).2≠9):=by
 unfold tH
 by_cases h0:lK g=0
 case neg=>
  rw[if_pos h0]
  refine⟨hg,id,rfl,rfl,rfl,rfl,fun hu=> ?_⟩
  exact Jz hu
 rw[if_neg (fun k=>k h0)]
 obtain⟨hG,hu⟩:=qM.1 h0
 by_cases hk:r.kind<1\/3<r.kind
 ·rw[if_pos hk];exact⟨hg,id,rfl,rfl,rfl,rfl,fun _=>by simp⟩
 rw[if_neg hk]
 by_cases h:(bn g r).2=0
 case neg=>rw[if_pos h];exact⟨hg,id,rfl,rfl,rfl,rfl,fun _=>Qj g r⟩
 rw[if_neg (fun k=>k h)]
 obtain⟨j,hj,hf,hoP,hv⟩:=Y2 hg hr hk h
 obtain⟨q,hd0,hds⟩:=DC hg.st hg.sh hr h
 obtain⟨h1,h2,h3,h4,h5,h6,h7,h8,h9⟩:=hG
 have hfit:=S9 ⟨h1,h2,h3,h4,h5,h6,h7,h8,h9⟩ hu
 have hseq:(bn g r).1.state.seq=g.state.seq:=by
  have:=((Vg g.state r).good hd0).2.2.1
  rw[hds,this,if_neg (by omega)]
 have hsn:=h3.2.2.1
 have hlim:=q.put.lim
 have hlsn:=q.lsn
 have hnew:Ik (MC (bn g r).1 r).outbox g.wal.sure (g.state.lsn+1):=by
  unfold MC
  simp only
  rw[q.out,hf,bQ _ _ hj,hlsn]
  obtain⟨m,hm,hmp,hml⟩:=anA (k:=r.kind) (z:=g.state.lsn+1) hoP (by omega) hv (by omega)
  have:ofM r.kind (bn g r).1.state.orders[j] (g.state.lsn+1)=m:=by unfold ofM;rw[hm];rfl
  rw[this]
  exact abL (z:=g.state.lsn) h5 (by omega) hmp (by omega) (by omega)
 have hR:qR (MC (bn g r).1 r):=by
  refine⟨by rw[show(MC (bn g r).1 r).disk=_ from q.disk];exact h1,q.R,q.put.wal,?_,?_,?_,?_,?_,.inl ⟨q.up.trans hu,?_,?_⟩⟩
  ·show(bn g r).1.state.lsn+1=(bn g r).1.wal.next
   rw[hlsn,q.put.next];omega
  ·rw[show(MC (bn g r).1 r).wal.sure=g.wal.sure from q.put.sure,show(MC (bn g r).1 r).state.lsn=g.state.lsn+1 from hlsn];exact hnew
  ·rw[show(MC (bn g r).1 r).feed=g.feed from q.feed,show(MC (bn g r).1 r).state.seq=g.state.seq from hseq];exact h6
  ·rw[show(MC (bn g r).1 r).feed=g.feed from q.feed];exact h7
  ·rw[show(MC (bn g r).1 r).gen=g.gen from q.gen];exact h8
  ·rw[show(MC (bn g r).1 r).disk=g.disk from q.disk];exact hfit.1
  ·rw[show(MC (bn g r).1 r).disk=g.disk from q.disk];exact q.put.fits hfit.2
 refine⟨SG.of hR q.st q.sh ?_ ?_ ?_,fun _=>hR,q.up,q.disk,q.put.sure,q.gen,fun _=>by simp⟩
 ·rw[show(MC (bn g r).1 r).disk=g.disk from q.disk];exact hg.bnd.fu
 ·rw[show(MC (bn g r).1 r).disk=g.disk from q.disk];exact hg.byte
 ·rw[show(MC (bn g r).1 r).feed=g.feed from q.feed];exact hg.ok
def uK (p:ah×Int):Prop:=p.1.down=true↔p.2=9
theorem jr {d:ah} {c:Int} (h:d.down=false) (hc:c≠9):uK (d,c):=by unfold uK;simp [h,hc]
theorem Fp {d:ah} {ns:List Nm} (h:d.down=false):iZ d ns≠9:=by
 unfold iZ
 split
 ·simp
 rw[if_neg (by rw[h];simp)]
 split<;>simp
theorem F9 {d:ah} (h:d.down=false):((dA d).2=true/\(dA d).1.down=false)\/((dA d).2=false/\(dA d).1.down=true):=by
 unfold dA
 split
 ·exact .inr ⟨rfl,rfl⟩
 split
 ·exact .inl ⟨rfl,h⟩
 ·exact .inl ⟨rfl,h⟩
theorem Vb {d:ah} {n:Nm} {b:List Int} (h:d.down=false):uK (eY d n b):=by
 unfold eY
 split
 ·exact jr h (Fp h)
 split
 ·exact jr h (by simp)
 ·unfold adT uK
  rcases F9 (d:=yj d ⟨n,((dw d.files n).getD ⟨n,[],0⟩).data++b,((dw d.files n).getD ⟨n,[],0⟩).sure⟩) h with ⟨h1,h2⟩ | ⟨h1,h2⟩<;>simp [h1,h2]
theorem ZA {d:ah} {n:Nm} (h:d.down=false):uK (nJ d n):=by
 unfold nJ
 split
 ·exact jr h (Fp h)
 split
 ·exact jr h (by simp)
 ·unfold uK
  rcases F9 h with ⟨h1,h2⟩ | ⟨h1,h2⟩<;>simp [h1,h2,yj]
theorem ac8 {d:ah} {a b:Nm} (h:d.down=false):uK (jW d a b):=by
 unfold jW
 split
 ·exact jr h (Fp h)
 split
 ·exact jr h (by simp)
 ·unfold uK
  rcases F9 h with ⟨h1,h2⟩ | ⟨h1,h2⟩<;>simp [h1,h2,yj,YI]
theorem Nr {d:ah} {n:Nm} (h:d.down=false):uK (gX d n):=by
 unfold gX
 split
 ·exact jr h (Fp h)
 split
 ·exact jr h (by simp)
 ·unfold uK
  rcases F9 h with ⟨h1,h2⟩ | ⟨h1,h2⟩<;>simp [h1,h2,YI]
theorem ahS {d:ah} {n:Nm} {k:Int} (h:d.down=false):uK (Aj d n k):=by
 unfold Aj
 split
 ·exact jr h (Fp h)
 split
 ·exact jr h (by simp)
 split
 ·exact jr h (by simp)
 ·unfold uK
  rcases F9 h with ⟨h1,h2⟩ | ⟨h1,h2⟩<;>simp [h1,h2,yj]
theorem uK.up {p:ah×Int} (h:uK p) (h0:p.2≠9):p.1.down=false:=by
 unfold uK at h
 cases hd:p.1.down with
 |false=>rfl
 |true=>exact absurd (h.1 hd) h0
theorem CG {p:ah×Int} {f:ah->ah×Int} (h:uK p) (hf:∀e,e.down=false->uK (f e)):uK (jX p f):=by
 by_cases h0:p.2=0
 ·rw[then_ok h0];exact hf _ (h.up (by omega))
 ·rw[gy h0];exact h
theorem Yn {d:ah} (h:d.down=false):(eP d).2≠9:=by
 unfold eP
 split
 ·simp
 rw[if_neg (by rw[h];simp)]
 split<;>simp
theorem aeJ {d:ah} {s:eF} (h:d.down=false):uK (uD d s):=by
 unfold uD
 split
 ·exact jr h (by simp)
 rw[if_neg (Yn h)]
 split
 ·exact jr h (by simp)
 ·unfold ac6 qP
  refine CG (CG ?_ fun e he=>Vb he) fun e he=>ZA he
  split
  ·exact jr h (by simp)
  ·exact ahS h
theorem Ya {gen:Int}:∀(l:List aA) {p:ah×Int},uK p->uK (lg gen p l)
 |[],p,h=>h
 |f::r,p,h=>by
  rw[VX]
  refine Ya r ?_
  unfold xY
  split
  ·exact CG h fun e he=>Nr he
  ·exact h
theorem agM {d:ah} {s:aC} (h:d.down=false):(lD d s).1.down=true↔(lD d s).2.2=9:=by
 unfold lD
 split
 ·simp [h]
 rw[if_neg (Yn h)]
 split
 ·simp [h]
 ·have q:uK (lg ((eP d).1.gen+1) (rD d ((eP d).1.gen+1) s.lsn (encZ s)) (rD d ((eP d).1.gen+1) s.lsn (encZ s)).1.files):=by
   refine Ya _ ?_
   unfold rD vP
   refine CG (CG (CG (CG ?_ fun e he=>Vb he) fun e he=>ZA he) fun e he=>ac8 he) fun e he=>aeJ he
   split
   ·exact jr h (by simp)
   ·exact Nr h
  unfold VA
  split
  ·exact q
  ·rename_i h0
   have h0:=Classical.not_not.1 h0
   have:=q.up (by omega)
   simp [this]
theorem ac3 {l:List aA} (ha:Ji l) {p:Nm->Prop}:(∀f∈l,p f.name)↔∀n f,dw l n=some f->p n:=by
 constructor
 ·intro h n f hg
  have:=xB hg
  rw[<-this.2];exact h f this.1
 ·intro h f hf
  exact h _ f (get_mem ha hf)
theorem aa2 {w:dZ} {d:ah} (hw:zk w) (hd:gG d) (h1:∀n f,dw d.files n=some f->jE rQ n<=w.sure) (h2:w.seg=0\/∃f,dw d.files (kK w.seg)=some f/\(f.data.length:Int)=w.count*72):ny w d:=
 ⟨hw,hd,(ac3 hd.asc (p:=fun n=>jE rQ n<=w.sure)).2 h1,h2⟩
theorem Rf {w:dZ} {d:ah} (h:ny w d) {n:Nm} {f:aA} (hg:dw d.files n=some f):jE rQ n<=w.sure:=
 (ac3 h.2.1.asc (p:=fun n=>jE rQ n<=w.sure)).1 h.2.2.1 n f hg
theorem ags {w:dZ} {d e:ah} (h:ny w d) (he:gG e) (hs:∀n,jE rQ n≠0->dw e.files n=dw d.files n):ny w e:=by
 have hw:=h.1
 refine aa2 hw he (fun n f hg=> ?_) ?_
 ·by_cases hn:jE rQ n=0
  ·rw[hn];exact hw.2.2.1.1
  ·rw[hs n hn]at hg;exact Rf h hg
 ·rcases h.2.2.2 with h0 | ⟨f,hg,hf⟩
  ·exact .inl h0
  ·by_cases hz:w.seg=0
   ·exact .inl hz
   ·have hgp:=(hw.seg hz).1
    refine .inr ⟨f,?_,hf⟩
    rw[hs _ (by rw[EL hgp];exact hz)];exact hg
theorem aeM {w:dZ} {d:ah} (hne:w.wait≠[]) (hf:ny w d) (hu:d.down=false):
 ((writeW w d).2=0/\(writeW w d).1.down=false/\ny (wE w) (writeW w d).1)\/((writeW w d).2=6/\(writeW w d).1=d)\/((writeW w d).2=9/\(writeW w d).1.down=true):=by
 have hw:=hf.1
 obtain⟨g0,g1,g2,g3⟩:=QD hw hne
 obtain⟨t1,t2,t3, -⟩:=LU hw hne
 have hn:=DL g0
 have hU:UpD d:=⟨hf.2.1,hu⟩
 have hsr:=hw.2.2.1
 unfold writeW
 generalize hB:rowB (w.wait.take (lV w))=B
 have hBl:B.length=72*lV w:=by rw[<-hB,WV,List.length_take];omega
 rcases J5 (b:=B) hU hn with ⟨a1,a2, -⟩ | ⟨a1,a2,a3,a4⟩
 ·right;left
  rw[gy (by rw[a1];simp)];exact⟨a1,a2⟩
 rcases a1.cases with c | ⟨c1,c2, -⟩
 case inr=>
  right;right
  rw[gy (by rw[c1];simp)];exact⟨c1,c2⟩
 rw[then_ok c]
 have hU2:=a1.up c
 have hg:=a2 (kK (yB w).1)
 rw[if_pos rfl]at hg
 obtain⟨s1,s2,s3,s4,s5⟩:=PW hU2 hn hg
 rcases s1.cases with e | ⟨e1,e2, -⟩
 case inr=>exact .inr (.inr ⟨e1,e2⟩)
 refine .inl ⟨e,(s1.up e).up,aa2 (Yl hw hne) (s1.up e).right (fun n f hgf=> ?_) (.inr ?_)⟩
 ·rw[s2 e n]at hgf
  by_cases hnn:n=kK (yB w).1
  ·rw[hnn,EL g0];simp only[wE];omega
  ·rw[if_neg hnn,a2 n,if_neg hnn]at hgf
   have:=Rf hf hgf
   simp only[wE];omega
 ·refine⟨_,(s2 e _).trans (if_pos rfl),?_⟩
  simp only[wE,List.length_append,hBl]
  have hold:((((dw d.files (kK (yB w).1)).getD ⟨kK (yB w).1,[],0⟩).data.length:Nat):Int)=(yB w).2*72:=by
   by_cases hs:w.seg=0\/w.count=8
   ·have hq:yB w=(w.sure+1,0):=if_pos hs
    rw[hq]at g0 ⊢
    have:dw d.files (kK (w.sure+1))=none:=by
     cases hgg:dw d.files (kK (w.sure+1))with
     |none=>rfl
     |some f=>
      have:=Rf hf hgg
      rw[EL g0]at this;omega
    simp only[this];simp
   ·have hq:yB w=(w.seg,w.count):=if_neg hs
    rw[hq]
    rcases hf.2.2.2 with hz | ⟨f,f1,f2⟩
    ·exact absurd (.inl hz) hs
    ·simp only[f1];simpa using f2
  push_cast
  omega
structure am8 (w:dZ) (d:ah) (r:dZ×ah×Int):Prop where
 wal:zk r.1
 next:r.1.next=w.next
 epoch:r.1.epoch=w.epoch
 sure:w.sure<=r.1.sure
 keep:Keep d r.2.1
 byte:iV d->iV r.2.1
 code:(r.2.2=0/\r.2.1.down=false/\ny r.1 r.2.1/\r.1.wait=[])\/(r.2.2=6/\r.2.1.down=false/\ny r.1 r.2.1)\/(r.2.2=9/\r.2.1.down=true)
theorem WN:∀(k:Nat) {w:dZ} {d:ah},w.wait.length<=k->ny w d->d.down=false->am8 w d (uN k w d)
 |0,w,d,hk,hf,hu=>by
  rw[uN]
  exact⟨hf.1,rfl,rfl,Int.le_refl _,Keep.refl hf.2.1,id,.inl ⟨rfl,hu,hf,List.eq_nil_of_length_eq_zero (by show w.wait.length=0;omega)⟩⟩
 |k+1,w,d,hk,hf,hu=>by
  rw[uN]
  by_cases hne:w.wait=[]
  ·rw[if_pos hne]
   exact⟨hf.1,rfl,rfl,Int.le_refl _,Keep.refl hf.2.1,id,.inl ⟨rfl,hu,hf,hne⟩⟩
  rw[if_neg hne]
  have hkw:=UO (w:=w) hf.2.1
  have hbw:iV d->iV (writeW w d).1:=fun h=>abV h
  obtain⟨t1,t2,-, -⟩:=LU hf.1 hne
  rcases aeM hne hf hu with ⟨a,b,c⟩ | ⟨a,b⟩ | ⟨a,b⟩
  ·rw[if_neg (fun g=>g a)]
   have ih:=WN k (w:=wE w) (d:=(writeW w d).1) (by simp only[wE,List.length_drop];omega) c b
   exact⟨ih.wal,ih.next,ih.epoch,by have:=ih.sure;rw[show(wE w).sure=w.sure+(lV w:Int)from rfl]at this;omega,hkw.trans ih.keep,fun h=>ih.byte (hbw h),ih.code⟩
  ·rw[if_pos (by rw[a];simp)]
   exact⟨hf.1,rfl,rfl,Int.le_refl _,hkw,hbw,.inr (.inl ⟨a,by rw[b];exact hu,by rw[b];exact hf⟩)⟩
  ·rw[if_pos (by rw[a];simp)]
   exact⟨hf.1,rfl,rfl,Int.le_refl _,hkw,hbw,.inr (.inr ⟨a,b⟩)⟩
theorem Uf {w:dZ} {d:ah} (hf:ny w d) (hu:d.down=false):am8 w d (fA w d):=by
 unfold fA
 rw[if_pos hf]
 exact WN 40 (by have:=hf.1.2.2.2.1;omega) hf hu
theorem Xk {l:List kM} {s:Int} {i:Nat} (h1:∀(j:Nat) (h:j<l.length),j<i->l[j].lsn<=s) (h2:∀h:i<l.length,s<l[i].lsn) (hi:i<=l.length):
 l.take i=(l.takeWhile fun m=>decide (m.lsn<=s))/\l.drop i=(l.dropWhile fun m=>decide (m.lsn<=s)):=by
 induction l generalizing i with
 |nil=>simp at hi;subst hi;simp
 |cons m r ih=>
  cases i with
  |zero=>
   have:=h2 (by simp)
   simp at this
   rw[List.takeWhile_cons_of_neg (by simp;omega),List.dropWhile_cons_of_neg (by simp;omega)]
   simp
  |succ i=>
   have h0:=h1 0 (by simp) (by omega)
   simp at h0
   rw[List.takeWhile_cons_of_pos (by simpa using h0),List.dropWhile_cons_of_pos (by simpa using h0)]
   have:=ih (i:=i) (fun j h hj=>by have:=h1 (j+1) (by simp;omega) (by omega);simpa using this) (fun h=>by have:=h2 (by simp;omega);simpa using this) (by simp at hi;omega)
   simp [this.1,this.2]
def goM (l:List kM) (s:Int):List kM:=l.takeWhile fun m=>decide (m.lsn<=s)
def Td (l:List kM) (s:Int):List kM:=l.dropWhile fun m=>decide (m.lsn<=s)
theorem Og {l:List kM} (h:l.length<1000000):dU l=some l:=oV h
theorem adi {α:Type} (l:List α) (i:Nat):ay l (itn (i:Int))=l.take i:=rfl
theorem acj {α:Type} (l:List α) (i:Nat):aF l (itn (i:Int))=l.drop i:=rfl
theorem Yb {l:List kM} {s:Int} (hl:l.length<99999):rO l s=some (goM l s,Td l s):=by
 refine Wq.eq ?_
 unfold rO
 refine Wq.bind (Q:=fun w:Int ⊕ Int=>match w with
  |.inl k=>∃i:Nat,k=(i:Int)/\i<=l.length/\l.take i=goM l s/\l.drop i=Td l s
  |.inr _=>l=goM l s/\Td l s=[])
  (lZ (n:=l.length) (step:=fun v:Int×Int=>dD (len l) l s v.1 v.2) (by omega) (fun i _=>∀(j:Nat) (h:j<l.length),j<i->l[j].lsn<=s) _ (fun i q hi hj=> ?_) (fun q hj=> ?_) _ 0 (Nat.zero_le _) (fun j h hj=>by omega)) ?_
 ·simp only[dD]
  rw[aH (by rw[ig];simpa using hi),aH (inb l i hi),bQ _ i hi,G5]
  by_cases h:s<l[i].lsn
  ·rw[if_pos h]
   have:=Xk hj (fun _=>h) (by omega)
   exact(ak _).2 ⟨i,rfl,by omega,this.1,this.2⟩
  ·rw[if_neg h]
   refine(ak _).2 ⟨eu (by omega),fun j hjl hji=> ?_⟩
   by_cases e:j=i
   ·subst e;omega
   ·exact hj j hjl (by omega)
 ·simp only[dD]
  rw[dH (Nb _)]
  have:=Xk (i:=l.length) hj (fun h=>by omega) (by omega)
  refine(ak _).2 ⟨?_,?_⟩
  ·have:=this.1;rw[List.take_length]at this;exact this
  ·have:=this.2;rw[List.drop_length]at this;exact this.symm
 ·rintro(k | k) hk
  ·obtain⟨i,rfl,hi,h1,h2⟩:=hk
   simp only[jB]
   have hin:band (ile 0 (i:Int)) (ile (i:Int) (len l))=true:=DV (jG (by omega)) (jG (by simp only[len];omega))
   rw[dH (Bv (by omega)),aH hin,adi,acj,Og (by rw[List.length_take];omega),ai,aH hin,Og (by rw[List.length_drop];omega),ai,ak,h1,h2]
  ·obtain⟨h1,h2⟩:=hk
   simp only[jB]
   have hin:band (ile 0 (len l)) (ile (len l) (len l))=true:=DV (jG (by simp only[len];omega)) (jG (by omega))
   rw[aH hin,show ay l (itn (len l))=l by rw[show len l=((l.length:Nat):Int)from rfl,adi,List.take_length],show aF l (itn (len l))=[] by rw[show len l=((l.length:Nat):Int)from rfl,acj,List.drop_length],Og (by omega),ai,aH hin,Og (by simp),ai,ak,<-h1,h2]
theorem Zl:∀ {l:List kM} {a s z:Int},Ik l a z->a<=s->Ik (Td l s) s z
 |[],a,s,z,h,_=>trivial
 |m::r,a,s,z,h,ha=>by
  unfold Td
  by_cases hm:m.lsn<=s
  ·rw[List.dropWhile_cons_of_pos (by simpa using hm)]
   exact Zl h.2.2.2 hm
  ·rw[List.dropWhile_cons_of_neg (by simpa using hm)]
   exact⟨h.1,by omega,h.2.2.1,h.2.2.2⟩
def X9 (g:aN):aN:=⟨g.disk,g.wal,g.state,[],⟨[],false⟩,g.gen,false⟩
noncomputable def abh (g:aN):aN:=⟨(fA g.wal g.disk).2.1,(fA g.wal g.disk).1,g.state,g.outbox,g.feed,g.gen,g.up⟩
noncomputable def Ry (g:aN):aN×Int:=(if (fA g.wal g.disk).2.1.down=true then X9 (abh g)else abh g,(fA g.wal g.disk).2.2)
theorem aan {g:aN} (hw:Ae g.wal) (hd:Gf g.disk):o6 g=some (Ry g):=by
 unfold o6 Ry
 rw[aaW hw hd,ai,H9]
 split<;>rfl
noncomputable def aW (g:aN):aN×List kM×Int:=
 if lK g≠0 then (g,[],lK g)else if (fA g.wal g.disk).2.1.down=true then (X9 (abh g),[],(fA g.wal g.disk).2.2)
 else (⟨(fA g.wal g.disk).2.1,(fA g.wal g.disk).1,g.state,Td g.outbox (fA g.wal g.disk).1.sure,g.feed,g.gen,g.up⟩,goM g.outbox (fA g.wal g.disk).1.sure,(fA g.wal g.disk).2.2)
theorem JB {g:aN} (hg:SG g):nX g=some (aW g):=by
 unfold nX aW
 rw[Eu hg,ai,gm,fC]
 by_cases h0:lK g=0
 case neg=>rw[if_neg h0,if_pos h0]
 rw[if_pos h0,if_neg (fun k=>k h0),aan hg.wal hg.bnd,ai]
 have hu:=(qM.1 h0).2
 unfold Ry
 by_cases hd:(fA g.wal g.disk).2.1.down=true
 ·rw[if_pos hd,if_pos hd];rfl
 ·rw[if_neg hd,if_neg hd]
  simp only[abh]
  rw[hu,aU,aX,Yb (by have:=hg.ol;omega)];rfl
theorem PZ {g:aN} (hd:gG g.disk) (hR:iY g.state) (hw:zk g.wal) (hl:g.state.lsn+1=g.wal.next) (hgen:0<=g.gen/\g.gen<=1000000000) (hdn:g.disk.down=true):qR (X9 g):=by
 have hq:=hR.fine.seq
 exact⟨hd,hR,hw,hl,trivial,⟨by show 1<=g.state.seq+1;omega,by show g.state.seq+1<=_;omega,by simp [X9],trivial⟩,fun n hn=>(by cases hn),hgen,.inr ⟨rfl,hdn,rfl,rfl,rfl⟩⟩
structure amV (g:aN) (r:aN×List kM×Int):Prop where
 sg:SG r.1
 right:qR r.1
 state:r.1.state=g.state
 gen:r.1.gen=g.gen
 next:r.1.wal.next=g.wal.next
 sure:g.wal.sure<=r.1.wal.sure
 how:(r.1.up=true/\(r.2.2=0\/r.2.2=6)/\r.1.feed=g.feed/\r.2.1=goM g.outbox r.1.wal.sure/\r.1.outbox=Td g.outbox r.1.wal.sure/\(r.2.2=0->r.1.wal.wait=[]))\/(r.1.up=false/\r.2.2=9/\r.2.1=[])
theorem aae {g:aN} (h:lK g≠0):aW g=(g,[],lK g):=by unfold aW;rw[if_pos h]
theorem DR {g:aN} (hg:SG g) (h0:lK g=0):amV g (aW g):=by
 obtain⟨hG,hu⟩:=qM.1 h0
 obtain⟨hdn,hfit⟩:=S9 hG hu
 obtain⟨h1,h2,h3,h4,h5,h6,h7,h8,h9⟩:=hG
 have q:=Uf hfit hdn
 have hL:=h2.fine.lsn
 unfold aW
 rw[if_neg (fun k=>k h0)]
 have hfu:=(q.keep.bnd hg.bnd.fu).fu
 have hby:=q.byte hg.byte
 have hnx:=q.next
 have hsn:=q.wal.2.2.1
 by_cases hd:(fA g.wal g.disk).2.1.down=true
 ·rw[if_pos hd]
  have e9:(fA g.wal g.disk).2.2=9:=by
   rcases q.code with ⟨-, c, -⟩ | ⟨-, c, -⟩ | ⟨c, -⟩
   ·rw[hd]at c;cases c
   ·rw[hd]at c;cases c
   ·exact c
  have hR:qR (X9 (abh g)):=PZ (g:=abh g) q.keep.right h2 q.wal (h4.trans hnx.symm) h8 hd
  exact⟨SG.of hR hg.st hg.sh hfu hby (fun n hn=>(by cases hn)),hR,rfl,rfl,hnx,q.sure,.inr ⟨rfl,e9,rfl⟩⟩
 ·rw[if_neg hd]
  have hc:((fA g.wal g.disk).2.2=0\/(fA g.wal g.disk).2.2=6)/\ny (fA g.wal g.disk).1 (fA g.wal g.disk).2.1/\((fA g.wal g.disk).2.2=0->(fA g.wal g.disk).1.wait=[]):=by
   rcases q.code with ⟨c1,-, c2,c3⟩ | ⟨c1,-, c2⟩ | ⟨-, c⟩
   ·exact⟨.inl c1,c2,fun _=>c3⟩
   ·exact⟨.inr c1,c2,fun c=>(by omega)⟩
   ·exact absurd c hd
  have hR:qR ⟨(fA g.wal g.disk).2.1,(fA g.wal g.disk).1,g.state,Td g.outbox (fA g.wal g.disk).1.sure,g.feed,g.gen,g.up⟩:=
   ⟨q.keep.right,h2,q.wal,h4.trans hnx.symm,Zl h5 q.sure,h6,h7,h8,.inl ⟨hu,by simpa using hd,hc.2.1⟩⟩
  exact⟨SG.of hR hg.st hg.sh hfu hby hg.ok,hR,rfl,rfl,hnx,q.sure,.inl ⟨hu,hc.1,rfl,rfl,rfl,hc.2.2⟩⟩
noncomputable def Zg (g:aN) (r:jm):aN×List kM×Int:=
 if lK g≠0 then (g,[],lK g)else if r.kind≠4/\r.kind≠5 then (g,[],1)else if (doS g.state r).2≠0 then (g,[],(doS g.state r).2)else
 if (aW g).2.2≠0 then aW g else
 if (bn (aW g).1 r).2≠0 then ((aW g).1,(aW g).2.1,(bn (aW g).1 r).2)else
 if (fA (bn (aW g).1 r).1.wal (bn (aW g).1 r).1.disk).2.2=0 then (abh (bn (aW g).1 r).1,(aW g).2.1,0)else
 if (fA (bn (aW g).1 r).1.wal (bn (aW g).1 r).1.disk).2.1.down=true then
  (X9 ⟨(fA (bn (aW g).1 r).1.wal (bn (aW g).1 r).1.disk).2.1,(aW g).1.wal,(aW g).1.state,(aW g).1.outbox,(aW g).1.feed,(aW g).1.gen,(aW g).1.up⟩,(aW g).2.1,(fA (bn (aW g).1 r).1.wal (bn (aW g).1 r).1.disk).2.2)
 else ((aW g).1,(aW g).2.1,(fA (bn (aW g).1 r).1.wal (bn (aW g).1 r).1.disk).2.2)
theorem anG {s:aC} {r:jm} (hr:ja s) (hrr:nV r) (hsh:qI s):BP s r=some (doS s r).2:=by
 unfold BP
 rw[aaf hr hrr hsh.1 hsh.2.2.1 hsh.2.2.2];rfl
theorem XE {g:aN} {r:jm} (hg:SG g) (hr:nV r) (h0:lK g=0) (hf:(aW g).2.2=0) (hn:(bn (aW g).1 r).2=0):
 anz (aW g).1 (bn (aW g).1 r).1/\ny (bn (aW g).1 r).1.wal (bn (aW g).1 r).1.disk/\(bn (aW g).1 r).1.disk.down=false/\(bn (aW g).1 r).1.up=true:=by
 have q:=DR hg h0
 rcases q.how with ⟨hu,-, -, -⟩ | ⟨-, h, -⟩
 case inr=>rw[hf]at h;cases h
 obtain⟨hdn,hfit⟩:=S9 q.right hu
 have p:=(DC q.sg.st q.sg.sh hr hn).1
 exact⟨p,by rw[p.disk];exact p.put.fits hfit,by rw[p.disk];exact hdn,p.up.trans hu⟩
theorem acO {g:aN} {r:jm} (hg:SG g) (hr:nV r):vO g r=some (Zg g r):=by
 unfold vO Zg
 rw[Eu hg,ai,gm,fC]
 by_cases h0:lK g=0
 case neg=>rw[if_neg h0,if_pos h0]
 rw[if_pos h0,if_neg (fun k=>k h0)]
 by_cases hk:r.kind≠4/\r.kind≠5
 ·rw[aH (by simp only[aZ,bV,dF,dL,bI,bK,dG,dK,bY,dQ,bD,bG,dV,dW];exact hk),if_pos hk]
 rw[dH (by simp only[aZ,bV,dF,dL,bI,bK,dG,dK,bY,dQ,bD,bG,dV,dW];omega),if_neg hk,anG hg.st hr hg.sh,ai,gm,fC]
 by_cases h1:(doS g.state r).2=0
 case neg=>rw[if_neg h1,if_pos h1]
 rw[if_pos h1,if_neg (fun k=>k h1),JB hg,ai,gm,fC]
 by_cases hf:(aW g).2.2=0
 case neg=>rw[if_neg hf,if_pos hf]
 have q:=DR hg h0
 rw[if_pos hf,if_neg (fun k=>k hf),J4 q.sg.st q.sg.sh q.sg.wal hr,ai,gm,fC]
 by_cases hn:(bn (aW g).1 r).2=0
 case neg=>rw[if_neg hn,if_pos hn]
 rw[if_pos hn,if_neg (fun k=>k hn)]
 obtain⟨p,hfit,hdn,hup⟩:=XE hg hr h0 hf hn
 rw[aan (abj hfit.1) (hfit.2.1.bnd (by rw[p.disk];exact q.sg.bnd.fu)),ai,fC]
 have cq:=Uf hfit hdn
 unfold Ry
 by_cases hc:(fA (bn (aW g).1 r).1.wal (bn (aW g).1 r).1.disk).2.2=0
 ·rw[if_pos hc,if_pos hc]
  have:¬(fA (bn (aW g).1 r).1.wal (bn (aW g).1 r).1.disk).2.1.down=true:=by
   rcases cq.code with ⟨-, c, -⟩ | ⟨c, -⟩ | ⟨c, -⟩
   ·rw[c];simp
   ·omega
   ·omega
  rw[if_neg this]
 ·rw[if_neg hc,if_neg hc]
  by_cases hd:(fA (bn (aW g).1 r).1.wal (bn (aW g).1 r).1.disk).2.1.down=true
  ·rw[if_pos hd,if_pos hd];rfl
  ·rw[if_neg hd,if_neg hd]
   simp only[abh]
   rw[hup,bH]
structure QA (g h:aN) (e:Int):Prop where
 sg:SG h
 right:qR g->qR h
 down:g.up=true->(h.up=false↔e=9)
 low:g.up=false->h=g
theorem Qg {g:aN} (hg:SG g):QA g (aW g).1 (aW g).2.2:=by
 by_cases h0:lK g=0
 case neg=>
  rw[aae h0]
  exact⟨hg,id,fun hu=>⟨fun h=>(by rw[hu]at h;cases h),fun h=>absurd h (Jz hu)⟩,fun _=>rfl⟩
 have q:=DR hg h0
 refine⟨q.sg,fun _=>q.right,fun hu=> ?_,fun hu=> ?_⟩
 ·rcases q.how with ⟨h1,h2, -⟩ | ⟨h1,h2, -⟩
  ·rw[h1];constructor
   ·intro h;cases h
   ·intro h;omega
  ·exact⟨fun _=>h2,fun _=>h1⟩
 ·have:=(qM.1 h0).2;rw[hu]at this;cases this
theorem IE {g:aN} (hg:SG g) {e:Int} (he:g.up=true->e≠9):QA g g e:=
 ⟨hg,id,fun hu=>⟨fun h=>(by rw[hu]at h;cases h),fun h=>absurd h (he hu)⟩,fun _=>rfl⟩
theorem agr {g:aN} {r:jm} (hg:SG g) (hr:nV r):QA g (Zg g r).1 (Zg g r).2.2:=by
 unfold Zg
 by_cases h0:lK g=0
 case neg=>rw[if_pos h0];exact IE hg fun hu=>Jz hu
 rw[if_neg (fun k=>k h0)]
 by_cases hk:r.kind≠4/\r.kind≠5
 ·rw[if_pos hk];exact IE hg fun _=>by simp
 rw[if_neg hk]
 by_cases h1:(doS g.state r).2=0
 case neg=>rw[if_pos h1];exact IE hg fun _=>ae8 _ _
 rw[if_neg (fun k=>k h1)]
 by_cases hf:(aW g).2.2=0
 case neg=>rw[if_pos hf];exact Qg hg
 rw[if_neg (fun k=>k hf)]
 have q:=DR hg h0
 have hu:=(qM.1 h0).2
 have hfu:(aW g).1.up=true:=by
  rcases q.how with ⟨h, -⟩ | ⟨-, h, -⟩
  ·exact h
  ·rw[hf]at h;cases h
 have same:∀e:Int,e≠9->QA g (aW g).1 e:=fun e he=>⟨q.sg,fun _=>q.right,fun _=>⟨fun h=>(by rw[hfu]at h;cases h),fun h=>absurd h he⟩,fun h=>by rw[hu]at h;cases h⟩
 by_cases hn:(bn (aW g).1 r).2=0
 case neg=>rw[if_pos hn];exact same _ (Qj _ _)
 rw[if_neg (fun k=>k hn)]
 obtain⟨p,hfit,hdn,hup⟩:=XE hg hr h0 hf hn
 have cq:=Uf hfit hdn
 obtain⟨r1,r2,r3,r4,r5,r6,r7,r8,r9⟩:=q.right
 have hdk:Keep (aW g).1.disk (fA (bn (aW g).1 r).1.wal (bn (aW g).1 r).1.disk).2.1:=⟨cq.keep.right,by rw[<-p.disk];exact cq.keep.fz,by rw[<-p.disk];exact cq.keep.room⟩
 have hbk:iV (fA (bn (aW g).1 r).1.wal (bn (aW g).1 r).1.disk).2.1:=cq.byte (by rw[p.disk];exact q.sg.byte)
 have hfk:=(hdk.bnd q.sg.bnd.fu).fu
 by_cases hc:(fA (bn (aW g).1 r).1.wal (bn (aW g).1 r).1.disk).2.2=0
 ·rw[if_pos hc]
  have hcd:(fA (bn (aW g).1 r).1.wal (bn (aW g).1 r).1.disk).2.1.down=false/\ny (fA (bn (aW g).1 r).1.wal (bn (aW g).1 r).1.disk).1 (fA (bn (aW g).1 r).1.wal (bn (aW g).1 r).1.disk).2.1/\(fA (bn (aW g).1 r).1.wal (bn (aW g).1 r).1.disk).1.wait=[]:=by
   rcases cq.code with ⟨-, c,c2,c3⟩ | ⟨c, -⟩ | ⟨c, -⟩
   ·exact⟨c,c2,c3⟩
   ·omega
   ·omega
  have hout:(aW g).1.outbox=[]:=by
   rcases q.how with ⟨-, -, -, -, ho,hw⟩ | ⟨-, h, -⟩
   ·have hw:=hw hf
    have h5:=r3.2.2.2.2.1
    rw[hw]at h5
    simp only[List.length_nil]at h5
    have:=r5
    rw[ho]at this ⊢
    cases hs:Td g.outbox (aW g).1.wal.sure with
    |nil=>rfl
    |cons m t=>
     rw[hs]at this
     have a1:=this.2.1
     have a2:=this.2.2.1
     exfalso;omega
   ·rw[hf]at h;cases h
  have hseq:(bn (aW g).1 r).1.state.seq=(aW g).1.state.seq:=by
   obtain⟨-, d1,d2⟩:=DC q.sg.st q.sg.sh hr hn
   rw[d2,((Vg _ r).good d1).2.2.1,if_neg (by omega)]
  have hR:qR (abh (bn (aW g).1 r).1):=by
   refine⟨cq.keep.right,p.R,cq.wal,?_,?_,?_,?_,?_,.inl ⟨hup,hcd.1,hcd.2.1⟩⟩
   ·show(bn (aW g).1 r).1.state.lsn+1=(fA (bn (aW g).1 r).1.wal (bn (aW g).1 r).1.disk).1.next
    rw[cq.next,p.put.next,p.lsn];omega
   ·show Ik (bn (aW g).1 r).1.outbox _ _
    rw[p.out,hout];trivial
   ·show Yf (bn (aW g).1 r).1.feed ((bn (aW g).1 r).1.state.seq+1)
    rw[p.feed,hseq];exact r6
   ·show ∀n∈(bn (aW g).1 r).1.feed.held,_
    rw[p.feed];exact r7
   ·show 0<=(bn (aW g).1 r).1.gen/\(bn (aW g).1 r).1.gen<=1000000000
    rw[p.gen];exact r8
  refine⟨SG.of hR p.st p.sh hfk hbk ?_,fun _=>hR,fun _=>⟨fun h=> ?_,fun h=>(by cases h)⟩,fun h=>by rw[hu]at h;cases h⟩
  ·show ∀n∈(bn (aW g).1 r).1.feed.held,_
   rw[p.feed];exact q.sg.ok
  ·have:(bn (aW g).1 r).1.up=false:=h
   rw[hup]at this;cases this
 rw[if_neg hc]
 by_cases hd:(fA (bn (aW g).1 r).1.wal (bn (aW g).1 r).1.disk).2.1.down=true
 ·rw[if_pos hd]
  have e9:(fA (bn (aW g).1 r).1.wal (bn (aW g).1 r).1.disk).2.2=9:=by
   rcases cq.code with ⟨-, c, -⟩ | ⟨-, c, -⟩ | ⟨c, -⟩
   ·rw[hd]at c;cases c
   ·rw[hd]at c;cases c
   ·exact c
  have hR:=PZ (g:=⟨(fA (bn (aW g).1 r).1.wal (bn (aW g).1 r).1.disk).2.1,(aW g).1.wal,(aW g).1.state,(aW g).1.outbox,(aW g).1.feed,(aW g).1.gen,(aW g).1.up⟩) hdk.right r2 r3 r4 r8 hd
  exact⟨SG.of hR q.sg.st q.sg.sh hfk hbk (fun n hn=>(by cases hn)),fun _=>hR,fun _=>⟨fun _=>e9,fun _=>rfl⟩,fun h=>by rw[hu]at h;cases h⟩
 ·rw[if_neg hd]
  refine same _ fun h=>hd ?_
  rcases cq.code with ⟨c, -⟩ | ⟨c, -⟩ | ⟨-, c⟩
  ·exact absurd (c.symm.trans h) (by decide)
  ·exact absurd (c.symm.trans h) (by decide)
  ·exact c
theorem aeS {d:ah} {s:aC} (h:gG d):Keep d (lD d s).1:=by
 unfold lD
 split
 ·exact Keep.refl h
 split
 ·exact Keep.refl h
 split
 ·exact Keep.refl h
 ·have:=Wh (gen:=(eP d).1.gen+1) (rD d ((eP d).1.gen+1) s.lsn (encZ s)).1.files (aeY (gen:=(eP d).1.gen+1) (lsn:=s.lsn) (b:=encZ s) h)
  unfold VA
  split<;>exact this
theorem ak6 {n:Nm} (h:jE rQ n≠0):n≠iL/\n≠n0/\n≠n1/\jE nI n=0:=by
 obtain⟨h1,h2⟩:=Uw h
 have h3:=Tz h1
 rw[<-h2]at h3
 refine⟨fun e=> ?_,fun e=> ?_,fun e=> ?_,?_⟩
 ·rw[e]at h3;simp [iL]at h3
 ·rw[e]at h3;simp [n0]at h3
 ·rw[e]at h3;simp [n1]at h3
 ·by_cases hz:jE nI n=0
  ·exact hz
  ·obtain⟨k1,k2⟩:=aix hz
   have:=NQ k1
   rw[<-k2]at this;omega
theorem ahi {D x:ah} {gen:Int} {b w:List Int} (hG:kC gen) (h:BI D x\/Uh D gen b w x\/Kt D gen b w x) {n:Nm} (hn:jE rQ n≠0):dw x.files n=dw D.files n:=by
 obtain⟨h1,h2,h3,h4⟩:=ak6 hn
 have hs:n≠nmS gen:=by unfold nmS;split<;>assumption
 have hg:n≠jR gen:=fun e=>by rw[e,ZO hG]at h4;unfold kC at hG;omega
 rcases h with h | h | h
 ·exact h.oth n h1
 ·exact h.oth n h1 hg hs
 ·exact h.oth n h1 hs h4
structure acH (w:dZ) (d:ah) (r:ah×Int):Prop where
 keep:Keep d r.1
 byte:iV d->iV r.1
 down:uK r
 fits:r.2≠9->ny w r.1
theorem agS {w:dZ} {d:ah} {s:aC} (hf:ny w d) (hu:d.down=false) (hs:iY s):acH w d ((lD d s).1,(lD d s).2.2)/\((lD d s).2.2=0->0<=(lD d s).2.1/\(lD d s).2.1<=1000000000):=by
 have hU:UpD d:=⟨hf.2.1,hu⟩
 have hk:=aeS (s:=s) hf.2.1
 have hg0:=N7 d
 refine⟨⟨hk,agn,agM hu,fun _=> ?_⟩,fun h0=> ?_⟩
 ·by_cases hg:(eP d).1.gen<1000000000
  ·have hG:kC ((eP d).1.gen+1):=by unfold kC;omega
   have q:=Ye hU hs hg hs.fine.lsn
   have hst:BI d (lD d s).1\/Uh d ((eP d).1.gen+1) (encZ s) (yO ⟨(eP d).1.gen+1,s.lsn⟩) (lD d s).1\/Kt d ((eP d).1.gen+1) (encZ s) (yO ⟨(eP d).1.gen+1,s.lsn⟩) (lD d s).1:=by
    rcases q.how with ⟨-, -, -, h, -⟩ | ⟨-, -, h⟩
    ·exact .inr (.inr h)
    ·exact h
   exact ags hf hk.right fun n hn=>ahi hG hst hn
  ·have:(lD d s).1=d:=by
    unfold lD
    split
    ·rfl
    split
    ·rfl
    rw[if_pos (by omega)]
   show ny w (lD d s).1
   rw[this];exact hf
 ·by_cases hg:(eP d).1.gen<1000000000
  ·have q:=Ye hU hs hg hs.fine.lsn
   rcases q.how with ⟨-, h, -⟩ | ⟨h,-, -⟩
   ·rw[h];omega
   ·rw[h];omega
  ·exfalso
   unfold lD at h0
   split at h0
   ·cases h0
   split at h0
   ·cases h0
   rw[if_pos (by omega)]at h0;cases h0
theorem TU {w:dZ} {lsn:Int}:∀(l:List Int) (d:ah),(∀n∈l,kC n)->ny w d->d.down=false->acH w d (AQ w lsn l d)
 |[],d,hg,hf,hu=>by rw[AQ];exact⟨Keep.refl hf.2.1,id,jr hu (by simp),fun _=>hf⟩
 |n::r,d,hg,hf,hu=>by
  have hgr:∀m∈r,kC m:=fun m hm=>hg m (by simp [hm])
  have hgn:=hg n (by simp)
  have hn:=DL hgn
  rw[AQ]
  split
  ·exact TU r d hgr hf hu
  rename_i hseg
  split
  ·exact⟨Keep.refl hf.2.1,id,jr hu (by simp),fun _=>hf⟩
  have hk:=rY (n:=kK n) hf.2.1
  cases hgt:dw d.files (kK n)with
  |none=>
   have e:gX d (kK n)=(d,7):=by
    unfold gX
    rw[if_neg (fun g=>g (kN.2 ⟨hf.2.1,hu,fun m hm=>by rw[List.mem_singleton.1 hm];exact hn⟩)),hgt]
   rw[e,if_pos (by simp)]
   exact⟨Keep.refl hf.2.1,id,jr hu (by simp),fun _=>hf⟩
  |some f=>
   obtain⟨c1,c2,c3,-, -⟩:=JW ⟨hf.2.1,hu⟩ hn hgt
   rcases c1.cases with c | ⟨c,cd, -⟩
   ·rw[if_neg (fun g=>g c)]
    have hf2:ny w (gX d (kK n)).1:=by
     refine aa2 hf.1 hk.right (fun m k hm=> ?_) ?_
     ·rw[c2 c m]at hm
      split at hm
      ·cases hm
      ·exact Rf hf hm
     ·rcases hf.2.2.2 with hz | ⟨k,k1,k2⟩
      ·exact .inl hz
      ·by_cases hz:w.seg=0
       ·exact .inl hz
       ·refine .inr ⟨k,?_,k2⟩
        rw[c2 c _,if_neg (fun e=>hseg (aht (hf.1.seg hz).1 hgn e).symm)];exact k1
    have ih:=TU (w:=w) (lsn:=lsn) r (gX d (kK n)).1 hgr hf2 (c1.up c).up
    exact⟨hk.trans ih.keep,fun h=>ih.byte (Dp h),ih.down,ih.fits⟩
   ·rw[if_pos (by rw[c];simp)]
    exact⟨hk,fun h=>Dp h,Nr hu,fun h=>absurd c h⟩
theorem akJ {w:dZ} {d:ah} {lsn:Int} (hf:ny w d) (hu:d.down=false):acH w d (Yk w d lsn):=by
 unfold Yk
 rw[if_pos hf]
 exact TU _ d VY hf hu
noncomputable def KA (g:aN):ah×Int:=if (lD g.disk g.state).2.2=0 then Yk g.wal (lD g.disk g.state).1 g.state.lsn else ((lD g.disk g.state).1,(lD g.disk g.state).2.2)
noncomputable def Vf (g:aN):aN:=⟨(KA g).1,g.wal,g.state,g.outbox,g.feed,if (KA g).2=0 then (lD g.disk g.state).2.1 else g.gen,g.up⟩
noncomputable def Z9 (g:aN):aN×List kM×Int:=
 if (aW g).2.2≠0 then aW g else
 (if (KA (aW g).1).1.down=true then X9 (Vf (aW g).1)else Vf (aW g).1,(aW g).2.1,(KA (aW g).1).2)
structure anM (g:aN):Prop where
 kept:acH g.wal g.disk (KA g)
 gen:(KA g).2=0->0<=(lD g.disk g.state).2.1/\(lD g.disk g.state).2.1<=1000000000
 first:acH g.wal g.disk ((lD g.disk g.state).1,(lD g.disk g.state).2.2)
theorem agi {g:aN} (hG:qR g) (hu:g.up=true):anM g:=by
 obtain⟨hdn,hfit⟩:=S9 hG hu
 have q:=agS hfit hdn hG.2.1
 refine⟨?_,fun h=> ?_,q.1⟩
 ·unfold KA
  by_cases h0:(lD g.disk g.state).2.2=0
  ·rw[if_pos h0]
   have hu2:=q.1.down.up (by show(lD g.disk g.state).2.2≠9;omega)
   have p:=akJ (lsn:=g.state.lsn) (q.1.fits (by show(lD g.disk g.state).2.2≠9;omega)) hu2
   exact⟨q.1.keep.trans p.keep,fun h=>p.byte (q.1.byte h),p.down,p.fits⟩
  ·rw[if_neg h0];exact q.1
 ·unfold KA at h
  by_cases h0:(lD g.disk g.state).2.2=0
  ·exact q.2 h0
  ·rw[if_neg h0]at h;exact absurd h h0
theorem acf {g:aN} (hg:SG g) (hf:(aW g).2.2=0):lK g=0/\amV g (aW g)/\(aW g).1.up=true:=by
 by_cases h0:lK g=0
 ·have q:=DR hg h0
  refine⟨h0,q,?_⟩
  rcases q.how with ⟨h, -⟩ | ⟨-, h, -⟩
  ·exact h
  ·rw[hf]at h;cases h
 ·rw[aae h0]at hf;exact absurd hf h0
theorem acp {g:aN} (hg:SG g):wS g=some (Z9 g):=by
 unfold wS Z9
 rw[JB hg,ai,gm,fC]
 by_cases hf:(aW g).2.2=0
 case neg=>rw[if_neg hf,if_pos hf]
 obtain⟨h0,q,hu⟩:=acf hg hf
 have sq:=agi q.right hu
 rw[if_pos hf,if_neg (fun k=>k hf),aaA q.sg.bnd q.sg.byte q.sg.st q.sg.sh,ai,fC,fC]
 unfold Vf
 have sk:=sq.kept
 unfold KA at sk ⊢
 by_cases hs:(lD (aW g).1.disk (aW g).1.state).2.2=0
 ·rw[if_pos hs]at sk
  rw[if_pos hs,if_pos hs,YA q.sg.wal (sq.first.keep.bnd q.sg.bnd.fu),ai,fC]
  by_cases hd:(Yk (aW g).1.wal (lD (aW g).1.disk (aW g).1.state).1 (aW g).1.state.lsn).2=0
  ·have:=sk.down.up (by rw[hd];simp)
   rw[if_pos hd,if_pos hd,if_neg (by rw[this];simp)]
  ·rw[if_neg hd,if_neg hd,H9]
   split
   ·rfl
   ·rfl
 ·rw[if_neg hs,if_neg hs,if_neg hs,H9]
  simp only
  rw[if_neg hs]
  split
  ·rfl
  ·rfl
theorem ag0 {g:aN} (hg:SG g):QA g (Z9 g).1 (Z9 g).2.2:=by
 unfold Z9
 by_cases hf:(aW g).2.2=0
 case neg=>rw[if_pos hf];exact Qg hg
 obtain⟨h0,q,hu⟩:=acf hg hf
 have sq:=agi q.right hu
 rw[if_neg (fun k=>k hf)]
 have hgu:=(qM.1 h0).2
 obtain⟨r1,r2,r3,r4,r5,r6,r7,r8,r9⟩:=q.right
 have hfk:=(sq.kept.keep.bnd q.sg.bnd.fu).fu
 have hbk:=sq.kept.byte q.sg.byte
 have hgen:0<=(Vf (aW g).1).gen/\(Vf (aW g).1).gen<=1000000000:=by
  unfold Vf
  simp only
  split
  ·rename_i h;exact sq.gen h
  ·exact r8
 have hdq:=sq.kept.down
 unfold uK at hdq
 by_cases hd:(KA (aW g).1).1.down=true
 ·rw[if_pos hd]
  have hR:=PZ (g:=Vf (aW g).1) sq.kept.keep.right r2 r3 r4 hgen hd
  exact⟨SG.of hR q.sg.st q.sg.sh hfk hbk (fun n hn=>(by cases hn)),fun _=>hR,fun _=>⟨fun _=>hdq.1 hd,fun _=>rfl⟩,fun h=>by rw[hgu]at h;cases h⟩
 ·rw[if_neg hd]
  have h9:(KA (aW g).1).2≠9:=fun h=>hd (hdq.2 h)
  have hR:qR (Vf (aW g).1):=⟨sq.kept.keep.right,r2,r3,r4,r5,r6,r7,hgen,.inl ⟨hu,(by simpa using hd:(KA (aW g).1).1.down=false),sq.kept.fits h9⟩⟩
  refine⟨SG.of hR q.sg.st q.sg.sh hfk hbk q.sg.ok,fun _=>hR,fun _=>⟨fun h=> ?_,fun h=>absurd h h9⟩,fun h=>by rw[hgu]at h;cases h⟩
  have:(aW g).1.up=false:=h
  rw[hu]at this;cases this
noncomputable def fK:aN->List gq->aN×Int
 |g,[]=>(g,0)
 |g,n::r=>if (bn g (qy n)).2=0 then fK (bn g (qy n)).1 r else (g,(bn g (qy n)).2)
open Classical in
noncomputable def MX (g:aN) (n:gq):aN×Int:=
 if lK g≠0 then (g,lK g)else if ¬xH (qy n)then (g,1)else
 if (nC g.feed n (g.state.seq+1)).2.2≠0 then (g,(nC g.feed n (g.state.seq+1)).2.2)else
 if 1000000000<g.state.lsn+((nC g.feed n (g.state.seq+1)).2.1.length:Int)then (g,3)else
 if 32<(nC g.feed n (g.state.seq+1)).2.1.length+g.wal.wait.length then (g,6)else
 if (fK g (nC g.feed n (g.state.seq+1)).2.1).2≠0 then (g,(fK g (nC g.feed n (g.state.seq+1)).2.1).2)else
 (⟨(fK g (nC g.feed n (g.state.seq+1)).2.1).1.disk,(fK g (nC g.feed n (g.state.seq+1)).2.1).1.wal,(fK g (nC g.feed n (g.state.seq+1)).2.1).1.state,(fK g (nC g.feed n (g.state.seq+1)).2.1).1.outbox,
   (nC g.feed n (g.state.seq+1)).1,(fK g (nC g.feed n (g.state.seq+1)).2.1).1.gen,(fK g (nC g.feed n (g.state.seq+1)).2.1).1.up⟩,0)
structure anB (g h:aN) (k:Int):Prop where
 disk:h.disk=g.disk
 wal:zk h.wal
 fits:ny g.wal g.disk->ny h.wal g.disk
 next:h.wal.next=g.wal.next+k
 sure:h.wal.sure=g.wal.sure
 R:iY h.state
 lsn:h.state.lsn=g.state.lsn+k
 seq:h.state.seq=g.state.seq+k
 out:h.outbox=g.outbox
 feed:h.feed=g.feed
 gen:h.gen=g.gen
 up:h.up=g.up
 st:ja h.state
 sh:qI h.state
theorem agL {g:aN} {n:gq} (hs:ja g.state) (hsh:qI g.state) (hn:qZ n) (h:(bn g (qy n)).2=0):(bn g (qy n)).1.state.seq=g.state.seq+1:=by
 obtain⟨-, d1,d2⟩:=DC hs hsh (QK hn) h
 rw[d2,((Vg _ _).good d1).2.2.1,if_pos (show(qy n).kind=6 from rfl)]
theorem adF:∀(l:List gq) (g:aN),(∀n∈l,qZ n)->zk g.wal->iY g.state->ja g.state->qI g.state->(fK g l).2=0->anB g (fK g l).1 l.length
 |[],g,_,hw,hR,hs,hsh,_=>⟨rfl,hw,id,by simp [fK],rfl,hR,by simp [fK],by simp [fK],rfl,rfl,rfl,rfl,hs,hsh⟩
 |n::r,g,hl,hw,hR,hs,hsh,h=>by
  rw[fK]at h ⊢
  by_cases h0:(bn g (qy n)).2=0
  case neg=>rw[if_neg h0]at h;exact absurd h h0
  rw[if_pos h0]at h ⊢
  have hn:=hl n (by simp)
  have p:=(DC hs hsh (QK hn) h0).1
  have ih:=adF r _ (fun m hm=>hl m (by simp [hm])) p.put.wal p.R p.st p.sh h
  have hq:=agL hs hsh hn h0
  refine⟨ih.disk.trans p.disk,ih.wal,fun hf=> ?_,?_,ih.sure.trans p.put.sure,ih.R,?_,?_,ih.out.trans p.out,ih.feed.trans p.feed,ih.gen.trans p.gen,ih.up.trans p.up,ih.st,ih.sh⟩
  ·have:=ih.fits (by rw[p.disk];exact p.put.fits hf)
   rwa[p.disk]at this
  ·rw[ih.next,p.put.next];simp only[List.length_cons];omega
  ·rw[ih.lsn,p.lsn];simp only[List.length_cons];omega
  ·rw[ih.seq,hq];simp only[List.length_cons];omega
theorem XB:∀(l:List gq) (g:aN),(fK g l).2≠9
 |[],g=>by simp [fK]
 |n::r,g=>by
  rw[fK]
  split
  ·exact XB r _
  ·exact Qj _ _
theorem ae1 {l:List gq} {i:Nat} (hi:i<l.length) (g:aN):fK g (l.drop i)=if (bn g (qy l[i])).2=0 then fK (bn g (qy l[i])).1 (l.drop (i+1))else (g,(bn g (qy l[i])).2):=by
 rw[List.drop_eq_getElem_cons hi];rfl
structure ah2 (h:aN):Prop where
 st:ja h.state
 sh:qI h.state
 wal:Ae h.wal
theorem ah2.next {h:aN} {n:gq} (m:ah2 h) (hn:qZ n) (h0:(bn h (qy n)).2=0):ah2 (bn h (qy n)).1:=by
 have p:=(DC m.st m.sh (QK hn) h0).1
 exact⟨p.st,p.sh,abj p.put.wal⟩
theorem ajG {l:List gq} {g:aN} (z:aN) (hl:l.length<999) (hok:∀n∈l,qZ n) (hm:ah2 g):Wq (bM (fun v:Int×Int×Int×aN×aN=>oI (len l) l g v.1 v.2.1 v.2.2.1 v.2.2.2.1 v.2.2.2.2) LF (0,0,0,g,z)) fun w=>match w with
 |.inl x=>x.2.2=g/\x.1=(fK g l).2/\x.1≠0
 |.inr x=>x.2.2.1=(fK g l).1/\(fK g l).2=0:=by
 refine lZ (n:=l.length) (by omega) (fun i x=>ah2 x.2.2.1/\fK g l=fK x.2.2.1 (l.drop i)) _ ?_ ?_ _ 0 (Nat.zero_le _) ⟨hm,by simp⟩
 ·rintro i ⟨x1,x2,s,x4⟩ hi ⟨g1,g3⟩
  simp only at g1 g3
  simp only[oI]
  have hn:=hok _ (List.getElem_mem hi)
  rw[aH (by rw[ig];simpa using hi),aH (inb l i hi),bQ l i hi,show og l[i]=some (qy l[i])from rfl,ai,J4 g1.st g1.sh g1.wal (QK hn),ai,iH,ak,ak]
  rw[ae1 hi]at g3
  refine⟨fun hz=> ?_,fun hz=> ?_⟩
  ·rw[bI,bG]at hz
   rw[if_neg hz]at g3
   exact⟨rfl,by rw[g3],hz⟩
  ·rw[bK,bD]at hz
   rw[if_pos hz]at g3
   exact⟨eu (by omega),g1.next hn hz,g3⟩
 ·rintro⟨x1,x2,s,x4⟩ ⟨g1,g3⟩
  simp only at g1 g3
  simp only[oI]
  rw[dH (Nb _),ak]
  rw[List.drop_length]at g3
  have g3:fK g l=(s,0):=g3
  rw[g3]
  exact⟨rfl,rfl⟩
theorem afp {g:aN} (hg:SG g) {n:gq} (hn:qZ n) (h0:lK g=0):(nC g.feed n (g.state.seq+1)).2.1.length<=9/\(∀m∈(nC g.feed n (g.state.seq+1)).2.1,qZ m)/\(∀m∈(nC g.feed n (g.state.seq+1)).1.held,qZ m):=by
 have cm:=aia (f:=g.feed) (n:=n) (x:=g.state.seq+1)
 have h8:=(qM.1 h0).1.2.2.2.2.2.1.2.2.1
 have hmem:∀m,m∈g.feed.held\/m=n->qZ m:=fun m hm=>by
  rcases hm with hm | rfl
  ·exact hg.ok m hm
  ·exact hn
 exact⟨by have:=cm.2.1;omega,fun m hm=>hmem m (cm.2.2.2 m hm),fun m hm=>hmem m (cm.2.2.1 m hm)⟩
theorem adQ {g:aN} {n:gq} (hg:SG g) (hn:qZ n):G6 g n=some (MX g n):=by
 unfold G6 MX
 rw[Eu hg,ai,gm,fC]
 by_cases h0:lK g=0
 case neg=>rw[if_neg h0,if_pos h0]
 rw[if_pos h0,if_neg (fun k=>k h0),show og n=some (qy n)from rfl,ai]
 obtain⟨b,hb,hbq⟩:=vK (qy n)
 rw[hb,ai]
 cases b with
 |false=>rw[if_pos (fun k=>by have:=hbq.2 k;cases this)];rfl
 |true=>
 rw[if_neg (fun k=>k (hbq.1 rfl)),aU,aX]
 have hG:=(qM.1 h0).1
 have hq:=hG.2.1.fine.seq
 have hL:=hG.2.1.fine.lsn
 have hwl:=hG.2.2.1.2.2.2.1
 have hw:wr .i64 (au g.state.seq 1)=g.state.seq+1:=bU (by simp only[au];omega) (by simp only[au];omega)
 rw[hw,adp,ai,gm,fC]
 obtain⟨c1,c2,c3⟩:=afp hg hn h0
 generalize nC g.feed n (g.state.seq+1)=C at*
 obtain⟨f,l,e⟩:=C
 simp only at*
 by_cases he:e=0
 case neg=>rw[if_neg he,if_pos he]
 subst he
 rw[if_pos rfl,if_neg (fun k=>k rfl),show len l=(l.length:Int)from rfl,show len g.wal.wait=(g.wal.wait.length:Int)from rfl,show au g.state.lsn (l.length:Int)=g.state.lsn+(l.length:Int)from rfl,bU (by omega) (by omega),G5]
 by_cases ho:1000000000<g.state.lsn+(l.length:Int)
 ·rw[if_pos ho,if_pos ho]
 rw[if_neg ho,if_neg ho,show au (l.length:Int) (g.wal.wait.length:Int)=(l.length:Int)+(g.wal.wait.length:Int)from rfl,bU (by omega) (by omega),G5]
 by_cases hf:32<l.length+g.wal.wait.length
 ·rw[if_pos (by omega),if_pos hf]
 rw[if_neg (by omega),if_neg hf]
 obtain⟨w,w1,w2⟩:=ajG (aN.mk (ah.mk [] 0 0 false) (dZ.mk 0 0 0 0 0 []) (aC.mk 0 0 [] [] [] [] false 0 0 0) [] (mY.mk [] false) 0 false) (by omega) c2 ⟨hg.st,hg.sh,hg.wal⟩
 have w1':bM (fun v:Int×Int×Int×aN×aN=>oI (l.length:Int) l g v.1 v.2.1 v.2.2.1 v.2.2.2.1 v.2.2.2.2) LF (0,0,0,g,aN.mk (ah.mk [] 0 0 false) (dZ.mk 0 0 0 0 0 []) (aC.mk 0 0 [] [] [] [] false 0 0 0) [] (mY.mk [] false) 0 false)=some w:=w1
 rw[w1',ai]
 match w,w2 with
 |.inl x,⟨a1,a2,a3⟩=>simp only[jB];rw[if_pos (by rw[<-a2];exact a3),a1,a2]
 |.inr x,⟨a1,a2⟩=>simp only[jB];rw[if_neg (fun k=>k a2),a1]
theorem agQ (f:mY) (n:gq) (x:Int):(nC f n x).2.2≠9:=by
 unfold nC
 split
 ·simp
 split
 ·simp
 split
 ·simp
 split
 ·simp
 split<;>simp
theorem ahq {g:aN} {n:gq} (hg:SG g) (hn:qZ n):QA g (MX g n).1 (MX g n).2/\(MX g n).1.disk=g.disk/\(MX g n).1.wal.sure=g.wal.sure/\(MX g n).1.gen=g.gen/\(MX g n).1.outbox=g.outbox:=by
 have same:∀e:Int,e≠9->QA g (g,e).1 (g,e).2/\(g,e).1.disk=g.disk/\(g,e).1.wal.sure=g.wal.sure/\(g,e).1.gen=g.gen/\(g,e).1.outbox=g.outbox:=fun e he=>⟨IE hg fun _=>he,rfl,rfl,rfl,rfl⟩
 unfold MX
 by_cases h0:lK g=0
 case neg=>rw[if_pos h0];exact⟨IE hg fun hu=>Jz hu,rfl,rfl,rfl,rfl⟩
 rw[if_neg (fun k=>k h0)]
 by_cases hr:xH (qy n)
 case neg=>rw[if_pos hr];exact same 1 (by simp)
 rw[if_neg (fun k=>k hr)]
 obtain⟨hG,hu⟩:=qM.1 h0
 obtain⟨hdn,hfit⟩:=S9 hG hu
 obtain⟨c1,c2,c3⟩:=afp hg hn h0
 have c9:=agQ g.feed n (g.state.seq+1)
 have cok:=afS (f:=g.feed) (n:=n) (x:=g.state.seq+1)
 generalize nC g.feed n (g.state.seq+1)=C at*
 obtain⟨f,l,e⟩:=C
 simp only at c1 c2 c3 c9 cok ⊢
 by_cases he:e=0
 case neg=>rw[if_pos he];exact same e c9
 have cq:=cok he
 rw[if_neg (fun k=>k he)]
 by_cases ho:1000000000<g.state.lsn+(l.length:Int)
 ·rw[if_pos ho];exact same 3 (by simp)
 rw[if_neg ho]
 by_cases hf:32<l.length+g.wal.wait.length
 ·rw[if_pos hf];exact same 6 (by simp)
 rw[if_neg hf]
 by_cases hz:(fK g l).2=0
 case neg=>rw[if_pos hz];exact same _ (XB _ _)
 rw[if_neg (fun k=>k hz)]
 obtain⟨h1,h2,h3,h4,h5,h6,h7,h8,h9⟩:=hG
 have q:=adF l g c2 h3 h2 hg.st hg.sh hz
 have hR:qR ⟨(fK g l).1.disk,(fK g l).1.wal,(fK g l).1.state,(fK g l).1.outbox,f,(fK g l).1.gen,(fK g l).1.up⟩:=by
  have hqs:=q.R.fine.seq
  have hls:=q.R.fine.lsn
  have e1:=q.seq
  have e2:=q.lsn
  have hx:(fK g l).1.state.seq+1=g.state.seq+1+(l.length:Int):=by omega
  refine⟨?_,q.R,q.wal,?_,?_,⟨?_,?_,cq.len,?_⟩,?_,?_,.inl ⟨q.up.trans hu,?_,?_⟩⟩
  ·show gG (fK g l).1.disk
   rw[q.disk];exact h1
  ·show(fK g l).1.state.lsn+1=(fK g l).1.wal.next
   rw[e2,q.next];omega
  ·show Ik (fK g l).1.outbox (fK g l).1.wal.sure (fK g l).1.state.lsn
   rw[q.out,q.sure];exact afz h5 (by omega)
  ·show 1<=(fK g l).1.state.seq+1
   omega
  ·show(fK g l).1.state.seq+1<=1000000001
   omega
  ·show uV f.held ((fK g l).1.state.seq+1) ((fK g l).1.state.seq+1)
   rw[hx];exact cq.held
  ·intro m hm
   rcases cq.mem m hm with c | c
   ·exact h7 m c
   ·rw[c];exact hr
  ·show 0<=(fK g l).1.gen/\(fK g l).1.gen<=1000000000
   rw[q.gen];exact h8
  ·show(fK g l).1.disk.down=false
   rw[q.disk];exact hdn
  ·show ny (fK g l).1.wal (fK g l).1.disk
   rw[q.disk];exact q.fits hfit
 refine⟨⟨SG.of hR q.st q.sh ?_ ?_ c3,fun _=>hR,fun _=>⟨fun h=> ?_,fun h=>(by cases h)⟩,fun h=>(by rw[hu]at h;cases h)⟩,q.disk,q.sure,q.gen,q.out⟩
 ·show inI (fK g l).1.disk.fuse
  rw[q.disk];exact hg.bnd.fu
 ·show iV (fK g l).1.disk
  rw[q.disk];exact hg.byte
 ·have:(fK g l).1.up=false:=h
  rw[q.up,hu]at this;cases this
theorem ack {g:aN} {r:jm} (hg:SG g) (hr:nV r):QA g (tH g r).1 (tH g r).2:=by
 obtain⟨h1,h2,h3,-, -, -, h7⟩:=aby hg hr
 refine⟨h1,h2,fun hu=>⟨fun h=> ?_,fun h=>absurd h (h7 hu)⟩,fun hl=> ?_⟩
 ·rw[h3,hu]at h;cases h
 ·unfold tH
  rw[if_pos (fun k=>by have:=(qM.1 k).2;rw[hl]at this;cases this)]
theorem ahf (g:aN) (k:VH g):Wq (qj g) fun b=>b=true->SG g/\g.outbox.length<=99/\g.feed.held.length<=99:=by
 unfold qj
 refine(agu g.disk k.disk_files).bind fun b hb=> ?_
 refine Wq.bind (Q:=fun c=>c=true->b=true/\qI g.state) ?_ fun c hc=> ?_
 ·rw[iH]
  exact⟨fun h1=>(ajM g.state).mono fun c hc h=>⟨h1,hc h⟩,fun _=>(ak _).2 fun h=>by cases h⟩
 ·rw[ak]
  intro h
  simp only[aZ,bV,dF,dL,bI,bK,dG,dK,bY,dQ,bD,bG,dV,dW,len]at h
  obtain⟨⟨⟨⟨h1,h2⟩,h3⟩,h4⟩,h5⟩:=h
  have hd:Rz g.disk:=⟨k.disk_files,k.disk_room,k.disk_fuse⟩
  have hs:=hb h1
  refine⟨⟨⟨k.state_accounts,k.state_symbols,k.state_orders,k.state_cells,k.state_limits,k.state_caps,k.state_last,k.state_seq,k.state_lsn⟩,(hc h2).2,⟨k.wal_epoch,k.wal_next,k.wal_sure,k.wal_seg,k.wal_count,by omega⟩,by omega,agO hd hs,ajE hd,hs.1,by omega,by omega,fun n hn=>k.feed_held.1 n hn,k.gen⟩,by omega,by omega⟩
def Hq {τ:Type} [DecidableEq τ] (n:Int) (f:Bool->Option τ):Option τ:=if n=0 then (if f true=f false then f true else none)else f false
theorem zL {τ:Type} [DecidableEq τ] (n:Int) (f:Bool->Option τ):MG n f=Hq n f:=by
 unfold MG Hq
 by_cases h:n=0
 ·rw[if_pos h,if_pos h]
  by_cases h2:f true=f false
  ·rw[if_pos h2,if_pos h2]
  ·rw[if_neg h2,if_neg h2]
 ·rw[if_neg h,if_neg h]
def aJ (x0:(List aA)):Option ((List aA)):=Hq (len x0) fun y0=>cnd (beq y0 true) (some []) (cnd (ile (len x0) 68719476736) (some x0) none)
theorem iR:aK=aJ:=by
 funext a0
 unfold aK aJ
 simp only[zL]
def nK (x0:ah) (x1:(List UInt8)):Option (ah×Int):=af (jb x0 [x1]) fun y0=>cnd (ax (ieq y0 0)) (cnd (ax (ieq y0 0)) (some (x0,y0)) (cnd (ieq x0.fuse 0) (some (ah.mk x0.files x0.room x0.fuse true,9)) (cnd (ieq x0.fuse (-1)) (af (aJ x0.files) fun y1=>af (dR y1 0 1) fun y2=>some (ah.mk y2 x0.room x0.fuse x0.down,0)) (af (aJ x0.files) fun y3=>af (dR y3 0 1) fun y4=>some (ah.mk y4 x0.room (wr .i64 (aB x0.fuse 1)) x0.down,0))))) (af (dP x0 x1) fun y5=>cnd (ax y5.2) (some (x0,7)) (cnd (ieq x0.fuse 0) (some (ah.mk x0.files x0.room x0.fuse true,9)) (cnd (ieq x0.fuse (-1)) (af (aJ x0.files) fun y6=>af (dR y6 y5.1 (wr .i64 (au y5.1 1))) fun y7=>some (ah.mk y7 x0.room x0.fuse x0.down,0)) (af (aJ x0.files) fun y8=>af (dR y8 y5.1 (wr .i64 (au y5.1 1))) fun y9=>some (ah.mk y9 x0.room (wr .i64 (aB x0.fuse 1)) x0.down,0)))))
theorem wG:lC=nK:=by
 funext a0 a1
 unfold lC nK
 simp only[iR]
def zq (p0:Int) (p1:Int) (p2:(List Int)) (p3:(List Int)) (p4:dZ) (v0:Int) (v1:Int) (v2:ah) (v3:ah):Option ((Int×Int×ah×ah) ⊕ ((Int×ah×ah) ⊕ ((Int×ah×ah)))):=cnd (ilt v0 p0) (cnd (band (ile 0 v0) (ilt v0 (len p2))) (cnd (ilt (wr .i64 (au v0 1)) (len p3)) (cnd (band (ile 0 (wr .i64 (au v0 1))) (ilt (wr .i64 (au v0 1)) (len p3))) (cnd (ieq (aj p2 (itn v0)) p4.seg) (some (Sum.inl (wr .i64 (au v0 1),v1,v2,v3))) (cnd (ilt p1 (wr .i64 (aB (aj p3 (itn (wr .i64 (au v0 1)))) 1))) (some (Sum.inr (Sum.inl (v1,v2,v3)))) (af (iQ (aj p2 (itn v0))) fun y0=>af (nK v3 y0) fun y1=>cnd (ax (ieq y1.2 0)) (some (Sum.inr (Sum.inr (y1.2,y1.1,y1.1)))) (some (Sum.inl (wr .i64 (au v0 1),v1,v2,y1.1)))))) none) (cnd (ieq (aj p2 (itn v0)) p4.seg) (some (Sum.inl (wr .i64 (au v0 1),v1,v2,v3))) (cnd (ilt p1 p4.sure) (some (Sum.inr (Sum.inl (v1,v2,v3)))) (af (iQ (aj p2 (itn v0))) fun y2=>af (nK v3 y2) fun y3=>cnd (ax (ieq y3.2 0)) (some (Sum.inr (Sum.inr (y3.2,y3.1,y3.1)))) (some (Sum.inl (wr .i64 (au v0 1),v1,v2,y3.1))))))) none) (some (Sum.inr (Sum.inl (v1,v2,v3))))
theorem KZ:o8=zq:=by
 funext a0 a1 a2 a3 a4 a5 a6 a7 a8
 unfold o8 zq
 simp only[wG]
def Aa (x0:dZ) (x1:ah) (x2:Int):Option (ah×Int):=af (zl x0 x1) fun y0=>cnd (ax y0) (some (x1,1)) (af (wO x1) fun y1=>af (bM (fun v=>zq (len y1) x2 y1 y1 x0 v.1 v.2.1 v.2.2.1 v.2.2.2) LF (0,0,ah.mk [] 0 0 false,x1)) fun y2=>jB y2 (fun y3=>some (y3.2.2,0)) fun y3=>some (y3.2.1,y3.1))
theorem GL:zh=Aa:=by
 funext a0 a1 a2
 unfold zh Aa
 simp only[KZ]
def tV (x0:dZ) (x1:ah):Option (Bool):=af (Aa x0 x1 0) fun y0=>some (ax (ieq y0.2 1))
theorem PU:oG=tV:=by
 funext a0 a1
 unfold oG tV
 simp only[GL]
def xC (x0:aN):Option (Bool):=af (mJ x0.disk) fun y0=>af (cnd (ax (ax y0)) (nT x0.state) (some false)) fun y1=>af (cnd (ax (bor (ax y0) (ax y1))) (rX x0.wal) (some false)) fun y2=>cnd (bor (bor (ax y0) (ax y1)) (ax y2)) (some false) (af (cnd (ax (ax (ieq x0.state.lsn (wr .i64 (aB x0.wal.next 1))))) (wK x0.outbox x0.wal.sure x0.state.lsn) (some false)) fun y3=>af (cnd (ax (bor (ax (ieq x0.state.lsn (wr .i64 (aB x0.wal.next 1)))) (ax y3))) (xI x0.feed (wr .i64 (au x0.state.seq 1))) (some false)) fun y4=>cnd (ax (bor (bor (ax (ieq x0.state.lsn (wr .i64 (aB x0.wal.next 1)))) (ax y3)) (ax y4))) (af (bM (fun v=>cZ (len x0.feed.held) x0.feed.held v.1 v.2) LF (0,0)) fun y5=>jB y5 (fun y6=>cnd (bor (bor (bor (ax (ieq x0.state.lsn (wr .i64 (aB x0.wal.next 1)))) (ax y3)) (ax y4)) (ile 0 y6)) (some false) (af (cnd (band (band (band (ile 0 x0.gen) (ile x0.gen 1000000000)) (ax (beq x0.up x0.disk.down))) x0.up) (tV x0.wal x0.disk) (some false)) fun y7=>af (cnd (band (band (band (band (ile 0 x0.gen) (ile x0.gen 1000000000)) (ax (beq x0.up x0.disk.down))) (ax (band x0.up y7))) (ax x0.up)) (lF x0) (some false)) fun y8=>some (band (band (band (ile 0 x0.gen) (ile x0.gen 1000000000)) (ax (beq x0.up x0.disk.down))) (bor (band x0.up y7) (band (ax x0.up) y8))))) fun y6=>cnd (bor (bor (bor (ax (ieq x0.state.lsn (wr .i64 (aB x0.wal.next 1)))) (ax y3)) (ax y4)) false) (some false) (af (cnd (band (band (band (ile 0 x0.gen) (ile x0.gen 1000000000)) (ax (beq x0.up x0.disk.down))) x0.up) (tV x0.wal x0.disk) (some false)) fun y9=>af (cnd (band (band (band (band (ile 0 x0.gen) (ile x0.gen 1000000000)) (ax (beq x0.up x0.disk.down))) (ax (band x0.up y9))) (ax x0.up)) (lF x0) (some false)) fun y10=>some (band (band (band (ile 0 x0.gen) (ile x0.gen 1000000000)) (ax (beq x0.up x0.disk.down))) (bor (band x0.up y9) (band (ax x0.up) y10))))) (cnd (bor (bor (bor (ax (ieq x0.state.lsn (wr .i64 (aB x0.wal.next 1)))) (ax y3)) (ax y4)) false) (some false) (af (cnd (band (band (band (ile 0 x0.gen) (ile x0.gen 1000000000)) (ax (beq x0.up x0.disk.down))) x0.up) (tV x0.wal x0.disk) (some false)) fun y11=>af (cnd (band (band (band (band (ile 0 x0.gen) (ile x0.gen 1000000000)) (ax (beq x0.up x0.disk.down))) (ax (band x0.up y11))) (ax x0.up)) (lF x0) (some false)) fun y12=>some (band (band (band (ile 0 x0.gen) (ile x0.gen 1000000000)) (ax (beq x0.up x0.disk.down))) (bor (band x0.up y11) (band (ax x0.up) y12))))))
theorem Ei:mG=xC:=by
 funext a0
 unfold mG xC
 simp only[PU]
def qN (x0:Int) (x1:jL) (x2:Int):Option (aN×Bool):=af (Qy 2 2 x1 x2) fun y0=>af (cnd (ieq y0.2 0) (xC (aN.mk (ah.mk [] x0 (-1) false) (dZ.mk 1 1 0 0 0 []) y0.1 [] (mY.mk [] false) 0 true)) (some false)) fun y1=>some (aN.mk (ah.mk [] x0 (-1) false) (dZ.mk 1 1 0 0 0 []) y0.1 [] (mY.mk [] false) 0 true,band (ieq y0.2 0) y1)
theorem Eo:qc=qN:=by
 funext a0 a1 a2
 unfold qc qN
 simp only[Ei]
def rG (x0:aN):Option (Int):=af (xC x0) fun y0=>cnd (ax y0) (some 1) (cnd (ax x0.up) (some 9) (some 0))
theorem xX:nZ=rG:=by
 funext a0
 unfold nZ rG
 simp only[Ei]
def fZ (x0:(List aG)):Option ((List aG)):=Hq (len x0) fun y0=>cnd (beq y0 true) (some []) (cnd (ile (len x0) 68719476736) (some x0) none)
theorem Bh:fG=fZ:=by
 funext a0
 unfold fG fZ
 simp only[zL]
def gK (x0:(List bC)):Option ((List bC)):=Hq (len x0) fun y0=>cnd (beq y0 true) (some []) (cnd (ile (len x0) 68719476736) (some x0) none)
theorem BJ:fO=gK:=by
 funext a0
 unfold fO gK
 simp only[zL]
def gJ (x0:(List jL)):Option ((List jL)):=Hq (len x0) fun y0=>cnd (beq y0 true) (some []) (cnd (ile (len x0) 68719476736) (some x0) none)
theorem BF:fP=gJ:=by
 funext a0
 unfold fP gJ
 simp only[zL]
def iI (x0:(List Int)):Option ((List Int)):=Hq (len x0) fun y0=>cnd (beq y0 true) (some []) (cnd (ile (len x0) 68719476736) (some x0) none)
theorem EF:iE=iI:=by
 funext a0
 unfold iE iI
 simp only[zL]
def CW (x0:aC) (x1:jm):Option (aC×Int):=af (oL x0.lsn 1) fun y0=>af (cnd (ax (bor (ax (ieq y0.2 0)) (ile 1000000000 x0.lsn))) (ng x1) (some false)) fun y1=>af (cnd (ax (bor (bor (ax (ieq y0.2 0)) (ile 1000000000 x0.lsn)) (ax y1))) (nT x0) (some false)) fun y2=>cnd (bor (bor (bor (ax (ieq y0.2 0)) (ile 1000000000 x0.lsn)) (ax y1)) (ax y2)) (some (x0,1)) (af (fZ x0.orders) fun y3=>af (gK x0.cells) fun y4=>af (gJ x0.limits) fun y5=>af (iI x0.caps) fun y6=>cnd (ieq x1.kind 1) (af (yE x1) fun y7=>cnd (ile x1.order x0.last) (cnd (ile x1.order x0.last) (some (x0,1)) (cnd x0.kill (some (x0,5)) (cnd (ieq (len y3) 64) (some (x0,6)) (af (fZ y3) fun y8=>af (gK y4) fun y9=>af (gJ y5) fun y10=>af (iI y6) fun y11=>af (bF (aC.mk x0.accounts x0.symbols y3 y4 y5 y6 x0.kill x0.last x0.seq x0.lsn) y7.1.account y7.1.symbol) fun y12=>cnd (band (ile 0 y12) (ilt y12 (len y4))) (af (kz (aj y4 (itn y12)) y7.1) fun y13=>cnd (ax (ieq y13.2 0)) (some (x0,3)) (cnd (ile (len (dB y3 [y7.1])) 68719476736) (af (dY (aC.mk x0.accounts x0.symbols (dB y3 [y7.1]) (aY y4 (itn y12) y13.1) y5 y6 x0.kill y7.1.id x0.seq x0.lsn) (aC.mk x0.accounts x0.symbols y8 y9 y10 y11 x0.kill x0.last x0.seq x0.lsn) y7.1.account y7.1.symbol) fun y14=>cnd (ax (ieq y14 0)) (some (x0,y14)) (some (aC.mk x0.accounts x0.symbols (dB y3 [y7.1]) (aY y4 (itn y12) y13.1) y5 y6 x0.kill y7.1.id x0.seq (wr .i64 (au x0.lsn 1)),0))) none)) none)))) (cnd (ile x0.accounts x1.account) (cnd (ile x0.accounts x1.account) (some (x0,1)) (cnd x0.kill (some (x0,5)) (cnd (ieq (len y3) 64) (some (x0,6)) (af (fZ y3) fun y15=>af (gK y4) fun y16=>af (gJ y5) fun y17=>af (iI y6) fun y18=>af (bF (aC.mk x0.accounts x0.symbols y3 y4 y5 y6 x0.kill x0.last x0.seq x0.lsn) y7.1.account y7.1.symbol) fun y19=>cnd (band (ile 0 y19) (ilt y19 (len y4))) (af (kz (aj y4 (itn y19)) y7.1) fun y20=>cnd (ax (ieq y20.2 0)) (some (x0,3)) (cnd (ile (len (dB y3 [y7.1])) 68719476736) (af (dY (aC.mk x0.accounts x0.symbols (dB y3 [y7.1]) (aY y4 (itn y19) y20.1) y5 y6 x0.kill y7.1.id x0.seq x0.lsn) (aC.mk x0.accounts x0.symbols y15 y16 y17 y18 x0.kill x0.last x0.seq x0.lsn) y7.1.account y7.1.symbol) fun y21=>cnd (ax (ieq y21 0)) (some (x0,y21)) (some (aC.mk x0.accounts x0.symbols (dB y3 [y7.1]) (aY y4 (itn y19) y20.1) y5 y6 x0.kill y7.1.id x0.seq (wr .i64 (au x0.lsn 1)),0))) none)) none)))) (cnd (ile x0.symbols x1.symbol) (some (x0,1)) (cnd x0.kill (some (x0,5)) (cnd (ieq (len y3) 64) (some (x0,6)) (af (fZ y3) fun y22=>af (gK y4) fun y23=>af (gJ y5) fun y24=>af (iI y6) fun y25=>af (bF (aC.mk x0.accounts x0.symbols y3 y4 y5 y6 x0.kill x0.last x0.seq x0.lsn) y7.1.account y7.1.symbol) fun y26=>cnd (band (ile 0 y26) (ilt y26 (len y4))) (af (kz (aj y4 (itn y26)) y7.1) fun y27=>cnd (ax (ieq y27.2 0)) (some (x0,3)) (cnd (ile (len (dB y3 [y7.1])) 68719476736) (af (dY (aC.mk x0.accounts x0.symbols (dB y3 [y7.1]) (aY y4 (itn y26) y27.1) y5 y6 x0.kill y7.1.id x0.seq x0.lsn) (aC.mk x0.accounts x0.symbols y22 y23 y24 y25 x0.kill x0.last x0.seq x0.lsn) y7.1.account y7.1.symbol) fun y28=>cnd (ax (ieq y28 0)) (some (x0,y28)) (some (aC.mk x0.accounts x0.symbols (dB y3 [y7.1]) (aY y4 (itn y26) y27.1) y5 y6 x0.kill y7.1.id x0.seq (wr .i64 (au x0.lsn 1)),0))) none)) none)))))) (cnd (ieq x1.kind 2) (af (mP (aC.mk x0.accounts x0.symbols y3 y4 y5 y6 x0.kill x0.last x0.seq x0.lsn) x1.order) fun y29=>cnd (ieq y29 (-1)) (some (x0,7)) (cnd (band (ile 0 y29) (ilt y29 (len y3))) (af (wI (aj y3 (itn y29)) x1.qty x1.price) fun y30=>cnd (ax (ieq y30.2 0)) (some (x0,8)) (cnd x0.kill (some (x0,5)) (af (fZ y3) fun y31=>af (gK y4) fun y32=>af (gJ y5) fun y33=>af (iI y6) fun y34=>af (bF (aC.mk x0.accounts x0.symbols y3 y4 y5 y6 x0.kill x0.last x0.seq x0.lsn) (aj y3 (itn y29)).account (aj y3 (itn y29)).symbol) fun y35=>cnd (band (ile 0 y35) (ilt y35 (len y4))) (af (Cb (aj y4 (itn y35)) (aj y3 (itn y29))) fun y36=>af (kz y36.1 y30.1) fun y37=>cnd (ax (ieq y37.2 0)) (some (x0,3)) (cnd (band (ile 0 y29) (ilt y29 (len y3))) (af (dY (aC.mk x0.accounts x0.symbols (aY y3 (itn y29) y30.1) (aY y4 (itn y35) y37.1) y5 y6 x0.kill x0.last x0.seq x0.lsn) (aC.mk x0.accounts x0.symbols y31 y32 y33 y34 x0.kill x0.last x0.seq x0.lsn) (aj y3 (itn y29)).account (aj y3 (itn y29)).symbol) fun y38=>cnd (ax (ieq y38 0)) (some (x0,y38)) (some (aC.mk x0.accounts x0.symbols (aY y3 (itn y29) y30.1) (aY y4 (itn y35) y37.1) y5 y6 x0.kill x0.last x0.seq (wr .i64 (au x0.lsn 1)),0))) none)) none))) none)) (cnd (ieq x1.kind 3) (af (mP (aC.mk x0.accounts x0.symbols y3 y4 y5 y6 x0.kill x0.last x0.seq x0.lsn) x1.order) fun y39=>cnd (ieq y39 (-1)) (some (x0,7)) (cnd (band (ile 0 y39) (ilt y39 (len y3))) (af (Df (aj y3 (itn y39))) fun y40=>cnd (band (ile 0 y39) (ilt y39 (len y3))) (cnd (ax (ieq y40.2 0)) (some (x0,y40.2)) (some (aC.mk x0.accounts x0.symbols (aY y3 (itn y39) y40.1) y4 y5 y6 x0.kill x0.last x0.seq (wr .i64 (au x0.lsn 1)),0))) none) none)) (cnd (ieq x1.kind 4) (cnd (ile x0.accounts x1.account) (cnd (ile x0.accounts x1.account) (some (x0,1)) (cnd (ieq x1.symbol (-1)) (cnd (band (ile 0 x1.account) (ilt x1.account (len y6))) (some (aC.mk x0.accounts x0.symbols y3 y4 y5 (aY y6 (itn x1.account) x1.opn) x0.kill x0.last x0.seq (wr .i64 (au x0.lsn 1)),0)) none) (af (bF (aC.mk x0.accounts x0.symbols y3 y4 y5 y6 x0.kill x0.last x0.seq x0.lsn) x1.account x1.symbol) fun y41=>cnd (band (ile 0 y41) (ilt y41 (len y5))) (some (aC.mk x0.accounts x0.symbols y3 y4 (aY y5 (itn y41) (jL.mk x1.long x1.short x1.opn)) y6 x0.kill x0.last x0.seq (wr .i64 (au x0.lsn 1)),0)) none))) (cnd (ile x0.symbols x1.symbol) (some (x0,1)) (cnd (ieq x1.symbol (-1)) (cnd (band (ile 0 x1.account) (ilt x1.account (len y6))) (some (aC.mk x0.accounts x0.symbols y3 y4 y5 (aY y6 (itn x1.account) x1.opn) x0.kill x0.last x0.seq (wr .i64 (au x0.lsn 1)),0)) none) (af (bF (aC.mk x0.accounts x0.symbols y3 y4 y5 y6 x0.kill x0.last x0.seq x0.lsn) x1.account x1.symbol) fun y42=>cnd (band (ile 0 y42) (ilt y42 (len y5))) (some (aC.mk x0.accounts x0.symbols y3 y4 (aY y5 (itn y42) (jL.mk x1.long x1.short x1.opn)) y6 x0.kill x0.last x0.seq (wr .i64 (au x0.lsn 1)),0)) none)))) (cnd (ieq x1.kind 5) (some (aC.mk x0.accounts x0.symbols y3 y4 y5 y6 x1.on x0.last x0.seq (wr .i64 (au x0.lsn 1)),0)) (cnd (ax (ieq x1.seq (wr .i64 (au x0.seq 1)))) (some (x0,11)) (af (mP (aC.mk x0.accounts x0.symbols y3 y4 y5 y6 x0.kill x0.last x1.seq x0.lsn) x1.order) fun y43=>cnd (ieq y43 (-1)) (some (aC.mk x0.accounts x0.symbols y3 y4 y5 y6 x0.kill x0.last x1.seq (wr .i64 (au x0.lsn 1)),0)) (cnd (band (ile 0 y43) (ilt y43 (len y3))) (af (AX (aj y3 (itn y43)) (gq.mk x1.seq x1.what x1.order x1.qty x1.price)) fun y44=>cnd (ax (ieq y44.2 0)) (some (aC.mk x0.accounts x0.symbols y3 y4 y5 y6 x0.kill x0.last x1.seq (wr .i64 (au x0.lsn 1)),0)) (af (bF (aC.mk x0.accounts x0.symbols y3 y4 y5 y6 x0.kill x0.last x1.seq x0.lsn) (aj y3 (itn y43)).account (aj y3 (itn y43)).symbol) fun y45=>cnd (band (ile 0 y45) (ilt y45 (len y4))) (af (Cb (aj y4 (itn y45)) (aj y3 (itn y43))) fun y46=>af (kz (aj (aY y4 (itn y45) y46.1) (itn y45)) y44.1) fun y47=>cnd (ieq x1.what 3) (af (FI (aj (aY (aY y4 (itn y45) y46.1) (itn y45) y47.1) (itn y45)) (aj y3 (itn y43)).side x1.qty) fun y48=>cnd (band (ile 0 y43) (ilt y43 (len y3))) (cnd (ieq y44.1.phase 3) (af (iy (aY y3 (itn y43) y44.1) y43 (wr .i64 (au y43 1))) fun y49=>some (aC.mk x0.accounts x0.symbols y49 (aY (aY (aY y4 (itn y45) y46.1) (itn y45) y47.1) (itn y45) y48.1) y5 y6 x0.kill x0.last x1.seq (wr .i64 (au x0.lsn 1)),0)) (some (aC.mk x0.accounts x0.symbols (aY y3 (itn y43) y44.1) (aY (aY (aY y4 (itn y45) y46.1) (itn y45) y47.1) (itn y45) y48.1) y5 y6 x0.kill x0.last x1.seq (wr .i64 (au x0.lsn 1)),0))) none) (cnd (band (ile 0 y43) (ilt y43 (len y3))) (cnd (ieq y44.1.phase 3) (af (iy (aY y3 (itn y43) y44.1) y43 (wr .i64 (au y43 1))) fun y50=>some (aC.mk x0.accounts x0.symbols y50 (aY (aY y4 (itn y45) y46.1) (itn y45) y47.1) y5 y6 x0.kill x0.last x1.seq (wr .i64 (au x0.lsn 1)),0)) (some (aC.mk x0.accounts x0.symbols (aY y3 (itn y43) y44.1) (aY (aY y4 (itn y45) y46.1) (itn y45) y47.1) y5 y6 x0.kill x0.last x1.seq (wr .i64 (au x0.lsn 1)),0))) none)) none)) none))))))))
theorem Jc:zH=CW:=by
 funext a0 a1
 unfold zH CW
 simp only[Bh,BJ,BF,EF]
def dS (x0:(List fM)):Option ((List fM)):=Hq (len x0) fun y0=>cnd (beq y0 true) (some []) (cnd (ile (len x0) 68719476736) (some x0) none)
end Go.Av
