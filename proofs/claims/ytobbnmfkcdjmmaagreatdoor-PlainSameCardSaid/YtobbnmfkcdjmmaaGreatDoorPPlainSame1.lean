/- The plain law, part 1. No condition. -/
import Derived.Test.YtobbnmfkcdjmmaaGreatDoorPPlainSame0
import Derived.KernelRfl
set_option linter.unusedVariables false
set_option linter.unusedSimpArgs false
set_option linter.unnecessarySimpa false
namespace Go.Av
open Go
theorem ahY {l:List aC} (h:Jp l) {n:Nm} {i:Nat} (hi:i<=l.length) (h1:∀(j:Nat) (h:j<l.length),j<i->l[j].name<n) (h2:∀(j:Nat) (h:j<l.length),i<=j->¬l[j].name<n):
 mg n l i (if g:i<l.length then if l[i].name=n then some l[i]else none else none):=by
 have ha:∀f∈l.take i,f.name<n:=fun f hf=>by
  obtain⟨j,hj,rfl⟩:=List.mem_iff_getElem.1 hf
  rw[List.length_take]at hj
  rw[List.getElem_take]
  exact h1 j (by omega) (by omega)
 have hle:(l.take i).length=i:=by rw[List.length_take];omega
 by_cases g:i<l.length
 ·rw[dif_pos g]
  have hb:∀f∈l.drop (i+1),l[i].name<f.name:=fun f hf=>by
   obtain⟨j,hj,rfl⟩:=List.mem_iff_getElem.1 hf
   rw[List.length_drop]at hj
   rw[List.getElem_drop]
   exact abp h (by omega) (by omega)
  have e:l.take i++l[i]::l.drop (i+1)=l:=by rw[<-List.drop_eq_getElem_cons g,List.take_append_drop]
  by_cases k:l[i].name=n
  ·rw[if_pos k]
   have:=mg.yes (l.take i) l[i] (l.drop (i+1)) k ha (k▸hb)
   rwa[e,hle]at this
  ·rw[if_neg k]
   have hlt:n<l[i].name:=by
    rcases ak5 n l[i].name with c | c | c
    ·exact c
    ·exact absurd c.symm k
    ·exact absurd c (h2 i g (Nat.le_refl _))
   have:=mg.no (l.take i) (l[i]::l.drop (i+1)) ha (fun f hf=>by
    rcases List.mem_cons.1 hf with c | c
    ·subst c;exact hlt
    ·exact Ym hlt (hb f c))
   rwa[e,hle]at this
 ·rw[dif_neg g]
  have:=mg.no (l.take i) [] ha (by simp)
  rw[List.append_nil,hle,List.take_of_length_le (by omega)]at this
  exact this
theorem ah2 (n:Nat) (h:n<1000000000):wr .i64 (bJ .u64 (wr .u64 (wr .i64 (n:Int))) 1)=((n / 2:Nat):Int):=by
 have e1:wr .i64 (n:Int)=n:=bM (by omega) (by omega)
 have e2:wr .u64 (n:Int)=n:=by rw[Ak];omega
 have e3:bJ .u64 (n:Int) 1=((n / 2:Nat):Int):=by
  unfold bJ
  simp [Int.shiftRight_eq_div_pow,IntKind.bits,IntKind.signed]
  exact Int.fdiv_eq_ediv_of_nonneg _ (by decide)
 rw[e1,e2,e3,bM (by omega) (by omega)]
theorem af7 (a b:Nm):abu a b<0↔a<b:=by
 unfold abu
 rw[Wi,zx]
 by_cases h:a<b
 ·simp [h]
 ·rw[if_neg h]
  cases seq a b<;>simp [cnd,h]
theorem afV (a b:Nm):abu a b=0↔a=b:=by
 unfold abu
 rw[Wi,zx]
 by_cases h:a<b
 ·simp [h,Ua h]
 ·rw[if_neg h]
  by_cases k:a=b
  ·rw[aA (by rw[alQ];exact k)];simp [k]
  ·rw[cZ (by rw[alY];exact k)];simp [k]
theorem Md {d:ak} {n:Nm} (ha:Jp d.files) (hl:d.files.length<=100000):
 Wq (iV d n) fun r=>∃(i:Nat) (o:Option aC),r.1=(i:Int)/\mg n d.files i o/\r.2=o.isSome:=by
 unfold iV
 refine Wq.bind (Q:=fun w:Int=>∃i:Nat,w=(i:Int)/\i<=d.files.length/\(∀(j:Nat) (h:j<d.files.length),j<i->d.files[j].name<n)/\(∀(j:Nat) (h:j<d.files.length),i<=j->¬d.files[j].name<n))
  (Xt (step:=fun x:Int×Int=>eP d.files n x.1 x.2) (fun v=>(v.1 - v.2).toNat)
    (fun x=>∃lo hi:Nat,x=((hi:Int),(lo:Int))/\lo<=hi/\hi<=d.files.length/\(∀(j:Nat) (h:j<d.files.length),j<lo->d.files[j].name<n)/\(∀(j:Nat) (h:j<d.files.length),hi<=j->¬d.files[j].name<n)) _ ?_ LF _ (acL (by simp only[len];omega)) ⟨0,d.files.length,rfl,Nat.zero_le _,Nat.le_refl _,fun j _ h=>by omega,fun j h1 h2=>by omega⟩) ?_
 ·rintro _ ⟨lo,hi,rfl,g1,g2,g3,g4⟩
  simp only[eP]
  rw[fP]
  refine⟨fun h=> ?_,fun h=>(ai _).2 ?_⟩
  ·rw[dA]at h
   have e1:wr .i64 (bJ .u64 (wr .u64 (wr .i64 (ax (lo:Int) (hi:Int)))) 1)=(((lo+hi) / 2:Nat):Int):=by
    rw[<-ah2 (lo+hi) (by omega)];unfold ax;rw[Int.natCast_add]
   have hm:(lo+hi) / 2<d.files.length:=by omega
   rw[e1,aA (inb _ _ hm),bC _ _ hm,qM,ah,fP,ai,ai]
   refine⟨fun h2=> ?_,fun h2=> ?_⟩
   ·rw[dA,af7]at h2
    refine⟨⟨(lo+hi) / 2+1,hi,by rw[dG (by omega)],by omega,g2,fun j hj h3=> ?_,g4⟩,?_⟩
    ·rcases Nat.lt_or_ge j ((lo+hi) / 2)with h4 | h4
     ·exact Ym (abp ha h4 hm) h2
     ·have:j=(lo+hi) / 2:=by omega
      subst this;exact h2
    ·simp only;rw[dG (by omega)];omega
   ·rw[dB]at h2
    have h2':¬d.files[(lo+hi) / 2].name<n:=by rw[<-af7];omega
    refine⟨⟨lo,(lo+hi) / 2,rfl,by omega,by omega,g3,fun j hj h3=> ?_⟩,?_⟩
    ·rcases Nat.lt_or_ge ((lo+hi) / 2) j with h4 | h4
     ·exact fun g=>h2' (Ym (abp ha h4 hj) g)
     ·have:j=(lo+hi) / 2:=by omega
      subst this;exact h2'
    ·simp only;omega
  ·rw[dB]at h
   have:lo=hi:=by omega
   subst this
   exact⟨lo,rfl,g2,g3,g4⟩
 rintro _ ⟨i,rfl,hi,g1,g2⟩
 have hs:=ahY ha hi g1 g2
 by_cases hil:i<d.files.length
 ·have h1:ilt (i:Int) (len d.files)=true:=Dn (by simp only[len];omega)
  rw[aA (by rw[dn];exact .inl (inb _ i hil)),aA h1,bC _ i hil,qM,ah,ai]
  refine⟨i,_,rfl,hs,?_⟩
  rw[dif_pos hil,h1,EP]
  by_cases k:d.files[i].name=n
  ·rw[if_pos k];show ieq _ 0=true;rw[bn,afV];exact k
  ·rw[if_neg k];show ieq _ 0=false;rw[bg,ne_eq,afV];exact k
 ·have h1:ilt (i:Int) (len d.files)=false:=Bz (by simp only[len];omega)
  rw[aA (by rw[dn,aY];exact .inr h1),cZ h1,ai]
  refine⟨i,_,rfl,hs,?_⟩
  rw[dif_neg hil,h1];rfl
def iU (d:ak) (ns:List Nm):Int:=if ¬gq d then 1 else if d.down=true then 9 else if ∀n∈ns,jy n then 0 else 1
def dw (d:ak):ak×Bool:=if d.fuse=0 then (⟨d.files,d.room,d.fuse,true⟩,false)else if d.fuse= -1 then (d,true)else (⟨d.files,d.room,d.fuse - 1,d.down⟩,true)
def yB (d:ak) (f:aC):ak:=⟨oV f d.files,d.room,d.fuse,d.down⟩
def Y6 (d:ak) (n:Nm):ak:=⟨wW n d.files,d.room,d.fuse,d.down⟩
theorem amV {α:Type} (a b:Nm) (x y:α):cnd (seq a b) x y=if a=b then x else y:=by
 by_cases h:a=b
 ·rw[if_pos h,aA (by rw[alQ];exact h)]
 ·rw[if_neg h,cZ (by rw[alY];exact h)]
theorem kK {d:ak} {ns:List Nm}:iU d ns=0↔gq d/\d.down=false/\∀n∈ns,jy n:=by
 unfold iU
 by_cases h1:gq d
 ·cases h2:d.down
  ·by_cases h3:∀n∈ns,jy n
   ·simp [h1,h3]
   ·simp [h1,h3]
  ·simp [h1]
 ·simp [h1]
theorem aeK (d:ak) (a b:Nm):iU d [a,b]=iU d [b,a]:=by
 unfold iU
 have:(∀n∈[a,b],jy n)↔∀n∈[b,a],jy n:=by simp [and_comm]
 by_cases h:∀n∈[a,b],jy n
 ·simp only[if_pos h,if_pos (this.1 h)]
 ·simp only[if_neg h,if_neg (fun g=>h (this.2 g))]
theorem OG {d:ak} {ns:List Nm} (hn:nameB d) (hs:∀n∈ns,n.length<999999) (hl:ns.length<1000):oD d ns=some (iU d ns):=by
 refine Wq.eq ?_
 unfold oD iU
 rw[Aj hn,ah,fD,zx]
 by_cases hd:gq d
 case neg=>rw[if_neg hd,ai];simp [hd]
 rw[if_pos hd]
 cases hw:d.down
 case true=>rw[aX,ai];simp [hd]
 rw[aU]
 refine Wq.bind (Q:=fun w:Int ⊕ Int=>match w with
  |.inl k=>0<=k/\¬∀n∈ns,jy n
  |.inr _=>∀n∈ns,jy n)
  (lD (n:=ns.length) (step:=fun v:Int×Int=>dP (len ns) ns v.1 v.2) (by omega) (fun i x=>∀n∈ns.take i,jy n) _ ?_ ?_ _ 0 (Nat.zero_le _) (by simp)) ?_
 ·rintro i x hi hx
  simp only[dP]
  rw[aA (by rw[eX];simpa using hi),aA (inb _ i hi),bC _ i hi,afG (hs _ (List.getElem_mem hi)),ah,fD,zx]
  split
  ·rename_i g
   refine(ai _).2 ⟨dG (by omega),?_⟩
   rw[kN hi]
   intro f hf
   rcases List.mem_append.1 hf with c | c
   ·exact hx f c
   ·rw[List.mem_singleton.1 c];exact g
  ·rename_i g
   exact(ai _).2 ⟨by omega,fun h=>g (h _ (List.getElem_mem hi))⟩
 ·rintro x hx
  simp only[dP]
  rw[cZ (Nk _),ai]
  rwa[List.take_length]at hx
 ·rintro(w | w) hw2
  ·simp only[gX]
   rw[aA (jo hw2.1),ai,if_neg (fun h=>h hd),if_neg (by simp),if_neg hw2.2]
  ·simp only[gX]
   rw[ai,if_neg (fun h=>h hd),if_neg (by simp),if_pos hw2]
theorem ae7 {l:List aC} (h:ig l<=10000000) {f:aC} (hf:f∈l):f.data.length<=10000000:=by
 obtain⟨i,hi,rfl⟩:=List.mem_iff_getElem.1 hf
 have:=yX hi
 have:=Gl l (i+1)
 omega
theorem amb {d:ak} (hl:d.files.length<999999) (hu:ig d.files<=10000000):GN d=some (ig d.files:Int):=by
 refine Wq.eq ?_
 unfold GN
 refine Wq.bind (lD (n:=d.files.length) (step:=fun v:Int×Int=>vP (len d.files) d.files v.1 v.2) hl (fun i x=>x=(ig (d.files.take i):Int)) (fun w=>w=(ig d.files:Int)) ?_ ?_ 0 0 (Nat.zero_le _) (by simp [ig])) ?_
 ·rintro i x hi rfl
  simp only[vP]
  rw[aA (by rw[eX];simpa using hi),aA (inb _ i hi),bC _ i hi,ai]
  have h1:=yX hi
  have h2:=Gl d.files (i+1)
  refine⟨dG (by omega),?_⟩
  rw[ax,bM (by simp only[len];omega) (by simp only[len];omega)]
  simp only[len];omega
 ·rintro x rfl
  simp only[vP]
  rw[cZ (Nk _),ai,List.take_length]
 ·rintro w rfl
  exact(ai _).2 rfl
theorem X6 (n:Nm) (l:List aC):(wW n l).length<=l.length:=List.length_filter_le ..
theorem MG {l:List aC} (h:l.length<1000000):aO l=some l:=by unfold aO;exact lW h
theorem acF {l:List Int} (h:l.length<1000000):eG l=some l:=by unfold eG;exact lW h
def aeC (p:ak×Bool):ak×Int:=(p.1,if p.2=true then 0 else 9)
def eu (d:ak) (n:Nm) (b:List Int):ak×Int:=
 if iU d [n]≠0 then (d,iU d [n])else
 if d.room<(ig d.files:Int)+(b.length:Int)\/(dm d.files n=none/\64<=d.files.length)then (d,6)else
 aeC (dw (yB d ⟨n,((dm d.files n).getD ⟨n,[],0⟩).data++b,((dm d.files n).getD ⟨n,[],0⟩).sure⟩))
def nI (d:ak) (n:Nm):ak×Int:=
 if iU d [n]≠0 then (d,iU d [n])else
 match dm d.files n with
 |none=>(d,7)
 |some f=>if (dw d).2=true then (yB (dw d).1 ⟨n,f.data,len f.data⟩,0)else ((dw d).1,9)
def jO (d:ak) (a b:Nm):ak×Int:=
 if iU d [a,b]≠0 then (d,iU d [a,b])else
 match dm d.files a with
 |none=>(d,7)
 |some f=>if (dw d).2=true then (yB (Y6 (dw d).1 a) ⟨b,f.data,f.sure⟩,0)else ((dw d).1,9)
def gu (d:ak) (n:Nm):ak×Int:=
 if iU d [n]≠0 then (d,iU d [n])else
 match dm d.files n with
 |none=>(d,7)
 |some f=>if (dw d).2=true then (Y6 (dw d).1 n,0)else ((dw d).1,9)
def zY (d:ak) (n:Nm) (k:Int):ak×Int:=
 if iU d [n]≠0 then (d,iU d [n])else
 match dm d.files n with
 |none=>(d,7)
 |some f=>if k<0\/len f.data<k then (d,1)else
  if (dw d).2=true then (yB (dw d).1 ⟨n,f.data.take k.toNat,if k<f.sure then k else f.sure⟩,0)else ((dw d).1,9)
def SB (d:ak) (n:Nm):List Int×Int:=
 if iU d [n]≠0 then ([],iU d [n])else
 match dm d.files n with
 |none=>([],7)
 |some f=>(f.data,0)
structure Gw (d:ak):Prop where
 nm:nameB d
 fu:inI d.fuse
theorem gq.fl {d:ak} (h:gq d):d.files.length<=64:=h.1.2.2.2
theorem gq.us {d:ak} (h:gq d):ig d.files<=65536:=by have:=h.2.2;have:=h.1;omega
theorem gq.asc {d:ak} (h:gq d):Jp d.files:=h.2.1.2
theorem bQ (d:ak):(dw d).1.files=d.files:=by unfold dw;split<;>(try split)<;>rfl
theorem tH (d:ak):(dw d).1.room=d.room:=by unfold dw;split<;>(try split)<;>rfl
theorem OC {α:Type} (d:ak) (hf: -1<=d.fuse) (hf2:inI d.fuse) (x:α) (y:Int->Bool->α):
 cnd (ieq d.fuse 0) x (cnd (ieq d.fuse (-1)) (y d.fuse d.down) (y (wr .i64 (aI d.fuse 1)) d.down))=if (dw d).2=true then y (dw d).1.fuse (dw d).1.down else x:=by
 rw[fA,fA]
 unfold dw
 unfold inI at hf2
 by_cases h0:d.fuse=0
 ·simp [h0]
 by_cases h1:d.fuse= -1
 ·simp [h1]
 ·rw[if_neg h0,if_neg h1,if_neg h0,if_neg h1,if_pos rfl,KP ⟨by simp only[aI];omega,by simp only[aI];omega⟩];rfl
theorem Oz {d:ak} (h:¬(dw d).2=true):(dw d).1=⟨d.files,d.room,d.fuse,true⟩:=by
 unfold dw at h ⊢
 split
 ·rfl
 ·rename_i h0
  rw[if_neg h0]at h
  split at h<;>simp at h
theorem cut_out {α:Type} (l r:List α) (i:Nat) (h:i<l.length):
 (iO (iO l i (l.drop (i+1))) (i+(l.drop (i+1)).length) r).take (i+(l.drop (i+1)).length)=l.eraseIdx i:=by
 unfold iO
 have h1:(l.take i).length=i:=by rw[List.length_take];omega
 have e:(l.take i++(l.drop (i+1)++l.drop (i+(l.drop (i+1)).length))).take (i+(l.drop (i+1)).length)=l.take i++l.drop (i+1):=by
  rw[<-List.append_assoc,List.take_append_of_le_length (by rw[List.length_append,h1];exact Nat.le_refl _),List.take_of_length_le (by rw[List.length_append,h1];exact Nat.le_refl _)]
 rw[e,List.take_append_of_le_length (by rw[List.length_append,h1];exact Nat.le_refl _),List.take_of_length_le (by rw[List.length_append,h1];exact Nat.le_refl _),List.eraseIdx_eq_take_drop_succ]
theorem acz {α:Type} (l:List α) (i:Nat) (h:i<l.length):aG (aV l (itn ((i+1:Nat):Int))) (itn (aI (len l) ((i+1:Nat):Int)))=l.drop (i+1):=by
 unfold aG aV aI
 rw[uP]
 apply List.take_of_length_le
 rw[List.length_drop]
 simp only[itn,len];omega
theorem adD {α:Type} (l:List α) (i:Nat) (h:i<l.length):nad i (itn (len (l.drop (i+1))))=i+(l.drop (i+1)).length:=by simp [nad,itn,len]
theorem aaR {α:Type} (l:List α) (i:Nat) (ys:List α) (h:i+ys.length<=l.length):(iO l i ys).length=l.length:=by
 unfold iO;simp only[List.length_append,List.length_take,List.length_drop];omega
theorem ac9 (n:Nat):nad 0 n=n:=by simp [nad]
theorem agP (n:Nat):itn (nti n)=n:=by simp [itn,nti]
theorem ajP {l:List aC} {i:Nat} (h:i<l.length) (hl:l.length<999999):iH l (i:Int) ((i+1:Nat):Int)=some (l.eraseIdx i):=by
 unfold iH
 have hdl:(l.drop (i+1)).length=l.length - (i+1):=List.length_drop ..
 rw[acz l i h,uP,adD l i h,ac9,agP]
 have hlc:=aaR l i (l.drop (i+1)) (by omega)
 rw[aA (by simp only[aW,bP,len];omega),fA,if_neg (by omega),aA (by simp only[aW,bP,len];omega),aA (by simp only[aW,bP,len];omega),aA (by simp only[ax,nti,bP,len];omega),
  aA (by simp only[aW,bP,len,aI,nti,hlc];omega)]
 congr 1
 exact cut_out l _ i h
theorem acy {l:List VY} (hl:l.length<1000) (hs:(l.flatMap (·.all)).length<1000000):mZ l=some (l.flatMap (·.all)):=by
 have tk:∀ {i:Nat} (h:i<l.length),((l.take (i+1)).flatMap (·.all))=((l.take i).flatMap (·.all))++l[i].all:=fun h=>by
  rw[kN h,List.flatMap_append];simp
 have le:∀i:Nat,((l.take i).flatMap (·.all)).length<=(l.flatMap (·.all)).length:=fun i=>by
  have:(l.flatMap (·.all))=((l.take i).flatMap (·.all))++((l.drop i).flatMap (·.all)):=by rw[<-List.flatMap_append,List.take_append_drop]
  rw[this,List.length_append];omega
 have loop2:∀x:List Int,x=[]->Wq (bV (fun v:Int×List Int=>je (len l) l v.1 v.2) LF (0,x)) fun w=>w=l.flatMap (·.all):=by
  rintro _ rfl
  refine lD (n:=l.length) (by omega) (fun i x=>x=(l.take i).flatMap (·.all)) _ ?_ ?_ [] 0 (Nat.zero_le _) (by simp)
  ·rintro i x hi rfl
   simp only[je]
   have:=le (i+1)
   rw[tk hi]at this
   rw[aA (by rw[eX];simpa using hi),aA (inb _ i hi),bC _ i hi,aA (jo (by simp only[len,cu];omega)),ai]
   exact⟨dG (by omega),(tk hi).symm⟩
  ·rintro x rfl
   simp only[je]
   rw[cZ (Nk _),ai,List.take_length]
 refine Wq.eq ?_
 unfold mZ
 refine Wq.bind (lD (n:=l.length) (step:=fun v:Int×Int=>kY (len l) l v.1 v.2) (by omega) (fun i x=>x=(((l.take i).flatMap (·.all)).length:Int)) (fun w=>w=((l.flatMap (·.all)).length:Int)) ?_ ?_ 0 0 (Nat.zero_le _) (by simp)) ?_
 ·rintro i x hi rfl
  simp only[kY]
  have h1:=le (i+1)
  rw[tk hi,List.length_append]at h1
  have e:wr .i64 (ax (((l.take i).flatMap (·.all)).length:Int) (len l[i].all))=(((l.take (i+1)).flatMap (·.all)).length:Int):=by
   rw[tk hi,List.length_append,ax,bM (by simp only[len];omega) (by simp only[len];omega)];simp only[len];omega
  rw[aA (by rw[eX];simpa using hi),aA (inb _ i hi),bC _ i hi,e,cZ (Bz (by omega)),ai]
  exact⟨dG (by omega),rfl⟩
 ·rintro x rfl
  simp only[kY]
  rw[cZ (Nk _),ai,List.take_length]
 ·rintro w rfl
  have e:wr .i64 (aI ((l.flatMap (·.all)).length:Int) 0)=((l.flatMap (·.all)).length:Int):=by rw[aI,bM (by omega) (by omega)];omega
  rw[cZ (Bz (by omega)),e,fP]
  constructor
  ·intro h
   rw[dA]at h
   rw[aA (by simp only[aW,dA,bP];omega),aA (jo (by simp only[len];omega))]
   exact(loop2 _ (by simp [aG])).bind fun a h=>(ai _).2 h
  ·intro h
   exact(loop2 _ rfl).bind fun a h=>(ai _).2 h
theorem adf {l:List aC} {i:Nat} {f:aC} (h:i<=l.length) (hl:l.length<999999):dH l (i:Int) [f]=some (l.take i++f::l.drop i):=by
 unfold dH
 simp only[]
 rw[aA (by simp only[aW,bP,len,ax];omega),uP];rfl
theorem alO {i:Nat} (h:i<1000000):wr .i64 (ax (i:Int) 1)=((i+1:Nat):Int):=dG h
theorem WN {α:Type} [Inhabited α] (l:List α) (i:Nat) (h:i<l.length):aj l i=l[i]:=by simp [aj,h]
theorem Eh {P:Nm->Prop} {n:Nm} (h:P n):∀m∈[n],P m:=fun m hm=>by rw[List.mem_singleton.1 hm];exact h
theorem Yd {d:ak} {n:Nm} (h:Gw d) (hn:n.length<999999):oI d n=some (gu d n):=by
 refine Wq.eq ?_
 unfold oI gu
 rw[OG h.nm (Eh hn) (by simp),ah,fD,fA,fD,fA]
 by_cases h0:iU d [n]=0
 case neg=>rw[if_neg h0,if_neg h0,ai,if_pos h0]
 rw[if_pos h0,if_neg (fun g=>g h0)]
 obtain⟨hd,hw, -⟩:=kK.1 h0
 refine(Md hd.asc (by have:=hd.fl;omega)).bind ?_
 rintro⟨k,b⟩ ⟨i,o,e1,e2,e3⟩
 simp only at e1 e3
 subst e1 e3
 have hg:=e2.get
 rw[hg]
 cases o with
 |none=>simp only[Option.isSome_none];rw[bf,aX,ai]
 |some f=>
  obtain⟨hi,-, -⟩:=e2.lt
  have hl:=hd.fl
  simp only[Option.isSome_some]
  rw[aJ,aU,alO (by omega)]
  simp only[MG (show d.files.length<1000000 by omega),ah,ajP hi (by omega)]
  rw[OC d hd.1.2.2.1 h.fu (some (ak.mk d.files d.room d.fuse true,(9:Int))) (fun a b=>some (ak.mk (d.files.eraseIdx i) d.room a b,(0:Int))),e2.del]
  by_cases hs:(dw d).2=true
  ·rw[if_pos hs,ai,if_pos hs];unfold Y6;rw[bQ,tH]
  ·rw[if_neg hs,ai,if_neg hs,Oz hs]
theorem abl {d:ak} {n:Nm} (h:Gw d) (hn:n.length<999999):jh d n=some (nI d n):=by
 refine Wq.eq ?_
 unfold jh nI
 rw[OG h.nm (Eh hn) (by simp),ah,fD,fA,fD,fA]
 by_cases h0:iU d [n]=0
 case neg=>rw[if_neg h0,if_neg h0,ai,if_pos h0]
 rw[if_pos h0,if_neg (fun g=>g h0)]
 obtain⟨hd,hw, -⟩:=kK.1 h0
 refine(Md hd.asc (by have:=hd.fl;omega)).bind ?_
 rintro⟨k,b⟩ ⟨i,o,e1,e2,e3⟩
 simp only at e1 e3
 subst e1 e3
 have hg:=e2.get
 rw[hg]
 cases o with
 |none=>simp only[Option.isSome_none];rw[bf,aX,ai]
 |some f=>
  obtain⟨hi,hf,hfn⟩:=e2.lt
  have hl:=hd.fl
  simp only[Option.isSome_some]
  rw[aJ,aU]
  simp only[MG (show d.files.length<1000000 by omega),ah,aA (inb d.files i hi),uP,WN d.files i hi]
  rw[OC d hd.1.2.2.1 h.fu (some (ak.mk d.files d.room d.fuse true,(9:Int))) (fun a b=>some (ak.mk (bT d.files i (aC.mk d.files[i].name d.files[i].data (len d.files[i].data))) d.room a b,(0:Int))),hf]
  have e:=e2.set (f:=⟨n,f.data,len f.data⟩) rfl
  by_cases hs:(dw d).2=true
  ·rw[if_pos hs,ai,if_pos hs];unfold yB bT;rw[bQ,tH,hfn,e]
  ·rw[if_neg hs,ai,if_neg hs,Oz hs]
theorem ab7 {d:ak} {n:Nm} (h:Gw d) (hn:n.length<999999):oH d n=some (SB d n):=by
 refine Wq.eq ?_
 unfold oH SB
 rw[OG h.nm (Eh hn) (by simp),ah,fD,fA,fD,fA]
 by_cases h0:iU d [n]=0
 case neg=>rw[if_neg h0,if_neg h0,ai,if_pos h0]
 rw[if_pos h0,if_neg (fun g=>g h0)]
 obtain⟨hd,hw, -⟩:=kK.1 h0
 refine(Md hd.asc (by have:=hd.fl;omega)).bind ?_
 rintro⟨k,b⟩ ⟨i,o,e1,e2,e3⟩
 simp only at e1 e3
 subst e1 e3
 have hg:=e2.get
 rw[hg]
 cases o with
 |none=>simp only[Option.isSome_none];rw[bf,aX,ai]
 |some f=>
  obtain⟨hi,hf,hfn⟩:=e2.lt
  have hb:=ae7 (by have:=hd.us;omega:ig d.files<=10000000) (List.getElem_mem hi)
  have hus:=yX hi
  have hus2:=Gl d.files (i+1)
  have:=hd.us
  simp only[Option.isSome_some]
  rw[aJ,aU,aA (inb d.files i hi),bC d.files i hi,acF (by omega),ah,ai,hf]
theorem Q7 {d:ak} {n:Nm} {b:List Int} (h:Gw d) (hn:n.length<999999) (hb:b.length<900000):iG d n b=some (eu d n b):=by
 refine Wq.eq ?_
 unfold iG eu
 rw[OG h.nm (Eh hn) (by simp),ah,fD,fA]
 by_cases h0:iU d [n]=0
 case neg=>rw[if_neg h0,ai,if_pos h0]
 rw[if_pos h0,if_neg (fun g=>g h0)]
 obtain⟨hd,hw, -⟩:=kK.1 h0
 have hl:=hd.fl
 have hu:=hd.us
 have hr:=hd.1
 refine(Md hd.asc (by omega)).bind ?_
 rintro⟨k,q⟩ ⟨i,o,e1,e2,e3⟩
 simp only at e1 e3
 subst e1 e3
 have hg:=e2.get
 rw[hg,amb (by omega) (by omega),ah]
 have e4:wr .i64 (aI d.room (ig d.files:Int))=d.room - (ig d.files:Int):=by rw[aI,KP ⟨by omega,by omega⟩]
 have hcond:(bor (ilt (wr .i64 (aI d.room (ig d.files:Int))) (len b)) (band (au o.isSome) (ieq (len d.files) 64))=true)↔(d.room<(ig d.files:Int)+(b.length:Int)\/(o=none/\64<=d.files.length)):=by
  rw[e4]
  simp only[aW,bK,dn,dF,aY,aZ,dA,dB,bP,dJ,bn,bg,dM,dN,len]
  cases o<;>simp<;>omega
 rw[fP]
 refine⟨fun hc=>(ai _).2 ?_,fun hc=> ?_⟩
 ·rw[if_pos (hcond.1 hc)]
 rw[if_neg (fun g=>by rw[hcond.2 g]at hc;cases hc),MG (by omega),ah]
 have hnot:¬(d.room<(ig d.files:Int)+(b.length:Int)\/(o=none/\64<=d.files.length)):=fun g=>by rw[hcond.2 g]at hc;cases hc
 cases o with
 |none=>
  simp only[Option.isSome_none,Option.getD_none,List.nil_append]
  have hil:=e2.le
  rw[bf,aX,adf hil (by omega),ah,e2.ins rfl]
  have e5:oV ⟨n,[],0⟩ d.files=d.files.take i++⟨n,[],0⟩::d.files.drop i:=(e2.ins (f:=⟨n,[],0⟩) rfl).symm
  have hlen:(d.files.take i).length=i:=by rw[List.length_take];omega
  have hi:i<(oV ⟨n,[],0⟩ d.files).length:=by rw[e5];simp;omega
  have hgt:(oV ⟨n,[],0⟩ d.files)[i]=⟨n,[],0⟩:=by
   simp only[e5]
   rw[List.getElem_append_right (by omega)]
   simp [hlen]
  have hst:bT (oV ⟨n,[],0⟩ d.files) i ⟨n,b,0⟩=oV ⟨n,b,0⟩ d.files:=by
   rw[<-e2.ins (f:=⟨n,b,0⟩) rfl,e5]
   unfold bT
   rw[List.set_append_right _ _ (by omega)]
   simp [hlen]
  rw[aA (inb _ i hi),bC _ i hi,hgt,acy (by simp) (by simp only[List.flatMap_cons,List.flatMap_nil,List.append_nil,List.nil_append];omega),ah,aA (inb _ i hi),uP]
  simp only[List.flatMap_cons,List.flatMap_nil,List.nil_append,List.append_nil]
  have e6:aj (oV ⟨n,[],0⟩ d.files) i=⟨n,[],0⟩:=by rw[WN _ i hi,hgt]
  rw[hst,OC d hd.1.2.2.1 h.fu (some (ak.mk (oV ⟨n,b,0⟩ d.files) d.room d.fuse true,(9:Int))) (fun x y=>some (ak.mk (oV ⟨n,b,0⟩ d.files) d.room x y,(0:Int)))]
  have sw:dw (yB d ⟨n,b,0⟩)=(⟨oV ⟨n,b,0⟩ d.files,d.room,(dw d).1.fuse,(dw d).1.down⟩,(dw d).2):=by
   unfold dw yB;split<;>(try split)<;>rfl
  rw[sw]
  unfold aeC
  simp only[]
  by_cases hs:(dw d).2=true
  ·rw[if_pos hs,ai,if_pos hs]
  ·rw[if_neg hs,ai,if_neg hs,Oz hs]
 |some f=>
  simp only[Option.isSome_some,Option.getD_some]
  obtain⟨hi,hf,hfn⟩:=e2.lt
  have hus:=yX hi
  have hus2:=Gl d.files (i+1)
  rw[aJ,aU,aA (inb _ i hi),bC _ i hi,hf,acy (by simp) (by simp only[List.flatMap_cons,List.flatMap_nil,List.append_nil,List.length_append];rw[hf]at hus;omega),ah,aA (inb _ i hi),uP]
  simp only[List.flatMap_cons,List.flatMap_nil,List.append_nil]
  have e6:aj d.files i=f:=by rw[WN _ i hi,hf]
  have hst:bT d.files i ⟨f.name,f.data++b,f.sure⟩=oV ⟨n,f.data++b,f.sure⟩ d.files:=by rw[hfn];exact e2.set rfl
  rw[hst,OC d hd.1.2.2.1 h.fu (some (ak.mk (oV ⟨n,f.data++b,f.sure⟩ d.files) d.room d.fuse true,(9:Int))) (fun x y=>some (ak.mk (oV ⟨n,f.data++b,f.sure⟩ d.files) d.room x y,(0:Int)))]
  have sw:dw (yB d ⟨n,f.data++b,f.sure⟩)=(⟨oV ⟨n,f.data++b,f.sure⟩ d.files,d.room,(dw d).1.fuse,(dw d).1.down⟩,(dw d).2):=by
   unfold dw yB;split<;>(try split)<;>rfl
  rw[sw]
  unfold aeC
  simp only[]
  by_cases hs:(dw d).2=true
  ·rw[if_pos hs,ai,if_pos hs]
  ·rw[if_neg hs,ai,if_neg hs,Oz hs]
theorem ahh {α:Type} (l:List α) (i:Nat) (x y:α):bT (bT l i x) i y=bT l i y:=by simp [bT]
theorem aho {α:Type} [Inhabited α] (l:List α) (i:Nat) (x:α) (h:i<l.length):aj (bT l i x) i=x:=by simp [aj,bT,h]
theorem agD (a b:Int):jm a b=if b<a then b else a:=by
 unfold jm;rfl
theorem anp {d:ak} {n:Nm} {k:Int} (h:Gw d) (hn:n.length<999999):BV d n k=some (zY d n k):=by
 refine Wq.eq ?_
 unfold BV zY
 rw[OG h.nm (Eh hn) (by simp),ah,fD,fA,fD,fA]
 by_cases h0:iU d [n]=0
 case neg=>rw[if_neg h0,if_neg h0,ai,if_pos h0]
 rw[if_pos h0,if_neg (fun g=>g h0)]
 obtain⟨hd,hw, -⟩:=kK.1 h0
 refine(Md hd.asc (by have:=hd.fl;omega)).bind ?_
 rintro⟨k0,q⟩ ⟨i,o,e1,e2,e3⟩
 simp only at e1 e3
 subst e1 e3
 have hg:=e2.get
 rw[hg]
 cases o with
 |none=>simp only[Option.isSome_none];rw[bf,aX,ai]
 |some f=>
  obtain⟨hi,hf,hfn⟩:=e2.lt
  have hl:=hd.fl
  have hus:=yX hi
  have hus2:=Gl d.files (i+1)
  have:=hd.us
  rw[hf]at hus
  simp only[Option.isSome_some]
  rw[aJ,aU,ES,ES]
  by_cases hk:k<0
  ·rw[if_pos hk,if_pos hk,ai,if_pos (.inl hk)]
  rw[if_neg hk,aA (inb _ i hi),bC _ i hi,hf,ES]
  by_cases hk2:len f.data<k
  ·rw[if_pos hk2,ai,if_pos (.inr hk2)]
  rw[if_neg hk2,if_neg (fun g=>g.elim hk hk2)]
  have hkk:band (ile 0 k) (ile k (len f.data))=true:=DW (jo (by omega)) (jo (by omega))
  have htl:(aG f.data (itn k)).length<1000000:=by unfold aG;rw[List.length_take];omega
  simp only[MG (show d.files.length<1000000 by omega),ah,aA (inb d.files i hi),uP,WN d.files i hi,hf,aA hkk,acF htl,ahh,aho d.files i _ hi]
  rw[OC d hd.1.2.2.1 h.fu (some (ak.mk d.files d.room d.fuse true,(9:Int))) (fun a b=>some (ak.mk (bT d.files i (aC.mk f.name (aG f.data (itn k)) (jm f.sure k))) d.room a b,(0:Int))),agD]
  have e:=e2.set (f:=⟨n,f.data.take k.toNat,if k<f.sure then k else f.sure⟩) rfl
  by_cases hs:(dw d).2=true
  ·rw[if_pos hs,ai,if_pos hs];unfold yB bT aG itn;rw[bQ,tH,hfn,e]
  ·rw[if_neg hs,ai,if_neg hs,Oz hs]
theorem amv {d:ak} {x:aC} (ha:Jp d.files) (hl:d.files.length<=100000) {α:Type} (R:List aC->Option α) (Q:α->Prop) (h:Wq (R (oV x d.files)) Q):
 Wq (af (iV d x.name) fun y9=>cnd y9.2 (cnd (band (ile 0 y9.1) (ilt y9.1 (len d.files))) (R (bT d.files (itn y9.1) x)) none) (af (dH d.files y9.1 [x]) fun y10=>R y10)) Q:=by
 refine(Md ha hl).bind ?_
 rintro⟨k0,q⟩ ⟨i,o,e1,e2,e3⟩
 simp only at e1 e3
 subst e1 e3
 cases o with
 |none=>
  have:=e2.le
  simp only[Option.isSome_none]
  rw[aU,adf this (by omega),ah,e2.ins rfl]
  exact h
 |some f=>
  obtain⟨hi,hf,hfn⟩:=e2.lt
  simp only[Option.isSome_some]
  rw[aX,aA (inb _ i hi),uP]
  unfold bT
  rw[e2.set rfl]
  exact h
theorem abU {n:Nm} {l:List aC} (h:Jp l):Jp (wW n l):=by
 unfold Jp wW;exact List.Pairwise.sublist List.filter_sublist h
theorem ac5 {l:List aC} {i:Nat} (h:i<l.length):
 aG (iO (iO l i (l.drop (i+1))) (i+(l.drop (i+1)).length) (nN aC (itn (aI (len l) (nti (i+(l.drop (i+1)).length)))))) (i+(l.drop (i+1)).length)=l.eraseIdx i:=cut_out l _ i h
theorem ac6 {d:ak} {a b:Nm} (h:Gw d) (hna:a.length<999999) (hnb:b.length<999999):mW d a b=some (jO d a b):=by
 refine Wq.eq ?_
 unfold mW jO
 have hns:∀m∈cu [b] [a],m.length<999999:=by intro m hm;simp [cu]at hm;rcases hm with rfl | rfl<;>assumption
 rw[aA (jo (by simp [len,cu])),OG h.nm hns (by simp [cu]),ah,fD,fA,fD,fA,show iU d (cu [b] [a])=iU d [a,b]from aeK d b a]
 by_cases h0:iU d [a,b]=0
 case neg=>rw[if_neg h0,if_neg h0,ai,if_pos h0]
 rw[if_pos h0,if_neg (fun g=>g h0)]
 obtain⟨hd,hw, -⟩:=kK.1 h0
 refine(Md hd.asc (by have:=hd.fl;omega)).bind ?_
 rintro⟨k0,q⟩ ⟨i,o,e1,e2,e3⟩
 simp only at e1 e3
 subst e1 e3
 have hg:=e2.get
 rw[hg]
 cases o with
 |none=>simp only[Option.isSome_none];rw[bf,aX,ai]
 |some f=>
  obtain⟨hi,hf,hfn⟩:=e2.lt
  have hl:=hd.fl
  have hdl:(d.files.drop (i+1)).length=d.files.length - (i+1):=List.length_drop ..
  have hlc:=aaR d.files i (d.files.drop (i+1)) (by omega)
  simp only[Option.isSome_some]
  rw[aJ,aU]
  have tl:=acz d.files i hi
  rw[uP]at tl
  simp only[MG (show d.files.length<1000000 by omega),ah,alO (show i<1000000 by omega),uP,tl,WN d.files i hi,hf]
  have hf':aj d.files (itn (i:Int))=f:=by rw[uP,WN _ _ hi,hf]
  have c1:band (ile 0 (i:Int)) (ilt (i:Int) (len d.files))=true:=inb _ i hi
  have c2:band (band (band (ile 0 (i:Int)) (ile (i:Int) ((i+1:Nat):Int))) (ile ((i+1:Nat):Int) (len d.files))) (band (ile ((i+1:Nat):Int) (len d.files)) (ile (len d.files) (len d.files)))=true:=by
   simp only[aW,bP,len];omega
  have c3:ieq (i:Int) ((i+1:Nat):Int)=false:=by rw[bg];omega
  have c4:band (ile 0 (i:Int)) (ile (i:Int) (len d.files))=true:=by simp only[aW,bP,len];omega
  have c5:band (ile 0 ((i+1:Nat):Int)) (ile ((i+1:Nat):Int) (len d.files))=true:=by simp only[aW,bP,len];omega
  have c6:ile (ax (nti i) (len (d.files.drop (i+1)))) (len d.files)=true:=by simp only[ax,nti,bP,len];omega
  have c7:band (band (ile 0 (nti (i+(d.files.drop (i+1)).length))) (ile (nti (i+(d.files.drop (i+1)).length)) (len d.files))) (ile (len d.files) (aI (len (iO d.files i (d.files.drop (i+1)))) 0))=true:=by
   simp only[aW,bP,len,aI,nti,hlc];omega
  simp only[adD d.files i hi,ac9,agP,aA c1,aA c2,cZ c3,aA c4,aA c5,aA c6,aA c7,ac5 hi,e2.del]
  have key:=OC d hd.1.2.2.1 h.fu (some (ak.mk d.files d.room d.fuse true,(9:Int))) (fun x y=>af (iV (ak.mk (wW a d.files) d.room x y) b) fun y9=>cnd y9.2 (cnd (band (ile 0 y9.1) (ilt y9.1 (len (wW a d.files)))) (some (ak.mk (bT (wW a d.files) (itn y9.1) (aC.mk b f.data f.sure)) d.room x y,(0:Int))) none) (af (dH (wW a d.files) y9.1 [aC.mk b f.data f.sure]) fun y10=>some (ak.mk y10 d.room x y,(0:Int))))
  rw[key]
  by_cases hs:(dw d).2=true
  ·rw[if_pos hs,if_pos hs]
   have hdl2:=X6 a d.files
   refine amv (d:=ak.mk (wW a d.files) d.room (dw d).1.fuse (dw d).1.down) (x:=⟨b,f.data,f.sure⟩) (abU hd.asc) (by simp only;omega) (fun l=>some (ak.mk l d.room (dw d).1.fuse (dw d).1.down,(0:Int))) _ ?_
   rw[ai];unfold yB Y6;simp only;rw[bQ,tH]
  ·rw[if_neg hs,ai,if_neg hs,Oz hs]
theorem ahu (d:ak) (hl:okL Q5 d.files):Wq (qA d) fun b=>b=true->d.files.length<=70/\∀f∈d.files,f.name.length<=100/\f.data.length<=70000:=by
 unfold qA
 rw[fP]
 refine⟨fun h=>(ai _).2 (by intro g;cases g),fun h=> ?_⟩
 simp only[aW,bK,dn,dF,aY,aZ,dA,dB,bP,dJ,bn,bg,dM,dN,len]at h
 refine Wq.bind (Q:=fun w=>match w with
  |.inl b=>b=false
  |.inr _=>∀f∈d.files,f.name.length<=100/\f.data.length<=70000)
  (lD (n:=d.files.length) (step:=fun v:Int×Int×Bool=>kF d v.1 v.2.1 v.2.2) (by omega) (fun i x=>∀f∈d.files.take i,f.name.length<=100/\f.data.length<=70000) _ ?_ ?_ _ 0 (Nat.zero_le _) (by simp)) ?_
 ·rintro i ⟨n,q⟩ hi hx
  simp only[kF]
  rw[aA (by rw[eX];simpa using hi),aA (inb _ i hi),aA (by rw[dn];exact .inl (inb _ i hi)),bC _ i hi,aA (inb _ i hi),fP,ai,ai]
  refine⟨fun _=>rfl,fun hb=>⟨dG (by omega),?_⟩⟩
  simp only[aW,bK,dn,dF,aY,aZ,dA,dB,bP,dJ,bn,bg,dM,dN,len]at hb
  rw[kN hi]
  intro f hf
  rcases List.mem_append.1 hf with c | c
  ·exact hx f c
  ·rw[List.mem_singleton.1 c];omega
 ·rintro⟨n,q⟩ hx
  simp only[kF]
  rw[cZ (Nk _),ai]
  rwa[List.take_length]at hx
 ·rintro(w | w) hw
  ·simp only[gX,ai];simp only at hw;rw[hw];intro g;cases g
  ·simp only[gX,ai];exact fun _=>⟨by omega,hw⟩
def alg {α:Type}:List Int->Int->(Int->Option α)->Option α
 |[],n,k=>k n
 |b::l,n,k=>af (dh (wr .u32 (ng .u32 (wr .u32 (gy .u32 n (wr .u32 b))) 15))) fun y0=>af (dh (wr .u32 (ng .u32 (wr .u32 (gy .u32 y0 (bJ .u32 (wr .u32 (gy .u32 n (wr .u32 b))) 4))) 15))) fun y1=>
  alg l (wr .u32 (gy .u32 y1 (bJ .u32 (wr .u32 (gy .u32 y0 (bJ .u32 (wr .u32 (gy .u32 n (wr .u32 b))) 4))) 4))) k
theorem adz {α:Type} (k:Int->Option α):∀(l:List Int) (n:B32),jq l->alg l (toI n) k=k (toI (Zh n l))
 |[],n,_=>rfl
 |b::l,n,hb=>by
  have e15:(15:Int)=toI 15#32:=rfl
  obtain⟨b1,b2⟩:=hb b (List.mem_cons_self ..)
  have e4:∀x:B32,bJ .u32 (toI x) 4=toI (x >>> 4):=fun x=>ajl x 4 (by decide)
  have ih:=adz k l (hN 8 (n ^^^ ofB b)) fun x hx=>hb x (List.mem_cons_of_mem _ hx)
  rw[alg,acY b1 b2,PV,e15,acZ,Jv,ah,e4,PV,ak6,acZ,Jv,ah,e4,PV,ak6,<-aa1]
  exact ih
def sh8 (n k:Int):Int:=wr .u8 (bJ .i64 n k)
def adV (s:gV):List Int:=[sh8 s.gen 56,sh8 s.gen 48,sh8 s.gen 40,sh8 s.gen 32,sh8 s.gen 24,sh8 s.gen 16,sh8 s.gen 8,sh8 s.gen 0,sh8 s.lsn 56,sh8 s.lsn 48,sh8 s.lsn 40,sh8 s.lsn 32,sh8 s.lsn 24,sh8 s.lsn 16,sh8 s.lsn 8,sh8 s.lsn 0]
def amL (s:gV) (n:Int):ad2:=⟨sh8 s.gen 56,sh8 s.gen 48,sh8 s.gen 40,sh8 s.gen 32,sh8 s.gen 24,sh8 s.gen 16,sh8 s.gen 8,sh8 s.gen 0,sh8 s.lsn 56,sh8 s.lsn 48,sh8 s.lsn 40,sh8 s.lsn 32,sh8 s.lsn 24,sh8 s.lsn 16,sh8 s.lsn 8,sh8 s.lsn 0,
 wr .u8 (bJ .u32 (wr .u32 (gy .u32 4294967295 n)) 0),wr .u8 (bJ .u32 (wr .u32 (gy .u32 4294967295 n)) 8),wr .u8 (bJ .u32 (wr .u32 (gy .u32 4294967295 n)) 16),wr .u8 (bJ .u32 (wr .u32 (gy .u32 4294967295 n)) 24)⟩
theorem anm (s:gV):tC s=alg (adV s) 4294967295 fun n=>some (amL s n):=rfl
def pU (s:gV):List Int:=mG s.gen 8++mG s.lsn 8
def yG (s:gV):List Int:=pU s++vW (zI (pU s))
def toL (a:ad2):List Int:=[a.a0,a.a1,a.a2,a.a3,a.a4,a.a5,a.a6,a.a7,a.a8,a.a9,a.a10,a.a11,a.a12,a.a13,a.a14,a.a15,a.a16,a.a17,a.a18,a.a19]
def Gh (s:gV):Prop:=1<=s.gen/\s.gen<=1000000000/\0<=s.lsn/\s.lsn<=1000000000
instance (s:gV):Decidable (Gh s):=by unfold Gh;infer_instance
theorem ahk (s:gV):(pU s).length=16:=by simp [pU,pq]
theorem ZB (s:gV):(yG s).length=20:=by simp [yG,ahk,vW]
theorem Xg (s:gV):jq (pU s):=(mO _ _).app (mO _ _)
theorem afi (s:gV):jq (yG s):=(Xg s).app (Qd _)
theorem MJ (n:Int) {i:Nat} (hi:i<8):sh8 n (wr .i64 (fK 8 (i:Int)))=n / 256^i%256:=(byte_of hi).2
theorem anX (n:Int):sh8 n 0=n / 256^0%256:=MJ n (i:=0) (by decide)
theorem anG (n:Int):sh8 n 8=n / 256^1%256:=MJ n (i:=1) (by decide)
theorem anW (n:Int):sh8 n 16=n / 256^2%256:=MJ n (i:=2) (by decide)
theorem aoq (n:Int):sh8 n 24=n / 256^3%256:=MJ n (i:=3) (by decide)
theorem anM (n:Int):sh8 n 32=n / 256^4%256:=MJ n (i:=4) (by decide)
theorem ann (n:Int):sh8 n 40=n / 256^5%256:=MJ n (i:=5) (by decide)
theorem anA (n:Int):sh8 n 48=n / 256^6%256:=MJ n (i:=6) (by decide)
theorem aop (n:Int):sh8 n 56=n / 256^7%256:=MJ n (i:=7) (by decide)
theorem adY (s:gV):adV s=pU s:=by
 unfold adV pU
 simp only[anX,anG,anW,aoq,anM,ann,anA,aop,mG,List.cons_append,List.nil_append]
theorem SL (s:gV):Wq (tC s) fun a=>toL a=yG s:=by
 rw[anm,adY,show(4294967295:Int)=toI ones from rfl,adz _ _ _ (Xg s),ai]
 have e:wr .u32 (gy .u32 (toI ones) (toI (Zh ones (pU s))))=zI (pU s):=PV _ _
 have t0:wr .u8 (bJ .u32 (zI (pU s)) 0)=zI (pU s) / 256^0%256:=(LD (n:=zI (pU s)) (i:=0) (by decide)).2
 have t1:wr .u8 (bJ .u32 (zI (pU s)) 8)=zI (pU s) / 256^1%256:=(LD (n:=zI (pU s)) (i:=1) (by decide)).2
 have t2:wr .u8 (bJ .u32 (zI (pU s)) 16)=zI (pU s) / 256^2%256:=(LD (n:=zI (pU s)) (i:=2) (by decide)).2
 have t3:wr .u8 (bJ .u32 (zI (pU s)) 24)=zI (pU s) / 256^3%256:=(LD (n:=zI (pU s)) (i:=3) (by decide)).2
 have e':wr .u32 (gy .u32 4294967295 (toI (Zh ones (pU s))))=zI (pU s):=e
 have key:toL (amL s (toI (Zh ones (pU s))))=adV s++[zI (pU s) / 256^0%256,zI (pU s) / 256^1%256,zI (pU s) / 256^2%256,zI (pU s) / 256^3%256]:=by
  unfold toL amL adV
  simp only[e',t0,t1,t2,t3,List.cons_append,List.nil_append]
 rw[key,adY]
 unfold yG vW
 simp
theorem anw {b:List Int} {i:Nat} (h:i+8<=b.length):(b.drop i).take 8=[aj b i,aj b (i+1),aj b (i+2),aj b (i+3),aj b (i+4),aj b (i+5),aj b (i+6),aj b (i+7)]:=by
 refine List.ext_getElem (by simp;omega) fun j h1 h2=> ?_
 simp only[List.length_cons,List.length_nil]at h2
 rw[List.getElem_take,List.getElem_drop]
 match j,h2 with
 |0,_=>simp [aj,show i<b.length by omega]
 |1,_=>simp [aj,show i+1<b.length by omega]
 |2,_=>simp [aj,show i+2<b.length by omega]
 |3,_=>simp [aj,show i+3<b.length by omega]
 |4,_=>simp [aj,show i+4<b.length by omega]
 |5,_=>simp [aj,show i+5<b.length by omega]
 |6,_=>simp [aj,show i+6<b.length by omega]
 |7,_=>simp [aj,show i+7<b.length by omega]
 |j+8,h=>omega
def or8 (a c:Int):Int:=wr .i64 (ior .i64 (wr .i64 (oN .i64 a 8)) (wr .i64 c))
theorem QE {n c:Int} (h:0<=c/\c<=255):or8 (wr .i64 n) c=wr .i64 (n*256+c):=by
 unfold or8;rw[ags _ _ h.1 h.2,am5]
theorem aoi {b:List Int} (hb:jq b) {i:Nat} (h:i+8<=b.length):
 or8 (or8 (or8 (or8 (or8 (or8 (or8 (wr .i64 (ior .i64 0 (wr .i64 (aj b i)))) (aj b (i+1))) (aj b (i+2))) (aj b (i+3))) (aj b (i+4))) (aj b (i+5))) (aj b (i+6))) (aj b (i+7))=at8 b i:=by
 have rng:∀j,j<b.length->0<=aj b j/\aj b j<=255:=fun j hj=>by
  have:=hb.get hj
  rw[WN b j hj];exact this
 have e0:wr .i64 (ior .i64 0 (wr .i64 (aj b i)))=wr .i64 (0*256+aj b i):=ags 0 _ (rng i (by omega)).1 (rng i (by omega)).2
 rw[e0,QE (rng _ (by omega)),QE (rng _ (by omega)),QE (rng _ (by omega)),QE (rng _ (by omega)),QE (rng _ (by omega)),QE (rng _ (by omega)),QE (rng _ (by omega))]
 unfold at8
 rw[anw h]
 rfl
def atS (b:List Int):gV:=⟨at8 b 0,at8 b 8⟩
def slD (b:List Int):gV×Int:=if b.length≠20 then (⟨0,0⟩,2)else if b.drop 16≠vW (zI (b.take 16))then (⟨0,0⟩,10)else if Gh (atS b)then (atS b,0)else (⟨0,0⟩,2)
theorem ajt {b:List Int} (hb:jq b) (h:b.length=20):pU (atS b)=b.take 16:=by
 unfold pU atS at8
 simp only
 rw[aiZ ((hb.drop 0).take 8) (by simp;omega),aiZ ((hb.drop 8).take 8) (by simp;omega)]
 rw[show(16:Nat)=8+8 from rfl,List.take_add,List.drop_zero]
theorem aiW {b:List Int} (hb:jq b) (h:b.length=20):yG (atS b)=b↔b.drop 16=vW (zI (b.take 16)):=by
 unfold yG
 rw[ajt hb h]
 constructor
 ·intro e
  have:=congrArg (List.drop 16) e
  rw[List.drop_append_of_le_length (by rw[List.length_take];omega),List.drop_eq_nil_of_le (by rw[List.length_take];omega),List.nil_append]at this
  exact this.symm
 ·intro e;rw[<-e,List.take_append_drop]
theorem RP (s:gV):zM s=some (decide (Gh s)):=by
 refine Wq.dec ?_
 unfold zM Gh
 rw[ai]
 simp only[aW,bK,dn,dF,aY,aZ,dA,dB,bP,dJ,bn,bg,dM,dN]
 omega
theorem aki {b:List Int} (h:b.length=20):b=[aj b 0,aj b 1,aj b 2,aj b 3,aj b 4,aj b 5,aj b 6,aj b 7,aj b 8,aj b 9,aj b 10,aj b 11,aj b 12,aj b 13,aj b 14,aj b 15,aj b 16,aj b 17,aj b 18,aj b 19]:=by
 match b,h with
 |[_,_,_,_,_,_,_,_,_,_,_,_,_,_,_,_,_,_,_,_],_=>rfl
theorem Pz {b:List Int} (hb:jq b):uj b=some (slD b):=by
 refine Wq.eq ?_
 unfold uj slD
 rw[fD,fA]
 by_cases h:b.length=20
 case neg=>rw[if_neg (by simp only[len];omega),ai,if_pos h]
 rw[if_pos (by simp only[len];omega),if_neg (fun g=>g h)]
 have hg:=aoi hb (i:=0) (by omega)
 have hl:=aoi hb (i:=8) (by omega)
 unfold or8 at hg hl
 simp only[Nat.zero_add,Nat.reduceAdd]at hg hl
 have lt:∀k:Int,k<20->ilt k (len b)=true:=fun k hk=>Dn (by simp only[len];omega)
 simp only[hg,hl]
 rw[aA (lt 0 (by decide)),aA (lt 8 (by decide)),aA (lt 1 (by decide)),aA (lt 9 (by decide)),aA (lt 2 (by decide)),aA (lt 10 (by decide)),aA (lt 3 (by decide)),aA (lt 11 (by decide)),aA (lt 4 (by decide)),aA (lt 12 (by decide)),aA (lt 5 (by decide)),aA (lt 13 (by decide)),aA (lt 6 (by decide)),aA (lt 14 (by decide)),aA (lt 7 (by decide)),aA (lt 15 (by decide))]
 refine(SL (atS b)).bind fun a ha=> ?_
 rw[aA (jo (by simp only[len];omega)),fP]
 have hcmp:toL a=b↔b.drop 16=vW (zI (b.take 16)):=by rw[ha];exact aiW hb h
 have hcmp2:toL a=b↔(a.a0=aj b 0/\a.a1=aj b 1/\a.a2=aj b 2/\a.a3=aj b 3/\a.a4=aj b 4/\a.a5=aj b 5/\a.a6=aj b 6/\a.a7=aj b 7/\a.a8=aj b 8/\a.a9=aj b 9/\a.a10=aj b 10/\a.a11=aj b 11/\a.a12=aj b 12/\a.a13=aj b 13/\a.a14=aj b 14/\a.a15=aj b 15/\a.a16=aj b 16/\a.a17=aj b 17/\a.a18=aj b 18/\a.a19=aj b 19):=by
  have:=aki h
  generalize aj b 0=b0,aj b 1=b1,aj b 2=b2,aj b 3=b3,aj b 4=b4,aj b 5=b5,aj b 6=b6,aj b 7=b7,aj b 8=b8,aj b 9=b9,aj b 10=b10,aj b 11=b11,aj b 12=b12,aj b 13=b13,aj b 14=b14,aj b 15=b15,aj b 16=b16,aj b 17=b17,aj b 18=b18,aj b 19=b19 at this ⊢
  subst this
  simp only[toL,List.cons.injEq,and_true]
 refine⟨fun hc=>(ai _).2 ?_,fun hc=> ?_⟩
 ·rw[if_pos]
  rw[aY]at hc
  intro e
  have e2:=hcmp2.1 (hcmp.2 e)
  rw[<-Bool.not_eq_true]at hc
  apply hc
  simp only[aW,bn,and_true]
  exact e2
 ·rw[aZ]at hc
  simp only[aW,bn,and_true]at hc
  have e:=hcmp.1 (hcmp2.2 hc)
  rw[if_neg (fun g=>g e),RP,ah,fD,zx]
  have ea:gV.mk (at8 b 0) (at8 b 8)=atS b:=rfl
  rw[ea]
  by_cases hp:Gh (atS b)
  ·rw[if_pos hp,if_pos hp,ai]
  ·rw[if_neg hp,if_neg hp,ai]
def n0:Nm:=[115,108,111,116,46,48]
def n1:Nm:=[115,108,111,116,46,49]
def nmS (g:Int):Nm:=if g%2=0 then n0 else n1
theorem XL:jy n0:=by decide
theorem Yq:jy n1:=by decide
theorem aag (g:Int):jy (nmS g):=by unfold nmS;split;exact XL;exact Yq
theorem jy.len {n:Nm} (h:jy n):n.length<999999:=by have:=h.2.2;omega
theorem LH {g:Int} (h:0<=g):qC g=some (nmS g):=by
 unfold qC nmS Zb
 rw[fA,Int.tmod_eq_emod_of_nonneg h];split<;>rfl
def ctF (l:List aC) (n:Nm):List Int:=match dm l n with | some f=>f.data | none=>[]
def iR (d:ak):Prop:=∀f∈d.files,jq f.data
theorem acN {d:ak} (h:iR d) (n:Nm):jq (ctF d.files n):=by
 unfold ctF
 cases hg:dm d.files n with
 |none=>intro x hx;cases hx
 |some f=>exact h f (wZ hg).1
def GK (best:gV) (par:Int) (b:List Int):gV:=if (slD b).2=0/\(slD b).1.gen%2=par/\best.gen<(slD b).1.gen then (slD b).1 else best
def KF (c0 c1:List Int):gV:=GK (GK ⟨0,0⟩ 0 c0) 1 c1
def zW (l:List aC):gV:=KF (ctF l n0) (ctF l n1)
def dZ (d:ak):gV×Int:=if ¬gq d then (⟨0,0⟩,1)else if d.down=true then (⟨0,0⟩,9)else if (zW d.files).gen=0 then (⟨0,0⟩,7)else (zW d.files,0)
theorem agJ {b:List Int} (h:(slD b).2=0):Gh (slD b).1/\slD b=(atS b,0)/\b.length=20/\b.drop 16=vW (zI (b.take 16)):=by
 unfold slD at h ⊢
 by_cases h1:b.length≠20
 ·simp [h1]at h
 rw[if_neg h1]at h ⊢
 by_cases h2:b.drop 16≠vW (zI (b.take 16))
 ·simp [h2]at h
 rw[if_neg h2]at h ⊢
 by_cases h3:Gh (atS b)
 ·rw[if_pos h3];exact⟨h3,rfl,Classical.not_not.1 h1,Classical.not_not.1 h2⟩
 ·simp [h3]at h
theorem Zx (s:gV) (p:Int) (b:List Int):GK s p b=s\/Gh (GK s p b):=by
 unfold GK;split
 ·rename_i h;exact .inr (agJ h.1).1
 ·exact .inl rfl
theorem acX (a b:List Int):KF a b=⟨0,0⟩\/Gh (KF a b):=by
 unfold KF
 rcases Zx (GK ⟨0,0⟩ 0 a) 1 b with h | h
 ·rw[h];exact Zx _ _ _
 ·exact .inr h
theorem aax (a b:List Int):0<=(KF a b).gen/\(KF a b).gen<=1000000000:=by
 rcases acX a b with h | h
 ·rw[h];simp
 ·exact⟨by have:=h.1;omega,h.2.1⟩
theorem afr {a b:List Int} (h:(KF a b).gen=0):KF a b=⟨0,0⟩:=by
 rcases acX a b with g | g
 ·exact g
 ·have:=g.1;omega
theorem agG {d:ak} {n:Nm} (hd:gq d) (hw:d.down=false) (hn:jy n):(SB d n).1=ctF d.files n:=by
 unfold SB ctF
 rw[if_neg (fun g=>g (kK.2 ⟨hd,hw,Eh hn⟩))]
 cases dm d.files n<;>rfl
theorem Vj {d:ak} (h:Gw d) (hb:iR d):Dw d=some (dZ d):=by
 refine Wq.eq ?_
 unfold Dw dZ
 rw[Aj h.nm,ah,fD,zx]
 by_cases hd:gq d
 case neg=>rw[if_neg hd,ai,if_pos hd]
 rw[if_pos hd,if_neg (fun g=>g hd)]
 cases hw:d.down
 case true=>rw[aX,ai];simp
 rw[aU,if_neg (by simp),LH (by decide),ah,show nmS 0=n0 from rfl,ab7 h XL.len,ah,agG hd hw XL,Pz (acN hb _),ah]
 simp only[LH (show(0:Int)<=1 by decide),ah,show nmS 1=n1 from rfl,ab7 h Yq.len,agG hd hw Yq,Pz (acN hb _)]
 have pos:∀b:List Int,(slD b).2=0->Zb (slD b).1.gen 2=(slD b).1.gen%2:=fun b hb=>by
  have:=(agJ hb).1.1
  unfold Zb;exact Int.tmod_eq_emod_of_nonneg (by omega)
 have iff2:∀(b:List Int) (s:gV) (p:Int),(band (band (ieq (slD b).2 0) (ieq (Zb (slD b).1.gen 2) p)) (ilt s.gen (slD b).1.gen)=true)↔((slD b).2=0/\(slD b).1.gen%2=p/\s.gen<(slD b).1.gen):=fun b s p=>by
  simp only[aW,bn,dA]
  constructor
  ·rintro⟨⟨h1,h2⟩,h3⟩;exact⟨h1,by rw[<-pos b h1];exact h2,h3⟩
  ·rintro⟨h1,h2,h3⟩;exact⟨⟨h1,by rw[pos b h1];exact h2⟩,h3⟩
 have i0:=iff2 (ctF d.files n0) ⟨0,0⟩ 0
 rw[fP]
 refine⟨fun hc=> ?_,fun hc=> ?_⟩
 ·have e0:GK ⟨0,0⟩ 0 (ctF d.files n0)=(slD (ctF d.files n0)).1:=by unfold GK;rw[if_pos (i0.1 hc)]
  rw[fP]
  refine⟨fun hc2=> ?_,fun hc2=> ?_⟩
  ·have e1:zW d.files=(slD (ctF d.files n1)).1:=by unfold zW KF;rw[e0];unfold GK;rw[if_pos ((iff2 _ _ 1).1 hc2)]
   rw[<-e1,fA]
   split<;>rw[ai]
  ·have e1:zW d.files=(slD (ctF d.files n0)).1:=by unfold zW KF;rw[e0];unfold GK;rw[if_neg fun g=>by rw[(iff2 _ _ 1).2 g]at hc2;cases hc2]
   rw[<-e1,fA]
   split<;>rw[ai]
 ·have e0:GK ⟨0,0⟩ 0 (ctF d.files n0)=⟨0,0⟩:=by unfold GK;rw[if_neg fun g=>by rw[i0.2 g]at hc;cases hc]
  rw[fP]
  refine⟨fun hc2=> ?_,fun hc2=> ?_⟩
  ·have e1:zW d.files=(slD (ctF d.files n1)).1:=by unfold zW KF;rw[e0];unfold GK;rw[if_pos ((iff2 _ ⟨0,0⟩ 1).1 hc2)]
   rw[<-e1,fA]
   split<;>rw[ai]
  ·have e1:zW d.files=⟨0,0⟩:=by unfold zW KF;rw[e0];unfold GK;rw[if_neg fun g=>by rw[(iff2 _ ⟨0,0⟩ 1).2 g]at hc2;cases hc2]
   rw[e1,ai,if_pos rfl]
theorem mX {l:List aC} (h:Jp l) (hl:l.length<=100000) (n:Nm):∃i o,mg n l i o:=by
 obtain⟨_,_,i,o,_,h2,_⟩:=Md (d:=⟨l,0,0,false⟩) (n:=n) h hl
 exact⟨i,o,h2⟩
theorem get_put (f:aC) (m:Nm):∀l:List aC,dm (oV f l) m=if m=f.name then some f else dm l m
 |[]=>by
  rw[oV,qg]
  by_cases h:m=f.name
  ·rw[if_pos h.symm,if_pos h]
  ·rw[if_neg (fun e=>h e.symm),if_neg h]
 |g::r=>by
  rw[oV]
  by_cases hlt:g.name<f.name
  ·rw[if_pos hlt,qg,qg,get_put f m r]
   by_cases h:m=f.name
   ·rw[if_neg (fun e=>V8 f.name (by rw[e,h]at hlt;exact hlt)),if_pos h,if_pos h]
   ·rw[if_neg h,if_neg h]
  ·rw[if_neg hlt,qg]
   by_cases h:m=f.name
   ·rw[if_pos h.symm,if_pos h]
   ·rw[if_neg (fun e=>h e.symm),if_neg h]
    exact gd m h (g::r)
where
 gd (m:Nm) (h:m≠f.name):∀l:List aC,dm (wW f.name l) m=dm l m
 |[]=>rfl
 |g::r=>by
  rw[I7]
  by_cases e:g.name=f.name
  ·rw[if_pos e,gd m h r,qg,if_neg (fun k=>h (by rw[<-k,e]))]
  ·rw[if_neg e,qg,qg,gd m h r]
theorem V6 (n m:Nm):∀l:List aC,dm (wW n l) m=if m=n then none else dm l m
 |[]=>by simp [wW,dm]
 |g::r=>by
  rw[I7]
  by_cases e:g.name=n
  ·rw[if_pos e,V6 n m r]
   by_cases h:m=n
   ·rw[if_pos h,if_pos h]
   ·rw[if_neg h,if_neg h,qg,if_neg (fun k=>h (by rw[<-k,e]))]
  ·rw[if_neg e,qg,V6 n m r]
   by_cases h:m=n
   ·rw[if_pos h,if_pos h,if_neg (fun k=>e (by rw[k,h]))]
   ·rw[if_neg h,if_neg h,qg]
theorem Uc (f:aC) (l:List aC):xZ (f::l)↔okF f/\xZ l/\∀g∈l,f.name<g.name:=by
 have:=tJ [f] l
 rw[List.singleton_append,ZA]at this
 rw[this]
 simp
def OU (o:Option aC):Nat:=match o with | some f=>f.data.length | none=>0
theorem mg.used {n:Nm} {l:List aC} {i:Nat} {o:Option aC} (h:mg n l i o) (f:aC) (e:f.name=n):ig (oV f l)+OU o=ig l+f.data.length:=by
 subst e
 cases h with
 |no a b ha hb=>rw[vN ha,GX hb,qx,qx,Jz];simp only[OU];omega
 |yes a g b e ha hb=>rw[vN ha,V7 e hb,qx,qx,Jz,Jz];simp only[OU];omega
theorem mg.long {n:Nm} {l:List aC} {i:Nat} {o:Option aC} (h:mg n l i o) (f:aC) (e:f.name=n):(oV f l).length=l.length+if o=none then 1 else 0:=by
 subst e
 cases h with
 |no a b ha hb=>rw[vN ha,GX hb];simp;omega
 |yes a g b e ha hb=>rw[vN ha,V7 e hb];simp
theorem mg.good {n:Nm} {l:List aC} {i:Nat} {o:Option aC} (h:mg n l i o) {f:aC} (e:f.name=n) (hf:okF f) (hl:xZ l):xZ (oV f l):=by
 subst e
 cases h with
 |no a b ha hb=>
  rw[vN ha,GX hb]
  obtain⟨h1,h2,h3⟩:=(tJ _ _).1 hl
  refine(tJ _ _).2 ⟨h1,(Uc _ _).2 ⟨hf,h2,hb⟩,fun g hg k hk=> ?_⟩
  rcases List.mem_cons.1 hk with rfl | hk
  ·exact ha g hg
  ·exact h3 g hg k hk
 |yes a g b e ha hb=>
  rw[vN ha,V7 e hb]
  obtain⟨h1,h2,h3⟩:=(tJ _ _).1 hl
  refine(tJ _ _).2 ⟨h1,(Uc _ _).2 ⟨hf,((Uc _ _).1 h2).2.1,hb⟩,fun g hg k hk=> ?_⟩
  rcases List.mem_cons.1 hk with rfl | hk
  ·exact ha g hg
  ·exact h3 g hg k (List.mem_cons_of_mem _ hk)
theorem mg.usedD {n:Nm} {l:List aC} {i:Nat} {o:Option aC} (h:mg n l i o):ig (wW n l)+OU o=ig l:=by
 cases h with
 |no a b ha hb=>rw[BI (fun f hf=>(List.mem_append.1 hf).elim (fun g=>Ua (ha f g)) (fun g=>(Ua (hb f g)).symm))];rfl
 |yes a g b e ha hb=>
  rw[Vm,I7,if_pos e,BI fun g hg=>Ua (ha g hg),BI fun g hg=>(Ua (hb g hg)).symm,qx,qx,Jz]
  simp only[OU];omega
theorem ajL {n:Nm} {l:List aC} (h:xZ l):xZ (wW n l):=⟨fun f hf=>h.1 f (List.mem_filter.1 hf).1,abU h.2⟩
structure Keep (d e:ak):Prop where
 right:gq e
 fz:e.fuse<=d.fuse
 room:e.room=d.room
theorem Keep.refl {d:ak} (h:gq d):Keep d d:=⟨h,Int.le_refl _,rfl⟩
theorem Keep.trans {a b c:ak} (h:Keep a b) (k:Keep b c):Keep a c:=⟨k.right,Int.le_trans k.fz h.fz,k.room.trans h.room⟩
theorem gq.bnd {d:ak} (h:gq d) (hf:inI d.fuse):Gw d:=
 ⟨fun f hf=>by have:=(h.2.1.1 f hf).1.2.2;omega,hf⟩
theorem Keep.bnd {d e:ak} (h:Keep d e) (hf:inI d.fuse):Gw e:=by
 refine h.right.bnd ?_
 have:=h.fz
 have:=h.right.1.2.2.1
 unfold inI at*
 omega
theorem Qm (d:ak):(d.fuse=0/\(dw d).1.fuse=0/\(dw d).1.down=true/\(dw d).2=false)\/((dw d).1.fuse<=d.fuse/\(-1<=d.fuse-> -1<=(dw d).1.fuse)/\(dw d).1.down=d.down/\(dw d).2=true):=by
 unfold dw
 by_cases h0:d.fuse=0
 ·simp [h0]
 by_cases h1:d.fuse= -1
 ·simp [h1]
 ·rw[if_neg h0,if_neg h1];right;simp only;exact⟨by omega,fun _=>by omega,trivial,trivial⟩
theorem FX {d:ak} (h:gq d):Keep d (dw d).1:=by
 have hf:=Qm d
 have h1:=h.1
 refine⟨⟨⟨?_,?_,?_,?_⟩,?_,?_⟩,?_,tH d⟩<;>(try rw[tH])<;>(try rw[bQ])
 ·omega
 ·omega
 ·rcases hf with hf | hf
  ·omega
  ·exact hf.2.1 h1.2.2.1
 ·omega
 ·exact h.2.1
 ·exact h.2.2
 ·rcases hf with hf | hf<;>omega
theorem OE {d:ak} {f:aC} (h:gq d) (hf:okF f) (hu:(ig d.files:Int)+f.data.length<=d.room+OU (dm d.files f.name)) (hl:dm d.files f.name≠none\/d.files.length<64):Keep d (yB d f):=by
 obtain⟨i,o,hs⟩:=mX h.asc (by have:=h.fl;omega) f.name
 have g1:=hs.used f rfl
 have g2:=hs.long f rfl
 rw[hs.get]at hu hl
 have h1:=h.1
 refine⟨⟨⟨h1.1,h1.2.1,h1.2.2.1,?_⟩,hs.good rfl hf h.2.1,?_⟩,Int.le_refl _,rfl⟩
 ·show(oV f d.files).length<=64
  rw[g2]
  split
  ·rename_i e;rcases hl with c | c
   ·exact absurd e c
   ·omega
  ·omega
 ·show(ig (oV f d.files):Int)<=d.room
  omega
theorem ac8 {d:ak} {n:Nm} (h:gq d):Keep d (Y6 d n):=by
 obtain⟨i,o,hs⟩:=mX h.asc (by have:=h.fl;omega) n
 have g1:=hs.usedD
 have h1:=h.1
 have h2:=h.2.2
 have:=X6 n d.files
 exact⟨⟨⟨h1.1,h1.2.1,h1.2.2.1,Nat.le_trans this h1.2.2.2⟩,ajL h.2.1,by show(ig (wW n d.files):Int)<=d.room;omega⟩,Int.le_refl _,rfl⟩
theorem abL {d:ak} {n:Nm} {f:aC} (h:gq d) (hg:dm d.files n=some f):okF f/\f.name=n:=⟨h.2.1.1 f (wZ hg).1,(wZ hg).2⟩
theorem I5 (p:ak×Bool):(aeC p).1=p.1:=rfl
theorem rU {d:ak} {n:Nm} {b:List Int} (h:gq d):Keep d (eu d n b).1:=by
 unfold eu
 by_cases h0:iU d [n]=0
 case neg=>rw[if_pos h0];exact Keep.refl h
 rw[if_neg (fun g=>g h0)]
 have hn:=(kK.1 h0).2.2 n (List.mem_singleton.2 rfl)
 by_cases hc:d.room<(ig d.files:Int)+(b.length:Int)\/(dm d.files n=none/\64<=d.files.length)
 ·rw[if_pos hc];exact Keep.refl h
 rw[if_neg hc,I5]
 have hw:Keep d (yB d ⟨n,((dm d.files n).getD ⟨n,[],0⟩).data++b,((dm d.files n).getD ⟨n,[],0⟩).sure⟩):=by
  have hc1:¬d.room<(ig d.files:Int)+(b.length:Int):=fun g=>hc (.inl g)
  refine OE h ?_ ?_ ?_
  ·cases hg:dm d.files n with
   |none=>exact⟨hn,Int.le_refl _,by simp only[len,Option.getD_none];omega⟩
   |some f=>
    have hf:=(abL h hg).1
    exact⟨hn,hf.2.1,by have:=hf.2.2;simp only[Option.getD_some,len,List.length_append]at this ⊢; omega⟩
  ·cases hg:dm d.files n with
   |none=>simp only[OU,Option.getD_none,List.nil_append];omega
   |some f=>simp only[OU,Option.getD_some,List.length_append];omega
  ·cases hg:dm d.files n with
   |none=>right;have:¬64<=d.files.length:=fun g=>hc (.inr ⟨hg,g⟩);omega
   |some f=>left;intro e;cases e
 exact hw.trans (FX hw.right)
theorem EQ {d:ak} {n:Nm} (h:gq d):Keep d (nI d n).1:=by
 unfold nI
 by_cases h0:iU d [n]=0
 case neg=>rw[if_pos h0];exact Keep.refl h
 rw[if_neg (fun g=>g h0)]
 have hn:=(kK.1 h0).2.2 n (List.mem_singleton.2 rfl)
 have hk:=FX h
 cases hg:dm d.files n with
 |none=>exact Keep.refl h
 |some f=>
  simp only
  split
  ·refine hk.trans (OE hk.right ⟨hn,by simp only[len];omega,Int.le_refl _⟩ ?_ ?_)
   ·simp only;rw[bQ,tH,hg];simp only[OU];have:=h.2.2;omega
   ·left;simp only;rw[bQ,hg];intro e;cases e
  ·exact hk
theorem rW {d:ak} {n:Nm} (h:gq d):Keep d (gu d n).1:=by
 unfold gu
 by_cases h0:iU d [n]=0
 case neg=>rw[if_pos h0];exact Keep.refl h
 rw[if_neg (fun g=>g h0)]
 have hk:=FX h
 cases hg:dm d.files n with
 |none=>exact Keep.refl h
 |some f=>
  simp only
  split
  ·exact hk.trans (ac8 hk.right)
  ·exact hk
theorem YM {d:ak} {n:Nm} {k:Int} (h:gq d):Keep d (zY d n k).1:=by
 unfold zY
 by_cases h0:iU d [n]=0
 case neg=>rw[if_pos h0];exact Keep.refl h
 rw[if_neg (fun g=>g h0)]
 have hn:=(kK.1 h0).2.2 n (List.mem_singleton.2 rfl)
 have hk:=FX h
 cases hg:dm d.files n with
 |none=>exact Keep.refl h
 |some f=>
  simp only
  have hf:=(abL h hg).1
  by_cases hc:k<0\/len f.data<k
  ·rw[if_pos hc];exact Keep.refl h
  rw[if_neg hc]
  have h1:¬k<0:=fun g=>hc (.inl g)
  have h2:¬len f.data<k:=fun g=>hc (.inr g)
  simp only[len]at h2
  have hl:(f.data.take k.toNat).length=k.toNat:=by rw[List.length_take];omega
  split
  ·refine hk.trans (OE hk.right ⟨hn,?_,?_⟩ ?_ ?_)
   ·simp only;have:=hf.2.1;split<;>omega
   ·simp only[len,hl];split<;>omega
   ·simp only;rw[bQ,tH,hg,hl];simp only[OU];have:=h.2.2;omega
   ·left;simp only;rw[bQ,hg];intro e;cases e
  ·exact hk
theorem Ht {d:ak} {a b:Nm} (h:gq d):Keep d (jO d a b).1:=by
 unfold jO
 by_cases h0:iU d [a,b]=0
 case neg=>rw[if_pos h0];exact Keep.refl h
 rw[if_neg (fun g=>g h0)]
 have hn:=(kK.1 h0).2.2 b (by simp)
 have hk:=FX h
 cases hg:dm d.files a with
 |none=>exact Keep.refl h
 |some f=>
  simp only
  have hf:=(abL h hg).1
  split
  ·have hk2:=hk.trans (ac8 (n:=a) hk.right)
   refine hk2.trans (OE hk2.right ⟨hn,hf.2.1,hf.2.2⟩ ?_ ?_)
   ·obtain⟨i,o,hs⟩:=mX h.asc (by have:=h.fl;omega) a
    have hu:=hs.usedD
    rw[<-hs.get,hg]at hu
    have hd:=h.2.2
    simp only[Y6]
    rw[bQ,tH]
    simp only[OU]at hu ⊢
    omega
   ·right
    obtain⟨i,o,hs⟩:=mX h.asc (by have:=h.fl;omega) a
    have hi:=hs.get
    rw[hg]at hi
    subst hi
    have hd:=hs.del
    obtain⟨hil,-, -⟩:=hs.lt
    have hfl:=h.fl
    simp only[Y6]
    rw[bQ,<-hd,List.length_eraseIdx_of_lt hil]
    omega
  ·exact hk
theorem af8 {f g:aC}:∀ {l:List aC},g∈oV f l->g=f\/g∈l
 |[],h=> .inl (List.mem_singleton.1 h)
 |k::r,h=>by
  rw[oV]at h
  split at h
  ·rcases List.mem_cons.1 h with rfl | h
   ·exact .inr (List.mem_cons_self ..)
   ·rcases af8 h with e | e
    ·exact .inl e
    ·exact .inr (List.mem_cons_of_mem _ e)
  ·rcases List.mem_cons.1 h with rfl | h
   ·exact .inl rfl
   ·exact .inr (List.mem_filter.1 h).1
theorem N8 {d:ak} {f:aC} (h:iR d) (hf:jq f.data):iR (yB d f):=fun g hg=>by
 rcases af8 hg with rfl | hg
 ·exact hf
 ·exact h g hg
theorem sH {d:ak} (h:iR d):iR (dw d).1:=fun g hg=>by rw[bQ]at hg;exact h g hg
theorem adu {d:ak} {n:Nm} (h:iR d):iR (Y6 d n):=fun g hg=>h g (List.mem_filter.1 hg).1
theorem SE {d:ak} {n:Nm} {f:aC} (h:iR d) (hg:dm d.files n=some f):jq f.data:=h f (wZ hg).1
theorem DJ {d:ak} {n:Nm} {b:List Int} (h:iR d) (hb:jq b):iR (eu d n b).1:=by
 unfold eu
 split
 ·exact h
 ·split
  ·exact h
  ·rw[I5]
   refine sH (N8 h ?_)
   cases hg:dm d.files n with
   |none=>exact hb
   |some f=>exact(SE h hg).app hb
theorem Iy {d:ak} {n:Nm} (h:iR d):iR (nI d n).1:=by
 unfold nI
 split
 ·exact h
 ·cases hg:dm d.files n with
  |none=>exact h
  |some f=>simp only;split;exact N8 (sH h) (show jq f.data from SE h hg);exact sH h
theorem Dv {d:ak} {n:Nm} (h:iR d):iR (gu d n).1:=by
 unfold gu
 split
 ·exact h
 ·cases hg:dm d.files n with
  |none=>exact h
  |some f=>simp only;split;exact adu (sH h);exact sH h
theorem ajZ {d:ak} {n:Nm} {k:Int} (h:iR d):iR (zY d n k).1:=by
 unfold zY
 split
 ·exact h
 ·cases hg:dm d.files n with
  |none=>exact h
  |some f=>simp only;split;exact h;split;exact N8 (sH h) (show jq (f.data.take _)from(SE h hg).take _);exact sH h
theorem ML {d:ak} {a b:Nm} (h:iR d):iR (jO d a b).1:=by
 unfold jO
 split
 ·exact h
 ·cases hg:dm d.files a with
  |none=>exact h
  |some f=>simp only;split;exact N8 (adu (sH h)) (show jq f.data from SE h hg);exact sH h
def jV (p:ak×Int) (f:ak->ak×Int):ak×Int:=if p.2≠0 then p else f p.1
def qN (d:ak) (n:Nm):ak×Int:=if dm d.files n=none then (d,0)else zY d n 0
def ack (d:ak) (n:Nm) (b:List Int):ak×Int:=jV (jV (qN d n) fun d=>eu d n b) fun d=>nI d n
def uF (d:ak) (s:gV):ak×Int:=
 if ¬Gh s\/(dZ d).2=1 then (d,1)else if (dZ d).2=9 then (d,9)else if s.gen≠(dZ d).1.gen+1 then (d,8)else ack d (nmS s.gen) (yG s)
theorem fM {p:ak×Int} {f:ak->ak×Int} (h:p.2≠0):jV p f=p:=if_pos h
theorem then_ok {p:ak×Int} {f:ak->ak×Int} (h:p.2=0):jV p f=f p.1:=if_neg (fun g=>g h)
theorem acE {d:ak} (h1:(dZ d).2≠1) (h2:(dZ d).2≠9):gq d/\d.down=false:=by
 unfold dZ at h1 h2
 by_cases hd:gq d
 ·rw[if_neg (fun g=>g hd)]at h1 h2
  cases hw:d.down
  ·exact⟨hd,rfl⟩
  ·rw[hw]at h2;simp at h2
 ·rw[if_pos hd]at h1;simp at h1
theorem Oq (d:ak):0<=(dZ d).1.gen/\(dZ d).1.gen<=1000000000:=by
 unfold dZ
 split
 ·simp
 ·split
  ·simp
  ·split
   ·simp
   ·exact aax _ _
theorem LJ {d:ak} (h:gq d) (hw:d.down=false):(dZ d).1=zW d.files/\((dZ d).2=7/\(zW d.files).gen=0\/(dZ d).2=0/\1<=(zW d.files).gen):=by
 unfold dZ
 rw[if_neg (fun g=>g h),hw,if_neg (by simp)]
 have:=aax (ctF d.files n0) (ctF d.files n1)
 by_cases h0:(zW d.files).gen=0
 ·rw[if_pos h0]
  exact⟨by unfold zW at h0 ⊢; rw[afr h0],.inl ⟨rfl,h0⟩⟩
 ·rw[if_neg h0]
  exact⟨rfl,.inr ⟨rfl,by unfold zW at h0 ⊢; omega⟩⟩
theorem YB {d:ak} {n:Nm} (h:gq d) (hw:d.down=false) (hn:jy n):(SB d n).2=7↔dm d.files n=none:=by
 unfold SB
 rw[if_neg (fun g=>g (kK.2 ⟨h,hw,Eh hn⟩))]
 cases dm d.files n<;>simp
theorem afB {d:ak} {n:Nm} (h:gq d):Keep d (qN d n).1:=by
 unfold qN;split
 ·exact Keep.refl h
 ·exact YM h
theorem afm {d:ak} {n:Nm} (h:iR d):iR (qN d n).1:=by
 unfold qN;split
 ·exact h
 ·exact ajZ h
theorem zG {d:ak} {p:ak×Int} {f:ak->ak×Int} (h:Keep d p.1) (hf:∀e,gq e->Keep e (f e).1):Keep d (jV p f).1:=by
 unfold jV;split
 ·exact h
 ·exact h.trans (hf _ h.right)
theorem zD {p:ak×Int} {f:ak->ak×Int} (h:iR p.1) (hf:∀e,iR e->iR (f e).1):iR (jV p f).1:=by
 unfold jV;split
 ·exact h
 ·exact hf _ h
theorem ah9 {d:ak} {n:Nm} {b:List Int} (h:gq d):Keep d (ack d n b).1:=zG (zG (afB h) fun e he=>rU he) fun e he=>EQ he
theorem aha {d:ak} {n:Nm} {b:List Int} (h:iR d) (hb:jq b):iR (ack d n b).1:=zD (zD (afm h) fun e he=>DJ he hb) fun e he=>Iy he
theorem Qk {d:ak} {s:gV} (h:gq d):Keep d (uF d s).1:=by
 unfold uF;split
 ·exact Keep.refl h
 ·split
  ·exact Keep.refl h
  ·split
   ·exact Keep.refl h
   ·exact ah9 h
theorem ae4 {d:ak} {s:gV} (h:iR d):iR (uF d s).1:=by
 unfold uF;split
 ·exact h
 ·split
  ·exact h
  ·split
   ·exact h
   ·exact aha h (afi s)
theorem afT {d:ak} {n:Nm} {b:List Int} (h:Gw d) (hn:jy n) (hb:b.length<900000):
 Wq (af (iG d n b) fun y5=>cnd (au (ieq y5.2 0)) (some y5) (af (jh y5.1 n) fun y6=>cnd (au (ieq y6.2 0)) (some y6) (some (y6.1,0)))) fun x=>x=jV (eu d n b) fun d=>nI d n:=by
 rw[Q7 h hn.len hb,ah,fD,fA]
 by_cases h0:(eu d n b).2=0
 case neg=>rw[if_neg h0,ai,fM h0]
 rw[if_pos h0,then_ok h0]
 by_cases hd:gq d
 ·rw[abl ((rU hd).bnd h.fu) hn.len,ah,fD,fA]
  split
  ·rename_i g;rw[ai,<-g]
  ·rw[ai]
 ·have:(eu d n b).2≠0:=by
   have hf:iU d [n]=1:=by unfold iU;rw[if_pos hd]
   unfold eu;rw[if_pos (by rw[hf];decide),hf];show(1:Int)≠0;decide
  exact absurd h0 this
theorem ak8 {d:ak} {n:Nm} {k:Int} (h:Gw d):Gw (zY d n k).1:=by
 by_cases hd:gq d
 ·exact(YM hd).bnd h.fu
 ·have hf:iU d [n]=1:=by unfold iU;rw[if_pos hd]
  unfold zY;rw[if_pos (by rw[hf];decide)];exact h
theorem Ro {d:ak} {s:gV} (h:Gw d) (hb:iR d) (hs:inI s.gen):iZ d s=some (uF d s):=by
 refine Wq.eq ?_
 unfold iZ uF
 rw[RP,ah,fD,zx]
 by_cases hp:Gh s
 case neg=>rw[if_neg hp,ai,if_pos (.inl hp)]
 rw[if_pos hp,Vj h hb,ah]
 have hg:=Oq d
 have eg:wr .i64 (ax (dZ d).1.gen 1)=(dZ d).1.gen+1:=by rw[ax,bM (by omega) (by omega)]
 rw[eg]
 have rest:(dZ d).2≠1->(dZ d).2≠9->Wq (cnd (au (ieq s.gen ((dZ d).1.gen+1))) (some (d,(8:Int))) (af (qC s.gen) fun y2=>af (tC s) fun y3=>af (oH d y2) fun y4=>cnd (ieq y4.2 7) (af (iG d y2 (toL y3)) fun y5=>cnd (au (ieq y5.2 0)) (some y5) (af (jh y5.1 y2) fun y6=>cnd (au (ieq y6.2 0)) (some y6) (some (y6.1,0)))) (af (BV d y2 0) fun y7=>cnd (au (ieq y7.2 0)) (some y7) (af (iG y7.1 y2 (toL y3)) fun y8=>cnd (au (ieq y8.2 0)) (some y8) (af (jh y8.1 y2) fun y9=>cnd (au (ieq y9.2 0)) (some y9) (some (y9.1,0))))))) fun x=>x=if s.gen≠(dZ d).1.gen+1 then (d,8)else ack d (nmS s.gen) (yG s):=by
  intro g1 g2
  obtain⟨hd,hw⟩:=acE g1 g2
  rw[fD,fA]
  by_cases he:s.gen=(dZ d).1.gen+1
  case neg=>rw[if_neg he,ai,if_pos he]
  rw[if_pos he,if_neg (fun g=>g he),LH (by have:=hp.1;omega),ah]
  refine(SL s).bind fun a ha=> ?_
  rw[ha]
  have hn:=aag s.gen
  have hbl:=ZB s
  rw[ab7 h hn.len,ah,fA]
  unfold ack
  by_cases h7:(SB d (nmS s.gen)).2=7
  ·rw[if_pos h7]
   have hg:=(YB hd hw hn).1 h7
   have:qN d (nmS s.gen)=(d,0):=by unfold qN;rw[if_pos hg]
   rw[this,show(jV (d,(0:Int)) fun d=>eu d (nmS s.gen) (yG s))=eu d (nmS s.gen) (yG s)from then_ok rfl]
   exact afT h hn (by omega)
  ·rw[if_neg h7]
   have hg:dm d.files (nmS s.gen)≠none:=fun g=>h7 ((YB hd hw hn).2 g)
   have:qN d (nmS s.gen)=zY d (nmS s.gen) 0:=by unfold qN;rw[if_neg hg]
   rw[this,anp h hn.len,ah,fD,fA]
   by_cases h0:(zY d (nmS s.gen) 0).2=0
   ·rw[if_pos h0,show(jV (zY d (nmS s.gen) 0) fun d=>eu d (nmS s.gen) (yG s))=eu (zY d (nmS s.gen) 0).1 (nmS s.gen) (yG s)from then_ok h0]
    exact afT (ak8 h) hn (by omega)
   ·rw[if_neg h0,ai,show(jV (zY d (nmS s.gen) 0) fun d=>eu d (nmS s.gen) (yG s))=zY d (nmS s.gen) 0 from fM h0,fM h0]
 rw[fA,fA,fA]
 by_cases h1:(dZ d).2=1
 ·rw[if_pos h1,if_pos h1,ai,if_pos (.inr h1),h1]
 have hneg:¬(¬Gh s\/(dZ d).2=1):=fun g=>g.elim (fun g=>g hp) h1
 rw[if_neg h1,if_neg hneg]
 by_cases h9:(dZ d).2=9
 ·rw[if_pos h9,ai,if_pos h9,h9]
 rw[if_neg h9,if_neg h9]
 exact rest h1 h9
def nK:Nm:=[115,110,97,112,46]
def jM (g:Int):Nm:=nV nK g
def UZ (v:Nat):Nm:=List.replicate (10 - (Fq 20 v).length) 48++Fq 20 v
def jZ (g:Int):Prop:=1<=g/\g<=1000000000
theorem Rq {v:Nat} (h:v<=1000000000):(UZ v).length=10:=by
 have:=E8 20 v 10 (by omega) (by decide)
 unfold UZ;rw[List.length_append,List.length_replicate];omega
theorem TB (v:Nat):∀c∈UZ v,Rx c:=by
 intro c hc
 rcases List.mem_append.1 hc with h | h
 ·rw[List.mem_replicate]at h;rw[h.2,tX];decide
 ·exact Sv _ _ c h
theorem Tn {v:Nat} (h:v<=1000000000):qI (UZ v)=v:=by
 unfold UZ;rw[QL,XM 20 v (by omega)]
theorem Nh {g:Int} (h:jZ g):jM g=nK++UZ g.toNat:=by
 unfold jM nV UZ
 have:fmt10 g=Fq 20 g.toNat:=by unfold fmt10;rw[if_neg (by have:=h.1;omega)]
 rw[if_neg (by unfold jZ at h;omega),this,List.append_assoc]
theorem ah1 {g:Int} (h:¬jZ g):jM g=[]:=by
 unfold jM nV;rw[if_pos (by unfold jZ at h;omega)]
theorem OA {g:Int} (h:jZ g):(jM g).length=15:=by
 rw[Nh h,List.length_append,Rq (by unfold jZ at h;omega)];rfl
theorem aaw {g:Int} (h:jZ g):jD nK (jM g)=g:=by
 have hv:g.toNat<=1000000000:=by unfold jZ at h;omega
 have e1:(jM g).take nK.length=nK:=by rw[Nh h,List.take_left]
 have e2:(jM g).drop nK.length=UZ g.toNat:=by rw[Nh h,List.drop_left]
 unfold jD
 rw[e1,e2,if_pos ⟨rfl,Rq hv,TB _,by rw[Tn hv];exact hv⟩,Tn hv]
 unfold jZ at h;omega
theorem ajU {s:Nm} (h:jD nK s≠0):jZ (jD nK s)/\s=jM (jD nK s):=by
 have hc:s.take nK.length=nK/\(s.drop nK.length).length=10/\(∀c∈s.drop nK.length,48<=c/\c<=57)/\qI (s.drop nK.length)<=1000000000:=by
  apply Classical.byContradiction
  intro g;exact h (if_neg g)
 have e:jD nK s=((qI (s.drop nK.length):Nat):Int):=if_pos hc
 obtain⟨h1,h2,h3,h4⟩:=hc
 have hg:jZ (jD nK s):=by rw[e]at h ⊢; unfold jZ;omega
 refine⟨hg,?_⟩
 rw[Nh hg,e,Int.toNat_natCast]
 have:=abg h2 h3 (J7 10 _ h2 h3)
 unfold UZ
 rw[this]
 conv=>lhs;rw[<-List.take_append_drop nK.length s,h1]
theorem acQ {c:UInt8} (h:Rx c):Na c:=by rw[tX]at h;exact .inr (.inl h)
theorem Vt {g:Int} (h:jZ g):jy (jM g):=by
 refine⟨?_,by rw[OA h];decide,by rw[OA h];decide⟩
 rw[Nh h]
 intro c hc
 rcases List.mem_append.1 hc with k | k
 ·have:∀c∈nK,Na c:=by decide
  exact this c k
 ·exact acQ (TB _ c k)
theorem agH {g:Int} (h:jZ g):(fmt10 g).length<=10:=by
 have:fmt10 g=Fq 20 g.toNat:=by unfold fmt10;rw[if_neg (by have:=h.1;omega)]
 rw[this];exact E8 20 _ 10 (by unfold jZ at h;omega) (by decide)
theorem JV (g:Int):kH g=some (jM g):=by
 refine Wq.eq ?_
 unfold kH
 rw[fP]
 refine⟨fun h=> ?_,fun h=> ?_⟩
 ·simp only[aW,bK,dn,dF,aY,aZ,dA,dB,bP,dJ,bn,bg,dM,dN]at h
  rw[ai,ah1 (by unfold jZ;omega)]
 ·simp only[aW,bK,dn,dF,aY,aZ,dA,dB,bP,dJ,bn,bg,dM,dN]at h
  have hg:jZ g:=⟨by omega,by omega⟩
  have hl:=agH hg
  have ef:iP g 10=some (fmt10 g):=by
   unfold iP abo
   rw[aA (by rw[aW,bn,aW,bP,bP];unfold jZ at hg;exact⟨rfl,by omega,by omega⟩)]
  have ew:wr .i64 (aI 10 (len (fmt10 g)))=((10 - (fmt10 g).length:Nat):Int):=by
   rw[aI,bM (by simp only[len];omega) (by simp only[len];omega)];simp only[len];omega
  have er:jP [(UInt8.ofNat 48)] ((10 - (fmt10 g).length:Nat):Int)=some (List.replicate (10 - (fmt10 g).length) 48):=by
   unfold jP abr
   have e1:len [(UInt8.ofNat 48)]=1:=rfl
   rw[e1,aA (by simp only[aW,bP,fK,Int.one_mul];exact⟨by omega,by omega,by omega⟩),uP,NR];rfl
  rw[ef,ah,ew,er,ah,aA (jo (by simp only[len,ax,List.length_replicate];omega)),aA (jo (by simp only[len,ax,cu,List.length_append,List.length_replicate,List.length_cons,List.length_nil];omega)),ai]
  unfold jM nV
  rw[if_neg (by unfold jZ at hg;omega)];rfl
theorem afA (s:Nm):xC s=some (decide (jD nK s≠0)):=by
 unfold xC
 congr 1
 rw[Bool.eq_iff_iff,aY,bg,decide_eq_true_iff];exact Iff.rfl
def iK:Nm:=[116,109,112]
theorem oP:jy iK:=by decide
def xQ (gen:Int) (p:ak×Int) (f:aC):ak×Int:=if jD nK f.name≠0/\f.name≠jM gen then jV p fun d=>gu d f.name else p
def lC (gen:Int) (p:ak×Int) (l:List aC):ak×Int:=l.foldl (xQ gen) p
def VU (gen:Int) (p:ak×Int):ak×Int×Int:=if p.2≠0 then (p.1,0,p.2)else (p.1,gen,0)
def vT (d:ak):ak×Int:=if dm d.files iK=none then (d,0)else gu d iK
def rM (d:ak) (gen lsn:Int) (b:List Int):ak×Int:=
 jV (jV (jV (jV (vT d) fun d=>eu d iK b) fun d=>nI d iK) fun d=>jO d iK (jM gen)) fun d=>uF d ⟨gen,lsn⟩
open Classical in
noncomputable def lU (d:ak) (s:ay):ak×Int×Int:=
 if ¬iL s\/(dZ d).2=1 then (d,0,1)else if (dZ d).2=9 then (d,0,9)else if 1000000000<=(dZ d).1.gen then (d,0,3)else
 VU ((dZ d).1.gen+1) (lC ((dZ d).1.gen+1) (rM d ((dZ d).1.gen+1) s.lsn (encZ s)) (rM d ((dZ d).1.gen+1) s.lsn (encZ s)).1.files)
theorem Uo {gen:Int} {p:ak×Int} (h:p.2≠0):∀l,lC gen p l=p
 |[]=>rfl
 |f::l=>by
  unfold lC
  rw[List.foldl_cons]
  have:xQ gen p f=p:=by unfold xQ;split;exact fM h;rfl
  rw[this];exact Uo h l
theorem ahD (gen:Int) (p:ak×Int) (a b:List aC):lC gen p (a++b)=lC gen (lC gen p a) b:=by unfold lC;rw[List.foldl_append]
theorem ahK (gen:Int) (p:ak×Int) (f:aC):lC gen p [f]=xQ gen p f:=rfl
theorem aej {gen:Int} {d:ak} {p:ak×Int} {f:aC} (h:Keep d p.1):Keep d (xQ gen p f).1:=by
 unfold xQ;split
 ·exact zG h fun e he=>rW he
 ·exact h
theorem acP {gen:Int} {p:ak×Int} {f:aC} (h:iR p.1):iR (xQ gen p f).1:=by
 unfold xQ;split
 ·exact zD h fun e he=>Dv he
 ·exact h
theorem XT {gen:Int} {d:ak}:∀(l:List aC) {p:ak×Int},Keep d p.1->Keep d (lC gen p l).1
 |[],_,h=>h
 |f::l,p,h=>by unfold lC;rw[List.foldl_cons];exact XT l (aej h)
theorem YP {gen:Int}:∀(l:List aC) {p:ak×Int},iR p.1->iR (lC gen p l).1
 |[],_,h=>h
 |f::l,p,h=>by unfold lC;rw[List.foldl_cons];exact YP l (acP h)
theorem Vy {d:ak} (h:gq d):Keep d (vT d).1:=by
 unfold vT;split
 ·exact Keep.refl h
 ·exact rW h
theorem U8 {d:ak} (h:iR d):iR (vT d).1:=by
 unfold vT;split
 ·exact h
 ·exact Dv h
theorem afo {d:ak} {gen lsn:Int} {b:List Int} (h:gq d):Keep d (rM d gen lsn b).1:=
 zG (zG (zG (zG (Vy h) fun e he=>rU he) fun e he=>EQ he) fun e he=>Ht he) fun e he=>Qk he
theorem afp {d:ak} {gen lsn:Int} {b:List Int} (h:iR d) (hb:jq b):iR (rM d gen lsn b).1:=
 zD (zD (zD (zD (U8 h) fun e he=>DJ he hb) fun e he=>Iy he) fun e he=>ML he) fun e he=>ae4 he
theorem alf {d0 d:ak} {e:Int} {gen:Int} (hg:jZ gen) (hd0:gq d0) (hf:inI d0.fuse) (hk:Keep d0 d):
 Wq (af (bV (fun v:Int×fQ=>aQ (len d.files) d.files gen v.1 v.2) LF (0,fQ.mk d e)) fun y9=>cnd (au (ieq y9.e 0)) (some (y9.d,(0:Int),y9.e)) (some (y9.d,gen,0))) fun x=>x=VU gen (lC gen (d,e) d.files):=by
 have hl:=hk.right.fl
 refine Wq.bind (lD (n:=d.files.length) (step:=fun v:Int×fQ=>aQ (len d.files) d.files gen v.1 v.2) (by omega)
  (fun i x=>(x.d,x.e)=lC gen (d,e) (d.files.take i)/\Keep d0 x.d) (fun w=>(w.d,w.e)=lC gen (d,e) d.files) ?_ ?_ _ 0 (Nat.zero_le _) ⟨rfl,hk⟩) ?_
 ·rintro i ⟨x,n⟩ hi ⟨h1,h2⟩
  simp only at h1 h2
  simp only[aQ]
  have hnm:=(hk.right.2.1.1 _ (List.getElem_mem hi)).1
  have hnx:kN hi=kN hi:=rfl
  rw[aA (by rw[eX];simpa using hi),aA (inb _ i hi),bC _ i hi,afA,ah,kN hi,ahD,<-h1,ahK,zx]
  have hx:Gw x:=h2.bnd hf
  by_cases hs:jD nK d.files[i].name≠0
  ·rw[if_pos hs,JV,ah,decide_eq_true hs,EP,fD,amV]
   unfold xQ
   by_cases hq:d.files[i].name=jM gen
   ·rw[if_pos hq,ai,if_neg (fun g=>g.2 hq)]
    exact⟨dG (by omega),rfl,h2⟩
   ·rw[if_neg hq,if_pos ⟨hs,hq⟩,fA]
    by_cases h0:n=0
    ·rw[if_pos h0,Yd hx hnm.len,ah,ai,then_ok (by exact h0)]
     exact⟨dG (by omega),rfl,h2.trans (rW h2.right)⟩
    ·rw[if_neg h0,ai,fM (by exact h0)]
     exact⟨dG (by omega),rfl,h2⟩
  ·rw[if_neg hs,ah,decide_eq_false hs,QH,aU,ai]
   unfold xQ
   rw[if_neg (fun g=>hs g.1)]
   exact⟨dG (by omega),rfl,h2⟩
 ·rintro⟨x,n⟩ ⟨h1,h2⟩
  simp only[aQ]
  rw[cZ (Nk _),ai]
  rw[List.take_length]at h1
  exact h1
 ·rintro⟨x,n⟩ hw
  rw[<-hw,fD,fA]
  unfold VU
  simp only
  by_cases h0:n=0
  ·rw[if_pos h0,ai,if_neg (fun g=>g h0)]
  ·rw[if_neg h0,ai,if_pos h0]
theorem aom {d0:ak} {p:ak×Int} {gen:Int} (hg:jZ gen) (hd0:gq d0) (hf:inI d0.fuse) (hk:Keep d0 p.1) (l:List aC) (hl:l=p.1.files):
 Wq (af (bV (fun v:Int×fQ=>aQ (len p.1.files) p.1.files gen v.1 v.2) LF (0,fQ.mk p.1 p.2)) fun y9=>cnd (au (ieq y9.e 0)) (some (y9.d,(0:Int),y9.e)) (some (y9.d,gen,0))) fun x=>x=VU gen (lC gen p l):=by
 rw[hl];exact alf (d:=p.1) (e:=p.2) hg hd0 hf hk
theorem zS {d0:ak} {p q:ak×Int} {gen:Int} (hg:jZ gen) (hd0:gq d0) (hf:inI d0.fuse) (hk:Keep d0 p.1) (hq:q=p):
 Wq (af (bV (fun v:Int×fQ=>aQ (len p.1.files) p.1.files gen v.1 v.2) LF (0,fQ.mk p.1 p.2)) fun y9=>cnd (au (ieq y9.e 0)) (some (y9.d,(0:Int),y9.e)) (some (y9.d,gen,0))) fun x=>x=VU gen (lC gen q q.1.files):=by
 rw[hq];exact aom hg hd0 hf hk _ rfl
theorem ab9 {d:ak} {s:ay} (h:Gw d) (hb:iR d) (hr:gG s) (hsh:l9 s):EH d s=some (lU d s):=by
 refine Wq.eq ?_
 unfold EH lU
 by_cases hR:iL s
 case neg=>
  rw[UM hr hsh hR,ah,aA (by rfl),ai,if_pos (.inl hR)]
 have henc:(encZ s).length<900000:=by
  have h1:=Yx s
  have h2:=hR.few
  omega
 rw[abI hr hsh hR,ah,cZ (by rfl),Vj h hb,ah,fA,fA]
 by_cases h1:(dZ d).2=1
 ·rw[if_pos h1,ai,if_pos (.inr h1),h1]
 have hneg:¬(¬iL s\/(dZ d).2=1):=fun g=>g.elim (fun g=>g hR) h1
 rw[if_neg h1,if_neg hneg]
 by_cases h9:(dZ d).2=9
 ·rw[if_pos h9,ai,if_pos h9,h9]
 rw[if_neg h9,if_neg h9,anS]
 by_cases hov:1000000000<=(dZ d).1.gen
 ·rw[if_pos hov,ai,if_pos hov]
 rw[if_neg hov,if_neg hov]
 obtain⟨hd,hw⟩:=acE h1 h9
 have hgn:=Oq d
 have eg:wr .i64 (ax (dZ d).1.gen 1)=(dZ d).1.gen+1:=by rw[ax,bM (by omega) (by omega)]
 rw[eg]
 have hG:jZ ((dZ d).1.gen+1):=⟨by omega,by omega⟩
 generalize (dZ d).1.gen+1=gen at hG ⊢
 have et:[(UInt8.ofNat 116),(UInt8.ofNat 109),(UInt8.ofNat 112)]=iK:=rfl
 rw[et]
 have hfu:=h.fu
 have hN:=Vt hG
 have k0:=Vy hd
 have b0:=U8 hb
 rw[ab7 h oP.len,ah]
 have hrz:(SB d iK).2=if dm d.files iK=none then 7 else 0:=by
  unfold SB
  rw[if_neg (fun g=>g (kK.2 ⟨hd,hw,Eh oP⟩))]
  cases dm d.files iK<;>simp
 rw[hrz,fA]
 unfold rM
 by_cases hg:dm d.files iK=none
 ·have hc:vT d=(d,0):=by unfold vT;rw[if_pos hg]
  rw[if_pos hg,if_neg (by decide),hc,show(jV (d,(0:Int)) fun d=>eu d iK (encZ s))=eu d iK (encZ s)from then_ok rfl,Q7 h oP.len henc,ah]
  have k1:=rU (n:=iK) (b:=encZ s) hd
  have b1:=DJ (n:=iK) hb (U2 s)
  have hcl:∀q:ak×Int,ieq q.2 0=true\/ieq q.2 0=false:=fun q=>by cases ieq q.2 0<;>simp
  generalize hp1:eu d iK (encZ s)=p1 at k1 b1 ⊢
  rcases hcl p1 with e1 | e1
  case inr=>
   simp only[cZ e1]
   refine zS hG hd hfu k1 ?_
   rw[bg]at e1
   rw[fM e1,fM e1,fM e1]
  rw[aA e1,abl (k1.bnd hfu) oP.len,ah]
  rw[bn]at e1
  rw[then_ok (p:=p1) e1]
  have k2:=k1.trans (EQ (n:=iK) k1.right)
  have b2:=Iy (n:=iK) b1
  generalize nI p1.1 iK=p2 at k2 b2 ⊢
  rcases hcl p2 with e2 | e2
  case inr=>
   simp only[cZ e2]
   refine zS hG hd hfu k2 ?_
   rw[bg]at e2
   rw[fM e2,fM e2]
  rw[aA e2,JV,ah,ac6 (k2.bnd hfu) oP.len hN.len,ah]
  rw[bn]at e2
  rw[then_ok (p:=p2) e2]
  have k3:=k2.trans (Ht (a:=iK) (b:=jM gen) k2.right)
  have b3:=ML (a:=iK) (b:=jM gen) b2
  generalize jO p2.1 iK (jM gen)=p3 at k3 b3 ⊢
  rcases hcl p3 with e3 | e3
  case inr=>
   simp only[cZ e3]
   refine zS hG hd hfu k3 ?_
   rw[bg]at e3
   rw[fM e3]
  rw[aA e3,Ro (k3.bnd hfu) b3 (by unfold jZ at hG;unfold inI;simp only;omega),ah]
  rw[bn]at e3
  rw[then_ok (p:=p3) e3]
  exact zS hG hd hfu (k3.trans (Qk k3.right)) rfl
 ·have hc:vT d=gu d iK:=by unfold vT;rw[if_neg hg]
  rw[if_neg hg,if_pos rfl,hc,Yd h oP.len,ah]
  have k0:=rW (n:=iK) hd
  have b0:=Dv (n:=iK) hb
  generalize gu d iK=p at k0 b0 ⊢
  have hcl0:ieq p.2 0=true\/ieq p.2 0=false:=by cases ieq p.2 0<;>simp
  rcases hcl0 with e0 | e0
  case inr=>
   simp only[cZ e0]
   refine zS hG hd hfu k0 ?_
   rw[bg]at e0
   rw[fM (p:=p) e0,fM e0,fM e0,fM e0]
  rw[aA e0,Q7 (k0.bnd hfu) oP.len henc,ah]
  rw[bn]at e0
  rw[then_ok (p:=p) e0]
  have k1:=k0.trans (rU (n:=iK) (b:=encZ s) k0.right)
  have b1:=DJ (n:=iK) b0 (U2 s)
  have hcl:∀q:ak×Int,ieq q.2 0=true\/ieq q.2 0=false:=fun q=>by cases ieq q.2 0<;>simp
  generalize hp1:eu p.1 iK (encZ s)=p1 at k1 b1 ⊢
  rcases hcl p1 with e1 | e1
  case inr=>
   simp only[cZ e1]
   refine zS hG hd hfu k1 ?_
   rw[bg]at e1
   rw[fM e1,fM e1,fM e1]
  rw[aA e1,abl (k1.bnd hfu) oP.len,ah]
  rw[bn]at e1
  rw[then_ok (p:=p1) e1]
  have k2:=k1.trans (EQ (n:=iK) k1.right)
  have b2:=Iy (n:=iK) b1
  generalize nI p1.1 iK=p2 at k2 b2 ⊢
  rcases hcl p2 with e2 | e2
  case inr=>
   simp only[cZ e2]
   refine zS hG hd hfu k2 ?_
   rw[bg]at e2
   rw[fM e2,fM e2]
  rw[aA e2,JV,ah,ac6 (k2.bnd hfu) oP.len hN.len,ah]
  rw[bn]at e2
  rw[then_ok (p:=p2) e2]
  have k3:=k2.trans (Ht (a:=iK) (b:=jM gen) k2.right)
  have b3:=ML (a:=iK) (b:=jM gen) b2
  generalize jO p2.1 iK (jM gen)=p3 at k3 b3 ⊢
  rcases hcl p3 with e3 | e3
  case inr=>
   simp only[cZ e3]
   refine zS hG hd hfu k3 ?_
   rw[bg]at e3
   rw[fM e3]
  rw[aA e3,Ro (k3.bnd hfu) b3 (by unfold jZ at hG;unfold inI;simp only;omega),ah]
  rw[bn]at e3
  rw[then_ok (p:=p3) e3]
  exact zS hG hd hfu (k3.trans (Qk k3.right)) rfl
theorem WA (gen:Int) (p:ak×Int) (f:aC) (l:List aC):lC gen p (f::l)=lC gen (xQ gen p f) l:=rfl
theorem ak0 {d:ak} (h:RI d):iR d:=fun f hf=>akc (h.files.1 f hf).data
theorem ahs {d:ak} (h:RI d) (hs:d.files.length<=70/\∀f∈d.files,f.name.length<=100/\f.data.length<=70000):Gw d:=
 ⟨fun f hf=>by have:=(hs.2 f hf).1;omega,h.fuse⟩
structure UpD (d:ak):Prop where
 right:gq d
 up:d.down=false
structure YK (d e:ak) (c:Int):Prop where
 code:(c=0/\e.down=false)\/(c=9/\e.down=true/\d.fuse≠ -1)
 fuse:d.fuse= -1->e.fuse= -1
 keep:Keep d e
theorem YK.up {d e:ak} {c:Int} (h:YK d e c) (hc:c=0):UpD e:=⟨h.keep.right,by rcases h.code with g | g;exact g.2;rw[hc]at g;exact absurd g.1 (by decide)⟩
theorem YK.cases {d e:ak} {c:Int} (h:YK d e c):c=0\/(c=9/\e.down=true/\d.fuse≠ -1):=h.code.imp (·.1) id
theorem UpD.first {d:ak} (h:UpD d) {ns:List Nm} (hn:∀n∈ns,jy n):iU d ns=0:=kK.2 ⟨h.right,h.up,hn⟩
theorem Oi {d:ak} (h:UpD d):((dw d).2=true/\(dw d).1.down=false)\/((dw d).2=false/\(dw d).1.down=true/\d.fuse≠ -1):=by
 have:=Qm d
 have hu:=h.up
 rcases this with ⟨h0,h1,h2,h3⟩ | ⟨h1,h2,h3,h4⟩
 ·exact .inr ⟨h3,h2,by omega⟩
 ·exact .inl ⟨h4,by rw[h3,hu]⟩
theorem EY {d:ak} (h:d.fuse= -1):dw d=(d,true):=by unfold dw;rw[if_neg (by omega),if_pos h]
theorem JZ {d:ak} {n:Nm} {b:List Int} (h:UpD d) (hn:jy n):
 ((eu d n b).2=6/\(eu d n b).1=d/\(d.room<(ig d.files:Int)+(b.length:Int)\/(dm d.files n=none/\64<=d.files.length)))\/
 (YK d (eu d n b).1 (eu d n b).2/\(∀m,dm (eu d n b).1.files m=if m=n then some ⟨n,((dm d.files n).getD ⟨n,[],0⟩).data++b,((dm d.files n).getD ⟨n,[],0⟩).sure⟩else dm d.files m)/\
   ig (eu d n b).1.files=ig d.files+b.length/\(eu d n b).1.files.length<=d.files.length+1):=by
 have hk:=rU (n:=n) (b:=b) h.right
 have h0:=h.first (Eh hn)
 unfold eu at hk ⊢
 rw[if_neg (fun g=>g h0)]at hk ⊢
 by_cases hc:d.room<(ig d.files:Int)+(b.length:Int)\/(dm d.files n=none/\64<=d.files.length)
 ·rw[if_pos hc];exact .inl ⟨rfl,rfl,hc⟩
 rw[if_neg hc]at hk ⊢
 right
 obtain⟨i,o,hs⟩:=mX h.right.asc (by have:=h.right.fl;omega) n
 generalize hF:(⟨n,((dm d.files n).getD ⟨n,[],0⟩).data++b,((dm d.files n).getD ⟨n,[],0⟩).sure⟩:aC)=F at hk ⊢
 have hFn:F.name=n:=by rw[<-hF]
 have g1:=hs.used F hFn
 have g2:=hs.long F hFn
 have hup:(yB d F).down=false:=h.up
 have hold:F.data.length=OU o+b.length:=by
  rw[<-hF,<-hs.get]
  cases dm d.files n<;>simp [OU]
 refine⟨⟨?_,?_,hk⟩,fun m=> ?_,?_,?_⟩
 ·have hsf:=Qm (yB d F)
  rcases hsf with ⟨q0,q1,q2,q3⟩ | ⟨q1,q2,q3,q4⟩
  ·right;unfold aeC;rw[q3];exact⟨rfl,q2,by have:d.fuse=0:=q0;omega⟩
  ·left;unfold aeC;rw[q4];exact⟨rfl,by rw[q3];exact hup⟩
 ·intro hf
  rw[I5,EY (show(yB d F).fuse= -1 from hf)];exact hf
 ·rw[I5,bQ]
  show dm (oV F d.files) m=_
  rw[get_put,hFn]
 ·rw[I5,bQ]
  show ig (oV F d.files)=_
  omega
 ·rw[I5,bQ]
  show(oV F d.files).length<=_
  rw[g2];split<;>omega
theorem QO {d:ak} {n:Nm} {f:aC} (h:UpD d) (hn:jy n) (hg:dm d.files n=some f):
 YK d (nI d n).1 (nI d n).2/\((nI d n).2=0->∀m,dm (nI d n).1.files m=if m=n then some ⟨n,f.data,len f.data⟩else dm d.files m)/\((nI d n).2≠0->(nI d n).1.files=d.files)/\
  ig (nI d n).1.files=ig d.files/\(nI d n).1.files.length=d.files.length:=by
 have hk:=EQ (n:=n) h.right
 have h0:=h.first (Eh hn)
 unfold nI at hk ⊢
 rw[if_neg (fun g=>g h0),hg]at hk ⊢
 simp only at hk ⊢
 obtain⟨i,o,hs⟩:=mX h.right.asc (by have:=h.right.fl;omega) n
 have g1:=hs.used ⟨n,f.data,len f.data⟩ rfl
 have g2:=hs.long ⟨n,f.data,len f.data⟩ rfl
 have ho:=hs.get
 rw[hg]at ho
 subst ho
 rcases Oi h with ⟨q1,q2⟩ | ⟨q1,q2,q3⟩
 ·rw[if_pos q1]at hk ⊢
  refine⟨⟨.inl ⟨rfl,q2⟩,fun hf=> ?_,hk⟩,fun _ m=> ?_,fun g=>absurd rfl g,?_,?_⟩
  ·rw[EY hf];exact hf
  ·show dm (oV _ (dw d).1.files) m=_
   rw[bQ,get_put]
  ·show ig (oV _ (dw d).1.files)=_
   rw[bQ];simp only[OU]at g1;omega
  ·show(oV _ (dw d).1.files).length=_
   rw[bQ,g2];simp
 ·rw[if_neg (by rw[q1];decide)]at hk ⊢
  refine⟨⟨.inr ⟨rfl,q2,q3⟩,fun hf=>absurd hf q3,hk⟩,fun g=>absurd g (show ¬(9:Int)=0 by decide),fun _=>bQ d,?_,?_⟩
  ·rw[bQ]
  ·rw[bQ]
theorem JA {d:ak} {n:Nm} {f:aC} (h:UpD d) (hn:jy n) (hg:dm d.files n=some f):
 YK d (gu d n).1 (gu d n).2/\((gu d n).2=0->∀m,dm (gu d n).1.files m=if m=n then none else dm d.files m)/\((gu d n).2≠0->(gu d n).1.files=d.files)/\
  ig (gu d n).1.files<=ig d.files/\(gu d n).1.files.length<=d.files.length:=by
 have hk:=rW (n:=n) h.right
 have h0:=h.first (Eh hn)
 unfold gu at hk ⊢
 rw[if_neg (fun g=>g h0),hg]at hk ⊢
 simp only at hk ⊢
 obtain⟨i,o,hs⟩:=mX h.right.asc (by have:=h.right.fl;omega) n
 have g1:=hs.usedD
 have g2:=X6 n d.files
 rcases Oi h with ⟨q1,q2⟩ | ⟨q1,q2,q3⟩
 ·rw[if_pos q1]at hk ⊢
  refine⟨⟨.inl ⟨rfl,q2⟩,fun hf=> ?_,hk⟩,fun _ m=> ?_,fun g=>absurd rfl g,?_,?_⟩
  ·rw[EY hf];exact hf
  ·show dm (wW _ (dw d).1.files) m=_
   rw[bQ,V6]
  ·show ig (wW _ (dw d).1.files)<=_
   rw[bQ];omega
  ·show(wW _ (dw d).1.files).length<=_
   rw[bQ];exact g2
 ·rw[if_neg (by rw[q1];decide)]at hk ⊢
  refine⟨⟨.inr ⟨rfl,q2,q3⟩,fun hf=>absurd hf q3,hk⟩,fun g=>absurd g (show ¬(9:Int)=0 by decide),fun _=>bQ d,?_,?_⟩
  ·rw[bQ];exact Nat.le_refl _
  ·rw[bQ];exact Nat.le_refl _
theorem abA {d:ak} {a b:Nm} {f:aC} (h:UpD d) (ha:jy a) (hb:jy b) (hg:dm d.files a=some f):
 YK d (jO d a b).1 (jO d a b).2/\((jO d a b).2=0->∀m,dm (jO d a b).1.files m=if m=b then some ⟨b,f.data,f.sure⟩else if m=a then none else dm d.files m)/\((jO d a b).2≠0->(jO d a b).1.files=d.files)/\
  ig (jO d a b).1.files<=ig d.files/\(jO d a b).1.files.length<=d.files.length:=by
 have hk:=Ht (a:=a) (b:=b) h.right
 have h0:=h.first (ns:=[a,b]) (by intro n hn;simp at hn;rcases hn with rfl | rfl<;>assumption)
 unfold jO at hk ⊢
 rw[if_neg (fun g=>g h0),hg]at hk ⊢
 simp only at hk ⊢
 obtain⟨i,o,hs⟩:=mX h.right.asc (by have:=h.right.fl;omega) a
 have g1:=hs.usedD
 have ho:=hs.get
 rw[hg]at ho
 subst ho
 have hd:=hs.del
 obtain⟨hil,-, -⟩:=hs.lt
 have hlen:(wW a d.files).length=d.files.length - 1:=by rw[<-hd,List.length_eraseIdx_of_lt hil]
 obtain⟨j,o2,hs2⟩:=mX (abU (n:=a) h.right.asc) (by have:=h.right.fl;omega) b
 have g3:=hs2.used ⟨b,f.data,f.sure⟩ rfl
 have g4:=hs2.long ⟨b,f.data,f.sure⟩ rfl
 rcases Oi h with ⟨q1,q2⟩ | ⟨q1,q2,q3⟩
 ·rw[if_pos q1]at hk ⊢
  refine⟨⟨.inl ⟨rfl,q2⟩,fun hf=> ?_,hk⟩,fun _ m=> ?_,fun g=>absurd rfl g,?_,?_⟩
  ·rw[EY hf];exact hf
  ·show dm (oV _ (wW a (dw d).1.files)) m=_
   rw[bQ,get_put,V6]
  ·show ig (oV _ (wW a (dw d).1.files))<=_
   rw[bQ];simp only[OU]at g1 g3;omega
  ·show(oV _ (wW a (dw d).1.files)).length<=_
   rw[bQ,g4];split<;>omega
 ·rw[if_neg (by rw[q1];decide)]at hk ⊢
  refine⟨⟨.inr ⟨rfl,q2,q3⟩,fun hf=>absurd hf q3,hk⟩,fun g=>absurd g (show ¬(9:Int)=0 by decide),fun _=>bQ d,?_,?_⟩
  ·rw[bQ];exact Nat.le_refl _
  ·rw[bQ];exact Nat.le_refl _
theorem ah8 {d:ak} {n:Nm} {f:aC} (h:UpD d) (hn:jy n) (hg:dm d.files n=some f):
 YK d (zY d n 0).1 (zY d n 0).2/\((zY d n 0).2=0->∀m,dm (zY d n 0).1.files m=if m=n then some ⟨n,[],0⟩else dm d.files m)/\((zY d n 0).2≠0->(zY d n 0).1.files=d.files)/\
  ig (zY d n 0).1.files<=ig d.files/\(zY d n 0).1.files.length=d.files.length:=by
 have hk:=YM (n:=n) (k:=0) h.right
 have h0:=h.first (Eh hn)
 have hs0:=(abL h.right hg).1.2.1
 unfold zY at hk ⊢
 rw[if_neg (fun g=>g h0),hg]at hk ⊢
 simp only at hk ⊢
 have hno:¬((0:Int)<0\/len f.data<0):=by simp only[len];omega
 have hsu:(if (0:Int)<f.sure then 0 else f.sure)=0:=by split<;>omega
 rw[if_neg hno,hsu,show(0:Int).toNat=0 from rfl,List.take_zero]at hk ⊢
 obtain⟨i,o,hs⟩:=mX h.right.asc (by have:=h.right.fl;omega) n
 have g1:=hs.used ⟨n,[],0⟩ rfl
 have g2:=hs.long ⟨n,[],0⟩ rfl
 have ho:=hs.get
 rw[hg]at ho
 subst ho
 rcases Oi h with ⟨q1,q2⟩ | ⟨q1,q2,q3⟩
 ·rw[if_pos q1]at hk ⊢
  refine⟨⟨.inl ⟨rfl,q2⟩,fun hf=> ?_,hk⟩,fun _ m=> ?_,fun g=>absurd rfl g,?_,?_⟩
  ·rw[EY hf];exact hf
  ·show dm (oV _ (dw d).1.files) m=_
   rw[bQ,get_put]
  ·show ig (oV _ (dw d).1.files)<=_
   rw[bQ];simp only[OU,List.length_nil]at g1;omega
  ·show(oV _ (dw d).1.files).length=_
   rw[bQ,g2];simp
 ·rw[if_neg (by rw[q1];decide)]at hk ⊢
  refine⟨⟨.inr ⟨rfl,q2,q3⟩,fun hf=>absurd hf q3,hk⟩,fun g=>absurd g (show ¬(9:Int)=0 by decide),fun _=>bQ d,?_,?_⟩
  ·rw[bQ];exact Nat.le_refl _
  ·rw[bQ]
theorem amo:iK≠n0:=by decide
theorem anb:iK≠n1:=by decide
theorem aa3 {g:Int} (h:jZ g) {n:Nm} (hn:n.length≠15):jM g≠n:=fun e=>hn (by rw[<-e];exact OA h)
theorem abR (g:Int):(nmS g).length=6:=by unfold nmS;split<;>rfl
theorem abh (g:Int):nmS g≠iK:=fun e=>by have:=abR g;rw[e]at this;exact absurd this (by decide)
theorem agp:jD nK iK=0:=by decide
theorem amJ:jD nK n0=0:=by decide
theorem amc:jD nK n1=0:=by decide
theorem agN (g:Int):jD nK (nmS g)=0:=by unfold nmS;split;exact amJ;exact amc
structure Ci (D x:ak):Prop where
 oth:∀n,n≠iK->dm x.files n=dm D.files n
structure UX (D:ak) (gen:Int) (b w:List Int) (x:ak):Prop where
 oth:∀n,n≠iK->n≠jM gen->n≠nmS gen->dm x.files n=dm D.files n
 snap:dm x.files (jM gen)=some ⟨jM gen,b,len b⟩
 slot:dm x.files (nmS gen)=dm D.files (nmS gen)\/∃f,dm x.files (nmS gen)=some f/\f.sure=0/\(f.data=[]\/f.data=w)
structure Ju (D:ak) (gen:Int) (b w:List Int) (x:ak):Prop where
 oth:∀n,n≠iK->n≠nmS gen->jD nK n=0->dm x.files n=dm D.files n
 snap:dm x.files (jM gen)=some ⟨jM gen,b,len b⟩
 slot:dm x.files (nmS gen)=some ⟨nmS gen,w,len w⟩
 olds:∀n,jD nK n≠0->n≠jM gen->dm x.files n=none\/dm x.files n=dm D.files n
 tmp:dm x.files iK=none
structure Ed (D x:ak) (m k:Nat):Prop where
 keep:Keep D x
 fuse:D.fuse= -1->x.fuse= -1
 used:ig x.files<=ig D.files+m
 long:x.files.length<=D.files.length+k
def anJ (D:ak) (m:Nat):Prop:=D.room<(ig D.files:Int)+(m:Int)+20\/63<=D.files.length
def P7 (D:ak) (m:Nat) (c:Int):Prop:=(c=6/\anJ D m)\/(c=9/\D.fuse≠ -1)
theorem P7.ne {D:ak} {m:Nat} {c:Int} (h:P7 D m c):c≠0:=by
 rcases h with ⟨h, -⟩ | ⟨h, -⟩<;>rw[h]<;>decide
theorem Ed.pow {D x y:ak} {m k m' k':Nat} {c:Int} (h:Ed D x m k) (p:YK x y c) (hu:ig y.files<=ig D.files+m') (hl:y.files.length<=D.files.length+k'):Ed D y m' k':=
 ⟨h.keep.trans p.keep,fun hf=>p.fuse (h.fuse hf),hu,hl⟩
theorem JR {D x y:ak} {m k:Nat} {c:Int} (h:Ed D x m k) (p:YK x y c) (hc:c≠0) (mm:Nat):P7 D mm c:=by
 rcases p.cases with g | ⟨g,-, g2⟩
 ·exact absurd g hc
 ·exact .inr ⟨g,fun hf=>g2 (h.fuse hf)⟩
theorem aog {D:ak} (h:UpD D) (m:Nat):Ed D (vT D).1 0 0/\Ci D (vT D).1/\(((vT D).2=0/\(vT D).1.down=false/\dm (vT D).1.files iK=none)\/P7 D m (vT D).2):=by
 have run0:Ed D D 0 0:=⟨Keep.refl h.right,id,Nat.le_refl _,Nat.le_refl _⟩
 unfold vT
 cases hg:dm D.files iK with
 |none=>rw[if_pos rfl];exact⟨run0,⟨fun n _=>rfl⟩,.inl ⟨rfl,h.up,hg⟩⟩
 |some f=>
  rw[if_neg (by intro e;cases e)]
  obtain⟨hp,h1,h2,h3,h4⟩:=JA h oP hg
  refine⟨run0.pow hp (by omega) (by omega),⟨fun n hn=> ?_⟩,?_⟩
  ·by_cases hc:(gu D iK).2=0
   ·rw[h1 hc n,if_neg hn]
   ·rw[h2 hc]
  ·by_cases hc:(gu D iK).2=0
   ·left;exact⟨hc,(hp.up hc).up,by rw[h1 hc,if_pos rfl]⟩
   ·right;exact JR run0 hp hc m
theorem anL {D:ak} {p:ak×Int} {b:List Int} (hr:Ed D p.1 0 0) (hA:Ci D p.1) (hc:(p.2=0/\p.1.down=false/\dm p.1.files iK=none)\/P7 D b.length p.2):
 Ed D (jV p fun d=>eu d iK b).1 b.length 1/\Ci D (jV p fun d=>eu d iK b).1/\
 (((jV p fun d=>eu d iK b).2=0/\(jV p fun d=>eu d iK b).1.down=false/\dm (jV p fun d=>eu d iK b).1.files iK=some ⟨iK,b,0⟩)\/P7 D b.length (jV p fun d=>eu d iK b).2):=by
 have hr1:Ed D p.1 b.length 1:=⟨hr.keep,hr.fuse,by have:=hr.used;omega,by have:=hr.long;omega⟩
 rcases hc with ⟨h0,hw,hg⟩ | hb
 case inr=>rw[fM hb.ne];exact⟨hr1,hA,.inr hb⟩
 rw[then_ok h0]
 have hu:UpD p.1:=⟨hr.keep.right,hw⟩
 rcases JZ (b:=b) hu oP with ⟨a1,a2,a3⟩ | ⟨a1,a2,a3,a4⟩
 ·refine⟨by rw[a2];exact hr1,by rw[a2];exact hA,.inr (.inl ⟨a1,?_⟩)⟩
  have:=hr.used;have:=hr.long;have:=hr.keep.room
  rcases a3 with g | ⟨-, g⟩
  ·left;omega
  ·right;omega
 ·refine⟨hr.pow a1 (by have:=hr.used;omega) (by have:=hr.long;omega),⟨fun n hn=> ?_⟩,?_⟩
  ·rw[a2,if_neg hn];exact hA.oth n hn
  ·by_cases hc:(eu p.1 iK b).2=0
   ·left;exact⟨hc,(a1.up hc).up,by rw[a2,if_pos rfl,hg];rfl⟩
   ·right;exact JR hr a1 hc _
theorem anz {D:ak} {p:ak×Int} {b:List Int} (hr:Ed D p.1 b.length 1) (hA:Ci D p.1) (hc:(p.2=0/\p.1.down=false/\dm p.1.files iK=some ⟨iK,b,0⟩)\/P7 D b.length p.2):
 Ed D (jV p fun d=>nI d iK).1 b.length 1/\Ci D (jV p fun d=>nI d iK).1/\
 (((jV p fun d=>nI d iK).2=0/\(jV p fun d=>nI d iK).1.down=false/\dm (jV p fun d=>nI d iK).1.files iK=some ⟨iK,b,len b⟩)\/P7 D b.length (jV p fun d=>nI d iK).2):=by
 rcases hc with ⟨h0,hw,hg⟩ | hb
 case inr=>rw[fM hb.ne];exact⟨hr,hA,.inr hb⟩
 rw[then_ok h0]
 have hu:UpD p.1:=⟨hr.keep.right,hw⟩
 obtain⟨a1,a2,a3,a4,a5⟩:=QO hu oP hg
 refine⟨hr.pow a1 (by have:=hr.used;omega) (by have:=hr.long;omega),⟨fun n hn=> ?_⟩,?_⟩
 ·by_cases hc:(nI p.1 iK).2=0
  ·rw[a2 hc,if_neg hn];exact hA.oth n hn
  ·rw[a3 hc];exact hA.oth n hn
 ·by_cases hc:(nI p.1 iK).2=0
  ·left;exact⟨hc,(a1.up hc).up,by rw[a2 hc,if_pos rfl]⟩
  ·right;exact JR hr a1 hc _
structure Wh (D:ak) (gen:Int) (b:List Int) (x:ak):Prop where
 oth:∀n,n≠iK->n≠jM gen->dm x.files n=dm D.files n
 snap:dm x.files (jM gen)=some ⟨jM gen,b,len b⟩
 tmp:dm x.files iK=none
theorem walk3 {D:ak} {p:ak×Int} {b:List Int} {gen:Int} (hG:jZ gen) (hr:Ed D p.1 b.length 1) (hA:Ci D p.1) (hc:(p.2=0/\p.1.down=false/\dm p.1.files iK=some ⟨iK,b,len b⟩)\/P7 D b.length p.2):
 Ed D (jV p fun d=>jO d iK (jM gen)).1 b.length 1/\
 (((jV p fun d=>jO d iK (jM gen)).2=0/\(jV p fun d=>jO d iK (jM gen)).1.down=false/\Wh D gen b (jV p fun d=>jO d iK (jM gen)).1)\/
  (Ci D (jV p fun d=>jO d iK (jM gen)).1/\P7 D b.length (jV p fun d=>jO d iK (jM gen)).2)):=by
 rcases hc with ⟨h0,hw,hg⟩ | hb
 case inr=>rw[fM hb.ne];exact⟨hr,.inr ⟨hA,hb⟩⟩
 rw[then_ok h0]
 have hu:UpD p.1:=⟨hr.keep.right,hw⟩
 have hne:jM gen≠iK:=aa3 hG (by decide)
 obtain⟨a1,a2,a3,a4,a5⟩:=abA hu oP (Vt hG) hg
 refine⟨hr.pow a1 (by have:=hr.used;omega) (by have:=hr.long;omega),?_⟩
 by_cases hc:(jO p.1 iK (jM gen)).2=0
 ·left
  refine⟨hc,(a1.up hc).up,⟨fun n h1 h2=> ?_,?_,?_⟩⟩
  ·rw[a2 hc,if_neg h2,if_neg h1];exact hA.oth n h1
  ·rw[a2 hc,if_pos rfl]
  ·rw[a2 hc,if_neg (Ne.symm hne),if_pos rfl]
 ·right
  exact⟨⟨fun n hn=>by rw[a3 hc];exact hA.oth n hn⟩,JR hr a1 hc _⟩
theorem Wh.ct {D x:ak} {gen:Int} {b:List Int} (hG:jZ gen) (h:Wh D gen b x) {n:Nm} (h1:n≠iK) (h2:n.length≠15):dm x.files n=dm D.files n:=h.oth n h1 (Ne.symm (aa3 hG h2))
theorem walk4 {D:ak} {p:ak×Int} {b:List Int} {gen lsn:Int} (hD:UpD D) (hG:jZ gen) (hs:Gh ⟨gen,lsn⟩) (hgen:gen=(dZ D).1.gen+1) (hr:Ed D p.1 b.length 1)
 (hc:(p.2=0/\p.1.down=false/\Wh D gen b p.1)\/(Ci D p.1/\P7 D b.length p.2)):
 Ed D (jV p fun d=>uF d ⟨gen,lsn⟩).1 (b.length+20) 2/\
 (((jV p fun d=>uF d ⟨gen,lsn⟩).2=0/\(jV p fun d=>uF d ⟨gen,lsn⟩).1.down=false/\Ju D gen b (yG ⟨gen,lsn⟩) (jV p fun d=>uF d ⟨gen,lsn⟩).1)\/
  ((Ci D (jV p fun d=>uF d ⟨gen,lsn⟩).1\/UX D gen b (yG ⟨gen,lsn⟩) (jV p fun d=>uF d ⟨gen,lsn⟩).1)/\P7 D b.length (jV p fun d=>uF d ⟨gen,lsn⟩).2)):=by
 have hr1:Ed D p.1 (b.length+20) 2:=⟨hr.keep,hr.fuse,by have:=hr.used;omega,by have:=hr.long;omega⟩
 rcases hc with ⟨h0,hw,hB⟩ | ⟨hA,hb⟩
 case inr=>rw[fM hb.ne];exact⟨hr1,.inr ⟨.inl hA,hb⟩⟩
 rw[then_ok h0]
 have hu:UpD p.1:=⟨hr.keep.right,hw⟩
 generalize p.1=x at hr hr1 hB hu ⊢
 clear h0 hw
 have c0:ctF x.files n0=ctF D.files n0:=by unfold ctF;rw[hB.ct hG (Ne.symm amo) (by decide)]
 have c1:ctF x.files n1=ctF D.files n1:=by unfold ctF;rw[hB.ct hG (Ne.symm anb) (by decide)]
 obtain⟨r1,r2⟩:=LJ hu.right hu.up
 obtain⟨q1,q2⟩:=LJ hD.right hD.up
 have hz:zW x.files=zW D.files:=by unfold zW;rw[c0,c1]
 have hn1:(dZ x).2≠1:=by rcases r2 with ⟨g, -⟩ | ⟨g, -⟩<;>rw[g]<;>decide
 have hn9:(dZ x).2≠9:=by rcases r2 with ⟨g, -⟩ | ⟨g, -⟩<;>rw[g]<;>decide
 have hw:uF x ⟨gen,lsn⟩=ack x (nmS gen) (yG ⟨gen,lsn⟩):=by
  unfold uF
  rw[if_neg (fun g=>g.elim (fun g=>g hs) hn1),if_neg hn9,if_neg (fun g=>g (by simp only;rw[r1,hz,<-q1];exact hgen))]
 rw[hw]
 have hnm:=aag gen
 have hwl:=ZB ⟨gen,lsn⟩
 generalize yG ⟨gen,lsn⟩=w at hwl ⊢
 have hsl:=hB.ct hG (abh gen) (by rw[abR];decide)
 have hne:jM gen≠nmS gen:=aa3 hG (by rw[abR];decide)
 have s0:Ed D (qN x (nmS gen)).1 b.length 1/\(∀n,n≠nmS gen->dm (qN x (nmS gen)).1.files n=dm x.files n)/\
  (((qN x (nmS gen)).2=0/\(qN x (nmS gen)).1.down=false/\(dm (qN x (nmS gen)).1.files (nmS gen)=none\/dm (qN x (nmS gen)).1.files (nmS gen)=some ⟨nmS gen,[],0⟩))\/
   (P7 D b.length (qN x (nmS gen)).2))/\(dm (qN x (nmS gen)).1.files (nmS gen)=dm x.files (nmS gen)\/dm (qN x (nmS gen)).1.files (nmS gen)=some ⟨nmS gen,[],0⟩):=by
  unfold qN
  cases hg:dm x.files (nmS gen)with
  |none=>rw[if_pos rfl];exact⟨hr,fun _ _=>rfl,.inl ⟨rfl,hu.up,.inl hg⟩,.inl hg⟩
  |some f=>
   rw[if_neg (by intro e;cases e)]
   obtain⟨a1,a2,a3,a4,a5⟩:=ah8 hu hnm hg
   refine⟨hr.pow a1 (by have:=hr.used;omega) (by have:=hr.long;omega),fun n hn=> ?_,?_,?_⟩
   ·by_cases hc:(zY x (nmS gen) 0).2=0
    ·rw[a2 hc,if_neg hn]
    ·rw[a3 hc]
   ·by_cases hc:(zY x (nmS gen) 0).2=0
    ·left;exact⟨hc,(a1.up hc).up,.inr (by rw[a2 hc,if_pos rfl])⟩
    ·right;exact JR hr a1 hc _
   ·by_cases hc:(zY x (nmS gen) 0).2=0
    ·right;rw[a2 hc,if_pos rfl]
    ·left;rw[a3 hc];exact hg
 obtain⟨s1,s2,s3,s4⟩:=s0
 unfold ack
 generalize qN x (nmS gen)=y at s1 s2 s3 s4 ⊢
 have toB:∀z:ak,(∀n,n≠nmS gen->dm z.files n=dm x.files n)->(dm z.files (nmS gen)=dm x.files (nmS gen)\/∃f,dm z.files (nmS gen)=some f/\f.sure=0/\(f.data=[]\/f.data=w))->UX D gen b w z:=fun z g1 g2=>
  ⟨fun n h1 h2 h3=>by rw[g1 n h3];exact hB.oth n h1 h2,by rw[g1 _ hne];exact hB.snap,g2.imp (fun g=>by rw[g,hsl]) id⟩
 have s4':dm y.1.files (nmS gen)=dm x.files (nmS gen)\/∃f,dm y.1.files (nmS gen)=some f/\f.sure=0/\(f.data=[]\/f.data=w):=s4.imp id fun g=>⟨_,g,rfl,.inl rfl⟩
 have s1':Ed D y.1 (b.length+20) 2:=⟨s1.keep,s1.fuse,by have:=s1.used;omega,by have:=s1.long;omega⟩
 rcases s3 with ⟨g0,gw,gs⟩ | gb
 case inr=>
  rw[fM gb.ne,fM gb.ne]
  exact⟨s1',.inr ⟨.inr (toB _ s2 s4'),gb⟩⟩
 rw[then_ok (p:=y) g0]
 have hyu:UpD y.1:=⟨s1.keep.right,gw⟩
 have hold:(dm y.1.files (nmS gen)).getD ⟨nmS gen,[],0⟩=⟨nmS gen,[],0⟩:=by
  rcases gs with g | g<;>rw[g]<;>rfl
 rcases JZ (b:=w) hyu hnm with ⟨a1,a2,a3⟩ | ⟨a1,a2,a3,a4⟩
 ·rw[fM (by rw[a1];decide)]
  refine⟨by rw[a2];exact s1',.inr ⟨.inr (by rw[a2];exact toB _ s2 s4'),.inl ⟨a1,?_⟩⟩⟩
  have:=s1.used;have:=s1.long;have:=s1.keep.room
  rcases a3 with g | ⟨-, g⟩
  ·left;omega
  ·right;omega
 rw[hold]at a2
 simp only[List.nil_append]at a2
 have t1:Ed D (eu y.1 (nmS gen) w).1 (b.length+20) 2:=s1.pow a1 (by have:=s1.used;omega) (by have:=s1.long;omega)
 have t2:∀n,n≠nmS gen->dm (eu y.1 (nmS gen) w).1.files n=dm x.files n:=fun n hn=>by rw[a2,if_neg hn];exact s2 n hn
 have t3:dm (eu y.1 (nmS gen) w).1.files (nmS gen)=some ⟨nmS gen,w,0⟩:=by rw[a2,if_pos rfl]
 by_cases hc:(eu y.1 (nmS gen) w).2=0
 case neg=>
  rw[fM hc]
  exact⟨t1,.inr ⟨.inr (toB _ t2 (.inr ⟨_,t3,rfl,.inr rfl⟩)),JR s1 a1 hc _⟩⟩
 rw[then_ok hc]
 have hzu:=a1.up hc
 obtain⟨b1,b2,b3,b4,b5⟩:=QO hzu hnm t3
 have u1:Ed D (nI (eu y.1 (nmS gen) w).1 (nmS gen)).1 (b.length+20) 2:=t1.pow b1 (by have:=t1.used;omega) (by have:=t1.long;omega)
 refine⟨u1,?_⟩
 by_cases hc2:(nI (eu y.1 (nmS gen) w).1 (nmS gen)).2=0
 ·left
  refine⟨hc2,(b1.up hc2).up,⟨fun n h1 h2 h3=> ?_,?_,?_,fun n h1 h2=> .inr ?_,?_⟩⟩
  ·rw[b2 hc2,if_neg h2,t2 n h2]
   by_cases e:n=jM gen
   ·rw[e,aaw hG]at h3;unfold jZ at hG;omega
   ·exact hB.oth n h1 e
  ·rw[b2 hc2,if_neg hne,t2 _ hne];exact hB.snap
  ·rw[b2 hc2,if_pos rfl]
  ·have hns:n≠nmS gen:=fun e=>h1 (by rw[e];exact agN gen)
   have hnt:n≠iK:=fun e=>h1 (by rw[e];exact agp)
   rw[b2 hc2,if_neg hns,t2 n hns];exact hB.oth n hnt h2
  ·rw[b2 hc2,if_neg (Ne.symm (abh gen)),t2 _ (Ne.symm (abh gen))];exact hB.tmp
 ·right
  exact⟨.inr (toB _ (fun n hn=>by rw[b3 hc2];exact t2 n hn) (.inr ⟨_,by rw[b3 hc2];exact t3,rfl,.inr rfl⟩)),JR t1 b1 hc2 _⟩
theorem ZI {l:List aC} {f:aC} (h:Jp (f::l)):∀g∈l,g.name≠f.name:=fun g hg=>(Ua ((List.pairwise_cons.1 h).1 g hg)).symm
theorem get_mem {l:List aC} (h:Jp l) {f:aC} (hf:f∈l):dm l f.name=some f:=by
 induction l with
 |nil=>cases hf
 |cons g l ih=>
  rw[qg]
  rcases List.mem_cons.1 hf with rfl | hf
  ·rw[if_pos rfl]
  ·rw[if_neg (fun e=>ZI h f hf e.symm)]
   exact ih (List.pairwise_cons.1 h).2 hf
theorem P8 {D:ak} {gen:Int} {b w:List Int} {M K:Nat} (hG:jZ gen):∀(l:List aC) (p:ak×Int),Jp l->(∀f∈l,jy f.name)->Ed D p.1 M K->p.2=0->p.1.down=false->Ju D gen b w p.1->
 (∀f∈l,jD nK f.name≠0->f.name≠jM gen->dm p.1.files f.name≠none)->
 Ed D (lC gen p l).1 M K/\Ju D gen b w (lC gen p l).1/\
 (((lC gen p l).2=0/\(lC gen p l).1.down=false/\(∀f∈l,jD nK f.name≠0->f.name≠jM gen->dm (lC gen p l).1.files f.name=none)/\(∀n,dm p.1.files n=none->dm (lC gen p l).1.files n=none))\/
  ((lC gen p l).2=9/\D.fuse≠ -1))
 |[],p,_,_,hr,h0,hw,hC,_=>⟨hr,hC,.inl ⟨h0,hw,fun f hf=>(by cases hf),fun n h=>h⟩⟩
 |f::l,p,ha,hn,hr,h0,hw,hC,hp=>by
  rw[WA]
  have hal:=(List.pairwise_cons.1 ha).2
  have hnl:∀g∈l,jy g.name:=fun g hg=>hn g (List.mem_cons_of_mem _ hg)
  by_cases hs:jD nK f.name≠0/\f.name≠jM gen
  case neg=>
   have e:xQ gen p f=p:=by unfold xQ;rw[if_neg hs]
   rw[e]
   obtain⟨g1,g2,g3⟩:=P8 hG l p hal hnl hr h0 hw hC (fun g hg=>hp g (List.mem_cons_of_mem _ hg))
   refine⟨g1,g2,g3.imp (fun⟨q1,q2,q3,q4⟩=>⟨q1,q2,fun g hg h1 h2=> ?_,q4⟩) id⟩
   rcases List.mem_cons.1 hg with rfl | hg
   ·exact absurd ⟨h1,h2⟩ hs
   ·exact q3 g hg h1 h2
  have hu:UpD p.1:=⟨hr.keep.right,hw⟩
  have hne:=hp f (List.mem_cons_self ..) hs.1 hs.2
  obtain⟨k,hk⟩:∃k,dm p.1.files f.name=some k:=by
   cases h:dm p.1.files f.name with
   |none=>exact absurd h hne
   |some k=>exact⟨k,rfl⟩
  obtain⟨a1,a2,a3,a4,a5⟩:=JA hu (hn f (List.mem_cons_self ..)) hk
  have e:xQ gen p f=gu p.1 f.name:=by unfold xQ;rw[if_pos hs,then_ok h0]
  rw[e]
  have hr1:Ed D (gu p.1 f.name).1 M K:=hr.pow a1 (by have:=hr.used;omega) (by have:=hr.long;omega)
  have hf0:f.name≠iK:=fun g=>hs.1 (by rw[g];exact agp)
  have hfS:f.name≠nmS gen:=fun g=>hs.1 (by rw[g];exact agN gen)
  by_cases hc:(gu p.1 f.name).2=0
  ·have get:=a2 hc
   have hC1:Ju D gen b w (gu p.1 f.name).1:=by
    refine⟨fun n h1 h2 h3=> ?_,?_,?_,fun n h1 h2=> ?_,?_⟩
    ·rw[get,if_neg (fun g=>hs.1 (by rw[<-g];exact h3))];exact hC.oth n h1 h2 h3
    ·rw[get,if_neg (Ne.symm hs.2)];exact hC.snap
    ·rw[get,if_neg (Ne.symm hfS)];exact hC.slot
    ·rw[get];split
     ·exact .inl rfl
     ·exact hC.olds n h1 h2
    ·rw[get,if_neg (Ne.symm hf0)];exact hC.tmp
   obtain⟨g1,g2,g3⟩:=P8 hG l (gu p.1 f.name) hal hnl hr1 hc (a1.up hc).up hC1 (fun g hg h1 h2=>by
    rw[get,if_neg (ZI ha g hg)]
    exact hp g (List.mem_cons_of_mem _ hg) h1 h2)
   refine⟨g1,g2,g3.imp (fun⟨q1,q2,q3,q4⟩=>⟨q1,q2,fun g hg h1 h2=> ?_,fun n hn2=>q4 n ?_⟩) id⟩
   ·rcases List.mem_cons.1 hg with rfl | hg
    ·exact q4 _ (by rw[get,if_pos rfl])
    ·exact q3 g hg h1 h2
   ·rw[get];split
    ·rfl
    ·exact hn2
  ·rw[Uo hc]
   have get:=a3 hc
   refine⟨hr1,?_,.inr ?_⟩
   ·exact⟨fun n h1 h2 h3=>by rw[get];exact hC.oth n h1 h2 h3,by rw[get];exact hC.snap,by rw[get];exact hC.slot,fun n h1 h2=>by rw[get];exact hC.olds n h1 h2,by rw[get];exact hC.tmp⟩
   ·rcases a1.cases with g | ⟨g,-, g2⟩
    ·exact absurd g hc
    ·exact⟨g,fun hf=>g2 (hr.fuse hf)⟩
structure amS (D:ak) (gen:Int) (b w:List Int) (r:ak×Int×Int):Prop where
 run:Ed D r.1 (b.length+20) 2
 how:(r.2.2=0/\r.2.1=gen/\r.1.down=false/\Ju D gen b w r.1/\∀n,jD nK n≠0->n≠jM gen->dm r.1.files n=none)\/
  (r.2.1=0/\P7 D b.length r.2.2/\(Ci D r.1\/UX D gen b w r.1\/Ju D gen b w r.1))
theorem YR {D:ak} {s:ay} (hD:UpD D) (hs:iL s) (hg:(dZ D).1.gen<1000000000) (hl:0<=s.lsn/\s.lsn<=1000000000):
 amS D ((dZ D).1.gen+1) (encZ s) (yG ⟨(dZ D).1.gen+1,s.lsn⟩) (lU D s):=by
 have hgr:=Oq D
 obtain⟨q1,q2⟩:=LJ hD.right hD.up
 have hn1:(dZ D).2≠1:=by rcases q2 with ⟨g, -⟩ | ⟨g, -⟩<;>rw[g]<;>decide
 have hn9:(dZ D).2≠9:=by rcases q2 with ⟨g, -⟩ | ⟨g, -⟩<;>rw[g]<;>decide
 have hsave:lU D s=VU ((dZ D).1.gen+1) (lC ((dZ D).1.gen+1) (rM D ((dZ D).1.gen+1) s.lsn (encZ s)) (rM D ((dZ D).1.gen+1) s.lsn (encZ s)).1.files):=by
  unfold lU
  rw[if_neg (fun g=>g.elim (fun g=>g hs) hn1),if_neg hn9,if_neg (by omega)]
 rw[hsave]
 have hG:jZ ((dZ D).1.gen+1):=⟨by omega,by omega⟩
 have hsl:Gh ⟨(dZ D).1.gen+1,s.lsn⟩:=⟨hG.1,hG.2,hl.1,hl.2⟩
 have w0:=aog hD (encZ s).length
 have w1:=anL (b:=encZ s) w0.1 w0.2.1 w0.2.2
 have w2:=anz w1.1 w1.2.1 w1.2.2
 have w3:=walk3 hG w2.1 w2.2.1 w2.2.2
 have w4:=walk4 hD hG hsl rfl w3.1 w3.2
 change Ed D (rM D ((dZ D).1.gen+1) s.lsn (encZ s)).1 _ _/\(((rM D ((dZ D).1.gen+1) s.lsn (encZ s)).2=0/\(rM D ((dZ D).1.gen+1) s.lsn (encZ s)).1.down=false/\Ju D _ _ _ (rM D ((dZ D).1.gen+1) s.lsn (encZ s)).1)\/((Ci D (rM D ((dZ D).1.gen+1) s.lsn (encZ s)).1\/UX D _ _ _ (rM D ((dZ D).1.gen+1) s.lsn (encZ s)).1)/\P7 D _ (rM D ((dZ D).1.gen+1) s.lsn (encZ s)).2))at w4
 generalize (dZ D).1.gen+1=gen at hG w4 ⊢
 generalize rM D gen s.lsn (encZ s)=p at w4 ⊢
 generalize encZ s=b at w4 ⊢
 obtain⟨hr,hc⟩:=w4
 rcases hc with ⟨h0,hw,hC⟩ | ⟨hAB,hb⟩
 case inr=>
  rw[Uo hb.ne]
  unfold VU
  rw[if_pos hb.ne]
  exact⟨hr,.inr ⟨rfl,hb,hAB.imp id .inl⟩⟩
 obtain⟨g1,g2,g3⟩:=P8 hG p.1.files p hr.keep.right.asc (fun f hf=>(hr.keep.right.2.1.1 f hf).1) hr h0 hw hC (fun f hf _ _=>by rw[get_mem hr.keep.right.asc hf];intro e;cases e)
 generalize hq:lC gen p p.1.files=q at g1 g2 g3 ⊢
 rcases g3 with ⟨k1,k2,k3,k4⟩ | ⟨k1,k2⟩
 ·unfold VU
  rw[if_neg (fun g=>g k1)]
  refine⟨g1,.inl ⟨rfl,rfl,k2,g2,fun n h1 h2=> ?_⟩⟩
  show dm q.1.files n=none
  cases hp:dm p.1.files n with
  |none=>exact k4 n hp
  |some f=>
   obtain⟨m1,m2⟩:=wZ hp
   have:=k3 f m1 (by rw[m2];exact h1) (by rw[m2];exact h2)
   rwa[m2]at this
 ·unfold VU
  rw[if_pos (by rw[k1];decide)]
  exact⟨g1,.inr ⟨rfl,.inr ⟨k1,k2⟩,.inr (.inr g2)⟩⟩
theorem ag2 {D:ak} {s:ay} (hb:iR D):iR (lU D s).1:=by
 unfold lU
 split
 ·exact hb
 ·split
  ·exact hb
  ·split
   ·exact hb
   ·have:=YP (gen:=(dZ D).1.gen+1) (rM D ((dZ D).1.gen+1) s.lsn (encZ s)).1.files (afp (gen:=(dZ D).1.gen+1) (lsn:=s.lsn) hb (U2 s))
    unfold VU
    split<;>exact this
def rE:Nm:=[108,111,103,46]
def kE (g:Int):Nm:=nV rE g
theorem MF {g:Int} (h:jZ g):kE g=rE++UZ g.toNat:=by
 unfold kE nV UZ
 have:fmt10 g=Fq 20 g.toNat:=by unfold fmt10;rw[if_neg (by have:=h.1;omega)]
 rw[if_neg (by unfold jZ at h;omega),this,List.append_assoc]
theorem ag8 {g:Int} (h:¬jZ g):kE g=[]:=by
 unfold kE nV;rw[if_pos (by unfold jZ at h;omega)]
theorem TY {g:Int} (h:jZ g):(kE g).length=14:=by
 rw[MF h,List.length_append,Rq (by unfold jZ at h;omega)];rfl
theorem EM {g:Int} (h:jZ g):jD rE (kE g)=g:=by
 have hv:g.toNat<=1000000000:=by unfold jZ at h;omega
 have e1:(kE g).take rE.length=rE:=by rw[MF h,List.take_left]
 have e2:(kE g).drop rE.length=UZ g.toNat:=by rw[MF h,List.drop_left]
 unfold jD
 rw[e1,e2,if_pos ⟨rfl,Rq hv,TB _,by rw[Tn hv];exact hv⟩,Tn hv]
 unfold jZ at h;omega
theorem UG {s:Nm} (h:jD rE s≠0):jZ (jD rE s)/\s=kE (jD rE s):=by
 have hc:s.take rE.length=rE/\(s.drop rE.length).length=10/\(∀c∈s.drop rE.length,48<=c/\c<=57)/\qI (s.drop rE.length)<=1000000000:=by
  apply Classical.byContradiction
  intro g;exact h (if_neg g)
 have e:jD rE s=((qI (s.drop rE.length):Nat):Int):=if_pos hc
 obtain⟨h1,h2,h3,h4⟩:=hc
 have hg:jZ (jD rE s):=by rw[e]at h ⊢; unfold jZ;omega
 refine⟨hg,?_⟩
 rw[MF hg,e,Int.toNat_natCast]
 have:=abg h2 h3 (J7 10 _ h2 h3)
 unfold UZ
 rw[this]
 conv=>lhs;rw[<-List.take_append_drop rE.length s,h1]
theorem ahn {g k:Int} (h:jZ g) (hk:jZ k) (e:kE g=kE k):g=k:=by rw[<-EM h,e,EM hk]
theorem Dk {g:Int} (h:jZ g):jy (kE g):=by
 refine⟨?_,by rw[TY h];decide,by rw[TY h];decide⟩
 rw[MF h]
 intro c hc
 rcases List.mem_append.1 hc with k | k
 ·have:∀c∈rE,Na c:=by decide
  exact this c k
 ·exact acQ (TB _ c k)
theorem Xk (g:Int):lJ g=some (kE g):=by
 refine Wq.eq ?_
 unfold lJ
 rw[fP]
 refine⟨fun h=> ?_,fun h=> ?_⟩
 ·simp only[aW,bK,dn,dF,aY,aZ,dA,dB,bP,dJ,bn,bg,dM,dN]at h
  rw[ai,ag8 (by unfold jZ;omega)]
 ·simp only[aW,bK,dn,dF,aY,aZ,dA,dB,bP,dJ,bn,bg,dM,dN]at h
  have hg:jZ g:=⟨by omega,by omega⟩
  have hl:=agH hg
  have ef:iP g 10=some (fmt10 g):=by
   unfold iP abo
   rw[aA (by rw[aW,bn,aW,bP,bP];unfold jZ at hg;exact⟨rfl,by omega,by omega⟩)]
  have ew:wr .i64 (aI 10 (len (fmt10 g)))=((10 - (fmt10 g).length:Nat):Int):=by
   rw[aI,bM (by simp only[len];omega) (by simp only[len];omega)];simp only[len];omega
  have er:jP [(UInt8.ofNat 48)] ((10 - (fmt10 g).length:Nat):Int)=some (List.replicate (10 - (fmt10 g).length) 48):=by
   unfold jP abr
   have e1:len [(UInt8.ofNat 48)]=1:=rfl
   rw[e1,aA (by simp only[aW,bP,fK,Int.one_mul];exact⟨by omega,by omega,by omega⟩),uP,NR];rfl
  rw[ef,ah,ew,er,ah,aA (jo (by simp only[len,ax,List.length_replicate];omega)),aA (jo (by simp only[len,ax,cu,List.length_append,List.length_replicate,List.length_cons,List.length_nil];omega)),ai]
  unfold kE nV
  rw[if_neg (by unfold jZ at hg;omega)];rfl
def Ic (f:iE):Prop:=1<=f.epoch/\f.epoch<=1000000/\1<=f.lsn/\f.lsn<=1000000000/\1<=f.kind/\f.kind<=6
instance (f:iE):Decidable (Ic f):=by unfold Ic;infer_instance
def rowP:List iE->Int->Int->Prop
 |[],_,_=>True
 |f::r,n,e=>Ic f/\f.lsn=n/\e<=f.epoch/\rowP r (f.lsn+1) f.epoch
instance aiU:∀(l:List iE) (n e:Int),Decidable (rowP l n e)
 |[],_,_=>isTrue trivial
 |f::r,n,e=>by
  unfold rowP
  have:=aiU r (f.lsn+1) f.epoch
  infer_instance
theorem Po (f:iE):yL f=some (decide (Ic f)):=by
 refine Wq.dec ?_
 unfold yL Ic
 rw[ai]
 simp only[aW,bK,dn,dF,aY,aZ,dA,dB,bP,dJ,bn,bg,dM,dN]
 omega
theorem aes {l:List iE} {n e:Int} (hl:l.length<999999):JJ l n e=some (decide (rowP l n e)):=by
 refine Wq.dec ?_
 unfold JJ
 refine Wq.bind (Q:=fun w=>match w with | .inl w=>w.1=false/\¬rowP l n e | .inr _=>rowP l n e)
  (lD (n:=l.length) (step:=fun v:Int×Bool×Int×Int=>yF (len l) l v.1 v.2.1 v.2.2.1 v.2.2.2) hl (fun i x=>rowP l n e↔rowP (l.drop i) x.2.1 x.2.2) _ ?_ ?_ _ 0 (Nat.zero_le _) (by simp)) ?_
 ·rintro i ⟨q,a,b⟩ hi hx
  simp only at hx
  simp only[yF]
  rw[aA (by rw[eX];simpa using hi),aA (inb _ i hi),bC _ i hi,Po,ah,fP]
  rw[List.drop_eq_getElem_cons hi,rowP]at hx
  refine⟨fun h=>(ai _).2 ⟨rfl,fun g=> ?_⟩,fun h=>(ai _).2 ⟨dG (by omega),?_⟩⟩
  ·obtain⟨g1,g2,g3, -⟩:=hx.1 g
   simp only[aW,bK,dn,dF,aY,aZ,dA,dB,bP,dJ,bn,bg,dM,dN,decide_eq_false_iff_not]at h
   rcases h with (h | h) | h
   ·exact h g1
   ·exact h g2
   ·omega
  ·simp only[aW,bK,dn,dF,aY,aZ,dA,dB,bP,dJ,bn,bg,dM,dN,decide_eq_true_iff]at h
   obtain⟨⟨h1,h2⟩,h3⟩:=h
   have h1':=h1
   unfold Ic at h1'
   have ew:wr .i64 (ax l[i].lsn 1)=l[i].lsn+1:=by rw[ax,bM (by omega) (by omega)]
   simp only
   rw[ew]
   exact hx.trans ⟨fun g=>g.2.2.2,fun g=>⟨h1,h2,h3,g⟩⟩
 ·rintro⟨q,a,b⟩ hx
  simp only[yF]
  rw[cZ (Nk _),ai]
  rw[List.drop_length]at hx
  exact hx.2 trivial
 ·rintro(w | w) hw
  ·simp only[gX,ai];simp [hw.1,hw.2]
  ·simp only[gX,ai];simp only at hw;simp [hw]
def wV (w:fO):Prop:=(1<=w.epoch/\w.epoch<=1000000)/\(1<=w.next/\w.next<=1000000001)/\(0<=w.sure/\w.sure<w.next)/\w.wait.length<=32/\(w.wait.length:Int)=w.next - 1 - w.sure/\rowP w.wait (w.sure+1) 1/\
 (∀f∈w.wait,f.epoch=w.epoch)/\((w.seg=0/\w.count=0)\/(1<=w.seg/\1<=w.count/\w.count<=8/\w.seg+w.count=w.sure+1))
instance (w:fO):Decidable (wV w):=by unfold wV;infer_instance
structure Aa (w:fO):Prop where
 epoch:inI w.epoch
 next:inI w.next
 sure:inI w.sure
 seg:inI w.seg
 count:inI w.count
 few:w.wait.length<999999
theorem akM {a b c:Int} (h1:0<=c) (h2:c<=1000000000) (ha:inI a) (hb:inI b):(band (band (band (band (ile 1 a) (ile 1 b)) (ile b 8)) (ile a (wr .i64 (ax c 1)))) (ieq (wr .i64 (ax a b)) (wr .i64 (ax c 1)))=true)↔(1<=a/\1<=b/\b<=8/\a+b=c+1):=by
 have e1:wr .i64 (ax c 1)=c+1:=by rw[ax,bM (by omega) (by omega)]
 rw[e1]
 simp only[aW,bK,dn,dF,aY,aZ,dA,dB,bP,dJ,bn,bg,dM,dN,ax]
 constructor
 ·rintro⟨⟨⟨⟨g1,g2⟩,g3⟩,g4⟩,g5⟩
  rw[bM (by omega) (by omega)]at g5
  exact⟨g1,g2,g3,g5⟩
 ·rintro⟨g1,g2,g3,g4⟩
  rw[bM (by omega) (by omega)]
  exact⟨⟨⟨⟨g1,g2⟩,g3⟩,by omega⟩,g4⟩
theorem NP {w:fO} (hw:Aa w):zk w=some (decide (wV w)):=by
 obtain⟨o1,o2,o3,o4,o5,hl⟩:=hw
 refine Wq.dec ?_
 unfold zk
 rw[fP]
 refine⟨fun h=>(ai _).2 ?_,fun h=> ?_⟩
 ·simp only[aW,bK,dn,dF,aY,aZ,dA,dB,bP,dJ,bn,bg,dM,dN]at h
  unfold wV
  constructor
  ·intro g;cases g
  ·rintro⟨g1,g2,g3, -⟩;omega
 simp only[aW,bK,dn,dF,aY,aZ,dA,dB,bP,dJ,bn,bg,dM,dN]at h
 have e1:wr .i64 (aI (wr .i64 (aI w.next 1)) w.sure)=w.next - 1 - w.sure:=by
  rw[aI,aI,bM (n:=w.next - 1) (by omega) (by omega),bM (by omega) (by omega)]
 have e2:wr .i64 (ax w.sure 1)=w.sure+1:=by rw[ax,bM (by omega) (by omega)]
 have hse:=akM (c:=w.sure) (by omega) (by omega) o4 o5
 rw[e1,e2]
 rw[e2]at hse
 have tail:∀(A B:Bool),(A=false->B=false->((∀f∈w.wait,f.epoch=w.epoch)/\(w.wait.length<=32/\(w.wait.length:Int)=w.next - 1 - w.sure/\rowP w.wait (w.sure+1) 1)))->((A=true\/B=true)->¬((∀f∈w.wait,f.epoch=w.epoch)/\(w.wait.length<=32/\(w.wait.length:Int)=w.next - 1 - w.sure/\rowP w.wait (w.sure+1) 1)))->
  Wq (cnd (bor A B) (some false) (cnd (ieq w.seg 0) (some (ieq w.count 0)) (some (band (band (band (band (ile 1 w.seg) (ile 1 w.count)) (ile w.count 8)) (ile w.seg (w.sure+1))) (ieq (wr .i64 (ax w.seg w.count)) (w.sure+1)))))) fun b=>b=true↔wV w:=by
  intro A B h1 h2
  rw[fP]
  refine⟨fun hc=>(ai _).2 ?_,fun hc=> ?_⟩
  ·rw[dn]at hc
   unfold wV
   constructor
   ·intro g;cases g
   ·rintro⟨-, -, -, g4,g5,g6,g7, -⟩
    exact absurd ⟨g7,g4,g5,g6⟩ (h2 hc)
  ·rw[dF]at hc
   obtain⟨k1,k2,k3,k4⟩:=h1 hc.1 hc.2
   rw[fA]
   by_cases hs:w.seg=0
   ·rw[if_pos hs,ai,bn]
    unfold wV
    constructor
    ·intro g;exact⟨by omega,by omega,by omega,k2,k3,k4,k1,.inl ⟨hs,g⟩⟩
    ·rintro⟨-, -, -, -, -, -, -, g⟩
     rcases g with g | g
     ·exact g.2
     ·omega
   ·rw[if_neg hs,ai,hse]
    unfold wV
    constructor
    ·intro g;exact⟨by omega,by omega,by omega,k2,k3,k4,k1,.inr g⟩
    ·rintro⟨-, -, -, -, -, -, -, g⟩
     rcases g with g | g
     ·exact absurd g.1 hs
     ·exact g
 by_cases hA:w.wait.length<=32/\(w.wait.length:Int)=w.next - 1 - w.sure
 case neg=>
  have hAb:bor (ilt 32 (len w.wait)) (au (ieq (len w.wait) (w.next - 1 - w.sure)))=true:=by
   simp only[aW,bK,dn,dF,aY,aZ,dA,dB,bP,dJ,bn,bg,dM,dN,len];omega
  rw[hAb,aJ,aU,ah]
  simp only[vO,aJ,aU]
  exact tail true false (fun g=>by cases g) (fun _ g=>hA ⟨g.2.1,g.2.2.1⟩)
 have hAb:bor (ilt 32 (len w.wait)) (au (ieq (len w.wait) (w.next - 1 - w.sure)))=false:=by
  simp only[aW,bK,dn,dF,aY,aZ,dA,dB,bP,dJ,bn,bg,dM,dN,len];omega
 rw[hAb,bf,aX,aes hl,ah]
 simp only[iw]
 by_cases hr:rowP w.wait (w.sure+1) 1
 case neg=>
  rw[decide_eq_false hr]
  simp only[bf,aJ,aU,vO]
  exact tail true false (fun g=>by cases g) (fun _ g=>hr g.2.2.2)
 rw[decide_eq_true hr]
 simp only[aJ,bf,aX,iw]
 refine Wq.bind (Q:=fun w'=>match w' with | .inl k=>0<=k/\¬∀f∈w.wait,f.epoch=w.epoch | .inr _=>∀f∈w.wait,f.epoch=w.epoch)
  (lD (n:=w.wait.length) (step:=fun v:Int×Int=>dL (len w.wait) w.wait w.epoch w.next w.sure w.seg w.count w.wait v.1 v.2) hl (fun i x=>∀f∈w.wait.take i,f.epoch=w.epoch) _ ?_ ?_ _ 0 (Nat.zero_le _) (by simp)) ?_
 ·rintro i x hi hx
  simp only[dL]
  rw[aA (by rw[eX];simpa using hi),aA (inb _ i hi),bC _ i hi,fD,fA]
  split
  ·rename_i g
   refine(ai _).2 ⟨dG (by omega),?_⟩
   rw[kN hi]
   intro f hf
   rcases List.mem_append.1 hf with c | c
   ·exact hx f c
   ·rw[List.mem_singleton.1 c];exact g
  ·rename_i g
   exact(ai _).2 ⟨by omega,fun k=>g (k _ (List.getElem_mem hi))⟩
 ·rintro x hx
  simp only[dL]
  rw[cZ (Nk _),ai]
  rwa[List.take_length]at hx
 ·rintro(k | k) hk
  ·simp only[gX]
   have:=tail false (ile 0 k) (fun _ g=>by rw[dJ]at g;have:=hk.1;omega) (fun _ g=>hk.2 g.1)
   simpa only[iw] using this
  ·simp only[gX]
   exact tail false false (fun _ _=>⟨hk,hA.1,hA.2,hr⟩) (fun g=>by rcases g with g | g<;>cases g)
theorem aly (s:Nm):0<=jD rE s:=by unfold jD;split<;>omega
theorem RD (s:Nm):Es s=some (jD rE s):=rfl
def Bg (l:List aC):List Int:=(l.map fun f=>jD rE f.name).filter fun n=>decide (0<n)
def aln (d:ak):List Int:=if gq d then Bg d.files else []
theorem ahI (a b:List aC):Bg (a++b)=Bg a++Bg b:=by simp [Bg]
theorem agQ (f:aC):Bg [f]=if 0<jD rE f.name then [jD rE f.name]else []:=by
 unfold Bg;by_cases h:0<jD rE f.name<;>simp [h]
theorem aaN (l:List aC):(Bg l).length<=l.length:=by
 unfold Bg;exact Nat.le_trans (List.length_filter_le ..) (by simp)
theorem Xn {d:ak} (hn:nameB d):AP d=some (aln d):=by
 refine Wq.eq ?_
 unfold AP aln
 rw[Aj hn,ah,fD,zx]
 by_cases hd:gq d
 case neg=>rw[if_neg hd,ai,if_neg hd]
 rw[if_pos hd,if_pos hd]
 have hl:=hd.fl
 refine Wq.bind (lD (n:=d.files.length) (step:=fun v:Int×List Int=>pI (len d.files) d.files v.1 v.2) (by omega) (fun i x=>x=Bg (d.files.take i)) (fun w=>w=Bg d.files) ?_ ?_ _ 0 (Nat.zero_le _) (by simp [Bg])) fun w hw=>(ai _).2 hw
 ·rintro i x hi rfl
  simp only[pI]
  have h1:=aaN (d.files.take i)
  rw[List.length_take]at h1
  rw[aA (by rw[eX];simpa using hi),aA (inb _ i hi),bC _ i hi,RD,ah,ES,aA (jo (by simp only[len,cu,List.length_append,List.length_singleton];omega)),kN hi,ahI,agQ]
  split
  ·rw[ai];exact⟨dG (by omega),rfl⟩
  ·rw[ai];exact⟨dG (by omega),by simp⟩
 ·rintro x rfl
  simp only[pI]
  rw[cZ (Nk _),ai,List.take_length]
def nC (w:fO) (d:ak):Prop:=wV w/\gq d/\(∀f∈d.files,jD rE f.name<=w.sure)/\(w.seg=0\/∃f,dm d.files (kE w.seg)=some f/\(f.data.length:Int)=w.count*72)
theorem Rl {d:ak} (ha:Jp d.files) {g:Int} (hg:jZ g) {f:aC} (hf:f∈d.files):jD rE f.name=g↔dm d.files (kE g)=some f:=by
 constructor
 ·intro h
  have hne:jD rE f.name≠0:=by rw[h];unfold jZ at hg;omega
  have:=(UG hne).2
  rw[h]at this
  rw[<-this]
  exact get_mem ha hf
 ·intro h
  rw[(wZ h).2,EM hg]
theorem wV.seg {w:fO} (h:wV w) (hs:w.seg≠0):jZ w.seg/\w.seg<=w.sure/\1<=w.count/\w.count<=8/\w.seg+w.count=w.sure+1:=by
 obtain⟨-, h2,h3,-, -, -, -, h8⟩:=h
 rcases h8 with h8 | h8
 ·exact absurd h8.1 hs
 ·exact⟨⟨h8.1,by omega⟩,by omega,h8.2.1,h8.2.2.1,h8.2.2.2⟩
open Classical in
theorem Xr {w:fO} {d:ak} (hw:Aa w) (hn:nameB d):FK w d=some (decide (nC w d)):=by
 refine Wq.dec ?_
 unfold FK
 rw[NP hw,ah]
 by_cases hp:wV w
 case neg=>
  rw[decide_eq_false hp]
  simp only[bf,aJ,aU,ah,vO,aX]
  rw[ai]
  exact⟨fun g=>(by cases g),fun g=>absurd g.1 hp⟩
 rw[decide_eq_true hp,aJ,bf,aX,Aj hn,ah,iw,fD,zx]
 by_cases hd:gq d
 case neg=>
  rw[if_neg hd,ai]
  exact⟨fun g=>(by cases g),fun g=>absurd g.2.1 hd⟩
 rw[if_pos hd]
 have hl:=hd.fl
 have hus:=hd.us
 have esz:∀f∈d.files,(f.data.length:Int)<=65536:=fun f hf=>by
  obtain⟨j,hj,rfl⟩:=List.mem_iff_getElem.1 hf
  have:=yX hj
  have:=Gl d.files (j+1)
  omega
 have ecnt:wr .i64 (fK w.count 72)=w.count*72:=by
  have:=hp.2.2.2.2.2.2.2
  rw[fK,bM (by omega) (by omega)]
 refine Wq.bind (Q:=fun x=>match x with
  |.inl b=>b=false/\¬∀f∈d.files,jD rE f.name<=w.sure
  |.inr x=>(∀f∈d.files,jD rE f.name<=w.sure)/\(x.1=true↔(w.seg=0\/∃f∈d.files,w.seg≠0/\jD rE f.name=w.seg/\(f.data.length:Int)=w.count*72)))
  (lD (n:=d.files.length) (step:=fun v:Int×Bool×Bool=>wQ (len d.files) d.files w v.1 v.2.1 v.2.2) (by omega)
    (fun i x=>(∀f∈d.files.take i,jD rE f.name<=w.sure)/\(x.1=true↔(w.seg=0\/∃f∈d.files.take i,w.seg≠0/\jD rE f.name=w.seg/\(f.data.length:Int)=w.count*72))) _ ?_ ?_ _ 0 (Nat.zero_le _) ⟨by simp,by simp only[bn,List.take_zero];simp⟩) ?_
 ·rintro i ⟨v,q⟩ hi ⟨h1,h2⟩
  simp only at h2
  simp only[wQ]
  have hnn:=aly d.files[i].name
  rw[aA (by rw[eX];simpa using hi),aA (inb _ i hi),bC _ i hi,RD,ah,ecnt,fP]
  refine⟨fun hc=>(ai _).2 ⟨dG (by omega),?_,?_⟩,fun hc=> ?_⟩
  ·simp only[aW,bK,dn,dF,aY,aZ,dA,dB,bP,dJ,bn,bg,dM,dN]at hc
   have hs:=hp.seg (by omega)
   rw[kN hi]
   intro f hf
   rcases List.mem_append.1 hf with c | c
   ·exact h1 f c
   ·rw[List.mem_singleton.1 c];omega
  ·simp only[aW,bK,dn,dF,aY,aZ,dA,dB,bP,dJ,bn,bg,dM,dN]at hc
   have hs:=hp.seg (by omega)
   have hsz:w.seg≠0:=by omega
   simp only
   rw[bn,kN hi]
   constructor
   ·intro g
    exact .inr ⟨d.files[i],List.mem_append_right _ (List.mem_singleton.2 rfl),hsz,hc.2,g⟩
   ·rintro(g | ⟨f,hf,-, g2,g3⟩)
    ·exact absurd g hsz
    ·have hfm:f∈d.files:=by
      rcases List.mem_append.1 hf with c | c
      ·exact List.mem_of_mem_take c
      ·rw[List.mem_singleton.1 c];exact List.getElem_mem hi
     have e1:=(Rl hd.asc hs.1 hfm).1 g2
     have e2:=(Rl hd.asc hs.1 (List.getElem_mem hi)).1 hc.2
     rw[e1]at e2
     rw[<-Option.some.inj e2];exact g3
  ·rw[fP]
   refine⟨fun hc2=>(ai _).2 ⟨rfl,fun g=> ?_⟩,fun hc2=>(ai _).2 ⟨dG (by omega),?_,?_⟩⟩
   ·simp only[aW,bK,dn,dF,aY,aZ,dA,dB,bP,dJ,bn,bg,dM,dN]at hc2
    have:=g _ (List.getElem_mem hi)
    omega
   ·simp only[aW,bK,dn,dF,aY,aZ,dA,dB,bP,dJ,bn,bg,dM,dN]at hc2
    rw[kN hi]
    intro f hf
    rcases List.mem_append.1 hf with c | c
    ·exact h1 f c
    ·rw[List.mem_singleton.1 c];exact hc2
   ·simp only[aW,bK,dn,dF,aY,aZ,dA,dB,bP,dJ,bn,bg,dM,dN]at hc hc2
    simp only
    rw[h2,kN hi]
    constructor
    ·rintro(g | ⟨f,hf,g⟩)
     ·exact .inl g
     ·exact .inr ⟨f,List.mem_append_left _ hf,g⟩
    ·rintro(g | ⟨f,hf,g1,g2,g3⟩)
     ·exact .inl g
     ·rcases List.mem_append.1 hf with c | c
      ·exact .inr ⟨f,c,g1,g2,g3⟩
      ·rw[List.mem_singleton.1 c]at g2
       have hs:=hp.seg g1
       have:=hs.1.1
       omega
 ·rintro⟨v,q⟩ ⟨h1,h2⟩
  simp only[wQ]
  rw[cZ (Nk _),ai]
  rw[List.take_length]at h1 h2
  exact⟨h1,h2⟩
 ·rintro(x | x) hx
  ·simp only[gX,ai]
   simp only at hx
   rw[hx.1]
   exact⟨fun g=>(by cases g),fun g=>absurd g.2.2.1 hx.2⟩
  ·simp only[gX,ai]
   simp only at hx
   rw[hx.2]
   unfold nC
   constructor
   ·rintro(g | ⟨f,hf,g1,g2,g3⟩)
    ·exact⟨hp,hd,hx.1,.inl g⟩
    ·exact⟨hp,hd,hx.1,.inr ⟨f,(Rl hd.asc (hp.seg g1).1 hf).1 g2,g3⟩⟩
   ·rintro⟨-, -, -, g | ⟨f,g1,g2⟩⟩
    ·exact .inl g
    ·by_cases hs:w.seg=0
     ·exact .inl hs
     ·exact .inr ⟨f,(wZ g1).1,hs,(Rl hd.asc (hp.seg hs).1 (wZ g1).1).2 g1,g2⟩
def MZ (f:iE):List Int:=mG 72 4++mG f.epoch 4++mG f.lsn 8++mG f.kind 4++mG f.b0 8++mG f.b1 8++mG f.b2 8++mG f.b3 8++mG f.b4 8++mG f.b5 8
def UE (f:iE):List Int:=MZ f++vW (zI (MZ f))
theorem QI (f:iE):(MZ f).length=68:=by simp [MZ,pq]
theorem aeZ (f:iE):(UE f).length=72:=by simp [UE,QI,vW]
theorem Vo (f:iE):jq (MZ f):=by
 unfold MZ
 exact((((((((((mO _ _).app (mO _ _)).app (mO _ _)).app (mO _ _)).app (mO _ _)).app (mO _ _)).app (mO _ _)).app (mO _ _)).app (mO _ _)).app (mO _ _))
theorem acS (f:iE):jq (UE f):=(Vo f).app (Qd _)
theorem anQ (n:Int) {j:Nat} (hj:j<8):bJ .u64 n ((8*j:Nat):Int)=n / 256^j:=by
 have h2:min (((8*j:Nat):Int).toNat) (IntKind.bits .u64)=8*j:=by
  simp only[IntKind.bits,Int.toNat_natCast];omega
 unfold bJ
 rw[h2,Int.pow_mul,Int.fdiv_eq_ediv_of_nonneg _ (Int.le_of_lt (Int.pow_pos (by decide)))]
 rfl
theorem amy {n:Int} {i:Nat} (hi:i<8):ile 0 (wr .i64 (fK 8 (i:Int)))=true/\wr .u8 (bJ .u64 (wr .u64 n) (wr .i64 (fK 8 (i:Int))))=n / 256^i%256:=by
 have h1:wr .i64 (fK 8 (i:Int))=((8*i:Nat):Int):=by
  unfold fK
  rw[bM (by omega) (by omega)];omega
 rw[h1,anQ _ hi,agq,Ak]
 exact⟨jo (by omega),ai4 n hi⟩
theorem ain {n:Int} {acc:List Int} (k:Nat) (hk:k<=8) (hl:acc.length<1000000):bV (fun v:Int×List Int=>aK (wr .u64 n) v.1 v.2) LF ((k:Int) - 1,acc)=some (acc++mG n k):=by
 refine Wq.eq (aj7 (n:=k) (by omega) (fun i x=>x++mG n i=acc++mG n k/\x.length+i=acc.length+k) _ (fun i x hi hj=> ?_) (fun x hj=> ?_) acc ⟨rfl,rfl⟩)
 ·obtain⟨h1,h2⟩:=amy (n:=n) (i:=i) (by omega)
  simp only
  unfold aK
  rw[h2,aA (jo (by omega)),aA h1,aA (TR (n:=1000100) (by simp only[cu,List.length_append,List.length_cons,List.length_nil];omega) (by decide)),ai]
  refine⟨abN (by omega),?_,?_⟩
  ·rw[<-hj.1]
   show(x++[_])++mG n i=x++(_::mG n i)
   rw[List.append_assoc];rfl
  ·simp only[cu,List.length_append,List.length_cons,List.length_nil];omega
 ·simp only
  unfold aK
  rw[cZ (KO (by omega)),ai]
  have:=hj.1
  simpa [mG] using this
theorem aeP (c:Int):[wr .u8 c,wr .u8 (bJ .u32 c 8),wr .u8 (bJ .u32 c 16),wr .u8 (bJ .u32 c 24)]=vW c:=by
 have t1:wr .u8 (bJ .u32 c 8)=c / 256^1%256:=(LD (n:=c) (i:=1) (by decide)).2
 have t2:wr .u8 (bJ .u32 c 16)=c / 256^2%256:=(LD (n:=c) (i:=2) (by decide)).2
 have t3:wr .u8 (bJ .u32 c 24)=c / 256^3%256:=(LD (n:=c) (i:=3) (by decide)).2
 rw[t1,t2,t3,agq];rfl
theorem WO {f:iE} (h:Ic f):Ae f=some (UE f,0):=by
 refine Wq.eq ?_
 unfold Ae
 rw[Po,decide_eq_true h,ah,aJ,aU]
 have p4:=fun(n:Int) (acc:List Int) (hl:acc.length<1000000)=>ain (n:=n) (acc:=acc) 4 (by decide) hl
 have p8:=fun(n:Int) (acc:List Int) (hl:acc.length<1000000)=>ain (n:=n) (acc:=acc) 8 (by decide) hl
 have c4:((4:Nat):Int) - 1=3:=rfl
 have c8:((8:Nat):Int) - 1=7:=rfl
 simp only[c4]at p4
 simp only[c8]at p8
 have e72:(72:Int)=wr .u64 72:=rfl
 have L1:jS=aK:=rfl
 have L2:jG=aK:=rfl
 have L3:jH=aK:=rfl
 have L4:jF=aK:=rfl
 have L5:jr=aK:=rfl
 have L6:jC=aK:=rfl
 have L7:jE=aK:=rfl
 have L8:jw=aK:=rfl
 have L9:jB=aK:=rfl
 have q72:bV (fun v:Int×List Int=>aK 72 v.1 v.2) LF (3,[])=some ([]++mG 72 4):=p4 72 [] (by simp)
 rw[L1,L2,L3,L4,L5,L6,L7,L8,L9,q72,ah,p4 _ _ (by simp [pq]),ah,p8 _ _ (by simp [pq]),ah,p4 _ _ (by simp [pq]),ah,p8 _ _ (by simp [pq]),ah,p8 _ _ (by simp [pq]),ah,p8 _ _ (by simp [pq]),ah,p8 _ _ (by simp [pq]),ah,p8 _ _ (by simp [pq]),ah,p8 _ _ (by simp [pq]),ah]
 have eH:[]++mG 72 4++mG f.epoch 4++mG f.lsn 8++mG f.kind 4++mG f.b0 8++mG f.b1 8++mG f.b2 8++mG f.b3 8++mG f.b4 8++mG f.b5 8=MZ f:=by unfold MZ;rw[List.nil_append]
 rw[eH,ZL (by rw[QI];decide) (Vo f),ah,aeP,aA (TR (n:=1000) (by simp [cu,QI,vW]) (by decide)),ai]
 rfl
def rowB (l:List iE):List Int:=l.flatMap UE
theorem YF (l:List iE):(rowB l).length=72*l.length:=flat_length aeZ l
theorem ahP (l:List iE):jq (rowB l):=CB fun x _=>acS x
theorem aj3 (a b:List iE):rowB (a++b)=rowB a++rowB b:=by simp [rowB]
theorem aeu {l:List iE} (hl:l.length<1000) (h:∀f∈l,Ic f):Cm l=some (rowB l,0):=by
 refine Wq.eq ?_
 unfold Cm
 refine Wq.bind (Q:=fun w=>match w with | .inl _=>False | .inr w=>w.1=rowB l)
  (lD (n:=l.length) (step:=fun v:Int×List Int×Int×List Int=>yM (len l) l v.1 v.2.1 v.2.2.1 v.2.2.2) (by omega) (fun i x=>x.1=rowB (l.take i)) _ ?_ ?_ _ 0 (Nat.zero_le _) (by simp [rowB])) ?_
 ·rintro i ⟨b,e,z⟩ hi hx
  simp only at hx
  subst hx
  simp only[yM]
  have hbl:=YF (l.take (i+1))
  rw[List.length_take]at hbl
  rw[aA (by rw[eX];simpa using hi),aA (inb _ i hi),bC _ i hi,WO (h _ (List.getElem_mem hi)),ah]
  have eb:cu (rowB (l.take i)) (UE l[i])=rowB (l.take (i+1)):=by rw[kN hi,aj3];simp [cu,rowB]
  simp only[o7,aJ,aU]
  rw[eb,aA (TR (n:=72000) (by omega) (by decide)),ai]
  exact⟨dG (by omega),rfl⟩
 ·rintro⟨b,e,z⟩ hx
  simp only at hx
  simp only[yM]
  rw[cZ (Nk _),ai]
  rwa[List.take_length]at hx
 ·rintro(w | w) hw
  ·exact hw.elim
  ·simp only[gX,ai];simp only at hw;rw[hw]
def yc (w:fO):Int×Int:=if w.seg=0\/w.count=8 then (w.sure+1,0)else (w.seg,w.count)
def lY (w:fO):Nat:=min w.wait.length (8 - (yc w).2).toNat
def wR (w:fO):fO:=⟨w.epoch,w.next,w.sure+(lY w:Int),(yc w).1,(yc w).2+(lY w:Int),w.wait.drop (lY w)⟩
def writeW (w:fO) (d:ak):ak×Int:=jV (eu d (kE (yc w).1) (rowB (w.wait.take (lY w)))) fun d=>nI d (kE (yc w).1)
def uH:Nat->fO->ak->fO×ak×Int
 |0,w,d=>(w,d,0)
 |k+1,w,d=>if w.wait=[]then (w,d,0)else if (writeW w d).2≠0 then (w,(writeW w d).1,(writeW w d).2)else uH k (wR w) (writeW w d).1
open Classical in
noncomputable def dV (w:fO) (d:ak):fO×ak×Int:=if nC w d then uH 40 w d else (w,d,1)
theorem ad4:∀ {l:List iE} {n e:Int},rowP l n e->∀f∈l,Ic f
 |[],_,_,_,f,hf=>by cases hf
 |g::l,n,e,h,f,hf=>by
  unfold rowP at h
  rcases List.mem_cons.1 hf with rfl | hf
  ·exact h.1
  ·exact ad4 h.2.2.2 f hf
theorem aaB:∀ {l:List iE} {n e:Int} (k:Nat),k<=l.length->rowP l n e->rowP (l.drop k) (n+k) 1
 |l,n,e,0,_,h=>by
  rw[List.drop_zero,Int.natCast_zero,Int.add_zero]
  cases l with
  |nil=>trivial
  |cons f r=>unfold rowP at h ⊢; exact⟨h.1,h.2.1,h.1.1,h.2.2.2⟩
 |[],n,e,k+1,hk,h=>by simp at hk
 |f::r,n,e,k+1,hk,h=>by
  unfold rowP at h
  rw[List.drop_succ_cons]
  have:=aaB k (by simp at hk;omega) h.2.2.2
  rw[show n+((k+1:Nat):Int)=f.lsn+1+(k:Int) by rw[h.2.1];omega]
  exact this
theorem Ri {w:fO} (hw:wV w) (hne:w.wait≠[]):jZ (yc w).1/\0<=(yc w).2/\(yc w).2<=7/\(yc w).1+(yc w).2=w.sure+1:=by
 obtain⟨h1,h2,h3,h4,h5,h6,h7,h8⟩:=hw
 have hl:0<w.wait.length:=List.length_pos_iff.2 hne
 unfold yc jZ
 split
 ·simp only;omega
 ·rename_i h
  simp only
  rcases h8 with h8 | h8<;>omega
theorem MB {w:fO} (hw:wV w) (hne:w.wait≠[]):1<=lY w/\lY w<=w.wait.length/\(lY w:Int)<=8 - (yc w).2/\(lY w:Int)=jm (len w.wait) (8 - (yc w).2):=by
 obtain⟨-, g1,g2, -⟩:=Ri hw hne
 have hl:0<w.wait.length:=List.length_pos_iff.2 hne
 have hl2:len w.wait=(w.wait.length:Int):=rfl
 rw[agD]
 unfold lY
 refine⟨by omega,by omega,by omega,?_⟩
 by_cases h:8 - (yc w).2<len w.wait
 ·rw[if_pos h];omega
 ·rw[if_neg h];omega
theorem X0 {w:fO} (hw:wV w) (hne:w.wait≠[]):wV (wR w):=by
 obtain⟨g0,g1,g2,g3⟩:=Ri hw hne
 obtain⟨t1,t2,t3, -⟩:=MB hw hne
 obtain⟨h1,h2,h3,h4,h5,h6,h7,h8⟩:=hw
 unfold jZ at g0
 have hr:=aaB (lY w) t2 h6
 refine⟨h1,h2,⟨?_,?_⟩,?_,?_,?_,?_,.inr ⟨g0.1,?_,?_,?_⟩⟩
 ·simp only[wR];omega
 ·simp only[wR];omega
 ·simp only[wR,List.length_drop];omega
 ·simp only[wR,List.length_drop];omega
 ·simp only[wR]
  rw[show w.sure+(lY w:Int)+1=w.sure+1+(lY w:Int) by omega]
  exact hr
 ·intro f hf
  exact h7 f (List.mem_of_mem_drop hf)
 ·simp only[wR];omega
 ·simp only[wR];omega
 ·simp only[wR];omega
theorem Vd {w:fO} {d:ak} (h:gq d):Keep d (writeW w d).1:=zG (rU h) fun e he=>EQ he
theorem ad1 {w:fO} {d:ak} (h:iR d):iR (writeW w d).1:=zD (DJ h (ahP _)) fun e he=>Iy he
theorem aaD {l:List iE} (h:l.length<1000000):dI l=some l:=by unfold dI;exact lW h
abbrev CmR:=(Int×ak×fO×ak×fO) ⊕ ((Int×ak×fO×ak×fO) ⊕ (Int×ak×fO×ak×fO))
theorem ajw {w:fO} {d:ak} (hw:wV w) (hne:w.wait≠[]) (hd:Gw d) (hdp:gq d) (v0:Int) (v1:ak) (v2:fO) {N S C T:Int} (hN:N=(lY w:Int)) (hS:S=(yc w).1) (hC:C=(yc w).2+(lY w:Int)) (hT:T=w.sure+(lY w:Int)):
 Wq (cnd (band (ile 0 N) (ile N (len w.wait))) (af (Cm (aG w.wait (itn N))) fun y0=>af (lJ S) fun y1=>af (iG d y1 y0.1) fun y2=>cnd (ieq y2.2 0) (af (lJ S) fun y3=>af (jh y2.1 y3) fun y4=>cnd (au (ieq y4.2 0)) (some (Sum.inr (Sum.inl (y4.2,y4.1,w,y4.1,w)))) (cnd (band (ile 0 N) (ile N (len w.wait))) (af (dI (aV w.wait (itn N))) fun y5=>some (Sum.inl (v0,v1,v2,y4.1,fO.mk w.epoch w.next T S C y5))) none)) (cnd (au (ieq y2.2 0)) (some (Sum.inr (Sum.inl (y2.2,y2.1,w,y2.1,w)))) (cnd (band (ile 0 N) (ile N (len w.wait))) (af (dI (aV w.wait (itn N))) fun y6=>some (Sum.inl (v0,v1,v2,y2.1,fO.mk w.epoch w.next T S C y6))) none))) none)
  fun x:CmR=>x=if (writeW w d).2≠0 then Sum.inr (Sum.inl ((writeW w d).2,(writeW w d).1,w,(writeW w d).1,w))else Sum.inl (v0,v1,v2,(writeW w d).1,wR w):=by
 obtain⟨g0,g1,g2,g3⟩:=Ri hw hne
 obtain⟨t1,t2,t3, -⟩:=MB hw hne
 subst hN hS hC hT
 have hin:band (ile 0 (lY w:Int)) (ile (lY w:Int) (len w.wait))=true:=DW (jo (by omega)) (jo (by simp only[len];omega))
 have hfr:=ad4 hw.2.2.2.2.2.1
 have hlen:=hw.2.2.2.1
 have hn:=Dk g0
 rw[uP,aA hin,show aG w.wait (lY w)=w.wait.take (lY w)from rfl,aeu (by rw[List.length_take];omega) (fun f hf=>hfr f (List.mem_of_mem_take hf)),ah,Xk]
 change Wq (af (some (kE (yc w).1)) _) _
 have hbl:=YF (w.wait.take (lY w))
 rw[List.length_take]at hbl
 rw[ah,Q7 hd hn.len (by simp only;omega),ah,fA]
 unfold writeW
 simp only
 by_cases h0:(eu d (kE (yc w).1) (rowB (w.wait.take (lY w)))).2=0
 ·have hk:=rU (n:=kE (yc w).1) (b:=rowB (w.wait.take (lY w))) hdp
  rw[if_pos h0,ah,abl (hk.bnd hd.fu) hn.len,ah,fD,fA,then_ok h0]
  by_cases h1:(nI (eu d (kE (yc w).1) (rowB (w.wait.take (lY w)))).1 (kE (yc w).1)).2=0
  ·rw[if_pos h1,aA hin,show aV w.wait (lY w)=w.wait.drop (lY w)from rfl,aaD (by rw[List.length_drop];omega),ah,ai,if_neg (fun g=>g h1)]
   rfl
  ·rw[if_neg h1,ai,if_pos h1]
 ·rw[if_neg h0,fD,fA,if_neg h0,ai,fM h0,if_pos h0]
theorem abk {w:fO} (h:wV w):Aa w:=by
 obtain⟨h1,h2,h3,h4,h5,h6,h7,h8⟩:=h
 refine⟨⟨by omega,by omega⟩,⟨by omega,by omega⟩,⟨by omega,by omega⟩,?_,?_,by omega⟩<;>unfold inI<;>rcases h8 with h8 | h8<;>omega
theorem aeQ (k:Nat) {w:fO} {d:ak} (h:w.wait=[]):uH k w d=(w,d,0):=by
 cases k with
 |zero=>rfl
 |succ k=>rw[uH,if_pos h]
theorem ab8 {w:fO} {d:ak} (hw:Aa w) (hd:Gw d):Eo w d=some (dV w d):=by
 classical
 refine Wq.eq ?_
 unfold Eo dV
 rw[Xr hw hd.nm,ah,fD,zx]
 by_cases hf:nC w d
 case neg=>rw[if_neg hf,ai,if_neg hf]
 rw[if_pos hf,if_pos hf]
 refine Wq.bind (Q:=fun x:(Int×ak×fO×ak×fO) ⊕ (Int×ak×fO×ak×fO)=>match x with
  |.inl x=>uH 40 w d=(x.2.2.1,x.2.1,x.1)
  |.inr x=>uH 40 w d=(x.2.2.2.2,x.2.2.2.1,0))
  (Xt (step:=fun v:Int×ak×fO×ak×fO=>yR v.1 v.2.1 v.2.2.1 v.2.2.2.1 v.2.2.2.2)
    (fun v=>v.2.2.2.2.wait.length)
    (fun v=>wV v.2.2.2.2/\gq v.2.2.2.1/\inI v.2.2.2.1.fuse/\∃k,v.2.2.2.2.wait.length<=k/\uH 40 w d=uH k v.2.2.2.2 v.2.2.2.1) _ ?_ LF _ (acL (by have:=hf.1.2.2.2.1;simp only;omega)) ⟨hf.1,hf.2.1,hd.fu,40,by have:=hf.1.2.2.2.1;simp only;omega,rfl⟩) ?_
 ·rintro⟨v0,v1,v2,e,u⟩ ⟨hu,he,hfu,k,hk,hkk⟩
  simp only at hu he hfu hk hkk
  simp only[yR]
  rw[ES]
  by_cases hz:0<len u.wait
  case neg=>
   have hnil:u.wait=[]:=List.eq_nil_of_length_eq_zero (by simp only[len]at hz;omega)
   rw[if_neg hz,ai]
   simp only
   rw[hkk,aeQ k hnil]
  have hne:u.wait≠[]:=fun h=>by rw[h]at hz;simp [len]at hz
  rw[if_pos hz]
  obtain⟨s0,s1,s2,s3⟩:=Ri hu hne
  obtain⟨t1,t2,t3,t4⟩:=MB hu hne
  have hsure:=hu.2.2.1
  have hnx:=hu.2.1
  have e1:wr .i64 (ax u.sure 1)=u.sure+1:=by rw[ax,bM (by omega) (by omega)]
  obtain⟨k,rfl⟩:∃j,k=j+1:=⟨k - 1,by have:=List.length_pos_iff.2 hne;omega⟩
  have hk2:uH (k+1) u e=if (writeW u e).2≠0 then (u,(writeW u e).1,(writeW u e).2)else uH k (wR u) (writeW u e).1:=by rw[uH,if_neg hne]
  rw[hk2]at hkk
  have hkw:=Vd (w:=u) he
  rw[fP]
  refine⟨fun hc=> ?_,fun hc=> ?_⟩
  ·have hseg:yc u=(u.sure+1,0):=by unfold yc;simp only[aW,bK,dn,dF,aY,aZ,dA,dB,bP,dJ,bn,bg,dM,dN]at hc;rw[if_pos hc]
   rw[hseg]at t3 t4 s0 s3
   have e8:jm (len u.wait) 8=(lY u:Int):=by rw[t4];rfl
   rw[e8,e1]
   have e9:wr .i64 (ax u.sure (lY u:Int))=u.sure+(lY u:Int):=by rw[ax,bM (by omega) (by omega)]
   have e10:wr .i64 (ax 0 (lY u:Int))=(lY u:Int):=by rw[ax,bM (by omega) (by omega)];omega
   rw[e9,e10]
   refine(ajw hu hne (he.bnd hfu) he v0 v1 v2 rfl (by rw[hseg]) (by rw[hseg];simp) rfl).mono fun x hx=> ?_
   rw[hx]
   by_cases hwz:(writeW u e).2≠0
   ·rw[if_pos hwz]at hkk ⊢
    exact hkk
   ·rw[if_neg hwz]at hkk ⊢
    exact⟨⟨X0 hu hne,hkw.right,(hkw.bnd hfu).fu,k,by simp only[wR,List.length_drop];omega,hkk⟩,by simp only[wR,List.length_drop];omega⟩
  ·have hseg:yc u=(u.seg,u.count):=by unfold yc;simp only[aW,bK,dn,dF,aY,aZ,dA,dB,bP,dJ,bn,bg,dM,dN]at hc;rw[if_neg (by omega)]
   rw[hseg]at t3 t4 s0 s1 s2 s3
   simp only at s1 s2
   have e8:wr .i64 (aI 8 u.count)=8 - u.count:=by rw[aI,bM (by omega) (by omega)]
   have e8':jm (len u.wait) (8 - u.count)=(lY u:Int):=by rw[t4]
   rw[e8,e8']
   have e9:wr .i64 (ax u.sure (lY u:Int))=u.sure+(lY u:Int):=by rw[ax,bM (by omega) (by omega)]
   have e10:wr .i64 (ax u.count (lY u:Int))=u.count+(lY u:Int):=by rw[ax,bM (by omega) (by omega)]
   rw[e9,e10]
   refine(ajw hu hne (he.bnd hfu) he v0 v1 v2 rfl (by rw[hseg]) (by rw[hseg]) rfl).mono fun x hx=> ?_
   rw[hx]
   by_cases hwz:(writeW u e).2≠0
   ·rw[if_pos hwz]at hkk ⊢
    exact hkk
   ·rw[if_neg hwz]at hkk ⊢
    exact⟨⟨X0 hu hne,hkw.right,(hkw.bnd hfu).fu,k,by simp only[wR,List.length_drop];omega,hkk⟩,by simp only[wR,List.length_drop];omega⟩
 ·rintro(x | x) hx
  ·simp only[gX,ai];simp only at hx;exact hx.symm
  ·simp only[gX,ai];simp only at hx;exact hx.symm
open Classical in
noncomputable def O0 (w:fO) (k:Int) (b:SA6):fO×Int:=
 if ¬wV w\/k<1\/6<k then (w,1)else if 1000000000<w.next then (w,3)else if w.wait.length=32 then (w,6)
 else (⟨w.epoch,w.next+1,w.sure,w.seg,w.count,w.wait++[⟨w.epoch,w.next,k,b.a0,b.a1,b.a2,b.a3,b.a4,b.a5⟩]⟩,0)
theorem agX {w:fO} {k:Int} {b:SA6} (hw:Aa w):Oc w k b=some (O0 w k b):=by
 refine Wq.eq ?_
 unfold Oc O0
 rw[NP hw,ah,fD,zx]
 by_cases hp:wV w
 case neg=>rw[if_neg hp,fD,zx,if_neg hp,ai,if_pos (.inl hp)]
 rw[if_pos hp,ES k 1,ES k 1]
 by_cases h1:k<1
 ·rw[if_pos h1,if_pos h1,ai,if_pos (.inr (.inl h1))]
 rw[if_neg h1,ES 6 k]
 by_cases h6:6<k
 ·rw[if_pos h6,ai,if_pos (.inr (.inr h6))]
 rw[if_neg h6,if_neg (fun g=>by rcases g with g | g | g;exact g hp;exact h1 g;exact h6 g),ES,fA]
 by_cases hn:1000000000<w.next
 ·rw[if_pos hn,ai,if_pos hn]
 rw[if_neg hn,if_neg hn]
 have hlen:=hp.2.2.2.1
 have hnx:=hp.2.1
 by_cases hl:w.wait.length=32
 ·rw[if_pos (by simp only[len];omega),ai,if_pos hl]
 ·rw[if_neg (by simp only[len];omega),aaD (by omega),ah,aA (TR (n:=100) (by simp [cu];omega) (by decide)),ai,if_neg hl,ax,bM (by omega) (by omega)];rfl
def agc (w:fO):List Int->Int
 |[]=>w.sure
 |m::_=>m - 1
def Ad (w:fO) (lsn:Int):List Int->ak->ak×Int
 |[],d=>(d,0)
 |n::r,d=>if n=w.seg then Ad w lsn r d else if lsn<agc w r then (d,0)else if (gu d (kE n)).2≠0 then gu d (kE n)else Ad w lsn r (gu d (kE n)).1
open Classical in
noncomputable def Xi (w:fO) (d:ak) (lsn:Int):ak×Int:=if nC w d then Ad w lsn (Bg d.files) d else (d,1)
theorem WQ {d:ak}:∀n∈Bg d.files,jZ n:=fun n hn=>by
 obtain⟨h1,h2⟩:=List.mem_filter.1 hn
 obtain⟨f,hf,rfl⟩:=List.mem_map.1 h1
 exact(UG (by simp at h2;omega)).1
theorem Xm {w:fO} {d:ak} {lsn:Int} (hw:Aa w) (hd:Gw d):E5 w d lsn=some (Xi w d lsn):=by
 classical
 refine Wq.eq ?_
 unfold E5 Xi
 rw[Xr hw hd.nm,ah,fD,zx]
 by_cases hf:nC w d
 case neg=>rw[if_neg hf,ai,if_neg hf]
 rw[if_pos hf,if_pos hf,Xn hd.nm,ah,show aln d=Bg d.files by unfold aln;rw[if_pos hf.2.1]]
 have hsl:=aaN d.files
 have hfl:=hf.2.1.fl
 have hgen:=WQ (d:=d)
 have hsure:=hf.1.2.2.1
 generalize Bg d.files=L at hsl hgen ⊢
 refine Wq.bind (Q:=fun x=>match x with
  |.inl x=>Ad w lsn L d=(x.2.2,0)
  |.inr x=>Ad w lsn L d=(x.2.1,x.1))
  (lD (n:=L.length) (step:=fun v:Int×Int×ak×ak=>wE (len L) lsn L L w v.1 v.2.1 v.2.2.1 v.2.2.2) (by omega)
    (fun i x=>Ad w lsn L d=Ad w lsn (L.drop i) x.2.2/\gq x.2.2/\inI x.2.2.fuse) _ ?_ ?_ _ 0 (Nat.zero_le _) ⟨by simp,hf.2.1,hd.fu⟩) ?_
 ·rintro i ⟨a,z,e⟩ hi ⟨h1,h2,h3⟩
  simp only at h1 h2 h3
  simp only[wE]
  rw[List.drop_eq_getElem_cons hi,Ad]at h1
  have hg:=hgen _ (List.getElem_mem hi)
  have hn:=Dk hg
  rw[aA (by rw[eX];simpa using hi),aA (inb _ i hi),bC _ i hi,dG (by omega),ES,fA,fA]
  have rem:∀last:Int,agc w (L.drop (i+1))=last->L[i]≠w.seg->
   Wq (cnd (ilt lsn last) (some (Sum.inr (Sum.inl (a,z,e)))) (af (lJ L[i]) fun y0=>af (oI e y0) fun y1=>cnd (au (ieq y1.2 0)) (some (Sum.inr (Sum.inr (y1.2,y1.1,y1.1)))) (some (Sum.inl (((i+1:Nat):Int),a,z,y1.1)))))
   fun r:(Int×Int×ak×ak) ⊕ ((Int×ak×ak) ⊕ (Int×ak×ak))=>match r with
    |.inl (k,x')=>k=((i+1:Nat):Int)/\Ad w lsn L d=Ad w lsn (L.drop (i+1)) x'.2.2/\gq x'.2.2/\inI x'.2.2.fuse
    |.inr w'=>match w' with | .inl x=>Ad w lsn L d=(x.2.2,0) | .inr x=>Ad w lsn L d=(x.2.1,x.1):=by
   intro last hlast hseg
   rw[if_neg hseg,hlast]at h1
   rw[ES]
   by_cases hlt:lsn<last
   ·rw[if_pos hlt]at h1 ⊢
    rw[ai];exact h1
   ·rw[if_neg hlt]at h1 ⊢
    rw[Xk]
    change Wq (af (some (kE L[i])) _) _
    rw[ah,Yd (h2.bnd h3) hn.len,ah,fD,fA]
    by_cases h0:(gu e (kE L[i])).2=0
    ·rw[if_pos h0,ai]
     rw[if_neg (fun g=>g h0)]at h1
     have hk:=rW (n:=kE L[i]) h2
     exact⟨rfl,h1,hk.right,(hk.bnd h3).fu⟩
    ·rw[if_neg h0,ai]
     rw[if_pos h0]at h1
     exact h1
  by_cases hnx:((i+1:Nat):Int)<len L
  ·have hi1:i+1<L.length:=by simp only[len]at hnx;omega
   have hg1:=hgen _ (List.getElem_mem hi1)
   unfold jZ at hg1
   rw[if_pos hnx,aA (inb _ _ hi1),bC _ _ hi1,aI,bM (by omega) (by omega)]
   by_cases hseg:L[i]=w.seg
   ·rw[if_pos hseg]at h1 ⊢
    rw[ai];exact⟨rfl,h1,h2,h3⟩
   ·rw[if_neg hseg]
    refine(rem (L[i+1] - 1) (by rw[List.drop_eq_getElem_cons hi1,agc]) hseg).mono fun r hr=> ?_
    match r,hr with
    |.inl (k,x'),hr=>exact hr
    |.inr (.inl x),hr=>exact hr
    |.inr (.inr x),hr=>exact hr
  ·rw[if_neg hnx]
   by_cases hseg:L[i]=w.seg
   ·rw[if_pos hseg]at h1 ⊢
    rw[ai];exact⟨rfl,h1,h2,h3⟩
   ·rw[if_neg hseg]
    refine(rem w.sure (by rw[List.drop_eq_nil_of_le (by simp only[len]at hnx;omega),agc]) hseg).mono fun r hr=> ?_
    match r,hr with
    |.inl (k,x'),hr=>exact hr
    |.inr (.inl x),hr=>exact hr
    |.inr (.inr x),hr=>exact hr
 ·rintro⟨a,z,e⟩ ⟨h1,h2,h3⟩
  simp only at h1
  simp only[wE]
  rw[cZ (Nk _),ai]
  rw[List.drop_length]at h1
  exact h1
 ·rintro(x | x) hx
  ·simp only[gX,ai];simp only at hx;exact hx.symm
  ·simp only[gX,ai];simp only at hx;exact hx.symm
def upP (g:bD):Prop:=(g.up=true/\g.disk.down=false/\nC g.wal g.disk)\/(g.up=false/\g.disk.down=true/\g.outbox=[]/\g.feed.held=[]/\g.feed.gap=false)
def qm (g:bD):Prop:=gq g.disk/\iL g.state/\wV g.wal/\g.state.lsn+1=g.wal.next/\DC g.outbox g.wal.sure g.state.lsn/\Vp g.feed (g.state.seq+1)/\(∀n∈g.feed.held,qQ (jk n))/\(0<=g.gen/\g.gen<=1000000000)/\upP g
noncomputable instance (g:bD):Decidable (qm g):=Classical.propDecidable _
structure SG (g:bD):Prop where
 st:gG g.state
 sh:l9 g.state
 wal:Aa g.wal
 wl:g.wal.wait.length<=40
 bnd:Gw g.disk
 byte:iR g.disk
 fl:g.disk.files.length<=70
 ol:g.outbox.length<=9999
 hl:g.feed.held.length<=200
 ok:∀n∈g.feed.held,mr n
 gen:inI g.gen
theorem Ut (w:fO) (lsn:Int):∀(l:List Int) (d:ak),gq d->(∀n∈l,jZ n)->(Ad w lsn l d).2≠1
 |[],d,hd,_=>by rw[Ad];simp
 |n::r,d,hd,hg=>by
  have hk:=rW (n:=kE n) hd
  have h1:(gu d (kE n)).2≠1:=by
   unfold gu
   split
   ·rename_i h
    unfold iU at h ⊢
    rw[if_neg (fun g=>g hd)]at h ⊢
    split at h
    ·rename_i h2;simp [h2]
    ·rename_i h2
     rw[if_pos (by intro m hm;rw[List.mem_singleton.1 hm];exact Dk (hg n (by simp)))]at h
     exact absurd rfl h
   ·split
    ·simp
    ·split<;>simp
  rw[Ad]
  split
  ·exact Ut w lsn r d hd fun m hm=>hg m (by simp [hm])
  split
  ·simp
  split
  ·exact h1
  ·exact Ut w lsn r _ hk.right fun m hm=>hg m (by simp [hm])
open Classical in
theorem adS {w:fO} {d:ak} (hw:Aa w) (hd:Gw d):rV w d=some (decide (nC w d)):=by
 unfold rV
 rw[Xm hw hd,ah]
 unfold Xi
 by_cases h:nC w d
 ·rw[if_pos h]
  have:=Ut w 0 (Bg d.files) d h.2.1 WQ
  rw[show ieq (Ad w 0 (Bg d.files) d).2 1=false by rw[bg];exact this]
  simp [h,au]
 ·rw[if_neg h];simp [h,ieq,au]
theorem alq (l:List dQ) (hl:l.length<999999):Wq (bV (fun v:Int×Int=>dK (len l) l v.1 v.2) LF (0,0)) fun w=>match w with
 |.inl k=>0<=k/\¬∀n∈l,qQ (jk n)
 |.inr _=>∀n∈l,qQ (jk n):=by
 refine lD (n:=l.length) hl (fun i _=>∀n∈l.take i,qQ (jk n)) _ (fun i q hi hj=> ?_) (fun q hj=> ?_) _ 0 (Nat.zero_le _) (fun n hn=>by simp at hn)
 ·simp only[dK]
  rw[aA (by rw[eX];simpa using hi),aA (inb l i hi),bC _ i hi,show iD l[i]=some (jk l[i])from rfl,ah]
  refine(qJ _).bind fun b hb=> ?_
  rw[fP,ai,ai]
  refine⟨fun h=>⟨by omega,fun g=> ?_⟩,fun h=>⟨dG (by omega),fun n hn=> ?_⟩⟩
  ·rw[aY]at h;subst h
   have:=hb.2 (g _ (List.getElem_mem hi));cases this
  ·rw[aZ]at h
   rcases(uh hi).1 hn with h1 | rfl
   ·exact hj n h1
   ·exact hb.1 h
 ·simp only[dK]
  rw[cZ (by rw[show((l.length:Nat):Int)=len l from rfl];simp [ilt]),ai]
  rw[List.take_length]at hj
  exact hj
theorem aky (g:bD):qo g=some (decide (g.outbox=[]/\g.feed.held=[]/\g.feed.gap=false)):=by
 unfold qo
 congr 1
 rw[Bool.eq_iff_iff]
 simp only[aW,bK,dn,dF,aY,aZ,dA,dB,bP,dJ,bn,bg,dM,dN,decide_eq_true_eq,len]
 constructor
 ·rintro⟨⟨h1,h2⟩,h3⟩
  exact⟨List.eq_nil_of_length_eq_zero (by omega),List.eq_nil_of_length_eq_zero (by omega),h3⟩
 ·rintro⟨h1,h2,h3⟩
  rw[h1,h2];exact⟨⟨rfl,rfl⟩,h3⟩
theorem ahv {g:bD} (hg:SG g):Wq (af (cnd (band (band (band (ile 0 g.gen) (ile g.gen 1000000000)) (au (beq g.up g.disk.down))) g.up) (rV g.wal g.disk) (some false)) fun y7=>af (cnd (band (band (band (band (ile 0 g.gen) (ile g.gen 1000000000)) (au (beq g.up g.disk.down))) (au (band g.up y7))) (au g.up)) (qo g) (some false)) fun y8=>some (band (band (band (ile 0 g.gen) (ile g.gen 1000000000)) (au (beq g.up g.disk.down))) (bor (band g.up y7) (band (au g.up) y8)))) fun b=>b=true↔((0<=g.gen/\g.gen<=1000000000)/\upP g):=by
 classical
 obtain⟨q,hq1,hq2⟩:∃q:Bool,qo g=some q/\(q=true↔(g.outbox=[]/\g.feed.held=[]/\g.feed.gap=false)):=⟨_,aky g,decide_eq_true_iff⟩
 obtain⟨f,hf1,hf2⟩:∃f:Bool,rV g.wal g.disk=some f/\(f=true↔nC g.wal g.disk):=⟨_,adS hg.wal hg.bnd,decide_eq_true_iff⟩
 unfold upP
 rw[hq1,hf1,<-hq2,<-hf2]
 by_cases hG:0<=g.gen/\g.gen<=1000000000
 ·have e1:band (ile 0 g.gen) (ile g.gen 1000000000)=true:=by simp only[aW,bK,dn,dF,aY,aZ,dA,dB,bP,dJ,bn,bg,dM,dN];exact hG
  rw[e1]
  cases hu:g.up<;>cases hd:g.disk.down<;>cases f<;>cases q<;>simp [hG,cnd,band,bor,au,beq,ah,ai]
 ·have e1:band (ile 0 g.gen) (ile g.gen 1000000000)=false:=by simp only[aW,bK,dn,dF,aY,aZ,dA,dB,bP,dJ,bn,bg,dM,dN];omega
  rw[e1]
  simp only[show ∀x,band false x=false from fun x=>rfl,aU,ah,ai]
  exact⟨fun h=>(by cases h),fun h=>absurd h.1 hG⟩
theorem agm {a b:Int} (hb:1<=b/\b<=1000000001):(a=wr .i64 (aI b 1))↔a+1=b:=by
 rw[aI,bM (by omega) (by omega)];omega
theorem S9 {g:bD} (hg:SG g):Aq g=some (decide (qm g)):=by
 classical
 refine Wq.dec ?_
 unfold Aq qm
 rw[Aj hg.bnd.nm,ah]
 by_cases h1:gq g.disk
 case neg=>
  rw[decide_eq_false h1]
  simp only[bf,aJ,vO,iw,aX,aU,ah,show ∀x,bor true x=true from fun x=>rfl]
  rw[ai];exact⟨fun h=>(by cases h),fun h=>absurd h.1 h1⟩
 rw[decide_eq_true h1]
 simp only[aJ,bf,aX]
 refine(AU g.state hg.st hg.sh.1 hg.sh.2.2.1 hg.sh.2.2.2).bind fun b hb=> ?_
 cases b with
 |false=>
  have:¬iL g.state:=fun h=>by have:=hb.2 h;cases this
  simp only[bf,aJ,vO,iw,aX,aU,ah,show ∀x,bor true x=true from fun x=>rfl,show ∀x,bor false x=x from fun x=>rfl]
  rw[ai];exact⟨fun h=>(by cases h),fun h=>absurd h.2.1 this⟩
 |true=>
 have hR:=hb.1 rfl
 simp only[aJ,bf,iw,aX]
 rw[NP hg.wal,ah]
 by_cases h2:wV g.wal
 case neg=>
  rw[decide_eq_false h2]
  simp only[bf,show ∀x,bor false x=x from fun x=>rfl,aX]
  rw[ai];exact⟨fun h=>(by cases h),fun h=>absurd h.2.2.1 h2⟩
 rw[decide_eq_true h2]
 simp only[aJ,bf,show ∀x,bor false x=x from fun x=>rfl,aU]
 have hn:=h2.2.1
 by_cases h3:g.state.lsn+1=g.wal.next
 case neg=>
  have e3:ieq g.state.lsn (wr .i64 (aI g.wal.next 1))=false:=by rw[bg,ne_eq,agm hn];exact h3
  rw[e3]
  simp only[bf,aJ,aU,ah,show ∀x,bor true x=true from fun x=>rfl,aX]
  rw[ai];exact⟨fun h=>(by cases h),fun h=>absurd h.2.2.2.1 h3⟩
 have e3:ieq g.state.lsn (wr .i64 (aI g.wal.next 1))=true:=by rw[bn,agm hn];exact h3
 rw[e3]
 simp only[bf,aJ,aX,show ∀x,bor false x=x from fun x=>rfl]
 refine(ac0 g.outbox g.wal.sure g.state.lsn (by have:=hg.ol;omega)).bind fun c hc=> ?_
 cases c with
 |false=>
  have:¬DC g.outbox g.wal.sure g.state.lsn:=fun h=>by have:=hc.2 h;cases this
  simp only[bf,aJ,aU,ah,show ∀x,bor true x=true from fun x=>rfl,aX]
  rw[ai];exact⟨fun h=>(by cases h),fun h=>absurd h.2.2.2.2.1 this⟩
 |true=>
 have hO:=hc.1 rfl
 have hq:=hR.fine.seq
 have hw:wr .i64 (ax g.state.seq 1)=g.state.seq+1:=bM (by simp only[ax];omega) (by simp only[ax];omega)
 rw[hw]
 simp only[aJ,bf,aX,show ∀x,bor false x=x from fun x=>rfl]
 refine(JE g.feed _).bind fun d hd=> ?_
 cases d with
 |false=>
  have:¬Vp g.feed (g.state.seq+1):=fun h=>by have:=hd.2 h;cases this
  simp only[bf,aJ,aU,ah,show ∀x,bor true x=true from fun x=>rfl,aX]
  rw[ai];exact⟨fun h=>(by cases h),fun h=>absurd h.2.2.2.2.2.1 this⟩
 |true=>
 have hF:=hd.1 rfl
 simp only[aJ,bf,aX,show ∀x,bor false x=x from fun x=>rfl,aU]
 refine(alq g.feed.held (by have:=hg.hl;omega)).bind ?_
 rintro(k | k) hk
 ·simp only[gX]
  rw[aA (jo hk.1),ai]
  exact⟨fun h=>(by cases h),fun h=>absurd h.2.2.2.2.2.2.1 hk.2⟩
 ·simp only[gX]
  obtain⟨b,h,q⟩:=ahv hg
  exact⟨b,h,fun hb=>⟨h1,hR,h2,h3,hO,hF,hk,q.1 hb⟩,fun hh=>q.2 hh.2.2.2.2.2.2.2⟩
noncomputable def jW (g:bD):Int:=if ¬qm g then 1 else if g.up=true then 0 else 9
theorem Ey {g:bD} (hg:SG g):rY g=some (jW g):=by
 unfold rY jW
 rw[S9 hg,ah,fD,zx]
 by_cases h:qm g
 ·rw[if_pos h,if_neg (fun k=>k h)];cases g.up<;>rfl
 ·rw[if_neg h,if_pos h]
theorem pG {g:bD}:jW g=0↔qm g/\g.up=true:=by
 unfold jW
 by_cases h:qm g
 ·rw[if_neg (fun k=>k h)]
  by_cases hu:g.up=true
  ·simp [h,hu]
  ·simp [h,hu]
 ·rw[if_pos h];simp [h]
def SA (r:iq):SA6:=if r.kind=1 then ⟨r.order,r.account,r.symbol,r.side,r.qty,r.price⟩else if r.kind=4 then ⟨r.account,r.symbol,r.long,r.short,r.opn,0⟩else if r.kind=5 then (if r.on=true then ⟨1,0,0,0,0,0⟩else ⟨0,0,0,0,0,0⟩)
 else if r.kind=6 then ⟨r.seq,r.what,r.order,r.qty,r.price,0⟩else ⟨r.order,r.qty,r.price,0,0,0⟩
theorem aer {r:iq} (h:qQ r):JW r=some (SA r,0):=by
 unfold JW SA
 obtain⟨b,hb,q⟩:=qJ r
 have:=q.2 h;subst this
 rw[hb,ah,aJ,aU,fA,fA,fA,fA]
 split
 ·rfl
 split
 ·rfl
 split
 ·cases r.on<;>rfl
 split<;>rfl
noncomputable def aS (g:bD) (r:iq):bD×Int:=
 if (doS g.state r).2≠0 then (g,(doS g.state r).2)else if (O0 g.wal r.kind (SA r)).2≠0 then (g,(O0 g.wal r.kind (SA r)).2)
 else (⟨g.disk,(O0 g.wal r.kind (SA r)).1,(doS g.state r).1,g.outbox,g.feed,g.gen,g.up⟩,0)
theorem JQ {g:bD} {r:iq} (hs:gG g.state) (hsh:l9 g.state) (hw:Aa g.wal) (hr:lm r):xB g r=some (aS g r):=by
 unfold xB aS
 rw[NW hs hr hsh.1 hsh.2.2.1 hsh.2.2.2,ah,fD,fA]
 by_cases h:(doS g.state r).2=0
 case neg=>rw[if_neg h,if_pos h]
 rw[if_pos h,if_neg (fun k=>k h),aer ((O5 g.state r).good h).1.2.1,ah,agX hw,ah,fD,fA]
 by_cases h2:(O0 g.wal r.kind (SA r)).2=0
 ·rw[if_pos h2,if_neg (fun k=>k h2)]
 ·rw[if_neg h2,if_pos h2]
theorem aaq:∀ {l:List iE} {n e:Int} {f:iE},rowP l n e->Ic f->f.lsn=n+l.length->e<=f.epoch->(∀x∈l,x.epoch<=f.epoch)->rowP (l++[f]) n e
 |[],n,e,f,_,hf,hl,he,_=>⟨hf,by simpa using hl,he,trivial⟩
 |x::r,n,e,f,h,hf,hl,he,hx=>by
  obtain⟨h1,h2,h3,h4⟩:=h
  refine⟨h1,h2,h3,aaq h4 hf ?_ (hx x (by simp)) fun y hy=>hx y (by simp [hy])⟩
  simp only[List.length_cons]at hl;omega
structure alo (w v:fO):Prop where
 wal:wV v
 next:v.next=w.next+1
 sure:v.sure=w.sure
 seg:v.seg=w.seg
 count:v.count=w.count
 few:v.wait.length=w.wait.length+1
 lim:w.next<=1000000000
theorem amk {w:fO} {k:Int} {b:SA6} (h:(O0 w k b).2=0):wV w/\alo w (O0 w k b).1:=by
 unfold O0 at h ⊢
 split at h
 ·cases h
 rename_i h1
 split at h
 ·cases h
 rename_i h2
 split at h
 ·cases h
 rename_i h3
 rw[if_neg h1,if_neg h2,if_neg h3]
 have hw:wV w:=Classical.not_not.1 fun g=>h1 (.inl g)
 refine⟨hw,⟨?_,rfl,rfl,rfl,rfl,by simp,by omega⟩⟩
 obtain⟨w1,w2,w3,w4,w5,w6,w7,w8⟩:=hw
 have hk:1<=k/\k<=6:=by omega
 refine⟨w1,by simp only;omega,by simp only;omega,by simp only[List.length_append,List.length_singleton];omega,by simp only[List.length_append,List.length_singleton];omega,?_,?_,w8⟩
 ·refine aaq w6 ⟨w1.1,w1.2,by simp only;omega,by simp only;omega,hk.1,hk.2⟩ (by simp only;omega) w1.1 fun x hx=> ?_
  rw[w7 x hx];exact Int.le_refl _
 ·intro x hx
  rcases List.mem_append.1 hx with c | c
  ·exact w7 x c
  ·rw[List.mem_singleton.1 c]
theorem alo.fits {w v:fO} {d:ak} (h:alo w v) (hf:nC w d):nC v d:=by
 obtain⟨-, f2,f3,f4⟩:=hf
 refine⟨h.wal,f2,?_,?_⟩
 ·rw[h.sure];exact f3
 ·rw[h.seg,h.count];exact f4
theorem aj2 {w:fO} {k:Int} {b:SA6}:(O0 w k b).2≠9:=by
 unfold O0
 split
 ·simp
 split
 ·simp
 split<;>simp
theorem acB (s t:ay) (a y:Int):(OL s t a y).2≠9:=by
 unfold OL
 split
 ·simp
 split<;>simp
theorem agb (s:ay) (r:iq):(doS s r).2≠9:=by
 unfold doS
 split
 ·simp
 split
 ·split
  ·simp
  split
  ·simp
  exact acB _ _ _ _
 split
 ·split
  ·simp
  split
  ·simp
  split
  ·simp
  exact acB _ _ _ _
 split
 ·split
  ·simp
  split<;>simp
 split
 ·split<;>simp
 split
 ·simp
 split
 ·simp
 split
 ·simp
 split<;>simp
theorem QM (g:bD) (r:iq):(aS g r).2≠9:=by
 unfold aS
 split
 ·exact agb _ _
 split
 ·exact aj2
 ·simp
structure anv (g h:bD):Prop where
 disk:h.disk=g.disk
 put:alo g.wal h.wal
 R:iL h.state
 lsn:h.state.lsn=g.state.lsn+1
 out:h.outbox=g.outbox
 feed:h.feed=g.feed
 gen:h.gen=g.gen
 up:h.up=g.up
 st:gG h.state
 sh:l9 h.state
theorem wU {g:bD} {r:iq} (hs:gG g.state) (hsh:l9 g.state) (hr:lm r) (h:(aS g r).2=0):anv g (aS g r).1/\(doS g.state r).2=0/\(aS g r).1.state=(doS g.state r).1:=by
 unfold aS at h ⊢
 by_cases h1:(doS g.state r).2≠0
 ·rw[if_pos h1]at h;exact absurd h h1
 rw[if_neg h1]at h ⊢
 by_cases h2:(O0 g.wal r.kind (SA r)).2≠0
 ·rw[if_pos h2]at h;exact absurd h h2
 rw[if_neg h2]
 have h1:(doS g.state r).2=0:=Classical.not_not.1 h1
 have h2:(O0 g.wal r.kind (SA r)).2=0:=Classical.not_not.1 h2
 have q:=(O5 g.state r).good h1
 exact⟨⟨rfl,(amk h2).2,aae q.1.1 hs hr,q.2.1,rfl,rfl,rfl,rfl,(O5 g.state r).rng hs hr,UL hsh r⟩,h1,rfl⟩
theorem Xa:∀ {l:List jQ} {a z:Int},DC l a z->a<=z->(l.length:Int)<=z - a
 |[],a,z,_,h=>by simp;omega
 |m::r,a,z,h,_=>by
  have:=Xa h.2.2.2 h.2.2.1
  have:=h.2.1
  simp only[List.length_cons];omega
theorem SG.of {g:bD} (h:qm g) (st:gG g.state) (sh:l9 g.state) (fu:inI g.disk.fuse) (by':iR g.disk) (ok:∀n∈g.feed.held,mr n):SG g:=by
 obtain⟨h1,h2,h3,h4,h5,h6,h7,h8,h9⟩:=h
 have w:=abk h3
 have hl:=h3.2.2.2.1
 have hs:=h3.2.2.2.2.1
 have ho:=Xa h5 (by have:=h3.2.2.1;omega)
 refine⟨st,sh,w,by omega,h1.bnd fu,by',by have:=h1.fl;omega,by omega,by have:=h6.2.2.1;omega,ok,by unfold inI;omega⟩
theorem Ry {g:bD} (h:qm g) (hu:g.up=true):g.disk.down=false/\nC g.wal g.disk:=by
 rcases h.2.2.2.2.2.2.2.2 with h | h
 ·exact h.2
 ·rw[h.1]at hu;cases hu
theorem JL {g:bD} (hu:g.up=true):jW g≠9:=by
 unfold jW
 rw[if_pos hu]
 split<;>simp
def ofM (k:Int) (o:aB) (z:Int):jQ:=(oK k o z).getD ⟨0,0,0,0,0,0,0,0,0⟩
theorem al1 (k:Int) (o:aB) (z:Int):oK k o z=some (ofM k o z):=by
 obtain⟨m,h⟩:=anc k o z
 unfold ofM;rw[h];rfl
def LG (g:bD) (r:iq):bD:=⟨g.disk,g.wal,g.state,g.outbox++[ofM r.kind (aj g.state.orders (itn (LZ g.state.orders r.order))) g.state.lsn],g.feed,g.gen,g.up⟩
noncomputable def lV (g:bD) (r:iq):bD×Int:=
 if jW g≠0 then (g,jW g)else if r.kind<1\/3<r.kind then (g,1)else if (aS g r).2≠0 then (g,(aS g r).2)else (LG (aS g r).1 r,0)
theorem aaO {g:bD} {r:iq} (hg:SG g) (hr:lm r) (hk:¬(r.kind<1\/3<r.kind)) (h:(aS g r).2=0):∃(j:Nat) (hj:j<(aS g r).1.state.orders.length),LZ (aS g r).1.state.orders r.order=(j:Int)/\
 (uy (aS g r).1.state.orders[j])/\(r.kind=2->1<=(aS g r).1.state.orders[j].newQty/\1<=(aS g r).1.state.orders[j].newPrice/\1<=(aS g r).1.state.orders[j].version):=by
 obtain⟨q,h1,h2⟩:=wU hg.st hg.sh hr h
 obtain⟨o,ho,hid,hv⟩:=aeo h1 (by omega)
 rw[<-h2]at ho
 obtain⟨j,hj,hf,rfl⟩:=agO q.R.fine.asc ho
 rw[hid]at hf
 exact⟨j,hj,F6 hf,(q.R.fine.ords _ (List.getElem_mem hj)).1,hv⟩
theorem Zj {g:bD} {r:iq} (hg:SG g) (hr:lm r):CY g r=some (lV g r):=by
 unfold CY lV
 rw[Ey hg,ah,fD,fA]
 by_cases h0:jW g=0
 case neg=>rw[if_neg h0,if_pos h0]
 rw[if_pos h0,if_neg (fun k=>k h0)]
 by_cases hk:r.kind<1\/3<r.kind
 ·rw[aA (by simp only[aW,bK,dn,dF,aY,aZ,dA,dB,bP,dJ,bn,bg,dM,dN];exact hk),if_pos hk]
 rw[cZ (by simp only[aW,bK,dn,dF,aY,aZ,dA,dB,bP,dJ,bn,bg,dM,dN];omega),if_neg hk,JQ hg.st hg.sh hg.wal hr,ah,fD,fA]
 by_cases h:(aS g r).2=0
 case neg=>rw[if_neg h,if_pos h]
 rw[if_pos h,if_neg (fun k=>k h)]
 have hol:=hg.ol
 obtain⟨j,hj,hf, -⟩:=aaO hg hr hk h
 obtain⟨q,-, -⟩:=wU hg.st hg.sh hr h
 rw[Dp _ _ q.sh.1,ah,hf,aA (inb _ j hj),show bY g.outbox=some g.outbox from lW (by omega),ah,al1,ah,aA (by simp only[cu,len];exact jo (by simp;omega))]
 unfold LG
 rw[hf,q.out];rfl
theorem ab1 {g:bD} {r:iq} (hg:SG g) (hr:lm r):SG (lV g r).1/\(qm g->qm (lV g r).1)/\(lV g r).1.up=g.up/\(lV g r).1.disk=g.disk/\(lV g r).1.wal.sure=g.wal.sure/\(lV g r).1.gen=g.gen/\(g.up=true->(lV g r).2≠9):=by
 unfold lV
 by_cases h0:jW g=0
 case neg=>
  rw[if_pos h0]
  refine⟨hg,id,rfl,rfl,rfl,rfl,fun hu=> ?_⟩
  exact JL hu
 rw[if_neg (fun k=>k h0)]
 obtain⟨hG,hu⟩:=pG.1 h0
 by_cases hk:r.kind<1\/3<r.kind
 ·rw[if_pos hk];exact⟨hg,id,rfl,rfl,rfl,rfl,fun _=>by simp⟩
 rw[if_neg hk]
 by_cases h:(aS g r).2=0
 case neg=>rw[if_pos h];exact⟨hg,id,rfl,rfl,rfl,rfl,fun _=>QM g r⟩
 rw[if_neg (fun k=>k h)]
 obtain⟨j,hj,hf,hoP,hv⟩:=aaO hg hr hk h
 obtain⟨q,hd0,hds⟩:=wU hg.st hg.sh hr h
 obtain⟨h1,h2,h3,h4,h5,h6,h7,h8,h9⟩:=hG
 have hfit:=Ry ⟨h1,h2,h3,h4,h5,h6,h7,h8,h9⟩ hu
 have hseq:(aS g r).1.state.seq=g.state.seq:=by
  have:=((O5 g.state r).good hd0).2.2.1
  rw[hds,this,if_neg (by omega)]
 have hsn:=h3.2.2.1
 have hlim:=q.put.lim
 have hlsn:=q.lsn
 have hnew:DC (LG (aS g r).1 r).outbox g.wal.sure (g.state.lsn+1):=by
  unfold LG
  simp only
  rw[q.out,hf,bC _ _ hj,hlsn]
  obtain⟨m,hm,hmp,hml⟩:=aor (k:=r.kind) (z:=g.state.lsn+1) hoP (by omega) hv (by omega)
  have:ofM r.kind (aS g r).1.state.orders[j] (g.state.lsn+1)=m:=by unfold ofM;rw[hm];rfl
  rw[this]
  exact acp (z:=g.state.lsn) h5 (by omega) hmp (by omega) (by omega)
 have hR:qm (LG (aS g r).1 r):=by
  refine⟨by rw[show(LG (aS g r).1 r).disk=_ from q.disk];exact h1,q.R,q.put.wal,?_,?_,?_,?_,?_,.inl ⟨q.up.trans hu,?_,?_⟩⟩
  ·show(aS g r).1.state.lsn+1=(aS g r).1.wal.next
   rw[hlsn,q.put.next];omega
  ·rw[show(LG (aS g r).1 r).wal.sure=g.wal.sure from q.put.sure,show(LG (aS g r).1 r).state.lsn=g.state.lsn+1 from hlsn];exact hnew
  ·rw[show(LG (aS g r).1 r).feed=g.feed from q.feed,show(LG (aS g r).1 r).state.seq=g.state.seq from hseq];exact h6
  ·rw[show(LG (aS g r).1 r).feed=g.feed from q.feed];exact h7
  ·rw[show(LG (aS g r).1 r).gen=g.gen from q.gen];exact h8
  ·rw[show(LG (aS g r).1 r).disk=g.disk from q.disk];exact hfit.1
  ·rw[show(LG (aS g r).1 r).disk=g.disk from q.disk];exact q.put.fits hfit.2
 refine⟨SG.of hR q.st q.sh ?_ ?_ ?_,fun _=>hR,q.up,q.disk,q.put.sure,q.gen,fun _=>by simp⟩
 ·rw[show(LG (aS g r).1 r).disk=g.disk from q.disk];exact hg.bnd.fu
 ·rw[show(LG (aS g r).1 r).disk=g.disk from q.disk];exact hg.byte
 ·rw[show(LG (aS g r).1 r).feed=g.feed from q.feed];exact hg.ok
def uS (p:ak×Int):Prop:=p.1.down=true↔p.2=9
theorem ji {d:ak} {c:Int} (h:d.down=false) (hc:c≠9):uS (d,c):=by unfold uS;simp [h,hc]
theorem FM {d:ak} {ns:List Nm} (h:d.down=false):iU d ns≠9:=by
 unfold iU
 split
 ·simp
 rw[if_neg (by rw[h];simp)]
 split<;>simp
theorem ET {d:ak} (h:d.down=false):((dw d).2=true/\(dw d).1.down=false)\/((dw d).2=false/\(dw d).1.down=true):=by
 unfold dw
 split
 ·exact .inr ⟨rfl,rfl⟩
 split
 ·exact .inl ⟨rfl,h⟩
 ·exact .inl ⟨rfl,h⟩
theorem Vu {d:ak} {n:Nm} {b:List Int} (h:d.down=false):uS (eu d n b):=by
 unfold eu
 split
 ·exact ji h (FM h)
 split
 ·exact ji h (by simp)
 ·unfold aeC uS
  rcases ET (d:=yB d ⟨n,((dm d.files n).getD ⟨n,[],0⟩).data++b,((dm d.files n).getD ⟨n,[],0⟩).sure⟩) h with ⟨h1,h2⟩ | ⟨h1,h2⟩<;>simp [h1,h2]
theorem Z4 {d:ak} {n:Nm} (h:d.down=false):uS (nI d n):=by
 unfold nI
 split
 ·exact ji h (FM h)
 split
 ·exact ji h (by simp)
 ·unfold uS
  rcases ET h with ⟨h1,h2⟩ | ⟨h1,h2⟩<;>simp [h1,h2,yB]
theorem ad5 {d:ak} {a b:Nm} (h:d.down=false):uS (jO d a b):=by
 unfold jO
 split
 ·exact ji h (FM h)
 split
 ·exact ji h (by simp)
 ·unfold uS
  rcases ET h with ⟨h1,h2⟩ | ⟨h1,h2⟩<;>simp [h1,h2,yB,Y6]
theorem NJ {d:ak} {n:Nm} (h:d.down=false):uS (gu d n):=by
 unfold gu
 split
 ·exact ji h (FM h)
 split
 ·exact ji h (by simp)
 ·unfold uS
  rcases ET h with ⟨h1,h2⟩ | ⟨h1,h2⟩<;>simp [h1,h2,Y6]
theorem ajX {d:ak} {n:Nm} {k:Int} (h:d.down=false):uS (zY d n k):=by
 unfold zY
 split
 ·exact ji h (FM h)
 split
 ·exact ji h (by simp)
 split
 ·exact ji h (by simp)
 ·unfold uS
  rcases ET h with ⟨h1,h2⟩ | ⟨h1,h2⟩<;>simp [h1,h2,yB]
theorem uS.up {p:ak×Int} (h:uS p) (h0:p.2≠9):p.1.down=false:=by
 unfold uS at h
 cases hd:p.1.down with
 |false=>rfl
 |true=>exact absurd (h.1 hd) h0
theorem BG {p:ak×Int} {f:ak->ak×Int} (h:uS p) (hf:∀e,e.down=false->uS (f e)):uS (jV p f):=by
 by_cases h0:p.2=0
 ·rw[then_ok h0];exact hf _ (h.up (by omega))
 ·rw[fM h0];exact h
theorem Xx {d:ak} (h:d.down=false):(dZ d).2≠9:=by
 unfold dZ
 split
 ·simp
 rw[if_neg (by rw[h];simp)]
 split<;>simp
theorem aeL {d:ak} {s:gV} (h:d.down=false):uS (uF d s):=by
 unfold uF
 split
 ·exact ji h (by simp)
 rw[if_neg (Xx h)]
 split
 ·exact ji h (by simp)
 ·unfold ack qN
  refine BG (BG ?_ fun e he=>Vu he) fun e he=>Z4 he
  split
  ·exact ji h (by simp)
  ·exact ajX h
theorem WV {gen:Int}:∀(l:List aC) {p:ak×Int},uS p->uS (lC gen p l)
 |[],p,h=>h
 |f::r,p,h=>by
  rw[WA]
  refine WV r ?_
  unfold xQ
  split
  ·exact BG h fun e he=>NJ he
  ·exact h
theorem ahW {d:ak} {s:ay} (h:d.down=false):(lU d s).1.down=true↔(lU d s).2.2=9:=by
 unfold lU
 split
 ·simp [h]
 rw[if_neg (Xx h)]
 split
 ·simp [h]
 ·have q:uS (lC ((dZ d).1.gen+1) (rM d ((dZ d).1.gen+1) s.lsn (encZ s)) (rM d ((dZ d).1.gen+1) s.lsn (encZ s)).1.files):=by
   refine WV _ ?_
   unfold rM vT
   refine BG (BG (BG (BG ?_ fun e he=>Vu he) fun e he=>Z4 he) fun e he=>ad5 he) fun e he=>aeL he
   split
   ·exact ji h (by simp)
   ·exact NJ h
  unfold VU
  split
  ·exact q
  ·rename_i h0
   have h0:=Classical.not_not.1 h0
   have:=q.up (by omega)
   simp [this]
theorem adh {l:List aC} (ha:Jp l) {p:Nm->Prop}:(∀f∈l,p f.name)↔∀n f,dm l n=some f->p n:=by
 constructor
 ·intro h n f hg
  have:=wZ hg
  rw[<-this.2];exact h f this.1
 ·intro h f hf
  exact h _ f (get_mem ha hf)
theorem abJ {w:fO} {d:ak} (hw:wV w) (hd:gq d) (h1:∀n f,dm d.files n=some f->jD rE n<=w.sure) (h2:w.seg=0\/∃f,dm d.files (kE w.seg)=some f/\(f.data.length:Int)=w.count*72):nC w d:=
 ⟨hw,hd,(adh hd.asc (p:=fun n=>jD rE n<=w.sure)).2 h1,h2⟩
theorem TN {w:fO} {d:ak} (h:nC w d) {n:Nm} {f:aC} (hg:dm d.files n=some f):jD rE n<=w.sure:=
 (adh h.2.1.asc (p:=fun n=>jD rE n<=w.sure)).1 h.2.2.1 n f hg
theorem ahg {w:fO} {d e:ak} (h:nC w d) (he:gq e) (hs:∀n,jD rE n≠0->dm e.files n=dm d.files n):nC w e:=by
 have hw:=h.1
 refine abJ hw he (fun n f hg=> ?_) ?_
 ·by_cases hn:jD rE n=0
  ·rw[hn];exact hw.2.2.1.1
  ·rw[hs n hn]at hg;exact TN h hg
 ·rcases h.2.2.2 with h0 | ⟨f,hg,hf⟩
  ·exact .inl h0
  ·by_cases hz:w.seg=0
   ·exact .inl hz
   ·have hgp:=(hw.seg hz).1
    refine .inr ⟨f,?_,hf⟩
    rw[hs _ (by rw[EM hgp];exact hz)];exact hg
theorem afh {w:fO} {d:ak} (hne:w.wait≠[]) (hf:nC w d) (hu:d.down=false):
 ((writeW w d).2=0/\(writeW w d).1.down=false/\nC (wR w) (writeW w d).1)\/((writeW w d).2=6/\(writeW w d).1=d)\/((writeW w d).2=9/\(writeW w d).1.down=true):=by
 have hw:=hf.1
 obtain⟨g0,g1,g2,g3⟩:=Ri hw hne
 obtain⟨t1,t2,t3, -⟩:=MB hw hne
 have hn:=Dk g0
 have hU:UpD d:=⟨hf.2.1,hu⟩
 have hsr:=hw.2.2.1
 unfold writeW
 generalize hB:rowB (w.wait.take (lY w))=B
 have hBl:B.length=72*lY w:=by rw[<-hB,YF,List.length_take];omega
 rcases JZ (b:=B) hU hn with ⟨a1,a2, -⟩ | ⟨a1,a2,a3,a4⟩
 ·right;left
  rw[fM (by rw[a1];simp)];exact⟨a1,a2⟩
 rcases a1.cases with c | ⟨c1,c2, -⟩
 case inr=>
  right;right
  rw[fM (by rw[c1];simp)];exact⟨c1,c2⟩
 rw[then_ok c]
 have hU2:=a1.up c
 have hg:=a2 (kE (yc w).1)
 rw[if_pos rfl]at hg
 obtain⟨s1,s2,s3,s4,s5⟩:=QO hU2 hn hg
 rcases s1.cases with e | ⟨e1,e2, -⟩
 case inr=>exact .inr (.inr ⟨e1,e2⟩)
 refine .inl ⟨e,(s1.up e).up,abJ (X0 hw hne) (s1.up e).right (fun n f hgf=> ?_) (.inr ?_)⟩
 ·rw[s2 e n]at hgf
  by_cases hnn:n=kE (yc w).1
  ·rw[hnn,EM g0];simp only[wR];omega
  ·rw[if_neg hnn,a2 n,if_neg hnn]at hgf
   have:=TN hf hgf
   simp only[wR];omega
 ·refine⟨_,(s2 e _).trans (if_pos rfl),?_⟩
  simp only[wR,List.length_append,hBl]
  have hold:((((dm d.files (kE (yc w).1)).getD ⟨kE (yc w).1,[],0⟩).data.length:Nat):Int)=(yc w).2*72:=by
   by_cases hs:w.seg=0\/w.count=8
   ·have hq:yc w=(w.sure+1,0):=if_pos hs
    rw[hq]at g0 ⊢
    have:dm d.files (kE (w.sure+1))=none:=by
     cases hgg:dm d.files (kE (w.sure+1))with
     |none=>rfl
     |some f=>
      have:=TN hf hgg
      rw[EM g0]at this;omega
    simp only[this];simp
   ·have hq:yc w=(w.seg,w.count):=if_neg hs
    rw[hq]
    rcases hf.2.2.2 with hz | ⟨f,f1,f2⟩
    ·exact absurd (.inl hz) hs
    ·simp only[f1];simpa using f2
  push_cast
  omega
structure aod (w:fO) (d:ak) (r:fO×ak×Int):Prop where
 wal:wV r.1
 next:r.1.next=w.next
 epoch:r.1.epoch=w.epoch
 sure:w.sure<=r.1.sure
 keep:Keep d r.2.1
 byte:iR d->iR r.2.1
 code:(r.2.2=0/\r.2.1.down=false/\nC r.1 r.2.1/\r.1.wait=[])\/(r.2.2=6/\r.2.1.down=false/\nC r.1 r.2.1)\/(r.2.2=9/\r.2.1.down=true)
theorem YH:∀(k:Nat) {w:fO} {d:ak},w.wait.length<=k->nC w d->d.down=false->aod w d (uH k w d)
 |0,w,d,hk,hf,hu=>by
  rw[uH]
  exact⟨hf.1,rfl,rfl,Int.le_refl _,Keep.refl hf.2.1,id,.inl ⟨rfl,hu,hf,List.eq_nil_of_length_eq_zero (by show w.wait.length=0;omega)⟩⟩
 |k+1,w,d,hk,hf,hu=>by
  rw[uH]
  by_cases hne:w.wait=[]
  ·rw[if_pos hne]
   exact⟨hf.1,rfl,rfl,Int.le_refl _,Keep.refl hf.2.1,id,.inl ⟨rfl,hu,hf,hne⟩⟩
  rw[if_neg hne]
  have hkw:=Vd (w:=w) hf.2.1
  have hbw:iR d->iR (writeW w d).1:=fun h=>ad1 h
  obtain⟨t1,t2,-, -⟩:=MB hf.1 hne
  rcases afh hne hf hu with ⟨a,b,c⟩ | ⟨a,b⟩ | ⟨a,b⟩
  ·rw[if_neg (fun g=>g a)]
   have ih:=YH k (w:=wR w) (d:=(writeW w d).1) (by simp only[wR,List.length_drop];omega) c b
   exact⟨ih.wal,ih.next,ih.epoch,by have:=ih.sure;rw[show(wR w).sure=w.sure+(lY w:Int)from rfl]at this;omega,hkw.trans ih.keep,fun h=>ih.byte (hbw h),ih.code⟩
  ·rw[if_pos (by rw[a];simp)]
   exact⟨hf.1,rfl,rfl,Int.le_refl _,hkw,hbw,.inr (.inl ⟨a,by rw[b];exact hu,by rw[b];exact hf⟩)⟩
  ·rw[if_pos (by rw[a];simp)]
   exact⟨hf.1,rfl,rfl,Int.le_refl _,hkw,hbw,.inr (.inr ⟨a,b⟩)⟩
theorem Ox {w:fO} {d:ak} (hf:nC w d) (hu:d.down=false):aod w d (dV w d):=by
 unfold dV
 rw[if_pos hf]
 exact YH 40 (by have:=hf.1.2.2.2.1;omega) hf hu
theorem YG {l:List jQ} {s:Int} {i:Nat} (h1:∀(j:Nat) (h:j<l.length),j<i->l[j].lsn<=s) (h2:∀h:i<l.length,s<l[i].lsn) (hi:i<=l.length):
 l.take i=(l.takeWhile fun m=>decide (m.lsn<=s))/\l.drop i=(l.dropWhile fun m=>decide (m.lsn<=s)):=by
 induction l generalizing i with
 |nil=>simp at hi;subst hi;simp
 |cons m r ih=>
  cases i with
  |zero=>
   have:=h2 (by simp)
   simp at this
   rw[List.takeWhile_cons_of_neg (by simp;omega),List.dropWhile_cons_of_neg (by simp;omega)]
   simp
  |succ i=>
   have h0:=h1 0 (by simp) (by omega)
   simp at h0
   rw[List.takeWhile_cons_of_pos (by simpa using h0),List.dropWhile_cons_of_pos (by simpa using h0)]
   have:=ih (i:=i) (fun j h hj=>by have:=h1 (j+1) (by simp;omega) (by omega);simpa using this) (fun h=>by have:=h2 (by simp;omega);simpa using this) (by simp at hi;omega)
   simp [this.1,this.2]
def goM (l:List jQ) (s:Int):List jQ:=l.takeWhile fun m=>decide (m.lsn<=s)
def Nz (l:List jQ) (s:Int):List jQ:=l.dropWhile fun m=>decide (m.lsn<=s)
theorem OH {l:List jQ} (h:l.length<1000000):bY l=some l:=lW h
theorem ael {α:Type} (l:List α) (i:Nat):aG l (itn (i:Int))=l.take i:=rfl
theorem acV {α:Type} (l:List α) (i:Nat):aV l (itn (i:Int))=l.drop i:=rfl
theorem WJ {l:List jQ} {s:Int} (hl:l.length<99999):zZ l s=some (goM l s,Nz l s):=by
 refine Wq.eq ?_
 unfold zZ
 refine Wq.bind (Q:=fun w:Int ⊕ Int=>match w with
  |.inl k=>∃i:Nat,k=(i:Int)/\i<=l.length/\l.take i=goM l s/\l.drop i=Nz l s
  |.inr _=>l=goM l s/\Nz l s=[])
  (lD (n:=l.length) (step:=fun v:Int×Int=>dR (len l) l s v.1 v.2) (by omega) (fun i _=>∀(j:Nat) (h:j<l.length),j<i->l[j].lsn<=s) _ (fun i q hi hj=> ?_) (fun q hj=> ?_) _ 0 (Nat.zero_le _) (fun j h hj=>by omega)) ?_
 ·simp only[dR]
  rw[aA (by rw[eX];simpa using hi),aA (inb l i hi),bC _ i hi,ES]
  by_cases h:s<l[i].lsn
  ·rw[if_pos h]
   have:=YG hj (fun _=>h) (by omega)
   exact(ai _).2 ⟨i,rfl,by omega,this.1,this.2⟩
  ·rw[if_neg h]
   refine(ai _).2 ⟨dG (by omega),fun j hjl hji=> ?_⟩
   by_cases e:j=i
   ·subst e;omega
   ·exact hj j hjl (by omega)
 ·simp only[dR]
  rw[cZ (Nk _)]
  have:=YG (i:=l.length) hj (fun h=>by omega) (by omega)
  refine(ai _).2 ⟨?_,?_⟩
  ·have:=this.1;rw[List.take_length]at this;exact this
  ·have:=this.2;rw[List.drop_length]at this;exact this.symm
 ·rintro(k | k) hk
  ·obtain⟨i,rfl,hi,h1,h2⟩:=hk
   simp only[gX]
   have hin:band (ile 0 (i:Int)) (ile (i:Int) (len l))=true:=DW (jo (by omega)) (jo (by simp only[len];omega))
   rw[cZ (Bz (by omega)),aA hin,ael,acV,OH (by rw[List.length_take];omega),ah,aA hin,OH (by rw[List.length_drop];omega),ah,ai,h1,h2]
  ·obtain⟨h1,h2⟩:=hk
   simp only[gX]
   have hin:band (ile 0 (len l)) (ile (len l) (len l))=true:=DW (jo (by simp only[len];omega)) (jo (by omega))
   rw[aA hin,show aG l (itn (len l))=l by rw[show len l=((l.length:Nat):Int)from rfl,ael,List.take_length],show aV l (itn (len l))=[] by rw[show len l=((l.length:Nat):Int)from rfl,acV,List.drop_length],OH (by omega),ah,aA hin,OH (by simp),ah,ai,<-h1,h2]
theorem aal:∀ {l:List jQ} {a s z:Int},DC l a z->a<=s->DC (Nz l s) s z
 |[],a,s,z,h,_=>trivial
 |m::r,a,s,z,h,ha=>by
  unfold Nz
  by_cases hm:m.lsn<=s
  ·rw[List.dropWhile_cons_of_pos (by simpa using hm)]
   exact aal h.2.2.2 hm
  ·rw[List.dropWhile_cons_of_neg (by simpa using hm)]
   exact⟨h.1,by omega,h.2.2.1,h.2.2.2⟩
theorem aiO:∀ {l:List jQ} {a z s:Int},DC l a z->z<=s->goM l s=l/\Nz l s=[]
 |[],a,z,s,_,_=>⟨rfl,rfl⟩
 |m::r,a,z,s,h,hs=>by
  have ih:=aiO h.2.2.2 hs
  have hm:m.lsn<=s:=by have:=h.2.2.1;omega
  unfold goM Nz at ih ⊢
  rw[List.takeWhile_cons_of_pos (by simpa using hm),List.dropWhile_cons_of_pos (by simpa using hm),ih.1,ih.2]
  exact⟨rfl,rfl⟩
def XQ (g:bD):bD:=⟨g.disk,g.wal,g.state,[],⟨[],false⟩,g.gen,false⟩
noncomputable def ab4 (g:bD):bD:=⟨(dV g.wal g.disk).2.1,(dV g.wal g.disk).1,g.state,g.outbox,g.feed,g.gen,g.up⟩
noncomputable def Sj (g:bD):bD×Int:=(if (dV g.wal g.disk).2.1.down=true then XQ (ab4 g)else ab4 g,(dV g.wal g.disk).2.2)
theorem Z8 {g:bD} (hw:Aa g.wal) (hd:Gw g.disk):vV g=some (Sj g):=by
 unfold vV Sj
 rw[ab8 hw hd,ah,Ig]
 split<;>rfl
noncomputable def aH (g:bD):bD×List jQ×Int:=
 if jW g≠0 then (g,[],jW g)else if (dV g.wal g.disk).2.1.down=true then (XQ (ab4 g),[],(dV g.wal g.disk).2.2)
 else (⟨(dV g.wal g.disk).2.1,(dV g.wal g.disk).1,g.state,Nz g.outbox (dV g.wal g.disk).1.sure,g.feed,g.gen,g.up⟩,goM g.outbox (dV g.wal g.disk).1.sure,(dV g.wal g.disk).2.2)
theorem Kq {g:bD} (hg:SG g):xg g=some (aH g):=by
 unfold xg aH
 rw[Ey hg,ah,fD,fA]
 by_cases h0:jW g=0
 case neg=>rw[if_neg h0,if_pos h0]
 rw[if_pos h0,if_neg (fun k=>k h0),Z8 hg.wal hg.bnd,ah]
 have hu:=(pG.1 h0).2
 unfold Sj
 by_cases hd:(dV g.wal g.disk).2.1.down=true
 ·rw[if_pos hd,if_pos hd];rfl
 ·rw[if_neg hd,if_neg hd]
  simp only[ab4]
  rw[hu,aJ,aU,WJ (by have:=hg.ol;omega)];rfl
theorem Qc {g:bD} (hd:gq g.disk) (hR:iL g.state) (hw:wV g.wal) (hl:g.state.lsn+1=g.wal.next) (hgen:0<=g.gen/\g.gen<=1000000000) (hdn:g.disk.down=true):qm (XQ g):=by
 have hq:=hR.fine.seq
 exact⟨hd,hR,hw,hl,trivial,⟨by show 1<=g.state.seq+1;omega,by show g.state.seq+1<=_;omega,by simp [XQ],trivial⟩,fun n hn=>(by cases hn),hgen,.inr ⟨rfl,hdn,rfl,rfl,rfl⟩⟩
structure anZ (g:bD) (r:bD×List jQ×Int):Prop where
 sg:SG r.1
 right:qm r.1
 state:r.1.state=g.state
 gen:r.1.gen=g.gen
 next:r.1.wal.next=g.wal.next
 sure:g.wal.sure<=r.1.wal.sure
 how:(r.1.up=true/\(r.2.2=0\/r.2.2=6)/\r.1.feed=g.feed/\r.2.1=goM g.outbox r.1.wal.sure/\r.1.outbox=Nz g.outbox r.1.wal.sure/\(r.2.2=0->r.1.wal.wait=[]))\/(r.1.up=false/\r.2.2=9/\r.2.1=[])
theorem UO {g:bD} (h:jW g≠0):aH g=(g,[],jW g):=by unfold aH;rw[if_pos h]
theorem wo {g:bD} (hg:SG g) (h0:jW g=0):anZ g (aH g):=by
 obtain⟨hG,hu⟩:=pG.1 h0
 obtain⟨hdn,hfit⟩:=Ry hG hu
 obtain⟨h1,h2,h3,h4,h5,h6,h7,h8,h9⟩:=hG
 have q:=Ox hfit hdn
 have hL:=h2.fine.lsn
 unfold aH
 rw[if_neg (fun k=>k h0)]
 have hfu:=(q.keep.bnd hg.bnd.fu).fu
 have hby:=q.byte hg.byte
 have hnx:=q.next
 have hsn:=q.wal.2.2.1
 by_cases hd:(dV g.wal g.disk).2.1.down=true
 ·rw[if_pos hd]
  have e9:(dV g.wal g.disk).2.2=9:=by
   rcases q.code with ⟨-, c, -⟩ | ⟨-, c, -⟩ | ⟨c, -⟩
   ·rw[hd]at c;cases c
   ·rw[hd]at c;cases c
   ·exact c
  have hR:qm (XQ (ab4 g)):=Qc (g:=ab4 g) q.keep.right h2 q.wal (h4.trans hnx.symm) h8 hd
  exact⟨SG.of hR hg.st hg.sh hfu hby (fun n hn=>(by cases hn)),hR,rfl,rfl,hnx,q.sure,.inr ⟨rfl,e9,rfl⟩⟩
 ·rw[if_neg hd]
  have hc:((dV g.wal g.disk).2.2=0\/(dV g.wal g.disk).2.2=6)/\nC (dV g.wal g.disk).1 (dV g.wal g.disk).2.1/\((dV g.wal g.disk).2.2=0->(dV g.wal g.disk).1.wait=[]):=by
   rcases q.code with ⟨c1,-, c2,c3⟩ | ⟨c1,-, c2⟩ | ⟨-, c⟩
   ·exact⟨.inl c1,c2,fun _=>c3⟩
   ·exact⟨.inr c1,c2,fun c=>(by omega)⟩
   ·exact absurd c hd
  have hR:qm ⟨(dV g.wal g.disk).2.1,(dV g.wal g.disk).1,g.state,Nz g.outbox (dV g.wal g.disk).1.sure,g.feed,g.gen,g.up⟩:=
   ⟨q.keep.right,h2,q.wal,h4.trans hnx.symm,aal h5 q.sure,h6,h7,h8,.inl ⟨hu,by simpa using hd,hc.2.1⟩⟩
  exact⟨SG.of hR hg.st hg.sh hfu hby hg.ok,hR,rfl,rfl,hnx,q.sure,.inl ⟨hu,hc.1,rfl,rfl,rfl,hc.2.2⟩⟩
noncomputable def Bo (g:bD) (r:iq):bD×List jQ×Int:=
 if jW g≠0 then (g,[],jW g)else if r.kind≠4/\r.kind≠5 then (g,[],1)else if (doS g.state r).2≠0 then (g,[],(doS g.state r).2)else
 if (aH g).2.2≠0 then aH g else
 if (aS (aH g).1 r).2≠0 then ((aH g).1,(aH g).2.1,(aS (aH g).1 r).2)else
 if (dV (aS (aH g).1 r).1.wal (aS (aH g).1 r).1.disk).2.2=0 then (ab4 (aS (aH g).1 r).1,(aH g).2.1,0)else
 if (dV (aS (aH g).1 r).1.wal (aS (aH g).1 r).1.disk).2.1.down=true then
  (XQ ⟨(dV (aS (aH g).1 r).1.wal (aS (aH g).1 r).1.disk).2.1,(aH g).1.wal,(aH g).1.state,(aH g).1.outbox,(aH g).1.feed,(aH g).1.gen,(aH g).1.up⟩,(aH g).2.1,(dV (aS (aH g).1 r).1.wal (aS (aH g).1 r).1.disk).2.2)
 else ((aH g).1,(aH g).2.1,(dV (aS (aH g).1 r).1.wal (aS (aH g).1 r).1.disk).2.2)
theorem aoh {s:ay} {r:iq} (hr:gG s) (hrr:lm r) (hsh:l9 s):JI s r=some (doS s r).2:=by
 unfold JI
 rw[NW hr hrr hsh.1 hsh.2.2.1 hsh.2.2.2];rfl
theorem QU {g:bD} {r:iq} (hg:SG g) (hr:lm r) (h0:jW g=0) (hf:(aH g).2.2=0) (hn:(aS (aH g).1 r).2=0):
 anv (aH g).1 (aS (aH g).1 r).1/\nC (aS (aH g).1 r).1.wal (aS (aH g).1 r).1.disk/\(aS (aH g).1 r).1.disk.down=false/\(aS (aH g).1 r).1.up=true:=by
 have q:=wo hg h0
 rcases q.how with ⟨hu,-, -, -⟩ | ⟨-, h, -⟩
 case inr=>rw[hf]at h;cases h
 obtain⟨hdn,hfit⟩:=Ry q.right hu
 have p:=(wU q.sg.st q.sg.sh hr hn).1
 exact⟨p,by rw[p.disk];exact p.put.fits hfit,by rw[p.disk];exact hdn,p.up.trans hu⟩
theorem adW {g:bD} {r:iq} (hg:SG g) (hr:lm r):GL g r=some (Bo g r):=by
 unfold GL Bo
 rw[Ey hg,ah,fD,fA]
 by_cases h0:jW g=0
 case neg=>rw[if_neg h0,if_pos h0]
 rw[if_pos h0,if_neg (fun k=>k h0)]
 by_cases hk:r.kind≠4/\r.kind≠5
 ·rw[aA (by simp only[aW,bK,dn,dF,aY,aZ,dA,dB,bP,dJ,bn,bg,dM,dN];exact hk),if_pos hk]
 rw[cZ (by simp only[aW,bK,dn,dF,aY,aZ,dA,dB,bP,dJ,bn,bg,dM,dN];omega),if_neg hk,aoh hg.st hr hg.sh,ah,fD,fA]
 by_cases h1:(doS g.state r).2=0
 case neg=>rw[if_neg h1,if_pos h1]
 rw[if_pos h1,if_neg (fun k=>k h1),Kq hg,ah,fD,fA]
 by_cases hf:(aH g).2.2=0
 case neg=>rw[if_neg hf,if_pos hf]
 have q:=wo hg h0
 rw[if_pos hf,if_neg (fun k=>k hf),JQ q.sg.st q.sg.sh q.sg.wal hr,ah,fD,fA]
 by_cases hn:(aS (aH g).1 r).2=0
 case neg=>rw[if_neg hn,if_pos hn]
 rw[if_pos hn,if_neg (fun k=>k hn)]
 obtain⟨p,hfit,hdn,hup⟩:=QU hg hr h0 hf hn
 rw[Z8 (abk hfit.1) (hfit.2.1.bnd (by rw[p.disk];exact q.sg.bnd.fu)),ah,fA]
 have cq:=Ox hfit hdn
 unfold Sj
 by_cases hc:(dV (aS (aH g).1 r).1.wal (aS (aH g).1 r).1.disk).2.2=0
 ·rw[if_pos hc,if_pos hc]
  have:¬(dV (aS (aH g).1 r).1.wal (aS (aH g).1 r).1.disk).2.1.down=true:=by
   rcases cq.code with ⟨-, c, -⟩ | ⟨c, -⟩ | ⟨c, -⟩
   ·rw[c];simp
   ·omega
   ·omega
  rw[if_neg this]
 ·rw[if_neg hc,if_neg hc]
  by_cases hd:(dV (aS (aH g).1 r).1.wal (aS (aH g).1 r).1.disk).2.1.down=true
  ·rw[if_pos hd,if_pos hd];rfl
  ·rw[if_neg hd,if_neg hd]
   simp only[ab4]
   rw[hup,aX]
structure U9 (g h:bD) (e:Int):Prop where
 sg:SG h
 right:qm g->qm h
 down:g.up=true->(h.up=false↔e=9)
 low:g.up=false->h=g
theorem QT {g:bD} (hg:SG g):U9 g (aH g).1 (aH g).2.2:=by
 by_cases h0:jW g=0
 case neg=>
  rw[UO h0]
  exact⟨hg,id,fun hu=>⟨fun h=>(by rw[hu]at h;cases h),fun h=>absurd h (JL hu)⟩,fun _=>rfl⟩
 have q:=wo hg h0
 refine⟨q.sg,fun _=>q.right,fun hu=> ?_,fun hu=> ?_⟩
 ·rcases q.how with ⟨h1,h2, -⟩ | ⟨h1,h2, -⟩
  ·rw[h1];constructor
   ·intro h;cases h
   ·intro h;omega
  ·exact⟨fun _=>h2,fun _=>h1⟩
 ·have:=(pG.1 h0).2;rw[hu]at this;cases this
theorem Jl {g:bD} (hg:SG g) {e:Int} (he:g.up=true->e≠9):U9 g g e:=
 ⟨hg,id,fun hu=>⟨fun h=>(by rw[hu]at h;cases h),fun h=>absurd h (he hu)⟩,fun _=>rfl⟩
theorem ahq {g:bD} {r:iq} (hg:SG g) (hr:lm r):U9 g (Bo g r).1 (Bo g r).2.2:=by
 unfold Bo
 by_cases h0:jW g=0
 case neg=>rw[if_pos h0];exact Jl hg fun hu=>JL hu
 rw[if_neg (fun k=>k h0)]
 by_cases hk:r.kind≠4/\r.kind≠5
 ·rw[if_pos hk];exact Jl hg fun _=>by simp
 rw[if_neg hk]
 by_cases h1:(doS g.state r).2=0
 case neg=>rw[if_pos h1];exact Jl hg fun _=>agb _ _
 rw[if_neg (fun k=>k h1)]
 by_cases hf:(aH g).2.2=0
 case neg=>rw[if_pos hf];exact QT hg
 rw[if_neg (fun k=>k hf)]
 have q:=wo hg h0
 have hu:=(pG.1 h0).2
 have hfu:(aH g).1.up=true:=by
  rcases q.how with ⟨h, -⟩ | ⟨-, h, -⟩
  ·exact h
  ·rw[hf]at h;cases h
 have same:∀e:Int,e≠9->U9 g (aH g).1 e:=fun e he=>⟨q.sg,fun _=>q.right,fun _=>⟨fun h=>(by rw[hfu]at h;cases h),fun h=>absurd h he⟩,fun h=>by rw[hu]at h;cases h⟩
 by_cases hn:(aS (aH g).1 r).2=0
 case neg=>rw[if_pos hn];exact same _ (QM _ _)
 rw[if_neg (fun k=>k hn)]
 obtain⟨p,hfit,hdn,hup⟩:=QU hg hr h0 hf hn
 have cq:=Ox hfit hdn
 obtain⟨r1,r2,r3,r4,r5,r6,r7,r8,r9⟩:=q.right
 have hdk:Keep (aH g).1.disk (dV (aS (aH g).1 r).1.wal (aS (aH g).1 r).1.disk).2.1:=⟨cq.keep.right,by rw[<-p.disk];exact cq.keep.fz,by rw[<-p.disk];exact cq.keep.room⟩
 have hbk:iR (dV (aS (aH g).1 r).1.wal (aS (aH g).1 r).1.disk).2.1:=cq.byte (by rw[p.disk];exact q.sg.byte)
 have hfk:=(hdk.bnd q.sg.bnd.fu).fu
 by_cases hc:(dV (aS (aH g).1 r).1.wal (aS (aH g).1 r).1.disk).2.2=0
 ·rw[if_pos hc]
  have hcd:(dV (aS (aH g).1 r).1.wal (aS (aH g).1 r).1.disk).2.1.down=false/\nC (dV (aS (aH g).1 r).1.wal (aS (aH g).1 r).1.disk).1 (dV (aS (aH g).1 r).1.wal (aS (aH g).1 r).1.disk).2.1/\(dV (aS (aH g).1 r).1.wal (aS (aH g).1 r).1.disk).1.wait=[]:=by
   rcases cq.code with ⟨-, c,c2,c3⟩ | ⟨c, -⟩ | ⟨c, -⟩
   ·exact⟨c,c2,c3⟩
   ·omega
   ·omega
  have hout:(aH g).1.outbox=[]:=by
   rcases q.how with ⟨-, -, -, -, ho,hw⟩ | ⟨-, h, -⟩
   ·have hw:=hw hf
    have h5:=r3.2.2.2.2.1
    rw[hw]at h5
    simp only[List.length_nil]at h5
    have:=r5
    rw[ho]at this ⊢
    cases hs:Nz g.outbox (aH g).1.wal.sure with
    |nil=>rfl
    |cons m t=>
     rw[hs]at this
     have a1:=this.2.1
     have a2:=this.2.2.1
     exfalso;omega
   ·rw[hf]at h;cases h
  have hseq:(aS (aH g).1 r).1.state.seq=(aH g).1.state.seq:=by
   obtain⟨-, d1,d2⟩:=wU q.sg.st q.sg.sh hr hn
   rw[d2,((O5 _ r).good d1).2.2.1,if_neg (by omega)]
  have hR:qm (ab4 (aS (aH g).1 r).1):=by
   refine⟨cq.keep.right,p.R,cq.wal,?_,?_,?_,?_,?_,.inl ⟨hup,hcd.1,hcd.2.1⟩⟩
   ·show(aS (aH g).1 r).1.state.lsn+1=(dV (aS (aH g).1 r).1.wal (aS (aH g).1 r).1.disk).1.next
    rw[cq.next,p.put.next,p.lsn];omega
   ·show DC (aS (aH g).1 r).1.outbox _ _
    rw[p.out,hout];trivial
   ·show Vp (aS (aH g).1 r).1.feed ((aS (aH g).1 r).1.state.seq+1)
    rw[p.feed,hseq];exact r6
   ·show ∀n∈(aS (aH g).1 r).1.feed.held,_
    rw[p.feed];exact r7
   ·show 0<=(aS (aH g).1 r).1.gen/\(aS (aH g).1 r).1.gen<=1000000000
    rw[p.gen];exact r8
  refine⟨SG.of hR p.st p.sh hfk hbk ?_,fun _=>hR,fun _=>⟨fun h=> ?_,fun h=>(by cases h)⟩,fun h=>by rw[hu]at h;cases h⟩
  ·show ∀n∈(aS (aH g).1 r).1.feed.held,_
   rw[p.feed];exact q.sg.ok
  ·have:(aS (aH g).1 r).1.up=false:=h
   rw[hup]at this;cases this
 rw[if_neg hc]
 by_cases hd:(dV (aS (aH g).1 r).1.wal (aS (aH g).1 r).1.disk).2.1.down=true
 ·rw[if_pos hd]
  have e9:(dV (aS (aH g).1 r).1.wal (aS (aH g).1 r).1.disk).2.2=9:=by
   rcases cq.code with ⟨-, c, -⟩ | ⟨-, c, -⟩ | ⟨c, -⟩
   ·rw[hd]at c;cases c
   ·rw[hd]at c;cases c
   ·exact c
  have hR:=Qc (g:=⟨(dV (aS (aH g).1 r).1.wal (aS (aH g).1 r).1.disk).2.1,(aH g).1.wal,(aH g).1.state,(aH g).1.outbox,(aH g).1.feed,(aH g).1.gen,(aH g).1.up⟩) hdk.right r2 r3 r4 r8 hd
  exact⟨SG.of hR q.sg.st q.sg.sh hfk hbk (fun n hn=>(by cases hn)),fun _=>hR,fun _=>⟨fun _=>e9,fun _=>rfl⟩,fun h=>by rw[hu]at h;cases h⟩
 ·rw[if_neg hd]
  refine same _ fun h=>hd ?_
  rcases cq.code with ⟨c, -⟩ | ⟨c, -⟩ | ⟨-, c⟩
  ·exact absurd (c.symm.trans h) (by decide)
  ·exact absurd (c.symm.trans h) (by decide)
  ·exact c
theorem aeA {d:ak} {s:ay} (h:gq d):Keep d (lU d s).1:=by
 unfold lU
 split
 ·exact Keep.refl h
 split
 ·exact Keep.refl h
 split
 ·exact Keep.refl h
 ·have:=XT (gen:=(dZ d).1.gen+1) (rM d ((dZ d).1.gen+1) s.lsn (encZ s)).1.files (afo (gen:=(dZ d).1.gen+1) (lsn:=s.lsn) (b:=encZ s) h)
  unfold VU
  split<;>exact this
theorem akE {n:Nm} (h:jD rE n≠0):n≠iK/\n≠n0/\n≠n1/\jD nK n=0:=by
 obtain⟨h1,h2⟩:=UG h
 have h3:=TY h1
 rw[<-h2]at h3
 refine⟨fun e=> ?_,fun e=> ?_,fun e=> ?_,?_⟩
 ·rw[e]at h3;simp [iK]at h3
 ·rw[e]at h3;simp [n0]at h3
 ·rw[e]at h3;simp [n1]at h3
 ·by_cases hz:jD nK n=0
  ·exact hz
  ·obtain⟨k1,k2⟩:=ajU hz
   have:=OA k1
   rw[<-k2]at this;omega
theorem ahA {D x:ak} {gen:Int} {b w:List Int} (hG:jZ gen) (h:Ci D x\/UX D gen b w x\/Ju D gen b w x) {n:Nm} (hn:jD rE n≠0):dm x.files n=dm D.files n:=by
 obtain⟨h1,h2,h3,h4⟩:=akE hn
 have hs:n≠nmS gen:=by unfold nmS;split<;>assumption
 have hg:n≠jM gen:=fun e=>by rw[e,aaw hG]at h4;unfold jZ at hG;omega
 rcases h with h | h | h
 ·exact h.oth n h1
 ·exact h.oth n h1 hg hs
 ·exact h.oth n h1 hs h4
structure acD (w:fO) (d:ak) (r:ak×Int):Prop where
 keep:Keep d r.1
 byte:iR d->iR r.1
 down:uS r
 fits:r.2≠9->nC w r.1
theorem ahr {w:fO} {d:ak} {s:ay} (hf:nC w d) (hu:d.down=false) (hs:iL s):acD w d ((lU d s).1,(lU d s).2.2)/\((lU d s).2.2=0->0<=(lU d s).2.1/\(lU d s).2.1<=1000000000):=by
 have hU:UpD d:=⟨hf.2.1,hu⟩
 have hk:=aeA (s:=s) hf.2.1
 have hg0:=Oq d
 refine⟨⟨hk,ag2,ahW hu,fun _=> ?_⟩,fun h0=> ?_⟩
 ·by_cases hg:(dZ d).1.gen<1000000000
  ·have hG:jZ ((dZ d).1.gen+1):=by unfold jZ;omega
   have q:=YR hU hs hg hs.fine.lsn
   have hst:Ci d (lU d s).1\/UX d ((dZ d).1.gen+1) (encZ s) (yG ⟨(dZ d).1.gen+1,s.lsn⟩) (lU d s).1\/Ju d ((dZ d).1.gen+1) (encZ s) (yG ⟨(dZ d).1.gen+1,s.lsn⟩) (lU d s).1:=by
    rcases q.how with ⟨-, -, -, h, -⟩ | ⟨-, -, h⟩
    ·exact .inr (.inr h)
    ·exact h
   exact ahg hf hk.right fun n hn=>ahA hG hst hn
  ·have:(lU d s).1=d:=by
    unfold lU
    split
    ·rfl
    split
    ·rfl
    rw[if_pos (by omega)]
   show nC w (lU d s).1
   rw[this];exact hf
 ·by_cases hg:(dZ d).1.gen<1000000000
  ·have q:=YR hU hs hg hs.fine.lsn
   rcases q.how with ⟨-, h, -⟩ | ⟨h,-, -⟩
   ·rw[h];omega
   ·rw[h];omega
  ·exfalso
   unfold lU at h0
   split at h0
   ·cases h0
   split at h0
   ·cases h0
   rw[if_pos (by omega)]at h0;cases h0
theorem Uk {w:fO} {lsn:Int}:∀(l:List Int) (d:ak),(∀n∈l,jZ n)->nC w d->d.down=false->acD w d (Ad w lsn l d)
 |[],d,hg,hf,hu=>by rw[Ad];exact⟨Keep.refl hf.2.1,id,ji hu (by simp),fun _=>hf⟩
 |n::r,d,hg,hf,hu=>by
  have hgr:∀m∈r,jZ m:=fun m hm=>hg m (by simp [hm])
  have hgn:=hg n (by simp)
  have hn:=Dk hgn
  rw[Ad]
  split
  ·exact Uk r d hgr hf hu
  rename_i hseg
  split
  ·exact⟨Keep.refl hf.2.1,id,ji hu (by simp),fun _=>hf⟩
  have hk:=rW (n:=kE n) hf.2.1
  cases hgt:dm d.files (kE n)with
  |none=>
   have e:gu d (kE n)=(d,7):=by
    unfold gu
    rw[if_neg (fun g=>g (kK.2 ⟨hf.2.1,hu,fun m hm=>by rw[List.mem_singleton.1 hm];exact hn⟩)),hgt]
   rw[e,if_pos (by simp)]
   exact⟨Keep.refl hf.2.1,id,ji hu (by simp),fun _=>hf⟩
  |some f=>
   obtain⟨c1,c2,c3,-, -⟩:=JA ⟨hf.2.1,hu⟩ hn hgt
   rcases c1.cases with c | ⟨c,cd, -⟩
   ·rw[if_neg (fun g=>g c)]
    have hf2:nC w (gu d (kE n)).1:=by
     refine abJ hf.1 hk.right (fun m k hm=> ?_) ?_
     ·rw[c2 c m]at hm
      split at hm
      ·cases hm
      ·exact TN hf hm
     ·rcases hf.2.2.2 with hz | ⟨k,k1,k2⟩
      ·exact .inl hz
      ·by_cases hz:w.seg=0
       ·exact .inl hz
       ·refine .inr ⟨k,?_,k2⟩
        rw[c2 c _,if_neg (fun e=>hseg (ahn (hf.1.seg hz).1 hgn e).symm)];exact k1
    have ih:=Uk (w:=w) (lsn:=lsn) r (gu d (kE n)).1 hgr hf2 (c1.up c).up
    exact⟨hk.trans ih.keep,fun h=>ih.byte (Dv h),ih.down,ih.fits⟩
   ·rw[if_pos (by rw[c];simp)]
    exact⟨hk,fun h=>Dv h,NJ hu,fun h=>absurd c h⟩
theorem aku {w:fO} {d:ak} {lsn:Int} (hf:nC w d) (hu:d.down=false):acD w d (Xi w d lsn):=by
 unfold Xi
 rw[if_pos hf]
 exact Uk _ d WQ hf hu
noncomputable def Jk (g:bD):ak×Int:=if (lU g.disk g.state).2.2=0 then Xi g.wal (lU g.disk g.state).1 g.state.lsn else ((lU g.disk g.state).1,(lU g.disk g.state).2.2)
noncomputable def Vs (g:bD):bD:=⟨(Jk g).1,g.wal,g.state,g.outbox,g.feed,if (Jk g).2=0 then (lU g.disk g.state).2.1 else g.gen,g.up⟩
noncomputable def uO (g:bD):bD×List jQ×Int:=
 if (aH g).2.2≠0 then aH g else
 (if (Jk (aH g).1).1.down=true then XQ (Vs (aH g).1)else Vs (aH g).1,(aH g).2.1,(Jk (aH g).1).2)
structure aou (g:bD):Prop where
 kept:acD g.wal g.disk (Jk g)
 gen:(Jk g).2=0->0<=(lU g.disk g.state).2.1/\(lU g.disk g.state).2.1<=1000000000
 first:acD g.wal g.disk ((lU g.disk g.state).1,(lU g.disk g.state).2.2)
theorem abq {g:bD} (hG:qm g) (hu:g.up=true):aou g:=by
 obtain⟨hdn,hfit⟩:=Ry hG hu
 have q:=ahr hfit hdn hG.2.1
 refine⟨?_,fun h=> ?_,q.1⟩
 ·unfold Jk
  by_cases h0:(lU g.disk g.state).2.2=0
  ·rw[if_pos h0]
   have hu2:=q.1.down.up (by show(lU g.disk g.state).2.2≠9;omega)
   have p:=aku (lsn:=g.state.lsn) (q.1.fits (by show(lU g.disk g.state).2.2≠9;omega)) hu2
   exact⟨q.1.keep.trans p.keep,fun h=>p.byte (q.1.byte h),p.down,p.fits⟩
  ·rw[if_neg h0];exact q.1
 ·unfold Jk at h
  by_cases h0:(lU g.disk g.state).2.2=0
  ·exact q.2 h0
  ·rw[if_neg h0]at h;exact absurd h h0
theorem YZ {g:bD} (hg:SG g) (hf:(aH g).2.2=0):jW g=0/\anZ g (aH g)/\(aH g).1.up=true:=by
 by_cases h0:jW g=0
 ·have q:=wo hg h0
  refine⟨h0,q,?_⟩
  rcases q.how with ⟨h, -⟩ | ⟨-, h, -⟩
  ·exact h
  ·rw[hf]at h;cases h
 ·rw[UO h0]at hf;exact absurd hf h0
theorem aed {g:bD} (hg:SG g):He g=some (uO g):=by
 unfold He uO
 rw[Kq hg,ah,fD,fA]
 by_cases hf:(aH g).2.2=0
 case neg=>rw[if_neg hf,if_pos hf]
 obtain⟨h0,q,hu⟩:=YZ hg hf
 have sq:=abq q.right hu
 rw[if_pos hf,if_neg (fun k=>k hf),ab9 q.sg.bnd q.sg.byte q.sg.st q.sg.sh,ah,fA,fA]
 unfold Vs
 have sk:=sq.kept
 unfold Jk at sk ⊢
 by_cases hs:(lU (aH g).1.disk (aH g).1.state).2.2=0
 ·rw[if_pos hs]at sk
  rw[if_pos hs,if_pos hs,Xm q.sg.wal (sq.first.keep.bnd q.sg.bnd.fu),ah,fA]
  by_cases hd:(Xi (aH g).1.wal (lU (aH g).1.disk (aH g).1.state).1 (aH g).1.state.lsn).2=0
  ·have:=sk.down.up (by rw[hd];simp)
   rw[if_pos hd,if_pos hd,if_neg (by rw[this];simp)]
  ·rw[if_neg hd,if_neg hd,Ig]
   split
   ·rfl
   ·rfl
 ·rw[if_neg hs,if_neg hs,if_neg hs,Ig]
  simp only
  rw[if_neg hs]
  split
  ·rfl
  ·rfl
theorem aaJ {g:bD} (hg:SG g):U9 g (uO g).1 (uO g).2.2:=by
 unfold uO
 by_cases hf:(aH g).2.2=0
 case neg=>rw[if_pos hf];exact QT hg
 obtain⟨h0,q,hu⟩:=YZ hg hf
 have sq:=abq q.right hu
 rw[if_neg (fun k=>k hf)]
 have hgu:=(pG.1 h0).2
 obtain⟨r1,r2,r3,r4,r5,r6,r7,r8,r9⟩:=q.right
 have hfk:=(sq.kept.keep.bnd q.sg.bnd.fu).fu
 have hbk:=sq.kept.byte q.sg.byte
 have hgen:0<=(Vs (aH g).1).gen/\(Vs (aH g).1).gen<=1000000000:=by
  unfold Vs
  simp only
  split
  ·rename_i h;exact sq.gen h
  ·exact r8
 have hdq:=sq.kept.down
 unfold uS at hdq
 by_cases hd:(Jk (aH g).1).1.down=true
 ·rw[if_pos hd]
  have hR:=Qc (g:=Vs (aH g).1) sq.kept.keep.right r2 r3 r4 hgen hd
  exact⟨SG.of hR q.sg.st q.sg.sh hfk hbk (fun n hn=>(by cases hn)),fun _=>hR,fun _=>⟨fun _=>hdq.1 hd,fun _=>rfl⟩,fun h=>by rw[hgu]at h;cases h⟩
 ·rw[if_neg hd]
  have h9:(Jk (aH g).1).2≠9:=fun h=>hd (hdq.2 h)
  have hR:qm (Vs (aH g).1):=⟨sq.kept.keep.right,r2,r3,r4,r5,r6,r7,hgen,.inl ⟨hu,(by simpa using hd:(Jk (aH g).1).1.down=false),sq.kept.fits h9⟩⟩
  refine⟨SG.of hR q.sg.st q.sg.sh hfk hbk q.sg.ok,fun _=>hR,fun _=>⟨fun h=> ?_,fun h=>absurd h h9⟩,fun h=>by rw[hgu]at h;cases h⟩
  have:(aH g).1.up=false:=h
  rw[hu]at this;cases this
noncomputable def dY:bD->List dQ->bD×Int
 |g,[]=>(g,0)
 |g,n::r=>if (aS g (jk n)).2=0 then dY (aS g (jk n)).1 r else (g,(aS g (jk n)).2)
open Classical in
noncomputable def Ah (g:bD) (n:dQ):bD×Int:=
 if jW g≠0 then (g,jW g)else if ¬qQ (jk n)then (g,1)else
 if (kz g.feed n (g.state.seq+1)).2.2≠0 then (g,(kz g.feed n (g.state.seq+1)).2.2)else
 if 1000000000<g.state.lsn+((kz g.feed n (g.state.seq+1)).2.1.length:Int)then (g,3)else
 if 32<(kz g.feed n (g.state.seq+1)).2.1.length+g.wal.wait.length then (g,6)else
 if (dY g (kz g.feed n (g.state.seq+1)).2.1).2≠0 then (g,(dY g (kz g.feed n (g.state.seq+1)).2.1).2)else
 (⟨(dY g (kz g.feed n (g.state.seq+1)).2.1).1.disk,(dY g (kz g.feed n (g.state.seq+1)).2.1).1.wal,(dY g (kz g.feed n (g.state.seq+1)).2.1).1.state,(dY g (kz g.feed n (g.state.seq+1)).2.1).1.outbox,
   (kz g.feed n (g.state.seq+1)).1,(dY g (kz g.feed n (g.state.seq+1)).2.1).1.gen,(dY g (kz g.feed n (g.state.seq+1)).2.1).1.up⟩,0)
structure aob (g h:bD) (k:Int):Prop where
 disk:h.disk=g.disk
 wal:wV h.wal
 fits:nC g.wal g.disk->nC h.wal g.disk
 next:h.wal.next=g.wal.next+k
 sure:h.wal.sure=g.wal.sure
 R:iL h.state
 lsn:h.state.lsn=g.state.lsn+k
 seq:h.state.seq=g.state.seq+k
 out:h.outbox=g.outbox
 feed:h.feed=g.feed
 gen:h.gen=g.gen
 up:h.up=g.up
 st:gG h.state
 sh:l9 h.state
theorem ahl {g:bD} {n:dQ} (hs:gG g.state) (hsh:l9 g.state) (hn:mr n) (h:(aS g (jk n)).2=0):(aS g (jk n)).1.state.seq=g.state.seq+1:=by
 obtain⟨-, d1,d2⟩:=wU hs hsh (IB hn) h
 rw[d2,((O5 _ _).good d1).2.2.1,if_pos (show(jk n).kind=6 from rfl)]
theorem YI:∀(l:List dQ) (g:bD),(∀n∈l,mr n)->wV g.wal->iL g.state->gG g.state->l9 g.state->(dY g l).2=0->aob g (dY g l).1 l.length
 |[],g,_,hw,hR,hs,hsh,_=>⟨rfl,hw,id,by simp [dY],rfl,hR,by simp [dY],by simp [dY],rfl,rfl,rfl,rfl,hs,hsh⟩
 |n::r,g,hl,hw,hR,hs,hsh,h=>by
  rw[dY]at h ⊢
  by_cases h0:(aS g (jk n)).2=0
  case neg=>rw[if_neg h0]at h;exact absurd h h0
  rw[if_pos h0]at h ⊢
  have hn:=hl n (by simp)
  have p:=(wU hs hsh (IB hn) h0).1
  have ih:=YI r _ (fun m hm=>hl m (by simp [hm])) p.put.wal p.R p.st p.sh h
  have hq:=ahl hs hsh hn h0
  refine⟨ih.disk.trans p.disk,ih.wal,fun hf=> ?_,?_,ih.sure.trans p.put.sure,ih.R,?_,?_,ih.out.trans p.out,ih.feed.trans p.feed,ih.gen.trans p.gen,ih.up.trans p.up,ih.st,ih.sh⟩
  ·have:=ih.fits (by rw[p.disk];exact p.put.fits hf)
   rwa[p.disk]at this
  ·rw[ih.next,p.put.next];simp only[List.length_cons];omega
  ·rw[ih.lsn,p.lsn];simp only[List.length_cons];omega
  ·rw[ih.seq,hq];simp only[List.length_cons];omega
theorem XY:∀(l:List dQ) (g:bD),(dY g l).2≠9
 |[],g=>by simp [dY]
 |n::r,g=>by
  rw[dY]
  split
  ·exact XY r _
  ·exact QM _ _
theorem afl {l:List dQ} {i:Nat} (hi:i<l.length) (g:bD):dY g (l.drop i)=if (aS g (jk l[i])).2=0 then dY (aS g (jk l[i])).1 (l.drop (i+1))else (g,(aS g (jk l[i])).2):=by
 rw[List.drop_eq_getElem_cons hi];rfl
structure aiz (h:bD):Prop where
 st:gG h.state
 sh:l9 h.state
 wal:Aa h.wal
theorem aiz.next {h:bD} {n:dQ} (m:aiz h) (hn:mr n) (h0:(aS h (jk n)).2=0):aiz (aS h (jk n)).1:=by
 have p:=(wU m.st m.sh (IB hn) h0).1
 exact⟨p.st,p.sh,abk p.put.wal⟩
theorem alc {l:List dQ} {g:bD} (z:bD) (hl:l.length<999) (hok:∀n∈l,mr n) (hm:aiz g):Wq (bV (fun v:Int×Int×Int×bD×bD=>oL (len l) l g v.1 v.2.1 v.2.2.1 v.2.2.2.1 v.2.2.2.2) LF (0,0,0,g,z)) fun w=>match w with
 |.inl x=>x.2.2=g/\x.1=(dY g l).2/\x.1≠0
 |.inr x=>x.2.2.1=(dY g l).1/\(dY g l).2=0:=by
 refine lD (n:=l.length) (by omega) (fun i x=>aiz x.2.2.1/\dY g l=dY x.2.2.1 (l.drop i)) _ ?_ ?_ _ 0 (Nat.zero_le _) ⟨hm,by simp⟩
 ·rintro i ⟨x1,x2,s,x4⟩ hi ⟨g1,g3⟩
  simp only at g1 g3
  simp only[oL]
  have hn:=hok _ (List.getElem_mem hi)
  rw[aA (by rw[eX];simpa using hi),aA (inb l i hi),bC l i hi,show iD l[i]=some (jk l[i])from rfl,ah,JQ g1.st g1.sh g1.wal (IB hn),ah,fP,ai,ai]
  rw[afl hi]at g3
  refine⟨fun hz=> ?_,fun hz=> ?_⟩
  ·rw[aY,bg]at hz
   rw[if_neg hz]at g3
   exact⟨rfl,by rw[g3],hz⟩
  ·rw[aZ,bn]at hz
   rw[if_pos hz]at g3
   exact⟨dG (by omega),g1.next hn hz,g3⟩
 ·rintro⟨x1,x2,s,x4⟩ ⟨g1,g3⟩
  simp only at g1 g3
  simp only[oL]
  rw[cZ (Nk _),ai]
  rw[List.drop_length]at g3
  have g3:dY g l=(s,0):=g3
  rw[g3]
  exact⟨rfl,rfl⟩
theorem aaY {g:bD} (hg:SG g) {n:dQ} (hn:mr n) (h0:jW g=0):(kz g.feed n (g.state.seq+1)).2.1.length<=9/\(∀m∈(kz g.feed n (g.state.seq+1)).2.1,mr m)/\(∀m∈(kz g.feed n (g.state.seq+1)).1.held,mr m):=by
 have cm:=ac7 (f:=g.feed) (n:=n) (x:=g.state.seq+1)
 have h8:=(pG.1 h0).1.2.2.2.2.2.1.2.2.1
 have hmem:∀m,m∈g.feed.held\/m=n->mr m:=fun m hm=>by
  rcases hm with hm | rfl
  ·exact hg.ok m hm
  ·exact hn
 exact⟨by have:=cm.2.1;omega,fun m hm=>hmem m (cm.2.2.2 m hm),fun m hm=>hmem m (cm.2.2.1 m hm)⟩
theorem acO {g:bD} {n:dQ} (hg:SG g) (hn:mr n):GV g n=some (Ah g n):=by
 unfold GV Ah
 rw[Ey hg,ah,fD,fA]
 by_cases h0:jW g=0
 case neg=>rw[if_neg h0,if_pos h0]
 rw[if_pos h0,if_neg (fun k=>k h0),show iD n=some (jk n)from rfl,ah]
 obtain⟨b,hb,hbq⟩:=qJ (jk n)
 rw[hb,ah]
 cases b with
 |false=>rw[if_pos (fun k=>by have:=hbq.2 k;cases this)];rfl
 |true=>
 rw[if_neg (fun k=>k (hbq.1 rfl)),aJ,aU]
 have hG:=(pG.1 h0).1
 have hq:=hG.2.1.fine.seq
 have hL:=hG.2.1.fine.lsn
 have hwl:=hG.2.2.1.2.2.2.1
 have hw:wr .i64 (ax g.state.seq 1)=g.state.seq+1:=bM (by simp only[ax];omega) (by simp only[ax];omega)
 rw[hw,Vb,ah,fD,fA]
 obtain⟨c1,c2,c3⟩:=aaY hg hn h0
 generalize kz g.feed n (g.state.seq+1)=C at*
 obtain⟨f,l,e⟩:=C
 simp only at*
 by_cases he:e=0
 case neg=>rw[if_neg he,if_pos he]
 subst he
 rw[if_pos rfl,if_neg (fun k=>k rfl),show len l=(l.length:Int)from rfl,show len g.wal.wait=(g.wal.wait.length:Int)from rfl,show ax g.state.lsn (l.length:Int)=g.state.lsn+(l.length:Int)from rfl,bM (by omega) (by omega),ES]
 by_cases ho:1000000000<g.state.lsn+(l.length:Int)
 ·rw[if_pos ho,if_pos ho]
 rw[if_neg ho,if_neg ho,show ax (l.length:Int) (g.wal.wait.length:Int)=(l.length:Int)+(g.wal.wait.length:Int)from rfl,bM (by omega) (by omega),ES]
 by_cases hf:32<l.length+g.wal.wait.length
 ·rw[if_pos (by omega),if_pos hf]
 rw[if_neg (by omega),if_neg hf]
 obtain⟨w,w1,w2⟩:=alc (bD.mk (ak.mk [] 0 0 false) (fO.mk 0 0 0 0 0 []) (ay.mk 0 0 [] [] [] [] false 0 0 0) [] (gJ.mk [] false) 0 false) (by omega) c2 ⟨hg.st,hg.sh,hg.wal⟩
 have w1':bV (fun v:Int×Int×Int×bD×bD=>oL (l.length:Int) l g v.1 v.2.1 v.2.2.1 v.2.2.2.1 v.2.2.2.2) LF (0,0,0,g,bD.mk (ak.mk [] 0 0 false) (fO.mk 0 0 0 0 0 []) (ay.mk 0 0 [] [] [] [] false 0 0 0) [] (gJ.mk [] false) 0 false)=some w:=w1
 rw[w1',ah]
 match w,w2 with
 |.inl x,⟨a1,a2,a3⟩=>simp only[gX];rw[if_pos (by rw[<-a2];exact a3),a1,a2]
 |.inr x,⟨a1,a2⟩=>simp only[gX];rw[if_neg (fun k=>k a2),a1]
theorem aia (f:gJ) (n:dQ) (x:Int):(kz f n x).2.2≠9:=by
 unfold kz
 split
 ·simp
 split
 ·simp
 split
 ·simp
 split
 ·simp
 split<;>simp
theorem ah3 {g:bD} {n:dQ} (hg:SG g) (hn:mr n):U9 g (Ah g n).1 (Ah g n).2/\(Ah g n).1.disk=g.disk/\(Ah g n).1.wal.sure=g.wal.sure/\(Ah g n).1.gen=g.gen/\(Ah g n).1.outbox=g.outbox:=by
 have same:∀e:Int,e≠9->U9 g (g,e).1 (g,e).2/\(g,e).1.disk=g.disk/\(g,e).1.wal.sure=g.wal.sure/\(g,e).1.gen=g.gen/\(g,e).1.outbox=g.outbox:=fun e he=>⟨Jl hg fun _=>he,rfl,rfl,rfl,rfl⟩
 unfold Ah
 by_cases h0:jW g=0
 case neg=>rw[if_pos h0];exact⟨Jl hg fun hu=>JL hu,rfl,rfl,rfl,rfl⟩
 rw[if_neg (fun k=>k h0)]
 by_cases hr:qQ (jk n)
 case neg=>rw[if_pos hr];exact same 1 (by simp)
 rw[if_neg (fun k=>k hr)]
 obtain⟨hG,hu⟩:=pG.1 h0
 obtain⟨hdn,hfit⟩:=Ry hG hu
 obtain⟨c1,c2,c3⟩:=aaY hg hn h0
 have c9:=aia g.feed n (g.state.seq+1)
 have cok:=afZ (f:=g.feed) (n:=n) (x:=g.state.seq+1)
 generalize kz g.feed n (g.state.seq+1)=C at*
 obtain⟨f,l,e⟩:=C
 simp only at c1 c2 c3 c9 cok ⊢
 by_cases he:e=0
 case neg=>rw[if_pos he];exact same e c9
 have cq:=cok he
 rw[if_neg (fun k=>k he)]
 by_cases ho:1000000000<g.state.lsn+(l.length:Int)
 ·rw[if_pos ho];exact same 3 (by simp)
 rw[if_neg ho]
 by_cases hf:32<l.length+g.wal.wait.length
 ·rw[if_pos hf];exact same 6 (by simp)
 rw[if_neg hf]
 by_cases hz:(dY g l).2=0
 case neg=>rw[if_pos hz];exact same _ (XY _ _)
 rw[if_neg (fun k=>k hz)]
 obtain⟨h1,h2,h3,h4,h5,h6,h7,h8,h9⟩:=hG
 have q:=YI l g c2 h3 h2 hg.st hg.sh hz
 have hR:qm ⟨(dY g l).1.disk,(dY g l).1.wal,(dY g l).1.state,(dY g l).1.outbox,f,(dY g l).1.gen,(dY g l).1.up⟩:=by
  have hqs:=q.R.fine.seq
  have hls:=q.R.fine.lsn
  have e1:=q.seq
  have e2:=q.lsn
  have hx:(dY g l).1.state.seq+1=g.state.seq+1+(l.length:Int):=by omega
  refine⟨?_,q.R,q.wal,?_,?_,⟨?_,?_,cq.len,?_⟩,?_,?_,.inl ⟨q.up.trans hu,?_,?_⟩⟩
  ·show gq (dY g l).1.disk
   rw[q.disk];exact h1
  ·show(dY g l).1.state.lsn+1=(dY g l).1.wal.next
   rw[e2,q.next];omega
  ·show DC (dY g l).1.outbox (dY g l).1.wal.sure (dY g l).1.state.lsn
   rw[q.out,q.sure];exact af9 h5 (by omega)
  ·show 1<=(dY g l).1.state.seq+1
   omega
  ·show(dY g l).1.state.seq+1<=1000000001
   omega
  ·show uJ f.held ((dY g l).1.state.seq+1) ((dY g l).1.state.seq+1)
   rw[hx];exact cq.held
  ·intro m hm
   rcases cq.mem m hm with c | c
   ·exact h7 m c
   ·rw[c];exact hr
  ·show 0<=(dY g l).1.gen/\(dY g l).1.gen<=1000000000
   rw[q.gen];exact h8
  ·show(dY g l).1.disk.down=false
   rw[q.disk];exact hdn
  ·show nC (dY g l).1.wal (dY g l).1.disk
   rw[q.disk];exact q.fits hfit
 refine⟨⟨SG.of hR q.st q.sh ?_ ?_ c3,fun _=>hR,fun _=>⟨fun h=> ?_,fun h=>(by cases h)⟩,fun h=>(by rw[hu]at h;cases h)⟩,q.disk,q.sure,q.gen,q.out⟩
 ·show inI (dY g l).1.disk.fuse
  rw[q.disk];exact hg.bnd.fu
 ·show iR (dY g l).1.disk
  rw[q.disk];exact hg.byte
 ·have:(dY g l).1.up=false:=h
  rw[q.up,hu]at this;cases this
theorem acU {g:bD} {r:iq} (hg:SG g) (hr:lm r):U9 g (lV g r).1 (lV g r).2:=by
 obtain⟨h1,h2,h3,-, -, -, h7⟩:=ab1 hg hr
 refine⟨h1,h2,fun hu=>⟨fun h=> ?_,fun h=>absurd h (h7 hu)⟩,fun hl=> ?_⟩
 ·rw[h3,hu]at h;cases h
 ·unfold lV
  rw[if_pos (fun k=>by have:=(pG.1 k).2;rw[hl]at this;cases this)]
theorem ahC (g:bD) (k:V4 g):Wq (qp g) fun b=>b=true->SG g/\g.outbox.length<=99/\g.feed.held.length<=99:=by
 unfold qp
 refine(ahu g.disk k.disk_files).bind fun b hb=> ?_
 refine Wq.bind (Q:=fun c=>c=true->b=true/\l9 g.state) ?_ fun c hc=> ?_
 ·rw[fP]
  exact⟨fun h1=>(akC g.state).mono fun c hc h=>⟨h1,hc h⟩,fun _=>(ai _).2 fun h=>by cases h⟩
 ·rw[ai]
  intro h
  simp only[aW,bK,dn,dF,aY,aZ,dA,dB,bP,dJ,bn,bg,dM,dN,len]at h
  obtain⟨⟨⟨⟨h1,h2⟩,h3⟩,h4⟩,h5⟩:=h
  have hd:RI g.disk:=⟨k.disk_files,k.disk_room,k.disk_fuse⟩
  have hs:=hb h1
  refine⟨⟨⟨k.state_accounts,k.state_symbols,k.state_orders,k.state_cells,k.state_limits,k.state_caps,k.state_last,k.state_seq,k.state_lsn⟩,(hc h2).2,⟨k.wal_epoch,k.wal_next,k.wal_sure,k.wal_seg,k.wal_count,by omega⟩,by omega,ahs hd hs,ak0 hd,hs.1,by omega,by omega,fun n hn=>k.feed_held.1 n hn,k.gen⟩,by omega,by omega⟩
def ofP (g:bD):bH:=⟨g.state,g.outbox,g.feed⟩
theorem F5 {g:bD} (h:SG g):mP g=some (ofP g):=by
 unfold mP
 rw[show bY g.outbox=some g.outbox from lW (by have:=h.ol;omega),ah,show dD g.feed.held=some g.feed.held from lW (by have:=h.hl;omega),ah];rfl
theorem SG.plain {g:bD} (h:SG g) (hG:qm g):SP (ofP g)/\(ofP g).outbox.length<=100/\(ofP g).feed.held.length<=100/\Fz (ofP g):=by
 obtain⟨h1,h2,h3,h4,h5,h6,h7,h8,h9⟩:=hG
 have hs:=h3.2.2.1
 have hw:=h3.2.2.2.1
 have h10:=h3.2.2.2.2.1
 have ho:=Xa h5 (by omega)
 have hh:=h6.2.2.1
 have e1:(ofP g).outbox.length<=100:=by show g.outbox.length<=100;omega
 have e2:(ofP g).feed.held.length<=100:=by show g.feed.held.length<=100;omega
 exact⟨⟨h.st,h.sh,by omega,by omega,h.ok⟩,e1,e2,h7,h2,ahN h5 hs.1,h6⟩
theorem Tc {p:bH} (h:SP p):eF p p=some true:=afy p h.sh (by have:=h.ol;omega) (by have:=h.hl;omega)
noncomputable def acj (p:bH) (r:iq):bH×Int:=if r.kind<1\/3<r.kind then (p,1)else if (doS p.state r).2≠0 then (p,(doS p.state r).2)else
 (⟨(doS p.state r).1,p.outbox++[ofM r.kind (aj (doS p.state r).1.orders (itn (LZ (doS p.state r).1.orders r.order))) (doS p.state r).1.lsn],p.feed⟩,0)
theorem Yz {p:bH} {r:iq} (h:SP p) (hol:p.outbox.length<=100) (hr:lm r) (hP:Fz p):o8 p r=some (acj p r):=by
 unfold o8 acj
 rw[air h hr [1,2,3] (by simp),ah]
 by_cases hk:r.kind<1\/3<r.kind
 ·rw[if_pos hk,if_neg (fun g=>by have:=g.2;simp at this;omega),aA (by rw[aY,bg];simp)]
 have hk2:r.kind∈[1,2,3]:=by simp;omega
 rw[if_neg hk,if_pos ⟨hP,hk2⟩,fD,fA]
 by_cases he:(doS p.state r).2=0
 case neg=>rw[if_neg he,if_pos he]
 rw[if_pos he,if_neg (fun k=>k he)]
 have t2:=UL h.sh r
 have t3:=aae hP.2.1 h.st hr
 obtain⟨o,ho,hid,_⟩:=aeo he (by omega)
 obtain⟨j,hj,hf,rfl⟩:=agO t3.fine.asc ho
 rw[hid]at hf
 rw[Dp _ _ t2.1,ah,F6 hf,aA (inb _ j hj),show bY p.outbox=some p.outbox from lW (by omega),ah,al1,ah,aA (by simp only[cu,len];exact jo (by simp;omega))]
 rfl
noncomputable def Dy (p:bH) (r:iq):bH×List jQ×Int:=if r.kind≠4/\r.kind≠5 then (p,[],1)else if (doS p.state r).2≠0 then (p,[],(doS p.state r).2)else (⟨(doS p.state r).1,[],p.feed⟩,p.outbox,0)
theorem abT {p:bH} {r:iq} (h:SP p) (hr:lm r) (hP:Fz p):tq p r=some (Dy p r):=by
 unfold tq Dy
 rw[air h hr [4,5] (by simp),ah]
 by_cases hk:r.kind≠4/\r.kind≠5
 ·rw[if_pos hk,if_neg (fun g=>by have:=g.2;simp at this;omega),aA (by rw[aY,bg];simp)]
 have hk2:r.kind∈[4,5]:=by simp;omega
 rw[if_neg hk,if_pos ⟨hP,hk2⟩,fD,fA]
 by_cases he:(doS p.state r).2=0
 ·rw[if_pos he,if_neg (fun k=>k he)]
 ·rw[if_neg he,if_pos he]
theorem Zr {p:bH} (h:SP p) (hP:Fz p):ug p=some (⟨p.state,[],p.feed⟩,p.outbox,0):=by
 unfold ug
 rw[CZ h,ah,decide_eq_true hP];rfl
open Classical in
noncomputable def Ve (p:bH) (n:dQ):bH×Int:=if ¬qQ (jk n)then (p,1)else
 if (kz p.feed n (p.state.seq+1)).2.2≠0 then (p,(kz p.feed n (p.state.seq+1)).2.2)else
 if 1000000000<p.state.lsn+((kz p.feed n (p.state.seq+1)).2.1.length:Int)then (p,3)else
 if (FP p.state (kz p.feed n (p.state.seq+1)).2.1).2≠0 then (p,(FP p.state (kz p.feed n (p.state.seq+1)).2.1).2)else
 (⟨(FP p.state (kz p.feed n (p.state.seq+1)).2.1).1,p.outbox,(kz p.feed n (p.state.seq+1)).1⟩,0)
end Go.Av
