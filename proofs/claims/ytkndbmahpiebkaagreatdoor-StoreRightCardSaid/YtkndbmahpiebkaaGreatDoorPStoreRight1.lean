/- The plain law, part 1. No condition. -/
import Derived.Test.YtkndbmahpiebkaaGreatDoorPStoreRight0
import Derived.KernelRfl
set_option linter.unusedVariables false
set_option linter.unusedSimpArgs false
set_option linter.unnecessarySimpa false
namespace Go.Av
open Go
theorem ant {s:List UInt8} (hs:s.length<999999):Eo s=some (decide (nJ s)):=by
 refine Wq.dec ?_
 unfold Eo
 refine Wq.bind (aqs (n:=s.length) (step:=fun v:Int×Bool=>wK (len s) s v.fst v.snd) hs (fun i=>∀h:i<s.length,UO s[i]) (fun i q hi hj=> ?_) (fun q=> ?_) false) fun w hw=> ?_
 ·simp only[wK]
  rw[aB (by rw[eU];simpa using hi),aB (inb s i hi),agF s i hi,auh,ak,fB,JW]
  split
  ·rename_i h;rw[ah];exact⟨bG (by omega),fun _=>h⟩
  ·rename_i h;rw[ah];exact⟨rfl,fun g=>h (g hi)⟩
 ·simp only[wK]
  rw[dH (ZJ s),ah];trivial
 ·unfold nJ
  match w,hw with
  |.inl b,hw=>
   simp only[gY,ah]
   rw[hw.1]
   constructor
   ·intro g;cases g
   ·intro g;exact absurd (Y3.2 g.1) hw.2
  |.inr q,hw=>
   simp only[gY,ah,aQ,bg,bM,bZ,aT,aU,bV,cu,bJ,dh,aZ,bC,cZ,dm,len]
   have:=Y3.1 hw
   constructor
   ·intro g;exact⟨this,by omega,by omega⟩
   ·intro g;omega
theorem ajx {s:List UInt8} (hs:s.length<999999):lZ s=some (decide (nJ s)):=by
 refine Wq.dec ?_
 unfold lZ
 refine Wq.bind (aqs (n:=s.length) (step:=fun v:Int×Bool=>lK s v.fst v.snd) hs (fun i=>∀h:i<s.length,UO s[i]) (fun i q hi hj=> ?_) (fun q=> ?_) false) fun w hw=> ?_
 ·simp only[lK]
  rw[aB (by rw[eU];simpa using hi),aB (inb s i hi),agF s i hi,bG (by omega)]
  simp only[uM,gq,ah,aQ,bg,bM,bZ,aT,aU,bV,cu,bJ,dh,aZ,bC,cZ,dm,true_implies,ne_eq,not_true_eq_false,false_implies,and_true,true_and,or_self,reduceCtorEq]
  refine⟨fun h=>fun g=> ?_,fun h=>fun _=> ?_⟩
  ·have:=g hi;unfold UO at this;omega
  ·unfold UO;omega
 ·simp only[lK]
  rw[dH (ZJ s),ah];trivial
 ·unfold nJ
  match w,hw with
  |.inl b,hw=>
   simp only[gY,ah]
   rw[hw.1]
   constructor
   ·intro g;cases g
   ·intro g;exact absurd (Y3.2 g.1) hw.2
  |.inr q,hw=>
   simp only[gY,ah,aQ,bg,bM,bZ,aT,aU,bV,cu,bJ,dh,aZ,bC,cZ,dm,len]
   have:=Y3.1 hw
   constructor
   ·intro g;exact⟨this,by omega,by omega⟩
   ·intro g;omega
def okF (f:aF):Prop:=nJ f.name/\0<=f.sure/\f.sure<=len f.data
instance (f:aF):Decidable (okF f):=by unfold okF;infer_instance
def lu (l:List aF):Nat:=(l.map (·.data.length)).sum
def Ru (l:List aF):Prop:=l.Pairwise fun f g=>f.name<g.name
instance (l:List aF):Decidable (Ru l):=by unfold Ru;infer_instance
def Bd (l:List aF):Prop:=(∀f∈l,okF f)/\Ru l
instance (l:List aF):Decidable (Bd l):=by unfold Bd;infer_instance
def jh (d:au):Prop:=(0<=d.room/\d.room<=65536/\ -1<=d.fuse/\d.files.length<=64)/\Bd d.files/\(lu d.files:Int)<=d.room
instance (d:au):Decidable (jh d):=by unfold jh;infer_instance
def nameB (d:au):Prop:=∀f∈d.files,f.name.length<999999
theorem qw {α:Type} {l:List α} {i:Nat} (h:i<l.length):l.take (i+1)=l.take i++[l[i]]:=by simp
theorem xu (a b:List aF):lu (a++b)=lu a+lu b:=by simp [lu]
theorem V4 (f:aF) (l:List aF):lu (f::l)=f.data.length+lu l:=by simp [lu]
theorem zQ {l:List aF} {i:Nat} (h:i<l.length):lu (l.take (i+1))=lu (l.take i)+l[i].data.length:=by
 rw[qw h,xu];simp [lu]
theorem JY (l:List aF) (i:Nat):lu (l.take i)<=lu l:=by
 have:=xu (l.take i) (l.drop i)
 rw[List.take_append_drop]at this;omega
theorem Aa (a b:List aF):Bd (a++b)↔Bd a/\Bd b/\∀f∈a,∀g∈b,f.name<g.name:=by
 unfold Bd Ru
 rw[List.pairwise_append]
 constructor
 ·rintro⟨h1,h2,h3,h4⟩
  exact⟨⟨fun f hf=>h1 f (List.mem_append_left _ hf),h2⟩,⟨fun f hf=>h1 f (List.mem_append_right _ hf),h3⟩,h4⟩
 ·rintro⟨⟨h1,h2⟩,⟨h3,h4⟩,h5⟩
  exact⟨fun f hf=>(List.mem_append.1 hf).elim (h1 f) (h3 f),h2,h4,h5⟩
theorem aiz (f:aF):Bd [f]↔okF f:=by simp [Bd,Ru]
theorem afM {l:List aF} {i:Nat} (h:i<l.length):Bd (l.take (i+1))↔Bd (l.take i)/\okF l[i]/\(0<i->∀g:i - 1<l.length,l[i - 1].name<l[i].name):=by
 rw[qw h,Aa,aiz]
 constructor
 ·rintro⟨h1,h2,h3⟩
  exact⟨h1,h2,fun hi g=>h3 _ (by rw[List.mem_iff_getElem];exact⟨i - 1,by rw[List.length_take];omega,by simp⟩) _ (List.mem_singleton.2 rfl)⟩
 ·rintro⟨h1,h2,h3⟩
  refine⟨h1,h2,fun f hf g hg=> ?_⟩
  rw[List.mem_singleton.1 hg]
  obtain⟨j,hj,rfl⟩:=List.mem_iff_getElem.1 hf
  rw[List.length_take]at hj
  rw[List.getElem_take]
  have h4:=h3 (by omega) (by omega)
  by_cases e:j=i - 1
  ·subst e;exact h4
  ·have:=List.pairwise_iff_getElem.1 h1.2 j (i - 1) (by rw[List.length_take];omega) (by rw[List.length_take];omega) (by omega)
   rw[List.getElem_take,List.getElem_take]at this
   exact P8 this h4
theorem aiy {l:List aF} (h:Bd l) (i:Nat):Bd (l.take i):=by
 have:=(Aa (l.take i) (l.drop i)).1 (by rw[List.take_append_drop];exact h)
 exact this.1
theorem acz {d:au} (hn:nameB d):zN d=some (decide (jh d)):=by
 refine Wq.dec ?_
 unfold zN
 rw[gq]
 refine⟨fun h=>(ah _).2 ?_,fun h=> ?_⟩
 ·simp only[aQ,bg,bM,bZ,aT,aU,bV,cu,bJ,dh,aZ,bC,cZ,dm,len]at h
  unfold jh
  constructor
  ·intro g;cases g
  ·rintro⟨g, -⟩;omega
 simp only[aQ,bg,bM,bZ,aT,aU,bV,cu,bJ,dh,aZ,bC,cZ,dm,len]at h
 have hl:d.files.length<=64:=by omega
 refine Wq.bind (Q:=fun w=>match w with
  |.inl b=>b=false/\¬jh d
  |.inr _=>jh d)
  (gX (n:=d.files.length) (step:=fun v:Int×Int×Bool=>uZ (len d.files) d.files d v.fst v.snd.fst v.snd.snd) (by omega)
    (fun i x=>Bd (d.files.take i)/\x.1=d.room - (lu (d.files.take i):Int)/\0<=x.1) _ ?_ ?_ _ 0 (Nat.zero_le _) ⟨by simp [Bd,Ru],by simp [lu],by simp only;omega⟩) ?_
 ·rintro i ⟨room,q⟩ hi ⟨h1,h2,h3⟩
  simp only at h2 h3
  simp only[uZ]
  rw[aB (by rw[eU];simpa using hi),aB (inb _ i hi),bI _ i hi,ant (hn _ (List.getElem_mem hi)),ak]
  have hu:=zQ hi
  have hg:=afM hi
  have e1:0<i->wr .i64 (aI (i:Int) 1)=((i - 1:Nat):Int):=fun h0=>by
   rw[aI,bY (by omega) (by omega)];omega
  have hgd:bor (band (ile 0 (wr .i64 (aI (i:Int) 1))) (ilt (wr .i64 (aI (i:Int) 1)) (len d.files))) (ay (band (ay (ay (decide (nJ d.files[i].name)))) (ilt 0 (i:Int))))=true:=by
   rw[bM]
   by_cases h0:0<i
   ·left;rw[e1 h0];exact inb _ _ (by omega)
   ·right;rw[aT,bg];right;exact qm (by omega)
  rw[aB hgd,gq]
  have prev:(0<i->∀g:i - 1<d.files.length,d.files[i - 1].name<d.files[i].name)↔band (ilt 0 (i:Int)) (ay (slt (ai d.files (itn (wr .i64 (aI (i:Int) 1)))).name d.files[i].name))=false:=by
   by_cases h0:0<i
   ·rw[e1 h0,bI _ _ (by omega:i - 1<d.files.length),Zq,nD (by omega),Bz,aU,decide_eq_true_iff]
    exact⟨fun g=>g h0 (by omega),fun g _ _=>g⟩
   ·rw[qm (by omega),LK];simp [h0]
  refine⟨fun hb=>(ah _).2 ⟨rfl,fun hd=> ?_⟩,fun hb=>(ah _).2 ?_⟩
  ·have g1:=(hg.1 (aiy hd.2.1 (i+1)))
   have g2:=prev.1 g1.2.2
   have g3:=JY d.files (i+1)
   have g4:=hd.2.2
   obtain⟨k1,k2,k3⟩:=g1.2.1
   rw[g2]at hb
   simp only[aQ,bg,bM,bZ,aT,aU,bV,cu,bJ,dh,aZ,bC,cZ,dm,decide_eq_false_iff_not,len]at hb k3
   rcases hb with (((hb | hb) | hb) | hb) | hb
   ·exact hb k1
   ·cases hb
   ·omega
   ·omega
   ·omega
  ·simp only[bZ,aU,decide_eq_true_iff]at hb
   obtain⟨⟨⟨⟨b1,b2⟩,b3⟩,b4⟩,b5⟩:=hb
   have b6:=prev.2 b2
   simp only[cu,len]at b3 b4 b5
   have e2:wr .i64 (aI room (len d.files[i].data))=room - (d.files[i].data.length:Int):=by
    rw[aI,bY (by simp only[len];omega) (by simp only[len];omega)];rfl
   refine⟨bG (by omega),hg.2 ⟨h1,⟨b1,b3,b4⟩,b6⟩,?_,?_⟩
   ·simp only;rw[e2,hu];omega
   ·simp only;rw[e2];omega
 ·rintro⟨room,q⟩ ⟨h1,h2,h3⟩
  simp only[uZ]
  rw[dH (ZJ _),ah]
  rw[List.take_length]at h1 h2
  simp only at h2 h3
  exact⟨by omega,h1,by omega⟩
 ·rintro(b | q) hw
  ·simp only[gY,ah];simp [hw.1,hw.2]
  ·simp only[gY,ah];simp [hw]
theorem VY {d:au} (hn:nameB d):lU d=some (decide (jh d)):=by
 refine Wq.dec ?_
 unfold lU
 rw[gq]
 refine⟨fun h=>(ah _).2 ?_,fun h=> ?_⟩
 ·simp only[aQ,bg,bM,bZ,aT,aU,bV,cu,bJ,dh,aZ,bC,cZ,dm,len]at h
  unfold jh
  constructor
  ·intro g;cases g
  ·rintro⟨g, -⟩;omega
 simp only[aQ,bg,bM,bZ,aT,aU,bV,cu,bJ,dh,aZ,bC,cZ,dm,len]at h
 have hl:d.files.length<=64:=by omega
 refine Wq.bind (Q:=fun w=>match w with
  |.inl b=>b=false/\¬jh d
  |.inr x=>Bd d.files/\x.1=(lu d.files:Int))
  (gX (n:=d.files.length) (step:=fun v:Int×Int×Bool=>kT d v.fst v.snd.fst v.snd.snd) (by omega)
    (fun i x=>Bd (d.files.take i)/\x.1=(lu (d.files.take i):Int)/\x.1<=65536*i) _ ?_ ?_ _ 0 (Nat.zero_le _) ⟨by simp [Bd,Ru],by simp [lu],by simp⟩) ?_
 ·rintro i ⟨n,q⟩ hi ⟨h1,h2,h3⟩
  simp only at h2 h3
  simp only[kT]
  rw[aB (by rw[eU];simpa using hi),aB (inb _ i hi),bI _ i hi,ajx (hn _ (List.getElem_mem hi)),ak]
  have hu:=zQ hi
  have hg:=afM hi
  have e1:0<i->wr .i64 (aI (i:Int) 1)=((i - 1:Nat):Int):=fun h0=>by
   rw[aI,bY (by omega) (by omega)];omega
  have prev:(0<i->∀g:i - 1<d.files.length,d.files[i - 1].name<d.files[i].name)↔band (ilt 0 (i:Int)) (bor (slt d.files[i].name (ai d.files (itn (wr .i64 (aI (i:Int) 1)))).name) (seq d.files[i].name (ai d.files (itn (wr .i64 (aI (i:Int) 1)))).name))=false:=by
   by_cases h0:0<i
   ·rw[e1 h0,bI _ _ (by omega:i - 1<d.files.length),Zq,nD (by omega),Bz,bZ,afK,decide_eq_false_iff_not]
    constructor
    ·intro g
     have g1:=g h0 (by omega)
     exact⟨fun g2=>WE _ (P8 g1 g2),fun g2=>WE _ (g2▸g1)⟩
    ·rintro⟨g1,g2⟩ _ _
     rcases aoe d.files[i - 1].name d.files[i].name with g | g | g
     ·exact g
     ·exact absurd g.symm g2
     ·exact absurd g g1
   ·rw[qm (by omega),LK];simp [h0]
  have hgd:bor (band (ile 0 (wr .i64 (aI (i:Int) 1))) (ilt (wr .i64 (aI (i:Int) 1)) (len d.files))) (ay (ilt 0 (i:Int)))=true:=by
   rw[bM]
   by_cases h0:0<i
   ·left;rw[e1 h0];exact inb _ _ (by omega)
   ·right;rw[aT];exact qm (by omega)
  rw[gq]
  have hall:jh d->Bd (d.files.take i)/\okF d.files[i]/\(0<i->∀g:i - 1<d.files.length,d.files[i - 1].name<d.files[i].name)/\d.files[i].data.length<=65536:=fun hd=>by
   have g1:=(hg.1 (aiy hd.2.1 (i+1)))
   have g3:=JY d.files (i+1)
   have g4:=hd.2.2
   exact⟨g1.1,g1.2.1,g1.2.2,by omega⟩
  refine⟨fun hb=>(ah _).2 ⟨rfl,fun hd=> ?_⟩,fun hb=> ?_⟩
  ·obtain⟨g1,⟨k1,k2,k3⟩,g3,g4⟩:=hall hd
   simp only[aQ,bg,bM,bZ,aT,aU,bV,cu,bJ,dh,aZ,bC,cZ,dm,decide_eq_false_iff_not,len]at hb k3
   rcases hb with ((hb | hb) | hb) | hb
   ·exact hb k1
   ·omega
   ·omega
   ·omega
  rw[aB hgd,gq]
  refine⟨fun hb2=>(ah _).2 ⟨rfl,fun hd=> ?_⟩,fun hb2=>(ah _).2 ?_⟩
  ·rw[prev.1 (hall hd).2.2.1]at hb2;cases hb2
  ·simp only[bZ,aU,decide_eq_true_iff]at hb
   obtain⟨⟨⟨b1,b3⟩,b4⟩,b5⟩:=hb
   have b6:=prev.2 hb2
   simp only[cu,len]at b3 b4 b5
   have e2:wr .i64 (aj n (len d.files[i].data))=n+(d.files[i].data.length:Int):=by
    rw[aj,bY (by simp only[len];omega) (by simp only[len];omega)];rfl
   refine⟨bG (by omega),hg.2 ⟨h1,⟨b1,b3,b4⟩,b6⟩,?_,?_⟩
   ·simp only;rw[e2,hu];omega
   ·simp only;rw[e2];omega
 ·rintro⟨n,q⟩ ⟨h1,h2,h3⟩
  simp only[kT]
  rw[dH (ZJ _),ah]
  rw[List.take_length]at h1 h2
  exact⟨h1,h2⟩
 ·rintro(b | q) hw
  ·simp only[gY,ah];simp [hw.1,hw.2]
  ·simp only[gY,ah,hw.2]
   unfold jh
   simp only[aQ,bg,bM,bZ,aT,aU,bV,cu,bJ,dh,aZ,bC,cZ,dm]
   constructor
   ·intro g;exact⟨⟨by omega,by omega,by omega,hl⟩,hw.1,g⟩
   ·intro g;exact g.2.2
abbrev Nm:=List UInt8
def ql (l:List aF) (n:Nm):Option aF:=l.find? fun f=>decide (f.name=n)
def F8 (n:Nm) (l:List aF):List aF:=l.filter fun f=>decide (f.name≠n)
def BN (f:aF):List aF->List aF
 |[]=>[f]
 |g::r=>if g.name<f.name then g::BN f r else f::F8 f.name (g::r)
theorem KZ {n:Nm} {l:List aF} (h:∀f∈l,f.name≠n):F8 n l=l:=by
 unfold F8;rw[List.filter_eq_self];intro f hf;simpa using h f hf
theorem XU (n:Nm) (a b:List aF):F8 n (a++b)=F8 n a++F8 n b:=by simp [F8]
theorem Px (n:Nm) (f:aF) (b:List aF):F8 n (f::b)=if f.name=n then F8 n b else f::F8 n b:=by
 unfold F8;rw[List.filter_cons];by_cases h:f.name=n<;>simp [h]
theorem ac5 {n:Nm} {l:List aF} (h:∀f∈l,f.name≠n):ql l n=none:=by
 unfold ql;rw[List.find?_eq_none];intro f hf;simpa using h f hf
theorem SG {n:Nm} {a:List aF} (h:∀f∈a,f.name≠n) (b:List aF):ql (a++b) n=ql b n:=by
 unfold ql;rw[List.find?_append]
 have:=ac5 h
 unfold ql at this
 rw[this];rfl
theorem adb (n:Nm) (f:aF) (b:List aF):ql (f::b) n=if f.name=n then some f else ql b n:=by
 unfold ql;rw[List.find?_cons];by_cases h:f.name=n<;>simp [h]
theorem U8 {n:Nm} {l:List aF} {f:aF} (h:ql l n=some f):f∈l/\f.name=n:=
 ⟨List.mem_of_find?_eq_some h,by simpa using List.find?_some h⟩
theorem JK {a b:Nm} (h:a<b):a≠b:=fun e=>WE _ (e▸h)
inductive qJ (n:Nm):List aF->Nat->Option aF->Prop
 |no (a b:List aF) (ha:∀f∈a,f.name<n) (hb:∀f∈b,n<f.name):qJ n (a++b) a.length none
 |yes (a:List aF) (f:aF) (b:List aF) (e:f.name=n) (ha:∀f∈a,f.name<n) (hb:∀f∈b,n<f.name):qJ n (a++f::b) a.length (some f)
theorem qJ.get {n:Nm} {l:List aF} {i:Nat} {o:Option aF} (h:qJ n l i o):ql l n=o:=by
 cases h with
 |no a b ha hb=>exact ac5 fun f hf=>(List.mem_append.1 hf).elim (fun h=>JK (ha f h)) (fun h=>(JK (hb f h)).symm)
 |yes a f b e ha hb=>rw[SG fun f h=>JK (ha f h),adb,if_pos e]
theorem qJ.le {n:Nm} {l:List aF} {i:Nat} {o:Option aF} (h:qJ n l i o):i<=l.length:=by
 cases h<;>simp
theorem qJ.lt {n:Nm} {l:List aF} {i:Nat} {f:aF} (h:qJ n l i (some f)):∃g:i<l.length,l[i]=f/\f.name=n:=by
 cases h with
 |yes a f b e ha hb=>exact⟨by simp,by simp,e⟩
theorem D7 {f:aF} {a:List aF} (ha:∀g∈a,g.name<f.name) (b:List aF):BN f (a++b)=a++BN f b:=by
 induction a with
 |nil=>rfl
 |cons g a ih=>
  rw[List.cons_append,BN,if_pos (ha g (List.mem_cons_self ..)),ih fun g hg=>ha g (List.mem_cons_of_mem _ hg)];rfl
theorem SL {f:aF} {b:List aF} (hb:∀g∈b,f.name<g.name):BN f b=f::b:=by
 cases b with
 |nil=>rfl
 |cons g b=>rw[BN,if_neg fun h=>WE _ (P8 h (hb g (List.mem_cons_self ..))),KZ fun g hg=>(JK (hb g hg)).symm]
theorem aeW {f g:aF} {b:List aF} (e:g.name=f.name) (hb:∀g∈b,f.name<g.name):BN f (g::b)=f::b:=by
 rw[BN,if_neg (e▸WE _),Px,if_pos e,KZ fun g hg=>(JK (hb g hg)).symm]
theorem qJ.ins {n:Nm} {l:List aF} {i:Nat} {f:aF} (h:qJ n l i none) (e:f.name=n):l.take i++f::l.drop i=BN f l:=by
 subst e
 cases h with
 |no a b ha hb=>rw[D7 ha,SL hb];simp
theorem qJ.set {n:Nm} {l:List aF} {i:Nat} {f g:aF} (h:qJ n l i (some g)) (e:f.name=n):l.set i f=BN f l:=by
 subst e
 cases h with
 |yes a g b e ha hb=>rw[D7 ha,aeW e hb];simp
theorem qJ.del {n:Nm} {l:List aF} {i:Nat} {g:aF} (h:qJ n l i (some g)):l.eraseIdx i=F8 n l:=by
 cases h with
 |yes a g b e ha hb=>
  rw[XU,Px,if_pos e,KZ fun g hg=>JK (ha g hg),KZ fun g hg=>(JK (hb g hg)).symm,List.eraseIdx_append_of_length_le (Nat.le_refl _)];simp
theorem abe {l:List aF} (h:Ru l) {i j:Nat} (hij:i<j) (hj:j<l.length):l[i].name<l[j].name:=
 List.pairwise_iff_getElem.1 h i j (by omega) hj hij
theorem aox {l:List aF} (h:Ru l) {n:Nm} {i:Nat} (hi:i<=l.length) (h1:∀(j:Nat) (h:j<l.length),j<i->l[j].name<n) (h2:∀(j:Nat) (h:j<l.length),i<=j->¬l[j].name<n):
 qJ n l i (if g:i<l.length then if l[i].name=n then some l[i]else none else none):=by
 have ha:∀f∈l.take i,f.name<n:=fun f hf=>by
  obtain⟨j,hj,rfl⟩:=List.mem_iff_getElem.1 hf
  rw[List.length_take]at hj
  rw[List.getElem_take]
  exact h1 j (by omega) (by omega)
 have hle:(l.take i).length=i:=by rw[List.length_take];omega
 by_cases g:i<l.length
 ·rw[dif_pos g]
  have hb:∀f∈l.drop (i+1),l[i].name<f.name:=fun f hf=>by
   obtain⟨j,hj,rfl⟩:=List.mem_iff_getElem.1 hf
   rw[List.length_drop]at hj
   rw[List.getElem_drop]
   exact abe h (by omega) (by omega)
  have e:l.take i++l[i]::l.drop (i+1)=l:=by rw[<-List.drop_eq_getElem_cons g,List.take_append_drop]
  by_cases k:l[i].name=n
  ·rw[if_pos k]
   have:=qJ.yes (l.take i) l[i] (l.drop (i+1)) k ha (k▸hb)
   rwa[e,hle]at this
  ·rw[if_neg k]
   have hlt:n<l[i].name:=by
    rcases aoe n l[i].name with c | c | c
    ·exact c
    ·exact absurd c.symm k
    ·exact absurd c (h2 i g (Nat.le_refl _))
   have:=qJ.no (l.take i) (l[i]::l.drop (i+1)) ha (fun f hf=>by
    rcases List.mem_cons.1 hf with c | c
    ·subst c;exact hlt
    ·exact P8 hlt (hb f c))
   rwa[e,hle]at this
 ·rw[dif_neg g]
  have:=qJ.no (l.take i) [] ha (by simp)
  rw[List.append_nil,hle,List.take_of_length_le (by omega)]at this
  exact this
theorem aoy (n:Nat) (h:n<1000000000):wr .i64 (dN .u64 (wr .u64 (wr .i64 (n:Int))) 1)=((n / 2:Nat):Int):=by
 have e1:wr .i64 (n:Int)=n:=bY (by omega) (by omega)
 have e2:wr .u64 (n:Int)=n:=by rw[uh];omega
 have e3:dN .u64 (n:Int) 1=((n / 2:Nat):Int):=by
  unfold dN
  simp [Int.shiftRight_eq_div_pow,IntKind.bits,IntKind.signed]
  exact Int.fdiv_eq_ediv_of_nonneg _ (by decide)
 rw[e1,e2,e3,bY (by omega) (by omega)]
theorem aoh (a b:Nm):aj0 a b<0↔a<b:=by
 unfold aj0
 rw[Zq,JW]
 by_cases h:a<b
 ·simp [h]
 ·rw[if_neg h]
  cases seq a b<;>simp [cnd,h]
theorem anp (a b:Nm):aj0 a b=0↔a=b:=by
 unfold aj0
 rw[Zq,JW]
 by_cases h:a<b
 ·simp [h,JK h]
 ·rw[if_neg h]
  by_cases k:a=b
  ·rw[aB (by rw[ZP];exact k)];simp [k]
  ·rw[dH (by rw[afK];exact k)];simp [k]
theorem Yy {d:au} {n:Nm} (ha:Ru d.files) (hl:d.files.length<=100000):
 Wq (eH d n) fun r=>∃(i:Nat) (o:Option aF),r.1=(i:Int)/\qJ n d.files i o/\r.2=o.isSome:=by
 unfold eH
 refine Wq.bind (Q:=fun w:Int=>∃i:Nat,w=(i:Int)/\i<=d.files.length/\(∀(j:Nat) (h:j<d.files.length),j<i->d.files[j].name<n)/\(∀(j:Nat) (h:j<d.files.length),i<=j->¬d.files[j].name<n))
  (ajT (step:=fun x:Int×Int=>eG d.files n x.fst x.snd) (fun v=>(v.1 - v.2).toNat)
    (fun x=>∃lo hi:Nat,x=((hi:Int),(lo:Int))/\lo<=hi/\hi<=d.files.length/\(∀(j:Nat) (h:j<d.files.length),j<lo->d.files[j].name<n)/\(∀(j:Nat) (h:j<d.files.length),hi<=j->¬d.files[j].name<n)) _ ?_ LF _ (aoj (by simp only[len];omega)) ⟨0,d.files.length,rfl,Nat.zero_le _,Nat.le_refl _,fun j _ h=>by omega,fun j h1 h2=>by omega⟩) ?_
 ·rintro _ ⟨lo,hi,rfl,g1,g2,g3,g4⟩
  simp only[eG]
  rw[gq]
  refine⟨fun h=> ?_,fun h=>(ah _).2 ?_⟩
  ·rw[bV]at h
   have e1:wr .i64 (dN .u64 (wr .u64 (wr .i64 (aj (lo:Int) (hi:Int)))) 1)=(((lo+hi) / 2:Nat):Int):=by
    rw[<-aoy (lo+hi) (by omega)];unfold aj;rw[Int.natCast_add]
   have hm:(lo+hi) / 2<d.files.length:=by omega
   rw[e1,aB (inb _ _ hm),bI _ _ hm,xg,ak,gq,ah,ah]
   refine⟨fun h2=> ?_,fun h2=> ?_⟩
   ·rw[bV,aoh]at h2
    refine⟨⟨(lo+hi) / 2+1,hi,by rw[bG (by omega)],by omega,g2,fun j hj h3=> ?_,g4⟩,?_⟩
    ·rcases Nat.lt_or_ge j ((lo+hi) / 2)with h4 | h4
     ·exact P8 (abe ha h4 hm) h2
     ·have:j=(lo+hi) / 2:=by omega
      subst this;exact h2
    ·simp only;rw[bG (by omega)];omega
   ·rw[cu]at h2
    have h2':¬d.files[(lo+hi) / 2].name<n:=by rw[<-aoh];omega
    refine⟨⟨lo,(lo+hi) / 2,rfl,by omega,by omega,g3,fun j hj h3=> ?_⟩,?_⟩
    ·rcases Nat.lt_or_ge ((lo+hi) / 2) j with h4 | h4
     ·exact fun g=>h2' (P8 (abe ha h4 hj) g)
     ·have:j=(lo+hi) / 2:=by omega
      subst this;exact h2'
    ·simp only;omega
  ·rw[cu]at h
   have:lo=hi:=by omega
   subst this
   exact⟨lo,rfl,g2,g3,g4⟩
 rintro _ ⟨i,rfl,hi,g1,g2⟩
 have hs:=aox ha hi g1 g2
 by_cases hil:i<d.files.length
 ·have h1:ilt (i:Int) (len d.files)=true:=nD (by simp only[len];omega)
  rw[aB (by rw[bM];exact .inl (inb _ i hil)),aB h1,bI _ i hil,xg,ak,ah]
  refine⟨i,_,rfl,hs,?_⟩
  rw[dif_pos hil,h1,Bz]
  by_cases k:d.files[i].name=n
  ·rw[if_pos k];show ieq _ 0=true;rw[aZ,anp];exact k
  ·rw[if_neg k];show ieq _ 0=false;rw[bC,ne_eq,anp];exact k
 ·have h1:ilt (i:Int) (len d.files)=false:=qm (by simp only[len];omega)
  rw[aB (by rw[bM,aT];exact .inr h1),dH h1,ah]
  refine⟨i,_,rfl,hs,?_⟩
  rw[dif_neg hil,h1];rfl
theorem X4 {d:au} {n:Nm} (ha:Ru d.files) (hl:d.files.length<=100000):
 Wq (gy d n) fun r=>(r= -1/\ql d.files n=none)\/∃(i:Nat) (h:i<d.files.length),r=(i:Int)/\ql d.files n=some d.files[i]:=by
 unfold gy
 refine Wq.bind (Q:=fun w:Int ⊕ Int=>match w with
  |.inl k=>∃(i:Nat) (h:i<d.files.length),k=(i:Int)/\ql d.files n=some d.files[i]
  |.inr _=>∀f∈d.files,f.name≠n)
  (gX (n:=d.files.length) (step:=fun v:Int×Int=>mQ n d v.fst v.snd) (by omega) (fun i x=>∀f∈d.files.take i,f.name≠n) _ ?_ ?_ _ 0 (Nat.zero_le _) (by simp)) ?_
 ·rintro i x hi hx
  simp only[mQ]
  rw[aB (by rw[eU];simpa using hi),aB (inb _ i hi),bI _ i hi,gq]
  refine⟨fun he=>(ah _).2 ⟨i,hi,rfl,?_⟩,fun he=>(ah _).2 ⟨bG (by omega),?_⟩⟩
  ·rw[ZP]at he
   have:ql (d.files.take i++d.files.drop i) n=some d.files[i]:=by rw[SG hx,List.drop_eq_getElem_cons hi,adb,if_pos he]
   rwa[List.take_append_drop]at this
  ·rw[afK]at he
   rw[qw hi]
   intro f hf
   rcases List.mem_append.1 hf with c | c
   ·exact hx f c
   ·rw[List.mem_singleton.1 c];exact he
 ·rintro x hx
  simp only[mQ]
  rw[dH (ZJ _),ah]
  rwa[List.take_length]at hx
 ·rintro(w | w) hw
  ·simp only[gY,ah];obtain⟨i,h,e,g⟩:=hw;exact .inr ⟨i,h,e,g⟩
  ·simp only[gY,ah];exact .inl ⟨trivial,ac5 hw⟩
def iJ (d:au) (ns:List Nm):Int:=if ¬jh d then 1 else if d.down=true then 9 else if ∀n∈ns,nJ n then 0 else 1
def eP (d:au):au×Bool:=if d.fuse=0 then (⟨d.files,d.room,d.fuse,true⟩,false)else if d.fuse= -1 then (d,true)else (⟨d.files,d.room,d.fuse - 1,d.down⟩,true)
def Je (d:au) (f:aF):au:=⟨BN f d.files,d.room,d.fuse,d.down⟩
def agM (d:au) (n:Nm):au:=⟨F8 n d.files,d.room,d.fuse,d.down⟩
theorem ajN {α:Type} (a b:Nm) (x y:α):cnd (seq a b) x y=if a=b then x else y:=by
 by_cases h:a=b
 ·rw[if_pos h,aB (by rw[ZP];exact h)]
 ·rw[if_neg h,dH (by rw[afK];exact h)]
theorem jS {d:au} {ns:List Nm}:iJ d ns=0↔jh d/\d.down=false/\∀n∈ns,nJ n:=by
 unfold iJ
 by_cases h1:jh d
 ·cases h2:d.down
  ·by_cases h3:∀n∈ns,nJ n
   ·simp [h1,h3]
   ·simp [h1,h3]
  ·simp [h1]
 ·simp [h1]
theorem al4 (d:au) (a b:Nm):iJ d [a,b]=iJ d [b,a]:=by
 unfold iJ
 have:(∀n∈[a,b],nJ n)↔∀n∈[b,a],nJ n:=by simp [and_comm]
 by_cases h:∀n∈[a,b],nJ n
 ·simp only[if_pos h,if_pos (this.1 h)]
 ·simp only[if_neg h,if_neg (fun g=>h (this.2 g))]
theorem Rz (d:au) (a:Nm):iJ d [a,a]=iJ d [a]:=by
 unfold iJ
 have:(∀n∈[a,a],nJ n)↔∀n∈[a],nJ n:=by simp
 by_cases h:∀n∈[a],nJ n
 ·simp only[if_pos h,if_pos (this.2 h)]
 ·simp only[if_neg h,if_neg (fun g=>h (this.1 g))]
theorem Zj {d:au} {ns:List Nm} (hn:nameB d) (hs:∀n∈ns,n.length<999999) (hl:ns.length<1000):jK d ns=some (iJ d ns):=by
 refine Wq.eq ?_
 unfold jK iJ
 rw[acz hn,ak,fB,JW]
 by_cases hd:jh d
 case neg=>rw[if_neg hd,ah];simp [hd]
 rw[if_pos hd]
 cases hw:d.down
 case true=>rw[bK,ah];simp [hd]
 rw[bW]
 refine Wq.bind (Q:=fun w:Int ⊕ Int=>match w with
  |.inl k=>0<=k/\¬∀n∈ns,nJ n
  |.inr _=>∀n∈ns,nJ n)
  (gX (n:=ns.length) (step:=fun v:Int×Int=>dO (len ns) ns v.fst v.snd) (by omega) (fun i x=>∀n∈ns.take i,nJ n) _ ?_ ?_ _ 0 (Nat.zero_le _) (by simp)) ?_
 ·rintro i x hi hx
  simp only[dO]
  rw[aB (by rw[eU];simpa using hi),aB (inb _ i hi),bI _ i hi,ant (hs _ (List.getElem_mem hi)),ak,fB,JW]
  split
  ·rename_i g
   refine(ah _).2 ⟨bG (by omega),?_⟩
   rw[qw hi]
   intro f hf
   rcases List.mem_append.1 hf with c | c
   ·exact hx f c
   ·rw[List.mem_singleton.1 c];exact g
  ·rename_i g
   exact(ah _).2 ⟨by omega,fun h=>g (h _ (List.getElem_mem hi))⟩
 ·rintro x hx
  simp only[dO]
  rw[dH (ZJ _),ah]
  rwa[List.take_length]at hx
 ·rintro(w | w) hw2
  ·simp only[gY]
   rw[aB (jd hw2.1),ah,if_neg (fun h=>h hd),if_neg (by simp),if_neg hw2.2]
  ·simp only[gY]
   rw[ah,if_neg (fun h=>h hd),if_neg (by simp),if_pos hw2]
theorem Uu {d:au} {a b:Nm} (hn:nameB d) (ha:a.length<999999) (hb:b.length<999999):jA d a b=some (iJ d [a,b]):=by
 refine Wq.eq ?_
 unfold jA iJ
 rw[VY hn,ak,fB,JW]
 by_cases hd:jh d
 case neg=>rw[if_neg hd,ah];simp [hd]
 rw[if_pos hd]
 cases hw:d.down
 case true=>rw[bK,ah];simp [hd]
 rw[bW,ajx ha,ak,ajx hb,if_neg (show ¬¬jh d from fun h=>h hd),if_neg (show ¬(false=true) by simp)]
 by_cases h1:nJ a
 ·rw[decide_eq_true h1,dD,dA,bK,ak,iM,fB,JW]
  by_cases h2:nJ b
  ·rw[if_pos h2,ah,if_pos (by simp [h1,h2])]
  ·rw[if_neg h2,ah,if_neg (by simp [h1,h2])]
 ·rw[decide_eq_false h1,dA,dD,bW,ak,sG,bK,ah,if_neg (by simp [h1])]
theorem abw {d:au} (hf: -1<=d.fuse) (hf2:inI d.fuse):gQ d=some (eP d):=by
 unfold gQ eP
 rw[iO,Xb]
 unfold inI at hf2
 by_cases h0:d.fuse=0
 ·rw[if_pos h0,if_pos h0]
 rw[if_neg h0,if_neg h0]
 by_cases h1:d.fuse= -1
 ·rw[if_neg (by omega),if_pos h1]
 ·rw[if_pos (by omega),if_neg h1,yL ⟨by simp only[aI];omega,by simp only[aI];omega⟩];rfl
theorem amn {l:List aF} (h:lu l<=10000000) {f:aF} (hf:f∈l):f.data.length<=10000000:=by
 obtain⟨i,hi,rfl⟩:=List.mem_iff_getElem.1 hf
 have:=zQ hi
 have:=JY l (i+1)
 omega
theorem auF {d:au} (hl:d.files.length<999999) (hu:lu d.files<=10000000):IG d=some (lu d.files:Int):=by
 refine Wq.eq ?_
 unfold IG
 refine Wq.bind (gX (n:=d.files.length) (step:=fun v:Int×Int=>yQ (len d.files) d.files v.fst v.snd) hl (fun i x=>x=(lu (d.files.take i):Int)) (fun w=>w=(lu d.files:Int)) ?_ ?_ 0 0 (Nat.zero_le _) (by simp [lu])) ?_
 ·rintro i x hi rfl
  simp only[yQ]
  rw[aB (by rw[eU];simpa using hi),aB (inb _ i hi),bI _ i hi,ah]
  have h1:=zQ hi
  have h2:=JY d.files (i+1)
  refine⟨bG (by omega),?_⟩
  rw[aj,bY (by simp only[len];omega) (by simp only[len];omega)]
  simp only[len];omega
 ·rintro x rfl
  simp only[yQ]
  rw[dH (ZJ _),ah,List.take_length]
 ·rintro w rfl
  exact(ah _).2 rfl
theorem aqO {d:au} (hl:d.files.length<999999) (hu:lu d.files<=10000000):qA d=some (lu d.files:Int):=by
 refine Wq.eq ?_
 unfold qA
 refine Wq.bind (gX (n:=d.files.length) (step:=fun v:Int×Int=>mZ d v.fst v.snd) hl (fun i x=>x=(lu (d.files.take i):Int)) (fun w=>w=(lu d.files:Int)) ?_ ?_ 0 0 (Nat.zero_le _) (by simp [lu])) ?_
 ·rintro i x hi rfl
  simp only[mZ]
  rw[aB (by rw[eU];simpa using hi),aB (inb _ i hi),bI _ i hi,ah]
  have h1:=zQ hi
  have h2:=JY d.files (i+1)
  refine⟨bG (by omega),?_⟩
  rw[aj,bY (by simp only[len];omega) (by simp only[len];omega)]
  simp only[len];omega
 ·rintro x rfl
  simp only[mZ]
  rw[dH (ZJ _),ah,List.take_length]
 ·rintro w rfl
  exact(ah _).2 rfl
theorem aby (n:Nm) (l:List aF):(F8 n l).length<=l.length:=List.length_filter_le ..
theorem afP {d:au} {n:Nm} (hl:d.files.length<99999):mV d n=some (agM d n):=by
 refine Wq.eq ?_
 unfold mV
 refine Wq.bind (gX (n:=d.files.length) (step:=fun v:Int×List aF=>kE n d v.fst v.snd) (by omega) (fun i x=>x=F8 n (d.files.take i)) (fun w=>w=F8 n d.files) ?_ ?_ [] 0 (Nat.zero_le _) (by simp [F8])) ?_
 ·rintro i x hi rfl
  simp only[kE]
  have h1:=aby n (d.files.take i)
  rw[List.length_take]at h1
  rw[aB (by rw[eU];simpa using hi),aB (inb _ i hi),aB (inb _ i hi),bI _ i hi,fB,ajN,aB (jd (by simp only[len,dB,List.length_append,List.length_singleton];omega)),qw hi,XU,Px]
  split
  ·rw[ah];exact⟨bG (by omega),by simp [F8]⟩
  ·rw[ah];exact⟨bG (by omega),rfl⟩
 ·rintro x rfl
  simp only[kE]
  rw[dH (ZJ _),ah,List.take_length]
 ·rintro w rfl
  exact(ah _).2 rfl
theorem ae1 {d:au} {f:aF} (hl:d.files.length<99999):iF d f=some (Je d f):=by
 refine Wq.eq ?_
 unfold iF
 refine Wq.bind (gX (n:=d.files.length) (step:=fun v:Int×Bool×List aF=>lQ f d v.fst v.snd.fst v.snd.snd) (by omega)
  (fun i x=>(x.2++if x.1=true then F8 f.name (d.files.drop i)else BN f (d.files.drop i))=BN f d.files/\x.2.length<=i+if x.1=true then 1 else 0) (fun w=>(w.2++if w.1=true then []else [f])=BN f d.files/\w.2.length<=d.files.length+1) ?_ ?_ (false,[]) 0 (Nat.zero_le _) (by simp)) ?_
 ·rintro i ⟨q,x⟩ hi ⟨h1,h2⟩
  simp only at h1 h2
  have h2':x.length<=i+1:=by split at h2<;>omega
  simp only[lQ]
  have g1:ile (len (dB x [f])) 68719476736=true:=jd (by simp only[len,dB,List.length_append,List.length_singleton];omega)
  have g2:ile (len (dB (dB x [f]) [d.files[i]])) 68719476736=true:=jd (by simp only[len,dB,List.length_append,List.length_singleton];omega)
  have g3:ile (len (dB x [d.files[i]])) 68719476736=true:=jd (by simp only[len,dB,List.length_append,List.length_singleton];omega)
  rw[aB (by rw[eU];simpa using hi),aB (by rw[bM];exact .inl (inb _ i hi))]
  simp only[aB (inb d.files i hi),bI _ i hi,aB g1,aB g2,aB g3,fB]
  rw[List.drop_eq_getElem_cons hi]at h1
  cases q
  ·simp only[Bool.false_eq_true,if_false,BN]at h1 h2
   rw[dA,Bz,fB,Zq,JW]
   by_cases hlt:d.files[i].name<f.name
   ·rw[if_pos hlt]at h1 ⊢
    rw[dH (by rw[afK];exact JK hlt),ah]
    exact⟨bG (by omega),by simpa [dB] using h1,by simp [dB];omega⟩
   ·rw[if_neg hlt,Px]at h1
    rw[if_neg hlt,ajN]
    by_cases e:d.files[i].name=f.name
    ·rw[if_pos e]at h1 ⊢
     rw[ah]
     exact⟨bG (by omega),by simpa [dB] using h1,by simp [dB];omega⟩
    ·rw[if_neg e]at h1 ⊢
     rw[ah]
     exact⟨bG (by omega),by simpa [dB] using h1,by simp [dB];omega⟩
  ·simp only[if_true,Px]at h1 h2
   rw[dD,LK,bW,ajN]
   by_cases e:d.files[i].name=f.name
   ·rw[if_pos e]at h1 ⊢
    rw[ah]
    exact⟨bG (by omega),by simpa [dB] using h1,by simp;omega⟩
   ·rw[if_neg e]at h1 ⊢
    rw[ah]
    exact⟨bG (by omega),by simpa [dB] using h1,by simp [dB];omega⟩
 ·rintro⟨q,x⟩ ⟨h1,h2⟩
  simp only[lQ]
  rw[dH (ZJ _),ah]
  refine⟨?_,by split at h2<;>simp only at h2 ⊢ <;>omega⟩
  simp only[List.drop_length]at h1
  simpa [F8,BN] using h1
 ·rintro⟨q,x⟩ ⟨h1,h2⟩
  simp only at h1 h2
  rw[aB (x:=some _) (jd (by simp only[len,dB,List.length_append,List.length_singleton];omega))]
  cases q
  ·rw[dA,bK,ah];unfold Je;rw[<-h1];rfl
  ·rw[dD,bW,ah];unfold Je;rw[<-h1];simp
theorem Yn {l:List aF} (h:l.length<1000000):aV l=some l:=by unfold aV;exact agt h
theorem akm {l:List Int} (h:l.length<1000000):dW l=some l:=by unfold dW;exact agt h
def ao0 (p:au×Bool):au×Int:=(p.1,if p.2=true then 0 else 9)
def iW (d:au) (n:Nm) (b:List Int):au×Int:=
 if iJ d [n]≠0 then (d,iJ d [n])else
 if d.room<(lu d.files:Int)+(b.length:Int)\/(ql d.files n=none/\64<=d.files.length)then (d,6)else
 ao0 (eP (Je d ⟨n,((ql d.files n).getD ⟨n,[],0⟩).data++b,((ql d.files n).getD ⟨n,[],0⟩).sure⟩))
def Me (d:au) (n:Nm):au×Int:=
 if iJ d [n]≠0 then (d,iJ d [n])else
 match ql d.files n with
 |none=>(d,7)
 |some f=>if (eP d).2=true then (Je (eP d).1 ⟨n,f.data,len f.data⟩,0)else ((eP d).1,9)
def CB (d:au) (a b:Nm):au×Int:=
 if iJ d [a,b]≠0 then (d,iJ d [a,b])else
 match ql d.files a with
 |none=>(d,7)
 |some f=>if (eP d).2=true then (Je (agM (eP d).1 a) ⟨b,f.data,f.sure⟩,0)else ((eP d).1,9)
def tK (d:au) (n:Nm):au×Int:=
 if iJ d [n]≠0 then (d,iJ d [n])else
 match ql d.files n with
 |none=>(d,7)
 |some f=>if (eP d).2=true then (agM (eP d).1 n,0)else ((eP d).1,9)
def S9 (d:au) (n:Nm) (k:Int):au×Int:=
 if iJ d [n]≠0 then (d,iJ d [n])else
 match ql d.files n with
 |none=>(d,7)
 |some f=>if k<0\/len f.data<k then (d,1)else
  if (eP d).2=true then (Je (eP d).1 ⟨n,f.data.take k.toNat,if k<f.sure then k else f.sure⟩,0)else ((eP d).1,9)
def YR (d:au) (n:Nm):List Int×Int:=
 if iJ d [n]≠0 then ([],iJ d [n])else
 match ql d.files n with
 |none=>([],7)
 |some f=>(f.data,0)
structure KR (d:au):Prop where
 nm:nameB d
 fu:inI d.fuse
theorem jh.fl {d:au} (h:jh d):d.files.length<=64:=h.1.2.2.2
theorem jh.us {d:au} (h:jh d):lu d.files<=65536:=by have:=h.2.2;have:=h.1;omega
theorem jh.asc {d:au} (h:jh d):Ru d.files:=h.2.1.2
theorem iK (d:au):(eP d).1.files=d.files:=by unfold eP;split<;>(try split)<;>rfl
theorem zZ (d:au):(eP d).1.room=d.room:=by unfold eP;split<;>(try split)<;>rfl
theorem Y8 {α:Type} (d:au) (hf: -1<=d.fuse) (hf2:inI d.fuse) (x:α) (y:Int->Bool->α):
 cnd (ieq d.fuse 0) x (cnd (ieq d.fuse (-1)) (y d.fuse d.down) (y (wr .i64 (aI d.fuse 1)) d.down))=if (eP d).2=true then y (eP d).1.fuse (eP d).1.down else x:=by
 rw[iO,iO]
 unfold eP
 unfold inI at hf2
 by_cases h0:d.fuse=0
 ·simp [h0]
 by_cases h1:d.fuse= -1
 ·simp [h1]
 ·rw[if_neg h0,if_neg h1,if_neg h0,if_neg h1,if_pos rfl,yL ⟨by simp only[aI];omega,by simp only[aI];omega⟩];rfl
theorem Zp {d:au} (h:¬(eP d).2=true):(eP d).1=⟨d.files,d.room,d.fuse,true⟩:=by
 unfold eP at h ⊢
 split
 ·rfl
 ·rename_i h0
  rw[if_neg h0]at h
  split at h<;>simp at h
theorem cut_out {α:Type} (l r:List α) (i:Nat) (h:i<l.length):
 (fZ (fZ l i (l.drop (i+1))) (i+(l.drop (i+1)).length) r).take (i+(l.drop (i+1)).length)=l.eraseIdx i:=by
 unfold fZ
 have h1:(l.take i).length=i:=by rw[List.length_take];omega
 have e:(l.take i++(l.drop (i+1)++l.drop (i+(l.drop (i+1)).length))).take (i+(l.drop (i+1)).length)=l.take i++l.drop (i+1):=by
  rw[<-List.append_assoc,List.take_append_of_le_length (by rw[List.length_append,h1];exact Nat.le_refl _),List.take_of_length_le (by rw[List.length_append,h1];exact Nat.le_refl _)]
 rw[e,List.take_append_of_le_length (by rw[List.length_append,h1];exact Nat.le_refl _),List.take_of_length_le (by rw[List.length_append,h1];exact Nat.le_refl _),List.eraseIdx_eq_take_drop_succ]
theorem alR {α:Type} (l:List α) (i:Nat) (h:i<l.length):aA (aN l (itn ((i+1:Nat):Int))) (itn (aI (len l) ((i+1:Nat):Int)))=l.drop (i+1):=by
 unfold aA aN aI
 rw[qh]
 apply List.take_of_length_le
 rw[List.length_drop]
 simp only[itn,len];omega
theorem akr {α:Type} (l:List α) (i:Nat) (h:i<l.length):nad i (itn (len (l.drop (i+1))))=i+(l.drop (i+1)).length:=by simp [nad,itn,len]
theorem aif {α:Type} (l:List α) (i:Nat) (ys:List α) (h:i+ys.length<=l.length):(fZ l i ys).length=l.length:=by
 unfold fZ;simp only[List.length_append,List.length_take,List.length_drop];omega
theorem akJ (n:Nat):nad 0 n=n:=by simp [nad]
theorem anO (n:Nat):itn (nti n)=n:=by simp [itn,nti]
theorem apy {l:List aF} {i:Nat} (h:i<l.length) (hl:l.length<999999):eF l (i:Int) ((i+1:Nat):Int)=some (l.eraseIdx i):=by
 unfold eF
 have hdl:(l.drop (i+1)).length=l.length - (i+1):=List.length_drop ..
 rw[alR l i h,qh,akr l i h,akJ,anO]
 have hlc:=aif l i (l.drop (i+1)) (by omega)
 rw[aB (by simp only[aQ,bJ,len];omega),iO,if_neg (by omega),aB (by simp only[aQ,bJ,len];omega),aB (by simp only[aQ,bJ,len];omega),aB (by simp only[aj,nti,bJ,len];omega),
  aB (by simp only[aQ,bJ,len,aI,nti,hlc];omega)]
 congr 1
 exact cut_out l _ i h
theorem akY {l:List Va} (hl:l.length<1000) (hs:(l.flatMap (·.all)).length<1000000):jX l=some (l.flatMap (·.all)):=by
 have tk:∀ {i:Nat} (h:i<l.length),((l.take (i+1)).flatMap (·.all))=((l.take i).flatMap (·.all))++l[i].all:=fun h=>by
  rw[qw h,List.flatMap_append];simp
 have le:∀i:Nat,((l.take i).flatMap (·.all)).length<=(l.flatMap (·.all)).length:=fun i=>by
  have:(l.flatMap (·.all))=((l.take i).flatMap (·.all))++((l.drop i).flatMap (·.all)):=by rw[<-List.flatMap_append,List.take_append_drop]
  rw[this,List.length_append];omega
 have loop2:∀x:List Int,x=[]->Wq (bD (fun v:Int×List Int=>jB (len l) l v.fst v.snd) LF (0,x)) fun w=>w=l.flatMap (·.all):=by
  rintro _ rfl
  refine gX (n:=l.length) (by omega) (fun i x=>x=(l.take i).flatMap (·.all)) _ ?_ ?_ [] 0 (Nat.zero_le _) (by simp)
  ·rintro i x hi rfl
   simp only[jB]
   have:=le (i+1)
   rw[tk hi]at this
   rw[aB (by rw[eU];simpa using hi),aB (inb _ i hi),bI _ i hi,aB (jd (by simp only[len,dB];omega)),ah]
   exact⟨bG (by omega),(tk hi).symm⟩
  ·rintro x rfl
   simp only[jB]
   rw[dH (ZJ _),ah,List.take_length]
 refine Wq.eq ?_
 unfold jX
 refine Wq.bind (gX (n:=l.length) (step:=fun v:Int×Int=>lJ (len l) l v.fst v.snd) (by omega) (fun i x=>x=(((l.take i).flatMap (·.all)).length:Int)) (fun w=>w=((l.flatMap (·.all)).length:Int)) ?_ ?_ 0 0 (Nat.zero_le _) (by simp)) ?_
 ·rintro i x hi rfl
  simp only[lJ]
  have h1:=le (i+1)
  rw[tk hi,List.length_append]at h1
  have e:wr .i64 (aj (((l.take i).flatMap (·.all)).length:Int) (len l[i].all))=(((l.take (i+1)).flatMap (·.all)).length:Int):=by
   rw[tk hi,List.length_append,aj,bY (by simp only[len];omega) (by simp only[len];omega)];simp only[len];omega
  rw[aB (by rw[eU];simpa using hi),aB (inb _ i hi),bI _ i hi,e,dH (qm (by omega)),ah]
  exact⟨bG (by omega),rfl⟩
 ·rintro x rfl
  simp only[lJ]
  rw[dH (ZJ _),ah,List.take_length]
 ·rintro w rfl
  have e:wr .i64 (aI ((l.flatMap (·.all)).length:Int) 0)=((l.flatMap (·.all)).length:Int):=by rw[aI,bY (by omega) (by omega)];omega
  rw[dH (qm (by omega)),e,gq]
  constructor
  ·intro h
   rw[bV]at h
   rw[aB (by simp only[aQ,bV,bJ];omega),aB (jd (by simp only[len];omega))]
   exact(loop2 _ (by simp [aA])).bind fun a h=>(ah _).2 h
  ·intro h
   exact(loop2 _ rfl).bind fun a h=>(ah _).2 h
theorem akW {l:List aF} {i:Nat} {f:aF} (h:i<=l.length) (hl:l.length<999999):bQ l (i:Int) [f]=some (l.take i++f::l.drop i):=by
 unfold bQ
 simp only[]
 rw[aB (by simp only[aQ,bJ,len,aj];omega),qh];rfl
theorem atu {i:Nat} (h:i<1000000):wr .i64 (aj (i:Int) 1)=((i+1:Nat):Int):=bG h
theorem agv {α:Type} [Inhabited α] (l:List α) (i:Nat) (h:i<l.length):ai l i=l[i]:=by simp [ai,h]
theorem WJ {P:Nm->Prop} {n:Nm} (h:P n):∀m∈[n],P m:=fun m hm=>by rw[List.mem_singleton.1 hm];exact h
theorem alp {d:au} {n:Nm} (h:KR d) (hn:n.length<999999):uP d n=some (tK d n):=by
 refine Wq.eq ?_
 unfold uP tK
 rw[Zj h.nm (WJ hn) (by simp),ak,fB,iO,fB,iO]
 by_cases h0:iJ d [n]=0
 case neg=>rw[if_neg h0,if_neg h0,ah,if_pos h0]
 rw[if_pos h0,if_neg (fun g=>g h0)]
 obtain⟨hd,hw, -⟩:=jS.1 h0
 refine(Yy hd.asc (by have:=hd.fl;omega)).bind ?_
 rintro⟨k,b⟩ ⟨i,o,e1,e2,e3⟩
 simp only at e1 e3
 subst e1 e3
 have hg:=e2.get
 rw[hg]
 cases o with
 |none=>simp only[Option.isSome_none];rw[dA,bK,ah]
 |some f=>
  obtain⟨hi,-, -⟩:=e2.lt
  have hl:=hd.fl
  simp only[Option.isSome_some]
  rw[dD,bW,atu (by omega)]
  simp only[Yn (show d.files.length<1000000 by omega),ak,apy hi (by omega)]
  rw[Y8 d hd.1.2.2.1 h.fu (some (au.mk d.files d.room d.fuse true,(9:Int))) (fun a b=>some (au.mk (d.files.eraseIdx i) d.room a b,(0:Int))),e2.del]
  by_cases hs:(eP d).2=true
  ·rw[if_pos hs,ah,if_pos hs];unfold agM;rw[iK,zZ]
  ·rw[if_neg hs,ah,if_neg hs,Zp hs]
theorem amg {d:au} {n:Nm} (h:KR d) (hn:n.length<999999):kX d n=some (Me d n):=by
 refine Wq.eq ?_
 unfold kX Me
 rw[Zj h.nm (WJ hn) (by simp),ak,fB,iO,fB,iO]
 by_cases h0:iJ d [n]=0
 case neg=>rw[if_neg h0,if_neg h0,ah,if_pos h0]
 rw[if_pos h0,if_neg (fun g=>g h0)]
 obtain⟨hd,hw, -⟩:=jS.1 h0
 refine(Yy hd.asc (by have:=hd.fl;omega)).bind ?_
 rintro⟨k,b⟩ ⟨i,o,e1,e2,e3⟩
 simp only at e1 e3
 subst e1 e3
 have hg:=e2.get
 rw[hg]
 cases o with
 |none=>simp only[Option.isSome_none];rw[dA,bK,ah]
 |some f=>
  obtain⟨hi,hf,hfn⟩:=e2.lt
  have hl:=hd.fl
  simp only[Option.isSome_some]
  rw[dD,bW]
  simp only[Yn (show d.files.length<1000000 by omega),ak,aB (inb d.files i hi),qh,agv d.files i hi]
  rw[Y8 d hd.1.2.2.1 h.fu (some (au.mk d.files d.room d.fuse true,(9:Int))) (fun a b=>some (au.mk (bT d.files i (aF.mk d.files[i].name d.files[i].data (len d.files[i].data))) d.room a b,(0:Int))),hf]
  have e:=e2.set (f:=⟨n,f.data,len f.data⟩) rfl
  by_cases hs:(eP d).2=true
  ·rw[if_pos hs,ah,if_pos hs];unfold Je bT;rw[iK,zZ,hfn,e]
  ·rw[if_neg hs,ah,if_neg hs,Zp hs]
theorem agH {d:au} {n:Nm} (h:KR d) (hn:n.length<999999):nS d n=some (YR d n):=by
 refine Wq.eq ?_
 unfold nS YR
 rw[Zj h.nm (WJ hn) (by simp),ak,fB,iO,fB,iO]
 by_cases h0:iJ d [n]=0
 case neg=>rw[if_neg h0,if_neg h0,ah,if_pos h0]
 rw[if_pos h0,if_neg (fun g=>g h0)]
 obtain⟨hd,hw, -⟩:=jS.1 h0
 refine(Yy hd.asc (by have:=hd.fl;omega)).bind ?_
 rintro⟨k,b⟩ ⟨i,o,e1,e2,e3⟩
 simp only at e1 e3
 subst e1 e3
 have hg:=e2.get
 rw[hg]
 cases o with
 |none=>simp only[Option.isSome_none];rw[dA,bK,ah]
 |some f=>
  obtain⟨hi,hf,hfn⟩:=e2.lt
  have hb:=amn (by have:=hd.us;omega:lu d.files<=10000000) (List.getElem_mem hi)
  have hus:=zQ hi
  have hus2:=JY d.files (i+1)
  have:=hd.us
  simp only[Option.isSome_some]
  rw[dD,bW,aB (inb d.files i hi),bI d.files i hi,akm (by omega),ak,ah,hf]
theorem ag8 {d:au} {n:Nm} {b:List Int} (h:KR d) (hn:n.length<999999) (hb:b.length<900000):jD d n b=some (iW d n b):=by
 refine Wq.eq ?_
 unfold jD iW
 rw[Zj h.nm (WJ hn) (by simp),ak,fB,iO]
 by_cases h0:iJ d [n]=0
 case neg=>rw[if_neg h0,ah,if_pos h0]
 rw[if_pos h0,if_neg (fun g=>g h0)]
 obtain⟨hd,hw, -⟩:=jS.1 h0
 have hl:=hd.fl
 have hu:=hd.us
 have hr:=hd.1
 refine(Yy hd.asc (by omega)).bind ?_
 rintro⟨k,q⟩ ⟨i,o,e1,e2,e3⟩
 simp only at e1 e3
 subst e1 e3
 have hg:=e2.get
 rw[hg,auF (by omega) (by omega),ak]
 have e4:wr .i64 (aI d.room (lu d.files:Int))=d.room - (lu d.files:Int):=by rw[aI,yL ⟨by omega,by omega⟩]
 have hcond:(bor (ilt (wr .i64 (aI d.room (lu d.files:Int))) (len b)) (band (ay o.isSome) (ieq (len d.files) 64))=true)↔(d.room<(lu d.files:Int)+(b.length:Int)\/(o=none/\64<=d.files.length)):=by
  rw[e4]
  simp only[aQ,bg,bM,bZ,aT,aU,bV,cu,bJ,dh,aZ,bC,cZ,dm,len]
  cases o<;>simp<;>omega
 rw[gq]
 refine⟨fun hc=>(ah _).2 ?_,fun hc=> ?_⟩
 ·rw[if_pos (hcond.1 hc)]
 rw[if_neg (fun g=>by rw[hcond.2 g]at hc;cases hc),Yn (by omega),ak]
 have hnot:¬(d.room<(lu d.files:Int)+(b.length:Int)\/(o=none/\64<=d.files.length)):=fun g=>by rw[hcond.2 g]at hc;cases hc
 cases o with
 |none=>
  simp only[Option.isSome_none,Option.getD_none,List.nil_append]
  have hil:=e2.le
  rw[dA,bK,akW hil (by omega),ak,e2.ins rfl]
  have e5:BN ⟨n,[],0⟩ d.files=d.files.take i++⟨n,[],0⟩::d.files.drop i:=(e2.ins (f:=⟨n,[],0⟩) rfl).symm
  have hlen:(d.files.take i).length=i:=by rw[List.length_take];omega
  have hi:i<(BN ⟨n,[],0⟩ d.files).length:=by rw[e5];simp;omega
  have hgt:(BN ⟨n,[],0⟩ d.files)[i]=⟨n,[],0⟩:=by
   simp only[e5]
   rw[List.getElem_append_right (by omega)]
   simp [hlen]
  have hst:bT (BN ⟨n,[],0⟩ d.files) i ⟨n,b,0⟩=BN ⟨n,b,0⟩ d.files:=by
   rw[<-e2.ins (f:=⟨n,b,0⟩) rfl,e5]
   unfold bT
   rw[List.set_append_right _ _ (by omega)]
   simp [hlen]
  rw[aB (inb _ i hi),bI _ i hi,hgt,akY (by simp) (by simp only[List.flatMap_cons,List.flatMap_nil,List.append_nil,List.nil_append];omega),ak,aB (inb _ i hi),qh]
  simp only[List.flatMap_cons,List.flatMap_nil,List.nil_append,List.append_nil]
  have e6:ai (BN ⟨n,[],0⟩ d.files) i=⟨n,[],0⟩:=by rw[agv _ i hi,hgt]
  rw[hst,Y8 d hd.1.2.2.1 h.fu (some (au.mk (BN ⟨n,b,0⟩ d.files) d.room d.fuse true,(9:Int))) (fun x y=>some (au.mk (BN ⟨n,b,0⟩ d.files) d.room x y,(0:Int)))]
  have sw:eP (Je d ⟨n,b,0⟩)=(⟨BN ⟨n,b,0⟩ d.files,d.room,(eP d).1.fuse,(eP d).1.down⟩,(eP d).2):=by
   unfold eP Je;split<;>(try split)<;>rfl
  rw[sw]
  unfold ao0
  simp only[]
  by_cases hs:(eP d).2=true
  ·rw[if_pos hs,ah,if_pos hs]
  ·rw[if_neg hs,ah,if_neg hs,Zp hs]
 |some f=>
  simp only[Option.isSome_some,Option.getD_some]
  obtain⟨hi,hf,hfn⟩:=e2.lt
  have hus:=zQ hi
  have hus2:=JY d.files (i+1)
  rw[dD,bW,aB (inb _ i hi),bI _ i hi,hf,akY (by simp) (by simp only[List.flatMap_cons,List.flatMap_nil,List.append_nil,List.length_append];rw[hf]at hus;omega),ak,aB (inb _ i hi),qh]
  simp only[List.flatMap_cons,List.flatMap_nil,List.append_nil]
  have e6:ai d.files i=f:=by rw[agv _ i hi,hf]
  have hst:bT d.files i ⟨f.name,f.data++b,f.sure⟩=BN ⟨n,f.data++b,f.sure⟩ d.files:=by rw[hfn];exact e2.set rfl
  rw[hst,Y8 d hd.1.2.2.1 h.fu (some (au.mk (BN ⟨n,f.data++b,f.sure⟩ d.files) d.room d.fuse true,(9:Int))) (fun x y=>some (au.mk (BN ⟨n,f.data++b,f.sure⟩ d.files) d.room x y,(0:Int)))]
  have sw:eP (Je d ⟨n,f.data++b,f.sure⟩)=(⟨BN ⟨n,f.data++b,f.sure⟩ d.files,d.room,(eP d).1.fuse,(eP d).1.down⟩,(eP d).2):=by
   unfold eP Je;split<;>(try split)<;>rfl
  rw[sw]
  unfold ao0
  simp only[]
  by_cases hs:(eP d).2=true
  ·rw[if_pos hs,ah,if_pos hs]
  ·rw[if_neg hs,ah,if_neg hs,Zp hs]
theorem aoG {α:Type} (l:List α) (i:Nat) (x y:α):bT (bT l i x) i y=bT l i y:=by simp [bT]
theorem ao2 {α:Type} [Inhabited α] (l:List α) (i:Nat) (x:α) (h:i<l.length):ai (bT l i x) i=x:=by simp [ai,bT,h]
theorem asR (a b:Int):tu a b=if b<a then b else a:=by
 unfold tu;rfl
theorem avu {d:au} {n:Nm} {k:Int} (h:KR d) (hn:n.length<999999):zX d n k=some (S9 d n k):=by
 refine Wq.eq ?_
 unfold zX S9
 rw[Zj h.nm (WJ hn) (by simp),ak,fB,iO,fB,iO]
 by_cases h0:iJ d [n]=0
 case neg=>rw[if_neg h0,if_neg h0,ah,if_pos h0]
 rw[if_pos h0,if_neg (fun g=>g h0)]
 obtain⟨hd,hw, -⟩:=jS.1 h0
 refine(Yy hd.asc (by have:=hd.fl;omega)).bind ?_
 rintro⟨k0,q⟩ ⟨i,o,e1,e2,e3⟩
 simp only at e1 e3
 subst e1 e3
 have hg:=e2.get
 rw[hg]
 cases o with
 |none=>simp only[Option.isSome_none];rw[dA,bK,ah]
 |some f=>
  obtain⟨hi,hf,hfn⟩:=e2.lt
  have hl:=hd.fl
  have hus:=zQ hi
  have hus2:=JY d.files (i+1)
  have:=hd.us
  rw[hf]at hus
  simp only[Option.isSome_some]
  rw[dD,bW,Xb,Xb]
  by_cases hk:k<0
  ·rw[if_pos hk,if_pos hk,ah,if_pos (.inl hk)]
  rw[if_neg hk,aB (inb _ i hi),bI _ i hi,hf,Xb]
  by_cases hk2:len f.data<k
  ·rw[if_pos hk2,ah,if_pos (.inr hk2)]
  rw[if_neg hk2,if_neg (fun g=>g.elim hk hk2)]
  have hkk:band (ile 0 k) (ile k (len f.data))=true:=Fb (jd (by omega)) (jd (by omega))
  have htl:(aA f.data (itn k)).length<1000000:=by unfold aA;rw[List.length_take];omega
  simp only[Yn (show d.files.length<1000000 by omega),ak,aB (inb d.files i hi),qh,agv d.files i hi,hf,aB hkk,akm htl,aoG,ao2 d.files i _ hi]
  rw[Y8 d hd.1.2.2.1 h.fu (some (au.mk d.files d.room d.fuse true,(9:Int))) (fun a b=>some (au.mk (bT d.files i (aF.mk f.name (aA f.data (itn k)) (tu f.sure k))) d.room a b,(0:Int))),asR]
  have e:=e2.set (f:=⟨n,f.data.take k.toNat,if k<f.sure then k else f.sure⟩) rfl
  by_cases hs:(eP d).2=true
  ·rw[if_pos hs,ah,if_pos hs];unfold Je bT aA itn;rw[iK,zZ,hfn,e]
  ·rw[if_neg hs,ah,if_neg hs,Zp hs]
theorem aue {d:au} {x:aF} (ha:Ru d.files) (hl:d.files.length<=100000) {α:Type} (R:List aF->Option α) (Q:α->Prop) (h:Wq (R (BN x d.files)) Q):
 Wq (af (eH d x.name) fun y9 => cnd y9.snd (cnd (band (ile 0 y9.fst) (ilt y9.fst (len d.files))) (R (bT d.files (itn y9.fst) x)) none) (af (bQ d.files y9.fst [x]) fun y10 => R y10)) Q:=by
 refine(Yy ha hl).bind ?_
 rintro⟨k0,q⟩ ⟨i,o,e1,e2,e3⟩
 simp only at e1 e3
 subst e1 e3
 cases o with
 |none=>
  have:=e2.le
  simp only[Option.isSome_none]
  rw[bW,akW this (by omega),ak,e2.ins rfl]
  exact h
 |some f=>
  obtain⟨hi,hf,hfn⟩:=e2.lt
  simp only[Option.isSome_some]
  rw[bK,aB (inb _ i hi),qh]
  unfold bT
  rw[e2.set rfl]
  exact h
theorem anc {n:Nm} {l:List aF} (h:Ru l):Ru (F8 n l):=by
 unfold Ru F8;exact List.Pairwise.sublist List.filter_sublist h
theorem alm {l:List aF} {i:Nat} (h:i<l.length):
 aA (fZ (fZ l i (l.drop (i+1))) (i+(l.drop (i+1)).length) (jR aF (itn (aI (len l) (nti (i+(l.drop (i+1)).length)))))) (i+(l.drop (i+1)).length)=l.eraseIdx i:=cut_out l _ i h
theorem alr {d:au} {a b:Nm} (h:KR d) (hna:a.length<999999) (hnb:b.length<999999):mF d a b=some (CB d a b):=by
 refine Wq.eq ?_
 unfold mF CB
 have hns:∀m∈dB [b] [a],m.length<999999:=by intro m hm;simp [dB]at hm;rcases hm with rfl | rfl<;>assumption
 rw[aB (jd (by simp [len,dB])),Zj h.nm hns (by simp [dB]),ak,fB,iO,fB,iO,show iJ d (dB [b] [a])=iJ d [a,b]from al4 d b a]
 by_cases h0:iJ d [a,b]=0
 case neg=>rw[if_neg h0,if_neg h0,ah,if_pos h0]
 rw[if_pos h0,if_neg (fun g=>g h0)]
 obtain⟨hd,hw, -⟩:=jS.1 h0
 refine(Yy hd.asc (by have:=hd.fl;omega)).bind ?_
 rintro⟨k0,q⟩ ⟨i,o,e1,e2,e3⟩
 simp only at e1 e3
 subst e1 e3
 have hg:=e2.get
 rw[hg]
 cases o with
 |none=>simp only[Option.isSome_none];rw[dA,bK,ah]
 |some f=>
  obtain⟨hi,hf,hfn⟩:=e2.lt
  have hl:=hd.fl
  have hdl:(d.files.drop (i+1)).length=d.files.length - (i+1):=List.length_drop ..
  have hlc:=aif d.files i (d.files.drop (i+1)) (by omega)
  simp only[Option.isSome_some]
  rw[dD,bW]
  have tl:=alR d.files i hi
  rw[qh]at tl
  simp only[Yn (show d.files.length<1000000 by omega),ak,atu (show i<1000000 by omega),qh,tl,agv d.files i hi,hf]
  have hf':ai d.files (itn (i:Int))=f:=by rw[qh,agv _ _ hi,hf]
  have c1:band (ile 0 (i:Int)) (ilt (i:Int) (len d.files))=true:=inb _ i hi
  have c2:band (band (band (ile 0 (i:Int)) (ile (i:Int) ((i+1:Nat):Int))) (ile ((i+1:Nat):Int) (len d.files))) (band (ile ((i+1:Nat):Int) (len d.files)) (ile (len d.files) (len d.files)))=true:=by
   simp only[aQ,bJ,len];omega
  have c3:ieq (i:Int) ((i+1:Nat):Int)=false:=by rw[bC];omega
  have c4:band (ile 0 (i:Int)) (ile (i:Int) (len d.files))=true:=by simp only[aQ,bJ,len];omega
  have c5:band (ile 0 ((i+1:Nat):Int)) (ile ((i+1:Nat):Int) (len d.files))=true:=by simp only[aQ,bJ,len];omega
  have c6:ile (aj (nti i) (len (d.files.drop (i+1)))) (len d.files)=true:=by simp only[aj,nti,bJ,len];omega
  have c7:band (band (ile 0 (nti (i+(d.files.drop (i+1)).length))) (ile (nti (i+(d.files.drop (i+1)).length)) (len d.files))) (ile (len d.files) (aI (len (fZ d.files i (d.files.drop (i+1)))) 0))=true:=by
   simp only[aQ,bJ,len,aI,nti,hlc];omega
  simp only[akr d.files i hi,akJ,anO,aB c1,aB c2,dH c3,aB c4,aB c5,aB c6,aB c7,alm hi,e2.del]
  have key:=Y8 d hd.1.2.2.1 h.fu (some (au.mk d.files d.room d.fuse true,(9:Int))) (fun x y=>af (eH (au.mk (F8 a d.files) d.room x y) b) fun y9 => cnd y9.snd (cnd (band (ile 0 y9.fst) (ilt y9.fst (len (F8 a d.files)))) (some (au.mk (bT (F8 a d.files) (itn y9.fst) (aF.mk b f.data f.sure)) d.room x y,(0:Int))) none) (af (bQ (F8 a d.files) y9.fst [aF.mk b f.data f.sure]) fun y10 => some (au.mk y10 d.room x y,(0:Int))))
  rw[key]
  by_cases hs:(eP d).2=true
  ·rw[if_pos hs,if_pos hs]
   have hdl2:=aby a d.files
   refine aue (d:=au.mk (F8 a d.files) d.room (eP d).1.fuse (eP d).1.down) (x:=⟨b,f.data,f.sure⟩) (anc hd.asc) (by simp only;omega) (fun l=>some (au.mk l d.room (eP d).1.fuse (eP d).1.down,(0:Int))) _ ?_
   rw[ah];unfold Je agM;simp only;rw[iK,zZ]
  ·rw[if_neg hs,ah,if_neg hs,Zp hs]
theorem ada {l:List aF} {n:Nm} {f:aF} (h:ql l n=some f):f.name=n:=(U8 h).2
theorem ak0 {d:au} {n:Nm} (h:KR d) (hn:n.length<999999):nV d n=some (tK d n):=by
 refine Wq.eq ?_
 unfold nV tK
 rw[Uu h.nm hn hn,ak,fB,iO,Rz]
 by_cases h0:iJ d [n]=0
 case neg=>rw[if_neg h0,ah,if_pos h0]
 rw[if_pos h0,if_neg (fun g=>g h0)]
 obtain⟨hd,hw, -⟩:=jS.1 h0
 have hl:=hd.fl
 refine(X4 hd.asc (by omega)).bind ?_
 rintro k (⟨rfl,hg⟩ | ⟨i,hi,rfl,hg⟩)
 ·rw[aB (nD (by omega)),ah,hg]
 ·rw[dH (qm (by omega)),abw hd.1.2.2.1 h.fu,ak,fB,Jv,hg]
  by_cases hs:(eP d).2=true
  ·rw[if_pos hs,afP (by rw[iK];omega),ak,ah];simp only[];rw[if_pos hs]
  ·rw[if_neg hs,ah];simp only[];rw[if_neg hs]
theorem apI {d:au} {n:Nm} (h:KR d) (hn:n.length<999999):jg d n=some (Me d n):=by
 refine Wq.eq ?_
 unfold jg Me
 rw[Uu h.nm hn hn,ak,fB,iO,Rz]
 by_cases h0:iJ d [n]=0
 case neg=>rw[if_neg h0,ah,if_pos h0]
 rw[if_pos h0,if_neg (fun g=>g h0)]
 obtain⟨hd,hw, -⟩:=jS.1 h0
 have hl:=hd.fl
 refine(X4 hd.asc (by omega)).bind ?_
 rintro k (⟨rfl,hg⟩ | ⟨i,hi,rfl,hg⟩)
 ·rw[aB (nD (by omega)),ah,hg]
 ·rw[dH (qm (by omega)),abw hd.1.2.2.1 h.fu,ak,fB,Jv,hg,iK,ada hg |>.symm]
  by_cases hs:(eP d).2=true
  ·rw[if_pos hs,aB (inb _ i hi),bI _ i hi,ae1 (by rw[iK];omega),ak,ah];simp only[];rw[if_pos hs]
  ·rw[if_neg hs,ah];simp only[];rw[if_neg hs]
theorem apE {d:au} {a b:Nm} (h:KR d) (hna:a.length<999999) (hnb:b.length<999999):kY d a b=some (CB d a b):=by
 refine Wq.eq ?_
 unfold kY CB
 rw[Uu h.nm hna hnb,ak,fB,iO]
 by_cases h0:iJ d [a,b]=0
 case neg=>rw[if_neg h0,ah,if_pos h0]
 rw[if_pos h0,if_neg (fun g=>g h0)]
 obtain⟨hd,hw, -⟩:=jS.1 h0
 have hl:=hd.fl
 refine(X4 hd.asc (by omega)).bind ?_
 rintro k (⟨rfl,hg⟩ | ⟨i,hi,rfl,hg⟩)
 ·rw[aB (nD (by omega)),ah,hg]
 ·rw[dH (qm (by omega)),abw hd.1.2.2.1 h.fu,ak,fB,Jv,hg,iK]
  by_cases hs:(eP d).2=true
  ·rw[if_pos hs,aB (inb _ i hi),bI _ i hi,afP (by rw[iK];omega),ak,
    ae1 (by have:=aby a (eP d).1.files;rw[iK]at this;unfold agM;simp only;rw[iK];omega),ak,ah]
   simp only[];rw[if_pos hs]
  ·rw[if_neg hs,ah];simp only[];rw[if_neg hs]
theorem avq {d:au} {n:Nm} {k:Int} (h:KR d) (hn:n.length<999999):vY d n k=some (S9 d n k):=by
 refine Wq.eq ?_
 unfold vY S9
 rw[Uu h.nm hn hn,ak,fB,iO,Rz]
 by_cases h0:iJ d [n]=0
 case neg=>rw[if_neg h0,ah,if_pos h0]
 rw[if_pos h0,if_neg (fun g=>g h0)]
 obtain⟨hd,hw, -⟩:=jS.1 h0
 have hl:=hd.fl
 refine(X4 hd.asc (by omega)).bind ?_
 rintro k0 (⟨rfl,hg⟩ | ⟨i,hi,rfl,hg⟩)
 ·rw[aB (nD (by omega)),ah,hg]
 ·rw[dH (qm (by omega)),aB (inb _ i hi),bI _ i hi,hg,gq]
  simp only[]
  refine⟨fun hc=> ?_,fun hc=> ?_⟩
  ·simp only[aQ,bg,bM,bZ,aT,aU,bV,cu,bJ,dh,aZ,bC,cZ,dm]at hc
   rw[ah,if_pos hc]
  ·simp only[aQ,bg,bM,bZ,aT,aU,bV,cu,bJ,dh,aZ,bC,cZ,dm]at hc
   rw[if_neg (by omega),abw hd.1.2.2.1 h.fu,ak,fB,Jv,ada hg |>.symm]
   by_cases hs:(eP d).2=true
   ·rw[if_pos hs,aB (Fb (jd (by omega)) (jd (by omega))),Xb,if_pos hs]
    simp only[ae1 (show(eP d).1.files.length<99999 by rw[iK];omega),ak]
    by_cases hk:k<d.files[i].sure
    ·rw[if_pos hk,if_pos hk,ah];rfl
    ·rw[if_neg hk,if_neg hk,ah];rfl
   ·rw[if_neg hs,ah,if_neg hs]
theorem alN {d:au} {n:Nm} {b:List Int} (h:KR d) (hn:n.length<999999) (hb:b.length<900000):iE d n b=some (iW d n b):=by
 refine Wq.eq ?_
 unfold iE iW
 rw[Uu h.nm hn hn,ak,fB,iO,Rz]
 by_cases h0:iJ d [n]=0
 case neg=>rw[if_neg h0,ah,if_pos h0]
 rw[if_pos h0,if_neg (fun g=>g h0)]
 obtain⟨hd,hw, -⟩:=jS.1 h0
 have hl:=hd.fl
 have hu:=hd.us
 have hr:=hd.1
 have e4:wr .i64 (aj (lu d.files:Int) (len b))=(lu d.files:Int)+(b.length:Int):=by rw[aj,yL ⟨by simp only[len];omega,by simp only[len];omega⟩];rfl
 have fin:∀f:aF,Wq (af (iF d f) fun y3 => af (gQ y3) fun y4 => cnd (ay y4.snd) (some (y4.fst,(9:Int))) (some (y4.fst,0))) fun x=>x=ao0 (eP (Je d f)):=fun f=>by
  rw[ae1 (by omega),ak,abw (d:=Je d f) hd.1.2.2.1 h.fu,ak,fB,Jv]
  unfold ao0
  by_cases hs:(eP (Je d f)).2=true
  ·rw[if_pos hs,ah,if_pos hs]
  ·rw[if_neg hs,ah,if_neg hs]
 refine(X4 hd.asc (by omega)).bind ?_
 rintro k0 (⟨rfl,hg⟩ | ⟨i,hi,rfl,hg⟩)
 ·rw[dH (ahJ (by omega)),aqO (by omega) (by omega),ak,e4,gq,hg]
  refine⟨fun hc=> ?_,fun hc=> ?_⟩
  ·simp only[aQ,bg,bM,bZ,aT,aU,bV,cu,bJ,dh,aZ,bC,cZ,dm,len]at hc
   rw[ah,if_pos (by rcases hc with g | g;exact .inl (by omega);exact .inr ⟨rfl,by omega⟩)]
  ·simp only[aQ,bg,bM,bZ,aT,aU,bV,cu,bJ,dh,aZ,bC,cZ,dm,len]at hc
   have hn2:¬(d.room<(lu d.files:Int)+(b.length:Int)\/((none:Option aF)=none/\64<=d.files.length)):=by
    rintro(g | ⟨-, g⟩)<;>omega
   rw[if_neg hn2,aB (jd (by simp only[len];omega))]
   exact fin _
 ·have hus:=zQ hi
  have hus2:=JY d.files (i+1)
  rw[aB (jd (by omega)),aB (inb _ i hi),aqO (by omega) (by omega),ak,e4,gq,hg]
  refine⟨fun hc=> ?_,fun hc=> ?_⟩
  ·simp only[aQ,bg,bM,bZ,aT,aU,bV,cu,bJ,dh,aZ,bC,cZ,dm,len]at hc
   rw[ah,if_pos (.inl (by omega))]
  ·simp only[aQ,bg,bM,bZ,aT,aU,bV,cu,bJ,dh,aZ,bC,cZ,dm,len]at hc
   rw[if_neg (by simp;omega),bI _ i hi,aB (jd (by simp only[len];omega)),aB (jd (by simp only[len,dB,List.length_append];omega)),Option.getD_some,ada hg]
   exact fin _
theorem aoZ (d:au) (hl:okL G6 d.files):Wq (sH d) fun b=>b=true->d.files.length<=70/\∀f∈d.files,f.name.length<=100/\f.data.length<=70000:=by
 unfold sH
 rw[gq]
 refine⟨fun h=>(ah _).2 (by intro g;cases g),fun h=> ?_⟩
 simp only[aQ,bg,bM,bZ,aT,aU,bV,cu,bJ,dh,aZ,bC,cZ,dm,len]at h
 refine Wq.bind (Q:=fun w=>match w with
  |.inl b=>b=false
  |.inr _=>∀f∈d.files,f.name.length<=100/\f.data.length<=70000)
  (gX (n:=d.files.length) (step:=fun v:Int×Int×Bool=>kU d v.fst v.snd.fst v.snd.snd) (by omega) (fun i x=>∀f∈d.files.take i,f.name.length<=100/\f.data.length<=70000) _ ?_ ?_ _ 0 (Nat.zero_le _) (by simp)) ?_
 ·rintro i ⟨n,q⟩ hi hx
  simp only[kU]
  rw[aB (by rw[eU];simpa using hi),aB (inb _ i hi),aB (by rw[bM];exact .inl (inb _ i hi)),bI _ i hi,aB (inb _ i hi),gq,ah,ah]
  refine⟨fun _=>rfl,fun hb=>⟨bG (by omega),?_⟩⟩
  simp only[aQ,bg,bM,bZ,aT,aU,bV,cu,bJ,dh,aZ,bC,cZ,dm,len]at hb
  rw[qw hi]
  intro f hf
  rcases List.mem_append.1 hf with c | c
  ·exact hx f c
  ·rw[List.mem_singleton.1 c];omega
 ·rintro⟨n,q⟩ hx
  simp only[kU]
  rw[dH (ZJ _),ah]
  rwa[List.take_length]at hx
 ·rintro(w | w) hw
  ·simp only[gY,ah];simp only at hw;rw[hw];intro g;cases g
  ·simp only[gY,ah];exact fun _=>⟨by omega,hw⟩
theorem apO (d:au) (hl:d.files.length<999999):uD d d=some true:=by
 refine Wq.eq ?_
 unfold uD
 rw[dH (by simp only[bZ,aU,aZ,cZ,and_self])]
 refine Wq.bind (Q:=fun w:Bool ⊕ Bool=>match w with
  |.inl b=>False
  |.inr _=>True)
  (gX (n:=d.files.length) (step:=fun v:Int×Bool=>mX d d v.fst v.snd) (by omega) (fun i x=>True) _ ?_ ?_ _ 0 (Nat.zero_le _) trivial) ?_
 ·rintro i q hi -
  simp only[mX]
  rw[aB (by rw[eU];simpa using hi),aB (inb _ i hi),aB (inb _ i hi),dH (by simp only[bZ,aU,aZ,ZP,and_self]),ah]
  exact⟨bG (by omega),trivial⟩
 ·rintro q -
  simp only[mX]
  rw[dH (ZJ _),ah];trivial
 ·rintro(w | w) hw
  ·exact hw.elim
  ·simp only[gY,ah]
def ar4 {α:Type}:List Int->Int->(Int->Option α)->Option α
 |[],n,k=>k n
 |b::l,n,k=>af (dM (wr .u32 (kL .u32 (wr .u32 (iG .u32 n (wr .u32 b))) 15))) fun y0=>af (dM (wr .u32 (kL .u32 (wr .u32 (iG .u32 y0 (dN .u32 (wr .u32 (iG .u32 n (wr .u32 b))) 4))) 15))) fun y1=>
  ar4 l (wr .u32 (iG .u32 y1 (dN .u32 (wr .u32 (iG .u32 y0 (dN .u32 (wr .u32 (iG .u32 n (wr .u32 b))) 4))) 4))) k
theorem akH {α:Type} (k:Int->Option α):∀(l:List Int) (n:B32),gm l->ar4 l (toI n) k=k (toI (acR n l))
 |[],n,_=>rfl
 |b::l,n,hb=>by
  have e15:(15:Int)=toI 15#32:=rfl
  obtain⟨b1,b2⟩:=hb b (List.mem_cons_self ..)
  have e4:∀x:B32,dN .u32 (toI x) 4=toI (x >>> 4):=fun x=>anQ x 4 (by decide)
  have ih:=akH k l (hN 8 (n ^^^ ofB b)) fun x hx=>hb x (List.mem_cons_of_mem _ hx)
  rw[ar4,afg b1 b2,SB,e15,akD,V8,ak,e4,SB,asP,akD,V8,ak,e4,SB,asP,<-agJ]
  exact ih
def sh8 (n k:Int):Int:=wr .u8 (dN .i64 n k)
def akO (s:dw):List Int:=[sh8 s.gen 56,sh8 s.gen 48,sh8 s.gen 40,sh8 s.gen 32,sh8 s.gen 24,sh8 s.gen 16,sh8 s.gen 8,sh8 s.gen 0,sh8 s.lsn 56,sh8 s.lsn 48,sh8 s.lsn 40,sh8 s.lsn 32,sh8 s.lsn 24,sh8 s.lsn 16,sh8 s.lsn 8,sh8 s.lsn 0]
def auG (s:dw) (n:Int):ak5:=⟨sh8 s.gen 56,sh8 s.gen 48,sh8 s.gen 40,sh8 s.gen 32,sh8 s.gen 24,sh8 s.gen 16,sh8 s.gen 8,sh8 s.gen 0,sh8 s.lsn 56,sh8 s.lsn 48,sh8 s.lsn 40,sh8 s.lsn 32,sh8 s.lsn 24,sh8 s.lsn 16,sh8 s.lsn 8,sh8 s.lsn 0,
 wr .u8 (dN .u32 (wr .u32 (iG .u32 4294967295 n)) 0),wr .u8 (dN .u32 (wr .u32 (iG .u32 4294967295 n)) 8),wr .u8 (dN .u32 (wr .u32 (iG .u32 4294967295 n)) 16),wr .u8 (dN .u32 (wr .u32 (iG .u32 4294967295 n)) 24)⟩
theorem auq (s:dw):rQ s=ar4 (akO s) 4294967295 fun n=>some (auG s n):=rfl
def sK (s:dw):List Int:=wL s.gen 8++wL s.lsn 8
def GU (s:dw):List Int:=sK s++pz (xU (sK s))
def toL (a:ak5):List Int:=[a.a0,a.a1,a.a2,a.a3,a.a4,a.a5,a.a6,a.a7,a.a8,a.a9,a.a10,a.a11,a.a12,a.a13,a.a14,a.a15,a.a16,a.a17,a.a18,a.a19]
def Eu (s:dw):Prop:=1<=s.gen/\s.gen<=1000000000/\0<=s.lsn/\s.lsn<=1000000000
instance (s:dw):Decidable (Eu s):=by unfold Eu;infer_instance
theorem ac4 (s:dw):(sK s).length=16:=by simp [sK,JR]
theorem ah0 (s:dw):(GU s).length=20:=by simp [GU,ac4,pz]
theorem agW (s:dw):gm (sK s):=(UA _ _).app (UA _ _)
theorem YI (n:Int) {i:Nat} (hi:i<8):sh8 n (wr .i64 (dY 8 (i:Int)))=n / 256^i%256:=(byte_of hi).2
theorem ave (n:Int):sh8 n 0=n / 256^0%256:=YI n (i:=0) (by decide)
theorem avG (n:Int):sh8 n 8=n / 256^1%256:=YI n (i:=1) (by decide)
theorem avA (n:Int):sh8 n 16=n / 256^2%256:=YI n (i:=2) (by decide)
theorem avJ (n:Int):sh8 n 24=n / 256^3%256:=YI n (i:=3) (by decide)
theorem au9 (n:Int):sh8 n 32=n / 256^4%256:=YI n (i:=4) (by decide)
theorem avg (n:Int):sh8 n 40=n / 256^5%256:=YI n (i:=5) (by decide)
theorem avc (n:Int):sh8 n 48=n / 256^6%256:=YI n (i:=6) (by decide)
theorem avt (n:Int):sh8 n 56=n / 256^7%256:=YI n (i:=7) (by decide)
theorem alv (s:dw):akO s=sK s:=by
 unfold akO sK
 simp only[ave,avG,avA,avJ,au9,avg,avc,avt,wL,List.cons_append,List.nil_append]
theorem aa6 (s:dw):Wq (rQ s) fun a=>toL a=GU s:=by
 rw[auq,alv,show(4294967295:Int)=toI ones from rfl,akH _ _ _ (agW s),ah]
 have e:wr .u32 (iG .u32 (toI ones) (toI (acR ones (sK s))))=xU (sK s):=SB _ _
 have t0:wr .u8 (dN .u32 (xU (sK s)) 0)=xU (sK s) / 256^0%256:=(acP (n:=xU (sK s)) (i:=0) (by decide)).2
 have t1:wr .u8 (dN .u32 (xU (sK s)) 8)=xU (sK s) / 256^1%256:=(acP (n:=xU (sK s)) (i:=1) (by decide)).2
 have t2:wr .u8 (dN .u32 (xU (sK s)) 16)=xU (sK s) / 256^2%256:=(acP (n:=xU (sK s)) (i:=2) (by decide)).2
 have t3:wr .u8 (dN .u32 (xU (sK s)) 24)=xU (sK s) / 256^3%256:=(acP (n:=xU (sK s)) (i:=3) (by decide)).2
 have e':wr .u32 (iG .u32 4294967295 (toI (acR ones (sK s))))=xU (sK s):=e
 have key:toL (auG s (toI (acR ones (sK s))))=akO s++[xU (sK s) / 256^0%256,xU (sK s) / 256^1%256,xU (sK s) / 256^2%256,xU (sK s) / 256^3%256]:=by
  unfold toL auG akO
  simp only[e',t0,t1,t2,t3,List.cons_append,List.nil_append]
 rw[key,alv]
 unfold GU pz
 simp
theorem avI {b:List Int} {i:Nat} (h:i+8<=b.length):(b.drop i).take 8=[ai b i,ai b (i+1),ai b (i+2),ai b (i+3),ai b (i+4),ai b (i+5),ai b (i+6),ai b (i+7)]:=by
 refine List.ext_getElem (by simp;omega) fun j h1 h2=> ?_
 simp only[List.length_cons,List.length_nil]at h2
 rw[List.getElem_take,List.getElem_drop]
 match j,h2 with
 |0,_=>simp [ai,show i<b.length by omega]
 |1,_=>simp [ai,show i+1<b.length by omega]
 |2,_=>simp [ai,show i+2<b.length by omega]
 |3,_=>simp [ai,show i+3<b.length by omega]
 |4,_=>simp [ai,show i+4<b.length by omega]
 |5,_=>simp [ai,show i+5<b.length by omega]
 |6,_=>simp [ai,show i+6<b.length by omega]
 |7,_=>simp [ai,show i+7<b.length by omega]
 |j+8,h=>omega
def or8 (a c:Int):Int:=wr .i64 (ior .i64 (wr .i64 (qZ .i64 a 8)) (wr .i64 c))
theorem aaI {n c:Int} (h:0<=c/\c<=255):or8 (wr .i64 n) c=wr .i64 (n*256+c):=by
 unfold or8;rw[ajo _ _ h.1 h.2,ari]
theorem au5 {b:List Int} (hb:gm b) {i:Nat} (h:i+8<=b.length):
 or8 (or8 (or8 (or8 (or8 (or8 (or8 (wr .i64 (ior .i64 0 (wr .i64 (ai b i)))) (ai b (i+1))) (ai b (i+2))) (ai b (i+3))) (ai b (i+4))) (ai b (i+5))) (ai b (i+6))) (ai b (i+7))=at8 b i:=by
 have rng:∀j,j<b.length->0<=ai b j/\ai b j<=255:=fun j hj=>by
  have:=hb.get hj
  rw[agv b j hj];exact this
 have e0:wr .i64 (ior .i64 0 (wr .i64 (ai b i)))=wr .i64 (0*256+ai b i):=ajo 0 _ (rng i (by omega)).1 (rng i (by omega)).2
 rw[e0,aaI (rng _ (by omega)),aaI (rng _ (by omega)),aaI (rng _ (by omega)),aaI (rng _ (by omega)),aaI (rng _ (by omega)),aaI (rng _ (by omega)),aaI (rng _ (by omega))]
 unfold at8
 rw[avI h]
 rfl
def atS (b:List Int):dw:=⟨at8 b 0,at8 b 8⟩
def slD (b:List Int):dw×Int:=if b.length≠20 then (⟨0,0⟩,2)else if b.drop 16≠pz (xU (b.take 16))then (⟨0,0⟩,10)else if Eu (atS b)then (atS b,0)else (⟨0,0⟩,2)
theorem arG {b:List Int} (hb:gm b) (h:b.length=20):sK (atS b)=b.take 16:=by
 unfold sK atS at8
 simp only
 rw[aqf ((hb.drop 0).take 8) (by simp;omega),aqf ((hb.drop 8).take 8) (by simp;omega)]
 rw[show(16:Nat)=8+8 from rfl,List.take_add,List.drop_zero]
theorem arL {b:List Int} (hb:gm b) (h:b.length=20):GU (atS b)=b↔b.drop 16=pz (xU (b.take 16)):=by
 unfold GU
 rw[arG hb h]
 constructor
 ·intro e
  have:=congrArg (List.drop 16) e
  rw[List.drop_append_of_le_length (by rw[List.length_take];omega),List.drop_eq_nil_of_le (by rw[List.length_take];omega),List.nil_append]at this
  exact this.symm
 ·intro e;rw[<-e,List.take_append_drop]
theorem acn (s:dw):Ak s=some (decide (Eu s)):=by
 refine Wq.dec ?_
 unfold Ak Eu
 rw[ah]
 simp only[aQ,bg,bM,bZ,aT,aU,bV,cu,bJ,dh,aZ,bC,cZ,dm]
 omega
theorem aqi {b:List Int} (h:b.length=20):b=[ai b 0,ai b 1,ai b 2,ai b 3,ai b 4,ai b 5,ai b 6,ai b 7,ai b 8,ai b 9,ai b 10,ai b 11,ai b 12,ai b 13,ai b 14,ai b 15,ai b 16,ai b 17,ai b 18,ai b 19]:=by
 match b,h with
 |[_,_,_,_,_,_,_,_,_,_,_,_,_,_,_,_,_,_,_,_],_=>rfl
theorem aad {b:List Int} (hb:gm b):pO b=some (slD b):=by
 refine Wq.eq ?_
 unfold pO slD
 rw[fB,iO]
 by_cases h:b.length=20
 case neg=>rw[if_neg (by simp only[len];omega),ah,if_pos h]
 rw[if_pos (by simp only[len];omega),if_neg (fun g=>g h)]
 have hg:=au5 hb (i:=0) (by omega)
 have hl:=au5 hb (i:=8) (by omega)
 unfold or8 at hg hl
 simp only[Nat.zero_add,Nat.reduceAdd]at hg hl
 have lt:∀k:Int,k<20->ilt k (len b)=true:=fun k hk=>nD (by simp only[len];omega)
 simp only[hg,hl]
 rw[aB (lt 0 (by decide)),aB (lt 8 (by decide)),aB (lt 1 (by decide)),aB (lt 9 (by decide)),aB (lt 2 (by decide)),aB (lt 10 (by decide)),aB (lt 3 (by decide)),aB (lt 11 (by decide)),aB (lt 4 (by decide)),aB (lt 12 (by decide)),aB (lt 5 (by decide)),aB (lt 13 (by decide)),aB (lt 6 (by decide)),aB (lt 14 (by decide)),aB (lt 7 (by decide)),aB (lt 15 (by decide))]
 refine(aa6 (atS b)).bind fun a ha=> ?_
 rw[aB (jd (by simp only[len];omega)),gq]
 have hcmp:toL a=b↔b.drop 16=pz (xU (b.take 16)):=by rw[ha];exact arL hb h
 have hcmp2:toL a=b↔(a.a0=ai b 0/\a.a1=ai b 1/\a.a2=ai b 2/\a.a3=ai b 3/\a.a4=ai b 4/\a.a5=ai b 5/\a.a6=ai b 6/\a.a7=ai b 7/\a.a8=ai b 8/\a.a9=ai b 9/\a.a10=ai b 10/\a.a11=ai b 11/\a.a12=ai b 12/\a.a13=ai b 13/\a.a14=ai b 14/\a.a15=ai b 15/\a.a16=ai b 16/\a.a17=ai b 17/\a.a18=ai b 18/\a.a19=ai b 19):=by
  have:=aqi h
  generalize ai b 0=b0,ai b 1=b1,ai b 2=b2,ai b 3=b3,ai b 4=b4,ai b 5=b5,ai b 6=b6,ai b 7=b7,ai b 8=b8,ai b 9=b9,ai b 10=b10,ai b 11=b11,ai b 12=b12,ai b 13=b13,ai b 14=b14,ai b 15=b15,ai b 16=b16,ai b 17=b17,ai b 18=b18,ai b 19=b19 at this ⊢
  subst this
  simp only[toL,List.cons.injEq,and_true]
 refine⟨fun hc=>(ah _).2 ?_,fun hc=> ?_⟩
 ·rw[if_pos]
  rw[aT]at hc
  intro e
  have e2:=hcmp2.1 (hcmp.2 e)
  rw[<-Bool.not_eq_true]at hc
  apply hc
  simp only[aQ,aZ,and_true]
  exact e2
 ·rw[aU]at hc
  simp only[aQ,aZ,and_true]at hc
  have e:=hcmp.1 (hcmp2.2 hc)
  rw[if_neg (fun g=>g e),acn,ak,fB,JW]
  have ea:dw.mk (at8 b 0) (at8 b 8)=atS b:=rfl
  rw[ea]
  by_cases hp:Eu (atS b)
  ·rw[if_pos hp,if_pos hp,ah]
  ·rw[if_neg hp,if_neg hp,ah]
theorem acv (s:dw):pq s=some (decide (Eu s)):=by
 refine Wq.dec ?_
 unfold pq Eu
 rw[ah]
 simp only[aQ,bg,bM,bZ,aT,aU,bV,cu,bJ,dh,aZ,bC,cZ,dm]
 omega
theorem akL (l:List Int):0<=xU l/\xU l<4294967296:=abv _
theorem ar9 {i:Nat} (h:i<=8):(256:Int)^i<=18446744073709551616:=by
 have:i=0\/i=1\/i=2\/i=3\/i=4\/i=5\/i=6\/i=7\/i=8:=by omega
 rcases this with rfl | rfl | rfl | rfl | rfl | rfl | rfl | rfl | rfl<;>decide
theorem ahE {b:List Int} (hb:gm b):qR b=some (slD b):=by
 refine Wq.eq ?_
 unfold qR slD
 rw[fB,iO]
 by_cases h:b.length=20
 case neg=>rw[if_neg (by simp only[len];omega),ah,if_pos h]
 rw[if_pos (by simp only[len];omega),if_neg (fun g=>g h),aB (jd (by simp only[len];omega))]
 have ht:(b.take 16).length=16:=by rw[List.length_take];omega
 rw[show aA b 16=b.take 16 from rfl,Zn (by omega) (hb.take 16),ak]
 have hc:=akL (b.take 16)
 generalize hcg:xU (b.take 16)=c at hc ⊢
 have htl:(b.drop 16).length=4:=by rw[List.length_drop];omega
 refine Wq.bind (Q:=fun w=>match w with
  |.inl w=>w=(10,(⟨0,0⟩:dw))/\b.drop 16≠pz c
  |.inr w=>b.drop 16=pz c)
  (gX (n:=4) (step:=fun v:Int×Int×Int×dw=>kF b v.fst v.snd.fst v.snd.snd.fst v.snd.snd.snd) (by decide)
    (fun i x=>x.1=c / 256^i/\∀(k:Nat) (g:k<(b.drop 16).length) (g':k<(pz c).length),k<i->(b.drop 16)[k]=(pz c)[k]) _ ?_ ?_ _ 0 (by decide) ⟨by simp,fun k _ _ h=>by omega⟩) ?_
 ·rintro i ⟨u,v,s⟩ hi ⟨h1,h2⟩
  simp only at h1
  simp only[kF]
  have e1:wr .i64 (aj 16 (i:Int))=((16+i:Nat):Int):=by rw[aj,bY (by omega) (by omega)];omega
  have hi2:16+i<b.length:=by omega
  have hp:(0:Int)<256^i:=Int.pow_pos (by decide)
  have hu:0<=u/\u<4294967296:=by
   rw[h1]
   refine⟨Int.ediv_nonneg hc.1 (by omega),?_⟩
   have:=Int.ediv_le_self (256^i) hc.1
   omega
  have e2:wr .u8 (vI u 256)=c / 256^i%256:=by
   unfold vI;rw[Int.tmod_eq_emod_of_nonneg hu.1,Ul,Int.emod_emod,h1]
  have hti:(pz c)[i]'(by simp [pz];omega)=c / 256^i%256:=abU c hi
  rw[aB (nD (by omega)),e1,aB (inb _ _ hi2),bI _ _ hi2,e2,fB,iO]
  have hd:(b.drop 16)[i]'(by omega)=b[16+i]:=by rw[List.getElem_drop]
  by_cases he:b[16+i]=c / 256^i%256
  ·rw[if_pos he,ah]
   refine⟨bG (by omega),?_,fun k g g' hk=> ?_⟩
   ·show wr .u32 (JA u 256)=_
    unfold JA
    rw[Int.tdiv_eq_ediv_of_nonneg hu.1,aa4,Int.emod_eq_of_lt (by omega) (by omega),h1,Int.pow_succ]
    exact Int.ediv_ediv_of_nonneg (by omega)
   ·by_cases e:k=i
    ·subst e;rw[hd,he,hti]
    ·exact h2 k g g' (by omega)
  ·rw[if_neg he,ah]
   refine⟨rfl,fun e=>he ?_⟩
   rw[<-hd,<-hti]
   simp only[e]
 ·rintro⟨u,v,s⟩ ⟨h1,h2⟩
  simp only[kF]
  rw[dH (qm (by omega)),ah]
  exact List.ext_getElem (by rw[htl];rfl) fun k g g'=>h2 k g g' (by omega)
 ·rintro(w | w) hw
  ·simp only[gY,ah]
   rw[if_pos hw.2,hw.1]
  ·simp only[gY]
   simp only at hw
   rw[if_neg (fun g=>g hw)]
   refine Wq.bind (Q:=fun w:Int×Int=>w=(unZ ((b.drop 8).take 8),unZ ((b.drop 0).take 8)))
    (gX (n:=8) (step:=fun v:Int×Int×Int=>kG b v.fst v.snd.fst v.snd.snd) (by decide)
      (fun i x=>x=(unZ ((b.drop 8).take i),unZ ((b.drop 0).take i))) _ ?_ ?_ _ 0 (by decide) (by simp [unZ])) ?_
   ·rintro i x hi rfl
    simp only[kG]
    have e1:wr .i64 (aj 8 (i:Int))=((8+i:Nat):Int):=by rw[aj,bY (by omega) (by omega)];omega
    have hi1:i<b.length:=by omega
    have hi2:8+i<b.length:=by omega
    have snoc:∀(k:Nat) (hk:k+i<b.length),(b.drop k).take (i+1)=(b.drop k).take i++[b[k+i]'hk]:=fun k hk=>by
     rw[qw (by rw[List.length_drop];omega),List.getElem_drop]
    have rng:∀k:Nat,k+8<=b.length->0<=unZ ((b.drop k).take (i+1))/\unZ ((b.drop k).take (i+1))<18446744073709551616/\0<=unZ ((b.drop k).take i):=fun k hk=>by
     have g1:=aeY ((hb.drop k).take (i+1))
     have g2:=aeY ((hb.drop k).take i)
     refine⟨g1.1,?_,g2.1⟩
     have g3:((b.drop k).take (i+1)).length=i+1:=by rw[List.length_take,List.length_drop];omega
     rw[g3]at g1
     have g4:=ar9 (show i+1<=8 by omega)
     omega
    have stp:∀(k:Nat) (hk:k+8<=b.length),wr .u64 (aj (wr .u64 (dY (unZ ((b.drop k).take i)) 256)) (wr .u64 (b[k+i]'(by omega))))=unZ ((b.drop k).take (i+1)):=fun k hk=>by
     have hbb:=hb.get (show k+i<b.length by omega)
     have g:=rng k hk
     rw[snoc k (by omega),afs]at g ⊢
     rw[uh,uh,uh,aj,dY]
     omega
    rw[aB (nD (by omega)),aB (inb _ _ hi1),e1,aB (inb _ _ hi2),bI _ _ hi2,bI _ _ hi1,ah,stp 8 (by omega)]
    have:=stp 0 (by omega)
    simp only[Nat.zero_add]at this
    rw[this]
    exact⟨bG (by omega),rfl⟩
   ·rintro x rfl
    simp only[kG]
    rw[dH (qm (by omega)),ah]
   ·rintro w rfl
    rw[acv,ak,fB,JW]
    have ea:dw.mk (wr .i64 (unZ ((b.drop 0).take 8))) (wr .i64 (unZ ((b.drop 8).take 8)))=atS b:=rfl
    rw[ea]
    by_cases hp:Eu (atS b)
    ·rw[if_pos hp,if_pos hp,ah]
    ·rw[if_neg hp,if_neg hp,ah]
theorem ahe {s:dw} (h:Eu s):nT s=some (GU s):=by
 refine Wq.eq ?_
 unfold nT
 obtain⟨p1,p2,p3,p4⟩:=h
 refine Wq.bind (Q:=fun w=>w=sK s)
  (amO (n:=8) (step:=fun v:Int×Int×Int×List Int=>kD v.fst v.snd.fst v.snd.snd.fst v.snd.snd.snd) (by decide)
    (fun i x=>i<=8/\x.1=s.lsn / 256^(8 - i)/\x.2.1=s.gen / 256^(8 - i)/\x.2.2=List.replicate i 0++wL s.gen (8 - i)++(List.replicate i 0++wL s.lsn (8 - i))) _ ?_ ?_ _ ⟨Nat.le_refl _,by simp,by simp,by simp [wL,jR]⟩) ?_
 ·rintro i ⟨u,v,l⟩ hi ⟨-, h1,h2,h3⟩
  simp only at h1 h2 h3
  simp only[kD]
  have hp:(0:Int)<256^(8 - (i+1)):=Int.pow_pos (by decide)
  have hu:0<=u/\u<=1000000000:=by
   rw[h1];refine⟨Int.ediv_nonneg p3 (by omega),?_⟩
   have:=Int.ediv_le_self (256^(8 - (i+1))) p3;omega
  have hv:0<=v/\v<=1000000000:=by
   rw[h2];refine⟨Int.ediv_nonneg (by omega) (by omega),?_⟩
   have:=Int.ediv_le_self (256^(8 - (i+1))) (show 0<=s.gen by omega);omega
  have hl:l.length=16:=by rw[h3];simp [JR];omega
  have e1:wr .i64 (aj 8 (i:Int))=((8+i:Nat):Int):=by rw[aj,bY (by omega) (by omega)];omega
  have e:8 - i=(8 - (i+1))+1:=by omega
  have eu:wr .u8 (vI u 256)=s.lsn / 256^(8 - (i+1))%256:=by unfold vI;rw[Int.tmod_eq_emod_of_nonneg hu.1,Ul,Int.emod_emod,h1]
  have ev:wr .u8 (vI v 256)=s.gen / 256^(8 - (i+1))%256:=by unfold vI;rw[Int.tmod_eq_emod_of_nonneg hv.1,Ul,Int.emod_emod,h2]
  have qu:wr .i64 (JA u 256)=s.lsn / 256^(8 - i):=by
   unfold JA;rw[Int.tdiv_eq_ediv_of_nonneg hu.1,bY (by omega) (by omega),h1,e,Int.pow_succ];exact Int.ediv_ediv_of_nonneg (by omega)
  have qv:wr .i64 (JA v 256)=s.gen / 256^(8 - i):=by
   unfold JA;rw[Int.tdiv_eq_ediv_of_nonneg hv.1,bY (by omega) (by omega),h2,e,Int.pow_succ];exact Int.ediv_ediv_of_nonneg (by omega)
  rw[aB (jd (by omega)),aB (inb _ _ (show i<l.length by omega)),e1,eu,ev,qu,qv,qh,qh]
  rw[aB (inb _ _ (by rw[UJ];omega)),ah]
  refine⟨ab7 (by omega),by omega,rfl,rfl,?_⟩
  simp only
  rw[h3,e]
  unfold bT
  have a1:((List.replicate (i+1) (0:Int)++wL s.gen (8 - (i+1))++(List.replicate (i+1) 0++wL s.lsn (8 - (i+1)))).set i (s.gen / 256^(8 - (i+1))%256))=List.replicate i 0++wL s.gen ((8 - (i+1))+1)++(List.replicate (i+1) 0++wL s.lsn (8 - (i+1))):=by
   rw[List.set_append,if_pos (by simp [JR];omega),List.set_append,if_pos (by simp),List.replicate_succ',List.set_append,if_neg (by simp)]
   simp [wL]
  rw[a1]
  have a2:(List.replicate i (0:Int)++wL s.gen ((8 - (i+1))+1)).length=8:=by simp [JR];omega
  rw[List.set_append,if_neg (by omega),a2,show 8+i - 8=i by omega,List.set_append,if_pos (by simp),List.replicate_succ',List.set_append,if_neg (by simp)]
  simp [wL]
 ·rintro⟨u,v,l⟩ ⟨-, h1,h2,h3⟩
  simp only[kD]
  rw[dH (ahJ (by omega)),ah]
  simp only at h3
  rw[h3];simp [sK]
 ·rintro w rfl
  rw[Zn (by rw[ac4];decide) (agW s),ak]
  have hc:=akL (sK s)
  generalize hcg:xU (sK s)=c at hc ⊢
  refine Wq.bind (Q:=fun w=>w=GU s)
   (gX (n:=4) (step:=fun v:Int×Int×List Int=>kC v.fst v.snd.fst v.snd.snd) (by decide)
     (fun i x=>x.1=c / 256^i/\x.2=sK s++(pz c).take i) _ ?_ ?_ _ 0 (by decide) ⟨by simp,by simp⟩) fun w hw=>(ah _).2 hw
  ·rintro i ⟨u,l⟩ hi ⟨h1,h2⟩
   simp only at h1 h2
   simp only[kC]
   have hp:(0:Int)<256^i:=Int.pow_pos (by decide)
   have hu:0<=u/\u<4294967296:=by
    rw[h1]
    refine⟨Int.ediv_nonneg hc.1 (by omega),?_⟩
    have:=Int.ediv_le_self (256^i) hc.1
    omega
   have e2:wr .u8 (vI u 256)=c / 256^i%256:=by
    unfold vI;rw[Int.tmod_eq_emod_of_nonneg hu.1,Ul,Int.emod_emod,h1]
   rw[aB (nD (by omega)),e2,aB (jd (by simp only[len,dB,h2,List.length_append,ac4,List.length_take,List.length_singleton];omega)),ah]
   refine⟨bG (by omega),?_,?_⟩
   ·show wr .u32 (JA u 256)=_
    unfold JA
    rw[Int.tdiv_eq_ediv_of_nonneg hu.1,aa4,Int.emod_eq_of_lt (by omega) (by omega),h1,Int.pow_succ]
    exact Int.ediv_ediv_of_nonneg (by omega)
   ·simp only[dB]
    rw[h2]
    exact adq c hi _
  ·rintro⟨u,l⟩ ⟨h1,h2⟩
   simp only[kC]
   rw[dH (qm (by omega)),ah]
   simp only at h2
   rw[h2,<-hcg];simp [GU,pz]
def n0:Nm:=[115,108,111,116,46,48]
def n1:Nm:=[115,108,111,116,46,49]
def nmS (g:Int):Nm:=if g%2=0 then n0 else n1
theorem n01:n0<n1:=by decide
theorem agn:nJ n0:=by decide
theorem afh:nJ n1:=by decide
theorem aie (g:Int):nJ (nmS g):=by unfold nmS;split;exact agn;exact afh
theorem nJ.len {n:Nm} (h:nJ n):n.length<999999:=by have:=h.2.2;omega
theorem Yh {g:Int} (h:0<=g):lT g=some (nmS g):=by
 unfold lT nmS vI
 rw[iO,Int.tmod_eq_emod_of_nonneg h];split<;>rfl
theorem ad7 {g:Int} (h:0<=g):qy g=some (nmS g):=by
 unfold qy nmS vI
 rw[fB,iO,Int.tmod_eq_emod_of_nonneg h];split<;>rfl
def ctF (l:List aF) (n:Nm):List Int:=match ql l n with | some f=>f.data | none=>[]
def wR (d:au):Prop:=∀f∈d.files,gm f.data
theorem abt {d:au} (h:wR d) (n:Nm):gm (ctF d.files n):=by
 unfold ctF
 cases hg:ql d.files n with
 |none=>intro x hx;cases hx
 |some f=>exact h f (U8 hg).1
def GV (best:dw) (par:Int) (b:List Int):dw:=if (slD b).2=0/\(slD b).1.gen%2=par/\best.gen<(slD b).1.gen then (slD b).1 else best
def TY (c0 c1:List Int):dw:=GV (GV ⟨0,0⟩ 0 c0) 1 c1
def FZ (l:List aF):dw:=TY (ctF l n0) (ctF l n1)
def fV (d:au):dw×Int:=if ¬jh d then (⟨0,0⟩,1)else if d.down=true then (⟨0,0⟩,9)else if (FZ d.files).gen=0 then (⟨0,0⟩,7)else (FZ d.files,0)
theorem ajO {b:List Int} (h:(slD b).2=0):Eu (slD b).1/\slD b=(atS b,0)/\b.length=20/\b.drop 16=pz (xU (b.take 16)):=by
 unfold slD at h ⊢
 by_cases h1:b.length≠20
 ·simp [h1]at h
 rw[if_neg h1]at h ⊢
 by_cases h2:b.drop 16≠pz (xU (b.take 16))
 ·simp [h2]at h
 rw[if_neg h2]at h ⊢
 by_cases h3:Eu (atS b)
 ·rw[if_pos h3];exact⟨h3,rfl,Classical.not_not.1 h1,Classical.not_not.1 h2⟩
 ·simp [h3]at h
theorem aij (s:dw) (p:Int) (b:List Int):GV s p b=s\/Eu (GV s p b):=by
 unfold GV;split
 ·rename_i h;exact .inr (ajO h.1).1
 ·exact .inl rfl
theorem afN (a b:List Int):TY a b=⟨0,0⟩\/Eu (TY a b):=by
 unfold TY
 rcases aij (GV ⟨0,0⟩ 0 a) 1 b with h | h
 ·rw[h];exact aij _ _ _
 ·exact .inr h
theorem aiJ (a b:List Int):0<=(TY a b).gen/\(TY a b).gen<=1000000000:=by
 rcases afN a b with h | h
 ·rw[h];simp
 ·exact⟨by have:=h.1;omega,h.2.1⟩
theorem agk {a b:List Int} (h:(TY a b).gen=0):TY a b=⟨0,0⟩:=by
 rcases afN a b with g | g
 ·exact g
 ·have:=g.1;omega
theorem ajv {d:au} {n:Nm} (hd:jh d) (hw:d.down=false) (hn:nJ n):(YR d n).1=ctF d.files n:=by
 unfold YR ctF
 rw[if_neg (fun g=>g (jS.2 ⟨hd,hw,WJ hn⟩))]
 cases ql d.files n<;>rfl
theorem Yj {d:au} (h:KR d) (hb:wR d):wP d=some (fV d):=by
 refine Wq.eq ?_
 unfold wP fV
 rw[acz h.nm,ak,fB,JW]
 by_cases hd:jh d
 case neg=>rw[if_neg hd,ah,if_pos hd]
 rw[if_pos hd,if_neg (fun g=>g hd)]
 cases hw:d.down
 case true=>rw[bK,ah];simp
 rw[bW,if_neg (by simp),Yh (by decide),ak,show nmS 0=n0 from rfl,agH h agn.len,ak,ajv hd hw agn,aad (abt hb _),ak]
 simp only[Yh (show(0:Int)<=1 by decide),ak,show nmS 1=n1 from rfl,agH h afh.len,ajv hd hw afh,aad (abt hb _)]
 have pos:∀b:List Int,(slD b).2=0->vI (slD b).1.gen 2=(slD b).1.gen%2:=fun b hb=>by
  have:=(ajO hb).1.1
  unfold vI;exact Int.tmod_eq_emod_of_nonneg (by omega)
 have iff2:∀(b:List Int) (s:dw) (p:Int),(band (band (ieq (slD b).2 0) (ieq (vI (slD b).1.gen 2) p)) (ilt s.gen (slD b).1.gen)=true)↔((slD b).2=0/\(slD b).1.gen%2=p/\s.gen<(slD b).1.gen):=fun b s p=>by
  simp only[aQ,aZ,bV]
  constructor
  ·rintro⟨⟨h1,h2⟩,h3⟩;exact⟨h1,by rw[<-pos b h1];exact h2,h3⟩
  ·rintro⟨h1,h2,h3⟩;exact⟨⟨h1,by rw[pos b h1];exact h2⟩,h3⟩
 have i0:=iff2 (ctF d.files n0) ⟨0,0⟩ 0
 rw[gq]
 refine⟨fun hc=> ?_,fun hc=> ?_⟩
 ·have e0:GV ⟨0,0⟩ 0 (ctF d.files n0)=(slD (ctF d.files n0)).1:=by unfold GV;rw[if_pos (i0.1 hc)]
  rw[gq]
  refine⟨fun hc2=> ?_,fun hc2=> ?_⟩
  ·have e1:FZ d.files=(slD (ctF d.files n1)).1:=by unfold FZ TY;rw[e0];unfold GV;rw[if_pos ((iff2 _ _ 1).1 hc2)]
   rw[<-e1,iO]
   split<;>rw[ah]
  ·have e1:FZ d.files=(slD (ctF d.files n0)).1:=by unfold FZ TY;rw[e0];unfold GV;rw[if_neg fun g=>by rw[(iff2 _ _ 1).2 g]at hc2;cases hc2]
   rw[<-e1,iO]
   split<;>rw[ah]
 ·have e0:GV ⟨0,0⟩ 0 (ctF d.files n0)=⟨0,0⟩:=by unfold GV;rw[if_neg fun g=>by rw[i0.2 g]at hc;cases hc]
  rw[gq]
  refine⟨fun hc2=> ?_,fun hc2=> ?_⟩
  ·have e1:FZ d.files=(slD (ctF d.files n1)).1:=by unfold FZ TY;rw[e0];unfold GV;rw[if_pos ((iff2 _ ⟨0,0⟩ 1).1 hc2)]
   rw[<-e1,iO]
   split<;>rw[ah]
  ·have e1:FZ d.files=⟨0,0⟩:=by unfold FZ TY;rw[e0];unfold GV;rw[if_neg fun g=>by rw[(iff2 _ ⟨0,0⟩ 1).2 g]at hc2;cases hc2]
   rw[e1,ah,if_pos rfl]
def IL (best:dw) (l:List aF):dw:=l.foldl (fun best f=>if (slD f.data).2=0/\f.name=nmS (slD f.data).1.gen/\best.gen<(slD f.data).1.gen then (slD f.data).1 else best) best
theorem U2 {l:List aF} (h:∀f∈l,f.name≠n0/\f.name≠n1):∀best,IL best l=best:=by
 induction l with
 |nil=>intro best;rfl
 |cons f l ih=>
  intro best
  have hf:=h f (List.mem_cons_self ..)
  unfold IL
  rw[List.foldl_cons,if_neg]
  ·exact ih (fun g hg=>h g (List.mem_cons_of_mem _ hg)) best
  ·rintro⟨-, e, -⟩
   unfold nmS at e
   split at e
   ·exact hf.1 e
   ·exact hf.2 e
theorem RF (b:dw) (l k:List aF):IL b (l++k)=IL (IL b l) k:=by unfold IL;rw[List.foldl_append]
theorem ama {b:dw} {f:aF} (h:f.name=n0) (k:List aF):IL b (f::k)=IL (GV b 0 f.data) k:=by
 unfold IL GV
 rw[List.foldl_cons,h]
 congr 1
 have:n0=nmS (slD f.data).1.gen↔(slD f.data).1.gen%2=0:=by
  unfold nmS
  by_cases e:(slD f.data).1.gen%2=0
  ·rw[if_pos e];simp [e]
  ·rw[if_neg e];simp only[e,iff_false];exact JK n01
 simp only[this]
theorem amu {b:dw} {f:aF} (h:f.name=n1) (k:List aF):IL b (f::k)=IL (GV b 1 f.data) k:=by
 unfold IL GV
 rw[List.foldl_cons,h]
 congr 1
 have:n1=nmS (slD f.data).1.gen↔(slD f.data).1.gen%2=1:=by
  unfold nmS
  by_cases e:(slD f.data).1.gen%2=0
  ·rw[if_pos e];simp only[e];constructor
   ·intro g;exact absurd g.symm (JK n01)
   ·intro g;omega
  ·rw[if_neg e];simp only[true_iff];omega
 simp only[this]
theorem xq {l:List aF} (h:Ru l) (hl:l.length<=100000) (n:Nm):∃i o,qJ n l i o:=by
 obtain⟨_,_,i,o,_,h2,_⟩:=Yy (d:=⟨l,0,0,false⟩) (n:=n) h hl
 exact⟨i,o,h2⟩
theorem alb (b:dw) (p:Int):GV b p []=b:=by unfold GV slD;simp
theorem aoY {l:List aF} (h:Ru l) (hl:l.length<=100000):IL ⟨0,0⟩ l=FZ l:=by
 have tail:∀(b:List aF) (best:dw),Ru b->b.length<=100000->(∀f∈b,n0<f.name)->IL best b=GV best 1 (ctF b n1):=fun b best hb hbl hn=>by
  obtain⟨j,o,hs⟩:=xq hb hbl n1
  have hg:=hs.get
  unfold ctF
  cases hs with
  |no a c ha hc=>
   rw[hg,alb]
   refine U2 (fun f hf=>⟨(JK (hn f hf)).symm,?_⟩) best
   rcases List.mem_append.1 hf with g | g
   ·exact JK (ha f g)
   ·exact(JK (hc f g)).symm
  |yes a f c e ha hc=>
   rw[hg,RF,U2 (fun f hf=>⟨(JK (hn f (List.mem_append_left _ hf))).symm,JK (ha f hf)⟩),amu e,U2 (fun f hf=>⟨(JK (P8 n01 (hc f hf))).symm,(JK (hc f hf)).symm⟩)]
 obtain⟨i,o,hs⟩:=xq h hl n0
 have hg:=hs.get
 unfold FZ TY
 cases hs with
 |no a c ha hc=>
  have h2:ctF (a++c) n1=ctF c n1:=by unfold ctF;rw[SG fun f hf=>JK (P8 (ha f hf) n01)]
  have hac:Ru c:=(List.pairwise_append.1 h).2.1
  rw[h2,show ctF (a++c) n0=[] by unfold ctF;rw[hg],alb,RF,U2 (fun f hf=>⟨JK (ha f hf),JK (P8 (ha f hf) n01)⟩)]
  exact tail c _ hac (by rw[List.length_append]at hl;omega) hc
 |yes a f c e ha hc=>
  have h2:ctF (a++f::c) n1=ctF c n1:=by
   unfold ctF;rw[SG fun f hf=>JK (P8 (ha f hf) n01),adb,if_neg (by rw[e];exact JK n01)]
  have hac:Ru c:=(List.pairwise_cons.1 (List.pairwise_append.1 h).2.1).2
  rw[h2,show ctF (a++f::c) n0=f.data by unfold ctF;rw[hg],RF,U2 (fun f hf=>⟨JK (ha f hf),JK (P8 (ha f hf) n01)⟩),ama e]
  exact tail c _ hac (by rw[List.length_append,List.length_cons]at hl;omega) hc
theorem YJ {d:au} (h:KR d) (hb:wR d):nM d=some (fV d):=by
 refine Wq.eq ?_
 unfold nM fV
 rw[VY h.nm,ak,fB,JW]
 by_cases hd:jh d
 case neg=>rw[if_neg hd,ah,if_pos hd]
 rw[if_pos hd,if_neg (fun g=>g hd)]
 cases hw:d.down
 case true=>rw[bK,ah];simp
 have hl:=hd.fl
 rw[bW,if_neg (by simp)]
 refine Wq.bind (gX (n:=d.files.length) (step:=fun v:Int×dw=>lM d v.fst v.snd) (by omega) (fun i x=>x=IL ⟨0,0⟩ (d.files.take i)) (fun w=>w=IL ⟨0,0⟩ d.files) ?_ ?_ _ 0 (Nat.zero_le _) (by simp [IL])) ?_
 ·rintro i x hi rfl
  simp only[lM]
  rw[aB (by rw[eU];simpa using hi),aB (inb _ i hi),bI _ i hi,ahE (hb _ (List.getElem_mem hi)),ak,aB (by rw[bM];exact .inl (inb _ i hi)),iO,qw hi,RF]
  by_cases h0:(slD d.files[i].data).2=0
  ·have hp:=(ajO h0).1
   rw[if_pos h0,ad7 (by have:=hp.1;omega),ak,gq,ah,ah]
   constructor
   ·intro hc
    simp only[aQ,aZ,bV,ZP]at hc
    refine⟨bG (by omega),?_⟩
    conv=>rhs;unfold IL
    rw[List.foldl_cons,List.foldl_nil,if_pos ⟨hc.1.1,hc.1.2,hc.2⟩]
   ·intro hc
    refine⟨bG (by omega),?_⟩
    conv=>rhs;unfold IL
    rw[List.foldl_cons,List.foldl_nil,if_neg]
    ·rfl
    ·rintro⟨g1,g2,g3⟩
     rw[<-Bool.not_eq_true]at hc
     apply hc
     simp only[aQ,aZ,bV,ZP]
     exact⟨⟨g1,g2⟩,g3⟩
  ·rw[if_neg h0,ak,dH (by simp only[bg,bC];exact .inl (.inl h0)),ah]
   refine⟨bG (by omega),?_⟩
   conv=>rhs;unfold IL
   rw[List.foldl_cons,List.foldl_nil,if_neg (fun g=>h0 g.1)]
   rfl
 ·rintro x rfl
  simp only[lM]
  rw[dH (ZJ _),ah,List.take_length]
 ·rintro w rfl
  rw[aoY hd.asc (by omega),iO]
  by_cases h0:(FZ d.files).gen=0
  ·rw[if_pos h0,ah,if_pos h0]
   unfold FZ at h0 ⊢
   rw[agk h0]
  ·rw[if_neg h0,ah,if_neg h0]
theorem ac7 (f:aF) (l:List aF):Bd (f::l)↔okF f/\Bd l/\∀g∈l,f.name<g.name:=by
 have:=Aa [f] l
 rw[List.singleton_append,aiz]at this
 rw[this]
 simp
def aey (o:Option aF):Nat:=match o with | some f=>f.data.length | none=>0
theorem qJ.used {n:Nm} {l:List aF} {i:Nat} {o:Option aF} (h:qJ n l i o) (f:aF) (e:f.name=n):lu (BN f l)+aey o=lu l+f.data.length:=by
 subst e
 cases h with
 |no a b ha hb=>rw[D7 ha,SL hb,xu,xu,V4];simp only[aey];omega
 |yes a g b e ha hb=>rw[D7 ha,aeW e hb,xu,xu,V4,V4];simp only[aey];omega
theorem qJ.long {n:Nm} {l:List aF} {i:Nat} {o:Option aF} (h:qJ n l i o) (f:aF) (e:f.name=n):(BN f l).length=l.length+if o=none then 1 else 0:=by
 subst e
 cases h with
 |no a b ha hb=>rw[D7 ha,SL hb];simp;omega
 |yes a g b e ha hb=>rw[D7 ha,aeW e hb];simp
theorem qJ.good {n:Nm} {l:List aF} {i:Nat} {o:Option aF} (h:qJ n l i o) {f:aF} (e:f.name=n) (hf:okF f) (hl:Bd l):Bd (BN f l):=by
 subst e
 cases h with
 |no a b ha hb=>
  rw[D7 ha,SL hb]
  obtain⟨h1,h2,h3⟩:=(Aa _ _).1 hl
  refine(Aa _ _).2 ⟨h1,(ac7 _ _).2 ⟨hf,h2,hb⟩,fun g hg k hk=> ?_⟩
  rcases List.mem_cons.1 hk with rfl | hk
  ·exact ha g hg
  ·exact h3 g hg k hk
 |yes a g b e ha hb=>
  rw[D7 ha,aeW e hb]
  obtain⟨h1,h2,h3⟩:=(Aa _ _).1 hl
  refine(Aa _ _).2 ⟨h1,(ac7 _ _).2 ⟨hf,((ac7 _ _).1 h2).2.1,hb⟩,fun g hg k hk=> ?_⟩
  rcases List.mem_cons.1 hk with rfl | hk
  ·exact ha g hg
  ·exact h3 g hg k (List.mem_cons_of_mem _ hk)
theorem qJ.usedD {n:Nm} {l:List aF} {i:Nat} {o:Option aF} (h:qJ n l i o):lu (F8 n l)+aey o=lu l:=by
 cases h with
 |no a b ha hb=>rw[KZ (fun f hf=>(List.mem_append.1 hf).elim (fun g=>JK (ha f g)) (fun g=>(JK (hb f g)).symm))];rfl
 |yes a g b e ha hb=>
  rw[XU,Px,if_pos e,KZ fun g hg=>JK (ha g hg),KZ fun g hg=>(JK (hb g hg)).symm,xu,xu,V4]
  simp only[aey];omega
theorem aq7 {n:Nm} {l:List aF} (h:Bd l):Bd (F8 n l):=⟨fun f hf=>h.1 f (List.mem_filter.1 hf).1,anc h.2⟩
structure Keep (d e:au):Prop where
 right:jh e
 fz:e.fuse<=d.fuse
 room:e.room=d.room
theorem Keep.refl {d:au} (h:jh d):Keep d d:=⟨h,Int.le_refl _,rfl⟩
theorem Keep.trans {a b c:au} (h:Keep a b) (k:Keep b c):Keep a c:=⟨k.right,Int.le_trans k.fz h.fz,k.room.trans h.room⟩
theorem jh.bnd {d:au} (h:jh d) (hf:inI d.fuse):KR d:=
 ⟨fun f hf=>by have:=(h.2.1.1 f hf).1.2.2;omega,hf⟩
theorem Keep.bnd {d e:au} (h:Keep d e) (hf:inI d.fuse):KR e:=by
 refine h.right.bnd ?_
 have:=h.fz
 have:=h.right.1.2.2.1
 unfold inI at*
 omega
theorem amv (d:au):(d.fuse=0/\(eP d).1.fuse=0/\(eP d).1.down=true/\(eP d).2=false)\/((eP d).1.fuse<=d.fuse/\(-1<=d.fuse-> -1<=(eP d).1.fuse)/\(eP d).1.down=d.down/\(eP d).2=true):=by
 unfold eP
 by_cases h0:d.fuse=0
 ·simp [h0]
 by_cases h1:d.fuse= -1
 ·simp [h1]
 ·rw[if_neg h0,if_neg h1];right;simp only;exact⟨by omega,fun _=>by omega,trivial,trivial⟩
theorem Qy {d:au} (h:jh d):Keep d (eP d).1:=by
 have hf:=amv d
 have h1:=h.1
 refine⟨⟨⟨?_,?_,?_,?_⟩,?_,?_⟩,?_,zZ d⟩<;>(try rw[zZ])<;>(try rw[iK])
 ·omega
 ·omega
 ·rcases hf with hf | hf
  ·omega
  ·exact hf.2.1 h1.2.2.1
 ·omega
 ·exact h.2.1
 ·exact h.2.2
 ·rcases hf with hf | hf<;>omega
theorem Zg {d:au} {f:aF} (h:jh d) (hf:okF f) (hu:(lu d.files:Int)+f.data.length<=d.room+aey (ql d.files f.name)) (hl:ql d.files f.name≠none\/d.files.length<64):Keep d (Je d f):=by
 obtain⟨i,o,hs⟩:=xq h.asc (by have:=h.fl;omega) f.name
 have g1:=hs.used f rfl
 have g2:=hs.long f rfl
 rw[hs.get]at hu hl
 have h1:=h.1
 refine⟨⟨⟨h1.1,h1.2.1,h1.2.2.1,?_⟩,hs.good rfl hf h.2.1,?_⟩,Int.le_refl _,rfl⟩
 ·show(BN f d.files).length<=64
  rw[g2]
  split
  ·rename_i e;rcases hl with c | c
   ·exact absurd e c
   ·omega
  ·omega
 ·show(lu (BN f d.files):Int)<=d.room
  omega
theorem akb {d:au} {n:Nm} (h:jh d):Keep d (agM d n):=by
 obtain⟨i,o,hs⟩:=xq h.asc (by have:=h.fl;omega) n
 have g1:=hs.usedD
 have h1:=h.1
 have h2:=h.2.2
 have:=aby n d.files
 exact⟨⟨⟨h1.1,h1.2.1,h1.2.2.1,Nat.le_trans this h1.2.2.2⟩,aq7 h.2.1,by show(lu (F8 n d.files):Int)<=d.room;omega⟩,Int.le_refl _,rfl⟩
theorem amM {d:au} {n:Nm} {f:aF} (h:jh d) (hg:ql d.files n=some f):okF f/\f.name=n:=⟨h.2.1.1 f (U8 hg).1,(U8 hg).2⟩
theorem ak1 (p:au×Bool):(ao0 p).1=p.1:=rfl
theorem Em {d:au} {n:Nm} {b:List Int} (h:jh d):Keep d (iW d n b).1:=by
 unfold iW
 by_cases h0:iJ d [n]=0
 case neg=>rw[if_pos h0];exact Keep.refl h
 rw[if_neg (fun g=>g h0)]
 have hn:=(jS.1 h0).2.2 n (List.mem_singleton.2 rfl)
 by_cases hc:d.room<(lu d.files:Int)+(b.length:Int)\/(ql d.files n=none/\64<=d.files.length)
 ·rw[if_pos hc];exact Keep.refl h
 rw[if_neg hc,ak1]
 have hw:Keep d (Je d ⟨n,((ql d.files n).getD ⟨n,[],0⟩).data++b,((ql d.files n).getD ⟨n,[],0⟩).sure⟩):=by
  have hc1:¬d.room<(lu d.files:Int)+(b.length:Int):=fun g=>hc (.inl g)
  refine Zg h ?_ ?_ ?_
  ·cases hg:ql d.files n with
   |none=>exact⟨hn,Int.le_refl _,by simp only[len,Option.getD_none];omega⟩
   |some f=>
    have hf:=(amM h hg).1
    exact⟨hn,hf.2.1,by have:=hf.2.2;simp only[Option.getD_some,len,List.length_append]at this ⊢; omega⟩
  ·cases hg:ql d.files n with
   |none=>simp only[aey,Option.getD_none,List.nil_append];omega
   |some f=>simp only[aey,Option.getD_some,List.length_append];omega
  ·cases hg:ql d.files n with
   |none=>right;have:¬64<=d.files.length:=fun g=>hc (.inr ⟨hg,g⟩);omega
   |some f=>left;intro e;cases e
 exact hw.trans (Qy hw.right)
theorem TV {d:au} {n:Nm} (h:jh d):Keep d (Me d n).1:=by
 unfold Me
 by_cases h0:iJ d [n]=0
 case neg=>rw[if_pos h0];exact Keep.refl h
 rw[if_neg (fun g=>g h0)]
 have hn:=(jS.1 h0).2.2 n (List.mem_singleton.2 rfl)
 have hk:=Qy h
 cases hg:ql d.files n with
 |none=>exact Keep.refl h
 |some f=>
  simp only
  split
  ·refine hk.trans (Zg hk.right ⟨hn,by simp only[len];omega,Int.le_refl _⟩ ?_ ?_)
   ·simp only;rw[iK,zZ,hg];simp only[aey];have:=h.2.2;omega
   ·left;simp only;rw[iK,hg];intro e;cases e
  ·exact hk
theorem Iw {d:au} {n:Nm} (h:jh d):Keep d (tK d n).1:=by
 unfold tK
 by_cases h0:iJ d [n]=0
 case neg=>rw[if_pos h0];exact Keep.refl h
 rw[if_neg (fun g=>g h0)]
 have hk:=Qy h
 cases hg:ql d.files n with
 |none=>exact Keep.refl h
 |some f=>
  simp only
  split
  ·exact hk.trans (akb hk.right)
  ·exact hk
theorem ak8 {d:au} {n:Nm} {k:Int} (h:jh d):Keep d (S9 d n k).1:=by
 unfold S9
 by_cases h0:iJ d [n]=0
 case neg=>rw[if_pos h0];exact Keep.refl h
 rw[if_neg (fun g=>g h0)]
 have hn:=(jS.1 h0).2.2 n (List.mem_singleton.2 rfl)
 have hk:=Qy h
 cases hg:ql d.files n with
 |none=>exact Keep.refl h
 |some f=>
  simp only
  have hf:=(amM h hg).1
  by_cases hc:k<0\/len f.data<k
  ·rw[if_pos hc];exact Keep.refl h
  rw[if_neg hc]
  have h1:¬k<0:=fun g=>hc (.inl g)
  have h2:¬len f.data<k:=fun g=>hc (.inr g)
  simp only[len]at h2
  have hl:(f.data.take k.toNat).length=k.toNat:=by rw[List.length_take];omega
  split
  ·refine hk.trans (Zg hk.right ⟨hn,?_,?_⟩ ?_ ?_)
   ·simp only;have:=hf.2.1;split<;>omega
   ·simp only[len,hl];split<;>omega
   ·simp only;rw[iK,zZ,hg,hl];simp only[aey];have:=h.2.2;omega
   ·left;simp only;rw[iK,hg];intro e;cases e
  ·exact hk
theorem Sl {d:au} {a b:Nm} (h:jh d):Keep d (CB d a b).1:=by
 unfold CB
 by_cases h0:iJ d [a,b]=0
 case neg=>rw[if_pos h0];exact Keep.refl h
 rw[if_neg (fun g=>g h0)]
 have hn:=(jS.1 h0).2.2 b (by simp)
 have hk:=Qy h
 cases hg:ql d.files a with
 |none=>exact Keep.refl h
 |some f=>
  simp only
  have hf:=(amM h hg).1
  split
  ·have hk2:=hk.trans (akb (n:=a) hk.right)
   refine hk2.trans (Zg hk2.right ⟨hn,hf.2.1,hf.2.2⟩ ?_ ?_)
   ·obtain⟨i,o,hs⟩:=xq h.asc (by have:=h.fl;omega) a
    have hu:=hs.usedD
    rw[<-hs.get,hg]at hu
    have hd:=h.2.2
    simp only[agM]
    rw[iK,zZ]
    simp only[aey]at hu ⊢
    omega
   ·right
    obtain⟨i,o,hs⟩:=xq h.asc (by have:=h.fl;omega) a
    have hi:=hs.get
    rw[hg]at hi
    subst hi
    have hd:=hs.del
    obtain⟨hil,-, -⟩:=hs.lt
    have hfl:=h.fl
    simp only[agM]
    rw[iK,<-hd,List.length_eraseIdx_of_lt hil]
    omega
  ·exact hk
theorem anx {f g:aF}:∀ {l:List aF},g∈BN f l->g=f\/g∈l
 |[],h=> .inl (List.mem_singleton.1 h)
 |k::r,h=>by
  rw[BN]at h
  split at h
  ·rcases List.mem_cons.1 h with rfl | h
   ·exact .inr (List.mem_cons_self ..)
   ·rcases anx h with e | e
    ·exact .inl e
    ·exact .inr (List.mem_cons_of_mem _ e)
  ·rcases List.mem_cons.1 h with rfl | h
   ·exact .inl rfl
   ·exact .inr (List.mem_filter.1 h).1
theorem ade {d:au} {f:aF} (h:wR d) (hf:gm f.data):wR (Je d f):=fun g hg=>by
 rcases anx hg with rfl | hg
 ·exact hf
 ·exact h g hg
theorem Ho {d:au} (h:wR d):wR (eP d).1:=fun g hg=>by rw[iK]at hg;exact h g hg
theorem akE {d:au} {n:Nm} (h:wR d):wR (agM d n):=fun g hg=>h g (List.mem_filter.1 hg).1
theorem agO {d:au} {n:Nm} {f:aF} (h:wR d) (hg:ql d.files n=some f):gm f.data:=h f (U8 hg).1
theorem YK {d:au} {n:Nm} {b:List Int} (h:wR d) (hb:gm b):wR (iW d n b).1:=by
 unfold iW
 split
 ·exact h
 ·split
  ·exact h
  ·rw[ak1]
   refine Ho (ade h ?_)
   cases hg:ql d.files n with
   |none=>exact hb
   |some f=>exact(agO h hg).app hb
theorem acX {d:au} {n:Nm} (h:wR d):wR (Me d n).1:=by
 unfold Me
 split
 ·exact h
 ·cases hg:ql d.files n with
  |none=>exact h
  |some f=>simp only;split;exact ade (Ho h) (show gm f.data from agO h hg);exact Ho h
theorem XW {d:au} {n:Nm} (h:wR d):wR (tK d n).1:=by
 unfold tK
 split
 ·exact h
 ·cases hg:ql d.files n with
  |none=>exact h
  |some f=>simp only;split;exact akE (Ho h);exact Ho h
theorem Yv {d:au} {a b:Nm} (h:wR d):wR (CB d a b).1:=by
 unfold CB
 split
 ·exact h
 ·cases hg:ql d.files a with
  |none=>exact h
  |some f=>simp only;split;exact ade (akE (Ho h)) (show gm f.data from agO h hg);exact Ho h
def yu (p:au×Int) (f:au->au×Int):au×Int:=if p.2≠0 then p else f p.1
def PV (d:au) (n:Nm):au×Int:=if ql d.files n=none then (d,0)else S9 d n 0
def aqj (d:au) (n:Nm) (b:List Int):au×Int:=yu (yu (PV d n) fun d=>iW d n b) fun d=>Me d n
def VJ (d:au) (s:dw):au×Int:=
 if ¬Eu s\/(fV d).2=1 then (d,1)else if (fV d).2=9 then (d,9)else if s.gen≠(fV d).1.gen+1 then (d,8)else aqj d (nmS s.gen) (GU s)
theorem ig {p:au×Int} {f:au->au×Int} (h:p.2≠0):yu p f=p:=if_pos h
theorem then_ok {p:au×Int} {f:au->au×Int} (h:p.2=0):yu p f=f p.1:=if_neg (fun g=>g h)
theorem XT {d:au} (h1:(fV d).2≠1) (h2:(fV d).2≠9):jh d/\d.down=false:=by
 unfold fV at h1 h2
 by_cases hd:jh d
 ·rw[if_neg (fun g=>g hd)]at h1 h2
  cases hw:d.down
  ·exact⟨hd,rfl⟩
  ·rw[hw]at h2;simp at h2
 ·rw[if_pos hd]at h1;simp at h1
theorem Y4 (d:au):0<=(fV d).1.gen/\(fV d).1.gen<=1000000000:=by
 unfold fV
 split
 ·simp
 ·split
  ·simp
  ·split
   ·simp
   ·exact aiJ _ _
theorem adM {d:au} (h:jh d) (hw:d.down=false):(fV d).1=FZ d.files/\((fV d).2=7/\(FZ d.files).gen=0\/(fV d).2=0/\1<=(FZ d.files).gen):=by
 unfold fV
 rw[if_neg (fun g=>g h),hw,if_neg (by simp)]
 have:=aiJ (ctF d.files n0) (ctF d.files n1)
 by_cases h0:(FZ d.files).gen=0
 ·rw[if_pos h0]
  exact⟨by unfold FZ at h0 ⊢; rw[agk h0],.inl ⟨rfl,h0⟩⟩
 ·rw[if_neg h0]
  exact⟨rfl,.inr ⟨rfl,by unfold FZ at h0 ⊢; omega⟩⟩
theorem agU {d:au} {n:Nm} (h:jh d) (hw:d.down=false) (hn:nJ n):(YR d n).2=7↔ql d.files n=none:=by
 unfold YR
 rw[if_neg (fun g=>g (jS.2 ⟨h,hw,WJ hn⟩))]
 cases ql d.files n<;>simp
theorem al3 {d:au} {n:Nm} (h:jh d):Keep d (PV d n).1:=by
 unfold PV;split
 ·exact Keep.refl h
 ·exact ak8 h
theorem KY {d:au} {p:au×Int} {f:au->au×Int} (h:Keep d p.1) (hf:∀e,jh e->Keep e (f e).1):Keep d (yu p f).1:=by
 unfold yu;split
 ·exact h
 ·exact h.trans (hf _ h.right)
theorem aps {d:au} {n:Nm} {b:List Int} (h:jh d):Keep d (aqj d n b).1:=KY (KY (al3 h) fun e he=>Em he) fun e he=>TV he
theorem Vt {d:au} {s:dw} (h:jh d):Keep d (VJ d s).1:=by
 unfold VJ;split
 ·exact Keep.refl h
 ·split
  ·exact Keep.refl h
  ·split
   ·exact Keep.refl h
   ·exact aps h
theorem am8 {d:au} {n:Nm} {b:List Int} (h:KR d) (hn:nJ n) (hb:b.length<900000):
 Wq (af (jD d n b) fun y5 => cnd (ay (ieq y5.snd 0)) (some y5) (af (kX y5.fst n) fun y6 => cnd (ay (ieq y6.snd 0)) (some y6) (some (y6.fst,0)))) fun x=>x=yu (iW d n b) fun d=>Me d n:=by
 rw[ag8 h hn.len hb,ak,fB,iO]
 by_cases h0:(iW d n b).2=0
 case neg=>rw[if_neg h0,ah,ig h0]
 rw[if_pos h0,then_ok h0]
 by_cases hd:jh d
 ·rw[amg ((Em hd).bnd h.fu) hn.len,ak,fB,iO]
  split
  ·rename_i g;rw[ah,<-g]
  ·rw[ah]
 ·have:(iW d n b).2≠0:=by
   have hf:iJ d [n]=1:=by unfold iJ;rw[if_pos hd]
   unfold iW;rw[if_pos (by rw[hf];decide),hf];show(1:Int)≠0;decide
  exact absurd h0 this
theorem am4 {d:au} {n:Nm} {k:Int} (h:KR d):KR (S9 d n k).1:=by
 by_cases hd:jh d
 ·exact(ak8 hd).bnd h.fu
 ·have hf:iJ d [n]=1:=by unfold iJ;rw[if_pos hd]
  unfold S9;rw[if_pos (by rw[hf];decide)];exact h
theorem abQ {d:au} {s:dw} (h:KR d) (hb:wR d) (hs:inI s.gen):iU d s=some (VJ d s):=by
 refine Wq.eq ?_
 unfold iU VJ
 rw[acn,ak,fB,JW]
 by_cases hp:Eu s
 case neg=>rw[if_neg hp,ah,if_pos (.inl hp)]
 rw[if_pos hp,Yj h hb,ak]
 have hg:=Y4 d
 have eg:wr .i64 (aj (fV d).1.gen 1)=(fV d).1.gen+1:=by rw[aj,bY (by omega) (by omega)]
 rw[eg]
 have rest:(fV d).2≠1->(fV d).2≠9->Wq (cnd (ay (ieq s.gen ((fV d).1.gen+1))) (some (d,(8:Int))) (af (lT s.gen) fun y2 => af (rQ s) fun y3 => af (nS d y2) fun y4 => cnd (ieq y4.snd 7) (af (jD d y2 (toL y3)) fun y5 => cnd (ay (ieq y5.snd 0)) (some y5) (af (kX y5.fst y2) fun y6 => cnd (ay (ieq y6.snd 0)) (some y6) (some (y6.fst,0)))) (af (zX d y2 0) fun y7 => cnd (ay (ieq y7.snd 0)) (some y7) (af (jD y7.fst y2 (toL y3)) fun y8 => cnd (ay (ieq y8.snd 0)) (some y8) (af (kX y8.fst y2) fun y9 => cnd (ay (ieq y9.snd 0)) (some y9) (some (y9.fst,0))))))) fun x=>x=if s.gen≠(fV d).1.gen+1 then (d,8)else aqj d (nmS s.gen) (GU s):=by
  intro g1 g2
  obtain⟨hd,hw⟩:=XT g1 g2
  rw[fB,iO]
  by_cases he:s.gen=(fV d).1.gen+1
  case neg=>rw[if_neg he,ah,if_pos he]
  rw[if_pos he,if_neg (fun g=>g he),Yh (by have:=hp.1;omega),ak]
  refine(aa6 s).bind fun a ha=> ?_
  rw[ha]
  have hn:=aie s.gen
  have hbl:=ah0 s
  rw[agH h hn.len,ak,iO]
  unfold aqj
  by_cases h7:(YR d (nmS s.gen)).2=7
  ·rw[if_pos h7]
   have hg:=(agU hd hw hn).1 h7
   have:PV d (nmS s.gen)=(d,0):=by unfold PV;rw[if_pos hg]
   rw[this,show(yu (d,(0:Int)) fun d=>iW d (nmS s.gen) (GU s))=iW d (nmS s.gen) (GU s)from then_ok rfl]
   exact am8 h hn (by omega)
  ·rw[if_neg h7]
   have hg:ql d.files (nmS s.gen)≠none:=fun g=>h7 ((agU hd hw hn).2 g)
   have:PV d (nmS s.gen)=S9 d (nmS s.gen) 0:=by unfold PV;rw[if_neg hg]
   rw[this,avu h hn.len,ak,fB,iO]
   by_cases h0:(S9 d (nmS s.gen) 0).2=0
   ·rw[if_pos h0,show(yu (S9 d (nmS s.gen) 0) fun d=>iW d (nmS s.gen) (GU s))=iW (S9 d (nmS s.gen) 0).1 (nmS s.gen) (GU s)from then_ok h0]
    exact am8 (am4 h) hn (by omega)
   ·rw[if_neg h0,ah,show(yu (S9 d (nmS s.gen) 0) fun d=>iW d (nmS s.gen) (GU s))=S9 d (nmS s.gen) 0 from ig h0,ig h0]
 rw[iO,iO,iO]
 by_cases h1:(fV d).2=1
 ·rw[if_pos h1,if_pos h1,ah,if_pos (.inr h1),h1]
 have hneg:¬(¬Eu s\/(fV d).2=1):=fun g=>g.elim (fun g=>g hp) h1
 rw[if_neg h1,if_neg hneg]
 by_cases h9:(fV d).2=9
 ·rw[if_pos h9,ah,if_pos h9,h9]
 rw[if_neg h9,if_neg h9]
 exact rest h1 h9
theorem am3 {d:au} {n:Nm} {b:List Int} (h:KR d) (hn:nJ n) (hb:b.length<900000):
 Wq (af (iE d n b) fun y9 => cnd (ay (ieq y9.snd 0)) (some y9) (af (jg y9.fst n) fun y10 => some y10)) fun x=>x=yu (iW d n b) fun d=>Me d n:=by
 rw[alN h hn.len hb,ak,fB,iO]
 by_cases h0:(iW d n b).2=0
 case neg=>rw[if_neg h0,ah,ig h0]
 rw[if_pos h0,then_ok h0]
 by_cases hd:jh d
 ·rw[apI ((Em hd).bnd h.fu) hn.len,ak,ah]
 ·have:(iW d n b).2≠0:=by
   have hf:iJ d [n]=1:=by unfold iJ;rw[if_pos hd]
   unfold iW;rw[if_pos (by rw[hf];decide),hf];show(1:Int)≠0;decide
  exact absurd h0 this
theorem ajy {d:au} {s:dw} (h:KR d) (hb:wR d) (hs:inI s.gen):mg d s=some (VJ d s):=by
 refine Wq.eq ?_
 unfold mg VJ
 have hg:=Y4 d
 have eg:wr .i64 (aj (fV d).1.gen 1)=(fV d).1.gen+1:=by rw[aj,bY (by omega) (by omega)]
 rw[YJ h hb,ak,acv,eg,fB,iO,iO,fB,iO]
 by_cases h1:(fV d).2=1
 ·rw[if_pos h1,ak,aB (by rw[h1];rfl),ah,if_pos (.inr h1)]
 rw[if_neg h1,ak,gq]
 by_cases hp:Eu s
 case neg=>
  rw[decide_eq_false hp]
  refine⟨fun _=>(ah _).2 (by rw[if_pos (.inl hp)]),fun hc=> ?_⟩
  simp only[bZ,aU]at hc
  exact absurd hc.2 (by simp)
 rw[decide_eq_true hp]
 refine⟨fun hc=> ?_,fun _=> ?_⟩
 ·simp only[bM,aZ,aT]at hc
  rcases hc with c | c
  ·exact absurd c h1
  ·cases c
 have hneg:¬(¬Eu s\/(fV d).2=1):=fun g=>g.elim (fun g=>g hp) h1
 rw[if_neg hneg]
 by_cases h9:(fV d).2=9
 ·rw[if_pos h9,ah,if_pos h9]
 rw[if_neg h9,if_neg h9]
 obtain⟨hd,hw⟩:=XT h1 h9
 by_cases he:s.gen=(fV d).1.gen+1
 case neg=>rw[if_neg (fun g=>he g.symm),ah,if_pos he]
 have hn:=aie s.gen
 have hbl:=ah0 s
 rw[if_pos he.symm,if_neg (fun g=>g he),ad7 (by have:=hp.1;omega),ak]
 simp only[ahe hp,ak]
 unfold aqj
 refine(X4 hd.asc (by have:=hd.fl;omega)).bind ?_
 rintro k (⟨rfl,hgn⟩ | ⟨i,hi,rfl,hgs⟩)
 ·have:PV d (nmS s.gen)=(d,0):=by unfold PV;rw[if_pos hgn]
  rw[dH (ahJ (by omega)),this,show(yu (d,(0:Int)) fun d=>iW d (nmS s.gen) (GU s))=iW d (nmS s.gen) (GU s)from then_ok rfl]
  exact am3 h hn (by omega)
 ·have:PV d (nmS s.gen)=S9 d (nmS s.gen) 0:=by unfold PV;rw[if_neg (by rw[hgs];intro e;cases e)]
  rw[aB (jd (by omega)),this,avq h hn.len,ak,fB,iO]
  by_cases h0:(S9 d (nmS s.gen) 0).2=0
  ·rw[if_pos h0,show(yu (S9 d (nmS s.gen) 0) fun d=>iW d (nmS s.gen) (GU s))=iW (S9 d (nmS s.gen) 0).1 (nmS s.gen) (GU s)from then_ok h0]
   exact am3 (am4 h) hn (by omega)
  ·rw[if_neg h0,ah,show(yu (S9 d (nmS s.gen) 0) fun d=>iW d (nmS s.gen) (GU s))=S9 d (nmS s.gen) 0 from ig h0,ig h0]
def uV:Nm:=[115,110,97,112,46]
def qE (g:Int):Nm:=Nb uV g
def ahC (v:Nat):Nm:=List.replicate (10 - (Td 20 v).length) 48++Td 20 v
def C9 (g:Int):Prop:=1<=g/\g<=1000000000
theorem afe {v:Nat} (h:v<=1000000000):(ahC v).length=10:=by
 have:=YC 20 v 10 (by omega) (by decide)
 unfold ahC;rw[List.length_append,List.length_replicate];omega
theorem afw (v:Nat):∀c∈ahC v,Xq c:=by
 intro c hc
 rcases List.mem_append.1 hc with h | h
 ·rw[List.mem_replicate]at h;rw[h.2,wU];decide
 ·exact abX _ _ c h
theorem ae7 {v:Nat} (h:v<=1000000000):xQ (ahC v)=v:=by
 unfold ahC;rw[aaO,afI 20 v (by omega)]
theorem UM {g:Int} (h:C9 g):qE g=uV++ahC g.toNat:=by
 unfold qE Nb ahC
 have:fmt10 g=Td 20 g.toNat:=by unfold fmt10;rw[if_neg (by have:=h.1;omega)]
 rw[if_neg (by unfold C9 at h;omega),this,List.append_assoc]
theorem aiP {g:Int} (h:¬C9 g):qE g=[]:=by
 unfold qE Nb;rw[if_pos (by unfold C9 at h;omega)]
theorem aiG {g:Int} (h:C9 g):(qE g).length=15:=by
 rw[UM h,List.length_append,afe (by unfold C9 at h;omega)];rfl
theorem ao4 {g:Int} (h:C9 g):Hl uV (qE g)=g:=by
 have hv:g.toNat<=1000000000:=by unfold C9 at h;omega
 have e1:(qE g).take uV.length=uV:=by rw[UM h,List.take_left]
 have e2:(qE g).drop uV.length=ahC g.toNat:=by rw[UM h,List.drop_left]
 unfold Hl
 rw[e1,e2,if_pos ⟨rfl,afe hv,afw _,by rw[ae7 hv];exact hv⟩,ae7 hv]
 unfold C9 at h;omega
theorem apD {s:Nm} (h:Hl uV s≠0):C9 (Hl uV s)/\s=qE (Hl uV s):=by
 have hc:s.take uV.length=uV/\(s.drop uV.length).length=10/\(∀c∈s.drop uV.length,48<=c/\c<=57)/\xQ (s.drop uV.length)<=1000000000:=by
  apply Classical.byContradiction
  intro g;exact h (if_neg g)
 have e:Hl uV s=((xQ (s.drop uV.length):Nat):Int):=if_pos hc
 obtain⟨h1,h2,h3,h4⟩:=hc
 have hg:C9 (Hl uV s):=by rw[e]at h ⊢; unfold C9;omega
 refine⟨hg,?_⟩
 rw[UM hg,e,Int.toNat_natCast]
 have:=aqp h2 h3 (abP 10 _ h2 h3)
 unfold ahC
 rw[this]
 conv=>lhs;rw[<-List.take_append_drop uV.length s,h1]
theorem arN {c:UInt8} (h:Xq c):UO c:=by rw[wU]at h;exact .inr (.inl h)
theorem YW {g:Int} (h:C9 g):nJ (qE g):=by
 refine⟨?_,by rw[aiG h];decide,by rw[aiG h];decide⟩
 rw[UM h]
 intro c hc
 rcases List.mem_append.1 hc with k | k
 ·have:∀c∈uV,UO c:=by decide
  exact this c k
 ·exact arN (afw _ c k)
theorem atg {g:Int} (h:C9 g):(fmt10 g).length<=10:=by
 have:fmt10 g=Td 20 g.toNat:=by unfold fmt10;rw[if_neg (by have:=h.1;omega)]
 rw[this];exact YC 20 _ 10 (by unfold C9 at h;omega) (by decide)
theorem Jt (g:Int):dV g=some (qE g):=by
 refine Wq.eq ?_
 unfold dV
 rw[gq]
 refine⟨fun h=> ?_,fun h=> ?_⟩
 ·simp only[aQ,bg,bM,bZ,aT,aU,bV,cu,bJ,dh,aZ,bC,cZ,dm]at h
  rw[ah,aiP (by unfold C9;omega)]
 ·simp only[aQ,bg,bM,bZ,aT,aU,bV,cu,bJ,dh,aZ,bC,cZ,dm]at h
  have hg:C9 g:=⟨by omega,by omega⟩
  have hl:=atg hg
  have ef:uw g 10=some (fmt10 g):=by
   unfold uw aoz
   rw[aB (by rw[aQ,aZ,aQ,bJ,bJ];unfold C9 at hg;exact⟨rfl,by omega,by omega⟩)]
  have ew:wr .i64 (aI 10 (len (fmt10 g)))=((10 - (fmt10 g).length:Nat):Int):=by
   rw[aI,bY (by simp only[len];omega) (by simp only[len];omega)];simp only[len];omega
  have er:zi [(UInt8.ofNat 48)] ((10 - (fmt10 g).length:Nat):Int)=some (List.replicate (10 - (fmt10 g).length) 48):=by
   unfold zi ao9
   have e1:len [(UInt8.ofNat 48)]=1:=rfl
   rw[e1,aB (by simp only[aQ,bJ,dY,Int.one_mul];exact⟨by omega,by omega,by omega⟩),qh,agV];rfl
  rw[ef,ak,ew,er,ak,aB (jd (by simp only[len,aj,List.length_replicate];omega)),aB (jd (by simp only[len,aj,dB,List.length_append,List.length_replicate,List.length_cons,List.length_nil];omega)),ah]
  unfold qE Nb
  rw[if_neg (by unfold C9 at hg;omega)];rfl
theorem aaL:∀(l:List UInt8) (a:Nat),l.foldl (fun n c=>n*10+(c.toNat - 48)) a=a*10^l.length+xQ l
 |[],a=>by simp [xQ]
 |x::l,a=>by
  have h1:=aaL l (a*10+(x.toNat - 48))
  have h2:=aaL l (0*10+(x.toNat - 48))
  have e:xQ (x::l)=l.foldl (fun n c=>n*10+(c.toNat - 48)) (0*10+(x.toNat - 48)):=rfl
  rw[List.foldl_cons,h1,e,h2,List.length_cons,Nat.pow_succ,Nat.add_mul,Nat.add_mul,Nat.mul_assoc,Nat.mul_comm 10 (10^l.length)];omega
theorem aoJ (c:UInt8) (l:List UInt8):xQ (c::l)=(c.toNat - 48)*10^l.length+xQ l:=by
 have h2:=aaL l (0*10+(c.toNat - 48))
 have e:xQ (c::l)=l.foldl (fun n c=>n*10+(c.toNat - 48)) (0*10+(c.toNat - 48)):=rfl
 rw[e,h2,Nat.zero_mul,Nat.zero_add]
theorem ara (g:Int) (h:0<=g):u2s [wr .u8 (aj 48 (wr .u8 (vI g 10)))]=[UInt8.ofNat (48+(g%10).toNat)]:=by
 unfold u2s vI
 rw[Int.tmod_eq_emod_of_nonneg h,Ul,Ul,aj]
 simp only[List.map_cons,List.map_nil]
 congr 2
 omega
theorem VQ {g:Int} (h:C9 g):je g=some (qE g):=by
 refine Wq.eq ?_
 unfold je
 refine Wq.bind (gX (n:=10) (step:=fun v:Int×List UInt8×Int=>mP v.fst v.snd.fst v.snd.snd) (by decide)
  (fun i x=>x.1.length=i/\(∀c∈x.1,Xq c)/\x.2=((g.toNat / 10^i:Nat):Int)/\xQ x.1=g.toNat%10^i) (fun w=>w.length=10/\(∀c∈w,Xq c)/\xQ w=g.toNat%10^10) ?_ ?_ _ 0 (by decide) ⟨rfl,by simp,?_,by simp [xQ,Nat.mod_one]⟩) ?_
 ·rintro i ⟨out,n⟩ hi ⟨h1,h2,h3,h4⟩
  simp only at h1 h2 h3 h4
  simp only[mP]
  have hn:0<=n:=by rw[h3];exact Int.natCast_nonneg _
  have hm:=Nat.mod_lt (g.toNat / 10^i) (show 10>0 by decide)
  have em:(n%10).toNat=g.toNat / 10^i%10:=by rw[h3];omega
  have hle:g.toNat / 10^i<=1000000000:=Nat.le_trans (Nat.div_le_self _ _) (by unfold C9 at h;omega)
  rw[aB (nD (by omega)),ara n hn,em,aB (jd (by simp only[aj,len,List.length_singleton];omega)),ah]
  refine⟨bG (by omega),?_,?_,?_,?_⟩
  ·simp [dB,h1]
  ·intro c hc
   simp only[dB,List.singleton_append,List.mem_cons]at hc
   rcases hc with rfl | hc
   ·rw[wU,Py hm];omega
   ·exact h2 c hc
  ·simp only
   unfold JA
   rw[Int.tdiv_eq_ediv_of_nonneg hn,h3,bY (by omega) (by omega),Nat.pow_succ,<-Nat.div_div_eq_div_mul];rfl
  ·simp only[dB,List.singleton_append]
   rw[aoJ,Py hm,h4,h1,Nat.pow_succ,Nat.mod_mul]
   rw[show 48+g.toNat / 10^i%10 - 48=g.toNat / 10^i%10 by omega,Nat.mul_comm]
   omega
 ·rintro⟨out,n⟩ ⟨h1,h2,h3,h4⟩
  simp only[mP]
  rw[dH (qm (by omega)),ah]
  exact⟨h1,h2,h4⟩
 ·simp only[Nat.pow_zero,Nat.div_one];unfold C9 at h;omega
 ·rintro w ⟨h1,h2,h3⟩
  rw[aB (jd (by simp only[aj,len];omega)),ah]
  have hv:g.toNat<=1000000000:=by unfold C9 at h;omega
  rw[Nat.mod_eq_of_lt (by omega)]at h3
  have:w=ahC g.toNat:=afD 10 _ _ h1 (afe hv) h2 (afw _) (by rw[h3,ae7 hv])
  rw[this,UM h];rfl
theorem amK (s:Nm):zf s=some (decide (Hl uV s≠0)):=by
 unfold zf
 congr 1
 rw[Bool.eq_iff_iff,aT,bC,decide_eq_true_iff];exact Iff.rfl
theorem akK {s:Nm} (hs:s.length<999999):vT s=some (Hl uV s):=by
 refine Wq.eq ?_
 unfold vT
 have hg:bor (ile 5 (len s)) (ay (ay (ay (ieq (len s) 15))))=true:=by
  simp only[aQ,bg,bM,bZ,aT,aU,bV,cu,bJ,dh,aZ,bC,cZ,dm,len];omega
 rw[aB hg,gq]
 have ht:aA s 5=s.take uV.length:=rfl
 have hp:[(UInt8.ofNat 115),(UInt8.ofNat 110),(UInt8.ofNat 97),(UInt8.ofNat 112),(UInt8.ofNat 46)]=uV:=rfl
 refine⟨fun hc=>(ah _).2 ?_,fun hc=> ?_⟩
 ·rw[ht,hp]at hc
  simp only[bM,aT,bC,afK,len]at hc
  unfold Hl
  rw[if_neg]
  rintro⟨g1,g2, -⟩
  rcases hc with c | c
  ·rw[List.length_drop]at g2
   have:uV.length=5:=rfl
   omega
  ·exact c g1
 ·rw[ht,hp]at hc
  simp only[bZ,aU,aZ,ZP,len]at hc
  obtain⟨h15,h5⟩:=hc
  have h15':s.length=15:=by omega
  have hdl:(s.drop 5).length=10:=by rw[List.length_drop];omega
  refine Wq.bind (Q:=fun w=>match w with
   |.inl k=>k=0/\¬∀c∈s.drop 5,Xq c
   |.inr x=>(∀c∈s.drop 5,Xq c)/\x.1=(xQ (s.drop 5):Int))
   (gX (n:=15) (step:=fun v:Int×Int×Int=>mW s v.fst v.snd.fst v.snd.snd) (by decide)
     (fun i x=>5<=i/\(∀c∈(s.drop 5).take (i - 5),Xq c)/\x.1=(xQ ((s.drop 5).take (i - 5)):Int)) _ ?_ ?_ _ 5 (by decide) ⟨Nat.le_refl _,by simp,by simp [xQ]⟩) ?_
  ·rintro i ⟨n,q⟩ hi ⟨h1,h2,h3⟩
   simp only at h3
   simp only[mW]
   have his:i<s.length:=by omega
   have hd:i - 5<(s.drop 5).length:=by omega
   have hel:(s.drop 5)[i - 5]=s[i]:=by rw[List.getElem_drop];congr 1;omega
   have hvl:=abP (i - 5) ((s.drop 5).take (i - 5)) (by rw[List.length_take];omega) h2
   have hpw:10^(i - 5)<=10^10:=Nat.pow_le_pow_right (by decide) (by omega)
   have h255:=s[i].toNat_lt
   rw[aB (nD (by omega)),aB (inb _ _ his),aB (by rw[bM];exact .inl (inb _ _ his)),agF _ _ his,gq]
   refine⟨fun hb=>(ah _).2 ⟨rfl,fun g=> ?_⟩,fun hb=> ?_⟩
   ·have:=wU.1 (g s[i] (by rw[<-hel];exact List.getElem_mem hd))
    simp only[aQ,bg,bM,bZ,aT,aU,bV,cu,bJ,dh,aZ,bC,cZ,dm]at hb
    omega
   ·simp only[aQ,bg,bM,bZ,aT,aU,bV,cu,bJ,dh,aZ,bC,cZ,dm]at hb
    rw[aB (inb _ _ his),ah]
    have e1:wr .i64 (dY n 10)=n*10:=by rw[dY,bY (by omega) (by omega)]
    have e2:wr .i64 (wr .u8 (aI (s[i].toNat:Int) 48))=(s[i].toNat:Int) - 48:=by
     rw[aI,Ul,bY (by omega) (by omega)];omega
    have e3:i+1 - 5=(i - 5)+1:=by omega
    rw[e1,e2]
    refine⟨bG (by omega),by omega,?_,?_⟩
    ·rw[e3,qw hd,hel]
     intro c hc
     rcases List.mem_append.1 hc with k | k
     ·exact h2 c k
     ·rw[List.mem_singleton.1 k,wU];omega
    ·simp only
     rw[e3,qw hd,hel,YS,aj,bY (by omega) (by omega),h3];omega
  ·rintro⟨n,q⟩ ⟨h1,h2,h3⟩
   simp only[mW]
   rw[dH (qm (by omega)),ah]
   rw[show(15 - 5:Nat)=(s.drop 5).length by omega,List.take_length]at h2 h3
   exact⟨h2,h3⟩
  ·have hsn:uV.length=5:=rfl
   rintro(k | ⟨n,q⟩) hw
   ·simp only[gY,ah]
    unfold Hl
    rw[hw.1,if_neg (fun g=>hw.2 g.2.2.1)]
   ·simp only at hw
    simp only[gY]
    rw[Xb,hw.2]
    unfold Hl
    rw[hsn]
    split
    ·rename_i hgt
     rw[ah,if_neg (fun g=>by have:=g.2.2.2;omega)]
    ·rename_i hgt
     rw[ah,if_pos ⟨h5,hdl,hw.1,by omega⟩]
open Classical in
noncomputable def ahp (b:List Int):ax×Int:=if xR b then if sumP b then if ZW b then (Q5 (pZ b),0)else (zS,2)else (zS,10)else (zS,2)
theorem aaN (b:List Int):aeI b (ahp b):=by
 unfold ahp
 refine⟨fun h=> ?_,fun h1 h2=> ?_,fun h1 h2 h3=> ?_,fun h1 h2 h3=> ?_⟩
 ·rw[if_neg h]
 ·rw[if_pos h1,if_neg h2]
 ·rw[if_pos h1,if_pos h2,if_neg h3]
 ·rw[if_pos h1,if_pos h2,if_pos h3]
theorem aqe {b:List Int} (hb:gm b) (hl:b.length<99999):zI b=some (ahp b):=by
 obtain⟨r,e,h⟩:=ai2 hb hl
 rw[e,h.uniq (aaN b)]
theorem apq {b:List Int} (hb:gm b) (hl:b.length<99999):og b=some (ahp b):=by
 obtain⟨r,e,h⟩:=aq3 hb hl
 rw[e,h.uniq (aaN b)]
theorem akB:ahp []=(zS,2):=(aaN []).form fun h=>absurd h.many (by simp)
theorem asM {b:List Int} (h:(ahp b).2=0):xR b/\sumP b/\ZW b/\(ahp b).1=Q5 (pZ b):=by
 by_cases h1:xR b
 ·by_cases h2:sumP b
  ·by_cases h3:ZW b
   ·exact⟨h1,h2,h3,by rw[(aaN b).good h1 h2 h3]⟩
   ·rw[(aaN b).bad h1 h2 h3]at h;exact absurd h (by decide)
  ·rw[(aaN b).sum h1 h2]at h;exact absurd h (by decide)
 ·rw[(aaN b).form h1]at h;exact absurd h (by decide)
noncomputable def aik (b:List Int) (s:dw):ax×Int×Int:=if (ahp b).2=0/\(ahp b).1.lsn=s.lsn then ((ahp b).1,s.gen,0)else (zS,0,2)
noncomputable def ah4 (d:au):ax×Int×Int:=if (fV d).2≠0 then (zS,0,(fV d).2)else aik (ctF d.files (qE (fV d).1.gen)) (fV d).1
theorem ag7 {d:au} (h:(fV d).2=0):jh d/\d.down=false/\Eu (fV d).1:=by
 obtain⟨hd,hw⟩:=XT (by rw[h];decide) (by rw[h];decide)
 obtain⟨h1,h2⟩:=adM hd hw
 refine⟨hd,hw,?_⟩
 rcases h2 with ⟨g, -⟩ | ⟨-, g⟩
 ·rw[h]at g;exact absurd g (by decide)
 ·rw[h1]
  rcases afN (ctF d.files n0) (ctF d.files n1)with k | k
  ·unfold FZ at g;rw[k]at g;exact absurd g (by decide)
  ·exact k
theorem Eu.gen {s:dw} (h:Eu s):C9 s.gen:=⟨h.1,h.2.1⟩
theorem arO {d:au} (h:jh d) (n:Nm):(ctF d.files n).length<=65536:=by
 unfold ctF
 cases hg:ql d.files n with
 |none=>simp
 |some f=>
  obtain⟨i,o,hs⟩:=xq h.asc (by have:=h.fl;omega) n
  have hi:=hs.get
  rw[hg]at hi
  subst hi
  have:=hs.usedD
  have:=h.us
  simp only[aey]at*
  omega
theorem atr:ax.mk 0 0 [] [] [] [] false 0 0 0=zS:=rfl
theorem ai9 {d:au} (h:KR d) (hb:wR d):uN d=some (ah4 d):=by
 refine Wq.eq ?_
 unfold uN ah4
 rw[Yj h hb,ak,fB,iO,atr]
 by_cases h0:(fV d).2=0
 case neg=>rw[if_neg h0,ah,if_pos h0]
 obtain⟨hd,hw,hp⟩:=ag7 h0
 have hn:=YW hp.gen
 rw[if_pos h0,if_neg (fun g=>g h0),Jt,ak,agH h hn.len,ak,ajv hd hw hn,iO]
 have hrz:(YR d (qE (fV d).1.gen)).2=if ql d.files (qE (fV d).1.gen)=none then 7 else 0:=by
  unfold YR
  rw[if_neg (fun g=>g (jS.2 ⟨hd,hw,WJ hn⟩))]
  cases ql d.files (qE (fV d).1.gen)<;>simp
 rw[hrz]
 by_cases hg:ql d.files (qE (fV d).1.gen)=none
 ·rw[if_pos hg,if_neg (by decide),ah]
  unfold aik ctF
  rw[hg,akB,if_neg (fun g=>absurd g.1 (by decide))]
 ·rw[if_neg hg,if_pos rfl,aqe (abt hb _) (by have:=arO hd (qE (fV d).1.gen);omega),ak,gq]
  unfold aik
  refine⟨fun hc=> ?_,fun hc=> ?_⟩
  ·simp only[aQ,bg,bM,bZ,aT,aU,bV,cu,bJ,dh,aZ,bC,cZ,dm]at hc
   rw[ah,if_pos hc]
  ·simp only[aQ,bg,bM,bZ,aT,aU,bV,cu,bJ,dh,aZ,bC,cZ,dm]at hc
   rw[ah,if_neg]
   rintro⟨g1,g2⟩
   rcases hc with c | c
   ·exact c g1
   ·exact c g2
theorem aja {d:au} (h:KR d) (hb:wR d):uo d=some (ah4 d):=by
 refine Wq.eq ?_
 unfold uo ah4
 rw[YJ h hb,ak,fB,iO,atr]
 by_cases h0:(fV d).2=0
 case neg=>rw[if_neg h0,ah,if_pos h0]
 obtain⟨hd,hw,hp⟩:=ag7 h0
 rw[if_pos h0,if_neg (fun g=>g h0),VQ hp.gen,ak]
 refine(X4 hd.asc (by have:=hd.fl;omega)).bind ?_
 rintro k (⟨rfl,hg⟩ | ⟨i,hi,rfl,hg⟩)
 ·rw[aB (nD (by omega)),ah]
  unfold aik ctF
  rw[hg,akB,if_neg (fun g=>absurd g.1 (by decide))]
 ·have hc:ctF d.files (qE (fV d).1.gen)=d.files[i].data:=by unfold ctF;rw[hg]
  have hbb:=hb _ (List.getElem_mem hi)
  have hl:=arO hd (qE (fV d).1.gen)
  rw[hc]at hl
  rw[dH (qm (by omega)),aB (inb _ _ hi),bI _ _ hi,apq hbb (by omega),ak,gq,hc]
  unfold aik
  refine⟨fun hc=> ?_,fun hc=> ?_⟩
  ·simp only[aQ,bg,bM,bZ,aT,aU,bV,cu,bJ,dh,aZ,bC,cZ,dm]at hc
   rw[ah,if_neg]
   rintro⟨g1,g2⟩
   rcases hc with c | c
   ·exact c g1
   ·exact c g2
  ·simp only[aQ,bg,bM,bZ,aT,aU,bV,cu,bJ,dh,aZ,bC,cZ,dm]at hc
   rw[ah,if_pos hc]
def qC:Nm:=[116,109,112]
theorem vg:nJ qC:=by decide
def QW (gen:Int) (p:au×Int) (f:aF):au×Int:=if Hl uV f.name≠0/\f.name≠qE gen then yu p fun d=>tK d f.name else p
def uf (gen:Int) (p:au×Int) (l:List aF):au×Int:=l.foldl (QW gen) p
def aa7 (gen:Int) (p:au×Int):au×Int×Int:=if p.2≠0 then (p.1,0,p.2)else (p.1,gen,0)
def LV (d:au):au×Int:=if ql d.files qC=none then (d,0)else tK d qC
def ads (d:au) (gen lsn:Int) (b:List Int):au×Int:=
 yu (yu (yu (yu (LV d) fun d=>iW d qC b) fun d=>Me d qC) fun d=>CB d qC (qE gen)) fun d=>VJ d ⟨gen,lsn⟩
open Classical in
noncomputable def aiI (d:au) (s:ax):au×Int×Int:=
 if ¬zY s\/(fV d).2=1 then (d,0,1)else if (fV d).2=9 then (d,0,9)else if 1000000000<=(fV d).1.gen then (d,0,3)else
 aa7 ((fV d).1.gen+1) (uf ((fV d).1.gen+1) (ads d ((fV d).1.gen+1) s.lsn (encZ s)) (ads d ((fV d).1.gen+1) s.lsn (encZ s)).1.files)
theorem Zk {gen:Int} {p:au×Int} (h:p.2≠0):∀l,uf gen p l=p
 |[]=>rfl
 |f::l=>by
  unfold uf
  rw[List.foldl_cons]
  have:QW gen p f=p:=by unfold QW;split;exact ig h;rfl
  rw[this];exact Zk h l
theorem ao3 (gen:Int) (p:au×Int) (a b:List aF):uf gen p (a++b)=uf gen (uf gen p a) b:=by unfold uf;rw[List.foldl_append]
theorem aoL (gen:Int) (p:au×Int) (f:aF):uf gen p [f]=QW gen p f:=rfl
theorem alJ {gen:Int} {d:au} {p:au×Int} {f:aF} (h:Keep d p.1):Keep d (QW gen p f).1:=by
 unfold QW;split
 ·exact KY h fun e he=>Iw he
 ·exact h
theorem agN {gen:Int} {d:au}:∀(l:List aF) {p:au×Int},Keep d p.1->Keep d (uf gen p l).1
 |[],_,h=>h
 |f::l,p,h=>by unfold uf;rw[List.foldl_cons];exact agN l (alJ h)
theorem aed {d:au} (h:jh d):Keep d (LV d).1:=by
 unfold LV;split
 ·exact Keep.refl h
 ·exact Iw h
theorem alF {d:au} (h:wR d):wR (LV d).1:=by
 unfold LV;split
 ·exact h
 ·exact XW h
theorem ame {d:au} {gen lsn:Int} {b:List Int} (h:jh d):Keep d (ads d gen lsn b).1:=
 KY (KY (KY (KY (aed h) fun e he=>Em he) fun e he=>TV he) fun e he=>Sl he) fun e he=>Vt he
theorem atf {d0 d:au} {e:Int} {gen:Int} (hg:C9 gen) (hd0:jh d0) (hf:inI d0.fuse) (hk:Keep d0 d):
 Wq (af (bD (fun v:Int×dJ => aX (len d.files) d.files gen v.fst v.snd) LF (0,dJ.mk d e)) fun y9 => cnd (ay (ieq y9.e 0)) (some (y9.d,(0:Int),y9.e)) (some (y9.d,gen,0))) fun x=>x=aa7 gen (uf gen (d,e) d.files):=by
 have hl:=hk.right.fl
 refine Wq.bind (gX (n:=d.files.length) (step:=fun v:Int×dJ=>aX (len d.files) d.files gen v.fst v.snd) (by omega)
  (fun i x=>(x.d,x.e)=uf gen (d,e) (d.files.take i)/\Keep d0 x.d) (fun w=>(w.d,w.e)=uf gen (d,e) d.files) ?_ ?_ _ 0 (Nat.zero_le _) ⟨rfl,hk⟩) ?_
 ·rintro i ⟨x,n⟩ hi ⟨h1,h2⟩
  simp only at h1 h2
  simp only[aX]
  have hnm:=(hk.right.2.1.1 _ (List.getElem_mem hi)).1
  have hnx:qw hi=qw hi:=rfl
  rw[aB (by rw[eU];simpa using hi),aB (inb _ i hi),bI _ i hi,amK,ak,qw hi,ao3,<-h1,aoL,JW]
  have hx:KR x:=h2.bnd hf
  by_cases hs:Hl uV d.files[i].name≠0
  ·rw[if_pos hs,Jt,ak,decide_eq_true hs,Bz,fB,ajN]
   unfold QW
   by_cases hq:d.files[i].name=qE gen
   ·rw[if_pos hq,ah,if_neg (fun g=>g.2 hq)]
    exact⟨bG (by omega),rfl,h2⟩
   ·rw[if_neg hq,if_pos ⟨hs,hq⟩,iO]
    by_cases h0:n=0
    ·rw[if_pos h0,alp hx hnm.len,ak,ah,then_ok (by exact h0)]
     exact⟨bG (by omega),rfl,h2.trans (Iw h2.right)⟩
    ·rw[if_neg h0,ah,ig (by exact h0)]
     exact⟨bG (by omega),rfl,h2⟩
  ·rw[if_neg hs,ak,decide_eq_false hs,LK,bW,ah]
   unfold QW
   rw[if_neg (fun g=>hs g.1)]
   exact⟨bG (by omega),rfl,h2⟩
 ·rintro⟨x,n⟩ ⟨h1,h2⟩
  simp only[aX]
  rw[dH (ZJ _),ah]
  rw[List.take_length]at h1
  exact h1
 ·rintro⟨x,n⟩ hw
  rw[<-hw,fB,iO]
  unfold aa7
  simp only
  by_cases h0:n=0
  ·rw[if_pos h0,ah,if_neg (fun g=>g h0)]
  ·rw[if_neg h0,ah,if_pos h0]
theorem avb {d0:au} {p:au×Int} {gen:Int} (hg:C9 gen) (hd0:jh d0) (hf:inI d0.fuse) (hk:Keep d0 p.1) (l:List aF) (hl:l=p.1.files):
 Wq (af (bD (fun v:Int×dJ => aX (len p.1.files) p.1.files gen v.fst v.snd) LF (0,dJ.mk p.1 p.2)) fun y9 => cnd (ay (ieq y9.e 0)) (some (y9.d,(0:Int),y9.e)) (some (y9.d,gen,0))) fun x=>x=aa7 gen (uf gen p l):=by
 rw[hl];exact atf (d:=p.1) (e:=p.2) hg hd0 hf hk
theorem JI {d0:au} {p q:au×Int} {gen:Int} (hg:C9 gen) (hd0:jh d0) (hf:inI d0.fuse) (hk:Keep d0 p.1) (hq:q=p):
 Wq (af (bD (fun v:Int×dJ => aX (len p.1.files) p.1.files gen v.fst v.snd) LF (0,dJ.mk p.1 p.2)) fun y9 => cnd (ay (ieq y9.e 0)) (some (y9.d,(0:Int),y9.e)) (some (y9.d,gen,0))) fun x=>x=aa7 gen (uf gen q q.1.files):=by
 rw[hq];exact avb hg hd0 hf hk _ rfl
theorem aiY {d:au} {s:ax} (h:KR d) (hb:wR d) (hr:yK s) (hsh:BU s):uF d s=some (aiI d s):=by
 refine Wq.eq ?_
 unfold uF aiI
 by_cases hR:zY s
 case neg=>
  rw[acE hr hsh hR,ak,aB (by rfl),ah,if_pos (.inl hR)]
 have henc:(encZ s).length<900000:=by
  have h1:=abV s
  have h2:=hR.few
  omega
 rw[ajC hr hsh hR,ak,dH (by rfl),Yj h hb,ak,iO,iO]
 by_cases h1:(fV d).2=1
 ·rw[if_pos h1,ah,if_pos (.inr h1),h1]
 have hneg:¬(¬zY s\/(fV d).2=1):=fun g=>g.elim (fun g=>g hR) h1
 rw[if_neg h1,if_neg hneg]
 by_cases h9:(fV d).2=9
 ·rw[if_pos h9,ah,if_pos h9,h9]
 rw[if_neg h9,if_neg h9,aqJ]
 by_cases hov:1000000000<=(fV d).1.gen
 ·rw[if_pos hov,ah,if_pos hov]
 rw[if_neg hov,if_neg hov]
 obtain⟨hd,hw⟩:=XT h1 h9
 have hgn:=Y4 d
 have eg:wr .i64 (aj (fV d).1.gen 1)=(fV d).1.gen+1:=by rw[aj,bY (by omega) (by omega)]
 rw[eg]
 have hG:C9 ((fV d).1.gen+1):=⟨by omega,by omega⟩
 generalize (fV d).1.gen+1=gen at hG ⊢
 have et:[(UInt8.ofNat 116),(UInt8.ofNat 109),(UInt8.ofNat 112)]=qC:=rfl
 rw[et]
 have hfu:=h.fu
 have hN:=YW hG
 have k0:=aed hd
 have b0:=alF hb
 rw[agH h vg.len,ak]
 have hrz:(YR d qC).2=if ql d.files qC=none then 7 else 0:=by
  unfold YR
  rw[if_neg (fun g=>g (jS.2 ⟨hd,hw,WJ vg⟩))]
  cases ql d.files qC<;>simp
 rw[hrz,iO]
 unfold ads
 by_cases hg:ql d.files qC=none
 ·have hc:LV d=(d,0):=by unfold LV;rw[if_pos hg]
  rw[if_pos hg,if_neg (by decide),hc,show(yu (d,(0:Int)) fun d=>iW d qC (encZ s))=iW d qC (encZ s)from then_ok rfl,ag8 h vg.len henc,ak]
  have k1:=Em (n:=qC) (b:=encZ s) hd
  have b1:=YK (n:=qC) hb (Y6 s)
  have hcl:∀q:au×Int,ieq q.2 0=true\/ieq q.2 0=false:=fun q=>by cases ieq q.2 0<;>simp
  generalize hp1:iW d qC (encZ s)=p1 at k1 b1 ⊢
  rcases hcl p1 with e1 | e1
  case inr=>
   simp only[dH e1]
   refine JI hG hd hfu k1 ?_
   rw[bC]at e1
   rw[ig e1,ig e1,ig e1]
  rw[aB e1,amg (k1.bnd hfu) vg.len,ak]
  rw[aZ]at e1
  rw[then_ok (p:=p1) e1]
  have k2:=k1.trans (TV (n:=qC) k1.right)
  have b2:=acX (n:=qC) b1
  generalize Me p1.1 qC=p2 at k2 b2 ⊢
  rcases hcl p2 with e2 | e2
  case inr=>
   simp only[dH e2]
   refine JI hG hd hfu k2 ?_
   rw[bC]at e2
   rw[ig e2,ig e2]
  rw[aB e2,Jt,ak,alr (k2.bnd hfu) vg.len hN.len,ak]
  rw[aZ]at e2
  rw[then_ok (p:=p2) e2]
  have k3:=k2.trans (Sl (a:=qC) (b:=qE gen) k2.right)
  have b3:=Yv (a:=qC) (b:=qE gen) b2
  generalize CB p2.1 qC (qE gen)=p3 at k3 b3 ⊢
  rcases hcl p3 with e3 | e3
  case inr=>
   simp only[dH e3]
   refine JI hG hd hfu k3 ?_
   rw[bC]at e3
   rw[ig e3]
  rw[aB e3,abQ (k3.bnd hfu) b3 (by unfold C9 at hG;unfold inI;simp only;omega),ak]
  rw[aZ]at e3
  rw[then_ok (p:=p3) e3]
  exact JI hG hd hfu (k3.trans (Vt k3.right)) rfl
 ·have hc:LV d=tK d qC:=by unfold LV;rw[if_neg hg]
  rw[if_neg hg,if_pos rfl,hc,alp h vg.len,ak]
  have k0:=Iw (n:=qC) hd
  have b0:=XW (n:=qC) hb
  generalize tK d qC=p at k0 b0 ⊢
  have hcl0:ieq p.2 0=true\/ieq p.2 0=false:=by cases ieq p.2 0<;>simp
  rcases hcl0 with e0 | e0
  case inr=>
   simp only[dH e0]
   refine JI hG hd hfu k0 ?_
   rw[bC]at e0
   rw[ig (p:=p) e0,ig e0,ig e0,ig e0]
  rw[aB e0,ag8 (k0.bnd hfu) vg.len henc,ak]
  rw[aZ]at e0
  rw[then_ok (p:=p) e0]
  have k1:=k0.trans (Em (n:=qC) (b:=encZ s) k0.right)
  have b1:=YK (n:=qC) b0 (Y6 s)
  have hcl:∀q:au×Int,ieq q.2 0=true\/ieq q.2 0=false:=fun q=>by cases ieq q.2 0<;>simp
  generalize hp1:iW p.1 qC (encZ s)=p1 at k1 b1 ⊢
  rcases hcl p1 with e1 | e1
  case inr=>
   simp only[dH e1]
   refine JI hG hd hfu k1 ?_
   rw[bC]at e1
   rw[ig e1,ig e1,ig e1]
  rw[aB e1,amg (k1.bnd hfu) vg.len,ak]
  rw[aZ]at e1
  rw[then_ok (p:=p1) e1]
  have k2:=k1.trans (TV (n:=qC) k1.right)
  have b2:=acX (n:=qC) b1
  generalize Me p1.1 qC=p2 at k2 b2 ⊢
  rcases hcl p2 with e2 | e2
  case inr=>
   simp only[dH e2]
   refine JI hG hd hfu k2 ?_
   rw[bC]at e2
   rw[ig e2,ig e2]
  rw[aB e2,Jt,ak,alr (k2.bnd hfu) vg.len hN.len,ak]
  rw[aZ]at e2
  rw[then_ok (p:=p2) e2]
  have k3:=k2.trans (Sl (a:=qC) (b:=qE gen) k2.right)
  have b3:=Yv (a:=qC) (b:=qE gen) b2
  generalize CB p2.1 qC (qE gen)=p3 at k3 b3 ⊢
  rcases hcl p3 with e3 | e3
  case inr=>
   simp only[dH e3]
   refine JI hG hd hfu k3 ?_
   rw[bC]at e3
   rw[ig e3]
  rw[aB e3,abQ (k3.bnd hfu) b3 (by unfold C9 at hG;unfold inI;simp only;omega),ak]
  rw[aZ]at e3
  rw[then_ok (p:=p3) e3]
  exact JI hG hd hfu (k3.trans (Vt k3.right)) rfl
theorem amA {l:List aF} (h:Ru l) (hl:l.length<=100000) {i:Nat} (hi:i<l.length):F8 l[i].name l=l.eraseIdx i:=by
 obtain⟨j,o,hs⟩:=xq h hl l[i].name
 cases o with
 |none=>
  have:=hs.get
  unfold ql at this
  rw[List.find?_eq_none]at this
  exact absurd (by simp) (this l[i] (List.getElem_mem hi))
 |some f=>
  obtain⟨hj,e1,e2⟩:=hs.lt
  have:j=i:=by
   rcases Nat.lt_trichotomy j i with c | c | c
   ·have:=abe h c hi
    rw[e1,e2]at this;exact absurd this (WE _)
   ·exact c
   ·have:=abe h c hj
    rw[e1,e2]at this;exact absurd this (WE _)
  rw[<-hs.del,this]
theorem apd {d:au} {n:Nm} (h:(tK d n).2=0):(tK d n).1.files=F8 n d.files/\jh d/\d.down=false:=by
 unfold tK at h ⊢
 by_cases h0:iJ d [n]=0
 case neg=>rw[if_pos h0]at h;exact absurd h h0
 obtain⟨hd,hw, -⟩:=jS.1 h0
 rw[if_neg (fun g=>g h0)]at h ⊢
 cases hg:ql d.files n with
 |none=>rw[hg]at h;exact absurd h (show ¬(7:Int)=0 by decide)
 |some f=>
  rw[hg]at h
  simp only at h ⊢
  by_cases hs:(eP d).2=true
  ·rw[if_pos hs];exact⟨by unfold agM;rw[iK],hd,hw⟩
  ·rw[if_neg hs]at h;exact absurd h (show ¬(9:Int)=0 by decide)
theorem amI (gen:Int) (p:au×Int) (f:aF) (l:List aF):uf gen p (f::l)=uf gen (QW gen p f) l:=rfl
theorem aqY {d0:au} {p:au×Int} {gen:Int} (hg:C9 gen) (hf:inI d0.fuse) (hk:Keep d0 p.1) (h0:p.2=0) (a b c:Int) (z:au):
 Wq (af (bD (fun v:Int×Int×Int×Int×au×au => fP gen v.fst v.snd.fst v.snd.snd.fst v.snd.snd.snd.fst v.snd.snd.snd.snd.fst v.snd.snd.snd.snd.snd) LF (0,a,b,c,z,p.1)) fun y11 => gY y11 (fun y12 => some (y12.snd.snd.fst,y12.snd.fst,y12.fst)) fun y12 => some (y12.snd.snd.snd.snd,gen,0)) fun x=>x=aa7 gen (uf gen p p.1.files):=by
 refine Wq.bind (Q:=fun w=>match w with
  |.inl w=>w.1≠0/\w.2.1=0/\(w.2.2.1,w.1)=uf gen p p.1.files
  |.inr w=>(w.2.2.2.2,(0:Int))=uf gen p p.1.files)
  (ajT (step:=fun v:Int×Int×Int×Int×au×au=>fP gen v.fst v.snd.fst v.snd.snd.fst v.snd.snd.snd.fst v.snd.snd.snd.snd.fst v.snd.snd.snd.snd.snd)
    (fun v=>v.2.2.2.2.2.files.length - v.1.toNat)
    (fun v=>∃i:Nat,v.1=(i:Int)/\i<=v.2.2.2.2.2.files.length/\Keep d0 v.2.2.2.2.2/\uf gen (v.2.2.2.2.2,0) (v.2.2.2.2.2.files.drop i)=uf gen p p.1.files) _ ?_ LF _ (aoj (by have:=hk.right.fl;simp only;omega)) ⟨0,rfl,Nat.zero_le _,hk,by simp only[List.drop_zero];rw[<-h0]⟩) ?_
 ·rintro⟨k,a,b,c,z,d⟩ ⟨i,rfl,hi,hkd,hsw⟩
  simp only at hi hkd hsw
  have hl:=hkd.right.fl
  simp only[fP]
  rw[gq]
  refine⟨fun hlt=> ?_,fun hge=> ?_⟩
  ·rw[eU,decide_eq_true_iff]at hlt
   have hnm:=(hkd.right.2.1.1 _ (List.getElem_mem hlt)).1
   rw[List.drop_eq_getElem_cons hlt,amI]at hsw
   rw[aB (inb _ _ hlt),bI _ _ hlt,akK hnm.len,ak,gq]
   have hiff:(bor (ieq (Hl uV d.files[i].name) 0) (ieq (Hl uV d.files[i].name) gen)=true)↔¬(Hl uV d.files[i].name≠0/\d.files[i].name≠qE gen):=by
    simp only[bM,aZ]
    constructor
    ·rintro(g | g) ⟨g1,g2⟩
     ·exact g1 g
     ·exact g2 (by rw[<-g];exact(apD g1).2)
    ·intro g
     by_cases e:Hl uV d.files[i].name=0
     ·exact .inl e
     ·right
      by_cases e2:d.files[i].name=qE gen
      ·rw[e2,ao4 hg]
      ·exact absurd ⟨e,e2⟩ g
   refine⟨fun hc=>(ah _).2 ?_,fun hc=> ?_⟩
   ·have hno:=hiff.1 hc
    unfold QW at hsw
    rw[if_neg hno]at hsw
    refine⟨⟨i+1,bG (by omega),hlt,hkd,hsw⟩,?_⟩
    simp only
    rw[bG (by omega)]
    omega
   ·have hyes:Hl uV d.files[i].name≠0/\d.files[i].name≠qE gen:=by
     apply Classical.byContradiction;intro g;rw[hiff.2 g]at hc;cases hc
    unfold QW at hsw
    rw[if_pos hyes,then_ok rfl]at hsw
    rw[aB (inb _ _ hlt),ak0 (hkd.bnd hf) hnm.len,ak,fB,iO]
    simp only at hsw
    by_cases e0:(tK d d.files[i].name).2=0
    ·rw[if_pos e0,ah]
     have hk2:=hkd.trans (Iw (n:=d.files[i].name) hkd.right)
     obtain⟨hfl,-, -⟩:=apd e0
     rw[amA hkd.right.asc (by omega) hlt]at hfl
     have hlen:(tK d d.files[i].name).1.files.length=d.files.length - 1:=by rw[hfl,List.length_eraseIdx_of_lt hlt]
     have hdr:(tK d d.files[i].name).1.files.drop i=d.files.drop (i+1):=by
      rw[hfl,List.eraseIdx_eq_take_drop_succ,List.drop_append_of_le_length (by rw[List.length_take];omega),List.drop_eq_nil_of_le (by rw[List.length_take];omega),List.nil_append]
     refine⟨⟨i,rfl,by simp only;omega,hk2,?_⟩,?_⟩
     ·simp only
      rw[hdr,<-hsw,<-e0]
     ·simp only;omega
    ·rw[if_neg e0,ah]
     refine⟨e0,rfl,?_⟩
     rw[<-hsw,Zk e0]
  ·have:¬i<d.files.length:=by rw[eU,decide_eq_false_iff_not]at hge;exact hge
   rw[ah]
   rw[List.drop_eq_nil_of_le (by omega)]at hsw
   simp only
   rw[<-hsw];rfl
 ·rintro(w | w) hw
  ·simp only[gY,ah]
   obtain⟨g1,g2,g3⟩:=hw
   rw[<-g3]
   unfold aa7
   rw[if_pos g1,g2]
  ·simp only[gY,ah]
   simp only at hw
   rw[<-hw]
   unfold aa7
   rw[if_neg (fun g=>g rfl)]
theorem auA {d0:au} {p q:au×Int} {gen:Int} (hg:C9 gen) (hf:inI d0.fuse) (hk:Keep d0 p.1) (hq:q=p) (a b c:Int) (z:au):
 Wq (cnd (ay (ieq p.snd 0)) (some (p.fst,0,p.snd)) (af (bD (fun v:Int×Int×Int×Int×au×au => fP gen v.fst v.snd.fst v.snd.snd.fst v.snd.snd.snd.fst v.snd.snd.snd.snd.fst v.snd.snd.snd.snd.snd) LF (0,a,b,c,z,p.1)) fun y11 => gY y11 (fun y12 => some (y12.snd.snd.fst,y12.snd.fst,y12.fst)) fun y12 => some (y12.snd.snd.snd.snd,gen,0))) fun x=>x=aa7 gen (uf gen q q.1.files):=by
 subst hq
 rw[fB,iO]
 by_cases e:q.2=0
 ·rw[if_pos e];exact aqY hg hf hk e a b c z
 ·rw[if_neg e,ah,Zk e];unfold aa7;rw[if_pos e]
theorem aeX {gen:Int} {p:au×Int} (h:p.2≠0) (l:List aF):aa7 gen (uf gen p l)=(p.1,0,p.2):=by
 rw[Zk h];unfold aa7;rw[if_pos h]
theorem akM {d0 p:au} {gen lsn:Int} {b:List Int} (hg:C9 gen) (hf:inI d0.fuse) (hk:Keep d0 p) (hby:wR p) (hbb:gm b) (hbl:b.length<900000):
 Wq (af (iE p [(UInt8.ofNat 116),(UInt8.ofNat 109),(UInt8.ofNat 112)] b) fun y14 => cnd (ay (ieq y14.snd 0)) (some (y14.fst,0,y14.snd)) (af (jg y14.fst [(UInt8.ofNat 116),(UInt8.ofNat 109),(UInt8.ofNat 112)]) fun y15 => cnd (ay (ieq y15.snd 0)) (some (y15.fst,0,y15.snd)) (af (je gen) fun y16 => af (kY y15.fst [(UInt8.ofNat 116),(UInt8.ofNat 109),(UInt8.ofNat 112)] y16) fun y17 => cnd (ay (ieq y17.snd 0)) (some (y17.fst,0,y17.snd)) (af (mg y17.fst (dw.mk gen lsn)) fun y18 => cnd (ay (ieq y18.snd 0)) (some (y18.fst,0,y18.snd)) (af (bD (fun v => fP gen v.fst v.snd.fst v.snd.snd.fst v.snd.snd.snd.fst v.snd.snd.snd.snd.fst v.snd.snd.snd.snd.snd) LF (0,y18.snd,0,0,au.mk [] 0 0 false,y18.fst)) fun y19 => gY y19 (fun y20 => some (y20.snd.snd.fst,y20.snd.fst,y20.fst)) fun y20 => some (y20.snd.snd.snd.snd,gen,0)))))) fun x=>x=
  aa7 gen (uf gen (yu (yu (yu (iW p qC b) fun d=>Me d qC) fun d=>CB d qC (qE gen)) fun d=>VJ d ⟨gen,lsn⟩) (yu (yu (yu (iW p qC b) fun d=>Me d qC) fun d=>CB d qC (qE gen)) fun d=>VJ d ⟨gen,lsn⟩).1.files):=by
 have et:[(UInt8.ofNat 116),(UInt8.ofNat 109),(UInt8.ofNat 112)]=qC:=rfl
 have hN:=YW hg
 rw[et,alN (hk.bnd hf) vg.len hbl,ak,fB,iO]
 have k1:=hk.trans (Em (n:=qC) (b:=b) hk.right)
 have b1:=YK (n:=qC) hby hbb
 generalize iW p qC b=p1 at k1 b1 ⊢
 by_cases e1:p1.2=0
 case neg=>rw[if_neg e1,ah,ig e1,ig e1,ig e1,aeX e1]
 rw[if_pos e1,then_ok (p:=p1) e1,apI (k1.bnd hf) vg.len,ak,fB,iO]
 have k2:=k1.trans (TV (n:=qC) k1.right)
 have b2:=acX (n:=qC) b1
 generalize Me p1.1 qC=p2 at k2 b2 ⊢
 by_cases e2:p2.2=0
 case neg=>rw[if_neg e2,ah,ig e2,ig e2,aeX e2]
 rw[if_pos e2,then_ok (p:=p2) e2,VQ hg,ak,apE (k2.bnd hf) vg.len hN.len,ak,fB,iO]
 have k3:=k2.trans (Sl (a:=qC) (b:=qE gen) k2.right)
 have b3:=Yv (a:=qC) (b:=qE gen) b2
 generalize CB p2.1 qC (qE gen)=p3 at k3 b3 ⊢
 by_cases e3:p3.2=0
 case neg=>rw[if_neg e3,ah,ig e3,aeX e3]
 rw[if_pos e3,then_ok (p:=p3) e3,ajy (k3.bnd hf) b3 (by unfold C9 at hg;unfold inI;simp only;omega),ak]
 exact auA hg hf (k3.trans (Vt k3.right)) rfl _ _ _ _
theorem ajI {d:au} {s:ax} (h:KR d) (hb:wR d) (hr:yK s) (hsh:BU s):uz d s=some (aiI d s):=by
 refine Wq.eq ?_
 unfold uz aiI
 rw[VY h.nm,ak]
 have hr1:(fV d).2=1↔¬jh d:=by
  constructor
  ·intro g hd
   unfold fV at g
   rw[if_neg (fun k=>k hd)]at g
   split at g
   ·exact absurd g (by decide)
   ·split at g<;>exact absurd g (by simp)
  ·intro hd;unfold fV;rw[if_pos hd]
 by_cases hd:jh d
 case neg=>
  rw[decide_eq_false hd,dA,dD,bW,ak,sG,bK,ah,if_pos (.inr (hr1.2 hd))]
 rw[decide_eq_true hd,dD,dA,bK]
 refine(anN hr hsh).bind fun y1 h1=> ?_
 rw[iM,fB,Jv]
 by_cases hR:zY s
 case neg=>rw[if_neg (fun g=>hR (h1.1 g)),ah,if_pos (.inl hR)]
 have hne:¬(¬zY s\/(fV d).2=1):=fun g=>g.elim (fun g=>g hR) (fun g=>hr1.1 g hd)
 rw[if_pos (h1.2 hR),if_neg hne]
 cases hw:d.down
 case true=>
  have h9:(fV d).2=9:=by unfold fV;rw[if_neg (fun g=>g hd),if_pos hw]
  rw[bK,ah,if_pos h9]
 obtain⟨c1,c2⟩:=adM hd hw
 have h9:(fV d).2≠9:=by rcases c2 with ⟨g, -⟩ | ⟨g, -⟩<;>rw[g]<;>decide
 have hgn:=Y4 d
 have eg:wr .i64 (aj (fV d).1.gen 1)=(fV d).1.gen+1:=by rw[aj,bY (by omega) (by omega)]
 rw[bW,if_neg h9,YJ h hb,ak,eg,Xb]
 by_cases hov:1000000000<=(fV d).1.gen
 ·rw[if_pos (by omega),ah,if_pos hov]
 rw[if_neg (by omega),if_neg hov]
 have hG:C9 ((fV d).1.gen+1):=⟨by omega,by omega⟩
 generalize (fV d).1.gen+1=gen at hG ⊢
 have henc:(encZ s).length<900000:=by
  have h1:=abV s
  have h2:=hR.few
  omega
 simp only[aqx hR,ak]
 unfold ads
 have et:[(UInt8.ofNat 116),(UInt8.ofNat 109),(UInt8.ofNat 112)]=qC:=rfl
 have hfu:=h.fu
 refine(X4 hd.asc (by have:=hd.fl;omega)).bind ?_
 rintro k (⟨rfl,hgn⟩ | ⟨i,hi,rfl,hgs⟩)
 ·rw[et]at hgn
  have hc:LV d=(d,0):=by unfold LV;rw[if_pos hgn]
  rw[dH (ahJ (by omega)),hc,show(yu (d,(0:Int)) fun d=>iW d qC (encZ s))=iW d qC (encZ s)from then_ok rfl]
  exact akM hG hfu (Keep.refl hd) hb (Y6 s) henc
 ·rw[et]at hgs
  have hc:LV d=tK d qC:=by unfold LV;rw[if_neg (by rw[hgs];intro e;cases e)]
  rw[aB (jd (by omega)),hc]
  conv=>lhs;rw[et]
  rw[ak0 h vg.len,ak,fB,iO]
  have k0:=Iw (n:=qC) hd
  have b0:=XW (n:=qC) hb
  generalize tK d qC=p at k0 b0 ⊢
  by_cases e0:p.2=0
  case neg=>rw[if_neg e0,ah,ig (p:=p) e0,ig e0,ig e0,ig e0,aeX e0]
  rw[if_pos e0,then_ok (p:=p) e0]
  exact akM hG hfu k0 b0 (Y6 s) henc
def alO {τ:Type} [DecidableEq τ] (n:Int) (f:Bool->Option τ):Option τ:=if n=0 then (if f true=f false then f true else none)else f false
theorem Zm {τ:Type} [DecidableEq τ] (n:Int) (f:Bool->Option τ):abW n f=alO n f:=by
 unfold abW alO
 by_cases h:n=0
 ·rw[if_pos h,if_pos h]
  by_cases h2:f true=f false
  ·rw[if_pos h2,if_pos h2]
  ·rw[if_neg h2,if_neg h2]
 ·rw[if_neg h,if_neg h]
def iR (x0:(List aJ)):Option ((List aJ)):=alO (len x0) fun y0 => cnd (beq y0 true) (some []) (cnd (ile (len x0) 68719476736) (some x0) none)
theorem MG:gG=iR:=by
 funext a0
 unfold gG iR
 simp only[Zm]
def ji (x0:(List aK)):Option ((List aK)):=alO (len x0) fun y0 => cnd (beq y0 true) (some []) (cnd (ile (len x0) 68719476736) (some x0) none)
theorem Om:iq=ji:=by
 funext a0
 unfold iq ji
 simp only[Zm]
def jk (x0:(List dL)):Option ((List dL)):=alO (len x0) fun y0 => cnd (beq y0 true) (some []) (cnd (ile (len x0) 68719476736) (some x0) none)
theorem Og:gZ=jk:=by
 funext a0
 unfold gZ jk
 simp only[Zm]
def kJ (x0:(List Int)):Option ((List Int)):=alO (len x0) fun y0 => cnd (beq y0 true) (some []) (cnd (ile (len x0) 68719476736) (some x0) none)
theorem Rk:jy=kJ:=by
 funext a0
 unfold jy kJ
 simp only[Zm]
def Ya (x0:ax) (x1:yC):Option (ax×Int):=af (tN x0.lsn 1) fun y0 => af (cnd (ay (bor (ay (ieq y0.snd 0)) (ile 1000000000 x0.lsn))) (wY x1) (some false)) fun y1 => af (cnd (ay (bor (bor (ay (ieq y0.snd 0)) (ile 1000000000 x0.lsn)) (ay y1))) (pY x0) (some false)) fun y2 => cnd (bor (bor (bor (ay (ieq y0.snd 0)) (ile 1000000000 x0.lsn)) (ay y1)) (ay y2)) (some (x0,1)) (af (iR x0.orders) fun y3 => af (ji x0.cells) fun y4 => af (jk x0.limits) fun y5 => af (kJ x0.caps) fun y6 => cnd (ieq x1.kind 1) (af (L8 x1) fun y7 => cnd (ile x1.order x0.last) (cnd (ile x1.order x0.last) (some (x0,1)) (cnd x0.kill (some (x0,5)) (cnd (ieq (len y3) 64) (some (x0,6)) (af (iR y3) fun y8 => af (ji y4) fun y9 => af (jk y5) fun y10 => af (kJ y6) fun y11 => af (bU (ax.mk x0.accounts x0.symbols y3 y4 y5 y6 x0.kill x0.last x0.seq x0.lsn) y7.fst.account y7.fst.symbol) fun y12 => cnd (band (ile 0 y12) (ilt y12 (len y4))) (af (jH (ai y4 (itn y12)) y7.fst) fun y13 => cnd (ay (ieq y13.snd 0)) (some (x0,3)) (cnd (ile (len (dB y3 [y7.fst])) 68719476736) (af (jf (ax.mk x0.accounts x0.symbols (dB y3 [y7.fst]) (bT y4 (itn y12) y13.fst) y5 y6 x0.kill y7.fst.id x0.seq x0.lsn) (ax.mk x0.accounts x0.symbols y8 y9 y10 y11 x0.kill x0.last x0.seq x0.lsn) y7.fst.account y7.fst.symbol) fun y14 => cnd (ay (ieq y14 0)) (some (x0,y14)) (some (ax.mk x0.accounts x0.symbols (dB y3 [y7.fst]) (bT y4 (itn y12) y13.fst) y5 y6 x0.kill y7.fst.id x0.seq (wr .i64 (aj x0.lsn 1)),0))) none)) none)))) (cnd (ile x0.accounts x1.account) (cnd (ile x0.accounts x1.account) (some (x0,1)) (cnd x0.kill (some (x0,5)) (cnd (ieq (len y3) 64) (some (x0,6)) (af (iR y3) fun y15 => af (ji y4) fun y16 => af (jk y5) fun y17 => af (kJ y6) fun y18 => af (bU (ax.mk x0.accounts x0.symbols y3 y4 y5 y6 x0.kill x0.last x0.seq x0.lsn) y7.fst.account y7.fst.symbol) fun y19 => cnd (band (ile 0 y19) (ilt y19 (len y4))) (af (jH (ai y4 (itn y19)) y7.fst) fun y20 => cnd (ay (ieq y20.snd 0)) (some (x0,3)) (cnd (ile (len (dB y3 [y7.fst])) 68719476736) (af (jf (ax.mk x0.accounts x0.symbols (dB y3 [y7.fst]) (bT y4 (itn y19) y20.fst) y5 y6 x0.kill y7.fst.id x0.seq x0.lsn) (ax.mk x0.accounts x0.symbols y15 y16 y17 y18 x0.kill x0.last x0.seq x0.lsn) y7.fst.account y7.fst.symbol) fun y21 => cnd (ay (ieq y21 0)) (some (x0,y21)) (some (ax.mk x0.accounts x0.symbols (dB y3 [y7.fst]) (bT y4 (itn y19) y20.fst) y5 y6 x0.kill y7.fst.id x0.seq (wr .i64 (aj x0.lsn 1)),0))) none)) none)))) (cnd (ile x0.symbols x1.symbol) (some (x0,1)) (cnd x0.kill (some (x0,5)) (cnd (ieq (len y3) 64) (some (x0,6)) (af (iR y3) fun y22 => af (ji y4) fun y23 => af (jk y5) fun y24 => af (kJ y6) fun y25 => af (bU (ax.mk x0.accounts x0.symbols y3 y4 y5 y6 x0.kill x0.last x0.seq x0.lsn) y7.fst.account y7.fst.symbol) fun y26 => cnd (band (ile 0 y26) (ilt y26 (len y4))) (af (jH (ai y4 (itn y26)) y7.fst) fun y27 => cnd (ay (ieq y27.snd 0)) (some (x0,3)) (cnd (ile (len (dB y3 [y7.fst])) 68719476736) (af (jf (ax.mk x0.accounts x0.symbols (dB y3 [y7.fst]) (bT y4 (itn y26) y27.fst) y5 y6 x0.kill y7.fst.id x0.seq x0.lsn) (ax.mk x0.accounts x0.symbols y22 y23 y24 y25 x0.kill x0.last x0.seq x0.lsn) y7.fst.account y7.fst.symbol) fun y28 => cnd (ay (ieq y28 0)) (some (x0,y28)) (some (ax.mk x0.accounts x0.symbols (dB y3 [y7.fst]) (bT y4 (itn y26) y27.fst) y5 y6 x0.kill y7.fst.id x0.seq (wr .i64 (aj x0.lsn 1)),0))) none)) none)))))) (cnd (ieq x1.kind 2) (af (uT (ax.mk x0.accounts x0.symbols y3 y4 y5 y6 x0.kill x0.last x0.seq x0.lsn) x1.order) fun y29 => cnd (ieq y29 (-1)) (some (x0,7)) (cnd (band (ile 0 y29) (ilt y29 (len y3))) (af (J9 (ai y3 (itn y29)) x1.qty x1.price) fun y30 => cnd (ay (ieq y30.snd 0)) (some (x0,8)) (cnd x0.kill (some (x0,5)) (af (iR y3) fun y31 => af (ji y4) fun y32 => af (jk y5) fun y33 => af (kJ y6) fun y34 => af (bU (ax.mk x0.accounts x0.symbols y3 y4 y5 y6 x0.kill x0.last x0.seq x0.lsn) (ai y3 (itn y29)).account (ai y3 (itn y29)).symbol) fun y35 => cnd (band (ile 0 y35) (ilt y35 (len y4))) (af (Pq (ai y4 (itn y35)) (ai y3 (itn y29))) fun y36 => af (jH y36.fst y30.fst) fun y37 => cnd (ay (ieq y37.snd 0)) (some (x0,3)) (cnd (band (ile 0 y29) (ilt y29 (len y3))) (af (jf (ax.mk x0.accounts x0.symbols (bT y3 (itn y29) y30.fst) (bT y4 (itn y35) y37.fst) y5 y6 x0.kill x0.last x0.seq x0.lsn) (ax.mk x0.accounts x0.symbols y31 y32 y33 y34 x0.kill x0.last x0.seq x0.lsn) (ai y3 (itn y29)).account (ai y3 (itn y29)).symbol) fun y38 => cnd (ay (ieq y38 0)) (some (x0,y38)) (some (ax.mk x0.accounts x0.symbols (bT y3 (itn y29) y30.fst) (bT y4 (itn y35) y37.fst) y5 y6 x0.kill x0.last x0.seq (wr .i64 (aj x0.lsn 1)),0))) none)) none))) none)) (cnd (ieq x1.kind 3) (af (uT (ax.mk x0.accounts x0.symbols y3 y4 y5 y6 x0.kill x0.last x0.seq x0.lsn) x1.order) fun y39 => cnd (ieq y39 (-1)) (some (x0,7)) (cnd (band (ile 0 y39) (ilt y39 (len y3))) (af (SE (ai y3 (itn y39))) fun y40 => cnd (band (ile 0 y39) (ilt y39 (len y3))) (cnd (ay (ieq y40.snd 0)) (some (x0,y40.snd)) (some (ax.mk x0.accounts x0.symbols (bT y3 (itn y39) y40.fst) y4 y5 y6 x0.kill x0.last x0.seq (wr .i64 (aj x0.lsn 1)),0))) none) none)) (cnd (ieq x1.kind 4) (cnd (ile x0.accounts x1.account) (cnd (ile x0.accounts x1.account) (some (x0,1)) (cnd (ieq x1.symbol (-1)) (cnd (band (ile 0 x1.account) (ilt x1.account (len y6))) (some (ax.mk x0.accounts x0.symbols y3 y4 y5 (bT y6 (itn x1.account) x1.opn) x0.kill x0.last x0.seq (wr .i64 (aj x0.lsn 1)),0)) none) (af (bU (ax.mk x0.accounts x0.symbols y3 y4 y5 y6 x0.kill x0.last x0.seq x0.lsn) x1.account x1.symbol) fun y41 => cnd (band (ile 0 y41) (ilt y41 (len y5))) (some (ax.mk x0.accounts x0.symbols y3 y4 (bT y5 (itn y41) (dL.mk x1.long x1.short x1.opn)) y6 x0.kill x0.last x0.seq (wr .i64 (aj x0.lsn 1)),0)) none))) (cnd (ile x0.symbols x1.symbol) (some (x0,1)) (cnd (ieq x1.symbol (-1)) (cnd (band (ile 0 x1.account) (ilt x1.account (len y6))) (some (ax.mk x0.accounts x0.symbols y3 y4 y5 (bT y6 (itn x1.account) x1.opn) x0.kill x0.last x0.seq (wr .i64 (aj x0.lsn 1)),0)) none) (af (bU (ax.mk x0.accounts x0.symbols y3 y4 y5 y6 x0.kill x0.last x0.seq x0.lsn) x1.account x1.symbol) fun y42 => cnd (band (ile 0 y42) (ilt y42 (len y5))) (some (ax.mk x0.accounts x0.symbols y3 y4 (bT y5 (itn y42) (dL.mk x1.long x1.short x1.opn)) y6 x0.kill x0.last x0.seq (wr .i64 (aj x0.lsn 1)),0)) none)))) (cnd (ieq x1.kind 5) (some (ax.mk x0.accounts x0.symbols y3 y4 y5 y6 x1.on x0.last x0.seq (wr .i64 (aj x0.lsn 1)),0)) (cnd (ay (ieq x1.seq (wr .i64 (aj x0.seq 1)))) (some (x0,11)) (af (uT (ax.mk x0.accounts x0.symbols y3 y4 y5 y6 x0.kill x0.last x1.seq x0.lsn) x1.order) fun y43 => cnd (ieq y43 (-1)) (some (ax.mk x0.accounts x0.symbols y3 y4 y5 y6 x0.kill x0.last x1.seq (wr .i64 (aj x0.lsn 1)),0)) (cnd (band (ile 0 y43) (ilt y43 (len y3))) (af (OW (ai y3 (itn y43)) (MJ.mk x1.seq x1.what x1.order x1.qty x1.price)) fun y44 => cnd (ay (ieq y44.snd 0)) (some (ax.mk x0.accounts x0.symbols y3 y4 y5 y6 x0.kill x0.last x1.seq (wr .i64 (aj x0.lsn 1)),0)) (af (bU (ax.mk x0.accounts x0.symbols y3 y4 y5 y6 x0.kill x0.last x1.seq x0.lsn) (ai y3 (itn y43)).account (ai y3 (itn y43)).symbol) fun y45 => cnd (band (ile 0 y45) (ilt y45 (len y4))) (af (Pq (ai y4 (itn y45)) (ai y3 (itn y43))) fun y46 => af (jH (ai (bT y4 (itn y45) y46.fst) (itn y45)) y44.fst) fun y47 => cnd (ieq x1.what 3) (af (VU (ai (bT (bT y4 (itn y45) y46.fst) (itn y45) y47.fst) (itn y45)) (ai y3 (itn y43)).side x1.qty) fun y48 => cnd (band (ile 0 y43) (ilt y43 (len y3))) (cnd (ieq y44.fst.phase 3) (af (kz (bT y3 (itn y43) y44.fst) y43 (wr .i64 (aj y43 1))) fun y49 => some (ax.mk x0.accounts x0.symbols y49 (bT (bT (bT y4 (itn y45) y46.fst) (itn y45) y47.fst) (itn y45) y48.fst) y5 y6 x0.kill x0.last x1.seq (wr .i64 (aj x0.lsn 1)),0)) (some (ax.mk x0.accounts x0.symbols (bT y3 (itn y43) y44.fst) (bT (bT (bT y4 (itn y45) y46.fst) (itn y45) y47.fst) (itn y45) y48.fst) y5 y6 x0.kill x0.last x1.seq (wr .i64 (aj x0.lsn 1)),0))) none) (cnd (band (ile 0 y43) (ilt y43 (len y3))) (cnd (ieq y44.fst.phase 3) (af (kz (bT y3 (itn y43) y44.fst) y43 (wr .i64 (aj y43 1))) fun y50 => some (ax.mk x0.accounts x0.symbols y50 (bT (bT y4 (itn y45) y46.fst) (itn y45) y47.fst) y5 y6 x0.kill x0.last x1.seq (wr .i64 (aj x0.lsn 1)),0)) (some (ax.mk x0.accounts x0.symbols (bT y3 (itn y43) y44.fst) (bT (bT y4 (itn y45) y46.fst) (itn y45) y47.fst) y5 y6 x0.kill x0.last x1.seq (wr .i64 (aj x0.lsn 1)),0))) none)) none)) none))))))))
theorem af2:U7=Ya:=by
 funext a0 a1
 unfold U7 Ya
 simp only[MG,Om,Og,Rk]
def fM (x0:(List Int)):Option ((List Int)):=alO (len x0) fun y0 => cnd (beq y0 true) (some []) (cnd (ile (len x0) 68719476736) (some x0) none)
theorem GH:dW=fM:=by
 funext a0
 unfold dW fM
 simp only[Zm]
def rV (x0:au) (x1:(List UInt8)):Option ((List Int)×Int):=af (jK x0 [x1]) fun y0 => cnd (ay (ieq y0 0)) (cnd (ay (ieq y0 0)) (some ([],y0)) (cnd (ilt 0 (len x0.files)) (af (fM (ai x0.files 0).data) fun y1 => some (y1,0)) none)) (af (eH x0 x1) fun y2 => cnd (ay y2.snd) (some ([],7)) (cnd (band (ile 0 y2.fst) (ilt y2.fst (len x0.files))) (af (fM (ai x0.files (itn y2.fst)).data) fun y3 => some (y3,0)) none))
theorem En:nS=rV:=by
 funext a0 a1
 unfold nS rV
 simp only[GH]
def Gz (x0:au):Option (dw×Int):=af (zN x0) fun y0 => cnd (ay y0) (some (dw.mk 0 0,1)) (cnd x0.down (some (dw.mk 0 0,9)) (af (lT 0) fun y1 => af (rV x0 y1) fun y2 => af (pO y2.fst) fun y3 => cnd (band (band (ieq y3.snd 0) (ieq (vI y3.fst.gen 2) 0)) (ilt 0 y3.fst.gen)) (af (lT 1) fun y4 => af (rV x0 y4) fun y5 => af (pO y5.fst) fun y6 => cnd (band (band (ieq y6.snd 0) (ieq (vI y6.fst.gen 2) 1)) (ilt y3.fst.gen y6.fst.gen)) (cnd (ieq y6.fst.gen 0) (some (dw.mk 0 0,7)) (some (y6.fst,0))) (cnd (ieq y3.fst.gen 0) (some (dw.mk 0 0,7)) (some (y3.fst,0)))) (af (lT 1) fun y7 => af (rV x0 y7) fun y8 => af (pO y8.fst) fun y9 => cnd (band (band (ieq y9.snd 0) (ieq (vI y9.fst.gen 2) 1)) (ilt 0 y9.fst.gen)) (cnd (ieq y9.fst.gen 0) (some (dw.mk 0 0,7)) (some (y9.fst,0))) (some (dw.mk 0 0,7)))))
theorem Lu:wP=Gz:=by
 funext a0
 unfold wP Gz
 simp only[En]
def Jo (x0:au):Option (ax×Int×Int):=af (Gz x0) fun y0 => cnd (ay (ieq y0.snd 0)) (some (ax.mk 0 0 [] [] [] [] false 0 0 0,0,y0.snd)) (af (dV y0.fst.gen) fun y1 => af (rV x0 y1) fun y2 => cnd (ieq y2.snd 0) (af (zI y2.fst) fun y3 => cnd (band (ieq y3.snd 0) (ieq y3.fst.lsn y0.fst.lsn)) (some (y3.fst,y0.fst.gen,0)) (some (ax.mk 0 0 [] [] [] [] false 0 0 0,0,2))) (some (ax.mk 0 0 [] [] [] [] false 0 0 0,0,2)))
theorem abl:uN=Jo:=by
 funext a0
 unfold uN Jo
 simp only[En,Lu]
def aY (x0:(List aF)):Option ((List aF)):=alO (len x0) fun y0 => cnd (beq y0 true) (some []) (cnd (ile (len x0) 68719476736) (some x0) none)
theorem kM:aV=aY:=by
 funext a0
 unfold aV aY
 simp only[Zm]
def He (x0:au) (x1:(List UInt8)):Option (au×Int):=af (jK x0 [x1]) fun y0 => cnd (ay (ieq y0 0)) (cnd (ay (ieq y0 0)) (some (x0,y0)) (cnd (ieq x0.fuse 0) (some (au.mk x0.files x0.room x0.fuse true,9)) (cnd (ieq x0.fuse (-1)) (af (aY x0.files) fun y1 => af (eF y1 0 1) fun y2 => some (au.mk y2 x0.room x0.fuse x0.down,0)) (af (aY x0.files) fun y3 => af (eF y3 0 1) fun y4 => some (au.mk y4 x0.room (wr .i64 (aI x0.fuse 1)) x0.down,0))))) (af (eH x0 x1) fun y5 => cnd (ay y5.snd) (some (x0,7)) (cnd (ieq x0.fuse 0) (some (au.mk x0.files x0.room x0.fuse true,9)) (cnd (ieq x0.fuse (-1)) (af (aY x0.files) fun y6 => af (eF y6 y5.fst (wr .i64 (aj y5.fst 1))) fun y7 => some (au.mk y7 x0.room x0.fuse x0.down,0)) (af (aY x0.files) fun y8 => af (eF y8 y5.fst (wr .i64 (aj y5.fst 1))) fun y9 => some (au.mk y9 x0.room (wr .i64 (aI x0.fuse 1)) x0.down,0)))))
theorem QL:uP=He:=by
 funext a0 a1
 unfold uP He
 simp only[kM]
def qG (x0:au) (x1:(List UInt8)) (x2:(List Int)):Option (au×Int):=af (jK x0 [x1]) fun y0 => cnd (ay (ieq y0 0)) (some (x0,y0)) (af (eH x0 x1) fun y1 => af (IG x0) fun y2 => cnd (bor (ilt (wr .i64 (aI x0.room y2)) (len x2)) (band (ay y1.snd) (ieq (len x0.files) 64))) (some (x0,6)) (af (aY x0.files) fun y3 => cnd (ay y1.snd) (af (bQ y3 y1.fst [aF.mk x1 [] 0]) fun y4 => cnd (band (ile 0 y1.fst) (ilt y1.fst (len y4))) (af (jX [Va.mk (ai y4 (itn y1.fst)).data,Va.mk x2]) fun y5 => cnd (band (ile 0 y1.fst) (ilt y1.fst (len y4))) (cnd (ieq x0.fuse 0) (some (au.mk (bT y4 (itn y1.fst) (aF.mk (ai y4 (itn y1.fst)).name y5 (ai y4 (itn y1.fst)).sure)) x0.room x0.fuse true,9)) (cnd (ieq x0.fuse (-1)) (some (au.mk (bT y4 (itn y1.fst) (aF.mk (ai y4 (itn y1.fst)).name y5 (ai y4 (itn y1.fst)).sure)) x0.room x0.fuse x0.down,0)) (some (au.mk (bT y4 (itn y1.fst) (aF.mk (ai y4 (itn y1.fst)).name y5 (ai y4 (itn y1.fst)).sure)) x0.room (wr .i64 (aI x0.fuse 1)) x0.down,0)))) none) none) (cnd (band (ile 0 y1.fst) (ilt y1.fst (len y3))) (af (jX [Va.mk (ai y3 (itn y1.fst)).data,Va.mk x2]) fun y6 => cnd (band (ile 0 y1.fst) (ilt y1.fst (len y3))) (cnd (ieq x0.fuse 0) (some (au.mk (bT y3 (itn y1.fst) (aF.mk (ai y3 (itn y1.fst)).name y6 (ai y3 (itn y1.fst)).sure)) x0.room x0.fuse true,9)) (cnd (ieq x0.fuse (-1)) (some (au.mk (bT y3 (itn y1.fst) (aF.mk (ai y3 (itn y1.fst)).name y6 (ai y3 (itn y1.fst)).sure)) x0.room x0.fuse x0.down,0)) (some (au.mk (bT y3 (itn y1.fst) (aF.mk (ai y3 (itn y1.fst)).name y6 (ai y3 (itn y1.fst)).sure)) x0.room (wr .i64 (aI x0.fuse 1)) x0.down,0)))) none) none)))
theorem QK:jD=qG:=by
 funext a0 a1 a2
 unfold jD qG
 simp only[kM]
def rP (x0:au) (x1:(List UInt8)):Option (au×Int):=af (jK x0 [x1]) fun y0 => cnd (ay (ieq y0 0)) (cnd (ay (ieq y0 0)) (some (x0,y0)) (cnd (ieq x0.fuse 0) (some (au.mk x0.files x0.room x0.fuse true,9)) (cnd (ieq x0.fuse (-1)) (af (aY x0.files) fun y1 => cnd (ilt 0 (len y1)) (cnd (ilt 0 (len y1)) (some (au.mk (bT y1 0 (aF.mk (ai y1 0).name (ai y1 0).data (len (ai y1 0).data))) x0.room x0.fuse x0.down,0)) none) none) (af (aY x0.files) fun y2 => cnd (ilt 0 (len y2)) (cnd (ilt 0 (len y2)) (some (au.mk (bT y2 0 (aF.mk (ai y2 0).name (ai y2 0).data (len (ai y2 0).data))) x0.room (wr .i64 (aI x0.fuse 1)) x0.down,0)) none) none)))) (af (eH x0 x1) fun y3 => cnd (ay y3.snd) (some (x0,7)) (cnd (ieq x0.fuse 0) (some (au.mk x0.files x0.room x0.fuse true,9)) (cnd (ieq x0.fuse (-1)) (af (aY x0.files) fun y4 => cnd (band (ile 0 y3.fst) (ilt y3.fst (len y4))) (cnd (band (ile 0 y3.fst) (ilt y3.fst (len y4))) (some (au.mk (bT y4 (itn y3.fst) (aF.mk (ai y4 (itn y3.fst)).name (ai y4 (itn y3.fst)).data (len (ai y4 (itn y3.fst)).data))) x0.room x0.fuse x0.down,0)) none) none) (af (aY x0.files) fun y5 => cnd (band (ile 0 y3.fst) (ilt y3.fst (len y5))) (cnd (band (ile 0 y3.fst) (ilt y3.fst (len y5))) (some (au.mk (bT y5 (itn y3.fst) (aF.mk (ai y5 (itn y3.fst)).name (ai y5 (itn y3.fst)).data (len (ai y5 (itn y3.fst)).data))) x0.room (wr .i64 (aI x0.fuse 1)) x0.down,0)) none) none))))
theorem Ub:kX=rP:=by
 funext a0 a1
 unfold kX rP
 simp only[kM]
def qH (x0:au) (x1:(List UInt8)) (x2:(List UInt8)):Option (au×Int):=cnd (ile (len (dB [x2] [x1])) 68719476736) (af (jK x0 (dB [x2] [x1])) fun y0 => cnd (ay (ieq y0 0)) (cnd (ay (ieq y0 0)) (some (x0,y0)) (cnd (ieq x0.fuse 0) (some (au.mk x0.files x0.room x0.fuse true,9)) (cnd (ieq x0.fuse (-1)) (cnd (ilt 0 (len x0.files)) (af (aY x0.files) fun y1 => cnd (band (ile 1 (len y1)) (band (ile 1 (len y1)) (ile (len y1) (len y1)))) (cnd (ile 0 (len y1)) (cnd (ile 1 (len y1)) (cnd (ile (aj 0 (len (aA (aN y1 1) (itn (aI (len y1) 1))))) (len y1)) (cnd (band (band (ile 0 (nti (nad 0 (itn (len (aA (aN y1 1) (itn (aI (len y1) 1)))))))) (ile (nti (nad 0 (itn (len (aA (aN y1 1) (itn (aI (len y1) 1))))))) (len y1))) (ile (len y1) (aI (len (fZ y1 0 (aA (aN y1 1) (itn (aI (len y1) 1))))) 0))) (af (eH (au.mk (aA (fZ (fZ y1 0 (aA (aN y1 1) (itn (aI (len y1) 1)))) (nad 0 (itn (nti (nad 0 (itn (len (aA (aN y1 1) (itn (aI (len y1) 1))))))))) (jR aF (itn (aI (len y1) (nti (nad 0 (itn (len (aA (aN y1 1) (itn (aI (len y1) 1))))))))))) (nad 0 (itn (len (aA (aN y1 1) (itn (aI (len y1) 1))))))) x0.room x0.fuse x0.down) x2) fun y2 => cnd y2.snd (cnd (band (ile 0 y2.fst) (ilt y2.fst (len (aA (fZ (fZ y1 0 (aA (aN y1 1) (itn (aI (len y1) 1)))) (nad 0 (itn (nti (nad 0 (itn (len (aA (aN y1 1) (itn (aI (len y1) 1))))))))) (jR aF (itn (aI (len y1) (nti (nad 0 (itn (len (aA (aN y1 1) (itn (aI (len y1) 1))))))))))) (nad 0 (itn (len (aA (aN y1 1) (itn (aI (len y1) 1)))))))))) (some (au.mk (bT (aA (fZ (fZ y1 0 (aA (aN y1 1) (itn (aI (len y1) 1)))) (nad 0 (itn (nti (nad 0 (itn (len (aA (aN y1 1) (itn (aI (len y1) 1))))))))) (jR aF (itn (aI (len y1) (nti (nad 0 (itn (len (aA (aN y1 1) (itn (aI (len y1) 1))))))))))) (nad 0 (itn (len (aA (aN y1 1) (itn (aI (len y1) 1))))))) (itn y2.fst) (aF.mk x2 (ai x0.files 0).data (ai x0.files 0).sure)) x0.room x0.fuse x0.down,0)) none) (af (bQ (aA (fZ (fZ y1 0 (aA (aN y1 1) (itn (aI (len y1) 1)))) (nad 0 (itn (nti (nad 0 (itn (len (aA (aN y1 1) (itn (aI (len y1) 1))))))))) (jR aF (itn (aI (len y1) (nti (nad 0 (itn (len (aA (aN y1 1) (itn (aI (len y1) 1))))))))))) (nad 0 (itn (len (aA (aN y1 1) (itn (aI (len y1) 1))))))) y2.fst [aF.mk x2 (ai x0.files 0).data (ai x0.files 0).sure]) fun y3 => some (au.mk y3 x0.room x0.fuse x0.down,0))) none) none) none) none) none) none) (cnd (ilt 0 (len x0.files)) (af (aY x0.files) fun y4 => cnd (band (ile 1 (len y4)) (band (ile 1 (len y4)) (ile (len y4) (len y4)))) (cnd (ile 0 (len y4)) (cnd (ile 1 (len y4)) (cnd (ile (aj 0 (len (aA (aN y4 1) (itn (aI (len y4) 1))))) (len y4)) (cnd (band (band (ile 0 (nti (nad 0 (itn (len (aA (aN y4 1) (itn (aI (len y4) 1)))))))) (ile (nti (nad 0 (itn (len (aA (aN y4 1) (itn (aI (len y4) 1))))))) (len y4))) (ile (len y4) (aI (len (fZ y4 0 (aA (aN y4 1) (itn (aI (len y4) 1))))) 0))) (af (eH (au.mk (aA (fZ (fZ y4 0 (aA (aN y4 1) (itn (aI (len y4) 1)))) (nad 0 (itn (nti (nad 0 (itn (len (aA (aN y4 1) (itn (aI (len y4) 1))))))))) (jR aF (itn (aI (len y4) (nti (nad 0 (itn (len (aA (aN y4 1) (itn (aI (len y4) 1))))))))))) (nad 0 (itn (len (aA (aN y4 1) (itn (aI (len y4) 1))))))) x0.room (wr .i64 (aI x0.fuse 1)) x0.down) x2) fun y5 => cnd y5.snd (cnd (band (ile 0 y5.fst) (ilt y5.fst (len (aA (fZ (fZ y4 0 (aA (aN y4 1) (itn (aI (len y4) 1)))) (nad 0 (itn (nti (nad 0 (itn (len (aA (aN y4 1) (itn (aI (len y4) 1))))))))) (jR aF (itn (aI (len y4) (nti (nad 0 (itn (len (aA (aN y4 1) (itn (aI (len y4) 1))))))))))) (nad 0 (itn (len (aA (aN y4 1) (itn (aI (len y4) 1)))))))))) (some (au.mk (bT (aA (fZ (fZ y4 0 (aA (aN y4 1) (itn (aI (len y4) 1)))) (nad 0 (itn (nti (nad 0 (itn (len (aA (aN y4 1) (itn (aI (len y4) 1))))))))) (jR aF (itn (aI (len y4) (nti (nad 0 (itn (len (aA (aN y4 1) (itn (aI (len y4) 1))))))))))) (nad 0 (itn (len (aA (aN y4 1) (itn (aI (len y4) 1))))))) (itn y5.fst) (aF.mk x2 (ai x0.files 0).data (ai x0.files 0).sure)) x0.room (wr .i64 (aI x0.fuse 1)) x0.down,0)) none) (af (bQ (aA (fZ (fZ y4 0 (aA (aN y4 1) (itn (aI (len y4) 1)))) (nad 0 (itn (nti (nad 0 (itn (len (aA (aN y4 1) (itn (aI (len y4) 1))))))))) (jR aF (itn (aI (len y4) (nti (nad 0 (itn (len (aA (aN y4 1) (itn (aI (len y4) 1))))))))))) (nad 0 (itn (len (aA (aN y4 1) (itn (aI (len y4) 1))))))) y5.fst [aF.mk x2 (ai x0.files 0).data (ai x0.files 0).sure]) fun y6 => some (au.mk y6 x0.room (wr .i64 (aI x0.fuse 1)) x0.down,0))) none) none) none) none) none) none)))) (af (eH x0 x1) fun y7 => cnd (ay y7.snd) (some (x0,7)) (cnd (ieq x0.fuse 0) (some (au.mk x0.files x0.room x0.fuse true,9)) (cnd (ieq x0.fuse (-1)) (cnd (band (ile 0 y7.fst) (ilt y7.fst (len x0.files))) (af (aY x0.files) fun y8 => cnd (band (band (band (ile 0 y7.fst) (ile y7.fst (wr .i64 (aj y7.fst 1)))) (ile (wr .i64 (aj y7.fst 1)) (len y8))) (band (ile (wr .i64 (aj y7.fst 1)) (len y8)) (ile (len y8) (len y8)))) (cnd (ieq y7.fst (wr .i64 (aj y7.fst 1))) (af (eH (au.mk y8 x0.room x0.fuse x0.down) x2) fun y9 => cnd y9.snd (cnd (band (ile 0 y9.fst) (ilt y9.fst (len y8))) (some (au.mk (bT y8 (itn y9.fst) (aF.mk x2 (ai x0.files (itn y7.fst)).data (ai x0.files (itn y7.fst)).sure)) x0.room x0.fuse x0.down,0)) none) (af (bQ y8 y9.fst [aF.mk x2 (ai x0.files (itn y7.fst)).data (ai x0.files (itn y7.fst)).sure]) fun y10 => some (au.mk y10 x0.room x0.fuse x0.down,0))) (cnd (band (ile 0 y7.fst) (ile y7.fst (len y8))) (cnd (band (ile 0 (wr .i64 (aj y7.fst 1))) (ile (wr .i64 (aj y7.fst 1)) (len y8))) (cnd (ile (aj (nti (itn y7.fst)) (len (aA (aN y8 (itn (wr .i64 (aj y7.fst 1)))) (itn (aI (len y8) (wr .i64 (aj y7.fst 1))))))) (len y8)) (cnd (band (band (ile 0 (nti (nad (itn y7.fst) (itn (len (aA (aN y8 (itn (wr .i64 (aj y7.fst 1)))) (itn (aI (len y8) (wr .i64 (aj y7.fst 1)))))))))) (ile (nti (nad (itn y7.fst) (itn (len (aA (aN y8 (itn (wr .i64 (aj y7.fst 1)))) (itn (aI (len y8) (wr .i64 (aj y7.fst 1))))))))) (len y8))) (ile (len y8) (aI (len (fZ y8 (itn y7.fst) (aA (aN y8 (itn (wr .i64 (aj y7.fst 1)))) (itn (aI (len y8) (wr .i64 (aj y7.fst 1))))))) 0))) (af (eH (au.mk (aA (fZ (fZ y8 (itn y7.fst) (aA (aN y8 (itn (wr .i64 (aj y7.fst 1)))) (itn (aI (len y8) (wr .i64 (aj y7.fst 1)))))) (nad 0 (itn (nti (nad (itn y7.fst) (itn (len (aA (aN y8 (itn (wr .i64 (aj y7.fst 1)))) (itn (aI (len y8) (wr .i64 (aj y7.fst 1))))))))))) (jR aF (itn (aI (len y8) (nti (nad (itn y7.fst) (itn (len (aA (aN y8 (itn (wr .i64 (aj y7.fst 1)))) (itn (aI (len y8) (wr .i64 (aj y7.fst 1))))))))))))) (nad (itn y7.fst) (itn (len (aA (aN y8 (itn (wr .i64 (aj y7.fst 1)))) (itn (aI (len y8) (wr .i64 (aj y7.fst 1))))))))) x0.room x0.fuse x0.down) x2) fun y11 => cnd y11.snd (cnd (band (ile 0 y11.fst) (ilt y11.fst (len (aA (fZ (fZ y8 (itn y7.fst) (aA (aN y8 (itn (wr .i64 (aj y7.fst 1)))) (itn (aI (len y8) (wr .i64 (aj y7.fst 1)))))) (nad 0 (itn (nti (nad (itn y7.fst) (itn (len (aA (aN y8 (itn (wr .i64 (aj y7.fst 1)))) (itn (aI (len y8) (wr .i64 (aj y7.fst 1))))))))))) (jR aF (itn (aI (len y8) (nti (nad (itn y7.fst) (itn (len (aA (aN y8 (itn (wr .i64 (aj y7.fst 1)))) (itn (aI (len y8) (wr .i64 (aj y7.fst 1))))))))))))) (nad (itn y7.fst) (itn (len (aA (aN y8 (itn (wr .i64 (aj y7.fst 1)))) (itn (aI (len y8) (wr .i64 (aj y7.fst 1)))))))))))) (some (au.mk (bT (aA (fZ (fZ y8 (itn y7.fst) (aA (aN y8 (itn (wr .i64 (aj y7.fst 1)))) (itn (aI (len y8) (wr .i64 (aj y7.fst 1)))))) (nad 0 (itn (nti (nad (itn y7.fst) (itn (len (aA (aN y8 (itn (wr .i64 (aj y7.fst 1)))) (itn (aI (len y8) (wr .i64 (aj y7.fst 1))))))))))) (jR aF (itn (aI (len y8) (nti (nad (itn y7.fst) (itn (len (aA (aN y8 (itn (wr .i64 (aj y7.fst 1)))) (itn (aI (len y8) (wr .i64 (aj y7.fst 1))))))))))))) (nad (itn y7.fst) (itn (len (aA (aN y8 (itn (wr .i64 (aj y7.fst 1)))) (itn (aI (len y8) (wr .i64 (aj y7.fst 1))))))))) (itn y11.fst) (aF.mk x2 (ai x0.files (itn y7.fst)).data (ai x0.files (itn y7.fst)).sure)) x0.room x0.fuse x0.down,0)) none) (af (bQ (aA (fZ (fZ y8 (itn y7.fst) (aA (aN y8 (itn (wr .i64 (aj y7.fst 1)))) (itn (aI (len y8) (wr .i64 (aj y7.fst 1)))))) (nad 0 (itn (nti (nad (itn y7.fst) (itn (len (aA (aN y8 (itn (wr .i64 (aj y7.fst 1)))) (itn (aI (len y8) (wr .i64 (aj y7.fst 1))))))))))) (jR aF (itn (aI (len y8) (nti (nad (itn y7.fst) (itn (len (aA (aN y8 (itn (wr .i64 (aj y7.fst 1)))) (itn (aI (len y8) (wr .i64 (aj y7.fst 1))))))))))))) (nad (itn y7.fst) (itn (len (aA (aN y8 (itn (wr .i64 (aj y7.fst 1)))) (itn (aI (len y8) (wr .i64 (aj y7.fst 1))))))))) y11.fst [aF.mk x2 (ai x0.files (itn y7.fst)).data (ai x0.files (itn y7.fst)).sure]) fun y12 => some (au.mk y12 x0.room x0.fuse x0.down,0))) none) none) none) none)) none) none) (cnd (band (ile 0 y7.fst) (ilt y7.fst (len x0.files))) (af (aY x0.files) fun y13 => cnd (band (band (band (ile 0 y7.fst) (ile y7.fst (wr .i64 (aj y7.fst 1)))) (ile (wr .i64 (aj y7.fst 1)) (len y13))) (band (ile (wr .i64 (aj y7.fst 1)) (len y13)) (ile (len y13) (len y13)))) (cnd (ieq y7.fst (wr .i64 (aj y7.fst 1))) (af (eH (au.mk y13 x0.room (wr .i64 (aI x0.fuse 1)) x0.down) x2) fun y14 => cnd y14.snd (cnd (band (ile 0 y14.fst) (ilt y14.fst (len y13))) (some (au.mk (bT y13 (itn y14.fst) (aF.mk x2 (ai x0.files (itn y7.fst)).data (ai x0.files (itn y7.fst)).sure)) x0.room (wr .i64 (aI x0.fuse 1)) x0.down,0)) none) (af (bQ y13 y14.fst [aF.mk x2 (ai x0.files (itn y7.fst)).data (ai x0.files (itn y7.fst)).sure]) fun y15 => some (au.mk y15 x0.room (wr .i64 (aI x0.fuse 1)) x0.down,0))) (cnd (band (ile 0 y7.fst) (ile y7.fst (len y13))) (cnd (band (ile 0 (wr .i64 (aj y7.fst 1))) (ile (wr .i64 (aj y7.fst 1)) (len y13))) (cnd (ile (aj (nti (itn y7.fst)) (len (aA (aN y13 (itn (wr .i64 (aj y7.fst 1)))) (itn (aI (len y13) (wr .i64 (aj y7.fst 1))))))) (len y13)) (cnd (band (band (ile 0 (nti (nad (itn y7.fst) (itn (len (aA (aN y13 (itn (wr .i64 (aj y7.fst 1)))) (itn (aI (len y13) (wr .i64 (aj y7.fst 1)))))))))) (ile (nti (nad (itn y7.fst) (itn (len (aA (aN y13 (itn (wr .i64 (aj y7.fst 1)))) (itn (aI (len y13) (wr .i64 (aj y7.fst 1))))))))) (len y13))) (ile (len y13) (aI (len (fZ y13 (itn y7.fst) (aA (aN y13 (itn (wr .i64 (aj y7.fst 1)))) (itn (aI (len y13) (wr .i64 (aj y7.fst 1))))))) 0))) (af (eH (au.mk (aA (fZ (fZ y13 (itn y7.fst) (aA (aN y13 (itn (wr .i64 (aj y7.fst 1)))) (itn (aI (len y13) (wr .i64 (aj y7.fst 1)))))) (nad 0 (itn (nti (nad (itn y7.fst) (itn (len (aA (aN y13 (itn (wr .i64 (aj y7.fst 1)))) (itn (aI (len y13) (wr .i64 (aj y7.fst 1))))))))))) (jR aF (itn (aI (len y13) (nti (nad (itn y7.fst) (itn (len (aA (aN y13 (itn (wr .i64 (aj y7.fst 1)))) (itn (aI (len y13) (wr .i64 (aj y7.fst 1))))))))))))) (nad (itn y7.fst) (itn (len (aA (aN y13 (itn (wr .i64 (aj y7.fst 1)))) (itn (aI (len y13) (wr .i64 (aj y7.fst 1))))))))) x0.room (wr .i64 (aI x0.fuse 1)) x0.down) x2) fun y16 => cnd y16.snd (cnd (band (ile 0 y16.fst) (ilt y16.fst (len (aA (fZ (fZ y13 (itn y7.fst) (aA (aN y13 (itn (wr .i64 (aj y7.fst 1)))) (itn (aI (len y13) (wr .i64 (aj y7.fst 1)))))) (nad 0 (itn (nti (nad (itn y7.fst) (itn (len (aA (aN y13 (itn (wr .i64 (aj y7.fst 1)))) (itn (aI (len y13) (wr .i64 (aj y7.fst 1))))))))))) (jR aF (itn (aI (len y13) (nti (nad (itn y7.fst) (itn (len (aA (aN y13 (itn (wr .i64 (aj y7.fst 1)))) (itn (aI (len y13) (wr .i64 (aj y7.fst 1))))))))))))) (nad (itn y7.fst) (itn (len (aA (aN y13 (itn (wr .i64 (aj y7.fst 1)))) (itn (aI (len y13) (wr .i64 (aj y7.fst 1)))))))))))) (some (au.mk (bT (aA (fZ (fZ y13 (itn y7.fst) (aA (aN y13 (itn (wr .i64 (aj y7.fst 1)))) (itn (aI (len y13) (wr .i64 (aj y7.fst 1)))))) (nad 0 (itn (nti (nad (itn y7.fst) (itn (len (aA (aN y13 (itn (wr .i64 (aj y7.fst 1)))) (itn (aI (len y13) (wr .i64 (aj y7.fst 1))))))))))) (jR aF (itn (aI (len y13) (nti (nad (itn y7.fst) (itn (len (aA (aN y13 (itn (wr .i64 (aj y7.fst 1)))) (itn (aI (len y13) (wr .i64 (aj y7.fst 1))))))))))))) (nad (itn y7.fst) (itn (len (aA (aN y13 (itn (wr .i64 (aj y7.fst 1)))) (itn (aI (len y13) (wr .i64 (aj y7.fst 1))))))))) (itn y16.fst) (aF.mk x2 (ai x0.files (itn y7.fst)).data (ai x0.files (itn y7.fst)).sure)) x0.room (wr .i64 (aI x0.fuse 1)) x0.down,0)) none) (af (bQ (aA (fZ (fZ y13 (itn y7.fst) (aA (aN y13 (itn (wr .i64 (aj y7.fst 1)))) (itn (aI (len y13) (wr .i64 (aj y7.fst 1)))))) (nad 0 (itn (nti (nad (itn y7.fst) (itn (len (aA (aN y13 (itn (wr .i64 (aj y7.fst 1)))) (itn (aI (len y13) (wr .i64 (aj y7.fst 1))))))))))) (jR aF (itn (aI (len y13) (nti (nad (itn y7.fst) (itn (len (aA (aN y13 (itn (wr .i64 (aj y7.fst 1)))) (itn (aI (len y13) (wr .i64 (aj y7.fst 1))))))))))))) (nad (itn y7.fst) (itn (len (aA (aN y13 (itn (wr .i64 (aj y7.fst 1)))) (itn (aI (len y13) (wr .i64 (aj y7.fst 1))))))))) y16.fst [aF.mk x2 (ai x0.files (itn y7.fst)).data (ai x0.files (itn y7.fst)).sure]) fun y17 => some (au.mk y17 x0.room (wr .i64 (aI x0.fuse 1)) x0.down,0))) none) none) none) none)) none) none))))) none
theorem aa0:mF=qH:=by
 funext a0 a1 a2
 unfold mF qH
 simp only[kM]
def OZ (x0:au) (x1:(List UInt8)) (x2:Int):Option (au×Int):=af (jK x0 [x1]) fun y0 => cnd (ay (ieq y0 0)) (cnd (ay (ieq y0 0)) (some (x0,y0)) (cnd (ilt x2 0) (cnd (ilt x2 0) (some (x0,1)) (cnd (ieq x0.fuse 0) (some (au.mk x0.files x0.room x0.fuse true,9)) (cnd (ieq x0.fuse (-1)) (af (aY x0.files) fun y1 => cnd (ilt 0 (len y1)) (cnd (band (ile 0 x2) (ile x2 (len (ai y1 0).data))) (af (fM (aA (ai y1 0).data (itn x2))) fun y2 => some (au.mk (bT (bT y1 0 (aF.mk (ai y1 0).name y2 (ai y1 0).sure)) 0 (aF.mk (ai (bT y1 0 (aF.mk (ai y1 0).name y2 (ai y1 0).sure)) 0).name (ai (bT y1 0 (aF.mk (ai y1 0).name y2 (ai y1 0).sure)) 0).data (tu (ai y1 0).sure x2))) x0.room x0.fuse x0.down,0)) none) none) (af (aY x0.files) fun y3 => cnd (ilt 0 (len y3)) (cnd (band (ile 0 x2) (ile x2 (len (ai y3 0).data))) (af (fM (aA (ai y3 0).data (itn x2))) fun y4 => some (au.mk (bT (bT y3 0 (aF.mk (ai y3 0).name y4 (ai y3 0).sure)) 0 (aF.mk (ai (bT y3 0 (aF.mk (ai y3 0).name y4 (ai y3 0).sure)) 0).name (ai (bT y3 0 (aF.mk (ai y3 0).name y4 (ai y3 0).sure)) 0).data (tu (ai y3 0).sure x2))) x0.room (wr .i64 (aI x0.fuse 1)) x0.down,0)) none) none)))) (cnd (ilt 0 (len x0.files)) (cnd (ilt (len (ai x0.files 0).data) x2) (some (x0,1)) (cnd (ieq x0.fuse 0) (some (au.mk x0.files x0.room x0.fuse true,9)) (cnd (ieq x0.fuse (-1)) (af (aY x0.files) fun y5 => cnd (ilt 0 (len y5)) (cnd (band (ile 0 x2) (ile x2 (len (ai y5 0).data))) (af (fM (aA (ai y5 0).data (itn x2))) fun y6 => some (au.mk (bT (bT y5 0 (aF.mk (ai y5 0).name y6 (ai y5 0).sure)) 0 (aF.mk (ai (bT y5 0 (aF.mk (ai y5 0).name y6 (ai y5 0).sure)) 0).name (ai (bT y5 0 (aF.mk (ai y5 0).name y6 (ai y5 0).sure)) 0).data (tu (ai y5 0).sure x2))) x0.room x0.fuse x0.down,0)) none) none) (af (aY x0.files) fun y7 => cnd (ilt 0 (len y7)) (cnd (band (ile 0 x2) (ile x2 (len (ai y7 0).data))) (af (fM (aA (ai y7 0).data (itn x2))) fun y8 => some (au.mk (bT (bT y7 0 (aF.mk (ai y7 0).name y8 (ai y7 0).sure)) 0 (aF.mk (ai (bT y7 0 (aF.mk (ai y7 0).name y8 (ai y7 0).sure)) 0).name (ai (bT y7 0 (aF.mk (ai y7 0).name y8 (ai y7 0).sure)) 0).data (tu (ai y7 0).sure x2))) x0.room (wr .i64 (aI x0.fuse 1)) x0.down,0)) none) none)))) none))) (af (eH x0 x1) fun y9 => cnd (ay y9.snd) (some (x0,7)) (cnd (ilt x2 0) (cnd (ilt x2 0) (some (x0,1)) (cnd (ieq x0.fuse 0) (some (au.mk x0.files x0.room x0.fuse true,9)) (cnd (ieq x0.fuse (-1)) (af (aY x0.files) fun y10 => cnd (band (ile 0 y9.fst) (ilt y9.fst (len y10))) (cnd (band (ile 0 x2) (ile x2 (len (ai y10 (itn y9.fst)).data))) (af (fM (aA (ai y10 (itn y9.fst)).data (itn x2))) fun y11 => some (au.mk (bT (bT y10 (itn y9.fst) (aF.mk (ai y10 (itn y9.fst)).name y11 (ai y10 (itn y9.fst)).sure)) (itn y9.fst) (aF.mk (ai (bT y10 (itn y9.fst) (aF.mk (ai y10 (itn y9.fst)).name y11 (ai y10 (itn y9.fst)).sure)) (itn y9.fst)).name (ai (bT y10 (itn y9.fst) (aF.mk (ai y10 (itn y9.fst)).name y11 (ai y10 (itn y9.fst)).sure)) (itn y9.fst)).data (tu (ai y10 (itn y9.fst)).sure x2))) x0.room x0.fuse x0.down,0)) none) none) (af (aY x0.files) fun y12 => cnd (band (ile 0 y9.fst) (ilt y9.fst (len y12))) (cnd (band (ile 0 x2) (ile x2 (len (ai y12 (itn y9.fst)).data))) (af (fM (aA (ai y12 (itn y9.fst)).data (itn x2))) fun y13 => some (au.mk (bT (bT y12 (itn y9.fst) (aF.mk (ai y12 (itn y9.fst)).name y13 (ai y12 (itn y9.fst)).sure)) (itn y9.fst) (aF.mk (ai (bT y12 (itn y9.fst) (aF.mk (ai y12 (itn y9.fst)).name y13 (ai y12 (itn y9.fst)).sure)) (itn y9.fst)).name (ai (bT y12 (itn y9.fst) (aF.mk (ai y12 (itn y9.fst)).name y13 (ai y12 (itn y9.fst)).sure)) (itn y9.fst)).data (tu (ai y12 (itn y9.fst)).sure x2))) x0.room (wr .i64 (aI x0.fuse 1)) x0.down,0)) none) none)))) (cnd (band (ile 0 y9.fst) (ilt y9.fst (len x0.files))) (cnd (ilt (len (ai x0.files (itn y9.fst)).data) x2) (some (x0,1)) (cnd (ieq x0.fuse 0) (some (au.mk x0.files x0.room x0.fuse true,9)) (cnd (ieq x0.fuse (-1)) (af (aY x0.files) fun y14 => cnd (band (ile 0 y9.fst) (ilt y9.fst (len y14))) (cnd (band (ile 0 x2) (ile x2 (len (ai y14 (itn y9.fst)).data))) (af (fM (aA (ai y14 (itn y9.fst)).data (itn x2))) fun y15 => some (au.mk (bT (bT y14 (itn y9.fst) (aF.mk (ai y14 (itn y9.fst)).name y15 (ai y14 (itn y9.fst)).sure)) (itn y9.fst) (aF.mk (ai (bT y14 (itn y9.fst) (aF.mk (ai y14 (itn y9.fst)).name y15 (ai y14 (itn y9.fst)).sure)) (itn y9.fst)).name (ai (bT y14 (itn y9.fst) (aF.mk (ai y14 (itn y9.fst)).name y15 (ai y14 (itn y9.fst)).sure)) (itn y9.fst)).data (tu (ai y14 (itn y9.fst)).sure x2))) x0.room x0.fuse x0.down,0)) none) none) (af (aY x0.files) fun y16 => cnd (band (ile 0 y9.fst) (ilt y9.fst (len y16))) (cnd (band (ile 0 x2) (ile x2 (len (ai y16 (itn y9.fst)).data))) (af (fM (aA (ai y16 (itn y9.fst)).data (itn x2))) fun y17 => some (au.mk (bT (bT y16 (itn y9.fst) (aF.mk (ai y16 (itn y9.fst)).name y17 (ai y16 (itn y9.fst)).sure)) (itn y9.fst) (aF.mk (ai (bT y16 (itn y9.fst) (aF.mk (ai y16 (itn y9.fst)).name y17 (ai y16 (itn y9.fst)).sure)) (itn y9.fst)).name (ai (bT y16 (itn y9.fst) (aF.mk (ai y16 (itn y9.fst)).name y17 (ai y16 (itn y9.fst)).sure)) (itn y9.fst)).data (tu (ai y16 (itn y9.fst)).sure x2))) x0.room (wr .i64 (aI x0.fuse 1)) x0.down,0)) none) none)))) none)))
theorem aeD:zX=OZ:=by
 funext a0 a1 a2
 unfold zX OZ
 simp only[GH,kM]
def jw (x0:au) (x1:dw):Option (au×Int):=af (Ak x1) fun y0 => cnd (ay y0) (some (x0,1)) (af (Gz x0) fun y1 => cnd (ieq y1.snd 1) (cnd (ieq y1.snd 1) (some (x0,y1.snd)) (cnd (ay (ieq x1.gen (wr .i64 (aj y1.fst.gen 1)))) (some (x0,8)) (af (lT x1.gen) fun y2 => af (rQ x1) fun y3 => af (rV x0 y2) fun y4 => cnd (ieq y4.snd 7) (af (qG x0 y2 [y3.a0,y3.a1,y3.a2,y3.a3,y3.a4,y3.a5,y3.a6,y3.a7,y3.a8,y3.a9,y3.a10,y3.a11,y3.a12,y3.a13,y3.a14,y3.a15,y3.a16,y3.a17,y3.a18,y3.a19]) fun y5 => cnd (ay (ieq y5.snd 0)) (some y5) (af (rP y5.fst y2) fun y6 => cnd (ay (ieq y6.snd 0)) (some y6) (some (y6.fst,0)))) (af (OZ x0 y2 0) fun y7 => cnd (ay (ieq y7.snd 0)) (some y7) (af (qG y7.fst y2 [y3.a0,y3.a1,y3.a2,y3.a3,y3.a4,y3.a5,y3.a6,y3.a7,y3.a8,y3.a9,y3.a10,y3.a11,y3.a12,y3.a13,y3.a14,y3.a15,y3.a16,y3.a17,y3.a18,y3.a19]) fun y8 => cnd (ay (ieq y8.snd 0)) (some y8) (af (rP y8.fst y2) fun y9 => cnd (ay (ieq y9.snd 0)) (some y9) (some (y9.fst,0)))))))) (cnd (ieq y1.snd 9) (some (x0,y1.snd)) (cnd (ay (ieq x1.gen (wr .i64 (aj y1.fst.gen 1)))) (some (x0,8)) (af (lT x1.gen) fun y10 => af (rQ x1) fun y11 => af (rV x0 y10) fun y12 => cnd (ieq y12.snd 7) (af (qG x0 y10 [y11.a0,y11.a1,y11.a2,y11.a3,y11.a4,y11.a5,y11.a6,y11.a7,y11.a8,y11.a9,y11.a10,y11.a11,y11.a12,y11.a13,y11.a14,y11.a15,y11.a16,y11.a17,y11.a18,y11.a19]) fun y13 => cnd (ay (ieq y13.snd 0)) (some y13) (af (rP y13.fst y10) fun y14 => cnd (ay (ieq y14.snd 0)) (some y14) (some (y14.fst,0)))) (af (OZ x0 y10 0) fun y15 => cnd (ay (ieq y15.snd 0)) (some y15) (af (qG y15.fst y10 [y11.a0,y11.a1,y11.a2,y11.a3,y11.a4,y11.a5,y11.a6,y11.a7,y11.a8,y11.a9,y11.a10,y11.a11,y11.a12,y11.a13,y11.a14,y11.a15,y11.a16,y11.a17,y11.a18,y11.a19]) fun y16 => cnd (ay (ieq y16.snd 0)) (some y16) (af (rP y16.fst y10) fun y17 => cnd (ay (ieq y17.snd 0)) (some y17) (some (y17.fst,0)))))))))
theorem abk:iU=jw:=by
 funext a0 a1
 unfold iU jw
 simp only[En,Lu,QK,Ub,aeD]
def bH (p0:Int) (p1:(List aF)) (p2:Int) (v0:Int) (v1:dJ):Option ((Int×dJ) ⊕ ((dJ))):=cnd (ilt v0 p0) (cnd (band (ile 0 v0) (ilt v0 (len p1))) (af (zf (ai p1 (itn v0)).name) fun y0 => af (cnd y0 (dV p2) (some [])) fun y1 => cnd (band y0 (ay (seq (ai p1 (itn v0)).name y1))) (cnd (ieq v1.e 0) (af (He v1.d (ai p1 (itn v0)).name) fun y2 => some (Sum.inl (wr .i64 (aj v0 1),dJ.mk y2.fst y2.snd))) (some (Sum.inl (wr .i64 (aj v0 1),v1)))) (some (Sum.inl (wr .i64 (aj v0 1),v1)))) none) (some (Sum.inr v1))
theorem U0:aX=bH:=by
 funext a0 a1 a2 a3 a4
 unfold aX bH
 simp only[QL]
def Jq (x0:au) (x1:ax):Option (au×Int×Int):=af (wQ x1) fun y0 => cnd (ay (ieq y0.snd 0)) (some (x0,0,1)) (af (Gz x0) fun y1 => cnd (ieq y1.snd 1) (some (x0,0,y1.snd)) (cnd (ieq y1.snd 9) (some (x0,0,y1.snd)) (cnd (ile 1000000000 y1.fst.gen) (some (x0,0,3)) (af (rV x0 [(UInt8.ofNat 116),(UInt8.ofNat 109),(UInt8.ofNat 112)]) fun y2 => cnd (ieq y2.snd 0) (af (He x0 [(UInt8.ofNat 116),(UInt8.ofNat 109),(UInt8.ofNat 112)]) fun y3 => cnd (ieq y3.snd 0) (af (qG y3.fst [(UInt8.ofNat 116),(UInt8.ofNat 109),(UInt8.ofNat 112)] y0.fst) fun y4 => cnd (ieq y4.snd 0) (af (rP y4.fst [(UInt8.ofNat 116),(UInt8.ofNat 109),(UInt8.ofNat 112)]) fun y5 => cnd (ieq y5.snd 0) (af (dV (wr .i64 (aj y1.fst.gen 1))) fun y6 => af (qH y5.fst [(UInt8.ofNat 116),(UInt8.ofNat 109),(UInt8.ofNat 112)] y6) fun y7 => cnd (ieq y7.snd 0) (af (jw y7.fst (dw.mk (wr .i64 (aj y1.fst.gen 1)) x1.lsn)) fun y8 => af (bD (fun v => bH (len y8.fst.files) y8.fst.files (wr .i64 (aj y1.fst.gen 1)) v.fst v.snd) LF (0,dJ.mk y8.fst y8.snd)) fun y9 => cnd (ay (ieq y9.e 0)) (some (y9.d,0,y9.e)) (some (y9.d,wr .i64 (aj y1.fst.gen 1),0))) (af (bD (fun v => bH (len y7.fst.files) y7.fst.files (wr .i64 (aj y1.fst.gen 1)) v.fst v.snd) LF (0,dJ.mk y7.fst y7.snd)) fun y10 => cnd (ay (ieq y10.e 0)) (some (y10.d,0,y10.e)) (some (y10.d,wr .i64 (aj y1.fst.gen 1),0)))) (cnd (ieq y5.snd 0) (af (jw y5.fst (dw.mk (wr .i64 (aj y1.fst.gen 1)) x1.lsn)) fun y11 => af (bD (fun v => bH (len y11.fst.files) y11.fst.files (wr .i64 (aj y1.fst.gen 1)) v.fst v.snd) LF (0,dJ.mk y11.fst y11.snd)) fun y12 => cnd (ay (ieq y12.e 0)) (some (y12.d,0,y12.e)) (some (y12.d,wr .i64 (aj y1.fst.gen 1),0))) (af (bD (fun v => bH (len y5.fst.files) y5.fst.files (wr .i64 (aj y1.fst.gen 1)) v.fst v.snd) LF (0,dJ.mk y5.fst y5.snd)) fun y13 => cnd (ay (ieq y13.e 0)) (some (y13.d,0,y13.e)) (some (y13.d,wr .i64 (aj y1.fst.gen 1),0))))) (cnd (ieq y4.snd 0) (af (dV (wr .i64 (aj y1.fst.gen 1))) fun y14 => af (qH y4.fst [(UInt8.ofNat 116),(UInt8.ofNat 109),(UInt8.ofNat 112)] y14) fun y15 => cnd (ieq y15.snd 0) (af (jw y15.fst (dw.mk (wr .i64 (aj y1.fst.gen 1)) x1.lsn)) fun y16 => af (bD (fun v => bH (len y16.fst.files) y16.fst.files (wr .i64 (aj y1.fst.gen 1)) v.fst v.snd) LF (0,dJ.mk y16.fst y16.snd)) fun y17 => cnd (ay (ieq y17.e 0)) (some (y17.d,0,y17.e)) (some (y17.d,wr .i64 (aj y1.fst.gen 1),0))) (af (bD (fun v => bH (len y15.fst.files) y15.fst.files (wr .i64 (aj y1.fst.gen 1)) v.fst v.snd) LF (0,dJ.mk y15.fst y15.snd)) fun y18 => cnd (ay (ieq y18.e 0)) (some (y18.d,0,y18.e)) (some (y18.d,wr .i64 (aj y1.fst.gen 1),0)))) (cnd (ieq y4.snd 0) (af (jw y4.fst (dw.mk (wr .i64 (aj y1.fst.gen 1)) x1.lsn)) fun y19 => af (bD (fun v => bH (len y19.fst.files) y19.fst.files (wr .i64 (aj y1.fst.gen 1)) v.fst v.snd) LF (0,dJ.mk y19.fst y19.snd)) fun y20 => cnd (ay (ieq y20.e 0)) (some (y20.d,0,y20.e)) (some (y20.d,wr .i64 (aj y1.fst.gen 1),0))) (af (bD (fun v => bH (len y4.fst.files) y4.fst.files (wr .i64 (aj y1.fst.gen 1)) v.fst v.snd) LF (0,dJ.mk y4.fst y4.snd)) fun y21 => cnd (ay (ieq y21.e 0)) (some (y21.d,0,y21.e)) (some (y21.d,wr .i64 (aj y1.fst.gen 1),0)))))) (cnd (ieq y3.snd 0) (af (rP y3.fst [(UInt8.ofNat 116),(UInt8.ofNat 109),(UInt8.ofNat 112)]) fun y22 => cnd (ieq y22.snd 0) (af (dV (wr .i64 (aj y1.fst.gen 1))) fun y23 => af (qH y22.fst [(UInt8.ofNat 116),(UInt8.ofNat 109),(UInt8.ofNat 112)] y23) fun y24 => cnd (ieq y24.snd 0) (af (jw y24.fst (dw.mk (wr .i64 (aj y1.fst.gen 1)) x1.lsn)) fun y25 => af (bD (fun v => bH (len y25.fst.files) y25.fst.files (wr .i64 (aj y1.fst.gen 1)) v.fst v.snd) LF (0,dJ.mk y25.fst y25.snd)) fun y26 => cnd (ay (ieq y26.e 0)) (some (y26.d,0,y26.e)) (some (y26.d,wr .i64 (aj y1.fst.gen 1),0))) (af (bD (fun v => bH (len y24.fst.files) y24.fst.files (wr .i64 (aj y1.fst.gen 1)) v.fst v.snd) LF (0,dJ.mk y24.fst y24.snd)) fun y27 => cnd (ay (ieq y27.e 0)) (some (y27.d,0,y27.e)) (some (y27.d,wr .i64 (aj y1.fst.gen 1),0)))) (cnd (ieq y22.snd 0) (af (jw y22.fst (dw.mk (wr .i64 (aj y1.fst.gen 1)) x1.lsn)) fun y28 => af (bD (fun v => bH (len y28.fst.files) y28.fst.files (wr .i64 (aj y1.fst.gen 1)) v.fst v.snd) LF (0,dJ.mk y28.fst y28.snd)) fun y29 => cnd (ay (ieq y29.e 0)) (some (y29.d,0,y29.e)) (some (y29.d,wr .i64 (aj y1.fst.gen 1),0))) (af (bD (fun v => bH (len y22.fst.files) y22.fst.files (wr .i64 (aj y1.fst.gen 1)) v.fst v.snd) LF (0,dJ.mk y22.fst y22.snd)) fun y30 => cnd (ay (ieq y30.e 0)) (some (y30.d,0,y30.e)) (some (y30.d,wr .i64 (aj y1.fst.gen 1),0))))) (cnd (ieq y3.snd 0) (af (dV (wr .i64 (aj y1.fst.gen 1))) fun y31 => af (qH y3.fst [(UInt8.ofNat 116),(UInt8.ofNat 109),(UInt8.ofNat 112)] y31) fun y32 => cnd (ieq y32.snd 0) (af (jw y32.fst (dw.mk (wr .i64 (aj y1.fst.gen 1)) x1.lsn)) fun y33 => af (bD (fun v => bH (len y33.fst.files) y33.fst.files (wr .i64 (aj y1.fst.gen 1)) v.fst v.snd) LF (0,dJ.mk y33.fst y33.snd)) fun y34 => cnd (ay (ieq y34.e 0)) (some (y34.d,0,y34.e)) (some (y34.d,wr .i64 (aj y1.fst.gen 1),0))) (af (bD (fun v => bH (len y32.fst.files) y32.fst.files (wr .i64 (aj y1.fst.gen 1)) v.fst v.snd) LF (0,dJ.mk y32.fst y32.snd)) fun y35 => cnd (ay (ieq y35.e 0)) (some (y35.d,0,y35.e)) (some (y35.d,wr .i64 (aj y1.fst.gen 1),0)))) (cnd (ieq y3.snd 0) (af (jw y3.fst (dw.mk (wr .i64 (aj y1.fst.gen 1)) x1.lsn)) fun y36 => af (bD (fun v => bH (len y36.fst.files) y36.fst.files (wr .i64 (aj y1.fst.gen 1)) v.fst v.snd) LF (0,dJ.mk y36.fst y36.snd)) fun y37 => cnd (ay (ieq y37.e 0)) (some (y37.d,0,y37.e)) (some (y37.d,wr .i64 (aj y1.fst.gen 1),0))) (af (bD (fun v => bH (len y3.fst.files) y3.fst.files (wr .i64 (aj y1.fst.gen 1)) v.fst v.snd) LF (0,dJ.mk y3.fst y3.snd)) fun y38 => cnd (ay (ieq y38.e 0)) (some (y38.d,0,y38.e)) (some (y38.d,wr .i64 (aj y1.fst.gen 1),0))))))) (af (qG x0 [(UInt8.ofNat 116),(UInt8.ofNat 109),(UInt8.ofNat 112)] y0.fst) fun y39 => cnd (ieq y39.snd 0) (af (rP y39.fst [(UInt8.ofNat 116),(UInt8.ofNat 109),(UInt8.ofNat 112)]) fun y40 => cnd (ieq y40.snd 0) (af (dV (wr .i64 (aj y1.fst.gen 1))) fun y41 => af (qH y40.fst [(UInt8.ofNat 116),(UInt8.ofNat 109),(UInt8.ofNat 112)] y41) fun y42 => cnd (ieq y42.snd 0) (af (jw y42.fst (dw.mk (wr .i64 (aj y1.fst.gen 1)) x1.lsn)) fun y43 => af (bD (fun v => bH (len y43.fst.files) y43.fst.files (wr .i64 (aj y1.fst.gen 1)) v.fst v.snd) LF (0,dJ.mk y43.fst y43.snd)) fun y44 => cnd (ay (ieq y44.e 0)) (some (y44.d,0,y44.e)) (some (y44.d,wr .i64 (aj y1.fst.gen 1),0))) (af (bD (fun v => bH (len y42.fst.files) y42.fst.files (wr .i64 (aj y1.fst.gen 1)) v.fst v.snd) LF (0,dJ.mk y42.fst y42.snd)) fun y45 => cnd (ay (ieq y45.e 0)) (some (y45.d,0,y45.e)) (some (y45.d,wr .i64 (aj y1.fst.gen 1),0)))) (cnd (ieq y40.snd 0) (af (jw y40.fst (dw.mk (wr .i64 (aj y1.fst.gen 1)) x1.lsn)) fun y46 => af (bD (fun v => bH (len y46.fst.files) y46.fst.files (wr .i64 (aj y1.fst.gen 1)) v.fst v.snd) LF (0,dJ.mk y46.fst y46.snd)) fun y47 => cnd (ay (ieq y47.e 0)) (some (y47.d,0,y47.e)) (some (y47.d,wr .i64 (aj y1.fst.gen 1),0))) (af (bD (fun v => bH (len y40.fst.files) y40.fst.files (wr .i64 (aj y1.fst.gen 1)) v.fst v.snd) LF (0,dJ.mk y40.fst y40.snd)) fun y48 => cnd (ay (ieq y48.e 0)) (some (y48.d,0,y48.e)) (some (y48.d,wr .i64 (aj y1.fst.gen 1),0))))) (cnd (ieq y39.snd 0) (af (dV (wr .i64 (aj y1.fst.gen 1))) fun y49 => af (qH y39.fst [(UInt8.ofNat 116),(UInt8.ofNat 109),(UInt8.ofNat 112)] y49) fun y50 => cnd (ieq y50.snd 0) (af (jw y50.fst (dw.mk (wr .i64 (aj y1.fst.gen 1)) x1.lsn)) fun y51 => af (bD (fun v => bH (len y51.fst.files) y51.fst.files (wr .i64 (aj y1.fst.gen 1)) v.fst v.snd) LF (0,dJ.mk y51.fst y51.snd)) fun y52 => cnd (ay (ieq y52.e 0)) (some (y52.d,0,y52.e)) (some (y52.d,wr .i64 (aj y1.fst.gen 1),0))) (af (bD (fun v => bH (len y50.fst.files) y50.fst.files (wr .i64 (aj y1.fst.gen 1)) v.fst v.snd) LF (0,dJ.mk y50.fst y50.snd)) fun y53 => cnd (ay (ieq y53.e 0)) (some (y53.d,0,y53.e)) (some (y53.d,wr .i64 (aj y1.fst.gen 1),0)))) (cnd (ieq y39.snd 0) (af (jw y39.fst (dw.mk (wr .i64 (aj y1.fst.gen 1)) x1.lsn)) fun y54 => af (bD (fun v => bH (len y54.fst.files) y54.fst.files (wr .i64 (aj y1.fst.gen 1)) v.fst v.snd) LF (0,dJ.mk y54.fst y54.snd)) fun y55 => cnd (ay (ieq y55.e 0)) (some (y55.d,0,y55.e)) (some (y55.d,wr .i64 (aj y1.fst.gen 1),0))) (af (bD (fun v => bH (len y39.fst.files) y39.fst.files (wr .i64 (aj y1.fst.gen 1)) v.fst v.snd) LF (0,dJ.mk y39.fst y39.snd)) fun y56 => cnd (ay (ieq y56.e 0)) (some (y56.d,0,y56.e)) (some (y56.d,wr .i64 (aj y1.fst.gen 1),0))))))))))
theorem abA:uF=Jq:=by
 funext a0 a1
 unfold uF Jq
 simp only[En,Lu,QL,QK,Ub,aa0,abk,U0]
def Jw:Option (Bool):=af (Wh 1 1 (dL.mk 9 9 99) 99) fun y0 => af (Ya y0.fst (yC.mk 1 5 0 0 2 3 2 0 0 0 false 0 0)) fun y1 => af (Jo (au.mk [] 999 (-1) false)) fun y2 => af (Jq (au.mk [] 999 (-1) false) y0.fst) fun y3 => af (Jq y3.fst y1.fst) fun y4 => af (Jo y4.fst) fun y5 => af (cnd (band (band (band (band (band (band (ieq y2.snd.snd 7) (ieq y3.snd.snd 0)) (ieq y4.snd.snd 0)) (ieq y5.snd.snd 0)) (ieq y3.snd.fst 1)) (ieq y4.snd.fst 2)) (ieq y5.snd.fst 2)) (iH y1.fst y5.fst) (some false)) fun y6 => af (cnd (band (band (band (band (band (band (band (band (band (ieq y2.snd.snd 7) (ieq y3.snd.snd 0)) (ieq y4.snd.snd 0)) (ieq y5.snd.snd 0)) (ieq y3.snd.fst 1)) (ieq y4.snd.fst 2)) (ieq y5.snd.fst 2)) y6) (ieq (len y5.fst.orders) 1)) (ieq (len y4.fst.files) 3)) (dV 7) (some [])) fun y7 => some (band (band (band (band (band (band (band (band (band (band (ieq y2.snd.snd 7) (ieq y3.snd.snd 0)) (ieq y4.snd.snd 0)) (ieq y5.snd.snd 0)) (ieq y3.snd.fst 1)) (ieq y4.snd.fst 2)) (ieq y5.snd.fst 2)) y6) (ieq (len y5.fst.orders) 1)) (ieq (len y4.fst.files) 3)) (seq y7 [(UInt8.ofNat 115),(UInt8.ofNat 110),(UInt8.ofNat 97),(UInt8.ofNat 112),(UInt8.ofNat 46),(UInt8.ofNat 48),(UInt8.ofNat 48),(UInt8.ofNat 48),(UInt8.ofNat 48),(UInt8.ofNat 48),(UInt8.ofNat 48),(UInt8.ofNat 48),(UInt8.ofNat 48),(UInt8.ofNat 48),(UInt8.ofNat 55)]))
theorem Ry:pF=Jw:=by
 unfold pF Jw
 simp only[af2,abl,abA]
theorem asZ:pF=some true:=by rw[Ry];kernel_rfl
theorem asG {d:au} (h:acj d):wR d:=fun f hf=>aqt (h.files.1 f hf).data
theorem apv {d:au} (h:acj d) (hs:d.files.length<=70/\∀f∈d.files,f.name.length<=100/\f.data.length<=70000):KR d:=
 ⟨fun f hf=>by have:=(hs.2 f hf).1;omega,h.fuse⟩
theorem amj {d:au} (hb:wR d):BU (ah4 d).1:=by
 unfold ah4
 split
 ·exact akC
 ·unfold aik
  split
  ·rename_i h
   obtain⟨h1,h2,h3,h4⟩:=asM h.1
   simp only
   rw[h4]
   exact afC (abt hb _) h1
  ·exact akC
theorem aqw {d:au} {s:ax} (h:d.files.length<=70):(aiI d s).1.files.length<=70:=by
 unfold aiI
 split
 ·exact h
 ·split
  ·exact h
  ·split
   ·exact h
   ·rename_i h1 h2 h3
    obtain⟨hd,hw⟩:=XT (fun g=>h1 (.inr g)) h2
    have hk:=agN (gen:=(fV d).1.gen+1) (ads d ((fV d).1.gen+1) s.lsn (encZ s)).1.files (ame (gen:=(fV d).1.gen+1) (lsn:=s.lsn) (b:=encZ s) hd)
    have:=hk.right.fl
    unfold aa7
    split<;>simp only<;>omega
theorem al0 {g:Int} (a:ax×Int×Int) (hs:BU a.1):Wq (cnd (band (ile 1 g) (ile g 1000000000)) (af (je g) fun y8 => af (cnd (band (ieq a.snd.snd a.snd.snd) (ieq a.snd.fst a.snd.fst)) (iH a.fst a.fst) (some false)) fun y9 => af (cnd (band (band (ieq a.snd.snd a.snd.snd) (ieq a.snd.fst a.snd.fst)) y9) (dV g) (some [])) fun y10 => some (band (band (band (ieq a.snd.snd a.snd.snd) (ieq a.snd.fst a.snd.fst)) y9) (seq y10 y8))) (af (cnd (band (ieq a.snd.snd a.snd.snd) (ieq a.snd.fst a.snd.fst)) (iH a.fst a.fst) (some false)) fun y11 => af (cnd (band (band (ieq a.snd.snd a.snd.snd) (ieq a.snd.fst a.snd.fst)) y11) (dV g) (some [])) fun y12 => some (band (band (band (ieq a.snd.snd a.snd.snd) (ieq a.snd.fst a.snd.fst)) y11) (seq y12 [])))) fun x=>x=true:=by
 simp only[agZ,Bz,bK,apw hs,ak,Jt]
 rw[gq]
 refine⟨fun h=> ?_,fun h=> ?_⟩
 ·simp only[aQ,bg,bM,bZ,aT,aU,bV,cu,bJ,dh,aZ,bC,cZ,dm]at h
  rw[VQ ⟨h.1,h.2⟩,ak,ah,ZP]
 ·simp only[aQ,bg,bM,bZ,aT,aU,bV,cu,bJ,dh,aZ,bC,cZ,dm]at h
  rw[ah,ZP,aiP (by unfold C9;omega)]
theorem aeB (x0:au) (x1:ax) (x2:Int) (k0:acj x0) (k1:yK x1) (k2:inI x2):qL x0 x1 x2=some true:=by
 refine Wq.eq ?_
 unfold qL
 rw[asZ,ak,dD,bW]
 refine(aoZ x0 k0.files).bind fun y1 h1=> ?_
 refine Wq.bind (Q:=fun b=>(y1=true->b=true->BU x1)) ?_ fun y2 h2=> ?_
 ·rw[gq]
  exact⟨fun _=>(as4 x1).mono fun b hb _=>hb,fun h=>(ah _).2 fun _ h=>by cases h⟩
 rw[gq]
 refine⟨fun _=>(ah _).2 rfl,fun h=> ?_⟩
 simp only[aQ,bg,bM,bZ,aT,aU,bV,cu,bJ,dh,aZ,bC,cZ,dm]at h
 have hd:=h1 h.1
 have hs:=h2 h.1 h.2
 have hbnd:=apv k0 hd
 have hby:=asG k0
 have hlen:=aqw (s:=x1) hd.1
 rw[aiY hbnd hby k1 hs,ak,ajI hbnd hby k1 hs,ak,agZ,agZ,dD,iM,dA,bK,apO _ (by omega),ak,dD,iM,bW]
 simp only[ai9 hbnd hby,aja hbnd hby,ak]
 exact al0 _ (amj hby)
end Go.Av
