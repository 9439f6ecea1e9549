/- The evaluator is right: loops; arguments are read as data. No condition. -/
import Derived.Test.YtcodkbclgbcehaaGreatDoorAvC
import Derived.Test.YtcodkbclgbcehaaGreatDoorAvA
import GoSem.ClaimChange
import Derived.DataReads
import Derived.ChangeOld
import Derived.Below
import Derived.Carry
import Derived.Shelf.Bodies2
import Derived.Shelf.RegionOpenPlain
import Derived.Shelf.Spec.SlicesInsertGrow
import Derived.Lib.Overlaps
import Derived.Shelf.Small.Strs
import Derived.Shelf.Strconv.Itoa4
import Derived.Shelf.Strings.Repeat
import Derived.Lib.ParseIntB
set_option linter.unusedVariables false
set_option linter.unusedSimpArgs false
set_option linter.unnecessarySimpa false
namespace Go.Av
open Go Go.RowKit
theorem abg {α β:Type}:∀(l:List (α×β)),bW l=l.map (·.1)
 |[]=>rfl
 |(a,b)::r=>by rw[bW,abg r];rfl
theorem afH {α β:Type}:∀(l:List (α×β)),Xn l=l.map (·.2)
 |[]=>rfl
 |(a,b)::r=>by rw[Xn,afH r];rfl
theorem WY:∀(a b:List Dt) (k:Nat),jo k (a++b)=jo k a++jo (k+a.length) b
 |[],b,k=>by simp [jo]
 |d::a,b,k=>by
  rw[axa,jo,WY a b (k+1),jo,axa]
  congr 2
  simp only[awF]
  congr 1;omega
theorem TG.split {hp:Nat->Option Ent}:∀ {fl:List Dt} {xs ys:List AV},TG hp fl (xs++ys)->∃f1 f2,fl=f1++f2/\TG hp f1 xs/\TG hp f2 ys
 |fl,[],ys,h=>⟨[],fl,rfl,trivial,h⟩
 |[],x::xs,ys,h=>h.elim
 |d::fl,x::xs,ys,h=>by
  obtain⟨f1,f2,h1,h2,h3⟩:=TG.split (fl:=fl) (xs:=xs) (ys:=ys) h.2
  exact⟨d::f1,f2,by rw[h1];rfl,⟨h.1,h2⟩,h3⟩
theorem alr (rest:List (Nat×AV)) (t:Nat):∀(ks:List Nat) (vs:List AV),ks.length=vs.length->
 (∃(j:Nat) (a:AV),ks[j]? =some t/\vs[j]? =some a/\get (aa9 ks vs++rest) t=a)\/(t∉ks/\get (aa9 ks vs++rest) t=get rest t)
 |[],[],_=> .inr ⟨by simp,rfl⟩
 |[],_::_,h=>by cases h
 |_::_,[],h=>by cases h
 |k::ks,v::vs,h=>by
  rw[aa9,axa,ad2]
  by_cases e:t=k
  ·subst e
   exact .inl ⟨0,v,rfl,rfl,by rw[awh rfl]⟩
  ·rw[awg e]
   rcases alr rest t ks vs (by simpa using h)with ⟨j,a,h1,h2,h3⟩ | ⟨h1,h2⟩
   ·exact .inl ⟨j+1,a,by simpa using h1,by simpa using h2,h3⟩
   ·exact .inr ⟨by simp [e,h1],h2⟩
theorem UE (fr:List (Nat×AV)):∀(ks:List Nat),(getAll fr ks).length=ks.length
 |[]=>rfl
 |k::ks=>by rw[getAll,awF,awF,UE fr ks]
theorem afW (fr:List (Nat×AV)):∀(ks:List Nat) (j t:Nat),ks[j]? =some t->(getAll fr ks)[j]? =some (get fr t)
 |[],j,t,h=>by simp at h
 |k::ks,0,t,h=>by simp at h;subst h;rfl
 |k::ks,j+1,t,h=>by rw[getAll,ayL];exact afW fr ks j t (by simpa using h)
def abo (hp:Nat->Option Ent) (fz:Bool) (k:Nat) (fl:List Dt) (bs:List AV) (id:Nat) (e':Option Ent):Prop:=
 ∃z cs cs',hp id=some ⟨z,.raw cs⟩/\e'=some ⟨fz,.raw cs'⟩/\cs.length=cs'.length/\
  ((∀q,q<cs.length->∃(j:Nat) (d:Dt) (a:AV),fl[j]? =some d/\bs[j]? =some a/\cs[q]? =some a/\cs'[q]? =some (encS (k+j) d.1 d.2))\/∃(j:Nat) (e:E) (x:den e),fl[j]? =some (⟨.val e,x⟩:Dt)/\bs[j]? =some (AV.agg cs)/\cs'=cells e x)
theorem aaY {h:Nat->Option Ent}:∀ {l:List (Nat×List Sh)},ZJ h l=true->Xc h l=true/\∀i∈bW l,∃cs,h i=some ⟨false,.raw cs⟩
 |[],_=>⟨rfl,fun i hi=>by cases hi⟩
 |(i,s)::r,hw=>by
  simp only[ZJ,awp]at hw
  obtain⟨h1,h2⟩:=hw
  obtain⟨g1,g2⟩:=aaY h2
  cases hi:h i with
  |none=>simp [hi]at h1
  |some e=>
   obtain⟨z,b⟩:=e
   cases b with
   |arr=>cases z<;>simp [hi]at h1
   |raw cs=>
    cases z with
    |true=>simp [hi]at h1
    |false=>
     refine⟨by simp only[Xc,hi,g1,Bool.and_true];simpa [hi] using h1,fun j hj=> ?_⟩
     rcases aww.1 (show j∈i::bW r from hj)with rfl | hj
     ·exact⟨cs,hi⟩
     ·exact g2 j hj
theorem as8 {k:Nat} {d:Dt} (h:∀e,d.1≠ .val e) (xs:List AV):encS k d.1 d.2≠ .agg xs:=by
 obtain⟨s,x⟩:=d;cases s with
 |val e=>exact absurd rfl (h e)
 |_=>intro h;cases h
theorem arN {k:Nat} {f1:List Dt} {e:E} (h:f1.map (·.1)=[.val e]):∃x:den e,f1=[⟨.val e,x⟩]:=by
 cases f1 with
 |nil=>cases h
 |cons d f=>
  cases f with
  |cons d2 f=>simp at h
  |nil=>
   obtain⟨s,x⟩:=d;simp only[awS,axQ,ax2,awy]at h;subst h;exact⟨x,rfl⟩
theorem asT {k:Nat}:∀ {f1:List Dt},(∀e,f1.map (·.1)≠[.val e])->amc (jo k f1)=jo k f1
 |[],_=>rfl
 |[d],h=>by
  have hd:∀e,d.1≠ .val e:=fun e he=>h e (by simp [he])
  show amc [encS k d.1 d.2]=[encS k d.1 d.2]
  unfold amc
  split
  ·rename_i xs hx
   simp only[ax2,awy]at hx
   exact absurd hx (as8 hd xs)
  ·rfl
 |d::d2::f,_=>by
  simp only[jo]
  unfold amc
  split
  ·rename_i h;simp at h
  ·rfl
theorem aqS {s:List Sh} {cs:List AV} (h:cs.length=szS s) (hne:∀e,s≠[.val e]):cellP s cs=cs/\cs.length=s.length:=by
 unfold szS at h;unfold cellP;split at h
 ·rename_i e;exact absurd rfl (hne e)
 ·simp [h]
theorem aqV {hp:Nat->Option Ent} {fz z:Bool} {i k:Nat} {s:List Sh} {cs more:List AV} {f1 f2:List Dt} (hi:hp i=some ⟨z,.raw cs⟩) (hcl:cs.length=szS s) (hs1:f1.map (·.1)=s):
 abo hp fz k (f1++f2) (cellP s cs++more) i (some ⟨fz,.raw (amc (jo k f1))⟩):=by
 refine⟨z,cs,_,hi,rfl,?_⟩
 by_cases hv:∃e,s=[.val e]
 ·obtain⟨e,rfl⟩:=hv
  obtain⟨x,rfl⟩:=arN (k:=k) hs1
  exact⟨hcl.trans (xQ e x).symm,.inr ⟨0,e,x,rfl,rfl,rfl⟩⟩
 ·have hne:∀e,s≠[.val e]:=fun e h=>hv ⟨e,h⟩
  obtain⟨hp1,hl⟩:=aqS hcl hne
  rw[asT (k:=k) (f1:=f1) (by rw[hs1];exact hne),hp1]
  have hf:f1.length=s.length:=by rw[<-hs1,axC]
  refine⟨by rw[tY,hl,hf],.inl fun q hq=> ?_⟩
  have hqf:q<f1.length:=by omega
  obtain⟨d,hd⟩:=wK hqf
  obtain⟨a,ha⟩:=wK hq
  refine⟨q,d,a,?_,?_,ha,SE f1 k q d hd⟩
  ·rw[ayw hqf];exact hd
  ·rw[ayw hq];exact ha
theorem akx {hp:Nat->Option Ent} {fz:Bool} {k m:Nat} {f1 f2:List Dt} {p bs:List AV} (h1:f1.length=m) (h2:p.length=m) {id:Nat} {e':Option Ent} (h:abo hp fz (k+m) f2 bs id e'):abo hp fz k (f1++f2) (p++bs) id e':=by
 obtain⟨z',cs1,cs1',q1,q2,q3,q4⟩:=h;refine⟨z',cs1,cs1',q1,q2,q3,?_⟩;have hj1:∀j,(f1++f2)[m+j]? =f2[j]? :=fun j=>by
  rw[ayx (by omega),h1,ayu]
 have hj2:∀j,(p++bs)[m+j]? =bs[j]? :=fun j=>by
  rw[ayx (by omega),h2,ayu]
 rcases q4 with q4 | ⟨j,e,x,q5,q6,q7⟩
 ·refine .inl fun q hq=> ?_;obtain⟨j,d,a,q5,q6,q7,q8⟩:=q4 q hq;refine⟨m+j,d,a,by rw[hj1];exact q5,by rw[hj2];exact q6,q7,?_⟩;rw[<-axz];exact q8
 ·exact .inr ⟨m+j,e,x,by rw[hj1];exact q5,by rw[hj2];exact q6,q7⟩
theorem amZ {hp:Nat->Option Ent} (fz:Bool):∀(oh:List (Nat×List Sh)) (k:Nat) (fl:List Dt) (more:List AV) (tail:List Sh),Xc hp oh=true->TG hp fl (CW hp oh++more)->fl.map (·.1)=cat (Xn oh)++tail->
 (∀id e',look (qg fz (split oh (jo k fl)).1) id=some e'->id∈bW oh/\abo hp fz k fl (CW hp oh++more) id e')/\
 (∀id,id∈bW oh->∃e',look (qg fz (split oh (jo k fl)).1) id=some e')/\
 ∃n f2,(split oh (jo k fl)).2=jo (k+n) f2/\(CW hp oh).length=n/\(∀j,fl[n+j]? =f2[j]?)/\TG hp f2 more/\f2.map (·.1)=tail
 |[],k,fl,more,tail,hR,hD,hs=>⟨fun id e' h=>(by cases h),fun id h=>(by cases h),0,fl,rfl,rfl,fun j=>(by rw[axc]),hD,hs⟩
 |(i,s)::r,k,fl,more,tail,hR,hD,hs=>by
  simp only[Xc,awp]at hR
  obtain⟨h1,h2⟩:=hR
  cases hi:hp i with
  |none=>simp [hi]at h1
  |some e0=>
   obtain⟨z,b⟩:=e0
   cases b with
   |arr=>simp [hi]at h1
   |raw cs=>
    simp only[hi]at h1
    have hcl:=aws h1
    obtain⟨part,hpart⟩:∃part,part=cellP s cs:=⟨_,rfl⟩
    have hcells:CW hp ((i,s)::r)=part++CW hp r:=by
     rw[hpart];simp only[CW,hi]
    have hpl:part.length=s.length:=by
     rw[hpart]
     unfold cellP
     unfold szS at hcl
     split
     ·rfl
     ·rename_i hne
      have:cs.length=s.length:=by
       split at hcl
       ·rename_i e;exact absurd rfl (hne e)
       ·exact hcl
      simp [this]
    rw[hcells,awT]at hD
    obtain⟨f1,f2,rfl,hD1,hD2⟩:=TG.split hD
    have hf1:f1.length=s.length:=by rw[hD1.len,hpl]
    have hs1:f1.map (·.1)=s/\f2.map (·.1)=cat (Xn r)++tail:=by
     rw[List.map_append]at hs
     have:cat (Xn ((i,s)::r))++tail=s++(cat (Xn r)++tail):=by
      rw[Xn,cat,awT]
     rw[this]at hs
     exact List.append_inj hs (by rw[axC,hf1])
    obtain⟨g1,g2,n,f3,g3,g4,g5,g6,g7⟩:=amZ fz r (k+s.length) f2 more tail h2 hD2 hs1.2
    have hen:jo k (f1++f2)=jo k f1++jo (k+s.length) f2:=by rw[WY,hf1]
    have htake:(jo k (f1++f2)).take s.length=jo k f1:=by
     rw[hen,ayg (by rw[tY,hf1];exact awk _),aw5 (by rw[tY,hf1];exact awk _)]
    have hdrop:(jo k (f1++f2)).drop s.length=jo (k+s.length) f2:=by
     rw[hen,ax4 (by rw[tY,hf1];exact awk _),List.drop_of_length_le (by rw[tY,hf1];exact awk _),aw1]
    have hsp:split ((i,s)::r) (jo k (f1++f2))=((i,jo k f1)::(split r (jo (k+s.length) f2)).1,(split r (jo (k+s.length) f2)).2):=by
     rw[split,htake,hdrop]
    rw[hsp,hcells,awT]
    have here:abo hp fz k (f1++f2) (part++(CW hp r++more)) i (some ⟨fz,.raw (amc (jo k f1))⟩):=by
     rw[hpart];exact aqV hi hcl hs1.1
    have lift:∀id e',abo hp fz (k+s.length) f2 (CW hp r++more) id e'->abo hp fz k (f1++f2) (part++(CW hp r++more)) id e':=fun id e' h=>akx hf1 hpl h
    refine⟨fun id e' hl=> ?_,fun id hid=> ?_,s.length+n,f3,?_,?_,fun j=> ?_,g6,g7⟩
    ·simp only[qg,look]at hl
     cases hb:Nat.beq i id with
     |true=>
      have:=aws hb
      subst this
      simp only[hb,cond_true,awj]at hl
      subst hl
      exact⟨by simp [bW],here⟩
     |false=>
      simp only[hb,cond_false]at hl
      obtain⟨q1,q2⟩:=g1 id e' hl
      exact⟨by simp [bW,q1],lift id e' q2⟩
    ·simp only[qg,look]
     cases hb:Nat.beq i id with
     |true=>exact⟨_,rfl⟩
     |false=>
      rcases aww.1 (show id∈i::bW r from hid)with rfl | hid
      ·simp at hb
      ·exact g2 id hid
    ·simp only;rw[g3,axz]
    ·rw[awn,hpl,g4]
    ·rw[axz,ayx (by rw[hf1];omega),hf1,ayu]
     exact g5 j
theorem anL {hp:Nat->Option Ent}:∀(ob:List (Nat×E)) (k:Nat) (fl:List Dt),TG hp fl (ZR hp ob)->fl.map (·.1)=aa5 ob->
 (∀id e',look (uX ob (jo k fl)) id=some e'->id∈bW ob/\∃e l,hp id=some ⟨false,.arr e l⟩/\e'=some ⟨false,.arr e l⟩)/\(∀id,id∈bW ob->∃e',look (uX ob (jo k fl)) id=some e')
 |[],k,fl,_,_=>by
  have:∀xs,uX [] xs=[]:=fun xs=>by cases xs<;>rfl
  rw[this]
  exact⟨fun id e' h=>(by cases h),fun id h=>(by cases h)⟩
 |(i,e)::r,k,[],hD,_=>hD.elim
 |(i,e)::r,k,⟨s,x⟩::fl,hD,hs=>by
  simp only[awS,aa5,ax2]at hs
  obtain⟨rfl,hs⟩:=hs
  obtain⟨hd,hD⟩:=hD
  obtain⟨g1,g2⟩:=anL r (k+1) fl hD hs
  have hblk:∃l,hp i=some ⟨false,.arr e l⟩/\x=l:=by
   simp only at hd
   cases hi:hp i with
   |none=>simp [hi,jb]at hd
   |some e0=>
    obtain⟨z,b⟩:=e0
    cases b with
    |raw cs=>cases z<;>simp [hi,jb]at hd
    |arr e1 l=>
     cases z with
     |true=>simp [hi,jb]at hd
     |false=>
      simp only[hi,jb]at hd
      split at hd
      ·rename_i h;subst h
       simp only[awj]at hd
       exact⟨l,rfl,hd.symm⟩
      ·cases hd
  obtain⟨l,h1,rfl⟩:=hblk
  have hao:uX ((i,e)::r) (jo k (⟨.ro e,x⟩::fl))=(i,some ⟨false,.arr e x⟩)::uX r (jo (k+1) fl):=rfl
  rw[hao]
  refine⟨fun id e' hl=> ?_,fun id hid=> ?_⟩
  ·simp only[look]at hl
   cases hb:Nat.beq i id with
   |true=>
    have:=aws hb
    subst this
    simp only[hb,cond_true,awj]at hl
    exact⟨by simp [bW],e,x,h1,hl.symm⟩
   |false=>
    simp only[hb,cond_false]at hl
    obtain⟨q1,q2⟩:=g1 id e' hl
    exact⟨by simp [bW,q1],q2⟩
  ·simp only[look]
   cases hb:Nat.beq i id with
   |true=>exact⟨_,rfl⟩
   |false=>
    rcases aww.1 (show id∈i::bW r from hid)with rfl | hid
    ·simp at hb
    ·exact g2 id hid
def Tt (hp hp':Nat->Option Ent) (ids:List Nat):Prop:=∀id,hp' id=if id∈ids then (hp id).map (fun e=>⟨true,e.b⟩)else hp id
theorem Tt.some {hp hp':Nat->Option Ent} {ids:List Nat} (h:Tt hp hp' ids) {id:Nat} {e:Ent} (he:hp id=some e):∃z,hp' id=some ⟨z,e.b⟩/\(id∉ids->z=e.fz)/\(id∈ids->z=true):=by
 rw[h id];by_cases hi:id∈ids
 ·rw[awh hi,he];exact⟨true,rfl,fun h=>absurd hi h,fun _=>rfl⟩
 ·rw[awg hi,he];exact⟨e.fz,rfl,fun _=>rfl,fun h=>absurd h hi⟩
theorem Tt.none {hp hp':Nat->Option Ent} {ids:List Nat} (h:Tt hp hp' ids) {id:Nat} (he:hp id=none):hp' id=none:=by
 rw[h id,he];split<;>rfl
theorem Ny {hp hp':Nat->Option Ent} {ids:List Nat} (h:Tt hp hp' ids) (a:AV):D7 hp' a=D7 hp a:=by
 cases a with
 |mf id=>
  cases he:hp id with
  |none=>simp [D7,he,h.none he]
  |some e=>
   obtain⟨z,h1,_⟩:=h.some he;obtain⟨f,b⟩:=e;cases b<;>simp [D7,he,h1]
 |ms id off n=>
  cases he:hp id with
  |none=>simp [D7,he,h.none he]
  |some e=>
   obtain⟨z,h1,_⟩:=h.some he;obtain⟨f,b⟩:=e;cases b<;>simp [D7,he,h1]
 |_=>rfl
theorem acX {hp hp':Nat->Option Ent} {ids:List Nat} (h:Tt hp hp' ids):∀(l:List AV),jG hp' l=jG hp l
 |[]=>rfl
 |a::r=>by rw[jG,jG,Ny h,acX h r]
theorem aq2 {hp hp':Nat->Option Ent} {ids:List Nat} (h:Tt hp hp' ids) (s:Sh) (a:AV):TL hp' s a=TL hp s a:=by
 cases s with
 |ro e=>simp only[TL,Ny h]
 |val e=>cases a<;>simp only[TL,acX h]
 |_=>rfl
theorem ars {hp hp':Nat->Option Ent} {ids:List Nat} (h:Tt hp hp' ids) {s:Sh} {a:AV} {x:s.T} (hd:jb hp s a=some x) (ho:∀id∈jX s a,id∉ids):jb hp' s a=some x:=by
 cases s with
 |int i=>cases a<;>first | exact hd | (simp [jb]at hd;done)
 |bool=>cases a<;>first | exact hd | (simp [jb]at hd;done)
 |str=>cases a<;>first | exact hd | (simp [jb]at hd;done)
 |rf i=>cases a<;>first | exact hd | (simp [jb]at hd;done)
 |fnv f=>
  cases a with
  |fn g cs=>cases cs<;>exact hd
  |_=>simp [jb]at hd
 |ro e=>
  cases a with
  |nils=>exact hd
  |ro e' l ex=>exact hd
  |mf id=>
   simp only[jb]at hd ⊢;cases he:hp id with
   |none=>simp [he]at hd
   |some e0=>
    obtain⟨z,h1,_⟩:=h.some he;obtain⟨f,b⟩:=e0;rw[he]at hd;rw[h1];cases b<;>exact hd
  |ms id off n=>
   simp only[jb]at hd ⊢;cases he:hp id with
   |none=>simp [he]at hd
   |some e0=>
    obtain⟨z,h1,_⟩:=h.some he;obtain⟨f,b⟩:=e0;rw[he]at hd;rw[h1];cases b<;>exact hd
  |_=>simp [jb]at hd
 |val e=>
  cases a with
  |agg cs=>simp only[jb,acX h]at hd ⊢; exact hd
  |_=>simp [jb]at hd
 |buf e=>
  cases a with
  |nils=>exact hd
  |mf id=>
   have hi:id∉ids:=ho id (by simp [jX]);simp only[jb]at hd ⊢;rw[h id,awg hi];exact hd
  |_=>simp [jb]at hd
theorem amd {M N:Mem} {hp:Nat->Option Ent} {ids:List Nat} (hM:lJ M) (hfz:Tt hp M.hp ids) {k:Nat} {d:Dt} {a:AV} {v:Value} (hids:∀j∈TL hp d.1 a,j∈ids) (ho:∀j∈jX d.1 a,j∉ids)
 (hNF:∀b,M.F b->N.F b) (hNH:N.H=M.H) (hb:apz M N k a d) (hs:bT M a v) (hd:jb hp d.1 a=some d.2):bT N (encS k d.1 d.2) v:=
 adZ (hp:=M.hp) (fun _ _ h=>h) (Le.refl M) hM (fun id hid e he=>by
  rw[aq2 hfz]at hid
  have:=hfz id
  rw[awh (hids id hid)]at this
  rw[this]at he ⊢
  cases hh:hp id with
  |none=>simp [hh]at he
  |some e0=>simp only[hh,axX,awj]at he ⊢; subst he;rfl) hNF hNH rfl hb hs (ars hfz hd ho)
theorem aa4 (k:Nat) (d:Dt):nc (encS k d.1 d.2):=by
 obtain⟨s,x⟩:=d;cases s<;>trivial
theorem ab5:∀ {a b:List AV},aag a b=true->a=b
 |[],[],_=>rfl
 |.mp i o::r,.mp j p::q,h=>by
  simp only[aag,awp]at h
  obtain⟨⟨h1,h2⟩,h3⟩:=h
  rw[aws h1,aws h2,ab5 h3]
 |[],_::_,h=>by simp [aag]at h
 |a::_,[],h=>by cases a<;>simp [aag]at h
 |a::r,b::q,h=>by
  revert h
  unfold aag
  split
  ·intro _;rename_i h1 h2;cases h1
  ·rename_i h1 h2
   obtain⟨rfl,rfl⟩:=List.cons.inj h1
   obtain⟨rfl,rfl⟩:=List.cons.inj h2
   intro h
   simp only[awp]at h
   obtain⟨⟨h1,h2⟩,h3⟩:=h
   rw[aws h1,aws h2,ab5 h3]
  ·intro h;cases h
theorem amg {a b:AV} (h:aiS a b=true):a=b/\nc b/\(∀(k:Nat),b≠ .undef):=by
 have nb:∀ {i j:Nat},Nat.beq i j=true->i=j:=fun h=>aws h;unfold aiS at h;split at h<;>(try simp only[awp]at h)
 ·obtain⟨h1,h2⟩:=h;rw[nb h1,nb h2];exact⟨rfl,trivial,fun _ h=>by cases h⟩
 ·rw[nb h];exact⟨rfl,trivial,fun _ h=>by cases h⟩
 ·obtain⟨h1,h2⟩:=h;rw[nb h1,ab5 h2];exact⟨rfl,trivial,fun _ h=>by cases h⟩
 ·exact⟨rfl,trivial,fun _ h=>by cases h⟩
 ·obtain⟨⟨⟨h1,h2⟩,h3⟩,h4⟩:=h;rw[nb h1,nb h2,nb h3,nb h4];exact⟨rfl,trivial,fun _ h=>by cases h⟩
 ·cases h
theorem abI {fr:List (Nat×AV)} (rest:List (Nat×AV)):∀ {pl:List (Nat×AV)},Ll fr pl=true->∀t,(t∈bW pl/\get (pl++rest) t=get fr t/\nc (get fr t))\/(t∉bW pl/\get (pl++rest) t=get rest t)
 |[],_,t=> .inr ⟨by simp [bW],rfl⟩
 |(k,a)::pl,h,t=>by
  simp only[Ll,awp]at h
  obtain⟨h1,h2⟩:=h
  obtain⟨e1,e2,_⟩:=amg h1
  rw[axa,ad2]
  by_cases e:t=k
  ·subst e
   rw[awh rfl]
   exact .inl ⟨by simp [bW],e1.symm,by rw[e1];exact e2⟩
  ·rw[awg e]
   rcases abI rest h2 t with ⟨g1,g2⟩ | ⟨g1,g2⟩
   ·exact .inl ⟨by simp [bW,g1],g2⟩
   ·exact .inr ⟨by simp [bW,e,g1],g2⟩
def LSh.good (s:LSh) (D:List Nat):Bool:=
 (s.vk.all fun h=>match h with | .rf i=>(bW s.vb).any fun j=>Nat.beq i j | _=>true)&&(s.pk.all fun h=>match h with | .rf _=>false | _=>true)&&(s.pk.all fun h=>match h with | .buf _=>false | _=>true)&&PO (bW s.ph++(bW s.vh++bW s.vb))&&(bW s.ph++(bW s.vh++bW s.vb)).all (fun i=>Nat.blt i (8*s.c0))&&
 !inter (bW s.ps++bW s.pl) D
structure agf (hp:Nat->Option Ent) (fr:List (Nat×AV)) (os:List (Nat×Sh)) (oh:List (Nat×List Sh)) (ob:List (Nat×E)) (fl:List Dt) (av:List AV):Prop where
 dec:TG hp fl av
 av:av=getAll fr (bW os)++(CW hp oh++ZR hp ob)
 w:Xc hp oh=true
 sh:fl.map (·.1)=Xn os++(cat (Xn oh)++aa5 ob)
section
variable {hp:Nat->Option Ent} {fr:List (Nat×AV)} {os:List (Nat×Sh)} {oh:List (Nat×List Sh)} {ob:List (Nat×E)} {fl:List Dt} {av:List AV}
theorem agf.slot (R:agf hp fr os oh ob fl av) (k t:Nat) (rest:List (Nat×AV)):
 (∃j d,t∈bW os/\fl[j]? =some d/\av[j]? =some (get fr t)/\get (aa9 (bW os) ((jo k fl).take os.length)++rest) t=encS (k+j) d.1 d.2)\/
 (t∉bW os/\get (aa9 (bW os) ((jo k fl).take os.length)++rest) t=get rest t):=by
 have hl:(bW os).length=os.length:=by rw[abg,axC]
 have hfl:os.length<=fl.length:=by
  have:=axg List.length R.sh
  simp only[axC,awn,afH]at this
  omega
 rcases alr rest t (bW os) ((jo k fl).take os.length) (by rw[hl,awu,tY];omega)with ⟨j,a,h1,h2,h3⟩ | h
 ·have hj:j<os.length:=by rw[<-hl];exact(axF.1 h1).1
  obtain⟨d,hd⟩:=wK (axf hj hfl)
  refine .inl ⟨j,d,axw h1,hd,?_,?_⟩
  ·rw[R.av,ayw (by rw[UE,hl];exact hj)]
   exact afW fr _ _ _ h1
  ·rw[h3]
   have:=SE fl k j d hd
   rw[List.getElem?_take,awh hj,this]at h2
   exact(awr h2).symm
 ·exact .inr h
theorem agf.parts (R:agf hp fr os oh ob fl av) (fz:Bool) (k:Nat):
 (∀id e',look (qg fz (split oh ((jo k fl).drop os.length)).1) id=some e'->id∈bW oh/\abo hp fz k fl av id e')/\
 (∀id,id∈bW oh->∃e',look (qg fz (split oh ((jo k fl).drop os.length)).1) id=some e')/\
 (∀id e',look (uX ob (split oh ((jo k fl).drop os.length)).2) id=some e'->id∈bW ob/\∃e l,hp id=some ⟨false,.arr e l⟩/\e'=some ⟨false,.arr e l⟩)/\
 (∀id,id∈bW ob->∃e',look (uX ob (split oh ((jo k fl).drop os.length)).2) id=some e'):=by
 have hD:=R.dec
 rw[R.av]at hD
 obtain⟨f1,f2,rfl,hD1,hD2⟩:=TG.split hD
 have hf1:f1.length=os.length:=by rw[hD1.len,UE,abg,axC]
 have hs2:f2.map (·.1)=cat (Xn oh)++aa5 ob:=by
  have:=R.sh
  rw[List.map_append]at this
  exact(List.append_inj this (by rw[axC,hf1,afH,axC])).2
 have hdrop:(jo k (f1++f2)).drop os.length=jo (k+os.length) f2:=by
  rw[WY,hf1,ax4 (by rw[tY,hf1];exact awk _),List.drop_of_length_le (by rw[tY,hf1];exact awk _),aw1]
 rw[hdrop,R.av]
 obtain⟨g1,g2,n,f3,g3,g4,g5,g6,g7⟩:=amZ fz oh (k+os.length) f2 (ZR hp ob) (aa5 ob) R.w hD2 hs2
 obtain⟨k1,k2⟩:=anL ob (k+os.length+n) f3 g6 g7
 rw[g3]
 refine⟨fun id e' h=> ?_,g2,k1,k2⟩
 obtain⟨q1,q2⟩:=g1 id e' h
 exact⟨q1,akx hf1 (by rw[UE,abg,axC]) q2⟩
end
theorem BU (fz:Bool):∀(oh:List (Nat×List Sh)) (xs:List AV) (id:Nat),(id∈bW oh->∃e',look (qg fz (split oh xs).1) id=some e')/\(id∉bW oh->look (qg fz (split oh xs).1) id=none)
 |[],xs,id=>⟨fun h=>(by cases h),fun _=>rfl⟩
 |(i,s)::r,xs,id=>by
  obtain⟨h1,h2⟩:=BU fz r (xs.drop s.length) id
  simp only[split,qg,look,bW,aww,not_or]
  cases hb:Nat.beq i id with
  |true=>
   have:=aws hb
   subst this
   exact⟨fun _=>⟨_,rfl⟩,fun h=>absurd rfl h.1⟩
  |false=>
   refine⟨fun h=> ?_,fun h=>h2 h.2⟩
   rcases h with rfl | h
   ·simp at hb
   ·exact h1 h
def aek (M:Mem) (cs:List AV) (c:Array Value):Prop:=c.size=cs.length/\(∀i,(h:i<c.size)->c[i].oneCell=true)/\∀q,(h:q<cs.length)->(h':q<c.size)->dt cs[q]=true/\bT M cs[q] c[q]
theorem aek.is {M N:Mem} (hF:∀b,M.F b->N.F b) (hH:∀b,M.F b->N.H[b]? =M.H[b]?) {cs:List AV} {c:Array Value} (h:aek M cs c):xC N (.raw cs) c/\aek N cs c:=
 ⟨⟨⟨h.1,h.2.1⟩,fun q h1 h2=>(h.2.2 q h1 h2).2.data hF hH (h.2.2 q h1 h2).1⟩,h.1,h.2.1,fun q h1 h2=>⟨(h.2.2 q h1 h2).1,(h.2.2 q h1 h2).2.data hF hH (h.2.2 q h1 h2).1⟩⟩
theorem LSh.good_inv {s:LSh} {D:List Nat} (h:s.good D=true):(∀(j:Nat) (h:Sh),s.pk[j]? =some h->∀e,h≠ .buf e)/\PO (bW s.ph++(bW s.vh++bW s.vb))=true/\(∀i∈bW s.ph++(bW s.vh++bW s.vb),i<8*s.c0)/\
 (∀t,t∈bW s.ps\/t∈bW s.pl->t∉D):=by
 unfold LSh.good at h
 simp only[awp,ax0]at h
 obtain⟨⟨⟨⟨⟨_,_⟩,h1⟩,h2⟩,h3⟩,h4⟩:=h
 refine⟨fun j x hx e he=> ?_,h2,fun i hi=> ?_,fun t ht=> ?_⟩
 ·have:=awV.1 h1 x (axw hx)
  subst he
  simp at this
 ·have:=awV.1 h3 i hi
  simpa [axr] using this
 ·exact Tj h4 (by simpa using ht)
theorem LSh.good_rf {s:LSh} {D:List Nat} (h:s.good D=true):(∀(j:Nat) (h:Sh),s.pk[j]? =some h->∀i,h≠ .rf i)/\∀(j i:Nat),s.vk[j]? =some (.rf i)->i∈bW s.vb:=by
 unfold LSh.good at h;simp only[awp,ax0]at h;obtain⟨⟨⟨⟨⟨h0,h1⟩,_⟩,_⟩,_⟩,_⟩:=h;refine⟨fun j x hx e he=> ?_,fun j i hj=> ?_⟩
 ·have:=awV.1 h1 x (axw hx);subst he;simp at this
 ·have:=awV.1 h0 _ (axw hj);obtain⟨k,h2,h3⟩:=axi.1 this;exact aws h3▸h2
theorem ala {s:LSh} (p:Tup s.pk) (v:Tup s.vk) (j:Nat):FS.hp (s.st p v) j=
 over (qg true (split s.ph ((jo 0 (flat s.pk p)).drop s.ps.length)).1) (over (qg false (split s.vh ((jo (8*s.c0) (flat s.vk v)).drop s.vs.length)).1)
  (over (uX s.vb (split s.vh ((jo (8*s.c0) (flat s.vk v)).drop s.vs.length)).2) (over (BN (8*s.c0) (flat s.vk v)) (fun _=>none)))) j:=by
 unfold FS.hp LSh.st over
 simp only[Ah,A7,Lu]
 cases look (qg true (split s.ph ((jo 0 (flat s.pk p)).drop s.ps.length)).1) j with
 |some e=>rfl
 |none=>
  simp only
  cases look (qg false (split s.vh ((jo (8*s.c0) (flat s.vk v)).drop s.vs.length)).1) j with
  |some e=>rfl
  |none=>
   simp only
   cases look (uX s.vb (split s.vh ((jo (8*s.c0) (flat s.vk v)).drop s.vs.length)).2) j with
   |some e=>rfl
   |none=>rfl
theorem WT {s:LSh} {A:FS} {v:Tup s.vk} (h:s.decV A=some v):ZJ A.hp s.vh=true/\LQ (iR jX s.vk (s.vAV A)++(bW s.vh++(bW s.vb++bW s.ph))) (iR O4 s.vk (s.vAV A))=true/\
 agf A.hp A.fr s.vs s.vh s.vb (flat s.vk v) (s.vAV A):=by
 unfold LSh.decV at h
 cases hc:(ZJ A.hp s.vh&&LQ (iR jX s.vk (s.vAV A)++(bW s.vh++(bW s.vb++bW s.ph))) (iR O4 s.vk (s.vAV A)))with
 |false=>simp [hc]at h
 |true=>
  simp only[hc,cond_true]at h
  simp only[awp]at hc
  exact⟨hc.1,hc.2,Sm _ _ _ h,rfl,(aaY hc.1).1,RP _ _⟩
theorem amD {s:LSh} {D:List Nat} (hg:s.good D=true) {p:Tup s.pk} {v:Tup s.vk} {N':Mem} {A':FS} {ids:List Nat} (hN:lJ N') (hfz:Tt A'.hp N'.hp ids) (hv:s.decV A'=some v)
 (hids1:∀j∈Jw A'.hp s.vk (s.vAV A'),j∈ids) (hids2:∀j∈iR jX s.vk (s.vAV A')++(bW s.vh++(bW s.vb++bW s.ph)),j∉ids) (phβ:Nat->Option Nat)
 (PH:∀j e',look (qg true (split s.ph ((jo 0 (flat s.pk p)).drop s.ps.length)).1) j=some e'->∃b c t fr cs',e'=some ⟨true,.raw cs'⟩/\phβ j=some b/\N'.H[b]? =some (.cells c t fr)/\Ib (.raw cs') c fr/\aek N' cs' c/\
   ∀i,i∈iR jX s.vk (s.vAV A')++(bW s.vh++bW s.vb)->N'.β i≠some b) {Us:Nat->Prop}
 (hUs:∀j,j∈bW s.ph\/j∈bW s.vh++bW s.vb\/(8*s.c0<=j/\j<8*(s.c0+s.vk.length))->Us j):
 ∃V σ,View N' V σ/\(∀j,V.hp j=FS.hp (s.st p v) j)/\V.U=Us/\(∀j∈bW s.ph,V.β j=phβ j)/\(∀j,j∉bW s.ph->j<8*s.c0->σ j=some j)/\
  (∀(j:Nat) (d:Dt) (a:AV),(flat s.vk v)[j]? =some d->(s.vAV A')[j]? =some a->∀val,bT N' a val->bT V (encS (8*s.c0+j) d.1 d.2) val)/\
  (∀k i e1,V.hp k=some e1->e1.fz=false->σ k=some i->i∈iR jX s.vk (s.vAV A')++(bW s.vh++bW s.vb))/\(∀j,V.hp j≠none->j<8*s.c0->j∈bW s.ph\/(j∈bW s.vh++bW s.vb))/\(∀j e',V.hp j=some e'->j∉bW s.ph->e'.fz=false):=by
 obtain⟨hbuf,hnd,hlt0,_⟩:=LSh.good_inv hg
 obtain⟨hW,hap,R⟩:=WT hv
 obtain⟨hdup,hdis⟩:=Gf hap
 obtain⟨_,hraw⟩:=aaY hW
 obtain⟨r1,r2,r3,r4⟩:=R.parts false (8*s.c0)
 have hfl:(flat s.vk v).length=s.vk.length:=IG _ _
 have inPh:∀j,j∈bW s.ph->j<8*s.c0/\j∉bW s.vh++bW s.vb:=fun j hj=>⟨hlt0 j (awM _ hj),(xM hnd).2.2 j hj⟩
 have inV:∀j,j∈bW s.vh++bW s.vb->j<8*s.c0:=fun j hj=>hlt0 j (awD _ hj)
 obtain⟨σ,hσ⟩:∃σ:Nat->Option Nat,σ=fun j=>if j∈bW s.ph then none else if j<8*s.c0 then some j else CY (flat s.vk v) (s.vAV A') (8*s.c0) j:=⟨_,rfl⟩
 have σph:∀j,j∈bW s.ph->σ j=none:=fun j h=>by rw[hσ];simp only[h,if_true]
 have σlo:∀j,j∉bW s.ph->j<8*s.c0->σ j=some j:=fun j h h'=>by rw[hσ];simp only[h,h',if_true,if_false]
 have σhi:∀j,8*s.c0<=j->σ j=CY (flat s.vk v) (s.vAV A') (8*s.c0) j:=fun j h=>by
  have h1:j∉bW s.ph:=fun hj=>by have:=(inPh j hj).1;omega
  have h2:¬j<8*s.c0:=by omega
  rw[hσ];simp only[h1,h2,if_false]
 clear hσ
 obtain⟨V,hV⟩:∃V:Mem,V={ U:=Us,F:=N'.F,β:=fun j=>if j∈bW s.ph then phβ j else (σ j).bind N'.β,hp:=FS.hp (s.st p v),H:=N'.H }:=⟨_,rfl⟩
 have vU:V.U=Us:=by rw[hV]
 have vF:∀b,V.F b↔N'.F b:=fun b=>by rw[hV]
 have vβ1:∀j,j∈bW s.ph->V.β j=phβ j:=fun j h=>by rw[hV];simp only[h,if_true]
 have vβ2:∀j,j∉bW s.ph->V.β j=(σ j).bind N'.β:=fun j h=>by rw[hV];simp only[h,if_false]
 have vp:∀j,V.hp j=FS.hp (s.st p v) j:=fun j=>by rw[hV]
 have vH:V.H=N'.H:=by rw[hV]
 clear hV
 have vFs:∀b,N'.F b->V.F b:=fun b h=>(vF b).2 h
 have cls:∀j e',V.hp j=some e'->(j∈bW s.ph/\look (qg true (split s.ph ((jo 0 (flat s.pk p)).drop s.ps.length)).1) j=some (some e'))\/
  (j∈bW s.vh/\abo A'.hp false (8*s.c0) (flat s.vk v) (s.vAV A') j (some e'))\/(j∈bW s.vb/\∃e l,A'.hp j=some ⟨false,.arr e l⟩/\e'=⟨false,.arr e l⟩)\/
  (8*s.c0<=j/\j - 8*s.c0<(flat s.vk v).length/\∃e l,(flat s.vk v)[j - 8*s.c0]? =some ⟨.buf e,l⟩/\e'=⟨false,.arr e l⟩):=fun j e' he=>by
  rw[vp,ala]at he
  unfold over at he
  cases h1:look (qg true (split s.ph ((jo 0 (flat s.pk p)).drop s.ps.length)).1) j with
  |some x=>
   rw[h1]at he
   simp only at he
   subst he
   refine .inl ⟨?_,rfl⟩
   by_cases hj:j∈bW s.ph
   ·exact hj
   ·rw[(BU true _ _ j).2 hj]at h1;cases h1
  |none=>
   rw[h1]at he
   simp only at he
   cases h2:look (qg false (split s.vh ((jo (8*s.c0) (flat s.vk v)).drop s.vs.length)).1) j with
   |some x=>
    rw[h2]at he
    simp only at he
    subst he
    exact .inr (.inl (r1 j _ h2))
   |none=>
    rw[h2]at he
    simp only at he
    cases h3:look (uX s.vb (split s.vh ((jo (8*s.c0) (flat s.vk v)).drop s.vs.length)).2) j with
    |some x=>
     rw[h3]at he
     simp only at he
     subst he
     obtain⟨q1,e,l,q2,q3⟩:=r3 j _ h3
     cases q3
     exact .inr (.inr (.inl ⟨q1,e,l,q2,rfl⟩))
    |none=>
     rw[h3]at he
     exact .inr (.inr (.inr (abd (h0:=fun _=>none) rfl he)))
 have bufIn:∀j e l,8*s.c0<=j->(flat s.vk v)[j - 8*s.c0]? =some ⟨.buf e,l⟩->V.hp j=some ⟨false,.arr e l⟩:=fun j e l hj hf=>by
  have n1:j∉bW s.ph:=fun h=>by have:=(inPh j h).1;omega
  have n2:j∉bW s.vh:=fun h=>by have:=inV j (awM _ h);omega
  have n3:look (uX s.vb (split s.vh ((jo (8*s.c0) (flat s.vk v)).drop s.vs.length)).2) j=none:=by
   cases h3:look (uX s.vb (split s.vh ((jo (8*s.c0) (flat s.vk v)).drop s.vs.length)).2) j with
   |none=>rfl
   |some x=>have:=inV j (awD _ (r3 j _ h3).1);omega
  rw[vp,ala]
  unfold over
  rw[(BU true _ _ j).2 n1,(BU false _ _ j).2 n2,n3]
  simp only
  rw[Eh,awh hj,hf]
  rfl
 have unfz:∀id e,id∈iR jX s.vk (s.vAV A')++(bW s.vh++(bW s.vb++bW s.ph))->A'.hp id=some e->N'.hp id=some e:=fun id e hi he=>by
  rw[hfz id,awg (hids2 id hi)];exact he
 have ownOut:∀id,id∈iR jX s.vk (s.vAV A')->id∉ids:=fun id h=>hids2 id (awM _ h)
 have seen:∀(j:Nat) (d:Dt) (a:AV),(flat s.vk v)[j]? =some d->(s.vAV A')[j]? =some a->∀val,bT N' a val->bT V (encS (8*s.c0+j) d.1 d.2) val:=fun j d a hd ha val hs=>by
  have hdec:=R.dec.get j d a hd ha
  refine amd hN hfz (fun i hi=>hids1 i (KW _ (qG hd) ha hi)) (fun i hi=>ownOut i (X9 (qG hd) ha hi)) vFs vH ?_ hs hdec
  obtain⟨sh,z⟩:=d
  cases sh with
  |buf e=>
   have hlt:j<(flat s.vk v).length:=(axF.1 hd).1
   have e0:8*s.c0+j - 8*s.c0=j:=by omega
   refine⟨by rw[vU];exact hUs _ (.inr (.inr ⟨by omega,by omega⟩)),bufIn _ e z (by omega) (by rw[e0];exact hd),?_⟩
   have n1:8*s.c0+j∉bW s.ph:=fun h=>by have:=(inPh _ h).1;omega
   rw[vβ2 _ n1,σhi _ (by omega)]
   rcases FX hdec with ⟨rfl,_⟩ | ⟨id,rfl,he2⟩
   ·rw[Ed (by rw[e0];exact ha)];rfl
   ·rw[KZ (by omega) (by rw[e0];exact hd) (by rw[e0];exact ha)];rfl
  |rf i=>
   intro val hsi
   have hi:i∈bW s.vb:=(LSh.good_rf hg).2 j i (qG hd)
   have hlt:=inV i (awD _ hi)
   have n1:i∉bW s.ph:=fun h=>(inPh i h).2 (awD _ hi)
   have n2:i∉bW s.vh:=fun h=>(xM (xM hnd).2.1).2.2 i h hi
   obtain⟨e',he'⟩:=r4 i hi
   obtain⟨_,e,l,q2,q3⟩:=r3 i e' he'
   have hN'i:=unfz i _ (by simp [hi]) q2
   have hVi:V.hp i=some ⟨false,.arr e l⟩:=by
    rw[vp,ala]
    unfold over
    rw[(BU true _ _ i).2 n1,(BU false _ _ i).2 n2,he',q3]
   have hVβ:V.β i=N'.β i:=by rw[vβ2 i n1,σlo i n1 hlt];rfl
   cases hsi with | mf _ _ hU h1 hh=>
   refine .mf i val (by rw[vU];exact hUs i (.inr (.inl (awD _ hi)))) h1 fun e2 he2=> ?_
   rw[hVi]at he2;cases he2
   obtain⟨fz,t,l',a',cap,g1,g2,g3,g4⟩:=hh _ hN'i
   cases g1
   refine⟨false,e,l,a',cap,rfl,g2,g3,?_⟩
   unfold xE at*
   rw[hVβ,vH]
   exact g4
  |_=>trivial
 have hvh:∀j,j∈bW s.vh++bW s.vb->j∉bW s.ph:=fun j hj hp=>(inPh j hp).2 hj
 have src:∀j e',V.hp j=some e'->(j∈bW s.ph/\σ j=none/\e'.fz=true/\Rx e'.b=false/\∃b c t fr,V.β j=some b/\N'.H[b]? =some (.cells c t fr)/\Ib e'.b c fr/\xC V e'.b c/\∀i,i∈iR jX s.vk (s.vAV A')++(bW s.vh++bW s.vb)->N'.β i≠some b)\/
  (j∉bW s.ph/\((σ j=none/\V.β j=none/\∃fz t,e'=⟨fz,.arr t []⟩)\/(∃i e,σ j=some i/\i∈iR jX s.vk (s.vAV A')++(bW s.vh++bW s.vb)/\N'.hp i=some e/\V.β j=N'.β i/\e'.fz=e.fz/\Conv N' V e.b e'.b))):=fun j e' he=>by
  rcases cls j e' he with ⟨q1,q2⟩ | ⟨q1,z,cs,cs',q2,q3,q4,q5⟩ | ⟨q1,e,l,q2,rfl⟩ | ⟨q1,q2,e,l,q3,rfl⟩
  ·obtain⟨b,c,t,fr,cs',g1,g2,g3,g4,g5,g6⟩:=PH j _ q2
   cases g1
   exact .inl ⟨q1,σph j q1,rfl,rfl,b,c,t,fr,by rw[vβ1 j q1];exact g2,g3,g4,(g5.is vFs (fun b _=>by rw[vH])).1,g6⟩
  ·have hj:j∈bW s.vh++bW s.vb:=awM _ q1
   have n1:=hvh j hj
   have hs:=σlo j n1 (inV j hj)
   obtain⟨cs0,h0⟩:=hraw j q1
   rw[h0]at q2
   cases q2;cases q3
   refine .inr ⟨n1,.inr ⟨j,_,hs,awD _ hj,unfz j _ (by simp [q1]) h0,by rw[vβ2 j n1,hs];rfl,rfl,q4,fun q val h h' hval=> ?_⟩⟩
   rcases q5 with q5 | ⟨i,e,x,g1,g2,g3⟩
   ·obtain⟨i,d,a,g1,g2,g3,g4⟩:=q5 q h
    rw[awL h]at g3
    rw[awL h']at g4
    cases g3;rw[awr g4]
    exact seen i d _ g1 g2 val hval
   ·have hdec:=R.dec.get i _ _ g1 g2
    subst g3
    simp only[jb]at hdec
    obtain⟨hl,hw⟩:=Ec e _ x hdec
    have hq:q<(jG A'.hp cs).1.length:=by rw[Am];exact h
    obtain⟨k1,k2⟩:=X3 (hp:=A'.hp) cs q h hq
    have hsl:bT N' (jG A'.hp cs).1[q] val:=by
     rw[k1,<-Ny hfz]
     refine UA (hp:=N'.hp) (fun _ _ h=>h) (Le.refl N') hN (fun id hid e0 he0=> ?_) hval
     rw[Ny hfz]at hid
     have hin:id∈ids:=hids1 id (KW (s:= .val e) _ (qG g1) g2 (k2 id hid))
     have:=hfz id
     rw[awh hin]at this
     rw[this]at he0 ⊢
     cases hh:A'.hp id with
     |none=>simp [hh]at he0
     |some e1=>simp only[hh,axX,awj]at he0 ⊢; subst he0;rfl
    rw[<-vG _ _ hq]at hsl
    have:=(hw q (by rw[<-hl];exact hq)).sees hsl
    rw[vG _ _ h']at this
    exact this.data vFs (fun b _=>by rw[vH]) (by rw[<-vG _ _ h'];exact aav e x q (by rw[<-hl];exact hq))
  ·have hj:j∈bW s.vh++bW s.vb:=awD _ q1
   have n1:=hvh j hj
   have hs:=σlo j n1 (inV j hj)
   exact .inr ⟨n1,.inr ⟨j,_,hs,awD _ hj,unfz j _ (by simp [q1]) q2,by rw[vβ2 j n1,hs];rfl,rfl,rfl⟩⟩
  ·have n1:j∉bW s.ph:=fun h=>by have:=(inPh j h).1;omega
   obtain⟨a,ha⟩:=wK (l:=s.vAV A') (j:=j - 8*s.c0) (by rw[<-R.dec.len];exact q2)
   refine .inr ⟨n1,?_⟩
   rcases FX (R.dec.get _ _ _ q3 ha)with ⟨rfl,rfl⟩ | ⟨id,rfl,he2⟩
   ·have:=Ed (fl:=flat s.vk v) (k:=8*s.c0) ha
    exact .inl ⟨by rw[σhi j q1];exact this,by rw[vβ2 j n1,σhi j q1,this];rfl,_,_,rfl⟩
   ·have hsrc:=KZ q1 q3 ha
    have hown:=(JU hsrc).1
    exact .inr ⟨id,_,by rw[σhi j q1];exact hsrc,awM _ hown,unfz id _ (awM _ hown) he2,by rw[vβ2 j n1,σhi j q1,hsrc];rfl,rfl,rfl⟩
 have σin:∀k i e1,V.hp k=some e1->e1.fz=false->σ k=some i->i∈iR jX s.vk (s.vAV A')++(bW s.vh++bW s.vb):=fun k i e1 hk hf hs=>by
  rcases src k e1 hk with ⟨_,h1,_⟩ | ⟨_,⟨h1,_⟩ | ⟨i',e,h1,h2,_⟩⟩
  ·rw[hs]at h1;cases h1
  ·rw[hs]at h1;cases h1
  ·rw[hs]at h1;cases h1;exact h2
 have vUs:∀j,V.hp j≠none->V.U j:=fun j hj=>by
  rw[vU]
  cases he:V.hp j with
  |none=>exact absurd he hj
  |some e'=>
   rcases cls j e' he with ⟨q1,_⟩ | ⟨q1,_⟩ | ⟨q1,_⟩ | ⟨q1,q2,_⟩
   ·exact hUs j (.inl q1)
   ·exact hUs j (.inr (.inl (awM _ q1)))
   ·exact hUs j (.inr (.inl (awD _ q1)))
   ·exact hUs j (.inr (.inr ⟨q1,by omega⟩))
 refine⟨V,σ,⟨vH,vF,fun j e' he=>⟨vUs j (by rw[he];simp),?_⟩,fun j j' i e h1 h2 hj hj' _ hf=> ?_⟩,vp,vU,vβ1,σlo,seen,σin,fun j hj hlt=> ?_,fun j e' he hn=> ?_⟩
 ·rcases src j e' he with ⟨_,h1,h2,h3,b,c,t,fr,h4,h5,h6,h7,h8⟩ | ⟨_,h | ⟨i,e,h1,_,h2,h3,h4,h5⟩⟩
  ·exact .inr (.inr ⟨h1,h2,h3,b,c,t,fr,h4,h5,h6,h7,fun i k e1 hk hf hs=>h8 i (σin k i e1 hk hf hs)⟩)
  ·exact .inl h
  ·exact .inr (.inl ⟨i,e,h1,h2,h3,.inl h4,h5⟩)
 ·have lo:∀j,σ j=some i->V.hp j≠none->j<8*s.c0->i=j/\j∈bW s.vh++bW s.vb:=fun j h1 hj hlt=>by
   have n1:j∉bW s.ph:=fun h=>by rw[σph j h]at h1;cases h1
   rw[σlo j n1 hlt]at h1
   refine⟨(awr h1).symm,?_⟩
   cases he:V.hp j with
   |none=>exact absurd he hj
   |some e'=>
    rcases cls j e' he with ⟨q1,_⟩ | ⟨q1,_⟩ | ⟨q1,_⟩ | ⟨q1,_⟩
    ·exact absurd q1 n1
    ·exact awM _ q1
    ·exact awD _ q1
    ·omega
  have no:∀x,x∈iR jX s.vk (s.vAV A')->x∉bW s.vh++bW s.vb:=fun x hx hm=>(xM hdup).2.2 x hx (by
   rcases awt.1 hm with h | h
   ·exact awM _ h
   ·exact awD _ (awM _ h))
  rcases ayh j (8*s.c0)with hl | hl<;>rcases ayh j' (8*s.c0)with hl' | hl'
  ·rw[<-(lo j h1 hj hl).1,<-(lo j' h2 hj' hl').1]
  ·rw[σhi j' hl']at h2
   obtain⟨e1,e2⟩:=lo j h1 hj hl
   exact absurd (e1▸e2) (no i (JU h2).1)
  ·rw[σhi j hl]at h1
   obtain⟨e1,e2⟩:=lo j' h2 hj' hl'
   exact absurd (e1▸e2) (no i (JU h1).1)
  ·rw[σhi j hl]at h1
   rw[σhi j' hl']at h2
   exact XO (xM hdup).1 h1 h2
 ·cases he:V.hp j with
  |none=>exact absurd he hj
  |some e'=>
   rcases cls j e' he with ⟨q1,_⟩ | ⟨q1,_⟩ | ⟨q1,_⟩ | ⟨q1,_⟩
   ·exact .inl q1
   ·exact .inr (awM _ q1)
   ·exact .inr (awD _ q1)
   ·omega
 ·rcases cls j e' he with ⟨q1,_⟩ | ⟨_,z,cs,cs',_,q3,_⟩ | ⟨_,e,l,_,rfl⟩ | ⟨_,_,e,l,_,rfl⟩
  ·exact absurd q1 hn
  ·cases q3;rfl
  ·rfl
  ·rfl
def Va (D:List Nat):Code->Bool
 |.seq a b=>Va D a&&Va D b
 |.cond _ a b=>Va D a&&Va D b
 |.block _ c=>Va D c
 |.loop c=>Va D c
 |.region _ ops _=>ops.toList.all fun o=>match o.dst with
  |none=>true
  |some d=>D.any fun j=>Nat.beq j d
 |_=>true
theorem Eg {D:List Nat} {T T':Nat->Prop} (h:∀t,T' t->t∉D\/T t):∀(c:Code),Va D c=true->Keeps T c->Keeps T' c
 |.seq a b,hd,hk=>by simp only[Va,awp]at hd;exact⟨Eg h a hd.1 hk.1,Eg h b hd.2 hk.2⟩
 |.cond _ a b,hd,hk=>by simp only[Va,awp]at hd;exact⟨Eg h a hd.1 hk.1,Eg h b hd.2 hk.2⟩
 |.block _ c,hd,hk=>Eg h c hd hk
 |.loop c,hd,hk=>Eg h c hd hk
 |.region _ ops _,hd,hk=>fun i o d hi ho ht=>by
  have h1:=awV.1 hd o (axw (l:=ops.toList) (i:=i) (by simpa using hi))
  simp only[ho]at h1
  obtain⟨j,h2,h3⟩:=axi.1 h1
  have:=aws h3
  subst this
  rcases h j ht with h4 | h4
  ·exact h4 h2
  ·exact hk i o j hi ho h4
 |.skip,_,_ | .exit _,_,_ | .ret,_,_=>trivial
 |.label _,_,_ | .goto _,_,_ | .rangeFunc .., _,_ | .scope _,_,_ | .refuse _,_,_=>trivial
theorem ak7 {M N:Mem} (hF:∀b,M.F b->N.F b) (hH:∀b,M.F b->N.H[b]? =M.H[b]?) {k:Nat} {d:Dt} (hb:∀e,d.1≠ .buf e) (hr:∀i,d.1≠ .rf i) {v:Value} (hs:bT M (encS k d.1 d.2) v):bT N (encS k d.1 d.2) v:=by
 obtain⟨s,x⟩:=d;cases s with
 |val e=>exact bT.dataAgg hF hH hs (acn e x)
 |buf e=>exact absurd rfl (hb e)
 |rf i=>exact absurd rfl (hr i)
 |_=>exact hs.data hF hH rfl
theorem ahj {hp:Nat->Option Ent}:∀ {fl:List Dt} {bs:List AV},TG hp fl bs->∀i∈iR jX (fl.map (·.1)) bs,∃e l,hp i=some ⟨false,.arr e l⟩
 |[],[],_,i,h=>by cases h
 |[],_::_,h,_,_=>h.elim
 |_::_,[],h,_,_=>h.elim
 |⟨s,x⟩::fl,a::bs,h,i,hi=>by
  rcases awt.1 (show i∈jX s a++iR jX (fl.map (·.1)) bs from hi)with hi | hi
  ·cases s with
   |buf e=>
    rcases FX h.1 with ⟨h1,_⟩ | ⟨id,h1,h2⟩
    ·subst h1;cases hi
    ·subst h1
     simp only[jX,awC]at hi
     subst hi
     exact⟨_,_,h2⟩
   |_=>cases a<;>cases hi
  ·exact ahj h.2 i hi
theorem afO {M N:Mem} {hp:Nat->Option Ent} {ids:List Nat} (h1:∀j,M.hp j=hp j) (h2:∀j,N.hp j=over (freeze hp ids) M.hp j) (h3:∀i∈ids,hp i≠none):Tt hp N.hp ids:=fun id=>by
 rw[h2,over,ku];by_cases hi:id∈ids
 ·rw[awh hi,awh hi];cases hh:hp id with
  |none=>exact absurd hh (h3 id hi)
  |some e=>rfl
 ·rw[awg hi,awg hi];exact h1 id
theorem agU {s:LSh} {A:FS} {v:Tup s.vk} (h:s.decV A=some v):∀i∈iR jX s.vk (s.vAV A)++(bW s.vh++bW s.vb),∃e,A.hp i=some e/\e.fz=false:=fun i hi=>by
 obtain⟨hW,hap,R⟩:=WT h;rcases awt.1 hi with hi | hi
 ·have hf:(flat s.vk v).map (·.1)=s.vk:=RP _ _
  obtain⟨e,l,h1⟩:=ahj R.dec i (by rw[hf];exact hi);exact⟨_,h1,rfl⟩
 ·rcases awt.1 hi with hi | hi
  ·obtain⟨cs,h1⟩:=(aaY hW).2 i hi;exact⟨_,h1,rfl⟩
  ·obtain⟨_,_,r3,r4⟩:=R.parts false (8*s.c0);obtain⟨e',he⟩:=r4 i hi;obtain⟨_,e,l,h1,_⟩:=r3 i e' he;exact⟨_,h1,rfl⟩
theorem Trk.refl {K:Nat->Prop} {M:Mem} {w:World} (h:lJ M) (hH:M.H=w.heap) (hK:∀j,K j->M.U j):Trk K M w M w:=(Stp.refl h hH).trk hK
theorem aqu {s:LSh} {A:FS} {p:Tup s.pk} (h:s.decP A=some p):A.clk<=s.c0/\Ll A.fr s.pl=true/\agf A.hp A.fr s.ps s.ph [] (flat s.pk p) (s.pAV A):=by
 unfold LSh.decP at h;cases hc:(Nat.ble A.clk s.c0&&Ll A.fr s.pl&&Xc A.hp s.ph)with
 |false=>simp [hc]at h
 |true=>
  simp only[hc,cond_true]at h;simp only[awp]at hc;refine⟨axk hc.1.1,hc.1.2,Sm _ _ _ h,?_,hc.2,?_⟩
  ·simp [LSh.pAV,ZR]
  ·rw[RP];simp [LSh.pk,aa5]
theorem anV {s:LSh} {A A':FS} {p:Tup s.pk} {v:Tup s.vk} (hp:agf A.hp A.fr s.ps s.ph [] (flat s.pk p) (s.pAV A)) (hv:agf A'.hp A'.fr s.vs s.vh s.vb (flat s.vk v) (s.vAV A')) (hl:Ll A.fr s.pl=true) (t:Nat):
 (∃(j:Nat) (d:Dt),t∈bW s.ps/\(flat s.pk p)[j]? =some d/\(s.pAV A)[j]? =some (get A.fr t)/\get (s.st p v).fr t=encS (0+j) d.1 d.2)\/
 (t∈bW s.pl/\get (s.st p v).fr t=get A.fr t/\nc (get A.fr t))\/
 (∃(j:Nat) (d:Dt),(flat s.vk v)[j]? =some d/\(s.vAV A')[j]? =some (get A'.fr t)/\get (s.st p v).fr t=encS (8*s.c0+j) d.1 d.2)\/
 get (s.st p v).fr t= .undef:=by
 have he:(s.st p v).fr=aa9 (bW s.ps) ((jo 0 (flat s.pk p)).take s.ps.length)++(s.pl++(aa9 (bW s.vs) ((jo (8*s.c0) (flat s.vk v)).take s.vs.length)++[])):=by
  unfold LSh.st
  simp only[Ah,axn]
 rw[he]
 rcases hp.slot 0 t (s.pl++(aa9 (bW s.vs) ((jo (8*s.c0) (flat s.vk v)).take s.vs.length)++[]))with ⟨j,d,h0,h1,h2,h3⟩ | ⟨_,h1⟩
 ·exact .inl ⟨j,d,h0,h1,h2,h3⟩
 ·rw[h1]
  rcases abI (aa9 (bW s.vs) ((jo (8*s.c0) (flat s.vk v)).take s.vs.length)++[]) hl t with ⟨g1,g2,g3⟩ | ⟨_,g1⟩
  ·exact .inr (.inl ⟨g1,g2,g3⟩)
  ·rw[g1]
   rcases hv.slot (8*s.c0) t []with ⟨j,d,_,h1,h2,h3⟩ | ⟨_,h1⟩
   ·exact .inr (.inr (.inl ⟨j,d,h1,h2,h3⟩))
   ·rw[h1];exact .inr (.inr (.inr rfl))
theorem adS {s:Sh} {a:AV} (h:∀e,s≠ .buf e):jX s a=[]:=by
 cases s with
 |buf e=>exact absurd rfl (h e)
 |_=>cases a<;>rfl
theorem aqt {s:LSh} {D:List Nat} (hg:s.good D=true) {A:FS} {p:Tup s.pk} {N0:Mem} {ids:List Nat} (hN:lJ N0) (hfz:Tt A.hp N0.hp ids) (R:agf A.hp A.fr s.ps s.ph [] (flat s.pk p) (s.pAV A))
 (hids:∀j∈Jw A.hp s.pk (s.pAV A),j∈ids):∀j e',look (qg true (split s.ph ((jo 0 (flat s.pk p)).drop s.ps.length)).1) j=some e'->
   ∃b c t fr cs' e0,e'=some ⟨true,.raw cs'⟩/\N0.β j=some b/\N0.H[b]? =some (.cells c t fr)/\Ib (.raw cs') c fr/\aek N0 cs' c/\N0.hp j=some e0/\eU e0 ⟨true,.raw cs'⟩:=by
 intro j e' hl
 obtain⟨hbuf,_,_,_⟩:=LSh.good_inv hg
 obtain⟨r1,_⟩:=R.parts true 0
 obtain⟨_,z,cs,cs',h1,rfl,h2,h3⟩:=r1 j e' hl
 obtain⟨z',g1,_⟩:=hfz.some h1
 have nb:∀(i:Nat) (d:Dt),(flat s.pk p)[i]? =some d->∀e,d.1≠ .buf e:=fun i d hd e=>hbuf i d.1 (qG hd) e
 cases hb:N0.β j with
 |none=>
  obtain⟨fz,t,h⟩:=hN.nob j _ g1 hb
  cases h
 |some b=>
  obtain⟨_,_,c,t,fr,k3,k4,⟨k5,k6⟩,k7⟩:=hN.is g1 hb
  refine⟨b,c,t,fr,cs',_,rfl,rfl,k3,k4,⟨by rw[k5,h2],k6,fun q hq hq'=> ?_⟩,g1,h2⟩
  have hqc:q<cs.length:=by rw[h2];exact hq
  have hsq:bT N0 cs[q] c[q]:=k7 q hqc hq'
  rcases h3 with h3 | ⟨i,e,x,q1,q2,q3⟩
  ·obtain⟨i,d,a,q1,q2,q3,q4⟩:=h3 q hqc
   rw[awL hqc]at q3
   rw[awL hq]at q4
   cases q3;rw[awr q4]
   have hne:=nb i d q1
   have hsd:bT N0 (encS (0+i) d.1 d.2) c[q]:=amd hN hfz (fun x hx=>hids x (KW _ (qG q1) q2 hx)) (fun x hx=>by rw[adS hne]at hx;cases hx) (fun _ h=>h) rfl (by
    obtain⟨sh,y⟩:=d
    cases sh with
    |buf e=>exact absurd rfl (hne e)
    |rf q=>exact absurd rfl ((LSh.good_rf hg).1 i _ (qG q1) q)
    |_=>trivial) hsq (R.dec.get i d _ q1 q2)
   refine⟨?_,hsd⟩
   obtain⟨sh,y⟩:=d
   cases sh with
   |buf e=>exact absurd rfl (hne e)
   |rf q=>exact absurd rfl ((LSh.good_rf hg).1 i _ (qG q1) q)
   |val e=>
    have h1c:=k6 q hq'
    have hsd:bT N0 (.agg (cells e y)) c[q]:=hsd
    generalize c[q]=val at hsd h1c
    cases hsd
    cases h1c
   |_=>rfl
  ·have hdec:=R.dec.get i _ _ q1 q2
   subst q3
   simp only[jb]at hdec
   obtain⟨hl,hw⟩:=Ec e _ x hdec
   have hq2:q<(jG A.hp cs).1.length:=by rw[Am];exact hqc
   obtain⟨m1,m2⟩:=X3 (hp:=A.hp) cs q hqc hq2
   have hsl:bT N0 (jG A.hp cs).1[q] c[q]:=by
    rw[m1,<-Ny hfz]
    refine UA (hp:=N0.hp) (fun _ _ h=>h) (Le.refl N0) hN (fun id hid e0 he0=> ?_) hsq
    rw[Ny hfz]at hid
    have hin:id∈ids:=hids id (KW (s:= .val e) _ (qG q1) q2 (m2 id hid))
    have:=hfz id
    rw[awh hin]at this
    rw[this]at he0 ⊢
    cases hh:A.hp id with
    |none=>simp [hh]at he0
    |some e1=>simp only[hh,axX,awj]at he0 ⊢; subst he0;rfl
   rw[<-vG _ _ hq2]at hsl
   have:=(hw q (by rw[<-hl];exact hq2)).sees hsl
   rw[vG _ _ hq]at this
   exact⟨by rw[<-vG _ _ hq];exact aav e x q (by rw[<-hl];exact hq2),this⟩
structure Hd (s:LSh) (p:Tup s.pk) (N0 V0:Mem) (w0:World) (T':Nat->Prop) (tm:Nat->Value) (nt:Nat) (v:Tup s.vk) (V:Mem) (w:World) (a:Act):Prop where
 trk:Trk (fun j=>j∈bW s.vh++bW s.vb) V0 w0 V w
 hp:∀j,V.hp j=FS.hp (s.st p v) j
 U:V.U=fun j=>j<8*(s.c0+s.vk.length)
 fr:∀t,bT V (get (s.st p v).fr t) (a.tmps.getD t undef)
 nc:∀t,nc (get (s.st p v).fr t)
 kp:∀t,T' t->a.tmps.getD t undef=tm t
 df:a.defers=[]
 nt:nt<=a.tmps.size
theorem le_head {s:LSh} {D:List Nat} (hg:s.good D=true) {p:Tup s.pk} {N0 V0:Mem} {w0:World} {σ0:Nat->Option Nat} (hH0:N0.H=w0.heap) (hN0U:∀id,N0.U id->id<8*s.c0) (vw0:View N0 V0 σ0) (hσ0:∀j,j∉bW s.ph->j<8*s.c0->σ0 j=some j)
 (PH:∀j e',look (qg true (split s.ph ((jo 0 (flat s.pk p)).drop s.ps.length)).1) j=some e'->∃b c t fr cs' e0,e'=some ⟨true,.raw cs'⟩/\N0.β j=some b/\N0.H[b]? =some (.cells c t fr)/\Ib (.raw cs') c fr/\aek N0 cs' c/\N0.hp j=some e0/\eU e0 ⟨true,.raw cs'⟩)
 (noOwn:∀j,j∈bW s.ph->∀b,N0.β j=some b->¬Own V0 b) {v:Tup s.vk} {V:Mem} {w:World} (trV:Trk (fun j=>j∈bW s.vh++bW s.vb) V0 w0 V w) (vp:∀j,V.hp j=FS.hp (s.st p v) j)
 (vU:V.U=fun j=>j<8*(s.c0+s.vk.length)) (vβ:∀j∈bW s.ph,V.β j=N0.β j) (vlo:∀j,V.hp j≠none->j<8*s.c0->j∈bW s.ph\/(j∈bW s.vh++bW s.vb)):Le N0 V:=by
 obtain⟨hbuf,hnd,hlt0,hps⟩:=LSh.good_inv hg
 have bnd:∀ {b:Nat} {o:Obj},N0.H[b]? =some o->b<w0.heap.size:=fun h=>by rw[<-hH0];exact(awG.1 h).1
 have key:∀id e',N0.U id->V.hp id=some e'->(id∈bW s.ph/\∃cs' e0 b,e'=⟨true,.raw cs'⟩/\N0.β id=some b/\b<w0.heap.size/\N0.hp id=some e0/\eU e0 e'/\V.β id=N0.β id)\/
  (id∈bW s.vh++bW s.vb/\∃e0,N0.hp id=some e0/\eU e0 e'/\V.β id=N0.β id/\V0.β id=N0.β id):=fun id e' hU he=>by
  rcases vlo id (by rw[he];simp) (hN0U id hU)with h | h
  ·refine .inl ⟨h,?_⟩
   obtain⟨e1,he1⟩:=(BU true s.ph ((jo 0 (flat s.pk p)).drop s.ps.length) id).1 h
   obtain⟨b,c,t,fr,cs',e0,g1,g2,g3,g4,g5,g6,g7⟩:=PH id e1 he1
   have:V.hp id=some ⟨true,.raw cs'⟩:=by
    rw[vp,ala];unfold over;rw[he1,g1]
   rw[he]at this;cases this
   exact⟨cs',e0,b,rfl,g2,bnd g3,g6,g7,vβ id h⟩
  ·refine .inr ⟨h,?_⟩
   obtain⟨e1,k1,k2,k3⟩:=trV.kept id e' h he
   have hs0:=hσ0 id (fun h'=>(xM hnd).2.2 id h' h) (hlt0 id (awD _ h))
   obtain⟨_,⟨q1,_⟩ | ⟨i,e0,q1,q2,q3,q4,q5⟩ | ⟨q1,_⟩⟩:=vw0.src id e1 k1
   ·rw[hs0]at q1;cases q1
   ·rw[hs0]at q1;cases q1
    exact⟨e0,q2,q5.form.trans k2,k3.trans q3,q3⟩
   ·rw[hs0]at q1;cases q1
 refine⟨fun id h=>by rw[vU];have:=hN0U id h;show _<_;omega,fun b h=>trV.F b ((vw0.F b).2 h),fun b h=>(trV.FH b ((vw0.F b).2 h)).trans (by rw[vw0.H]),fun id e' hU he=> ?_,fun id b n hU hne' hb hn=> ?_⟩
 ·rcases key id e' hU he with ⟨_,cs',e0,b,_,_,_,k1,k2,k3⟩ | ⟨_,e0,k1,k2,k3,_⟩
  ·exact⟨e0,k1,k2,k3⟩
  ·exact⟨e0,k1,k2,k3⟩
 ·cases he:V.hp id with
  |none=>exact absurd he hne'
  |some e'=>
   rcases key id e' hU he with ⟨k0,cs',e0,b',_,k1,k2,_⟩ | ⟨k0,e0,_,_,_,k4⟩
   ·rw[hb]at k1;cases k1
    unfold bsize at*
    rw[trV.H,trV.old b k2 (noOwn id k0 b hb),<-hH0];exact hn
   ·exact trV.ksz id b n k0 hne' (k4.trans hb) (by rw[vw0.H];exact hn)
theorem arJ {s:LSh} {D:List Nat} (hg:s.good D=true) {A:FS} {p:Tup s.pk} {N0 V0:Mem} {w0:World} {σ0:Nat->Option Nat} {own0:List Nat} {T':Nat->Prop} {tm:Nat->Value} {nt:Nat}
 (hN0:lJ N0) (hH0:N0.H=w0.heap) (hN0U:∀id,N0.U id->id<8*s.c0) (vw0:View N0 V0 σ0) (hσ0:∀j,j∉bW s.ph->j<8*s.c0->σ0 j=some j)
 (hσin:∀k i e1,V0.hp k=some e1->e1.fz=false->σ0 k=some i->i∈own0++(bW s.vh++bW s.vb)) (hp:agf A.hp A.fr s.ps s.ph [] (flat s.pk p) (s.pAV A)) (hpl:Ll A.fr s.pl=true)
 (PH:∀j e',look (qg true (split s.ph ((jo 0 (flat s.pk p)).drop s.ps.length)).1) j=some e'->∃b c t fr cs' e0,e'=some ⟨true,.raw cs'⟩/\N0.β j=some b/\N0.H[b]? =some (.cells c t fr)/\Ib (.raw cs') c fr/\aek N0 cs' c/\N0.hp j=some e0/\eU e0 ⟨true,.raw cs'⟩)
 (PHo:∀j,j∈bW s.ph->∀b,N0.β j=some b->∀i,i∈own0++(bW s.vh++bW s.vb)->N0.β i≠some b)
 (PS:∀(j:Nat) (d:Dt) (t:Nat),t∈bW s.ps->(flat s.pk p)[j]? =some d->(s.pAV A)[j]? =some (get A.fr t)->bT V0 (encS (0+j) d.1 d.2) (tm t))
 (PL:∀t,t∈bW s.pl->bT N0 (get A.fr t) (tm t)) (hT:∀t,t∉D->T' t)
 {v:Tup s.vk} {N:Mem} {w:World} {A':FS} {a:Act} (tr:Trk (fun j=>j∈bW s.vh++bW s.vb) V0 w0 N w) (hKU:∀j,j∈bW s.vh++bW s.vb->N.U j) (hNp:∀j,N.hp j=A'.hp j) (hv:s.decV A'=some v)
 (hfr:∀t,bT N (get A'.fr t) (a.tmps.getD t undef)) (hkp:∀t,T' t->a.tmps.getD t undef=tm t) (hdf:a.defers=[]) (hnt:nt<=a.tmps.size):
 ∃V,Hd s p N0 V0 w0 T' tm nt v V w a:=by
 obtain⟨hbuf,hnd,hlt0,hps⟩:=LSh.good_inv hg
 obtain⟨hW,hap,R⟩:=WT hv
 obtain⟨hdup,hdis⟩:=Gf hap
 have hne:=Ro A'.hp s.vk (s.vAV A')
 obtain⟨N',st,h1,h2,h3,h4⟩:=Jd (w:=w) (hp:=A'.hp) (fun id e h=>by rw[hNp];exact h) tr.hrel tr.H (Jw A'.hp s.vk (s.vAV A')) hne
 have hfz:=afO hNp h1 hne
 have trN':Trk (fun j=>j∈bW s.vh++bW s.vb) V0 w0 N' w:=tr.trans (st.trk hKU)
 have bnd:∀ {b:Nat} {o:Obj},N0.H[b]? =some o->b<w0.heap.size:=fun h=>by rw[<-hH0];exact(awG.1 h).1
 have noOwn:∀j,j∈bW s.ph->∀b,N0.β j=some b->¬Own V0 b:=fun j hj b hb ho=>by
  obtain⟨k,e1,i,e,k1,k2,k3,k4,k5,k6⟩:=vw0.own ho
  exact PHo j hj b hb i (hσin k i e1 k1 k2 k3) k6
 have F0:∀b,N0.F b->N'.F b:=fun b h=>trN'.F b ((vw0.F b).2 h)
 have FH0:∀b,N0.F b->N'.H[b]? =N0.H[b]? :=fun b h=>(trN'.FH b ((vw0.F b).2 h)).trans (by rw[vw0.H])
 have stay:∀j,j∈bW s.ph->∀b,N0.β j=some b->b<w0.heap.size->N'.H[b]? =N0.H[b]? :=fun j hj b hb hlt=>by
  rw[trN'.H,trN'.old b hlt (noOwn j hj b hb),<-hH0]
 have inph:∀j e',look (qg true (split s.ph ((jo 0 (flat s.pk p)).drop s.ps.length)).1) j=some e'->j∈bW s.ph:=fun j e' h=>by
  by_cases hj:j∈bW s.ph
  ·exact hj
  ·rw[(BU true _ _ j).2 hj]at h;cases h
 obtain⟨V,σ,vw,vp,vU,vβ,vσ,seen,σin,vlo,_⟩:=amD hg (p:=p) (N':=N') (A':=A') trN'.hrel hfz hv (fun j hj=>hj) (fun j hj hm=>hdis j hj (Gq _ _ _ j hm)) N0.β (fun j e' hl=>by
  obtain⟨b,c,t,fr,cs',e0,g1,g2,g3,g4,g5,_⟩:=PH j e' hl
  refine⟨b,c,t,fr,cs',g1,g2,(stay j (inph j e' hl) b g2 (bnd g3)).trans g3,g4,(g5.is F0 FH0).2,fun i hi hb=> ?_⟩
  obtain⟨e,k1,k2⟩:=agU hv i hi
  have hno:i∉Jw A'.hp s.vk (s.vAV A'):=fun hm=>by
   refine hdis i ?_ (Gq _ _ _ i hm)
   rcases awt.1 hi with h | h
   ·exact awM _ h
   ·refine awD _ ?_
    rcases awt.1 h with h | h
    ·exact awM _ h
    ·exact awD _ (awM _ h)
  have hNi:N'.hp i=some e:=by rw[hfz i,awg hno];exact k1
  rcases trN'.own b ⟨i,e,hNi,k2,hb⟩with h | h
  ·exact noOwn j (inph j e' hl) b g2 h
  ·have:=bnd g3;omega) (Us:=fun j=>j<8*(s.c0+s.vk.length)) (fun j hj=>by
  rcases hj with h | h | h
  ·have:=hlt0 j (awM _ h);show _<_;omega
  ·have:=hlt0 j (awD _ h);show _<_;omega
  ·exact h.2)
 have hKσ:∀j,j∈bW s.vh++bW s.vb->σ j=some j:=fun j hj=>vσ j (fun h=>(xM hnd).2.2 j h hj) (hlt0 j (awD _ hj))
 have trV:Trk (fun j=>j∈bW s.vh++bW s.vb) V0 w0 V w:=trN'.trans (vw.trk trN'.hrel trN'.H hKσ)
 have le:Le N0 V:=le_head hg hH0 hN0U vw0 hσ0 PH noOwn trV vp vU vβ vlo
 have F1:∀b,V0.F b->V.F b:=trV.F
 have FH1:∀b,V0.F b->V.H[b]? =V0.H[b]? :=trV.FH
 refine⟨V,trV,vp,vU,fun t=> ?_,fun t=> ?_,hkp,hdf,hnt⟩
 ·rcases anV hp R hpl t with ⟨j,d,g1,g2,g3,g4⟩ | ⟨g1,g2,g3⟩ | ⟨j,d,g1,g2,g3⟩ | g1
  ·rw[g4,hkp t (hT t (hps t (.inl g1)))]
   exact ak7 F1 FH1 (hbuf j d.1 (qG g2)) ((LSh.good_rf hg).1 j d.1 (qG g2)) (PS j d t g1 g2 g3)
  ·rw[g2,hkp t (hT t (hps t (.inr g1)))]
   exact(PL t g1).le le
  ·rw[g3]
   exact seen j d _ g1 g2 _ ((hfr t).le st.le)
  ·rw[g1];exact .undef _
 ·rcases anV hp R hpl t with ⟨j,d,g1,g2,g3,g4⟩ | ⟨g1,g2,g3⟩ | ⟨j,d,g1,g2,g3⟩ | g1
  ·rw[g4];exact aa4 _ _
  ·rw[g2];exact g3
  ·rw[g3];exact aa4 _ _
  ·rw[g1];trivial
theorem PY {α:Type} (d:List Nat):∀(l:List (Nat×α)) (k:Nat),look (strike d l) k=if k∈d then none else look l k
 |[],k=>by simp [strike,look]
 |(i,a)::r,k=>by
  rw[strike]
  cases h:d.any (fun j=>Nat.beq i j)with
  |true=>
   obtain⟨j,h1,h2⟩:=axi.1 h
   have:=aws h2
   subst this
   simp only[cond_true,PY d r k,look]
   by_cases hk:k∈d
   ·simp [hk]
   ·have:Nat.beq i k=false:=iL fun e=>hk (e▸h1)
    simp [this]
  |false=>
   simp only[cond_false,look,PY d r k]
   cases hb:Nat.beq i k with
   |true=>
    have:=aws hb
    subst this
    have hn:i∉d:=fun hi=>by
     have:d.any (fun j=>Nat.beq i j)=true:=axi.2 ⟨i,hi,by simp⟩
     rw[this]at h;cases h
    simp [hn]
   |false=>simp
theorem al6 (d:List Nat) (l:List (Nat×AV)) (t:Nat):get (strike d l) t=if t∈d then .undef else get l t:=by
 unfold get;rw[PY];by_cases h:t∈d
 ·simp [h]
 ·simp [h]
def zB.asH (o:zB) (c:Nat):LSh:=⟨c,[],[],[],o.os,o.oh,o.ob⟩
def zB.good (s:LSh) (o:zB):Bool:=(o.k.all fun h=>match h with | .rf i=>(bW o.ob).any fun j=>Nat.beq i j | _=>true)&&PO (bW o.oh++bW o.ob)&&(bW o.oh++bW o.ob).all fun i=>(bW s.vh++bW s.vb).any fun j=>Nat.beq j i
theorem zB.good_inv {s:LSh} {o:zB} (h:o.good s=true):PO (bW o.oh++bW o.ob)=true/\∀i∈bW o.oh++bW o.ob,i∈bW s.vh++bW s.vb:=by
 unfold zB.good at h;simp only[awp]at h;refine⟨h.1.2,fun i hi=> ?_⟩;have:=awV.1 h.2 i hi;obtain⟨j,h1,h2⟩:=axi.1 this;have:=aws h2;exact this▸h1
theorem zB.good_rf {s:LSh} {o:zB} (h:o.good s=true):(o.k.all fun h=>match h with | .rf i=>(bW o.ob).any fun j=>Nat.beq i j | _=>true)=true:=by
 unfold zB.good at h;simp only[awp]at h;exact h.1.1
theorem zB.dec_asH {o:zB} {c:Nat} {A:FS} {x:Tup o.k} (h:o.dec A=some x):(o.asH c).decV A=some x:=by
 have h1:(o.asH c).decV A=o.dec A:=by
  unfold LSh.decV zB.dec;simp only[zB.asH,bW,axn]
  rfl
 rw[h1];exact h
theorem ag1 {a b:Ex} (h:acy a b=true):a=b:=by
 cases a<;>cases b<;>simp [acy]at h<;>first | rfl | (have:=aws (by simpa using h);subst this;rfl)
theorem aj0 {τ:Type} (D H fz:List Nat) (c:Nat) (A:FS):∀(os:List zB) (e:Ex) (A':FS) (x:agn os),afz os e A'=some x->
 ∃o∈os,∃x':Tup o.k,o.ex=e/\o.dec A'=some x'/\∀(F:Ex->FS->Option τ),atd D H fz c A F os x=F e (o.st D H fz c A x')
 |[],e,A',x,h=>by simp [afz]at h
 |[o],e,A',x,h=>by
  simp only[afz]at h
  cases hs:acy o.ex e with
  |false=>simp [hs]at h
  |true=>
   simp only[hs,cond_true]at h
   have:=ag1 hs
   subst this
   exact⟨o,aw0,x,rfl,h,fun F=>rfl⟩
 |o::q::r,e,A',x,h=>by
  rw[afz]at h
  cases hs:acy o.ex e with
  |true=>
   simp only[hs,cond_true]at h
   cases hd:o.dec A' with
   |none=>simp [hd]at h
   |some x'=>
    simp only[hd,awj]at h
    subst h
    have:=ag1 hs
    subst this
    exact⟨o,aw0,x',rfl,hd,fun F=>rfl⟩
  |false=>
   simp only[hs,cond_false]at h
   cases hd:afz (q::r) e A' with
   |none=>simp [hd]at h
   |some x'=>
    simp only[hd,awj]at h
    subst h
    obtain⟨o',h1,x2,h2,h3,h4⟩:=aj0 (τ:=τ) D H fz c A (q::r) e A' x' hd
    exact⟨o',awX _ h1,x2,h2,h3,fun F=>by rw[<-h4 F];rfl⟩
theorem aqp {o:zB} {D H fz:List Nat} {c:Nat} {A:FS} {x:Tup o.k} (j:Nat):FS.hp (o.st D H fz c A x) j=
 over (qg false (split o.oh ((jo (8*c) (flat o.k x)).drop o.os.length)).1) (over (uX o.ob (split o.oh ((jo (8*c) (flat o.k x)).drop o.os.length)).2) (over (BN (8*c) (flat o.k x))
  (over (freeze A.hp fz) (fun j=>if j∈H then none else A.hp j)))) j:=by
 unfold zB.st
 generalize freeze A.hp fz=G
 unfold FS.hp over
 simp only[Ah,A7,Lu,PY]
 cases look (qg false (split o.oh ((jo (8*c) (flat o.k x)).drop o.os.length)).1) j with
 |some e=>rfl
 |none=>
  simp only
  cases look (uX o.ob (split o.oh ((jo (8*c) (flat o.k x)).drop o.os.length)).2) j with
  |some e=>rfl
  |none=>
   simp only
   cases look (BN (8*c) (flat o.k x)) j with
   |some e=>rfl
   |none=>
    simp only
    cases look G j with
    |some e=>rfl
    |none=>
     simp only
     by_cases h:j∈H
     ·simp [h]
     ·simp [h]
theorem RZ {u:List (Nat×Option Ent)} {h h':Nat->Option Ent} {j:Nat}:(∃e,look u j=some e/\over u h j=e/\over u h' j=e)\/(look u j=none/\over u h j=h j/\over u h' j=h' j):=by
 unfold over;cases hl:look u j with
 |some e=>exact .inl ⟨e,rfl,rfl,rfl⟩
 |none=>exact .inr ⟨rfl,rfl,rfl⟩
theorem aqk {s:LSh} {D:List Nat} (hg:s.good D=true) {o:zB} (hgo:o.good s=true) {B:Bse} {M:Mem} {A:FS} {a0:Act} {w0:World} (hB:Pz B) (R:Rel B M A a0 w0) (hclk:A.clk<=s.c0)
 {N0 V0:Mem} {σ0:Nat->Option Nat} {H fz ids0:List Nat} (st0:Stp M w0 N0 w0) (hN0U:N0.U=M.U) (hN0β:N0.β=M.β) (hfz0:Tt A.hp N0.hp ids0) (hids:∀i,i∈ids0↔i∈fz/\A.hp i≠none) (hHfz:∀i∈H,i∉fz)
 (vw0:View N0 V0 σ0) (hσ0:∀j,j∉bW s.ph->j<8*s.c0->σ0 j=some j) (hσin:∀k i e1,V0.hp k=some e1->e1.fz=false->σ0 k=some i->i∈H) (hHv:∀i,i∈bW s.vh++bW s.vb->i∈H/\A.hp i≠none)
 {T':Nat->Prop} (hT:∀t,t∉D->T' t) (hTB:∀t,B.T t->T' t)
 {N:Mem} {w:World} {A':FS} {a:Act} {x:Tup o.k} (tr:Trk (fun j=>j∈bW s.vh++bW s.vb) V0 w0 N w) (hKU:∀j,j∈bW s.vh++bW s.vb->N.U j) (hNp:∀j,N.hp j=A'.hp j) (hx:o.dec A'=some x)
 (hfr:∀t,bT N (get A'.fr t) (a.tmps.getD t undef)) (hkp:∀t,T' t->a.tmps.getD t undef=a0.tmps.getD t undef) (hdf:a.defers=[]) (hnt:B.nt<=a.tmps.size):
 ∃Nf,Rel B Nf (o.st D H fz (s.c0+s.vk.length) A x) a w:=by
 obtain⟨hbuf,hnd,hlt0,hps⟩:=LSh.good_inv hg
 obtain⟨hndo,hsub⟩:=zB.good_inv hgo
 have hv:=zB.dec_asH (c:=s.c0+s.vk.length) hx
 obtain⟨hW,hap,Rv⟩:=WT hv
 obtain⟨hdup,hdis⟩:=Gf hap
 obtain⟨c',hc'⟩:∃c',c'=s.c0+s.vk.length:=⟨_,rfl⟩
 rw[<-hc']at hv hW hap Rv hdup hdis ⊢
 have hc0:s.c0<=c':=by omega
 have hinV:∀j,j∈bW s.vh++bW s.vb->j<8*s.c0:=fun j hj=>hlt0 j (awD _ hj)
 have hM:=R.stp.hrel
 have hMH:=R.stp.H
 have hMF:=R.F hB
 have hN0Ulo:∀id,N0.U id->id<8*s.c0:=fun id h=>by
  rw[hN0U]at h
  rcases R.ub id h with h | ⟨_,h⟩
  ·have:=hB.U id h;have:=R.clk;omega
  ·omega
 have hne:=Ro A'.hp (o.asH c').vk ((o.asH c').vAV A')
 obtain⟨N',st,h1,h2,h3,h4⟩:=Jd (w:=w) (hp:=A'.hp) (fun id e h=>by rw[hNp];exact h) tr.hrel tr.H (Jw A'.hp (o.asH c').vk ((o.asH c').vAV A')) hne
 have hfz:=afO hNp h1 hne
 have trN':Trk (fun j=>j∈bW s.vh++bW s.vb) V0 w0 N' w:=tr.trans (st.trk hKU)
 have hgo':(o.asH c').good []=true:=by
  unfold LSh.good
  simp only[awp]
  refine⟨⟨⟨⟨⟨zB.good_rf hgo,rfl⟩,rfl⟩,hndo⟩,?_⟩,rfl⟩
  refine awV.2 fun i hi=> ?_
  have:=hinV i (hsub i hi)
  have:i<8*c':=by omega
  simpa [zB.asH,axr] using this
 obtain⟨V,σ,vw,vp,vU,vβ,vσ,seen,σin,vlo,vfz⟩:=amD (s:=o.asH c') hgo' (p:=()) (N':=N') (A':=A') trN'.hrel hfz hv (fun j hj=>hj) (fun j hj hm=>hdis j hj (Gq _ _ _ j hm)) (fun _=>none)
  (fun j e' hl=>by cases hl) (Us:=fun j=>j∈bW o.oh++bW o.ob\/(8*c'<=j/\j<8*(c'+o.k.length))) (fun j hj=>by
    rcases hj with h | h | h
    ·cases h
    ·exact .inl h
    ·exact .inr h)
 have hKσ:∀j,j∈bW s.vh++bW s.vb->σ j=some j:=fun j hj=>vσ j (fun h=>by cases h) (by have:=hinV j hj;show j<8*c';omega)
 have trV:Trk (fun j=>j∈bW s.vh++bW s.vb) V0 w0 V w:=trN'.trans (vw.trk trN'.hrel trN'.H hKσ)
 have vpo:∀j,V.hp j=over (qg false (split o.oh ((jo (8*c') (flat o.k x)).drop o.os.length)).1) (over (uX o.ob (split o.oh ((jo (8*c') (flat o.k x)).drop o.os.length)).2) (over (BN (8*c') (flat o.k x)) (fun _=>none))) j:=fun j=>by
  rw[vp];exact ala (s:=o.asH c') () x j
 have base:∀j e',over (freeze A.hp fz) (fun j=>if j∈H then none else A.hp j) j=some e'->j∉H/\N0.hp j=some e':=fun j e' he=>by
  unfold over at he
  rw[ku]at he
  by_cases hj:j∈fz
  ·rw[awh hj]at he
   cases hA:A.hp j with
   |none=>simp [hA]at he
   |some e=>
    simp only[hA,awj]at he
    subst he
    refine⟨fun hh=>hHfz j hh hj,?_⟩
    rw[hfz0 j,awh ((hids j).2 ⟨hj,by rw[hA];simp⟩),hA];rfl
  ·rw[awg hj]at he
   simp only at he
   by_cases hh:j∈H
   ·rw[awh hh]at he;cases he
   ·rw[awg hh]at he
    refine⟨hh,?_⟩
    rw[hfz0 j,awg (fun h=>hj ((hids j).1 h).1)];exact he
 have split2:∀j e',FS.hp (o.st D H fz c' A x) j=some e'->V.hp j=some e'\/(V.hp j=none/\j∉H/\N0.hp j=some e'):=fun j e' he=>by
  rw[aqp]at he
  rw[vpo]
  rcases RZ (u:=qg false (split o.oh ((jo (8*c') (flat o.k x)).drop o.os.length)).1) (j:=j)
   (h:=over (uX o.ob (split o.oh ((jo (8*c') (flat o.k x)).drop o.os.length)).2) (over (BN (8*c') (flat o.k x)) (over (freeze A.hp fz) (fun j=>if j∈H then none else A.hp j))))
   (h':=over (uX o.ob (split o.oh ((jo (8*c') (flat o.k x)).drop o.os.length)).2) (over (BN (8*c') (flat o.k x)) (fun _=>none)))with ⟨e,_,k1,k2⟩ | ⟨_,k1,k2⟩
  ·rw[k1]at he;subst he;exact .inl k2
  ·rw[k1]at he;rw[k2]
   rcases RZ (u:=uX o.ob (split o.oh ((jo (8*c') (flat o.k x)).drop o.os.length)).2) (j:=j)
    (h:=over (BN (8*c') (flat o.k x)) (over (freeze A.hp fz) (fun j=>if j∈H then none else A.hp j))) (h':=over (BN (8*c') (flat o.k x)) (fun _=>none))with ⟨e,_,k1,k2⟩ | ⟨_,k1,k2⟩
   ·rw[k1]at he;subst he;exact .inl k2
   ·rw[k1]at he;rw[k2]
    rcases RZ (u:=BN (8*c') (flat o.k x)) (j:=j) (h:=over (freeze A.hp fz) (fun j=>if j∈H then none else A.hp j)) (h':=fun _=>none)with ⟨e,_,k1,k2⟩ | ⟨_,k1,k2⟩
    ·rw[k1]at he;subst he;exact .inl k2
    ·rw[k1]at he;rw[k2]
     exact .inr ⟨rfl,base j e' he⟩
 have join:∀j e',V.hp j=some e'->FS.hp (o.st D H fz c' A x) j=some e':=fun j e' he=>by
  rw[aqp]
  rw[vpo]at he
  rcases RZ (u:=qg false (split o.oh ((jo (8*c') (flat o.k x)).drop o.os.length)).1) (j:=j)
   (h:=over (uX o.ob (split o.oh ((jo (8*c') (flat o.k x)).drop o.os.length)).2) (over (BN (8*c') (flat o.k x)) (over (freeze A.hp fz) (fun j=>if j∈H then none else A.hp j))))
   (h':=over (uX o.ob (split o.oh ((jo (8*c') (flat o.k x)).drop o.os.length)).2) (over (BN (8*c') (flat o.k x)) (fun _=>none)))with ⟨e,_,k1,k2⟩ | ⟨_,k1,k2⟩
  ·rw[k2]at he;subst he;exact k1
  ·rw[k2]at he;rw[k1]
   rcases RZ (u:=uX o.ob (split o.oh ((jo (8*c') (flat o.k x)).drop o.os.length)).2) (j:=j)
    (h:=over (BN (8*c') (flat o.k x)) (over (freeze A.hp fz) (fun j=>if j∈H then none else A.hp j))) (h':=over (BN (8*c') (flat o.k x)) (fun _=>none))with ⟨e,_,k1,k2⟩ | ⟨_,k1,k2⟩
   ·rw[k2]at he;subst he;exact k1
   ·rw[k2]at he;rw[k1]
    rcases RZ (u:=BN (8*c') (flat o.k x)) (j:=j) (h:=over (freeze A.hp fz) (fun j=>if j∈H then none else A.hp j)) (h':=fun _=>none)with ⟨e,_,k1,k2⟩ | ⟨_,k1,k2⟩
    ·rw[k2]at he;subst he;exact k1
    ·rw[k2]at he;cases he
 obtain⟨Nf,hNf⟩:∃Nf:Mem,Nf={ U:=fun j=>N0.U j\/(8*c'<=j/\j<8*(c'+o.k.length)),F:=V.F,β:=(fun j=>match V.hp j with | some _=>V.β j | none=>N0.β j),hp:=FS.hp (o.st D H fz c' A x),H:=w.heap }:=⟨_,rfl⟩
 have fU:∀j,Nf.U j↔N0.U j\/(8*c'<=j/\j<8*(c'+o.k.length)):=fun j=>by rw[hNf]
 have fF:∀b,Nf.F b↔V.F b:=fun b=>by rw[hNf]
 have fβ1:∀j e,V.hp j=some e->Nf.β j=V.β j:=fun j e h=>by rw[hNf];simp only[h]
 have fβ2:∀j,V.hp j=none->Nf.β j=N0.β j:=fun j h=>by rw[hNf];simp only[h]
 have fp:∀j,Nf.hp j=FS.hp (o.st D H fz c' A x) j:=fun j=>by rw[hNf]
 have fH:Nf.H=w.heap:=by rw[hNf]
 clear hNf
 have vin:∀j e,V.hp j=some e->(j∈bW o.oh++bW o.ob)\/8*c'<=j:=fun j e he=>by
  rcases ayh j (8*c')with h | h
  ·rcases vlo j (by rw[he];simp) h with h | h
   ·cases h
   ·exact .inl h
  ·exact .inr h
 have usedV:∀j,j∈bW s.vh++bW s.vb->N0.U j:=fun j hj=>by
  cases hA:A.hp j with
  |none=>exact absurd hA (hHv j hj).2
  |some e=>rw[hN0U];exact hM.used j e (by rw[R.hp];exact hA)
 have leV:Le V Nf:=by
  have key:∀id e',V.U id->Nf.hp id=some e'->V.hp id=some e':=fun id e' hU he=>by
   rw[fp]at he
   rcases split2 id e' he with h | ⟨_,h1,h2⟩
   ·exact h
   ·rw[vU]at hU
    rcases hU with hU | hU
    ·exact absurd (hHv id (hsub id hU)).1 h1
    ·have:=hN0Ulo id (st0.hrel.used id e' h2);omega
  refine⟨fun id hU=>(fU id).2 ?_,fun b h=>(fF b).2 h,fun b _=>by rw[fH,trV.H],fun id e' hU he=> ?_,fun id b n _ _ _ hn=>by rw[fH,<-trV.H];exact hn⟩
  ·rw[vU]at hU
   rcases hU with hU | hU
   ·exact .inl (usedV id (hsub id hU))
   ·exact .inr hU
  ·have h:=key id e' hU he
   exact⟨e',h,eU.refl _,fβ1 id e' h⟩
 have stf:Stp M w0 Nf w:=merge (ρ:=fun j=>match V.hp j with | some _=>some j | none=>none) hM hMH hMF st0 vw0 trV (fun id h=>(fU id).2 (.inl h)) fH fF (fun j e' he=>by
  rw[fp]at he
  rcases split2 j e' he with h | ⟨h1,h2,h3⟩
  ·refine⟨(fU j).2 ?_,.inl ⟨j,e',by simp only[h],h,fβ1 j e' h,⟨rfl,vfz j e' h (fun hm=>by cases hm)⟩,?_⟩⟩
   ·rcases vin j e' h with hh | hh
    ·exact .inl (usedV j (hsub j hh))
    ·have:=(vw.src j e' h).1
     rw[vU]at this
     rcases this with h' | h'
     ·exact .inl (usedV j (hsub j h'))
     ·exact .inr h'
   ·obtain⟨f,b⟩:=e'
    cases b with
    |arr t l=>rfl
    |raw cs=>exact⟨rfl,fun k v _ _ hs=>hs.le leV⟩
  ·refine⟨(fU j).2 (.inl (st0.hrel.used j e' h3)),.inr (.inl ⟨by simp only[h1],h3,fβ2 j h1,fun _ k e1 hk hf hs=>h2 (hσin k j e1 hk hf hs)⟩)⟩) (fun j q hq=>by
  cases h:V.hp j with
  |none=>simp only[h]at hq;cases hq
  |some e=>
   simp only[h]at hq
   cases hq
   rcases vin j e h with hh | hh
   ·exact .inr ⟨hsub j hh,hσ0 j (fun hp=>(xM hnd).2.2 j hp (hsub j hh)) (hinV j (hsub j hh))⟩
   ·exact .inl fun hU=>by have:=hN0Ulo j hU;omega) (fun j j' q e h1 h2 _ _=>by
  cases h:V.hp j with
  |none=>simp only[h]at h1;cases h1
  |some e=>
   simp only[h]at h1
   cases h1
   cases h':V.hp j' with
   |none=>simp only[h']at h2;cases h2
   |some e'=>
    simp only[h']at h2
    cases h2;rfl)
 have slots:∀t,(∃(j:Nat) (d:Dt),(flat o.k x)[j]? =some d/\((o.asH c').vAV A')[j]? =some (get A'.fr t)/\get (o.st D H fz c' A x).fr t=encS (8*c'+j) d.1 d.2)\/(get (o.st D H fz c' A x).fr t=if t∈D then .undef else get A.fr t):=fun t=>by
  have he:(o.st D H fz c' A x).fr=aa9 (bW o.os) ((jo (8*c') (flat o.k x)).take o.os.length)++strike D A.fr:=by
   unfold zB.st
   simp only[Ah]
  rw[he]
  rcases Rv.slot (8*c') t (strike D A.fr)with ⟨j,d,_,h1,h2,h3⟩ | ⟨_,h1⟩
  ·exact .inl ⟨j,d,h1,h2,h3⟩
  ·refine .inr ?_
   rw[<-al6]
   exact h1
 refine⟨Nf,R.stp.trans stf hB.rel hB.H,fun t=> ?_,fp,hdf,hnt,fun t ht=>(hkp t (hTB t ht)).trans (R.kp t ht),fun id hU=> ?_,fun t c j x' g v' hc=> ?_,?_⟩
 ·rcases slots t with ⟨j,d,h1,h2,h3⟩ | h
  ·rw[h3]
   exact(seen j d _ h1 h2 _ ((hfr t).le st.le)).le leV
  ·rw[h]
   by_cases hD:t∈D
   ·rw[awh hD];exact .undef _
   ·rw[awg hD,hkp t (hT t hD)]
    exact(R.fr t).le stf.le
 ·have:=R.clk
  show _\/(_/\id<8*(c'+o.k.length))
  rcases(fU id).1 hU with h | h
  ·rw[hN0U]at h
   rcases R.ub id h with h | h
   ·exact .inl h
   ·exact .inr ⟨h.1,by omega⟩
  ·exact .inr ⟨by omega,h.2⟩
 ·show _/\c<c'+o.k.length
  rcases slots t with ⟨j',d,h1,h2,h3⟩ | h
  ·have:=aa4 (8*c'+j') d
   rw[<-h3,hc]at this
   exact this.elim
  ·rw[h]at hc
   by_cases hD:t∈D
   ·rw[awh hD]at hc;cases hc
   ·rw[awg hD]at hc
    obtain⟨k1,k2⟩:=R.cond t c j x' g v' hc
    exact⟨k1,by omega⟩
 ·show B.cb<=c'+o.k.length
  have:=R.clk;omega
theorem avp {C:Cx} (K:CxR C) {s:LSh} {os:List zB} {D:List Nat} {step:Tup s.pk->Tup s.vk->Option (Tup s.vk ⊕ agn os)} {pf pos n:Nat} {c:Code} (hg:s.good D=true) (hgo:os.all (zB.good s)=true)
 (hat:At C.P pf pos (.loop c)) (L:BA C pf (2*pos)) (hD:Va D c=true) (hstep:∀p v r,step p v=some r->aoa C n pf pos c s os p v=some r):ao4 C.P pf c (s.spec os D step):=by
 intro τ y B M A a0 w0 pv wv F Q hB hnt hkp R hdec hrun hout hQ
 obtain⟨p,v0⟩:Tup s.pk×Tup s.vk:=pv
 have hdec:(match s.decP A with
  |none=>none
  |some p=>match s.decV A with
   |none=>none
   |some v=>bif !inter (iR O4 s.pk (s.pAV A)) (iR jX s.vk (s.vAV A)++(bW s.vh++(bW s.vb++bW s.ph)))then some (p,v)else none)=some (p,v0):=hdec
 cases hdp:s.decP A with
 |none=>simp [hdp]at hdec
 |some p'=>
 cases hdv:s.decV A with
 |none=>simp [hdp,hdv]at hdec
 |some v'=>
 cases hin:inter (iR O4 s.pk (s.pAV A)) (iR jX s.vk (s.vAV A)++(bW s.vh++(bW s.vb++bW s.ph)))with
 |true=>simp [hdp,hdv,hin]at hdec
 |false=>
 simp only[hdp,hdv,hin,ayY,cond_true,awj,awo]at hdec
 obtain⟨rfl,rfl⟩:=hdec
 obtain⟨hclk,hpl,Rp⟩:=aqu hdp
 obtain⟨hW,hap,Rv⟩:=WT hdv
 obtain⟨hdup,hdis⟩:=Gf hap
 obtain⟨hbuf,hnd,hlt0,hps⟩:=LSh.good_inv hg
 have hM:=R.stp.hrel
 have hMH:=R.stp.H
 obtain⟨fz,hfzd⟩:∃fz,fz=iR O4 s.pk (s.pAV A)++iR O4 s.vk (s.vAV A):=⟨_,rfl⟩
 obtain⟨H,hHd⟩:∃H,H=iR jX s.vk (s.vAV A)++(bW s.vh++bW s.vb):=⟨_,rfl⟩
 obtain⟨ids0,hidsd⟩:∃ids0,ids0=fz.filter fun i=>(A.hp i).isSome:=⟨_,rfl⟩
 have hids:∀i,i∈ids0↔i∈fz/\A.hp i≠none:=fun i=>by
  rw[hidsd,axK]
  cases A.hp i<;>simp
 have hall:∀j∈iR jX s.vk (s.vAV A)++(bW s.vh++(bW s.vb++bW s.ph)),j∉fz:=fun j hj hm=>by
  rw[hfzd]at hm
  rcases awt.1 hm with hm | hm
  ·exact Tj hin hm hj
  ·exact hdis j hj hm
 have hHsub:∀j∈H,j∈iR jX s.vk (s.vAV A)++(bW s.vh++(bW s.vb++bW s.ph)):=fun j hj=>by
  rw[hHd]at hj
  rcases awt.1 hj with h | h
  ·exact awM _ h
  ·refine awD _ ?_
   rcases awt.1 h with h | h
   ·exact awM _ h
   ·exact awD _ (awM _ h)
 obtain⟨N0,st0,h0p,h0U,h0β,h0H⟩:=Jd (w:=w0) (hp:=A.hp) (fun id e h=>by rw[R.hp];exact h) hM hMH ids0 fun i hi=>((hids i).1 hi).2
 have hfz0:=afO R.hp h0p fun i hi=>((hids i).1 hi).2
 have hN0:=st0.hrel
 have hH0:=st0.H
 have hN0U:∀id,N0.U id->id<8*s.c0:=fun id h=>by
  rw[h0U]at h
  rcases R.ub id h with h | ⟨_,h⟩
  ·have:=hB.U id h;have:=R.clk;omega
  ·omega
 have hp1:∀j∈Jw A.hp s.pk (s.pAV A),j∈ids0:=fun j hj=>(hids j).2 ⟨by rw[hfzd];exact awM _ (Gq _ _ _ j hj),Ro _ _ _ j hj⟩
 have hv1:∀j∈Jw A.hp s.vk (s.vAV A),j∈ids0:=fun j hj=>(hids j).2 ⟨by rw[hfzd];exact awD _ (Gq _ _ _ j hj),Ro _ _ _ j hj⟩
 have hv2:∀j∈iR jX s.vk (s.vAV A)++(bW s.vh++(bW s.vb++bW s.ph)),j∉ids0:=fun j hj hm=>hall j hj ((hids j).1 hm).1
 have PH:=aqt hg (p:=p') hN0 hfz0 Rp hp1
 have alive:=agU hdv
 have PHo:∀j,j∈bW s.ph->∀b,N0.β j=some b->∀i,i∈iR jX s.vk (s.vAV A)++(bW s.vh++bW s.vb)->N0.β i≠some b:=fun j hj b hb i hi hbi=>by
  obtain⟨e,k1,k2⟩:=alive i hi
  have hNi:N0.hp i=some e:=by rw[hfz0 i,awg (hv2 i (hHsub i (by rw[hHd];exact hi)))];exact k1
  obtain⟨e1,he1⟩:=(BU true s.ph ((jo 0 (flat s.pk p')).drop s.ps.length) j).1 hj
  obtain⟨_,_,_,_,_,e0,_,_,_,_,_,g6,_⟩:=PH j e1 he1
  have hij:=hN0.inj i j e e0 b hNi g6 k2 hbi hb
  subst hij
  rcases awt.1 hi with h | h
  ·exact(xM hdup).2.2 i h (awD _ (awD _ hj))
  ·exact(xM hnd).2.2 i hj h
 obtain⟨V0,σ0,vw0,vp0,vU0,vβ0,vσ0,seen0,σin0,vlo0,_⟩:=amD hg (p:=p') (N':=N0) (A':=A) hN0 hfz0 hdv hv1 hv2 N0.β (fun j e' hl=>by
  obtain⟨b,c,t,fr,cs',e0,g1,g2,g3,g4,g5,_⟩:=PH j e' hl
  have hj:j∈bW s.ph:=by
   by_cases hj:j∈bW s.ph
   ·exact hj
   ·rw[(BU true _ _ j).2 hj]at hl;cases hl
  exact⟨b,c,t,fr,cs',g1,g2,g3,g4,g5,PHo j hj b g2⟩) (Us:=fun j=>j<8*(s.c0+s.vk.length)) (fun j hj=>by
  rcases hj with h | h | h
  ·have:=hlt0 j (awM _ h);show _<_;omega
  ·have:=hlt0 j (awD _ h);show _<_;omega
  ·exact h.2)
 have hV0:=vw0.hrel hN0
 have hV0H:V0.H=w0.heap:=vw0.H.trans hH0
 have hV0F:∀b,V0.F b->b<w0.heap.size:=fun b hb=>st0.Fsz (R.F hB) b ((vw0.F b).1 hb)
 obtain⟨tm,htm⟩:∃tm:Nat->Value,tm=fun t=>a0.tmps.getD t undef:=⟨_,rfl⟩
 have htm':∀t,tm t=a0.tmps.getD t undef:=fun t=>by rw[htm]
 clear htm
 obtain⟨T',hT'⟩:∃T':Nat->Prop,T'=fun t=>t∉D\/B.T t:=⟨_,rfl⟩
 have hTD:∀t,t∉D->T' t:=fun t h=>by rw[hT'];exact .inl h
 have hTB:∀t,B.T t->T' t:=fun t h=>by rw[hT'];exact .inr h
 have hkeep:Keeps T' c:=Eg (fun t h=>by rw[hT']at h;exact h) c hD hkp
 have hKU0:∀j,j∈bW s.vh++bW s.vb->V0.U j:=fun j hj=>by
  rw[vU0];have:=hlt0 j (awD _ hj);show _<_;omega
 have PS:∀(j:Nat) (d:Dt) (t:Nat),t∈bW s.ps->(flat s.pk p')[j]? =some d->(s.pAV A)[j]? =some (get A.fr t)->bT V0 (encS (0+j) d.1 d.2) (tm t):=fun j d t ht h1 h2=>by
  have hne:=hbuf j d.1 (qG h1)
  have:bT N0 (encS (0+j) d.1 d.2) (tm t):=by
   rw[htm']
   exact amd hN0 hfz0 (fun x hx=>hp1 x (KW _ (qG h1) h2 hx)) (fun x hx=>by rw[adS hne]at hx;cases hx) (fun _ h=>h) rfl (by
    obtain⟨sh,z⟩:=d
    cases sh with
    |buf e=>exact absurd rfl (hne e)
    |rf q=>exact absurd rfl ((LSh.good_rf hg).1 j _ (qG h1) q)
    |_=>trivial) ((R.fr t).le st0.le) (Rp.dec.get j d _ h1 h2)
  exact ak7 (fun b hb=>(vw0.F b).2 hb) (fun b _=>by rw[vw0.H]) hne ((LSh.good_rf hg).1 j d.1 (qG h1)) this
 have PL:∀t,t∈bW s.pl->bT N0 (get A.fr t) (tm t):=fun t _=>by rw[htm'];exact(R.fr t).le st0.le
 have hHv:∀i,i∈bW s.vh++bW s.vb->i∈H/\A.hp i≠none:=fun i hi=>by
  have:i∈iR jX s.vk (s.vAV A)++(bW s.vh++bW s.vb):=awD _ hi
  obtain⟨e,k1,_⟩:=alive i this
  exact⟨by rw[hHd];exact this,by rw[k1];simp⟩
 have hout:atd D H fz (s.c0+s.vk.length) A F os wv=some y:=by rw[hHd,hfzd];exact hout
 have rounds:∀(m:Nat) (v:Tup s.vk) (V:Mem) (w:World) (a:Act),Hd s p' N0 V0 w0 T' tm B.nt v V w a->bU (step p') m v=some wv->aas C.P c Q a w:=by
  intro m
  induction m with
  |zero=>intro v V w a _ h;simp [bU]at h
  |succ m ih=>
   intro v V w a hd h
   simp only[bU]at h
   obtain⟨r,hr,h⟩:=awi.1 h
   have hrl:=hstep p' v r hr
   unfold aoa at hrl
   have hB1:Pz ⟨V,w,s.c0+s.vk.length,B.nt,T',tm⟩:=⟨hd.trk.hrel,hd.trk.H,hd.trk.Fsz hV0F,fun id hU=>by have hU:V.U id:=hU;rw[hd.U]at hU;exact hU⟩
   have hR1:Rel ⟨V,w,s.c0+s.vk.length,B.nt,T',tm⟩ V (s.st p' v) a w:=⟨Stp.refl hd.trk.hrel hd.trk.H,hd.fr,hd.hp,hd.df,hd.nt,hd.kp,fun id hU=> .inl hU,fun t c' j x' g v' hc=>by
    have:=hd.nc t
    rw[hc]at this
    exact this.elim,awk _⟩
   refine afQ (V4 (ZQ K n r pf (2*pos) c (s.st p' v) _ hrl _ hB1 hnt (hat.kid 0 (by omega) rfl) L hkeep V a w hR1 _ fun e A' N a' w' he R'=> ?_))
   have hKUV:∀j,j∈bW s.vh++bW s.vb->V.U j:=fun j hj=>by
    rw[hd.U];have:=hlt0 j (awD _ hj);show _<_;omega
   have trN:Trk (fun j=>j∈bW s.vh++bW s.vb) V0 w0 N w':=hd.trk.trans (R'.stp.trk hKUV)
   have hKUN:∀j,j∈bW s.vh++bW s.vb->N.U j:=fun j hj=>R'.stp.le.U j (hKUV j hj)
   have leave:∀x,afz os e A'=some x->r= .inr x->Q (apm e) a' w':=fun x hx hrx=>by
    subst hrx
    have h:x=wv:=awr h
    subst h
    obtain⟨o,ho,x',h1,h2,h3⟩:=aj0 (τ:=τ) D H fz (s.c0+s.vk.length) A os e A' x hx
    rw[h3 F]at hout
    obtain⟨Nf,hRf⟩:=aqk hg (awV.1 hgo o ho) hB R hclk st0 h0U h0β hfz0 hids (fun i hi=>hall i (hHsub i hi)) vw0 vσ0 (fun k i e1 hk hf hs=>by rw[hHd];exact σin0 k i e1 hk hf hs) hHv hTD hTB trN hKUN R'.hp h2 R'.fr
     (fun t ht=>(R'.kp t ht).trans (htm' t)) R'.df R'.nt
    exact hQ e _ Nf a' w' hout hRf
   cases e with
   |normal=>
    simp only at he
    cases hdn:s.decV { A' with clk:=s.c0 } with
    |none=>simp [hdn,bad]at he
    |some v2=>
     simp only[hdn,awj]at he
     subst he
     have hdn':s.decV A'=some v2:=hdn
     obtain⟨V2,hd2⟩:=arJ hg (A:=A) (own0:=iR jX s.vk (s.vAV A)) hN0 hH0 hN0U vw0 vσ0 σin0 Rp hpl PH PHo PS PL hTD trN hKUN R'.hp hdn' R'.fr R'.kp R'.df R'.nt
     exact ih v2 V2 w' a' hd2 h
   |ret=>
    simp only at he
    cases hx:afz os .ret A' with
    |none=>simp [hx,bad]at he
    |some x=>
     simp only[hx,awj]at he
     exact leave x hx he.symm
   |exit i=>
    simp only at he
    cases hx:afz os (.exit i) A' with
    |none=>simp [hx,bad]at he
    |some x=>
     simp only[hx,awj]at he
     exact leave x hx he.symm
 have noOwn:∀j,j∈bW s.ph->∀b,N0.β j=some b->¬Own V0 b:=fun j hj b hb ho=>by
  obtain⟨k,e1,i,e,k1,k2,k3,k4,k5,k6⟩:=vw0.own ho
  exact PHo j hj b hb i (σin0 k i e1 k1 k2 k3) k6
 have le0:Le N0 V0:=le_head hg hH0 hN0U vw0 vσ0 PH noOwn (Trk.refl hV0 hV0H hKU0) vp0 vU0 vβ0 vlo0
 refine rounds LF v' V0 w0 a0 ⟨Trk.refl hV0 hV0H hKU0,vp0,vU0,fun t=> ?_,fun t=> ?_,fun t _=>(htm' t).symm,R.df,R.nt⟩ hrun
 ·rcases anV Rp Rv hpl t with ⟨j,d,g1,g2,g3,g4⟩ | ⟨g1,g2,g3⟩ | ⟨j,d,g1,g2,g3⟩ | g1
  ·rw[g4,<-htm']
   exact PS j d t g1 g2 g3
  ·rw[g2,<-htm']
   exact(PL t g1).le le0
  ·rw[g3]
   exact seen0 j d _ g1 g2 _ ((R.fr t).le st0.le)
  ·rw[g1];exact .undef _
 ·rcases anV Rp Rv hpl t with ⟨j,d,g1,g2,g3,g4⟩ | ⟨g1,g2,g3⟩ | ⟨j,d,g1,g2,g3⟩ | g1
  ·rw[g4];exact aa4 _ _
  ·rw[g2];exact g3
  ·rw[g3];exact aa4 _ _
  ·rw[g1];trivial
end Go.Av
namespace Go.Av
open Go
theorem mapM_mono {α β:Type} {f g:α->Option β} (h:∀a b,f a=some b->g a=some b):∀(l:List α) (r:List β),l.mapM f=some r->l.mapM g=some r
 |[],r,hr=>by simpa using hr
 |a::l,r,hr=>by
  simp only[ayJ,bind,awi,pure]at hr ⊢
  obtain⟨b,h1,bs,h2,h3⟩:=hr
  exact⟨b,h a b h1,bs,mapM_mono h l bs h2,h3⟩
theorem afo {α σ:Type} {f g:α->σ->Option (ForInStep σ)} (h:∀a s r,f a s=some r->g a s=some r):∀(l:List α) (s r:σ),forIn l s f=some r->forIn l s g=some r
 |[],s,r,hr=>by simpa using hr
 |a::l,s,r,hr=>by
  simp only[List.forIn_cons,bind,awi]at hr ⊢
  obtain⟨b,h1,h2⟩:=hr
  refine⟨b,h a s b h1,?_⟩
  cases b with
  |done s'=>exact h2
  |yield s'=>exact afo h l s' r h2
theorem ag3 {α σ:Type} {f:α->σ->Option (ForInStep σ)} (I:σ->Prop) (h:∀a s r,I s->f a s=some r->match r with | .done s'=>I s' | .yield s'=>I s'):∀(l:List α) (s r:σ),I s->forIn l s f=some r->I r
 |[],s,r,hs,hr=>by
  simp at hr;exact hr▸hs
 |a::l,s,r,hs,hr=>by
  simp only[List.forIn_cons,bind,awi]at hr
  obtain⟨b,h1,h2⟩:=hr
  have:=h a s b hs h1
  cases b with
  |done s'=>simp [pure]at h2;exact h2▸this
  |yield s'=>exact ag3 I h l s' r this h2
section
variable {f g:TypeId->Option TypeInfo} (h:∀t i,f t=some i->g t=some i)
include h
theorem ah0 {ps rs:Array TypeId} {v:Bool} {s:String} (hs:Made.funcStr f ps rs v=some s):Made.funcStr g ps rs v=some s:=by
 unfold Made.funcStr at hs ⊢;simp only[bind,awi,pure]at hs ⊢;obtain⟨ins,h1,outs,h2,h3⟩:=hs;refine⟨ins,mapM_mono (fun p b hb=> ?_) _ _ h1,outs,mapM_mono (fun p b hb=> ?_) _ _ h2,h3⟩
 ·obtain⟨t,k⟩:=p;simp only[awi]at hb ⊢;obtain⟨i,hi,hb⟩:=hb;refine⟨i,h _ _ hi,?_⟩;split at hb
  ·rename_i hc;rw[awh hc];simp only[awi]at hb ⊢;obtain⟨d,hd,hb⟩:=hb;refine⟨d,?_,?_⟩
   ·split at hd
    ·rename_i nm u hn;rw[ayN]at hd;obtain⟨j,h1,h2⟩:=hd;simp only[hn,ayN];exact⟨j,h _ _ h1,h2⟩
    ·exact hd
   ·split at hb
    ·rename_i e;simp only[awi]at hb ⊢;obtain⟨j,hj,q,hq,hb⟩:=hb;exact⟨j,h _ _ hj,q,hq,hb⟩
    ·cases hb
  ·rename_i hc;rw[awg hc];exact hb
 ·simp only[awi]at hb ⊢;obtain⟨i,hi,hb⟩:=hb;exact⟨i,h _ _ hi,hb⟩
theorem ak3 {fs:Array Field} {r:TypeInfo} (hr:Made.reckonStruct f fs=some r):Made.reckonStruct g fs=some r:=by
 unfold Made.reckonStruct at hr ⊢;simp only[bind,awi,pure]at hr ⊢;obtain⟨a,h1,h2⟩:=hr;refine⟨a,?_,h2⟩;rw[<-Array.forIn_toList]at h1 ⊢;refine afo (fun x s q hq=> ?_) _ _ _ h1;simp only[awi]at hq ⊢;obtain⟨i,hi,hq⟩:=hq;exact⟨i,h _ _ hi,hq⟩
theorem akm {d:TypeDesc} {r:TypeInfo} (hr:Made.reckon f d=some r):Made.reckon g d=some r:=by
 cases d with
 |struct fs=>exact ak3 h hr
 |_=>
  unfold Made.reckon at hr ⊢;simp only[bind,awi,pure]at hr ⊢
  first
  |exact hr
  |(obtain⟨i,h1,h2⟩:=hr;exact⟨i,h _ _ h1,h2⟩)
  |(obtain⟨s,⟨i,h1,h2⟩,h3⟩:=hr;exact⟨s,⟨i,h _ _ h1,h2⟩,h3⟩)
  |(obtain⟨s,⟨i,h1,h2⟩,s2,⟨i2,h3,h4⟩,h5⟩:=hr;exact⟨s,⟨i,h _ _ h1,h2⟩,s2,⟨i2,h _ _ h3,h4⟩,h5⟩)
  |(obtain⟨s,h1,h2⟩:=hr;exact⟨s,ah0 h h1,h2⟩)
  |(obtain⟨a,h1,s,h2,b,h3,h4⟩:=hr;exact⟨a,h _ _ h1,s,h2,b,h _ _ h3,h4⟩)
end
theorem adb (T:Tables):∀(n:Nat) (t:TypeId) (i:TypeInfo),Made.infoAt T n t=some i->Made.infoAt T (n+1) t=some i
 |0,t,i,h=>by simp [Made.infoAt]at h
 |n+1,t,i,h=>by
  unfold Made.infoAt at h ⊢
  by_cases ht:t<T.types.size
  ·rw[awh ht]at h ⊢; exact h
  ·rw[awg ht]at h ⊢
   simp only[awi]at h ⊢
   obtain⟨d,h1,h2⟩:=h
   exact⟨d,h1,akm (adb T n) h2⟩
theorem aoX (T:Tables) {n m:Nat} (hnm:n<=m) {t:TypeId} {i:TypeInfo} (h:Made.infoAt T n t=some i):Made.infoAt T m t=some i:=by
 induction hnm with
 |refl=>exact h
 |step _ ih=>exact adb T _ t i ih
theorem asL (T:Tables) {n:Nat} (hn:n<=100) {t:TypeId} {i:TypeInfo} (h:Made.infoAt T n t=some i):T.info? t=some i:=by
 have:=aoX T hn h;unfold Tables.info? Made.depth;by_cases ht:t<T.types.size
 ·rw[awh ht];unfold Made.infoAt at this;rw[awh ht]at this;exact this
 ·rw[awg ht];exact this
theorem aiI {f:TypeId->Option TypeInfo} {fs:Array Field} {r:TypeInfo} (hr:Made.reckonStruct f fs=some r):∃out:Array Field,r.desc= .struct out/\∀x∈out,∃i,f x.type=some i:=by
 unfold Made.reckonStruct at hr;simp only[bind,awi,pure]at hr;obtain⟨a,h1,h2⟩:=hr;rw[<-Array.forIn_toList]at h1
 have key:=ag3 (fun s=>∀x∈s.1,∃i,f x.type=some i) (fun x s q hs hq=>by
  simp only[awi]at hq;obtain⟨i,hi,hq⟩:=hq;have push:∀y∈s.1.push { x with offset:=s.2.1,byteOffset:=Made.roundUp s.2.2.1 i.align },∃i,f y.type=some i:=fun y hy=>by
   rcases Array.mem_push.1 hy with hy | hy
   ·exact hs y hy
   ·subst hy;exact⟨i,hi⟩
  repeat' (split at hq)
  all_goals first
   |(simp at hq;done)
   |(simp only[awi]at hq;obtain⟨_,_,hq⟩:=hq;cases hq;exact push)
   |(simp only[awi]at hq;obtain⟨_,h0,_⟩:=hq;cases h0)) _ _ _ (by simp) h1
 split at h2<;>(cases h2;exact⟨_,rfl,key⟩)
theorem aiW {f:TypeId->Option TypeInfo} {d:TypeDesc} {r:TypeInfo} (hr:Made.reckon f d=some r):(∀e,r.desc= .slice e->∃i,f e=some i)/\(∀n e,r.desc= .array n e->∃i,f e=some i)/\(∀fs,r.desc= .struct fs->∀x∈fs,∃i,f x.type=some i)/\∀a u,r.desc≠ .named a u:=by
 cases d with
 |struct fs=>
  obtain⟨out,h1,h2⟩:=aiI (f:=f) (fs:=fs) hr;refine⟨fun e h=> ?_,fun n e h=> ?_,fun fs h=> ?_,fun a u h=> ?_⟩<;>rw[h1]at h<;>cases h
  exact h2
 |slice e=>
  unfold Made.reckon at hr;simp only[bind,awi,pure]at hr;obtain⟨i,h1,s,h2,h3⟩:=hr;cases h3;exact⟨fun e' h=>(by cases h;exact⟨i,h1⟩),fun _ _ h=>(by cases h),fun _ h=>(by cases h),fun _ _ h=>(by cases h)⟩
 |array n e=>
  unfold Made.reckon at hr;simp only[bind,awi,pure]at hr;obtain⟨i,h1,s,h2,h3⟩:=hr;cases h3;exact⟨fun e' h=>(by cases h),fun _ _ h=>(by cases h;exact⟨i,h1⟩),fun _ h=>(by cases h),fun _ _ h=>(by cases h)⟩
 |_=>
  have hd:(∀e,r.desc≠ .slice e)/\(∀n e,r.desc≠ .array n e)/\(∀fs,r.desc≠ .struct fs)/\∀a u,r.desc≠ .named a u:=by
   unfold Made.reckon at hr;simp only[bind,awi,pure]at hr
   repeat' first
    |(obtain⟨_,_,hr⟩:=hr)
    |(split at hr)
   all_goals first
    |exact⟨fun _ h=>(by cases h),fun _ _ h=>(by cases h),fun _ h=>(by cases h),fun _ _ h=>(by cases h)⟩
    |(cases hr;done)
    |(cases hr;exact⟨fun _ h=>(by cases h),fun _ _ h=>(by cases h),fun _ h=>(by cases h),fun _ _ h=>(by cases h)⟩)
    |(simp only[awi]at hr;obtain⟨_,_,hr⟩:=hr;cases hr;exact⟨fun _ h=>(by cases h),fun _ _ h=>(by cases h),fun _ h=>(by cases h),fun _ _ h=>(by cases h)⟩)
  exact⟨fun e h=>absurd h (hd.1 e),fun n e h=>absurd h (hd.2.1 n e),fun fs h=>absurd h (hd.2.2.1 fs),hd.2.2.2⟩
def wfT (n:Nat) (d:TypeDesc):Bool:=match d with
 |.slice e | .array _ e=>Nat.blt e n
 |.struct fs=>fs.toList.all fun f=>Nat.blt f.type n
 |.named _ u=>Nat.blt u n
 |_=>true
def wfB (P:Program):Bool:=P.types.toList.all fun i=>wfT P.types.toList.length i.desc
theorem info_lt (P:Program) {t:TypeId} (h:t<P.types.size):P.info? t=P.types[t]? :=by
 unfold Tables.info?;rw[awh h]
theorem aut {P:Program} (h:wfB P=true):WfP P:=by
 have tab:∀t i,P.info? t=some i->t<P.types.size->wfT P.types.size i.desc=true:=fun t i hi ht=>by
  rw[info_lt P ht]at hi;have:=awV.1 h i (axw (l:=P.types.toList) (i:=t) (by simpa using hi));simpa using this
 have there:∀e,e<P.types.size->P.info? e≠none:=fun e he=>by
  rw[info_lt P he];simp [he]
 have one:∀t i,P.info? t=some i->(∀e,i.desc= .slice e->P.info? e≠none)/\(∀n e,i.desc= .array n e->P.info? e≠none)/\(∀fs,i.desc= .struct fs->∀x∈fs.toList,P.info? x.type≠none)/\∀a u,i.desc= .named a u->u<P.types.size:=fun t i hi=>by
  by_cases ht:t<P.types.size
  ·have hw:=tab t i hi ht;unfold wfT at hw;refine⟨fun e he=> ?_,fun n e he=> ?_,fun fs he x hx=> ?_,fun a u he=> ?_⟩<;>rw[he]at hw
   ·exact there e (by simpa [axr] using hw)
   ·exact there e (by simpa [axr] using hw)
   ·have:=awV.1 hw x hx;exact there _ (by simpa [axr] using this)
   ·simpa [axr] using hw
  ·unfold Tables.info? Made.depth at hi;rw[awg ht]at hi;unfold Made.infoAt at hi;rw[awg ht]at hi;simp only[awi]at hi;obtain⟨d,_,hr⟩:=hi;obtain⟨k1,k2,k3,k4⟩:=aiW hr;have up:∀e,(∃j,Made.infoAt P.toTables 99 e=some j)->P.info? e≠none:=fun e ⟨j,hj⟩=>by
    rw[asL P.toTables (by omega) hj];simp
   exact⟨fun e he=>up e (k1 e he),fun n e he=>up e (k2 n e he),fun fs he x hx=>up _ (k3 fs he x (by simpa using hx)),fun a u he=>absurd he (k4 a u)⟩
 have two:∀t d,P.underlying t=some d->∃t' i,P.info? t'=some i/\i.desc=d:=fun t d hu=>by
  unfold Program.underlying at hu;cases hi:P.info? t with
  |none=>rw[hi]at hu;cases hu
  |some i=>
   rw[hi]at hu;obtain⟨d0,x1,x2,x3,x4,x5,x6,x7,x8,x9⟩:=i;cases d0 with
   |named a u=>
    simp only[ayN]at hu;obtain⟨j,hj,hd⟩:=hu;exact⟨u,j,hj,hd⟩
   |_=>exact⟨t,_,hi,awr hu⟩
 refine⟨fun t n el hu=> ?_,fun t el hu=> ?_,fun t fs hu x hx=> ?_⟩
 ·obtain⟨t',i,h1,h2⟩:=two t _ hu;exact(one t' i h1).2.1 n el h2
 ·obtain⟨t',i,h1,h2⟩:=two t _ hu;exact(one t' i h1).1 el h2
 ·obtain⟨t',i,h1,h2⟩:=two t _ hu;exact(one t' i h1).2.2.1 fs h2 x hx
end Go.Av
namespace Go.Av
open Go Go.RowKit
universe u
def av1 (P:Program) (t:Nat) (e:E):Bool:=match P.info? t with
 |some inf=>Nat.beq inf.size (esz e)&&inf.zero.isSome&&Nat.ble inf.bytes 2048
 |none=>false
theorem lF {P:Program} {t:Nat} {e:E} (h:av1 P t e=true) (hz:Ew e (CX P t)=some default):EOk P t e:=by
 unfold av1 at h;cases hi:P.info? t with
 |none=>simp [hi]at h
 |some inf=>
  simp only[hi,awp]at h;obtain⟨⟨h1,h2⟩,h3⟩:=h;obtain⟨z,hz0⟩:=aza.1 h2;exact⟨⟨inf,z,hi,aws h1,hz0,axk h3⟩,hz⟩
def ahc (P:Program):List (Nat×E)->Prop
 |[]=>True
 |(t,e)::r=>EOk P t e/\ahc P r
theorem acQ {α:Type u}:∀ {l:List (Nat×α)} {i:Nat} {x:α},look l i=some x->(i,x)∈l
 |[],i,x,h=>by cases h
 |(k,v)::r,i,x,h=>by
  simp only[look]at h
  cases hb:Nat.beq k i with
  |true=>
   have:=aws hb
   subst this
   simp only[hb,cond_true,awj]at h
   subst h;exact aw0
  |false=>
   simp only[hb,cond_false]at h
   exact awX _ (acQ h)
theorem ahc.get {P:Program}:∀ {l:List (Nat×E)},ahc P l->∀ {t:Nat} {e:E},(t,e)∈l->EOk P t e
 |[],_,t,e,h=>by cases h
 |(t',e')::r,h,t,e,hm=>by
  rcases aww.1 hm with hm | hm
  ·cases hm;exact h.1
  ·exact ahc.get h.2 hm
def ac9 (P:Program):List (Nat×aA)->Prop
 |[]=>True
 |(f,s)::r=>bY P f s/\ac9 P r
theorem ac9.get {P:Program}:∀ {l:List (Nat×aA)},ac9 P l->∀ {f:Nat} {s:aA},(f,s)∈l->bY P f s
 |[],_,f,s,h=>by cases h
 |(f',s')::r,h,f,s,hm=>by
  rcases aww.1 hm with hm | hm
  ·cases hm;exact h.1
  ·exact ac9.get h.2 hm
def awc (P:Program):Bool:=P.funcs.toList.all fun fn=> !(fn.name == "runtime.NumGoroutine")
structure NZ (P:Program) (et:List (Nat×E)):Prop where
 wf:wfB P=true
 et:ahc P et
 nf:Nat.ble P.funcs.toList.length 4096=true
 mixed:P.follows .mixedOrders=true
 nog:awc P=true
theorem NZ.cx {P:Program} {et:List (Nat×E)} (h:NZ P et) {ety:Nat->Option E} (he:∀t,ety t=look et t) {l:List (Nat×aA)} (hl:ac9 P l) {inl:Nat->Bool} {lp:Nat->Nat->Option dB}:CxR ⟨P,ety,look l,inl,lp⟩ where
 ok:=⟨aut h.wf,fun t e hte=>h.et.get (acQ ((he t).symm.trans hte))⟩
 nf:=by simpa using axk h.nf
 mixed:=h.mixed
 nog f fn hf:=by
  have:=awV.1 h.nog fn (axw (l:=P.funcs.toList) (i:=f) (by simpa using hf))
  simpa using this
 fn f s hs:=hl.get (acQ hs)
def acJ (C:Cx):List (Nat×Nat×dB)->Prop
 |[]=>True
 |(a,b,s)::r=>(∀c,At C.P a b (.loop c)->BA C a (2*b)->ao4 C.P a c s)/\acJ C r
theorem acJ.get {C:Cx}:∀ {l:List (Nat×Nat×dB)},acJ C l->∀ {a b:Nat} {s:dB},(a,b,s)∈l->∀c,At C.P a b (.loop c)->BA C a (2*b)->ao4 C.P a c s
 |[],_,a,b,s,h=>by cases h
 |(a',b',s')::r,h,a,b,s,hm=>by
  rcases aww.1 hm with hm | hm
  ·cases hm;exact h.1
  ·exact acJ.get h.2 hm
theorem Zn:∀ {l:List (Nat×Nat×dB)} {i j:Nat} {s:dB},ZU l i j=some s->(i,j,s)∈l
 |[],i,j,s,h=>by cases h
 |(a,b,x)::r,i,j,s,h=>by
  simp only[ZU]at h
  cases hb:(Nat.beq a i&&Nat.beq b j)with
  |true=>
   simp only[awp]at hb
   have h1:=aws hb.1
   have h2:=aws hb.2
   subst h1;subst h2
   simp only[acO,Bool.and_self,cond_true,awj]at h
   subst h;exact aw0
  |false=>
   simp only[hb,cond_false]at h
   exact awX _ (Zn h)
theorem aeT {α:Type u} {p q:α->Bool}:∀(l:List α),(∀x∈l,q x=true->p x=true)->(∃x∈l,p x=true/\q x=false)->l.countP q<l.countP p
 |[],_,h=>by obtain⟨x,h,_⟩:=h;cases h
 |y::l,h1,h2=>by
  obtain⟨x,hx,hp,hq⟩:=h2
  rw[ay0,ay0]
  rcases aww.1 hx with rfl | hx
  ·have:l.countP q<=l.countP p:=List.countP_mono_left fun z hz=>h1 z (awX _ hz)
   simp only[hp,hq,if_true,axA,if_false];omega
  ·have:=aeT l (fun z hz=>h1 z (awX _ hz)) ⟨x,hx,hp,hq⟩
   have h0:=h1 y aw0
   cases hqy:q y with
   |false=>simp only[axA,if_false];split<;>omega
   |true=>rw[h0 hqy];simp only[if_true];omega
theorem aj3 {C:Cx} {l:List (Nat×Nat×dB)} (hl:C.lp=ZU l) (h:acJ C l):∀pf pos,BA C pf pos:=by
 have key:∀(n pf pos:Nat),l.countP (fun e=>(Nat.beq e.1 pf&&Nat.ble pos e.2.1)||Nat.blt pf e.1)<=n->BA C pf pos:=by
  intro n
  induction n with
  |zero=>
   intro pf pos hc pf' pos' s c hb hs hat;rw[hl]at hs;have hm:=Zn hs;have:=List.countP_eq_zero.1 (Nat.le_zero.1 hc) _ hm;exfalso;apply this;rcases hb with ⟨h1,h2⟩ | h1
   ·subst h1;simp [h2]
   ·simp [axr,h1]
  |succ n ih=>
   intro pf pos hc pf' pos' s c hb hs hat;have hs':=hs;rw[hl]at hs;have hm:=Zn hs;have hp:=hat.1;refine h.get hm c hat (ih pf' (2*pos') ?_)
   have:=aeT (p:=fun e:Nat×Nat×dB=>(Nat.beq e.1 pf&&Nat.ble pos e.2.1)||Nat.blt pf e.1) (q:=fun e:Nat×Nat×dB=>(Nat.beq e.1 pf'&&Nat.ble (2*pos') e.2.1)||Nat.blt pf' e.1) l (fun e _ he=>by
    simp only[ayv,awp,Nat.beq_eq,Nat.ble_eq,axr]at he ⊢;omega) ⟨_,hm,by
    simp only[ayv,awp,Nat.beq_eq,Nat.ble_eq,axr];omega,by
    simp only[ayV,Bool.and_eq_false_iff];refine⟨.inr ?_,?_⟩
    ·cases hb:Nat.ble (2*pos') pos' with
     |false=>rfl
     |true=>have:=axk hb;omega
    ·cases hb:Nat.blt pf' pf' with
     |false=>rfl
     |true=>simp [axr]at hb⟩
   omega
 exact fun pf pos=>key _ pf pos (awk _)
set_option exponentiation.threshold 512 in
theorem aqh {C:Cx} (K:CxR C) {s:LSh} {os:List zB} {D:List Nat} {step:Tup s.pk->Tup s.vk->Option (Tup s.vk ⊕ agn os)} {pf pos f n:Nat} (hf:pf%4096=f) (hpos:Nat.blt (Nat.log2 pos) 301=true) (hg:s.good D=true) (hgo:os.all (zB.good s)=true)
 (hD:Va D (ach C.P f pos)=true) (hstep:∀p v r,step p v=some r->aoa C n pf pos (ach C.P f pos) s os p v=some r):∀c,At C.P pf pos (.loop c)->BA C pf (2*pos)->ao4 C.P pf c (s.spec os D step):=by
 intro c hat L
 have hlt:pos<2^(300+1):=by
  have hp:=hat.1
  exact(Nat.log2_lt (by omega)).1 (by simpa [axr] using hpos)
 have hc:ach C.P f pos=c:=by
  unfold ach
  rw[<-hf,hat.eq hlt]
 rw[hc]at hD hstep
 exact avp K hg hgo hat L hD hstep
def hasB (P:Program) (f:Nat):Bool:=match P.funcs[f]? with
 |some fn=>fn.body.isSome
 |none=>false
theorem ak1 {C:Cx} (K:CxR C) (L:∀pf pos,BA C pf pos) {f:Nat} (hb:hasB C.P f=true) {xs rs:List Sh} {scal:Bool} {run:Tup xs->Option (Tup rs)}
 (hrun:∀x y,run x=some y->ahm C f xs rs x=some y) (hrs:(Nat.ble rs.length 8&&(xs.all ah4&&rs.all ah4))=true) (hsc:(!scal||rs.all Ze)=true):bY C.P f (mkSpec xs rs scal run):=by
 unfold hasB at hb
 cases hf:C.P.funcs[f]? with
 |none=>simp [hf]at hb
 |some fn=>
  simp only[hf]at hb
  obtain⟨b,hbd⟩:=aza.1 hb
  simp only[awp]at hrs
  exact avy K (L f 1) hf hbd hrun (axk hrs.1) hrs.2.1 hrs.2.2 fun hs=>by subst hs;simpa using hsc
end Go.Av
namespace Go.Av
open Go
inductive Kd where
 |int (k:IntKind) | bool | str | ro (e:E)
 deriving DecidableEq
def isK:Kd->AV->Prop
 |.int k,a=>∃n,a= .int k n/\k.min<=n/\n<=k.max
 |.bool,a=>∃b,a= .bool b
 |.str,a=>∃s,a= .str s/\aiT s
 |.ro e,a=>∃l:List (den e),a= .ro e l false/\okL (okE e) l
def kM:List Kd->List AV->Prop
 |[],av=>av=[]
 |k::ks,av=>∃c r,av=c::r/\isK k c/\kM ks r
theorem dh {n:Int} (h1:IntKind.i64.min<=n) (h2:n<=IntKind.i64.max):inI n:=⟨h1,h2⟩
theorem aqx {n:Int} (h1:IntKind.u64.min<=n) (h2:n<=IntKind.u64.max):inW n:=⟨h1,h2⟩
theorem uK {n:Int} (h1:IntKind.u8.min<=n) (h2:n<=IntKind.u8.max):inU n:=⟨h1,h2⟩
def qH:E->List Kd
 |.u8=>[.int .u8]
 |.i64=>[.int .i64]
 |.bool=>[.bool]
 |.str=>[.str]
 |.file=>[.str,.ro .u8,.int .i64]
 |.disk=>[.ro .file,.int .i64,.int .i64,.bool]
 |.frame=>[.int .i64,.int .i64,.int .i64,.int .i64,.int .i64,.int .i64,.int .i64,.int .i64,.int .i64]
 |.recd=>[.int .i64,.int .i64,.int .i64,.int .i64,.int .i64,.int .i64,.int .i64,.int .i64,.int .i64,.int .i64,.bool,.int .i64,.int .i64]
 |.order=>[.int .i64,.int .i64,.int .i64,.int .i64,.int .i64,.int .i64,.int .i64,.int .i64,.int .i64,.int .i64,.int .i64,.bool]
 |.cell=>[.int .i64,.int .i64,.int .i64,.int .i64]
 |.expo=>[.int .i64,.int .i64,.int .i64]
 |.state=>[.int .i64,.int .i64,.ro .order,.ro .cell,.ro .expo,.ro .i64,.bool,.int .i64,.int .i64,.int .i64]
 |.wal=>[.int .i64,.int .i64,.int .i64,.int .i64,.int .i64,.ro .frame]
 |.slot=>[.int .i64,.int .i64]
 |.msg=>[.int .i64,.int .i64,.int .i64,.int .i64,.int .i64,.int .i64,.int .i64,.int .i64,.int .i64]
 |.note=>[.int .i64,.int .i64,.int .i64,.int .i64,.int .i64]
 |.feed=>[.ro .note,.bool]
 |.gate=>[.ro .file,.int .i64,.int .i64,.bool,.int .i64,.int .i64,.int .i64,.int .i64,.int .i64,.ro .frame,.int .i64,.int .i64,.ro .order,.ro .cell,.ro .expo,.ro .i64,.bool,.int .i64,.int .i64,.int .i64,.ro .msg,.ro .note,.bool,.int .i64,.bool]
 |.bts=>[.ro .u8]
 |.keeper=>[.ro .file,.int .i64,.int .i64,.bool,.int .i64]
 |.a3=>[.int .i64,.int .i64,.int .i64]
 |.a4=>[.int .u8,.int .u8,.int .u8,.int .u8]
 |.a6=>[.int .i64,.int .i64,.int .i64,.int .i64,.int .i64,.int .i64]
 |.a20=>[.int .u8,.int .u8,.int .u8,.int .u8,.int .u8,.int .u8,.int .u8,.int .u8,.int .u8,.int .u8,.int .u8,.int .u8,.int .u8,.int .u8,.int .u8,.int .u8,.int .u8,.int .u8,.int .u8,.int .u8]
 |.big=>[.int .u64,.int .u64]
 |.went=>[.ro .file,.int .i64,.int .i64,.bool,.int .i64,.int .i64,.int .i64,.int .i64,.int .i64,.ro .frame,.int .i64,.int .i64,.ro .order,.ro .cell,.ro .expo,.ro .i64,.bool,.int .i64,.int .i64,.int .i64,.ro .msg,.ro .note,.bool,.int .i64,.bool,.ro .msg,.int .i64]
theorem av3 (av:List AV) (h:kM (qH .u8) av):∃x,cells .u8 x=av/\okE .u8 x:=by
 obtain⟨_,_,rfl,⟨n0,rfl,an0,bn0⟩,h⟩:=h;have h:_=[]:=h;subst h;exact⟨n0,rfl,uK an0 bn0⟩
theorem atX (av:List AV) (h:kM (qH .i64) av):∃x,cells .i64 x=av/\okE .i64 x:=by
 obtain⟨_,_,rfl,⟨n0,rfl,an0,bn0⟩,h⟩:=h;have h:_=[]:=h;subst h;exact⟨n0,rfl,dh an0 bn0⟩
theorem arP (av:List AV) (h:kM (qH .bool) av):∃x,cells .bool x=av/\okE .bool x:=by
 obtain⟨_,_,rfl,⟨n0,rfl⟩,h⟩:=h;have h:_=[]:=h;subst h;exact⟨n0,rfl,azv⟩
theorem auK (av:List AV) (h:kM (qH .str) av):∃x,cells .str x=av/\okE .str x:=by
 obtain⟨_,_,rfl,⟨n0,rfl,on0⟩,h⟩:=h;have h:_=[]:=h;subst h;exact⟨n0,rfl,on0⟩
theorem asA (av:List AV) (h:kM (qH .file) av):∃x,cells .file x=av/\okE .file x:=by
 obtain⟨_,_,rfl,⟨n0,rfl,on0⟩,h⟩:=h;obtain⟨_,_,rfl,⟨n1,rfl,on1⟩,h⟩:=h;obtain⟨_,_,rfl,⟨n2,rfl,an2,bn2⟩,h⟩:=h;have h:_=[]:=h;subst h;exact⟨⟨n0,n1,n2⟩,rfl,(⟨on0,on1,dh an2 bn2⟩:anG (⟨n0,n1,n2⟩:aS))⟩
theorem asR (av:List AV) (h:kM (qH .disk) av):∃x,cells .disk x=av/\okE .disk x:=by
 obtain⟨_,_,rfl,⟨n0,rfl,on0⟩,h⟩:=h;obtain⟨_,_,rfl,⟨n1,rfl,an1,bn1⟩,h⟩:=h;obtain⟨_,_,rfl,⟨n2,rfl,an2,bn2⟩,h⟩:=h;obtain⟨_,_,rfl,⟨n3,rfl⟩,h⟩:=h;have h:_=[]:=h;subst h;exact⟨⟨n0,n1,n2,n3⟩,rfl,(⟨on0,dh an1 bn1,dh an2 bn2⟩:aaU (⟨n0,n1,n2,n3⟩:ak))⟩
theorem aqz (av:List AV) (h:kM (qH .frame) av):∃x,cells .frame x=av/\okE .frame x:=by
 obtain⟨_,_,rfl,⟨n0,rfl,an0,bn0⟩,h⟩:=h;obtain⟨_,_,rfl,⟨n1,rfl,an1,bn1⟩,h⟩:=h;obtain⟨_,_,rfl,⟨n2,rfl,an2,bn2⟩,h⟩:=h;obtain⟨_,_,rfl,⟨n3,rfl,an3,bn3⟩,h⟩:=h;obtain⟨_,_,rfl,⟨n4,rfl,an4,bn4⟩,h⟩:=h;obtain⟨_,_,rfl,⟨n5,rfl,an5,bn5⟩,h⟩:=h;obtain⟨_,_,rfl,⟨n6,rfl,an6,bn6⟩,h⟩:=h;obtain⟨_,_,rfl,⟨n7,rfl,an7,bn7⟩,h⟩:=h;obtain⟨_,_,rfl,⟨n8,rfl,an8,bn8⟩,h⟩:=h;have h:_=[]:=h;subst h;exact⟨⟨n0,n1,n2,n3,n4,n5,n6,n7,n8⟩,rfl,(⟨dh an0 bn0,dh an1 bn1,dh an2 bn2,dh an3 bn3,dh an4 bn4,dh an5 bn5,dh an6 bn6,dh an7 bn7,dh an8 bn8⟩:ajW (⟨n0,n1,n2,n3,n4,n5,n6,n7,n8⟩:fE))⟩
theorem asQ (av:List AV) (h:kM (qH .recd) av):∃x,cells .recd x=av/\okE .recd x:=by
 obtain⟨_,_,rfl,⟨n0,rfl,an0,bn0⟩,h⟩:=h;obtain⟨_,_,rfl,⟨n1,rfl,an1,bn1⟩,h⟩:=h;obtain⟨_,_,rfl,⟨n2,rfl,an2,bn2⟩,h⟩:=h;obtain⟨_,_,rfl,⟨n3,rfl,an3,bn3⟩,h⟩:=h;obtain⟨_,_,rfl,⟨n4,rfl,an4,bn4⟩,h⟩:=h;obtain⟨_,_,rfl,⟨n5,rfl,an5,bn5⟩,h⟩:=h;obtain⟨_,_,rfl,⟨n6,rfl,an6,bn6⟩,h⟩:=h;obtain⟨_,_,rfl,⟨n7,rfl,an7,bn7⟩,h⟩:=h;obtain⟨_,_,rfl,⟨n8,rfl,an8,bn8⟩,h⟩:=h;obtain⟨_,_,rfl,⟨n9,rfl,an9,bn9⟩,h⟩:=h;obtain⟨_,_,rfl,⟨n10,rfl⟩,h⟩:=h;obtain⟨_,_,rfl,⟨n11,rfl,an11,bn11⟩,h⟩:=h;obtain⟨_,_,rfl,⟨n12,rfl,an12,bn12⟩,h⟩:=h;have h:_=[]:=h;subst h;exact⟨⟨n0,n1,n2,n3,n4,n5,n6,n7,n8,n9,n10,n11,n12⟩,rfl,(⟨dh an0 bn0,dh an1 bn1,dh an2 bn2,dh an3 bn3,dh an4 bn4,dh an5 bn5,dh an6 bn6,dh an7 bn7,dh an8 bn8,dh an9 bn9,dh an11 bn11,dh an12 bn12⟩:mG (⟨n0,n1,n2,n3,n4,n5,n6,n7,n8,n9,n10,n11,n12⟩:iJ))⟩
theorem aru (av:List AV) (h:kM (qH .order) av):∃x,cells .order x=av/\okE .order x:=by
 obtain⟨_,_,rfl,⟨n0,rfl,an0,bn0⟩,h⟩:=h;obtain⟨_,_,rfl,⟨n1,rfl,an1,bn1⟩,h⟩:=h;obtain⟨_,_,rfl,⟨n2,rfl,an2,bn2⟩,h⟩:=h;obtain⟨_,_,rfl,⟨n3,rfl,an3,bn3⟩,h⟩:=h;obtain⟨_,_,rfl,⟨n4,rfl,an4,bn4⟩,h⟩:=h;obtain⟨_,_,rfl,⟨n5,rfl,an5,bn5⟩,h⟩:=h;obtain⟨_,_,rfl,⟨n6,rfl,an6,bn6⟩,h⟩:=h;obtain⟨_,_,rfl,⟨n7,rfl,an7,bn7⟩,h⟩:=h;obtain⟨_,_,rfl,⟨n8,rfl,an8,bn8⟩,h⟩:=h;obtain⟨_,_,rfl,⟨n9,rfl,an9,bn9⟩,h⟩:=h;obtain⟨_,_,rfl,⟨n10,rfl,an10,bn10⟩,h⟩:=h;obtain⟨_,_,rfl,⟨n11,rfl⟩,h⟩:=h;have h:_=[]:=h;subst h;exact⟨⟨n0,n1,n2,n3,n4,n5,n6,n7,n8,n9,n10,n11⟩,rfl,(⟨dh an0 bn0,dh an1 bn1,dh an2 bn2,dh an3 bn3,dh an4 bn4,dh an5 bn5,dh an6 bn6,dh an7 bn7,dh an8 bn8,dh an9 bn9,dh an10 bn10⟩:eY (⟨n0,n1,n2,n3,n4,n5,n6,n7,n8,n9,n10,n11⟩:aC))⟩
theorem arM (av:List AV) (h:kM (qH .cell) av):∃x,cells .cell x=av/\okE .cell x:=by
 obtain⟨_,_,rfl,⟨n0,rfl,an0,bn0⟩,h⟩:=h;obtain⟨_,_,rfl,⟨n1,rfl,an1,bn1⟩,h⟩:=h;obtain⟨_,_,rfl,⟨n2,rfl,an2,bn2⟩,h⟩:=h;obtain⟨_,_,rfl,⟨n3,rfl,an3,bn3⟩,h⟩:=h;have h:_=[]:=h;subst h;exact⟨⟨n0,n1,n2,n3⟩,rfl,(⟨dh an0 bn0,dh an1 bn1,dh an2 bn2,dh an3 bn3⟩:F5 (⟨n0,n1,n2,n3⟩:bF))⟩
theorem as1 (av:List AV) (h:kM (qH .expo) av):∃x,cells .expo x=av/\okE .expo x:=by
 obtain⟨_,_,rfl,⟨n0,rfl,an0,bn0⟩,h⟩:=h;obtain⟨_,_,rfl,⟨n1,rfl,an1,bn1⟩,h⟩:=h;obtain⟨_,_,rfl,⟨n2,rfl,an2,bn2⟩,h⟩:=h;have h:_=[]:=h;subst h;exact⟨⟨n0,n1,n2⟩,rfl,(⟨dh an0 bn0,dh an1 bn1,dh an2 bn2⟩:am7 (⟨n0,n1,n2⟩:jQ))⟩
theorem apP (av:List AV) (h:kM (qH .state) av):∃x,cells .state x=av/\okE .state x:=by
 obtain⟨_,_,rfl,⟨n0,rfl,an0,bn0⟩,h⟩:=h;obtain⟨_,_,rfl,⟨n1,rfl,an1,bn1⟩,h⟩:=h;obtain⟨_,_,rfl,⟨n2,rfl,on2⟩,h⟩:=h;obtain⟨_,_,rfl,⟨n3,rfl,on3⟩,h⟩:=h;obtain⟨_,_,rfl,⟨n4,rfl,on4⟩,h⟩:=h;obtain⟨_,_,rfl,⟨n5,rfl,on5⟩,h⟩:=h;obtain⟨_,_,rfl,⟨n6,rfl⟩,h⟩:=h;obtain⟨_,_,rfl,⟨n7,rfl,an7,bn7⟩,h⟩:=h;obtain⟨_,_,rfl,⟨n8,rfl,an8,bn8⟩,h⟩:=h;obtain⟨_,_,rfl,⟨n9,rfl,an9,bn9⟩,h⟩:=h;have h:_=[]:=h;subst h;exact⟨⟨n0,n1,n2,n3,n4,n5,n6,n7,n8,n9⟩,rfl,(⟨dh an0 bn0,dh an1 bn1,on2,on3,on4,on5,dh an7 bn7,dh an8 bn8,dh an9 bn9⟩:iD (⟨n0,n1,n2,n3,n4,n5,n6,n7,n8,n9⟩:aB))⟩
theorem auB (av:List AV) (h:kM (qH .wal) av):∃x,cells .wal x=av/\okE .wal x:=by
 obtain⟨_,_,rfl,⟨n0,rfl,an0,bn0⟩,h⟩:=h;obtain⟨_,_,rfl,⟨n1,rfl,an1,bn1⟩,h⟩:=h;obtain⟨_,_,rfl,⟨n2,rfl,an2,bn2⟩,h⟩:=h;obtain⟨_,_,rfl,⟨n3,rfl,an3,bn3⟩,h⟩:=h;obtain⟨_,_,rfl,⟨n4,rfl,an4,bn4⟩,h⟩:=h;obtain⟨_,_,rfl,⟨n5,rfl,on5⟩,h⟩:=h;have h:_=[]:=h;subst h;exact⟨⟨n0,n1,n2,n3,n4,n5⟩,rfl,(⟨dh an0 bn0,dh an1 bn1,dh an2 bn2,dh an3 bn3,dh an4 bn4,on5⟩:apD (⟨n0,n1,n2,n3,n4,n5⟩:dR))⟩
theorem as2 (av:List AV) (h:kM (qH .slot) av):∃x,cells .slot x=av/\okE .slot x:=by
 obtain⟨_,_,rfl,⟨n0,rfl,an0,bn0⟩,h⟩:=h;obtain⟨_,_,rfl,⟨n1,rfl,an1,bn1⟩,h⟩:=h;have h:_=[]:=h;subst h;exact⟨⟨n0,n1⟩,rfl,(⟨dh an0 bn0,dh an1 bn1⟩:ann (⟨n0,n1⟩:dU))⟩
theorem au4 (av:List AV) (h:kM (qH .msg) av):∃x,cells .msg x=av/\okE .msg x:=by
 obtain⟨_,_,rfl,⟨n0,rfl,an0,bn0⟩,h⟩:=h;obtain⟨_,_,rfl,⟨n1,rfl,an1,bn1⟩,h⟩:=h;obtain⟨_,_,rfl,⟨n2,rfl,an2,bn2⟩,h⟩:=h;obtain⟨_,_,rfl,⟨n3,rfl,an3,bn3⟩,h⟩:=h;obtain⟨_,_,rfl,⟨n4,rfl,an4,bn4⟩,h⟩:=h;obtain⟨_,_,rfl,⟨n5,rfl,an5,bn5⟩,h⟩:=h;obtain⟨_,_,rfl,⟨n6,rfl,an6,bn6⟩,h⟩:=h;obtain⟨_,_,rfl,⟨n7,rfl,an7,bn7⟩,h⟩:=h;obtain⟨_,_,rfl,⟨n8,rfl,an8,bn8⟩,h⟩:=h;have h:_=[]:=h;subst h;exact⟨⟨n0,n1,n2,n3,n4,n5,n6,n7,n8⟩,rfl,(⟨dh an0 bn0,dh an1 bn1,dh an2 bn2,dh an3 bn3,dh an4 bn4,dh an5 bn5,dh an6 bn6,dh an7 bn7,dh an8 bn8⟩:ap1 (⟨n0,n1,n2,n3,n4,n5,n6,n7,n8⟩:jh))⟩
theorem arO (av:List AV) (h:kM (qH .note) av):∃x,cells .note x=av/\okE .note x:=by
 obtain⟨_,_,rfl,⟨n0,rfl,an0,bn0⟩,h⟩:=h;obtain⟨_,_,rfl,⟨n1,rfl,an1,bn1⟩,h⟩:=h;obtain⟨_,_,rfl,⟨n2,rfl,an2,bn2⟩,h⟩:=h;obtain⟨_,_,rfl,⟨n3,rfl,an3,bn3⟩,h⟩:=h;obtain⟨_,_,rfl,⟨n4,rfl,an4,bn4⟩,h⟩:=h;have h:_=[]:=h;subst h;exact⟨⟨n0,n1,n2,n3,n4⟩,rfl,(⟨dh an0 bn0,dh an1 bn1,dh an2 bn2,dh an3 bn3,dh an4 bn4⟩:xu (⟨n0,n1,n2,n3,n4⟩:dV))⟩
theorem arX (av:List AV) (h:kM (qH .feed) av):∃x,cells .feed x=av/\okE .feed x:=by
 obtain⟨_,_,rfl,⟨n0,rfl,on0⟩,h⟩:=h;obtain⟨_,_,rfl,⟨n1,rfl⟩,h⟩:=h;have h:_=[]:=h;subst h;exact⟨⟨n0,n1⟩,rfl,(⟨on0⟩:anU (⟨n0,n1⟩:jl))⟩
theorem asO (av:List AV) (h:kM (qH .gate) av):∃x,cells .gate x=av/\okE .gate x:=by
 obtain⟨_,_,rfl,⟨n0,rfl,on0⟩,h⟩:=h;obtain⟨_,_,rfl,⟨n1,rfl,an1,bn1⟩,h⟩:=h;obtain⟨_,_,rfl,⟨n2,rfl,an2,bn2⟩,h⟩:=h;obtain⟨_,_,rfl,⟨n3,rfl⟩,h⟩:=h;obtain⟨_,_,rfl,⟨n4,rfl,an4,bn4⟩,h⟩:=h;obtain⟨_,_,rfl,⟨n5,rfl,an5,bn5⟩,h⟩:=h;obtain⟨_,_,rfl,⟨n6,rfl,an6,bn6⟩,h⟩:=h;obtain⟨_,_,rfl,⟨n7,rfl,an7,bn7⟩,h⟩:=h;obtain⟨_,_,rfl,⟨n8,rfl,an8,bn8⟩,h⟩:=h;obtain⟨_,_,rfl,⟨n9,rfl,on9⟩,h⟩:=h;obtain⟨_,_,rfl,⟨n10,rfl,an10,bn10⟩,h⟩:=h;obtain⟨_,_,rfl,⟨n11,rfl,an11,bn11⟩,h⟩:=h;obtain⟨_,_,rfl,⟨n12,rfl,on12⟩,h⟩:=h;obtain⟨_,_,rfl,⟨n13,rfl,on13⟩,h⟩:=h;obtain⟨_,_,rfl,⟨n14,rfl,on14⟩,h⟩:=h;obtain⟨_,_,rfl,⟨n15,rfl,on15⟩,h⟩:=h;obtain⟨_,_,rfl,⟨n16,rfl⟩,h⟩:=h;obtain⟨_,_,rfl,⟨n17,rfl,an17,bn17⟩,h⟩:=h;obtain⟨_,_,rfl,⟨n18,rfl,an18,bn18⟩,h⟩:=h;obtain⟨_,_,rfl,⟨n19,rfl,an19,bn19⟩,h⟩:=h;obtain⟨_,_,rfl,⟨n20,rfl,on20⟩,h⟩:=h;obtain⟨_,_,rfl,⟨n21,rfl,on21⟩,h⟩:=h;obtain⟨_,_,rfl,⟨n22,rfl⟩,h⟩:=h;obtain⟨_,_,rfl,⟨n23,rfl,an23,bn23⟩,h⟩:=h;obtain⟨_,_,rfl,⟨n24,rfl⟩,h⟩:=h;have h:_=[]:=h;subst h;exact⟨⟨⟨n0,n1,n2,n3⟩,⟨n4,n5,n6,n7,n8,n9⟩,⟨n10,n11,n12,n13,n14,n15,n16,n17,n18,n19⟩,n20,⟨n21,n22⟩,n23,n24⟩,rfl,(⟨on0,dh an1 bn1,dh an2 bn2,dh an4 bn4,dh an5 bn5,dh an6 bn6,dh an7 bn7,dh an8 bn8,on9,dh an10 bn10,dh an11 bn11,on12,on13,on14,on15,dh an17 bn17,dh an18 bn18,dh an19 bn19,on20,on21,dh an23 bn23⟩:adO (⟨⟨n0,n1,n2,n3⟩,⟨n4,n5,n6,n7,n8,n9⟩,⟨n10,n11,n12,n13,n14,n15,n16,n17,n18,n19⟩,n20,⟨n21,n22⟩,n23,n24⟩:bD))⟩
theorem at7 (av:List AV) (h:kM (qH .bts) av):∃x,cells .bts x=av/\okE .bts x:=by
 obtain⟨_,_,rfl,⟨n0,rfl,on0⟩,h⟩:=h;have h:_=[]:=h;subst h;exact⟨⟨n0⟩,rfl,(⟨on0⟩:ap7 (⟨n0⟩:adF))⟩
theorem ao5 (av:List AV) (h:kM (qH .keeper) av):∃x,cells .keeper x=av/\okE .keeper x:=by
 obtain⟨_,_,rfl,⟨n0,rfl,on0⟩,h⟩:=h;obtain⟨_,_,rfl,⟨n1,rfl,an1,bn1⟩,h⟩:=h;obtain⟨_,_,rfl,⟨n2,rfl,an2,bn2⟩,h⟩:=h;obtain⟨_,_,rfl,⟨n3,rfl⟩,h⟩:=h;obtain⟨_,_,rfl,⟨n4,rfl,an4,bn4⟩,h⟩:=h;have h:_=[]:=h;subst h;exact⟨⟨⟨n0,n1,n2,n3⟩,n4⟩,rfl,(⟨on0,dh an1 bn1,dh an2 bn2,dh an4 bn4⟩:agG (⟨⟨n0,n1,n2,n3⟩,n4⟩:ig))⟩
theorem avq (av:List AV) (h:kM (qH .a3) av):∃x,cells .a3 x=av/\okE .a3 x:=by
 obtain⟨_,_,rfl,⟨n0,rfl,an0,bn0⟩,h⟩:=h;obtain⟨_,_,rfl,⟨n1,rfl,an1,bn1⟩,h⟩:=h;obtain⟨_,_,rfl,⟨n2,rfl,an2,bn2⟩,h⟩:=h;have h:_=[]:=h;subst h;exact⟨⟨n0,n1,n2⟩,rfl,(⟨dh an0 bn0,dh an1 bn1,dh an2 bn2⟩:atg (⟨n0,n1,n2⟩:SA3))⟩
theorem au9 (av:List AV) (h:kM (qH .a4) av):∃x,cells .a4 x=av/\okE .a4 x:=by
 obtain⟨_,_,rfl,⟨n0,rfl,an0,bn0⟩,h⟩:=h;obtain⟨_,_,rfl,⟨n1,rfl,an1,bn1⟩,h⟩:=h;obtain⟨_,_,rfl,⟨n2,rfl,an2,bn2⟩,h⟩:=h;obtain⟨_,_,rfl,⟨n3,rfl,an3,bn3⟩,h⟩:=h;have h:_=[]:=h;subst h;exact⟨⟨n0,n1,n2,n3⟩,rfl,(⟨uK an0 bn0,uK an1 bn1,uK an2 bn2,uK an3 bn3⟩:ath (⟨n0,n1,n2,n3⟩:SA4))⟩
theorem avD (av:List AV) (h:kM (qH .a6) av):∃x,cells .a6 x=av/\okE .a6 x:=by
 obtain⟨_,_,rfl,⟨n0,rfl,an0,bn0⟩,h⟩:=h;obtain⟨_,_,rfl,⟨n1,rfl,an1,bn1⟩,h⟩:=h;obtain⟨_,_,rfl,⟨n2,rfl,an2,bn2⟩,h⟩:=h;obtain⟨_,_,rfl,⟨n3,rfl,an3,bn3⟩,h⟩:=h;obtain⟨_,_,rfl,⟨n4,rfl,an4,bn4⟩,h⟩:=h;obtain⟨_,_,rfl,⟨n5,rfl,an5,bn5⟩,h⟩:=h;have h:_=[]:=h;subst h;exact⟨⟨n0,n1,n2,n3,n4,n5⟩,rfl,(⟨dh an0 bn0,dh an1 bn1,dh an2 bn2,dh an3 bn3,dh an4 bn4,dh an5 bn5⟩:atB (⟨n0,n1,n2,n3,n4,n5⟩:SA6))⟩
theorem aub (av:List AV) (h:kM (qH .a20) av):∃x,cells .a20 x=av/\okE .a20 x:=by
 obtain⟨_,_,rfl,⟨n0,rfl,an0,bn0⟩,h⟩:=h;obtain⟨_,_,rfl,⟨n1,rfl,an1,bn1⟩,h⟩:=h;obtain⟨_,_,rfl,⟨n2,rfl,an2,bn2⟩,h⟩:=h;obtain⟨_,_,rfl,⟨n3,rfl,an3,bn3⟩,h⟩:=h;obtain⟨_,_,rfl,⟨n4,rfl,an4,bn4⟩,h⟩:=h;obtain⟨_,_,rfl,⟨n5,rfl,an5,bn5⟩,h⟩:=h;obtain⟨_,_,rfl,⟨n6,rfl,an6,bn6⟩,h⟩:=h;obtain⟨_,_,rfl,⟨n7,rfl,an7,bn7⟩,h⟩:=h;obtain⟨_,_,rfl,⟨n8,rfl,an8,bn8⟩,h⟩:=h;obtain⟨_,_,rfl,⟨n9,rfl,an9,bn9⟩,h⟩:=h;obtain⟨_,_,rfl,⟨n10,rfl,an10,bn10⟩,h⟩:=h;obtain⟨_,_,rfl,⟨n11,rfl,an11,bn11⟩,h⟩:=h;obtain⟨_,_,rfl,⟨n12,rfl,an12,bn12⟩,h⟩:=h;obtain⟨_,_,rfl,⟨n13,rfl,an13,bn13⟩,h⟩:=h;obtain⟨_,_,rfl,⟨n14,rfl,an14,bn14⟩,h⟩:=h;obtain⟨_,_,rfl,⟨n15,rfl,an15,bn15⟩,h⟩:=h;obtain⟨_,_,rfl,⟨n16,rfl,an16,bn16⟩,h⟩:=h;obtain⟨_,_,rfl,⟨n17,rfl,an17,bn17⟩,h⟩:=h;obtain⟨_,_,rfl,⟨n18,rfl,an18,bn18⟩,h⟩:=h;obtain⟨_,_,rfl,⟨n19,rfl,an19,bn19⟩,h⟩:=h;have h:_=[]:=h;subst h;exact⟨⟨n0,n1,n2,n3,n4,n5,n6,n7,n8,n9,n10,n11,n12,n13,n14,n15,n16,n17,n18,n19⟩,rfl,(⟨uK an0 bn0,uK an1 bn1,uK an2 bn2,uK an3 bn3,uK an4 bn4,uK an5 bn5,uK an6 bn6,uK an7 bn7,uK an8 bn8,uK an9 bn9,uK an10 bn10,uK an11 bn11,uK an12 bn12,uK an13 bn13,uK an14 bn14,uK an15 bn15,uK an16 bn16,uK an17 bn17,uK an18 bn18,uK an19 bn19⟩:aq6 (⟨n0,n1,n2,n3,n4,n5,n6,n7,n8,n9,n10,n11,n12,n13,n14,n15,n16,n17,n18,n19⟩:akv))⟩
theorem auq (av:List AV) (h:kM (qH .big) av):∃x,cells .big x=av/\okE .big x:=by
 obtain⟨_,_,rfl,⟨n0,rfl,an0,bn0⟩,h⟩:=h;obtain⟨_,_,rfl,⟨n1,rfl,an1,bn1⟩,h⟩:=h;have h:_=[]:=h;subst h;exact⟨⟨n0,n1⟩,rfl,(⟨aqx an0 bn0,aqx an1 bn1⟩:arz (⟨n0,n1⟩:arK))⟩
theorem ar9 (av:List AV) (h:kM (qH .went) av):∃x,cells .went x=av/\okE .went x:=by
 obtain⟨_,_,rfl,⟨n0,rfl,on0⟩,h⟩:=h;obtain⟨_,_,rfl,⟨n1,rfl,an1,bn1⟩,h⟩:=h;obtain⟨_,_,rfl,⟨n2,rfl,an2,bn2⟩,h⟩:=h;obtain⟨_,_,rfl,⟨n3,rfl⟩,h⟩:=h;obtain⟨_,_,rfl,⟨n4,rfl,an4,bn4⟩,h⟩:=h;obtain⟨_,_,rfl,⟨n5,rfl,an5,bn5⟩,h⟩:=h;obtain⟨_,_,rfl,⟨n6,rfl,an6,bn6⟩,h⟩:=h;obtain⟨_,_,rfl,⟨n7,rfl,an7,bn7⟩,h⟩:=h;obtain⟨_,_,rfl,⟨n8,rfl,an8,bn8⟩,h⟩:=h;obtain⟨_,_,rfl,⟨n9,rfl,on9⟩,h⟩:=h;obtain⟨_,_,rfl,⟨n10,rfl,an10,bn10⟩,h⟩:=h;obtain⟨_,_,rfl,⟨n11,rfl,an11,bn11⟩,h⟩:=h;obtain⟨_,_,rfl,⟨n12,rfl,on12⟩,h⟩:=h;obtain⟨_,_,rfl,⟨n13,rfl,on13⟩,h⟩:=h;obtain⟨_,_,rfl,⟨n14,rfl,on14⟩,h⟩:=h;obtain⟨_,_,rfl,⟨n15,rfl,on15⟩,h⟩:=h;obtain⟨_,_,rfl,⟨n16,rfl⟩,h⟩:=h;obtain⟨_,_,rfl,⟨n17,rfl,an17,bn17⟩,h⟩:=h;obtain⟨_,_,rfl,⟨n18,rfl,an18,bn18⟩,h⟩:=h;obtain⟨_,_,rfl,⟨n19,rfl,an19,bn19⟩,h⟩:=h;obtain⟨_,_,rfl,⟨n20,rfl,on20⟩,h⟩:=h;obtain⟨_,_,rfl,⟨n21,rfl,on21⟩,h⟩:=h;obtain⟨_,_,rfl,⟨n22,rfl⟩,h⟩:=h;obtain⟨_,_,rfl,⟨n23,rfl,an23,bn23⟩,h⟩:=h;obtain⟨_,_,rfl,⟨n24,rfl⟩,h⟩:=h;obtain⟨_,_,rfl,⟨n25,rfl,on25⟩,h⟩:=h;obtain⟨_,_,rfl,⟨n26,rfl,an26,bn26⟩,h⟩:=h;have h:_=[]:=h;subst h;exact⟨⟨⟨⟨n0,n1,n2,n3⟩,⟨n4,n5,n6,n7,n8,n9⟩,⟨n10,n11,n12,n13,n14,n15,n16,n17,n18,n19⟩,n20,⟨n21,n22⟩,n23,n24⟩,n25,n26⟩,rfl,(⟨on0,dh an1 bn1,dh an2 bn2,dh an4 bn4,dh an5 bn5,dh an6 bn6,dh an7 bn7,dh an8 bn8,on9,dh an10 bn10,dh an11 bn11,on12,on13,on14,on15,dh an17 bn17,dh an18 bn18,dh an19 bn19,on20,on21,dh an23 bn23,on25,dh an26 bn26⟩:anQ (⟨⟨⟨n0,n1,n2,n3⟩,⟨n4,n5,n6,n7,n8,n9⟩,⟨n10,n11,n12,n13,n14,n15,n16,n17,n18,n19⟩,n20,⟨n21,n22⟩,n23,n24⟩,n25,n26⟩:BG))⟩
theorem ap5:∀(e:E) (av:List AV),kM (qH e) av->∃x,cells e x=av/\okE e x
 |.u8=>av3
 |.i64=>atX
 |.bool=>arP
 |.str=>auK
 |.file=>asA
 |.disk=>asR
 |.frame=>aqz
 |.recd=>asQ
 |.order=>aru
 |.cell=>arM
 |.expo=>as1
 |.state=>apP
 |.wal=>auB
 |.slot=>as2
 |.msg=>au4
 |.note=>arO
 |.feed=>arX
 |.gate=>asO
 |.bts=>at7
 |.keeper=>ao5
 |.a3=>avq
 |.a4=>au9
 |.a6=>avD
 |.a20=>aub
 |.big=>auq
 |.went=>ar9
end Go.Av
namespace Go.Av
open Go Go.RowKit
def UW (P:Program) (f:TypeId->Option (List Kd)):List Field->Nat->Option (List Kd)
 |[],_=>some []
 |fd::r,off=>bif Nat.beq fd.offset off then (match f fd.type with
   |some ks=>bif Nat.beq (P.cellsOf fd.type) ks.length then (match UW P f r (off+ks.length)with
    |some rs=>some (ks++rs)
    |none=>none)else none
   |none=>none)else none
def auc (ks:List Kd):Nat->List Kd
 |0=>[]
 |n+1=>ks++auc ks n
def aaj (P:Program) (et:List (Nat×E)):Nat->TypeId->Option (List Kd)
 |0,_=>none
 |n+1,t=>match P.underlying t with
  |some .bool=>some [.bool]
  |some (.int k)=>some [.int k]
  |some .string=>some [.str]
  |some (.slice el)=>(match look et el with
   |some e=>if aaj P et n el=some (qH e)/\P.cellsOf el=esz e then some [.ro e]else none
   |none=>none)
  |some (.struct fs)=>(match UW P (aaj P et n) fs.toList 0 with
   |some ks=>if P.cellsOf t=ks.length then some ks else none
   |none=>none)
  |some (.array m el)=>(match aaj P et n el with
   |some ks=>if P.cellsOf el=ks.length/\P.cellsOf t=m*ks.length then some (auc ks m)else none
   |none=>none)
  |_=>none
def Jr (M:Mem) (av:List AV) (vs:List Value):Prop:=av.length=vs.length/\∀i,(h:i<av.length)->(h':i<vs.length)->bT M av[i] vs[i]/\vs[i].oneCell=true
theorem Jr.one {M:Mem} {a:AV} {v:Value} (h:bT M a v) (h1:v.oneCell=true):Jr M [a] [v]:=⟨rfl,fun i hi _=>by
 have:i=0:=by simpa using hi
 subst this
 exact⟨h,h1⟩⟩
theorem Jr.app {M:Mem} {a b:List AV} {vs us:List Value} (h:Jr M a vs) (k:Jr M b us):Jr M (a++b) (vs++us):=⟨by simp [h.1,k.1],fun i h1 h2=>by
 by_cases hi:i<a.length
 ·have hi':i<vs.length:=h.1▸hi;rw[axq hi,axq hi'];exact h.2 i hi hi'
 ·have hi':¬i<vs.length:=h.1▸hi;rw[axl (by omega),axl (by omega)];have h3:i - a.length<b.length:=by simp at h1;omega
  have:=k.2 (i - a.length) h3 (by rw[<-k.1];exact h3)
  simpa [h.1] using this⟩
theorem ZK:∀ {k1 k2:List Kd} {a b:List AV},kM k1 a->kM k2 b->kM (k1++k2) (a++b)
 |[],k2,a,b,h1,h2=>by
  have:a=[]:=h1
  subst this;exact h2
 |k::k1,k2,a,b,h1,h2=>by
  obtain⟨c,r,rfl,h3,h4⟩:=h1
  exact⟨c,r++b,rfl,h3,ZK h4 h2⟩
def Mem.all (w:World):Mem:={ U:=fun _=>False,F:=fun b=>b<w.heap.size,β:=fun _=>none,hp:=fun _=>none,H:=w.heap }
theorem Mem.all_rel (w:World) (hg:Jb (fun b=>b<w.heap.size) w.heap):lJ (Mem.all w):=lJ.mk' hg (fun _ _ h=>by cases h) (fun _ _ h=>by cases h) (fun _ _ _ h=>by cases h) (fun _ _ _ _ _ h=>by cases h)
theorem adl {α:Type} {Q:Nat->α->Prop}:∀(n:Nat),(∀i,i<n->∃x,Q i x)->∃l:List α,l.length=n/\∀i,(h:i<l.length)->Q i l[i]
 |0,_=>⟨[],rfl,fun i h=>by simp at h⟩
 |n+1,h=>by
  obtain⟨l,h1,h2⟩:=adl n fun i hi=>h i (by omega)
  obtain⟨x,hx⟩:=h n (by omega)
  refine⟨l++[x],by simp [h1],fun i hi=> ?_⟩
  by_cases hin:i<l.length
  ·rw[axq hin];exact h2 i hin
  ·have:i=n:=by simp [h1]at hi hin;omega
   subst this
   simpa [h1] using hx
theorem aaM {α β:Type} {f:α->Option β}:∀ {l:List α} {r:List β},l.mapM f=some r->∀x∈l,∃y,f x=some y
 |[],_,_,x,hx=>by cases hx
 |a::l,r,h,x,hx=>by
  simp only[ayJ,bind,awi,pure]at h
  obtain⟨b,h1,bs,h2,_⟩:=h
  rcases aww.1 hx with rfl | hx
  ·exact⟨b,h1⟩
  ·exact aaM h2 x hx
theorem anq {α:Type} (p:α->Prop):okL p []:=⟨fun x hx=>(by cases hx),by simp⟩
theorem aoN {w:World} {e:E} {a:Addr} {len cap:Nat} (hl:len<=cap) (hm:cap<=maxLen) (h:∀i,i<len->∃x:den e,okE e x/\∀k,k<esz e->∃u,w.cell? ((a.add (i*esz e)).add k)=some u/\bT (Mem.all w) (nth (cells e x) k) u):
 ∃l:List (den e),bT (Mem.all w) (.ro e l false) (.slice (some a) len cap)/\okL (okE e) l:=by
 obtain⟨l,h1,h2'⟩:=adl len h
 have h2:=fun i hi=>(h2' i hi).2
 have hok:okL (okE e) l:=⟨fun x hx=>by
  obtain⟨i,hi,rfl⟩:=axu hx
  exact(h2' i hi).1,by unfold maxLen at hm;omega⟩
 cases hlen:len with
 |zero=>exact⟨[],.roE e false (some a) cap (by simp),anq _⟩
 |succ m=>
  have h0:0<l.length:=by omega
  have hz:0<esz e:=ayK (CO e)
  obtain⟨u,hu,_⟩:=h2 0 h0 0 hz
  have ha0:(a.add (0*esz e)).add 0=a:=by simp [Addr.add]
  rw[ha0]at hu
  obtain⟨b,o,sp⟩:=a
  have hsp:sp=none:=by
   unfold World.cell? at hu
   split at hu
   ·cases sp with
    |none=>rfl
    |some q=>simp at hu
   ·cases hu
  subst hsp
  have hb:b<w.heap.size:=by
   unfold World.cell? at hu
   split at hu
   ·rename_i hh;exact(awG.1 hh).1
   ·cases hu
  refine⟨l,?_,hok⟩
  rw[<-hlen,<-h1]
  have hc:∀i k,(hi:i<l.length)->k<esz e->∃u,cellAt w.heap b (o+i*esz e+k)=some u/\bT (Mem.all w) (nth (cells e l[i]) k) u:=fun i k hi hk=>by
   obtain⟨u,g1,g2⟩:=h2 i hi k hk
   rw[Addr.add_mk,Addr.add_mk,aaK]at g1
   exact⟨u,g1,g2⟩
  refine .ro e l false b o cap (by omega) (by simp) hb (fun i k=>(cellAt w.heap b (o+i*esz e+k)).getD undef) (fun i k hi hk=> ?_) fun i k hi hk=> ?_
  ·obtain⟨u,g1,_⟩:=hc i k hi hk
   show cellAt w.heap b _=_
   rw[g1];rfl
  ·obtain⟨u,g1,g2⟩:=hc i k hi hk
   rw[g1];exact g2
section
variable {H:Type} {enc:TypeId×Value->H} {P:Program} {w:World} {base:Nat} {spare:Nat->Bool} {held:Bool} {et:List (Nat×E)}
theorem abp {f:TypeId->Option (List Kd)} {g:TypeId->List Value->Prop} {cs:List Value} (ih:∀t vs ks,g t vs->f t=some ks->∃av,kM ks av/\Jr (Mem.all w) av vs):∀(fs:List Field) (off:Nat) (ks:List Kd),UW P f fs off=some ks->
 (∀x∈fs,g x.type ((cs.drop x.offset).take (P.cellsOf x.type)))->off+ks.length<=cs.length->∃av,kM ks av/\Jr (Mem.all w) av ((cs.drop off).take ks.length)
 |[],off,ks,h,_,_=>by
  simp only[UW,awj]at h
  subst h
  exact⟨[],rfl,by simp [Jr]⟩
 |fd::r,off,ks,h,hg,hl=>by
  simp only[UW]at h
  cases ho:Nat.beq fd.offset off with
  |false=>simp [ho]at h
  |true=>
   have ho:=aws ho
   simp only[ho,acO,cond_true]at h
   cases hf:f fd.type with
   |none=>simp [hf]at h
   |some k1=>
    simp only[hf]at h
    cases hc:Nat.beq (P.cellsOf fd.type) k1.length with
    |false=>simp [hc]at h
    |true=>
     simp only[hc,cond_true]at h
     have hc:=aws hc
     cases hr:UW P f r (off+k1.length)with
     |none=>simp [hr]at h
     |some k2=>
      simp only[hr,awj]at h
      subst h
      simp only[awn]at hl
      obtain⟨a1,m1,s1⟩:=ih fd.type _ k1 (hg fd (by simp)) hf
      rw[ho,hc]at s1
      obtain⟨a2,m2,s2⟩:=abp ih r (off+k1.length) k2 hr (fun x hx=>hg x (by simp [hx])) (by omega)
      refine⟨a1++a2,ZK m1 m2,?_⟩
      have:(cs.drop off).take (k1++k2).length=(cs.drop off).take k1.length++(cs.drop (off+k1.length)).take k2.length:=by
       rw[awn,List.take_add,List.drop_drop]
      rw[this]
      exact s1.app s2
theorem ahO {ks:List Kd} {cs:List Value}:∀(m off:Nat),(∀i,i<m->∃av,kM ks av/\Jr (Mem.all w) av ((cs.drop (off+i*ks.length)).take ks.length))->∃av,kM (auc ks m) av/\Jr (Mem.all w) av ((cs.drop off).take (m*ks.length))
 |0,off,_=>⟨[],rfl,by simp [Jr]⟩
 |m+1,off,h=>by
  obtain⟨a1,m1,s1⟩:=h 0 (by omega)
  obtain⟨a2,m2,s2⟩:=ahO m (off+ks.length) fun i hi=>by
   have:=h (i+1) (by omega)
   have e:off+(i+1)*ks.length=off+ks.length+i*ks.length:=by rw[awz];omega
   rwa[e]at this
  refine⟨a1++a2,ZK m1 m2,?_⟩
  have:(cs.drop off).take ((m+1)*ks.length)=(cs.drop (off+0*ks.length)).take ks.length++(cs.drop (off+ks.length)).take (m*ks.length):=by
   rw[awz,axb,Nat.add_comm (m*ks.length),List.take_add,List.drop_drop];simp
  rw[this]
  exact s1.app s2
theorem amM (het:ahc P et):∀(fuel n:Nat) (t:TypeId) (cs:List Value) (r:DataW H×List MemPlace) (ks:List Kd),DataW.trod enc P w base spare held fuel t cs=some r->aaj P et n t=some ks->
 ∃av,kM ks av/\Jr (Mem.all w) av cs:=by
 intro fuel
 induction fuel with
 |zero=>intro n t cs r ks h _;simp [DataW.trod]at h
 |succ fuel ih=>
  intro n t cs r ks h hk
  cases n with
  |zero=>simp [aaj]at hk
  |succ n=>
   unfold aaj at hk
   unfold DataW.trod at h
   cases hu:P.underlying t with
   |none=>simp [hu]at hk
   |some d=>
    rw[hu]at hk h
    cases d with
    |bool=>
     simp only[awj]at hk
     subst hk
     split at h
     ·exact⟨_,⟨_,_,rfl,⟨_,rfl⟩,rfl⟩,Jr.one (.bool _) rfl⟩
     all_goals first
      |(rename_i heq _;cases heq;done)
      |(rename_i heq;cases heq;done)
      |(simp_all;done)
    |int k=>
     simp only[awj]at hk
     subst hk
     split at h
     case h_2=>
      rename_i k1 k' m heq
      cases heq
      split at h
      ·rename_i hc
       obtain⟨rfl,hwf⟩:=hc
       rw[Lit.wf,awp,aw9,aw9]at hwf
       exact⟨_,⟨_,_,rfl,⟨_,rfl,hwf.1,hwf.2⟩,rfl⟩,Jr.one (.int _ _) rfl⟩
      ·cases h
     all_goals first
      |(rename_i heq _;cases heq;done)
      |(rename_i heq;cases heq;done)
      |(simp_all;done)
    |string=>
     simp only[awj]at hk
     subst hk
     split at h
     case h_4=>
      rename_i s heq
      split at h
      ·rename_i hsz
       exact⟨_,⟨_,_,rfl,⟨_,rfl,hsz⟩,rfl⟩,Jr.one (.str _ _ rfl) rfl⟩
      ·cases h
     all_goals first
      |(rename_i heq _;cases heq;done)
      |(rename_i heq;cases heq;done)
      |(simp_all;done)
    |slice el=>
     simp only at hk
     cases he:look et el with
     |none=>simp [he]at hk
     |some e=>
      simp only[he]at hk
      split at hk
      ·rename_i hc
       obtain⟨hke,hsz⟩:=hc
       simp only[awj]at hk
       subst hk
       split at h
       case h_7=>exact⟨_,⟨_,_,rfl,⟨[],rfl,anq _⟩,rfl⟩,Jr.one (.roE _ _ _ _ (by simp)) rfl⟩
       case h_8=>
        rename_i e' a len cap heq
        cases heq
        simp only at h
        split at h
        ·rename_i hb
         simp only[awi]at h
         obtain⟨elems,h1,_⟩:=h
         obtain⟨l,hl,hok⟩:=aoN (w:=w) (e:=e) (a:=a) (len:=len) (cap:=cap) hb.2.1 hb.2.2 fun i hi=>by
          obtain⟨y,hy⟩:=aaM h1 i (axJ.2 hi)
          simp only[awi]at hy
          obtain⟨ci,hci,hti⟩:=hy
          obtain⟨av,m1,m2⟩:=ih n el ci y _ hti hke
          obtain⟨x,hx,hox⟩:=ap5 e av m1
          obtain⟨_,hcl,hcg⟩:=World.cells?_some hci
          refine⟨x,hox,fun k hk=> ?_⟩
          have hk1:k<av.length:=by rw[<-hx,xQ];exact hk
          have hk2:k<ci.length:=m2.1▸hk1
          obtain⟨q1,_⟩:=m2.2 k hk1 hk2
          have:=hcg k (by rw[hsz];exact hk)
          rw[awL hk2,hsz]at this
          refine⟨_,this,?_⟩
          rw[hx,vG _ _ hk1];exact q1
         exact⟨_,⟨_,_,rfl,⟨l,rfl,hok⟩,rfl⟩,Jr.one hl rfl⟩
        ·cases h
       all_goals first
        |(rename_i heq _;cases heq;done)
        |(rename_i heq;cases heq;done)
        |(simp_all;done)
      ·cases hk
    |struct fs=>
     simp only at hk
     cases hf:UW P (aaj P et n) fs.toList 0 with
     |none=>simp [hf]at hk
     |some k1=>
      simp only[hf]at hk
      split at hk
      ·rename_i hsz
       simp only[awj]at hk
       subst hk
       split at h
       case h_9=>
        rename_i cs0 x0 fs' cs' heq
        cases heq
        split at h
        ·rename_i hl
         rw[ayN]at h
         obtain⟨xs,h1,_⟩:=h
         have hall:=aaM h1
         obtain⟨av,m1,m2⟩:=abp (P:=P) (w:=w) (g:=fun t vs=>∃r,DataW.trod enc P w base spare held fuel t vs=some r) (cs:=cs0) (fun t vs ks ⟨r,hr⟩ hks=>ih n t vs r ks hr hks) fs.toList 0 k1 hf hall (by omega)
         refine⟨av,m1,?_⟩
         rwa[axP,aw5 (by omega)]at m2
        ·cases h
       all_goals first
        |(rename_i heq _;cases heq;done)
        |(rename_i heq;cases heq;done)
        |(simp_all;done)
      ·cases hk
    |array m el=>
     simp only at hk
     cases hf:aaj P et n el with
     |none=>simp [hf]at hk
     |some k1=>
      simp only[hf]at hk
      split at hk
      ·rename_i hsz
       simp only[awj]at hk
       subst hk
       split at h
       case h_10=>
        rename_i cs0 x0 m' e' cs' heq
        cases heq
        split at h
        ·rename_i hl
         rw[ayN]at h
         obtain⟨xs,h1,_⟩:=h
         have hall:=aaM h1
         obtain⟨av,m1,m2⟩:=ahO (w:=w) (ks:=k1) (cs:=cs0) m 0 fun i hi=>by
          obtain⟨y,hy⟩:=hall i (axJ.2 hi)
          rw[hsz.1]at hy
          rw[axc]
          exact ih n el _ y k1 hy hf
         refine⟨av,m1,?_⟩
         rwa[axP,aw5 (by omega)]at m2
        ·cases h
       all_goals first
        |(rename_i heq _;cases heq;done)
        |(rename_i heq;cases heq;done)
        |(simp_all;done)
      ·cases hk
    |_=>simp at hk
end
theorem agA (e:E) (x:den e):Ew e (cells e x)=some x:=by cases e<;>rfl
theorem akd (hp:Nat->Option Ent) (e:E) (x:den e):(jG hp (cells e x)).1=cells e x:=by cases e<;>rfl
def ahu:Sh->Bool
 |.buf _=>false
 |.fnv _=>false
 |.rf _=>false
 |_=>true
theorem ajv (hp:Nat->Option Ent) (k:Nat):∀(s:Sh) (x:s.T),ahu s=true->jb hp s (encS k s x)=some x
 |.int i,x,_=>by simp [encS,jb]
 |.bool,x,_=>rfl
 |.str,x,_=>rfl
 |.ro e,x,_=>by simp [encS,jb]
 |.val e,x,_=>by simp only[encS,jb];rw[akd,agA]
 |.buf e,x,h=>by cases h
 |.fnv f,x,h=>by cases h
 |.rf f,x,h=>by cases h
theorem ae7 (hp:Nat->Option Ent):∀(xs:List Sh) (k:Nat) (x:Tup xs),xs.all ahu=true->UI hp xs (Cb k xs x)=some x
 |[],k,x,_=>rfl
 |[s],k,x,h=>ajv hp k s x (by simpa using h)
 |s::t::r,k,x,h=>by
  rw[ayi,awp]at h
  rw[Cb,UI,ajv hp k s x.1 h.1]
  simp only
  rw[ae7 hp (t::r) (k+1) x.2 h.2]
theorem ah2:∀(xs:List Sh) (bs:List AV),xs.all ahu=true->iR jX xs bs=[]
 |[],_,_=>rfl
 |_::_,[],_=>rfl
 |s::r,a::bs,h=>by
  rw[ayi,awp]at h
  rw[iR,ah2 r bs h.2,adS (fun e he=>by subst he;cases h.1)];rfl
theorem ae0 {P:Program} {et:List (Nat×E)} (h:NZ P et) {f:Nat} (hb:hasB P f=true) (vals:Array Value) (w:World):(callFunc f vals).run P w= .ok (.enter f vals) w:=by
 unfold hasB at hb;cases hf:P.funcs[f]? with
 |none=>simp [hf]at hb
 |some fn=>
  simp only[hf]at hb;obtain⟨b,hbd⟩:=aza.1 hb;have h3:(fn.name == "runtime.NumGoroutine")=false:=by
   have:=awV.1 h.nog fn (axw (l:=P.funcs.toList) (i:=f) (by simpa using hf));simpa using this
  simp at h3;simp [callFunc,run_program,hf,hbd,h3]
theorem aoK {P:Program} {et:List (Nat×E)} (hS:NZ P et) {f:Nat} (hb:hasB P f=true) {xs:List Sh} {run:Tup xs->Option Bool} (hok:bY P f (mkSpec xs [.bool] true run)) (hxs:xs.all ahu=true)
 (x:Tup xs) (hrun:run x=some true) (vals:Array Value) (W:World) (hg:Jb (fun b=>b<W.heap.size) W.heap) (hn:vals.size=xs.length) (hs:∀(j:Nat) (a:AV) (v:Value),(Cb 0 xs x)[j]? =some a->vals[j]? =some v->bT (Mem.all W) a v):
 Calls P f vals W fun e w'=>e= .returned (.bool true)/\Below W.heap.size W w':=by
 have hl:(Cb 0 xs x).length=xs.length:=by rw[Ah,tY,IG]
 have h:=hok (Mem.all W) W (fun _=>none) (Cb 0 xs x) vals 0 x true (Mem.all_rel W hg) rfl (fun b h=>h) (fun _ _ _ h=>h) (fun _ _ h=>by cases h) (by rw[hn,hl])
  (fun j h1 h2=>hs j _ _ (awL h1) (awW h2)) (by
    show V9 xs (fun _=>none) (Cb 0 xs x)=some x
    unfold V9
    rw[ah2 xs _ hxs,ae7 _ xs 0 x hxs]
    rfl) hrun
 rcases h with ⟨_,h⟩ | ⟨v,w',h1,_⟩
 ·refine h.mono fun e w' ⟨v,he,N,st,_,hsv,_⟩=> ?_
  have hsv:bT N (.bool true) v:=hsv
  have hv:v= .bool true:=by cases hsv;rfl
  subst hv
  exact⟨he,st.os,st.tape,st.output,st.size,fun k hk=>st.old k hk fun ho=>by obtain⟨_,_,h,_⟩:=ho;cases h⟩
 ·rw[ae0 hS hb]at h1
  cases h1
def shK:Sh->List Kd
 |.int k=>[.int k]
 |.bool=>[.bool]
 |.str=>[.str]
 |.ro e=>[.ro e]
 |.val e=>qH e
 |.buf _=>[]
 |.fnv _=>[]
 |.rf _=>[]
def avl:Sh->Bool
 |.val _=>true
 |_=>false
theorem Uj {P:Program} {w:World} {r:Reach} {base:Nat} {t:TypeId} {v:Value} (ha:adA P t=some false) (h:Value.okWide P w r base t v):v.oneCell=true:=by
 unfold adA at ha;unfold Value.okWide at h;cases hu:P.underlying t with
 |none=>simp [hu]at ha
 |some d=>
  rw[hu]at h;cases d<;>first
   |(simp [hu]at ha;done)
   |(simp only at h
     unfold Cell.okWide at h;rw[hu]at h;cases v<;>first
      |rfl
      |(exfalso;revert h;simp [Cell.ok,hu]))
theorem alH {P:Program} {w:World} {r:Reach} {base:Nat} {t:TypeId} {v:Value} (ha:adA P t=some true) (h:Value.okWide P w r base t v):∃cs,v= .agg cs:=by
 unfold adA at ha;unfold Value.okWide at h;cases hu:P.underlying t with
 |none=>simp [hu]at ha
 |some d=>
  rw[hu]at h;cases d<;>first
   |(simp [hu]at ha;done)
   |(obtain⟨cs,h1,_⟩:=h;exact⟨cs,h1⟩)
def av9:(s:Sh)->s.T->Prop
 |.int k,n=>k.min<=n/\n<=k.max
 |.bool,_=>True
 |.str,x=>aiT x
 |.ro e,x=>okL (okE e) x
 |.val e,x=>okE e x
 |.buf _,_=>True
 |.fnv _,_=>True
 |.rf _,_=>True
theorem alT {H:Type} {enc:TypeId×Value->H} {P:Program} {w:World} {base:Nat} {spare:Nat->Bool} {held:Bool} {et:List (Nat×E)} (hS:NZ P et) (s:Sh) {t:TypeId} {v:Value} {d:DataW H} {p:List MemPlace}
 (hk:aaj P et 16 t=some (shK s)) (ha:adA P t=some (avl s)) (hn:ahu s=true) {r:Reach} {b:Nat} (hval:Value.okWide P w r b t v) (h:DataW.Trod enc P w base spare held t v d p):∃x:s.T,av9 s x/\∀k,bT (Mem.all w) (encS k s x) v:=by
 obtain⟨fuel,hf⟩:=h
 obtain⟨av,m,hl,hs⟩:=amM hS.et fuel 16 t _ _ _ hf hk
 have one:∀(h1:v.oneCell=true) (a:AV),av=[a]->bT (Mem.all w) a v:=fun h1 a he=>by
  subst he
  have hc:=acP h1
  have:=(hs 0 (by simp) (by rw[hc];simp)).1
  simpa [hc] using this
 cases s with
 |int k=>
  obtain⟨_,_,rfl,⟨n,rfl,g⟩,h⟩:=m
  have h:_=[]:=h
  subst h
  exact⟨n,g,fun _=>one (Uj ha hval) _ rfl⟩
 |bool=>
  obtain⟨_,_,rfl,⟨n,rfl⟩,h⟩:=m
  have h:_=[]:=h
  subst h
  exact⟨n,trivial,fun _=>one (Uj ha hval) _ rfl⟩
 |str=>
  obtain⟨_,_,rfl,⟨n,rfl,g⟩,h⟩:=m
  have h:_=[]:=h
  subst h
  exact⟨n,g,fun _=>one (Uj ha hval) _ rfl⟩
 |ro e=>
  obtain⟨_,_,rfl,⟨n,rfl,g⟩,h⟩:=m
  have h:_=[]:=h
  subst h
  exact⟨n,g,fun _=>one (Uj ha hval) _ rfl⟩
 |val e=>
  obtain⟨cs,rfl⟩:=alH ha hval
  obtain⟨x,hx,hok⟩:=ap5 e av m
  subst hx
  simp only[Value.cells]at hl hs
  refine⟨x,hok,fun _=> .agg _ _ (by simpa using hl.symm) (fun i hi=> ?_) fun i h1 h2=> ?_⟩
  ·have:=(hs i (by rw[hl];simpa using hi) (by simpa using hi)).2
   simpa using this
  ·have:=(hs i h1 (by simpa using h2)).1
   simpa using this
 |buf e=>cases hn
 |fnv f=>cases hn
 |rf f=>cases hn
end Go.Av
namespace Go.Av
open Go Go.RowKit Go.Shelf Go.Proofs
structure ajR (P:Program) (ρ:Ren) (f:Nat) (e:E) (nm:String) (ta:Array TypeId):Prop where
 mixed:P.follows .mixedOrders=true
 f22:P.funcs[f]? =some { Body2.n22 ρ with name:=nm,targs:=ta }
 t0:P.underlying (ρ.t 0)=some (.tuple #[])
 t3:P.underlying (ρ.t 3)=some (.int .i64)
 t4:P.underlying (ρ.t 4)=some .bool
 t24:P.underlying (ρ.t 24)=some (.slice (ρ.t 9))
 e9:EOk P (ρ.t 9) e
 ov:∃fn,P.funcs[ρ.f 29]? =some fn∧(fn.name == "runtime.NumGoroutine")=false∧fn.body.isNone=true∧Extern.findNext fn=none∧Extern.find fn=some (Extern.SlicesOverlaps.overlaps #[(ρ.t 24),(ρ.t 24)] #[(ρ.t 4)])
theorem LD {P:Program} {t:TypeId} {d:TypeDesc} (h:P.underlying t=some d) (hd:(match d with | .struct _ | .array _ _=>false | _=>true)=true):∀w,(isAgg t).run P w= .ok false w:=fun w=>by
 unfold isAgg;simp only[Sem.run_bind,iK _ h,Result.andThen_ok];cases d<;>simp_all
section
variable {P:Program} {ρ:Ren} {f:Nat} {e:E} {nm:String} {ta:Array TypeId}
set_option maxHeartbeats 4000000 in
set_option maxRecDepth 100000 in
theorem as7 (L:ajR P ρ f e nm ta) (base:Option Addr) (n c vc:Nat) (va:Option Addr) (w w':World) (v:Value) (hnc:n<=c) (hnil:base=none->c=0)
 (hap:(Builtin.append_ #[(ρ.t 24),(ρ.t 24)] (ρ.t 24) #[.slice base n c,.slice va 1 vc]).run P w= .ok v w'):
 Calls P f #[.slice base n c,.int .i64 n,.slice va 1 vc] w fun e w''=>e= .returned v/\w''=w':=by
 have t0:=L.t0;have t3:=L.t3;have t4:=L.t4;have t24:=L.t24
 have a0:=LD L.t0 rfl;have a3:=LD L.t3 rfl;have a4:=LD L.t4 rfl;have a24:=LD L.t24 rfl
 have u0:=run_underlying L.t0;have u3:=run_underlying L.t3;have u4:=run_underlying L.t4;have u24:=run_underlying L.t24
 have z9:=L.e9.size
 have mixed:=L.mixed
 go_enter L.f22,Body2.n22_ntmps ρ
 cases base with
 |none=>
  have hc0:=hnil rfl
  have hn0:n=0:=by omega
  subst hc0;subst hn0
  go_wp2_with (at_builtin;refine Lib.wpList_append_run _ rfl _ _ _ _ rfl _ _ rfl rfl _ _ hap ?_)
  all_goals (go_ret;exact⟨rfl,rfl⟩)
 |some a=>
  obtain⟨ab,ao,asp⟩:=a
  go_wp2_with (at_builtin;refine Lib.wpList_append_run _ rfl _ _ _ _ rfl _ _ rfl rfl _ _ hap ?_)
  all_goals (go_ret;exact⟨rfl,rfl⟩)
set_option maxHeartbeats 4000000 in
set_option maxRecDepth 100000 in
theorem aoC (L:ajR P ρ f e nm ta) (b off n c i vc:Nat) (va:Addr) (w w1 w2:World) (hi:i<n) (hroom:n+1<=c) (hn63:n+1<=9223372036854775807)
 (hov:∀lb cb,(Extern.SlicesOverlaps.overlaps #[(ρ.t 24),(ρ.t 24)] #[(ρ.t 4)] #[.slice (some va) 1 vc,.slice (some ⟨b,off+(i+1)*esz e,none⟩) lb cb]).run P w= .ok (.bool false) w)
 (hcp1:∀ty dc sc,(Builtin.copy_ #[(ρ.t 24),(ρ.t 24)] ty #[.slice (some ⟨b,off+(i+1)*esz e,none⟩) (n - i) dc,.slice (some ⟨b,off+i*esz e,none⟩) (n+1 - i) sc]).run P w.drew= .ok (goInt ((n - i:Nat):Int)) w1)
 (hcp2:∀ty dc,(Builtin.copy_ #[(ρ.t 24),(ρ.t 24)] ty #[.slice (some ⟨b,off+i*esz e,none⟩) (n+1 - i) dc,.slice (some va) 1 vc]).run P w1= .ok (goInt 1) w2):
 Calls P f #[.slice (some ⟨b,off,none⟩) n c,.int .i64 i,.slice (some va) 1 vc] w fun e w''=>e= .returned (.slice (some ⟨b,off,none⟩) (n+1) c)/\w''=w2:=by
 have t0:=L.t0;have t3:=L.t3;have t4:=L.t4;have t24:=L.t24
 have a0:=LD L.t0 rfl;have a3:=LD L.t3 rfl;have a4:=LD L.t4 rfl;have a24:=LD L.t24 rfl
 have u0:=run_underlying L.t0;have u3:=run_underlying L.t3;have u4:=run_underlying L.t4;have u24:=run_underlying L.t24
 have z9:=L.e9.size
 have mixed:=L.mixed
 have hz2:¬((i:Int)=(n:Int)):=by omega
 have hov':∀lb cb,(callFunc (ρ.f 29) #[.slice (some va) 1 vc,.slice (some ⟨b,off+(i+1)*esz e,none⟩) lb cb]).run P w= .ok (.value (.bool false)) w:=fun lb cb=>by
  obtain⟨fn,h1,h2,h3,h4,h5⟩:=L.ov
  rw[run_callFunc_extern h1 h2 h3 h4 h5,hov]
  rfl
 have hw1:IntKind.i64.wrap ((i:Int)+(1:Int))=(i:Int)+(1:Int):=by rw[IntKind.wrap_i64];omega
 have hb1:(0:Int)<=(i:Int)+(1:Int):=by omega
 have hin:i<=n:=by omega
 have htn:((i:Int)+(1:Int)).toNat=i+1:=by omega
 have hb2:¬(c=i+1):=by omega
 have hb3:(i:Int)<=(n:Int)+(1:Int):=by omega
 have hb4:¬(c=i):=by omega
 obtain⟨vb,vo,vs⟩:=va
 go_enter L.f22,Body2.n22_ntmps ρ
 go_wp2_with (simp only[hov'])
 go_region_law_o (refine step_copy_runI rfl _ _ (ρ.t 24) (ρ.t 24) rfl _ _ (by simp [Act.eval,Act.put]) (by simp [Act.eval,Act.put]) (hcp1 _ _ _) ?_)
 go_wp2_with (at_builtin;refine wpList_copy_runI _ rfl _ _ (ρ.t 24) (ρ.t 24) rfl _ _ rfl rfl (hcp2 _ _) ?_)
 go_ret
 exact⟨rfl,rfl⟩
set_option maxHeartbeats 4000000 in
set_option maxRecDepth 100000 in
theorem apO (L:ajR P ρ f e nm ta) (b off n c i vc nb G:Nat) (va:Addr) (w w1 w2 w3:World) (hi:i<n) (hnc:n<=c) (hroom:c<n+1) (hG:n+1<=G) (hG63:G<=9223372036854775807)
 (hrz:∀ty,(Builtin.append_ #[(ρ.t 24),(ρ.t 3)] ty #[.slice (some ⟨b,off,none⟩) i c,.int .i64 ((n:Int)+1 - (i:Int))]).run P w= .ok (.slice (some ⟨nb,0,none⟩) (n+1) G) w1)
 (hcp1:∀ty dc,(Builtin.copy_ #[(ρ.t 24),(ρ.t 24)] ty #[.slice (some ⟨nb,i*esz e,none⟩) (n+1 - i) dc,.slice (some va) 1 vc]).run P w1= .ok (goInt 1) w2)
 (hcp2:∀ty dc sc,(Builtin.copy_ #[(ρ.t 24),(ρ.t 24)] ty #[.slice (some ⟨nb,(i+1)*esz e,none⟩) (n - i) dc,.slice (some ⟨b,off+i*esz e,none⟩) (n - i) sc]).run P w2.drew= .ok (goInt ((n - i:Nat):Int)) w3):
 Calls P f #[.slice (some ⟨b,off,none⟩) n c,.int .i64 i,.slice (some va) 1 vc] w fun e w''=>e= .returned (.slice (some ⟨nb,0,none⟩) (n+1) G)/\w''=w3:=by
 have t0:=L.t0;have t3:=L.t3;have t4:=L.t4;have t24:=L.t24
 have a0:=LD L.t0 rfl;have a3:=LD L.t3 rfl;have a4:=LD L.t4 rfl;have a24:=LD L.t24 rfl
 have u0:=run_underlying L.t0;have u3:=run_underlying L.t3;have u4:=run_underlying L.t4;have u24:=run_underlying L.t24
 have z9:=L.e9.size
 have mixed:=L.mixed
 have hz2:¬((i:Int)=(n:Int)):=by omega
 have hz3:(c:Int)<(n:Int)+(1:Int):=by omega
 have hGi:¬(G=i):=by omega
 have hGim:¬(G=i+1):=by omega
 have hci:¬(c=i):=by omega
 have hw1:IntKind.i64.wrap ((i:Int)+(1:Int))=(i:Int)+(1:Int):=by rw[IntKind.wrap_i64];omega
 have hb1:(0:Int)<=(i:Int)+(1:Int):=by omega
 have hin:i<=n:=by omega
 have htn:((i:Int)+(1:Int)).toNat=i+1:=by omega
 have hb3:(i:Int)<=(n:Int):=by omega
 obtain⟨vb,vo,vs⟩:=va
 go_enter L.f22,Body2.n22_ntmps ρ
 go_wp2_with (first
  |(at_builtin;refine Lib.wpList_append_run _ rfl _ _ _ _ rfl _ _ rfl rfl _ _ (hrz _) ?_)
  |(at_builtin;refine wpList_copy_runI _ rfl _ _ (ρ.t 24) (ρ.t 24) rfl _ _ rfl rfl (hcp1 _ _) ?_))
 go_region_law_o (refine step_copy_runI rfl _ _ (ρ.t 24) (ρ.t 24) rfl _ _ (by simp [Act.eval,Act.put]) (by simp [Act.eval,Act.put]) (hcp2 _ _ _) ?_)
 go_wp2
 go_ret
 exact⟨rfl,rfl⟩
end
section
variable {P:Program} {ρ:Ren} {f:Nat} {e:E} {nm:String} {ta:Array TypeId} {M:Mem} {w:World} {i:Nat}
theorem afK (e:E):0<esz e:=ayK fun h=>CO e h
theorem lies (hrel:lJ M) {a2:AV} {v2:Value} {x:den e} (hs:bT M a2 v2) (hl:lst M.hp e a2=some [x]) {j:Nat} (hj:a2= .mf j\/∃o n,a2= .ms j o n):
 ∃b vo vc fz l2,v2= .slice (some ⟨b,vo,none⟩) 1 vc/\M.hp j=some ⟨fz,.arr e l2⟩/\M.β j=some b/\∃c t fr,M.H[b]? =some (.cells c t fr)/\Ib (.arr e l2) c fr/\vo<c.size:=by
 have hpos:=afK e
 rcases hj with rfl | ⟨o,n,rfl⟩
 ·cases hm:M.hp j with
  |none=>simp [lst,hm]at hl
  |some en=>
   obtain⟨fz,bl⟩:=en
   cases bl with
   |raw cs=>simp [lst,hm]at hl
   |arr t l2=>
    simp only[lst,hm]at hl
    split at hl
    ·rename_i heq
     subst heq
     simp only[awj]at hl
     subst hl
     cases hs with
     |mf _ _ hU h1 h=>
      obtain⟨fz',t',l',a,cap,g1,rfl,g3,g4⟩:=h _ hm
      simp only[Ent.mk.injEq,Blk.arr.injEq]at g1
      obtain⟨rfl,rfl,g1⟩:=g1
      have g1:=eq_of_heq g1
      subst g1
      unfold xE at g4
      cases hb:M.β j with
      |none=>simp only[hb]at g4;simp at g3;omega
      |some b=>
       simp only[hb]at g4
       obtain⟨⟨oo,rfl,hoo⟩,nb,hnb,hnb2⟩:=g4
       simp at g3
       have:oo=0:=by rcases hoo with g | g<;>omega
       subst this
       obtain⟨_,_,c,t2,fr,hc,hz,hlc,_⟩:=hrel.is hm hb
       refine⟨b,0,cap,fz,[x],rfl,rfl,rfl,c,t2,fr,hc,hz,?_⟩
       simp at hlc
       omega
    ·simp at hl
 ·cases hm:M.hp j with
  |none=>simp [lst,hm]at hl
  |some en=>
   obtain⟨fz,bl⟩:=en
   cases bl with
   |raw cs=>simp [lst,hm]at hl
   |arr t l2=>
    simp only[lst,hm]at hl
    split at hl
    ·rename_i heq
     subst heq
     simp only[awj,aV,bZ]at hl
     cases hs with
     |ms _ _ _ _ hU h1 h=>
      obtain⟨fz',t',l',a,cap,g1,rfl,g2,g3,g5,g4⟩:=h _ hm
      simp only[Ent.mk.injEq,Blk.arr.injEq]at g1
      obtain⟨rfl,rfl,g1⟩:=g1
      have g1:=eq_of_heq g1
      subst g1
      have hn1:n=1:=by
       have:=axg List.length hl
       simp at this
       omega
      subst hn1
      unfold xE at g4
      cases hb:M.β j with
      |none=>simp only[hb]at g4;omega
      |some b=>
       simp only[hb]at g4
       obtain⟨⟨oo,rfl,hoo⟩,nb,hnb,hnb2⟩:=g4
       have:oo=o*esz t:=by rcases hoo with g | g<;>omega
       subst this
       obtain⟨_,_,c,t2,fr,hc,hz,hlc,_⟩:=hrel.is hm hb
       refine⟨b,_,cap,fz,l2,rfl,rfl,rfl,c,t2,fr,hc,hz,?_⟩
       have:=awH (esz t) g2
       rw[awz]at this
       have hlc:l2.length*esz t<=c.size:=hlc
       omega
    ·simp at hl
theorem aq9 {b o:Nat} {c:Array Value} {t:TypeId} {fr:Nat×Nat} (h:w.heap[b]? =some (.cells c t fr)) (hn:¬(fr.1<=o/\o<fr.2)):w.frozen? ⟨b,o,none⟩=false:=by
 simp only[World.frozen?,h];obtain⟨lo,hi⟩:=fr;simp at hn ⊢;omega
theorem ar7 (L:ajR P ρ f e nm ta) (hu:KX (.arr e [])=false) (hrel:lJ M) (hH:M.H=w.heap) {vb vo vc b:Nat} {l2:List (den e)} {c:Array Value} {t:TypeId} {fr:Nat×Nat}
 (h1:M.H[vb]? =some (.cells c t fr)) (h2:Ib (.arr e l2) c fr) (h3:vo<c.size) {cb:Array Value} {tb:TypeId} {fb:Nat×Nat} (h4:M.H[b]? =some (.cells cb tb fb)) (h5:cb.size≠0) (hne:vb≠b) (ob lb cb':Nat):
 (Extern.SlicesOverlaps.overlaps #[(ρ.t 24),(ρ.t 24)] #[(ρ.t 4)] #[.slice (some ⟨vb,vo,none⟩) 1 vc,.slice (some ⟨b,ob,none⟩) lb cb']).run P w= .ok (.bool false) w:=by
 have hu':KX (.arr e l2)=false:=by rw[<-hu];cases e<;>rfl
 rw[hH]at h1 h4
 exact Lib.run_overlaps_apart w (ρ.t 24) (ρ.t 4) (ρ.t 9) L.t24 (esz e) L.e9.size ⟨vb,vo,none⟩ ⟨b,ob,none⟩ 1 vc lb cb' hne t tb c.size cb.size (by simp [World.shape?,h1]) (by simp [World.shape?,h4]) h5
  (aq9 h1 (h2.1 vo h3)) (aq9 h1 (h2.2 hu'))
theorem ara {α:Type} (l:List α) (k:Nat) (x:α) (hk:k<l.length):jq (l.take (k+1)++l.drop k) k [x]=l.take k++x::l.drop k:=by
 unfold jq;have h1:(l.take (k+1)++l.drop k).take k=l.take k:=by
  rw[ayg (by simp;omega),List.take_take];congr 1;omega
 have h2:(l.take (k+1)++l.drop k).drop (k+1)=l.drop k:=by
  rw[ax4 (by simp;omega)];simp
 simp [h1,h2]
theorem piece (hrel:lJ M) (hH:M.H=w.heap) {id b:Nat} {fz:Bool} {l:List (den e)} (hm:M.hp id=some ⟨fz,.arr e l⟩) (hb:M.β id=some b) (k m:Nat) (hk:k+m<=l.length):
 ∃d:Array Value,(loadCells ⟨b,k*esz e,none⟩ (m*esz e)).run P w= .ok d w/\N9 M e ((l.drop k).take m) d:=by
 have hU:=hrel.used _ _ hm
 obtain⟨_,_,c,t,fr,hc,hz,hlc,_⟩:=hrel.is hm hb
 have hlc:l.length*esz e<=c.size:=hlc
 have hs:bT M (.ms id k m) (.slice (some ⟨b,k*esz e,none⟩) m (l.length - k)):=by
  refine .ms id k m _ hU ⟨_,_,rfl,by omega⟩ fun e' he'=> ?_
  rw[hm]at he'
  cases he'
  refine⟨fz,e,l,_,_,rfl,rfl,hk,by omega,by omega,?_⟩
  unfold xE
  rw[hb]
  refine⟨⟨_,rfl,.inr rfl⟩,c.size,by simp [bsize,hc],?_⟩
  rw[show k+(l.length - k)=l.length by omega]
  exact hlc
 have hl:lst M.hp e (.ms id k m)=some ((l.drop k).take m):=by simp [lst,hm,aV,bZ]
 obtain⟨_,h2⟩:=FB (P:=P) (w:=w) (fun _ _ h=>h) hrel hH hl hs
 have hlen:((l.drop k).take m).length=m:=by simp;omega
 obtain⟨d,d1,d2⟩:=h2 m (by omega)
 rw[aw5 (by omega)]at d2
 exact⟨d,d1,d2⟩
theorem single (hrel:lJ M) (hH:M.H=w.heap) {a2:AV} {v2:Value} {x:den e} (hs:bT M a2 v2) (hl:lst M.hp e a2=some [x]):
 (Builtin.lenOf v2).run P w= .ok 1 w/\∃d:Array Value,(Builtin.firstCells (esz e) 1 v2).run P w= .ok d w/\N9 M e [x] d:=by
 obtain⟨h1,h2⟩:=FB (P:=P) (w:=w) (fun _ _ h=>h) hrel hH hl hs
 obtain⟨d,d1,d2⟩:=h2 1 (by simp)
 exact⟨h1,d,d1,d2⟩
def adW (M:Mem) (w:World) (i:Nat) (e:E) (l':List (den e)) (own:List Nat) (v:Value) (w':World):Prop:=
 ∃N,Stp M w N w'/\(∀j,N.hp j=over ((i,some ⟨false,.arr e l'⟩)::dead own) M.hp j)/\bT N (.mf i) v/\∀j,N.U j->M.U j\/(i<=j/\j<i+8)
theorem aqI (L:ajR P ρ f e nm ta) (hu:KX (.arr e [])=false) (hrel:lJ M) (hH:M.H=w.heap) (hF:∀b,M.F b->b<w.heap.size) (hi:∀j,i<=j->j<i+8->¬M.U j)
 {id b cap k:Nat} {l:List (den e)} {x:den e} (hm:M.hp id=some ⟨false,.arr e l⟩) (hb:M.β id=some b) (hcapE:∃n,bsize M.H b=some n/\cap*esz e<=n) (hk:k<l.length) (hroom:l.length+1<=cap) (hcap:l.length+1<=68719476736)
 {a2:AV} {v2:Value} (hs:bT M a2 v2) (hl:lst M.hp e a2=some [x]) {j:Nat} (hj:a2= .mf j\/∃o n,a2= .ms j o n) (hij:id≠j):
 ∃v w',Calls P f #[.slice (some ⟨b,0,none⟩) l.length cap,.int .i64 k,v2] w (fun e w''=>e= .returned v/\w''=w')/\adW M w i e (l.take k++x::l.drop k) [id] v w':=by
 have hpos:=afK e
 obtain⟨vb,vo,vc,fz,l2,rfl,hm2,hb2,c2,t2,fr2,g1,g2,g3⟩:=lies hrel hs hl hj
 obtain⟨_,hnF,cc,ty,fr,hcc,hz,hlcc,hcs⟩:=hrel.is hm hb
 have hlcc:l.length*esz e<=cc.size:=hlcc
 have hcs0:cap*esz e<=cc.size:=by
  obtain⟨n,h1,h2⟩:=hcapE
  have:n=cc.size:=by simpa [bsize,hcc] using h1.symm
  rw[<-this];exact h2
 have hne:vb≠b:=fun h=>hij (hrel.inj id j _ _ b hm hm2 rfl hb (h▸hb2))
 have hc0:cc.size≠0:=by
  have:1*esz e<=l.length*esz e:=awH _ (by omega)
  omega
 obtain⟨d1,y3,y4⟩:=piece (P:=P) (w:=w.drew) hrel hH hm hb k (l.length - k) (by omega)
 rw[aw5 (by simp)]at y4
 have hdl:(l.drop k).length=l.length - k:=by simp
 have hfit2:(k+1)*esz e+d1.size<=cc.size:=by
  rw[y4.1,<-awz,hdl]
  exact aw4 (awH _ (by omega)) hcs0
 have hst:=Om (P:=P) b ((k+1)*esz e) ty fr d1.toList 0 cc w.drew (by show w.heap[b]? =_;rw[<-hH];exact hcc) hz (by simpa using hfit2) y4.one
 simp only[axB]at hst
 obtain⟨w1,hw1⟩:∃w1:World,w1={ w.drew with heap:=w.drew.heap.setIfInBounds b (.cells (qc cc ((k+1)*esz e) d1.toList) ty fr) }:=⟨_,rfl⟩
 rw[<-hw1]at hst
 obtain⟨l1,hl1⟩:∃l1,l1=l.take (k+1)++l.drop k:=⟨_,rfl⟩
 have hl1n:l1.length=l.length+1:=by rw[hl1];simp;omega
 have hblk:xC M (.arr e l1) (qc cc ((k+1)*esz e) d1.toList):=by
  refine aiJ y4.1 hfit2 (by rw[hl1n];exact aw4 (awH _ hroom) hcs0) hcs y4.2 (fun q hq=> ?_)
  subst hl1
  by_cases hq2:q<k+1
  ·refine .inr ⟨by omega,by omega,?_⟩
   rw[axq (by simp;omega)]
   simp
  ·refine .inl ⟨by simp at hq ⊢; omega,by omega,?_⟩
   rw[axl (by simp;omega)]
   congr 1
   simp;omega
 have st:=Stp.move (w:=w) (w':=w1) hrel hH hF id i b (hi i (awk _) (by omega)) _ (.arr e l1) hm hb cc _ ty fr hcc (oP _ _ _) (by cases e<;>exact fun h=>h) hblk (by rw[hw1];rfl) (by rw[hw1];rfl) (by rw[hw1];rfl) (by rw[hw1];rfl)
 obtain⟨M1,hM1⟩:∃M1,M1=M.move id i (.arr e l1) b (.cells (qc cc ((k+1)*esz e) d1.toList) ty fr):=⟨_,rfl⟩
 rw[<-hM1]at st
 have hii:id≠i:=fun h=>hi i (awk _) (by omega) (h▸hrel.used _ _ hm)
 have hji:j≠i:=fun h=>hi i (awk _) (by omega) (h▸hrel.used _ _ hm2)
 have p1i:M1.hp i=some ⟨false,.arr e l1⟩:=by rw[hM1];simp [Mem.move,bQ]
 have p1j:M1.hp j=M.hp j:=by rw[hM1];simp [Mem.move,dH _ _ hji,dH _ _ (awE hij)]
 have b1i:M1.β i=some b:=by rw[hM1];simp [Mem.move,bQ]
 have hbl:b<M.H.size:=(awG.1 hcc).1
 have s1:bsize M1.H b=some cc.size:=by rw[hM1];simp [bsize,Mem.move,hbl,oP]
 have hs2:bT M1 a2 (.slice (some ⟨vb,vo,none⟩) 1 vc):=hs.le st.le
 have hl2:lst M1.hp e a2=some [x]:=by
  rcases hj with rfl | ⟨o,n,rfl⟩<;>simp only[lst,p1j]at hl ⊢ <;>exact hl
 obtain⟨z1,d2,z2,z3⟩:=single (P:=P) (w:=w1) st.hrel st.H hs2 hl2
 have hsl:xE M1 i (some ⟨b,k*esz e,none⟩) k (cap - k) (esz e):=by
  unfold xE
  rw[b1i]
  refine⟨⟨_,rfl,.inr rfl⟩,cc.size,s1,?_⟩
  rw[show k+(cap - k)=cap by omega];exact hcs0
 obtain⟨w2,N,q1,q2,q3,q4,q5⟩:=ace (P:=P) st.hrel st.H (st.Fsz hF) p1i hsl (p:=0) z3 (by simp;omega) (by simp [hl1n];omega)
 simp only[TA _ _ (ax3 _)]at q1
 have hcp1:∀ty dc sc,(Builtin.copy_ #[(ρ.t 24),(ρ.t 24)] ty #[.slice (some ⟨b,0+(k+1)*esz e,none⟩) (l.length - k) dc,.slice (some ⟨b,0+k*esz e,none⟩) (l.length+1 - k) sc]).run P w.drew= .ok (goInt ((l.length - k:Nat):Int)) w1:=fun ty dc sc=>by
  have hmn:Nat.min (l.length+1 - k) (l.length - k)=l.length - k:=Nat.min_eq_right (by omega)
  have:=aeN (P:=P) (w:=w.drew) (w':=w1) (at':= #[(ρ.t 24),(ρ.t 24)]) (ty:=ty) (base:=some ⟨b,0+(k+1)*esz e,none⟩) (dLen:=l.length - k) (dCap:=dc) (n:=l.length+1 - k) (y:= .slice (some ⟨b,0+k*esz e,none⟩) (l.length+1 - k) sc) (d:=d1) rfl L.t24 L.e9.size rfl
   (by rw[hmn,axc];exact y3) (by simp only[axc];exact hst)
  rw[this,hmn];rfl
 have hcp2:∀ty dc,(Builtin.copy_ #[(ρ.t 24),(ρ.t 24)] ty #[.slice (some ⟨b,0+k*esz e,none⟩) (l.length+1 - k) dc,.slice (some ⟨vb,vo,none⟩) 1 vc]).run P w1= .ok (goInt 1) w2:=fun ty dc=>by
  have hmn:Nat.min 1 (l.length+1 - k)=1:=ayz (by omega)
  have:=aeN (P:=P) (w:=w1) (w':=w2) (at':= #[(ρ.t 24),(ρ.t 24)]) (ty:=ty) (base:=some ⟨b,0+k*esz e,none⟩) (dLen:=l.length+1 - k) (dCap:=dc) (n:=1) (y:= .slice (some ⟨vb,vo,none⟩) 1 vc) (d:=d2) rfl L.t24 L.e9.size rfl
   (by rw[hmn];exact z2) (by simp only[axc];exact q1)
  rw[this,hmn];rfl
 refine⟨_,w2,aoC L b 0 l.length cap k vc ⟨vb,vo,none⟩ w w1 w2 hk hroom (by omega) (fun lb cb=>ar7 L hu hrel hH g1 g2 g3 hcc hc0 hne _ _ _) hcp1 hcp2,N,st.trans q2 hrel hH,fun q=> ?_,?_,fun q hq=> ?_⟩
 ·rw[q3,axB,hl1,ara l k x hk]
  rw[J5]
  by_cases hq:q=i
  ·subst hq;rw[bQ,bQ]
  ·rw[dH _ _ hq,dH _ _ hq,hM1]
   simp only[Mem.move,dH _ _ hq]
   show _=over [(id,none)] M.hp q
   rw[oQ]
 ·refine .mf i _ (by rw[q4,hM1];exact .inr rfl) rfl fun e' he'=> ?_
  rw[q3,bQ]at he'
  cases he'
  rw[axB]
  have hln:(jq l1 k [x]).length=l.length+1:=by rw[Tz _ _ _ (by simp [hl1n];omega),hl1n]
  refine⟨false,e,_,_,cap,rfl,by rw[hln],by rw[hln];exact hroom,?_⟩
  have:xE M1 i (some ⟨b,0,none⟩) 0 cap (esz e):=by
   unfold xE
   rw[b1i]
   exact⟨⟨0,rfl,.inr (by simp)⟩,cc.size,s1,by simpa using hcs0⟩
  exact this.le q2.le (st.hrel.used _ _ p1i) (by rw[q3,bQ])
 ·rw[q4,hM1]at hq
  rcases hq with h | h
  ·exact .inl h
  ·exact .inr (by omega)
theorem apd {α:Type} (l r:List α) (k:Nat) (x:α) (hk:k<l.length) (hr:r.length=l.length+1 - k):jq (jq (l.take k++r) k [x]) (k+1) (l.drop k)=l.take k++x::l.drop k:=by
 unfold jq;have h0:(l.take k++r).take k=l.take k:=by
  rw[ayg (by simp;omega),List.take_take];congr 1;omega
 rw[h0];have h1:(l.take k++([x]++(l.take k++r).drop (k+[x].length))).take (k+1)=l.take k++[x]:=by
  rw[List.take_append,awu,show min k l.length=k by omega,show k+1 - k=1 by omega,List.take_take,show min (k+1) k=k by omega];simp
 have h2:(l.take k++([x]++(l.take k++r).drop (k+[x].length))).drop (k+1+(l.drop k).length)=[]:=by
  apply axR;simp;omega
 rw[h1,h2];simp
theorem ast (L:ajR P ρ f e nm ta) (hrel:lJ M) (hH:M.H=w.heap) (hF:∀b,M.F b->b<w.heap.size) (hi:∀j,i<=j->j<i+8->¬M.U j)
 {id b cap k:Nat} {l:List (den e)} {x:den e} (hm:M.hp id=some ⟨false,.arr e l⟩) (hb:M.β id=some b) (hnc:l.length<=cap) (hk:k<l.length) (hroom:¬l.length+1<=cap) (hcap:l.length+1<=68719476736)
 {a2:AV} {v2:Value} (hs:bT M a2 v2) (hl:lst M.hp e a2=some [x]) {j:Nat} (hj:a2= .mf j\/∃o n,a2= .ms j o n) (hij:id≠j):
 ∃v w',Calls P f #[.slice (some ⟨b,0,none⟩) l.length cap,.int .i64 k,v2] w (fun e w''=>e= .returned v/\w''=w')/\adW M w i e (l.take k++x::l.drop k) [id] v w':=by
 have hpos:=afK e
 obtain⟨vb,vo,vc,fz,l2,rfl,hm2,hb2,c2,t2,fr2,g1,g2,g3⟩:=lies hrel hs hl hj
 obtain⟨inf,z,i1,i2,i3,i4,i5,i6⟩:=L.e9.zero M
 have hii:id≠i:=fun h=>hi i (awk _) (by omega) (h▸hrel.used _ _ hm)
 have hji:j≠i:=fun h=>hi i (awk _) (by omega) (h▸hrel.used _ _ hm2)
 obtain⟨d0,y1,y2⟩:=piece (P:=P) (w:=w.drew) hrel hH hm hb 0 k (by omega)
 simp only[axP]at y2
 obtain⟨G,hG⟩:∃G,G=grownCap w (l.length+1) cap (ρ.t 9):=⟨_,rfl⟩
 have hGn:l.length+1<=G:=by rw[hG];exact grownCap_ge w _ _ _
 have hG63:G<=9223372036854775807:=by
  have:=grownCap_le_maxLen w (l.length+1) cap (ρ.t 9) (by unfold maxLen;omega)
  rw[<-hG]at this
  unfold maxLen at this
  omega
 obtain⟨row,hrow⟩:∃row,row=d0++Builtin.zeroCells z.cells (l.length+1 - k)++Builtin.zeroCells z.cells (G - (l.length+1)):=⟨_,rfl⟩
 obtain⟨w1,hw1⟩:∃w1:World,w1=w.drew.alloc (.cells row (ρ.t 9)):=⟨_,rfl⟩
 have hkk:k+(l.length+1 - k)=l.length+1:=by omega
 have hrz:∀ty,(Builtin.append_ #[(ρ.t 24),(ρ.t 3)] ty #[.slice (some ⟨b,0,none⟩) k cap,.int .i64 ((l.length:Int)+1 - (k:Int))]).run P w= .ok (.slice (some ⟨w.heap.size,0,none⟩) (l.length+1) G) w1:=fun ty=>by
  have hbb:(l.length+1)*inf.bytes<=140737488355328:=by
   have:=Nat.mul_le_mul hcap i4
   omega
  have hb3:(l.length+1 - k)*inf.bytes<=281474976710656:=by
   have:=awH inf.bytes (show l.length+1 - k<=l.length+1 by omega)
   omega
  have h:=Lib.run_append_grow_zeros w (ρ.t 24) (ρ.t 3) ty (ρ.t 9) inf z .i64 .i64 L.t24 L.t3 i1 i3 (some ⟨b,0,none⟩) k cap d0.toList
   (by rw[i2];simp only[Builtin.firstCells];rw[ax3]at y1;simpa using y1) (l.length+1 - k) (by omega) (by rw[i2];exact hpos) (by omega) (by omega) hb3 (by rw[hkk];exact growslice_fits (by omega) hbb)
  rw[hkk,<-hG]at h
  rw[show((l.length:Int)+1 - (k:Int))=((l.length+1 - k:Nat):Int) by omega,h,hw1,hrow]
 have hzd:N9 M e (List.replicate (l.length+1 - k) default) (Builtin.zeroCells z.cells (l.length+1 - k)):=by
  refine⟨by rw[size_zeroCells,i5];simp,fun a c ha hc=> ?_⟩
  obtain⟨u,u1,u2⟩:=i6 c hc
  refine⟨u,?_,by simpa using u2⟩
  rw[Rj i5 (by simpa using ha) hc,u1]
 obtain⟨l0,hl0⟩:∃l0,l0=l.take k++List.replicate (l.length+1 - k) (default:den e):=⟨_,rfl⟩
 have hl0n:l0.length=l.length+1:=by rw[hl0];simp;omega
 have hrs:row.size=G*esz e:=by
  rw[hrow]
  simp only[ayB,y2.1,size_zeroCells,i5,<-awz]
  congr 1
  simp;omega
 have hblk:xC M (.arr e l0) row:=by
  refine⟨by rw[hl0n,hrs];exact awH _ hGn,?_⟩
  subst hl0
  rw[hrow]
  exact data_append y2 hzd
 have st:=Stp.alloc (w:=w) (w':=w1) hrel hH hF i (hi i (awk _) (by omega)) (.arr e l0) row (ρ.t 9) (0,0) (af8 _ _) hblk (by rw[hw1];rfl) (by rw[hw1];rfl) (by rw[hw1];rfl) (by rw[hw1];rfl)
 obtain⟨M1,hM1⟩:∃M1,M1=M.new i ⟨false,.arr e l0⟩ (.cells row (ρ.t 9) (0,0)):=⟨_,rfl⟩
 rw[<-hM1]at st
 have p1i:M1.hp i=some ⟨false,.arr e l0⟩:=by rw[hM1];simp [Mem.new,bQ]
 have p1n:∀q,q≠i->M1.hp q=M.hp q:=fun q hq=>by rw[hM1];simp [Mem.new,dH _ _ hq]
 have hsz:M.H.size=w.heap.size:=by rw[hH]
 have b1i:M1.β i=some w.heap.size:=by rw[hM1];simp [Mem.new,bQ,hsz]
 have b1d:M1.β id=some b:=by rw[hM1];simp only[Mem.new];rw[dH _ _ hii];exact hb
 have s1:bsize M1.H w.heap.size=some row.size:=by rw[hM1,<-hsz];simp [bsize,Mem.new]
 have hsl:∀q,q<=G->xE M1 i (some ⟨w.heap.size,q*esz e,none⟩) q (G - q) (esz e):=fun q hq=>by
  unfold xE
  rw[b1i]
  refine⟨⟨_,rfl,.inr rfl⟩,row.size,s1,?_⟩
  rw[show q+(G - q)=G by omega,hrs];exact awk _
 have hs2:bT M1 a2 (.slice (some ⟨vb,vo,none⟩) 1 vc):=hs.le st.le
 have hl2:lst M1.hp e a2=some [x]:=by
  rcases hj with rfl | ⟨o,n,rfl⟩<;>simp only[lst,p1n j hji]at hl ⊢ <;>exact hl
 obtain⟨z1,d2,z2,z3⟩:=single (P:=P) (w:=w1) st.hrel st.H hs2 hl2
 obtain⟨w2,M2,q1,q2,q3,q4,q5⟩:=ace (P:=P) st.hrel st.H (st.Fsz hF) p1i (hsl k (by omega)) (p:=0) z3 (by simp;omega) (by simp [hl0n];omega)
 simp only[TA _ _ (ax3 _)]at q1
 rw[axB]at q3
 have hcp1:∀ty dc,(Builtin.copy_ #[(ρ.t 24),(ρ.t 24)] ty #[.slice (some ⟨w.heap.size,k*esz e,none⟩) (l.length+1 - k) dc,.slice (some ⟨vb,vo,none⟩) 1 vc]).run P w1= .ok (goInt 1) w2:=fun ty dc=>by
  have hmn:Nat.min 1 (l.length+1 - k)=1:=ayz (by omega)
  have:=aeN (P:=P) (w:=w1) (w':=w2) (at':= #[(ρ.t 24),(ρ.t 24)]) (ty:=ty) (base:=some ⟨w.heap.size,k*esz e,none⟩) (dLen:=l.length+1 - k) (dCap:=dc) (n:=1) (y:= .slice (some ⟨vb,vo,none⟩) 1 vc) (d:=d2) rfl L.t24 L.e9.size rfl
   (by rw[hmn];exact z2) q1
  rw[this,hmn];rfl
 have p2i:M2.hp i=some ⟨false,.arr e (jq l0 k [x])⟩:=by rw[q3,bQ]
 have p2d:M2.hp id=some ⟨false,.arr e l⟩:=by rw[q3,dH _ _ hii,p1n id hii];exact hm
 have hn1:(jq l0 k [x]).length=l.length+1:=by rw[Tz _ _ _ (by simp [hl0n];omega),hl0n]
 obtain⟨d3,y3,y4⟩:=piece (P:=P) (w:=w2.drew) q2.hrel q2.H p2d (by rw[q5];exact b1d) k (l.length - k) (by omega)
 rw[aw5 (by simp)]at y4
 have hsl2:xE M2 i (some ⟨w.heap.size,(k+1)*esz e,none⟩) (k+1) (G - (k+1)) (esz e):=(hsl (k+1) (by omega)).le q2.le (st.hrel.used _ _ p1i) p2i
 obtain⟨w3,M3,r1,r2,r3,r4,r5⟩:=ace (P:=P) (w:=w2.drew) q2.hrel q2.H ((st.trans q2 hrel hH).Fsz hF) p2i hsl2 (p:=0) y4 (by simp;omega) (by simp [hn1];omega)
 simp only[TA _ _ (ax3 _)]at r1
 rw[axB,hl0,apd l _ k x hk (by simp)]at r3
 have hcp2:∀ty dc sc,(Builtin.copy_ #[(ρ.t 24),(ρ.t 24)] ty #[.slice (some ⟨w.heap.size,(k+1)*esz e,none⟩) (l.length - k) dc,.slice (some ⟨b,0+k*esz e,none⟩) (l.length - k) sc]).run P w2.drew= .ok (goInt ((l.length - k:Nat):Int)) w3:=fun ty dc sc=>by
  have hmn:Nat.min (l.length - k) (l.length - k)=l.length - k:=Nat.min_eq_right (awk _)
  have:=aeN (P:=P) (w:=w2.drew) (w':=w3) (at':= #[(ρ.t 24),(ρ.t 24)]) (ty:=ty) (base:=some ⟨w.heap.size,(k+1)*esz e,none⟩) (dLen:=l.length - k) (dCap:=dc) (n:=l.length - k) (y:= .slice (some ⟨b,0+k*esz e,none⟩) (l.length - k) sc) (d:=d3) rfl L.t24 L.e9.size rfl
   (by rw[hmn,axc];exact y3) r1
  rw[this,hmn];rfl
 have r2':Stp M2 w2 M3 w3:=⟨r2.le,r2.H,r2.hrel,r2.os,r2.tape,r2.output,r2.size,r2.old,r2.own,r2.Fin,r2.Fsz⟩
 have st3:Stp M w M3 w3:=(st.trans q2 hrel hH).trans r2' hrel hH
 have p3i:M3.hp i=some ⟨false,.arr e (l.take k++x::l.drop k)⟩:=by rw[r3,bQ]
 have st4:=Stp.drop (w:=w3) r2'.hrel r2'.H id
 refine⟨_,w3,apO L b 0 l.length cap k vc w.heap.size G ⟨vb,vo,none⟩ w w1 w2 w3 hk hnc (by omega) hGn hG63 hrz hcp1 hcp2,M3.drop id,st3.trans st4 hrel hH,fun q=> ?_,?_,fun q hq=> ?_⟩
 ·show Ey M3.hp id none q=_
  rw[J5]
  by_cases hq:q=i
  ·subst hq;rw[dH _ _ (awE hii),p3i,bQ]
  ·rw[dH _ _ hq]
   show _=over [(id,none)] M.hp q
   rw[oQ]
   by_cases hq2:q=id
   ·subst hq2;rw[bQ,bQ]
   ·rw[dH _ _ hq2,dH _ _ hq2,r3,dH _ _ hq,q3,dH _ _ hq,p1n q hq]
 ·have p4i:(M3.drop id).hp i=some ⟨false,.arr e (l.take k++x::l.drop k)⟩:=by
   show Ey M3.hp id none i=_
   rw[dH _ _ (awE hii),p3i]
  refine .mf i _ ((st3.trans st4 hrel hH).hrel.used _ _ p4i) rfl fun e' he'=> ?_
  rw[p4i]at he'
  cases he'
  have hln:(l.take k++x::l.drop k).length=l.length+1:=by simp;omega
  refine⟨false,e,_,_,G,rfl,by rw[hln],by rw[hln];exact hGn,?_⟩
  have:=hsl 0 (awm _)
  rw[ax3,ayH]at this
  exact this.le ((q2.trans r2' st.hrel st.H).trans st4 st.hrel st.H).le (st.hrel.used _ _ p1i) p4i
 ·have:M3.U q:=hq
  rw[r4,q4,hM1]at this
  rcases this with h | h
  ·exact .inl h
  ·exact .inr (by omega)
def ahr:AV->List Nat
 |.mf id=>[id]
 |_=>[]
def auI {α:Type} (a b d:α):Operand->α
 |.tmp 0=>a
 |.tmp 1=>b
 |_=>d
theorem afb (L:ajR P ρ f e nm ta) (hrel:lJ M) (hH:M.H=w.heap) (hF:∀b,M.F b->b<w.heap.size) (hi:∀j,i<=j->j<i+8->¬M.U j)
 {n cap:Nat} {base:Option Addr} {l:List (den e)} {x:den e} {a0:AV} (h0:(a0= .nils/\l=[])\/∃id,a0= .mf id/\M.hp id=some ⟨false,.arr e l⟩) (hn:l.length=n) (hnc:n<=cap) (hnil:base=none->cap=0)
 (hs0:bT M a0 (.slice base n cap)) (hcap:l.length+1<=68719476736)
 {a2:AV} {vc:Nat} {va:Option Addr} (hs:bT M a2 (.slice va 1 vc)) (hl:lst M.hp e a2=some [x]):
 ∃v w',Calls P f #[.slice base n cap,.int .i64 n,.slice va 1 vc] w (fun e w''=>e= .returned v/\w''=w')/\adW M w i e (l++[x]) (ahr a0) v w':=by
 obtain⟨c,hc⟩:∃c:Call,c={ callee:= .builtin .append,args:= #[.tmp 0,.tmp 1],argTypes:= #[ρ.t 24,ρ.t 24] }:=⟨_,rfl⟩
 obtain⟨o,ho⟩:∃o:Oper,o={ dst:=none,op:= .call c,type:=ρ.t 24,pos:= "",after:= #[],guard:=none }:=⟨_,rfl⟩
 obtain⟨ev,hev⟩:∃ev:Operand->AV,ev=auI a0 a2 .undef:=⟨_,rfl⟩
 obtain⟨rv,hrv⟩:∃rv:Operand->Value,rv=auI (.slice base n cap) (.slice va 1 vc) undef:=⟨_,rfl⟩
 have e0:ev (.tmp 0)=a0:=by rw[hev];rfl
 have e1:ev (.tmp 1)=a2:=by rw[hev];rfl
 have r0:rv (.tmp 0)= .slice base n cap:=by rw[hrv];rfl
 have r1:rv (.tmp 1)= .slice va 1 vc:=by rw[hrv];rfl
 have H:OpH P M w M.hp rv ev i:=⟨hrel,hH,hF,hi,fun _ _ h=>h,fun y=>by
  rw[hev,hrv]
  unfold auI
  split
  ·exact hs0
  ·exact hs
  ·exact .undef _⟩
 have hni:UU P (ρ.t 24)=true:=by simp [UU,slT,L.t24]
 have hck:Xm (aJ l [x])=true:=by simp only[Xm,jV,len,aJ,acF,awn,awY];omega
 have hck0:Xm ([x]:List (den e))=true:=by simp only[Xm,jV,len,acF];simp
 obtain⟨ob,ef,hap,hob,hv,heff⟩:∃ob ef,X0 M.hp i e (ev (.tmp 0)) (ev (.tmp 1))=some (ob,ef)/\ob=true/\ef.v= .mf i/\
  ∀j,over ef.u M.hp j=over ((i,some ⟨false,.arr e (l++[x])⟩)::dead (ahr a0)) M.hp j:=by
  rcases h0 with ⟨rfl,rfl⟩ | ⟨id,rfl,hm⟩
  ·exact⟨_,_,by rw[e0,e1,X0,hl],hck0,rfl,fun j=>rfl⟩
  ·have hne:id≠i:=fun h=>hi i (awk _) (by omega) (h▸hrel.used _ _ hm)
   refine⟨_,_,by rw[e0,e1,X0,hl];simp only[hm,awJ];rfl,hck,rfl,fun j=> ?_⟩
   show over [(id,none),(i,some ⟨false,.arr e (l++[x])⟩)] M.hp j=over ((i,some ⟨false,.arr e (l++[x])⟩)::[(id,none)]) M.hp j
   rw[J5 id,J5 i]
   by_cases h1:j=i
   ·subst h1;rw[dH _ _ (awE hne),bQ,oQ,bQ]
   ·by_cases h2:j=id
    ·subst h2;rw[bQ,dH _ _ h1,oQ,bQ]
    ·rw[dH _ _ h2,dH _ _ h1,oQ,oQ,dH _ _ h1,dH _ _ h2]
 obtain⟨nx,val,w',N,g1,g2,g3,g4,g5,g6⟩:=ahL H (o:=o) (c:=c) (by rw[ho]) (by rw[hc]) (x:= .tmp 0) (y:= .tmp 1) (by rw[hc]) (t:=ρ.t 24) (t1:=ρ.t 24) (by rw[hc];rfl) (by rw[hc];rfl) hni L.t24 L.e9 hap hob
 rw[Rl (by rw[ho]) (by rw[hc])]at g1
 have hcall:∃v,(Builtin.append_ #[(ρ.t 24),(ρ.t 24)] (ρ.t 24) #[.slice base n cap,.slice va 1 vc]).run P w= .ok v w'/\nx= .value v:=by
  have hcargs:c.args.map rv= #[.slice base n cap,.slice va 1 vc]:=by rw[hc];simp [r0,r1]
  have hct:c.argTypes= #[(ρ.t 24),(ρ.t 24)]:=by rw[hc]
  have hot:o.type=ρ.t 24:=by rw[ho]
  rw[hcargs,hct,hot]at g1
  simp only[Sem.run_bind]at g1
  generalize (Builtin.append_ #[(ρ.t 24),(ρ.t 24)] (ρ.t 24) #[.slice base n cap,.slice va 1 vc]).run P w=res at g1 ⊢
  cases res with
  |ok v w''=>
   simp only[Result.andThen_ok,Sem.run_pure,Result.ok.injEq]at g1
   exact⟨v,by rw[g1.2],g1.1.symm⟩
  |_=>simp [Result.andThen]at g1
 obtain⟨v,hrun,rfl⟩:=hcall
 have hvv:val=v:=by
  rcases g2 with g2 | ⟨g2,_⟩
  ·simpa using g2.symm
  ·cases g2
 subst hvv
 refine⟨val,w',as7 L base n cap vc va w w' val hnc hnil hrun,N,g3,fun j=>by rw[g4,heff],by rw[<-hv];exact g5,fun q hq=> ?_⟩
 exact g6 q hq
theorem apw {a b c:AV} {id j:Nat} {k:IntKind} (h:LQ (iR jX [.buf e,.int k,.ro e] [a,b,c]) (iR O4 [.buf e,.int k,.ro e] [a,b,c])=true) (ha:a= .mf id) (hc:c= .mf j\/∃o n,c= .ms j o n):id≠j:=by
 obtain⟨_,h2⟩:=Gf h;intro hij;subst hij;subst ha;refine h2 id (by simp [iR,jX]) ?_;rcases hc with rfl | ⟨o,n,rfl⟩<;>simp [iR,O4]
theorem ar0 {hp:Nat->Option Ent} {N:Mem} {ids:List Nat} (hp':∀id e,hp id=some e->M.hp id=some e) (hN:∀j,N.hp j=over (freeze hp ids) M.hp j) {c:AV} {l:List (den e)} {j:Nat} (hc:c= .mf j\/∃o n,c= .ms j o n) (h:jb hp (.ro e) c=some l):lst N.hp e c=some l:=by
 have key:∀fz bl,hp j=some ⟨fz,bl⟩->∃fz',N.hp j=some ⟨fz',bl⟩:=fun fz bl hj=>by
  rw[hN,over,ku];by_cases hm:j∈ids
  ·rw[awh hm,hj];exact⟨true,rfl⟩
  ·rw[awg hm];exact⟨fz,hp' _ _ hj⟩
 rcases hc with rfl | ⟨o,n,rfl⟩
 ·cases hj:hp j with
  |none=>simp [jb,hj]at h
  |some en=>
   obtain⟨fz,bl⟩:=en;obtain⟨fz',h2⟩:=key _ _ hj;cases bl with
   |raw cs=>simp [jb,hj]at h
   |arr t l2=>simp only[jb,hj]at h;simp only[lst,h2];exact h
 ·cases hj:hp j with
  |none=>simp [jb,hj]at h
  |some en=>
   obtain⟨fz,bl⟩:=en;obtain⟨fz',h2⟩:=key _ _ hj;cases bl with
   |raw cs=>simp [jb,hj]at h
   |arr t l2=>simp only[jb,hj]at h;simp only[lst,h2];exact h
theorem atU {C:Cx} (K:CxR C) (L:ajR C.P ρ f e nm ta) (hu:KX (.arr e [])=false) {run:List (den e)×Int×List (den e)->Option (List (den e))} (hrun:∀x y,run x=some y->ai9 e x=some y):bY C.P f (Qe e run):=by
 intro M w hp args vals i (x:List (den e)×Int×List (den e)) (y:List (den e)) hrel hH hF hnew hp' hn hs hdec hry;obtain⟨a,b,c,rfl,hob,hdec⟩:∃a b c,args=[a,b,c]/\ownB c=true/\V9 [.buf e,.int .i64,.ro e] hp [a,b,c]=some x:=by
  match args,hdec with
  |[a,b,c],hdec=>
   have hdec:(bif ownB c then V9 [.buf e,.int .i64,.ro e] hp [a,b,c]else none)=some x:=hdec
   cases ho:ownB c with
   |false=>simp [ho]at hdec
   |true=>simp only[ho,cond_true]at hdec;exact⟨a,b,c,rfl,ho,hdec⟩
  |[],hdec=>exact absurd hdec (by simp [Qe])
  |[_],hdec=>exact absurd hdec (by simp [Qe])
  |[_,_],hdec=>exact absurd hdec (by simp [Qe])
  |_::_::_::_::_,hdec=>exact absurd hdec (by simp [Qe])
 have hry:ai9 e x=some y:=hrun x y hry;unfold V9 at hdec;cases hap:LQ (iR jX [.buf e,.int .i64,.ro e] [a,b,c]) (iR O4 [.buf e,.int .i64,.ro e] [a,b,c])with
 |false=>simp [hap]at hdec
 |true=>
 simp only[hap,cond_true]at hdec;obtain⟨l,k,xs⟩:=x;obtain⟨d1,d2,d3⟩:jb hp (.buf e) a=some l/\jb hp (.int .i64) b=some k/\jb hp (.ro e) c=some xs:=by
  simp only[UI]at hdec;cases h1:jb hp (.buf e) a with
  |none=>simp [h1]at hdec
  |some l'=>
   cases h2:jb hp (.int .i64) b with
   |none=>simp [h1,h2]at hdec
   |some k'=>
    cases h3:jb hp (.ro e) c with
    |none=>simp [h1,h2,h3]at hdec
    |some xs'=>
     simp only[h1,h2,h3]at hdec;have:=awr hdec;cases this;exact⟨rfl,rfl,rfl⟩
 obtain⟨x0,rfl,hk0,hkl,hcap,rfl⟩:∃x0,xs=[x0]/\0<=k/\k<=len l/\len l+1<=68719476736/\y=aJ (aV l (itn k)) (x0::bZ l (itn k)):=by
  unfold ai9 at hry;split at hry
  ·rename_i n hx;have hx:xs=[n]:=hx;cases hcn:band (ile 0 k) (band (ile k (len l)) (ile (ay (len l) 1) 68719476736))with
   |false=>simp only[hcn,cnd]at hry;cases hry
   |true=>
    simp only[hcn,cnd,awj]at hry;simp only[rZ,jV,ay]at hcn;exact⟨n,hx,hcn.1,hcn.2.1,hcn.2.2,hry.symm⟩
  ·cases hry
 obtain⟨kn,rfl⟩:∃kn:Nat,k=(kn:Int):=⟨k.toNat,by omega⟩;have hkl:kn<=l.length:=by simp only[len]at hkl;omega
 have hcap:l.length+1<=68719476736:=by simp only[len]at hcap;omega
 obtain⟨v0,v1,v2,rfl⟩:∃v0 v1 v2,vals= #[v0,v1,v2]:=by
  have hn:vals.size=3:=hn;refine⟨vals[0],vals[1],vals[2],?_⟩;apply Array.ext
  ·simp [hn]
  ·intro q h1 h2;have:q=0\/q=1\/q=2:=by simp at h2;omega
   rcases this with rfl | rfl | rfl<;>simp
 have s0:bT M a v0:=hs 0 (by simp) (by simp);have s1:bT M b v1:=hs 1 (by simp) (by simp);have s2:bT M c v2:=hs 2 (by simp) (by simp);have hb:b= .int .i64 kn:=by
  cases b with
  |int k' n'=>
   simp only[jb]at d2;cases hk:(IntKind.i64 == k')with
   |false=>simp [hk]at d2
   |true=>
    simp only[hk,cond_true,awj]at d2;have:IntKind.i64=k':=by simpa using hk
    rw[<-this,d2]
  |_=>simp [jb]at d2
 subst hb;cases s1;obtain⟨j,hj⟩:∃j,c= .mf j\/∃o n,c= .ms j o n:=by
  cases c with
  |mf j=>exact⟨j,.inl rfl⟩
  |ms j o n=>exact⟨j,.inr ⟨o,n,rfl⟩⟩
  |_=>simp [ownB]at hob
 obtain⟨N0,st0,h0p,h0U,h0β,h0H⟩:=Jd (w:=w) hp' hrel hH (without (iR jX [.buf e,.int .i64,.ro e] [a,.int .i64 (kn:Int),c]) (LX hp [a,.int .i64 (kn:Int),c])) fun id hid=>Tq hp _ id (yL.1 hid).1;have t0:=s0.le st0.le;have t2:=s2.le st0.le;have hl2:=ar0 hp' h0p hj d3;have hnew':∀q,i<=q->q<i+8->¬N0.U q:=fun q h1 h2=>by rw[h0U];exact hnew q h1 h2
 have hH0:N0.H=w.heap:=st0.H;have hF0:=st0.Fsz hF;have own:ahr a=iR jX [.buf e,.int .i64,.ro e] [a,.int .i64 (kn:Int),c]:=by
  rcases FX d1 with ⟨rfl,_⟩ | ⟨id,rfl,_⟩<;>simp [iR,jX,ahr]
 obtain⟨vb,vo,vc,fz,l2,rfl,hm2,hb2,_⟩:=lies st0.hrel t2 hl2 hj
 suffices hh:∃v w',Calls C.P f #[v0,.int .i64 (kn:Int),.slice (some ⟨vb,vo,none⟩) 1 vc] w (fun e w''=>e= .returned v/\w''=w')/\adW N0 w i e (l.take kn++x0::l.drop kn) (ahr a) v w' by
  obtain⟨v,w',hc,N,n1,n2,n3,n4⟩:=hh;refine .inl ⟨Ou K L.f22 rfl _ w,hc.mono fun e' w'' hr=>⟨v,hr.1,N,?_,fun q=> ?_,n3,fun q hq=> ?_⟩⟩
  ·rw[hr.2];exact st0.trans n1 hrel hH
  ·rw[n2,own];show _=over ([]++([(i,some ⟨false,.arr e (l.take kn++x0::l.drop kn)⟩)]++(dead (iR jX [.buf e,.int .i64,.ro e] [a,.int .i64 (kn:Int),c])++freeze hp (afR false (iR jX [.buf e,.int .i64,.ro e] [a,.int .i64 (kn:Int),c]) hp [a,.int .i64 (kn:Int),c])))) M.hp q;rw[aw1,<-awT,ru,show N0.hp=over (freeze hp (afR false (iR jX [.buf e,.int .i64,.ro e] [a,.int .i64 (kn:Int),c]) hp [a,.int .i64 (kn:Int),c])) M.hp from funext h0p]
   rfl
  ·rcases n4 q hq with h | h
   ·exact .inl (by rw[<-h0U];exact h)
   ·exact .inr h
 rcases FX d1 with ⟨rfl,rfl⟩ | ⟨id,rfl,he2⟩
 ·cases t0;have:kn=0:=by simpa using hkl
  subst this;exact afb L st0.hrel hH0 hF0 hnew' (.inl ⟨rfl,rfl⟩) rfl (awk _) (fun _=>rfl) .nils hcap t2 hl2
 ·have hij:=apw hap rfl hj;have hm:N0.hp id=some ⟨false,.arr e l⟩:=by
   rw[h0p,over,ku,awg (fun hm=>(yL.1 hm).2 (by simp [iR,jX]))];exact hp' id _ he2
  have t0':=t0;cases t0 with
  |mf _ _ hU h1 h=>
   obtain⟨fz',t',l',ad,cap,g1,rfl,g3,g4⟩:=h _ hm;simp only[Ent.mk.injEq,Blk.arr.injEq]at g1;obtain⟨rfl,rfl,g1⟩:=g1;have g1:=eq_of_heq g1;subst g1;unfold xE at g4;cases hb:N0.β id with
   |none=>
    simp only[hb]at g4;have hl0:l=[]:=aw8 (by omega);subst hl0;have:kn=0:=by simpa using hkl
    subst this;exact afb L st0.hrel hH0 hF0 hnew' (.inr ⟨id,rfl,hm⟩) rfl g3 (fun _=>g4.1) t0' hcap t2 hl2
   |some bb=>
    simp only[hb]at g4;obtain⟨⟨oo,rfl,hoo⟩,nb,hnb,hnb2⟩:=g4;by_cases hke:kn=l.length
    ·subst hke;have:=afb L st0.hrel hH0 hF0 hnew' (.inr ⟨id,rfl,hm⟩) rfl g3 (fun h=>by cases h) t0' hcap t2 hl2;simpa [ahr] using this
    ·have hk:kn<l.length:=by omega
     have hoo0:oo=0:=by rcases hoo with g | g<;>omega
     subst hoo0;by_cases hroom:l.length+1<=cap
     ·exact aqI L hu st0.hrel hH0 hF0 hnew' hm hb ⟨nb,hnb,by simpa using hnb2⟩ hk hroom hcap t2 hl2 hj hij
     ·exact ast L st0.hrel hH0 hF0 hnew' hm hb g3 hk hroom hcap t2 hl2 hj hij
def amO:List Oper->List (Nat×Nat)
 |[]=>[]
 |o::r=>match o.op with
  |.call { callee:= .value (.func g),.. }=>(g,o.type)::amO r
  |_=>amO r
def aff:Code->List (Nat×Nat)
 |.seq a b=>aff a++aff b
 |.cond _ a b=>aff a++aff b
 |.region _ ops _=>amO ops.toList
 |_=>[]
noncomputable def ao1 (P:Program) (f:Nat):Func:=match P.funcs[f]? with
 |some fn=>fn
 |none=>Body2.n22 ⟨fun n=>n,fun n=>n,fun n=>n⟩
def JL (fn:Func):Ren:=
 let cs:=match fn.body with | some c=>aff c | none=>[]
 ⟨fun n=>match n with
  |29=>(nth2 cs 0).1
  |_=>(nth2 cs 1).1,
  fun n=>match n with
   |24=>fn.params.getD 0 0
   |3=>fn.params.getD 1 0
   |9=>fn.targs.getD 1 0
   |4=>(nth2 cs 0).2
   |_=>(nth2 cs 1).2,
  fun n=>n⟩
where nth2:List (Nat×Nat)->Nat->Nat×Nat
 |[],_=>(0,0)
 |a::_,0=>a
 |_::r,n+1=>nth2 r n
theorem ahS {C:Cx} (K:CxR C) (f:Nat) (fn fo:Func) (h1:C.P.funcs[f]? =some { Body2.n22 (JL fn)with name:=fn.name,targs:=fn.targs }) (h0:C.P.underlying ((JL fn).t 0)=some (.tuple #[]))
 (h3:C.P.underlying ((JL fn).t 3)=some (.int .i64)) (h4:C.P.underlying ((JL fn).t 4)=some .bool) (h24:C.P.underlying ((JL fn).t 24)=some (.slice ((JL fn).t 9))) {e:E} (h9:C.ety ((JL fn).t 9)=some e)
 (g1:C.P.funcs[(JL fn).f 29]? =some fo) (g2:(fo.name == "runtime.NumGoroutine")=false) (g3:fo.body.isNone=true) (g4:Extern.findNext fo=none)
 (g5:Extern.find fo=some (Extern.SlicesOverlaps.overlaps #[((JL fn).t 24),((JL fn).t 24)] #[((JL fn).t 4)])) (hu:KX (.arr e [])=false)
 {run:List (den e)×Int×List (den e)->Option (List (den e))} (hrun:∀x y,run x=some y->ai9 e x=some y):bY C.P f (Qe e run):=
 atU K ⟨K.mixed,h1,h0,h3,h4,h24,K.ok.ety _ _ h9,fo,g1,g2,g3,g4,g5⟩ hu hrun
end
end Go.Av
namespace Go.Av
open Go Go.RowKit
def acV:Sh->Bool
 |.int _=>true
 |.bool=>true
 |.str=>true
 |_=>false
def apS:(s:Sh)->s.T->Value
 |.int k,n=> .int k n
 |.bool,b=> .bool b
 |.str,l=> .string ⟨l.toArray⟩
 |_,_=>undef
def abV:(l:List Sh)->Tup l->List Value
 |[],_=>[]
 |[s],x=>[apS s x]
 |s::t::r,x=>apS s x.1::abV (t::r) x.2
def apW:List Value->Value
 |[v]=>v
 |l=> .tuple l.toArray
theorem akn {hp:Nat->Option Ent}:∀ {s:Sh} {a:AV} {x:s.T},acV s=true->jb hp s a=some x->∀k,a=encS k s x
 |.int i,a,x,_,h,k=>by
  cases a<;>simp only[jb]at h<;>try cases h
  rename_i j n
  by_cases hij:i=j
  ·subst hij
   simp at h
   subst h;rfl
  ·have:(i == j)=false:=by simp [hij]
   rw[this]at h;cases h
 |.bool,a,x,_,h,k=>by cases a<;>simp only[jb]at h<;>cases h;rfl
 |.str,a,x,_,h,k=>by cases a<;>simp only[jb]at h<;>cases h;rfl
 |.ro _,_,_,h,_,_=>by cases h
 |.val _,_,_,h,_,_=>by cases h
 |.buf _,_,_,h,_,_=>by cases h
 |.fnv _,_,_,h,_,_=>by cases h
 |.rf _,_,_,h,_,_=>by cases h
theorem abT {M:Mem} {k:Nat}:∀ {s:Sh} {x:s.T} {v:Value},acV s=true->bT M (encS k s x) v->v=apS s x
 |.int i,x,v,_,h=>by cases h;rfl
 |.bool,x,v,_,h=>by cases h;rfl
 |.str,x,v,_,h=>by
  cases h with
  |str s _ h=>subst h;rfl
 |.ro _,_,_,h,_=>by cases h
 |.val _,_,_,h,_=>by cases h
 |.buf _,_,_,h,_=>by cases h
 |.fnv _,_,_,h,_=>by cases h
 |.rf _,_,_,h,_=>by cases h
theorem ahl {M:Mem} {k:Nat}:∀ {s:Sh} {x:s.T},acV s=true->bT M (encS k s x) (apS s x)
 |.int i,x,_=> .int _ _
 |.bool,x,_=> .bool _
 |.str,x,_=> .str _ _ rfl
 |.ro _,_,h=>by cases h
 |.val _,_,h=>by cases h
 |.buf _,_,h=>by cases h
 |.fnv _,_,h=>by cases h
 |.rf _,_,h=>by cases h
theorem agR {hp:Nat->Option Ent}:∀ {l:List Sh} {zs:List AV} {x:Tup l},l.all acV=true->UI hp l zs=some x->∀k,zs=Cb k l x
 |[],zs,x,_,h,k=>by
  cases zs with
  |nil=>rfl
  |cons a r=>cases h
 |[s],zs,x,hl,h,k=>by
  cases zs with
  |nil=>cases h
  |cons a r=>
   cases r with
   |nil=>rw[akn (by simpa using hl) h k];rfl
   |cons b r=>cases h
 |s::t::r,zs,x,hl,h,k=>by
  rw[ayi,awp]at hl
  cases zs with
  |nil=>cases h
  |cons a zs=>
   simp only[UI]at h
   cases h1:jb hp s a with
   |none=>rw[h1]at h;cases h
   |some y=>
    rw[h1]at h
    cases h2:UI hp (t::r) zs with
    |none=>rw[h2]at h;cases h
    |some z=>
     rw[h2]at h
     have h:=awr h
     subst h
     rw[akn hl.1 h1 k,agR hl.2 h2 (k+1)];rfl
theorem ahw {M:Mem}:∀ {l:List Sh} {x:Tup l} {k:Nat} {vs:List Value},l.all acV=true->vs.length=l.length->(∀(j:Nat) (a:AV) (v:Value),(Cb k l x)[j]? =some a->vs[j]? =some v->bT M a v)->vs=abV l x
 |[],x,k,vs,_,hn,h=>by
  cases vs with
  |nil=>rfl
  |cons a r=>simp at hn
 |[s],x,k,vs,hl,hn,h=>by
  match vs,hn,h with
  |[v],_,h=>rw[abT (k:=k) (by simpa using hl) (h 0 _ v rfl rfl)];rfl
  |[],hn,_=>simp at hn
  |_::_::_,hn,_=>simp at hn
 |s::t::r,x,k,vs,hl,hn,h=>by
  rw[ayi,awp]at hl
  match vs,hn,h with
  |[],hn,_=>simp at hn
  |v::vs,hn,h=>
   rw[abT (k:=k) hl.1 (h 0 _ v rfl rfl),ahw (k:=k+1) hl.2 (by simpa using hn) fun j a v' h1 h2=>h (j+1) a v' h1 h2];rfl
theorem aeR {M:Mem}:∀ {l:List Sh} {x:Tup l} {k:Nat},l.all acV=true->∀(j:Nat) (a:AV) (v:Value),(Cb k l x)[j]? =some a->(abV l x)[j]? =some v->bT M a v
 |[],x,k,_,j,a,v,h1,h2=>by simp [Cb]at h1
 |[s],x,k,hl,j,a,v,h1,h2=>by
  cases j with
  |zero=>cases h1;cases h2;exact ahl (by simpa using hl)
  |succ j=>simp [Cb]at h1
 |s::t::r,x,k,hl,j,a,v,h1,h2=>by
  rw[ayi,awp]at hl
  cases j with
  |zero=>cases h1;cases h2;exact ahl hl.1
  |succ j=>exact aeR hl.2 j a v h1 h2
theorem aeM:∀ {l:List Sh} {x:Tup l},(abV l x).length=l.length
 |[],_=>rfl
 |[_],_=>rfl
 |s::t::r,x=>by simp only[abV,awF];rw[aeM];rfl
theorem aqm {M:Mem} {l:List Sh} {x:Tup l} {k:Nat} (hl:l.all acV=true):bT M (oneOf (Cb k l x)) (apW (abV l x)):=by
 have hel:(Cb k l x).length=l.length:=by rw[Ah,tY,IG]
 have hvl:= @aeM l x;have h:= @aeR M l x k hl;generalize Cb k l x=zs at*;generalize abV l x=vs at*
 match zs,vs,hel,hvl,h with
 |[a],[v],_,_,h=>exact h 0 a v rfl rfl
 |[],[],_,_,h=>exact .tup _ _ rfl fun i h=>by simp at h
 |a::b::r,c::d::s,h1,h2,h=>
  have hlen:(c::d::s).length=(a::b::r).length:=by rw[h1,h2]
  refine .tup _ _ (by simpa using hlen) fun i h3 h4=>h i _ _ (awL h3) ?_;have h4':i<(c::d::s).length:=by simpa using h4
  rw[awL h4'];simp
 |[],_::_,h1,h2,_=>simp at h1;rw[<-h1]at h2;simp at h2
 |[a],[],h1,h2,_=>simp at h1 h2;omega
 |[a],_::_::_,h1,h2,_=>simp at h1 h2;omega
 |_::_::_,[],h1,h2,_=>simp at h1 h2;omega
 |_::_::_,[_],h1,h2,_=>simp at h1 h2;omega
theorem Stp.below {M:Mem} {w w':World} (h:lJ M) (hH:M.H=w.heap) (hF:∀b,M.F b->b<w.heap.size) (hb:Below w.heap.size w w'):Stp M w { M with H:=w'.heap } w':=by
 have hold:∀b,b<w.heap.size->w'.heap[b]? =M.H[b]? :=fun b h=>by rw[hb.block b h,hH]
 have hlt:∀id e b,M.hp id=some e->M.β id=some b->b<w.heap.size:=fun id e b h1 h3=>by
  obtain⟨_,_,c,t,fr,hc,_⟩:=h.blk id e b h1 h3;rw[hH]at hc;exact(awG.1 hc).1
 have hle:Le M { M with H:=w'.heap }:=⟨fun _ h=>h,fun _ h=>h,fun b hb'=>hold b (hF b hb'),fun id e' hU he=>⟨e',he,eU.refl _,rfl⟩,fun id b n hU hne hβ hn=>by
  unfold bsize at*;cases he:M.hp id with
  |none=>exact absurd he hne
  |some e=>rw[show({ M with H:=w'.heap }:Mem).H[b]? =M.H[b]? from hold b (hlt id e b he hβ)];exact hn⟩
 refine⟨hle,rfl,lJ.mk' (h.glob.le hle) h.used h.nob (fun id e b h1 h2=> ?_) h.inj,hb.os,hb.tape,hb.output,hb.size,fun b hb' _=>hb.block b hb',fun b hb'=> .inl hb',fun b hb'=> .inl hb',fun g b hb'=>axf (g b hb') hb.size⟩;obtain⟨g1,g2,c,t,fr,g3,g4,g5⟩:=h.is h1 h2;exact⟨g1,g2,c,t,fr,(hold b (hlt id e b h1 h2)).trans g3,g4,g5.le hle⟩
theorem aen {P:Program} {f:Nat} {xs rs:List Sh} {run:Tup xs->Option (Tup rs)} (hx:xs.all acV=true) (hr:rs.all acV=true) (hent:∀(vals:Array Value) (w:World),(callFunc f vals).run P w= .ok (.enter f vals) w)
 (h:∀(x:Tup xs) (y:Tup rs) (w:World),run x=some y->Jb (fun b=>b<w.heap.size) w.heap->Calls P f (abV xs x).toArray w fun e w'=>e= .returned (apW (abV rs y))/\Below w.heap.size w w'):bY P f (mkSpec xs rs true run):=by
 intro M w hp args vals i (x:Tup xs) (y:Tup rs) hrel hH hF hnew hp' hn hs hdec hry
 have hdec:V9 xs hp args=some x:=hdec
 have hry:run x=some y:=hry
 unfold V9 at hdec
 cases hap:LQ (iR jX xs args) (iR O4 xs args)with
 |false=>simp [hap]at hdec
 |true=>
 simp only[hap,cond_true]at hdec
 have hae:=agR hx hdec 0
 subst hae
 have hl:(Cb 0 xs x).length=xs.length:=by rw[Ah,tY,IG]
 have hv:vals.toList=abV xs x:=by
  refine ahw (M:=M) (k:=0) hx (by simpa [hl] using hn) fun j a v h1 h2=> ?_
  obtain⟨g1,rfl⟩:=axF.1 h1
  obtain⟨g2,rfl⟩:=axF.1 h2
  simpa using hs j g1 (by simpa using g2)
 have hv':vals=(abV xs x).toArray:=by rw[<-hv]
 subst hv'
 have own0:∀(l:List Sh) (zs:List AV),l.all acV=true->iR jX l zs=[]:=fun l=>by
  induction l with
  |nil=>intro zs _;rfl
  |cons s r ih=>
   intro zs h
   rw[ayi,awp]at h
   cases zs with
   |nil=>rfl
   |cons a zs=>rw[iR,ih zs h.2,adS (fun e he=>by subst he;cases h.1)];rfl
 have blk0:∀(l:List Sh) (k:Nat) (y:Tup l),l.all acV=true->Ij k l y=[]:=fun l=>by
  induction l with
  |nil=>intro k y _;rfl
  |cons s r ih=>
   intro k y h
   rw[ayi,awp]at h
   have hb:∀z:s.T,amS k s z=[]:=fun z=>by cases s<;>first | rfl | cases h.1
   cases r with
   |nil=>exact hb y
   |cons t r=>
    show amS k s y.1++Ij (k+1) (t::r) y.2=[]
    rw[hb,ih (k+1) y.2 h.2];rfl
 refine .inl ⟨hent _ w,(h x y w hry (hrel.glob.mono hF fun b _=>by rw[hH])).mono fun e w' ⟨he,hb⟩=>⟨_,he,_,Stp.below hrel hH hF hb,fun id=> ?_,aqm hr,fun id hU=> .inl hU⟩⟩
 show M.hp id=over ([]++(Ij i rs y++(dead (iR jX xs (Cb 0 xs x))++freeze hp (afR true (iR jX xs (Cb 0 xs x)) hp (Cb 0 xs x))))) M.hp id
 rw[blk0 rs i y hr,own0 xs _ hx]
 rfl
end Go.Av
namespace Go.Av
open Go Go.RowKit Go.Shelf Go.Proofs
theorem amT:∀(a b:List UInt8),Lib.compareBytes a b=ail a b
 |[],[]=>rfl
 |[],_::_=>rfl
 |_::_,[]=>rfl
 |a::x,b::y=>by
  have ih:=amT x y
  unfold Lib.compareBytes
  rw[ih]
  unfold ail slt seq
  by_cases h1:a<b
  ·simp [Op.bytesLess,h1,cnd]
  ·by_cases h2:b<a
   ·have hne:¬a=b:=fun h=>by subst h;exact h1 h2
    have hne':(a == b)=false:=by simp [hne]
    simp [Op.bytesLess,h1,h2,hne',cnd]
   ·have he:a=b:=UInt8.le_antisymm (UInt8.not_lt.1 h2) (UInt8.not_lt.1 h1)
    subst he
    simp [Op.bytesLess,h1,cnd]
theorem afL {P:Program} {et:List (Nat×E)} (h:NZ P et) {f:Nat} (hb:hasB P f=true) (vals:Array Value) (w:World):(callFunc f vals).run P w= .ok (.enter f vals) w:=ae0 h hb vals w
theorem aoz {P:Program} {et:List (Nat×E)} (hS:NZ P et) {ρ:Ren} (L:Lays.n106 P ρ) (hb:hasB P (ρ.f 106)=true) {run:List UInt8×List UInt8->Option Int} (hr:∀x y,run x=some y->y=ail x.1 x.2):bY P (ρ.f 106) (mkSpec [.str,.str] [.int .i64] true run):=
 aen rfl rfl (afL hS hb) fun x y w h _=>by
  obtain⟨a,b⟩:=x
  have:=hr _ _ h
  subst this
  refine(Any.strings_Compare L ⟨a.toArray⟩ ⟨b.toArray⟩ w).mono ?_
  rintro e w' ⟨rfl,rfl⟩
  refine⟨?_,Below.refl _ _⟩
  show _=Ending.returned (.int .i64 (ail a b))
  rw[<-amT]
theorem aji:∀(k u:Nat),u<10^(k+1)->NS (k+1) u=Lib.decDigits u
 |0,u,h=>by
  have h:u<10:=by simpa using h
  rw[Lib.decDigits,NS,awh h,awJ h]
 |k+1,u,h=>by
  rw[Lib.decDigits,NS]
  split
  ·rfl
  ·rw[aji k (u / 10) (by rw[axx]at h;omega)]
theorem aqZ (n:Int) (h0: -9223372036854775808<=n) (h1:n<=9223372036854775807):fmt10 n=Lib.itoa n:=by
 unfold fmt10 Lib.itoa;have e:(10:Nat)^20=100000000000000000000:=by decide
 rw[aji 19 n.natAbs (by rw[e];omega),aji 19 n.toNat (by rw[e];omega)]
theorem auv {P:Program} {g:Nat} (hn:P.globalNamed "internal/strconv.uint64pow10" =some g) (hm:(g,aqb)∈glL) {w:World} (h:Jb (fun b=>b<w.heap.size) w.heap):Lib.TabIs P w "internal/strconv.uint64pow10" .u64 Lib.pow10Tab:=by
 obtain⟨_,c,t,fr,h1,h2⟩:=h _ hm;unfold Lib.TabIs World.var?;have h2:c=_:=h2;simp only[]at h1;simp [hn,h1,h2]
theorem aom {P:Program} {et:List (Nat×E)} (hS:NZ P et) {ρ:Ren} (L:LaysM.n173 P ρ) (hb:hasB P (ρ.f 173)=true) {g:Nat} (hn:P.globalNamed "internal/strconv.uint64pow10" =some g) (hm:(g,aqb)∈glL)
 {run:Int×Int->Option (List UInt8)} (hr:∀x y,run x=some y->ai2 x.1 x.2=some y):bY P (ρ.f 173) (mkSpec [.int .i64,.int .i64] [.str] true run):=
 aen rfl rfl (afL hS hb) fun x y w h hg=>by
  obtain⟨n,b⟩:=x
  have h:=hr _ _ h
  unfold ai2 at h
  cases hc:band (ieq b 10) (band (ile (-9223372036854775808) n) (ile n 9223372036854775807))with
  |false=>rw[hc]at h;cases h
  |true=>
   rw[hc]at h
   have h:some (fmt10 n)=some y:=h
   cases h
   simp only[band,ieq,ile,awp,aw9]at hc
   obtain⟨hb10,h0,h1⟩:=hc
   have hb10:b=10:=by simpa using hb10
   subst hb10
   have h0: -9223372036854775808<=n:=h0
   have h1:n<=9223372036854775807:=h1
   refine(Any.strconv_FormatInt_10 L n h0 h1 w (auv hn hm hg)).mono ?_
   rintro e w' ⟨rfl,k,os,rfl⟩
   refine⟨by rw[<-aqZ n h0 h1];rfl,?_⟩
   exact⟨rfl,rfl,rfl,by simp [Sort.grow,World.drewN],fun b hb=>by simp only[Sort.grow,World.drewN];rw[ayd hb]⟩
theorem anJ (l:List UInt8):∀c,akG l c=Lib.repeatL l c
 |0=>rfl
 |c+1=>by rw[akG,Lib.repeatL,anJ l c]
theorem aok {P:Program} {et:List (Nat×E)} (hS:NZ P et) {ρ:Ren} (L:Lays.n105 P ρ) (X:Builder.Extra P ρ) (hb:hasB P (ρ.f 105)=true)
 {run:List UInt8×Int->Option (List UInt8)} (hr:∀x y,run x=some y->aiR x.1 x.2=some y):bY P (ρ.f 105) (mkSpec [.str,.int .i64] [.str] true run):=
 aen rfl rfl (afL hS hb) fun x y w h hg=>by
  obtain⟨s,c⟩:=x
  have h:=hr _ _ h
  unfold aiR at h
  cases hc:band (ile 0 c) (band (ile c 9223372036854775807) (ile (dA (len s) c) 140737488355328))with
  |false=>rw[hc]at h;cases h
  |true=>
   rw[hc]at h
   have h:some (akG s (itn c))=some y:=h
   cases h
   simp only[band,ile,dA,len,awp,aw9]at hc
   obtain⟨h0,h1,h2⟩:=hc
   have h0:0<=c:=by simpa using h0
   have h1:c<=9223372036854775807:=by simpa using h1
   have h2:(s.length:Int)*c<=140737488355328:=of_decide_eq_true h2
   obtain⟨c,rfl⟩:=Int.eq_ofNat_of_zero_le h0
   have h3:s.length*c<=140737488355328:=by
    have:((s.length*c:Nat):Int)<=140737488355328:=by rw[Int.natCast_mul];exact h2
    omega
   refine(Any.strings_Repeat L X ⟨s.toArray⟩ c w (by omega) (by simpa [ByteArray.size] using h3)).mono ?_
   rintro e w' ⟨rfl,hbl⟩
   refine⟨?_,hbl⟩
   show Ending.returned (.string ⟨(Lib.repeatL s c).toArray⟩)=Ending.returned (.string ⟨(akG s (itn (c:Int))).toArray⟩)
   rw[anJ];simp [itn]
end Go.Av
namespace Go.Av
open Go Go.RowKit
theorem bY.calls {P:Program} {et:List (Nat×E)} (hS:NZ P et) {f:Nat} (hb:hasB P f=true) {xs:List Sh} {r:Sh} {run:Tup xs->Option (Tup [r])} (hok:bY P f (mkSpec xs [r] true run)) (hx:xs.all acV=true) (hr:acV r=true)
 (x:Tup xs) (y:r.T) (hrun:run x=some y) (W:World) (hg:Jb (fun b=>b<W.heap.size) W.heap):
 Calls P f (abV xs x).toArray W fun e w'=>e= .returned (apS r y)/\Below W.heap.size W w':=by
 have hl:(Cb 0 xs x).length=xs.length:=by rw[Ah,tY,IG]
 have hnb:xs.all ahu=true:=by
  rw[awV]at hx ⊢
  intro s hs
  have:=hx s hs
  cases s<;>first | rfl | cases this
 have h:=hok (Mem.all W) W (fun _=>none) (Cb 0 xs x) (abV xs x).toArray 0 x y (Mem.all_rel W hg) rfl (fun b h=>h) (fun _ _ _ h=>h) (fun _ _ h=>by cases h) (by simp [aeM,hl])
  (fun j h1 h2=>aeR hx j _ _ (awL h1) (by simpa using awL (by simpa using h2))) (by
    show V9 xs (fun _=>none) (Cb 0 xs x)=some x
    unfold V9
    rw[ah2 xs _ hnb,ae7 _ xs 0 x hnb]
    rfl) hrun
 rcases h with ⟨_,h⟩ | ⟨v,w',h1,_⟩
 ·refine h.mono fun e w' ⟨v,he,N,st,_,hsv,_⟩=> ?_
  have hsv:bT N (encS 0 r y) v:=hsv
  rw[abT hr hsv]at he
  exact⟨he,st.os,st.tape,st.output,st.size,fun k hk=>st.old k hk fun ho=>by obtain⟨_,_,h,_⟩:=ho;cases h⟩
 ·rw[ae0 hS hb]at h1
  cases h1
end Go.Av
namespace Go.Av
open Go
def Nc (c:UInt8):Prop:=48<=c/\c<=57
theorem rW {c:UInt8}:Nc c↔48<=c.toNat/\c.toNat<=57:=by
 unfold Nc;rw[UInt8.le_iff_toNat_le,UInt8.le_iff_toNat_le];rfl
theorem Oe (l:List UInt8) (c:UInt8):pU (l++[c])=pU l*10+(c.toNat - 48):=by
 unfold pU;rw[ayO];rfl
theorem aaI:∀(n:Nat) (l r:List UInt8),l.length=n->r.length=n->(∀c∈l,Nc c)->(∀c∈r,Nc c)->pU l=pU r->l=r
 |0,l,r,h1,h2,_,_,_=>by rw[aw8 h1,aw8 h2]
 |n+1,l,r,h1,h2,d1,d2,hv=>by
  obtain⟨l',c,rfl⟩:∃l' c,l=l'++[c]:=⟨l.dropLast,l.getLast (by intro h;rw[h]at h1;cases h1),(azb _).symm⟩
  obtain⟨r',e,rfl⟩:∃r' e,r=r'++[e]:=⟨r.dropLast,r.getLast (by intro h;rw[h]at h2;cases h2),(azb _).symm⟩
  rw[Oe,Oe]at hv
  have g1:=rW.1 (d1 c (by simp))
  have g2:=rW.1 (d2 e (by simp))
  simp only[awn,awY]at h1 h2
  have ih:=aaI n l' r' (by omega) (by omega) (fun x hx=>d1 x (by simp [hx])) (fun x hx=>d2 x (by simp [hx])) (by omega)
  have:c=e:=UInt8.toNat_inj.1 (by omega)
  rw[ih,this]
theorem Gn {u:Nat} (h:u<10):(UInt8.ofNat (48+u)).toNat=48+u:=by
 rw[UInt8.toNat_ofNat'];omega
theorem aao:∀(k u:Nat),∀c∈NS k u,Nc c
 |0,_,c,h=>by simp [NS]at h
 |k+1,u,c,h=>by
  unfold NS at h
  split at h
  ·rename_i hu
   rw[awC]at h
   subst h
   rw[rW,Gn hu];omega
  ·rcases awt.1 h with h | h
   ·exact aao k _ c h
   ·rw[awC]at h
    subst h
    rw[rW,Gn (ayy _ (by decide))]
    have:=ayy u (show 10>0 by decide)
    omega
theorem afx:∀(k u:Nat),u<10^k->pU (NS k u)=u
 |0,u,h=>by simp at h;subst h;rfl
 |k+1,u,h=>by
  unfold NS
  split
  ·rename_i hu
   show 0*10+((UInt8.ofNat (48+u)).toNat - 48)=u
   rw[Gn hu];omega
  ·rw[Oe,afx k (u / 10) (by rw[axx]at h;omega),Gn (ayy _ (by decide))]
   have:=Nat.div_add_mod u 10
   omega
theorem OH:∀(k u n:Nat),u<10^n->1<=n->(NS k u).length<=n
 |0,_,_,_,_=>by simp [NS]
 |k+1,u,n,h,hn=>by
  unfold NS
  split
  ·simpa using hn
  ·rename_i hu
   obtain⟨m,rfl⟩:∃m,n=m+1:=⟨n - 1,by omega⟩
   have hm:1<=m:=by
    refine Nat.one_le_iff_ne_zero.2 fun e=> ?_
    subst e;simp at h;omega
   have:=OH k (u / 10) m (by rw[axx]at h;omega) hm
   simp only[awn,awY];omega
theorem Xq (c:UInt8):∀n,akG [c] n=List.replicate n c
 |0=>rfl
 |n+1=>by rw[akG,Xq c n];rfl
theorem Zw:∀(n:Nat) (l:List UInt8),pU (List.replicate n 48++l)=pU l
 |0,l=>rfl
 |n+1,l=>by
  rw[List.replicate_succ,axa]
  have:=Zw n l
  unfold pU at*
  rw[aw6]
  exact this
theorem ajf {l:List UInt8} (hl:l.length=10) (hd:∀c∈l,Nc c) (hv:pU l<10^10):List.replicate (10 - (NS 20 (pU l)).length) 48++NS 20 (pU l)=l:=by
 have h1:=OH 20 (pU l) 10 hv (by decide);refine aaI 10 _ _ (by simp;omega) hl (fun c hc=> ?_) hd ?_
 ·rcases awt.1 hc with h | h
  ·rw[azc]at h;rw[h.2,rW];decide
  ·exact aao _ _ c h
 ·rw[Zw,afx 20 _ (Nat.lt_trans hv (by decide))]
theorem MP:∀(n:Nat) (l:List UInt8),l.length=n->(∀c∈l,Nc c)->pU l<10^n
 |0,l,h,_=>by rw[aw8 h];decide
 |n+1,l,h,hd=>by
  obtain⟨l',c,rfl⟩:∃l' c,l=l'++[c]:=⟨l.dropLast,l.getLast (by intro e;rw[e]at h;cases h),(azb _).symm⟩
  simp only[awn,awY]at h
  have ih:=MP n l' (by omega) fun x hx=>hd x (by simp [hx])
  have g:=rW.1 (hd c (by simp))
  rw[Oe,axx];omega
theorem aeb:∀(l:List UInt8) (acc:Nat),(∀c∈l,Nc c)->l.length<=10->acc<10^(10 - l.length)->Go.Lib.parseUintM (2^64 - 1) acc l= .ok (l.foldl (fun n c=>n*10+(c.toNat - 48)) acc)
 |[],acc,_,_,_=>rfl
 |c::r,acc,hd,hl,ha=>by
  have g:=rW.1 (hd c aw0)
  simp only[awF]at hl ha
  have hp:10^(10 - r.length)=10^(10 - (r.length+1))*10:=by
   rw[show 10 - r.length=(10 - (r.length+1))+1 by omega,axx]
  have hb:(10:Nat)^(10 - r.length)<=10^10:=ayD (by decide) (by omega)
  have ha':acc*10+(c.toNat - 48)<10^(10 - r.length):=by omega
  have hbig:(10:Nat)^10=10000000000:=by decide
  unfold Go.Lib.parseUintM
  rw[awh g,awg (by omega),awg (by omega),aeb r _ (fun x hx=>hd x (awX c hx)) (by omega) ha']
  rfl
theorem aoG {l:List UInt8} (hl:l.length=10) (hd:∀c∈l,Nc c):Go.Lib.parseIntB 64 l= .ok ((pU l:Nat):Int):=by
 have hv:=MP 10 l hl hd;have hbig:(10:Nat)^10=10000000000:=by decide
 have hf:=aeb l 0 hd (by omega) (by simp [hl]);cases l with
 |nil=>cases hl
 |cons c r=>
  have g:=rW.1 (hd c aw0);unfold Go.Lib.parseIntB;simp only;rw[awg (by omega)];unfold Go.Lib.parseUintB;rw[awg (by simp),hf];change (if ¬c.toNat=45/\2^(64 - 1)<=pU (c::r)then Go.Lib.NumEnd.range else if c.toNat=45/\2^(64 - 1)<pU (c::r)then .range else .ok (if c.toNat=45 then -((pU (c::r):Nat):Int)else ((pU (c::r):Nat):Int)))=_
  rw[awg (by omega),awg (by omega),awg (by omega)]
def uT (pre:List UInt8) (v:Int):List UInt8:=if v<1\/1000000000<v then []else pre++List.replicate (10 - (fmt10 v).length) 48++fmt10 v
theorem ajE (v:Int) (h1:¬(v<1\/1000000000<v)):∀c∈List.replicate (10 - (fmt10 v).length) 48++fmt10 v,Nc c:=by
 intro c hc;rcases awt.1 hc with h | h
 ·rw[azc]at h;rw[h.2,rW];decide
 ·unfold fmt10 at h;rw[awg (by omega)]at h;exact aao _ _ c h
theorem aoM (pre s:List UInt8) (hp:s.take pre.length=pre) (hpre:pre≠[]) (hl:(s.drop pre.length).length=10):
 (match Go.Lib.parseIntB 64 (s.drop pre.length)with | .ok v=>decide (uT pre v=s) | _=>false)=decide (ji pre s≠0):=by
 have hs:s=pre++s.drop pre.length:=by
  conv=>lhs;rw[<-aw7 pre.length s,hp]
 have hsne:s≠[]:=fun e=>by rw[e]at hl;simp at hl
 by_cases hd:∀c∈s.drop pre.length,Nc c
 ·rw[aoG hl hd]
  simp only
  have hv:=MP 10 _ hl hd
  by_cases hr:pU (s.drop pre.length)<=1000000000
  ·have e:ji pre s=((pU (s.drop pre.length):Nat):Int):=awh ⟨hp,hl,hd,hr⟩
   rw[e]
   by_cases h0:pU (s.drop pre.length)=0
   ·rw[h0]
    rw[show uT pre ((0:Nat):Int)=[]from awh (.inl (by decide))]
    simp [awE hsne]
   ·have hn:uT pre ((pU (s.drop pre.length):Nat):Int)=s:=by
     unfold uT
     rw[awg (by omega)]
     have hf:fmt10 ((pU (s.drop pre.length):Nat):Int)=NS 20 (pU (s.drop pre.length)):=by
      unfold fmt10;rw[awg (by omega)];rfl
     rw[hf,awT,ajf hl hd hv];exact hs.symm
    rw[hn]
    simp;omega
  ·have e:ji pre s=0:=awg (fun g=>hr g.2.2.2)
   rw[e,show uT pre ((pU (s.drop pre.length):Nat):Int)=[]from awh (.inr (by omega))]
   simp [awE hsne]
 ·have e:ji pre s=0:=awg (fun g=>hd g.2.2.1)
  rw[e]
  have key:∀v,uT pre v≠s:=fun v hv=>by
   unfold uT at hv
   split at hv
   ·exact hsne hv.symm
   ·rename_i h1
    rw[hs,awT]at hv
    have:=List.append_cancel_left hv
    exact hd (this▸ajE v h1)
  cases Go.Lib.parseIntB 64 (s.drop pre.length)with
  |ok v=>simp [key v]
  |_=>simp
theorem aoY {l:List UInt8} {v:Int} (h:Go.Lib.parseIntB 64 l= .ok v):inI v:=by
 unfold inI;have hb:(2:Nat)^(64 - 1)=9223372036854775808:=by decide
 cases l with
 |nil=>cases h
 |cons c r=>
  unfold Go.Lib.parseIntB at h;simp only at h;split at h
  ·cases h
  ·cases h
  ·rename_i u hu;split at h
   ·cases h
   ·split at h
    ·cases h
    ·rename_i h1 h2;have h:=Go.Lib.NumEnd.ok.inj h;rw[hb]at h1 h2;subst h;split<;>omega
end Go.Av
