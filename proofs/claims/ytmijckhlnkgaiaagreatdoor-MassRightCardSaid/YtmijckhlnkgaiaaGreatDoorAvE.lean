/- The evaluator is right: loops; arguments are read as data. No condition. -/
import Derived.Test.YtmijckhlnkgaiaaGreatDoorAvC
import Derived.Test.YtmijckhlnkgaiaaGreatDoorAvA
import GoSem.ClaimChange
import Derived.DataReads
import Derived.ChangeOld
import Derived.Below
import Derived.Carry
import Derived.Shelf.Bodies2
import Derived.Shelf.RegionOpenPlain
import Derived.Shelf.Spec.SlicesInsertGrow
import Derived.Lib.Overlaps
import Derived.Shelf.Small.Strs
import Derived.Shelf.Strconv.Itoa4
import Derived.Shelf.Strings.Repeat
import Derived.Lib.ParseIntB
import Derived.RangeFuncNested
import Derived.RangeFuncBound
import Derived.RangeFuncCalls
import Derived.RangeFuncLeaves
import Derived.RangeFuncWrites
import Derived.OrdersIn
import Derived.TacticsIn
set_option linter.unusedVariables false
set_option linter.unusedSimpArgs false
set_option linter.unnecessarySimpa false
namespace Go.Av
open Go Go.RowKit
set_option linter.unusedVariables false
set_option linter.unusedSimpArgs false
theorem Yx {α β:Type}:∀(l:List (α×β)),bK l=l.map (·.1)
 |[]=>rfl
 |(a,b)::r=>by rw[bK,Yx r];rfl
theorem abG {α β:Type}:∀(l:List (α×β)),TQ l=l.map (·.2)
 |[]=>rfl
 |(a,b)::r=>by rw[TQ,abG r];rfl
theorem Ux:∀(a b:List Dt) (k:Nat),iD k (a++b)=iD k a++iD (k+a.length) b
 |[],b,k=>by simp [iD]
 |d::a,b,k=>by
  rw[List.cons_append,iD,Ux a b (k+1),iD,List.cons_append]
  congr 2
  simp only[List.length_cons]
  congr 1;omega
theorem O7.split {hp:Nat->Option Ent}:∀ {fl:List Dt} {xs ys:List AV},O7 hp fl (xs++ys)->∃f1 f2,fl=f1++f2/\O7 hp f1 xs/\O7 hp f2 ys
 |fl,[],ys,h=>⟨[],fl,rfl,trivial,h⟩
 |[],x::xs,ys,h=>h.elim
 |d::fl,x::xs,ys,h=>by
  obtain⟨f1,f2,h1,h2,h3⟩:=O7.split (fl:=fl) (xs:=xs) (ys:=ys) h.2
  exact⟨d::f1,f2,by rw[h1];rfl,⟨h.1,h2⟩,h3⟩
theorem agL (rest:List (Nat×AV)) (t:Nat):∀(ks:List Nat) (vs:List AV),ks.length=vs.length->
 (∃(j:Nat) (a:AV),ks[j]? =some t/\vs[j]? =some a/\get (X5 ks vs++rest) t=a)\/(t∉ks/\get (X5 ks vs++rest) t=get rest t)
 |[],[],_=> .inr ⟨by simp,rfl⟩
 |[],_::_,h=>by cases h
 |_::_,[],h=>by cases h
 |k::ks,v::vs,h=>by
  rw[X5,List.cons_append,UR]
  by_cases e:t=k
  ·subst e
   exact .inl ⟨0,v,rfl,rfl,by rw[if_pos rfl]⟩
  ·rw[if_neg e]
   rcases agL rest t ks vs (by simpa using h)with ⟨j,a,h1,h2,h3⟩ | ⟨h1,h2⟩
   ·exact .inl ⟨j+1,a,by simpa using h1,by simpa using h2,h3⟩
   ·exact .inr ⟨by simp [e,h1],h2⟩
theorem Qv (fr:List (Nat×AV)):∀(ks:List Nat),(getAll fr ks).length=ks.length
 |[]=>rfl
 |k::ks=>by rw[getAll,List.length_cons,List.length_cons,Qv fr ks]
theorem ade (fr:List (Nat×AV)):∀(ks:List Nat) (j t:Nat),ks[j]? =some t->(getAll fr ks)[j]? =some (get fr t)
 |[],j,t,h=>by simp at h
 |k::ks,0,t,h=>by simp at h;subst h;rfl
 |k::ks,j+1,t,h=>by rw[getAll,List.getElem?_cons_succ];exact ade fr ks j t (by simpa using h)
def YU (hp:Nat->Option Ent) (fz:Bool) (k:Nat) (fl:List Dt) (bs:List AV) (id:Nat) (e':Option Ent):Prop:=
 ∃z cs cs',hp id=some ⟨z,.raw cs⟩/\e'=some ⟨fz,.raw cs'⟩/\cs.length=cs'.length/\
  ((∀q,q<cs.length->∃(j:Nat) (d:Dt) (a:AV),fl[j]? =some d/\bs[j]? =some a/\cs[q]? =some a/\cs'[q]? =some (encS (k+j) d.1 d.2))\/∃(j:Nat) (e:E) (x:den e),fl[j]? =some (⟨.val e,x⟩:Dt)/\bs[j]? =some (AV.agg cs)/\cs'=cells e x)
theorem XO {h:Nat->Option Ent}:∀ {l:List (Nat×List Sh)},Wu h l=true->Ur h l=true/\∀i∈bK l,∃cs,h i=some ⟨false,.raw cs⟩
 |[],_=>⟨rfl,fun i hi=>by cases hi⟩
 |(i,s)::r,hw=>by
  simp only[Wu,Bool.and_eq_true]at hw
  obtain⟨h1,h2⟩:=hw
  obtain⟨g1,g2⟩:=XO h2
  cases hi:h i with
  |none=>simp [hi]at h1
  |some e=>
   obtain⟨z,b⟩:=e
   cases b with
   |arr=>cases z<;>simp [hi]at h1
   |raw cs=>
    cases z with
    |true=>simp [hi]at h1
    |false=>
     refine⟨by simp only[Ur,hi,g1,Bool.and_true];simpa [hi] using h1,fun j hj=> ?_⟩
     rcases List.mem_cons.1 (show j∈i::bK r from hj)with rfl | hj
     ·exact⟨cs,hi⟩
     ·exact g2 j hj
theorem apF {k:Nat} {d:Dt} (h:∀e,d.1≠ .val e) (xs:List AV):encS k d.1 d.2≠ .agg xs:=by
 obtain⟨s,x⟩:=d;cases s with
 |val e=>exact absurd rfl (h e)
 |_=>intro h;cases h
theorem ao4 {k:Nat} {f1:List Dt} {e:E} (h:f1.map (·.1)=[.val e]):∃x:den e,f1=[⟨.val e,x⟩]:=by
 cases f1 with
 |nil=>cases h
 |cons d f=>
  cases f with
  |cons d2 f=>simp at h
  |nil=>
   obtain⟨s,x⟩:=d;simp only[List.map_cons,List.map_nil,List.cons.injEq,and_true]at h;subst h;exact⟨x,rfl⟩
theorem apm {k:Nat}:∀ {f1:List Dt},(∀e,f1.map (·.1)≠[.val e])->ait (iD k f1)=iD k f1
 |[],_=>rfl
 |[d],h=>by
  have hd:∀e,d.1≠ .val e:=fun e he=>h e (by simp [he])
  show ait [encS k d.1 d.2]=[encS k d.1 d.2]
  unfold ait
  split
  ·rename_i xs hx
   simp only[List.cons.injEq,and_true]at hx
   exact absurd hx (apF hd xs)
  ·rfl
 |d::d2::f,_=>by
  simp only[iD]
  unfold ait
  split
  ·rename_i h;simp at h
  ·rfl
theorem anr {s:List Sh} {cs:List AV} (h:cs.length=szS s) (hne:∀e,s≠[.val e]):cellP s cs=cs/\cs.length=s.length:=by
 unfold szS at h;unfold cellP;split at h
 ·rename_i e;exact absurd rfl (hne e)
 ·simp [h]
theorem aoa {hp:Nat->Option Ent} {fz z:Bool} {i k:Nat} {s:List Sh} {cs more:List AV} {f1 f2:List Dt} (hi:hp i=some ⟨z,.raw cs⟩) (hcl:cs.length=szS s) (hs1:f1.map (·.1)=s):
 YU hp fz k (f1++f2) (cellP s cs++more) i (some ⟨fz,.raw (ait (iD k f1))⟩):=by
 refine⟨z,cs,_,hi,rfl,?_⟩
 by_cases hv:∃e,s=[.val e]
 ·obtain⟨e,rfl⟩:=hv
  obtain⟨x,rfl⟩:=ao4 (k:=k) hs1
  exact⟨hcl.trans (oz e x).symm,.inr ⟨0,e,x,rfl,rfl,rfl⟩⟩
 ·have hne:∀e,s≠[.val e]:=fun e h=>hv ⟨e,h⟩
  obtain⟨hp1,hl⟩:=anr hcl hne
  rw[apm (k:=k) (f1:=f1) (by rw[hs1];exact hne),hp1]
  have hf:f1.length=s.length:=by rw[<-hs1,List.length_map]
  refine⟨by rw[lK,hl,hf],.inl fun q hq=> ?_⟩
  have hqf:q<f1.length:=by omega
  obtain⟨d,hd⟩:=nX hqf
  obtain⟨a,ha⟩:=nX hq
  refine⟨q,d,a,?_,?_,ha,Iy f1 k q d hd⟩
  ·rw[List.getElem?_append_left hqf];exact hd
  ·rw[List.getElem?_append_left hq];exact ha
theorem agA {hp:Nat->Option Ent} {fz:Bool} {k m:Nat} {f1 f2:List Dt} {p bs:List AV} (h1:f1.length=m) (h2:p.length=m) {id:Nat} {e':Option Ent} (h:YU hp fz (k+m) f2 bs id e'):YU hp fz k (f1++f2) (p++bs) id e':=by
 obtain⟨z',cs1,cs1',q1,q2,q3,q4⟩:=h;refine⟨z',cs1,cs1',q1,q2,q3,?_⟩;have hj1:∀j,(f1++f2)[m+j]? =f2[j]? :=fun j=>by
  rw[List.getElem?_append_right (by omega),h1,Nat.add_sub_cancel_left]
 have hj2:∀j,(p++bs)[m+j]? =bs[j]? :=fun j=>by
  rw[List.getElem?_append_right (by omega),h2,Nat.add_sub_cancel_left]
 rcases q4 with q4 | ⟨j,e,x,q5,q6,q7⟩
 ·refine .inl fun q hq=> ?_;obtain⟨j,d,a,q5,q6,q7,q8⟩:=q4 q hq;refine⟨m+j,d,a,by rw[hj1];exact q5,by rw[hj2];exact q6,q7,?_⟩;rw[<-Nat.add_assoc];exact q8
 ·exact .inr ⟨m+j,e,x,by rw[hj1];exact q5,by rw[hj2];exact q6,q7⟩
theorem akr {hp:Nat->Option Ent} (fz:Bool):∀(oh:List (Nat×List Sh)) (k:Nat) (fl:List Dt) (more:List AV) (tail:List Sh),Ur hp oh=true->O7 hp fl (zM hp oh++more)->fl.map (·.1)=cat (TQ oh)++tail->
 (∀id e',look (mX fz (split oh (iD k fl)).1) id=some e'->id∈bK oh/\YU hp fz k fl (zM hp oh++more) id e')/\
 (∀id,id∈bK oh->∃e',look (mX fz (split oh (iD k fl)).1) id=some e')/\
 ∃n f2,(split oh (iD k fl)).2=iD (k+n) f2/\(zM hp oh).length=n/\(∀j,fl[n+j]? =f2[j]?)/\O7 hp f2 more/\f2.map (·.1)=tail
 |[],k,fl,more,tail,hR,hD,hs=>⟨fun id e' h=>(by cases h),fun id h=>(by cases h),0,fl,rfl,rfl,fun j=>(by rw[Nat.zero_add]),hD,hs⟩
 |(i,s)::r,k,fl,more,tail,hR,hD,hs=>by
  simp only[Ur,Bool.and_eq_true]at hR
  obtain⟨h1,h2⟩:=hR
  cases hi:hp i with
  |none=>simp [hi]at h1
  |some e0=>
   obtain⟨z,b⟩:=e0
   cases b with
   |arr=>simp [hi]at h1
   |raw cs=>
    simp only[hi]at h1
    have hcl:=Nat.eq_of_beq_eq_true h1
    obtain⟨part,hpart⟩:∃part,part=cellP s cs:=⟨_,rfl⟩
    have hcells:zM hp ((i,s)::r)=part++zM hp r:=by
     rw[hpart];simp only[zM,hi]
    have hpl:part.length=s.length:=by
     rw[hpart]
     unfold cellP
     unfold szS at hcl
     split
     ·rfl
     ·rename_i hne
      have:cs.length=s.length:=by
       split at hcl
       ·rename_i e;exact absurd rfl (hne e)
       ·exact hcl
      simp [this]
    rw[hcells,List.append_assoc]at hD
    obtain⟨f1,f2,rfl,hD1,hD2⟩:=O7.split hD
    have hf1:f1.length=s.length:=by rw[hD1.len,hpl]
    have hs1:f1.map (·.1)=s/\f2.map (·.1)=cat (TQ r)++tail:=by
     rw[List.map_append]at hs
     have:cat (TQ ((i,s)::r))++tail=s++(cat (TQ r)++tail):=by
      rw[TQ,cat,List.append_assoc]
     rw[this]at hs
     exact List.append_inj hs (by rw[List.length_map,hf1])
    obtain⟨g1,g2,n,f3,g3,g4,g5,g6,g7⟩:=akr fz r (k+s.length) f2 more tail h2 hD2 hs1.2
    have hen:iD k (f1++f2)=iD k f1++iD (k+s.length) f2:=by rw[Ux,hf1]
    have htake:(iD k (f1++f2)).take s.length=iD k f1:=by
     rw[hen,List.take_append_of_le_length (by rw[lK,hf1];exact Nat.le_refl _),List.take_of_length_le (by rw[lK,hf1];exact Nat.le_refl _)]
    have hdrop:(iD k (f1++f2)).drop s.length=iD (k+s.length) f2:=by
     rw[hen,List.drop_append_of_le_length (by rw[lK,hf1];exact Nat.le_refl _),List.drop_of_length_le (by rw[lK,hf1];exact Nat.le_refl _),List.nil_append]
    have hsp:split ((i,s)::r) (iD k (f1++f2))=((i,iD k f1)::(split r (iD (k+s.length) f2)).1,(split r (iD (k+s.length) f2)).2):=by
     rw[split,htake,hdrop]
    rw[hsp,hcells,List.append_assoc]
    have here:YU hp fz k (f1++f2) (part++(zM hp r++more)) i (some ⟨fz,.raw (ait (iD k f1))⟩):=by
     rw[hpart];exact aoa hi hcl hs1.1
    have lift:∀id e',YU hp fz (k+s.length) f2 (zM hp r++more) id e'->YU hp fz k (f1++f2) (part++(zM hp r++more)) id e':=fun id e' h=>agA hf1 hpl h
    refine⟨fun id e' hl=> ?_,fun id hid=> ?_,s.length+n,f3,?_,?_,fun j=> ?_,g6,g7⟩
    ·simp only[mX,look]at hl
     cases hb:Nat.beq i id with
     |true=>
      have:=Nat.eq_of_beq_eq_true hb
      subst this
      simp only[hb,cond_true,Option.some.injEq]at hl
      subst hl
      exact⟨by simp [bK],here⟩
     |false=>
      simp only[hb,cond_false]at hl
      obtain⟨q1,q2⟩:=g1 id e' hl
      exact⟨by simp [bK,q1],lift id e' q2⟩
    ·simp only[mX,look]
     cases hb:Nat.beq i id with
     |true=>exact⟨_,rfl⟩
     |false=>
      rcases List.mem_cons.1 (show id∈i::bK r from hid)with rfl | hid
      ·simp at hb
      ·exact g2 id hid
    ·simp only;rw[g3,Nat.add_assoc]
    ·rw[List.length_append,hpl,g4]
    ·rw[Nat.add_assoc,List.getElem?_append_right (by rw[hf1];omega),hf1,Nat.add_sub_cancel_left]
     exact g5 j
theorem akk {hp:Nat->Option Ent}:∀(ob:List (Nat×E)) (k:Nat) (fl:List Dt),O7 hp fl (Wv hp ob)->fl.map (·.1)=XG ob->
 (∀id e',look (qX ob (iD k fl)) id=some e'->id∈bK ob/\∃e l,hp id=some ⟨false,.arr e l⟩/\e'=some ⟨false,.arr e l⟩)/\(∀id,id∈bK ob->∃e',look (qX ob (iD k fl)) id=some e')
 |[],k,fl,_,_=>by
  have:∀xs,qX [] xs=[]:=fun xs=>by cases xs<;>rfl
  rw[this]
  exact⟨fun id e' h=>(by cases h),fun id h=>(by cases h)⟩
 |(i,e)::r,k,[],hD,_=>hD.elim
 |(i,e)::r,k,⟨s,x⟩::fl,hD,hs=>by
  simp only[List.map_cons,XG,List.cons.injEq]at hs
  obtain⟨rfl,hs⟩:=hs
  obtain⟨hd,hD⟩:=hD
  obtain⟨g1,g2⟩:=akk r (k+1) fl hD hs
  have hblk:∃l,hp i=some ⟨false,.arr e l⟩/\x=l:=by
   simp only at hd
   cases hi:hp i with
   |none=>simp [hi,gG]at hd
   |some e0=>
    obtain⟨z,b⟩:=e0
    cases b with
    |raw cs=>cases z<;>simp [hi,gG]at hd
    |arr e1 l=>
     cases z with
     |true=>simp [hi,gG]at hd
     |false=>
      simp only[hi,gG]at hd
      split at hd
      ·rename_i h;subst h
       simp only[Option.some.injEq]at hd
       exact⟨l,rfl,hd.symm⟩
      ·cases hd
  obtain⟨l,h1,rfl⟩:=hblk
  have hao:qX ((i,e)::r) (iD k (⟨.ro e,x⟩::fl))=(i,some ⟨false,.arr e x⟩)::qX r (iD (k+1) fl):=rfl
  rw[hao]
  refine⟨fun id e' hl=> ?_,fun id hid=> ?_⟩
  ·simp only[look]at hl
   cases hb:Nat.beq i id with
   |true=>
    have:=Nat.eq_of_beq_eq_true hb
    subst this
    simp only[hb,cond_true,Option.some.injEq]at hl
    exact⟨by simp [bK],e,x,h1,hl.symm⟩
   |false=>
    simp only[hb,cond_false]at hl
    obtain⟨q1,q2⟩:=g1 id e' hl
    exact⟨by simp [bK,q1],q2⟩
  ·simp only[look]
   cases hb:Nat.beq i id with
   |true=>exact⟨_,rfl⟩
   |false=>
    rcases List.mem_cons.1 (show id∈i::bK r from hid)with rfl | hid
    ·simp at hb
    ·exact g2 id hid
end Go.Av
namespace Go.Av
open Go Go.RowKit
set_option linter.unusedVariables false
set_option linter.unusedSimpArgs false
def PY (hp hp':Nat->Option Ent) (ids:List Nat):Prop:=∀id,hp' id=if id∈ids then (hp id).map (fun e=>⟨true,e.b⟩)else hp id
theorem PY.some {hp hp':Nat->Option Ent} {ids:List Nat} (h:PY hp hp' ids) {id:Nat} {e:Ent} (he:hp id=some e):∃z,hp' id=some ⟨z,e.b⟩/\(id∉ids->z=e.fz)/\(id∈ids->z=true):=by
 rw[h id];by_cases hi:id∈ids
 ·rw[if_pos hi,he];exact⟨true,rfl,fun h=>absurd hi h,fun _=>rfl⟩
 ·rw[if_neg hi,he];exact⟨e.fz,rfl,fun _=>rfl,fun h=>absurd h hi⟩
theorem PY.none {hp hp':Nat->Option Ent} {ids:List Nat} (h:PY hp hp' ids) {id:Nat} (he:hp id=none):hp' id=none:=by
 rw[h id,he];split<;>rfl
theorem Kq {hp hp':Nat->Option Ent} {ids:List Nat} (h:PY hp hp' ids) (a:AV):xW hp' a=xW hp a:=by
 cases a with
 |mf id=>
  cases he:hp id with
  |none=>simp [xW,he,h.none he]
  |some e=>
   obtain⟨z,h1,_⟩:=h.some he;obtain⟨f,b⟩:=e;cases b<;>simp [xW,he,h1]
 |ms id off n=>
  cases he:hp id with
  |none=>simp [xW,he,h.none he]
  |some e=>
   obtain⟨z,h1,_⟩:=h.some he;obtain⟨f,b⟩:=e;cases b<;>simp [xW,he,h1]
 |_=>rfl
theorem Zj {hp hp':Nat->Option Ent} {ids:List Nat} (h:PY hp hp' ids):∀(l:List AV),ig hp' l=ig hp l
 |[]=>rfl
 |a::r=>by rw[ig,ig,Kq h,Zj h r]
theorem ame {hp hp':Nat->Option Ent} {ids:List Nat} (h:PY hp hp' ids) (s:Sh) (a:AV):Oj hp' s a=Oj hp s a:=by
 cases s with
 |ro e=>simp only[Oj,Kq h]
 |val e=>cases a<;>simp only[Oj,Zj h]
 |_=>rfl
theorem am6 {hp hp':Nat->Option Ent} {ids:List Nat} (h:PY hp hp' ids) {s:Sh} {a:AV} {x:s.T} (hd:gG hp s a=some x) (ho:∀id∈iU s a,id∉ids):gG hp' s a=some x:=by
 cases s with
 |int i=>cases a<;>first | exact hd | (simp [gG]at hd;done)
 |bool=>cases a<;>first | exact hd | (simp [gG]at hd;done)
 |str=>cases a<;>first | exact hd | (simp [gG]at hd;done)
 |rf i=>cases a<;>first | exact hd | (simp [gG]at hd;done)
 |fnv f=>
  cases a with
  |fn g cs=>cases cs<;>exact hd
  |_=>simp [gG]at hd
 |ro e=>
  cases a with
  |nils=>exact hd
  |ro e' l ex=>exact hd
  |mf id=>
   simp only[gG]at hd ⊢;cases he:hp id with
   |none=>simp [he]at hd
   |some e0=>
    obtain⟨z,h1,_⟩:=h.some he;obtain⟨f,b⟩:=e0;rw[he]at hd;rw[h1];cases b<;>exact hd
  |ms id off n=>
   simp only[gG]at hd ⊢;cases he:hp id with
   |none=>simp [he]at hd
   |some e0=>
    obtain⟨z,h1,_⟩:=h.some he;obtain⟨f,b⟩:=e0;rw[he]at hd;rw[h1];cases b<;>exact hd
  |_=>simp [gG]at hd
 |val e=>
  cases a with
  |agg cs=>simp only[gG,Zj h]at hd ⊢; exact hd
  |_=>simp [gG]at hd
 |buf e=>
  cases a with
  |nils=>exact hd
  |mf id=>
   have hi:id∉ids:=ho id (by simp [iU]);simp only[gG]at hd ⊢;rw[h id,if_neg hi];exact hd
  |_=>simp [gG]at hd
theorem aji {M N:Mem} {hp:Nat->Option Ent} {ids:List Nat} (hM:jd M) (hfz:PY hp M.hp ids) {k:Nat} {d:Dt} {a:AV} {v:Value} (hids:∀j∈Oj hp d.1 a,j∈ids) (ho:∀j∈iU d.1 a,j∉ids)
 (hNF:∀b,M.F b->N.F b) (hNH:N.H=M.H) (hb:ajR M N k a d) (hs:aY M a v) (hd:gG hp d.1 a=some d.2):aY N (encS k d.1 d.2) v:=
 P7 (hp:=M.hp) (fun _ _ h=>h) (Le.refl M) hM (fun id hid e he=>by
  rw[ame hfz]at hid
  have:=hfz id
  rw[if_pos (hids id hid)]at this
  rw[this]at he ⊢
  cases hh:hp id with
  |none=>simp [hh]at he
  |some e0=>simp only[hh,Option.map_some,Option.some.injEq]at he ⊢; subst he;rfl) hNF hNH rfl hb hs (am6 hfz hd ho)
theorem YB (k:Nat) (d:Dt):nc (encS k d.1 d.2):=by
 obtain⟨s,x⟩:=d;cases s<;>trivial
theorem ZL:∀ {a b:List AV},Xi a b=true->a=b
 |[],[],_=>rfl
 |.mp i o::r,.mp j p::q,h=>by
  simp only[Xi,Bool.and_eq_true]at h
  obtain⟨⟨h1,h2⟩,h3⟩:=h
  rw[Nat.eq_of_beq_eq_true h1,Nat.eq_of_beq_eq_true h2,ZL h3]
 |[],_::_,h=>by simp [Xi]at h
 |a::_,[],h=>by cases a<;>simp [Xi]at h
 |a::r,b::q,h=>by
  revert h
  unfold Xi
  split
  ·intro _;rename_i h1 h2;cases h1
  ·rename_i h1 h2
   obtain⟨rfl,rfl⟩:=List.cons.inj h1
   obtain⟨rfl,rfl⟩:=List.cons.inj h2
   intro h
   simp only[Bool.and_eq_true]at h
   obtain⟨⟨h1,h2⟩,h3⟩:=h
   rw[Nat.eq_of_beq_eq_true h1,Nat.eq_of_beq_eq_true h2,ZL h3]
  ·intro h;cases h
theorem aiJ {a b:AV} (h:afg a b=true):a=b/\nc b/\(∀(k:Nat),b≠ .undef):=by
 have nb:∀ {i j:Nat},Nat.beq i j=true->i=j:=fun h=>Nat.eq_of_beq_eq_true h;unfold afg at h;split at h<;>(try simp only[Bool.and_eq_true]at h)
 ·obtain⟨h1,h2⟩:=h;rw[nb h1,nb h2];exact⟨rfl,trivial,fun _ h=>by cases h⟩
 ·rw[nb h];exact⟨rfl,trivial,fun _ h=>by cases h⟩
 ·obtain⟨h1,h2⟩:=h;rw[nb h1,ZL h2];exact⟨rfl,trivial,fun _ h=>by cases h⟩
 ·exact⟨rfl,trivial,fun _ h=>by cases h⟩
 ·obtain⟨⟨⟨h1,h2⟩,h3⟩,h4⟩:=h;rw[nb h1,nb h2,nb h3,nb h4];exact⟨rfl,trivial,fun _ h=>by cases h⟩
 ·cases h
theorem X0 {fr:List (Nat×AV)} (rest:List (Nat×AV)):∀ {pl:List (Nat×AV)},IQ fr pl=true->∀t,(t∈bK pl/\get (pl++rest) t=get fr t/\nc (get fr t))\/(t∉bK pl/\get (pl++rest) t=get rest t)
 |[],_,t=> .inr ⟨by simp [bK],rfl⟩
 |(k,a)::pl,h,t=>by
  simp only[IQ,Bool.and_eq_true]at h
  obtain⟨h1,h2⟩:=h
  obtain⟨e1,e2,_⟩:=aiJ h1
  rw[List.cons_append,UR]
  by_cases e:t=k
  ·subst e
   rw[if_pos rfl]
   exact .inl ⟨by simp [bK],e1.symm,by rw[e1];exact e2⟩
  ·rw[if_neg e]
   rcases X0 rest h2 t with ⟨g1,g2⟩ | ⟨g1,g2⟩
   ·exact .inl ⟨by simp [bK,g1],g2⟩
   ·exact .inr ⟨by simp [bK,e,g1],g2⟩
def LSh.good (s:LSh) (D:List Nat):Bool:=
 (s.vk.all fun h=>match h with | .rf i=>(bK s.vb).any fun j=>Nat.beq i j | _=>true)&&(s.pk.all fun h=>match h with | .rf _=>false | _=>true)&&(s.pk.all fun h=>match h with | .buf _=>false | _=>true)&&Nu (bK s.ph++(bK s.vh++bK s.vb))&&(bK s.ph++(bK s.vh++bK s.vb)).all (fun i=>Nat.blt i (8*s.c0))&&
 !inter (bK s.ps++bK s.pl) D
structure adx (hp:Nat->Option Ent) (fr:List (Nat×AV)) (os:List (Nat×Sh)) (oh:List (Nat×List Sh)) (ob:List (Nat×E)) (fl:List Dt) (av:List AV):Prop where
 dec:O7 hp fl av
 av:av=getAll fr (bK os)++(zM hp oh++Wv hp ob)
 w:Ur hp oh=true
 sh:fl.map (·.1)=TQ os++(cat (TQ oh)++XG ob)
section
variable {hp:Nat->Option Ent} {fr:List (Nat×AV)} {os:List (Nat×Sh)} {oh:List (Nat×List Sh)} {ob:List (Nat×E)} {fl:List Dt} {av:List AV}
theorem adx.slot (R:adx hp fr os oh ob fl av) (k t:Nat) (rest:List (Nat×AV)):
 (∃j d,t∈bK os/\fl[j]? =some d/\av[j]? =some (get fr t)/\get (X5 (bK os) ((iD k fl).take os.length)++rest) t=encS (k+j) d.1 d.2)\/
 (t∉bK os/\get (X5 (bK os) ((iD k fl).take os.length)++rest) t=get rest t):=by
 have hl:(bK os).length=os.length:=by rw[Yx,List.length_map]
 have hfl:os.length<=fl.length:=by
  have:=congrArg List.length R.sh
  simp only[List.length_map,List.length_append,abG]at this
  omega
 rcases agL rest t (bK os) ((iD k fl).take os.length) (by rw[hl,List.length_take,lK];omega)with ⟨j,a,h1,h2,h3⟩ | h
 ·have hj:j<os.length:=by rw[<-hl];exact(List.getElem?_eq_some_iff.1 h1).1
  obtain⟨d,hd⟩:=nX (Nat.lt_of_lt_of_le hj hfl)
  refine .inl ⟨j,d,List.mem_of_getElem? h1,hd,?_,?_⟩
  ·rw[R.av,List.getElem?_append_left (by rw[Qv,hl];exact hj)]
   exact ade fr _ _ _ h1
  ·rw[h3]
   have:=Iy fl k j d hd
   rw[List.getElem?_take,if_pos hj,this]at h2
   exact(Option.some.inj h2).symm
 ·exact .inr h
theorem adx.parts (R:adx hp fr os oh ob fl av) (fz:Bool) (k:Nat):
 (∀id e',look (mX fz (split oh ((iD k fl).drop os.length)).1) id=some e'->id∈bK oh/\YU hp fz k fl av id e')/\
 (∀id,id∈bK oh->∃e',look (mX fz (split oh ((iD k fl).drop os.length)).1) id=some e')/\
 (∀id e',look (qX ob (split oh ((iD k fl).drop os.length)).2) id=some e'->id∈bK ob/\∃e l,hp id=some ⟨false,.arr e l⟩/\e'=some ⟨false,.arr e l⟩)/\
 (∀id,id∈bK ob->∃e',look (qX ob (split oh ((iD k fl).drop os.length)).2) id=some e'):=by
 have hD:=R.dec
 rw[R.av]at hD
 obtain⟨f1,f2,rfl,hD1,hD2⟩:=O7.split hD
 have hf1:f1.length=os.length:=by rw[hD1.len,Qv,Yx,List.length_map]
 have hs2:f2.map (·.1)=cat (TQ oh)++XG ob:=by
  have:=R.sh
  rw[List.map_append]at this
  exact(List.append_inj this (by rw[List.length_map,hf1,abG,List.length_map])).2
 have hdrop:(iD k (f1++f2)).drop os.length=iD (k+os.length) f2:=by
  rw[Ux,hf1,List.drop_append_of_le_length (by rw[lK,hf1];exact Nat.le_refl _),List.drop_of_length_le (by rw[lK,hf1];exact Nat.le_refl _),List.nil_append]
 rw[hdrop,R.av]
 obtain⟨g1,g2,n,f3,g3,g4,g5,g6,g7⟩:=akr fz oh (k+os.length) f2 (Wv hp ob) (XG ob) R.w hD2 hs2
 obtain⟨k1,k2⟩:=akk ob (k+os.length+n) f3 g6 g7
 rw[g3]
 refine⟨fun id e' h=> ?_,g2,k1,k2⟩
 obtain⟨q1,q2⟩:=g1 id e' h
 exact⟨q1,agA hf1 (by rw[Qv,Yx,List.length_map]) q2⟩
end
end Go.Av
namespace Go.Av
open Go Go.RowKit
set_option linter.unusedVariables false
set_option linter.unusedSimpArgs false
theorem zk (fz:Bool):∀(oh:List (Nat×List Sh)) (xs:List AV) (id:Nat),(id∈bK oh->∃e',look (mX fz (split oh xs).1) id=some e')/\(id∉bK oh->look (mX fz (split oh xs).1) id=none)
 |[],xs,id=>⟨fun h=>(by cases h),fun _=>rfl⟩
 |(i,s)::r,xs,id=>by
  obtain⟨h1,h2⟩:=zk fz r (xs.drop s.length) id
  simp only[split,mX,look,bK,List.mem_cons,not_or]
  cases hb:Nat.beq i id with
  |true=>
   have:=Nat.eq_of_beq_eq_true hb
   subst this
   exact⟨fun _=>⟨_,rfl⟩,fun h=>absurd rfl h.1⟩
  |false=>
   refine⟨fun h=> ?_,fun h=>h2 h.2⟩
   rcases h with rfl | h
   ·simp at hb
   ·exact h1 h
def ace (M:Mem) (cs:List AV) (c:Array Value):Prop:=c.size=cs.length/\(∀i,(h:i<c.size)->c[i].oneCell=true)/\∀q,(h:q<cs.length)->(h':q<c.size)->dt cs[q]=true/\aY M cs[q] c[q]
theorem ace.is {M N:Mem} (hF:∀b,M.F b->N.F b) (hH:∀b,M.F b->N.H[b]? =M.H[b]?) {cs:List AV} {c:Array Value} (h:ace M cs c):ru N (.raw cs) c/\ace N cs c:=
 ⟨⟨⟨h.1,h.2.1⟩,fun q h1 h2=>(h.2.2 q h1 h2).2.data hF hH (h.2.2 q h1 h2).1⟩,h.1,h.2.1,fun q h1 h2=>⟨(h.2.2 q h1 h2).1,(h.2.2 q h1 h2).2.data hF hH (h.2.2 q h1 h2).1⟩⟩
theorem LSh.good_inv {s:LSh} {D:List Nat} (h:s.good D=true):(∀(j:Nat) (h:Sh),s.pk[j]? =some h->∀e,h≠ .buf e)/\Nu (bK s.ph++(bK s.vh++bK s.vb))=true/\(∀i∈bK s.ph++(bK s.vh++bK s.vb),i<8*s.c0)/\
 (∀t,t∈bK s.ps\/t∈bK s.pl->t∉D):=by
 unfold LSh.good at h
 simp only[Bool.and_eq_true,Bool.not_eq_true']at h
 obtain⟨⟨⟨⟨⟨_,_⟩,h1⟩,h2⟩,h3⟩,h4⟩:=h
 refine⟨fun j x hx e he=> ?_,h2,fun i hi=> ?_,fun t ht=> ?_⟩
 ·have:=List.all_eq_true.1 h1 x (List.mem_of_getElem? hx)
  subst he
  simp at this
 ·have:=List.all_eq_true.1 h3 i hi
  simpa [Nat.blt_eq] using this
 ·exact Px h4 (by simpa using ht)
theorem LSh.good_rf {s:LSh} {D:List Nat} (h:s.good D=true):(∀(j:Nat) (h:Sh),s.pk[j]? =some h->∀i,h≠ .rf i)/\∀(j i:Nat),s.vk[j]? =some (.rf i)->i∈bK s.vb:=by
 unfold LSh.good at h;simp only[Bool.and_eq_true,Bool.not_eq_true']at h;obtain⟨⟨⟨⟨⟨h0,h1⟩,_⟩,_⟩,_⟩,_⟩:=h;refine⟨fun j x hx e he=> ?_,fun j i hj=> ?_⟩
 ·have:=List.all_eq_true.1 h1 x (List.mem_of_getElem? hx);subst he;simp at this
 ·have:=List.all_eq_true.1 h0 _ (List.mem_of_getElem? hj);obtain⟨k,h2,h3⟩:=List.any_eq_true.1 this;exact Nat.eq_of_beq_eq_true h3▸h2
theorem ah5 {s:LSh} (p:Tup s.pk) (v:Tup s.vk) (j:Nat):FS.hp (s.st p v) j=
 over (mX true (split s.ph ((iD 0 (flat s.pk p)).drop s.ps.length)).1) (over (mX false (split s.vh ((iD (8*s.c0) (flat s.vk v)).drop s.vs.length)).1)
  (over (qX s.vb (split s.vh ((iD (8*s.c0) (flat s.vk v)).drop s.vs.length)).2) (over (yU (8*s.c0) (flat s.vk v)) (fun _=>none)))) j:=by
 unfold FS.hp LSh.st over
 simp only[qA,yC,IC]
 cases look (mX true (split s.ph ((iD 0 (flat s.pk p)).drop s.ps.length)).1) j with
 |some e=>rfl
 |none=>
  simp only
  cases look (mX false (split s.vh ((iD (8*s.c0) (flat s.vk v)).drop s.vs.length)).1) j with
  |some e=>rfl
  |none=>
   simp only
   cases look (qX s.vb (split s.vh ((iD (8*s.c0) (flat s.vk v)).drop s.vs.length)).2) j with
   |some e=>rfl
   |none=>rfl
theorem UK {s:LSh} {A:FS} {v:Tup s.vk} (h:s.decV A=some v):Wu A.hp s.vh=true/\GN (fZ iU s.vk (s.vAV A)++(bK s.vh++(bK s.vb++bK s.ph))) (fZ KW s.vk (s.vAV A))=true/\
 adx A.hp A.fr s.vs s.vh s.vb (flat s.vk v) (s.vAV A):=by
 unfold LSh.decV at h
 cases hc:(Wu A.hp s.vh&&GN (fZ iU s.vk (s.vAV A)++(bK s.vh++(bK s.vb++bK s.ph))) (fZ KW s.vk (s.vAV A)))with
 |false=>simp [hc]at h
 |true=>
  simp only[hc,cond_true]at h
  simp only[Bool.and_eq_true]at hc
  exact⟨hc.1,hc.2,Hy _ _ _ h,rfl,(XO hc.1).1,OW _ _⟩
theorem ai0 {s:LSh} {D:List Nat} (hg:s.good D=true) {p:Tup s.pk} {v:Tup s.vk} {N':Mem} {A':FS} {ids:List Nat} (hN:jd N') (hfz:PY A'.hp N'.hp ids) (hv:s.decV A'=some v)
 (hids1:∀j∈Ai A'.hp s.vk (s.vAV A'),j∈ids) (hids2:∀j∈fZ iU s.vk (s.vAV A')++(bK s.vh++(bK s.vb++bK s.ph)),j∉ids) (phβ:Nat->Option Nat)
 (PH:∀j e',look (mX true (split s.ph ((iD 0 (flat s.pk p)).drop s.ps.length)).1) j=some e'->∃b c t fr cs',e'=some ⟨true,.raw cs'⟩/\phβ j=some b/\N'.H[b]? =some (.cells c t fr)/\E5 (.raw cs') c fr/\ace N' cs' c/\
   ∀i,i∈fZ iU s.vk (s.vAV A')++(bK s.vh++bK s.vb)->N'.β i≠some b) {Us:Nat->Prop}
 (hUs:∀j,j∈bK s.ph\/j∈bK s.vh++bK s.vb\/(8*s.c0<=j/\j<8*(s.c0+s.vk.length))->Us j):
 ∃V σ,View N' V σ/\(∀j,V.hp j=FS.hp (s.st p v) j)/\V.U=Us/\(∀j∈bK s.ph,V.β j=phβ j)/\(∀j,j∉bK s.ph->j<8*s.c0->σ j=some j)/\
  (∀(j:Nat) (d:Dt) (a:AV),(flat s.vk v)[j]? =some d->(s.vAV A')[j]? =some a->∀val,aY N' a val->aY V (encS (8*s.c0+j) d.1 d.2) val)/\
  (∀k i e1,V.hp k=some e1->e1.fz=false->σ k=some i->i∈fZ iU s.vk (s.vAV A')++(bK s.vh++bK s.vb))/\(∀j,V.hp j≠none->j<8*s.c0->j∈bK s.ph\/(j∈bK s.vh++bK s.vb))/\(∀j e',V.hp j=some e'->j∉bK s.ph->e'.fz=false):=by
 obtain⟨hbuf,hnd,hlt0,_⟩:=LSh.good_inv hg
 obtain⟨hW,hap,R⟩:=UK hv
 obtain⟨hdup,hdis⟩:=Dv hap
 obtain⟨_,hraw⟩:=XO hW
 obtain⟨r1,r2,r3,r4⟩:=R.parts false (8*s.c0)
 have hfl:(flat s.vk v).length=s.vk.length:=vg _ _
 have inPh:∀j,j∈bK s.ph->j<8*s.c0/\j∉bK s.vh++bK s.vb:=fun j hj=>⟨hlt0 j (List.mem_append_left _ hj),(uh hnd).2.2 j hj⟩
 have inV:∀j,j∈bK s.vh++bK s.vb->j<8*s.c0:=fun j hj=>hlt0 j (List.mem_append_right _ hj)
 obtain⟨σ,hσ⟩:∃σ:Nat->Option Nat,σ=fun j=>if j∈bK s.ph then none else if j<8*s.c0 then some j else zV (flat s.vk v) (s.vAV A') (8*s.c0) j:=⟨_,rfl⟩
 have σph:∀j,j∈bK s.ph->σ j=none:=fun j h=>by rw[hσ];simp only[h,if_true]
 have σlo:∀j,j∉bK s.ph->j<8*s.c0->σ j=some j:=fun j h h'=>by rw[hσ];simp only[h,h',if_true,if_false]
 have σhi:∀j,8*s.c0<=j->σ j=zV (flat s.vk v) (s.vAV A') (8*s.c0) j:=fun j h=>by
  have h1:j∉bK s.ph:=fun hj=>by have:=(inPh j hj).1;omega
  have h2:¬j<8*s.c0:=by omega
  rw[hσ];simp only[h1,h2,if_false]
 clear hσ
 obtain⟨V,hV⟩:∃V:Mem,V={ U:=Us,F:=N'.F,β:=fun j=>if j∈bK s.ph then phβ j else (σ j).bind N'.β,hp:=FS.hp (s.st p v),H:=N'.H }:=⟨_,rfl⟩
 have vU:V.U=Us:=by rw[hV]
 have vF:∀b,V.F b↔N'.F b:=fun b=>by rw[hV]
 have vβ1:∀j,j∈bK s.ph->V.β j=phβ j:=fun j h=>by rw[hV];simp only[h,if_true]
 have vβ2:∀j,j∉bK s.ph->V.β j=(σ j).bind N'.β:=fun j h=>by rw[hV];simp only[h,if_false]
 have vp:∀j,V.hp j=FS.hp (s.st p v) j:=fun j=>by rw[hV]
 have vH:V.H=N'.H:=by rw[hV]
 clear hV
 have vFs:∀b,N'.F b->V.F b:=fun b h=>(vF b).2 h
 have cls:∀j e',V.hp j=some e'->(j∈bK s.ph/\look (mX true (split s.ph ((iD 0 (flat s.pk p)).drop s.ps.length)).1) j=some (some e'))\/
  (j∈bK s.vh/\YU A'.hp false (8*s.c0) (flat s.vk v) (s.vAV A') j (some e'))\/(j∈bK s.vb/\∃e l,A'.hp j=some ⟨false,.arr e l⟩/\e'=⟨false,.arr e l⟩)\/
  (8*s.c0<=j/\j - 8*s.c0<(flat s.vk v).length/\∃e l,(flat s.vk v)[j - 8*s.c0]? =some ⟨.buf e,l⟩/\e'=⟨false,.arr e l⟩):=fun j e' he=>by
  rw[vp,ah5]at he
  unfold over at he
  cases h1:look (mX true (split s.ph ((iD 0 (flat s.pk p)).drop s.ps.length)).1) j with
  |some x=>
   rw[h1]at he
   simp only at he
   subst he
   refine .inl ⟨?_,rfl⟩
   by_cases hj:j∈bK s.ph
   ·exact hj
   ·rw[(zk true _ _ j).2 hj]at h1;cases h1
  |none=>
   rw[h1]at he
   simp only at he
   cases h2:look (mX false (split s.vh ((iD (8*s.c0) (flat s.vk v)).drop s.vs.length)).1) j with
   |some x=>
    rw[h2]at he
    simp only at he
    subst he
    exact .inr (.inl (r1 j _ h2))
   |none=>
    rw[h2]at he
    simp only at he
    cases h3:look (qX s.vb (split s.vh ((iD (8*s.c0) (flat s.vk v)).drop s.vs.length)).2) j with
    |some x=>
     rw[h3]at he
     simp only at he
     subst he
     obtain⟨q1,e,l,q2,q3⟩:=r3 j _ h3
     cases q3
     exact .inr (.inr (.inl ⟨q1,e,l,q2,rfl⟩))
    |none=>
     rw[h3]at he
     exact .inr (.inr (.inr (Yf (h0:=fun _=>none) rfl he)))
 have bufIn:∀j e l,8*s.c0<=j->(flat s.vk v)[j - 8*s.c0]? =some ⟨.buf e,l⟩->V.hp j=some ⟨false,.arr e l⟩:=fun j e l hj hf=>by
  have n1:j∉bK s.ph:=fun h=>by have:=(inPh j h).1;omega
  have n2:j∉bK s.vh:=fun h=>by have:=inV j (List.mem_append_left _ h);omega
  have n3:look (qX s.vb (split s.vh ((iD (8*s.c0) (flat s.vk v)).drop s.vs.length)).2) j=none:=by
   cases h3:look (qX s.vb (split s.vh ((iD (8*s.c0) (flat s.vk v)).drop s.vs.length)).2) j with
   |none=>rfl
   |some x=>have:=inV j (List.mem_append_right _ (r3 j _ h3).1);omega
  rw[vp,ah5]
  unfold over
  rw[(zk true _ _ j).2 n1,(zk false _ _ j).2 n2,n3]
  simp only
  rw[AY,if_pos hj,hf]
  rfl
 have unfz:∀id e,id∈fZ iU s.vk (s.vAV A')++(bK s.vh++(bK s.vb++bK s.ph))->A'.hp id=some e->N'.hp id=some e:=fun id e hi he=>by
  rw[hfz id,if_neg (hids2 id hi)];exact he
 have ownOut:∀id,id∈fZ iU s.vk (s.vAV A')->id∉ids:=fun id h=>hids2 id (List.mem_append_left _ h)
 have seen:∀(j:Nat) (d:Dt) (a:AV),(flat s.vk v)[j]? =some d->(s.vAV A')[j]? =some a->∀val,aY N' a val->aY V (encS (8*s.c0+j) d.1 d.2) val:=fun j d a hd ha val hs=>by
  have hdec:=R.dec.get j d a hd ha
  refine aji hN hfz (fun i hi=>hids1 i (EQ _ (lg hd) ha hi)) (fun i hi=>ownOut i (U3 (lg hd) ha hi)) vFs vH ?_ hs hdec
  obtain⟨sh,z⟩:=d
  cases sh with
  |buf e=>
   have hlt:j<(flat s.vk v).length:=(List.getElem?_eq_some_iff.1 hd).1
   have e0:8*s.c0+j - 8*s.c0=j:=by omega
   refine⟨by rw[vU];exact hUs _ (.inr (.inr ⟨by omega,by omega⟩)),bufIn _ e z (by omega) (by rw[e0];exact hd),?_⟩
   have n1:8*s.c0+j∉bK s.ph:=fun h=>by have:=(inPh _ h).1;omega
   rw[vβ2 _ n1,σhi _ (by omega)]
   rcases Bo hdec with ⟨rfl,_⟩ | ⟨id,rfl,he2⟩
   ·rw[Ap (by rw[e0];exact ha)];rfl
   ·rw[IX (by omega) (by rw[e0];exact hd) (by rw[e0];exact ha)];rfl
  |rf i=>
   intro val hsi
   have hi:i∈bK s.vb:=(LSh.good_rf hg).2 j i (lg hd)
   have hlt:=inV i (List.mem_append_right _ hi)
   have n1:i∉bK s.ph:=fun h=>(inPh i h).2 (List.mem_append_right _ hi)
   have n2:i∉bK s.vh:=fun h=>(uh (uh hnd).2.1).2.2 i h hi
   obtain⟨e',he'⟩:=r4 i hi
   obtain⟨_,e,l,q2,q3⟩:=r3 i e' he'
   have hN'i:=unfz i _ (by simp [hi]) q2
   have hVi:V.hp i=some ⟨false,.arr e l⟩:=by
    rw[vp,ah5]
    unfold over
    rw[(zk true _ _ i).2 n1,(zk false _ _ i).2 n2,he',q3]
   have hVβ:V.β i=N'.β i:=by rw[vβ2 i n1,σlo i n1 hlt];rfl
   cases hsi with | mf _ _ hU h1 hh=>
   refine .mf i val (by rw[vU];exact hUs i (.inr (.inl (List.mem_append_right _ hi)))) h1 fun e2 he2=> ?_
   rw[hVi]at he2;cases he2
   obtain⟨fz,t,l',a',cap,g1,g2,g3,g4⟩:=hh _ hN'i
   cases g1
   refine⟨false,e,l,a',cap,rfl,g2,g3,?_⟩
   unfold sG at*
   rw[hVβ,vH]
   exact g4
  |_=>trivial
 have hvh:∀j,j∈bK s.vh++bK s.vb->j∉bK s.ph:=fun j hj hp=>(inPh j hp).2 hj
 have src:∀j e',V.hp j=some e'->(j∈bK s.ph/\σ j=none/\e'.fz=true/\Pe e'.b=false/\∃b c t fr,V.β j=some b/\N'.H[b]? =some (.cells c t fr)/\E5 e'.b c fr/\ru V e'.b c/\∀i,i∈fZ iU s.vk (s.vAV A')++(bK s.vh++bK s.vb)->N'.β i≠some b)\/
  (j∉bK s.ph/\((σ j=none/\V.β j=none/\∃fz t,e'=⟨fz,.arr t []⟩)\/(∃i e,σ j=some i/\i∈fZ iU s.vk (s.vAV A')++(bK s.vh++bK s.vb)/\N'.hp i=some e/\V.β j=N'.β i/\e'.fz=e.fz/\Conv N' V e.b e'.b))):=fun j e' he=>by
  rcases cls j e' he with ⟨q1,q2⟩ | ⟨q1,z,cs,cs',q2,q3,q4,q5⟩ | ⟨q1,e,l,q2,rfl⟩ | ⟨q1,q2,e,l,q3,rfl⟩
  ·obtain⟨b,c,t,fr,cs',g1,g2,g3,g4,g5,g6⟩:=PH j _ q2
   cases g1
   exact .inl ⟨q1,σph j q1,rfl,rfl,b,c,t,fr,by rw[vβ1 j q1];exact g2,g3,g4,(g5.is vFs (fun b _=>by rw[vH])).1,g6⟩
  ·have hj:j∈bK s.vh++bK s.vb:=List.mem_append_left _ q1
   have n1:=hvh j hj
   have hs:=σlo j n1 (inV j hj)
   obtain⟨cs0,h0⟩:=hraw j q1
   rw[h0]at q2
   cases q2;cases q3
   refine .inr ⟨n1,.inr ⟨j,_,hs,List.mem_append_right _ hj,unfz j _ (by simp [q1]) h0,by rw[vβ2 j n1,hs];rfl,rfl,q4,fun q val h h' hval=> ?_⟩⟩
   rcases q5 with q5 | ⟨i,e,x,g1,g2,g3⟩
   ·obtain⟨i,d,a,g1,g2,g3,g4⟩:=q5 q h
    rw[List.getElem?_eq_getElem h]at g3
    rw[List.getElem?_eq_getElem h']at g4
    cases g3;rw[Option.some.inj g4]
    exact seen i d _ g1 g2 val hval
   ·have hdec:=R.dec.get i _ _ g1 g2
    subst g3
    simp only[gG]at hdec
    obtain⟨hl,hw⟩:=vS e _ x hdec
    have hq:q<(ig A'.hp cs).1.length:=by rw[xI];exact h
    obtain⟨k1,k2⟩:=UY (hp:=A'.hp) cs q h hq
    have hsl:aY N' (ig A'.hp cs).1[q] val:=by
     rw[k1,<-Kq hfz]
     refine Qu (hp:=N'.hp) (fun _ _ h=>h) (Le.refl N') hN (fun id hid e0 he0=> ?_) hval
     rw[Kq hfz]at hid
     have hin:id∈ids:=hids1 id (EQ (s:= .val e) _ (lg g1) g2 (k2 id hid))
     have:=hfz id
     rw[if_pos hin]at this
     rw[this]at he0 ⊢
     cases hh:A'.hp id with
     |none=>simp [hh]at he0
     |some e1=>simp only[hh,Option.map_some,Option.some.injEq]at he0 ⊢; subst he0;rfl
    rw[<-lq _ _ hq]at hsl
    have:=(hw q (by rw[<-hl];exact hq)).sees hsl
    rw[lq _ _ h']at this
    exact this.data vFs (fun b _=>by rw[vH]) (by rw[<-lq _ _ h'];exact JM e x q (by rw[<-hl];exact hq))
  ·have hj:j∈bK s.vh++bK s.vb:=List.mem_append_right _ q1
   have n1:=hvh j hj
   have hs:=σlo j n1 (inV j hj)
   exact .inr ⟨n1,.inr ⟨j,_,hs,List.mem_append_right _ hj,unfz j _ (by simp [q1]) q2,by rw[vβ2 j n1,hs];rfl,rfl,rfl⟩⟩
  ·have n1:j∉bK s.ph:=fun h=>by have:=(inPh j h).1;omega
   obtain⟨a,ha⟩:=nX (l:=s.vAV A') (j:=j - 8*s.c0) (by rw[<-R.dec.len];exact q2)
   refine .inr ⟨n1,?_⟩
   rcases Bo (R.dec.get _ _ _ q3 ha)with ⟨rfl,rfl⟩ | ⟨id,rfl,he2⟩
   ·have:=Ap (fl:=flat s.vk v) (k:=8*s.c0) ha
    exact .inl ⟨by rw[σhi j q1];exact this,by rw[vβ2 j n1,σhi j q1,this];rfl,_,_,rfl⟩
   ·have hsrc:=IX q1 q3 ha
    have hown:=(Hr hsrc).1
    exact .inr ⟨id,_,by rw[σhi j q1];exact hsrc,List.mem_append_left _ hown,unfz id _ (List.mem_append_left _ hown) he2,by rw[vβ2 j n1,σhi j q1,hsrc];rfl,rfl,rfl⟩
 have σin:∀k i e1,V.hp k=some e1->e1.fz=false->σ k=some i->i∈fZ iU s.vk (s.vAV A')++(bK s.vh++bK s.vb):=fun k i e1 hk hf hs=>by
  rcases src k e1 hk with ⟨_,h1,_⟩ | ⟨_,⟨h1,_⟩ | ⟨i',e,h1,h2,_⟩⟩
  ·rw[hs]at h1;cases h1
  ·rw[hs]at h1;cases h1
  ·rw[hs]at h1;cases h1;exact h2
 have vUs:∀j,V.hp j≠none->V.U j:=fun j hj=>by
  rw[vU]
  cases he:V.hp j with
  |none=>exact absurd he hj
  |some e'=>
   rcases cls j e' he with ⟨q1,_⟩ | ⟨q1,_⟩ | ⟨q1,_⟩ | ⟨q1,q2,_⟩
   ·exact hUs j (.inl q1)
   ·exact hUs j (.inr (.inl (List.mem_append_left _ q1)))
   ·exact hUs j (.inr (.inl (List.mem_append_right _ q1)))
   ·exact hUs j (.inr (.inr ⟨q1,by omega⟩))
 refine⟨V,σ,⟨vH,vF,fun j e' he=>⟨vUs j (by rw[he];simp),?_⟩,fun j j' i e h1 h2 hj hj' _ hf=> ?_⟩,vp,vU,vβ1,σlo,seen,σin,fun j hj hlt=> ?_,fun j e' he hn=> ?_⟩
 ·rcases src j e' he with ⟨_,h1,h2,h3,b,c,t,fr,h4,h5,h6,h7,h8⟩ | ⟨_,h | ⟨i,e,h1,_,h2,h3,h4,h5⟩⟩
  ·exact .inr (.inr ⟨h1,h2,h3,b,c,t,fr,h4,h5,h6,h7,fun i k e1 hk hf hs=>h8 i (σin k i e1 hk hf hs)⟩)
  ·exact .inl h
  ·exact .inr (.inl ⟨i,e,h1,h2,h3,.inl h4,h5⟩)
 ·have lo:∀j,σ j=some i->V.hp j≠none->j<8*s.c0->i=j/\j∈bK s.vh++bK s.vb:=fun j h1 hj hlt=>by
   have n1:j∉bK s.ph:=fun h=>by rw[σph j h]at h1;cases h1
   rw[σlo j n1 hlt]at h1
   refine⟨(Option.some.inj h1).symm,?_⟩
   cases he:V.hp j with
   |none=>exact absurd he hj
   |some e'=>
    rcases cls j e' he with ⟨q1,_⟩ | ⟨q1,_⟩ | ⟨q1,_⟩ | ⟨q1,_⟩
    ·exact absurd q1 n1
    ·exact List.mem_append_left _ q1
    ·exact List.mem_append_right _ q1
    ·omega
  have no:∀x,x∈fZ iU s.vk (s.vAV A')->x∉bK s.vh++bK s.vb:=fun x hx hm=>(uh hdup).2.2 x hx (by
   rcases List.mem_append.1 hm with h | h
   ·exact List.mem_append_left _ h
   ·exact List.mem_append_right _ (List.mem_append_left _ h))
  rcases Nat.lt_or_ge j (8*s.c0)with hl | hl<;>rcases Nat.lt_or_ge j' (8*s.c0)with hl' | hl'
  ·rw[<-(lo j h1 hj hl).1,<-(lo j' h2 hj' hl').1]
  ·rw[σhi j' hl']at h2
   obtain⟨e1,e2⟩:=lo j h1 hj hl
   exact absurd (e1▸e2) (no i (Hr h2).1)
  ·rw[σhi j hl]at h1
   obtain⟨e1,e2⟩:=lo j' h2 hj' hl'
   exact absurd (e1▸e2) (no i (Hr h1).1)
  ·rw[σhi j hl]at h1
   rw[σhi j' hl']at h2
   exact U4 (uh hdup).1 h1 h2
 ·cases he:V.hp j with
  |none=>exact absurd he hj
  |some e'=>
   rcases cls j e' he with ⟨q1,_⟩ | ⟨q1,_⟩ | ⟨q1,_⟩ | ⟨q1,_⟩
   ·exact .inl q1
   ·exact .inr (List.mem_append_left _ q1)
   ·exact .inr (List.mem_append_right _ q1)
   ·omega
 ·rcases cls j e' he with ⟨q1,_⟩ | ⟨_,z,cs,cs',_,q3,_⟩ | ⟨_,e,l,_,rfl⟩ | ⟨_,_,e,l,_,rfl⟩
  ·exact absurd q1 hn
  ·cases q3;rfl
  ·rfl
  ·rfl
end Go.Av
namespace Go.Av
open Go Go.RowKit
set_option linter.unusedVariables false
set_option linter.unusedSimpArgs false
def RG (D:List Nat):Code->Bool
 |.seq a b=>RG D a&&RG D b
 |.cond _ a b=>RG D a&&RG D b
 |.block _ c=>RG D c
 |.loop c=>RG D c
 |.region _ ops _=>ops.toList.all fun o=>match o.dst with
  |none=>true
  |some d=>D.any fun j=>Nat.beq j d
 |_=>true
theorem AX {D:List Nat} {T T':Nat->Prop} (h:∀t,T' t->t∉D\/T t):∀(c:Code),RG D c=true->Keeps T c->Keeps T' c
 |.seq a b,hd,hk=>by simp only[RG,Bool.and_eq_true]at hd;exact⟨AX h a hd.1 hk.1,AX h b hd.2 hk.2⟩
 |.cond _ a b,hd,hk=>by simp only[RG,Bool.and_eq_true]at hd;exact⟨AX h a hd.1 hk.1,AX h b hd.2 hk.2⟩
 |.block _ c,hd,hk=>AX h c hd hk
 |.loop c,hd,hk=>AX h c hd hk
 |.region _ ops _,hd,hk=>fun i o d hi ho ht=>by
  have h1:=List.all_eq_true.1 hd o (List.mem_of_getElem? (l:=ops.toList) (i:=i) (by simpa using hi))
  simp only[ho]at h1
  obtain⟨j,h2,h3⟩:=List.any_eq_true.1 h1
  have:=Nat.eq_of_beq_eq_true h3
  subst this
  rcases h j ht with h4 | h4
  ·exact h4 h2
  ·exact hk i o j hi ho h4
 |.skip,_,_ | .exit _,_,_ | .ret,_,_=>trivial
 |.label _,_,_ | .goto _,_,_ | .rangeFunc .., _,_ | .scope _,_,_ | .refuse _,_,_=>trivial
theorem ahL {M N:Mem} (hF:∀b,M.F b->N.F b) (hH:∀b,M.F b->N.H[b]? =M.H[b]?) {k:Nat} {d:Dt} (hb:∀e,d.1≠ .buf e) (hr:∀i,d.1≠ .rf i) {v:Value} (hs:aY M (encS k d.1 d.2) v):aY N (encS k d.1 d.2) v:=by
 obtain⟨s,x⟩:=d;cases s with
 |val e=>exact aY.dataAgg hF hH hs (Zv e x)
 |buf e=>exact absurd rfl (hb e)
 |rf i=>exact absurd rfl (hr i)
 |_=>exact hs.data hF hH rfl
theorem aev {hp:Nat->Option Ent}:∀ {fl:List Dt} {bs:List AV},O7 hp fl bs->∀i∈fZ iU (fl.map (·.1)) bs,∃e l,hp i=some ⟨false,.arr e l⟩
 |[],[],_,i,h=>by cases h
 |[],_::_,h,_,_=>h.elim
 |_::_,[],h,_,_=>h.elim
 |⟨s,x⟩::fl,a::bs,h,i,hi=>by
  rcases List.mem_append.1 (show i∈iU s a++fZ iU (fl.map (·.1)) bs from hi)with hi | hi
  ·cases s with
   |buf e=>
    rcases Bo h.1 with ⟨h1,_⟩ | ⟨id,h1,h2⟩
    ·subst h1;cases hi
    ·subst h1
     simp only[iU,List.mem_singleton]at hi
     subst hi
     exact⟨_,_,h2⟩
   |_=>cases a<;>cases hi
  ·exact aev h.2 i hi
theorem acy {M N:Mem} {hp:Nat->Option Ent} {ids:List Nat} (h1:∀j,M.hp j=hp j) (h2:∀j,N.hp j=over (freeze hp ids) M.hp j) (h3:∀i∈ids,hp i≠none):PY hp N.hp ids:=fun id=>by
 rw[h2,over,iy];by_cases hi:id∈ids
 ·rw[if_pos hi,if_pos hi];cases hh:hp id with
  |none=>exact absurd hh (h3 id hi)
  |some e=>rfl
 ·rw[if_neg hi,if_neg hi];exact h1 id
theorem aeI {s:LSh} {A:FS} {v:Tup s.vk} (h:s.decV A=some v):∀i∈fZ iU s.vk (s.vAV A)++(bK s.vh++bK s.vb),∃e,A.hp i=some e/\e.fz=false:=fun i hi=>by
 obtain⟨hW,hap,R⟩:=UK h;rcases List.mem_append.1 hi with hi | hi
 ·have hf:(flat s.vk v).map (·.1)=s.vk:=OW _ _
  obtain⟨e,l,h1⟩:=aev R.dec i (by rw[hf];exact hi);exact⟨_,h1,rfl⟩
 ·rcases List.mem_append.1 hi with hi | hi
  ·obtain⟨cs,h1⟩:=(XO hW).2 i hi;exact⟨_,h1,rfl⟩
  ·obtain⟨_,_,r3,r4⟩:=R.parts false (8*s.c0);obtain⟨e',he⟩:=r4 i hi;obtain⟨_,e,l,h1,_⟩:=r3 i e' he;exact⟨_,h1,rfl⟩
theorem Trk.refl {K:Nat->Prop} {M:Mem} {w:World} (h:jd M) (hH:M.H=w.heap) (hK:∀j,K j->M.U j):Trk K M w M w:=(Stp.refl h hH).trk hK
theorem amR {s:LSh} {A:FS} {p:Tup s.pk} (h:s.decP A=some p):A.clk<=s.c0/\IQ A.fr s.pl=true/\adx A.hp A.fr s.ps s.ph [] (flat s.pk p) (s.pAV A):=by
 unfold LSh.decP at h;cases hc:(Nat.ble A.clk s.c0&&IQ A.fr s.pl&&Ur A.hp s.ph)with
 |false=>simp [hc]at h
 |true=>
  simp only[hc,cond_true]at h;simp only[Bool.and_eq_true]at hc;refine⟨Nat.le_of_ble_eq_true hc.1.1,hc.1.2,Hy _ _ _ h,?_,hc.2,?_⟩
  ·simp [LSh.pAV,Wv]
  ·rw[OW];simp [LSh.pk,XG]
theorem ajp {s:LSh} {A A':FS} {p:Tup s.pk} {v:Tup s.vk} (hp:adx A.hp A.fr s.ps s.ph [] (flat s.pk p) (s.pAV A)) (hv:adx A'.hp A'.fr s.vs s.vh s.vb (flat s.vk v) (s.vAV A')) (hl:IQ A.fr s.pl=true) (t:Nat):
 (∃(j:Nat) (d:Dt),t∈bK s.ps/\(flat s.pk p)[j]? =some d/\(s.pAV A)[j]? =some (get A.fr t)/\get (s.st p v).fr t=encS (0+j) d.1 d.2)\/
 (t∈bK s.pl/\get (s.st p v).fr t=get A.fr t/\nc (get A.fr t))\/
 (∃(j:Nat) (d:Dt),(flat s.vk v)[j]? =some d/\(s.vAV A')[j]? =some (get A'.fr t)/\get (s.st p v).fr t=encS (8*s.c0+j) d.1 d.2)\/
 get (s.st p v).fr t= .undef:=by
 have he:(s.st p v).fr=X5 (bK s.ps) ((iD 0 (flat s.pk p)).take s.ps.length)++(s.pl++(X5 (bK s.vs) ((iD (8*s.c0) (flat s.vk v)).take s.vs.length)++[])):=by
  unfold LSh.st
  simp only[qA,List.append_nil]
 rw[he]
 rcases hp.slot 0 t (s.pl++(X5 (bK s.vs) ((iD (8*s.c0) (flat s.vk v)).take s.vs.length)++[]))with ⟨j,d,h0,h1,h2,h3⟩ | ⟨_,h1⟩
 ·exact .inl ⟨j,d,h0,h1,h2,h3⟩
 ·rw[h1]
  rcases X0 (X5 (bK s.vs) ((iD (8*s.c0) (flat s.vk v)).take s.vs.length)++[]) hl t with ⟨g1,g2,g3⟩ | ⟨_,g1⟩
  ·exact .inr (.inl ⟨g1,g2,g3⟩)
  ·rw[g1]
   rcases hv.slot (8*s.c0) t []with ⟨j,d,_,h1,h2,h3⟩ | ⟨_,h1⟩
   ·exact .inr (.inr (.inl ⟨j,d,h1,h2,h3⟩))
   ·rw[h1];exact .inr (.inr (.inr rfl))
end Go.Av
namespace Go.Av
open Go Go.RowKit
set_option linter.unusedVariables false
set_option linter.unusedSimpArgs false
theorem aa2 {s:Sh} {a:AV} (h:∀e,s≠ .buf e):iU s a=[]:=by
 cases s with
 |buf e=>exact absurd rfl (h e)
 |_=>cases a<;>rfl
theorem anf {s:LSh} {D:List Nat} (hg:s.good D=true) {A:FS} {p:Tup s.pk} {N0:Mem} {ids:List Nat} (hN:jd N0) (hfz:PY A.hp N0.hp ids) (R:adx A.hp A.fr s.ps s.ph [] (flat s.pk p) (s.pAV A))
 (hids:∀j∈Ai A.hp s.pk (s.pAV A),j∈ids):∀j e',look (mX true (split s.ph ((iD 0 (flat s.pk p)).drop s.ps.length)).1) j=some e'->
   ∃b c t fr cs' e0,e'=some ⟨true,.raw cs'⟩/\N0.β j=some b/\N0.H[b]? =some (.cells c t fr)/\E5 (.raw cs') c fr/\ace N0 cs' c/\N0.hp j=some e0/\dK e0 ⟨true,.raw cs'⟩:=by
 intro j e' hl
 obtain⟨hbuf,_,_,_⟩:=LSh.good_inv hg
 obtain⟨r1,_⟩:=R.parts true 0
 obtain⟨_,z,cs,cs',h1,rfl,h2,h3⟩:=r1 j e' hl
 obtain⟨z',g1,_⟩:=hfz.some h1
 have nb:∀(i:Nat) (d:Dt),(flat s.pk p)[i]? =some d->∀e,d.1≠ .buf e:=fun i d hd e=>hbuf i d.1 (lg hd) e
 cases hb:N0.β j with
 |none=>
  obtain⟨fz,t,h⟩:=hN.nob j _ g1 hb
  cases h
 |some b=>
  obtain⟨_,_,c,t,fr,k3,k4,⟨k5,k6⟩,k7⟩:=hN.is g1 hb
  refine⟨b,c,t,fr,cs',_,rfl,rfl,k3,k4,⟨by rw[k5,h2],k6,fun q hq hq'=> ?_⟩,g1,h2⟩
  have hqc:q<cs.length:=by rw[h2];exact hq
  have hsq:aY N0 cs[q] c[q]:=k7 q hqc hq'
  rcases h3 with h3 | ⟨i,e,x,q1,q2,q3⟩
  ·obtain⟨i,d,a,q1,q2,q3,q4⟩:=h3 q hqc
   rw[List.getElem?_eq_getElem hqc]at q3
   rw[List.getElem?_eq_getElem hq]at q4
   cases q3;rw[Option.some.inj q4]
   have hne:=nb i d q1
   have hsd:aY N0 (encS (0+i) d.1 d.2) c[q]:=aji hN hfz (fun x hx=>hids x (EQ _ (lg q1) q2 hx)) (fun x hx=>by rw[aa2 hne]at hx;cases hx) (fun _ h=>h) rfl (by
    obtain⟨sh,y⟩:=d
    cases sh with
    |buf e=>exact absurd rfl (hne e)
    |rf q=>exact absurd rfl ((LSh.good_rf hg).1 i _ (lg q1) q)
    |_=>trivial) hsq (R.dec.get i d _ q1 q2)
   refine⟨?_,hsd⟩
   obtain⟨sh,y⟩:=d
   cases sh with
   |buf e=>exact absurd rfl (hne e)
   |rf q=>exact absurd rfl ((LSh.good_rf hg).1 i _ (lg q1) q)
   |val e=>
    have h1c:=k6 q hq'
    have hsd:aY N0 (.agg (cells e y)) c[q]:=hsd
    generalize c[q]=val at hsd h1c
    cases hsd
    cases h1c
   |_=>rfl
  ·have hdec:=R.dec.get i _ _ q1 q2
   subst q3
   simp only[gG]at hdec
   obtain⟨hl,hw⟩:=vS e _ x hdec
   have hq2:q<(ig A.hp cs).1.length:=by rw[xI];exact hqc
   obtain⟨m1,m2⟩:=UY (hp:=A.hp) cs q hqc hq2
   have hsl:aY N0 (ig A.hp cs).1[q] c[q]:=by
    rw[m1,<-Kq hfz]
    refine Qu (hp:=N0.hp) (fun _ _ h=>h) (Le.refl N0) hN (fun id hid e0 he0=> ?_) hsq
    rw[Kq hfz]at hid
    have hin:id∈ids:=hids id (EQ (s:= .val e) _ (lg q1) q2 (m2 id hid))
    have:=hfz id
    rw[if_pos hin]at this
    rw[this]at he0 ⊢
    cases hh:A.hp id with
    |none=>simp [hh]at he0
    |some e1=>simp only[hh,Option.map_some,Option.some.injEq]at he0 ⊢; subst he0;rfl
   rw[<-lq _ _ hq2]at hsl
   have:=(hw q (by rw[<-hl];exact hq2)).sees hsl
   rw[lq _ _ hq]at this
   exact⟨by rw[<-lq _ _ hq];exact JM e x q (by rw[<-hl];exact hq2),this⟩
structure Hd (s:LSh) (p:Tup s.pk) (N0 V0:Mem) (w0:World) (T':Nat->Prop) (tm:Nat->Value) (nt:Nat) (v:Tup s.vk) (V:Mem) (w:World) (a:Act):Prop where
 trk:Trk (fun j=>j∈bK s.vh++bK s.vb) V0 w0 V w
 hp:∀j,V.hp j=FS.hp (s.st p v) j
 U:V.U=fun j=>j<8*(s.c0+s.vk.length)
 fr:∀t,aY V (get (s.st p v).fr t) (a.tmps.getD t undef)
 nc:∀t,nc (get (s.st p v).fr t)
 kp:∀t,T' t->a.tmps.getD t undef=tm t
 df:a.defers=[]
 nt:nt<=a.tmps.size
theorem le_head {s:LSh} {D:List Nat} (hg:s.good D=true) {p:Tup s.pk} {N0 V0:Mem} {w0:World} {σ0:Nat->Option Nat} (hH0:N0.H=w0.heap) (hN0U:∀id,N0.U id->id<8*s.c0) (vw0:View N0 V0 σ0) (hσ0:∀j,j∉bK s.ph->j<8*s.c0->σ0 j=some j)
 (PH:∀j e',look (mX true (split s.ph ((iD 0 (flat s.pk p)).drop s.ps.length)).1) j=some e'->∃b c t fr cs' e0,e'=some ⟨true,.raw cs'⟩/\N0.β j=some b/\N0.H[b]? =some (.cells c t fr)/\E5 (.raw cs') c fr/\ace N0 cs' c/\N0.hp j=some e0/\dK e0 ⟨true,.raw cs'⟩)
 (noOwn:∀j,j∈bK s.ph->∀b,N0.β j=some b->¬Own V0 b) {v:Tup s.vk} {V:Mem} {w:World} (trV:Trk (fun j=>j∈bK s.vh++bK s.vb) V0 w0 V w) (vp:∀j,V.hp j=FS.hp (s.st p v) j)
 (vU:V.U=fun j=>j<8*(s.c0+s.vk.length)) (vβ:∀j∈bK s.ph,V.β j=N0.β j) (vlo:∀j,V.hp j≠none->j<8*s.c0->j∈bK s.ph\/(j∈bK s.vh++bK s.vb)):Le N0 V:=by
 obtain⟨hbuf,hnd,hlt0,hps⟩:=LSh.good_inv hg
 have bnd:∀ {b:Nat} {o:Obj},N0.H[b]? =some o->b<w0.heap.size:=fun h=>by rw[<-hH0];exact(Array.getElem?_eq_some_iff.1 h).1
 have key:∀id e',N0.U id->V.hp id=some e'->(id∈bK s.ph/\∃cs' e0 b,e'=⟨true,.raw cs'⟩/\N0.β id=some b/\b<w0.heap.size/\N0.hp id=some e0/\dK e0 e'/\V.β id=N0.β id)\/
  (id∈bK s.vh++bK s.vb/\∃e0,N0.hp id=some e0/\dK e0 e'/\V.β id=N0.β id/\V0.β id=N0.β id):=fun id e' hU he=>by
  rcases vlo id (by rw[he];simp) (hN0U id hU)with h | h
  ·refine .inl ⟨h,?_⟩
   obtain⟨e1,he1⟩:=(zk true s.ph ((iD 0 (flat s.pk p)).drop s.ps.length) id).1 h
   obtain⟨b,c,t,fr,cs',e0,g1,g2,g3,g4,g5,g6,g7⟩:=PH id e1 he1
   have:V.hp id=some ⟨true,.raw cs'⟩:=by
    rw[vp,ah5];unfold over;rw[he1,g1]
   rw[he]at this;cases this
   exact⟨cs',e0,b,rfl,g2,bnd g3,g6,g7,vβ id h⟩
  ·refine .inr ⟨h,?_⟩
   obtain⟨e1,k1,k2,k3⟩:=trV.kept id e' h he
   have hs0:=hσ0 id (fun h'=>(uh hnd).2.2 id h' h) (hlt0 id (List.mem_append_right _ h))
   obtain⟨_,⟨q1,_⟩ | ⟨i,e0,q1,q2,q3,q4,q5⟩ | ⟨q1,_⟩⟩:=vw0.src id e1 k1
   ·rw[hs0]at q1;cases q1
   ·rw[hs0]at q1;cases q1
    exact⟨e0,q2,q5.form.trans k2,k3.trans q3,q3⟩
   ·rw[hs0]at q1;cases q1
 refine⟨fun id h=>by rw[vU];have:=hN0U id h;show _<_;omega,fun b h=>trV.F b ((vw0.F b).2 h),fun b h=>(trV.FH b ((vw0.F b).2 h)).trans (by rw[vw0.H]),fun id e' hU he=> ?_,fun id b n hU hne' hb hn=> ?_⟩
 ·rcases key id e' hU he with ⟨_,cs',e0,b,_,_,_,k1,k2,k3⟩ | ⟨_,e0,k1,k2,k3,_⟩
  ·exact⟨e0,k1,k2,k3⟩
  ·exact⟨e0,k1,k2,k3⟩
 ·cases he:V.hp id with
  |none=>exact absurd he hne'
  |some e'=>
   rcases key id e' hU he with ⟨k0,cs',e0,b',_,k1,k2,_⟩ | ⟨k0,e0,_,_,_,k4⟩
   ·rw[hb]at k1;cases k1
    unfold bsize at*
    rw[trV.H,trV.old b k2 (noOwn id k0 b hb),<-hH0];exact hn
   ·exact trV.ksz id b n k0 hne' (k4.trans hb) (by rw[vw0.H];exact hn)
theorem ao1 {s:LSh} {D:List Nat} (hg:s.good D=true) {A:FS} {p:Tup s.pk} {N0 V0:Mem} {w0:World} {σ0:Nat->Option Nat} {own0:List Nat} {T':Nat->Prop} {tm:Nat->Value} {nt:Nat}
 (hN0:jd N0) (hH0:N0.H=w0.heap) (hN0U:∀id,N0.U id->id<8*s.c0) (vw0:View N0 V0 σ0) (hσ0:∀j,j∉bK s.ph->j<8*s.c0->σ0 j=some j)
 (hσin:∀k i e1,V0.hp k=some e1->e1.fz=false->σ0 k=some i->i∈own0++(bK s.vh++bK s.vb)) (hp:adx A.hp A.fr s.ps s.ph [] (flat s.pk p) (s.pAV A)) (hpl:IQ A.fr s.pl=true)
 (PH:∀j e',look (mX true (split s.ph ((iD 0 (flat s.pk p)).drop s.ps.length)).1) j=some e'->∃b c t fr cs' e0,e'=some ⟨true,.raw cs'⟩/\N0.β j=some b/\N0.H[b]? =some (.cells c t fr)/\E5 (.raw cs') c fr/\ace N0 cs' c/\N0.hp j=some e0/\dK e0 ⟨true,.raw cs'⟩)
 (PHo:∀j,j∈bK s.ph->∀b,N0.β j=some b->∀i,i∈own0++(bK s.vh++bK s.vb)->N0.β i≠some b)
 (PS:∀(j:Nat) (d:Dt) (t:Nat),t∈bK s.ps->(flat s.pk p)[j]? =some d->(s.pAV A)[j]? =some (get A.fr t)->aY V0 (encS (0+j) d.1 d.2) (tm t))
 (PL:∀t,t∈bK s.pl->aY N0 (get A.fr t) (tm t)) (hT:∀t,t∉D->T' t)
 {v:Tup s.vk} {N:Mem} {w:World} {A':FS} {a:Act} (tr:Trk (fun j=>j∈bK s.vh++bK s.vb) V0 w0 N w) (hKU:∀j,j∈bK s.vh++bK s.vb->N.U j) (hNp:∀j,N.hp j=A'.hp j) (hv:s.decV A'=some v)
 (hfr:∀t,aY N (get A'.fr t) (a.tmps.getD t undef)) (hkp:∀t,T' t->a.tmps.getD t undef=tm t) (hdf:a.defers=[]) (hnt:nt<=a.tmps.size):
 ∃V,Hd s p N0 V0 w0 T' tm nt v V w a:=by
 obtain⟨hbuf,hnd,hlt0,hps⟩:=LSh.good_inv hg
 obtain⟨hW,hap,R⟩:=UK hv
 obtain⟨hdup,hdis⟩:=Dv hap
 have hne:=KZ A'.hp s.vk (s.vAV A')
 obtain⟨N',st,h1,h2,h3,h4⟩:=yY (w:=w) (hp:=A'.hp) (fun id e h=>by rw[hNp];exact h) tr.hrel tr.H (Ai A'.hp s.vk (s.vAV A')) hne
 have hfz:=acy hNp h1 hne
 have trN':Trk (fun j=>j∈bK s.vh++bK s.vb) V0 w0 N' w:=tr.trans (st.trk hKU)
 have bnd:∀ {b:Nat} {o:Obj},N0.H[b]? =some o->b<w0.heap.size:=fun h=>by rw[<-hH0];exact(Array.getElem?_eq_some_iff.1 h).1
 have noOwn:∀j,j∈bK s.ph->∀b,N0.β j=some b->¬Own V0 b:=fun j hj b hb ho=>by
  obtain⟨k,e1,i,e,k1,k2,k3,k4,k5,k6⟩:=vw0.own ho
  exact PHo j hj b hb i (hσin k i e1 k1 k2 k3) k6
 have F0:∀b,N0.F b->N'.F b:=fun b h=>trN'.F b ((vw0.F b).2 h)
 have FH0:∀b,N0.F b->N'.H[b]? =N0.H[b]? :=fun b h=>(trN'.FH b ((vw0.F b).2 h)).trans (by rw[vw0.H])
 have stay:∀j,j∈bK s.ph->∀b,N0.β j=some b->b<w0.heap.size->N'.H[b]? =N0.H[b]? :=fun j hj b hb hlt=>by
  rw[trN'.H,trN'.old b hlt (noOwn j hj b hb),<-hH0]
 have inph:∀j e',look (mX true (split s.ph ((iD 0 (flat s.pk p)).drop s.ps.length)).1) j=some e'->j∈bK s.ph:=fun j e' h=>by
  by_cases hj:j∈bK s.ph
  ·exact hj
  ·rw[(zk true _ _ j).2 hj]at h;cases h
 obtain⟨V,σ,vw,vp,vU,vβ,vσ,seen,σin,vlo,_⟩:=ai0 hg (p:=p) (N':=N') (A':=A') trN'.hrel hfz hv (fun j hj=>hj) (fun j hj hm=>hdis j hj (Et _ _ _ j hm)) N0.β (fun j e' hl=>by
  obtain⟨b,c,t,fr,cs',e0,g1,g2,g3,g4,g5,_⟩:=PH j e' hl
  refine⟨b,c,t,fr,cs',g1,g2,(stay j (inph j e' hl) b g2 (bnd g3)).trans g3,g4,(g5.is F0 FH0).2,fun i hi hb=> ?_⟩
  obtain⟨e,k1,k2⟩:=aeI hv i hi
  have hno:i∉Ai A'.hp s.vk (s.vAV A'):=fun hm=>by
   refine hdis i ?_ (Et _ _ _ i hm)
   rcases List.mem_append.1 hi with h | h
   ·exact List.mem_append_left _ h
   ·refine List.mem_append_right _ ?_
    rcases List.mem_append.1 h with h | h
    ·exact List.mem_append_left _ h
    ·exact List.mem_append_right _ (List.mem_append_left _ h)
  have hNi:N'.hp i=some e:=by rw[hfz i,if_neg hno];exact k1
  rcases trN'.own b ⟨i,e,hNi,k2,hb⟩with h | h
  ·exact noOwn j (inph j e' hl) b g2 h
  ·have:=bnd g3;omega) (Us:=fun j=>j<8*(s.c0+s.vk.length)) (fun j hj=>by
  rcases hj with h | h | h
  ·have:=hlt0 j (List.mem_append_left _ h);show _<_;omega
  ·have:=hlt0 j (List.mem_append_right _ h);show _<_;omega
  ·exact h.2)
 have hKσ:∀j,j∈bK s.vh++bK s.vb->σ j=some j:=fun j hj=>vσ j (fun h=>(uh hnd).2.2 j h hj) (hlt0 j (List.mem_append_right _ hj))
 have trV:Trk (fun j=>j∈bK s.vh++bK s.vb) V0 w0 V w:=trN'.trans (vw.trk trN'.hrel trN'.H hKσ)
 have le:Le N0 V:=le_head hg hH0 hN0U vw0 hσ0 PH noOwn trV vp vU vβ vlo
 have F1:∀b,V0.F b->V.F b:=trV.F
 have FH1:∀b,V0.F b->V.H[b]? =V0.H[b]? :=trV.FH
 refine⟨V,trV,vp,vU,fun t=> ?_,fun t=> ?_,hkp,hdf,hnt⟩
 ·rcases ajp hp R hpl t with ⟨j,d,g1,g2,g3,g4⟩ | ⟨g1,g2,g3⟩ | ⟨j,d,g1,g2,g3⟩ | g1
  ·rw[g4,hkp t (hT t (hps t (.inl g1)))]
   exact ahL F1 FH1 (hbuf j d.1 (lg g2)) ((LSh.good_rf hg).1 j d.1 (lg g2)) (PS j d t g1 g2 g3)
  ·rw[g2,hkp t (hT t (hps t (.inr g1)))]
   exact(PL t g1).le le
  ·rw[g3]
   exact seen j d _ g1 g2 _ ((hfr t).le st.le)
  ·rw[g1];exact .undef _
 ·rcases ajp hp R hpl t with ⟨j,d,g1,g2,g3,g4⟩ | ⟨g1,g2,g3⟩ | ⟨j,d,g1,g2,g3⟩ | g1
  ·rw[g4];exact YB _ _
  ·rw[g2];exact g3
  ·rw[g3];exact YB _ _
  ·rw[g1];trivial
end Go.Av
namespace Go.Av
open Go Go.RowKit
set_option linter.unusedVariables false
set_option linter.unusedSimpArgs false
theorem NC {α:Type} (d:List Nat):∀(l:List (Nat×α)) (k:Nat),look (strike d l) k=if k∈d then none else look l k
 |[],k=>by simp [strike,look]
 |(i,a)::r,k=>by
  rw[strike]
  cases h:d.any (fun j=>Nat.beq i j)with
  |true=>
   obtain⟨j,h1,h2⟩:=List.any_eq_true.1 h
   have:=Nat.eq_of_beq_eq_true h2
   subst this
   simp only[cond_true,NC d r k,look]
   by_cases hk:k∈d
   ·simp [hk]
   ·have:Nat.beq i k=false:=eP fun e=>hk (e▸h1)
    simp [this]
  |false=>
   simp only[cond_false,look,NC d r k]
   cases hb:Nat.beq i k with
   |true=>
    have:=Nat.eq_of_beq_eq_true hb
    subst this
    have hn:i∉d:=fun hi=>by
     have:d.any (fun j=>Nat.beq i j)=true:=List.any_eq_true.2 ⟨i,hi,by simp⟩
     rw[this]at h;cases h
    simp [hn]
   |false=>simp
theorem aiF (d:List Nat) (l:List (Nat×AV)) (t:Nat):get (strike d l) t=if t∈d then .undef else get l t:=by
 unfold get;rw[NC];by_cases h:t∈d
 ·simp [h]
 ·simp [h]
def vK.asH (o:vK) (c:Nat):LSh:=⟨c,[],[],[],o.os,o.oh,o.ob⟩
def vK.good (s:LSh) (o:vK):Bool:=(o.k.all fun h=>match h with | .rf i=>(bK o.ob).any fun j=>Nat.beq i j | _=>true)&&Nu (bK o.oh++bK o.ob)&&(bK o.oh++bK o.ob).all fun i=>(bK s.vh++bK s.vb).any fun j=>Nat.beq j i
theorem vK.good_inv {s:LSh} {o:vK} (h:o.good s=true):Nu (bK o.oh++bK o.ob)=true/\∀i∈bK o.oh++bK o.ob,i∈bK s.vh++bK s.vb:=by
 unfold vK.good at h;simp only[Bool.and_eq_true]at h;refine⟨h.1.2,fun i hi=> ?_⟩;have:=List.all_eq_true.1 h.2 i hi;obtain⟨j,h1,h2⟩:=List.any_eq_true.1 this;have:=Nat.eq_of_beq_eq_true h2;exact this▸h1
theorem vK.good_rf {s:LSh} {o:vK} (h:o.good s=true):(o.k.all fun h=>match h with | .rf i=>(bK o.ob).any fun j=>Nat.beq i j | _=>true)=true:=by
 unfold vK.good at h;simp only[Bool.and_eq_true]at h;exact h.1.1
theorem vK.dec_asH {o:vK} {c:Nat} {A:FS} {x:Tup o.k} (h:o.dec A=some x):(o.asH c).decV A=some x:=by
 have h1:(o.asH c).decV A=o.dec A:=by
  unfold LSh.decV vK.dec;simp only[vK.asH,bK,List.append_nil]
  rfl
 rw[h1];exact h
theorem aeE {a b:Ex} (h:Y3 a b=true):a=b:=by
 cases a<;>cases b<;>simp [Y3]at h<;>first | rfl | (have:=Nat.eq_of_beq_eq_true (by simpa using h);subst this;rfl)
theorem agr {τ:Type} (D H fz:List Nat) (c:Nat) (A:FS):∀(os:List vK) (e:Ex) (A':FS) (x:adF os),ac6 os e A'=some x->
 ∃o∈os,∃x':Tup o.k,o.ex=e/\o.dec A'=some x'/\∀(F:Ex->FS->Option τ),apv D H fz c A F os x=F e (o.st D H fz c A x')
 |[],e,A',x,h=>by simp [ac6]at h
 |[o],e,A',x,h=>by
  simp only[ac6]at h
  cases hs:Y3 o.ex e with
  |false=>simp [hs]at h
  |true=>
   simp only[hs,cond_true]at h
   have:=aeE hs
   subst this
   exact⟨o,List.mem_cons_self,x,rfl,h,fun F=>rfl⟩
 |o::q::r,e,A',x,h=>by
  rw[ac6]at h
  cases hs:Y3 o.ex e with
  |true=>
   simp only[hs,cond_true]at h
   cases hd:o.dec A' with
   |none=>simp [hd]at h
   |some x'=>
    simp only[hd,Option.some.injEq]at h
    subst h
    have:=aeE hs
    subst this
    exact⟨o,List.mem_cons_self,x',rfl,hd,fun F=>rfl⟩
  |false=>
   simp only[hs,cond_false]at h
   cases hd:ac6 (q::r) e A' with
   |none=>simp [hd]at h
   |some x'=>
    simp only[hd,Option.some.injEq]at h
    subst h
    obtain⟨o',h1,x2,h2,h3,h4⟩:=agr (τ:=τ) D H fz c A (q::r) e A' x' hd
    exact⟨o',List.mem_cons_of_mem _ h1,x2,h2,h3,fun F=>by rw[<-h4 F];rfl⟩
theorem ant {o:vK} {D H fz:List Nat} {c:Nat} {A:FS} {x:Tup o.k} (j:Nat):FS.hp (o.st D H fz c A x) j=
 over (mX false (split o.oh ((iD (8*c) (flat o.k x)).drop o.os.length)).1) (over (qX o.ob (split o.oh ((iD (8*c) (flat o.k x)).drop o.os.length)).2) (over (yU (8*c) (flat o.k x))
  (over (freeze A.hp fz) (fun j=>if j∈H then none else A.hp j)))) j:=by
 unfold vK.st
 generalize freeze A.hp fz=G
 unfold FS.hp over
 simp only[qA,yC,IC,NC]
 cases look (mX false (split o.oh ((iD (8*c) (flat o.k x)).drop o.os.length)).1) j with
 |some e=>rfl
 |none=>
  simp only
  cases look (qX o.ob (split o.oh ((iD (8*c) (flat o.k x)).drop o.os.length)).2) j with
  |some e=>rfl
  |none=>
   simp only
   cases look (yU (8*c) (flat o.k x)) j with
   |some e=>rfl
   |none=>
    simp only
    cases look G j with
    |some e=>rfl
    |none=>
     simp only
     by_cases h:j∈H
     ·simp [h]
     ·simp [h]
theorem OQ {u:List (Nat×Option Ent)} {h h':Nat->Option Ent} {j:Nat}:(∃e,look u j=some e/\over u h j=e/\over u h' j=e)\/(look u j=none/\over u h j=h j/\over u h' j=h' j):=by
 unfold over;cases hl:look u j with
 |some e=>exact .inl ⟨e,rfl,rfl,rfl⟩
 |none=>exact .inr ⟨rfl,rfl,rfl⟩
theorem anR {s:LSh} {D:List Nat} (hg:s.good D=true) {o:vK} (hgo:o.good s=true) {B:Bse} {M:Mem} {A:FS} {a0:Act} {w0:World} (hB:JB B) (R:Rel B M A a0 w0) (hclk:A.clk<=s.c0)
 {N0 V0:Mem} {σ0:Nat->Option Nat} {H fz ids0:List Nat} (st0:Stp M w0 N0 w0) (hN0U:N0.U=M.U) (hN0β:N0.β=M.β) (hfz0:PY A.hp N0.hp ids0) (hids:∀i,i∈ids0↔i∈fz/\A.hp i≠none) (hHfz:∀i∈H,i∉fz)
 (vw0:View N0 V0 σ0) (hσ0:∀j,j∉bK s.ph->j<8*s.c0->σ0 j=some j) (hσin:∀k i e1,V0.hp k=some e1->e1.fz=false->σ0 k=some i->i∈H) (hHv:∀i,i∈bK s.vh++bK s.vb->i∈H/\A.hp i≠none)
 {T':Nat->Prop} (hT:∀t,t∉D->T' t) (hTB:∀t,B.T t->T' t)
 {N:Mem} {w:World} {A':FS} {a:Act} {x:Tup o.k} (tr:Trk (fun j=>j∈bK s.vh++bK s.vb) V0 w0 N w) (hKU:∀j,j∈bK s.vh++bK s.vb->N.U j) (hNp:∀j,N.hp j=A'.hp j) (hx:o.dec A'=some x)
 (hfr:∀t,aY N (get A'.fr t) (a.tmps.getD t undef)) (hkp:∀t,T' t->a.tmps.getD t undef=a0.tmps.getD t undef) (hdf:a.defers=[]) (hnt:B.nt<=a.tmps.size):
 ∃Nf,Rel B Nf (o.st D H fz (s.c0+s.vk.length) A x) a w:=by
 obtain⟨hbuf,hnd,hlt0,hps⟩:=LSh.good_inv hg
 obtain⟨hndo,hsub⟩:=vK.good_inv hgo
 have hv:=vK.dec_asH (c:=s.c0+s.vk.length) hx
 obtain⟨hW,hap,Rv⟩:=UK hv
 obtain⟨hdup,hdis⟩:=Dv hap
 obtain⟨c',hc'⟩:∃c',c'=s.c0+s.vk.length:=⟨_,rfl⟩
 rw[<-hc']at hv hW hap Rv hdup hdis ⊢
 have hc0:s.c0<=c':=by omega
 have hinV:∀j,j∈bK s.vh++bK s.vb->j<8*s.c0:=fun j hj=>hlt0 j (List.mem_append_right _ hj)
 have hM:=R.stp.hrel
 have hMH:=R.stp.H
 have hMF:=R.F hB
 have hN0Ulo:∀id,N0.U id->id<8*s.c0:=fun id h=>by
  rw[hN0U]at h
  rcases R.ub id h with h | ⟨_,h⟩
  ·have:=hB.U id h;have:=R.clk;omega
  ·omega
 have hne:=KZ A'.hp (o.asH c').vk ((o.asH c').vAV A')
 obtain⟨N',st,h1,h2,h3,h4⟩:=yY (w:=w) (hp:=A'.hp) (fun id e h=>by rw[hNp];exact h) tr.hrel tr.H (Ai A'.hp (o.asH c').vk ((o.asH c').vAV A')) hne
 have hfz:=acy hNp h1 hne
 have trN':Trk (fun j=>j∈bK s.vh++bK s.vb) V0 w0 N' w:=tr.trans (st.trk hKU)
 have hgo':(o.asH c').good []=true:=by
  unfold LSh.good
  simp only[Bool.and_eq_true]
  refine⟨⟨⟨⟨⟨vK.good_rf hgo,rfl⟩,rfl⟩,hndo⟩,?_⟩,rfl⟩
  refine List.all_eq_true.2 fun i hi=> ?_
  have:=hinV i (hsub i hi)
  have:i<8*c':=by omega
  simpa [vK.asH,Nat.blt_eq] using this
 obtain⟨V,σ,vw,vp,vU,vβ,vσ,seen,σin,vlo,vfz⟩:=ai0 (s:=o.asH c') hgo' (p:=()) (N':=N') (A':=A') trN'.hrel hfz hv (fun j hj=>hj) (fun j hj hm=>hdis j hj (Et _ _ _ j hm)) (fun _=>none)
  (fun j e' hl=>by cases hl) (Us:=fun j=>j∈bK o.oh++bK o.ob\/(8*c'<=j/\j<8*(c'+o.k.length))) (fun j hj=>by
    rcases hj with h | h | h
    ·cases h
    ·exact .inl h
    ·exact .inr h)
 have hKσ:∀j,j∈bK s.vh++bK s.vb->σ j=some j:=fun j hj=>vσ j (fun h=>by cases h) (by have:=hinV j hj;show j<8*c';omega)
 have trV:Trk (fun j=>j∈bK s.vh++bK s.vb) V0 w0 V w:=trN'.trans (vw.trk trN'.hrel trN'.H hKσ)
 have vpo:∀j,V.hp j=over (mX false (split o.oh ((iD (8*c') (flat o.k x)).drop o.os.length)).1) (over (qX o.ob (split o.oh ((iD (8*c') (flat o.k x)).drop o.os.length)).2) (over (yU (8*c') (flat o.k x)) (fun _=>none))) j:=fun j=>by
  rw[vp];exact ah5 (s:=o.asH c') () x j
 have base:∀j e',over (freeze A.hp fz) (fun j=>if j∈H then none else A.hp j) j=some e'->j∉H/\N0.hp j=some e':=fun j e' he=>by
  unfold over at he
  rw[iy]at he
  by_cases hj:j∈fz
  ·rw[if_pos hj]at he
   cases hA:A.hp j with
   |none=>simp [hA]at he
   |some e=>
    simp only[hA,Option.some.injEq]at he
    subst he
    refine⟨fun hh=>hHfz j hh hj,?_⟩
    rw[hfz0 j,if_pos ((hids j).2 ⟨hj,by rw[hA];simp⟩),hA];rfl
  ·rw[if_neg hj]at he
   simp only at he
   by_cases hh:j∈H
   ·rw[if_pos hh]at he;cases he
   ·rw[if_neg hh]at he
    refine⟨hh,?_⟩
    rw[hfz0 j,if_neg (fun h=>hj ((hids j).1 h).1)];exact he
 have split2:∀j e',FS.hp (o.st D H fz c' A x) j=some e'->V.hp j=some e'\/(V.hp j=none/\j∉H/\N0.hp j=some e'):=fun j e' he=>by
  rw[ant]at he
  rw[vpo]
  rcases OQ (u:=mX false (split o.oh ((iD (8*c') (flat o.k x)).drop o.os.length)).1) (j:=j)
   (h:=over (qX o.ob (split o.oh ((iD (8*c') (flat o.k x)).drop o.os.length)).2) (over (yU (8*c') (flat o.k x)) (over (freeze A.hp fz) (fun j=>if j∈H then none else A.hp j))))
   (h':=over (qX o.ob (split o.oh ((iD (8*c') (flat o.k x)).drop o.os.length)).2) (over (yU (8*c') (flat o.k x)) (fun _=>none)))with ⟨e,_,k1,k2⟩ | ⟨_,k1,k2⟩
  ·rw[k1]at he;subst he;exact .inl k2
  ·rw[k1]at he;rw[k2]
   rcases OQ (u:=qX o.ob (split o.oh ((iD (8*c') (flat o.k x)).drop o.os.length)).2) (j:=j)
    (h:=over (yU (8*c') (flat o.k x)) (over (freeze A.hp fz) (fun j=>if j∈H then none else A.hp j))) (h':=over (yU (8*c') (flat o.k x)) (fun _=>none))with ⟨e,_,k1,k2⟩ | ⟨_,k1,k2⟩
   ·rw[k1]at he;subst he;exact .inl k2
   ·rw[k1]at he;rw[k2]
    rcases OQ (u:=yU (8*c') (flat o.k x)) (j:=j) (h:=over (freeze A.hp fz) (fun j=>if j∈H then none else A.hp j)) (h':=fun _=>none)with ⟨e,_,k1,k2⟩ | ⟨_,k1,k2⟩
    ·rw[k1]at he;subst he;exact .inl k2
    ·rw[k1]at he;rw[k2]
     exact .inr ⟨rfl,base j e' he⟩
 have join:∀j e',V.hp j=some e'->FS.hp (o.st D H fz c' A x) j=some e':=fun j e' he=>by
  rw[ant]
  rw[vpo]at he
  rcases OQ (u:=mX false (split o.oh ((iD (8*c') (flat o.k x)).drop o.os.length)).1) (j:=j)
   (h:=over (qX o.ob (split o.oh ((iD (8*c') (flat o.k x)).drop o.os.length)).2) (over (yU (8*c') (flat o.k x)) (over (freeze A.hp fz) (fun j=>if j∈H then none else A.hp j))))
   (h':=over (qX o.ob (split o.oh ((iD (8*c') (flat o.k x)).drop o.os.length)).2) (over (yU (8*c') (flat o.k x)) (fun _=>none)))with ⟨e,_,k1,k2⟩ | ⟨_,k1,k2⟩
  ·rw[k2]at he;subst he;exact k1
  ·rw[k2]at he;rw[k1]
   rcases OQ (u:=qX o.ob (split o.oh ((iD (8*c') (flat o.k x)).drop o.os.length)).2) (j:=j)
    (h:=over (yU (8*c') (flat o.k x)) (over (freeze A.hp fz) (fun j=>if j∈H then none else A.hp j))) (h':=over (yU (8*c') (flat o.k x)) (fun _=>none))with ⟨e,_,k1,k2⟩ | ⟨_,k1,k2⟩
   ·rw[k2]at he;subst he;exact k1
   ·rw[k2]at he;rw[k1]
    rcases OQ (u:=yU (8*c') (flat o.k x)) (j:=j) (h:=over (freeze A.hp fz) (fun j=>if j∈H then none else A.hp j)) (h':=fun _=>none)with ⟨e,_,k1,k2⟩ | ⟨_,k1,k2⟩
    ·rw[k2]at he;subst he;exact k1
    ·rw[k2]at he;cases he
 obtain⟨Nf,hNf⟩:∃Nf:Mem,Nf={ U:=fun j=>N0.U j\/(8*c'<=j/\j<8*(c'+o.k.length)),F:=V.F,β:=(fun j=>match V.hp j with | some _=>V.β j | none=>N0.β j),hp:=FS.hp (o.st D H fz c' A x),H:=w.heap }:=⟨_,rfl⟩
 have fU:∀j,Nf.U j↔N0.U j\/(8*c'<=j/\j<8*(c'+o.k.length)):=fun j=>by rw[hNf]
 have fF:∀b,Nf.F b↔V.F b:=fun b=>by rw[hNf]
 have fβ1:∀j e,V.hp j=some e->Nf.β j=V.β j:=fun j e h=>by rw[hNf];simp only[h]
 have fβ2:∀j,V.hp j=none->Nf.β j=N0.β j:=fun j h=>by rw[hNf];simp only[h]
 have fp:∀j,Nf.hp j=FS.hp (o.st D H fz c' A x) j:=fun j=>by rw[hNf]
 have fH:Nf.H=w.heap:=by rw[hNf]
 clear hNf
 have vin:∀j e,V.hp j=some e->(j∈bK o.oh++bK o.ob)\/8*c'<=j:=fun j e he=>by
  rcases Nat.lt_or_ge j (8*c')with h | h
  ·rcases vlo j (by rw[he];simp) h with h | h
   ·cases h
   ·exact .inl h
  ·exact .inr h
 have usedV:∀j,j∈bK s.vh++bK s.vb->N0.U j:=fun j hj=>by
  cases hA:A.hp j with
  |none=>exact absurd hA (hHv j hj).2
  |some e=>rw[hN0U];exact hM.used j e (by rw[R.hp];exact hA)
 have leV:Le V Nf:=by
  have key:∀id e',V.U id->Nf.hp id=some e'->V.hp id=some e':=fun id e' hU he=>by
   rw[fp]at he
   rcases split2 id e' he with h | ⟨_,h1,h2⟩
   ·exact h
   ·rw[vU]at hU
    rcases hU with hU | hU
    ·exact absurd (hHv id (hsub id hU)).1 h1
    ·have:=hN0Ulo id (st0.hrel.used id e' h2);omega
  refine⟨fun id hU=>(fU id).2 ?_,fun b h=>(fF b).2 h,fun b _=>by rw[fH,trV.H],fun id e' hU he=> ?_,fun id b n _ _ _ hn=>by rw[fH,<-trV.H];exact hn⟩
  ·rw[vU]at hU
   rcases hU with hU | hU
   ·exact .inl (usedV id (hsub id hU))
   ·exact .inr hU
  ·have h:=key id e' hU he
   exact⟨e',h,dK.refl _,fβ1 id e' h⟩
 have stf:Stp M w0 Nf w:=merge (ρ:=fun j=>match V.hp j with | some _=>some j | none=>none) hM hMH hMF st0 vw0 trV (fun id h=>(fU id).2 (.inl h)) fH fF (fun j e' he=>by
  rw[fp]at he
  rcases split2 j e' he with h | ⟨h1,h2,h3⟩
  ·refine⟨(fU j).2 ?_,.inl ⟨j,e',by simp only[h],h,fβ1 j e' h,⟨rfl,vfz j e' h (fun hm=>by cases hm)⟩,?_⟩⟩
   ·rcases vin j e' h with hh | hh
    ·exact .inl (usedV j (hsub j hh))
    ·have:=(vw.src j e' h).1
     rw[vU]at this
     rcases this with h' | h'
     ·exact .inl (usedV j (hsub j h'))
     ·exact .inr h'
   ·obtain⟨f,b⟩:=e'
    cases b with
    |arr t l=>rfl
    |raw cs=>exact⟨rfl,fun k v _ _ hs=>hs.le leV⟩
  ·refine⟨(fU j).2 (.inl (st0.hrel.used j e' h3)),.inr (.inl ⟨by simp only[h1],h3,fβ2 j h1,fun _ k e1 hk hf hs=>h2 (hσin k j e1 hk hf hs)⟩)⟩) (fun j q hq=>by
  cases h:V.hp j with
  |none=>simp only[h]at hq;cases hq
  |some e=>
   simp only[h]at hq
   cases hq
   rcases vin j e h with hh | hh
   ·exact .inr ⟨hsub j hh,hσ0 j (fun hp=>(uh hnd).2.2 j hp (hsub j hh)) (hinV j (hsub j hh))⟩
   ·exact .inl fun hU=>by have:=hN0Ulo j hU;omega) (fun j j' q e h1 h2 _ _=>by
  cases h:V.hp j with
  |none=>simp only[h]at h1;cases h1
  |some e=>
   simp only[h]at h1
   cases h1
   cases h':V.hp j' with
   |none=>simp only[h']at h2;cases h2
   |some e'=>
    simp only[h']at h2
    cases h2;rfl)
 have slots:∀t,(∃(j:Nat) (d:Dt),(flat o.k x)[j]? =some d/\((o.asH c').vAV A')[j]? =some (get A'.fr t)/\get (o.st D H fz c' A x).fr t=encS (8*c'+j) d.1 d.2)\/(get (o.st D H fz c' A x).fr t=if t∈D then .undef else get A.fr t):=fun t=>by
  have he:(o.st D H fz c' A x).fr=X5 (bK o.os) ((iD (8*c') (flat o.k x)).take o.os.length)++strike D A.fr:=by
   unfold vK.st
   simp only[qA]
  rw[he]
  rcases Rv.slot (8*c') t (strike D A.fr)with ⟨j,d,_,h1,h2,h3⟩ | ⟨_,h1⟩
  ·exact .inl ⟨j,d,h1,h2,h3⟩
  ·refine .inr ?_
   rw[<-aiF]
   exact h1
 refine⟨Nf,R.stp.trans stf hB.rel hB.H,fun t=> ?_,fp,hdf,hnt,fun t ht=>(hkp t (hTB t ht)).trans (R.kp t ht),fun id hU=> ?_,fun t c j x' g v' hc=> ?_,?_⟩
 ·rcases slots t with ⟨j,d,h1,h2,h3⟩ | h
  ·rw[h3]
   exact(seen j d _ h1 h2 _ ((hfr t).le st.le)).le leV
  ·rw[h]
   by_cases hD:t∈D
   ·rw[if_pos hD];exact .undef _
   ·rw[if_neg hD,hkp t (hT t hD)]
    exact(R.fr t).le stf.le
 ·have:=R.clk
  show _\/(_/\id<8*(c'+o.k.length))
  rcases(fU id).1 hU with h | h
  ·rw[hN0U]at h
   rcases R.ub id h with h | h
   ·exact .inl h
   ·exact .inr ⟨h.1,by omega⟩
  ·exact .inr ⟨by omega,h.2⟩
 ·show _/\c<c'+o.k.length
  rcases slots t with ⟨j',d,h1,h2,h3⟩ | h
  ·have:=YB (8*c'+j') d
   rw[<-h3,hc]at this
   exact this.elim
  ·rw[h]at hc
   by_cases hD:t∈D
   ·rw[if_pos hD]at hc;cases hc
   ·rw[if_neg hD]at hc
    obtain⟨k1,k2⟩:=R.cond t c j x' g v' hc
    exact⟨k1,by omega⟩
 ·show B.cb<=c'+o.k.length
  have:=R.clk;omega
end Go.Av
namespace Go.Av
open Go Go.RowKit
set_option linter.unusedVariables false
set_option linter.unusedSimpArgs false
theorem arA {C:Cx} (K:CxR C) {s:LSh} {os:List vK} {D:List Nat} {step:Tup s.pk->Tup s.vk->Option (Tup s.vk ⊕ adF os)} {pf pos n:Nat} {c:Code} (hg:s.good D=true) (hgo:os.all (vK.good s)=true)
 (hat:At C.P pf pos (.loop c)) (L:qp C pf (2*pos)) (hD:RG D c=true) (hstep:∀p v r,step p v=some r->aeN C n pf pos c s os p v=some r):alL C.P pf c (s.spec os D step):=by
 intro τ y B M A a0 w0 pv wv F Q hB hnt hkp R hdec hrun hout hQ
 obtain⟨p,v0⟩:Tup s.pk×Tup s.vk:=pv
 have hdec:(match s.decP A with
  |none=>none
  |some p=>match s.decV A with
   |none=>none
   |some v=>bif !inter (fZ KW s.pk (s.pAV A)) (fZ iU s.vk (s.vAV A)++(bK s.vh++(bK s.vb++bK s.ph)))then some (p,v)else none)=some (p,v0):=hdec
 cases hdp:s.decP A with
 |none=>simp [hdp]at hdec
 |some p'=>
 cases hdv:s.decV A with
 |none=>simp [hdp,hdv]at hdec
 |some v'=>
 cases hin:inter (fZ KW s.pk (s.pAV A)) (fZ iU s.vk (s.vAV A)++(bK s.vh++(bK s.vb++bK s.ph)))with
 |true=>simp [hdp,hdv,hin]at hdec
 |false=>
 simp only[hdp,hdv,hin,Bool.not_false,cond_true,Option.some.injEq,Prod.mk.injEq]at hdec
 obtain⟨rfl,rfl⟩:=hdec
 obtain⟨hclk,hpl,Rp⟩:=amR hdp
 obtain⟨hW,hap,Rv⟩:=UK hdv
 obtain⟨hdup,hdis⟩:=Dv hap
 obtain⟨hbuf,hnd,hlt0,hps⟩:=LSh.good_inv hg
 have hM:=R.stp.hrel
 have hMH:=R.stp.H
 obtain⟨fz,hfzd⟩:∃fz,fz=fZ KW s.pk (s.pAV A)++fZ KW s.vk (s.vAV A):=⟨_,rfl⟩
 obtain⟨H,hHd⟩:∃H,H=fZ iU s.vk (s.vAV A)++(bK s.vh++bK s.vb):=⟨_,rfl⟩
 obtain⟨ids0,hidsd⟩:∃ids0,ids0=fz.filter fun i=>(A.hp i).isSome:=⟨_,rfl⟩
 have hids:∀i,i∈ids0↔i∈fz/\A.hp i≠none:=fun i=>by
  rw[hidsd,List.mem_filter]
  cases A.hp i<;>simp
 have hall:∀j∈fZ iU s.vk (s.vAV A)++(bK s.vh++(bK s.vb++bK s.ph)),j∉fz:=fun j hj hm=>by
  rw[hfzd]at hm
  rcases List.mem_append.1 hm with hm | hm
  ·exact Px hin hm hj
  ·exact hdis j hj hm
 have hHsub:∀j∈H,j∈fZ iU s.vk (s.vAV A)++(bK s.vh++(bK s.vb++bK s.ph)):=fun j hj=>by
  rw[hHd]at hj
  rcases List.mem_append.1 hj with h | h
  ·exact List.mem_append_left _ h
  ·refine List.mem_append_right _ ?_
   rcases List.mem_append.1 h with h | h
   ·exact List.mem_append_left _ h
   ·exact List.mem_append_right _ (List.mem_append_left _ h)
 obtain⟨N0,st0,h0p,h0U,h0β,h0H⟩:=yY (w:=w0) (hp:=A.hp) (fun id e h=>by rw[R.hp];exact h) hM hMH ids0 fun i hi=>((hids i).1 hi).2
 have hfz0:=acy R.hp h0p fun i hi=>((hids i).1 hi).2
 have hN0:=st0.hrel
 have hH0:=st0.H
 have hN0U:∀id,N0.U id->id<8*s.c0:=fun id h=>by
  rw[h0U]at h
  rcases R.ub id h with h | ⟨_,h⟩
  ·have:=hB.U id h;have:=R.clk;omega
  ·omega
 have hp1:∀j∈Ai A.hp s.pk (s.pAV A),j∈ids0:=fun j hj=>(hids j).2 ⟨by rw[hfzd];exact List.mem_append_left _ (Et _ _ _ j hj),KZ _ _ _ j hj⟩
 have hv1:∀j∈Ai A.hp s.vk (s.vAV A),j∈ids0:=fun j hj=>(hids j).2 ⟨by rw[hfzd];exact List.mem_append_right _ (Et _ _ _ j hj),KZ _ _ _ j hj⟩
 have hv2:∀j∈fZ iU s.vk (s.vAV A)++(bK s.vh++(bK s.vb++bK s.ph)),j∉ids0:=fun j hj hm=>hall j hj ((hids j).1 hm).1
 have PH:=anf hg (p:=p') hN0 hfz0 Rp hp1
 have alive:=aeI hdv
 have PHo:∀j,j∈bK s.ph->∀b,N0.β j=some b->∀i,i∈fZ iU s.vk (s.vAV A)++(bK s.vh++bK s.vb)->N0.β i≠some b:=fun j hj b hb i hi hbi=>by
  obtain⟨e,k1,k2⟩:=alive i hi
  have hNi:N0.hp i=some e:=by rw[hfz0 i,if_neg (hv2 i (hHsub i (by rw[hHd];exact hi)))];exact k1
  obtain⟨e1,he1⟩:=(zk true s.ph ((iD 0 (flat s.pk p')).drop s.ps.length) j).1 hj
  obtain⟨_,_,_,_,_,e0,_,_,_,_,_,g6,_⟩:=PH j e1 he1
  have hij:=hN0.inj i j e e0 b hNi g6 k2 hbi hb
  subst hij
  rcases List.mem_append.1 hi with h | h
  ·exact(uh hdup).2.2 i h (List.mem_append_right _ (List.mem_append_right _ hj))
  ·exact(uh hnd).2.2 i hj h
 obtain⟨V0,σ0,vw0,vp0,vU0,vβ0,vσ0,seen0,σin0,vlo0,_⟩:=ai0 hg (p:=p') (N':=N0) (A':=A) hN0 hfz0 hdv hv1 hv2 N0.β (fun j e' hl=>by
  obtain⟨b,c,t,fr,cs',e0,g1,g2,g3,g4,g5,_⟩:=PH j e' hl
  have hj:j∈bK s.ph:=by
   by_cases hj:j∈bK s.ph
   ·exact hj
   ·rw[(zk true _ _ j).2 hj]at hl;cases hl
  exact⟨b,c,t,fr,cs',g1,g2,g3,g4,g5,PHo j hj b g2⟩) (Us:=fun j=>j<8*(s.c0+s.vk.length)) (fun j hj=>by
  rcases hj with h | h | h
  ·have:=hlt0 j (List.mem_append_left _ h);show _<_;omega
  ·have:=hlt0 j (List.mem_append_right _ h);show _<_;omega
  ·exact h.2)
 have hV0:=vw0.hrel hN0
 have hV0H:V0.H=w0.heap:=vw0.H.trans hH0
 have hV0F:∀b,V0.F b->b<w0.heap.size:=fun b hb=>st0.Fsz (R.F hB) b ((vw0.F b).1 hb)
 obtain⟨tm,htm⟩:∃tm:Nat->Value,tm=fun t=>a0.tmps.getD t undef:=⟨_,rfl⟩
 have htm':∀t,tm t=a0.tmps.getD t undef:=fun t=>by rw[htm]
 clear htm
 obtain⟨T',hT'⟩:∃T':Nat->Prop,T'=fun t=>t∉D\/B.T t:=⟨_,rfl⟩
 have hTD:∀t,t∉D->T' t:=fun t h=>by rw[hT'];exact .inl h
 have hTB:∀t,B.T t->T' t:=fun t h=>by rw[hT'];exact .inr h
 have hkeep:Keeps T' c:=AX (fun t h=>by rw[hT']at h;exact h) c hD hkp
 have hKU0:∀j,j∈bK s.vh++bK s.vb->V0.U j:=fun j hj=>by
  rw[vU0];have:=hlt0 j (List.mem_append_right _ hj);show _<_;omega
 have PS:∀(j:Nat) (d:Dt) (t:Nat),t∈bK s.ps->(flat s.pk p')[j]? =some d->(s.pAV A)[j]? =some (get A.fr t)->aY V0 (encS (0+j) d.1 d.2) (tm t):=fun j d t ht h1 h2=>by
  have hne:=hbuf j d.1 (lg h1)
  have:aY N0 (encS (0+j) d.1 d.2) (tm t):=by
   rw[htm']
   exact aji hN0 hfz0 (fun x hx=>hp1 x (EQ _ (lg h1) h2 hx)) (fun x hx=>by rw[aa2 hne]at hx;cases hx) (fun _ h=>h) rfl (by
    obtain⟨sh,z⟩:=d
    cases sh with
    |buf e=>exact absurd rfl (hne e)
    |rf q=>exact absurd rfl ((LSh.good_rf hg).1 j _ (lg h1) q)
    |_=>trivial) ((R.fr t).le st0.le) (Rp.dec.get j d _ h1 h2)
  exact ahL (fun b hb=>(vw0.F b).2 hb) (fun b _=>by rw[vw0.H]) hne ((LSh.good_rf hg).1 j d.1 (lg h1)) this
 have PL:∀t,t∈bK s.pl->aY N0 (get A.fr t) (tm t):=fun t _=>by rw[htm'];exact(R.fr t).le st0.le
 have hHv:∀i,i∈bK s.vh++bK s.vb->i∈H/\A.hp i≠none:=fun i hi=>by
  have:i∈fZ iU s.vk (s.vAV A)++(bK s.vh++bK s.vb):=List.mem_append_right _ hi
  obtain⟨e,k1,_⟩:=alive i this
  exact⟨by rw[hHd];exact this,by rw[k1];simp⟩
 have hout:apv D H fz (s.c0+s.vk.length) A F os wv=some y:=by rw[hHd,hfzd];exact hout
 have rounds:∀(m:Nat) (v:Tup s.vk) (V:Mem) (w:World) (a:Act),Hd s p' N0 V0 w0 T' tm B.nt v V w a->bZ (step p') m v=some wv->Yp C.P c Q a w:=by
  intro m
  induction m with
  |zero=>intro v V w a _ h;simp [bZ]at h
  |succ m ih=>
   intro v V w a hd h
   simp only[bZ]at h
   obtain⟨r,hr,h⟩:=Option.bind_eq_some_iff.1 h
   have hrl:=hstep p' v r hr
   unfold aeN at hrl
   have hB1:JB ⟨V,w,s.c0+s.vk.length,B.nt,T',tm⟩:=⟨hd.trk.hrel,hd.trk.H,hd.trk.Fsz hV0F,fun id hU=>by have hU:V.U id:=hU;rw[hd.U]at hU;exact hU⟩
   have hR1:Rel ⟨V,w,s.c0+s.vk.length,B.nt,T',tm⟩ V (s.st p' v) a w:=⟨Stp.refl hd.trk.hrel hd.trk.H,hd.fr,hd.hp,hd.df,hd.nt,hd.kp,fun id hU=> .inl hU,fun t c' j x' g v' hc=>by
    have:=hd.nc t
    rw[hc]at this
    exact this.elim,Nat.le_refl _⟩
   refine ab9 (P6 (Hw K n r pf (2*pos) c (s.st p' v) _ hrl _ hB1 hnt (hat.kid 0 (by omega) rfl) L hkeep V a w hR1 _ fun e A' N a' w' he R'=> ?_))
   have hKUV:∀j,j∈bK s.vh++bK s.vb->V.U j:=fun j hj=>by
    rw[hd.U];have:=hlt0 j (List.mem_append_right _ hj);show _<_;omega
   have trN:Trk (fun j=>j∈bK s.vh++bK s.vb) V0 w0 N w':=hd.trk.trans (R'.stp.trk hKUV)
   have hKUN:∀j,j∈bK s.vh++bK s.vb->N.U j:=fun j hj=>R'.stp.le.U j (hKUV j hj)
   have leave:∀x,ac6 os e A'=some x->r= .inr x->Q (ajn e) a' w':=fun x hx hrx=>by
    subst hrx
    have h:x=wv:=Option.some.inj h
    subst h
    obtain⟨o,ho,x',h1,h2,h3⟩:=agr (τ:=τ) D H fz (s.c0+s.vk.length) A os e A' x hx
    rw[h3 F]at hout
    obtain⟨Nf,hRf⟩:=anR hg (List.all_eq_true.1 hgo o ho) hB R hclk st0 h0U h0β hfz0 hids (fun i hi=>hall i (hHsub i hi)) vw0 vσ0 (fun k i e1 hk hf hs=>by rw[hHd];exact σin0 k i e1 hk hf hs) hHv hTD hTB trN hKUN R'.hp h2 R'.fr
     (fun t ht=>(R'.kp t ht).trans (htm' t)) R'.df R'.nt
    exact hQ e _ Nf a' w' hout hRf
   cases e with
   |normal=>
    simp only at he
    cases hdn:s.decV { A' with clk:=s.c0 } with
    |none=>simp [hdn,bad]at he
    |some v2=>
     simp only[hdn,Option.some.injEq]at he
     subst he
     have hdn':s.decV A'=some v2:=hdn
     obtain⟨V2,hd2⟩:=ao1 hg (A:=A) (own0:=fZ iU s.vk (s.vAV A)) hN0 hH0 hN0U vw0 vσ0 σin0 Rp hpl PH PHo PS PL hTD trN hKUN R'.hp hdn' R'.fr R'.kp R'.df R'.nt
     exact ih v2 V2 w' a' hd2 h
   |ret=>
    simp only at he
    cases hx:ac6 os .ret A' with
    |none=>simp [hx,bad]at he
    |some x=>
     simp only[hx,Option.some.injEq]at he
     exact leave x hx he.symm
   |exit i=>
    simp only at he
    cases hx:ac6 os (.exit i) A' with
    |none=>simp [hx,bad]at he
    |some x=>
     simp only[hx,Option.some.injEq]at he
     exact leave x hx he.symm
 have noOwn:∀j,j∈bK s.ph->∀b,N0.β j=some b->¬Own V0 b:=fun j hj b hb ho=>by
  obtain⟨k,e1,i,e,k1,k2,k3,k4,k5,k6⟩:=vw0.own ho
  exact PHo j hj b hb i (σin0 k i e1 k1 k2 k3) k6
 have le0:Le N0 V0:=le_head hg hH0 hN0U vw0 vσ0 PH noOwn (Trk.refl hV0 hV0H hKU0) vp0 vU0 vβ0 vlo0
 refine rounds LF v' V0 w0 a0 ⟨Trk.refl hV0 hV0H hKU0,vp0,vU0,fun t=> ?_,fun t=> ?_,fun t _=>(htm' t).symm,R.df,R.nt⟩ hrun
 ·rcases ajp Rp Rv hpl t with ⟨j,d,g1,g2,g3,g4⟩ | ⟨g1,g2,g3⟩ | ⟨j,d,g1,g2,g3⟩ | g1
  ·rw[g4,<-htm']
   exact PS j d t g1 g2 g3
  ·rw[g2,<-htm']
   exact(PL t g1).le le0
  ·rw[g3]
   exact seen0 j d _ g1 g2 _ ((R.fr t).le st0.le)
  ·rw[g1];exact .undef _
 ·rcases ajp Rp Rv hpl t with ⟨j,d,g1,g2,g3,g4⟩ | ⟨g1,g2,g3⟩ | ⟨j,d,g1,g2,g3⟩ | g1
  ·rw[g4];exact YB _ _
  ·rw[g2];exact g3
  ·rw[g3];exact YB _ _
  ·rw[g1];trivial
end Go.Av
namespace Go.Av
open Go
set_option linter.unusedVariables false
set_option linter.unusedSimpArgs false
theorem mapM_mono {α β:Type} {f g:α->Option β} (h:∀a b,f a=some b->g a=some b):∀(l:List α) (r:List β),l.mapM f=some r->l.mapM g=some r
 |[],r,hr=>by simpa using hr
 |a::l,r,hr=>by
  simp only[List.mapM_cons,bind,Option.bind_eq_some_iff,pure]at hr ⊢
  obtain⟨b,h1,bs,h2,h3⟩:=hr
  exact⟨b,h a b h1,bs,mapM_mono h l bs h2,h3⟩
theorem acT {α σ:Type} {f g:α->σ->Option (ForInStep σ)} (h:∀a s r,f a s=some r->g a s=some r):∀(l:List α) (s r:σ),forIn l s f=some r->forIn l s g=some r
 |[],s,r,hr=>by simpa using hr
 |a::l,s,r,hr=>by
  simp only[List.forIn_cons,bind,Option.bind_eq_some_iff]at hr ⊢
  obtain⟨b,h1,h2⟩:=hr
  refine⟨b,h a s b h1,?_⟩
  cases b with
  |done s'=>exact h2
  |yield s'=>exact acT h l s' r h2
theorem aeF {α σ:Type} {f:α->σ->Option (ForInStep σ)} (I:σ->Prop) (h:∀a s r,I s->f a s=some r->match r with | .done s'=>I s' | .yield s'=>I s'):∀(l:List α) (s r:σ),I s->forIn l s f=some r->I r
 |[],s,r,hs,hr=>by
  simp at hr;exact hr▸hs
 |a::l,s,r,hs,hr=>by
  simp only[List.forIn_cons,bind,Option.bind_eq_some_iff]at hr
  obtain⟨b,h1,h2⟩:=hr
  have:=h a s b hs h1
  cases b with
  |done s'=>simp [pure]at h2;exact h2▸this
  |yield s'=>exact aeF I h l s' r this h2
section
variable {f g:TypeId->Option TypeInfo} (h:∀t i,f t=some i->g t=some i)
include h
theorem afw {ps rs:Array TypeId} {v:Bool} {s:String} (hs:Made.funcStr f ps rs v=some s):Made.funcStr g ps rs v=some s:=by
 unfold Made.funcStr at hs ⊢;simp only[bind,Option.bind_eq_some_iff,pure]at hs ⊢;obtain⟨ins,h1,outs,h2,h3⟩:=hs;refine⟨ins,mapM_mono (fun p b hb=> ?_) _ _ h1,outs,mapM_mono (fun p b hb=> ?_) _ _ h2,h3⟩
 ·obtain⟨t,k⟩:=p;simp only[Option.bind_eq_some_iff]at hb ⊢;obtain⟨i,hi,hb⟩:=hb;refine⟨i,h _ _ hi,?_⟩;split at hb
  ·rename_i hc;rw[if_pos hc];simp only[Option.bind_eq_some_iff]at hb ⊢;obtain⟨d,hd,hb⟩:=hb;refine⟨d,?_,?_⟩
   ·split at hd
    ·rename_i nm u hn;rw[Option.map_eq_some_iff]at hd;obtain⟨j,h1,h2⟩:=hd;simp only[hn,Option.map_eq_some_iff];exact⟨j,h _ _ h1,h2⟩
    ·exact hd
   ·split at hb
    ·rename_i e;simp only[Option.bind_eq_some_iff]at hb ⊢;obtain⟨j,hj,q,hq,hb⟩:=hb;exact⟨j,h _ _ hj,q,hq,hb⟩
    ·cases hb
  ·rename_i hc;rw[if_neg hc];exact hb
 ·simp only[Option.bind_eq_some_iff]at hb ⊢;obtain⟨i,hi,hb⟩:=hb;exact⟨i,h _ _ hi,hb⟩
theorem agv {fs:Array Field} {r:TypeInfo} (hr:Made.reckonStruct f fs=some r):Made.reckonStruct g fs=some r:=by
 unfold Made.reckonStruct at hr ⊢;simp only[bind,Option.bind_eq_some_iff,pure]at hr ⊢;obtain⟨a,h1,h2⟩:=hr;refine⟨a,?_,h2⟩;rw[<-Array.forIn_toList]at h1 ⊢;refine acT (fun x s q hq=> ?_) _ _ _ h1;simp only[Option.bind_eq_some_iff]at hq ⊢;obtain⟨i,hi,hq⟩:=hq;exact⟨i,h _ _ hi,hq⟩
theorem ags {d:TypeDesc} {r:TypeInfo} (hr:Made.reckon f d=some r):Made.reckon g d=some r:=by
 cases d with
 |struct fs=>exact agv h hr
 |_=>
  unfold Made.reckon at hr ⊢;simp only[bind,Option.bind_eq_some_iff,pure]at hr ⊢
  first
  |exact hr
  |(obtain⟨i,h1,h2⟩:=hr;exact⟨i,h _ _ h1,h2⟩)
  |(obtain⟨s,⟨i,h1,h2⟩,h3⟩:=hr;exact⟨s,⟨i,h _ _ h1,h2⟩,h3⟩)
  |(obtain⟨s,⟨i,h1,h2⟩,s2,⟨i2,h3,h4⟩,h5⟩:=hr;exact⟨s,⟨i,h _ _ h1,h2⟩,s2,⟨i2,h _ _ h3,h4⟩,h5⟩)
  |(obtain⟨s,h1,h2⟩:=hr;exact⟨s,afw h h1,h2⟩)
  |(obtain⟨a,h1,s,h2,b,h3,h4⟩:=hr;exact⟨a,h _ _ h1,s,h2,b,h _ _ h3,h4⟩)
end
theorem aav (T:Tables):∀(n:Nat) (t:TypeId) (i:TypeInfo),Made.infoAt T n t=some i->Made.infoAt T (n+1) t=some i
 |0,t,i,h=>by simp [Made.infoAt]at h
 |n+1,t,i,h=>by
  unfold Made.infoAt at h ⊢
  by_cases ht:t<T.types.size
  ·rw[if_pos ht]at h ⊢; exact h
  ·rw[if_neg ht]at h ⊢
   simp only[Option.bind_eq_some_iff]at h ⊢
   obtain⟨d,h1,h2⟩:=h
   exact⟨d,h1,ags (aav T n) h2⟩
theorem alh (T:Tables) {n m:Nat} (hnm:n<=m) {t:TypeId} {i:TypeInfo} (h:Made.infoAt T n t=some i):Made.infoAt T m t=some i:=by
 induction hnm with
 |refl=>exact h
 |step _ ih=>exact aav T _ t i ih
theorem ao9 (T:Tables) {n:Nat} (hn:n<=100) {t:TypeId} {i:TypeInfo} (h:Made.infoAt T n t=some i):T.info? t=some i:=by
 have:=alh T hn h;unfold Tables.info? Made.depth;by_cases ht:t<T.types.size
 ·rw[if_pos ht];unfold Made.infoAt at this;rw[if_pos ht]at this;exact this
 ·rw[if_neg ht];exact this
theorem afr {f:TypeId->Option TypeInfo} {fs:Array Field} {r:TypeInfo} (hr:Made.reckonStruct f fs=some r):∃out:Array Field,r.desc= .struct out/\∀x∈out,∃i,f x.type=some i:=by
 unfold Made.reckonStruct at hr;simp only[bind,Option.bind_eq_some_iff,pure]at hr;obtain⟨a,h1,h2⟩:=hr;rw[<-Array.forIn_toList]at h1
 have key:=aeF (fun s=>∀x∈s.1,∃i,f x.type=some i) (fun x s q hs hq=>by
  simp only[Option.bind_eq_some_iff]at hq;obtain⟨i,hi,hq⟩:=hq;have push:∀y∈s.1.push { x with offset:=s.2.1,byteOffset:=Made.roundUp s.2.2.1 i.align },∃i,f y.type=some i:=fun y hy=>by
   rcases Array.mem_push.1 hy with hy | hy
   ·exact hs y hy
   ·subst hy;exact⟨i,hi⟩
  repeat' (split at hq)
  all_goals first
   |(simp at hq;done)
   |(simp only[Option.bind_eq_some_iff]at hq;obtain⟨_,_,hq⟩:=hq;cases hq;exact push)
   |(simp only[Option.bind_eq_some_iff]at hq;obtain⟨_,h0,_⟩:=hq;cases h0)) _ _ _ (by simp) h1
 split at h2<;>(cases h2;exact⟨_,rfl,key⟩)
theorem afK {f:TypeId->Option TypeInfo} {d:TypeDesc} {r:TypeInfo} (hr:Made.reckon f d=some r):(∀e,r.desc= .slice e->∃i,f e=some i)/\(∀n e,r.desc= .array n e->∃i,f e=some i)/\(∀fs,r.desc= .struct fs->∀x∈fs,∃i,f x.type=some i)/\∀a u,r.desc≠ .named a u:=by
 cases d with
 |struct fs=>
  obtain⟨out,h1,h2⟩:=afr (f:=f) (fs:=fs) hr;refine⟨fun e h=> ?_,fun n e h=> ?_,fun fs h=> ?_,fun a u h=> ?_⟩<;>rw[h1]at h<;>cases h
  exact h2
 |slice e=>
  unfold Made.reckon at hr;simp only[bind,Option.bind_eq_some_iff,pure]at hr;obtain⟨i,h1,s,h2,h3⟩:=hr;cases h3;exact⟨fun e' h=>(by cases h;exact⟨i,h1⟩),fun _ _ h=>(by cases h),fun _ h=>(by cases h),fun _ _ h=>(by cases h)⟩
 |array n e=>
  unfold Made.reckon at hr;simp only[bind,Option.bind_eq_some_iff,pure]at hr;obtain⟨i,h1,s,h2,h3⟩:=hr;cases h3;exact⟨fun e' h=>(by cases h),fun _ _ h=>(by cases h;exact⟨i,h1⟩),fun _ h=>(by cases h),fun _ _ h=>(by cases h)⟩
 |_=>
  have hd:(∀e,r.desc≠ .slice e)/\(∀n e,r.desc≠ .array n e)/\(∀fs,r.desc≠ .struct fs)/\∀a u,r.desc≠ .named a u:=by
   unfold Made.reckon at hr;simp only[bind,Option.bind_eq_some_iff,pure]at hr
   repeat' first
    |(obtain⟨_,_,hr⟩:=hr)
    |(split at hr)
   all_goals first
    |exact⟨fun _ h=>(by cases h),fun _ _ h=>(by cases h),fun _ h=>(by cases h),fun _ _ h=>(by cases h)⟩
    |(cases hr;done)
    |(cases hr;exact⟨fun _ h=>(by cases h),fun _ _ h=>(by cases h),fun _ h=>(by cases h),fun _ _ h=>(by cases h)⟩)
    |(simp only[Option.bind_eq_some_iff]at hr;obtain⟨_,_,hr⟩:=hr;cases hr;exact⟨fun _ h=>(by cases h),fun _ _ h=>(by cases h),fun _ h=>(by cases h),fun _ _ h=>(by cases h)⟩)
  exact⟨fun e h=>absurd h (hd.1 e),fun n e h=>absurd h (hd.2.1 n e),fun fs h=>absurd h (hd.2.2.1 fs),hd.2.2.2⟩
def wfT (n:Nat) (d:TypeDesc):Bool:=match d with
 |.slice e | .array _ e=>Nat.blt e n
 |.struct fs=>fs.toList.all fun f=>Nat.blt f.type n
 |.named _ u=>Nat.blt u n
 |_=>true
def wfB (P:Program):Bool:=P.types.toList.all fun i=>wfT P.types.toList.length i.desc
theorem info_lt (P:Program) {t:TypeId} (h:t<P.types.size):P.info? t=P.types[t]? :=by
 unfold Tables.info?;rw[if_pos h]
theorem aqU {P:Program} (h:wfB P=true):WfP P:=by
 have tab:∀t i,P.info? t=some i->t<P.types.size->wfT P.types.size i.desc=true:=fun t i hi ht=>by
  rw[info_lt P ht]at hi;have:=List.all_eq_true.1 h i (List.mem_of_getElem? (l:=P.types.toList) (i:=t) (by simpa using hi));simpa using this
 have there:∀e,e<P.types.size->P.info? e≠none:=fun e he=>by
  rw[info_lt P he];simp [he]
 have one:∀t i,P.info? t=some i->(∀e,i.desc= .slice e->P.info? e≠none)/\(∀n e,i.desc= .array n e->P.info? e≠none)/\(∀fs,i.desc= .struct fs->∀x∈fs.toList,P.info? x.type≠none)/\∀a u,i.desc= .named a u->u<P.types.size:=fun t i hi=>by
  by_cases ht:t<P.types.size
  ·have hw:=tab t i hi ht;unfold wfT at hw;refine⟨fun e he=> ?_,fun n e he=> ?_,fun fs he x hx=> ?_,fun a u he=> ?_⟩<;>rw[he]at hw
   ·exact there e (by simpa [Nat.blt_eq] using hw)
   ·exact there e (by simpa [Nat.blt_eq] using hw)
   ·have:=List.all_eq_true.1 hw x hx;exact there _ (by simpa [Nat.blt_eq] using this)
   ·simpa [Nat.blt_eq] using hw
  ·unfold Tables.info? Made.depth at hi;rw[if_neg ht]at hi;unfold Made.infoAt at hi;rw[if_neg ht]at hi;simp only[Option.bind_eq_some_iff]at hi;obtain⟨d,_,hr⟩:=hi;obtain⟨k1,k2,k3,k4⟩:=afK hr;have up:∀e,(∃j,Made.infoAt P.toTables 99 e=some j)->P.info? e≠none:=fun e ⟨j,hj⟩=>by
    rw[ao9 P.toTables (by omega) hj];simp
   exact⟨fun e he=>up e (k1 e he),fun n e he=>up e (k2 n e he),fun fs he x hx=>up _ (k3 fs he x (by simpa using hx)),fun a u he=>absurd he (k4 a u)⟩
 have two:∀t d,P.underlying t=some d->∃t' i,P.info? t'=some i/\i.desc=d:=fun t d hu=>by
  unfold Program.underlying at hu;cases hi:P.info? t with
  |none=>rw[hi]at hu;cases hu
  |some i=>
   rw[hi]at hu;obtain⟨d0,x1,x2,x3,x4,x5,x6,x7,x8,x9⟩:=i;cases d0 with
   |named a u=>
    simp only[Option.map_eq_some_iff]at hu;obtain⟨j,hj,hd⟩:=hu;exact⟨u,j,hj,hd⟩
   |_=>exact⟨t,_,hi,Option.some.inj hu⟩
 refine⟨fun t n el hu=> ?_,fun t el hu=> ?_,fun t fs hu x hx=> ?_⟩
 ·obtain⟨t',i,h1,h2⟩:=two t _ hu;exact(one t' i h1).2.1 n el h2
 ·obtain⟨t',i,h1,h2⟩:=two t _ hu;exact(one t' i h1).1 el h2
 ·obtain⟨t',i,h1,h2⟩:=two t _ hu;exact(one t' i h1).2.2.1 fs h2 x hx
end Go.Av
namespace Go.Av
open Go Go.RowKit
universe u
set_option linter.unusedVariables false
set_option linter.unusedSimpArgs false
def arP (P:Program) (t:Nat) (e:E):Bool:=match P.info? t with
 |some inf=>Nat.beq inf.size (esz e)&&inf.zero.isSome&&Nat.ble inf.bytes 2048
 |none=>false
theorem jb {P:Program} {t:Nat} {e:E} (h:arP P t e=true) (hz:vJ e (zI P t)=some default):EOk P t e:=by
 unfold arP at h;cases hi:P.info? t with
 |none=>simp [hi]at h
 |some inf=>
  simp only[hi,Bool.and_eq_true]at h;obtain⟨⟨h1,h2⟩,h3⟩:=h;obtain⟨z,hz0⟩:=Option.isSome_iff_exists.1 h2;exact⟨⟨inf,z,hi,Nat.eq_of_beq_eq_true h1,hz0,Nat.le_of_ble_eq_true h3⟩,hz⟩
def aeT (P:Program):List (Nat×E)->Prop
 |[]=>True
 |(t,e)::r=>EOk P t e/\aeT P r
theorem Zb {α:Type u}:∀ {l:List (Nat×α)} {i:Nat} {x:α},look l i=some x->(i,x)∈l
 |[],i,x,h=>by cases h
 |(k,v)::r,i,x,h=>by
  simp only[look]at h
  cases hb:Nat.beq k i with
  |true=>
   have:=Nat.eq_of_beq_eq_true hb
   subst this
   simp only[hb,cond_true,Option.some.injEq]at h
   subst h;exact List.mem_cons_self
  |false=>
   simp only[hb,cond_false]at h
   exact List.mem_cons_of_mem _ (Zb h)
theorem aeT.get {P:Program}:∀ {l:List (Nat×E)},aeT P l->∀ {t:Nat} {e:E},(t,e)∈l->EOk P t e
 |[],_,t,e,h=>by cases h
 |(t',e')::r,h,t,e,hm=>by
  rcases List.mem_cons.1 hm with hm | hm
  ·cases hm;exact h.1
  ·exact aeT.get h.2 hm
def XM (P:Program):List (Nat×aA)->Prop
 |[]=>True
 |(f,s)::r=>bJ P f s/\XM P r
theorem XM.get {P:Program}:∀ {l:List (Nat×aA)},XM P l->∀ {f:Nat} {s:aA},(f,s)∈l->bJ P f s
 |[],_,f,s,h=>by cases h
 |(f',s')::r,h,f,s,hm=>by
  rcases List.mem_cons.1 hm with hm | hm
  ·cases hm;exact h.1
  ·exact XM.get h.2 hm
def ar6 (P:Program):Bool:=P.funcs.toList.all fun fn=> !(fn.name == "runtime.NumGoroutine")
structure KE (P:Program) (et:List (Nat×E)):Prop where
 wf:wfB P=true
 et:aeT P et
 nf:Nat.ble P.funcs.toList.length 4096=true
 mixed:P.follows .mixedOrders=true
 nog:ar6 P=true
theorem KE.cx {P:Program} {et:List (Nat×E)} (h:KE P et) {ety:Nat->Option E} (he:∀t,ety t=look et t) {l:List (Nat×aA)} (hl:XM P l) {inl:Nat->Bool} {lp:Nat->Nat->Option dm}:CxR ⟨P,ety,look l,inl,lp⟩ where
 ok:=⟨aqU h.wf,fun t e hte=>h.et.get (Zb ((he t).symm.trans hte))⟩
 nf:=by simpa using Nat.le_of_ble_eq_true h.nf
 mixed:=h.mixed
 nog f fn hf:=by
  have:=List.all_eq_true.1 h.nog fn (List.mem_of_getElem? (l:=P.funcs.toList) (i:=f) (by simpa using hf))
  simpa using this
 fn f s hs:=hl.get (Zb hs)
def Wn (C:Cx):List (Nat×Nat×dm)->Prop
 |[]=>True
 |(a,b,s)::r=>(∀c,At C.P a b (.loop c)->qp C a (2*b)->alL C.P a c s)/\Wn C r
theorem Wn.get {C:Cx}:∀ {l:List (Nat×Nat×dm)},Wn C l->∀ {a b:Nat} {s:dm},(a,b,s)∈l->∀c,At C.P a b (.loop c)->qp C a (2*b)->alL C.P a c s
 |[],_,a,b,s,h=>by cases h
 |(a',b',s')::r,h,a,b,s,hm=>by
  rcases List.mem_cons.1 hm with hm | hm
  ·cases hm;exact h.1
  ·exact Wn.get h.2 hm
theorem Xl:∀ {l:List (Nat×Nat×dm)} {i j:Nat} {s:dm},UM l i j=some s->(i,j,s)∈l
 |[],i,j,s,h=>by cases h
 |(a,b,x)::r,i,j,s,h=>by
  simp only[UM]at h
  cases hb:(Nat.beq a i&&Nat.beq b j)with
  |true=>
   simp only[Bool.and_eq_true]at hb
   have h1:=Nat.eq_of_beq_eq_true hb.1
   have h2:=Nat.eq_of_beq_eq_true hb.2
   subst h1;subst h2
   simp only[Y7,Bool.and_self,cond_true,Option.some.injEq]at h
   subst h;exact List.mem_cons_self
  |false=>
   simp only[hb,cond_false]at h
   exact List.mem_cons_of_mem _ (Xl h)
theorem ab1 {α:Type u} {p q:α->Bool}:∀(l:List α),(∀x∈l,q x=true->p x=true)->(∃x∈l,p x=true/\q x=false)->l.countP q<l.countP p
 |[],_,h=>by obtain⟨x,h,_⟩:=h;cases h
 |y::l,h1,h2=>by
  obtain⟨x,hx,hp,hq⟩:=h2
  rw[List.countP_cons,List.countP_cons]
  rcases List.mem_cons.1 hx with rfl | hx
  ·have:l.countP q<=l.countP p:=List.countP_mono_left fun z hz=>h1 z (List.mem_cons_of_mem _ hz)
   simp only[hp,hq,if_true,Bool.false_eq_true,if_false];omega
  ·have:=ab1 l (fun z hz=>h1 z (List.mem_cons_of_mem _ hz)) ⟨x,hx,hp,hq⟩
   have h0:=h1 y List.mem_cons_self
   cases hqy:q y with
   |false=>simp only[Bool.false_eq_true,if_false];split<;>omega
   |true=>rw[h0 hqy];simp only[if_true];omega
theorem TN {C:Cx} {l:List (Nat×Nat×dm)} (hl:C.lp=UM l) (h:Wn C l):∀pf pos,qp C pf pos:=by
 have key:∀(n pf pos:Nat),l.countP (fun e=>(Nat.beq e.1 pf&&Nat.ble pos e.2.1)||Nat.blt pf e.1)<=n->qp C pf pos:=by
  intro n
  induction n with
  |zero=>
   intro pf pos hc pf' pos' s c hb hs hat;rw[hl]at hs;have hm:=Xl hs;have:=List.countP_eq_zero.1 (Nat.le_zero.1 hc) _ hm;exfalso;apply this;rcases hb with ⟨h1,h2⟩ | h1
   ·subst h1;simp [h2]
   ·simp [Nat.blt_eq,h1]
  |succ n ih=>
   intro pf pos hc pf' pos' s c hb hs hat;have hs':=hs;rw[hl]at hs;have hm:=Xl hs;have hp:=hat.1;refine h.get hm c hat (ih pf' (2*pos') ?_)
   have:=ab1 (p:=fun e:Nat×Nat×dm=>(Nat.beq e.1 pf&&Nat.ble pos e.2.1)||Nat.blt pf e.1) (q:=fun e:Nat×Nat×dm=>(Nat.beq e.1 pf'&&Nat.ble (2*pos') e.2.1)||Nat.blt pf' e.1) l (fun e _ he=>by
    simp only[Bool.or_eq_true,Bool.and_eq_true,Nat.beq_eq,Nat.ble_eq,Nat.blt_eq]at he ⊢;omega) ⟨_,hm,by
    simp only[Bool.or_eq_true,Bool.and_eq_true,Nat.beq_eq,Nat.ble_eq,Nat.blt_eq];omega,by
    simp only[Bool.or_eq_false_iff,Bool.and_eq_false_iff];refine⟨.inr ?_,?_⟩
    ·cases hb:Nat.ble (2*pos') pos' with
     |false=>rfl
     |true=>have:=Nat.le_of_ble_eq_true hb;omega
    ·cases hb:Nat.blt pf' pf' with
     |false=>rfl
     |true=>simp [Nat.blt_eq]at hb⟩
   omega
 exact fun pf pos=>key _ pf pos (Nat.le_refl _)
set_option exponentiation.threshold 512 in
theorem acS {C:Cx} (K:CxR C) {s:LSh} {os:List vK} {D:List Nat} {step:Tup s.pk->Tup s.vk->Option (Tup s.vk ⊕ adF os)} {pf pos f n:Nat} (hf:pf%4096=f) (hpos:Nat.blt (Nat.log2 pos) 301=true) (hg:s.good D=true) (hgo:os.all (vK.good s)=true)
 (hD:RG D (TP C.P f pos)=true) (hstep:∀p v r,step p v=some r->aeN C n pf pos (TP C.P f pos) s os p v=some r):∀c,At C.P pf pos (.loop c)->qp C pf (2*pos)->alL C.P pf c (s.spec os D step):=by
 intro c hat L
 have hlt:pos<2^(300+1):=by
  have hp:=hat.1
  exact(Nat.log2_lt (by omega)).1 (by simpa [Nat.blt_eq] using hpos)
 have hc:TP C.P f pos=c:=by
  unfold TP
  rw[<-hf,hat.eq hlt]
 rw[hc]at hD hstep
 exact arA K hg hgo hat L hD hstep
def hasB (P:Program) (f:Nat):Bool:=match P.funcs[f]? with
 |some fn=>fn.body.isSome
 |none=>false
theorem ahN {C:Cx} (K:CxR C) (L:∀pf pos,qp C pf pos) {f:Nat} (hb:hasB C.P f=true) {xs rs:List Sh} {scal:Bool} {run:Tup xs->Option (Tup rs)}
 (hrun:∀x y,run x=some y->aeC C f xs rs x=some y) (hrs:(Nat.ble rs.length 8&&(xs.all afL&&rs.all afL))=true) (hsc:(!scal||rs.all W9)=true):bJ C.P f (mkSpec xs rs scal run):=by
 unfold hasB at hb
 cases hf:C.P.funcs[f]? with
 |none=>simp [hf]at hb
 |some fn=>
  simp only[hf]at hb
  obtain⟨b,hbd⟩:=Option.isSome_iff_exists.1 hb
  simp only[Bool.and_eq_true]at hrs
  exact arT K (L f 1) hf hbd hrun (Nat.le_of_ble_eq_true hrs.1) hrs.2.1 hrs.2.2 fun hs=>by subst hs;simpa using hsc
theorem akN {C:Cx} (K:CxR C) (L:∀pf pos,qp C pf pos) {f:Nat} (hb:hasB C.P f=true) {e:E} {xs rs:List Sh} {run:den e×Tup xs->Option (den e×Tup rs)}
 (hrun:∀x y,run x=some y->aft C f e xs rs x.1 x.2=some y) (hxs:xs.all KC=true) (hrs:rs.all KC=true):bJ C.P f (BA e xs rs run):=by
 unfold hasB at hb
 cases hf:C.P.funcs[f]? with
 |none=>simp [hf]at hb
 |some fn=>
  simp only[hf]at hb
  obtain⟨b,hbd⟩:=Option.isSome_iff_exists.1 hb
  exact aq0 K (L f 1) hf hbd hrun hxs hrs
end Go.Av
namespace Go.Av
open Go
set_option linter.unusedVariables false
inductive Kd where
 |int (k:IntKind) | bool | str | ro (e:E)
 deriving DecidableEq
def isK:Kd->AV->Prop
 |.int k,a=>∃n,a= .int k n/\k.min<=n/\n<=k.max
 |.bool,a=>∃b,a= .bool b
 |.str,a=>∃s,a= .str s/\aga s
 |.ro e,a=>∃l:List (den e),a= .ro e l false/\okL (okE e) l
def iL:List Kd->List AV->Prop
 |[],av=>av=[]
 |k::ks,av=>∃c r,av=c::r/\isK k c/\iL ks r
theorem bP {n:Int} (h1:IntKind.i64.min<=n) (h2:n<=IntKind.i64.max):inI n:=⟨h1,h2⟩
theorem amZ {n:Int} (h1:IntKind.u64.min<=n) (h2:n<=IntKind.u64.max):inW n:=⟨h1,h2⟩
theorem qH {n:Int} (h1:IntKind.u8.min<=n) (h2:n<=IntKind.u8.max):inU n:=⟨h1,h2⟩
def kC:E->List Kd
 |.u8=>[.int .u8]
 |.i64=>[.int .i64]
 |.bool=>[.bool]
 |.str=>[.str]
 |.file=>[.str,.ro .u8,.int .i64]
 |.disk=>[.ro .file,.int .i64,.int .i64,.bool]
 |.frame=>[.int .i64,.int .i64,.int .i64,.int .i64,.int .i64,.int .i64,.int .i64,.int .i64,.int .i64]
 |.recd=>[.int .i64,.int .i64,.int .i64,.int .i64,.int .i64,.int .i64,.int .i64,.int .i64,.int .i64,.int .i64,.bool,.int .i64,.int .i64]
 |.order=>[.int .i64,.int .i64,.int .i64,.int .i64,.int .i64,.int .i64,.int .i64,.int .i64,.int .i64,.int .i64,.int .i64,.bool]
 |.cell=>[.int .i64,.int .i64,.int .i64,.int .i64]
 |.expo=>[.int .i64,.int .i64,.int .i64]
 |.state=>[.int .i64,.int .i64,.ro .order,.ro .cell,.ro .expo,.ro .i64,.bool,.int .i64,.int .i64,.int .i64]
 |.wal=>[.int .i64,.int .i64,.int .i64,.int .i64,.int .i64,.ro .frame]
 |.slot=>[.int .i64,.int .i64]
 |.msg=>[.int .i64,.int .i64,.int .i64,.int .i64,.int .i64,.int .i64,.int .i64,.int .i64,.int .i64]
 |.note=>[.int .i64,.int .i64,.int .i64,.int .i64,.int .i64]
 |.feed=>[.ro .note,.bool]
 |.gate=>[.ro .file,.int .i64,.int .i64,.bool,.int .i64,.int .i64,.int .i64,.int .i64,.int .i64,.ro .frame,.int .i64,.int .i64,.ro .order,.ro .cell,.ro .expo,.ro .i64,.bool,.int .i64,.int .i64,.int .i64,.ro .msg,.ro .note,.bool,.int .i64,.bool]
 |.piece=>[.int .i64,.ro .frame,.bool]
 |.reader=>[.ro .u8,.bool]
 |.bts=>[.ro .u8]
 |.mender=>[.ro .file,.int .i64,.int .i64,.bool,.int .i64]
 |.next=>[.int .i64,.int .i64]
 |.a3=>[.int .i64,.int .i64,.int .i64]
 |.a4=>[.int .u8,.int .u8,.int .u8,.int .u8]
 |.a6=>[.int .i64,.int .i64,.int .i64,.int .i64,.int .i64,.int .i64]
 |.a20=>[.int .u8,.int .u8,.int .u8,.int .u8,.int .u8,.int .u8,.int .u8,.int .u8,.int .u8,.int .u8,.int .u8,.int .u8,.int .u8,.int .u8,.int .u8,.int .u8,.int .u8,.int .u8,.int .u8,.int .u8]
 |.big=>[.int .u64,.int .u64]
 |.went=>[.ro .file,.int .i64,.int .i64,.bool,.int .i64,.int .i64,.int .i64,.int .i64,.int .i64,.ro .frame,.int .i64,.int .i64,.ro .order,.ro .cell,.ro .expo,.ro .i64,.bool,.int .i64,.int .i64,.int .i64,.ro .msg,.ro .note,.bool,.int .i64,.bool,.ro .msg,.int .i64]
 |.sleeper=>[.ro .file,.int .i64,.int .i64,.bool,.int .i64,.int .i64,.int .i64,.int .i64,.int .i64,.ro .frame,.int .i64,.int .i64,.ro .order,.ro .cell,.ro .expo,.ro .i64,.bool,.int .i64,.int .i64,.int .i64,.ro .msg,.ro .note,.bool,.int .i64,.bool,.int .i64]
theorem arD (av:List AV) (h:iL (kC .u8) av):∃x,cells .u8 x=av/\okE .u8 x:=by
 obtain⟨_,_,rfl,⟨n0,rfl,an0,bn0⟩,h⟩:=h;have h:_=[]:=h;subst h;exact⟨n0,rfl,qH an0 bn0⟩
theorem aqv (av:List AV) (h:iL (kC .i64) av):∃x,cells .i64 x=av/\okE .i64 x:=by
 obtain⟨_,_,rfl,⟨n0,rfl,an0,bn0⟩,h⟩:=h;have h:_=[]:=h;subst h;exact⟨n0,rfl,bP an0 bn0⟩
theorem aoY (av:List AV) (h:iL (kC .bool) av):∃x,cells .bool x=av/\okE .bool x:=by
 obtain⟨_,_,rfl,⟨n0,rfl⟩,h⟩:=h;have h:_=[]:=h;subst h;exact⟨n0,rfl,trivial⟩
theorem aqD (av:List AV) (h:iL (kC .str) av):∃x,cells .str x=av/\okE .str x:=by
 obtain⟨_,_,rfl,⟨n0,rfl,on0⟩,h⟩:=h;have h:_=[]:=h;subst h;exact⟨n0,rfl,on0⟩
theorem aoM (av:List AV) (h:iL (kC .file) av):∃x,cells .file x=av/\okE .file x:=by
 obtain⟨_,_,rfl,⟨n0,rfl,on0⟩,h⟩:=h;obtain⟨_,_,rfl,⟨n1,rfl,on1⟩,h⟩:=h;obtain⟨_,_,rfl,⟨n2,rfl,an2,bn2⟩,h⟩:=h;have h:_=[]:=h;subst h;exact⟨⟨n0,n1,n2⟩,rfl,(⟨on0,on1,bP an2 bn2⟩:akp (⟨n0,n1,n2⟩:bn))⟩
theorem apb (av:List AV) (h:iL (kC .disk) av):∃x,cells .disk x=av/\okE .disk x:=by
 obtain⟨_,_,rfl,⟨n0,rfl,on0⟩,h⟩:=h;obtain⟨_,_,rfl,⟨n1,rfl,an1,bn1⟩,h⟩:=h;obtain⟨_,_,rfl,⟨n2,rfl,an2,bn2⟩,h⟩:=h;obtain⟨_,_,rfl,⟨n3,rfl⟩,h⟩:=h;have h:_=[]:=h;subst h;exact⟨⟨n0,n1,n2,n3⟩,rfl,(⟨on0,bP an1 bn1,bP an2 bn2⟩:YS (⟨n0,n1,n2,n3⟩:aC))⟩
theorem amC (av:List AV) (h:iL (kC .frame) av):∃x,cells .frame x=av/\okE .frame x:=by
 obtain⟨_,_,rfl,⟨n0,rfl,an0,bn0⟩,h⟩:=h;obtain⟨_,_,rfl,⟨n1,rfl,an1,bn1⟩,h⟩:=h;obtain⟨_,_,rfl,⟨n2,rfl,an2,bn2⟩,h⟩:=h;obtain⟨_,_,rfl,⟨n3,rfl,an3,bn3⟩,h⟩:=h;obtain⟨_,_,rfl,⟨n4,rfl,an4,bn4⟩,h⟩:=h;obtain⟨_,_,rfl,⟨n5,rfl,an5,bn5⟩,h⟩:=h;obtain⟨_,_,rfl,⟨n6,rfl,an6,bn6⟩,h⟩:=h;obtain⟨_,_,rfl,⟨n7,rfl,an7,bn7⟩,h⟩:=h;obtain⟨_,_,rfl,⟨n8,rfl,an8,bn8⟩,h⟩:=h;have h:_=[]:=h;subst h;exact⟨⟨n0,n1,n2,n3,n4,n5,n6,n7,n8⟩,rfl,(⟨bP an0 bn0,bP an1 bn1,bP an2 bn2,bP an3 bn3,bP an4 bn4,bP an5 bn5,bP an6 bn6,bP an7 bn7,bP an8 bn8⟩:agX (⟨n0,n1,n2,n3,n4,n5,n6,n7,n8⟩:bY))⟩
theorem aop (av:List AV) (h:iL (kC .recd) av):∃x,cells .recd x=av/\okE .recd x:=by
 obtain⟨_,_,rfl,⟨n0,rfl,an0,bn0⟩,h⟩:=h;obtain⟨_,_,rfl,⟨n1,rfl,an1,bn1⟩,h⟩:=h;obtain⟨_,_,rfl,⟨n2,rfl,an2,bn2⟩,h⟩:=h;obtain⟨_,_,rfl,⟨n3,rfl,an3,bn3⟩,h⟩:=h;obtain⟨_,_,rfl,⟨n4,rfl,an4,bn4⟩,h⟩:=h;obtain⟨_,_,rfl,⟨n5,rfl,an5,bn5⟩,h⟩:=h;obtain⟨_,_,rfl,⟨n6,rfl,an6,bn6⟩,h⟩:=h;obtain⟨_,_,rfl,⟨n7,rfl,an7,bn7⟩,h⟩:=h;obtain⟨_,_,rfl,⟨n8,rfl,an8,bn8⟩,h⟩:=h;obtain⟨_,_,rfl,⟨n9,rfl,an9,bn9⟩,h⟩:=h;obtain⟨_,_,rfl,⟨n10,rfl⟩,h⟩:=h;obtain⟨_,_,rfl,⟨n11,rfl,an11,bn11⟩,h⟩:=h;obtain⟨_,_,rfl,⟨n12,rfl,an12,bn12⟩,h⟩:=h;have h:_=[]:=h;subst h;exact⟨⟨n0,n1,n2,n3,n4,n5,n6,n7,n8,n9,n10,n11,n12⟩,rfl,(⟨bP an0 bn0,bP an1 bn1,bP an2 bn2,bP an3 bn3,bP an4 bn4,bP an5 bn5,bP an6 bn6,bP an7 bn7,bP an8 bn8,bP an9 bn9,bP an11 bn11,bP an12 bn12⟩:iF (⟨n0,n1,n2,n3,n4,n5,n6,n7,n8,n9,n10,n11,n12⟩:dB))⟩
theorem ami (av:List AV) (h:iL (kC .order) av):∃x,cells .order x=av/\okE .order x:=by
 obtain⟨_,_,rfl,⟨n0,rfl,an0,bn0⟩,h⟩:=h;obtain⟨_,_,rfl,⟨n1,rfl,an1,bn1⟩,h⟩:=h;obtain⟨_,_,rfl,⟨n2,rfl,an2,bn2⟩,h⟩:=h;obtain⟨_,_,rfl,⟨n3,rfl,an3,bn3⟩,h⟩:=h;obtain⟨_,_,rfl,⟨n4,rfl,an4,bn4⟩,h⟩:=h;obtain⟨_,_,rfl,⟨n5,rfl,an5,bn5⟩,h⟩:=h;obtain⟨_,_,rfl,⟨n6,rfl,an6,bn6⟩,h⟩:=h;obtain⟨_,_,rfl,⟨n7,rfl,an7,bn7⟩,h⟩:=h;obtain⟨_,_,rfl,⟨n8,rfl,an8,bn8⟩,h⟩:=h;obtain⟨_,_,rfl,⟨n9,rfl,an9,bn9⟩,h⟩:=h;obtain⟨_,_,rfl,⟨n10,rfl,an10,bn10⟩,h⟩:=h;obtain⟨_,_,rfl,⟨n11,rfl⟩,h⟩:=h;have h:_=[]:=h;subst h;exact⟨⟨n0,n1,n2,n3,n4,n5,n6,n7,n8,n9,n10,n11⟩,rfl,(⟨bP an0 bn0,bP an1 bn1,bP an2 bn2,bP an3 bn3,bP an4 bn4,bP an5 bn5,bP an6 bn6,bP an7 bn7,bP an8 bn8,bP an9 bn9,bP an10 bn10⟩:dU (⟨n0,n1,n2,n3,n4,n5,n6,n7,n8,n9,n10,n11⟩:ax))⟩
theorem aoL (av:List AV) (h:iL (kC .cell) av):∃x,cells .cell x=av/\okE .cell x:=by
 obtain⟨_,_,rfl,⟨n0,rfl,an0,bn0⟩,h⟩:=h;obtain⟨_,_,rfl,⟨n1,rfl,an1,bn1⟩,h⟩:=h;obtain⟨_,_,rfl,⟨n2,rfl,an2,bn2⟩,h⟩:=h;obtain⟨_,_,rfl,⟨n3,rfl,an3,bn3⟩,h⟩:=h;have h:_=[]:=h;subst h;exact⟨⟨n0,n1,n2,n3⟩,rfl,(⟨bP an0 bn0,bP an1 bn1,bP an2 bn2,bP an3 bn3⟩:Dh (⟨n0,n1,n2,n3⟩:aT))⟩
theorem apy (av:List AV) (h:iL (kC .expo) av):∃x,cells .expo x=av/\okE .expo x:=by
 obtain⟨_,_,rfl,⟨n0,rfl,an0,bn0⟩,h⟩:=h;obtain⟨_,_,rfl,⟨n1,rfl,an1,bn1⟩,h⟩:=h;obtain⟨_,_,rfl,⟨n2,rfl,an2,bn2⟩,h⟩:=h;have h:_=[]:=h;subst h;exact⟨⟨n0,n1,n2⟩,rfl,(⟨bP an0 bn0,bP an1 bn1,bP an2 bn2⟩:ajJ (⟨n0,n1,n2⟩:fA))⟩
theorem amY (av:List AV) (h:iL (kC .state) av):∃x,cells .state x=av/\okE .state x:=by
 obtain⟨_,_,rfl,⟨n0,rfl,an0,bn0⟩,h⟩:=h;obtain⟨_,_,rfl,⟨n1,rfl,an1,bn1⟩,h⟩:=h;obtain⟨_,_,rfl,⟨n2,rfl,on2⟩,h⟩:=h;obtain⟨_,_,rfl,⟨n3,rfl,on3⟩,h⟩:=h;obtain⟨_,_,rfl,⟨n4,rfl,on4⟩,h⟩:=h;obtain⟨_,_,rfl,⟨n5,rfl,on5⟩,h⟩:=h;obtain⟨_,_,rfl,⟨n6,rfl⟩,h⟩:=h;obtain⟨_,_,rfl,⟨n7,rfl,an7,bn7⟩,h⟩:=h;obtain⟨_,_,rfl,⟨n8,rfl,an8,bn8⟩,h⟩:=h;obtain⟨_,_,rfl,⟨n9,rfl,an9,bn9⟩,h⟩:=h;have h:_=[]:=h;subst h;exact⟨⟨n0,n1,n2,n3,n4,n5,n6,n7,n8,n9⟩,rfl,(⟨bP an0 bn0,bP an1 bn1,on2,on3,on4,on5,bP an7 bn7,bP an8 bn8,bP an9 bn9⟩:iW (⟨n0,n1,n2,n3,n4,n5,n6,n7,n8,n9⟩:ay))⟩
theorem aqp (av:List AV) (h:iL (kC .wal) av):∃x,cells .wal x=av/\okE .wal x:=by
 obtain⟨_,_,rfl,⟨n0,rfl,an0,bn0⟩,h⟩:=h;obtain⟨_,_,rfl,⟨n1,rfl,an1,bn1⟩,h⟩:=h;obtain⟨_,_,rfl,⟨n2,rfl,an2,bn2⟩,h⟩:=h;obtain⟨_,_,rfl,⟨n3,rfl,an3,bn3⟩,h⟩:=h;obtain⟨_,_,rfl,⟨n4,rfl,an4,bn4⟩,h⟩:=h;obtain⟨_,_,rfl,⟨n5,rfl,on5⟩,h⟩:=h;have h:_=[]:=h;subst h;exact⟨⟨n0,n1,n2,n3,n4,n5⟩,rfl,(⟨bP an0 bn0,bP an1 bn1,bP an2 bn2,bP an3 bn3,bP an4 bn4,on5⟩:anW (⟨n0,n1,n2,n3,n4,n5⟩:dG))⟩
theorem apA (av:List AV) (h:iL (kC .slot) av):∃x,cells .slot x=av/\okE .slot x:=by
 obtain⟨_,_,rfl,⟨n0,rfl,an0,bn0⟩,h⟩:=h;obtain⟨_,_,rfl,⟨n1,rfl,an1,bn1⟩,h⟩:=h;have h:_=[]:=h;subst h;exact⟨⟨n0,n1⟩,rfl,(⟨bP an0 bn0,bP an1 bn1⟩:ajO (⟨n0,n1⟩:DI))⟩
theorem aqZ (av:List AV) (h:iL (kC .msg) av):∃x,cells .msg x=av/\okE .msg x:=by
 obtain⟨_,_,rfl,⟨n0,rfl,an0,bn0⟩,h⟩:=h;obtain⟨_,_,rfl,⟨n1,rfl,an1,bn1⟩,h⟩:=h;obtain⟨_,_,rfl,⟨n2,rfl,an2,bn2⟩,h⟩:=h;obtain⟨_,_,rfl,⟨n3,rfl,an3,bn3⟩,h⟩:=h;obtain⟨_,_,rfl,⟨n4,rfl,an4,bn4⟩,h⟩:=h;obtain⟨_,_,rfl,⟨n5,rfl,an5,bn5⟩,h⟩:=h;obtain⟨_,_,rfl,⟨n6,rfl,an6,bn6⟩,h⟩:=h;obtain⟨_,_,rfl,⟨n7,rfl,an7,bn7⟩,h⟩:=h;obtain⟨_,_,rfl,⟨n8,rfl,an8,bn8⟩,h⟩:=h;have h:_=[]:=h;subst h;exact⟨⟨n0,n1,n2,n3,n4,n5,n6,n7,n8⟩,rfl,(⟨bP an0 bn0,bP an1 bn1,bP an2 bn2,bP an3 bn3,bP an4 bn4,bP an5 bn5,bP an6 bn6,bP an7 bn7,bP an8 bn8⟩:ani (⟨n0,n1,n2,n3,n4,n5,n6,n7,n8⟩:eU))⟩
theorem apn (av:List AV) (h:iL (kC .note) av):∃x,cells .note x=av/\okE .note x:=by
 obtain⟨_,_,rfl,⟨n0,rfl,an0,bn0⟩,h⟩:=h;obtain⟨_,_,rfl,⟨n1,rfl,an1,bn1⟩,h⟩:=h;obtain⟨_,_,rfl,⟨n2,rfl,an2,bn2⟩,h⟩:=h;obtain⟨_,_,rfl,⟨n3,rfl,an3,bn3⟩,h⟩:=h;obtain⟨_,_,rfl,⟨n4,rfl,an4,bn4⟩,h⟩:=h;have h:_=[]:=h;subst h;exact⟨⟨n0,n1,n2,n3,n4⟩,rfl,(⟨bP an0 bn0,bP an1 bn1,bP an2 bn2,bP an3 bn3,bP an4 bn4⟩:aa1 (⟨n0,n1,n2,n3,n4⟩:uX))⟩
theorem aoU (av:List AV) (h:iL (kC .feed) av):∃x,cells .feed x=av/\okE .feed x:=by
 obtain⟨_,_,rfl,⟨n0,rfl,on0⟩,h⟩:=h;obtain⟨_,_,rfl,⟨n1,rfl⟩,h⟩:=h;have h:_=[]:=h;subst h;exact⟨⟨n0,n1⟩,rfl,(⟨on0⟩:ajX (⟨n0,n1⟩:xG))⟩
theorem apa (av:List AV) (h:iL (kC .gate) av):∃x,cells .gate x=av/\okE .gate x:=by
 obtain⟨_,_,rfl,⟨n0,rfl,on0⟩,h⟩:=h;obtain⟨_,_,rfl,⟨n1,rfl,an1,bn1⟩,h⟩:=h;obtain⟨_,_,rfl,⟨n2,rfl,an2,bn2⟩,h⟩:=h;obtain⟨_,_,rfl,⟨n3,rfl⟩,h⟩:=h;obtain⟨_,_,rfl,⟨n4,rfl,an4,bn4⟩,h⟩:=h;obtain⟨_,_,rfl,⟨n5,rfl,an5,bn5⟩,h⟩:=h;obtain⟨_,_,rfl,⟨n6,rfl,an6,bn6⟩,h⟩:=h;obtain⟨_,_,rfl,⟨n7,rfl,an7,bn7⟩,h⟩:=h;obtain⟨_,_,rfl,⟨n8,rfl,an8,bn8⟩,h⟩:=h;obtain⟨_,_,rfl,⟨n9,rfl,on9⟩,h⟩:=h;obtain⟨_,_,rfl,⟨n10,rfl,an10,bn10⟩,h⟩:=h;obtain⟨_,_,rfl,⟨n11,rfl,an11,bn11⟩,h⟩:=h;obtain⟨_,_,rfl,⟨n12,rfl,on12⟩,h⟩:=h;obtain⟨_,_,rfl,⟨n13,rfl,on13⟩,h⟩:=h;obtain⟨_,_,rfl,⟨n14,rfl,on14⟩,h⟩:=h;obtain⟨_,_,rfl,⟨n15,rfl,on15⟩,h⟩:=h;obtain⟨_,_,rfl,⟨n16,rfl⟩,h⟩:=h;obtain⟨_,_,rfl,⟨n17,rfl,an17,bn17⟩,h⟩:=h;obtain⟨_,_,rfl,⟨n18,rfl,an18,bn18⟩,h⟩:=h;obtain⟨_,_,rfl,⟨n19,rfl,an19,bn19⟩,h⟩:=h;obtain⟨_,_,rfl,⟨n20,rfl,on20⟩,h⟩:=h;obtain⟨_,_,rfl,⟨n21,rfl,on21⟩,h⟩:=h;obtain⟨_,_,rfl,⟨n22,rfl⟩,h⟩:=h;obtain⟨_,_,rfl,⟨n23,rfl,an23,bn23⟩,h⟩:=h;obtain⟨_,_,rfl,⟨n24,rfl⟩,h⟩:=h;have h:_=[]:=h;subst h;exact⟨⟨⟨n0,n1,n2,n3⟩,⟨n4,n5,n6,n7,n8,n9⟩,⟨n10,n11,n12,n13,n14,n15,n16,n17,n18,n19⟩,n20,⟨n21,n22⟩,n23,n24⟩,rfl,(⟨on0,bP an1 bn1,bP an2 bn2,bP an4 bn4,bP an5 bn5,bP an6 bn6,bP an7 bn7,bP an8 bn8,on9,bP an10 bn10,bP an11 bn11,on12,on13,on14,on15,bP an17 bn17,bP an18 bn18,bP an19 bn19,on20,on21,bP an23 bn23⟩:aaY (⟨⟨n0,n1,n2,n3⟩,⟨n4,n5,n6,n7,n8,n9⟩,⟨n10,n11,n12,n13,n14,n15,n16,n17,n18,n19⟩,n20,⟨n21,n22⟩,n23,n24⟩:bM))⟩
theorem alY (av:List AV) (h:iL (kC .piece) av):∃x,cells .piece x=av/\okE .piece x:=by
 obtain⟨_,_,rfl,⟨n0,rfl,an0,bn0⟩,h⟩:=h;obtain⟨_,_,rfl,⟨n1,rfl,on1⟩,h⟩:=h;obtain⟨_,_,rfl,⟨n2,rfl⟩,h⟩:=h;have h:_=[]:=h;subst h;exact⟨⟨n0,n1,n2⟩,rfl,(⟨bP an0 bn0,on1⟩:ah0 (⟨n0,n1,n2⟩:xZ))⟩
theorem akC (av:List AV) (h:iL (kC .reader) av):∃x,cells .reader x=av/\okE .reader x:=by
 obtain⟨_,_,rfl,⟨n0,rfl,on0⟩,h⟩:=h;obtain⟨_,_,rfl,⟨n1,rfl⟩,h⟩:=h;have h:_=[]:=h;subst h;exact⟨⟨n0,n1⟩,rfl,(⟨on0⟩:aed (⟨n0,n1⟩:jW))⟩
theorem aqb (av:List AV) (h:iL (kC .bts) av):∃x,cells .bts x=av/\okE .bts x:=by
 obtain⟨_,_,rfl,⟨n0,rfl,on0⟩,h⟩:=h;have h:_=[]:=h;subst h;exact⟨⟨n0⟩,rfl,(⟨on0⟩:amT (⟨n0⟩:VA))⟩
theorem alF (av:List AV) (h:iL (kC .mender) av):∃x,cells .mender x=av/\okE .mender x:=by
 obtain⟨_,_,rfl,⟨n0,rfl,on0⟩,h⟩:=h;obtain⟨_,_,rfl,⟨n1,rfl,an1,bn1⟩,h⟩:=h;obtain⟨_,_,rfl,⟨n2,rfl,an2,bn2⟩,h⟩:=h;obtain⟨_,_,rfl,⟨n3,rfl⟩,h⟩:=h;obtain⟨_,_,rfl,⟨n4,rfl,an4,bn4⟩,h⟩:=h;have h:_=[]:=h;subst h;exact⟨⟨⟨n0,n1,n2,n3⟩,n4⟩,rfl,(⟨on0,bP an1 bn1,bP an2 bn2,bP an4 bn4⟩:aer (⟨⟨n0,n1,n2,n3⟩,n4⟩:wV))⟩
theorem aoA (av:List AV) (h:iL (kC .next) av):∃x,cells .next x=av/\okE .next x:=by
 obtain⟨_,_,rfl,⟨n0,rfl,an0,bn0⟩,h⟩:=h;obtain⟨_,_,rfl,⟨n1,rfl,an1,bn1⟩,h⟩:=h;have h:_=[]:=h;subst h;exact⟨⟨n0,n1⟩,rfl,(⟨bP an0 bn0,bP an1 bn1⟩:akl (⟨n0,n1⟩:VI))⟩
theorem ar5 (av:List AV) (h:iL (kC .a3) av):∃x,cells .a3 x=av/\okE .a3 x:=by
 obtain⟨_,_,rfl,⟨n0,rfl,an0,bn0⟩,h⟩:=h;obtain⟨_,_,rfl,⟨n1,rfl,an1,bn1⟩,h⟩:=h;obtain⟨_,_,rfl,⟨n2,rfl,an2,bn2⟩,h⟩:=h;have h:_=[]:=h;subst h;exact⟨⟨n0,n1,n2⟩,rfl,(⟨bP an0 bn0,bP an1 bn1,bP an2 bn2⟩:apN (⟨n0,n1,n2⟩:SA3))⟩
theorem arZ (av:List AV) (h:iL (kC .a4) av):∃x,cells .a4 x=av/\okE .a4 x:=by
 obtain⟨_,_,rfl,⟨n0,rfl,an0,bn0⟩,h⟩:=h;obtain⟨_,_,rfl,⟨n1,rfl,an1,bn1⟩,h⟩:=h;obtain⟨_,_,rfl,⟨n2,rfl,an2,bn2⟩,h⟩:=h;obtain⟨_,_,rfl,⟨n3,rfl,an3,bn3⟩,h⟩:=h;have h:_=[]:=h;subst h;exact⟨⟨n0,n1,n2,n3⟩,rfl,(⟨qH an0 bn0,qH an1 bn1,qH an2 bn2,qH an3 bn3⟩:ap1 (⟨n0,n1,n2,n3⟩:SA4))⟩
theorem arw (av:List AV) (h:iL (kC .a6) av):∃x,cells .a6 x=av/\okE .a6 x:=by
 obtain⟨_,_,rfl,⟨n0,rfl,an0,bn0⟩,h⟩:=h;obtain⟨_,_,rfl,⟨n1,rfl,an1,bn1⟩,h⟩:=h;obtain⟨_,_,rfl,⟨n2,rfl,an2,bn2⟩,h⟩:=h;obtain⟨_,_,rfl,⟨n3,rfl,an3,bn3⟩,h⟩:=h;obtain⟨_,_,rfl,⟨n4,rfl,an4,bn4⟩,h⟩:=h;obtain⟨_,_,rfl,⟨n5,rfl,an5,bn5⟩,h⟩:=h;have h:_=[]:=h;subst h;exact⟨⟨n0,n1,n2,n3,n4,n5⟩,rfl,(⟨bP an0 bn0,bP an1 bn1,bP an2 bn2,bP an3 bn3,bP an4 bn4,bP an5 bn5⟩:ap7 (⟨n0,n1,n2,n3,n4,n5⟩:SA6))⟩
theorem aqI (av:List AV) (h:iL (kC .a20) av):∃x,cells .a20 x=av/\okE .a20 x:=by
 obtain⟨_,_,rfl,⟨n0,rfl,an0,bn0⟩,h⟩:=h;obtain⟨_,_,rfl,⟨n1,rfl,an1,bn1⟩,h⟩:=h;obtain⟨_,_,rfl,⟨n2,rfl,an2,bn2⟩,h⟩:=h;obtain⟨_,_,rfl,⟨n3,rfl,an3,bn3⟩,h⟩:=h;obtain⟨_,_,rfl,⟨n4,rfl,an4,bn4⟩,h⟩:=h;obtain⟨_,_,rfl,⟨n5,rfl,an5,bn5⟩,h⟩:=h;obtain⟨_,_,rfl,⟨n6,rfl,an6,bn6⟩,h⟩:=h;obtain⟨_,_,rfl,⟨n7,rfl,an7,bn7⟩,h⟩:=h;obtain⟨_,_,rfl,⟨n8,rfl,an8,bn8⟩,h⟩:=h;obtain⟨_,_,rfl,⟨n9,rfl,an9,bn9⟩,h⟩:=h;obtain⟨_,_,rfl,⟨n10,rfl,an10,bn10⟩,h⟩:=h;obtain⟨_,_,rfl,⟨n11,rfl,an11,bn11⟩,h⟩:=h;obtain⟨_,_,rfl,⟨n12,rfl,an12,bn12⟩,h⟩:=h;obtain⟨_,_,rfl,⟨n13,rfl,an13,bn13⟩,h⟩:=h;obtain⟨_,_,rfl,⟨n14,rfl,an14,bn14⟩,h⟩:=h;obtain⟨_,_,rfl,⟨n15,rfl,an15,bn15⟩,h⟩:=h;obtain⟨_,_,rfl,⟨n16,rfl,an16,bn16⟩,h⟩:=h;obtain⟨_,_,rfl,⟨n17,rfl,an17,bn17⟩,h⟩:=h;obtain⟨_,_,rfl,⟨n18,rfl,an18,bn18⟩,h⟩:=h;obtain⟨_,_,rfl,⟨n19,rfl,an19,bn19⟩,h⟩:=h;have h:_=[]:=h;subst h;exact⟨⟨n0,n1,n2,n3,n4,n5,n6,n7,n8,n9,n10,n11,n12,n13,n14,n15,n16,n17,n18,n19⟩,rfl,(⟨qH an0 bn0,qH an1 bn1,qH an2 bn2,qH an3 bn3,qH an4 bn4,qH an5 bn5,qH an6 bn6,qH an7 bn7,qH an8 bn8,qH an9 bn9,qH an10 bn10,qH an11 bn11,qH an12 bn12,qH an13 bn13,qH an14 bn14,qH an15 bn15,qH an16 bn16,qH an17 bn17,qH an18 bn18,qH an19 bn19⟩:al6 (⟨n0,n1,n2,n3,n4,n5,n6,n7,n8,n9,n10,n11,n12,n13,n14,n15,n16,n17,n18,n19⟩:akR))⟩
theorem aqE (av:List AV) (h:iL (kC .big) av):∃x,cells .big x=av/\okE .big x:=by
 obtain⟨_,_,rfl,⟨n0,rfl,an0,bn0⟩,h⟩:=h;obtain⟨_,_,rfl,⟨n1,rfl,an1,bn1⟩,h⟩:=h;have h:_=[]:=h;subst h;exact⟨⟨n0,n1⟩,rfl,(⟨amZ an0 bn0,amZ an1 bn1⟩:anK (⟨n0,n1⟩:aoR))⟩
theorem apk (av:List AV) (h:iL (kC .went) av):∃x,cells .went x=av/\okE .went x:=by
 obtain⟨_,_,rfl,⟨n0,rfl,on0⟩,h⟩:=h;obtain⟨_,_,rfl,⟨n1,rfl,an1,bn1⟩,h⟩:=h;obtain⟨_,_,rfl,⟨n2,rfl,an2,bn2⟩,h⟩:=h;obtain⟨_,_,rfl,⟨n3,rfl⟩,h⟩:=h;obtain⟨_,_,rfl,⟨n4,rfl,an4,bn4⟩,h⟩:=h;obtain⟨_,_,rfl,⟨n5,rfl,an5,bn5⟩,h⟩:=h;obtain⟨_,_,rfl,⟨n6,rfl,an6,bn6⟩,h⟩:=h;obtain⟨_,_,rfl,⟨n7,rfl,an7,bn7⟩,h⟩:=h;obtain⟨_,_,rfl,⟨n8,rfl,an8,bn8⟩,h⟩:=h;obtain⟨_,_,rfl,⟨n9,rfl,on9⟩,h⟩:=h;obtain⟨_,_,rfl,⟨n10,rfl,an10,bn10⟩,h⟩:=h;obtain⟨_,_,rfl,⟨n11,rfl,an11,bn11⟩,h⟩:=h;obtain⟨_,_,rfl,⟨n12,rfl,on12⟩,h⟩:=h;obtain⟨_,_,rfl,⟨n13,rfl,on13⟩,h⟩:=h;obtain⟨_,_,rfl,⟨n14,rfl,on14⟩,h⟩:=h;obtain⟨_,_,rfl,⟨n15,rfl,on15⟩,h⟩:=h;obtain⟨_,_,rfl,⟨n16,rfl⟩,h⟩:=h;obtain⟨_,_,rfl,⟨n17,rfl,an17,bn17⟩,h⟩:=h;obtain⟨_,_,rfl,⟨n18,rfl,an18,bn18⟩,h⟩:=h;obtain⟨_,_,rfl,⟨n19,rfl,an19,bn19⟩,h⟩:=h;obtain⟨_,_,rfl,⟨n20,rfl,on20⟩,h⟩:=h;obtain⟨_,_,rfl,⟨n21,rfl,on21⟩,h⟩:=h;obtain⟨_,_,rfl,⟨n22,rfl⟩,h⟩:=h;obtain⟨_,_,rfl,⟨n23,rfl,an23,bn23⟩,h⟩:=h;obtain⟨_,_,rfl,⟨n24,rfl⟩,h⟩:=h;obtain⟨_,_,rfl,⟨n25,rfl,on25⟩,h⟩:=h;obtain⟨_,_,rfl,⟨n26,rfl,an26,bn26⟩,h⟩:=h;have h:_=[]:=h;subst h;exact⟨⟨⟨⟨n0,n1,n2,n3⟩,⟨n4,n5,n6,n7,n8,n9⟩,⟨n10,n11,n12,n13,n14,n15,n16,n17,n18,n19⟩,n20,⟨n21,n22⟩,n23,n24⟩,n25,n26⟩,rfl,(⟨on0,bP an1 bn1,bP an2 bn2,bP an4 bn4,bP an5 bn5,bP an6 bn6,bP an7 bn7,bP an8 bn8,on9,bP an10 bn10,bP an11 bn11,on12,on13,on14,on15,bP an17 bn17,bP an18 bn18,bP an19 bn19,on20,on21,bP an23 bn23,on25,bP an26 bn26⟩:ajB (⟨⟨⟨n0,n1,n2,n3⟩,⟨n4,n5,n6,n7,n8,n9⟩,⟨n10,n11,n12,n13,n14,n15,n16,n17,n18,n19⟩,n20,⟨n21,n22⟩,n23,n24⟩,n25,n26⟩:iY))⟩
theorem ais (av:List AV) (h:iL (kC .sleeper) av):∃x,cells .sleeper x=av/\okE .sleeper x:=by
 obtain⟨_,_,rfl,⟨n0,rfl,on0⟩,h⟩:=h;obtain⟨_,_,rfl,⟨n1,rfl,an1,bn1⟩,h⟩:=h;obtain⟨_,_,rfl,⟨n2,rfl,an2,bn2⟩,h⟩:=h;obtain⟨_,_,rfl,⟨n3,rfl⟩,h⟩:=h;obtain⟨_,_,rfl,⟨n4,rfl,an4,bn4⟩,h⟩:=h;obtain⟨_,_,rfl,⟨n5,rfl,an5,bn5⟩,h⟩:=h;obtain⟨_,_,rfl,⟨n6,rfl,an6,bn6⟩,h⟩:=h;obtain⟨_,_,rfl,⟨n7,rfl,an7,bn7⟩,h⟩:=h;obtain⟨_,_,rfl,⟨n8,rfl,an8,bn8⟩,h⟩:=h;obtain⟨_,_,rfl,⟨n9,rfl,on9⟩,h⟩:=h;obtain⟨_,_,rfl,⟨n10,rfl,an10,bn10⟩,h⟩:=h;obtain⟨_,_,rfl,⟨n11,rfl,an11,bn11⟩,h⟩:=h;obtain⟨_,_,rfl,⟨n12,rfl,on12⟩,h⟩:=h;obtain⟨_,_,rfl,⟨n13,rfl,on13⟩,h⟩:=h;obtain⟨_,_,rfl,⟨n14,rfl,on14⟩,h⟩:=h;obtain⟨_,_,rfl,⟨n15,rfl,on15⟩,h⟩:=h;obtain⟨_,_,rfl,⟨n16,rfl⟩,h⟩:=h;obtain⟨_,_,rfl,⟨n17,rfl,an17,bn17⟩,h⟩:=h;obtain⟨_,_,rfl,⟨n18,rfl,an18,bn18⟩,h⟩:=h;obtain⟨_,_,rfl,⟨n19,rfl,an19,bn19⟩,h⟩:=h;obtain⟨_,_,rfl,⟨n20,rfl,on20⟩,h⟩:=h;obtain⟨_,_,rfl,⟨n21,rfl,on21⟩,h⟩:=h;obtain⟨_,_,rfl,⟨n22,rfl⟩,h⟩:=h;obtain⟨_,_,rfl,⟨n23,rfl,an23,bn23⟩,h⟩:=h;obtain⟨_,_,rfl,⟨n24,rfl⟩,h⟩:=h;obtain⟨_,_,rfl,⟨n25,rfl,an25,bn25⟩,h⟩:=h;have h:_=[]:=h;subst h;exact⟨⟨⟨⟨n0,n1,n2,n3⟩,⟨n4,n5,n6,n7,n8,n9⟩,⟨n10,n11,n12,n13,n14,n15,n16,n17,n18,n19⟩,n20,⟨n21,n22⟩,n23,n24⟩,n25⟩,rfl,(⟨on0,bP an1 bn1,bP an2 bn2,bP an4 bn4,bP an5 bn5,bP an6 bn6,bP an7 bn7,bP an8 bn8,on9,bP an10 bn10,bP an11 bn11,on12,on13,on14,on15,bP an17 bn17,bP an18 bn18,bP an19 bn19,on20,on21,bP an23 bn23,bP an25 bn25⟩:acQ (⟨⟨⟨n0,n1,n2,n3⟩,⟨n4,n5,n6,n7,n8,n9⟩,⟨n10,n11,n12,n13,n14,n15,n16,n17,n18,n19⟩,n20,⟨n21,n22⟩,n23,n24⟩,n25⟩:nT))⟩
theorem amX:∀(e:E) (av:List AV),iL (kC e) av->∃x,cells e x=av/\okE e x
 |.u8=>arD
 |.i64=>aqv
 |.bool=>aoY
 |.str=>aqD
 |.file=>aoM
 |.disk=>apb
 |.frame=>amC
 |.recd=>aop
 |.order=>ami
 |.cell=>aoL
 |.expo=>apy
 |.state=>amY
 |.wal=>aqp
 |.slot=>apA
 |.msg=>aqZ
 |.note=>apn
 |.feed=>aoU
 |.gate=>apa
 |.piece=>alY
 |.reader=>akC
 |.bts=>aqb
 |.mender=>alF
 |.next=>aoA
 |.a3=>ar5
 |.a4=>arZ
 |.a6=>arw
 |.a20=>aqI
 |.big=>aqE
 |.went=>apk
 |.sleeper=>ais
end Go.Av
namespace Go.Av
open Go Go.RowKit
set_option linter.unusedVariables false
set_option linter.unusedSimpArgs false
def Qx (P:Program) (f:TypeId->Option (List Kd)):List Field->Nat->Option (List Kd)
 |[],_=>some []
 |fd::r,off=>bif Nat.beq fd.offset off then (match f fd.type with
   |some ks=>bif Nat.beq (P.cellsOf fd.type) ks.length then (match Qx P f r (off+ks.length)with
    |some rs=>some (ks++rs)
    |none=>none)else none
   |none=>none)else none
def aqa (ks:List Kd):Nat->List Kd
 |0=>[]
 |n+1=>ks++aqa ks n
def YH (P:Program) (et:List (Nat×E)):Nat->TypeId->Option (List Kd)
 |0,_=>none
 |n+1,t=>match P.underlying t with
  |some .bool=>some [.bool]
  |some (.int k)=>some [.int k]
  |some .string=>some [.str]
  |some (.slice el)=>(match look et el with
   |some e=>if YH P et n el=some (kC e)/\P.cellsOf el=esz e then some [.ro e]else none
   |none=>none)
  |some (.struct fs)=>(match Qx P (YH P et n) fs.toList 0 with
   |some ks=>if P.cellsOf t=ks.length then some ks else none
   |none=>none)
  |some (.array m el)=>(match YH P et n el with
   |some ks=>if P.cellsOf el=ks.length/\P.cellsOf t=m*ks.length then some (aqa ks m)else none
   |none=>none)
  |_=>none
def Gq (M:Mem) (av:List AV) (vs:List Value):Prop:=av.length=vs.length/\∀i,(h:i<av.length)->(h':i<vs.length)->aY M av[i] vs[i]/\vs[i].oneCell=true
theorem Gq.one {M:Mem} {a:AV} {v:Value} (h:aY M a v) (h1:v.oneCell=true):Gq M [a] [v]:=⟨rfl,fun i hi _=>by
 have:i=0:=by simpa using hi
 subst this
 exact⟨h,h1⟩⟩
theorem Gq.app {M:Mem} {a b:List AV} {vs us:List Value} (h:Gq M a vs) (k:Gq M b us):Gq M (a++b) (vs++us):=⟨by simp [h.1,k.1],fun i h1 h2=>by
 by_cases hi:i<a.length
 ·have hi':i<vs.length:=h.1▸hi;rw[List.getElem_append_left hi,List.getElem_append_left hi'];exact h.2 i hi hi'
 ·have hi':¬i<vs.length:=h.1▸hi;rw[List.getElem_append_right (by omega),List.getElem_append_right (by omega)];have h3:i - a.length<b.length:=by simp at h1;omega
  have:=k.2 (i - a.length) h3 (by rw[<-k.1];exact h3)
  simpa [h.1] using this⟩
theorem WC:∀ {k1 k2:List Kd} {a b:List AV},iL k1 a->iL k2 b->iL (k1++k2) (a++b)
 |[],k2,a,b,h1,h2=>by
  have:a=[]:=h1
  subst this;exact h2
 |k::k1,k2,a,b,h1,h2=>by
  obtain⟨c,r,rfl,h3,h4⟩:=h1
  exact⟨c,r++b,rfl,h3,WC h4 h2⟩
def Mem.all (w:World):Mem:={ U:=fun _=>False,F:=fun b=>b<w.heap.size,β:=fun _=>none,hp:=fun _=>none,H:=w.heap }
theorem Mem.all_rel (w:World) (hg:EM (fun b=>b<w.heap.size) w.heap):jd (Mem.all w):=jd.mk' hg (fun _ _ h=>by cases h) (fun _ _ h=>by cases h) (fun _ _ _ h=>by cases h) (fun _ _ _ _ _ h=>by cases h)
theorem ZV {α:Type} {Q:Nat->α->Prop}:∀(n:Nat),(∀i,i<n->∃x,Q i x)->∃l:List α,l.length=n/\∀i,(h:i<l.length)->Q i l[i]
 |0,_=>⟨[],rfl,fun i h=>by simp at h⟩
 |n+1,h=>by
  obtain⟨l,h1,h2⟩:=ZV n fun i hi=>h i (by omega)
  obtain⟨x,hx⟩:=h n (by omega)
  refine⟨l++[x],by simp [h1],fun i hi=> ?_⟩
  by_cases hin:i<l.length
  ·rw[List.getElem_append_left hin];exact h2 i hin
  ·have:i=n:=by simp [h1]at hi hin;omega
   subst this
   simpa [h1] using hx
theorem Yu {α β:Type} {f:α->Option β}:∀ {l:List α} {r:List β},l.mapM f=some r->∀x∈l,∃y,f x=some y
 |[],_,_,x,hx=>by cases hx
 |a::l,r,h,x,hx=>by
  simp only[List.mapM_cons,bind,Option.bind_eq_some_iff,pure]at h
  obtain⟨b,h1,bs,h2,_⟩:=h
  rcases List.mem_cons.1 hx with rfl | hx
  ·exact⟨b,h1⟩
  ·exact Yu h2 x hx
theorem aj3 {α:Type} (p:α->Prop):okL p []:=⟨fun x hx=>(by cases hx),by simp⟩
theorem akV {w:World} {e:E} {a:Addr} {len cap:Nat} (hl:len<=cap) (hm:cap<=maxLen) (h:∀i,i<len->∃x:den e,okE e x/\∀k,k<esz e->∃u,w.cell? ((a.add (i*esz e)).add k)=some u/\aY (Mem.all w) (nth (cells e x) k) u):
 ∃l:List (den e),aY (Mem.all w) (.ro e l false) (.slice (some a) len cap)/\okL (okE e) l:=by
 obtain⟨l,h1,h2'⟩:=ZV len h
 have h2:=fun i hi=>(h2' i hi).2
 have hok:okL (okE e) l:=⟨fun x hx=>by
  obtain⟨i,hi,rfl⟩:=List.getElem_of_mem hx
  exact(h2' i hi).1,by unfold maxLen at hm;omega⟩
 cases hlen:len with
 |zero=>exact⟨[],.roE e false (some a) cap (by simp),aj3 _⟩
 |succ m=>
  have h0:0<l.length:=by omega
  have hz:0<esz e:=Nat.pos_of_ne_zero (wS e)
  obtain⟨u,hu,_⟩:=h2 0 h0 0 hz
  have ha0:(a.add (0*esz e)).add 0=a:=by simp [Addr.add]
  rw[ha0]at hu
  obtain⟨b,o,sp⟩:=a
  have hsp:sp=none:=by
   unfold World.cell? at hu
   split at hu
   ·cases sp with
    |none=>rfl
    |some q=>simp at hu
   ·cases hu
  subst hsp
  have hb:b<w.heap.size:=by
   unfold World.cell? at hu
   split at hu
   ·rename_i hh;exact(Array.getElem?_eq_some_iff.1 hh).1
   ·cases hu
  refine⟨l,?_,hok⟩
  rw[<-hlen,<-h1]
  have hc:∀i k,(hi:i<l.length)->k<esz e->∃u,cellAt w.heap b (o+i*esz e+k)=some u/\aY (Mem.all w) (nth (cells e l[i]) k) u:=fun i k hi hk=>by
   obtain⟨u,g1,g2⟩:=h2 i hi k hk
   rw[Addr.add_mk,Addr.add_mk,YA]at g1
   exact⟨u,g1,g2⟩
  refine .ro e l false b o cap (by omega) (by simp) hb (fun i k=>(cellAt w.heap b (o+i*esz e+k)).getD undef) (fun i k hi hk=> ?_) fun i k hi hk=> ?_
  ·obtain⟨u,g1,_⟩:=hc i k hi hk
   show cellAt w.heap b _=_
   rw[g1];rfl
  ·obtain⟨u,g1,g2⟩:=hc i k hi hk
   rw[g1];exact g2
section
variable {H:Type} {enc:TypeId×Value->H} {P:Program} {w:World} {base:Nat} {spare:Nat->Bool} {held:Bool} {et:List (Nat×E)}
theorem Xx {f:TypeId->Option (List Kd)} {g:TypeId->List Value->Prop} {cs:List Value} (ih:∀t vs ks,g t vs->f t=some ks->∃av,iL ks av/\Gq (Mem.all w) av vs):∀(fs:List Field) (off:Nat) (ks:List Kd),Qx P f fs off=some ks->
 (∀x∈fs,g x.type ((cs.drop x.offset).take (P.cellsOf x.type)))->off+ks.length<=cs.length->∃av,iL ks av/\Gq (Mem.all w) av ((cs.drop off).take ks.length)
 |[],off,ks,h,_,_=>by
  simp only[Qx,Option.some.injEq]at h
  subst h
  exact⟨[],rfl,by simp [Gq]⟩
 |fd::r,off,ks,h,hg,hl=>by
  simp only[Qx]at h
  cases ho:Nat.beq fd.offset off with
  |false=>simp [ho]at h
  |true=>
   have ho:=Nat.eq_of_beq_eq_true ho
   simp only[ho,Y7,cond_true]at h
   cases hf:f fd.type with
   |none=>simp [hf]at h
   |some k1=>
    simp only[hf]at h
    cases hc:Nat.beq (P.cellsOf fd.type) k1.length with
    |false=>simp [hc]at h
    |true=>
     simp only[hc,cond_true]at h
     have hc:=Nat.eq_of_beq_eq_true hc
     cases hr:Qx P f r (off+k1.length)with
     |none=>simp [hr]at h
     |some k2=>
      simp only[hr,Option.some.injEq]at h
      subst h
      simp only[List.length_append]at hl
      obtain⟨a1,m1,s1⟩:=ih fd.type _ k1 (hg fd (by simp)) hf
      rw[ho,hc]at s1
      obtain⟨a2,m2,s2⟩:=Xx ih r (off+k1.length) k2 hr (fun x hx=>hg x (by simp [hx])) (by omega)
      refine⟨a1++a2,WC m1 m2,?_⟩
      have:(cs.drop off).take (k1++k2).length=(cs.drop off).take k1.length++(cs.drop (off+k1.length)).take k2.length:=by
       rw[List.length_append,List.take_add,List.drop_drop]
      rw[this]
      exact s1.app s2
theorem aeo {ks:List Kd} {cs:List Value}:∀(m off:Nat),(∀i,i<m->∃av,iL ks av/\Gq (Mem.all w) av ((cs.drop (off+i*ks.length)).take ks.length))->∃av,iL (aqa ks m) av/\Gq (Mem.all w) av ((cs.drop off).take (m*ks.length))
 |0,off,_=>⟨[],rfl,by simp [Gq]⟩
 |m+1,off,h=>by
  obtain⟨a1,m1,s1⟩:=h 0 (by omega)
  obtain⟨a2,m2,s2⟩:=aeo m (off+ks.length) fun i hi=>by
   have:=h (i+1) (by omega)
   have e:off+(i+1)*ks.length=off+ks.length+i*ks.length:=by rw[Nat.add_mul];omega
   rwa[e]at this
  refine⟨a1++a2,WC m1 m2,?_⟩
  have:(cs.drop off).take ((m+1)*ks.length)=(cs.drop (off+0*ks.length)).take ks.length++(cs.drop (off+ks.length)).take (m*ks.length):=by
   rw[Nat.add_mul,Nat.one_mul,Nat.add_comm (m*ks.length),List.take_add,List.drop_drop];simp
  rw[this]
  exact s1.app s2
theorem ai3 (het:aeT P et):∀(fuel n:Nat) (t:TypeId) (cs:List Value) (r:DataW H×List MemPlace) (ks:List Kd),DataW.trod enc P w base spare held fuel t cs=some r->YH P et n t=some ks->
 ∃av,iL ks av/\Gq (Mem.all w) av cs:=by
 intro fuel
 induction fuel with
 |zero=>intro n t cs r ks h _;simp [DataW.trod]at h
 |succ fuel ih=>
  intro n t cs r ks h hk
  cases n with
  |zero=>simp [YH]at hk
  |succ n=>
   unfold YH at hk
   unfold DataW.trod at h
   cases hu:P.underlying t with
   |none=>simp [hu]at hk
   |some d=>
    rw[hu]at hk h
    cases d with
    |bool=>
     simp only[Option.some.injEq]at hk
     subst hk
     split at h
     ·exact⟨_,⟨_,_,rfl,⟨_,rfl⟩,rfl⟩,Gq.one (.bool _) rfl⟩
     all_goals first
      |(rename_i heq _;cases heq;done)
      |(rename_i heq;cases heq;done)
      |(simp_all;done)
    |int k=>
     simp only[Option.some.injEq]at hk
     subst hk
     split at h
     case h_2=>
      rename_i k1 k' m heq
      cases heq
      split at h
      ·rename_i hc
       obtain⟨rfl,hwf⟩:=hc
       rw[Lit.wf,Bool.and_eq_true,decide_eq_true_eq,decide_eq_true_eq]at hwf
       exact⟨_,⟨_,_,rfl,⟨_,rfl,hwf.1,hwf.2⟩,rfl⟩,Gq.one (.int _ _) rfl⟩
      ·cases h
     all_goals first
      |(rename_i heq _;cases heq;done)
      |(rename_i heq;cases heq;done)
      |(simp_all;done)
    |string=>
     simp only[Option.some.injEq]at hk
     subst hk
     split at h
     case h_4=>
      rename_i s heq
      split at h
      ·rename_i hsz
       exact⟨_,⟨_,_,rfl,⟨_,rfl,hsz⟩,rfl⟩,Gq.one (.str _ _ rfl) rfl⟩
      ·cases h
     all_goals first
      |(rename_i heq _;cases heq;done)
      |(rename_i heq;cases heq;done)
      |(simp_all;done)
    |slice el=>
     simp only at hk
     cases he:look et el with
     |none=>simp [he]at hk
     |some e=>
      simp only[he]at hk
      split at hk
      ·rename_i hc
       obtain⟨hke,hsz⟩:=hc
       simp only[Option.some.injEq]at hk
       subst hk
       split at h
       case h_7=>exact⟨_,⟨_,_,rfl,⟨[],rfl,aj3 _⟩,rfl⟩,Gq.one (.roE _ _ _ _ (by simp)) rfl⟩
       case h_8=>
        rename_i e' a len cap heq
        cases heq
        simp only at h
        split at h
        ·rename_i hb
         simp only[Option.bind_eq_some_iff]at h
         obtain⟨elems,h1,_⟩:=h
         obtain⟨l,hl,hok⟩:=akV (w:=w) (e:=e) (a:=a) (len:=len) (cap:=cap) hb.2.1 hb.2.2 fun i hi=>by
          obtain⟨y,hy⟩:=Yu h1 i (List.mem_range.2 hi)
          simp only[Option.bind_eq_some_iff]at hy
          obtain⟨ci,hci,hti⟩:=hy
          obtain⟨av,m1,m2⟩:=ih n el ci y _ hti hke
          obtain⟨x,hx,hox⟩:=amX e av m1
          obtain⟨_,hcl,hcg⟩:=World.cells?_some hci
          refine⟨x,hox,fun k hk=> ?_⟩
          have hk1:k<av.length:=by rw[<-hx,oz];exact hk
          have hk2:k<ci.length:=m2.1▸hk1
          obtain⟨q1,_⟩:=m2.2 k hk1 hk2
          have:=hcg k (by rw[hsz];exact hk)
          rw[List.getElem?_eq_getElem hk2,hsz]at this
          refine⟨_,this,?_⟩
          rw[hx,lq _ _ hk1];exact q1
         exact⟨_,⟨_,_,rfl,⟨l,rfl,hok⟩,rfl⟩,Gq.one hl rfl⟩
        ·cases h
       all_goals first
        |(rename_i heq _;cases heq;done)
        |(rename_i heq;cases heq;done)
        |(simp_all;done)
      ·cases hk
    |struct fs=>
     simp only at hk
     cases hf:Qx P (YH P et n) fs.toList 0 with
     |none=>simp [hf]at hk
     |some k1=>
      simp only[hf]at hk
      split at hk
      ·rename_i hsz
       simp only[Option.some.injEq]at hk
       subst hk
       split at h
       case h_9=>
        rename_i cs0 x0 fs' cs' heq
        cases heq
        split at h
        ·rename_i hl
         rw[Option.map_eq_some_iff]at h
         obtain⟨xs,h1,_⟩:=h
         have hall:=Yu h1
         obtain⟨av,m1,m2⟩:=Xx (P:=P) (w:=w) (g:=fun t vs=>∃r,DataW.trod enc P w base spare held fuel t vs=some r) (cs:=cs0) (fun t vs ks ⟨r,hr⟩ hks=>ih n t vs r ks hr hks) fs.toList 0 k1 hf hall (by omega)
         refine⟨av,m1,?_⟩
         rwa[List.drop_zero,List.take_of_length_le (by omega)]at m2
        ·cases h
       all_goals first
        |(rename_i heq _;cases heq;done)
        |(rename_i heq;cases heq;done)
        |(simp_all;done)
      ·cases hk
    |array m el=>
     simp only at hk
     cases hf:YH P et n el with
     |none=>simp [hf]at hk
     |some k1=>
      simp only[hf]at hk
      split at hk
      ·rename_i hsz
       simp only[Option.some.injEq]at hk
       subst hk
       split at h
       case h_10=>
        rename_i cs0 x0 m' e' cs' heq
        cases heq
        split at h
        ·rename_i hl
         rw[Option.map_eq_some_iff]at h
         obtain⟨xs,h1,_⟩:=h
         have hall:=Yu h1
         obtain⟨av,m1,m2⟩:=aeo (w:=w) (ks:=k1) (cs:=cs0) m 0 fun i hi=>by
          obtain⟨y,hy⟩:=hall i (List.mem_range.2 hi)
          rw[hsz.1]at hy
          rw[Nat.zero_add]
          exact ih n el _ y k1 hy hf
         refine⟨av,m1,?_⟩
         rwa[List.drop_zero,List.take_of_length_le (by omega)]at m2
        ·cases h
       all_goals first
        |(rename_i heq _;cases heq;done)
        |(rename_i heq;cases heq;done)
        |(simp_all;done)
      ·cases hk
    |_=>simp at hk
end
end Go.Av
namespace Go.Av
open Go Go.RowKit
set_option linter.unusedVariables false
set_option linter.unusedSimpArgs false
theorem HY (e:E) (x:den e):vJ e (cells e x)=some x:=by cases e<;>rfl
theorem agU (hp:Nat->Option Ent) (e:E) (x:den e):(ig hp (cells e x)).1=cells e x:=by cases e<;>rfl
def aef:Sh->Bool
 |.buf _=>false
 |.fnv _=>false
 |.rf _=>false
 |_=>true
theorem ahh (hp:Nat->Option Ent) (k:Nat):∀(s:Sh) (x:s.T),aef s=true->gG hp s (encS k s x)=some x
 |.int i,x,_=>by simp [encS,gG]
 |.bool,x,_=>rfl
 |.str,x,_=>rfl
 |.ro e,x,_=>by simp [encS,gG]
 |.val e,x,_=>by simp only[encS,gG];rw[agU,HY]
 |.buf e,x,h=>by cases h
 |.fnv f,x,h=>by cases h
 |.rf f,x,h=>by cases h
theorem abe (hp:Nat->Option Ent):∀(xs:List Sh) (k:Nat) (x:Tup xs),xs.all aef=true->IL hp xs (qF k xs x)=some x
 |[],k,x,_=>rfl
 |[s],k,x,h=>ahh hp k s x (by simpa using h)
 |s::t::r,k,x,h=>by
  rw[List.all_cons,Bool.and_eq_true]at h
  rw[qF,IL,ahh hp k s x.1 h.1]
  simp only
  rw[abe hp (t::r) (k+1) x.2 h.2]
theorem ae4:∀(xs:List Sh) (bs:List AV),xs.all aef=true->fZ iU xs bs=[]
 |[],_,_=>rfl
 |_::_,[],_=>rfl
 |s::r,a::bs,h=>by
  rw[List.all_cons,Bool.and_eq_true]at h
  rw[fZ,ae4 r bs h.2,aa2 (fun e he=>by subst he;cases h.1)];rfl
theorem abS {P:Program} {et:List (Nat×E)} (h:KE P et) {f:Nat} (hb:hasB P f=true) (vals:Array Value) (w:World):(callFunc f vals).run P w= .ok (.enter f vals) w:=by
 unfold hasB at hb;cases hf:P.funcs[f]? with
 |none=>simp [hf]at hb
 |some fn=>
  simp only[hf]at hb;obtain⟨b,hbd⟩:=Option.isSome_iff_exists.1 hb;have h3:(fn.name == "runtime.NumGoroutine")=false:=by
   have:=List.all_eq_true.1 h.nog fn (List.mem_of_getElem? (l:=P.funcs.toList) (i:=f) (by simpa using hf));simpa using this
  simp at h3;simp [callFunc,run_program,hf,hbd,h3]
theorem akL {P:Program} {et:List (Nat×E)} (hS:KE P et) {f:Nat} (hb:hasB P f=true) {xs:List Sh} {run:Tup xs->Option Bool} (hok:bJ P f (mkSpec xs [.bool] true run)) (hxs:xs.all aef=true)
 (x:Tup xs) (hrun:run x=some true) (vals:Array Value) (W:World) (hg:EM (fun b=>b<W.heap.size) W.heap) (hn:vals.size=xs.length) (hs:∀(j:Nat) (a:AV) (v:Value),(qF 0 xs x)[j]? =some a->vals[j]? =some v->aY (Mem.all W) a v):
 Calls P f vals W fun e w'=>e= .returned (.bool true)/\Below W.heap.size W w':=by
 have hl:(qF 0 xs x).length=xs.length:=by rw[qA,lK,vg]
 have h:=hok (Mem.all W) W (fun _=>none) (qF 0 xs x) vals 0 x true (Mem.all_rel W hg) rfl (fun b h=>h) (fun _ _ _ h=>h) (fun _ _ h=>by cases h) (by rw[hn,hl])
  (fun j h1 h2=>hs j _ _ (List.getElem?_eq_getElem h1) (Array.getElem?_eq_getElem h2)) (by
    show NU xs (fun _=>none) (qF 0 xs x)=some x
    unfold NU
    rw[ae4 xs _ hxs,abe _ xs 0 x hxs]
    rfl) hrun
 rcases h with ⟨_,h⟩ | ⟨v,w',h1,_⟩
 ·refine h.mono fun e w' ⟨v,he,N,st,_,hsv,_⟩=> ?_
  have hsv:aY N (.bool true) v:=hsv
  have hv:v= .bool true:=by cases hsv;rfl
  subst hv
  exact⟨he,st.os,st.tape,st.output,st.size,fun k hk=>st.old k hk fun ho=>by obtain⟨_,_,h,_⟩:=ho;cases h⟩
 ·rw[abS hS hb]at h1
  cases h1
def shK:Sh->List Kd
 |.int k=>[.int k]
 |.bool=>[.bool]
 |.str=>[.str]
 |.ro e=>[.ro e]
 |.val e=>kC e
 |.buf _=>[]
 |.fnv _=>[]
 |.rf _=>[]
def arF:Sh->Bool
 |.val _=>true
 |_=>false
theorem Qq {P:Program} {w:World} {r:Reach} {base:Nat} {t:TypeId} {v:Value} (ha:aaI P t=some false) (h:Value.okWide P w r base t v):v.oneCell=true:=by
 unfold aaI at ha;unfold Value.okWide at h;cases hu:P.underlying t with
 |none=>simp [hu]at ha
 |some d=>
  rw[hu]at h;cases d<;>first
   |(simp [hu]at ha;done)
   |(simp only at h
     unfold Cell.okWide at h;rw[hu]at h;cases v<;>first
      |rfl
      |(exfalso;revert h;simp [Cell.ok,hu]))
theorem aim {P:Program} {w:World} {r:Reach} {base:Nat} {t:TypeId} {v:Value} (ha:aaI P t=some true) (h:Value.okWide P w r base t v):∃cs,v= .agg cs:=by
 unfold aaI at ha;unfold Value.okWide at h;cases hu:P.underlying t with
 |none=>simp [hu]at ha
 |some d=>
  rw[hu]at h;cases d<;>first
   |(simp [hu]at ha;done)
   |(obtain⟨cs,h1,_⟩:=h;exact⟨cs,h1⟩)
def ar8:(s:Sh)->s.T->Prop
 |.int k,n=>k.min<=n/\n<=k.max
 |.bool,_=>True
 |.str,x=>aga x
 |.ro e,x=>okL (okE e) x
 |.val e,x=>okE e x
 |.buf _,_=>True
 |.fnv _,_=>True
 |.rf _,_=>True
theorem amN {H:Type} {enc:TypeId×Value->H} {P:Program} {w:World} {base:Nat} {spare:Nat->Bool} {held:Bool} {et:List (Nat×E)} (hS:KE P et) (s:Sh) {t:TypeId} {v:Value} {d:DataW H} {p:List MemPlace}
 (hk:YH P et 16 t=some (shK s)) (ha:aaI P t=some (arF s)) (hn:aef s=true) {r:Reach} {b:Nat} (hval:Value.okWide P w r b t v) (h:DataW.Trod enc P w base spare held t v d p):∃x:s.T,ar8 s x/\∀k,aY (Mem.all w) (encS k s x) v:=by
 obtain⟨fuel,hf⟩:=h
 obtain⟨av,m,hl,hs⟩:=ai3 hS.et fuel 16 t _ _ _ hf hk
 have one:∀(h1:v.oneCell=true) (a:AV),av=[a]->aY (Mem.all w) a v:=fun h1 a he=>by
  subst he
  have hc:=ZI h1
  have:=(hs 0 (by simp) (by rw[hc];simp)).1
  simpa [hc] using this
 cases s with
 |int k=>
  obtain⟨_,_,rfl,⟨n,rfl,g⟩,h⟩:=m
  have h:_=[]:=h
  subst h
  exact⟨n,g,fun _=>one (Qq ha hval) _ rfl⟩
 |bool=>
  obtain⟨_,_,rfl,⟨n,rfl⟩,h⟩:=m
  have h:_=[]:=h
  subst h
  exact⟨n,trivial,fun _=>one (Qq ha hval) _ rfl⟩
 |str=>
  obtain⟨_,_,rfl,⟨n,rfl,g⟩,h⟩:=m
  have h:_=[]:=h
  subst h
  exact⟨n,g,fun _=>one (Qq ha hval) _ rfl⟩
 |ro e=>
  obtain⟨_,_,rfl,⟨n,rfl,g⟩,h⟩:=m
  have h:_=[]:=h
  subst h
  exact⟨n,g,fun _=>one (Qq ha hval) _ rfl⟩
 |val e=>
  obtain⟨cs,rfl⟩:=aim ha hval
  obtain⟨x,hx,hok⟩:=amX e av m
  subst hx
  simp only[Value.cells]at hl hs
  refine⟨x,hok,fun _=> .agg _ _ (by simpa using hl.symm) (fun i hi=> ?_) fun i h1 h2=> ?_⟩
  ·have:=(hs i (by rw[hl];simpa using hi) (by simpa using hi)).2
   simpa using this
  ·have:=(hs i h1 (by simpa using h2)).1
   simpa using this
 |buf e=>cases hn
 |fnv f=>cases hn
 |rf f=>cases hn
end Go.Av
namespace Go.Av
open Go Go.RowKit Go.Shelf Go.Proofs
set_option linter.unusedVariables false
set_option linter.unusedSimpArgs false
structure ahK (P:Program) (ρ:Ren) (f:Nat) (e:E) (nm:String) (ta:Array TypeId):Prop where
 mixed:P.follows .mixedOrders=true
 f22:P.funcs[f]? =some { Body2.n22 ρ with name:=nm,targs:=ta }
 t0:P.underlying (ρ.t 0)=some (.tuple #[])
 t3:P.underlying (ρ.t 3)=some (.int .i64)
 t4:P.underlying (ρ.t 4)=some .bool
 t24:P.underlying (ρ.t 24)=some (.slice (ρ.t 9))
 e9:EOk P (ρ.t 9) e
 ov:∃fn,P.funcs[ρ.f 29]? =some fn∧(fn.name == "runtime.NumGoroutine")=false∧fn.body.isNone=true∧Extern.findNext fn=none∧Extern.find fn=some (Extern.SlicesOverlaps.overlaps #[(ρ.t 24),(ρ.t 24)] #[(ρ.t 4)])
theorem Je {P:Program} {t:TypeId} {d:TypeDesc} (h:P.underlying t=some d) (hd:(match d with | .struct _ | .array _ _=>false | _=>true)=true):∀w,(isAgg t).run P w= .ok false w:=fun w=>by
 unfold isAgg;simp only[Sem.run_bind,fO _ h,Result.andThen_ok];cases d<;>simp_all
section
variable {P:Program} {ρ:Ren} {f:Nat} {e:E} {nm:String} {ta:Array TypeId}
set_option maxHeartbeats 4000000 in
set_option maxRecDepth 100000 in
theorem aoi (L:ahK P ρ f e nm ta) (base:Option Addr) (n c vc:Nat) (va:Option Addr) (w w':World) (v:Value) (hnc:n<=c) (hnil:base=none->c=0)
 (hap:(Builtin.append_ #[(ρ.t 24),(ρ.t 24)] (ρ.t 24) #[.slice base n c,.slice va 1 vc]).run P w= .ok v w'):
 Calls P f #[.slice base n c,.int .i64 n,.slice va 1 vc] w fun e w''=>e= .returned v/\w''=w':=by
 have t0:=L.t0;have t3:=L.t3;have t4:=L.t4;have t24:=L.t24
 have a0:=Je L.t0 rfl;have a3:=Je L.t3 rfl;have a4:=Je L.t4 rfl;have a24:=Je L.t24 rfl
 have u0:=run_underlying L.t0;have u3:=run_underlying L.t3;have u4:=run_underlying L.t4;have u24:=run_underlying L.t24
 have z9:=L.e9.size
 have mixed:=L.mixed
 go_enter L.f22,Body2.n22_ntmps ρ
 cases base with
 |none=>
  have hc0:=hnil rfl
  have hn0:n=0:=by omega
  subst hc0;subst hn0
  go_wp2_with (at_builtin;refine Lib.wpList_append_run _ rfl _ _ _ _ rfl _ _ rfl rfl _ _ hap ?_)
  all_goals (go_ret;exact⟨rfl,rfl⟩)
 |some a=>
  obtain⟨ab,ao,asp⟩:=a
  go_wp2_with (at_builtin;refine Lib.wpList_append_run _ rfl _ _ _ _ rfl _ _ rfl rfl _ _ hap ?_)
  all_goals (go_ret;exact⟨rfl,rfl⟩)
set_option maxHeartbeats 4000000 in
set_option maxRecDepth 100000 in
theorem alJ (L:ahK P ρ f e nm ta) (b off n c i vc:Nat) (va:Addr) (w w1 w2:World) (hi:i<n) (hroom:n+1<=c) (hn63:n+1<=9223372036854775807)
 (hov:∀lb cb,(Extern.SlicesOverlaps.overlaps #[(ρ.t 24),(ρ.t 24)] #[(ρ.t 4)] #[.slice (some va) 1 vc,.slice (some ⟨b,off+(i+1)*esz e,none⟩) lb cb]).run P w= .ok (.bool false) w)
 (hcp1:∀ty dc sc,(Builtin.copy_ #[(ρ.t 24),(ρ.t 24)] ty #[.slice (some ⟨b,off+(i+1)*esz e,none⟩) (n - i) dc,.slice (some ⟨b,off+i*esz e,none⟩) (n+1 - i) sc]).run P w.drew= .ok (goInt ((n - i:Nat):Int)) w1)
 (hcp2:∀ty dc,(Builtin.copy_ #[(ρ.t 24),(ρ.t 24)] ty #[.slice (some ⟨b,off+i*esz e,none⟩) (n+1 - i) dc,.slice (some va) 1 vc]).run P w1= .ok (goInt 1) w2):
 Calls P f #[.slice (some ⟨b,off,none⟩) n c,.int .i64 i,.slice (some va) 1 vc] w fun e w''=>e= .returned (.slice (some ⟨b,off,none⟩) (n+1) c)/\w''=w2:=by
 have t0:=L.t0;have t3:=L.t3;have t4:=L.t4;have t24:=L.t24
 have a0:=Je L.t0 rfl;have a3:=Je L.t3 rfl;have a4:=Je L.t4 rfl;have a24:=Je L.t24 rfl
 have u0:=run_underlying L.t0;have u3:=run_underlying L.t3;have u4:=run_underlying L.t4;have u24:=run_underlying L.t24
 have z9:=L.e9.size
 have mixed:=L.mixed
 have hz2:¬((i:Int)=(n:Int)):=by omega
 have hov':∀lb cb,(callFunc (ρ.f 29) #[.slice (some va) 1 vc,.slice (some ⟨b,off+(i+1)*esz e,none⟩) lb cb]).run P w= .ok (.value (.bool false)) w:=fun lb cb=>by
  obtain⟨fn,h1,h2,h3,h4,h5⟩:=L.ov
  rw[run_callFunc_extern h1 h2 h3 h4 h5,hov]
  rfl
 have hw1:IntKind.i64.wrap ((i:Int)+(1:Int))=(i:Int)+(1:Int):=by rw[IntKind.wrap_i64];omega
 have hb1:(0:Int)<=(i:Int)+(1:Int):=by omega
 have hin:i<=n:=by omega
 have htn:((i:Int)+(1:Int)).toNat=i+1:=by omega
 have hb2:¬(c=i+1):=by omega
 have hb3:(i:Int)<=(n:Int)+(1:Int):=by omega
 have hb4:¬(c=i):=by omega
 obtain⟨vb,vo,vs⟩:=va
 go_enter L.f22,Body2.n22_ntmps ρ
 go_wp2_with (simp only[hov'])
 go_region_law_o (refine step_copy_runI rfl _ _ (ρ.t 24) (ρ.t 24) rfl _ _ (by simp [Act.eval,Act.put]) (by simp [Act.eval,Act.put]) (hcp1 _ _ _) ?_)
 go_wp2_with (at_builtin;refine wpList_copy_runI _ rfl _ _ (ρ.t 24) (ρ.t 24) rfl _ _ rfl rfl (hcp2 _ _) ?_)
 go_ret
 exact⟨rfl,rfl⟩
set_option maxHeartbeats 4000000 in
set_option maxRecDepth 100000 in
theorem ann (L:ahK P ρ f e nm ta) (b off n c i vc nb G:Nat) (va:Addr) (w w1 w2 w3:World) (hi:i<n) (hnc:n<=c) (hroom:c<n+1) (hG:n+1<=G) (hG63:G<=9223372036854775807)
 (hrz:∀ty,(Builtin.append_ #[(ρ.t 24),(ρ.t 3)] ty #[.slice (some ⟨b,off,none⟩) i c,.int .i64 ((n:Int)+1 - (i:Int))]).run P w= .ok (.slice (some ⟨nb,0,none⟩) (n+1) G) w1)
 (hcp1:∀ty dc,(Builtin.copy_ #[(ρ.t 24),(ρ.t 24)] ty #[.slice (some ⟨nb,i*esz e,none⟩) (n+1 - i) dc,.slice (some va) 1 vc]).run P w1= .ok (goInt 1) w2)
 (hcp2:∀ty dc sc,(Builtin.copy_ #[(ρ.t 24),(ρ.t 24)] ty #[.slice (some ⟨nb,(i+1)*esz e,none⟩) (n - i) dc,.slice (some ⟨b,off+i*esz e,none⟩) (n - i) sc]).run P w2.drew= .ok (goInt ((n - i:Nat):Int)) w3):
 Calls P f #[.slice (some ⟨b,off,none⟩) n c,.int .i64 i,.slice (some va) 1 vc] w fun e w''=>e= .returned (.slice (some ⟨nb,0,none⟩) (n+1) G)/\w''=w3:=by
 have t0:=L.t0;have t3:=L.t3;have t4:=L.t4;have t24:=L.t24
 have a0:=Je L.t0 rfl;have a3:=Je L.t3 rfl;have a4:=Je L.t4 rfl;have a24:=Je L.t24 rfl
 have u0:=run_underlying L.t0;have u3:=run_underlying L.t3;have u4:=run_underlying L.t4;have u24:=run_underlying L.t24
 have z9:=L.e9.size
 have mixed:=L.mixed
 have hz2:¬((i:Int)=(n:Int)):=by omega
 have hz3:(c:Int)<(n:Int)+(1:Int):=by omega
 have hGi:¬(G=i):=by omega
 have hGim:¬(G=i+1):=by omega
 have hci:¬(c=i):=by omega
 have hw1:IntKind.i64.wrap ((i:Int)+(1:Int))=(i:Int)+(1:Int):=by rw[IntKind.wrap_i64];omega
 have hb1:(0:Int)<=(i:Int)+(1:Int):=by omega
 have hin:i<=n:=by omega
 have htn:((i:Int)+(1:Int)).toNat=i+1:=by omega
 have hb3:(i:Int)<=(n:Int):=by omega
 obtain⟨vb,vo,vs⟩:=va
 go_enter L.f22,Body2.n22_ntmps ρ
 go_wp2_with (first
  |(at_builtin;refine Lib.wpList_append_run _ rfl _ _ _ _ rfl _ _ rfl rfl _ _ (hrz _) ?_)
  |(at_builtin;refine wpList_copy_runI _ rfl _ _ (ρ.t 24) (ρ.t 24) rfl _ _ rfl rfl (hcp1 _ _) ?_))
 go_region_law_o (refine step_copy_runI rfl _ _ (ρ.t 24) (ρ.t 24) rfl _ _ (by simp [Act.eval,Act.put]) (by simp [Act.eval,Act.put]) (hcp2 _ _ _) ?_)
 go_wp2
 go_ret
 exact⟨rfl,rfl⟩
end
end Go.Av
namespace Go.Av
open Go Go.RowKit Go.Shelf Go.Proofs
set_option linter.unusedVariables false
set_option linter.unusedSimpArgs false
section
variable {P:Program} {ρ:Ren} {f:Nat} {e:E} {nm:String} {ta:Array TypeId} {M:Mem} {w:World} {i:Nat}
theorem aa8 (e:E):0<esz e:=Nat.pos_of_ne_zero fun h=>wS e h
theorem lies (hrel:jd M) {a2:AV} {v2:Value} {x:den e} (hs:aY M a2 v2) (hl:lst M.hp e a2=some [x]) {j:Nat} (hj:a2= .mf j\/∃o n,a2= .ms j o n):
 ∃b vo vc fz l2,v2= .slice (some ⟨b,vo,none⟩) 1 vc/\M.hp j=some ⟨fz,.arr e l2⟩/\M.β j=some b/\∃c t fr,M.H[b]? =some (.cells c t fr)/\E5 (.arr e l2) c fr/\vo<c.size:=by
 have hpos:=aa8 e
 rcases hj with rfl | ⟨o,n,rfl⟩
 ·cases hm:M.hp j with
  |none=>simp [lst,hm]at hl
  |some en=>
   obtain⟨fz,bl⟩:=en
   cases bl with
   |raw cs=>simp [lst,hm]at hl
   |arr t l2=>
    simp only[lst,hm]at hl
    split at hl
    ·rename_i heq
     subst heq
     simp only[Option.some.injEq]at hl
     subst hl
     cases hs with
     |mf _ _ hU h1 h=>
      obtain⟨fz',t',l',a,cap,g1,rfl,g3,g4⟩:=h _ hm
      simp only[Ent.mk.injEq,Blk.arr.injEq]at g1
      obtain⟨rfl,rfl,g1⟩:=g1
      have g1:=eq_of_heq g1
      subst g1
      unfold sG at g4
      cases hb:M.β j with
      |none=>simp only[hb]at g4;simp at g3;omega
      |some b=>
       simp only[hb]at g4
       obtain⟨⟨oo,rfl,hoo⟩,nb,hnb,hnb2⟩:=g4
       simp at g3
       have:oo=0:=by rcases hoo with g | g<;>omega
       subst this
       obtain⟨_,_,c,t2,fr,hc,hz,hlc,_⟩:=hrel.is hm hb
       refine⟨b,0,cap,fz,[x],rfl,rfl,rfl,c,t2,fr,hc,hz,?_⟩
       simp at hlc
       omega
    ·simp at hl
 ·cases hm:M.hp j with
  |none=>simp [lst,hm]at hl
  |some en=>
   obtain⟨fz,bl⟩:=en
   cases bl with
   |raw cs=>simp [lst,hm]at hl
   |arr t l2=>
    simp only[lst,hm]at hl
    split at hl
    ·rename_i heq
     subst heq
     simp only[Option.some.injEq,cZ,dR]at hl
     cases hs with
     |ms _ _ _ _ hU h1 h=>
      obtain⟨fz',t',l',a,cap,g1,rfl,g2,g3,g5,g4⟩:=h _ hm
      simp only[Ent.mk.injEq,Blk.arr.injEq]at g1
      obtain⟨rfl,rfl,g1⟩:=g1
      have g1:=eq_of_heq g1
      subst g1
      have hn1:n=1:=by
       have:=congrArg List.length hl
       simp at this
       omega
      subst hn1
      unfold sG at g4
      cases hb:M.β j with
      |none=>simp only[hb]at g4;omega
      |some b=>
       simp only[hb]at g4
       obtain⟨⟨oo,rfl,hoo⟩,nb,hnb,hnb2⟩:=g4
       have:oo=o*esz t:=by rcases hoo with g | g<;>omega
       subst this
       obtain⟨_,_,c,t2,fr,hc,hz,hlc,_⟩:=hrel.is hm hb
       refine⟨b,_,cap,fz,l2,rfl,rfl,rfl,c,t2,fr,hc,hz,?_⟩
       have:=Nat.mul_le_mul_right (esz t) g2
       rw[Nat.add_mul]at this
       have hlc:l2.length*esz t<=c.size:=hlc
       omega
    ·simp at hl
theorem anV {b o:Nat} {c:Array Value} {t:TypeId} {fr:Nat×Nat} (h:w.heap[b]? =some (.cells c t fr)) (hn:¬(fr.1<=o/\o<fr.2)):w.frozen? ⟨b,o,none⟩=false:=by
 simp only[World.frozen?,h];obtain⟨lo,hi⟩:=fr;simp at hn ⊢;omega
theorem ao0 (L:ahK P ρ f e nm ta) (hu:Ip (.arr e [])=false) (hrel:jd M) (hH:M.H=w.heap) {vb vo vc b:Nat} {l2:List (den e)} {c:Array Value} {t:TypeId} {fr:Nat×Nat}
 (h1:M.H[vb]? =some (.cells c t fr)) (h2:E5 (.arr e l2) c fr) (h3:vo<c.size) {cb:Array Value} {tb:TypeId} {fb:Nat×Nat} (h4:M.H[b]? =some (.cells cb tb fb)) (h5:cb.size≠0) (hne:vb≠b) (ob lb cb':Nat):
 (Extern.SlicesOverlaps.overlaps #[(ρ.t 24),(ρ.t 24)] #[(ρ.t 4)] #[.slice (some ⟨vb,vo,none⟩) 1 vc,.slice (some ⟨b,ob,none⟩) lb cb']).run P w= .ok (.bool false) w:=by
 have hu':Ip (.arr e l2)=false:=by rw[<-hu];cases e<;>rfl
 rw[hH]at h1 h4
 exact Lib.run_overlaps_apart w (ρ.t 24) (ρ.t 4) (ρ.t 9) L.t24 (esz e) L.e9.size ⟨vb,vo,none⟩ ⟨b,ob,none⟩ 1 vc lb cb' hne t tb c.size cb.size (by simp [World.shape?,h1]) (by simp [World.shape?,h4]) h5
  (anV h1 (h2.1 vo h3)) (anV h1 (h2.2 hu'))
theorem al1 {α:Type} (l:List α) (k:Nat) (x:α) (hk:k<l.length):sQ (l.take (k+1)++l.drop k) k [x]=l.take k++x::l.drop k:=by
 unfold sQ;have h1:(l.take (k+1)++l.drop k).take k=l.take k:=by
  rw[List.take_append_of_le_length (by simp;omega),List.take_take];congr 1;omega
 have h2:(l.take (k+1)++l.drop k).drop (k+1)=l.drop k:=by
  rw[List.drop_append_of_le_length (by simp;omega)];simp
 simp [h1,h2]
theorem piece (hrel:jd M) (hH:M.H=w.heap) {id b:Nat} {fz:Bool} {l:List (den e)} (hm:M.hp id=some ⟨fz,.arr e l⟩) (hb:M.β id=some b) (k m:Nat) (hk:k+m<=l.length):
 ∃d:Array Value,(loadCells ⟨b,k*esz e,none⟩ (m*esz e)).run P w= .ok d w/\Ky M e ((l.drop k).take m) d:=by
 have hU:=hrel.used _ _ hm
 obtain⟨_,_,c,t,fr,hc,hz,hlc,_⟩:=hrel.is hm hb
 have hlc:l.length*esz e<=c.size:=hlc
 have hs:aY M (.ms id k m) (.slice (some ⟨b,k*esz e,none⟩) m (l.length - k)):=by
  refine .ms id k m _ hU ⟨_,_,rfl,by omega⟩ fun e' he'=> ?_
  rw[hm]at he'
  cases he'
  refine⟨fz,e,l,_,_,rfl,rfl,hk,by omega,by omega,?_⟩
  unfold sG
  rw[hb]
  refine⟨⟨_,rfl,.inr rfl⟩,c.size,by simp [bsize,hc],?_⟩
  rw[show k+(l.length - k)=l.length by omega]
  exact hlc
 have hl:lst M.hp e (.ms id k m)=some ((l.drop k).take m):=by simp [lst,hm,cZ,dR]
 obtain⟨_,h2⟩:=Cj (P:=P) (w:=w) (fun _ _ h=>h) hrel hH hl hs
 have hlen:((l.drop k).take m).length=m:=by simp;omega
 obtain⟨d,d1,d2⟩:=h2 m (by omega)
 rw[List.take_of_length_le (by omega)]at d2
 exact⟨d,d1,d2⟩
theorem single (hrel:jd M) (hH:M.H=w.heap) {a2:AV} {v2:Value} {x:den e} (hs:aY M a2 v2) (hl:lst M.hp e a2=some [x]):
 (Builtin.lenOf v2).run P w= .ok 1 w/\∃d:Array Value,(Builtin.firstCells (esz e) 1 v2).run P w= .ok d w/\Ky M e [x] d:=by
 obtain⟨h1,h2⟩:=Cj (P:=P) (w:=w) (fun _ _ h=>h) hrel hH hl hs
 obtain⟨d,d1,d2⟩:=h2 1 (by simp)
 exact⟨h1,d,d1,d2⟩
def aa0 (M:Mem) (w:World) (i:Nat) (e:E) (l':List (den e)) (own:List Nat) (v:Value) (w':World):Prop:=
 ∃N,Stp M w N w'/\(∀j,N.hp j=over ((i,some ⟨false,.arr e l'⟩)::dead own) M.hp j)/\aY N (.mf i) v/\∀j,N.U j->M.U j\/(i<=j/\j<i+8)
theorem anw (L:ahK P ρ f e nm ta) (hu:Ip (.arr e [])=false) (hrel:jd M) (hH:M.H=w.heap) (hF:∀b,M.F b->b<w.heap.size) (hi:∀j,i<=j->j<i+8->¬M.U j)
 {id b cap k:Nat} {l:List (den e)} {x:den e} (hm:M.hp id=some ⟨false,.arr e l⟩) (hb:M.β id=some b) (hcapE:∃n,bsize M.H b=some n/\cap*esz e<=n) (hk:k<l.length) (hroom:l.length+1<=cap) (hcap:l.length+1<=68719476736)
 {a2:AV} {v2:Value} (hs:aY M a2 v2) (hl:lst M.hp e a2=some [x]) {j:Nat} (hj:a2= .mf j\/∃o n,a2= .ms j o n) (hij:id≠j):
 ∃v w',Calls P f #[.slice (some ⟨b,0,none⟩) l.length cap,.int .i64 k,v2] w (fun e w''=>e= .returned v/\w''=w')/\aa0 M w i e (l.take k++x::l.drop k) [id] v w':=by
 have hpos:=aa8 e
 obtain⟨vb,vo,vc,fz,l2,rfl,hm2,hb2,c2,t2,fr2,g1,g2,g3⟩:=lies hrel hs hl hj
 obtain⟨_,hnF,cc,ty,fr,hcc,hz,hlcc,hcs⟩:=hrel.is hm hb
 have hlcc:l.length*esz e<=cc.size:=hlcc
 have hcs0:cap*esz e<=cc.size:=by
  obtain⟨n,h1,h2⟩:=hcapE
  have:n=cc.size:=by simpa [bsize,hcc] using h1.symm
  rw[<-this];exact h2
 have hne:vb≠b:=fun h=>hij (hrel.inj id j _ _ b hm hm2 rfl hb (h▸hb2))
 have hc0:cc.size≠0:=by
  have:1*esz e<=l.length*esz e:=Nat.mul_le_mul_right _ (by omega)
  omega
 obtain⟨d1,y3,y4⟩:=piece (P:=P) (w:=w.drew) hrel hH hm hb k (l.length - k) (by omega)
 rw[List.take_of_length_le (by simp)]at y4
 have hdl:(l.drop k).length=l.length - k:=by simp
 have hfit2:(k+1)*esz e+d1.size<=cc.size:=by
  rw[y4.1,<-Nat.add_mul,hdl]
  exact Nat.le_trans (Nat.mul_le_mul_right _ (by omega)) hcs0
 have hst:=Ku (P:=P) b ((k+1)*esz e) ty fr d1.toList 0 cc w.drew (by show w.heap[b]? =_;rw[<-hH];exact hcc) hz (by simpa using hfit2) y4.one
 simp only[Nat.add_zero]at hst
 obtain⟨w1,hw1⟩:∃w1:World,w1={ w.drew with heap:=w.drew.heap.setIfInBounds b (.cells (mW cc ((k+1)*esz e) d1.toList) ty fr) }:=⟨_,rfl⟩
 rw[<-hw1]at hst
 obtain⟨l1,hl1⟩:∃l1,l1=l.take (k+1)++l.drop k:=⟨_,rfl⟩
 have hl1n:l1.length=l.length+1:=by rw[hl1];simp;omega
 have hblk:ru M (.arr e l1) (mW cc ((k+1)*esz e) d1.toList):=by
  refine afz y4.1 hfit2 (by rw[hl1n];exact Nat.le_trans (Nat.mul_le_mul_right _ hroom) hcs0) hcs y4.2 (fun q hq=> ?_)
  subst hl1
  by_cases hq2:q<k+1
  ·refine .inr ⟨by omega,by omega,?_⟩
   rw[List.getElem_append_left (by simp;omega)]
   simp
  ·refine .inl ⟨by simp at hq ⊢; omega,by omega,?_⟩
   rw[List.getElem_append_right (by simp;omega)]
   congr 1
   simp;omega
 have st:=Stp.move (w:=w) (w':=w1) hrel hH hF id i b (hi i (Nat.le_refl _) (by omega)) _ (.arr e l1) hm hb cc _ ty fr hcc (lY _ _ _) (by cases e<;>exact fun h=>h) hblk (by rw[hw1];rfl) (by rw[hw1];rfl) (by rw[hw1];rfl) (by rw[hw1];rfl)
 obtain⟨M1,hM1⟩:∃M1,M1=M.move id i (.arr e l1) b (.cells (mW cc ((k+1)*esz e) d1.toList) ty fr):=⟨_,rfl⟩
 rw[<-hM1]at st
 have hii:id≠i:=fun h=>hi i (Nat.le_refl _) (by omega) (h▸hrel.used _ _ hm)
 have hji:j≠i:=fun h=>hi i (Nat.le_refl _) (by omega) (h▸hrel.used _ _ hm2)
 have p1i:M1.hp i=some ⟨false,.arr e l1⟩:=by rw[hM1];simp [Mem.move,bI]
 have p1j:M1.hp j=M.hp j:=by rw[hM1];simp [Mem.move,dA _ _ hji,dA _ _ (Ne.symm hij)]
 have b1i:M1.β i=some b:=by rw[hM1];simp [Mem.move,bI]
 have hbl:b<M.H.size:=(Array.getElem?_eq_some_iff.1 hcc).1
 have s1:bsize M1.H b=some cc.size:=by rw[hM1];simp [bsize,Mem.move,hbl,lY]
 have hs2:aY M1 a2 (.slice (some ⟨vb,vo,none⟩) 1 vc):=hs.le st.le
 have hl2:lst M1.hp e a2=some [x]:=by
  rcases hj with rfl | ⟨o,n,rfl⟩<;>simp only[lst,p1j]at hl ⊢ <;>exact hl
 obtain⟨z1,d2,z2,z3⟩:=single (P:=P) (w:=w1) st.hrel st.H hs2 hl2
 have hsl:sG M1 i (some ⟨b,k*esz e,none⟩) k (cap - k) (esz e):=by
  unfold sG
  rw[b1i]
  refine⟨⟨_,rfl,.inr rfl⟩,cc.size,s1,?_⟩
  rw[show k+(cap - k)=cap by omega];exact hcs0
 obtain⟨w2,N,q1,q2,q3,q4,q5⟩:=ZF (P:=P) st.hrel st.H (st.Fsz hF) p1i hsl (p:=0) z3 (by simp;omega) (by simp [hl1n];omega)
 simp only[PW _ _ (Nat.zero_mul _)]at q1
 have hcp1:∀ty dc sc,(Builtin.copy_ #[(ρ.t 24),(ρ.t 24)] ty #[.slice (some ⟨b,0+(k+1)*esz e,none⟩) (l.length - k) dc,.slice (some ⟨b,0+k*esz e,none⟩) (l.length+1 - k) sc]).run P w.drew= .ok (goInt ((l.length - k:Nat):Int)) w1:=fun ty dc sc=>by
  have hmn:Nat.min (l.length+1 - k) (l.length - k)=l.length - k:=Nat.min_eq_right (by omega)
  have:=abf (P:=P) (w:=w.drew) (w':=w1) (at':= #[(ρ.t 24),(ρ.t 24)]) (ty:=ty) (base:=some ⟨b,0+(k+1)*esz e,none⟩) (dLen:=l.length - k) (dCap:=dc) (n:=l.length+1 - k) (y:= .slice (some ⟨b,0+k*esz e,none⟩) (l.length+1 - k) sc) (d:=d1) rfl L.t24 L.e9.size rfl
   (by rw[hmn,Nat.zero_add];exact y3) (by simp only[Nat.zero_add];exact hst)
  rw[this,hmn];rfl
 have hcp2:∀ty dc,(Builtin.copy_ #[(ρ.t 24),(ρ.t 24)] ty #[.slice (some ⟨b,0+k*esz e,none⟩) (l.length+1 - k) dc,.slice (some ⟨vb,vo,none⟩) 1 vc]).run P w1= .ok (goInt 1) w2:=fun ty dc=>by
  have hmn:Nat.min 1 (l.length+1 - k)=1:=Nat.min_eq_left (by omega)
  have:=abf (P:=P) (w:=w1) (w':=w2) (at':= #[(ρ.t 24),(ρ.t 24)]) (ty:=ty) (base:=some ⟨b,0+k*esz e,none⟩) (dLen:=l.length+1 - k) (dCap:=dc) (n:=1) (y:= .slice (some ⟨vb,vo,none⟩) 1 vc) (d:=d2) rfl L.t24 L.e9.size rfl
   (by rw[hmn];exact z2) (by simp only[Nat.zero_add];exact q1)
  rw[this,hmn];rfl
 refine⟨_,w2,alJ L b 0 l.length cap k vc ⟨vb,vo,none⟩ w w1 w2 hk hroom (by omega) (fun lb cb=>ao0 L hu hrel hH g1 g2 g3 hcc hc0 hne _ _ _) hcp1 hcp2,N,st.trans q2 hrel hH,fun q=> ?_,?_,fun q hq=> ?_⟩
 ·rw[q3,Nat.add_zero,hl1,al1 l k x hk]
  rw[GK]
  by_cases hq:q=i
  ·subst hq;rw[bI,bI]
  ·rw[dA _ _ hq,dA _ _ hq,hM1]
   simp only[Mem.move,dA _ _ hq]
   show _=over [(id,none)] M.hp q
   rw[lN]
 ·refine .mf i _ (by rw[q4,hM1];exact .inr rfl) rfl fun e' he'=> ?_
  rw[q3,bI]at he'
  cases he'
  rw[Nat.add_zero]
  have hln:(sQ l1 k [x]).length=l.length+1:=by rw[PD _ _ _ (by simp [hl1n];omega),hl1n]
  refine⟨false,e,_,_,cap,rfl,by rw[hln],by rw[hln];exact hroom,?_⟩
  have:sG M1 i (some ⟨b,0,none⟩) 0 cap (esz e):=by
   unfold sG
   rw[b1i]
   exact⟨⟨0,rfl,.inr (by simp)⟩,cc.size,s1,by simpa using hcs0⟩
  exact this.le q2.le (st.hrel.used _ _ p1i) (by rw[q3,bI])
 ·rw[q4,hM1]at hq
  rcases hq with h | h
  ·exact .inl h
  ·exact .inr (by omega)
theorem akI {α:Type} (l r:List α) (k:Nat) (x:α) (hk:k<l.length) (hr:r.length=l.length+1 - k):sQ (sQ (l.take k++r) k [x]) (k+1) (l.drop k)=l.take k++x::l.drop k:=by
 unfold sQ;have h0:(l.take k++r).take k=l.take k:=by
  rw[List.take_append_of_le_length (by simp;omega),List.take_take];congr 1;omega
 rw[h0];have h1:(l.take k++([x]++(l.take k++r).drop (k+[x].length))).take (k+1)=l.take k++[x]:=by
  rw[List.take_append,List.length_take,show min k l.length=k by omega,show k+1 - k=1 by omega,List.take_take,show min (k+1) k=k by omega];simp
 have h2:(l.take k++([x]++(l.take k++r).drop (k+[x].length))).drop (k+1+(l.drop k).length)=[]:=by
  apply List.drop_eq_nil_of_le;simp;omega
 rw[h1,h2];simp
theorem apu (L:ahK P ρ f e nm ta) (hrel:jd M) (hH:M.H=w.heap) (hF:∀b,M.F b->b<w.heap.size) (hi:∀j,i<=j->j<i+8->¬M.U j)
 {id b cap k:Nat} {l:List (den e)} {x:den e} (hm:M.hp id=some ⟨false,.arr e l⟩) (hb:M.β id=some b) (hnc:l.length<=cap) (hk:k<l.length) (hroom:¬l.length+1<=cap) (hcap:l.length+1<=68719476736)
 {a2:AV} {v2:Value} (hs:aY M a2 v2) (hl:lst M.hp e a2=some [x]) {j:Nat} (hj:a2= .mf j\/∃o n,a2= .ms j o n) (hij:id≠j):
 ∃v w',Calls P f #[.slice (some ⟨b,0,none⟩) l.length cap,.int .i64 k,v2] w (fun e w''=>e= .returned v/\w''=w')/\aa0 M w i e (l.take k++x::l.drop k) [id] v w':=by
 have hpos:=aa8 e
 obtain⟨vb,vo,vc,fz,l2,rfl,hm2,hb2,c2,t2,fr2,g1,g2,g3⟩:=lies hrel hs hl hj
 obtain⟨inf,z,i1,i2,i3,i4,i5,i6⟩:=L.e9.zero M
 have hii:id≠i:=fun h=>hi i (Nat.le_refl _) (by omega) (h▸hrel.used _ _ hm)
 have hji:j≠i:=fun h=>hi i (Nat.le_refl _) (by omega) (h▸hrel.used _ _ hm2)
 obtain⟨d0,y1,y2⟩:=piece (P:=P) (w:=w.drew) hrel hH hm hb 0 k (by omega)
 simp only[List.drop_zero]at y2
 obtain⟨G,hG⟩:∃G,G=grownCap w (l.length+1) cap (ρ.t 9):=⟨_,rfl⟩
 have hGn:l.length+1<=G:=by rw[hG];exact grownCap_ge w _ _ _
 have hG63:G<=9223372036854775807:=by
  have:=grownCap_le_maxLen w (l.length+1) cap (ρ.t 9) (by unfold maxLen;omega)
  rw[<-hG]at this
  unfold maxLen at this
  omega
 obtain⟨row,hrow⟩:∃row,row=d0++Builtin.zeroCells z.cells (l.length+1 - k)++Builtin.zeroCells z.cells (G - (l.length+1)):=⟨_,rfl⟩
 obtain⟨w1,hw1⟩:∃w1:World,w1=w.drew.alloc (.cells row (ρ.t 9)):=⟨_,rfl⟩
 have hkk:k+(l.length+1 - k)=l.length+1:=by omega
 have hrz:∀ty,(Builtin.append_ #[(ρ.t 24),(ρ.t 3)] ty #[.slice (some ⟨b,0,none⟩) k cap,.int .i64 ((l.length:Int)+1 - (k:Int))]).run P w= .ok (.slice (some ⟨w.heap.size,0,none⟩) (l.length+1) G) w1:=fun ty=>by
  have hbb:(l.length+1)*inf.bytes<=140737488355328:=by
   have:=Nat.mul_le_mul hcap i4
   omega
  have hb3:(l.length+1 - k)*inf.bytes<=281474976710656:=by
   have:=Nat.mul_le_mul_right inf.bytes (show l.length+1 - k<=l.length+1 by omega)
   omega
  have h:=Lib.run_append_grow_zeros w (ρ.t 24) (ρ.t 3) ty (ρ.t 9) inf z .i64 .i64 L.t24 L.t3 i1 i3 (some ⟨b,0,none⟩) k cap d0.toList
   (by rw[i2];simp only[Builtin.firstCells];rw[Nat.zero_mul]at y1;simpa using y1) (l.length+1 - k) (by omega) (by rw[i2];exact hpos) (by omega) (by omega) hb3 (by rw[hkk];exact growslice_fits (by omega) hbb)
  rw[hkk,<-hG]at h
  rw[show((l.length:Int)+1 - (k:Int))=((l.length+1 - k:Nat):Int) by omega,h,hw1,hrow]
 have hzd:Ky M e (List.replicate (l.length+1 - k) default) (Builtin.zeroCells z.cells (l.length+1 - k)):=by
  refine⟨by rw[size_zeroCells,i5];simp,fun a c ha hc=> ?_⟩
  obtain⟨u,u1,u2⟩:=i6 c hc
  refine⟨u,?_,by simpa using u2⟩
  rw[N7 i5 (by simpa using ha) hc,u1]
 obtain⟨l0,hl0⟩:∃l0,l0=l.take k++List.replicate (l.length+1 - k) (default:den e):=⟨_,rfl⟩
 have hl0n:l0.length=l.length+1:=by rw[hl0];simp;omega
 have hrs:row.size=G*esz e:=by
  rw[hrow]
  simp only[Array.size_append,y2.1,size_zeroCells,i5,<-Nat.add_mul]
  congr 1
  simp;omega
 have hblk:ru M (.arr e l0) row:=by
  refine⟨by rw[hl0n,hrs];exact Nat.mul_le_mul_right _ hGn,?_⟩
  subst hl0
  rw[hrow]
  exact data_append y2 hzd
 have st:=Stp.alloc (w:=w) (w':=w1) hrel hH hF i (hi i (Nat.le_refl _) (by omega)) (.arr e l0) row (ρ.t 9) (0,0) (acC _ _) hblk (by rw[hw1];rfl) (by rw[hw1];rfl) (by rw[hw1];rfl) (by rw[hw1];rfl)
 obtain⟨M1,hM1⟩:∃M1,M1=M.new i ⟨false,.arr e l0⟩ (.cells row (ρ.t 9) (0,0)):=⟨_,rfl⟩
 rw[<-hM1]at st
 have p1i:M1.hp i=some ⟨false,.arr e l0⟩:=by rw[hM1];simp [Mem.new,bI]
 have p1n:∀q,q≠i->M1.hp q=M.hp q:=fun q hq=>by rw[hM1];simp [Mem.new,dA _ _ hq]
 have hsz:M.H.size=w.heap.size:=by rw[hH]
 have b1i:M1.β i=some w.heap.size:=by rw[hM1];simp [Mem.new,bI,hsz]
 have b1d:M1.β id=some b:=by rw[hM1];simp only[Mem.new];rw[dA _ _ hii];exact hb
 have s1:bsize M1.H w.heap.size=some row.size:=by rw[hM1,<-hsz];simp [bsize,Mem.new]
 have hsl:∀q,q<=G->sG M1 i (some ⟨w.heap.size,q*esz e,none⟩) q (G - q) (esz e):=fun q hq=>by
  unfold sG
  rw[b1i]
  refine⟨⟨_,rfl,.inr rfl⟩,row.size,s1,?_⟩
  rw[show q+(G - q)=G by omega,hrs];exact Nat.le_refl _
 have hs2:aY M1 a2 (.slice (some ⟨vb,vo,none⟩) 1 vc):=hs.le st.le
 have hl2:lst M1.hp e a2=some [x]:=by
  rcases hj with rfl | ⟨o,n,rfl⟩<;>simp only[lst,p1n j hji]at hl ⊢ <;>exact hl
 obtain⟨z1,d2,z2,z3⟩:=single (P:=P) (w:=w1) st.hrel st.H hs2 hl2
 obtain⟨w2,M2,q1,q2,q3,q4,q5⟩:=ZF (P:=P) st.hrel st.H (st.Fsz hF) p1i (hsl k (by omega)) (p:=0) z3 (by simp;omega) (by simp [hl0n];omega)
 simp only[PW _ _ (Nat.zero_mul _)]at q1
 rw[Nat.add_zero]at q3
 have hcp1:∀ty dc,(Builtin.copy_ #[(ρ.t 24),(ρ.t 24)] ty #[.slice (some ⟨w.heap.size,k*esz e,none⟩) (l.length+1 - k) dc,.slice (some ⟨vb,vo,none⟩) 1 vc]).run P w1= .ok (goInt 1) w2:=fun ty dc=>by
  have hmn:Nat.min 1 (l.length+1 - k)=1:=Nat.min_eq_left (by omega)
  have:=abf (P:=P) (w:=w1) (w':=w2) (at':= #[(ρ.t 24),(ρ.t 24)]) (ty:=ty) (base:=some ⟨w.heap.size,k*esz e,none⟩) (dLen:=l.length+1 - k) (dCap:=dc) (n:=1) (y:= .slice (some ⟨vb,vo,none⟩) 1 vc) (d:=d2) rfl L.t24 L.e9.size rfl
   (by rw[hmn];exact z2) q1
  rw[this,hmn];rfl
 have p2i:M2.hp i=some ⟨false,.arr e (sQ l0 k [x])⟩:=by rw[q3,bI]
 have p2d:M2.hp id=some ⟨false,.arr e l⟩:=by rw[q3,dA _ _ hii,p1n id hii];exact hm
 have hn1:(sQ l0 k [x]).length=l.length+1:=by rw[PD _ _ _ (by simp [hl0n];omega),hl0n]
 obtain⟨d3,y3,y4⟩:=piece (P:=P) (w:=w2.drew) q2.hrel q2.H p2d (by rw[q5];exact b1d) k (l.length - k) (by omega)
 rw[List.take_of_length_le (by simp)]at y4
 have hsl2:sG M2 i (some ⟨w.heap.size,(k+1)*esz e,none⟩) (k+1) (G - (k+1)) (esz e):=(hsl (k+1) (by omega)).le q2.le (st.hrel.used _ _ p1i) p2i
 obtain⟨w3,M3,r1,r2,r3,r4,r5⟩:=ZF (P:=P) (w:=w2.drew) q2.hrel q2.H ((st.trans q2 hrel hH).Fsz hF) p2i hsl2 (p:=0) y4 (by simp;omega) (by simp [hn1];omega)
 simp only[PW _ _ (Nat.zero_mul _)]at r1
 rw[Nat.add_zero,hl0,akI l _ k x hk (by simp)]at r3
 have hcp2:∀ty dc sc,(Builtin.copy_ #[(ρ.t 24),(ρ.t 24)] ty #[.slice (some ⟨w.heap.size,(k+1)*esz e,none⟩) (l.length - k) dc,.slice (some ⟨b,0+k*esz e,none⟩) (l.length - k) sc]).run P w2.drew= .ok (goInt ((l.length - k:Nat):Int)) w3:=fun ty dc sc=>by
  have hmn:Nat.min (l.length - k) (l.length - k)=l.length - k:=Nat.min_eq_right (Nat.le_refl _)
  have:=abf (P:=P) (w:=w2.drew) (w':=w3) (at':= #[(ρ.t 24),(ρ.t 24)]) (ty:=ty) (base:=some ⟨w.heap.size,(k+1)*esz e,none⟩) (dLen:=l.length - k) (dCap:=dc) (n:=l.length - k) (y:= .slice (some ⟨b,0+k*esz e,none⟩) (l.length - k) sc) (d:=d3) rfl L.t24 L.e9.size rfl
   (by rw[hmn,Nat.zero_add];exact y3) r1
  rw[this,hmn];rfl
 have r2':Stp M2 w2 M3 w3:=⟨r2.le,r2.H,r2.hrel,r2.os,r2.tape,r2.output,r2.size,r2.old,r2.own,r2.Fin,r2.Fsz⟩
 have st3:Stp M w M3 w3:=(st.trans q2 hrel hH).trans r2' hrel hH
 have p3i:M3.hp i=some ⟨false,.arr e (l.take k++x::l.drop k)⟩:=by rw[r3,bI]
 have st4:=Stp.drop (w:=w3) r2'.hrel r2'.H id
 refine⟨_,w3,ann L b 0 l.length cap k vc w.heap.size G ⟨vb,vo,none⟩ w w1 w2 w3 hk hnc (by omega) hGn hG63 hrz hcp1 hcp2,M3.drop id,st3.trans st4 hrel hH,fun q=> ?_,?_,fun q hq=> ?_⟩
 ·show Af M3.hp id none q=_
  rw[GK]
  by_cases hq:q=i
  ·subst hq;rw[dA _ _ (Ne.symm hii),p3i,bI]
  ·rw[dA _ _ hq]
   show _=over [(id,none)] M.hp q
   rw[lN]
   by_cases hq2:q=id
   ·subst hq2;rw[bI,bI]
   ·rw[dA _ _ hq2,dA _ _ hq2,r3,dA _ _ hq,q3,dA _ _ hq,p1n q hq]
 ·have p4i:(M3.drop id).hp i=some ⟨false,.arr e (l.take k++x::l.drop k)⟩:=by
   show Af M3.hp id none i=_
   rw[dA _ _ (Ne.symm hii),p3i]
  refine .mf i _ ((st3.trans st4 hrel hH).hrel.used _ _ p4i) rfl fun e' he'=> ?_
  rw[p4i]at he'
  cases he'
  have hln:(l.take k++x::l.drop k).length=l.length+1:=by simp;omega
  refine⟨false,e,_,_,G,rfl,by rw[hln],by rw[hln];exact hGn,?_⟩
  have:=hsl 0 (Nat.zero_le _)
  rw[Nat.zero_mul,Nat.sub_zero]at this
  exact this.le ((q2.trans r2' st.hrel st.H).trans st4 st.hrel st.H).le (st.hrel.used _ _ p1i) p4i
 ·have:M3.U q:=hq
  rw[r4,q4,hM1]at this
  rcases this with h | h
  ·exact .inl h
  ·exact .inr (by omega)
def adR:AV->List Nat
 |.mf id=>[id]
 |_=>[]
def aqH {α:Type} (a b d:α):Operand->α
 |.tmp 0=>a
 |.tmp 1=>b
 |_=>d
theorem acI (L:ahK P ρ f e nm ta) (hrel:jd M) (hH:M.H=w.heap) (hF:∀b,M.F b->b<w.heap.size) (hi:∀j,i<=j->j<i+8->¬M.U j)
 {n cap:Nat} {base:Option Addr} {l:List (den e)} {x:den e} {a0:AV} (h0:(a0= .nils/\l=[])\/∃id,a0= .mf id/\M.hp id=some ⟨false,.arr e l⟩) (hn:l.length=n) (hnc:n<=cap) (hnil:base=none->cap=0)
 (hs0:aY M a0 (.slice base n cap)) (hcap:l.length+1<=68719476736)
 {a2:AV} {vc:Nat} {va:Option Addr} (hs:aY M a2 (.slice va 1 vc)) (hl:lst M.hp e a2=some [x]):
 ∃v w',Calls P f #[.slice base n cap,.int .i64 n,.slice va 1 vc] w (fun e w''=>e= .returned v/\w''=w')/\aa0 M w i e (l++[x]) (adR a0) v w':=by
 obtain⟨c,hc⟩:∃c:Call,c={ callee:= .builtin .append,args:= #[.tmp 0,.tmp 1],argTypes:= #[ρ.t 24,ρ.t 24] }:=⟨_,rfl⟩
 obtain⟨o,ho⟩:∃o:Oper,o={ dst:=none,op:= .call c,type:=ρ.t 24,pos:= "",after:= #[],guard:=none }:=⟨_,rfl⟩
 obtain⟨ev,hev⟩:∃ev:Operand->AV,ev=aqH a0 a2 .undef:=⟨_,rfl⟩
 obtain⟨rv,hrv⟩:∃rv:Operand->Value,rv=aqH (.slice base n cap) (.slice va 1 vc) undef:=⟨_,rfl⟩
 have e0:ev (.tmp 0)=a0:=by rw[hev];rfl
 have e1:ev (.tmp 1)=a2:=by rw[hev];rfl
 have r0:rv (.tmp 0)= .slice base n cap:=by rw[hrv];rfl
 have r1:rv (.tmp 1)= .slice va 1 vc:=by rw[hrv];rfl
 have H:OpH P M w M.hp rv ev i:=⟨hrel,hH,hF,hi,fun _ _ h=>h,fun y=>by
  rw[hev,hrv]
  unfold aqH
  split
  ·exact hs0
  ·exact hs
  ·exact .undef _⟩
 have hni:Qi P (ρ.t 24)=true:=by simp [Qi,slT,L.t24]
 have hck:UG (aQ l [x])=true:=by simp only[UG,nR,len,aQ,YZ,List.length_append,List.length_singleton];omega
 have hck0:UG ([x]:List (den e))=true:=by simp only[UG,nR,len,YZ];simp
 obtain⟨ob,ef,hap,hob,hv,heff⟩:∃ob ef,U0 M.hp i e (ev (.tmp 0)) (ev (.tmp 1))=some (ob,ef)/\ob=true/\ef.v= .mf i/\
  ∀j,over ef.u M.hp j=over ((i,some ⟨false,.arr e (l++[x])⟩)::dead (adR a0)) M.hp j:=by
  rcases h0 with ⟨rfl,rfl⟩ | ⟨id,rfl,hm⟩
  ·exact⟨_,_,by rw[e0,e1,U0,hl],hck0,rfl,fun j=>rfl⟩
  ·have hne:id≠i:=fun h=>hi i (Nat.le_refl _) (by omega) (h▸hrel.used _ _ hm)
   refine⟨_,_,by rw[e0,e1,U0,hl];simp only[hm,dif_pos];rfl,hck,rfl,fun j=> ?_⟩
   show over [(id,none),(i,some ⟨false,.arr e (l++[x])⟩)] M.hp j=over ((i,some ⟨false,.arr e (l++[x])⟩)::[(id,none)]) M.hp j
   rw[GK id,GK i]
   by_cases h1:j=i
   ·subst h1;rw[dA _ _ (Ne.symm hne),bI,lN,bI]
   ·by_cases h2:j=id
    ·subst h2;rw[bI,dA _ _ h1,lN,bI]
    ·rw[dA _ _ h2,dA _ _ h1,lN,lN,dA _ _ h1,dA _ _ h2]
 obtain⟨nx,val,w',N,g1,g2,g3,g4,g5,g6⟩:=aeO H (o:=o) (c:=c) (by rw[ho]) (by rw[hc]) (x:= .tmp 0) (y:= .tmp 1) (by rw[hc]) (t:=ρ.t 24) (t1:=ρ.t 24) (by rw[hc];rfl) (by rw[hc];rfl) hni L.t24 L.e9 hap hob
 rw[PK (by rw[ho]) (by rw[hc])]at g1
 have hcall:∃v,(Builtin.append_ #[(ρ.t 24),(ρ.t 24)] (ρ.t 24) #[.slice base n cap,.slice va 1 vc]).run P w= .ok v w'/\nx= .value v:=by
  have hcargs:c.args.map rv= #[.slice base n cap,.slice va 1 vc]:=by rw[hc];simp [r0,r1]
  have hct:c.argTypes= #[(ρ.t 24),(ρ.t 24)]:=by rw[hc]
  have hot:o.type=ρ.t 24:=by rw[ho]
  rw[hcargs,hct,hot]at g1
  simp only[Sem.run_bind]at g1
  generalize (Builtin.append_ #[(ρ.t 24),(ρ.t 24)] (ρ.t 24) #[.slice base n cap,.slice va 1 vc]).run P w=res at g1 ⊢
  cases res with
  |ok v w''=>
   simp only[Result.andThen_ok,Sem.run_pure,Result.ok.injEq]at g1
   exact⟨v,by rw[g1.2],g1.1.symm⟩
  |_=>simp [Result.andThen]at g1
 obtain⟨v,hrun,rfl⟩:=hcall
 have hvv:val=v:=by
  rcases g2 with g2 | ⟨g2,_⟩
  ·simpa using g2.symm
  ·cases g2
 subst hvv
 refine⟨val,w',aoi L base n cap vc va w w' val hnc hnil hrun,N,g3,fun j=>by rw[g4,heff],by rw[<-hv];exact g5,fun q hq=> ?_⟩
 exact g6 q hq
theorem akZ {a b c:AV} {id j:Nat} {k:IntKind} (h:GN (fZ iU [.buf e,.int k,.ro e] [a,b,c]) (fZ KW [.buf e,.int k,.ro e] [a,b,c])=true) (ha:a= .mf id) (hc:c= .mf j\/∃o n,c= .ms j o n):id≠j:=by
 obtain⟨_,h2⟩:=Dv h;intro hij;subst hij;subst ha;refine h2 id (by simp [fZ,iU]) ?_;rcases hc with rfl | ⟨o,n,rfl⟩<;>simp [fZ,KW]
theorem aof {hp:Nat->Option Ent} {N:Mem} {ids:List Nat} (hp':∀id e,hp id=some e->M.hp id=some e) (hN:∀j,N.hp j=over (freeze hp ids) M.hp j) {c:AV} {l:List (den e)} {j:Nat} (hc:c= .mf j\/∃o n,c= .ms j o n) (h:gG hp (.ro e) c=some l):lst N.hp e c=some l:=by
 have key:∀fz bl,hp j=some ⟨fz,bl⟩->∃fz',N.hp j=some ⟨fz',bl⟩:=fun fz bl hj=>by
  rw[hN,over,iy];by_cases hm:j∈ids
  ·rw[if_pos hm,hj];exact⟨true,rfl⟩
  ·rw[if_neg hm];exact⟨fz,hp' _ _ hj⟩
 rcases hc with rfl | ⟨o,n,rfl⟩
 ·cases hj:hp j with
  |none=>simp [gG,hj]at h
  |some en=>
   obtain⟨fz,bl⟩:=en;obtain⟨fz',h2⟩:=key _ _ hj;cases bl with
   |raw cs=>simp [gG,hj]at h
   |arr t l2=>simp only[gG,hj]at h;simp only[lst,h2];exact h
 ·cases hj:hp j with
  |none=>simp [gG,hj]at h
  |some en=>
   obtain⟨fz,bl⟩:=en;obtain⟨fz',h2⟩:=key _ _ hj;cases bl with
   |raw cs=>simp [gG,hj]at h
   |arr t l2=>simp only[gG,hj]at h;simp only[lst,h2];exact h
theorem aqQ {C:Cx} (K:CxR C) (L:ahK C.P ρ f e nm ta) (hu:Ip (.arr e [])=false) {run:List (den e)×Int×List (den e)->Option (List (den e))} (hrun:∀x y,run x=some y->afY e x=some y):bJ C.P f (QD e run):=by
 intro M w hp args vals i (x:List (den e)×Int×List (den e)) (y:List (den e)) hrel hH hF hnew hp' hn hs hdec hry;obtain⟨a,b,c,rfl,hob,hdec⟩:∃a b c,args=[a,b,c]/\ownB c=true/\NU [.buf e,.int .i64,.ro e] hp [a,b,c]=some x:=by
  match args,hdec with
  |[a,b,c],hdec=>
   have hdec:(bif ownB c then NU [.buf e,.int .i64,.ro e] hp [a,b,c]else none)=some x:=hdec
   cases ho:ownB c with
   |false=>simp [ho]at hdec
   |true=>simp only[ho,cond_true]at hdec;exact⟨a,b,c,rfl,ho,hdec⟩
  |[],hdec=>exact absurd hdec (by simp [QD])
  |[_],hdec=>exact absurd hdec (by simp [QD])
  |[_,_],hdec=>exact absurd hdec (by simp [QD])
  |_::_::_::_::_,hdec=>exact absurd hdec (by simp [QD])
 have hry:afY e x=some y:=hrun x y hry;unfold NU at hdec;cases hap:GN (fZ iU [.buf e,.int .i64,.ro e] [a,b,c]) (fZ KW [.buf e,.int .i64,.ro e] [a,b,c])with
 |false=>simp [hap]at hdec
 |true=>
 simp only[hap,cond_true]at hdec;obtain⟨l,k,xs⟩:=x;obtain⟨d1,d2,d3⟩:gG hp (.buf e) a=some l/\gG hp (.int .i64) b=some k/\gG hp (.ro e) c=some xs:=by
  simp only[IL]at hdec;cases h1:gG hp (.buf e) a with
  |none=>simp [h1]at hdec
  |some l'=>
   cases h2:gG hp (.int .i64) b with
   |none=>simp [h1,h2]at hdec
   |some k'=>
    cases h3:gG hp (.ro e) c with
    |none=>simp [h1,h2,h3]at hdec
    |some xs'=>
     simp only[h1,h2,h3]at hdec;have:=Option.some.inj hdec;cases this;exact⟨rfl,rfl,rfl⟩
 obtain⟨x0,rfl,hk0,hkl,hcap,rfl⟩:∃x0,xs=[x0]/\0<=k/\k<=len l/\len l+1<=68719476736/\y=aQ (cZ l (itn k)) (x0::dR l (itn k)):=by
  unfold afY at hry;split at hry
  ·rename_i n hx;have hx:xs=[n]:=hx;cases hcn:band (ile 0 k) (band (ile k (len l)) (ile (aB (len l) 1) 68719476736))with
   |false=>simp only[hcn,cnd]at hry;cases hry
   |true=>
    simp only[hcn,cnd,Option.some.injEq]at hry;simp only[uV,nR,aB]at hcn;exact⟨n,hx,hcn.1,hcn.2.1,hcn.2.2,hry.symm⟩
  ·cases hry
 obtain⟨kn,rfl⟩:∃kn:Nat,k=(kn:Int):=⟨k.toNat,by omega⟩;have hkl:kn<=l.length:=by simp only[len]at hkl;omega
 have hcap:l.length+1<=68719476736:=by simp only[len]at hcap;omega
 obtain⟨v0,v1,v2,rfl⟩:∃v0 v1 v2,vals= #[v0,v1,v2]:=by
  have hn:vals.size=3:=hn;refine⟨vals[0],vals[1],vals[2],?_⟩;apply Array.ext
  ·simp [hn]
  ·intro q h1 h2;have:q=0\/q=1\/q=2:=by simp at h2;omega
   rcases this with rfl | rfl | rfl<;>simp
 have s0:aY M a v0:=hs 0 (by simp) (by simp);have s1:aY M b v1:=hs 1 (by simp) (by simp);have s2:aY M c v2:=hs 2 (by simp) (by simp);have hb:b= .int .i64 kn:=by
  cases b with
  |int k' n'=>
   simp only[gG]at d2;cases hk:(IntKind.i64 == k')with
   |false=>simp [hk]at d2
   |true=>
    simp only[hk,cond_true,Option.some.injEq]at d2;have:IntKind.i64=k':=by simpa using hk
    rw[<-this,d2]
  |_=>simp [gG]at d2
 subst hb;cases s1;obtain⟨j,hj⟩:∃j,c= .mf j\/∃o n,c= .ms j o n:=by
  cases c with
  |mf j=>exact⟨j,.inl rfl⟩
  |ms j o n=>exact⟨j,.inr ⟨o,n,rfl⟩⟩
  |_=>simp [ownB]at hob
 obtain⟨N0,st0,h0p,h0U,h0β,h0H⟩:=yY (w:=w) hp' hrel hH (without (fZ iU [.buf e,.int .i64,.ro e] [a,.int .i64 (kn:Int),c]) (wY hp [a,.int .i64 (kn:Int),c])) fun id hid=>J5 hp _ id (ve.1 hid).1;have t0:=s0.le st0.le;have t2:=s2.le st0.le;have hl2:=aof hp' h0p hj d3;have hnew':∀q,i<=q->q<i+8->¬N0.U q:=fun q h1 h2=>by rw[h0U];exact hnew q h1 h2
 have hH0:N0.H=w.heap:=st0.H;have hF0:=st0.Fsz hF;have own:adR a=fZ iU [.buf e,.int .i64,.ro e] [a,.int .i64 (kn:Int),c]:=by
  rcases Bo d1 with ⟨rfl,_⟩ | ⟨id,rfl,_⟩<;>simp [fZ,iU,adR]
 obtain⟨vb,vo,vc,fz,l2,rfl,hm2,hb2,_⟩:=lies st0.hrel t2 hl2 hj
 suffices hh:∃v w',Calls C.P f #[v0,.int .i64 (kn:Int),.slice (some ⟨vb,vo,none⟩) 1 vc] w (fun e w''=>e= .returned v/\w''=w')/\aa0 N0 w i e (l.take kn++x0::l.drop kn) (adR a) v w' by
  obtain⟨v,w',hc,N,n1,n2,n3,n4⟩:=hh;refine .inl ⟨Aj K L.f22 rfl _ w,hc.mono fun e' w'' hr=>⟨v,hr.1,N,?_,fun q=> ?_,n3,fun q hq=> ?_⟩⟩
  ·rw[hr.2];exact st0.trans n1 hrel hH
  ·rw[n2,own];show _=over ([]++([(i,some ⟨false,.arr e (l.take kn++x0::l.drop kn)⟩)]++(dead (fZ iU [.buf e,.int .i64,.ro e] [a,.int .i64 (kn:Int),c])++freeze hp (YQ false (fZ iU [.buf e,.int .i64,.ro e] [a,.int .i64 (kn:Int),c]) hp [a,.int .i64 (kn:Int),c])))) M.hp q;rw[List.nil_append,<-List.append_assoc,kJ,show N0.hp=over (freeze hp (YQ false (fZ iU [.buf e,.int .i64,.ro e] [a,.int .i64 (kn:Int),c]) hp [a,.int .i64 (kn:Int),c])) M.hp from funext h0p]
   rfl
  ·rcases n4 q hq with h | h
   ·exact .inl (by rw[<-h0U];exact h)
   ·exact .inr h
 rcases Bo d1 with ⟨rfl,rfl⟩ | ⟨id,rfl,he2⟩
 ·cases t0;have:kn=0:=by simpa using hkl
  subst this;exact acI L st0.hrel hH0 hF0 hnew' (.inl ⟨rfl,rfl⟩) rfl (Nat.le_refl _) (fun _=>rfl) .nils hcap t2 hl2
 ·have hij:=akZ hap rfl hj;have hm:N0.hp id=some ⟨false,.arr e l⟩:=by
   rw[h0p,over,iy,if_neg (fun hm=>(ve.1 hm).2 (by simp [fZ,iU]))];exact hp' id _ he2
  have t0':=t0;cases t0 with
  |mf _ _ hU h1 h=>
   obtain⟨fz',t',l',ad,cap,g1,rfl,g3,g4⟩:=h _ hm;simp only[Ent.mk.injEq,Blk.arr.injEq]at g1;obtain⟨rfl,rfl,g1⟩:=g1;have g1:=eq_of_heq g1;subst g1;unfold sG at g4;cases hb:N0.β id with
   |none=>
    simp only[hb]at g4;have hl0:l=[]:=List.eq_nil_of_length_eq_zero (by omega);subst hl0;have:kn=0:=by simpa using hkl
    subst this;exact acI L st0.hrel hH0 hF0 hnew' (.inr ⟨id,rfl,hm⟩) rfl g3 (fun _=>g4.1) t0' hcap t2 hl2
   |some bb=>
    simp only[hb]at g4;obtain⟨⟨oo,rfl,hoo⟩,nb,hnb,hnb2⟩:=g4;by_cases hke:kn=l.length
    ·subst hke;have:=acI L st0.hrel hH0 hF0 hnew' (.inr ⟨id,rfl,hm⟩) rfl g3 (fun h=>by cases h) t0' hcap t2 hl2;simpa [adR] using this
    ·have hk:kn<l.length:=by omega
     have hoo0:oo=0:=by rcases hoo with g | g<;>omega
     subst hoo0;by_cases hroom:l.length+1<=cap
     ·exact anw L hu st0.hrel hH0 hF0 hnew' hm hb ⟨nb,hnb,by simpa using hnb2⟩ hk hroom hcap t2 hl2 hj hij
     ·exact apu L st0.hrel hH0 hF0 hnew' hm hb g3 hk hroom hcap t2 hl2 hj hij
def ajb:List Oper->List (Nat×Nat)
 |[]=>[]
 |o::r=>match o.op with
  |.call { callee:= .value (.func g),.. }=>(g,o.type)::ajb r
  |_=>ajb r
def acW:Code->List (Nat×Nat)
 |.seq a b=>acW a++acW b
 |.cond _ a b=>acW a++acW b
 |.region _ ops _=>ajb ops.toList
 |_=>[]
noncomputable def aq1 (P:Program) (f:Nat):Func:=match P.funcs[f]? with
 |some fn=>fn
 |none=>Body2.n22 ⟨fun n=>n,fun n=>n,fun n=>n⟩
def Jj (fn:Func):Ren:=
 let cs:=match fn.body with | some c=>acW c | none=>[]
 ⟨fun n=>match n with
  |29=>(nth2 cs 0).1
  |_=>(nth2 cs 1).1,
  fun n=>match n with
   |24=>fn.params.getD 0 0
   |3=>fn.params.getD 1 0
   |9=>fn.targs.getD 1 0
   |4=>(nth2 cs 0).2
   |_=>(nth2 cs 1).2,
  fun n=>n⟩
where nth2:List (Nat×Nat)->Nat->Nat×Nat
 |[],_=>(0,0)
 |a::_,0=>a
 |_::r,n+1=>nth2 r n
theorem akH {C:Cx} (K:CxR C) (f:Nat) (fn fo:Func) (h1:C.P.funcs[f]? =some { Body2.n22 (Jj fn)with name:=fn.name,targs:=fn.targs }) (h0:C.P.underlying ((Jj fn).t 0)=some (.tuple #[]))
 (h3:C.P.underlying ((Jj fn).t 3)=some (.int .i64)) (h4:C.P.underlying ((Jj fn).t 4)=some .bool) (h24:C.P.underlying ((Jj fn).t 24)=some (.slice ((Jj fn).t 9))) {e:E} (h9:C.ety ((Jj fn).t 9)=some e)
 (g1:C.P.funcs[(Jj fn).f 29]? =some fo) (g2:(fo.name == "runtime.NumGoroutine")=false) (g3:fo.body.isNone=true) (g4:Extern.findNext fo=none)
 (g5:Extern.find fo=some (Extern.SlicesOverlaps.overlaps #[((Jj fn).t 24),((Jj fn).t 24)] #[((Jj fn).t 4)])) (hu:Ip (.arr e [])=false)
 {run:List (den e)×Int×List (den e)->Option (List (den e))} (hrun:∀x y,run x=some y->afY e x=some y):bJ C.P f (QD e run):=
 aqQ K ⟨K.mixed,h1,h0,h3,h4,h24,K.ok.ety _ _ h9,fo,g1,g2,g3,g4,g5⟩ hu hrun
end
end Go.Av
namespace Go.Av
open Go Go.RowKit
set_option linter.unusedVariables false
set_option linter.unusedSimpArgs false
def Zz:Sh->Bool
 |.int _=>true
 |.bool=>true
 |.str=>true
 |_=>false
def amo:(s:Sh)->s.T->Value
 |.int k,n=> .int k n
 |.bool,b=> .bool b
 |.str,l=> .string ⟨l.toArray⟩
 |_,_=>undef
def Y2:(l:List Sh)->Tup l->List Value
 |[],_=>[]
 |[s],x=>[amo s x]
 |s::t::r,x=>amo s x.1::Y2 (t::r) x.2
def anE:List Value->Value
 |[v]=>v
 |l=> .tuple l.toArray
theorem ag5 {hp:Nat->Option Ent}:∀ {s:Sh} {a:AV} {x:s.T},Zz s=true->gG hp s a=some x->∀k,a=encS k s x
 |.int i,a,x,_,h,k=>by
  cases a<;>simp only[gG]at h<;>try cases h
  rename_i j n
  by_cases hij:i=j
  ·subst hij
   simp at h
   subst h;rfl
  ·have:(i == j)=false:=by simp [hij]
   rw[this]at h;cases h
 |.bool,a,x,_,h,k=>by cases a<;>simp only[gG]at h<;>cases h;rfl
 |.str,a,x,_,h,k=>by cases a<;>simp only[gG]at h<;>cases h;rfl
 |.ro _,_,_,h,_,_=>by cases h
 |.val _,_,_,h,_,_=>by cases h
 |.buf _,_,_,h,_,_=>by cases h
 |.fnv _,_,_,h,_,_=>by cases h
 |.rf _,_,_,h,_,_=>by cases h
theorem Zy {M:Mem} {k:Nat}:∀ {s:Sh} {x:s.T} {v:Value},Zz s=true->aY M (encS k s x) v->v=amo s x
 |.int i,x,v,_,h=>by cases h;rfl
 |.bool,x,v,_,h=>by cases h;rfl
 |.str,x,v,_,h=>by
  cases h with
  |str s _ h=>subst h;rfl
 |.ro _,_,_,h,_=>by cases h
 |.val _,_,_,h,_=>by cases h
 |.buf _,_,_,h,_=>by cases h
 |.fnv _,_,_,h,_=>by cases h
 |.rf _,_,_,h,_=>by cases h
theorem adT {M:Mem} {k:Nat}:∀ {s:Sh} {x:s.T},Zz s=true->aY M (encS k s x) (amo s x)
 |.int i,x,_=> .int _ _
 |.bool,x,_=> .bool _
 |.str,x,_=> .str _ _ rfl
 |.ro _,_,h=>by cases h
 |.val _,_,h=>by cases h
 |.buf _,_,h=>by cases h
 |.fnv _,_,h=>by cases h
 |.rf _,_,h=>by cases h
theorem aeG {hp:Nat->Option Ent}:∀ {l:List Sh} {zs:List AV} {x:Tup l},l.all Zz=true->IL hp l zs=some x->∀k,zs=qF k l x
 |[],zs,x,_,h,k=>by
  cases zs with
  |nil=>rfl
  |cons a r=>cases h
 |[s],zs,x,hl,h,k=>by
  cases zs with
  |nil=>cases h
  |cons a r=>
   cases r with
   |nil=>rw[ag5 (by simpa using hl) h k];rfl
   |cons b r=>cases h
 |s::t::r,zs,x,hl,h,k=>by
  rw[List.all_cons,Bool.and_eq_true]at hl
  cases zs with
  |nil=>cases h
  |cons a zs=>
   simp only[IL]at h
   cases h1:gG hp s a with
   |none=>rw[h1]at h;cases h
   |some y=>
    rw[h1]at h
    cases h2:IL hp (t::r) zs with
    |none=>rw[h2]at h;cases h
    |some z=>
     rw[h2]at h
     have h:=Option.some.inj h
     subst h
     rw[ag5 hl.1 h1 k,aeG hl.2 h2 (k+1)];rfl
theorem ad2 {M:Mem}:∀ {l:List Sh} {x:Tup l} {k:Nat} {vs:List Value},l.all Zz=true->vs.length=l.length->(∀(j:Nat) (a:AV) (v:Value),(qF k l x)[j]? =some a->vs[j]? =some v->aY M a v)->vs=Y2 l x
 |[],x,k,vs,_,hn,h=>by
  cases vs with
  |nil=>rfl
  |cons a r=>simp at hn
 |[s],x,k,vs,hl,hn,h=>by
  match vs,hn,h with
  |[v],_,h=>rw[Zy (k:=k) (by simpa using hl) (h 0 _ v rfl rfl)];rfl
  |[],hn,_=>simp at hn
  |_::_::_,hn,_=>simp at hn
 |s::t::r,x,k,vs,hl,hn,h=>by
  rw[List.all_cons,Bool.and_eq_true]at hl
  match vs,hn,h with
  |[],hn,_=>simp at hn
  |v::vs,hn,h=>
   rw[Zy (k:=k) hl.1 (h 0 _ v rfl rfl),ad2 (k:=k+1) hl.2 (by simpa using hn) fun j a v' h1 h2=>h (j+1) a v' h1 h2];rfl
theorem abV {M:Mem}:∀ {l:List Sh} {x:Tup l} {k:Nat},l.all Zz=true->∀(j:Nat) (a:AV) (v:Value),(qF k l x)[j]? =some a->(Y2 l x)[j]? =some v->aY M a v
 |[],x,k,_,j,a,v,h1,h2=>by simp [qF]at h1
 |[s],x,k,hl,j,a,v,h1,h2=>by
  cases j with
  |zero=>cases h1;cases h2;exact adT (by simpa using hl)
  |succ j=>simp [qF]at h1
 |s::t::r,x,k,hl,j,a,v,h1,h2=>by
  rw[List.all_cons,Bool.and_eq_true]at hl
  cases j with
  |zero=>cases h1;cases h2;exact adT hl.1
  |succ j=>exact abV hl.2 j a v h1 h2
theorem acJ:∀ {l:List Sh} {x:Tup l},(Y2 l x).length=l.length
 |[],_=>rfl
 |[_],_=>rfl
 |s::t::r,x=>by simp only[Y2,List.length_cons];rw[acJ];rfl
theorem amQ {M:Mem} {l:List Sh} {x:Tup l} {k:Nat} (hl:l.all Zz=true):aY M (oneOf (qF k l x)) (anE (Y2 l x)):=by
 have hel:(qF k l x).length=l.length:=by rw[qA,lK,vg]
 have hvl:= @acJ l x;have h:= @abV M l x k hl;generalize qF k l x=zs at*;generalize Y2 l x=vs at*
 match zs,vs,hel,hvl,h with
 |[a],[v],_,_,h=>exact h 0 a v rfl rfl
 |[],[],_,_,h=>exact .tup _ _ rfl fun i h=>by simp at h
 |a::b::r,c::d::s,h1,h2,h=>
  have hlen:(c::d::s).length=(a::b::r).length:=by rw[h1,h2]
  refine .tup _ _ (by simpa using hlen) fun i h3 h4=>h i _ _ (List.getElem?_eq_getElem h3) ?_;have h4':i<(c::d::s).length:=by simpa using h4
  rw[List.getElem?_eq_getElem h4'];simp
 |[],_::_,h1,h2,_=>simp at h1;rw[<-h1]at h2;simp at h2
 |[a],[],h1,h2,_=>simp at h1 h2;omega
 |[a],_::_::_,h1,h2,_=>simp at h1 h2;omega
 |_::_::_,[],h1,h2,_=>simp at h1 h2;omega
 |_::_::_,[_],h1,h2,_=>simp at h1 h2;omega
theorem Stp.below {M:Mem} {w w':World} (h:jd M) (hH:M.H=w.heap) (hF:∀b,M.F b->b<w.heap.size) (hb:Below w.heap.size w w'):Stp M w { M with H:=w'.heap } w':=by
 have hold:∀b,b<w.heap.size->w'.heap[b]? =M.H[b]? :=fun b h=>by rw[hb.block b h,hH]
 have hlt:∀id e b,M.hp id=some e->M.β id=some b->b<w.heap.size:=fun id e b h1 h3=>by
  obtain⟨_,_,c,t,fr,hc,_⟩:=h.blk id e b h1 h3;rw[hH]at hc;exact(Array.getElem?_eq_some_iff.1 hc).1
 have hle:Le M { M with H:=w'.heap }:=⟨fun _ h=>h,fun _ h=>h,fun b hb'=>hold b (hF b hb'),fun id e' hU he=>⟨e',he,dK.refl _,rfl⟩,fun id b n hU hne hβ hn=>by
  unfold bsize at*;cases he:M.hp id with
  |none=>exact absurd he hne
  |some e=>rw[show({ M with H:=w'.heap }:Mem).H[b]? =M.H[b]? from hold b (hlt id e b he hβ)];exact hn⟩
 refine⟨hle,rfl,jd.mk' (h.glob.le hle) h.used h.nob (fun id e b h1 h2=> ?_) h.inj,hb.os,hb.tape,hb.output,hb.size,fun b hb' _=>hb.block b hb',fun b hb'=> .inl hb',fun b hb'=> .inl hb',fun g b hb'=>Nat.lt_of_lt_of_le (g b hb') hb.size⟩;obtain⟨g1,g2,c,t,fr,g3,g4,g5⟩:=h.is h1 h2;exact⟨g1,g2,c,t,fr,(hold b (hlt id e b h1 h2)).trans g3,g4,g5.le hle⟩
theorem afV {P:Program} {f:Nat} {xs rs:List Sh} {run:Tup xs->Option (Tup rs)} (hx:xs.all Zz=true) (hr:rs.all Zz=true) (hent:∀(vals:Array Value) (w:World),(callFunc f vals).run P w= .ok (.enter f vals) w)
 (h:∀(x:Tup xs) (y:Tup rs) (w:World),run x=some y->EM (fun b=>b<w.heap.size) w.heap->Calls P f (Y2 xs x).toArray w fun e w'=>e= .returned (anE (Y2 rs y))/\Below w.heap.size w w'):bJ P f (mkSpec xs rs true run):=by
 intro M w hp args vals i (x:Tup xs) (y:Tup rs) hrel hH hF hnew hp' hn hs hdec hry
 have hdec:NU xs hp args=some x:=hdec
 have hry:run x=some y:=hry
 unfold NU at hdec
 cases hap:GN (fZ iU xs args) (fZ KW xs args)with
 |false=>simp [hap]at hdec
 |true=>
 simp only[hap,cond_true]at hdec
 have hae:=aeG hx hdec 0
 subst hae
 have hl:(qF 0 xs x).length=xs.length:=by rw[qA,lK,vg]
 have hv:vals.toList=Y2 xs x:=by
  refine ad2 (M:=M) (k:=0) hx (by simpa [hl] using hn) fun j a v h1 h2=> ?_
  obtain⟨g1,rfl⟩:=List.getElem?_eq_some_iff.1 h1
  obtain⟨g2,rfl⟩:=List.getElem?_eq_some_iff.1 h2
  simpa using hs j g1 (by simpa using g2)
 have hv':vals=(Y2 xs x).toArray:=by rw[<-hv]
 subst hv'
 have own0:∀(l:List Sh) (zs:List AV),l.all Zz=true->fZ iU l zs=[]:=fun l=>by
  induction l with
  |nil=>intro zs _;rfl
  |cons s r ih=>
   intro zs h
   rw[List.all_cons,Bool.and_eq_true]at h
   cases zs with
   |nil=>rfl
   |cons a zs=>rw[fZ,ih zs h.2,aa2 (fun e he=>by subst he;cases h.1)];rfl
 have blk0:∀(l:List Sh) (k:Nat) (y:Tup l),l.all Zz=true->E8 k l y=[]:=fun l=>by
  induction l with
  |nil=>intro k y _;rfl
  |cons s r ih=>
   intro k y h
   rw[List.all_cons,Bool.and_eq_true]at h
   have hb:∀z:s.T,ai4 k s z=[]:=fun z=>by cases s<;>first | rfl | cases h.1
   cases r with
   |nil=>exact hb y
   |cons t r=>
    show ai4 k s y.1++E8 (k+1) (t::r) y.2=[]
    rw[hb,ih (k+1) y.2 h.2];rfl
 refine .inl ⟨hent _ w,(h x y w hry (hrel.glob.mono hF fun b _=>by rw[hH])).mono fun e w' ⟨he,hb⟩=>⟨_,he,_,Stp.below hrel hH hF hb,fun id=> ?_,amQ hr,fun id hU=> .inl hU⟩⟩
 show M.hp id=over ([]++(E8 i rs y++(dead (fZ iU xs (qF 0 xs x))++freeze hp (YQ true (fZ iU xs (qF 0 xs x)) hp (qF 0 xs x))))) M.hp id
 rw[blk0 rs i y hr,own0 xs _ hx]
 rfl
end Go.Av
namespace Go.Av
open Go Go.RowKit Go.Shelf Go.Proofs
set_option linter.unusedVariables false
set_option linter.unusedSimpArgs false
theorem aj8:∀(a b:List UInt8),Lib.compareBytes a b=agi a b
 |[],[]=>rfl
 |[],_::_=>rfl
 |_::_,[]=>rfl
 |a::x,b::y=>by
  have ih:=aj8 x y
  unfold Lib.compareBytes
  rw[ih]
  unfold agi slt seq
  by_cases h1:a<b
  ·simp [Op.bytesLess,h1,cnd]
  ·by_cases h2:b<a
   ·have hne:¬a=b:=fun h=>by subst h;exact h1 h2
    have hne':(a == b)=false:=by simp [hne]
    simp [Op.bytesLess,h1,h2,hne',cnd]
   ·have he:a=b:=UInt8.le_antisymm (UInt8.not_lt.1 h2) (UInt8.not_lt.1 h1)
    subst he
    simp [Op.bytesLess,h1,cnd]
theorem acL {P:Program} {et:List (Nat×E)} (h:KE P et) {f:Nat} (hb:hasB P f=true) (vals:Array Value) (w:World):(callFunc f vals).run P w= .ok (.enter f vals) w:=abS h hb vals w
theorem akD {P:Program} {et:List (Nat×E)} (hS:KE P et) {ρ:Ren} (L:Lays.n106 P ρ) (hb:hasB P (ρ.f 106)=true) {run:List UInt8×List UInt8->Option Int} (hr:∀x y,run x=some y->y=agi x.1 x.2):bJ P (ρ.f 106) (mkSpec [.str,.str] [.int .i64] true run):=
 afV rfl rfl (acL hS hb) fun x y w h _=>by
  obtain⟨a,b⟩:=x
  have:=hr _ _ h
  subst this
  refine(Any.strings_Compare L ⟨a.toArray⟩ ⟨b.toArray⟩ w).mono ?_
  rintro e w' ⟨rfl,rfl⟩
  refine⟨?_,Below.refl _ _⟩
  show _=Ending.returned (.int .i64 (agi a b))
  rw[<-aj8]
theorem afZ:∀(k u:Nat),u<10^(k+1)->NP (k+1) u=Lib.decDigits u
 |0,u,h=>by
  have h:u<10:=by simpa using h
  rw[Lib.decDigits,NP,if_pos h,dif_pos h]
 |k+1,u,h=>by
  rw[Lib.decDigits,NP]
  split
  ·rfl
  ·rw[afZ k (u / 10) (by rw[Nat.pow_succ]at h;omega)]
theorem am3 (n:Int) (h0: -9223372036854775808<=n) (h1:n<=9223372036854775807):fmt10 n=Lib.itoa n:=by
 unfold fmt10 Lib.itoa;have e:(10:Nat)^20=100000000000000000000:=by decide
 rw[afZ 19 n.natAbs (by rw[e];omega),afZ 19 n.toNat (by rw[e];omega)]
theorem aqz {P:Program} {g:Nat} (hn:P.globalNamed "internal/strconv.uint64pow10" =some g) (hm:(g,anQ)∈glL) {w:World} (h:EM (fun b=>b<w.heap.size) w.heap):Lib.TabIs P w "internal/strconv.uint64pow10" .u64 Lib.pow10Tab:=by
 obtain⟨_,c,t,fr,h1,h2⟩:=h _ hm;unfold Lib.TabIs World.var?;have h2:c=_:=h2;simp only[]at h1;simp [hn,h1,h2]
theorem akE {P:Program} {et:List (Nat×E)} (hS:KE P et) {ρ:Ren} (L:LaysM.n173 P ρ) (hb:hasB P (ρ.f 173)=true) {g:Nat} (hn:P.globalNamed "internal/strconv.uint64pow10" =some g) (hm:(g,anQ)∈glL)
 {run:Int×Int->Option (List UInt8)} (hr:∀x y,run x=some y->aln x.1 x.2=some y):bJ P (ρ.f 173) (mkSpec [.int .i64,.int .i64] [.str] true run):=
 afV rfl rfl (acL hS hb) fun x y w h hg=>by
  obtain⟨n,b⟩:=x
  have h:=hr _ _ h
  unfold aln at h
  cases hc:band (ieq b 10) (band (ile (-9223372036854775808) n) (ile n 9223372036854775807))with
  |false=>rw[hc]at h;cases h
  |true=>
   rw[hc]at h
   have h:some (fmt10 n)=some y:=h
   cases h
   simp only[band,ieq,ile,Bool.and_eq_true,decide_eq_true_eq]at hc
   obtain⟨hb10,h0,h1⟩:=hc
   have hb10:b=10:=by simpa using hb10
   subst hb10
   have h0: -9223372036854775808<=n:=h0
   have h1:n<=9223372036854775807:=h1
   refine(Any.strconv_FormatInt_10 L n h0 h1 w (aqz hn hm hg)).mono ?_
   rintro e w' ⟨rfl,k,os,rfl⟩
   refine⟨by rw[<-am3 n h0 h1];rfl,?_⟩
   exact⟨rfl,rfl,rfl,by simp [Sort.grow,World.drewN],fun b hb=>by simp only[Sort.grow,World.drewN];rw[Array.getElem?_append_left hb]⟩
theorem ajY (l:List UInt8):∀c,agz l c=Lib.repeatL l c
 |0=>rfl
 |c+1=>by rw[agz,Lib.repeatL,ajY l c]
theorem ak7 {P:Program} {et:List (Nat×E)} (hS:KE P et) {ρ:Ren} (L:Lays.n105 P ρ) (X:Builder.Extra P ρ) (hb:hasB P (ρ.f 105)=true)
 {run:List UInt8×Int->Option (List UInt8)} (hr:∀x y,run x=some y->ak4 x.1 x.2=some y):bJ P (ρ.f 105) (mkSpec [.str,.int .i64] [.str] true run):=
 afV rfl rfl (acL hS hb) fun x y w h hg=>by
  obtain⟨s,c⟩:=x
  have h:=hr _ _ h
  unfold ak4 at h
  cases hc:band (ile 0 c) (band (ile c 9223372036854775807) (ile (cO (len s) c) 140737488355328))with
  |false=>rw[hc]at h;cases h
  |true=>
   rw[hc]at h
   have h:some (agz s (itn c))=some y:=h
   cases h
   simp only[band,ile,cO,len,Bool.and_eq_true,decide_eq_true_eq]at hc
   obtain⟨h0,h1,h2⟩:=hc
   have h0:0<=c:=by simpa using h0
   have h1:c<=9223372036854775807:=by simpa using h1
   have h2:(s.length:Int)*c<=140737488355328:=of_decide_eq_true h2
   obtain⟨c,rfl⟩:=Int.eq_ofNat_of_zero_le h0
   have h3:s.length*c<=140737488355328:=by
    have:((s.length*c:Nat):Int)<=140737488355328:=by rw[Int.natCast_mul];exact h2
    omega
   refine(Any.strings_Repeat L X ⟨s.toArray⟩ c w (by omega) (by simpa [ByteArray.size] using h3)).mono ?_
   rintro e w' ⟨rfl,hbl⟩
   refine⟨?_,hbl⟩
   show Ending.returned (.string ⟨(Lib.repeatL s c).toArray⟩)=Ending.returned (.string ⟨(agz s (itn (c:Int))).toArray⟩)
   rw[ajY];simp [itn]
end Go.Av
namespace Go.Av
open Go Go.RowKit
set_option linter.unusedVariables false
set_option linter.unusedSimpArgs false
theorem bJ.calls {P:Program} {et:List (Nat×E)} (hS:KE P et) {f:Nat} (hb:hasB P f=true) {xs:List Sh} {r:Sh} {run:Tup xs->Option (Tup [r])} (hok:bJ P f (mkSpec xs [r] true run)) (hx:xs.all Zz=true) (hr:Zz r=true)
 (x:Tup xs) (y:r.T) (hrun:run x=some y) (W:World) (hg:EM (fun b=>b<W.heap.size) W.heap):
 Calls P f (Y2 xs x).toArray W fun e w'=>e= .returned (amo r y)/\Below W.heap.size W w':=by
 have hl:(qF 0 xs x).length=xs.length:=by rw[qA,lK,vg]
 have hnb:xs.all aef=true:=by
  rw[List.all_eq_true]at hx ⊢
  intro s hs
  have:=hx s hs
  cases s<;>first | rfl | cases this
 have h:=hok (Mem.all W) W (fun _=>none) (qF 0 xs x) (Y2 xs x).toArray 0 x y (Mem.all_rel W hg) rfl (fun b h=>h) (fun _ _ _ h=>h) (fun _ _ h=>by cases h) (by simp [acJ,hl])
  (fun j h1 h2=>abV hx j _ _ (List.getElem?_eq_getElem h1) (by simpa using List.getElem?_eq_getElem (by simpa using h2))) (by
    show NU xs (fun _=>none) (qF 0 xs x)=some x
    unfold NU
    rw[ae4 xs _ hnb,abe _ xs 0 x hnb]
    rfl) hrun
 rcases h with ⟨_,h⟩ | ⟨v,w',h1,_⟩
 ·refine h.mono fun e w' ⟨v,he,N,st,_,hsv,_⟩=> ?_
  have hsv:aY N (encS 0 r y) v:=hsv
  rw[Zy hr hsv]at he
  exact⟨he,st.os,st.tape,st.output,st.size,fun k hk=>st.old k hk fun ho=>by obtain⟨_,_,h,_⟩:=ho;cases h⟩
 ·rw[abS hS hb]at h1
  cases h1
end Go.Av
namespace Go.Av
open Go
set_option linter.unusedVariables false
def Vq (c:UInt8):Prop:=48<=c/\c<=57
theorem xB {c:UInt8}:Vq c↔48<=c.toNat/\c.toNat<=57:=by
 unfold Vq;rw[UInt8.le_iff_toNat_le,UInt8.le_iff_toNat_le];rfl
theorem O6 (l:List UInt8) (c:UInt8):wG (l++[c])=wG l*10+(c.toNat - 48):=by
 unfold wG;rw[List.foldl_append];rfl
theorem aco:∀(n:Nat) (l r:List UInt8),l.length=n->r.length=n->(∀c∈l,Vq c)->(∀c∈r,Vq c)->wG l=wG r->l=r
 |0,l,r,h1,h2,_,_,_=>by rw[List.eq_nil_of_length_eq_zero h1,List.eq_nil_of_length_eq_zero h2]
 |n+1,l,r,h1,h2,d1,d2,hv=>by
  obtain⟨l',c,rfl⟩:∃l' c,l=l'++[c]:=⟨l.dropLast,l.getLast (by intro h;rw[h]at h1;cases h1),(List.dropLast_concat_getLast _).symm⟩
  obtain⟨r',e,rfl⟩:∃r' e,r=r'++[e]:=⟨r.dropLast,r.getLast (by intro h;rw[h]at h2;cases h2),(List.dropLast_concat_getLast _).symm⟩
  rw[O6,O6]at hv
  have g1:=xB.1 (d1 c (by simp))
  have g2:=xB.1 (d2 e (by simp))
  simp only[List.length_append,List.length_singleton]at h1 h2
  have ih:=aco n l' r' (by omega) (by omega) (fun x hx=>d1 x (by simp [hx])) (fun x hx=>d2 x (by simp [hx])) (by omega)
  have:c=e:=UInt8.toNat_inj.1 (by omega)
  rw[ih,this]
theorem J9 {u:Nat} (h:u<10):(UInt8.ofNat (48+u)).toNat=48+u:=by
 rw[UInt8.toNat_ofNat'];omega
theorem Yw:∀(k u:Nat),∀c∈NP k u,Vq c
 |0,_,c,h=>by simp [NP]at h
 |k+1,u,c,h=>by
  unfold NP at h
  split at h
  ·rename_i hu
   rw[List.mem_singleton]at h
   subst h
   rw[xB,J9 hu];omega
  ·rcases List.mem_append.1 h with h | h
   ·exact Yw k _ c h
   ·rw[List.mem_singleton]at h
    subst h
    rw[xB,J9 (Nat.mod_lt _ (by decide))]
    have:=Nat.mod_lt u (show 10>0 by decide)
    omega
theorem abQ:∀(k u:Nat),u<10^k->wG (NP k u)=u
 |0,u,h=>by simp at h;subst h;rfl
 |k+1,u,h=>by
  unfold NP
  split
  ·rename_i hu
   show 0*10+((UInt8.ofNat (48+u)).toNat - 48)=u
   rw[J9 hu];omega
  ·rw[O6,abQ k (u / 10) (by rw[Nat.pow_succ]at h;omega),J9 (Nat.mod_lt _ (by decide))]
   have:=Nat.div_add_mod u 10
   omega
theorem PI:∀(k u n:Nat),u<10^n->1<=n->(NP k u).length<=n
 |0,_,_,_,_=>by simp [NP]
 |k+1,u,n,h,hn=>by
  unfold NP
  split
  ·simpa using hn
  ·rename_i hu
   obtain⟨m,rfl⟩:∃m,n=m+1:=⟨n - 1,by omega⟩
   have hm:1<=m:=by
    refine Nat.one_le_iff_ne_zero.2 fun e=> ?_
    subst e;simp at h;omega
   have:=PI k (u / 10) m (by rw[Nat.pow_succ]at h;omega) hm
   simp only[List.length_append,List.length_singleton];omega
theorem ac8 (c:UInt8):∀n,agz [c] n=List.replicate n c
 |0=>rfl
 |n+1=>by rw[agz,ac8 c n];rfl
theorem Xq:∀(n:Nat) (l:List UInt8),wG (List.replicate n 48++l)=wG l
 |0,l=>rfl
 |n+1,l=>by
  rw[List.replicate_succ,List.cons_append]
  have:=Xq n l
  unfold wG at*
  rw[List.foldl_cons]
  exact this
theorem anL {l:List UInt8} (hl:l.length=10) (hd:∀c∈l,Vq c) (hv:wG l<10^10):List.replicate (10 - (NP 20 (wG l)).length) 48++NP 20 (wG l)=l:=by
 have h1:=PI 20 (wG l) 10 hv (by decide);refine aco 10 _ _ (by simp;omega) hl (fun c hc=> ?_) hd ?_
 ·rcases List.mem_append.1 hc with h | h
  ·rw[List.mem_replicate]at h;rw[h.2,xB];decide
  ·exact Yw _ _ c h
 ·rw[Xq,abQ 20 _ (Nat.lt_trans hv (by decide))]
theorem XQ:∀(n:Nat) (l:List UInt8),l.length=n->(∀c∈l,Vq c)->wG l<10^n
 |0,l,h,_=>by rw[List.eq_nil_of_length_eq_zero h];decide
 |n+1,l,h,hd=>by
  obtain⟨l',c,rfl⟩:∃l' c,l=l'++[c]:=⟨l.dropLast,l.getLast (by intro e;rw[e]at h;cases h),(List.dropLast_concat_getLast _).symm⟩
  simp only[List.length_append,List.length_singleton]at h
  have ih:=XQ n l' (by omega) fun x hx=>hd x (by simp [hx])
  have g:=xB.1 (hd c (by simp))
  rw[O6,Nat.pow_succ];omega
def Ju (pre:List UInt8) (v:Int):List UInt8:=if v<1\/1000000000<v then []else pre++List.replicate (10 - (fmt10 v).length) 48++fmt10 v
theorem am8 (v:Int) (h1:¬(v<1\/1000000000<v)):∀c∈List.replicate (10 - (fmt10 v).length) 48++fmt10 v,Vq c:=by
 intro c hc;rcases List.mem_append.1 hc with h | h
 ·rw[List.mem_replicate]at h;rw[h.2,xB];decide
 ·unfold fmt10 at h;rw[if_neg (by omega)]at h;exact Yw _ _ c h
end Go.Av
namespace Go.Av
open Go Go.RowKit
set_option linter.unusedVariables false
set_option linter.unusedSimpArgs false
abbrev inR (l:Nat):Fence:=Fence.wide.inRound l
theorem ao5 {P:Program} {o:Oper} {a:Act} {next:Act->World->Prop} {Q:Exit->Act->World->Prop} {r:Result Next} {l n:Nat} (h:o.upon P a next Q r):o.uponIn (inR l) n P a next Q r:=by
 cases r with
 |ok x w'=>
  cases x with
  |value v=>exact h
  |skip=>exact h
  |defer d=>exact h
  |enter f args=>exact⟨fun h=>(by cases h),CallsIn.inRound l (callsIn_wide.2 h)⟩
  |row row args=>exact⟨fun h=>(by cases h),fun c cs _=>let ⟨v,w'',r,s⟩:=h c cs;⟨v,w'',r,stepsIn_wide.2 s⟩⟩
  |_=>exact h.elim
 |halt x w'=>
  cases x with
  |panic v=>exact h
  |_=>exact h.elim
def akc:Op->Bool
 |.defer _=>true
 |_=>false
def X7 (ops:Array Oper):Bool:=ops.all fun o=> !akc o.op
theorem agM {ops:Array Oper} (h:X7 ops=true) {i:Nat} {o:Oper} (ho:ops[i]? =some o):∀c,o.op≠ .defer c:=fun c e=>by
 have:=Array.all_eq_true_iff_forall_mem.1 h o (Array.mem_of_getElem? ho);rw[e]at this;simp [akc]at this
theorem arI {P:Program} {o:Oper} {a:Act} {w:World} {next:Act->World->Prop} {Q:Exit->Act->World->Prop} {l n:Nat} (hd:∀c,o.op≠ .defer c) (h:o.wp P a w next Q):o.wpIn (inR l) n P a w next Q:=
 ⟨fun _ _=>trivial,by
  show o.uponIn (inR l) n P a next Q ((Oper.semAt (some l) a.eval o).run P w)
  rw[Oper.semAt_some l _ _ hd];exact ao5 h⟩
section
variable {P:Program} {ops:Array Oper} {Q:Exit->Act->World->Prop} {l n:Nat}
theorem ajF (hd:X7 ops=true) (hl:¬LetsOut Q) {i:Nat} {K K':Act->World->Prop} (hK:∀a w,K a w->K' a w) {a:Act} {w:World} (h:wpOp P ops Q i K a w):wpOpIn (inR l) n P ops Q i K' a w:=by
 unfold wpOp at h;unfold wpOpIn;cases ho:ops[i]? with
 |none=>simp only[ho]at h;exact hK _ _ h
 |some o=>
  simp only[ho]at h ⊢;split
  ·rename_i hw;rw[if_pos hw]at h;rcases h with h | h
   ·exact arI (agM hd ho) (Oper.wp_mono hK h)
   ·exact absurd h.2 hl
  ·rename_i hw;rw[if_neg hw]at h;exact⟨fun _ _=>trivial,hK _ _ h⟩
theorem ah9 (hd:X7 ops=true) (hl:¬LetsOut Q):∀(is:List Nat) (a:Act) (w:World),wpOps P ops Q is a w->wpOpsIn (inR l) n P ops Q is a w
 |[],a,w,h=>h
 |i::r,a,w,h=>by
  rw[wpOps_cons]at h
  rw[wpOpsIn_cons]
  exact ajF hd hl (ah9 hd hl r) h
theorem ahG (hd:X7 ops=true) (hl:¬LetsOut Q):∀(fuel:Nat) (listed:Array Bool) (a:Act) (w:World),wpAny P .any ops Q fuel listed a w->wpAnyIn (inR l) n P .any ops Q fuel listed a w
 |0,_,_,_,h=>h
 |f+1,listed,a,w,h=>⟨h.1,fun i hi=>ajF hd hl (ahG hd hl f _) (h.2 i hi)⟩
end
def rok:Code->Bool
 |.skip=>true
 |.seq a b=>rok a&&rok b
 |.region _ ops _=>X7 ops
 |.cond _ a b=>rok a&&rok b
 |.block _ c=>rok c
 |.exit _=>true
 |_=>false
theorem Yz {C:Cx} (K:CxR C) (l m:Nat):∀(n:Nat) {τ:Type} (y:τ) (pf pos:Nat) (c:Code) (A:FS) (F:Ex->FS->Option τ),rok c=true->Og C n pf pos c A F=some y->∀(B:Bse),JB B->adt C.P (pf%4096)<=B.nt->qp C pf pos->Keeps B.T c->
 ∀(M:Mem) (a:Act) (w:World),Rel B M A a w->∀(Q:Exit->Act->World->Prop),¬LetsOut Q->(∀e A' M' a' w',F e A'=some y->Rel B M' A' a' w'->Q (ajn e) a' w')->c.wpIn (inR l) m C.P Q a w
 |0,τ,y,pf,pos,c,A,F,hr,h,B,hB,hnt,L,hkp,M,a,w,R,Q,hlo,hQ=>by simp [Og,bad]at h
 |n+1,τ,y,pf,pos,c,A,F,hr,h,B,hB,hnt,L,hkp,M,a,w,R,Q,hlo,hQ=>by
  have IH:=fun {τ:Type} (y:τ)=>Yz K l m n y
  unfold Og at h
  cases c with
  |skip=>exact wpIn_skip (hQ .normal A M a w h R)
  |seq c1 c2=>
   unfold rok at hr;rw[Bool.and_eq_true]at hr
   refine wpIn_seq (IH y pf (2*pos) c1 A _ hr.1 h B hB hnt (L.kid 0) hkp.1 M a w R _ (fun⟨a,w,h⟩=>hlo ⟨a,w,h⟩) fun e A' M' a' w' he R'=> ?_)
   cases e with
   |normal=>exact IH y pf (2*pos+1) c2 A' F hr.2 he B hB hnt (L.kid 1) hkp.2 M' a' w' R' Q hlo hQ
   |ret=>exact hQ .ret A' M' a' w' he R'
   |exit i=>exact hQ (.exit i) A' M' a' w' he R'
  |region id ops dr=>
   simp only at h
   obtain⟨h1,h⟩:=QC h
   have hg:=aaq K hB (ahH K (Hw K n y) L) h1 hnt hkp h R (Q:=Q) fun N A' a' w' he R'=>hQ .normal A' N a' w' he R'
   cases dr with
   |false=>exact wpIn_region (ah9 hr hlo _ _ _ hg)
   |true=>exact wpIn_region_any K.mixed (ahG hr hlo _ _ _ _ hg)
  |cond cx c1 c2=>
   unfold rok at hr;rw[Bool.and_eq_true]at hr
   simp only at h
   split at h
   ·rename_i b hb
    have hs:=aaX R.fr cx
    rw[hb]at hs
    have hv:a.eval cx= .bool b:=by
     generalize a.eval cx=v at hs
     cases hs;rfl
    refine wpIn_cond hv ?_
    cases hi:C.inl 4095 with
    |false=>
     simp only[hi,cond_false]at h
     cases b with
     |true=>exact IH y pf (2*pos) c1 A _ hr.1 h B hB hnt (L.kid 0) hkp.1 M a w R Q hlo (Ec hQ)
     |false=>exact IH y pf (2*pos+1) c2 A _ hr.2 h B hB hnt (L.kid 1) hkp.2 M a w R Q hlo (Ec hQ)
    |true=>
     simp only[hi,cond_true]at h
     cases b with
     |true=>exact IH y pf (2*pos) c1 _ _ hr.1 h B hB hnt (L.kid 0) hkp.1 M a w (R.know hb) Q hlo (Ec hQ)
     |false=>exact IH y pf (2*pos+1) c2 _ _ hr.2 h B hB hnt (L.kid 1) hkp.2 M a w (R.know hb) Q hlo (Ec hQ)
   ·simp [bad]at h
  |block id c1=>
   refine wpIn_block (IH y pf (2*pos) c1 A _ hr h B hB hnt (L.kid 0) hkp M a w R _ (fun⟨a,w,h⟩=>hlo ⟨a,w,h⟩) fun e A' M' a' w' he R'=> ?_)
   cases e with
   |normal=>exact hQ .normal A' M' a' w' he R'
   |ret=>exact hQ .ret A' M' a' w' he R'
   |exit i=>
    simp only at he
    show Exit.inBlock id Q (.exit i) a' w'
    unfold Exit.inBlock
    cases hb:Nat.beq i id with
    |true=>
     have:=Nat.eq_of_beq_eq_true hb
     subst this
     simp only[hb,cond_true]at he
     simp only[if_true]
     exact hQ .normal A' M' a' w' he R'
    |false=>
     simp only[hb,cond_false]at he
     have:¬i=id:=fun e=>by subst e;simp at hb
     simp only[this,if_false]
     exact hQ (.exit i) A' M' a' w' he R'
  |exit id=>exact wpIn_exit (hQ (.exit id) A M a w h R)
  |_=>cases hr
def akK (W:World) (b:Nat):Prop:=∃c t fr,W.heap[b]? =some (.cells c t fr)
theorem aks {H:Array Obj} {b o:Nat} {v:Value} (h:cellAt H b o=some v):∃c t fr,H[b]? =some (.cells c t fr):=by
 unfold cellAt at h;split at h
 ·rename_i c t fr hc;exact⟨c,t,fr,hc⟩
 ·cases h
theorem aY.dataC {M N:Mem} (hF:∀b,M.F b->(∃c t fr,M.H[b]? =some (.cells c t fr))->N.F b) (hH:∀b,M.F b->N.H[b]? =M.H[b]?) {x:AV} {v:Value} (hs:aY M x v):dt x=true->aY N x v:=by
 induction hs with
 |undef v=>exact fun _=> .undef v
 |int k n=>exact fun _=> .int k n
 |bool b=>exact fun _=> .bool b
 |str s l hl=>exact fun _=> .str s l hl
 |nilp=>exact fun _=> .nilp
 |nils=>exact fun _=> .nils
 |nilf=>exact fun _=> .nilf
 |nili=>exact fun _=> .nili
 |rp e x j v b o hv hF' cs hc hs ih=>exact fun _=> .rp e x j v b o hv (hF _ hF' (aks (hc 0 (Nat.pos_of_ne_zero (wS e))))) cs (fun k hk=>by rw[Ko (hH b hF')];exact hc k hk) fun k hk=>ih k hk (JM e x k hk)
 |roE e ex a cap hx=>exact fun _=> .roE e ex a cap hx
 |ro e l ex b o cap hl hx hF' cs hc hs ih=>
  intro _;cases l with
  |nil=>exact .roE e ex _ cap fun h=>by have:=hx h;simpa using this
  |cons y l=>
   exact .ro e (y::l) ex b o cap hl hx (hF _ hF' (aks (hc 0 0 (by simp) (Nat.pos_of_ne_zero (wS e))))) cs (fun i k hi hk=>by rw[Ko (hH b hF')];exact hc i k hi hk) fun i k hi hk=>ih i k hi hk (JM e _ k hk)
 |fn f cs vs hn hs ih=>
  intro h;cases cs with
  |nil=>exact .fn f [] vs hn fun i h _=>by simp at h
  |cons c cs=>cases h
 |_=>intro h;cases h
def vw (F1:Nat->Prop) (B b0 bx:Nat) (e:E) (z:den e) (W:World):Mem where
 U:=fun k=>k<2\/k=8
 F:=fun b=>F1 b\/(B<=b/\akK W b)
 β:=fun k=>if k=0 then some b0 else if k=8 then some bx else none
 hp:=fun k=>FS.hp ⟨[],[(0,some ⟨false,.raw (cells e z)⟩),(8,some ⟨false,.raw [.mp 0 0]⟩)],0⟩ k
 H:=W.heap
section
variable {F1:Nat->Prop} {B b0 bx:Nat} {e:E} {z:den e} {W:World}
theorem V4 {k:Nat} {x:Ent} (h:(vw F1 B b0 bx e z W).hp k=some x):(k=0/\x=⟨false,.raw (cells e z)⟩)\/(k=8/\x=⟨false,.raw [.mp 0 0]⟩):=by
 have h:FS.hp ⟨[],[(0,some ⟨false,.raw (cells e z)⟩),(8,some ⟨false,.raw [.mp 0 0]⟩)],0⟩ k=some x:=h;unfold FS.hp at h;simp only[look]at h;cases h0:Nat.beq 0 k with
 |true=>
  have:=Nat.eq_of_beq_eq_true h0;subst this;simp at h;exact .inl ⟨rfl,h.symm⟩
 |false=>
  cases h8:Nat.beq 8 k with
  |true=>
   have:=Nat.eq_of_beq_eq_true h8;subst this;exact .inr ⟨rfl,(Option.some.inj (show(some ⟨false,.raw [.mp 0 0]⟩:Option Ent)=some x from h)).symm⟩
  |false=>simp [h0,h8]at h
theorem al8 {b:Nat} (h:Own (vw F1 B b0 bx e z W) b):b=b0\/b=bx:=by
 obtain⟨id,x,h1,_,h3⟩:=h;rcases V4 h1 with ⟨rfl,_⟩ | ⟨rfl,_⟩
 ·exact .inl (Option.some.inj h3).symm
 ·exact .inr (Option.some.inj h3).symm
end
theorem Stp.vw {M M':Mem} {w W':World} (st:Stp M w M' W') {F1:Nat->Prop} {B b0 bx:Nat} {e:E} {z':den e} {cs:List AV} (h0:M'.hp 0=some ⟨false,.raw cs⟩) (hof:vJ e cs=some z') (h8:M'.hp 8=some ⟨false,.raw [.mp 0 0]⟩)
 (β0:M'.β 0=some b0) (β8:M'.β 8=some bx) (cU:∀k,M.U k->k<2\/k=8) (cF:∀b,M.F b->F1 b\/(B<=b/\akK W' b)) (cF1:∀b,F1 b->M'.F b) (cF2:∀b,M'.F b->akK W' b->F1 b\/B<=b) (cF3:∀b,F1 b->M.F b)
 (cF4:∀b,b<w.heap.size->B<=b->akK w b->M.F b) (l0:b0<B) (lx:bx<B):Stp M w (Av.vw F1 B b0 bx e z' W') W':=by
 have hH:=st.H
 have key:∀b,(Av.vw F1 B b0 bx e z' W').F b->akK W' b->True:=fun _ _ _=>trivial
 obtain⟨_,n0,c0,t0,fr0,g0,z0,k0⟩:=st.hrel.is h0 β0
 obtain⟨_,n8,c8,t8,fr8,g8,z8,k8⟩:=st.hrel.is h8 β8
 have nF0:¬F1 b0:=fun h=>n0 rfl (cF1 _ h)
 have nF8:¬F1 bx:=fun h=>n8 rfl (cF1 _ h)
 have ne:b0≠bx:=fun h=>by
  have:=st.hrel.inj 0 8 _ _ b0 h0 h8 rfl β0 (by rw[β8,h])
  omega
 have conv:∀ {x:AV} {v:Value},aY M' x v->dt x=true->aY (Av.vw F1 B b0 bx e z' W') x v:=fun hs hd=>hs.dataC (fun b hb hc=>by
  rw[hH]at hc
  rcases cF2 b hb hc with h | h
  ·exact .inl h
  ·exact .inr ⟨h,hc⟩) (fun b _=>by rw[hH];rfl) hd
 obtain⟨hl,hw⟩:=vS e cs z' hof
 have q0:ru (Av.vw F1 B b0 bx e z' W') (.raw (cells e z')) c0:=by
  refine⟨⟨by rw[k0.1.1,hl,oz],k0.1.2⟩,fun i h1 h2=> ?_⟩
  have hi:i<cs.length:=by rw[<-k0.1.1];exact h2
  have h3:=hw i (hl▸hi)
  rw[lq _ _ hi,lq _ _ h1]at h3
  exact conv (h3.sees (k0.2 i hi h2)) (by rw[<-lq _ _ h1];exact JM e z' i (by rw[<-oz e z'];exact h1))
 have q8:ru (Av.vw F1 B b0 bx e z' W') (.raw [.mp 0 0]) c8:=by
  refine⟨k8.1,fun i h1 h2=> ?_⟩
  have:i=0:=by simp at h1;omega
  subst this
  have h4:=k8.2 0 h1 h2
  show aY _ (.mp 0 0) _
  have h4:aY M' (.mp 0 0) c8[0]:=h4
  generalize c8[0]=v at h4
  cases h4 with | mp _ _ _ hU h1' hh=>
  refine .mp 0 0 v (.inl (by omega)) h1' fun x hx=> ?_
  rcases V4 hx with ⟨_,rfl⟩ | ⟨h,_⟩
  ·obtain⟨b,fz,cs',h5,h6,h7⟩:=hh _ h0
   refine⟨b0,false,_,rfl,rfl,?_⟩
   rw[β0]at h6;cases h6;exact h7
  ·cases h
 have hb0:∀b,(Av.vw F1 B b0 bx e z' W').F b->b≠b0/\b≠bx:=fun b hb=>by
  rcases hb with h | ⟨h,_⟩
  ·exact⟨fun e=>nF0 (e▸h),fun e=>nF8 (e▸h)⟩
  ·exact⟨by omega,by omega⟩
 have hrel:jd (Av.vw F1 B b0 bx e z' W'):=by
  refine jd.mk' (fun p hp=> ?_) (fun id x h=> ?_) (fun id x h hb=> ?_) (fun id x b h hb=> ?_) (fun id id' x x' b h h' _ hb hb'=> ?_)
  ·obtain⟨p1,c,t,fr,p2,p3⟩:=st.hrel.glob p hp
   rw[hH]at p2
   refine⟨?_,c,t,fr,p2,p3⟩
   rcases cF2 _ p1 ⟨c,t,fr,p2⟩with h | h
   ·exact .inl h
   ·exact .inr ⟨h,c,t,fr,p2⟩
  ·rcases V4 h with ⟨rfl,_⟩ | ⟨rfl,_⟩
   ·exact .inl (by omega)
   ·exact .inr rfl
  ·rcases V4 h with ⟨rfl,_⟩ | ⟨rfl,_⟩<;>cases hb
  ·rcases V4 h with ⟨rfl,rfl⟩ | ⟨rfl,rfl⟩
   ·have:b0=b:=Option.some.inj hb
    subst this
    exact⟨fun h=>(by cases h),fun _ hf=>(hb0 _ hf).1 rfl,c0,t0,fr0,(show W'.heap[b0]? =_ from hH▸g0),z0.weak (fun _=>rfl) rfl,q0⟩
   ·have:bx=b:=Option.some.inj hb
    subst this
    exact⟨fun h=>(by cases h),fun _ hf=>(hb0 _ hf).2 rfl,c8,t8,fr8,(show W'.heap[bx]? =_ from hH▸g8),z8,q8⟩
  ·rcases V4 h with ⟨rfl,_⟩ | ⟨rfl,_⟩<;>rcases V4 h' with ⟨rfl,_⟩ | ⟨rfl,_⟩
   ·rfl
   ·have e1:b0=b:=Option.some.inj hb
    have e2:bx=b:=Option.some.inj hb'
    exact absurd (e1.trans e2.symm) ne
   ·have e1:bx=b:=Option.some.inj hb
    have e2:b0=b:=Option.some.inj hb'
    exact absurd (e2.trans e1.symm) ne
   ·rfl
 have back:∀id x,(Av.vw F1 B b0 bx e z' W').hp id=some x->∃x',M'.hp id=some x'/\x'.fz=false/\dK x' x/\(Av.vw F1 B b0 bx e z' W').β id=M'.β id:=fun id x h=>by
  rcases V4 h with ⟨rfl,rfl⟩ | ⟨rfl,rfl⟩
  ·exact⟨_,h0,rfl,by simp only[dK];rw[hl,oz],β0.symm⟩
  ·exact⟨_,h8,rfl,rfl,β8.symm⟩
 refine⟨⟨fun id h=>cU id h,fun b h=>cF b h,fun b h=>by rw[<-st.le.H b h,hH];rfl,fun id x hU hx=> ?_,fun id b n hU hne hb hn=> ?_⟩,rfl,hrel,st.os,st.tape,st.output,st.size,st.old,fun b ⟨id,x,h1,h2,h3⟩=> ?_,fun b hb=> ?_,fun g b hb=> ?_⟩
 ·obtain⟨x',h1,_,h2,h3⟩:=back id x hx
  obtain⟨y,h4,h5,h6⟩:=st.le.hp id x' hU h1
  exact⟨y,h4,h5.trans h2,h3.trans h6⟩
 ·cases hx:(Av.vw F1 B b0 bx e z' W').hp id with
  |none=>exact absurd hx hne
  |some x=>
   obtain⟨x',h1,_⟩:=back id x hx
   have:=st.le.sz id b n hU (by rw[h1];simp) hb hn
   rw[hH]at this;exact this
 ·obtain⟨x',h4,h5,_,h6⟩:=back id x h1
  exact st.own b ⟨id,x',h4,h5,h6▸h3⟩
 ·rcases hb with h | ⟨h,hc⟩
  ·exact .inl (cF3 b h)
  ·by_cases hlt:b<w.heap.size
   ·by_cases ho:Own M b
    ·exact .inr (.inl ho)
    ·have:=st.old b hlt ho
     obtain⟨c,t,fr,hc⟩:=hc
     exact .inl (cF4 b hlt h ⟨c,t,fr,by rw[<-this];exact hc⟩)
   ·exact .inr (.inr (by omega))
 ·rcases hb with h | ⟨h,c,t,fr,hc⟩
  ·exact st.Fsz g b (cF1 b h)
  ·exact(Array.getElem?_eq_some_iff.1 hc).1
theorem amP {F1:Nat->Prop} {B b0 bx:Nat} {e:E} {z:den e} {W:World}:(vw F1 B b0 bx e z W).hp 0=some ⟨false,.raw (cells e z)⟩:=rfl
theorem aqN {F1:Nat->Prop} {B b0 bx:Nat} {e:E} {z:den e} {W:World}:(vw F1 B b0 bx e z W).hp 8=some ⟨false,.raw [.mp 0 0]⟩:=rfl
theorem alr {M1:Mem} {w w1:World} {e:E} {z:den e} (hrel:jd M1) (hH:M1.H=w.heap) (hF:∀b,M1.F b->b<w.heap.size) (hU:∀k,M1.U k->k<2) (hU0:M1.U 0)
 (m1fs:∀k,M1.hp k=FS.hp ⟨[],[(0,some ⟨false,.raw (cells e z)⟩)],0⟩ k) {v0:Value} (s0:aY M1 (.mp 0 0) v0) {t:TypeId} (hb:Below (w.heap.size+1) (w.alloc (.cells #[v0] t)) w1):
 ∃b0,v0= .pointer (some ⟨b0,0,none⟩)/\b0<w.heap.size/\¬M1.F b0/\Stp M1 w (vw M1.F w1.heap.size b0 w.heap.size e z w1) w1:=by
 have h0:M1.hp 0=some ⟨false,.raw (cells e z)⟩:=(m1fs 0).trans rfl
 have s0':=s0
 cases s0 with | mp _ _ _ hU' h1 hh=>
 obtain⟨b0,fz,cs,_,β0,hv⟩:=hh _ h0
 obtain⟨_,n0,c0,t0,fr0,g0,_⟩:=hrel.is h0 β0
 rw[hH]at g0
 have l0:b0<w.heap.size:=(Array.getElem?_eq_some_iff.1 g0).1
 refine⟨b0,hv,l0,n0 rfl,?_⟩
 have h8U:¬M1.U 8:=fun h=>by have:=hU 8 h;omega
 have st1:=Stp.alloc (w':=w.alloc (.cells #[v0] t)) hrel hH hF 8 h8U (.raw [.mp 0 0]) #[v0] t (0,0) ⟨fun o _=>by omega,fun _=>by omega⟩ ⟨⟨rfl,fun i h=>by
  have:i=0:=by simp at h;omega
  subst this;show v0.oneCell=true;rw[hv];rfl⟩,fun i h1 h2=>by
  have:i=0:=by simp at h2;omega
  subst this;exact s0'⟩ rfl rfl rfl rfl
 have hsz:(w.alloc (.cells #[v0] t)).heap.size=w.heap.size+1:=by simp
 have st2:=Stp.below (w':=w1) st1.hrel st1.H (st1.Fsz hF) (by rw[hsz];exact hb)
 have st:=st1.trans st2 hrel hH
 have hle:w.heap.size+1<=w1.heap.size:=by rw[<-hsz];exact hb.size
 refine st.vw (cs:=cells e z) (M':={ M1.new 8 ⟨false,.raw [.mp 0 0]⟩ (.cells #[v0] t (0,0))with H:=w1.heap }) ?_ (HY e z) ?_ ?_ ?_ (fun k h=> .inl (hU k h)) (fun b h=> .inl h) (fun b h=>h) (fun b h _=> .inl h) (fun b h=>h) (fun b h1 h2 _=>by omega) (by omega) (by omega)
 ·exact Eq.trans (show Af M1.hp 8 (some ⟨false,.raw [.mp 0 0]⟩) 0=M1.hp 0 from dA M1.hp _ (by decide)) h0
 ·exact(bI M1.hp 8 (some ⟨false,.raw [.mp 0 0]⟩))
 ·exact Eq.trans (show Af M1.β 8 (some M1.H.size) 0=M1.β 0 from dA M1.β _ (by decide)) β0
 ·exact Eq.trans (bI M1.β 8 (some M1.H.size)) (by rw[hH])
section
variable {F1:Nat->Prop} {b0 bx:Nat} {e:E} {z1 z:den e} {w1 W W':World}
theorem aia (hF1:∀b,F1 b->b<w1.heap.size) (l0:b0<w1.heap.size) (lx:bx<w1.heap.size) (st:Stp (vw F1 w1.heap.size b0 bx e z1 w1) w1 (vw F1 w1.heap.size b0 bx e z W) W) {row:Option Nat} (hg:W.grownBy W' row)
 (hr:∀r,row=some r->w1.heap.size<=r/\∃o:Obj,W.heap[r]? =some o/\o.isCells=false):Stp (vw F1 w1.heap.size b0 bx e z1 w1) w1 (vw F1 w1.heap.size b0 bx e z W') W':=by
 have low:∀b,b<w1.heap.size->W'.heap[b]? =W.heap[b]? :=fun b hb=>hg.block b (Nat.lt_of_lt_of_le hb st.size) fun h=>by have:=(hr b h.symm).1;omega
 have cel:∀b,akK W b->W'.heap[b]? =W.heap[b]? :=fun b ⟨c,t,fr,hc⟩=>hg.block b (Array.getElem?_eq_some_iff.1 hc).1 fun h=>by
  obtain⟨_,o,ho,hn⟩:=hr b h.symm
  rw[hc]at ho;cases ho;cases hn
 have keep:∀b,(vw F1 w1.heap.size b0 bx e z W).F b->W'.heap[b]? =W.heap[b]? :=fun b hb=>by
  rcases hb with h | ⟨_,h⟩
  ·exact low b (hF1 b h)
  ·exact cel b h
 have hle:Le (vw F1 w1.heap.size b0 bx e z W) { vw F1 w1.heap.size b0 bx e z W with H:=W'.heap }:=⟨fun _ h=>h,fun _ h=>h,keep,fun id x _ h=>⟨x,h,dK.refl _,rfl⟩,fun id b n _ hne hb hn=>by
  have hb2:b=b0\/b=bx:=by
   cases hx:(vw F1 w1.heap.size b0 bx e z W).hp id with
   |none=>exact absurd hx hne
   |some x=>
    rcases V4 hx with ⟨rfl,_⟩ | ⟨rfl,_⟩
    ·exact .inl (Option.some.inj hb).symm
    ·exact .inr (Option.some.inj hb).symm
  have:W'.heap[b]? =W.heap[b]? :=low b (by rcases hb2 with rfl | rfl<;>assumption)
  unfold bsize at*
  show(match W'.heap[b]? with | some (.cells c _ _)=>some c.size | _=>none)=some n
  rw[this];exact hn⟩
 have st':Stp (vw F1 w1.heap.size b0 bx e z1 w1) w1 { vw F1 w1.heap.size b0 bx e z W with H:=W'.heap } W':=by
  refine⟨st.le.trans hle,rfl,jd.mk' (st.hrel.glob.le hle) (fun id x h=>st.hrel.used id x h) (fun id x h hb=>st.hrel.nob id x h hb) (fun id x b h hb=> ?_) (fun id id' x x' b h h'=>st.hrel.inj id id' x x' b h h'),hg.os.trans st.os,hg.tape.trans st.tape,hg.output.trans st.output,Nat.le_trans st.size hg.size,
   fun b hb ho=>(low b hb).trans (st.old b hb ho),fun b h=>st.own b h,fun b h=>st.Fin b h,fun g b h=>Nat.lt_of_lt_of_le (st.Fsz g b h) hg.size⟩
  obtain⟨g1,g2,c,t,fr,g3,g4,g5⟩:=st.hrel.is h hb
  exact⟨g1,g2,c,t,fr,(cel b ⟨c,t,fr,g3⟩).trans g3,g4,g5.le hle⟩
 refine st'.vw (cs:=cells e z) (amP (F1:=F1) (B:=w1.heap.size) (b0:=b0) (bx:=bx) (W:=W)) (HY e z) (aqN (F1:=F1) (B:=w1.heap.size) (b0:=b0) (bx:=bx) (z:=z) (W:=W)) rfl rfl (fun k h=>h) (fun b h=> ?_) (fun b h=> .inl h) (fun b h _=> ?_) (fun b h=> .inl h) (fun b h1 h2 _=>by omega) l0 lx
 ·rcases h with h | ⟨h,c,t,fr,hc⟩
  ·exact .inl h
  ·have:=(Array.getElem?_eq_some_iff.1 hc).1;omega
 ·rcases h with h | ⟨h,_⟩
  ·exact .inl h
  ·exact .inr h
theorem akw (hF1:∀b,F1 b->b<w1.heap.size) (l0:b0<w1.heap.size) (lx:bx<w1.heap.size) {M':Mem} (st:Stp (vw F1 w1.heap.size b0 bx e z W) W M' W') {cs:List AV} {z':den e} (h0:M'.hp 0=some ⟨false,.raw cs⟩)
 (hof:vJ e cs=some z') (h8:M'.hp 8=some ⟨false,.raw [.mp 0 0]⟩) (hsz:w1.heap.size<=W.heap.size):Stp (vw F1 w1.heap.size b0 bx e z W) W (vw F1 w1.heap.size b0 bx e z' W') W':=by
 have β0:M'.β 0=some b0:=by
  obtain⟨_,_,_,h⟩:=st.le.hp 0 _ (.inl (by omega)) h0
  exact h.trans rfl
 have β8:M'.β 8=some bx:=by
  obtain⟨_,_,_,h⟩:=st.le.hp 8 _ (.inr rfl) h8
  exact h.trans rfl
 obtain⟨_,n0,_⟩:=st.hrel.is h0 β0
 obtain⟨_,n8,_⟩:=st.hrel.is h8 β8
 refine st.vw h0 hof h8 β0 β8 (fun k h=>h) (fun b h=> ?_) (fun b h=>st.le.F b (.inl h)) (fun b h hc=> ?_) (fun b h=> .inl h) (fun b h1 h2 h3=> .inr ⟨h2,h3⟩) l0 lx
 ·rcases h with h | ⟨h,hc⟩
  ·exact .inl h
  ·refine .inr ⟨h,?_⟩
   have:=st.le.H b (.inr ⟨h,hc⟩)
   rw[st.H]at this
   obtain⟨c,t,fr,hc⟩:=hc
   exact⟨c,t,fr,this.trans hc⟩
 ·rcases st.Fin b h with h | h | h
  ·rcases h with h | ⟨h,_⟩
   ·exact .inl h
   ·exact .inr h
  ·rcases al8 h with rfl | rfl
   ·exact absurd ‹_› (n0 rfl)
   ·exact absurd ‹_› (n8 rfl)
  ·exact .inr (by omega)
end
def aoH (B:Nat) (Kp:World->World->Prop) (I:World->Prop) (W:World):Exit->Act->World->Prop
 |.normal,_,W'=>KeepsFrom B W W'/\Kp W W'/\I W'
 |_,_,_=>False
theorem akX {P:Program} {g:Operand} {ps:Array Tmp} {assign body:Code} {Q:Exit->Act->World->Prop} {a:Act} {w:World} {n:Nat} {gf:Nat} {lb:Array Value} (hg:a.eval g= .func (.func gf) #[] lb)
 (eg:∀args w,(callFunc gf args).run P w= .ok (.enter gf args) w) {N:Nat} {encs:Nat->Array Value} (hps:∀k,(encs k).size=ps.size) (Kp:World->World->Prop)
 (hKt:∀ {A B C:World},Kp A B->Kp B C->Kp A C) (hKb:∀(W:World) (l:Nat) (o:Obj),w.heap.size<=l->Kp W (W.putObj l o)) (I:Nat->World->Prop)
 (hI:∀k W W' row,I k W->W.grownBy W' row->(∀r,row=some r->w.heap.size<=r/\∃o:Obj,W.heap[r]? =some o/\o.isCells=false)->I k W') (h0:I 0 w)
 (hiter:∀(l:Nat) (J:Nat->World->Prop) (W:World),Below w.heap.size w W->(∀k W1,J k W1->k<N->YieldAt Fence.wide (n - 1 - 1) P l (encs k) W1 fun e W'=>e= .returned (.bool true)/\J (k+1) W'/\Kp W1 W')->J 0 W->
   CallsIn Fence.wide (n - 1) P gf (#[.func (.yield l) #[] #[]]++lb) W fun e W'=>(∃v,e= .returned v)/\J N W')
 (a₁:Nat->Act) (hassign:∀(l k:Nat) (W:World) (K:Act->World->Prop),K (a₁ k) W->assign.wpIn (inR l) (n - 1 - 1) P (Exit.then K (fun _ _ _=>False)) { tmps:=(ps.zip (encs k)).foldl (fun t (p,v)=>t.setIfInBounds p v) a.tmps,defers:=[] } W)
 (hbody:∀(l k:Nat) (W:World),I k W->k<N->body.wpIn (inR l) (n - 1 - 1) P (aoH w.heap.size Kp (I (k+1)) W) (a₁ k) W)
 (hdone:∀(D:Nat) (W:World),w.heap.size<=D->I N W->W.heap[D]? =some (.deferred (some []))->Q .normal { a with defers:={ target:= .collected D,args:= #[] }::a.defers } W):
 (Code.rangeFunc g ps assign body).wpIn Fence.wide n P Q a w:=by
 refine wpIn_rangeFunc fun fn _=> ?_
 obtain⟨rc,hrc⟩:∃rc:LoopState->Option Code->Loop,rc=fun st pe=>{ state:=st,pending:=pe,fn,tmps:=a.tmps,params:=ps,assign,body,defers:=w.heap.size }:=⟨_,rfl⟩
 obtain⟨V,hV⟩:∃V,(w.alloc (.deferred (some []))).alloc (.loop (rc .ready none))=V:=⟨_,rfl⟩
 have hl0:V.heap[w.heap.size+1]? =some (.loop (rc .ready none)):=by
  have:=World.alloc_heap_new (w.alloc (.deferred (some []))) (.loop (rc .ready none))
  rw[World.size_alloc,hV]at this;exact this
 have hd0:V.heap[w.heap.size]? =some (.deferred (some [])):=by
  rw[<-hV];exact(Below.heap_alloc _ _ _ (by simp)).trans (World.alloc_heap_new w _)
 have hi0:I 0 V:=by
  rw[<-hV]
  exact hI _ _ _ none (hI _ _ _ none h0 (World.grownBy_alloc w _ none) (fun r e=>by cases e)) (World.grownBy_alloc _ _ none) (fun r e=>by cases e)
 have hb0:Below w.heap.size w V:=by
  rw[<-hV];exact((Below.refl _ w).alloc (Nat.le_refl _) _).alloc (by simp) _
 have put:∀ {k W l o} (o':Obj),I k W->w.heap.size<=l->W.heap[l]? =some o->o.isCells=false->I k (W.putObj l o'):=fun {k W l o} o' h1 h2 h3 h4=>hI _ _ _ (some l) h1 (grownBy_putObj' W l o') fun r e=>by cases e;exact⟨h2,o,h3,h4⟩
 refine⟨w.heap.size+1,[{ target:= .collected w.heap.size,args:= #[] }],V,{ target:= .fn (.func gf) lb,args:= #[.func (.yield (w.heap.size+1)) #[] #[]] },V,gf,#[.func (.yield (w.heap.size+1)) #[] #[]]++lb,V,?_,?_,fun _ _=>trivial,?_,fun h=>(by cases h),?_⟩
 ·rw[<-hV,hrc];exact run_enterLoop_outer _ _ _ _ _
 ·simp only[resolve,hg]
  simp [go_sem]
 ·simp [invoke,go_sem,eg]
 ·refine(hiter (w.heap.size+1) (fun k W=>I k W/\W.heap[w.heap.size+1]? =some (.loop (rc .ready none))/\W.heap[w.heap.size]? =some (.deferred (some []))) V hb0 ?_ ⟨hi0,hl0,hd0⟩).mono ?_
  ·rintro k W ⟨hi,hl,hd⟩ hk
   have hy:=run_yield (P:=P) (args:=encs k) hl (by rw[hrc];exact hps k)
   rw[hrc]at hy
   refine⟨fn,_,assign,body,hy,roundIn_of_wpIn trivial (hassign _ k W _ ⟨_,run_beginRound hl (by rw[hrc]),?_⟩)⟩
   have hlt:w.heap.size+1<W.heap.size:=(Array.getElem?_eq_some_iff.1 hl).1
   obtain⟨W2,hW2⟩:∃W2,W.putObj (w.heap.size+1) (.loop { rc .ready none with state:= .busy })=W2:=⟨_,rfl⟩
   rw[hW2]
   have hi2:I k W2:=hW2▸put _ hi (by omega) hl rfl
   have hl2:W2.heap[w.heap.size+1]? =some (.loop { rc .ready none with state:= .busy }):=hW2▸World.putObj_heap_same hlt
   have hd2:W2.heap[w.heap.size]? =some (.deferred (some [])):=hW2▸(World.putObj_heap_other (by omega)).trans hd
   have hk2:Kp W W2:=hW2▸hKb _ _ _ (by omega)
   refine wpIn_mono (hbody _ k _ hi2 hk) ?_
   rintro e a3 W3 hp
   cases e with
   |normal=>
    obtain⟨h3,hk3,hi3⟩:=hp
    have hl3:=h3.same _ _ (by omega) hl2 rfl
    have hd3:=h3.same _ _ (Nat.le_refl _) hd2 rfl
    have he:=run_endRound (P:=P) none hl3
    rw[hrc]at he hl3
    refine⟨_,_,he,rfl,⟨put _ hi3 (by omega) hl3 rfl,?_,(World.putObj_heap_other (by omega)).trans hd3⟩,hKt (hKt hk2 hk3) (hKb _ _ _ (by omega))⟩
    rw[hrc];exact World.putObj_heap_same (Array.getElem?_eq_some_iff.1 hl3).1
   |_=>exact hp.elim
  ·rintro e W2 ⟨⟨v,rfl⟩,hi,hl,hd⟩
   have he:=run_endLoop (P:=P) hl (by rw[hrc];simp)
   rw[hrc]at he hl
   exact⟨none,_,he,hdone _ _ (Nat.le_refl _) (put _ hi (by omega) hl rfl) ((World.putObj_heap_other (by omega)).trans hd)⟩
theorem alo {M:Mem} (h:jd M) {b:Nat} (ho:Own M b):∃c t fr,M.H[b]? =some (.cells c t fr):=by
 obtain⟨id,e,h1,_,h3⟩:=ho;obtain⟨_,_,c,t,fr,hc,_⟩:=h.is h1 h3;exact⟨c,t,fr,hc⟩
theorem aom {F1:Nat->Prop} {B b0 bx:Nat} {e:E} {z:den e} {W:World}:ajh e [] (vw F1 B b0 bx e z W).hp []=some (z,()):=by
 have h:ack e (vw F1 B b0 bx e z W).hp 0=some z:=by
  unfold ack;rw[amP];exact HY e z
 unfold ajh;rw[h];rfl
theorem arj {F1:Nat->Prop} {B b0 bx:Nat} {e:E} {z:den e} {W:World}:aY (vw F1 B b0 bx e z W) (.mp 8 0) (.pointer (some ⟨bx,0,none⟩)):=
 .mp 8 0 _ (.inr rfl) ⟨_,rfl⟩ fun x hx=>by
  rcases V4 hx with ⟨h,_⟩ | ⟨_,rfl⟩
  ·cases h
  ·exact⟨bx,false,_,rfl,rfl,rfl⟩
theorem ajC (i j:Nat) (x y:AV) (t:Nat):get [(i,x),(j,y)] t=if t=i then x else if t=j then y else .undef:=by
 rw[UR,UR];rfl
end Go.Av
namespace Go.Av
open Go Go.RowKit
set_option linter.unusedVariables false
set_option linter.unusedSimpArgs false
theorem alb {c:AV} {h j:Nat} (hc:Yk c=some (h,j)):c= .fn h [.mp j 0]:=by
 cases c with
 |fn f cs=>
  match cs,hc with
  |[q],hc=>
   cases q with
   |mp i o=>
    cases ho:Nat.beq o 0 with
    |false=>simp [Yk,ho]at hc
    |true=>
     have:=Nat.eq_of_beq_eq_true ho;subst this;simp [Yk]at hc;obtain⟨rfl,rfl⟩:=hc;rfl
   |_=>simp [Yk]at hc
  |[],hc=>simp [Yk]at hc
  |_::_::_,hc=>simp [Yk]at hc
 |_=>simp [Yk]at hc
theorem alB {cs:List AV} {n:Int} (h:numOf cs=some n):cs=[.int .i64 n]:=by
 match cs,h with
 |[c],h=>
  cases c with
  |int k m=>
   cases k<;>simp [numOf,Q7]at h
   subst h;rfl
  |_=>simp [numOf]at h
 |[],h=>simp [numOf]at h
 |_::_::_,h=>simp [numOf]at h
theorem arl {C:Cx} (K:CxR C) {f g:Nat} (L:qp C f 1) {fn:Func} {b:Code} (hf:C.P.funcs[f]? =some fn) (hb:fn.body=some b) {e:E} {run:List (den e)×Int->Option (List (den e))}
 (hrun:∀x y,run x=some y->aff C f g e x.1 x.2=some y):bJ C.P f (yG g e run):=by
 intro M w hp args vals i (x:List (den e)×Int) (y:List (den e)) hrel hH hF hnew hp' hn hs hdec hry
 have hdec:aqP g e hp args=some x:=hdec
 have hry:run x=some y:=hry
 obtain⟨a,j,l,n,fz,rfl,hj,hda,rfl⟩:∃a j l n fz,args=[a,.fn g [.mp j 0]]/\hp j=some ⟨fz,.raw [.int .i64 n]⟩/\gG hp (.buf e) a=some l/\x=(l,n):=by
  match args,hdec with
  |[a,c],hdec=>
   unfold aqP at hdec
   cases hc:Yk c with
   |none=>simp [hc]at hdec
   |some q=>
    obtain⟨h,j⟩:=q
    have:=alb hc
    subst this
    simp only[hc]at hdec
    cases hg:Nat.beq h g with
    |false=>rw[hg]at hdec;cases hdec
    |true=>
     have:=Nat.eq_of_beq_eq_true hg
     subst this
     rw[hg,cond_true]at hdec
     cases hj:hp j with
     |none=>simp [hj]at hdec
     |some en=>
      obtain⟨fz,bl⟩:=en
      cases bl with
      |arr=>simp [hj]at hdec
      |raw cs=>
       simp only[hj]at hdec
       cases hn:numOf cs with
       |none=>simp [hn]at hdec
       |some n=>
        have:=alB hn
        subst this
        simp only[hn]at hdec
        cases hd:gG hp (.buf e) a with
        |none=>simp [hd]at hdec
        |some l=>
         simp only[hd,Option.some.injEq]at hdec
         exact⟨a,j,l,n,fz,rfl,hj,hd,hdec.symm⟩
  |[],hdec=>cases hdec
  |[_],hdec=>cases hdec
  |_::_::_::_,hdec=>cases hdec
 have hn:vals.size=2:=hn
 have hlt:f<4096:=Nat.lt_of_lt_of_le (Array.getElem?_eq_some_iff.1 hf).1 K.nf
 have hmod:f%4096=f:=by omega
 have hMj:=hp' _ _ hj
 have hUj:M.U j:=hrel.used _ _ hMj
 obtain⟨so,hso⟩:∃so:Option Nat,(so=none/\a= .nils/\l=[])\/(∃id,so=some id/\a= .mf id/\hp id=some ⟨false,.arr e l⟩):=by
  rcases Bo hda with ⟨h1,h2⟩ | ⟨id,h1,h2⟩
  ·exact⟨none,.inl ⟨rfl,h1,h2⟩⟩
  ·exact⟨some id,.inr ⟨id,rfl,h1,h2⟩⟩
 have hown:aqf [a,.fn g [.mp j 0]]=so.toList:=by
  rcases hso with ⟨rfl,rfl,_⟩ | ⟨id,rfl,rfl,_⟩<;>rfl
 have hsj:so≠some j:=fun h=>by
  rcases hso with ⟨rfl,_⟩ | ⟨id,rfl,_,h2⟩
  ·cases h
  ·cases h;rw[hj]at h2;cases h2
 obtain⟨M1,hM1⟩:∃M1:Mem,M1={ U:=fun k=>k<2,F:=M.F,β:=fun k=>if k=0 then so.bind M.β else if k=1 then M.β j else none,hp:=fun k=>FS.hp ⟨[],[(0,some ⟨false,.arr e l⟩),(1,some ⟨true,.raw [.int .i64 n]⟩)],0⟩ k,H:=M.H }:=⟨_,rfl⟩
 have m1U:∀k,M1.U k↔k<2:=fun k=>by rw[hM1]
 have m1F:∀b,M1.F b↔M.F b:=fun b=>by rw[hM1]
 have m1β0:M1.β 0=so.bind M.β:=by rw[hM1];rfl
 have m1β1:M1.β 1=M.β j:=by rw[hM1];rfl
 have m1p0:M1.hp 0=some ⟨false,.arr e l⟩:=by rw[hM1];rfl
 have m1p1:M1.hp 1=some ⟨true,.raw [.int .i64 n]⟩:=by rw[hM1];rfl
 have m1ps:∀k x,M1.hp k=some x->(k=0/\x=⟨false,.arr e l⟩)\/(k=1/\x=⟨true,.raw [.int .i64 n]⟩):=fun k x h=>by
  by_cases h0:k=0
  ·subst h0;rw[m1p0]at h;exact .inl ⟨rfl,(Option.some.inj h).symm⟩
  ·by_cases h1:k=1
   ·subst h1;rw[m1p1]at h;exact .inr ⟨rfl,(Option.some.inj h).symm⟩
   ·rw[hM1]at h
    have h:FS.hp ⟨[],[(0,some ⟨false,.arr e l⟩),(1,some ⟨true,.raw [.int .i64 n]⟩)],0⟩ k=some x:=h
    unfold FS.hp at h
    simp only[look,eP (fun q=>h0 q.symm),eP (fun q=>h1 q.symm),cond_false]at h
    cases h
 have m1fs:∀k,M1.hp k=FS.hp ⟨[],[(0,some ⟨false,.arr e l⟩),(1,some ⟨true,.raw [.int .i64 n]⟩)],0⟩ k:=fun k=>by rw[hM1]
 have m1H:M1.H=M.H:=by rw[hM1]
 clear hM1
 obtain⟨σ,hσ⟩:∃σ:Nat->Option Nat,σ=fun k=>if k=0 then so else if k=1 then some j else none:=⟨_,rfl⟩
 have hσ0:σ 0=so:=by rw[hσ];rfl
 have hσ1:σ 1=some j:=by rw[hσ];rfl
 have vw:View M M1 σ:=by
  refine⟨m1H,m1F,fun k e' he=> ?_,fun k k' i0 e0 h1 h2 h3 h4 h5 h6=> ?_⟩
  ·rcases m1ps k e' he with ⟨rfl,rfl⟩ | ⟨rfl,rfl⟩
   ·refine⟨(m1U 0).2 (by omega),?_⟩
    rcases hso with ⟨rfl,rfl,rfl⟩ | ⟨id,rfl,rfl,hid⟩
    ·exact .inl ⟨hσ0,m1β0,_,_,rfl⟩
    ·exact .inr (.inl ⟨id,_,hσ0,hp' _ _ hid,m1β0,.inl rfl,rfl⟩)
   ·exact⟨(m1U 1).2 (by omega),.inr (.inl ⟨j,_,hσ1,hMj,m1β1,.inr ⟨rfl,rfl⟩,rfl,fun q v h1 h2 hs=>by
     have:q=0:=by simp at h1;omega
     subst this
     have hs:aY M (.int .i64 n) v:=hs
     show aY M1 (.int .i64 n) v
     cases hs;exact .int _ _⟩)⟩
  ·have a1:k=0\/k=1:=by
    cases hh:M1.hp k with
    |none=>exact absurd hh h3
    |some x=>rcases m1ps k x hh with h | h<;>simp [h.1]
   have a2:k'=0\/k'=1:=by
    cases hh:M1.hp k' with
    |none=>exact absurd hh h4
    |some x=>rcases m1ps k' x hh with h | h<;>simp [h.1]
   rcases a1 with rfl | rfl<;>rcases a2 with rfl | rfl
   ·rfl
   ·rw[hσ0]at h1;rw[hσ1]at h2;exact absurd (h1.trans h2.symm) hsj
   ·rw[hσ1]at h1;rw[hσ0]at h2;exact absurd (h2.trans h1.symm) hsj
   ·rfl
 have hM1r:=vw.hrel hrel
 have hM1H:M1.H=w.heap:=m1H.trans hH
 have hM1F:∀b,M1.F b->b<w.heap.size:=fun b hb=>hF b ((m1F b).1 hb)
 have hs0:aY M1 (.mf 0) vals[0]:=by
  have h0:aY M a vals[0]:=hs 0 (by simp) (by omega)
  rcases hso with ⟨rfl,rfl,rfl⟩ | ⟨id,rfl,rfl,hid⟩
  ·generalize vals[0]=v at h0
   cases h0
   refine .mf 0 _ ((m1U 0).2 (by omega)) rfl fun x hx=> ?_
   rw[m1p0]at hx;cases hx
   refine⟨false,e,[],none,0,rfl,rfl,Nat.le_refl _,?_⟩
   unfold sG
   rw[m1β0];exact⟨rfl,rfl⟩
  ·generalize vals[0]=v at h0
   cases h0 with | mf _ _ hU h1 hh=>
   refine .mf 0 _ ((m1U 0).2 (by omega)) h1 fun x hx=> ?_
   rw[m1p0]at hx;cases hx
   obtain⟨fz',t,l',ad,cap,heq,hv,hc,hsl⟩:=hh _ (hp' _ _ hid)
   cases heq
   refine⟨false,e,l,ad,cap,rfl,hv,hc,?_⟩
   unfold sG at*
   rw[m1β0,m1H]
   exact hsl
 have hs1:aY M1 (.fn g [.mp 1 0]) vals[1]:=by
  have h1:aY M (.fn g [.mp j 0]) vals[1]:=hs 1 (by simp) (by omega)
  generalize vals[1]=v at h1
  cases h1 with | fn _ _ us hn' hh=>
  refine .fn g _ us hn' fun q h1 h2=> ?_
  have:q=0:=by simp at h1;omega
  subst this
  have h3:aY M (.mp j 0) us[0]:=hh 0 (by simp) h2
  show aY M1 (.mp 1 0) us[0]
  generalize us[0]=u at h3
  cases h3 with | mp _ _ _ hU h4 h5=>
  refine .mp 1 0 u ((m1U 1).2 (by omega)) h4 fun x hx=> ?_
  rw[m1p1]at hx;cases hx
  obtain⟨bb,fz',cs,hq,hbb,hv⟩:=h5 _ hMj
  exact⟨bb,true,_,rfl,m1β1.trans hbb,hv⟩
 obtain⟨hB1,hR1⟩:=UX (M:=M1) (w:=w) hM1r hM1H hM1F (clk:=2) (fun k h=>by have:=(m1U k).1 h;omega) (h:=[(0,some ⟨false,.arr e l⟩),(1,some ⟨true,.raw [.int .i64 n]⟩)]) (args:=[.mf 0,.fn g [.mp 1 0]]) (vals:=vals)
  (fun k=>m1fs k) (by simpa using hn) (fun k h h'=>by
    have:k=0\/k=1:=by simp at h;omega
    rcases this with rfl | rfl
    ·exact hs0
    ·exact hs1) fn.ntmps
 have hrf:=hrun _ y hry
 unfold aff aeP at hrf
 simp only[hf,hb]at hrf
 refine .inl ⟨Aj K hf hb vals w,?_⟩
 refine calls_of_wp hf hb (P6 (Hw K 1000 y f 1 b _ _ hrf _ hB1 (by rw[hmod,akh hf];exact Nat.le_refl _) ⟨Nat.le_refl _,0,by omega,by rw[hmod,aaZ hf hb];rfl⟩ L (Keeps.no _ fun _ h=>h) M1 _ w hR1 _ fun ex A2 N1 a2 w2 he R2=> ?_))
 have fin:∀vs,RZ C.P A2 fn.results.toList=some vs->NU [.ro e] A2.hp vs=some y->bodyPost C.P fn (fun e' w'=>∃v,e'= .returned v/\∃N,Stp M w N w'/\(∀k,N.hp k=over ((yG g e run).upd [a,.fn g [.mp j 0]] y++((yG g e run).blk i y++(dead ((yG g e run).own [a,.fn g [.mp j 0]])++freeze hp (YQ (yG g e run).scal ((yG g e run).own [a,.fn g [.mp j 0]]) hp [a,.fn g [.mp j 0]])))) M.hp k)/\
  aY N ((yG g e run).enc i y) v/\(∀k,N.U k->M.U k\/(i<=k/\k<i+8))) .normal a2 w2:=fun vs hr hdr=>by
  obtain⟨v,g1,g2⟩:=Qc (P:=C.P) R2.stp.hrel R2.stp.H R2.fr R2.hp hr
  refine⟨R2.df,v,g1,v,rfl,?_⟩
  unfold NU at hdr
  cases hap:GN (fZ iU [.ro e] vs) (fZ KW [.ro e] vs)with
  |false=>simp [hap]at hdr
  |true=>
  simp only[hap,cond_true]at hdr
  obtain⟨q,rfl,hdq⟩:∃q,vs=[q]/\gG A2.hp (.ro e) q=some y:=by
   match vs,hdr with
   |[q],h=>exact⟨q,rfl,h⟩
   |[],h=>simp [IL]at h
   |_::_::_,h=>simp [IL]at h
  have hp2:∀k e,A2.hp k=some e->N1.hp k=some e:=fun k e h=>by rw[R2.hp];exact h
  obtain⟨N2,st2,h2p,h2U,h2β,h2H⟩:=yY (w:=w2) hp2 R2.stp.hrel R2.stp.H (Oj A2.hp (.ro e) q) (akn _ _ _)
  have tr:Trk (fun _=>False) M1 w N2 w2:=(Stp.trk R2.stp fun _ h=>h.elim).trans (Stp.trk st2 fun _ h=>h.elim)
  obtain⟨N,hN⟩:∃N:Mem,N={ U:=M.U,F:=N2.F,β:=M.β,hp:=over (dead so.toList) M.hp,H:=w2.heap }:=⟨_,rfl⟩
  have nU:∀k,N.U k↔M.U k:=fun k=>by rw[hN]
  have nF:∀b,N.F b↔N2.F b:=fun b=>by rw[hN]
  have nβ:∀j,N.β j=M.β j:=fun j=>by rw[hN]
  have np:∀j,N.hp j=over (dead so.toList) M.hp j:=fun j=>by rw[hN]
  have nH:N.H=w2.heap:=by rw[hN]
  clear hN
  have st:Stp M w N w2:=merge (K:=fun _=>False) (ρ:=fun _=>none) hrel hH hF (Stp.refl hrel hH) vw tr (fun k h=>(nU k).2 h) nH nF (fun k e' he=>by
   rw[np]at he
   unfold over at he
   rw[QL]at he
   by_cases hk:k∈so.toList
   ·rw[if_pos hk]at he;cases he
   ·rw[if_neg hk]at he
    have he:M.hp k=some e':=he
    refine⟨(nU k).2 (hrel.used _ _ he),.inr (.inl ⟨rfl,he,nβ k,fun _ q e1 hq hz hs=> ?_⟩)⟩
    rcases m1ps q e1 hq with ⟨rfl,rfl⟩ | ⟨rfl,rfl⟩
    ·rw[hσ0]at hs;exact hk (by rw[hs];simp)
    ·cases hz)
   (fun _ _ h=>by cases h) (fun _ _ _ _ h=>by cases h)
  refine⟨N,st,fun k=> ?_,?_,fun k h=> .inl ((nU k).1 h)⟩
  ·rw[np]
   show _=over ([]++([]++(dead (aqf [a,.fn g [.mp j 0]])++freeze hp []))) M.hp k
   rw[hown]
   simp only[List.nil_append,freeze,List.append_nil]
  ·exact P7 (d:=⟨.ro e,y⟩) (k:=i) hp2 st2.le st2.hrel (fun k hk=>NK h2p k hk) (fun b hb=>(nF b).2 hb) (by rw[nH,st2.H]) (by rw[st2.H,R2.stp.H]) trivial g2 hdq
 have fin2:(∀i,ex≠ .exit i)->bodyPost C.P fn (fun e' w'=>∃v,e'= .returned v/\∃N,Stp M w N w'/\(∀k,N.hp k=over ((yG g e run).upd [a,.fn g [.mp j 0]] y++((yG g e run).blk i y++(dead ((yG g e run).own [a,.fn g [.mp j 0]])++freeze hp (YQ (yG g e run).scal ((yG g e run).own [a,.fn g [.mp j 0]]) hp [a,.fn g [.mp j 0]])))) M.hp k)/\
  aY N ((yG g e run).enc i y) v/\(∀k,N.U k->M.U k\/(i<=k/\k<i+8))) .normal a2 w2:=fun hne=>by
  cases hr:RZ C.P A2 fn.results.toList with
  |none=>cases ex<;>simp [hr,bad]at he
  |some vs=>
   cases hdr:NU [.ro e] A2.hp vs with
   |none=>cases ex<;>simp [hr,hdr,bad]at he
   |some y'=>
    have:y'=y:=by
     cases ex<;>simp [hr,hdr,bad]at he<;>exact he
    subst this
    exact fin vs hr hdr
 cases ex with
 |normal=>exact fin2 fun i h=>by cases h
 |ret=>exact fin2 fun i h=>by cases h
 |exit j=>simp [bad]at he
theorem ali {C:Cx} (K:CxR C) (L:∀pf pos,qp C pf pos) {f g:Nat} (hb:hasB C.P f=true) {e:E} {run:List (den e)×Int->Option (List (den e))}
 (hrun:∀x y,run x=some y->aff C f g e x.1 x.2=some y):bJ C.P f (yG g e run):=by
 unfold hasB at hb
 cases hf:C.P.funcs[f]? with
 |none=>simp [hf]at hb
 |some fn=>
  simp only[hf]at hb
  obtain⟨b,hbd⟩:=Option.isSome_iff_exists.1 hb
  exact arl K (L f 1) hf hbd hrun
end Go.Av
