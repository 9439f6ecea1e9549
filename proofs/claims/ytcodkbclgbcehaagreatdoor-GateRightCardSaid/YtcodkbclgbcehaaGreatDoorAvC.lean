/- The evaluator is right: regions, texts, calls. No condition. -/
import Derived.Test.YtcodkbclgbcehaaGreatDoorAvB
import Derived.Orders
set_option linter.unusedVariables false
set_option linter.unusedSimpArgs false
set_option linter.unnecessarySimpa false
namespace Go.Av
open Go Go.RowKit
theorem He {ev ev':Operand->AV}:∀(l:List Operand),(∀x∈l,ev x=ev' x)->lg ev l=lg ev' l
 |[],_=>rfl
 |x::r,h=>by rw[lg,lg,h x (by simp),He r fun y hy=>h y (by simp [hy])]
theorem Qa {ev ev':Operand->AV}:∀(l:List (Nat×Operand)),(∀x∈l.map (·.2),ev x=ev' x)->lK ev l=lK ev' l
 |[],_=>rfl
 |(i,x)::r,h=>by rw[lK,lK,h x (by simp),Qa r fun y hy=>h y (by rw[awS];exact awX _ hy)]
theorem Z9 {ev ev':Operand->AV} (o:Option Operand) (h:∀x,o=some x->ev x=ev' x):akS ev o=akS ev' o:=by
 cases o with
 |none=>rfl
 |some x=>rw[akS,akS,h x rfl]
theorem aon {C:Cx} {hp:Nat->Option Ent} {ev ev':Operand->AV} {i:Nat} (op:Op) (h:∀x∈op.operands,ev x=ev' x):eop C hp ev i op=eop C hp ev' i op:=by
 cases op<;>simp only[Op.operands]at h<;>simp only[eop]
 case build t ps=>rw[Qa ps.toList fun x hx=>h x (by simpa using hx)]
 case buildSlice t n ps=>rw[Qa ps.toList fun x hx=>h x (by simpa using hx)]
 case makeFunc fn first captured=>rw[He captured.toList fun x hx=>h x (by simp at hx;simp [hx]),He first.toList fun x hx=>h x (by simp at hx;simp [hx])]
 case call c=>simp only[asg];rw[He c.args.toList fun x hx=>h x (by simp at hx;simp [Call.operands,hx])]
 case slice t x lo hi mx=>
  rw[h x (by simp),Z9 lo fun y hy=>h y (by simp [hy]),Z9 hi fun y hy=>h y (by simp [hy]),Z9 mx fun y hy=>h y (by simp [hy])]
 all_goals (first | rfl | (simp_all;done))
theorem aaf {ev ev':Operand->AV} (op:Op) (h:∀x∈op.operands,ev x=ev' x):akp ev op=akp ev' op:=by
 cases op<;>simp only[Op.operands]at h<;>simp only[akp]
 case buildSlice t n ps=>rw[Qa ps.toList fun x hx=>h x (by simpa using hx)]
 case call c=>rw[He c.args.toList fun x hx=>h x (by simp at hx;simp [Call.operands,hx])]
 all_goals (first | rfl | (simp_all;done))
theorem ai4 {ev ev':Operand->AV} (op:Op) (h:∀x∈op.operands,ev x=ev' x):callOf ev op=callOf ev' op:=by
 cases op
 case call c=>
  simp only[Op.operands]at h;simp only[callOf,amm];cases hc:c.callee with
  |value f=>
   simp only[h f (by simp [Call.operands,hc])];rw[He c.args.toList fun x hx=>h x (by simp at hx;simp [Call.operands,hx])]
  |_=>rfl
 all_goals rfl
theorem ado {hp hp':Nat->Option Ent} {rd:List Nat} (h:∀id∈rd,hp id=hp' id):Xr hp rd=Xr hp' rd:=by
 funext id;unfold Xr;cases hc:rd.any (fun j=>Nat.beq j id)with
 |false=>rfl
 |true=>
  obtain⟨j,h1,h2⟩:=axi.1 hc;have:=aws h2;subst this;simpa using h j h1
theorem ahK {hp:Nat->Option Ent} {rd:List Nat} {id:Nat} {e:Ent} (h:Xr hp rd id=some e):hp id=some e:=by
 unfold Xr at h;cases hc:rd.any (fun j=>Nat.beq j id)with
 |false=>simp [hc]at h
 |true=>simpa [hc] using h
theorem JV {ops:Array Oper} {c0:Nat} {g:Option (Nat×Bool)} {A B:FS} {x:Operand} (h:A.ev x=B.ev x):evG ops c0 g A x=evG ops c0 g B x:=by
 unfold evG;rw[h]
theorem al4 {ops:Array Oper} {A B:FS} {j:Nat} {w:Bool} (h:∀t,adi ops j=some t->get A.fr t=get B.fr t):arq ops A j w=arq ops B j w:=by
 unfold arq;cases hd:adi ops j with
 |none=>rfl
 |some t=>simp only[h t hd]
theorem aoq {ops:Array Oper} {A B:FS} {o:Oper} (h:∀t∈o.looksAt ops,get A.fr t=get B.fr t):gOf ops A o=gOf ops B o:=by
 unfold gOf;cases hg:o.guard with
 |none=>rfl
 |some p=>
  obtain⟨j,w⟩:=p
  exact al4 fun t ht=>h t (by
   unfold Oper.looksAt;refine awD _ ?_;simp only[hg];unfold adi at ht;cases hj:ops[j]? with
   |none=>simp [hj]at ht
   |some q=>simp [hj]at ht;simp [ht])
theorem aq7 {ops:Array Oper} {A B:FS} {o:Oper} (h:∀t∈o.looksAt ops,get A.fr t=get B.fr t):∀x∈o.op.operands,A.ev x=B.ev x:=by
 intro x hx;cases x with
 |tmp t=>exact h t (awM _ (List.mem_filterMap.2 ⟨.tmp t,by simpa using hx,rfl⟩))
 |_=>rfl
theorem ajA {ops:Array Oper} {c0:Nat} {g:Option (Nat×Bool)} {A B:FS} {c a b:Operand} (h:∀x∈(Op.pick c a b).operands,A.ev x=B.ev x):ahN ops c0 g A c a b=ahN ops c0 g B c a b:=by
 have hc:=h c (by simp [Op.operands]);have ha:=h a (by simp [Op.operands]);have hb:=h b (by simp [Op.operands]);unfold ahN Vh;rw[JV hc,JV ha,JV hb,ha,hb]
inductive KS (C:Cx) (ops:Array Oper) (c0 k:Nat) (A:FS) (o:Oper) (g:Bool):AV->List (Nat×Option Ent)->List Nat->Prop
 |pick (c a b:Operand) (v:AV) (h:o.op= .pick c a b) (hp:ahN ops c0 o.guard A c a b=some v):KS C ops c0 k A o g v [] []
 |call (f:Nat) (args:List AV) (s:aA) (x:s.σ) (y:s.τ) (hc:callOf (evG ops c0 o.guard A) o.op=some (f,args)) (hs:C.fn f=some s)
   (hd:s.dec (Xr A.hp (aaC args)) args=some x) (hr:g=true->s.run x=some y) (hu:g=false->aar s A args (8*(c0+k)) y=[]):
   KS C ops c0 k A o g (s.enc (8*(c0+k)) y) (aar s A args (8*(c0+k)) y) (aaC args)
 |op (ob:Bool) (e:Eff) (he:eop C (Xr A.hp (akp (evG ops c0 o.guard A) o.op)) (evG ops c0 o.guard A) (8*(c0+k)) o.op=some (ob,e))
   (hu:g=false->e.u=[]) (hob:asked o g ob=true):KS C ops c0 k A o g e.v e.u (akp (evG ops c0 o.guard A) o.op)
 |skip (v:AV) (hg:g=false):KS C ops c0 k A o g v [] []
 |pickF (t:Nat) (a b:Operand) (b0:Bool) (h:o.op= .pick (.tmp t) a b) (hb:evG ops c0 o.guard A (.tmp t)= .bool b0):KS C ops c0 k A o g (Vh ops c0 o.guard A t (bif b0 then a else b) b0) [] []
theorem am5 {ops:Array Oper} {A:FS} {o:Oper} {g:Bool} {u:List (Nat×Option Ent)} (hg:gOf ops A o=some g) (hu:noU o u=true) (h:g=false):u=[]:=by
 subst h;unfold noU at hu;cases hgu:o.guard with
 |none=>simp [gOf,hgu]at hg
 |some p=>cases u<;>simp_all
theorem akT {α:Type} {b:Bool} {x:Option α} {y:α} (h:cnd b x none=some y):b=true/\x=some y:=by
 cases b<;>simp_all [cnd]
theorem afS {α β:Type} {o:Option α} {f:α->Option β} {y:β} (h:ah o f=some y):∃z,o=some z/\f z=some y:=by
 cases o with
 |none=>simp [ah]at h
 |some z=>exact⟨z,rfl,h⟩
theorem Ye {τ:Type} {α:Type} {b:Bool} {x:Option τ} {n:Nat} {a:α} {y:τ} (h:(bif b then x else bad n a)=some y):b=true/\x=some y:=by
 cases b<;>simp_all [bad]
theorem ag4 {τ:Type} {v:AV} {k:AV->Option τ} {y:τ} (h:amX v k=some y):k v=some y:=by
 unfold amX at h;split at h
 ·exact h
 ·cases h
theorem XY {τ:Type} {ops:Array Oper} {A:FS} {o:Oper} {c0:Nat} {g:Bool} {K:FS×Acc->Option τ} {α:Type} {n:Nat} {a:α} {y:τ} (hg:gOf ops A o=some g) (h:agV o c0 A g K (bad n a)=some y):g=false/\K (Ea o c0 A g .undef [] [])=some y:=by
 unfold agV at h;split at h
 ·simp [bad]at h
 ·cases g with
  |true=>cases h
  |false=>exact⟨rfl,h⟩
theorem aob {C:Cx} {τ:Type} {call:Nat->List AV->FS->(AV->FS->Option τ)->Option τ} {ops:Array Oper} {c0:Nat} {dr:Bool} {A:FS} {k:Nat} {K:FS×Acc->Option τ} {y:τ}
 (h:kop C call ops c0 dr A k K=some y):∃o g,ops[k]? =some o/\gOf ops A o=some g/\
   ((∃v u r,KS C ops c0 k A o g v u r/\K (Ea o c0 A g v u r)=some y)\/
    ((dr=false\/Ox ops k=true)/\∃f args,callOf (evG ops c0 o.guard A) o.op=some (f,args)/\((g=true/\call f args A (fun v A'=>K (Ea o c0 { A with h:=A'.h,clk:=A'.clk } g v [] []))=some y)\/(g=false/\K (Ea o c0 A g (apC C.P o.type) [] [])=some y)))\/
    (dr=false/\o.guard=none/\∃n w,amV C.P A (evG ops c0 o.guard A) o.op=some (n,w)/\amH n (fun b=>K (Ea o c0 A g (.bool (beq b w)) [] []))=some y)):=by
 unfold kop at h
 split at h
 ·simp [bad]at h
 ·rename_i o ho
  split at h
  ·simp [bad]at h
  ·rename_i g hg
   refine⟨o,g,ho,hg,?_⟩
   split at h
   ·rename_i c a b hop
    split at h
    ·rename_i v hv
     exact .inl ⟨v,[],[],.pick c a b v hop hv,h⟩
    ·split at h
     ·rename_i t _
      split at h
      ·rename_i b0 hb0
       cases b0 with
       |true=>exact .inl ⟨_,_,_,.pickF t a b true hop hb0,ag4 (by simpa only[cnd] using h)⟩
       |false=>exact .inl ⟨_,_,_,.pickF t a b false hop hb0,ag4 (by simpa only[cnd] using h)⟩
      ·obtain⟨h1,h2⟩:=XY hg h
       exact .inl ⟨_,_,_,.skip _ h1,h2⟩
     ·obtain⟨h1,h2⟩:=XY hg h
      exact .inl ⟨_,_,_,.skip _ h1,h2⟩
   ·simp at h
   ·rename_i op hn1 hn2
    split at h
    ·rename_i f args hc
     cases hs:C.fn f with
     |some s=>
      simp only[hs,fnK]at h
      split at h
      ·rename_i x hx
       obtain⟨z,hz,h⟩:=afS h
       have hrun:g=true->s.run x=some z:=fun hg1=>by
        cases hgd:o.guard with
        |none=>simpa [hgd] using hz
        |some p=>simpa [hgd,hg1,cnd] using hz
       cases hu:noU o (aar s A args (8*(c0+k)) z)with
       |true=>
        simp only[hu,cond_true]at h
        exact .inl ⟨_,_,_,.call f args s x z hc hs hx hrun (am5 hg hu),h⟩
       |false=>
        simp only[hu,cond_false]at h
        cases g with
        |true=>exact .inl ⟨_,_,_,.call f args s x z hc hs hx hrun (fun h=>by cases h),h⟩
        |false=>exact .inl ⟨_,_,_,.skip _ rfl,h⟩
      ·obtain⟨h1,h2⟩:=XY hg h
       exact .inl ⟨_,_,_,.skip _ h1,h2⟩
     |none=>
      simp only[hs,fnK]at h
      obtain⟨hd,h⟩:=Ye h
      simp only[awp,ayv,ax0]at hd
      refine .inr (.inl ⟨hd.2,f,args,hc,?_⟩)
      cases hgd:o.guard with
      |none=>
       have:g=true:=by
        simp only[gOf,hgd,awj]at hg
        exact hg.symm
       subst this
       rw[hgd]at h
       exact .inl ⟨rfl,h⟩
      |some p=>
       rw[hgd]at h
       cases g with
       |true=>exact .inl ⟨rfl,h⟩
       |false=>exact .inr ⟨rfl,h⟩
    ·split at h
     ·rename_i ob e hn he
      cases hu:noU o e.u with
      |true=>
       simp only[hu,cond_true]at h
       obtain⟨hob,h⟩:=akT h
       exact .inl ⟨_,_,_,.op ob e he (am5 hg hu) hob,h⟩
      |false=>
       simp only[hu,cond_false]at h
       cases g with
       |true=>
        obtain⟨hob,h⟩:=akT h
        subst hob
        exact .inl ⟨_,_,_,.op true e he (fun h=>by cases h) (by unfold asked;split<;>simp [bor]),h⟩
       |false=>exact .inl ⟨_,_,_,.skip _ rfl,h⟩
     ·rename_i n w hn
      obtain⟨hd,h⟩:=Ye h
      simp only[awp,ax0]at hd
      refine .inr (.inr ⟨hd.1,?_,n,w,hn,h⟩)
      cases hgd:o.guard with
      |none=>rfl
      |some p=>simp [hgd]at hd
     ·obtain⟨h1,h2⟩:=XY hg h
      exact .inl ⟨_,_,_,.skip _ h1,h2⟩
structure aes (ops:Array Oper) (nt:Nat) (T:Nat->Prop):Prop where
 lt:∀(i:Nat) (o:Oper) (d:Nat),ops[i]? =some o->o.dst=some d->d<nt
 one:∀(i j:Nat) (o q:Oper) (d:Nat),ops[i]? =some o->ops[j]? =some q->o.dst=some d->q.dst=some d->i=j
 no:∀(i:Nat) (o:Oper) (d:Nat),ops[i]? =some o->o.dst=some d->¬T d
theorem aeY {d:Nat}:∀ {l:List Oper} {o:Oper},o∈l->o.dst=some d->d∈acN l
 |[],o,hm,hd=>by cases hm
 |q::l,o,hm,hd=>by
  cases hm with
  |head=>simp [acN,hd]
  |tail _ hm=>
   have:=aeY hm hd
   cases hq:q.dst<;>simp [acN,hq,this]
theorem abE:∀ {l:List Oper},distinct (acN l)=true->∀(i j:Nat) (o q:Oper) (d:Nat),l[i]? =some o->l[j]? =some q->o.dst=some d->q.dst=some d->i=j
 |[],_,i,j,o,q,d,hi,_,_,_=>by simp at hi
 |p::l,h,i,j,o,q,d,hi,hj,ho,hq=>by
  have tail:distinct (acN l)=true:=by
   cases hp:p.dst with
   |none=>simpa [acN,hp] using h
   |some e=>simp [acN,hp,distinct]at h;exact h.2
  have head:∀(k:Nat) (r:Oper),p.dst=some d->l[k]? =some r->r.dst=some d->False:=fun k r hp hk hr=>by
   have hm:=aeY (axw hk) hr
   simp only[acN,hp,distinct,awp]at h
   have h1:=h.1
   have:(acN l).any (fun x=>Nat.beq d x)=true:=axi.2 ⟨d,hm,by simp⟩
   rw[this]at h1
   simp [ax]at h1
  cases i with
  |zero=>
   cases j with
   |zero=>rfl
   |succ j=>exact(head j q (by simp at hi;rw[hi];exact ho) (by simpa using hj) hq).elim
  |succ i=>
   cases j with
   |zero=>exact(head i o (by simp at hj;rw[hj];exact hq) (by simpa using hi) ho).elim
   |succ j=>exact axg (· +1) (abE tail i j o q d (by simpa using hi) (by simpa using hj) ho hq)
theorem aat {f:Nat->List Nat} {ops:Array Oper} (h:NR f ops=true) {k:Nat} {o:Oper} (hk:ops[k]? =some o) {j:Nat} {u:Bool} (hg:o.guard=some (j,u)):j∈f k:=by
 unfold NR at h;have:=awV.1 h k (axJ.2 (awG.1 hk).1);simp only[hk,hg]at this;obtain⟨x,h1,h2⟩:=axi.1 this;have:=aws h2;exact this▸h1
theorem amf {n:Nat} {ops:Array Oper} (h:aiD n ops=true):aes ops n (fun _=>False)/\∀(k:Nat) (o:Oper) (j:Nat) (u:Bool),ops[k]? =some o->o.guard=some (j,u)->j<k:=by
 unfold aiD at h;simp only[awp]at h;obtain⟨⟨h1,h2⟩,h3⟩:=h;have tl:∀ {i:Nat} {o:Oper},ops[i]? =some o->ops.toList[i]? =some o:=fun hi=>by simpa using hi
 refine⟨⟨fun i o d hi hd=> ?_,fun i j o q d hi hj ho hq=>abE h2 i j o q d (tl hi) (tl hj) ho hq,fun _ _ _ _ _ h=>h⟩,fun k o j u hk hg=> ?_⟩
 ·have:=awV.1 h1 d (aeY (axw (tl hi)) hd);simpa [axr] using this
 ·exact axJ.1 (aat h3 hk hg)
structure Bse where
 M:Mem
 w:World
 cb:Nat
 nt:Nat
 T:Nat->Prop
 tm:Nat->Value
structure Pz (B:Bse):Prop where
 rel:lJ B.M
 H:B.M.H=B.w.heap
 F:∀b,B.M.F b->b<B.w.heap.size
 U:∀id,B.M.U id->id<8*B.cb
def nc:AV->Prop
 |.cond _ _ _ _ _=>False
 |_=>True
theorem ab6 (v:AV):nc (Xb v):=by cases v<;>trivial
theorem WO {M:Mem} {x:AV} {v:Value} (h:bT M x v):bT M (Xb x) v:=by
 cases x<;>first | exact h | exact .undef _
structure Rel (B:Bse) (M:Mem) (A:FS) (a:Act) (w:World):Prop where
 stp:Stp B.M B.w M w
 fr:∀t,bT M (get A.fr t) (a.tmps.getD t undef)
 hp:∀id,M.hp id=A.hp id
 df:a.defers=[]
 nt:B.nt<=a.tmps.size
 kp:∀t,B.T t->a.tmps.getD t undef=B.tm t
 ub:∀id,M.U id->B.M.U id\/(8*B.cb<=id/\id<8*A.clk)
 cond:∀t c j w g v,get A.fr t= .cond c j w g v->nc v/\c<A.clk
 clk:B.cb<=A.clk
theorem Rel.F {B:Bse} (hB:Pz B) {M:Mem} {A:FS} {a:Act} {w:World} (R:Rel B M A a w):∀b,M.F b->b<w.heap.size:=R.stp.Fsz hB.F
structure RS (B:Bse) (ops:Array Oper) (c0:Nat) (S:Nat->Prop) (M:Mem) (A:FS) (a:Act) (w:World):Prop where
 stp:Stp B.M B.w M w
 fr:∀t,bT M (get A.fr t) (a.tmps.getD t undef)
 hp:∀id,M.hp id=A.hp id
 df:a.defers=[]
 nt:B.nt<=a.tmps.size
 kp:∀t,B.T t->a.tmps.getD t undef=B.tm t
 ub:∀id,M.U id->B.M.U id\/(8*B.cb<=id/\(id<8*c0\/(∃j,S j/\j<ops.size/\8*(c0+j)<=id/\id<8*(c0+j)+8)\/(8*(c0+ops.size)<=id/\id<8*A.clk)))
 i1:∀t c j w g v,get A.fr t= .cond c j w g v->nc v/\(c<c0\/(c=c0/\S j/\j<ops.size/\(g=true↔yielded ops a.tmps j=some w)))
 i2:∀(j:Nat) (o:Oper) (k:Nat) (u b:Bool),S j->ops[j]? =some o->o.guard=some (k,u)->yielded ops a.tmps j=some b->S k/\yielded ops a.tmps k=some u
 clk:c0+ops.size<=A.clk
 cb:B.cb<=c0
theorem ad2 (l:List (Nat×AV)) (d t:Nat) (v:AV):get ((d,v)::l) t=if t=d then v else get l t:=by
 unfold get;simp only[look];by_cases h:t=d
 ·subst h;simp
 ·have:Nat.beq d t=false:=by
   cases hb:Nat.beq d t with
   |false=>rfl
   |true=>exact absurd (aws hb).symm h
  simp [this,h]
theorem aqf {α:Type} (u l:List (Nat×α)) (id:Nat):look (u++l) id=match look u id with | some e=>some e | none=>look l id:=by
 induction u with
 |nil=>simp [look]
 |cons p u ih=>
  obtain⟨k,v⟩:=p;simp only[axa,look];cases Nat.beq k id<;>simp [ih]
theorem aum (u:List (Nat×Option Ent)) (A:FS) (id:Nat):FS.hp { A with h:=u++A.h } id=over u A.hp id:=by
 unfold FS.hp over;rw[aqf];cases look u id<;>rfl
theorem CV (o:Oper) (c0:Nat) (A:FS) (g:Bool) (v:AV) (u:List (Nat×Option Ent)) (r:List Nat) (id:Nat):(Ea o c0 A g v u r).1.hp id=over u A.hp id:=by
 rw[<-aum];unfold Ea;cases o.dst<;>rfl
theorem yG (o:Oper) (c0:Nat) (A:FS) (g:Bool) (v:AV) (u:List (Nat×Option Ent)) (r:List Nat) (t:Nat):
 get (Ea o c0 A g v u r).1.fr t=if o.dst=some t then ajD o.guard c0 g (Xb v)else get A.fr t:=by
 unfold Ea
 cases hd:o.dst with
 |none=>simp
 |some d=>
  simp only[FS.setT,ad2]
  by_cases h:t=d
  ·subst h;simp
  ·have:¬d=t:=fun e=>h e.symm
   simp [h,this]
theorem V8 (o:Oper) (c0:Nat) (A:FS) (g:Bool) (v:AV) (u:List (Nat×Option Ent)) (r:List Nat):(Ea o c0 A g v u r).1.clk=A.clk:=by
 unfold Ea;cases o.dst<;>rfl
theorem akP (a:Act) (dst:Option Nat) (v:Value) (t:Nat) (h:∀d,dst=some d->d<a.tmps.size):(a.put dst v).tmps.getD t undef=if dst=some t then v else a.tmps.getD t undef:=by
 cases dst with
 |none=>simp [Act.put]
 |some d=>
  have hd:=h d rfl;simp only[Act.put,awj];by_cases e:d=t
  ·subst e;simp [hd]
  ·simp [e,axt e]
theorem aqA (a:Act) (dst:Option Nat) (v:Value):(a.put dst v).tmps.size=a.tmps.size:=by
 cases dst<;>simp [Act.put]
theorem put_defers (a:Act) (dst:Option Nat) (v:Value):(a.put dst v).defers=a.defers:=by
 cases dst<;>rfl
theorem aeI {ops:Array Oper} {a:Act} {dst:Option Nat} {v:Value} {j:Nat} (h:∀q t,ops[j]? =some q->q.dst=some t->dst≠some t):yielded ops (a.put dst v).tmps j=yielded ops a.tmps j:=by
 unfold yielded;cases hj:ops[j]? with
 |none=>rfl
 |some q=>
  cases hq:q.dst with
  |none=>simp [hq]
  |some t=>
   have:=h q t hj hq;cases dst with
   |none=>rfl
   |some d=>
    have hne:d≠t:=fun e=>this (by rw[e]);simp [Act.put,hq,axt hne]
theorem acS {ops:Array Oper} {a:Act} {o:Oper} {i:Nat} (hi:ops[i]? =some o) {v:Value} {b:Bool} (hd:∀d,o.dst=some d->d<a.tmps.size) (h:yielded ops (a.put o.dst v).tmps i=some b):v= .bool b:=by
 unfold yielded at h;simp only[hi,ayC]at h;cases hq:o.dst with
 |none=>simp [hq]at h
 |some d=>
  have:=hd d hq;simp only[hq,Act.put,ayC,ayb this]at h;split at h
  ·rename_i heq;cases heq;cases h;rfl
  ·cases h
def aus:Value->Option Bool
 |.bool b=>some b
 |_=>none
theorem Uc {ops:Array Oper} {tmps:Array Value} {j t:Nat} (h:adi ops j=some t) {v:Value} (hv:tmps.getD t undef=v):yielded ops tmps j=aus v:=by
 subst hv;unfold yielded;unfold adi at h;cases hj:ops[j]? with
 |none=>simp [hj]at h
 |some q=>
  simp only[hj]at h;simp only[ayC,h,ayI];cases ht:tmps[t]? with
  |none=>rfl
  |some x=>cases x<;>rfl
section
variable {B:Bse} {ops:Array Oper} {c0:Nat} {S:Nat->Prop} {M:Mem} {A:FS} {a:Act} {w:World}
theorem RS.put (hB:Pz B) (R:RS B ops c0 S M A a w) {i:Nat} {o:Oper} (hi:ops[i]? =some o) (hS:¬S i) (hd:aes ops B.nt B.T) (hgd:∀j u,o.guard=some (j,u)->S j/\j<ops.size)
 {N:Mem} {w':World} {u:List (Nat×Option Ent)} {v:AV} {val:Value} {g:Bool} {r:List Nat} (st:Stp M w N w') (hhp:∀id,N.hp id=over u M.hp id)
 (hU:∀id,N.U id->M.U id\/(8*(c0+i)<=id/\id<8*(c0+i)+8)) (hv:bT N (ajD o.guard c0 g (Xb v)) val)
 (hg:∀j u,o.guard=some (j,u)->(g=true↔yielded ops a.tmps j=some u)) (hg2:∀j u b,o.guard=some (j,u)->val= .bool b->yielded ops a.tmps j=some u):
 RS B ops c0 (fun j=>S j\/j=i) N (Ea o c0 A g v u r).1 (a.put o.dst val) w':=by
 have hlt:i<ops.size:=(awG.1 hi).1
 have hsz:∀d,o.dst=some d->d<a.tmps.size:=fun d h=>axf (hd.lt i o d hi h) R.nt
 have keep:∀j,j≠i->yielded ops (a.put o.dst val).tmps j=yielded ops a.tmps j:=fun j hj=>aeI fun q t hq ht e=>hj (hd.one j i q o t hq hi ht e)
 refine⟨R.stp.trans st hB.rel hB.H,fun t=> ?_,fun id=> ?_,by rw[put_defers];exact R.df,by rw[aqA];exact R.nt,fun t ht=>by rw[akP _ _ _ _ hsz,awg (fun e=>hd.no i o t hi e ht)];exact R.kp t ht,fun id h=> ?_,fun t c j x g' v' h=> ?_,fun j q k u' b hj hq hgq hy=> ?_,by rw[V8];exact R.clk,R.cb⟩
 ·rw[yG,akP _ _ _ _ hsz]
  by_cases h:o.dst=some t
  ·rw[awh h,awh h];exact hv
  ·rw[awg h,awg h];exact(R.fr t).le st.le
 ·rw[CV,hhp]
  have:M.hp=A.hp:=funext R.hp
  rw[this]
 ·rw[V8]
  rcases hU id h with h | h
  ·rcases R.ub id h with h | ⟨h1,h | ⟨j,h2,h3⟩ | h⟩
   ·exact .inl h
   ·exact .inr ⟨h1,.inl h⟩
   ·exact .inr ⟨h1,.inr (.inl ⟨j,.inl h2,h3⟩)⟩
   ·exact .inr ⟨h1,.inr (.inr h)⟩
  ·have:=R.cb
   exact .inr ⟨by omega,.inr (.inl ⟨i,.inr rfl,hlt,h⟩)⟩
 ·rw[yG]at h
  by_cases hdt:o.dst=some t
  ·rw[awh hdt]at h
   unfold ajD at h
   cases hgu:o.guard with
   |none=>
    rw[hgu]at h
    have:=ab6 v
    simp only at h
    rw[h]at this
    exact this.elim
   |some p=>
    obtain⟨j0,x0⟩:=p
    rw[hgu]at h
    simp only[AV.cond.injEq]at h
    obtain⟨rfl,rfl,rfl,rfl,rfl⟩:=h
    obtain⟨hS0,hlt0⟩:=hgd _ _ hgu
    refine⟨ab6 _,.inr ⟨rfl,.inl hS0,hlt0,?_⟩⟩
    rw[keep _ (fun e=>hS (e▸hS0))]
    exact hg _ _ hgu
  ·rw[awg hdt]at h
   obtain⟨h1,h2 | ⟨h2,h3,h4,h5⟩⟩:=R.i1 t c j x g' v' h
   ·exact⟨h1,.inl h2⟩
   ·refine⟨h1,.inr ⟨h2,.inl h3,h4,?_⟩⟩
    rw[keep _ (fun e=>hS (e▸h3))]
    exact h5
 ·by_cases hji:j=i
  ·subst hji
   rw[hi]at hq
   cases hq
   have hval:=acS hi hsz hy
   obtain⟨hS0,_⟩:=hgd _ _ hgq
   refine⟨.inl hS0,?_⟩
   rw[keep _ (fun e=>hS (e▸hS0))]
   exact hg2 _ _ b hgq hval
  ·rw[keep _ hji]at hy
   have hSj:S j:=hj.resolve_right hji
   obtain⟨h1,h2⟩:=R.i2 j q k u' b hSj hq hgq hy
   refine⟨.inl h1,?_⟩
   rw[keep _ (fun e=>hS (e▸h1))]
   exact h2
theorem afX (R:RS B ops c0 S M A a w):∀(n k:Nat) (u:Bool) (j:Nat) (x:Bool),impl ops n k u j x=true->S k->yielded ops a.tmps k=some u->S j/\yielded ops a.tmps j=some x
 |0,_,_,_,_,h,_,_=>by simp [impl]at h
 |n+1,k,u,j,x,h,hS,hy=>by
  simp only[impl,ayv,awp]at h
  rcases h with ⟨h1,h2⟩ | h
  ·have:=aws h1
   have h2:u=x:=by simpa using h2
   subst this;subst h2
   exact⟨hS,hy⟩
  ·split at h
   ·rename_i o ho
    split at h
    ·rename_i k' v hg
     obtain⟨h1,h2⟩:=R.i2 k o k' v u hS ho hg hy
     exact afX R n k' v j x h h1 h2
    ·cases h
   ·cases h
theorem aeZ (R:RS B ops c0 S M A a w) {gd:Option (Nat×Bool)} (hg:∀k u,gd=some (k,u)->S k/\yielded ops a.tmps k=some u) (x:Operand):bT M (evG ops c0 gd A x) (a.eval x):=by
 have hx:=aid R.fr x;unfold evG;split
 ·rename_i c j x0 g v hev;split
  ·rename_i k u;cases hc:(Nat.beq c c0&&impl ops 64 k u j x0)with
   |false=>exact .undef _
   |true=>
    simp only[awp]at hc;obtain⟨h1,h2⟩:=hg k u rfl;obtain⟨h3,h4⟩:=afX R 64 k u j x0 hc.2 h1 h2;have hcc:=aws hc.1;subst hcc;cases x with
    |tmp t=>
     have hcd:get A.fr t= .cond c j x0 g v:=hev;obtain⟨_,h5 | ⟨_,_,_,h5⟩⟩:=R.i1 t _ _ _ _ _ hcd
     ·omega
     ·have:g=true:=h5.2 h4;subst this;rw[hev]at hx;generalize a.eval (.tmp t)=val at hx;cases hx with
      |condT _ _ _ _ _ h=>exact h
    |const cv=>
     simp only[FS.ev]at hev;split at hev
     ·rename_i cs;cases hb:cs.all Value.oneCell<;>simp [hb]at hev
     ·rename_i cv' hne;unfold ofV at hev;split at hev<;>cases hev
    |_=>simp [FS.ev]at hev
  ·exact .undef _
 ·exact hx
theorem ag6 (R:RS B ops c0 S M A a w) {o:Oper} {g:Bool} (h:gOf ops A o=some g):Region.wanted o (yielded ops a.tmps)=g:=by
 unfold gOf at h;unfold Region.wanted;cases hg:o.guard with
 |none=>simpa [hg] using h
 |some p=>
  obtain⟨j,u⟩:=p;simp only[hg]at h ⊢;unfold arq at h;split at h
  ·rename_i t ht;have hs:=R.fr t;split at h
   ·rename_i b hb;rw[hb]at hs;have hv:a.tmps.getD t undef= .bool b:=by
     generalize a.tmps.getD t undef=v at hs;cases hs;rfl
    rw[Uc ht hv];cases h;cases u<;>cases b<;>rfl
   ·rename_i c j' w' g' b hb;rw[hb]at hs;cases h;generalize hv:a.tmps.getD t undef=v at hs;rw[Uc ht hv];cases hs with
    |condT _ _ _ _ _ h=>
     cases h;cases u<;>cases b<;>rfl
    |condF=>cases u<;>cases b<;>rfl
   ·cases h
  ·cases h
end
def aqP (P:Program) (f:Nat) (vals:Array Value) (w:World) (R:Value->World->Prop):Prop:=
 ((callFunc f vals).run P w= .ok (.enter f vals) w/\Calls P f vals w (fun e w'=>∃v,e= .returned v/\R v w'))\/
 ∃v w',(callFunc f vals).run P w= .ok (.value v) w'/\R v w'
def bY (P:Program) (f:Nat) (s:aA):Prop:=
 ∀(M:Mem) (w:World) (hp:Nat->Option Ent) (args:List AV) (vals:Array Value) (i:Nat) (x:s.σ) (y:s.τ),
  lJ M->M.H=w.heap->(∀b,M.F b->b<w.heap.size)->(∀j,i<=j->j<i+8->¬M.U j)->(∀id e,hp id=some e->M.hp id=some e)->
  vals.size=args.length->(∀j,(h:j<args.length)->(h':j<vals.size)->bT M args[j] vals[j])->s.dec hp args=some x->s.run x=some y->
  aqP P f vals w fun v w'=>∃N,Stp M w N w'/\(∀id,N.hp id=over (s.upd args y++(s.blk i y++(dead (s.own args)++freeze hp (afR s.scal (s.own args) hp args)))) M.hp id)/\bT N (s.enc i y) v/\
   (∀id,N.U id->M.U id\/(i<=id/\id<i+8))
structure CxR (C:Cx):Prop where
 ok:avQ C
 nf:C.P.funcs.size<=4096
 mixed:C.P.follows .mixedOrders=true
 nog:∀(f:Nat) (fn:Func),C.P.funcs[f]? =some fn→(fn.name == "runtime.NumGoroutine")=false
 fn:∀f s,C.fn f=some s->bY C.P f s
theorem ahH {P:Program} {f:Nat} {vals:Array Value} {w:World} {R:Value->World->Prop} (h:aqP P f vals w R) {o:Oper} {a:Act} {next:Act->World->Prop} {Q:Exit->Act->World->Prop}
 (hn:∀v w',R v w'->next (a.put o.dst v) w'):o.upon P a next Q ((callFunc f vals).run P w):=by
 rcases h with ⟨h1,h2⟩ | ⟨v,w',h1,h2⟩
 ·rw[h1,Oper.upon_enter]
  refine h2.mono fun e w' ⟨v,he,hR⟩=> ?_
  subst he
  exact hn v w' hR
 ·rw[h1,Oper.upon_value]
  exact hn v w' h2
theorem akw {o:Oper} {ev:Operand->AV} {ρ:Operand->Value} {M:Mem} {f:Nat} {args:List AV} (hev:∀x,bT M (ev x) (ρ x)) (h:callOf ev o.op=some (f,args)):
 ∃vals:Array Value,(execOp ρ o=callFunc f vals)/\vals.size=args.length/\∀j,(h:j<args.length)->(h':j<vals.size)->bT M args[j] vals[j]:=by
 unfold callOf at h
 split at h
 ·rename_i c hop
  unfold amm at h
  split at h
  ·rename_i fx hc
   split at h
   ·rename_i k caps hk
    simp only[awj,awo]at h
    obtain⟨rfl,rfl⟩:=h
    have hs:=hev fx
    rw[hk]at hs
    generalize hfx:ρ fx=vf at hs
    cases hs with
    |fn _ _ vs hn hh=>
     obtain⟨g1,g2⟩:=J6 hev c.args.toList
     refine⟨c.args.map ρ++vs,?_,?_,fun j h1 h2=> ?_⟩
     ·simp [execOp,hop,resolve,hc,hfx,Deferred.ofValue,invoke]
     ·simp only[awn,ayB,hn,<-g1];simp
     ·have e1:(c.args.map ρ++vs)[j]=((c.args.toList.map ρ)++vs.toList)[j]'(by simpa using h2):=by
       simp only[<-axN];simp
      rw[e1]
      by_cases hj:j<(lg ev c.args.toList).length
      ·rw[axq hj,axq (g1▸hj)]
       exact g2 j hj (g1▸hj)
      ·rw[axl (by omega),axl (by omega)]
       have hj2:j - (lg ev c.args.toList).length<vs.size:=by
        simp only[awn]at h1;omega
       have:=hh (j - (lg ev c.args.toList).length) (by rw[<-hn];exact hj2) hj2
       simpa [g1] using this
   ·rename_i k bs hk
    simp only[awj,awo]at h
    obtain⟨rfl,rfl⟩:=h
    have hs:=hev fx
    rw[hk]at hs
    generalize hfx:ρ fx=vf at hs
    cases hs with
    |fnb _ _ vs hn hh=>
     obtain⟨g1,g2⟩:=J6 hev c.args.toList
     refine⟨vs++c.args.map ρ,?_,?_,fun j h1 h2=> ?_⟩
     ·simp [execOp,hop,resolve,hc,hfx,Deferred.ofValue,invoke]
     ·simp only[awn,ayB,hn,<-g1];simp
     ·have e1:(vs++c.args.map ρ)[j]=(vs.toList++(c.args.toList.map ρ))[j]'(by simpa using h2):=by
       simp only[<-axN];simp
      rw[e1]
      by_cases hj:j<bs.length
      ·rw[axq hj,axq (by simp [hn];exact hj)]
       have:=hh j hj (by rw[hn];exact hj)
       simpa using this
      ·rw[axl (by omega),axl (by simp [hn];omega)]
       have hl:(lg ev c.args.toList).length=c.args.size:=by rw[<-g1];simp
       have hj2:j - bs.length<(lg ev c.args.toList).length:=by
        simp only[awn]at h1;omega
       have:=g2 (j - bs.length) hj2 (by rw[g1];exact hj2)
       simpa [hn] using this
   ·cases h
  ·cases h
 ·cases h
section
variable {C:Cx} {B:Bse} {ops:Array Oper} {c0:Nat} {S:Nat->Prop} {M:Mem} {A:FS} {a:Act} {w:World}
theorem KS.nil {k:Nat} {o:Oper} {g:Bool} {v:AV} {u:List (Nat×Option Ent)} {r:List Nat} (h:KS C ops c0 k A o g v u r) (hg:g=false):u=[]:=by
 cases h with
 |pick=>rfl
 |call f args s x y hc hs hd hr hu=>exact hu hg
 |op ob e he hu hob=>exact hu hg
 |skip v h=>rfl
 |pickF t a b b0 h hb=>rfl
theorem Zq {g:Option (Nat×Bool)} {c0:Nat} {v:AV} {val:Value} (h:bT M v val):bT M (ajD g c0 true (Xb v)) val:=by
 cases g with
 |none=>exact WO h
 |some p=>exact .condT _ _ _ _ _ (WO h)
theorem ana (K:CxR C) (hB:Pz B) (R:RS B ops c0 S M A a w) {i:Nat} {o:Oper} (hi:ops[i]? =some o) (hS:¬S i) (hd:aes ops B.nt B.T) (hgd:∀j u,o.guard=some (j,u)->S j/\j<ops.size)
 {g:Bool} (hg:gOf ops A o=some g) {v:AV} {u:List (Nat×Option Ent)} {r:List Nat} (hk:KS C ops c0 i A o g v u r) {Q:Exit->Act->World->Prop} {next:Act->World->Prop}
 (cont:∀N a' w',RS B ops c0 (fun j=>S j\/j=i) N (Ea o c0 A g v u r).1 a' w'->next a' w'):wpOp C.P ops Q i next a w:=by
 have hlt:i<ops.size:=(awG.1 hi).1
 have hw:=ag6 R hg
 have hgw:∀j x,o.guard=some (j,x)->(g=true↔yielded ops a.tmps j=some x):=fun j x hgu=>by
  unfold Region.wanted at hw
  simp only[hgu]at hw
  rw[<-hw];simp
 have hnew:∀j,8*(c0+i)<=j->j<8*(c0+i)+8->¬M.U j:=fun j h1 h2 hU=>by
  rcases R.ub j hU with h | ⟨h3,h | ⟨k,h4,h5,h6,h7⟩ | ⟨h4,h5⟩⟩
  ·have:=hB.U j h;have:=R.cb;omega
  ·omega
  ·have:k=i:=by omega
   exact hS (this▸h4)
  ·omega
 have hH:M.H=w.heap:=R.stp.H
 have hrel:lJ M:=R.stp.hrel
 have hF:∀b,M.F b->b<w.heap.size:=R.stp.Fsz hB.F
 unfold wpOp
 simp only[hi]
 rw[hw]
 cases g with
 |false=>
  rw[awg (by simp)]
  obtain⟨⟨j0,x0⟩,hgu⟩:∃p,o.guard=some p:=by
   cases hgu:o.guard with
   |none=>simp [gOf,hgu]at hg
   |some p=>exact⟨p,rfl⟩
  have hu:=hk.nil rfl
  subst hu
  refine cont M _ _ (R.put hB hi hS hd hgd (Stp.refl hrel hH) (fun _=>rfl) (fun _ h=> .inl h) ?_ hgw fun j x b _ hb=> ?_)
  ·rw[hgu];exact .condF _ _ _ _
  ·cases hb
 |true=>
  rw[awh rfl]
  refine .inl ?_
  unfold Oper.wp
  have hgs:∀k x,o.guard=some (k,x)->S k/\yielded ops a.tmps k=some x:=fun k x h=>⟨(hgd k x h).1,(hgw k x h).1 rfl⟩
  have hev:=aeZ R hgs
  have fin:∀(N:Mem) (w':World) (val:Value),Stp M w N w'->(∀id,N.hp id=over u M.hp id)->bT N v val->(∀id,N.U id->M.U id\/(8*(c0+i)<=id/\id<8*(c0+i)+8))->next (a.put o.dst val) w':=
   fun N w' val h1 h2 h3 h4=>cont N _ _ (R.put hB hi hS hd hgd h1 h2 h4 (Zq h3) hgw fun j x b h _=>(hgs j x h).2)
  have pk0:∀(t:Nat) (b0:Bool),a.tmps.getD t undef= .bool b0->∀z,bT M (Vh ops c0 o.guard A t z b0) (a.eval z):=fun t b0 hct z=>by
   unfold Vh
   split
   ·rename_i c' j' w' g' v' hz
    cases hcc:(Nat.beq c' c0&&(b0 == w')&&(match adi ops j' with | some t'=>Nat.beq t t' | none=>false))with
    |false=>exact hev z
    |true=>
     simp only[awp]at hcc
     obtain⟨⟨h1,h2⟩,h3⟩:=hcc
     have h1:=aws h1
     have h2:b0=w':=by simpa using h2
     subst h1;subst h2
     split at h3
     ·rename_i t' ht'
      have h3:=aws h3
      subst h3
      have hy:=Uc ht' hct
      cases z with
      |tmp s=>
       have hcd:get A.fr s= .cond c' j' b0 g' v':=hz
       obtain⟨_,h5 | ⟨_,_,_,h5⟩⟩:=R.i1 s _ _ _ _ _ hcd
       ·omega
       ·have:g'=true:=h5.2 hy
        subst this
        have hx:=R.fr s
        rw[hcd]at hx
        have e:a.eval (.tmp s)=a.tmps.getD s undef:=rfl
        rw[e]
        generalize a.tmps.getD s undef=val at hx
        cases hx with
        |condT _ _ _ _ _ h=>exact h
      |const cv=>
       simp only[FS.ev]at hz
       split at hz
       ·rename_i cs
        cases hb:cs.all Value.oneCell<;>simp [hb]at hz
       ·unfold ofV at hz
        split at hz<;>cases hz
      |_=>simp [FS.ev]at hz
     ·cases h3
   ·exact aid R.fr z
  cases hk with
  |skip v h=>cases h
  |pickF t x y b0 h hb=>
   have hc:=hev (.tmp t)
   rw[hb]at hc
   have hct:a.tmps.getD t undef= .bool b0:=by
    have:a.eval (.tmp t)= .bool b0:=by
     generalize a.eval (.tmp t)=vv at hc
     cases hc;rfl
    exact this
   have hrun:(execOp a.eval o).run C.P w= .ok (.value (if b0 then a.eval x else a.eval y)) w:=by
    have hct':a.eval (.tmp t)= .bool b0:=hct
    simp [execOp,h,hct',asBool]
   rw[hrun,Oper.upon_value]
   refine fin M w _ (Stp.refl hrel hH) (fun _=>rfl) ?_ (fun _ h=> .inl h)
   cases b0 with
   |true=>exact pk0 t true hct x
   |false=>exact pk0 t false hct y
  |pick c x y v h hp=>
   unfold ahN at hp
   split at hp
   ·rename_i t
    split at hp
    ·rename_i b0 hb
     have hc:=hev (.tmp t)
     rw[hb]at hc
     have hct:a.tmps.getD t undef= .bool b0:=by
      have:a.eval (.tmp t)= .bool b0:=by
       generalize a.eval (.tmp t)=vv at hc
       cases hc;rfl
      exact this
     have pk:=pk0 t b0 hct
     unfold atH at hp
     split at hp
     ·rename_i xa yb hxa hyb
      cases hp
      have hval:∃val,(execOp a.eval o).run C.P w= .ok (.value val) w/\bT M (.bool (cnd b0 xa yb)) val:=by
       have hrun:(execOp a.eval o).run C.P w= .ok (.value (if b0 then a.eval x else a.eval y)) w:=by
        have hct':a.eval (.tmp t)= .bool b0:=hct
        simp [execOp,h,hct',asBool]
       refine⟨_,hrun,?_⟩
       cases b0 with
       |true=>
        have:=pk x
        rw[hxa]at this
        exact this
       |false=>
        have:=pk y
        rw[hyb]at this
        exact this
      obtain⟨val,h1,h2⟩:=hval
      rw[h1,Oper.upon_value]
      exact fin M w val (Stp.refl hrel hH) (fun _=>rfl) h2 (fun _ h=> .inl h)
     ·cases hp
    ·cases hp
   ·cases hp
  |call f args s x y hc hs hdec hr hu=>
   obtain⟨vals,h1,h2,h3⟩:=akw hev hc
   rw[h1]
   refine ahH (K.fn f s hs M w _ args vals (8*(c0+i)) x y hrel hH hF hnew (fun id e h=>by rw[R.hp];exact ahK h) h2 h3 hdec (hr rfl)) fun val w' ⟨N,g1,g2,g3,g4⟩=> ?_
   exact fin N w' val g1 g2 g3 g4
  |op ob e he hu hob=>
   have hob':ob=true:=by
    unfold asked at hob
    cases hgu:o.guard with
    |none=>simpa [hgu] using hob
    |some p=>simpa [hgu,bor,ax] using hob
   obtain⟨nx,val,w',N,h1,h2,h3,h4,h5,h6⟩:=aoh K.ok (ρ:=a.eval) (M:=M) (w:=w) ⟨hrel,hH,hF,hnew,fun id e h=>by rw[R.hp];exact ahK h,hev⟩ o he hob'
   rw[h1]
   rcases h2 with rfl | ⟨rfl,rfl⟩
   ·rw[Oper.upon_value];exact fin N w' val h3 h4 h5 h6
   ·rw[Oper.upon_skip];exact fin N w' undef h3 h4 h5 h6
end
section
variable {C:Cx} {B:Bse} {ops:Array Oper} {c0:Nat} {S:Nat->Prop} {M:Mem} {A:FS} {a:Act} {w:World}
theorem aoQ {P:Program} {t:Nat} (h:slT P t=true):∃el,P.underlying t=some (.slice el):=by
 unfold slT at h;split at h
 ·rename_i el hu;exact⟨el,hu⟩
 ·cases h
theorem amq {P:Program} {w:World} {t:Nat} (ht:slT P t=true) (ad:Option Addr) (n cap:Nat) (a b:Operand):
 (do eqGuard .eql t a b (.slice ad n cap) (.slice none 0 0);binOp .eql t (.slice ad n cap) (.slice none 0 0):Sem Value).run P w= .ok (.bool ad.isNone) w/\
 (do eqGuard .neq t a b (.slice ad n cap) (.slice none 0 0);binOp .neq t (.slice ad n cap) (.slice none 0 0):Sem Value).run P w= .ok (.bool (!ad.isNone)) w:=by
 obtain⟨el,hu⟩:=aoQ ht
 have h:∀d:Nat,(Op.equalIn (d+1) t (.slice ad n cap) (.slice none 0 0)).run P w= .ok ad.isNone w:=fun d=>by
  cases ad<;>simp [Op.equalIn,iK w hu]
 have h:(Op.equalIn 10000 t (.slice ad n cap) (.slice none 0 0)).run P w= .ok ad.isNone w:=h 9999
 constructor<;>simp [eqGuard,binOp,Op.equal,Op.maxDepth,h]
theorem ako {P:Program} {hp:Nat->Option Ent} {ev:Operand->AV} {ρ:Operand->Value} (hev:∀x,bT M (ev x) (ρ x)) (hhp:∀id,M.hp id=A.hp id) {o:Oper} {n:Int} {x:Bool}
 (h:amV P A ev o.op=some (n,x)):∃b,(execOp ρ o).run P w= .ok (.value (.bool (beq b x))) w/\(b=true->n=0):=by
 have slv:∀y m,(∃e l ex,y= .ro e l ex/\m=len l)\/(∃id,y= .mf id/\alf A.hp (.mf id)=some m)->∀v,bT M y v->∃ad k cap,v= .slice ad k cap/\(ad.isNone=true->m=0):=by
  intro y m hy v hs
  rcases hy with ⟨e,l,ex,rfl,rfl⟩ | ⟨id,rfl,hl⟩
  ·cases hs with
   |roE e ex ad cap hx=>exact⟨ad,0,cap,rfl,fun _=>rfl⟩
   |ro e l ex b o cap=>exact⟨_,_,_,rfl,fun h=>by cases h⟩
  ·simp only[alf]at hl
   split at hl
   ·rename_i fz e l he
    cases hl
    cases hs with | mf id v hU hv hh=>
    obtain⟨fz',t,l',ad,cap,heq,rfl,hc,hsl⟩:=hh _ ((hhp id).trans he)
    cases heq
    refine⟨ad,_,cap,rfl,fun hn=> ?_⟩
    unfold xE at hsl
    cases hb:M.β id with
    |none=>
     simp only[hb]at hsl
     have:l.length=0:=by omega
     simp [len,this]
    |some b=>
     simp only[hb]at hsl
     obtain⟨⟨o,rfl,_⟩,_⟩:=hsl
     cases hn
   ·cases hl
 unfold amV at h
 split at h
 ·rename_i op t x0 y0 yt hop
  cases ht:slT P t with
  |false=>simp [ht]at h
  |true=>
   simp only[ht,cond_true]at h
   have hy:=hev y0
   have hx:=hev x0
   have go:∀m,ev y0= .nils->((∃e l ex,ev x0= .ro e l ex/\m=len l)\/(∃id,ev x0= .mf id/\alf A.hp (.mf id)=some m))->∃b:Bool,(b=true->m=0)/\(op= .eql->(execOp ρ o).run P w= .ok (.value (.bool b)) w)/\(op= .neq->(execOp ρ o).run P w= .ok (.value (.bool (!b))) w):=fun m hny hm=>by
    obtain⟨ad,k,cap,hv,hz⟩:=slv _ m hm _ hx
    rw[hny]at hy
    have hyv:ρ y0= .slice none 0 0:=by
     generalize ρ y0=v at hy
     cases hy;rfl
    obtain⟨e1,e2⟩:=amq (w:=w) ht ad k cap x0 y0
    refine⟨ad.isNone,hz,fun e=> ?_,fun e=> ?_⟩<;>subst e
    ·simp only[execOp,hop,hv,hyv]
     rw[Sem.run_bind,e1];rfl
    ·simp only[execOp,hop,hv,hyv]
     rw[Sem.run_bind,e2];rfl
   split at h
   ·rename_i hny
    split at h
    ·rename_i e l ex hxe
     cases h
     obtain⟨b,h1,h2,_⟩:=go _ hny (.inl ⟨e,l,ex,hxe,rfl⟩)
     exact⟨b,by rw[h2 rfl];cases b<;>rfl,h1⟩
    ·rename_i id hxe
     split at h
     ·rename_i m hm
      cases h
      obtain⟨b,h1,h2,_⟩:=go _ hny (.inr ⟨id,hxe,hm⟩)
      exact⟨b,by rw[h2 rfl];cases b<;>rfl,h1⟩
     ·cases h
    ·cases h
   ·rename_i hny
    split at h
    ·rename_i e l ex hxe
     cases h
     obtain⟨b,h1,_,h2⟩:=go _ hny (.inl ⟨e,l,ex,hxe,rfl⟩)
     exact⟨b,by rw[h2 rfl];cases b<;>rfl,h1⟩
    ·rename_i id hxe
     split at h
     ·rename_i m hm
      cases h
      obtain⟨b,h1,_,h2⟩:=go _ hny (.inr ⟨id,hxe,hm⟩)
      exact⟨b,by rw[h2 rfl];cases b<;>rfl,h1⟩
     ·cases h
    ·cases h
   ·cases h
 ·cases h
theorem ao2 {τ:Type} {n:Int} {f:Bool->Option τ} {y:τ} (h:amH n f=some y) (b:Bool) (hb:b=true->n=0):f b=some y:=by
 unfold amH at h;by_cases h0:n=0
 ·rw[awh h0]at h;by_cases h1:f true=f false
  ·rw[awh h1]at h;cases b with
   |true=>exact h
   |false=>rw[<-h1];exact h
  ·rw[awg h1]at h;cases h
 ·rw[awg h0]at h;cases b with
  |true=>exact absurd (hb rfl) h0
  |false=>exact h
theorem RS.move (hB:Pz B) (R:RS B ops c0 S M A a w) {N:Mem} {w':World} (st:Stp M w N w') {h:List (Nat×Option Ent)} {clk:Nat} (hhp:∀id,N.hp id=FS.hp { A with h:=h,clk:=clk } id)
 (hU:∀id,N.U id->M.U id\/(8*A.clk<=id/\id<8*clk)) (hc:A.clk<=clk):RS B ops c0 S N { A with h:=h,clk:=clk } a w':=by
 refine⟨R.stp.trans st hB.rel hB.H,fun t=>(R.fr t).le st.le,hhp,R.df,R.nt,R.kp,fun id hi=> ?_,R.i1,R.i2,aw4 R.clk hc,R.cb⟩
 have:=R.clk;have:=R.cb
 rcases hU id hi with h | h
 ·rcases R.ub id h with h | ⟨h1,h | h | h⟩
  ·exact .inl h
  ·exact .inr ⟨h1,.inl h⟩
  ·exact .inr ⟨h1,.inr (.inl h)⟩
  ·exact .inr ⟨h1,.inr (.inr ⟨h.1,by simp only;omega⟩)⟩
 ·exact .inr ⟨by omega,.inr (.inr ⟨by omega,h.2⟩)⟩
def anX (P:Program) {τ:Type} (call:Nat->List AV->FS->(AV->FS->Option τ)->Option τ) (y:τ):Prop:=
 ∀(f:Nat) (args:List AV) (A:FS) (K':AV->FS->Option τ),call f args A K'=some y->∀(M:Mem) (w:World) (vals:Array Value) (R:Value->World->Prop),
  lJ M->M.H=w.heap->(∀b,M.F b->b<w.heap.size)->(∀id,M.U id->id<8*A.clk)->1<=A.clk->(∀id,M.hp id=A.hp id)->
  vals.size=args.length->(∀j,(h:j<args.length)->(h':j<vals.size)->bT M args[j] vals[j])->
  (∀v A' N w' val,K' v A'=some y->Stp M w N w'->(∀id,N.hp id=A'.hp id)->bT N v val->(∀id,N.U id->M.U id\/(8*A.clk<=id/\id<8*A'.clk))->A.clk<=A'.clk->R val w')->
  aqP P f vals w R
theorem anh {τ:Type} {y:τ} {call:Nat->List AV->FS->(AV->FS->Option τ)->Option τ} (K:CxR C) (hB:Pz B) (hc:anX C.P call y) {dr:Bool} {i:Nat} {F:FS×Acc->Option τ} (h:kop C call ops c0 dr A i F=some y)
 (R:RS B ops c0 (· <i) M A a w) (hd:aes ops B.nt B.T) (hgd:∀(k:Nat) (o:Oper) (j:Nat) (u:Bool),ops[k]? =some o->o.guard=some (j,u)->j<k) {Q:Exit->Act->World->Prop} {next:Act->World->Prop}
 (cont:∀x N a' w',F x=some y->RS B ops c0 (· <i+1) N x.1 a' w'->next a' w'):wpOp C.P ops Q i next a w:=by
 obtain⟨o,g,ho,hg,hh⟩:=aob h
 have hi:i<ops.size:=(awG.1 ho).1
 have hS:¬i<i:=Nat.lt_irrefl i
 have hgd':∀j u,o.guard=some (j,u)->j<i/\j<ops.size:=fun j u hu=>by have:=hgd i o j u ho hu;omega
 have same:(fun j=>j<i\/j=i)=(· <i+1):=funext fun j=>propext (by constructor<;>intro _<;>omega)
 have hw:=ag6 R hg
 have hgw:∀j x,o.guard=some (j,x)->(g=true↔yielded ops a.tmps j=some x):=fun j x hgu=>by
  unfold Region.wanted at hw
  simp only[hgu]at hw
  rw[<-hw];simp
 have hH:M.H=w.heap:=R.stp.H
 have hrel:lJ M:=R.stp.hrel
 have hF:∀b,M.F b->b<w.heap.size:=R.stp.Fsz hB.F
 rcases hh with ⟨v,u,r,hk,hK⟩ | ⟨_,f,args,hcl,hh⟩ | ⟨_,hgn,n,x,hn,hq⟩
 ·exact ana K hB R ho hS hd hgd' hg hk fun N a' w' h1=>cont _ N a' w' hK (same▸h1)
 ·rcases hh with ⟨rfl,hK⟩ | ⟨rfl,hK⟩
  ·unfold wpOp
   simp only[ho]
   rw[hw,awh rfl]
   refine .inl ?_
   unfold Oper.wp
   have hgs:∀k x,o.guard=some (k,x)->k<i/\yielded ops a.tmps k=some x:=fun k x h=>⟨(hgd' k x h).1,(hgw k x h).1 rfl⟩
   have hev:=aeZ R hgs
   obtain⟨vals,h1,h2,h3⟩:=akw hev hcl
   rw[h1]
   refine ahH (R:=fun v w'=>next (a.put o.dst v) w') (hc f args A _ hK M w vals _ hrel hH hF (fun id hU=> ?_) (by have:=R.clk;omega) R.hp h2 h3 fun v A' N w' val hK' st hhp hs hU hcc=> ?_) fun v w' h=>h
   ·have:=hB.U id;have:=R.cb;have:=R.clk
    rcases R.ub id hU with h | ⟨_,h | ⟨j,h4,h5,h6,h7⟩ | ⟨h4,h5⟩⟩
    ·have:=hB.U id h;omega
    ·omega
    ·omega
    ·omega
   ·have R1:=R.move hB st (h:=A'.h) (clk:=A'.clk) hhp hU hcc
    have R2:=R1.put hB ho hS hd hgd' (u:=[]) (r:=[]) (g:=true) (v:=v) (val:=val) (Stp.refl st.hrel st.H) (fun _=>rfl) (fun _ h=> .inl h) (Zq hs) hgw fun j x b h _=>(hgs j x h).2
    exact cont _ N _ w' hK' (same▸R2)
  ·unfold wpOp
   simp only[ho]
   rw[hw,awg (by simp)]
   obtain⟨⟨j0,x0⟩,hgu⟩:∃p,o.guard=some p:=by
    cases hgu:o.guard with
    |none=>simp [gOf,hgu]at hg
    |some p=>exact⟨p,rfl⟩
   have R2:=R.put hB ho hS hd hgd' (u:=[]) (r:=[]) (g:=false) (v:=apC C.P o.type) (val:=undef) (Stp.refl hrel hH) (fun _=>rfl) (fun _ h=> .inl h) (by rw[hgu];exact .condF _ _ _ _) hgw fun j x b _ hb=>by cases hb
   exact cont _ M _ w hK (same▸R2)
 ·have hgt:g=true:=by
   simp only[gOf,hgn,awj]at hg
   exact hg.symm
  subst hgt
  unfold wpOp
  simp only[ho]
  rw[hw,awh rfl]
  refine .inl ?_
  unfold Oper.wp
  have hev:=aeZ (gd:=o.guard) R (fun k u h=>by rw[hgn]at h;cases h)
  obtain⟨b,h1,h2⟩:=ako (hp:=A.hp) (w:=w) hev R.hp hn
  have hK:=ao2 hq b h2
  rw[h1,Oper.upon_value]
  have R2:=R.put hB ho hS hd hgd' (u:=[]) (r:=[]) (g:=true) (v:= .bool (beq b x)) (val:= .bool (beq b x)) (Stp.refl hrel hH) (fun _=>rfl) (fun _ h=> .inl h) (Zq (.bool _)) hgw fun j x b h _=>by rw[hgn]at h;cases h
  exact cont _ M _ w hK (same▸R2)
theorem akr {τ:Type} {y:τ} {call:Nat->List AV->FS->(AV->FS->Option τ)->Option τ} (K:CxR C) (hB:Pz B) (hc:anX C.P call y) (hd:aes ops B.nt B.T)
 (hgd:∀(k:Nat) (o:Oper) (j:Nat) (u:Bool),ops[k]? =some o->o.guard=some (j,u)->j<k) {Q:Exit->Act->World->Prop} {F:FS->Option τ}:∀(m k:Nat) (A:FS) (accs:List Acc) (M:Mem) (a:Act) (w:World),k+m=ops.size->
 agb C call ops c0 false m k A accs F=some y->RS B ops c0 (· <k) M A a w->(∀N A' a' w',F A'=some y->RS B ops c0 (· <ops.size) N A' a' w'->Q .normal a' w')->wpOps C.P ops Q (List.range' k m) a w
 |0,k,A,accs,M,a,w,hk,h,R,hF=>by
  have:k=ops.size:=by omega
  subst this
  simp only[agb,ayY,Bool.true_or,cond_true]at h
  exact hF M A a w h R
 |m+1,k,A,accs,M,a,w,hk,h,R,hF=>by
  rw[List.range'_succ,wpOps_cons]
  rw[agb]at h
  simp only[ayY,Bool.true_or,cond_true]at h
  refine anh K hB hc h R hd hgd fun x N a' w' hx R'=> ?_
  exact akr K hB hc hd hgd m (k+1) x.1 _ N a' w' (by omega) hx R' hF
end
structure afi where
 o:Oper
 g:Bool
 v:AV
 u:List (Nat×Option Ent)
 r:List Nat
section
variable (c0:Nat) (D:Nat->afi) (A0:FS)
def TS (S:Nat->Bool):Nat->FS
 |0=>A0
 |j+1=>if S j=true then (Ea (D j).o c0 (TS S j) (D j).g (D j).v (D j).u (D j).r).1 else TS S j
end
theorem Xf {c0:Nat} {D D':Nat->afi} {A0:FS} {S S':Nat->Bool}:∀(j:Nat),(∀i,i<j->D i=D' i)->(∀i,i<j->S i=S' i)->TS c0 D A0 S j=TS c0 D' A0 S' j
 |0,_,_=>rfl
 |j+1,h,hS=>by
  rw[TS,TS,h j (by omega),hS j (by omega),Xf j (fun i hi=>h i (by omega)) fun i hi=>hS i (by omega)]
theorem Tv {u:List (Nat×Option Ent)} {h:Nat->Option Ent} {id:Nat} (hn:id∉keys u):over u h id=h id:=by
 unfold over;have:∀u:List (Nat×Option Ent),id∉keys u->look u id=none:=fun u=>by
  induction u with
  |nil=>intro _;rfl
  |cons p u ih=>
   obtain⟨k,v⟩:=p;intro hn;simp only[keys,aww,not_or]at hn;have:Nat.beq k id=false:=by
    cases hb:Nat.beq k id with
    |false=>rfl
    |true=>exact absurd (aws hb).symm hn.1
   simp [look,this,ih hn.2]
 rw[this u hn]
theorem anZ {u:List (Nat×Option Ent)} {h h':Nat->Option Ent} {id:Nat} (hn:id∈keys u):over u h id=over u h' id:=by
 unfold over;have:∀u:List (Nat×Option Ent),id∈keys u->∃e,look u id=some e:=fun u=>by
  induction u with
  |nil=>intro h;cases h
  |cons p u ih=>
   obtain⟨k,v⟩:=p;intro hn;simp only[look];cases hb:Nat.beq k id with
   |true=>exact⟨v,rfl⟩
   |false=>
    simp only[keys,aww]at hn;rcases hn with rfl | hn
    ·simp at hb
    ·exact ih hn
 obtain⟨e,he⟩:=this u hn;rw[he]
section
variable {C:Cx} {B:Bse} {ops:Array Oper} {c0:Nat} {M:Mem} {A0:FS} {a:Act} {w:World} {D:Nat->afi}
theorem aem {S S':Nat->Bool} {i:Nat} (t:Option Nat) (id:Option Nat):∀(j:Nat),
 (∀k,k<j->((D k).o.dst≠none/\(D k).o.dst=t\/∃q,id=some q/\q∈keys (D k).u)->(S k=true↔(k<i/\S' k=true)))->
 (∀q,t=some q->get (TS c0 D A0 S j).fr q=get (TS c0 D A0 S' (min j i)).fr q)/\(∀q,id=some q->(TS c0 D A0 S j).hp q=(TS c0 D A0 S' (min j i)).hp q)/\(TS c0 D A0 S j).clk=A0.clk
 |0,h=>by simp [TS]
 |j+1,h=>by
  obtain⟨h1,h2,h3⟩:=aem t id j fun k hk=>h k (by omega)
  have hj:=h j (by omega)
  by_cases hji:j<i
  ·have e1:min (j+1) i=j+1:=by omega
   have e2:min j i=j:=by omega
   rw[e1];rw[e2]at h1 h2
   simp only[TS]
   refine⟨fun q hq=> ?_,fun q hq=> ?_,by split<;>simp [V8,h3]⟩
   ·by_cases hd:(D j).o.dst=some q
    ·have hb:=hj (.inl ⟨by rw[hd];simp,by rw[hd,hq]⟩)
     by_cases hs:S j=true
     ·rw[awh hs,awh (hb.1 hs).2,yG,yG,awh hd,awh hd]
     ·rw[awg hs,awg (fun h=>hs (hb.2 ⟨hji,h⟩))];exact h1 q hq
    ·have f:∀A:FS,∀b:Bool,get (if b=true then (Ea (D j).o c0 A (D j).g (D j).v (D j).u (D j).r).1 else A).fr q=get A.fr q:=fun A b=>by
      cases b
      ·rfl
      ·rw[awh rfl,yG,awg hd]
     rw[f,f];exact h1 q hq
   ·by_cases hd:q∈keys (D j).u
    ·have hb:=hj (.inr ⟨q,hq,hd⟩)
     by_cases hs:S j=true
     ·rw[awh hs,awh (hb.1 hs).2,CV,CV];exact anZ hd
     ·rw[awg hs,awg (fun h=>hs (hb.2 ⟨hji,h⟩))];exact h2 q hq
    ·have f:∀A:FS,∀b:Bool,(if b=true then (Ea (D j).o c0 A (D j).g (D j).v (D j).u (D j).r).1 else A).hp q=A.hp q:=fun A b=>by
      cases b
      ·rfl
      ·rw[awh rfl,CV,Tv hd]
     rw[f,f];exact h2 q hq
  ·have e1:min (j+1) i=min j i:=by omega
   rw[e1]
   simp only[TS]
   refine⟨fun q hq=> ?_,fun q hq=> ?_,by split<;>simp [V8,h3]⟩
   ·by_cases hd:(D j).o.dst=some q
    ·have hb:=hj (.inl ⟨by rw[hd];simp,by rw[hd,hq]⟩)
     rw[awg (fun hs=>hji (hb.1 hs).1)];exact h1 q hq
    ·rw[<-h1 q hq]
     split
     ·rw[yG,awg hd]
     ·rfl
   ·by_cases hd:q∈keys (D j).u
    ·have hb:=hj (.inr ⟨q,hq,hd⟩)
     rw[awg (fun hs=>hji (hb.1 hs).1)];exact h2 q hq
    ·rw[<-h2 q hq]
     split
     ·rw[CV,Tv hd]
     ·rfl
theorem aqO {S:Nat->Bool} (j:Nat):(TS c0 D A0 S j).clk=A0.clk:=
 (aem (S:=S) (S':=S) (i:=0) none none j (fun k hk h=>by
   rcases h with ⟨h1,h2⟩ | ⟨q,hq,_⟩
   ·exact absurd h2 h1
   ·cases hq)).2.2
theorem aqw {S S':Nat->Bool} {i:Nat} (hi:S i=false) (hi':S' i=true) (hS:∀k,k≠i->S' k=S k):∀(j:Nat),
 (∀k,k<j->i<k->S k=true->((D i).o.dst=none\/(D k).o.dst≠(D i).o.dst)/\∀q,q∈keys (D i).u->q∉keys (D k).u)->
 (∀q,get (TS c0 D A0 S' j).fr q=if i<j then get (Ea (D i).o c0 (TS c0 D A0 S j) (D i).g (D i).v (D i).u (D i).r).1.fr q else get (TS c0 D A0 S j).fr q)/\
 (∀q,(TS c0 D A0 S' j).hp q=if i<j then (Ea (D i).o c0 (TS c0 D A0 S j) (D i).g (D i).v (D i).u (D i).r).1.hp q else (TS c0 D A0 S j).hp q)
 |0,h=>by simp [TS]
 |j+1,h=>by
  obtain⟨h1,h2⟩:=aqw hi hi' hS j fun k hk=>h k (by omega)
  rcases ayf j i with hji | hji | hji
  ·have n1:¬i<j+1:=by omega
   have n2:¬i<j:=by omega
   simp only[awg n1,awg n2]at h1 h2 ⊢
   simp only[TS,hS j (by omega)]
   refine⟨fun q=> ?_,fun q=> ?_⟩
   ·split
    ·rw[yG,yG,h1]
    ·exact h1 q
   ·split
    ·rw[CV,CV,funext h2]
    ·exact h2 q
  ·subst hji
   have n1:j<j+1:=by omega
   have n2:¬j<j:=by omega
   simp only[awh n1,awg n2]at h1 h2 ⊢
   simp only[TS,hi,hi',if_true,axA,if_false]
   refine⟨fun q=> ?_,fun q=> ?_⟩
   ·rw[yG,yG,h1]
   ·rw[CV,CV,funext h2]
  ·have n1:i<j+1:=by omega
   simp only[awh n1,awh hji]at h1 h2 ⊢
   simp only[TS,hS j (by omega)]
   have hh:=h j (by omega) hji
   refine⟨fun q=> ?_,fun q=> ?_⟩
   ·split
    ·rename_i hs
     rw[yG,yG,h1,yG,yG]
     by_cases e1:(D j).o.dst=some q
     ·have e2:(D i).o.dst≠some q:=fun e=>by
       rcases(hh hs).1 with g | g
       ·rw[g]at e;cases e
       ·exact g (e1.trans e.symm)
      simp [e1,e2]
     ·simp [e1]
    ·exact h1 q
   ·split
    ·rename_i hs
     rw[CV,CV]
     by_cases e1:q∈keys (D i).u
     ·rw[Tv ((hh hs).2 q e1),h2,CV];exact anZ e1
     ·rw[Tv e1,CV]
      have:(TS c0 D A0 S' j).hp q=(TS c0 D A0 S j).hp q:=by rw[h2,CV,Tv e1]
      unfold over
      cases look (D j).u q with
      |some e=>rfl
      |none=>exact this
    ·exact h2 q
theorem RS.congr {S S':Nat->Prop} {A A':FS} (R:RS B ops c0 S M A a w) (hS:∀j,S j↔S' j) (h1:∀t,get A'.fr t=get A.fr t) (h2:∀id,A'.hp id=A.hp id) (h3:A'.clk=A.clk):RS B ops c0 S' M A' a w:=by
 have:S=S':=funext fun j=>propext (hS j);subst this;refine⟨R.stp,fun t=>by rw[h1];exact R.fr t,fun id=>by rw[h2];exact R.hp id,R.df,R.nt,R.kp,by rw[h3];exact R.ub,fun t=>by rw[h1];exact R.i1 t,R.i2,by rw[h3];exact R.clk,R.cb⟩
theorem RS.rel {S:Nat->Prop} {A:FS} (R:RS B ops c0 S M A a w):Rel B M A a w:=by
 have:=R.clk;have:=R.cb;refine⟨R.stp,R.fr,R.hp,R.df,R.nt,R.kp,fun id h=> ?_,fun t c j x g v h=> ?_,by omega⟩
 ·rcases R.ub id h with h | ⟨h1,h | ⟨j,_,h4,h5,h6⟩ | h⟩
  ·exact .inl h
  ·exact .inr ⟨h1,by omega⟩
  ·exact .inr ⟨h1,by omega⟩
  ·exact .inr ⟨h1,h.2⟩
 ·obtain⟨h1,h2 | ⟨h2,_,h3,_⟩⟩:=R.i1 t c j x g v h
  ·exact⟨h1,by omega⟩
  ·exact⟨h1,by omega⟩
theorem Rel.start {A:FS} (R:Rel B M A a w):RS B ops A.clk (fun _=>False) M { A with clk:=A.clk+ops.size } a w:=
 ⟨R.stp,R.fr,R.hp,R.df,R.nt,R.kp,fun id h=>by
  rcases R.ub id h with h | ⟨h1,h2⟩
  ·exact .inl h
  ·exact .inr ⟨h1,.inl h2⟩,fun t c j x g v h=>by
  obtain⟨h1,h2⟩:=R.cond t c j x g v h
  exact⟨h1,.inl h2⟩,fun _ _ _ _ _ h=>h.elim,awk _,R.clk⟩
theorem KS.congr {k:Nat} {A A':FS} {o:Oper} {g:Bool} {v:AV} {u:List (Nat×Option Ent)} {r:List Nat} (h:KS C ops c0 k A o g v u r)
 (h1:∀t∈o.looksAt ops,get A'.fr t=get A.fr t) (h2:∀id∈r,A'.hp id=A.hp id):KS C ops c0 k A' o g v u r:=by
 have he:=aq7 (A:=A') (B:=A) h1
 have hev:∀x∈o.op.operands,evG ops c0 o.guard A' x=evG ops c0 o.guard A x:=fun x hx=>JV (he x hx)
 cases h with
 |skip v h=>exact .skip v h
 |pickF t a b b0 h hb=>
  have hc:=he (.tmp t) (by rw[h];simp [Op.operands])
  have ha:=he a (by rw[h];simp [Op.operands])
  have hb':=he b (by rw[h];simp [Op.operands])
  have e:Vh ops c0 o.guard A t (bif b0 then a else b) b0=Vh ops c0 o.guard A' t (bif b0 then a else b) b0:=by
   cases b0
   ·simp only[cond_false];unfold Vh;rw[JV hb',hb']
   ·simp only[cond_true];unfold Vh;rw[JV ha,ha]
  rw[e]
  exact .pickF t a b b0 h ((JV hc).trans hb)
 |pick c a b v h hp=>exact .pick c a b v h ((ajA (fun x hx=>he x (by rw[h];exact hx))).trans hp)
 |call f args s x y hc hs hd hr hu=>
  have e:=ado h2
  have e2:aar s A args (8*(c0+k)) y=aar s A' args (8*(c0+k)) y:=by unfold aar;rw[e]
  rw[e2]
  exact .call f args s x y ((ai4 _ hev).trans hc) hs (by rw[e];exact hd) hr (e2▸hu)
 |op ob e he' hu hob=>
  rw[<-aaf _ hev]
  rw[<-aaf _ hev]at h2
  refine .op ob e ?_ hu hob
  rw[ado h2,aaf _ hev,aon _ hev]
  exact he'
end
section
variable {C:Cx} {B:Bse} {ops:Array Oper} {c0:Nat} {M:Mem} {A0:FS} {a:Act} {w:World} {D:Nat->afi}
def OY:Nat->Bool:=fun _=>true
structure aui (C:Cx) (ops:Array Oper) (c0:Nat) (A0:FS) (D:Nat->afi) (n:Nat):Prop where
 op:∀j,j<n->ops[j]? =some (D j).o
 g:∀j,j<n->gOf ops (TS c0 D A0 OY j) (D j).o=some (D j).g
 ks:∀j,j<n->KS C ops c0 j (TS c0 D A0 OY j) (D j).o (D j).g (D j).v (D j).u (D j).r
def uY (D:Nat->afi):Nat->List Acc
 |0=>[]
 |n+1=>⟨(D n).r,keys (D n).u⟩::uY D n
theorem U1:∀n,(uY D n).length=n
 |0=>rfl
 |n+1=>by rw[uY,awF,U1 n]
theorem ZP:∀(n j:Nat),j<n->(uY D n).reverse.getD j ⟨[],[]⟩=⟨(D j).r,keys (D j).u⟩
 |0,j,h=>by omega
 |n+1,j,h=>by
  rw[uY,List.reverse_cons]
  by_cases hj:j<n
  ·rw[<-ZP n j hj]
   simp only[ayM]
   rw[ayw (by rw[List.length_reverse,U1];exact hj)]
  ·have:j=n:=by omega
   subst this
   simp only[ayM]
   rw[ayx (by rw[List.length_reverse,U1];exact awk _)]
   simp [U1]
theorem Ua {D':Nat->afi}:∀n,(∀j,j<n->D j=D' j)->uY D n=uY D' n
 |0,_=>rfl
 |n+1,h=>by rw[uY,uY,h n (by omega),Ua n fun j hj=>h j (by omega)]
theorem agX {τ:Type} {y:τ} {call:Nat->List AV->FS->(AV->FS->Option τ)->Option τ} {F:FS->Option τ}:∀(m k:Nat) (D:Nat->afi),k+m=ops.size->aui C ops c0 A0 D k->
 agb C call ops c0 true m k (TS c0 D A0 OY k) (uY D k) F=some y->∃(D':Nat->afi) (N:Nat),aui C ops c0 A0 D' N/\(∀j,j<ops.size->ops[j]? =some (D' j).o)/\aaV ops=true/\
  XR ops (uY D' ops.size).reverse=true/\NR (fun k=>(Ag ops ops.size).getD k []) ops=true/\
  ((N=ops.size/\F (TS c0 D' A0 OY ops.size)=some y)\/
   (N+1=ops.size/\Ox ops N=true/\∃K0:FS×Acc->Option τ,kop C call ops c0 true (TS c0 D' A0 OY N) N K0=some y/\∀x,K0 x=some y->F x.1=some y))
 |0,k,D,hk,hR,h=>by
  have:k=ops.size:=by omega
  subst this
  simp only[agb,axY,Bool.false_or]at h
  obtain⟨h1,h2⟩:=Ye h
  simp only[awp]at h1
  exact⟨D,ops.size,hR,hR.op,h1.1.1,h1.1.2,h1.2,.inl ⟨rfl,h2⟩⟩
 |m+1,k,D,hk,hR,h=>by
  rw[agb]at h
  obtain⟨hpre,h⟩:=Ye h
  have hkop:=h
  obtain⟨o,g,ho,hg,hh⟩:=aob h
  rcases hh with ⟨v,u,r,hks,hK⟩ | ⟨hd,f,args,hcl,hh⟩ | ⟨hd,_⟩
  ·let D':Nat->afi:=fun j=>if j=k then ⟨o,g,v,u,r⟩else D j
   have hlt:∀j,j<k->D j=D' j:=fun j hj=>by simp only[D'];rw[awg (by omega)]
   have hTS:∀j,j<=k->TS c0 D A0 OY j=TS c0 D' A0 OY j:=fun j hj=>Xf j (fun i hi=>hlt i (by omega)) fun _ _=>rfl
   have hDk:D' k=⟨o,g,v,u,r⟩:=by simp [D']
   have hst:(Ea o c0 (TS c0 D A0 OY k) g v u r).1=TS c0 D' A0 OY (k+1):=by
    simp only[TS,OY,if_true,hDk]
    rw[hTS k (awk _)]
   have hac:(⟨r,keys u⟩:Acc)::uY D k=uY D' (k+1):=by
    simp only[uY,hDk]
    rw[Ua k hlt]
   have hfin:(Ea o c0 (TS c0 D A0 OY k) g v u r).2=⟨r,keys u⟩:=by unfold Ea;rfl
   refine agX (call:=call) m (k+1) D' (by omega) ⟨fun j hj=> ?_,fun j hj=> ?_,fun j hj=> ?_⟩ ?_
   ·by_cases hjk:j=k
    ·subst hjk;rw[hDk];exact ho
    ·rw[<-hlt j (by omega)];exact hR.op j (by omega)
   ·rw[<-hTS j (by omega)]
    by_cases hjk:j=k
    ·subst hjk;rw[hDk];exact hg
    ·rw[<-hlt j (by omega)];exact hR.g j (by omega)
   ·rw[<-hTS j (by omega)]
    by_cases hjk:j=k
    ·subst hjk;rw[hDk];exact hks
    ·rw[<-hlt j (by omega)];exact hR.ks j (by omega)
   ·rw[<-hst,<-hac,<-hfin]
    exact hK
  ·have hlf:Ox ops k=true:=hd.resolve_left (by simp)
   have hlf':=hlf
   unfold Ox at hlf'
   simp only[awp]at hlf'
   have hk1:=aws hlf'.1.1
   have hm:m=0:=by omega
   subst hm
   simp only[axY,Bool.false_or,hlf,awp]at hpre
   let D':Nat->afi:=fun j=>if j=k then ⟨o,g,.undef,[],[]⟩else D j
   have hlt:∀j,j<k->D j=D' j:=fun j hj=>by simp only[D'];rw[awg (by omega)]
   have hTS:∀j,j<=k->TS c0 D A0 OY j=TS c0 D' A0 OY j:=fun j hj=>Xf j (fun i hi=>hlt i (by omega)) fun _ _=>rfl
   have hDk:D' k=⟨o,g,.undef,[],[]⟩:=by simp [D']
   have hac:(⟨[],[]⟩:Acc)::uY D k=uY D' ops.size:=by
    rw[<-hk1]
    simp only[uY,hDk]
    rw[Ua k hlt];rfl
   refine⟨D',k,⟨fun j hj=> ?_,fun j hj=> ?_,fun j hj=> ?_⟩,fun j hj=> ?_,hpre.1.1,hac▸hpre.1.2,hpre.2,.inr ⟨hk1,hlf,_,(hTS k (awk _))▸hkop,fun x hx=> ?_⟩⟩
   ·rw[<-hlt j hj];exact hR.op j hj
   ·rw[<-hTS j (by omega),<-hlt j hj];exact hR.g j hj
   ·rw[<-hTS j (by omega),<-hlt j hj];exact hR.ks j hj
   ·by_cases hjk:j=k
    ·subst hjk;rw[hDk];exact ho
    ·rw[<-hlt j (by omega)];exact hR.op j (by omega)
   ·simp only[avw,agb]at hx
    exact(Ye hx).2
  ·cases hd
theorem Tj {a b:List Nat} (h:inter a b=false) {q:Nat} (h1:q∈a):q∉b:=fun h2=>by
 have:inter a b=true:=axi.2 ⟨q,h1,axi.2 ⟨q,h2,by simp⟩⟩;rw[this]at h;cases h
theorem ac4 {accs:List Acc} (h:XR ops accs=true) {i j:Nat} (hij:i<j) (hj:j<ops.size):i∈(Ag ops ops.size).getD j []\/swap ops i j (accs.getD i ⟨[],[]⟩) (accs.getD j ⟨[],[]⟩)=true:=by
 unfold XR at h;have h1:=awV.1 h j (axJ.2 hj);have h2:=awV.1 h1 i (axJ.2 hij);simp only[ayv]at h2;rcases h2 with h2 | h2
 ·obtain⟨x,h3,h4⟩:=axi.1 h2;have:=aws h4;exact .inl (this▸h3)
 ·exact .inr h2
theorem aeB (hop:∀j,j<ops.size->ops[j]? =some (D j).o) {i j:Nat} (hi:i<ops.size) (hj:j<ops.size)
 (h:swap ops i j ((uY D ops.size).reverse.getD i ⟨[],[]⟩) ((uY D ops.size).reverse.getD j ⟨[],[]⟩)=true):
 (∀d,(D i).o.dst=some d->d∉(D j).o.looksAt ops)/\(∀d,(D i).o.dst=some d->(D j).o.dst≠some d)/\(∀d,(D j).o.dst=some d->d∉(D i).o.looksAt ops)/\
 (∀q,q∈keys (D i).u->q∉keys (D j).u)/\(∀q,q∈keys (D i).u->q∉(D j).r)/\(∀q,q∈(D i).r->q∉keys (D j).u):=by
 rw[ZP _ _ hi,ZP _ _ hj]at h
 unfold swap at h
 simp only[hop i hi,hop j hj,awp,ax0]at h
 obtain⟨⟨⟨h1,h2⟩,h3⟩,h4⟩:=h
 obtain⟨g1,g2,g3⟩:=Oper.apart_spec h1
 exact⟨g1,g2,g3,fun q hq=>Tj h2 hq,fun q hq=>Tj h3 hq,fun q hq=>Tj h4 hq⟩
theorem Oo:∀m,(Ag ops m).length=m
 |0=>rfl
 |m+1=>by simp only[Ag,awn,Oo m,awY]
theorem acd:∀(m j:Nat),j<m->(Ag ops m).getD j []=(Ag ops (j+1)).getD j []
 |0,j,h=>by omega
 |m+1,j,h=>by
  by_cases hj:j<m
  ·rw[<-acd m j hj]
   simp only[Ag,ayM]
   rw[ayw (by rw[Oo];exact hj)]
  ·have:j=m:=by omega
   subst this;rfl
def Closed (ops:Array Oper) (S:Nat->Bool):Prop:=∀(j:Nat) (o:Oper) (e:Edge),S j=true->ops[j]? =some o->e∈o.after->Region.binds .any e=true->S e.on=true
theorem ajZ {x y:Nat} {l:List Nat} (h:y∈aox x l):y=x\/y∈l:=by
 unfold aox at h;cases e:l.any (fun y=>Nat.beq y x)with
 |true=>rw[e]at h;exact .inr h
 |false=>
  rw[e]at h;exact aww.1 h
theorem akJ {y:Nat}:∀(a b:List Nat),y∈ar5 a b->y∈a\/y∈b
 |[],b,h=> .inr h
 |x::r,b,h=>by
  rcases akJ r (aox x b) h with h | h
  ·exact .inl (awX _ h)
  ·rcases ajZ h with rfl | h
   ·exact .inl aw0
   ·exact .inr h
theorem ajl {S:Nat->Bool} (hS:Closed ops S):∀(m j i:Nat),i∈(Ag ops m).getD j []->(∀o,ops[j]? =some o->∀e∈o.after,Region.binds .any e=true->S e.on=true)->S i=true
 |0,j,i,h,_=>by simp [Ag]at h
 |m+1,j,i,h,hj=>by
  rcases ayf j m with hjm | hjm | hjm
  ·rw[acd (m+1) j (by omega),<-acd m j hjm]at h
   exact ajl hS m j i h hj
  ·subst hjm
   simp only[Ag,ayM]at h
   rw[ayx (by rw[Oo];exact awk _),Oo,Nat.sub_self]at h
   simp only[ayZ,axO]at h
   split at h
   ·cases h
   ·rename_i o ho
    have key:∀(l:List Edge) (acc:List Nat),(∀e∈l,S e.on=true)->(∀x∈acc,S x=true)->∀x∈l.foldl (fun acc e=>aox e.on (ar5 ((Ag ops j).getD e.on []) acc)) acc,S x=true:=by
     intro l
     induction l with
     |nil=>intro acc _ ha;exact ha
     |cons e l ih=>
      intro acc hl ha
      simp only[aw6]
      refine ih _ (fun e he=>hl e (awX _ he)) fun x hx=> ?_
      have hee:=hl e aw0
      rcases ajZ hx with rfl | hx
      ·exact hee
      ·rcases akJ _ _ hx with hx | hx
       ·exact ajl hS j e.on x hx fun o' ho' e' he' hb=>hS e.on o' e' hee ho' he' hb
       ·exact ha x hx
    refine key _ [] (fun e he=> ?_) (fun x hx=>by cases hx) i h
    have:=axK.1 he
    exact hj o ho e (Array.mem_toList_iff.1 this.1) this.2
  ·rw[ayM,List.getElem?_eq_none (by rw[Oo];omega)]at h
   cases h
theorem ag9 {p q:Nat->Bool}:∀(l:List Nat),(∀x∈l,q x=true->p x=true)->(∃x∈l,p x=true/\q x=false)->l.countP q<l.countP p
 |[],_,h=>by obtain⟨x,h,_⟩:=h;cases h
 |y::l,h1,h2=>by
  have le:∀l:List Nat,(∀x∈l,q x=true->p x=true)->l.countP q<=l.countP p:=fun l h=>List.countP_mono_left h
  obtain⟨x,hx,hp,hq⟩:=h2
  rw[ay0,ay0]
  rcases aww.1 hx with rfl | hx
  ·have:=le l fun z hz=>h1 z (awX _ hz)
   simp only[hp,hq,if_true,axA,if_false];omega
  ·have:=ag9 l (fun z hz=>h1 z (awX _ hz)) ⟨x,hx,hp,hq⟩
   have h0:=h1 y aw0
   cases hqy:q y with
   |false=>simp only[axA,if_false];split<;>omega
   |true=>rw[h0 hqy];simp only[if_true];omega
theorem ready_nil {listed:Array Bool} (hsz:listed.size=ops.size) (h0:∀j,j<ops.size->listed.getD j false=true):Region.ready .any ops listed=[]:=by
 cases hr:Region.ready .any ops listed with
 |nil=>rfl
 |cons x xs=>
  have hm:x∈Region.ready .any ops listed:=by rw[hr];exact aw0
  obtain⟨h1,o,ho,_⟩:=mem_ready.1 hm;have hlt:=(awG.1 ho).1;have h2:=h0 x hlt;have hlt':x<listed.size:=hsz▸hlt;simp [hlt']at h1 h2;rw[h1]at h2;cases h2
theorem apB (K:CxR C) (hB:Pz B) (hd:aes ops B.nt B.T) (hgd:∀(k:Nat) (o:Oper) (j:Nat) (u:Bool),ops[k]? =some o->o.guard=some (j,u)->j<k) {N:Nat} (hN:N=ops.size\/N+1=ops.size) (hR:aui C ops c0 A0 D N)
 (hop:∀j,j<ops.size->ops[j]? =some (D j).o) (he:aaV ops=true) (hsw:XR ops (uY D ops.size).reverse=true) (hgo:NR (fun k=>(Ag ops ops.size).getD k []) ops=true) {Q:Exit->Act->World->Prop}
 (hF:N=ops.size->∀N a' w',Rel B N (TS c0 D A0 OY ops.size) a' w'->Q .normal a' w') (hbef:N+1=ops.size->∀i,i<N->i∈(Ag ops ops.size).getD N [])
 (hlast:N+1=ops.size->∀(M:Mem) (a:Act) (w:World) (next:Act->World->Prop),RS B ops c0 (· <N) M (TS c0 D A0 OY N) a w->(∀a' w',Q .normal a' w'->next a' w')->wpOp C.P ops Q N next a w):∀(fuel:Nat) (listed:Array Bool) (M:Mem) (a:Act) (w:World),listed.size=ops.size->(N+1=ops.size->listed.getD N false=false)->
 (List.range ops.size).countP (fun j=> !listed.getD j false)<=fuel->Closed ops (fun j=>listed.getD j false)->
 RS B ops c0 (fun j=>listed.getD j false=true) M (TS c0 D A0 (fun j=>listed.getD j false) N) a w->wpAny C.P .any ops Q fuel listed a w:=by
 have inb:∀ {listed:Array Bool} {i:Nat},listed.size=ops.size->i<ops.size->(listed.setIfInBounds i true).getD i false=true:=fun h1 h2=>by
  simp [h1,h2]
 have all:∀(listed:Array Bool) (M:Mem) (a:Act) (w:World),(∀j,j<ops.size->listed.getD j false=true)->(N+1=ops.size->listed.getD N false=false)->
  RS B ops c0 (fun j=>listed.getD j false=true) M (TS c0 D A0 (fun j=>listed.getD j false) N) a w->Q .normal a w:=fun listed M a w h hu R=>by
  rcases hN with hN | hN
  ·rw[Xf (D':=D) (S':=OY) N (fun _ _=>rfl) fun j hj=>h j (by omega),hN]at R
   exact hF hN M a w R.rel
  ·have h1:=h N (by omega)
   rw[hu hN]at h1;cases h1
 have emp:∀(listed:Array Bool),listed.size=ops.size->Region.ready .any ops listed=[]->∀j,j<ops.size->listed.getD j false=true:=fun listed hsz hr=>by
  intro j
  induction j using Nat.strongRecOn with
  |_ j ih=>
   intro hj
   cases hl:listed.getD j false with
   |true=>rfl
   |false=>
    have:j∈Region.ready .any ops listed:=by
     rw[mem_ready]
     have hlt:j<listed.size:=hsz▸hj
     refine⟨by simp [hlt]at hl ⊢; exact hl,_,hop j hj,fun e hmem hb=> ?_⟩
     unfold aaV at he
     have h1:=awV.1 he j (axJ.2 hj)
     simp only[hop j hj]at h1
     have h2:=Array.all_eq_true_iff_forall_mem.1 h1 e hmem
     simp only[hb,axY,Bool.false_or]at h2
     have h3:e.on<j:=by simpa [axr] using h2
     exact ih e.on h3 (by omega)
    rw[hr]at this
    cases this
 intro fuel
 induction fuel with
 |zero=>
  intro listed M a w hsz hun0 hc hcl R
  have h0:∀j,j<ops.size->listed.getD j false=true:=fun j hj=>by
   have:=List.countP_eq_zero.1 (Nat.le_zero.1 hc) j (axJ.2 hj)
   simpa using this
  exact⟨ready_nil hsz h0,all listed M a w h0 hun0 R⟩
 |succ fuel ih=>
  intro listed M a w hsz hun0 hc hcl R
  refine⟨fun hr=>all listed M a w (emp listed hsz hr) hun0 R,fun i hm=> ?_⟩
  obtain⟨h1,o,ho,hedge⟩:=mem_ready.1 hm
  have hlt:=(awG.1 ho).1
  have hlt':i<listed.size:=hsz▸hlt
  have hun:listed.getD i false=false:=by simp [hlt']at h1 ⊢; exact h1
  have hoi:o=(D i).o:=by
   have:=hop i hlt
   rw[ho]at this
   exact awr this
  have hne:∀k,k≠i->(listed.setIfInBounds i true).getD k false=listed.getD k false:=fun k hk=>getD_set_ne false (awE hk)
  have hcl':Closed ops (fun j=>(listed.setIfInBounds i true).getD j false):=by
   intro j q e hj hq hee hb
   simp only at hj ⊢
   refine getD_set_true ?_
   by_cases hji:j=i
   ·subst hji
    rw[ho]at hq;cases hq
    exact hedge e hee hb
   ·rw[hne j hji]at hj
    exact hcl j q e hj hq hee hb
  have hbi:∀x,x∈(Ag ops ops.size).getD i []->listed.getD x false=true:=fun x hx=>ajl hcl ops.size i x hx fun q hq e hee hb=>by
   rw[ho]at hq;cases hq
   exact hedge e hee hb
  by_cases hiN:i=N/\N+1=ops.size
  ·obtain⟨rfl,hN1⟩:=hiN
   have hall:∀j,j<i->listed.getD j false=true:=fun j hj=>hbi j (hbef hN1 j hj)
   rw[Xf (D':=D) (S':=OY) i (fun _ _=>rfl) fun j hj=>hall j hj]at R
   refine hlast hN1 M a w _ (R.congr (fun j=> ?_) (fun _=>rfl) (fun _=>rfl) rfl) fun a' w' hq=> ?_
   ·refine⟨fun h=> ?_,fun h=>hall j h⟩
    rcases ayf j i with q | q | q
    ·exact q
    ·subst q;rw[hun]at h;cases h
    ·have:¬j<listed.size:=by omega
     simp [this]at h
   ·have hz:∀j,j<ops.size->(listed.setIfInBounds i true).getD j false=true:=fun j hj=>by
     by_cases e:j=i
     ·subst e;exact inb hsz hlt
     ·rw[hne j e];exact hall j (by omega)
    have hr:=ready_nil (listed:=listed.setIfInBounds i true) (by simpa using hsz) hz
    cases fuel with
    |zero=>exact⟨hr,hq⟩
    |succ f=>exact⟨fun _=>hq,fun k hk=>by rw[hr]at hk;cases hk⟩
  have hiN':i<N:=by
   rcases hN with q | q
   ·omega
   ·have:i≠N:=fun e=>hiN ⟨e,q⟩
    omega
  have hbk:∀k,listed.getD k false=true->i∉(Ag ops ops.size).getD k []:=fun k hk hx=>by
   have:=ajl hcl ops.size k i hx fun q hq e hee hb=>hcl k q e hk hq hee hb
   rw[hun]at this;cases this
  have later:∀k,k<ops.size->i<k->listed.getD k false=true->swap ops i k ((uY D ops.size).reverse.getD i ⟨[],[]⟩) ((uY D ops.size).reverse.getD k ⟨[],[]⟩)=true:=fun k hk hik hl=>
   (ac4 hsw hik hk).resolve_left (hbk k hl)
  have sooner:∀k,k<i->listed.getD k false=false->swap ops k i ((uY D ops.size).reverse.getD k ⟨[],[]⟩) ((uY D ops.size).reverse.getD i ⟨[],[]⟩)=true:=fun k hk hl=>
   (ac4 hsw hk hlt).resolve_left fun hx=>by rw[hbi k hx]at hl;cases hl
  have agree:∀(t id:Option Nat),(∀q,t=some q->q∈(D i).o.looksAt ops)->(∀q,id=some q->q∈(D i).r)->
   (∀q,t=some q->get (TS c0 D A0 (fun j=>listed.getD j false) N).fr q=get (TS c0 D A0 OY i).fr q)/\
   (∀q,id=some q->(TS c0 D A0 (fun j=>listed.getD j false) N).hp q=(TS c0 D A0 OY i).hp q):=fun t id ht hid=>by
   have:=aem (c0:=c0) (D:=D) (A0:=A0) (S:=fun j=>listed.getD j false) (S':=OY) (i:=i) t id N fun k hk hw=>by
    have hks:k<ops.size:=by omega
    have hki:k≠i->(listed.getD k false=true↔k<i):=fun hki=>by
     refine⟨fun hl=> ?_,fun hl=> ?_⟩
     ·rcases ay9 hki with h | h
      ·exact h
      ·obtain⟨_,_,g3,_,_,g6⟩:=aeB hop hlt hks (later k hks h hl)
       rcases hw with ⟨h2,h3⟩ | ⟨q,h2,h3⟩
       ·cases hdk:(D k).o.dst with
        |none=>exact absurd hdk h2
        |some d=>exact absurd (ht d (h3.symm.trans hdk)) (g3 d hdk)
       ·exact absurd h3 (g6 q (hid q h2))
     ·cases hlk:listed.getD k false with
      |true=>rfl
      |false=>
       obtain⟨g1,_,_,_,g5,_⟩:=aeB hop hks hlt (sooner k hl hlk)
       rcases hw with ⟨h2,h3⟩ | ⟨q,h2,h3⟩
       ·cases hdk:(D k).o.dst with
        |none=>exact absurd hdk h2
        |some d=>exact absurd (ht d (h3.symm.trans hdk)) (g1 d hdk)
       ·exact absurd (hid q h2) (g5 q h3)
    by_cases e:k=i
    ·subst e
     simp [hun]
    ·simp only[hki e,OY,awy]
   have hmin:min N i=i:=by omega
   rw[hmin]at this
   exact⟨this.1,this.2.1⟩
  have a1:∀q∈(D i).o.looksAt ops,get (TS c0 D A0 (fun j=>listed.getD j false) N).fr q=get (TS c0 D A0 OY i).fr q:=fun q hq=>
   (agree (some q) none (fun q' h=>by cases h;exact hq) (fun _ h=>by cases h)).1 q rfl
  have a2:∀q∈(D i).r,(TS c0 D A0 (fun j=>listed.getD j false) N).hp q=(TS c0 D A0 OY i).hp q:=fun q hq=>
   (agree none (some q) (fun _ h=>by cases h) (fun q' h=>by cases h;exact hq)).2 q rfl
  have hks:=(hR.ks i hiN').congr a1 a2
  have hg:=(aoq a1).trans (hR.g i hiN')
  refine ana K hB R (hR.op i hiN') (by rw[hun];simp) hd (fun j u hu=> ?_) hg hks fun N1 a' w' R'=> ?_
  ·have hm:=aat hgo (hR.op i hiN') hu
   have:=hgd i _ j u (hR.op i hiN') hu
   exact⟨hbi j hm,by omega⟩
  ·refine ih _ N1 a' w' (by simpa using hsz) (fun h=>by rw[hne N (by omega)];exact hun0 h) ?_ hcl' ?_
   ·have:=ag9 (p:=fun j=> !listed.getD j false) (q:=fun j=> !(listed.setIfInBounds i true).getD j false) (List.range ops.size) (fun x _ hx=>by
     by_cases e:x=i
     ·subst e;simp [hun]
     ·rw[hne x e]at hx;exact hx) ⟨i,axJ.2 hlt,by simp [hun],by rw[inb hsz hlt];rfl⟩
    omega
   ·have hins:=aqw (c0:=c0) (D:=D) (A0:=A0) (S:=fun j=>listed.getD j false) (S':=fun j=>(listed.setIfInBounds i true).getD j false) (i:=i) hun (inb hsz hlt) hne N fun k hk hik hl=>by
     have hks2:k<ops.size:=by omega
     obtain⟨_,g2,_,g4,_⟩:=aeB hop hlt hks2 (later k hks2 hik hl)
     refine⟨?_,g4⟩
     cases hdi:(D i).o.dst with
     |none=>exact .inl rfl
     |some d=>exact .inr (g2 d hdi)
    simp only[awh hiN']at hins
    refine R'.congr (fun j=> ?_) hins.1 hins.2 (by rw[V8,aqO,aqO])
    by_cases e:j=i
    ·subst e;simp only[inb hsz hlt,or_true]
    ·simp only[hne j e,e,or_false]
end
def aas (P:Program) (c:Code) (Q:Exit->Act->World->Prop) (a:Act) (w:World):Prop:=
 ∀b k cs,∃e a' w',Q e a' w'/\Arrives P (lone (b.at a (.code c:: .inLoop c::k)) cs w) b k cs e a' w'
theorem aqc {P:Program} {c:Code} {Q:Exit->Act->World->Prop} {a:Act} {w:World} (h:aas P c Q a w):(Code.loop c).wp P Q a w:=
 fun b k cs=>let ⟨e,a',w',hq,harr⟩:=h b k cs;⟨e,a',w',hq,.of_steps (.one step_loop) harr⟩
theorem afQ {P:Program} {c:Code} {Q:Exit->Act->World->Prop} {a:Act} {w:World} (h:c.wp P (Exit.then (aas P c Q) Q) a w):aas P c Q a w:=by
 intro b k cs;obtain⟨e,a₁,w₁,hq,harr⟩:=h b (.inLoop c::k) cs;cases e with
 |normal=>
  obtain⟨e₂,a₂,w₂,hq₂,harr₂⟩:=hq b k cs;exact⟨e₂,a₂,w₂,hq₂,.of_steps (Steps.trans harr (.one step_inLoop)) harr₂⟩
 |exit id=>exact⟨_,a₁,w₁,hq,.pass (x:= .inLoop c) rfl (fun _ _=> .inl (by simp)) harr⟩
 |goto l=>exact⟨_,a₁,w₁,hq,.pass (x:= .inLoop c) rfl (fun _ _=> .inl (by simp)) harr⟩
 |ret=>exact⟨_,a₁,w₁,hq,.pass (x:= .inLoop c) rfl (fun _ _=> .inl (by simp)) harr⟩
 |panic ch=>exact⟨_,a₁,w₁,hq,.pass (x:= .inLoop c) rfl (fun _ _=> .inl (by simp)) harr⟩
 |outgrown=>exact⟨_,a₁,w₁,hq,.pass (x:= .inLoop c) rfl (fun _ _=> .inl (by simp)) harr⟩
theorem aas.mono {P:Program} {c:Code} {Q Q':Exit->Act->World->Prop} {a:Act} {w:World} (h:aas P c Q a w) (hq:∀e a w,Q e a w->Q' e a w):aas P c Q' a w:=
 fun b k cs=>let ⟨e,a',w',q,r⟩:=h b k cs;⟨e,a',w',hq _ _ _ q,r⟩
def cw (P:Program) (Q:Exit->Act->World->Prop) (a:Act) (w:World):Code->Prop
 |.loop c=>aas P c Q a w
 |c=>c.wp P Q a w
theorem V4 {P:Program} {Q:Exit->Act->World->Prop} {a:Act} {w:World} {c:Code} (h:cw P Q a w c):c.wp P Q a w:=by
 cases c<;>first | exact aqc h | exact h
def apm:Ex->Exit
 |.normal=> .normal
 |.ret=> .ret
 |.exit i=> .exit i
def At (P:Program) (pf pos:Nat) (c:Code):Prop:=1<=pos/\∃m,pos<2^(m+1)/\QI m (aex P (pf%4096)) pos=c
theorem PW (m:Nat) (c:Code) (p:Nat):QI (m+1) c p=bif Nat.ble p 1 then c else
 match QI m c (p / 2)with
 |.seq a b=>bif Nat.beq (p%2) 0 then a else b
 |.cond _ a b=>bif Nat.beq (p%2) 0 then a else b
 |.block _ c=>c
 |.loop c=>c
 |c=>c:=rfl
theorem adk (c:Code):∀(m p:Nat),p<2^(m+1)->QI (m+1) c p=QI m c p
 |0,p,h=>by
  have:Nat.ble p 1=true:=by simp;omega
  rw[PW,this];rfl
 |m+1,p,h=>by
  rw[PW (m+1) c p,PW m c p]
  have:p / 2<2^(m+1):=by
   have:2^(m+1+1)=2*2^(m+1):=by rw[axx];omega
   omega
  rw[adk c m (p / 2) this]
theorem ag5 (c:Code) {p m n:Nat} (h:p<2^(m+1)) (hmn:m<=n):QI n c p=QI m c p:=by
 induction hmn with
 |refl=>rfl
 |step hn ih=>
  rename_i n;rw[adk c n p (axf h (ayD (by omega) (by have:m<=n:=hn;omega)))];exact ih
theorem At.eq {P:Program} {pf pos:Nat} {c:Code} (h:At P pf pos c) {n:Nat} (hn:pos<2^(n+1)):QI n (aex P (pf%4096)) pos=c:=by
 obtain⟨_,m,hm,he⟩:=h;rcases Nat.le_total m n with hmn | hmn
 ·rw[ag5 _ hm hmn];exact he
 ·rw[<-ag5 _ hn hmn];exact he
def avT (c:Code) (r:Nat):Code:=match c with
 |.seq a b=>bif Nat.beq r 0 then a else b
 |.cond _ a b=>bif Nat.beq r 0 then a else b
 |.block _ c=>c
 |.loop c=>c
 |c=>c
theorem At.kid {P:Program} {pf pos:Nat} {c c':Code} (h:At P pf pos c) (r:Nat) (hr:r<2)
 (hc:avT c r=c'):At P pf (2*pos+r) c':=by
 obtain⟨hp,m,hm,he⟩:=h
 refine⟨by omega,m+1,?_,?_⟩
 ·have:2^(m+1+1)=2*2^(m+1):=by rw[axx];omega
  omega
 ·rw[PW]
  have h1:Nat.ble (2*pos+r) 1=false:=by
   cases hb:Nat.ble (2*pos+r) 1 with
   |false=>rfl
   |true=>have:=axk hb;omega
  have h2:(2*pos+r) / 2=pos:=by omega
  have h3:(2*pos+r)%2=r:=by omega
  rw[h1,h2,h3,he,<-hc]
  cases c<;>rfl
def Keeps (T:Nat->Prop):Code->Prop
 |.seq a b=>Keeps T a/\Keeps T b
 |.cond _ a b=>Keeps T a/\Keeps T b
 |.block _ c=>Keeps T c
 |.loop c=>Keeps T c
 |.region _ ops _=>∀(i:Nat) (o:Oper) (d:Nat),ops[i]? =some o->o.dst=some d->¬T d
 |_=>True
theorem Keeps.no:∀(c:Code) {T:Nat->Prop},(∀t,¬T t)->Keeps T c
 |.seq a b,T,h=>⟨Keeps.no a h,Keeps.no b h⟩
 |.cond _ a b,T,h=>⟨Keeps.no a h,Keeps.no b h⟩
 |.block _ c,T,h=>Keeps.no c h
 |.loop c,T,h=>Keeps.no c h
 |.region _ ops _,T,h=>fun i o d _ _ ht=>h d ht
 |.skip,_,_ | .exit _,_,_ | .ret,_,_=>trivial
 |.label _,_,_ | .goto _,_,_ | .rangeFunc .., _,_ | .scope _,_,_ | .refuse _,_,_=>trivial
def ao4 (P:Program) (pf:Nat) (c:Code) (s:dB):Prop:=
 ∀(τ:Type) (y:τ) (B:Bse) (M:Mem) (A:FS) (a:Act) (w:World) (v:s.V) (wv:s.W) (F:Ex->FS->Option τ) (Q:Exit->Act->World->Prop),
  Pz B->akV P (pf%4096)<=B.nt->Keeps B.T c->Rel B M A a w->s.dec A=some v->s.run v=some wv->s.out A wv F=some y->
  (∀e A' M' a' w',F e A'=some y->Rel B M' A' a' w'->Q (apm e) a' w')->aas P c Q a w
def BA (C:Cx) (pf pos:Nat):Prop:=∀pf' pos' s c,(pf'=pf/\pos<=pos')\/pf<pf'->C.lp pf' pos'=some s->At C.P pf' pos' (.loop c)->ao4 C.P pf' c s
theorem BA.kid {C:Cx} {pf pos:Nat} (h:BA C pf pos) (r:Nat):BA C pf (2*pos+r):=fun pf' pos' s c hb=>h pf' pos' s c (by omega)
theorem ame {M:Mem} {w:World} {A:FS} (h:lJ M) (hH:M.H=w.heap) (hF:∀b,M.F b->b<w.heap.size) (hhp:∀id,M.hp id=A.hp id) (hn:¬M.U (8*A.clk)) {vs:List AV} {v:Value} (hs:bT M (oneOf vs) v):
 ∃N,Stp M w N w/\(∀id,N.hp id=(MG A vs).2.hp id)/\bT N (MG A vs).1 v/\(∀id,N.U id->M.U id\/(id=8*A.clk/\(MG A vs).2.clk=A.clk+1))/\A.clk<=(MG A vs).2.clk:=by
 have triv:MG A vs=(oneOf vs,A)->∃N,Stp M w N w/\(∀id,N.hp id=(MG A vs).2.hp id)/\bT N (MG A vs).1 v/\(∀id,N.U id->M.U id\/(id=8*A.clk/\(MG A vs).2.clk=A.clk+1))/\A.clk<=(MG A vs).2.clk:=fun e=>by
  rw[e]
  exact⟨M,Stp.refl h hH,hhp,hs,fun _ h=> .inl h,awk _⟩
 unfold MG at triv ⊢
 split
 ·rename_i id n
  split
  ·rename_i e l hid
   clear triv
   have hm:M.hp id=some ⟨false,.arr e l⟩:=(hhp id).trans hid
   have hs':bT M (.ms id 0 n) v:=hs
   cases hs' with | ms _ _ _ _ hU h1 hh=>
   obtain⟨fz',t',l',ad,cap,heq,rfl,hc1,hc2,hc3,hsl⟩:=hh _ hm
   cases heq
   have hlen:(aV l n).length=n:=by simp [aV];omega
   have hne:id≠8*A.clk:=fun q=>hn (q▸hU)
   have hph:∀(N:Mem),(∀q,N.hp q=Ey (Ey M.hp id none) (8*A.clk) (some ⟨false,.arr e (aV l n)⟩) q)->∀q,N.hp q=FS.hp { A with h:=(8*A.clk,some ⟨false,.arr e (aV l n)⟩)::(id,none)::A.h,clk:=A.clk+1 } q:=fun N hN q=>by
    rw[hN]
    unfold FS.hp
    simp only[look]
    by_cases hq:q=8*A.clk
    ·subst hq;simp [bQ]
    ·rw[dH _ _ hq,iL (awE hq)]
     by_cases hq2:q=id
     ·subst hq2;simp [bQ]
     ·rw[dH _ _ hq2,iL (awE hq2),hhp]
      rfl
   unfold xE at hsl
   cases hb:M.β id with
   |none=>
    simp only[hb]at hsl
    obtain⟨rfl,_⟩:=hsl
    have hn0:n=0:=by omega
    subst hn0
    have sd:=Stp.drop (w:=w) h hH id
    have st:=sd.trans (Stp.nilAt sd.hrel sd.H (8*A.clk) (by simpa [Mem.drop] using hn) e) h hH
    refine⟨_,st,hph _ fun q=> ?_,?_,fun q hq=> ?_,Nat.le_succ _⟩
    ·simp [Mem.nilAt,Mem.drop,aV]
    ·refine .mf _ _ (.inr rfl) rfl fun e2 he2=> ?_
     have:e2=⟨false,.arr e []⟩:=by simpa [Mem.nilAt,bQ] using he2.symm
     subst this
     refine⟨false,e,[],ad,0,rfl,rfl,awk _,?_⟩
     unfold xE
     simp [Mem.nilAt,bQ]
    ·rcases hq with q1 | q1
     ·exact .inl q1
     ·exact .inr ⟨q1,rfl⟩
   |some b=>
    simp only[hb]at hsl
    obtain⟨⟨oo,rfl,hoo⟩,nb,hnb,hnb2⟩:=hsl
    obtain⟨_,_,cc,ty,fr,hcc,hz,hlcc,hcs⟩:=h.is hm hb
    have hset:w.heap.setIfInBounds b (.cells cc ty fr)=w.heap:=by
     apply ayF
     intro j
     rw[Array.getElem?_setIfInBounds]
     split
     ·rename_i hj
      subst hj
      rw[<-hH,hcc]
      have:=(awG.1 hcc).1
      simp [this]
     ·rfl
    have hblk:xC M (.arr e (aV l n)) cc:=by
     refine⟨aw4 (awH _ (by rw[hlen];omega)) hlcc,fun j k hj hk=> ?_⟩
     have hj':j<l.length:=by rw[hlen]at hj;omega
     obtain⟨u,g1,g2⟩:=hcs j k hj' hk
     refine⟨u,g1,?_⟩
     have:(aV l n)[j]=l[j]:=by simp [aV]
     rw[this];exact g2
    have st:=Stp.move (w:=w) (w':=w) h hH hF id (8*A.clk) b hn _ (.arr e (aV l n)) hm hb cc cc ty fr hcc rfl (by cases e<;>exact fun h=>h) hblk hset.symm rfl rfl rfl
    refine⟨_,st,hph _ fun q=>rfl,?_,fun q hq=> ?_,Nat.le_succ _⟩
    ·refine .mf _ _ (.inr rfl) rfl fun e2 he2=> ?_
     have:e2=⟨false,.arr e (aV l n)⟩:=by simpa [Mem.move,bQ] using he2.symm
     subst this
     refine⟨false,e,aV l n,_,cap,rfl,by rw[hlen],by rw[hlen];omega,?_⟩
     have hβ:(M.move id (8*A.clk) (.arr e (aV l n)) b (.cells cc ty fr)).β (8*A.clk)=some b:=by simp [Mem.move,bQ]
     unfold xE
     rw[hβ]
     refine⟨⟨oo,rfl,hoo⟩,nb,?_,hnb2⟩
     have hbl:b<M.H.size:=(awG.1 hcc).1
     have:nb=cc.size:=by simpa [bsize,hcc] using hnb.symm
     rw[this]
     simp [bsize,Mem.move,hbl]
    ·rcases hq with q1 | q1
     ·exact .inl q1
     ·exact .inr ⟨q1,rfl⟩
  ·rename_i hno
   exact⟨M,Stp.refl h hH,hhp,hs,fun _ h=> .inl h,awk _⟩
 ·rename_i hno
  exact⟨M,Stp.refl h hH,hhp,hs,fun _ h=> .inl h,awk _⟩
section
variable {C:Cx} {B:Bse} {M:Mem} {A:FS} {a:Act} {w:World}
def abO (a:Act):ResultVar->Sem Value
 |.tmp t=>pure (a.tmps.getD t undef)
 |.cell b t=>do loadVar t (<-asAddr (a.tmps.getD b undef))
theorem ad9 {P:Program} (hrel:lJ M) (hH:M.H=w.heap) (hfr:∀t,bT M (get A.fr t) (a.tmps.getD t undef)) (hhp:∀id,M.hp id=A.hp id) {fn:Func} {vs:List AV} (h:Zj P A fn.results.toList=some vs):
 ∃v,(results fn a.tmps).run P w= .ok v w/\bT M (oneOf vs) v:=by
 have key:∀(l:List ResultVar) (vs:List AV),Zj P A l=some vs->∃us:List Value,(l.mapM (abO a)).run P w= .ok us w/\us.length=vs.length/\∀j,(h:j<vs.length)->(h':j<us.length)->bT M vs[j] us[j]:=by
  intro l
  induction l with
  |nil=>
   intro vs h
   simp only[Zj,awj]at h
   subst h
   exact⟨[],by simp,rfl,fun j h=>by simp at h⟩
  |cons r l ih=>
   intro vs h
   have go:∀(x:AV) (u:Value) (s:Sem Value),(∃vs',Zj P A l=some vs'/\vs=x::vs')->s.run P w= .ok u w->bT M x u->∃us:List Value,(do let u<-s;let r<-l.mapM (abO a);pure (u::r):Sem (List Value)).run P w= .ok us w/\us.length=vs.length/\∀j,(h:j<vs.length)->(h':j<us.length)->bT M vs[j] us[j]:=by
    rintro x u s ⟨vs',h1,rfl⟩ hs hx
    obtain⟨us,g1,g2,g3⟩:=ih vs' h1
    refine⟨u::us,?_,by simp [g2],fun j h h'=> ?_⟩
    ·simp only[Sem.run_bind,hs,Result.andThen_ok,g1,Sem.run_pure]
    ·cases j with
     |zero=>exact hx
     |succ j=>exact g3 j (by simpa using h) (by simpa using h')
   cases r with
   |tmp t=>
    simp only[Zj]at h
    split at h
    ·rename_i l' hl
     cases h
     rw[ayJ]
     exact go _ _ _ ⟨_,hl,rfl⟩ (by simp only[abO,Sem.run_pure]) (hfr t)
    ·cases h
   |cell b t=>
    simp only[Zj]at h
    split at h
    ·rename_i x hx
     split at h
     ·rename_i l' hl
      cases h
      obtain⟨ad,u,h1,h2,h3⟩:=adt (w:=w) hrel hH t (hfr b) (fun id e he=>(hhp id).trans he) hx
      rw[ayJ]
      refine go _ u _ ⟨_,hl,rfl⟩ ?_ h3
      simp only[abO,h1,asAddr,Sem.run_bind,Sem.run_pure,Result.andThen_ok,h2]
     ·cases h
    ·cases h
 obtain⟨us,h1,h2,h3⟩:=key _ _ h
 have hrun:(fn.results.mapM (abO a)).run P w= .ok us.toArray w:=by
  rw[Array.mapM_eq_mapM_toList]
  simp [h1]
 refine⟨if h:us.toArray.size=1 then us.toArray[0]else .tuple us.toArray,?_,?_⟩
 ·have e:results fn a.tmps=(do let vs<-fn.results.mapM (abO a);pure (if h:vs.size=1 then vs[0]else .tuple vs):Sem Value):=by
   unfold results
   congr
  rw[e,Sem.run_bind,hrun]
  rfl
 ·match us,vs,h2 with
  |[],[],_=>exact .tup _ _ rfl fun i h _=>by simp at h
  |[u],[v],_=>exact h3 0 (by simp) (by simp)
  |u::u2::us,v::v2::vs,h2=>
   have:¬(u::u2::us).toArray.size=1:=by simp
   rw[awU this]
   exact .tup _ _ (by simpa using h2) fun i h h'=>by simpa using h3 i h (by simpa using h')
theorem ab4:∀(args:List AV) (k t:Nat),get (aaX k args) t=if h:k<=t/\t<k+args.length then Xb (args[t - k]'(by omega))else .undef
 |[],k,t=>by
  rw[awU (by simp<;>omega)];rfl
 |v::r,k,t=>by
  rw[aaX,ad2,ab4 r (k+1) t]
  by_cases h1:t=k
  ·subst h1
   rw[awh rfl,awJ (by simp)]
   simp
  ·rw[awg h1]
   by_cases h2:k+1<=t/\t<k+1+r.length
   ·rw[awJ h2,awJ (by simp;omega)]
    have:t - k=(t - (k+1))+1:=by omega
    simp [this]
   ·rw[awU h2,awU (by simp;omega)]
theorem agJ (hrel:lJ M) (hH:M.H=w.heap) (hF:∀b,M.F b->b<w.heap.size) {clk:Nat} (hU:∀id,M.U id->id<8*clk) {h:List (Nat×Option Ent)} {args:List AV} {vals:Array Value}
 (hhp:∀id,M.hp id=FS.hp { fr:=aaX 0 args,h:=h,clk:=clk } id) (hn:vals.size=args.length) (hs:∀j,(h:j<args.length)->(h':j<vals.size)->bT M args[j] vals[j]) (nt:Nat):
 Pz ⟨M,w,clk,nt,fun _=>False,fun _=>undef⟩/\Rel ⟨M,w,clk,nt,fun _=>False,fun _=>undef⟩ M { fr:=aaX 0 args,h:=h,clk:=clk } { tmps:=vals++Array.replicate (nt - vals.size) undef,defers:=[] } w:=by
 refine⟨⟨hrel,hH,hF,hU⟩,⟨Stp.refl hrel hH,fun t=> ?_,hhp,rfl,by simp<;>omega,fun _ h=>h.elim,fun id h=> .inl h,fun t c j x g v hc=> ?_,awk _⟩⟩
 ·show bT M (get (aaX 0 args) t) _
  rw[ab4]
  by_cases h1:0<=t/\t<0+args.length
  ·rw[awJ h1]
   have h2:t<vals.size:=by omega
   have e:(vals++Array.replicate (nt - vals.size) undef).getD t undef=vals[t]:=by
    rw[ayI,ayd h2];simp [h2]
   rw[e]
   exact WO (hs t (by omega) h2)
  ·rw[awU h1];exact .undef _
 ·have hc:get (aaX 0 args) t=_:=hc
  rw[ab4]at hc
  by_cases h1:0<=t/\t<0+args.length
  ·rw[awJ h1]at hc
   have:=ab6 (args[t - 0]'(by omega))
   rw[hc]at this
   exact this.elim
  ·rw[awU h1]at hc;cases hc
theorem anb {P:Program} {f:Nat} {fn:Func} {b:Code} (h1:P.funcs[f]? =some fn) (h2:fn.body=some b):aex P f=b:=by
 unfold aex;simp [h1,h2]
theorem atI {P:Program} {f:Nat} {fn:Func} (h1:P.funcs[f]? =some fn):akV P f=fn.ntmps:=by
 unfold akV;simp [h1]
theorem Ou (K:CxR C) {f:Nat} {fn:Func} {b:Code} (h1:C.P.funcs[f]? =some fn) (h2:fn.body=some b) (vals:Array Value) (w:World):(callFunc f vals).run C.P w= .ok (.enter f vals) w:=by
 have h3:=K.nog f fn h1;simp at h3;simp [callFunc,run_program,h1,h2,h3]
theorem Rel.know {B:Bse} {M:Mem} {A:FS} {a:Act} {w:World} (R:Rel B M A a w) {c:Operand} {b:Bool} (h:A.ev c= .bool b):Rel B M (A.know c b) a w:=by
 cases c with
 |tmp t=>
  have hg:∀j,get ((t,AV.bool b)::A.fr) j=get A.fr j:=fun j=>by
   have h:get A.fr t= .bool b:=h;by_cases e:t=j
   ·subst e;rw[h];unfold get look;simp
   ·unfold get;rw[show look ((t,AV.bool b)::A.fr) j=look A.fr j by rw[look,iL e];rfl]
  exact⟨R.stp,fun j=>by show bT M (get ((t,AV.bool b)::A.fr) j) _;rw[hg];exact R.fr j,R.hp,R.df,R.nt,R.kp,R.ub,fun j c j' w g v hj=>by
   have hj:get ((t,AV.bool b)::A.fr) j= .cond c j' w g v:=hj
   rw[hg]at hj;exact R.cond j c j' w g v hj,R.clk⟩
 |_=>exact R
theorem Rel.upto {B:Bse} {M:Mem} {A:FS} {a:Act} {w:World} (R:Rel B M A a w) (n:Nat):Rel B M (A.upto n) a w:=by
 unfold FS.upto;cases h:Nat.ble n A.clk with
 |true=>exact R
 |false=>
  have hn:¬n<=A.clk:=fun q=>by rw[Nat.ble_eq_true_of_le q]at h;cases h
  refine⟨R.stp,R.fr,R.hp,R.df,R.nt,R.kp,fun id hi=> ?_,fun t c j w g v hc=> ?_,?_⟩
  ·rcases R.ub id hi with q | ⟨q1,q2⟩
   ·exact .inl q
   ·exact .inr ⟨q1,by show id<8*n;omega⟩
  ·obtain⟨q1,q2⟩:=R.cond t c j w g v hc;exact⟨q1,by show c<n;omega⟩
  ·have:=R.clk;show B.cb<=n;omega
theorem X4 {τ:Type} {y:τ} {A:FS} {x z:Code} {F:Ex->FS->Option τ} {B:Bse} {Q:Exit->Act->World->Prop} (hQ:∀e A' M' a' w',F e A'=some y->Rel B M' A' a' w'->Q (apm e) a' w'):
 ∀e A' M' a' w',ahs C A x z F e A'=some y->Rel B M' A' a' w'->Q (apm e) a' w':=by
 intro e A' M' a' w' h R
 unfold ahs at h
 cases hi:C.inl 4094 with
 |false=>rw[hi]at h;exact hQ e A' M' a' w' h R
 |true=>
  rw[hi]at h
  cases e with
  |normal=>exact hQ .normal _ M' a' w' h (R.upto _)
  |ret=>exact hQ .ret A' M' a' w' h R
  |exit i=>exact hQ (.exit i) A' M' a' w' h R
def av7 (C:Cx) (n:Nat) (τ:Type) (y:τ):Prop:=∀(pf pos:Nat) (c:Code) (A:FS) (F:Ex->FS->Option τ),WN C n pf pos c A F=some y->∀(B:Bse),Pz B->akV C.P (pf%4096)<=B.nt->At C.P pf pos c->BA C pf pos->Keeps B.T c->
    ∀(M:Mem) (a:Act) (w:World),Rel B M A a w->∀(Q:Exit->Act->World->Prop),(∀e A' M' a' w',F e A'=some y->Rel B M' A' a' w'->Q (apm e) a' w')->cw C.P Q a w c
noncomputable def atp (C:Cx) (n pf:Nat) {τ:Type}:Nat->List AV->FS->(AV->FS->Option τ)->Option τ:=fun f args A' K'=>match C.P.funcs[f]? with
 |some fn=>(match fn.body with
  |some b=>WN C n ((pf*1048576+A'.clk)*4096+f) 1 b (amJ args A') fun e A2=>match e with
   |.exit _=>bad 11 f
   |_=>match Zj C.P A2 fn.results.toList with
    |some vs=>K' (MG A2 vs).1 (MG A2 vs).2
    |none=>bad 12 f
  |none=>bad 13 f)
 |none=>bad 13 f
theorem arB (K:CxR C) {n:Nat} {τ:Type} {y:τ} (IH:av7 C n τ y) {pf pos:Nat} (L:BA C pf pos):anX C.P (atp C n pf) y:=by
 intro f args A1 K' hcall M1 w1 vals R' hrel hH hF hU hclk hhp hn hs hk;unfold atp at hcall;cases hf:C.P.funcs[f]? with
 |none=>simp [hf,bad]at hcall
 |some fn=>
  simp only[hf]at hcall;cases hb:fn.body with
  |none=>simp [hb,bad]at hcall
  |some b=>
   simp only[hb]at hcall;refine .inl ⟨Ou K hf hb vals w1,?_⟩;have hlt:f<4096:=axf (awG.1 hf).1 K.nf;have hmod:((pf*1048576+A1.clk)*4096+f)%4096=f:=by omega
   obtain⟨hB1,hR1⟩:=agJ (M:=M1) (w:=w1) hrel hH hF (clk:=A1.clk) hU (h:=A1.h) (args:=args) (vals:=vals) (fun id=>hhp id) hn hs fn.ntmps;refine calls_of_wp hf hb (V4 (IH _ 1 b (amJ args A1) _ hcall ⟨M1,w1,A1.clk,fn.ntmps,fun _=>False,fun _=>undef⟩ hB1 (by rw[hmod,atI hf];exact awk _) ⟨awk _,0,by omega,by rw[hmod,anb hf hb];rfl⟩ (fun pf' pos' s c hbb=>L pf' pos' s c (by omega)) (Keeps.no _ fun _ h=>h) M1 _ w1 hR1 _ fun e A2 M2 a2 w2 he R2=> ?_))
   have fin:(match Zj C.P A2 fn.results.toList with
    |some vs=>K' (MG A2 vs).1 (MG A2 vs).2
    |none=>bad 12 f)=some y->bodyPost C.P fn (fun e w'=>∃v,e= .returned v/\R' v w') .normal a2 w2:=fun he=>by
    cases hr:Zj C.P A2 fn.results.toList with
    |none=>simp [hr,bad]at he
    |some vs=>
     simp only[hr]at he;obtain⟨v,g1,g2⟩:=ad9 (P:=C.P) R2.stp.hrel R2.stp.H R2.fr R2.hp hr;have hnU:¬M2.U (8*A2.clk):=fun hu=>by
      have:=R2.clk;rcases R2.ub _ hu with q | q
      ·have:=hU _ q;have hc:A1.clk<=A2.clk:=R2.clk;omega
      ·omega
     obtain⟨N2,q1,q2,q3,q4,q5⟩:=ame (w:=w2) R2.stp.hrel R2.stp.H (R2.stp.Fsz hF) R2.hp hnU g2
     exact⟨R2.df,v,g1,v,rfl,hk _ _ N2 w2 v he (R2.stp.trans q1 hrel hH) q2 q3 (fun id hu=>by
      rcases q4 id hu with q | ⟨q,q6⟩
      ·rcases R2.ub id q with q | q
       ·exact .inl q
       ·exact .inr ⟨q.1,by have:=q.2;omega⟩
      ·have hc:A1.clk<=A2.clk:=R2.clk
       exact .inr ⟨by omega,by omega⟩) (aw4 R2.clk q5)⟩
   cases e with
   |normal=>exact fin he
   |ret=>exact fin he
   |exit i=>simp [bad]at he
theorem alh (K:CxR C) {B:Bse} (hB:Pz B) {τ:Type} {y:τ} {call:Nat->List AV->FS->(AV->FS->Option τ)->Option τ} (hCA:anX C.P call y) {pf id:Nat} {ops:Array Oper} {dr:Bool} (h1:aiD (akV C.P (pf%4096)) ops=true)
 (hnt:akV C.P (pf%4096)<=B.nt) (hkp:Keeps B.T (.region id ops dr)) {F:FS->Option τ} {A:FS} {M:Mem} {a:Act} {w:World} (h:agb C call ops A.clk dr ops.size 0 { A with clk:=A.clk+ops.size } [] F=some y) (R:Rel B M A a w)
 {Q:Exit->Act->World->Prop} (hfin:∀N A' a' w',F A'=some y->Rel B N A' a' w'->Q .normal a' w'):
 match dr with
 |false=>wpOps C.P ops Q (List.range ops.size) a w
 |true=>wpAny C.P .any ops Q ops.size (Array.replicate ops.size false) a { w with drawn:=w.drawn+1 }:=by
 obtain⟨hd,hgd⟩:=amf h1
 have hd':aes ops B.nt B.T:=⟨fun i o d hi ho=>axf (hd.lt i o d hi ho) hnt,hd.one,hkp⟩
 cases dr with
 |false=>
  have R1:=R.start (ops:=ops)
  rw[List.range_eq_range']
  exact akr K hB hCA hd' hgd ops.size 0 _ [] M a w (by omega) h (R1.congr (fun j=>by simp) (fun _=>rfl) (fun _=>rfl) rfl) fun N A' a' w' he R'=>hfin N A' a' w' he R'.rel
 |true=>
  have R1:=R.start (ops:=ops)
  obtain⟨D,N,hR,hop,he,hsw,hgo,halt⟩:=agX (C:=C) (A0:={ A with clk:=A.clk+ops.size }) ops.size 0 (fun _=>⟨default,false,.undef,[],[]⟩) (by omega) ⟨fun j hj=>by omega,fun j hj=>by omega,fun j hj=>by omega⟩ h
  have hz:∀j,(Array.replicate ops.size false).getD j false=false:=fun j=>by
   rw[ayI,Array.getElem?_replicate];split<;>rfl
  have hT0:∀m,TS A.clk D { A with clk:=A.clk+ops.size } (fun j=>(Array.replicate ops.size false).getD j false) m={ A with clk:=A.clk+ops.size }:=fun m=>by
   induction m with
   |zero=>rfl
   |succ m ih=>rw[TS,hz,ih];rfl
  have hN:N=ops.size\/N+1=ops.size:=by
   rcases halt with ⟨h,_⟩ | ⟨h,_⟩
   ·exact .inl h
   ·exact .inr h
  refine apB K hB hd' hgd hN hR hop he hsw hgo (fun hNe N' a' w' R'=> ?_) (fun hN1 i hi=> ?_) (fun hN1 M' a' w' next R' hq=> ?_) ops.size _ M a _ (by simp) (fun _=>hz N) ?_ (fun j o e hj=>by simp only[hz]at hj;cases hj) ?_
  ·rcases halt with ⟨_,hF⟩ | ⟨h,_⟩
   ·exact hfin N' _ a' w' hF R'
   ·omega
  ·rcases halt with ⟨h,_⟩ | ⟨_,hlf,_⟩
   ·omega
   ·unfold Ox at hlf
    simp only[awp]at hlf
    obtain⟨x,h1,h2⟩:=axi.1 (awV.1 hlf.2 i (axJ.2 hi))
    have:=aws h2
    exact this▸h1
  ·rcases halt with ⟨h,_⟩ | ⟨_,_,K0,hk0,hK0⟩
   ·omega
   ·refine anh K hB hCA hk0 R' hd' hgd fun x N' a2 w2 hx R2=>hq a2 w2 ?_
    rw[hN1]at R2
    exact hfin N' x.1 a2 w2 (hK0 x hx) R2.rel
  ·exact aw4 List.countP_le_length (by simp)
  ·rw[hT0]
   have R2:=R1.move hB (Stp.drew (w':={ w with drawn:=w.drawn+1 }) R.stp.hrel R.stp.H rfl rfl rfl rfl) (h:=A.h) (clk:=A.clk+ops.size) R1.hp (fun id h=> .inl h) (awk _)
   exact R2.congr (fun j=>by simp only[hz];simp) (fun _=>rfl) (fun _=>rfl) rfl
theorem ZQ (K:CxR C):∀(n:Nat) {τ:Type} (y:τ) (pf pos:Nat) (c:Code) (A:FS) (F:Ex->FS->Option τ),WN C n pf pos c A F=some y->∀(B:Bse),Pz B->akV C.P (pf%4096)<=B.nt->At C.P pf pos c->BA C pf pos->Keeps B.T c->
 ∀(M:Mem) (a:Act) (w:World),Rel B M A a w->∀(Q:Exit->Act->World->Prop),(∀e A' M' a' w',F e A'=some y->Rel B M' A' a' w'->Q (apm e) a' w')->cw C.P Q a w c
 |0,τ,y,pf,pos,c,A,F,h,B,hB,hnt,hat,L,hkp,M,a,w,R,Q,hQ=>by simp [WN,bad]at h
 |n+1,τ,y,pf,pos,c,A,F,h,B,hB,hnt,hat,L,hkp,M,a,w,R,Q,hQ=>by
  have IH:=fun {τ:Type} (y:τ)=>ZQ K n y
  unfold WN at h
  cases c with
  |skip=>exact wp_skip (hQ .normal A M a w h R)
  |seq c1 c2=>
   refine wp_seq (V4 (IH y pf (2*pos) c1 A _ h B hB hnt (hat.kid 0 (by omega) rfl) (L.kid 0) hkp.1 M a w R _ fun e A' M' a' w' he R'=> ?_))
   cases e with
   |normal=>exact V4 (IH y pf (2*pos+1) c2 A' F he B hB hnt (hat.kid 1 (by omega) rfl) (L.kid 1) hkp.2 M' a' w' R' Q hQ)
   |ret=>exact hQ .ret A' M' a' w' he R'
   |exit i=>exact hQ (.exit i) A' M' a' w' he R'
  |region id ops dr=>
   simp only at h
   obtain⟨h1,h⟩:=Ye h
   have hg:=alh K hB (arB K (IH y) L) h1 hnt hkp h R (Q:=Q) fun N A' a' w' he R'=>hQ .normal A' N a' w' he R'
   cases dr with
   |false=>exact wp_region hg
   |true=>exact wp_region_any K.mixed hg
  |cond cx c1 c2=>
   simp only at h
   split at h
   ·rename_i b hb
    have hs:=aid R.fr cx
    rw[hb]at hs
    have hv:a.eval cx= .bool b:=by
     generalize a.eval cx=v at hs
     cases hs;rfl
    refine wp_cond hv ?_
    cases hi:C.inl 4095 with
    |false=>
     simp only[hi,cond_false]at h
     cases b with
     |true=>exact V4 (IH y pf (2*pos) c1 A _ h B hB hnt (hat.kid 0 (by omega) rfl) (L.kid 0) hkp.1 M a w R Q (X4 hQ))
     |false=>exact V4 (IH y pf (2*pos+1) c2 A _ h B hB hnt (hat.kid 1 (by omega) rfl) (L.kid 1) hkp.2 M a w R Q (X4 hQ))
    |true=>
     simp only[hi,cond_true]at h
     cases b with
     |true=>exact V4 (IH y pf (2*pos) c1 _ _ h B hB hnt (hat.kid 0 (by omega) rfl) (L.kid 0) hkp.1 M a w (R.know hb) Q (X4 hQ))
     |false=>exact V4 (IH y pf (2*pos+1) c2 _ _ h B hB hnt (hat.kid 1 (by omega) rfl) (L.kid 1) hkp.2 M a w (R.know hb) Q (X4 hQ))
   ·simp [bad]at h
  |block id c1=>
   refine wp_block (V4 (IH y pf (2*pos) c1 A _ h B hB hnt (hat.kid 0 (by omega) rfl) (L.kid 0) hkp M a w R _ fun e A' M' a' w' he R'=> ?_))
   cases e with
   |normal=>exact hQ .normal A' M' a' w' he R'
   |ret=>exact hQ .ret A' M' a' w' he R'
   |exit i=>
    simp only at he
    show Exit.inBlock id Q (.exit i) a' w'
    unfold Exit.inBlock
    cases hb:Nat.beq i id with
    |true=>
     have:=aws hb
     subst this
     simp only[hb,cond_true]at he
     simp only[if_true]
     exact hQ .normal A' M' a' w' he R'
    |false=>
     simp only[hb,cond_false]at he
     have:¬i=id:=fun e=>by subst e;simp at hb
     simp only[this,if_false]
     exact hQ (.exit i) A' M' a' w' he R'
  |loop c1=>
   simp only at h
   cases hl:C.lp pf pos with
   |some s=>
    simp only[hl,lpK]at h
    split at h
    ·rename_i v hv
     obtain⟨wv,h1,h2⟩:=afS h
     exact L pf pos s c1 (.inl ⟨rfl,awk _⟩) hl hat τ y B M A a w v wv F Q hB hnt hkp R hv h1 h2 hQ
    ·simp [bad]at h
   |none=>
    simp only[hl,lpK]at h
    refine afQ (V4 (IH y pf (2*pos) c1 A _ h B hB hnt (hat.kid 0 (by omega) rfl) (L.kid 0) hkp M a w R _ fun e A' M' a' w' he R'=> ?_))
    cases e with
    |normal=>exact IH y pf pos (.loop c1) A' F he B hB hnt hat L hkp M' a' w' R' Q hQ
    |ret=>exact hQ .ret A' M' a' w' he R'
    |exit i=>exact hQ (.exit i) A' M' a' w' he R'
  |exit id=>exact wp_exit (hQ (.exit id) A M a w h R)
  |ret=>exact wp_ret (hQ .ret A M a w h R)
  |_=>simp [bad]at h
end
def dt:AV->Bool
 |.undef | .int _ _ | .bool _ | .str _ | .nilp | .nils | .nilf | .nili | .ro _ _ _ | .rp _ _ _ | .fn _ []=>true
 |_=>false
def dtL:List AV->Bool
 |[]=>true
 |v::r=>dt v&&dtL r
theorem acn (e:E) (x:den e):dtL (cells e x)=true:=by cases e<;>rfl
theorem aif:∀(l:List AV) (k:Nat),dtL l=true->k<l.length->dt (nth l k)=true
 |[],k,_,hk=>by simp at hk
 |v::r,0,h,_=>by simp only[dtL,awp]at h;exact h.1
 |v::r,k+1,h,hk=>by
  simp only[dtL,awp]at h
  exact aif r k h.2 (by simpa using hk)
theorem aav (e:E) (x:den e) (k:Nat) (hk:k<esz e):dt (nth (cells e x) k)=true:=aif _ _ (acn e x) (by rw[xQ];exact hk)
theorem bT.data {M N:Mem} (hF:∀b,M.F b->N.F b) (hH:∀b,M.F b->N.H[b]? =M.H[b]?) {x:AV} {v:Value} (hs:bT M x v):dt x=true->bT N x v:=by
 induction hs with
 |undef v=>exact fun _=> .undef v
 |int k n=>exact fun _=> .int k n
 |bool b=>exact fun _=> .bool b
 |str s l hl=>exact fun _=> .str s l hl
 |nilp=>exact fun _=> .nilp
 |nils=>exact fun _=> .nils
 |nilf=>exact fun _=> .nilf
 |nili=>exact fun _=> .nili
 |rp e x j v b o hv hF' cs hc hs ih=>exact fun _=> .rp e x j v b o hv (hF _ hF') cs (fun k hk=>by rw[Yb (hH b hF')];exact hc k hk) fun k hk=>ih k hk (aav e x k hk)
 |roE e ex a cap hx=>exact fun _=> .roE e ex a cap hx
 |ro e l ex b o cap hl hx hF' cs hc hs ih=>
  exact fun _=> .ro e l ex b o cap hl hx (hF _ hF') cs (fun i k hi hk=>by rw[Yb (hH b hF')];exact hc i k hi hk) fun i k hi hk=>ih i k hi hk (aav e _ k hk)
 |fn f cs vs hn hs ih=>
  intro h;cases cs with
  |nil=>exact .fn f [] vs hn fun i h _=>by simp at h
  |cons c cs=>cases h
 |_=>intro h;cases h
theorem bT.dataAgg {M N:Mem} (hF:∀b,M.F b->N.F b) (hH:∀b,M.F b->N.H[b]? =M.H[b]?) {cs:List AV} {v:Value} (hs:bT M (.agg cs) v) (hd:dtL cs=true):bT N (.agg cs) v:=by
 cases hs with
 |agg cs vs hn h1 hh=>
  refine .agg cs vs hn h1 fun i h h'=>(hh i h h').data hF hH ?_;rw[<-vG _ _ h];exact aif _ _ hd h
def Conv (M V:Mem):Blk->Blk->Prop
 |.arr t l,b'=>b'= .arr t l
 |.raw cs,.raw cs'=>cs.length=cs'.length/\∀k v,(h:k<cs.length)->(h':k<cs'.length)->bT M cs[k] v->bT V cs'[k] v
 |.raw _,.arr _ _=>False
theorem Conv.form {M V:Mem} {e e':Ent} (h:Conv M V e.b e'.b):eU e e':=by
 obtain⟨f,b⟩:=e;obtain⟨f',b'⟩:=e';cases b with
 |arr t l=>have h:b'= .arr t l:=h;subst h;simp [eU]
 |raw cs=>
  cases b' with
  |raw cs'=>exact h.1
  |arr=>exact h.elim
theorem Conv.is {M V:Mem} (hF:∀b,M.F b->V.F b) (hH:∀b,M.F b->V.H[b]? =M.H[b]?) {b b':Blk} {c:Array Value} (h:Conv M V b b') (hb:xC M b c):xC V b' c:=by
 cases b with
 |arr t l=>
  have h:b'= .arr t l:=h;subst h;exact⟨hb.1,fun i k hi hk=>let ⟨v,h1,h2⟩:=hb.2 i k hi hk;⟨v,h1,h2.data hF hH (aav t _ k hk)⟩⟩
 |raw cs=>
  cases b' with
  |raw cs'=>exact⟨⟨hb.1.1.trans h.1,hb.1.2⟩,fun i h1 h2=>h.2 i _ (by rw[h.1];exact h1) h1 (hb.2 i (by rw[h.1];exact h1) h2)⟩
  |arr=>exact h.elim
structure View (M V:Mem) (σ:Nat->Option Nat):Prop where
 H:V.H=M.H
 F:∀b,V.F b↔M.F b
 src:∀j e',V.hp j=some e'->V.U j/\((σ j=none/\V.β j=none/\∃fz t,e'=⟨fz,.arr t []⟩)\/
  (∃i e,σ j=some i/\M.hp i=some e/\V.β j=M.β i/\(e'.fz=e.fz\/(e'.fz=true/\Rx e'.b=false))/\Conv M V e.b e'.b)\/
  (σ j=none/\e'.fz=true/\Rx e'.b=false/\∃b c t fr,V.β j=some b/\M.H[b]? =some (.cells c t fr)/\Ib e'.b c fr/\xC V e'.b c/\∀i j' e1,V.hp j'=some e1->e1.fz=false->σ j'=some i->M.β i≠some b))
 inj:∀j j' i e,σ j=some i->σ j'=some i->V.hp j≠none->V.hp j'≠none->M.hp i=some e->e.fz=false->j=j'
theorem aro {M V:Mem} {b b':Blk} (h:Conv M V b b'):Rx b'=Rx b:=by
 cases b with
 |arr t l=>have h:b'= .arr t l:=h;subst h;rfl
 |raw cs=>
  cases b' with
  |raw cs'=>rfl
  |arr=>exact h.elim
theorem aod {M V:Mem} {b b':Blk} (h:Conv M V b b'):KX b'=KX b:=by
 cases b with
 |arr t l=>have h:b'= .arr t l:=h;subst h;rfl
 |raw cs=>
  cases b' with
  |raw cs'=>rfl
  |arr=>exact h.elim
theorem View.hrel {M V:Mem} {σ:Nat->Option Nat} (vw:View M V σ) (h:lJ M):lJ V:=by
 have hH:∀b,M.F b->V.H[b]? =M.H[b]? :=fun b _=>by rw[vw.H]
 have unf:∀ {a b:Ent},(b.fz=a.fz\/(b.fz=true/\Rx b.b=false))->b.fz=false->a.fz=false:=fun h1 h2=>by
  rcases h1 with h1 | h1
  ·rw[<-h1];exact h2
  ·rw[h1.1]at h2;cases h2
 refine lJ.mk' (h.glob.mono (fun b hb=>(vw.F b).2 hb) hH) (fun j e he=>(vw.src j e he).1) (fun j e he hb=> ?_) (fun j e b he hb=> ?_) (fun j j' e e' b he he' hf hb hb'=> ?_)
 ·obtain⟨_,⟨_,_,h1⟩ | ⟨i,e0,h1,h2,h3,h4,h5⟩ | ⟨_,_,_,b,c,t,fr,h1,_⟩⟩:=vw.src j e he
  ·exact h1
  ·obtain⟨fz,t,rfl⟩:=h.nob i e0 h2 (h3▸hb);obtain⟨f,bl⟩:=e;have h5:bl= .arr t []:=h5;exact⟨f,t,by rw[h5]⟩
  ·rw[h1]at hb;cases hb
 ·obtain⟨_,⟨_,h1,_⟩ | ⟨i,e0,h1,h2,h3,h4,h5⟩ | ⟨_,k1,k2,b1,c,t,fr,h1,h2,h3,h4,h5⟩⟩:=vw.src j e he
  ·rw[h1]at hb;cases hb
  ·obtain⟨g1,g2,c,t,fr,g3,g4,g5⟩:=h.is h2 (h3▸hb);refine⟨fun hf ha=>(vw.F b).2 ?_,fun hf hb=>g2 (unf h4 hf) ((vw.F b).1 hb),c,t,fr,by rw[vw.H];exact g3,g4.form (aod h5) rfl,h5.is (fun b hb=>(vw.F b).2 hb) hH g5⟩;rcases h4 with h4 | h4
   ·exact g1 (h4▸hf) (aro h5▸ha)
   ·rw[h4.2]at ha;cases ha
  ·rw[h1]at hb;cases hb;exact⟨fun _ ha=>(by rw[k2]at ha;cases ha),fun hf=>(by rw[k1]at hf;cases hf),c,t,fr,by rw[vw.H];exact h2,h3,h4⟩
 ·obtain⟨_,⟨_,h1,_⟩ | ⟨i,e0,h1,h2,h3,h4,h5⟩ | ⟨_,h1,_⟩⟩:=vw.src j e he
  ·rw[h1]at hb;cases hb
  ·obtain⟨_,⟨_,k1,_⟩ | ⟨i',e0',k1,k2,k3,k4,k5⟩ | ⟨_,_,_,b1,c,t,fr,k1,_,_,_,k5⟩⟩:=vw.src j' e' he'
   ·rw[k1]at hb';cases hb'
   ·have:=h.inj i i' e0 e0' b h2 k2 (unf h4 hf) (h3▸hb) (k3▸hb');subst this;exact vw.inj j j' i e0 h1 k1 (by rw[he];simp) (by rw[he'];simp) h2 (unf h4 hf)
   ·rw[k1]at hb';cases hb';exact absurd (h3▸hb) (k5 i j e he hf h1)
  ·rw[h1]at hf;cases hf
theorem View.own {M V:Mem} {σ:Nat->Option Nat} (vw:View M V σ) {b:Nat} (h:Own V b):∃j e1 i e,V.hp j=some e1/\e1.fz=false/\σ j=some i/\M.hp i=some e/\e.fz=false/\M.β i=some b:=by
 obtain⟨j,e',h1,h2,h3⟩:=h;obtain⟨_,⟨_,k1,_⟩ | ⟨i,e0,k1,k2,k3,k4,k5⟩ | ⟨_,k1,_⟩⟩:=vw.src j e' h1
 ·rw[k1]at h3;cases h3
 ·refine⟨j,e',i,e0,h1,h2,k1,k2,?_,k3▸h3⟩;rcases k4 with k4 | k4
  ·exact k4▸h2
  ·rw[k4.1]at h2;cases h2
 ·rw[k1]at h2;cases h2
structure Trk (K:Nat->Prop) (M:Mem) (w:World) (V:Mem) (w':World):Prop where
 H:V.H=w'.heap
 hrel:lJ V
 os:w'.os=w.os
 tape:w'.tape=w.tape
 output:w'.output=w.output
 size:w.heap.size<=w'.heap.size
 F:∀b,M.F b->V.F b
 FH:∀b,M.F b->V.H[b]? =M.H[b]?
 old:∀b,b<w.heap.size->¬Own M b->w'.heap[b]? =w.heap[b]?
 own:∀b,Own V b->Own M b\/w.heap.size<=b
 Fin:∀b,V.F b->M.F b\/Own M b\/w.heap.size<=b
 Fsz:(∀b,M.F b->b<w.heap.size)->∀b,V.F b->b<w'.heap.size
 kept:∀j e',K j->V.hp j=some e'->∃e,M.hp j=some e/\eU e e'/\V.β j=M.β j
 ksz:∀j b n,K j->V.hp j≠none->M.β j=some b->bsize M.H b=some n->bsize V.H b=some n
theorem Stp.trk {K:Nat->Prop} {M N:Mem} {w w':World} (h:Stp M w N w') (hK:∀j,K j->M.U j):Trk K M w N w':=
 ⟨h.H,h.hrel,h.os,h.tape,h.output,h.size,h.le.F,h.le.H,h.old,h.own,h.Fin,h.Fsz,fun j e' hj he=>h.le.hp j e' (hK j hj) he,fun j b n hj=>h.le.sz j b n (hK j hj)⟩
theorem View.trk {K:Nat->Prop} {M V:Mem} {σ:Nat->Option Nat} {w:World} (vw:View M V σ) (h:lJ M) (hH:M.H=w.heap) (hK:∀j,K j->σ j=some j):Trk K M w V w:=by
 refine⟨vw.H.trans hH,vw.hrel h,rfl,rfl,rfl,awk _,fun b hb=>(vw.F b).2 hb,fun b _=>by rw[vw.H],fun _ _ _=>rfl,fun b hb=> ?_,fun b hb=> .inl ((vw.F b).1 hb),fun hF b hb=>hF b ((vw.F b).1 hb),fun j e' hj he=> ?_,fun j b n hj _ _ hn=>by rw[vw.H];exact hn⟩
 ·obtain⟨_,_,i,e,_,_,_,h2,h3,h4⟩:=vw.own hb;exact .inl ⟨i,e,h2,h3,h4⟩
 ·obtain⟨_,⟨k1,_⟩ | ⟨i,e0,k1,k2,k3,k4,k5⟩ | ⟨k1,_⟩⟩:=vw.src j e' he
  ·rw[hK j hj]at k1;cases k1
  ·rw[hK j hj]at k1;cases k1;exact⟨e0,k2,k5.form,k3⟩
  ·rw[hK j hj]at k1;cases k1
theorem Trk.trans {K:Nat->Prop} {A B C:Mem} {w w1 w2:World} (h:Trk K A w B w1) (k:Trk K B w1 C w2):Trk K A w C w2 where
 H:=k.H
 hrel:=k.hrel
 os:=k.os.trans h.os
 tape:=k.tape.trans h.tape
 output:=k.output.trans h.output
 size:=aw4 h.size k.size
 F b x:=k.F b (h.F b x)
 FH b x:=(k.FH b (h.F b x)).trans (h.FH b x)
 old b hb ho:=by
  refine(k.old b (axf hb h.size) fun hn=> ?_).trans (h.old b hb ho)
  rcases h.own b hn with h1 | h1
  ·exact ho h1
  ·omega
 own b hb:=by
  rcases k.own b hb with h1 | h1
  ·exact h.own b h1
  ·have:=h.size
   exact .inr (by omega)
 Fin b hb:=by
  rcases k.Fin b hb with h1 | h1 | h1
  ·exact h.Fin b h1
  ·rcases h.own b h1 with h2 | h2
   ·exact .inr (.inl h2)
   ·exact .inr (.inr h2)
  ·have:=h.size
   exact .inr (.inr (by omega))
 Fsz g:=k.Fsz (h.Fsz g)
 kept j e' hj he:=by
  obtain⟨e1,g1,g2,g3⟩:=k.kept j e' hj he
  obtain⟨e0,f1,f2,f3⟩:=h.kept j e1 hj g1
  exact⟨e0,f1,f2.trans g2,g3.trans f3⟩
 ksz j b n hj hne hb hn:=by
  cases he:C.hp j with
  |none=>exact absurd he hne
  |some e'=>
   obtain⟨e1,g1,g2,g3⟩:=k.kept j e' hj he
   obtain⟨e0,f1,f2,f3⟩:=h.kept j e1 hj g1
   exact k.ksz j b n hj hne (f3.trans hb) (h.ksz j b n hj (by rw[g1];simp) hb hn)
section
variable {M N0 M1 V N:Mem} {w w':World} {σ:Nat->Option Nat} {K:Nat->Prop}
theorem stays (h0:lJ N0) (hH0:N0.H=w.heap) (vw:View N0 M1 σ) (tr:Trk K M1 w V w') {j:Nat} {e:Ent} (he:N0.hp j=some e) (hno:e.fz=false->∀k e1,M1.hp k=some e1->e1.fz=false->σ k≠some j) {b:Nat} (hb:N0.β j=some b):
 ¬Own M1 b/\w'.heap[b]? =w.heap[b]? /\b<w.heap.size/\(e.fz=false->¬V.F b):=by
 have hlt:b<w.heap.size:=by
  obtain⟨_,_,c,t,fr,h1,_⟩:=h0.is he hb
  rw[<-hH0];exact(awG.1 h1).1
 have hno':¬Own M1 b:=fun ho=>by
  obtain⟨k,e1,i,e0,h1,h1',h2,h3,h4,h5⟩:=vw.own ho
  have:=h0.inj i j e0 e b h3 he h4 h5 hb
  subst this
  rw[he]at h3;cases h3
  exact hno h4 k e1 h1 h1' h2
 refine⟨hno',tr.old b hlt hno',hlt,fun hf hV=> ?_⟩
 rcases tr.Fin b hV with h | h | h
 ·exact(h0.is he hb).2.1 hf ((vw.F b).1 h)
 ·exact hno' h
 ·omega
theorem merge (hM:lJ M) (hH:M.H=w.heap) (hF:∀b,M.F b->b<w.heap.size) (st0:Stp M w N0 w) (vw:View N0 M1 σ) (tr:Trk K M1 w V w') {ρ:Nat->Option Nat}
 (nU:∀id,N0.U id->N.U id) (nH:N.H=w'.heap) (nF:∀b,N.F b↔V.F b)
 (nb:∀j e',N.hp j=some e'->N.U j/\((∃q e,ρ j=some q/\V.hp q=some e/\N.β j=V.β q/\(e'.fz=e.fz/\e.fz=false)/\Conv V N e.b e'.b)\/
   (ρ j=none/\N0.hp j=some e'/\N.β j=N0.β j/\(e'.fz=false->∀k e1,M1.hp k=some e1->e1.fz=false->σ k≠some j))\/(ρ j=none/\N.β j=none/\(∃fz t,e'=⟨fz,.arr t []⟩)/\¬N0.U j)))
 (nk:∀j q,ρ j=some q->¬N0.U j\/(K q/\σ q=some j))
 (ni:∀j j' q e,ρ j=some q->ρ j'=some q->V.hp q=some e->e.fz=false->j=j'):Stp M w N w':=by
 have h0:=st0.hrel
 have hH0:=st0.H
 have hVF:∀b,V.F b->N.F b:=fun b h=>(nF b).2 h
 have hVH:∀b,V.F b->N.H[b]? =V.H[b]? :=fun b _=>by rw[nH,tr.H]
 have hle:Le N0 N:=by
  refine⟨nU,fun b hb=>hVF b (tr.F b ((vw.F b).2 hb)),fun b hb=> ?_,fun j e' hU he=> ?_,fun j b n hU hne hb hn=> ?_⟩
  ·rw[nH,<-tr.H,tr.FH b ((vw.F b).2 hb),vw.H]
  ·obtain⟨_,⟨q,e,h1,h2,h3,h4,h5⟩ | ⟨h1,h2,h3,h4⟩ | ⟨_,_,_,h4⟩⟩:=nb j e' he
   ·rcases nk j q h1 with h | ⟨hk,hs⟩
    ·exact absurd hU h
    ·obtain⟨e1,g1,g2,g3⟩:=tr.kept q e hk h2
     obtain⟨_,⟨k1,_⟩ | ⟨i,e0,k1,k2,k3,k4,k5⟩ | ⟨k1,_⟩⟩:=vw.src q e1 g1
     ·rw[hs]at k1;cases k1
     rotate_left
     ·rw[hs]at k1;cases k1
     ·rw[hs]at k1;cases k1
      exact⟨e0,k2,(k5.form.trans g2).trans h5.form,(h3.trans g3).trans k3⟩
   ·exact⟨e',h2,eU.refl _,h3⟩
   ·exact absurd hU h4
  ·cases he:N.hp j with
   |none=>exact absurd he hne
   |some e'=>
    obtain⟨_,⟨q,e,h1,h2,h3,h4,h5⟩ | ⟨h1,h2,h3,h4⟩ | ⟨_,_,_,h4⟩⟩:=nb j e' he
    ·rcases nk j q h1 with h | ⟨hk,hs⟩
     ·exact absurd hU h
     ·obtain⟨e1,g1,g2,g3⟩:=tr.kept q e hk h2
      obtain⟨_,⟨k1,_⟩ | ⟨i,e0,k1,k2,k3,k4,k5⟩ | ⟨k1,_⟩⟩:=vw.src q e1 g1
      ·rw[hs]at k1;cases k1
      rotate_left
      ·rw[hs]at k1;cases k1
      ·rw[hs]at k1;cases k1
       rw[nH,<-tr.H]
       exact tr.ksz q b n hk (by rw[h2];simp) (k3.trans hb) (by rw[vw.H];exact hn)
    ·obtain⟨_,g1,_,_⟩:=stays h0 hH0 vw tr h2 h4 hb
     unfold bsize at*
     rw[nH,g1,<-hH0];exact hn
    ·exact absurd hU h4
 refine⟨st0.le.trans hle,nH,lJ.mk' (st0.hrel.glob.le hle) (fun j e he=>(nb j e he).1) (fun j e' he hb=> ?_) (fun j e' b he hb=> ?_) (fun j j' e e' b he he' hf hb hb'=> ?_),tr.os,tr.tape,tr.output,tr.size,fun b hb ho=> ?_,fun b hb=> ?_,fun b hb=> ?_,fun g b hb=> ?_⟩
 ·obtain⟨_,⟨q,e,h1,h2,h3,h4,h5⟩ | ⟨h1,h2,h3,h4⟩ | ⟨_,_,h3,h4⟩⟩:=nb j e' he
  ·obtain⟨fz,t,rfl⟩:=tr.hrel.nob q e h2 (h3▸hb)
   obtain⟨f,bl⟩:=e'
   have h5:bl= .arr t []:=h5
   exact⟨f,t,by rw[h5]⟩
  ·exact h0.nob j e' h2 (h3▸hb)
  ·exact h3
 ·obtain⟨_,⟨q,e,h1,h2,h3,h4,h5⟩ | ⟨h1,h2,h3,h4⟩ | ⟨_,h2,h3,h4⟩⟩:=nb j e' he
  ·obtain⟨g1,g2,c,t,fr,g3,g4,g5⟩:=tr.hrel.is h2 (h3▸hb)
   exact⟨fun hf=>(by rw[h4.1,h4.2]at hf;cases hf),fun hf hb=>g2 h4.2 ((nF b).1 hb),c,t,fr,by rw[nH,<-tr.H];exact g3,g4.form (aod h5) rfl,h5.is hVF hVH g5⟩
  ·obtain⟨g1,g2,c,t,fr,g3,g4,g5⟩:=h0.is h2 (h3▸hb)
   obtain⟨_,k1,_,k2⟩:=stays h0 hH0 vw tr h2 h4 (h3▸hb)
   exact⟨fun hf ha=>hle.F b (g1 hf ha),fun hf hb=>k2 hf ((nF b).1 hb),c,t,fr,by rw[nH,k1,<-hH0];exact g3,g4,g5.le hle⟩
  ·rw[h2]at hb;cases hb
 ·obtain⟨_,⟨q,e0,h1,h2,h3,h4,h5⟩ | ⟨h1,h2,h3,h4⟩ | ⟨_,h2,_⟩⟩:=nb j e he
  ·obtain⟨_,⟨q',e0',k1,k2,k3,k4,k5⟩ | ⟨k1,k2,k3,k4⟩ | ⟨_,k2,_⟩⟩:=nb j' e' he'
   ·have:=tr.hrel.inj q q' e0 e0' b h2 k2 h4.2 (h3▸hb) (k3▸hb')
    subst this
    exact ni j j' q e0 h1 k1 h2 h4.2
   ·obtain⟨g1,_,g2,_⟩:=stays h0 hH0 vw tr k2 k4 (k3▸hb')
    rcases tr.own b ⟨q,e0,h2,h4.2,h3▸hb⟩with h | h
    ·exact absurd h g1
    ·omega
   ·rw[k2]at hb';cases hb'
  ·obtain⟨_,⟨q',e0',k1,k2,k3,k4,k5⟩ | ⟨k1,k2,k3,k4⟩ | ⟨_,k2,_⟩⟩:=nb j' e' he'
   ·obtain⟨g1,_,g2,g3⟩:=stays h0 hH0 vw tr h2 h4 (h3▸hb)
    rcases tr.own b ⟨q',e0',k2,k4.2,k3▸hb'⟩with h | h
    ·exact absurd h g1
    ·omega
   ·exact h0.inj j j' e e' b h2 k2 hf (h3▸hb) (k3▸hb')
   ·rw[k2]at hb';cases hb'
  ·rw[h2]at hb;cases hb
 ·refine tr.old b hb fun h1=> ?_
  obtain⟨_,_,i,e0,_,_,_,k3,k4,k5⟩:=vw.own h1
  rcases st0.own b ⟨i,e0,k3,k4,k5⟩with h | h
  ·exact ho h
  ·omega
 ·obtain⟨j,e',h1,h2,h3⟩:=hb
  obtain⟨_,⟨q,e0,k1,k2,k3,k4,k5⟩ | ⟨k1,k2,k3,k4⟩ | ⟨_,k2,_⟩⟩:=nb j e' h1
  ·rcases tr.own b ⟨q,e0,k2,k4.2,k3▸h3⟩with h | h
   ·obtain⟨_,_,i,e1,_,_,_,g3,g4,g5⟩:=vw.own h
    exact st0.own b ⟨i,e1,g3,g4,g5⟩
   ·exact .inr h
  ·exact st0.own b ⟨j,e',k2,h2,k3▸h3⟩
  ·rw[k2]at h3;cases h3
 ·rcases tr.Fin b ((nF b).1 hb)with h | h | h
  ·exact st0.Fin b ((vw.F b).1 h)
  ·obtain⟨_,_,i,e1,_,_,_,g3,g4,g5⟩:=vw.own h
   rcases st0.own b ⟨i,e1,g3,g4,g5⟩with h | h
   ·exact .inr (.inl h)
   ·exact .inr (.inr h)
  ·exact .inr (.inr h)
 ·exact tr.Fsz (fun b hb=>st0.Fsz hF b ((vw.F b).1 hb)) b ((nF b).1 hb)
end
abbrev Dt:=(s:Sh)×s.T
def flat:(l:List Sh)->Tup l->List Dt
 |[],_=>[]
 |[s],x=>[⟨s,x⟩]
 |s::t::r,x=>⟨s,x.1⟩::flat (t::r) x.2
def jo (k:Nat):List Dt->List AV
 |[]=>[]
 |d::r=>encS k d.1 d.2::jo (k+1) r
def BN (k:Nat):List Dt->List (Nat×Option Ent)
 |[]=>[]
 |d::r=>amS k d.1 d.2++BN (k+1) r
def TG (hp:Nat->Option Ent):List Dt->List AV->Prop
 |[],[]=>True
 |d::r,a::bs=>jb hp d.1 a=some d.2/\TG hp r bs
 |_,_=>False
theorem RP:∀(l:List Sh) (x:Tup l),(flat l x).map (·.1)=l
 |[],_=>rfl
 |[s],x=>rfl
 |s::t::r,x=>by rw[flat,awS,RP (t::r) x.2]
theorem IG (l:List Sh) (x:Tup l):(flat l x).length=l.length:=by
 rw[<-axC (f:=(·.1)),RP]
theorem Ah:∀(l:List Sh) (k:Nat) (x:Tup l),Cb k l x=jo k (flat l x)
 |[],k,_=>rfl
 |[s],k,x=>rfl
 |s::t::r,k,x=>by rw[Cb,flat,jo,Ah (t::r)]
theorem A7:∀(l:List Sh) (k:Nat) (x:Tup l),Ij k l x=BN k (flat l x)
 |[],k,_=>rfl
 |[s],k,x=>by simp [Ij,flat,BN]
 |s::t::r,k,x=>by rw[Ij,flat,BN,A7 (t::r)]
theorem Sm {hp:Nat->Option Ent}:∀(l:List Sh) (bs:List AV) (x:Tup l),UI hp l bs=some x->TG hp (flat l x) bs
 |[],[],x,_=>trivial
 |[],a::bs,x,h=>by simp [UI]at h
 |[s],[],x,h=>by simp [UI]at h
 |[s],[a],x,h=>⟨h,azv⟩
 |[s],a::b::bs,x,h=>by simp [UI]at h
 |s::t::r,[],x,h=>by simp [UI]at h
 |s::t::r,a::bs,x,h=>by
  rw[UI]at h
  cases hs:jb hp s a with
  |none=>simp [hs]at h
  |some x1=>
   simp only[hs]at h
   cases hr:UI hp (t::r) bs with
   |none=>simp [hr]at h
   |some x2=>
    simp only[hr,awj]at h
    subst h
    exact⟨hs,Sm (t::r) bs x2 hr⟩
theorem TG.len {hp:Nat->Option Ent}:∀ {fl:List Dt} {bs:List AV},TG hp fl bs->fl.length=bs.length
 |[],[],_=>rfl
 |[],_::_,h=>h.elim
 |_::_,[],h=>h.elim
 |d::r,a::bs,h=>by simp [TG.len h.2]
theorem TG.get {hp:Nat->Option Ent}:∀ {fl:List Dt} {bs:List AV},TG hp fl bs->∀(j:Nat) (d:Dt) (a:AV),fl[j]? =some d->bs[j]? =some a->jb hp d.1 a=some d.2
 |[],_,_,j,d,a,h,_=>by simp at h
 |_::_,[],h,_,_,_,_,_=>h.elim
 |d::r,a::bs,h,0,d',a',h1,h2=>by simp at h1 h2;subst h1;subst h2;exact h.1
 |d::r,a::bs,h,j+1,d',a',h1,h2=>TG.get h.2 j d' a' (by simpa using h1) (by simpa using h2)
theorem tY:∀(fl:List Dt) (k:Nat),(jo k fl).length=fl.length
 |[],_=>rfl
 |d::r,k=>by simp [jo,tY r]
theorem SE:∀(fl:List Dt) (k j:Nat) (d:Dt),fl[j]? =some d->(jo k fl)[j]? =some (encS (k+j) d.1 d.2)
 |[],k,j,d,h=>by simp at h
 |d::r,k,0,d',h=>by simp at h;subst h;rfl
 |d::r,k,j+1,d',h=>by
  have:=SE r (k+1) j d' (by simpa using h)
  rw[jo,ayL,this]
  congr 2;omega
def aau:Dt->Option Ent
 |⟨.buf e,l⟩=>some ⟨false,.arr e l⟩
 |_=>none
theorem aos (k:Nat) (d:Dt) (id:Nat):look (amS k d.1 d.2) id=if id=k then (aau d).map some else none:=by
 obtain⟨s,x⟩:=d;cases s<;>simp [amS,look,aau]
 by_cases h:id=k
 ·subst h;simp
 ·have:Nat.beq k id=false:=iL fun e=>h e.symm;have h':¬k=id:=fun e=>h e.symm;simp [h,h',this]
theorem Eh:∀(fl:List Dt) (k id:Nat),look (BN k fl) id=if k<=id then ((fl[id - k]?).bind aau).map some else none
 |[],k,id=>by simp [BN,look]
 |d::r,k,id=>by
  rw[BN,Lu,aos,Eh r (k+1) id]
  by_cases h:id=k
  ·subst h
   have:¬id+1<=id:=by omega
   simp only[if_true,awk,Nat.sub_self,ayZ,ayC,this,if_false]
   cases aau d<;>rfl
  ·rw[awg h]
   simp only
   by_cases h1:k+1<=id
   ·rw[awh h1,awh (by omega)]
    have:id - k=(id - (k+1))+1:=by omega
    rw[this,ayL]
   ·rw[awg h1,awg (by omega)]
theorem abd {fl:List Dt} {k id:Nat} {e':Ent} {h0:Nat->Option Ent} (hn:h0 id=none) (h:over (BN k fl) h0 id=some e'):k<=id/\id - k<fl.length/\∃e l,fl[id - k]? =some ⟨.buf e,l⟩/\e'=⟨false,.arr e l⟩:=by
 unfold over at h;rw[Eh]at h;by_cases hk:k<=id
 ·rw[awh hk]at h;cases hf:fl[id - k]? with
  |none=>simp [hf,hn]at h
  |some d=>
   obtain⟨s,x⟩:=d;have hlt:=(axF.1 hf).1;cases s<;>simp [hf,aau,hn]at h
   exact⟨hk,hlt,_,_,rfl,h.symm⟩
 ·rw[awg hk]at h;simp [hn]at h
def TL (hp:Nat->Option Ent):Sh->AV->List Nat
 |.ro _,a=>(D7 hp a).2
 |.val _,.agg cs=>(jG hp cs).2
 |_,_=>[]
theorem ahz (hp:Nat->Option Ent) (a:AV):∀j∈(D7 hp a).2,(match a with | .mf id=>[id] | .ms id _ _=>[id] | _=>[]).contains j=true:=by
 intro j hj;unfold D7 at hj;split at hj
 ·split at hj<;>simp at hj;subst hj;simp
 ·split at hj<;>simp at hj;subst hj;simp
 ·simp at hj
theorem akZ (hp:Nat->Option Ent) (s:Sh) (a:AV):∀j∈TL hp s a,j∈O4 s a:=by
 intro j hj;cases s with
 |ro e=>
  have:=ahz hp a j hj;cases a<;>simp [O4]at this ⊢ <;>exact this
 |val e=>
  cases a with
  |agg cs=>
   have key:∀cs:List AV,∀j∈(jG hp cs).2,∃c∈cs,j∈(D7 hp c).2:=fun cs=>by
    induction cs with
    |nil=>intro j h;simp [jG]at h
    |cons c cs ih=>
     intro j h;simp only[jG,awt]at h;rcases h with h | h
     ·exact⟨c,by simp,h⟩
     ·obtain⟨c',h1,h2⟩:=ih j h;exact⟨c',by simp [h1],h2⟩
   obtain⟨c,h1,h2⟩:=key cs j hj;have:=ahz hp c j h2;simp only[O4,List.mem_flatMap];refine⟨c,h1,?_⟩;cases c<;>simp at this ⊢ <;>exact this
  |_=>simp [TL]at hj
 |_=>simp [TL]at hj
theorem asy (hp:Nat->Option Ent) (s:Sh) (a:AV):∀j∈TL hp s a,hp j≠none:=by
 intro j hj;cases s with
 |ro e=>exact JJ [a] j (by simp only[jG,axn];exact hj)
 |val e=>
  cases a with
  |agg cs=>exact JJ cs j hj
  |_=>simp [TL]at hj
 |_=>simp [TL]at hj
def apz (M N:Mem) (k:Nat) (a:AV):Dt->Prop
 |⟨.buf e,l⟩=>N.U k/\N.hp k=some ⟨false,.arr e l⟩/\N.β k=(match a with | .mf id=>M.β id | _=>none)
 |⟨.rf i,_⟩=>∀v,bT M (.mf i) v->bT N (.mf i) v
 |_=>True
section
variable {M M0 N:Mem} {hp:Nat->Option Ent}
theorem adZ (hp':∀id e,hp id=some e->M.hp id=some e) (hle:Le M M0) (h0:lJ M0) {k:Nat} {d:Dt} {a:AV} {v:Value} (hf:aoR hp M0 (TL hp d.1 a))
 (hNF:∀b,M0.F b->N.F b) (hNH:N.H=M0.H) (hH:M0.H=M.H) (hb:apz M N k a d) (hs:bT M a v) (hd:jb hp d.1 a=some d.2):bT N (encS k d.1 d.2) v:=by
 have hNH':∀b,M0.F b->N.H[b]? =M0.H[b]? :=fun b _=>by rw[hNH]
 obtain⟨s,x⟩:=d
 simp only at hd hf ⊢
 cases s with
 |int i=>
  cases a with
  |int k' n=>
   cases hk:(i == k')with
   |false=>simp [jb,hk]at hd
   |true=>
    have:=eq_of_beq hk
    subst this
    simp only[jb,hk,cond_true,awj]at hd
    subst hd
    cases hs
    exact .int _ _
  |_=>simp [jb]at hd
 |bool=>
  cases a with
  |bool b=>
   simp only[jb,awj]at hd
   subst hd
   cases hs
   exact .bool _
  |_=>simp [jb]at hd
 |str=>
  cases a with
  |str b=>
   simp only[jb,awj]at hd
   subst hd
   cases hs with | str s l hl=>exact .str s _ hl
  |_=>simp [jb]at hd
 |ro e=>
  have key:∀ {l:List (den e)} {ex:Bool},(D7 hp a).1= .ro e l ex->x=l->bT N (.ro e x false) v:=fun {l ex} h1 h2=>by
   have:=UA hp' hle h0 hf hs
   rw[h1]at this
   subst h2
   exact(anF this).data hNF hNH' rfl
  cases a with
  |nils=>
   simp only[jb,awj]at hd
   subst hd
   cases hs
   exact .roE _ _ _ _ (by simp)
  |ro e' l ex=>
   simp only[jb]at hd
   split at hd
   ·rename_i h;subst h
    simp only[awj]at hd
    exact key (l:=l) (ex:=ex) rfl hd.symm
   ·cases hd
  |mf id=>
   simp only[jb]at hd
   split at hd
   ·rename_i fz e' l he
    split at hd
    ·rename_i h;subst h
     simp only[awj]at hd
     exact key (l:=l) (ex:=false) (by simp [D7,he]) hd.symm
    ·cases hd
   ·cases hd
  |ms id off n=>
   simp only[jb]at hd
   split at hd
   ·rename_i fz e' l he
    split at hd
    ·rename_i h;subst h
     simp only[awj]at hd
     exact key (l:=aV (bZ l off) n) (ex:=false) (by simp [D7,he]) hd.symm
    ·cases hd
   ·cases hd
  |_=>simp [jb]at hd
 |val e=>
  cases a with
  |agg cs=>
   simp only[jb]at hd
   obtain⟨hl,hw⟩:=Ec e _ x hd
   cases hs with
   |agg cs vs hn h1 hh=>
    have hsz:vs.size=esz e:=by rw[hn,<-Am (hp:=hp) cs];exact hl
    have hss:=Zd hp' hle h0 hf (f:=fun j=>vs.getD j undef) (fun j hj=>by
     have hj':j<vs.size:=hn▸hj
     simp only[Array.getD,hj',awJ]
     exact hh j hj hj')
    have:bT M0 (.agg (cells e x)) (.agg vs):=by
     refine .agg _ _ (by rw[xQ];exact hsz) h1 fun j h h'=> ?_
     have hj:j<(jG hp cs).1.length:=by rw[hl,<-xQ e x];exact h
     have g:=hss j hj
     simp only[Array.getD,h',awJ]at g
     rw[<-vG _ _ hj]at g
     rw[<-vG _ _ h]
     exact(hw j (by rw[<-hl];exact hj)).sees g
    exact this.dataAgg hNF hNH' (acn e x)
  |_=>simp [jb]at hd
 |rf i=>
  cases a with
  |mf j=>
   cases hk:Nat.beq i j with
   |false=>simp [jb,hk]at hd
   |true=>
    have:=aws hk
    subst this
    exact hb v hs
  |_=>simp [jb]at hd
 |fnv f=>
  cases a with
  |fn g cs=>
   cases cs with
   |cons c cs=>simp [jb]at hd
   |nil=>
    cases hk:Nat.beq f g with
    |false=>simp [jb,hk]at hd
    |true=>
     have:=aws hk
     subst this
     cases hs with
     |fn _ _ vs hn hh=>exact .fn f [] vs hn fun i h _=>by simp at h
  |_=>simp [jb]at hd
 |buf e=>
  cases a with
  |nils=>
   simp only[jb,awj]at hd
   subst hd
   cases hs
   obtain⟨b1,b2,b3⟩:=hb
   refine .mf k _ b1 rfl fun e' he=> ?_
   rw[b2]at he;cases he
   exact⟨false,e,[],none,0,rfl,rfl,awk _,by unfold xE;rw[b3];exact⟨rfl,rfl⟩⟩
  |mf id=>
   simp only[jb]at hd
   split at hd
   ·rename_i e' l he
    split at hd
    ·rename_i h;subst h
     simp only[awj]at hd
     subst hd
     obtain⟨b1,b2,b3⟩:=hb
     cases hs with | mf id v hU hv hh=>
     obtain⟨fz',t,l',ad,cap,heq,rfl,hc,hsl⟩:=hh _ (hp' _ _ he)
     cases heq
     refine .mf k _ b1 rfl fun e2 he2=> ?_
     rw[b2]at he2;cases he2
     refine⟨false,e',l,ad,cap,rfl,rfl,hc,?_⟩
     unfold xE at*
     rw[b3,hNH,hH]
     exact hsl
    ·cases hd
   ·cases hd
  |_=>simp [jb]at hd
theorem xM:∀ {a b:List Nat},PO (a++b)=true->PO a=true/\PO b=true/\∀i∈a,i∉b
 |[],b,h=>⟨rfl,h,fun i h=>by cases h⟩
 |x::a,b,h=>by
  simp only[axa,PO,awp,ax0]at h
  obtain⟨h1,h2⟩:=h
  obtain⟨g1,g2,g3⟩:=xM h2
  rw[List.any_append,ayV]at h1
  refine⟨by simp [PO,h1.1,g1],g2,fun i hi hb=> ?_⟩
  rcases aww.1 hi with rfl | hi
  ·have:b.any (fun j=>Nat.beq i j)=true:=axi.2 ⟨i,hb,by simp⟩
   rw[this]at h1;cases h1.2
  ·exact g3 i hi hb
theorem X9 {f:Sh->AV->List Nat}:∀ {l:List Sh} {bs:List AV} {j i:Nat} {s:Sh} {a:AV},l[j]? =some s->bs[j]? =some a->i∈f s a->i∈iR f l bs
 |[],_,j,i,s,a,h,_,_=>by simp at h
 |_::_,[],j,i,s,a,_,h,_=>by simp at h
 |x::l,y::bs,0,i,s,a,h1,h2,h3=>by
  simp at h1 h2;subst h1;subst h2
  exact awM _ h3
 |x::l,y::bs,j+1,i,s,a,h1,h2,h3=>awD _ (X9 (j:=j) (by simpa using h1) (by simpa using h2) h3)
theorem ali {f:Sh->AV->List Nat}:∀ {l:List Sh} {bs:List AV},PO (iR f l bs)=true->∀ {j j' i:Nat} {s s':Sh} {a a':AV},l[j]? =some s->bs[j]? =some a->i∈f s a->l[j']? =some s'->bs[j']? =some a'->i∈f s' a'->j=j'
 |[],_,_,j,_,_,_,_,_,_,h,_,_,_,_,_=>by simp at h
 |_::_,[],_,j,_,_,_,_,_,_,_,h,_,_,_,_=>by simp at h
 |x::l,y::bs,hd,j,j',i,s,s',a,a',h1,h2,h3,k1,k2,k3=>by
  obtain⟨g1,g2,g3⟩:=xM (a:=f x y) (b:=iR f l bs) hd
  cases j with
  |zero=>
   simp at h1 h2;subst h1;subst h2
   cases j' with
   |zero=>rfl
   |succ j'=>exact absurd (X9 (j:=j') (by simpa using k1) (by simpa using k2) k3) (g3 i h3)
  |succ j=>
   cases j' with
   |zero=>
    simp at k1 k2;subst k1;subst k2
    exact absurd (X9 (j:=j) (by simpa using h1) (by simpa using h2) h3) (g3 i k3)
   |succ j'=>exact axg (· +1) (ali g2 (j:=j) (j':=j') (by simpa using h1) (by simpa using h2) h3 (by simpa using k1) (by simpa using k2) k3)
theorem Gf {own frz:List Nat} (h:LQ own frz=true):PO own=true/\∀i∈own,i∉frz:=by
 unfold LQ at h;simp only[awp,ax0]at h;exact⟨h.1,fun i hi=>Tj h.2 hi⟩
theorem FX {hp:Nat->Option Ent} {e:E} {l:List (den e)} {a:AV} (h:jb hp (.buf e) a=some l):(a= .nils/\l=[])\/∃id,a= .mf id/\hp id=some ⟨false,.arr e l⟩:=by
 cases a with
 |nils=>
  simp only[jb,awj]at h;exact .inl ⟨rfl,h.symm⟩
 |mf id=>
  simp only[jb]at h;split at h
  ·rename_i e' l' he;split at h
   ·rename_i hh;subst hh;simp only[awj]at h;subst h;exact .inr ⟨id,rfl,he⟩
   ·cases h
  ·cases h
 |_=>simp [jb]at h
end
theorem yL {own:List Nat}:∀ {l:List Nat} {j:Nat},j∈without own l↔j∈l/\j∉own
 |[],j=>by simp [without]
 |i::r,j=>by
  rw[without]
  cases h:own.any (fun k=>Nat.beq i k)with
  |true=>
   obtain⟨k,h1,h2⟩:=axi.1 h
   have:=aws h2
   subst this
   simp only[cond_true,yL (l:=r),aww]
   constructor
   ·exact fun⟨a,b⟩=>⟨.inr a,b⟩
   ·rintro⟨rfl | a,b⟩
    ·exact absurd h1 b
    ·exact⟨a,b⟩
  |false=>
   have hn:i∉own:=fun hi=>by
    have:own.any (fun k=>Nat.beq i k)=true:=axi.2 ⟨i,hi,by simp⟩
    rw[this]at h;cases h
   simp only[cond_false,aww,yL (l:=r)]
   constructor
   ·rintro(rfl | ⟨a,b⟩)
    ·exact⟨.inl rfl,hn⟩
    ·exact⟨.inr a,b⟩
   ·rintro⟨rfl | a,b⟩
    ·exact .inl rfl
    ·exact .inr ⟨a,b⟩
theorem aq5 (hp:Nat->Option Ent) (a:AV):∀j∈(anS hp a).2,hp j≠none:=fun j hj=>by
 cases a with
 |agg cs=>exact JJ cs j hj
 |_=>exact JJ [_] j (by simp only[jG,axn];exact hj)
theorem Tq (hp:Nat->Option Ent):∀(l:List AV),∀j∈LX hp l,hp j≠none
 |[],j,h=>by simp [LX]at h
 |a::r,j,h=>by
  rcases awt.1 (by rw[LX]at h;exact h)with h | h
  ·exact aq5 hp a j h
  ·exact Tq hp r j h
theorem ahh (hp:Nat->Option Ent):∀ {l:List AV} {k j:Nat} {a:AV},l[k]? =some a->j∈(anS hp a).2->j∈LX hp l
 |[],k,j,a,h,_=>by simp at h
 |b::r,0,j,a,h,hj=>by simp at h;subst h;exact awM _ hj
 |b::r,k+1,j,a,h,hj=>awD _ (ahh hp (k:=k) (by simpa using h) hj)
theorem amN (hp:Nat->Option Ent) (s:Sh) (a:AV):∀j∈TL hp s a,j∈(anS hp a).2:=fun j hj=>by
 cases s with
 |ro e=>
  cases a with
  |agg cs=>simp [TL,D7]at hj
  |_=>exact hj
 |val e=>
  cases a with
  |agg cs=>exact hj
  |_=>simp [TL]at hj
 |_=>simp [TL]at hj
def Jw (hp:Nat->Option Ent):List Sh->List AV->List Nat
 |s::r,a::bs=>TL hp s a++Jw hp r bs
 |_,_=>[]
theorem Ro (hp:Nat->Option Ent):∀(l:List Sh) (bs:List AV),∀j∈Jw hp l bs,hp j≠none
 |[],_,j,h=>by simp [Jw]at h
 |_::_,[],j,h=>by simp [Jw]at h
 |s::r,a::bs,j,h=>by
  rcases awt.1 (by rw[Jw]at h;exact h)with h | h
  ·exact asy hp s a j h
  ·exact Ro hp r bs j h
theorem KW (hp:Nat->Option Ent):∀ {l:List Sh} {bs:List AV} {k j:Nat} {s:Sh} {a:AV},l[k]? =some s->bs[k]? =some a->j∈TL hp s a->j∈Jw hp l bs
 |[],_,k,j,s,a,h,_,_=>by simp at h
 |_::_,[],k,j,s,a,_,h,_=>by simp at h
 |s'::r,b::bs,0,j,s,a,h1,h2,hj=>by simp at h1 h2;subst h1;subst h2;exact awM _ hj
 |s'::r,b::bs,k+1,j,s,a,h1,h2,hj=>awD _ (KW hp (k:=k) (by simpa using h1) (by simpa using h2) hj)
theorem Gq (hp:Nat->Option Ent):∀(l:List Sh) (bs:List AV),∀j∈Jw hp l bs,j∈iR O4 l bs
 |[],_,j,h=>by simp [Jw]at h
 |_::_,[],j,h=>by simp [Jw]at h
 |s::r,a::bs,j,h=>by
  rcases awt.1 (by rw[Jw]at h;exact h)with h | h
  ·exact awM _ (akZ hp s a j h)
  ·exact awD _ (Gq hp r bs j h)
theorem qG {l:List Sh} {x:Tup l} {j:Nat} {d:Dt} (h:(flat l x)[j]? =some d):l[j]? =some d.1:=by
 conv=>lhs;rw[<-RP l x]
 rw[List.getElem?_map,h];rfl
def CY (fl:List Dt) (bs:List AV) (k j:Nat):Option Nat:=
 if k<=j then (match fl[j - k]?, bs[j - k]? with
  |some ⟨.buf _,_⟩,some (.mf id)=>some id
  |_,_=>none)else none
theorem XZ {fl:List Dt} {bs:List AV} {k j id:Nat} (h:CY fl bs k j=some id):k<=j/\∃e l,fl[j - k]? =some ⟨.buf e,l⟩/\bs[j - k]? =some (.mf id):=by
 unfold CY at h;by_cases hk:k<=j
 ·rw[awh hk]at h;split at h
  ·rename_i e l id' h1 h2;cases h;exact⟨hk,e,l,h1,h2⟩
  ·cases h
 ·rw[awg hk]at h;cases h
theorem KZ {fl:List Dt} {bs:List AV} {k j id:Nat} {e:E} {l:List (den e)} (hk:k<=j) (h1:fl[j - k]? =some ⟨.buf e,l⟩) (h2:bs[j - k]? =some (.mf id)):CY fl bs k j=some id:=by
 unfold CY;rw[awh hk,h1,h2]
theorem Ed {fl:List Dt} {bs:List AV} {k j:Nat} (h2:bs[j - k]? =some .nils):CY fl bs k j=none:=by
 unfold CY;by_cases hk:k<=j
 ·rw[awh hk,h2];split
  ·rename_i h;cases h
  ·rfl
 ·rw[awg hk]
theorem JU {l:List Sh} {x:Tup l} {bs:List AV} {k j id:Nat} (h:CY (flat l x) bs k j=some id):id∈iR jX l bs/\l[j - k]? ≠none:=by
 obtain⟨hk,e,y,h1,h2⟩:=XZ h;have h3:=qG h1;exact⟨X9 h3 h2 (by simp [jX]),by rw[h3];simp⟩
theorem XO {l:List Sh} {x:Tup l} {bs:List AV} {k j j' id:Nat} (hd:PO (iR jX l bs)=true) (h:CY (flat l x) bs k j=some id) (h':CY (flat l x) bs k j'=some id):j=j':=by
 obtain⟨hk,e,y,h1,h2⟩:=XZ h;obtain⟨hk',e',y',h1',h2'⟩:=XZ h';have:=ali (f:=jX) hd (i:=id) (qG h1) h2 (by simp [jX]) (qG h1') h2' (by simp [jX]);omega
def atG:Sh->Bool
 |.int _ | .bool | .str=>true
 |_=>false
theorem aqJ {hp:Nat->Option Ent} {k:Nat} {d:Dt} {a:AV} (hs:atG d.1=true) (h:jb hp d.1 a=some d.2):encS k d.1 d.2=a/\dt a=true:=by
 obtain⟨s,x⟩:=d;simp only at h hs ⊢;cases s with
 |int i=>
  cases a with
  |int k' n=>
   cases hk:(i == k')with
   |false=>simp [jb,hk]at h
   |true=>
    have:=eq_of_beq hk;subst this;simp only[jb,hk,cond_true,awj]at h;subst h;exact⟨rfl,rfl⟩
  |_=>simp [jb]at h
 |bool=>
  cases a with
  |bool b=>simp only[jb,awj]at h;subst h;exact⟨rfl,rfl⟩
  |_=>simp [jb]at h
 |str=>
  cases a with
  |str b=>simp only[jb,awj]at h;subst h;exact⟨rfl,rfl⟩
  |_=>simp [jb]at h
 |_=>cases hs
theorem afc {M N:Mem} {vs us:List AV} {v:Value} (hs:bT M (oneOf vs) v) (hl:us.length=vs.length) (h:∀(j:Nat) (a b:AV) (w:Value),vs[j]? =some a->us[j]? =some b->bT M a w->bT N b w):bT N (oneOf us) v:=by
 match vs,us,hl with
 |[],[],_=>cases hs with | tup _ ws hn _=>exact .tup _ ws hn fun i h _=>by simp at h
 |[a],[b],_=>exact h 0 a b v rfl rfl hs
 |a::a2::vs,b::b2::us,hl=>
  cases hs with
  |tup _ ws hn hh=>
   refine .tup _ ws (by rw[hn];simpa using hl.symm) fun i h1 h2=> ?_;have h3:i<(a::a2::vs).length:=hn▸h2;exact h i _ _ _ (awL h3) (awL h1) (hh i h3 h2)
section
variable {M N0 M1 V N:Mem} {w w':World} {σ:Nat->Option Nat} {K:Nat->Prop}
theorem auD (hM:lJ M) (hH:M.H=w.heap) (hF:∀b,M.F b->b<w.heap.size) {ids:List Nat} {hp:Nat->Option Ent} (hp':∀id e,hp id=some e->M.hp id=some e) (st0:Stp M w N0 w) (h0p:∀j,N0.hp j=over (freeze hp ids) M.hp j) (hids:∀i∈ids,hp i≠none) (h0β:N0.β=M.β)
 (vw:View N0 M1 σ) (tr:Trk K M1 w V w') {ρ:Nat->Option Nat} (nU:∀id,M.U id->N.U id) (nH:N.H=w'.heap) (nF:∀b,N.F b↔M.F b)
 (nb:∀j e',N.hp j=some e'->(M.hp j=some e'/\N.β j=M.β j/\∀k e1,M1.hp k=some e1->e1.fz=false->σ k=some j->j∈ids)\/
   (¬M.U j/\N.U j/\((∃q,ρ j=some q/\V.hp q=some e'/\e'.fz=false/\N.β j=V.β q/\∀c,xC V e'.b c->xC N e'.b c)\/(N.β j=none/\∃fz t,e'=⟨fz,.arr t []⟩))))
 (ni:∀j j' q,ρ j=some q->ρ j'=some q->j=j'):Stp M w N w':=by
 have h0:=st0.hrel
 have hH0:=st0.H
 have key:∀ {j e' b},M.hp j=some e'->(∀k e1,M1.hp k=some e1->e1.fz=false->σ k=some j->j∈ids)->M.β j=some b->¬Own M1 b/\w'.heap[b]? =w.heap[b]? /\b<w.heap.size:=fun {j e' b} h1 h2 hb=>by
  by_cases hj:j∈ids
  ·have:N0.hp j=some ⟨true,e'.b⟩:=by
    rw[h0p,over,ku,awh hj]
    cases hq:hp j with
    |none=>exact absurd hq (hids j hj)
    |some e=>rw[hp' j e hq]at h1;cases h1;rfl
   obtain⟨g1,g2,g3,_⟩:=stays h0 hH0 vw tr this (fun h=>by cases h) (by rw[h0β];exact hb)
   exact⟨g1,g2,g3⟩
  ·have:N0.hp j=some e':=by rw[h0p,over,ku,awg hj];exact h1
   obtain⟨g1,g2,g3,_⟩:=stays h0 hH0 vw tr this (fun _ k e1 hk hk' hs=>hj (h2 k e1 hk hk' hs)) (by rw[h0β];exact hb)
   exact⟨g1,g2,g3⟩
 have hle:Le M N:=by
  refine⟨nU,fun b hb=>(nF b).2 hb,fun b hb=> ?_,fun j e' hU he=> ?_,fun j b n hU hne hb hn=> ?_⟩
  ·rw[nH,<-tr.H,tr.FH b ((vw.F b).2 (st0.le.F b hb)),vw.H,hH0,hH]
  ·rcases nb j e' he with ⟨h1,h2,_⟩ | ⟨h1,_⟩
   ·exact⟨e',h1,eU.refl _,h2⟩
   ·exact absurd hU h1
  ·cases he:N.hp j with
   |none=>exact absurd he hne
   |some e'=>
    rcases nb j e' he with ⟨h1,h2,h3⟩ | ⟨h1,_⟩
    ·have:=(key h1 h3 hb).2.1
     unfold bsize at*
     rw[nH,this,<-hH];exact hn
    ·exact absurd hU h1
 refine⟨hle,nH,lJ.mk' (hM.glob.le hle) (fun j e he=> ?_) (fun j e' he hb=> ?_) (fun j e' b he hb=> ?_) (fun j j' e e' b he he' hf hb hb'=> ?_),tr.os,tr.tape,tr.output,tr.size,fun b hb ho=> ?_,fun b hb=> ?_,fun b hb=> .inl ((nF b).1 hb),fun g b hb=>axf (g b ((nF b).1 hb)) tr.size⟩
 ·rcases nb j e he with ⟨h1,_⟩ | ⟨_,h1,_⟩
  ·exact nU _ (hM.used j e h1)
  ·exact h1
 ·rcases nb j e' he with ⟨h1,h2,_⟩ | ⟨_,_,⟨q,_,h1,_,h2,_⟩ | ⟨_,h1⟩⟩
  ·exact hM.nob j e' h1 (h2▸hb)
  ·exact tr.hrel.nob q e' h1 (h2▸hb)
  ·exact h1
 ·rcases nb j e' he with ⟨h1,h2,h3⟩ | ⟨_,_,⟨q,_,h1,h2,h3,h4⟩ | ⟨h1,_⟩⟩
  ·obtain⟨g1,g2,c,t,fr,g3,g4,g5⟩:=hM.is h1 (h2▸hb)
   exact⟨fun hf ha=>(nF b).2 (g1 hf ha),fun hf hb=>g2 hf ((nF b).1 hb),c,t,fr,by rw[nH,(key h1 h3 (h2▸hb)).2.1,<-hH];exact g3,g4,g5.le hle⟩
  ·obtain⟨g1,g2,c,t,fr,g3,g4,g5⟩:=tr.hrel.is h1 (h3▸hb)
   exact⟨fun hf=>(by rw[h2]at hf;cases hf),fun hf hb=>g2 hf (tr.F b ((vw.F b).2 (st0.le.F b ((nF b).1 hb)))),c,t,fr,by rw[nH,<-tr.H];exact g3,g4,h4 c g5⟩
  ·rw[h1]at hb;cases hb
 ·rcases nb j e he with ⟨h1,h2,h3⟩ | ⟨_,_,⟨q,h0',h1,h2,h3,h4⟩ | ⟨h1,_⟩⟩
  ·rcases nb j' e' he' with ⟨k1,k2,k3⟩ | ⟨_,_,⟨q,_,k1,k2,k3,k4⟩ | ⟨k1,_⟩⟩
   ·exact hM.inj j j' e e' b h1 k1 hf (h2▸hb) (k2▸hb')
   ·obtain⟨g1,_,g2⟩:=key h1 h3 (h2▸hb)
    rcases tr.own b ⟨q,e',k1,k2,k3▸hb'⟩with h | h
    ·exact absurd h g1
    ·omega
   ·rw[k1]at hb';cases hb'
  ·rcases nb j' e' he' with ⟨k1,k2,k3⟩ | ⟨_,_,⟨q',k0,k1,k2,k3,k4⟩ | ⟨k1,_⟩⟩
   ·obtain⟨g1,_,g2⟩:=key k1 k3 (k2▸hb')
    rcases tr.own b ⟨q,e,h1,h2,h3▸hb⟩with h | h
    ·exact absurd h g1
    ·omega
   ·have:=tr.hrel.inj q q' e e' b h1 k1 h2 (h3▸hb) (k3▸hb')
    subst this
    exact ni j j' q h0' k0
   ·rw[k1]at hb';cases hb'
  ·rw[h1]at hb;cases hb
 ·refine tr.old b hb fun h1=> ?_
  obtain⟨_,_,i,e0,_,_,_,k3,k4,k5⟩:=vw.own h1
  rcases st0.own b ⟨i,e0,k3,k4,k5⟩with h | h
  ·exact ho h
  ·omega
 ·obtain⟨j,e',h1,h2,h3⟩:=hb
  rcases nb j e' h1 with ⟨k1,k2,_⟩ | ⟨_,_,⟨q,_,k1,k2,k3,_⟩ | ⟨k1,_⟩⟩
  ·exact .inl ⟨j,e',k1,h2,k2▸h3⟩
  ·rcases tr.own b ⟨q,e',k1,k2,k3▸h3⟩with h | h
   ·obtain⟨_,_,i,e1,_,_,_,g3,g4,g5⟩:=vw.own h
    exact st0.own b ⟨i,e1,g3,g4,g5⟩
   ·exact .inr h
  ·rw[k1]at h3;cases h3
end
def am4:AV->Bool
 |.int _ _ | .bool _ | .str _=>true
 |_=>false
def ahJ:List AV->Bool
 |[]=>true
 |a::r=>am4 a&&ahJ r
def anN (e:E):Bool:=ahJ (cells e default)
theorem adp (e:E) (x:den e):ahJ (cells e x)=anN e:=by cases e<;>rfl
theorem ab3:∀(l:List AV) (k:Nat),ahJ l=true->k<l.length->am4 (nth l k)=true
 |[],k,_,hk=>by simp at hk
 |v::r,0,h,_=>by simp only[ahJ,awp]at h;exact h.1
 |v::r,k+1,h,hk=>by
  simp only[ahJ,awp]at h
  exact ab3 r k h.2 (by simpa using hk)
theorem bT.plain {M N:Mem} {x:AV} {v:Value} (hs:bT M x v) (h:am4 x=true):bT N x v:=by
 cases hs with
 |int k n=>exact .int k n
 |bool b=>exact .bool b
 |str s l hl=>exact .str s l hl
 |_=>cases h
def ah4:Sh->Bool
 |.rf _=>false
 |_=>true
theorem anD {l:List Sh} {x:Tup l} (hl:l.all ah4=true) {j:Nat} {i:Nat} {z:Sh.T (.rf i)} (h:(flat l x)[j]? =some ⟨.rf i,z⟩):False:=by
 have:=awV.1 hl _ (axw (qG h));cases this
def Ze:Sh->Bool
 |.int _ | .bool | .str=>true
 |.buf e=>anN e
 |.val e=>anN e
 |_=>false
theorem bT.plainAgg {M N:Mem} {e:E} {x:den e} (h:anN e=true) {v:Value} (hs:bT M (.agg (cells e x)) v):bT N (.agg (cells e x)) v:=by
 generalize hcs:cells e x=cs at hs;cases hs with
 |agg cs vs hn h1 hh=>
  refine .agg cs vs hn h1 fun i h2 h'=>(hh i h2 h').plain ?_;rw[<-vG _ _ h2];exact ab3 _ _ (by rw[<-hcs,adp];exact h) h2
theorem aj9 {e:E} (h:Ze (.buf e)=true) {M N:Mem} {l:List (den e)} {c:Array Value} (hb:xC M (.arr e l) c):xC N (.arr e l) c:=
 ⟨hb.1,fun i k hi hk=>let ⟨v,h1,h2⟩:=hb.2 i k hi hk;⟨v,h1,h2.plain (ab3 _ _ (by rw[adp];exact h) (by rw[xQ];exact hk))⟩⟩
theorem aqB {M N:Mem} {hp:Nat->Option Ent} (hp':∀id e,hp id=some e->M.hp id=some e) (hH:N.H=M.H) {k:Nat} {e:E} {l:List (den e)} {a:AV} {v:Value} (hb:apz M N k a ⟨.buf e,l⟩) (hs:bT M a v) (hd:jb hp (.buf e) a=some l):bT N (.mf k) v:=by
 obtain⟨b1,b2,b3⟩:=hb;rcases FX hd with ⟨rfl,rfl⟩ | ⟨id,rfl,he⟩
 ·cases hs;refine .mf k _ b1 rfl fun e' he=> ?_;rw[b2]at he;cases he;exact⟨false,e,[],none,0,rfl,rfl,awk _,by unfold xE;rw[b3];exact⟨rfl,rfl⟩⟩
 ·cases hs with | mf id v hU hv hh=>
  obtain⟨fz',t,l',ad,cap,heq,rfl,hc,hsl⟩:=hh _ (hp' _ _ he);cases heq;refine .mf k _ b1 rfl fun e2 he2=> ?_;rw[b2]at he2;cases he2;refine⟨false,e,l,ad,cap,rfl,rfl,hc,?_⟩;unfold xE at*;rw[b3,hH];exact hsl
theorem am1 {l:List Sh} {x:Tup l} {k id:Nat} {fr:List (Nat×AV)} {clk:Nat}:FS.hp ⟨fr,Ij k l x,clk⟩ id=over (BN k (flat l x)) (fun _=>none) id:=by
 rw[A7];rfl
theorem wK {α:Type} {l:List α} {j:Nat} (h:j<l.length):∃d,l[j]? =some d:=⟨l[j],awL h⟩
theorem ZT:∀(l:List Nat) (j:Nat),look (dead l) j=if j∈l then some none else none
 |[],j=>rfl
 |q::l,j=>by
  simp only[dead,look]
  by_cases h:q=j
  ·subst h;simp
  ·rw[iL h]
   have:¬j=q:=fun e=>h e.symm
   simp [ZT l j,this]
theorem aq3 {hp:Nat->Option Ent} {rs:List Sh} {y:Tup rs} {i:Nat} (hrs:rs.length<=8) {own:List Nat} (hn:∀j,i<=j/\j<i+8->hp j=none) (j:Nat) (e':Ent) (he:over (Ij i rs y++(dead own++[])) hp j=some e'):
 (i<=j/\j<i+8/\j - i<(flat rs y).length/\∃e l,(flat rs y)[j - i]? =some ⟨.buf e,l⟩/\e'=⟨false,.arr e l⟩)\/(¬(i<=j/\j<i+8)/\j∉own/\hp j=some e'):=by
 have hlr:=IG rs y
 rw[ru,A7]at he
 by_cases hj:i<=j/\j<i+8
 ·have hz:over (dead own++[]) hp j=none:=by
   unfold over
   rw[axn,ZT]
   by_cases h:j∈own
   ·rw[awh h]
   ·rw[awg h];exact hn j hj
  obtain⟨_,q1,q2⟩:=abd hz he
  exact .inl ⟨hj.1,hj.2,q1,q2⟩
 ·refine .inr ⟨hj,?_⟩
  unfold over at he
  rw[Eh]at he
  have hno:(if i<=j then ((flat rs y)[j - i]?.bind aau).map some else none)=none:=by
   by_cases hij:i<=j
   ·rw[awh hij,List.getElem?_eq_none (by omega)];rfl
   ·rw[awg hij]
  rw[hno]at he
  simp only[axn,ZT]at he
  by_cases h:j∈own
  ·rw[awh h]at he;cases he
  ·rw[awg h]at he
   exact⟨h,he⟩
theorem avy {C:Cx} (K:CxR C) {f:Nat} (L:BA C f 1) {fn:Func} {b:Code} (hf:C.P.funcs[f]? =some fn) (hb:fn.body=some b) {xs rs:List Sh} {scal:Bool} {run:Tup xs->Option (Tup rs)}
 (hrun:∀x y,run x=some y->ahm C f xs rs x=some y) (hrs:rs.length<=8) (hxr:xs.all ah4=true) (hrr:rs.all ah4=true) (hsc:scal=true->rs.all Ze=true):bY C.P f (mkSpec xs rs scal run):=by
 intro M w hp args vals i (x:Tup xs) (y:Tup rs) hrel hH hF hnew hp' hn hs hdec hry
 have hdec:V9 xs hp args=some x:=hdec
 have hry:run x=some y:=hry
 unfold V9 at hdec
 cases hap:LQ (iR jX xs args) (iR O4 xs args)with
 |false=>simp [hap]at hdec
 |true=>
 simp only[hap,cond_true]at hdec
 obtain⟨hdup,hdis⟩:=Gf hap
 have hD:=Sm xs args x hdec
 have hlen:xs.length=args.length:=by rw[<-hD.len,IG]
 have hlt:f<4096:=axf (awG.1 hf).1 K.nf
 have hmod:f%4096=f:=by omega
 obtain⟨N0,st0,h0p,h0U,h0β,h0H⟩:=Jd (w:=w) hp' hrel hH (without (iR jX xs args) (LX hp args)) fun id hid=>Tq hp args id (yL.1 hid).1
 have hN0:=st0.hrel
 have frzd:∀(j:Nat) (d:Dt) (a:AV),(flat xs x)[j]? =some d->args[j]? =some a->aoR hp N0 (TL hp d.1 a):=fun j d a h1 h2 id hid=>aaT h0p id (yL.2 ⟨ahh hp h2 (amN hp _ _ id hid),fun ho=>hdis id ho (X9 (qG h1) h2 (akZ hp _ _ id hid))⟩)
 obtain⟨M1,hM1⟩:∃M1:Mem,M1={ U:=fun j=>j<args.length,F:=N0.F,β:=fun j=>(CY (flat xs x) args 0 j).bind M.β,hp:=fun id=>FS.hp ⟨[],Ij 0 xs x,0⟩ id,H:=N0.H }:=⟨_,rfl⟩
 have m1U:∀j,M1.U j↔j<args.length:=fun j=>by rw[hM1]
 have m1F:∀b,M1.F b↔N0.F b:=fun b=>by rw[hM1]
 have m1β:∀j,M1.β j=(CY (flat xs x) args 0 j).bind M.β:=fun j=>by rw[hM1]
 have m1p:∀j,M1.hp j=over (BN 0 (flat xs x)) (fun _=>none) j:=fun j=>by rw[hM1];exact am1
 have m1H:M1.H=N0.H:=by rw[hM1]
 clear hM1
 have own0:∀id e,id∈iR jX xs args->hp id=some e->N0.hp id=some e:=fun id e ho he=>by
  rw[h0p,over,ku,awg (fun hm=>(yL.1 hm).2 ho)]
  exact hp' id e he
 have vw:View N0 M1 (CY (flat xs x) args 0):=by
  refine⟨m1H,m1F,fun j e' he=> ?_,fun j j' id e h1 h2 _ _ _ _=>XO hdup h1 h2⟩
  rw[m1p]at he
  obtain⟨_,hj,e,l,h1,rfl⟩:=abd rfl he
  have hja:j - 0<args.length:=by rw[<-hD.len];exact hj
  obtain⟨a,ha⟩:=wK hja
  refine⟨(m1U j).2 (by omega),?_⟩
  have hdb:=hD.get _ _ _ h1 ha
  rcases FX hdb with ⟨rfl,rfl⟩ | ⟨id,rfl,he2⟩
  ·have:=Ed (fl:=flat xs x) (k:=0) ha
   exact .inl ⟨this,by rw[m1β,this];rfl,_,_,rfl⟩
  ·have hsrc:=KZ (awm j) h1 ha
   exact .inr (.inl ⟨id,_,hsrc,own0 id _ (JU hsrc).1 he2,by rw[m1β,hsrc,h0β];rfl,.inl rfl,rfl⟩)
 have hM1r:=vw.hrel hN0
 have hM1H:M1.H=w.heap:=m1H.trans st0.H
 have hM1F:∀b,M1.F b->b<w.heap.size:=fun b hb=>st0.Fsz hF b ((m1F b).1 hb)
 have eT:=Ah xs 0 x
 have hseen:∀j,(h:j<(Cb 0 xs x).length)->(h':j<vals.size)->bT M1 (Cb 0 xs x)[j] vals[j]:=fun j h h'=>by
  have hj:j<(flat xs x).length:=by rw[<-tY (flat xs x) 0,<-eT];exact h
  obtain⟨d,hd⟩:=wK hj
  have hja:j<args.length:=hn▸h'
  obtain⟨a,ha⟩:=wK hja
  have e1:(Cb 0 xs x)[j]=encS (0+j) d.1 d.2:=by
   have:=SE (flat xs x) 0 j d hd
   rw[<-eT,awL h]at this
   exact awr this
  rw[e1]
  have hsa:bT M a vals[j]:=by
   have:=hs j hja h'
   rw[awL hja]at ha
   cases ha;exact this
  refine adZ hp' st0.le hN0 (frzd j d a hd ha) (fun b hb=>(m1F b).2 hb) m1H (by rw[st0.H,hH]) ?_ hsa (hD.get _ _ _ hd ha)
  obtain⟨s,z⟩:=d
  cases s with
  |buf e=>
   have hhp:M1.hp (0+j)=some ⟨false,.arr e z⟩:=by
    rw[m1p,over,Eh,awh (awm _)]
    simp [hd,aau]
   refine⟨(m1U _).2 (by omega),hhp,?_⟩
   rw[m1β]
   have hdb:=hD.get _ _ _ hd ha
   rcases FX hdb with ⟨rfl,_⟩ | ⟨id,rfl,he2⟩
   ·rw[Ed (by simpa using ha)];rfl
   ·rw[KZ (awm _) (by simpa using hd) (by simpa using ha)];rfl
  |rf q=>exact(anD hxr hd).elim
  |_=>trivial
 have hlen2:(Cb 0 xs x).length=args.length:=by rw[eT,tY,IG,hlen]
 obtain⟨hB1,hR1⟩:=agJ (M:=M1) (w:=w) hM1r hM1H hM1F (clk:=(Cb 0 xs x).length) (fun id h=>by have:=(m1U id).1 h;omega) (h:=Ij 0 xs x) (args:=Cb 0 xs x) (vals:=vals)
  (fun id=>by rw[m1p,am1]) (by rw[hn,hlen2]) hseen fn.ntmps
 have hrf:=hrun x y hry
 unfold ahm atq at hrf
 simp only[hf,hb]at hrf
 refine .inl ⟨Ou K hf hb vals w,?_⟩
 refine calls_of_wp hf hb (V4 (ZQ K 1000 y f 1 b _ _ hrf _ hB1 (by rw[hmod,atI hf];exact awk _) ⟨awk _,0,by omega,by rw[hmod,anb hf hb];rfl⟩ L (Keeps.no _ fun _ h=>h) M1 _ w hR1 _ fun e A2 N1 a2 w2 he R2=> ?_))
 have fin:∀vs,Zj C.P A2 fn.results.toList=some vs->V9 rs A2.hp vs=some y->bodyPost C.P fn (fun e w'=>∃v,e= .returned v/\∃N,Stp M w N w'/\(∀id,N.hp id=over ((mkSpec xs rs scal run).upd args y++((mkSpec xs rs scal run).blk i y++(dead ((mkSpec xs rs scal run).own args)++freeze hp (afR scal ((mkSpec xs rs scal run).own args) hp args)))) M.hp id)/\
  bT N ((mkSpec xs rs scal run).enc i y) v/\(∀id,N.U id->M.U id\/(i<=id/\id<i+8))) .normal a2 w2:=fun vs hr hdr=>by
  obtain⟨v,g1,g2⟩:=ad9 (P:=C.P) R2.stp.hrel R2.stp.H R2.fr R2.hp hr
  refine⟨R2.df,v,g1,v,rfl,?_⟩
  unfold V9 at hdr
  cases hap2:LQ (iR jX rs vs) (iR O4 rs vs)with
  |false=>simp [hap2]at hdr
  |true=>
  simp only[hap2,cond_true]at hdr
  obtain⟨hdup2,hdis2⟩:=Gf hap2
  have hD2:=Sm rs vs y hdr
  have hlr:(flat rs y).length=rs.length:=IG rs y
  have hlv:rs.length=vs.length:=by rw[<-hlr,hD2.len]
  have hp2:∀id e,A2.hp id=some e->N1.hp id=some e:=fun id e h=>by rw[R2.hp];exact h
  obtain⟨N2,st2,h2p,h2U,h2β,h2H⟩:=Jd (w:=w2) hp2 R2.stp.hrel R2.stp.H (Jw A2.hp rs vs) (Ro _ _ _)
  have tr:Trk (fun _=>False) M1 w N2 w2:=(Stp.trk R2.stp fun _ h=>h.elim).trans (Stp.trk st2 fun _ h=>h.elim)
  have eT2:=Ah rs i y
  have hset:∀id,i<=id->id<i+8->¬M.U id:=hnew
  have hM1own:∀k,M1.hp k≠none->∀j,CY (flat xs x) args 0 k=some j->j∈iR jX xs args:=fun k _ j h=>(JU h).1
  have look_dead:∀(l:List Nat) (j:Nat),look (dead l) j=if j∈l then some none else none:=fun l=>by
   induction l with
   |nil=>intro j;rfl
   |cons q l ih=>
    intro j
    simp only[dead,look]
    by_cases h:q=j
    ·subst h;simp
    ·rw[iL h]
     have:¬j=q:=fun e=>h e.symm
     simp [ih,this]
  cases hscal:scal with
  |true=>
   have hall:=hsc hscal
   obtain⟨N,hN⟩:∃N:Mem,N={ U:=fun id=>M.U id\/(i<=id/\id<i+8),F:=M.F,β:=(fun j=>if i<=j/\j<i+8 then (CY (flat rs y) vs i j).bind N2.β else M.β j),hp:=over (Ij i rs y++(dead (iR jX xs args)++[])) M.hp,H:=w2.heap }:=⟨_,rfl⟩
   have nU:∀id,N.U id↔M.U id\/(i<=id/\id<i+8):=fun id=>by rw[hN]
   have nF:∀b,N.F b↔M.F b:=fun b=>by rw[hN]
   have nβ:∀j,N.β j=if i<=j/\j<i+8 then (CY (flat rs y) vs i j).bind N2.β else M.β j:=fun j=>by rw[hN]
   have np:∀j,N.hp j=over (Ij i rs y++(dead (iR jX xs args)++[])) M.hp j:=fun j=>by rw[hN]
   have nH:N.H=w2.heap:=by rw[hN]
   clear hN
   have own2:∀id e,id∈iR jX rs vs->A2.hp id=some e->N2.hp id=some e:=fun id e ho he=>by
    rw[h2p,over,ku,awg (fun hm=>hdis2 id ho (Gq _ _ _ id hm))]
    exact hp2 id e he
   have usedM:∀j e,M.hp j=some e->¬(i<=j/\j<i+8):=fun j e he hj=>hnew j hj.1 hj.2 (hrel.used j e he)
   have cl:=aq3 (hp:=M.hp) (y:=y) (i:=i) hrs (own:=iR jX xs args) (fun j hj=>by
    cases hh:M.hp j with
    |none=>rfl
    |some e=>exact absurd hj (usedM j e hh))
   have plain:∀(j:Nat) (d:Dt),(flat rs y)[j]? =some d->Ze d.1=true:=fun j d hd=>awV.1 hall _ (axw (qG hd))
   have st:Stp M w N w2:=auD (ρ:=CY (flat rs y) vs i) hrel hH hF hp' st0 h0p (fun id hid=>Tq hp args id (yL.1 hid).1) h0β vw tr (fun id h=>(nU id).2 (.inl h)) nH nF (fun j e' he=>by
    rw[np]at he
    rcases cl j e' he with ⟨h1,h2,q1,e,l,q2,rfl⟩ | ⟨h1,h2,h3⟩
    ·refine .inr ⟨hnew j h1 h2,(nU j).2 (.inr ⟨h1,h2⟩),?_⟩
     have hjv:j - i<vs.length:=by rw[<-hlv,<-hlr];exact q1
     obtain⟨a,ha⟩:=wK hjv
     rcases FX (hD2.get _ _ _ q2 ha)with ⟨rfl,rfl⟩ | ⟨id,rfl,he2⟩
     ·have:=Ed (fl:=flat rs y) (k:=i) ha
      exact .inr ⟨by rw[nβ,awh ⟨h1,h2⟩,this];rfl,_,_,rfl⟩
     ·have hsrc:=KZ h1 q2 ha
      exact .inl ⟨id,hsrc,own2 id _ (JU hsrc).1 he2,rfl,by rw[nβ,awh ⟨h1,h2⟩,hsrc];rfl,fun c hc=>aj9 (plain _ _ q2) hc⟩
    ·exact .inl ⟨h3,by rw[nβ,awg h1],fun k e1 hk _ hs=>absurd (hM1own k (by rw[hk];simp) j hs) h2⟩) fun j j' q h1 h2=>XO hdup2 h1 h2
   refine⟨N,st,fun id=> ?_,?_,fun id h=>(nU id).1 h⟩
   ·rw[np];rfl
   ·show bT N (oneOf (Cb i rs y)) v
    refine afc g2 (by rw[eT2,tY,hlr,hlv]) fun j a b u ha hb hab=> ?_
    have hj:j<(flat rs y).length:=by
     have:=(axF.1 ha).1
     rw[hlr,hlv];exact this
    obtain⟨d,hd⟩:=wK hj
    have e1:=SE (flat rs y) i j d hd
    rw[<-eT2,hb]at e1
    cases e1
    have hpl:=plain j d hd
    have hdc:=hD2.get _ _ _ hd ha
    obtain⟨s,z⟩:=d
    have sc:atG s=true->bT N (encS (i+j) s z) u:=fun hsd=>by
     obtain⟨e2,_⟩:=aqJ (k:=i+j) (d:=⟨s,z⟩) hsd hdc
     have e2:encS (i+j) s z=a:=e2
     have hf:am4 (encS (i+j) s z)=true:=by cases s<;>first | rfl | cases hsd
     rw[<-e2]at hab
     exact hab.plain hf
    cases s with
    |int k=>exact sc rfl
    |bool=>exact sc rfl
    |str=>exact sc rfl
    |buf e=>
     have hij:i<=i+j/\i+j<i+8:=by omega
     have e0:i+j - i=j:=by omega
     refine aqB hp2 (by rw[nH,R2.stp.H]) ⟨(nU _).2 (.inr hij),?_,?_⟩ hab hdc
     ·rw[np,ru,A7,over,Eh,awh hij.1,e0]
      simp [hd,aau]
     ·rw[nβ,awh hij]
      rcases FX hdc with ⟨rfl,_⟩ | ⟨id,rfl,he2⟩
      ·rw[Ed (by rw[e0];exact ha)];rfl
      ·rw[KZ hij.1 (by rw[e0];exact hd) (by rw[e0];exact ha)]
       show N2.β id=N1.β id
       rw[h2β]
    |val e=>
     have g:bT N2 (encS (i+j) (.val e) z) u:=adZ (d:=⟨.val e,z⟩) hp2 st2.le st2.hrel (fun id hid=>aaT h2p id (KW (s:= .val e) _ (qG hd) ha hid)) (fun _ h=>h) rfl (by rw[st2.H,R2.stp.H]) trivial hab hdc
     exact bT.plainAgg (e:=e) (x:=z) hpl g
    |ro e=>cases hpl
    |fnv f=>cases hpl
    |rf q=>cases hpl
  |false=>
   obtain⟨N,hN⟩:∃N:Mem,N={ U:=fun id=>M.U id\/(i<=id/\id<i+8),F:=N2.F,β:=(fun j=>if i<=j/\j<i+8 then (CY (flat rs y) vs i j).bind N2.β else M.β j),hp:=over (Ij i rs y++(dead (iR jX xs args)++freeze hp (without (iR jX xs args) (LX hp args)))) M.hp,H:=w2.heap }:=⟨_,rfl⟩
   have nU:∀id,N.U id↔M.U id\/(i<=id/\id<i+8):=fun id=>by rw[hN]
   have nF:∀b,N.F b↔N2.F b:=fun b=>by rw[hN]
   have nβ:∀j,N.β j=if i<=j/\j<i+8 then (CY (flat rs y) vs i j).bind N2.β else M.β j:=fun j=>by rw[hN]
   have np:∀j,N.hp j=over (Ij i rs y++(dead (iR jX xs args)++freeze hp (without (iR jX xs args) (LX hp args)))) M.hp j:=fun j=>by rw[hN]
   have nH:N.H=w2.heap:=by rw[hN]
   clear hN
   have own2:∀id e,id∈iR jX rs vs->A2.hp id=some e->N2.hp id=some e:=fun id e ho he=>by
    rw[h2p,over,ku,awg (fun hm=>hdis2 id ho (Gq _ _ _ id hm))]
    exact hp2 id e he
   have usedM:∀j e,M.hp j=some e->¬(i<=j/\j<i+8):=fun j e he hj=>hnew j hj.1 hj.2 (hrel.used j e he)
   have inside:∀j e',N.hp j=some e'->i<=j->j<i+8->j - i<(flat rs y).length/\∃e l,(flat rs y)[j - i]? =some ⟨.buf e,l⟩/\e'=⟨false,.arr e l⟩:=fun j e' he h1 h2=>by
    rw[np,ru,A7]at he
    have hz:over (dead (iR jX xs args)++freeze hp (without (iR jX xs args) (LX hp args))) M.hp j=none:=by
     have hMj:M.hp j=none:=by
      cases hh:M.hp j with
      |none=>rfl
      |some e=>exact absurd ⟨h1,h2⟩ (usedM j e hh)
     rw[ru]
     unfold over
     rw[look_dead]
     by_cases hj:j∈iR jX xs args
     ·rw[awh hj]
     ·rw[awg hj]
      simp only
      rw[ku]
      by_cases hj2:j∈without (iR jX xs args) (LX hp args)
      ·rw[awh hj2]
       have:=Tq hp args j (yL.1 hj2).1
       cases hh:hp j with
       |none=>exact absurd hh this
       |some e=>rw[hp' j e hh]at hMj;cases hMj
      ·rw[awg hj2];exact hMj
    obtain⟨_,q1,q2⟩:=abd hz he
    exact⟨q1,q2⟩
   have outside:∀j e',N.hp j=some e'->¬(i<=j/\j<i+8)->j∉iR jX xs args/\N0.hp j=some e':=fun j e' he hj=>by
    rw[np,ru,A7,Tv (fun hk=> ?_)]at he
    ·rw[ru]at he
     unfold over at he
     rw[look_dead]at he
     by_cases hjo:j∈iR jX xs args
     ·rw[awh hjo]at he;cases he
     ·rw[awg hjo]at he
      refine⟨hjo,?_⟩
      rw[h0p];exact he
    ·have hex:∃e,look (BN i (flat rs y)) j=some e:=by
      have:∀u:List (Nat×Option Ent),j∈keys u->∃e,look u j=some e:=fun u=>by
       induction u with
       |nil=>intro h;cases h
       |cons p u ih=>
        obtain⟨k,v⟩:=p
        intro hm
        simp only[look]
        cases hbq:Nat.beq k j with
        |true=>exact⟨v,rfl⟩
        |false=>
         simp only[keys,aww]at hm
         rcases hm with rfl | hm
         ·simp at hbq
         ·exact ih hm
      exact this _ hk
     obtain⟨e,he2⟩:=hex
     rw[Eh]at he2
     by_cases hij:i<=j
     ·rw[awh hij]at he2
      cases hfl:(flat rs y)[j - i]? with
      |none=>simp [hfl]at he2
      |some d=>
       have:=(axF.1 hfl).1
       exact hj ⟨hij,by omega⟩
     ·rw[awg hij]at he2;cases he2
   have srcIn:∀j q,CY (flat rs y) vs i j=some q->i<=j/\j<i+8:=fun j q h=>by
    obtain⟨h1,e,l,h2,_⟩:=XZ h
    have:=(axF.1 h2).1
    exact⟨h1,by omega⟩
   have st:Stp M w N w2:=merge (ρ:=CY (flat rs y) vs i) hrel hH hF st0 vw tr (fun id h=>(nU id).2 (.inl (h0U▸h))) nH nF (fun j e' he=>by
    by_cases hj:i<=j/\j<i+8
    ·refine⟨(nU j).2 (.inr hj),?_⟩
     obtain⟨q1,e,l,q2,rfl⟩:=inside j e' he hj.1 hj.2
     have hjv:j - i<vs.length:=by rw[<-hlv,<-hlr];exact q1
     obtain⟨a,ha⟩:=wK hjv
     rcases FX (hD2.get _ _ _ q2 ha)with ⟨rfl,rfl⟩ | ⟨id,rfl,he2⟩
     ·have:=Ed (fl:=flat rs y) (k:=i) ha
      exact .inr (.inr ⟨this,by rw[nβ,awh hj,this];rfl,⟨_,_,rfl⟩,fun hU=>hnew j hj.1 hj.2 (h0U▸hU)⟩)
     ·have hsrc:=KZ hj.1 q2 ha
      exact .inl ⟨id,_,hsrc,own2 id _ (JU hsrc).1 he2,by rw[nβ,awh hj,hsrc];rfl,⟨rfl,rfl⟩,rfl⟩
    ·obtain⟨q1,q2⟩:=outside j e' he hj
     have hsn:CY (flat rs y) vs i j=none:=by
      cases hsr:CY (flat rs y) vs i j with
      |none=>rfl
      |some q=>exact absurd (srcIn j q hsr) hj
     exact⟨(nU j).2 (.inl (h0U▸hN0.used j e' q2)),.inr (.inl ⟨hsn,q2,by rw[nβ,awg hj,h0β],fun _ k e1 hk _ hs=>q1 (hM1own k (by rw[hk];simp) j hs)⟩)⟩)
    (fun j q h=> .inl fun hU=>hnew j (srcIn j q h).1 (srcIn j q h).2 (h0U▸hU)) fun j j' q e h1 h2 _ _=>XO hdup2 h1 h2
   refine⟨N,st,fun id=>np id,?_,fun id h=>(nU id).1 h⟩
   show bT N (oneOf (Cb i rs y)) v
   refine afc g2 (by rw[eT2,tY,hlr,hlv]) fun j a b u ha hb hab=> ?_
   have hj:j<(flat rs y).length:=by
    have:=(axF.1 ha).1
    rw[hlr,hlv];exact this
   obtain⟨d,hd⟩:=wK hj
   have e1:=SE (flat rs y) i j d hd
   rw[<-eT2,hb]at e1
   cases e1
   refine adZ hp2 st2.le st2.hrel (fun id hid=>aaT h2p id (KW _ (qG hd) ha hid)) (fun b hb=>(nF b).2 hb) (by rw[nH,st2.H]) (by rw[st2.H,R2.stp.H]) ?_ hab (hD2.get _ _ _ hd ha)
   obtain⟨s,z⟩:=d
   cases s with
   |buf e=>
    have hij:i<=i+j/\i+j<i+8:=by omega
    have e0:i+j - i=j:=by omega
    refine⟨(nU _).2 (.inr hij),?_,?_⟩
    ·rw[np,ru,A7,over,Eh,awh hij.1,e0]
     simp [hd,aau]
    ·rw[nβ,awh hij]
     rcases FX (hD2.get _ _ _ hd ha)with ⟨rfl,_⟩ | ⟨id,rfl,he2⟩
     ·rw[Ed (by rw[e0];exact ha)];rfl
     ·rw[KZ hij.1 (by rw[e0];exact hd) (by rw[e0];exact ha)]
      show N2.β id=N1.β id
      rw[h2β]
   |rf q=>exact(anD hrr hd).elim
   |_=>trivial
 have fin2:(∀i,e≠ .exit i)->bodyPost C.P fn (fun e w'=>∃v,e= .returned v/\∃N,Stp M w N w'/\(∀id,N.hp id=over ((mkSpec xs rs scal run).upd args y++((mkSpec xs rs scal run).blk i y++(dead ((mkSpec xs rs scal run).own args)++freeze hp (afR scal ((mkSpec xs rs scal run).own args) hp args)))) M.hp id)/\
  bT N ((mkSpec xs rs scal run).enc i y) v/\(∀id,N.U id->M.U id\/(i<=id/\id<i+8))) .normal a2 w2:=fun hne=>by
  cases hr:Zj C.P A2 fn.results.toList with
  |none=>cases e<;>simp [hr,bad]at he
  |some vs=>
   cases hdr:V9 rs A2.hp vs with
   |none=>cases e<;>simp [hr,hdr,bad]at he
   |some y'=>
    have:y'=y:=by
     cases e<;>simp [hr,hdr,bad]at he<;>exact he
    subst this
    exact fin vs hr hdr
 cases e with
 |normal=>exact fin2 fun i h=>by cases h
 |ret=>exact fin2 fun i h=>by cases h
 |exit j=>simp [bad]at he
end Go.Av
