/- The evaluator is right: the other operations. No condition. -/
import Derived.Test.YtcodkbclgbcehaaGreatDoorAvA
import Derived.Laws.MakeOwn
import Derived.Lib.AppendZerosOnto
import Derived.Laws.BytesString
import Derived.Laws.IdiomStrings
set_option linter.unusedVariables false
set_option linter.unusedSimpArgs false
set_option linter.unnecessarySimpa false
namespace Go.Av
open Go Go.RowKit
section
variable {P:Program} {M:Mem} {w:World} {hp:Nat->Option Ent} {ρ:Operand->Value} {ev:Operand->AV} {i:Nat}
theorem asr {α:Type} (l:List α) (a b:Option Int):auh l a b=agt l a b:=by
 unfold auh;split
 ·simp [nol,agt,aV,itn]
 ·rfl
theorem ap0 {id:Nat} {a:Option Addr} {off cap sz L:Nat} (hs:xE M id a off cap sz) (hL:L<=cap):xE M id (if cap=L then a else a.map (·.add (L*sz))) (off+L) (cap - L) sz:=by
 unfold xE at*;cases hb:M.β id with
 |none=>simp only[hb]at hs ⊢; omega
 |some b=>
  simp only[hb]at hs ⊢;obtain⟨⟨o,rfl,ho⟩,n,h1,h2⟩:=hs;refine⟨?_,n,h1,?_⟩
  ·by_cases hc:cap=L
   ·exact⟨o,by rw[awh hc],.inl (by omega)⟩
   ·refine⟨o+L*sz,by rw[awg hc,axX,Addr.add_mk],.inr ?_⟩;rcases ho with h | h
    ·omega
    ·rw[h,awz]
  ·rw[axz,Nat.add_sub_cancel' hL];exact h2
theorem alG {id:Nat} {fz:Bool} {t:E} {l:List (den t)} (hU:M.U id) (he:M.hp id=some ⟨fz,.arr t l⟩) {a:Option Addr} {n cap off L H:Nat} (h1:off+n<=l.length) (h2:n<=cap)
 (h3:l.length<=off+cap) (hs:xE M id a off cap (esz t)) (hL:L<=H) (hH:H<=n):bT M (.ms id (off+L) (H - L)) (.slice (if cap=L then a else a.map (·.add (L*esz t))) (H - L) (cap - L)):=by
 refine .ms _ _ _ _ hU ⟨_,_,rfl,by omega⟩ fun e h=> ?_
 rw[he]at h
 cases h
 exact⟨fz,t,l,_,_,rfl,rfl,by omega,by omega,by omega,ap0 hs (by omega)⟩
theorem Zr (s:ByteArray) (a b:Nat) (hb:b<=s.data.toList.length):(s.extract a b).data.toList=(s.data.toList.drop a).take (b - a):=by
 have h:=axg (fun b:ByteArray=>b.data.toList) (ByteArray.extract_mk s.data.toList a b);simpa using h
theorem asE (hp':∀id e,hp id=some e->M.hp id=some e) (wf:WfP P) {t:Nat} {x:AV} {v:Value} {lo hi mx:Option AV} {vlo vhi vmx:Option Value} {ob:Bool} {r:AV}
 (h:amI P hp t x lo hi mx=some (ob,r)) (ho:ob=true) (hx:bT M x v) (hlo:XJ M lo vlo) (hhi:XJ M hi vhi) (hmx:XJ M mx vmx):POk P M w (Instr.sliceAt t v vlo vhi vmx) r:=by
 unfold amI at h
 split at h
 ·
  rename_i s
  cases hst:afZ P t with
  |false=>simp [hst]at h
  |true=>
   simp only[hst,cond_true]at h
   cases hb:sliceB (len s) lo hi with
   |none=>simp [hb]at h
   |some q=>
    obtain⟨ob',a,b⟩:=q
    simp only[hb,awj,awo]at h
    obtain⟨rfl,rfl⟩:=h
    obtain⟨L,H,h1,h2,_,_,_,h6,_,h8,_⟩:=D5 (P:=P) (M:=M) (w:=w) hb ho
    rw[hmx.none]
    cases hx with | str bs l hl=>
    subst hl
    have hu:P.underlying t=some .string:=by
     unfold afZ at hst
     split at hst
     ·assumption
     ·simp at hst
    have hbd:=h6 vlo vhi hlo hhi false bs.size (by rw[Qg];exact awk _)
    rw[<-Qg]at hbd
    refine⟨.string (bs.extract L H),?_,.str _ _ ?_⟩
    ·simp [Instr.sliceAt,iK w hu,Instr.slice,hbd]
    ·rw[h8 _ rfl,Zr _ _ _ h2]
 ·
  rename_i e l ex
  cases hst:Lh P t (esz e)with
  |false=>simp [hst]at h
  |true=>
   simp only[hst,cond_true]at h
   obtain⟨el,hu,hsz,hrs⟩:=Bz hst (CO e)
   cases hb:sliceB (len l) lo hi with
   |none=>simp [hb]at h
   |some q=>
    obtain⟨ob',a,b⟩:=q
    simp only[hb,awj,awo]at h
    obtain⟨rfl,rfl⟩:=h
    obtain⟨L,H,h1,h2,_,_,h5,h6,_,h8,_⟩:=D5 (P:=P) (M:=M) (w:=w) hb ho
    rw[hmx.none]
    obtain⟨ad,cap,rfl,hc,hex⟩:=afD hx
    refine⟨_,Qp hu hrs (h6 vlo vhi hlo hhi true cap hc),?_⟩
    rw[h8 l rfl]
    exact ap9 hx h1 h2 (by omega) (awk _) (fun he=>by
     cases hi with
     |none=>rw[h5 rfl];exact hex he
     |some _=>simp at he)
 ·
  rename_i e l ex k m'
  cases hst:Lh P t (esz e)with
  |false=>simp [hst]at h
  |true=>
   simp only[hst,axY,cond_false]at h
   obtain⟨el,hu,hsz,hrs⟩:=Bz hst (CO e)
   cases hb:sliceB (len l) lo hi with
   |none=>simp [hb]at h
   |some q=>
    obtain⟨ob',a,b⟩:=q
    simp only[hb]at h
    split at h
    ·rename_i ob'' a' b2 k2 b' heq
     simp only[awj,awo]at heq
     obtain⟨rfl,rfl,rfl⟩:=heq
     simp only[awj,awo]at h
     obtain⟨rfl,rfl⟩:=h
     simp only[rZ,jV,len]at ho
     obtain⟨L,H,h1,h2,_,_,_,_,h7,h8,_⟩:=D5 (P:=P) (M:=M) (w:=w) hb ho.1
     rw[hmx.int,hhi.int]
     obtain⟨ad,cap,rfl,hc,hex⟩:=afD hx
     obtain⟨g1,g2,g3⟩:=h7 vlo k2 b' k m' rfl ho.2.1 ho.2.2 hlo true cap hc
     refine⟨_,Qp hu hrs g1,?_⟩
     rw[asr,h8 l rfl]
     exact ap9 hx h1 h2 g3 (by omega) (fun he=>by
      rw[anA]at he;omega)
    ·simp at h
 ·
  cases hst:slT P t with
  |false=>simp [hst]at h
  |true=>
   simp only[hst,axY,cond_false]at h
   cases hb:sliceB 0 lo hi with
   |none=>simp [hb]at h
   |some q=>
    obtain⟨ob',a,b⟩:=q
    simp only[hb,awj,awo]at h
    obtain⟨rfl,rfl⟩:=h
    obtain⟨L,H,h1,h2,_,_,h5,h6,_,h8,_⟩:=D5 (P:=P) (M:=M) (w:=w) (m:=0) hb ho
    rw[hmx.none]
    cases hx
    unfold slT at hst
    split at hst
    ·rename_i el hu
     refine⟨_,Qp hu (WfP.size (wf.sl _ _ hu)) (h6 vlo vhi hlo hhi true 0 (awk _)),?_⟩
     have hL:L=0:=by omega
     have hH:H=0:=by omega
     subst hL;subst hH
     exact .nils
    ·simp at hst
 ·
  rename_i id k m'
  split at h
  ·rename_i fz e l k2 b' he
   have hm:=hp' _ _ he
   split at h
   ·rename_i ob' a b hb
    cases hst:Lh P t (esz e)with
    |false=>simp [hst]at hb
    |true=>
     simp only[hst,cond_true]at hb
     simp only[awj,awo]at h
     obtain⟨rfl,rfl⟩:=h
     obtain⟨el,hu,hsz,hrs⟩:=Bz hst (CO e)
     simp only[rZ,jV,len]at ho
     obtain⟨L,H,h1,h2,_,_,_,_,h7,h8,_⟩:=D5 (P:=P) (M:=M) (w:=w) hb ho.1
     rw[hmx.int,hhi.int]
     cases hx with | mf id v hU hv hh=>
     obtain⟨fz',t',l',ad,cap,heq,rfl,hc,hsl⟩:=hh _ hm
     cases heq
     obtain⟨g1,g2,g3⟩:=h7 vlo k2 b' k m' rfl ho.2.1 ho.2.2 hlo true cap hc
     exact⟨_,Qp hu hrs g1,.undef _⟩
   ·simp at h
  ·simp at h
 ·
  rename_i id
  split at h
  ·rename_i fz e l he
   have hm:=hp' _ _ he
   split at h
   ·rename_i ob' a b hb
    cases hst:Lh P t (esz e)with
    |false=>simp [hst]at hb
    |true=>
     simp only[hst,cond_true]at hb
     simp only[awj,awo]at h
     obtain⟨rfl,rfl⟩:=h
     obtain⟨el,hu,hsz,hrs⟩:=Bz hst (CO e)
     obtain⟨L,H,h1,h2,_,_,_,h6,_,h8,h9,h10,h11⟩:=D5 (P:=P) (M:=M) (w:=w) hb ho
     rw[hmx.none]
     cases hx with | mf id v hU hv hh=>
     obtain⟨fz',t',l',ad,cap,heq,rfl,hc,hsl⟩:=hh _ hm
     cases heq
     refine⟨_,Qp hu hrs (h6 vlo vhi hlo hhi true cap hc),?_⟩
     have:=alG (off:=0) (n:=l.length) hU hm (by omega) hc (by omega) hsl h1 h2
     rw[h9,show len l=((l.length:Nat):Int)from rfl,h10]
     simpa using this
   ·simp at h
  ·simp at h
 ·
  rename_i id off n
  split at h
  ·rename_i fz e l he
   have hm:=hp' _ _ he
   split at h
   ·rename_i ob' a b hb
    cases hst:Lh P t (esz e)with
    |false=>simp [hst]at hb
    |true=>
     simp only[hst,cond_true]at hb
     simp only[awj,awo]at h
     obtain⟨rfl,rfl⟩:=h
     obtain⟨el,hu,hsz,hrs⟩:=Bz hst (CO e)
     obtain⟨L,H,h1,h2,_,_,_,h6,_,h8,h9,h10,h11⟩:=D5 (P:=P) (M:=M) (w:=w) (m:=n) hb ho
     rw[hmx.none]
     cases hx with | ms id off n v hU hv hh=>
     obtain⟨fz',t',l',ad,cap,heq,rfl,hc1,hc,hc2,hsl⟩:=hh _ hm
     cases heq
     refine⟨_,Qp hu hrs (h6 vlo vhi hlo hhi true cap hc),?_⟩
     have:=alG hU hm hc1 hc hc2 hsl h1 h2
     rw[h11,show nti n=((n:Nat):Int)from rfl,h10]
     exact this
   ·simp at h
  ·rename_i fz e l w' he
   have hm:=hp' _ _ he
   split at h
   ·rename_i ob' a b hb
    cases hst:Lh P t (esz e)with
    |false=>simp [hst]at hb
    |true=>
     simp only[hst,cond_true]at hb
     simp only[awj,awo]at h
     obtain⟨rfl,rfl⟩:=h
     obtain⟨el,hu,hsz,hrs⟩:=Bz hst (CO e)
     rw[hmx.none]
     cases hx with | ms id off n v hU hv hh=>
     obtain⟨fz',t',l',ad,cap,heq,rfl,hc1,hc,hc2,hsl⟩:=hh _ hm
     cases heq
     have hof:aO (len l) (nti off)=((l.length - off:Nat):Int):=by simp only[aO,len,nti];omega
     rw[hof]at hb ⊢
     obtain⟨L,H,h1,h2,_,_,_,h6,_,h8,h9,h10,h11⟩:=D5 (P:=P) (M:=M) (w:=w) (m:=l.length - off) hb ho
     have hsome:∃z,vhi=some z:=by
      cases vhi with
      |none=>cases hhi
      |some z=>exact⟨z,rfl⟩
     obtain⟨z,rfl⟩:=hsome
     refine⟨_,Qp hu hrs (h6 vlo (some z) hlo hhi true cap (by omega)),?_⟩
     have:=alG (n:=l.length - off) hU hm (by omega) (by omega) hc2 hsl h1 h2
     rw[h11,h10]
     exact this
   ·simp at h
  ·simp at h
 ·
  rename_i id off
  rw[hmx.none]
  cases hx with | mp id off v hU hv hh=>
  obtain⟨ad,rfl⟩:=hv
  have fin:∀(n el b:Nat),P.underlying t=some (.array n el)->Nat.beq off 0=true->(Instr.sliceBounds false n n vlo vhi none).run P w= .ok (0,b,n) w->b<=n->
   POk P M w (Instr.sliceAt t (.pointer (some ad)) vlo vhi none) (.rs id (fM P el) 0 b):=fun n el b hu hz hb hbn=>by
   have h0:=aws hz
   subst h0
   have had:ad.add (0*fM P el)=ad:=by simp [Addr.add]
   refine⟨.slice (some ad) b n,?_,.rs _ _ _ _ _ hU ⟨_,_,rfl,hbn⟩ fun e he=> ?_⟩
   ·simp only[Instr.sliceAt,Sem.run_bind,iK w hu,Result.andThen_ok,Instr.sureAddr,Sem.run_pure,hb,WfP.size (wf.arr _ _ _ hu),had,ite_self,ayH]
   ·obtain⟨b',fz,cs,g1,g2,g3⟩:=hh e he
    simp only[Value.pointer.injEq,awj]at g3
    subst g3
    exact⟨fz,cs,b',0,n,g1,g2,rfl,.inr (by simp)⟩
  split at h
  ·rename_i n el hu
   cases hz:Nat.beq off 0 with
   |false=>simp [hz]at h
   |true=>
    simp only[hz,cond_true,awj,awo]at h
    obtain⟨rfl,rfl⟩:=h
    have e1:=hlo.none;have e2:=hhi.none;subst e1;subst e2
    exact fin n el n hu hz (by simp [Instr.sliceBounds]) (awk _)
  ·rename_i n el k b hu
   cases hz:Nat.beq off 0 with
   |false=>simp [hz]at h
   |true=>
    simp only[hz,cond_true,awj,awo]at h
    obtain⟨rfl,rfl⟩:=h
    simp only[rZ,jV,nti]at ho
    have e1:=hlo.none;have e2:=hhi.int;subst e1;subst e2
    exact fin n el b.toNat hu hz (by simp [Instr.sliceBounds,FV (P:=P) (w:=w) (k:=k) (n:=b) (y:=n) (c:=_) ho]) (by omega)
  ·simp at h
 ·
  rename_i id sz off n
  rw[hmx.none]
  cases hst:Lh P t sz with
  |false=>simp [hst]at h
  |true=>
   simp only[hst,axY,cond_false]at h
   cases hx with | rs id sz off n v hU hv hh=>
   obtain⟨ad,cap,rfl,hnc⟩:=hv
   have hu':∃el,P.underlying t=some (.slice el)/\fM P el=sz:=by
    unfold Lh at hst
    split at hst
    ·rename_i el hu
     exact⟨el,hu,aws hst⟩
    ·simp at hst
   obtain⟨el,hu,rfl⟩:=hu'
   have fin:∀(L H:Nat),(Instr.sliceBounds true n cap vlo vhi none).run P w= .ok (L,H,cap) w->L<=H->H<=n->
    POk P M w (Instr.sliceAt t (.slice (some ad) n cap) vlo vhi none) (.rs id (fM P el) (off+L) (H - L)):=fun L H hb h1 h2=>by
    refine⟨_,Qp hu (WfP.size (wf.sl _ _ hu)) hb,.rs _ _ _ _ _ hU ⟨if cap=L then ad else ad.add (L*fM P el),_,by split<;>rfl,by omega⟩ fun e he=> ?_⟩
    obtain⟨fz,cs,b,o,cap',g1,g2,g3,g4⟩:=hh e he
    cases g3
    by_cases hc:cap=L
    ·exact⟨fz,cs,b,o,_,g1,g2,by rw[awh hc],.inl (by omega)⟩
    ·refine⟨fz,cs,b,o+L*fM P el,_,g1,g2,by rw[awg hc,axX,Addr.add_mk],.inr ?_⟩
     rcases g4 with g | g
     ·omega
     ·rw[g,awz]
   split at h
   ·simp only[awj,awo]at h
    obtain⟨rfl,rfl⟩:=h
    have e1:=hlo.none;have e2:=hhi.none;subst e1;subst e2
    exact fin 0 n (by simp [Instr.sliceBounds]) (awm _) (awk _)
   ·rename_i k a
    simp only[awj,awo]at h
    obtain⟨rfl,rfl⟩:=h
    simp only[rZ,jV,nti]at ho
    have e1:=hlo.int;have e2:=hhi.none;subst e1;subst e2
    exact fin a.toNat n (by simp [Instr.sliceBounds,FV (P:=P) (w:=w) (k:=k) (n:=a) (y:=n) (c:=_) ho]) (by omega) (awk _)
   ·rename_i k b
    simp only[awj,awo]at h
    obtain⟨rfl,rfl⟩:=h
    simp only[rZ,jV,nti]at ho
    have e1:=hlo.none;have e2:=hhi.int;subst e1;subst e2
    exact fin 0 b.toNat (by simp [Instr.sliceBounds,FV (P:=P) (w:=w) (k:=k) (n:=b) (y:=cap) (c:=_) (by omega)]) (awm _) (by omega)
   ·simp at h
 ·simp at h
end
section
variable {P:Program} {M:Mem} {w:World} {hp:Nat->Option Ent} {ρ:Operand->Value} {ev:Operand->AV} {i:Nat}
theorem UR {k:Int} {n:Nat}:inB k (n:Int)=true↔0<=k/\k<n:=by simp [inB,rZ,jV,Ie]
theorem aa6 {t el sz:Nat} {a:Addr} {n cap:Nat} {k:IntKind} {j:Int} (hu:P.underlying t=some (.slice el)) (hsz:∀w,(sizeOf el).run P w= .ok sz w) (hj:0<=j/\j<n):
 (Instr.indexAt t (.slice (some a) n cap) (.int k j)).run P w= .ok (.pointer (some (a.add (j.toNat*sz)))) w:=by
 simp [Instr.indexAt,asIntOf,iK w hu,hj,hsz]
theorem aqs {t el n:Nat} {a:Addr} {k:IntKind} {j:Int} (wf:WfP P) (hu:P.underlying t=some (.array n el)) (hj:0<=j/\j<n):
 (Instr.indexAt t (.pointer (some a)) (.int k j)).run P w= .ok (.pointer (some (a.add (j.toNat*fM P el)))) w:=by
 simp [Instr.indexAt,asIntOf,iK w hu,hj,Instr.sureAddr,WfP.size (wf.arr _ _ _ hu)]
theorem ak6 (hp':∀id e,hp id=some e->M.hp id=some e) (wf:WfP P) {t:Nat} {x ix:AV} {v u:Value} {ob:Bool} {r:AV}
 (h:amj P hp t x ix=some (ob,r)) (ho:ob=true) (hx:bT M x v) (hi:bT M ix u):POk P M w (Instr.indexAt t v u) r:=by
 unfold amj at h
 split at h
 ·rename_i e l ex k j
  cases hi
  cases hst:Lh P t (esz e)with
  |false=>simp [hst]at h
  |true=>
   simp only[hst,cond_true,awj,awo]at h
   obtain⟨rfl,rfl⟩:=h
   obtain⟨el,hu,hsz,hrs⟩:=Bz hst (CO e)
   have hj:=UR.1 ho
   cases hx with
   |roE=>simp at hj;omega
   |ro e l ex b o cap hl hx0 hF cs hc hss=>
    have hjl:j.toNat<l.length:=by omega
    refine⟨_,aa6 hu hrs hj,?_⟩
    rw[Addr.add_mk]
    have hget:aj l (itn j)=l[j.toNat]:=by simp [aj,itn,List.getD,hjl]
    rw[hget]
    exact .rp e _ 0 _ b (o+j.toNat*esz e) rfl hF (fun k=>cs j.toNat k) (fun k hk=>hc _ _ hjl hk) (fun k hk=>hss _ _ hjl hk)
 ·rename_i id k j
  cases hi
  split at h
  ·rename_i fz e l he
   have hm:=hp' _ _ he
   cases hst:Lh P t (esz e)with
   |false=>simp [hst]at h
   |true=>
    simp only[hst,cond_true,awj,awo]at h
    obtain⟨rfl,rfl⟩:=h
    obtain⟨el,hu,hsz,hrs⟩:=Bz hst (CO e)
    have hj:=UR.1 ho
    cases hx with | mf id v hU hv hh=>
    obtain⟨fz',t',l',ad,cap,heq,rfl,hc,hsl⟩:=hh _ hm
    cases heq
    unfold xE at hsl
    cases hb:M.β id with
    |none=>simp only[hb]at hsl;omega
    |some b=>
     simp only[hb]at hsl
     obtain⟨⟨o,rfl,ho'⟩,_⟩:=hsl
     have ho0:o=0:=by rcases ho' with g | g<;>omega
     subst ho0
     refine⟨_,aa6 hu hrs hj,.ep _ _ _ _ hU ⟨_,rfl⟩ fun e' he'=> ?_⟩
     rw[hm]at he'
     cases he'
     exact⟨b,fz,e,l,rfl,hb,by simp [itn];omega,by rw[Addr.add_mk];simp [itn]⟩
  ·simp at h
 ·rename_i id off n k j
  cases hi
  split at h
  ·rename_i fz e l he
   have hm:=hp' _ _ he
   cases hst:Lh P t (esz e)with
   |false=>simp [hst]at h
   |true=>
    simp only[hst,cond_true,awj,awo]at h
    obtain⟨rfl,rfl⟩:=h
    obtain⟨el,hu,hsz,hrs⟩:=Bz hst (CO e)
    have hj:=UR.1 ho
    cases hx with | ms id off n v hU hv hh=>
    obtain⟨fz',t',l',ad,cap,heq,rfl,hc1,hc,hc2,hsl⟩:=hh _ hm
    cases heq
    unfold xE at hsl
    cases hb:M.β id with
    |none=>simp only[hb]at hsl;omega
    |some b=>
     simp only[hb]at hsl
     obtain⟨⟨o,rfl,ho'⟩,_⟩:=hsl
     have ho0:o=off*esz e:=by rcases ho' with g | g<;>omega
     subst ho0
     refine⟨_,aa6 hu hrs hj,.ep _ _ _ _ hU ⟨_,rfl⟩ fun e' he'=> ?_⟩
     rw[hm]at he'
     cases he'
     exact⟨b,fz,e,l,rfl,hb,by simp [itn,nad];omega,by rw[Addr.add_mk];simp [itn,nad,awz]⟩
  ·simp at h
 ·rename_i id sz off n k j
  cases hi
  cases hst:Lh P t sz with
  |false=>simp [hst]at h
  |true=>
   simp only[hst,cond_true,awj,awo]at h
   obtain⟨rfl,rfl⟩:=h
   have hj:=UR.1 ho
   cases hx with | rs id sz off n v hU hv hh=>
   obtain⟨ad,cap,rfl,hnc⟩:=hv
   have hu':∃el,P.underlying t=some (.slice el)/\fM P el=sz:=by
    unfold Lh at hst
    split at hst
    ·rename_i el hu
     exact⟨el,hu,aws hst⟩
    ·simp at hst
   obtain⟨el,hu,rfl⟩:=hu'
   refine⟨_,aa6 hu (WfP.size (wf.sl _ _ hu)) hj,.mp _ _ _ hU ⟨_,rfl⟩ fun e he=> ?_⟩
   obtain⟨fz,cs,b,o,cap',g1,g2,g3,g4⟩:=hh e he
   cases g3
   have ho0:o=off*fM P el:=by rcases g4 with g | g<;>omega
   subst ho0
   exact⟨b,fz,cs,g1,g2,by rw[Addr.add_mk,awz]⟩
 ·rename_i id off k j
  cases hi
  split at h
  ·rename_i n el hu
   simp only[awj,awo]at h
   obtain⟨rfl,rfl⟩:=h
   have hj:=UR.1 ho
   cases hx with | mp id off v hU hv hh=>
   obtain⟨ad,rfl⟩:=hv
   refine⟨_,aqs wf hu hj,.mp _ _ _ hU ⟨_,rfl⟩ fun e he=> ?_⟩
   obtain⟨b,fz,cs,g1,g2,g3⟩:=hh e he
   simp only[Value.pointer.injEq,awj]at g3
   subst g3
   exact⟨b,fz,cs,g1,g2,by rw[Addr.add_mk]⟩
  ·simp at h
 ·simp at h
theorem asY (wf:WfP P) {t:Nat} {x ix:AV} {v u:Value} {ob:Bool} {e:Eff} (h:(match P.underlying t,x,ix with
 |some (.array n el),.agg cs,.int _ k=>(match part P el cs (k.toNat*fM P el)with | some v=>some (inB k (nti n),(⟨v,[]⟩:Eff)) | none=>none)
 |some .string,.str s,.int _ k=>some (inB k (len s),⟨.int .u8 (SI s (itn k)),[]⟩)
 |_,_,_=>none)=some (ob,e)) (ho:ob=true) (hx':bT M x v) (hi':bT M ix u):e.u=[]/\POk P M w (Instr.index t v u) e.v:=by
 split at h
 ·rename_i n el cs k j hu
  cases hi'
  obtain⟨vs,rfl,hvs⟩:=Yc hx'
  split at h
  ·rename_i y hy
   simp only[awj,awo]at h
   obtain⟨rfl,rfl⟩:=h
   have hj:=UR.1 ho
   obtain⟨z,g1,g2⟩:=ab8 (w:=w) hy hvs
   refine⟨rfl,z,?_,g2⟩
   simp [Instr.index,asIntOf,iK w hu,hj,WfP.size (wf.arr _ _ _ hu),g1]
  ·simp at h
 ·rename_i s k j hu
  cases hi'
  cases hx' with | str bs l hl=>
  subst hl
  simp only[awj,awo]at h
  obtain⟨rfl,rfl⟩:=h
  have hj:=UR.1 ho
  have hlt:j.toNat<bs.size:=by rw[Qg];omega
  refine⟨rfl,.int .u8 (bs[j.toNat].toNat:Int),?_,?_⟩
  ·simp [Instr.index,asIntOf,iK w hu,hj.1,hlt]
  ·have hlt':j.toNat<bs.data.size:=hlt
   have:SI bs.data.toList (itn j)=(bs[j.toNat].toNat:Int):=by
    have e1:bs.data[j.toNat]? =some bs.data[j.toNat]:=awW hlt'
    simp only[SI,itn,List.getD,Array.getElem?_toList,e1,axO]
    rfl
   rw[this]
   exact .int _ _
 ·simp at h
def auQ (P:Program) (x:AV) (t:Nat):Bool:=match x with | .str _=>afZ P t | _=>slT P t
theorem atN {v:Value} {t ty:Nat} {at':Array TypeId} (h0:at'[0]? =some t) (hx:bT M .nils v) (ht:slT P t=true):POk P M w (Builtin.cap_ at' ty #[v]) (.int .i64 0):=by
 cases hx;unfold slT at ht;split at ht
 ·rename_i el hu;exact⟨_,by simp [Builtin.cap_,h0,iK w hu,goInt],.int _ _⟩
 ·simp at ht
theorem avN (hp':∀id e,hp id=some e->M.hp id=some e) {x:AV} {v:Value} {n:Int} {t ty:Nat} {at':Array TypeId} (h0:at'[0]? =some t) (hx:bT M x v) (h:alf hp x=some n) (ht:auQ P x t=true):
 POk P M w (Builtin.len_ at' ty #[v]) (.int .i64 n):=by
 have hs:∀a k cap,v= .slice a k cap->(n:Int)=k->(∀s,x≠ .str s)->POk P M w (Builtin.len_ at' ty #[v]) (.int .i64 n):=fun a k cap hv hn hne=>by
  subst hv;subst hn
  have ht':slT P t=true:=by
   cases x<;>first | exact ht | exact absurd rfl (hne _)
  unfold slT at ht'
  split at ht'
  ·rename_i el hu
   exact⟨_,by simp [Builtin.len_,h0,iK w hu,goInt],.int _ _⟩
  ·simp at ht'
 unfold alf at h
 split at h
 ·simp only[awj]at h;subst h
  cases hx
  exact hs _ _ _ rfl rfl (fun s=>by simp)
 ·simp only[awj]at h;subst h
  obtain⟨a,cap,rfl,_⟩:=afD hx
  exact hs _ _ _ rfl rfl (fun s=>by simp)
 ·split at h
  ·rename_i fz e l he
   simp only[awj]at h;subst h
   cases hx with | mf id v hU hv hh=>
   obtain⟨fz',t',l',ad,cap,heq,rfl,hc,hsl⟩:=hh _ (hp' _ _ he)
   cases heq
   exact hs _ _ _ rfl rfl (fun s=>by simp)
  ·simp at h
 ·simp only[awj]at h;subst h
  cases hx with | ms id off n v hU hv hh=>
  obtain⟨a,cap,rfl,_⟩:=hv
  exact hs _ _ _ rfl rfl (fun s=>by simp)
 ·simp only[awj]at h;subst h
  cases hx with | rs id sz off n v hU hv hh=>
  obtain⟨a,cap,rfl,_⟩:=hv
  exact hs _ _ _ rfl rfl (fun s=>by simp)
 ·simp only[awj]at h;subst h
  cases hx with | str bs l hl=>
  subst hl
  have ht':afZ P t=true:=ht
  unfold afZ at ht'
  split at ht'
  ·rename_i hu
   refine⟨.int .i64 bs.size,by simp [Builtin.len_,h0,iK w hu,goInt],?_⟩
   have:len bs.data.toList=(bs.size:Int):=by rw[Qg];rfl
   rw[this]
   exact .int _ _
  ·simp at ht'
 ·simp at h
theorem J6 (h:∀x,bT M (ev x) (ρ x)):∀(l:List Operand),(l.map ρ).length=(lg ev l).length/\∀i,(h1:i<(lg ev l).length)->(h2:i<(l.map ρ).length)->bT M (lg ev l)[i] (l.map ρ)[i]
 |[]=>⟨rfl,fun i h1=>by simp [lg]at h1⟩
 |x::l=>by
  obtain⟨g1,g2⟩:=J6 h l
  refine⟨by simp [lg]at g1 ⊢; exact g1,fun i h1 h2=> ?_⟩
  cases i with
  |zero=>exact h x
  |succ i=>
   simp only[lg,awS,ayc]
   exact g2 i (by simpa [lg] using h1) (by simpa using h2)
theorem amh (h:∀x,bT M (ev x) (ρ x)) (f:Nat) (first captured:Array Operand) (h0:Nat.beq first.size 0=true):
 POk P M w (Instr.makeFunc (.func f) (first.map ρ) (captured.map ρ)) (.fn f (lg ev captured.toList)):=by
 have hf:first= #[]:=Array.eq_empty_of_size_eq_zero (aws h0)
 subst hf
 obtain⟨g1,g2⟩:=J6 h captured.toList
 refine⟨.func (.func f) #[] (captured.map ρ),by simp [Instr.makeFunc],.fn f _ _ (by simpa using g1) fun i h1 h2=> ?_⟩
 have:=g2 i h1 (by simpa using h2)
 simpa using this
theorem akC (h:∀x,bT M (ev x) (ρ x)) (f:Nat) (first captured:Array Operand) (h0:Nat.beq captured.size 0=true):
 POk P M w (Instr.makeFunc (.func f) (first.map ρ) (captured.map ρ)) (.fnb f (lg ev first.toList)):=by
 have hf:captured= #[]:=Array.eq_empty_of_size_eq_zero (aws h0)
 subst hf
 obtain⟨g1,g2⟩:=J6 h first.toList
 refine⟨.func (.func f) (first.map ρ) #[],by simp [Instr.makeFunc],.fnb f _ _ (by simpa using g1) fun i h1 h2=> ?_⟩
 have:=g2 i h1 (by simpa using h2)
 simpa using this
theorem aoj {x:AV} {v:Value} {k:Nat} {vs:List AV} {y:AV} (hx:bT M (.tup vs) v) (hk:vs[k]? =some y):POk P M w (Instr.extract v k) y:=by
 cases hx with
 |tup cs us hn hs=>
  obtain⟨h1,rfl⟩:=axF.1 hk;refine⟨us[k]'(by omega),?_,hs k h1 (by omega)⟩;have:us[k]? =some (us[k]'(by omega)):=awW (by omega);simp [Instr.extract,this]
end
theorem iL {a b:Nat} (h:a≠b):Nat.beq a b=false:=by
 cases hb:Nat.beq a b with
 |false=>rfl
 |true=>exact absurd (aws hb) h
theorem acO (a:Nat):Nat.beq a a=true:=by simp
theorem Lu {α:Type}:∀(u v:List (Nat×α)) (i:Nat),look (u++v) i=(match look u i with | some x=>some x | none=>look v i)
 |[],v,i=>rfl
 |(k,x)::u,v,i=>by
  simp only[axa,look]
  cases Nat.beq k i with
  |true=>rfl
  |false=>exact Lu u v i
theorem ru (u v:List (Nat×Option Ent)) (hp:Nat->Option Ent) (i:Nat):over (u++v) hp i=over u (over v hp) i:=by
 simp only[over,Lu];cases look u i<;>rfl
theorem oQ (i:Nat) (e:Option Ent) (hp:Nat->Option Ent) (j:Nat):over [(i,e)] hp j=Ey hp i e j:=by
 by_cases h:j=i
 ·subst h;simp [over,look,bQ]
 ·simp [over,look,iL (awE h),dH _ _ h]
theorem J5 (i:Nat) (e:Option Ent) (u:List (Nat×Option Ent)) (hp:Nat->Option Ent) (j:Nat):over ((i,e)::u) hp j=Ey (over u hp) i e j:=by
 by_cases h:j=i
 ·subst h;simp [over,look,bQ]
 ·simp [over,look,iL (awE h),dH _ _ h]
section
variable {P:Program} {M N:Mem} {w:World} {hp:Nat->Option Ent} {ρ:Operand->Value} {ev:Operand->AV} {i:Nat}
theorem ku:∀(ids:List Nat) (j:Nat),look (freeze hp ids) j=if j∈ids then some (match hp j with | some e=>some ⟨true,e.b⟩ | none=>none)else none
 |[],j=>rfl
 |k::r,j=>by
  simp only[freeze,look]
  by_cases h:k=j
  ·subst h;simp;cases hp k<;>rfl
  ·rw[iL h]
   simp only[cond_false,ku r j,aww]
   have:¬j=k:=fun e=>h e.symm
   simp [this]
theorem Jd (hp':∀id e,hp id=some e->M.hp id=some e) (h:lJ M) (hH:M.H=w.heap):∀(ids:List Nat),(∀id∈ids,hp id≠none)->
 ∃N,Stp M w N w/\(∀j,N.hp j=over (freeze hp ids) M.hp j)/\N.U=M.U/\N.β=M.β/\N.H=M.H
 |[],_=>⟨M,Stp.refl h hH,fun _=>rfl,rfl,rfl,rfl⟩
 |i::r,hi=>by
  obtain⟨N,h1,h2,h3,h4,h5⟩:=Jd hp' h hH r (fun id hid=>hi id (by simp [hid]))
  have hfr:=Stp.frz (w:=w) h1.hrel h1.H i
  cases he:hp i with
  |none=>exact absurd he (hi i (by simp))
  |some e=>
   have hNi:∃fz,N.hp i=some ⟨fz,e.b⟩:=by
    rw[h2,over,ku]
    by_cases hm:i∈r
    ·simp [hm,he]
    ·simp only[awg hm]
     exact⟨e.fz,hp' _ _ he⟩
   obtain⟨fz,hNi⟩:=hNi
   refine⟨N.frz i,h1.trans hfr h hH,fun j=> ?_,?_,?_,?_⟩
   ·simp only[Mem.frz,hNi,freeze,he,J5]
    by_cases hj:j=i
    ·subst hj;simp [bQ]
    ·rw[dH _ _ hj,dH _ _ hj,h2]
   ·simp only[Mem.frz,hNi,h3]
   ·simp only[Mem.frz,hNi,h4]
   ·simp only[Mem.frz,hNi,h5]
theorem aqY (hN:lJ N) {id:Nat} {e:E} {l:List (den e)} (he:N.hp id=some ⟨true,.arr e l⟩) {a:Option Addr} {off n cap:Nat} (hs:xE N id a off cap (esz e)) (h1:n<=cap) (h2:off+n<=l.length):
 bT N (.ro e (aV (bZ l off) n) false) (.slice a n cap):=by
 have hlen:(aV (bZ l off) n).length=n:=by simp [aV,bZ];omega
 by_cases h0:n=0
 ·subst h0
  have:aV (bZ l off) 0=[]:=by simp [aV]
  rw[this]
  exact .roE _ _ _ _ (by simp)
 ·unfold xE at hs
  cases hb:N.β id with
  |none=>simp only[hb]at hs;omega
  |some b=>
   simp only[hb]at hs
   obtain⟨⟨o,rfl,ho⟩,m,hm1,hm2⟩:=hs
   have ho0:o=off*esz e:=by rcases ho with g | g<;>omega
   subst ho0
   obtain⟨hF,_,c,ty,fr,hc,hz,hsz,hcs⟩:=hN.is he hb
   have key:=bT.ro (M:=N) e (aV (bZ l off) n) false b (off*esz e) cap (by omega) (by simp) (hF rfl rfl) (fun i k=>c.getD ((off+i)*esz e+k) undef) (fun i k hi hk=>by
    obtain⟨v,g1,g2⟩:=hcs (off+i) k (by omega) hk
    have e1:off*esz e+i*esz e+k=(off+i)*esz e+k:=by rw[awz]
    simp only[cellAt,hc,e1,ayI,g1,axO]) (fun i k hi hk=>by
    obtain⟨v,g1,g2⟩:=hcs (off+i) k (by omega) hk
    have e2:(aV (bZ l off) n)[i]=l[off+i]:=by simp [aV,bZ]
    rw[e2]
    simpa only[ayI,g1,axO] using g2)
   rw[hlen]at key
   exact key
def aoR (hp:Nat->Option Ent) (N:Mem) (ids:List Nat):Prop:=∀id∈ids,∀e,hp id=some e->N.hp id=some ⟨true,e.b⟩
theorem aaT {ids:List Nat} (hN:∀j,N.hp j=over (freeze hp ids) M.hp j):aoR hp N ids:=fun id hid e he=>by
 rw[hN,over,ku,awh hid,he]
theorem UA (hp':∀id e,hp id=some e->M.hp id=some e) (hle:Le M N) (hN:lJ N) {x:AV} {v:Value} (hf:aoR hp N (D7 hp x).2) (hs:bT M x v):bT N (D7 hp x).1 v:=by
 unfold D7 at hf ⊢;split
 ·rename_i id;split
  ·rename_i fz e l he;simp only[he]at hf;have hNid:=hf id (by simp) _ he;cases hs with | mf id v hU hv hh=>
   obtain⟨fz',t',l',a,cap,heq,rfl,hc,hsl⟩:=hh _ (hp' _ _ he);cases heq;have:=aqY (n:=l.length) hN hNid (hsl.le hle hU hNid) hc (by omega);simpa [aV,bZ] using this
  ·exact .undef _
 ·rename_i id off n;split
  ·rename_i fz e l he;simp only[he]at hf;have hNid:=hf id (by simp) _ he;cases hs with | ms id off n v hU hv hh=>
   obtain⟨fz',t',l',a,cap,heq,rfl,h1,hc,h2,hsl⟩:=hh _ (hp' _ _ he);cases heq;exact aqY hN hNid (hsl.le hle hU hNid) hc h1
  ·exact .undef _
 ·exact hs.le hle
theorem Am:∀(cs:List AV),(jG hp cs).1.length=cs.length
 |[]=>rfl
 |v::r=>by simp [jG,Am r]
theorem X3:∀(cs:List AV) (i:Nat) (h:i<cs.length) (h':i<(jG hp cs).1.length),(jG hp cs).1[i]=(D7 hp cs[i]).1/\∀j∈(D7 hp cs[i]).2,j∈(jG hp cs).2
 |[],i,h,_=>by simp at h
 |v::r,0,h,_=>⟨rfl,fun j hj=>by simp only[jG,awt];exact .inl hj⟩
 |v::r,i+1,h,h'=>by
  obtain⟨g1,g2⟩:=X3 r i (by simpa using h) (by simpa [jG] using h')
  exact⟨by simpa [jG] using g1,fun j hj=>by simp only[jG,awt];exact .inr (g2 j (by simpa using hj))⟩
theorem JJ:∀(cs:List AV),∀j∈(jG hp cs).2,hp j≠none
 |[],j,h=>by simp [jG]at h
 |v::r,j,h=>by
  simp only[jG,awt]at h
  rcases h with h | h
  ·unfold D7 at h
   split at h
   ·split at h
    ·rename_i he;simp at h;subst h;rw[he];simp
    ·simp at h
   ·split at h
    ·rename_i he;simp at h;subst h;rw[he];simp
    ·simp at h
   ·simp at h
  ·exact JJ r j h
theorem Zd (hp':∀id e,hp id=some e->M.hp id=some e) (hle:Le M N) (hN:lJ N) {cs:List AV} {f:Nat->Value} (hf:aoR hp N (jG hp cs).2) (hs:∀i,(h:i<cs.length)->bT M cs[i] (f i)):
 ∀i,(h:i<(jG hp cs).1.length)->bT N (jG hp cs).1[i] (f i):=fun i h=>by
 have h0:i<cs.length:=by rw[Am]at h;exact h
 obtain⟨g1,g2⟩:=X3 (hp:=hp) cs i h0 h
 rw[g1]
 exact UA hp' hle hN (fun id hid=>hf id (g2 id hid)) (hs i h0)
def Wk (a b:AV):Prop:=a=b\/∃e l,b= .ro e l false/\gL e a=some l
theorem WI {a:AV} {n:Int} (h:gI a=some n):Wk a (.int .i64 n):=by
 unfold gI at h;split at h
 ·simp only[awj]at h;subst h;exact .inl rfl
 ·simp at h
theorem WU {a:AV} {n:Int} (h:gU a=some n):Wk a (.int .u8 n):=by
 unfold gU at h;split at h
 ·simp only[awj]at h;subst h;exact .inl rfl
 ·simp at h
theorem WW {a:AV} {n:Int} (h:gW a=some n):Wk a (.int .u64 n):=by
 unfold gW at h;split at h
 ·simp only[awj]at h;subst h;exact .inl rfl
 ·simp at h
theorem WB {a:AV} {n:Bool} (h:gB a=some n):Wk a (.bool n):=by
 unfold gB at h;split at h
 ·simp only[awj]at h;subst h;exact .inl rfl
 ·simp at h
theorem WS {a:AV} {n:List UInt8} (h:gS a=some n):Wk a (.str n):=by
 unfold gS at h;split at h
 ·simp only[awj]at h;subst h;exact .inl rfl
 ·simp at h
theorem WL {a:AV} {e:E} {l:List (den e)} (h:gL e a=some l):Wk a (.ro e l false):= .inr ⟨e,l,rfl,h⟩
theorem anF {e:E} {l:List (den e)} {ex:Bool} {v:Value} (h:bT M (.ro e l ex) v):bT M (.ro e l false) v:=by
 cases h with
 |roE _ _ a cap hx=>exact .roE _ _ _ _ (by simp)
 |ro _ _ _ b o cap hl hx hF cs hc hss=>exact .ro _ _ _ b o cap hl (by simp) hF cs hc hss
theorem Wk.sees {a b:AV} {v:Value} (h:Wk a b) (hs:bT M a v):bT M b v:=by
 rcases h with rfl | ⟨e,l,rfl,h⟩
 ·exact hs
 ·unfold gL at h;split at h
  ·simp only[awj]at h;subst h;cases hs;exact .roE _ _ _ _ (by simp)
  ·split at h
   ·rename_i he;subst he;simp only[awj]at h;subst h;exact anF hs
   ·simp at h
  ·simp at h
end
theorem Ec (e:E) (cs:List AV) (x:den e) (h:Ew e cs=some x):cs.length=esz e/\∀k,k<esz e->Wk (nth cs k) (nth (cells e x) k):=by
 unfold Ew at h;cases hl:Nat.beq cs.length (esz e)with
 |false=>simp [hl]at h
 |true=>
  refine⟨aws hl,?_⟩;simp only[hl,cond_true]at h;cases e with
  |u8=>
   simp only at h;intro k hk
   match k,hk with
   |0,_=>exact WU h
  |i64=>
   simp only at h;intro k hk
   match k,hk with
   |0,_=>exact WI h
  |bool=>
   simp only at h;intro k hk
   match k,hk with
   |0,_=>exact WB h
  |str=>
   simp only at h;intro k hk
   match k,hk with
   |0,_=>exact WS h
  |file=>
   simp only at h;obtain⟨y0,h0,h⟩:=awi.1 h;obtain⟨y1,h1,h⟩:=awi.1 h;obtain⟨y2,h2,h⟩:=awi.1 h;have h:=awr h;subst h;intro k hk
   match k,hk with
   |0,_=>exact WS h0
   |1,_=>exact WL h1
   |2,_=>exact WI h2
  |disk=>
   simp only at h;obtain⟨y0,h0,h⟩:=awi.1 h;obtain⟨y1,h1,h⟩:=awi.1 h;obtain⟨y2,h2,h⟩:=awi.1 h;obtain⟨y3,h3,h⟩:=awi.1 h;have h:=awr h;subst h;intro k hk
   match k,hk with
   |0,_=>exact WL h0
   |1,_=>exact WI h1
   |2,_=>exact WI h2
   |3,_=>exact WB h3
  |frame=>
   simp only at h;obtain⟨y0,h0,h⟩:=awi.1 h;obtain⟨y1,h1,h⟩:=awi.1 h;obtain⟨y2,h2,h⟩:=awi.1 h;obtain⟨y3,h3,h⟩:=awi.1 h;obtain⟨y4,h4,h⟩:=awi.1 h;obtain⟨y5,h5,h⟩:=awi.1 h;obtain⟨y6,h6,h⟩:=awi.1 h;obtain⟨y7,h7,h⟩:=awi.1 h;obtain⟨y8,h8,h⟩:=awi.1 h;have h:=awr h;subst h;intro k hk
   match k,hk with
   |0,_=>exact WI h0
   |1,_=>exact WI h1
   |2,_=>exact WI h2
   |3,_=>exact WI h3
   |4,_=>exact WI h4
   |5,_=>exact WI h5
   |6,_=>exact WI h6
   |7,_=>exact WI h7
   |8,_=>exact WI h8
  |recd=>
   simp only at h;obtain⟨y0,h0,h⟩:=awi.1 h;obtain⟨y1,h1,h⟩:=awi.1 h;obtain⟨y2,h2,h⟩:=awi.1 h;obtain⟨y3,h3,h⟩:=awi.1 h;obtain⟨y4,h4,h⟩:=awi.1 h;obtain⟨y5,h5,h⟩:=awi.1 h;obtain⟨y6,h6,h⟩:=awi.1 h;obtain⟨y7,h7,h⟩:=awi.1 h;obtain⟨y8,h8,h⟩:=awi.1 h;obtain⟨y9,h9,h⟩:=awi.1 h;obtain⟨y10,h10,h⟩:=awi.1 h;obtain⟨y11,h11,h⟩:=awi.1 h;obtain⟨y12,h12,h⟩:=awi.1 h;have h:=awr h;subst h;intro k hk
   match k,hk with
   |0,_=>exact WI h0
   |1,_=>exact WI h1
   |2,_=>exact WI h2
   |3,_=>exact WI h3
   |4,_=>exact WI h4
   |5,_=>exact WI h5
   |6,_=>exact WI h6
   |7,_=>exact WI h7
   |8,_=>exact WI h8
   |9,_=>exact WI h9
   |10,_=>exact WB h10
   |11,_=>exact WI h11
   |12,_=>exact WI h12
  |order=>
   simp only at h;obtain⟨y0,h0,h⟩:=awi.1 h;obtain⟨y1,h1,h⟩:=awi.1 h;obtain⟨y2,h2,h⟩:=awi.1 h;obtain⟨y3,h3,h⟩:=awi.1 h;obtain⟨y4,h4,h⟩:=awi.1 h;obtain⟨y5,h5,h⟩:=awi.1 h;obtain⟨y6,h6,h⟩:=awi.1 h;obtain⟨y7,h7,h⟩:=awi.1 h;obtain⟨y8,h8,h⟩:=awi.1 h;obtain⟨y9,h9,h⟩:=awi.1 h;obtain⟨y10,h10,h⟩:=awi.1 h;obtain⟨y11,h11,h⟩:=awi.1 h;have h:=awr h;subst h;intro k hk
   match k,hk with
   |0,_=>exact WI h0
   |1,_=>exact WI h1
   |2,_=>exact WI h2
   |3,_=>exact WI h3
   |4,_=>exact WI h4
   |5,_=>exact WI h5
   |6,_=>exact WI h6
   |7,_=>exact WI h7
   |8,_=>exact WI h8
   |9,_=>exact WI h9
   |10,_=>exact WI h10
   |11,_=>exact WB h11
  |cell=>
   simp only at h;obtain⟨y0,h0,h⟩:=awi.1 h;obtain⟨y1,h1,h⟩:=awi.1 h;obtain⟨y2,h2,h⟩:=awi.1 h;obtain⟨y3,h3,h⟩:=awi.1 h;have h:=awr h;subst h;intro k hk
   match k,hk with
   |0,_=>exact WI h0
   |1,_=>exact WI h1
   |2,_=>exact WI h2
   |3,_=>exact WI h3
  |expo=>
   simp only at h;obtain⟨y0,h0,h⟩:=awi.1 h;obtain⟨y1,h1,h⟩:=awi.1 h;obtain⟨y2,h2,h⟩:=awi.1 h;have h:=awr h;subst h;intro k hk
   match k,hk with
   |0,_=>exact WI h0
   |1,_=>exact WI h1
   |2,_=>exact WI h2
  |state=>
   simp only at h;obtain⟨y0,h0,h⟩:=awi.1 h;obtain⟨y1,h1,h⟩:=awi.1 h;obtain⟨y2,h2,h⟩:=awi.1 h;obtain⟨y3,h3,h⟩:=awi.1 h;obtain⟨y4,h4,h⟩:=awi.1 h;obtain⟨y5,h5,h⟩:=awi.1 h;obtain⟨y6,h6,h⟩:=awi.1 h;obtain⟨y7,h7,h⟩:=awi.1 h;obtain⟨y8,h8,h⟩:=awi.1 h;obtain⟨y9,h9,h⟩:=awi.1 h;have h:=awr h;subst h;intro k hk
   match k,hk with
   |0,_=>exact WI h0
   |1,_=>exact WI h1
   |2,_=>exact WL h2
   |3,_=>exact WL h3
   |4,_=>exact WL h4
   |5,_=>exact WL h5
   |6,_=>exact WB h6
   |7,_=>exact WI h7
   |8,_=>exact WI h8
   |9,_=>exact WI h9
  |wal=>
   simp only at h;obtain⟨y0,h0,h⟩:=awi.1 h;obtain⟨y1,h1,h⟩:=awi.1 h;obtain⟨y2,h2,h⟩:=awi.1 h;obtain⟨y3,h3,h⟩:=awi.1 h;obtain⟨y4,h4,h⟩:=awi.1 h;obtain⟨y5,h5,h⟩:=awi.1 h;have h:=awr h;subst h;intro k hk
   match k,hk with
   |0,_=>exact WI h0
   |1,_=>exact WI h1
   |2,_=>exact WI h2
   |3,_=>exact WI h3
   |4,_=>exact WI h4
   |5,_=>exact WL h5
  |slot=>
   simp only at h;obtain⟨y0,h0,h⟩:=awi.1 h;obtain⟨y1,h1,h⟩:=awi.1 h;have h:=awr h;subst h;intro k hk
   match k,hk with
   |0,_=>exact WI h0
   |1,_=>exact WI h1
  |msg=>
   simp only at h;obtain⟨y0,h0,h⟩:=awi.1 h;obtain⟨y1,h1,h⟩:=awi.1 h;obtain⟨y2,h2,h⟩:=awi.1 h;obtain⟨y3,h3,h⟩:=awi.1 h;obtain⟨y4,h4,h⟩:=awi.1 h;obtain⟨y5,h5,h⟩:=awi.1 h;obtain⟨y6,h6,h⟩:=awi.1 h;obtain⟨y7,h7,h⟩:=awi.1 h;obtain⟨y8,h8,h⟩:=awi.1 h;have h:=awr h;subst h;intro k hk
   match k,hk with
   |0,_=>exact WI h0
   |1,_=>exact WI h1
   |2,_=>exact WI h2
   |3,_=>exact WI h3
   |4,_=>exact WI h4
   |5,_=>exact WI h5
   |6,_=>exact WI h6
   |7,_=>exact WI h7
   |8,_=>exact WI h8
  |note=>
   simp only at h;obtain⟨y0,h0,h⟩:=awi.1 h;obtain⟨y1,h1,h⟩:=awi.1 h;obtain⟨y2,h2,h⟩:=awi.1 h;obtain⟨y3,h3,h⟩:=awi.1 h;obtain⟨y4,h4,h⟩:=awi.1 h;have h:=awr h;subst h;intro k hk
   match k,hk with
   |0,_=>exact WI h0
   |1,_=>exact WI h1
   |2,_=>exact WI h2
   |3,_=>exact WI h3
   |4,_=>exact WI h4
  |feed=>
   simp only at h;obtain⟨y0,h0,h⟩:=awi.1 h;obtain⟨y1,h1,h⟩:=awi.1 h;have h:=awr h;subst h;intro k hk
   match k,hk with
   |0,_=>exact WL h0
   |1,_=>exact WB h1
  |gate=>
   simp only at h;obtain⟨y0,h0,h⟩:=awi.1 h;obtain⟨y1,h1,h⟩:=awi.1 h;obtain⟨y2,h2,h⟩:=awi.1 h;obtain⟨y3,h3,h⟩:=awi.1 h;obtain⟨y4,h4,h⟩:=awi.1 h;obtain⟨y5,h5,h⟩:=awi.1 h;obtain⟨y6,h6,h⟩:=awi.1 h;obtain⟨y7,h7,h⟩:=awi.1 h;obtain⟨y8,h8,h⟩:=awi.1 h;obtain⟨y9,h9,h⟩:=awi.1 h;obtain⟨y10,h10,h⟩:=awi.1 h;obtain⟨y11,h11,h⟩:=awi.1 h;obtain⟨y12,h12,h⟩:=awi.1 h;obtain⟨y13,h13,h⟩:=awi.1 h;obtain⟨y14,h14,h⟩:=awi.1 h;obtain⟨y15,h15,h⟩:=awi.1 h;obtain⟨y16,h16,h⟩:=awi.1 h;obtain⟨y17,h17,h⟩:=awi.1 h;obtain⟨y18,h18,h⟩:=awi.1 h;obtain⟨y19,h19,h⟩:=awi.1 h;obtain⟨y20,h20,h⟩:=awi.1 h;obtain⟨y21,h21,h⟩:=awi.1 h;obtain⟨y22,h22,h⟩:=awi.1 h;obtain⟨y23,h23,h⟩:=awi.1 h;obtain⟨y24,h24,h⟩:=awi.1 h;have h:=awr h;subst h;intro k hk
   match k,hk with
   |0,_=>exact WL h0
   |1,_=>exact WI h1
   |2,_=>exact WI h2
   |3,_=>exact WB h3
   |4,_=>exact WI h4
   |5,_=>exact WI h5
   |6,_=>exact WI h6
   |7,_=>exact WI h7
   |8,_=>exact WI h8
   |9,_=>exact WL h9
   |10,_=>exact WI h10
   |11,_=>exact WI h11
   |12,_=>exact WL h12
   |13,_=>exact WL h13
   |14,_=>exact WL h14
   |15,_=>exact WL h15
   |16,_=>exact WB h16
   |17,_=>exact WI h17
   |18,_=>exact WI h18
   |19,_=>exact WI h19
   |20,_=>exact WL h20
   |21,_=>exact WL h21
   |22,_=>exact WB h22
   |23,_=>exact WI h23
   |24,_=>exact WB h24
   |k+25,hk=>exact absurd hk (by show ¬(k+25<25);omega)
  |bts=>
   simp only at h;obtain⟨y0,h0,h⟩:=awi.1 h;have h:=awr h;subst h;intro k hk
   match k,hk with
   |0,_=>exact WL h0
  |keeper=>
   simp only at h;obtain⟨y0,h0,h⟩:=awi.1 h;obtain⟨y1,h1,h⟩:=awi.1 h;obtain⟨y2,h2,h⟩:=awi.1 h;obtain⟨y3,h3,h⟩:=awi.1 h;obtain⟨y4,h4,h⟩:=awi.1 h;have h:=awr h;subst h;intro k hk
   match k,hk with
   |0,_=>exact WL h0
   |1,_=>exact WI h1
   |2,_=>exact WI h2
   |3,_=>exact WB h3
   |4,_=>exact WI h4
  |a3=>
   simp only at h;obtain⟨y0,h0,h⟩:=awi.1 h;obtain⟨y1,h1,h⟩:=awi.1 h;obtain⟨y2,h2,h⟩:=awi.1 h;have h:=awr h;subst h;intro k hk
   match k,hk with
   |0,_=>exact WI h0
   |1,_=>exact WI h1
   |2,_=>exact WI h2
  |a4=>
   simp only at h;obtain⟨y0,h0,h⟩:=awi.1 h;obtain⟨y1,h1,h⟩:=awi.1 h;obtain⟨y2,h2,h⟩:=awi.1 h;obtain⟨y3,h3,h⟩:=awi.1 h;have h:=awr h;subst h;intro k hk
   match k,hk with
   |0,_=>exact WU h0
   |1,_=>exact WU h1
   |2,_=>exact WU h2
   |3,_=>exact WU h3
  |a6=>
   simp only at h;obtain⟨y0,h0,h⟩:=awi.1 h;obtain⟨y1,h1,h⟩:=awi.1 h;obtain⟨y2,h2,h⟩:=awi.1 h;obtain⟨y3,h3,h⟩:=awi.1 h;obtain⟨y4,h4,h⟩:=awi.1 h;obtain⟨y5,h5,h⟩:=awi.1 h;have h:=awr h;subst h;intro k hk
   match k,hk with
   |0,_=>exact WI h0
   |1,_=>exact WI h1
   |2,_=>exact WI h2
   |3,_=>exact WI h3
   |4,_=>exact WI h4
   |5,_=>exact WI h5
  |a20=>
   simp only at h;obtain⟨y0,h0,h⟩:=awi.1 h;obtain⟨y1,h1,h⟩:=awi.1 h;obtain⟨y2,h2,h⟩:=awi.1 h;obtain⟨y3,h3,h⟩:=awi.1 h;obtain⟨y4,h4,h⟩:=awi.1 h;obtain⟨y5,h5,h⟩:=awi.1 h;obtain⟨y6,h6,h⟩:=awi.1 h;obtain⟨y7,h7,h⟩:=awi.1 h;obtain⟨y8,h8,h⟩:=awi.1 h;obtain⟨y9,h9,h⟩:=awi.1 h;obtain⟨y10,h10,h⟩:=awi.1 h;obtain⟨y11,h11,h⟩:=awi.1 h;obtain⟨y12,h12,h⟩:=awi.1 h;obtain⟨y13,h13,h⟩:=awi.1 h;obtain⟨y14,h14,h⟩:=awi.1 h;obtain⟨y15,h15,h⟩:=awi.1 h;obtain⟨y16,h16,h⟩:=awi.1 h;obtain⟨y17,h17,h⟩:=awi.1 h;obtain⟨y18,h18,h⟩:=awi.1 h;obtain⟨y19,h19,h⟩:=awi.1 h;have h:=awr h;subst h;intro k hk
   match k,hk with
   |0,_=>exact WU h0
   |1,_=>exact WU h1
   |2,_=>exact WU h2
   |3,_=>exact WU h3
   |4,_=>exact WU h4
   |5,_=>exact WU h5
   |6,_=>exact WU h6
   |7,_=>exact WU h7
   |8,_=>exact WU h8
   |9,_=>exact WU h9
   |10,_=>exact WU h10
   |11,_=>exact WU h11
   |12,_=>exact WU h12
   |13,_=>exact WU h13
   |14,_=>exact WU h14
   |15,_=>exact WU h15
   |16,_=>exact WU h16
   |17,_=>exact WU h17
   |18,_=>exact WU h18
   |19,_=>exact WU h19
   |k+20,hk=>exact absurd hk (by show ¬(k+20<20);omega)
  |big=>
   simp only at h;obtain⟨y0,h0,h⟩:=awi.1 h;obtain⟨y1,h1,h⟩:=awi.1 h;have h:=awr h;subst h;intro k hk
   match k,hk with
   |0,_=>exact WW h0
   |1,_=>exact WW h1
  |went=>
   simp only at h;obtain⟨y0,h0,h⟩:=awi.1 h;obtain⟨y1,h1,h⟩:=awi.1 h;obtain⟨y2,h2,h⟩:=awi.1 h;obtain⟨y3,h3,h⟩:=awi.1 h;obtain⟨y4,h4,h⟩:=awi.1 h;obtain⟨y5,h5,h⟩:=awi.1 h;obtain⟨y6,h6,h⟩:=awi.1 h;obtain⟨y7,h7,h⟩:=awi.1 h;obtain⟨y8,h8,h⟩:=awi.1 h;obtain⟨y9,h9,h⟩:=awi.1 h;obtain⟨y10,h10,h⟩:=awi.1 h;obtain⟨y11,h11,h⟩:=awi.1 h;obtain⟨y12,h12,h⟩:=awi.1 h;obtain⟨y13,h13,h⟩:=awi.1 h;obtain⟨y14,h14,h⟩:=awi.1 h;obtain⟨y15,h15,h⟩:=awi.1 h;obtain⟨y16,h16,h⟩:=awi.1 h;obtain⟨y17,h17,h⟩:=awi.1 h;obtain⟨y18,h18,h⟩:=awi.1 h;obtain⟨y19,h19,h⟩:=awi.1 h;obtain⟨y20,h20,h⟩:=awi.1 h;obtain⟨y21,h21,h⟩:=awi.1 h;obtain⟨y22,h22,h⟩:=awi.1 h;obtain⟨y23,h23,h⟩:=awi.1 h;obtain⟨y24,h24,h⟩:=awi.1 h;obtain⟨y25,h25,h⟩:=awi.1 h;obtain⟨y26,h26,h⟩:=awi.1 h;have h:=awr h;subst h;intro k hk
   match k,hk with
   |0,_=>exact WL h0
   |1,_=>exact WI h1
   |2,_=>exact WI h2
   |3,_=>exact WB h3
   |4,_=>exact WI h4
   |5,_=>exact WI h5
   |6,_=>exact WI h6
   |7,_=>exact WI h7
   |8,_=>exact WI h8
   |9,_=>exact WL h9
   |10,_=>exact WI h10
   |11,_=>exact WI h11
   |12,_=>exact WL h12
   |13,_=>exact WL h13
   |14,_=>exact WL h14
   |15,_=>exact WL h15
   |16,_=>exact WB h16
   |17,_=>exact WI h17
   |18,_=>exact WI h18
   |19,_=>exact WI h19
   |20,_=>exact WL h20
   |21,_=>exact WL h21
   |22,_=>exact WB h22
   |23,_=>exact WI h23
   |24,_=>exact WB h24
   |25,_=>exact WL h25
   |26,_=>exact WI h26
   |k+27,hk=>exact absurd hk (by show ¬(k+27<27);omega)
theorem Zt:∀(vs:List AV) (l:List AV) (k:Nat),(IB l k vs).length=l.length
 |[],l,k=>rfl
 |v::vs,l,k=>by simp [IB,Zt vs]
theorem Ub:∀(vs:List AV) (l:List AV) (k o:Nat),k+vs.length<=l.length->
 (IB l k vs)[o]? =if h:k<=o/\o<k+vs.length then some (vs[o - k]'(by omega))else l[o]?
 |[],l,k,o,_=>by
  have:¬(k<=o/\o<k+([]:List AV).length):=by simp
  rw[awU this,IB]
 |v::vs,l,k,o,hk=>by
  have hk':k+1+vs.length<=(l.set k v).length:=by simp at hk ⊢; omega
  rw[IB,Ub vs _ _ _ hk']
  by_cases h1:k+1<=o/\o<k+1+vs.length
  ·have h2:k<=o/\o<k+(v::vs).length:=by simp;omega
   rw[awJ h1,awJ h2]
   congr 1
   have:o - k=(o - (k+1))+1:=by omega
   simp only[this,ayc]
  ·rw[awU h1]
   by_cases h3:o=k
   ·subst h3
    have h2:o<=o/\o<o+(v::vs).length:=by simp
    rw[awJ h2]
    have:o<l.length:=by simp at hk;omega
    simp [this]
   ·have h2:¬(k<=o/\o<k+(v::vs).length):=by simp;omega
    rw[awU h2,List.getElem?_set_ne (awE h3)]
section
variable {P:Program} {M N:Mem} {w:World} {hp:Nat->Option Ent} {ρ:Operand->Value} {ev:Operand->AV} {i:Nat}
theorem Jz.le (h:Le M N) {cs:List AV} {vs:Array Value} (hs:Jz M cs vs):Jz N cs vs:=⟨hs.1,hs.2.1,fun i h1 h2=>(hs.2.2 i h1 h2).le h⟩
theorem Jz.set {cs ys:List AV} {c d:Array Value} {off:Nat} (h:Jz M cs c) (k:Jz M ys d) (hl:off+ys.length<=cs.length):Jz M (IB cs off ys) (qc c off d.toList):=by
 obtain⟨h1,h2,h3⟩:=h;obtain⟨k1,k2,k3⟩:=k;have hd:off+d.toList.length<=c.size:=by simp;omega
 have key:∀o (ho:o<(qc c off d.toList).size),((qc c off d.toList)[o]).oneCell=true/\∀(ho':o<(IB cs off ys).length),bT M (IB cs off ys)[o] (qc c off d.toList)[o]:=fun o ho=>by
  have g:=Ko d.toList c off o hd;rw[awW ho]at g;by_cases hin:off<=o/\o<off+d.toList.length
  ·rw[awJ hin]at g;have g:=awr g;have hin':off<=o/\o<off+ys.length:=by simp at hin;omega
   rw[g];simp only[axN];refine⟨k2 _ (by simp at hin;omega),fun ho'=> ?_⟩;have g':=Ub ys cs off o hl;rw[awL ho',awJ hin']at g';rw[awr g'];exact k3 _ (by omega) (by omega)
  ·rw[awU hin]at g;have ho2:o<c.size:=by rw[oP]at ho;exact ho
   rw[awW ho2]at g;have g:=awr g;have hin':¬(off<=o/\o<off+ys.length):=by simp at hin;omega
   rw[g];refine⟨h2 _ ho2,fun ho'=> ?_⟩;have g':=Ub ys cs off o hl;rw[awL ho',awU hin',awL (by omega)]at g';rw[awr g'];exact h3 _ (by omega) ho2
 refine⟨by rw[oP,Zt,h1],fun o ho=>(key o ho).1,fun o ho ho'=>(key o ho').2 ho⟩
theorem apN {y:AV} (h:Nh y.cellsA=true):boxOk y=true:=by
 cases y<;>first | rfl | (simpa [AV.cellsA,Nh,boxOk] using h)
theorem NG {y:AV} {v:Value} (h:boxOk y=true) (hs:bT M y v):Jz M y.cellsA v.cells:=by
 obtain⟨g1,g2⟩:=akY h hs;exact⟨g1,anm h hs,g2⟩
theorem Wu:∀(l:List Value) (k off:Nat) (c:Array Value),(l.zipIdx k).foldl (fun cs (x:Value×Nat)=>cs.setIfInBounds (off+x.2) x.1) c=qc c (off+k) l
 |[],k,off,c=>rfl
 |v::l,k,off,c=>by
  simp only[List.zipIdx_cons,aw6,qc]
  rw[Wu l (k+1) off]
  rfl
theorem ahp {pl:Nat->Option (Nat×Nat)}:∀(ps:List (Nat×AV)) (qs:List (Nat×Value)) (cs cs':List AV) (c:Array Value),Jz M cs c->ps.length=qs.length->
 (∀k (h:k<ps.length) (h':k<qs.length),ps[k].1=qs[k].1/\bT M ps[k].2 qs[k].2)->ahP pl cs ps=some cs'->∃c',Instr.fill pl c qs=some c'/\Jz M cs' c'
 |[],qs,cs,cs',c,h,hl,_,hf=>by
  have:qs=[]:=by simpa using hl.symm
  subst this
  simp only[ahP,awj]at hf
  subst hf
  exact⟨c,rfl,h⟩
 |(k,y)::ps,[],cs,cs',c,h,hl,_,hf=>by simp at hl
 |(k,y)::ps,(k',v)::qs,cs,cs',c,h,hl,hs,hf=>by
  obtain⟨e1,e2⟩:=hs 0 (by simp) (by simp)
  simp only[ayW]at e1 e2
  subst e1
  simp only[ahP]at hf
  cases hp:pl k with
  |none=>simp [hp]at hf
  |some q=>
   obtain⟨off,n⟩:=q
   simp only[hp]at hf
   cases hb:boxOk y&&Nat.beq y.cellsA.length n&&Nat.ble (off+n) cs.length with
   |false=>simp [hb]at hf
   |true=>
    simp only[hb,cond_true]at hf
    simp only[awp]at hb
    obtain⟨⟨hb1,hb2⟩,hb3⟩:=hb
    have hn:=aws hb2
    have hle:=axk hb3
    have hv:=NG hb1 e2
    have hset:=h.set hv (off:=off) (by omega)
    obtain⟨c',g1,g2⟩:=ahp ps qs _ cs' _ hset (by simpa using hl) (fun j h1 h2=>by
     have:=hs (j+1) (by simpa using h1) (by simpa using h2)
     simpa using this) hf
    refine⟨c',?_,g2⟩
    have hsz:v.cells.size=n:=by rw[hv.1,hn]
    have hfit:¬(v.cells.size≠n||off+v.cells.size>c.size)=true:=by
     simp [hsz,h.1];omega
    simp only[Instr.fill,hp,awg hfit]
    rw[<-g1]
    congr 1
    rw[<-Array.foldl_toList,Array.toList_zipIdx]
    exact Wu v.cells.toList 0 off c
theorem afP (h:∀x,bT M (ev x) (ρ x)):∀(l:List (Nat×Operand)),(lK ev l).length=(l.map fun(x:Nat×Operand)=>(x.1,ρ x.2)).length/\
 ∀k (h1:k<(lK ev l).length) (h2:k<(l.map fun(x:Nat×Operand)=>(x.1,ρ x.2)).length),(lK ev l)[k].1=(l.map fun(x:Nat×Operand)=>(x.1,ρ x.2))[k].1/\bT M (lK ev l)[k].2 (l.map fun(x:Nat×Operand)=>(x.1,ρ x.2))[k].2
 |[]=>⟨rfl,fun k h1=>by simp [lK]at h1⟩
 |(j,x)::l=>by
  obtain⟨g1,g2⟩:=afP h l
  refine⟨by simp [lK]at g1 ⊢; exact g1,fun k h1 h2=> ?_⟩
  cases k with
  |zero=>exact⟨rfl,h x⟩
  |succ k=>exact g2 k (by simpa [lK] using h1) (by simpa using h2)
theorem aeo {t:TypeId} (hz:CX P t≠[]):∃v,Jz M (CX P t) v.cells/\(zeroValue t).run P w= .ok v w:=by
 obtain⟨v,h1,h2,h3⟩:=ajY (w:=w) hz;obtain⟨g1,g2⟩:=QJ (M:=M) v;exact⟨v,by rw[h1];exact⟨g1,h2,g2⟩,h3⟩
theorem run_places (fs:Array Field) (h:∀f∈fs.toList,P.info? f.type≠none):
 (fs.mapM fun f=>do pure (f.offset,<-sizeOf f.type):Sem (Array (Nat×Nat))).run P w= .ok (fs.map fun f=>(f.offset,fM P f.type)) w:=by
 obtain⟨l⟩:=fs
 simp only[List.mapM_toArray,Sem.run_map]
 have key:∀(l:List Field),(∀f∈l,P.info? f.type≠none)->(l.mapM fun f=>do pure (f.offset,<-sizeOf f.type):Sem (List (Nat×Nat))).run P w= .ok (l.map fun f=>(f.offset,fM P f.type)) w:=by
  intro l
  induction l with
  |nil=>intro _;simp
  |cons f l ih=>
   intro h
   simp only[ayJ,Sem.run_bind,WfP.size (h f (by simp)),Result.andThen_ok,Sem.run_pure,ih (fun g hg=>h g (by simp [hg])),awS]
 rw[key l h]
 simp
theorem asP (wf:WfP P) (hev:∀x,bT M (ev x) (ρ x)) {t:TypeId} {ps:Array (Nat×Operand)} {pl:Nat->Option (Nat×Nat)} {cs:List AV} (hpl:partsOf P t=some pl) (hz:CX P t≠[])
 (hf:ahP pl (CX P t) (lK ev ps.toList)=some cs):POk P M w (Instr.build t (ps.map fun(i,x)=>(i,ρ x))) (.agg cs):=by
 obtain⟨v,g1,g2⟩:=aeo (M:=M) (w:=w) hz
 obtain⟨m1,m2⟩:=afP hev ps.toList
 obtain⟨c,f1,f2⟩:=ahp (M:=M) _ _ _ _ _ g1 m1 m2 hf
 have hps:(ps.map fun(i,x)=>(i,ρ x)).toList=ps.toList.map fun(x:Nat×Operand)=>(x.1,ρ x.2):=by simp
 refine⟨.agg c,?_,.agg _ _ f2.1 f2.2.1 f2.2.2⟩
 unfold partsOf at hpl
 split at hpl
 ·rename_i fs hu
  simp only[awj]at hpl
  have hpl':(fun x=>(fs.map fun f=>(f.offset,fM P f.type))[x]?)=pl:=by
   funext x
   rw[<-hpl]
   simp only[ayX]
   cases fs[x]? <;>rfl
  simp only[Instr.build,Sem.run_bind,g2,Result.andThen_ok,iK w hu,run_places fs (wf.fld _ _ hu),hps,hpl',f1,Sem.run_pure]
 ·rename_i n el hu
  simp only[awj]at hpl
  have hpl':(fun i=>some (i*fM P el,fM P el))=pl:=hpl
  simp only[Instr.build,Sem.run_bind,g2,Result.andThen_ok,iK w hu,WfP.size (wf.arr _ _ _ hu),hps,hpl',f1,Sem.run_pure]
 ·simp at hpl
end
section
variable {P:Program} {M N:Mem} {w:World} {hp:Nat->Option Ent} {ρ:Operand->Value} {ev:Operand->AV} {i:Nat}
theorem asz {e:E} {l:List (den e)} {j:Nat} {x:den e} {c c':Array Value} (hc:l.length*esz e<=c.size) (hsz:c'.size=c.size)
 (hold:∀i k,(hi:i<l.length)->k<esz e->∃v,c[i*esz e+k]? =some v/\bT M (nth (cells e l[i]) k) v)
 (hkeep:∀i k,i<l.length->k<esz e->i≠j->c'[i*esz e+k]? =c[i*esz e+k]?)
 (hnew:∀k,k<esz e->∃v,c'[j*esz e+k]? =some v/\bT M (nth (cells e x) k) v):xC M (.arr e (dP l j x)) c':=by
 refine⟨by simp only[dP,List.length_set];omega,fun i k hi hk=> ?_⟩
 simp only[dP,List.length_set]at hi
 by_cases hij:i=j
 ·subst hij
  obtain⟨v,g1,g2⟩:=hnew k hk
  refine⟨v,g1,?_⟩
  simp only[dP,ay8]
  exact g2
 ·obtain⟨v,g1,g2⟩:=hold i k hi hk
  refine⟨v,by rw[hkeep i k hi hk hij];exact g1,?_⟩
  simp only[dP,List.getElem_set_ne (awE hij)]
  exact g2
theorem arD (H:OpH P M w hp ρ ev i) (o:Oper) {t:TypeId} {x y:Operand} (ho:o.op= .store t x y) {u:List (Nat×Option Ent)} (hsz:fM P t=(ev y).cellsA.length) (h1:1<=fM P t)
 (h:ams hp (ev x) (ev y)=some u):zx P M w i (execOp ρ o) ⟨.undef,u⟩:=by
 have hx:=H.ev x
 have hy:=H.ev y
 unfold ams at h
 cases hck:Nh (ev y).cellsA with
 |false=>simp [hck]at h
 |true=>
  simp only[hck,cond_true]at h
  have hv:=NG (apN hck) hy
  have hvs:(ρ y).cells.size=fM P t:=by rw[hv.1,hsz]
  have hone:∀v∈(ρ y).cells.toList,v.oneCell=true:=fun v hv'=>by
   obtain⟨k,hk,rfl⟩:=axu hv'
   have:=hv.2.1 k (by simpa using hk)
   simpa using this
  have run:∀(blk:Blk) (b off:Nat) (c:Array Value) (ty:TypeId) (fr:Nat×Nat),ρ x= .pointer (some ⟨b,off,none⟩)->w.heap[b]? =some (.cells c ty fr)->Ib blk c fr->off+(ρ y).cells.size<=c.size->
   (execOp ρ o).run P w= .ok .skip { w with heap:=w.heap.setIfInBounds b (.cells (qc c off (ρ y).cells.toList) ty fr) }:=fun blk b off c ty fr hx hb hz hfit=>by
   have hst:=Om (P:=P) b off ty fr (ρ y).cells.toList 0 c w hb hz (by simpa using hfit) hone
   simp only[axB]at hst
   simp only[execOp,ho,hx,Instr.storeAt,Instr.sureAddr,storeVar,Sem.run_bind,Sem.run_pure,Result.andThen_ok,aiq w (show fM P t≠0 by omega),hvs,ne_eq,awK,if_false,hst]
  split at h
  ·
   rename_i id off hex
   rw[hex]at hx
   split at h
   ·rename_i cs he
    cases hle:Nat.ble (off+(ev y).cellsA.length) cs.length with
    |false=>simp [hle]at h
    |true=>
     simp only[hle,cond_true,awj]at h
     subst h
     have hle':=axk hle
     obtain⟨v0,hv0⟩:∃v,ρ x=v:=⟨_,rfl⟩
     rw[hv0]at hx run
     cases hx with | mp id off v hU hvx hh=>
     have hm:=H.hp _ _ he
     obtain⟨b,fz,cs',heq,hb,hpv⟩:=hh _ hm
     cases heq
     obtain⟨_,_,c,ty,fr,hc,hz,hblk⟩:=H.rel.is hm hb
     have hset:=Jz.set (M:=M) (cs:=cs) (c:=c) ⟨hblk.1.1,hblk.1.2,hblk.2⟩ hv (off:=off) hle'
     have hr:=run _ b off c ty fr hpv (by rw[<-H.H];exact hc) hz (by rw[hvs,hblk.1.1];omega)
     refine⟨_,undef,_,_,hr,.inr ⟨rfl,rfl⟩,Stp.write H.rel H.H H.F id b _ (.raw (IB cs off (ev y).cellsA)) hm hb (by simp [eU,Zt]) c (qc c off (ρ y).cells.toList) ty fr hc (oP _ _ _) ⟨⟨hset.1,hset.2.1⟩,hset.2.2⟩ rfl rfl rfl rfl,fun j=> ?_,.undef _,fun j hj=> .inl hj⟩
     rw[oQ];rfl
   ·simp at h
  ·
   rename_i id k j hex
   rw[hex]at hx
   split at h
   ·rename_i e l he
    cases hle:Nat.ble (j+(ev y).cellsA.length) (esz e)with
    |false=>simp [hle]at h
    |true=>
     simp only[hle,cond_true]at h
     have hle':=axk hle
     split at h
     ·rename_i xx hof
      cases hany:(jG hp (ev y).cellsA).2.any (fun k=>Nat.beq k id)with
      |true=>simp [hany]at h
      |false=>
       simp only[hany,ayY,cond_true,awj]at h
       subst h
       obtain⟨v0,hv0⟩:∃v,ρ x=v:=⟨_,rfl⟩
       rw[hv0]at hx run
       cases hx with | ep id k j v hU hvx hh=>
       have hm:=H.hp _ _ he
       obtain⟨b,fz,t',l',heq,hb,hkl,hpv⟩:=hh _ hm
       cases heq
       have hnid:id∉(jG hp (ev y).cellsA).2:=fun hmem=>by
        have:=List.any_eq_false.1 hany id hmem
        simp at this
       obtain⟨N,s1,s2,s3,s4,s5⟩:=Jd (w:=w) H.hp H.rel H.H (jG hp (ev y).cellsA).2 (JJ _)
       have hNid:N.hp id=some ⟨false,.arr e l⟩:=by
        rw[s2,over,ku,awg hnid];exact hm
       have hNb:N.β id=some b:=by rw[s4];exact hb
       obtain⟨_,_,c,ty,fr,hc,hz,hblk⟩:=s1.hrel.is hNid hNb
       obtain⟨hlc,hcs⟩:=hblk
       have hseal:=Zd (cs:=(ev y).cellsA) (f:=fun i=>(ρ y).cells.getD i undef) H.hp s1.le s1.hrel (aaT s2) (fun i hi=>by
        have hi':i<(ρ y).cells.size:=by rw[hv.1];exact hi
        simp only[Array.getD,hi',awJ]
        exact hv.2.2 i hi hi')
       obtain⟨wk1,wk2⟩:=Ec e _ xx hof
       have hget:aj l k=l[k]:=by simp [aj,List.getD,hkl]
       have hys:(ρ y).cells.toList.length=(ev y).cellsA.length:=by simp [hv.1]
       have hkk:(k+1)*esz e<=c.size:=aw4 (awH _ hkl) hlc
       rw[awz,axb]at hkk
       have hfit:k*esz e+j+(ρ y).cells.toList.length<=c.size:=by omega
       have hr:=run _ b (k*esz e+j) c ty fr hpv (by rw[<-s1.H];exact hc) hz (by simpa using hfit)
       have hblk':xC N (.arr e (dP l k xx)) (qc c (k*esz e+j) (ρ y).cells.toList):=by
        refine asz hlc (oP _ _ _) hcs (fun i' k' hi' hk' hne=> ?_) (fun k' hk'=> ?_)
        ·rw[Ko _ _ _ _ hfit,awU]
         intro hin
         rcases ay9 hne with hlt | hlt
         ·have:=awH (esz e) (show i'+1<=k from hlt)
          rw[awz,axb]at this;omega
         ·have:=awH (esz e) (show k+1<=i' from hlt)
          rw[awz,axb]at this;omega
        ·have hk2:k'<(IB (cells e (aj l k)) j (jG hp (ev y).cellsA).1).length:=by rw[wk1];exact hk'
         have hwk:=wk2 k' hk'
         rw[vG _ _ hk2]at hwk
         have hg:=Ub (jG hp (ev y).cellsA).1 (cells e (aj l k)) j k' (by rw[Am,xQ];exact hle')
         rw[awL hk2]at hg
         rw[Ko _ _ _ _ hfit]
         by_cases hin:j<=k'/\k'<j+(jG hp (ev y).cellsA).1.length
         ·rw[awJ hin]at hg
          have hin':k*esz e+j<=k*esz e+k'/\k*esz e+k'<k*esz e+j+(ρ y).cells.toList.length:=by rw[hys];rw[Am]at hin;omega
          rw[awJ hin']
          refine⟨_,rfl,hwk.sees ?_⟩
          rw[awr hg]
          have hlt:k' - j<(ρ y).cells.size:=by rw[hv.1];rw[Am]at hin;omega
          have:=hseal (k' - j) (by omega)
          simp only[Array.getD,hlt,awJ]at this
          have e1:k*esz e+k' - (k*esz e+j)=k' - j:=by omega
          simp only[e1,axN]
          exact this
         ·rw[awU hin]at hg
          have hin':¬(k*esz e+j<=k*esz e+k'/\k*esz e+k'<k*esz e+j+(ρ y).cells.toList.length):=by rw[hys];rw[Am]at hin;omega
          rw[awU hin']
          obtain⟨v,g1,g2⟩:=hcs k k' hkl hk'
          refine⟨v,g1,hwk.sees ?_⟩
          rw[awL (by rw[xQ];exact hk')]at hg
          rw[awr hg]
          rw[vG _ _ (by rw[xQ];exact hk')]at g2
          simpa only[hget] using g2
       have s6:=Stp.write (w:=w) (w':={ w with heap:=w.heap.setIfInBounds b (.cells (qc c (k*esz e+j) (ρ y).cells.toList) ty fr) }) s1.hrel s1.H (s1.Fsz H.F) id b _ (.arr e (dP l k xx)) hNid hNb (by simp [eU,dP]) c _ ty fr hc (oP _ _ _) hblk' rfl rfl rfl rfl
       refine⟨_,undef,_,_,hr,.inr ⟨rfl,rfl⟩,s1.trans s6 H.rel H.H,fun q=> ?_,.undef _,fun q hq=> .inl (by rw[<-s3];exact hq)⟩
       show Ey N.hp id _ q=_
       rw[ru]
       by_cases hq:q=id
       ·subst hq
        rw[bQ,over,ku,awg hnid]
        simp only[oQ,bQ]
       ·rw[dH _ _ hq,s2]
        simp only[over]
        cases look (freeze hp (jG hp (ev y).cellsA).2) q with
        |some _=>rfl
        |none=>simp [look,iL (awE hq)]
     ·simp at h
   ·simp at h
  ·simp at h
end
structure EOk (P:Program) (t:TypeId) (e:E):Prop where
 ex:∃inf z,P.info? t=some inf/\inf.size=esz e/\inf.zero=some z/\inf.bytes<=2048
 z:Ew e (CX P t)=some default
section
variable {P:Program} {M N:Mem} {w w':World} {hp:Nat->Option Ent} {ρ:Operand->Value} {ev:Operand->AV} {i:Nat}
theorem EOk.zero {t:TypeId} {e:E} (h:EOk P t e) (M:Mem):∃inf z,P.info? t=some inf/\inf.size=esz e/\inf.zero=some z/\inf.bytes<=2048/\z.cells.size=esz e/\
 ∀k,k<esz e->∃v,z.cells[k]? =some v/\bT M (nth (cells e default) k) v:=by
 obtain⟨inf,z,h1,h2,h3,h4⟩:=h.ex
 obtain⟨k1,k2⟩:=Ec e _ _ h.z
 have hne:CX P t≠[]:=by intro he;rw[he]at k1;exact CO e k1.symm
 have hzt:CX P t=cellsOfV z:=by
  unfold CX at hne ⊢
  simp only[h1,h3]at hne ⊢
  cases hc:z.cells.all Value.oneCell with
  |true=>simp
  |false=>simp [hc]at hne
 obtain⟨g1,g2⟩:=QJ (M:=M) z
 rw[<-hzt]at g1 g2
 refine⟨inf,z,h1,h2,h3,h4,by rw[g1,k1],fun k hk=> ?_⟩
 have hk':k<z.cells.size:=by rw[g1,k1];exact hk
 refine⟨z.cells[k],awW hk',(k2 k hk).sees ?_⟩
 rw[vG _ _ (by rw[k1];exact hk)]
 exact g2 k (by rw[k1];exact hk) hk'
theorem EOk.size {t:TypeId} {e:E} (h:EOk P t e):∀w,(sizeOf t).run P w= .ok (esz e) w:=fun w=>by
 obtain⟨inf,z,h1,h2,_⟩:=h.ex;rw[WM w h1,h2]
theorem EOk.sizeT {t:TypeId} {e:E} (h:EOk P t e):fM P t=esz e:=by
 obtain⟨inf,z,h1,h2,_⟩:=h.ex;simp [Av.fM,h1,h2]
theorem zx.newArr (H:OpH P M w hp ρ ev i) {u1:List (Nat×Option Ent)} (s1:Stp M w N w) (hN:∀j,N.hp j=over u1 M.hp j) (hU:N.U=M.U) (hi:look u1 i=none) {s:Sem Next} {e:E} {l:List (den e)}
 {c:Array Value} {t:TypeId} {fr:Nat×Nat} {n cap:Nat} (hn:l.length=n) (hc:n<=cap) (hcc:cap*esz e<=c.size) (hz:Ib (.arr e l) c fr)
 (hr:s.run P w= .ok (.value (.slice (some ⟨w.heap.size,0,none⟩) n cap)) w') (hw:w'.heap=w.heap.push (.cells c t fr)) (h2:w'.os=w.os) (h3:w'.tape=w.tape) (h4:w'.output=w.output)
 (hb:∀i k,(hi:i<l.length)->k<esz e->∃v,c[i*esz e+k]? =some v/\bT M (nth (cells e l[i]) k) v):
 zx P M w i s ⟨.mf i,u1++[(i,some ⟨false,.arr e l⟩)]⟩:=by
 have hblk:xC N (.arr e l) c:=⟨by rw[hn];exact aw4 (awH _ hc) hcc,fun i k hi hk=>let ⟨v,g1,g2⟩:=hb i k hi hk;⟨v,g1,g2.le s1.le⟩⟩
 have hiU:¬N.U i:=by rw[hU];exact H.new i (awk _) (by omega)
 have s2:=Stp.alloc (w:=w) (w':=w') s1.hrel s1.H (s1.Fsz H.F) i hiU (.arr e l) c t fr hz hblk hw h2 h3 h4
 refine⟨_,_,_,_,hr,.inl rfl,s1.trans s2 H.rel H.H,fun q=> ?_,?_,fun q hq=> ?_⟩
 ·show Ey N.hp i _ q=_
  rw[ru]
  by_cases hq:q=i
  ·subst hq
   rw[bQ,over,hi]
   simp only[oQ,bQ]
  ·rw[dH _ _ hq,hN]
   simp only[over]
   cases look u1 q with
   |some _=>rfl
   |none=>simp [look,iL (awE hq)]
 ·subst hn
  refine .mf i _ (.inr rfl) rfl fun e' he'=> ?_
  have:e'=⟨false,.arr e l⟩:=by simpa [Mem.new,bQ] using he'.symm
  subst this
  refine⟨false,e,l,_,cap,rfl,rfl,hc,?_⟩
  have hsz:N.H.size=w.heap.size:=by rw[s1.H]
  have hβ:(N.new i ⟨false,.arr e l⟩ (.cells c t fr)).β i=some N.H.size:=by simp [Mem.new,bQ]
  unfold xE
  rw[hβ]
  refine⟨⟨0,by rw[hsz],.inr (by simp)⟩,c.size,?_,by simpa using hcc⟩
  simp [bsize,Mem.new]
 ·rcases hq with h | h
  ·exact .inl (by rw[<-hU];exact h)
  ·exact .inr (by omega)
theorem abq {z:Array Value} {sz n i k:Nat} (hz:z.size=sz) (hk:k<sz) (hi:i*sz+k<n):(madeCells z n)[i*sz+k]? =z[k]? :=by
 have hm:(i*sz+k)%z.size=k:=by rw[hz,ayt,Nat.mul_add_mod];exact Nat.mod_eq_of_lt hk
 have hk':k<z.size:=by omega
 simp only[madeCells,ayX];have:(Array.range n)[i*sz+k]? =some (i*sz+k):=by simp [hi]
 rw[this];simp only[axX,hm];rw[awW hk',getElem!_pos z k hk']
theorem aiE (H:OpH P M w hp ρ ev i) (o:Oper) {t el:TypeId} {x y:Operand} (ho:o.op= .makeSlice t x y) (hu:P.underlying t=some (.slice el)) {e:E} (he:EOk P el e) {k k':IntKind} {n m:Int}
 (hx:ev x= .int k n) (hy:ev y= .int k' m) (hob:band (band (ile 0 n) (ile n m)) (ile m acF)=true):
 zx P M w i (execOp ρ o) ⟨.mf i,[(i,some ⟨false,.arr e (sK (den e) (itn n))⟩)]⟩:=by
 simp only[rZ,jV,acF]at hob
 obtain⟨inf,z,g1,g2,g3,g4,g5,g6⟩:=he.zero M
 have hx':=H.ev x
 have hy':=H.ev y
 rw[hx]at hx';rw[hy]at hy'
 obtain⟨vx,hvx⟩:∃v,ρ x=v:=⟨_,rfl⟩
 obtain⟨vy,hvy⟩:∃v,ρ y=v:=⟨_,rfl⟩
 rw[hvx]at hx';rw[hvy]at hy'
 cases hx';cases hy'
 have hby:(inf.bytes:Int)*m<=281474976710656:=by
  have h1:(inf.bytes:Int)*m<=2048*m:=axZ (by omega) (by omega)
  omega
 have hr:=run_make (P:=P) w t el inf z hu g1 g3 k k' n m hob.1.1 hob.1.2 hby (by omega)
 have hsz:(madeCells z.cells (m.toNat*inf.size)).size=m.toNat*esz e:=by rw[size_madeCells,g2]
 refine zx.newArr H (N:=M) (u1:=[]) (Stp.refl H.rel H.H) (fun _=>rfl) rfl rfl (n:=n.toNat) (cap:=m.toNat) (by simp [sK,itn]) (by omega) (by rw[hsz];exact awk _) (af8 _ _)
  (w':=w.alloc (.cells (madeCells z.cells (m.toNat*inf.size)) el)) (by simp [execOp,ho,hvx,hvy,hr]) rfl rfl rfl rfl (fun a b ha hb=> ?_)
 simp only[sK,axv,itn]at ha
 obtain⟨v,q1,q2⟩:=g6 b hb
 refine⟨v,?_,by simpa [sK] using q2⟩
 rw[abq g5 hb,q1]
 rw[g2]
 have:=awH (esz e) (show a+1<=m.toNat by omega)
 rw[awz,axb]at this
 omega
theorem ahV (sz n:Nat):∀(qs:List (Nat×Value)) (c:Array Value),c.size=n*sz->(∀q∈qs,q.1<n/\q.2.cells.size=sz)->(qs.map Prod.fst).Nodup->
 ∃c',Instr.fill (fun i=>some (i*sz,sz)) c qs=some c'/\c'.size=n*sz/\∀k j,k<n->j<sz->c'[k*sz+j]? =match look qs k with | none=>c[k*sz+j]? | some v=>v.cells[j]?
 |[],c,hc,_,_=>⟨c,rfl,hc,fun _ _ _ _=>rfl⟩
 |(k0,v0)::qs,c,hc,hq,hd=>by
  obtain⟨hk0,hs0⟩:=hq (k0,v0) (by simp)
  simp only at hk0 hs0
  simp only[awS,List.nodup_cons]at hd
  have hfit0:k0*sz+sz<=n*sz:=by
   have:=awH sz (show k0+1<=n from hk0)
   rwa[awz,axb]at this
  have hfit:¬(v0.cells.size≠sz||k0*sz+v0.cells.size>c.size)=true:=by
   simp [hs0,hc];omega
  obtain⟨c',g1,g2,g3⟩:=ahV sz n qs (qc c (k0*sz) v0.cells.toList) (by rw[oP,hc]) (fun q hqq=>hq q (by simp [hqq])) hd.2
  refine⟨c',?_,g2,fun k j hk hj=> ?_⟩
  ·simp only[Instr.fill,awg hfit]
   rw[<-g1]
   congr 1
   rw[<-Array.foldl_toList,Array.toList_zipIdx]
   exact Wu v0.cells.toList 0 (k0*sz) c
  ·rw[g3 k j hk hj]
   have hlen:v0.cells.toList.length=sz:=by simp [hs0]
   have hg:=Ko v0.cells.toList c (k0*sz) (k*sz+j) (by rw[hlen,hc];exact hfit0)
   by_cases hkk:k=k0
   ·subst hkk
    have hl:look qs k=none:=by
     have:∀(qs:List (Nat×Value)),k∉qs.map Prod.fst->look qs k=none:=by
      intro qs
      induction qs with
      |nil=>intro _;rfl
      |cons q qs ih=>
       obtain⟨a,b⟩:=q
       intro hm
       simp only[awS,aww,not_or]at hm
       simp only[look,iL (awE hm.1),cond_false]
       exact ih hm.2
     exact this qs hd.1
    simp only[hl,look,acO,cond_true]
    rw[hg,awJ (by rw[hlen];omega)]
    have hj':j<v0.cells.size:=by omega
    simp only[ayu,axN]
    rw[awW hj']
   ·simp only[look,iL (awE hkk),cond_false]
    cases look qs k with
    |some v=>rfl
    |none=>
     simp only
     rw[hg,awU]
     rw[hlen]
     intro hin
     rcases ay9 hkk with hlt | hlt
     ·have:=awH sz (show k+1<=k0 from hlt)
      rw[awz,axb]at this;omega
     ·have:=awH sz (show k0+1<=k from hlt)
      rw[awz,axb]at this;omega
end
section
variable {P:Program} {M N:Mem} {w w':World} {hp:Nat->Option Ent} {ρ:Operand->Value} {ev:Operand->AV} {i:Nat}
def valsOf (ρ:Operand->Value) (l:List (Nat×Operand)):List (Nat×Value):=l.map fun(x:Nat×Operand)=>(x.1,ρ x.2)
theorem aaS (h:∀x,bT M (ev x) (ρ x)):∀(l:List (Nat×Operand)) (k:Nat),(look (lK ev l) k=none/\look (valsOf ρ l) k=none)\/
 ∃y v,look (lK ev l) k=some y/\look (valsOf ρ l) k=some v/\bT M y v
 |[],k=> .inl ⟨rfl,rfl⟩
 |(j,x)::l,k=>by
  simp only[lK,valsOf,awS,look]
  cases Nat.beq j k with
  |true=>exact .inr ⟨_,_,rfl,rfl,h x⟩
  |false=>exact aaS h l k
theorem akl:∀(l:List (Nat×AV)) (k:Nat),aqQ l k=true↔k∈l.map Prod.fst
 |[],k=>by simp [aqQ]
 |(j,v)::l,k=>by
  simp only[aqQ,ayv,akl l k,awS,aww]
  constructor
  ·rintro(h | h)
   ·exact .inl (aws h).symm
   ·exact .inr h
  ·rintro(h | h)
   ·exact .inl (by subst h;simp)
   ·exact .inr h
theorem acz:∀(l:List (Nat×AV)) (n:Nat),aeK l n=true->(∀q∈l,q.1<n)/\(l.map Prod.fst).Nodup
 |[],n,_=>⟨by simp,by simp⟩
 |(k,v)::l,n,h=>by
  simp only[aeK,awp,ax0]at h
  obtain⟨⟨h1,h2⟩,h3⟩:=h
  obtain⟨g1,g2⟩:=acz l n h3
  refine⟨fun q hq=> ?_,?_⟩
  ·rcases aww.1 hq with rfl | hq
   ·simpa using h1
   ·exact g1 q hq
  ·simp only[awS,List.nodup_cons]
   refine⟨fun hm=> ?_,g2⟩
   rw[<-akl]at hm
   rw[hm]at h2;simp at h2
theorem abZ:∀(l:List (Nat×Operand)),(lK ev l).map Prod.fst=l.map Prod.fst/\(valsOf ρ l).map Prod.fst=l.map Prod.fst
 |[]=>⟨rfl,rfl⟩
 |(k,x)::l=>by
  obtain⟨h1,h2⟩:=abZ l
  simp only[lK,valsOf,awS]at*
  exact⟨by rw[h1],by rw[h2]⟩
theorem af6 {α:Type}:∀(l:List (Nat×α)) (k:Nat) (v:α),(l.map Prod.fst).Nodup->(k,v)∈l->look l k=some v
 |[],k,v,_,h=>by simp at h
 |(j,x)::l,k,v,hd,h=>by
  simp only[awS,List.nodup_cons]at hd
  simp only[look]
  rcases aww.1 h with h | h
  ·cases h;simp
  ·have hne:j≠k:=fun e=>hd.1 (e▸axG.2 ⟨(k,v),h,rfl⟩)
   rw[iL hne]
   exact af6 l k v hd.2 h
theorem aeU {α:Type}:∀(l:List (Nat×α)) (k:Nat) (v:α),look l k=some v->(k,v)∈l
 |[],k,v,h=>by simp [look]at h
 |(j,x)::l,k,v,h=>by
  simp only[look]at h
  cases hb:Nat.beq j k with
  |true=>
   simp only[hb,cond_true,awj]at h
   subst h
   have:=aws hb
   subst this
   simp
  |false=>
   simp only[hb,cond_false]at h
   exact awX _ (aeU l k v h)
theorem ahD (hp:Nat->Option Ent) (e:E) (ps:List (Nat×AV)):∀(n:Nat) (l:List (den e)),al9 hp e ps n=some l->l.length=n/\
 ∀k (h:k<l.length),match look ps k with | none=>l[k]=default | some v=>boxOk v=true/\Ew e (jG hp v.cellsA).1=some l[k]
 |0,l,h=>by
  simp only[al9,awj]at h
  subst h
  exact⟨rfl,fun k hk=>by simp at hk⟩
 |n+1,l,h=>by
  simp only[al9]at h
  cases h1:al9 hp e ps n with
  |none=>simp [h1]at h
  |some l0=>
   obtain⟨g1,g2⟩:=ahD hp e ps n l0 h1
   simp only[h1]at h
   have key:∃x,l=l0++[x]/\(match look ps n with | none=>x=default | some v=>boxOk v=true/\Ew e (jG hp v.cellsA).1=some x):=by
    cases hl:look ps n with
    |none=>
     simp only[hl,awj]at h
     exact⟨_,h.symm,rfl⟩
    |some v=>
     simp only[hl]at h
     cases hb:boxOk v with
     |false=>simp [hb]at h
     |true=>
      simp only[hb,cond_true]at h
      cases ho:Ew e (jG hp v.cellsA).1 with
      |none=>simp [ho]at h
      |some x=>
       simp only[ho,awj]at h
       exact⟨x,h.symm,⟨hb,ho⟩⟩
   obtain⟨x,rfl,hx⟩:=key
   refine⟨by simp [g1],fun k hk=> ?_⟩
   by_cases hkn:k<l0.length
   ·have:=g2 k hkn
    simp only[axq hkn]
    exact this
   ·have hk':k=n:=by simp at hk;omega
    subst hk'
    have e1:(l0++[x])[k]=x:=by
     rw[axl (by omega)]
     simp
    rw[e1]
    exact hx
theorem aju:∀(ps:List (Nat×AV)),(∀j∈afV hp ps,hp j≠none)/\∀k v,(k,v)∈ps->∀j∈(jG hp v.cellsA).2,j∈afV hp ps
 |[]=>⟨by simp [afV],by simp⟩
 |(k0,v0)::ps=>by
  obtain⟨g1,g2⟩:=aju ps
  refine⟨fun j hj=> ?_,fun k v hm j hj=> ?_⟩
  ·simp only[afV,awt]at hj
   rcases hj with h | h
   ·exact JJ _ j h
   ·exact g1 j h
  ·simp only[afV,awt]
   rcases aww.1 hm with h | h
   ·cases h;exact .inl hj
   ·exact .inr (g2 k v h j hj)
theorem abx {t el sz n:Nat} {z:Array Value} {qs:Array (Nat×Value)} {c:Array Value} (hu:P.underlying t=some (.slice el)) (hsz:∀w,(sizeOf el).run P w= .ok sz w) (hle:n*sz<=16777216)
 (hz:∃v,(zeroValue el).run P w= .ok v w/\v.cells=z) (hf:Instr.fill (fun i=>some (i*sz,sz)) (madeCells z (n*sz)) qs.toList=some c):
 (Instr.buildSlice t n qs).run P w= .ok (.slice (some ⟨w.heap.size,0,none⟩) n n) { w with heap:=w.heap.push (.cells c el) }:=by
 obtain⟨v,hv,rfl⟩:=hz
 have hlt:¬(n*sz>2^24):=by omega
 by_cases h0:n*sz=0
 ·have hm:madeCells v.cells (n*sz)= #[]:=by rw[h0];simp [madeCells,Array.range_zero']
  rw[hm]at hf
  have hm2:(Array.range (n*sz)).map (fun x=>(#[]:Array Value)[x%(#[]:Array Value).size]!)= #[]:=by rw[h0];simp [Array.range_zero']
  simp only[Instr.buildSlice,Sem.run_bind,iK w hu,Result.andThen_ok,hsz,Sem.run_ite,awg hlt,h0,if_true,Sem.run_pure]
  rw[h0]at hm2
  simp only[hm2,hf,Sem.run_bind,abA,Result.andThen_ok,Sem.run_pure]
  rw[awg (by decide)]
 ·have hm:(Array.range (n*sz)).map (fun x=>v.cells[x%v.cells.size]!)=madeCells v.cells (n*sz):=rfl
  simp only[Instr.buildSlice,Sem.run_bind,iK w hu,Result.andThen_ok,hsz,Sem.run_ite,awg hlt,awg h0,hv,Sem.run_pure,hm,hf,abA]
theorem apq (H:OpH P M w hp ρ ev i) (o:Oper) {t el n:Nat} {ps:Array (Nat×Operand)} (ho:o.op= .buildSlice t n ps) (hu:P.underlying t=some (.slice el)) {e:E} (he:EOk P el e)
 (hok:aeK (lK ev ps.toList) n=true) (hle:n*fM P el<=16777216) {l:List (den e)} (hl:al9 hp e (lK ev ps.toList) n=some l):
 zx P M w i (execOp ρ o) ⟨.mf i,freeze hp (afV hp (lK ev ps.toList))++[(i,some ⟨false,.arr e l⟩)]⟩:=by
 obtain⟨inf,z,g1,g2,g3,g4,g5,g6⟩:=he.zero M
 obtain⟨hlen,hspec⟩:=ahD hp e _ n l hl
 obtain⟨o1,o2⟩:=acz _ _ hok
 obtain⟨k1,k2⟩:=abZ (ev:=ev) (ρ:=ρ) ps.toList
 obtain⟨f1,f2⟩:=aju (hp:=hp) (lK ev ps.toList)
 obtain⟨N,s1,s2,s3,s4,s5⟩:=Jd (w:=w) H.hp H.rel H.H (afV hp (lK ev ps.toList)) f1
 have hi:look (freeze hp (afV hp (lK ev ps.toList))) i=none:=by
  rw[ku,awg]
  intro hm
  cases hh:hp i with
  |none=>exact f1 i hm hh
  |some e'=>exact H.new i (awk _) (by omega) (H.rel.used i e' (H.hp _ _ hh))
 have hsz:=he.sizeT
 rw[hsz]at hle
 have hqs:(ps.map fun(i,x)=>(i,ρ x)).toList=valsOf ρ ps.toList:=by simp [valsOf]
 have hpart:∀k v,look (valsOf ρ ps.toList) k=some v->∃y,look (lK ev ps.toList) k=some y/\bT M y v:=fun k v h=>by
  rcases aaS H.ev ps.toList k with ⟨_,h2⟩ | ⟨y,v',h1,h2,h3⟩
  ·rw[h2]at h;simp at h
  ·rw[h2]at h;cases h;exact⟨y,h1,h3⟩
 have hlt:∀q∈valsOf ρ ps.toList,q.1<n:=fun q hq=>by
  have hm:q.1∈(valsOf ρ ps.toList).map Prod.fst:=axG.2 ⟨q,hq,rfl⟩
  rw[k2,<-k1]at hm
  obtain⟨q',hq',e1⟩:=axG.1 hm
  rw[<-e1]
  exact o1 q' hq'
 have hnd:((valsOf ρ ps.toList).map Prod.fst).Nodup:=by rw[k2,<-k1];exact o2
 have hsizes:∀q∈valsOf ρ ps.toList,q.1<n/\q.2.cells.size=esz e:=fun q hq=>by
  obtain⟨k,v⟩:=q
  refine⟨hlt _ hq,?_⟩
  obtain⟨y,h1,h2⟩:=hpart k v (af6 _ _ _ hnd hq)
  have hk:k<l.length:=by rw[hlen];exact hlt _ hq
  have:=hspec k hk
  rw[h1]at this
  obtain⟨wk1,_⟩:=Ec e _ _ this.2
  rw[Am]at wk1
  have:=(NG this.1 h2).1
  show v.cells.size=esz e
  omega
 obtain⟨c',q1,q2,q3⟩:=ahV (esz e) n (valsOf ρ ps.toList) (madeCells z.cells (n*esz e)) (size_madeCells _ _) hsizes hnd
 have hr:=abx (P:=P) (w:=w) (qs:=ps.map fun(i,x)=>(i,ρ x)) hu he.size hle ⟨z,by simp [zeroValue,aeF w g1,g3],rfl⟩ (by rw[hqs];exact q1)
 have hcells:∀a b,(ha:a<l.length)->b<esz e->∃v,c'[a*esz e+b]? =some v/\bT N (nth (cells e l[a]) b) v:=fun a b ha hb=>by
  have hq:=q3 a b (by omega) hb
  have hsp:=hspec a ha
  rcases aaS H.ev ps.toList a with ⟨h1,h2⟩ | ⟨y,v,h1,h2,h3⟩
  ·rw[h2]at hq
   rw[h1]at hsp
   obtain⟨v,r1,r2⟩:=g6 b hb
   refine⟨v,?_,by simp only at hsp;rw[hsp];exact r2.le s1.le⟩
   rw[hq]
   simp only
   rw[abq g5 hb,r1]
   have:=awH (esz e) (show a+1<=n by omega)
   rw[awz,axb]at this
   omega
  ·rw[h2]at hq
   rw[h1]at hsp
   obtain⟨hbx,hof⟩:=hsp
   have hv:=NG hbx h3
   obtain⟨wk1,wk2⟩:=Ec e _ _ hof
   have hfz:aoR hp N (jG hp y.cellsA).2:=fun id hid=>aaT s2 id (f2 a y (aeU _ _ _ h1) id hid)
   have hseal:=Zd (cs:=y.cellsA) (f:=fun i=>v.cells.getD i undef) H.hp s1.le s1.hrel hfz (fun i hi=>by
    have hi':i<v.cells.size:=by rw[hv.1];exact hi
    simp only[Array.getD,hi',awJ]
    exact hv.2.2 i hi hi')
   have hb1:b<(jG hp y.cellsA).1.length:=by rw[wk1];exact hb
   have hb2:b<v.cells.size:=by rw[hv.1];rw[Am]at hb1;exact hb1
   have hw:=wk2 b hb
   rw[vG _ _ hb1]at hw
   have hs:=hseal b hb1
   simp only[Array.getD,hb2,awJ]at hs
   refine⟨v.cells[b],?_,hw.sees hs⟩
   rw[hq]
   exact awW hb2
 have hblk:xC N (.arr e l) c':=⟨by rw[hlen,q2];exact awk _,hcells⟩
 have hiU:¬N.U i:=by rw[s3];exact H.new i (awk _) (by omega)
 have st:=Stp.alloc (w:=w) (w':={ w with heap:=w.heap.push (.cells c' el) }) s1.hrel s1.H (s1.Fsz H.F) i hiU (.arr e l) c' el (0,0) (af8 _ _) hblk rfl rfl rfl rfl
 refine⟨_,_,_,_,by
  simp only[execOp,ho,Sem.run_bind]
  rw[hr]
  rfl,.inl rfl,s1.trans st H.rel H.H,fun q=> ?_,?_,fun q hq=> ?_⟩
 ·show Ey N.hp i _ q=_
  rw[ru]
  by_cases hq:q=i
  ·subst hq
   rw[bQ,over,hi]
   simp only[oQ,bQ]
  ·rw[dH _ _ hq,s2]
   simp only[over]
   cases look (freeze hp (afV hp (lK ev ps.toList))) q with
   |some _=>rfl
   |none=>simp [look,iL (awE hq)]
 ·refine .mf i _ (.inr rfl) rfl fun e' he'=> ?_
  have:e'=⟨false,.arr e l⟩:=by simpa [Mem.new,bQ] using he'.symm
  subst this
  refine⟨false,e,l,_,n,rfl,by rw[hlen],by omega,?_⟩
  have hszN:N.H.size=w.heap.size:=by rw[s1.H]
  have hβ:(N.new i ⟨false,.arr e l⟩ (.cells c' el)).β i=some N.H.size:=by simp [Mem.new,bQ]
  unfold xE
  rw[hβ]
  refine⟨⟨0,by rw[hszN],.inr (by simp)⟩,c'.size,?_,by rw[q2];simp⟩
  simp [bsize,Mem.new]
 ·rcases hq with h | h
  ·exact .inl (by rw[<-s3];exact h)
  ·exact .inr (by omega)
end
section
variable {P:Program} {M N:Mem} {w w':World} {hp:Nat->Option Ent} {ρ:Operand->Value} {ev:Operand->AV} {i:Nat}
theorem ag2 (sz:Nat):∀(l:List (Nat×AV)),agY sz l=true->∀q∈l,boxOk q.2=true/\q.2.cellsA.length=sz
 |[],_=>by simp
 |(k,v)::l,h=>by
  simp only[agY,awp]at h
  intro q hq
  rcases aww.1 hq with rfl | hq
  ·exact⟨h.1.1,aws h.1.2⟩
  ·exact ag2 sz l h.2 q hq
theorem ajx (P:Program) (el sz:Nat) (ps:List (Nat×AV)) (hz:(CX P el).length=sz) (hp:∀k v,look ps k=some v->v.cellsA.length=sz):∀(n:Nat),(abP P el ps n).length=n*sz/\
 ∀a b,a<n->b<sz->(abP P el ps n)[a*sz+b]? =match look ps a with | none=>(CX P el)[b]? | some v=>v.cellsA[b]?
 |0=>⟨by simp [abP],fun a b h=>by omega⟩
 |n+1=>by
  obtain⟨g1,g2⟩:=ajx P el sz ps hz hp n
  have hlast:(match look ps n with | none=>CX P el | some v=>v.cellsA).length=sz:=by
   cases hl:look ps n with
   |none=>exact hz
   |some v=>exact hp n v hl
  refine⟨by
   rw[abP,awn,g1,awz,axb]
   congr 1,fun a b ha hb=> ?_⟩
  rw[abP]
  by_cases han:a<n
  ·have hlt:a*sz+b<n*sz:=by
    have:=awH sz (show a+1<=n from han)
    rw[awz,axb]at this;omega
   rw[ayw (by rw[g1];exact hlt)]
   exact g2 a b han hb
  ·have:a=n:=by omega
   subst this
   rw[ayx (by rw[g1];omega),g1,ayu]
   cases look ps a<;>rfl
theorem abS {x n sz:Nat} (h:x<n*sz):∃a b,a<n/\b<sz/\x=a*sz+b:=by
 have hs:0<sz:=ayK fun e=>by subst e;simp at h
 refine⟨x / sz,x%sz,Nat.div_lt_of_lt_mul (by rwa[ayt]),ayy _ hs,?_⟩;rw[ayt];exact(Nat.div_add_mod x sz).symm
theorem apn (wf:WfP P) (H:OpH P M w hp ρ ev i) (o:Oper) {t el n:Nat} {ps:Array (Nat×Operand)} (ho:o.op= .buildSlice t n ps) (hu:P.underlying t=some (.slice el))
 (hok:aeK (lK ev ps.toList) n=true) (hle:n*fM P el<=16777216) (hsz:agY (fM P el) (lK ev ps.toList)=true) (hzl:(CX P el).length=fM P el) (h1:1<=fM P el):
 zx P M w i (execOp ρ o) ⟨.rs i (fM P el) 0 n,[(i,some ⟨false,.raw (abP P el (lK ev ps.toList) n)⟩)]⟩:=by
 have hne:CX P el≠[]:=by intro e;rw[e]at hzl;simp at hzl;omega
 obtain⟨z,hz1,hz2⟩:=aeo (M:=M) (w:=w) hne
 have hzs:z.cells.size=fM P el:=by rw[hz1.1,hzl]
 obtain⟨o1,o2⟩:=acz _ _ hok
 obtain⟨k1,k2⟩:=abZ (ev:=ev) (ρ:=ρ) ps.toList
 have hqs:(ps.map fun(i,x)=>(i,ρ x)).toList=valsOf ρ ps.toList:=by simp [valsOf]
 have hls:∀k v,look (lK ev ps.toList) k=some v->boxOk v=true/\v.cellsA.length=fM P el:=fun k v h=>ag2 _ _ hsz (k,v) (aeU _ _ _ h)
 have hpart:∀k v,look (valsOf ρ ps.toList) k=some v->∃y,look (lK ev ps.toList) k=some y/\bT M y v:=fun k v h=>by
  rcases aaS H.ev ps.toList k with ⟨_,h2⟩ | ⟨y,v',h1,h2,h3⟩
  ·rw[h2]at h;simp at h
  ·rw[h2]at h;cases h;exact⟨y,h1,h3⟩
 have hlt:∀q∈valsOf ρ ps.toList,q.1<n:=fun q hq=>by
  have hm:q.1∈(valsOf ρ ps.toList).map Prod.fst:=axG.2 ⟨q,hq,rfl⟩
  rw[k2,<-k1]at hm
  obtain⟨q',hq',e1⟩:=axG.1 hm
  rw[<-e1]
  exact o1 q' hq'
 have hnd:((valsOf ρ ps.toList).map Prod.fst).Nodup:=by rw[k2,<-k1];exact o2
 have hsizes:∀q∈valsOf ρ ps.toList,q.1<n/\q.2.cells.size=fM P el:=fun q hq=>by
  obtain⟨k,v⟩:=q
  refine⟨hlt _ hq,?_⟩
  obtain⟨y,g1,g2⟩:=hpart k v (af6 _ _ _ hnd hq)
  obtain⟨g3,g4⟩:=hls k y g1
  have:=(NG g3 g2).1
  show v.cells.size=fM P el
  omega
 obtain⟨c',q1,q2,q3⟩:=ahV (fM P el) n (valsOf ρ ps.toList) (madeCells z.cells (n*fM P el)) (size_madeCells _ _) hsizes hnd
 have hr:=abx (P:=P) (w:=w) (qs:=ps.map fun(i,x)=>(i,ρ x)) hu (WfP.size (wf.sl _ _ hu)) hle ⟨z,hz2,rfl⟩ (by rw[hqs];exact q1)
 obtain⟨l1,l2⟩:=ajx P el (fM P el) (lK ev ps.toList) hzl (fun k v h=>(hls k v h).2) n
 have key:∀x (hx:x<c'.size),c'[x].oneCell=true/\∀hx':x<(abP P el (lK ev ps.toList) n).length,bT M (abP P el (lK ev ps.toList) n)[x] c'[x]:=fun x hx=>by
  obtain⟨a,b,ha,hb,rfl⟩:=abS (by rw[q2]at hx;exact hx)
  have hq:=q3 a b ha hb
  rw[awW hx]at hq
  have hl:=l2 a b ha hb
  rcases aaS H.ev ps.toList a with ⟨h1,h2⟩ | ⟨y,v,h1,h2,h3⟩
  ·rw[h2]at hq
   rw[h1]at hl
   simp only at hq hl
   have hbz:b<z.cells.size:=by omega
   rw[abq hzs hb (by
    have:=awH (fM P el) (show a+1<=n from ha)
    rw[awz,axb]at this;omega),awW hbz]at hq
   rw[awr hq]
   refine⟨hz1.2.1 b hbz,fun hx'=> ?_⟩
   rw[awL hx',awL (by omega)]at hl
   rw[awr hl]
   exact hz1.2.2 b (by omega) hbz
  ·rw[h2]at hq
   rw[h1]at hl
   simp only at hq hl
   obtain⟨g3,g4⟩:=hls a y h1
   have hv:=NG g3 h3
   have hbv:b<v.cells.size:=by rw[hv.1];omega
   rw[awW hbv]at hq
   rw[awr hq]
   refine⟨hv.2.1 b hbv,fun hx'=> ?_⟩
   rw[awL hx',awL (by omega)]at hl
   rw[awr hl]
   exact hv.2.2 b (by omega) hbv
 have hblk:xC M (.raw (abP P el (lK ev ps.toList) n)) c':=⟨⟨by rw[q2,l1],fun x hx=>(key x hx).1⟩,fun x hx hx'=>(key x hx').2 hx⟩
 have st:=Stp.alloc (w:=w) (w':={ w with heap:=w.heap.push (.cells c' el) }) H.rel H.H H.F i (H.new i (awk _) (by omega)) (.raw (abP P el (lK ev ps.toList) n)) c' el (0,0) (af8 _ _) hblk rfl rfl rfl rfl
 refine⟨_,_,_,_,by
  simp only[execOp,ho,Sem.run_bind]
  rw[hr]
  rfl,.inl rfl,st,fun q=> ?_,?_,fun q hq=> ?_⟩
 ·show Ey M.hp i _ q=_
  rw[oQ]
 ·refine .rs i _ 0 n _ (.inr rfl) ⟨_,n,rfl,awk _⟩ fun e' he'=> ?_
  have:e'=⟨false,.raw (abP P el (lK ev ps.toList) n)⟩:=by simpa [Mem.new,bQ] using he'.symm
  subst this
  exact⟨false,_,M.H.size,0,n,rfl,by simp [Mem.new,bQ],by rw[H.H],.inr (by simp)⟩
 ·rcases hq with h | h
  ·exact .inl h
  ·exact .inr (by omega)
theorem apI (hp':∀id e,hp id=some e->M.hp id=some e) (hrel:lJ M) (hH:M.H=w.heap) {e:E} {y:AV} {v:Value} {ys:List (den e)} (h:lst hp e y=some ys) (hs:bT M y v):
 (Builtin.lenOf v).run P w= .ok ys.length w/\∀m,m<=ys.length->∃c:Array Value,(Builtin.firstCells (esz e) m v).run P w= .ok c w/\c.size=m*esz e/\
   ∀a b,(ha:a<m)->(ha':a<ys.length)->b<esz e->∃u,c[a*esz e+b]? =some u/\bT M (nth (cells e ys[a]) b) u:=by
 have fromMem:∀(b0 o n cap:Nat),v= .slice (some ⟨b0,o,none⟩) n cap->n=ys.length->
  (∀a b,(ha:a<ys.length)->b<esz e->∃u,cellAt w.heap b0 (o+a*esz e+b)=some u/\bT M (nth (cells e ys[a]) b) u)->
  (Builtin.lenOf v).run P w= .ok ys.length w/\∀m,m<=ys.length->∃c:Array Value,(Builtin.firstCells (esz e) m v).run P w= .ok c w/\c.size=m*esz e/\
    ∀a b,(ha:a<m)->(ha':a<ys.length)->b<esz e->∃u,c[a*esz e+b]? =some u/\bT M (nth (cells e ys[a]) b) u:=fun b0 o n cap hv hn hc=>by
  subst hv;subst hn
  refine⟨by simp [Builtin.lenOf],fun m hm=> ?_⟩
  have hcell:∀j,j<m*esz e->∃u,cellAt w.heap b0 (o+j)=some u:=fun j hj=>by
   obtain⟨a,b,ha,hb,rfl⟩:=abS hj
   obtain⟨u,g1,_⟩:=hc a b (by omega) hb
   exact⟨u,by rw[<-axz];exact g1⟩
  refine⟨((List.range (m*esz e)).map fun j=>(cellAt w.heap b0 (o+j)).getD undef).toArray,?_,by simp,fun a b ha ha' hb=> ?_⟩
  ·simp only[Builtin.firstCells]
   rw[run_loadCells w _ _ (fun j=>(cellAt w.heap b0 (o+j)).getD undef) fun j hj=> ?_]
   obtain⟨u,g1⟩:=hcell j hj
   rw[Addr.add_mk,aaK,g1];rfl
  ·obtain⟨u,g1,g2⟩:=hc a b ha' hb
   have hlt:a*esz e+b<m*esz e:=by
    have:=awH (esz e) (show a+1<=m from ha)
    rw[awz,axb]at this;omega
   refine⟨u,?_,g2⟩
   have g1':cellAt w.heap b0 (o+(a*esz e+b))=some u:=by rw[<-axz];exact g1
   simp [hlt,g1']
 have fromNil:∀a cap,v= .slice a 0 cap->ys=[]->(Builtin.lenOf v).run P w= .ok ys.length w/\∀m,m<=ys.length->∃c:Array Value,(Builtin.firstCells (esz e) m v).run P w= .ok c w/\c.size=m*esz e/\
  ∀a b,(ha:a<m)->(ha':a<ys.length)->b<esz e->∃u,c[a*esz e+b]? =some u/\bT M (nth (cells e ys[a]) b) u:=fun a cap hv hn=>by
  subst hv;subst hn
  refine⟨by simp [Builtin.lenOf],fun m hm=>⟨#[],?_,?_,fun a b ha ha'=>by simp at ha'⟩⟩
  ·have:m=0:=by simpa using hm
   subst this
   cases a<;>simp [Builtin.firstCells,loadCells,loadCellsFrom]
  ·have:m=0:=by simpa using hm
   subst this;simp
 unfold lst at h
 split at h
 ·simp only[awj]at h
  cases hs
  exact fromNil none 0 rfl h.symm
 ·split at h
  ·rename_i he
   subst he
   simp only[awj]at h;subst h
   cases hs with
   |roE _ _ a cap hx=>exact fromNil a cap rfl rfl
   |ro e l ex b o cap hl hx hF cs hc hss=>exact fromMem b o _ cap rfl rfl fun a b ha hb=>⟨cs a b,by rw[<-hH];exact hc a b ha hb,hss a b ha hb⟩
  ·simp at h
 ·rename_i id
  split at h
  ·rename_i fz e' l he
   split at h
   ·rename_i heq
    subst heq
    simp only[awj]at h;subst h
    cases hs with | mf id v hU hv hh=>
    obtain⟨fz',t',l',ad,cap,heq,rfl,hc,hsl⟩:=hh _ (hp' _ _ he)
    cases heq
    unfold xE at hsl
    cases hb:M.β id with
    |none=>
     simp only[hb]at hsl
     have:l=[]:=aw8 (by omega)
     subst this
     exact fromNil ad cap rfl rfl
    |some b=>
     simp only[hb]at hsl
     obtain⟨⟨o,rfl,ho⟩,_⟩:=hsl
     by_cases h0:cap=0
     ·have:l=[]:=aw8 (by omega)
      subst this
      exact fromNil _ cap rfl rfl
     ·have ho0:o=0:=by rcases ho with g | g<;>omega
      subst ho0
      obtain⟨_,_,c,ty,fr,hc',hz,hsz,hcs⟩:=hrel.is (hp' _ _ he) hb
      refine fromMem b 0 _ cap rfl rfl fun a b' ha hb'=> ?_
      obtain⟨u,g1,g2⟩:=hcs a b' ha hb'
      exact⟨u,by simp [cellAt,<-hH,hc',g1],g2⟩
   ·simp at h
  ·simp at h
 ·rename_i id off n
  split at h
  ·rename_i fz e' l he
   split at h
   ·rename_i heq
    subst heq
    simp only[awj]at h;subst h
    cases hs with | ms id off n v hU hv hh=>
    obtain⟨fz',t',l',ad,cap,heq,rfl,hc1,hc,hc2,hsl⟩:=hh _ (hp' _ _ he)
    cases heq
    have hlen:(aV (bZ l off) n).length=n:=by simp [aV,bZ];omega
    by_cases hn:n=0
    ·subst hn
     exact fromNil ad cap rfl (by simp [aV])
    ·unfold xE at hsl
     cases hb:M.β id with
     |none=>simp only[hb]at hsl;omega
     |some b=>
      simp only[hb]at hsl
      obtain⟨⟨o,rfl,ho⟩,_⟩:=hsl
      have ho0:o=off*esz e':=by rcases ho with g | g<;>omega
      subst ho0
      obtain⟨_,_,c,ty,fr,hc',hz,hsz,hcs⟩:=hrel.is (hp' _ _ he) hb
      refine fromMem b _ _ cap rfl hlen.symm fun a b' ha hb'=> ?_
      obtain⟨u,g1,g2⟩:=hcs (off+a) b' (by omega) hb'
      refine⟨u,?_,?_⟩
      ·have e1:off*esz e'+a*esz e'+b'=(off+a)*esz e'+b':=by rw[awz]
       simp only[cellAt,<-hH,hc',e1,g1]
      ·have e2:(aV (bZ l off) n)[a]=l[off+a]:=by simp [aV,bZ]
       rw[e2];exact g2
   ·simp at h
  ·simp at h
 ·split at h
  ·simp only[awj]at h;subst h
   cases hs with | str bs l hl=>
   subst hl
   refine⟨by simp only[Builtin.lenOf,Sem.run_pure,s2u,axC];rw[Qg],fun m hm=> ?_⟩
   have hm':m<=bs.data.toList.length:=by simpa [s2u] using hm
   refine⟨(bs.extract 0 m).data.map fun b=> .int .u8 b.toNat,by simp [Builtin.firstCells],?_,fun a b ha ha' hb=> ?_⟩
   ·have hsz:(bs.extract 0 m).data.size=m:=by
     rw[<-Array.length_toList,Zr bs 0 m hm',axP,ayH,awu]
     exact ayz hm'
    simp only[Array.size_map,esz,ayA]
    exact hsz
   ·have hb0:b=0:=by simpa [esz] using hb
    subst hb0
    have hal:a<bs.data.toList.length:=by simpa [s2u] using ha'
    have hx:(bs.extract 0 m).data.toList[a]? =some bs.data.toList[a]:=by
     rw[Zr bs 0 m hm']
     simp [ha,hal]
    rw[Array.getElem?_toList]at hx
    refine⟨.int .u8 (bs.data.toList[a].toNat:Int),?_,?_⟩
    ·rw[ayX,show a*esz E.u8+0=a by simp [esz],hx]
     rfl
    ·simp only[s2u,ayG,cells,nth]
     exact .int _ _
  ·simp at h
 ·simp at h
end
section
variable {P:Program} {M N:Mem} {w w':World} {hp:Nat->Option Ent} {ρ:Operand->Value} {ev:Operand->AV} {i:Nat}
theorem aiJ {e:E} {l l' ys:List (den e)} {off:Nat} {c d:Array Value} (hd:d.size=ys.length*esz e) (hfit:off*esz e+d.size<=c.size) (hl':l'.length*esz e<=c.size)
 (hold:∀i k,(hi:i<l.length)->k<esz e->∃v,c[i*esz e+k]? =some v/\bT M (nth (cells e l[i]) k) v)
 (hnew:∀a b,(ha:a<ys.length)->b<esz e->∃u,d[a*esz e+b]? =some u/\bT M (nth (cells e ys[a]) b) u)
 (hget:∀i,(h:i<l'.length)->(∃h2:i - off<ys.length,off<=i/\l'[i]=ys[i - off])\/(¬(off<=i/\i<off+ys.length)/\∃h2:i<l.length,l'[i]=l[i])):
 xC M (.arr e l') (qc c (off*esz e) d.toList):=by
 have hlen:d.toList.length=ys.length*esz e:=by simp [hd]
 refine⟨by rw[oP];exact hl',fun i k hi hk=> ?_⟩
 have hg:=Ko d.toList c (off*esz e) (i*esz e+k) (by rw[hlen,<-hd];exact hfit)
 rcases hget i hi with ⟨h2,h3,h4⟩ | ⟨h2,h3,h4⟩
 ·obtain⟨u,g1,g2⟩:=hnew (i - off) k h2 hk
  have e1:i*esz e=off*esz e+(i - off)*esz e:=by rw[<-awz];congr 1;omega
  have hlt:(i - off)*esz e+k<ys.length*esz e:=by
   have:=awH (esz e) (show i - off+1<=ys.length from h2)
   rw[awz,axb]at this;omega
  rw[awJ (by rw[hlen];omega)]at hg
  refine⟨u,?_,by rw[h4];exact g2⟩
  rw[hg]
  have e2:i*esz e+k - off*esz e=(i - off)*esz e+k:=by omega
  simp only[e2,axN]
  rw[<-g1]
  exact(awW (by rw[hd];exact hlt)).symm
 ·obtain⟨u,g1,g2⟩:=hold i k h3 hk
  refine⟨u,?_,by rw[h4];exact g2⟩
  rw[hg,awU,g1]
  rw[hlen]
  intro hin
  apply h2
  constructor
  ·exact Nat.le_of_not_lt fun hlt=>by
    have:=awH (esz e) (show i+1<=off from hlt)
    rw[awz,axb]at this;omega
  ·exact Nat.lt_of_not_le fun hle=>by
    have:=awH (esz e) hle
    rw[awz]at this;omega
def Mem.nilAt (M:Mem) (i:Nat) (e:E):Mem:=
 {M with U:=fun j=>M.U j\/j=i,β:=Ey M.β i none,hp:=Ey M.hp i (some ⟨false,.arr e []⟩) }
theorem Stp.nilAt (h:lJ M) (hH:M.H=w.heap) (i:Nat) (hi:¬M.U i) (e:E):Stp M w (M.nilAt i e) w:=by
 have hle:Le M (M.nilAt i e):=by
  refine⟨fun _ h=> .inl h,fun _ h=>h,fun _ _=>rfl,fun id e' hU he=> ?_,fun _ _ _ _ _ _ hn=>hn⟩;have hne:id≠i:=fun h=>hi (h▸hU);simp only[Mem.nilAt,dH _ _ hne]at he;exact⟨e',he,eU.refl _,by simp only[Mem.nilAt,dH _ _ hne]⟩
 have key:∀id e',(M.nilAt i e).hp id=some e'->id≠i->M.hp id=some e':=fun id e' he hne=>by
  simpa only[Mem.nilAt,dH _ _ hne] using he
 have kβ:∀id b,(M.nilAt i e).β id=some b->id≠i/\M.β id=some b:=fun id b hb=>by
  by_cases hid:id=i
  ·subst hid;simp [Mem.nilAt,bQ]at hb
  ·exact⟨hid,by simpa only[Mem.nilAt,dH _ _ hid] using hb⟩
 refine⟨hle,hH,lJ.mk' (h.glob.le hle) ?_ ?_ ?_ ?_,rfl,rfl,rfl,awk _,fun _ _ _=>rfl,?_,fun b hb=> .inl hb,fun hF b hb=>hF b hb⟩
 ·intro id e' he;by_cases hid:id=i
  ·exact .inr hid
  ·exact .inl (h.used id e' (key id e' he hid))
 ·intro id e' he hn;by_cases hid:id=i
  ·subst hid;simp only[Mem.nilAt,bQ,awj]at he;exact⟨false,e,he.symm⟩
  ·have hn':M.β id=none:=by simpa only[Mem.nilAt,dH _ _ hid] using hn
   exact h.nob id e' (key id e' he hid) hn'
 ·intro id e' b he hb;obtain⟨hid,hb'⟩:=kβ id b hb;obtain⟨g1,g2,c,t,fr,g3,g4,g5⟩:=h.is (key id e' he hid) hb';exact⟨g1,g2,c,t,fr,g3,g4,g5.le hle⟩
 ·intro id id' e1 e2 b he he' hf h1 h2;obtain⟨k1,k2⟩:=kβ id b h1;obtain⟨k3,k4⟩:=kβ id' b h2;exact h.inj id id' e1 e2 b (key _ _ he k1) (key _ _ he' k3) hf k2 k4
 ·rintro b ⟨id,e',he,hf,hb⟩;obtain⟨k1,k2⟩:=kβ id b hb;exact .inl ⟨id,e',key _ _ he k1,hf,k2⟩
def Mem.move (M:Mem) (id i:Nat) (blk:Blk) (b:Nat) (o:Obj):Mem:=
 {M with U:=fun j=>M.U j\/j=i,β:=Ey M.β i (some b),hp:=Ey (Ey M.hp id none) i (some ⟨false,blk⟩),H:=M.H.setIfInBounds b o }
theorem Stp.move (h:lJ M) (hH:M.H=w.heap) (hF:∀b,M.F b->b<w.heap.size) (id i b:Nat) (hi:¬M.U i) (blk0 blk:Blk) (hid:M.hp id=some ⟨false,blk0⟩) (hbi:M.β id=some b)
 (c0 c:Array Value) (t:TypeId) (fr:Nat×Nat) (h0:M.H[b]? =some (.cells c0 t fr)) (hsz:c.size=c0.size) (hu8:KX blk=false->KX blk0=false)
 (hb:xC M blk c) (hw:w'.heap=w.heap.setIfInBounds b (.cells c t fr)) (h2:w'.os=w.os) (h3:w'.tape=w.tape) (h4:w'.output=w.output):
 Stp M w (M.move id i blk b (.cells c t fr)) w':=by
 have hii:id≠i:=fun e=>hi (e▸h.used _ _ hid)
 have hbl:b<M.H.size:=(awG.1 h0).1
 generalize hN:M.move id i blk b (.cells c t fr)=N
 have nH:N.H=M.H.setIfInBounds b (.cells c t fr):=by rw[<-hN];rfl
 have nU:∀j,N.U j↔M.U j\/j=i:=fun j=>by rw[<-hN];exact Iff.rfl
 have nF:N.F=M.F:=by rw[<-hN];rfl
 have nhi:N.hp i=some ⟨false,blk⟩:=by rw[<-hN];simp [Mem.move,bQ]
 have nβi:N.β i=some b:=by rw[<-hN];simp [Mem.move,bQ]
 have nh:∀q e',N.hp q=some e'->q≠i->q≠id/\M.hp q=some e':=fun q e' he hq=>by
  rw[<-hN]at he
  simp only[Mem.move,dH _ _ hq]at he
  by_cases hqi:q=id
  ·subst hqi;simp [bQ]at he
  ·exact⟨hqi,by simpa only[dH _ _ hqi] using he⟩
 have nβ:∀q,q≠i->N.β q=M.β q:=fun q hq=>by rw[<-hN];simp only[Mem.move,dH _ _ hq]
 clear hN
 have hne:∀b',b'≠b->N.H[b']? =M.H[b']? :=fun b' hb'=>by rw[nH,axt (awE hb')]
 have heq:N.H[b]? =some (.cells c t fr):=by rw[nH,ayb hbl]
 obtain⟨_,hnF,c1,t1,fr1,g3,g4,_⟩:=h.is hid hbi
 rw[h0]at g3
 obtain⟨rfl,rfl,rfl⟩:c0=c1/\t=t1/\fr=fr1:=by simpa using g3
 have hle:Le M N:=by
  refine⟨fun q h=>(nU q).2 (.inl h),fun _ h=>by rw[nF];exact h,fun b' hb'=>hne b' fun e=>hnF rfl (e▸hb'),fun q e' hU he=> ?_,fun q b' n hU _ hb' hn=> ?_⟩
  ·have hq:q≠i:=fun e=>hi (e▸hU)
   obtain⟨_,k2⟩:=nh q e' he hq
   exact⟨e',k2,eU.refl _,nβ q hq⟩
  ·by_cases hbb:b'=b
   ·subst hbb
    unfold bsize at*
    rw[heq];rw[h0]at hn
    simpa [hsz] using hn
   ·unfold bsize at*
    rw[hne b' hbb];exact hn
 have other:∀q e' b',N.hp q=some e'->N.β q=some b'->q≠i->b'≠b:=fun q e' b' he hb' hq e1=>by
  obtain⟨k1,k2⟩:=nh q e' he hq
  rw[nβ q hq,e1]at hb'
  exact k1 (h.inj id q _ e' b hid k2 rfl hbi hb').symm
 refine⟨hle,by rw[nH,hw,<-hH],lJ.mk' (h.glob.le hle) ?_ ?_ ?_ ?_,h2,h3,h4,by rw[hw];simp,?_,?_,fun b hb=> .inl (by rw[<-nF];exact hb),fun _ b hb=> ?_⟩
 ·intro q e' he
  by_cases hq:q=i
  ·exact(nU q).2 (.inr hq)
  ·exact(nU q).2 (.inl (h.used q e' (nh q e' he hq).2))
 ·intro q e' he hn
  by_cases hq:q=i
  ·subst hq;rw[nβi]at hn;simp at hn
  ·exact h.nob q e' (nh q e' he hq).2 (by rw[<-nβ q hq];exact hn)
 ·intro q e' b' he hbb
  by_cases hq:q=i
  ·subst hq
   rw[nhi]at he;rw[nβi]at hbb
   cases he;cases hbb
   exact⟨by simp,fun _=>by rw[nF];exact hnF rfl,c,t,fr,heq,g4.weak hu8 hsz,hb.le hle⟩
  ·have hb':=other q e' b' he hbb hq
   rw[nβ q hq]at hbb
   obtain⟨g1,g2,c',t',fr',g3',g4',g5⟩:=h.is (nh q e' he hq).2 hbb
   exact⟨by rw[nF];exact g1,by rw[nF];exact g2,c',t',fr',by rw[hne b' hb'];exact g3',g4',g5.le hle⟩
 ·intro q q' e1 e2 b' he he' hf hb1 hb2
  by_cases hq:q=i
  ·by_cases hq':q'=i
   ·rw[hq,hq']
   ·subst hq
    rw[nβi]at hb1;cases hb1
    exact absurd rfl (other q' e2 b he' hb2 hq')
  ·by_cases hq':q'=i
   ·subst hq'
    rw[nβi]at hb2;cases hb2
    exact absurd rfl (other q e1 b he hb1 hq)
   ·rw[nβ q hq]at hb1;rw[nβ q' hq']at hb2
    exact h.inj q q' e1 e2 b' (nh q e1 he hq).2 (nh q' e2 he' hq').2 hf hb1 hb2
 ·intro b' hb' ho
  rw[hw,axt]
  intro e1;subst e1
  exact ho ⟨id,_,hid,rfl,hbi⟩
 ·rintro b' ⟨q,e',he,hf,hbb⟩
  by_cases hq:q=i
  ·subst hq
   rw[nβi]at hbb;cases hbb
   exact .inl ⟨id,_,hid,rfl,hbi⟩
  ·rw[nβ q hq]at hbb
   exact .inl ⟨q,e',(nh q e' he hq).2,hf,hbb⟩
 ·rw[hw];rw[nF]at hb;have:=hF b hb;simp;omega
end
def UU (P:Program) (t1:Nat):Bool:=slT P t1||afZ P t1
section
variable {P:Program} {M N:Mem} {w w':World} {hp:Nat->Option Ent} {ρ:Operand->Value} {ev:Operand->AV} {i:Nat}
theorem af0 {t1:Nat} (h:UU P t1=true):(∃e,P.underlying t1=some (.slice e))\/P.underlying t1=some .string:=by
 unfold UU slT afZ at h;cases hu:P.underlying t1 with
 |none=>simp [hu]at h
 |some d=>
  cases d<;>simp [hu]at h ⊢
theorem abR {at':Array TypeId} {t t1 el ty:TypeId} {inf:TypeInfo} (h0:at'[0]? =some t) (h1:at'[1]? =some t1) (hni:UU P t1=true) (hu:P.underlying t=some (.slice el)) (hi:P.info? el=some inf)
 {base:Option Addr} {sLen sCap n:Nat} {x:Value} {new:Array Value} (hn:(Builtin.lenOf x).run P w= .ok n w) (hf:(Builtin.firstCells inf.size n x).run P w= .ok new w) (hneed:sLen+n<=sCap)
 (hst:(match base with | some a=>storeCells (a.add (sLen*inf.size)) new.toList | none=>pure ():Sem Unit).run P w= .ok () w'):
 (Builtin.append_ at' ty #[.slice base sLen sCap,x]).run P w= .ok (.slice base (sLen+n) sCap) w':=by
 rcases af0 hni with ⟨e,hd⟩ | hd
 all_goals
  cases base with
  |none=>
   simp only at hst
   have:w'=w:=by simpa using hst.symm
   subst this
   simp [Builtin.append_,h0,h1,iK _ hu,iK _ hd,WM _ hi,hn,hneed,hf]
  |some a=>
   simp only at hst
   simp [Builtin.append_,h0,h1,iK _ hu,iK _ hd,WM _ hi,hn,hneed,hf,hst]
theorem amb {at':Array TypeId} {t t1 el ty:TypeId} {inf:TypeInfo} {z:Value} (h0:at'[0]? =some t) (h1:at'[1]? =some t1) (hni:UU P t1=true) (hu:P.underlying t=some (.slice el)) (hi:P.info? el=some inf) (hz:inf.zero=some z)
 {base:Option Addr} {sLen sCap n:Nat} {x:Value} {old new:Array Value} (hn:(Builtin.lenOf x).run P w= .ok n w) (hf:(Builtin.firstCells inf.size n x).run P w.drew= .ok new w.drew)
 (hfo:(Builtin.firstCells inf.size sLen (.slice base sLen sCap)).run P w.drew= .ok old w.drew) (hneed:¬(sLen+n<=sCap)) (h63:sLen+n<=68719476736) (hb:inf.bytes<=2048):
 (Builtin.append_ at' ty #[.slice base sLen sCap,x]).run P w= .ok (.slice (some ⟨w.heap.size,0,none⟩) (sLen+n) (grownCap w (sLen+n) sCap el))
   (w.drew.alloc (.cells (old++new++Builtin.zeroCells z.cells (grownCap w (sLen+n) sCap el - (sLen+n))) el)):=by
 have h63':¬(9223372036854775807<((sLen:Int)+(n:Int))):=by omega
 have hbb:(sLen+n)*inf.bytes<=140737488355328:=by
  have:=Nat.mul_le_mul h63 hb
  omega
 have h48:=growslice_fits (need:=sLen+n) (old:=sCap) (bytes:=inf.bytes) (by omega) hbb
 have h48':¬(281474976710656<Builtin.nextslicecap (sLen+n) sCap*inf.bytes):=by omega
 rcases af0 hni with ⟨e,hd⟩ | hd
 all_goals
  simp [Builtin.append_,h0,h1,iK _ hu,iK _ hd,WM _ hi,aeF _ hi,zeroValue,hz,hn,hneed,h63',h48',Question.forced,hf,hfo,newRow,grownCap]
end
section
variable {P:Program} {M N:Mem} {w w':World} {hp:Nat->Option Ent} {ρ:Operand->Value} {ev:Operand->AV} {i:Nat}
def N9 (M:Mem) (e:E) (ys:List (den e)) (d:Array Value):Prop:=
 d.size=ys.length*esz e/\∀a b,(ha:a<ys.length)->b<esz e->∃u,d[a*esz e+b]? =some u/\bT M (nth (cells e ys[a]) b) u
theorem N9.one {e:E} {ys:List (den e)} {d:Array Value} (h:N9 M e ys d):∀v∈d.toList,v.oneCell=true:=fun v hv=>by
 obtain⟨j,hj,rfl⟩:=axu hv;have hj':j<ys.length*esz e:=by rw[<-h.1];simpa using hj
 obtain⟨a,b,ha,hb,rfl⟩:=abS hj';obtain⟨u,g1,g2⟩:=h.2 a b ha hb;have:d.toList[a*esz e+b]=u:=by
  have hh:=awW (by simpa using hj:a*esz e+b<d.size);rw[g1]at hh;simpa using (awr hh).symm
 rw[this];exact OG (ajk e _ b hb) g2
theorem aqj {α:Type} (l:List α) (k:Nat):jq l k []=l:=by simp [jq]
theorem Tz {α:Type} (l ys:List α) (k:Nat) (h:k+ys.length<=l.length):(jq l k ys).length=l.length:=by
 simp [jq];omega
theorem aqn {α:Type} (l ys:List α) (k:Nat) (h:k+ys.length<=l.length) (j:Nat) (hj:j<(jq l k ys).length):
 (∃h2:j - k<ys.length,k<=j/\(jq l k ys)[j]=ys[j - k])\/(¬(k<=j/\j<k+ys.length)/\∃h2:j<l.length,(jq l k ys)[j]=l[j]):=by
 have hlen:=Tz l ys k h
 by_cases h1:j<k
 ·refine .inr ⟨by omega,by omega,?_⟩
  simp only[jq]
  rw[axq (by simp;omega)]
  simp
 ·by_cases h2:j<k+ys.length
  ·refine .inl ⟨by omega,by omega,?_⟩
   simp only[jq]
   rw[axl (by simp;omega),axq (by simp;omega)]
   congr 1
   simp;omega
  ·refine .inr ⟨by omega,by omega,?_⟩
   simp only[jq]
   rw[axl (by simp;omega),axl (by simp;omega),axH]
   congr 1
   simp;omega
theorem ace (hrel:lJ M) (hH:M.H=w.heap) (hF:∀b,M.F b->b<w.heap.size) {id:Nat} {e:E} {l:List (den e)} (hm:M.hp id=some ⟨false,.arr e l⟩) {a:Option Addr} {off cap p:Nat}
 (hsl:xE M id a off cap (esz e)) {ys:List (den e)} {d:Array Value} (hd:N9 M e ys d) (h1:p+ys.length<=cap) (h2:off+p+ys.length<=l.length):
 ∃w' N,(match a with | some a=>storeCells (a.add (p*esz e)) d.toList | none=>pure ():Sem Unit).run P w= .ok () w'/\Stp M w N w'/\
  (∀j,N.hp j=Ey M.hp id (some ⟨false,.arr e (jq l (off+p) ys)⟩) j)/\N.U=M.U/\N.β=M.β:=by
 by_cases h0:ys=[]
 ·subst h0
  have hd0:d.toList=[]:=by
   have:=hd.1
   simp at this
   simp [this]
  refine⟨w,M,?_,Stp.refl hrel hH,fun j=> ?_,rfl,rfl⟩
  ·rw[hd0];cases a<;>simp [storeCells]
  ·by_cases hj:j=id
   ·subst hj;rw[bQ,aqj];exact hm
   ·rw[dH _ _ hj]
 ·have hpos:0<ys.length:=ax1.2 h0
  unfold xE at hsl
  cases hb:M.β id with
  |none=>simp only[hb]at hsl;omega
  |some b=>
   simp only[hb]at hsl
   obtain⟨⟨o,rfl,ho⟩,_⟩:=hsl
   have ho0:o=off*esz e:=by rcases ho with g | g<;>omega
   subst ho0
   obtain⟨_,_,c,ty,fr,hc,hz,hlc,hcs⟩:=hrel.is hm hb
   have hoff:off*esz e+p*esz e=(off+p)*esz e:=by rw[awz]
   have hfit:(off+p)*esz e+d.size<=c.size:=by
    rw[hd.1,<-awz]
    exact aw4 (awH _ h2) hlc
   have hst:=Om (P:=P) b ((off+p)*esz e) ty fr d.toList 0 c w (by rw[<-hH];exact hc) hz (by simpa using hfit) hd.one
   simp only[axB]at hst
   have hblk:xC M (.arr e (jq l (off+p) ys)) (qc c ((off+p)*esz e) d.toList):=
    aiJ hd.1 hfit (by rw[Tz _ _ _ h2];exact hlc) hcs hd.2 (fun j hj=>aqn l ys (off+p) h2 j hj)
   have st:=Stp.write (w:=w) (w':={ w with heap:=w.heap.setIfInBounds b (.cells (qc c ((off+p)*esz e) d.toList) ty fr) }) hrel hH hF id b _ (.arr e (jq l (off+p) ys)) hm hb (by simp [eU,Tz _ _ _ h2]) c _ ty fr hc (oP _ _ _) hblk rfl rfl rfl rfl
   exact⟨_,_,by simp only[Addr.add_mk,hoff];exact hst,st,fun j=>rfl,rfl,rfl⟩
theorem UM {o:Oper} {c:Call} (ho:o.op= .call c) {b:Builtin} (hc:c.callee= .builtin b) (f:Sem Value) (hb:builtin b c.argTypes o.type (c.args.map fun | .const _=>true | _=>false) (c.args.map ρ)=(do pure (.value (<-f)))):
 execOp ρ o=(do pure (.value (<-f))):=by
 simp only[execOp,ho,resolve,hc]
 rw[<-hb]
 rfl
theorem afF {c:Call} {x y:AV} (h:lg ev c.args.toList=[x,y]):∃a b,c.args= #[a,b]/\ev a=x/\ev b=y:=by
 obtain⟨l⟩:∃l,c.args.toList=l:=⟨_,rfl⟩;cases hl:c.args.toList with
 |nil=>rw[hl]at h;simp [lg]at h
 |cons a r=>
  rw[hl]at h;cases r with
  |nil=>simp [lg]at h
  |cons b r=>
   cases r with
   |nil=>
    simp only[lg,ax2,awy]at h;refine⟨a,b,?_,h.1,h.2⟩;apply Array.ext';simpa using hl
   |cons _ _=>simp [lg]at h
theorem afB {c:Call} {x:AV} (h:lg ev c.args.toList=[x]):∃a,c.args= #[a]/\ev a=x:=by
 cases hl:c.args.toList with
 |nil=>rw[hl]at h;simp [lg]at h
 |cons a r=>
  rw[hl]at h;cases r with
  |nil=>
   simp only[lg,ax2,awy]at h;refine⟨a,?_,h⟩;apply Array.ext';simpa using hl
  |cons _ _=>simp [lg]at h
theorem data_append {e:E} {l ys:List (den e)} {c d r:Array Value} (h:N9 M e l c) (k:N9 M e ys d):∀a b,(ha:a<(l++ys).length)->b<esz e->∃u,(c++d++r)[a*esz e+b]? =some u/\bT M (nth (cells e (l++ys)[a]) b) u:=fun a b ha hb=>by
 by_cases h1:a<l.length
 ·obtain⟨u,g1,g2⟩:=h.2 a b h1 hb;refine⟨u,?_,by simpa [axq h1] using g2⟩;have hlt:=(awG.1 g1).1;rw[ayd (by simp;omega),ayd hlt,g1]
 ·have ha':a - l.length<ys.length:=by simp at ha;omega
  obtain⟨u,g1,g2⟩:=k.2 (a - l.length) b ha' hb;have hlt:=(awG.1 g1).1;have e1:a*esz e+b=c.size+((a - l.length)*esz e+b):=by
   rw[h.1,<-axz,<-awz];congr 2;omega
  refine⟨u,?_,by rw[axl (by omega)];exact g2⟩;rw[e1,ayd (by simp;omega),Array.getElem?_append_right (by omega),ayu,g1]
theorem FB (hp':∀id e,hp id=some e->M.hp id=some e) (hrel:lJ M) (hH:M.H=w.heap) {e:E} {y:AV} {v:Value} {ys:List (den e)} (h:lst hp e y=some ys) (hs:bT M y v):
 (Builtin.lenOf v).run P w= .ok ys.length w/\∀m,m<=ys.length->∃c:Array Value,(Builtin.firstCells (esz e) m v).run P w= .ok c w/\N9 M e (ys.take m) c:=by
 obtain⟨h1,h2⟩:=apI (P:=P) hp' hrel hH h hs
 refine⟨h1,fun m hm=> ?_⟩
 obtain⟨c,g1,g2,g3⟩:=h2 m hm
 refine⟨c,g1,by rw[g2,awu,ayz hm],fun a b ha hb=> ?_⟩
 rw[awu,ayz hm]at ha
 obtain⟨u,k1,k2⟩:=g3 a b ha (by omega) hb
 exact⟨u,k1,by rw[axI];exact k2⟩
end
section
variable {P:Program} {M N:Mem} {w w':World} {hp:Nat->Option Ent} {ρ:Operand->Value} {ev:Operand->AV} {i:Nat}
theorem Rl {o:Oper} {c:Call} (ho:o.op= .call c) (hc:c.callee= .builtin .append):execOp ρ o=(do pure (.value (<-Builtin.append_ c.argTypes o.type (c.args.map ρ)))):=
 UM ho hc _ rfl
theorem aiG (H:OpH P M w hp ρ ev i) {o:Oper} {c:Call} (ho:o.op= .call c) (hc:c.callee= .builtin .append) {x y:Operand} (ha:c.args= #[x,y]) {t t1 el:TypeId} (h0:c.argTypes[0]? =some t) (h1:c.argTypes[1]? =some t1)
 (hni:UU P t1=true) (hu:P.underlying t=some (.slice el)) {e:E} (he:EOk P el e) {u1:List (Nat×Option Ent)} (s1:Stp M w N w) (hN:∀j,N.hp j=over u1 M.hp j) (hU:N.U=M.U) (hi:look u1 i=none)
 {l ys:List (den e)} {base:Option Addr} {sCap:Nat} (hv:ρ x= .slice base l.length sCap) (hx:lst hp e (ev x)=some l) (hy:lst hp e (ev y)=some ys) (hneed:¬(l.length+ys.length<=sCap)) (hcap:l.length+ys.length<=68719476736):
 zx P M w i (execOp ρ o) ⟨.mf i,u1++[(i,some ⟨false,.arr e (l++ys)⟩)]⟩:=by
 obtain⟨inf,z,g1,g2,g3,g4,g5,g6⟩:=he.zero M
 have hH':M.H=w.drew.heap:=H.H
 obtain⟨_,x2⟩:=FB (P:=P) (w:=w.drew) H.hp H.rel hH' hx (H.ev x)
 obtain⟨y1,_⟩:=FB (P:=P) (w:=w) H.hp H.rel H.H hy (H.ev y)
 obtain⟨_,y2⟩:=FB (P:=P) (w:=w.drew) H.hp H.rel hH' hy (H.ev y)
 obtain⟨old,x3,x4⟩:=x2 l.length (awk _)
 obtain⟨new,y3,y4⟩:=y2 ys.length (awk _)
 rw[awq]at x4 y4
 rw[hv]at x3
 have hr:=amb (w:=w) (P:=P) (ty:=o.type) h0 h1 hni hu g1 g3 y1 (by rw[g2];exact y3) (by rw[g2];exact x3) hneed hcap g4
 have hge:=grownCap_ge w (l.length+ys.length) sCap el
 refine zx.newArr H s1 hN hU hi (n:=l.length+ys.length) (cap:=grownCap w (l.length+ys.length) sCap el) (c:=old++new++Builtin.zeroCells z.cells (grownCap w (l.length+ys.length) sCap el - (l.length+ys.length))) (t:=el) (fr:=(0,0))
  (by simp) hge ?_ (af8 _ _) (w':=w.drew.alloc (.cells (old++new++Builtin.zeroCells z.cells (grownCap w (l.length+ys.length) sCap el - (l.length+ys.length))) el)) ?_ rfl rfl rfl rfl (data_append x4 y4)
 ·simp only[ayB,x4.1,y4.1,size_zeroCells,g5,<-awz]
  exact awH _ (by omega)
 ·rw[Rl ho hc,ha]
  simp only[aye,awS,axQ,hv]
  simp only[Sem.run_bind,hr,Result.andThen_ok,Sem.run_pure]
theorem Zo (H:OpH P M w hp ρ ev i) {o:Oper} {c:Call} (ho:o.op= .call c) (hc:c.callee= .builtin .append) {x y:Operand} (ha:c.args= #[x,y]) {t t1 el:TypeId} (h0:c.argTypes[0]? =some t) (h1:c.argTypes[1]? =some t1)
 (hni:UU P t1=true) (hu:P.underlying t=some (.slice el)) {e:E} (he:EOk P el e) {u1:List (Nat×Option Ent)} (s1:Stp M w N w) (hN:∀j,N.hp j=over u1 M.hp j) (hU:N.U=M.U) (hi:look u1 i=none)
 {base:Option Addr} (hv:ρ x= .slice base 0 0) (hy:lst hp e (ev y)=some []):
 zx P M w i (execOp ρ o) ⟨.mf i,u1++[(i,some ⟨false,.arr e []⟩)]⟩:=by
 obtain⟨inf,z,g1,g2,g3,g4,g5,g6⟩:=he.zero M
 obtain⟨y1,y2⟩:=FB (P:=P) (w:=w) H.hp H.rel H.H hy (H.ev y)
 obtain⟨new,y3,y4⟩:=y2 0 (by simp)
 have hnew:new.toList=[]:=by
  have:=y4.1
  simp at this
  simp [this]
 have hr:=abR (w:=w) (w':=w) (P:=P) (ty:=o.type) (base:=base) (sLen:=0) (sCap:=0) h0 h1 hni hu g1 y1 (by rw[g2];exact y3) (by simp) (by rw[hnew];cases base<;>simp [storeCells])
 have hiU:¬N.U i:=by rw[hU];exact H.new i (awk _) (by omega)
 refine⟨.value (.slice base 0 0),.slice base 0 0,w,N.nilAt i e,?_,.inl rfl,s1.trans (Stp.nilAt s1.hrel s1.H i hiU e) H.rel H.H,fun q=> ?_,?_,fun q hq=> ?_⟩
 ·rw[Rl ho hc,ha]
  simp only[aye,awS,axQ,hv]
  simp only[Sem.run_bind,hr,Result.andThen_ok,Sem.run_pure,axm,axB]
 ·show Ey N.hp i _ q=_
  rw[ru]
  by_cases hq:q=i
  ·subst hq
   rw[bQ,over,hi]
   simp only[oQ,bQ]
  ·rw[dH _ _ hq,hN]
   simp only[over]
   cases look u1 q with
   |some _=>rfl
   |none=>simp [look,iL (awE hq)]
 ·refine .mf i _ (.inr rfl) rfl fun e' he'=> ?_
  have:e'=⟨false,.arr e []⟩:=by simpa [Mem.nilAt,bQ] using he'.symm
  subst this
  refine⟨false,e,[],base,0,rfl,rfl,awk _,?_⟩
  have hβ:(N.nilAt i e).β i=none:=by simp [Mem.nilAt,bQ]
  unfold xE
  rw[hβ]
  exact⟨rfl,rfl⟩
 ·rcases hq with h | h
  ·exact .inl (by rw[<-hU];exact h)
  ·exact .inr (by omega)
theorem atb {α:Type} (n:Nat) (ys:List α):nad n (itn (len ys))=n+ys.length:=by simp [nad,itn,len]
theorem ahL (H:OpH P M w hp ρ ev i) {o:Oper} {c:Call} (ho:o.op= .call c) (hc:c.callee= .builtin .append) {x y:Operand} (ha:c.args= #[x,y]) {t t1 el:TypeId} (h0:c.argTypes[0]? =some t) (h1:c.argTypes[1]? =some t1)
 (hni:UU P t1=true) (hu:P.underlying t=some (.slice el)) {e:E} (he:EOk P el e) {ob:Bool} {ef:Eff} (h:X0 hp i e (ev x) (ev y)=some (ob,ef)) (hob:ob=true):
 zx P M w i (execOp ρ o) ef:=by
 unfold X0 at h
 cases hy:lst hp e (ev y)with
 |none=>simp [hy]at h
 |some ys=>
  simp only[hy]at h
  have hx:=H.ev x
  obtain⟨v0,hv0⟩:∃v,ρ x=v:=⟨_,rfl⟩
  rw[hv0]at hx
  split at h
  ·
   rename_i hex
   simp only[awj,awo]at h
   obtain⟨rfl,rfl⟩:=h
   rw[hex]at hx
   cases hx
   have hcap:ys.length<=68719476736:=by simp only[Xm,jV,len,acF]at hob;omega
   by_cases hn:ys=[]
   ·subst hn
    exact Zo H ho hc ha h0 h1 hni hu he (u1:=[]) (Stp.refl H.rel H.H) (fun _=>rfl) rfl rfl hv0 hy
   ·have hpos:0<ys.length:=ax1.2 hn
    exact aiG H ho hc ha h0 h1 hni hu he (u1:=[]) (l:=[]) (Stp.refl H.rel H.H) (fun _=>rfl) rfl rfl hv0 (by rw[hex];rfl) hy (by simp;omega) (by simpa using hcap)
  ·
   rename_i e' l hex
   split at h
   ·rename_i heq
    subst heq
    simp only[awj,awo]at h
    obtain⟨rfl,rfl⟩:=h
    rw[hex]at hx
    obtain⟨a,cap,rfl,hlc,hxx⟩:=afD hx
    have hcl:=hxx rfl
    subst hcl
    simp only[rZ,aaz,Xm,jV,Ie,anA,len,aJ,acF,awn]at hob
    have hl:lst hp e' (ev x)=some l:=by rw[hex];simp [lst]
    by_cases hn:ys=[]
    ·subst hn
     have hl0:l=[]:=aw8 (by
      rcases hob.2 with g | g
      ·omega
      ·simp at g)
     subst hl0
     exact Zo H ho hc ha h0 h1 hni hu he (u1:=[]) (Stp.refl H.rel H.H) (fun _=>rfl) rfl rfl hv0 hy
    ·have hpos:0<ys.length:=ax1.2 hn
     exact aiG H ho hc ha h0 h1 hni hu he (u1:=[]) (l:=l) (Stp.refl H.rel H.H) (fun _=>rfl) rfl rfl hv0 hl hy (by omega) (by omega)
   ·simp at h
  ·
   rename_i id hex
   split at h
   ·rename_i e' l hid
    split at h
    ·rename_i heq
     subst heq
     simp only[awj,awo]at h
     obtain⟨rfl,rfl⟩:=h
     rw[hex]at hx
     have hm:=H.hp _ _ hid
     cases hx with | mf id v hU hv hh=>
     obtain⟨fz',t',l',ad,cap,heq,rfl,hlc,hsl⟩:=hh _ hm
     cases heq
     simp only[Xm,jV,len,aJ,acF,awn]at hob
     have hl:lst hp e' (ev x)=some l:=by rw[hex];simp [lst,hid]
     have hne:id≠i:=fun e=>H.new i (awk _) (by omega) (e▸hU)
     have sd:=Stp.drop (w:=w) H.rel H.H id
     have hdN:∀j,(M.drop id).hp j=over [(id,none)] M.hp j:=fun j=>(oQ id none M.hp j).symm
     have hli:look [(id,(none:Option Ent))] i=none:=by simp [look,iL hne]
     by_cases hfit:l.length+ys.length<=cap
     ·by_cases hc0:cap=0
      ·have hl0:l=[]:=aw8 (by omega)
       have hy0:ys=[]:=aw8 (by omega)
       subst hl0;subst hy0;subst hc0
       exact Zo H ho hc ha h0 h1 hni hu he (u1:=[(id,none)]) sd hdN rfl hli hv0 hy
      ·
       unfold xE at hsl
       cases hb:M.β id with
       |none=>simp only[hb]at hsl;omega
       |some b=>
        simp only[hb]at hsl
        obtain⟨⟨oo,rfl,hoo⟩,nb,hnb,hnb2⟩:=hsl
        have hoo0:oo=0:=by rcases hoo with g | g<;>omega
        subst hoo0
        obtain⟨inf,z,g1,g2,g3,g4,g5,g6⟩:=he.zero M
        obtain⟨y1,y2⟩:=FB (P:=P) (w:=w) H.hp H.rel H.H hy (H.ev y)
        obtain⟨new,y3,y4⟩:=y2 ys.length (awk _)
        rw[awq]at y4
        obtain⟨_,_,cc,ty,fr,hcc,hz,hlcc,hcs⟩:=H.rel.is hm hb
        have hcs0:cap*esz e'<=cc.size:=by
         have:nb=cc.size:=by simpa [bsize,hcc] using hnb.symm
         rw[<-this];simpa using hnb2
        have hfit2:l.length*esz e'+new.size<=cc.size:=by
         rw[y4.1,<-awz]
         exact aw4 (awH _ hfit) hcs0
        have hst:=Om (P:=P) b (l.length*esz e') ty fr new.toList 0 cc w (by rw[<-H.H];exact hcc) hz (by simpa using hfit2) y4.one
        simp only[axB]at hst
        have hr:=abR (w:=w) (P:=P) (ty:=o.type) (base:=some ⟨b,0,none⟩) (sLen:=l.length) (sCap:=cap) h0 h1 hni hu g1 y1 (by rw[g2];exact y3) hfit (w':={ w with heap:=w.heap.setIfInBounds b (.cells (qc cc (l.length*esz e') new.toList) ty fr) }) (by simp only[g2,Addr.add_mk,axc];exact hst)
        have hblk:xC M (.arr e' (l++ys)) (qc cc (l.length*esz e') new.toList):=by
         refine aiJ y4.1 hfit2 (by rw[awn];exact aw4 (awH _ hfit) hcs0) hcs y4.2 (fun j hj=> ?_)
         by_cases hj2:j<l.length
         ·exact .inr ⟨by omega,hj2,by rw[axq hj2]⟩
         ·exact .inl ⟨by simp at hj;omega,by omega,by rw[axl (by omega)]⟩
        have st:=Stp.move (w:=w) (w':={ w with heap:=w.heap.setIfInBounds b (.cells (qc cc (l.length*esz e') new.toList) ty fr) }) H.rel H.H H.F id i b (H.new i (awk _) (by omega)) _ (.arr e' (l++ys)) hm hb cc _ ty fr hcc (oP _ _ _) (by cases e'<;>exact fun h=>h) hblk rfl rfl rfl rfl
        refine⟨_,.slice (some ⟨b,0,none⟩) (l.length+ys.length) cap,_,_,?_,.inl rfl,st,fun q=> ?_,?_,fun q hq=> ?_⟩
        ·rw[Rl ho hc,ha]
         simp only[aye,awS,axQ,hv0]
         simp only[Sem.run_bind,hr,Result.andThen_ok,Sem.run_pure]
        ·show Ey (Ey M.hp id none) i _ q=_
         rw[J5]
         by_cases hq:q=i
         ·subst hq
          rw[bQ,dH _ _ (awE hne),oQ,bQ];rfl
         ·rw[dH _ _ hq]
          by_cases hq2:q=id
          ·subst hq2;rw[bQ,bQ]
          ·rw[dH _ _ hq2,dH _ _ hq2,oQ,dH _ _ hq]
        ·refine .mf i _ (.inr rfl) rfl fun e2 he2=> ?_
         have:e2=⟨false,.arr e' (l++ys)⟩:=by simpa [Mem.move,bQ] using he2.symm
         subst this
         refine⟨false,e',l++ys,_,cap,rfl,by rw[awn],by rw[awn];exact hfit,?_⟩
         have hβ:(M.move id i (.arr e' (l++ys)) b (.cells (qc cc (l.length*esz e') new.toList) ty fr)).β i=some b:=by simp [Mem.move,bQ]
         unfold xE
         rw[hβ]
         refine⟨⟨0,rfl,.inr (by simp)⟩,cc.size,?_,by simpa using hcs0⟩
         have hbl:b<M.H.size:=(awG.1 hcc).1
         simp [bsize,Mem.move,hbl,oP]
        ·rcases hq with h | h
         ·exact .inl h
         ·exact .inr (by omega)
     ·exact aiG H ho hc ha h0 h1 hni hu he (u1:=[(id,none)]) (l:=l) sd hdN rfl hli hv0 hl hy hfit (by omega)
    ·simp at h
   ·simp at h
  ·
   rename_i id n hex
   split at h
   ·rename_i e' l hid
    split at h
    ·rename_i heq
     subst heq
     simp only[awj,awo]at h
     obtain⟨rfl,rfl⟩:=h
     rw[hex]at hx
     have hm:=H.hp _ _ hid
     cases hx with | ms id off n v hU hv hh=>
     obtain⟨fz',t',l',ad,cap,heq,rfl,hc1,hc2,hc3,hsl⟩:=hh _ hm
     cases heq
     simp only[jV,len,ay,nti]at hob
     obtain⟨inf,z,g1,g2,g3,g4,g5,g6⟩:=he.zero M
     obtain⟨y1,y2⟩:=FB (P:=P) (w:=w) H.hp H.rel H.H hy (H.ev y)
     obtain⟨new,y3,y4⟩:=y2 ys.length (awk _)
     rw[awq]at y4
     obtain⟨w',N,p1,p2,p3,p4,p5⟩:=ace (P:=P) H.rel H.H H.F hm hsl (p:=n) y4 (by omega) (by omega)
     have hr:=abR (w:=w) (w':=w') (P:=P) (ty:=o.type) (base:=ad) (sLen:=n) (sCap:=cap) h0 h1 hni hu g1 y1 (by rw[g2];exact y3) (by omega) (by rw[g2];exact p1)
     refine⟨_,.slice ad (n+ys.length) cap,_,_,?_,.inl rfl,p2,fun q=> ?_,?_,fun q hq=> .inl (by rw[<-p4];exact hq)⟩
     ·rw[Rl ho hc,ha]
      simp only[aye,awS,axQ,hv0]
      simp only[Sem.run_bind,hr,Result.andThen_ok,Sem.run_pure]
     ·rw[p3,oQ];simp
     ·have hNid:N.hp id=some ⟨false,.arr e' (jq l n ys)⟩:=by rw[p3,bQ];simp
      show bT N (.ms id 0 (nad n (itn (len ys)))) _
      rw[atb]
      refine .ms id 0 _ _ (by rw[p4];exact hU) ⟨_,_,rfl,by omega⟩ fun e2 he2=> ?_
      rw[hNid]at he2
      cases he2
      have hlen:=Tz l ys n (by omega)
      exact⟨false,e',_,ad,cap,rfl,rfl,by rw[hlen];omega,by omega,by rw[hlen];omega,hsl.le p2.le hU hNid⟩
    ·simp at h
   ·simp at h
  ·simp at h
end
section
variable {P:Program} {M N:Mem} {w w':World} {hp:Nat->Option Ent} {ρ:Operand->Value} {ev:Operand->AV} {i:Nat}
theorem ap3 (a b:Nat):kP (a:Int) (b:Int)=((Nat.min a b:Nat):Int):=by
 simp only[kP];split<;>simp only[Nat.min_def]<;>split<;>omega
theorem aeN {at':Array TypeId} {t el ty:TypeId} {sz:Nat} (h0:at'[0]? =some t) (hu:P.underlying t=some (.slice el)) (hsz:∀w,(sizeOf el).run P w= .ok sz w) {base:Option Addr} {dLen dCap n:Nat} {y:Value} {d:Array Value}
 (hn:(Builtin.lenOf y).run P w= .ok n w) (hf:(Builtin.firstCells sz (Nat.min n dLen) y).run P w= .ok d w) (hst:(match base with | some a=>storeCells a d.toList | none=>pure ():Sem Unit).run P w= .ok () w'):
 (Builtin.copy_ at' ty #[.slice base dLen dCap,y]).run P w= .ok (.int .i64 ((Nat.min n dLen:Nat):Int)) w':=by
 have hm:min n dLen=Nat.min n dLen:=rfl
 cases base with
 |none=>
  simp only at hst
  have:w'=w:=by simpa using hst.symm
  subst this
  simp only[Builtin.copy_,h0,Sem.run_bind,iK _ hu,Result.andThen_ok,hn,hsz,hf,Sem.run_pure,List.getElem?_toArray,ayZ,ayL,goInt]
 |some a=>
  simp only at hst
  simp only[Builtin.copy_,h0,Sem.run_bind,iK _ hu,Result.andThen_ok,hn,hsz,hf,hst,Sem.run_pure,List.getElem?_toArray,ayZ,ayL,goInt]
theorem TA (a:Addr) (n:Nat) (h:n=0):a.add n=a:=by simp [Addr.add,h]
theorem ag0 (H:OpH P M w hp ρ ev i) {o:Oper} {c:Call} (ho:o.op= .call c) (hc:c.callee= .builtin .copy) {x y:Operand} (ha:c.args= #[x,y]) {t el:TypeId} (h0:c.argTypes[0]? =some t)
 (hu:P.underlying t=some (.slice el)) {e:E} (he:EOk P el e) {id off n cap:Nat} {ad:Option Addr} {l ys:List (den e)} (hv:ρ x= .slice ad n cap) (hm:M.hp id=some ⟨false,.arr e l⟩) (hsl:xE M id ad off cap (esz e))
 (hc1:off+n<=l.length) (hc2:n<=cap) (hy:lst hp e (ev y)=some ys):
 zx P M w i (execOp ρ o) ⟨.int .i64 (kP (len ys) (nti n)),[(id,some ⟨false,.arr e (jq l off (aV ys (itn (kP (len ys) (nti n)))))⟩)]⟩:=by
 obtain⟨y1,y2⟩:=FB (P:=P) (w:=w) H.hp H.rel H.H hy (H.ev y)
 have hmn:Nat.min ys.length n<=ys.length:=Nat.min_le_left _ _
 have hmn2:Nat.min ys.length n<=n:=Nat.min_le_right _ _
 obtain⟨d,d1,d2⟩:=y2 (Nat.min ys.length n) hmn
 have him:kP (len ys) (nti n)=((Nat.min ys.length n:Nat):Int):=ap3 _ _
 have hlt:(ys.take (Nat.min ys.length n)).length=Nat.min ys.length n:=by rw[awu];exact ayz hmn
 obtain⟨w',N,p1,p2,p3,p4,p5⟩:=ace (P:=P) H.rel H.H H.F hm hsl (p:=0) d2 (by rw[hlt];omega) (by rw[hlt];omega)
 have p1':(match (generalizing:=false) ad with | some a=>storeCells a d.toList | none=>pure ():Sem Unit).run P w= .ok () w':=by
  cases ad with
  |none=>exact p1
  |some a=>simpa only[TA a _ (ax3 _)] using p1
 have hr:=aeN (P:=P) (w:=w) (w':=w') (ty:=o.type) (base:=ad) (dLen:=n) (dCap:=cap) h0 hu he.size y1 d1 p1'
 refine⟨_,.int .i64 ((Nat.min ys.length n:Nat):Int),_,_,?_,.inl rfl,p2,fun q=> ?_,by rw[him];exact .int _ _,fun q hq=> .inl (by rw[<-p4];exact hq)⟩
 ·rw[UM ho hc (Builtin.copy_ c.argTypes o.type (c.args.map ρ)) rfl,ha]
  simp only[aye,awS,axQ,hv]
  simp only[Sem.run_bind,hr,Result.andThen_ok,Sem.run_pure]
 ·rw[p3,oQ,him]
  simp only[aV,itn,axh,axB]
theorem asf (H:OpH P M w hp ρ ev i) {o:Oper} {c:Call} (ho:o.op= .call c) (hc:c.callee= .builtin .copy) {x y:Operand} (ha:c.args= #[x,y]) {t el:TypeId} (h0:c.argTypes[0]? =some t)
 (hu:P.underlying t=some (.slice el)) {e:E} (he:EOk P el e) {ob:Bool} {ef:Eff} (h:arf hp e (ev x) (ev y)=some (ob,ef)):zx P M w i (execOp ρ o) ef:=by
 unfold arf at h
 cases hy:lst hp e (ev y)with
 |none=>simp [hy]at h
 |some ys=>
  simp only[hy]at h
  have hx:=H.ev x
  obtain⟨v0,hv0⟩:∃v,ρ x=v:=⟨_,rfl⟩
  rw[hv0]at hx
  split at h
  ·rename_i id hex
   split at h
   ·rename_i e' l hid
    split at h
    ·rename_i heq
     subst heq
     simp only[awj,awo]at h
     obtain⟨_,rfl⟩:=h
     rw[hex]at hx
     have hm:=H.hp _ _ hid
     cases hx with | mf id v hU hv hh=>
     obtain⟨fz',t',l',ad,cap,heq,rfl,hlc,hsl⟩:=hh _ hm
     cases heq
     exact ag0 H ho hc ha h0 hu he (off:=0) hv0 hm hsl (by omega) hlc hy
    ·simp at h
   ·simp at h
  ·rename_i id off n hex
   split at h
   ·rename_i e' l hid
    split at h
    ·rename_i heq
     subst heq
     simp only[awj,awo]at h
     obtain⟨_,rfl⟩:=h
     rw[hex]at hx
     have hm:=H.hp _ _ hid
     cases hx with | ms id off n v hU hv hh=>
     obtain⟨fz',t',l',ad,cap,heq,rfl,hc1,hc2,hc3,hsl⟩:=hh _ hm
     cases heq
     exact ag0 H ho hc ha h0 hu he hv0 hm hsl hc1 hc2 hy
    ·simp at h
   ·simp at h
  ·simp at h
theorem Rj {z:Array Value} {sz n a b:Nat} (hz:z.size=sz) (ha:a<n) (hb:b<sz):(Builtin.zeroCells z n)[a*sz+b]? =z[b]? :=by
 have hlt:a*sz+b<n*z.size:=by
  have:=awH sz (show a+1<=n from ha);rw[awz,axb]at this;rw[hz];omega
 exact abq (z:=z) (n:=n*z.size) hz hb hlt
theorem ap2 (H:OpH P M w hp ρ ev i) {o:Oper} {c:Call} (ho:o.op= .call c) (hc:c.callee= .builtin .clear) {x:Operand} (ha:c.args= #[x]) {t el:TypeId} (h0:c.argTypes[0]? =some t)
 (hu:P.underlying t=some (.slice el)) {e:E} (he:EOk P el e) {ob:Bool} {ef:Eff} (h:amn hp e (ev x)=some (ob,ef)):zx P M w i (execOp ρ o) ef:=by
 unfold amn at h
 have hx:=H.ev x
 obtain⟨v0,hv0⟩:∃v,ρ x=v:=⟨_,rfl⟩
 rw[hv0]at hx
 split at h
 ·rename_i id off n hex
  split at h
  ·rename_i e' l hid
   split at h
   ·rename_i heq
    subst heq
    simp only[awj,awo]at h
    obtain⟨_,rfl⟩:=h
    rw[hex]at hx
    have hm:=H.hp _ _ hid
    cases hx with | ms id off n v hU hv hh=>
    obtain⟨fz',t',l',ad,cap,heq,rfl,hc1,hc2,hc3,hsl⟩:=hh _ hm
    cases heq
    obtain⟨inf,z,g1,g2,g3,g4,g5,g6⟩:=he.zero M
    have hd:N9 M e' (sK (den e') n) (Builtin.zeroCells z.cells n):=by
     refine⟨by rw[size_zeroCells,g5];simp [sK],fun a b ha hb=> ?_⟩
     have ha':a<n:=by simpa [sK] using ha
     obtain⟨u,k1,k2⟩:=g6 b hb
     exact⟨u,by rw[Rj g5 ha' hb,k1],by simpa [sK] using k2⟩
    obtain⟨w',N,p1,p2,p3,p4,p5⟩:=ace (P:=P) H.rel H.H H.F hm hsl (p:=0) hd (by simp [sK];omega) (by simp [sK];omega)
    have hr:(Builtin.clear_ c.argTypes o.type #[.slice ad n cap]).run P w= .ok (.tuple #[]) w':=by
     cases ad with
     |none=>
      simp only at p1
      have:w'=w:=by simpa using p1.symm
      subst this
      simp [Builtin.clear_,h0,iK _ hu]
     |some a=>
      have p1':(storeCells a (Builtin.zeroCells z.cells n).toList).run P w= .ok () w':=by simpa only[TA a _ (ax3 _)] using p1
      by_cases hn:n=0
      ·subst hn
       have hz:(Builtin.zeroCells z.cells 0).toList=[]:=by simp [Builtin.zeroCells]
       rw[hz]at p1'
       have:w'=w:=by simpa [storeCells] using p1'.symm
       subst this
       simp [Builtin.clear_,h0,iK _ hu]
      ·obtain⟨m,rfl⟩:∃m,n=m+1:=⟨n - 1,by omega⟩
       simp [Builtin.clear_,h0,iK _ hu,zeroValue,aeF _ g1,g3,p1']
    refine⟨_,.tuple #[],_,_,?_,.inl rfl,p2,fun q=> ?_,.tup [] #[] rfl (fun i h=>by simp at h),fun q hq=> .inl (by rw[<-p4];exact hq)⟩
    ·rw[UM ho hc (Builtin.clear_ c.argTypes o.type (c.args.map ρ)) rfl,ha]
     simp only[aye,awS,axQ,hv0]
     simp only[Sem.run_bind,hr,Result.andThen_ok,Sem.run_pure]
    ·rw[p3,oQ]
     simp only[axB]
   ·simp at h
  ·simp at h
 ·simp at h
theorem arS (H:OpH P M w hp ρ ev i) {o:Oper} {c:Call} (ho:o.op= .call c) (hc:c.callee= .builtin .append) {x y:Operand} (ha:c.args= #[x,y]) {t t1 el:TypeId} (h0:c.argTypes= #[t,t1]) {kk:IntKind}
 (hti:P.underlying t1=some (.int kk)) (hu:P.underlying t=some (.slice el)) {e:E} (he:EOk P el e) (hx:ev x= .nils) {k:IntKind} {n:Int} (hy:ev y= .int k n) (hob:band (ilt 0 n) (ile n acF)=true):
 zx P M w i (execOp ρ o) ⟨.mf i,[(i,some ⟨false,.arr e (sK (den e) (itn n))⟩)]⟩:=by
 simp only[rZ,Ie,jV,acF]at hob
 obtain⟨hn0,hn1⟩:=hob
 obtain⟨inf,z,g1,g2,g3,g4,g5,g6⟩:=he.zero M
 have hx':=H.ev x
 have hy':=H.ev y
 rw[hx]at hx';rw[hy]at hy'
 obtain⟨vx,hvx⟩:∃v,ρ x=v:=⟨_,rfl⟩
 obtain⟨vy,hvy⟩:∃v,ρ y=v:=⟨_,rfl⟩
 rw[hvx]at hx';rw[hvy]at hy'
 cases hx';cases hy'
 obtain⟨m,rfl⟩:=Int.eq_ofNat_of_zero_le (show 0<=n by omega)
 have hm:m<=68719476736:=by omega
 have hpos:0<esz e:=ayK fun h=>CO e h
 have hbb:m*inf.bytes<=140737488355328:=by
  have:=Nat.mul_le_mul hm g4
  omega
 have hr:=Lib.run_append_grow_zeros (P:=P) w t t1 o.type el inf z k kk hu hti g1 g3 none 0 0 [] (by simp [Builtin.firstCells]) m (by omega) (by rw[g2];exact hpos) (by omega) (by omega) (by omega)
  (growslice_fits (by omega) (by simpa using hbb))
 simp only[axc]at hr
 have hge:=grownCap_ge w m 0 el
 refine zx.newArr H (N:=M) (u1:=[]) (Stp.refl H.rel H.H) (fun _=>rfl) rfl rfl (n:=m) (cap:=grownCap w m 0 el) (c:= #[]++Builtin.zeroCells z.cells m++Builtin.zeroCells z.cells (grownCap w m 0 el - m)) (t:=el) (fr:=(0,0))
  (by simp [sK,itn]) hge ?_ (af8 _ _) (w':=w.drew.alloc (.cells (#[]++Builtin.zeroCells z.cells m++Builtin.zeroCells z.cells (grownCap w m 0 el - m)) el)) ?_ rfl rfl rfl rfl (fun a b ha hb=> ?_)
 ·simp only[ayB,size_zeroCells,g5,<-awz]
  simp only[Array.size_empty,axc,<-awz]
  exact awH _ (by omega)
 ·rw[Rl ho hc,ha,h0]
  simp only[aye,awS,axQ,hvx,hvy]
  have hr':=hr
  simp only[Sem.run_bind,hr',Result.andThen_ok,Sem.run_pure]
 ·have ha':a<m:=by simpa [sK,itn] using ha
  obtain⟨u,k1,k2⟩:=g6 b hb
  refine⟨u,?_,by simpa [sK] using k2⟩
  have hz:=Rj (z:=z.cells) (sz:=esz e) (n:=m) g5 ha' hb
  rw[<-k1,<-hz]
  have hlt:a*esz e+b<(Builtin.zeroCells z.cells m).size:=by
   rw[size_zeroCells,g5]
   have:=awH (esz e) (show a+1<=m by omega)
   rw[awz]at this;omega
  rw[ayd (by simpa using hlt)]
  simp
end
section
variable {P:Program} {M N:Mem} {w w':World} {hp:Nat->Option Ent} {ρ:Operand->Value} {ev:Operand->AV} {i:Nat}
theorem fold_push:∀(ns:List Int) (s:ByteArray),(ns.foldl (fun r n=>r.push (UInt8.ofNat n.toNat)) s).data.toList=s.data.toList++ns.map fun n=>UInt8.ofNat n.toNat
 |[],s=>by simp
 |n::ns,s=>by
  rw[aw6,fold_push ns]
  simp [ByteArray.push]
theorem aqi {ys:List Int} {d:Array Value} (h:N9 M .u8 ys d):d=(ys.map (Value.int .u8)).toArray:=by
 apply Array.ext
 ·have:=h.1;simpa [esz] using this
 ·intro j h1 h2;have hj:j<ys.length:=by simpa using h2
  obtain⟨u,g1,g2⟩:=h.2 j 0 hj (by decide);have e1:j*esz .u8+0=j:=by simp [esz]
  rw[e1,awW h1]at g1;rw[awr g1];have g3:bT M (.int .u8 ys[j]) u:=g2;cases g3;simp
theorem apc (hp':∀id e,hp id=some e->M.hp id=some e) {e:E} {y:AV} {v:Value} {ys:List (den e)} (h:lst hp e y=some ys) (hns:∀s,y≠ .str s) (hs:bT M y v):∃a cap,v= .slice a ys.length cap:=by
 unfold lst at h;split at h
 ·simp only[awj]at h;subst h;cases hs;exact⟨_,_,rfl⟩
 ·split at h
  ·rename_i he;subst he;simp only[awj]at h;subst h;obtain⟨a,cap,rfl,_⟩:=afD hs;exact⟨_,_,rfl⟩
  ·simp at h
 ·rename_i id;split at h
  ·rename_i fz e' l he;split at h
   ·rename_i heq;subst heq;simp only[awj]at h;subst h;cases hs with | mf id v hU hv hh=>
    obtain⟨fz',t',l',ad,cap,heq,rfl,hc,hsl⟩:=hh _ (hp' _ _ he);cases heq;exact⟨_,_,rfl⟩
   ·simp at h
  ·simp at h
 ·rename_i id off n;split at h
  ·rename_i fz e' l he;split at h
   ·rename_i heq;subst heq;simp only[awj]at h;subst h;cases hs with | ms id off n v hU hv hh=>
    obtain⟨fz',t',l',ad,cap,heq,rfl,hc1,hc,hc2,hsl⟩:=hh _ (hp' _ _ he);cases heq;have hlen:(aV (bZ l off) n).length=n:=by simp [aV,bZ];omega
    exact⟨ad,cap,by rw[hlen]⟩
   ·simp at h
  ·simp at h
 ·exact absurd rfl (hns _)
 ·simp at h
theorem aqU (H:OpH P M w hp ρ ev i) {src dst el:TypeId} {x:Operand} (hs:P.underlying src=some (.slice el)) (hd:P.underlying dst=some .string) (he:P.underlying el=some (.int .u8)) {l:List Int} (hx:lst hp .u8 (ev x)=some l)
 (hns:∀s,ev x≠ .str s):POk P M w (convert src dst (ρ x)) (.str (u2s l)):=by
 obtain⟨y1,y2⟩:=FB (P:=P) (w:=w) H.hp H.rel H.H hx (H.ev x)
 obtain⟨d,d1,d2⟩:=y2 l.length (awk _)
 rw[awq]at d2
 obtain⟨a,cap,hv⟩:=apc H.hp hx hns (H.ev x)
 have hd':=aqi d2
 rw[hv]at d1 ⊢
 rw[hd']at d1
 cases a with
 |none=>
  have hl:l=[]:=by
   have h1:d= #[]:=by
    have:(Builtin.firstCells (esz .u8) l.length (.slice none l.length cap)).run P w= .ok #[] w:=run_firstCells_none w _ _ _ _
    rw[hd']
    rw[this]at d1
    simp only[Result.ok.injEq,awy]at d1
    exact d1.symm
   have:=d2.1
   rw[h1]at this
   simp [esz]at this
   exact aw8 this.symm
  subst hl
  refine⟨.string .empty,?_,.str _ _ rfl⟩
  rw[run_convert_bytes_string w src dst el none _ cap hs he hd]
  simp [Conv.bytesToString]
 |some a=>
  have d1':(loadCells a l.length).run P w= .ok (l.map (Value.int .u8)).toArray w:=by
   simpa only[Builtin.firstCells,esz,ayA] using d1
  refine⟨_,?_,.str (l.foldl (fun r n=>r.push (UInt8.ofNat n.toNat)) ByteArray.empty) _ ?_⟩
  ·rw[run_convert_bytes_string w src dst el (some a) _ cap hs he hd]
   exact run_bytesToString w a l.length cap l d1'
  ·rw[fold_push];simp [u2s]
end
section
variable {P:Program} {M N:Mem} {w w':World} {hp:Nat->Option Ent} {ρ:Operand->Value} {ev:Operand->AV} {i:Nat}
theorem alA (H:OpH P M w hp ρ ev i) {o:Oper} {src dst el:TypeId} {x:Operand} (ho:o.op= .convert src dst x) (hs:P.underlying src=some .string) (hd:P.underlying dst=some (.slice el)) (he:P.underlying el=some (.int .u8))
 {s:List UInt8} (hx:ev x= .str s):zx P M w i (execOp ρ o) ⟨.mf i,[(i,some ⟨false,.arr .u8 (s2u s)⟩)]⟩:=by
 have hx':=H.ev x
 rw[hx]at hx'
 obtain⟨v0,hv0⟩:∃v,ρ x=v:=⟨_,rfl⟩
 rw[hv0]at hx'
 cases hx' with | str bs l hl=>
 subst hl
 have hr:=run_bytes_of_string (P:=P) w src dst el bs hs hd he
 have hge:bs.size<=grownCap w bs.size 0 el:=grownCap_ge w bs.size 0 el
 have hsz:(bytesRow bs (grownCap w bs.size 0 el)).size=grownCap w bs.size 0 el:=by
  simp only[bytesRow,ayB,Array.size_map,Array.size_replicate]
  have:bs.data.size=bs.size:=rfl
  omega
 refine zx.newArr H (N:=M) (u1:=[]) (Stp.refl H.rel H.H) (fun _=>rfl) rfl rfl (n:=bs.size) (cap:=grownCap w bs.size 0 el) (c:=bytesRow bs (grownCap w bs.size 0 el)) (t:=el)
  (fr:=((bytesRow bs (grownCap w bs.size 0 el)).size,(bytesRow bs (grownCap w bs.size 0 el)).size+1)) (by simp only[s2u,axC];rw[Qg]) hge (by rw[hsz];simp [esz])
  ⟨fun o ho h=>by simp only at h;omega,fun h=>by simp [KX]at h⟩
  (w':=w.drew.alloc (.cells (bytesRow bs (grownCap w bs.size 0 el)) el ((bytesRow bs (grownCap w bs.size 0 el)).size,(bytesRow bs (grownCap w bs.size 0 el)).size+1)))
  (by simp only[execOp,ho,hv0,Sem.run_bind,hr,Result.andThen_ok,Sem.run_pure]) rfl rfl rfl rfl (fun a b ha hb=> ?_)
 have hb0:b=0:=by simpa [esz] using hb
 subst hb0
 have ha':a<bs.data.size:=by simpa [s2u] using ha
 refine⟨.int .u8 (bs.data[a].toNat:Int),?_,?_⟩
 ·rw[show a*esz E.u8+0=a by simp [esz]]
  simp only[bytesRow]
  rw[ayd (by simpa using ha'),ayX,awW ha']
  rfl
 ·simp only[s2u,ayG,cells,nth]
  simp only[axN]
  exact .int _ _
structure avQ (C:Cx):Prop where
 wf:WfP C.P
 ety:∀t e,C.ety t=some e->EOk C.P t e
theorem ane {o:Oper} {c:Call} (ho:o.op= .call c) {b:Builtin} (hc:c.callee= .builtin b) (mx:Bool) (hb:b=bif mx then .max else .min) {x:Operand} {r:List Operand} (ha:c.args.toList=x::r) {k:IntKind} {a:Int} {y:AV}
 (H:OpH P M w hp ρ ev i) (hx:ev x= .int k a) (h:mmL mx k a (lg ev r)=some y):zx P M w i (execOp ρ o) ⟨y,[]⟩:=by
 obtain⟨g1,g2⟩:=J6 H.ev r
 obtain⟨n,h1,h2⟩:=am6 (P:=P) (M:=M) (w:=w) mx (lg ev r) (r.map ρ) k a y h g1 (fun j p q=>g2 j p q)
 have hxv:ρ x= .int k a:=by
  have:=H.ev x
  rw[hx]at this
  generalize ρ x=v at this
  cases this;rfl
 have hargs:(c.args.map ρ).toList=ρ x::r.map ρ:=by simp [ha]
 subst h1
 refine zx.pure H.rel H.H (v:= .int k n) ?_ (.int k n)
 cases mx with
 |true=>
  have hb':b= .max:=hb
  subst hb'
  rw[UM ho hc (Builtin.max_ c.argTypes o.type (c.args.map ρ)) rfl]
  simp only[Builtin.max_,hargs,hxv,Sem.run_bind]
  have h2':(List.foldlM Builtin.max2 (Value.int k a) (r.map ρ)).run P w= .ok (.int k n) w:=h2
  rw[h2'];rfl
 |false=>
  have hb':b= .min:=hb
  subst hb'
  rw[UM ho hc (Builtin.min_ c.argTypes o.type (c.args.map ρ)) rfl]
  simp only[Builtin.min_,hargs,hxv,Sem.run_bind]
  have h2':(List.foldlM Builtin.min2 (Value.int k a) (r.map ρ)).run P w= .ok (.int k n) w:=h2
  rw[h2'];rfl
theorem am3 (e:E) (l:List (den e)):∀m k j,j<m->nth (atC e l m k) j=nth (cells e (aj l (k+j))) 0
 |0,_,_,h=>by omega
 |m+1,k,0,_=>rfl
 |m+1,k,j+1,h=>by
  show nth (atC e l m (k+1)) j=_
  rw[am3 e l m (k+1) j (by omega),Nat.add_right_comm];rfl
theorem arI {ety:Nat->Option E} {t:Nat} {x:AV} {v:Value} {ob:Bool} {r:AV} (h:alK P ety t x=some (ob,r)) (ho:ob=true) (hx:bT M x v):POk P M w (Instr.arrayAt t v) r:=by
 unfold alK at h;split at h
 ·rename_i n el e l ex e' hu he;cases hb:Nat.beq (esz e) 1&&Nat.beq (esz e') n with
  |false=>simp [hb]at h
  |true=>
   simp only[hb,cond_true]at h;simp only[awp]at hb;have h1:=aws hb.1;have h2:=aws hb.2;split at h
   ·rename_i d hd;simp only[awj,awo]at h;obtain⟨rfl,rfl⟩:=h;simp only[jV,nti,len]at ho;obtain⟨_,wk⟩:=Ec e' _ _ hd;have hpos:0<n:=by rw[<-h2];exact ayK fun h=>CO e' h
    cases hx with
    |roE=>simp at ho;omega
    |ro e l ex b o cap hl hx0 hF cs hc hss=>
     have hn:¬l.length<n:=by omega
     refine⟨.pointer (some ⟨b,o,none⟩),by simp [Instr.arrayAt,iK w hu,hn],?_⟩;refine .rp e' d 0 _ b o rfl hF (fun k=>cs k 0) (fun k hk=> ?_) (fun k hk=> ?_)
     ·have:=hc k 0 (by omega) (by omega);rw[h1]at this;simpa using this
     ·have hkn:k<n:=by omega
      refine(wk k hk).sees ?_;rw[am3 e l n 0 k hkn,axc];have hk2:k<l.length:=by omega
      have:aj l k=l[k]:=by simp [aj,List.getD,hk2]
      rw[this];exact hss k 0 hk2 (by omega)
   ·simp at h
 ·simp at h
theorem ahg:∀ {cs:List AV} {l:List Int},agP cs=some l->l.length=cs.length/\∀k,(h:k<l.length)->nth cs k= .int .u8 l[k]
 |[],l,h=>by cases h;exact⟨rfl,fun k h=>by simp at h⟩
 |c::r,l,h=>by
  unfold agP at h
  split at h
  ·cases h;rename_i h0;cases h0
  ·rename_i n r' h0
   cases h0
   cases hr:agP r with
   |none=>rw[hr]at h;cases h
   |some l'=>
    rw[hr]at h
    cases h
    obtain⟨h1,h2⟩:=ahg hr
    refine⟨by simp [h1],fun k hk=> ?_⟩
    cases k with
    |zero=>rfl
    |succ k=>exact h2 k (by simpa using hk)
  ·cases h
theorem apQ (H:OpH P M w hp ρ ev i) (wf:WfP P) {ety:Nat->Option E} (hety:∀t e,ety t=some e->EOk P t e) {o:Oper} {t:TypeId} {x:Operand} {lo hi mx:Option Operand} (ho:o.op= .slice t x lo hi mx) {ef:Eff} (h:am8 P ety hp i t (ev x) lo hi mx=some ef):zx P M w i (execOp ρ o) ef:=by
 unfold am8 at h;split at h
 ·rename_i id hex;split at h
  ·rename_i n el cs hu hid;split at h
   ·rename_i l he hl;simp only[awj]at h;subst h;cases hb:Nat.beq cs.length n with
    |false=>rw[hb]at hl;cases hl
    |true=>
     rw[hb]at hl;have hcn:=aws hb;have hl:agP cs=some l:=hl;obtain⟨hl1,hl2⟩:=ahg hl;have hm:=H.hp _ _ hid;have hx:=H.ev x;rw[hex]at hx;obtain⟨v0,hv0⟩:∃v,ρ x=v:=⟨_,rfl⟩;rw[hv0]at hx;cases hx with | mp id off v hU hv hh=>
     obtain⟨b,fz,cs',heq,hβ,rfl⟩:=hh _ hm;cases heq;obtain⟨_,_,c,ty,fr,hc,hz,hbl⟩:=H.rel.is hm hβ;obtain⟨⟨hcs,hone⟩,hsee⟩:=hbl;have hne:id≠i:=fun e=>H.new i (awk _) (by omega) (e▸hU);have hset:w.heap.setIfInBounds b (.cells c ty fr)=w.heap:=by
      apply ayF;intro j;rw[Array.getElem?_setIfInBounds];split
      ·rename_i hj;subst hj;rw[<-H.H,hc];have:=(awG.1 hc).1;simp [this]
      ·rfl
     have hblk:xC M (.arr .u8 l) c:=by
      refine⟨by rw[hcs,<-hl1];exact Nat.le_of_eq (ayA _),fun k j hk hj=> ?_⟩;have hj0:j=0:=by have:j<1:=hj;omega
      subst hj0;have hk1:k<cs.length:=by rw[<-hl1];exact hk
      have hk2:k<c.size:=by rw[hcs];exact hk1
      refine⟨c[k],?_,?_⟩
      ·have:k*esz .u8+0=k:=ayA _;rw[this,awW hk2]
      ·have h3:=hsee k hk1 hk2;have h4:cs[k]= .int .u8 l[k]:=by rw[<-hl2 k hk,vG _ _ hk1]
       rw[h4]at h3;exact h3
     have st:=Stp.move (w:=w) (w':=w) H.rel H.H H.F id i b (H.new i (awk _) (by omega)) _ (.arr .u8 l) hm hβ c c ty fr hc rfl (fun h=>by cases h) hblk hset.symm rfl rfl rfl;have hsz:(Instr.sliceBounds false n n none none none).run P w= .ok (0,n,n) w:=by simp [Instr.sliceBounds]
     have had:(Addr.mk b 0 none).add (0*fM P el)=⟨b,0,none⟩:=by simp [Addr.add]
     refine⟨.value (.slice (some ⟨b,0,none⟩) n n),.slice (some ⟨b,0,none⟩) n n,w,_,?_,.inl rfl,st,fun q=> ?_,?_,fun q hq=> ?_⟩
     ·simp only[execOp,ho,hv0,Option.map_none];simp only[Instr.sliceAt,Sem.run_bind,iK w hu,Result.andThen_ok,Instr.sureAddr,Sem.run_pure,hsz,WfP.size (wf.arr _ _ _ hu),had,ite_self,ayH]
     ·show Ey (Ey M.hp id none) i _ q=_;rw[J5];by_cases hq:q=i
      ·subst hq;rw[bQ,dH _ _ (awE hne),oQ,bQ]
      ·rw[dH _ _ hq];by_cases hq2:q=id
       ·subst hq2;rw[bQ,bQ]
       ·rw[dH _ _ hq2,dH _ _ hq2,oQ,dH _ _ hq]
     ·refine .mf i _ (.inr rfl) rfl fun e2 he2=> ?_;have:e2=⟨false,.arr .u8 l⟩:=by simpa [Mem.move,bQ] using he2.symm
      subst this;refine⟨false,.u8,l,_,n,rfl,by rw[hl1,hcn],by omega,?_⟩;have hβ2:(M.move id i (.arr .u8 l) b (.cells c ty fr)).β i=some b:=by simp [Mem.move,bQ]
      unfold xE;rw[hβ2];have hbl:b<M.H.size:=(awG.1 hc).1;refine⟨⟨0,rfl,.inr (by simp)⟩,c.size,?_,?_⟩
      ·simp [bsize,Mem.move,hbl]
      ·have:(0+n)*esz .u8=n:=by rw[axc];exact ayA _
       rw[this];omega
     ·rcases hq with h | h
      ·exact .inl h
      ·exact .inr (by omega)
   ·cases h
  ·cases h
 ·cases h
end
section
variable {C:Cx} {M N:Mem} {w w':World} {hp:Nat->Option Ent} {ρ:Operand->Value} {ev:Operand->AV} {i:Nat}
theorem aoh (K:avQ C) (H:OpH C.P M w hp ρ ev i) (o:Oper) {ob:Bool} {ef:Eff} (h:eop C hp ev i o.op=some (ob,ef)) (hob:ob=true):zx C.P M w i (execOp ρ o) ef:=by
 have P1:∀ {s:Sem Value} {y:AV},execOp ρ o=(do pure (.value (<-s)))->POk C.P M w s y->zx C.P M w i (execOp ρ o) ⟨y,[]⟩:=fun hs hp=>by
  rw[hs];exact hp.ok H
 unfold eop at h;split at h
 ·
  rename_i x ho;simp only[awj,awo]at h;obtain⟨_,rfl⟩:=h;exact zx.pure H.rel H.H (v:=ρ x) (by simp [execOp,ho]) (H.ev x)
 ·rename_i x ho;simp only[awj,awo]at h;obtain⟨_,rfl⟩:=h;exact zx.pure H.rel H.H (v:=ρ x) (by simp [execOp,ho]) (H.ev x)
 ·
  rename_i t ho;split at h
  ·simp at h
  ·rename_i z hz;simp only[awj,awo]at h;obtain⟨_,rfl⟩:=h;have:=aqD (P:=C.P) (w:=w) H.rel H.H H.F (H.new i (awk _) (by omega)) ρ o t ho (by intro e;exact hz e);exact this
 ·
  rename_i t x ho;cases hb:boxOk (ev x)with
  |false=>simp [hb]at h
  |true=>
   simp only[hb,cond_true,awj,awo]at h;obtain⟨_,rfl⟩:=h;exact auP H.rel H.H H.F (H.new i (awk _) (by omega)) ρ o t x ho hb (H.ev x)
 ·
  rename_i t ps ho;split at h
  ·rename_i pl hpl;split at h
   ·simp at h
   ·rename_i z zs hz;split at h
    ·rename_i cs hf;simp only[awj,awo]at h;obtain⟨_,rfl⟩:=h;exact P1 (s:=Instr.build t (ps.map fun(i,x)=>(i,ρ x))) (by simp only[execOp,ho]) (asP K.wf H.ev hpl (by rw[hz];simp) (by rw[hz];exact hf))
    ·simp at h
  ·simp at h
 ·
  rename_i t n ps ho;cases hok:aeK (lK ev ps.toList) n with
  |false=>simp [hok]at h
  |true=>
   simp only[hok,cond_true]at h;split at h
   ·rename_i el hu;cases hle:Nat.ble (n*fM C.P el) 16777216 with
    |false=>simp [hle]at h
    |true=>
     simp only[hle,axY,cond_false]at h;have hle':=axk hle;split at h
     ·rename_i e he;split at h
      ·rename_i l hl;simp only[awj,awo]at h;obtain⟨_,rfl⟩:=h;exact apq H o ho hu (K.ety _ _ he) hok hle' hl
      ·simp at h
     ·cases hc:agY (fM C.P el) (lK ev ps.toList)&&Nat.beq (CX C.P el).length (fM C.P el)&&Nat.ble 1 (fM C.P el)with
      |false=>rw[hc]at h;simp at h
      |true=>
       rw[hc]at h;simp only[axY,cond_false,awj,awo]at h;obtain⟨_,rfl⟩:=h;simp only[awp]at hc;exact apn K.wf H o ho hu hok hle' hc.1.1 (aws hc.1.2) (axk hc.2)
   ·simp at h
 ·
  rename_i t x ho;split at h
  ·rename_i v hl;simp only[awj,awo]at h;obtain⟨_,rfl⟩:=h;exact asq H.rel H.H ρ o t x ho (H.ev x) H.hp hl
  ·simp at h
 ·
  rename_i t x y ho;cases hc:Nat.beq (fM C.P t) (ev y).cellsA.length&&Nat.ble 1 (fM C.P t)with
  |false=>rw[hc]at h;simp at h
  |true=>
   rw[hc]at h;simp only[cond_true]at h;simp only[awp]at hc;split at h
   ·rename_i u hs;simp only[awj,awo]at h;obtain⟨_,rfl⟩:=h;exact arD H o ho (aws hc.1) (axk hc.2) hs
   ·simp at h
 ·
  rename_i x ho;have hx:=H.ev x;obtain⟨v0,hv0⟩:∃v,ρ x=v:=⟨_,rfl⟩;rw[hv0]at hx;split at h
  ·rename_i id off hex;simp only[awj,awo]at h;obtain⟨_,rfl⟩:=h;rw[hex]at hx;have hx2:=hx;cases hx2 with | mp id off v hU hv hh=>
   obtain⟨a,rfl⟩:=hv;exact zx.pure H.rel H.H (by simp [execOp,ho,hv0]) hx
  ·rename_i id k j hex;simp only[awj,awo]at h;obtain⟨_,rfl⟩:=h;rw[hex]at hx;have hx2:=hx;cases hx2 with | ep id k j v hU hv hh=>
   obtain⟨a,rfl⟩:=hv;exact zx.pure H.rel H.H (by simp [execOp,ho,hv0]) hx
  ·rename_i e v j hex;simp only[awj,awo]at h;obtain⟨_,rfl⟩:=h;rw[hex]at hx;have hx2:=hx;cases hx2 with | rp e x j v b o hv hF cs hc hss=>
   subst hv;exact zx.pure H.rel H.H (by simp [execOp,ho,hv0]) hx
  ·rename_i f cs hex;simp only[awj,awo]at h;obtain⟨_,rfl⟩:=h;rw[hex]at hx;have hx2:=hx;cases hx2;exact zx.pure H.rel H.H (by simp [execOp,ho,hv0]) hx
  ·simp at h
 ·
  rename_i op t x y ty ho;have hex:execOp ρ o=(do pure (.value (<-(do eqGuard op t x y (ρ x) (ρ y);binOp op t (ρ x) (ρ y):Sem Value)))):=by simp only[execOp,ho]
  have sh:(op= .shl\/op= .shr)->∀ {r},aiZ op (ev x) (ev y)=some (ob,r)->zx C.P M w i (execOp ρ o) ⟨r,[]⟩:=fun hop r hr=>by
   obtain⟨v,g1,g2⟩:=as3 (P:=C.P) (M:=M) (w:=w) hr hob t (H.ev x) (H.ev y);exact P1 hex ⟨v,by simp only[Sem.run_bind,apf hop,Result.andThen_ok,g1],g2⟩
  split at h
  ·split at h
   ·rename_i ob' v hs;simp only[awj,awo]at h;obtain⟨rfl,rfl⟩:=h;exact sh (.inl rfl) hs
   ·simp at h
  ·split at h
   ·rename_i ob' v hs;simp only[awj,awo]at h;obtain⟨rfl,rfl⟩:=h;exact sh (.inr rfl) hs
   ·simp at h
  ·rename_i h1 h2;split at h
   ·rename_i ob' v hs;simp only[awj,awo]at h;obtain⟨rfl,rfl⟩:=h;exact P1 hex (aup K.wf (H.ev x) (H.ev y) (fun e=>by rcases e with e | e;exact h1 e;exact h2 e) hs hob)
   ·simp at h
 ·
  rename_i op t x ho;obtain⟨h1,h2⟩:=asF (P:=C.P) (w:=w) h (H.ev x);obtain⟨v,u⟩:=ef;simp only at h1;subst h1;exact P1 (by simp only[execOp,ho]) h2
 ·
  rename_i src dst x ho;have hx:=H.ev x;have hex:execOp ρ o=(do pure (.value (<-convert src dst (ρ x)))):=by simp only[execOp,ho]
  unfold atu at h;split at h
  ·simp at h
  ·rename_i us hus;split at h
   ·rename_i k kk n hd hxe;simp only[awj,awo]at h;obtain⟨_,rfl⟩:=h;rw[hxe]at hx;generalize hv:ρ x=v at hx hex;cases hx;exact P1 hex ⟨_,by simp [convert,iK w hus,iK w hd,Conv.intToInt,wr],.int _ _⟩
   ·rename_i l hd hxe;simp only[awj,awo]at h;obtain⟨_,rfl⟩:=h;rw[hxe]at hx;generalize hv:ρ x=v at hx hex;have hx2:=hx;cases hx2;exact P1 hex ⟨_,by simp [convert,iK w hus,iK w hd],hx⟩
   ·rename_i hd hns;split at h
    ·rename_i el;split at h
     ·rename_i he;split at h
      ·rename_i l hl;simp only[awj,awo]at h;obtain⟨_,rfl⟩:=h;exact P1 hex (aqU H hus hd he hl (fun s hs=>hns s hs))
      ·simp at h
     ·simp at h
    ·simp at h
   ·rename_i el l hd hxe;split at h
    ·split at h
     ·rename_i he;simp only[cond_false,awj,awo]at h;obtain⟨_,rfl⟩:=h;exact alA H ho hus hd he hxe
     ·simp at h
    ·simp at h
   ·simp at h
 ·
  rename_i t x ho;split at h
  ·simp at h
  ·rename_i d hd hni;simp only[awj,awo]at h;obtain⟨_,rfl⟩:=h;refine P1 (s:=Instr.makeInterface t (ρ x)) (by simp only[execOp,ho]) ⟨.iface t (ρ x),?_,.ifc _ _ _ (H.ev x)⟩;simp only[Instr.makeInterface,Sem.run_bind,iK w hni,Result.andThen_ok];cases d<;>first | rfl | exact absurd rfl (hd _)
  ·simp at h
 ·
  rename_i fn first captured ho
  split at h
  ·rename_i f;cases hb:Nat.beq first.size 0 with
   |false=>
    simp only[hb,cond_false]at h;cases hb2:Nat.beq captured.size 0 with
    |false=>simp [hb2]at h
    |true=>
     simp only[hb2,cond_true,awj,awo]at h;obtain⟨_,rfl⟩:=h;exact P1 (s:=Instr.makeFunc (.func f) (first.map ρ) (captured.map ρ)) (by simp only[execOp,ho]) (akC H.ev f first captured hb2)
   |true=>
    simp only[hb,cond_true,awj,awo]at h;obtain⟨_,rfl⟩:=h;exact P1 (s:=Instr.makeFunc (.func f) (first.map ρ) (captured.map ρ)) (by simp only[execOp,ho]) (amh H.ev f first captured hb)
  ·simp at h
 ·
  rename_i t l c ho;split at h
  ·rename_i el k n k' m hu hl hc;split at h
   ·rename_i e he;simp only[awj,awo]at h;obtain⟨rfl,rfl⟩:=h;exact aiE H o ho hu (K.ety _ _ he) hl hc hob
   ·simp at h
  ·simp at h
 ·
  rename_i t x lo hi mx ho;cases hz:am8 C.P C.ety hp i t (ev x) lo hi mx with
  |some ef'=>
   rw[hz]at h;have h:some (true,ef')=some (ob,ef):=h;cases h;exact apQ H K.wf K.ety ho hz
  |none=>
  rw[hz]at h;simp only at h;split at h
  ·rename_i ob' v hs;simp only[awj,awo]at h;obtain⟨rfl,rfl⟩:=h;exact P1 (by simp only[execOp,ho]) (asE (w:=w) H.hp K.wf hs hob (H.ev x) (acR H.ev lo) (acR H.ev hi) (acR H.ev mx))
  ·simp at h
 ·
  rename_i t x f ho;split at h
  ·rename_i off hoff;split at h
   ·rename_i ft hft;cases hz:Nat.ble 1 (fM C.P ft)with
    |false=>simp [hz]at h
    |true=>
     simp only[hz,cond_true]at h;split at h
     ·rename_i v hf;simp only[awj,awo]at h;obtain⟨_,rfl⟩:=h;exact P1 (s:=Instr.fieldAt t (ρ x) f) (by simp only[execOp,ho]) (ah6 hoff hft (axk hz) hf (H.ev x))
     ·simp at h
   ·simp at h
  ·simp at h
 ·
  rename_i t x f ho;split at h
  ·rename_i cs off ft hex hoff hft;split at h
   ·rename_i v hp;simp only[awj,awo]at h;obtain⟨_,rfl⟩:=h;have hx:=H.ev x;rw[hex]at hx;exact P1 (s:=Instr.field t (ρ x) f) (by simp only[execOp,ho]) (apY hoff hft hp hx)
   ·simp at h
  ·simp at h
 ·
  rename_i t x ho;split at h
  ·rename_i ob' v hs;simp only[awj,awo]at h;obtain⟨rfl,rfl⟩:=h;exact P1 (s:=Instr.arrayAt t (ρ x)) (by simp only[execOp,ho]) (arI hs hob (H.ev x))
  ·simp at h
 ·
  rename_i t x ix ho;split at h
  ·rename_i ob' v hs;simp only[awj,awo]at h;obtain⟨rfl,rfl⟩:=h;exact P1 (s:=Instr.indexAt t (ρ x) (ρ ix)) (by simp only[execOp,ho]) (ak6 H.hp K.wf hs hob (H.ev x) (H.ev ix))
  ·simp at h
 ·
  rename_i t x ix ho;obtain⟨h1,h2⟩:=asY (w:=w) K.wf h hob (H.ev x) (H.ev ix);obtain⟨v,u⟩:=ef;simp only at h1;subst h1;exact P1 (s:=Instr.index t (ρ x) (ρ ix)) (by simp only[execOp,ho]) h2
 ·
  rename_i x k ho;split at h
  ·rename_i vs hex;split at h
   ·rename_i v hk;simp only[awj,awo]at h;obtain⟨_,rfl⟩:=h;have hx:=H.ev x;rw[hex]at hx;exact P1 (s:=Instr.extract (ρ x) k) (by simp only[execOp,ho]) (aoj (x:= .undef) hx hk)
   ·simp at h
  ·simp at h
 ·
  rename_i c ho;split at h
  ·
   rename_i hc;split at h
   ·rename_i x t hxx ht;obtain⟨a,ha,hax⟩:=afB hxx;split at h
    ·rename_i n hn;have h:(bif auQ C.P x t then some (true,(⟨.int .i64 n,[]⟩:Eff))else none)=some (ob,ef):=h
     cases hl:auQ C.P x t with
     |false=>rw[hl]at h;simp at h
     |true=>
      rw[hl]at h;simp only[cond_true,awj,awo]at h;obtain⟨_,rfl⟩:=h;have hx:=H.ev a;rw[hax]at hx;have hp:=avN (P:=C.P) (w:=w) (ty:=o.type) H.hp ht hx hn hl;have hex:=UM (ρ:=ρ) ho hc (Builtin.len_ c.argTypes o.type (c.args.map ρ)) rfl;rw[ha]at hex;exact P1 hex (by simpa using hp)
    ·simp at h
   ·simp at h
  ·
   rename_i hc;split at h
   ·rename_i t hxx ht;obtain⟨a,ha,hax⟩:=afB hxx;cases hl:slT C.P t with
    |false=>rw[hl]at h;simp at h
    |true=>
     rw[hl]at h;simp only[cond_true,awj,awo]at h;obtain⟨_,rfl⟩:=h;have hx:=H.ev a;rw[hax]at hx;have hp:=atN (P:=C.P) (w:=w) (ty:=o.type) ht hx hl;have hex:=UM (ρ:=ρ) ho hc (Builtin.cap_ c.argTypes o.type (c.args.map ρ)) rfl;rw[ha]at hex;exact P1 hex (by simpa using hp)
   ·simp at h
  ·
   rename_i hc;cases hz:asg C.P C.ety ev i c with
   |some r=>
    rw[hz]at h;have h:some r=some (ob,ef):=h;cases h;unfold asg at hz;split at hz
    ·rename_i kx n ty t1 hxx htt;obtain⟨a,b,ha,hax,hbx⟩:=afF hxx;split at hz
     ·rename_i el kk hu hti;split at hz
      ·rename_i e he;simp only[awj,awo]at hz;obtain⟨rfl,rfl⟩:=hz;have hat:c.argTypes= #[ty,t1]:=by
        apply Array.ext';simpa using htt
       exact arS H ho hc ha hat hti hu (K.ety _ _ he) hax hbx hob
      ·simp at hz
     ·simp at hz
    ·simp at hz
   |none=>
    rw[hz]at h;simp only at h;split at h
    ·rename_i x y ty hxx ht;obtain⟨a,b,ha,hax,hbx⟩:=afF hxx;cases h1:c.argTypes[1]? with
     |none=>simp [h1]at h
     |some t1=>
      simp only[h1]at h;cases hni:slT C.P t1||afZ C.P t1 with
      |false=>simp [hni]at h
      |true=>
       simp only[hni,cond_true]at h;split at h
       ·rename_i el hu;split at h
        ·rename_i e he;rw[<-hax,<-hbx]at h;exact ahL H ho hc ha ht h1 hni hu (K.ety _ _ he) h hob
        ·simp at h
       ·simp at h
    ·simp at h
  ·
   rename_i hc;split at h
   ·rename_i x y ty hxx ht;obtain⟨a,b,ha,hax,hbx⟩:=afF hxx;split at h
    ·rename_i el hu;split at h
     ·rename_i e he;rw[<-hax,<-hbx]at h;exact asf H ho hc ha ht hu (K.ety _ _ he) h
     ·simp at h
    ·simp at h
   ·simp at h
  ·
   rename_i hc;split at h
   ·rename_i x ty hxx ht;obtain⟨a,ha,hax⟩:=afB hxx;split at h
    ·rename_i el hu;split at h
     ·rename_i e he;rw[<-hax]at h;exact ap2 H ho hc ha ht hu (K.ety _ _ he) h
     ·simp at h
    ·simp at h
   ·simp at h
  ·
   rename_i hc;split at h
   ·rename_i k a r hxx;split at h
    ·rename_i v hv;simp only[awj,awo]at h;obtain⟨_,rfl⟩:=h;cases hl:c.args.toList with
     |nil=>rw[hl]at hxx;simp [lg]at hxx
     |cons x l=>
      rw[hl]at hxx;simp only[lg,ax2]at hxx;obtain⟨h1,rfl⟩:=hxx;exact ane ho hc true rfl hl H h1 hv
    ·simp at h
   ·simp at h
  ·
   rename_i hc;split at h
   ·rename_i k a r hxx;split at h
    ·rename_i v hv;simp only[awj,awo]at h;obtain⟨_,rfl⟩:=h;cases hl:c.args.toList with
     |nil=>rw[hl]at hxx;simp [lg]at hxx
     |cons x l=>
      rw[hl]at hxx;simp only[lg,ax2]at hxx;obtain⟨h1,rfl⟩:=hxx;exact ane ho hc false rfl hl H h1 hv
    ·simp at h
   ·simp at h
  ·simp at h
 ·simp at h
end
end Go.Av
