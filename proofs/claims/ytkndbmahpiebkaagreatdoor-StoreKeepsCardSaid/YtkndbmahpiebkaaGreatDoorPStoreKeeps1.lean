/- The plain law, part 1. No condition. -/
import Derived.Test.YtkndbmahpiebkaaGreatDoorPStoreKeeps0
import Derived.KernelRfl
set_option linter.unusedVariables false
set_option linter.unusedSimpArgs false
set_option linter.unnecessarySimpa false
namespace Go.Av
open Go
theorem lX.good {n:Nm} {l:List ax} {i:Nat} {o:Option ax} (h:lX n l i o) {f:ax} (e:f.name=n) (hf:okF f) (hl:yE l):yE (qi f l):=by
 subst e
 cases h with
 |no a b ha hb=>
  rw[wK ha,IB hb]
  obtain⟨h1,h2,h3⟩:=(uy _ _).1 hl
  refine(uy _ _).2 ⟨h1,(Uw _ _).2 ⟨hf,h2,hb⟩,fun g hg k hk=> ?_⟩
  rcases List.mem_cons.1 hk with rfl | hk
  ·exact ha g hg
  ·exact h3 g hg k hk
 |yes a g b e ha hb=>
  rw[wK ha,Xo e hb]
  obtain⟨h1,h2,h3⟩:=(uy _ _).1 hl
  refine(uy _ _).2 ⟨h1,(Uw _ _).2 ⟨hf,((Uw _ _).1 h2).2.1,hb⟩,fun g hg k hk=> ?_⟩
  rcases List.mem_cons.1 hk with rfl | hk
  ·exact ha g hg
  ·exact h3 g hg k (List.mem_cons_of_mem _ hk)
theorem lX.usedD {n:Nm} {l:List ax} {i:Nat} {o:Option ax} (h:lX n l i o):fP (xE n l)+OB o=fP l:=by
 cases h with
 |no a b ha hb=>rw[Cb (fun f hf=>(List.mem_append.1 hf).elim (fun g=>NY (ha f g)) (fun g=>(NY (hb f g)).symm))];rfl
 |yes a g b e ha hb=>
  rw[Vw,JR,if_pos e,Cb fun g hg=>NY (ha g hg),Cb fun g hg=>(NY (hb g hg)).symm,qY,qY,CJ]
  simp only[OB];omega
theorem akG {n:Nm} {l:List ax} (h:yE l):yE (xE n l):=⟨fun f hf=>h.1 f (List.mem_filter.1 hf).1,acJ h.2⟩
structure Keep (d e:ai):Prop where
 right:iU e
 fz:e.fuse<=d.fuse
 room:e.room=d.room
theorem Keep.refl {d:ai} (h:iU d):Keep d d:=⟨h,Int.le_refl _,rfl⟩
theorem Keep.trans {a b c:ai} (h:Keep a b) (k:Keep b c):Keep a c:=⟨k.right,Int.le_trans k.fz h.fz,k.room.trans h.room⟩
theorem iU.bnd {d:ai} (h:iU d) (hf:inI d.fuse):Ll d:=
 ⟨fun f hf=>by have:=(h.2.1.1 f hf).1.2.2;omega,hf⟩
theorem Keep.bnd {d e:ai} (h:Keep d e) (hf:inI d.fuse):Ll e:=by
 refine h.right.bnd ?_
 have:=h.fz
 have:=h.right.1.2.2.1
 unfold inI at*
 omega
theorem Qz (d:ai):(d.fuse=0/\(cO d).1.fuse=0/\(cO d).1.down=true/\(cO d).2=false)\/((cO d).1.fuse<=d.fuse/\(-1<=d.fuse-> -1<=(cO d).1.fuse)/\(cO d).1.down=d.down/\(cO d).2=true):=by
 unfold cO
 by_cases h0:d.fuse=0
 ·simp [h0]
 by_cases h1:d.fuse= -1
 ·simp [h1]
 ·rw[if_neg h0,if_neg h1];right;simp only;exact⟨by omega,fun _=>by omega,trivial,trivial⟩
theorem F7 {d:ai} (h:iU d):Keep d (cO d).1:=by
 have hf:=Qz d
 have h1:=h.1
 refine⟨⟨⟨?_,?_,?_,?_⟩,?_,?_⟩,?_,uo d⟩<;>(try rw[uo])<;>(try rw[bD])
 ·omega
 ·omega
 ·rcases hf with hf | hf
  ·omega
  ·exact hf.2.1 h1.2.2.1
 ·omega
 ·exact h.2.1
 ·exact h.2.2
 ·rcases hf with hf | hf<;>omega
theorem Pe {d:ai} {f:ax} (h:iU d) (hf:okF f) (hu:(fP d.files:Int)+f.data.length<=d.room+OB (bJ d.files f.name)) (hl:bJ d.files f.name≠none\/d.files.length<64):Keep d (DJ d f):=by
 obtain⟨i,o,hs⟩:=lJ h.asc (by have:=h.fl;omega) f.name
 have g1:=hs.used f rfl
 have g2:=hs.long f rfl
 rw[hs.get]at hu hl
 have h1:=h.1
 refine⟨⟨⟨h1.1,h1.2.1,h1.2.2.1,?_⟩,hs.good rfl hf h.2.1,?_⟩,Int.le_refl _,rfl⟩
 ·show(qi f d.files).length<=64
  rw[g2]
  split
  ·rename_i e;rcases hl with c | c
   ·exact absurd e c
   ·omega
  ·omega
 ·show(fP (qi f d.files):Int)<=d.room
  omega
theorem adM {d:ai} {n:Nm} (h:iU d):Keep d (aex d n):=by
 obtain⟨i,o,hs⟩:=lJ h.asc (by have:=h.fl;omega) n
 have g1:=hs.usedD
 have h1:=h.1
 have h2:=h.2.2
 have:=XC n d.files
 exact⟨⟨⟨h1.1,h1.2.1,h1.2.2.1,Nat.le_trans this h1.2.2.2⟩,akG h.2.1,by show(fP (xE n d.files):Int)<=d.room;omega⟩,Int.le_refl _,rfl⟩
theorem YN {d:ai} {n:Nm} {f:ax} (h:iU d) (hg:bJ d.files n=some f):okF f/\f.name=n:=⟨h.2.1.1 f (J5 hg).1,(J5 hg).2⟩
theorem JH (p:ai×Bool):(ain p).1=p.1:=rfl
theorem Dv {d:ai} {n:Nm} {b:List Int} (h:iU d):Keep d (eX d n b).1:=by
 unfold eX
 by_cases h0:jl d [n]=0
 case neg=>rw[if_pos h0];exact Keep.refl h
 rw[if_neg (fun g=>g h0)]
 have hn:=(kX.1 h0).2.2 n (List.mem_singleton.2 rfl)
 by_cases hc:d.room<(fP d.files:Int)+(b.length:Int)\/(bJ d.files n=none/\64<=d.files.length)
 ·rw[if_pos hc];exact Keep.refl h
 rw[if_neg hc,JH]
 have hw:Keep d (DJ d ⟨n,((bJ d.files n).getD ⟨n,[],0⟩).data++b,((bJ d.files n).getD ⟨n,[],0⟩).sure⟩):=by
  have hc1:¬d.room<(fP d.files:Int)+(b.length:Int):=fun g=>hc (.inl g)
  refine Pe h ?_ ?_ ?_
  ·cases hg:bJ d.files n with
   |none=>exact⟨hn,Int.le_refl _,by simp only[len,Option.getD_none];omega⟩
   |some f=>
    have hf:=(YN h hg).1
    exact⟨hn,hf.2.1,by have:=hf.2.2;simp only[Option.getD_some,len,List.length_append]at this ⊢; omega⟩
  ·cases hg:bJ d.files n with
   |none=>simp only[OB,Option.getD_none,List.nil_append];omega
   |some f=>simp only[OB,Option.getD_some,List.length_append];omega
  ·cases hg:bJ d.files n with
   |none=>right;have:¬64<=d.files.length:=fun g=>hc (.inr ⟨hg,g⟩);omega
   |some f=>left;intro e;cases e
 exact hw.trans (F7 hw.right)
theorem OY {d:ai} {n:Nm} (h:iU d):Keep d (qC d n).1:=by
 unfold qC
 by_cases h0:jl d [n]=0
 case neg=>rw[if_pos h0];exact Keep.refl h
 rw[if_neg (fun g=>g h0)]
 have hn:=(kX.1 h0).2.2 n (List.mem_singleton.2 rfl)
 have hk:=F7 h
 cases hg:bJ d.files n with
 |none=>exact Keep.refl h
 |some f=>
  simp only
  split
  ·refine hk.trans (Pe hk.right ⟨hn,by simp only[len];omega,Int.le_refl _⟩ ?_ ?_)
   ·simp only;rw[bD,uo,hg];simp only[OB];have:=h.2.2;omega
   ·left;simp only;rw[bD,hg];intro e;cases e
  ·exact hk
theorem IE {d:ai} {n:Nm} (h:iU d):Keep d (kC d n).1:=by
 unfold kC
 by_cases h0:jl d [n]=0
 case neg=>rw[if_pos h0];exact Keep.refl h
 rw[if_neg (fun g=>g h0)]
 have hk:=F7 h
 cases hg:bJ d.files n with
 |none=>exact Keep.refl h
 |some f=>
  simp only
  split
  ·exact hk.trans (adM hk.right)
  ·exact hk
theorem Zq {d:ai} {n:Nm} {k:Int} (h:iU d):Keep d (CU d n k).1:=by
 unfold CU
 by_cases h0:jl d [n]=0
 case neg=>rw[if_pos h0];exact Keep.refl h
 rw[if_neg (fun g=>g h0)]
 have hn:=(kX.1 h0).2.2 n (List.mem_singleton.2 rfl)
 have hk:=F7 h
 cases hg:bJ d.files n with
 |none=>exact Keep.refl h
 |some f=>
  simp only
  have hf:=(YN h hg).1
  by_cases hc:k<0\/len f.data<k
  ·rw[if_pos hc];exact Keep.refl h
  rw[if_neg hc]
  have h1:¬k<0:=fun g=>hc (.inl g)
  have h2:¬len f.data<k:=fun g=>hc (.inr g)
  simp only[len]at h2
  have hl:(f.data.take k.toNat).length=k.toNat:=by rw[List.length_take];omega
  split
  ·refine hk.trans (Pe hk.right ⟨hn,?_,?_⟩ ?_ ?_)
   ·simp only;have:=hf.2.1;split<;>omega
   ·simp only[len,hl];split<;>omega
   ·simp only;rw[bD,uo,hg,hl];simp only[OB];have:=h.2.2;omega
   ·left;simp only;rw[bD,hg];intro e;cases e
  ·exact hk
theorem OC {d:ai} {a b:Nm} (h:iU d):Keep d (kR d a b).1:=by
 unfold kR
 by_cases h0:jl d [a,b]=0
 case neg=>rw[if_pos h0];exact Keep.refl h
 rw[if_neg (fun g=>g h0)]
 have hn:=(kX.1 h0).2.2 b (by simp)
 have hk:=F7 h
 cases hg:bJ d.files a with
 |none=>exact Keep.refl h
 |some f=>
  simp only
  have hf:=(YN h hg).1
  split
  ·have hk2:=hk.trans (adM (n:=a) hk.right)
   refine hk2.trans (Pe hk2.right ⟨hn,hf.2.1,hf.2.2⟩ ?_ ?_)
   ·obtain⟨i,o,hs⟩:=lJ h.asc (by have:=h.fl;omega) a
    have hu:=hs.usedD
    rw[<-hs.get,hg]at hu
    have hd:=h.2.2
    simp only[aex]
    rw[bD,uo]
    simp only[OB]at hu ⊢
    omega
   ·right
    obtain⟨i,o,hs⟩:=lJ h.asc (by have:=h.fl;omega) a
    have hi:=hs.get
    rw[hg]at hi
    subst hi
    have hd:=hs.del
    obtain⟨hil,-, -⟩:=hs.lt
    have hfl:=h.fl
    simp only[aex]
    rw[bD,<-hd,List.length_eraseIdx_of_lt hil]
    omega
  ·exact hk
theorem agz {f g:ax}:∀ {l:List ax},g∈qi f l->g=f\/g∈l
 |[],h=> .inl (List.mem_singleton.1 h)
 |k::r,h=>by
  rw[qi]at h
  split at h
  ·rcases List.mem_cons.1 h with rfl | h
   ·exact .inr (List.mem_cons_self ..)
   ·rcases agz h with e | e
    ·exact .inl e
    ·exact .inr (List.mem_cons_of_mem _ e)
  ·rcases List.mem_cons.1 h with rfl | h
   ·exact .inl rfl
   ·exact .inr (List.mem_filter.1 h).1
theorem OU {d:ai} {f:ax} (h:jG d) (hf:eP f.data):jG (DJ d f):=fun g hg=>by
 rcases agz hg with rfl | hg
 ·exact hf
 ·exact h g hg
theorem tV {d:ai} (h:jG d):jG (cO d).1:=fun g hg=>by rw[bD]at hg;exact h g hg
theorem adU {d:ai} {n:Nm} (h:jG d):jG (aex d n):=fun g hg=>h g (List.mem_filter.1 hg).1
theorem SL {d:ai} {n:Nm} {f:ax} (h:jG d) (hg:bJ d.files n=some f):eP f.data:=h f (J5 hg).1
theorem Ip {d:ai} {n:Nm} {b:List Int} (h:jG d) (hb:eP b):jG (eX d n b).1:=by
 unfold eX
 split
 ·exact h
 ·split
  ·exact h
  ·rw[JH]
   refine tV (OU h ?_)
   cases hg:bJ d.files n with
   |none=>exact hb
   |some f=>exact(SL h hg).app hb
theorem OW {d:ai} {n:Nm} (h:jG d):jG (qC d n).1:=by
 unfold qC
 split
 ·exact h
 ·cases hg:bJ d.files n with
  |none=>exact h
  |some f=>simp only;split;exact OU (tV h) (show eP f.data from SL h hg);exact tV h
theorem NJ {d:ai} {n:Nm} (h:jG d):jG (kC d n).1:=by
 unfold kC
 split
 ·exact h
 ·cases hg:bJ d.files n with
  |none=>exact h
  |some f=>simp only;split;exact adU (tV h);exact tV h
theorem ajA {d:ai} {n:Nm} {k:Int} (h:jG d):jG (CU d n k).1:=by
 unfold CU
 split
 ·exact h
 ·cases hg:bJ d.files n with
  |none=>exact h
  |some f=>simp only;split;exact h;split;exact OU (tV h) (show eP (f.data.take _)from(SL h hg).take _);exact tV h
theorem Oe {d:ai} {a b:Nm} (h:jG d):jG (kR d a b).1:=by
 unfold kR
 split
 ·exact h
 ·cases hg:bJ d.files a with
  |none=>exact h
  |some f=>simp only;split;exact OU (adU (tV h)) (show eP f.data from SL h hg);exact tV h
def kM (p:ai×Int) (f:ai->ai×Int):ai×Int:=if p.2≠0 then p else f p.1
def rZ (d:ai) (n:Nm):ai×Int:=if bJ d.files n=none then (d,0)else CU d n 0
def afT (d:ai) (n:Nm) (b:List Int):ai×Int:=kM (kM (rZ d n) fun d=>eX d n b) fun d=>qC d n
def xZ (d:ai) (s:dD):ai×Int:=
 if ¬yR s\/(dU d).2=1 then (d,1)else if (dU d).2=9 then (d,9)else if s.gen≠(dU d).1.gen+1 then (d,8)else afT d (nmS s.gen) (mD s)
theorem iq {p:ai×Int} {f:ai->ai×Int} (h:p.2≠0):kM p f=p:=if_pos h
theorem then_ok {p:ai×Int} {f:ai->ai×Int} (h:p.2=0):kM p f=f p.1:=if_neg (fun g=>g h)
theorem Xz {d:ai} (h1:(dU d).2≠1) (h2:(dU d).2≠9):iU d/\d.down=false:=by
 unfold dU at h1 h2
 by_cases hd:iU d
 ·rw[if_neg (fun g=>g hd)]at h1 h2
  cases hw:d.down
  ·exact⟨hd,rfl⟩
  ·rw[hw]at h2;simp at h2
 ·rw[if_pos hd]at h1;simp at h1
theorem OJ (d:ai):0<=(dU d).1.gen/\(dU d).1.gen<=1000000000:=by
 unfold dU
 split
 ·simp
 ·split
  ·simp
  ·split
   ·simp
   ·exact O4 _ _
theorem zH {d:ai} (h:iU d) (hw:d.down=false):(dU d).1=jO d.files/\((dU d).2=7/\(jO d.files).gen=0\/(dU d).2=0/\1<=(jO d.files).gen):=by
 unfold dU
 rw[if_neg (fun g=>g h),hw,if_neg (by simp)]
 have:=O4 (ctF d.files n0) (ctF d.files n1)
 by_cases h0:(jO d.files).gen=0
 ·rw[if_pos h0]
  exact⟨by unfold jO at h0 ⊢; rw[ae4 h0],.inl ⟨rfl,h0⟩⟩
 ·rw[if_neg h0]
  exact⟨rfl,.inr ⟨rfl,by unfold jO at h0 ⊢; omega⟩⟩
theorem Yt {d:ai} {n:Nm} (h:iU d) (hw:d.down=false) (hn:jU n):(NP d n).2=7↔bJ d.files n=none:=by
 unfold NP
 rw[if_neg (fun g=>g (kX.2 ⟨h,hw,Cm hn⟩))]
 cases bJ d.files n<;>simp
theorem afd {d:ai} {n:Nm} (h:iU d):Keep d (rZ d n).1:=by
 unfold rZ;split
 ·exact Keep.refl h
 ·exact Zq h
theorem afH {d:ai} {n:Nm} (h:jG d):jG (rZ d n).1:=by
 unfold rZ;split
 ·exact h
 ·exact ajA h
theorem aa6 {d:ai} {p:ai×Int} {f:ai->ai×Int} (h:Keep d p.1) (hf:∀e,iU e->Keep e (f e).1):Keep d (kM p f).1:=by
 unfold kM;split
 ·exact h
 ·exact h.trans (hf _ h.right)
theorem CW {p:ai×Int} {f:ai->ai×Int} (h:jG p.1) (hf:∀e,jG e->jG (f e).1):jG (kM p f).1:=by
 unfold kM;split
 ·exact h
 ·exact hf _ h
theorem aiB {d:ai} {n:Nm} {b:List Int} (h:iU d):Keep d (afT d n b).1:=aa6 (aa6 (afd h) fun e he=>Dv he) fun e he=>OY he
theorem ahG {d:ai} {n:Nm} {b:List Int} (h:jG d) (hb:eP b):jG (afT d n b).1:=CW (CW (afH h) fun e he=>Ip he hb) fun e he=>OW he
theorem Yx {d:ai} {s:dD} (h:iU d):Keep d (xZ d s).1:=by
 unfold xZ;split
 ·exact Keep.refl h
 ·split
  ·exact Keep.refl h
  ·split
   ·exact Keep.refl h
   ·exact aiB h
theorem afe {d:ai} {s:dD} (h:jG d):jG (xZ d s).1:=by
 unfold xZ;split
 ·exact h
 ·split
  ·exact h
  ·split
   ·exact h
   ·exact ahG h (afo s)
theorem agK {d:ai} {n:Nm} {b:List Int} (h:Ll d) (hn:jU n) (hb:b.length<900000):
 Wq (af (iD d n b) fun y5 => cnd (aC (ieq y5.snd 0)) (some y5) (af (ji y5.fst n) fun y6 => cnd (aC (ieq y6.snd 0)) (some y6) (some (y6.fst,0)))) fun x=>x=kM (eX d n b) fun d=>qC d n:=by
 rw[YP h hn.len hb,aA,lH,lU]
 by_cases h0:(eX d n b).2=0
 case neg=>rw[if_neg h0,au,iq h0]
 rw[if_pos h0,then_ok h0]
 by_cases hd:iU d
 ·rw[ae9 ((Dv hd).bnd h.fu) hn.len,aA,lH,lU]
  split
  ·rename_i g;rw[au,<-g]
  ·rw[au]
 ·have:(eX d n b).2≠0:=by
   have hf:jl d [n]=1:=by unfold jl;rw[if_pos hd]
   unfold eX;rw[if_pos (by rw[hf];decide),hf];show(1:Int)≠0;decide
  exact absurd h0 this
theorem alP {d:ai} {n:Nm} {k:Int} (h:Ll d):Ll (CU d n k).1:=by
 by_cases hd:iU d
 ·exact(Zq hd).bnd h.fu
 ·have hf:jl d [n]=1:=by unfold jl;rw[if_pos hd]
  unfold CU;rw[if_pos (by rw[hf];decide)];exact h
theorem RP {d:ai} {s:dD} (h:Ll d) (hb:jG d) (hs:inI s.gen):gu d s=some (xZ d s):=by
 refine Wq.eq ?_
 unfold gu xZ
 rw[Ru,aA,lH,Oo]
 by_cases hp:yR s
 case neg=>rw[if_neg hp,au,if_pos (.inl hp)]
 rw[if_pos hp,NE h hb,aA]
 have hg:=OJ d
 have eg:wr .i64 (ak (dU d).1.gen 1)=(dU d).1.gen+1:=by rw[ak,dX (by omega) (by omega)]
 rw[eg]
 have rest:(dU d).2≠1->(dU d).2≠9->Wq (cnd (aC (ieq s.gen ((dU d).1.gen+1))) (some (d,(8:Int))) (af (jH s.gen) fun y2 => af (nC s) fun y3 => af (kE d y2) fun y4 => cnd (ieq y4.snd 7) (af (iD d y2 (toL y3)) fun y5 => cnd (aC (ieq y5.snd 0)) (some y5) (af (ji y5.fst y2) fun y6 => cnd (aC (ieq y6.snd 0)) (some y6) (some (y6.fst,0)))) (af (uf d y2 0) fun y7 => cnd (aC (ieq y7.snd 0)) (some y7) (af (iD y7.fst y2 (toL y3)) fun y8 => cnd (aC (ieq y8.snd 0)) (some y8) (af (ji y8.fst y2) fun y9 => cnd (aC (ieq y9.snd 0)) (some y9) (some (y9.fst,0))))))) fun x=>x=if s.gen≠(dU d).1.gen+1 then (d,8)else afT d (nmS s.gen) (mD s):=by
  intro g1 g2
  obtain⟨hd,hw⟩:=Xz g1 g2
  rw[lH,lU]
  by_cases he:s.gen=(dU d).1.gen+1
  case neg=>rw[if_neg he,au,if_pos he]
  rw[if_pos he,if_neg (fun g=>g he),Nj (by have:=hp.1;omega),aA]
  refine(RG s).bind fun a ha=> ?_
  rw[ha]
  have hn:=aaP s.gen
  have hbl:=Fh s
  rw[XK h hn.len,aA,lU]
  unfold afT
  by_cases h7:(NP d (nmS s.gen)).2=7
  ·rw[if_pos h7]
   have hg:=(Yt hd hw hn).1 h7
   have:rZ d (nmS s.gen)=(d,0):=by unfold rZ;rw[if_pos hg]
   rw[this,show(kM (d,(0:Int)) fun d=>eX d (nmS s.gen) (mD s))=eX d (nmS s.gen) (mD s)from then_ok rfl]
   exact agK h hn (by omega)
  ·rw[if_neg h7]
   have hg:bJ d.files (nmS s.gen)≠none:=fun g=>h7 ((Yt hd hw hn).2 g)
   have:rZ d (nmS s.gen)=CU d (nmS s.gen) 0:=by unfold rZ;rw[if_neg hg]
   rw[this,aor h hn.len,aA,lH,lU]
   by_cases h0:(CU d (nmS s.gen) 0).2=0
   ·rw[if_pos h0,show(kM (CU d (nmS s.gen) 0) fun d=>eX d (nmS s.gen) (mD s))=eX (CU d (nmS s.gen) 0).1 (nmS s.gen) (mD s)from then_ok h0]
    exact agK (alP h) hn (by omega)
   ·rw[if_neg h0,au,show(kM (CU d (nmS s.gen) 0) fun d=>eX d (nmS s.gen) (mD s))=CU d (nmS s.gen) 0 from iq h0,iq h0]
 rw[lU,lU,lU]
 by_cases h1:(dU d).2=1
 ·rw[if_pos h1,if_pos h1,au,if_pos (.inr h1),h1]
 have hneg:¬(¬yR s\/(dU d).2=1):=fun g=>g.elim (fun g=>g hp) h1
 rw[if_neg h1,if_neg hneg]
 by_cases h9:(dU d).2=9
 ·rw[if_pos h9,au,if_pos h9,h9]
 rw[if_neg h9,if_neg h9]
 exact rest h1 h9
def yJ:Nm:=[115,110,97,112,46]
def iH (g:Int):Nm:=DL yJ g
def adt (v:Nat):Nm:=List.replicate (10 - (IU 20 v).length) 48++IU 20 v
def uO (g:Int):Prop:=1<=g/\g<=1000000000
theorem adA {v:Nat} (h:v<=1000000000):(adt v).length=10:=by
 have:=Oc 20 v 10 (by omega) (by decide)
 unfold adt;rw[List.length_append,List.length_replicate];omega
theorem adO (v:Nat):∀c∈adt v,Vj c:=by
 intro c hc
 rcases List.mem_append.1 hc with h | h
 ·rw[List.mem_replicate]at h;rw[h.2,wE];decide
 ·exact SB _ _ c h
theorem aef {v:Nat} (h:v<=1000000000):AQ (adt v)=v:=by
 unfold adt;rw[Qw,ZC 20 v (by omega)]
theorem TF {g:Int} (h:uO g):iH g=yJ++adt g.toNat:=by
 unfold iH DL adt
 have:fmt10 g=IU 20 g.toNat:=by unfold fmt10;rw[if_neg (by have:=h.1;omega)]
 rw[if_neg (by unfold uO at h;omega),this,List.append_assoc]
theorem ahT {g:Int} (h:¬uO g):iH g=[]:=by
 unfold iH DL;rw[if_pos (by unfold uO at h;omega)]
theorem UQ {g:Int} (h:uO g):(iH g).length=15:=by
 rw[TF h,List.length_append,adA (by unfold uO at h;omega)];rfl
theorem UU {g:Int} (h:uO g):BD yJ (iH g)=g:=by
 have hv:g.toNat<=1000000000:=by unfold uO at h;omega
 have e1:(iH g).take yJ.length=yJ:=by rw[TF h,List.take_left]
 have e2:(iH g).drop yJ.length=adt g.toNat:=by rw[TF h,List.drop_left]
 unfold BD
 rw[e1,e2,if_pos ⟨rfl,adA hv,adO _,by rw[aef hv];exact hv⟩,aef hv]
 unfold uO at h;omega
theorem akM {g k:Int} (h:uO g) (hk:uO k) (e:iH g=iH k):g=k:=by rw[<-UU h,e,UU hk]
theorem akm {c:UInt8} (h:Vj c):Qj c:=by rw[wE]at h;exact .inr (.inl h)
theorem Nz {g:Int} (h:uO g):jU (iH g):=by
 refine⟨?_,by rw[UQ h];decide,by rw[UQ h];decide⟩
 rw[TF h]
 intro c hc
 rcases List.mem_append.1 hc with k | k
 ·have:∀c∈yJ,Qj c:=by decide
  exact this c k
 ·exact akm (adO _ c k)
theorem al3 {g:Int} (h:uO g):(fmt10 g).length<=10:=by
 have:fmt10 g=IU 20 g.toNat:=by unfold fmt10;rw[if_neg (by have:=h.1;omega)]
 rw[this];exact Oc 20 _ 10 (by unfold uO at h;omega) (by decide)
theorem EZ (g:Int):dS g=some (iH g):=by
 refine Wq.eq ?_
 unfold dS
 rw[lq]
 refine⟨fun h=> ?_,fun h=> ?_⟩
 ·simp only[bH,dH,dZ,fE,bM,bQ,eH,fG,dO,fK,bZ,dw,fO,fQ]at h
  rw[au,ahT (by unfold uO;omega)]
 ·simp only[bH,dH,dZ,fE,bM,bQ,eH,fG,dO,fK,bZ,dw,fO,fQ]at h
  have hg:uO g:=⟨by omega,by omega⟩
  have hl:=al3 hg
  have ef:oV g 10=some (fmt10 g):=by
   unfold oV ahy
   rw[aT (by rw[bH,bZ,bH,dO,dO];unfold uO at hg;exact⟨rfl,by omega,by omega⟩)]
  have ew:wr .i64 (aF 10 (len (fmt10 g)))=((10 - (fmt10 g).length:Nat):Int):=by
   rw[aF,dX (by simp only[len];omega) (by simp only[len];omega)];simp only[len];omega
  have er:sU [(UInt8.ofNat 48)] ((10 - (fmt10 g).length:Nat):Int)=some (List.replicate (10 - (fmt10 g).length) 48):=by
   unfold sU aiI
   have e1:len [(UInt8.ofNat 48)]=1:=rfl
   rw[e1,aT (by simp only[bH,dO,jr,Int.one_mul];exact⟨by omega,by omega,by omega⟩),qA,Yg];rfl
  rw[ef,aA,ew,er,aA,aT (oU (by simp only[len,ak,List.length_replicate];omega)),aT (oU (by simp only[len,ak,jQ,List.length_append,List.length_replicate,List.length_cons,List.length_nil];omega)),au]
  unfold iH DL
  rw[if_neg (by unfold uO at hg;omega)];rfl
theorem afQ (s:Nm):sJ s=some (decide (BD yJ s≠0)):=by
 unfold sJ
 congr 1
 rw[Bool.eq_iff_iff,bM,dw,decide_eq_true_iff];exact Iff.rfl
open Classical in
noncomputable def ZG (b:List Int):aj×Int:=if wL b then if sumP b then if VL b then (qW (pZ b),0)else (zS,2)else (zS,10)else (zS,2)
theorem UR (b:List Int):aek b (ZG b):=by
 unfold ZG
 refine⟨fun h=> ?_,fun h1 h2=> ?_,fun h1 h2 h3=> ?_,fun h1 h2 h3=> ?_⟩
 ·rw[if_neg h]
 ·rw[if_pos h1,if_neg h2]
 ·rw[if_pos h1,if_pos h2,if_neg h3]
 ·rw[if_pos h1,if_pos h2,if_pos h3]
theorem ad1 {b:List Int} (hb:eP b) (hl:b.length<99999):qM b=some (ZG b):=by
 obtain⟨r,e,h⟩:=Sl hb hl
 rw[e,h.uniq (UR b)]
theorem ajx:ZG []=(zS,2):=(UR []).form fun h=>absurd h.many (by simp)
theorem alv {b:List Int} (h:(ZG b).2=0):wL b/\sumP b/\VL b/\(ZG b).1=qW (pZ b):=by
 by_cases h1:wL b
 ·by_cases h2:sumP b
  ·by_cases h3:VL b
   ·exact⟨h1,h2,h3,by rw[(UR b).good h1 h2 h3]⟩
   ·rw[(UR b).bad h1 h2 h3]at h;exact absurd h (by decide)
  ·rw[(UR b).sum h1 h2]at h;exact absurd h (by decide)
 ·rw[(UR b).form h1]at h;exact absurd h (by decide)
theorem ajp {s:aj} (hr:jX s) (h:lZ s) (hl:(encZ s).length<99999):ZG (encZ s)=(s,0):=by
 have:=acG hr h
 rw[ad1 (zT s) hl]at this
 exact Option.some.inj this
noncomputable def aaJ (b:List Int) (s:dD):aj×Int×Int:=if (ZG b).2=0/\(ZG b).1.lsn=s.lsn then ((ZG b).1,s.gen,0)else (zS,0,2)
noncomputable def wM (d:ai):aj×Int×Int:=if (dU d).2≠0 then (zS,0,(dU d).2)else aaJ (ctF d.files (iH (dU d).1.gen)) (dU d).1
theorem af5 {d:ai} (h:(dU d).2=0):iU d/\d.down=false/\yR (dU d).1:=by
 obtain⟨hd,hw⟩:=Xz (by rw[h];decide) (by rw[h];decide)
 obtain⟨h1,h2⟩:=zH hd hw
 refine⟨hd,hw,?_⟩
 rcases h2 with ⟨g, -⟩ | ⟨-, g⟩
 ·rw[h]at g;exact absurd g (by decide)
 ·rw[h1]
  rcases Xy (ctF d.files n0) (ctF d.files n1)with k | k
  ·unfold jO at g;rw[k]at g;exact absurd g (by decide)
  ·exact k
theorem yR.gen {s:dD} (h:yR s):uO s.gen:=⟨h.1,h.2.1⟩
theorem anm {d:ai} (h:iU d) (n:Nm):(ctF d.files n).length<=65536:=by
 unfold ctF
 cases hg:bJ d.files n with
 |none=>simp
 |some f=>
  obtain⟨i,o,hs⟩:=lJ h.asc (by have:=h.fl;omega) n
  have hi:=hs.get
  rw[hg]at hi
  subst hi
  have:=hs.usedD
  have:=h.us
  simp only[OB]at*
  omega
theorem aox:aj.mk 0 0 [] [] [] [] false 0 0 0=zS:=rfl
theorem KJ {d:ai} (h:Ll d) (hb:jG d):kP d=some (wM d):=by
 refine Wq.eq ?_
 unfold kP wM
 rw[NE h hb,aA,lH,lU,aox]
 by_cases h0:(dU d).2=0
 case neg=>rw[if_neg h0,au,if_pos h0]
 obtain⟨hd,hw,hp⟩:=af5 h0
 have hn:=Nz hp.gen
 rw[if_pos h0,if_neg (fun g=>g h0),EZ,aA,XK h hn.len,aA,acM hd hw hn,lU]
 have hrz:(NP d (iH (dU d).1.gen)).2=if bJ d.files (iH (dU d).1.gen)=none then 7 else 0:=by
  unfold NP
  rw[if_neg (fun g=>g (kX.2 ⟨hd,hw,Cm hn⟩))]
  cases bJ d.files (iH (dU d).1.gen)<;>simp
 rw[hrz]
 by_cases hg:bJ d.files (iH (dU d).1.gen)=none
 ·rw[if_pos hg,if_neg (by decide),au]
  unfold aaJ ctF
  rw[hg,ajx,if_neg (fun g=>absurd g.1 (by decide))]
 ·rw[if_neg hg,if_pos rfl,ad1 (RI hb _) (by have:=anm hd (iH (dU d).1.gen);omega),aA,lq]
  unfold aaJ
  refine⟨fun hc=> ?_,fun hc=> ?_⟩
  ·simp only[bH,dH,dZ,fE,bM,bQ,eH,fG,dO,fK,bZ,dw,fO,fQ]at hc
   rw[au,if_pos hc]
  ·simp only[bH,dH,dZ,fE,bM,bQ,eH,fG,dO,fK,bZ,dw,fO,fQ]at hc
   rw[au,if_neg]
   rintro⟨g1,g2⟩
   rcases hc with c | c
   ·exact c g1
   ·exact c g2
def iE:Nm:=[116,109,112]
theorem pU:jU iE:=by decide
def CZ (gen:Int) (p:ai×Int) (f:ax):ai×Int:=if BD yJ f.name≠0/\f.name≠iH gen then kM p fun d=>kC d f.name else p
def nK (gen:Int) (p:ai×Int) (l:List ax):ai×Int:=l.foldl (CZ gen) p
def Z5 (gen:Int) (p:ai×Int):ai×Int×Int:=if p.2≠0 then (p.1,0,p.2)else (p.1,gen,0)
def xX (d:ai):ai×Int:=if bJ d.files iE=none then (d,0)else kC d iE
def zB (d:ai) (gen lsn:Int) (b:List Int):ai×Int:=
 kM (kM (kM (kM (xX d) fun d=>eX d iE b) fun d=>qC d iE) fun d=>kR d iE (iH gen)) fun d=>xZ d ⟨gen,lsn⟩
open Classical in
noncomputable def uM (d:ai) (s:aj):ai×Int×Int:=
 if ¬lZ s\/(dU d).2=1 then (d,0,1)else if (dU d).2=9 then (d,0,9)else if 1000000000<=(dU d).1.gen then (d,0,3)else
 Z5 ((dU d).1.gen+1) (nK ((dU d).1.gen+1) (zB d ((dU d).1.gen+1) s.lsn (encZ s)) (zB d ((dU d).1.gen+1) s.lsn (encZ s)).1.files)
theorem Uo {gen:Int} {p:ai×Int} (h:p.2≠0):∀l,nK gen p l=p
 |[]=>rfl
 |f::l=>by
  unfold nK
  rw[List.foldl_cons]
  have:CZ gen p f=p:=by unfold CZ;split;exact iq h;rfl
  rw[this];exact Uo h l
theorem ahL (gen:Int) (p:ai×Int) (a b:List ax):nK gen p (a++b)=nK gen (nK gen p a) b:=by unfold nK;rw[List.foldl_append]
theorem aie (gen:Int) (p:ai×Int) (f:ax):nK gen p [f]=CZ gen p f:=rfl
theorem aer {gen:Int} {p:ai×Int} {f:ax} (h:jG p.1):jG (CZ gen p f).1:=by
 unfold CZ;split
 ·exact CW h fun e he=>NJ he
 ·exact h
theorem Za {gen:Int}:∀(l:List ax) {p:ai×Int},jG p.1->jG (nK gen p l).1
 |[],_,h=>h
 |f::l,p,h=>by unfold nK;rw[List.foldl_cons];exact Za l (aer h)
theorem adC {d:ai} (h:iU d):Keep d (xX d).1:=by
 unfold xX;split
 ·exact Keep.refl h
 ·exact IE h
theorem Vz {d:ai} (h:jG d):jG (xX d).1:=by
 unfold xX;split
 ·exact h
 ·exact NJ h
theorem afK {d:ai} {gen lsn:Int} {b:List Int} (h:jG d) (hb:eP b):jG (zB d gen lsn b).1:=
 CW (CW (CW (CW (Vz h) fun e he=>Ip he hb) fun e he=>OW he) fun e he=>Oe he) fun e he=>afe he
theorem ak5 {d0 d:ai} {e:Int} {gen:Int} (hg:uO gen) (hd0:iU d0) (hf:inI d0.fuse) (hk:Keep d0 d):
 Wq (af (bF (fun v:Int×bG => aO (len d.files) d.files gen v.fst v.snd) LF (0,bG.mk d e)) fun y9 => cnd (aC (ieq y9.e 0)) (some (y9.d,(0:Int),y9.e)) (some (y9.d,gen,0))) fun x=>x=Z5 gen (nK gen (d,e) d.files):=by
 have hl:=hk.right.fl
 refine Wq.bind (oP (n:=d.files.length) (step:=fun v:Int×bG=>aO (len d.files) d.files gen v.fst v.snd) (by omega)
  (fun i x=>(x.d,x.e)=nK gen (d,e) (d.files.take i)/\Keep d0 x.d) (fun w=>(w.d,w.e)=nK gen (d,e) d.files) ?_ ?_ _ 0 (Nat.zero_le _) ⟨rfl,hk⟩) ?_
 ·rintro i ⟨x,n⟩ hi ⟨h1,h2⟩
  simp only at h1 h2
  simp only[aO]
  have hnm:=(hk.right.2.1.1 _ (List.getElem_mem hi)).1
  have hnx:wR hi=wR hi:=rfl
  rw[aT (by rw[jq];simpa using hi),aT (inb _ i hi),dI _ i hi,afQ,aA,wR hi,ahL,<-h1,aie,Oo]
  have hx:Ll x:=h2.bnd hf
  by_cases hs:BD yJ d.files[i].name≠0
  ·rw[if_pos hs,EZ,aA,decide_eq_true hs,qH,lH,am5]
   unfold CZ
   by_cases hq:d.files[i].name=iH gen
   ·rw[if_pos hq,au,if_neg (fun g=>g.2 hq)]
    exact⟨eF (by omega),rfl,h2⟩
   ·rw[if_neg hq,if_pos ⟨hs,hq⟩,lU]
    by_cases h0:n=0
    ·rw[if_pos h0,aeQ hx hnm.len,aA,au,then_ok (by exact h0)]
     exact⟨eF (by omega),rfl,h2.trans (IE h2.right)⟩
    ·rw[if_neg h0,au,iq (by exact h0)]
     exact⟨eF (by omega),rfl,h2⟩
  ·rw[if_neg hs,aA,decide_eq_false hs,wQ,bU,au]
   unfold CZ
   rw[if_neg (fun g=>hs g.1)]
   exact⟨eF (by omega),rfl,h2⟩
 ·rintro⟨x,n⟩ ⟨h1,h2⟩
  simp only[aO]
  rw[gQ (abJ _),au]
  rw[List.take_length]at h1
  exact h1
 ·rintro⟨x,n⟩ hw
  rw[<-hw,lH,lU]
  unfold Z5
  simp only
  by_cases h0:n=0
  ·rw[if_pos h0,au,if_neg (fun g=>g h0)]
  ·rw[if_neg h0,au,if_pos h0]
theorem aof {d0:ai} {p:ai×Int} {gen:Int} (hg:uO gen) (hd0:iU d0) (hf:inI d0.fuse) (hk:Keep d0 p.1) (l:List ax) (hl:l=p.1.files):
 Wq (af (bF (fun v:Int×bG => aO (len p.1.files) p.1.files gen v.fst v.snd) LF (0,bG.mk p.1 p.2)) fun y9 => cnd (aC (ieq y9.e 0)) (some (y9.d,(0:Int),y9.e)) (some (y9.d,gen,0))) fun x=>x=Z5 gen (nK gen p l):=by
 rw[hl];exact ak5 (d:=p.1) (e:=p.2) hg hd0 hf hk
theorem Aq {d0:ai} {p q:ai×Int} {gen:Int} (hg:uO gen) (hd0:iU d0) (hf:inI d0.fuse) (hk:Keep d0 p.1) (hq:q=p):
 Wq (af (bF (fun v:Int×bG => aO (len p.1.files) p.1.files gen v.fst v.snd) LF (0,bG.mk p.1 p.2)) fun y9 => cnd (aC (ieq y9.e 0)) (some (y9.d,(0:Int),y9.e)) (some (y9.d,gen,0))) fun x=>x=Z5 gen (nK gen q q.1.files):=by
 rw[hq];exact aof hg hd0 hf hk _ rfl
theorem Tq {d:ai} {s:aj} (h:Ll d) (hb:jG d) (hr:jX s) (hsh:uF s):lI d s=some (uM d s):=by
 refine Wq.eq ?_
 unfold lI uM
 by_cases hR:lZ s
 case neg=>
  rw[U9 hr hsh hR,aA,aT (by rfl),au,if_pos (.inl hR)]
 have henc:(encZ s).length<900000:=by
  have h1:=JO s
  have h2:=hR.few
  omega
 rw[acs hr hsh hR,aA,gQ (by rfl),NE h hb,aA,lU,lU]
 by_cases h1:(dU d).2=1
 ·rw[if_pos h1,au,if_pos (.inr h1),h1]
 have hneg:¬(¬lZ s\/(dU d).2=1):=fun g=>g.elim (fun g=>g hR) h1
 rw[if_neg h1,if_neg hneg]
 by_cases h9:(dU d).2=9
 ·rw[if_pos h9,au,if_pos h9,h9]
 rw[if_neg h9,if_neg h9,aoC]
 by_cases hov:1000000000<=(dU d).1.gen
 ·rw[if_pos hov,au,if_pos hov]
 rw[if_neg hov,if_neg hov]
 obtain⟨hd,hw⟩:=Xz h1 h9
 have hgn:=OJ d
 have eg:wr .i64 (ak (dU d).1.gen 1)=(dU d).1.gen+1:=by rw[ak,dX (by omega) (by omega)]
 rw[eg]
 have hG:uO ((dU d).1.gen+1):=⟨by omega,by omega⟩
 generalize (dU d).1.gen+1=gen at hG ⊢
 have et:[(UInt8.ofNat 116),(UInt8.ofNat 109),(UInt8.ofNat 112)]=iE:=rfl
 rw[et]
 have hfu:=h.fu
 have hN:=Nz hG
 have k0:=adC hd
 have b0:=Vz hb
 rw[XK h pU.len,aA]
 have hrz:(NP d iE).2=if bJ d.files iE=none then 7 else 0:=by
  unfold NP
  rw[if_neg (fun g=>g (kX.2 ⟨hd,hw,Cm pU⟩))]
  cases bJ d.files iE<;>simp
 rw[hrz,lU]
 unfold zB
 by_cases hg:bJ d.files iE=none
 ·have hc:xX d=(d,0):=by unfold xX;rw[if_pos hg]
  rw[if_pos hg,if_neg (by decide),hc,show(kM (d,(0:Int)) fun d=>eX d iE (encZ s))=eX d iE (encZ s)from then_ok rfl,YP h pU.len henc,aA]
  have k1:=Dv (n:=iE) (b:=encZ s) hd
  have b1:=Ip (n:=iE) hb (zT s)
  have hcl:∀q:ai×Int,ieq q.2 0=true\/ieq q.2 0=false:=fun q=>by cases ieq q.2 0<;>simp
  generalize hp1:eX d iE (encZ s)=p1 at k1 b1 ⊢
  rcases hcl p1 with e1 | e1
  case inr=>
   simp only[gQ e1]
   refine Aq hG hd hfu k1 ?_
   rw[dw]at e1
   rw[iq e1,iq e1,iq e1]
  rw[aT e1,ae9 (k1.bnd hfu) pU.len,aA]
  rw[bZ]at e1
  rw[then_ok (p:=p1) e1]
  have k2:=k1.trans (OY (n:=iE) k1.right)
  have b2:=OW (n:=iE) b1
  generalize qC p1.1 iE=p2 at k2 b2 ⊢
  rcases hcl p2 with e2 | e2
  case inr=>
   simp only[gQ e2]
   refine Aq hG hd hfu k2 ?_
   rw[dw]at e2
   rw[iq e2,iq e2]
  rw[aT e2,EZ,aA,aes (k2.bnd hfu) pU.len hN.len,aA]
  rw[bZ]at e2
  rw[then_ok (p:=p2) e2]
  have k3:=k2.trans (OC (a:=iE) (b:=iH gen) k2.right)
  have b3:=Oe (a:=iE) (b:=iH gen) b2
  generalize kR p2.1 iE (iH gen)=p3 at k3 b3 ⊢
  rcases hcl p3 with e3 | e3
  case inr=>
   simp only[gQ e3]
   refine Aq hG hd hfu k3 ?_
   rw[dw]at e3
   rw[iq e3]
  rw[aT e3,RP (k3.bnd hfu) b3 (by unfold uO at hG;unfold inI;simp only;omega),aA]
  rw[bZ]at e3
  rw[then_ok (p:=p3) e3]
  exact Aq hG hd hfu (k3.trans (Yx k3.right)) rfl
 ·have hc:xX d=kC d iE:=by unfold xX;rw[if_neg hg]
  rw[if_neg hg,if_pos rfl,hc,aeQ h pU.len,aA]
  have k0:=IE (n:=iE) hd
  have b0:=NJ (n:=iE) hb
  generalize kC d iE=p at k0 b0 ⊢
  have hcl0:ieq p.2 0=true\/ieq p.2 0=false:=by cases ieq p.2 0<;>simp
  rcases hcl0 with e0 | e0
  case inr=>
   simp only[gQ e0]
   refine Aq hG hd hfu k0 ?_
   rw[dw]at e0
   rw[iq (p:=p) e0,iq e0,iq e0,iq e0]
  rw[aT e0,YP (k0.bnd hfu) pU.len henc,aA]
  rw[bZ]at e0
  rw[then_ok (p:=p) e0]
  have k1:=k0.trans (Dv (n:=iE) (b:=encZ s) k0.right)
  have b1:=Ip (n:=iE) b0 (zT s)
  have hcl:∀q:ai×Int,ieq q.2 0=true\/ieq q.2 0=false:=fun q=>by cases ieq q.2 0<;>simp
  generalize hp1:eX p.1 iE (encZ s)=p1 at k1 b1 ⊢
  rcases hcl p1 with e1 | e1
  case inr=>
   simp only[gQ e1]
   refine Aq hG hd hfu k1 ?_
   rw[dw]at e1
   rw[iq e1,iq e1,iq e1]
  rw[aT e1,ae9 (k1.bnd hfu) pU.len,aA]
  rw[bZ]at e1
  rw[then_ok (p:=p1) e1]
  have k2:=k1.trans (OY (n:=iE) k1.right)
  have b2:=OW (n:=iE) b1
  generalize qC p1.1 iE=p2 at k2 b2 ⊢
  rcases hcl p2 with e2 | e2
  case inr=>
   simp only[gQ e2]
   refine Aq hG hd hfu k2 ?_
   rw[dw]at e2
   rw[iq e2,iq e2]
  rw[aT e2,EZ,aA,aes (k2.bnd hfu) pU.len hN.len,aA]
  rw[bZ]at e2
  rw[then_ok (p:=p2) e2]
  have k3:=k2.trans (OC (a:=iE) (b:=iH gen) k2.right)
  have b3:=Oe (a:=iE) (b:=iH gen) b2
  generalize kR p2.1 iE (iH gen)=p3 at k3 b3 ⊢
  rcases hcl p3 with e3 | e3
  case inr=>
   simp only[gQ e3]
   refine Aq hG hd hfu k3 ?_
   rw[dw]at e3
   rw[iq e3]
  rw[aT e3,RP (k3.bnd hfu) b3 (by unfold uO at hG;unfold inI;simp only;omega),aA]
  rw[bZ]at e3
  rw[then_ok (p:=p3) e3]
  exact Aq hG hd hfu (k3.trans (Yx k3.right)) rfl
theorem afZ (gen:Int) (p:ai×Int) (f:ax) (l:List ax):nK gen p (f::l)=nK gen (CZ gen p f) l:=rfl
def aev {τ:Type} [DecidableEq τ] (n:Int) (f:Bool->Option τ):Option τ:=if n=0 then (if f true=f false then f true else none)else f false
theorem Pg {τ:Type} [DecidableEq τ] (n:Int) (f:Bool->Option τ):TL n f=aev n f:=by
 unfold TL aev
 by_cases h:n=0
 ·rw[if_pos h,if_pos h]
  by_cases h2:f true=f false
  ·rw[if_pos h2,if_pos h2]
  ·rw[if_neg h2,if_neg h2]
 ·rw[if_neg h,if_neg h]
def gm (x0:(List aG)):Option ((List aG)):=aev (len x0) fun y0 => cnd (beq y0 true) (some []) (cnd (ile (len x0) 68719476736) (some x0) none)
theorem Dy:eG=gm:=by
 funext a0
 unfold eG gm
 simp only[Pg]
def gX (x0:(List aS)):Option ((List aS)):=aev (len x0) fun y0 => cnd (beq y0 true) (some []) (cnd (ile (len x0) 68719476736) (some x0) none)
theorem Es:fC=gX:=by
 funext a0
 unfold fC gX
 simp only[Pg]
def gV (x0:(List dP)):Option ((List dP)):=aev (len x0) fun y0 => cnd (beq y0 true) (some []) (cnd (ile (len x0) 68719476736) (some x0) none)
theorem Ef:fA=gV:=by
 funext a0
 unfold fA gV
 simp only[Pg]
def iZ (x0:(List Int)):Option ((List Int)):=aev (len x0) fun y0 => cnd (beq y0 true) (some []) (cnd (ile (len x0) 68719476736) (some x0) none)
theorem Hz:iw=iZ:=by
 funext a0
 unfold iw iZ
 simp only[Pg]
def Om (x0:aj) (x1:vT):Option (aj×Int):=af (oz x0.lsn 1) fun y0 => af (cnd (aC (bor (aC (ieq y0.snd 0)) (ile 1000000000 x0.lsn))) (rC x1) (some false)) fun y1 => af (cnd (aC (bor (bor (aC (ieq y0.snd 0)) (ile 1000000000 x0.lsn)) (aC y1))) (jT x0) (some false)) fun y2 => cnd (bor (bor (bor (aC (ieq y0.snd 0)) (ile 1000000000 x0.lsn)) (aC y1)) (aC y2)) (some (x0,1)) (af (gm x0.orders) fun y3 => af (gX x0.cells) fun y4 => af (gV x0.limits) fun y5 => af (iZ x0.caps) fun y6 => cnd (ieq x1.kind 1) (af (Dj x1) fun y7 => cnd (ile x1.order x0.last) (cnd (ile x1.order x0.last) (some (x0,1)) (cnd x0.kill (some (x0,5)) (cnd (ieq (len y3) 64) (some (x0,6)) (af (gm y3) fun y8 => af (gX y4) fun y9 => af (gV y5) fun y10 => af (iZ y6) fun y11 => af (bg (aj.mk x0.accounts x0.symbols y3 y4 y5 y6 x0.kill x0.last x0.seq x0.lsn) y7.fst.account y7.fst.symbol) fun y12 => cnd (band (ile 0 y12) (ilt y12 (len y4))) (af (iI (ah y4 (itn y12)) y7.fst) fun y13 => cnd (aC (ieq y13.snd 0)) (some (x0,3)) (cnd (ile (len (jQ y3 [y7.fst])) 68719476736) (af (gK (aj.mk x0.accounts x0.symbols (jQ y3 [y7.fst]) (bf y4 (itn y12) y13.fst) y5 y6 x0.kill y7.fst.id x0.seq x0.lsn) (aj.mk x0.accounts x0.symbols y8 y9 y10 y11 x0.kill x0.last x0.seq x0.lsn) y7.fst.account y7.fst.symbol) fun y14 => cnd (aC (ieq y14 0)) (some (x0,y14)) (some (aj.mk x0.accounts x0.symbols (jQ y3 [y7.fst]) (bf y4 (itn y12) y13.fst) y5 y6 x0.kill y7.fst.id x0.seq (wr .i64 (ak x0.lsn 1)),0))) none)) none)))) (cnd (ile x0.accounts x1.account) (cnd (ile x0.accounts x1.account) (some (x0,1)) (cnd x0.kill (some (x0,5)) (cnd (ieq (len y3) 64) (some (x0,6)) (af (gm y3) fun y15 => af (gX y4) fun y16 => af (gV y5) fun y17 => af (iZ y6) fun y18 => af (bg (aj.mk x0.accounts x0.symbols y3 y4 y5 y6 x0.kill x0.last x0.seq x0.lsn) y7.fst.account y7.fst.symbol) fun y19 => cnd (band (ile 0 y19) (ilt y19 (len y4))) (af (iI (ah y4 (itn y19)) y7.fst) fun y20 => cnd (aC (ieq y20.snd 0)) (some (x0,3)) (cnd (ile (len (jQ y3 [y7.fst])) 68719476736) (af (gK (aj.mk x0.accounts x0.symbols (jQ y3 [y7.fst]) (bf y4 (itn y19) y20.fst) y5 y6 x0.kill y7.fst.id x0.seq x0.lsn) (aj.mk x0.accounts x0.symbols y15 y16 y17 y18 x0.kill x0.last x0.seq x0.lsn) y7.fst.account y7.fst.symbol) fun y21 => cnd (aC (ieq y21 0)) (some (x0,y21)) (some (aj.mk x0.accounts x0.symbols (jQ y3 [y7.fst]) (bf y4 (itn y19) y20.fst) y5 y6 x0.kill y7.fst.id x0.seq (wr .i64 (ak x0.lsn 1)),0))) none)) none)))) (cnd (ile x0.symbols x1.symbol) (some (x0,1)) (cnd x0.kill (some (x0,5)) (cnd (ieq (len y3) 64) (some (x0,6)) (af (gm y3) fun y22 => af (gX y4) fun y23 => af (gV y5) fun y24 => af (iZ y6) fun y25 => af (bg (aj.mk x0.accounts x0.symbols y3 y4 y5 y6 x0.kill x0.last x0.seq x0.lsn) y7.fst.account y7.fst.symbol) fun y26 => cnd (band (ile 0 y26) (ilt y26 (len y4))) (af (iI (ah y4 (itn y26)) y7.fst) fun y27 => cnd (aC (ieq y27.snd 0)) (some (x0,3)) (cnd (ile (len (jQ y3 [y7.fst])) 68719476736) (af (gK (aj.mk x0.accounts x0.symbols (jQ y3 [y7.fst]) (bf y4 (itn y26) y27.fst) y5 y6 x0.kill y7.fst.id x0.seq x0.lsn) (aj.mk x0.accounts x0.symbols y22 y23 y24 y25 x0.kill x0.last x0.seq x0.lsn) y7.fst.account y7.fst.symbol) fun y28 => cnd (aC (ieq y28 0)) (some (x0,y28)) (some (aj.mk x0.accounts x0.symbols (jQ y3 [y7.fst]) (bf y4 (itn y26) y27.fst) y5 y6 x0.kill y7.fst.id x0.seq (wr .i64 (ak x0.lsn 1)),0))) none)) none)))))) (cnd (ieq x1.kind 2) (af (pJ (aj.mk x0.accounts x0.symbols y3 y4 y5 y6 x0.kill x0.last x0.seq x0.lsn) x1.order) fun y29 => cnd (ieq y29 (-1)) (some (x0,7)) (cnd (band (ile 0 y29) (ilt y29 (len y3))) (af (A8 (ah y3 (itn y29)) x1.qty x1.price) fun y30 => cnd (aC (ieq y30.snd 0)) (some (x0,8)) (cnd x0.kill (some (x0,5)) (af (gm y3) fun y31 => af (gX y4) fun y32 => af (gV y5) fun y33 => af (iZ y6) fun y34 => af (bg (aj.mk x0.accounts x0.symbols y3 y4 y5 y6 x0.kill x0.last x0.seq x0.lsn) (ah y3 (itn y29)).account (ah y3 (itn y29)).symbol) fun y35 => cnd (band (ile 0 y35) (ilt y35 (len y4))) (af (Fp (ah y4 (itn y35)) (ah y3 (itn y29))) fun y36 => af (iI y36.fst y30.fst) fun y37 => cnd (aC (ieq y37.snd 0)) (some (x0,3)) (cnd (band (ile 0 y29) (ilt y29 (len y3))) (af (gK (aj.mk x0.accounts x0.symbols (bf y3 (itn y29) y30.fst) (bf y4 (itn y35) y37.fst) y5 y6 x0.kill x0.last x0.seq x0.lsn) (aj.mk x0.accounts x0.symbols y31 y32 y33 y34 x0.kill x0.last x0.seq x0.lsn) (ah y3 (itn y29)).account (ah y3 (itn y29)).symbol) fun y38 => cnd (aC (ieq y38 0)) (some (x0,y38)) (some (aj.mk x0.accounts x0.symbols (bf y3 (itn y29) y30.fst) (bf y4 (itn y35) y37.fst) y5 y6 x0.kill x0.last x0.seq (wr .i64 (ak x0.lsn 1)),0))) none)) none))) none)) (cnd (ieq x1.kind 3) (af (pJ (aj.mk x0.accounts x0.symbols y3 y4 y5 y6 x0.kill x0.last x0.seq x0.lsn) x1.order) fun y39 => cnd (ieq y39 (-1)) (some (x0,7)) (cnd (band (ile 0 y39) (ilt y39 (len y3))) (af (Iu (ah y3 (itn y39))) fun y40 => cnd (band (ile 0 y39) (ilt y39 (len y3))) (cnd (aC (ieq y40.snd 0)) (some (x0,y40.snd)) (some (aj.mk x0.accounts x0.symbols (bf y3 (itn y39) y40.fst) y4 y5 y6 x0.kill x0.last x0.seq (wr .i64 (ak x0.lsn 1)),0))) none) none)) (cnd (ieq x1.kind 4) (cnd (ile x0.accounts x1.account) (cnd (ile x0.accounts x1.account) (some (x0,1)) (cnd (ieq x1.symbol (-1)) (cnd (band (ile 0 x1.account) (ilt x1.account (len y6))) (some (aj.mk x0.accounts x0.symbols y3 y4 y5 (bf y6 (itn x1.account) x1.opn) x0.kill x0.last x0.seq (wr .i64 (ak x0.lsn 1)),0)) none) (af (bg (aj.mk x0.accounts x0.symbols y3 y4 y5 y6 x0.kill x0.last x0.seq x0.lsn) x1.account x1.symbol) fun y41 => cnd (band (ile 0 y41) (ilt y41 (len y5))) (some (aj.mk x0.accounts x0.symbols y3 y4 (bf y5 (itn y41) (dP.mk x1.long x1.short x1.opn)) y6 x0.kill x0.last x0.seq (wr .i64 (ak x0.lsn 1)),0)) none))) (cnd (ile x0.symbols x1.symbol) (some (x0,1)) (cnd (ieq x1.symbol (-1)) (cnd (band (ile 0 x1.account) (ilt x1.account (len y6))) (some (aj.mk x0.accounts x0.symbols y3 y4 y5 (bf y6 (itn x1.account) x1.opn) x0.kill x0.last x0.seq (wr .i64 (ak x0.lsn 1)),0)) none) (af (bg (aj.mk x0.accounts x0.symbols y3 y4 y5 y6 x0.kill x0.last x0.seq x0.lsn) x1.account x1.symbol) fun y42 => cnd (band (ile 0 y42) (ilt y42 (len y5))) (some (aj.mk x0.accounts x0.symbols y3 y4 (bf y5 (itn y42) (dP.mk x1.long x1.short x1.opn)) y6 x0.kill x0.last x0.seq (wr .i64 (ak x0.lsn 1)),0)) none)))) (cnd (ieq x1.kind 5) (some (aj.mk x0.accounts x0.symbols y3 y4 y5 y6 x1.on x0.last x0.seq (wr .i64 (ak x0.lsn 1)),0)) (cnd (aC (ieq x1.seq (wr .i64 (ak x0.seq 1)))) (some (x0,11)) (af (pJ (aj.mk x0.accounts x0.symbols y3 y4 y5 y6 x0.kill x0.last x1.seq x0.lsn) x1.order) fun y43 => cnd (ieq y43 (-1)) (some (aj.mk x0.accounts x0.symbols y3 y4 y5 y6 x0.kill x0.last x1.seq (wr .i64 (ak x0.lsn 1)),0)) (cnd (band (ile 0 y43) (ilt y43 (len y3))) (af (E5 (ah y3 (itn y43)) (D7.mk x1.seq x1.what x1.order x1.qty x1.price)) fun y44 => cnd (aC (ieq y44.snd 0)) (some (aj.mk x0.accounts x0.symbols y3 y4 y5 y6 x0.kill x0.last x1.seq (wr .i64 (ak x0.lsn 1)),0)) (af (bg (aj.mk x0.accounts x0.symbols y3 y4 y5 y6 x0.kill x0.last x1.seq x0.lsn) (ah y3 (itn y43)).account (ah y3 (itn y43)).symbol) fun y45 => cnd (band (ile 0 y45) (ilt y45 (len y4))) (af (Fp (ah y4 (itn y45)) (ah y3 (itn y43))) fun y46 => af (iI (ah (bf y4 (itn y45) y46.fst) (itn y45)) y44.fst) fun y47 => cnd (ieq x1.what 3) (af (KU (ah (bf (bf y4 (itn y45) y46.fst) (itn y45) y47.fst) (itn y45)) (ah y3 (itn y43)).side x1.qty) fun y48 => cnd (band (ile 0 y43) (ilt y43 (len y3))) (cnd (ieq y44.fst.phase 3) (af (iW (bf y3 (itn y43) y44.fst) y43 (wr .i64 (ak y43 1))) fun y49 => some (aj.mk x0.accounts x0.symbols y49 (bf (bf (bf y4 (itn y45) y46.fst) (itn y45) y47.fst) (itn y45) y48.fst) y5 y6 x0.kill x0.last x1.seq (wr .i64 (ak x0.lsn 1)),0)) (some (aj.mk x0.accounts x0.symbols (bf y3 (itn y43) y44.fst) (bf (bf (bf y4 (itn y45) y46.fst) (itn y45) y47.fst) (itn y45) y48.fst) y5 y6 x0.kill x0.last x1.seq (wr .i64 (ak x0.lsn 1)),0))) none) (cnd (band (ile 0 y43) (ilt y43 (len y3))) (cnd (ieq y44.fst.phase 3) (af (iW (bf y3 (itn y43) y44.fst) y43 (wr .i64 (ak y43 1))) fun y50 => some (aj.mk x0.accounts x0.symbols y50 (bf (bf y4 (itn y45) y46.fst) (itn y45) y47.fst) y5 y6 x0.kill x0.last x1.seq (wr .i64 (ak x0.lsn 1)),0)) (some (aj.mk x0.accounts x0.symbols (bf y3 (itn y43) y44.fst) (bf (bf y4 (itn y45) y46.fst) (itn y45) y47.fst) y5 y6 x0.kill x0.last x1.seq (wr .i64 (ak x0.lsn 1)),0))) none)) none)) none))))))))
theorem XB:JQ=Om:=by
 funext a0 a1
 unfold JQ Om
 simp only[Dy,Es,Ef,Hz]
def dW (x0:(List Int)):Option ((List Int)):=aev (len x0) fun y0 => cnd (beq y0 true) (some []) (cnd (ile (len x0) 68719476736) (some x0) none)
theorem yP:bW=dW:=by
 funext a0
 unfold bW dW
 simp only[Pg]
def nD (x0:ai) (x1:(List UInt8)):Option ((List Int)×Int):=af (iK x0 [x1]) fun y0 => cnd (aC (ieq y0 0)) (cnd (aC (ieq y0 0)) (some ([],y0)) (cnd (ilt 0 (len x0.files)) (af (dW (ah x0.files 0).data) fun y1 => some (y1,0)) none)) (af (dB x0 x1) fun y2 => cnd (aC y2.snd) (some ([],7)) (cnd (band (ile 0 y2.fst) (ilt y2.fst (len x0.files))) (af (dW (ah x0.files (itn y2.fst)).data) fun y3 => some (y3,0)) none))
theorem xC:kE=nD:=by
 funext a0 a1
 unfold kE nD
 simp only[yP]
def yF (x0:ai):Option (dD×Int):=af (qU x0) fun y0 => cnd (aC y0) (some (dD.mk 0 0,1)) (cnd x0.down (some (dD.mk 0 0,9)) (af (jH 0) fun y1 => af (nD x0 y1) fun y2 => af (lu y2.fst) fun y3 => cnd (band (band (ieq y3.snd 0) (ieq (I4 y3.fst.gen 2) 0)) (ilt 0 y3.fst.gen)) (af (jH 1) fun y4 => af (nD x0 y4) fun y5 => af (lu y5.fst) fun y6 => cnd (band (band (ieq y6.snd 0) (ieq (I4 y6.fst.gen 2) 1)) (ilt y3.fst.gen y6.fst.gen)) (cnd (ieq y6.fst.gen 0) (some (dD.mk 0 0,7)) (some (y6.fst,0))) (cnd (ieq y3.fst.gen 0) (some (dD.mk 0 0,7)) (some (y3.fst,0)))) (af (jH 1) fun y7 => af (nD x0 y7) fun y8 => af (lu y8.fst) fun y9 => cnd (band (band (ieq y9.snd 0) (ieq (I4 y9.fst.gen 2) 1)) (ilt 0 y9.fst.gen)) (cnd (ieq y9.fst.gen 0) (some (dD.mk 0 0,7)) (some (y9.fst,0))) (some (dD.mk 0 0,7)))))
theorem CY:qL=yF:=by
 funext a0
 unfold qL yF
 simp only[xC]
def AX (x0:ai):Option (aj×Int×Int):=af (yF x0) fun y0 => cnd (aC (ieq y0.snd 0)) (some (aj.mk 0 0 [] [] [] [] false 0 0 0,0,y0.snd)) (af (dS y0.fst.gen) fun y1 => af (nD x0 y1) fun y2 => cnd (ieq y2.snd 0) (af (qM y2.fst) fun y3 => cnd (band (ieq y3.snd 0) (ieq y3.fst.lsn y0.fst.lsn)) (some (y3.fst,y0.fst.gen,0)) (some (aj.mk 0 0 [] [] [] [] false 0 0 0,0,2))) (some (aj.mk 0 0 [] [] [] [] false 0 0 0,0,2)))
theorem TW:kP=AX:=by
 funext a0
 unfold kP AX
 simp only[xC,CY]
def aP (x0:(List ax)):Option ((List ax)):=aev (len x0) fun y0 => cnd (beq y0 true) (some []) (cnd (ile (len x0) 68719476736) (some x0) none)
theorem jc:aK=aP:=by
 funext a0
 unfold aK aP
 simp only[Pg]
def yX (x0:ai) (x1:(List UInt8)):Option (ai×Int):=af (iK x0 [x1]) fun y0 => cnd (aC (ieq y0 0)) (cnd (aC (ieq y0 0)) (some (x0,y0)) (cnd (ieq x0.fuse 0) (some (ai.mk x0.files x0.room x0.fuse true,9)) (cnd (ieq x0.fuse (-1)) (af (aP x0.files) fun y1 => af (dm y1 0 1) fun y2 => some (ai.mk y2 x0.room x0.fuse x0.down,0)) (af (aP x0.files) fun y3 => af (dm y3 0 1) fun y4 => some (ai.mk y4 x0.room (wr .i64 (aF x0.fuse 1)) x0.down,0))))) (af (dB x0 x1) fun y5 => cnd (aC y5.snd) (some (x0,7)) (cnd (ieq x0.fuse 0) (some (ai.mk x0.files x0.room x0.fuse true,9)) (cnd (ieq x0.fuse (-1)) (af (aP x0.files) fun y6 => af (dm y6 y5.fst (wr .i64 (ak y5.fst 1))) fun y7 => some (ai.mk y7 x0.room x0.fuse x0.down,0)) (af (aP x0.files) fun y8 => af (dm y8 y5.fst (wr .i64 (ak y5.fst 1))) fun y9 => some (ai.mk y9 x0.room (wr .i64 (aF x0.fuse 1)) x0.down,0)))))
theorem GK:pI=yX:=by
 funext a0 a1
 unfold pI yX
 simp only[jc]
def lW (x0:ai) (x1:(List UInt8)) (x2:(List Int)):Option (ai×Int):=af (iK x0 [x1]) fun y0 => cnd (aC (ieq y0 0)) (some (x0,y0)) (af (dB x0 x1) fun y1 => af (Aj x0) fun y2 => cnd (bor (ilt (wr .i64 (aF x0.room y2)) (len x2)) (band (aC y1.snd) (ieq (len x0.files) 64))) (some (x0,6)) (af (aP x0.files) fun y3 => cnd (aC y1.snd) (af (aZ y3 y1.fst [ax.mk x1 [] 0]) fun y4 => cnd (band (ile 0 y1.fst) (ilt y1.fst (len y4))) (af (iV [J9.mk (ah y4 (itn y1.fst)).data,J9.mk x2]) fun y5 => cnd (band (ile 0 y1.fst) (ilt y1.fst (len y4))) (cnd (ieq x0.fuse 0) (some (ai.mk (bf y4 (itn y1.fst) (ax.mk (ah y4 (itn y1.fst)).name y5 (ah y4 (itn y1.fst)).sure)) x0.room x0.fuse true,9)) (cnd (ieq x0.fuse (-1)) (some (ai.mk (bf y4 (itn y1.fst) (ax.mk (ah y4 (itn y1.fst)).name y5 (ah y4 (itn y1.fst)).sure)) x0.room x0.fuse x0.down,0)) (some (ai.mk (bf y4 (itn y1.fst) (ax.mk (ah y4 (itn y1.fst)).name y5 (ah y4 (itn y1.fst)).sure)) x0.room (wr .i64 (aF x0.fuse 1)) x0.down,0)))) none) none) (cnd (band (ile 0 y1.fst) (ilt y1.fst (len y3))) (af (iV [J9.mk (ah y3 (itn y1.fst)).data,J9.mk x2]) fun y6 => cnd (band (ile 0 y1.fst) (ilt y1.fst (len y3))) (cnd (ieq x0.fuse 0) (some (ai.mk (bf y3 (itn y1.fst) (ax.mk (ah y3 (itn y1.fst)).name y6 (ah y3 (itn y1.fst)).sure)) x0.room x0.fuse true,9)) (cnd (ieq x0.fuse (-1)) (some (ai.mk (bf y3 (itn y1.fst) (ax.mk (ah y3 (itn y1.fst)).name y6 (ah y3 (itn y1.fst)).sure)) x0.room x0.fuse x0.down,0)) (some (ai.mk (bf y3 (itn y1.fst) (ax.mk (ah y3 (itn y1.fst)).name y6 (ah y3 (itn y1.fst)).sure)) x0.room (wr .i64 (aF x0.fuse 1)) x0.down,0)))) none) none)))
theorem GN:iD=lW:=by
 funext a0 a1 a2
 unfold iD lW
 simp only[jc]
def nG (x0:ai) (x1:(List UInt8)):Option (ai×Int):=af (iK x0 [x1]) fun y0 => cnd (aC (ieq y0 0)) (cnd (aC (ieq y0 0)) (some (x0,y0)) (cnd (ieq x0.fuse 0) (some (ai.mk x0.files x0.room x0.fuse true,9)) (cnd (ieq x0.fuse (-1)) (af (aP x0.files) fun y1 => cnd (ilt 0 (len y1)) (cnd (ilt 0 (len y1)) (some (ai.mk (bf y1 0 (ax.mk (ah y1 0).name (ah y1 0).data (len (ah y1 0).data))) x0.room x0.fuse x0.down,0)) none) none) (af (aP x0.files) fun y2 => cnd (ilt 0 (len y2)) (cnd (ilt 0 (len y2)) (some (ai.mk (bf y2 0 (ax.mk (ah y2 0).name (ah y2 0).data (len (ah y2 0).data))) x0.room (wr .i64 (aF x0.fuse 1)) x0.down,0)) none) none)))) (af (dB x0 x1) fun y3 => cnd (aC y3.snd) (some (x0,7)) (cnd (ieq x0.fuse 0) (some (ai.mk x0.files x0.room x0.fuse true,9)) (cnd (ieq x0.fuse (-1)) (af (aP x0.files) fun y4 => cnd (band (ile 0 y3.fst) (ilt y3.fst (len y4))) (cnd (band (ile 0 y3.fst) (ilt y3.fst (len y4))) (some (ai.mk (bf y4 (itn y3.fst) (ax.mk (ah y4 (itn y3.fst)).name (ah y4 (itn y3.fst)).data (len (ah y4 (itn y3.fst)).data))) x0.room x0.fuse x0.down,0)) none) none) (af (aP x0.files) fun y5 => cnd (band (ile 0 y3.fst) (ilt y3.fst (len y5))) (cnd (band (ile 0 y3.fst) (ilt y3.fst (len y5))) (some (ai.mk (bf y5 (itn y3.fst) (ax.mk (ah y5 (itn y3.fst)).name (ah y5 (itn y3.fst)).data (len (ah y5 (itn y3.fst)).data))) x0.room (wr .i64 (aF x0.fuse 1)) x0.down,0)) none) none))))
theorem JI:ji=nG:=by
 funext a0 a1
 unfold ji nG
 simp only[jc]
def lT (x0:ai) (x1:(List UInt8)) (x2:(List UInt8)):Option (ai×Int):=cnd (ile (len (jQ [x2] [x1])) 68719476736) (af (iK x0 (jQ [x2] [x1])) fun y0 => cnd (aC (ieq y0 0)) (cnd (aC (ieq y0 0)) (some (x0,y0)) (cnd (ieq x0.fuse 0) (some (ai.mk x0.files x0.room x0.fuse true,9)) (cnd (ieq x0.fuse (-1)) (cnd (ilt 0 (len x0.files)) (af (aP x0.files) fun y1 => cnd (band (ile 1 (len y1)) (band (ile 1 (len y1)) (ile (len y1) (len y1)))) (cnd (ile 0 (len y1)) (cnd (ile 1 (len y1)) (cnd (ile (ak 0 (len (aB (aH y1 1) (itn (aF (len y1) 1))))) (len y1)) (cnd (band (band (ile 0 (nti (nad 0 (itn (len (aB (aH y1 1) (itn (aF (len y1) 1)))))))) (ile (nti (nad 0 (itn (len (aB (aH y1 1) (itn (aF (len y1) 1))))))) (len y1))) (ile (len y1) (aF (len (dY y1 0 (aB (aH y1 1) (itn (aF (len y1) 1))))) 0))) (af (dB (ai.mk (aB (dY (dY y1 0 (aB (aH y1 1) (itn (aF (len y1) 1)))) (nad 0 (itn (nti (nad 0 (itn (len (aB (aH y1 1) (itn (aF (len y1) 1))))))))) (ja ax (itn (aF (len y1) (nti (nad 0 (itn (len (aB (aH y1 1) (itn (aF (len y1) 1))))))))))) (nad 0 (itn (len (aB (aH y1 1) (itn (aF (len y1) 1))))))) x0.room x0.fuse x0.down) x2) fun y2 => cnd y2.snd (cnd (band (ile 0 y2.fst) (ilt y2.fst (len (aB (dY (dY y1 0 (aB (aH y1 1) (itn (aF (len y1) 1)))) (nad 0 (itn (nti (nad 0 (itn (len (aB (aH y1 1) (itn (aF (len y1) 1))))))))) (ja ax (itn (aF (len y1) (nti (nad 0 (itn (len (aB (aH y1 1) (itn (aF (len y1) 1))))))))))) (nad 0 (itn (len (aB (aH y1 1) (itn (aF (len y1) 1)))))))))) (some (ai.mk (bf (aB (dY (dY y1 0 (aB (aH y1 1) (itn (aF (len y1) 1)))) (nad 0 (itn (nti (nad 0 (itn (len (aB (aH y1 1) (itn (aF (len y1) 1))))))))) (ja ax (itn (aF (len y1) (nti (nad 0 (itn (len (aB (aH y1 1) (itn (aF (len y1) 1))))))))))) (nad 0 (itn (len (aB (aH y1 1) (itn (aF (len y1) 1))))))) (itn y2.fst) (ax.mk x2 (ah x0.files 0).data (ah x0.files 0).sure)) x0.room x0.fuse x0.down,0)) none) (af (aZ (aB (dY (dY y1 0 (aB (aH y1 1) (itn (aF (len y1) 1)))) (nad 0 (itn (nti (nad 0 (itn (len (aB (aH y1 1) (itn (aF (len y1) 1))))))))) (ja ax (itn (aF (len y1) (nti (nad 0 (itn (len (aB (aH y1 1) (itn (aF (len y1) 1))))))))))) (nad 0 (itn (len (aB (aH y1 1) (itn (aF (len y1) 1))))))) y2.fst [ax.mk x2 (ah x0.files 0).data (ah x0.files 0).sure]) fun y3 => some (ai.mk y3 x0.room x0.fuse x0.down,0))) none) none) none) none) none) none) (cnd (ilt 0 (len x0.files)) (af (aP x0.files) fun y4 => cnd (band (ile 1 (len y4)) (band (ile 1 (len y4)) (ile (len y4) (len y4)))) (cnd (ile 0 (len y4)) (cnd (ile 1 (len y4)) (cnd (ile (ak 0 (len (aB (aH y4 1) (itn (aF (len y4) 1))))) (len y4)) (cnd (band (band (ile 0 (nti (nad 0 (itn (len (aB (aH y4 1) (itn (aF (len y4) 1)))))))) (ile (nti (nad 0 (itn (len (aB (aH y4 1) (itn (aF (len y4) 1))))))) (len y4))) (ile (len y4) (aF (len (dY y4 0 (aB (aH y4 1) (itn (aF (len y4) 1))))) 0))) (af (dB (ai.mk (aB (dY (dY y4 0 (aB (aH y4 1) (itn (aF (len y4) 1)))) (nad 0 (itn (nti (nad 0 (itn (len (aB (aH y4 1) (itn (aF (len y4) 1))))))))) (ja ax (itn (aF (len y4) (nti (nad 0 (itn (len (aB (aH y4 1) (itn (aF (len y4) 1))))))))))) (nad 0 (itn (len (aB (aH y4 1) (itn (aF (len y4) 1))))))) x0.room (wr .i64 (aF x0.fuse 1)) x0.down) x2) fun y5 => cnd y5.snd (cnd (band (ile 0 y5.fst) (ilt y5.fst (len (aB (dY (dY y4 0 (aB (aH y4 1) (itn (aF (len y4) 1)))) (nad 0 (itn (nti (nad 0 (itn (len (aB (aH y4 1) (itn (aF (len y4) 1))))))))) (ja ax (itn (aF (len y4) (nti (nad 0 (itn (len (aB (aH y4 1) (itn (aF (len y4) 1))))))))))) (nad 0 (itn (len (aB (aH y4 1) (itn (aF (len y4) 1)))))))))) (some (ai.mk (bf (aB (dY (dY y4 0 (aB (aH y4 1) (itn (aF (len y4) 1)))) (nad 0 (itn (nti (nad 0 (itn (len (aB (aH y4 1) (itn (aF (len y4) 1))))))))) (ja ax (itn (aF (len y4) (nti (nad 0 (itn (len (aB (aH y4 1) (itn (aF (len y4) 1))))))))))) (nad 0 (itn (len (aB (aH y4 1) (itn (aF (len y4) 1))))))) (itn y5.fst) (ax.mk x2 (ah x0.files 0).data (ah x0.files 0).sure)) x0.room (wr .i64 (aF x0.fuse 1)) x0.down,0)) none) (af (aZ (aB (dY (dY y4 0 (aB (aH y4 1) (itn (aF (len y4) 1)))) (nad 0 (itn (nti (nad 0 (itn (len (aB (aH y4 1) (itn (aF (len y4) 1))))))))) (ja ax (itn (aF (len y4) (nti (nad 0 (itn (len (aB (aH y4 1) (itn (aF (len y4) 1))))))))))) (nad 0 (itn (len (aB (aH y4 1) (itn (aF (len y4) 1))))))) y5.fst [ax.mk x2 (ah x0.files 0).data (ah x0.files 0).sure]) fun y6 => some (ai.mk y6 x0.room (wr .i64 (aF x0.fuse 1)) x0.down,0))) none) none) none) none) none) none)))) (af (dB x0 x1) fun y7 => cnd (aC y7.snd) (some (x0,7)) (cnd (ieq x0.fuse 0) (some (ai.mk x0.files x0.room x0.fuse true,9)) (cnd (ieq x0.fuse (-1)) (cnd (band (ile 0 y7.fst) (ilt y7.fst (len x0.files))) (af (aP x0.files) fun y8 => cnd (band (band (band (ile 0 y7.fst) (ile y7.fst (wr .i64 (ak y7.fst 1)))) (ile (wr .i64 (ak y7.fst 1)) (len y8))) (band (ile (wr .i64 (ak y7.fst 1)) (len y8)) (ile (len y8) (len y8)))) (cnd (ieq y7.fst (wr .i64 (ak y7.fst 1))) (af (dB (ai.mk y8 x0.room x0.fuse x0.down) x2) fun y9 => cnd y9.snd (cnd (band (ile 0 y9.fst) (ilt y9.fst (len y8))) (some (ai.mk (bf y8 (itn y9.fst) (ax.mk x2 (ah x0.files (itn y7.fst)).data (ah x0.files (itn y7.fst)).sure)) x0.room x0.fuse x0.down,0)) none) (af (aZ y8 y9.fst [ax.mk x2 (ah x0.files (itn y7.fst)).data (ah x0.files (itn y7.fst)).sure]) fun y10 => some (ai.mk y10 x0.room x0.fuse x0.down,0))) (cnd (band (ile 0 y7.fst) (ile y7.fst (len y8))) (cnd (band (ile 0 (wr .i64 (ak y7.fst 1))) (ile (wr .i64 (ak y7.fst 1)) (len y8))) (cnd (ile (ak (nti (itn y7.fst)) (len (aB (aH y8 (itn (wr .i64 (ak y7.fst 1)))) (itn (aF (len y8) (wr .i64 (ak y7.fst 1))))))) (len y8)) (cnd (band (band (ile 0 (nti (nad (itn y7.fst) (itn (len (aB (aH y8 (itn (wr .i64 (ak y7.fst 1)))) (itn (aF (len y8) (wr .i64 (ak y7.fst 1)))))))))) (ile (nti (nad (itn y7.fst) (itn (len (aB (aH y8 (itn (wr .i64 (ak y7.fst 1)))) (itn (aF (len y8) (wr .i64 (ak y7.fst 1))))))))) (len y8))) (ile (len y8) (aF (len (dY y8 (itn y7.fst) (aB (aH y8 (itn (wr .i64 (ak y7.fst 1)))) (itn (aF (len y8) (wr .i64 (ak y7.fst 1))))))) 0))) (af (dB (ai.mk (aB (dY (dY y8 (itn y7.fst) (aB (aH y8 (itn (wr .i64 (ak y7.fst 1)))) (itn (aF (len y8) (wr .i64 (ak y7.fst 1)))))) (nad 0 (itn (nti (nad (itn y7.fst) (itn (len (aB (aH y8 (itn (wr .i64 (ak y7.fst 1)))) (itn (aF (len y8) (wr .i64 (ak y7.fst 1))))))))))) (ja ax (itn (aF (len y8) (nti (nad (itn y7.fst) (itn (len (aB (aH y8 (itn (wr .i64 (ak y7.fst 1)))) (itn (aF (len y8) (wr .i64 (ak y7.fst 1))))))))))))) (nad (itn y7.fst) (itn (len (aB (aH y8 (itn (wr .i64 (ak y7.fst 1)))) (itn (aF (len y8) (wr .i64 (ak y7.fst 1))))))))) x0.room x0.fuse x0.down) x2) fun y11 => cnd y11.snd (cnd (band (ile 0 y11.fst) (ilt y11.fst (len (aB (dY (dY y8 (itn y7.fst) (aB (aH y8 (itn (wr .i64 (ak y7.fst 1)))) (itn (aF (len y8) (wr .i64 (ak y7.fst 1)))))) (nad 0 (itn (nti (nad (itn y7.fst) (itn (len (aB (aH y8 (itn (wr .i64 (ak y7.fst 1)))) (itn (aF (len y8) (wr .i64 (ak y7.fst 1))))))))))) (ja ax (itn (aF (len y8) (nti (nad (itn y7.fst) (itn (len (aB (aH y8 (itn (wr .i64 (ak y7.fst 1)))) (itn (aF (len y8) (wr .i64 (ak y7.fst 1))))))))))))) (nad (itn y7.fst) (itn (len (aB (aH y8 (itn (wr .i64 (ak y7.fst 1)))) (itn (aF (len y8) (wr .i64 (ak y7.fst 1)))))))))))) (some (ai.mk (bf (aB (dY (dY y8 (itn y7.fst) (aB (aH y8 (itn (wr .i64 (ak y7.fst 1)))) (itn (aF (len y8) (wr .i64 (ak y7.fst 1)))))) (nad 0 (itn (nti (nad (itn y7.fst) (itn (len (aB (aH y8 (itn (wr .i64 (ak y7.fst 1)))) (itn (aF (len y8) (wr .i64 (ak y7.fst 1))))))))))) (ja ax (itn (aF (len y8) (nti (nad (itn y7.fst) (itn (len (aB (aH y8 (itn (wr .i64 (ak y7.fst 1)))) (itn (aF (len y8) (wr .i64 (ak y7.fst 1))))))))))))) (nad (itn y7.fst) (itn (len (aB (aH y8 (itn (wr .i64 (ak y7.fst 1)))) (itn (aF (len y8) (wr .i64 (ak y7.fst 1))))))))) (itn y11.fst) (ax.mk x2 (ah x0.files (itn y7.fst)).data (ah x0.files (itn y7.fst)).sure)) x0.room x0.fuse x0.down,0)) none) (af (aZ (aB (dY (dY y8 (itn y7.fst) (aB (aH y8 (itn (wr .i64 (ak y7.fst 1)))) (itn (aF (len y8) (wr .i64 (ak y7.fst 1)))))) (nad 0 (itn (nti (nad (itn y7.fst) (itn (len (aB (aH y8 (itn (wr .i64 (ak y7.fst 1)))) (itn (aF (len y8) (wr .i64 (ak y7.fst 1))))))))))) (ja ax (itn (aF (len y8) (nti (nad (itn y7.fst) (itn (len (aB (aH y8 (itn (wr .i64 (ak y7.fst 1)))) (itn (aF (len y8) (wr .i64 (ak y7.fst 1))))))))))))) (nad (itn y7.fst) (itn (len (aB (aH y8 (itn (wr .i64 (ak y7.fst 1)))) (itn (aF (len y8) (wr .i64 (ak y7.fst 1))))))))) y11.fst [ax.mk x2 (ah x0.files (itn y7.fst)).data (ah x0.files (itn y7.fst)).sure]) fun y12 => some (ai.mk y12 x0.room x0.fuse x0.down,0))) none) none) none) none)) none) none) (cnd (band (ile 0 y7.fst) (ilt y7.fst (len x0.files))) (af (aP x0.files) fun y13 => cnd (band (band (band (ile 0 y7.fst) (ile y7.fst (wr .i64 (ak y7.fst 1)))) (ile (wr .i64 (ak y7.fst 1)) (len y13))) (band (ile (wr .i64 (ak y7.fst 1)) (len y13)) (ile (len y13) (len y13)))) (cnd (ieq y7.fst (wr .i64 (ak y7.fst 1))) (af (dB (ai.mk y13 x0.room (wr .i64 (aF x0.fuse 1)) x0.down) x2) fun y14 => cnd y14.snd (cnd (band (ile 0 y14.fst) (ilt y14.fst (len y13))) (some (ai.mk (bf y13 (itn y14.fst) (ax.mk x2 (ah x0.files (itn y7.fst)).data (ah x0.files (itn y7.fst)).sure)) x0.room (wr .i64 (aF x0.fuse 1)) x0.down,0)) none) (af (aZ y13 y14.fst [ax.mk x2 (ah x0.files (itn y7.fst)).data (ah x0.files (itn y7.fst)).sure]) fun y15 => some (ai.mk y15 x0.room (wr .i64 (aF x0.fuse 1)) x0.down,0))) (cnd (band (ile 0 y7.fst) (ile y7.fst (len y13))) (cnd (band (ile 0 (wr .i64 (ak y7.fst 1))) (ile (wr .i64 (ak y7.fst 1)) (len y13))) (cnd (ile (ak (nti (itn y7.fst)) (len (aB (aH y13 (itn (wr .i64 (ak y7.fst 1)))) (itn (aF (len y13) (wr .i64 (ak y7.fst 1))))))) (len y13)) (cnd (band (band (ile 0 (nti (nad (itn y7.fst) (itn (len (aB (aH y13 (itn (wr .i64 (ak y7.fst 1)))) (itn (aF (len y13) (wr .i64 (ak y7.fst 1)))))))))) (ile (nti (nad (itn y7.fst) (itn (len (aB (aH y13 (itn (wr .i64 (ak y7.fst 1)))) (itn (aF (len y13) (wr .i64 (ak y7.fst 1))))))))) (len y13))) (ile (len y13) (aF (len (dY y13 (itn y7.fst) (aB (aH y13 (itn (wr .i64 (ak y7.fst 1)))) (itn (aF (len y13) (wr .i64 (ak y7.fst 1))))))) 0))) (af (dB (ai.mk (aB (dY (dY y13 (itn y7.fst) (aB (aH y13 (itn (wr .i64 (ak y7.fst 1)))) (itn (aF (len y13) (wr .i64 (ak y7.fst 1)))))) (nad 0 (itn (nti (nad (itn y7.fst) (itn (len (aB (aH y13 (itn (wr .i64 (ak y7.fst 1)))) (itn (aF (len y13) (wr .i64 (ak y7.fst 1))))))))))) (ja ax (itn (aF (len y13) (nti (nad (itn y7.fst) (itn (len (aB (aH y13 (itn (wr .i64 (ak y7.fst 1)))) (itn (aF (len y13) (wr .i64 (ak y7.fst 1))))))))))))) (nad (itn y7.fst) (itn (len (aB (aH y13 (itn (wr .i64 (ak y7.fst 1)))) (itn (aF (len y13) (wr .i64 (ak y7.fst 1))))))))) x0.room (wr .i64 (aF x0.fuse 1)) x0.down) x2) fun y16 => cnd y16.snd (cnd (band (ile 0 y16.fst) (ilt y16.fst (len (aB (dY (dY y13 (itn y7.fst) (aB (aH y13 (itn (wr .i64 (ak y7.fst 1)))) (itn (aF (len y13) (wr .i64 (ak y7.fst 1)))))) (nad 0 (itn (nti (nad (itn y7.fst) (itn (len (aB (aH y13 (itn (wr .i64 (ak y7.fst 1)))) (itn (aF (len y13) (wr .i64 (ak y7.fst 1))))))))))) (ja ax (itn (aF (len y13) (nti (nad (itn y7.fst) (itn (len (aB (aH y13 (itn (wr .i64 (ak y7.fst 1)))) (itn (aF (len y13) (wr .i64 (ak y7.fst 1))))))))))))) (nad (itn y7.fst) (itn (len (aB (aH y13 (itn (wr .i64 (ak y7.fst 1)))) (itn (aF (len y13) (wr .i64 (ak y7.fst 1)))))))))))) (some (ai.mk (bf (aB (dY (dY y13 (itn y7.fst) (aB (aH y13 (itn (wr .i64 (ak y7.fst 1)))) (itn (aF (len y13) (wr .i64 (ak y7.fst 1)))))) (nad 0 (itn (nti (nad (itn y7.fst) (itn (len (aB (aH y13 (itn (wr .i64 (ak y7.fst 1)))) (itn (aF (len y13) (wr .i64 (ak y7.fst 1))))))))))) (ja ax (itn (aF (len y13) (nti (nad (itn y7.fst) (itn (len (aB (aH y13 (itn (wr .i64 (ak y7.fst 1)))) (itn (aF (len y13) (wr .i64 (ak y7.fst 1))))))))))))) (nad (itn y7.fst) (itn (len (aB (aH y13 (itn (wr .i64 (ak y7.fst 1)))) (itn (aF (len y13) (wr .i64 (ak y7.fst 1))))))))) (itn y16.fst) (ax.mk x2 (ah x0.files (itn y7.fst)).data (ah x0.files (itn y7.fst)).sure)) x0.room (wr .i64 (aF x0.fuse 1)) x0.down,0)) none) (af (aZ (aB (dY (dY y13 (itn y7.fst) (aB (aH y13 (itn (wr .i64 (ak y7.fst 1)))) (itn (aF (len y13) (wr .i64 (ak y7.fst 1)))))) (nad 0 (itn (nti (nad (itn y7.fst) (itn (len (aB (aH y13 (itn (wr .i64 (ak y7.fst 1)))) (itn (aF (len y13) (wr .i64 (ak y7.fst 1))))))))))) (ja ax (itn (aF (len y13) (nti (nad (itn y7.fst) (itn (len (aB (aH y13 (itn (wr .i64 (ak y7.fst 1)))) (itn (aF (len y13) (wr .i64 (ak y7.fst 1))))))))))))) (nad (itn y7.fst) (itn (len (aB (aH y13 (itn (wr .i64 (ak y7.fst 1)))) (itn (aF (len y13) (wr .i64 (ak y7.fst 1))))))))) y16.fst [ax.mk x2 (ah x0.files (itn y7.fst)).data (ah x0.files (itn y7.fst)).sure]) fun y17 => some (ai.mk y17 x0.room (wr .i64 (aF x0.fuse 1)) x0.down,0))) none) none) none) none)) none) none))))) none
theorem Ro:jJ=lT:=by
 funext a0 a1 a2
 unfold jJ lT
 simp only[jc]
def EW (x0:ai) (x1:(List UInt8)) (x2:Int):Option (ai×Int):=af (iK x0 [x1]) fun y0 => cnd (aC (ieq y0 0)) (cnd (aC (ieq y0 0)) (some (x0,y0)) (cnd (ilt x2 0) (cnd (ilt x2 0) (some (x0,1)) (cnd (ieq x0.fuse 0) (some (ai.mk x0.files x0.room x0.fuse true,9)) (cnd (ieq x0.fuse (-1)) (af (aP x0.files) fun y1 => cnd (ilt 0 (len y1)) (cnd (band (ile 0 x2) (ile x2 (len (ah y1 0).data))) (af (dW (aB (ah y1 0).data (itn x2))) fun y2 => some (ai.mk (bf (bf y1 0 (ax.mk (ah y1 0).name y2 (ah y1 0).sure)) 0 (ax.mk (ah (bf y1 0 (ax.mk (ah y1 0).name y2 (ah y1 0).sure)) 0).name (ah (bf y1 0 (ax.mk (ah y1 0).name y2 (ah y1 0).sure)) 0).data (kH (ah y1 0).sure x2))) x0.room x0.fuse x0.down,0)) none) none) (af (aP x0.files) fun y3 => cnd (ilt 0 (len y3)) (cnd (band (ile 0 x2) (ile x2 (len (ah y3 0).data))) (af (dW (aB (ah y3 0).data (itn x2))) fun y4 => some (ai.mk (bf (bf y3 0 (ax.mk (ah y3 0).name y4 (ah y3 0).sure)) 0 (ax.mk (ah (bf y3 0 (ax.mk (ah y3 0).name y4 (ah y3 0).sure)) 0).name (ah (bf y3 0 (ax.mk (ah y3 0).name y4 (ah y3 0).sure)) 0).data (kH (ah y3 0).sure x2))) x0.room (wr .i64 (aF x0.fuse 1)) x0.down,0)) none) none)))) (cnd (ilt 0 (len x0.files)) (cnd (ilt (len (ah x0.files 0).data) x2) (some (x0,1)) (cnd (ieq x0.fuse 0) (some (ai.mk x0.files x0.room x0.fuse true,9)) (cnd (ieq x0.fuse (-1)) (af (aP x0.files) fun y5 => cnd (ilt 0 (len y5)) (cnd (band (ile 0 x2) (ile x2 (len (ah y5 0).data))) (af (dW (aB (ah y5 0).data (itn x2))) fun y6 => some (ai.mk (bf (bf y5 0 (ax.mk (ah y5 0).name y6 (ah y5 0).sure)) 0 (ax.mk (ah (bf y5 0 (ax.mk (ah y5 0).name y6 (ah y5 0).sure)) 0).name (ah (bf y5 0 (ax.mk (ah y5 0).name y6 (ah y5 0).sure)) 0).data (kH (ah y5 0).sure x2))) x0.room x0.fuse x0.down,0)) none) none) (af (aP x0.files) fun y7 => cnd (ilt 0 (len y7)) (cnd (band (ile 0 x2) (ile x2 (len (ah y7 0).data))) (af (dW (aB (ah y7 0).data (itn x2))) fun y8 => some (ai.mk (bf (bf y7 0 (ax.mk (ah y7 0).name y8 (ah y7 0).sure)) 0 (ax.mk (ah (bf y7 0 (ax.mk (ah y7 0).name y8 (ah y7 0).sure)) 0).name (ah (bf y7 0 (ax.mk (ah y7 0).name y8 (ah y7 0).sure)) 0).data (kH (ah y7 0).sure x2))) x0.room (wr .i64 (aF x0.fuse 1)) x0.down,0)) none) none)))) none))) (af (dB x0 x1) fun y9 => cnd (aC y9.snd) (some (x0,7)) (cnd (ilt x2 0) (cnd (ilt x2 0) (some (x0,1)) (cnd (ieq x0.fuse 0) (some (ai.mk x0.files x0.room x0.fuse true,9)) (cnd (ieq x0.fuse (-1)) (af (aP x0.files) fun y10 => cnd (band (ile 0 y9.fst) (ilt y9.fst (len y10))) (cnd (band (ile 0 x2) (ile x2 (len (ah y10 (itn y9.fst)).data))) (af (dW (aB (ah y10 (itn y9.fst)).data (itn x2))) fun y11 => some (ai.mk (bf (bf y10 (itn y9.fst) (ax.mk (ah y10 (itn y9.fst)).name y11 (ah y10 (itn y9.fst)).sure)) (itn y9.fst) (ax.mk (ah (bf y10 (itn y9.fst) (ax.mk (ah y10 (itn y9.fst)).name y11 (ah y10 (itn y9.fst)).sure)) (itn y9.fst)).name (ah (bf y10 (itn y9.fst) (ax.mk (ah y10 (itn y9.fst)).name y11 (ah y10 (itn y9.fst)).sure)) (itn y9.fst)).data (kH (ah y10 (itn y9.fst)).sure x2))) x0.room x0.fuse x0.down,0)) none) none) (af (aP x0.files) fun y12 => cnd (band (ile 0 y9.fst) (ilt y9.fst (len y12))) (cnd (band (ile 0 x2) (ile x2 (len (ah y12 (itn y9.fst)).data))) (af (dW (aB (ah y12 (itn y9.fst)).data (itn x2))) fun y13 => some (ai.mk (bf (bf y12 (itn y9.fst) (ax.mk (ah y12 (itn y9.fst)).name y13 (ah y12 (itn y9.fst)).sure)) (itn y9.fst) (ax.mk (ah (bf y12 (itn y9.fst) (ax.mk (ah y12 (itn y9.fst)).name y13 (ah y12 (itn y9.fst)).sure)) (itn y9.fst)).name (ah (bf y12 (itn y9.fst) (ax.mk (ah y12 (itn y9.fst)).name y13 (ah y12 (itn y9.fst)).sure)) (itn y9.fst)).data (kH (ah y12 (itn y9.fst)).sure x2))) x0.room (wr .i64 (aF x0.fuse 1)) x0.down,0)) none) none)))) (cnd (band (ile 0 y9.fst) (ilt y9.fst (len x0.files))) (cnd (ilt (len (ah x0.files (itn y9.fst)).data) x2) (some (x0,1)) (cnd (ieq x0.fuse 0) (some (ai.mk x0.files x0.room x0.fuse true,9)) (cnd (ieq x0.fuse (-1)) (af (aP x0.files) fun y14 => cnd (band (ile 0 y9.fst) (ilt y9.fst (len y14))) (cnd (band (ile 0 x2) (ile x2 (len (ah y14 (itn y9.fst)).data))) (af (dW (aB (ah y14 (itn y9.fst)).data (itn x2))) fun y15 => some (ai.mk (bf (bf y14 (itn y9.fst) (ax.mk (ah y14 (itn y9.fst)).name y15 (ah y14 (itn y9.fst)).sure)) (itn y9.fst) (ax.mk (ah (bf y14 (itn y9.fst) (ax.mk (ah y14 (itn y9.fst)).name y15 (ah y14 (itn y9.fst)).sure)) (itn y9.fst)).name (ah (bf y14 (itn y9.fst) (ax.mk (ah y14 (itn y9.fst)).name y15 (ah y14 (itn y9.fst)).sure)) (itn y9.fst)).data (kH (ah y14 (itn y9.fst)).sure x2))) x0.room x0.fuse x0.down,0)) none) none) (af (aP x0.files) fun y16 => cnd (band (ile 0 y9.fst) (ilt y9.fst (len y16))) (cnd (band (ile 0 x2) (ile x2 (len (ah y16 (itn y9.fst)).data))) (af (dW (aB (ah y16 (itn y9.fst)).data (itn x2))) fun y17 => some (ai.mk (bf (bf y16 (itn y9.fst) (ax.mk (ah y16 (itn y9.fst)).name y17 (ah y16 (itn y9.fst)).sure)) (itn y9.fst) (ax.mk (ah (bf y16 (itn y9.fst) (ax.mk (ah y16 (itn y9.fst)).name y17 (ah y16 (itn y9.fst)).sure)) (itn y9.fst)).name (ah (bf y16 (itn y9.fst) (ax.mk (ah y16 (itn y9.fst)).name y17 (ah y16 (itn y9.fst)).sure)) (itn y9.fst)).data (kH (ah y16 (itn y9.fst)).sure x2))) x0.room (wr .i64 (aF x0.fuse 1)) x0.down,0)) none) none)))) none)))
theorem Wi:uf=EW:=by
 funext a0 a1 a2
 unfold uf EW
 simp only[yP,jc]
def ig (x0:ai) (x1:dD):Option (ai×Int):=af (tY x1) fun y0 => cnd (aC y0) (some (x0,1)) (af (yF x0) fun y1 => cnd (ieq y1.snd 1) (cnd (ieq y1.snd 1) (some (x0,y1.snd)) (cnd (aC (ieq x1.gen (wr .i64 (ak y1.fst.gen 1)))) (some (x0,8)) (af (jH x1.gen) fun y2 => af (nC x1) fun y3 => af (nD x0 y2) fun y4 => cnd (ieq y4.snd 7) (af (lW x0 y2 [y3.a0,y3.a1,y3.a2,y3.a3,y3.a4,y3.a5,y3.a6,y3.a7,y3.a8,y3.a9,y3.a10,y3.a11,y3.a12,y3.a13,y3.a14,y3.a15,y3.a16,y3.a17,y3.a18,y3.a19]) fun y5 => cnd (aC (ieq y5.snd 0)) (some y5) (af (nG y5.fst y2) fun y6 => cnd (aC (ieq y6.snd 0)) (some y6) (some (y6.fst,0)))) (af (EW x0 y2 0) fun y7 => cnd (aC (ieq y7.snd 0)) (some y7) (af (lW y7.fst y2 [y3.a0,y3.a1,y3.a2,y3.a3,y3.a4,y3.a5,y3.a6,y3.a7,y3.a8,y3.a9,y3.a10,y3.a11,y3.a12,y3.a13,y3.a14,y3.a15,y3.a16,y3.a17,y3.a18,y3.a19]) fun y8 => cnd (aC (ieq y8.snd 0)) (some y8) (af (nG y8.fst y2) fun y9 => cnd (aC (ieq y9.snd 0)) (some y9) (some (y9.fst,0)))))))) (cnd (ieq y1.snd 9) (some (x0,y1.snd)) (cnd (aC (ieq x1.gen (wr .i64 (ak y1.fst.gen 1)))) (some (x0,8)) (af (jH x1.gen) fun y10 => af (nC x1) fun y11 => af (nD x0 y10) fun y12 => cnd (ieq y12.snd 7) (af (lW x0 y10 [y11.a0,y11.a1,y11.a2,y11.a3,y11.a4,y11.a5,y11.a6,y11.a7,y11.a8,y11.a9,y11.a10,y11.a11,y11.a12,y11.a13,y11.a14,y11.a15,y11.a16,y11.a17,y11.a18,y11.a19]) fun y13 => cnd (aC (ieq y13.snd 0)) (some y13) (af (nG y13.fst y10) fun y14 => cnd (aC (ieq y14.snd 0)) (some y14) (some (y14.fst,0)))) (af (EW x0 y10 0) fun y15 => cnd (aC (ieq y15.snd 0)) (some y15) (af (lW y15.fst y10 [y11.a0,y11.a1,y11.a2,y11.a3,y11.a4,y11.a5,y11.a6,y11.a7,y11.a8,y11.a9,y11.a10,y11.a11,y11.a12,y11.a13,y11.a14,y11.a15,y11.a16,y11.a17,y11.a18,y11.a19]) fun y16 => cnd (aC (ieq y16.snd 0)) (some y16) (af (nG y16.fst y10) fun y17 => cnd (aC (ieq y17.snd 0)) (some y17) (some (y17.fst,0)))))))))
theorem SX:gu=ig:=by
 funext a0 a1
 unfold gu ig
 simp only[xC,CY,GN,JI,Wi]
def aW (p0:Int) (p1:(List ax)) (p2:Int) (v0:Int) (v1:bG):Option ((Int×bG) ⊕ ((bG))):=cnd (ilt v0 p0) (cnd (band (ile 0 v0) (ilt v0 (len p1))) (af (sJ (ah p1 (itn v0)).name) fun y0 => af (cnd y0 (dS p2) (some [])) fun y1 => cnd (band y0 (aC (seq (ah p1 (itn v0)).name y1))) (cnd (ieq v1.e 0) (af (yX v1.d (ah p1 (itn v0)).name) fun y2 => some (Sum.inl (wr .i64 (ak v0 1),bG.mk y2.fst y2.snd))) (some (Sum.inl (wr .i64 (ak v0 1),v1)))) (some (Sum.inl (wr .i64 (ak v0 1),v1)))) none) (some (Sum.inr v1))
theorem Jo:aO=aW:=by
 funext a0 a1 a2 a3 a4
 unfold aO aW
 simp only[GK]
def Aw (x0:ai) (x1:aj):Option (ai×Int×Int):=af (qP x1) fun y0 => cnd (aC (ieq y0.snd 0)) (some (x0,0,1)) (af (yF x0) fun y1 => cnd (ieq y1.snd 1) (some (x0,0,y1.snd)) (cnd (ieq y1.snd 9) (some (x0,0,y1.snd)) (cnd (ile 1000000000 y1.fst.gen) (some (x0,0,3)) (af (nD x0 [(UInt8.ofNat 116),(UInt8.ofNat 109),(UInt8.ofNat 112)]) fun y2 => cnd (ieq y2.snd 0) (af (yX x0 [(UInt8.ofNat 116),(UInt8.ofNat 109),(UInt8.ofNat 112)]) fun y3 => cnd (ieq y3.snd 0) (af (lW y3.fst [(UInt8.ofNat 116),(UInt8.ofNat 109),(UInt8.ofNat 112)] y0.fst) fun y4 => cnd (ieq y4.snd 0) (af (nG y4.fst [(UInt8.ofNat 116),(UInt8.ofNat 109),(UInt8.ofNat 112)]) fun y5 => cnd (ieq y5.snd 0) (af (dS (wr .i64 (ak y1.fst.gen 1))) fun y6 => af (lT y5.fst [(UInt8.ofNat 116),(UInt8.ofNat 109),(UInt8.ofNat 112)] y6) fun y7 => cnd (ieq y7.snd 0) (af (ig y7.fst (dD.mk (wr .i64 (ak y1.fst.gen 1)) x1.lsn)) fun y8 => af (bF (fun v => aW (len y8.fst.files) y8.fst.files (wr .i64 (ak y1.fst.gen 1)) v.fst v.snd) LF (0,bG.mk y8.fst y8.snd)) fun y9 => cnd (aC (ieq y9.e 0)) (some (y9.d,0,y9.e)) (some (y9.d,wr .i64 (ak y1.fst.gen 1),0))) (af (bF (fun v => aW (len y7.fst.files) y7.fst.files (wr .i64 (ak y1.fst.gen 1)) v.fst v.snd) LF (0,bG.mk y7.fst y7.snd)) fun y10 => cnd (aC (ieq y10.e 0)) (some (y10.d,0,y10.e)) (some (y10.d,wr .i64 (ak y1.fst.gen 1),0)))) (cnd (ieq y5.snd 0) (af (ig y5.fst (dD.mk (wr .i64 (ak y1.fst.gen 1)) x1.lsn)) fun y11 => af (bF (fun v => aW (len y11.fst.files) y11.fst.files (wr .i64 (ak y1.fst.gen 1)) v.fst v.snd) LF (0,bG.mk y11.fst y11.snd)) fun y12 => cnd (aC (ieq y12.e 0)) (some (y12.d,0,y12.e)) (some (y12.d,wr .i64 (ak y1.fst.gen 1),0))) (af (bF (fun v => aW (len y5.fst.files) y5.fst.files (wr .i64 (ak y1.fst.gen 1)) v.fst v.snd) LF (0,bG.mk y5.fst y5.snd)) fun y13 => cnd (aC (ieq y13.e 0)) (some (y13.d,0,y13.e)) (some (y13.d,wr .i64 (ak y1.fst.gen 1),0))))) (cnd (ieq y4.snd 0) (af (dS (wr .i64 (ak y1.fst.gen 1))) fun y14 => af (lT y4.fst [(UInt8.ofNat 116),(UInt8.ofNat 109),(UInt8.ofNat 112)] y14) fun y15 => cnd (ieq y15.snd 0) (af (ig y15.fst (dD.mk (wr .i64 (ak y1.fst.gen 1)) x1.lsn)) fun y16 => af (bF (fun v => aW (len y16.fst.files) y16.fst.files (wr .i64 (ak y1.fst.gen 1)) v.fst v.snd) LF (0,bG.mk y16.fst y16.snd)) fun y17 => cnd (aC (ieq y17.e 0)) (some (y17.d,0,y17.e)) (some (y17.d,wr .i64 (ak y1.fst.gen 1),0))) (af (bF (fun v => aW (len y15.fst.files) y15.fst.files (wr .i64 (ak y1.fst.gen 1)) v.fst v.snd) LF (0,bG.mk y15.fst y15.snd)) fun y18 => cnd (aC (ieq y18.e 0)) (some (y18.d,0,y18.e)) (some (y18.d,wr .i64 (ak y1.fst.gen 1),0)))) (cnd (ieq y4.snd 0) (af (ig y4.fst (dD.mk (wr .i64 (ak y1.fst.gen 1)) x1.lsn)) fun y19 => af (bF (fun v => aW (len y19.fst.files) y19.fst.files (wr .i64 (ak y1.fst.gen 1)) v.fst v.snd) LF (0,bG.mk y19.fst y19.snd)) fun y20 => cnd (aC (ieq y20.e 0)) (some (y20.d,0,y20.e)) (some (y20.d,wr .i64 (ak y1.fst.gen 1),0))) (af (bF (fun v => aW (len y4.fst.files) y4.fst.files (wr .i64 (ak y1.fst.gen 1)) v.fst v.snd) LF (0,bG.mk y4.fst y4.snd)) fun y21 => cnd (aC (ieq y21.e 0)) (some (y21.d,0,y21.e)) (some (y21.d,wr .i64 (ak y1.fst.gen 1),0)))))) (cnd (ieq y3.snd 0) (af (nG y3.fst [(UInt8.ofNat 116),(UInt8.ofNat 109),(UInt8.ofNat 112)]) fun y22 => cnd (ieq y22.snd 0) (af (dS (wr .i64 (ak y1.fst.gen 1))) fun y23 => af (lT y22.fst [(UInt8.ofNat 116),(UInt8.ofNat 109),(UInt8.ofNat 112)] y23) fun y24 => cnd (ieq y24.snd 0) (af (ig y24.fst (dD.mk (wr .i64 (ak y1.fst.gen 1)) x1.lsn)) fun y25 => af (bF (fun v => aW (len y25.fst.files) y25.fst.files (wr .i64 (ak y1.fst.gen 1)) v.fst v.snd) LF (0,bG.mk y25.fst y25.snd)) fun y26 => cnd (aC (ieq y26.e 0)) (some (y26.d,0,y26.e)) (some (y26.d,wr .i64 (ak y1.fst.gen 1),0))) (af (bF (fun v => aW (len y24.fst.files) y24.fst.files (wr .i64 (ak y1.fst.gen 1)) v.fst v.snd) LF (0,bG.mk y24.fst y24.snd)) fun y27 => cnd (aC (ieq y27.e 0)) (some (y27.d,0,y27.e)) (some (y27.d,wr .i64 (ak y1.fst.gen 1),0)))) (cnd (ieq y22.snd 0) (af (ig y22.fst (dD.mk (wr .i64 (ak y1.fst.gen 1)) x1.lsn)) fun y28 => af (bF (fun v => aW (len y28.fst.files) y28.fst.files (wr .i64 (ak y1.fst.gen 1)) v.fst v.snd) LF (0,bG.mk y28.fst y28.snd)) fun y29 => cnd (aC (ieq y29.e 0)) (some (y29.d,0,y29.e)) (some (y29.d,wr .i64 (ak y1.fst.gen 1),0))) (af (bF (fun v => aW (len y22.fst.files) y22.fst.files (wr .i64 (ak y1.fst.gen 1)) v.fst v.snd) LF (0,bG.mk y22.fst y22.snd)) fun y30 => cnd (aC (ieq y30.e 0)) (some (y30.d,0,y30.e)) (some (y30.d,wr .i64 (ak y1.fst.gen 1),0))))) (cnd (ieq y3.snd 0) (af (dS (wr .i64 (ak y1.fst.gen 1))) fun y31 => af (lT y3.fst [(UInt8.ofNat 116),(UInt8.ofNat 109),(UInt8.ofNat 112)] y31) fun y32 => cnd (ieq y32.snd 0) (af (ig y32.fst (dD.mk (wr .i64 (ak y1.fst.gen 1)) x1.lsn)) fun y33 => af (bF (fun v => aW (len y33.fst.files) y33.fst.files (wr .i64 (ak y1.fst.gen 1)) v.fst v.snd) LF (0,bG.mk y33.fst y33.snd)) fun y34 => cnd (aC (ieq y34.e 0)) (some (y34.d,0,y34.e)) (some (y34.d,wr .i64 (ak y1.fst.gen 1),0))) (af (bF (fun v => aW (len y32.fst.files) y32.fst.files (wr .i64 (ak y1.fst.gen 1)) v.fst v.snd) LF (0,bG.mk y32.fst y32.snd)) fun y35 => cnd (aC (ieq y35.e 0)) (some (y35.d,0,y35.e)) (some (y35.d,wr .i64 (ak y1.fst.gen 1),0)))) (cnd (ieq y3.snd 0) (af (ig y3.fst (dD.mk (wr .i64 (ak y1.fst.gen 1)) x1.lsn)) fun y36 => af (bF (fun v => aW (len y36.fst.files) y36.fst.files (wr .i64 (ak y1.fst.gen 1)) v.fst v.snd) LF (0,bG.mk y36.fst y36.snd)) fun y37 => cnd (aC (ieq y37.e 0)) (some (y37.d,0,y37.e)) (some (y37.d,wr .i64 (ak y1.fst.gen 1),0))) (af (bF (fun v => aW (len y3.fst.files) y3.fst.files (wr .i64 (ak y1.fst.gen 1)) v.fst v.snd) LF (0,bG.mk y3.fst y3.snd)) fun y38 => cnd (aC (ieq y38.e 0)) (some (y38.d,0,y38.e)) (some (y38.d,wr .i64 (ak y1.fst.gen 1),0))))))) (af (lW x0 [(UInt8.ofNat 116),(UInt8.ofNat 109),(UInt8.ofNat 112)] y0.fst) fun y39 => cnd (ieq y39.snd 0) (af (nG y39.fst [(UInt8.ofNat 116),(UInt8.ofNat 109),(UInt8.ofNat 112)]) fun y40 => cnd (ieq y40.snd 0) (af (dS (wr .i64 (ak y1.fst.gen 1))) fun y41 => af (lT y40.fst [(UInt8.ofNat 116),(UInt8.ofNat 109),(UInt8.ofNat 112)] y41) fun y42 => cnd (ieq y42.snd 0) (af (ig y42.fst (dD.mk (wr .i64 (ak y1.fst.gen 1)) x1.lsn)) fun y43 => af (bF (fun v => aW (len y43.fst.files) y43.fst.files (wr .i64 (ak y1.fst.gen 1)) v.fst v.snd) LF (0,bG.mk y43.fst y43.snd)) fun y44 => cnd (aC (ieq y44.e 0)) (some (y44.d,0,y44.e)) (some (y44.d,wr .i64 (ak y1.fst.gen 1),0))) (af (bF (fun v => aW (len y42.fst.files) y42.fst.files (wr .i64 (ak y1.fst.gen 1)) v.fst v.snd) LF (0,bG.mk y42.fst y42.snd)) fun y45 => cnd (aC (ieq y45.e 0)) (some (y45.d,0,y45.e)) (some (y45.d,wr .i64 (ak y1.fst.gen 1),0)))) (cnd (ieq y40.snd 0) (af (ig y40.fst (dD.mk (wr .i64 (ak y1.fst.gen 1)) x1.lsn)) fun y46 => af (bF (fun v => aW (len y46.fst.files) y46.fst.files (wr .i64 (ak y1.fst.gen 1)) v.fst v.snd) LF (0,bG.mk y46.fst y46.snd)) fun y47 => cnd (aC (ieq y47.e 0)) (some (y47.d,0,y47.e)) (some (y47.d,wr .i64 (ak y1.fst.gen 1),0))) (af (bF (fun v => aW (len y40.fst.files) y40.fst.files (wr .i64 (ak y1.fst.gen 1)) v.fst v.snd) LF (0,bG.mk y40.fst y40.snd)) fun y48 => cnd (aC (ieq y48.e 0)) (some (y48.d,0,y48.e)) (some (y48.d,wr .i64 (ak y1.fst.gen 1),0))))) (cnd (ieq y39.snd 0) (af (dS (wr .i64 (ak y1.fst.gen 1))) fun y49 => af (lT y39.fst [(UInt8.ofNat 116),(UInt8.ofNat 109),(UInt8.ofNat 112)] y49) fun y50 => cnd (ieq y50.snd 0) (af (ig y50.fst (dD.mk (wr .i64 (ak y1.fst.gen 1)) x1.lsn)) fun y51 => af (bF (fun v => aW (len y51.fst.files) y51.fst.files (wr .i64 (ak y1.fst.gen 1)) v.fst v.snd) LF (0,bG.mk y51.fst y51.snd)) fun y52 => cnd (aC (ieq y52.e 0)) (some (y52.d,0,y52.e)) (some (y52.d,wr .i64 (ak y1.fst.gen 1),0))) (af (bF (fun v => aW (len y50.fst.files) y50.fst.files (wr .i64 (ak y1.fst.gen 1)) v.fst v.snd) LF (0,bG.mk y50.fst y50.snd)) fun y53 => cnd (aC (ieq y53.e 0)) (some (y53.d,0,y53.e)) (some (y53.d,wr .i64 (ak y1.fst.gen 1),0)))) (cnd (ieq y39.snd 0) (af (ig y39.fst (dD.mk (wr .i64 (ak y1.fst.gen 1)) x1.lsn)) fun y54 => af (bF (fun v => aW (len y54.fst.files) y54.fst.files (wr .i64 (ak y1.fst.gen 1)) v.fst v.snd) LF (0,bG.mk y54.fst y54.snd)) fun y55 => cnd (aC (ieq y55.e 0)) (some (y55.d,0,y55.e)) (some (y55.d,wr .i64 (ak y1.fst.gen 1),0))) (af (bF (fun v => aW (len y39.fst.files) y39.fst.files (wr .i64 (ak y1.fst.gen 1)) v.fst v.snd) LF (0,bG.mk y39.fst y39.snd)) fun y56 => cnd (aC (ieq y56.e 0)) (some (y56.d,0,y56.e)) (some (y56.d,wr .i64 (ak y1.fst.gen 1),0))))))))))
theorem Sv:lI=Aw:=by
 funext a0 a1
 unfold lI Aw
 simp only[xC,CY,GK,GN,JI,Ro,SX,Jo]
def AP:Option (Bool):=af (LK 1 1 (dP.mk 9 9 99) 99) fun y0 => af (Om y0.fst (vT.mk 1 5 0 0 2 3 2 0 0 0 false 0 0)) fun y1 => af (AX (ai.mk [] 999 (-1) false)) fun y2 => af (Aw (ai.mk [] 999 (-1) false) y0.fst) fun y3 => af (Aw y3.fst y1.fst) fun y4 => af (AX y4.fst) fun y5 => af (cnd (band (band (band (band (band (band (ieq y2.snd.snd 7) (ieq y3.snd.snd 0)) (ieq y4.snd.snd 0)) (ieq y5.snd.snd 0)) (ieq y3.snd.fst 1)) (ieq y4.snd.fst 2)) (ieq y5.snd.fst 2)) (fJ y1.fst y5.fst) (some false)) fun y6 => af (cnd (band (band (band (band (band (band (band (band (band (ieq y2.snd.snd 7) (ieq y3.snd.snd 0)) (ieq y4.snd.snd 0)) (ieq y5.snd.snd 0)) (ieq y3.snd.fst 1)) (ieq y4.snd.fst 2)) (ieq y5.snd.fst 2)) y6) (ieq (len y5.fst.orders) 1)) (ieq (len y4.fst.files) 3)) (dS 7) (some [])) fun y7 => some (band (band (band (band (band (band (band (band (band (band (ieq y2.snd.snd 7) (ieq y3.snd.snd 0)) (ieq y4.snd.snd 0)) (ieq y5.snd.snd 0)) (ieq y3.snd.fst 1)) (ieq y4.snd.fst 2)) (ieq y5.snd.fst 2)) y6) (ieq (len y5.fst.orders) 1)) (ieq (len y4.fst.files) 3)) (seq y7 [(UInt8.ofNat 115),(UInt8.ofNat 110),(UInt8.ofNat 97),(UInt8.ofNat 112),(UInt8.ofNat 46),(UInt8.ofNat 48),(UInt8.ofNat 48),(UInt8.ofNat 48),(UInt8.ofNat 48),(UInt8.ofNat 48),(UInt8.ofNat 48),(UInt8.ofNat 48),(UInt8.ofNat 48),(UInt8.ofNat 48),(UInt8.ofNat 55)]))
theorem Hu:kZ=AP:=by
 unfold kZ AP
 simp only[XB,TW,Sv]
theorem alo:kZ=some true:=by rw[Hu];kernel_rfl
theorem alD {d:ai} (h:Tt d):jG d:=fun f hf=>ajh (h.files.1 f hf).data
theorem aiF {d:ai} (h:Tt d) (hs:d.files.length<=70/\∀f∈d.files,f.name.length<=100/\f.data.length<=70000):Ll d:=
 ⟨fun f hf=>by have:=(hs.2 f hf).1;omega,h.fuse⟩
theorem XZ {d:ai} (hb:jG d):uF (wM d).1:=by
 unfold wM
 split
 ·exact aei
 ·unfold aaJ
  split
  ·rename_i h
   obtain⟨h1,h2,h3,h4⟩:=alv h.1
   simp only
   rw[h4]
   exact Xu (RI hb _) h1
  ·exact aei
structure UpD (d:ai):Prop where
 right:iU d
 up:d.down=false
structure Yy (d e:ai) (c:Int):Prop where
 code:(c=0/\e.down=false)\/(c=9/\e.down=true/\d.fuse≠ -1)
 fuse:d.fuse= -1->e.fuse= -1
 keep:Keep d e
theorem Yy.up {d e:ai} {c:Int} (h:Yy d e c) (hc:c=0):UpD e:=⟨h.keep.right,by rcases h.code with g | g;exact g.2;rw[hc]at g;exact absurd g.1 (by decide)⟩
theorem Yy.cases {d e:ai} {c:Int} (h:Yy d e c):c=0\/(c=9/\e.down=true/\d.fuse≠ -1):=h.code.imp (·.1) id
theorem UpD.first {d:ai} (h:UpD d) {ns:List Nm} (hn:∀n∈ns,jU n):jl d ns=0:=kX.2 ⟨h.right,h.up,hn⟩
theorem OX {d:ai} (h:UpD d):((cO d).2=true/\(cO d).1.down=false)\/((cO d).2=false/\(cO d).1.down=true/\d.fuse≠ -1):=by
 have:=Qz d
 have hu:=h.up
 rcases this with ⟨h0,h1,h2,h3⟩ | ⟨h1,h2,h3,h4⟩
 ·exact .inr ⟨h3,h2,by omega⟩
 ·exact .inl ⟨h4,by rw[h3,hu]⟩
theorem F6 {d:ai} (h:d.fuse= -1):cO d=(d,true):=by unfold cO;rw[if_neg (by omega),if_pos h]
theorem Tj {d:ai} {n:Nm} {b:List Int} (h:UpD d) (hn:jU n):
 ((eX d n b).2=6/\(eX d n b).1=d/\(d.room<(fP d.files:Int)+(b.length:Int)\/(bJ d.files n=none/\64<=d.files.length)))\/
 (Yy d (eX d n b).1 (eX d n b).2/\(∀m,bJ (eX d n b).1.files m=if m=n then some ⟨n,((bJ d.files n).getD ⟨n,[],0⟩).data++b,((bJ d.files n).getD ⟨n,[],0⟩).sure⟩else bJ d.files m)/\
   fP (eX d n b).1.files=fP d.files+b.length/\(eX d n b).1.files.length<=d.files.length+1):=by
 have hk:=Dv (n:=n) (b:=b) h.right
 have h0:=h.first (Cm hn)
 unfold eX at hk ⊢
 rw[if_neg (fun g=>g h0)]at hk ⊢
 by_cases hc:d.room<(fP d.files:Int)+(b.length:Int)\/(bJ d.files n=none/\64<=d.files.length)
 ·rw[if_pos hc];exact .inl ⟨rfl,rfl,hc⟩
 rw[if_neg hc]at hk ⊢
 right
 obtain⟨i,o,hs⟩:=lJ h.right.asc (by have:=h.right.fl;omega) n
 generalize hF:(⟨n,((bJ d.files n).getD ⟨n,[],0⟩).data++b,((bJ d.files n).getD ⟨n,[],0⟩).sure⟩:ax)=F at hk ⊢
 have hFn:F.name=n:=by rw[<-hF]
 have g1:=hs.used F hFn
 have g2:=hs.long F hFn
 have hup:(DJ d F).down=false:=h.up
 have hold:F.data.length=OB o+b.length:=by
  rw[<-hF,<-hs.get]
  cases bJ d.files n<;>simp [OB]
 refine⟨⟨?_,?_,hk⟩,fun m=> ?_,?_,?_⟩
 ·have hsf:=Qz (DJ d F)
  rcases hsf with ⟨q0,q1,q2,q3⟩ | ⟨q1,q2,q3,q4⟩
  ·right;unfold ain;rw[q3];exact⟨rfl,q2,by have:d.fuse=0:=q0;omega⟩
  ·left;unfold ain;rw[q4];exact⟨rfl,by rw[q3];exact hup⟩
 ·intro hf
  rw[JH,F6 (show(DJ d F).fuse= -1 from hf)];exact hf
 ·rw[JH,bD]
  show bJ (qi F d.files) m=_
  rw[get_put,hFn]
 ·rw[JH,bD]
  show fP (qi F d.files)=_
  omega
 ·rw[JH,bD]
  show(qi F d.files).length<=_
  rw[g2];split<;>omega
theorem X0 {d:ai} {n:Nm} {f:ax} (h:UpD d) (hn:jU n) (hg:bJ d.files n=some f):
 Yy d (qC d n).1 (qC d n).2/\((qC d n).2=0->∀m,bJ (qC d n).1.files m=if m=n then some ⟨n,f.data,len f.data⟩else bJ d.files m)/\((qC d n).2≠0->(qC d n).1.files=d.files)/\
  fP (qC d n).1.files=fP d.files/\(qC d n).1.files.length=d.files.length:=by
 have hk:=OY (n:=n) h.right
 have h0:=h.first (Cm hn)
 unfold qC at hk ⊢
 rw[if_neg (fun g=>g h0),hg]at hk ⊢
 simp only at hk ⊢
 obtain⟨i,o,hs⟩:=lJ h.right.asc (by have:=h.right.fl;omega) n
 have g1:=hs.used ⟨n,f.data,len f.data⟩ rfl
 have g2:=hs.long ⟨n,f.data,len f.data⟩ rfl
 have ho:=hs.get
 rw[hg]at ho
 subst ho
 rcases OX h with ⟨q1,q2⟩ | ⟨q1,q2,q3⟩
 ·rw[if_pos q1]at hk ⊢
  refine⟨⟨.inl ⟨rfl,q2⟩,fun hf=> ?_,hk⟩,fun _ m=> ?_,fun g=>absurd rfl g,?_,?_⟩
  ·rw[F6 hf];exact hf
  ·show bJ (qi _ (cO d).1.files) m=_
   rw[bD,get_put]
  ·show fP (qi _ (cO d).1.files)=_
   rw[bD];simp only[OB]at g1;omega
  ·show(qi _ (cO d).1.files).length=_
   rw[bD,g2];simp
 ·rw[if_neg (by rw[q1];decide)]at hk ⊢
  refine⟨⟨.inr ⟨rfl,q2,q3⟩,fun hf=>absurd hf q3,hk⟩,fun g=>absurd g (show ¬(9:Int)=0 by decide),fun _=>bD d,?_,?_⟩
  ·rw[bD]
  ·rw[bD]
theorem TQ {d:ai} {n:Nm} {f:ax} (h:UpD d) (hn:jU n) (hg:bJ d.files n=some f):
 Yy d (kC d n).1 (kC d n).2/\((kC d n).2=0->∀m,bJ (kC d n).1.files m=if m=n then none else bJ d.files m)/\((kC d n).2≠0->(kC d n).1.files=d.files)/\
  fP (kC d n).1.files<=fP d.files/\(kC d n).1.files.length<=d.files.length:=by
 have hk:=IE (n:=n) h.right
 have h0:=h.first (Cm hn)
 unfold kC at hk ⊢
 rw[if_neg (fun g=>g h0),hg]at hk ⊢
 simp only at hk ⊢
 obtain⟨i,o,hs⟩:=lJ h.right.asc (by have:=h.right.fl;omega) n
 have g1:=hs.usedD
 have g2:=XC n d.files
 rcases OX h with ⟨q1,q2⟩ | ⟨q1,q2,q3⟩
 ·rw[if_pos q1]at hk ⊢
  refine⟨⟨.inl ⟨rfl,q2⟩,fun hf=> ?_,hk⟩,fun _ m=> ?_,fun g=>absurd rfl g,?_,?_⟩
  ·rw[F6 hf];exact hf
  ·show bJ (xE _ (cO d).1.files) m=_
   rw[bD,Xm]
  ·show fP (xE _ (cO d).1.files)<=_
   rw[bD];omega
  ·show(xE _ (cO d).1.files).length<=_
   rw[bD];exact g2
 ·rw[if_neg (by rw[q1];decide)]at hk ⊢
  refine⟨⟨.inr ⟨rfl,q2,q3⟩,fun hf=>absurd hf q3,hk⟩,fun g=>absurd g (show ¬(9:Int)=0 by decide),fun _=>bD d,?_,?_⟩
  ·rw[bD];exact Nat.le_refl _
  ·rw[bD];exact Nat.le_refl _
theorem abR {d:ai} {a b:Nm} {f:ax} (h:UpD d) (ha:jU a) (hb:jU b) (hg:bJ d.files a=some f):
 Yy d (kR d a b).1 (kR d a b).2/\((kR d a b).2=0->∀m,bJ (kR d a b).1.files m=if m=b then some ⟨b,f.data,f.sure⟩else if m=a then none else bJ d.files m)/\((kR d a b).2≠0->(kR d a b).1.files=d.files)/\
  fP (kR d a b).1.files<=fP d.files/\(kR d a b).1.files.length<=d.files.length:=by
 have hk:=OC (a:=a) (b:=b) h.right
 have h0:=h.first (ns:=[a,b]) (by intro n hn;simp at hn;rcases hn with rfl | rfl<;>assumption)
 unfold kR at hk ⊢
 rw[if_neg (fun g=>g h0),hg]at hk ⊢
 simp only at hk ⊢
 obtain⟨i,o,hs⟩:=lJ h.right.asc (by have:=h.right.fl;omega) a
 have g1:=hs.usedD
 have ho:=hs.get
 rw[hg]at ho
 subst ho
 have hd:=hs.del
 obtain⟨hil,-, -⟩:=hs.lt
 have hlen:(xE a d.files).length=d.files.length - 1:=by rw[<-hd,List.length_eraseIdx_of_lt hil]
 obtain⟨j,o2,hs2⟩:=lJ (acJ (n:=a) h.right.asc) (by have:=h.right.fl;omega) b
 have g3:=hs2.used ⟨b,f.data,f.sure⟩ rfl
 have g4:=hs2.long ⟨b,f.data,f.sure⟩ rfl
 rcases OX h with ⟨q1,q2⟩ | ⟨q1,q2,q3⟩
 ·rw[if_pos q1]at hk ⊢
  refine⟨⟨.inl ⟨rfl,q2⟩,fun hf=> ?_,hk⟩,fun _ m=> ?_,fun g=>absurd rfl g,?_,?_⟩
  ·rw[F6 hf];exact hf
  ·show bJ (qi _ (xE a (cO d).1.files)) m=_
   rw[bD,get_put,Xm]
  ·show fP (qi _ (xE a (cO d).1.files))<=_
   rw[bD];simp only[OB]at g1 g3;omega
  ·show(qi _ (xE a (cO d).1.files)).length<=_
   rw[bD,g4];split<;>omega
 ·rw[if_neg (by rw[q1];decide)]at hk ⊢
  refine⟨⟨.inr ⟨rfl,q2,q3⟩,fun hf=>absurd hf q3,hk⟩,fun g=>absurd g (show ¬(9:Int)=0 by decide),fun _=>bD d,?_,?_⟩
  ·rw[bD];exact Nat.le_refl _
  ·rw[bD];exact Nat.le_refl _
theorem ais {d:ai} {n:Nm} {f:ax} (h:UpD d) (hn:jU n) (hg:bJ d.files n=some f):
 Yy d (CU d n 0).1 (CU d n 0).2/\((CU d n 0).2=0->∀m,bJ (CU d n 0).1.files m=if m=n then some ⟨n,[],0⟩else bJ d.files m)/\((CU d n 0).2≠0->(CU d n 0).1.files=d.files)/\
  fP (CU d n 0).1.files<=fP d.files/\(CU d n 0).1.files.length=d.files.length:=by
 have hk:=Zq (n:=n) (k:=0) h.right
 have h0:=h.first (Cm hn)
 have hs0:=(YN h.right hg).1.2.1
 unfold CU at hk ⊢
 rw[if_neg (fun g=>g h0),hg]at hk ⊢
 simp only at hk ⊢
 have hno:¬((0:Int)<0\/len f.data<0):=by simp only[len];omega
 have hsu:(if (0:Int)<f.sure then 0 else f.sure)=0:=by split<;>omega
 rw[if_neg hno,hsu,show(0:Int).toNat=0 from rfl,List.take_zero]at hk ⊢
 obtain⟨i,o,hs⟩:=lJ h.right.asc (by have:=h.right.fl;omega) n
 have g1:=hs.used ⟨n,[],0⟩ rfl
 have g2:=hs.long ⟨n,[],0⟩ rfl
 have ho:=hs.get
 rw[hg]at ho
 subst ho
 rcases OX h with ⟨q1,q2⟩ | ⟨q1,q2,q3⟩
 ·rw[if_pos q1]at hk ⊢
  refine⟨⟨.inl ⟨rfl,q2⟩,fun hf=> ?_,hk⟩,fun _ m=> ?_,fun g=>absurd rfl g,?_,?_⟩
  ·rw[F6 hf];exact hf
  ·show bJ (qi _ (cO d).1.files) m=_
   rw[bD,get_put]
  ·show fP (qi _ (cO d).1.files)<=_
   rw[bD];simp only[OB,List.length_nil]at g1;omega
  ·show(qi _ (cO d).1.files).length=_
   rw[bD,g2];simp
 ·rw[if_neg (by rw[q1];decide)]at hk ⊢
  refine⟨⟨.inr ⟨rfl,q2,q3⟩,fun hf=>absurd hf q3,hk⟩,fun g=>absurd g (show ¬(9:Int)=0 by decide),fun _=>bD d,?_,?_⟩
  ·rw[bD];exact Nat.le_refl _
  ·rw[bD]
theorem af0:iE≠n0:=by decide
theorem afi:iE≠n1:=by decide
theorem Ig {g:Int} (h:uO g) {n:Nm} (hn:n.length≠15):iH g≠n:=fun e=>hn (by rw[<-e];exact UQ h)
theorem Xi (g:Int):(nmS g).length=6:=by unfold nmS;split<;>rfl
theorem ac3 (g:Int):nmS g≠iE:=fun e=>by have:=Xi g;rw[e]at this;exact absurd this (by decide)
theorem ahc:BD yJ iE=0:=by decide
theorem akT:BD yJ n0=0:=by decide
theorem akD:BD yJ n1=0:=by decide
theorem agC (g:Int):BD yJ (nmS g)=0:=by unfold nmS;split;exact akT;exact akD
structure CV (D x:ai):Prop where
 oth:∀n,n≠iE->bJ x.files n=bJ D.files n
structure UC (D:ai) (gen:Int) (b w:List Int) (x:ai):Prop where
 oth:∀n,n≠iE->n≠iH gen->n≠nmS gen->bJ x.files n=bJ D.files n
 snap:bJ x.files (iH gen)=some ⟨iH gen,b,len b⟩
 slot:bJ x.files (nmS gen)=bJ D.files (nmS gen)\/∃f,bJ x.files (nmS gen)=some f/\f.sure=0/\(f.data=[]\/f.data=w)
structure IZ (D:ai) (gen:Int) (b w:List Int) (x:ai):Prop where
 oth:∀n,n≠iE->n≠nmS gen->BD yJ n=0->bJ x.files n=bJ D.files n
 snap:bJ x.files (iH gen)=some ⟨iH gen,b,len b⟩
 slot:bJ x.files (nmS gen)=some ⟨nmS gen,w,len w⟩
 olds:∀n,BD yJ n≠0->n≠iH gen->bJ x.files n=none\/bJ x.files n=bJ D.files n
 tmp:bJ x.files iE=none
structure Ee (D x:ai) (m k:Nat):Prop where
 keep:Keep D x
 fuse:D.fuse= -1->x.fuse= -1
 used:fP x.files<=fP D.files+m
 long:x.files.length<=D.files.length+k
def aow (D:ai) (m:Nat):Prop:=D.room<(fP D.files:Int)+(m:Int)+20\/63<=D.files.length
def QI (D:ai) (m:Nat) (c:Int):Prop:=(c=6/\aow D m)\/(c=9/\D.fuse≠ -1)
theorem QI.ne {D:ai} {m:Nat} {c:Int} (h:QI D m c):c≠0:=by
 rcases h with ⟨h, -⟩ | ⟨h, -⟩<;>rw[h]<;>decide
theorem Ee.pow {D x y:ai} {m k m' k':Nat} {c:Int} (h:Ee D x m k) (p:Yy x y c) (hu:fP y.files<=fP D.files+m') (hl:y.files.length<=D.files.length+k'):Ee D y m' k':=
 ⟨h.keep.trans p.keep,fun hf=>p.fuse (h.fuse hf),hu,hl⟩
theorem Kz {D x y:ai} {m k:Nat} {c:Int} (h:Ee D x m k) (p:Yy x y c) (hc:c≠0) (mm:Nat):QI D mm c:=by
 rcases p.cases with g | ⟨g,-, g2⟩
 ·exact absurd g hc
 ·exact .inr ⟨g,fun hf=>g2 (h.fuse hf)⟩
theorem aoB {D:ai} (h:UpD D) (m:Nat):Ee D (xX D).1 0 0/\CV D (xX D).1/\(((xX D).2=0/\(xX D).1.down=false/\bJ (xX D).1.files iE=none)\/QI D m (xX D).2):=by
 have run0:Ee D D 0 0:=⟨Keep.refl h.right,id,Nat.le_refl _,Nat.le_refl _⟩
 unfold xX
 cases hg:bJ D.files iE with
 |none=>rw[if_pos rfl];exact⟨run0,⟨fun n _=>rfl⟩,.inl ⟨rfl,h.up,hg⟩⟩
 |some f=>
  rw[if_neg (by intro e;cases e)]
  obtain⟨hp,h1,h2,h3,h4⟩:=TQ h pU hg
  refine⟨run0.pow hp (by omega) (by omega),⟨fun n hn=> ?_⟩,?_⟩
  ·by_cases hc:(kC D iE).2=0
   ·rw[h1 hc n,if_neg hn]
   ·rw[h2 hc]
  ·by_cases hc:(kC D iE).2=0
   ·left;exact⟨hc,(hp.up hc).up,by rw[h1 hc,if_pos rfl]⟩
   ·right;exact Kz run0 hp hc m
theorem aoj {D:ai} {p:ai×Int} {b:List Int} (hr:Ee D p.1 0 0) (hA:CV D p.1) (hc:(p.2=0/\p.1.down=false/\bJ p.1.files iE=none)\/QI D b.length p.2):
 Ee D (kM p fun d=>eX d iE b).1 b.length 1/\CV D (kM p fun d=>eX d iE b).1/\
 (((kM p fun d=>eX d iE b).2=0/\(kM p fun d=>eX d iE b).1.down=false/\bJ (kM p fun d=>eX d iE b).1.files iE=some ⟨iE,b,0⟩)\/QI D b.length (kM p fun d=>eX d iE b).2):=by
 have hr1:Ee D p.1 b.length 1:=⟨hr.keep,hr.fuse,by have:=hr.used;omega,by have:=hr.long;omega⟩
 rcases hc with ⟨h0,hw,hg⟩ | hb
 case inr=>rw[iq hb.ne];exact⟨hr1,hA,.inr hb⟩
 rw[then_ok h0]
 have hu:UpD p.1:=⟨hr.keep.right,hw⟩
 rcases Tj (b:=b) hu pU with ⟨a1,a2,a3⟩ | ⟨a1,a2,a3,a4⟩
 ·refine⟨by rw[a2];exact hr1,by rw[a2];exact hA,.inr (.inl ⟨a1,?_⟩)⟩
  have:=hr.used;have:=hr.long;have:=hr.keep.room
  rcases a3 with g | ⟨-, g⟩
  ·left;omega
  ·right;omega
 ·refine⟨hr.pow a1 (by have:=hr.used;omega) (by have:=hr.long;omega),⟨fun n hn=> ?_⟩,?_⟩
  ·rw[a2,if_neg hn];exact hA.oth n hn
  ·by_cases hc:(eX p.1 iE b).2=0
   ·left;exact⟨hc,(a1.up hc).up,by rw[a2,if_pos rfl,hg];rfl⟩
   ·right;exact Kz hr a1 hc _
theorem aog {D:ai} {p:ai×Int} {b:List Int} (hr:Ee D p.1 b.length 1) (hA:CV D p.1) (hc:(p.2=0/\p.1.down=false/\bJ p.1.files iE=some ⟨iE,b,0⟩)\/QI D b.length p.2):
 Ee D (kM p fun d=>qC d iE).1 b.length 1/\CV D (kM p fun d=>qC d iE).1/\
 (((kM p fun d=>qC d iE).2=0/\(kM p fun d=>qC d iE).1.down=false/\bJ (kM p fun d=>qC d iE).1.files iE=some ⟨iE,b,len b⟩)\/QI D b.length (kM p fun d=>qC d iE).2):=by
 rcases hc with ⟨h0,hw,hg⟩ | hb
 case inr=>rw[iq hb.ne];exact⟨hr,hA,.inr hb⟩
 rw[then_ok h0]
 have hu:UpD p.1:=⟨hr.keep.right,hw⟩
 obtain⟨a1,a2,a3,a4,a5⟩:=X0 hu pU hg
 refine⟨hr.pow a1 (by have:=hr.used;omega) (by have:=hr.long;omega),⟨fun n hn=> ?_⟩,?_⟩
 ·by_cases hc:(qC p.1 iE).2=0
  ·rw[a2 hc,if_neg hn];exact hA.oth n hn
  ·rw[a3 hc];exact hA.oth n hn
 ·by_cases hc:(qC p.1 iE).2=0
  ·left;exact⟨hc,(a1.up hc).up,by rw[a2 hc,if_pos rfl]⟩
  ·right;exact Kz hr a1 hc _
structure Xg (D:ai) (gen:Int) (b:List Int) (x:ai):Prop where
 oth:∀n,n≠iE->n≠iH gen->bJ x.files n=bJ D.files n
 snap:bJ x.files (iH gen)=some ⟨iH gen,b,len b⟩
 tmp:bJ x.files iE=none
theorem walk3 {D:ai} {p:ai×Int} {b:List Int} {gen:Int} (hG:uO gen) (hr:Ee D p.1 b.length 1) (hA:CV D p.1) (hc:(p.2=0/\p.1.down=false/\bJ p.1.files iE=some ⟨iE,b,len b⟩)\/QI D b.length p.2):
 Ee D (kM p fun d=>kR d iE (iH gen)).1 b.length 1/\
 (((kM p fun d=>kR d iE (iH gen)).2=0/\(kM p fun d=>kR d iE (iH gen)).1.down=false/\Xg D gen b (kM p fun d=>kR d iE (iH gen)).1)\/
  (CV D (kM p fun d=>kR d iE (iH gen)).1/\QI D b.length (kM p fun d=>kR d iE (iH gen)).2)):=by
 rcases hc with ⟨h0,hw,hg⟩ | hb
 case inr=>rw[iq hb.ne];exact⟨hr,.inr ⟨hA,hb⟩⟩
 rw[then_ok h0]
 have hu:UpD p.1:=⟨hr.keep.right,hw⟩
 have hne:iH gen≠iE:=Ig hG (by decide)
 obtain⟨a1,a2,a3,a4,a5⟩:=abR hu pU (Nz hG) hg
 refine⟨hr.pow a1 (by have:=hr.used;omega) (by have:=hr.long;omega),?_⟩
 by_cases hc:(kR p.1 iE (iH gen)).2=0
 ·left
  refine⟨hc,(a1.up hc).up,⟨fun n h1 h2=> ?_,?_,?_⟩⟩
  ·rw[a2 hc,if_neg h2,if_neg h1];exact hA.oth n h1
  ·rw[a2 hc,if_pos rfl]
  ·rw[a2 hc,if_neg (Ne.symm hne),if_pos rfl]
 ·right
  exact⟨⟨fun n hn=>by rw[a3 hc];exact hA.oth n hn⟩,Kz hr a1 hc _⟩
theorem Xg.ct {D x:ai} {gen:Int} {b:List Int} (hG:uO gen) (h:Xg D gen b x) {n:Nm} (h1:n≠iE) (h2:n.length≠15):bJ x.files n=bJ D.files n:=h.oth n h1 (Ne.symm (Ig hG h2))
theorem walk4 {D:ai} {p:ai×Int} {b:List Int} {gen lsn:Int} (hD:UpD D) (hG:uO gen) (hs:yR ⟨gen,lsn⟩) (hgen:gen=(dU D).1.gen+1) (hr:Ee D p.1 b.length 1)
 (hc:(p.2=0/\p.1.down=false/\Xg D gen b p.1)\/(CV D p.1/\QI D b.length p.2)):
 Ee D (kM p fun d=>xZ d ⟨gen,lsn⟩).1 (b.length+20) 2/\
 (((kM p fun d=>xZ d ⟨gen,lsn⟩).2=0/\(kM p fun d=>xZ d ⟨gen,lsn⟩).1.down=false/\IZ D gen b (mD ⟨gen,lsn⟩) (kM p fun d=>xZ d ⟨gen,lsn⟩).1)\/
  ((CV D (kM p fun d=>xZ d ⟨gen,lsn⟩).1\/UC D gen b (mD ⟨gen,lsn⟩) (kM p fun d=>xZ d ⟨gen,lsn⟩).1)/\QI D b.length (kM p fun d=>xZ d ⟨gen,lsn⟩).2)):=by
 have hr1:Ee D p.1 (b.length+20) 2:=⟨hr.keep,hr.fuse,by have:=hr.used;omega,by have:=hr.long;omega⟩
 rcases hc with ⟨h0,hw,hB⟩ | ⟨hA,hb⟩
 case inr=>rw[iq hb.ne];exact⟨hr1,.inr ⟨.inl hA,hb⟩⟩
 rw[then_ok h0]
 have hu:UpD p.1:=⟨hr.keep.right,hw⟩
 generalize p.1=x at hr hr1 hB hu ⊢
 clear h0 hw
 have c0:ctF x.files n0=ctF D.files n0:=by unfold ctF;rw[hB.ct hG (Ne.symm af0) (by decide)]
 have c1:ctF x.files n1=ctF D.files n1:=by unfold ctF;rw[hB.ct hG (Ne.symm afi) (by decide)]
 obtain⟨r1,r2⟩:=zH hu.right hu.up
 obtain⟨q1,q2⟩:=zH hD.right hD.up
 have hz:jO x.files=jO D.files:=by unfold jO;rw[c0,c1]
 have hn1:(dU x).2≠1:=by rcases r2 with ⟨g, -⟩ | ⟨g, -⟩<;>rw[g]<;>decide
 have hn9:(dU x).2≠9:=by rcases r2 with ⟨g, -⟩ | ⟨g, -⟩<;>rw[g]<;>decide
 have hw:xZ x ⟨gen,lsn⟩=afT x (nmS gen) (mD ⟨gen,lsn⟩):=by
  unfold xZ
  rw[if_neg (fun g=>g.elim (fun g=>g hs) hn1),if_neg hn9,if_neg (fun g=>g (by simp only;rw[r1,hz,<-q1];exact hgen))]
 rw[hw]
 have hnm:=aaP gen
 have hwl:=Fh ⟨gen,lsn⟩
 generalize mD ⟨gen,lsn⟩=w at hwl ⊢
 have hsl:=hB.ct hG (ac3 gen) (by rw[Xi];decide)
 have hne:iH gen≠nmS gen:=Ig hG (by rw[Xi];decide)
 have s0:Ee D (rZ x (nmS gen)).1 b.length 1/\(∀n,n≠nmS gen->bJ (rZ x (nmS gen)).1.files n=bJ x.files n)/\
  (((rZ x (nmS gen)).2=0/\(rZ x (nmS gen)).1.down=false/\(bJ (rZ x (nmS gen)).1.files (nmS gen)=none\/bJ (rZ x (nmS gen)).1.files (nmS gen)=some ⟨nmS gen,[],0⟩))\/
   (QI D b.length (rZ x (nmS gen)).2))/\(bJ (rZ x (nmS gen)).1.files (nmS gen)=bJ x.files (nmS gen)\/bJ (rZ x (nmS gen)).1.files (nmS gen)=some ⟨nmS gen,[],0⟩):=by
  unfold rZ
  cases hg:bJ x.files (nmS gen)with
  |none=>rw[if_pos rfl];exact⟨hr,fun _ _=>rfl,.inl ⟨rfl,hu.up,.inl hg⟩,.inl hg⟩
  |some f=>
   rw[if_neg (by intro e;cases e)]
   obtain⟨a1,a2,a3,a4,a5⟩:=ais hu hnm hg
   refine⟨hr.pow a1 (by have:=hr.used;omega) (by have:=hr.long;omega),fun n hn=> ?_,?_,?_⟩
   ·by_cases hc:(CU x (nmS gen) 0).2=0
    ·rw[a2 hc,if_neg hn]
    ·rw[a3 hc]
   ·by_cases hc:(CU x (nmS gen) 0).2=0
    ·left;exact⟨hc,(a1.up hc).up,.inr (by rw[a2 hc,if_pos rfl])⟩
    ·right;exact Kz hr a1 hc _
   ·by_cases hc:(CU x (nmS gen) 0).2=0
    ·right;rw[a2 hc,if_pos rfl]
    ·left;rw[a3 hc];exact hg
 obtain⟨s1,s2,s3,s4⟩:=s0
 unfold afT
 generalize rZ x (nmS gen)=y at s1 s2 s3 s4 ⊢
 have toB:∀z:ai,(∀n,n≠nmS gen->bJ z.files n=bJ x.files n)->(bJ z.files (nmS gen)=bJ x.files (nmS gen)\/∃f,bJ z.files (nmS gen)=some f/\f.sure=0/\(f.data=[]\/f.data=w))->UC D gen b w z:=fun z g1 g2=>
  ⟨fun n h1 h2 h3=>by rw[g1 n h3];exact hB.oth n h1 h2,by rw[g1 _ hne];exact hB.snap,g2.imp (fun g=>by rw[g,hsl]) id⟩
 have s4':bJ y.1.files (nmS gen)=bJ x.files (nmS gen)\/∃f,bJ y.1.files (nmS gen)=some f/\f.sure=0/\(f.data=[]\/f.data=w):=s4.imp id fun g=>⟨_,g,rfl,.inl rfl⟩
 have s1':Ee D y.1 (b.length+20) 2:=⟨s1.keep,s1.fuse,by have:=s1.used;omega,by have:=s1.long;omega⟩
 rcases s3 with ⟨g0,gw,gs⟩ | gb
 case inr=>
  rw[iq gb.ne,iq gb.ne]
  exact⟨s1',.inr ⟨.inr (toB _ s2 s4'),gb⟩⟩
 rw[then_ok (p:=y) g0]
 have hyu:UpD y.1:=⟨s1.keep.right,gw⟩
 have hold:(bJ y.1.files (nmS gen)).getD ⟨nmS gen,[],0⟩=⟨nmS gen,[],0⟩:=by
  rcases gs with g | g<;>rw[g]<;>rfl
 rcases Tj (b:=w) hyu hnm with ⟨a1,a2,a3⟩ | ⟨a1,a2,a3,a4⟩
 ·rw[iq (by rw[a1];decide)]
  refine⟨by rw[a2];exact s1',.inr ⟨.inr (by rw[a2];exact toB _ s2 s4'),.inl ⟨a1,?_⟩⟩⟩
  have:=s1.used;have:=s1.long;have:=s1.keep.room
  rcases a3 with g | ⟨-, g⟩
  ·left;omega
  ·right;omega
 rw[hold]at a2
 simp only[List.nil_append]at a2
 have t1:Ee D (eX y.1 (nmS gen) w).1 (b.length+20) 2:=s1.pow a1 (by have:=s1.used;omega) (by have:=s1.long;omega)
 have t2:∀n,n≠nmS gen->bJ (eX y.1 (nmS gen) w).1.files n=bJ x.files n:=fun n hn=>by rw[a2,if_neg hn];exact s2 n hn
 have t3:bJ (eX y.1 (nmS gen) w).1.files (nmS gen)=some ⟨nmS gen,w,0⟩:=by rw[a2,if_pos rfl]
 by_cases hc:(eX y.1 (nmS gen) w).2=0
 case neg=>
  rw[iq hc]
  exact⟨t1,.inr ⟨.inr (toB _ t2 (.inr ⟨_,t3,rfl,.inr rfl⟩)),Kz s1 a1 hc _⟩⟩
 rw[then_ok hc]
 have hzu:=a1.up hc
 obtain⟨b1,b2,b3,b4,b5⟩:=X0 hzu hnm t3
 have u1:Ee D (qC (eX y.1 (nmS gen) w).1 (nmS gen)).1 (b.length+20) 2:=t1.pow b1 (by have:=t1.used;omega) (by have:=t1.long;omega)
 refine⟨u1,?_⟩
 by_cases hc2:(qC (eX y.1 (nmS gen) w).1 (nmS gen)).2=0
 ·left
  refine⟨hc2,(b1.up hc2).up,⟨fun n h1 h2 h3=> ?_,?_,?_,fun n h1 h2=> .inr ?_,?_⟩⟩
  ·rw[b2 hc2,if_neg h2,t2 n h2]
   by_cases e:n=iH gen
   ·rw[e,UU hG]at h3;unfold uO at hG;omega
   ·exact hB.oth n h1 e
  ·rw[b2 hc2,if_neg hne,t2 _ hne];exact hB.snap
  ·rw[b2 hc2,if_pos rfl]
  ·have hns:n≠nmS gen:=fun e=>h1 (by rw[e];exact agC gen)
   have hnt:n≠iE:=fun e=>h1 (by rw[e];exact ahc)
   rw[b2 hc2,if_neg hns,t2 n hns];exact hB.oth n hnt h2
  ·rw[b2 hc2,if_neg (Ne.symm (ac3 gen)),t2 _ (Ne.symm (ac3 gen))];exact hB.tmp
 ·right
  exact⟨.inr (toB _ (fun n hn=>by rw[b3 hc2];exact t2 n hn) (.inr ⟨_,by rw[b3 hc2];exact t3,rfl,.inr rfl⟩)),Kz t1 b1 hc2 _⟩
theorem aaQ {l:List ax} {f:ax} (h:Je (f::l)):∀g∈l,g.name≠f.name:=fun g hg=>(NY ((List.pairwise_cons.1 h).1 g hg)).symm
theorem get_mem {l:List ax} (h:Je l) {f:ax} (hf:f∈l):bJ l f.name=some f:=by
 induction l with
 |nil=>cases hf
 |cons g l ih=>
  rw[oD]
  rcases List.mem_cons.1 hf with rfl | hf
  ·rw[if_pos rfl]
  ·rw[if_neg (fun e=>aaQ h f hf e.symm)]
   exact ih (List.pairwise_cons.1 h).2 hf
theorem QA {D:ai} {gen:Int} {b w:List Int} {M K:Nat} (hG:uO gen):∀(l:List ax) (p:ai×Int),Je l->(∀f∈l,jU f.name)->Ee D p.1 M K->p.2=0->p.1.down=false->IZ D gen b w p.1->
 (∀f∈l,BD yJ f.name≠0->f.name≠iH gen->bJ p.1.files f.name≠none)->
 Ee D (nK gen p l).1 M K/\IZ D gen b w (nK gen p l).1/\
 (((nK gen p l).2=0/\(nK gen p l).1.down=false/\(∀f∈l,BD yJ f.name≠0->f.name≠iH gen->bJ (nK gen p l).1.files f.name=none)/\(∀n,bJ p.1.files n=none->bJ (nK gen p l).1.files n=none))\/
  ((nK gen p l).2=9/\D.fuse≠ -1))
 |[],p,_,_,hr,h0,hw,hC,_=>⟨hr,hC,.inl ⟨h0,hw,fun f hf=>(by cases hf),fun n h=>h⟩⟩
 |f::l,p,ha,hn,hr,h0,hw,hC,hp=>by
  rw[afZ]
  have hal:=(List.pairwise_cons.1 ha).2
  have hnl:∀g∈l,jU g.name:=fun g hg=>hn g (List.mem_cons_of_mem _ hg)
  by_cases hs:BD yJ f.name≠0/\f.name≠iH gen
  case neg=>
   have e:CZ gen p f=p:=by unfold CZ;rw[if_neg hs]
   rw[e]
   obtain⟨g1,g2,g3⟩:=QA hG l p hal hnl hr h0 hw hC (fun g hg=>hp g (List.mem_cons_of_mem _ hg))
   refine⟨g1,g2,g3.imp (fun⟨q1,q2,q3,q4⟩=>⟨q1,q2,fun g hg h1 h2=> ?_,q4⟩) id⟩
   rcases List.mem_cons.1 hg with rfl | hg
   ·exact absurd ⟨h1,h2⟩ hs
   ·exact q3 g hg h1 h2
  have hu:UpD p.1:=⟨hr.keep.right,hw⟩
  have hne:=hp f (List.mem_cons_self ..) hs.1 hs.2
  obtain⟨k,hk⟩:∃k,bJ p.1.files f.name=some k:=by
   cases h:bJ p.1.files f.name with
   |none=>exact absurd h hne
   |some k=>exact⟨k,rfl⟩
  obtain⟨a1,a2,a3,a4,a5⟩:=TQ hu (hn f (List.mem_cons_self ..)) hk
  have e:CZ gen p f=kC p.1 f.name:=by unfold CZ;rw[if_pos hs,then_ok h0]
  rw[e]
  have hr1:Ee D (kC p.1 f.name).1 M K:=hr.pow a1 (by have:=hr.used;omega) (by have:=hr.long;omega)
  have hf0:f.name≠iE:=fun g=>hs.1 (by rw[g];exact ahc)
  have hfS:f.name≠nmS gen:=fun g=>hs.1 (by rw[g];exact agC gen)
  by_cases hc:(kC p.1 f.name).2=0
  ·have get:=a2 hc
   have hC1:IZ D gen b w (kC p.1 f.name).1:=by
    refine⟨fun n h1 h2 h3=> ?_,?_,?_,fun n h1 h2=> ?_,?_⟩
    ·rw[get,if_neg (fun g=>hs.1 (by rw[<-g];exact h3))];exact hC.oth n h1 h2 h3
    ·rw[get,if_neg (Ne.symm hs.2)];exact hC.snap
    ·rw[get,if_neg (Ne.symm hfS)];exact hC.slot
    ·rw[get];split
     ·exact .inl rfl
     ·exact hC.olds n h1 h2
    ·rw[get,if_neg (Ne.symm hf0)];exact hC.tmp
   obtain⟨g1,g2,g3⟩:=QA hG l (kC p.1 f.name) hal hnl hr1 hc (a1.up hc).up hC1 (fun g hg h1 h2=>by
    rw[get,if_neg (aaQ ha g hg)]
    exact hp g (List.mem_cons_of_mem _ hg) h1 h2)
   refine⟨g1,g2,g3.imp (fun⟨q1,q2,q3,q4⟩=>⟨q1,q2,fun g hg h1 h2=> ?_,fun n hn2=>q4 n ?_⟩) id⟩
   ·rcases List.mem_cons.1 hg with rfl | hg
    ·exact q4 _ (by rw[get,if_pos rfl])
    ·exact q3 g hg h1 h2
   ·rw[get];split
    ·rfl
    ·exact hn2
  ·rw[Uo hc]
   have get:=a3 hc
   refine⟨hr1,?_,.inr ?_⟩
   ·exact⟨fun n h1 h2 h3=>by rw[get];exact hC.oth n h1 h2 h3,by rw[get];exact hC.snap,by rw[get];exact hC.slot,fun n h1 h2=>by rw[get];exact hC.olds n h1 h2,by rw[get];exact hC.tmp⟩
   ·rcases a1.cases with g | ⟨g,-, g2⟩
    ·exact absurd g hc
    ·exact⟨g,fun hf=>g2 (hr.fuse hf)⟩
structure ajM (D:ai) (gen:Int) (b w:List Int) (r:ai×Int×Int):Prop where
 run:Ee D r.1 (b.length+20) 2
 how:(r.2.2=0/\r.2.1=gen/\r.1.down=false/\IZ D gen b w r.1/\∀n,BD yJ n≠0->n≠iH gen->bJ r.1.files n=none)\/
  (r.2.1=0/\QI D b.length r.2.2/\(CV D r.1\/UC D gen b w r.1\/IZ D gen b w r.1))
theorem afu {D:ai} {s:aj} (hD:UpD D) (hs:lZ s) (hg:(dU D).1.gen<1000000000) (hl:0<=s.lsn/\s.lsn<=1000000000):
 ajM D ((dU D).1.gen+1) (encZ s) (mD ⟨(dU D).1.gen+1,s.lsn⟩) (uM D s):=by
 have hgr:=OJ D
 obtain⟨q1,q2⟩:=zH hD.right hD.up
 have hn1:(dU D).2≠1:=by rcases q2 with ⟨g, -⟩ | ⟨g, -⟩<;>rw[g]<;>decide
 have hn9:(dU D).2≠9:=by rcases q2 with ⟨g, -⟩ | ⟨g, -⟩<;>rw[g]<;>decide
 have hsave:uM D s=Z5 ((dU D).1.gen+1) (nK ((dU D).1.gen+1) (zB D ((dU D).1.gen+1) s.lsn (encZ s)) (zB D ((dU D).1.gen+1) s.lsn (encZ s)).1.files):=by
  unfold uM
  rw[if_neg (fun g=>g.elim (fun g=>g hs) hn1),if_neg hn9,if_neg (by omega)]
 rw[hsave]
 have hG:uO ((dU D).1.gen+1):=⟨by omega,by omega⟩
 have hsl:yR ⟨(dU D).1.gen+1,s.lsn⟩:=⟨hG.1,hG.2,hl.1,hl.2⟩
 have w0:=aoB hD (encZ s).length
 have w1:=aoj (b:=encZ s) w0.1 w0.2.1 w0.2.2
 have w2:=aog w1.1 w1.2.1 w1.2.2
 have w3:=walk3 hG w2.1 w2.2.1 w2.2.2
 have w4:=walk4 hD hG hsl rfl w3.1 w3.2
 change Ee D (zB D ((dU D).1.gen+1) s.lsn (encZ s)).1 _ _/\(((zB D ((dU D).1.gen+1) s.lsn (encZ s)).2=0/\(zB D ((dU D).1.gen+1) s.lsn (encZ s)).1.down=false/\IZ D _ _ _ (zB D ((dU D).1.gen+1) s.lsn (encZ s)).1)\/((CV D (zB D ((dU D).1.gen+1) s.lsn (encZ s)).1\/UC D _ _ _ (zB D ((dU D).1.gen+1) s.lsn (encZ s)).1)/\QI D _ (zB D ((dU D).1.gen+1) s.lsn (encZ s)).2))at w4
 generalize (dU D).1.gen+1=gen at hG w4 ⊢
 generalize zB D gen s.lsn (encZ s)=p at w4 ⊢
 generalize encZ s=b at w4 ⊢
 obtain⟨hr,hc⟩:=w4
 rcases hc with ⟨h0,hw,hC⟩ | ⟨hAB,hb⟩
 case inr=>
  rw[Uo hb.ne]
  unfold Z5
  rw[if_pos hb.ne]
  exact⟨hr,.inr ⟨rfl,hb,hAB.imp id .inl⟩⟩
 obtain⟨g1,g2,g3⟩:=QA hG p.1.files p hr.keep.right.asc (fun f hf=>(hr.keep.right.2.1.1 f hf).1) hr h0 hw hC (fun f hf _ _=>by rw[get_mem hr.keep.right.asc hf];intro e;cases e)
 generalize hq:nK gen p p.1.files=q at g1 g2 g3 ⊢
 rcases g3 with ⟨k1,k2,k3,k4⟩ | ⟨k1,k2⟩
 ·unfold Z5
  rw[if_neg (fun g=>g k1)]
  refine⟨g1,.inl ⟨rfl,rfl,k2,g2,fun n h1 h2=> ?_⟩⟩
  show bJ q.1.files n=none
  cases hp:bJ p.1.files n with
  |none=>exact k4 n hp
  |some f=>
   obtain⟨m1,m2⟩:=J5 hp
   have:=k3 f m1 (by rw[m2];exact h1) (by rw[m2];exact h2)
   rwa[m2]at this
 ·unfold Z5
  rw[if_pos (by rw[k1];decide)]
  exact⟨g1,.inr ⟨rfl,.inr ⟨k1,k2⟩,.inr (.inr g2)⟩⟩
theorem Zb:∀(l:List ax) (F:Nat->ax->ax),(∀i f,(F i f).name=f.name)->∀n,(bJ l n=none->bJ (l.mapIdx F) n=none)/\∀k,bJ l n=some k->∃i,bJ (l.mapIdx F) n=some (F i k)
 |[],F,hF,n=>⟨fun _=>rfl,fun k h=>by cases h⟩
 |g::l,F,hF,n=>by
  rw[List.mapIdx_cons,oD,oD,hF 0 g]
  have ih:=Zb l (fun i=>F (i+1)) (fun i f=>hF (i+1) f) n
  by_cases h:g.name=n
  ·rw[if_pos h,if_pos h]
   exact⟨fun e=>(by cases e),fun k e=>⟨0,by rw[<-Option.some.inj e]⟩⟩
  ·rw[if_neg h,if_neg h]
   exact⟨ih.1,fun k e=>by obtain⟨i,hi⟩:=ih.2 k e;exact⟨i+1,hi⟩⟩
theorem VF:∀(l:List ax) (F:Nat->ax->ax),(∀i,∀f∈l,(F i f).data.length<=f.data.length)->fP (l.mapIdx F)<=fP l
 |[],F,_=>Nat.le_refl _
 |g::l,F,h=>by
  rw[List.mapIdx_cons,CJ,CJ]
  have:=VF l (fun i=>F (i+1)) (fun i f hf=>h (i+1) f (List.mem_cons_of_mem _ hf))
  have:=h 0 g (List.mem_cons_self ..)
  omega
theorem aff {l:List ax} {F:Nat->ax->ax} (hF:∀i f,(F i f).name=f.name) (h:Je l):Je (l.mapIdx F):=by
 unfold Je at h ⊢
 rw[List.pairwise_iff_getElem]at h ⊢
 intro i j hi hj hij
 rw[List.length_mapIdx]at hi hj
 rw[List.getElem_mapIdx,List.getElem_mapIdx,hF,hF]
 exact h i j hi hj hij
theorem XU {f:ax} (h:okF f) (k:Int):∃m:Nat,f.sure<=(m:Int)/\m<=f.data.length/\DR f k=⟨f.name,f.data.take m,(m:Int)⟩:=by
 have g:=agH h.2.1 h.2.2 k
 refine⟨(f.sure+kH (imax k 0) (len f.data - f.sure)).toNat,by have:=h.2.1;omega,by simp only[len]at g ⊢; omega,?_⟩
 unfold DR
 have e:(((f.sure+kH (imax k 0) (len f.data - f.sure)).toNat:Nat):Int)=f.sure+kH (imax k 0) (len f.data - f.sure):=by have:=h.2.1;omega
 rw[e]
structure TP (D:ai):Prop where
 up:UpD D
 sure:∀n f,bJ D.files n=some f->f.sure=len f.data
structure LV (x b:ai) (fuse:Int):Prop where
 base:TP b
 fz:b.fuse=fuse
 room:b.room=x.room
 non:∀n,bJ x.files n=none->bJ b.files n=none
 som:∀n k,bJ x.files n=some k->∃m:Nat,k.sure<=(m:Int)/\m<=k.data.length/\bJ b.files n=some ⟨n,k.data.take m,(m:Int)⟩
 used:fP b.files<=fP x.files
 long:b.files.length=x.files.length
theorem ag3 {x:ai} {keep:List Int} {fuse:Int} (h:iU x) (hf: -1<=fuse):(LQ x keep fuse).2=0/\LV x (LQ x keep fuse).1 fuse:=by
 unfold LQ
 rw[if_pos ⟨h,hf⟩]
 refine⟨rfl,?_⟩
 have hF:∀(i:Nat) (f:ax),(DR f (BI keep i)).name=f.name:=fun i f=>rfl
 have hget:=fun n=>Zb x.files (fun i f=>DR f (BI keep i)) hF n
 have hs:∀n k,bJ x.files n=some k->∃m:Nat,k.sure<=(m:Int)/\m<=k.data.length/\bJ (x.files.mapIdx fun i f=>DR f (BI keep i)) n=some ⟨n,k.data.take m,(m:Int)⟩:=fun n k hk=>by
  obtain⟨i,hi⟩:=(hget n).2 k hk
  obtain⟨hok,hn⟩:=YN h hk
  obtain⟨m,m1,m2,m3⟩:=XU hok (BI keep i)
  exact⟨m,m1,m2,by rw[hi,m3,hn]⟩
 have hmem:∀f∈(x.files.mapIdx fun i f=>DR f (BI keep i)),∃k∈x.files,∃i,f=DR k (BI keep i):=fun f hf=>by
  obtain⟨i,hi,rfl⟩:=List.mem_iff_getElem.1 hf
  rw[List.length_mapIdx]at hi
  rw[List.getElem_mapIdx]
  exact⟨_,List.getElem_mem hi,i,rfl⟩
 have hu:=VF x.files (fun i f=>DR f (BI keep i)) (fun i f hf=>by
  obtain⟨m,m1,m2,m3⟩:=XU (h.2.1.1 f hf) (BI keep i)
  rw[m3];simp only[List.length_take];omega)
 have hr:iU ⟨x.files.mapIdx fun i f=>DR f (BI keep i),x.room,fuse,false⟩:=by
  have h1:=h.1
  refine⟨⟨h1.1,h1.2.1,hf,by simp only[List.length_mapIdx];exact h1.2.2.2⟩,⟨fun f hfm=> ?_,aff hF h.asc⟩,?_⟩
  ·obtain⟨k,hk,i,rfl⟩:=hmem f hfm
   obtain⟨m,m1,m2,m3⟩:=XU (h.2.1.1 k hk) (BI keep i)
   rw[m3]
   exact⟨(h.2.1.1 k hk).1,by simp only;omega,by simp only[len,List.length_take];omega⟩
  ·have:=h.2.2;simp only;omega
 refine⟨⟨⟨hr,rfl⟩,fun n f hg=> ?_⟩,rfl,rfl,fun n hn=>(hget n).1 hn,hs,hu,by simp only[List.length_mapIdx]⟩
 cases hx:bJ x.files n with
 |none=>rw[(hget n).1 hx]at hg;cases hg
 |some k=>
  obtain⟨m,m1,m2,m3⟩:=hs n k hx
  rw[m3]at hg
  rw[<-Option.some.inj hg]
  simp only[len,List.length_take];omega
theorem abe {x:ai} {keep:List Int} {fuse:Int} (h:jG x):jG (LQ x keep fuse).1:=by
 unfold LQ
 split
 ·intro f hf
  obtain⟨i,hi,rfl⟩:=List.mem_iff_getElem.1 hf
  simp only[List.length_mapIdx]at hi
  simp only[List.getElem_mapIdx]
  exact(h _ (List.getElem_mem hi)).take _
 ·exact h
theorem LV.ct {x b:ai} {fuse:Int} (h:LV x b fuse) {n:Nm} (hs:∀k,bJ x.files n=some k->k.sure=len k.data):ctF b.files n=ctF x.files n:=by
 unfold ctF
 cases hx:bJ x.files n with
 |none=>rw[h.non n hx]
 |some k=>
  obtain⟨m,m1,m2,m3⟩:=h.som n k hx
  rw[m3]
  have:=hs k hx
  simp only[len]at this
  have e:m=k.data.length:=by omega
  simp only[e,List.take_length]
theorem akA {s:dD} (h:yR s):slD (mD s)=(s,0):=by
 have h16:(mD s).take 16=oG s:=by unfold mD;rw[List.take_append_of_le_length (by rw[JV];exact Nat.le_refl _),List.take_of_length_le (by rw[JV];exact Nat.le_refl _)]
 have hd:(mD s).drop 16=qB (wY (oG s)):=by unfold mD;rw[List.drop_append_of_le_length (by rw[JV];exact Nat.le_refl _),List.drop_eq_nil_of_le (by rw[JV];exact Nat.le_refl _),List.nil_append]
 have e:atS (mD s)=s:=by
  unfold atS at8
  have t1:((mD s).drop 0).take 8=rU s.gen 8:=by
   unfold mD oG
   rw[List.drop_zero,List.append_assoc,List.take_append_of_le_length (by rw[ru];exact Nat.le_refl _),List.take_of_length_le (by rw[ru];exact Nat.le_refl _)]
  have t2:((mD s).drop 8).take 8=rU s.lsn 8:=by
   unfold mD oG
   rw[List.append_assoc,List.drop_append_of_le_length (by rw[ru];exact Nat.le_refl _),List.drop_eq_nil_of_le (by rw[ru];exact Nat.le_refl _),List.nil_append,List.take_append_of_le_length (by rw[ru];exact Nat.le_refl _),List.take_of_length_le (by rw[ru];exact Nat.le_refl _)]
  obtain⟨h1,h2,h3,h4⟩:=h
  rw[t1,t2,agp ⟨by omega,by omega⟩,agp ⟨by omega,by omega⟩]
 unfold slD
 rw[if_neg (fun g=>g (Fh s)),h16,hd,if_neg (fun g=>g rfl),e,if_pos h]
theorem aam {b:List Int} (h:b.length≠20):(slD b).2≠0:=by unfold slD;rw[if_pos h];decide
theorem ad8 {best:dD} {p:Int} {c:List Int} (h:(slD c).2≠0):pz best p c=best:=by unfold pz;rw[if_neg (fun g=>h g.1)]
theorem ad2 (best:dD) (p:Int) (c:List Int):best.gen<=(pz best p c).gen:=by
 unfold pz;split
 ·rename_i h;omega
 ·exact Int.le_refl _
theorem ah3 (c:List Int):(pz ⟨0,0⟩ 0 c).gen%2=0:=by
 unfold pz;split
 ·rename_i h;exact h.2.1
 ·rfl
theorem ahB {c0 c0' c1:List Int} (h:(rM c0 c1).gen%2=1) (hc:(slD c0').2≠0):rM c0' c1=rM c0 c1:=by
 unfold rM at h ⊢
 rw[ad8 hc]
 have p0:=ah3 c0
 have g0:=ad2 ⟨0,0⟩ 0 c0
 generalize pz ⟨0,0⟩ 0 c0=s0 at h p0 g0 ⊢
 unfold pz at h ⊢
 split at h
 ·rename_i k
  rw[if_pos k,if_pos ⟨k.1,k.2.1,by have:=k.2.2;simp only at g0 ⊢; omega⟩]
 ·rw[h]at p0;exact absurd p0 (by decide)
theorem akF {c0 c1 c1':List Int} (h:(rM c0 c1).gen%2=0) (hc:(slD c1').2≠0):rM c0 c1'=rM c0 c1:=by
 unfold rM at h ⊢
 rw[ad8 hc]
 generalize pz ⟨0,0⟩ 0 c0=s0 at h ⊢
 unfold pz at h ⊢
 split
 ·rename_i k
  rw[if_pos k,k.2.1]at h;exact absurd h (by decide)
 ·rfl
theorem ahJ (c0 c1:List Int) (h:(slD c1).2=0/\(slD c1).1.gen%2=1):(slD c1).1.gen<=(rM c0 c1).gen:=by
 unfold rM
 generalize pz ⟨0,0⟩ 0 c0=s0
 unfold pz
 split
 ·exact Int.le_refl _
 ·rename_i k
  by_cases e:s0.gen<(slD c1).1.gen
  ·exact absurd ⟨h.1,h.2,e⟩ k
  ·omega
theorem ZL {c0 c1 w:List Int} {s:dD} (hw:slD w=(s,0)) (hp:1<=s.gen) (h2:s.gen%2=0) (hlt:(rM c0 c1).gen<s.gen):rM w c1=s:=by
 have e0:pz ⟨0,0⟩ 0 w=s:=by unfold pz;rw[hw,if_pos ⟨rfl,h2,by simp only;omega⟩]
 unfold rM
 rw[e0]
 unfold pz
 rw[if_neg]
 rintro⟨g1,g2,g3⟩
 have:=ahJ c0 c1 ⟨g1,g2⟩
 omega
theorem abW {c0 c1 w:List Int} {s:dD} (hw:slD w=(s,0)) (h2:s.gen%2=1) (hlt:(rM c0 c1).gen<s.gen):rM c0 w=s:=by
 have g:=ad2 (pz ⟨0,0⟩ 0 c0) 1 c1
 unfold rM at hlt ⊢
 generalize pz ⟨0,0⟩ 0 c0=s0 at g hlt ⊢
 unfold pz at hlt g ⊢
 rw[hw,if_pos ⟨rfl,h2,by simp only;omega⟩]
theorem acP {b:ai} (h:UpD b):wM b=if (jO b.files).gen=0 then (zS,0,7)else aaJ (ctF b.files (iH (jO b.files).gen)) (jO b.files):=by
 obtain⟨h1,h2⟩:=zH h.right h.up
 unfold wM
 rcases h2 with ⟨g,e⟩ | ⟨g,e⟩
 ·rw[g,if_pos (by decide),if_pos e]
 ·rw[g,if_neg (by decide),h1,if_neg (by omega)]
theorem ahk {D b:ai} (hD:UpD D) (hb:UpD b) (hs:jO b.files=jO D.files) (hc:(jO D.files).gen≠0->ctF b.files (iH (jO D.files).gen)=ctF D.files (iH (jO D.files).gen)):wM b=wM D:=by
 rw[acP hb,acP hD,hs]
 by_cases h:(jO D.files).gen=0
 ·rw[if_pos h,if_pos h]
 ·rw[if_neg h,if_neg h,hc h]
theorem Xw {b:ai} {s:aj} {gen:Int} (hb:UpD b) (hr:jX s) (hs:lZ s) (hl:(encZ s).length<99999) (hz:jO b.files=⟨gen,s.lsn⟩) (hG:uO gen) (hc:ctF b.files (iH gen)=encZ s):wM b=(s,gen,0):=by
 rw[acP hb,hz,if_neg (by simp only;unfold uO at hG;omega)]
 simp only
 rw[hc]
 unfold aaJ
 rw[ajp hr hs hl,if_pos ⟨rfl,rfl⟩]
theorem amG {l k:List ax} {n:Nm} (h:bJ l n=bJ k n):ctF l n=ctF k n:=by unfold ctF;rw[h]
theorem LV.same {D x b:ai} {fuse:Int} (hb:LV x b fuse) (hD:TP D) {n:Nm} (h:bJ x.files n=bJ D.files n):ctF b.files n=ctF D.files n:=by
 rw[hb.ct (fun k hk=>hD.sure n k (by rw[<-h];exact hk)),amG h]
theorem LV.full {x b:ai} {fuse:Int} (hb:LV x b fuse) {n:Nm} {c:List Int} (h:bJ x.files n=some ⟨n,c,len c⟩):ctF b.files n=c:=by
 rw[hb.ct (fun k hk=>by rw[h]at hk;rw[<-Option.some.inj hk])]
 unfold ctF;rw[h]
theorem aki {D x b:ai} {fuse:Int} (hD:TP D) (hA:CV D x) (hb:LV x b fuse):wM b=wM D:=by
 have c:∀n,n≠iE->ctF b.files n=ctF D.files n:=fun n hn=>hb.same hD (hA.oth n hn)
 refine ahk hD.up hb.base.up ?_ fun hne=> ?_
 ·unfold jO;rw[c _ (Ne.symm af0),c _ (Ne.symm afi)]
 ·by_cases hg:uO (jO D.files).gen
  ·exact c _ (Ig hg (by decide))
  ·have:=O4 (ctF D.files n0) (ctF D.files n1)
   exact absurd ⟨by unfold jO at hne ⊢; omega,by unfold jO;exact this.2⟩ hg
theorem Vp {D b:ai} {gen lsn:Int} (hs:yR ⟨gen,lsn⟩) (hgen:gen=(jO D.files).gen+1) (ho:∀n,n=n0\/n=n1->n≠nmS gen->ctF b.files n=ctF D.files n) (hw:ctF b.files (nmS gen)=mD ⟨gen,lsn⟩):jO b.files=⟨gen,lsn⟩:=by
 have hsl:=akA hs
 have hlt:(jO D.files).gen<gen:=by omega
 unfold jO at hlt ⊢
 unfold nmS at ho hw
 by_cases he:gen%2=0
 ·rw[if_pos he]at ho hw
  rw[hw,ho n1 (.inr rfl) (Ne.symm (NY n01))]
  exact ZL (c0:=ctF D.files n0) hsl hs.1 he hlt
 ·rw[if_neg he]at ho hw
  rw[hw,ho n0 (.inl rfl) (NY n01)]
  exact abW (c1:=ctF D.files n1) hsl (by simp only;omega) hlt
theorem aiM {D b:ai} {gen:Int} (hgen:gen=(jO D.files).gen+1) (ho:∀n,n=n0\/n=n1->n≠nmS gen->ctF b.files n=ctF D.files n) (hw:ctF b.files (nmS gen)=ctF D.files (nmS gen)\/(slD (ctF b.files (nmS gen))).2≠0):jO b.files=jO D.files:=by
 unfold jO at hgen ⊢
 unfold nmS at ho hw
 by_cases he:gen%2=0
 ·rw[if_pos he]at ho hw
  rw[ho n1 (.inr rfl) (Ne.symm (NY n01))]
  rcases hw with g | g
  ·rw[g]
  ·exact ahB (by omega) g
 ·rw[if_neg he]at ho hw
  rw[ho n0 (.inl rfl) (NY n01)]
  rcases hw with g | g
  ·rw[g]
  ·exact akF (by omega) g
structure adP (D:ai) (s:aj) (gen:Int):Prop where
 base:TP D
 ok:jX s
 right:lZ s
 short:(encZ s).length<99999
 gn:uO gen
 next:gen=(jO D.files).gen+1
theorem adP.slot {D:ai} {s:aj} {gen:Int} (h:adP D s gen):yR ⟨gen,s.lsn⟩:=⟨h.gn.1,h.gn.2,h.right.fine.lsn.1,h.right.fine.lsn.2⟩
theorem acB {gen:Int} (hG:uO gen) {n:Nm} (hn:n=n0\/n=n1):n≠iE/\n≠iH gen/\BD yJ n=0:=by
 rcases hn with rfl | rfl
 ·exact⟨Ne.symm af0,Ne.symm (Ig hG (by decide)),akT⟩
 ·exact⟨Ne.symm afi,Ne.symm (Ig hG (by decide)),akD⟩
theorem ajD {D x b:ai} {s:aj} {gen fuse:Int} (h:adP D s gen) (hC:IZ D gen (encZ s) (mD ⟨gen,s.lsn⟩) x) (hb:LV x b fuse):wM b=(s,gen,0):=by
 refine Xw hb.base.up h.ok h.right h.short ?_ h.gn (hb.full hC.snap)
 refine Vp h.slot h.next (fun n hn hne=> ?_) (hb.full hC.slot)
 obtain⟨g1,g2,g3⟩:=acB h.gn hn
 exact hb.same h.base (hC.oth n g1 hne g3)
theorem ana {D x b:ai} {s:aj} {gen fuse:Int} (h:adP D s gen) (hB:UC D gen (encZ s) (mD ⟨gen,s.lsn⟩) x) (hb:LV x b fuse):wM b=wM D\/wM b=(s,gen,0):=by
 have ho:∀n,n=n0\/n=n1->n≠nmS gen->ctF b.files n=ctF D.files n:=fun n hn hne=>by
  obtain⟨g1,g2,g3⟩:=acB h.gn hn
  exact hb.same h.base (hB.oth n g1 g2 hne)
 have hcase:(ctF b.files (nmS gen)=ctF D.files (nmS gen)\/(slD (ctF b.files (nmS gen))).2≠0)\/ctF b.files (nmS gen)=mD ⟨gen,s.lsn⟩:=by
  rcases hB.slot with g | ⟨f,g1,g2,g3⟩
  ·exact .inl (.inl (hb.same h.base g))
  ·obtain⟨m,m1,m2,m3⟩:=hb.som _ f g1
   have e:ctF b.files (nmS gen)=f.data.take m:=by unfold ctF;rw[m3]
   rw[e]
   rcases g3 with g3 | g3
   ·rw[g3];left;right;exact aam (by simp)
   ·rw[g3]at m2 ⊢
    rw[Fh]at m2
    by_cases hm:m=20
    ·right;rw[hm];exact List.take_of_length_le (by rw[Fh];exact Nat.le_refl _)
    ·left;right;exact aam (by rw[List.length_take,Fh];omega)
 rcases hcase with g | g
 ·left
  refine ahk h.base.up hb.base.up (aiM h.next ho g) fun hne=> ?_
  have hgr:=O4 (ctF D.files n0) (ctF D.files n1)
  have hg:uO (jO D.files).gen:=⟨by unfold jO at hne ⊢; omega,by unfold jO;exact hgr.2⟩
  refine hb.same h.base (hB.oth _ (Ig hg (by decide)) ?_ (Ig hg (by rw[Xi];decide)))
  intro e
  have:=akM hg h.gn e
  have:=h.next
  omega
 ·right
  exact Xw hb.base.up h.ok h.right h.short (Vp h.slot h.next ho g) h.gn (hb.full hB.snap)
theorem aj1 {D x b:ai} {s:aj} {gen fuse:Int} (h:adP D s gen) (hx:CV D x\/UC D gen (encZ s) (mD ⟨gen,s.lsn⟩) x\/IZ D gen (encZ s) (mD ⟨gen,s.lsn⟩) x) (hb:LV x b fuse):wM b=wM D\/wM b=(s,gen,0):=by
 rcases hx with g | g | g
 ·exact .inl (aki h.base g hb)
 ·exact ana h g hb
 ·exact .inr (ajD h g hb)
theorem aiA {D x:ai} {s:aj} {gen:Int} (h:adP D s gen) (hu:UpD x) (hC:IZ D gen (encZ s) (mD ⟨gen,s.lsn⟩) x):wM x=(s,gen,0):=by
 refine Xw hu h.ok h.right h.short ?_ h.gn (by unfold ctF;rw[hC.snap])
 refine Vp h.slot h.next (fun n hn hne=> ?_) (by unfold ctF;rw[hC.slot])
 obtain⟨g1,g2,g3⟩:=acB h.gn hn
 exact amG (hC.oth n g1 hne g3)
theorem aio {s:aj} (h:lZ s):(encZ s).length<99999:=by
 have h1:=JO s
 have h2:=h.few
 omega
inductive Yz (D:ai) (s:aj):Prop
 |over (h:uM D s=(D,0,3)) (hg:1000000000<=(dU D).1.gen)
 |new (gen:Int) (hn:adP D s gen) (h:ajM D gen (encZ s) (mD ⟨gen,s.lsn⟩) (uM D s))
theorem ae0 {D:ai} {s:aj} (hD:TP D) (hr:jX s) (hs:lZ s):Yz D s:=by
 obtain⟨q1,q2⟩:=zH hD.up.right hD.up.up
 have hgr:=OJ D
 by_cases hg:(dU D).1.gen<1000000000
 ·refine .new ((dU D).1.gen+1) ⟨hD,hr,hs,aio hs,⟨by omega,by omega⟩,by rw[q1]⟩ (afu hD.up hs hg hs.fine.lsn)
 ·have hn1:(dU D).2≠1:=by rcases q2 with ⟨g, -⟩ | ⟨g, -⟩<;>rw[g]<;>decide
  have hn9:(dU D).2≠9:=by rcases q2 with ⟨g, -⟩ | ⟨g, -⟩<;>rw[g]<;>decide
  refine .over ?_ (by omega)
  unfold uM
  rw[if_neg (fun g=>g.elim (fun g=>g hs) hn1),if_neg hn9,if_pos (by omega)]
theorem Yz.keep {D:ai} {s:aj} (hD:TP D) (h:Yz D s):Keep D (uM D s).1:=by
 cases h with
 |over h hg=>rw[h];exact Keep.refl hD.up.right
 |new gen hn h=>exact h.run.keep
theorem Yz.load {D b:ai} {s:aj} {fuse:Int} (hD:TP D) (h:Yz D s) (hb:LV (uM D s).1 b fuse):
 (wM b=wM D/\(uM D s).2.2≠0)\/(∃gen,adP D s gen/\wM b=(s,gen,0)/\((uM D s).2.1=0\/(uM D s).2.1=gen)/\((uM D s).2.2=0->(uM D s).2.1=gen)):=by
 cases h with
 |over h hg=>
  rw[h]at hb
  left
  exact⟨aki hD ⟨fun n _=>rfl⟩ hb,by rw[h];show ¬(3:Int)=0;decide⟩
 |new gen hn h=>
  rcases h.how with ⟨h1,h2,h3,h4,h5⟩ | ⟨h1,h2,h3⟩
  ·exact .inr ⟨gen,hn,ajD hn h4 hb,.inr h2,fun _=>h2⟩
  ·rcases aj1 hn h3 hb with g | g
   ·exact .inl ⟨g,h2.ne⟩
   ·exact .inr ⟨gen,hn,g,.inl h1,fun e=>absurd e h2.ne⟩
theorem Yz.calm {D:ai} {s:aj} (hD:TP D) (hf:D.fuse= -1) (h:Yz D s):
 (uM D s).2.2=3\/(uM D s).2.2=6\/((uM D s).2.2=0/\∃gen,wM (uM D s).1=(s,gen,0)):=by
 cases h with
 |over h hg=>left;rw[h]
 |new gen hn h=>
  rcases h.how with ⟨h1,h2,h3,h4,h5⟩ | ⟨h1,h2,h3⟩
  ·exact .inr (.inr ⟨h1,gen,aiA hn ⟨h.run.keep.right,h3⟩ h4⟩)
  ·rcases h2 with ⟨g, -⟩ | ⟨g,g2⟩
   ·exact .inr (.inl g)
   ·exact absurd hf g2
theorem abn {D:ai} {s:aj} (hb:jG D):jG (uM D s).1:=by
 unfold uM
 split
 ·exact hb
 ·split
  ·exact hb
  ·split
   ·exact hb
   ·have:=Za (gen:=(dU D).1.gen+1) (zB D ((dU D).1.gen+1) s.lsn (encZ s)).1.files (afK (gen:=(dU D).1.gen+1) (lsn:=s.lsn) hb (zT s))
    unfold Z5
    split<;>exact this
theorem acK {s:aj} (hr:jX s) (hsh:uF s):Wq (jT s) fun b=>b=true↔lZ s:=
 ET s hr (by unfold uF at hsh;omega) (by unfold uF at hsh;omega) (by unfold uF at hsh;omega)
theorem akw {d:ai} {keep:List Int} {fuse:Int} (h:(LQ d keep fuse).2=0):iU d/\ -1<=fuse:=by
 unfold LQ at h
 split at h
 ·assumption
 ·exact absurd h (show ¬(1:Int)=0 by decide)
theorem ah5 {n m:Int} (h:inU n) (hm:m=12\/m=10):I4 (wr .i64 n) m=n%m/\0<=n%m/\n%m<=11:=by
 unfold inU at h
 rw[dX (by omega) (by omega)]
 unfold I4
 rw[Int.tmod_eq_emod_of_nonneg (by omega)]
 rcases hm with rfl | rfl<;>omega
theorem ae3 {D b y:ai} {s:aj} (hsh:uF s) (hr:jX s) (hbnd:Ll b) (hby:jG b) (hb:TP b) (hf:b.fuse= -1) (hs:lZ s):
 Wq (af (lI b s) fun y11 => af (kP y11.fst) fun y12 => af (cnd (band (aC (band (aC (ieq y11.snd.snd 0)) (bor (ieq y11.snd.snd 6) (ieq y11.snd.snd 3)))) (band (ieq y11.snd.snd 0) (ieq y12.snd.snd 0))) (fJ y12.fst s) (some false)) fun y13 => some (bor (band (aC (ieq y11.snd.snd 0)) (bor (ieq y11.snd.snd 6) (ieq y11.snd.snd 3))) (band (band (ieq y11.snd.snd 0) (ieq y12.snd.snd 0)) y13))) fun x=>x=true:=by
 have hsd:=ae0 hb hr hs
 have hk:=hsd.keep hb
 rw[Tq hbnd hby hr hsh,aA,KJ (hk.bnd hbnd.fu) (abn hby),aA]
 rcases hsd.calm hb hf with g | g | ⟨g,gen,g2⟩
 ·rw[g]
  simp only[show ieq 3 0=false from rfl,show ieq 3 3=true from rfl,show ieq 3 6=false from rfl,dG,aaL,qH,dF,wQ,bU,aA,uX]
  rw[au]
 ·rw[g]
  simp only[show ieq 6 0=false from rfl,show ieq 6 6=true from rfl,dG,uX,qH,dF,wQ,bU,aA]
  rw[au]
 ·rw[g,g2]
  simp only[Ap,dF,wQ,dG,qH,cu,UX hsh,aA,lS]
  rw[au]
theorem WX (x0:ai) (x1:aj) (x2:Int) (x3:List Int) (k0:Tt x0) (k1:jX x1) (k2:inU x2) (k3:okL Ba x3):l7 x0 x1 x2 x3=some true:=by
 refine Wq.eq ?_
 unfold l7
 rw[alo,aA,dF,bU]
 refine(ahu x0 k0.files).bind fun y1 h1=> ?_
 refine Wq.bind (Q:=fun b=>(y1=true->b=true->uF x1)) ?_ fun y2 h2=> ?_
 ·rw[lq]
  exact⟨fun _=>(als x1).mono fun b hb _=>hb,fun h=>(au _).2 fun _ h=>by cases h⟩
 refine Wq.bind (Q:=fun b=>b=true->((y1=true/\y2=true)/\x3.length<=9)/\lZ x1) ?_ fun y3 h3=> ?_
 ·rw[lq]
  refine⟨fun h=> ?_,fun h=>(au _).2 fun h=>by cases h⟩
  simp only[bH,dH,dZ,fE,bM,bQ,eH,fG,dO,fK,bZ,dw,fO,fQ,len]at h
  refine(acK k1 (h2 h.1.1 h.1.2)).mono fun b hb e=>⟨⟨h.1,by omega⟩,hb.1 e⟩
 rw[lq]
 refine⟨fun _=>(au _).2 rfl,fun h=> ?_⟩
 simp only[fE,bQ]at h
 obtain⟨⟨⟨e1,e2⟩,e4⟩,hR⟩:=h3 h.2
 have hd:=h1 e1
 have hs:=h2 e1 e2
 have hbnd:=aiF k0 hd
 have hby:=alD k0
 obtain⟨f1,f2,f3⟩:=ah5 (m:=12) k2 (.inl rfl)
 rw[f1,ajs hbnd (by simp),aA,lH,lU]
 by_cases hb0:(LQ x0 [65536] (x2%12)).2=0
 case neg=>rw[if_neg hb0,au]
 rw[if_pos hb0]
 obtain⟨hd0,hf0⟩:=akw hb0
 obtain⟨-, hB⟩:=ag3 (keep:=[65536]) hd0 hf0
 have hbyD:=abe (keep:=[65536]) (fuse:=x2%12) hby
 generalize (LQ x0 [65536] (x2%12)).1=D at hB hbyD ⊢
 have hD:=hB.base
 have hfD:inI D.fuse:=by rw[hB.fz];exact⟨by omega,by omega⟩
 have hbD:=hD.up.right.bnd hfD
 have hsd:=ae0 hD k1 hR
 have hk:=hsd.keep hD
 rw[KJ hbD hbyD,aA,Tq hbD hbyD k1 hs,aA,ajs (hk.bnd hfD) (by omega),aA]
 obtain⟨hb1,hB1⟩:=ag3 (keep:=x3) (fuse:= -1) hk.right (by decide)
 have hbyB:=abe (keep:=x3) (fuse:= -1) (abn (s:=x1) hbyD)
 rw[hb1]
 have hload:=hsd.load hD hB1
 generalize (LQ (uM D x1).1 x3 (-1)).1=b at hB1 hbyB hload ⊢
 have hbB:=hB1.base.up.right.bnd (by rw[hB1.fz];decide)
 rw[KJ hbB hbyB,aA,Ap,dF,bU]
 have hsb:=XZ hbyB
 have hsD:=XZ hbyD
 have tail:=ae3 (D:=D) (y:=b) hs k1 hbB hbyB hB1.base hB1.fz hR
 rcases hload with ⟨g1,g2⟩ | ⟨gen,hn,g1,g2,g3⟩
 ·rw[g1]at hsb ⊢
  refine Wq.bind (Q:=fun _=>True) ?_ fun y9 _=> ?_
  ·rw[lq]
   exact⟨fun _=>(ae6 hsb).mono fun _ _=>trivial,fun _=>(au _).2 trivial⟩
  rw[adl,adl,qH,cu,UX hsD,aA,qH]
  have e:ieq (uM D x1).2.2 0=false:=by rw[dw];exact g2
  rw[e,wQ,lS,dF,VS,bU]
  exact tail
 ·rw[g1]
  simp only
  rw[Ap,cu,UX hs,aA]
  refine Wq.bind (Q:=fun _=>True) ?_ fun y10 _=> ?_
  ·rw[lq]
   exact⟨fun _=>(ae6 hs).mono fun _ _=>trivial,fun _=>(au _).2 trivial⟩
  have e:bor (ieq (uM D x1).2.1 0) (ieq gen (uM D x1).2.1)=true:=by
   simp only[dZ,bZ]
   rcases g2 with g | g
   ·exact .inl g
   ·exact .inr g.symm
  rw[e,qH,qH,dF,VS,wQ,lS,bU]
  exact tail
end Go.Av
