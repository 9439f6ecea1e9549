/- For every input the law StoreRow returns true, and each argument reads behind the call as it read before, where the package-level variables hold what the text of the program lays; the card ties that to the text. No other condition. -/
import Derived.Test.YtkndbmahpiebkaaGreatDoorPStoreRow2
import Derived.Test.YtkndbmahpiebkaaGreatDoorAvE
import Derived.Test.YtkndbmahpiebkaaGreatDoorRows
import Derived.Test.YtkndbmahpiebkaaGreatDoorTie
import Derived.Test.YtkndbmahpiebkaaGreatDoorCards
import Derived.ProofKit
import Derived.OpenShut
import Derived.ShutString
import Derived.ChangeOld
import Derived.Below
import Derived.LaidMore
import Derived.LaidLaws
import Derived.LaidHandle
import Derived.MakeChecks
import Derived.Stop.Joined
import Derived.Lib.LaidTab
import Derived.SevenTiedAt
import Derived.KernelRfl
namespace Go.Proofs.YtkndbmahpiebkaaGreatDoor
open Go Go.ChangeShapes Go.WideShapes Go.ChangeAt Go.RowKit
set_option linter.unusedVariables false
theorem ownK:ownKnob Tryz.prog.godebug=none:=by kernel_rfl
theorem laidO:laidOutB Tryz.prog=true:=by kernel_rfl
theorem iface_of_trod {H:Type} {enc:TypeId×Value->H} {P:Program} {w:World} {base:Nat} {sp:Nat->Bool} {held:Bool} {fuel:Nat} {t:TypeId} {cs:List Value} {n:String} {x:DataW H} {p:List MemPlace}
 (ht:∃ms,P.underlying t=some (.interface ms)) (h:DataW.trod enc P w base sp held fuel t cs=some (.iface n x,p)):∃u v,cs=[.iface u v]:=by
 obtain⟨ms,ht⟩:=ht
 cases fuel with
 |zero=>simp [DataW.trod]at h
 |succ fuel=>
  simp only[DataW.trod,ht]at h
  split at h<;>first | exact⟨_,_,rfl⟩ | (cases h) | simp_all
theorem heap_of_var {P:Program} {w:World} {n:String} {g:Nat} {cs:Array Value} (hg:P.globalNamed n=some g) (h:w.var? P n=some cs):g<w.heap.size/\∃c t fr,w.heap[g]? =some (.cells c t fr)/\c=cs:=by
 unfold World.var? at h
 rw[hg,Option.bind_some]at h
 split at h
 ·rename_i c t fr hc
  refine⟨?_,c,t,fr,hc,Option.some.inj h⟩
  rcases Nat.lt_or_ge g w.heap.size with k | k
  ·exact k
  ·rw[Array.getElem?_eq_none k]at hc;cases hc
 ·cases h
theorem door_met (os:Os) (args:Array Value):laidMetH Tryz.prog Rows.storeRowRow.laid ((World.doorLaid Tryz.prog 400 os).forCall (fun _ _=>0) ⟨#[],args,[]⟩).memory:=
 laidMetH_of_parts3 (fuel:=8) (laidMet_of_run' 8 (by kernel_rfl) (by kernel_rfl)) (by kernel_rfl) (by kernel_rfl)
theorem glob_of_laid {W:World} (h:laidMetH Tryz.prog Rows.storeRowRow.laid W):Go.Av.Bq (fun b=>b<W.heap.size) W.heap:=by
 rw[MakeChecks.laidMetH_plain _ _ _ (by kernel_rfl)]at h
 obtain⟨ps,⟨g0,t0,cs0,f0,p0,q0,hg0,ht0,hv0,hd0,⟨g1,t1,cs1,f1,p1,q1,hg1,ht1,hv1,hd1,⟨g2,t2,cs2,f2,p2,q2,hg2,ht2,hv2,hd2,⟨g3,t3,cs3,f3,p3,q3,hg3,ht3,hv3,hd3,⟨g4,t4,cs4,f4,p4,q4,hg4,ht4,hv4,hd4,_,_⟩,_⟩,_⟩,_⟩,_⟩,_,_⟩:=h
 obtain rfl:=Option.some.inj ((show Tryz.prog.globalNamed "internal/strconv.uint64pow10" =some 0 by kernel_rfl).symm.trans hg2)
 obtain rfl:=Option.some.inj ((show(Tryz.prog.globals[0]?).map (·.type)=some 260 by kernel_rfl).symm.trans ht2)
 have e2:cs2.toList=Lib.pow10Tab.map fun z=>Value.int .u64 z:=Lib.cells_of_tab (show Tryz.prog.underlying 260=some (.array 20 219) by kernel_rfl) (show Tryz.prog.underlying 219=some (.int .u64) by kernel_rfl) (by kernel_rfl) (by kernel_rfl) (show DataW.trod (fun _=>()) Tryz.prog W 0 (fun _=>true) false f2 260 cs2.toList=some (Lib.tabData .u64 Lib.pow10Tab,p2)from hd2)
 obtain rfl:=Option.some.inj ((show Tryz.prog.globalNamed "strconv.ErrSyntax" =some 2 by kernel_rfl).symm.trans hg4)
 obtain rfl:=Option.some.inj ((show(Tryz.prog.globals[2]?).map (·.type)=some 139 by kernel_rfl).symm.trans ht4)
 obtain⟨u4,v4,e4⟩:=iface_of_trod ⟨_,Tryz.underlying139⟩ hd4
 obtain rfl:=Option.some.inj ((show Tryz.prog.globalNamed "strconv.ErrRange" =some 3 by kernel_rfl).symm.trans hg3)
 obtain rfl:=Option.some.inj ((show(Tryz.prog.globals[3]?).map (·.type)=some 139 by kernel_rfl).symm.trans ht3)
 obtain⟨u3,v3,e3⟩:=iface_of_trod ⟨_,Tryz.underlying139⟩ hd3
 intro p hp
 simp only[Go.Av.glL,List.mem_cons,List.not_mem_nil,or_false]at hp
 rcases hp with rfl | rfl | rfl
 ·obtain⟨h1,c,t,fr,h2,rfl⟩:=heap_of_var hg2 hv2
  exact⟨h1,c,t,fr,h2,by obtain⟨l⟩:=c;exact congrArg List.toArray e2⟩
 ·obtain⟨h1,c,t,fr,h2,rfl⟩:=heap_of_var hg4 hv4
  exact⟨h1,c,t,fr,h2,u4,v4,by obtain⟨l⟩:=c;exact congrArg List.toArray e4⟩
 ·obtain⟨h1,c,t,fr,h2,rfl⟩:=heap_of_var hg3 hv3
  exact⟨h1,c,t,fr,h2,u3,v3,by obtain⟨l⟩:=c;exact congrArg List.toArray e3⟩
set_option maxRecDepth 100000 in
theorem lifted (os:Os) (started:os.Started) (H:Type) (enc:TypeId×Value->H):
 ReturnsInHanded {} Tryz.checked os 6 .any (fun w args=>(Rows.storeRowSpec.pre enc Tryz.prog Tryz.f6 [] false w args/\laidMetH Tryz.prog Rows.storeRowRow.laid w)/\sizedMet enc Tryz.prog Tryz.f6 (OpenSpec.ofChange Rows.storeRowSpec) false w args)
  (Rows.storeRowSpec.post enc Tryz.prog Tryz.f6 false true false false):=by
 refine returnsInHanded_of_change_and (C:=Tryz.checked) (X:=fun w _=>laidMetH Tryz.prog Rows.storeRowRow.laid w) (fun _ _ _ hh h=>h.of_heap hh) ownK started (by kernel_rfl) Tryz.func6
  (ChangeSpec.witness_shaped (enc:=enc) (C:=Tryz.checked) (os:=os) (X:=fun w _=>laidMetH Tryz.prog Rows.storeRowRow.laid w) false (World.doorLaid Tryz.prog 400 os) #[.slice none 0 0,.slice none 0 0] 8 rfl (World.shaped_of_RefB (by kernel_rfl) (by kernel_rfl)) (by kernel_rfl) (by kernel_rfl) (by kernel_rfl) (door_met os _)) ?_
 intro W base args ds gs before hval0 hW _ _ hL _
 have hval:∀(j:Nat) t v,Tryz.f6.params[j]? =some t->args[j]? =some v->Value.okWide Tryz.prog W .any base t v:=hval0
 have hW':=hW
 obtain⟨p,q,hA0,hV,rfl,hfz,hnd⟩:=hW
 have hA:DataW.TrodAll enc Tryz.prog W 0 (fun _=>true) true Tryz.f6.params.toList args.toList ds p:=hA0
 rw[Tryz.params6]at hA hval
 obtain⟨v0,vs0,d0,ds0,p0,q0,hargs,rfl,rfl,h0,r0⟩:=trodAll_cons hA
 obtain⟨v1,vs1,d1,ds1,p1,q1,rfl,rfl,rfl,h1,r1⟩:=trodAll_cons r0
 obtain⟨rfl,rfl,rfl⟩:=trodAll_nil r1
 obtain rfl:args= #[v0,v1]:=by cases args;simp_all
 obtain⟨rfl,rfl⟩:=trodVars_none hV
 obtain⟨x0,k0,s0⟩:=Go.Av.akR Go.Av.aZ (.ro .u8) (by kernel_rfl) (by kernel_rfl) rfl (hval 0 51 v0 rfl rfl) h0
 have lt0:∀x∈p0,x.block<W.heap.size:=by obtain⟨m,hm⟩:=h0;exact DataW.trod_lt m _ _ _ hm
 obtain⟨x1,k1,s1⟩:=Go.Av.akR Go.Av.aZ (.ro .i64) (by kernel_rfl) (by kernel_rfl) rfl (hval 1 47 v1 rfl rfl) h1
 have lt1:∀x∈p1,x.block<W.heap.size:=by obtain⟨m,hm⟩:=h1;exact DataW.trod_lt m _ _ _ hm
 clear hA0 hval0
 refine(Go.Av.ajc Go.Av.aZ (f:=6) (by kernel_rfl) Go.Av.JR rfl (x0,x1) (Go.Av.aa1 x0 x1 k0 k1) #[v0,v1] W (glob_of_laid hL) rfl ?_).mono fun e W' ⟨he,bel⟩=> ?_
 ·intro j a v g1 g2
  match j,g1,g2 with
  |0,g1,g2=>rw[<-Option.some.inj g1,<-Option.some.inj g2];exact s0 _
  |1,g1,g2=>rw[<-Option.some.inj g1,<-Option.some.inj g2];exact s1 _
  |j+2,g1,g2=>cases g1
 ·subst he
  exact⟨_,rfl,_,_,_,[],_,[],hW',trodAll_mk1 (shut_bool Tryz.underlying4 _),(trodAll_cons_mk (Below.trod laidO (by kernel_rfl) (of_decide_eq_true (by kernel_rfl)) h0 bel lt0) (trodAll_cons_mk (Below.trod laidO (by kernel_rfl) (of_decide_eq_true (by kernel_rfl)) h1 bel lt1) trodAll_mk0)),rfl,bel.frame _,fun h=>by cases h⟩
theorem over:Rows.storeRowRow.holds Tryz.pinned (OpenSpec.ofChange Rows.storeRowSpec):=
 OpenClaim.holds_of_wide 6 Tryz.f6 rfl rfl rfl rfl rfl rfl rfl ⟨rfl,rfl,rfl,rfl,rfl⟩ rfl rfl rfl rfl rfl (by kernel_rfl) Tryz.func6 (by kernel_rfl)
  (of_decide_eq_true (by kernel_rfl)) (by unfold Func.isWrapper;first | (rw[if_pos (by decide+kernel)];kernel_rfl) | (rw[if_neg (by decide+kernel)];exact⟨rfl,rfl⟩))
  (fun os started H enc _=>lifted os started H enc)
theorem proved:Rows.StoreRowCardSaid:=
 Claim7.holds_tied_plain_at .later [] [.data,.data,.data,.sentinel,.sentinel] true (true,"f38ac25db2dcaf727463dd2f7200027a90d3db7dd677272f6433bb64e3097333") true
  over (fun _ h=>by cases h) (by kernel_rfl) (fun _ h=>by cases h) storeRow_row_tie rfl ⟨rfl,rfl⟩ (by kernel_rfl) rfl
  (fun f fn hf hfn=>by
    obtain rfl:f=6:=Option.some.inj ((show Tryz.prog.funcNamed "snaffle/snafflelaw15.StoreRow" =some 6 by kernel_rfl).symm.trans hf) |>.symm
    obtain rfl:fn=Tryz.f6:=(Option.some.inj (Tryz.func6.symm.trans hfn)).symm
    exact⟨by kernel_rfl,fun j t ht=>by
     rw[Tryz.params6]at ht
     have hm:t∈[51,47]:=by simpa using Array.mem_of_getElem? ht
     have hall:([51,47].all fun u=> !Tryz.prog.wantsStandIn u)=true:=by kernel_rfl
     exact(show Tryz.prog.wantsStandIn t=false by simpa using List.all_eq_true.1 hall t hm)⟩)
  (by kernel_rfl)
end Go.Proofs.YtkndbmahpiebkaaGreatDoor
