/- For every input the law GateRight returns true, and each argument reads behind the call as it read before, where the package-level variables hold what the text of the program lays; the card ties that to the text. No other condition. -/
import Derived.Test.YtcodkbclgbcehaaGreatDoorPGateRight2
import Derived.Test.YtcodkbclgbcehaaGreatDoorAvE
import Derived.Test.YtcodkbclgbcehaaGreatDoorRows
import Derived.Test.YtcodkbclgbcehaaGreatDoorTie
import Derived.Test.YtcodkbclgbcehaaGreatDoorCards
import Derived.ProofKit
import Derived.OpenShut
import Derived.ShutString
import Derived.ChangeOld
import Derived.Below
import Derived.LaidMore
import Derived.LaidLaws
import Derived.LaidHandle
import Derived.MakeChecks
import Derived.Stop.Joined
import Derived.Lib.LaidTab
import Derived.SevenTiedAt
import Derived.KernelRfl
set_option linter.unusedVariables false
namespace Go.Proofs.YtcodkbclgbcehaaGreatDoor
open Go Go.ChangeShapes Go.WideShapes Go.ChangeAt Go.RowKit
theorem ownK:ownKnob Tryz.prog.godebug=none:=by kernel_rfl
theorem laidO:laidOutB Tryz.prog=true:=by kernel_rfl
theorem iface_of_trod {H:Type} {enc:TypeId×Value->H} {P:Program} {w:World} {base:Nat} {sp:Nat->Bool} {held:Bool} {fuel:Nat} {t:TypeId} {cs:List Value} {n:String} {x:DataW H} {p:List MemPlace}
 (ht:∃ms,P.underlying t=some (.interface ms)) (h:DataW.trod enc P w base sp held fuel t cs=some (.iface n x,p)):∃u v,cs=[.iface u v]:=by
 obtain⟨ms,ht⟩:=ht
 cases fuel with
 |zero=>simp [DataW.trod]at h
 |succ fuel=>
  simp only[DataW.trod,ht]at h
  split at h<;>first | exact⟨_,_,rfl⟩ | (cases h) | simp_all
theorem heap_of_var {P:Program} {w:World} {n:String} {g:Nat} {cs:Array Value} (hg:P.globalNamed n=some g) (h:w.var? P n=some cs):g<w.heap.size/\∃c t fr,w.heap[g]? =some (.cells c t fr)/\c=cs:=by
 unfold World.var? at h;rw[hg,Option.bind_some]at h;split at h
 ·rename_i c t fr hc;refine⟨?_,c,t,fr,hc,Option.some.inj h⟩;rcases Nat.lt_or_ge g w.heap.size with k | k
  ·exact k
  ·rw[Array.getElem?_eq_none k]at hc;cases hc
 ·cases h
theorem door_met (os:Os) (args:Array Value):laidMetH Tryz.prog Rows.gateRightRow.laid ((World.doorLaid Tryz.prog 400 os).forCall (fun _ _=>0) ⟨#[],args,[]⟩).memory:=
 laidMetH_of_parts3 (fuel:=8) (laidMet_of_run' 8 (by kernel_rfl) (by kernel_rfl)) (by kernel_rfl) (by kernel_rfl)
theorem glob_of_laid {W:World} (h:laidMetH Tryz.prog Rows.gateRightRow.laid W):Go.Av.Jb (fun b=>b<W.heap.size) W.heap:=by
 rw[MakeChecks.laidMetH_plain _ _ _ (by kernel_rfl)]at h;obtain⟨ps,⟨g0,t0,cs0,f0,p0,q0,hg0,ht0,hv0,hd0,⟨g1,t1,cs1,f1,p1,q1,hg1,ht1,hv1,hd1,⟨g2,t2,cs2,f2,p2,q2,hg2,ht2,hv2,hd2,⟨g3,t3,cs3,f3,p3,q3,hg3,ht3,hv3,hd3,⟨g4,t4,cs4,f4,p4,q4,hg4,ht4,hv4,hd4,_,_⟩,_⟩,_⟩,_⟩,_⟩,_,_⟩:=h;obtain rfl:=Option.some.inj ((show Tryz.prog.globalNamed "internal/strconv.uint64pow10" =some 1 by kernel_rfl).symm.trans hg2)
 obtain rfl:=Option.some.inj ((show(Tryz.prog.globals[1]?).map (·.type)=some 398 by kernel_rfl).symm.trans ht2)
 have e2:cs2.toList=Lib.pow10Tab.map fun z=>Value.int .u64 z:=Lib.cells_of_tab (show Tryz.prog.underlying 398=some (.array 20 331) by kernel_rfl) (show Tryz.prog.underlying 331=some (.int .u64) by kernel_rfl) (by kernel_rfl) (by kernel_rfl) (show DataW.trod (fun _=>()) Tryz.prog W 0 (fun _=>true) false f2 398 cs2.toList=some (Lib.tabData .u64 Lib.pow10Tab,p2)from hd2);obtain rfl:=Option.some.inj ((show Tryz.prog.globalNamed "strconv.ErrSyntax" =some 2 by kernel_rfl).symm.trans hg4)
 obtain rfl:=Option.some.inj ((show(Tryz.prog.globals[2]?).map (·.type)=some 291 by kernel_rfl).symm.trans ht4)
 obtain⟨u4,v4,e4⟩:=iface_of_trod ⟨_,Tryz.underlying291⟩ hd4;obtain rfl:=Option.some.inj ((show Tryz.prog.globalNamed "strconv.ErrRange" =some 3 by kernel_rfl).symm.trans hg3)
 obtain rfl:=Option.some.inj ((show(Tryz.prog.globals[3]?).map (·.type)=some 291 by kernel_rfl).symm.trans ht3)
 obtain⟨u3,v3,e3⟩:=iface_of_trod ⟨_,Tryz.underlying291⟩ hd3;intro p hp;simp only[Go.Av.glL,List.mem_cons,List.not_mem_nil,or_false]at hp;rcases hp with rfl | rfl | rfl
 ·obtain⟨h1,c,t,fr,h2,rfl⟩:=heap_of_var hg2 hv2;exact⟨h1,c,t,fr,h2,by obtain⟨l⟩:=c;exact congrArg List.toArray e2⟩
 ·obtain⟨h1,c,t,fr,h2,rfl⟩:=heap_of_var hg4 hv4;exact⟨h1,c,t,fr,h2,u4,v4,by obtain⟨l⟩:=c;exact congrArg List.toArray e4⟩
 ·obtain⟨h1,c,t,fr,h2,rfl⟩:=heap_of_var hg3 hv3;exact⟨h1,c,t,fr,h2,u3,v3,by obtain⟨l⟩:=c;exact congrArg List.toArray e3⟩
set_option maxRecDepth 100000 in
theorem lifted (os:Os) (started:os.Started) (H:Type) (enc:TypeId×Value->H):
 ReturnsInHanded {} Tryz.checked os 3 .any (fun w args=>(Rows.gateRightSpec.pre enc Tryz.prog Tryz.f3 [] false w args/\laidMetH Tryz.prog Rows.gateRightRow.laid w)/\sizedMet enc Tryz.prog Tryz.f3 (OpenSpec.ofChange Rows.gateRightSpec) false w args)
  (Rows.gateRightSpec.post enc Tryz.prog Tryz.f3 false true false false):=by
 refine returnsInHanded_of_change_and (C:=Tryz.checked) (X:=fun w _=>laidMetH Tryz.prog Rows.gateRightRow.laid w) (fun _ _ _ hh h=>h.of_heap hh) ownK started (by kernel_rfl) Tryz.func3
  (ChangeSpec.witness_shaped (enc:=enc) (C:=Tryz.checked) (os:=os) (X:=fun w _=>laidMetH Tryz.prog Rows.gateRightRow.laid w) false (World.doorLaid Tryz.prog 400 os) #[.agg #[.slice none 0 0,.int .i64 0,.int .i64 0,.bool false,.int .i64 0,.int .i64 0,.int .i64 0,.int .i64 0,.int .i64 0,.slice none 0 0,.int .i64 0,.int .i64 0,.slice none 0 0,.slice none 0 0,.slice none 0 0,.slice none 0 0,.bool false,.int .i64 0,.int .i64 0,.int .i64 0,.slice none 0 0,.slice none 0 0,.bool false,.int .i64 0,.bool false],.agg #[.int .i64 0,.int .i64 0,.int .i64 0,.int .i64 0,.int .i64 0,.int .i64 0,.int .i64 0,.int .i64 0,.int .i64 0,.int .i64 0,.bool false,.int .i64 0,.int .i64 0],.agg #[.int .i64 0,.int .i64 0,.int .i64 0,.int .i64 0,.int .i64 0]] 8 rfl (World.shaped_of_RefB (by kernel_rfl) (by kernel_rfl)) (by kernel_rfl) (by kernel_rfl) (by kernel_rfl) (door_met os _)) ?_
 intro W base args ds gs before hval0 hW _ _ hL _
 have hval:∀(j:Nat) t v,Tryz.f3.params[j]? =some t->args[j]? =some v->Value.okWide Tryz.prog W .any base t v:=hval0
 have hW':=hW
 obtain⟨p,q,hA0,hV,rfl,hfz,hnd⟩:=hW
 have hA:DataW.TrodAll enc Tryz.prog W 0 (fun _=>true) true Tryz.f3.params.toList args.toList ds p:=hA0
 rw[Tryz.params3]at hA hval
 obtain⟨v0,vs0,d0,ds0,p0,q0,hargs,rfl,rfl,h0,r0⟩:=trodAll_cons hA
 obtain⟨v1,vs1,d1,ds1,p1,q1,rfl,rfl,rfl,h1,r1⟩:=trodAll_cons r0
 obtain⟨v2,vs2,d2,ds2,p2,q2,rfl,rfl,rfl,h2,r2⟩:=trodAll_cons r1
 obtain⟨rfl,rfl,rfl⟩:=trodAll_nil r2
 obtain rfl:args= #[v0,v1,v2]:=by cases args;simp_all
 obtain⟨rfl,rfl⟩:=trodVars_none hV
 obtain⟨x0,k0,s0⟩:=Go.Av.alT Go.Av.IC (.val .gate) (by kernel_rfl) (by kernel_rfl) rfl (hval 0 39 v0 rfl rfl) h0
 have lt0:∀x∈p0,x.block<W.heap.size:=by obtain⟨m,hm⟩:=h0;exact DataW.trod_lt m _ _ _ hm
 obtain⟨x1,k1,s1⟩:=Go.Av.alT Go.Av.IC (.val .recd) (by kernel_rfl) (by kernel_rfl) rfl (hval 1 41 v1 rfl rfl) h1
 have lt1:∀x∈p1,x.block<W.heap.size:=by obtain⟨m,hm⟩:=h1;exact DataW.trod_lt m _ _ _ hm
 obtain⟨x2,k2,s2⟩:=Go.Av.alT Go.Av.IC (.val .note) (by kernel_rfl) (by kernel_rfl) rfl (hval 2 43 v2 rfl rfl) h2
 have lt2:∀x∈p2,x.block<W.heap.size:=by obtain⟨m,hm⟩:=h2;exact DataW.trod_lt m _ _ _ hm
 clear hA0 hval0
 refine(Go.Av.aoK Go.Av.IC (f:=3) (by kernel_rfl) Go.Av.O0 rfl (x0,x1,x2) (Go.Av.aeh x0 x1 x2 k0 k1 k2) #[v0,v1,v2] W (glob_of_laid hL) rfl ?_).mono fun e W' ⟨he,bel⟩=> ?_
 ·intro j a v g1 g2
  match j,g1,g2 with
  |0,g1,g2=>rw[<-Option.some.inj g1,<-Option.some.inj g2];exact s0 _
  |1,g1,g2=>rw[<-Option.some.inj g1,<-Option.some.inj g2];exact s1 _
  |2,g1,g2=>rw[<-Option.some.inj g1,<-Option.some.inj g2];exact s2 _
  |j+3,g1,g2=>cases g1
 ·subst he
  exact⟨_,rfl,_,_,_,[],_,[],hW',trodAll_mk1 (shut_bool Tryz.underlying4 _),(trodAll_cons_mk (Below.trod laidO (by kernel_rfl) (of_decide_eq_true (by kernel_rfl)) h0 bel lt0) (trodAll_cons_mk (Below.trod laidO (by kernel_rfl) (of_decide_eq_true (by kernel_rfl)) h1 bel lt1) (trodAll_cons_mk (Below.trod laidO (by kernel_rfl) (of_decide_eq_true (by kernel_rfl)) h2 bel lt2) trodAll_mk0))),rfl,bel.frame _,fun h=>by cases h⟩
theorem jf0:(Rows.gateRightRow.wf (OpenSpec.ofChange Rows.gateRightSpec))=true:=by kernel_rfl
theorem jf1:(laidOutB Tryz.pinned.checked.prog)=true:=by kernel_rfl
theorem jf2:(mapsRowed Tryz.pinned.checked.prog)=true:=by kernel_rfl
theorem jf3:(Tryz.f3.params.all (Tryz.pinned.checked.prog.readableRec ·))=true:=by kernel_rfl
theorem jf4:(namedTie Tryz.pinned.checked.prog Rows.gateRightRow.named Rows.gateRightSpec.vars)=true:=by kernel_rfl
theorem jf5:((Rows.gateRightRow.stops == []))=true:=by kernel_rfl
theorem jf6:((Tryz.pinned.checked.prog.stops == []))=true:=by kernel_rfl
theorem jf7:((Rows.gateRightRow.knobs == []))=true:=by kernel_rfl
theorem jf8:((Tryz.pinned.checked.prog.stopKnobs == []))=true:=by kernel_rfl
theorem jf9:((Rows.gateRightRow.inPlace == Tryz.pinned.checked.prog.inPlace 3))=true:=by kernel_rfl
theorem jf10:((Rows.gateRightRow.unfollowed == Tryz.pinned.checked.prog.unfollowed 3))=true:=by kernel_rfl
theorem jf11:((Rows.gateRightRow.recurses == Tryz.pinned.checked.prog.recurses 3))=true:=by kernel_rfl
theorem jf12:((Rows.gateRightRow.named == Tryz.pinned.checked.prog.varsNamed 3))=true:=by kernel_rfl
theorem jf13:((Rows.gateRightRow.maps == (Tryz.f3.params.toList++Rows.gateRightSpec.plain.varTypes Tryz.pinned.checked.prog).any (Tryz.pinned.checked.prog.mapsRec ·)))=true:=by kernel_rfl
theorem jf14:((Rows.gateRightRow.ifaces == (Tryz.f3.params.toList++Rows.gateRightSpec.plain.varTypes Tryz.pinned.checked.prog).any (Tryz.pinned.checked.prog.ifacesRec ·)))=true:=by kernel_rfl
theorem jf15:((Rows.gateRightRow.mapsOut == Tryz.pinned.checked.prog.mapsAmong Tryz.f3.resultTypes.toList))=true:=by kernel_rfl
theorem jf16:((Rows.gateRightRow.loops == (Tryz.f3.params.toList++Rows.gateRightSpec.plain.varTypes Tryz.pinned.checked.prog).any (Tryz.pinned.checked.prog.loopsFrom ·)))=true:=by kernel_rfl
theorem jf17:((Rows.gateRightRow.wideKeys == (Tryz.f3.params.toList++Rows.gateRightSpec.plain.varTypes Tryz.pinned.checked.prog++Tryz.f3.resultTypes.toList).any (Tryz.pinned.checked.prog.wideKeysFrom ·)))=true:=by kernel_rfl
theorem jf18:(Rows.gateRightSpec.vars.all (Tryz.pinned.checked.prog.varReadable ·))=true:=by kernel_rfl
theorem jf19:(Tryz.f3.resultTypes.all (fun t=>Tryz.pinned.checked.prog.readableRec t&&decide (t<Tryz.pinned.checked.prog.types.size)))=true:=by kernel_rfl
theorem jf20:((Rows.gateRightRow.ifacesOut == Tryz.f3.resultTypes.toList.any (Tryz.pinned.checked.prog.ifacesRec ·)))=true:=by kernel_rfl
theorem jf21:((Rows.gateRightRow.loopsOut == Tryz.f3.resultTypes.toList.any (Tryz.pinned.checked.prog.loopsFrom ·)))=true:=by kernel_rfl
theorem jf22:((Rows.gateRightRow.plainKeys == Tryz.pinned.checked.prog.plainKeys))=true:=by kernel_rfl
theorem jf23:(Rows.gateRightRow.shortTexts.isNone)=true:=by kernel_rfl
theorem jf24:(Tryz.pinned.checked.prog.stopsHeard)=true:=by kernel_rfl
theorem jf25:(Tryz.pinned.checked.prog.mayEnter)=true:=by kernel_rfl
theorem jf26:((Rows.gateRightRow.lifted == Tryz.pinned.checked.prog.liftsFinal))=true:=by kernel_rfl
theorem jf27:((Tryz.pinned.checked.prog.make == some Rows.gateRightRow.make))=true:=by kernel_rfl
theorem jf28:((Rows.gateRightRow.kinds == (if Rows.gateRightRow.domain.isEmpty then []else Tryz.f3.params.toList.map fun t=>match Tryz.pinned.checked.prog.underlying t with | some (.int k)=>some k | _=>none)))=true:=by kernel_rfl
theorem jf29:((Rows.gateRightRow.pinned == Rows.gateRightRow.pinnedBy))=true:=by kernel_rfl
theorem jf30:((Rows.gateRightRow.veiled == (Tryz.f3.params.toList++Rows.gateRightSpec.plain.varTypes Tryz.pinned.checked.prog++Tryz.f3.resultTypes.toList).any (Tryz.pinned.checked.prog.veiledRec ·)))=true:=by kernel_rfl
theorem jf31:(Rows.gateRightRow.veiledFits Tryz.pinned.checked.prog Tryz.f3.params.toList (Tryz.f3.params.toList++Rows.gateRightSpec.plain.varTypes Tryz.pinned.checked.prog++Tryz.f3.resultTypes.toList))=true:=by kernel_rfl
theorem and_t {a b:Bool} (h:a=true) (k:b=true):(a&&b)=true:=by rw[h,k];rfl
set_option maxRecDepth 100000 in
theorem jf:joinedFacts Tryz.pinned.checked.prog 3 Tryz.f3 Rows.gateRightSpec Rows.gateRightRow=true:=by
 unfold joinedFacts;exact(and_t (and_t (and_t (and_t (and_t (and_t (and_t (and_t (and_t (and_t (and_t (and_t (and_t (and_t (and_t (and_t (and_t (and_t (and_t (and_t (and_t (and_t (and_t (and_t (and_t (and_t (and_t (and_t (and_t (and_t (and_t jf0 jf1) jf2) jf3) jf4) jf5) jf6) jf7) jf8) jf9) jf10) jf11) jf12) jf13) jf14) jf15) jf16) jf17) jf18) jf19) jf20) jf21) jf22) jf23) jf24) jf25) jf26) jf27) jf28) jf29) jf30) jf31)
theorem jg0:Rows.gateRightRow.wfByText (OpenSpec.ofChange Rows.gateRightSpec)=true:=by kernel_rfl
theorem jg1:Tryz.pinned.checked.prog.mainIs=some (true,"f48168ec30cd42728851112dbfdc9a8c28f0a92ef8c00d2732383289e39d5db7".toList):=by kernel_rfl
theorem jg2:true=Tryz.pinned.checked.prog.looks []:=by kernel_rfl
theorem jg3:false=Rows.gateRightRow.goesBy Tryz.pinned.checked.prog:=by kernel_rfl
theorem jg4:Tryz.pinned.checked.prog.funcNamed "snaffle/snafflelaw19.GateRight" =some 3:=by kernel_rfl
theorem jg8:Tryz.f3.isInstance Tryz.pinned.checked.prog Rows.gateRightRow.origin Rows.gateRightRow.targs:=of_decide_eq_true (by kernel_rfl)
theorem jg9:Tryz.f3.isWrapper Tryz.pinned.checked.prog Rows.gateRightRow.wrapper Rows.gateRightRow.mainSum:=by unfold Func.isWrapper;first | (rw[if_pos (by decide+kernel)];kernel_rfl) | (rw[if_neg (by decide+kernel)];exact⟨rfl,rfl⟩)
theorem over:Rows.gateRightRow.holds Tryz.pinned (OpenSpec.ofChange Rows.gateRightSpec):=
 OpenClaim.holds_of_wide 3 Tryz.f3 rfl rfl rfl rfl rfl rfl rfl ⟨rfl,rfl,rfl,rfl,rfl⟩ rfl rfl rfl rfl rfl jg4 Tryz.func3 jf jg8 jg9
  (fun os started H enc _=>lifted os started H enc)
theorem jgs:([39,41,43].all fun u=> !Tryz.prog.wantsStandIn u)=true:=by kernel_rfl
theorem proved:Rows.GateRightCardSaid:=
 Claim7.holds_tied_plain_at .later [] [.data,.data,.data,.sentinel,.sentinel] true (true,"f48168ec30cd42728851112dbfdc9a8c28f0a92ef8c00d2732383289e39d5db7") true
  over (fun _ h=>by cases h) jg0 (fun _ h=>by cases h) gateRight_row_tie rfl ⟨rfl,rfl⟩ jg1 rfl
  (fun f fn hf hfn=>by
    obtain rfl:f=3:=Option.some.inj (jg4.symm.trans hf) |>.symm
    obtain rfl:fn=Tryz.f3:=(Option.some.inj (Tryz.func3.symm.trans hfn)).symm
    exact⟨jg2,fun j t ht=>by
     rw[Tryz.params3]at ht
     have hm:t∈[39,41,43]:=by simpa using Array.mem_of_getElem? ht
     exact(show Tryz.prog.wantsStandIn t=false by simpa using List.all_eq_true.1 jgs t hm)⟩)
  jg3
end Go.Proofs.YtcodkbclgbcehaaGreatDoor
