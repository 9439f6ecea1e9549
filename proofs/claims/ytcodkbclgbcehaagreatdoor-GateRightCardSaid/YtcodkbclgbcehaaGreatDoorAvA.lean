/- What a text of the program comes to, as a function of data: the evaluator; what its states mean in memory; its first operations. No condition. -/
import Derived.Calls
import Derived.Wp
import Derived.Walk
import Derived.Orders
import GoSem.Core.Layout
import Derived.Lib.ItoaNum
import Derived.Below
import Derived.Laws.Sem
import Derived.Laws.Cells
import Derived.Laws.Strings
import Derived.Laws.Strings2
import Derived.Laws.Concat
import Derived.Laws.StructEq
set_option linter.unusedVariables false
set_option linter.unusedSimpArgs false
set_option linter.unnecessarySimpa false
namespace Go.Av
abbrev awg:=@if_neg
abbrev awh:=@if_pos
abbrev awi:=@Option.bind_eq_some_iff
abbrev awj:=@Option.some.injEq
abbrev awk:=@Nat.le_refl
abbrev awl:=@List.getElem_mem
abbrev awm:=@Nat.zero_le
abbrev awn:=@List.length_append
abbrev awo:=@Prod.mk.injEq
abbrev awp:=@Bool.and_eq_true
abbrev awq:=@List.take_length
abbrev awr:=@Option.some.inj
abbrev aws:=@Nat.eq_of_beq_eq_true
abbrev awt:=@List.mem_append
abbrev awu:=@List.length_take
abbrev awv:=@decide_eq_true
abbrev aww:=@List.mem_cons
abbrev awx:=@true_and
abbrev awy:=@and_true
abbrev awz:=@Nat.add_mul
abbrev awC:=@List.mem_singleton
abbrev awD:=@List.mem_append_right
abbrev awE:=@Ne.symm
abbrev awF:=@List.length_cons
abbrev awG:=@Array.getElem?_eq_some_iff
abbrev awH:=@Nat.mul_le_mul_right
abbrev awI:=@false_implies
abbrev awJ:=@dif_pos
abbrev awK:=@not_true_eq_false
abbrev awL:=@List.getElem?_eq_getElem
abbrev awM:=@List.mem_append_left
abbrev awN:=@true_implies
abbrev awO:=@or_self
abbrev awP:=@List.length_drop
abbrev awQ:=@List.take_succ_eq_append_getElem
abbrev awR:=@decide_eq_false
abbrev awS:=@List.map_cons
abbrev awT:=@List.append_assoc
abbrev awU:=@dif_neg
abbrev awV:=@List.all_eq_true
abbrev awW:=@Array.getElem?_eq_getElem
abbrev awX:=@List.mem_cons_of_mem
abbrev awY:=@List.length_singleton
abbrev awZ:=@Int.emod_eq_of_lt
abbrev aw0:=@List.mem_cons_self
abbrev aw1:=@List.nil_append
abbrev aw2:=@Int.mul_nonneg
abbrev aw3:=@Int.le_refl
abbrev aw4:=@Nat.le_trans
abbrev aw5:=@List.take_of_length_le
abbrev aw6:=@List.foldl_cons
abbrev aw7:=@List.take_append_drop
abbrev aw8:=@List.eq_nil_of_length_eq_zero
abbrev aw9:=@decide_eq_true_eq
abbrev axa:=@List.cons_append
abbrev axb:=@Nat.one_mul
abbrev axc:=@Nat.zero_add
abbrev axd:=@Int.mul_assoc
abbrev axe:=@List.drop_eq_getElem_cons
abbrev axf:=@Nat.lt_of_lt_of_le
abbrev axg:=@congrArg
abbrev axh:=@Int.toNat_natCast
abbrev axi:=@List.any_eq_true
abbrev axj:=@Classical.not_not
abbrev axk:=@Nat.le_of_ble_eq_true
abbrev axl:=@List.getElem_append_right
abbrev axm:=@List.length_nil
abbrev axn:=@List.append_nil
abbrev axo:=@List.mem_of_mem_take
abbrev axp:=@Int.tmod_eq_emod_of_nonneg
abbrev axq:=@List.getElem_append_left
abbrev axr:=@Nat.blt_eq
abbrev axs:=@List.drop_length
abbrev axt:=@Array.getElem?_setIfInBounds_ne
abbrev axu:=@List.getElem_of_mem
abbrev axv:=@List.length_replicate
abbrev axw:=@List.mem_of_getElem?
abbrev axx:=@Nat.pow_succ
abbrev axy:=@Int.pow_pos
abbrev axz:=@Nat.add_assoc
abbrev axA:=@Bool.false_eq_true
abbrev axB:=@Nat.add_zero
abbrev axC:=@List.length_map
abbrev axD:=@decide_eq_false_iff_not
abbrev axE:=@List.mem_of_mem_drop
abbrev axF:=@List.getElem?_eq_some_iff
abbrev axG:=@List.mem_map
abbrev axH:=@List.getElem_drop
abbrev axI:=@List.getElem_take
abbrev axJ:=@List.mem_range
abbrev axK:=@List.mem_filter
abbrev axL:=@Int.mul_le_mul
abbrev axM:=@Int.tdiv_eq_ediv_of_nonneg
abbrev axN:=@Array.getElem_toList
abbrev axO:=@Option.getD_some
abbrev axP:=@List.drop_zero
abbrev axQ:=@List.map_nil
abbrev axR:=@List.drop_eq_nil_of_le
abbrev axS:=@decide_eq_decide
abbrev axT:=@List.flatMap_append
abbrev axU:=@Int.pow_succ
abbrev axV:=@Int.emod_emod
abbrev axW:=@decide_eq_true_iff
abbrev axX:=@Option.map_some
abbrev axY:=@Bool.not_true
abbrev axZ:=@Int.mul_le_mul_of_nonneg_right
abbrev ax0:=@Bool.not_eq_true'
abbrev ax1:=@List.length_pos_iff
abbrev ax2:=@List.cons.injEq
abbrev ax3:=@Nat.zero_mul
abbrev ax4:=@List.drop_append_of_le_length
abbrev ax5:=@Bool.eq_iff_iff
abbrev ax6:=@Int.add_mul
abbrev ax7:=@List.pairwise_iff_getElem
abbrev ax8:=@List.getElem_set
abbrev ax9:=@Int.ediv_nonneg
abbrev aya:=@List.set_append
abbrev ayb:=@Array.getElem?_setIfInBounds_self_of_lt
abbrev ayc:=@List.getElem_cons_succ
abbrev ayd:=@Array.getElem?_append_left
abbrev aye:=@List.map_toArray
abbrev ayf:=@Nat.lt_trichotomy
abbrev ayg:=@List.take_append_of_le_length
abbrev ayh:=@Nat.lt_or_ge
abbrev ayi:=@List.all_cons
abbrev ayj:=@Int.fdiv_eq_ediv_of_nonneg
abbrev ayk:=@Int.one_mul
abbrev ayl:=@List.ext_getElem
abbrev aym:=@List.flatMap_cons
abbrev ayn:=@Int.ediv_le_self
abbrev ayo:=@Int.ediv_ediv_of_nonneg
abbrev ayp:=@List.mem_iff_getElem
abbrev ayq:=@Option.isSome_none
abbrev ayr:=@Option.isSome_some
abbrev ays:=@List.take_zero
abbrev ayt:=@Nat.mul_comm
abbrev ayu:=@Nat.add_sub_cancel_left
abbrev ayv:=@Bool.or_eq_true
abbrev ayw:=@List.getElem?_append_left
abbrev ayx:=@List.getElem?_append_right
abbrev ayy:=@Nat.mod_lt
abbrev ayz:=@Nat.min_eq_left
abbrev ayA:=@Nat.mul_one
abbrev ayB:=@Array.size_append
abbrev ayC:=@Option.bind_some
abbrev ayD:=@Nat.pow_le_pow_right
abbrev ayE:=@List.flatMap_nil
abbrev ayF:=@Array.ext_getElem?
abbrev ayG:=@List.getElem_map
abbrev ayH:=@Nat.sub_zero
abbrev ayI:=@Array.getD_eq_getD_getElem?
abbrev ayJ:=@List.mapM_cons
abbrev ayK:=@Nat.pos_of_ne_zero
abbrev ayL:=@List.getElem?_cons_succ
abbrev ayM:=@List.getD_eq_getElem?_getD
abbrev ayN:=@Option.map_eq_some_iff
abbrev ayO:=@List.foldl_append
abbrev ayP:=@BitVec.toNat_ofInt
abbrev ayQ:=@Int.mul_comm
abbrev ayR:=@List.pairwise_append
abbrev ayS:=@Int.le_of_lt
abbrev ayT:=@List.filter_cons_of_neg
abbrev ayU:=@List.singleton_append
abbrev ayV:=@Bool.or_eq_false_iff
abbrev ayW:=@List.getElem_cons_zero
abbrev ayX:=@Array.getElem?_map
abbrev ayY:=@Bool.not_false
abbrev ayZ:=@List.getElem?_cons_zero
abbrev ay0:=@List.countP_cons
abbrev ay1:=@List.size_toArray
abbrev ay2:=@List.isPrefixOf_iff_prefix
abbrev ay3:=@List.eraseIdx_eq_take_drop_succ
abbrev ay4:=@List.mem_or_eq_of_mem_set
abbrev ay5:=@List.length_eraseIdx_le
abbrev ay6:=@List.filter_eq_self
abbrev ay7:=@List.pairwise_cons
abbrev ay8:=@List.getElem_set_self
abbrev ay9:=@Nat.lt_or_gt_of_ne
abbrev aza:=@Option.isSome_iff_exists
abbrev azb:=@List.dropLast_concat_getLast
abbrev azc:=@List.mem_replicate
abbrev azd:=@List.findIdx?_eq_some_iff_getElem
abbrev aze:=@List.findIdx?_eq_none_iff
abbrev azf:=@List.mem_of_mem_eraseIdx
abbrev azg:=@List.eraseIdx_of_length_le
abbrev azh:=@List.set_eq_of_length_le
abbrev azi:=@BitVec.getLsbD_xor
abbrev azj:=@BitVec.getLsbD_ushiftRight
abbrev azk:=@BitVec.getLsbD_shiftLeft
abbrev azl:=@List.replicate_succ'
abbrev azm:=@List.filter_eq_nil_iff
abbrev azn:=@List.filter_cons_of_pos
abbrev azo:=@List.length_filter_le
abbrev azp:=@List.length_eraseIdx_of_lt
abbrev azq:=@Classical.byContradiction
abbrev azr:=@Int.mul_nonneg_of_nonpos_of_nonpos
abbrev azs:=@Int.mul_nonpos_of_nonpos_of_nonneg
abbrev azt:=@Int.mul_nonpos_of_nonneg_of_nonpos
abbrev azu:=@List.eraseIdx_append_of_length_le
abbrev azv:=@trivial
structure aS where
 name:List UInt8
 data:List Int
 J:Int
 deriving Inhabited,DecidableEq
structure ak where
 b:List aS
 qZ:Int
 T:Int
 Q:Bool
 deriving Inhabited,DecidableEq
structure fE where
 q9:Int
 B:Int
 L:Int
 b0:Int
 b1:Int
 b2:Int
 b3:Int
 b4:Int
 b5:Int
 deriving Inhabited,DecidableEq
structure iJ where
 L:Int
 order:Int
 y:Int
 z:Int
 X:Int
 N:Int
 I:Int
 long:Int
 qX:Int
 opn:Int
 on:Bool
 A:Int
 Z:Int
 deriving Inhabited,DecidableEq
structure aC where
 id:Int
 y:Int
 z:Int
 X:Int
 N:Int
 I:Int
 H:Int
 P:Int
 V:Int
 U:Int
 O:Int
 z6:Bool
 deriving Inhabited,DecidableEq
structure bF where
 pos:Int
 buy:Int
 qK:Int
 opn:Int
 deriving Inhabited,DecidableEq
structure jQ where
 long:Int
 qX:Int
 opn:Int
 deriving Inhabited,DecidableEq
structure aB where
 t:Int
 i:Int
 a:List aC
 cells:List bF
 G:List jQ
 W:List Int
 qJ:Bool
 S:Int
 A:Int
 B:Int
 deriving Inhabited,DecidableEq
structure dR where
 q9:Int
 next:Int
 J:Int
 seg:Int
 qQ:Int
 M:List fE
 deriving Inhabited,DecidableEq
structure dU where
 K:Int
 B:Int
 deriving Inhabited,DecidableEq
structure jh where
 L:Int
 order:Int
 y:Int
 z:Int
 X:Int
 N:Int
 I:Int
 O:Int
 B:Int
 deriving Inhabited,DecidableEq
structure dV where
 A:Int
 Z:Int
 order:Int
 N:Int
 I:Int
 deriving Inhabited,DecidableEq
structure jl where
 F:List dV
 gap:Bool
 deriving Inhabited,DecidableEq
structure bD where
 disk:ak
 wal:dR
 state:aB
 Y:List jh
 feed:jl
 K:Int
 up:Bool
 deriving Inhabited,DecidableEq
structure adF where
 all:List Int
 deriving Inhabited,DecidableEq
structure ig where
 d:ak
 e:Int
 deriving Inhabited,DecidableEq
structure SA3 where
 a0:Int
 a1:Int
 a2:Int
 deriving Inhabited,DecidableEq
structure SA4 where
 a0:Int
 a1:Int
 a2:Int
 a3:Int
 deriving Inhabited,DecidableEq
structure SA6 where
 a0:Int
 a1:Int
 a2:Int
 a3:Int
 a4:Int
 a5:Int
 deriving Inhabited,DecidableEq
structure akv where
 a0:Int
 a1:Int
 a2:Int
 a3:Int
 a4:Int
 a5:Int
 a6:Int
 a7:Int
 a8:Int
 a9:Int
 a10:Int
 a11:Int
 a12:Int
 a13:Int
 a14:Int
 a15:Int
 a16:Int
 a17:Int
 a18:Int
 a19:Int
 deriving Inhabited,DecidableEq
structure arK where
 high:Int
 low:Int
 deriving Inhabited,DecidableEq
structure BG where
 g:bD
 l:List jh
 e:Int
 deriving Inhabited,DecidableEq
inductive E where
 |u8 | i64 | bool | str | file | disk | frame | recd | order | cell | expo | state | wal | slot | msg | note | feed | gate | bts | keeper | a3 | a4 | a6 | a20 | big | went
 deriving DecidableEq
@[reducible] def den:E->Type
  |.u8=>Int
  |.i64=>Int
  |.bool=>Bool
  |.str=>List UInt8
  |.file=>aS
  |.disk=>ak
  |.frame=>fE
  |.recd=>iJ
  |.order=>aC
  |.cell=>bF
  |.expo=>jQ
  |.state=>aB
  |.wal=>dR
  |.slot=>dU
  |.msg=>jh
  |.note=>dV
  |.feed=>jl
  |.gate=>bD
  |.bts=>adF
  |.keeper=>ig
  |.a3=>SA3
  |.a4=>SA4
  |.a6=>SA6
  |.a20=>akv
  |.big=>arK
  |.went=>BG
instance (e:E):Inhabited (den e):=by cases e<;>(simp only[den];infer_instance)
inductive AV where
 |undef
 |int (k:IntKind) (n:Int)
 |bool (b:Bool)
 |str (s:List UInt8)
 |nilp
 |mp (id off:Nat)
 |ep (id i j:Nat)
 |rp (e:E) (x:den e) (j:Nat)
 |nils
 |ro (e:E) (l:List (den e)) (ex:Bool)
 |mf (id:Nat)
 |ms (id off len:Nat)
 |rs (id sz off len:Nat)
 |agg (cs:List AV)
 |tup (cs:List AV)
 |fn (f:Nat) (caps:List AV)
 |fnb (f:Nat) (bs:List AV)
 |nilf
 |ifc (t:Nat) (v:AV)
 |nili
 |cond (c j:Nat) (w g:Bool) (v:AV)
 deriving Inhabited
def esz:E->Nat
 |.u8=>1
 |.i64=>1
 |.bool=>1
 |.str=>1
 |.file=>3
 |.disk=>4
 |.frame=>9
 |.recd=>13
 |.order=>12
 |.cell=>4
 |.expo=>3
 |.state=>10
 |.wal=>6
 |.slot=>2
 |.msg=>9
 |.note=>5
 |.feed=>2
 |.gate=>25
 |.bts=>1
 |.keeper=>5
 |.a3=>3
 |.a4=>4
 |.a6=>6
 |.a20=>20
 |.big=>2
 |.went=>27
def cells:(e:E)->den e->List AV
 |.u8,x=>[.int .u8 x]
 |.i64,x=>[.int .i64 x]
 |.bool,x=>[.bool x]
 |.str,x=>[.str x]
 |.file,x=>[.str x.name,.ro .u8 x.data false,.int .i64 x.J]
 |.disk,x=>[.ro .file x.b false,.int .i64 x.qZ,.int .i64 x.T,.bool x.Q]
 |.frame,x=>[.int .i64 x.q9,.int .i64 x.B,.int .i64 x.L,.int .i64 x.b0,.int .i64 x.b1,.int .i64 x.b2,.int .i64 x.b3,.int .i64 x.b4,.int .i64 x.b5]
 |.recd,x=>[.int .i64 x.L,.int .i64 x.order,.int .i64 x.y,.int .i64 x.z,.int .i64 x.X,.int .i64 x.N,.int .i64 x.I,.int .i64 x.long,.int .i64 x.qX,.int .i64 x.opn,.bool x.on,.int .i64 x.A,.int .i64 x.Z]
 |.order,x=>[.int .i64 x.id,.int .i64 x.y,.int .i64 x.z,.int .i64 x.X,.int .i64 x.N,.int .i64 x.I,.int .i64 x.H,.int .i64 x.P,.int .i64 x.V,.int .i64 x.U,.int .i64 x.O,.bool x.z6]
 |.cell,x=>[.int .i64 x.pos,.int .i64 x.buy,.int .i64 x.qK,.int .i64 x.opn]
 |.expo,x=>[.int .i64 x.long,.int .i64 x.qX,.int .i64 x.opn]
 |.state,x=>[.int .i64 x.t,.int .i64 x.i,.ro .order x.a false,.ro .cell x.cells false,.ro .expo x.G false,.ro .i64 x.W false,.bool x.qJ,.int .i64 x.S,.int .i64 x.A,.int .i64 x.B]
 |.wal,x=>[.int .i64 x.q9,.int .i64 x.next,.int .i64 x.J,.int .i64 x.seg,.int .i64 x.qQ,.ro .frame x.M false]
 |.slot,x=>[.int .i64 x.K,.int .i64 x.B]
 |.msg,x=>[.int .i64 x.L,.int .i64 x.order,.int .i64 x.y,.int .i64 x.z,.int .i64 x.X,.int .i64 x.N,.int .i64 x.I,.int .i64 x.O,.int .i64 x.B]
 |.note,x=>[.int .i64 x.A,.int .i64 x.Z,.int .i64 x.order,.int .i64 x.N,.int .i64 x.I]
 |.feed,x=>[.ro .note x.F false,.bool x.gap]
 |.gate,x=>[.ro .file x.disk.b false,.int .i64 x.disk.qZ,.int .i64 x.disk.T,.bool x.disk.Q,.int .i64 x.wal.q9,.int .i64 x.wal.next,.int .i64 x.wal.J,.int .i64 x.wal.seg,.int .i64 x.wal.qQ,.ro .frame x.wal.M false,.int .i64 x.state.t,.int .i64 x.state.i,.ro .order x.state.a false,.ro .cell x.state.cells false,.ro .expo x.state.G false,.ro .i64 x.state.W false,.bool x.state.qJ,.int .i64 x.state.S,.int .i64 x.state.A,.int .i64 x.state.B,.ro .msg x.Y false,.ro .note x.feed.F false,.bool x.feed.gap,.int .i64 x.K,.bool x.up]
 |.bts,x=>[.ro .u8 x.all false]
 |.keeper,x=>[.ro .file x.d.b false,.int .i64 x.d.qZ,.int .i64 x.d.T,.bool x.d.Q,.int .i64 x.e]
 |.a3,x=>[.int .i64 x.a0,.int .i64 x.a1,.int .i64 x.a2]
 |.a4,x=>[.int .u8 x.a0,.int .u8 x.a1,.int .u8 x.a2,.int .u8 x.a3]
 |.a6,x=>[.int .i64 x.a0,.int .i64 x.a1,.int .i64 x.a2,.int .i64 x.a3,.int .i64 x.a4,.int .i64 x.a5]
 |.a20,x=>[.int .u8 x.a0,.int .u8 x.a1,.int .u8 x.a2,.int .u8 x.a3,.int .u8 x.a4,.int .u8 x.a5,.int .u8 x.a6,.int .u8 x.a7,.int .u8 x.a8,.int .u8 x.a9,.int .u8 x.a10,.int .u8 x.a11,.int .u8 x.a12,.int .u8 x.a13,.int .u8 x.a14,.int .u8 x.a15,.int .u8 x.a16,.int .u8 x.a17,.int .u8 x.a18,.int .u8 x.a19]
 |.big,x=>[.int .u64 x.high,.int .u64 x.low]
 |.went,x=>[.ro .file x.g.disk.b false,.int .i64 x.g.disk.qZ,.int .i64 x.g.disk.T,.bool x.g.disk.Q,.int .i64 x.g.wal.q9,.int .i64 x.g.wal.next,.int .i64 x.g.wal.J,.int .i64 x.g.wal.seg,.int .i64 x.g.wal.qQ,.ro .frame x.g.wal.M false,.int .i64 x.g.state.t,.int .i64 x.g.state.i,.ro .order x.g.state.a false,.ro .cell x.g.state.cells false,.ro .expo x.g.state.G false,.ro .i64 x.g.state.W false,.bool x.g.state.qJ,.int .i64 x.g.state.S,.int .i64 x.g.state.A,.int .i64 x.g.state.B,.ro .msg x.g.Y false,.ro .note x.g.feed.F false,.bool x.g.feed.gap,.int .i64 x.g.K,.bool x.g.up,.ro .msg x.l false,.int .i64 x.e]
def gI:AV->Option Int | .int .i64 n=>some n | _=>none
def gU:AV->Option Int | .int .u8 n=>some n | _=>none
def gW:AV->Option Int | .int .u64 n=>some n | _=>none
def gB:AV->Option Bool | .bool b=>some b | _=>none
def gS:AV->Option (List UInt8) | .str s=>some s | _=>none
def gL (e:E):AV->Option (List (den e))
 |.nils=>some []
 |.ro e' l _=>if h:e'=e then some (h▸l)else none
 |_=>none
def nth:List AV->Nat->AV
 |[],_=> .undef
 |v::_,0=>v
 |_::r,k+1=>nth r k
def Ew (e:E) (cs:List AV):Option (den e):=
 bif Nat.beq cs.length (esz e)then (match e with
 |.u8=>gU (nth cs 0)
 |.i64=>gI (nth cs 0)
 |.bool=>gB (nth cs 0)
 |.str=>gS (nth cs 0)
 |.file=>(gS (nth cs 0)).bind fun y0=>(gL .u8 (nth cs 1)).bind fun y1=>(gI (nth cs 2)).bind fun y2=>some ⟨y0,y1,y2⟩
 |.disk=>(gL .file (nth cs 0)).bind fun y0=>(gI (nth cs 1)).bind fun y1=>(gI (nth cs 2)).bind fun y2=>(gB (nth cs 3)).bind fun y3=>some ⟨y0,y1,y2,y3⟩
 |.frame=>(gI (nth cs 0)).bind fun y0=>(gI (nth cs 1)).bind fun y1=>(gI (nth cs 2)).bind fun y2=>(gI (nth cs 3)).bind fun y3=>(gI (nth cs 4)).bind fun y4=>(gI (nth cs 5)).bind fun y5=>(gI (nth cs 6)).bind fun y6=>(gI (nth cs 7)).bind fun y7=>(gI (nth cs 8)).bind fun y8=>some ⟨y0,y1,y2,y3,y4,y5,y6,y7,y8⟩
 |.recd=>(gI (nth cs 0)).bind fun y0=>(gI (nth cs 1)).bind fun y1=>(gI (nth cs 2)).bind fun y2=>(gI (nth cs 3)).bind fun y3=>(gI (nth cs 4)).bind fun y4=>(gI (nth cs 5)).bind fun y5=>(gI (nth cs 6)).bind fun y6=>(gI (nth cs 7)).bind fun y7=>(gI (nth cs 8)).bind fun y8=>(gI (nth cs 9)).bind fun y9=>(gB (nth cs 10)).bind fun y10=>(gI (nth cs 11)).bind fun y11=>(gI (nth cs 12)).bind fun y12=>some ⟨y0,y1,y2,y3,y4,y5,y6,y7,y8,y9,y10,y11,y12⟩
 |.order=>(gI (nth cs 0)).bind fun y0=>(gI (nth cs 1)).bind fun y1=>(gI (nth cs 2)).bind fun y2=>(gI (nth cs 3)).bind fun y3=>(gI (nth cs 4)).bind fun y4=>(gI (nth cs 5)).bind fun y5=>(gI (nth cs 6)).bind fun y6=>(gI (nth cs 7)).bind fun y7=>(gI (nth cs 8)).bind fun y8=>(gI (nth cs 9)).bind fun y9=>(gI (nth cs 10)).bind fun y10=>(gB (nth cs 11)).bind fun y11=>some ⟨y0,y1,y2,y3,y4,y5,y6,y7,y8,y9,y10,y11⟩
 |.cell=>(gI (nth cs 0)).bind fun y0=>(gI (nth cs 1)).bind fun y1=>(gI (nth cs 2)).bind fun y2=>(gI (nth cs 3)).bind fun y3=>some ⟨y0,y1,y2,y3⟩
 |.expo=>(gI (nth cs 0)).bind fun y0=>(gI (nth cs 1)).bind fun y1=>(gI (nth cs 2)).bind fun y2=>some ⟨y0,y1,y2⟩
 |.state=>(gI (nth cs 0)).bind fun y0=>(gI (nth cs 1)).bind fun y1=>(gL .order (nth cs 2)).bind fun y2=>(gL .cell (nth cs 3)).bind fun y3=>(gL .expo (nth cs 4)).bind fun y4=>(gL .i64 (nth cs 5)).bind fun y5=>(gB (nth cs 6)).bind fun y6=>(gI (nth cs 7)).bind fun y7=>(gI (nth cs 8)).bind fun y8=>(gI (nth cs 9)).bind fun y9=>some ⟨y0,y1,y2,y3,y4,y5,y6,y7,y8,y9⟩
 |.wal=>(gI (nth cs 0)).bind fun y0=>(gI (nth cs 1)).bind fun y1=>(gI (nth cs 2)).bind fun y2=>(gI (nth cs 3)).bind fun y3=>(gI (nth cs 4)).bind fun y4=>(gL .frame (nth cs 5)).bind fun y5=>some ⟨y0,y1,y2,y3,y4,y5⟩
 |.slot=>(gI (nth cs 0)).bind fun y0=>(gI (nth cs 1)).bind fun y1=>some ⟨y0,y1⟩
 |.msg=>(gI (nth cs 0)).bind fun y0=>(gI (nth cs 1)).bind fun y1=>(gI (nth cs 2)).bind fun y2=>(gI (nth cs 3)).bind fun y3=>(gI (nth cs 4)).bind fun y4=>(gI (nth cs 5)).bind fun y5=>(gI (nth cs 6)).bind fun y6=>(gI (nth cs 7)).bind fun y7=>(gI (nth cs 8)).bind fun y8=>some ⟨y0,y1,y2,y3,y4,y5,y6,y7,y8⟩
 |.note=>(gI (nth cs 0)).bind fun y0=>(gI (nth cs 1)).bind fun y1=>(gI (nth cs 2)).bind fun y2=>(gI (nth cs 3)).bind fun y3=>(gI (nth cs 4)).bind fun y4=>some ⟨y0,y1,y2,y3,y4⟩
 |.feed=>(gL .note (nth cs 0)).bind fun y0=>(gB (nth cs 1)).bind fun y1=>some ⟨y0,y1⟩
 |.gate=>(gL .file (nth cs 0)).bind fun y0=>(gI (nth cs 1)).bind fun y1=>(gI (nth cs 2)).bind fun y2=>(gB (nth cs 3)).bind fun y3=>(gI (nth cs 4)).bind fun y4=>(gI (nth cs 5)).bind fun y5=>(gI (nth cs 6)).bind fun y6=>(gI (nth cs 7)).bind fun y7=>(gI (nth cs 8)).bind fun y8=>(gL .frame (nth cs 9)).bind fun y9=>(gI (nth cs 10)).bind fun y10=>(gI (nth cs 11)).bind fun y11=>(gL .order (nth cs 12)).bind fun y12=>(gL .cell (nth cs 13)).bind fun y13=>(gL .expo (nth cs 14)).bind fun y14=>(gL .i64 (nth cs 15)).bind fun y15=>(gB (nth cs 16)).bind fun y16=>(gI (nth cs 17)).bind fun y17=>(gI (nth cs 18)).bind fun y18=>(gI (nth cs 19)).bind fun y19=>(gL .msg (nth cs 20)).bind fun y20=>(gL .note (nth cs 21)).bind fun y21=>(gB (nth cs 22)).bind fun y22=>(gI (nth cs 23)).bind fun y23=>(gB (nth cs 24)).bind fun y24=>some ⟨⟨y0,y1,y2,y3⟩,⟨y4,y5,y6,y7,y8,y9⟩,⟨y10,y11,y12,y13,y14,y15,y16,y17,y18,y19⟩,y20,⟨y21,y22⟩,y23,y24⟩
 |.bts=>(gL .u8 (nth cs 0)).bind fun y0=>some ⟨y0⟩
 |.keeper=>(gL .file (nth cs 0)).bind fun y0=>(gI (nth cs 1)).bind fun y1=>(gI (nth cs 2)).bind fun y2=>(gB (nth cs 3)).bind fun y3=>(gI (nth cs 4)).bind fun y4=>some ⟨⟨y0,y1,y2,y3⟩,y4⟩
 |.a3=>(gI (nth cs 0)).bind fun y0=>(gI (nth cs 1)).bind fun y1=>(gI (nth cs 2)).bind fun y2=>some ⟨y0,y1,y2⟩
 |.a4=>(gU (nth cs 0)).bind fun y0=>(gU (nth cs 1)).bind fun y1=>(gU (nth cs 2)).bind fun y2=>(gU (nth cs 3)).bind fun y3=>some ⟨y0,y1,y2,y3⟩
 |.a6=>(gI (nth cs 0)).bind fun y0=>(gI (nth cs 1)).bind fun y1=>(gI (nth cs 2)).bind fun y2=>(gI (nth cs 3)).bind fun y3=>(gI (nth cs 4)).bind fun y4=>(gI (nth cs 5)).bind fun y5=>some ⟨y0,y1,y2,y3,y4,y5⟩
 |.a20=>(gU (nth cs 0)).bind fun y0=>(gU (nth cs 1)).bind fun y1=>(gU (nth cs 2)).bind fun y2=>(gU (nth cs 3)).bind fun y3=>(gU (nth cs 4)).bind fun y4=>(gU (nth cs 5)).bind fun y5=>(gU (nth cs 6)).bind fun y6=>(gU (nth cs 7)).bind fun y7=>(gU (nth cs 8)).bind fun y8=>(gU (nth cs 9)).bind fun y9=>(gU (nth cs 10)).bind fun y10=>(gU (nth cs 11)).bind fun y11=>(gU (nth cs 12)).bind fun y12=>(gU (nth cs 13)).bind fun y13=>(gU (nth cs 14)).bind fun y14=>(gU (nth cs 15)).bind fun y15=>(gU (nth cs 16)).bind fun y16=>(gU (nth cs 17)).bind fun y17=>(gU (nth cs 18)).bind fun y18=>(gU (nth cs 19)).bind fun y19=>some ⟨y0,y1,y2,y3,y4,y5,y6,y7,y8,y9,y10,y11,y12,y13,y14,y15,y16,y17,y18,y19⟩
 |.big=>(gW (nth cs 0)).bind fun y0=>(gW (nth cs 1)).bind fun y1=>some ⟨y0,y1⟩
 |.went=>(gL .file (nth cs 0)).bind fun y0=>(gI (nth cs 1)).bind fun y1=>(gI (nth cs 2)).bind fun y2=>(gB (nth cs 3)).bind fun y3=>(gI (nth cs 4)).bind fun y4=>(gI (nth cs 5)).bind fun y5=>(gI (nth cs 6)).bind fun y6=>(gI (nth cs 7)).bind fun y7=>(gI (nth cs 8)).bind fun y8=>(gL .frame (nth cs 9)).bind fun y9=>(gI (nth cs 10)).bind fun y10=>(gI (nth cs 11)).bind fun y11=>(gL .order (nth cs 12)).bind fun y12=>(gL .cell (nth cs 13)).bind fun y13=>(gL .expo (nth cs 14)).bind fun y14=>(gL .i64 (nth cs 15)).bind fun y15=>(gB (nth cs 16)).bind fun y16=>(gI (nth cs 17)).bind fun y17=>(gI (nth cs 18)).bind fun y18=>(gI (nth cs 19)).bind fun y19=>(gL .msg (nth cs 20)).bind fun y20=>(gL .note (nth cs 21)).bind fun y21=>(gB (nth cs 22)).bind fun y22=>(gI (nth cs 23)).bind fun y23=>(gB (nth cs 24)).bind fun y24=>(gL .msg (nth cs 25)).bind fun y25=>(gI (nth cs 26)).bind fun y26=>some ⟨⟨⟨y0,y1,y2,y3⟩,⟨y4,y5,y6,y7,y8,y9⟩,⟨y10,y11,y12,y13,y14,y15,y16,y17,y18,y19⟩,y20,⟨y21,y22⟩,y23,y24⟩,y25,y26⟩
 )else none
end Go.Av
namespace Go.Av
open Go
def inI (n:Int):Prop:= -9223372036854775808<=n/\n<=9223372036854775807
def inU (n:Int):Prop:=0<=n/\n<=255
def inW (n:Int):Prop:=0<=n/\n<=18446744073709551615
def okL {α:Type} (p:α->Prop) (l:List α):Prop:=(∀x∈l,p x)/\l.length<=9223372036854775807
def anP (x:Int):Prop:=inU x
def ah9 (x:Int):Prop:=inI x
def as9 (x:Bool):Prop:=True
def aiT (x:List UInt8):Prop:=x.length<=9223372036854775807
structure anG (x:aS):Prop where
 name:aiT x.name
 data:okL anP x.data
 J:inI x.J
def Yj (x:aS):Prop:=anG x
structure aaU (x:ak):Prop where
 b:okL Yj x.b
 qZ:inI x.qZ
 T:inI x.T
def arZ (x:ak):Prop:=aaU x
structure ajW (x:fE):Prop where
 q9:inI x.q9
 B:inI x.B
 L:inI x.L
 b0:inI x.b0
 b1:inI x.b1
 b2:inI x.b2
 b3:inI x.b3
 b4:inI x.b4
 b5:inI x.b5
def abM (x:fE):Prop:=ajW x
structure mG (x:iJ):Prop where
 L:inI x.L
 order:inI x.order
 y:inI x.y
 z:inI x.z
 X:inI x.X
 N:inI x.N
 I:inI x.I
 long:inI x.long
 qX:inI x.qX
 opn:inI x.opn
 A:inI x.A
 Z:inI x.Z
def asb (x:iJ):Prop:=mG x
structure eY (x:aC):Prop where
 id:inI x.id
 y:inI x.y
 z:inI x.z
 X:inI x.X
 N:inI x.N
 I:inI x.I
 H:inI x.H
 P:inI x.P
 V:inI x.V
 U:inI x.U
 O:inI x.O
def Xz (x:aC):Prop:=eY x
structure F5 (x:bF):Prop where
 pos:inI x.pos
 buy:inI x.buy
 qK:inI x.qK
 opn:inI x.opn
def TY (x:bF):Prop:=F5 x
structure am7 (x:jQ):Prop where
 long:inI x.long
 qX:inI x.qX
 opn:inI x.opn
def ad3 (x:jQ):Prop:=am7 x
structure iD (x:aB):Prop where
 t:inI x.t
 i:inI x.i
 a:okL Xz x.a
 cells:okL TY x.cells
 G:okL ad3 x.G
 W:okL ah9 x.W
 S:inI x.S
 A:inI x.A
 B:inI x.B
def aq0 (x:aB):Prop:=iD x
structure apD (x:dR):Prop where
 q9:inI x.q9
 next:inI x.next
 J:inI x.J
 seg:inI x.seg
 qQ:inI x.qQ
 M:okL abM x.M
def auu (x:dR):Prop:=apD x
structure ann (x:dU):Prop where
 K:inI x.K
 B:inI x.B
def asG (x:dU):Prop:=ann x
structure ap1 (x:jh):Prop where
 L:inI x.L
 order:inI x.order
 y:inI x.y
 z:inI x.z
 X:inI x.X
 N:inI x.N
 I:inI x.I
 O:inI x.O
 B:inI x.B
def ahY (x:jh):Prop:=ap1 x
structure xu (x:dV):Prop where
 A:inI x.A
 Z:inI x.Z
 order:inI x.order
 N:inI x.N
 I:inI x.I
def ad1 (x:dV):Prop:=xu x
structure anU (x:jl):Prop where
 F:okL ad1 x.F
def asu (x:jl):Prop:=anU x
structure adO (x:bD):Prop where
 disk_files:okL Yj x.disk.b
 disk_room:inI x.disk.qZ
 disk_fuse:inI x.disk.T
 wal_epoch:inI x.wal.q9
 wal_next:inI x.wal.next
 wal_sure:inI x.wal.J
 wal_seg:inI x.wal.seg
 wal_count:inI x.wal.qQ
 wal_wait:okL abM x.wal.M
 state_accounts:inI x.state.t
 state_symbols:inI x.state.i
 state_orders:okL Xz x.state.a
 state_cells:okL TY x.state.cells
 state_limits:okL ad3 x.state.G
 state_caps:okL ah9 x.state.W
 state_last:inI x.state.S
 state_seq:inI x.state.A
 state_lsn:inI x.state.B
 Y:okL ahY x.Y
 feed_held:okL ad1 x.feed.F
 K:inI x.K
def atc (x:bD):Prop:=adO x
structure ap7 (x:adF):Prop where
 all:okL anP x.all
def auf (x:adF):Prop:=ap7 x
structure agG (x:ig):Prop where
 d_files:okL Yj x.d.b
 d_room:inI x.d.qZ
 d_fuse:inI x.d.T
 e:inI x.e
def apl (x:ig):Prop:=agG x
structure atg (x:SA3):Prop where
 a0:inI x.a0
 a1:inI x.a1
 a2:inI x.a2
def avz (x:SA3):Prop:=atg x
structure ath (x:SA4):Prop where
 a0:inU x.a0
 a1:inU x.a1
 a2:inU x.a2
 a3:inU x.a3
def avj (x:SA4):Prop:=ath x
structure atB (x:SA6):Prop where
 a0:inI x.a0
 a1:inI x.a1
 a2:inI x.a2
 a3:inI x.a3
 a4:inI x.a4
 a5:inI x.a5
def avZ (x:SA6):Prop:=atB x
structure aq6 (x:akv):Prop where
 a0:inU x.a0
 a1:inU x.a1
 a2:inU x.a2
 a3:inU x.a3
 a4:inU x.a4
 a5:inU x.a5
 a6:inU x.a6
 a7:inU x.a7
 a8:inU x.a8
 a9:inU x.a9
 a10:inU x.a10
 a11:inU x.a11
 a12:inU x.a12
 a13:inU x.a13
 a14:inU x.a14
 a15:inU x.a15
 a16:inU x.a16
 a17:inU x.a17
 a18:inU x.a18
 a19:inU x.a19
def auF (x:akv):Prop:=aq6 x
structure arz (x:arK):Prop where
 high:inW x.high
 low:inW x.low
def atY (x:arK):Prop:=arz x
structure anQ (x:BG):Prop where
 g_disk_files:okL Yj x.g.disk.b
 g_disk_room:inI x.g.disk.qZ
 g_disk_fuse:inI x.g.disk.T
 g_wal_epoch:inI x.g.wal.q9
 g_wal_next:inI x.g.wal.next
 g_wal_sure:inI x.g.wal.J
 g_wal_seg:inI x.g.wal.seg
 g_wal_count:inI x.g.wal.qQ
 g_wal_wait:okL abM x.g.wal.M
 g_state_accounts:inI x.g.state.t
 g_state_symbols:inI x.g.state.i
 g_state_orders:okL Xz x.g.state.a
 g_state_cells:okL TY x.g.state.cells
 g_state_limits:okL ad3 x.g.state.G
 g_state_caps:okL ah9 x.g.state.W
 g_state_last:inI x.g.state.S
 g_state_seq:inI x.g.state.A
 g_state_lsn:inI x.g.state.B
 g_outbox:okL ahY x.g.Y
 g_feed_held:okL ad1 x.g.feed.F
 g_gen:inI x.g.K
 l:okL ahY x.l
 e:inI x.e
def asI (x:BG):Prop:=anQ x
def okE:(e:E)->den e->Prop
 |.u8,x=>anP x
 |.i64,x=>ah9 x
 |.bool,x=>as9 x
 |.str,x=>aiT x
 |.file,x=>Yj x
 |.disk,x=>arZ x
 |.frame,x=>abM x
 |.recd,x=>asb x
 |.order,x=>Xz x
 |.cell,x=>TY x
 |.expo,x=>ad3 x
 |.state,x=>aq0 x
 |.wal,x=>auu x
 |.slot,x=>asG x
 |.msg,x=>ahY x
 |.note,x=>ad1 x
 |.feed,x=>asu x
 |.gate,x=>atc x
 |.bts,x=>auf x
 |.keeper,x=>apl x
 |.a3,x=>avz x
 |.a4,x=>avj x
 |.a6,x=>avZ x
 |.a20,x=>auF x
 |.big,x=>atY x
 |.went,x=>asI x
universe u
def cnd {α:Type u} (b:Bool) (x y:α):α:=match b with | true=>x | false=>y
def ah {α β:Type} (o:Option α) (f:α->Option β):Option β:=o.bind f
def dK {α β γ:Type} (w:α ⊕ β) (f:α->γ) (g:β->γ):γ:=match w with | .inl a=>f a | .inr b=>g b
def bad {τ:Type} {α:Type u} (n:Nat) (a:α):Option τ:=none
noncomputable def amH {τ:Type} (n:Int) (f:Bool->Option τ):Option τ:=open Classical in if n=0 then (if f true=f false then f true else none)else f false
def wr (k:IntKind) (n:Int):Int:=k.wrap n
def ay (a b:Int):Int:=a+b
def aO (a b:Int):Int:=a - b
def dA (a b:Int):Int:=a*b
def AL (a b:Int):Int:=a.tdiv b
def ug (a b:Int):Int:=a.tmod b
def jT (k:IntKind) (a b:Int):Int:=((BitVec.ofInt k.bits a &&& BitVec.ofInt k.bits b).toNat:Int)
def ior (k:IntKind) (a b:Int):Int:=((BitVec.ofInt k.bits a ||| BitVec.ofInt k.bits b).toNat:Int)
def gX (k:IntKind) (a b:Int):Int:=((BitVec.ofInt k.bits a ^^^ BitVec.ofInt k.bits b).toNat:Int)
def atr (k:IntKind) (a b:Int):Int:=((BitVec.ofInt k.bits a &&& ~~~BitVec.ofInt k.bits b).toNat:Int)
def sV (k:IntKind) (a b:Int):Int:=a*2^(min b.toNat k.bits)
def dw (k:IntKind) (a b:Int):Int:=a.fdiv (2^(min b.toNat k.bits))
def ieq (a b:Int):Bool:=a == b
def ilt (a b:Int):Bool:=decide (a<b)
def ile (a b:Int):Bool:=decide (a<=b)
def kP (a b:Int):Int:=if b<a then b else a
def imax (a b:Int):Int:=if b>a then b else a
def ax (a:Bool):Bool:= !a
def band (a b:Bool):Bool:=a&&b
def bor (a b:Bool):Bool:=a||b
def beq (a b:Bool):Bool:=a == b
def seq (a b:List UInt8):Bool:=a == b
def slt (a b:List UInt8):Bool:=Op.bytesLess a b
def itn (a:Int):Nat:=a.toNat
def nti (a:Nat):Int:=(a:Int)
def nad (a b:Nat):Nat:=a+b
def len {α:Type} (l:List α):Int:=(l.length:Int)
def aJ {α:Type} (a b:List α):List α:=a++b
def aj {α:Type} [Inhabited α] (l:List α) (i:Nat):α:=l.getD i default
def dP {α:Type} (l:List α) (i:Nat) (x:α):List α:=l.set i x
def bZ {α:Type} (l:List α) (i:Nat):List α:=l.drop i
def aV {α:Type} (l:List α) (i:Nat):List α:=l.take i
def nol {α:Type} (l:List α):List α:=l.filter fun _=>false
def sK (α:Type) [Inhabited α] (n:Nat):List α:=List.replicate n default
def s2u (l:List UInt8):List Int:=l.map fun c=>(c.toNat:Int)
def u2s (l:List Int):List UInt8:=l.map fun n=>UInt8.ofNat n.toNat
def jq {α:Type} (l:List α) (i:Nat) (ys:List α):List α:=l.take i++(ys++l.drop (i+ys.length))
def SI (l:List UInt8) (i:Nat):Int:=((l.getD i 0).toNat:Int)
def stp {τ α:Type} (A:α) (k:α->Option τ):Option τ:=k A
def avw {τ α:Type} (A:α) (k:α->Option τ):Option τ:=k A
def LF:Nat:=4611686018427387904
def bU {V W:Type} (step:V->Option (V ⊕ W)):Nat->V->Option W
 |0,_=>none
 |n+1,v=>(step v).bind fun r=>match r with
  |.inl v'=>bU step n v'
  |.inr w=>some w
def ail (a b:List UInt8):Int:=cnd (slt a b) (-1) (cnd (seq a b) 0 1)
def NS:Nat->Nat->List UInt8
 |0,_=>[]
 |k+1,u=>if u<10 then [UInt8.ofNat (48+u)]else NS k (u / 10)++[UInt8.ofNat (48+u%10)]
def fmt10 (n:Int):List UInt8:=if n<0 then 45::NS 20 n.natAbs else NS 20 n.toNat
def ai2 (n b:Int):Option (List UInt8):=cnd (band (ieq b 10) (band (ile (-9223372036854775808) n) (ile n 9223372036854775807))) (some (fmt10 n)) none
def akG (l:List UInt8):Nat->List UInt8
 |0=>[]
 |c+1=>l++akG l c
def aiR (s:List UInt8) (c:Int):Option (List UInt8):=cnd (band (ile 0 c) (band (ile c 9223372036854775807) (ile (dA (len s) c) 140737488355328))) (some (akG s (itn c))) none
def pU (l:List UInt8):Nat:=l.foldl (fun n c=>n*10+(c.toNat - 48)) 0
def ji (pre l:List UInt8):Int:=
 if l.take pre.length=pre/\(l.drop pre.length).length=10/\(∀c∈l.drop pre.length,48<=c/\c<=57)/\pU (l.drop pre.length)<=1000000000 then ((pU (l.drop pre.length):Nat):Int)else 0
def Je {α:Type} (l:List α):Option (List α):=bif Nat.ble l.length 999999 then some l else none
theorem alP {α:Type} {l y:List α} (h:Je l=some y):amH (len l) (fun y0=>cnd (beq y0 true) (some []) (cnd (ile (len l) 68719476736) (some l) none))=some y:=by
 unfold Je at h;cases hb:Nat.ble l.length 999999 with
 |false=>rw[hb]at h;cases h
 |true=>
  rw[hb]at h;have h:y=l:=(awr h).symm;subst h;have hl:=axk hb;have hc:ile (len y) 68719476736=true:=awv (by unfold len;omega);unfold amH;simp only[hc];by_cases h0:len y=0
  ·have:y=[]:=aw8 (by unfold len at h0;omega);subst this;simp [len,cnd,beq,ile]
  ·rw[awg h0];simp [cnd,beq]
noncomputable section
inductive Blk where
 |raw (cs:List AV)
 |arr (e:E) (l:List (den e))
structure Ent where
 fz:Bool
 b:Blk
def look {α:Type u}:List (Nat×α)->Nat->Option α
 |[],_=>none
 |(k,v)::r,i=>bif Nat.beq k i then some v else look r i
def get (l:List (Nat×AV)) (t:Nat):AV:=
 match look l t with
 |some v=>v
 |none=> .undef
structure FS where
 fr:List (Nat×AV)
 h:List (Nat×Option Ent)
 clk:Nat
def FS.hp (A:FS) (id:Nat):Option Ent:=
 match look A.h id with
 |some e=>e
 |none=>none
def FS.setT (A:FS) (t:Nat) (v:AV):FS:={ A with fr:=(t,v)::A.fr }
def ofV:Value->AV
 |.int k n=> .int k n
 |.bool b=> .bool b
 |.string s=> .str s.data.toList
 |.pointer none=> .nilp
 |.slice none 0 0=> .nils
 |.nilFunc=> .nilf
 |.nilIface=> .nili
 |_=> .undef
def cellsOfV:Value->List AV
 |.agg cs=>cs.toList.map ofV
 |v=>[ofV v]
def FS.ev (A:FS):Operand->AV
 |.tmp t=>get A.fr t
 |.const v=>(match v with | .agg cs=>bif cs.all Value.oneCell then .agg (cs.toList.map ofV)else .undef | v=>ofV v)
 |.func f=> .fn f []
 |.global _=> .undef
def AV.cellsA:AV->List AV
 |.agg cs=>cs
 |v=>[v]
def acf:AV->Bool
 |.undef | .agg _ | .tup _ | .cond _ _ _ _ _=>false
 |_=>true
def Nh:List AV->Bool
 |[]=>true
 |v::r=>acf v&&Nh r
def boxOk:AV->Bool
 |.agg _=>true
 |v=>acf v
def IB:List AV->Nat->List AV->List AV
 |l,_,[]=>l
 |l,i,v::vs=>IB (l.set i v) (i+1) vs
def D7 (hp:Nat->Option Ent):AV->AV×List Nat
 |.mf id=>match hp id with
  |some ⟨_,.arr e l⟩=>(.ro e l false,[id])
  |_=>(.undef,[])
 |.ms id off n=>match hp id with
  |some ⟨_,.arr e l⟩=>(.ro e (aV (bZ l off) n) false,[id])
  |_=>(.undef,[])
 |v=>(v,[])
def jG (hp:Nat->Option Ent):List AV->List AV×List Nat
 |[]=>([],[])
 |v::r=>((D7 hp v).1::(jG hp r).1,(D7 hp v).2++(jG hp r).2)
def anS (hp:Nat->Option Ent):AV->AV×List Nat
 |.agg cs=>(.agg (jG hp cs).1,(jG hp cs).2)
 |v=>D7 hp v
def freeze (hp:Nat->Option Ent):List Nat->List (Nat×Option Ent)
 |[]=>[]
 |i::r=>(i,match hp i with | some e=>some ⟨true,e.b⟩ | none=>none)::freeze hp r
structure Eff where
 v:AV
 u:List (Nat×Option Ent)
structure aA where
 σ:Type
 τ:Type
 inh:Inhabited τ
 dec:(Nat->Option Ent)->List AV->Option σ
 run:σ->Option τ
 enc:Nat->τ->AV
 blk:Nat->τ->List (Nat×Option Ent)
 own:List AV->List Nat
 scal:Bool
 upd:List AV->τ->List (Nat×Option Ent)
inductive Ex where
 |normal | ret | exit (id:Nat)
structure dB where
 V:Type
 W:Type
 dec:FS->Option V
 run:V->Option W
 out:{τ:Type}->FS->W->(Ex->FS->Option τ)->Option τ
structure Cx where
 P:Program
 ety:Nat->Option E
 fn:Nat->Option aA
 inl:Nat->Bool
 lp:Nat->Nat->Option dB
def acF:Int:=68719476736
def adA (P:Program) (t:Nat):Option Bool:=
 match P.underlying t with
 |some (.struct _)=>some true
 |some (.array _ _)=>some true
 |some _=>some false
 |none=>none
def fM (P:Program) (t:Nat):Nat:=match P.info? t with | some i=>i.size | none=>0
def CX (P:Program) (t:Nat):List AV:=match P.info? t with
 |some i=>(match i.zero with | some v=>bif v.cells.all Value.oneCell then cellsOfV v else [] | none=>[])
 |none=>[]
def apy (P:Program) (s f:Nat):Option Nat:=match P.underlying s with
 |some (.struct fs)=>(match fs[f]? with | some x=>some x.offset | none=>none)
 |_=>none
def fty (P:Program) (s f:Nat):Option Nat:=match P.underlying s with
 |some (.struct fs)=>(match fs[f]? with | some x=>some x.type | none=>none)
 |_=>none
def ao0:List AV->Nat->Option AV
 |[],_=>none
 |v::_,0=>some v
 |_::r,k+1=>ao0 r k
def part (P:Program) (t:Nat) (cs:List AV) (off:Nat):Option AV:=
 match adA P t with
 |some true=>bif Nat.ble (off+fM P t) cs.length then some (.agg ((cs.drop off).take (fM P t)))else none
 |some false=>ao0 cs off
 |none=>none
def Lh (P:Program) (t:Nat) (n:Nat):Bool:=match P.underlying t with
 |some (.slice el)=>Nat.beq (fM P el) n
 |_=>false
def afZ (P:Program) (t:Nat):Bool:=match P.underlying t with | some .string=>true | _=>false
def slT (P:Program) (t:Nat):Bool:=match P.underlying t with | some (.slice _)=>true | _=>false
def Xj:IntKind->IntKind->Bool
 |.i8,.i8 | .i16,.i16 | .i32,.i32 | .i64,.i64 | .u8,.u8 | .u16,.u16 | .u32,.u32 | .u64,.u64=>true
 |_,_=>false
def aqd (op:BinOp) (k:IntKind) (a b:Int):Option (Bool×AV):=
 match op with
 |.add=>some (true,.int k (wr k (ay a b)))
 |.sub=>some (true,.int k (wr k (aO a b)))
 |.mul=>some (true,.int k (wr k (dA a b)))
 |.quo=>some (ax (ieq b 0),.int k (wr k (AL a b)))
 |.rem=>some (ax (ieq b 0),.int k (ug a b))
 |.and=>some (true,.int k (wr k (jT k a b)))
 |.or=>some (true,.int k (wr k (ior k a b)))
 |.xor=>some (true,.int k (wr k (gX k a b)))
 |.andNot=>some (true,.int k (wr k (atr k a b)))
 |.eql=>some (true,.bool (ieq a b))
 |.neq=>some (true,.bool (ax (ieq a b)))
 |.lss=>some (true,.bool (ilt a b))
 |.leq=>some (true,.bool (ile a b))
 |.gtr=>some (true,.bool (ilt b a))
 |.geq=>some (true,.bool (ile b a))
 |_=>none
def eqFields (f:Nat->AV->AV->Option Bool) (P:Program) (xs ys:List AV):List Field->Option Bool
 |[]=>some true
 |[fd]=>match part P fd.type xs fd.offset,part P fd.type ys fd.offset with
  |some x,some y=>f fd.type x y
  |_,_=>none
 |fd::r=>match part P fd.type xs fd.offset,part P fd.type ys fd.offset with
  |some x,some y=>(match f fd.type x y,eqFields f P xs ys r with
   |some a,some b=>some (band a b)
   |_,_=>none)
  |_,_=>none
def XW (f:AV->AV->Option Bool) (P:Program) (el n:Nat) (xs ys:List AV):Nat->Nat->Option Bool
 |0,_=>some true
 |m+1,i=>match part P el xs (i*n),part P el ys (i*n)with
  |some x,some y=>(match f x y,XW f P el n xs ys m (i+1)with
   |some a,some b=>some (band a b)
   |_,_=>none)
  |_,_=>none
def eqT (P:Program):Nat->Nat->AV->AV->Option Bool
 |0,_,_,_=>none
 |d+1,t,x,y=>
  match P.underlying t with
  |some .bool=>(match x,y with | .bool a,.bool b=>some (beq a b) | _,_=>none)
  |some (.int _)=>(match x,y with | .int k a,.int k' b=>bif Xj k k' then some (ieq a b)else none | _,_=>none)
  |some .string=>(match x,y with | .str a,.str b=>some (seq a b) | _,_=>none)
  |some (.pointer _)=>(match x,y with
   |.nilp,.nilp=>some true
   |.nilp,.mp _ _ | .mp _ _,.nilp | .nilp,.ep _ _ _ | .ep _ _ _,.nilp=>some false
   |_,_=>none)
  |some (.slice _)=>(match x,y with | .nils,.nils=>some true | _,_=>none)
  |some (.func _ _ _)=>(match x,y with
   |.nilf,.nilf=>some true
   |.fn _ _,.nilf | .nilf,.fn _ _=>some false
   |_,_=>none)
  |some (.struct fields)=>(match x,y with
   |.agg xs,.agg ys=>bif P.stoodInHeld t||fields.toList.any (fun f=>f.name == "_")then none
     else eqFields (eqT P d) P xs ys fields.toList
   |_,_=>none)
  |some (.array n el)=>(match x,y with
   |.agg xs,.agg ys=>XW (eqT P d el) P el (fM P el) xs ys n 0
   |_,_=>none)
  |_=>none
def am2 (op:BinOp) (a b:List UInt8):Option AV:=
 match op with
 |.add=>some (.str (aJ a b))
 |.eql=>some (.bool (seq a b))
 |.neq=>some (.bool (ax (seq a b)))
 |.lss=>some (.bool (slt a b))
 |.leq=>some (.bool (bor (slt a b) (seq a b)))
 |.gtr=>some (.bool (ax (bor (slt a b) (seq a b))))
 |.geq=>some (.bool (ax (slt a b)))
 |_=>none
def auw (P:Program) (op:BinOp) (t:Nat) (x y:AV):Option (Bool×AV):=
 match x,y with
 |.int k a,.int k' b=>bif Xj k k' then aqd op k a b else none
 |.str a,.str b=>(match am2 op a b with
   |some v=>some (match op with | .add=>ile (ay (len a) (len b)) acF | _=>true,v)
   |none=>none)
 |a,b=>match op with
  |.eql=>(match eqT P 16 t a b with | some c=>some (!P.eqGuardType P.depth t,.bool c) | none=>none)
  |.neq=>(match eqT P 16 t a b with | some c=>some (!P.eqGuardType P.depth t,.bool (ax c)) | none=>none)
  |_=>none
def aiZ (op:BinOp) (x y:AV):Option (Bool×AV):=
 match op,x,y with
 |.shl,.int k a,.int _ b=>some (ile 0 b,.int k (wr k (sV k a b)))
 |.shr,.int k a,.int _ b=>some (ile 0 b,.int k (dw k a b))
 |_,_,_=>none
def lst (hp:Nat->Option Ent) (e:E):AV->Option (List (den e))
 |.nils=>some []
 |.ro e' l _=>if h:e'=e then some (h▸l)else none
 |.mf id=>match hp id with
  |some ⟨_,.arr e' l⟩=>if h:e'=e then some (h▸l)else none
  |_=>none
 |.ms id off n=>match hp id with
  |some ⟨_,.arr e' l⟩=>if h:e'=e then some (aV (bZ (h▸l) off) n)else none
  |_=>none
 |.str s=>match e with
  |.u8=>some (s2u s)
  |_=>none
 |_=>none
def alf (hp:Nat->Option Ent):AV->Option Int
 |.nils=>some 0
 |.ro _ l _=>some (len l)
 |.mf id=>match hp id with
  |some ⟨_,.arr _ l⟩=>some (len l)
  |_=>none
 |.ms _ _ n=>some (nti n)
 |.rs _ _ _ n=>some (nti n)
 |.str s=>some (len s)
 |_=>none
def atD:AV->List Nat
 |.mp id _ | .ep id _ _ | .mf id | .ms id _ _ | .rs id _ _ _=>[id]
 |_=>[]
def aqK:List AV->List Nat
 |[]=>[]
 |v::r=>atD v++aqK r
def anc:AV->List Nat
 |.fn _ cs | .fnb _ cs=>aqK cs
 |v=>atD v
def atj:List AV->List Nat
 |[]=>[]
 |v::r=>anc v++atj r
def foot:AV->List Nat
 |.agg cs=>atj cs
 |v=>anc v
def aaC:List AV->List Nat
 |[]=>[]
 |v::r=>foot v++aaC r
def mmL (isMax:Bool) (k:IntKind):Int->List AV->Option AV
 |a,[]=>some (.int k a)
 |a,.int k' b::r=>bif Xj k k' then mmL isMax k (bif isMax then imax a b else kP a b) r else none
 |_,_=>none
def sliceB (n:Int) (lo hi:Option AV):Option (Bool×Option Int×Option Int):=
 match lo,hi with
 |none,none=>some (true,none,none)
 |some (.int _ a),none=>some (band (ile 0 a) (ile a n),some a,none)
 |none,some (.int _ b)=>some (band (ile 0 b) (ile b n),none,some b)
 |some (.int _ a),some (.int _ b)=>some (band (band (ile 0 a) (ile a b)) (ile b n),some a,some b)
 |_,_=>none
def agt {α:Type} (l:List α):Option Int->Option Int->List α
 |none,none=>l
 |some a,none=>bZ l (itn a)
 |none,some b=>aV l (itn b)
 |some a,some b=>aV (bZ l (itn a)) (itn (aO b a))
def auh {α:Type} (l:List α):Option Int->Option Int->List α
 |none,some (.ofNat 0)=>nol l
 |a,b=>agt l a b
def avG:Option Int->Nat
 |none=>0
 |some a=>itn a
def ajO (n:Int):Option Int->Option Int->Nat
 |none,none=>itn n
 |some a,none=>itn (aO n a)
 |none,some b=>itn b
 |some a,some b=>itn (aO b a)
def aua (off:Nat):Option Int->Nat
 |none=>off
 |some a=>nad off (itn a)
def amI (P:Program) (hp:Nat->Option Ent) (t:Nat) (x:AV) (lo hi mx:Option AV):Option (Bool×AV):=
 match x,mx with
 |.str s,none=>bif afZ P t then (match sliceB (len s) lo hi with | some (ob,a,b)=>some (ob,.str (agt s a b)) | none=>none)else none
 |.ro e l ex,none=>bif Lh P t (esz e)then (match sliceB (len l) lo hi with
   |some (ob,a,b)=>some (ob,.ro e (agt l a b) (match hi with | none=>ex | some _=>false))
   |none=>none)else none
 |.ro e l _,some (.int _ m)=>bif !Lh P t (esz e)then none else (match sliceB (len l) lo hi,hi with
   |some (ob,a,b),some (.int _ b')=>some (band ob (band (ile b' m) (ile m (len l))),.ro e (auh l a b) (ieq b' m))
   |_,_=>none)
 |.nils,none=>bif !slT P t then none else (match sliceB 0 lo hi with | some (ob,_,_)=>some (ob,.nils) | none=>none)
 |.mf id,some (.int _ m)=>(match hp id,hi with
   |some ⟨_,.arr e l⟩,some (.int _ b')=>(match bif Lh P t (esz e)then sliceB (len l) lo hi else none with
    |some (ob,_,_)=>some (band ob (band (ile b' m) (ile m (len l))),.undef)
    |none=>none)
   |_,_=>none)
 |.mf id,none=>(match hp id with
   |some ⟨_,.arr e l⟩=>(match bif Lh P t (esz e)then sliceB (len l) lo hi else none with | some (ob,a,b)=>some (ob,.ms id (avG a) (ajO (len l) a b)) | none=>none)
   |_=>none)
 |.ms id off n,none=>(match hp id,hi with
   |some ⟨_,.arr e _⟩,none=>(match bif Lh P t (esz e)then sliceB (nti n) lo hi else none with | some (ob,a,b)=>some (ob,.ms id (aua off a) (ajO (nti n) a b)) | none=>none)
   |some ⟨_,.arr e l⟩,some _=>(match bif Lh P t (esz e)then sliceB (aO (len l) (nti off)) lo hi else none with | some (ob,a,b)=>some (ob,.ms id (aua off a) (ajO (aO (len l) (nti off)) a b)) | none=>none)
   |_,_=>none)
 |.mp id off,none=>(match P.underlying t,lo,hi with
   |some (.array n el),none,none=>bif Nat.beq off 0 then some (true,.rs id (fM P el) 0 n)else none
   |some (.array n el),none,some (.int _ b)=>bif Nat.beq off 0 then some (band (ile 0 b) (ile b (nti n)),.rs id (fM P el) 0 b.toNat)else none
   |_,_,_=>none)
 |.rs id sz off n,none=>bif !Lh P t sz then none else (match lo,hi with
   |none,none=>some (true,.rs id sz off n)
   |some (.int _ a),none=>some (band (ile 0 a) (ile a (nti n)),.rs id sz (off+a.toNat) (n - a.toNat))
   |none,some (.int _ b)=>some (band (ile 0 b) (ile b (nti n)),.rs id sz off b.toNat)
   |_,_=>none)
 |_,_=>none
def inB (i:Int) (n:Int):Bool:=band (ile 0 i) (ilt i n)
def amj (P:Program) (hp:Nat->Option Ent) (t:Nat) (x ix:AV):Option (Bool×AV):=
 match x,ix with
 |.ro e l _,.int _ i=>bif Lh P t (esz e)then some (inB i (len l),.rp e (aj l (itn i)) 0)else none
 |.mf id,.int _ i=>(match hp id with
   |some ⟨_,.arr e l⟩=>bif Lh P t (esz e)then some (inB i (len l),.ep id (itn i) 0)else none
   |_=>none)
 |.ms id off n,.int _ i=>(match hp id with
   |some ⟨_,.arr e _⟩=>bif Lh P t (esz e)then some (inB i (nti n),.ep id (nad off (itn i)) 0)else none
   |_=>none)
 |.rs id sz off n,.int _ i=>bif Lh P t sz then some (inB i (nti n),.mp id ((off+i.toNat)*sz))else none
 |.mp id off,.int _ i=>(match P.underlying t with
   |some (.array n el)=>some (inB i (nti n),.mp id (off+i.toNat*fM P el))
   |_=>none)
 |_,_=>none
def alL (x:AV) (o:Nat):Option AV:=
 match x with
 |.mp id off=>some (.mp id (off+o))
 |.ep id i j=>some (.ep id i (j+o))
 |.rp e v j=>some (.rp e v (j+o))
 |_=>none
def alx (P:Program) (hp:Nat->Option Ent) (t:Nat) (x:AV):Option AV:=
 match x with
 |.mp id off=>(match hp id with
   |some ⟨_,.raw cs⟩=>part P t cs off
   |_=>none)
 |.ep id i j=>(match hp id with
   |some ⟨_,.arr e l⟩=>part P t (cells e (aj l i)) j
   |_=>none)
 |.rp e v j=>part P t (cells e v) j
 |_=>none
def ams (hp:Nat->Option Ent) (x y:AV):Option (List (Nat×Option Ent)):=
 bif Nh y.cellsA then (match x with
 |.mp id off=>(match hp id with
   |some ⟨false,.raw cs⟩=>bif Nat.ble (off+y.cellsA.length) cs.length then some [(id,some ⟨false,.raw (IB cs off y.cellsA)⟩)]else none
   |_=>none)
 |.ep id i j=>(match hp id with
   |some ⟨false,.arr e l⟩=>bif Nat.ble (j+y.cellsA.length) (esz e)then (match Ew e (IB (cells e (aj l i)) j (jG hp y.cellsA).1)with
    |some v=>bif !(jG hp y.cellsA).2.any (fun k=>Nat.beq k id)then some (freeze hp (jG hp y.cellsA).2++[(id,some ⟨false,.arr e (dP l i v)⟩)])else none
    |none=>none)else none
   |_=>none)
 |_=>none)else none
def Xm {α:Type} (l:List α):Bool:=ile (len l) acF
def X0 (hp:Nat->Option Ent) (i:Nat) (e:E) (x y:AV):Option (Bool×Eff):=
 match lst hp e y with
 |none=>none
 |some ys=>
  match x with
  |.nils=>some (Xm ys,⟨.mf i,[(i,some ⟨false,.arr e ys⟩)]⟩)
  |.ro e' l true=>if h:e'=e then
    some (band (Xm (aJ (h▸l) ys)) (bor (ieq (len l) 0) (ilt 0 (len ys))),⟨.mf i,[(i,some ⟨false,.arr e (aJ (h▸l) ys)⟩)]⟩)else none
  |.mf id=>(match hp id with
    |some ⟨false,.arr e' l⟩=>if h:e'=e then
      some (Xm (aJ (h▸l) ys),⟨.mf i,[(id,none),(i,some ⟨false,.arr e (aJ (h▸l) ys)⟩)]⟩)else none
    |_=>none)
  |.ms id 0 n=>(match hp id with
    |some ⟨false,.arr e' l⟩=>if h:e'=e then
      some (ile (ay (nti n) (len ys)) (len l),⟨.ms id 0 (nad n (itn (len ys))),[(id,some ⟨false,.arr e (jq (h▸l) n ys)⟩)]⟩)else none
    |_=>none)
  |_=>none
def arf (hp:Nat->Option Ent) (e:E) (x y:AV):Option (Bool×Eff):=
 match lst hp e y with
 |none=>none
 |some ys=>match x with
  |.mf id=>(match hp id with
    |some ⟨false,.arr e' l⟩=>if h:e'=e then
      some (true,⟨.int .i64 (kP (len ys) (len l)),[(id,some ⟨false,.arr e (jq (h▸l) 0 (aV ys (itn (kP (len ys) (len l)))))⟩)]⟩)else none
    |_=>none)
  |.ms id off n=>(match hp id with
    |some ⟨false,.arr e' l⟩=>if h:e'=e then
      some (true,⟨.int .i64 (kP (len ys) (nti n)),[(id,some ⟨false,.arr e (jq (h▸l) off (aV ys (itn (kP (len ys) (nti n)))))⟩)]⟩)else none
    |_=>none)
  |_=>none
def amn (hp:Nat->Option Ent) (e:E) (x:AV):Option (Bool×Eff):=
 match x with
 |.ms id off n=>(match hp id with
   |some ⟨false,.arr e' l⟩=>if h:e'=e then some (true,⟨.tup [],[(id,some ⟨false,.arr e (jq (h▸l) off (sK (den e) n))⟩)]⟩)else none
   |_=>none)
 |_=>none
def al9 (hp:Nat->Option Ent) (e:E) (ps:List (Nat×AV)):Nat->Option (List (den e))
 |0=>some []
 |n+1=>match al9 hp e ps n with
  |none=>none
  |some l=>match look ps n with
   |none=>some (l++[default])
   |some v=>match bif boxOk v then Ew e (jG hp v.cellsA).1 else none with
    |some x=>some (l++[x])
    |none=>none
def afV (hp:Nat->Option Ent):List (Nat×AV)->List Nat
 |[]=>[]
 |(_,v)::r=>(jG hp v.cellsA).2++afV hp r
def abP (P:Program) (el:Nat) (ps:List (Nat×AV)):Nat->List AV
 |0=>[]
 |n+1=>abP P el ps n++(match look ps n with | none=>CX P el | some v=>v.cellsA)
def aqQ:List (Nat×AV)->Nat->Bool
 |[],_=>false
 |(k,_)::r,i=>Nat.beq k i||aqQ r i
def aeK:List (Nat×AV)->Nat->Bool
 |[],_=>true
 |(k,_)::r,n=>Nat.blt k n&& !aqQ r k&&aeK r n
def agY (sz:Nat):List (Nat×AV)->Bool
 |[]=>true
 |(_,v)::r=>boxOk v&&Nat.beq v.cellsA.length sz&&agY sz r
def ahP (pl:Nat->Option (Nat×Nat)):List AV->List (Nat×AV)->Option (List AV)
 |cs,[]=>some cs
 |cs,(i,v)::r=>match pl i with
  |none=>none
  |some (off,n)=>bif boxOk v&&Nat.beq v.cellsA.length n&&Nat.ble (off+n) cs.length then ahP pl (IB cs off v.cellsA) r else none
def atu (P:Program) (hp:Nat->Option Ent) (i:Nat) (src dst:Nat) (x:AV):Option (Bool×Eff):=
 match P.underlying src with
 |none=>none
 |some us=>match P.underlying dst,x with
  |some (.int k),.int _ n=>some (true,⟨.int k (wr k n),[]⟩)
  |some .string,.str s=>some (true,⟨.str s,[]⟩)
  |some .string,x=>(match us with
    |.slice el=>(match P.underlying el with
     |some (.int .u8)=>(match lst hp .u8 x with
      |some l=>some (true,⟨.str (u2s l),[]⟩)
      |none=>none)
     |_=>none)
    |_=>none)
  |some (.slice el),.str s=>(match us with
    |.string=>bif (match P.underlying el with | some (.int .u8)=>false | _=>true)then none else some (Xm s,⟨.mf i,[(i,some ⟨false,.arr .u8 (s2u s)⟩)]⟩)
    |_=>none)
  |_,_=>none
def atH (b:Bool):AV->AV->Option AV
 |.bool x,.bool y=>some (.bool (cnd b x y))
 |_,_=>none
def partsOf (P:Program) (t:Nat):Option (Nat->Option (Nat×Nat)):=match P.underlying t with
 |some (.struct fs)=>some fun i=>match fs[i]? with | some x=>some (x.offset,fM P x.type) | none=>none
 |some (.array _ el)=>some fun i=>some (i*fM P el,fM P el)
 |_=>none
def lg (ev:Operand->AV):List Operand->List AV
 |[]=>[]
 |x::r=>ev x::lg ev r
def lK (ev:Operand->AV):List (Nat×Operand)->List (Nat×AV)
 |[]=>[]
 |(i,x)::r=>(i,ev x)::lK ev r
def akS (ev:Operand->AV):Option Operand->Option AV
 |none=>none
 |some x=>some (ev x)
def agP:List AV->Option (List Int)
 |[]=>some []
 |.int .u8 n::r=>(match agP r with | some l=>some (n::l) | none=>none)
 |_=>none
def am8 (P:Program) (ety:Nat->Option E) (hp:Nat->Option Ent) (i:Nat) (t:Nat) (x:AV) (lo hi mx:Option Operand):Option Eff:=
 match x,lo,hi,mx with
 |.mp id 0,none,none,none=>(match P.underlying t,hp id with
  |some (.array n el),some ⟨false,.raw cs⟩=>(match ety el,bif Nat.beq cs.length n then agP cs else none with
   |some .u8,some l=>some ⟨.mf i,[(id,none),(i,some ⟨false,.arr .u8 l⟩)]⟩
   |_,_=>none)
  |_,_=>none)
 |_,_,_,_=>none
def atC (e:E) (l:List (den e)):Nat->Nat->List AV
 |0,_=>[]
 |m+1,k=>nth (cells e (aj l k)) 0::atC e l m (k+1)
def alK (P:Program) (ety:Nat->Option E) (arr:Nat) (x:AV):Option (Bool×AV):=
 match P.underlying arr,x,ety arr with
 |some (.array n _),.ro e l _,some e'=>bif Nat.beq (esz e) 1&&Nat.beq (esz e') n then (match Ew e' (atC e l n 0)with
  |some d=>some (ile (nti n) (len l),.rp e' d 0)
  |none=>none)else none
 |_,_,_=>none
def asg (P:Program) (ety:Nat->Option E) (ev:Operand->AV) (i:Nat) (c:Call):Option (Bool×Eff):=
 match lg ev c.args.toList,c.argTypes.toList with
 |[.nils,.int _ n],[ty,t1]=>(match P.underlying ty,P.underlying t1 with
  |some (.slice el),some (.int _)=>(match ety el with
   |some e=>some (band (ilt 0 n) (ile n acF),⟨.mf i,[(i,some ⟨false,.arr e (sK (den e) (itn n))⟩)]⟩)
   |none=>none)
  |_,_=>none)
 |_,_=>none
def eop (C:Cx) (hp:Nat->Option Ent) (ev:Operand->AV) (i:Nat) (op:Op):Option (Bool×Eff):=
 match op with
 |.move x | .assign x=>some (true,⟨ev x,[]⟩)
 |.alloc t=>(match CX C.P t with
   |[]=>none
   |z=>some (true,⟨.mp i 0,[(i,some ⟨false,.raw z⟩)]⟩))
 |.box _ x=>bif boxOk (ev x)then some (true,⟨.mp i 0,[(i,some ⟨false,.raw (ev x).cellsA⟩)]⟩)else none
 |.build t ps=>(match partsOf C.P t with
   |some pl=>(match CX C.P t with
    |[]=>none
    |z::zs=>(match ahP pl (z::zs) (lK ev ps.toList)with | some cs=>some (true,⟨.agg cs,[]⟩) | none=>none))
   |none=>none)
 |.buildSlice t n ps=>(match bif aeK (lK ev ps.toList) n then C.P.underlying t else none with
   |some (.slice el)=>bif !(Nat.ble (n*fM C.P el) 16777216)then none else (match C.ety el with
    |some e=>(match al9 hp e (lK ev ps.toList) n with
     |some l=>some (true,⟨.mf i,freeze hp (afV hp (lK ev ps.toList))++[(i,some ⟨false,.arr e l⟩)]⟩)
     |none=>none)
    |none=>bif !(agY (fM C.P el) (lK ev ps.toList)&&Nat.beq (CX C.P el).length (fM C.P el)&&Nat.ble 1 (fM C.P el))then none else some (true,⟨.rs i (fM C.P el) 0 n,[(i,some ⟨false,.raw (abP C.P el (lK ev ps.toList) n)⟩)]⟩))
   |_=>none)
 |.load t x=>(match alx C.P hp t (ev x)with | some v=>some (true,⟨v,[]⟩) | none=>none)
 |.store t x y=>(match bif Nat.beq (fM C.P t) (ev y).cellsA.length&&Nat.ble 1 (fM C.P t)then ams hp (ev x) (ev y)else none with | some u=>some (true,⟨.undef,u⟩) | none=>none)
 |.nilCheck x=>(match ev x with
   |.mp id o=>some (true,⟨.mp id o,[]⟩)
   |.ep id k j=>some (true,⟨.ep id k j,[]⟩)
   |.rp e v j=>some (true,⟨.rp e v j,[]⟩)
   |.fn f cs=>some (true,⟨.fn f cs,[]⟩)
   |_=>none)
 |.binOp op t x y _=>(match op with
   |.shl | .shr=>(match aiZ op (ev x) (ev y)with | some (ob,v)=>some (ob,⟨v,[]⟩) | none=>none)
   |_=>(match auw C.P op t (ev x) (ev y)with | some (ob,v)=>some (ob,⟨v,[]⟩) | none=>none))
 |.unOp op _ x=>(match op,ev x with
   |.not,.bool b=>some (true,⟨.bool (ax b),[]⟩)
   |.neg,.int k n=>some (true,⟨.int k (wr k (aO 0 n)),[]⟩)
   |.xor,.int k n=>some (true,⟨.int k (wr k (gX k (if k.signed then -1 else k.max) n)),[]⟩)
   |_,_=>none)
 |.convert src dst x=>atu C.P hp i src dst (ev x)
 |.makeInterface t x=>(match C.P.underlying t with | some (.interface _)=>none | some _=>some (true,⟨.ifc t (ev x),[]⟩) | none=>none)
 |.makeFunc fn first captured=>(match fn with
   |.func f=>bif Nat.beq first.size 0 then some (true,⟨.fn f (lg ev captured.toList),[]⟩)else bif Nat.beq captured.size 0 then some (true,⟨.fnb f (lg ev first.toList),[]⟩)else none
   |_=>none)
 |.makeSlice t l c=>(match C.P.underlying t,ev l,ev c with
   |some (.slice el),.int _ n,.int _ m=>(match C.ety el with
    |some e=>some (band (band (ile 0 n) (ile n m)) (ile m acF),⟨.mf i,[(i,some ⟨false,.arr e (sK (den e) (itn n))⟩)]⟩)
    |none=>none)
   |_,_,_=>none)
 |.slice t x lo hi mx=>(match am8 C.P C.ety hp i t (ev x) lo hi mx with
   |some ef=>some (true,ef)
   |none=>(match amI C.P hp t (ev x) (akS ev lo) (akS ev hi) (akS ev mx)with
   |some (ob,v)=>some (ob,⟨v,[]⟩)
   |none=>none))
 |.fieldAddr t x f=>(match apy C.P t f with
   |some o=>(match fty C.P t f with
    |some ft=>bif Nat.ble 1 (fM C.P ft)then (match alL (ev x) o with | some v=>some (true,⟨v,[]⟩) | none=>none)else none
    |none=>none)
   |none=>none)
 |.field t x f=>(match ev x,apy C.P t f,fty C.P t f with
   |.agg cs,some o,some ft=>(match part C.P ft cs o with | some v=>some (true,⟨v,[]⟩) | none=>none)
   |_,_,_=>none)
 |.sliceToArrayPointer t x=>(match alK C.P C.ety t (ev x)with | some (ob,v)=>some (ob,⟨v,[]⟩) | none=>none)
 |.indexAddr t x ix=>(match amj C.P hp t (ev x) (ev ix)with | some (ob,v)=>some (ob,⟨v,[]⟩) | none=>none)
 |.index t x ix=>(match C.P.underlying t,ev x,ev ix with
   |some (.array n el),.agg cs,.int _ k=>(match part C.P el cs (k.toNat*fM C.P el)with | some v=>some (inB k (nti n),⟨v,[]⟩) | none=>none)
   |some .string,.str s,.int _ k=>some (inB k (len s),⟨.int .u8 (SI s (itn k)),[]⟩)
   |_,_,_=>none)
 |.extract x k=>(match ev x with
   |.tup vs=>(match vs[k]? with | some v=>some (true,⟨v,[]⟩) | none=>none)
   |_=>none)
 |.call c=>(match c.callee with
   |.builtin .len=>(match lg ev c.args.toList,c.argTypes[0]? with
    |[x],some t=>(match alf hp x with
     |some n=>bif (match x with | .str _=>afZ C.P t | _=>slT C.P t)then some (true,⟨.int .i64 n,[]⟩)else none
     |none=>none)
    |_,_=>none)
   |.builtin .cap=>(match lg ev c.args.toList,c.argTypes[0]? with
    |[.nils],some t=>bif slT C.P t then some (true,⟨.int .i64 0,[]⟩)else none
    |_,_=>none)
   |.builtin .append=>(match asg C.P C.ety ev i c with
    |some r=>some r
    |none=>(match lg ev c.args.toList,c.argTypes[0]? with
    |[x,y],some ty=>(match bif (match c.argTypes[1]? with | some t1=>slT C.P t1||afZ C.P t1 | none=>false)then C.P.underlying ty else none with
     |some (.slice el)=>(match C.ety el with
      |some e=>X0 hp i e x y
      |none=>none)
     |_=>none)
    |_,_=>none))
   |.builtin .copy=>(match lg ev c.args.toList,c.argTypes[0]? with
    |[x,y],some ty=>(match C.P.underlying ty with
     |some (.slice el)=>(match C.ety el with
      |some e=>arf hp e x y
      |none=>none)
     |_=>none)
    |_,_=>none)
   |.builtin .clear=>(match lg ev c.args.toList,c.argTypes[0]? with
    |[x],some ty=>(match C.P.underlying ty with
     |some (.slice el)=>(match C.ety el with
      |some e=>amn hp e x
      |none=>none)
     |_=>none)
    |_,_=>none)
   |.builtin .max=>(match lg ev c.args.toList with
    |.int k a::r=>(match mmL true k a r with | some v=>some (true,⟨v,[]⟩) | none=>none)
    |_=>none)
   |.builtin .min=>(match lg ev c.args.toList with
    |.int k a::r=>(match mmL false k a r with | some v=>some (true,⟨v,[]⟩) | none=>none)
    |_=>none)
   |_=>none)
 |_=>none
def atl:AV->List Nat
 |.mf id | .ms id _ _=>[id]
 |_=>[]
def avM:AV->List Nat
 |.mf id | .ms id _ _ | .mp id _=>[id]
 |_=>[]
def ap8:List (Nat×AV)->List Nat
 |[]=>[]
 |(_,v)::r=>foot v++ap8 r
def akp (ev:Operand->AV):Op->List Nat
 |.load _ x=>anc (ev x)
 |.store _ x y=>anc (ev x)++foot (ev y)
 |.slice _ x _ _ _=>avM (ev x)
 |.indexAddr _ x _=>atl (ev x)
 |.convert _ _ x=>atl (ev x)
 |.buildSlice _ _ ps=>ap8 (lK ev ps.toList)
 |.call c=>aaC (lg ev c.args.toList)
 |_=>[]
def Xr (hp:Nat->Option Ent) (rd:List Nat) (id:Nat):Option Ent:=
 bif rd.any (fun j=>Nat.beq j id)then hp id else none
def impl (ops:Array Oper):Nat->Nat->Bool->Nat->Bool->Bool
 |0,_,_,_,_=>false
 |n+1,j,w,j',w'=>(Nat.beq j j'&&(w == w'))||(match ops[j]? with
   |some o=>(match o.guard with
    |some (k,v)=>impl ops n k v j' w'
    |none=>false)
   |none=>false)
def evG (ops:Array Oper) (c0:Nat) (g:Option (Nat×Bool)) (A:FS) (x:Operand):AV:=
 match A.ev x with
 |.cond c j w _ v=>(match g with
   |some (k,u)=>bif Nat.beq c c0&&impl ops 64 k u j w then v else .undef
   |none=> .undef)
 |v=>v
def adi (ops:Array Oper) (j:Nat):Option Nat:=match ops[j]? with | some o=>o.dst | none=>none
def arq (ops:Array Oper) (A:FS) (j:Nat) (w:Bool):Option Bool:=
 match adi ops j with
 |some t=>(match get A.fr t with
   |.bool b=>some (bif w then b else ax b)
   |.cond _ _ _ g (.bool b)=>some (band g (bif w then b else ax b))
   |_=>none)
 |none=>none
def Vh (ops:Array Oper) (c0:Nat) (g:Option (Nat×Bool)) (A:FS) (t:Nat) (x:Operand) (w:Bool):AV:=
 match A.ev x with
 |.cond c' j' w' _ v=>bif Nat.beq c' c0&&(w == w')&&(match adi ops j' with | some t'=>Nat.beq t t' | none=>false)then v else evG ops c0 g A x
 |v=>v
def ahN (ops:Array Oper) (c0:Nat) (g:Option (Nat×Bool)) (A:FS) (c a b:Operand):Option AV:=
 match c with
 |.tmp t=>(match evG ops c0 g A c with
   |.bool b0=>atH b0 (Vh ops c0 g A t a true) (Vh ops c0 g A t b false)
   |_=>none)
 |_=>none
def Xb:AV->AV
 |.cond _ _ _ _ _=> .undef
 |v=>v
def ajD (g:Option (Nat×Bool)) (c0:Nat) (gv:Bool) (v:AV):AV:=
 match g with
 |none=>v
 |some (j,w)=> .cond c0 j w gv v
def amm (ev:Operand->AV) (c:Call):Option (Nat×List AV):=
 match c.callee with
 |.value f=>(match ev f with
   |.fn k caps=>some (k,lg ev c.args.toList++caps)
   |.fnb k bs=>some (k,bs++lg ev c.args.toList)
   |_=>none)
 |_=>none
def dead:List Nat->List (Nat×Option Ent)
 |[]=>[]
 |i::r=>(i,none)::dead r
def LX (hp:Nat->Option Ent):List AV->List Nat
 |[]=>[]
 |v::r=>(anS hp v).2++LX hp r
def without (own:List Nat):List Nat->List Nat
 |[]=>[]
 |i::r=>bif own.any (fun j=>Nat.beq i j)then without own r else i::without own r
def afR (scal:Bool) (own:List Nat) (hp:Nat->Option Ent) (args:List AV):List Nat:=
 bif scal then []else without own (LX hp args)
structure Acc where
 r:List Nat
 w:List Nat
def keys {α:Type}:List (Nat×α)->List Nat
 |[]=>[]
 |(k,_)::r=>k::keys r
section
variable (C:Cx)
def Ea (o:Oper) (c0:Nat) (A:FS) (g:Bool) (v:AV) (u:List (Nat×Option Ent)) (r:List Nat):FS×Acc:=
 let A':={ A with h:=u++A.h }
 (match o.dst with
 |none=>A'
 |some d=>A'.setT d (ajD o.guard c0 g (Xb v)),⟨r,keys u⟩)
def gOf (ops:Array Oper) (A:FS) (o:Oper):Option Bool:=
 match o.guard with | none=>some true | some (j,w)=>arq ops A j w
def callOf (ev:Operand->AV) (op:Op):Option (Nat×List AV):=
 match op with | .call c=>amm ev c | _=>none
def noU (o:Oper) (u:List (Nat×Option Ent)):Bool:=
 match o.guard with
 |none=>true
 |some _=>(match u with | []=>true | _::_=>false)
def aar (s:aA) (A:FS) (args:List AV) (i:Nat) (y:s.τ):List (Nat×Option Ent):=
 s.upd args y++(s.blk i y++(dead (s.own args)++freeze (Xr A.hp (aaC args)) (afR s.scal (s.own args) (Xr A.hp (aaC args)) args)))
def asked (o:Oper) (g ob:Bool):Bool:=
 match o.guard with
 |none=>ob
 |some _=>bor ob (ax g)
def apC (P:Program) (t:Nat):AV:=match P.underlying t with
 |some .bool=> .bool false
 |some (.int k)=> .int k 0
 |_=> .undef
def amV (P:Program) (A:FS) (ev:Operand->AV) (op:Op):Option (Int×Bool):=
 match op with
 |.binOp op t x y _=>bif slT P t then (match op,ev y with
  |.eql,.nils=>(match ev x with
   |.ro e l _=>some (len l,true)
   |.mf id=>(match alf A.hp (.mf id)with | some n=>some (n,true) | none=>none)
   |_=>none)
  |.neq,.nils=>(match ev x with
   |.ro e l _=>some (len l,false)
   |.mf id=>(match alf A.hp (.mf id)with | some n=>some (n,false) | none=>none)
   |_=>none)
  |_,_=>none)else none
 |_=>none
def amX {τ:Type} (v:AV) (k:AV->Option τ):Option τ:=match v with
 |.bool _=>k v
 |_=>none
def agV {τ:Type} (o:Oper) (c0:Nat) (A:FS) (g:Bool) (K:FS×Acc->Option τ) (b:Option τ):Option τ:=
 match o.guard with
 |none=>b
 |some _=>cnd g none (K (Ea o c0 A false .undef [] []))
def fnK {τ:Type} (o:Option aA) (f:Nat) (a:aA->Option τ) (b:Unit->Option τ):Option τ:=match o with | some s=>a s | none=>b ()
def aox (x:Nat) (l:List Nat):List Nat:=bif l.any (fun y=>Nat.beq y x)then l else x::l
def ar5:List Nat->List Nat->List Nat
 |[],b=>b
 |x::r,b=>ar5 r (aox x b)
def Ag (ops:Array Oper):Nat->List (List Nat)
 |0=>[]
 |n+1=>let l:=Ag ops n
  l++[match ops[n]? with
   |none=>[]
   |some o=>(o.after.toList.filter (Region.binds .any)).foldl (fun acc e=>aox e.on (ar5 (l.getD e.on []) acc)) []]
def Ox (ops:Array Oper) (k:Nat):Bool:=
 Nat.beq (k+1) ops.size&&(match ops[k]? with | some o=>(match o.guard with | none=>true | some _=>false) | none=>false)&&(List.range k).all fun i=>((Ag ops ops.size).getD k []).any fun x=>Nat.beq x i
def kop {τ:Type} (call:Nat->List AV->FS->(AV->FS->Option τ)->Option τ) (ops:Array Oper) (c0:Nat) (dr:Bool) (A:FS) (k:Nat) (K:FS×Acc->Option τ):Option τ:=
 match ops[k]? with
 |none=>bad 1 k
 |some o=>match gOf ops A o with
  |none=>bad 2 o
  |some g=>match o.op with
   |.pick c a b=>(match ahN ops c0 o.guard A c a b with
    |some v=>K (Ea o c0 A g v [] [])
    |none=>(match c with
     |.tmp t=>(match evG ops c0 o.guard A c with
      |.bool b0=>cnd b0 (amX (Vh ops c0 o.guard A t a true) fun v=>K (Ea o c0 A g v [] [])) (amX (Vh ops c0 o.guard A t b false) fun v=>K (Ea o c0 A g v [] []))
      |_=>agV o c0 A g K (bad 3 o))
     |_=>agV o c0 A g K (bad 3 o)))
   |.panic _=>none
   |op=>match callOf (evG ops c0 o.guard A) op with
    |some (f,args)=>fnK (C.fn f) f (fun s=>match s.dec (Xr A.hp (aaC args)) args with
      |some x=>ah (match o.guard with | none=>s.run x | some _=>cnd g (s.run x) (some s.inh.default)) fun y=>
        bif noU o (aar s A args (8*(c0+k)) y)then K (Ea o c0 A g (s.enc (8*(c0+k)) y) (aar s A args (8*(c0+k)) y) (aaC args))else cnd g (K (Ea o c0 A true (s.enc (8*(c0+k)) y) (aar s A args (8*(c0+k)) y) (aaC args))) (K (Ea o c0 A false (s.enc (8*(c0+k)) y) [] []))
      |none=>agV o c0 A g K (bad 4 (f,args)))
     (fun _=>bif C.inl f&&(!dr||Ox ops k)then (match o.guard with
       |none=>call f args A fun v A'=>K (Ea o c0 { A with h:=A'.h,clk:=A'.clk } true v [] [])
       |some _=>cnd g (call f args A fun v A'=>K (Ea o c0 { A with h:=A'.h,clk:=A'.clk } g v [] [])) (K (Ea o c0 A g (apC C.P o.type) [] [])))
       else bad 5 (f,dr))
    |none=>match amV C.P A (evG ops c0 o.guard A) op,eop C (Xr A.hp (akp (evG ops c0 o.guard A) op)) (evG ops c0 o.guard A) (8*(c0+k)) op with
     |none,some (ob,e)=>bif noU o e.u then cnd (asked o g ob) (K (Ea o c0 A g e.v e.u (akp (evG ops c0 o.guard A) op))) none else cnd g (cnd ob (K (Ea o c0 A true e.v e.u (akp (evG ops c0 o.guard A) op))) none) (K (Ea o c0 A false e.v [] []))
     |some (n,w),_=>bif !dr&&(match o.guard with | none=>true | some _=>false)then
       amH n fun b=>K (Ea o c0 A g (.bool (beq b w)) [] [])else bad 6 o
     |none,none=>agV o c0 A g K (bad 7 (o,A))
def inter (a b:List Nat):Bool:=a.any fun x=>b.any fun y=>Nat.beq x y
def swap (ops:Array Oper) (i j:Nat) (a b:Acc):Bool:=
 (match ops[i]?, ops[j]? with | some x,some y=>Oper.apart ops x y | _,_=>false)&& !inter a.w b.w&& !inter a.w b.r&& !inter a.r b.w
def XR (ops:Array Oper) (accs:List Acc):Bool:=
 let b:=Ag ops ops.size
 (List.range ops.size).all fun j=>(List.range j).all fun i=>
   (b.getD j []).any (fun x=>Nat.beq x i)||swap ops i j (accs.getD i ⟨[],[]⟩) (accs.getD j ⟨[],[]⟩)
def acN:List Oper->List Nat
 |[]=>[]
 |o::r=>match o.dst with | none=>acN r | some d=>d::acN r
def distinct:List Nat->Bool
 |[]=>true
 |d::r=> !(r.any fun x=>Nat.beq d x)&&distinct r
def NR (f:Nat->List Nat) (ops:Array Oper):Bool:=(List.range ops.size).all fun k=>match ops[k]? with
 |none=>true
 |some o=>match o.guard with
  |none=>true
  |some (j,_)=>(f k).any fun x=>Nat.beq x j
def aiD (n:Nat) (ops:Array Oper):Bool:=
 (acN ops.toList).all (fun d=>Nat.blt d n)&&distinct (acN ops.toList)&&NR List.range ops
def aaV (ops:Array Oper):Bool:=(List.range ops.size).all fun k=>match ops[k]? with
 |none=>true
 |some o=>o.after.all fun e=> !(Region.binds .any e)||Nat.blt e.on k
def akV (P:Program) (f:Nat):Nat:=match P.funcs[f]? with | some fn=>fn.ntmps | none=>0
def agb {τ:Type} (call:Nat->List AV->FS->(AV->FS->Option τ)->Option τ) (ops:Array Oper) (c0:Nat) (dr:Bool):Nat->Nat->FS->List Acc->(FS->Option τ)->Option τ
 |0,_,A,accs,K=>bif !dr||(aaV ops&&XR ops accs.reverse&&NR (fun k=>(Ag ops ops.size).getD k []) ops)then K A else bad 9 ops
 |m+1,k,A,accs,K=>bif !dr|| !Ox ops k||(aaV ops&&XR ops ((⟨[],[]⟩:Acc)::accs).reverse&&NR (fun k=>(Ag ops ops.size).getD k []) ops)then
   kop C call ops c0 dr A k fun x=>avw x.1 fun A'=>agb call ops c0 dr m (k+1) A' (bif dr then x.2::accs else []) K else bad 9 ops
def QI:Nat->Code->Nat->Code
 |0,c,_=>c
 |n+1,c,p=>bif Nat.ble p 1 then c else
  match QI n c (p / 2)with
  |.seq a b=>bif Nat.beq (p%2) 0 then a else b
  |.cond _ a b=>bif Nat.beq (p%2) 0 then a else b
  |.block _ c=>c
  |.loop c=>c
  |c=>c
def aex (P:Program) (f:Nat):Code:=match P.funcs[f]? with
 |some fn=>(match fn.body with | some b=>b | none=> .skip)
 |none=> .skip
def Zj (P:Program) (A:FS):List ResultVar->Option (List AV)
 |[]=>some []
 |.tmp t::r=>(match Zj P A r with | some l=>some (get A.fr t::l) | none=>none)
 |.cell a t::r=>(match alx P A.hp t (get A.fr a)with
   |some v=>(match Zj P A r with | some l=>some (v::l) | none=>none)
   |none=>none)
def oneOf:List AV->AV
 |[v]=>v
 |l=> .tup l
def MG (A:FS) (vs:List AV):AV×FS:=match vs with
 |[.ms id 0 n]=>(match A.hp id with
  |some ⟨false,.arr e l⟩=>(.mf (8*A.clk),{ A with h:=(8*A.clk,some ⟨false,.arr e (aV l n)⟩)::(id,none)::A.h,clk:=A.clk+1 })
  |_=>(.ms id 0 n,A))
 |vs=>(oneOf vs,A)
def aaX:Nat->List AV->List (Nat×AV)
 |_,[]=>[]
 |k,v::r=>(k,Xb v)::aaX (k+1) r
def FS.know (A:FS) (c:Operand) (b:Bool):FS:=match c with
 |.tmp t=>{ A with fr:=(t,.bool b)::A.fr }
 |_=>A
def amJ (args:List AV) (A:FS):FS:={ A with fr:=aaX 0 args }
def lpK {τ:Type} (o:Option dB) (pf pos:Nat) (c:Code) (A:FS) (K:Ex->FS->Option τ) (d:Unit->Option τ):Option τ:=
 match o with
 |some s=>(match s.dec A with
  |some v=>ah (s.run v) fun w=>s.out A w K
  |none=>bad 16 (pos,A))
 |none=>d ()
def ajV:Code->Nat
 |.region _ ops _=>ops.size
 |.seq a b=>ajV a+ajV b
 |.cond _ a b=>ajV a+ajV b
 |.block _ c=>ajV c
 |.loop c=>ajV c
 |_=>0
def FS.upto (A:FS) (n:Nat):FS:=bif Nat.ble n A.clk then A else { A with clk:=n }
def ahs {τ:Type} (A:FS) (x y:Code) (K:Ex->FS->Option τ):Ex->FS->Option τ:=bif C.inl 4094 then (fun e A'=>match e with
 |.normal=>K .normal (A'.upto (A.clk+(ajV x+ajV y)))
 |.ret=>K .ret A'
 |.exit i=>K (.exit i) A')else K
def WN {τ:Type}:Nat->Nat->Nat->Code->FS->(Ex->FS->Option τ)->Option τ
 |0,_,_,_,_,_=>bad 10 0
 |n+1,pf,pos,c,A,K=>
  match c with
  |.skip=>K .normal A
  |.seq a b=>WN n pf (2*pos) a A fun e A'=>match e with
   |.normal=>WN n pf (2*pos+1) b A' K
   |.ret=>K .ret A'
   |.exit i=>K (.exit i) A'
  |.region _ ops dr=>bif aiD (akV C.P (pf%4096)) ops then
   agb C (fun f args A' K'=>match C.P.funcs[f]? with
    |some fn=>(match fn.body with
     |some b=>WN n ((pf*1048576+A'.clk)*4096+f) 1 b (amJ args A') fun e A2=>match e with
      |.exit _=>bad 11 f
      |_=>match Zj C.P A2 fn.results.toList with
       |some vs=>K' (MG A2 vs).1 (MG A2 vs).2
       |none=>bad 12 f
     |none=>bad 13 f)
    |none=>bad 13 f) ops A.clk dr ops.size 0 { A with clk:=A.clk+ops.size } [] fun A'=>stp A' fun A'=>K .normal A'
   else bad 23 pf
  |.cond c x y=>(match A.ev c with
   |.bool b=>bif C.inl 4095 then cnd b (WN n pf (2*pos) x (A.know c true) (ahs C A x y K)) (WN n pf (2*pos+1) y (A.know c false) (ahs C A x y K))else cnd b (WN n pf (2*pos) x A (ahs C A x y K)) (WN n pf (2*pos+1) y A (ahs C A x y K))
   |_=>bad 14 (c,A))
  |.block id c=>WN n pf (2*pos) c A fun e A'=>match e with
   |.exit i=>bif Nat.beq i id then K .normal A' else K (.exit i) A'
   |.normal=>K .normal A'
   |.ret=>K .ret A'
  |.loop c=>lpK (C.lp pf pos) pf pos c A K fun _=>WN n pf (2*pos) c A fun e A'=>match e with
    |.normal=>WN n pf pos (.loop c) A' K
    |.ret=>K .ret A'
    |.exit i=>K (.exit i) A'
  |.exit id=>K (.exit id) A
  |.ret=>K .ret A
  |c=>bad 15 c
def atq {τ:Type} (f:Nat) (args:List AV) (h0:List (Nat×Option Ent)) (dec:(Nat->Option Ent)->List AV->Option τ):Option τ:=
 match C.P.funcs[f]? with
 |some fn=>(match fn.body with
  |some b=>WN C 1000 f 1 b { fr:=aaX 0 args,h:=h0,clk:=args.length } fun e A=>match e with
   |.exit _=>bad 18 f
   |_=>match Zj C.P A fn.results.toList with
    |some vs=>(match dec A.hp vs with
     |some y=>some y
     |none=>bad 20 (vs,A))
    |none=>bad 19 A
  |none=>bad 17 f)
 |none=>bad 17 f
end
end
noncomputable section
inductive Sh where
 |int (k:IntKind) | bool | str | ro (e:E) | val (e:E) | buf (e:E) | fnv (f:Nat) | rf (id:Nat)
@[reducible] def Sh.T:Sh->Type
  |.int _=>Int
  |.bool=>Bool
  |.str=>List UInt8
  |.ro e=>List (den e)
  |.val e=>den e
  |.buf e=>List (den e)
  |.fnv _=>Unit
  |.rf _=>Unit
@[reducible] def Tup:List Sh->Type
  |[]=>Unit
  |[s]=>s.T
  |s::t::r=>s.T×Tup (t::r)
instance:(s:Sh)->Inhabited s.T
 |.int _=>⟨(0:Int)⟩
 |.bool=>⟨false⟩
 |.str=>⟨([]:List UInt8)⟩
 |.ro e=>⟨([]:List (den e))⟩
 |.val e=>inferInstanceAs (Inhabited (den e))
 |.buf e=>⟨([]:List (den e))⟩
 |.fnv _=>⟨()⟩
 |.rf _=>⟨()⟩
def atn:(l:List Sh)->Tup l
 |[]=>()
 |[_]=>default
 |_::t::r=>(default,atn (t::r))
def jb (hp:Nat->Option Ent):(s:Sh)->AV->Option s.T
 |.int k,.int k' n=>bif k == k' then some n else none
 |.bool,.bool b=>some b
 |.str,.str s=>some s
 |.ro e,.nils=>some []
 |.ro e,.ro e' l _=>if h:e'=e then some (h▸l)else none
 |.ro e,.mf id=>(match hp id with
   |some ⟨_,.arr e' l⟩=>if h:e'=e then some (h▸l)else none
   |_=>none)
 |.ro e,.ms id off len=>(match hp id with
   |some ⟨_,.arr e' l⟩=>if h:e'=e then some (aV (bZ (h▸l) off) len)else none
   |_=>none)
 |.val e,.agg cs=>Ew e (jG hp cs).1
 |.buf e,.nils=>some []
 |.buf e,.mf id=>(match hp id with
   |some ⟨false,.arr e' l⟩=>if h:e'=e then some (h▸l)else none
   |_=>none)
 |.fnv f,.fn g []=>bif Nat.beq f g then some ()else none
 |.rf i,.mf j=>bif Nat.beq i j then some ()else none
 |_,_=>none
def encS (k:Nat):(s:Sh)->s.T->AV
 |.int i,n=> .int i n
 |.bool,b=> .bool b
 |.str,s=> .str s
 |.ro e,l=> .ro e l false
 |.val e,x=> .agg (cells e x)
 |.buf _,_=> .mf k
 |.fnv f,_=> .fn f []
 |.rf i,_=> .mf i
def amS (k:Nat):(s:Sh)->s.T->List (Nat×Option Ent)
 |.buf e,l=>[(k,some ⟨false,.arr e l⟩)]
 |_,_=>[]
def O4:Sh->AV->List Nat
 |.ro _,.mf id=>[id]
 |.ro _,.ms id _ _=>[id]
 |.val _,.agg cs=>cs.flatMap fun | .mf id=>[id] | .ms id _ _=>[id] | _=>[]
 |_,_=>[]
def jX:Sh->AV->List Nat
 |.buf _,.mf id=>[id]
 |.buf _,.ms id _ _=>[id]
 |_,_=>[]
def UI (hp:Nat->Option Ent):(l:List Sh)->List AV->Option (Tup l)
 |[],[]=>some ()
 |[s],[a]=>jb hp s a
 |s::t::r,a::xs=>match jb hp s a with
  |none=>none
  |some x=>match UI hp (t::r) xs with
   |none=>none
   |some y=>some (x,y)
 |_,_=>none
def Cb (k:Nat):(l:List Sh)->Tup l->List AV
 |[],_=>[]
 |[s],x=>[encS k s x]
 |s::t::r,x=>encS k s x.1::Cb (k+1) (t::r) x.2
def Ij (k:Nat):(l:List Sh)->Tup l->List (Nat×Option Ent)
 |[],_=>[]
 |[s],x=>amS k s x
 |s::t::r,x=>amS k s x.1++Ij (k+1) (t::r) x.2
def iR {α β:Type} (f:α->β->List Nat):List α->List β->List Nat
 |a::r,b::s=>f a b++iR f r s
 |_,_=>[]
def PO:List Nat->Bool
 |[]=>true
 |i::r=> !(r.any fun j=>Nat.beq i j)&&PO r
def LQ (own frz:List Nat):Bool:=PO own&& !inter own frz
def V9 (l:List Sh) (hp:Nat->Option Ent) (vs:List AV):Option (Tup l):=
 bif LQ (iR jX l vs) (iR O4 l vs)then UI hp l vs else none
def mkSpec (xs rs:List Sh) (scal:Bool) (run:Tup xs->Option (Tup rs)):aA where
 σ:=Tup xs
 τ:=Tup rs
 inh:=⟨atn rs⟩
 dec:=V9 xs
 run:=run
 enc:=fun b y=>oneOf (Cb b rs y)
 blk:=fun b y=>Ij b rs y
 own:=iR jX xs
 scal:=scal
 upd:=fun _ _=>[]
def ai9 (e:E) (x:List (den e)×Int×List (den e)):Option (List (den e)):=
 match x.2.2 with
 |[n]=>cnd (band (ile 0 x.2.1) (band (ile x.2.1 (len x.1)) (ile (ay (len x.1) 1) 68719476736))) (some (aJ (aV x.1 (itn x.2.1)) (n::bZ x.1 (itn x.2.1)))) none
 |_=>none
def ownB:AV->Bool
 |.mf _=>true
 |.ms _ _ _=>true
 |_=>false
def Qe (e:E) (run:List (den e)×Int×List (den e)->Option (List (den e))):aA:={ mkSpec [.buf e,.int .i64,.ro e] [.buf e] false run with
 dec:=fun hp args=>match args with
  |[a,b,c]=>bif ownB c then V9 [.buf e,.int .i64,.ro e] hp [a,b,c]else none
  |_=>none }
def awd (e:E) (hp:Nat->Option Ent) (id:Nat):Option (den e):=match hp id with
 |some ⟨false,.raw cs⟩=>Ew e cs
 |_=>none
def awf (e:E) (xs:List Sh) (hp:Nat->Option Ent):List AV->Option (den e×Tup xs)
 |.mp id 0::r=>(match awd e hp id with
  |some z=>(match UI hp xs r with | some x=>some (z,x) | none=>none)
  |none=>none)
 |_=>none
def av2:AV->Option (Nat×Nat)
 |.fn h cs=>(match cs with
  |[c]=>(match c with
   |.mp j o=>bif Nat.beq o 0 then some (h,j)else none
   |_=>none)
  |_=>none)
 |_=>none
def numOf:List AV->Option Int
 |[c]=>(match c with
  |.int k n=>bif Xj k .i64 then some n else none
  |_=>none)
 |_=>none
def awe (g:Nat) (e:E) (hp:Nat->Option Ent):List AV->Option (List (den e)×Int)
 |[a,c]=>(match av2 c with
  |some (h,j)=>bif Nat.beq h g then (match hp j with
   |some ⟨_,.raw cs⟩=>(match numOf cs with
    |some n=>(match jb hp (.buf e) a with | some l=>some (l,n) | none=>none)
    |none=>none)
   |_=>none)else none
  |none=>none)
 |_=>none
def ahm (C:Cx) (f:Nat) (xs rs:List Sh) (x:Tup xs):Option (Tup rs):=
 atq C f (Cb 0 xs x) (Ij 0 xs x) (V9 rs)
def getAll (l:List (Nat×AV)):List Nat->List AV
 |[]=>[]
 |k::r=>get l k::getAll l r
def bW {α β:Type}:List (α×β)->List α
 |[]=>[]
 |(a,_)::r=>a::bW r
def Xn {α β:Type}:List (α×β)->List β
 |[]=>[]
 |(_,b)::r=>b::Xn r
def cat {α:Type}:List (List α)->List α
 |[]=>[]
 |l::r=>l++cat r
def szS (s:List Sh):Nat:=match s with
 |[.val e]=>esz e
 |_=>s.length
def cellP (s:List Sh) (cs:List AV):List AV:=match s with
 |[.val _]=>[.agg cs]
 |_=>bif Nat.beq cs.length s.length then cs else []
def CW (h:Nat->Option Ent):List (Nat×List Sh)->List AV
 |[]=>[]
 |(i,s)::r=>(match h i with
  |some ⟨_,.raw cs⟩=>cellP s cs
  |_=>[])++CW h r
def ZJ (h:Nat->Option Ent):List (Nat×List Sh)->Bool
 |[]=>true
 |(i,s)::r=>(match h i with
  |some ⟨false,.raw cs⟩=>Nat.beq cs.length (szS s)
  |_=>false)&&ZJ h r
def Xc (h:Nat->Option Ent):List (Nat×List Sh)->Bool
 |[]=>true
 |(i,s)::r=>(match h i with
  |some ⟨_,.raw cs⟩=>Nat.beq cs.length (szS s)
  |_=>false)&&Xc h r
def ZR (h:Nat->Option Ent):List (Nat×E)->List AV
 |[]=>[]
 |(i,_)::r=>(match h i with
  |some ⟨false,.arr e l⟩=> .ro e l false
  |_=> .undef)::ZR h r
structure LSh where
 c0:Nat
 ps:List (Nat×Sh)
 pl:List (Nat×AV)
 ph:List (Nat×List Sh)
 vs:List (Nat×Sh)
 vh:List (Nat×List Sh)
 vb:List (Nat×E)
def aa5:List (Nat×E)->List Sh
 |[]=>[]
 |(_,e)::r=> .ro e::aa5 r
def LSh.pk (s:LSh):List Sh:=Xn s.ps++cat (Xn s.ph)
def LSh.vk (s:LSh):List Sh:=Xn s.vs++(cat (Xn s.vh)++aa5 s.vb)
def aag:List AV->List AV->Bool
 |[],[]=>true
 |.mp i o::r,.mp j p::q=>Nat.beq i j&&Nat.beq o p&&aag r q
 |_,_=>false
def aiS:AV->AV->Bool
 |.mp i o,.mp j p=>Nat.beq i j&&Nat.beq o p
 |.mf i,.mf j=>Nat.beq i j
 |.fn f r,.fn g q=>Nat.beq f g&&aag r q
 |.nilp,.nilp=>true
 |.rs i s o n,.rs j t p m=>Nat.beq i j&&Nat.beq s t&&Nat.beq o p&&Nat.beq n m
 |_,_=>false
def Ll (l:List (Nat×AV)):List (Nat×AV)->Bool
 |[]=>true
 |(k,a)::r=>aiS (get l k) a&&Ll l r
def LSh.pAV (s:LSh) (A:FS):List AV:=getAll A.fr (bW s.ps)++CW A.hp s.ph
def LSh.vAV (s:LSh) (A:FS):List AV:=getAll A.fr (bW s.vs)++(CW A.hp s.vh++ZR A.hp s.vb)
def LSh.decP (s:LSh) (A:FS):Option (Tup s.pk):=
 bif Nat.ble A.clk s.c0&&Ll A.fr s.pl&&Xc A.hp s.ph then UI A.hp s.pk (s.pAV A)else none
def LSh.decV (s:LSh) (A:FS):Option (Tup s.vk):=
 bif ZJ A.hp s.vh&&LQ (iR jX s.vk (s.vAV A)++(bW s.vh++(bW s.vb++bW s.ph))) (iR O4 s.vk (s.vAV A))then UI A.hp s.vk (s.vAV A)else none
def amc (cs:List AV):List AV:=match cs with
 |[.agg xs]=>xs
 |_=>cs
def split:List (Nat×List Sh)->List AV->List (Nat×List AV)×List AV
 |[],xs=>([],xs)
 |(i,s)::r,xs=>((i,xs.take s.length)::(split r (xs.drop s.length)).1,(split r (xs.drop s.length)).2)
def qg (fz:Bool):List (Nat×List AV)->List (Nat×Option Ent)
 |[]=>[]
 |(i,cs)::r=>(i,some ⟨fz,.raw (amc cs)⟩)::qg fz r
def uX:List (Nat×E)->List AV->List (Nat×Option Ent)
 |(i,_)::r,.ro e l _::s=>(i,some ⟨false,.arr e l⟩)::uX r s
 |_,_=>[]
def aa9:List Nat->List AV->List (Nat×AV)
 |k::r,a::s=>(k,a)::aa9 r s
 |_,_=>[]
def LSh.st (s:LSh) (p:Tup s.pk) (v:Tup s.vk):FS:=
 let pa:=Cb 0 s.pk p
 let va:=Cb (8*s.c0) s.vk v
 let n:=s.ps.length
 let m:=s.vs.length
 {fr:=aa9 (bW s.ps) (pa.take n)++(s.pl++aa9 (bW s.vs) (va.take m)),
  h:=qg true (split s.ph (pa.drop n)).1++(qg false (split s.vh (va.drop m)).1++(uX s.vb (split s.vh (va.drop m)).2++Ij (8*s.c0) s.vk v)),
  clk:=s.c0+s.vk.length }
structure zB where
 ex:Ex
 os:List (Nat×Sh)
 oh:List (Nat×List Sh)
 ob:List (Nat×E)
def zB.k (o:zB):List Sh:=Xn o.os++(cat (Xn o.oh)++aa5 o.ob)
def zB.av (o:zB) (A:FS):List AV:=getAll A.fr (bW o.os)++(CW A.hp o.oh++ZR A.hp o.ob)
def zB.dec (o:zB) (A:FS):Option (Tup o.k):=
 bif ZJ A.hp o.oh&&LQ (iR jX o.k (o.av A)++(bW o.oh++bW o.ob)) (iR O4 o.k (o.av A))then UI A.hp o.k (o.av A)else none
@[reducible] def agn:List zB->Type
  |[]=>Empty
  |[o]=>Tup o.k
  |o::q::r=>Tup o.k ⊕ agn (q::r)
def acy:Ex->Ex->Bool
 |.normal,.normal=>true
 |.ret,.ret=>true
 |.exit i,.exit j=>Nat.beq i j
 |_,_=>false
def afz:(l:List zB)->Ex->FS->Option (agn l)
 |[],_,_=>none
 |[o],e,A=>bif acy o.ex e then o.dec A else none
 |o::q::r,e,A=>bif acy o.ex e then (match o.dec A with | some x=>some (.inl x) | none=>none)
   else (match afz (q::r) e A with | some x=>some (.inr x) | none=>none)
def strike {α:Type} (d:List Nat):List (Nat×α)->List (Nat×α)
 |[]=>[]
 |(k,a)::r=>bif d.any (fun j=>Nat.beq k j)then strike d r else (k,a)::strike d r
def zB.st (o:zB) (D H fz:List Nat) (c:Nat) (A:FS) (w:Tup o.k):FS:=
 let wa:=Cb (8*c) o.k w
 let m:=o.os.length
 {fr:=aa9 (bW o.os) (wa.take m)++strike D A.fr,
  h:=qg false (split o.oh (wa.drop m)).1++(uX o.ob (split o.oh (wa.drop m)).2++(Ij (8*c) o.k w++(freeze A.hp fz++strike H A.h))),
  clk:=c+o.k.length }
def atd {τ:Type} (D H fz:List Nat) (c:Nat) (A:FS) (K:Ex->FS->Option τ):(l:List zB)->agn l->Option τ
 |[],_=>none
 |[o],w=>K o.ex (o.st D H fz c A w)
 |o::q::r,w=>dK w (fun x=>K o.ex (o.st D H fz c A x)) (fun y=>atd D H fz c A K (q::r) y)
def LSh.spec (s:LSh) (os:List zB) (D:List Nat) (step:Tup s.pk->Tup s.vk->Option (Tup s.vk ⊕ agn os)):dB where
 V:=Tup s.pk×Tup s.vk
 W:=agn os
 dec:=fun A=>match s.decP A with
  |none=>none
  |some p=>match s.decV A with
   |none=>none
   |some v=>bif !inter (iR O4 s.pk (s.pAV A)) (iR jX s.vk (s.vAV A)++(bW s.vh++(bW s.vb++bW s.ph)))then some (p,v)else none
 run:=fun x=>bU (step x.1) LF x.2
 out:=fun A w K=>atd D (iR jX s.vk (s.vAV A)++(bW s.vh++bW s.vb)) (iR O4 s.pk (s.pAV A)++iR O4 s.vk (s.vAV A)) (s.c0+s.vk.length) A K os w
def aoa (C:Cx) (n pf pos:Nat) (c:Code) (s:LSh) (os:List zB) (p:Tup s.pk) (v:Tup s.vk):Option (Tup s.vk ⊕ agn os):=
 WN C n pf (2*pos) c (s.st p v) fun e A=>match e with
  |.normal=>(match s.decV { A with clk:=s.c0 } with | some v=>some (.inl v) | none=>bad 21 A)
  |.ret=>(match afz os .ret A with | some w=>some (.inr w) | none=>bad 22 A)
  |.exit i=>(match afz os (.exit i) A with | some w=>some (.inr w) | none=>bad 22 A)
def ZU:List (Nat×Nat×dB)->Nat->Nat->Option dB
 |[],_,_=>none
 |(a,b,s)::r,i,j=>bif Nat.beq a i&&Nat.beq b j then some s else ZU r i j
def au2 (l:List Nat) (i:Nat):Bool:=l.any fun j=>Nat.beq i j
def ach (P:Program) (f pos:Nat):Code:=match QI 300 (aex P f) pos with | .loop c=>c | c=>c
end
def aqb (c:Array Value):Prop:=c=(Lib.pow10Tab.map fun z=>Value.int .u64 z).toArray
def aoc (c:Array Value):Prop:=∃t p,c= #[.iface t p]
def glL:List (Nat×(Array Value->Prop)):=[(1,aqb),(2,aoc),(3,aoc)]
end Go.Av
namespace Go.Av
open Go Go.RowKit
structure Mem where
 U:Nat->Prop
 F:Nat->Prop
 β:Nat->Option Nat
 hp:Nat->Option Ent
 H:Array Obj
def cellAt (H:Array Obj) (b o:Nat):Option Value:=
 match H[b]? with
 |some (.cells c _ _)=>c[o]?
 |_=>none
def bsize (H:Array Obj) (b:Nat):Option Nat:=
 match H[b]? with
 |some (.cells c _ _)=>some c.size
 |_=>none
def xE (M:Mem) (id:Nat) (a:Option Addr) (off cap sz:Nat):Prop:=
 match M.β id with
 |some b=>(∃o,a=some ⟨b,o,none⟩/\(cap=0\/o=off*sz))/\∃n,bsize M.H b=some n/\(off+cap)*sz<=n
 |none=>cap=0/\off=0
inductive bT (M:Mem):AV->Value->Prop
 |undef (v:Value):bT M .undef v
 |int (k:IntKind) (n:Int):bT M (.int k n) (.int k n)
 |bool (b:Bool):bT M (.bool b) (.bool b)
 |str (s:ByteArray) (l:List UInt8) (h:s.data.toList=l):bT M (.str l) (.string s)
 |nilp:bT M .nilp (.pointer none)
 |nils:bT M .nils (.slice none 0 0)
 |nilf:bT M .nilf .nilFunc
 |nili:bT M .nili .nilIface
 |mp (id off:Nat) (v:Value) (hU:M.U id) (h1:∃a,v= .pointer (some a)) (h:∀e,M.hp id=some e->∃b fz cs,e=⟨fz,.raw cs⟩/\M.β id=some b/\v= .pointer (some ⟨b,off,none⟩)):bT M (.mp id off) v
 |ep (id i j:Nat) (v:Value) (hU:M.U id) (h1:∃a,v= .pointer (some a)) (h:∀e,M.hp id=some e->∃b fz t l,e=⟨fz,.arr t l⟩/\M.β id=some b/\i<l.length/\v= .pointer (some ⟨b,i*esz t+j,none⟩)):bT M (.ep id i j) v
 |mf (id:Nat) (v:Value) (hU:M.U id) (h1:v.oneCell=true) (h:∀e,M.hp id=some e->∃fz t l a cap,e=⟨fz,.arr t l⟩/\v= .slice a l.length cap/\l.length<=cap/\xE M id a 0 cap (esz t)):bT M (.mf id) v
 |ms (id off n:Nat) (v:Value) (hU:M.U id) (h1:∃a cap,v= .slice a n cap/\n<=cap) (h:∀e,M.hp id=some e->∃fz t l a cap,e=⟨fz,.arr t l⟩/\v= .slice a n cap/\off+n<=l.length/\n<=cap/\l.length<=off+cap/\xE M id a off cap (esz t)):bT M (.ms id off n) v
 |rs (id sz off n:Nat) (v:Value) (hU:M.U id) (h1:∃a cap,v= .slice (some a) n cap/\n<=cap) (h:∀e,M.hp id=some e->∃fz cs b o cap,e=⟨fz,.raw cs⟩/\M.β id=some b/\v= .slice (some ⟨b,o,none⟩) n cap/\(cap=0\/o=off*sz)):bT M (.rs id sz off n) v
 |rp (e:E) (x:den e) (j:Nat) (v:Value) (b o:Nat) (hv:v= .pointer (some ⟨b,o+j,none⟩)) (hF:M.F b) (cs:Nat->Value)
   (hc:∀k,k<esz e->cellAt M.H b (o+k)=some (cs k)) (hs:∀k,k<esz e->bT M (nth (cells e x) k) (cs k)):bT M (.rp e x j) v
 |roE (e:E) (ex:Bool) (a:Option Addr) (cap:Nat) (hx:ex=true->cap=0):bT M (.ro e [] ex) (.slice a 0 cap)
 |ro (e:E) (l:List (den e)) (ex:Bool) (b o cap:Nat) (hl:l.length<=cap) (hx:ex=true->cap=l.length) (hF:M.F b) (cs:Nat->Nat->Value)
   (hc:∀i k,i<l.length->k<esz e->cellAt M.H b (o+i*esz e+k)=some (cs i k))
   (hs:∀i k,(hi:i<l.length)->k<esz e->bT M (nth (cells e l[i]) k) (cs i k)):bT M (.ro e l ex) (.slice (some ⟨b,o,none⟩) l.length cap)
 |agg (cs:List AV) (vs:Array Value) (hn:vs.size=cs.length) (h1:∀i,(h:i<vs.size)->vs[i].oneCell=true)
   (hs:∀i,(h:i<cs.length)->(h':i<vs.size)->bT M cs[i] vs[i]):bT M (.agg cs) (.agg vs)
 |tup (cs:List AV) (vs:Array Value) (hn:vs.size=cs.length)
   (hs:∀i,(h:i<cs.length)->(h':i<vs.size)->bT M cs[i] vs[i]):bT M (.tup cs) (.tuple vs)
 |fn (f:Nat) (cs:List AV) (vs:Array Value) (hn:vs.size=cs.length)
   (hs:∀i,(h:i<cs.length)->(h':i<vs.size)->bT M cs[i] vs[i]):bT M (.fn f cs) (.func (.func f) #[] vs)
 |fnb (f:Nat) (cs:List AV) (vs:Array Value) (hn:vs.size=cs.length)
   (hs:∀i,(h:i<cs.length)->(h':i<vs.size)->bT M cs[i] vs[i]):bT M (.fnb f cs) (.func (.func f) vs #[])
 |ifc (t:Nat) (x:AV) (v:Value) (h:bT M x v):bT M (.ifc t x) (.iface t v)
 |condT (c j:Nat) (w:Bool) (x:AV) (v:Value) (h:bT M x v):bT M (.cond c j w true x) v
 |condF (c j:Nat) (w:Bool) (x:AV):bT M (.cond c j w false x) undef
def eU:Ent->Ent->Prop
 |⟨_,.raw a⟩,⟨_,.raw b⟩=>a.length=b.length
 |⟨_,.arr e l⟩,⟨_,.arr e' l'⟩=>e=e'/\l.length=l'.length
 |_,_=>False
structure Le (M N:Mem):Prop where
 U:∀id,M.U id->N.U id
 F:∀b,M.F b->N.F b
 H:∀b,M.F b->N.H[b]? =M.H[b]?
 hp:∀id e',M.U id->N.hp id=some e'->∃e,M.hp id=some e/\eU e e'/\N.β id=M.β id
 sz:∀id b n,M.U id->N.hp id≠none->M.β id=some b->bsize M.H b=some n->bsize N.H b=some n
theorem eU.refl (e:Ent):eU e e:=by
 obtain⟨fz,b⟩:=e;cases b<;>simp [eU]
theorem eU.trans {a b c:Ent} (h:eU a b) (k:eU b c):eU a c:=by
 obtain⟨_,a⟩:=a;obtain⟨_,b⟩:=b;obtain⟨_,c⟩:=c;cases a<;>cases b<;>cases c<;>simp_all [eU]
theorem Le.refl (M:Mem):Le M M:=⟨fun _ h=>h,fun _ h=>h,fun _ _=>rfl,fun id e' _ h=>⟨e',h,eU.refl _,rfl⟩,fun _ _ _ _ _ _ h=>h⟩
theorem Le.trans {A B C:Mem} (h:Le A B) (k:Le B C):Le A C where
 U id x:=k.U id (h.U id x)
 F b x:=k.F b (h.F b x)
 H b x:=(k.H b (h.F b x)).trans (h.H b x)
 hp id e' x y:=by
  obtain⟨e,h1,h2,h3⟩:=k.hp id e' (h.U id x) y
  obtain⟨e0,g1,g2,g3⟩:=h.hp id e x h1
  exact⟨e0,g1,g2.trans h2,h3.trans g3⟩
 sz id b n x y z u:=by
  cases hc:C.hp id with
  |none=>exact absurd hc y
  |some e'=>
   obtain⟨e,h1,h2,h3⟩:=k.hp id e' (h.U id x) hc
   obtain⟨e0,g1,g2,g3⟩:=h.hp id e x h1
   exact k.sz id b n (h.U id x) y (g3.trans z) (h.sz id b n x (by rw[h1];simp) z u)
theorem Yb {H H':Array Obj} {b:Nat} (h:H'[b]? =H[b]?) (o:Nat):cellAt H' b o=cellAt H b o:=by
 unfold cellAt;rw[h]
theorem xE.le {M N:Mem} (h:Le M N) {id:Nat} {e':Ent} (hU:M.U id) (he:N.hp id=some e') {a:Option Addr} {off cap sz:Nat} (hs:xE M id a off cap sz):xE N id a off cap sz:=by
 obtain⟨e,h1,h2,h3⟩:=h.hp id e' hU he;unfold xE at*;rw[h3];cases hb:M.β id with
 |none=>simpa [hb] using hs
 |some b=>
  simp only[hb]at hs ⊢;obtain⟨h4,n,h5,h6⟩:=hs;exact⟨h4,n,h.sz id b n hU (by rw[he];simp) hb h5,h6⟩
theorem bT.le {M N:Mem} (h:Le M N) {x:AV} {v:Value} (hs:bT M x v):bT N x v:=by
 induction hs with
 |undef v=>exact .undef v
 |int k n=>exact .int k n
 |bool b=>exact .bool b
 |str s l hl=>exact .str s l hl
 |nilp=>exact .nilp
 |nils=>exact .nils
 |nilf=>exact .nilf
 |nili=>exact .nili
 |mp id off v hU hv1 hh=>
  refine .mp id off v (h.U _ hU) hv1 fun e' he=> ?_;obtain⟨e,h1,h2,h3⟩:=h.hp id e' hU he;obtain⟨b,fz,cs,rfl,hb,hv⟩:=hh e h1;obtain⟨fz',blk⟩:=e';cases blk with
  |raw cs'=>exact⟨b,fz',cs',rfl,h3.trans hb,hv⟩
  |arr=>simp [eU]at h2
 |ep id i j v hU hv1 hh=>
  refine .ep id i j v (h.U _ hU) hv1 fun e' he=> ?_;obtain⟨e,h1,h2,h3⟩:=h.hp id e' hU he;obtain⟨b,fz,t,l,rfl,hb,hi,hv⟩:=hh e h1;obtain⟨fz',blk⟩:=e';cases blk with
  |raw cs'=>simp [eU]at h2
  |arr t' l'=>
   simp only[eU]at h2;obtain⟨rfl,h2⟩:=h2;exact⟨b,fz',t,l',rfl,h3.trans hb,h2▸hi,hv⟩
 |mf id v hU hv1 hh=>
  refine .mf id v (h.U _ hU) hv1 fun e' he=> ?_;obtain⟨e,h1,h2,h3⟩:=h.hp id e' hU he;obtain⟨fz,t,l,a,cap,rfl,hv,hc,hsl⟩:=hh e h1;obtain⟨fz',blk⟩:=e';cases blk with
  |raw cs'=>simp [eU]at h2
  |arr t' l'=>
   simp only[eU]at h2;obtain⟨rfl,h2⟩:=h2;exact⟨fz',t,l',a,cap,rfl,h2▸hv,h2▸hc,hsl.le h hU he⟩
 |ms id off n v hU hv1 hh=>
  refine .ms id off n v (h.U _ hU) hv1 fun e' he=> ?_;obtain⟨e,h1,h2,h3⟩:=h.hp id e' hU he;obtain⟨fz,t,l,a,cap,rfl,hv,hn,hc,hc',hsl⟩:=hh e h1;obtain⟨fz',blk⟩:=e';cases blk with
  |raw cs'=>simp [eU]at h2
  |arr t' l'=>
   simp only[eU]at h2;obtain⟨rfl,h2⟩:=h2;exact⟨fz',t,l',a,cap,rfl,hv,h2▸hn,hc,h2▸hc',hsl.le h hU he⟩
 |rs id sz off n v hU hv1 hh=>
  refine .rs id sz off n v (h.U _ hU) hv1 fun e' he=> ?_;obtain⟨e,h1,h2,h3⟩:=h.hp id e' hU he;obtain⟨fz,cs,b,o,cap,rfl,hb,hv,ho⟩:=hh e h1;obtain⟨fz',blk⟩:=e';cases blk with
  |raw cs'=>exact⟨fz',cs',b,o,cap,rfl,h3.trans hb,hv,ho⟩
  |arr t' l'=>simp [eU]at h2
 |rp e x j v b o hv hF cs hc hs ih=>exact .rp e x j v b o hv (h.F _ hF) cs (fun k hk=>by rw[Yb (h.H b hF)];exact hc k hk) ih
 |roE e ex a cap hx=>exact .roE e ex a cap hx
 |ro e l ex b o cap hl hx hF cs hc hs ih=>
  exact .ro e l ex b o cap hl hx (h.F _ hF) cs (fun i k hi hk=>by rw[Yb (h.H b hF)];exact hc i k hi hk) ih
 |agg cs vs hn h1 hs ih=>exact .agg cs vs hn h1 ih
 |tup cs vs hn hs ih=>exact .tup cs vs hn ih
 |fn f cs vs hn hs ih=>exact .fn f cs vs hn ih
 |fnb f cs vs hn hs ih=>exact .fnb f cs vs hn ih
 |ifc t x v _ ih=>exact .ifc t x v ih
 |condT c j w x v _ ih=>exact .condT c j w x v ih
 |condF c j w x=>exact .condF c j w x
def KX:Blk->Bool
 |.arr .u8 _=>true
 |_=>false
def Ib (blk:Blk) (c:Array Value) (fr:Nat×Nat):Prop:=(∀o,o<c.size->¬(fr.1<=o/\o<fr.2))/\(KX blk=false->¬(fr.1<=c.size/\c.size<fr.2))
theorem Ib.of_size {blk:Blk} {c c':Array Value} {fr:Nat×Nat} (h:Ib blk c fr) (hs:c'.size=c.size):Ib blk c' fr:=by
 unfold Ib at *; rw[hs];exact h
theorem Ib.form {b b':Blk} {c c':Array Value} {fr:Nat×Nat} (h:Ib b c fr) (hu:KX b'=KX b) (hs:c'.size=c.size):Ib b' c' fr:=by
 unfold Ib at *; rw[hs,hu];exact h
theorem Ib.weak {b b':Blk} {c c':Array Value} {fr:Nat×Nat} (h:Ib b c fr) (hu:KX b'=false->KX b=false) (hs:c'.size=c.size):Ib b' c' fr:=by
 unfold Ib at *; rw[hs];exact⟨h.1,fun g=>h.2 (hu g)⟩
theorem eU.u8 {x y:Bool} {b b':Blk} (h:eU ⟨x,b⟩ ⟨y,b'⟩):KX b'=KX b:=by
 cases b with
 |raw a=>cases b' with
  |raw c=>rfl
  |arr t l=>simp [eU]at h
 |arr t l=>cases b' with
  |raw c=>simp [eU]at h
  |arr t' l'=>
   simp only[eU]at h;obtain⟨rfl,_⟩:=h;cases t<;>rfl
def Rx:Blk->Bool
 |.arr _ _=>true
 |.raw _=>false
def Jb (F:Nat->Prop) (H:Array Obj):Prop:=∀p,p∈glL->F p.1/\∃c t fr,H[p.1]? =some (.cells c t fr)/\p.2 c
theorem Jb.mono {F F':Nat->Prop} {H H':Array Obj} (h:Jb F H) (hF:∀b,F b->F' b) (hH:∀b,F b->H'[b]? =H[b]?):Jb F' H':=fun p hp=>by
 obtain⟨h1,c,t,fr,h2,h3⟩:=h p hp;exact⟨hF _ h1,c,t,fr,(hH _ h1).trans h2,h3⟩
theorem Jb.le {M N:Mem} (h:Jb M.F M.H) (hl:Le M N):Jb N.F N.H:=h.mono hl.F hl.H
structure lJ (M:Mem):Prop where
 glob:Jb M.F M.H
 used:∀id e,M.hp id=some e->M.U id
 nob:∀id e,M.hp id=some e->M.β id=none->∃fz t,e=⟨fz,.arr t []⟩
 blk:∀id e b,M.hp id=some e->M.β id=some b->(e.fz=true->Rx e.b=true->M.F b)/\(e.fz=false->¬M.F b)/\∃c t fr,M.H[b]? =some (.cells c t fr)/\Ib e.b c fr/\
  match e.b with
  |.raw cs=>(c.size=cs.length/\∀i,(h:i<c.size)->c[i].oneCell=true)/\∀i,(h:i<cs.length)->(h':i<c.size)->bT M cs[i] c[i]
  |.arr t l=>l.length*esz t<=c.size/\∀i k,(hi:i<l.length)->k<esz t->∃v,c[i*esz t+k]? =some v/\bT M (nth (cells t l[i]) k) v
 inj:∀id id' e e' b,M.hp id=some e->M.hp id'=some e'->e.fz=false->M.β id=some b->M.β id'=some b->id=id'
def Own (M:Mem) (b:Nat):Prop:=∃id e,M.hp id=some e/\e.fz=false/\M.β id=some b
structure Stp (M:Mem) (w:World) (N:Mem) (w':World):Prop where
 le:Le M N
 H:N.H=w'.heap
 hrel:lJ N
 os:w'.os=w.os
 tape:w'.tape=w.tape
 output:w'.output=w.output
 size:w.heap.size<=w'.heap.size
 old:∀b,b<w.heap.size->¬Own M b->w'.heap[b]? =w.heap[b]?
 own:∀b,Own N b->Own M b\/w.heap.size<=b
 Fin:∀b,N.F b->M.F b\/Own M b\/w.heap.size<=b
 Fsz:(∀b,M.F b->b<w.heap.size)->∀b,N.F b->b<w'.heap.size
theorem Own.lt {M:Mem} {b:Nat} (h:lJ M) (ho:Own M b):b<M.H.size:=by
 obtain⟨id,e,h1,h2,h3⟩:=ho;obtain⟨_,_,c,t,fr,hc,_⟩:=h.blk id e b h1 h3;exact(awG.1 hc).1
theorem Stp.refl {M:Mem} {w:World} (h:lJ M) (hH:M.H=w.heap):Stp M w M w:=
 ⟨Le.refl M,hH,h,rfl,rfl,rfl,awk _,fun _ _ _=>rfl,fun _ h=> .inl h,fun _ h=> .inl h,fun h b hb=>h b hb⟩
theorem Stp.trans {M N O:Mem} {w w1 w2:World} (h:Stp M w N w1) (k:Stp N w1 O w2) (hM:lJ M) (hH:M.H=w.heap):Stp M w O w2 where
 le:=h.le.trans k.le
 H:=k.H
 hrel:=k.hrel
 os:=k.os.trans h.os
 tape:=k.tape.trans h.tape
 output:=k.output.trans h.output
 size:=aw4 h.size k.size
 old b hb ho:=by
  refine(k.old b (axf hb h.size) fun hn=> ?_).trans (h.old b hb ho)
  rcases h.own b hn with h1 | h1
  ·exact ho h1
  ·omega
 own b hb:=by
  rcases k.own b hb with h1 | h1
  ·exact h.own b h1
  ·have:=h.size
   exact .inr (by omega)
 Fin b hb:=by
  rcases k.Fin b hb with h1 | h1 | h1
  ·exact h.Fin b h1
  ·rcases h.own b h1 with h2 | h2
   ·exact .inr (.inl h2)
   ·exact .inr (.inr h2)
  ·have:=h.size
   exact .inr (.inr (by omega))
 Fsz g:=k.Fsz (h.Fsz g)
theorem Stp.drew {M:Mem} {w w':World} (h:lJ M) (hH:M.H=w.heap) (h1:w'.heap=w.heap) (h2:w'.os=w.os) (h3:w'.tape=w.tape) (h4:w'.output=w.output):Stp M w M w':=
 ⟨Le.refl M,hH.trans h1.symm,h,h2,h3,h4,by rw[h1];exact awk _,fun _ _ _=>by rw[h1],fun _ h=> .inl h,fun _ h=> .inl h,fun g b hb=>by rw[h1];exact g b hb⟩
def Ey {α:Type} (f:Nat->α) (i:Nat) (v:α) (j:Nat):α:=if j=i then v else f j
theorem bQ {α:Type} (f:Nat->α) (i:Nat) (v:α):Ey f i v i=v:=by simp [Ey]
theorem dH {α:Type} (f:Nat->α) {i j:Nat} (v:α) (h:j≠i):Ey f i v j=f j:=by simp [Ey,h]
def xC (M:Mem) (blk:Blk) (c:Array Value):Prop:=
 match blk with
 |.raw cs=>(c.size=cs.length/\∀i,(h:i<c.size)->c[i].oneCell=true)/\∀i,(h:i<cs.length)->(h':i<c.size)->bT M cs[i] c[i]
 |.arr t l=>l.length*esz t<=c.size/\∀i k,(hi:i<l.length)->k<esz t->∃v,c[i*esz t+k]? =some v/\bT M (nth (cells t l[i]) k) v
theorem xC.le {M N:Mem} (h:Le M N) {blk:Blk} {c:Array Value} (hb:xC M blk c):xC N blk c:=by
 cases blk with
 |raw cs=>exact⟨hb.1,fun i h1 h2=>(hb.2 i h1 h2).le h⟩
 |arr t l=>exact⟨hb.1,fun i k hi hk=>let ⟨v,h1,h2⟩:=hb.2 i k hi hk;⟨v,h1,h2.le h⟩⟩
theorem lJ.is {M:Mem} (h:lJ M) {id:Nat} {e:Ent} {b:Nat} (he:M.hp id=some e) (hb:M.β id=some b):
 (e.fz=true->Rx e.b=true->M.F b)/\(e.fz=false->¬M.F b)/\∃c t fr,M.H[b]? =some (.cells c t fr)/\Ib e.b c fr/\xC M e.b c:=by
 obtain⟨h1,h2,c,t,fr,h3,h4,h5⟩:=h.blk id e b he hb
 refine⟨h1,h2,c,t,fr,h3,h4,?_⟩
 cases hh:e.b<;>simp only[hh]at h5<;>exact h5
theorem lJ.mk' {M:Mem} (hg:Jb M.F M.H) (hu:∀id e,M.hp id=some e->M.U id) (hn:∀id e,M.hp id=some e->M.β id=none->∃fz t,e=⟨fz,.arr t []⟩)
 (hb:∀id e b,M.hp id=some e->M.β id=some b->(e.fz=true->Rx e.b=true->M.F b)/\(e.fz=false->¬M.F b)/\∃c t fr,M.H[b]? =some (.cells c t fr)/\Ib e.b c fr/\xC M e.b c)
 (hi:∀id id' e e' b,M.hp id=some e->M.hp id'=some e'->e.fz=false->M.β id=some b->M.β id'=some b->id=id'):lJ M where
 glob:=hg
 used:=hu
 nob:=hn
 inj:=hi
 blk id e b h1 h2:=by
  obtain⟨g1,g2,c,t,fr,g3,g4,g5⟩:=hb id e b h1 h2
  refine⟨g1,g2,c,t,fr,g3,g4,?_⟩
  cases hh:e.b<;>simp only[hh]at g5<;>exact g5
def Mem.new (M:Mem) (i:Nat) (e:Ent) (o:Obj):Mem:=
 {U:=fun j=>M.U j\/j=i,F:=M.F,β:=Ey M.β i (some M.H.size),hp:=Ey M.hp i (some e),H:=M.H.push o }
theorem aaq {H:Array Obj} {o:Obj} {b:Nat} (h:b<H.size):(H.push o)[b]? =H[b]? :=by
 rw[Array.getElem?_push,awg (by omega)]
theorem apU {H:Array Obj} {o:Obj}:(H.push o)[H.size]? =some o:=by simp
theorem Mem.new_le {M:Mem} (i:Nat) (e:Ent) (o:Obj) (hi:¬M.U i) (hF:∀b,M.F b->b<M.H.size):Le M (M.new i e o) where
 U id h:= .inl h
 F b h:=h
 H b h:=aaq (hF b h)
 hp id e' hU he:=by
  have hne:id≠i:=fun h=>hi (h▸hU)
  simp only[Mem.new,dH _ _ hne]at he
  exact⟨e',he,eU.refl _,by simp only[Mem.new,dH _ _ hne]⟩
 sz id b n hU _ hb hn:=by
  unfold bsize at*
  simp only[Mem.new]
  cases hH:M.H[b]? with
  |none=>simp [hH]at hn
  |some o'=>
   rw[aaq (awG.1 hH).1]
   exact hn
theorem Stp.alloc {M:Mem} {w w':World} (h:lJ M) (hH:M.H=w.heap) (hF:∀b,M.F b->b<w.heap.size) (i:Nat) (hi:¬M.U i) (blk:Blk) (c:Array Value) (t:TypeId)
 (fr:Nat×Nat) (hz:Ib blk c fr) (hb:xC M blk c) (hw:w'.heap=w.heap.push (.cells c t fr)) (h2:w'.os=w.os) (h3:w'.tape=w.tape) (h4:w'.output=w.output):
 Stp M w (M.new i ⟨false,blk⟩ (.cells c t fr)) w':=by
 have hF':∀b,M.F b->b<M.H.size:=by rw[hH];exact hF
 have hle:=Mem.new_le i ⟨false,blk⟩ (.cells c t fr) hi hF'
 have hlt:∀id e b,M.hp id=some e->M.β id=some b->b<M.H.size:=fun id e b h1 h3=>by
  obtain⟨_,_,c,t,fr,hc,_⟩:=h.blk id e b h1 h3
  exact(awG.1 hc).1
 refine⟨hle,by rw[hw,<-hH];rfl,lJ.mk' (h.glob.le hle) ?_ ?_ ?_ ?_,h2,h3,h4,by rw[hw];simp,?_,?_,fun b hb=> .inl hb,fun _ b hb=> ?_⟩
 ·intro id e he
  by_cases hid:id=i
  ·exact .inr hid
  ·simp only[Mem.new,dH _ _ hid]at he
   exact .inl (h.used id e he)
 ·intro id e he hn
  by_cases hid:id=i
  ·subst hid;simp [Mem.new,bQ]at hn
  ·simp only[Mem.new,dH _ _ hid]at he hn
   exact h.nob id e he hn
 ·intro id e b he hbb
  by_cases hid:id=i
  ·subst hid
   simp only[Mem.new,bQ,awj]at he hbb
   subst he;subst hbb
   refine⟨by simp,fun _ hf=> ?_,c,t,fr,apU,hz,hb.le hle⟩
   have:=hF' _ hf;omega
  ·simp only[Mem.new,dH _ _ hid]at he hbb
   obtain⟨g1,g2,c',t',fr',g3,g4,g5⟩:=h.is he hbb
   exact⟨g1,g2,c',t',fr',by rw[show(M.new i ⟨false,blk⟩ (.cells c t fr)).H[b]? =M.H[b]? from aaq (hlt id e b he hbb)];exact g3,g4,g5.le hle⟩
 ·intro id id' e e' b he he' hf hb1 hb2
  by_cases hid:id=i
  ·by_cases hid':id'=i
   ·rw[hid,hid']
   ·subst hid
    simp only[Mem.new,bQ,dH _ _ hid',awj]at he' hb1 hb2
    subst hb1
    have:=hlt id' e' _ he' hb2;omega
  ·by_cases hid':id'=i
   ·subst hid'
    simp only[Mem.new,bQ,dH _ _ hid,awj]at he hb1 hb2
    subst hb2
    have:=hlt id e _ he hb1;omega
   ·simp only[Mem.new,dH _ _ hid,dH _ _ hid']at he he' hb1 hb2
    exact h.inj id id' e e' b he he' hf hb1 hb2
 ·intro b hbl _
  rw[hw,aaq hbl]
 ·rintro b ⟨id,e,he,hf,hbb⟩
  by_cases hid:id=i
  ·subst hid
   simp only[Mem.new,bQ,awj]at hbb
   subst hbb
   exact .inr (by rw[hH];exact awk _)
  ·simp only[Mem.new,dH _ _ hid]at he hbb
   exact .inl ⟨id,e,he,hf,hbb⟩
 ·rw[hw];have:=hF b hb;simp;omega
def Mem.wr (M:Mem) (i:Nat) (blk:Blk) (b:Nat) (o:Obj):Mem:=
 {M with hp:=Ey M.hp i (some ⟨false,blk⟩),H:=M.H.setIfInBounds b o }
theorem Stp.write {M:Mem} {w w':World} (h:lJ M) (hH:M.H=w.heap) (hF:∀b,M.F b->b<w.heap.size) (i b:Nat) (blk0 blk:Blk) (hi:M.hp i=some ⟨false,blk0⟩) (hbi:M.β i=some b)
 (hsf:eU ⟨false,blk0⟩ ⟨false,blk⟩) (c0 c:Array Value) (t:TypeId) (fr:Nat×Nat) (h0:M.H[b]? =some (.cells c0 t fr)) (hsz:c.size=c0.size)
 (hb:xC M blk c) (hw:w'.heap=w.heap.setIfInBounds b (.cells c t fr)) (h2:w'.os=w.os) (h3:w'.tape=w.tape) (h4:w'.output=w.output):
 Stp M w (M.wr i blk b (.cells c t fr)) w':=by
 have hbl:b<M.H.size:=(awG.1 h0).1
 have hne:∀b',b'≠b->(M.wr i blk b (.cells c t fr)).H[b']? =M.H[b']? :=fun b' hb'=>by
  simp only[Mem.wr];rw[axt (awE hb')]
 have heq:(M.wr i blk b (.cells c t fr)).H[b]? =some (.cells c t fr):=by
  simp only[Mem.wr];rw[ayb hbl]
 obtain⟨_,hnF,c1,t1,fr1,g3,g4,_⟩:=h.is hi hbi
 rw[h0]at g3
 obtain⟨rfl,rfl,rfl⟩:c0=c1/\t=t1/\fr=fr1:=by simpa using g3
 have hle:Le M (M.wr i blk b (.cells c t fr)):=by
  refine⟨fun _ h=>h,fun _ h=>h,fun b' hb'=>hne b' fun e=>hnF rfl (e▸hb'),fun id e' hU he=> ?_,fun id b' n hU _ hb' hn=> ?_⟩
  ·by_cases hid:id=i
   ·subst hid
    simp only[Mem.wr,bQ,awj]at he
    subst he
    exact⟨_,hi,hsf,rfl⟩
   ·simp only[Mem.wr,dH _ _ hid]at he
    exact⟨e',he,eU.refl _,rfl⟩
  ·by_cases hbb:b'=b
   ·subst hbb
    unfold bsize at*
    rw[heq];rw[h0]at hn
    simpa [hsz] using hn
   ·unfold bsize at*
    rw[hne b' hbb];exact hn
 refine⟨hle,by rw[hw,<-hH];rfl,lJ.mk' (h.glob.le hle) ?_ ?_ ?_ ?_,h2,h3,h4,by rw[hw];simp,?_,?_,fun b hb=> .inl hb,fun _ b hb=> ?_⟩
 ·intro id e he
  by_cases hid:id=i
  ·subst hid;exact h.used _ _ hi
  ·simp only[Mem.wr,dH _ _ hid]at he
   exact h.used id e he
 ·intro id e he hn
  by_cases hid:id=i
  ·subst hid;simp [Mem.wr,hbi]at hn
  ·simp only[Mem.wr,dH _ _ hid]at he hn
   exact h.nob id e he hn
 ·intro id e b' he hbb
  by_cases hid:id=i
  ·subst hid
   simp only[Mem.wr,bQ,awj]at he
   subst he
   have:b'=b:=by simpa [Mem.wr,hbi] using hbb.symm
   subst this
   refine⟨by simp,fun _=>hnF rfl,c,t,fr,heq,g4.form hsf.u8 hsz,hb.le hle⟩
  ·simp only[Mem.wr,dH _ _ hid]at he hbb
   have hb':b'≠b:=fun e1=>hid (h.inj i id _ e b hi he rfl hbi (e1▸hbb)).symm
   obtain⟨g1,g2,c',t',fr',g3',g4',g5⟩:=h.is he hbb
   exact⟨g1,g2,c',t',fr',by rw[hne b' hb'];exact g3',g4',g5.le hle⟩
 ·intro id id' e e' b' he he' hf hb1 hb2
  have key:∀id e,(M.wr i blk b (.cells c t fr)).hp id=some e->∃e0,M.hp id=some e0/\e0.fz=e.fz:=fun id e he=>by
   by_cases hid:id=i
   ·subst hid
    simp only[Mem.wr,bQ,awj]at he
    subst he
    exact⟨_,hi,rfl⟩
   ·simp only[Mem.wr,dH _ _ hid]at he
    exact⟨e,he,rfl⟩
  obtain⟨e0,k1,k2⟩:=key id e he
  obtain⟨e1,k3,_⟩:=key id' e' he'
  exact h.inj id id' e0 e1 b' k1 k3 (k2.trans hf) hb1 hb2
 ·intro b' hb' ho
  rw[hw,axt]
  intro e1;subst e1
  exact ho ⟨i,_,hi,rfl,hbi⟩
 ·rintro b' ⟨id,e,he,hf,hbb⟩
  by_cases hid:id=i
  ·subst hid
   exact .inl ⟨_,_,hi,rfl,hbb⟩
  ·simp only[Mem.wr,dH _ _ hid]at he
   exact .inl ⟨id,e,he,hf,hbb⟩
 ·rw[hw];have:=hF b hb;simp;omega
def Mem.drop (M:Mem) (i:Nat):Mem:={ M with hp:=Ey M.hp i none }
theorem Stp.drop {M:Mem} {w:World} (h:lJ M) (hH:M.H=w.heap) (i:Nat):Stp M w (M.drop i) w:=by
 have key:∀id e,(M.drop i).hp id=some e->M.hp id=some e:=fun id e he=>by
  by_cases hid:id=i
  ·subst hid;simp [Mem.drop,bQ]at he
  ·simpa only[Mem.drop,dH _ _ hid] using he
 have hle:Le M (M.drop i):=⟨fun _ h=>h,fun _ h=>h,fun _ _=>rfl,fun id e' hU he=>⟨e',key id e' he,eU.refl _,rfl⟩,fun _ _ _ _ _ _ hn=>hn⟩;refine⟨hle,hH,lJ.mk' (h.glob.le hle) ?_ ?_ ?_ ?_,rfl,rfl,rfl,awk _,fun _ _ _=>rfl,?_,fun b hb=> .inl hb,fun hF b hb=>hF b hb⟩
 ·exact fun id e he=>h.used id e (key id e he)
 ·exact fun id e he hn=>h.nob id e (key id e he) hn
 ·intro id e b he hb;obtain⟨g1,g2,c,t,fr,g3,g4,g5⟩:=h.is (key id e he) hb;exact⟨g1,g2,c,t,fr,g3,g4,g5.le hle⟩
 ·exact fun id id' e e' b he he' hf h1 h2=>h.inj id id' e e' b (key _ _ he) (key _ _ he') hf h1 h2
 ·rintro b ⟨id,e,he,hf,hb⟩;exact .inl ⟨id,e,key _ _ he,hf,hb⟩
def Mem.frz (M:Mem) (i:Nat):Mem:=
 match M.hp i with
 |none=>M.drop i
 |some e=>{ M with hp:=Ey M.hp i (some ⟨true,e.b⟩),F:=fun b=>M.F b\/(M.β i=some b/\(e.fz=false\/Rx e.b=true)) }
theorem Stp.frz {M:Mem} {w:World} (h:lJ M) (hH:M.H=w.heap) (i:Nat):Stp M w (M.frz i) w:=by
 cases hi:M.hp i with
 |none=>
  have:M.frz i=M.drop i:=by simp [Mem.frz,hi]
  rw[this];exact Stp.drop h hH i
 |some e0=>
  have hfr:M.frz i={ M with hp:=Ey M.hp i (some ⟨true,e0.b⟩),F:=fun b=>M.F b\/(M.β i=some b/\(e0.fz=false\/Rx e0.b=true)) }:=by simp [Mem.frz,hi]
  rw[hfr];generalize hN:({ M with hp:=Ey M.hp i (some ⟨true,e0.b⟩),F:=fun b=>M.F b\/(M.β i=some b/\(e0.fz=false\/Rx e0.b=true)) }:Mem)=N
  have nhp:N.hp=Ey M.hp i (some ⟨true,e0.b⟩):=by rw[<-hN]
  have nF:∀b,N.F b↔M.F b\/(M.β i=some b/\(e0.fz=false\/Rx e0.b=true)):=fun b=>by rw[<-hN]
  have nβ:N.β=M.β:=by rw[<-hN]
  have nU:N.U=M.U:=by rw[<-hN]
  have nH:N.H=M.H:=by rw[<-hN]
  clear hN;have key:∀id e,N.hp id=some e->∃e1,M.hp id=some e1/\e1.b=e.b/\(e.fz=false->e1=e/\id≠i)/\(id≠i->e1=e):=fun id e he=>by
   by_cases hid:id=i
   ·subst hid;rw[nhp,bQ]at he;cases he;exact⟨e0,hi,rfl,by simp,by simp⟩
   ·rw[nhp,dH _ _ hid]at he;exact⟨e,he,rfl,fun _=>⟨rfl,hid⟩,fun _=>rfl⟩
  have hle:Le M N:=by
   refine⟨fun _ h=>nU▸h,fun b h=>(nF b).2 (.inl h),fun _ _=>by rw[nH],fun id e' hU he=> ?_,fun _ _ _ _ _ _ hn=>by rw[nH];exact hn⟩;obtain⟨e1,g1,g2,_⟩:=key id e' he;refine⟨e1,g1,?_,by rw[nβ]⟩;obtain⟨f1,b1⟩:=e1;obtain⟨f2,b2⟩:=e';simp only at g2;subst g2;cases b1<;>simp [eU]
  refine⟨hle,nH.trans hH,lJ.mk' (h.glob.le hle) ?_ ?_ ?_ ?_,rfl,rfl,rfl,awk _,fun _ _ _=>rfl,?_,?_,?_⟩
  ·intro id e he;obtain⟨e1,g1,_⟩:=key id e he;exact nU▸h.used id e1 g1
  ·intro id e he hn;obtain⟨e1,g1,g2,_⟩:=key id e he;obtain⟨fz,t,rfl⟩:=h.nob id e1 g1 (nβ▸hn);obtain⟨f2,b2⟩:=e;exact⟨f2,t,by simp only at g2;rw[<-g2]⟩
  ·intro id e b he hb;obtain⟨e1,g1,g2,g3,g4⟩:=key id e he;rw[nβ]at hb;obtain⟨k1,k2,c,t,fr,k3,k4,k5⟩:=h.is g1 hb;refine⟨fun hf ha=>(nF b).2 ?_,fun hf hFb=> ?_,c,t,fr,by rw[nH];exact k3,by rw[<-g2];exact k4,by rw[<-g2];exact k5.le hle⟩
   ·by_cases hid:id=i
    ·subst hid;rw[hi]at g1;cases g1;exact .inr ⟨hb,.inr (by rw[g2];exact ha)⟩
    ·rw[<-g4 hid]at hf ha;exact .inl (k1 hf ha)
   ·obtain⟨rfl,hid⟩:=g3 hf;rcases(nF b).1 hFb with hFb | hFb
    ·exact k2 hf hFb
    ·exact hid (h.inj id i e1 e0 b g1 hi hf hb hFb.1)
  ·intro id id' e e' b he he' hf h1 h2;obtain⟨e1,g1,g2,g3,_⟩:=key id e he;obtain⟨e2,g4,_⟩:=key id' e' he';obtain⟨rfl,_⟩:=g3 hf;rw[nβ]at h1 h2;exact h.inj id id' e1 e2 b g1 g4 hf h1 h2
  ·rintro b ⟨id,e,he,hf,hb⟩;obtain⟨e1,g1,g2,g3,_⟩:=key id e he;obtain⟨rfl,_⟩:=g3 hf;exact .inl ⟨id,e1,g1,hf,nβ▸hb⟩
  ·intro b hb;rcases(nF b).1 hb with h1 | h1
   ·exact .inl h1
   ·cases hf:e0.fz with
    |true=>exact .inl ((h.is hi h1.1).1 hf (h1.2.resolve_left (by rw[hf];simp)))
    |false=>exact .inr (.inl ⟨i,e0,hi,hf,h1.1⟩)
  ·intro hF b hb;rcases(nF b).1 hb with h1 | h1
   ·exact hF b h1
   ·obtain⟨_,_,c,t,fr,k3,_⟩:=h.is hi h1.1;rw[<-hH];exact(awG.1 k3).1
section
variable {P:Program} (w:World)
theorem run_program:(program).run P w= .ok P w:=rfl
theorem aeF {t:TypeId} {i:TypeInfo} (h:P.info? t=some i):(typeInfo t).run P w= .ok i w:=by
 simp [typeInfo,run_program,h]
theorem iK {t:TypeId} {d:TypeDesc} (h:P.underlying t=some d):(underlying t).run P w= .ok d w:=by
 simp [underlying,run_program,h]
theorem WM {t:TypeId} {i:TypeInfo} (h:P.info? t=some i):(sizeOf t).run P w= .ok i.size w:=by
 simp [sizeOf,aeF w h]
theorem amx {t:TypeId} (h:fM P t≠0):∃i,P.info? t=some i/\i.size=fM P t:=by
 unfold fM at*;cases hi:P.info? t with
 |none=>simp [hi]at h
 |some i=>exact⟨i,rfl,by simp⟩
theorem aiq {t:TypeId} (h:fM P t≠0):(sizeOf t).run P w= .ok (fM P t) w:=by
 obtain⟨i,h1,h2⟩:=amx h;rw[WM w h1,h2]
theorem alD {t:TypeId} {d:TypeDesc} (h:P.underlying t=some d):∃i,P.info? t=some i:=by
 unfold Program.underlying at h;cases hi:P.info? t with
 |none=>simp [hi]at h
 |some i=>exact⟨i,rfl⟩
theorem anl {t:TypeId} {d:TypeDesc} (h:P.underlying t=some d):(sizeOf t).run P w= .ok (fM P t) w:=by
 obtain⟨i,hi⟩:=alD h;rw[WM w hi];simp [fM,hi]
theorem ano {t:TypeId} {b:Bool} (h:adA P t=some b):(isAgg t).run P w= .ok b w:=by
 unfold adA at h;cases hu:P.underlying t with
 |none=>simp [hu]at h
 |some d=>
  simp only[isAgg,Sem.run_bind,iK w hu,Result.andThen_ok];cases d<;>simp_all
theorem afT {t:TypeId} {b:Bool} (h:adA P t=some b):∃d,P.underlying t=some d:=by
 unfold adA at h;cases hu:P.underlying t with
 |none=>simp [hu]at h
 |some d=>exact⟨d,rfl⟩
theorem auL {a:Addr} {v:Value} (h:w.cell? a=some v):(load a).run P w= .ok v w:=by
 simp [load,Sem.run,h]
theorem aaK (b o:Nat):w.cell? ⟨b,o,none⟩=cellAt w.heap b o:=by
 unfold World.cell? cellAt;cases w.heap[b]? with
 |none=>rfl
 |some x=>cases x<;>simp
theorem Addr.add_mk (b o n:Nat):(Addr.mk b o none).add n=⟨b,o+n,none⟩:=by
 unfold Addr.add;by_cases h:n=0
 ·subst h;simp
 ·simp [h]
def qc:Array Value->Nat->List Value->Array Value
 |c,_,[]=>c
 |c,k,v::vs=>qc (c.setIfInBounds k v) (k+1) vs
theorem oP:∀(vs:List Value) (c:Array Value) (k:Nat),(qc c k vs).size=c.size
 |[],c,k=>rfl
 |v::vs,c,k=>by simp [qc,oP vs]
theorem Ko:∀(vs:List Value) (c:Array Value) (k o:Nat),k+vs.length<=c.size->
 (qc c k vs)[o]? =if h:k<=o/\o<k+vs.length then some (vs[o - k]'(by omega))else c[o]?
 |[],c,k,o,_=>by
  have:¬(k<=o/\o<k+([]:List Value).length):=by simp
  rw[awU this,qc]
 |v::vs,c,k,o,hk=>by
  have hk':k+1+vs.length<=(c.setIfInBounds k v).size:=by simp at hk ⊢; omega
  rw[qc,Ko vs _ _ _ hk']
  by_cases h1:k+1<=o/\o<k+1+vs.length
  ·have h2:k<=o/\o<k+(v::vs).length:=by simp;omega
   rw[awJ h1,awJ h2]
   congr 1
   have:o - k=(o - (k+1))+1:=by omega
   simp only[this,ayc]
  ·rw[awU h1]
   by_cases h3:o=k
   ·subst h3
    have h2:o<=o/\o<o+(v::vs).length:=by simp
    rw[awJ h2]
    have:o<c.size:=by simp at hk;omega
    simp [this]
   ·have h2:¬(k<=o/\o<k+(v::vs).length):=by simp;omega
    rw[awU h2,axt (awE h3)]
theorem amv {a:Addr} {v u:Value} (h1:v.oneCell=true) (hc:w.cell? a=some u) (hf:w.frozen? a=false):(store a v).run P w= .ok () (w.setCell a v):=by
 cases v<;>simp_all [store,Sem.run,Value.oneCell]
theorem apr {blk:Blk} {b o:Nat} {c:Array Value} {t:TypeId} {fr:Nat×Nat} (h:w.heap[b]? =some (.cells c t fr)) (hz:Ib blk c fr) (ho:o<c.size):w.frozen? ⟨b,o,none⟩=false:=by
 have:=hz.1 o ho;simp only[World.frozen?,h];obtain⟨lo,hi⟩:=fr;simp at this ⊢;omega
theorem setCell_at {b o:Nat} {c:Array Value} {t:TypeId} {fr:Nat×Nat} (v:Value) (h:w.heap[b]? =some (.cells c t fr)):
 w.setCell ⟨b,o,none⟩ v={ w with heap:=w.heap.setIfInBounds b (.cells (c.setIfInBounds o v) t fr) }:=by
 have hb:b<w.heap.size:=(awG.1 h).1
 have hg:w.heap[b]= .cells c t fr:=by simpa [awW hb] using h
 unfold World.setCell
 congr 1
 apply ayF
 intro i
 by_cases hi:b=i
 ·subst hi
  rw[ayb hb,Array.getElem?_modify]
  simp [h]
 ·rw[axt hi,Array.getElem?_modify]
  simp [hi]
theorem Om {blk:Blk} (b o:Nat) (t:TypeId) (fr:Nat×Nat):∀(vs:List Value) (i:Nat) (c:Array Value) (w:World),w.heap[b]? =some (.cells c t fr)->Ib blk c fr->o+i+vs.length<=c.size->
 (∀v∈vs,v.oneCell=true)->(storeCells ⟨b,o,none⟩ vs i).run P w= .ok () { w with heap:=w.heap.setIfInBounds b (.cells (qc c (o+i) vs) t fr) }
 |[],i,c,w,h,hz,hl,h1=>by
  have hb:b<w.heap.size:=(awG.1 h).1
  have hg:w.heap[b]= .cells c t fr:=by simpa [awW hb] using h
  simp only[storeCells,qc,Sem.run_pure]
  congr 1
  have hs:w.heap.setIfInBounds b (.cells c t fr)=w.heap:=by
   apply ayF
   intro i
   by_cases hi:b=i
   ·subst hi;rw[ayb hb,h]
   ·rw[axt hi]
  rw[hs]
 |v::vs,i,c,w,h,hz,hl,h1=>by
  have hlt:o+i<c.size:=by simp at hl;omega
  have hc:w.cell? ⟨b,o+i,none⟩=some c[o+i]:=by rw[aaK];simp [cellAt,h,hlt]
  have hb:b<w.heap.size:=(awG.1 h).1
  simp only[storeCells,Sem.run_bind,Addr.add_mk]
  rw[amv w (h1 v (by simp)) hc (apr w h hz hlt)]
  simp only[Result.andThen_ok]
  rw[setCell_at w v h]
  rw[Om b o t fr vs (i+1) (c.setIfInBounds (o+i) v) _ (by simp [hb]) (blk:=blk) (hz.of_size (by simp)) (by simp at hl ⊢; omega) (fun v hv=>h1 v (by simp [hv]))]
  congr 2
  simp only[qc,axz]
  apply ayF
  intro k
  by_cases hk:b=k
  ·subst hk
   rw[ayb (by simpa using hb),ayb hb]
  ·rw[axt hk,axt hk,axt hk]
theorem abA (t:TypeId) (c:Array Value):(newRow t c).run P w= .ok ⟨w.heap.size,0,none⟩ { w with heap:=w.heap.push (.cells c t) }:=by
 simp [newRow,newObj,Sem.run]
end
def over (u:List (Nat×Option Ent)) (hp:Nat->Option Ent) (id:Nat):Option Ent:=
 match look u id with
 |some e=>e
 |none=>hp id
def zx (P:Program) (M:Mem) (w:World) (i:Nat) (s:Sem Next) (e:Eff):Prop:=
 ∃nx v w' N,s.run P w= .ok nx w'/\(nx= .value v\/(nx= .skip/\v=undef))/\Stp M w N w'/\(∀id,N.hp id=over e.u M.hp id)/\bT N e.v v/\
  (∀id,N.U id->M.U id\/(i<=id/\id<i+8))
section
variable {P:Program} {M:Mem} {w:World} {i:Nat}
theorem zx.pure (h:lJ M) (hH:M.H=w.heap) {s:Sem Next} {x:AV} {v:Value} (hr:s.run P w= .ok (.value v) w) (hs:bT M x v):zx P M w i s ⟨x,[]⟩:=
 ⟨_,v,w,M,hr,.inl rfl,Stp.refl h hH,fun _=>rfl,hs,fun _ h=> .inl h⟩
theorem abL (v:Value):bT M (ofV v) v:=by
 unfold ofV;split
 ·exact .int _ _
 ·exact .bool _
 ·exact .str _ _ rfl
 ·exact .nilp
 ·exact .nils
 ·exact .nilf
 ·exact .nili
 ·exact .undef _
theorem acP {v:Value} (h:v.oneCell=true):v.cells= #[v]:=by
 cases v<;>simp_all [Value.oneCell,Value.cells]
theorem akj {x:AV} {v:Value} (h:bT M x v):(#[v]:Array Value).size=[x].length/\∀i,(h:i<[x].length)->(h':i<(#[v]:Array Value).size)->bT M [x][i] #[v][i]:=by
 refine⟨rfl,fun i h1 h2=> ?_⟩;have:i=0:=by simpa using h1
 subst this;exact h
theorem QJ (v:Value):v.cells.size=(cellsOfV v).length/\∀i,(h:i<(cellsOfV v).length)->(h':i<v.cells.size)->bT M (cellsOfV v)[i] v.cells[i]:=by
 cases hv:v
 case agg cs=>
  refine⟨by simp [cellsOfV,Value.cells],fun i h h'=> ?_⟩;simp only[cellsOfV,ayG,Value.cells,axN];exact abL _
 all_goals exact akj (abL _)
theorem aid {A:FS} {a:Act} (hfr:∀t,bT M (get A.fr t) (a.tmps.getD t undef)) (x:Operand):bT M (A.ev x) (a.eval x):=by
 cases x with
 |tmp t=>exact hfr t
 |const v=>
  cases v
  case agg cs=>
   simp only[FS.ev,Act.eval];cases hc:cs.all Value.oneCell with
   |false=>exact .undef _
   |true=>
    refine .agg _ _ (by simp) (fun i h=> ?_) fun i h h'=> ?_
    ·exact Array.all_eq_true.1 hc i h
    ·simp only[ayG,axN];exact abL _
  all_goals
   simp only[FS.ev,Act.eval];exact abL _
 |global g=>exact .undef _
 |func f=>exact .fn f [] #[] rfl (fun i h _=>by simp at h)
theorem OG {x:AV} {v:Value} (h:acf x=true) (hs:bT M x v):v.oneCell=true:=by
 cases hs<;>first | assumption | rfl | (subst_vars;rfl) | (rename_i hv _;obtain⟨a,rfl⟩:=hv;rfl) | (rename_i hv _;obtain⟨a,c,rfl,_⟩:=hv;rfl) | simp [acf]at h
theorem akY {x:AV} {v:Value} (h:boxOk x=true) (hs:bT M x v):v.cells.size=x.cellsA.length/\∀i,(h:i<x.cellsA.length)->(h':i<v.cells.size)->bT M x.cellsA[i] v.cells[i]:=by
 cases hx:x
 case agg cs=>
  subst hx;cases hs with
  |agg cs vs hn h1 hh=>exact⟨hn,hh⟩
 all_goals
  have h1:v.oneCell=true:=OG (by rw[<-h,hx];rfl) hs;rw[acP h1];exact akj (hx▸hs)
theorem anm {x:AV} {v:Value} (h:boxOk x=true) (hs:bT M x v):∀i,(hi:i<v.cells.size)->v.cells[i].oneCell=true:=by
 cases hx:x
 case agg cs=>
  subst hx;cases hs with
  |agg cs vs hn h1 hh=>exact h1
 all_goals
  have h1:v.oneCell=true:=OG (by rw[<-h,hx];rfl) hs;intro i hi;have hc:=acP h1;have h0:i=0:=by rw[hc]at hi;simpa using hi
  subst h0;simp only[hc];exact h1
end
theorem xQ (e:E) (x:den e):(cells e x).length=esz e:=by cases e<;>rfl
theorem cells_ok (e:E) (x:den e):Nh (cells e x)=true:=by cases e<;>rfl
theorem adq:∀(l:List AV) (k:Nat),Nh l=true->k<l.length->acf (nth l k)=true
 |[],k,_,hk=>by simp at hk
 |v::r,0,h,_=>by simp only[Nh,awp]at h;exact h.1
 |v::r,k+1,h,hk=>by
  simp only[Nh,awp]at h
  exact adq r k h.2 (by simpa using hk)
theorem ajk (e:E) (x:den e) (k:Nat) (hk:k<esz e):acf (nth (cells e x) k)=true:=
 adq _ _ (cells_ok e x) (by rw[xQ];exact hk)
theorem vG:∀(l:List AV) (k:Nat) (h:k<l.length),nth l k=l[k]
 |[],k,h=>by simp at h
 |v::r,0,_=>rfl
 |v::r,k+1,h=>by simp only[nth,ayc];exact vG r k (by simpa using h)
theorem af4:∀(l:List AV) (k:Nat) (x:AV),ao0 l k=some x->∃h:k<l.length,l[k]=x
 |[],k,x,h=>by simp [ao0]at h
 |v::r,0,x,h=>by simp only[ao0,awj]at h;exact⟨by simp,by simpa using h⟩
 |v::r,k+1,x,h=>by
  obtain⟨h1,h2⟩:=af4 r k x (by simpa [ao0] using h)
  exact⟨by simpa using h1,by simpa using h2⟩
section
variable {P:Program} {M:Mem} {w:World} {i:Nat}
theorem af8 (blk:Blk) (c:Array Value):Ib blk c (0,0):=⟨fun o _ h=>by simp at h,fun _ h=>by simp at h⟩
theorem zx.new (h:lJ M) (hH:M.H=w.heap) (hF:∀b,M.F b->b<w.heap.size) (hi:¬M.U i) {s:Sem Next} {c:Array Value} {t:TypeId} {cs:List AV}
 (hr:s.run P w= .ok (.value (.pointer (some ⟨w.heap.size,0,none⟩))) { w with heap:=w.heap.push (.cells c t) }) (hb:xC M (.raw cs) c):
 zx P M w i s ⟨.mp i 0,[(i,some ⟨false,.raw cs⟩)]⟩:=by
 refine⟨_,_,_,_,hr,.inl rfl,Stp.alloc h hH hF i hi (.raw cs) c t (0,0) (af8 _ c) hb rfl rfl rfl rfl,fun id=> ?_,?_,fun id hU=> ?_⟩
 ·show Ey M.hp i _ id=_
  by_cases hid:id=i
  ·subst hid;rw[bQ];simp [over,look]
  ·have hb:Nat.beq i id=false:=by
    cases hb:Nat.beq i id with
    |false=>rfl
    |true=>exact absurd (aws hb).symm hid
   rw[dH _ _ hid];simp [over,look,hb]
 ·refine .mp i 0 _ (.inr rfl) ⟨_,rfl⟩ fun e he=>⟨M.H.size,false,cs,?_,by simp [Mem.new,bQ],by rw[hH]⟩
  simpa [Mem.new,bQ] using he.symm
 ·rcases hU with h1 | h1
  ·exact .inl h1
  ·exact .inr (by omega)
theorem ajY {t:TypeId} (hz:CX P t≠[]):∃v,CX P t=cellsOfV v/\(∀i,(h:i<v.cells.size)->v.cells[i].oneCell=true)/\(zeroValue t).run P w= .ok v w:=by
 unfold CX at*;cases hi:P.info? t with
 |none=>simp [hi]at hz
 |some inf=>
  simp only[hi]at hz ⊢;cases hv:inf.zero with
  |none=>simp [hv]at hz
  |some v=>
   simp only[hv]at hz ⊢;cases hc:v.cells.all Value.oneCell with
   |false=>simp [hc]at hz
   |true=>
    refine⟨v,by simp,fun i h=>Array.all_eq_true.1 hc i h,?_⟩;simp [zeroValue,aeF w hi,hv]
theorem aqD (h:lJ M) (hH:M.H=w.heap) (hF:∀b,M.F b->b<w.heap.size) (hi:¬M.U i) (ρ:Operand->Value) (o:Oper) (t:TypeId) (ho:o.op= .alloc t) (hz:CX P t≠[]):
 zx P M w i (execOp ρ o) ⟨.mp i 0,[(i,some ⟨false,.raw (CX P t)⟩)]⟩:=by
 obtain⟨v,h1,h2,h3⟩:=ajY (w:=w) hz
 refine zx.new (c:=v.cells) (t:=t) h hH hF hi ?_ ?_
 ·simp only[execOp,ho,Instr.alloc,newVar,Sem.run_bind,h3,Result.andThen_ok,abA,Sem.run_pure]
 ·obtain⟨g1,g2⟩:=QJ (M:=M) v
  rw[h1]
  exact⟨⟨g1,h2⟩,g2⟩
theorem auP (h:lJ M) (hH:M.H=w.heap) (hF:∀b,M.F b->b<w.heap.size) (hi:¬M.U i) (ρ:Operand->Value) (o:Oper) (t:TypeId) (y:Operand) (ho:o.op= .box t y) {x:AV}
 (hb:boxOk x=true) (hs:bT M x (ρ y)):zx P M w i (execOp ρ o) ⟨.mp i 0,[(i,some ⟨false,.raw x.cellsA⟩)]⟩:=by
 refine zx.new (c:=(ρ y).cells) (t:=t) h hH hF hi ?_ ?_
 ·simp only[execOp,ho,Instr.box,newVar,Sem.run_bind,Result.andThen_ok,abA,Sem.run_pure]
 ·obtain⟨g1,g2⟩:=akY hb hs
  exact⟨⟨g1,anm hb hs⟩,g2⟩
theorem abU (b o:Nat) (cs:List AV) (f:Nat->Value) (hc:∀k,k<cs.length->cellAt w.heap b (o+k)=some (f k)) (hs:∀k,(h:k<cs.length)->bT M cs[k] (f k))
 (h1:∀k,k<cs.length->(f k).oneCell=true) {t:TypeId} {off:Nat} {x:AV} (hp:part P t cs off=some x):
 ∃v,(loadVar t ⟨b,o+off,none⟩).run P w= .ok v w/\bT M x v:=by
 unfold part at hp
 cases ha:adA P t with
 |none=>simp [ha]at hp
 |some g=>
  obtain⟨d,hd⟩:=afT ha
  cases g with
  |true=>
   simp only[ha]at hp
   cases hl:Nat.ble (off+fM P t) cs.length with
   |false=>simp [hl]at hp
   |true=>
    simp only[hl,cond_true,awj]at hp
    subst hp
    have hl':off+fM P t<=cs.length:=by simpa using hl
    refine⟨.agg ((List.range (fM P t)).map fun k=>f (off+k)).toArray,?_,?_⟩
    ·simp only[loadVar,Sem.run_bind,ano w ha,Result.andThen_ok,if_true,anl w hd]
     rw[run_loadCells w _ _ (fun k=>f (off+k)) fun j hj=> ?_]
     ·simp
     ·rw[Addr.add_mk,aaK,axz]
      exact hc (off+j) (by omega)
    ·refine .agg _ _ (by simp;omega) (fun k hk=> ?_) fun k hk hk'=> ?_
     ·simp at hk ⊢; exact h1 _ (by omega)
     ·simp at hk hk' ⊢
      exact hs (off+k) (by omega)
  |false=>
   simp only[ha]at hp
   obtain⟨hl,rfl⟩:=af4 _ _ _ hp
   refine⟨f off,?_,hs off hl⟩
   simp only[loadVar,Sem.run_bind,ano w ha,Result.andThen_ok,axA,if_false]
   exact auL w (by rw[aaK];exact hc off hl)
theorem adt (h:lJ M) (hH:M.H=w.heap) (t:TypeId) {x r:AV} {v0:Value} (hs:bT M x v0) {hp:Nat->Option Ent}
 (hr:∀id e,hp id=some e->M.hp id=some e) (hl:alx P hp t x=some r):∃ad v,v0= .pointer (some ad)/\(loadVar t ad).run P w= .ok v w/\bT M r v:=by
 have key:∀b off v,v0= .pointer (some ⟨b,off,none⟩)->(loadVar t ⟨b,off,none⟩).run P w= .ok v w->bT M r v->∃ad v,v0= .pointer (some ad)/\(loadVar t ad).run P w= .ok v w/\bT M r v:=fun b off v h1 h2 h3=>
  ⟨_,v,h1,h2,h3⟩
 unfold alx at hl
 cases hs with
 |mp id off v hU hv1 hh=>
  simp only at hl
  cases he:hp id with
  |none=>simp [he]at hl
  |some e=>
   obtain⟨fz,blk⟩:=e
   obtain⟨b,fz',cs,he',hb,hv⟩:=hh _ (hr id _ he)
   cases he'
   simp only[he]at hl
   obtain⟨_,_,c,ty,fr,hc,hz,⟨hsz,h1⟩,hcs⟩:=h.is (hr id _ he) hb
   have hcell:∀k,k<cs.length->cellAt w.heap b (0+k)=some (c.getD k undef):=fun k hk=>by
    have:k<c.size:=by omega
    simp [cellAt,<-hH,hc,this]
   obtain⟨v',g1,g2⟩:=abU (M:=M) (w:=w) b 0 cs (fun k=>c.getD k undef) hcell (fun k hk=>by
    have:k<c.size:=by omega
    simp only[Array.getD,this,awJ]
    exact hcs k hk this) (fun k hk=>by
    have:k<c.size:=by omega
    simp only[Array.getD,this,awJ]
    exact h1 k this) hl
   exact key b off v' hv (by simpa using g1) g2
 |ep id k j v hU hv1 hh=>
  simp only at hl
  cases he:hp id with
  |none=>simp [he]at hl
  |some e=>
   obtain⟨fz,blk⟩:=e
   obtain⟨b,fz',ty,l,he',hb,hk,hv⟩:=hh _ (hr id _ he)
   cases he'
   simp only[he]at hl
   obtain⟨_,_,c,ty',fr,hc,hz,hsz,hcs⟩:=h.is (hr id _ he) hb
   have hget:aj l k=l[k]:=by simp [aj,List.getD,hk]
   have hcell:∀m,m<esz ty->∃u,cellAt w.heap b (k*esz ty+m)=some u/\bT M (nth (cells ty l[k]) m) u:=fun m hm=>by
    obtain⟨u,g1,g2⟩:=hcs k m hk hm
    exact⟨u,by simp [cellAt,<-hH,hc,g1],g2⟩
   have hlen:=xQ ty l[k]
   obtain⟨v',g1,g2⟩:=abU (M:=M) (w:=w) b (k*esz ty) (cells ty l[k]) (fun m=>((cellAt w.heap b (k*esz ty+m)).getD undef)) (fun m hm=>by
    obtain⟨u,g1,_⟩:=hcell m (by omega)
    simp [g1]) (fun m hm=>by
    obtain⟨u,g1,g2⟩:=hcell m (by omega)
    rw[vG _ _ hm]at g2
    simpa [g1] using g2) (fun m hm=>by
    obtain⟨u,g1,g2⟩:=hcell m (by omega)
    simp only[g1,axO]
    exact OG (ajk ty _ m (by omega)) g2) (by rw[<-hget];exact hl)
   exact key b _ v' hv g1 g2
 |rp e xx j v b o' hv hFb cs hc hss=>
  simp only at hl
  have hlen:=xQ e xx
  obtain⟨v',g1,g2⟩:=abU (M:=M) (w:=w) b o' (cells e xx) cs (fun m hm=>by rw[<-hH];exact hc m (by omega)) (fun m hm=>by
   have:=hss m (by omega)
   rwa[vG _ _ hm]at this) (fun m hm=>OG (ajk e _ m (by omega)) (hss m (by omega))) hl
  exact key b _ v' hv g1 g2
 |_=>simp at hl
theorem asq (h:lJ M) (hH:M.H=w.heap) (ρ:Operand->Value) (o:Oper) (t:TypeId) (y:Operand) (ho:o.op= .load t y) {x r:AV} (hs:bT M x (ρ y)) {hp:Nat->Option Ent}
 (hr:∀id e,hp id=some e->M.hp id=some e) (hl:alx P hp t x=some r):zx P M w i (execOp ρ o) ⟨r,[]⟩:=by
 obtain⟨ad,v,h1,h2,h3⟩:=adt (w:=w) h hH t hs hr hl
 exact zx.pure h hH (v:=v) (by simp only[execOp,ho,Instr.loadAt,h1,Instr.sureAddr,Sem.run_bind,Sem.run_pure,Result.andThen_ok,h2]) h3
end
theorem jV {a b:Int}:ile a b=true↔a<=b:=by simp [ile]
theorem Ie {a b:Int}:ilt a b=true↔a<b:=by simp [ilt]
theorem anA {a b:Int}:ieq a b=true↔a=b:=by simp [ieq]
theorem rZ {a b:Bool}:band a b=true↔a=true/\b=true:=by simp [band]
theorem aaz {a b:Bool}:bor a b=true↔a=true\/b=true:=by simp [bor]
structure WfP (P:Program):Prop where
 arr:∀t n el,P.underlying t=some (.array n el)->P.info? el≠none
 sl:∀t el,P.underlying t=some (.slice el)->P.info? el≠none
 fld:∀t fs,P.underlying t=some (.struct fs)->∀f∈fs.toList,P.info? f.type≠none
theorem WfP.size {P:Program} {t:TypeId} (h:P.info? t≠none) (w:World):(sizeOf t).run P w= .ok (fM P t) w:=by
 cases hi:P.info? t with
 |none=>exact absurd hi h
 |some inf=>rw[WM w hi];simp [fM,hi]
structure OpH (P:Program) (M:Mem) (w:World) (hp:Nat->Option Ent) (ρ:Operand->Value) (ev:Operand->AV) (i:Nat):Prop where
 rel:lJ M
 H:M.H=w.heap
 F:∀b,M.F b->b<w.heap.size
 new:∀j,i<=j->j<i+8->¬M.U j
 hp:∀id e,hp id=some e->M.hp id=some e
 ev:∀x,bT M (ev x) (ρ x)
def POk (P:Program) (M:Mem) (w:World) (s:Sem Value) (y:AV):Prop:=∃v,s.run P w= .ok v w/\bT M y v
section
variable {P:Program} {M:Mem} {w:World} {hp:Nat->Option Ent} {ρ:Operand->Value} {ev:Operand->AV} {i:Nat}
theorem POk.ok (H:OpH P M w hp ρ ev i) {s:Sem Value} {y:AV} (h:POk P M w s y):zx P M w i (do pure (.value (<-s))) ⟨y,[]⟩:=by
 obtain⟨v,h1,h2⟩:=h;exact zx.pure H.rel H.H (v:=v) (by simp [h1]) h2
theorem POk.mk {s:Sem Value} {y:AV} (v:Value) (h:s.run P w= .ok v w) (hs:bT M y v):POk P M w s y:=⟨v,h,hs⟩
theorem abX {a b:IntKind}:Xj a b=true↔a=b:=by cases a<;>cases b<;>decide
theorem asW {op:BinOp} {k:IntKind} {a b:Int} {ob:Bool} {r:AV} (h:aqd op k a b=some (ob,r)) (ho:ob=true) (t:TypeId)
 (hs:¬(op= .shl\/op= .shr)):POk P M w (binOp op t (.int k a) (.int k b)) r:=by
 cases op<;>simp only[aqd,awj,awo,reduceCtorEq]at h<;>obtain⟨rfl,rfl⟩:=h
 case quo=>
  have hb:b≠0:=by simpa [ax,ieq] using ho
  refine POk.mk _ ?_ (.int k _)
  simp [binOp,Op.intDiv,hb,wr,AL]
 case rem=>
  have hb:b≠0:=by simpa [ax,ieq] using ho
  refine POk.mk _ ?_ (.int k _)
  simp [binOp,Op.intDiv,hb,ug]
 case add=>exact POk.mk _ (by simp [binOp,Op.intArith,wr,ay]) (.int k _)
 case sub=>exact POk.mk _ (by simp [binOp,Op.intArith,wr,aO]) (.int k _)
 case mul=>exact POk.mk _ (by simp [binOp,Op.intArith,wr,dA]) (.int k _)
 case and=>exact POk.mk _ (by simp [binOp,Op.intBits,wr,jT]) (.int k _)
 case or=>exact POk.mk _ (by simp [binOp,Op.intBits,wr,ior]) (.int k _)
 case xor=>exact POk.mk _ (by simp [binOp,Op.intBits,wr,gX]) (.int k _)
 case andNot=>exact POk.mk _ (by simp [binOp,Op.intBits,wr,atr]) (.int k _)
 case eql=>exact POk.mk _ (by simp [binOp,Op.intCmp,ieq]) (.bool _)
 case neq=>exact POk.mk _ (by simp [binOp,Op.intCmp,ieq,ax,bne]) (.bool _)
 case lss=>exact POk.mk _ (by simp [binOp,Op.intCmp,ilt]) (.bool _)
 case leq=>exact POk.mk _ (by simp [binOp,Op.intCmp,ile]) (.bool _)
 case gtr=>exact POk.mk _ (by simp [binOp,Op.intCmp,ilt]) (.bool _)
 case geq=>exact POk.mk _ (by simp [binOp,Op.intCmp,ile]) (.bool _)
theorem GR (s:ByteArray):s.toList=s.data.toList:=ByteArray.toList_eq s
theorem Qg (s:ByteArray):s.size=s.data.toList.length:=by
 show s.data.size=_;exact(Array.length_toList).symm
theorem ar4 {op:BinOp} {a b:List UInt8} {r:AV} (h:am2 op a b=some r) (hc:op= .add->a.length+b.length<=68719476736) (t:TypeId)
 (x y:ByteArray) (hx:x.data.toList=a) (hy:y.data.toList=b):POk P M w (binOp op t (.string x) (.string y)) r:=by
 subst hx;subst hy
 cases op<;>simp only[am2,awj,reduceCtorEq]at h<;>subst h
 case add=>
  have hc':=hc rfl
  refine POk.mk (.string (x++y)) ?_ (.str _ _ (by simp [aJ]))
  have:¬(((x.size+y.size:Nat):Int)>IntKind.i64.max):=by
   have hm:IntKind.i64.max=9223372036854775807:=by decide
   rw[hm,Qg,Qg];omega
  simp only[binOp,Op.stringOp,awg this,Sem.run_pure]
 case eql=>exact POk.mk _ (by simp [binOp,Op.stringOp,seq,GR]) (.bool _)
 case neq=>exact POk.mk _ (by simp [binOp,Op.stringOp,seq,ax,GR]) (.bool _)
 case lss=>exact POk.mk _ (by simp [binOp,Op.stringOp,slt,GR]) (.bool _)
 case leq=>exact POk.mk _ (by simp [binOp,Op.stringOp,slt,seq,bor,GR]) (.bool _)
 case gtr=>exact POk.mk _ (by simp [binOp,Op.stringOp,slt,seq,bor,ax,GR]) (.bool _)
 case geq=>exact POk.mk _ (by simp [binOp,Op.stringOp,slt,ax,GR]) (.bool _)
theorem as3 {op:BinOp} {x y:AV} {ob:Bool} {r:AV} (h:aiZ op x y=some (ob,r)) (ho:ob=true) (t:TypeId) {v u:Value} (hx:bT M x v) (hy:bT M y u):
 POk P M w (binOp op t v u) r:=by
 unfold aiZ at h
 split at h
 ·simp only[awj,awo]at h
  obtain⟨rfl,rfl⟩:=h
  rename_i k a k' b
  cases hx;cases hy
  have hb:¬(b<(0:Int)):=by simpa [ile] using ho
  refine POk.mk (.int k (wr k (sV k a b))) ?_ (.int _ _)
  simp only[binOp,Op.shift,awg hb,Sem.run_pure,wr,sV]
 ·simp only[awj,awo]at h
  obtain⟨rfl,rfl⟩:=h
  rename_i k a k' b
  cases hx;cases hy
  have hb:¬(b<(0:Int)):=by simpa [ile] using ho
  refine POk.mk (.int k (dw k a b)) ?_ (.int _ _)
  simp only[binOp,Op.shift,awg hb,Sem.run_pure,dw]
 ·simp at h
end
section
variable {P:Program} {M:Mem} {w:World} {hp:Nat->Option Ent} {ρ:Operand->Value} {ev:Operand->AV} {i:Nat}
def Jz (M:Mem) (cs:List AV) (vs:Array Value):Prop:=
 vs.size=cs.length/\(∀i,(h:i<vs.size)->vs[i].oneCell=true)/\∀i,(h:i<cs.length)->(h':i<vs.size)->bT M cs[i] vs[i]
theorem Yc {cs:List AV} {v:Value} (h:bT M (.agg cs) v):∃vs,v= .agg vs/\Jz M cs vs:=by
 cases h with
 |agg cs vs hn h1 hs=>exact⟨vs,rfl,hn,h1,hs⟩
theorem ab8 {t:TypeId} {cs:List AV} {vs:Array Value} {off:Nat} {x:AV} (hp:part P t cs off=some x) (hs:Jz M cs vs):
 POk P M w (Go.part t vs off) x:=by
 obtain⟨hn,h1,hs⟩:=hs
 unfold part at hp
 cases ha:adA P t with
 |none=>simp [ha]at hp
 |some g=>
  obtain⟨d,hd⟩:=afT ha
  cases g with
  |true=>
   simp only[ha]at hp
   cases hl:Nat.ble (off+fM P t) cs.length with
   |false=>simp [hl]at hp
   |true=>
    simp only[hl,cond_true,awj]at hp
    subst hp
    have hl':off+fM P t<=cs.length:=by simpa using hl
    refine POk.mk (.agg (vs.extract off (off+fM P t))) (by simp [Go.part,ano w ha,anl w hd]) (.agg _ _ (by simp;omega) (fun k hk=> ?_) fun k hk hk'=> ?_)
    ·simp at hk ⊢; exact h1 _ (by omega)
    ·simp at hk hk' ⊢; exact hs _ (by omega) (by omega)
  |false=>
   simp only[ha]at hp
   obtain⟨hl,rfl⟩:=af4 _ _ _ hp
   refine POk.mk (vs[off]'(by omega)) ?_ (hs off hl (by omega))
   have:vs[off]? =some (vs[off]'(by omega)):=awW (by omega)
   simp [Go.part,ano w ha,this]
theorem akU {t:TypeId} {fs:Array Field} (h:P.underlying t=some (.struct fs)):P.fieldsOf t=fs:=by
 simp [Program.fieldsOf,h]
theorem afj {f:Nat->AV->AV->Option Bool} {d:Nat} (ih:∀t x y c v u,f t x y=some c->bT M x v->bT M y u->(Op.equalIn d t v u).run P w= .ok c w)
 {xs ys:List AV} {vs us:Array Value} (hx:Jz M xs vs) (hy:Jz M ys us):∀(fs:List Field) (c:Bool),fs.any (fun f=>f.name == "_")=false→eqFields f P xs ys fs=some c→
 (Op.eqFields d vs us fs).run P w= .ok c w
 |[],c,_,h=>by simp only[eqFields,awj]at h;subst h;simp [Op.eqFields]
 |fd::r,c,hn,h=>by
  have hn1:fd.name≠ "_" :=by intro e;simp [e]at hn
  have hn2:r.any (fun f=>f.name == "_")=false:=by
   simp only[List.any_cons,ayV]at hn;exact hn.2
  have key:∃x y a,part P fd.type xs fd.offset=some x/\part P fd.type ys fd.offset=some y/\f fd.type x y=some a/\(a=true->(Op.eqFields d vs us r).run P w= .ok c w)/\(a=false->c=false):=by
   cases r with
   |nil=>
    unfold eqFields at h
    cases h1:part P fd.type xs fd.offset with
    |none=>simp [h1]at h
    |some x=>
     cases h2:part P fd.type ys fd.offset with
     |none=>simp [h1,h2]at h
     |some y=>
      simp only[h1,h2]at h
      exact⟨x,y,c,rfl,rfl,h,fun e=>by simp [Op.eqFields,e],fun e=>e⟩
   |cons g r'=>
    unfold eqFields at h
    cases h1:part P fd.type xs fd.offset with
    |none=>simp [h1]at h
    |some x=>
     cases h2:part P fd.type ys fd.offset with
     |none=>simp [h1,h2]at h
     |some y=>
      simp only[h1,h2]at h
      cases h3:f fd.type x y with
      |none=>simp [h3]at h
      |some a=>
       cases h4:eqFields f P xs ys (g::r')with
       |none=>simp [h3,h4]at h
       |some b=>
        simp only[h3,h4,awj]at h
        refine⟨x,y,a,rfl,rfl,h3,fun e=> ?_,fun e=> ?_⟩
        ·subst e
         rw[afj ih hx hy (g::r') b hn2 h4]
         simp [<-h,band]
        ·subst e;simp [<-h,band]
  obtain⟨x,y,a,h1,h2,h3,h4,h5⟩:=key
  obtain⟨v,g1,g2⟩:=ab8 (w:=w) h1 hx
  obtain⟨u,g3,g4⟩:=ab8 (w:=w) h2 hy
  simp only[Op.eqFields,awh hn1,ne_eq,Sem.run_bind,g1,g3,Result.andThen_ok,ih _ _ _ _ _ _ h3 g2 g4,Sem.run_ite]
  cases a with
  |true=>simpa using h4 rfl
  |false=>simp [h5 rfl]
theorem agW {f:AV->AV->Option Bool} {d el n:Nat} (ih:∀x y c v u,f x y=some c->bT M x v->bT M y u->(Op.equalIn d el v u).run P w= .ok c w)
 {xs ys:List AV} {vs us:Array Value} (hx:Jz M xs vs) (hy:Jz M ys us) (step:Nat->Option Bool×Unit->Sem (ForInStep (Option Bool×Unit)))
 (hstep:∀i r,step i r=(do
   if !(<-Op.equalIn d el (<-Go.part el vs (i*n)) (<-Go.part el us (i*n)))then pure (ForInStep.done (some false,()))else pure (ForInStep.yield (none,())))):∀(m i:Nat) (c:Bool),XW f P el n xs ys m i=some c->
 (forIn (List.range' i m 1) ((none,()):Option Bool×Unit) step).run P w= .ok (cond c none (some false),()) w
 |0,i,c,h=>by
  simp only[XW,awj]at h
  subst h
  simp
 |m+1,i,c,h=>by
  unfold XW at h
  cases h1:part P el xs (i*n)with
  |none=>simp [h1]at h
  |some x=>
   cases h2:part P el ys (i*n)with
   |none=>simp [h1,h2]at h
   |some y=>
    simp only[h1,h2]at h
    cases h3:f x y with
    |none=>simp [h3]at h
    |some a=>
     cases h4:XW f P el n xs ys m (i+1)with
     |none=>simp [h3,h4]at h
     |some b=>
      simp only[h3,h4,awj]at h
      obtain⟨v,g1,g2⟩:=ab8 (w:=w) h1 hx
      obtain⟨u,g3,g4⟩:=ab8 (w:=w) h2 hy
      simp only[List.range'_succ,List.forIn_cons,hstep,Sem.run_bind,g1,g3,Result.andThen_ok,ih _ _ _ _ _ h3 g2 g4,Sem.run_ite]
      have hs:=agW ih hx hy step hstep m (i+1) b h4
      subst h
      cases a with
      |true=>simpa [band] using hs
      |false=>simp [band]
theorem att (wf:WfP P):∀(d k t:Nat) (x y:AV) (c:Bool) (v u:Value),eqT P d t x y=some c->bT M x v->bT M y u->(Op.equalIn (k+d) t v u).run P w= .ok c w
 |0,k,t,x,y,c,v,u,h,_,_=>by simp [eqT]at h
 |d+1,k,t,x,y,c,v,u,h,hx,hy=>by
  have ih:∀t x y c v u,eqT P d t x y=some c->bT M x v->bT M y u->(Op.equalIn (k+d) t v u).run P w= .ok c w:=fun t x y c v u h hx hy=>att wf d k t x y c v u h hx hy
  show(Op.equalIn ((k+d)+1) t v u).run P w= .ok c w
  unfold eqT at h
  cases hu:P.underlying t with
  |none=>simp [hu]at h
  |some D=>
   simp only[hu]at h
   cases D with
   |bool=>
    simp only at h
    split at h
    ·simp only[awj]at h;subst h
     cases hx;cases hy
     rw[run_equalIn_bool' w _ t _ _ hu];rfl
    ·simp at h
   |int kk=>
    simp only at h
    split at h
    ·rename_i k1 a k2 b
     cases hk:Xj k1 k2 with
     |false=>simp [hk]at h
     |true=>
      have hk':=abX.1 hk
      subst hk'
      simp only[hk,cond_true,awj]at h;subst h
      cases hx;cases hy
      rw[run_equalIn_int w _ t _ _ _ _ hu];rfl
    ·simp at h
   |string=>
    simp only at h
    split at h
    ·simp only[awj]at h;subst h
     cases hx with | str s l hl=>
     cases hy with | str s' l' hl'=>
     subst hl;subst hl'
     rw[run_equalIn_string w _ t _ _ hu,GR,GR];rfl
    ·simp at h
   |pointer el=>
    simp only at h
    split at h
    ·simp only[awj]at h;subst h
     cases hx;cases hy
     simp [Op.equalIn,run_underlying hu]
    all_goals first
     |simp at h;done
     |(simp only[awj]at h;subst h
       cases hx;cases hy
       rename_i hv _
       obtain⟨a,rfl⟩:=hv
       simp [Op.equalIn,run_underlying hu])
   |slice el=>
    simp only at h
    split at h
    ·simp only[awj]at h;subst h
     cases hx;cases hy
     simp [Op.equalIn,run_underlying hu]
    ·simp at h
   |func a b cc=>
    simp only at h
    split at h
    ·simp only[awj]at h;subst h
     cases hx;cases hy
     simp [Op.equalIn,run_underlying hu]
    ·simp only[awj]at h;subst h
     cases hx;cases hy
     simp [Op.equalIn,run_underlying hu]
    ·simp only[awj]at h;subst h
     cases hx;cases hy
     simp [Op.equalIn,run_underlying hu]
    ·simp at h
   |struct fields=>
    simp only at h
    split at h
    ·rename_i xs ys
     obtain⟨vs,rfl,hvs⟩:=Yc hx
     obtain⟨us,rfl,hus⟩:=Yc hy
     cases hc:P.stoodInHeld t||fields.toList.any (fun f=>f.name == "_")with
     |true=>rw[hc]at h;simp at h
     |false=>
      simp only[hc,cond_false]at h
      simp only[ayV]at hc
      have hf:=akU hu
      rw[run_equalIn_struct w _ t vs us (by rw[hf];exact hu) hc.1,hf]
      exact afj ih hvs hus _ c hc.2 h
    ·simp at h
   |array n el=>
    simp only at h
    split at h
    ·rename_i xs ys
     obtain⟨vs,rfl,hvs⟩:=Yc hx
     obtain⟨us,rfl,hus⟩:=Yc hy
     cases hi:P.info? el with
     |none=>exact absurd hi (wf.arr _ _ _ hu)
     |some inf=>
      have hsz:∀w,(sizeOf el).run P w= .ok (fM P el) w:=fun w=>by rw[WM w hi];simp [fM,hi]
      simp only[Op.equalIn,Sem.run_bind,run_underlying hu,Result.andThen_ok,hsz,Std.Legacy.Range.forIn_eq_forIn_range',Std.Legacy.Range.size,ayH,Nat.add_sub_cancel,Nat.div_one]
      rw[agW (ih el) hvs hus _ (fun _ _=>rfl) n 0 c h]
      cases c<;>simp
    ·simp at h
   |_=>simp at h
end
def ae3:AV->Bool
 |.bool _ | .nilp | .mp _ _ | .ep _ _ _ | .nils | .nilf | .fn _ _ | .fnb _ _ | .agg _=>true
 |_=>false
section
variable {P:Program} {M:Mem} {w:World} {hp:Nat->Option Ent} {ρ:Operand->Value} {ev:Operand->AV} {i:Nat}
theorem aqe {d t:Nat} {x y:AV} {c:Bool} (h:eqT P d t x y=some c):(∃k a k' b,x= .int k a/\y= .int k' b)\/(∃a b,x= .str a/\y= .str b)\/ae3 x=true:=by
 cases d with
 |zero=>simp [eqT]at h
 |succ d=>
  unfold eqT at h;cases x with
  |int k a=>
   cases y with
   |int k' b=>exact .inl ⟨_,_,_,_,rfl,rfl⟩
   |_=>split at h<;>simp at h
  |str s=>
   cases y with
   |str s'=>exact .inr (.inl ⟨_,_,rfl,rfl⟩)
   |_=>split at h<;>simp at h
  |undef | rp | ro | mf | ms | rs | tup | ifc | nili | cond=>split at h<;>simp at h
  |_=>exact .inr (.inr rfl)
theorem akK {x:AV} {v:Value} (h:ae3 x=true) (hs:bT M x v):(∃b,v= .bool b)\/(∃a,v= .pointer a)\/v= .slice none 0 0\/v= .nilFunc\/(∃f a b,v= .func f a b)\/∃cs,v= .agg cs:=by
 cases hs<;>simp [ae3]at h<;>first
  |(refine .inl ⟨_,rfl⟩;done)
  |(refine .inr (.inl ⟨_,rfl⟩);done)
  |(rename_i hv _;obtain⟨a,rfl⟩:=hv;exact .inr (.inl ⟨_,rfl⟩))
  |(refine .inr (.inr (.inl rfl));done)
  |(refine .inr (.inr (.inr (.inl rfl)));done)
  |(refine .inr (.inr (.inr (.inr (.inl ⟨_,_,_,rfl⟩))));done)
  |(refine .inr (.inr (.inr (.inr (.inr ⟨_,rfl⟩))));done)
theorem aqF {t:TypeId} {x:AV} {v u:Value} {c:Bool} (hh:ae3 x=true) (hs:bT M x v) (h:(Op.equalIn 10000 t v u).run P w= .ok c w):
 (binOp .eql t v u).run P w= .ok (.bool c) w/\(binOp .neq t v u).run P w= .ok (.bool (!c)) w:=by
 rcases akK hh hs with ⟨b,rfl⟩ | ⟨a,rfl⟩ | rfl | rfl | ⟨f,a,b,rfl⟩ | ⟨cs,rfl⟩<;>constructor<;>simp [binOp,Op.equal,Op.maxDepth,h]
theorem ac5 {op:BinOp} {t:TypeId} {x:AV} {v u:Value} {a b:Operand} (hh:ae3 x=true) (hs:bT M x v) (hg:P.eqGuardType P.depth t=false):
 (eqGuard op t a b v u).run P w= .ok () w:=by
 rcases akK hh hs with ⟨b,rfl⟩ | ⟨a,rfl⟩ | rfl | rfl | ⟨f,a,b,rfl⟩ | ⟨cs,rfl⟩<;>cases op<;>simp [eqGuard]
 all_goals cases u<;>simp [run_program,hg]
theorem aph {op:BinOp} {t:TypeId} {a b:Operand} {k k':IntKind} {x y:Int}:(eqGuard op t a b (.int k x) (.int k' y)).run P w= .ok () w:=by
 cases op<;>simp [eqGuard]
theorem aol {op:BinOp} {t:TypeId} {a b:Operand} {x y:ByteArray}:(eqGuard op t a b (.string x) (.string y)).run P w= .ok () w:=by
 cases op<;>simp [eqGuard]
theorem aup (wf:WfP P) {op:BinOp} {t:TypeId} {x y:AV} {v u:Value} {a b:Operand} {ob:Bool} {r:AV} (hx:bT M x v) (hy:bT M y u)
 (hn:¬(op= .shl\/op= .shr)) (h:auw P op t x y=some (ob,r)) (ho:ob=true):POk P M w (do eqGuard op t a b v u;binOp op t v u) r:=by
 unfold auw at h
 split at h
 ·rename_i k a k' b
  cases hk:Xj k k' with
  |false=>simp [hk]at h
  |true=>
   have:=abX.1 hk;subst this
   simp only[hk,cond_true]at h
   cases hx;cases hy
   obtain⟨v,g1,g2⟩:=asW (P:=P) (M:=M) (w:=w) h ho t hn
   exact⟨v,by simp [aph,g1],g2⟩
 ·rename_i a b
  cases hs:am2 op a b with
  |none=>simp [hs]at h
  |some q=>
   simp only[hs,awj,awo]at h
   obtain⟨rfl,rfl⟩:=h
   cases hx with | str s l hl=>
   cases hy with | str s' l' hl'=>
   obtain⟨v,g1,g2⟩:=ar4 (P:=P) (M:=M) (w:=w) hs (fun e=>by
    subst e
    have h1:(a.length:Int)+(b.length:Int)<=68719476736:=of_decide_eq_true ho
    omega) t s s' hl hl'
   exact⟨v,by simp [aol,g1],g2⟩
 ·rename_i hni hns
  have key:∀c,eqT P 16 t x y=some c->(!P.eqGuardType P.depth t)=true->(do eqGuard op t a b v u;binOp .eql t v u:Sem Value).run P w= .ok (.bool c) w/\(do eqGuard op t a b v u;binOp .neq t v u:Sem Value).run P w= .ok (.bool (!c)) w:=by
   intro c hc hg
   have hg':P.eqGuardType P.depth t=false:=by simpa using hg
   rcases aqe hc with ⟨k,a,k',b,rfl,rfl⟩ | ⟨a,b,rfl,rfl⟩ | hh
   ·exact(hni _ _ _ _ rfl rfl).elim
   ·exact(hns _ _ rfl rfl).elim
   ·obtain⟨g1,g2⟩:=aqF (w:=w) (u:=u) hh hx (att (M:=M) wf 16 9984 t x y c v u hc hx hy)
    exact⟨by simp [ac5 (w:=w) hh hx hg',g1],by simp [ac5 (w:=w) hh hx hg',g2]⟩
  cases op with
  |eql=>
   simp only at h
   cases hc:eqT P 16 t x y with
   |none=>simp [hc]at h
   |some c=>
    simp only[hc,awj,awo]at h
    obtain⟨rfl,rfl⟩:=h
    exact⟨_,(key c hc ho).1,.bool _⟩
  |neq=>
   simp only at h
   cases hc:eqT P 16 t x y with
   |none=>simp [hc]at h
   |some c=>
    simp only[hc,awj,awo]at h
    obtain⟨rfl,rfl⟩:=h
    exact⟨_,(key c hc ho).2,.bool _⟩
  |_=>simp at h
theorem apf {op:BinOp} {t:TypeId} {a b:Operand} {v u:Value} (h:op= .shl\/op= .shr):(eqGuard op t a b v u).run P w= .ok () w:=by
 rcases h with rfl | rfl<;>simp [eqGuard]
theorem apY {t f o ft:Nat} {cs:List AV} {v:Value} {r:AV} (ho:apy P t f=some o) (hf:fty P t f=some ft) (hp:part P ft cs o=some r) (hs:bT M (.agg cs) v):
 POk P M w (Instr.field t v f) r:=by
 obtain⟨vs,rfl,hvs⟩:=Yc hs
 unfold apy at ho;unfold fty at hf
 cases hu:P.underlying t with
 |none=>simp [hu]at ho
 |some d=>
  cases d with
  |struct fs=>
   simp only[hu]at ho hf
   cases hx:fs[f]? with
   |none=>simp [hx]at ho
   |some fd=>
    simp only[hx,awj]at ho hf
    subst ho;subst hf
    obtain⟨u,g1,g2⟩:=ab8 (w:=w) hp hvs
    exact⟨u,by simp [Instr.field,iK w hu,hx,asAgg,g1],g2⟩
  |_=>simp [hu]at ho
theorem ah6 {t f o ft:Nat} {x:AV} {v:Value} {r:AV} (ho:apy P t f=some o) (hf:fty P t f=some ft) (hz:1<=fM P ft) (hp:alL x o=some r) (hs:bT M x v):
 POk P M w (Instr.fieldAt t v f) r:=by
 unfold apy at ho;unfold fty at hf
 cases hu:P.underlying t with
 |none=>simp [hu]at ho
 |some d=>
  cases d with
  |struct fs=>
   simp only[hu]at ho hf
   cases hx:fs[f]? with
   |none=>simp [hx]at ho
   |some fd=>
    simp only[hx,awj]at ho hf
    subst ho;subst hf
    have hz':fM P fd.type≠0:=by omega
    have run:∀a:Addr,(Instr.fieldAt t (.pointer (some a)) f).run P w= .ok (.pointer (some (a.add fd.offset))) w:=fun a=>by
     simp [Instr.fieldAt,iK w hu,hx,Instr.sureAddr,fieldPlace,aiq w hz',hz']
    unfold alL at hp
    split at hp
    ·simp only[awj]at hp;subst hp
     cases hs with
     |mp id off v hU hv hh=>
      obtain⟨a,rfl⟩:=hv
      refine⟨_,run a,.mp _ _ _ hU ⟨_,rfl⟩ fun e he=> ?_⟩
      obtain⟨b,fz,cs,g1,g2,g3⟩:=hh e he
      simp only[Value.pointer.injEq,awj]at g3
      subst g3
      exact⟨b,fz,cs,g1,g2,by rw[Addr.add_mk]⟩
    ·simp only[awj]at hp;subst hp
     cases hs with
     |ep id k j v hU hv hh=>
      obtain⟨a,rfl⟩:=hv
      refine⟨_,run a,.ep _ _ _ _ hU ⟨_,rfl⟩ fun e he=> ?_⟩
      obtain⟨b,fz,ty,l,g1,g2,g3,g4⟩:=hh e he
      simp only[Value.pointer.injEq,awj]at g4
      subst g4
      exact⟨b,fz,ty,l,g1,g2,g3,by rw[Addr.add_mk,axz]⟩
    ·simp only[awj]at hp;subst hp
     cases hs with
     |rp e x j v b o hv hF cs hc hss=>
      subst hv
      refine⟨_,run _,.rp _ _ _ _ b o (by rw[Addr.add_mk,axz]) hF cs hc hss⟩
    ·simp at hp
  |_=>simp [hu]at ho
theorem asF {op:UnOp} {x:AV} {v:Value} {e:Eff} {ob:Bool} (h:(match op,x with
 |.not,.bool b=>some (true,(⟨.bool (ax b),[]⟩:Eff))
 |.neg,.int k n=>some (true,⟨.int k (wr k (aO 0 n)),[]⟩)
 |.xor,.int k n=>some (true,⟨.int k (wr k (gX k (if k.signed then -1 else k.max) n)),[]⟩)
 |_,_=>none)=some (ob,e)) (hs:bT M x v):e.u=[]/\POk P M w (Op.unary op v) e.v:=by
 split at h
 ·rename_i b
  simp only[awj,awo]at h
  obtain⟨_,rfl⟩:=h
  cases hs
  exact⟨rfl,POk.mk _ (by simp [Op.unary,ax]) (.bool _)⟩
 ·rename_i k n
  simp only[awj,awo]at h
  obtain⟨_,rfl⟩:=h
  cases hs
  exact⟨rfl,POk.mk _ (by simp [Op.unary,Op.intArith,wr,aO]) (.int _ _)⟩
 ·rename_i k n
  simp only[awj,awo]at h
  obtain⟨_,rfl⟩:=h
  cases hs
  exact⟨rfl,POk.mk _ (by simp [Op.unary,Op.intBits,wr,gX]) (.int _ _)⟩
 ·simp at h
theorem am6 (mx:Bool):∀(l:List AV) (vs:List Value) (k:IntKind) (a:Int) (r:AV),mmL mx k a l=some r->vs.length=l.length->(∀i,(h:i<l.length)->(h':i<vs.length)->bT M l[i] vs[i])->
 ∃n,r= .int k n/\(vs.foldlM (bif mx then Builtin.max2 else Builtin.min2) (.int k a)).run P w= .ok (.int k n) w
 |[],vs,k,a,r,h,hl,_=>by
  simp only[mmL,awj]at h
  have:vs=[]:=by simpa using hl
  subst this;subst h
  exact⟨a,rfl,by simp⟩
 |x::l,vs,k,a,r,h,hl,hs=>by
  cases vs with
  |nil=>simp at hl
  |cons v vs=>
   have h0:=hs 0 (by simp) (by simp)
   simp only[ayW]at h0
   unfold mmL at h
   split at h
   ·cases ‹_::_=[]›
   ·rename_i k' b r' heq
    obtain⟨rfl,rfl⟩:=List.cons.inj heq
    cases h0
    cases hk:Xj k k' with
    |false=>simp [hk]at h
    |true=>
     have:=abX.1 hk;subst this
     simp only[hk,cond_true]at h
     obtain⟨n,g1,g2⟩:=am6 mx l vs k _ r h (by simpa using hl) (fun i h1 h2=>by
      have:=hs (i+1) (by simpa using h1) (by simpa using h2)
      simp only[ayc]at this
      exact this)
     refine⟨n,g1,?_⟩
     cases mx with
     |true=>simpa [List.foldlM_cons,Builtin.max2,imax] using g2
     |false=>simpa [List.foldlM_cons,Builtin.min2,kP] using g2
   ·simp at h
end
section
variable {P:Program} {M:Mem} {w:World} {hp:Nat->Option Ent} {ρ:Operand->Value} {ev:Operand->AV} {i:Nat}
def XJ (M:Mem):Option AV->Option Value->Prop
 |none,none=>True
 |some x,some v=>bT M x v
 |_,_=>False
theorem acR (h:∀x,bT M (ev x) (ρ x)) (o:Option Operand):XJ M (akS ev o) (o.map ρ):=by
 cases o with
 |none=>trivial
 |some x=>exact h x
theorem XJ.int {k:IntKind} {n:Int} {v:Option Value} (h:XJ M (some (.int k n)) v):v=some (.int k n):=by
 cases v with
 |none=>exact h.elim
 |some v=>
  have h:bT M (.int k n) v:=h;cases h
  rfl
theorem XJ.none {v:Option Value} (h:XJ M none v):v=none:=by
 cases v with
 |none=>rfl
 |some v=>exact h.elim
theorem FV {k:IntKind} {n:Int} {y:Nat} {c:BoundsCode} (h:0<=n/\n<=y):(Instr.sliceBound (.int k n) y c).run P w= .ok n.toNat w:=by
 simp [Instr.sliceBound,asIntOf,awh h]
theorem D5 {m:Nat} {lo hi:Option AV} {ob:Bool} {a b:Option Int} (h:sliceB (m:Int) lo hi=some (ob,a,b)) (ho:ob=true):
 ∃L H:Nat,L<=H/\H<=m/\L=itn (a.getD 0)/\H=itn (b.getD m)/\(hi=none->H=m)/\
  (∀vlo vhi,XJ M lo vlo->XJ M hi vhi->∀s cap,m<=cap->(Instr.sliceBounds s m cap vlo vhi none).run P w= .ok (L,H,cap) w)/\
  (∀vlo k b' k' m',hi=some (.int k b')->b'<=m'->m'<=m->XJ M lo vlo->∀s cap,m<=cap->(Instr.sliceBounds s m cap vlo (some (.int k b')) (some (.int k' m'))).run P w= .ok (L,H,m'.toNat) w/\(H:Int)=b'/\H<=m'.toNat)/\
  (∀ {α:Type} (l:List α),l.length=m->agt l a b=(l.drop L).take (H - L))/\avG a=L/\ajO m a b=H - L/\∀off,aua off a=off+L:=by
 unfold sliceB at h
 split at h
 ·simp only[awj,awo]at h
  obtain⟨_,rfl,rfl⟩:=h
  refine⟨0,m,awm _,awk _,rfl,by simp [itn],fun _=>rfl,fun vlo vhi h1 h2 s cap hc=> ?_,fun vlo k b' k' m' e=>by simp at e,fun l hl=>by simp [agt,<-hl],rfl,by simp [ajO,itn],fun off=>rfl⟩
  rw[h1.none,h2.none]
  simp [Instr.sliceBounds]
 ·rename_i k a'
  simp only[awj,awo]at h
  obtain⟨rfl,rfl,rfl⟩:=h
  simp only[band,ile,awp,aw9]at ho
  refine⟨a'.toNat,m,by omega,awk _,rfl,by simp [itn],fun _=>rfl,fun vlo vhi h1 h2 s cap hc=> ?_,fun vlo k b' k' m' e=>by simp at e,fun l hl=> ?_,rfl,?_,fun off=>rfl⟩
  ·rw[h1.int,h2.none]
   simp [Instr.sliceBounds,FV ho]
  ·simp only[agt,bZ,itn]
   rw[aw5]
   simp [hl]
  ·simp only[ajO,itn,aO];omega
 ·rename_i k b'
  simp only[awj,awo]at h
  obtain⟨rfl,rfl,rfl⟩:=h
  simp only[band,ile,awp,aw9]at ho
  refine⟨0,b'.toNat,by omega,by omega,rfl,rfl,fun e=>by simp at e,fun vlo vhi h1 h2 s cap hc=> ?_,fun vlo k b' k' m' e hb hm h1 s cap hc=> ?_,fun l hl=>by simp [agt,aV,itn],rfl,by simp [ajO,itn],fun off=>rfl⟩
  ·rw[h1.none,h2.int]
   simp [Instr.sliceBounds,FV (P:=P) (w:=w) (k:=k) (n:=b') (y:=cap) (c:=_) (by omega)]
  ·simp only[awj,AV.int.injEq]at e
   obtain⟨rfl,rfl⟩:=e
   rw[h1.none]
   refine⟨?_,by omega,by omega⟩
   have h2:=FV (P:=P) (w:=w) (k:=k') (n:=m') (y:=cap) (c:=if s then .slice3Acap else .slice3Alen) (by omega)
   have h3:=FV (P:=P) (w:=w) (k:=k) (n:=b') (y:=m'.toNat) (c:= .slice3B) (by omega)
   simp [Instr.sliceBounds,h2,h3]
 ·rename_i k a' k2 b'
  simp only[awj,awo]at h
  obtain⟨rfl,rfl,rfl⟩:=h
  simp only[band,ile,awp,aw9]at ho
  refine⟨a'.toNat,b'.toNat,by omega,by omega,rfl,rfl,fun e=>by simp at e,fun vlo vhi h1 h2 s cap hc=> ?_,fun vlo k b' k' m' e hb hm h1 s cap hc=> ?_,fun l hl=> ?_,rfl,?_,fun off=>rfl⟩
  ·rw[h1.int,h2.int]
   have h3:=FV (P:=P) (w:=w) (k:=k2) (n:=b') (y:=cap) (c:=if s then .sliceAcap else .sliceAlen) (by omega)
   have h4:=FV (P:=P) (w:=w) (k:=k) (n:=a') (y:=b'.toNat) (c:= .sliceB) (by omega)
   simp [Instr.sliceBounds,h3,h4]
  ·simp only[awj,AV.int.injEq]at e
   obtain⟨rfl,rfl⟩:=e
   rw[h1.int]
   refine⟨?_,by omega,by omega⟩
   have h2:=FV (P:=P) (w:=w) (k:=k') (n:=m') (y:=cap) (c:=if s then .slice3Acap else .slice3Alen) (by omega)
   have h3:=FV (P:=P) (w:=w) (k:=k2) (n:=b') (y:=m'.toNat) (c:= .slice3B) (by omega)
   have h4:=FV (P:=P) (w:=w) (k:=k) (n:=a') (y:=b'.toNat) (c:= .slice3C) (by omega)
   simp [Instr.sliceBounds,h2,h3,h4]
  ·simp only[agt,aV,bZ,itn,aO]
   congr 1
   omega
  ·simp only[ajO,itn,aO];omega
 ·simp at h
theorem Bz {t n:Nat} (h:Lh P t n=true) (hn:n≠0):∃el,P.underlying t=some (.slice el)/\fM P el=n/\∀w,(sizeOf el).run P w= .ok n w:=by
 unfold Lh at h;cases hu:P.underlying t with
 |none=>simp [hu]at h
 |some d=>
  cases d with
  |slice el=>
   simp only[hu]at h;have:=aws h;exact⟨el,rfl,this,fun w=>by rw[aiq w (by omega),this]⟩
  |_=>simp [hu]at h
theorem CO (e:E):esz e≠0:=by cases e<;>decide
theorem Qp {t el sz:Nat} {a:Option Addr} {n cap L H m:Nat} {vlo vhi vmx:Option Value} (hu:P.underlying t=some (.slice el)) (hsz:∀w,(sizeOf el).run P w= .ok sz w)
 (hb:(Instr.sliceBounds true n cap vlo vhi vmx).run P w= .ok (L,H,m) w):
 (Instr.sliceAt t (.slice a n cap) vlo vhi vmx).run P w= .ok (.slice (if m=L then a else a.map (·.add (L*sz))) (H - L) (m - L)) w:=by
 simp only[Instr.sliceAt,Sem.run_bind,iK w hu,Result.andThen_ok,Instr.slice,hb,hsz,Sem.run_pure]
theorem ap9 {e:E} {l:List (den e)} {a:Option Addr} {n cap:Nat} {ex ex':Bool} (hs:bT M (.ro e l ex) (.slice a n cap)) {L H m:Nat} (h1:L<=H) (h2:H<=l.length) (hm:H<=m) (hmc:m<=cap) (hx:ex'=true->m=H):
 bT M (.ro e ((l.drop L).take (H - L)) ex') (.slice (if m=L then a else a.map (·.add (L*esz e))) (H - L) (m - L)):=by
 by_cases h0:H - L=0
 ·rw[h0,ays]
  exact .roE _ _ _ _ (fun he=>by have:=hx he;omega)
 ·cases hs with
  |roE=>simp at h2;omega
  |ro e l ex b o cap hl hx0 hF cs hc hss=>
   have hmL:m≠L:=by omega
   simp only[awg hmL,axX,Addr.add_mk]
   have hlen:((l.drop L).take (H - L)).length=H - L:=by simp;omega
   have key:=bT.ro (M:=M) e ((l.drop L).take (H - L)) ex' b (o+L*esz e) (m - L) (by omega) (fun he=>by have:=hx he;omega) hF (fun i k=>cs (L+i) k) (fun i k hi hk=>by
    rw[<-hc (L+i) k (by omega) hk]
    congr 1
    rw[awz];omega) (fun i k hi hk=>by
    have:=hss (L+i) k (by omega) hk
    simpa using this)
   rw[hlen]at key
   exact key
theorem afD {e:E} {l:List (den e)} {ex:Bool} {v:Value} (hs:bT M (.ro e l ex) v):∃a cap,v= .slice a l.length cap/\l.length<=cap/\(ex=true->cap=l.length):=by
 cases hs with
 |roE _ _ a cap hx=>exact⟨a,cap,rfl,awm _,hx⟩
 |ro _ _ _ b o cap hl hx hF cs hc hss=>exact⟨_,cap,rfl,hl,hx⟩
end
end Go.Av
