/- part of topCells.proved -/
import Derived.Below
import Derived.BigFrame
import Derived.BigQuiet
import Derived.BigRegion
import Derived.Calls
import Derived.ChangeAlike
import Derived.Deep.AppendSrc
import Derived.Deep.DeepCutAuto
import Derived.Deep.DeepHandedRow
import Derived.Deep.DeepMust
import Derived.Deep.DeepWitnessRowRef
import Derived.Deep.Draws
import Derived.Deep.Fields
import Derived.Deep.LoopGhost
import Derived.Deep.MidRow
import Derived.Deep.QuietTactic
import Derived.Deep.RegionHeld3
import Derived.Deep.Slices
import Derived.DeepKeys
import Derived.Great.FillDense
import Derived.Handy
import Derived.IntWalk
import Derived.JoinedCond
import Derived.LaidLaws
import Derived.Laws.AppendOwn
import Derived.Laws.BytesString
import Derived.Laws.CopyRow
import Derived.Laws.Cover4
import Derived.Laws.EntriesVeiled
import Derived.Laws.Externs
import Derived.Laws.IdiomStrings
import Derived.Laws.OwnMore
import Derived.Laws.RangeAny
import Derived.Laws.Rows
import Derived.Laws.Strings
import Derived.Laws.StructEq
import Derived.Laws.Tables
import Derived.Lib.AppendStr
import Derived.Lib.Builder
import Derived.Lib.Bytealg
import Derived.Lib.ConvBytes
import Derived.Lib.LaidIn
import Derived.Lib.LaidTab
import Derived.Lib.LaidU8
import Derived.Lib.MinMax
import Derived.Lib.SlBytesConst
import Derived.Lib.Slices
import Derived.Lib.SmallJoins
import Derived.Lib.Strings
import Derived.Lib.UnsafeStr
import Derived.Lib.Walk
import Derived.LoopN
import Derived.MapKept
import Derived.OpenShut
import Derived.Orders
import Derived.OwnWalk
import Derived.ProofKit
import Derived.RegionTactic
import Derived.Scope
import Derived.ScopeJumps
import Derived.SizedLaws
import Derived.StillTactics
import Derived.StillTail
import Derived.StillTailTactics
import Derived.Stop.LaidErr
import Derived.WalkKit
import Derived.WalkMore
import Derived.Test.YtkkiefcapbddkaaGreatDoorProg
set_option linter.all false
set_option maxRecDepth 1000000
set_option maxHeartbeats 0
noncomputable section
section
def aa:=@List.getElem?_eq_some_iff
def ae:=@Nat.le_refl
def af:=@List.getElem?_eq_getElem
def ag:=@List.mem_of_getElem?
def ah:=@List.getD_eq_getElem?_getD
def ai:=@List.getElem?_map
def aj:=@List.length_map
def an:=@List.getElem?_append_left
def ap:=@List.getElem?_cons_succ
def aq:=@Go.Result.andThen_ok
def aw:=@List.mem_cons
def ax:=@Bool.and_eq_true
def ay:=@List.getElem?_append_right
def az:=@Array.getElem?_toList
def aA:=@decide_eq_false
def aB:=@Go.Sem.run_bind
def aC:=@Nat.mul_le_mul_right
def aD:=@List.eq_nil_of_length_eq_zero
def aF:=@List.getElem?_cons_zero
def aG:=@Go.heap_alloc_old
def aH:=@Array.length_toList
def aI:=@if_neg
def aJ:=@List.mem_append
def aK:=@Option.some.injEq
def aL:=@List.mem_map
def aM:=@Nat.zero_le
def aN:=@List.length_take
def aO:=@List.length_append
def aP:=@Array.getElem?_eq_some_iff
def aQ:=@List.all_eq_true
def aS:=@if_pos
def aT:=@Option.bind_some
def aW:=@List.length_cons
def aY:=@Go.Proofs.Tryz.underlying66
def a6:=@Nat.eq_of_beq_eq_true
def a7:=@Go.NoPanic.normal
def a8:=@Go.wp_region_noPanic
def ba:=@Nat.le_trans
def bc:=@Nat.zero_add
def bd:=@List.getElem?_drop
def bf:=@decide_eq_true
def bj:=@List.size_toArray
def bp:=@Nat.add_mul
def br:=@List.getElem?_take
def bz:=@List.mem_of_mem_take
def bB:=@List.not_mem_nil
def bC:=@List.append_assoc
def bE:=@Go.IntWalk.i64_in
def bG:=@List.mem_singleton
def bJ:=@List.take_add_one
def bL:=@List.take_length
def bP:=@List.getElem?_of_mem
def bQ:=@List.drop_eq_getElem_cons
def bR:=@List.flatMap_cons
def bT:=@Go.run_underlying
def bU:=@List.getElem?_take_of_lt
def bV:=@List.map_cons
def bW:=@List.flatMap_append
def bX:=@Nat.lt_of_lt_of_le
def b9:=@List.map_append
def cg:=@Go.info_parts
def cj:=@Option.map_some
def cz:=@Nat.eq_zero_or_pos
def cD:=@Nat.lt_or_ge
def cE:=@Go.Proofs.Tryz.underlying63
def cH:=@Go.Sem.run_pure
def cI:=@decide_eq_true_eq
def cJ:=@Int.toNat_natCast
def cK:=@List.getElem?_toArray
def cL:=@Go.results_none
def cP:=@Go.bodyPost_end
def cQ:=@Go.yieldsIf_load_mid
def cS:=@List.length_drop
def cV:=@Array.getElem?_eq_none
def cZ:=@Nat.add_assoc
def da:=@Go.MapKept.run_getObj_map
def dc:=@Array.getElem?_setIfInBounds
def dh:=@Array.getD_eq_getD_getElem?
def di:=@List.mem_cons_of_mem
def dt:=@List.nil_append
def dy:=@Go.heap_alloc_new
def dE:=@Array.getElem?_eq_getElem
def dH:=@Option.map_eq_some_iff
def dI:=@Nat.add_zero
def dQ:=@Nat.le_of_ble_eq_true
def dY:=@congrArg
def ed:=@Bool.false_eq_true
def ef:=@List.set_cons_succ
def eg:=@Nat.le_of_lt
def ej:=@Go.bodyPost_ret
def er:=@Nat.lt_succ_self
def et:=@List.cons_append
def ez:=@Nat.zero_mul
def eA:=@or_false
def eC:=@Go.wpList_append_own
def eF:=@List.mem_of_mem_drop
def eG:=@List.pairwise_cons
def eH:=@List.mem_cons_self
def eI:=@List.length_set
def eJ:=@List.length_nil
def eZ:=@beq_eq_false_iff_ne
def fa:=@List.map_congr_left
def fc:=@Go.Proofs.Tryz.underlying121
def fe:=@List.getElem?_eq_none
def fh:=@List.append_nil
def fj:=@List.map_map
def fB:=@Int.ofNat_eq_natCast
def fC:=@Nat.add_sub_cancel_left
def fD:=@Go.Proofs.Tryz.underlying22
def fK:=@List.setIfInBounds_toArray
def fP:=@Nat.le_max_left
def fQ:=@Bool.or_eq_true
def fV:=@List.take_append_drop
def fZ:=@beq_iff_eq
def gi:=@List.eq_of_mem_replicate
def gj:=@Go.Proofs.Tryz.underlying54
def gu:=@Go.Proofs.Tryz.underlying70
def gN:=@Array.toList_append
def gX:=@List.cons.inj
def gY:=@List.mem_flatMap
def gZ:=@List.drop_length
def ie:=@Go.MapKept.run_setObj_map
def ir:=@List.drop_drop
def iu:=@if_true
def iw:=@List.set_append_right
def iL:=@Nat.sub_mul
def iM:=@Nat.mul_one
def iW:=@List.all_cons
def jk:=@Nat.testBit_or
def jl:=@Int.mul_le_mul_of_nonneg_right
def jn:=@List.getElem_mem
def js:=@Go.ByteArray.toList_eq
def jB:=@UInt8.toNat_ofNat'
def jC:=@List.drop_eq_nil_of_le
def jD:=@Array.all_eq_true'
def jG:=@Go.cell_of_row
def jH:=@List.range_succ
def jO:=@List.length_replicate
def jY:=@List.getElem?_set
def jZ:=@Array.size_append
def ka:=@List.flatten_cons
def kb:=@Bool.not_eq_true'
def ke:=@List.length_range
def km:=@Go.Proofs.Tryz.underlying9
def kG:=@Int.le_refl
def kH:=@List.pairwise_append
def kK:=@Option.getD_some
def kL:=@List.ext_getElem
def lg:=@List.flatten_append
def lh:=@List.take_succ_cons
def li:=@List.length_flatMap
def lI:=@List.sum_cons
def lL:=@List.foldl_cons
def lM:=@Go.Proofs.Tryz.underlying48
def lN:=@Go.Proofs.Tryz.underlying97
def lX:=@List.length_eq_zero_iff
def lY:=@Int.dvd_of_emod_eq_zero
def ma:=@Go.wp_mono
def mn:=@Go.run_string_add_sum
def mU:=@if_false
def mV:=@Array.all_eq_true_iff_forall_mem
def mW:=@Go.wpOp_mono
def mX:=@Int.lt_or_le
def nB:=@ByteArray.data_append
def nC:=@Array.getElem?_modify
def nL:=@Bool.true_and
def oD:=@Array.size_replicate
def oE:=@Bool.or_eq_false_iff
def oG:=@Go.Proofs.Tryz.underlying103
def oH:=@Go.Proofs.Tryz.underlying135
def oI:=@Go.step_scope
def oJ:=@Go.mem_ready
def oK:=@Go.Proofs.Tryz.ntmps8
def pI:=@Go.MapKept.run_checkKey
def pJ:=@Go.BigFrame.wpList_want
def p8:=@Nat.zero_and
def p9:=@Go.Proofs.Tryz.underlying90
def qc:=@Go.run_loadVar_mid
def rf:=@List.mapM_cons
def ri:=@Int.mul_nonneg
def rj:=@cond_false
def rk:=@Go.MapKept.run_findKey
def rm:=@List.set_cons_zero
def rn:=@List.mem_range
def sh:=@Go.Act.put_comm
def su:=@List.mem_or_eq_of_mem_set
def sw:=@Go.Proofs.Tryz.underlying5
def sy:=@Go.Proofs.Tryz.func8
def sL:=@List.ext_getElem?
def sM:=@Go.heap_setCell_other
def tK:=@Go.World.cell?_setCell_other
def vw:=@Array.mem_append
def vA:=@List.mem_flatten
def vB:=@Int.tmod_eq_emod
def wO:=@Nat.sub_self
def wP:=@List.map_nil
def wQ:=@ByteArray.empty_append
def xn:=@Option.some.inj
def xo:=@UInt8.toNat_inj
def xp:=@Go.wpOp_step
def xq:=@List.take_left'
def xt:=@List.sum_append
def xG:=@Nat.ble_eq_true_of_le
def xH:=@List.getElem?_reverse
def xI:=@Go.Proofs.Tryz.underlying232
def xJ:=@ByteArray.size_append
def yi:=@Go.step_inScope
def yj:=@Go.ready_mono
def AV:=@Int.mul_le_mul
def AW:=@List.getElem?_append
def AX:=@List.set_append_left
def AY:=@List.drop_left
def Ba:=@Go.Proofs.Tryz.underlying23
def Bb:=@Go.Proofs.Tryz.underlying21
def Bd:=@Go.Proofs.Tryz.underlying32
def BH:=@List.length_pos_iff
def BI:=@List.getElem?_range
def De:=@Prod.mk.injEq
def Df:=@Go.grownCap_ge
def Dg:=@Go.World.cell?_alloc_lt
def Dh:=@List.map_take
def Fw:=@Array.ext_getElem?
def Fx:=@Array.ext'
def Fy:=@Option.toList_some
def FA:=@Go.run_callFunc_extern
def FB:=@Go.run_firstCells_some
def FC:=@Go.Lib.bytesWorld_size
def Jh:=@List.any_eq_false
def Ji:=@Nat.add_comm
def Jj:=@Nat.testBit_eq_decide_div_mod_eq
def Jk:=@Nat.and_zero
def Jl:=@Int.zero_add
def Jm:=@Int.add_zero
def Jn:=@Int.tmod_def
def Jo:=@Go.LaidIn.of_run
def Jp:=@of_decide_eq_true
def LI:=@cond_true
def LJ:=@Array.toList_map
def LK:=@Array.toList_inj
def LL:=@Int.mul_le_mul_of_nonpos_right
def NC:=@Go.run_storeCells_at
def ND:=@Go.setRow_other
def NE:=@Nat.mul_add
def Qa:=@Nat.min_eq_left
def Qj:=@Go.Lib.cell_of_heap
def Ua:=@Int.tdiv_eq_ediv_of_nonneg
def Ub:=@Go.setRow_size
def Uc:=@Go.setRow_heap
def Ud:=@Go.Src.ofSlice
def Ue:=@List.drop_zero
def Uf:=@List.take_take
def Ug:=@Array.getElem?_append_left
def Un:=@Go.Oper.upon_value
def Uo:=@Go.Lib.run_convert_string_bytes
def Up:=@Nat.shiftRight_eq_div_pow
def Xu:=@Array.setIfInBounds_comm
def Xv:=@Go.Proofs.Tryz.underlying141
def Xw:=@Go.Lib.run_convert_bytes_const
def X7:=@Go.growslice_fits
def aac:=@ByteArray.data_extract
def aad:=@List.take_of_length_le
def aae:=@not_or
def aaf:=@Go.Proofs.Tryz.underlying78
def aag:=@Go.Proofs.Tryz.underlying75
def aah:=@Int.mul_ediv_add_emod
def aai:=@Nat.div_lt_iff_lt_mul
def aaj:=@Go.wp_region_any
def aak:=@List.sizeOf_lt_of_mem
def abh:=@Array.toList_extract
def abi:=@Array.toArray_toList
def abj:=@Array.mem_toList_iff
def abk:=@Nat.one_mul
def abl:=@Nat.eq_of_testBit_eq
def abm:=@Go.Lib.run_indexByteString
def abn:=@List.mem_append_left
def abo:=@List.replicate_succ'
def abp:=@List.replicate_succ
def abq:=@Nat.testBit_two_pow
def abr:=@Array.getElem?_push
def abt:=@Go.wp_store_mid
def abu:=@List.mem_map_of_mem
def ac9:=@Int.emod_lt_of_pos
def ada:=@Go.Lib.bytesWorld_at_old
def adb:=@Go.Lib.bytesWorld_at_new
def ade:=@List.mem_filterMap
def adf:=@Nat.and_one_is_mod
def adg:=@List.map_replicate
def adh:=@Int.add_sub_cancel
def adi:=@List.flatMap_assoc
def adj:=@Go.Lib.byteCells_length
def adk:=@Array.toList_mapM
def adl:=@List.reverse_cons
def adm:=@Go.Region.noSelect_spec
def adn:=@List.foldlM_cons
def ado:=@Go.run_append_grow_src
def adp:=@Go.run_firstCells_none
def adq:=@Nat.mod_eq_of_lt
def adr:=@List.mem_toArray
def ads:=@Nat.shiftLeft_eq
def adt:=@Nat.zero_testBit
def adu:=@Nat.le_add_right
def adw:=@List.any_eq_true
def adx:=@List.getElem_set
def ady:=@List.flatMap_nil
def adz:=@Go.run_runes_of_string
def adA:=@Nat.max_eq_right
def adB:=@List.flatMap_map
def adC:=@Go.Proofs.Tryz.func5
def adD:=@Int.emod_nonneg
def adE:=@Int.ediv_nonneg
def adF:=@Go.run_loadCells_list
def adG:=@List.cons.injEq
def adH:=@List.mem_filter
def adI:=@Nat.testBit_and
def adJ:=@Bool.eq_iff_iff
def adK:=@Go.run_equalIn_struct
def adL:=@Go.execOp_put
def adM:=@Nat.max_eq_left
def adN:=@Int.max_eq_left
universe u
def zA{α:Type u}(l:List α)(i:Nat)(a:α):l.toArray.setIfInBounds i a=(l.set i a).toArray:=by simp
def zB{α:Type u}(a b:α)(l:List α):(a::l).set 0 b=b::l:=rfl
def zC{α:Type u}(a b:α)(l:List α)(n:Nat):(a::l).set (n+1) b=a::l.set n b:=rfl
def iG{α:Sort u}(a:α):∃x,x=a:=⟨a,rfl⟩
def lJ(a b:Nat)(h:a<b):decide ((a:Int)<(b:Int))=true:=bf (by omega)
def Di(a b:Nat)(h:b<=a):decide ((a:Int)<(b:Int))=false:=aA (by omega)
instance:Coe Nat Go.Addr:=⟨fun g=>⟨g,0,none⟩⟩
instance(b o:Nat):CoeDep (Nat×Nat) (b,o) Go.Addr:=⟨⟨b,o,none⟩⟩
instance(b o:Nat):CoeDep (Nat×Nat) (b,o) (Option Go.Addr):=⟨some ⟨b,o,none⟩⟩
instance:Coe Int Go.Value:=⟨.int .i64⟩
instance:Coe Nat Go.Value:=⟨fun k=>.int .i64 (k:Int)⟩
instance:Coe Go.Value Go.Ending:=⟨.returned⟩
instance:Coe Go.World Nat:=⟨fun w=>w.heap.size⟩
structure MtQ where
 g:Array Go.Value
def tQ(g:Array Go.Value):MtQ:=⟨g⟩
instance(g:Array Go.Value):CoeDep MtQ (tQ g) Go.Ending:=⟨.returned (.tuple g)⟩
instance:Coe ByteArray Go.Value:=⟨.string⟩
instance:Coe Bool Go.Value:=⟨.bool⟩
structure Mp where
 g:Nat
def pt(g:Nat):Mp:=⟨g⟩
instance(g:Nat):CoeDep Mp (pt g) Go.Value:=⟨.pointer (some ⟨g,0,none⟩)⟩
instance(g:Nat):CoeDep Mp (pt g) (Option Go.Value):=⟨some (.pointer (some ⟨g,0,none⟩))⟩
instance(g n c:Nat):CoeDep (Nat×Nat×Nat) (g,n,c) Go.Value:=⟨.slice (some ⟨g,0,none⟩) n c⟩
instance(g n c:Nat):CoeDep (Nat×Nat×Nat) (g,n,c) (Option Go.Value):=⟨some (.slice (some ⟨g,0,none⟩) n c)⟩
instance(g o n c:Nat):CoeDep (Nat×Nat×Nat×Nat) (g,o,n,c) Go.Value:=⟨.slice (some ⟨g,o,none⟩) n c⟩
instance(g o n c:Nat):CoeDep (Nat×Nat×Nat×Nat) (g,o,n,c) (Option Go.Value):=⟨some (.slice (some ⟨g,o,none⟩) n c)⟩
structure ZzQ
def zQ:ZzQ:=⟨⟩
instance:Coe ZzQ Go.Value:=⟨fun _=>.int .i64 (0)⟩
structure ZzJ
def zJ:ZzJ:=⟨⟩
instance:Coe ZzJ Go.Value:=⟨fun _=>.int .i64 (1)⟩
structure ZzZ
def zZ:ZzZ:=⟨⟩
instance:Coe ZzZ Go.Value:=⟨fun _=>.int .i64 (2)⟩
structure ZzY
def zY:ZzY:=⟨⟩
instance:Coe ZzY Go.Value:=⟨fun _=>.int .i64 (3)⟩
structure Zz5
def z5:Zz5:=⟨⟩
instance:Coe Zz5 Go.Value:=⟨fun _=>.int .i64 (5)⟩
structure Zz9
def z9:Zz9:=⟨⟩
instance:Coe Zz9 Go.Value:=⟨fun _=>.int .i64 (1280)⟩
structure Zz6
def z6:Zz6:=⟨⟩
instance:Coe Zz6 Go.Value:=⟨fun _=>.int .i64 (9)⟩
structure Zzm
def zm:Zzm:=⟨⟩
instance:Coe Zzm Go.Value:=⟨fun _=>.int .i64 (-1)⟩
structure ZeQ
def eQ:ZeQ:=⟨⟩
instance:Coe ZeQ ByteArray:=⟨fun _=>⟨#[]⟩⟩
structure ZeT
def eT:ZeT:=⟨⟩
instance:Coe ZeT ByteArray:=⟨fun _=>⟨#[116,97,98,108,101]⟩⟩
structure ZeR
def eR:ZeR:=⟨⟩
instance:Coe ZeR ByteArray:=⟨fun _=>⟨#[116,114]⟩⟩
structure ZeD
def eD:ZeD:=⟨⟩
instance:Coe ZeD ByteArray:=⟨fun _=>⟨#[116,100]⟩⟩
structure ZeO
def eO:ZeO:=⟨⟩
instance:Coe ZeO ByteArray:=⟨fun _=>⟨#[114,111,111,116]⟩⟩
structure ZeP
def eP:ZeP:=⟨⟩
instance:Coe ZeP ByteArray:=⟨fun _=>⟨#[112]⟩⟩
structure ZrQ
def rQ:ZrQ:=⟨⟩
instance:Coe ZrQ Go.Ending:=⟨fun _=>.returned (.tuple #[])⟩
structure Zzn
def zn:Zzn:=⟨⟩
instance:Coe Zzn Go.Value:=⟨fun _=>.slice none 0 0⟩
end
structure Ztp
def tp:Ztp:=⟨⟩
noncomputable instance:Coe Ztp Go.Program:=⟨fun _=>Go.Proofs.Tryz.prog⟩
namespace Go.Abs
inductive Ex where
 |c(n:Int)
 |v(i:Nat)
 |add(a b:Ex)
 |sub(a b:Ex)
 |mul(a b:Ex)
 |div(a b:Ex)
 |mod(a b:Ex)
 |max(a b:Ex)
 |min(a b:Ex)
 |fn(f i:Nat)(l:List Ex)
 deriving Inhabited
inductive Sb where
 |c(n:Nat)
 |x(e:Ex)(lo hi:Nat)
 deriving Inhabited
inductive D where
 |i(k:IntKind)(n:Int)
 |x(k:IntKind)(e:Ex)(lo hi:Int)
 |b(x:Bool)
 |s(x:List Sb)
 |z
 |np
 |nf
 |nm
 |l(sz:Nat)(rows:List (List D))
 |q(sz:Nat)(rows:List (List D))(i j:Nat)
 |f(fn:Fn)(first caps:List D)
 |o(i:Nat)
 deriving Inhabited
class de where
 v:Nat->Int
 f:Nat->Nat->List Int->Int
 d:Nat->D
 G:Nat->Option (Nat×List (List D))
mutual
def Ex.val[de]:Ex->Int
 |.c n=>n
 |.v i=>de.v i
 |.add a b=>a.val+b.val
 |.sub a b=>a.val-b.val
 |.mul a b=>a.val*b.val
 |.div a b=>a.val.tdiv b.val
 |.mod a b=>a.val.tmod b.val
 |.max a b=>if b.val>a.val then b.val else a.val
 |.min a b=>if b.val<a.val then b.val else a.val
 |.fn f i l=>de.f f i (Ex.vals l)
def Ex.vals[de]:List Ex->List Int
 |[]=>[]
 |x::l=>x.val::Ex.vals l
end
def Sb.ok[de]:Sb->UInt8->Prop
 |.c n,u=>u.toNat=n
 |.x e j A,u=>(u.toNat:Int)=e.val/\j<=u.toNat/\u.toNat<=A
structure SR[de](l:List Sb)(b:List UInt8):Prop where
 len:b.length=l.length
 at_:∀(i:Nat) x u,l[i]? =some x->b[i]? =some u->x.ok u
inductive RD[de](F:Nat->Nat)(w:World):D->Value->Prop
 |i (k n):RD F w (.i k n) (.int k n)
 |x (k e lo hi) (h1:lo<=e.val) (h2:e.val<=hi):RD F w (.x k e lo hi) (.int k e.val)
 |b (x):RD F w (.b x) x
 |s (x) (b:ByteArray) (h:SR x b.data.toList):RD F w (.s x) b
 |z:RD F w .z zn
 |np:RD F w .np (.pointer none)
 |nf:RD F w .nf .nilFunc
 |nm:RD F w .nm (.map none)
 |o (i v) (h:RD F w (de.d i) v):RD F w (.o i) v
 |lz (sz):RD F w (.l sz []) zn
 |l (sz rows b off cap c t fz) (hb:w.heap[b]? =some (.cells c t fz)) (hf:off+rows.length*sz<=F b) (hs:F b<=c.size)
  (hc:off+cap*sz<=c.size) (hn:rows.length<=cap) (hr:∀r∈rows,r.length=sz)
  (h:∀i r j d v,rows[i]? =some r->r[j]? =some d->c[off+i*sz+j]? =some v->RD F w d v):
  RD F w (.l sz rows) (b,off,rows.length,cap)
 |q (sz rows i j b off c t fz) (hb:w.heap[b]? =some (.cells c t fz)) (hf:off+rows.length*sz<=F b) (hs:F b<=c.size)
  (hr:∀r∈rows,r.length=sz)
  (h:∀i r j d v,rows[i]? =some r->r[j]? =some d->c[off+i*sz+j]? =some v->RD F w d v):
  RD F w (.q sz rows i j) (.pointer (b,off+i*sz+j))
 |f (fn) (first caps:List D) (vs us:List Value) (h1:vs.length=first.length) (h2:us.length=caps.length)
  (g1:∀(i:Nat) d v,first[i]? =some d->vs[i]? =some v->RD F w d v) (g2:∀(i:Nat) d v,caps[i]? =some d->us[i]? =some v->RD F w d v):
  RD F w (.f fn first caps) (.func fn vs.toArray us.toArray)
structure jt(F:Nat->Nat)(w:World)(F':Nat->Nat)(w':World):Prop where
 le:∀b,F b<=F' b
 at_:∀b c t fz,w.heap[b]? =some (.cells c t fz)->∃c' t' fz',w'.heap[b]? =some (.cells c' t' fz')/\c'.size=c.size/\F' b<=max (F b) c.size/\∀i,i<F b->c'[i]? =c[i]?
def jt.refl(F:Nat->Nat)(w:World):jt F w F w:=
 ⟨fun _=>Nat.le_refl _,fun b c t j h=>⟨c,t,j,h,rfl,fP _ _,fun _ _=>rfl⟩⟩
def RD.stay[de]{F Z:Nat->Nat}{w w':World}(Q:jt F w Z w'){d:D}{v:Value}(h:RD F w d v):RD Z w' d v:=by
 induction h with
 |i k n=>exact .i k n
 |x k e lo C E M=>exact .x k e lo C E M
 |b x=>exact .b x
 |s x b h=>exact .s x b h
 |z=>exact .z
 |np=>exact .np
 |nf=>exact .nf
 |nm=>exact .nm
 |o i v h ih=>exact .o i v ih
 |lz sz=>exact .lz sz
 |l sz A b H cap c t R S hf T hc hn N h ih=>
  obtain⟨V,W,I,J,L,hF,B⟩:=Q.at_ b c t R S;have:=Q.le b;refine .l sz A b H cap V W I J (by omega) (by omega) (by omega) hn N fun i r j d v C O X=>?_;refine ih i r j d v C O ?_;rw[<-B _ ?_];exact X;have E:=(List.getElem?_eq_some_iff.1 C).1;have M:=(List.getElem?_eq_some_iff.1 O).1;have h3:=N r (List.mem_of_getElem? C);have Y:(i+1)*sz<=A.length*sz:=Nat.mul_le_mul_right _ E;rw[bp]at Y;omega
 |q sz A i j b H c t R S hf T N h ih=>
  obtain⟨V,W,I,J,L,hF,B⟩:=Q.at_ b c t R S;have:=Q.le b;refine .q sz A i j b H V W I J (by omega) (by omega) N fun i r j d v C O X=>?_;refine ih i r j d v C O ?_;rw[<-B _ ?_];exact X;have E:=(List.getElem?_eq_some_iff.1 C).1;have M:=(List.getElem?_eq_some_iff.1 O).1;have h3:=N r (List.mem_of_getElem? C);have Y:(i+1)*sz<=A.length*sz:=Nat.mul_le_mul_right _ E;rw[bp]at Y;omega
 |f fn first P vs us E M g1 g2 i1 i2=>exact .f fn first P vs us E M i1 i2
section
variable[de]
inductive V where
 |d(x:D)
 |p(k i j:Nat)
 |t(k e sz:Nat)(rows:List (List D))
 |v(k lo n:Nat)
 |g(cells:List V)
 |a(cells:List D)
 |tu(vs:List V)
 |f(fn:Fn)(first caps:List V)
 |m(k:Nat)
 |it(k:Nat)
 deriving Inhabited
def V.one:V->Bool
 |.g _|.a _|.tu _=>false
 |_=>true
inductive dX where
 |row(sz:Nat)(rows:List (List V))(vec:Bool)
 |tok(n:Nat)
 |it(s:List Sb)(pos:Nat)
 |map(es:List (V×V))
 deriving Inhabited
abbrev bw:=Nat->Option dX
structure Gh where
 σ:Nat->Option (Nat×Nat)
 τ:Nat->Option Nat
 F:Nat->Nat
 U:Nat->Bool
def yk(w:World)(b:Nat):Prop:=∃c t,w.heap[b]? =some (.cells c t (0,0))
inductive Us(g:Gh)(w:World)(k sz:Nat):Value->Prop
 |nil (n c):Us g w k sz (.slice none n c)
 |full (a n):Us g w k sz (.slice a n n)
 |here (b off n c) (h1:g.τ k=some b) (h2:g.F b=off+n*sz) (h3:yk w b):Us g w k sz (.slice (some ⟨b,off,none⟩) n c)
inductive GV(g:Gh)(h:bw)(w:World):V->Value->Prop
 |d (x v) (hx:RD g.F w x v):GV g h w (.d x) v
 |p (k i j b sz) (hn:g.U k=true) (hk:g.σ k=some (b,sz)):GV g h w (.p k i j) (.pointer (some ⟨b,i*sz+j,none⟩))
 |t (k e sz rows v) (hn:g.U k=true) (hx:RD g.F w (.l sz rows) v) (ht:∀n,h k=some (.tok n)->e<=n/\(e=n->Us g w k sz v)):GV g h w (.t k e sz rows) v
 |vn (k) (hn:g.U k=true) (hk:g.σ k=none):GV g h w (.v k 0 0) (.slice none 0 0)
 |ve (k lo a) (hn:g.U k=true):GV g h w (.v k lo 0) (.slice (some a) 0 0)
 |v (k lo n b sz cap c t fz) (hn:g.U k=true) (hk:g.σ k=some (b,sz)) (hb:w.heap[b]? =some (.cells c t fz)) (hc:(lo+cap)*sz<=c.size) (hl:n<=cap):
  GV g h w (.v k lo n) (.slice (some ⟨b,lo*sz,none⟩) n cap)
 |g (cells:List V) (vs:List Value) (hl:vs.length=cells.length) (ho:∀x∈cells,x.one=true)
  (hx:∀(i:Nat) x v,cells[i]? =some x->vs[i]? =some v->GV g h w x v):GV g h w (.g cells) (.agg vs.toArray)
 |a (cells:List D) (vs:List Value) (hl:vs.length=cells.length) (ho:∀v∈vs,v.oneCell'=true)
  (hx:∀(i:Nat) x v,cells[i]? =some x->vs[i]? =some v->RD g.F w x v):GV g h w (.a cells) (.agg vs.toArray)
 |tu (cells:List V) (vs:List Value) (hl:vs.length=cells.length)
  (hx:∀(i:Nat) x v,cells[i]? =some x->vs[i]? =some v->GV g h w x v):GV g h w (.tu cells) (.tuple vs.toArray)
 |f (fn) (first caps:List V) (vs us:List Value) (h1:vs.length=first.length) (h2:us.length=caps.length)
  (g1:∀(i:Nat) x v,first[i]? =some x->vs[i]? =some v->GV g h w x v) (g2:∀(i:Nat) x v,caps[i]? =some x->us[i]? =some v->GV g h w x v):
  GV g h w (.f fn first caps) (.func fn vs.toArray us.toArray)
 |m (k b sz) (hn:g.U k=true) (hk:g.σ k=some (b,sz)):GV g h w (.m k) (.map (some b))
 |it (k b sz) (hn:g.U k=true) (hk:g.σ k=some (b,sz)):GV g h w (.it k) (.pointer (some ⟨b,0,none⟩))
def nM(g:Gh)(b:Nat):Prop:=∃k,(∃sz,g.σ k=some (b,sz))\/g.τ k=some b
structure Ext(g:Gh)(h:bw)(w:World)(g':Gh)(h':bw)(w':World):Prop where
 n:∀k,g.U k=true->g'.U k=true
 size:w.heap.size<=w'.heap.size
 os:w'.os=w.os
 tape:w'.tape=w.tape
 output:w'.output=w.output
 stays:jt g.F w g'.F w'
 out:∀b,b<w.heap.size->¬nM g b->w'.heap[b]? =w.heap[b]? /\g'.F b=g.F b
 own:∀b,nM g' b->nM g b\/w.heap.size<=b
 sig:∀k,g.U k=true->g'.σ k=g.σ k
 tok:∀k,g.U k=true->∀n',h' k=some (.tok n')->∃n,h k=some (.tok n)/\(n<n'\/(n=n'/\g'.τ k=g.τ k/\∀b,g.τ k=some b->g'.F b=g.F b/\(yk w b->yk w' b)))
def Ext.refl(g:Gh)(h:bw)(w:World):Ext g h w g h w:=
 ⟨fun _ h=>h,Nat.le_refl _,rfl,rfl,rfl,jt.refl _ _,fun _ _ _=>⟨rfl,rfl⟩,fun _ h=>.inl h,fun _ _=>rfl,fun k _ j h=>⟨j,h,.inr ⟨rfl,rfl,fun _ _=>⟨rfl,id⟩⟩⟩⟩
def jt.trans{F B j:Nat->Nat}{w C A:World}(a:jt F w B C)(b:jt B C j A):jt F w j A:=by
 refine⟨fun x=>Nat.le_trans (a.le x) (b.le x),fun x c t E h=>?_⟩;obtain⟨H,t1,f1,I,J,Q,L⟩:=a.at_ x c t E h;obtain⟨M,t2,f2,N,O,R,P⟩:=b.at_ x H t1 f1 I;exact⟨M,t2,f2,N,O.trans J,by omega,fun i D=>(P i (Nat.lt_of_lt_of_le D (a.le x))).trans (L i D)⟩
def Ext.trans{g M D:Gh}{h N j:bw}{w O E:World}(a:Ext g h w M N O)(b:Ext M N O D j E):Ext g h w D j E where
 n:=fun k A=>b.n k (a.n k A)
 size:=ba a.size b.size
 os:=b.os.trans a.os
 tape:=b.tape.trans a.tape
 output:=b.output.trans a.output
 stays:=a.stays.trans b.stays
 out:=fun x B P=>by
  have H:=a.out x B P;have Q:=b.out x (Nat.lt_of_lt_of_le B a.size) (fun h=>by
   rcases a.own x h with h|h
   .exact P h
   .omega)
  exact⟨Q.1.trans H.1,Q.2.trans H.2⟩
 own:=fun x B=>by
  rcases b.own x B with h|h
  .exact a.own x h
  .exact .inr (ba a.size h)
 sig:=fun k A=>(b.sig k (a.n k A)).trans (a.sig k A)
 tok:=fun k A J j=>by
  obtain⟨V,H,C⟩:=b.tok k (a.n k A) J j;obtain⟨n,W,I⟩:=a.tok k A V H;refine⟨n,W,?_⟩;rcases I with I|⟨R,t0,f0⟩
  .rcases C with C|⟨L,_,_⟩
   .exact .inl (Nat.lt_trans I C)
   .exact .inl (L▸I)
  .rcases C with C|⟨L,t1,f1⟩
   .exact .inl (R▸C)
   .refine .inr ⟨R.trans L,t1.trans t0,fun x B=>?_⟩;have S:=f0 x B;have T:=f1 x (t0.trans B);exact⟨T.1.trans S.1,fun X=>T.2 (S.2 X)⟩
def Us.ext{g j:Gh}{w C:World}{k sz:Nat}{v:Value}(E:j.τ k=g.τ k)(D:∀b,g.τ k=some b->j.F b=g.F b/\(yk w b->yk C b))(h:Us g w k sz v):Us j C k sz v:=by
 cases h with
 |nil n c=>exact .nil n c
 |full a n=>exact .full a n
 |here b A n c B H I=>exact .here b A n c (E.trans B) ((D b B).1.trans H) ((D b B).2 I)
def GV.ext{g X:Gh}{h Y:bw}{w Z:World}(B:Ext g h w X Y Z){x:V}{v:Value}(hv:GV g h w x v):GV X Y Z x v:=by
 have D:=B.n;induction hv with
 |d x v E=>exact .d x v (E.stay B.stays)
 |p k i j b sz A C=>exact .p k i j b sz (D _ A) ((B.sig k A).trans C)
 |t k e sz J v A E ht=>
  refine .t k e sz J v (D _ A) (E.stay B.stays) fun n' N=>?_;obtain⟨n,h0,O⟩:=B.tok k A n' N;have L:=ht n h0;rcases O with O|⟨e1,e2,e3⟩
  .exact⟨by omega,fun h=>by omega⟩
  .exact⟨by omega,fun h=>(L.2 (by omega)).ext e2 e3⟩
 |vn k A C=>exact .vn k (D _ A) ((B.sig k A).trans C)
 |ve k P a A=>exact .ve k P a (D _ A)
 |v k P n b sz cap c t fz A C hb O H=>
  obtain⟨c',t',Q,R,S,_,_⟩:=B.stays.at_ b c t fz hb;exact .v k P n b sz cap c' t' Q (D _ A) ((B.sig k A).trans C) R (by omega) H
 |g cells I H T E ih=>exact .g cells I H T ih
 |a cells I H T E=>exact .a cells I H T fun i x v L W=>(E i x v L W).stay B.stays
 |tu cells I H E ih=>exact .tu cells I H ih
 |f fn first M I us L W g1 g2 i1 i2=>exact .f fn first M I us L W i1 i2
 |m k b sz A C=>exact .m k b sz (D _ A) ((B.sig k A).trans C)
 |it k b sz A C=>exact .it k b sz (D _ A) ((B.sig k A).trans C)
inductive jP(g:Gh)(h:bw)(w:World)(k:Nat):dX->Prop
 |nilvec (sz) (hk:g.σ k=none):jP g h w k (.row sz [] true)
 |row (sz rows vec b c t) (hk:g.σ k=some (b,sz)) (hb:w.heap[b]? =some (.cells c t (0,0))) (hF:g.F b=0) (hr:∀r∈rows,r.length=sz)
  (hc:rows.length*sz<=c.size) (hv:vec=false->c.size=rows.length*sz) (ho:∀r∈rows,∀x∈r,x.one=true)
  (hx:∀(i:Nat) r (j:Nat) x v,rows[i]? =some r->r[j]? =some x->c[i*sz+j]? =some v->GV g h w x v):jP g h w k (.row sz rows vec)
 |tok (n):jP g h w k (.tok n)
 |it (s pos b sz bs) (hk:g.σ k=some (b,sz)) (hb:w.heap[b]? =some (.stringIter bs pos)) (hr:SR s (bs.data.toList.drop pos)):jP g h w k (.it s pos)
 |map (es b sz ents clock) (hk:g.σ k=some (b,sz)) (hb:w.heap[b]? =some (.map ents clock)) (hl:ents.size=es.length)
  (hx:∀(i:Nat) x e,es[i]? =some x->ents[i]? =some e->GV g h w x.1 e.key/\GV g h w x.2 e.val):jP g h w k (.map es)
def dJ(g:Gh)(h:bw)(k:Nat):Option Nat:=
 match h k with
 |some (.tok _)=>g.τ k
 |some _=>(g.σ k).map (·.1)
 |none=>none
structure Rel(g:Gh)(h:bw)(w:World):Prop where
 lO:∀k sz rows,de.G k=some (sz,rows)->RD g.F w (.q sz rows 0 0) (.pointer (some ⟨k,0,none⟩))
 inj:∀k k' b,dJ g h k=some b->dJ g h k'=some b->k=k'
 lt:∀b,nM g b->b<w.heap.size
 fresh:∀b,w.heap.size<=b->g.F b=0
 top:∀k,g.U k=false->h k=none/\g.σ k=none/\g.τ k=none
 obj:∀k o,h k=some o->jP g h w k o
end
end Go.Abs
namespace Go.Abs
open Go.RowKit
variable{c:Array Value}{op:BinOp}{r:Bool}{l:List Value}{a b f i j k m n q size sz:Nat}{U:Nat->Bool}{F:Nat->Nat}{e t:TypeId}{u v:Value}{w:World}
section
variable[de]
def up{α:Type}(f:Nat->α)(k:Nat)(v:α):Nat->α:=fun i=>bif Nat.beq i k then v else f i
def aR{α:Type}(f:Nat->α)(k:Nat)(v:α):up f k v k=v:=by simp[up]
def bI{α:Type}(f:Nat->α)(k:Nat)(v:α)(h:i≠k):up f k v i=f i:=by
 unfold up;cases a:Nat.beq i k with
 |false=>rfl
 |true=>exact absurd (a6 a) h
def gJ{α:Type}(f:Nat->α)(k:Nat)(v:α)(i:Nat):up f k v i=if i=k then v else f i:=by
 by_cases h:i=k
 .subst h;rw[aR];simp
 .rw[bI f k v h];simp[h]
def jP.ext{g N:Gh}{h V:bw}{w O:World}(C:Ext g h w N V O){k:Nat}{o:dX}(I:g.U k=true)
 (P:∀b sz,g.σ k=some (b,sz)->O.heap[b]? =w.heap[b]? /\N.F b=g.F b)(Q:jP g h w k o):jP N V O k o:=by
 cases Q with
 |nilvec sz B=>exact .nilvec sz ((C.sig k I).trans B)
 |row sz D R b c t B A W X Y Z Q J=>
  obtain⟨E,S⟩:=P b sz B;exact .row sz D R b c t ((C.sig k I).trans B) (E.trans A) (S.trans W) X Y Z Q fun i r j x v L M a3=>(J i r j x v L M a3).ext C
 |tok n=>exact .tok n
 |it s pos b sz bs B A T=>
  obtain⟨E,S⟩:=P b sz B;exact .it s pos b sz bs ((C.sig k I).trans B) (E.trans A) T
 |map es b sz H clock B A hl J=>
  obtain⟨E,S⟩:=P b sz B;exact .map es b sz H clock ((C.sig k I).trans B) (E.trans A) hl fun i x e L M=>⟨(J i x e L M).1.ext C,(J i x e L M).2.ext C⟩
def Rel.step{g j:Gh}{h A:bw}{C:World}(P:Rel g h w)(Q:Ext g h w j A C)(T:Nat->Prop)
 (M:∀b,nM j b->b<C.heap.size)(N:∀b,C.heap.size<=b->j.F b=0)
 (D:∀k,j.U k=false->A k=none/\j.σ k=none/\j.τ k=none)
 (E:∀k R b,dJ j A k=some b->dJ j A R=some b->k=R)
 (B:∀k,¬T k->g.U k=true/\A k=h k/\∀b sz,h k≠none->(∀n,h k≠some (.tok n))->g.σ k=some (b,sz)->C.heap[b]? =w.heap[b]? /\j.F b=g.F b)
 (V:∀k o,T k->A k=some o->jP j A C k o):Rel j A C where
 lO:=fun k sz H L=>(P.lO k sz H L).stay Q.stays
 inj:=E
 lt:=M
 fresh:=N
 top:=D
 obj:=fun k o I=>by
  by_cases L:T k
  .exact V k o L I
  .obtain⟨W,X,Y⟩:=B k L;rw[X]at I;have O:=P.obj k o I;by_cases J:∃n,o=.tok n
   .obtain⟨n,rfl⟩:=J;exact .tok n
   .exact O.ext Q W fun b sz Z=>Y b sz (by rw[I];simp) (fun n S=>J ⟨n,by rw[I]at S;simpa using S⟩) Z
def nM.Jr{g:Gh}(h:g.σ k=some (b,sz)):nM g b:=⟨k,.inl ⟨sz,h⟩⟩
def nM.Qm{g:Gh}(h:g.τ k=some b):nM g b:=⟨k,.inr h⟩
def jt.alloc{F:Nat->Nat}{w:World}(o:Obj)(m:Nat)(C:F w.heap.size=0):jt F w (up F w m) (w.alloc o):=by
 refine⟨fun b=>?_,fun b c t B A=>?_⟩
 .rw[gJ];split
  .subst_vars;omega
  .exact ae _
 .have j:b<w.heap.size:=(Array.getElem?_eq_some_iff.1 A).1;refine⟨c,t,B,(heap_alloc_old w o (h:=j)).trans A,rfl,?_,fun _ _=>rfl⟩;rw[bI _ _ _ (by omega)];exact fP _ _
def tM(a:U k=true):up U q true k=true:=by rw[gJ];split<;>first|rfl|exact a
def gA(hq:U q=false)(a:U k=true):k≠q:=fun e=>by rw[e,hq]at a;cases a
def Dj{g:Gh}{h:bw}(y:Rel g h w)(q:Nat)(hq:g.U q=false\/g.σ q=none)(o:Obj)(s:Option (Nat×Nat))(f:Nat->Option Nat)(m:Nat)(z:bw)
 (d:s=none\/(g.U q=false/\∃sz,s=some (w.heap.size,sz)))(p:∀k b,f k=some b->g.τ k=some b\/b=w.heap.size)
 (i:∀k,g.U k=true->∀j,z k=some (.tok j)->∃n,h k=some (.tok n)/\(n<j\/(n=j/\f k=g.τ k))):
 Ext g h w {σ:=up g.σ q s,τ:=f,F:=up g.F w m,U:=up g.U q true} z (w.alloc o) where
 n:=fun k a=>tM a
 size:=by simp
 os:=rfl
 tape:=rfl
 output:=rfl
 stays:=jt.alloc o m (y.fresh _ (Nat.le_refl _))
 out:=fun b r _=>⟨heap_alloc_old w o (h:=r),bI _ _ _ (by omega)⟩
 own:=fun b ⟨k,a⟩=>by
  rcases a with⟨sz,a⟩|a
  .simp only[gJ]at a;split at a
   .rcases d with d|⟨_,A,d⟩
    .rw[d]at a;cases a
    .rw[d]at a;simp only[aK,De]at a;exact .inr (by omega)
   .exact .inl (nM.Jr a)
  .rcases p k b a with h1|h1
   .exact .inl (nM.Qm h1)
   .exact .inr (by omega)
 sig:=fun k a=>by
  show up g.σ q s k=g.σ k;by_cases e:k=q
  .subst e;rcases d with d|⟨u,_⟩
   .rw[aR,d];rcases hq with hq|hq
    .rw[hq]at a;cases a
    .exact hq.symm
   .rw[u]at a;cases a
  .exact bI _ _ _ e
 tok:=fun k a j v=>by
  obtain⟨n,B,l⟩:=i k a j v;refine⟨n,B,?_⟩;rcases l with l|⟨C,D⟩
  .exact .inl l
  .refine .inr ⟨C,D,fun b r=>?_⟩;have x:=y.lt b (nM.Qm r);refine⟨bI _ _ _ (by omega),fun⟨c,t,l⟩=>⟨c,t,(heap_alloc_old w o (h:=x)).trans l⟩⟩
def xK{g:Gh}{h:bw}(a:dJ g h k=some b):nM g b:=by
 unfold dJ at a;split at a
 .exact nM.Qm a
 .cases c:g.σ k with
  |none=>rw[c]at a;cases a
  |some x=>rw[c]at a;simp at a;exact⟨k,.inl ⟨x.2,by rw[c,<-a]⟩⟩
 .cases a
def Dk{g:Gh}{h:bw}(a:Rel g h w)(c:dJ g h k=some b):b<w.heap.size:=a.lt b (xK c)
def Qn{g:Gh}{h:bw}(c:h k≠none)(d:∀n,h k≠some (.tok n))(e:g.σ k=some (b,sz)):dJ g h k=some b:=by
 unfold dJ;split
 .next n a=>exact absurd a (d n)
 .rw[e];rfl
 .next a=>exact absurd a c
def Qo{g:Gh}{h:bw}(a:h k=some (.tok n))(c:g.τ k=some b):dJ g h k=some b:=by
 unfold dJ;rw[a];exact c
def xL{g:Gh}{h:bw}(i:Rel g h w)(hq:g.U q=false)(o:Obj)(sz:Nat)(j:dX)(t:∀n,j≠.tok n)
 (y:jP {σ:=up g.σ q (some (w.heap.size,sz)),τ:=g.τ,F:=up g.F w 0,U:=up g.U q true} (up h q (some j)) (w.alloc o) q j):
 Rel {σ:=up g.σ q (some (w.heap.size,sz)),τ:=g.τ,F:=up g.F w 0,U:=up g.U q true} (up h q (some j)) (w.alloc o)/\
 Ext g h w {σ:=up g.σ q (some (w.heap.size,sz)),τ:=g.τ,F:=up g.F w 0,U:=up g.U q true} (up h q (some j)) (w.alloc o):=by
 have u:Ext g h w {σ:=up g.σ q (some (w.heap.size,sz)),τ:=g.τ,F:=up g.F w 0,U:=up g.U q true} (up h q (some j)) (w.alloc o):=
  Dj i q (.inl hq) o (some (w.heap.size,sz)) g.τ 0 (up h q (some j)) (.inr ⟨hq,sz,rfl⟩) (fun k b f=>.inl f)
   (fun k c A m=>by rw[bI _ _ _ (gA hq c)]at m;exact⟨A,m,.inr ⟨rfl,rfl⟩⟩)
 refine⟨i.step u (fun k=>g.U k=false) ?_ ?_ ?_ ?_ ?_ ?_,u⟩
 .intro b f;rcases u.own b f with h1|h1
  .have:=i.lt b h1;simp;omega
  .obtain⟨k,⟨z,c⟩|c⟩:=f
   .simp only[gJ]at c;split at c
    .simp only[aK,De]at c;simp;omega
    .have:=i.lt b (nM.Jr c);omega
   .have:=i.lt b (nM.Qm c);omega
 .intro b f;simp at f;show up _ _ _ _=_;rw[bI _ _ _ (by omega)];exact i.fresh b (by omega)
 .intro k c;have a:up g.U q true k=false:=c;have l:k≠q:=fun e=>by rw[e,aR]at a;cases a
  rw[bI _ _ _ l]at a;refine⟨?_,?_,?_⟩
  .rw[bI _ _ _ l];exact(i.top k a).1
  .show up _ _ _ _=_;rw[bI _ _ _ l];exact(i.top k a).2.1
  .exact(i.top k a).2.2
 .have p:∀k b,dJ {σ:=up g.σ q (some (w.heap.size,sz)),τ:=g.τ,F:=up g.F w 0,U:=up g.U q true} (up h q (some j)) k=some b->
   (k=q/\b=w.heap.size)\/dJ g h k=some b:=by
   intro k b f;by_cases c:k=q
   .subst c;left;refine⟨rfl,?_⟩;unfold dJ at f;rw[aR]at f;split at f
    .next n v=>simp only[aK]at v;exact absurd v (t n)
    .simp only[aR,cj,aK]at f;exact f.symm
    .cases f
   .right;unfold dJ at f|-;rw[bI _ _ _ c]at f;simpa only[bI _ _ _ c]using f
  intro k x b h1 B;rcases p k b h1 with⟨r,G⟩|r<;>rcases p x b B with⟨s,H⟩|s
  .exact r.trans s.symm
  .have:=Dk i s;omega
  .have:=Dk i r;omega
  .exact i.inj k x b r s
 .intro k c;have a:g.U k=true:=by simpa using c
  refine⟨a,bI _ _ _ (gA hq a),fun b z v C D=>?_⟩;have:=i.lt b (nM.Jr D);exact⟨aG w o (h:=this),bI _ _ _ (by omega)⟩
 .intro k E c d;by_cases e:k=q
  .subst e;rw[aR]at d;simp only[aK]at d;subst d;exact y
  .rw[bI _ _ _ e,(i.top k c).1]at d;cases d
end
section
variable[de]
def Rel.used{g:Gh}{h:bw}(A:Rel g h w){o:dX}(j:h k=some o):g.U k=true:=by
 cases B:g.U k with
 |true=>rfl
 |false=>rw[(A.top k B).1]at j;cases j
def yl{g:Gh}{h:bw}(w:World)(k:Nat):Ext g h w g (up h k none) w where
 n:=fun _ h=>h
 size:=ae _
 os:=rfl
 tape:=rfl
 output:=rfl
 stays:=jt.refl _ _
 out:=fun _ _ _=>⟨rfl,rfl⟩
 own:=fun _ h=>.inl h
 sig:=fun _ _=>rfl
 tok:=fun j _ b a=>by
  rw[gJ]at a;split at a
  .cases a
  .exact⟨b,a,.inr ⟨rfl,rfl,fun _ _=>⟨rfl,id⟩⟩⟩
def FD{g:Gh}{h:bw}(a:dJ g (up h k none) j=some b):j≠k/\dJ g h j=some b:=by
 by_cases e:j=k
 .subst e;unfold dJ at a;rw[aR]at a;cases a
 .refine⟨e,?_⟩;unfold dJ at a|-;rwa[bI _ _ _ e]at a
def FE{g:Gh}{h:bw}(d:Rel g h w)(k:Nat):Rel g (up h k none) w where
 lO:=d.lO
 inj:=fun j i b a c=>d.inj j i b (FD a).2 (FD c).2
 lt:=d.lt
 fresh:=d.fresh
 top:=fun j f=>⟨by rw[gJ];split<;>simp[(d.top j f).1],(d.top j f).2⟩
 obj:=fun j o e=>by
  rw[gJ]at e;split at e
  .cases e
  .have f:g.U j=true:=d.used e;exact(d.obj j o e).ext (yl w k) f fun _ _ _=>⟨rfl,rfl⟩
def LM{g:Gh}{h:bw}(i:Rel g h w)(o:Obj)(m k r:Nat)(v:g.U k=false\/∃n,h k=some (.tok n)/\n<r):
 Rel {σ:=g.σ,τ:=up g.τ k (some w.heap.size),F:=up g.F w m,U:=up g.U k true} (up h k (some (.tok r))) (w.alloc o)/\
 Ext g h w {σ:=g.σ,τ:=up g.τ k (some w.heap.size),F:=up g.F w m,U:=up g.U k true} (up h k (some (.tok r))) (w.alloc o):=by
 have x:Ext g h w {σ:=g.σ,τ:=up g.τ k (some w.heap.size),F:=up g.F w m,U:=up g.U k true} (up h k (some (.tok r))) (w.alloc o):={
  n:=fun j a=>tM a
  size:=by simp
  os:=rfl
  tape:=rfl
  output:=rfl
  stays:=jt.alloc o m (i.fresh _ (Nat.le_refl _))
  out:=fun b f _=>⟨heap_alloc_old w o (h:=f),bI _ _ _ (by omega)⟩
  own:=fun b ⟨j,a⟩=>by
   rcases a with⟨z,a⟩|a
   .exact .inl (nM.Jr a)
   .simp only[gJ]at a;split at a
    .simp only[aK]at a;exact .inr (by omega)
    .exact .inl (nM.Qm a)
  sig:=fun _ _=>rfl
  tok:=fun j a C h1=>by
   by_cases e:j=k
   .subst e;rw[aR]at h1;simp only[aK,dX.tok.injEq]at h1;subst h1;rcases v with v|⟨n,y,D⟩
    .rw[v]at a;cases a
    .exact⟨n,y,.inl D⟩
   .rw[bI _ _ _ e]at h1;refine⟨C,h1,.inr ⟨rfl,bI _ _ _ e,fun b f=>?_⟩⟩;have A:=i.lt b (nM.Qm f);exact⟨bI _ _ _ (by omega),fun⟨c,t,E⟩=>⟨c,t,(heap_alloc_old w o (h:=A)).trans E⟩⟩}
 have p:∀j b,dJ {σ:=g.σ,τ:=up g.τ k (some w.heap.size),F:=up g.F w m,U:=up g.U k true} (up h k (some (.tok r))) j=some b->
  (j=k/\b=w.heap.size)\/dJ g h j=some b:=by
  intro j b f;by_cases e:j=k
  .subst e;unfold dJ at f;rw[aR]at f;simp only[aR,aK]at f;exact .inl ⟨rfl,f.symm⟩
  .right;unfold dJ at f|-;rw[bI _ _ _ e]at f;simpa only[bI _ _ _ e]using f
 refine⟨i.step x (fun j=>¬(g.U j=true/\j≠k)) ?_ ?_ ?_ ?_ ?_ ?_,x⟩
 .intro b f;rcases x.own b f with h1|h1
  .have:=i.lt b h1;simp;omega
  .obtain⟨j,⟨z,a⟩|a⟩:=f
   .have:=i.lt b (nM.Jr a);omega
   .simp only[gJ]at a;split at a
    .simp only[aK]at a;simp;omega
    .have:=i.lt b (nM.Qm a);omega
 .intro b f;simp at f;show up _ _ _ _=_;rw[bI _ _ _ (by omega)];exact i.fresh b (by omega)
 .intro j a;have d:up g.U k true j=false:=a;have q:j≠k:=fun e=>by rw[e,aR]at d;cases d
  rw[bI _ _ _ q]at d;refine⟨?_,(i.top j d).2.1,?_⟩
  .rw[bI _ _ _ q];exact(i.top j d).1
  .show up _ _ _ _=_;rw[bI _ _ _ q];exact(i.top j d).2.2
 .intro j B b h1 y;rcases p j b h1 with⟨s,I⟩|s<;>rcases p B b y with⟨u,J⟩|u
  .exact s.trans u.symm
  .have:=Dk i u;omega
  .have:=Dk i s;omega
  .exact i.inj j B b s u
 .intro j a;have d:=Classical.not_not.1 a;refine⟨d.1,bI _ _ _ d.2,fun b z K G H=>?_⟩;have:=i.lt b (nM.Jr H);exact⟨aG w o (h:=this),bI _ _ _ (by omega)⟩
 .intro j L a l;by_cases e:j=k
  .subst e;rw[aR]at l;simp only[aK]at l;subst l;exact .tok _
  .rw[bI _ _ _ e]at l;exact absurd ⟨i.used l,e⟩ a
structure At(w w':World)(b:Nat):Prop where
 os:w'.os=w.os
 tape:w'.tape=w.tape
 output:w'.output=w.output
 size:w'.heap.size=w.heap.size
 iD:∀x,x≠b->w'.heap[x]? =w.heap[x]?
def Dm{g:Gh}{h:bw}{o:World}(G:Rel g h w){l:Array Value}(z:g.σ k=some (b,sz))(H:h k≠none)(A:∀n,h k≠some (.tok n))
 (B:w.heap[b]? =some (.cells c t (0,0)))(I:g.F b=0)(a:At w o b)(f:o.heap[b]? =some (.cells l t (0,0)))(p:l.size=c.size)
 (h':bw)(q:∀j,j≠k->h' j=h j)(r:∀n,h' k≠some (.tok n)):Ext g h w g h' o where
 n:=fun _ h=>h
 size:=by rw[a.size];exact ae _
 os:=a.os
 tape:=a.tape
 output:=a.output
 stays:=⟨fun _=>Nat.le_refl _,fun x s u C m=>by
  by_cases e:x=b
  .subst e;rw[B]at m;cases m;exact⟨l,t,(0,0),f,p,Nat.le_max_left _ _,fun i J=>by omega⟩
  .exact⟨s,u,C,(a.iD x e).trans m,rfl,fP _ _,fun _ _=>rfl⟩⟩
 out:=fun x _ D=>⟨a.iD x (fun e=>D (e▸nM.Jr z)),rfl⟩
 own:=fun _ h=>.inl h
 sig:=fun _ _=>rfl
 tok:=fun j K v d=>by
  by_cases e:j=k
  .subst e;exact absurd d (r v)
  .rw[q j e]at d;refine⟨v,d,.inr ⟨rfl,rfl,fun x m=>⟨rfl,fun⟨s,u,E⟩=>?_⟩⟩⟩;by_cases y:x=b
   .subst y;exact⟨l,t,f⟩
   .exact⟨s,u,(a.iD x y).trans E⟩
def xM{g:Gh}{h:bw}{o d:dX}(i:h k=some o)(f:∀n,o≠.tok n)(a:∀n,d≠.tok n)
 (c:dJ g (up h k (some d)) j=some b):dJ g h j=some b:=by
 by_cases e:j=k
 .subst e;unfold dJ at c|-;rw[aR]at c;rw[i];cases o with
  |tok n=>exact absurd rfl (f n)
  |_=>cases d with
   |tok n=>exact absurd rfl (a n)
   |_=>exact c
 .unfold dJ at c|-;rwa[bI _ _ _ e]at c
def rp{g:Gh}{h:bw}{q:World}(d:Rel g h w){o m:dX}(A:g.σ k=some (b,sz))(p:h k=some o)(i:∀n,o≠.tok n)(f:∀n,m≠.tok n)
 (t:At w q b)(B:Ext g h w g (up h k (some m)) q)(C:jP g (up h k (some m)) q k m):Rel g (up h k (some m)) q:=by
 have u:=d.used p;refine d.step B (fun j=>j=k\/g.U j=false) ?_ ?_ ?_ ?_ ?_ ?_
 .intro x r;rw[t.size];exact d.lt x r
 .intro x r;rw[t.size]at r;exact d.fresh x r
 .intro j a;refine⟨?_,(d.top j a).2⟩;rw[bI _ _ _ (fun e=>by rw[e,u]at a;cases a)];exact(d.top j a).1
 .intro j D x E F;exact d.inj j D x (xM p i f E) (xM p i f F)
 .intro j a;have l:j≠k/\g.U j=true:=by
   refine⟨fun e=>a (.inl e),?_⟩;cases G:g.U j with
   |true=>rfl
   |false=>exact absurd (.inr G) a
  refine⟨l.2,bI _ _ _ l.1,fun x z s v y=>⟨t.iD x fun e=>?_,rfl⟩⟩;subst e;have H:=Qn s v y;have I:=Qn (h:=h) (k:=k) (by rw[p];simp) (fun n s=>by rw[p]at s;exact i n (by simpa using s)) A;exact l.1 (d.inj j k x H I)
 .intro j J a c;by_cases e:j=k
  .subst e;rw[aR]at c;simp only[aK]at c;subst c;exact C
  .rcases a with a|a
   .exact absurd a e
   .rw[bI _ _ _ e,(d.top j a).1]at c;cases c
end
section
variable[de]
def Dp{g:Gh}{h:bw}{p:World}(B:Rel g h w)(v:g.σ k=some (b,sz))
 (q:∀c t y,w.heap[b]? ≠some (.cells c t y))(a:At w p b)
 (h':bw)(f:∀j,j≠k->h' j=h j)(i:∀n,h' k≠some (.tok n)):Ext g h w g h' p where
 n:=fun _ h=>h
 size:=by rw[a.size];exact ae _
 os:=a.os
 tape:=a.tape
 output:=a.output
 stays:=⟨fun _=>Nat.le_refl _,fun x l m z o=>by
  by_cases e:x=b
  .subst e;exact absurd o (q _ _ _)
  .exact⟨l,m,z,(a.iD x e).trans o,rfl,fP _ _,fun _ _=>rfl⟩⟩
 out:=fun x _ A=>⟨a.iD x (fun e=>A (e▸nM.Jr v)),rfl⟩
 own:=fun _ h=>.inl h
 sig:=fun _ _=>rfl
 tok:=fun j C r d=>by
  by_cases e:j=k
  .subst e;exact absurd d (i r)
  .rw[f j e]at d;refine⟨r,d,.inr ⟨rfl,rfl,fun x o=>⟨rfl,fun⟨l,m,s⟩=>?_⟩⟩⟩;by_cases u:x=b
   .subst u;exact absurd s (q _ _ _)
   .exact⟨l,m,(a.iD x u).trans s⟩
def Qp{g:Gh}{h:bw}{u:World}(f:Rel g h w){n':Nat}{v:Array Value}(y:h k=some (.tok n))(B:g.τ k=some b)(C:n<n')
 (r:w.heap[b]? =some (.cells c t (0,0)))(o:At w u b)(D:u.heap[b]? =some (.cells v t (0,0)))(E:v.size=c.size)
 (O:g.F b<=m)(P:m<=c.size)(Q:∀i,i<g.F b->v[i]? =c[i]?):
 Rel {g with F:=up g.F b m} (up h k (some (.tok n'))) u/\Ext g h w {g with F:=up g.F b m} (up h k (some (.tok n'))) u:=by
 have G:=f.used y;have M:Ext g h w {g with F:=up g.F b m} (up h k (some (.tok n'))) u:={
  n:=fun _ h=>h
  size:=by rw[o.size];exact ae _
  os:=o.os
  tape:=o.tape
  output:=o.output
  stays:=⟨fun x=>by
   show g.F x<=up g.F b m x;rw[gJ];split
   .subst_vars;exact O
   .exact ae _,fun x H I R p=>by
   show∃v Z S,_/\_/\up g.F b m x<=_/\_;by_cases e:x=b
   .subst e;rw[r]at p;cases p;rw[aR];exact⟨v,t,(0,0),D,E,by omega,Q⟩
   .rw[bI _ _ _ e];exact⟨H,I,R,(o.iD x e).trans p,rfl,Nat.le_max_left _ _,fun _ _=>rfl⟩⟩
  out:=fun x _ T=>by
   have e:x≠b:=fun e=>T (e▸nM.Qm B);exact⟨o.iD x e,bI _ _ _ e⟩
  own:=fun _ h=>.inl h
  sig:=fun _ _=>rfl
  tok:=fun j a V d=>by
   by_cases e:j=k
   .subst e;rw[aR]at d;simp only[aK,dX.tok.injEq]at d;subst d;exact⟨n,y,.inl C⟩
   .rw[bI _ _ _ e]at d;refine⟨V,d,.inr ⟨rfl,rfl,fun x p=>?_⟩⟩;have A:x≠b:=by
     rintro rfl;exact e (f.inj j k x (Qo d p) (Qo y B))
    exact⟨bI _ _ _ A,fun⟨H,I,J⟩=>⟨H,I,(o.iD x A).trans J⟩⟩}
 have q:∀j x,dJ {g with F:=up g.F b m} (up h k (some (.tok n'))) j=some x->dJ g h j=some x:=by
  intro j x r;by_cases e:j=k
  .subst e;unfold dJ at r|-;rw[aR]at r;rw[y];exact r
  .unfold dJ at r|-;rwa[bI _ _ _ e]at r
 refine⟨f.step M (fun j=>j=k\/g.U j=false) ?_ ?_ ?_ ?_ ?_ ?_,M⟩
 .intro x p;rw[o.size];exact f.lt x p
 .intro x p;rw[o.size]at p;show up _ _ _ _=_;rw[bI _ _ _ (by have:=f.lt b (nM.Qm B);omega)];exact f.fresh x p
 .intro j a;refine⟨?_,(f.top j a).2⟩;rw[bI _ _ _ (fun e=>by rw[e]at a;exact absurd G (by rw[show g.U k=false from a];simp))];exact(f.top j a).1
 .intro j N x W X;exact f.inj j N x (q j x W) (q N x X)
 .intro j a;have s:j≠k/\g.U j=true:=by
   refine⟨fun e=>a (.inl e),?_⟩;cases Y:g.U j with
   |true=>rfl
   |false=>exact absurd (.inr Y) a
  refine⟨s.2,bI _ _ _ s.1,fun x z C K L=>?_⟩;have e:x≠b:=by
   rintro rfl;exact s.1 (f.inj j k x (Qn C K L) (Qo y B))
  exact⟨o.iD x e,bI _ _ _ e⟩
 .intro j ao a l;by_cases e:j=k
  .subst e;rw[aR]at l;simp only[aK]at l;subst l;exact .tok _
  .rcases a with a|a
   .exact absurd a e
   .rw[bI _ _ _ e,(f.top j a).1]at l;cases l
def FF{g:Gh}{h:bw}(f:Rel g h w)(hq:g.U q=false){o:dX}(H:h k=some o)(I:∀n,o≠.tok n):
 Rel {g with σ:=up g.σ q (g.σ k),U:=up g.U q true} (up (up h k none) q (some o)) w/\
 Ext g h w {g with σ:=up g.σ q (g.σ k),U:=up g.U q true} (up (up h k none) q (some o)) w:=by
 have y:=f.used H;have G:Ext g h w {g with σ:=up g.σ q (g.σ k),U:=up g.U q true} (up (up h k none) q (some o)) w:={
  n:=fun j a=>tM a
  size:=ae _
  os:=rfl
  tape:=rfl
  output:=rfl
  stays:=jt.refl _ _
  out:=fun _ _ _=>⟨rfl,rfl⟩
  own:=fun b ⟨j,a⟩=>by
   rcases a with⟨z,a⟩|a
   .simp only[gJ]at a;split at a
    .exact .inl (nM.Jr a)
    .exact .inl (nM.Jr a)
   .exact .inl (nM.Qm a)
  sig:=fun j a=>bI _ _ _ (gA hq a)
  tok:=fun j a T p=>by
   rw[bI _ _ _ (gA hq a),gJ]at p;split at p
   .cases p
   .exact⟨T,p,.inr ⟨rfl,rfl,fun _ _=>⟨rfl,id⟩⟩⟩}
 have v:∀j x,dJ {g with σ:=up g.σ q (g.σ k),U:=up g.U q true} (up (up h k none) q (some o)) j=some x->
  (j=q/\dJ g h k=some x)\/(j≠k/\j≠q/\dJ g h j=some x):=by
  intro j x r;by_cases e:j=q
  .subst e;left;refine⟨rfl,?_⟩;unfold dJ at r|-;rw[aR]at r;rw[H];cases o with
   |tok n=>exact absurd rfl (I n)
   |_=>simpa only[aR]using r
  .right;by_cases A:j=k
   .subst A;unfold dJ at r;rw[bI _ _ _ e,aR]at r;cases r
   .refine⟨A,e,?_⟩;unfold dJ at r|-;rw[bI _ _ _ e,bI _ _ _ A]at r;simpa only[bI _ _ _ e]using r
 refine⟨f.step G (fun j=>j=k\/g.U j=false) ?_ ?_ ?_ ?_ ?_ ?_,G⟩
 .intro x D;rcases G.own x D with h1|h1
  .exact f.lt x h1
  .obtain⟨j,⟨z,a⟩|a⟩:=D
   .simp only[gJ]at a;split at a
    .exact f.lt x (nM.Jr a)
    .exact f.lt x (nM.Jr a)
   .exact f.lt x (nM.Qm a)
 .exact f.fresh
 .intro j a;have i:up g.U q true j=false:=a;have B:j≠q:=fun e=>by rw[e,aR]at i;cases i
  rw[bI _ _ _ B]at i;have l:j≠k:=fun e=>by rw[e,y]at i;cases i
  refine⟨?_,?_,(f.top j i).2.2⟩
  .rw[bI _ _ _ B,bI _ _ _ l];exact(f.top j i).1
  .show up _ _ _ _=_;rw[bI _ _ _ B];exact(f.top j i).2.1
 .intro j O x h1 V;rcases v j x h1 with⟨J,P⟩|⟨J,P,Q⟩<;>rcases v O x V with⟨K,R⟩|⟨K,R,S⟩
  .exact J.trans K.symm
  .exact absurd (f.inj _ _ _ P S).symm K
  .exact absurd (f.inj _ _ _ R Q).symm J
  .exact f.inj j O x Q S
 .intro j a;have l:j≠k/\g.U j=true:=by
   refine⟨fun e=>a (.inl e),?_⟩;cases W:g.U j with
   |true=>rfl
   |false=>exact absurd (.inr W) a
  exact⟨l.2,by rw[bI _ _ _ (gA hq l.2),bI _ _ _ l.1],fun _ _ _ _ _=>⟨rfl,rfl⟩⟩
 .intro j ao a d;by_cases e:j=q
  .subst j;rw[aR]at d;simp only[aK]at d;subst d;have L:=(f.obj k o H).ext G y fun _ _ _=>⟨rfl,rfl⟩;have u:({g with σ:=up g.σ q (g.σ k),U:=up g.U q true}:Gh).σ q=({g with σ:=up g.σ q (g.σ k),U:=up g.U q true}:Gh).σ k:=by
    show up _ _ _ _=up _ _ _ _;rw[aR,bI _ _ _ (gA hq y)]
   cases L with
   |nilvec sz C=>exact .nilvec sz (u.trans C)
   |row sz E M b c t C m X f Y Z ho D=>exact .row sz E M b c t (u.trans C) m X f Y Z ho D
   |tok n=>exact .tok n
   |it s pos b sz bs C m N=>exact .it s pos b sz bs (u.trans C) m N
   |map es b sz F clock C m hl D=>exact .map es b sz F clock (u.trans C) m hl D
  .rw[bI _ _ _ e]at d;by_cases A:j=k
   .subst A;rw[aR]at d;cases d
   .rw[bI _ _ _ A]at d;rcases a with a|a
    .exact absurd a A
    .rw[(f.top j a).1]at d;cases d
def At.drew(w:World)(b:Nat):At w w.drew b:=⟨rfl,rfl,rfl,rfl,fun _ _=>rfl⟩
def lq{g:Gh}{h:bw}{w':World}(d:w'.os=w.os)(e:w'.tape=w.tape)(f:w'.output=w.output)(a:w'.heap=w.heap):Ext g h w g h w' where
 n:=fun _ h=>h
 size:=by rw[a];exact ae _
 os:=d
 tape:=e
 output:=f
 stays:=⟨fun _=>Nat.le_refl _,fun b c t i j=>⟨c,t,i,by rw[a];exact j,rfl,fP _ _,fun _ _=>rfl⟩⟩
 out:=fun b _ _=>⟨by rw[a],rfl⟩
 own:=fun _ h=>.inl h
 sig:=fun _ _=>rfl
 tok:=fun k _ l m=>⟨l,m,.inr ⟨rfl,rfl,fun b _=>⟨rfl,fun⟨c,t,o⟩=>⟨c,t,by rw[a];exact o⟩⟩⟩⟩
def qd{g:Gh}{h:bw}{w':World}(a:Rel g h w)(j:w'.os=w.os)(l:w'.tape=w.tape)(m:w'.output=w.output)(c:w'.heap=w.heap):Rel g h w' where
 lO:=fun k sz d e=>(a.lO k sz d e).stay (lq (g:=g) (h:=h) j l m c).stays
 inj:=a.inj
 lt:=fun b f=>by rw[c];exact a.lt b f
 fresh:=fun b f=>by rw[c]at f;exact a.fresh b f
 top:=a.top
 obj:=fun k o e=>by
  have i:=a.used e;exact(a.obj k o e).ext (lq j l m c) i fun b _ _=>⟨by rw[c],rfl⟩
end
section
variable[de]
inductive TK where
 |int(k:IntKind)|bool|str|ptr(e:TypeId)|sl(e:TypeId)|arr(n:Nat)(e:TypeId)
 |st(fs:List (TypeId×Nat))|func|map(k v:TypeId)|other
def TK.agg:TK->Bool
 |.st _|.arr _ _=>true
 |_=>false
structure TI where
 kind:TK
 size:Nat
 bytes:Nat
 zero:List D
abbrev gI:=TypeId->Option TI
def NF:Value->Option D
 |.int k n=>some (.i k n)
 |.bool x=>some (.b x)
 |.string s=>some (.s (s.data.toList.map fun u=>.c u.toNat))
 |.slice none 0 0=>some .z
 |.pointer none=>some .np
 |.nilFunc=>some .nf
 |.map none=>some .nm
 |_=>none
def eM:TypeDesc->TK
 |.int k=>.int k
 |.bool=>.bool
 |.string=>.str
 |.pointer e=>.ptr e
 |.slice e=>.sl e
 |.array n e=>.arr n e
 |.struct a=>.st (a.toList.map fun f=>(f.type,f.offset))
 |.func _ _ _=>.func
 |.map k v=>.map k v
 |_=>.other
def Dq:Value->Bool
 |.agg _=>true
 |_=>false
def Dr(l:List Value):Option (List D):=l.mapM NF
def qe(P:Program)(t:TypeId):Option TI:=
 match P.info? t,P.underlying t with
 |some i,some d=>
  match i.zero with
  |some z=>
   match Dr z.cells.toList with
   |some a=>if a.length=i.size/\Dq z=(eM d).agg then some ⟨eM d,i.size,i.bytes,a⟩else none
   |none=>none
  |none=>none
 |_,_=>none
def dN(P:Program)(a:gI):Prop:=∀t ti,a t=some ti->qe P t=some ti
def SR.lit(l:List UInt8):SR (l.map fun u=>.c u.toNat) l:=
 ⟨by simp,fun i x u j A=>by rw[ai,A]at j;cases j;rfl⟩
def Dt{w:World}{d:D}(h:NF v=some d):RD F w d v:=by
 unfold NF at h;split at h<;>simp only[aK,reduceCtorEq]at h;all_goals subst h
 .exact .i _ _
 .exact .b _
 .exact .s _ _ (SR.lit _)
 .exact .z
 .exact .np
 .exact .nf
 .exact .nm
def mq{b:List D}(h:Dr l=some b):b.length=l.length/\∀(i:Nat) v d,l[i]? =some v->b[i]? =some d->NF v=some d:=by
 induction l generalizing b with
 |nil=>
  simp only[Dr,List.mapM_nil]at h;cases h;exact⟨rfl,fun i v d h=>by simp at h⟩
 |cons a l ih=>
  simp only[Dr,rf,Option.bind_eq_bind,Option.bind_eq_some_iff]at h;obtain⟨x,j,o,c,k⟩:=h;cases k;obtain⟨m,n⟩:=ih c;refine⟨by simp[m],fun i v d e f=>?_⟩;cases i with
  |zero=>simp at e f;subst e;subst f;exact j
  |succ i=>exact n i v d (by simpa using e) (by simpa using f)
structure GL(g:Gh)(h:bw)(w:World)(xs:List V)(vs:List Value):Prop where
 len:vs.length=xs.length
 at_:∀(i:Nat) x v,xs[i]? =some x->vs[i]? =some v->GV g h w x v
section
variable{g:Gh}{h:bw}{w:World}
def GL.nil:GL g h w [] []:=⟨rfl,fun i x v h=>by simp at h⟩
def GL.cons{x:V}{v:Value}{B:List V}{C:List Value}(a:GV g h w x v)(b:GL g h w B C):GL g h w (x::B) (v::C):=
 ⟨by simp[b.len],fun i y u j A=>by
  cases i with
  |zero=>simp at j A;subst j;subst A;exact a
  |succ i=>exact b.at_ i y u (by simpa using j) (by simpa using A)⟩
def GL.get{A:List V}{j:List Value}(a:GL g h w A j){x:V}(B:A[i]? =some x):∃v,j[i]? =some v/\GV g h w x v:=by
 have D:=(List.getElem?_eq_some_iff.1 B).1;have C:i<j.length:=by rw[a.len];exact D
 exact⟨j[i],List.getElem?_eq_getElem C,a.at_ i x _ B (List.getElem?_eq_getElem C)⟩
def GL.drop{j:List V}{A:List Value}(a:GL g h w j A)(n:Nat):GL g h w (j.drop n) (A.drop n):=
 ⟨by simp[a.len],fun i x v B C=>a.at_ (n+i) x v (by simpa using B) (by simpa using C)⟩
def GL.take{B:List V}{C:List Value}(a:GL g h w B C)(n:Nat):GL g h w (B.take n) (C.take n):=
 ⟨by simp[a.len],fun i x v j A=>a.at_ i x v (by
  rw[br]at j;split at j
  .exact j
  .cases j) (by
  rw[br]at A;split at A
  .exact A
  .cases A)⟩
def GL.append{B C:List V}{D E:List Value}(a:GL g h w B D)(b:GL g h w C E):GL g h w (B++C) (D++E):=
 ⟨by simp[a.len,b.len],fun i x v A j=>by
  by_cases H:i<B.length
  .rw[an H]at A;rw[an (by rw[a.len];exact H)]at j;exact a.at_ i x v A j
  .rw[ay (by omega)]at A;rw[ay (by rw[a.len];omega)]at j;exact b.at_ _ x v A (by rw[a.len]at j;exact j)⟩
def GL.ext{j:Gh}{A:bw}{B:World}{C:List V}{D:List Value}(a:GL g h w C D)(E:Ext g h w j A B):GL j A B C D:=
 ⟨a.len,fun i x v H I=>(a.at_ i x v H I).ext E⟩
def GL.Xx{B:List D}{C:List Value}(E:C.length=B.length)(H:∀(i:Nat) d v,B[i]? =some d->C[i]? =some v->RD g.F w d v):GL g h w (B.map .d) C:=
 ⟨by simp[E],fun i x v A I=>by
  rw[ai]at A;cases j:B[i]? with
  |none=>rw[j]at A;cases A
  |some d=>rw[j]at A;simp at A;subst A;exact .d d v (H i d v j I)⟩
def GV.Du{cells:List V}(A:GV g h w (.g cells) v):∃j:List Value,v=.agg j.toArray/\GL g h w cells j/\∀x∈cells,x.one=true:=by
 cases A with
 |g _ j B C D=>exact⟨j,rfl,⟨B,D⟩,C⟩
def RD.one{d:D}(j:RD F w d v):v.oneCell'=true:=by induction j<;>first|rfl|assumption
def GV.one{x:V}{v:Value}(C:GV g h w x v)(j:x.one=true):v.oneCell'=true:=by
 cases C with
 |d x v A=>exact A.one
 |p=>rfl
 |t k e sz B v D A E=>exact A.one
 |vn=>rfl
 |ve=>rfl
 |v=>rfl
 |g=>cases j
 |a=>cases j
 |tu=>cases j
 |f=>rfl
 |m=>rfl
 |it=>rfl
end
def NG:List V->Option (List D)
 |[]=>some []
 |.d x::r=>match NG r with
  |some l=>some (x::l)
  |none=>none
 |_=>none
def qf(cells:List V):V:=match NG cells with|some b=>.a b|none=>.g cells
def xN:∀{cells:List V} {a:List D},NG cells=some a->cells=a.map .d
 |[],a,h=>by cases h;rfl
 |x::r,a,h=>by
  unfold NG at h;split at h
  .cases‹_::_=[]›
  .next e f b=>
   cases b;split at h
   .next l c=>cases h;rw[xN c];rfl
   .cases h
  .cases h
def GV.norm{g:Gh}{h:bw}{w:World}{cells:List V}(A:GV g h w (.g cells) v):GV g h w (qf cells) v:=by
 unfold qf;split
 .next B H=>
  have:=xN H;subst this;cases A with
  |g _ C D N I=>
   have j:∀(i:Nat) x v,B[i]? =some x->C[i]? =some v->RD g.F w x v:=fun i x v J L=>by
    have:=I i (.d x) v (by rw[ai,J];rfl) L;cases this;assumption
   rw[aj]at D;refine .a B C D (fun v A=>?_) j;obtain⟨i,E⟩:=List.getElem?_of_mem A;have M:=(List.getElem?_eq_some_iff.1 E).1;exact(j i B[i] v (List.getElem?_eq_getElem (by omega)) E).one
 .exact A
def mr(fn:Fn)(a b:List V):V:=match NG a,NG b with
 |some x,some y=>.d (.f fn x y)
 |_,_=>.f fn a b
def GV.mr{g:Gh}{h:bw}{w:World}{fn:Fn}{a b:List V}{v:Value}(j:GV g h w (.f fn a b) v):GV g h w (mr fn a b) v:=by
 unfold Abs.mr;split
 .next x y C D=>
  have:=xN C;have:=xN D;subst a;subst b;cases j with
  |f _ _ _ E H A B I J=>
   rw[aj]at A B;refine .d _ _ (.f fn x y E H A B (fun i d v p q=>?_) (fun i d v p q=>?_))
   .have:=I i (.d d) v (by rw[ai,p];rfl) q;cases this;assumption
   .have:=J i (.d d) v (by rw[ai,p];rfl) q;cases this;assumption
 .exact j
def GV.Xy{g:Gh}{h:bw}{w:World}{cells:List D}(A:GV g h w (.a cells) v):∃j:List Value,v=.agg j.toArray/\j.length=cells.length/\(∀v∈j,v.oneCell'=true)/\∀(i:Nat) x v,cells[i]? =some x->j[i]? =some v->RD g.F w x v:=by
 cases A with
 |a _ j B C E=>exact⟨j,rfl,B,C,E⟩
def V.cells:V->List V
 |.g j=>j
 |.a j=>j.map .d
 |x=>[x]
def V.FG:V->Bool
 |.tu _=>false
 |_=>true
def GV.cells{g:Gh}{h:bw}{w:World}{x:V}{v:Value}(B:GV g h w x v)(E:x.FG=true):GL g h w x.cells v.cells.toList/\(∀y∈x.cells,y.one=true):=by
 by_cases A:x.one=true
 .have H:=B.one A;have I:v.cells=#[v]:=by cases v<;>first|rfl|cases H
  have J:x.cells=[x]:=by cases x<;>first|rfl|cases A
  rw[I,J];exact⟨GL.cons B GL.nil,by simpa using A⟩
 .cases B with
  |g cells L C D j=>exact⟨⟨C,j⟩,D⟩
  |a cells L C D j=>exact⟨GL.Xx C j,fun y M=>by obtain⟨d,_,rfl⟩:=List.mem_map.1 M;rfl⟩
  |tu=>cases E
  |_=>exact absurd rfl A
section
variable{P:Program}{t:TypeId}{ti:TI}
def nN(h:qe P t=some ti):∃i d z,P.info? t=some i/\P.underlying t=some d/\i.zero=some z/\eM d=ti.kind/\i.size=ti.size/\i.bytes=ti.bytes/\
 Dr z.cells.toList=some ti.zero/\ti.zero.length=ti.size/\Dq z=ti.kind.agg:=by
 unfold qe at h;split at h
 .next i d c e=>
  split at h
  .next z f=>
   split at h
   .next j a=>
    split at h
    .next b=>
     simp only[aK]at h;subst h;exact⟨i,d,z,c,e,f,rfl,rfl,rfl,a,b.1,b.2⟩
    .cases h
   .cases h
  .cases h
 .cases h
def dj(h:qe P t=some ti)(w:World):∃d,(underlying t).run P w=.ok d w/\eM d=ti.kind/\P.underlying t=some d:=by
 obtain⟨i,d,z,c,a,e,b,f,j,k,l,m⟩:=nN h;exact⟨d,by simp[underlying,program,Sem.run,a,bind,Sem.bind,pure],b,a⟩
def fq(h:qe P t=some ti)(w:World):(sizeOf t).run P w=.ok ti.size w:=by
 obtain⟨i,d,z,a,c,e,f,b,j,k,l,m⟩:=nN h;simp[sizeOf,typeInfo,a,b]
def Qq(h:qe P t=some ti)(w:World):∃i,(typeInfo t).run P w=.ok i w/\i.size=ti.size/\i.bytes=ti.bytes:=by
 obtain⟨i,d,z,a,e,f,j,b,c,k,l,m⟩:=nN h;exact⟨i,by simp[typeInfo,a],b,c⟩
def ms(h:qe P t=some ti)(w:World):∃z,(zeroValue t).run P w=.ok z w/\Dr z.cells.toList=some ti.zero/\Dq z=ti.kind.agg/\z.cells.size=ti.size:=by
 obtain⟨i,d,z,b,f,c,j,k,l,a,m,e⟩:=nN h;refine⟨z,by simp[zeroValue,typeInfo,b,c],a,e,?_⟩;have:=(mq a).1;rw[aH]at this;omega
def xO(h:qe P t=some ti)(w:World):(isAgg t).run P w=.ok ti.kind.agg w:=by
 obtain⟨d,a,b,_⟩:=dj h w;have:(isAgg t).run P w=.ok (eM d).agg w:=by
  simp only[isAgg,aB,a,Result.andThen_ok];cases d<;>rfl
 rw[this,b]
end
end
section
variable[de]
structure Out where
 x:V
 us:List (Nat×Option dX)
 n:Nat
def ft(h:bw)(a:List (Nat×Option dX)):bw:=a.foldl (fun h u=>up h u.1 u.2) h
def VS(P:Program)(s:Sem Value)(g:Gh)(h:bw)(w:World)(n:Nat)(o:Out):Prop:=
 ∃v a b,s.run P w=.ok v a/\GV b (ft h o.us) a o.x v/\Rel b (ft h o.us) a/\Ext g h w b (ft h o.us) a/\∀k,b.U k=true->g.U k=true\/(n<=k/\k<o.n)
def VS.pure{P:Program}{s:Sem Value}{g:Gh}{h:bw}{w:World}{x:V}(j:Rel g h w)(A:s.run P w=.ok v w)(B:GV g h w x v):VS P s g h w n ⟨x,[],n⟩:=
 ⟨v,w,g,A,B,j,Ext.refl _ _ _,fun _ h=>.inl h⟩
def lP(a b:Int):Bool:=Int.rec (fun a=>Int.rec (fun b=>Nat.ble a b) (fun _=>false) b) (fun a=>Int.rec (fun _=>true) (fun b=>Nat.ble b a) b) a
def tN(a b:Int):Bool:=Int.rec (fun a=>Int.rec (fun b=>Nat.ble (Nat.succ a) b) (fun _=>false) b) (fun a=>Int.rec (fun _=>true) (fun b=>Nat.ble (Nat.succ b) a) b) a
def AZ(a b:Int):Bool:=Int.rec (fun a=>Int.rec (fun b=>Nat.beq a b) (fun _=>false) b) (fun a=>Int.rec (fun _=>false) (fun b=>Nat.beq a b) b) a
def ry(a b:Nat):Nat.ble a b=decide (a<=b):=by
 cases h:Nat.ble a b with
 |true=>rw[bf (dQ h)]
 |false=>rw[aA];intro e;rw[xG e]at h;cases h
def lj(a b:Nat):Nat.beq a b=decide (a=b):=by
 by_cases e:a=b
 .subst e;simp
 .rw[aA e];cases hq:Nat.beq a b with
  |false=>rfl
  |true=>exact absurd (a6 hq) e
def jI(a b:Int):lP a b=decide (a<=b):=by
 cases a<;>cases b
 .show Nat.ble _ _=_;rw[ry];congr 1;simp
 .symm;apply aA;simp only[fB];omega
 .symm;apply bf;simp only[fB];omega
 .show Nat.ble _ _=_;rw[ry];congr 1;apply propext;constructor<;>intro h<;>omega
def lQ(a b:Int):tN a b=decide (a<b):=by
 cases a<;>cases b
 .show Nat.ble _ _=_;rw[ry];congr 1;apply propext;simp only[fB];constructor<;>intro h<;>omega
 .symm;apply aA;simp only[fB];omega
 .symm;apply bf;simp only[fB];omega
 .show Nat.ble _ _=_;rw[ry];congr 1;apply propext;constructor<;>intro h<;>omega
def mw(a b:Int):AZ a b=(a==b):=by
 have:(a==b)=decide (a=b):=by by_cases e:a=b<;>simp[e]
 rw[this];cases a<;>cases b
 .show Nat.beq _ _=_;rw[lj];congr 1;apply propext;simp only[fB];constructor<;>intro h<;>omega
 .symm;apply aA;simp
 .symm;apply aA;simp
 .show Nat.beq _ _=_;rw[lj];congr 1;simp
def Be(op:BinOp)(k:IntKind)(a:Int)(c:IntKind)(b:Int):Option D:=
 match op with
 |.shl=>if b<0 then none else some (.i k (k.wrap (a*2^(min b.toNat k.bits))))
 |.shr=>if b<0 then none else some (.i k (a.fdiv (2^(min b.toNat k.bits))))
 |.add=>if k=c then some (.i k (k.wrap (a+b)))else none
 |.sub=>if k=c then some (.i k (k.wrap (a-b)))else none
 |.mul=>if k=c then some (.i k (k.wrap (a*b)))else none
 |.quo=>if k=c then(if b=0 then none else some (.i k (k.wrap (a.tdiv b))))else none
 |.rem=>if k=c then(if b=0 then none else some (.i k (a.tmod b)))else none
 |.and=>if k=c then some (.i k (k.wrap (BitVec.ofInt k.bits a&&&BitVec.ofInt k.bits b).toNat))else none
 |.or=>if k=c then some (.i k (k.wrap (BitVec.ofInt k.bits a||| BitVec.ofInt k.bits b).toNat))else none
 |.xor=>if k=c then some (.i k (k.wrap (BitVec.ofInt k.bits a^^^BitVec.ofInt k.bits b).toNat))else none
 |.eql=>if k=c then some (.b (a==b))else none
 |.neq=>if k=c then some (.b (a !=b))else none
 |.lss=>if k=c then some (.b (a<b))else none
 |.leq=>if k=c then some (.b (a<=b))else none
 |.gtr=>if k=c then some (.b (a>b))else none
 |.geq=>if k=c then some (.b (a>=b))else none
 |_=>none
def num:D->Option (IntKind×Ex×Int×Int)
 |.i k n=>some (k,.c n,n,n)
 |.x k e a b=>some (k,e,a,b)
 |_=>none
def ym{d:D}{k:IntKind}{e:Ex}{a b:Int}(h:num d=some (k,e,a,b)){w:World}(c:RD F w d v):v=.int k e.val/\a<=e.val/\e.val<=b:=by
 unfold num at h;split at h
 .cases h;cases c;exact⟨rfl,kG _,kG _⟩
 .cases h;cases c;rename_i f i;exact⟨rfl,f,i⟩
 .cases h
def inR(k:IntKind)(a b:Int):Bool:=match k with
 |.i64=>lP (-9223372036854775808) a&&lP b 9223372036854775807
 |.i32=>lP (-2147483648) a&&lP b 2147483647
 |.u8=>lP 0 a&&lP b 255
 |.u32=>lP 0 a&&lP b 4294967295
 |.u64=>lP 0 a&&lP b 18446744073709551615
 |_=>false
def Qr{k:IntKind}{a b n:Int}(h:inR k a b=true)(d:a<=n)(e:n<=b):k.wrap n=n:=by
 unfold inR at h;split at h;all_goals first|cases h;done|skip
 all_goals
  simp only[ax,jI,cI]at h;unfold IntKind.wrap;simp only[IntKind.bits,IntKind.signed,nL,Bool.false_and]
 all_goals
  first
  |(split<;>(rename_i c;first|omega|(simp at c;omega)))
  |(rw[aI (by simp)];exact Int.emod_eq_of_lt (by omega) (by omega))
def Fz(k:IntKind)(e:Ex)(a b:Int):Option D:=bif inR k a b then some (bif AZ a b then .i k a else .x k e a b)else none
def nD{k:IntKind}{e:Ex}{a b:Int}{d:D}(h:Fz k e a b=some d)(f:a<=e.val)(j:e.val<=b):k.wrap e.val=e.val/\∀F w,RD F w d (.int k e.val):=by
 unfold Fz at h;cases c:inR k a b with
 |false=>rw[c]at h;cases h
 |true=>
  rw[c]at h;refine⟨Qr c f j,fun F w=>?_⟩;cases hq:AZ a b with
  |true=>
   rw[hq]at h;cases h;rw[mw]at hq;have:a=b:=by simpa using hq
   have:e.val=a:=by omega
   rw[this];exact .i _ _
  |false=>rw[hq]at h;cases h;exact .x _ _ _ _ f j
def Js(op:BinOp)(k:IntKind)(a:Ex)(e f:Int)(b:Ex)(c d:Int):Option D:=
 match op with
 |.add=>Fz k (.add a b) (Int.add e c) (Int.add f d)
 |.sub=>Fz k (.sub a b) (Int.sub e d) (Int.sub f c)
 |.mul=>bif lP 0 e&&lP 0 c then Fz k (.mul a b) (Int.mul e c) (Int.mul f d)else none
 |.quo=>bif lP 0 e&&tN 0 c&&AZ c d then Fz k (.div a b) (Int.tdiv e c) (Int.tdiv f c)else none
 |.rem=>bif lP 0 e&&tN 0 c&&AZ c d then Fz k (.mod a b) 0 (bif lP f (Int.sub c 1)then f else Int.sub c 1)else none
 |.eql=>bif tN f c||tN d e then some (.b false)else none
 |.neq=>bif tN f c||tN d e then some (.b true)else none
 |.lss=>bif tN f c then some (.b true)else bif lP d e then some (.b false)else none
 |.leq=>bif lP f c then some (.b true)else bif tN d e then some (.b false)else none
 |.gtr=>bif tN d e then some (.b true)else bif lP f c then some (.b false)else none
 |.geq=>bif lP d e then some (.b true)else bif tN f c then some (.b false)else none
 |_=>none
def BJ{a b c:Int}(d:0<=a)(h:a<=b)(e:0<c):a.tdiv c<=b.tdiv c:=by
 rw[Ua d,Int.tdiv_eq_ediv_of_nonneg (by omega)];exact Int.ediv_le_ediv e h
def Ut{k:IntKind}{a b:Ex}{p n c j:Int}{d:D}(h:Js op k a p n b c j=some d)(C:p<=a.val)(E:a.val<=n)(J:c<=b.val)(K:b.val<=j):
 ∃d0,Be op k a.val k b.val=some d0/\∀F w v,RD F w d0 v->RD F w d v:=by
 have fin:∀{e:Ex} {l m:Int},Fz k e l m=some d->l<=e.val->e.val<=m->∀F w v,RD F w (.i k (k.wrap e.val)) v->RD F w d v:=fun t x L F w v u=>by
  obtain⟨G,z⟩:=nD t x L;cases u;rw[G];exact z F w
 unfold Js at h;split at h
 .exact⟨_,aS rfl,fin h (by show p+c<=a.val+b.val;omega) (by show a.val+b.val<=n+j;omega)⟩
 .exact⟨_,aS rfl,fin h (by show p-j<=a.val-b.val;omega) (by show a.val-b.val<=n-c;omega)⟩
 .cases f:(lP 0 p&&lP 0 c)with
  |false=>rw[f]at h;cases h
  |true=>
   rw[f]at h;simp only[ax,jI,cI]at f;exact⟨_,aS rfl,fin h (Int.mul_le_mul C J f.2 (by omega)) (AV E K (by omega) (by omega))⟩
 .cases f:(lP 0 p&&tN 0 c&&AZ c j)with
  |false=>rw[f]at h;cases h
  |true=>
   rw[f]at h;simp only[ax,jI,lQ,mw,cI,fZ]at f;have y:b.val=c:=by omega
   have s:¬b.val=0:=by omega
   refine⟨.i k (k.wrap (a.val.tdiv b.val)),(by show(if k=k then(if b.val=0 then none else some (D.i k (k.wrap (a.val.tdiv b.val))))else none)=_;rw[aS rfl,aI s]),fin h ?_ ?_⟩
   .show p.tdiv c<=a.val.tdiv b.val;rw[y];exact BJ f.1.1 C f.1.2
   .show a.val.tdiv b.val<=n.tdiv c;rw[y];exact BJ (by omega) E f.1.2
 .cases f:(lP 0 p&&tN 0 c&&AZ c j)with
  |false=>rw[f]at h;cases h
  |true=>
   rw[f]at h;simp only[ax,jI,lQ,mw,cI,fZ]at f;have y:b.val=c:=by omega
   have s:¬b.val=0:=by omega
   have H:(Ex.mod a b).val=a.val.tmod c:=by show a.val.tmod b.val=_;rw[y]
   have I:a.val.tmod c=a.val % c:=Int.tmod_eq_emod_of_nonneg (by omega);have M:=Int.emod_nonneg a.val (b:=c) (by omega);have N:=Int.emod_lt_of_pos a.val f.1.2;have O:a.val % c<=a.val:=by
    have:=aah a.val c;have t:0<=a.val/c:=Int.ediv_nonneg (by omega) (by omega);have x:0<=c*(a.val/c):=Int.mul_nonneg (by omega) t;omega
   have A:0<=(Ex.mod a b).val:=by rw[H,I];exact M
   have B:(Ex.mod a b).val<=(bif lP n (Int.sub c 1)then n else Int.sub c 1):=by
    rw[H,I];cases lP n (Int.sub c 1)with
    |true=>show _<=n;omega
    |false=>show _<=c-1;omega
   obtain⟨G,z⟩:=nD h A B;exact⟨.i k (a.val.tmod b.val),(by show(if k=k then(if b.val=0 then none else some (D.i k (a.val.tmod b.val)))else none)=_;rw[aS rfl,aI s]),fun F w v u=>by cases u;exact z F w⟩
 all_goals first|cases h;done|skip
 all_goals
  simp only[lQ,jI,cond_eq_ite,fQ,cI]at h;have o:∀r:Bool,d=.b r->∀q:Bool,q=r->∀F w v,RD F w (.b q) v->RD F w d v:=fun r t q x F w v u=>by rw[t,<-x];exact u
  refine⟨_,aS rfl,?_⟩
 .split at h<;>cases h;exact o _ rfl _ (by simp;omega)
 .split at h<;>cases h;exact o _ rfl _ (by simp;omega)
 all_goals
  split at h
  .cases h;exact o _ rfl _ (by first|(apply bf;omega)|(apply aA;omega))
  .split at h
   .cases h;exact o _ rfl _ (by first|(apply bf;omega)|(apply aA;omega))
   .cases h
def FH:Sb->Sb->Option Bool
 |.c a,.c b=>some (Nat.beq a b)
 |.c a,.x _ d e=>bif Nat.ble d a&&Nat.ble a e then none else some false
 |.x _ d e,.c a=>bif Nat.ble d a&&Nat.ble a e then none else some false
 |.x _ d e,.x _ f i=>bif Nat.ble f e&&Nat.ble d i then none else some false
def Uh(a:List Sb):List Sb->Option Bool:=List.rec (fun b=>List.rec (some true) (fun _ _ _=>some false) b) (fun x _ ih b=>List.rec (some false) (fun y r _=>Option.rec (Option.rec none (fun q=>Bool.rec (some false) none q) (ih r)) (fun q=>Bool.rec (some false) (ih r) q) (FH x y)) b) a
def Dv{x y:Sb}(h:FH x y=some r){a b:UInt8}(c:x.ok a)(d:y.ok b):(a==b)=r:=by
 have ne:a.toNat≠b.toNat->(a==b)=false:=fun h=>by
  cases hq:a==b with
  |false=>rfl
  |true=>exact absurd (by rw[eq_of_beq hq]) h
 unfold FH at h;split at h
 .cases h;have c:a.toNat=_:=c;have d:b.toNat=_:=d;rw[<-c,<-d,lj];by_cases e:a.toNat=b.toNat
  .have:=UInt8.toNat.inj e;subst this;simp
  .rw[aA e];exact ne e
 all_goals
  revert h
  simp only[cond_eq_ite,ax,Nat.ble_eq];intro h;split at h
  .cases h
  .cases h;refine ne ?_;simp only[Sb.ok]at c d;omega
def yn:∀{x y:List Sb} {r:Bool},Uh x y=some r->∀{a b:List UInt8},SR x a->SR y b->(a==b)=r
 |[],[],r,h,a,b,c,d=>by
  cases h;have e:=c.len;have f:=d.len;rw[aD e,List.eq_nil_of_length_eq_zero f];rfl
 |[],y::j,r,h,a,b,c,d=>by
  cases h;have e:=c.len;have f:=d.len;rw[aD e];cases b with
  |nil=>cases f
  |cons=>rfl
 |x::k,[],r,h,a,b,c,d=>by
  cases h;have e:=c.len;have f:=d.len;rw[aD f];cases a with
  |nil=>cases e
  |cons=>rfl
 |x::k,y::j,r,h,a,b,c,d=>by
  have e:=c.len;have f:=d.len;cases a with
  |nil=>cases e
  |cons u a=>
   cases b with
   |nil=>cases f
   |cons t b=>
    have l:SR k a:=⟨by simpa using e,fun i x u o p=>c.at_ (i+1) x u o p⟩;have m:SR j b:=⟨by simpa using f,fun i x u o p=>d.at_ (i+1) x u o p⟩;have s:=c.at_ 0 x u rfl rfl;have v:=d.at_ 0 y t rfl rfl;have h:(Option.rec (Option.rec none (fun q=>Bool.rec (some false) none q) (Uh k j)) (fun q=>Bool.rec (some false) (Uh k j) q) (FH x y):Option Bool)=some r:=h;show(u==t&&(a==b))=r;cases hq:FH x y with
    |none=>
     rw[hq]at h;cases n:Uh k j with
     |none=>rw[n]at h;cases h
     |some q=>
      cases q with
      |true=>simp only[n]at h;cases h
      |false=>simp only[n]at h;cases h;rw[yn n l m];simp
    |some q=>
     rw[hq]at h;cases q with
     |false=>cases h;rw[Dv hq s v];rfl
     |true=>rw[Dv hq s v,yn h l m];rfl
def qg{α:Type}(l:List α):Nat:=List.rec 0 (fun _ _ n=>Nat.succ n) l
def ni{α:Type}(l:List α):qg l=l.length:=by induction l with
 |nil=>rfl
 |cons a l ih=>show Nat.succ (qg l)=_;rw[ih];rfl
def ig{α:Type}(a b:List α):List α:=List.rec b (fun x _ r=>x::r) a
def ll{α:Type}(a b:List α):ig a b=a++b:=by induction a with
 |nil=>rfl
 |cons x a ih=>show x::ig a b=_;rw[ih];rfl
def Uu(op:BinOp)(x y:List Sb):Option D:=
 match op with
 |.add=>bif Nat.ble (Nat.add (qg x) (qg y)) 1099511627776 then some (.s (ig x y))else none
 |.eql=>Option.rec none (fun r=>some (.b r)) (Uh x y)
 |.neq=>Option.rec none (fun r=>some (.b (Bool.rec true false r))) (Uh x y)
 |_=>none
def SR.append{x y:List Sb}{a b:List UInt8}(j:SR x a)(C:SR y b):SR (x++y) (a++b):=
 ⟨by simp[j.len,C.len],fun i z u A B=>by
  by_cases D:i<x.length
  .rw[an D]at A;rw[an (by rw[j.len];exact D)]at B;exact j.at_ i z u A B
  .rw[ay (by omega)]at A;rw[ay (by rw[j.len];omega),j.len]at B;exact C.at_ _ z u A B⟩
def Xz(h:bw)(a:TI):V->V->Option Bool
 |.d (.b x),.d (.b y)=>match a.kind with|.bool=>some (x==y)|_=>none
 |.d .np,.d .np=>match a.kind with|.ptr _=>some true|_=>none
 |.d .np,.p _ _ _=>match a.kind with|.ptr _=>some false|_=>none
 |.d .np,.d (.q _ _ _ _)=>match a.kind with|.ptr _=>some false|_=>none
 |.p _ _ _,.d .np=>match a.kind with|.ptr _=>some false|_=>none
 |.d (.q _ _ _ _),.d .np=>match a.kind with|.ptr _=>some false|_=>none
 |.d .z,.d .z=>match a.kind with|.sl _=>some true|_=>none
 |.d (.l _ (_::_)),.d .z=>match a.kind with|.sl _=>some false|_=>none
 |.t _ _ _ (_::_),.d .z=>match a.kind with|.sl _=>some false|_=>none
 |.f _ _ _,.d .nf=>match a.kind with|.func=>some false|_=>none
 |.d (.f _ _ _),.d .nf=>match a.kind with|.func=>some false|_=>none
 |.d .nf,.d .nf=>match a.kind with|.func=>some true|_=>none
 |_,_=>none
def Jt(h:bw)(j:gI)(op:BinOp)(t:TypeId)(x y:V):Option V:=
 match x,y with
 |.d (.i k a),.d (.i l b)=>(Be op k a l b).map .d
 |.d (.s a),.d (.s b)=>(Uu op a b).map .d
 |.d (.x k a o p),.d y=>match num y with
  |some (l,b,e,f)=>if k=l then(Js op k a o p b e f).map .d else none
  |none=>none
 |.d (.i k n),.d (.x l b e f)=>if k=l then(Js op k (.c n) n n b e f).map .d else none
 |x,y=>
  match op with
  |.eql=>(j t).bind fun m=>(Xz h m x y).map fun b=>.d (.b b)
  |.neq=>(j t).bind fun m=>(Xz h m x y).map fun b=>.d (.b !b)
  |_=>none
section
variable{P:Program}{g:Gh}{h:bw}{w:World}
def FI{k f:IntKind}{a b:Int}{d:D}(t:TypeId)(c:Be op k a f b=some d):∃v,(binOp op t (.int k a) (.int f b)).run P w=.ok v w/\RD g.F w d v:=by
 unfold Be at c;split at c;case h_1=>
  split at c
  .cases c
  .next e=>cases c;exact⟨_,by simp[binOp,Op.shift,e,pure],.i _ _⟩
 case h_2=>
  split at c
  .cases c
  .next e=>cases c;exact⟨_,by simp[binOp,Op.shift,e,pure],.i _ _⟩
 case h_17=>cases c
 all_goals
  split at c
  .next j=>
   subst j;first
   |(cases c;exact⟨_,by simp[binOp,Op.intArith,Op.intBits,Op.intCmp];rfl,by constructor⟩)
   |(
    split at c
    .cases c
    .next e=>cases c;exact⟨_,by simp[binOp,Op.intDiv,e];rfl,by constructor⟩)
  .cases c
def FJ{k:IntKind}{a b:Ex}{f i c e:Int}{d:D}(t:TypeId)(j:Js op k a f i b c e=some d)(l:f<=a.val)(m:a.val<=i)(n:c<=b.val)(o:b.val<=e):
 ∃v,(binOp op t (.int k a.val) (.int k b.val)).run P w=.ok v w/\RD g.F w d v:=by
 obtain⟨d0,p,q⟩:=Ut j l m n o;obtain⟨v,r,s⟩:=FI (P:=P) (g:=g) (w:=w) t p;exact⟨v,r,q _ _ _ s⟩
def Qs{x y:List Sb}{a b:ByteArray}(e:SR x a.data.toList)(f:SR y b.data.toList){d:D}(t:TypeId)(c:Uu op x y=some d):∃v,(binOp op t a b).run P w=.ok v w/\RD g.F w d v:=by
 unfold Uu at c;split at c
 .cases i:Nat.ble (Nat.add (qg x) (qg y)) 1099511627776 with
  |false=>rw[i]at c;cases c
  |true=>
   rw[i]at c;cases c;have j:=Nat.le_of_ble_eq_true i;rw[ni,ni]at j;have j:x.length+y.length<=1099511627776:=j;have l:a.size=x.length:=by rw[<-e.len];rfl
   have m:b.size=y.length:=by rw[<-f.len];rfl
   have k:¬((a.size+b.size:Nat):Int)>IntKind.i64.max:=by
    show¬_>(9223372036854775807:Int);omega
   refine⟨.string (a++b),?_,.s _ _ ?_⟩
   .have:binOp .add t a b=Op.stringOp .add a b:=rfl;rw[this];unfold Op.stringOp;simp only[aI k];rfl
   .rw[ll];have:(a++b).data.toList=a.data.toList++b.data.toList:=by simp[nB]
    rw[this];exact e.append f
 .cases hq:Uh x y with
  |none=>rw[hq]at c;cases c
  |some r=>
   rw[hq]at c;cases c;refine⟨.bool (a.toList==b.toList),rfl,?_⟩;rw[js,js,yn hq e f];exact .b _
 .cases hq:Uh x y with
  |none=>rw[hq]at c;cases c
  |some r=>
   rw[hq]at c;cases c;refine⟨.bool !(a.toList==b.toList),rfl,?_⟩;rw[js,js,yn hq e f];cases r<;>exact .b _
 .cases c
end
end
section
variable[de]
section
variable{P:Program}{g:Gh}{h:bw}{w:World}
def NH{d:TypeDesc}(c:(underlying t).run P w=.ok d w)(x y:Value)
 (
  hx:(match d,x,y with
  |.bool,.bool a,.bool b=>some (a==b)
  |.pointer _,.pointer none,.pointer b=>some b.isNone
  |.pointer _,.pointer (some _),.pointer none=>some false
  |.slice _,.slice none _ _,.slice b _ _=>some b.isNone
  |.slice _,.slice (some _) _ _,.slice none _ _=>some false
  |.func _ _ _,.nilFunc,.nilFunc=>some true
  |.func _ _ _,.func _ _ _,.nilFunc=>some false
  |_,_,_=>none)=some r):(Op.equal t x y).run P w=.ok r w:=by
 show(Op.equalIn (9999+1) t x y).run P w=_;unfold Op.equalIn;simp only[aB,c,Result.andThen_ok];split at hx<;>simp_all [pure]
def Uv{j:TI}{x y:V}(l:qe P t=some j)(b:Xz h j x y=some r)(f:GV g h w x v)(i:GV g h w y u):
 (Op.equal t v u).run P w=.ok r w:=by
 obtain⟨d,m,k,_⟩:=dj l w;refine NH m v u ?_;unfold Xz at b;split at b;all_goals try(split at b)
 all_goals try(cases b;done)
 all_goals
  next a=>
  cases b;rw[a]at k;cases d<;>simp[eM]at k;first
  |(cases f;rename_i c;cases i;rename_i e;cases c<;>cases e<;>rfl)
  |(cases f;rename_i c;cases i;cases c<;>rfl)
  |(cases f;cases i;rename_i e;cases e<;>rfl)
  |(cases f;rename_i c _;cases i;rename_i e;cases c;cases e;rfl)
def Dw{a b:Operand}(h1:(∀c,v≠.agg c)\/(∀c,u≠.agg c))(d:v≠.nilIface):(eqGuard op t a b v u).run P w=.ok () w:=by
 unfold eqGuard;split;all_goals simp only[Bool.not_true,Bool.not_false,ed,mU,iu]
 all_goals try rfl
 all_goals
  split
  .exact absurd rfl d
  .rcases h1 with h1|h1<;>exact absurd rfl (h1 _)
  .rfl
def Qt{p:gI}(H:dN P p){x y z:V}(f:Jt h p op t x y=some z)(B:GV g h w x v)(I:GV g h w y u)
 (a b:Operand):∃r,(do eqGuard op t a b v u;binOp op t v u:Sem Value).run P w=.ok r w/\GV g h w z r:=by
 have l:∀(s:Sem Value),((∀C,v≠.agg C)\/(∀C,u≠.agg C))->(v≠.nilIface)->(do eqGuard op t a b v u;s:Sem Value).run P w=s.run P w:=by
  intro s o j;have:=Dw (P:=P) (w:=w) (op:=op) (t:=t) (a:=a) (b:=b) o j;simp only[aB,this,aq]
 unfold Jt at f;split at f
 .next k J L D=>
  cases B with|d _ _ q=>cases I with|d _ _ E=>
  cases q;cases E;rw[l _ (.inl (by simp)) (by simp)];cases i:Be op k J L D with
  |none=>rw[i]at f;cases f
  |some d=>
   rw[i]at f;cases f;obtain⟨r,o,j⟩:=FI (P:=P) (g:=g) (w:=w) t i;exact⟨r,o,.d _ _ j⟩
 .next J D=>
  cases B with|d _ _ q=>cases I with|d _ _ E=>
  cases q;cases E;rename_i bx M Z N;rw[l _ (.inl (by simp)) (by simp)];cases i:Uu op J D with
  |none=>rw[i]at f;cases f
  |some d=>
   rw[i]at f;cases f;obtain⟨r,o,j⟩:=Qs (P:=P) (g:=g) (w:=w) M N t i;exact⟨r,o,.d _ _ j⟩
 .next k J lo hi y'=>
  cases B with|d _ _ q=>cases I with|d _ _ E=>
  cases q with|x _ _ _ _ a1 a2=>
  split at f
  .next L D F G hn=>
   obtain⟨rfl,O,Q⟩:=ym hn E;split at f
   .next e=>
    subst e;rw[l _ (.inl (by simp)) (by simp)];cases i:Js op k J lo hi D F G with
    |none=>rw[i]at f;cases f
    |some d=>
     rw[i]at f;cases f;obtain⟨r,o,j⟩:=FJ (P:=P) (g:=g) (w:=w) t i a1 a2 O Q;exact⟨r,o,.d _ _ j⟩
   .cases f
  .cases f
 .next k n L D F G=>
  cases B with|d _ _ q=>cases I with|d _ _ E=>
  cases q;cases E with|x _ _ _ _ O Q=>
  split at f
  .next e=>
   subst e;rw[l _ (.inl (by simp)) (by simp)];cases i:Js op k (.c n) n n D F G with
   |none=>rw[i]at f;cases f
   |some d=>
    rw[i]at f;cases f;obtain⟨r,o,j⟩:=FJ (P:=P) (g:=g) (w:=w) t i (Int.le_refl _) (Int.le_refl _) O Q;exact⟨r,o,.d _ _ j⟩
  .cases f
 .have K:∀r,(∃A,p t=some A/\Xz h A x y=some r)->(Op.equal t v u).run P w=.ok r w/\((∀C,v≠.agg C)\/(∀C,u≠.agg C))/\v≠.nilIface/\(∀k n,v≠.int k n)/\(∀s,v≠.string s)/\(∀k n,v≠.float k n)/\(∀k n m,v≠.complex k n m):=by
   rintro r ⟨A,o,j⟩;refine⟨Uv (H t A o) j B I,?_⟩;unfold Xz at j;split at j;all_goals try(split at j)
   all_goals try(cases j;done)
   all_goals
    first
    |(cases B;rename_i q;cases q<;>simp)
    |(cases B;simp)
    |(cases B;rename_i q _;cases q;simp)
  split at f
  .cases o:p t with
   |none=>rw[o]at f;cases f
   |some A=>
    rw[o]at f;simp only[aT]at f;cases j:Xz h A x y with
    |none=>rw[j]at f;cases f
    |some r=>
     rw[j]at f;cases f;obtain⟨R,S,T,U,W,X,Y⟩:=K r ⟨A,o,j⟩;rw[l _ S T];refine⟨r,?_,.d _ _ (.b _)⟩;have:binOp .eql t v u=(do pure (.bool (<-Op.equal t v u))):=by
      cases v<;>first|rfl|exact absurd rfl (U _ _)|exact absurd rfl (W _)|exact absurd rfl (X _ _)|exact absurd rfl (Y _ _ _)
     rw[this];simp only[aB,R,Result.andThen_ok];rfl
  .cases o:p t with
   |none=>rw[o]at f;cases f
   |some A=>
    rw[o]at f;simp only[aT]at f;cases j:Xz h A x y with
    |none=>rw[j]at f;cases f
    |some r=>
     rw[j]at f;cases f;obtain⟨R,S,T,U,W,X,Y⟩:=K r ⟨A,o,j⟩;rw[l _ S T];refine⟨.bool !r,?_,.d _ _ (.b _)⟩;have:binOp .neq t v u=(do pure (.bool (!(<-Op.equal t v u)))):=by
      cases v<;>first|rfl|exact absurd rfl (U _ _)|exact absurd rfl (W _)|exact absurd rfl (X _ _)|exact absurd rfl (Y _ _ _)
     rw[this];simp only[aB,R,Result.andThen_ok];rfl
  .cases f
end
end
section
variable[de]
def xu(a:Operand->Option V):List Operand->Option (List V)
 |[]=>some []
 |x::b=>match a x,xu a b with
  |some v,some c=>some (v::c)
  |_,_=>none
def LN(c:V)(a b:Option V):Option V:=
 match c with
 |.d (.b x)=>match a,b with
  |some (.d (.b y)),some (.d (.b z))=>some (.d (.b (bif x then y else z)))
  |a,b=>bif x then a else b
 |_=>none
def unV(op:UnOp)(x:V):Option V:=
 match op,x with
 |.neg,.d (.i k n)=>some (.d (.i k (k.wrap (0-n))))
 |.neg,.d (.x k e a f)=>(Fz k (.sub (.c 0) e) (Int.sub 0 f) (Int.sub 0 a)).map .d
 |.xor,.d (.i k n)=>some (.d (.i k (k.wrap (BitVec.ofInt k.bits (if k.signed then-1 else k.max)^^^BitVec.ofInt k.bits n).toNat)))
 |.not,.d (.b x)=>some (.d (.b !x))
 |_,_=>none
def Ju(agg:Bool)(size:Nat)(r:List V)(j:Nat):Option V:=
 bif agg then(if j+size<=r.length then some (qf ((r.drop j).take size))else none)else r[j]?
def Jv(agg:Bool)(size:Nat)(r:List D)(j:Nat):Option V:=
 bif agg then(if j+size<=r.length then some (.a ((r.drop j).take size))else none)else(r[j]?).map .d
def nO(tab:gI)(h:bw)(t:TypeId)(a:V):Option V:=
 (tab t).bind fun c=>match a with
 |.p k i j=>match h k with
  |some (.row _ b _)=>(b[i]?).bind fun r=>Ju c.kind.agg c.size r j
  |_=>none
 |.d (.q _ b i j)=>(b[i]?).bind fun r=>Jv c.kind.agg c.size r j
 |_=>none
def Dx(tab:gI)(t:TypeId)(x:V)(f:Nat):Option V:=
 match tab t,x with
 |some ⟨.st c,_,_,_⟩,.g cells=>(c[f]?).bind fun u=>(tab u.1).bind fun b=>Ju b.kind.agg b.size cells u.2
 |some ⟨.st c,_,_,_⟩,.a cells=>(c[f]?).bind fun u=>(tab u.1).bind fun b=>Jv b.kind.agg b.size cells u.2
 |_,_=>none
def Dy(tab:gI)(s:TypeId)(a:V)(f:Nat):Option V:=
 match tab s with
 |some ⟨.st c,_,_,_⟩=>(c[f]?).bind fun u=>(tab u.1).bind fun e=>bif Nat.beq e.size 0 then none else
  match a with
  |.p k i j=>some (.p k i (j+u.2))
  |.d (.q sz b i j)=>some (.d (.q sz b i (j+u.2)))
  |_=>none
 |_=>none
def sO(tab:gI)(h:bw)(t:TypeId)(x c:V):Option V:=
 match tab t,c with
 |some ⟨.sl e,_,_,_⟩,.d (.i _ i)=>(tab e).bind fun b=>
  match x with
  |.d (.l sz a)=>if(0<=i/\i<a.length)/\b.size=sz then some (.d (.q sz a i.toNat 0))else none
  |.t _ _ sz a=>if(0<=i/\i<a.length)/\b.size=sz then some (.d (.q sz a i.toNat 0))else none
  |.v k f n=>match h k with
   |some (.row sz _ _)=>if(0<=i/\i<n)/\b.size=sz then some (.p k (f+i.toNat) 0)else none
   |_=>none
  |_=>none
 |some ⟨.arr n e,_,_,_⟩,.d (.i _ i)=>(tab e).bind fun b=>if 0<=i/\i<n then
  match x with
  |.p k r j=>some (.p k r (j+i.toNat*b.size))
  |.d (.q sz a r j)=>some (.d (.q sz a r (j+i.toNat*b.size)))
  |_=>none
  else none
 |_,_=>none
def sbD:Sb->D
 |.c n=>.i .u8 n
 |.x e a b=>.x .u8 e a b
def Jw{x:Sb}{u:UInt8}(h:x.ok u){w:World}:RD F w (sbD x) (.int .u8 u.toNat):=by
 cases x with
 |c n=>
  have h:u.toNat=n:=h;rw[h];exact .i _ _
 |x e b d=>
  obtain⟨a,f,j⟩:=h;rw[a];exact .x _ _ _ _ (by omega) (by omega)
def Dz(tab:gI)(t:TypeId)(x f:V):Option V:=
 match x,f with
 |.d (.s s),.d (.i _ i)=>match tab t with
  |some ⟨.str,_,_,_⟩=>if 0<=i then(s[i.toNat]?).map fun b=>.d (sbD b)else none
  |_=>none
 |.g cells,.d (.i _ i)=>match tab t with
  |some ⟨.arr n e,_,_,_⟩=>(tab e).bind fun c=>if 0<=i/\i<n then Ju c.kind.agg c.size cells (i.toNat*c.size)else none
  |_=>none
 |.a cells,.d (.i _ i)=>match tab t with
  |some ⟨.arr n e,_,_,_⟩=>(tab e).bind fun c=>if 0<=i/\i<n then Jv c.kind.agg c.size cells (i.toNat*c.size)else none
  |_=>none
 |_,_=>none
def NI(tab:gI)(t:TypeId)(x:V):Option V:=
 match tab t,x with
 |some ⟨.str,_,_,_⟩,.d (.s s)=>some (.d (.i .i64 s.length))
 |some ⟨.sl _,_,_,_⟩,.d .z=>some (.d (.i .i64 0))
 |some ⟨.sl _,_,_,_⟩,.d (.l _ a)=>some (.d (.i .i64 a.length))
 |some ⟨.sl _,_,_,_⟩,.t _ _ _ a=>some (.d (.i .i64 a.length))
 |some ⟨.sl _,_,_,_⟩,.v _ _ n=>some (.d (.i .i64 n))
 |some ⟨.arr n _,_,_,_⟩,_=>some (.d (.i .i64 n))
 |_,_=>none
def FK(x y:D):Option D:=match x,y with
 |.i k a,.i _ b=>some (.i k (bif tN a b then b else a))
 |x,y=>match num x,num y with
  |some (k,a,e,f),some (_,b,c,d)=>bif lP d e then Fz k a e f else bif lP f c then Fz k b c d else Fz k (.max a b) (bif lP e c then c else e) (bif lP f d then d else f)
  |_,_=>none
def FM(x y:D):Option D:=match x,y with
 |.i k a,.i _ b=>some (.i k (bif tN b a then b else a))
 |x,y=>match num x,num y with
  |some (k,a,e,f),some (_,b,c,d)=>bif lP f c then Fz k a e f else bif lP d e then Fz k b c d else Fz k (.min a b) (bif lP e c then e else c) (bif lP f d then f else d)
  |_,_=>none
def Qu{x y d:D}(h:FK x y=some d){w:World}(l:RD F w x v)(m:RD F w y u){P:Program}:∃r,(Builtin.max2 v u).run P w=.ok r w/\RD F w d r:=by
 unfold FK at h;split at h
 .cases h;cases l;cases m;refine⟨_,rfl,?_⟩;rw[lQ];split
  .next h=>rw[bf h];exact .i _ _
  .next h=>rw[aA h];exact .i _ _
 .split at h
  .next k a n o G b c f p q=>
   obtain⟨rfl,s,t⟩:=ym p l;obtain⟨rfl,z,A⟩:=ym q m;refine⟨_,rfl,?_⟩;simp only[jI,cond_eq_ite,cI]at h;split at h
   .next B=>
    obtain⟨_,j⟩:=nD h s t;rw[aI (by omega)];exact j F w
   .split at h
    .next B=>
     obtain⟨_,j⟩:=nD h z A;have:(if b.val>a.val then b.val else a.val)=b.val:=by split<;>omega
     rw[this];exact j F w
    .have e:(Ex.max a b).val=if b.val>a.val then b.val else a.val:=rfl;have C:(if n<=c then c else n)<=(Ex.max a b).val:=by rw[e];split<;>split<;>omega
     have E:(Ex.max a b).val<=(if o<=f then f else o):=by rw[e];split<;>split<;>omega
     obtain⟨_,j⟩:=nD h C E;exact j F w
  .cases h
def Qv{x y d:D}(h:FM x y=some d){w:World}(l:RD F w x v)(m:RD F w y u){P:Program}:∃r,(Builtin.min2 v u).run P w=.ok r w/\RD F w d r:=by
 unfold FM at h;split at h
 .cases h;cases l;cases m;refine⟨_,rfl,?_⟩;rw[lQ];split
  .next h=>rw[bf h];exact .i _ _
  .next h=>rw[aA h];exact .i _ _
 .split at h
  .next k a n o G b c f p q=>
   obtain⟨rfl,s,t⟩:=ym p l;obtain⟨rfl,z,A⟩:=ym q m;refine⟨_,rfl,?_⟩;simp only[jI,cond_eq_ite,cI]at h;split at h
   .next B=>
    obtain⟨_,j⟩:=nD h s t;rw[aI (by omega)];exact j F w
   .split at h
    .next B=>
     obtain⟨_,j⟩:=nD h z A;have:(if b.val<a.val then b.val else a.val)=b.val:=by split<;>omega
     rw[this];exact j F w
    .have e:(Ex.min a b).val=if b.val<a.val then b.val else a.val:=rfl;have C:(if n<=c then n else c)<=(Ex.min a b).val:=by rw[e];split<;>split<;>omega
     have E:(Ex.min a b).val<=(if o<=f then o else f):=by rw[e];split<;>split<;>omega
     obtain⟨_,j⟩:=nD h C E;exact j F w
  .cases h
def Uw:D->List V->Option V
 |x,[]=>some (.d x)
 |x,.d y::r=>(FK x y).bind fun z=>Uw z r
 |_,_=>none
def Ux:D->List V->Option V
 |x,[]=>some (.d x)
 |x,.d y::r=>(FM x y).bind fun z=>Ux z r
 |_,_=>none
def Uy:List V->Option V
 |.d x::r=>Uw x r
 |_=>none
def Uz:List V->Option V
 |.d x::r=>Ux x r
 |_=>none
def LO:D->Option (List Sb)
 |.i _ n=>bif lP 0 n&&tN n 128 then some [.c n.toNat]else none
 |.x _ e a b=>bif lP 0 a&&tN b 128 then some [.x e a.toNat b.toNat]else none
 |_=>none
def oL{n:Int}(b:0<=n)(c:n<128):(Utf8.encode n).data.toList=[UInt8.ofNat n.toNat]:=by
 have a:Utf8.valid n=true:=by unfold Utf8.valid;simp;omega
 unfold Utf8.encode;simp only[a,if_true];rw[aS (by omega)]
def Qw{d:D}{l:List Sb}(h:LO d=some l){w:World}(m:RD F w d v):∃k n,v=.int k n/\SR l (Utf8.encode n).data.toList/\0<=n/\n<128:=by
 have b:∀n:Int,0<=n->n<128->(UInt8.ofNat n.toNat).toNat=n.toNat:=fun n p c=>by
  simp only[jB];omega
 unfold LO at h;split at h
 .next k n=>
  cases m;cases a:(lP 0 n&&tN n 128)with
  |false=>rw[a]at h;cases h
  |true=>
   rw[a]at h;cases h;simp only[ax,jI,lQ,cI]at a;refine⟨_,_,rfl,?_,a.1,a.2⟩;rw[oL a.1 a.2];refine⟨rfl,fun i x u c j=>?_⟩;have f:i=0:=by have:=(aa.1 c).1;simp at this;omega
   subst f;cases c;cases j;exact b n a.1 a.2
 .next k e o f=>
  cases m with|x _ _ _ _ q r=>
  cases a:(lP 0 o&&tN f 128)with
  |false=>rw[a]at h;cases h
  |true=>
   rw[a]at h;cases h;simp only[ax,jI,lQ,cI]at a;refine⟨_,_,rfl,?_,by omega,by omega⟩;rw[oL (by omega) (by omega)];refine⟨rfl,fun i x u c j=>?_⟩;have f:i=0:=by have:=(aa.1 c).1;simp at this;omega
   subst f;cases c;cases j;have:=b e.val (by omega) (by omega);exact⟨by omega,by omega,by omega⟩
 .cases h
def yo(tab:gI)(src a:TypeId)(x:V):Option V:=
 match tab src,tab a,x with
 |some ⟨.int _,_,_,_⟩,some ⟨.int k,_,_,_⟩,.d (.i _ n)=>some (.d (.i k (k.wrap n)))
 |some ⟨.int _,_,_,_⟩,some ⟨.int k,_,_,_⟩,.d (.x _ e b c)=>(Fz k e b c).map .d
 |some ⟨.int _,_,_,_⟩,some ⟨.str,_,_,_⟩,.d d=>(LO d).map fun l=>.d (.s l)
 |some ⟨.str,_,_,_⟩,some ⟨.str,_,_,_⟩,.d (.s s)=>some (.d (.s s))
 |_,_,_=>none
section
variable{P:Program}{g:Gh}{h:bw}{w:World}{tab:gI}
def qh{c:Operand->Option V}{ρ:Operand->Value}(d:∀o x,c o=some x->GV g h w x (ρ o)):∀{l:List Operand} {b:List V},xu c l=some b->GL g h w b (l.map ρ)
 |[],b,a=>by cases a;exact GL.nil
 |o::l,b,a=>by
  unfold xu at a;split at a
  .next v i e f=>cases a;exact GL.cons (d o v e) (qh d f)
  .cases a
def Qx{c:V}{a b:Option V}{x:V}(e:LN c a b=some x){l f i:Value}(o:GV g h w c l)(m:∀y,a=some y->GV g h w y f)(n:∀y,b=some y->GV g h w y i):
 ∃v,(do pure (Next.value (if<-asBool l then f else i)):Sem Next).run P w=.ok (.value v) w/\GV g h w x v:=by
 unfold LN at e;split at e
 .next t=>
  cases o;rename_i p;cases p;refine⟨if t then f else i,rfl,?_⟩;split at e
  .next y z=>
   cases e;have j:=m _ rfl;have k:=n _ rfl;cases j;rename_i j;cases j;cases k;rename_i k;cases k;cases t<;>exact .d _ _ (.b _)
  .cases t
   .exact n _ e
   .exact m _ e
 .cases e
def X9{op:UnOp}{x y:V}(a:unV op x=some y)(f:GV g h w x v):∃u,(Op.unary op v).run P w=.ok u w/\GV g h w y u:=by
 unfold unV at a;split at a
 .cases a;cases f;rename_i b;cases b;exact⟨_,rfl,.d _ _ (by constructor)⟩
 .next k e l m=>
  cases i:Fz k (.sub (.c 0) e) (Int.sub 0 m) (Int.sub 0 l)with
  |none=>rw[i]at a;cases a
  |some d=>
   rw[i]at a;cases a;cases f with|d _ _ b=>
   cases b with|x _ _ _ _ p q=>
   have j:(Ex.sub (.c 0) e).val=0-e.val:=rfl;obtain⟨n,o⟩:=nD i (by rw[j];show 0-m<=_;omega) (by rw[j];show _<=0-l;omega);rw[j]at n o;refine⟨.int k (k.wrap (0-e.val)),rfl,.d _ _ ?_⟩;rw[n];exact o _ _
 .cases a;cases f;rename_i b;cases b;exact⟨_,rfl,.d _ _ (by constructor)⟩
 .cases a;cases f;rename_i b;cases b;exact⟨_,rfl,.d _ _ (by constructor)⟩
 .cases a
def FO{u:TypeId}{c:TI}(f:qe P u=some c){cells:List V}{d:List Value}(i:GL g h w cells d)(k:∀x∈cells,x.one=true){x:V}
 (b:Ju c.kind.agg c.size cells a=some x):∃v,(part u d.toArray a).run P w=.ok v w/\GV g h w x v:=by
 unfold Ju at b;unfold part;simp only[aB,xO f,Result.andThen_ok];cases j:c.kind.agg with
 |true=>
  rw[j]at b;simp only[LI]at b;split at b
  .next l=>
   cases b;simp only[iu,aB,fq f,Result.andThen_ok];refine⟨.agg ((d.drop a).take c.size).toArray,?_,?_⟩
   .simp[pure,List.take_drop,fC]
   .have e:=(i.drop a).take c.size;exact(GV.g _ _ e.len (fun y m=>k y (List.mem_of_mem_drop (bz m))) e.at_).norm
  .cases b
 |false=>
  rw[j]at b;simp only[rj]at b;obtain⟨v,e,n⟩:=i.get b;refine⟨v,?_,n⟩;simp only[ed,mU];have:d.toArray[a]? =some v:=by simpa using e
  rw[this];rfl
def BK{u:TypeId}{f:TI}(n:qe P u=some f){cells:List D}{e:List Value}(q:e.length=cells.length)(r:∀v∈e,v.oneCell'=true)(o:∀(i:Nat) x v,cells[i]? =some x->e[i]? =some v->RD g.F w x v){x:V}
 (c:Jv f.kind.agg f.size cells b=some x):∃v,(part u e.toArray b).run P w=.ok v w/\GV g h w x v:=by
 unfold Jv at c;unfold part;simp only[aB,xO n,Result.andThen_ok];cases p:f.kind.agg with
 |true=>
  rw[p]at c;simp only[LI]at c;split at c
  .next s=>
   cases c;simp only[iu,aB,fq n,Result.andThen_ok];refine⟨.agg ((e.drop b).take f.size).toArray,?_,?_⟩
   .simp[pure,List.take_drop,fC]
   .refine .a _ _ (by simp[q]) (fun v k=>r v (List.mem_of_mem_drop (bz k))) fun i x v j m=>?_;rw[br]at j m;split at j
    .next t=>
     rw[aS t,List.getElem?_drop]at m;rw[bd]at j;exact o _ x v j m
    .cases j
  .cases c
 |false=>
  rw[p]at c;simp only[rj]at c;cases l:cells[b]? with
  |none=>rw[l]at c;cases c
  |some d=>
   rw[l]at c;cases c;have y:=(List.getElem?_eq_some_iff.1 l).1;have k:e[b]? =some e[b]:=List.getElem?_eq_getElem (by omega);refine⟨e[b],?_,.d _ _ (o b d _ l k)⟩;simp only[ed,mU];have:e.toArray[b]? =some e[b]:=by simpa using k
   rw[this];rfl
def NJ(j:dN P tab){x y:V}(c:Dx tab t x f=some y)(B:GV g h w x v):∃u,(Instr.field t v f).run P w=.ok u w/\GV g h w y u:=by
 unfold Dx at c;split at c
 .next l size bytes zero cells m=>
  obtain⟨C,rfl,n,o⟩:=B.Du;obtain⟨d,p,k,q⟩:=dj (j t _ m) w;cases a:l[f]? with
  |none=>rw[a]at c;cases c
  |some u=>
   rw[a]at c;simp only[aT]at c;cases i:tab u.1 with
   |none=>rw[i]at c;cases c
   |some D=>
    rw[i]at c;simp only[aT]at c;cases d<;>simp[eM]at k;next e=>
    subst k;rw[ai]at a;cases b:e[f]? with
    |none=>rw[<-az]at b;rw[b]at a;cases a
    |some E=>
     rw[<-az]at b;rw[b]at a;simp only[cj,aK]at a;subst a;obtain⟨r,s,z⟩:=FO (P:=P) (j _ _ i) n o c;refine⟨r,?_,z⟩;unfold Instr.field;rw[az]at b;simp only[aB,p,Result.andThen_ok,b,asAgg,cH];exact s
 .next l size bytes zero cells m=>
  obtain⟨C,rfl,A,o,n⟩:=B.Xy;obtain⟨d,p,k,q⟩:=dj (j t _ m) w;cases a:l[f]? with
  |none=>rw[a]at c;cases c
  |some u=>
   rw[a]at c;simp only[aT]at c;cases i:tab u.1 with
   |none=>rw[i]at c;cases c
   |some D=>
    rw[i]at c;simp only[aT]at c;cases d<;>simp[eM]at k;next e=>
    subst k;rw[ai]at a;cases b:e[f]? with
    |none=>rw[<-az]at b;rw[b]at a;cases a
    |some E=>
     rw[<-az]at b;rw[b]at a;simp only[cj,aK]at a;subst a;obtain⟨r,s,z⟩:=BK (P:=P) (h:=h) (j _ _ i) A o n c;refine⟨r,?_,z⟩;unfold Instr.field;rw[az]at b;simp only[aB,p,Result.andThen_ok,b,asAgg,cH];exact s
 .cases c
end
end
section
variable[de]
section
variable{P:Program}{g:Gh}{h:bw}{w:World}{tab:gI}
def UA(w:World)(v:Value)(d:List Value):Prop:=∃b a c t e,v=.pointer (some ⟨b,a,none⟩)/\w.heap[b]? =some (.cells c t e)/\a+d.length<=c.size/\∀(j:Nat) x,d[j]? =some x->c[a+j]? =some x
def add_mid(b a j:Nat):((b,a):Addr).add j=(b,a+j):=by unfold Addr.add;split<;>simp_all
def NK{e:TI}(s:qe P t=some e){n:List Value}(C:UA w v n){r:List V}(q:GL g h w r n)(D:∀x∈r,x.one=true){x:V}
 (f:Ju e.kind.agg e.size r j=some x)(E:v=.pointer (b,a)):∃u,(Instr.loadAt t (.pointer (b,a+j))).run P w=.ok u w/\GV g h w x u:=by
 obtain⟨M,z,c,F,G,A,H,N,I⟩:=C;rw[E]at A;cases A;have d:∀(i:Nat) y,n[i]? =some y->w.cell? (b,a+i)=some y:=fun i y k=>by
  rw[jG w b _ c F G H];exact I i y k
 unfold Ju at f;have m:(Instr.sureAddr (.pointer (b,a+j))).run P w=.ok (b,a+j) w:=rfl;unfold Instr.loadAt;simp only[aB,m,Result.andThen_ok];unfold loadVar;simp only[aB,xO s,Result.andThen_ok];cases B:e.kind.agg with
 |true=>
  rw[B]at f;simp only[LI]at f;split at f
  .next J=>
   cases f;have o:=(q.drop j).take e.size;simp only[iu,aB,fq s,Result.andThen_ok];have p:((n.drop j).take e.size).length=e.size:=by
    rw[aN,cS,q.len];omega
   have l:=run_loadCells_list (P:=P) w (b,a+j) ((n.drop j).take e.size) (fun i y k=>by
    rw[add_mid,cZ];refine d (j+i) y ?_;rw[br]at k;split at k
    .rw[bd]at k;exact k
    .cases k)
   rw[p]at l;refine⟨.agg ((n.drop j).take e.size).toArray,by rw[l];rfl,?_⟩;exact(GV.g _ _ o.len (fun y k=>D y (List.mem_of_mem_drop (bz k))) o.at_).norm
  .cases f
 |false=>
  rw[B]at f;simp only[rj]at f;obtain⟨y,K,L⟩:=q.get f;refine⟨y,?_,L⟩;simp only[ed,mU];show(Sem.load .plain _ .pure).run P w=_;simp only[Sem.run,d j y K]
def Jx{m:TI}(H:qe P t=some m)(L:UA w v l){r:List D}(C:l.length=r.length)(E:∀(i:Nat) x v,r[i]? =some x->l[i]? =some v->RD g.F w x v){x:V}
 (f:Jv m.kind.agg m.size r j=some x){e:Nat}(G:v=.pointer (b,e)):∃u,(Instr.loadAt t (.pointer (b,e+j))).run P w=.ok u w/\GV g h w x u:=by
 obtain⟨W,I,c,M,N,n,A,X,O⟩:=L;rw[G]at n;cases n;have k:∀(i:Nat) y,l[i]? =some y->w.cell? (b,e+i)=some y:=fun i y s=>by
  rw[jG w b _ c M N A];exact O i y s
 unfold Jv at f;have z:(Instr.sureAddr (.pointer (b,e+j))).run P w=.ok (b,e+j) w:=rfl;unfold Instr.loadAt;simp only[aB,z,Result.andThen_ok];unfold loadVar;simp only[aB,xO H,Result.andThen_ok];cases J:m.kind.agg with
 |true=>
  rw[J]at f;simp only[LI]at f;split at f
  .next Q=>
   cases f;simp only[iu,aB,fq H,Result.andThen_ok];have o:((l.drop j).take m.size).length=m.size:=by
    rw[aN,cS,C];omega
   have p:=run_loadCells_list (P:=P) w (b,e+j) ((l.drop j).take m.size) (fun i y s=>by
    rw[add_mid,cZ];refine k (j+i) y ?_;rw[br]at s;split at s
    .rw[bd]at s;exact s
    .cases s)
   rw[o]at p;refine⟨.agg ((l.drop j).take m.size).toArray,by rw[p];rfl,?_⟩;refine .a _ _ (by rw[o,List.length_take,cS];omega) (fun v G=>?_) fun i x v n A=>?_
   .have R:=List.mem_of_mem_drop (bz G);obtain⟨q,hq⟩:=List.getElem?_of_mem R;have S:=(List.getElem?_eq_some_iff.1 hq).1;exact(E q r[q] v (List.getElem?_eq_getElem (by omega)) hq).one
   .rw[br]at n A;split at n
    .next T=>
     rw[aS T,List.getElem?_drop]at A;rw[bd]at n;exact E _ x v n A
    .cases n
  .cases f
 |false=>
  rw[J]at f;simp only[rj]at f;cases B:r[j]? with
  |none=>rw[B]at f;cases f
  |some d=>
   rw[B]at f;cases f;have U:=(List.getElem?_eq_some_iff.1 B).1;have K:l[j]? =some l[j]:=List.getElem?_eq_getElem (by omega);refine⟨l[j],?_,.d _ _ (E j d _ B K)⟩;simp only[ed,mU];show(Sem.load .plain _ .pure).run P w=_;simp only[Sem.run,k j _ K]
def RD.FP{A:List (List D)}(E:RD F w (.q sz A i j) v):∃b B c t C,v=.pointer (some ⟨b,B+i*sz+j,none⟩)/\w.heap[b]? =some (.cells c t C)/\B+A.length*sz<=F b/\F b<=c.size/\
 (∀r∈A,r.length=sz)/\(∀(i:Nat) r (j:Nat) d v,A[i]? =some r->r[j]? =some d->c[B+i*sz+j]? =some v->RD F w d v):=by
 cases E with
 |q sz A i j b B c t C H I J L h=>exact⟨b,B,c,t,C,rfl,H,I,J,L,h⟩
def RD.qi{A:List (List D)}(E:RD F w (.l sz A) v):(A=[]/\v=zn)\/∃b B cap c t C,v=.slice (some ⟨b,B,none⟩) A.length cap/\w.heap[b]? =some (.cells c t C)/\B+A.length*sz<=F b/\F b<=c.size/\
 B+cap*sz<=c.size/\A.length<=cap/\(∀r∈A,r.length=sz)/\(∀(i:Nat) r (j:Nat) d v,A[i]? =some r->r[j]? =some d->c[B+i*sz+j]? =some v->RD F w d v):=by
 cases E with
 |lz sz=>exact .inl ⟨rfl,rfl⟩
 |l sz A b B cap c t C H I J L M N h=>exact .inr ⟨b,B,cap,c,t,C,rfl,H,I,J,L,M,N,h⟩
def GV.cG{x:D}(j:GV g h w (.d x) v):RD g.F w x v:=by cases j;assumption
def GV.sB(A:GV g h w (.p k i j) v):g.U k=true/\∃b sz,g.σ k=some (b,sz)/\v=.pointer (some ⟨b,i*sz+j,none⟩):=by
 cases A with
 |p k i j b sz B C=>exact⟨B,b,sz,C,rfl⟩
def GV.tO{e:Nat}{j:List (List D)}(A:GV g h w (.t k e sz j) v):g.U k=true/\RD g.F w (.l sz j) v/\(∀n,h k=some (.tok n)->e<=n/\(e=n->Us g w k sz v)):=by
 cases A with
 |t k e sz j v B C E=>exact⟨B,C,E⟩
def GV.pq(D:GV g h w (.v k j n) v):g.U k=true/\((j=0/\n=0/\g.σ k=none/\v=zn)\/(n=0/\∃a,v=.slice (some a) 0 0)\/
 ∃b sz cap c t B,g.σ k=some (b,sz)/\v=.slice (some ⟨b,j*sz,none⟩) n cap/\w.heap[b]? =some (.cells c t B)/\(j+cap)*sz<=c.size/\n<=cap):=by
 cases D with
 |vn k A C=>exact⟨A,.inl ⟨rfl,rfl,C,rfl⟩⟩
 |ve k j a A=>exact⟨A,.inr (.inl ⟨rfl,a,rfl⟩)⟩
 |v k j n b sz cap c t B A C E H I=>exact⟨A,.inr (.inr ⟨b,sz,cap,c,t,B,C,rfl,E,H,I⟩)⟩
def UB{a:List (List V)}{f:Bool}(n:jP g h w k (.row sz a f)){r:List V}(l:a[i]? =some r):
 ∃b o,g.σ k=some (b,sz)/\GL g h w r o/\UA w (.pointer (some ⟨b,i*sz,none⟩)) o/\(∀x∈r,x.one=true)/\r.length=sz:=by
 cases n with
 |nilvec sz p=>simp at l
 |row sz a f b c t p q A s B C n u=>
  have y:=(List.getElem?_eq_some_iff.1 l).1;have m:=s r (List.mem_of_getElem? l);have z:(i+1)*sz<=a.length*sz:=Nat.mul_le_mul_right _ y;rw[bp]at z;refine⟨b,(c.toList.drop (i*sz)).take sz,p,⟨?_,?_⟩,⟨b,i*sz,c,t,(0,0),rfl,q,?_,?_⟩,n r (List.mem_of_getElem? l),m⟩
  .rw[aN,cS,aH];omega
  .intro j x v e d;refine u i r j x v l e ?_;rw[br]at d;split at d
   .rw[bd,az]at d;exact d
   .cases d
  .rw[aN,cS,aH];omega
  .intro j x e;rw[br]at e;split at e
   .rw[bd,az]at e;exact e
   .cases e
def Qy{a:List (List D)}{e:Nat}{o:Nat×Nat}(p:w.heap[b]? =some (.cells c t o))(z:e+a.length*sz<=F b)(A:F b<=c.size)
 (q:∀r∈a,r.length=sz)(s:∀(i:Nat) r (j:Nat) d v,a[i]? =some r->r[j]? =some d->c[e+i*sz+j]? =some v->RD F w d v){r:List D}(m:a[i]? =some r):
 ∃n,n.length=r.length/\(∀(j:Nat) d v,r[j]? =some d->n[j]? =some v->RD F w d v)/\UA w (.pointer (b,e+i*sz)) n/\r.length=sz:=by
 have u:=(List.getElem?_eq_some_iff.1 m).1;have l:=q r (List.mem_of_getElem? m);have y:(i+1)*sz<=a.length*sz:=Nat.mul_le_mul_right _ u;rw[bp]at y;refine⟨(c.toList.drop (e+i*sz)).take sz,?_,?_,⟨b,e+i*sz,c,t,o,rfl,p,?_,?_⟩,l⟩
 .rw[aN,cS,aH];omega
 .intro j d v k f;refine s i r j d v m k ?_;rw[br]at f;split at f
  .rw[bd,az]at f;exact f
  .cases f
 .rw[aN,cS,aH];omega
 .intro j x k;rw[br]at k;split at k
  .rw[bd,az]at k;exact k
  .cases k
def FQ(l:dN P tab)(hrel:Rel g h w){a x:V}(d:nO tab h t a=some x)(z:GV g h w a v):∃u,(Instr.loadAt t v).run P w=.ok u w/\GV g h w x u:=by
 unfold nO at d;cases f:tab t with
 |none=>rw[f]at d;cases d
 |some A=>
  rw[f]at d;simp only[aT]at d;split at d
  .next k i j=>
   split at d
   .next sz e C D=>
    cases m:e[i]? with
    |none=>rw[m]at d;cases d
    |some r=>
     rw[m]at d;simp only[aT]at d;obtain⟨b,E,p,q,s,B,J⟩:=UB (hrel.obj k _ D) m;obtain⟨K,L,F,o,rfl⟩:=z.sB;rw[p]at o;cases o;exact NK (l t A f) s q B d rfl
   .cases d
  .next sz e i j=>
   cases m:e[i]? with
   |none=>rw[m]at d;cases d
   |some r=>
    rw[m]at d;simp only[aT]at d;obtain⟨b,G,c,M,N,rfl,H,I,o,y,n⟩:=z.cG.FP;obtain⟨E,p,q,s,B⟩:=Qy H I o y n m;exact Jx (l t A f) s p q d rfl
  .cases d
def Jy(r:dN P tab){s:TypeId}{a x:V}(e:Dy tab s a f=some x)(H:GV g h w a v):∃u,(Instr.fieldAt s v f).run P w=.ok u w/\GV g h w x u:=by
 unfold Dy at e;split at e
 .next J size bytes zero K=>
  obtain⟨d,L,I,M⟩:=dj (r s _ K) w;cases l:J[f]? with
  |none=>rw[l]at e;cases e
  |some u=>
   rw[l]at e;simp only[aT]at e;cases t:tab u.1 with
   |none=>rw[t]at e;cases e
   |some C=>
    rw[t]at e;simp only[aT]at e;cases d<;>simp[eM]at I;next o=>
    subst I;rw[ai]at l;cases m:o[f]? with
    |none=>rw[<-az]at m;rw[m]at l;cases l
    |some N=>
     rw[<-az]at m;rw[m]at l;simp only[cj,aK]at l;subst l;rw[az]at m;have z:C.size≠0:=by
      intro O;rw[O]at e;simp at e
     have D:Nat.beq C.size 0=false:=by
      cases E:Nat.beq C.size 0 with
      |false=>rfl
      |true=>exact absurd (a6 E) z
     rw[D]at e;simp only[rj]at e;have A:∀b n:Nat,(Instr.fieldAt s (.pointer (b,n)) f).run P w=.ok (.pointer (b,n+N.offset)) w:=by
      intro b n;unfold Instr.fieldAt;simp only[aB,L,Result.andThen_ok,m,Instr.sureAddr,cH,fieldPlace,fq (r _ _ t),if_neg z,add_mid]
     split at e
     .next k i j=>
      cases e;obtain⟨Q,b,sz,F,rfl⟩:=H.sB;exact⟨_,A b _,by rw[cZ];exact .p k i _ b sz Q F⟩
     .next sz B i j=>
      cases e;obtain⟨b,n,c,R,S,rfl,E,T,F,G,y⟩:=H.cG.FP;exact⟨_,A b _,by rw[cZ];exact .d _ _ (.q sz B i _ b n c R S E T F G y)⟩
     .cases e
 .cases e
end
end
section
variable[de]
def tP(x:V)(i:Nat):Option V:=
 match x with
 |.tu a=>a[i]?
 |_=>none
def rB(x:V):Option V:=
 match x with
 |.p k i j=>some (.p k i j)
 |.d (.q sz c i j)=>some (.d (.q sz c i j))
 |.f fn a b=>match fn with|.method _=>none|_=>some (.f fn a b)
 |.d (.f fn a b)=>match fn with|.method _=>none|_=>some (.d (.f fn a b))
 |_=>none
section
variable{P:Program}{g:Gh}{h:bw}{w:World}{tab:gI}
def FR{x y:V}(a:tP x i=some y)(c:GV g h w x v):∃u,(Instr.extract v i).run P w=.ok u w/\GV g h w y u:=by
 unfold tP at a;split at a
 .next d=>
  cases c with
  |tu _ b e f=>
   have j:GL g h w d b:=⟨e,f⟩;obtain⟨u,k,l⟩:=j.get a;refine⟨u,?_,l⟩;unfold Instr.extract;have:b.toArray[i]? =some u:=by simpa using k
   simp only[this];rfl
 .cases a
def UC(e:dN P tab){x y:V}(j:NI tab t x=some y)(f:GV g h w x v)(p:Array TypeId)(B:TypeId)(k:p[0]? =some t):
 ∃u,(Builtin.len_ p B #[v]).run P w=.ok u w/\GV g h w y u:=by
 have l:∀{q:TI},tab t=some q->∃d,(underlying t).run P w=.ok d w/\eM d=q.kind:=fun m=>by
  obtain⟨d,C,D,_⟩:=dj (e t _ m) w;exact⟨d,C,D⟩
 have E:(#[v]:Array Value)[0]? =some v:=rfl;unfold Builtin.len_;simp only[k,E];unfold NI at j;split at j;all_goals first|cases j;done|skip
 all_goals
  rename_i F;obtain⟨d,G,r⟩:=l F;cases j;cases d<;>simp[eM]at r;simp only[aB,G,Result.andThen_ok]
 .cases f.cG;rename_i s b n;have H:s.length=b.size:=by rw[<-n.len];rfl
  rw[H];exact⟨_,rfl,.d _ _ (.i _ _)⟩
 .cases f.cG;exact⟨_,rfl,.d _ _ (.i _ _)⟩
 .rcases f.cG.qi with⟨rfl,rfl⟩|⟨b,o,cap,c,z,A,rfl,_⟩<;>exact⟨_,rfl,.d _ _ (.i _ _)⟩
 .rcases f.tO.2.1.qi with⟨rfl,rfl⟩|⟨b,o,cap,c,z,A,rfl,_⟩<;>exact⟨_,rfl,.d _ _ (.i _ _)⟩
 .rcases f.pq.2 with⟨_,rfl,_,rfl⟩|⟨rfl,a,rfl⟩|⟨b,sz,cap,c,z,A,_,rfl,_⟩<;>exact⟨_,rfl,.d _ _ (.i _ _)⟩
 .obtain⟨rfl,rfl⟩:=r;exact⟨_,rfl,.d _ _ (.i _ _)⟩
def LP:∀{c:List V} {e:List Value} {x:D} {a:Value} {y:V},Uw x c=some y->RD g.F w x a->GL g h w c e->∃u,(e.foldlM Builtin.max2 a).run P w=.ok u w/\GV g h w y u
 |[],e,x,a,y,b,i,f=>by
  cases b;cases e with
  |nil=>exact⟨_,rfl,.d _ _ i⟩
  |cons=>have:=f.len;simp at this
 |x::c,[],j,a,y,b,i,f=>by have:=f.len;simp at this
 |.d m::c,v::e,j,a,y,b,i,f=>by
  have n:=f.at_ 0 _ v rfl rfl;have k:GL g h w c e:=by simpa using f.drop 1
  have b:(FK j m).bind (fun q=>Uw q c)=some y:=b;cases l:FK j m with
  |none=>rw[l]at b;cases b
  |some q=>
   rw[l]at b;obtain⟨u,o,p⟩:=Qu l i n.cG (P:=P);obtain⟨r,s,t⟩:=LP b p k;exact⟨r,by simp only[adn,aB,o,Result.andThen_ok];exact s,t⟩
def LQ:∀{c:List V} {e:List Value} {x:D} {a:Value} {y:V},Ux x c=some y->RD g.F w x a->GL g h w c e->∃u,(e.foldlM Builtin.min2 a).run P w=.ok u w/\GV g h w y u
 |[],e,x,a,y,b,i,f=>by
  cases b;cases e with
  |nil=>exact⟨_,rfl,.d _ _ i⟩
  |cons=>have:=f.len;simp at this
 |x::c,[],j,a,y,b,i,f=>by have:=f.len;simp at this
 |.d m::c,v::e,j,a,y,b,i,f=>by
  have n:=f.at_ 0 _ v rfl rfl;have k:GL g h w c e:=by simpa using f.drop 1
  have b:(FM j m).bind (fun q=>Ux q c)=some y:=b;cases l:FM j m with
  |none=>rw[l]at b;cases b
  |some q=>
   rw[l]at b;obtain⟨u,o,p⟩:=Qv l i n.cG (P:=P);obtain⟨r,s,t⟩:=LQ b p k;exact⟨r,by simp only[adn,aB,o,Result.andThen_ok];exact s,t⟩
def Qz{d:List V}{a:List Value}{y:V}(b:Uy d=some y)(c:GL g h w d a)(e:Array TypeId)(f:TypeId):∃u,(Builtin.max_ e f a.toArray).run P w=.ok u w/\GV g h w y u:=by
 unfold Uy at b;split at b
 .next x r=>
  cases a with
  |nil=>have:=c.len;simp at this
  |cons v a=>
   have i:=c.at_ 0 _ v rfl rfl;exact LP (P:=P) b i.cG (by simpa using c.drop 1)
 .cases b
def QA{d:List V}{a:List Value}{y:V}(b:Uz d=some y)(c:GL g h w d a)(e:Array TypeId)(f:TypeId):∃u,(Builtin.min_ e f a.toArray).run P w=.ok u w/\GV g h w y u:=by
 unfold Uz at b;split at b
 .next x r=>
  cases a with
  |nil=>have:=c.len;simp at this
  |cons v a=>
   have i:=c.at_ 0 _ v rfl rfl;exact LQ (P:=P) b i.cG (by simpa using c.drop 1)
 .cases b
def QB(a:dN P tab){src z:TypeId}{x y:V}(b:yo tab src z x=some y)(A:GV g h w x v):∃u,(convert src z v).run P w=.ok u w/\GV g h w y u:=by
 unfold yo at b;split at b
 .next D _ _ _ E _ _ _ c n j m=>
  obtain⟨d1,o,c,p⟩:=dj (a _ _ j) w;obtain⟨d2,q,f,r⟩:=dj (a _ _ m) w;cases d1<;>simp[eM]at c;cases d2<;>simp[eM]at f;unfold convert;simp only[aB,o,q,Result.andThen_ok];cases b;cases A.cG;subst f;exact⟨_,rfl,.d _ _ (.i _ _)⟩
 .next D _ _ _ E _ _ _ c e G H j m=>
  obtain⟨d1,o,c,p⟩:=dj (a _ _ j) w;obtain⟨d2,q,f,r⟩:=dj (a _ _ m) w;cases d1<;>simp[eM]at c;cases d2<;>simp[eM]at f;unfold convert;simp only[aB,o,q,Result.andThen_ok];cases t:Fz E e G H with
  |none=>rw[t]at b;cases b
  |some d=>
   rw[t]at b;cases b;cases A.cG with|x _ _ _ _ I J=>
   subst f;obtain⟨B,F⟩:=nD t I J;refine⟨_,rfl,.d _ _ ?_⟩;rw[B];exact F _ _
 .next D _ _ _ _ _ _ d j m=>
  obtain⟨d1,o,c,p⟩:=dj (a _ _ j) w;obtain⟨d2,q,f,r⟩:=dj (a _ _ m) w;cases d1<;>simp[eM]at c;cases d2<;>simp[eM]at f;unfold convert;simp only[aB,o,q,Result.andThen_ok];cases t:LO d with
  |none=>rw[t]at b;cases b
  |some l=>
   rw[t]at b;cases b;obtain⟨k,n,rfl,B,F,K⟩:=Qw t A.cG;exact⟨_,rfl,.d _ _ (.s _ _ B)⟩
 .next _ _ _ _ _ _ s j m=>
  obtain⟨d1,o,c,p⟩:=dj (a _ _ j) w;obtain⟨d2,q,f,r⟩:=dj (a _ _ m) w;cases d1<;>simp[eM]at c;cases d2<;>simp[eM]at f;unfold convert;simp only[aB,o,q,Result.andThen_ok];cases b;cases A.cG;rename_i C;exact⟨_,rfl,.d _ _ (.s _ _ C)⟩
 .cases b
def wR(hrel:Rel g h w){a:List (List V)}{d:Bool}(j:h k=some (.row sz a d)){e:Nat}(i:g.σ k=some (b,e)):e=sz:=by
 cases hrel.obj k _ j with
 |nilvec sz f=>rw[i]at f;cases f
 |row sz a d b c t f=>rw[i]at f;cases f;rfl
def Jz(s:dN P tab)(hrel:Rel g h w){x Y y:V}(f:sO tab h t x Y=some y)(D:GV g h w x v)(Z:GV g h w Y u):∃r,(Instr.indexAt t v u).run P w=.ok r w/\GV g h w y r:=by
 have slice:∀{e:TypeId} {B:TI} {i:Int} {k:IntKind} {b l n cap:Nat},(underlying t).run P w=.ok (.slice e) w->tab e=some B->0<=i/\i<n->
  (Instr.indexAt t (b,l,n,cap) (.int k i)).run P w=.ok (.pointer (b,l+i.toNat*B.size)) w:=by
  intro e B i k b l n cap E he O;unfold Instr.indexAt;simp only[aB,asIntOf,cH,aq,E,if_pos O,fq (s _ _ he),add_mid]
 unfold sO at f;split at f
 .next e size bytes zero k i Q=>
  obtain⟨d,E,G,R⟩:=dj (s _ _ Q) w;cases d<;>simp[eM]at G;rename_i S;subst G;cases Z.cG;cases o:tab S with
  |none=>rw[o]at f;cases f
  |some B=>
   rw[o]at f;simp only[aT]at f;split at f
   .next sz m=>
    split at f
    .next z=>
     obtain⟨z,rfl⟩:=z;cases f;rcases D.cG.qi with⟨rfl,rfl⟩|⟨b,l,cap,c,J,K,rfl,L,M,A,C,hn,T,U⟩
     .simp at z;omega
     .exact⟨_,slice E o z,.d _ _ (by have:=RD.q (F:=g.F) B.size m i.toNat 0 b l c J K L M A T U;rwa[dI]at this)⟩
    .cases f
   .next W e' sz m=>
    split at f
    .next z=>
     obtain⟨z,rfl⟩:=z;cases f;rcases D.tO.2.1.qi with⟨rfl,rfl⟩|⟨b,l,cap,c,J,K,rfl,L,M,A,C,hn,T,U⟩
     .simp at z;omega
     .exact⟨_,slice E o z,.d _ _ (by have:=RD.q (F:=g.F) B.size m i.toNat 0 b l c J K L M A T U;rwa[dI]at this)⟩
    .cases f
   .next W lo n=>
    split at f
    .next sz m am G=>
     split at f
     .next z=>
      obtain⟨z,rfl⟩:=z;cases f;obtain⟨H,D⟩:=D.pq;rcases D with⟨_,rfl,_,rfl⟩|⟨rfl,a,rfl⟩|⟨b,a5,cap,c,J,K,A,rfl,L,C,hn⟩
      .omega
      .omega
      .have:=wR hrel G A;subst this;exact⟨_,slice E o z,by have:=GV.p (g:=g) (h:=h) (w:=w) W (lo+i.toNat) 0 b B.size H A;rwa[bp,dI]at this⟩
     .cases f
    .cases f
   .cases f
 .next n e size bytes zero k i Q=>
  obtain⟨d,E,G,R⟩:=dj (s _ _ Q) w;cases d<;>simp[eM]at G;rename_i nn S;obtain⟨e1,e2⟩:=G;subst e1 e2;cases Z.cG;cases o:tab S with
  |none=>rw[o]at f;cases f
  |some B=>
   rw[o]at f;simp only[aT]at f;split at f
   .next O=>
    have N:∀{b l:Nat},(Instr.indexAt t (.pointer (b,l)) (.int k i)).run P w=.ok (.pointer (b,l+i.toNat*B.size)) w:=by
     intro b l;unfold Instr.indexAt;simp only[aB,asIntOf,cH,aq,E,Instr.sureAddr,aS O,fq (s _ _ o),add_mid]
    split at f
    .next W r j=>
     cases f;obtain⟨H,b,sz,A,rfl⟩:=D.sB;exact⟨_,N,by rw[cZ];exact .p _ _ _ b sz H A⟩
    .next sz m r j=>
     cases f;obtain⟨b,l,c,J,K,rfl,L,M,A,X,I⟩:=D.cG.FP;exact⟨_,N,by rw[cZ];exact .d _ _ (.q sz m r _ b l c J K L M A X I)⟩
    .cases f
   .cases f
 .cases f
def JA(c:dN P tab){x Q y:V}(a:Dz tab t x Q=some y)(D:GV g h w x v)(E:GV g h w Q u):∃r,(Instr.index t v u).run P w=.ok r w/\GV g h w y r:=by
 unfold Dz at a;split at a
 .next s k i=>
  split at a
  .next size bytes zero o=>
   obtain⟨d,p,l,q⟩:=dj (c _ _ o) w;cases d<;>simp[eM]at l;cases E.cG;cases D.cG;rename_i j m;split at a
   .next z=>
    cases C:s[i.toNat]? with
    |none=>rw[C]at a;cases a
    |some b=>
     rw[C]at a;cases a;have A:=(List.getElem?_eq_some_iff.1 C).1;have B:i.toNat<j.size:=by
      have:j.size=j.data.toList.length:=rfl;rw[this,m.len];exact A
     have F:j.data.toList[i.toNat]? =some j[i.toNat]:=by
      rw[af (by rw[m.len];exact A)];rfl
     have G:j[i.toNat]? =some j[i.toNat]:=by rw[getElem?_pos j i.toNat B]
     refine⟨.int .u8 (j[i.toNat]).toNat,?_,.d _ _ (Jw (m.at_ _ _ _ C F))⟩;unfold Instr.index;simp only[aB,asIntOf,cH,aq,p,if_pos z,G]
   .cases a
  .cases a
 .next cells k i=>
  split at a
  .next n e size bytes zero o=>
   obtain⟨d,p,l,q⟩:=dj (c _ _ o) w;cases d<;>simp[eM]at l;rename_i R H;obtain⟨I,J⟩:=l;subst I J;cases E.cG;obtain⟨S,rfl,K,L⟩:=D.Du;cases f:tab H with
   |none=>rw[f]at a;cases a
   |some T=>
    rw[f]at a;simp only[aT]at a;split at a
    .next z=>
     obtain⟨r,M,N⟩:=FO (P:=P) (c _ _ f) K L a;refine⟨r,?_,N⟩;unfold Instr.index;simp only[aB,asIntOf,cH,aq,p,if_pos z,fq (c _ _ f)];exact M
    .cases a
  .cases a
 .next cells k i=>
  split at a
  .next n e size bytes zero o=>
   obtain⟨d,p,l,q⟩:=dj (c _ _ o) w;cases d<;>simp[eM]at l;rename_i R H;obtain⟨I,J⟩:=l;subst I J;cases E.cG;obtain⟨S,rfl,O,L,K⟩:=D.Xy;cases f:tab H with
   |none=>rw[f]at a;cases a
   |some T=>
    rw[f]at a;simp only[aT]at a;split at a
    .next z=>
     obtain⟨r,M,N⟩:=BK (P:=P) (h:=h) (c _ _ f) O L K a;refine⟨r,?_,N⟩;unfold Instr.index;simp only[aB,asIntOf,cH,aq,p,if_pos z,fq (c _ _ f)];exact M
    .cases a
  .cases a
 .cases a
end
end
section
variable[de]
def qa(x:Option V)(a:Nat):Option Int:=
 match x with
 |none=>some a
 |some (.d (.i _ n))=>some n
 |some _=>none
def sP(tab:gI)(h:bw)(t:TypeId)(x:V)(c f:Option V):Option V:=
 match tab t,x with
 |some ⟨.str,_,_,_⟩,.d (.s s)=>(qa c 0).bind fun l=>(qa f s.length).bind fun m=>if 0<=l/\l<=m/\m<=s.length then some (.d (.s ((s.take m.toNat).drop l.toNat)))else none
 |some ⟨.sl e,_,_,_⟩,.d (.l sz a)=>(tab e).bind fun b=>(qa c 0).bind fun l=>(qa f a.length).bind fun m=>
  if 0<=l/\l<=m/\m<=a.length/\b.size=sz then some (.d (.l sz ((a.take m.toNat).drop l.toNat)))else none
 |some ⟨.sl e,_,_,_⟩,.d .z=>(tab e).bind fun b=>(qa c 0).bind fun l=>(qa f 0).bind fun m=>if l=0/\m=0 then some (.d .z)else none
 |some ⟨.sl e,_,_,_⟩,.t k j sz a=>(tab e).bind fun b=>(qa c 0).bind fun l=>(qa f a.length).bind fun m=>
  if 0<=l/\l<=m/\m<=a.length/\b.size=sz then
   (if m=a.length then some (.t k j sz (a.drop l.toNat))else some (.d (.l sz ((a.take m.toNat).drop l.toNat))))else none
 |some ⟨.sl e,_,_,_⟩,.v k i n=>(tab e).bind fun b=>match h k with
  |some (.row sz _ _)=>(qa c 0).bind fun l=>(qa f n).bind fun m=>if 0<=l/\l<=m/\m<=n/\b.size=sz then some (.v k (i+l.toNat) (m.toNat-l.toNat))else none
  |_=>none
 |_,_=>none
def SR.cut{x:List Sb}{a:List UInt8}(h:SR x a)(l m:Nat):SR ((x.take m).drop l) ((a.take m).drop l):=
 ⟨by simp[h.len],fun i z u j A=>by
  rw[bd,br]at j A;split at j
  .next B=>rw[aS B]at A;exact h.at_ _ z u j A
  .cases j⟩
def SR.drop{x:List Sb}{a:List UInt8}(h:SR x a)(n:Nat):SR (x.drop n) (a.drop n):=
 ⟨by simp[h.len],fun i z u j A=>h.at_ (n+i) z u (by simpa using j) (by simpa using A)⟩
inductive BV(g:Gh)(h:bw)(w:World):Option V->Option Value->Prop
 |none:BV g h w none none
 |some (x v) (hx:GV g h w x v):BV g h w (some x) (some v)
section
variable{P:Program}{g:Gh}{h:bw}{w:World}{tab:gI}
def sQ{j k:Option V}{len cap:Nat}{l m:Int}(a:qa j 0=some l)(c:qa k len=some m)(q:0<=l/\l<=m/\m<=len)(s:len<=cap)(b:Bool)
 {n o:Option Value}(p:BV g h w j n)(r:BV g h w k o):
 (Instr.sliceBounds b len cap n o none).run P w=.ok (l.toNat,m.toNat,cap) w:=by
 cases r with
 |none=>
  cases c;cases p with
  |none=>cases a;simp[Instr.sliceBounds,pure]
  |some x v d=>
   unfold qa at a;split at a
   .rename_i e;cases e
   .rename_i e;cases e;cases a;cases d.cG;have:0<=l/\l<=(len:Int):=by omega
    simp[Instr.sliceBounds,Instr.sliceBound,asIntOf,this,pure]
   .cases a
 |some x v d=>
  unfold qa at c;split at c
  .rename_i e;cases e
  .rename_i e;cases e;cases c;cases d.cG;have f:0<=m/\m<=(cap:Int):=by omega
   cases p with
   |none=>cases a;simp[Instr.sliceBounds,Instr.sliceBound,asIntOf,f,pure]
   |some x v d=>
    unfold qa at a;split at a
    .rename_i e;cases e
    .rename_i e;cases e;cases a;cases d.cG;have:0<=l/\l<=(m.toNat:Int):=by omega
     have i:max m 0=m:=by omega
     simp[Instr.sliceBounds,Instr.sliceBound,asIntOf,this,f,i,q.2.1,pure]
    .cases a
  .cases c
def vD(f:dN P tab){c:List D}(j:tab t=some ⟨.sl e,a,b,c⟩):(underlying t).run P w=.ok (.slice e) w:=by
 obtain⟨d,k,i,_⟩:=dj (f _ _ j) w;cases d<;>simp[eM]at i;subst i;exact k
def QC{α:Type}{rows:List α}{l:Nat}(a:l<=m)(b:m<=rows.length):((rows.take m).drop l).length=m-l:=by
 rw[cS,aN];omega
def QD{a:List (List D)}{cap l:Nat}{p:Nat×Nat}(z:w.heap[b]? =some (.cells c t p))(N:f+a.length*sz<=F b)(A:F b<=c.size)
 (B:f+cap*sz<=c.size)(O:a.length<=cap)(I:∀r∈a,r.length=sz)
 (J:∀(i:Nat) r (j:Nat) d v,a[i]? =some r->r[j]? =some d->c[f+i*sz+j]? =some v->RD F w d v)(C:l<=m)(E:m<=a.length):
 RD F w (.l sz ((a.take m).drop l)) (.slice (if cap=l then(b,f)else(b,f+l*sz)) (m-l) (cap-l)):=by
 have k:=QC (rows:=a) C E;have G:l*sz<=a.length*sz:=Nat.mul_le_mul_right _ (by omega);have q:m*sz<=a.length*sz:=Nat.mul_le_mul_right _ E;have s:l*sz<=cap*sz:=Nat.mul_le_mul_right _ (by omega);have H:(m-l)*sz=m*sz-l*sz:=Nat.sub_mul ..;have u:(cap-l)*sz=cap*sz-l*sz:=Nat.sub_mul ..;have K:l*sz<=m*sz:=Nat.mul_le_mul_right _ C;split
 .next e=>
  have x:m=l:=by omega
  subst x;have o:(a.take m).drop m=[]:=List.eq_nil_of_length_eq_zero (by omega);rw[o,e,Nat.sub_self];exact .l sz [] b f 0 c t p z (by simp;omega) A (by simp;omega) (ae _) (by simp) (fun i r j d v n=>by simp at n)
 .have:=RD.l (F:=F) (w:=w) sz ((a.take m).drop l) b (f+l*sz) (cap-l) c t p z (by rw[k];omega) A (by omega) (by omega)
   (
    fun r y=>I r (List.mem_of_mem_take (eF y))) (fun i r j d v n L M=>by
    refine J (l+i) r j d v ?_ L ?_
    .rw[bd,br]at n;split at n
     .exact n
     .cases n
    .rw[bp,<-cZ];exact M)
  rwa[k]at this
def NL(r:dN P tab)(hrel:Rel g h w){x y:V}{M N:Option V}(f:sP tab h t x M N=some y)(R:GV g h w x v){vl vh:Option Value}
 (rl:BV g h w M vl)(rh:BV g h w N vh):
 ∃u,(Instr.sliceAt t v vl vh none).run P w=.ok u w/\GV g h w y u:=by
 have slice:∀{e:TypeId} {o:TI} {a:Option Addr} {len cap:Nat} {l m:Int},(underlying t).run P w=.ok (.slice e) w->tab e=some o->qa M 0=some l->qa N len=some m->(0<=l/\l<=m/\m<=len)->len<=cap->
  (Instr.sliceAt t (.slice a len cap) vl vh none).run P w=.ok (.slice (if cap=l.toNat then a else a.map (·.add (l.toNat*o.size))) (m.toNat-l.toNat) (cap-l.toNat)) w:=by
  intro e o a len cap l m A he a5 a9 D hc;unfold Instr.sliceAt;simp only[aB,A,Result.andThen_ok];unfold Instr.slice;simp only[aB,A,Result.andThen_ok,sQ (P:=P) a5 a9 D hc true rl rh,fq (r _ _ he)];rfl
 unfold sP at f;split at f
 .next size bytes zero s I=>
  obtain⟨d,A,hk,ge⟩:=dj (r _ _ I) w;cases d<;>simp[eM]at hk;cases R.cG;rename_i bs W;have S:bs.size=s.length:=by rw[<-W.len];rfl
  cases j:qa M 0 with
  |none=>rw[j]at f;cases f
  |some l=>
   cases q:qa N s.length with
   |none=>rw[j,q]at f;cases f
   |some m=>
    rw[j,q]at f;simp only[aT]at f;split at f
    .next D=>
     cases f;refine⟨(bs.extract l.toNat m.toNat),?_,.d _ _ (.s _ _ ?_)⟩
     .unfold Instr.sliceAt;simp only[aB,A,Result.andThen_ok];unfold Instr.slice;have X:=sQ (P:=P) j q D (Nat.le_refl _) false rl rh;rw[<-S]at X;simp only[aB,A,Result.andThen_ok,X,Option.isSome_none,ed,mU];rfl
     .have e:(bs.extract l.toNat m.toNat).data.toList=(bs.data.toList.take m.toNat).drop l.toNat:=by
       rw[aac,abh];simp[List.extract_eq_take_drop,List.drop_take]
      rw[e];exact W.cut _ _
    .cases f
 .next E _ _ _ sz p I=>
  have A:=vD (w:=w) r I;obtain⟨o,i⟩:∃o,tab E=some o:=by
   cases i:tab E with
   |none=>rw[i]at f;cases f
   |some o=>exact⟨o,rfl⟩
  rw[i]at f;simp only[aT]at f;cases j:qa M 0 with
  |none=>rw[j]at f;cases f
  |some l=>
   cases q:qa N p.length with
   |none=>rw[j,q]at f;cases f
   |some m=>
    rw[j,q]at f;simp only[aT]at f;split at f
    .next D=>
     obtain⟨T,U,H,rfl⟩:=D;cases f;rcases R.cG.qi with⟨rfl,rfl⟩|⟨b,Y,cap,c,t',fz,rfl,F,hf,O,B,J,hr,hx⟩
     .refine⟨_,slice A i j q ⟨T,U,H⟩ (by simp),?_⟩;simp at H;have K:l=0:=by omega
      have L:m=0:=by omega
      subst K L;exact .d _ _ (.lz _)
     .refine⟨_,slice A i j q ⟨T,U,H⟩ J,.d _ _ ?_⟩;have:=QD (cap:=cap) F hf O B J hr hx (l:=l.toNat) (m:=m.toNat) (by omega) (by omega);simpa only[cj,add_mid]using this
    .cases f
 .next E _ _ _ I=>
  have A:=vD (w:=w) r I;obtain⟨o,i⟩:∃o,tab E=some o:=by
   cases i:tab E with
   |none=>rw[i]at f;cases f
   |some o=>exact⟨o,rfl⟩
  rw[i]at f;simp only[aT]at f;cases j:qa M 0 with
  |none=>rw[j]at f;cases f
  |some l=>
   cases q:qa N 0 with
   |none=>rw[j,q]at f;cases f
   |some m=>
    rw[j,q]at f;simp only[aT]at f;split at f
    .next D=>
     obtain⟨rfl,rfl⟩:=D;cases f;cases R.cG;exact⟨_,slice A i j q (by simp) (by simp),.d _ _ .z⟩
    .cases f
 .next E _ _ _ k en sz p I=>
  have A:=vD (w:=w) r I;obtain⟨o,i⟩:∃o,tab E=some o:=by
   cases i:tab E with
   |none=>rw[i]at f;cases f
   |some o=>exact⟨o,rfl⟩
  rw[i]at f;simp only[aT]at f;cases j:qa M 0 with
  |none=>rw[j]at f;cases f
  |some l=>
   cases q:qa N p.length with
   |none=>rw[j,q]at f;cases f
   |some m=>
    rw[j,q]at f;simp only[aT]at f;split at f
    .next D=>
     obtain⟨T,U,H,rfl⟩:=D;obtain⟨C,em,G⟩:=R.tO;rcases em.qi with⟨rfl,rfl⟩|⟨b,Y,cap,c,t',fz,rfl,F,hf,O,B,J,hr,hx⟩
     .simp at H;have K:l=0:=by omega
      have L:m=0:=by omega
      subst K L;refine⟨_,slice A i j q ⟨T,U,by simp⟩ (by simp),?_⟩;simp at f;subst f;exact .t _ _ _ _ _ C (.lz _) fun n J=>⟨(G n J).1,fun _=>.nil _ _⟩
     .refine⟨_,slice A i j q ⟨T,U,H⟩ J,?_⟩;have hcut:=QD (cap:=cap) F hf O B J hr hx (l:=l.toNat) (m:=m.toNat) (by omega) (by omega);split at f
      .next e=>
       cases f;have eq:p.take m.toNat=p:=List.take_of_length_le (by omega);rw[eq]at hcut;refine .t _ _ _ _ _ C (by simpa only[cj,add_mid]using hcut) fun n Z=>⟨(G n Z).1,fun L=>?_⟩;have Q:m.toNat=p.length:=by omega
       cases(G n Z).2 L with
       |full a n=>rw[Q];exact .full _ _
       |here b Y n cc g1 g2 g3=>
        split
        .next ec=>
          rw[ec];have:m.toNat-l.toNat=l.toNat-l.toNat:=by omega
          rw[this];exact .full _ _
        .simp only[cj,add_mid];refine .here _ _ _ _ g1 ?_ g3;have hq:l.toNat*o.size<=p.length*o.size:=Nat.mul_le_mul_right _ (by omega);rw[g2,Q,Nat.sub_mul];omega
      .cases f;exact .d _ _ (by simpa only[cj,add_mid]using hcut)
    .cases f
 .next E _ _ _ k am n I=>
  have A:=vD (w:=w) r I;obtain⟨o,i⟩:∃o,tab E=some o:=by
   cases i:tab E with
   |none=>rw[i]at f;cases f
   |some o=>exact⟨o,rfl⟩
  rw[i]at f;simp only[aT]at f;split at f
  .next sz p g7 hk=>
   cases j:qa M 0 with
   |none=>rw[j]at f;cases f
   |some l=>
    cases q:qa N n with
    |none=>rw[j,q]at f;cases f
    |some m=>
     rw[j,q]at f;simp only[aT]at f;split at f
     .next D=>
      obtain⟨T,U,H,rfl⟩:=D;cases f;obtain⟨C,R⟩:=R.pq;rcases R with⟨rfl,rfl,O,rfl⟩|⟨rfl,a,rfl⟩|⟨b,g8,cap,c,t',fz,O,rfl,F,B,J⟩
      .simp at H;have K:l=0:=by omega
       have L:m=0:=by omega
       subst K L;exact⟨_,slice A i j q (by simp) (by simp),.vn _ C O⟩
      .simp at H;have K:l=0:=by omega
       have L:m=0:=by omega
       subst K L;exact⟨_,slice A i j q (by simp) (by simp),.ve _ _ _ C⟩
      .have S:=wR hrel hk O;subst S;refine⟨_,slice A i j q ⟨T,U,H⟩ J,?_⟩;split
       .next ec=>
        have K:m.toNat-l.toNat=0:=by omega
        rw[ec,K,Nat.sub_self];exact .ve _ _ _ C
       .simp only[cj,add_mid,<-bp];refine .v _ _ _ b o.size _ c t' fz C O F ?_ (by omega);have:am+l.toNat+(cap-l.toNat)=am+cap:=by omega
        rw[this];exact B
     .cases f
  .cases f
 .cases f
end
end
section
variable[de]
def eB{α:Type}(l:List α)(a:Nat)(b:List α):List α:=l.take a++(b++l.drop (a+b.length))
def iO{α:Type}{l:List α}{b:List α}(h:a+b.length<=l.length):(eB l a b).length=l.length:=by
 simp[eB];omega
def my{α:Type}{l:List α}{b:List α}(h:a+b.length<=l.length)(i:Nat):
 (eB l a b)[i]? =if a<=i/\i<a+b.length then b[i-a]? else l[i]? :=by
 have c:(l.take a).length=a:=by rw[aN];omega
 unfold eB;by_cases d:i<a
 .rw[aI (by omega),an (by omega),bU d]
 .rw[ay (by omega),c];by_cases e:i<a+b.length
  .rw[aS ⟨by omega,e⟩,List.getElem?_append_left (by omega)]
  .rw[aI (by omega),ay (by omega),bd]
   congr 1;omega
def yp{α:Type}{l:List α}{b:List α}{x:α}(h:x∈eB l a b):x∈l\/x∈b:=by
 unfold eB at h;rcases aJ.1 h with h|h
 .exact .inl (bz h)
 .rcases aJ.1 h with h|h
  .exact .inr h
  .exact .inl (eF h)
def GL.eB{g:Gh}{h:bw}{w:World}{B A:List V}{C D:List Value}(a:GL g h w B C)(b:GL g h w A D)(j:Nat):GL g h w (eB B j A) (Abs.eB C j D):=by
 have:=(a.take j).append (b.append (a.drop (j+A.length)));unfold Abs.eB;rw[b.len];exact this
def tR(place:Nat->Option (Nat×Nat))(cells:List V):List (Nat×V)->Option (List V)
 |[]=>some cells
 |(i,x)::a=>match place i with
  |none=>none
  |some (b,size)=>if x.FG=true/\x.cells.length=size/\b+size<=cells.length then tR place (eB cells b x.cells) a else none
def tS{g:Gh}{h:bw}{w:World}(place:Nat->Option (Nat×Nat))(ρ:Operand->Value)(t:Operand->Option V)(B:∀o x,t o=some x->GV g h w x (ρ o)):
 ∀(parts:List (Nat×Operand)) (m:List (Nat×V)) (cells:List V) (a:Array Value) (out:List V),
  xu t (parts.map (·.2))=some (m.map (·.2))->parts.map (·.1)=m.map (·.1)->GL g h w cells a.toList->(∀x∈cells,x.one=true)->tR place cells m=some out->
  ∃b,Instr.fill place a (parts.map fun p=>(p.1,ρ p.2))=some b/\GL g h w out b.toList/\(∀x∈out,x.one=true)/\b.size=a.size
 |[],m,cells,a,out,e,f,q,r,d=>by
  cases m with
  |nil=>cases d;exact⟨a,rfl,q,r,rfl⟩
  |cons=>cases f
 |(i,o)::parts,[],cells,a,out,e,f,q,r,d=>by cases f
 |(i,o)::parts,(j,x)::m,cells,a,out,e,f,q,r,d=>by
  simp only[bV,adG]at f;obtain⟨rfl,f⟩:=f;simp only[bV]at e;unfold xu at e;split at e
  .next v Q D E=>
   simp only[aK,adG]at e;obtain⟨rfl,rfl⟩:=e;unfold tR at d;cases u:place i with
   |none=>rw[u]at d;cases d
   |some F=>
    obtain⟨c,size⟩:=F;rw[u]at d;simp only at d;split at d
    .next G=>
     obtain⟨y,z,H⟩:=G;obtain⟨C,hone⟩:=(B o v D).cells y;have I:(ρ o).cells.size=size:=by rw[<-aH,C.len,z]
     have J:a.size=cells.length:=by rw[<-aH,q.len]
     have n:=Great.foldl_set c (ρ o).cells.toList 0 a;have l:((ρ o).cells.zipIdx.foldl (fun A (x:Value×Nat)=>A.setIfInBounds (c+x.2) x.1) a).toList=eB a.toList c (ρ o).cells.toList:=by
      rw[<-Array.foldl_toList,Array.toList_zipIdx];apply sL;intro k;rw[az,n.2 k,my (by simp;omega)];simp only[dI,aH,az];by_cases s:c<=k/\k<c+(ρ o).cells.size
      .rw[aS ⟨s.1,s.2,by omega⟩,aS s]
      .rw[aI (by omega),aI s]
     obtain⟨b,K,L,M,N⟩:=tS place ρ t B parts m (eB cells c v.cells) ((ρ o).cells.zipIdx.foldl (fun A (x:Value×Nat)=>A.setIfInBounds (c+x.2) x.1) a) out E f
      (
       by rw[l];exact q.eB C c) (fun x O=>by
       rcases yp O with h|h
       .exact r x h
       .exact hone x h) d
     refine⟨b,?_,L,M,?_⟩
     .show Instr.fill place a ((i,ρ o)::_)=_;unfold Instr.fill;rw[u];simp only;rw[aI (by simp only[fQ,cI];omega)];exact K
     .rw[N,<-Array.length_toList,l,iO (by simp;omega),aH]
    .cases d
  .cases e
def tT(tab:gI):List (TypeId×Nat)->Option (List (Nat×Nat))
 |[]=>some []
 |(t,a)::r=>match tab t,tT tab r with
  |some b,some l=>some ((a,b.size)::l)
  |_,_=>none
def lR(a:Operand->Option V):List (Nat×Operand)->Option (List (Nat×V))
 |[]=>some []
 |(i,o)::r=>match a o,lR a r with
  |some v,some l=>some ((i,v)::l)
  |_,_=>none
def oM{d:Operand->Option V}:∀{l:List (Nat×Operand)} {c:List (Nat×V)},lR d l=some c->xu d (l.map (·.2))=some (c.map (·.2))/\l.map (·.1)=c.map (·.1)
 |[],c,h=>by cases h;exact⟨rfl,rfl⟩
 |(i,o)::r,c,h=>by
  unfold lR at h;split at h
  .next v l e f=>
   cases h;obtain⟨a,b⟩:=oM f;refine⟨?_,by simp[b]⟩;simp only[bV];unfold xu;rw[e,a]
  .cases h
def yq(tab:gI)(b:Operand->Option V)(t:TypeId)(parts:List (Nat×Operand)):Option V:=
 match tab t with
 |some ⟨.st f,size,bytes,zero⟩=>(tT tab f).bind fun j=>(lR b parts).bind fun a=>(tR (fun i=>j[i]?) (zero.map .d) a).map qf
 |some ⟨.arr n e,size,bytes,zero⟩=>(tab e).bind fun c=>(lR b parts).bind fun a=>(tR (fun i=>some (i*c.size,c.size)) (zero.map .d) a).map qf
 |_=>none
section
variable{P:Program}{g:Gh}{h:bw}{w:World}{tab:gI}
def rC{a:List D}(b:Dr l=some a):GL g h w (a.map .d) l:=by
 obtain⟨c,e⟩:=mq b;exact GL.Xx c.symm fun i d v f j=>Dt (e i v d j f)
def BL(a:List D):∀x∈a.map V.d,x.one=true:=fun x b=>by
 obtain⟨d,_,rfl⟩:=List.mem_map.1 b;rfl
def yr(a:dN P tab):∀{d:List Field} {c:List (Nat×Nat)},tT tab (d.map fun f=>(f.type,f.offset))=some c->
 (d.mapM fun f=>do pure (f.offset,<-sizeOf f.type):Sem (List (Nat×Nat))).run P w=.ok c w
 |[],c,b=>by cases b;rfl
 |f::d,c,b=>by
  unfold tT at b;simp only[bV]at b;split at b
  .next j l e i=>
   cases b;have ih:=yr a i;simp only[rf,aB,fq (a _ _ e),Result.andThen_ok,cH,ih]
  .cases b
def NM(j:dN P tab){parts:Array (Nat×Operand)}{x:V}{B:Operand->Option V}{ρ:Operand->Value}(X:∀o x,B o=some x->GV g h w x (ρ o))
 (b:yq tab B t parts.toList=some x):∃u,(Instr.build t (parts.map fun(i,x)=>(i,ρ x))).run P w=.ok u w/\GV g h w x u:=by
 unfold yq at b;split at b
 .next fs size bytes zero C=>
  obtain⟨z,r,v,L,M⟩:=ms (j _ _ C) w;obtain⟨d,N,D,O⟩:=dj (j _ _ C) w;cases d<;>simp[eM]at D;rename_i k;subst D;cases J:tT tab (k.toList.map fun f=>(f.type,f.offset))with
  |none=>rw[J]at b;cases b
  |some E=>
   cases y:lR B parts.toList with
   |none=>rw[J,y]at b;cases b
   |some F=>
    rw[J,y]at b;simp only[aT]at b;cases A:tR (fun i=>E[i]?) (zero.map .d) F with
    |none=>rw[A]at b;cases b
    |some out=>
     rw[A]at b;cases b;obtain⟨Q,R⟩:=oM y;obtain⟨l,S,G,T,Z⟩:=tS (fun i=>E[i]?) ρ B X parts.toList F (zero.map .d) z.cells out Q R (rC v) (BL _) A;refine⟨.agg l,?_,?_⟩
     .unfold Instr.build;have c:=yr (w:=w) j J;rw[<-adk]at c;have H:(k.mapM fun f=>do pure (f.offset,<-sizeOf f.type):Sem (Array (Nat×Nat))).run P w=.ok E.toArray w:=by
       generalize (k.mapM fun f=>do pure (f.offset,<-sizeOf f.type):Sem (Array (Nat×Nat)))=s at c|-;have:(Functor.map Array.toList s:Sem (List (Nat×Nat)))=s.bind fun a=>pure a.toList:=rfl;rw[this]at c;have U:(s.bind fun a=>pure a.toList:Sem (List (Nat×Nat))).run P w=(s.run P w).andThen fun a W=>.ok a.toList W:=Sem.run_bind' P s _ w;rw[U]at c;cases Y:s.run P w with
       |ok a W=>rw[Y]at c;simp only[aq,Result.ok.injEq]at c;rw[<-c.1,c.2]
       |halt a W=>rw[Y]at c;cases c
      simp only[aB,r,Result.andThen_ok,N,H];have I:(fun x:Nat=>E.toArray[x]?)=fun i:Nat=>E[i]? :=by funext i;simp
      rw[I];have m:(parts.map fun(i,x)=>(i,ρ x)).toList=parts.toList.map fun p=>(p.1,ρ p.2):=by simp
      rw[m,S];rfl
     .exact(GV.g (g:=g) (h:=h) (w:=w) _ _ (by rw[G.len]) T G.at_).norm
 .next n e size bytes zero C=>
  obtain⟨z,r,v,L,M⟩:=ms (j _ _ C) w;obtain⟨d,N,D,O⟩:=dj (j _ _ C) w;cases d<;>simp[eM]at D;rename_i nn ee;obtain⟨e1,e2⟩:=D;subst e1 e2;cases q:tab ee with
  |none=>rw[q]at b;cases b
  |some K=>
   cases y:lR B parts.toList with
   |none=>rw[q,y]at b;cases b
   |some F=>
    rw[q,y]at b;simp only[aT]at b;cases A:tR (fun i=>some (i*K.size,K.size)) (zero.map .d) F with
    |none=>rw[A]at b;cases b
    |some out=>
     rw[A]at b;cases b;obtain⟨Q,R⟩:=oM y;obtain⟨l,S,G,T,Z⟩:=tS (fun i=>some (i*K.size,K.size)) ρ B X parts.toList F (zero.map .d) z.cells out Q R (rC v) (BL _) A;refine⟨.agg l,?_,?_⟩
     .unfold Instr.build;simp only[aB,r,Result.andThen_ok,N,fq (j _ _ q)];have m:(parts.map fun(i,x)=>(i,ρ x)).toList=parts.toList.map fun p=>(p.1,ρ p.2):=by simp
      rw[m,S];rfl
     .exact(GV.g (g:=g) (h:=h) (w:=w) _ _ (by rw[G.len]) T G.at_).norm
 .cases b
end
end
section
variable[de]
def chunk{α:Type}(sz:Nat):Nat->List α->List (List α)
 |0,_=>[]
 |n+1,l=>l.take sz::chunk sz n (l.drop sz)
def fF{α:Type}(sz:Nat):∀(n:Nat) (l:List α),(chunk sz n l).length=n
 |0,l=>rfl
 |n+1,l=>by simp[chunk,fF sz n]
def rD{α:Type}(sz:Nat):∀(n:Nat) (l:List α) (i:Nat) (r:List α),(chunk sz n l)[i]? =some r->r=(l.drop (i*sz)).take sz
 |0,l,i,r,h=>by simp[chunk]at h
 |n+1,l,0,r,h=>by simp[chunk]at h;simp[h]
 |n+1,l,i+1,r,h=>by
  simp only[chunk,ap]at h;rw[rD sz n _ i r h,List.drop_drop]
  congr 2
  rw[bp];omega
def kO{α:Type}{l:List α}{r:List α}{x:α}(h:(chunk sz n l)[i]? =some r)(a:r[j]? =some x):l[i*sz+j]? =some x/\j<sz:=by
 rw[rD sz n l i r h,List.getElem?_take]at a;split at a
 .next b=>rw[bd]at a;exact⟨a,b⟩
 .cases a
def rE{α:Type}{l:List α}(c:l.length=n*sz):∀r∈chunk sz n l,r.length=sz:=by
 intro r d;obtain⟨i,b⟩:=List.getElem?_of_mem d;have a:=(List.getElem?_eq_some_iff.1 b).1;rw[fF]at a;rw[rD sz n l i r b,List.length_take,cS,c];have:(i+1)*sz<=n*sz:=Nat.mul_le_mul_right _ a;rw[bp]at this;omega
def vE{α:Type}{l:List α}{r:List α}{x:α}(a:r∈chunk sz n l)(b:x∈r):x∈l:=by
 obtain⟨i,c⟩:=List.getElem?_of_mem a;obtain⟨j,d⟩:=List.getElem?_of_mem b;exact ag (kO c d).1
section
variable{P:Program}{g:Gh}{h:bw}{w:World}{tab:gI}
def lm(b:n<=q)(c:q<m)(a:up U q true k=true):U k=true\/(n<=k/\k<m):=by
 rw[gJ]at a;split at a
 .subst_vars;exact .inr ⟨b,c⟩
 .exact .inl a
def DA(y:Rel g h w)(hq:g.U q=false)(t:TypeId)(cells:List V)(a:Array Value)(sz n m:Nat)(c:Bool)(z:GL g h w cells a.toList)(B:∀x∈cells,x.one=true)
 (f:cells.length=m*sz)(C:n<=m)(D:c=false->n=m):
 Rel {σ:=up g.σ q (some (w.heap.size,sz)),τ:=g.τ,F:=up g.F w 0,U:=up g.U q true} (up h q (some (.row sz (chunk sz n cells) c))) (w.alloc (.cells a t))/\
 Ext g h w {σ:=up g.σ q (some (w.heap.size,sz)),τ:=g.τ,F:=up g.F w 0,U:=up g.U q true} (up h q (some (.row sz (chunk sz n cells) c))) (w.alloc (.cells a t)):=by
 have E:Ext g h w {σ:=up g.σ q (some (w.heap.size,sz)),τ:=g.τ,F:=up g.F w 0,U:=up g.U q true} (up h q (some (.row sz (chunk sz n cells) c))) (w.alloc (.cells a t)):=
  Dj y q (.inl hq) (.cells a t) (some (w.heap.size,sz)) g.τ 0 _ (.inr ⟨hq,sz,rfl⟩) (fun k b G=>.inl G)
   (fun k H I l=>by rw[bI _ _ _ (gA hq H)]at l;exact⟨I,l,.inr ⟨rfl,rfl⟩⟩)
 have o:a.size=m*sz:=by rw[<-aH,z.len,f]
 have A:n*sz<=m*sz:=Nat.mul_le_mul_right _ C;refine xL y hq _ sz _ (fun _=>by simp) ?_;refine .row sz _ c w a t (aR _ _ _) (heap_alloc_new w _) (aR _ _ _) (fun r d=>?_) ?_ ?_ (fun r d x J=>B x (vE d J)) ?_
 .obtain⟨i,p⟩:=List.getElem?_of_mem d;have s:=(List.getElem?_eq_some_iff.1 p).1;rw[fF]at s;rw[rD sz n _ i r p,List.length_take,cS,f];have:(i+1)*sz<=m*sz:=Nat.mul_le_mul_right _ (by omega);rw[bp]at this;omega
 .rw[fF];omega
 .intro e;rw[fF,D e];exact o
 .intro i r j x v p K u;obtain⟨L,M⟩:=kO p K;exact(z.at_ (i*sz+j) x v L (by rw[az];exact u)).ext E
def DB(tab:gI)(n:Nat)(elem:TypeId):Option Out:=
 (tab elem).map fun a=>⟨.p n 0 0,[(n,some (.row a.size [a.zero.map .d] false))],n+1⟩
def row_one(l:List V):chunk l.length 1 l=[l]:=by simp[chunk]
def NN(c:dN P tab)(r:Rel g h w)(hq:g.U q=false){elem:TypeId}{o:Out}(e:DB tab q elem=some o):VS P (Instr.alloc elem true (.tuple #[])) g h w q o:=by
 unfold DB at e;cases b:tab elem with
 |none=>rw[b]at e;cases e
 |some a=>
  rw[b]at e;cases e;obtain⟨z,j,l,s,m⟩:=ms (c _ _ b) w;have f:GL g h w (a.zero.map .d) z.cells.toList:=rC l;have i:(a.zero.map V.d).length=a.size:=by rw[<-f.len,Array.length_toList,m]
  have:=DA r hq elem (a.zero.map .d) z.cells a.size 1 1 false f (BL _) (by omega) (ae _) (fun _=>rfl);have n:chunk a.size 1 (a.zero.map V.d)=[a.zero.map .d]:=by rw[<-i];exact row_one _
  rw[n]at this;refine⟨pt w.heap.size,_,_,?_,?_,this.1,this.2,fun k t=>lm (ae _) (Nat.lt_succ_self _) t⟩
  .unfold Instr.alloc;simp only[aB,j,Result.andThen_ok,newVar,newRow];rfl
  .have:=GV.p (h:=up h q (some (.row a.size [a.zero.map .d] false))) (w:=w.alloc (.cells z.cells elem)) (g:={σ:=up g.σ q (some (w.heap.size,a.size)),τ:=g.τ,F:=up g.F w 0,U:=up g.U q true}) q 0 0 w a.size (aR _ _ _) (aR _ _ _);simpa[ft]using this
def UD(n:Nat)(x:V):Option Out:=
 if x.FG=true then some ⟨.p n 0 0,[(n,some (.row x.cells.length [x.cells] false))],n+1⟩else none
def UE(d:Rel g h w)(hq:g.U q=false){elem:TypeId}{x:V}(e:GV g h w x v){o:Out}(a:UD q x=some o):VS P (Instr.box elem v) g h w q o:=by
 unfold UD at a;split at a
 .next b=>
  cases a;obtain⟨c,hone⟩:=e.cells b;have:=DA d hq elem x.cells v.cells x.cells.length 1 1 false c hone (by omega) (ae _) (fun _=>rfl);rw[row_one]at this;refine⟨pt w.heap.size,_,_,rfl,?_,this.1,this.2,fun k f=>lm (ae _) (Nat.lt_succ_self _) f⟩;have:=GV.p (h:=up h q (some (.row x.cells.length [x.cells] false))) (w:=w.alloc (.cells v.cells elem)) (g:={σ:=up g.σ q (some (w.heap.size,x.cells.length)),τ:=g.τ,F:=up g.F w 0,U:=up g.U q true}) q 0 0 w x.cells.length (aR _ _ _) (aR _ _ _);simpa[ft]using this
 .cases a
def sR(tab:gI)(h:bw)(n:Nat)(t:TypeId)(a x:V):Option Out:=
 match a with
 |.p k i j=>match h k with
  |some (.row sz b c)=>(b[i]?).bind fun r=>(tab t).bind fun d=>
   if x.FG=true/\x.cells.length=d.size/\j+d.size<=r.length then some ⟨.tu [],[(k,some (.row sz (b.set i (eB r j x.cells)) c))],n⟩else none
  |_=>none
 |_=>none
def NO(Q:dN P tab)(hr:Rel g h w){nn:Nat}{a x:V}{o:Out}(s:sR tab h nn t a x=some o){va z:Value}(ha:GV g h w a va)(hx:GV g h w x z):
 ∃w',(Instr.storeAt t va z).run P w=.ok () w'/\Rel g (ft h o.us) w'/\Ext g h w g (ft h o.us) w'/\o.n=nn/\o.x=.tu []:=by
 unfold sR at s;split at s
 .next k i j=>
  split at s
  .next sz A R S=>
   cases f:A[i]? with
   |none=>rw[f]at s;cases s
   |some r=>
    cases J:tab t with
    |none=>rw[f,J]at s;cases s
    |some ti=>
     rw[f,J]at s;simp only[aT]at s;split at s
     .next hc=>
      obtain⟨g7,g8,mp⟩:=hc;cases s;obtain⟨F,hone⟩:=hx.cells g7;obtain⟨n6,b,d,B,rfl⟩:=ha.sB;have T:=hr.obj k _ S;have ii:=wR hr S B;subst ii;cases T with
      |nilvec _ h1=>simp at f
      |row _ _ _ b' c ct U hb hF K pm io C D=>
       rw[B]at U;cases U;have hi:=(List.getElem?_eq_some_iff.1 f).1;have W:=K r (List.mem_of_getElem? f);have X:(i+1)*d<=A.length*d:=Nat.mul_le_mul_right _ hi;rw[bp]at X;have ip:z.cells.toList.length=ti.size:=by rw[F.len,g8]
       have i8:c.toList.length=c.size:=Array.length_toList;have Y:=run_storeCells_at (P:=P) b (i*d+j) ct z.cells.toList 0 c w hb (by omega) (fun v hv=>by
        obtain⟨q,hq⟩:=List.getElem?_of_mem hv;have Z:=(List.getElem?_eq_some_iff.1 hq).1;have am:=List.getElem?_eq_getElem (l:=x.cells) (i:=q) (by rw[<-F.len];exact Z);exact(F.at_ q _ v am hq).one (hone _ (List.mem_of_getElem? am)))
       have jp:c.toList.take (i*d+j+0)++z.cells.toList++c.toList.drop (i*d+j+0+z.cells.toList.length)=eB c.toList (i*d+j) z.cells.toList:=by
        simp[eB]
       rw[jp]at Y;have E:(eB c.toList (i*d+j) z.cells.toList).length=c.size:=by rw[iO (by omega),i8]
       have a5:At w (w.setRow b (eB c.toList (i*d+j) z.cells.toList).toArray) b:=⟨rfl,rfl,rfl,setRow_size _ _ _,fun y hy=>setRow_other w b y _ hy⟩;have a9:=setRow_heap w b c (eB c.toList (i*d+j) z.cells.toList).toArray ct (0,0) hb;have he:=Dm (h':=up h k (some (.row d (A.set i (eB r j x.cells)) R))) hr B (by rw[S];simp) (fun n=>by rw[S];simp) hb hF a5 a9 (by simpa using E) (fun q hq=>bI _ _ _ hq) (fun n=>by rw[aR];simp);refine⟨_,?_,?_,he,rfl,rfl⟩
       .unfold Instr.storeAt;have L:(Instr.sureAddr (.pointer (b,i*d+j))).run P w=.ok (b,i*d+j) w:=rfl;simp only[aB,L,Result.andThen_ok];unfold storeVar;have em:¬z.cells.size≠ti.size:=by rw[aH]at ip;omega
        simp only[aB,fq (Q _ _ J),Result.andThen_ok,aI em];exact Y
       .refine rp hr B S (fun n=>by simp) (fun n=>by simp) a5 he ?_;refine .row d _ R b _ ct B a9 hF ?_ ?_ ?_ ?_ ?_
        .intro O M;rcases su M with h1|h1
         .exact K O h1
         .rw[h1,iO (by omega)];exact W
        .rw[eI];simp only[bj];omega
        .intro e;rw[eI];simp only[bj];rw[E];exact io e
        .intro O M y hy;rcases su M with h1|h1
         .exact C O h1 y hy
         .subst h1;rcases yp hy with h2|h2
          .exact C r (List.mem_of_getElem? f) y h2
          .exact hone y h2
        .intro N O G y u p m H;rw[cK,my (by omega)]at H;rw[jY]at p;by_cases eq:i=N
         .subst eq;rw[aS rfl,if_pos hi]at p;simp only[aK]at p;subst p;have I:=(List.getElem?_eq_some_iff.1 m).1;rw[iO (by omega)]at I;rw[my (by omega)]at m;by_cases ge:j<=G/\G<j+x.cells.length
          .rw[aS ge]at m;rw[aS (by omega)]at H;have:i*d+G-(i*d+j)=G-j:=by omega
           rw[this]at H;exact(F.at_ _ y u m H).ext he
          .rw[aI ge]at m;rw[aI (by omega),az]at H;exact(D i r G y u f m H).ext he
         .rw[aI eq]at p;have I:=(List.getElem?_eq_some_iff.1 m).1;have qr:=K O (List.mem_of_getElem? p);have lw:¬(i*d+j<=N*d+G/\N*d+G<i*d+j+z.cells.toList.length):=by
           rcases cD i N with h1|h1
           .have:(i+1)*d<=N*d:=Nat.mul_le_mul_right _ h1;rw[bp]at this;omega
           .have:(N+1)*d<=i*d:=Nat.mul_le_mul_right _ (by omega);rw[bp]at this;omega
          rw[aI lw,Array.getElem?_toList]at H;exact(D N O G y u p m H).ext he
     .cases s
  .cases s
 .cases s
end
end
section
variable[de]
def Ya:V->Option D
 |.d x=>some x
 |.t _ _ sz a=>some (.l sz a)
 |_=>none
def QE:List V->Option (List D)
 |[]=>some []
 |x::a=>match Ya x,QE a with
  |some d,some b=>some (d::b)
  |_,_=>none
def yt:List (List V)->Option (List (List D))
 |[]=>some []
 |x::a=>match QE x,yt a with
  |some d,some b=>some (d::b)
  |_,_=>none
def qj:∀{e:List V} {c:List D},QE e=some c->c.length=e.length/\∀(i:Nat) d,c[i]? =some d->∃x,e[i]? =some x/\Ya x=some d
 |[],c,h=>by cases h;exact⟨rfl,fun i d h=>by simp at h⟩
 |x::e,c,h=>by
  unfold QE at h;split at h
  .next d j k l=>
   cases h;obtain⟨a,b⟩:=qj l;refine⟨by simp[a],fun i m f=>?_⟩;cases i with
   |zero=>simp at f;subst f;exact⟨x,rfl,k⟩
   |succ i=>exact b i m (by simpa using f)
  .cases h
def vF:∀{e:List (List V)} {c:List (List D)},yt e=some c->c.length=e.length/\∀(i:Nat) d,c[i]? =some d->∃x,e[i]? =some x/\QE x=some d
 |[],c,h=>by cases h;exact⟨rfl,fun i d h=>by simp at h⟩
 |x::e,c,h=>by
  unfold yt at h;split at h
  .next d j k l=>
   cases h;obtain⟨a,b⟩:=vF l;refine⟨by simp[a],fun i m f=>?_⟩;cases i with
   |zero=>simp at f;subst f;exact⟨x,rfl,k⟩
   |succ i=>exact b i m (by simpa using f)
  .cases h
def QF{g:Gh}{h:bw}{w:World}{x:V}{d:D}(a:Ya x=some d)(b:GV g h w x v):RD g.F w d v:=by
 unfold Ya at a;split at a
 .cases a;exact b.cG
 .cases a;exact b.tO.2.1
 .cases a
def jQ(h:bw)(size:Nat)(x:V):Option (List (List D)):=
 match x with
 |.d .z=>some []
 |.d (.l sz a)=>if sz=size then some a else none
 |.t _ _ sz a=>if sz=size then some a else none
 |.v k b n=>match h k with
  |some (.row sz a _)=>if sz=size/\b+n<=a.length then yt ((a.drop b).take n)else none
  |_=>none
 |_=>none
def nj(h:bw)(size:Nat)(x:V):Option (List (List V)):=
 match x with
 |.d .z=>some []
 |.d (.l sz a)=>if sz=size then some (a.map (·.map .d))else none
 |.t _ _ sz a=>if sz=size then some (a.map (·.map .d))else none
 |.v k b n=>match h k with
  |some (.row sz a _)=>if sz=size/\b+n<=a.length then some ((a.drop b).take n)else none
  |_=>none
 |_=>none
structure FU(P:Program)(g:Gh)(h:bw)(w:World)(size:Nat)(tx:TypeId)(v:Value)(rows:List (List V))(news:List Value):Prop where
 src:Src P size tx v rows.length news w
 len:∀r∈rows,r.length=size
 one:∀r∈rows,∀x∈r,x.one=true
 at_:∀(i:Nat) r (j:Nat) x u,rows[i]? =some r->r[j]? =some x->news[i*size+j]? =some u->GV g h w x u
def QG(q s:Nat):q/s*s+q % s=q:=by rw[Nat.mul_comm];exact Nat.div_add_mod q s
section
variable{P:Program}{g:Gh}{h:bw}{w:World}{tab:gI}
def rF{off:Nat}{d:Nat×Nat}(e:w.heap[b]? =some (.cells c t d))(f:off+n<=c.size):
 ((c.toList.drop off).take n).length=n/\(∀(j:Nat) u,((c.toList.drop off).take n)[j]? =some u->w.cell? (((b,off):Addr).add j)=some u)/\(∀(j:Nat) u,((c.toList.drop off).take n)[j]? =some u->c[off+j]? =some u):=by
 refine⟨by simp;omega,fun j u a=>?_,fun j u a=>?_⟩
 .rw[add_mid,jG w b _ c t d e];rw[br]at a;split at a
  .rw[bd,az]at a;exact a
  .cases a
 .rw[br]at a;split at a
  .rw[bd,az]at a;exact a
  .cases a
def rG{K Q:TypeId}(L:P.underlying K=some (.slice Q)){a:List (List D)}(H:RD g.F w (.l size a) v):∃z,FU P g h w size K v (a.map (·.map .d)) z:=by
 rcases H.qi with⟨rfl,rfl⟩|⟨b,k,cap,c,U,V,rfl,R,W,X,M,Y,N,t⟩
 .exact⟨[],Src.ofNil w L 0,by simp,by simp,fun i r j x u f=>by simp at f⟩
 .obtain⟨O,S,T⟩:=rF (w:=w) R (n:=a.length*size) (off:=k) (by omega);have m:∀(i:Nat) r (j:Nat) d u,a[i]? =some r->r[j]? =some d->((c.toList.drop k).take (a.length*size))[i*size+j]? =some u->RD g.F w d u:=fun i r j d u f o A=>by
   have:=T _ u A;rw[<-cZ]at this;exact t i r j d u f o this
  refine⟨(c.toList.drop k).take (a.length*size),?_,?_,?_,?_⟩
  .rw[aj];refine Ud w L _ _ _ _ O S fun u A=>?_;obtain⟨q,hq⟩:=List.getElem?_of_mem A;have e:=(List.getElem?_eq_some_iff.1 hq).1;rw[O]at e;have p:0<size:=by
    rcases cz size with h0|h0
    .rw[h0,Nat.mul_zero]at e;omega
    .exact h0
   have B:=(Nat.div_lt_iff_lt_mul p).2 e;have s:=List.getElem?_eq_getElem B;have C:=N _ (List.mem_of_getElem? s);have E:q % size<(a[q/size]).length:=by rw[C];exact Nat.mod_lt _ p
   refine(m (q/size) _ (q % size) _ u s (List.getElem?_eq_getElem E) ?_).one;rw[QG];exact hq
  .intro r y;obtain⟨G,h0,rfl⟩:=List.mem_map.1 y;rw[aj];exact N G h0
  .intro r y x H;obtain⟨G,h0,rfl⟩:=List.mem_map.1 y;obtain⟨d,_,rfl⟩:=List.mem_map.1 H;rfl
  .intro i r j x u f o A;rw[ai]at f;cases I:a[i]? with
   |none=>rw[I]at f;cases f
   |some G=>
    rw[I]at f;simp only[cj,aK]at f;subst f;rw[ai]at o;cases J:G[j]? with
    |none=>rw[J]at o;cases o
    |some d=>
     rw[J]at o;simp only[cj,aK]at o;subst o;exact .d _ _ (m i G j d u I J A)
def xP(hrel:Rel g h w){W e':TypeId}(D:P.underlying W=some (.slice e')){x:V}{rows:List (List V)}(m:nj h size x=some rows)(G:GV g h w x v):∃s,FU P g h w size W v rows s:=by
 unfold nj at m;split at m
 .cases m;cases G.cG;exact⟨[],Src.ofNil w D 0,by simp,by simp,fun i r j x u t=>by simp at t⟩
 .split at m
  .next e=>subst e;cases m;exact rG D G.cG
  .cases m
 .split at m
  .next e=>subst e;cases m;exact rG D G.tO.2.1
  .cases m
 .next k p n=>
  split at m
  .next sz f am H=>
   split at m
   .next hc=>
    obtain⟨rfl,X⟩:=hc;cases m;have o:n=0->∃s,FU P g h w sz W v ((f.drop p).take n) s:=by
     rintro rfl;refine⟨[],?_,by simp,by simp,fun i r j x u t=>by simp at t⟩;rcases G.pq.2 with⟨_,_,_,rfl⟩|⟨_,a,rfl⟩|⟨b,l,cap,c,t',fz,U,rfl,Y,I,hn⟩
     .exact Src.ofNil w D 0
     .exact Ud w D _ _ _ _ (by simp) (fun j u J=>by simp at J) (by simp)
     .exact Ud w D _ _ _ _ (by simp) (fun j u J=>by simp at J) (by simp)
    rcases G.pq.2 with⟨_,h0,_,_⟩|⟨h0,_⟩|⟨b,l,cap,c,t',fz,U,rfl,Y,I,hn⟩
    .exact o h0
    .exact o h0
    .have Z:=wR hrel H U;subst Z;have K:=hrel.obj k _ H;cases K with
     |nilvec _ h1=>rw[U]at h1;cases h1
     |row _ _ _ b2 c2 t2 L M hF N a5 a9 O E=>
      rw[U]at L;cases L;rw[Y]at M;cases M;have hl:((f.drop p).take n).length=n:=by simp;omega
      have Q:(p+n)*l<=f.length*l:=Nat.mul_le_mul_right _ X;rw[bp]at Q;obtain⟨s1,s2,s3⟩:=rF (w:=w) Y (n:=n*l) (off:=p*l) (by omega);have z:∀(i:Nat) r,((f.drop p).take n)[i]? =some r->f[p+i]? =some r:=fun i r t=>by
       rw[br]at t;split at t
       .rw[bd]at t;exact t
       .cases t
      have A:∀(i:Nat) r (j:Nat) d u,((f.drop p).take n)[i]? =some r->r[j]? =some d->((c.toList.drop (p*l)).take (n*l))[i*l+j]? =some u->GV g h w d u:=fun i r j d u t J hu=>by
       have h3:=s3 _ u hu;rw[<-cZ,<-bp]at h3;exact E (p+i) r j d u (z i r t) J h3
      refine⟨(c.toList.drop (p*l)).take (n*l),?_,?_,?_,A⟩
      .rw[hl];refine Ud w D _ _ _ _ s1 s2 fun u hu=>?_;obtain⟨q,hq⟩:=List.getElem?_of_mem hu;have y:=(List.getElem?_eq_some_iff.1 hq).1;rw[s1]at y;have B:0<l:=by
        rcases cz l with h0|h0
        .rw[h0,Nat.mul_zero]at y;omega
        .exact h0
       have R:q/l<((f.drop p).take n).length:=by rw[hl];exact(aai B).2 y
       have S:=List.getElem?_eq_getElem R;have C:=List.mem_of_getElem? (z _ _ S);have T:q % l<(((f.drop p).take n)[q/l]).length:=by rw[N _ C];exact Nat.mod_lt _ B
       have hy:=List.getElem?_eq_getElem T;refine(A (q/l) _ (q % l) _ u S hy ?_).one (O _ C _ (List.mem_of_getElem? hy));rw[QG];exact hq
      .exact fun r F=>N r (List.mem_of_mem_drop (bz F))
      .exact fun r F=>O r (List.mem_of_mem_drop (bz F))
   .cases m
  .cases m
 .cases m
structure UF(P:Program)(g:Gh)(w:World)(size:Nat)(tx:TypeId)(v:Value)(rows:List (List D))(news:List Value):Prop where
 src:Src P size tx v rows.length news w
 len:∀r∈rows,r.length=size
 at_:∀(i:Nat) r (j:Nat) x u,rows[i]? =some r->r[j]? =some x->news[i*size+j]? =some u->RD g.F w x u
def FU.Ya{L:TypeId}{A:List (List V)}{B:List Value}(s:FU P g h w size L v A B){M:List (List D)}(O:yt A=some M):UF P g w size L v M B:=by
 obtain⟨Q,N⟩:=vF O;refine⟨by rw[Q];exact s.src,fun r R=>?_,fun i r j d u H S T=>?_⟩
 .obtain⟨i,H⟩:=List.getElem?_of_mem R;obtain⟨x,C,E⟩:=N i r H;rw[(qj E).1];exact s.len x (List.mem_of_getElem? C)
 .obtain⟨x,C,E⟩:=N i r H;obtain⟨y,I,J⟩:=(qj E).2 j d S;exact QF J (s.at_ i x j y u C I T)
def FU.ofMap{C:TypeId}{A:List (List D)}{B:List Value}(s:FU P g h w size C v (A.map (·.map .d)) B):UF P g w size C v A B:=by
 refine⟨by have:=s.src;rwa[aj]at this,fun r E=>?_,fun i r j d u H I J=>?_⟩
 .have:=s.len (r.map .d) (List.mem_map.2 ⟨r,E,rfl⟩);rwa[aj]at this
 .exact(s.at_ i (r.map .d) j (.d d) u (by rw[ai,H];rfl) (by rw[ai,I];rfl) J).cG
def DC(hrel:Rel g h w){o q:TypeId}(j:P.underlying o=some (.slice q)){x:V}{c:List (List D)}(b:jQ h size x=some c)(l:GV g h w x v):∃a,UF P g w size o v c a:=by
 unfold jQ at b;split at b
 .cases b;obtain⟨a,f⟩:=xP hrel j (x:=.d .z) (rows:=[]) rfl l;exact⟨a,f.Ya rfl⟩
 .split at b
  .next e=>
   subst e;cases b;obtain⟨a,f⟩:=rG (h:=h) j l.cG;exact⟨a,f.ofMap⟩
  .cases b
 .split at b
  .next e=>
   subst e;cases b;obtain⟨a,f⟩:=rG (h:=h) j l.tO.2.1;exact⟨a,f.ofMap⟩
  .cases b
 .next k p n=>
  split at b
  .next sz i r m=>
   split at b
   .next s=>
    obtain⟨a,f⟩:=xP hrel j (x:=.v k p n) (rows:=(i.drop p).take n) (size:=size) (by simp only[nj,m];rw[aS s]) l;exact⟨a,f.Ya b⟩
   .cases b
  .cases b
 .cases b
end
end
section
variable[de]
section
variable{P:Program}{g:Gh}{h:bw}{w:World}{tab:gI}
def lu{k m:TypeId}{i:TypeInfo}(n:P.underlying t=some (.slice e))(o:P.info? e=some i){a:Option Addr}{c:Nat}{x:Value}{d:List Value}
 (j:Src P i.size k x 0 d w)(p:b<=c):(Builtin.append_ #[t,k] m #[.slice a b c,x]).run P w=.ok (.slice a b c) w:=by
 have f:=List.eq_nil_of_length_eq_zero (by rw[j.newsLen,Nat.zero_mul]);subst f;have q:=j.cells;rcases j.kind with⟨r,l⟩|l<;>cases a<;>simp[Builtin.append_,bT n,run_underlying l,sizeOf,typeInfo,o,j.len,p,q,storeCells,pure]
def wS{q ty:TypeId}{i:TypeInfo}(u:P.underlying t=some (.slice e))(v:P.info? e=some i){d:Nat}{x:Value}{c:List Value}{f:Array Value}{r:TypeId}
 (o:Src P i.size q x n c w)(k:a+n<=j)(y:w.heap[b]? =some (.cells f r (0,0)))(l:d+a*i.size+c.length<=f.size):
 (Builtin.append_ #[t,q] ty #[(b,d,a,j),x]).run P w=.ok (b,d,a+n,j) (w.setRow b (eB f.toList (d+a*i.size) c).toArray):=by
 have m:=run_storeCells_at P b (d+a*i.size) r c 0 f w y (by simpa using l) o.one;simp only[dI,bC]at m;have p:eB f.toList (d+a*i.size) c=f.toList.take (d+a*i.size)++(c++f.toList.drop (d+a*i.size+c.length)):=rfl;rw[p];rcases o.kind with⟨z,s⟩|s<;>simp[Builtin.append_,bT u,run_underlying s,sizeOf,typeInfo,v,o.len,k,o.cells,Addr.add_lit,m]
def DD(u:Rel g h w)(e:TypeId)(b:Array Value)(sz cap k f:Nat)(a:List (List D))(x:g.U k=false\/∃n,h k=some (.tok n)/\n<f)
 (E:cap*sz<=b.size)(o:a.length<=cap)(y:∀r∈a,r.length=sz)
 (z:∀(i:Nat) r (j:Nat) d v,a[i]? =some r->r[j]? =some d->b[i*sz+j]? =some v->RD g.F w d v):
 Rel {σ:=g.σ,τ:=up g.τ k (some w.heap.size),F:=up g.F w (a.length*sz),U:=up g.U k true} (up h k (some (.tok f))) (w.alloc (.cells b e))/\
 Ext g h w {σ:=g.σ,τ:=up g.τ k (some w.heap.size),F:=up g.F w (a.length*sz),U:=up g.U k true} (up h k (some (.tok f))) (w.alloc (.cells b e))/\
 GV {σ:=g.σ,τ:=up g.τ k (some w.heap.size),F:=up g.F w (a.length*sz),U:=up g.U k true} (up h k (some (.tok f))) (w.alloc (.cells b e)) (.t k f sz a) (w.heap.size,a.length,cap):=by
 obtain⟨A,p⟩:=LM u (.cells b e) (a.length*sz) k f x;have q:a.length*sz<=cap*sz:=Nat.mul_le_mul_right _ o;have c:=heap_alloc_new w (.cells b e);refine⟨A,p,.t k f sz a _ (aR _ _ _) ?_ fun n m=>?_⟩
 .refine .l sz a w 0 cap b e (0,0) c ?_ ?_ (by omega) o y fun i r j d v B C s=>?_
  .show 0+a.length*sz<=up g.F w (a.length*sz) w.heap.size;rw[aR];omega
  .show up g.F w (a.length*sz) w.heap.size<=_;rw[aR];omega
  .rw[bc]at s;exact(z i r j d v B C s).stay p.stays
 .rw[aR]at m;simp only[aK,dX.tok.injEq]at m;subst m;refine⟨ae _,fun _=>.here _ _ _ _ (aR _ _ _) ?_ ⟨b,e,c⟩⟩;show up g.F w (a.length*sz) w.heap.size=_;rw[aR,bc]
def NP(i:Rel g h w)(hq:g.U q=false)(p:Nat):Rel {g with U:=up g.U q true} (up h q (some (.tok p))) w/\Ext g h w {g with U:=up g.U q true} (up h q (some (.tok p))) w:=by
 have s:Ext g h w {g with U:=up g.U q true} (up h q (some (.tok p))) w:={
  n:=fun k f=>tM f,size:=ae _,os:=rfl,tape:=rfl,output:=rfl,stays:=jt.refl _ _,out:=fun _ _ _=>⟨rfl,rfl⟩,own:=fun _ h=>.inl h,sig:=fun _ _=>rfl
  tok:=fun k f n t=>by rw[bI _ _ _ (gA hq f)]at t;exact⟨n,t,.inr ⟨rfl,rfl,fun _ _=>⟨rfl,id⟩⟩⟩}
 refine⟨i.step s (fun k=>g.U k=false) i.lt i.fresh ?_ ?_ ?_ ?_,s⟩
 .intro k f;have d:up g.U q true k=false:=f;have l:k≠q:=fun e=>by rw[e,aR]at d;cases d
  rw[bI _ _ _ l]at d;exact⟨by rw[bI _ _ _ l];exact(i.top k d).1,(i.top k d).2⟩
 .have m:∀k b,dJ {g with U:=up g.U q true} (up h q (some (.tok p))) k=some b->dJ g h k=some b:=by
   intro k b j;by_cases e:k=q
   .subst e;unfold dJ at j;rw[aR]at j;have:=(i.top k hq).2.2;simp only[this]at j;cases j
   .unfold dJ at j|-;rwa[bI _ _ _ e]at j
  intro k u b a c;exact i.inj k u b (m k b a) (m u b c)
 .intro k f;have d:g.U k=true:=by simpa using f
  exact⟨d,bI _ _ _ (gA hq d),fun _ _ _ _ _=>⟨rfl,rfl⟩⟩
 .intro k o f r;by_cases e:k=q
  .subst e;rw[aR]at r;cases r;exact .tok _
  .rw[bI _ _ _ e,(i.top k f).1]at r;cases r
def fits(n bytes:Nat):Prop:=n*(bytes+1)<=140737488355328
instance(n bytes:Nat):Decidable (fits n bytes):=inferInstanceAs (Decidable (_<=_))
def LR{bytes:Nat}(a:fits n bytes):n*bytes<=140737488355328/\n<=140737488355328:=by
 unfold fits at a;rw[NE,iM]at a;omega
def xQ(f:dN P tab){c:List D}(j:tab t=some ⟨.sl e,a,b,c⟩):P.underlying t=some (.slice e):=by
 obtain⟨d,l,i,k⟩:=dj (f _ _ j) default;cases d<;>simp[eM]at i;subst i;exact k
def LS{α:Type}{a k:List (List α)}{b c:List Value}(t:b.length=a.length*sz)(A:c.length=k.length*sz)(u:∀r∈a,r.length=sz)(x:∀r∈k,r.length=sz)
 {r:List α}{d:α}(f:(a++k)[i]? =some r)(y:r[j]? =some d)(o:(b++c++l)[i*sz+j]? =some v):
 (a[i]? =some r/\b[i*sz+j]? =some v)\/∃s,k[s]? =some r/\c[s*sz+j]? =some v:=by
 have z:=(List.getElem?_eq_some_iff.1 y).1;by_cases m:i<a.length
 .left;rw[an m]at f;have n:=u r (List.mem_of_getElem? f);have e:(i+1)*sz<=a.length*sz:=Nat.mul_le_mul_right _ m;rw[bp]at e;rw[bC,an (by omega)]at o;exact⟨f,o⟩
 .right;rw[ay (by omega)]at f;have n:=x r (List.mem_of_getElem? f);have p:=(List.getElem?_eq_some_iff.1 f).1;have e:(i-a.length+1)*sz<=k.length*sz:=Nat.mul_le_mul_right _ p;have q:a.length*sz<=i*sz:=Nat.mul_le_mul_right _ (by omega);rw[bp,iL]at e;refine⟨i-a.length,f,?_⟩;rw[bC,ay (by omega),an (by omega),t]at o;rw[iL];have:i*sz+j-a.length*sz=i*sz-a.length*sz+j:=by omega
  rw[<-this];exact o
def qk(ip:dN P tab)(Y:Rel g h w){tx e':TypeId}{s:TI}(ht:P.underlying t=some (.slice e))(wn:tab e=some s)
 {u:List (List D)}{vx:Value}{o:List Value}(S:UF P g w s.size tx vx u o){rows:List (List D)}{en:Nat}{Z:Value}(ty:TypeId)
 (T:RD g.F w (.l s.size rows) Z)(am:Us g w k s.size Z)(hk:(g.U k=false/\Z=zn)\/h k=some (.tok en))(hf:fits (rows.length+u.length) s.bytes)(B:Nat)(em:B=en+u.length\/g.U k=false):
 ∃v N V,(Builtin.append_ #[t,tx] ty #[Z,vx]).run P w=.ok v N/\GV V (up h k (some (.tok B))) N (.t k B s.size (rows++u)) v/\Rel V (up h k (some (.tok B))) N/\Ext g h w V (up h k (some (.tok B))) N/\∀q,V.U q=true->g.U q=true\/q=k:=by
 have a5:∀q,up g.U k true q=true->g.U q=true\/q=k:=fun q hq=>by
  rw[gJ]at hq;split at hq
  .exact .inr ‹_›
  .exact .inl hq
 obtain⟨i,d,z,hi,hd,hz,hkk,G,ww,hm,hzl,hag⟩:=nN (ip _ _ wn);have C:=S.src;rw[<-G]at C;obtain⟨f1,f2⟩:=LR hf;have Do:z.cells.size=s.size:=by
  have:=(mq hm).1;rw[aH]at this;omega
 rcases cz u.length with h0|hpos
 .have H1:u=[]:=List.eq_nil_of_length_eq_zero h0;subst H1;have A:(Builtin.append_ #[t,tx] ty #[Z,vx]).run P w=.ok Z w:=by
   rcases T.qi with⟨rfl,rfl⟩|⟨b,f,cap,c,t',fz,rfl,hb,hF,In,L,hn,H,I⟩
   .exact lu ht hi C (Nat.le_refl _)
   .exact lu ht hi C hn
  rw[fh];rcases hk with⟨UV,rfl⟩|E
  .obtain⟨a1,a2⟩:=NP Y UV B;refine⟨_,w,_,A,.t _ _ _ _ _ (aR _ _ _) (T.stay a2.stays) fun n hn=>?_,a1,a2,a5⟩;rw[aR]at hn;cases hn;exact⟨ae _,fun _=>.nil _ _⟩
  .have WF:B=en:=by
    rcases em with h1|h1
    .simpa using h1
    .rw[Y.used E]at h1;cases h1
   subst WF;have eq:up h k (some (.tok B))=h:=by
    funext q
    by_cases e:q=k
    .subst e;rw[aR,E]
    .rw[bI _ _ _ e]
   rw[eq];refine⟨_,w,g,A,.t _ _ _ _ _ (Y.used E) T fun n hn=>?_,Y,Ext.refl _ _ _,fun q hq=>.inl hq⟩;rw[E]at hn;cases hn;exact⟨ae _,fun _=>am⟩
 .have a9:∀(x:List Value) (M:Option Addr) (p:Nat),Z=.slice M rows.length p->p<rows.length+u.length->x.length=rows.length*s.size->
   (Builtin.firstCells i.size rows.length (.slice M rows.length p)).run P w.drew=.ok x.toArray w.drew->(∀r∈rows,r.length=s.size)->
   (∀(q:Nat) r (j:Nat) d v,rows[q]? =some r->r[j]? =some d->x[q*s.size+j]? =some v->RD g.F w d v)->
   (g.U k=false\/∃n,h k=some (.tok n)/\n<B)->
   ∃v N V,(Builtin.append_ #[t,tx] ty #[Z,vx]).run P w=.ok v N/\GV V (up h k (some (.tok B))) N (.t k B s.size (rows++u)) v/\Rel V (up h k (some (.tok B))) N/\Ext g h w V (up h k (some (.tok B))) N/\∀q,V.U q=true->g.U q=true\/q=k:=by
   intro x M p i8 L jp lw H ge W;subst i8;have A:=run_append_grow_src (P:=P) w t tx ty e i z ht hi hz M rows.length p x lw vx u.length o C L (by omega) (X7 (by omega) (by rw[ww];exact f1));have WP:Rel g h w.drew:=qd Y rfl rfl rfl rfl;have g7:=S.src.newsLen;have mp:=grownCap_ge w (rows.length+u.length) p e;have n6:((x++o).toArray++Builtin.zeroCells z.cells (grownCap w (rows.length+u.length) p e-(rows.length+u.length))).size=grownCap w (rows.length+u.length) p e*s.size:=by
    rw[jZ,size_zeroCells,Do,Nat.sub_mul,bp];simp only[bj,aO,jp,g7];have:(rows.length+u.length)*s.size<=grownCap w (rows.length+u.length) p e*s.size:=Nat.mul_le_mul_right _ mp;rw[bp]at this;omega
   obtain⟨a1,a2,a3⟩:=DD WP e ((x++o).toArray++Builtin.zeroCells z.cells (grownCap w (rows.length+u.length) p e-(rows.length+u.length))) s.size (grownCap w (rows.length+u.length) p e) k B (rows++u) W
    (
     by rw[n6];exact ae _) (by rw[aO];exact mp) (fun r g8=>by
     rcases aJ.1 g8 with h1|h1
     .exact H r h1
     .exact S.len r h1) (fun q r j d v hq X R=>by
     rw[<-az,gN]at R;have O:=(lq (g:=g) (h:=h) (w:=w) (w':=w.drew) rfl rfl rfl rfl).stays;rcases LS jp g7 H S.len hq X R with⟨c1,c2⟩|⟨q',c1,c2⟩
     .exact(ge q r j d v c1 X c2).stay O
     .exact(S.at_ q' r j d v c1 X c2).stay O)
   simp only[aO]at a1 a2 a3;exact⟨_,_,_,A,a3,a1,(lq (g:=g) (h:=h) (w:=w) (w':=w.drew) rfl rfl rfl rfl).trans a2,a5⟩
  have W:g.U k=false\/∃n,h k=some (.tok n)/\n<B:=by
   rcases hk with⟨h1,_⟩|h2
   .exact .inl h1
   .rcases em with h3|h3
    .exact .inr ⟨en,h2,by omega⟩
    .exact .inl h3
  rcases T.qi with⟨rfl,rfl⟩|⟨b,f,cap,c,t',fz,rfl,hb,hF,In,L,hn,H,I⟩
  .exact a9 [] none 0 rfl (by simp;omega) (by simp) (adp w.drew _ _ _ _) (by simp) (fun q r j d v hq=>by simp at hq) W
  .by_cases J:rows.length+u.length<=cap
   .cases am with
    |full a n=>omega
    |here b f n cc g1 g2 g3=>
     rcases hk with⟨_,h1⟩|E
     .cases h1
     .obtain⟨c0,t0,pm⟩:=g3;rw[hb]at pm;cases pm;have qr:(rows.length+u.length)*s.size<=cap*s.size:=Nat.mul_le_mul_right _ J;have g7:=S.src.newsLen;rw[bp]at qr;have Q:f+rows.length*i.size+o.length<=c.size:=by rw[G];omega
      have A:=wS (ty:=ty) ht hi C J hb Q;have K:(eB c.toList (f+rows.length*i.size) o).length=c.size:=by rw[iO (by rw[aH];exact Q),Array.length_toList]
      have hat:At w (w.setRow b (eB c.toList (f+rows.length*i.size) o).toArray) b:=⟨rfl,rfl,rfl,setRow_size _ _ _,fun y hy=>setRow_other w b y _ hy⟩;have ii:=setRow_heap w b c (eB c.toList (f+rows.length*i.size) o).toArray t' (0,0) hb;have rg:∀q,(eB c.toList (f+rows.length*i.size) o).toArray[q]? =if f+rows.length*i.size<=q/\q<f+rows.length*i.size+o.length then o[q-(f+rows.length*i.size)]? else c[q]? :=fun q=>by
       rw[cK,my (by rw[aH];exact Q)];split
       .rfl
       .exact az ..
      have hnn:B=en+u.length:=by
       rcases em with h3|h3
       .exact h3
       .rw[Y.used E]at h3;cases h3
      obtain⟨a1,a2⟩:=Qp (n':=B) (m:=f+(rows.length+u.length)*s.size) Y E g1 (by omega) hb hat ii (by simpa using K) (by rw[bp];omega) (by rw[bp];omega)
       (fun q hq=>by rw[rg,if_neg (by rw[G];omega)])
      refine⟨_,_,_,A,?_,a1,a2,fun q hq=>.inl hq⟩;refine .t _ _ _ _ _ (Y.used E) ?_ fun n un=>?_
      .have:=RD.l (F:=up g.F b (f+(rows.length+u.length)*s.size)) (w:=w.setRow b (eB c.toList (f+rows.length*i.size) o).toArray) s.size (rows++u) b f cap _ t' (0,0) ii (by rw[aR,aO];exact ae _)
        (
         by rw[aR];simp only[bj];rw[K,Nat.add_mul];omega) (by simp only[bj];rw[K];exact L) (by rw[aO];exact J) (fun r g8=>by
         rcases aJ.1 g8 with h1|h1
         .exact H r h1
         .exact S.len r h1) (fun q r j d v hq X R=>by
         rw[rg]at R;have O:=a2.stays;have hjl:=(List.getElem?_eq_some_iff.1 X).1;by_cases ut:q<rows.length
         .rw[an ut]at hq;have wl:=H r (List.mem_of_getElem? hq);have io:(q+1)*s.size<=rows.length*s.size:=Nat.mul_le_mul_right _ ut;rw[bp]at io;rw[aI (by rw[G];omega)]at R;exact(I q r j d v hq X R).stay O
         .rw[ay (by omega)]at hq;have wl:=S.len r (List.mem_of_getElem? hq);have hql:=(List.getElem?_eq_some_iff.1 hq).1;have io:(q-rows.length+1)*s.size<=u.length*s.size:=Nat.mul_le_mul_right _ hql;have hm2:rows.length*s.size<=q*s.size:=Nat.mul_le_mul_right _ (by omega);rw[bp,iL]at io;rw[aS (by rw[G];omega)]at R;refine(S.at_ (q-rows.length) r j d v hq X ?_).stay O;rw[iL];have:f+q*s.size+j-(f+rows.length*i.size)=q*s.size-rows.length*s.size+j:=by rw[G];omega
          rw[<-this];exact R)
       rw[aO]at this;exact this
      .rw[aR]at un;cases un;refine⟨ae _,fun _=>.here _ _ _ _ g1 ?_ ⟨_,t',ii⟩⟩;show up g.F b _ b=_;rw[aR]
   .obtain⟨s1,s2,s3⟩:=rF (w:=w) hb (n:=rows.length*s.size) (off:=f) (by omega);refine a9 ((c.toList.drop f).take (rows.length*s.size)) _ cap rfl (by omega) s1 ?_ H (fun q r j d v hq X R=>?_) W
    .rw[G];exact FB w.drew s.size rows.length (b,f) rows.length cap _ s1 (by simpa using s2)
    .have:=s3 _ v R;rw[<-cZ]at this;exact I q r j d v hq X this
