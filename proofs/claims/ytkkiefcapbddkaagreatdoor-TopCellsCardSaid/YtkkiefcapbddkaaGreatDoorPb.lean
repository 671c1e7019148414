/- part of topCells.proved -/
import Derived.Test.YtkkiefcapbddkaaGreatDoorPj
set_option linter.all false
set_option maxRecDepth 1000000
set_option maxHeartbeats 0
noncomputable section
namespace Go.Proofs.YtkkiefcapbddkaaGreatDoor.topCells
open Go.ChangeShapes Go.WideShapes Go.ChangeAt Go.RowKit Mem Opn
def acI:Rows.topCellsRow.wfByText (OpenSpec.ofChange Rows.topCellsSpec)=true:=by kernel_rfl
def acJ:Tryz.pinned.checked.prog.mainIs=some (true, "a82048598bdb44953602d76ee421eb5b60200ed997e55fe6edeaa66ea3890d2b".toList):=by kernel_rfl
def Xt:false=Tryz.pinned.checked.prog.looks []:=by kernel_rfl
def abf:Tryz.prog.wantsStandIn 42=false:=by kernel_rfl
def acL:Tryz.prog.wantsStandIn 3=false:=by kernel_rfl
def acM(a:Os):((mm a).forCall (fun _ _=>0) ⟨#[],#[zn,zQ],[]⟩).variablesRefB tp=true:=by kernel_rfl
def acN(a:Os):(((mm a).forCall (fun _ _=>0) ⟨#[],#[zn,zQ],[]⟩).heap.toList.drop Tryz.prog.globals.size).take ((begin tp (fun _ _=>0) default).world.heap.size-Tryz.prog.globals.size)=(begin tp (fun _ _=>0) default).world.heap.toList.drop Tryz.prog.globals.size:=by kernel_rfl
def abg(a:Os):Input.okWideB tp ((mm a).forCall (fun _ _=>0) ⟨#[],#[zn,zQ],[]⟩) 5 ⟨#[],#[zn,zQ],[]⟩=true:=by kernel_rfl
def reads(c:Os){H:Type}(b:TypeId×Value->H):∃x a,DataW.whole b tp ((mm c).forCall (fun _ _=>0) ⟨#[],#[zn,zQ],[]⟩).memory Tryz.f5.params.toList Rows.topCellsSpec.vars false #[Value.slice none 0 0,zQ].toList 8=some (x,[],a):=
 ⟨[.nil,.lit (.int .i64 0)],[],by kernel_rfl⟩
def ac8:Tryz.checked.prog.inits.idxOf? 5=none:=by kernel_rfl
def gD{a b:Bool}(c:a=true)(d:b=true):(a&&b)=true:=by rw[c,d];rfl
def closed:joinedFacts Tryz.pinned.checked.prog 5 Tryz.f5 (OpenSpec.ofChange Rows.topCellsSpec).bare Rows.topCellsRow=true:=by
 unfold joinedFacts;exact gD (gD (gD (gD (gD (gD (gD (gD (gD (gD (gD (gD (gD (gD (gD (gD (gD (gD (gD (gD (gD (gD (gD (gD (gD (gD (gD (gD (gD (gD (gD j0 j1) j2) j3) j4) j5) j6) j7) j8) j9) j10) j11) j12) j13) j14) j15) j16) j17) j18) j19) j20) j21) j22) j23) j24) j25) j26) j27) j28) j29) j30) j31
def Z9:Tryz.pinned.checked.prog.funcNamed Rows.topCellsRow.func=some 5:=by kernel_rfl
def aaa:Tryz.f5.isWrapper Tryz.pinned.checked.prog Rows.topCellsRow.wrapper Rows.topCellsRow.mainSum:=by
 unfold Func.isWrapper;first|(rw[aS (by decide+kernel)];kernel_rfl)|(rw[aI (by decide+kernel)];exact⟨rfl,rfl⟩)
def aab:Tryz.f5.isInstance Tryz.pinned.checked.prog Rows.topCellsRow.origin Rows.topCellsRow.targs:=Jp (by kernel_rfl)
