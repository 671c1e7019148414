/- part of topCells.proved -/
import Derived.Test.YtkkiefcapbddkaaGreatDoorPa
set_option linter.all false
set_option maxRecDepth 1000000
set_option maxHeartbeats 0
noncomputable section
namespace Go.Proofs.YtkkiefcapbddkaaGreatDoor.topCells
open Go.ChangeShapes Go.WideShapes Go.ChangeAt Go.RowKit Mem Opn
def j0:(Rows.topCellsRow.wf (OpenSpec.ofChange (OpenSpec.ofChange Rows.topCellsSpec).bare))=true:=by kernel_rfl
def j1:(laidOutB Tryz.pinned.checked.prog)=true:=by kernel_rfl
def j2:(mapsRowed Tryz.pinned.checked.prog)=true:=by kernel_rfl
def j3:(Tryz.f5.params.all (Tryz.pinned.checked.prog.readableRec ·))=true:=by kernel_rfl
def j4:(namedTie Tryz.pinned.checked.prog Rows.topCellsRow.named (OpenSpec.ofChange Rows.topCellsSpec).bare.vars)=true:=by kernel_rfl
def j5:((Rows.topCellsRow.stops==[]))=true:=by kernel_rfl
def j6:((Tryz.pinned.checked.prog.stops==[]))=true:=by kernel_rfl
def j7:((Rows.topCellsRow.knobs==[]))=true:=by kernel_rfl
def j8:((Tryz.pinned.checked.prog.stopKnobs==[]))=true:=by kernel_rfl
def j9:((Rows.topCellsRow.inPlace==Tryz.pinned.checked.prog.inPlace 5))=true:=by kernel_rfl
def j10:((Rows.topCellsRow.unfollowed==Tryz.pinned.checked.prog.unfollowed 5))=true:=by kernel_rfl
def j11:((Rows.topCellsRow.recurses==Tryz.pinned.checked.prog.recurses 5))=true:=by kernel_rfl
def j12:((Rows.topCellsRow.named==Tryz.pinned.checked.prog.varsNamed 5))=true:=by kernel_rfl
def j13:((Rows.topCellsRow.maps==(Tryz.f5.params.toList++(OpenSpec.ofChange Rows.topCellsSpec).bare.plain.varTypes Tryz.pinned.checked.prog).any (Tryz.pinned.checked.prog.mapsRec ·)))=true:=by kernel_rfl
def j14:((Rows.topCellsRow.ifaces==(Tryz.f5.params.toList++(OpenSpec.ofChange Rows.topCellsSpec).bare.plain.varTypes Tryz.pinned.checked.prog).any (Tryz.pinned.checked.prog.ifacesRec ·)))=true:=by kernel_rfl
def j15:((Rows.topCellsRow.mapsOut==Tryz.pinned.checked.prog.mapsAmong Tryz.f5.resultTypes.toList))=true:=by kernel_rfl
def j16:((Rows.topCellsRow.loops==(Tryz.f5.params.toList++(OpenSpec.ofChange Rows.topCellsSpec).bare.plain.varTypes Tryz.pinned.checked.prog).any (Tryz.pinned.checked.prog.loopsFrom ·)))=true:=by kernel_rfl
def j17:((Rows.topCellsRow.wideKeys==(Tryz.f5.params.toList++(OpenSpec.ofChange Rows.topCellsSpec).bare.plain.varTypes Tryz.pinned.checked.prog++Tryz.f5.resultTypes.toList).any (Tryz.pinned.checked.prog.wideKeysFrom ·)))=true:=by kernel_rfl
def j18:((OpenSpec.ofChange Rows.topCellsSpec).bare.vars.all (Tryz.pinned.checked.prog.varReadable ·))=true:=by kernel_rfl
def j19:(Tryz.f5.resultTypes.all (fun t=>Tryz.pinned.checked.prog.readableRec t&&decide (t<Tryz.pinned.checked.prog.types.size)))=true:=by kernel_rfl
def j20:((Rows.topCellsRow.ifacesOut==Tryz.f5.resultTypes.toList.any (Tryz.pinned.checked.prog.ifacesRec ·)))=true:=by kernel_rfl
def j21:((Rows.topCellsRow.loopsOut==Tryz.f5.resultTypes.toList.any (Tryz.pinned.checked.prog.loopsFrom ·)))=true:=by kernel_rfl
def j22:((Rows.topCellsRow.plainKeys==Tryz.pinned.checked.prog.plainKeys))=true:=by kernel_rfl
def j23:(Rows.topCellsRow.shortTexts.isNone)=true:=by kernel_rfl
def j24:(Tryz.pinned.checked.prog.stopsHeard)=true:=by kernel_rfl
def j25:(Tryz.pinned.checked.prog.mayEnter)=true:=by kernel_rfl
def j26:((Rows.topCellsRow.lifted==Tryz.pinned.checked.prog.liftsFinal))=true:=by kernel_rfl
def j27:((Tryz.pinned.checked.prog.make==some Rows.topCellsRow.make))=true:=by kernel_rfl
def j28:((Rows.topCellsRow.kinds==(if Rows.topCellsRow.domain.isEmpty then[]else Tryz.f5.params.toList.map fun t=>match Tryz.pinned.checked.prog.underlying t with|some (.int k)=>some k|_=>none)))=true:=by kernel_rfl
def j29:((Rows.topCellsRow.pinned==Rows.topCellsRow.pinnedBy))=true:=by kernel_rfl
def j30:((Rows.topCellsRow.veiled==(Tryz.f5.params.toList++(OpenSpec.ofChange Rows.topCellsSpec).bare.plain.varTypes Tryz.pinned.checked.prog++Tryz.f5.resultTypes.toList).any (Tryz.pinned.checked.prog.veiledRec ·)))=true:=by kernel_rfl
def j31:(Rows.topCellsRow.veiledFits Tryz.pinned.checked.prog Tryz.f5.params.toList (Tryz.f5.params.toList++(OpenSpec.ofChange Rows.topCellsSpec).bare.plain.varTypes Tryz.pinned.checked.prog++Tryz.f5.resultTypes.toList))=true:=by kernel_rfl
