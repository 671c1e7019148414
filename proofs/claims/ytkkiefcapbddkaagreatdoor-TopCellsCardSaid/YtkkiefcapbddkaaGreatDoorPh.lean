/- part of topCells.proved -/
import Derived.Test.YtkkiefcapbddkaaGreatDoorPa
set_option linter.all false
set_option maxRecDepth 1000000
set_option maxHeartbeats 0
noncomputable section
namespace Go.Proofs.YtkkiefcapbddkaaGreatDoor.topCells
open Go.ChangeShapes Go.WideShapes Go.ChangeAt Go.RowKit Mem Opn Lib
abbrev N0:Nat:=(World.settled tp default).heap.size
abbrev lT(a:Os):World:=((mm a).forCall (fun _ _=>0) ⟨#[],#[zn,zQ],[]⟩).memory
def l_a:List (String×DataW Unit):=[("unicode/utf8.acceptRanges",Rows.laid_unicode_utf8_acceptRanges)]
def acO(a:Os):(DataW.laidRun tp (lT a) 8 (l_a.map (·.1))).map (·.1)=some l_a:=by kernel_rfl
def acP(a:Os):(DataW.laidRun tp (lT a) 8 (l_a.map (·.1))).map (fun x=>nodupB (x.2.map MemPlace.codeOf))=some true:=by kernel_rfl
def acQ(a:Os):(DataW.laidRun tp (lT a) 8 (l_a.map (·.1))).map (fun x=>laidRowsB tp (lT a) x.2)=some true:=by kernel_rfl
def acR(a:Os):(DataW.laidRun tp (lT a) 8 (l_a.map (·.1))).map (fun x=>x.2.all fun p=>(List.contains [2] p.block))=some true:=by kernel_rfl
def acS(a:Os):LaidIn tp (lT a) l_a [2]:=Jo [2] 8 (acO a) (acP a) (acQ a) (acR a)
def l_w:List (String×DataW Unit):=[("unicode.White_Space",Rows.laid_unicode_White_Space)]
def acT(a:Os):(DataW.laidRun tp (lT a) 8 (l_w.map (·.1))).map (·.1)=some l_w:=by kernel_rfl
def acU(a:Os):(DataW.laidRun tp (lT a) 8 (l_w.map (·.1))).map (fun x=>nodupB (x.2.map MemPlace.codeOf))=some true:=by kernel_rfl
def acV(a:Os):(DataW.laidRun tp (lT a) 8 (l_w.map (·.1))).map (fun x=>laidRowsB tp (lT a) x.2)=some true:=by kernel_rfl
def acW(a:Os):(DataW.laidRun tp (lT a) 8 (l_w.map (·.1))).map (fun x=>x.2.all fun p=>(List.contains [4,N0+1,N0] p.block))=some true:=by kernel_rfl
def acX(a:Os):LaidIn tp (lT a) l_w [4,N0+1,N0]:=Jo [4,N0+1,N0] 8 (acT a) (acU a) (acV a) (acW a)
def l_s:List (String×DataW Unit):=[("strings.asciiSpace",Rows.laid_strings_asciiSpace)]
def acY(a:Os):(DataW.laidRun tp (lT a) 8 (l_s.map (·.1))).map (·.1)=some l_s:=by kernel_rfl
def acZ(a:Os):(DataW.laidRun tp (lT a) 8 (l_s.map (·.1))).map (fun x=>nodupB (x.2.map MemPlace.codeOf))=some true:=by kernel_rfl
def ac0(a:Os):(DataW.laidRun tp (lT a) 8 (l_s.map (·.1))).map (fun x=>laidRowsB tp (lT a) x.2)=some true:=by kernel_rfl
def ac1(a:Os):(DataW.laidRun tp (lT a) 8 (l_s.map (·.1))).map (fun x=>x.2.all fun p=>(List.contains [3] p.block))=some true:=by kernel_rfl
def ac2(a:Os):LaidIn tp (lT a) l_s [3]:=Jo [3] 8 (acY a) (acZ a) (ac0 a) (ac1 a)
def l_f:List (String×DataW Unit):=[("unicode/utf8.first",Rows.laid_unicode_utf8_first)]
def ac3(a:Os):(DataW.laidRun tp (lT a) 8 (l_f.map (·.1))).map (·.1)=some l_f:=by kernel_rfl
def ac4(a:Os):(DataW.laidRun tp (lT a) 8 (l_f.map (·.1))).map (fun x=>nodupB (x.2.map MemPlace.codeOf))=some true:=by kernel_rfl
def ac5(a:Os):(DataW.laidRun tp (lT a) 8 (l_f.map (·.1))).map (fun x=>laidRowsB tp (lT a) x.2)=some true:=by kernel_rfl
def ac6(a:Os):(DataW.laidRun tp (lT a) 8 (l_f.map (·.1))).map (fun x=>x.2.all fun p=>(List.contains [1] p.block))=some true:=by kernel_rfl
def ac7(a:Os):LaidIn tp (lT a) l_f [1]:=Jo [1] 8 (ac3 a) (ac4 a) (ac5 a) (ac6 a)
def T8(a:Os):laidMet tp Rows.topCellsRow.laid (lT a):=
 ((((acS a).append (acX a) (by kernel_rfl)).append (ac2 a) (by kernel_rfl)).append (ac7 a) (by kernel_rfl)).met
