/- Part of the proof: see the last text. -/
import Derived.Test.YtibneekkkdnmgaaGreatDoorPG
import Derived.Test.YtibneekkkdnmgaaGreatDoorCards
import Derived.SevenTiedAt
set_option linter.all false
set_option maxRecDepth 100000
set_option synthInstance.maxSize 100000
namespace Go.Proofs.YtibneekkkdnmgaaGreatDoor
def Zg:Tryz.pinned.checked.prog.mainIs=some (Rows.coreServesCard.stood.harness.fst,Rows.coreServesCard.stood.harness.snd.toList):=by kernel_rfl
def Zh:false=Tryz.pinned.checked.prog.looks []:=by kernel_rfl
end Go.Proofs.YtibneekkkdnmgaaGreatDoor
