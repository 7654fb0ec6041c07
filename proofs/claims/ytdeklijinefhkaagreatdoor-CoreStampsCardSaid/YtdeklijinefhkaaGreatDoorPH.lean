/- Part of the proof: see the last text. -/
import Derived.Test.YtdeklijinefhkaaGreatDoorPG
import Derived.Test.YtdeklijinefhkaaGreatDoorCards
import Derived.SevenTiedAt
set_option linter.all false
set_option maxRecDepth 100000
set_option synthInstance.maxSize 100000
namespace Go.Proofs.YtdeklijinefhkaaGreatDoor
def LR:Tryz.pinned.checked.prog.mainIs=some (Rows.storeRepliesCard.stood.harness.fst,Rows.storeRepliesCard.stood.harness.snd.toList):=by kernel_rfl
def LS:false=Tryz.pinned.checked.prog.looks []:=by kernel_rfl
end Go.Proofs.YtdeklijinefhkaaGreatDoor
