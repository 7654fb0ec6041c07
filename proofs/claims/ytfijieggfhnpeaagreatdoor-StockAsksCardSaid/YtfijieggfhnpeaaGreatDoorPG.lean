/- Part of the proof: see the last text. -/
import Derived.Test.YtfijieggfhnpeaaGreatDoorPF
import Derived.Test.YtfijieggfhnpeaaGreatDoorCards
import Derived.SevenTiedAt
set_option linter.all false
set_option maxRecDepth 100000
set_option synthInstance.maxSize 100000
namespace Go.Proofs.YtfijieggfhnpeaaGreatDoor
def OI:Tryz.pinned.checked.prog.mainIs=some (Rows.stockReadsCard.stood.harness.fst,Rows.stockReadsCard.stood.harness.snd.toList):=by kernel_rfl
def OJ:false=Tryz.pinned.checked.prog.looks []:=by kernel_rfl
end Go.Proofs.YtfijieggfhnpeaaGreatDoor
