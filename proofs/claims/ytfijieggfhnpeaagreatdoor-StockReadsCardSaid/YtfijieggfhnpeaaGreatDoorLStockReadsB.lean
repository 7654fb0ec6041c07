/- Part of the proof: see the last text. -/
import Derived.Test.YtfijieggfhnpeaaGreatDoorPF
set_option linter.all false
set_option maxRecDepth 100000
set_option synthInstance.maxSize 100000
namespace Go.Proofs.YtfijieggfhnpeaaGreatDoor.rC
def LW:(Rows.stockReadsRow.inPlace==Tryz.prog.inPlace 3)=true:=by kernel_rfl
def TX:(Rows.stockReadsRow.unfollowed==Tryz.prog.unfollowed 3)=true:=by kernel_rfl
def TW:(Rows.stockReadsRow.recurses==Tryz.prog.recurses 3)=true:=by kernel_rfl
def RY:(Rows.stockReadsRow.named==Tryz.prog.varsNamed 3)=true:=by kernel_rfl
def j9:(Rows.stockReadsRow.wf (OpenSpec.ofChange Rows.stockReadsSpec)&&laidOutB Tryz.prog&&mapsRowed Tryz.prog&&
 Tryz.f3.params.all (Tryz.prog.readableRec ·)&&namedTie Tryz.prog Rows.stockReadsRow.named Rows.stockReadsSpec.vars&&
 (Rows.stockReadsRow.stops==[])&&(Tryz.prog.stops==[])&&(Rows.stockReadsRow.knobs==[])&&(Tryz.prog.stopKnobs==[]))=true:=
 dZ (dZ (dZ (dZ (dZ (dZ (dZ (dZ (by kernel_rfl) p2) p3) (by kernel_rfl)) (by kernel_rfl)) (by kernel_rfl)) (by kernel_rfl)) (by kernel_rfl)) (by kernel_rfl)
def closed:joinedFacts Tryz.prog 3 Tryz.f3 Rows.stockReadsSpec Rows.stockReadsRow=true:=
 dZ (dZ (dZ (dZ (dZ (dZ (dZ (dZ (dZ (dZ (dZ (dZ (dZ (dZ (dZ (dZ (dZ (dZ (dZ (dZ (dZ (dZ (dZ j9 LW) TX) TW) RY) (by kernel_rfl)) (by kernel_rfl)) (by kernel_rfl)) (by kernel_rfl)) (by kernel_rfl)) (by kernel_rfl)) (by kernel_rfl)) (by kernel_rfl)) (by kernel_rfl)) p22) (by kernel_rfl)) p23) Wa) p24) (by kernel_rfl)) (by kernel_rfl)) (by kernel_rfl)) (by kernel_rfl)) (by kernel_rfl)
end Go.Proofs.YtfijieggfhnpeaaGreatDoor.rC
