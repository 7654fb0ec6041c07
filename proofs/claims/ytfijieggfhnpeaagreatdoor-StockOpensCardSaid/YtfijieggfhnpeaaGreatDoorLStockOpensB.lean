/- Part of the proof: see the last text. -/
import Derived.Test.YtfijieggfhnpeaaGreatDoorPF
set_option linter.all false
set_option maxRecDepth 100000
set_option synthInstance.maxSize 100000
namespace Go.Proofs.YtfijieggfhnpeaaGreatDoor.rD
def LW:(Rows.stockOpensRow.inPlace==Tryz.prog.inPlace 4)=true:=by kernel_rfl
def TX:(Rows.stockOpensRow.unfollowed==Tryz.prog.unfollowed 4)=true:=by kernel_rfl
def TW:(Rows.stockOpensRow.recurses==Tryz.prog.recurses 4)=true:=by kernel_rfl
def RY:(Rows.stockOpensRow.named==Tryz.prog.varsNamed 4)=true:=by kernel_rfl
def j9:(Rows.stockOpensRow.wf (OpenSpec.ofChange Rows.stockOpensSpec)&&laidOutB Tryz.prog&&mapsRowed Tryz.prog&&
 Tryz.f4.params.all (Tryz.prog.readableRec ·)&&namedTie Tryz.prog Rows.stockOpensRow.named Rows.stockOpensSpec.vars&&
 (Rows.stockOpensRow.stops==[])&&(Tryz.prog.stops==[])&&(Rows.stockOpensRow.knobs==[])&&(Tryz.prog.stopKnobs==[]))=true:=
 dZ (dZ (dZ (dZ (dZ (dZ (dZ (dZ (by kernel_rfl) p2) p3) (by kernel_rfl)) (by kernel_rfl)) (by kernel_rfl)) (by kernel_rfl)) (by kernel_rfl)) (by kernel_rfl)
def closed:joinedFacts Tryz.prog 4 Tryz.f4 Rows.stockOpensSpec Rows.stockOpensRow=true:=
 dZ (dZ (dZ (dZ (dZ (dZ (dZ (dZ (dZ (dZ (dZ (dZ (dZ (dZ (dZ (dZ (dZ (dZ (dZ (dZ (dZ (dZ (dZ j9 LW) TX) TW) RY) (by kernel_rfl)) (by kernel_rfl)) (by kernel_rfl)) (by kernel_rfl)) (by kernel_rfl)) (by kernel_rfl)) (by kernel_rfl)) (by kernel_rfl)) (by kernel_rfl)) p22) (by kernel_rfl)) p23) Wa) p24) (by kernel_rfl)) (by kernel_rfl)) (by kernel_rfl)) (by kernel_rfl)) (by kernel_rfl)
end Go.Proofs.YtfijieggfhnpeaaGreatDoor.rD
