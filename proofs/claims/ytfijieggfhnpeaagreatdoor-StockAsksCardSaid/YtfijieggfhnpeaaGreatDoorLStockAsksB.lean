/- Part of the proof: see the last text. -/
import Derived.Test.YtfijieggfhnpeaaGreatDoorPF
set_option linter.all false
set_option maxRecDepth 100000
set_option synthInstance.maxSize 100000
namespace Go.Proofs.YtfijieggfhnpeaaGreatDoor.th
def LW:(Rows.stockAsksRow.inPlace==Tryz.prog.inPlace 5)=true:=by kernel_rfl
def TX:(Rows.stockAsksRow.unfollowed==Tryz.prog.unfollowed 5)=true:=by kernel_rfl
def TW:(Rows.stockAsksRow.recurses==Tryz.prog.recurses 5)=true:=by kernel_rfl
def RY:(Rows.stockAsksRow.named==Tryz.prog.varsNamed 5)=true:=by kernel_rfl
def j9:(Rows.stockAsksRow.wf (OpenSpec.ofChange Rows.stockAsksSpec)&&laidOutB Tryz.prog&&mapsRowed Tryz.prog&&
 Tryz.f5.params.all (Tryz.prog.readableRec ·)&&namedTie Tryz.prog Rows.stockAsksRow.named Rows.stockAsksSpec.vars&&
 (Rows.stockAsksRow.stops==[])&&(Tryz.prog.stops==[])&&(Rows.stockAsksRow.knobs==[])&&(Tryz.prog.stopKnobs==[]))=true:=
 dZ (dZ (dZ (dZ (dZ (dZ (dZ (dZ (by kernel_rfl) p2) p3) (by kernel_rfl)) (by kernel_rfl)) (by kernel_rfl)) (by kernel_rfl)) (by kernel_rfl)) (by kernel_rfl)
def closed:joinedFacts Tryz.prog 5 Tryz.f5 Rows.stockAsksSpec Rows.stockAsksRow=true:=
 dZ (dZ (dZ (dZ (dZ (dZ (dZ (dZ (dZ (dZ (dZ (dZ (dZ (dZ (dZ (dZ (dZ (dZ (dZ (dZ (dZ (dZ (dZ j9 LW) TX) TW) RY) (by kernel_rfl)) (by kernel_rfl)) (by kernel_rfl)) (by kernel_rfl)) (by kernel_rfl)) (by kernel_rfl)) (by kernel_rfl)) (by kernel_rfl)) (by kernel_rfl)) p22) (by kernel_rfl)) p23) Wa) p24) (by kernel_rfl)) (by kernel_rfl)) (by kernel_rfl)) (by kernel_rfl)) (by kernel_rfl)
end Go.Proofs.YtfijieggfhnpeaaGreatDoor.th
