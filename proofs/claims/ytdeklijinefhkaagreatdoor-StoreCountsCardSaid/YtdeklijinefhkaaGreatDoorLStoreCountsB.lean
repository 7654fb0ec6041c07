/- Part of the proof: see the last text. -/
import Derived.Test.YtdeklijinefhkaaGreatDoorPG
set_option linter.all false
set_option maxRecDepth 100000
set_option synthInstance.maxSize 100000
namespace Go.Proofs.YtdeklijinefhkaaGreatDoor.ui
def Ep:(Rows.storeCountsRow.inPlace==Tryz.prog.inPlace 5)=true:=by kernel_rfl
def Ol:(Rows.storeCountsRow.unfollowed==Tryz.prog.unfollowed 5)=true:=by kernel_rfl
def Qi:(Rows.storeCountsRow.recurses==Tryz.prog.recurses 5)=true:=by kernel_rfl
def X':(Rows.storeCountsRow.named==Tryz.prog.varsNamed 5)=true:=by kernel_rfl
def j9:(Rows.storeCountsRow.wf (OpenSpec.ofChange Rows.storeCountsSpec)&&laidOutB Tryz.prog&&mapsRowed Tryz.prog&&
 Tryz.f5.params.all (Tryz.prog.readableRec ·)&&namedTie Tryz.prog Rows.storeCountsRow.named Rows.storeCountsSpec.vars&&
 (Rows.storeCountsRow.stops==[])&&(Tryz.prog.stops==[])&&(Rows.storeCountsRow.knobs==[])&&(Tryz.prog.stopKnobs==[]))=true:=
 cY (cY (cY (cY (cY (cY (cY (cY (by kernel_rfl) p2) p3) (by kernel_rfl)) (by kernel_rfl)) (by kernel_rfl)) (by kernel_rfl)) (by kernel_rfl)) (by kernel_rfl)
def closed:joinedFacts Tryz.prog 5 Tryz.f5 Rows.storeCountsSpec Rows.storeCountsRow=true:=
 cY (cY (cY (cY (cY (cY (cY (cY (cY (cY (cY (cY (cY (cY (cY (cY (cY (cY (cY (cY (cY (cY (cY j9 Ep) Ol) Qi) X') (by kernel_rfl)) (by kernel_rfl)) (by kernel_rfl)) (by kernel_rfl)) (by kernel_rfl)) (by kernel_rfl)) (by kernel_rfl)) (by kernel_rfl)) (by kernel_rfl)) p22) (by kernel_rfl)) p23) Uk) p24) (by kernel_rfl)) (by kernel_rfl)) (by kernel_rfl)) (by kernel_rfl)) (by kernel_rfl)
end Go.Proofs.YtdeklijinefhkaaGreatDoor.ui
