/- Part of the proof: see the last text. -/
import Derived.Test.YtdeklijinefhkaaGreatDoorPG
set_option linter.all false
set_option maxRecDepth 100000
set_option synthInstance.maxSize 100000
namespace Go.Proofs.YtdeklijinefhkaaGreatDoor.vo
def Ep:(Rows.storeWrongRow.inPlace==Tryz.prog.inPlace 4)=true:=by kernel_rfl
def Ol:(Rows.storeWrongRow.unfollowed==Tryz.prog.unfollowed 4)=true:=by kernel_rfl
def Qi:(Rows.storeWrongRow.recurses==Tryz.prog.recurses 4)=true:=by kernel_rfl
def X':(Rows.storeWrongRow.named==Tryz.prog.varsNamed 4)=true:=by kernel_rfl
def j9:(Rows.storeWrongRow.wf (OpenSpec.ofChange Rows.storeWrongSpec)&&laidOutB Tryz.prog&&mapsRowed Tryz.prog&&
 Tryz.f4.params.all (Tryz.prog.readableRec ·)&&namedTie Tryz.prog Rows.storeWrongRow.named Rows.storeWrongSpec.vars&&
 (Rows.storeWrongRow.stops==[])&&(Tryz.prog.stops==[])&&(Rows.storeWrongRow.knobs==[])&&(Tryz.prog.stopKnobs==[]))=true:=
 cY (cY (cY (cY (cY (cY (cY (cY (by kernel_rfl) p2) p3) (by kernel_rfl)) (by kernel_rfl)) (by kernel_rfl)) (by kernel_rfl)) (by kernel_rfl)) (by kernel_rfl)
def closed:joinedFacts Tryz.prog 4 Tryz.f4 Rows.storeWrongSpec Rows.storeWrongRow=true:=
 cY (cY (cY (cY (cY (cY (cY (cY (cY (cY (cY (cY (cY (cY (cY (cY (cY (cY (cY (cY (cY (cY (cY j9 Ep) Ol) Qi) X') (by kernel_rfl)) (by kernel_rfl)) (by kernel_rfl)) (by kernel_rfl)) (by kernel_rfl)) (by kernel_rfl)) (by kernel_rfl)) (by kernel_rfl)) (by kernel_rfl)) p22) (by kernel_rfl)) p23) Uk) p24) (by kernel_rfl)) (by kernel_rfl)) (by kernel_rfl)) (by kernel_rfl)) (by kernel_rfl)
end Go.Proofs.YtdeklijinefhkaaGreatDoor.vo
