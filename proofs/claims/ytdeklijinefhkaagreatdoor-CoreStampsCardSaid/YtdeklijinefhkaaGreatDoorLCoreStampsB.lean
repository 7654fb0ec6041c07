/- Part of the proof: see the last text. -/
import Derived.Test.YtdeklijinefhkaaGreatDoorPG
set_option linter.all false
set_option maxRecDepth 100000
set_option synthInstance.maxSize 100000
namespace Go.Proofs.YtdeklijinefhkaaGreatDoor.vK
def Ep:(Rows.coreStampsRow.inPlace==Tryz.prog.inPlace 7)=true:=by kernel_rfl
def Ol:(Rows.coreStampsRow.unfollowed==Tryz.prog.unfollowed 7)=true:=by kernel_rfl
def Qi:(Rows.coreStampsRow.recurses==Tryz.prog.recurses 7)=true:=by kernel_rfl
def X':(Rows.coreStampsRow.named==Tryz.prog.varsNamed 7)=true:=by kernel_rfl
def j9:(Rows.coreStampsRow.wf (OpenSpec.ofChange Rows.coreStampsSpec)&&laidOutB Tryz.prog&&mapsRowed Tryz.prog&&
 Tryz.f7.params.all (Tryz.prog.readableRec ·)&&namedTie Tryz.prog Rows.coreStampsRow.named Rows.coreStampsSpec.vars&&
 (Rows.coreStampsRow.stops==[])&&(Tryz.prog.stops==[])&&(Rows.coreStampsRow.knobs==[])&&(Tryz.prog.stopKnobs==[]))=true:=
 cY (cY (cY (cY (cY (cY (cY (cY (by kernel_rfl) p2) p3) (by kernel_rfl)) (by kernel_rfl)) (by kernel_rfl)) (by kernel_rfl)) (by kernel_rfl)) (by kernel_rfl)
def closed:joinedFacts Tryz.prog 7 Tryz.f7 Rows.coreStampsSpec Rows.coreStampsRow=true:=
 cY (cY (cY (cY (cY (cY (cY (cY (cY (cY (cY (cY (cY (cY (cY (cY (cY (cY (cY (cY (cY (cY (cY j9 Ep) Ol) Qi) X') (by kernel_rfl)) (by kernel_rfl)) (by kernel_rfl)) (by kernel_rfl)) (by kernel_rfl)) (by kernel_rfl)) (by kernel_rfl)) (by kernel_rfl)) (by kernel_rfl)) p22) (by kernel_rfl)) p23) Uk) p24) (by kernel_rfl)) (by kernel_rfl)) (by kernel_rfl)) (by kernel_rfl)) (by kernel_rfl)
end Go.Proofs.YtdeklijinefhkaaGreatDoor.vK
