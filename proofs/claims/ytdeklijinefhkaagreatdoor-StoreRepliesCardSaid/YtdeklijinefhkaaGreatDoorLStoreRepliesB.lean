/- Part of the proof: see the last text. -/
import Derived.Test.YtdeklijinefhkaaGreatDoorPG
set_option linter.all false
set_option maxRecDepth 100000
set_option synthInstance.maxSize 100000
namespace Go.Proofs.YtdeklijinefhkaaGreatDoor.sx
def Ep:(Rows.storeRepliesRow.inPlace==Tryz.prog.inPlace 3)=true:=by kernel_rfl
def Ol:(Rows.storeRepliesRow.unfollowed==Tryz.prog.unfollowed 3)=true:=by kernel_rfl
def Qi:(Rows.storeRepliesRow.recurses==Tryz.prog.recurses 3)=true:=by kernel_rfl
def X':(Rows.storeRepliesRow.named==Tryz.prog.varsNamed 3)=true:=by kernel_rfl
def j9:(Rows.storeRepliesRow.wf (OpenSpec.ofChange Rows.storeRepliesSpec)&&laidOutB Tryz.prog&&mapsRowed Tryz.prog&&
 Tryz.f3.params.all (Tryz.prog.readableRec ·)&&namedTie Tryz.prog Rows.storeRepliesRow.named Rows.storeRepliesSpec.vars&&
 (Rows.storeRepliesRow.stops==[])&&(Tryz.prog.stops==[])&&(Rows.storeRepliesRow.knobs==[])&&(Tryz.prog.stopKnobs==[]))=true:=
 cY (cY (cY (cY (cY (cY (cY (cY (by kernel_rfl) p2) p3) (by kernel_rfl)) (by kernel_rfl)) (by kernel_rfl)) (by kernel_rfl)) (by kernel_rfl)) (by kernel_rfl)
def closed:joinedFacts Tryz.prog 3 Tryz.f3 Rows.storeRepliesSpec Rows.storeRepliesRow=true:=
 cY (cY (cY (cY (cY (cY (cY (cY (cY (cY (cY (cY (cY (cY (cY (cY (cY (cY (cY (cY (cY (cY (cY j9 Ep) Ol) Qi) X') (by kernel_rfl)) (by kernel_rfl)) (by kernel_rfl)) (by kernel_rfl)) (by kernel_rfl)) (by kernel_rfl)) (by kernel_rfl)) (by kernel_rfl)) (by kernel_rfl)) p22) (by kernel_rfl)) p23) Uk) p24) (by kernel_rfl)) (by kernel_rfl)) (by kernel_rfl)) (by kernel_rfl)) (by kernel_rfl)
end Go.Proofs.YtdeklijinefhkaaGreatDoor.sx
