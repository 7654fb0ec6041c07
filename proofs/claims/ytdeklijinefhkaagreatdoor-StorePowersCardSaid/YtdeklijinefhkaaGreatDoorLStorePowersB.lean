/- Part of the proof: see the last text. -/
import Derived.Test.YtdeklijinefhkaaGreatDoorPG
set_option linter.all false
set_option maxRecDepth 100000
set_option synthInstance.maxSize 100000
namespace Go.Proofs.YtdeklijinefhkaaGreatDoor.uh
def Ep:(Rows.storePowersRow.inPlace==Tryz.prog.inPlace 6)=true:=by kernel_rfl
def Ol:(Rows.storePowersRow.unfollowed==Tryz.prog.unfollowed 6)=true:=by kernel_rfl
def Qi:(Rows.storePowersRow.recurses==Tryz.prog.recurses 6)=true:=by kernel_rfl
def X':(Rows.storePowersRow.named==Tryz.prog.varsNamed 6)=true:=by kernel_rfl
def j9:(Rows.storePowersRow.wf (OpenSpec.ofChange Rows.storePowersSpec)&&laidOutB Tryz.prog&&mapsRowed Tryz.prog&&
 Tryz.f6.params.all (Tryz.prog.readableRec ·)&&namedTie Tryz.prog Rows.storePowersRow.named Rows.storePowersSpec.vars&&
 (Rows.storePowersRow.stops==[])&&(Tryz.prog.stops==[])&&(Rows.storePowersRow.knobs==[])&&(Tryz.prog.stopKnobs==[]))=true:=
 cY (cY (cY (cY (cY (cY (cY (cY (by kernel_rfl) p2) p3) (by kernel_rfl)) (by kernel_rfl)) (by kernel_rfl)) (by kernel_rfl)) (by kernel_rfl)) (by kernel_rfl)
def closed:joinedFacts Tryz.prog 6 Tryz.f6 Rows.storePowersSpec Rows.storePowersRow=true:=
 cY (cY (cY (cY (cY (cY (cY (cY (cY (cY (cY (cY (cY (cY (cY (cY (cY (cY (cY (cY (cY (cY (cY j9 Ep) Ol) Qi) X') (by kernel_rfl)) (by kernel_rfl)) (by kernel_rfl)) (by kernel_rfl)) (by kernel_rfl)) (by kernel_rfl)) (by kernel_rfl)) (by kernel_rfl)) (by kernel_rfl)) p22) (by kernel_rfl)) p23) Uk) p24) (by kernel_rfl)) (by kernel_rfl)) (by kernel_rfl)) (by kernel_rfl)) (by kernel_rfl)
end Go.Proofs.YtdeklijinefhkaaGreatDoor.uh
