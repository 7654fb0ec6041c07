/- Part of the proof: see the last text. -/
import Derived.Test.YtibneekkkdnmgaaGreatDoorPG
set_option linter.all false
set_option maxRecDepth 100000
set_option synthInstance.maxSize 100000
namespace Go.Proofs.YtibneekkkdnmgaaGreatDoor.wK
def Jh:(Rows.coreAgainRow.inPlace==Tryz.prog.inPlace 11)=true:=by kernel_rfl
def Xp:(Rows.coreAgainRow.unfollowed==Tryz.prog.unfollowed 11)=true:=by kernel_rfl
def Zo:(Rows.coreAgainRow.recurses==Tryz.prog.recurses 11)=true:=by kernel_rfl
def j13:(Rows.coreAgainRow.named==Tryz.prog.varsNamed 11)=true:=by kernel_rfl
def j9:(Rows.coreAgainRow.wf (OpenSpec.ofChange Rows.coreAgainSpec)&&laidOutB Tryz.prog&&mapsRowed Tryz.prog&&
 Tryz.f11.params.all (Tryz.prog.readableRec ·)&&namedTie Tryz.prog Rows.coreAgainRow.named Rows.coreAgainSpec.vars&&
 (Rows.coreAgainRow.stops==[])&&(Tryz.prog.stops==[])&&(Rows.coreAgainRow.knobs==[])&&(Tryz.prog.stopKnobs==[]))=true:=
 jQ (jQ (jQ (jQ (jQ (jQ (jQ (jQ (by kernel_rfl) p2) p3) (by kernel_rfl)) (by kernel_rfl)) (by kernel_rfl)) (by kernel_rfl)) (by kernel_rfl)) (by kernel_rfl)
def closed:joinedFacts Tryz.prog 11 Tryz.f11 Rows.coreAgainSpec Rows.coreAgainRow=true:=
 jQ (jQ (jQ (jQ (jQ (jQ (jQ (jQ (jQ (jQ (jQ (jQ (jQ (jQ (jQ (jQ (jQ (jQ (jQ (jQ (jQ (jQ (jQ j9 Jh) Xp) Zo) j13) (by kernel_rfl)) (by kernel_rfl)) (by kernel_rfl)) (by kernel_rfl)) (by kernel_rfl)) (by kernel_rfl)) (by kernel_rfl)) (by kernel_rfl)) (by kernel_rfl)) p22) (by kernel_rfl)) p23) acM) p24) (by kernel_rfl)) (by kernel_rfl)) (by kernel_rfl)) (by kernel_rfl)) (by kernel_rfl)
end Go.Proofs.YtibneekkkdnmgaaGreatDoor.wK
