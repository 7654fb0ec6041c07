/- Part of the proof: see the last text. -/
import Derived.Test.YtibneekkkdnmgaaGreatDoorPG
set_option linter.all false
set_option maxRecDepth 100000
set_option synthInstance.maxSize 100000
namespace Go.Proofs.YtibneekkkdnmgaaGreatDoor.uU
def Jh:(Rows.coreChainsRow.inPlace==Tryz.prog.inPlace 10)=true:=by kernel_rfl
def Xp:(Rows.coreChainsRow.unfollowed==Tryz.prog.unfollowed 10)=true:=by kernel_rfl
def Zo:(Rows.coreChainsRow.recurses==Tryz.prog.recurses 10)=true:=by kernel_rfl
def j13:(Rows.coreChainsRow.named==Tryz.prog.varsNamed 10)=true:=by kernel_rfl
def j9:(Rows.coreChainsRow.wf (OpenSpec.ofChange Rows.coreChainsSpec)&&laidOutB Tryz.prog&&mapsRowed Tryz.prog&&
 Tryz.f10.params.all (Tryz.prog.readableRec ·)&&namedTie Tryz.prog Rows.coreChainsRow.named Rows.coreChainsSpec.vars&&
 (Rows.coreChainsRow.stops==[])&&(Tryz.prog.stops==[])&&(Rows.coreChainsRow.knobs==[])&&(Tryz.prog.stopKnobs==[]))=true:=
 jQ (jQ (jQ (jQ (jQ (jQ (jQ (jQ (by kernel_rfl) p2) p3) (by kernel_rfl)) (by kernel_rfl)) (by kernel_rfl)) (by kernel_rfl)) (by kernel_rfl)) (by kernel_rfl)
def closed:joinedFacts Tryz.prog 10 Tryz.f10 Rows.coreChainsSpec Rows.coreChainsRow=true:=
 jQ (jQ (jQ (jQ (jQ (jQ (jQ (jQ (jQ (jQ (jQ (jQ (jQ (jQ (jQ (jQ (jQ (jQ (jQ (jQ (jQ (jQ (jQ j9 Jh) Xp) Zo) j13) (by kernel_rfl)) (by kernel_rfl)) (by kernel_rfl)) (by kernel_rfl)) (by kernel_rfl)) (by kernel_rfl)) (by kernel_rfl)) (by kernel_rfl)) (by kernel_rfl)) p22) (by kernel_rfl)) p23) acM) p24) (by kernel_rfl)) (by kernel_rfl)) (by kernel_rfl)) (by kernel_rfl)) (by kernel_rfl)
end Go.Proofs.YtibneekkkdnmgaaGreatDoor.uU
