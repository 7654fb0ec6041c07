/- Part of the proof: see the last text. -/
import Derived.Test.YtibneekkkdnmgaaGreatDoorPG
set_option linter.all false
set_option maxRecDepth 100000
set_option synthInstance.maxSize 100000
namespace Go.Proofs.YtibneekkkdnmgaaGreatDoor.yG
def Kv:(Rows.coreSumsRow.inPlace==Tryz.prog.inPlace 5)=true:=by kernel_rfl
def ZQ:(Rows.coreSumsRow.unfollowed==Tryz.prog.unfollowed 5)=true:=by kernel_rfl
def j12:(Rows.coreSumsRow.recurses==Tryz.prog.recurses 5)=true:=by kernel_rfl
def j13:(Rows.coreSumsRow.named==Tryz.prog.varsNamed 5)=true:=by kernel_rfl
def j9:(Rows.coreSumsRow.wf (OpenSpec.ofChange Rows.coreSumsSpec)&&laidOutB Tryz.prog&&mapsRowed Tryz.prog&&
 Tryz.f5.params.all (Tryz.prog.readableRec ·)&&namedTie Tryz.prog Rows.coreSumsRow.named Rows.coreSumsSpec.vars&&
 (Rows.coreSumsRow.stops==[])&&(Tryz.prog.stops==[])&&(Rows.coreSumsRow.knobs==[])&&(Tryz.prog.stopKnobs==[]))=true:=
 qZ (qZ (qZ (qZ (qZ (qZ (qZ (qZ (by kernel_rfl) p2) p3) (by kernel_rfl)) (by kernel_rfl)) (by kernel_rfl)) (by kernel_rfl)) (by kernel_rfl)) (by kernel_rfl)
def closed:joinedFacts Tryz.prog 5 Tryz.f5 Rows.coreSumsSpec Rows.coreSumsRow=true:=
 qZ (qZ (qZ (qZ (qZ (qZ (qZ (qZ (qZ (qZ (qZ (qZ (qZ (qZ (qZ (qZ (qZ (qZ (qZ (qZ (qZ (qZ (qZ j9 Kv) ZQ) j12) j13) (by kernel_rfl)) (by kernel_rfl)) (by kernel_rfl)) (by kernel_rfl)) (by kernel_rfl)) (by kernel_rfl)) (by kernel_rfl)) (by kernel_rfl)) (by kernel_rfl)) p22) (by kernel_rfl)) p23) adQ) p24) (by kernel_rfl)) (by kernel_rfl)) (by kernel_rfl)) (by kernel_rfl)) (by kernel_rfl)
end Go.Proofs.YtibneekkkdnmgaaGreatDoor.yG
