/- Part of the proof: see the last text. -/
import Derived.Test.YtibneekkkdnmgaaGreatDoorPG
set_option linter.all false
set_option maxRecDepth 100000
set_option synthInstance.maxSize 100000
namespace Go.Proofs.YtibneekkkdnmgaaGreatDoor.xJ
def Bl:(Rows.coreReadsRow.inPlace==Tryz.prog.inPlace 13)=true:=by kernel_rfl
def H6:(Rows.coreReadsRow.unfollowed==Tryz.prog.unfollowed 13)=true:=by kernel_rfl
def Jd:(Rows.coreReadsRow.recurses==Tryz.prog.recurses 13)=true:=by kernel_rfl
def OW:(Rows.coreReadsRow.named==Tryz.prog.varsNamed 13)=true:=by kernel_rfl
def j9:(Rows.coreReadsRow.wf (OpenSpec.ofChange Rows.coreReadsSpec)&&laidOutB Tryz.prog&&mapsRowed Tryz.prog&&
 Tryz.f13.params.all (Tryz.prog.readableRec ·)&&namedTie Tryz.prog Rows.coreReadsRow.named Rows.coreReadsSpec.vars&&
 (Rows.coreReadsRow.stops==[])&&(Tryz.prog.stops==[])&&(Rows.coreReadsRow.knobs==[])&&(Tryz.prog.stopKnobs==[]))=true:=
 bM (bM (bM (bM (bM (bM (bM (bM (by kernel_rfl) p2) p3) (by kernel_rfl)) (by kernel_rfl)) (by kernel_rfl)) (by kernel_rfl)) (by kernel_rfl)) (by kernel_rfl)
def closed:joinedFacts Tryz.prog 13 Tryz.f13 Rows.coreReadsSpec Rows.coreReadsRow=true:=
 bM (bM (bM (bM (bM (bM (bM (bM (bM (bM (bM (bM (bM (bM (bM (bM (bM (bM (bM (bM (bM (bM (bM j9 Bl) H6) Jd) OW) (by kernel_rfl)) (by kernel_rfl)) (by kernel_rfl)) (by kernel_rfl)) (by kernel_rfl)) (by kernel_rfl)) (by kernel_rfl)) (by kernel_rfl)) (by kernel_rfl)) p22) (by kernel_rfl)) p23) Mc) p24) (by kernel_rfl)) (by kernel_rfl)) (by kernel_rfl)) (by kernel_rfl)) (by kernel_rfl)
end Go.Proofs.YtibneekkkdnmgaaGreatDoor.xJ
