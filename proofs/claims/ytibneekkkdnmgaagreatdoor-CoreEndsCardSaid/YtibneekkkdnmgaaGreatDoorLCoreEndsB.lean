/- Part of the proof: see the last text. -/
import Derived.Test.YtibneekkkdnmgaaGreatDoorPG
set_option linter.all false
set_option maxRecDepth 100000
set_option synthInstance.maxSize 100000
namespace Go.Proofs.YtibneekkkdnmgaaGreatDoor.zY
def Bl:(Rows.coreEndsRow.inPlace==Tryz.prog.inPlace 6)=true:=by kernel_rfl
def H6:(Rows.coreEndsRow.unfollowed==Tryz.prog.unfollowed 6)=true:=by kernel_rfl
def Jd:(Rows.coreEndsRow.recurses==Tryz.prog.recurses 6)=true:=by kernel_rfl
def OW:(Rows.coreEndsRow.named==Tryz.prog.varsNamed 6)=true:=by kernel_rfl
def j9:(Rows.coreEndsRow.wf (OpenSpec.ofChange Rows.coreEndsSpec)&&laidOutB Tryz.prog&&mapsRowed Tryz.prog&&
 Tryz.f6.params.all (Tryz.prog.readableRec ·)&&namedTie Tryz.prog Rows.coreEndsRow.named Rows.coreEndsSpec.vars&&
 (Rows.coreEndsRow.stops==[])&&(Tryz.prog.stops==[])&&(Rows.coreEndsRow.knobs==[])&&(Tryz.prog.stopKnobs==[]))=true:=
 bM (bM (bM (bM (bM (bM (bM (bM (by kernel_rfl) p2) p3) (by kernel_rfl)) (by kernel_rfl)) (by kernel_rfl)) (by kernel_rfl)) (by kernel_rfl)) (by kernel_rfl)
def closed:joinedFacts Tryz.prog 6 Tryz.f6 Rows.coreEndsSpec Rows.coreEndsRow=true:=
 bM (bM (bM (bM (bM (bM (bM (bM (bM (bM (bM (bM (bM (bM (bM (bM (bM (bM (bM (bM (bM (bM (bM j9 Bl) H6) Jd) OW) (by kernel_rfl)) (by kernel_rfl)) (by kernel_rfl)) (by kernel_rfl)) (by kernel_rfl)) (by kernel_rfl)) (by kernel_rfl)) (by kernel_rfl)) (by kernel_rfl)) p22) (by kernel_rfl)) p23) Mc) p24) (by kernel_rfl)) (by kernel_rfl)) (by kernel_rfl)) (by kernel_rfl)) (by kernel_rfl)
end Go.Proofs.YtibneekkkdnmgaaGreatDoor.zY
