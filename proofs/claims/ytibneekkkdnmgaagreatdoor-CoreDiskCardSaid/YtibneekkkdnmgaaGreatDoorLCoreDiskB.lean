/- Part of the proof: see the last text. -/
import Derived.Test.YtibneekkkdnmgaaGreatDoorPG
set_option linter.all false
set_option maxRecDepth 100000
set_option synthInstance.maxSize 100000
namespace Go.Proofs.YtibneekkkdnmgaaGreatDoor.zZ
def Bl:(Rows.coreDiskRow.inPlace==Tryz.prog.inPlace 12)=true:=by kernel_rfl
def H6:(Rows.coreDiskRow.unfollowed==Tryz.prog.unfollowed 12)=true:=by kernel_rfl
def Jd:(Rows.coreDiskRow.recurses==Tryz.prog.recurses 12)=true:=by kernel_rfl
def OW:(Rows.coreDiskRow.named==Tryz.prog.varsNamed 12)=true:=by kernel_rfl
def j9:(Rows.coreDiskRow.wf (OpenSpec.ofChange Rows.coreDiskSpec)&&laidOutB Tryz.prog&&mapsRowed Tryz.prog&&
 Tryz.f12.params.all (Tryz.prog.readableRec ·)&&namedTie Tryz.prog Rows.coreDiskRow.named Rows.coreDiskSpec.vars&&
 (Rows.coreDiskRow.stops==[])&&(Tryz.prog.stops==[])&&(Rows.coreDiskRow.knobs==[])&&(Tryz.prog.stopKnobs==[]))=true:=
 bM (bM (bM (bM (bM (bM (bM (bM (by kernel_rfl) p2) p3) (by kernel_rfl)) (by kernel_rfl)) (by kernel_rfl)) (by kernel_rfl)) (by kernel_rfl)) (by kernel_rfl)
def closed:joinedFacts Tryz.prog 12 Tryz.f12 Rows.coreDiskSpec Rows.coreDiskRow=true:=
 bM (bM (bM (bM (bM (bM (bM (bM (bM (bM (bM (bM (bM (bM (bM (bM (bM (bM (bM (bM (bM (bM (bM j9 Bl) H6) Jd) OW) (by kernel_rfl)) (by kernel_rfl)) (by kernel_rfl)) (by kernel_rfl)) (by kernel_rfl)) (by kernel_rfl)) (by kernel_rfl)) (by kernel_rfl)) (by kernel_rfl)) p22) (by kernel_rfl)) p23) Mc) p24) (by kernel_rfl)) (by kernel_rfl)) (by kernel_rfl)) (by kernel_rfl)) (by kernel_rfl)
end Go.Proofs.YtibneekkkdnmgaaGreatDoor.zZ
