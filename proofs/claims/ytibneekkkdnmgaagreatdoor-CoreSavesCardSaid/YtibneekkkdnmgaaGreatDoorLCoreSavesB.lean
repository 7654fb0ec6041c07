/- Part of the proof: see the last text. -/
import Derived.Test.YtibneekkkdnmgaaGreatDoorPG
set_option linter.all false
set_option maxRecDepth 100000
set_option synthInstance.maxSize 100000
namespace Go.Proofs.YtibneekkkdnmgaaGreatDoor.xH
def Bl:(Rows.coreSavesRow.inPlace==Tryz.prog.inPlace 7)=true:=by kernel_rfl
def H6:(Rows.coreSavesRow.unfollowed==Tryz.prog.unfollowed 7)=true:=by kernel_rfl
def Jd:(Rows.coreSavesRow.recurses==Tryz.prog.recurses 7)=true:=by kernel_rfl
def OW:(Rows.coreSavesRow.named==Tryz.prog.varsNamed 7)=true:=by kernel_rfl
def j9:(Rows.coreSavesRow.wf (OpenSpec.ofChange Rows.coreSavesSpec)&&laidOutB Tryz.prog&&mapsRowed Tryz.prog&&
 Tryz.f7.params.all (Tryz.prog.readableRec ·)&&namedTie Tryz.prog Rows.coreSavesRow.named Rows.coreSavesSpec.vars&&
 (Rows.coreSavesRow.stops==[])&&(Tryz.prog.stops==[])&&(Rows.coreSavesRow.knobs==[])&&(Tryz.prog.stopKnobs==[]))=true:=
 bM (bM (bM (bM (bM (bM (bM (bM (by kernel_rfl) p2) p3) (by kernel_rfl)) (by kernel_rfl)) (by kernel_rfl)) (by kernel_rfl)) (by kernel_rfl)) (by kernel_rfl)
def closed:joinedFacts Tryz.prog 7 Tryz.f7 Rows.coreSavesSpec Rows.coreSavesRow=true:=
 bM (bM (bM (bM (bM (bM (bM (bM (bM (bM (bM (bM (bM (bM (bM (bM (bM (bM (bM (bM (bM (bM (bM j9 Bl) H6) Jd) OW) (by kernel_rfl)) (by kernel_rfl)) (by kernel_rfl)) (by kernel_rfl)) (by kernel_rfl)) (by kernel_rfl)) (by kernel_rfl)) (by kernel_rfl)) (by kernel_rfl)) p22) (by kernel_rfl)) p23) Mc) p24) (by kernel_rfl)) (by kernel_rfl)) (by kernel_rfl)) (by kernel_rfl)) (by kernel_rfl)
end Go.Proofs.YtibneekkkdnmgaaGreatDoor.xH
