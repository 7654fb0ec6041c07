/- Part of the proof: see the last text. -/
import Derived.Test.YtibneekkkdnmgaaGreatDoorPG
set_option linter.all false
set_option maxRecDepth 100000
set_option synthInstance.maxSize 100000
namespace Go.Proofs.YtibneekkkdnmgaaGreatDoor.vG
def Bl:(Rows.coreLimitsRow.inPlace==Tryz.prog.inPlace 9)=true:=by kernel_rfl
def H6:(Rows.coreLimitsRow.unfollowed==Tryz.prog.unfollowed 9)=true:=by kernel_rfl
def Jd:(Rows.coreLimitsRow.recurses==Tryz.prog.recurses 9)=true:=by kernel_rfl
def OW:(Rows.coreLimitsRow.named==Tryz.prog.varsNamed 9)=true:=by kernel_rfl
def j9:(Rows.coreLimitsRow.wf (OpenSpec.ofChange Rows.coreLimitsSpec)&&laidOutB Tryz.prog&&mapsRowed Tryz.prog&&
 Tryz.f9.params.all (Tryz.prog.readableRec ·)&&namedTie Tryz.prog Rows.coreLimitsRow.named Rows.coreLimitsSpec.vars&&
 (Rows.coreLimitsRow.stops==[])&&(Tryz.prog.stops==[])&&(Rows.coreLimitsRow.knobs==[])&&(Tryz.prog.stopKnobs==[]))=true:=
 bM (bM (bM (bM (bM (bM (bM (bM (by kernel_rfl) p2) p3) (by kernel_rfl)) (by kernel_rfl)) (by kernel_rfl)) (by kernel_rfl)) (by kernel_rfl)) (by kernel_rfl)
def closed:joinedFacts Tryz.prog 9 Tryz.f9 Rows.coreLimitsSpec Rows.coreLimitsRow=true:=
 bM (bM (bM (bM (bM (bM (bM (bM (bM (bM (bM (bM (bM (bM (bM (bM (bM (bM (bM (bM (bM (bM (bM j9 Bl) H6) Jd) OW) (by kernel_rfl)) (by kernel_rfl)) (by kernel_rfl)) (by kernel_rfl)) (by kernel_rfl)) (by kernel_rfl)) (by kernel_rfl)) (by kernel_rfl)) (by kernel_rfl)) p22) (by kernel_rfl)) p23) Mc) p24) (by kernel_rfl)) (by kernel_rfl)) (by kernel_rfl)) (by kernel_rfl)) (by kernel_rfl)
end Go.Proofs.YtibneekkkdnmgaaGreatDoor.vG
