/- Part of the proof: see the last text. -/
import Derived.Test.YtibneekkkdnmgaaGreatDoorPG
set_option linter.all false
set_option maxRecDepth 100000
set_option synthInstance.maxSize 100000
namespace Go.Proofs.YtibneekkkdnmgaaGreatDoor.vF
def Bl:(Rows.coreServesRow.inPlace==Tryz.prog.inPlace 3)=true:=by kernel_rfl
def H6:(Rows.coreServesRow.unfollowed==Tryz.prog.unfollowed 3)=true:=by kernel_rfl
def Jd:(Rows.coreServesRow.recurses==Tryz.prog.recurses 3)=true:=by kernel_rfl
def OW:(Rows.coreServesRow.named==Tryz.prog.varsNamed 3)=true:=by kernel_rfl
def j9:(Rows.coreServesRow.wf (OpenSpec.ofChange Rows.coreServesSpec)&&laidOutB Tryz.prog&&mapsRowed Tryz.prog&&
 Tryz.f3.params.all (Tryz.prog.readableRec ·)&&namedTie Tryz.prog Rows.coreServesRow.named Rows.coreServesSpec.vars&&
 (Rows.coreServesRow.stops==[])&&(Tryz.prog.stops==[])&&(Rows.coreServesRow.knobs==[])&&(Tryz.prog.stopKnobs==[]))=true:=
 bM (bM (bM (bM (bM (bM (bM (bM (by kernel_rfl) p2) p3) (by kernel_rfl)) (by kernel_rfl)) (by kernel_rfl)) (by kernel_rfl)) (by kernel_rfl)) (by kernel_rfl)
def closed:joinedFacts Tryz.prog 3 Tryz.f3 Rows.coreServesSpec Rows.coreServesRow=true:=
 bM (bM (bM (bM (bM (bM (bM (bM (bM (bM (bM (bM (bM (bM (bM (bM (bM (bM (bM (bM (bM (bM (bM j9 Bl) H6) Jd) OW) (by kernel_rfl)) (by kernel_rfl)) (by kernel_rfl)) (by kernel_rfl)) (by kernel_rfl)) (by kernel_rfl)) (by kernel_rfl)) (by kernel_rfl)) (by kernel_rfl)) p22) (by kernel_rfl)) p23) Mc) p24) (by kernel_rfl)) (by kernel_rfl)) (by kernel_rfl)) (by kernel_rfl)) (by kernel_rfl)
end Go.Proofs.YtibneekkkdnmgaaGreatDoor.vF
