/- Part of the proof: see the last text. -/
import Derived.Test.YtibneekkkdnmgaaGreatDoorPG
set_option linter.all false
set_option maxRecDepth 100000
set_option synthInstance.maxSize 100000
namespace Go.Proofs.YtibneekkkdnmgaaGreatDoor.xK
def Bl:(Rows.coreCrashRow.inPlace==Tryz.prog.inPlace 4)=true:=by kernel_rfl
def H6:(Rows.coreCrashRow.unfollowed==Tryz.prog.unfollowed 4)=true:=by kernel_rfl
def Jd:(Rows.coreCrashRow.recurses==Tryz.prog.recurses 4)=true:=by kernel_rfl
def OW:(Rows.coreCrashRow.named==Tryz.prog.varsNamed 4)=true:=by kernel_rfl
def j9:(Rows.coreCrashRow.wf (OpenSpec.ofChange Rows.coreCrashSpec)&&laidOutB Tryz.prog&&mapsRowed Tryz.prog&&
 Tryz.f4.params.all (Tryz.prog.readableRec ·)&&namedTie Tryz.prog Rows.coreCrashRow.named Rows.coreCrashSpec.vars&&
 (Rows.coreCrashRow.stops==[])&&(Tryz.prog.stops==[])&&(Rows.coreCrashRow.knobs==[])&&(Tryz.prog.stopKnobs==[]))=true:=
 bM (bM (bM (bM (bM (bM (bM (bM (by kernel_rfl) p2) p3) (by kernel_rfl)) (by kernel_rfl)) (by kernel_rfl)) (by kernel_rfl)) (by kernel_rfl)) (by kernel_rfl)
def closed:joinedFacts Tryz.prog 4 Tryz.f4 Rows.coreCrashSpec Rows.coreCrashRow=true:=
 bM (bM (bM (bM (bM (bM (bM (bM (bM (bM (bM (bM (bM (bM (bM (bM (bM (bM (bM (bM (bM (bM (bM j9 Bl) H6) Jd) OW) (by kernel_rfl)) (by kernel_rfl)) (by kernel_rfl)) (by kernel_rfl)) (by kernel_rfl)) (by kernel_rfl)) (by kernel_rfl)) (by kernel_rfl)) (by kernel_rfl)) p22) (by kernel_rfl)) p23) Mc) p24) (by kernel_rfl)) (by kernel_rfl)) (by kernel_rfl)) (by kernel_rfl)) (by kernel_rfl)
end Go.Proofs.YtibneekkkdnmgaaGreatDoor.xK
