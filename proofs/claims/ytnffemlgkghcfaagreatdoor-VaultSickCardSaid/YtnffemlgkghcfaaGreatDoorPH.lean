/- Part of the proof: see the last text. -/
import Derived.Test.YtnffemlgkghcfaaGreatDoorPG
set_option linter.all false
set_option maxRecDepth 100000
set_option synthInstance.maxSize 100000
namespace Go.Proofs.YtnffemlgkghcfaaGreatDoor.pN
theorem closed:joinedFacts Tryz.prog 5 Tryz.f5 Rows.vaultSickSpec Rows.vaultSickRow=true:=
 nh (nh (nh (nh (nh (nh (nh (nh (nh (nh (nh (nh (nh (nh (nh (nh (nh (nh (nh (nh (nh (nh (nh j9 F6) Ua) V') j13) (by kernel_rfl)) (by kernel_rfl)) (by kernel_rfl)) (by kernel_rfl)) (by kernel_rfl)) (by kernel_rfl)) (by kernel_rfl)) (by kernel_rfl)) (by kernel_rfl)) j22) (by kernel_rfl)) j23) aap) j24) (by kernel_rfl)) (by kernel_rfl)) (by kernel_rfl)) (by kernel_rfl)) (by kernel_rfl)
end Go.Proofs.YtnffemlgkghcfaaGreatDoor.pN
