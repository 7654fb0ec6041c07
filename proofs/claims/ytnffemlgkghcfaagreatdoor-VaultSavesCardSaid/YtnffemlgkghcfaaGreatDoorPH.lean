/- Part of the proof: see the last text. -/
import Derived.Test.YtnffemlgkghcfaaGreatDoorPG
set_option linter.all false
set_option maxRecDepth 100000
set_option synthInstance.maxSize 100000
namespace Go.Proofs.YtnffemlgkghcfaaGreatDoor.od
theorem closed:joinedFacts Tryz.prog 4 Tryz.f4 Rows.vaultSavesSpec Rows.vaultSavesRow=true:=
 m8 (m8 (m8 (m8 (m8 (m8 (m8 (m8 (m8 (m8 (m8 (m8 (m8 (m8 (m8 (m8 (m8 (m8 (m8 (m8 (m8 (m8 (m8 j9 F4) T') V7) j13) (by kernel_rfl)) (by kernel_rfl)) (by kernel_rfl)) (by kernel_rfl)) (by kernel_rfl)) (by kernel_rfl)) (by kernel_rfl)) (by kernel_rfl)) (by kernel_rfl)) j22) (by kernel_rfl)) j23) aan) j24) (by kernel_rfl)) (by kernel_rfl)) (by kernel_rfl)) (by kernel_rfl)) (by kernel_rfl)
end Go.Proofs.YtnffemlgkghcfaaGreatDoor.od
