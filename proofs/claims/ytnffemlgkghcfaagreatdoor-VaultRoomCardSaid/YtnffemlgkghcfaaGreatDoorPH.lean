/- Part of the proof: see the last text. -/
import Derived.Test.YtnffemlgkghcfaaGreatDoorPG
set_option linter.all false
set_option maxRecDepth 100000
set_option synthInstance.maxSize 100000
namespace Go.Proofs.YtnffemlgkghcfaaGreatDoor.pT
theorem closed:joinedFacts Tryz.prog 3 Tryz.f3 Rows.vaultRoomSpec Rows.vaultRoomRow=true:=
 nO (nO (nO (nO (nO (nO (nO (nO (nO (nO (nO (nO (nO (nO (nO (nO (nO (nO (nO (nO (nO (nO (nO j9 FI) TG) Vz) j13) (by kernel_rfl)) (by kernel_rfl)) (by kernel_rfl)) (by kernel_rfl)) (by kernel_rfl)) (by kernel_rfl)) (by kernel_rfl)) (by kernel_rfl)) (by kernel_rfl)) j22) (by kernel_rfl)) j23) ZV) j24) (by kernel_rfl)) (by kernel_rfl)) (by kernel_rfl)) (by kernel_rfl)) (by kernel_rfl)
end Go.Proofs.YtnffemlgkghcfaaGreatDoor.pT
