/- Part of the proof: see the last text. -/
import Derived.Test.YtnffemlgkghcfaaGreatDoorPG
set_option linter.all false
set_option maxRecDepth 100000
set_option synthInstance.maxSize 100000
namespace Go.Proofs.YtnffemlgkghcfaaGreatDoor.oA
theorem closed:joinedFacts Tryz.prog 6 Tryz.f6 Rows.vaultKeepsSpec Rows.vaultKeepsRow=true:=
 nu (nu (nu (nu (nu (nu (nu (nu (nu (nu (nu (nu (nu (nu (nu (nu (nu (nu (nu (nu (nu (nu (nu j9 Gs) Uk) Wn) j13) (by kernel_rfl)) (by kernel_rfl)) (by kernel_rfl)) (by kernel_rfl)) (by kernel_rfl)) (by kernel_rfl)) (by kernel_rfl)) (by kernel_rfl)) (by kernel_rfl)) j22) (by kernel_rfl)) j23) aas) j24) (by kernel_rfl)) (by kernel_rfl)) (by kernel_rfl)) (by kernel_rfl)) (by kernel_rfl)
end Go.Proofs.YtnffemlgkghcfaaGreatDoor.oA
