/- Part of the proof: see the last text. -/
import Derived.Test.YtnffemlgkghcfaaGreatDoorRows
import Derived.JoinedOf
import Derived.KernelRfl
set_option linter.all false
set_option maxRecDepth 100000
set_option synthInstance.maxSize 100000
namespace Go.Proofs.YtnffemlgkghcfaaGreatDoor.od
theorem F4:(Rows.vaultSavesRow.inPlace==Tryz.prog.inPlace 4)=true:=by kernel_rfl
theorem T':(Rows.vaultSavesRow.unfollowed==Tryz.prog.unfollowed 4)=true:=by kernel_rfl
theorem V7:(Rows.vaultSavesRow.recurses==Tryz.prog.recurses 4)=true:=by kernel_rfl
theorem j13:(Rows.vaultSavesRow.named==Tryz.prog.varsNamed 4)=true:=by kernel_rfl
theorem m8{a b:Bool}(h:a=true)(k:b=true):(a&&b)=true:=by rw[h,k];rfl
theorem j2:laidOutB Tryz.prog=true:=by kernel_rfl
theorem j3:mapsRowed Tryz.prog=true:=by kernel_rfl
theorem j22:(Rows.vaultSavesRow.plainKeys==Tryz.prog.plainKeys)=true:=by kernel_rfl
theorem j23:Tryz.prog.stopsHeard=true:=by kernel_rfl
theorem aan:Tryz.prog.mayEnter=true:=by kernel_rfl
theorem j24:(Rows.vaultSavesRow.lifted==Tryz.prog.liftsFinal)=true:=by kernel_rfl
theorem j9:(Rows.vaultSavesRow.wf (OpenSpec.ofChange Rows.vaultSavesSpec)&&laidOutB Tryz.prog&&mapsRowed Tryz.prog&&
 Tryz.f4.params.all (Tryz.prog.readableRec ·)&&namedTie Tryz.prog Rows.vaultSavesRow.named Rows.vaultSavesSpec.vars&&
 (Rows.vaultSavesRow.stops==[])&&(Tryz.prog.stops==[])&&(Rows.vaultSavesRow.knobs==[])&&(Tryz.prog.stopKnobs==[]))=true:=
 m8 (m8 (m8 (m8 (m8 (m8 (m8 (m8 (by kernel_rfl) j2) j3) (by kernel_rfl)) (by kernel_rfl)) (by kernel_rfl)) (by kernel_rfl)) (by kernel_rfl)) (by kernel_rfl)
end Go.Proofs.YtnffemlgkghcfaaGreatDoor.od
