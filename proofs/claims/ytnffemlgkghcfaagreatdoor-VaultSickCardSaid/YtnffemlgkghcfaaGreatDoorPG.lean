/- Part of the proof: see the last text. -/
import Derived.Test.YtnffemlgkghcfaaGreatDoorRows
import Derived.JoinedOf
import Derived.KernelRfl
set_option linter.all false
set_option maxRecDepth 100000
set_option synthInstance.maxSize 100000
namespace Go.Proofs.YtnffemlgkghcfaaGreatDoor.pN
theorem F6:(Rows.vaultSickRow.inPlace==Tryz.prog.inPlace 5)=true:=by kernel_rfl
theorem Ua:(Rows.vaultSickRow.unfollowed==Tryz.prog.unfollowed 5)=true:=by kernel_rfl
theorem V':(Rows.vaultSickRow.recurses==Tryz.prog.recurses 5)=true:=by kernel_rfl
theorem j13:(Rows.vaultSickRow.named==Tryz.prog.varsNamed 5)=true:=by kernel_rfl
theorem nh{a b:Bool}(h:a=true)(k:b=true):(a&&b)=true:=by rw[h,k];rfl
theorem j2:laidOutB Tryz.prog=true:=by kernel_rfl
theorem j3:mapsRowed Tryz.prog=true:=by kernel_rfl
theorem j22:(Rows.vaultSickRow.plainKeys==Tryz.prog.plainKeys)=true:=by kernel_rfl
theorem j23:Tryz.prog.stopsHeard=true:=by kernel_rfl
theorem aap:Tryz.prog.mayEnter=true:=by kernel_rfl
theorem j24:(Rows.vaultSickRow.lifted==Tryz.prog.liftsFinal)=true:=by kernel_rfl
theorem j9:(Rows.vaultSickRow.wf (OpenSpec.ofChange Rows.vaultSickSpec)&&laidOutB Tryz.prog&&mapsRowed Tryz.prog&&
 Tryz.f5.params.all (Tryz.prog.readableRec ·)&&namedTie Tryz.prog Rows.vaultSickRow.named Rows.vaultSickSpec.vars&&
 (Rows.vaultSickRow.stops==[])&&(Tryz.prog.stops==[])&&(Rows.vaultSickRow.knobs==[])&&(Tryz.prog.stopKnobs==[]))=true:=
 nh (nh (nh (nh (nh (nh (nh (nh (by kernel_rfl) j2) j3) (by kernel_rfl)) (by kernel_rfl)) (by kernel_rfl)) (by kernel_rfl)) (by kernel_rfl)) (by kernel_rfl)
end Go.Proofs.YtnffemlgkghcfaaGreatDoor.pN
