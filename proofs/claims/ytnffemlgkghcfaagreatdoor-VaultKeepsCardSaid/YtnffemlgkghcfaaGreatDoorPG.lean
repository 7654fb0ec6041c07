/- Part of the proof: see the last text. -/
import Derived.Test.YtnffemlgkghcfaaGreatDoorRows
import Derived.JoinedOf
import Derived.KernelRfl
set_option linter.all false
set_option maxRecDepth 100000
set_option synthInstance.maxSize 100000
namespace Go.Proofs.YtnffemlgkghcfaaGreatDoor.oA
theorem Gs:(Rows.vaultKeepsRow.inPlace==Tryz.prog.inPlace 6)=true:=by kernel_rfl
theorem Uk:(Rows.vaultKeepsRow.unfollowed==Tryz.prog.unfollowed 6)=true:=by kernel_rfl
theorem Wn:(Rows.vaultKeepsRow.recurses==Tryz.prog.recurses 6)=true:=by kernel_rfl
theorem j13:(Rows.vaultKeepsRow.named==Tryz.prog.varsNamed 6)=true:=by kernel_rfl
theorem nu{a b:Bool}(h:a=true)(k:b=true):(a&&b)=true:=by rw[h,k];rfl
theorem j2:laidOutB Tryz.prog=true:=by kernel_rfl
theorem j3:mapsRowed Tryz.prog=true:=by kernel_rfl
theorem j22:(Rows.vaultKeepsRow.plainKeys==Tryz.prog.plainKeys)=true:=by kernel_rfl
theorem j23:Tryz.prog.stopsHeard=true:=by kernel_rfl
theorem aas:Tryz.prog.mayEnter=true:=by kernel_rfl
theorem j24:(Rows.vaultKeepsRow.lifted==Tryz.prog.liftsFinal)=true:=by kernel_rfl
theorem j9:(Rows.vaultKeepsRow.wf (OpenSpec.ofChange Rows.vaultKeepsSpec)&&laidOutB Tryz.prog&&mapsRowed Tryz.prog&&
 Tryz.f6.params.all (Tryz.prog.readableRec ·)&&namedTie Tryz.prog Rows.vaultKeepsRow.named Rows.vaultKeepsSpec.vars&&
 (Rows.vaultKeepsRow.stops==[])&&(Tryz.prog.stops==[])&&(Rows.vaultKeepsRow.knobs==[])&&(Tryz.prog.stopKnobs==[]))=true:=
 nu (nu (nu (nu (nu (nu (nu (nu (by kernel_rfl) j2) j3) (by kernel_rfl)) (by kernel_rfl)) (by kernel_rfl)) (by kernel_rfl)) (by kernel_rfl)) (by kernel_rfl)
end Go.Proofs.YtnffemlgkghcfaaGreatDoor.oA
