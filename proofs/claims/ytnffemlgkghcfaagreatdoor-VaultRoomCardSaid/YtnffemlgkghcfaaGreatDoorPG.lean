/- Part of the proof: see the last text. -/
import Derived.Test.YtnffemlgkghcfaaGreatDoorRows
import Derived.JoinedOf
import Derived.KernelRfl
set_option linter.all false
set_option maxRecDepth 100000
set_option synthInstance.maxSize 100000
namespace Go.Proofs.YtnffemlgkghcfaaGreatDoor.pT
theorem FI:(Rows.vaultRoomRow.inPlace==Tryz.prog.inPlace 3)=true:=by kernel_rfl
theorem TG:(Rows.vaultRoomRow.unfollowed==Tryz.prog.unfollowed 3)=true:=by kernel_rfl
theorem Vz:(Rows.vaultRoomRow.recurses==Tryz.prog.recurses 3)=true:=by kernel_rfl
theorem j13:(Rows.vaultRoomRow.named==Tryz.prog.varsNamed 3)=true:=by kernel_rfl
theorem nO{a b:Bool}(h:a=true)(k:b=true):(a&&b)=true:=by rw[h,k];rfl
theorem j2:laidOutB Tryz.prog=true:=by kernel_rfl
theorem j3:mapsRowed Tryz.prog=true:=by kernel_rfl
theorem j22:(Rows.vaultRoomRow.plainKeys==Tryz.prog.plainKeys)=true:=by kernel_rfl
theorem j23:Tryz.prog.stopsHeard=true:=by kernel_rfl
theorem ZV:Tryz.prog.mayEnter=true:=by kernel_rfl
theorem j24:(Rows.vaultRoomRow.lifted==Tryz.prog.liftsFinal)=true:=by kernel_rfl
theorem j9:(Rows.vaultRoomRow.wf (OpenSpec.ofChange Rows.vaultRoomSpec)&&laidOutB Tryz.prog&&mapsRowed Tryz.prog&&
 Tryz.f3.params.all (Tryz.prog.readableRec ·)&&namedTie Tryz.prog Rows.vaultRoomRow.named Rows.vaultRoomSpec.vars&&
 (Rows.vaultRoomRow.stops==[])&&(Tryz.prog.stops==[])&&(Rows.vaultRoomRow.knobs==[])&&(Tryz.prog.stopKnobs==[]))=true:=
 nO (nO (nO (nO (nO (nO (nO (nO (by kernel_rfl) j2) j3) (by kernel_rfl)) (by kernel_rfl)) (by kernel_rfl)) (by kernel_rfl)) (by kernel_rfl)) (by kernel_rfl)
end Go.Proofs.YtnffemlgkghcfaaGreatDoor.pT
