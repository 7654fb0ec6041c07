/- Part of the proof: see the last text. -/
import Derived.Test.YtfijieggfhnpeaaGreatDoorRows
import Derived.JoinedOf
import Derived.KernelRfl
import Derived.LaidMore
import Derived.Lay
import Derived.MakeChecks
set_option linter.all false
set_option maxRecDepth 100000
set_option synthInstance.maxSize 100000
namespace Go.Proofs.YtfijieggfhnpeaaGreatDoor
def dZ{a b:Bool}(h:a=true)(k:b=true):(a&&b)=true:=by rw[h,k];rfl
def p2:laidOutB Tryz.prog=true:=by kernel_rfl
def p3:mapsRowed Tryz.prog=true:=by kernel_rfl
def p22:(Rows.stockReadsRow.plainKeys==Tryz.prog.plainKeys)=true:=by kernel_rfl
def p23:Tryz.prog.stopsHeard=true:=by kernel_rfl
def Wa:Tryz.prog.mayEnter=true:=by kernel_rfl
def p24:(Rows.stockReadsRow.lifted==Tryz.prog.liftsFinal)=true:=by kernel_rfl
def V9:ownKnob Tryz.prog.godebug=none:=by kernel_rfl
def pL1(os:Os):World.layFits Tryz.prog (World.holding Tryz.prog os {blocks:=#[],args:=#[]}) Rows.stockReadsRow.laid []=true:=by kernel_rfl
def pL2(os:Os):World.layIfaces Tryz.prog (World.holding Tryz.prog os {blocks:=#[],args:=#[]}) Rows.stockReadsRow.laid (World.laidAll Tryz.prog os Rows.stockReadsRow.laid)=true:=by kernel_rfl
def pS(os:Os)(args:Array Value):World.Shaped Tryz.prog ((World.laidAll Tryz.prog os Rows.stockReadsRow.laid).forCall (λ_ _=>0) {blocks:=#[],args:=args}):=World.shaped_of_ZipB (by kernel_rfl) (by kernel_rfl)
end Go.Proofs.YtfijieggfhnpeaaGreatDoor
