/- Part of the proof: see the last text. -/
import Derived.Test.YtdeklijinefhkaaGreatDoorLG1A
import Derived.Test.YtdeklijinefhkaaGreatDoorPE
set_option linter.all false
set_option maxRecDepth 100000
set_option synthInstance.maxSize 100000
namespace Go.Up
open Go.Sep Go.Den Go.RowKit Go.Prog Go.Md Go.cG
section
variable {W:World} {L R:LH} {K:VK}
def TG{l:List Bool}{s:OA}{i:Nat}{x:Bool}{a:Addr}[hh:Has R L](hr:mE W R bC 1 s l)(hs:s=some a)(hx:l[i]?=some x)(h:T W L (K (.b x))):T W L (ld (a.add (i* 1)) K):=λw hw=>by
 obtain⟨a',ha,hh⟩:=hr w (hh.sub hw) i x hx;rw[hs] at ha;cases ha
 exact IU (hh 0 _ rfl) (h w hw)
end
end Go.Up
