/- Part of the proof: see the last text. -/
import Derived.Test.YtibneekkkdnmgaaGreatDoorPD
import Derived.Test.YtibneekkkdnmgaaGreatDoorPE
import Derived.Test.YtibneekkkdnmgaaGreatDoorPF
set_option linter.all false
set_option maxRecDepth 100000
set_option synthInstance.maxSize 100000
open Go.IntKind renaming i64→aa
open List renaming getElem?_eq_some_iff→ao,mem_of_getElem?→bD
namespace Go.Prog
open Go.Den
def kC(uK:OA)(s8 uU:Nat)(K:VK):WK:=
dN (xB λb1=>
br (!b1) (
K (.b false)) (
gn uK s8 uU (xB λb2=>
br b2 (
K (.b true)) (
fE (xP λp1=>
(lp [.b false,.p p1,.l uK s8 uU,.i (s8:Int),.i 0] λI1 lj=>
∀b3 p2 jT jd ku n1 n2 w2,I1 [.b b3,.p p2,.l jT jd ku,.i n1,.i n2] w2->(
br (decide (n2<n1)) (
iV jT jd n2 6 λa1=>
aJ a1 6 λCR=>
mk wP λr1=>
bA 6 (ad r1 0) CR (
aJ (ad r1 0) 6 λzU=>
aG p2 zU (xB λb4=>
br (!b4) (
K (.b false)) (
nn p2 λa2=>
lP (a2.add 1) λp3=>
dT p2 p3 (xB λb5=>
br (!b5) (
K (.b false)) (
(ct I1 lj [.b b3,.p p2,.l jT jd ku,.i n1,.i (aa.wrap (n2+1))] [.b b3,.p p2,.l jT jd ku,.i n1,.i n2] w2))))))) (
K (.b true))) w2))))))
end Go.Prog
namespace Go.Up
open Go.Sep Go.Den Go.RowKit Go.Prog Go.Md Go.cF
def NO{W:World}{L:LH}{K:VK}{sb:OA}{sc:Nat}{l:List TS}(G:mY W)(hr:mZ W [] yR 6 sb l)(tG:Im l)(h:T W L (K (.b true))):T W L (kC sb l.length sc K):=by
 unfold kC;refine wI G (oU (vg ?_));refine wx hr tG λb hb=>?_;refine oU ?_;cases b with
 |true=>exact h
 |false=>
 obtain⟨Pe,Bo⟩:=hb rfl;refine ph ?_;refine uI G λw=>?_;refine vf ?_;refine Bh G (P:=λ_ _ _ _=>True) tG.1 KI.wv trivial (λi x gx S m mf hk hg Ct _ I μ w2 fin=>?_) (λS m mf _ _ _ _=>T.drop h);have hi:i<l.length:=(ao.1 gx).1;refine zF hr tG.1 gx λr=>?_;apply ws;intros;refine KF (w:=w) G (Bo x (bD gx)) hk (by omega) hg Ct λb S' m' Am m2 Al hw xX xx he=>?_;obtain⟨rfl,rfl,rfl⟩:=he ⟨rfl,rfl⟩;apply ws;intros;refine FC (w:=w) ?_;rw[av (sE.refl _)];apply ws;intros;exact T.drop (fin S' m2 Al (hw.ki hk) xX xx trivial)
end Go.Up
namespace Go.Proofs.YtibneekkkdnmgaaGreatDoor
open Go.Sep Go.Den Go.RowKit Go.Prog Go.Up
def e4:aF P 4 (U [.l] kC):=ub [(7,[(2,vb),(3,vp),(11,vl),(12,vi),(13,vi)])] (t5 e14 e15 Xy e17 e18) Tryz.func4
def KN{W:World}{b0:OA}{n0 c0:Nat}{Fv:LV}(G:mY W)(D9:Ro W b0 n0 6 Fv)(O6:y5 XK n0 Fv)(E':n0<=maxLen):
 U [.l] kC [.l b0 n0 c0] (λv w'=>v=.bool true/\Below W.heap.size W w') W:=by
 obtain⟨l0,rfl,h0,k0⟩:=Z2 D9 O6 E';exact NO (K:=λv w'=>v=.bool true/\Below W.heap.size W w') (W:=W) (L:=[]) G h0 k0 (λw hs=>⟨rfl,hs.1⟩) W (St.start W)
end Go.Proofs.YtibneekkkdnmgaaGreatDoor
