/- Part of the proof: see the last text. -/
import Derived.Test.YtibneekkkdnmgaaGreatDoorPD
import Derived.Test.YtibneekkkdnmgaaGreatDoorPE
import Derived.Test.YtibneekkkdnmgaaGreatDoorPF
set_option linter.all false
set_option maxRecDepth 100000
set_option synthInstance.maxSize 100000
open Go.IntKind renaming i64→aa
open Int renaming toNat_natCast→ak
open List renaming getElem?_eq_getElem→aj,getElem?_eq_some_iff→ao,mem_of_getElem?→bD
open Nat renaming zero_le→aE
namespace Go.Prog
open Go.Den
def cb.j2(K:VK)(p8:OA)(b10:Bool):WK:=
br b10 (
K (.b false)) (
nn p8 λa8=>
lP a8 λIY=>
fQ IY (xB λb11=>
br (!b11) (
nn p8 λa9=>
lP (a9.add 1) λYe=>
dT p8 Ye (xB λb12=>
br b12 (
K (.b true)) (
nn p8 λa10=>
lP (a10.add 2) λU0=>
dT p8 U0 (xB λb13=>
K (.b b13))))) (
K (.b false))))
def cb.j1(K:VK)(n1:Int)(uK:OA)(s8 uU:Nat)(jT:OA)(jd ku:Nat)(n2 n3 n4:Int)(b2:Bool):WK:=
br b2 (
K (.b true)) (
fE (xP λp1=>
nn p1 λa1=>
lP a1 λp2=>
nL p2 n1 (x0
((lp [.b false,.p p1,.l uK s8 uU,.i (s8:Int),.i 0] λI1 lj=>
∀b3 p3 qU pn qS n5 n6 w2,I1 [.b b3,.p p3,.l qU pn qS,.i n5,.i n6] w2->(
br (decide (n6<n5)) (
iV qU pn n6 6 λa2=>
aJ a2 6 λCR=>
mk wP λr1=>
bA 6 (ad r1 0) CR (
lI (ad r1 0) λn7=>
br (decide (n7<2)) (
aJ (ad r1 0) 6 λzU=>
aG p3 zU (xB λb4=>
br (!b4) (
K (.b false)) (
nn p3 λa3=>
lP (a3.add 1) λp4=>
dT p3 p4 (xB λb5=>
br (!b5) (
K (.b false)) (
(ct I1 lj [.b b3,.p p3,.l qU pn qS,.i n5,.i (aa.wrap (n6+1))] [.b b3,.p p3,.l qU pn qS,.i n5,.i n6] w2)))))) (
(ct I1 lj [.b b3,.p p3,.l qU pn qS,.i n5,.i (aa.wrap (n6+1))] [.b b3,.p p3,.l qU pn qS,.i n5,.i n6] w2)))) (
nn p3 λa4=>
lP a4 λp5=>
fQ p5 (xB λb6=>
br (!b6) (
K (.b true)) (
nn p3 λa5=>
lP a5 λp6=>
iM p6 (xP λp7=>
ia p7 (xI .i64 λn8=>
(lp [.b b3,.p p3,.i n8,.l jT jd ku,.i (jd:Int),.i 0] λI2 TF=>
∀b7 p8 n9 tD sK tC Bg Bf w6,I2 [.b b7,.p p8,.i n9,.l tD sK tC,.i Bg,.i Bf] w6->(
br (decide (Bf<Bg)) (
iV tD sK Bf 1 λa6=>
lS a6 λs1=>
br (decide ((s1.size:Int)>4096)) (
K (.b true)) (
cu (1=1/\True) (
aG p8 [.i 0,.s s1,.u 0,.i 0,.i 0,.i 0] (xB λb8=>
br (!b8) (
K (.b false)) (
nn p8 λa7=>
lP (a7.add 1) λp9=>
dT p8 p9 (xB λb9=>
br (!b9) (
K (.b false)) (
(ct I2 TF [.b b7,.p p8,.i n9,.l tD sK tC,.i Bg,.i (aa.wrap (Bf+1))] [.b b7,.p p8,.i n9,.l tD sK tC,.i Bg,.i Bf] w6)))))))) (
nn p8 λa11=>
lP a11 λp13=>
iM p13 (xP λp14=>
ia p14 (xI .i64 λDZ=>
br (DZ !=n9) (
cb.j2 K p8 true) (
nn p8 λa12=>
lP a12 λp15=>
iQ p15 n2 n3 n4 (xI .i64 λDc=>
cb.j2 K p8 (Dc !=0))))))) w6))))))) w2)))))
def cb.j3(K:VK)(n1:Int)(uK:OA)(s8 uU:Nat)(jT:OA)(jd ku:Nat)(n2 n3 n4:Int)(b15:Bool):WK:=
br b15 (
cb.j1 K n1 uK s8 uU jT jd ku n2 n3 n4 true) (
br (decide (n1<1)) (
cb.j1 K n1 uK s8 uU jT jd ku n2 n3 n4 true) (
cb.j1 K n1 uK s8 uU jT jd ku n2 n3 n4 (decide (n1>2000))))
def cb(uK:OA)(s8 uU:Nat)(n1:Int)(jT:OA)(jd ku:Nat)(n2 n3 n4:Int)(K:VK):WK:=
dN (xB λb1=>
br (!b1) (
K (.b false)) (
gn uK s8 uU (xB λb14=>
br b14 (
cb.j3 K n1 uK s8 uU jT jd ku n2 n3 n4 true) (
cb.j3 K n1 uK s8 uU jT jd ku n2 n3 n4 (decide ((jd:Int)>20))))))
end Go.Prog
namespace Go.Up
open Go.Sep Go.Den Go.RowKit Go.Prog Go.Md Go.cF
set_option maxHeartbeats 1000000 in
def P4{W:World}{L:LH}{K:VK}{sb mb:OA}{sc mc:Nat}{l:List TS}{l2:List (List UInt8)}{n mask torn cut:Int}(G:mY W)(hr:mZ W [] yR 6 sb l)(tG:Im l)(O3:mZ W [] sC 1 mb l2)(afz:l2.length<=maxLen)(h:T W L (K (.b true))):
 T W L (cb sb l.length sc n mb l2.length mc mask torn cut K):=by
 unfold maxLen at afz;unfold cb;refine wI G (oU (vg ?_));refine wx hr tG λb hb=>?_;refine oU ?_;have j1T:T W L (cb.j1 K n sb l.length sc mb l2.length mc mask torn cut true):=by
  unfold cb.j1;exact h
 have j3T:T W L (cb.j3 K n sb l.length sc mb l2.length mc mask torn cut true):=by
  unfold cb.j3;exact j1T
 cases b with
 |true=>exact j3T
 |false=>
 obtain⟨Pe,Bo⟩:=hb rfl;refine ph ?_;by_cases adG:(l2.length:Int)>20
 ·rw[av adG];exact j3T
 rw[ar adG];unfold cb.j3;refine ph ?_;refine ga (λg1=>j1T) (λg1=>?_);by_cases YO:n>2000
 ·rw[av YO];exact j1T
 rw[ar YO];clear j3T j1T;unfold cb.j1;refine ph ?_;refine uI G λw=>?_;apply ws;intros;refine aaM (w:=w) ?_;have hk0:KI 600 {zG 600 with D:=(zG 600).D.rl n} je je 0:=KI.wv.rl (by decide) n;refine Bh G (P:=λi S m mf=>True) tG.1 hk0 trivial (λi x gx S m mf hk hg Ct hp I μ w2 fin=>?_) (λS m mf hk hg Ct _=>?_)
 ·have hi:i<l.length:=(ao.1 gx).1;refine zF hr tG.1 gx λr=>?_;apply ws;intros;apply ga<;>intro g1
  ·apply ws;intros;refine KF (w:=w) G (Bo x (bD gx)) hk (by omega) hg Ct λb S' m' Am m2 Al hw xX xx he=>?_;obtain⟨rfl,rfl,rfl⟩:=he ⟨rfl,rfl⟩;apply ws;intros;refine FC (w:=w) ?_;rw[av (sE.refl _)];apply ws;intros;exact T.drop (fin S' m2 Al (hw.ki hk) xX xx trivial)
  ·exact T.drop (fin S m mf (hk.mono (by omega)) hg Ct trivial)
 apply ws;intros;refine JP (w:=w) ?_;dsimp only;cases hs:S.dJ with
 |false=>exact T.drop h
 |true=>
 apply ws;intros;refine N' (w:=w) ?_;dsimp only;intro w' jO;refine⟨λvv w'=>∃(j:Nat),j<=l2.length/\vv=[.b false,.p (ah w),.i S.D.ops,.l mb l2.length mc,.i (l2.length:Int),.i (j:Int)]/\St W w' (wd w ⟨S,m,m,mf⟩::L),
  λvs _=>match vs with|[_,_,_,_,_,.int _ d]=>l2.length-d.toNat|_=>0,⟨0,aE _,rfl,jO⟩,?_⟩
 rintro b7 p8 n9 tD sK tC Bg Bf w6 ⟨j,hj,e,hO⟩;cases e
 refine T.at ?_ hO;have e5:=nK j;apply ga<;>intro g2
 ·have bX:j<l2.length:=by omega
  have gy:=aj bX;generalize l2[j]=y at gy;refine iU (R:=[]) O3 ⟨by omega,by omega⟩ rfl λa ha=>?_;rw[ak];refine aaY (R:=[]) O3 ha gy ?_;apply ws;intros;refine ga (λg3=>T.drop h) (λg3=>?_);rw[cj] at g3;apply ws;intros;show T W _ (aG (ah w) (yR ⟨0,y,0,0,0,0⟩) _);refine KF (w:=w) G (x:=⟨0,y,0,0,0,0⟩) (by show y.length<=16384;omega) hk (by omega) hg Ct λb S' m' Am m2 Al hw xX xx he=>?_;obtain⟨rfl,rfl,rfl⟩:=he ⟨rfl,rfl⟩;obtain⟨rfl,rfl,rfl⟩:S'=S/\m2=m/\Al=mf:=by
   cases hw with
   |none _ _ _ _=>exact⟨rfl,rfl,rfl⟩
   |did _ a _ _ _ _=>rw[hs] at a;cases a
   |Pj _ a _ _ _=>rw[hs] at a;cases a
   |saved a _ _ _=>cases a
   |vk a _ _ _=>cases a
   |AN a _ _ _ _=>cases a
   |arm a=>cases a
  apply ws;intros;refine FC (w:=w) ?_;rw[av (sE.refl _)];apply ws;intros;rw[e5];refine λw3 h3=>⟨⟨j+1,bX,rfl,h3⟩,by show l2.length-((j+1:Nat):Int).toNat<l2.length-(j:Int).toNat;omega⟩
 ·apply ws;intros;refine N' (w:=w) ?_;refine fW (by simp) ?_;apply ws;intros;obtain⟨m0,E',hold⟩:=hk.AN (by decide) mask torn cut;refine T6 (w:=w) G (hk.vz.vok (by omega)) hold (by omega) λS' hw N0=>?_;have e0:((0:Int)!=0)=false:=by decide
  rw[e0];unfold cb.j2;apply ws;intros;refine JP (w:=w) ?_;dsimp only;rw[hw.dJ];apply ws;intros;refine FC (w:=w) ?_;dsimp only;refine ga (λg4=>T.drop h) (λg4=>?_);apply ws;intros;refine aaK (w:=w) ?_;have:sE mf m0:=by
   rcases E' with e|e
   ·rw[e] at g4;exact aQ (sE.refl m) g4
   ·rw[e];exact sE.refl mf
  dsimp only;rw[av this];exact T.drop h
end Go.Up
namespace Go.Proofs.YtibneekkkdnmgaaGreatDoor
open Go.Sep Go.Den Go.RowKit Go.Prog Go.Up
def e12:aF P 12 (U [.l,.n,.l,.i .u64,.n,.n] cb):=ub [(8,[(12,vb),(13,vp),(43,vl),(44,vi),(45,vi)]),(17,[(12,vb),(13,vp),(16,vi),(80,vl),(81,vi),(82,vi)])] (tk e14 (tk e15 (tk Xy (tk e17 (tk e18 (tk e19 (tk e29 (tk e37 (tk e38 (tk e39 t0)))))))))) Tryz.func12
def Nf{W:World}{b0:OA}{n0 c0:Nat}{Fv:LV}{a1:Int}{b2:OA}{n2 c2:Nat}{xs2:LV}{a3:Int}{a4:Int}{a5:Int}(G:mY W)(D9:Ro W b0 n0 6 Fv)(O6:y5 XK n0 Fv)(E':n0<=maxLen)(O3:Ro W b2 n2 1 xs2)(N1:y5 [.s] n2 xs2)(Lg:n2<=maxLen):
 U [.l,.n,.l,.i .u64,.n,.n] cb [.l b0 n0 c0,.i a1,.l b2 n2 c2,.u a3,.i a4,.i a5] (λv w'=>v=.bool true/\Below W.heap.size W w') W:=by
 obtain⟨l0,rfl,h0,k0⟩:=Z2 D9 O6 E';obtain⟨l2,rfl,h2⟩:=scs O3 N1;exact P4 (K:=λv w'=>v=.bool true/\Below W.heap.size W w') (W:=W) (L:=[]) G h0 k0 h2 Lg (λw hs=>⟨rfl,hs.1⟩) W (St.start W)
end Go.Proofs.YtibneekkkdnmgaaGreatDoor
