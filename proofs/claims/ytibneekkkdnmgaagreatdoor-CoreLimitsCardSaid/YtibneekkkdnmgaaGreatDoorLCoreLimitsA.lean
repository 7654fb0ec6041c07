/- Part of the proof: see the last text. -/
import Derived.Test.YtibneekkkdnmgaaGreatDoorLG1A
import Derived.Test.YtibneekkkdnmgaaGreatDoorPE
import Derived.Test.YtibneekkkdnmgaaGreatDoorPF
set_option linter.all false
set_option maxRecDepth 100000
set_option synthInstance.maxSize 100000
open Go.IntKind renaming i64→aa
open Int renaming toNat_natCast→ak
open List renaming getElem?_eq_getElem→aj,getElem?_eq_some_iff→ao,mem_of_getElem?→bD,getElem_mem→bP
open Nat renaming zero_le→aE
namespace Go.Prog
open Go.Den
def fA.j1(K:VK)(p4:OA)(b3:Bool)(p2 jT:OA)(jd ku:Nat)(n1 n2:Int)(I1:LI)(lj:LM)(w2:World)(b5:Bool):WK:=
br b5 (
K (.b false)) (
fk p4 (xL λqU pn qS=>
(lp [.b b3,.p p2,.l jT jd ku,.i n1,.i n2,.l qU pn qS,.i (pn:Int),.i 0] λI2 TF=>
∀b6 p5 tD sK tC n3 n4 xi wS yU n5 n6 w4,I2 [.b b6,.p p5,.l tD sK tC,.i n3,.i n4,.l xi wS yU,.i n5,.i n6] w4->(
br (decide (n6<n5)) (
iV xi wS n6 14 λa3=>
aJ a3 14 λDx=>
mk dV λr2=>
bA 14 (ad r2 0) Dx (
aJ (ad r2 0) 14 λBw=>
kD Bw (xB λb7=>
br (!b7) (
K (.b false)) (
(ct I2 TF [.b b6,.p p5,.l tD sK tC,.i n3,.i n4,.l xi wS yU,.i n5,.i (aa.wrap (n6+1))] [.b b6,.p p5,.l tD sK tC,.i n3,.i n4,.l xi wS yU,.i n5,.i n6] w4))))) (
(ct I1 lj [.b b6,.p p5,.l tD sK tC,.i n3,.i (aa.wrap (n4+1))] [.b b3,.p p2,.l jT jd ku,.i n1,.i n2] w2))) w4)))
def fA(uK:OA)(s8 uU:Nat)(K:VK):WK:=
dN (xB λb1=>
br (!b1) (
K (.b false)) (
gn uK s8 uU (xB λb2=>
br b2 (
K (.b true)) (
fE (xP λp1=>
(lp [.b false,.p p1,.l uK s8 uU,.i (s8:Int),.i 0] λI1 lj=>
∀b3 p2 jT jd ku n1 n2 w2,I1 [.b b3,.p p2,.l jT jd ku,.i n1,.i n2] w2->(
br (decide (n2<n1)) (
iV jT jd n2 6 λa1=>
aJ a1 6 λCR=>
mk wP λr1=>
bA 6 (ad r1 0) CR (
aJ (ad r1 0) 6 λzU=>
aG p2 zU (xB λb4=>
br (!b4) (
K (.b false)) (
nn p2 λa2=>
lP a2 λp3=>
dW p3 (xP λp4=>
fk p4 (xL λB0 BF BG=>
br (decide ((BF:Int)>32)) (
fA.j1 K p4 b3 p2 jT jd ku n1 n2 I1 lj w2 true) (
fZ p4 (xL λIH EV Ld=>
fA.j1 K p4 b3 p2 jT jd ku n1 n2 I1 lj w2 (decide ((EV:Int)>96)))))))))) (
K (.b true))) w2))))))
end Go.Prog
namespace Go.Up
open Go.Sep Go.Den Go.RowKit Go.Prog Go.Md Go.cF
def Lb{W:World}{L:LH}{K:VK}{sb:OA}{sc:Nat}{l:List TS}(G:mY W)(hr:mZ W [] yR 6 sb l)(tG:Im l)(h:T W L (K (.b true))):T W L (fA sb l.length sc K):=by
 unfold fA;refine wI G (oU (vg ?_));refine wx hr tG λb hb=>?_;refine oU ?_;cases b with
 |true=>exact h
 |false=>
 obtain⟨Pe,Bo⟩:=hb rfl;refine ph ?_;refine uI G λw=>?_;refine vf ?_;have N3:TD je:=λa ha=>by cases ha
 refine Bh G (P:=λi S m mf=>TD m/\TD mf) tG.1 KI.wv ⟨N3,N3⟩ (λi x gx S m mf hk hg Ct hp I μ w2 fin=>?_) (λS m mf _ _ _ _=>T.drop h);have hi:i<l.length:=(ao.1 gx).1;refine zF hr tG.1 gx λr=>?_;apply ws;intros;refine KF (w:=w) G (Bo x (bD gx)) hk (by omega) hg Ct λb S' m' Am m2 Al hw xX xx he=>?_;obtain⟨rfl,rfl,rfl⟩:=he ⟨rfl,rfl⟩;have Ec:=hw.inv (P:=TD) (λq h=>yE (λ_ _ a b c=>b.step a c) hg h) hp.1 hp.2;apply ws;intros;refine Iv (w:=w) λeJ Ji _=>?_;have og:(bo m2).aB.length<=32:=eJ.og;have many:(bo m2).ax.length<=96:=eJ.many;refine zn (w:=w) λp=>?_;refine qw (p:=p) λb1 c1=>?_;refine um ?_;refine fW (by simp;omega) ?_;refine uR (p:=p) λb2 c2=>?_;refine um ?_;have e0:decide (((bo m2).ax.length:Int)>96)=false:=ar (by omega);dsimp only;rw[e0];unfold fA.j1;apply ws;intros;refine qw (p:=p) λb3 c3=>?_;apply ws;intros;have hbo:=Ww Ji Ec.1;have AY:=aax Ji;dsimp only at hbo AY;generalize hal:(bo m2).aB=al at hbo AY og;refine T.sub (M:=own b3 al.length c3 14 (al.flatMap aL)::wd w ⟨S',m2,m2,Al⟩::L) ?_ (by exact qo);intro w' jO;refine⟨λvv w'=>∃j:Nat,j<=al.length/\vv=[.b false,.p (ah w),.l sb l.length sc,.i (l.length:Int),.i (i:Int),.l b3 al.length c3,.i (al.length:Int),.i (j:Int)]/\St W w' (own b3 al.length c3 14 (al.flatMap aL)::wd w ⟨S',m2,m2,Al⟩::L),
  λvs _=>match vs with|[_,_,_,_,_,_,_,.int _ d]=>al.length-d.toNat|_=>0,⟨0,aE _,rfl,jO⟩,?_⟩
 rintro b6 p5 tD sK tC n3 n4 xi wS yU n5 n6 w4 ⟨j,hj,e,hO⟩;cases e
 refine T.at ?_ hO;have e5:=nK j;apply ga<;>intro g1
 ·have bX:j<al.length:=by omega
  have gy:=aj bX;have hy:=hbo _ (bP bX);have hyk:=AY _ (bP bX);generalize al[j]=y at gy hy hyk;refine dL (b:=b3) ⟨by omega,by omega⟩ λrb Ko=>?_;rw[ak];subst Ko;refine gT (g:=aL) (λ_=>rfl) gy ?_;apply ws;intros;refine Cc hyk hy.1 hy.2.1 hy.2.2.1 hy.2.2.2.1 hy.2.2.2.2 ?_;apply ws;intros;rw[e5];refine T.drop λw3 h3=>⟨⟨j+1,bX,rfl,h3⟩,by show al.length-((j+1:Nat):Int).toNat<al.length-(j:Int).toNat;omega⟩
 ·refine T.drop ?_;exact fin S' m2 Al (hw.ki hk) xX xx Ec
end Go.Up
namespace Go.Proofs.YtibneekkkdnmgaaGreatDoor
open Go.Sep Go.Den Go.RowKit Go.Prog Go.Up
def e9:aF P 9 (U [.l] fA):=ub [(7,[(2,vb),(3,vp),(14,vl),(15,vi),(16,vi)]),(15,[(2,vb),(3,vp),(14,vl),(15,vi),(16,vi),(40,vl),(41,vi),(42,vi)])] (tk e14 (tk e15 (tk Xy (tk e17 (tk e20 (tk e21 (tk e22 (tk e24 t0)))))))) Tryz.func9
def Ij{W:World}{b0:OA}{n0 c0:Nat}{Fv:LV}(G:mY W)(D9:Ro W b0 n0 6 Fv)(O6:y5 XK n0 Fv)(E':n0<=maxLen):
 U [.l] fA [.l b0 n0 c0] (λv w'=>v=.bool true/\Below W.heap.size W w') W:=by
 obtain⟨l0,rfl,h0,k0⟩:=Z2 D9 O6 E';exact Lb (K:=λv w'=>v=.bool true/\Below W.heap.size W w') (W:=W) (L:=[]) G h0 k0 (λw hs=>⟨rfl,hs.1⟩) W (St.start W)
end Go.Proofs.YtibneekkkdnmgaaGreatDoor
