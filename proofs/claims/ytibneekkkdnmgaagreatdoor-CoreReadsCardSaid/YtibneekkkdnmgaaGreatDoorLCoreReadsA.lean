/- Part of the proof: see the last text. -/
import Derived.Test.YtibneekkkdnmgaaGreatDoorPD
import Derived.Test.YtibneekkkdnmgaaGreatDoorPE
import Derived.Test.YtibneekkkdnmgaaGreatDoorPF
set_option linter.all false
set_option maxRecDepth 100000
set_option synthInstance.maxSize 100000
open Go.IntKind renaming i64→aa
open List renaming getElem?_eq_some_iff→ao,mem_of_getElem?→bD,nil_append→cw
namespace Go.Prog
open Go.Den
def cX.j2(K:VK)(p2:OA)(n6:Int)(I1:LI)(b3:Bool)(jT:OA)(jd ku:Nat)(n1 n2:Int)(lj:LM)(w2:World)(b6:Bool):WK:=
br b6 (
K (.b false)) (
nn p2 λa6=>
lP a6 λIY=>
dW IY (xP λYe=>
ie Ye (xI .i64 λn9=>
br (n9 !=n6) (
K (.b false)) (
(ct I1 lj [.b b3,.p p2,.l jT jd ku,.i n1,.i (aa.wrap (n2+1))] [.b b3,.p p2,.l jT jd ku,.i n1,.i n2] w2)))))
def cX.j1(K:VK)(p2:OA)(n4 n6:Int)(I1:LI)(b3:Bool)(jT:OA)(jd ku:Nat)(n1 n2:Int)(lj:LM)(w2:World)(n5:Int)(b5:Bool):WK:=
br b5 (
nn p2 λa5=>
lP a5 λp8=>
iM p8 (xP λp9=>
ia p9 (xI .i64 λn8=>
br (n8 !=n4) (
cX.j2 K p2 n6 I1 b3 jT jd ku n1 n2 lj w2 true) (
nn p2 λa7=>
lP a7 λU0=>
jK U0 (xI .i64 λBg=>
cX.j2 K p2 n6 I1 b3 jT jd ku n1 n2 lj w2 (Bg !=n5)))))) (
(ct I1 lj [.b b3,.p p2,.l jT jd ku,.i n1,.i (aa.wrap (n2+1))] [.b b3,.p p2,.l jT jd ku,.i n1,.i n2] w2))
def cX(uK:OA)(s8 uU:Nat)(K:VK):WK:=
dN (xB λb1=>
br (!b1) (
K (.b false)) (
gn uK s8 uU (xB λb2=>
br b2 (
K (.b true)) (
fE (xP λp1=>
(lp [.b false,.p p1,.l uK s8 uU,.i (s8:Int),.i 0] λI1 lj=>
∀b3 p2 jT jd ku n1 n2 w2,I1 [.b b3,.p p2,.l jT jd ku,.i n1,.i n2] w2->(
br (decide (n2<n1)) (
iV jT jd n2 6 λa1=>
aJ a1 6 λCR=>
mk wP λr1=>
bA 6 (ad r1 0) CR (
lS (ad r1 1) λs1=>
kF s1 (x2 λv1 v2=>(xA 13 λzU=>
(xI .i64 λn3=>
mk mO λr2=>
bA 13 (ad r2 0) zU (
tick (
nn p2 λa2=>
lP a2 λp3=>
nn p2 λa3=>
lP a3 λp4=>
nn p2 λa4=>
lP a4 λp5=>
iM p3 (xP λp6=>
kp a4 [.p p5] (
kp a3 [.p p4] (
ia p6 (xI .i64 λn4=>
kp a4 [.p p5] (
kp a3 [.p p4] (
jK p4 (xI .i64 λn5=>
kp a4 [.p p5] (
dW p5 (xP λp7=>
ie p7 (xI .i64 λn6=>
aJ (ad r1 0) 6 λDx=>
aG p2 Dx (xB λb4=>
br (!b4) (
K (.b false)) (
lI (ad r1 0) λn7=>
br (n7==0) (
br (n3 !=0) (
cX.j1 K p2 n4 n6 I1 b3 jT jd ku n1 n2 lj w2 n5 true) (
aJ (ad r2 0) 13 λBw=>
jA Bw (xB λb7=>
cX.j1 K p2 n4 n6 I1 b3 jT jd ku n1 n2 lj w2 n5 (!b7)))) (
cX.j1 K p2 n4 n6 I1 b3 jT jd ku n1 n2 lj w2 n5 false)))))))))))))))) v2) v1))) (
K (.b true))) w2))))))
end Go.Prog
namespace Go.Up
open Go.Sep Go.Den Go.RowKit Go.Prog Go.Md Go.cF
section
variable {W:World} {L rest:LH} {K:VK} {X:WK} {w:Nat} {x:WX} {f:WX->LH}
def aaW{n s:Nat}{y:VS×aA}(h:∀d v pb pj,T W (VL v d n pb pj y.2 y.1 (Sep.pt s (HQ d v)::L)) X):T W (EU n s y::L) X:=
 T.ex λz=>T.sps (M:=VL z.v z.d n z.pb z.pj y.2 y.1 [Sep.pt s (HQ z.d z.v)]) (h z.d z.v z.pb z.pj)
def Qc[i:Lc (wd w) L x f]{F:Int->Int->Int->WK}(h:T W L (F x.S.D.ops x.S.J.seq x.ms.ay)):
 T W L (lP ⟨w,0,none⟩ λp3=>nn (ah w) λa3=>lP a3 λp4=>nn (ah w) λa4=>lP a4 λp5=>
   iM p3 (xP λp6=>kp a4 [.p p5] (kp a3 [.p p4] (ia p6 (xI .i64 λn4=>kp a4 [.p p5] (kp a3 [.p p4] (jK p4 (xI .i64 λn5=>kp a4 [.p p5] (dW p5 (xP λp7=>ie p7 (xI .i64 λn6=>F n4 n5 n6))))))))))):=by
 refine T.foc (P:=wd w) λM hM=>?_;refine Qf λz E hf k1 k2=>?_;apply ws;intros;refine T.pl [1] ?_;refine aaW λd v pb pj=>?_;unfold iM;apply ws;intros;refine aaF (d:=d) ?_;apply ws;intros;refine Oe ?_;refine J5 (n:=600) (s:=z.s) ?_;apply ws;intros;refine xj (n:=600) (s:=z.s) λp=>?_;apply ws;intros;refine Av (p:=p) ?_;apply ws;intros;refine T.drop ?_;refine T.pl (M:=xV w z x (M++E)) [1,0] ?_;refine Qg hf k1 k2 ?_;refine hM x [] _ ?_;rw[cw,i.same];exact h
end
set_option maxHeartbeats 1000000 in
def NN{W:World}{L:LH}{K:VK}{sb:OA}{sc:Nat}{l:List TS}(G:mY W)(hr:mZ W [] yR 6 sb l)(tG:Im l)(h:T W L (K (.b true))):T W L (cX sb l.length sc K):=by
 unfold cX;refine wI G (oU (vg ?_));refine wx hr tG λb hb=>?_;refine oU ?_;cases b with
 |true=>exact h
 |false=>
 obtain⟨Pe,Bo⟩:=hb rfl;refine ph ?_;refine uI G λw=>?_;refine vf ?_;refine Bh G (P:=λi S m mf=>True) tG.1 KI.wv trivial (λi x gx S m mf hk hg Ct hp I μ w2 fin=>?_) (λS m mf _ _ _ _=>T.drop h);have hi:i<l.length:=(ao.1 gx).1;have hx:=Bo x (bD gx);refine zF hr tG.1 gx λr=>?_;apply ws;intros;have afe:∀{S':VS} {m2 Al:aA},uh x S m mf (3* i) S' m2 Al->x.kind=0->sX x.b=false->S'=S/\m2=m:=λhw hk0 ht=>by
  have hx: ¬x.wr:=λhh=>by
   have:sX x.b=true:=by unfold sX;rw[hh.2.1];exact hh.2.2
   rw[ht] at this;cases this
  cases hw with
  |none _ _ _ _=>exact⟨rfl,rfl⟩
  |did h _ _ _ _ _=>exact aQ h hx
  |Pj h _ _ _ _=>exact aQ h hx
  |saved h _ _ _=>omega
  |vk h _ _ _=>omega
  |AN h _ _ _ _=>omega
  |arm h=>omega
 have j1:∀{S':VS} {m2 Al:aA}(b:Bool),uh x S m mf (3* i) S' m2 Al->Md.bK m2->Md.bK Al->(b=true->x.kind=0/\sX x.b=false)->T W (wd w ⟨S',m2,m2,Al⟩::L) (cX.j1 K (ah w) S.D.ops m.ay I false sb l.length sc (l.length:Int) (i:Int) μ w2 S.J.seq b):=λ{S' m2 Al} b hw xX xx hb=>by
  unfold cX.j1 cX.j2;have fin:=fin S' m2 Al (hw.ki hk) xX xx trivial;cases b with
  |false=>exact fin
  |true=>
   obtain⟨rfl,rfl⟩:=afe hw (hb rfl).1 (hb rfl).2;apply ws;intros;refine N' (w:=w) ?_;refine fW (by simp) ?_;apply ws;intros;refine aaJ (w:=w) ?_;have e:(S'.J.seq !=S'.J.seq)=false:=by simp
   dsimp only;rw[e];apply ws;intros;refine zn (w:=w) λp=>?_;refine Av (p:=p) ?_;apply ws;intros;refine fW (by show(m2.ay !=m2.ay)=false;simp) ?_;exact T.drop fin
 refine EP (by omega) (λhro=>?_) (λhro A sl hq=>?_)
 ·have ht:sX x.b=false:=by unfold sX;rw[hro];rfl
  apply ws;intros;refine Qc (w:=w) ?_;apply ws;intros;refine KF (w:=w) G hx hk (by omega) hg Ct λb S' m' Am m2 Al hw xX xx he=>?_;obtain⟨rfl,rfl,rfl⟩:=he ⟨rfl,rfl⟩;apply ws;intros;apply dj<;>intro g3
  ·have g3:x.kind=0:=by simpa using g3
   refine mP (by decide) ?_;exact T.drop (T.drop (j1 true hw xX xx λ_=>⟨g3,ht⟩))
  ·exact T.drop (T.drop (j1 false hw xX xx λhh=>by cases hh))
 ·apply ws;intros;rename_i r2;refine Qc (w:=w) ?_;apply ws;intros;refine KF (w:=w) G hx hk (by omega) hg Ct λb S' m' Am m2 Al hw xX xx he=>?_;obtain⟨rfl,rfl,rfl⟩:=he ⟨rfl,rfl⟩;apply ws;intros;apply dj<;>intro g3
  ·have g3:x.kind=0:=by simpa using g3
   refine fW (by decide) ?_;apply ws;intros;refine zC ?_;apply ws;intros;refine T.drop (T.drop (T.drop (j1 _ hw xX xx λhh=>⟨g3,?_⟩)));unfold sX;rw[hro];simpa using hh
  ·exact T.drop (T.drop (T.drop (j1 false hw xX xx λhh=>by cases hh)))
end Go.Up
namespace Go.Proofs.YtibneekkkdnmgaaGreatDoor
open Go.Sep Go.Den Go.RowKit Go.Prog Go.Up
def e13:aF P 13 (U [.l] cX):=ub [(7,[(2,vb),(3,vp),(16,vl),(17,vi),(18,vi)])] (tk e14 (tk e15 (tk Xy (tk e17 (tk e20 (tk e30 (tk e32 (tk e33 (tk e38 (tk e39 (tk e40 t0))))))))))) Tryz.func13
def KL{W:World}{b0:OA}{n0 c0:Nat}{Fv:LV}(G:mY W)(D9:Ro W b0 n0 6 Fv)(O6:y5 XK n0 Fv)(E':n0<=maxLen):
 U [.l] cX [.l b0 n0 c0] (λv w'=>v=.bool true/\Below W.heap.size W w') W:=by
 obtain⟨l0,rfl,h0,k0⟩:=Z2 D9 O6 E';exact NN (K:=λv w'=>v=.bool true/\Below W.heap.size W w') (W:=W) (L:=[]) G h0 k0 (λw hs=>⟨rfl,hs.1⟩) W (St.start W)
end Go.Proofs.YtibneekkkdnmgaaGreatDoor
