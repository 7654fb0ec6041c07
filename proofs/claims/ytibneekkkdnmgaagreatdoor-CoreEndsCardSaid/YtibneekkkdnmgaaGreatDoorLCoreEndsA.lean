/- Part of the proof: see the last text. -/
import Derived.Test.YtibneekkkdnmgaaGreatDoorPD
import Derived.Test.YtibneekkkdnmgaaGreatDoorPE
import Derived.Test.YtibneekkkdnmgaaGreatDoorPF
set_option linter.all false
set_option maxRecDepth 100000
set_option synthInstance.maxSize 100000
open Go.IntKind renaming i64→aa
open Int renaming toNat_natCast→ak
open List renaming getElem?_eq_some_iff→ao,getElem?_append_left→bh,mem_map→cA,getElem?_set→da,mem_append→dF,getElem?_map→eo,mem_or_eq_of_mem_set→eE,getElem?_eq_getElem→aj,mem_of_getElem?→bD
open Nat renaming zero_le→aE
namespace Go.Up
open Go.Md
def PT(m m':aA):Prop:=∀(i:Nat)(k:ch),m.ax[i]?=some k->∃k',m'.ax[i]?=some k'/\k'.move=k.move/\k'.asked=k.asked/\(k.fate≠1->k'.fate=k.fate)
def PT.refl(m:aA):PT m m:=λi k h=>⟨k,h,rfl,rfl,λ_=>rfl⟩
def PT.trans{a b c:aA}(h:PT a b)(g:PT b c):PT a c:=λi k hk=>by
 obtain⟨k1,h1,h2,h3,h4⟩:=h i k hk;obtain⟨k2,g1,g2,g3,g4⟩:=g i k1 h1;exact⟨k2,g1,by rw[g2,h2],by rw[g3,h3],λhf=>by have:=h4 hf;rw[g4 (by rw[this];exact hf),this]⟩
def PT.kY{m:aA}(asked t:cM)(f:Int):PT m (m.kY asked t f):=λi k hk=>by
 refine⟨k,?_,rfl,rfl,λ_=>rfl⟩;show(m.ax++[_])[i]?=some k;rw[bh (ao.1 hk).1];exact hk
def PT.step{m m':aA}(hs:Step m m'):PT m m':=by
 cases hs with
 |same=>exact .refl _
 |make a hc hn hf=>exact λi k hk=>⟨k,hk,rfl,rfl,λ_=>rfl⟩
 |move t n d c hk he hn hd hc EI Ef hl hm hb wX=>exact .kY _ _ _
 |ends t i k0 hi hk he hn hw hf hb hm=>
  obtain⟨bX,ek⟩:=ao.1 hi;refine .trans (b:=m.dH i (cK t)) (λj k hj=>?_) (.kY _ _ _);rw[oq bX,da];by_cases e:i=j
  ·subst e;rw[hi] at hj;cases hj
   rw[ai rfl,ai bX];exact⟨_,rfl,by rw[ek],by rw[ek],λhh=>aQ hf hh⟩
  ·rw[ag e];exact⟨k,hj,rfl,rfl,λ_=>rfl⟩
 |time now=>
  intro i k hk;generalize hc:(m.time now).clock=ck;have ek:(m.time now).ax=m.ax.map λk=>if kJ ck k then{k with fate:=4} else k:=by rw[<-hc];rfl
  refine⟨if kJ ck k then{k with fate:=4} else k,by rw[ek,eo,hk];rfl,?_,?_,λhf=>?_⟩
  ·split<;>rfl
  ·split<;>rfl
  ·rw[ag λhh=>hf hh.1]
def Hq(m:aA):Prop:=∀k∈m.ax,(k.fate=1-> ¬(0<k.move.cn/\k.move.jh+k.move.cn<=m.clock))/\(k.fate=4->0<k.move.cn/\k.move.jh+k.move.cn<=m.clock)
def Hq.kY{m:aA}(h:Hq m)(asked t:cM)(f:Int)(hf:f≠4):Hq (m.kY asked t f):=λk hk=>by
 rcases dF.1 hk with hk|hk
 ·exact h k hk
 ·simp at hk;rw[hk];dsimp only;exact⟨λ_ hh=>by have:m.clock+t.cn<=m.clock:=hh.2;have:=hh.1;omega,λhh=>aQ hh hf⟩
def Hq.step{m m':aA}(h:Hq m)(hs:Step m m'):Hq m':=by
 cases hs with
 |same=>exact h
 |make a hc hn hf=>exact h
 |move t n d c hk he hn hd hc EI Ef hl hm hb wX=>exact h.kY _ _ _ (by unfold waits;split<;>decide)
 |ends t i k0 hi hk he hn hw hf hb hm=>
  obtain⟨bX,ek⟩:=ao.1 hi;refine Hq.kY (λk q8=>?_) _ _ _ (by decide);rw[oq bX] at q8;rcases eE q8 with hh|hh
  ·exact h k hh
  ·rw[hh];dsimp only;have:cK t=2\/cK t=3:=by unfold cK;split<;>simp
   exact⟨λh1=>by omega,λh4=>by omega⟩
 |time now=>
  have hck:m.clock<=(m.time now).clock:=by show m.clock<=if m.clock<now/\now<=1099511627776 then now else m.clock;split<;>omega
  generalize hc:(m.time now).clock=ck at hck;have ek:(m.time now).ax=m.ax.map λk=>if kJ ck k then{k with fate:=4} else k:=by rw[<-hc];rfl
  intro k hk;rw[ek] at hk;rw[hc];obtain⟨k0,hk0,rfl⟩:=cA.1 hk;by_cases ho:kJ ck k0
  ·rw[ai ho];dsimp only;exact⟨λhh=>aQ hh (by decide),λ_=>⟨ho.2.1,ho.2.2⟩⟩
  ·rw[ag ho];refine⟨λhh h2=>ho ⟨hh,h2.1,h2.2⟩,λhh=>?_⟩;have:=(h k0 hk0).2 hh;omega
end Go.Up
namespace Go.Prog
open Go.Den
def dx.j2(K:VK)(r3:Nat)(b9:Bool)(I3:LI)(b8:Bool)(p9 IY Hv:OA)(FW Hu:Nat)(Bg Bf:Int)(Le:OA)(J3 LP:Nat)(DZ Dc:Int)(Ht:LM)(w8:World)(b10:Bool):WK:=
br b10 (
K (.b false)) (
lI (ad r3 32) λn15=>
br (n15==4) (
br (!b9) (
K (.b false)) (
(ct I3 Ht [.b b8,.p p9,.p IY,.l Hv FW Hu,.i Bg,.i Bf,.l Le J3 LP,.i DZ,.i (aa.wrap (Dc+1))] [.b b8,.p p9,.p IY,.l Hv FW Hu,.i Bg,.i Bf,.l Le J3 LP,.i DZ,.i Dc] w8))) (
(ct I3 Ht [.b b8,.p p9,.p IY,.l Hv FW Hu,.i Bg,.i Bf,.l Le J3 LP,.i DZ,.i (aa.wrap (Dc+1))] [.b b8,.p p9,.p IY,.l Hv FW Hu,.i Bg,.i Bf,.l Le J3 LP,.i DZ,.i Dc] w8)))
def dx.j1(K:VK)(r3:Nat)(I3:LI)(b8:Bool)(p9 IY Hv:OA)(FW Hu:Nat)(Bg Bf:Int)(Le:OA)(J3 LP:Nat)(DZ Dc:Int)(Ht:LM)(w8:World)(b9:Bool):WK:=
lI (ad r3 32) λSC=>
br (SC==1) (
dx.j2 K r3 b9 I3 b8 p9 IY Hv FW Hu Bg Bf Le J3 LP DZ Dc Ht w8 b9) (
dx.j2 K r3 b9 I3 b8 p9 IY Hv FW Hu Bg Bf Le J3 LP DZ Dc Ht w8 false)
def dx(uK:OA)(s8 uU:Nat)(K:VK):WK:=
dN (xB λb1=>
br (!b1) (
K (.b false)) (
gn uK s8 uU (xB λb2=>
br b2 (
K (.b true)) (
fE (xP λp1=>
(lp [.b false,.p p1,.l uK s8 uU,.i (s8:Int),.i 0] λI1 lj=>
∀b3 p2 jT jd ku n1 n2 w2,I1 [.b b3,.p p2,.l jT jd ku,.i n1,.i n2] w2->(
br (decide (n2<n1)) (
iV jT jd n2 6 λa1=>
aJ a1 6 λCR=>
mk wP λr1=>
bA 6 (ad r1 0) CR (
nn p2 λa2=>
lP a2 λp3=>
dW p3 (xP λp4=>
fZ p4 (xL λqU pn qS=>
aJ (ad r1 0) 6 λzU=>
aG p2 zU (xB λb4=>
nn p2 λa3=>
lP a3 λp5=>
dW p5 (xP λp6=>
fZ p6 (xL λtD sK tC=>
br (decide ((sK:Int)<(pn:Int))) (
K (.b false)) (
(lp [.b b3,.p p2,.p p6,.l tD sK tC,.l jT jd ku,.i n1,.i n2,.l qU pn qS,.i (pn:Int),.i 0] λI2 TF=>
∀b5 p7 p8 xi wS yU B0 BF BG n3 n4 IH EV Ld n5 n6 w4,I2 [.b b5,.p p7,.p p8,.l xi wS yU,.l B0 BF BG,.i n3,.i n4,.l IH EV Ld,.i n5,.i n6] w4->(
br (decide (n6<n5)) (
iV IH EV n6 33 λa4=>
aJ a4 33 λDx=>
mk cG λr2=>
bA 33 (ad r2 0) Dx (
tick (
iV xi wS n6 33 λa5=>
aJ (a5.add 16) 16 λBw=>
aJ (ad r2 16) 16 λIh=>
rz iA Bw Ih λb6=>
br (!b6) (
K (.b false)) (
iV xi wS n6 33 λa6=>
aJ a6 16 λPu=>
aJ (ad r2 0) 16 λRt=>
rz iA Pu Rt λb7=>
br (!b7) (
K (.b false)) (
lI (ad r2 32) λn7=>
br (n7 !=1) (
iV xi wS n6 33 λa7=>
lI (a7.add 32) λn8=>
lI (ad r2 32) λn9=>
br (n8 !=n9) (
K (.b false)) (
(ct I2 TF [.b b5,.p p7,.p p8,.l xi wS yU,.l B0 BF BG,.i n3,.i n4,.l IH EV Ld,.i n5,.i (aa.wrap (n6+1))] [.b b5,.p p7,.p p8,.l xi wS yU,.l B0 BF BG,.i n3,.i n4,.l IH EV Ld,.i n5,.i n6] w4))) (
(ct I2 TF [.b b5,.p p7,.p p8,.l xi wS yU,.l B0 BF BG,.i n3,.i n4,.l IH EV Ld,.i n5,.i (aa.wrap (n6+1))] [.b b5,.p p7,.p p8,.l xi wS yU,.l B0 BF BG,.i n3,.i n4,.l IH EV Ld,.i n5,.i n6] w4))))))) (
(lp [.b b5,.p p7,.p p8,.l B0 BF BG,.i n3,.i n4,.l xi wS yU,.i (wS:Int),.i 0] λI3 Ht=>
∀b8 p9 IY Hv FW Hu Bg Bf Le J3 LP DZ Dc w8,I3 [.b b8,.p p9,.p IY,.l Hv FW Hu,.i Bg,.i Bf,.l Le J3 LP,.i DZ,.i Dc] w8->(
br (decide (Dc<DZ)) (
iV Le J3 Dc 33 λa8=>
aJ a8 33 λPt=>
mk cG λr3=>
bA 33 (ad r3 0) Pt (
tick (
lI (ad r3 26) λzH=>
br (decide (zH>0)) (
lI (ad r3 31) λn17=>
lI (ad r3 26) λn18=>
iS IY (xI .i64 λn19=>
kp (ad r3 26) [.i n18] (
kp (ad r3 31) [.i n17] (
kp (ad r3 26) [.i zH] (
dx.j1 K r3 I3 b8 p9 IY Hv FW Hu Bg Bf Le J3 LP DZ Dc Ht w8 (decide ((aa.wrap (n17+n18))<=n19))))))) (
dx.j1 K r3 I3 b8 p9 IY Hv FW Hu Bg Bf Le J3 LP DZ Dc Ht w8 false)))) (
(ct I1 lj [.b b8,.p p9,.l Hv FW Hu,.i Bg,.i (aa.wrap (Bf+1))] [.b b3,.p p2,.l jT jd ku,.i n1,.i n2] w2))) w8))) w4))))))))) (
K (.b true))) w2))))))
end Go.Prog
namespace Go.Up
open Go.Sep Go.Den Go.RowKit Go.Prog Go.Md Go.cF
set_option maxHeartbeats 1000000 in
def P0{W:World}{L:LH}{K:VK}{sb:OA}{sc:Nat}{l:List TS}(G:mY W)(hr:mZ W [] yR 6 sb l)(tG:Im l)(h:T W L (K (.b true))):T W L (dx sb l.length sc K):=by
 unfold dx;refine wI G (oU (vg ?_));refine wx hr tG λb hb=>?_;refine oU ?_;cases b with
 |true=>exact h
 |false=>
 obtain⟨Pe,Bo⟩:=hb rfl;refine ph ?_;refine uI G λw=>?_;refine vf ?_;have N3:Hq je:=λa ha=>by cases ha
 have hq:∀(m:aA)(q:kh),Md.bK m->PT m (bI m q).2.2:=λm q hg=>yE (P:=λm'=>PT m m') (λ_ _ _ a b=>a.trans (.step b)) hg (.refl m);refine Bh G (P:=λi S m mf=>Hq m/\Hq mf/\PT m mf) tG.1 KI.wv ⟨N3,N3,.refl _⟩ (λi x gx S m mf hk hg Ct hp I μ w2 fin=>?_) (λS m mf _ _ _ _=>T.drop h);have hi:i<l.length:=(ao.1 gx).1;refine zF hr tG.1 gx λr=>?_;apply ws;intros;refine Iv (w:=w) λabO aiJ _=>?_;have ain:m.ax.length<=96:=abO.many;refine zn (w:=w) λp=>?_;refine uR (p:=p) λb1 c1=>?_;apply ws;intros;refine KF (w:=w) G (Bo x (bD gx)) hk (by omega) hg Ct λb S' m' Am m2 Al hw xX xx he=>?_;obtain⟨rfl,rfl,rfl⟩:=he ⟨rfl,rfl⟩;have Rg:=hw.inv (P:=Hq) (λq h=>yE (λ_ _ _ b c=>b.step c) hg h) hp.1 hp.2.1;have SW:PT m m2/\PT m2 Al:=by
  cases hw with
  |none _ _ _ _=>exact⟨.refl _,hp.2.2⟩
  |did _ _ _ _ _ _=>exact⟨hq _ _ hg,.refl _⟩
  |Pj _ _ _ _ _=>exact⟨.refl _,hq _ _ hg⟩
  |saved _ _ _ _=>exact⟨.refl _,hp.2.2⟩
  |vk _ _ _ _=>exact⟨.refl _,hp.2.2⟩
  |AN _ m0 hm _ _=>rcases hm with e|e<;>subst e<;>first|exact⟨.refl _,.refl _⟩|exact⟨hp.2.2,.refl _⟩
  |arm _=>exact⟨.refl _,hp.2.2⟩
 apply ws;intros;refine Iv (w:=w) λeJ Ji _=>?_;have many:m2.ax.length<=96:=eJ.many;refine zn (w:=w) λp2=>?_;refine uR (p:=p2) λb2 c2=>?_;have TN:(bo m).ax=m.ax:=rfl;have q8:(bo m2).ax=m2.ax:=rfl;dsimp only;rw[TN,q8];have hlen:m.ax.length<=m2.ax.length:=by
  cases hz:m.ax.length with
  |zero=>omega
  |succ n=>
   obtain⟨k,h1,_⟩:=SW.1 n _ (aj (by omega));have:=(ao.1 h1).1;omega
 apply ws;intros;refine fW (ar (by omega)) ?_;refine T.sub (M:=own b2 m2.ax.length c2 33 (m2.ax.flatMap bF)::cL p2 (bo m2,[])::own b1 m.ax.length c1 33 (m.ax.flatMap bF)::wd w ⟨S',m2,m2,Al⟩::L) ?_ (by exact qo);intro w' jO;refine⟨λvv w'=>∃(j:Nat),j<=m.ax.length/\vv=[.b false,.p (ah w),.p (ah p2),.l b2 m2.ax.length c2,.l sb l.length sc,.i (l.length:Int),.i (i:Int),.l b1 m.ax.length c1,.i (m.ax.length:Int),.i (j:Int)]/\
  St W w' (own b2 m2.ax.length c2 33 (m2.ax.flatMap bF)::cL p2 (bo m2,[])::own b1 m.ax.length c1 33 (m.ax.flatMap bF)::wd w ⟨S',m2,m2,Al⟩::L),
  λvs _=>match vs with|[_,_,_,_,_,_,_,_,_,.int _ d]=>m.ax.length-d.toNat|_=>0,⟨0,aE _,rfl,jO⟩,?_⟩
 rintro b5 p7 p8 xi wS yU B0 BF BG n3 n4 IH EV Ld n5 n6 w4 ⟨j,hj,e,hO⟩;cases e
 refine T.at ?_ hO;have e5:=nK j;apply ga<;>intro g1
 ·have bX:j<m.ax.length:=by omega
  have gy:=aj bX;generalize m.ax[j]=y at gy;obtain⟨z,gz,e1,e2,e3⟩:=SW.1 j y gy;refine iU (hh:=Has.refl) (QJ (g:=bF) (λ_=>rfl)) ⟨by omega,by omega⟩ rfl λa ha=>?_;rw[ak];refine jR (hh:=Has.refl) (QJ (g:=bF) (λ_=>rfl)) ha gy rfl ?_;apply ws;intros;rename_i r2;refine dL (b:=b2) ⟨by omega,by omega⟩ λrb Ko=>?_;rw[ak];subst Ko;apply ws;intros;refine Of (g:=bF) (λ_=>rfl) gz ?_;apply ws;intros;refine Qm ?_;rw[av e1];apply ws;intros;refine dL (b:=ah rb) ⟨by omega,by omega⟩ λrb2 afm=>?_;rw[ak];cases afm
  refine Og (g:=bF) (λ_=>rfl) gz ?_;apply ws;intros;refine Qm ?_;rw[av e2];apply ws;intros;rw[e5];apply dj<;>intro g2
  ·have g2:y.fate≠1:=by simpa using g2
   refine dL (b:=ah rb) ⟨by omega,by omega⟩ λrb3 afl=>?_;rw[ak];cases afl
   apply ws;intros;refine CX (g:=bF) (j:=32) (λ_=>rfl) gz rfl ?_;apply ws;intros;refine fW (by rw[e3 g2];simp) ?_;refine T.drop λw3 h3=>⟨⟨j+1,bX,rfl,h3⟩,by show m.ax.length-((j+1:Nat):Int).toNat<m.ax.length-(j:Int).toNat;omega⟩
  ·refine T.drop λw3 h3=>⟨⟨j+1,bX,rfl,h3⟩,by show m.ax.length-((j+1:Nat):Int).toNat<m.ax.length-(j:Int).toNat;omega⟩
 ·obtain⟨I3,hI⟩:∃I3:LI,I3=λvv w'=>∃(j:Nat),j<=m2.ax.length/\vv=[.b false,.p (ah w),.p (ah p2),.l sb l.length sc,.i (l.length:Int),.i (i:Int),.l b2 m2.ax.length c2,.i (m2.ax.length:Int),.i (j:Int)]/\
   St W w' (own b2 m2.ax.length c2 33 (m2.ax.flatMap bF)::cL p2 (bo m2,[])::own b1 m.ax.length c1 33 (m.ax.flatMap bF)::wd w ⟨S',m2,m2,Al⟩::L):=⟨_,rfl⟩
  obtain⟨Ht,hμ⟩:∃Ht:LM,Ht=λvs _=>match vs with|[_,_,_,_,_,_,_,_,.int _ d]=>m2.ax.length-d.toNat|_=>0:=⟨_,rfl⟩
  intro w' jO;refine⟨I3,Ht,by rw[hI];exact⟨0,aE _,rfl,jO⟩,?_⟩;intro b5 p7 p8 xi wS yU n3 n4 IH EV Ld n5 n6 w4 hI2;rw[hI] at hI2;obtain⟨j,hj,e,hO⟩:=hI2;cases e
  refine T.at ?_ hO;have e5:=nK j;apply ga<;>intro g1
  ·have bX:j<m2.ax.length:=by omega
   have gy:=aj bX;generalize m2.ax[j]=y at gy;have hy:=bD gy;obtain⟨d1,d2⟩:=Rg.1 y hy;have MJ:=Ji.ax y hy;have k1:=MJ.cn;have k2:=MJ.jh;refine iU (hh:=Has.refl) (QJ (g:=bF) (λ_=>rfl)) ⟨by omega,by omega⟩ rfl λa ha=>?_;rw[ak];refine jR (hh:=Has.refl) (QJ (g:=bF) (λ_=>rfl)) ha gy rfl ?_;apply ws;intros;rename_i r3;have abX:T W (Sep.pt r3 (bF y)::own b2 m2.ax.length c2 33 (m2.ax.flatMap bF)::cL p2 (bo m2,[])::own b1 m.ax.length c1 33 (m.ax.flatMap bF)::wd w ⟨S',m2,m2,Al⟩::L) (ct I3 Ht [.b false,.p (ah w),.p (ah p2),.l sb l.length sc,.i (l.length:Int),.i (i:Int),.l b2 m2.ax.length c2,.i (m2.ax.length:Int),.i (aa.wrap ((j:Int)+1))] [.b false,.p (ah w),.p (ah p2),.l sb l.length sc,.i (l.length:Int),.i (i:Int),.l b2 m2.ax.length c2,.i (m2.ax.length:Int),.i (j:Int)] w4):=by
    rw[e5];refine T.drop λw3 h3=>⟨?_,?_⟩
    ·rw[hI];exact⟨j+1,bX,rfl,h3⟩
    ·rw[hμ];show m2.ax.length-((j+1:Nat):Int).toNat<m2.ax.length-(j:Int).toNat;omega
   have j1:∀bb:Bool,bb=decide (0<y.move.cn/\y.move.jh+y.move.cn<=m2.clock)->T W (Sep.pt r3 (bF y)::own b2 m2.ax.length c2 33 (m2.ax.flatMap bF)::cL p2 (bo m2,[])::own b1 m.ax.length c1 33 (m.ax.flatMap bF)::wd w ⟨S',m2,m2,Al⟩::L) (dx.j1 K r3 I3 false (ah w) (ah p2) sb l.length sc (l.length:Int) (i:Int) b2 m2.ax.length c2 (m2.ax.length:Int) (j:Int) Ht w4 bb):=λbb TR=>by
    unfold dx.j1 dx.j2;apply ws;intros;apply dj<;>intro g3
    ·have g3:y.fate=1:=by simpa using g3
     rw[ar (d1 g3)] at TR;subst TR;apply ws;intros;refine fW (by rw[g3];rfl) ?_;exact abX
    ·apply ws;intros;apply dj<;>intro g4
     ·have g4:y.fate=4:=by simpa using g4
      rw[av (d2 g4)] at TR;subst TR;apply ws;intros;exact abX
     ·exact abX
   apply ga<;>intro g2
   ·apply ws;intros;refine AA (p:=p2) ?_;apply ws;intros;refine j1 _ ?_;rw[aW (by omega),decide_eq_decide];show _↔0<y.move.cn/\y.move.jh+y.move.cn<=m2.clock;exact⟨λh=>⟨g2,h⟩,λh=>h.2⟩
   ·exact j1 false (ar (λh=>g2 h.1)).symm
  ·exact T.drop (T.drop (T.drop (fin S' m2 Al (hw.ki hk) xX xx ⟨Rg.1,Rg.2,SW.2⟩)))
end Go.Up
namespace Go.Proofs.YtibneekkkdnmgaaGreatDoor
open Go.Sep Go.Den Go.RowKit Go.Prog Go.Up
def e6:aF P 6 (U [.l] dx):=ub [(7,[(2,vb),(3,vp),(19,vl),(20,vi),(21,vi)]),(16,[(2,vb),(3,vp),(7,vp),(8,vl),(19,vl),(20,vi),(21,vi),(46,vl),(47,vi),(48,vi)]),(22,[(2,vb),(3,vp),(7,vp),(19,vl),(20,vi),(21,vi),(87,vl),(88,vi),(89,vi)])] (tk e14 (tk e15 (tk Xy (tk e17 (tk e20 (tk e22 (tk e26 t0))))))) Tryz.func6
def Nd{W:World}{b0:OA}{n0 c0:Nat}{Fv:LV}(G:mY W)(D9:Ro W b0 n0 6 Fv)(O6:y5 XK n0 Fv)(E':n0<=maxLen):
 U [.l] dx [.l b0 n0 c0] (λv w'=>v=.bool true/\Below W.heap.size W w') W:=by
 obtain⟨l0,rfl,h0,k0⟩:=Z2 D9 O6 E';exact P0 (K:=λv w'=>v=.bool true/\Below W.heap.size W w') (W:=W) (L:=[]) G h0 k0 (λw hs=>⟨rfl,hs.1⟩) W (St.start W)
end Go.Proofs.YtibneekkkdnmgaaGreatDoor
