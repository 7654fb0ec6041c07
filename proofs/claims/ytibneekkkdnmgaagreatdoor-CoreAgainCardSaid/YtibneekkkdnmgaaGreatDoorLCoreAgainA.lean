/- Part of the proof: see the last text. -/
import Derived.Test.YtibneekkkdnmgaaGreatDoorPE
import Derived.Test.YtibneekkkdnmgaaGreatDoorPF
set_option linter.all false
set_option maxRecDepth 100000
set_option synthInstance.maxSize 100000
open Bool renaming and_eq_true→dh,true_and→dI
open Go.IntKind renaming i64→aa
open Int renaming toNat_natCast→ak,tmod_eq_emod_of_nonneg→dB
open List renaming getElem?_eq_getElem→aj,getElem?_eq_some_iff→av,take_length→aV,take_add_one→ba,length_map→bY,mem_of_getElem?→cn,getElem?_map→dU,mem_append→dY
open Nat renaming zero_le→aE
namespace Go.Prog
open Go.Den
def bg.j4(K:VK)(r8:Nat)(b9:Bool)(p6:OA)(r7:Nat)(b11:Bool):WK:=
br b11 (
K (.b false)) (
lL (ad r8 1) λWz QH Wx=>
(lp [.b b9,.p p6,.p (some (ad r7 0)),.l Wz QH Wx,.i (QH:Int),.i 0] λI5 μ5=>
∀b12 Zi a12 KJ IU Nq n21 n22 w15,I5 [.b b12,.p Zi,.p (some a12),.l KJ IU Nq,.i n21,.i n22] w15->(
br (decide (n22<n21)) (
iY KJ IU n22 1 λa13=>
lI a13 λn23=>
br (n23 !=10) (
K (.b false)) (
(ct I5 μ5 [.b b12,.p Zi,.p (some a12),.l KJ IU Nq,.i n21,.i (aa.wrap (n22+1))] [.b b12,.p Zi,.p (some a12),.l KJ IU Nq,.i n21,.i n22] w15))) (
nn Zi λa14=>
lP a14 λp13=>
ff p13 (xP λp14=>
hG p14 (xL λWy Wt Ww=>
fh p14 (xL λaau aaq aas=>
ji p14 (xI .i64 λn24=>
kr p14 (xI .i64 λn25=>
cQ (some a12) Wy Wt Ww aau aaq aas n24 n25 (xB λb13=>
K (.b b13))))))))) w15))
def bg.j3(K:VK)(b7:Bool)(p4:OA)(r5:Nat)(jJ:OA)(iX jV:Nat)(s1:BA)(b8:Bool):WK:=
br b8 (
K (.b true)) (
(lp [.b b7,.p p4,.p (some (ad r5 0)),.l jJ iX jV,.i (iX:Int),.i 0] λI4 μ4=>
∀b9 p6 a6 Pg Nn QM MK Ld w11,I4 [.b b9,.p p6,.p (some a6),.l Pg Nn QM,.i MK,.i Ld] w11->(
br (decide (Ld<MK)) (
iY Pg Nn Ld 6 λa7=>
aJ a7 6 λcs7=>
mk Et λr6=>
bD 6 (ad r6 0) cs7 (
lI (ad r6 0) λVE=>
br (decide (VE>0)) (
tick (
nn p6 λa8=>
lP a8 λp7=>
lU (ad r6 2) λRb=>
lI (ad r6 3) λNP=>
lI (ad r6 4) λyb=>
nH p7 Rb NP yb (xI .i64 λn17=>
(ct I4 μ4 [.b b9,.p p6,.p (some a6),.l Pg Nn QM,.i MK,.i (aa.wrap (Ld+1))] [.b b9,.p p6,.p (some a6),.l Pg Nn QM,.i MK,.i Ld] w11)))) (
(ct I4 μ4 [.b b9,.p p6,.p (some a6),.l Pg Nn QM,.i MK,.i (aa.wrap (Ld+1))] [.b b9,.p p6,.p (some a6),.l Pg Nn QM,.i MK,.i Ld] w11)))) (
nn p6 λa9=>
lP a9 λp8=>
ff p8 (xP λp9=>
hG p9 (xL λsb9 sn9 sc9=>
fh p9 (xL λQN DG KH=>
ji p9 (xI .i64 λn18=>
kr p9 (xI .i64 λn19=>
cu (1=1/\(1=1/\(1=1/\(1=1/\True)))) (
mk [.l sb9 sn9 sc9,.l QN DG KH,.i n18,.i n19] λr7=>
nn p6 λa10=>
lP a10 λp10=>
gS p10 s1 (xS λs3=>
iQ s3 (x2 λv5 v6=>(xA 4 λcs8=>
(xI .i64 λn20=>
mk Ab λr8=>
bD 4 (ad r8 0) cs8 (
nn p6 λa11=>
lP a11 λp11=>
gR p11 (xB λb10=>
br b10 (
K (.b true)) (
lI (ad r8 0) λn26=>
br (n26 !=0) (
bg.j4 K r8 b9 p6 r7 true) (
lL (ad r8 1) λaat Wq aar=>
lL (a6.add 1) λacF IT acC=>
bg.j4 K r8 b9 p6 r7 ((Wq:Int)!=(IT:Int))))))) v6) v5)))))))))) w11))
def bg.j2(K:VK)(r2:Nat)(b3:Bool)(p2:OA)(s1:BA)(jJ:OA)(iX jV:Nat)(b5:Bool):WK:=
br b5 (
K (.b true)) (
lL (ad r2 1) λvc rA u6=>
(lp [.b b3,.p p2,.p (some (ad r2 0)),.l vc rA u6,.i (rA:Int),.i 0] λI2 YI=>
∀b6 p3 a2 GC GB GP n4 n5 w5,I2 [.b b6,.p p3,.p (some a2),.l GC GB GP,.i n4,.i n5] w5->(
br (decide (n5<n4)) (
iY GC GB n5 14 λa3=>
aJ a3 14 λJK=>
mk eK λr3=>
bD 14 (ad r3 0) JK (
lI (ad r3 12) λn6=>
cu ((2:Int)≠0) (
br ((n6.tmod (2:Int))==1) (
K (.b true)) (
(ct I2 YI [.b b6,.p p3,.p (some a2),.l GC GB GP,.i n4,.i (aa.wrap (n5+1))] [.b b6,.p p3,.p (some a2),.l GC GB GP,.i n4,.i n5] w5))))) (
lL (a2.add 2) λsb6 Y5 Y7=>
(lp [.b b6,.p p3,.l sb6 Y5 Y7,.i (Y5:Int),.i 0] λI3 V9=>
∀b7 p4 Y8 Tg sc7 n7 n8 w8,I3 [.b b7,.p p4,.l Y8 Tg sc7,.i n7,.i n8] w8->(
br (decide (n8<n7)) (
iY Y8 Tg n8 16 λa4=>
aJ a4 16 λL8=>
mk iD λr4=>
bD 16 (ad r4 0) L8 (
lI (ad r4 13) λn9=>
cu ((2:Int)≠0) (
br ((n9.tmod (2:Int))==1) (
K (.b true)) (
(ct I3 V9 [.b b7,.p p4,.l Y8 Tg sc7,.i n7,.i (aa.wrap (n8+1))] [.b b7,.p p4,.l Y8 Tg sc7,.i n7,.i n8] w8))))) (
nn p4 λa5=>
lP a5 λp5=>
gS p5 s1 (xS λs2=>
iQ s2 (x2 λv3 v4=>(xA 4 λYc=>
(xI .i64 λZl=>
mk Ab λr5=>
bD 4 (ad r5 0) Yc (
tick (
lI (ad r5 0) λn27=>
br (n27 !=0) (
bg.j3 K b7 p4 r5 jJ iX jV s1 true) (
lL (ad r5 1) λacE aap acB=>
lL (ad r5 1) λacD Wo acA=>
gX acE aap acB (xI .i64 λn28=>
kp (ad r5 1) [.l acD Wo acA] (
kp (ad r5 0) [.i n27] (
bg.j3 K b7 p4 r5 jJ iX jV s1 (n28 !=(Wo:Int))))))))) v4) v3)))) w8))) w5))
def bg.j1(K:VK)(yn:OA)(ya Ah:Nat)(s1:BA)(jJ:OA)(iX jV:Nat)(b2:Bool):WK:=
br b2 (
K (.b true)) (
mX (xP λp1=>
(lp [.b false,.p p1,.l yn ya Ah,.i (ya:Int),.i 0] λI1 μ1=>
∀b3 p2 sr oD sq n1 n2 w2,I1 [.b b3,.p p2,.l sr oD sq,.i n1,.i n2] w2->(
br (decide (n2<n1)) (
iY sr oD n2 6 λa1=>
aJ a1 6 λV6=>
mk Et λr1=>
bD 6 (ad r1 0) V6 (
aJ (ad r1 0) 6 λJM=>
aN p2 JM (xB λb4=>
(ct I1 μ1 [.b b3,.p p2,.l sr oD sq,.i n1,.i (aa.wrap (n2+1))] [.b b3,.p p2,.l sr oD sq,.i n1,.i n2] w2)))) (
jI s1 (x2 λv1 v2=>(xA 13 λJL=>
(xI .i64 λn3=>
mk kU λr2=>
bD 13 (ad r2 0) JL (
br (n3 !=0) (
bg.j2 K r2 b3 p2 s1 jJ iX jV true) (
lI (ad r2 0) λn29=>
br (n29 !=1) (
lI (ad r2 0) λn30=>
bg.j2 K r2 b3 p2 s1 jJ iX jV (n30 !=2)) (
bg.j2 K r2 b3 p2 s1 jJ iX jV false)))) v2) v1))) w2)))
def bg(yn:OA)(ya Ah:Nat)(s1:BA)(jJ:OA)(iX jV:Nat)(K:VK):WK:=
il (xB λb1=>
br (!b1) (
K (.b false)) (
kS yn ya Ah (xB λb14=>
br b14 (
bg.j1 K yn ya Ah s1 jJ iX jV true) (
kS jJ iX jV (xB λb15=>
br b15 (
bg.j1 K yn ya Ah s1 jJ iX jV true) (
bg.j1 K yn ya Ah s1 jJ iX jV (decide ((s1.size:Int)>4096))))))))
end Go.Prog
namespace Go.Up
open Go.Sep Go.Den Go.RowKit Go.Prog Go.Md Go.cH
set_option maxHeartbeats 1000000 in
def MH{W:World}{L:LH}{K:VK}{sb mb:OA}{sc mc:Nat}{l l2:List TS}{s:List UInt8}(G:qi W)(hr:np W [] wZ 6 sb l)(AV:Ve l)(hs:(bs s).size<=reachBytes)(G1:np W [] wZ 6 mb l2)(abd:Ve l2)(h:T W L (K (.b true))):
 T W L (bg sb l.length sc (bs s) mb l2.length mc K):=by
 have hmx:l2.length<=maxLen:=abd.1;unfold maxLen at hmx;have VF:T W L (bg.j1 K sb l.length sc (bs s) mb l2.length mc true):=by
  unfold bg.j1;exact h
 unfold bg;refine Qr G (sA (EU ?_));refine Jx hr AV λb hb=>?_;apply sA;cases b with
 |true=>exact VF
 |false=>
 obtain⟨XQ,aa8⟩:=hb rfl;apply sB;refine Jx G1 abd λb2 wE=>?_;apply sA;cases b2 with
 |true=>exact VF
 |false=>
 have aiG:=(wE rfl).1;apply sB;by_cases qX:((bs s).size:Int)>4096
 ·rw[aw qX];exact VF
 rw[aq qX];rw[cf] at qX;clear VF;unfold bg.j1;apply sB;refine Pa G λw=>yj ?_;refine aaW G (P:=λi S m mf=>True) AV.1 KI.Jw trivial (λi x gx S m mf hk hg MV hp I μ w2 fin=>?_) (λS m mf hk hg MV _=>?_)
 ·have hi:i<l.length:=(av.1 gx).1;refine NN hr AV.1 gx λr=>?_;apply ws;refine aeC (w:=w) G (aa8 x (cn gx)) hk (by omega) hg MV λb S' m' mf' m2 mf2 hw GG abf he=>?_;obtain⟨rfl,rfl,rfl⟩:=he ⟨rfl,rfl⟩;apply ws;exact T.drop (fin S' m2 mf2 (hw.ki hk) GG abf trivial)
 have j2T:∀{M:LH} {r2:Nat},T W (M++L) (bg.j2 K r2 false (ah w) (bs s) mb l2.length mc true):=λ{M r2}=>by
  unfold bg.j2;exact T.sub h (List.sublist_append_right M L)
 refine A2 (by omega) (λhro=>?_) (λhro A sl hq=>?_)
 ·apply ws;intros;apply kL (by decide);exact j2T (M:=[_,_])
 obtain⟨o1,o2,o3,o4⟩:=yK s;have N4:∀B,oq W (B::A::wd w ⟨S,m,m,mf⟩::L) (gV s).1 sl:=λB=>oq.two hq;have HY:=tt hro;have Jq:=LS HY (E' s);obtain⟨q,Xv⟩:∃q,(gV s).1=q:=⟨_,rfl⟩;rw[Xv] at o1 o2 o3 o4 N4 HY Jq⊢;apply ws;intros;rename_i r2;apply eO (by decide);apply ws;have Zu:q.op=1\/q.op=2->T W (Sep.pt r2 (fU q sl)::A::wd w ⟨S,m,m,mf⟩::L) (bg.j2 K r2 false (ah w) (bs s) mb l2.length mc false):=λLz=>by
  have N4:=N4 (Sep.pt r2 (fU q sl));have hKt:∀{M:LH},T W (M++L) (K (.b true)):=λ{M}=>T.sub h (List.sublist_append_right M L);unfold bg.j2;apply ws;intro w' jo;refine⟨λvv w'=>∃(i:Nat),i<=q.aB.length/\(∀a∈q.aB.take i,yQ a=false)/\vv=[.b false,.p (ah w),.p (some (ad r2 0)),.l sl.sa q.aB.length sl.ca,.i (q.aB.length:Int),.i (i:Int)]/\St W w' (Sep.pt r2 (fU q sl)::A::wd w ⟨S,m,m,mf⟩::L),
   mq 5 q.aB.length,⟨0,aE _,(λa ha=>by cases ha),rfl,jo⟩,?_⟩
  rintro b6 p3 a2 GC GB GP n4 n5 w5 ⟨i,hi,fx,e,gI⟩;cases e
  refine T.at ?_ gI;have e5:=m9 i;apply fZ<;>intro g1
  ·have cj:i<q.aB.length:=by omega
   have gx:=aj cj;have rB:q.aB.take (i+1)=q.aB.take i++[q.aB[i]]:=by rw[ba,gx];rfl
   generalize q.aB[i]=x at gx rB;refine iq (hh:=Has.refl) N4.aB ⟨by omega,by omega⟩ rfl λa ha=>?_;rw[ak];apply kd (hh:=Has.refl) N4.aB ha gx rfl;apply ws;intros;apply dJ (by decide);refine db (λg2=>hKt (M:=[_,_,_,_])) (λg2=>?_);have XB:yQ x=false:=by
    have g2: ¬x.ao.tmod 2=1:=by simpa using g2
    rw[dB (Jq.1 x (cn gx))] at g2;exact aq g2
   rw[e5];refine T.drop λw3 h3=>⟨⟨i+1,cj,λa ha=>?_,rfl,h3⟩,dn (by omega)⟩;rw[rB] at ha;rcases dY.1 ha with ha|ha
   ·exact fx a ha
   ·cases(show a=x by simpa using ha);exact XB
  have iO:i=q.aB.length:=by omega
  subst iO;rw[aV] at fx;have Uj:=fx;clear fx gI;apply ws;intro w' jo;refine⟨λvv w'=>∃(i:Nat),i<=q.bQ.length/\(∀a∈q.bQ.take i,sY a=false)/\vv=[.b false,.p (ah w),.l sl.st q.bQ.length sl.ct,.i (q.bQ.length:Int),.i (i:Int)]/\St W w' (Sep.pt r2 (fU q sl)::A::wd w ⟨S,m,m,mf⟩::L),
   mq 4 q.bQ.length,⟨0,aE _,(λa ha=>by cases ha),rfl,jo⟩,?_⟩
  rintro b6 p3 GC GB GP n4 n5 w5 ⟨i,hi,fx,e,gI⟩;cases e
  refine T.at ?_ gI;have e5:=m9 i;apply fZ<;>intro g1
  ·have cj:i<q.bQ.length:=by omega
   have gx:=aj cj;have rB:q.bQ.take (i+1)=q.bQ.take i++[q.bQ[i]]:=by rw[ba,gx];rfl
   generalize q.bQ[i]=x at gx rB;refine iq (hh:=Has.refl) N4.bQ ⟨by omega,by omega⟩ rfl λa ha=>?_;rw[ak];apply kd (hh:=Has.refl) N4.bQ ha gx rfl;apply ws;intros;apply dJ (by decide);refine db (λg2=>hKt (M:=[_,_,_,_])) (λg2=>?_);have XB:sY x=false:=by
    have g2: ¬x.ao.tmod 2=1:=by simpa using g2
    rw[dB (Jq.2 x (cn gx))] at g2;exact aq g2
   rw[e5];refine T.drop λw3 h3=>⟨⟨i+1,cj,λa ha=>?_,rfl,h3⟩,dn (by omega)⟩;rw[rB] at ha;rcases dY.1 ha with ha|ha
   ·exact fx a ha
   ·cases(show a=x by simpa using ha);exact XB
  have iO:i=q.bQ.length:=by omega
  subst iO;rw[aV] at fx;have adF:=fx;clear fx gI;apply ws;refine T.drop (T.drop ?_);have hew:vM s=true:=by
   unfold vM fW;rw[hro,Xv,dI];exact aw (by omega)
  refine OV (w:=w) λim _ _=>?_;have Xs:=hk.vz;refine YR (w:=w) G hg (Xs.vok (by omega)) (λGG=>Xs.SD (by decide) (by decide) (by omega) GG hg) (by omega) λMU _=>?_;have j3T:∀{M:LH} {r5:Nat},T W (M++L) (bg.j3 K false (ah w) r5 mb l2.length mc (bs s) true):=λ{M r5}=>by
   unfold bg.j3;exact hKt
  rcases wh (l:=s) hk (by omega) im hg (by omega) with⟨c1,c2⟩|⟨c1,c2,c3⟩|⟨c1,c2,S1,c3,c4,c5⟩|⟨c1,c2,S1,c3,c4,c5,c6,c7,c8⟩
  ·rw[hew] at c1;cases c1
  ·rw[c3];refine wk (e:=9) (by omega) λrb rc ab ac tb tc=>?_;apply ws;intros;apply kL (by decide);exact j3T (M:=[_,_,_,_,_])
  ·rw[c4];refine wk (e:=8) (by omega) λrb rc ab ac tb tc=>?_;apply ws;intros;apply kL (by decide);exact j3T (M:=[_,_,_,_,_])
  rw[c4,c7];rw[c4] at MU;rw[Xv] at c5 c8 MU⊢;have hlen:=AH m q;refine xh (λa h=>by cases h) (λa h=>by cases h) λrb rc ab ac tb tc=>?_;unfold Ny;rw[ai c8];dsimp only;apply ws;intros;rename_i r5;apply eO (by decide);apply ws;apply UD (by omega);apply ws;by_cases hz:fO (bn m q).2.1=(bn m q).2.1.length
  rotate_left
  ·have e0:((fO (bn m q).2.1:Int)!=((bn m q).2.1.length:Int))=true:=by rw[eY];omega
   rw[e0];exact j3T (M:=[_,_,_,_,_])
  have e0:((fO (bn m q).2.1:Int)!=((bn m q).2.1.length:Int))=false:=by rw[hz];simp
  rw[e0];clear j3T e0;have heg:kz q=true:=by
   unfold j0 at HY;have:nQ q=false:=by unfold nQ;rw[af (by omega),af (by omega)]
   rw[this,Bool.or_false,dh] at HY;exact HY.1
  obtain⟨ag1,ag2⟩:=JF (m:=m) Lz Uj adF (Qz hz) heg;generalize Jn:(bn m q).2.2=m2 at c5 MU ag1 ag2⊢;generalize BF:(bn m q).2.1=res at hlen hz ag2⊢;have hrl:res.length<=510:=by omega
  unfold bg.j3;apply ws;refine T.pl [4,0,2] (T.sub (M:=wd w ⟨S1,m2,m,mf⟩::Sep.pt r5 (nX 0 rb res.length rc ab 0 ac tb 0 tc)::own rb res.length rc 1 (res.flatMap I1)::L) ?_ (by exact pX));have adu:3* l.length+3<=183:=by omega
  generalize 3* l.length+3=gg at c5 adu;intro w' jo;refine⟨λvv w'=>∃(i:Nat)(S:VS),i<=l2.length/\VW 600 S m2 gg/\vv=[.b false,.p (ah w),.p (some (ad r5 0)),.l mb l2.length mc,.i (l2.length:Int),.i (i:Int)]/\St W w' (wd w ⟨S,m2,m,mf⟩::Sep.pt r5 (nX 0 rb res.length rc ab 0 ac tb 0 tc)::own rb res.length rc 1 (res.flatMap I1)::L),
   mq 5 l2.length,⟨0,S1,aE _,c5,rfl,jo⟩,?_⟩
  rintro b9 p6 a6 Pg Nn QM MK Ld w11 ⟨i,S2,hi,NZ,e,gI⟩;cases e
  refine T.at ?_ gI;have e5:=m9 i;have aa0:VZ 600 S2 m2 gg:=.inl NZ;apply fZ<;>intro g1
  ·have cj:i<l2.length:=by omega
   have gx:=aj cj;generalize l2[i]=x at gx;refine NN G1 abd.1 gx λr6=>?_;apply ws;have LA:=aa0.vok (by omega);apply db<;>intro g2
   ·apply ws;refine T.pl [1] ?_;refine YY λz E hf k1 k2=>?_;show T W (A1 w z _ (Sep.pt r6 (wZ x)::Sep.pt r5 _::own _ _ _ _ _::(L++E))) _;apply ws;refine KL (n:=600) (s:=z.s) (m0:=m2) (gg:=gg) G (by decide) (by decide) LA (NZ.fM (by decide) _ _ _) (by omega) λS3 hv3 hg3=>?_;apply ws;refine YZ (x:=⟨S3,m2,m,mf⟩) (rest:=Sep.pt r6 (wZ x)::Sep.pt r5 (nX 0 rb res.length rc ab 0 ac tb 0 tc)::own rb res.length rc 1 (res.flatMap I1)::L) hf k1 k2 ?_;rw[e5];refine T.sub (M:=wd w ⟨S3,m2,m,mf⟩::Sep.pt r5 (nX 0 rb res.length rc ab 0 ac tb 0 tc)::own rb res.length rc 1 (res.flatMap I1)::L) (λw3 h3=>⟨⟨i+1,S3,cj,hv3,rfl,h3⟩,dn (by omega)⟩) (by exact pX)
   ·rw[e5];refine T.drop λw3 h3=>⟨⟨i+1,S2,cj,NZ,rfl,h3⟩,dn (by omega)⟩
  refine OV (w:=w) λFT _ _=>?_;have oS:(bo m2).aB.length<=32:=FT.oS;have many:(bo m2).ax.length<=96:=FT.many;apply ws;refine A3 (w:=w) λp=>?_;refine u5 (p:=p) λb1 c1=>tZ ?_;refine xR (p:=p) λb2 c2=>tZ ?_;refine B2 (p:=p) (mg ?_);refine Eo (p:=p) (mg ?_);apply ws;intros;rename_i r7;have ux:KI 600 S2 m2 m2 gg:=.inl ⟨NZ,rfl⟩;refine YR (w:=w) G MU (aa0.vok (by omega)) (λGG=>aa0.SD (by decide) (by decide) (by omega) GG MU) (by omega) λ_ _=>?_;dsimp only;rcases wh (l:=s) ux (by omega) FT MU (by omega) with⟨d1,d2⟩|⟨d1,d2,d3⟩|⟨d1,d2,S3,d3,d4,d5⟩|⟨d1,d2,S3,d3,d4,d5,d6,d7,d8⟩
  ·rw[hew] at d1;cases d1
  ·rw[NZ.dL] at d2;cases d2
  ·rw[d4];refine wk (e:=8) (by omega) λrb3 rc3 ab3 ac3 tb3 tc3=>?_;apply ws;intros;apply OT (w:=w);dsimp only;rw[d5.dL];exact T.sub h (by exact pX)
  ·rw[d4,d7];rw[Xv] at d5 d8⊢;refine xh (λa h=>by cases h) (λa h=>by cases h) λrb3 rc3 ab3 ac3 tb3 tc3=>?_;unfold Ny;rw[ai d8];dsimp only;rw[ag1] at d5⊢;rw[ag2];have ac8:(res.map λ_=>(10:Int)).length=res.length:=bY _;apply ws;intros;rename_i r8;apply OT (w:=w);dsimp only;rw[d5.dL];apply ws;apply eO (by decide);apply ws;have e0:(((res.map λ_=>(10:Int)).length:Int)!=(res.length:Int))=false:=by rw[ac8];simp
   rw[e0];unfold bg.j4;apply ws;generalize ac':(res.map λ_=>(10:Int))=E6 at ac8⊢;have h10:∀(j:Nat)(c:Int),E6[j]?=some c->c=10:=λj c hc=>by
    rw[<-ac',dU] at hc;cases hx:res[j]? with
    |none=>rw[hx] at hc;cases hc
    |some y=>rw[hx] at hc;simpa using hc.symm
   refine T.sub (M:=own rb3 E6.length rc3 1 (E6.flatMap I1)::Sep.pt r7 [.l b1 (bo m2).aB.length c1,.l b2 (bo m2).ax.length c2,.i (bo m2).clock,.i (bo m2).ay]::own b2 (bo m2).ax.length c2 33 ((bo m2).ax.flatMap bM)::own b1 (bo m2).aB.length c1 14 ((bo m2).aB.flatMap aO)::wd w ⟨S3,m2,m,mf⟩::L) ?_ (by exact pX);intro w' jo;refine⟨λvv w'=>∃(j:Nat),j<=E6.length/\vv=[.b false,.p (ah w),.p (some (ad r7 0)),.l rb3 E6.length rc3,.i (E6.length:Int),.i (j:Int)]/\St W w' (own rb3 E6.length rc3 1 (E6.flatMap I1)::Sep.pt r7 [.l b1 (bo m2).aB.length c1,.l b2 (bo m2).ax.length c2,.i (bo m2).clock,.i (bo m2).ay]::own b2 (bo m2).ax.length c2 33 ((bo m2).ax.flatMap bM)::own b1 (bo m2).aB.length c1 14 ((bo m2).aB.flatMap aO)::wd w ⟨S3,m2,m,mf⟩::L),
    mq 5 E6.length,⟨0,aE _,rfl,jo⟩,?_⟩
   rintro b12 Zi a12 KJ IU Nq n21 n22 w15 ⟨j,hj,e,gI⟩;cases e
   refine T.at ?_ gI;have e5:=m9 j;apply fZ<;>intro g5
   ·have cj:j<E6.length:=by omega
    have gy:=aj cj;have hy:=h10 j _ gy;generalize E6[j]=y at gy hy;refine dT (b:=rb3) ⟨by omega,by omega⟩ λrb4 afb=>?_;rw[ak];subst afb;apply Cc (g:=I1) AO gy rfl;apply mg;rw[hy];apply eO (by decide);rw[e5];exact λw3 h3=>⟨⟨j+1,cj,rfl,h3⟩,dn (by omega)⟩
   ·apply ws;refine A3 (w:=w) λp2=>?_;refine u5 (p:=p2) λb5 c5=>tZ ?_;refine xR (p:=p2) λb6 c6=>tZ ?_;refine B2 (p:=p2) (mg ?_);refine Eo (p:=p2) (mg ?_);apply Hz (ob:=b1) (ol:=(bo m2).aB) (kl:=(bo m2).ax) (by omega) (by omega);rw[aw ⟨rfl,rfl,rfl,rfl⟩];apply sA;exact T.sub h (by exact pX)
 apply db<;>intro g1
 ·apply ws;have g1:q.op≠1:=by simpa using g1
  cases wE:(q.op !=2) with
  |true=>exact j2T (M:=[_,_,_])
  |false=>exact Zu (.inr (by simpa using wE))
 ·exact Zu (.inl (by simpa using g1))
end Go.Up
namespace Go.Proofs.YtibneekkkdnmgaaGreatDoor
open Go.Sep Go.Den Go.RowKit Go.Prog Go.Up
def e11:aG P 11 (U [.l,.s,.l] bg):=ub [(7,[(6,vb),(7,vp),(41,vl),(42,vi),(43,vi)]),(15,[(6,vb),(7,vp),(10,vq),(69,vl),(70,vi),(71,vi)]),(21,[(6,vb),(7,vp),(81,vl),(82,vi),(83,vi)]),(30,[(6,vb),(7,vp),(16,vq),(114,vl),(115,vi),(116,vi)]),(43,[(6,vb),(7,vp),(21,vq),(178,vl),(179,vi),(180,vi)])] (tk e14 (tk e15 (tk e16 (tk e17 (tk e19 (tk e20 (tk e21 (tk e22 (tk e26 (tk e27 (tk e29 (tk e30 (tk e31 (tk e33 (tk e34 (tk e35 t0)))))))))))))))) Tryz.func11
def JO{W:World}{b0:OA}{n0 c0:Nat}{xs0:LV}{a1:BA}{b2:OA}{n2 c2:Nat}{xs2:LV}(G:qi W)(T3:Ro W b0 n0 6 xs0)(he0:MG tsK n0 xs0)(hm0:n0<=maxLen)(w1:a1.size<=reachBytes)(G1:Ro W b2 n2 6 xs2)(MX:MG tsK n2 xs2)(Jn:n2<=maxLen):
 U [.l,.s,.l] bg [.l b0 n0 c0,.string a1,.l b2 n2 c2] (λv w'=>v=.bool true/\Below W.heap.size W w') W:=by
 obtain⟨l0,rfl,h0,k0⟩:=tss T3 he0 hm0;obtain⟨l2,rfl,h2,k2⟩:=tss G1 MX Jn;exact MH (K:=λv w'=>v=.bool true/\Below W.heap.size W w') (W:=W) (L:=[]) G h0 k0 (s:=a1.data.toList) w1 h2 k2 (λw hs=>⟨rfl,hs.1⟩) W (St.start W)
end Go.Proofs.YtibneekkkdnmgaaGreatDoor
