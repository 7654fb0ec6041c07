/- Part of the proof: see the last text. -/
import Derived.Test.YtibneekkkdnmgaaGreatDoorPD
import Derived.Test.YtibneekkkdnmgaaGreatDoorPE
import Derived.Test.YtibneekkkdnmgaaGreatDoorPF
set_option linter.all false
set_option maxRecDepth 100000
set_option synthInstance.maxSize 100000
open Bool renaming and_eq_true→dI
open Go.IntKind renaming i64→aa
open List renaming getElem?_eq_getElem→aj,mem_of_getElem?→bD,perm_middle→iq
open Nat renaming zero_le→aE
namespace Go.Prog
open Go.Den
def kB(uK:OA)(s8 uU:Nat)(K:VK):WK:=
dN (xB λb1=>
br (!b1) (
K (.b false)) (
gn uK s8 uU (xB λb2=>
br b2 (
K (.b true)) (
fE (xP λp1=>
fE (xP λp2=>
(lp [.b false,.p p1,.p p2,.l uK s8 uU,.i (s8:Int),.i 0] λI1 lj=>
∀b3 p3 p4 jT jd ku n1 n2 w2,I1 [.b b3,.p p3,.p p4,.l jT jd ku,.i n1,.i n2] w2->(
br (decide (n2<n1)) (
iV jT jd n2 6 λa1=>
aJ a1 6 λCR=>
mk wP λr1=>
bA 6 (ad r1 0) CR (
lI (ad r1 0) λn3=>
br (n3==0) (
tick (
nn p3 λa2=>
lP a2 λp5=>
lS (ad r1 1) λs1=>
nn p4 λa3=>
lP a3 λp6=>
lS (ad r1 1) λs2=>
kn p5 s1 (xS λs3=>
kp (ad r1 1) [.s s2] (
kp a3 [.p p6] (
kn p6 s2 (xS λs4=>
br (!(pG s3 s4)) (
K (.b false)) (
(ct I1 lj [.b b3,.p p3,.p p4,.l jT jd ku,.i n1,.i (aa.wrap (n2+1))] [.b b3,.p p3,.p p4,.l jT jd ku,.i n1,.i n2] w2)))))))) (
br (n3==1) (
nn p3 λa4=>
lP a4 λp7=>
mU p7 (xI .i64 λn4=>
br (n4 !=0) (
K (.b false)) (
(ct I1 lj [.b b3,.p p3,.p p4,.l jT jd ku,.i n1,.i (aa.wrap (n2+1))] [.b b3,.p p3,.p p4,.l jT jd ku,.i n1,.i n2] w2)))) (
br (n3==2) (
tick (
nn p3 λa5=>
lP a5 λp8=>
lU (ad r1 2) λn5=>
lI (ad r1 3) λn6=>
lI (ad r1 4) λn7=>
iQ p8 n5 n6 n7 (xI .i64 λn8=>
br (n8 !=0) (
K (.b false)) (
(ct I1 lj [.b b3,.p p3,.p p4,.l jT jd ku,.i n1,.i (aa.wrap (n2+1))] [.b b3,.p p3,.p p4,.l jT jd ku,.i n1,.i n2] w2))))) (
(ct I1 lj [.b b3,.p p3,.p p4,.l jT jd ku,.i n1,.i (aa.wrap (n2+1))] [.b b3,.p p3,.p p4,.l jT jd ku,.i n1,.i n2] w2)))))) (
tick (
nn p3 λa6=>
lP a6 λp9=>
nn p4 λa7=>
lP a7 λIY=>
dW p9 (xP λYe=>
kp a7 [.p IY] (
dW IY (xP λU0=>
fk Ye (xL λqU pn qS=>
fZ Ye (xL λtD sK tC=>
iS Ye (xI .i64 λn9=>
ie Ye (xI .i64 λBg=>
cu (1=1/\(1=1/\(1=1/\(1=1/\True)))) (
mk [.l qU pn qS,.l tD sK tC,.i n9,.i Bg] λr2=>
tick (
fk U0 (xL λxi wS yU=>
fZ U0 (xL λB0 BF BG=>
iS U0 (xI .i64 λBf=>
ie U0 (xI .i64 λDZ=>
cT (some (ad r2 0)) xi wS yU B0 BF BG Bf DZ (xB λb4=>
br b4 (
nn p3 λa8=>
lP a8 λp13=>
nn p4 λa9=>
lP a9 λp14=>
jK p13 (xI .i64 λDc=>
kp a9 [.p p14] (
jK p14 (xI .i64 λSC=>
K (.b (Dc==SC)))))) (
K (.b false))))))))))))))))))) w2)))))))
end Go.Prog
namespace Go.Up
open Go.Sep Go.Den Go.RowKit Go.Prog Go.Md Go.cF
def UK{n g g':Nat}{S:VS}{m:aA}(h:Rm n g S)(hv:VW n S m g')(mask torn cut:Int):Rm n g ⟨S.D.eY mask torn cut,S.J,S.bC,false⟩:=by
 have hl:S.D.later=[]:=by
  obtain⟨_,hd,mb,qs,h2,_⟩:=hv;exact h2.jg.Jc
 have hc:=h.calm;have e:S.D.eY mask torn cut=⟨S.D.safe,[],S.D.ops,0⟩:=by rw[nW,hl];rfl
 refine⟨⟨zW hc.ok _ _ _,by rw[e],by rw[e];exact aE _,by rw[tp];exact hc.len⟩,λj hj=>?_,h.lo,h.hi,h.KP,h.RC,h.seq,h.js,rfl,h.bC⟩;show Sep.Ends g ((S.D.eY mask torn cut).read (j:Int)).1;rw[yI hl];exact h.ends j hj
def UC{S:VS}{m:aA}{g:Nat}{l:List UInt8}(hv:VW 600 S m g)(hr:Rm 600 g S)(hg:g+3<256)(eJ:ft (bo m))(rS:Md.bK m)(hl:l.length<=16384):
 ∃S1,TH 600 m S l=(S1,zp m l,Ey m l)/\VW 600 S1 (zp m l) (g+3)/\Rm 600 (g+3) S1/\S1.J.seq=S.J.seq+(if sX l=true then 1 else 0):=by
 have hk:KI 600 S m m g:=.inl ⟨hv,rfl⟩;have hs:=hr.dJ;have EG:=hk.seq;rcases C1 hk hg eJ rS hl with⟨c1,c2⟩|⟨c1,c2,c3⟩|⟨c1,c2,S1,c3,c4,c5⟩|⟨c1,c2,S1,c3,c4,c5,c6,c7,c8⟩
 ·rw[Iz c1];exact⟨S,c2,hv.mono (by omega),hr.mono (by omega),by rw[c1];simp⟩
 ·rw[hs] at c2;cases c2
 ·have c1':=c1;unfold sX at c1';rw[dI] at c1';have:=(LU (q:=(iZ l).1) (m:=m) hr (by omega) (by decide) hg eJ (qp c1'.1)).2 c1'.2;rw[c3] at this;cases this
 ·have c1':=c1;unfold sX at c1';rw[dI] at c1';have:=(LU (q:=(iZ l).1) (m:=m) hr (by omega) (by decide) hg eJ (qp c1'.1)).1;rw[c3] at this;rw[CS c1];exact⟨S1,c4,c5,this,by rw[c6,c1];rfl⟩
section
variable {W:World} {L rest M:LH} {K:VK} {X:WK} {w wa wb n s:Nat} {x xa xb:WX} {f:WX->LH} {g:VS×aA->LH} {m:aA} {S:VS} {gg:Nat} {mask torn cut:Int} {za zb:WZ} {Ea Eb:LH}
def R8(G:mY W)[i:Lc (EU n s) L (S,m) g](nF:12<=n)(cS:n<=4096)(iH:Il S)(hw:VW n S m gg)(hgg:gg<256)
 (h:VW n ⟨S.D.eY mask torn cut,S.J,S.bC,false⟩ m gg->T W (g (⟨S.D.eY mask torn cut,S.J,S.bC,false⟩,m)) (K (.i 0))):T W L (iQ (ah s) mask torn cut K):=by
 refine AL (n:=n) (s:=s) λd v pb pj M hM=>?_;obtain⟨h1,hd,mb,qs,h2,h3,h4⟩:=hw;have h5:=h2.eY nF mask torn cut;unfold iQ;apply ws;intros;refine RN (d:=d) iH.ok (by have:=iH.og;omega) ?_;apply ws;intros;refine T.pl [3] ?_;refine FJ G nF cS h5 hgg λv' UY UX adO=>?_;rw[h3,<-h4];apply ws;intros;refine mP (by decide) ?_;apply ws;intros;refine T.sub (M:=VL v' d n UY UX m ⟨S.D.eY mask torn cut,S.J,S.bC,false⟩ (Sep.pt s (HQ d v')::M)) ?_ (by exact qo);exact hM d v' UY UX ⟨S.D.eY mask torn cut,S.J,S.bC,false⟩ m [] _ (h ⟨rfl,hd,mb,qs,h5,h3,h4⟩)
def Z4(h:∀za Ea zb Eb,Fl za.p xa.m za.pf xa.mf [] Ea->RM xa.m->RM xa.mf->Fl zb.p xb.m zb.pf xb.mf [] Eb->RM xb.m->RM xb.mf->T W (xV wb zb xb (xV wa za xa ((rest++Ea)++Eb))) X):T W (wd wa xa::wd wb xb::rest) X:=
 Qf λza Ea a1 a2 a3=>T.perm (Qf (rest:=xV wa za xa (rest++Ea)) λzb Eb b1 b2 b3=>h za Ea zb Eb a1 a2 a3 b1 b2 b3) (iq (l₁:=[_,_,_,_,_]))
def Uh(a1:Fl za.p xa.m za.pf xa.mf [] Ea)(a2:RM xa.m)(a3:RM xa.mf)(b1:Fl zb.p xb.m zb.pf xb.mf [] Eb)(b2:RM xb.m)(b3:RM xb.mf)(h:T W (wd wa xa::wd wb xb::rest) X):T W (xV wb zb xb (xV wa za xa ((rest++Ea)++Eb))) X:=
 Qg (rest:=xV wa za xa (rest++Ea)) b1 b2 b3 (T.pl [1,1,1,1,1] (Qg (rest:=wd wb xb::rest) a1 a2 a3 h))
end
set_option maxHeartbeats 1000000 in
def NM{W:World}{L:LH}{K:VK}{sb:OA}{sc:Nat}{l:List TS}(G:mY W)(hr:mZ W [] yR 6 sb l)(tG:Im l)(h:T W L (K (.b true))):T W L (kB sb l.length sc K):=by
 have O5:l.length<=maxLen:=tG.1;unfold maxLen at O5;unfold kB;refine wI G (oU (vg ?_));refine wx hr tG λb hb=>?_;refine oU ?_;cases b with
 |true=>exact h
 |false=>
 obtain⟨Pe,Bo⟩:=hb rfl;refine ph ?_;refine uI G λwa=>vf ?_;refine uI G λwb=>vf ?_;have hv0:=KV (n:=600) (by decide) (by decide);have D9:=PR (n:=600) (by decide) (by decide);obtain⟨I1,hI⟩:∃I1:LI,I1=λvv w'=>∃(i:Nat)(Sa Sb:VS)(m:aA),i<=l.length/\VW 600 Sa m (3* i)/\VW 600 Sb m (3* i)/\Rm 600 (3* i) Sa/\Rm 600 (3* i) Sb/\Sa.J.seq=Sb.J.seq/\Md.bK m/\
  vv=[.b false,.p (ah wa),.p (ah wb),.l sb l.length sc,.i (l.length:Int),.i (i:Int)]/\St W w' (wd wa ⟨Sa,m,je,je⟩::wd wb ⟨Sb,m,je,je⟩::L):=⟨_,rfl⟩
 obtain⟨lj,hμ⟩:∃lj:LM,lj=λvs _=>match vs with|[_,_,_,_,_,.int _ d]=>l.length-d.toNat|_=>0:=⟨_,rfl⟩
 refine T.pl [1] ?_;intro w' jO;refine⟨I1,lj,by rw[hI];exact⟨0,zG 600,zG 600,je,aE _,hv0,hv0,D9,D9,rfl,px,rfl,jO⟩,?_⟩;intro b3 p3 p4 jT jd ku n1 n2 w2 hI2;rw[hI] at hI2;obtain⟨i,Sa,Sb,m,hi,SN,hvb,YH,Ko,EG,hg,e,hO⟩:=hI2;cases e
 refine T.at ?_ hO;refine Iv (w:=wa) λeJ _ _=>?_;have abI:=YH.ok (by decide) (by omega);have afp:=Ko.ok (by decide) (by omega);apply ga<;>intro g1
 ·have bX:i<l.length:=by omega
  have e5:=nK i;have gx:=aj bX;generalize l[i]=x at gx;have hx:=Bo x (bD gx);have fin:∀{Sa' Sb':VS} {m':aA},VW 600 Sa' m' (3* i+3)->VW 600 Sb' m' (3* i+3)->Rm 600 (3* i+3) Sa'->Rm 600 (3* i+3) Sb'->Sa'.J.seq=Sb'.J.seq->Md.bK m'->T W (wd wa ⟨Sa',m',je,je⟩::wd wb ⟨Sb',m',je,je⟩::L) (ct I1 lj [.b false,.p (ah wa),.p (ah wb),.l sb l.length sc,.i (l.length:Int),.i (aa.wrap ((i:Int)+1))] [.b false,.p (ah wa),.p (ah wb),.l sb l.length sc,.i (l.length:Int),.i (i:Int)] w2):=by
   intro Sa' Sb' m' a1 a2 a3 a4 a5 a6;rw[e5];refine λw5 h5=>⟨?_,?_⟩
   ·rw[hI];exact⟨i+1,Sa',Sb',m',bX,a1,a2,a3,a4,a5,a6,rfl,h5⟩
   ·rw[hμ];show l.length-((i+1:Nat):Int).toNat<l.length-(i:Int).toNat;omega
  refine zF hr tG.1 gx λr=>?_;apply ws;intros;apply dj<;>intro g2
  ·refine T.pl [1,1] ?_;refine Z4 λza Ea zb Eb a1 a2 a3 b1 b2 b3=>?_;show T W (xV wb zb _ (xV wa za _ (Sep.pt r (yR x)::((L++Ea)++Eb)))) _;apply ws;intros;obtain⟨Sa',ea,ea2,ea3,ea4⟩:=UC (l:=x.b) SN YH (by omega) eJ hg hx;obtain⟨Sb',eb,eb2,eb3,eb4⟩:=UC (l:=x.b) hvb Ko (by omega) eJ hg hx;refine LR G (n:=600) (s:=za.s) (l:=x.b) hg abI (λxX=>(VZ.XE (.inl SN) (by decide) (by decide) (by omega) xX hg)) (by decide) (by decide) (by omega) λVA _=>?_;rw[ea] at VA⊢;apply ws;intros;refine LR G (n:=600) (s:=zb.s) (l:=x.b) hg afp (λxX=>(VZ.XE (.inl hvb) (by decide) (by decide) (by omega) xX hg)) (by decide) (by decide) (by omega) λ_ _=>?_;rw[eb];apply ws;intros;rw[vh,av rfl];apply ws;intros;refine Uh (xa:=⟨Sa',zp m x.b,je,je⟩) (xb:=⟨Sb',zp m x.b,je,je⟩) (rest:=Sep.pt r (yR x)::L) a1 a2 a3 b1 b2 b3 ?_;refine T.pl [0,0] (T.sub (fin ea2 eb2 ea3 eb3 (by rw[ea4,eb4,EG]) VA) (by exact qo))
  apply dj<;>intro g3
  ·apply ws;intros;refine XC (w:=wa) abI ?_;dsimp only;obtain⟨s1,s2⟩:=J7 (m:=m) YH (by decide) (by omega) eJ;rcases Qx (.inl SN) (by decide) (by decide) (by omega) eJ hg with⟨a,_⟩|⟨_,b,c,_,d⟩|⟨_,b,_⟩
   ·have:=SN.dJ;rw[a] at this;cases this
   ·rw[b];refine fW (by decide) ?_;exact T.drop (fin (c.mono (by omega)) (hvb.mono (by omega)) (s2.mono (by omega)) (Ko.mono (by omega)) (by rw[d];exact EG) hg)
   ·rw[s1] at b;cases b
  apply dj<;>intro g4
  ·apply ws;intros;refine T.pl [1] ?_;refine Qf λz E hf k1 k2=>?_;show T W (xV wa z _ (Sep.pt r (yR x)::wd wb _::(L++E))) _;apply ws;intros;refine R8 (n:=600) (s:=z.s) (gg:=3* i) G (by decide) (by decide) abI SN (by omega) λVq=>?_;apply ws;intros;refine fW (by decide) ?_;refine Qg (x:=⟨⟨Sa.D.eY x.mask x.torn x.cut,Sa.J,Sa.bC,false⟩,m,je,je⟩) (rest:=Sep.pt r (yR x)::wd wb ⟨Sb,m,je,je⟩::L) hf k1 k2 ?_;exact T.sub (fin (Vq.mono (by omega)) (hvb.mono (by omega)) ((UK YH SN _ _ _).mono (by omega)) (Ko.mono (by omega)) EG hg) (by exact qo)
  ·exact T.drop (fin (SN.mono (by omega)) (hvb.mono (by omega)) (YH.mono (by omega)) (Ko.mono (by omega)) EG hg)
 ·refine Z4 λza Ea zb Eb a1 a2 a3 b1 b2 b3=>?_;have og:(bo m).aB.length<=32:=eJ.og;have many:(bo m).ax.length<=96:=eJ.many;apply ws;intros;refine xj (n:=600) (s:=za.s) λpa=>?_;apply ws;intros;refine xj (n:=600) (s:=zb.s) λpb=>?_;apply ws;intros;refine qw (p:=pa) λk3 c3=>um ?_;refine uR (p:=pa) λk4 c4=>um ?_;refine AA (p:=pa) (nQ ?_);refine Av (p:=pa) (nQ ?_);apply ws;intros;rename_i r2;refine qw (p:=pb) λk5 c5=>um ?_;refine uR (p:=pb) λk6 c6=>um ?_;refine AA (p:=pb) (nQ ?_);refine Av (p:=pb) (nQ ?_);refine IS (ob:=k3) (ol:=(bo m).aB) (kl:=(bo m).ax) (by omega) (by omega) ?_;rw[av ⟨rfl,rfl,rfl,rfl⟩];apply ws;intros;refine J5 (n:=600) (s:=za.s) ?_;apply ws;intros;refine J5 (n:=600) (s:=zb.s) ?_;apply ws;intros;have e0:(Sa.J.seq==Sb.J.seq)=true:=by rw[EG];simp
  rw[e0];refine T.sub (M:=xV wb zb ⟨Sb,m,je,je⟩ (xV wa za ⟨Sa,m,je,je⟩ ((L++Ea)++Eb))) ?_ (by exact qo);refine Uh (xa:=⟨Sa,m,je,je⟩) (xb:=⟨Sb,m,je,je⟩) (rest:=L) a1 a2 a3 b1 b2 b3 ?_;exact T.drop (T.drop h)
end Go.Up
namespace Go.Proofs.YtibneekkkdnmgaaGreatDoor
open Go.Sep Go.Den Go.RowKit Go.Prog Go.Up
def e7:aF P 7 (U [.l] kB):=ub [(7,[(2,vb),(3,vp),(4,vp),(16,vl),(17,vi),(18,vi)])] (tk e14 (tk e15 (tk Xy (tk e20 (tk e21 (tk e22 (tk e26 (tk e27 (tk e28 (tk e29 (tk e30 (tk e31 (tk e32 t0))))))))))))) Tryz.func7
def KK{W:World}{b0:OA}{n0 c0:Nat}{Fv:LV}(G:mY W)(D9:Ro W b0 n0 6 Fv)(O6:y5 XK n0 Fv)(E':n0<=maxLen):
 U [.l] kB [.l b0 n0 c0] (λv w'=>v=.bool true/\Below W.heap.size W w') W:=by
 obtain⟨l0,rfl,h0,k0⟩:=Z2 D9 O6 E';exact NM (K:=λv w'=>v=.bool true/\Below W.heap.size W w') (W:=W) (L:=[]) G h0 k0 (λw hs=>⟨rfl,hs.1⟩) W (St.start W)
end Go.Proofs.YtibneekkkdnmgaaGreatDoor
