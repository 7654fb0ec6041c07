/- Part of the proof: see the last text. -/
import Derived.Test.YtdeklijinefhkaaGreatDoorPE
import Derived.Test.YtdeklijinefhkaaGreatDoorLG2A
import Derived.Test.YtdeklijinefhkaaGreatDoorPF
set_option linter.all false
set_option maxRecDepth 100000
set_option synthInstance.maxSize 100000
open Go.IntKind renaming i64→aa
open Int renaming toNat_natCast→ak
open List renaming getElem?_eq_getElem→aj,getElem_mem→bF
open Nat renaming zero_le→aF
namespace Go.Prog
open Go.Den
def dg.j1(K:VK)(p2 p4:OA)(I1:LI)(b3:Bool)(o9:OA)(nJ pa:Nat)(n2 n3:Int)(kS:LM)(p3:OA)(w2:World)(b4:Bool):WK:=
br b4 (
K (.b false)) (
mD p2 p4 (xB λb5=>
br (!b5) (
K (.b false)) (
(ct I1 kS [.b b3,.p p2,.p p4,.l o9 nJ pa,.i n2,.i (aa.wrap (n3+1))] [.b b3,.p p2,.p p3,.l o9 nJ pa,.i n2,.i n3] w2))))
def dg(wc:OA)(vw wN:Nat)(ov:OA)(mo qf:Nat)(K:VK):WK:=
iU (xB λb1=>
br (!b1) (
K (.b false)) (
iT wc vw wN (xB λb2=>
br b2 (
K (.b true)) (
jO 600 (x2 λv1 v2=>(xP λp1=>
(xI .i64 λn1=>
cw True (
mk Tf λr1=>
(lp [.b false,.p p1,.p (some (ad r1 0)),.l wc vw wN,.i (vw:Int),.i 0] λI1 kS=>
∀b3 p2 p3 o9 nJ pa n2 n3 w2,I1 [.b b3,.p p2,.p p3,.l o9 nJ pa,.i n2,.i n3] w2->(
br (decide (n3<n2)) (
iW o9 nJ n3 1 λa1=>
lS a1 λs1=>
lV p3 s1 (x2 λv3 v4=>(xS λs2=>
(xP λp4=>
fA p2 s1 (xS λs3=>
br (!(nG s3 s2)) (
K (.b false)) (
br (decide (n3<(mo:Int))) (
iW ov mo n3 1 λa2=>
lT a2 λb6=>
br b6 (
jM p2 (xI .i64 λn4=>
dg.j1 K p2 p4 I1 b3 o9 nJ pa n2 n3 kS p3 w2 (n4 !=0))) (
dg.j1 K p2 p4 I1 b3 o9 nJ pa n2 n3 kS p3 w2 false)) (
dg.j1 K p2 p4 I1 b3 o9 nJ pa n2 n3 kS p3 w2 false)))) v4) v3)) (
gr p2 (xB λb7=>
K (.b (!b7))))) w2))) v2) v1)))))
end Go.Prog
namespace Go.Up
open Go.Sep Go.Den Go.RowKit Go.Prog Go.Md Go.cG
set_option maxHeartbeats 1000000 in
def Hd{W:World}{L:LH}{K:VK}{sb mb:OA}{sc mc:Nat}{ls:List (List UInt8)}{bl:List Bool}(G:oH W)(hr:mE W [] sC 1 sb ls)(xt:SIn ls)(Nk:mE W [] bC 1 mb bl)(h:T W L (K (.b true))):
 T W L (dg sb ls.length sc mb bl.length mc K):=by
 unfold dg;refine Aq G (oF (su ?_));refine Al hr xt λb hb=>?_;apply oF;cases b with
 |true=>exact h
 |false=>
 obtain⟨Jd,J'⟩:=hb rfl;apply jU;refine zm G (n:=600) (by decide) (by decide) λs=>?_;apply ws;intros;rename_i r1;show T W (Sep.pt r1 (ES mY none 0 none 0)::u3 600 s (th 600,mY)::L) _;refine im (e:=33) ?_;refine im (e:=14) ?_;refine T.pl (M:=u3 600 s (th 600,mY)::ML r1 mY none 0 none 0 L) [3,2,0,0] ?_;obtain⟨I1,hI⟩:∃I1:LI,I1=λvv w'=>∃(i:Nat)(S:VS)(m:aA)(p:Nat)(mb kb:OA)(mc kc:Nat),i<=ls.length/\RI 600 (3* i) S/\Md.bW m/\vv=[.b false,.p (ah s),.p (ah p),.l sb ls.length sc,.i (ls.length:Int),.i (i:Int)]/\St W w' (u3 600 s (S,m)::ML p m mb mc kb kc L):=⟨_,rfl⟩;obtain⟨kS,UJ⟩:∃kS:LM,kS=mq 5 ls.length:=⟨_,rfl⟩;have UP:RI 600 0 (th 600):=O6 (by decide) rfl rfl rfl rfl rfl;intro w' jS;refine⟨I1,kS,by rw[hI];exact⟨0,th 600,mY,r1,none,none,0,0,aF _,UP,kx,rfl,jS⟩,?_⟩;intro b3 p2 p3 o9 nJ pa n2 n3 w2 U9;rw[hI] at U9;obtain⟨i,S,m,p,rh,kb,q9,kc,hi,I5,oB,e,ib⟩:=U9;cases e
 refine T.at ?_ ib;refine wg (n:=600) (s:=s) λdY=>?_;have KW:RM m:=RM.EK dY oB;apply ga<;>intro g1
 ·have cn:i<ls.length:=by omega
  have e5:=nI i;have gx:=aj cn;have hx:=J' _ (bF cn);generalize ls[i]=x at gx hx;refine iq hr ⟨by omega,by omega⟩ rfl λa ha=>?_;rw[ak];apply Fx hr ha gx;apply qz;refine T.pl [1,1,1] ?_;refine Ir KW (by omega) λp2 mb2 mc2 Z2 kc2 R2 Ck UO=>?_;refine Ck.u3 ?_;apply ws;refine AA G (n:=600) (s:=s) oB (I5.ok (by decide) (by omega)) (λhg=>I5.ZY (by decide) (by omega) hg) (by decide) (by decide) (by omega) λGF _=>?_;rw[zl hx (I5.Vt (by decide) (by omega) dY) dY oB] at GF⊢;obtain⟨Gz,_,_⟩:=I5.Hn (l:=x) (m:=m) (by decide) (by omega) dY;dsimp only at GF⊢;generalize CS 600 m S x=S1 at Gz⊢;generalize uT m x=m1 at GF UO⊢;apply qz;rw[qA,aw rfl];apply su;have Oj:∀{S2},RI 600 (3* i+3) S2->T W (u3 600 s (S2,m1)::ML p2 m1 mb2 mc2 Z2 kc2 L) (dg.j1 K (ah s) (ah p2) I1 false sb ls.length sc (ls.length:Int) (i:Int) kS (ah p) w2 false):=by
   intro S2 afd;unfold dg.j1;apply jU;refine Lt UO ?_;rw[aw (xG.refl _)];apply oF;apply su;rw[e5];refine λw3 h3=>⟨?_,?_⟩
   ·rw[hI];exact⟨i+1,S2,m1,p2,mb2,Z2,mc2,kc2,cn,afd,GF,rfl,h3⟩
   ·rw[UJ];exact dn (by omega)
  apply ga<;>intro g2
  ·have vE:i<bl.length:=by omega
   have gy:=aj vE;generalize bl[i]=y at gy;refine iq Nk ⟨by omega,by omega⟩ rfl λa ha=>?_;rw[ak];apply TG Nk ha gy;apply oF;cases y with
   |true=>
    apply qe;refine wg (n:=600) (s:=s) λOt=>?_;obtain⟨z1,z2,_,_⟩:=Gz.save (m:=m1) (by decide) (by omega) Ot;apply JQ (n:=600) (s:=s) (Gz.ok (by decide) (by omega)) (by decide) (by decide);rw[z1];apply kd;exact Oj z2
   |false=>
    apply jU;exact Oj (Gz.mono (by omega))
  ·exact Oj (Gz.mono (by omega))
 ·refine we (n:=600) (s:=s) ?_;rw[I5.dK];apply oF;exact T.drop (T.drop (T.drop (T.drop h)))
end Go.Up
namespace Go.Proofs.YtdeklijinefhkaaGreatDoor
open Go.Sep Go.Den Go.RowKit Go.Prog Go.Up
def e3:aE P 3 (U [.l,.l] dg):=ub [(8,[(4,vb),(5,vp),(7,vp),(22,vl),(23,vi),(24,vi)])] (tk e8 (tk e9 (tk YX (tk e11 (tk Vp (tk e13 (tk e14 (tk e15 t0)))))))) Tryz.func3
def Ei{W:World}{b0:OA}{n0 c0:Nat}{Pg:LV}{b1:OA}{n1 c1:Nat}{xs1:LV}(G:oH W)(EZ:Ro W b0 n0 1 Pg)(Yq:zR [.s] n0 Pg)(RZ:n0<=maxLen)(hr1:Ro W b1 n1 1 xs1)(he1:zR [.b] n1 xs1)(hm1:n1<=maxLen):
 U [.l,.l] dg [.l b0 n0 c0,.l b1 n1 c1] (λv w'=>v=.b true/\Below W.heap.size W w') W:=by
 obtain⟨l0,rfl,h0,k0⟩:=Xl EZ Yq RZ;obtain⟨l1,rfl,h1⟩:=bls hr1 he1;exact Hd (K:=λv w'=>v=.b true/\Below W.heap.size W w') (W:=W) (L:=[]) G h0 k0 h1 (mc:=c1) (λw hs=>⟨rfl,hs.1⟩) W (St.start W)
end Go.Proofs.YtdeklijinefhkaaGreatDoor
