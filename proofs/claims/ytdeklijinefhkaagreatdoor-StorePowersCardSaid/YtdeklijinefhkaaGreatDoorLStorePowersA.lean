/- Part of the proof: see the last text. -/
import Derived.Test.YtdeklijinefhkaaGreatDoorPE
import Derived.Test.YtdeklijinefhkaaGreatDoorLG1A
import Derived.Test.YtdeklijinefhkaaGreatDoorPF
set_option linter.all false
set_option maxRecDepth 100000
set_option synthInstance.maxSize 100000
open Go.IntKind renaming i64→aa
open Int renaming toNat_natCast→ak,eq_ofNat_of_zero_le→bh
open List renaming getElem?_eq_getElem→aj,getElem_mem→bF
open Nat renaming zero_le→aF
namespace Go.Prog
open Go.Den
def aG.j2(K:VK)(p2 p4:OA)(I1:LI)(b3:Bool)(ov:OA)(mo qf:Nat)(n6 n7:Int)(kS:LM)(p3:OA)(w2:World)(b4:Bool):WK:=
br b4 (
K (.b false)) (
mD p2 p4 (xB λb5=>
br (!b5) (
K (.b false)) (
(ct I1 kS [.b b3,.p p2,.p p4,.l ov mo qf,.i n6,.i (aa.wrap (n7+1))] [.b b3,.p p2,.p p3,.l ov mo qf,.i n6,.i n7] w2))))
def aG.j8(K:VK)(b11:Bool):WK:=
br b11 (
mW none (xI .i64 λC3=>
kF none (xI .i64 λB9=>
K (.b ((aa.wrap (C3+B9))==0))))) (
K (.b false))
def aG.j7(K:VK)(b10:Bool):WK:=
br b10 (
gr none (xB λb12=>
aG.j8 K (!b12))) (
aG.j8 K false)
def aG.j6(K:VK)(b9:Bool):WK:=
br b9 (
k8 none (xP λp6=>
aG.j7 K (p6.isNone))) (
aG.j7 K false)
def aG.j5(K:VK)(b8:Bool):WK:=
br b8 (
dG none (xP λp7=>
aG.j6 K (p7.isNone))) (
aG.j6 K false)
def aG.j4(K:VK)(b7:Bool):WK:=
br b7 (
iJ none 1 1 1 (xI .i64 λRG=>
aG.j5 K (RG==2))) (
aG.j5 K false)
def aG.j3(K:VK)(b6:Bool):WK:=
br b6 (
K (.b false)) (
nO none 1 (x0
(fA none (⟨#[]⟩:BA) (xS λs4=>
gF 2 none 0 0 none 0 0 none 0 0 (xS λs5=>
br (nG s4 s5) (
jM none (xI .i64 λWz=>
aG.j4 K (Wz==2))) (
aG.j4 K false))))))
def aG.j1(K:VK)(wc:OA)(vw wN:Nat)(n1 n2 n3 n4:Int)(b2:Bool):WK:=
br b2 (
K (.b true)) (
jO 600 (x2 λv1 v2=>(xP λp1=>
(xI .i64 λn5=>
cw True (
mk Tf λr1=>
(lp [.b false,.p p1,.p (some (ad r1 0)),.l wc vw wN,.i (vw:Int),.i 0] λI1 kS=>
∀b3 p2 p3 ov mo qf n6 n7 w2,I1 [.b b3,.p p2,.p p3,.l ov mo qf,.i n6,.i n7] w2->(
br (decide (n7<n6)) (
iW ov mo n7 1 λa1=>
lS a1 λs1=>
lV p3 s1 (x2 λv3 v4=>(xS λs2=>
(xP λp4=>
fA p2 s1 (xS λs3=>
br (!(nG s3 s2)) (
aG.j2 K p2 p4 I1 b3 ov mo qf n6 n7 kS p3 w2 true) (
iJ p2 n1 n2 n3 (xI .i64 λn8=>
aG.j2 K p2 p4 I1 b3 ov mo qf n6 n7 kS p3 w2 (n8 !=0))))) v4) v3)) (
jO n4 (x2 λv5 v6=>(xP λp5=>
(xI .i64 λn9=>
br (!((n9==0)==(decide (n4>=12)))) (
aG.j3 K true) (
aG.j3 K (!((!(p5.isNone))==(n9==0))))) v6) v5))) w2))) v2) v1))
def aG(wc:OA)(vw wN:Nat)(n1 n2 n3 n4:Int)(K:VK):WK:=
iU (xB λb1=>
br (!b1) (
K (.b false)) (
iT wc vw wN (xB λTb=>
br Tb (
aG.j1 K wc vw wN n1 n2 n3 n4 true) (
aG.j1 K wc vw wN n1 n2 n3 n4 (decide (n4>700))))))
end Go.Prog
namespace Go.Up
open Go.Sep Go.Den Go.RowKit Go.Prog Go.Md Go.cG
section
variable {W:World} {L:LH} {K:VK}
def Z3(h:T W L (K (.b true))):T W L (aG.j3 K false):=by
 unfold aG.j3 nO fA;apply jU;apply ef rfl;apply BF;apply ir rfl;apply dU ⟨rfl,trivial⟩;refine NG (qz (qz ?_));refine yc (R:=L) (hh:=Has.refl) (e:=2) (rb:=none) (ab:=none) (tb:=none) (rc:=0) (ac:=0) (tc:=0) (res:=[]) (al:=[]) (tl:=[]) mE.nil mE.nil mE.nil (by decide) (by decide) (by decide) (λa h=>by cases h) (λa h=>by cases h) ?_;apply qz;rw[qA,aw rfl];apply qe;unfold jM;apply ir rfl;apply kd;unfold aG.j4;apply ir (by decide);unfold iJ;apply ir rfl;apply kd;unfold aG.j5;apply ir (by decide);unfold dG;apply ir rfl;apply tz;unfold aG.j6;apply ir rfl;unfold k8;apply ir rfl;apply tz;unfold aG.j7;apply ir rfl;unfold gr;apply ef rfl;apply oF;unfold aG.j8;apply ir rfl;unfold mW;apply ir rfl;apply kd;unfold kF;apply ir rfl;apply kd;exact h
end
set_option maxHeartbeats 1000000 in
def H0{W:World}{L:LH}{K:VK}{sb:OA}{sc:Nat}{ls:List (List UInt8)}{mask torn cut xX:Int}(G:oH W)(hr:mE W [] sC 1 sb ls)(xt:SIn ls)(h:T W L (K (.b true))):
 T W L (aG sb ls.length sc mask torn cut xX K):=by
 have Oj:T W L (aG.j1 K sb ls.length sc mask torn cut xX true):=by
  unfold aG.j1;exact h
 unfold aG;refine Aq G (oF (su ?_));refine Al hr xt λb hb=>?_;apply oF;cases b with
 |true=>exact Oj
 |false=>
 obtain⟨Jd,J'⟩:=hb rfl;apply jU;by_cases qc:xX>700
 ·rw[aw qc];exact Oj
 rw[ao qc];clear Oj;unfold aG.j1;apply jU;refine zm G (n:=600) (by decide) (by decide) λs=>?_;apply ws;intros;rename_i r1;show T W (Sep.pt r1 (ES mY none 0 none 0)::u3 600 s (th 600,mY)::L) _;refine im (e:=33) ?_;refine im (e:=14) ?_;refine T.pl (M:=u3 600 s (th 600,mY)::ML r1 mY none 0 none 0 L) [3,2,0,0] ?_;obtain⟨I1,hI⟩:∃I1:LI,I1=λvv w'=>∃(i:Nat)(S:VS)(m:aA)(p:Nat)(mb kb:OA)(mc kc:Nat),i<=ls.length/\VW 600 S m (3* i)/\S.D.arm=0/\Md.bW m/\vv=[.b false,.p (ah s),.p (ah p),.l sb ls.length sc,.i (ls.length:Int),.i (i:Int)]/\St W w' (u3 600 s (S,m)::ML p m mb mc kb kc L):=⟨_,rfl⟩;obtain⟨kS,UJ⟩:∃kS:LM,kS=mq 5 ls.length:=⟨_,rfl⟩;intro w' jS;refine⟨I1,kS,by rw[hI];exact⟨0,th 600,mY,r1,none,none,0,0,aF _,Hc (by decide) (by decide),rfl,kx,rfl,jS⟩,?_⟩;intro b3 p2 p3 o9 nJ pa n2 n3 w2 U9;rw[hI] at U9;obtain⟨i,S,m,p,rh,kb,q9,kc,hi,hvw,har,oB,e,ib⟩:=U9;cases e
 refine T.at ?_ ib;apply ga<;>intro g1
 ·have cn:i<ls.length:=by omega
  have e5:=nI i;have gx:=aj cn;have hx:=J' _ (bF cn);generalize ls[i]=x at gx hx;refine wg (n:=600) (s:=s) λdY=>?_;have KW:RM m:=RM.EK dY oB;have hR:=hvw.rm har (by omega);have Et:S.J.seq<1000000:=by obtain⟨_,hd,mb,qs,q1,_⟩:=hvw;have:=q1.FK;omega
  have hd:=hR.Vt Et (by decide) (by omega) dY;have hz:VZ 600 S m (3* i):=.inl hvw;refine iq hr ⟨by omega,by omega⟩ rfl λa ha=>?_;rw[ak];apply Fx hr ha gx;apply qz;refine T.pl [1,1,1] ?_;refine Ir KW (by omega) λp2 mb2 mc2 Z2 kc2 R2 Ck UO=>?_;refine Ck.u3 ?_;apply ws;refine AA G (n:=600) (s:=s) oB (hz.vok (by omega)) (λhg=>hz.W2 (by decide) (by decide) (by omega) hg oB) (by decide) (by decide) (by omega) λGF _=>?_;have Qp:=hvw.Hn hd (by omega) dY oB hx;rw[zl hx hd dY oB] at GF⊢;dsimp only at GF⊢;generalize CS 600 m S x=S1 at Qp⊢;generalize uT m x=m1 at GF UO Qp⊢;apply qz;rw[qA,aw rfl];apply su;have hz2:VZ 600 S1 m1 (3* i+3):=.inl Qp;refine aaU G (n:=600) (s:=s) (by decide) (by decide) (hz2.vok (by omega)) (Qp.fJ (by decide) mask torn cut) (by omega) λS2 hv3 afJ Nt=>?_;apply kd;unfold aG.j2;apply ef (by decide);refine Lt UO ?_;rw[aw (xG.refl _)];apply oF;apply su;rw[e5];refine λw3 h3=>⟨?_,?_⟩
  ·rw[hI];exact⟨i+1,S2,m1,p2,mb2,Z2,mc2,kc2,cn,hv3,afJ,Nt,rfl,h3⟩
  ·rw[UJ];exact dn (by omega)
 ·refine T.drop (T.drop (T.drop (T.drop ?_)));by_cases nu:xX<12
  ·refine Xr nu ?_;apply ws;have e1:(!((1:Int)==0)==decide (xX>=12))=false:=by rw[ao (by omega)];rfl
   show T W L (br (!(((1:Int)==0)==decide (xX>=12))) _ _);rw[ao (by omega)];apply ef rfl;exact Z3 h
  ·obtain⟨n,hn⟩:=bh (show 0<=xX by omega);subst hn;refine zm G (n:=n) (by omega) (by omega) λs2=>?_;apply ws;show T W _ (br (!(((0:Int)==0)==decide ((n:Int)>=12))) _ _);rw[aw (by omega)];apply ef rfl;exact T.drop (Z3 h)
end Go.Up
namespace Go.Proofs.YtdeklijinefhkaaGreatDoor
open Go.Sep Go.Den Go.RowKit Go.Prog Go.Up
def e6:aE P 6 (U [.l,.i .u64,.n,.n,.n] aG):=ub [(8,[(10,vb),(11,vp),(13,vp),(35,vl),(36,vi),(37,vi)])] (tk e8 (tk e9 (tk YX (tk e11 (tk Vp (tk e13 (tk e14 (tk e15 (tk e17 (tk e20 (tk e22 (tk e27 (tk e28 (tk e29 (tk e30 t0))))))))))))))) Tryz.func6
def FD{W:World}{b0:OA}{n0 c0:Nat}{Pg:LV}{a1:Int}{a2:Int}{a3:Int}{a4:Int}(G:oH W)(EZ:Ro W b0 n0 1 Pg)(Yq:zR [.s] n0 Pg)(RZ:n0<=maxLen):
 U [.l,.i .u64,.n,.n,.n] aG [.l b0 n0 c0,.u a1,.i a2,.i a3,.i a4] (λv w'=>v=.b true/\Below W.heap.size W w') W:=by
 obtain⟨l0,rfl,h0,k0⟩:=Xl EZ Yq RZ;exact H0 (K:=λv w'=>v=.b true/\Below W.heap.size W w') (W:=W) (L:=[]) G h0 k0 (λw hs=>⟨rfl,hs.1⟩) W (St.start W)
end Go.Proofs.YtdeklijinefhkaaGreatDoor
