/- Part of the proof: see the last text. -/
import Derived.Test.YtdeklijinefhkaaGreatDoorPE
import Derived.Test.YtdeklijinefhkaaGreatDoorLG2A
import Derived.Test.YtdeklijinefhkaaGreatDoorPF
set_option linter.all false
set_option maxRecDepth 100000
set_option synthInstance.maxSize 100000
open Go.IntKind renaming i64→aa
open Int renaming toNat_natCast→ak,le_refl→eE
open List renaming getElem?_eq_getElem→aj,getElem_mem→bF
open Nat renaming zero_le→aF,le_refl→aI
namespace Go.Prog
open Go.Den
def aW.j4(K:VK)(p2:OA)(n8:Int)(I1:LI)(b3:Bool)(o9:OA)(nJ pa:Nat)(n4 n5:Int)(kS:LM)(n2 n3:Int)(w2:World)(n9:Int):WK:=
kF p2 (xI .i64 λC3=>
br (C3 !=n8) (
K (.b false)) (
mW p2 (xI .i64 λB9=>
br (decide (B9<n9)) (
K (.b false)) (
(ct I1 kS [.b b3,.p p2,.i n8,.i n9,.l o9 nJ pa,.i n4,.i (aa.wrap (n5+1))] [.b b3,.p p2,.i n2,.i n3,.l o9 nJ pa,.i n4,.i n5] w2)))))
def aW.j3(K:VK)(p2:OA)(n8:Int)(I1:LI)(b3:Bool)(o9:OA)(nJ pa:Nat)(n4 n5:Int)(kS:LM)(n2 n3:Int)(w2:World)(b5:Bool):WK:=
br b5 (
jM p2 (xI .i64 λRG=>
br (RG==0) (
aW.j4 K p2 n8 I1 b3 o9 nJ pa n4 n5 kS n2 n3 w2 (aa.wrap (n3+1))) (
aW.j4 K p2 n8 I1 b3 o9 nJ pa n4 n5 kS n2 n3 w2 n3))) (
aW.j4 K p2 n8 I1 b3 o9 nJ pa n4 n5 kS n2 n3 w2 n3)
def aW.j2(K:VK)(n5:Int)(mo:Nat)(ov p2:OA)(I1:LI)(b3:Bool)(o9:OA)(nJ pa:Nat)(n4:Int)(kS:LM)(n2 n3:Int)(w2:World)(n8:Int):WK:=
br (decide (n5<(mo:Int))) (
iW ov mo n5 1 λa2=>
lT a2 λb6=>
aW.j3 K p2 n8 I1 b3 o9 nJ pa n4 n5 kS n2 n3 w2 b6) (
aW.j3 K p2 n8 I1 b3 o9 nJ pa n4 n5 kS n2 n3 w2 false)
def aW.j1(K:VK)(n5:Int)(mo:Nat)(ov p2:OA)(I1:LI)(b3:Bool)(o9:OA)(nJ pa:Nat)(n4:Int)(kS:LM)(n2 n3:Int)(w2:World)(b4:Bool):WK:=
br b4 (
aW.j2 K n5 mo ov p2 I1 b3 o9 nJ pa n4 kS n2 n3 w2 (aa.wrap (n2+1))) (
aW.j2 K n5 mo ov p2 I1 b3 o9 nJ pa n4 kS n2 n3 w2 n2)
def aW(wc:OA)(vw wN:Nat)(ov:OA)(mo qf:Nat)(K:VK):WK:=
iU (xB λb1=>
br (!b1) (
K (.b false)) (
iT wc vw wN (xB λb2=>
br b2 (
K (.b true)) (
jO 600 (x2 λv1 v2=>(xP λp1=>
(xI .i64 λn1=>
(lp [.b false,.p p1,.i 0,.i 0,.l wc vw wN,.i (vw:Int),.i 0] λI1 kS=>
∀b3 p2 n2 n3 o9 nJ pa n4 n5 w2,I1 [.b b3,.p p2,.i n2,.i n3,.l o9 nJ pa,.i n4,.i n5] w2->(
br (decide (n5<n4)) (
iW o9 nJ n5 1 λa1=>
lS a1 λs1=>
jn s1 (x2 λv3 v4=>(xA 13 λQG=>
(xI .i64 λn6=>
mk ke λr1=>
bK 13 (ad r1 0) QG (
fA p2 s1 (xS λs2=>
qw s2 (x2 λv5 v6=>(xA 4 λGU=>
(xI .i64 λn7=>
mk Jw λr2=>
bK 4 (ad r2 0) GU (
br (n6==0) (
aJ (ad r1 0) 13 λHW=>
jt HW (xB λb7=>
br b7 (
lI (ad r2 0) λWz=>
aW.j1 K n5 mo ov p2 I1 b3 o9 nJ pa n4 kS n2 n3 w2 (Wz==0)) (
aW.j1 K n5 mo ov p2 I1 b3 o9 nJ pa n4 kS n2 n3 w2 false))) (
aW.j1 K n5 mo ov p2 I1 b3 o9 nJ pa n4 kS n2 n3 w2 false))) v6) v5)))) v4) v3)) (
K (.b true))) w2)) v2) v1)))))
end Go.Prog
namespace Go.Up
open Go.Sep Go.Den Go.RowKit Go.Prog Go.Md Go.cG
set_option maxHeartbeats 1000000 in
def H3{W:World}{L:LH}{K:VK}{sb mb:OA}{sc mc:Nat}{ls:List (List UInt8)}{bl:List Bool}(G:oH W)(hr:mE W [] sC 1 sb ls)(xt:SIn ls)(Nk:mE W [] bC 1 mb bl)(h:T W L (K (.b true))):
 T W L (aW sb ls.length sc mb bl.length mc K):=by
 unfold aW;refine Aq G (oF (su ?_));refine Al hr xt λb hb=>?_;apply oF;cases b with
 |true=>exact h
 |false=>
 obtain⟨Jd,J'⟩:=hb rfl;apply jU;refine zm G (n:=600) (by decide) (by decide) λs=>?_;apply ws;intros;obtain⟨I1,hI⟩:∃I1:LI,I1=λvv w'=>∃(i k:Nat)(S:VS)(m:aA),i<=ls.length/\RI 600 (3* i) S/\Md.bW m/\(k:Int)<=S.bu/\k<=i/\vv=[.b false,.p (ah s),.i S.J.seq,.i (k:Int),.l sb ls.length sc,.i (ls.length:Int),.i (i:Int)]/\St W w' (u3 600 s (S,m)::L):=⟨_,rfl⟩;obtain⟨kS,UJ⟩:∃kS:LM,kS=mq 6 ls.length:=⟨_,rfl⟩;have UP:RI 600 0 (th 600):=O6 (by decide) rfl rfl rfl rfl rfl;intro w' jS;refine⟨I1,kS,by rw[hI];exact⟨0,0,th 600,mY,aF _,UP,kx,eE _,aI _,rfl,jS⟩,?_⟩;intro b3 p2 n2 n3 o9 nJ pa n4 n5 w2 U9;rw[hI] at U9;obtain⟨i,k,S,m,hi,I5,oB,hkt,hki,e,ib⟩:=U9;cases e
 refine T.at ?_ ib;refine wg (n:=600) (s:=s) λdY=>?_;have KW:RM m:=RM.EK dY oB;refine ga (λg1=>?_) (λg1=>T.drop h);have cn:i<ls.length:=by omega
 have e5:=nI i;have gx:=aj cn;have hx:=J' _ (bF cn);generalize ls[i]=x at gx hx;refine iq hr ⟨by omega,by omega⟩ rfl λa ha=>?_;rw[ak];apply Fx hr ha gx;apply qz;obtain⟨Gz,Et,htu⟩:=I5.Hn (l:=x) (m:=m) (by decide) (by omega) dY;have Ms:=zl hx (I5.Vt (by decide) (by omega) dY) dY oB;obtain⟨re,res,al,tl,adn,hA,hT,hz⟩:=Xa KW x;have ah8:0<=S.J.seq/\S.J.seq<=1000000:=by obtain⟨g,s',q1,_⟩:=I5;exact q1.seq
 have j4T:∀{S2:VS} {m2:aA} {M:LH} {c:Int} {k2:Nat},RI 600 (3* i+3) S2->Md.bW m2->S2.J.seq=c->(k2:Int)<=S2.bu->k2<=i+1->
  T W (u3 600 s (S2,m2)::L) (aW.j4 K (ah s) c I1 false sb ls.length sc (ls.length:Int) (i:Int) kS S.J.seq (k:Int) w2 (k2:Int)):=by
  intro S2 m2 M c k2 r1 r2 r3 r4 r5;subst r3;unfold aW.j4;refine NY (n:=600) (s:=s) ?_;apply kd;apply ef (by simp);refine Xo (n:=600) (s:=s) ?_;apply kd;apply ef (by simp;omega);rw[e5];refine λw3 h3=>⟨?_,?_⟩
  ·rw[hI];exact⟨i+1,k2,S2,m2,cn,r1,r2,r4,r5,rfl,h3⟩
  ·rw[UJ];exact dn (by omega)
 have j2T:∀{S2:VS} {m2:aA} {c:Int},RI 600 (3* i+1) S2->Md.bW m2->S2.J.seq=c->S.bu<=S2.bu->
  T W (u3 600 s (S2,m2)::L) (aW.j2 K (i:Int) bl.length mb (ah s) I1 false sb ls.length sc (ls.length:Int) kS S.J.seq (k:Int) w2 c):=by
  intro S2 m2 c r1 r2 r3 r4;unfold aW.j2;apply ga<;>intro g2
  ·have vE:i<bl.length:=by omega
   have gy:=aj vE;generalize bl[i]=y at gy;refine iq Nk ⟨by omega,by omega⟩ rfl λa ha=>?_;rw[ak];apply TG Nk ha gy;apply oF;unfold aW.j3;cases y with
   |true=>
    apply qe;refine wg (n:=600) (s:=s) λOt=>?_;obtain⟨z1,z2,z3,z4⟩:=r1.save (m:=m2) (by decide) (by omega) Ot;apply JQ (n:=600) (s:=s) (r1.ok (by decide) (by omega)) (by decide) (by decide);rw[z1];apply kd;apply ir (by decide);rw[nI k];exact j4T (M:=L) z2 r2 (by rw[z3];exact r3) (by omega) (by omega)
   |false=>
    apply jU;exact j4T (M:=L) (r1.mono (by omega)) r2 r3 (by omega) (by omega)
  ·unfold aW.j3;apply jU;exact j4T (M:=L) (r1.mono (by omega)) r2 r3 (by omega) (by omega)
 have Oj:∀{S2:VS} {m2:aA} {b:Bool},RI 600 (3* i+1) S2->Md.bW m2->S2.J.seq=S.J.seq+(if b=true then 1 else 0)->S.bu<=S2.bu->
  T W (u3 600 s (S2,m2)::L) (aW.j1 K (i:Int) bl.length mb (ah s) I1 false sb ls.length sc (ls.length:Int) kS S.J.seq (k:Int) w2 b):=by
  intro S2 m2 b r1 r2 r3 r4;unfold aW.j1;cases b with
  |true=>
   apply qe;rw[ai rfl] at r3;rw[aX (by omega)];exact j2T r1 r2 r3 r4
  |false=>
   apply jU;rw[ag (by decide),Int.add_zero] at r3;exact j2T r1 r2 r3 r4
 obtain⟨Z,hZ⟩:∃Z,PQ re res al tl=Z:=⟨_,rfl⟩;have hz1:rM x=true->Z.1=0:=λhh=>by rw[<-hZ,hz hh]
 refine zS (by omega) (λEZ=>?_) (λEZ A sl hq=>?_)
 ·have ht:rM x=false:=by unfold rM;rw[EZ];rfl
  apply ws;intros;refine AA G (n:=600) (s:=s) oB (I5.ok (by decide) (by omega)) (λhg=>I5.ZY (by decide) (by omega) hg) (by decide) (by decide) (by omega) λGF _=>?_;rw[Ms] at GF⊢;dsimp only at GF⊢;apply qz;rw[adn];refine FX hA hT λrb rc ab ac tb tc=>?_;rw[hZ];apply ws;intros;apply ef (by decide);refine T.sub (M:=u3 600 s (CS 600 m S x,uT m x)::L) (Oj Gz GF ?_ htu) (by exact qo);rw[Et,ht]
 ·have htw:rM x=fo (gV x).1:=by unfold rM;rw[EZ];rfl
  apply ws;intros;rename_i r1;refine AA G (n:=600) (s:=s) oB (I5.ok (by decide) (by omega)) (λhg=>I5.ZY (by decide) (by omega) hg) (by decide) (by decide) (by omega) λGF _=>?_;rw[Ms] at GF⊢;dsimp only at GF⊢;apply qz;rw[adn];refine FX hA hT λrb rc ab ac tb tc=>?_;rw[hZ];apply ws;intros;rename_i r2;apply ir (by decide);apply ws;apply zu;apply oF;refine T.sub (M:=Sep.pt r2 (qg Z.1 rb Z.2.1.length rc ab Z.2.2.1.length ac tb Z.2.2.2.length tc)::u3 600 s (CS 600 m S x,uT m x)::L) ?_ (by exact qo);rw[<-htw];cases ht:rM x with
  |true=>
   apply qe;apply ws;rw[hz1 ht];refine T.drop (Oj Gz GF ?_ htu);rw[Et,ht];rfl
  |false=>
   apply jU;refine T.drop (Oj Gz GF ?_ htu);rw[Et,ht]
end Go.Up
namespace Go.Proofs.YtdeklijinefhkaaGreatDoor
open Go.Sep Go.Den Go.RowKit Go.Prog Go.Up
def e5:aE P 5 (U [.l,.l] aW):=ub [(8,[(4,vb),(5,vp),(7,vi),(8,vi),(23,vl),(24,vi),(25,vi)])] (tk e8 (tk e9 (tk YX (tk Vp (tk e13 (tk e16 (tk e22 (tk e25 (tk e26 (tk e27 t0)))))))))) Tryz.func5
def FG{W:World}{b0:OA}{n0 c0:Nat}{Pg:LV}{b1:OA}{n1 c1:Nat}{xs1:LV}(G:oH W)(EZ:Ro W b0 n0 1 Pg)(Yq:zR [.s] n0 Pg)(RZ:n0<=maxLen)(hr1:Ro W b1 n1 1 xs1)(he1:zR [.b] n1 xs1)(hm1:n1<=maxLen):
 U [.l,.l] aW [.l b0 n0 c0,.l b1 n1 c1] (λv w'=>v=.b true/\Below W.heap.size W w') W:=by
 obtain⟨l0,rfl,h0,k0⟩:=Xl EZ Yq RZ;obtain⟨l1,rfl,h1⟩:=bls hr1 he1;exact H3 (K:=λv w'=>v=.b true/\Below W.heap.size W w') (W:=W) (L:=[]) G h0 k0 h1 (mc:=c1) (λw hs=>⟨rfl,hs.1⟩) W (St.start W)
end Go.Proofs.YtdeklijinefhkaaGreatDoor
