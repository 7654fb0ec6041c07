/- Part of the proof: see the last text. -/
import Derived.Test.YtdeklijinefhkaaGreatDoorPE
import Derived.Test.YtdeklijinefhkaaGreatDoorLG1A
import Derived.Test.YtdeklijinefhkaaGreatDoorPF
set_option linter.all false
set_option maxRecDepth 100000
set_option synthInstance.maxSize 100000
open Go.IntKind renaming i64→aa
open Int renaming toNat_natCast→ak
open List renaming getElem?_eq_getElem→aj,getElem_mem→bF
open Nat renaming zero_le→aF
namespace Go.Prog
open Go.Den
def aL.j5(K:VK)(b3:Bool)(r2:Nat)(BM:OA)(Bo BL:Nat)(b6:Bool):WK:=
br b6 (
K (.b false)) (
(lp [.b b3,.p (some (ad r2 0)),.l BM Bo BL,.i (Bo:Int),.i 0] λI2 Jv=>
∀b7 a2 TY SM SN n8 n9 w5,I2 [.b b7,.p (some a2),.l TY SM SN,.i n8,.i n9] w5->(
br (decide (n9<n8)) (
tick (
iW TY SM n9 14 λa3=>
aJ a3 14 λGU=>
lL a2 λPE Lm Rc=>
iW PE Lm n9 14 λa4=>
aJ a4 14 λHW=>
sm eG GU HW λb8=>
br (!b8) (
K (.b false)) (
(ct I2 Jv [.b b7,.p (some a2),.l TY SM SN,.i n8,.i (aa.wrap (n9+1))] [.b b7,.p (some a2),.l TY SM SN,.i n8,.i n9] w5)))) (
K (.b true))) w5))
def aL.j4(K:VK)(p2:OA)(r2:Nat)(b3 b5:Bool):WK:=
br b5 (
K (.b false)) (
dG p2 (xP λp7=>
fK p7 (xL λBM Bo BL=>
tick (
lL (ad r2 0) λKT Im Ls=>
br ((Bo:Int)!=(Im:Int)) (
aL.j5 K b3 r2 BM Bo BL true) (
lL (ad r2 1) λsb9 sn9 sc9=>
dG p2 (xP λp8=>
kp (ad r2 1) [.l sb9 sn9 sc9] (
kp (ad r2 0) [.l KT Im Ls] (
hG p8 (xL λXm TW Rd=>
kp (ad r2 1) [.l sb9 sn9 sc9] (
kp (ad r2 0) [.l KT Im Ls] (
aL.j5 K b3 r2 BM Bo BL ((TW:Int)!=(sn9:Int)))))))))))))
def aL.j6(K:VK)(p2:OA)(r2:Nat)(b3:Bool)(n6 n7:Int)(b9:Bool):WK:=
br b9 (
aL.j4 K p2 r2 b3 true) (
kF p2 (xI .i64 λC3=>
br (C3 !=n6) (
aL.j4 K p2 r2 b3 true) (
dG p2 (xP λp9=>
gZ p9 (xI .i64 λB9=>
aL.j4 K p2 r2 b3 (B9 !=n7))))))
def aL.j3(K:VK)(p2:OA)(s1:BA)(r2:Nat)(b3:Bool)(n6 n7 n5:Int)(s5:BA):WK:=
fA p2 s1 (xS λs6=>
br (!(nG s6 s5)) (
aL.j6 K p2 r2 b3 n6 n7 true) (
k8 p2 (xP λp10=>
k9 p10 (xI .i64 λRG=>
aL.j6 K p2 r2 b3 n6 n7 (RG !=n5)))))
def aL.j2(K:VK)(p2:OA)(s1:BA)(b3 b4:Bool):WK:=
br b4 (
K (.b true)) (
dG p2 (xP λp3=>
fK p3 (xL λo9 nJ pa=>
dG p2 (xP λp4=>
hG p4 (xL λuU uG uP=>
cw (1=1/\(1=1/\True)) (
mk [.l o9 nJ pa,.l uU uG uP,.i 0,.i 0] λr2=>
k8 p2 (xP λp5=>
k9 p5 (xI .i64 λn5=>
kF p2 (xI .i64 λn6=>
dG p2 (xP λp6=>
gZ p6 (xI .i64 λn7=>
fL 4 (xS λs4=>
br (decide ((s1.size:Int)>16384)) (
fL 3 (xS λs7=>
aL.j3 K p2 s1 r2 b3 n6 n7 n5 s7)) (
aL.j3 K p2 s1 r2 b3 n6 n7 n5 s4)))))))))))))
def aL.j1(K:VK)(wc:OA)(vw wN:Nat)(s1:BA)(b2:Bool):WK:=
br b2 (
K (.b true)) (
jO 600 (x2 λv1 v2=>(xP λp1=>
(xI .i64 λn1=>
(lp [.b false,.p p1,.l wc vw wN,.i (vw:Int),.i 0] λI1 kS=>
∀b3 p2 ov mo qf n2 n3 w2,I1 [.b b3,.p p2,.l ov mo qf,.i n2,.i n3] w2->(
br (decide (n3<n2)) (
iW ov mo n3 1 λa1=>
lS a1 λs2=>
fA p2 s2 (xS λs3=>
(ct I1 kS [.b b3,.p p2,.l ov mo qf,.i n2,.i (aa.wrap (n3+1))] [.b b3,.p p2,.l ov mo qf,.i n2,.i n3] w2))) (
jn s1 (x2 λv3 v4=>(xA 13 λQG=>
(xI .i64 λn4=>
mk ke λr1=>
bK 13 (ad r1 0) QG (
br (n4==0) (
aL.j2 K p2 s1 b3 (decide ((s1.size:Int)<=16384))) (
aL.j2 K p2 s1 b3 false))) v4) v3))) w2)) v2) v1))
def aL(wc:OA)(vw wN:Nat)(s1:BA)(K:VK):WK:=
iU (xB λb1=>
br (!b1) (
K (.b false)) (
iT wc vw wN (xB λb10=>
br b10 (
aL.j1 K wc vw wN s1 true) (
aL.j1 K wc vw wN s1 (decide ((s1.size:Int)>32768))))))
end Go.Prog
namespace Go.Up
open Go.Sep Go.Den Go.RowKit Go.Prog Go.Md Go.cG
set_option maxHeartbeats 1000000 in
def KB{W:World}{L:LH}{K:VK}{sb:OA}{sc:Nat}{ls:List (List UInt8)}{x:List UInt8}(G:oH W)(hr:mE W [] sC 1 sb ls)(xt:SIn ls)(hxs:(bs x).size<=reachBytes)(h:T W L (K (.b true))):
 T W L (aL sb ls.length sc (bs x) K):=by
 have Oj:T W L (aL.j1 K sb ls.length sc (bs x) true):=by
  unfold aL.j1;exact h
 unfold aL;refine Aq G (oF (su ?_));refine Al hr xt λb hb=>?_;apply oF;cases b with
 |true=>exact Oj
 |false=>
 obtain⟨Jd,J'⟩:=hb rfl;apply jU;by_cases qc:((bs x).size:Int)>32768
 ·rw[aw qc];exact Oj
 rw[ao qc];rw[bV] at qc;clear Oj;unfold aL.j1;apply jU;refine zm G (n:=600) (by decide) (by decide) λs=>?_;apply ws;intros;have UP:RI 600 0 (th 600):=O6 (by decide) rfl rfl rfl rfl rfl;intro w' jS;refine⟨λvv w'=>∃(i:Nat)(S:VS)(m:aA),i<=ls.length/\RI 600 i S/\Md.bW m/\vv=[.b false,.p (ah s),.l sb ls.length sc,.i (ls.length:Int),.i (i:Int)]/\St W w' (u3 600 s (S,m)::L),
  mq 4 ls.length,⟨0,th 600,mY,aF _,UP,kx,rfl,jS⟩,?_⟩
 rintro b3 p2 ov mo qf n2 n3 w2 ⟨i,S,m,hi,I5,oB,e,ib⟩;cases e
 refine T.at ?_ ib;refine wg (n:=600) (s:=s) λdY=>?_;apply ga<;>intro g1
 ·have cn:i<ls.length:=by omega
  have e5:=nI i;have gx:=aj cn;have hx:=J' _ (bF cn);generalize ls[i]=y at gx hx;refine iq hr ⟨by omega,by omega⟩ rfl λa ha=>?_;rw[ak];apply Fx hr ha gx;apply qz;refine AA G (n:=600) (s:=s) oB (I5.ok (by decide) (by omega)) (λhg=>I5.ZY (by decide) (by omega) hg) (by decide) (by decide) (by omega) λGF _=>?_;rw[zl hx (I5.Vt (by decide) (by omega) dY) dY oB] at GF⊢;obtain⟨Gz,_,_⟩:=I5.Hn (l:=y) (m:=m) (by decide) (by omega) dY;dsimp only at GF⊢;apply qz;rw[e5];exact λw3 h3=>⟨⟨i+1,_,_,cn,Gz,GF,rfl,h3⟩,dn (by omega)⟩
 have Hp: ¬(qD x=true/\x.length<=16384)->∀{M:LH},T W (M++u3 600 s (S,m)::L) (aL.j2 K (ah s) (bs x) false false):=by
  intro hx M;refine T.sub (M:=u3 600 s (S,m)::L) ?_ (List.sublist_append_right _ _);obtain⟨e,he,SU⟩:∃e:Int,e=(if x.length>16384 then 3 else 4)/\Hn 600 m S x=(S,m,pM e [] [] []):=by
   refine⟨_,rfl,?_⟩;unfold Hn;by_cases h1:16384<x.length
   ·rw[ai h1,ai h1]
   ·rw[ag h1,ag h1,ag (λhh=>hx ⟨hh,by omega⟩)]
  have hal:(bo m).aC.length<=32:=dY.oJ;unfold aL.j2;apply jU;refine qC (n:=600) (s:=s) λp1=>?_;apply tz;refine rX (p:=p1) λab ac=>?_;apply uE;refine qC (n:=600) (s:=s) λp2=>?_;apply tz;refine yG (p:=p2) λkb kc=>?_;apply ws;intros;rename_i r2;refine T1 (n:=600) (s:=s) ?_;apply kd;refine NY (n:=600) (s:=s) ?_;apply kd;refine qC (n:=600) (s:=s) λp3=>?_;apply tz;refine yC (p:=p3) ?_;apply kd;refine T.sub (M:=Sep.pt r2 [.l ab (bo m).aC.length ac,.l kb (bo m).ax.length kc,.i 0,.i 0]::own ab (bo m).aC.length ac 14 ((bo m).aC.flatMap aO)::u3 600 s (S,m)::L) ?_ (by exact qo);have j3T:T W (Sep.pt r2 [.l ab (bo m).aC.length ac,.l kb (bo m).ax.length kc,.i 0,.i 0]::own ab (bo m).aC.length ac 14 ((bo m).aC.flatMap aO)::u3 600 s (S,m)::L)
   (aL.j3 K (ah s) (bs x) r2 false S.J.seq (bo m).ay S.D.ops (bs (pM e [] [] []))):=by
   unfold aL.j3;refine AA G (n:=600) (s:=s) oB (I5.ok (by decide) (by omega)) (λhg=>I5.ZY (by decide) (by omega) hg) (by decide) (by decide) (by omega) λ_ _=>?_;rw[SU];dsimp only;apply qz;rw[qA,aw rfl];apply su;refine T1 (n:=600) (s:=s) ?_;apply kd;unfold aL.j6;apply ef (by simp);refine NY (n:=600) (s:=s) ?_;apply kd;apply ef (by simp);refine qC (n:=600) (s:=s) λp3=>?_;apply tz;refine yC (p:=p3) ?_;apply kd;unfold aL.j4;apply ef (by simp);refine qC (n:=600) (s:=s) λp4=>?_;apply tz;refine rX (p:=p4) λnb nc=>?_;apply ws;intros;apply ef (by simp);apply ws;intros;refine qC (n:=600) (s:=s) λp5=>?_;apply ws;intros;refine yG (p:=p5) λnb2 nc2=>?_;apply ws;intros;unfold aL.j5;apply ef (by simp);generalize (bo m).aC=al at hal;generalize (bo m).ax.length=kl;refine T.sub (M:=own nb al.length nc 14 (al.flatMap aO)::Sep.pt r2 [.l ab al.length ac,.l kb kl kc,.i 0,.i 0]::own ab al.length ac 14 (al.flatMap aO)::L) ?_ (by exact qo);intro w' jS;refine⟨λvv w'=>∃(j:Nat),j<=al.length/\vv=[.b false,.p (some (ad r2 0)),.l nb al.length nc,.i (al.length:Int),.i (j:Int)]/\St W w' (own nb al.length nc 14 (al.flatMap aO)::Sep.pt r2 [.l ab al.length ac,.l kb kl kc,.i 0,.i 0]::own ab al.length ac 14 (al.flatMap aO)::L),
    mq 4 al.length,⟨0,aF _,rfl,jS⟩,?_⟩
   rintro b7 a2 TY SM SN n8 n9 w5 ⟨j,hj,e,vU⟩;cases e
   refine T.at ?_ vU;refine ga (λg2=>?_) (λg2=>T.drop (T.drop (T.drop h)));have cn:j<al.length:=by omega
   have e5:=nI j;have gy:=aj cn;generalize al[j]=y at gy;apply ws;refine dS (b:=nb) ⟨by omega,by omega⟩ λrb UR=>?_;rw[ak];subst UR;refine gI (g:=aO) (λ_=>rfl) gy ?_;apply ws;refine dS (b:=ab) ⟨by omega,by omega⟩ λZU afe=>?_;rw[ak];subst afe;refine gI (g:=aO) (λ_=>rfl) gy ?_;refine ZM ?_;rw[aw rfl];apply su;rw[e5];exact λw3 h3=>⟨⟨j+1,cn,rfl,h3⟩,dn (by omega)⟩
  apply qE;apply qz;apply ga<;>intro g2
  ·rw[bV] at g2;apply qE;apply qz;rw[ai (by omega)] at he;subst he;exact j3T
  ·rw[bV] at g2;rw[ag (by omega)] at he;subst he;exact j3T
 refine zS (by omega) (λEZ=>?_) (λEZ A sl hq=>?_)
 ·apply ws;intros;apply ef (by decide);exact Hp (λhh=>by rw[EZ] at hh;cases hh.1) (M:=[_])
 ·apply ws;intros;apply ir (by decide);by_cases h4:((bs x).size:Int)<=16384
  ·rw[aw h4];unfold aL.j2;apply qe;exact T.drop (T.drop (T.drop h))
  ·rw[ao h4];rw[bV] at h4;exact Hp (λhh=>h4 (by omega)) (M:=[_,_])
end Go.Up
namespace Go.Proofs.YtdeklijinefhkaaGreatDoor
open Go.Sep Go.Den Go.RowKit Go.Prog Go.Up
def e4:aE P 4 (U [.l,.s] aL):=ub [(7,[(4,vb),(5,vp),(31,vl),(32,vi),(33,vi)]),(25,[(4,vb),(11,vq),(16,vl),(123,vi),(124,vi)])] (tk e8 (tk e9 (tk YX (tk Vp (tk e16 (tk e17 (tk e18 (tk e19 (tk e20 (tk e21 (tk e22 (tk e23 (tk e24 t0))))))))))))) Tryz.func4
def Hw{W:World}{b0:OA}{n0 c0:Nat}{Pg:LV}{a1:BA}(G:oH W)(EZ:Ro W b0 n0 1 Pg)(Yq:zR [.s] n0 Pg)(RZ:n0<=maxLen)(w1:a1.size<=reachBytes):
 U [.l,.s] aL [.l b0 n0 c0,.s a1] (λv w'=>v=.b true/\Below W.heap.size W w') W:=by
 obtain⟨l0,rfl,h0,k0⟩:=Xl EZ Yq RZ;exact KB (K:=λv w'=>v=.b true/\Below W.heap.size W w') (W:=W) (L:=[]) G h0 k0 (x:=a1.data.toList) w1 (λw hs=>⟨rfl,hs.1⟩) W (St.start W)
end Go.Proofs.YtdeklijinefhkaaGreatDoor
