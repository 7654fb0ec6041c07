/- Part of the proof: see the last text. -/
import Derived.Test.YtfijieggfhnpeaaGreatDoorPD
import Derived.Test.YtfijieggfhnpeaaGreatDoorPE
set_option linter.all false
set_option maxRecDepth 100000
set_option synthInstance.maxSize 100000
open List renaming append_nil→bN,mem_cons_self→mE
open Nat renaming zero_add→az,le_refl→aC
namespace Go.Prog
open Go.Den
def av.j2(K:VK)(b3:Bool):WK:=
K (.b b3)
def av.j4(K:VK)(b6:Bool):WK:=
K (.b b6)
def av.j6(K:VK)(r2 r3:Nat)(b9:Bool):WK:=
br b9 (
lU (ad r2 1) λn2=>
lU (ad r3 5) λn3=>
lU (ad r3 9) λn4=>
K (.b (n2==(IntKind.u64.wrap (n3-n4))))) (
K (.b false))
def av.j5(K:VK)(r2 r4 r3:Nat)(b8:Bool):WK:=
br b8 (
aD (ad r2 4) 2 λCn=>
aD (ad r4 4) 2 λI6=>
lK [.u 0,.u 0] Cn I6 λb10=>
av.j6 K r2 r3 b10) (
av.j6 K r2 r3 false)
def av.j3(K:VK)(n1:Int)(r2 r3 r4:Nat)(b5:Bool):WK:=
br b5 (
br (n1==5) (
aD (ad r2 0) 6 λA6=>
aY True (
lK wK A6 wK λb7=>
av.j4 K b7)) (
av.j4 K false)) (
br (n1==0) (
aD (ad r2 2) 2 λxp=>
aD (ad r3 6) 2 λCo=>
lK [.u 0,.u 0] xp Co λb11=>
av.j5 K r2 r4 r3 b11) (
av.j5 K r2 r4 r3 false))
def av.j8(K:VK)(b13:Bool):WK:=
K (.b b13)
def av.LW(K:VK)(r2 r6:Nat)(b16:Bool):WK:=
br b16 (
lU (ad r2 1) λRJ=>
lU (ad r6 5) λRI=>
lU (ad r6 9) λWm=>
K (.b (RJ==(IntKind.u64.wrap (RI-Wm))))) (
K (.b false))
def av.j9(K:VK)(r2 r5 r6:Nat)(b15:Bool):WK:=
br b15 (
aD (ad r2 4) 2 λE4=>
aD (ad r5 4) 2 λpe=>
lK [.u 0,.u 0] E4 pe λb17=>
av.LW K r2 r6 b17) (
av.LW K r2 r6 false)
def av.j7(K:VK)(n1:Int)(r2 r6 r5:Nat)(b12:Bool):WK:=
br b12 (
br (n1==5) (
aD (ad r2 0) 6 λE5=>
aY True (
lK wK E5 wK λb14=>
av.j8 K b14)) (
av.j8 K false)) (
br (n1==0) (
aD (ad r2 2) 2 λnc=>
aD (ad r6 6) 2 λk9=>
lK [.u 0,.u 0] nc k9 λb18=>
av.j9 K r2 r5 r6 b18) (
av.j9 K r2 r5 r6 false))
def av.j1(K:VK)(n1:Int)(r2 r1:Nat)(b2:Bool):WK:=
br b2 (
br (n1==5) (
aD (ad r2 0) 6 λqL=>
aY True (
lK wK qL wK λb4=>
av.j2 K b4)) (
av.j2 K false)) (
tick (
lL (ad r1 2) λmg jJ mP=>
gp mg jJ 0 14 λa1=>
aD a1 14 λs7=>
lL (ad r1 2) λqf oP qQ=>
gp qf oP 1 14 λa2=>
aD a2 14 λsY=>
both (
mk cN λr3=>
kp a2 sY (
kp (ad r1 2) [.l qf oP qQ] (
kp a1 s7 (
kp (ad r1 2) [.l mg jJ mP] (
mk cN λr4=>
kp a2 sY (
kp (ad r1 2) [.l qf oP qQ] (
kp a1 s7 (
kp (ad r1 2) [.l mg jJ mP] (
aT 14 (ad r3 0) s7 (
kp a2 sY (
kp (ad r1 2) [.l qf oP qQ] (
aT 14 (ad r4 0) sY (
lU (ad r3 4) λn5=>
lU (ad r3 8) λn6=>
br (decide (n5<n6)) (
av.j3 K n1 r2 r3 r4 true) (
lU (ad r3 4) λn7=>
lU (ad r3 8) λn8=>
br (n7==n8) (
lU (ad r3 5) λn9=>
lU (ad r3 9) λWn=>
av.j3 K n1 r2 r3 r4 (decide (n9<Wn))) (
av.j3 K n1 r2 r3 r4 false))))))))))))))) (
mk cN λr5=>
kp a2 sY (
kp (ad r1 2) [.l qf oP qQ] (
kp a1 s7 (
kp (ad r1 2) [.l mg jJ mP] (
mk cN λr6=>
kp a2 sY (
kp (ad r1 2) [.l qf oP qQ] (
kp a1 s7 (
kp (ad r1 2) [.l mg jJ mP] (
aT 14 (ad r6 0) s7 (
kp a2 sY (
kp (ad r1 2) [.l qf oP qQ] (
aT 14 (ad r5 0) sY (
lU (ad r6 4) λZa=>
lU (ad r6 8) λWl=>
br (decide (Za<Wl)) (
av.j7 K n1 r2 r6 r5 true) (
lU (ad r6 4) λvD=>
lU (ad r6 8) λn17=>
br (vD==n17) (
lU (ad r6 5) λn18=>
lU (ad r6 9) λn19=>
av.j7 K n1 r2 r6 r5 (decide (n18<n19))) (
av.j7 K n1 r2 r6 r5 false)))))))))))))))))
def av(pA:LV)(K:VK):WK:=
mk pA λr1=>
gF (xB λb1=>
br (!b1) (
K (.b false)) (
lL (ad r1 2) λsL qG tq=>
br (decide ((qG:Int)>20)) (
K (.b true)) (
aD (ad r1 0) 4 λuE=>
jI uE (x2 λv1 v2=>(xA 6 λsR=>
(xI .i64 λn1=>
mk wK λr2=>
aT 6 (ad r2 0) sR (
lI (ad r1 0) λn20=>
br (n20 !=0) (
av.j1 K n1 r2 r1 true) (
lL (ad r1 2) λxx wF xY=>
av.j1 K n1 r2 r1 ((wF:Int)!=2)))) v2) v1))))
end Go.Prog
namespace Go.Up
open Go.Sep Go.Den Go.RowKit Go.Prog Go.Md Go.bE
section
variable {W:World} {L R:LH} {K:VK} {X:WK} {e n:Int} {rb ab tb:OA} {rn rc ac tn tc:Nat} {al:List bp} {a b:bp} {x y z x' y' z':Nat}
def ne_of_beq_false{a b:Int}(h:(a==b)=false):a≠b:=by simpa using h
instance:Gt (aP a) 4 (.u ((a.dq/18446744073709551616:Nat):Int)):=⟨rfl⟩
instance:Gt (aP a) 5 (.u ((a.dq%18446744073709551616:Nat):Int)):=⟨rfl⟩
instance:Gt (aP a) 8 (.u ((a.cq/18446744073709551616:Nat):Int)):=⟨rfl⟩
instance:Gt (aP a) 9 (.u ((a.cq%18446744073709551616:Nat):Int)):=⟨rfl⟩
instance:Gt (re x y z) 1 (.u ((x%18446744073709551616:Nat):Int)):=⟨rfl⟩
instance:Sub wK 0 6 wK:=⟨rfl,λj v h=>by rw[az];exact h⟩
instance:Wr wK 0 wK wK:=⟨rfl,aC _,EK 0 0 0⟩
def NW{K:Bool->WK}(h:T W L (K (decide (x=x'/\y=y'/\z=z')))):T W L (lK wK (re x y z) (re x' y' z') K):=NV rfl rfl (by
 have:gG (re x y z) (re x' y' z')=decide (x=x'/\y=y'/\z=z'):=by
  unfold re
  rw[oq,oq,Pz,<-Bool.decide_and,<-Bool.decide_and]
 rw[this];exact h)
def XZ(hr:kF W L aP 14 ab al)(hA:∀a∈al,wD a)(hl:al.length<=20)(h0:e≠0\/al.length≠2->T W L (K (.tuple ⟨[.agg ⟨re 0 0 0⟩,.i 5]⟩)))
 (h1:∀a b,al=[a,b]->e=0->T W L (K (if a.dq<a.cq then .tuple ⟨[.agg ⟨re 0 0 0⟩,.i 5]⟩ else .tuple ⟨[.agg ⟨re (a.dq-a.cq) a.cp b.dq⟩,.i 0]⟩))):
 T W L (jI (ie e rb rn rc ab al.length ac tb tn tc) K):=by
 unfold jI;refine jy λr1=>?_;refine jy λr2=>?_;have bad:(e≠0\/al.length≠2)->T W (Sep.pt r2 wK::Sep.pt r1 (ie e rb rn rc ab al.length ac tb tn tc)::L) (jI.j1 K r2 r1 true):=λhh=>by
  unfold jI.j1;apply ib;apply ws;exact T.drop (T.drop (h0 hh))
 apply ws;apply dz<;>intro g1
 ·exact bad (.inl (by simpa using g1))
 have g1:e=0:=by simpa using g1
 apply ws;by_cases g2:al.length=2
 ·rw[g2];obtain⟨a,b,rfl⟩:∃a b,al=[a,b]:=by
   match al,g2 with
   |[a,b],_=>exact⟨a,b,rfl⟩
  have h1:=h1 a b rfl g1;have ha:=hA a (mE ..);show T W _ (jI.j1 K r2 r1 false);unfold jI.j1;apply fG;apply ws;refine iu hr ⟨by decide,by show(0:Int)<2;decide⟩ rfl λp hp=>?_;show T W _ (aD (p.add (0* 14)) 14 _);apply je hr hp (x:=a) rfl rfl;apply ws;refine iu hr ⟨by decide,by show(1:Int)<2;decide⟩ rfl λp2 AK=>?_;show T W _ (aD (p2.add (1* 14)) 14 _);apply je hr AK (x:=b) rfl rfl;refine ze ?_ ?_<;>(
   repeat' first|apply ws;intros|refine tX (i:=1) (x:=b) hr AK rfl ?_|refine tX (i:=0) (x:=a) hr hp rfl ?_
   refine KR ha.dq ha.cq ?_
   unfold VQ
   by_cases bW:a.dq<a.cq
   ·rw[aj bW] at h1⊢
    rw[ay (show ¬a.cq<=a.dq by omega)]
    apply ws;intros
    exact T.sub h1 (by exact sg)
   ·rw[ah bW] at h1⊢
    rw[aA (show a.cq<=a.dq by omega)]
    apply ws;intros
    rw[bN]
    apply ws
    exact T.sub h1 (by exact sg))
 ·have:(((al.length:Int))!=2)=true:=by simp;omega
  rw[this];exact bad (.inr g2)
set_option maxHeartbeats 1000000 in
def Fh(G:nX W)(WH:kF W [] aP 14 ab al)(hA:∀a∈al,wD a)(h:T W L (K (.b true))):
 T W L (av (ie e rb rn rc ab al.length ac tb tn tc) K):=by
 have hr:kF W L aP 14 ab al:=WH.mono;unfold av;refine jy λr1=>?_;refine zQ G (mO (Es ?_));apply ws;refine gO (λg0=>T.drop h) (λg0=>?_);apply ws;have Kp:kF W (Sep.pt r1 (ie e rb rn rc ab al.length ac tb tn tc)::L) aP 14 ab al:=WH.mono;have XI:∀{r2:Nat},T W (Sep.pt r2 (re 0 0 0)::Sep.pt r1 (ie e rb rn rc ab al.length ac tb tn tc)::L) (av.j1 K 5 r2 r1 true):=λ{r2}=>by
  unfold av.j1;apply ib;refine hG (by decide) ?_;apply ws;show T W _ (lK wK (re 0 0 0) (re 0 0 0) _);refine NW ?_;rw[aA ⟨rfl,rfl,rfl⟩];unfold av.j2;exact T.drop (T.drop h)
 refine XZ Kp hA (by omega) (λhb=>?_) (λa b Yu he0=>?_)
 ·apply ws;intros;rename_i r2;refine dz (λg1=>XI) (λg1=>?_);apply ws;have g1:e=0:=by simpa using g1
  have:((al.length:Int)!=2)=true:=by
   rcases hb with hb|hb
   ·exact aR g1 hb
   ·simp;omega
  rw[this];exact XI
 subst Yu he0;clear XI;have ha:=hA a (mE ..);have main:∀(n:Int)(x y z:Nat),(a.dq<a.cq->n=5/\x=0/\y=0/\z=0)->(¬a.dq<a.cq->n=0/\x=a.dq-a.cq/\y=a.cp/\z=b.dq)->
  ∀r2,T W (Sep.pt r2 (re x y z)::Sep.pt r1 (ie 0 rb rn rc ab 2 ac tb tn tc)::L) (av.j1 K n r2 r1 false):=by
  intro n x y z zE iw r2;unfold av.j1;apply fG;apply ws;refine iu hr ⟨by decide,by show(0:Int)<2;decide⟩ rfl λp hp=>?_;show T W _ (aD (p.add (0* 14)) 14 _);apply je hr hp (x:=a) rfl rfl;apply ws;refine iu hr ⟨by decide,by show(1:Int)<2;decide⟩ rfl λp2 AK=>?_;show T W _ (aD (p2.add (1* 14)) 14 _);apply je hr AK (x:=b) rfl rfl;refine ze ?_ ?_
  ·repeat' first|apply ws;intros|refine tX (i:=1) (x:=b) hr AK rfl ?_|refine tX (i:=0) (x:=a) hr hp rfl ?_
   rename_i rA rB;by_cases bW:a.dq<a.cq
   ·obtain⟨rfl,rfl,rfl,rfl⟩:=zE bW;have jT:T W (Sep.pt rB (aP b)::Sep.pt rA (aP a)::Sep.pt r2 (re 0 0 0)::Sep.pt r1 (ie 0 rb rn rc ab 2 ac tb tn tc)::L) (av.j3 K 5 r2 rA rB true):=by
     unfold av.j3;apply ib;refine hG (by decide) ?_;apply ws;show T W _ (lK wK (re 0 0 0) (re 0 0 0) _);refine NW ?_;rw[aA ⟨rfl,rfl,rfl⟩];unfold av.j4;exact T.sub h (by exact sg)
    refine gO (λq1=>jT) (λq1=>?_);apply ws;apply dz<;>intro q2
    ·have q2:=eq_of_beq q2;apply ws;rw[aA (by omega)];exact jT
    ·have q2:=ne_of_beq_false q2;exfalso;omega
   ·obtain⟨rfl,rfl,rfl,rfl⟩:=iw bW;have jF:T W (Sep.pt rB (aP b)::Sep.pt rA (aP a)::Sep.pt r2 (re (a.dq-a.cq) a.cp b.dq)::Sep.pt r1 (ie 0 rb rn rc ab 2 ac tb tn tc)::L) (av.j3 K 0 r2 rA rB false):=by
     unfold av.j3;apply fG;refine hG (by decide) ?_;apply ws;rw[aA rfl];unfold av.j5;apply ib;apply ws;rw[aA rfl];unfold av.j6;apply ib;apply ws;have e1:IntKind.u64.wrap (((a.dq%18446744073709551616:Nat):Int) -((a.cq%18446744073709551616:Nat):Int))=(((a.dq-a.cq)%18446744073709551616:Nat):Int):=by
      simp[IntKind.wrap,IntKind.bits,IntKind.signed];omega
     rw[e1,beq_self_eq_true];exact T.sub h (by exact sg)
    apply gO<;>intro q1
    ·exfalso;omega
    apply ws;apply dz<;>intro q2
    ·have q2:=eq_of_beq q2;apply ws;rw[ay (by omega)];exact jF
    ·exact jF
  ·repeat' first|apply ws;intros|refine tX (i:=1) (x:=b) hr AK rfl ?_|refine tX (i:=0) (x:=a) hr hp rfl ?_
   rename_i rB rA;by_cases bW:a.dq<a.cq
   ·obtain⟨rfl,rfl,rfl,rfl⟩:=zE bW;have jT:T W (Sep.pt rA (aP a)::Sep.pt rB (aP b)::Sep.pt r2 (re 0 0 0)::Sep.pt r1 (ie 0 rb rn rc ab 2 ac tb tn tc)::L) (av.j7 K 5 r2 rA rB true):=by
     unfold av.j7;apply ib;refine hG (by decide) ?_;apply ws;show T W _ (lK wK (re 0 0 0) (re 0 0 0) _);refine NW ?_;rw[aA ⟨rfl,rfl,rfl⟩];unfold av.j8;exact T.sub h (by exact sg)
    refine gO (λq1=>jT) (λq1=>?_);apply ws;apply dz<;>intro q2
    ·have q2:=eq_of_beq q2;apply ws;rw[aA (by omega)];exact jT
    ·have q2:=ne_of_beq_false q2;exfalso;omega
   ·obtain⟨rfl,rfl,rfl,rfl⟩:=iw bW;have jF:T W (Sep.pt rA (aP a)::Sep.pt rB (aP b)::Sep.pt r2 (re (a.dq-a.cq) a.cp b.dq)::Sep.pt r1 (ie 0 rb rn rc ab 2 ac tb tn tc)::L) (av.j7 K 0 r2 rA rB false):=by
     unfold av.j7;apply fG;refine hG (by decide) ?_;apply ws;rw[aA rfl];unfold av.j9;apply ib;apply ws;rw[aA rfl];unfold av.LW;apply ib;apply ws;have e1:IntKind.u64.wrap (((a.dq%18446744073709551616:Nat):Int) -((a.cq%18446744073709551616:Nat):Int))=(((a.dq-a.cq)%18446744073709551616:Nat):Int):=by
      simp[IntKind.wrap,IntKind.bits,IntKind.signed];omega
     rw[e1,beq_self_eq_true];exact T.sub h (by exact sg)
    apply gO<;>intro q1
    ·exfalso;omega
    apply ws;apply dz<;>intro q2
    ·have q2:=eq_of_beq q2;apply ws;rw[ay (by omega)];exact jF
    ·exact jF
 by_cases bW:a.dq<a.cq
 ·rw[aj bW];apply ws;intros;rename_i r2;refine cW (by rfl) ?_;apply ws;exact main 5 0 0 0 (λ_=>⟨rfl,rfl,rfl,rfl⟩) (λhh=>aR bW hh) r2
 ·rw[ah bW];apply ws;intros;rename_i r2;refine cW (by rfl) ?_;apply ws;exact main 0 _ _ _ (λhh=>aR hh bW) (λ_=>⟨rfl,rfl,rfl,rfl⟩) r2
end
end Go.Up
namespace Go.Proofs.YtfijieggfhnpeaaGreatDoor
open Go.Sep Go.Den Go.RowKit Go.Prog Go.Up
def e3:aE P 3 (U [.g] av):=ua (t2 e8 e9) Tryz.func3
def CX{W:World}{a0:LV}(G:nX W)(l0:a0.length=rpK.length)(y0:X1 W rpK a0 0):
 U [.g] av [.agg ⟨a0⟩] (λv w'=>v=.b true/\Below W.heap.size W w') W:=by
 obtain⟨e0,rb0,ab0,tb0,rn0,rc0,ac0,tn0,tc0,al0,rfl,h0,k0⟩:=Rl l0 y0;exact Fh (K:=λv w'=>v=.b true/\Below W.heap.size W w') (W:=W) (L:=[]) G h0 k0 (λw hs=>⟨rfl,hs.1⟩) W (St.start W)
end Go.Proofs.YtfijieggfhnpeaaGreatDoor
