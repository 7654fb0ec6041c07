/- Part of the proof: see the last text. -/
import Derived.Test.YtibneekkkdnmgaaGreatDoorPD
import Derived.Test.YtibneekkkdnmgaaGreatDoorPE
import Derived.Test.YtibneekkkdnmgaaGreatDoorPF
set_option linter.all false
set_option maxRecDepth 100000
set_option synthInstance.maxSize 100000
open Go.IntKind renaming i64→aa
open Int renaming tmod_eq_emod_of_nonneg→dX
open List renaming getElem?_eq_some_iff→ao,mem_map→cA,map_cons→cW,mem_append→dF,map_congr_left→eg,mem_cons_of_mem→iy,find?_eq_none→nJ,map_map→pD,mem_cons_self→qa
open Nat renaming zero_le→aE,le_refl→aH,add_zero→eL
open Option renaming some→aY
namespace Go.Up
open Go.Md
def TD(m:aA):Prop:=∀a∈m.cE,(has a.aq 2->S (uC a.id) m.ax+S (uj a.id) m.ax<=S (uk a.id) m.ax)/\(has a.aq 4->S (uE a.id) m.ax+S (uk a.id) m.ax<=S (uj a.id) m.ax)
def ZJ(m:aA):Prop:=∀k∈m.ax,∀d∈m.cE,∀c∈m.cE,d.id=k.move.bw->c.id=k.move.aP->d.ba=c.ba
def zJ{m:aA}(hg:Md.bK m){a d:bJ}(ha:a∈m.cE)(hd:d∈m.cE)(h:a.id=d.id):a=d:=by
 have h1:=pw hg.ids ha;have h2:=pw hg.ids hd;rw[h,h2] at h1;exact(aY.inj h1).symm
def Ds{l:List bJ}{id:Nat}(h:l.find? (λa=>a.id=id)=none){a:bJ}(ha:a∈l):a.id≠id:=by
 have:=nJ.1 h a ha;simpa using this
def MT{l:List ch}{a:bJ}(h0:0<=a.aq)(h8:a.aq<8):(has (Md.full l a).aq 2↔has a.aq 2)/\(has (Md.full l a).aq 4↔has a.aq 4):=by
 unfold Md.full has;dsimp only;split<;>constructor<;>omega
def KY{f:ch->Nat}{l:List ch}(h:∀k∈l,f k=0):S f l=0:=by
 induction l with
 |nil=>rfl
 |cons x l ih=>rw[pY,h x (qa),ih λk hk=>h k (iy _ hk)]
def aaE{f g:ch->Nat}{F:ch->ch}{l:List ch}(h:∀k,f (F k)<=g k):S f (l.map F)<=S g l:=by
 induction l with
 |nil=>exact aH _
 |cons x l ih=>rw[cW,pY,pY];have:=h x;omega
def TD.step{m m':aA}(hg:Md.bK m)(h:TD m)(hs:Step m m'):TD m':=by
 cases hs with
 |same=>exact h
 |make a hc hn hf=>
  intro x hx;rcases dF.1 hx with hx|hx
  ·exact h x hx
  ·have hx:x={a with ay:=m.ay+1,aq:=a.aq/2* 2}:=by simpa using hx
   have hz:∀k∈m.ax,k.move.bw≠a.id/\k.move.aP≠a.id:=λk hk=>by
    obtain⟨_,h1,h2⟩:=hg.wg k hk;obtain⟨y,hy,e⟩:=cA.1 h1;obtain⟨z,hz,e2⟩:=cA.1 h2;exact⟨by rw[<-e];exact Ds hn hy,by rw[<-e2];exact Ds hn hz⟩
   have z1:S (uC a.id) m.ax=0:=KY λk hk=>by unfold uC;rw[ag λhh=>(hz k hk).1 hh.2]
   have z2:S (uj a.id) m.ax=0:=KY λk hk=>by unfold uj;rw[ag λhh=>(hz k hk).1 hh.2]
   have z3:S (uE a.id) m.ax=0:=KY λk hk=>by unfold uE;rw[ag λhh=>(hz k hk).2 hh.2]
   have z4:S (uk a.id) m.ax=0:=KY λk hk=>by unfold uk;rw[ag λhh=>(hz k hk).2 hh.2]
   have e:x.id=a.id:=by rw[hx]
   show(_->S (uC x.id) m.ax+S (uj x.id) m.ax<=S (uk x.id) m.ax)/\(_->S (uE x.id) m.ax+S (uk x.id) m.ax<=S (uj x.id) m.ax);rw[e,z1,z2,z3,z4];exact⟨λ_=>aH _,λ_=>aH _⟩
 |move t n d c hk he hn hd hc EI Ef hl hm hb wX=>
  intro x hx;have hx:x∈m.cE:=hx;obtain⟨o1,o2⟩:=h x hx;have kN:=(JF hk he).1;have h8: ¬has t.aq 8:=λhh=>he (.inr hh);show(_->S (uC x.id) (m.ax++[_])+S (uj x.id) (m.ax++[_])<=S (uk x.id) (m.ax++[_]))/\(_->S (uE x.id) (m.ax++[_])+S (uk x.id) (m.ax++[_])<=S (uj x.id) (m.ax++[_]));simp only[uz];have w:waits t=1↔has t.aq 2:=by unfold waits;split<;>simp_all
  have dd:∀y∈m.cE,(has (Md.full m.ax y).aq 2↔has y.aq 2)/\(has (Md.full m.ax y).aq 4↔has y.aq 4)/\(Md.full m.ax y).dp=S (uC y.id) m.ax/\(Md.full m.ax y).dq=S (uj y.id) m.ax/\(Md.full m.ax y).cp=S (uE y.id) m.ax/\(Md.full m.ax y).cq=S (uk y.id) m.ax:=λy hy=>by
   obtain⟨a1,a2,a3,a4,a5,a6⟩:=hg.zero y hy;obtain⟨b1,b2⟩:=MT (l:=m.ax) a5 a6;refine⟨b1,b2,?_,?_,?_,?_⟩<;>(unfold Md.full;dsimp only;omega)
  unfold uC uj uE uk jo;dsimp only;simp only[w,h8,not_false_eq_true,and_true]
  change (has x.aq 2->S (uC x.id) m.ax+_+(S (uj x.id) m.ax+_)<=S (uk x.id) m.ax+_)/\(has x.aq 4->S (uE x.id) m.ax+_+(S (uk x.id) m.ax+_)<=S (uj x.id) m.ax+_)
  by_cases e1:t.bw=x.id
  ·have ex:=zJ hg hx hd (by rw[EI,e1]);subst ex;have e2: ¬t.aP=x.id:=λhh=>kN (by rw[e1,hh]);obtain⟨p1,p2,p3,p4,p5,p6⟩:=dd x hx;have hh:has x.aq 2->n<=S (uk x.id) m.ax-(S (uC x.id) m.ax+S (uj x.id) m.ax):=λh2=>by
    have: ¬iR (Md.full m.ax x) true<n:=λh3=>hb ⟨p1.2 h2,h3⟩;unfold iR at this;rw[ai rfl,p3,p4,p6] at this;omega
   by_cases h2:has t.aq 2
   ·simp only[e1,e2,h2,and_true,and_false,true_and,not_true_eq_false,false_and,if_true,if_false,eL];refine⟨λhf=>?_,λhf=>?_⟩
    ·have:=o1 hf;have:=hh hf;omega
    ·have:=o2 hf;omega
   ·simp only[e1,e2,h2,and_true,and_false,true_and,not_false_eq_true,false_and,if_true,if_false,eL];refine⟨λhf=>?_,λhf=>?_⟩
    ·have:=o1 hf;have:=hh hf;omega
    ·have:=o2 hf;omega
  ·by_cases e2:t.aP=x.id
   ·have ex:=zJ hg hx hc (by rw[Ef,e2]);subst ex;obtain⟨p1,p2,p3,p4,p5,p6⟩:=dd x hx;have hh:has x.aq 4->n<=S (uj x.id) m.ax-(S (uE x.id) m.ax+S (uk x.id) m.ax):=λh2=>by
     have: ¬iR (Md.full m.ax x) false<n:=λh3=>wX ⟨p2.2 h2,h3⟩;unfold iR at this;rw[ag (by decide),p4,p5,p6] at this;omega
    by_cases h2:has t.aq 2
    ·simp only[e1,e2,h2,and_true,and_false,true_and,not_true_eq_false,false_and,if_true,if_false,eL];refine⟨λhf=>?_,λhf=>?_⟩
     ·have:=o1 hf;omega
     ·have:=o2 hf;have:=hh hf;omega
    ·simp only[e1,e2,h2,and_true,and_false,true_and,not_false_eq_true,false_and,if_true,if_false,eL];refine⟨λhf=>?_,λhf=>?_⟩
     ·have:=o1 hf;omega
     ·have:=o2 hf;have:=hh hf;omega
   ·simp only[e1,e2,and_false,if_false,eL];exact⟨o1,o2⟩
 |ends t i k hi hk he hn hw h1 hb hm=>
  obtain⟨bX,ek⟩:=ao.1 hi;intro x hx;have hx:x∈m.cE:=hx;obtain⟨o1,o2⟩:=h x hx;obtain⟨c1,c2,c3,c4⟩:=G3 hk he;have hf:cK t=2\/cK t=3\/cK t=4:=by unfold cK;split<;>simp
  obtain⟨s1,s2,s3,s4,-⟩:=ended bX (f:=cK t) (by rw[ek];exact h1) (by rw[ek];exact hw) hf x.id;rw[ek] at s1 s2 s3 s4;have MB:(m.dH i (cK t)).ax=m.ax.set i {k with fate:=cK t}:=by rw[oq bX,ek]
  show(_->S (uC x.id) ((m.dH i (cK t)).ax++[_])+S (uj x.id) ((m.dH i (cK t)).ax++[_])<=S (uk x.id) ((m.dH i (cK t)).ax++[_]))/\(_->S (uE x.id) ((m.dH i (cK t)).ax++[_])+S (uk x.id) ((m.dH i (cK t)).ax++[_])<=S (uj x.id) ((m.dH i (cK t)).ax++[_]));rw[MB];simp only[uz,s3,s4];have f1:∀(id:Nat)(r:ch),r.fate=0->uC id r=0:=λid r hr=>by unfold uC;rw[ag (by rw[hr];simp)]
  have f2:∀(id:Nat)(r:ch),r.fate=0->uE id r=0:=λid r hr=>by unfold uE;rw[ag (by rw[hr];simp)]
  rw[f1 _ _ rfl,f2 _ _ rfl];have aak:∀r:ch,r.move.aq=t.aq->(jo r↔has t.aq 4):=λr hr=>by
   unfold jo;rw[hr]
   constructor
   ·intro hh;exact Decidable.byContradiction λh4=>hh.2 (c2.2 h4)
   ·intro h4;exact⟨c1,λh8=>c2.1 h8 h4⟩
  have am:has t.aq 4->cV t k.move<=k.move.aU:=λh4=>by
   have: ¬(has t.aq 4/\k.move.aU<cV t k.move):=λhh=>hb (.inl hh);have: ¬k.move.aU<cV t k.move:=λhh=>this ⟨h4,hh⟩;omega
  have g1:∀(id:Nat)(r:ch),r.move.aq=t.aq->uj id r=if has t.aq 4/\r.move.bw=id then r.move.aU else 0:=λid r hr=>by unfold uj;simp only[aak r hr]
  have g2:∀(id:Nat)(r:ch),r.move.aq=t.aq->uk id r=if has t.aq 4/\r.move.aP=id then r.move.aU else 0:=λid r hr=>by unfold uk;simp only[aak r hr]
  rw[g1 _ _ rfl,g2 _ _ rfl]
  change (has x.aq 2->S (uC x.id) _+0+(S (uj x.id) m.ax+if has t.aq 4/\k.move.bw=x.id then cV t k.move else 0)<=S (uk x.id) m.ax+if has t.aq 4/\k.move.aP=x.id then cV t k.move else 0)/\(has x.aq 4->S (uE x.id) _+0+(S (uk x.id) m.ax+if has t.aq 4/\k.move.aP=x.id then cV t k.move else 0)<=S (uj x.id) m.ax+if has t.aq 4/\k.move.bw=x.id then cV t k.move else 0)
  by_cases h4:has t.aq 4
  ·have:=am h4;simp only[h4,true_and];by_cases e1:k.move.bw=x.id<;>by_cases e2:k.move.aP=x.id<;>simp only[e1,e2,if_true,if_false] at s1 s2⊢<;>exact⟨λhf=>by have:=o1 hf;omega,λhf=>by have:=o2 hf;omega⟩
  ·simp only[h4,false_and,if_false];by_cases e1:k.move.bw=x.id<;>by_cases e2:k.move.aP=x.id<;>simp only[e1,e2,if_true,if_false] at s1 s2⊢<;>exact⟨λhf=>by have:=o1 hf;omega,λhf=>by have:=o2 hf;omega⟩
 |time now=>
  intro x hx;have hx:x∈m.cE:=hx;obtain⟨o1,o2⟩:=h x hx;have hp:∀k:ch,jo {k with fate:=4}↔jo k:=λk=>Iff.rfl;generalize hc:(m.time now).clock=ck;have ek:(m.time now).ax=m.ax.map λk=>if kJ ck k then{k with fate:=4} else k:=by rw[<-hc];rfl
  rw[ek];have a1:S (uC x.id) (m.ax.map λk=>if kJ ck k then{k with fate:=4} else k)<=S (uC x.id) m.ax:=aaE λk=>by
   split
   ·unfold uC;rw[ag (by simp)];exact aE _
   ·exact aH _
  have a2:S (uE x.id) (m.ax.map λk=>if kJ ck k then{k with fate:=4} else k)<=S (uE x.id) m.ax:=aaE λk=>by
   split
   ·unfold uE;rw[ag (by simp)];exact aE _
   ·exact aH _
  have a3:∀f:ch->Nat,(∀k:ch,f {k with fate:=4}=f k)->S f (m.ax.map λk=>if kJ ck k then{k with fate:=4} else k)=S f m.ax:=λf hf=>by
   unfold S;rw[pD]
   congr 1
   refine eg λk _=>?_;show f (if _ then _ else _)=_;split
   ·exact hf k
   ·rfl
  rw[a3 (uj x.id) (λk=>rfl),a3 (uk x.id) (λk=>rfl)];exact⟨λhf=>by have:=o1 hf;omega,λhf=>by have:=o2 hf;omega⟩
end Go.Up
namespace Go.Prog
open Go.Den
def dA.j2(K:VK)(r1 r3:Nat)(b4:Bool):WK:=
br b4 (
K (.b false)) (
lI (ad r1 12) λn1=>
cu ((4:Int)≠0) (
cu ((2:Int)≠0) (
br (((aa.wrap (n1.tdiv (4:Int))).tmod (2:Int))==0) (
K (.b true)) (
aJ (ad r1 4) 2 λPt=>
aJ (ad r3 0) 2 λcs9=>
hG Pt cs9 (xB λb5=>
K (.b (!b5)))))))
def dA.j1(K:VK)(r1 r2 r3:Nat)(b3:Bool):WK:=
br b3 (
K (.b false)) (
lI (ad r1 12) λn2=>
cu ((2:Int)≠0) (
cu ((2:Int)≠0) (
br (((aa.wrap (n2.tdiv (2:Int))).tmod (2:Int))==1) (
aJ (ad r1 8) 2 λack=>
aJ (ad r2 0) 2 λacj=>
hG ack acj (xB λb6=>
dA.j2 K r1 r3 b6)) (
dA.j2 K r1 r3 false))))
def dA(CR:LV)(K:VK):WK:=
mk CR λr1=>
aJ (ad r1 2) 2 λzU=>
aJ (ad r1 4) 2 λDx=>
cU zU Dx (x2 λv1 v2=>(xA 2 λBw=>
(xB λb1=>
mk [.u 0,.u 0] λr2=>
bA 2 (ad r2 0) Bw (
aJ (ad r1 6) 2 λIh=>
aJ (ad r1 8) 2 λPu=>
cU Ih Pu (x2 λv3 v4=>(xA 2 λRt=>
(xB λb2=>
mk [.u 0,.u 0] λr3=>
bA 2 (ad r3 0) Rt (
br (!b1) (
dA.j1 K r1 r2 r3 true) (
dA.j1 K r1 r2 r3 (!b2)))) v4) v3))) v2) v1)
def kD(CR:LV)(K:VK):WK:=
mk CR λr1=>
aJ (ad r1 0) 14 λzU=>
dA zU (xB λb1=>
K (.b b1))
end Go.Prog
namespace Go.Up
open Go.Sep Go.Den Go.RowKit Go.Prog Go.Md Go.cF
section
variable {W:World} {L R M:LH} {K:VK} {X:WK} {a:bJ} {m:aA}
def Kf(ha:xR a)(hf:0<=a.aq/\a.aq<1000000)(hd:a.dp+a.dq<bG)(hc:a.cp+a.cq<bG)(h2:has a.aq 2->a.dp+a.dq<=a.cq)(h4:has a.aq 4->a.cp+a.cq<=a.dq)(h:T W L (K (.b true))):T W L (dA (aL a) K):=by
 unfold dA;apply ws;intros;rename_i r1;refine qE ha.dp ha.dq ?_;rw[av hd];apply ws;intros;rename_i r2;refine qE ha.cp ha.cq ?_;rw[av hc];apply ws;intros;rename_i r3;have ea:add a.dp a.dq=a.dp+a.dq:=by unfold add;rw[ai hd]
 have ec:add a.cp a.cq=a.cp+a.cq:=by unfold add;rw[ai hc]
 rw[ea,ec];have j2:T W (Sep.pt r3 (nm (a.cp+a.cq))::Sep.pt r2 (nm (a.dp+a.dq))::Sep.pt r1 (aL a)::L) (dA.j2 K r1 r3 false):=by
  unfold dA.j2;apply ws;intros;refine dO (by decide) (dO (by decide) ?_);apply dj<;>intro g
  ·exact T.dp h
  ·have g4:has a.aq 4:=by
    rw[yF hf.1 hf.2 (by decide),dX (Int.ediv_nonneg hf.1 (by decide))] at g;have g:=(beq_eq_false_iff_ne ..).1 g;unfold has;omega
   apply ws;intros;refine uV ha.dq hc ?_;rw[ar (by have:=h4 g4;omega)];apply ws;intros;exact T.dp h
 unfold dA.j1;apply ws;intros;refine dO (by decide) (dO (by decide) ?_);rw[PF hf.1 hf.2 (by decide)];apply ga<;>intro g
 ·apply ws;intros;refine uV ha.cq hd ?_;rw[ar (by have:=h2 g;omega)];apply ws;intros;exact j2
 ·exact j2
def Cc(ha:xR a)(hf:0<=a.aq/\a.aq<1000000)(hd:a.dp+a.dq<bG)(hc:a.cp+a.cq<bG)(h2:has a.aq 2->a.dp+a.dq<=a.cq)(h4:has a.aq 4->a.cp+a.cq<=a.dq)(h:T W L (K (.b true))):T W L (kD (aL a) K):=by
 unfold kD;apply ws;intros;refine Kf ha hf hd hc h2 h4 ?_;apply ws;intros;exact T.drop h
def aax(hm:RM m):∀a∈(bo m).aB,xR a:=by
 have e1:m.cE.map m.full=(bo m).aB:=eg λa ha=>hm.ground.full ha;rw[<-e1];exact Rl hm
def Ww(hm:RM m)(hb:TD m):∀a∈(bo m).aB,(0<=a.aq/\a.aq<1000000)/\a.dp+a.dq<bG/\a.cp+a.cq<bG/\(has a.aq 2->a.dp+a.dq<=a.cq)/\(has a.aq 4->a.cp+a.cq<=a.dq):=λa ha=>by
 obtain⟨b,O9,rfl⟩:=cA.1 ha;obtain⟨z1,z2,z3,z4,z5,z6⟩:=hm.ground.zero b O9;have d:=hm.ground.yG b O9;have c:=hm.ground.uO b O9;obtain⟨f2,f4⟩:=MT (l:=m.ax) z5 z6;obtain⟨k2,k4⟩:=hb b O9;rw[f2,f4];have Re:0<=(Md.full m.ax b).aq/\(Md.full m.ax b).aq<1000000:=by
  have e:0<=b.aq%8+8/\b.aq%8+8<=15:=by omega
  show 0<=(if _ then b.aq else b.aq%8+8)/\(if _ then b.aq else b.aq%8+8)<1000000;split
  ·omega
  ·exact⟨e.1,Int.lt_of_le_of_lt e.2 (by decide)⟩
 refine⟨Re,?_,?_,λh=>?_,λh=>?_⟩
 ·show b.dp+_+(b.dq+_)<_;omega
 ·show b.cp+_+(b.cq+_)<_;omega
 ·have:=k2 h;show b.dp+_+(b.dq+_)<=b.cq+_;omega
 ·have:=k4 h;show b.cp+_+(b.cq+_)<=b.dq+_;omega
end
end Go.Up
namespace Go.Proofs.YtibneekkkdnmgaaGreatDoor
open Go.Den Go.Prog
def e51:aF P 51 (U [.g] dA):=ua (t2 e88 e89) Tryz.func51
def e24:aF P 24 (U [.g] kD):=ua (t1 e51) Tryz.func24
end Go.Proofs.YtibneekkkdnmgaaGreatDoor
