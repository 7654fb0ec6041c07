/- Part of the proof: see the last text. -/
import Derived.Test.YtfijieggfhnpeaaGreatDoorPD
import Derived.Test.YtfijieggfhnpeaaGreatDoorPE
set_option linter.all false
set_option maxRecDepth 100000
set_option synthInstance.maxSize 100000
open Bool renaming false_eq_true→cn
open Go.IntKind renaming i64→ag
open Int renaming toNat_natCast→aq
open List renaming length_append→ak,getElem?_eq_getElem→ao,length_take→aG,take_of_length_le→bg,length_cons→bw,take_add_one→bP,getElem_mem→bT,length_map→cu,getElem?_map→dC,foldl_cons→FB
open Nat renaming le_refl→aC,add_zero→iL
namespace Go.Prog
open Go.Den
def aN.j1(K:VK)(b3:Bool)(I1:LI)(b2:Bool)(p2:OA)(n2:Int)(pA:LV)(n3:Int)(pz:LM)(w2:World)(b4:Bool):WK:=
br b4 (
K (.b false)) (
br b3 (
(ct I1 pz [.b b2,.p p2,.i (ag.wrap (n2+1)),.agg ⟨pA⟩,.i (ag.wrap (n3+1))] [.b b2,.p p2,.i n2,.agg ⟨pA⟩,.i n3] w2)) (
(ct I1 pz [.b b2,.p p2,.i n2,.agg ⟨pA⟩,.i (ag.wrap (n3+1))] [.b b2,.p p2,.i n2,.agg ⟨pA⟩,.i n3] w2)))
def aN.j3(K:VK)(b3:Bool)(I1:LI)(b2:Bool)(p2:OA)(n2:Int)(pA:LV)(n3:Int)(pz:LM)(w2:World)(s1 s4:BA)(n4:Int)(b6:Bool):WK:=
br b6 (
aN.j1 K b3 I1 b2 p2 n2 pA n3 pz w2 true) (
dE s1 s4 0 (xB λb7=>
aN.j1 K b3 I1 b2 p2 n2 pA n3 pz w2 (!((n4==0)==b7))))
def aN.j2(K:VK)(b3:Bool)(I1:LI)(b2:Bool)(p2:OA)(n2:Int)(pA:LV)(n3:Int)(pz:LM)(w2:World)(s1 s4:BA)(n4:Int)(jJ qG:Nat)(b5:Bool):WK:=
br b5 (
aN.j3 K b3 I1 b2 p2 n2 pA n3 pz w2 s1 s4 n4 true) (
br (!b3) (
aN.j3 K b3 I1 b2 p2 n2 pA n3 pz w2 s1 s4 n4 ((jJ:Int)!=(qG:Int))) (
aN.j3 K b3 I1 b2 p2 n2 pA n3 pz w2 s1 s4 n4 false))
def aN.j4(K:VK)(n2:Int)(s2 s3:BA)(b9:Bool):WK:=
br b9 (
K (.b ((n2==2)==(!(me s2 s3))))) (
K (.b ((n2==2)==false)))
def aN(s1 s2 s3:BA)(K:VK):WK:=
gF (xB λb1=>
br (!b1) (
K (.b false)) (
br (decide ((ag.wrap ((ag.wrap ((s1.size:Int)+(s2.size:Int)))+(s3.size:Int)))>100)) (
K (.b true)) (
nq 200 (x2 λv1 v2=>(xP λp1=>
(xI .i64 λn1=>
aY (1=1/\(1=1/\(1=1/\True))) (
(lp [.b false,.p p1,.i 0,.agg ⟨[.s s2,.s s3,.s s2]⟩,.i 0] λI1 pz=>
∀b2 p2 n2 pA n3 w2,I1 [.b b2,.p p2,.i n2,.agg ⟨pA⟩,.i n3] w2->(
br (decide (n3<3)) (
yF pA 3 n3 (xS λs4=>
iO s1 s4 (x2 λv3 v4=>(xA 13 λuE=>
(xI .i64 λn4=>
mk bR λr1=>
aT 13 (ad r1 0) uE (
kq p2 (xP λp3=>
fJ p3 (xL λsL qG tq=>
aD (ad r1 0) 13 λsR=>
fK p2 sR n4 (xA 4 λqL=>
gX qL (xB λb3=>
kq p2 (xP λp4=>
fJ p4 (xL λmg jJ mP=>
br b3 (
aN.j2 K b3 I1 b2 p2 n2 pA n3 pz w2 s1 s4 n4 jJ qG ((jJ:Int)!=(ag.wrap ((qG:Int)+3)))) (
aN.j2 K b3 I1 b2 p2 n2 pA n3 pz w2 s1 s4 n4 jJ qG false))))))))) v4) v3))) (
br (decide (n2<=2)) (
dE s1 s2 0 (xB λb8=>
br b8 (
dE s1 s3 0 (xB λb10=>
aN.j4 K n2 s2 s3 b10)) (
aN.j4 K n2 s2 s3 false))) (
K (.b false)))) w2))) v2) v1))))
end Go.Prog
namespace Go.Up
open Go.Sep Go.Den Go.RowKit Go.Prog Go.Md Go.bE
def QF(good:List UInt8)(O:List (List UInt8))(x:List UInt8):List (List UInt8):=if cO good x=true/\x∉O then O++[x] else O
def rL(good:List UInt8)(l:List (List UInt8)):List (List UInt8):=l.foldl (QF good) []
def LB(good:List UInt8)(l:List (List UInt8))(x:List UInt8):rL good (l++[x])=QF good (rL good l) x:=by unfold rL;rw[List.foldl_append];rfl
def OL(good:List UInt8)(l:List (List UInt8)):(rL good l).length<=l.length:=by
 have key:∀(l O:List (List UInt8)),(l.foldl (QF good) O).length<=O.length+l.length:=by
  intro l
  induction l with
  |nil=>intro O;exact aC _
  |cons x l ih=>
   intro O;have:=ih (QF good O x);have h1:(QF good O x).length<=O.length+1:=by unfold QF;split<;>simp
   rw[FB,bw];omega
 have:=key l [];unfold rL;simpa using this
def Ix{good a b:List UInt8}:(rL good [a,b,a]).length<=2/\((rL good [a,b,a]).length=2↔cO good a=true/\cO good b=true/\a≠b):=by
 unfold rL;simp only[FB,List.foldl_nil];unfold QF;by_cases h1:cO good a=true
 ·by_cases h2:cO good b=true
  ·by_cases h3:b=a
   ·subst h3;simp[h1]
   ·have h4: ¬a=b:=λe=>h3 e.symm;simp[h1,h2,h3,h4]
  ·simp[h1,h2]
 ·by_cases h2:cO good b=true
  ·simp[h1,h2]
  ·simp[h1,h2]
set_option maxHeartbeats 1000000 in
def Fi{W:World}{L:LH}{K:VK}{good a b:List UInt8}(G:nX W)(hg:(bs good).size<=reachBytes)(ha:(bs a).size<=reachBytes)(hb:(bs b).size<=reachBytes)(h:T W L (K (.b true))):
 T W L (aN (bs good) (bs a) (bs b) K):=by
 have L4:reachBytes<=140737488355328:=by decide
 unfold aN;refine zQ G (mO (Es ?_));rw[bn] at hg ha hb;rw[bn,bn,bn,aS (n:=(good.length:Int)+(a.length:Int)) (by omega),aS (by omega)];refine gO (λg0=>h) (λg0=>?_);refine Oq G (n:=200) (by decide) (by decide) λs=>?_;apply ws;intros;obtain⟨xs,Ym⟩:∃xs:List (List UInt8),xs=[a,b,a]:=⟨_,rfl⟩;have Zk:∀x∈xs,x.length<=100:=λx hx=>by
  rw[Ym] at hx;simp at hx;rcases hx with rfl|rfl|rfl<;>omega
 have hx3:xs.length=3:=by rw[Ym];rfl
 have QR:([.s (bs a),.s (bs b),.s (bs a)]:LV)=xs.map λx=>.s (bs x):=by rw[Ym];rfl
 rw[QR];obtain⟨I1,hI⟩:∃I1:LI,I1=λvv w'=>∃(i:Nat)(S:VS)(m:aK),i<=3/\Rm 200 (3* i) S/\S.J.seq<=i/\Md.cR m/\MR good m (rL good (xs.take i))/\
    vv=[.b false,.p (ai s),.i ((rL good (xs.take i)).length:Int),.agg ⟨xs.map λx=>.s (bs x)⟩,.i (i:Int)]/\St W w' (HB 200 s (S,m)::L):=⟨_,rfl⟩
 obtain⟨pz,Zj⟩:∃pz:LM,pz=mq 4 3:=⟨_,rfl⟩;have hR0:Rm 200 0 (Gq 200):=Qn (by decide) (by decide);intro w' l7;refine⟨I1,pz,by rw[hI];exact⟨0,Gq 200,uV,by decide,hR0,by decide,xl,MR.nil,rfl,l7⟩,?_⟩;intro b2 p2 n2 pA n3 w2 hI2;rw[hI] at hI2;obtain⟨i,S,m,hi,hR,HF,EU,hO,e,gJ⟩:=hI2;cases e
 refine T.at ?_ gJ;have e5:=oe i;have hol:=OL good (xs.take i);rw[aG] at hol;apply gO<;>intro g1
 ·have Nn:i<3:=by omega
  have gx:=ao (show i<xs.length by omega);have gm:=Zk _ (bT (show i<xs.length by omega));have rM:xs.take (i+1)=xs.take i++[xs[i]]:=by rw[bP,gx];rfl
  generalize xs[i]=x at gx gm rM;have sw:=LB good (xs.take i) x;rw[<-rM] at sw;refine JZ (n:=200) (s:=s) λm9=>?_;intro w3 h3;refine⟨.s (bs x),⟨by omega,by omega,by rw[aq,dC,gx];rfl⟩,?_⟩;refine(xQ ?_:T W _ _) w3 h3;have hlen:(bo m).aB.length=m.eS.length:=cu _;have j1T:∀{S' m'} {done:Bool},Rm 200 (3* i+3) S'->S'.J.seq<=i+1->Md.cR m'->MR good m' (rL good (xs.take (i+1)))->(rL good (xs.take (i+1))).length=(rL good (xs.take i)).length+(if done=true then 1 else 0)->
                                                                   T W (HB 200 s (S',m')::L) (aN.j1 K done I1 false (ai s) ((rL good (xs.take i)).length:Int) (xs.map λx=>.s (bs x)) (i:Int) pz w2 false):=by
   intro S' m' done r1 r2 r3 r4 r5;unfold aN.j1;apply fG;rw[e5];cases done with
   |true=>
    rw[aj rfl] at r5;apply ib;rw[oe (rL good (xs.take i)).length (by omega),<-r5];refine λw4 h4=>⟨?_,?_⟩
    ·rw[hI];exact⟨i+1,S',m',Nn,r1,r2,r3,r4,rfl,h4⟩
    ·rw[Zj];exact dn (by omega)
   |false=>
    simp only[cn,if_false,iL] at r5;apply fG;rw[<-r5];refine λw4 h4=>⟨?_,?_⟩
    ·rw[hI];exact⟨i+1,S',m',Nn,r1,r2,r3,r4,rfl,h4⟩
    ·rw[Zj];exact dn (by omega)
  refine Fo (by omega) (by omega) (λhp=>?_) (λhp ab ac=>?_)
  ·
   have su:rL good (xs.take (i+1))=rL good (xs.take i):=by rw[sw];unfold QF;rw[ah (by rw[hp];exact λhh=>by cases hh.1)]
   apply ws;intros;rename_i r1;refine vn (n:=200) (s:=s) λp1=>?_;apply vd;refine oy (p:=p1) λxb xc=>?_;apply ws;refine P9 (by decide) ?_;apply FQ (by rfl);refine vO (res:=[]) kF.nil (by decide) ?_;apply mO;refine vn (n:=200) (s:=s) λp2=>?_;apply vd;refine oy (p:=p2) λyb yc=>?_;apply wE;refine cW (by rfl) ?_;unfold aN.j2;apply fG;refine hG (by rfl) ?_;unfold aN.j3;apply cW (by simp);refine rZ (by omega) (by omega) ?_;rw[hp];apply mO;refine T.sub (M:=HB 200 s (S,m)::L) ?_ (by exact sg);exact j1T (done:=false) (hR.mono (by omega)) (by omega) EU (by rw[su];exact hO) (by rw[su];rfl)
  ·apply ws;intros;rename_i r1;refine vn (n:=200) (s:=s) λp1=>?_;apply vd;refine oy (p:=p1) λxb xc=>?_;apply ws;refine T.pl [4,3] (T.sub (M:=HB 200 s (S,m)::own ab 3 ac 14 ((BB good x).aB.flatMap aP)::L) ?_ (by exact sg));refine E9 G hR (by decide) (by omega) (by omega) EU hR.span (λhg=>hO.fit hg (by omega)) (λZv _ hh=>Ds hp Zv hh) tj.1 tj.2 (by show 3<=255;decide) (by show 0<=255;decide) (Lw (λ_=>rfl)) kF.nil (JO hp)
    λS1 rb rc ab2 ac2 tb2 tc2 Z8 hq1 IL=>?_
   by_cases Kr:x∈rL good (xs.take i)
   ·have su:rL good (xs.take (i+1))=rL good (xs.take i):=by rw[sw];unfold QF;rw[ah (λhh=>hh.2 Kr)]
    obtain⟨c,hc,hc0⟩:=hO.old Kr;rw[hc] at IL⊢;apply FQ (by rfl);refine vO (Lw vU) (by show 3<=100000;decide) ?_;have hd:Bc 0 [c,1,1]=false:=by
     unfold Bc;have:((c==0)=false):=by simpa using hc0
     simp[this,hc0]
    rw[hd];apply mO;refine vn (n:=200) (s:=s) λp2=>?_;apply vd;refine oy (p:=p2) λyb yc=>?_;apply wE;apply fG;unfold aN.j2;apply fG;refine hG (by rfl) ?_;unfold aN.j3;apply cW (by simp);refine rZ (by omega) (by omega) ?_;rw[hp];apply mO;refine T.sub (M:=HB 200 s (S1,m)::L) ?_ (by exact sg);exact j1T (done:=false) Z8 (by omega) IL (by rw[su];exact hO) (by rw[su];rfl)
   ·have su:rL good (xs.take (i+1))=rL good (xs.take i)++[x]:=by rw[sw];unfold QF;rw[aj ⟨hp,Kr⟩]
    obtain⟨hc,hO2⟩:=hO.new hp Kr (by omega);rw[hc] at IL⊢;apply FQ (by rfl);refine vO (Lw vU) (by show 3<=100000;decide) ?_;apply mO;refine vn (n:=200) (s:=s) λp2=>?_;apply vd;refine oy (p:=p2) λyb yc=>?_;apply wE;apply ib;have Yo:(bo {m with aw:=m.aw+3,eS:=m.eS++O0 good x m.aw}).aB.length=(bo m).aB.length+3:=by
     show(List.map _ (m.eS++O0 good x m.aw)).length=_;rw[cu,ak,hlen];rfl
    unfold aN.j2;have oK:=hO.oK;refine cW ?_ ?_
    ·dsimp only;rw[aS (by rw[hlen,oK];omega),Yo];simp
    refine cW (by rfl) ?_;unfold aN.j3;apply fG;refine rZ (by omega) (by omega) ?_;rw[hp];apply mO;refine T.sub (M:=HB 200 s (S1,{m with aw:=m.aw+3,eS:=m.eS++O0 good x m.aw})::L) ?_ (by exact sg);exact j1T (done:=true) Z8 (by omega) IL (by rw[su];exact hO2) (by rw[su,ak];rfl)
 ·have Nn:i=3:=by omega
  subst Nn;rw[bg (by omega),Ym];obtain⟨o1,o2⟩:=Ix (good:=good) (a:=a) (b:=b);generalize (rL good [a,b,a]).length=c at o1 o2;refine hG (aA (by omega)) ?_;refine rZ (by omega) (by omega) ?_;apply mO;unfold aN.j4;have fin:T W (HB 200 s (S,m)::L) (K (.b true)):=T.drop h;cases h1:cO good a with
  |false=>
   have: ¬c=2:=λhh=>by have:=(o2.1 hh).1;rw[h1] at this;cases this
   refine fG (fG ?_);rw[show(((c:Int)==2)==false)=true by simp;omega];exact fin
  |true=>
   apply ib;refine rZ (by omega) (by omega) ?_;apply mO;cases h2:cO good b with
   |false=>
    have: ¬c=2:=λhh=>by have:=(o2.1 hh).2.1;rw[h2] at this;cases this
    refine fG ?_;rw[show(((c:Int)==2)==false)=true by simp;omega];exact fin
   |true=>
    refine ib ?_;rw[tf];by_cases h3:a=b
    ·have: ¬c=2:=λhh=>(o2.1 hh).2.2 h3;rw[aA h3,show(((c:Int)==2)== !true)=true by simp;omega];exact fin
    ·have:c=2:=o2.2 ⟨h1,h2,h3⟩;rw[ay h3,this];exact fin
end Go.Up
namespace Go.Proofs.YtfijieggfhnpeaaGreatDoor
open Go.Sep Go.Den Go.RowKit Go.Prog Go.Up
def e4:aE P 4 (U [.s,.s,.s] aN):=ub [(8,[(6,vb),(7,vp),(9,vi),(35,.agg #[]),(36,vi)])] (tk e8 (tk e10 (tk e11 (tk e12 (tk e13 (tk e14 (tk e15 (tk e16 t0)))))))) Tryz.func4
def CY{W:World}{a0:BA}{a1:BA}{a2:BA}(G:nX W)(w0:a0.size<=reachBytes)(w1:a1.size<=reachBytes)(w2:a2.size<=reachBytes):
 U [.s,.s,.s] aN [.s a0,.s a1,.s a2] (λv w'=>v=.b true/\Below W.heap.size W w') W:=by
 exact Fi (K:=λv w'=>v=.b true/\Below W.heap.size W w') (W:=W) (L:=[]) G (good:=a0.data.toList) w0 (a:=a1.data.toList) w1 (b:=a2.data.toList) w2 (λw hs=>⟨rfl,hs.1⟩) W (St.start W)
end Go.Proofs.YtfijieggfhnpeaaGreatDoor
