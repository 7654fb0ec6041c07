/- Part. -/
import Derived.Test.YtibneekkkdnmgaaGreatDoorPE
import Derived.Test.YtibneekkkdnmgaaGreatDoorPF
set_option linter.all false
set_option maxRecDepth 100000
set_option synthInstance.maxSize 100000
open Bool renaming and_eq_true→dh,true_and→dI
open Go.IntKind renaming i64→aa
open Int renaming toNat_natCast→ak,tmod_eq_emod_of_nonneg→dB
open List renaming getElem?_eq_getElem→aj,length_take→aC,length_drop→aR,length_cons→aW,take_add_one→ba,replicate→bj,take_of_length_le→bG,getElem_mem→cb,getElem?_append_left→cO,nil_append→cT,drop_of_length_le→fB,length_replicate→iF,drop_zero→iK,drop_drop→iL,set_cons_succ→lA,getElem?_drop→lC,take_append_of_le_length→zJ,length_append→au,mem_of_getElem?→cn
open Nat renaming zero_le→aE,sub_self→jS,add_sub_cancel_left→M1,le_refl→aF
namespace Go.Prog
open Go.Den
def c9.j2(K:VK)(vc:OA)(rA u6:Nat)(n6:Int)(I1:LI)(b3:Bool)(n5:Int)(μ1:LM)(b1:Bool)(n1:Int)(w2:World)(b4:Bool):WK:=
br b4 (
K (.b false)) (
gX vc rA u6 (xI .i64 λMK=>
br (MK !=(rA:Int)) (
gX vc rA u6 (xI .i64 λLd=>
br (Ld !=0) (
K (.b false)) (
br (n6 !=(aa.wrap ((rA:Int) -1))) (
K (.b false)) (
(ct I1 μ1 [.b b3,.i (aa.wrap (n5+1))] [.b b1,.i n1] w2))))) (
(ct I1 μ1 [.b b3,.i (aa.wrap (n5+1))] [.b b1,.i n1] w2))))
def c9.j1(K:VK)(jJ:OA)(iX jV:Nat)(yn:OA)(ya:Nat)(I1:LI)(μ1:LM)(b1:Bool)(n1:Int)(w2:World)(b2:Bool)(n2 n3:Int):WK:=
rJ jJ iX jV 1 (some n2) (some (aa.wrap (n3+1))) λsr oD sq=>
(lp [.b b2,.i n2,.i n3,.l sr oD sq,.i 0,.l sr oD sq,.i (oD:Int),.i 0] λI2 YI=>
∀b3 n4 n5 vc rA u6 n6 GC GB GP n7 n8 w4,I2 [.b b3,.i n4,.i n5,.l vc rA u6,.i n6,.l GC GB GP,.i n7,.i n8] w4->(
br (decide (n8<n7)) (
iY GC GB n8 1 λa1=>
lI a1 λn9=>
br (n9==1) (
(ct I2 YI [.b b3,.i n4,.i n5,.l vc rA u6,.i (aa.wrap (n6+1)),.l GC GB GP,.i n7,.i (aa.wrap (n8+1))] [.b b3,.i n4,.i n5,.l vc rA u6,.i n6,.l GC GB GP,.i n7,.i n8] w4)) (
(ct I2 YI [.b b3,.i n4,.i n5,.l vc rA u6,.i n6,.l GC GB GP,.i n7,.i (aa.wrap (n8+1))] [.b b3,.i n4,.i n5,.l vc rA u6,.i n6,.l GC GB GP,.i n7,.i n8] w4))) (
iY yn ya n5 16 λa2=>
lI (a2.add 13) λZl=>
cu ((2:Int)≠0) (
br ((Zl.tmod (2:Int))==1) (
iY jJ iX n5 1 λa3=>
lI a3 λVE=>
c9.j2 K vc rA u6 n6 I1 b3 n5 μ1 b1 n1 w2 (VE !=2)) (
c9.j2 K vc rA u6 n6 I1 b3 n5 μ1 b1 n1 w2 false)))) w4)
def c9(yn:OA)(ya Ah:Nat)(jJ:OA)(iX jV:Nat)(K:VK):WK:=
(lp [.b false,.i 0] λI1 μ1=>
∀b1 n1 w2,I1 [.b b1,.i n1] w2->(
br (decide (n1<(ya:Int))) (
(lp [.b b1,.i n1,.i n1] λI3 V9=>
∀b5 Rb NP w10,I3 [.b b5,.i Rb,.i NP] w10->(
br (decide (NP<(aa.wrap ((ya:Int) -1)))) (
iY yn ya NP 16 λa4=>
lI (a4.add 13) λyb=>
cu ((2:Int)≠0) (
br ((yb.tmod (2:Int))==1) (
(ct I3 V9 [.b b5,.i Rb,.i (aa.wrap (NP+1))] [.b b5,.i Rb,.i NP] w10)) (
c9.j1 K jJ iX jV yn ya I1 μ1 b1 n1 w2 b5 Rb NP))) (
c9.j1 K jJ iX jV yn ya I1 μ1 b1 n1 w2 b5 Rb NP)) w10)) (
K (.b true))) w2)
def aK.j3(K:VK)(r2 r3:Nat)(I1:LI)(b3:Bool)(p2 jJ:OA)(iX jV:Nat)(n1 n2:Int)(μ1:LM)(w2:World)(b7:Bool):WK:=
br b7 (
K (.b false)) (
lL (ad r2 2) λY8 Tg sc7=>
lL (ad r3 1) λPg Nn QM=>
c9 Y8 Tg sc7 Pg Nn QM (xB λb8=>
br (!b8) (
K (.b false)) (
(ct I1 μ1 [.b b3,.p p2,.l jJ iX jV,.i n1,.i (aa.wrap (n2+1))] [.b b3,.p p2,.l jJ iX jV,.i n1,.i n2] w2))))
def aK.j2(K:VK)(r3:Nat)(I1:LI)(b3:Bool)(p2 jJ:OA)(iX jV:Nat)(n1 n2:Int)(μ1:LM)(w2:World)(r2 rA oD:Nat)(b6:Bool):WK:=
br b6 (
K (.b false)) (
lI (ad r3 0) λn5=>
br (n5 !=0) (
(ct I1 μ1 [.b b3,.p p2,.l jJ iX jV,.i n1,.i (aa.wrap (n2+1))] [.b b3,.p p2,.l jJ iX jV,.i n1,.i n2] w2)) (
lL (ad r3 1) λGC GB GP=>
lL (ad r2 2) λsb6 Y5 Y7=>
br ((GB:Int)!=(Y5:Int)) (
aK.j3 K r2 r3 I1 b3 p2 jJ iX jV n1 n2 μ1 w2 true) (
lL (ad r3 1) λsb9 sn9 sc9=>
gX sb9 sn9 sc9 (xI .i64 λn6=>
aK.j3 K r2 r3 I1 b3 p2 jJ iX jV n1 n2 μ1 w2 ((rA:Int)!=(aa.wrap ((oD:Int)+n6)))))))
def aK.j5(K:VK)(r2 r4:Nat)(I1:LI)(b3:Bool)(p2 jJ:OA)(iX jV:Nat)(n1 n2:Int)(μ1:LM)(w2:World)(b10:Bool):WK:=
br b10 (
K (.b false)) (
lL (ad r2 2) λWy Wt Ww=>
lL (ad r4 1) λaau aaq aas=>
c9 Wy Wt Ww aau aaq aas (xB λb11=>
br (!b11) (
K (.b false)) (
(ct I1 μ1 [.b b3,.p p2,.l jJ iX jV,.i n1,.i (aa.wrap (n2+1))] [.b b3,.p p2,.l jJ iX jV,.i n1,.i n2] w2))))
def aK.j4(K:VK)(r4:Nat)(I1:LI)(b3:Bool)(p2 jJ:OA)(iX jV:Nat)(n1 n2:Int)(μ1:LM)(w2:World)(r2 DG oD:Nat)(b9:Bool):WK:=
br b9 (
K (.b false)) (
lI (ad r4 0) λn9=>
br (n9 !=0) (
(ct I1 μ1 [.b b3,.p p2,.l jJ iX jV,.i n1,.i (aa.wrap (n2+1))] [.b b3,.p p2,.l jJ iX jV,.i n1,.i n2] w2)) (
lL (ad r4 1) λWz QH Wx=>
lL (ad r2 2) λKJ IU Nq=>
br ((QH:Int)!=(IU:Int)) (
aK.j5 K r2 r4 I1 b3 p2 jJ iX jV n1 n2 μ1 w2 true) (
lL (ad r4 1) λaat Wq aar=>
gX aat Wq aar (xI .i64 λZl=>
aK.j5 K r2 r4 I1 b3 p2 jJ iX jV n1 n2 μ1 w2 ((DG:Int)!=(aa.wrap ((oD:Int)+Zl)))))))
def aK.j7(K:VK)(r2 r5:Nat)(I1:LI)(b3:Bool)(p2 jJ:OA)(iX jV:Nat)(n1 n2:Int)(μ1:LM)(w2:World)(b13:Bool):WK:=
br b13 (
K (.b false)) (
lL (ad r2 2) λae3 aeX ae0=>
lL (ad r5 1) λae2 aeW aeZ=>
c9 ae3 aeX ae0 ae2 aeW aeZ (xB λb14=>
br (!b14) (
K (.b false)) (
(ct I1 μ1 [.b b3,.p p2,.l jJ iX jV,.i n1,.i (aa.wrap (n2+1))] [.b b3,.p p2,.l jJ iX jV,.i n1,.i n2] w2))))
def aK.j6(K:VK)(r5:Nat)(I1:LI)(b3:Bool)(p2 jJ:OA)(iX jV:Nat)(n1 n2:Int)(μ1:LM)(w2:World)(r2 IT oD:Nat)(b12:Bool):WK:=
br b12 (
K (.b false)) (
lI (ad r5 0) λVE=>
br (VE !=0) (
(ct I1 μ1 [.b b3,.p p2,.l jJ iX jV,.i n1,.i (aa.wrap (n2+1))] [.b b3,.p p2,.l jJ iX jV,.i n1,.i n2] w2)) (
lL (ad r5 1) λacE aap acB=>
lL (ad r2 2) λacD Wo acA=>
br ((aap:Int)!=(Wo:Int)) (
aK.j7 K r2 r5 I1 b3 p2 jJ iX jV n1 n2 μ1 w2 true) (
lL (ad r5 1) λae1 aeV aeY=>
gX ae1 aeV aeY (xI .i64 λRb=>
aK.j7 K r2 r5 I1 b3 p2 jJ iX jV n1 n2 μ1 w2 ((IT:Int)!=(aa.wrap ((oD:Int)+Rb)))))))
def aK.j1(K:VK)(r1:Nat)(p2:OA)(I1:LI)(b3:Bool)(jJ:OA)(iX jV:Nat)(n1 n2:Int)(μ1:LM)(w2:World)(r2:Nat)(b4:Bool):WK:=
br b4 (
aJ (ad r1 0) 6 λJL=>
aN p2 JL (xB λb5=>
(ct I1 μ1 [.b b3,.p p2,.l jJ iX jV,.i n1,.i (aa.wrap (n2+1))] [.b b3,.p p2,.l jJ iX jV,.i n1,.i n2] w2))) (
nn p2 λa2=>
lP a2 λp3=>
ff p3 (xP λp4=>
fh p4 (xL λsr oD sq=>
tick (
nn p2 λa3=>
lP a3 λp5=>
lS (ad r1 1) λs2=>
both (
gS p5 s2 (xS λs3=>
both (
iQ s3 (x2 λv3 v4=>(xA 4 λJK=>
(xI .i64 λn4=>
mk Ab λr3=>
bD 4 (ad r3 0) JK (
nn p2 λa4=>
lP a4 λp6=>
ff p6 (xP λp7=>
fh p7 (xL λvc rA u6=>
br (n4 !=0) (
aK.j2 K r3 I1 b3 p2 jJ iX jV n1 n2 μ1 w2 r2 rA oD true) (
lI (ad r3 0) λn7=>
br (n7 !=0) (
aK.j2 K r3 I1 b3 p2 jJ iX jV n1 n2 μ1 w2 r2 rA oD ((rA:Int)!=(oD:Int))) (
aK.j2 K r3 I1 b3 p2 jJ iX jV n1 n2 μ1 w2 r2 rA oD false)))))) v4) v3)) (
mk Ab λr4=>
iQ s3 (x2 λv5 v6=>(xA 4 λL8=>
(xI .i64 λn8=>
bD 4 (ad r4 0) L8 (
nn p2 λa5=>
lP a5 λp8=>
ff p8 (xP λp9=>
fh p9 (xL λQN DG KH=>
br (n8 !=0) (
aK.j4 K r4 I1 b3 p2 jJ iX jV n1 n2 μ1 w2 r2 DG oD true) (
lI (ad r4 0) λMK=>
br (MK !=0) (
aK.j4 K r4 I1 b3 p2 jJ iX jV n1 n2 μ1 w2 r2 DG oD ((DG:Int)!=(oD:Int))) (
aK.j4 K r4 I1 b3 p2 jJ iX jV n1 n2 μ1 w2 r2 DG oD false)))))) v6) v5)))) (
mk Ab λr5=>
kp (ad r1 1) [.s s2] (
kp a3 [.p p5] (
gS p5 s2 (xS λs4=>
iQ s4 (x2 λv7 v8=>(xA 4 λYc=>
(xI .i64 λLd=>
bD 4 (ad r5 0) Yc (
nn p2 λa6=>
lP a6 λp10=>
ff p10 (xP λp11=>
fh p11 (xL λacF IT acC=>
br (Ld !=0) (
aK.j6 K r5 I1 b3 p2 jJ iX jV n1 n2 μ1 w2 r2 IT oD true) (
lI (ad r5 0) λNP=>
br (NP !=0) (
aK.j6 K r5 I1 b3 p2 jJ iX jV n1 n2 μ1 w2 r2 IT oD ((IT:Int)!=(oD:Int))) (
aK.j6 K r5 I1 b3 p2 jJ iX jV n1 n2 μ1 w2 r2 IT oD false)))))) v8) v7)))))))))
def aK(yn:OA)(ya Ah:Nat)(K:VK):WK:=
il (xB λb1=>
br (!b1) (
K (.b false)) (
kS yn ya Ah (xB λb2=>
br b2 (
K (.b true)) (
mX (xP λp1=>
(lp [.b false,.p p1,.l yn ya Ah,.i (ya:Int),.i 0] λI1 μ1=>
∀b3 p2 jJ iX jV n1 n2 w2,I1 [.b b3,.p p2,.l jJ iX jV,.i n1,.i n2] w2->(
br (decide (n2<n1)) (
iY jJ iX n2 6 λa1=>
aJ a1 6 λV6=>
mk Et λr1=>
bD 6 (ad r1 0) V6 (
lS (ad r1 1) λs1=>
jI s1 (x2 λv1 v2=>(xA 13 λJM=>
(xI .i64 λn3=>
mk kU λr2=>
bD 13 (ad r2 0) JM (
lI (ad r1 0) λyb=>
br (yb !=0) (
aK.j1 K r1 p2 I1 b3 jJ iX jV n1 n2 μ1 w2 r2 true) (
br (n3 !=0) (
aK.j1 K r1 p2 I1 b3 jJ iX jV n1 n2 μ1 w2 r2 true) (
lI (ad r2 0) λn17=>
aK.j1 K r1 p2 I1 b3 jJ iX jV n1 n2 μ1 w2 r2 (n17 !=2))))) v2) v1))) (
K (.b true))) w2))))))
end Go.Prog
namespace Go.Up
open Go.Sep Go.Den Go.RowKit Go.Prog Go.Md Go.cH
def Mh(lk:cx->Bool):∀(l:List cx)(j:Nat)(x:cx),j<(bI lk l).1->l[j]?=some x->
 (lk x=true->j+1<(bI lk l).1\/(j+1=l.length/\(bI lk l).2=false))/\(lk x=false->j+1=(bI lk l).1/\(bI lk l).2=true)
 |[],j,x,_,hx=>by simp at hx
 |y::l,0,x,hj,hx=>by
  cases(show y=x by simpa using hx)
  unfold bI;refine⟨λh=>?_,λh=>?_⟩
  ·rw[ai h];cases l with
   |nil=>exact .inr ⟨rfl,rfl⟩
   |cons z l=>
    have:=(tI lk (z::l) (by simp)).1;exact .inl (by dsimp only;omega)
  ·rw[af (by rw[h];decide)];exact⟨rfl,rfl⟩
 |y::l,j+1,x,hj,hx=>by
  have hx:l[j]?=some x:=by simpa using hx
  by_cases hy:lk y=true
  ·unfold bI at hj⊢;rw[ai hy] at hj;rw[ai hy];dsimp only at hj⊢;obtain⟨h1,h2⟩:=Mh lk l j x (by omega) hx;refine⟨λh=>?_,λh=>?_⟩
   ·rcases h1 h with h|⟨h,h3⟩
    ·exact .inl (by omega)
    ·exact .inr ⟨by rw[aW];omega,h3⟩
   ·obtain⟨h3,h4⟩:=h2 h;exact⟨by omega,h4⟩
  ·unfold bI at hj;rw[af hy] at hj;dsimp only at hj;omega
def ug(l:List Int):Nat:=l.countP (·==1)
def K6(a b:List Int):ug (a++b)=ug a+ug b:=by unfold ug;rw[List.countP_append]
def HK{c:Int}(hc:c≠1):∀n i:Nat,i<n->ug (ga n (some (i,c)))+1=n
 |0,i,h=>by omega
 |n+1,0,h=>by
  show ug ((bj (n+1) 1).set 0 c)+1=n+1;unfold ug;rw[List.replicate_succ,List.set_cons_zero,List.countP_cons_of_neg (by simpa using hc),List.countP_eq_length.2 λx hx=>by rw[(List.mem_replicate.1 hx).2];rfl,iF]
 |n+1,i+1,h=>by
  have:ug ((bj n 1).set i c)+1=n:=HK hc n i (by omega);show ug ((bj (n+1) 1).set (i+1) c)+1=n+1;unfold ug at this⊢;rw[List.replicate_succ,lA,List.countP_cons_of_pos (by rfl)];omega
section
variable {α:Type} {W:World} {L R R2:LH} {K:VK} {X:WK} {g:α->LV} {e:Nat} {s:OA} {l:List α}
def SX{i j:Nat}{x:α}{a:Addr}{v:Value}{K:VK}[hh:Has R L](hr:np W R g e s l)(hs:s=some a)(hx:l[i]?=some x)(hv:(g x)[j]?=some v)(h:T W L (K v)):T W L (ld ((a.add (i* e)).add j) K):=λw hw=>by
 obtain⟨a',ha,hh⟩:=hr w (hh.sub hw) i x hx;rw[hs] at ha;cases ha
 exact⟨v,hh j v hv,h w hw⟩
set_option maxHeartbeats 1000000 in
def RW{D C:OA}{Y N:Nat}{l:List cx}{f:List Int}{m:aA}{k:Nat}[hh:Has R L][hh2:Has R2 L](ht:np W R aM 16 D l)(hr:np W R2 I1 1 C f)
 (BF:f=(eW aA.lO sY k m l).1)(hk:l.length<=k)(hlen:f.length=l.length)(hl:l.length<=1000)(hc:f.length<=N)(hf:∀t∈l,0<=t.ao)(h:T W L (K (.b true))):T W L (c9 D l.length Y C f.length N K):=by
 unfold c9;intro w jo;refine⟨λvv w=>∃(d k:Nat)(m:aA),d<=l.length/\l.length-d<=k/\f.drop d=(eW aA.lO sY k m (l.drop d)).1/\vv=[.b false,.i (d:Int)]/\St W w L,
  mq 1 l.length,⟨0,k,m,aE _,by omega,BF,rfl,jo⟩,?_⟩
 clear BF hk jo;rintro b1 n1 w2 ⟨d,k,m,BJ,hk,nu,e,gI⟩;cases e
 refine T.at ?_ gI;apply fZ<;>intro g1
 rotate_left
 ·exact h
 have cj:d<l.length:=by omega
 have zF:(l.drop d).length=l.length-d:=aR;have jW:l.drop d≠[]:=λhh=>by rw[hh] at zF;simp at zF;omega
 obtain⟨c1,c2,c3⟩:=tI sY (l.drop d) jW;obtain⟨k,rfl⟩:∃k',k=k'+1:=⟨k-1,by omega⟩;obtain⟨o,m',r1,r2,r3⟩:=Hp sY k m (l.drop d) jW;have XJ:=Mh sY (l.drop d);rw[r1] at nu;clear r1;obtain⟨cw,hcw⟩:∃cw,bI sY (l.drop d)=cw:=⟨_,rfl⟩;rw[hcw] at c1 c2 c3 r2 r3 nu XJ;obtain⟨c,wf⟩:=cw;dsimp only at c1 c2 c3 r2 r3 nu XJ;have HZ:(f.drop d).take c=ga c o:=by rw[nu];rw[zJ (by rw[iA];omega)];rw[bG (by rw[iA];omega)]
 have tU:f.drop (d+c)=(eW aA.lO sY k m' (l.drop (d+c))).1:=by
  have:(f.drop d).drop c=_:=congrArg (List.drop c) nu;rw[iL] at this;rw[this,List.drop_append,fB (by rw[iA];omega),iA,jS,iK,cT,iL]
 have zE:∀j,(f.drop d)[j]?=f[d+j]?:=λj=>lC;have fin:∀{I1:LI} {μ1:LM} {w2:World},(I1=λvv w=>∃(d k:Nat)(m:aA),d<=l.length/\l.length-d<=k/\f.drop d=(eW aA.lO sY k m (l.drop d)).1/\vv=[.b false,.i (d:Int)]/\St W w L)->
  (μ1=mq 1 l.length)->∀{j:Nat},c=j+1->T W L (c9.j1 K C f.length N D l.length I1 μ1 false (d:Int) w2 false (d:Int) ((d+j:Nat):Int)):=by
  intro I1' μ1 w2 hI TY j hj;unfold c9.j1;have e6:aa.wrap (((d+j:Nat):Int)+1)=((d+c:Nat):Int):=by rw[m9 (d+j) (by omega)];omega
  rw[e6];refine A9 (by omega) (by omega) ?_;rw[M1];have G1:=(hr.drop (i:=d) (c:=N) (by omega) hc).take (i:=c);rw[HZ] at G1;have hol:(ga c o).length=c:=iA _ _;generalize ym C N d 1=pb at G1⊢;intro w' jo;refine⟨λvv w=>∃(i:Nat),i<=c/\vv=[.b false,.i (d:Int),.i ((d+j:Nat):Int),.l pb c (N-d),.i (ug ((ga c o).take i):Int),.l pb c (N-d),.i (c:Int),.i (i:Int)]/\St W w L,
   mq 7 c,⟨0,aE _,rfl,jo⟩,?_⟩
  rintro b3 n4 n5 vc rA u6 n6 GC GB GP n7 n8 w4 ⟨i,hi,e,gI⟩;cases e
  refine T.at ?_ gI;have e5:=m9 i;apply fZ<;>intro g1
  ·have cj:i<c:=by omega
   have gx:=aj (l:=ga c o) (i:=i) (by omega);have hz:ug ((ga c o).take (i+1))=ug ((ga c o).take i)+ug [(ga c o)[i]'(by omega)]:=by rw[ba,gx,K6];rfl
   have hzl:ug ((ga c o).take i)<=i:=by unfold ug;have:=List.countP_le_length (p:=(·==(1:Int))) (l:=(ga c o).take i);rw[aC] at this;omega
   generalize (ga c o)[i]'(by omega)=y at gx hz;refine iq G1 ⟨by omega,by omega⟩ hol.symm λa ha=>?_;rw[ak];refine Ae G1 ha gx ?_;refine mg ?_;rw[e5];apply db<;>intro g2
   ·have g2:y=1:=by simpa using g2
    have:ug ((ga c o).take (i+1))=ug ((ga c o).take i)+1:=by rw[hz,g2];rfl
    rw[m9 (ug ((ga c o).take i)) (by omega)];refine λw3 h3=>⟨⟨i+1,cj,by rw[this],h3⟩,dn (by omega)⟩
   ·have g2:y≠1:=by simpa using g2
    have:ug ((ga c o).take (i+1))=ug ((ga c o).take i):=by rw[hz];unfold ug;simp[g2]
    refine λw3 h3=>⟨⟨i+1,cj,by rw[this],h3⟩,dn (by omega)⟩
  have iO:i=c:=by omega
  subst iO;rw[bG (by omega)];have jlt:d+j<l.length:=by omega
  have gx:=aj jlt;have Um:(l.drop d)[j]?=_:=(lC).trans gx;have hfx:=hf _ (cb jlt);have PX:=XJ j _ (by omega) Um;generalize l[d+j]=x at gx Um hfx PX;refine iq ht ⟨by omega,by omega⟩ rfl λa ha=>?_;rw[ak];refine SX (j:=13) (v:=.i x.ao) ht ha gx rfl ?_;refine mg ?_;refine dJ (by decide) ?_;have last:T W L (c9.j2 K pb i (N-d) (ug (ga i o):Int) I1' false ((d+j:Nat):Int) μ1 false (d:Int) w2 false):=by
   unfold c9.j2;have e7:aa.wrap (((d+j:Nat):Int)+1)=((d+i:Nat):Int):=by rw[m9 (d+j) (by omega)];omega
   rw[e7];have RA:T W L (ct I1' μ1 [.b false,.i ((d+i:Nat):Int)] [.b false,.i (d:Int)] w2):=by
    intro w3 h3;refine⟨?_,?_⟩
    ·rw[hI];exact⟨d+i,k,m',by omega,by omega,tU,rfl,h3⟩
    ·rw[TY];show l.length-((d+i:Nat):Int).toNat<l.length-(d:Int).toNat;omega
   refine eO rfl ?_;have hd:=λ(K:VK)(h:T W L (K (.i (fO (ga i o):Int))))=>Qg (K:=K) (c:=N-d) G1 (by omega) h;rw[hol] at hd;refine hd _ (mg ?_);cases o with
   |none=>
    rw[Eu];refine eO (by simp) ?_;exact RA
   |some p=>
    obtain⟨pi,pc⟩:=p;obtain⟨q1,q2,q3⟩:=r2 pi pc rfl;have hz:=Ac (n:=i) (i:=pi) q2;have ho:=HK q3 i pi q1;rw[hz];refine kL (by rw[eY];omega) ?_;refine hd _ (mg ?_);rw[hz];refine eO (by decide) ?_;refine eO ?_ RA;rw[aX (by omega)];have:((ug (ga i (some (pi,pc))):Nat):Int)=(i:Int) -1:=by omega
    rw[this];simp
  refine db (λg2=>?_) (λg2=>last);have XB:sY x=true:=by
   have g2:x.ao.tmod 2=1:=by simpa using g2
   rw[dB hfx] at g2;exact aw g2
  rcases PX.1 XB with h3|⟨h3,h4⟩
  ·omega
  have ho:=r3 h4;have gr:f[d+j]?=some 2:=by
   rw[<-zE,nu,cO (by omega),ho];unfold ga;have:i-1=j:=by omega
   rw[this,List.getElem?_set_self (by rw[iF];omega)]
  refine iq hr ⟨by omega,by omega⟩ rfl λa3 ZK=>?_;rw[ak];refine Ae hr ZK gr ?_;exact mg last
 generalize hI:(λ(vv:LV)(w:World)=>∃(d k:Nat)(m:aA),d<=l.length/\l.length-d<=k/\f.drop d=(eW aA.lO sY k m (l.drop d)).1/\vv=[.b false,.i (d:Int)]/\St W w L)=II;generalize TY:mq 1 l.length=aeR;have fin:=λ{w2:World} {j:Nat}(hj:c=j+1)=>fin (I1:=II) (μ1:=aeR) (w2:=w2) hI.symm TY.symm hj;clear gI;intro w' jo;refine⟨λvv w=>∃(j:Nat),j<c/\vv=[.b false,.i (d:Int),.i ((d+j:Nat):Int)]/\St W w L,
  mq 2 l.length,⟨0,by omega,rfl,jo⟩,?_⟩
 rintro b5 Rb NP w10 ⟨j,hj,e,gI⟩;cases e
 refine T.at ?_ gI;have e6:aa.wrap ((l.length:Int) -1)=(l.length:Int) -1:=aX (by omega);rw[e6];apply fZ<;>intro g2
 rotate_left
 ·exact fin (by omega)
 have jlt:d+j<l.length:=by omega
 have gx:=aj jlt;have Um:(l.drop d)[j]?=_:=(lC).trans gx;have hfx:=hf _ (cb jlt);have PX:=XJ j _ hj Um;generalize l[d+j]=x at gx Um hfx PX;refine iq ht ⟨by omega,by omega⟩ rfl λa ha=>?_;rw[ak];refine SX (j:=13) (v:=.i x.ao) ht ha gx rfl ?_;refine mg ?_;refine dJ (by decide) ?_;have hte:x.ao.tmod 2=x.ao%2:=dB hfx;rw[hte];apply db<;>intro g3
 ·have g3:x.ao%2=1:=by simpa using g3
  have P7:j+1<c:=by
   rcases PX.1 (aw g3) with h3|⟨h3,h4⟩
   ·exact h3
   ·omega
  rw[m9 (d+j) (by omega)];exact λw3 h3=>⟨⟨j+1,P7,rfl,h3⟩,dn (by omega)⟩
 ·have g3: ¬x.ao%2=1:=by simpa using g3
  exact fin (PX.2 (aq g3)).1.symm
end
def KP:∀(k:Nat)(m:aA)(l:List cx),l.length<=k->(eW aA.lO sY k m l).1.length=l.length
 |0,m,[],h=>rfl
 |0,m,x::l,h=>by simp at h
 |k+1,m,[],h=>rfl
 |k+1,m,x::l,h=>by
  obtain⟨o,m',r1,-⟩:=Hp sY k m (x::l) (by simp);obtain⟨c1,c2,-⟩:=tI sY (x::l) (by simp);rw[r1,au,iA,KP k m' _ (by rw[aR];omega),aR];omega
set_option maxHeartbeats 1000000 in
def J'{W:World}{L:LH}{K:VK}{sb:OA}{sc:Nat}{l:List TS}(G:qi W)(hr:np W [] wZ 6 sb l)(AV:Ve l)(h:T W L (K (.b true))):T W L (aK sb l.length sc K):=by
 have hmx:l.length<=maxLen:=AV.1;unfold maxLen at hmx;unfold aK;refine Qr G (sA (EU ?_));refine Jx hr AV λb hb=>?_;apply sA;cases b with
 |true=>exact h
 |false=>
 obtain⟨XQ,aa8⟩:=hb rfl;apply sB;refine Pa G λw=>?_;apply yj;obtain⟨II,hI⟩:∃II:LI,II=λvv w'=>∃(i:Nat)(S:VS)(H zC m J:aA),i<=l.length/\KI 600 S H zC (3* i)/\Md.bS H/\Md.bS zC/\vv=[.b false,.p (ah w),.l sb l.length sc,.i (l.length:Int),.i (i:Int)]/\St W w' (wd w ⟨S,H,m,J⟩::L):=⟨_,rfl⟩;obtain⟨μ1,TY⟩:∃μ1:LM,μ1=mq 4 l.length:=⟨_,rfl⟩;intro w' jo;refine⟨II,μ1,by rw[hI];exact⟨0,_,nZ,nZ,nZ,nZ,aE _,KI.Jw,od,od,rfl,jo⟩,?_⟩;intro b3 p2 jJ iX jV n1 n2 w2 hI2;rw[hI] at hI2;obtain⟨i,S,H,zC,m,J,hi,hk,hg,MV,e,gI⟩:=hI2;cases e
 refine T.at ?_ gI;clear jo gI;refine fZ (λg1=>?_) (λg1=>T.drop h);have cj:i<l.length:=by omega
 have e5:=m9 i;have RA:∀{S':VS} {qH u m' mf':aA},KI 600 S' qH u (3* i+3)->Md.bS qH->Md.bS u->T W (wd w ⟨S',qH,m',mf'⟩::L) (ct II μ1 [.b false,.p (ah w),.l sb l.length sc,.i (l.length:Int),.i (aa.wrap ((i:Int)+1))] [.b false,.p (ah w),.l sb l.length sc,.i (l.length:Int),.i (i:Int)] w2):=by
  intro S' qH u m' mf' a1 a2 a3;rw[e5];refine λw5 h5=>⟨?_,?_⟩
  ·rw[hI];exact⟨i+1,S',qH,u,m',mf',cj,a1,a2,a3,rfl,h5⟩
  ·rw[TY];show l.length-((i+1:Nat):Int).toNat<l.length-(i:Int).toNat;omega
 clear hI TY;have gx:=aj cj;generalize l[i]=x at gx;have hx:=aa8 x (cn gx);refine NN hr AV.1 gx λr1=>?_;have VF:∀{r2:Nat},T W (Sep.pt r1 (wZ x)::wd w ⟨S,H,m,J⟩::L) (aK.j1 K r1 (ah w) II false sb l.length sc (l.length:Int) (i:Int) μ1 w2 r2 true):=by
  intro r2;unfold aK.j1;apply ws;refine aeC (w:=w) G hx hk (by omega) hg MV λb S' m' mf' m2 mf2 hw GG abf he=>?_;apply ws;exact T.drop (RA (hw.ki hk) GG abf)
 apply ws;refine A2 (by omega) (λhro=>?_) (λhro A Q hq=>?_)
 ·apply ws;intros;refine db (λ_=>T.drop VF) (λ_=>?_);apply kL (by decide);exact T.drop VF
 obtain⟨o1,o2,o3,o4⟩:=yK x.b;have N4:∀B,oq W (B::A::Sep.pt r1 (wZ x)::wd w ⟨S,H,m,J⟩::L) (gV x.b).1 Q:=λB=>oq.two hq;have hqA:=hq;have HY:=tt hro;have Jq:=LS HY (E' x.b);obtain⟨q,Xv⟩:∃q,(gV x.b).1=q:=⟨_,rfl⟩;rw[Xv] at o1 o2 o3 o4 hqA HY Jq⊢;clear N4 hq;apply ws;intros;rename_i r2;refine db (λ_=>T.drop (T.drop VF)) (λg4=>?_);apply eO (by decide);apply ws;cases Lz:(q.op !=2) with
 |true=>exact T.drop (T.drop VF)
 |false=>
 have Lz:q.op=2:=by simpa using Lz
 clear VF g4;unfold aK.j1;apply eO rfl;refine OV (w:=w) λim _ _=>?_;have many:(bo H).ax.length<=96:=im.many;apply ws;refine A3 (w:=w) λp=>?_;refine xR (p:=p) λb1 c1=>?_;apply ws;refine T.drop (T.drop ?_);have aii:q.bQ.length<=511:=by omega
 have heg:kz q=true:=by
  unfold j0 at HY;have:nQ q=false:=by unfold nQ;rw[af (by omega),af (by omega)]
  rw[this,Bool.or_false,dh] at HY;exact HY.1
 have hew:vM x.b=true:=by
  unfold vM fW;rw[hro,Xv,dI];exact aw (by omega)
 have Ru:(bn H q).2=eW aA.lO sY q.bQ.length H q.bQ:=by
  unfold bn;rw[af (by rw[heg];decide),af (by omega),ai Lz]
 have iO:=td hg q;have Xs:=hk.vz;have after:∀{Z:LH} {K':VK},Md.bS (Cg 600 H S x.b).2.1->(∀S' qH u e f C N I O D Y,KI 600 S' qH u (3* i+3)->Md.bS qH->Md.bS u->
  ((e≠0/\qH=H/\f=[])\/(e=0/\f=(eW aA.lO sY q.bQ.length H q.bQ).1/\qH=(eW aA.lO sY q.bQ.length H q.bQ).2))->
  T W (own D 0 Y 16 []::own I 0 O 14 []::own C f.length N 1 (f.flatMap I1)::wd w ⟨S',qH,m,J⟩::Z) (K' (.tuple ⟨[.agg ⟨nX e C f.length N I 0 O D 0 Y⟩,.i 0]⟩)))->
  T W (wd w ⟨(Cg 600 H S x.b).1,(Cg 600 H S x.b).2.1,m,J⟩::Z) (iQ (bs (Cg 600 H S x.b).2.2) K'):=by
  intro Z K' MU hh;rcases wh (l:=x.b) hk (by omega) im hg (by omega) with⟨c1,c2⟩|⟨c1,c2,c3⟩|⟨c1,c2,S1,c3,c4,c5⟩|⟨c1,c2,S1,c3,c4,c5,c6,c7,c8⟩
  ·rw[hew] at c1;cases c1
  ·rw[c3];exact wk (e:=9) (by omega) λC N I O D Y=>hh _ _ zC 9 [] C N I O D Y (hk.mono (by omega)) hg MV (.inl ⟨by decide,rfl,rfl⟩)
  ·rw[c4];rw[Xv] at c5;exact wk (e:=8) (by omega) λC N I O D Y=>hh _ _ _ 8 [] C N I O D Y (.inr c5) hg iO (.inl ⟨by decide,rfl,rfl⟩)
  ·rw[c4,c7];rw[Xv] at c5 c8⊢;refine xh (λa h=>by cases h) (λa h=>by cases h) λC N I O D Y=>?_;unfold Ny;rw[ai c8];dsimp only;exact hh S1 _ _ 0 (bn H q).2.1 C N I O D Y (.inl ⟨c5,rfl⟩) iO iO (.inr ⟨rfl,by rw[Ru],by rw[Ru]⟩)
 have tail:∀{r:Nat} {S':VS} {qH u:aA} {e:Int} {f:List Int} {C I D:OA} {N O Y:Nat},KI 600 S' qH u (3* i+3)->Md.bS qH->Md.bS u->
  ((e≠0/\qH=H/\f=[])\/(e=0/\f=(eW aA.lO sY q.bQ.length H q.bQ).1/\qH=(eW aA.lO sY q.bQ.length H q.bQ).2))->
  T W (Sep.pt r (nX e C f.length N I 0 O D 0 Y)::own D 0 Y 16 []::own I 0 O 14 []::own C f.length N 1 (f.flatMap I1)::wd w ⟨S',qH,m,J⟩::Sep.pt r2 (fU q Q)::A::Sep.pt r1 (wZ x)::L)
    (lP ⟨w,0,none⟩ λp6=>ff p6 (xP λp7=>fh p7 (xL λvc rA u6=>br ((0:Int)!=0)
     (aK.j2 K r II false (ah w) sb l.length sc (l.length:Int) (i:Int) μ1 w2 r2 rA (bo H).ax.length true)
     (lI (ad r 0) λn7=>br (n7 !=0) (aK.j2 K r II false (ah w) sb l.length sc (l.length:Int) (i:Int) μ1 w2 r2 rA (bo H).ax.length ((rA:Int)!=((bo H).ax.length:Int)))
      (aK.j2 K r II false (ah w) sb l.length sc (l.length:Int) (i:Int) μ1 w2 r2 rA (bo H).ax.length false))))):=by
  intro r S' qH u e f C I D N O Y a1 a2 a3 a4;refine OV (w:=w) λFT _ _=>?_;have aid:(bo qH).ax.length<=96:=FT.many;refine A3 (w:=w) λp=>?_;refine xR (p:=p) λb2 c2=>?_;apply ws;refine T.drop (T.drop ?_);apply eO rfl;apply ws;rcases a4 with⟨he,rfl,rfl⟩|⟨rfl,h1,h2⟩
  ·apply kL (by simpa using he);have e0:(((bo qH).ax.length:Int)!=((bo qH).ax.length:Int))=false:=by simp
   rw[e0];unfold aK.j2;apply ws;apply kL (by simpa using he);exact T.sub (RA (m':=m) (mf':=J) a1 a2 a3) (by exact pX)
  have ado:(bo qH).ax.length=(bo H).ax.length+fO f:=by
   rw[h1,h2];exact Ch sY _ H q.bQ
  have hlen:f.length=q.bQ.length:=by rw[h1];exact KP _ H q.bQ (aF _)
  have hz:fO f<=511:=by have:fO f<=f.length:=List.countP_le_length;omega
  apply eO rfl;unfold aK.j2;apply eO rfl;apply ws;apply eO rfl;apply ws;refine eO (by rw[hlen];simp) ?_;apply ws;apply UD (by omega);apply ws;have e1:((((bo qH).ax.length:Nat):Int)!=aa.wrap (((bo H).ax.length:Int)+(fO f:Int)))=false:=by
   rw[aX (by omega),ado];simp
  rw[e1];unfold aK.j3;apply eO rfl;apply ws;refine qv (b:=C) (n:=f.length) (c:=N) (xs:=f.flatMap I1) (e:=1) λafC _=>?_;apply RW (R:=A::Sep.pt r1 (wZ x)::L) (R2:=own C f.length N 1 (f.flatMap I1)::wd w ⟨S',qH,m,J⟩::Sep.pt r2 (fU q Q)::A::Sep.pt r1 (wZ x)::L) (hqA _).bQ (np.own AO rfl) h1 (aF _) hlen (by omega) afC Jq.2;apply ws;exact T.sub (RA (m':=m) (mf':=J) a1 a2 a3) (by exact pX)
 refine T.pl [3] ?_;refine YY λz E hf k1 k2=>?_;show T W (A1 w z _ (Sep.pt r2 (fU q Q)::A::Sep.pt r1 (wZ x)::(L++E))) _;apply ws;have lO:∀{Z:LH} {F:BA->WK},(Md.bS (Cg 600 H S x.b).2.1->T W (wd w ⟨(Cg 600 H S x.b).1,(Cg 600 H S x.b).2.1,m,J⟩::Z) (F (bs (Cg 600 H S x.b).2.2)))->T W (A1 w z ⟨S,H,m,J⟩ (Z++E)) (gS (ah z.s) (bs x.b) (xS F)):=by
  intro Z F hh;refine KN G (n:=600) (s:=z.s) hg (Xs.vok (by omega)) (λGG=>Xs.SD (by decide) (by decide) (by omega) GG hg) (by decide) (by decide) (by omega) λMU _=>?_;apply wc;exact YZ (x:=⟨(Cg 600 H S x.b).1,(Cg 600 H S x.b).2.1,m,J⟩) hf k1 k2 (hh MU)
 refine Nf ?_ ?_
 ·refine lO (Z:=Sep.pt r2 (fU q Q)::A::Sep.pt r1 (wZ x)::L) λMU=>?_;refine Nf ?_ ?_
  ·refine after MU λS' qH u e f C N I O D Y f1 f2 f3 f4=>?_;apply ws;intros;exact tail f1 f2 f3 f4
  ·apply ws;intros;rename_i r4;refine T.pl [1] ?_;refine after (Z:=Sep.pt r4 Ab::Sep.pt r2 (fU q Q)::A::Sep.pt r1 (wZ x)::L) MU λS' qH u e f C N I O D Y f1 f2 f3 f4=>?_;apply ws;exact T.pl [4] (tail f1 f2 f3 f4)
 ·apply ws;intros;rename_i r5;refine T.pl (M:=A1 w z ⟨S,H,m,J⟩ ((Sep.pt r5 Ab::Sep.pt r2 (fU q Q)::A::Sep.pt r1 (wZ x)::L)++E)) [1,1,1,1,1] ?_;refine lO λMU=>?_;refine after MU λS' qH u e f C N I O D Y f1 f2 f3 f4=>?_;apply ws;exact T.pl [4] (tail f1 f2 f3 f4)
end Go.Up
namespace Go.Proofs.YtibneekkkdnmgaaGreatDoor
open Go.Den Go.Prog
def e36:aG P 36 (U [.l,.l] c9):=ub [(2,[(4,vb),(5,vi)]),(4,[(4,vb),(5,vi),(6,vi)]),(9,[(4,vb),(5,vi),(6,vi),(7,vl),(8,vi),(38,vl),(39,vi),(40,vi)])] (t1 e35) Tryz.func36
end Go.Proofs.YtibneekkkdnmgaaGreatDoor
namespace Go.Proofs.YtibneekkkdnmgaaGreatDoor
open Go.Sep Go.Den Go.RowKit Go.Prog Go.Up
def e10:aG P 10 (U [.l] aK):=ub [(7,[(2,vb),(3,vp),(17,vl),(18,vi),(19,vi)])] (tk e14 (tk e15 (tk e16 (tk e17 (tk e20 (tk e22 (tk e27 (tk e33 (tk e34 (tk e35 (tk e36 t0))))))))))) Tryz.func10
def G7{W:World}{b0:OA}{n0 c0:Nat}{xs0:LV}(G:qi W)(T3:Ro W b0 n0 6 xs0)(he0:MG tsK n0 xs0)(hm0:n0<=maxLen):
 U [.l] aK [.l b0 n0 c0] (λv w'=>v=.bool true/\Below W.heap.size W w') W:=by
 obtain⟨l0,rfl,h0,k0⟩:=tss T3 he0 hm0;exact J' (K:=λv w'=>v=.bool true/\Below W.heap.size W w') (W:=W) (L:=[]) G h0 k0 (λw hs=>⟨rfl,hs.1⟩) W (St.start W)
end Go.Proofs.YtibneekkkdnmgaaGreatDoor
