/- Part of the proof: see the last text. -/
import Derived.Test.YtibneekkkdnmgaaGreatDoorPA
import Derived.Test.YtibneekkkdnmgaaGreatDoorPC
import Derived.Test.YtibneekkkdnmgaaGreatDoorPB
set_option linter.all false
set_option maxRecDepth 100000
set_option synthInstance.maxSize 100000
open Bool renaming eq_iff_iff→bV,true_and→dV,false_and→fD,not_false→NI,and_eq_true→dW,false_eq_true→cB,noConfusion→q8,false_ne_true→cG
open Decidable renaming not_not→bh
open Go.IntKind renaming i64→aa
open Int renaming toNat_natCast→ao,eq_ofNat_of_zero_le→bm,fdiv_eq_ediv_of_nonneg→F3,le_refl→sH,tmod_eq_emod_of_nonneg→dN
open List renaming Sublist→ba,perm_append_comm→bu,Perm→bU,getElem?_append_right→iz,getElem?_eq_getElem→aj,length_take→aD,take_length→aR,length_drop→aS,take_add_one→a8,length_map→bP,getElem_mem→bR,map_append→cR,length_reverse→jb,getElem?_of_mem→qj,append_nil→bI,take_of_length_le→bM,filter_cons_of_pos→kT,filter_cons_of_neg→kU,mem_of_getElem?→cb,length_append→au,append_assoc→aH,length_cons→bt,nil_append→de,getElem?_map→eK,flatMap_append→fQ,flatMap_cons→iB,getElem?_eq_some_iff→aw,map_congr_left→dS,range→pr,mem_map→cw,find?_eq_none→mW,take_zero→nG,pairwise_iff_getElem→pT,ext_getElem?→qk,getElem?_take→rV,length_nil→cH,drop_eq_getElem_cons→gO,getElem?_cons_succ→bO,drop_zero→iQ,take_append_drop→dj,drop_of_length_le→ga,drop_drop→jz,take_take→xz,set_set→jk,set_cons_succ→mV,getElem?_append_left→dB,perm_middle→iy,mem_append→dF,mem_or_eq_of_mem_set→eY,mem_cons→jB,getElem?_drop→rW
open Nat renaming zero_add→aC,le_refl→aG,zero_le→aE,pow_le_pow_right→gv,sub_self→lu,le_trans→y9,lt_of_le_of_lt→F2,mul_le_mul_right→ie,add_mul→lO,mod_eq_of_lt→fw,reduceAdd→ae,reduceMul→af,le_of_ble_eq_true→aJ,add_zero→dZ,mul_one→lN,min_eq_left→qG
open Option renaming getD_some→dx,isSome_some→dy,isSome_none→eQ,getD_none→gw,map→ya,some→bE,map_some→eW
namespace Go.Prog
open Go.Den
def kq(c:LV)(K:VK):WK:=mk c λa=>lI (ad a 0) λd=>br (decide (d>=1)) (lI (ad a 0) λe=>K (.b (decide (e<=3)))) (K (.b false))
def dP.j1(K:VK)(a:Bool):WK:=K (.b a)
def dP.j2(K:VK)(a:Bool):WK:=K (.b a)
def dP(c:LV)(K:VK):WK:=mk c λa=>lI (ad a 0) λd=>br (d==1) (lL (ad a 1) λm e n=>br (decide ((e:Int)>0)) (lL (ad a 1) λo f p=>dP.j1 K (decide ((f:Int)<9))) (dP.j1 K false)) (lI (ad a 0) λg=>br (g==2) (lL (ad a 2) λq h r=>br (decide ((h:Int)>0)) (lL (ad a 2) λs i t=>dP.j2 K (decide ((i:Int)<9))) (dP.j2 K false)) (lI (ad a 0) λj=>br (j==3) (lI (ad a 3) λk=>br (decide (k>=0)) (lI (ad a 3) λl=>K (.b (decide (l<=1099511627776)))) (K (.b false))) (K (.b false))))
def bg.j2(K:VK)(a:Bool):WK:=K (.b a)
def bg.j6(K:VK)(a:Nat)(c:Bool):WK:=br c (lT (ad a 4) λd=>br d (K (.b true)) (lT (ad a 5) λe=>K (.b e))) (K (.b false))
def bg.j5(K:VK)(a:Nat)(b:Bool):WK:=br b (lI (ad a 7) λc=>bg.j6 K a (decide (c<17))) (bg.j6 K a false)
def bg.j4(K:VK)(a:Nat)(b:Bool):WK:=br b (lI (ad a 7) λc=>bg.j5 K a (decide (c>0))) (bg.j5 K a false)
def bg.j3(K:VK)(a:Nat)(b:Bool):WK:=br b (lI (ad a 3) λc=>bg.j4 K a (decide (c>=0))) (bg.j4 K a false)
def bg.j1(K:VK)(a:Nat)(c:Bool):WK:=br c (lL (ad a 4) λi d j=>br (decide ((d:Int)>0)) (lL (ad a 4) λk e l=>bg.j2 K (decide ((e:Int)<17))) (bg.j2 K false)) (aI (ad a 5) 8 λf=>mk DH λb=>bw 8 (ad b 0) f (lI (ad a 0) λg=>br (g==6) (lI (ad b 2) λh=>bg.j3 K b (decide (h>=0))) (bg.j3 K b false)))
def bg(b:LV)(K:VK):WK:=mk b λa=>lI (ad a 0) λc=>br (c==4) (bg.j1 K a true) (lI (ad a 0) λd=>bg.j1 K a (d==5))
def cY.j3(K:VK)(a:Nat)(c:Bool):WK:=br c (lI (ad a 12) λd=>br (decide (d>=0)) (lI (ad a 12) λe=>K (.b (decide (e<65536)))) (K (.b false))) (K (.b false))
def cY.j2(K:VK)(a:Nat)(b:Bool):WK:=br b (lI (ad a 11) λc=>cY.j3 K a (decide (c<65536))) (cY.j3 K a false)
def cY.j1(K:VK)(a:Nat)(b:Bool):WK:=br b (lI (ad a 11) λc=>cY.j2 K a (decide (c>=0))) (cY.j2 K a false)
def cY(b:LV)(K:VK):WK:=mk b λa=>lI (ad a 10) λc=>br (decide (c>=0)) (lI (ad a 10) λd=>cY.j1 K a (decide (d<4294967296))) (cY.j1 K a false)
def bT.j5(K:VK)(a:Nat)(c:Bool):WK:=br c (lI (ad a 13) λd=>br (decide (d>=0)) (lI (ad a 13) λe=>K (.b (decide (e<65536)))) (K (.b false))) (K (.b false))
def bT.j4(K:VK)(a:Nat)(b:Bool):WK:=br b (lI (ad a 12) λc=>bT.j5 K a (decide (c<65536))) (bT.j5 K a false)
def bT.j3(K:VK)(a:Nat)(b:Bool):WK:=br b (lI (ad a 12) λc=>bT.j4 K a (decide (c>=0))) (bT.j4 K a false)
def bT.j2(K:VK)(a:Nat)(b:Bool):WK:=br b (lI (ad a 11) λc=>bT.j3 K a (decide (c<4294967296))) (bT.j3 K a false)
def bT.j1(K:VK)(a:Nat)(b:Bool):WK:=br b (lI (ad a 11) λc=>bT.j2 K a (decide (c>=0))) (bT.j2 K a false)
def bT(b:LV)(K:VK):WK:=mk b λa=>lI (ad a 10) λc=>br (decide (c>=0)) (lI (ad a 10) λd=>bT.j1 K a (decide (d<4294967296))) (bT.j1 K a false)
def gF.j1(K:VK)(w:Nat)(D:Bool):WK:=br D (K (.b false)) (lL (ad w 1) λE x F=>(lp [.p (some (ad w 0)),.b false,.l E x F,.i (x:Int),.i 0] λu y=>∀a e f g o h c s,u [.p (some a),.b e,.l f g o,.i h,.i c] s->(br (decide (c<h)) (iX f g c 14 λG=>aI G 14 λH=>mk dR λz=>bw 14 (ad z 0) H (lI a λI=>br (I==1) (aI (ad z 0) 14 λJ=>cY J (xB λM=>br (!M) (K (.b false)) ((ct u y [.p (some a),.b e,.l f g o,.i h,.i (aa.wrap (c+1))] [.p (some a),.b e,.l f g o,.i h,.i c] s)))) ((ct u y [.p (some a),.b e,.l f g o,.i h,.i (aa.wrap (c+1))] [.p (some a),.b e,.l f g o,.i h,.i c] s)))) (lL (a.add 2) λO A P=>(lp [.p (some a),.b e,.l O A P,.i (A:Int),.i 0] λv B=>∀j q k m r n d t,v [.p (some j),.b q,.l k m r,.i n,.i d] t->(br (decide (d<n)) (iX k m d 16 λQ=>aI Q 16 λR=>mk iw λC=>bw 16 (ad C 0) R (lI j λS=>br (S==2) (aI (ad C 0) 16 λT=>bT T (xB λV=>br (!V) (K (.b false)) ((ct v B [.p (some j),.b q,.l k m r,.i n,.i (aa.wrap (d+1))] [.p (some j),.b q,.l k m r,.i n,.i d] t)))) ((ct v B [.p (some j),.b q,.l k m r,.i n,.i (aa.wrap (d+1))] [.p (some j),.b q,.l k m r,.i n,.i d] t)))) (K (.b true))) t))) s))
def gF(b:LV)(K:VK):WK:=mk b λa=>aI (ad a 0) 13 λc=>dP c (xB λd=>br (!d) (aI (ad a 0) 13 λe=>bg e (xB λf=>gF.j1 K a (!f))) (gF.j1 K a false))
def gU(n:OA)(K:VK):WK:=tick (nn n λm=>lL m λj k o=>nn n λg=>lL (g.add 1) λe f h=>nn n λc=>lI (c.add 2) λa=>nn n λd=>lI (d.add 3) λb=>both (ch True (mk [] λq=>kp (d.add 3) [.i b] (kp (c.add 2) [.i a] (kp (g.add 1) [.l e f h] (kp m [.l j k o] (both (gY 14 112 dR (ah q) 0 0 j k λr s t=>kp (d.add 3) [.i b] (kp (c.add 2) [.i a] (kp (g.add 1) [.l e f h] (ch True (mk [] λu=>kp (d.add 3) [.i b] (kp (c.add 2) [.i a] (kp (g.add 1) [.l e f h] (gY 33 264 cF (ah u) 0 0 e f λv w x=>kp (d.add 3) [.i b] (kp (c.add 2) [.i a] (ch (1=1/\(1=1/\(1=1/\(1=1/\True)))) (mk [.l r s t,.l v w x,.i a,.i b] λy=>kp (d.add 3) [.i b] (kp (c.add 2) [.i a] (K (.p (some (ad y 0)))))))))))))))) (ch True (mk [] λz=>kp (d.add 3) [.i b] (kp (c.add 2) [.i a] (kp (g.add 1) [.l e f h] (kp m [.l j k o] (gY 14 112 dR (ah q) 0 0 j k λA B C=>kp (d.add 3) [.i b] (kp (c.add 2) [.i a] (kp (g.add 1) [.l e f h] (gY 33 264 cF (ah z) 0 0 e f λD E F=>kp (d.add 3) [.i b] (kp (c.add 2) [.i a] (ch (1=1/\(1=1/\(1=1/\(1=1/\True)))) (mk [.l A B C,.l D E F,.i a,.i b] λG=>kp (d.add 3) [.i b] (kp (c.add 2) [.i a] (K (.p (some (ad G 0))))))))))))))))))))))) (ch True (mk [] λH=>kp (d.add 3) [.i b] (kp (c.add 2) [.i a] (kp (g.add 1) [.l e f h] (kp m [.l j k o] (ch True (mk [] λI=>kp (d.add 3) [.i b] (kp (c.add 2) [.i a] (kp (g.add 1) [.l e f h] (kp m [.l j k o] (gY 14 112 dR (ah I) 0 0 j k λJ M O=>kp (d.add 3) [.i b] (kp (c.add 2) [.i a] (kp (g.add 1) [.l e f h] (gY 33 264 cF (ah H) 0 0 e f λP Q R=>kp (d.add 3) [.i b] (kp (c.add 2) [.i a] (ch (1=1/\(1=1/\(1=1/\(1=1/\True)))) (mk [.l J M O,.l P Q R,.i a,.i b] λS=>kp (d.add 3) [.i b] (kp (c.add 2) [.i a] (K (.p (some (ad S 0)))))))))))))))))))))))
def cK.j1(K:VK)(j:OA)(a:Int)(f:LI)(b:OA)(c d:Nat)(e:Int)(g:LM)(h:World)(k:Bool):WK:=br k (nn j λm=>lL (m.add 1) λn o q=>iX n o a 33 λp=>st (p.add 32) (.i 4) ((ct f g [.l b c d,.i e,.i (aa.wrap (a+1))] [.l b c d,.i e,.i a] h))) ((ct f g [.l b c d,.i e,.i (aa.wrap (a+1))] [.l b c d,.i e,.i a] h))
def cK(b:OA)(K:VK):WK:=nn b λn=>lL (n.add 1) λo m p=>(lp [.l o m p,.i (m:Int),.i 0] λh k=>∀c d j e a f,h [.l c d j,.i e,.i a] f->(br (decide (a<e)) (iX c d a 33 λq=>aI q 33 λr=>mk cF λg=>bw 33 (ad g 0) r (tick (lI (ad g 32) λs=>br (s==1) (lI (ad g 26) λt=>br (decide (t>0)) (lI (ad g 31) λu=>lI (ad g 26) λv=>nn b λw=>lI (w.add 2) λx=>cK.j1 K b a h c d j e k f (decide ((aa.wrap (u+v))<=x))) (cK.j1 K b a h c d j e k f false)) (cK.j1 K b a h c d j e k f false)))) (K (.tuple ⟨[]⟩))) f)
def kj(a:OA)(b:Int)(K:VK):WK:=nn a λc=>lI (c.add 2) λd=>br (decide (b>d)) (br (decide (b<=1099511627776)) (nn a λe=>st (e.add 2) (.i b) (cK a (x0 (K (.tuple ⟨[]⟩))))) (cK a (x0 (K (.tuple ⟨[]⟩))))) (cK a (x0 (K (.tuple ⟨[]⟩))))
def lq(t:OA)(q u:Nat)(K:VK):WK:=(lp [.l none 0 0,.l none 0 0,.l t q u,.i (q:Int),.i 0] λr v=>∀j k m c d e f g n h a o,r [.l j k m,.l c d e,.l f g n,.i h,.i a] o->(br (decide (a<h)) (iX f g a 14 λw=>aI w 14 λx=>mk dR λs=>bw 14 (ad s 0) x (aI (ad s 0) 14 λp=>ch (1=1/\(p.length=14/\True)) (ch ((([.b true]:LV)++(p++(iw:LV))).length=31/\True) (mk ((([.b true]:LV)++(p++(iw:LV)))++[]) λy=>gY 31 248 Ao c d e (ah y) 1 λz A B=>(ct r v [.l j k m,.l z A B,.l f g n,.i h,.i (aa.wrap (a+1))] [.l j k m,.l c d e,.l f g n,.i h,.i a] o))))) (K (.l c d e))) o)
def kI(s:OA)(p t:Nat)(K:VK):WK:=(lp [.l none 0 0,.l none 0 0,.l s p t,.i (p:Int),.i 0] λq u=>∀h j k b c d e f m g a n,q [.l h j k,.l b c d,.l e f m,.i g,.i a] n->(br (decide (a<g)) (iX e f a 16 λv=>aI v 16 λw=>mk iw λr=>bw 16 (ad r 0) w (aI (ad r 0) 16 λo=>ch (o.length=16/\True) (ch (((NL:LV)++(o++[])).length=31/\True) (mk (((NL:LV)++(o++[]))++[]) λx=>gY 31 248 Ao b c d (ah x) 1 λy z A=>(ct q u [.l h j k,.l y z A,.l e f m,.i g,.i (aa.wrap (a+1))] [.l h j k,.l b c d,.l e f m,.i g,.i a] n))))) (K (.l b c d))) n)
def mL(c:LV)(K:VK):WK:=mk c λa=>lT (ad a 0) λd=>br d (lI (ad a 13) λe=>ch ((2:Int)≠0) (K (.b ((e.tmod (2:Int))!=0)))) (lI (ad a 28) λf=>ch ((2:Int)≠0) (K (.b ((f.tmod (2:Int))!=0))))
def fL(c:LV)(a:Int)(K:VK):WK:=mk c λb=>br (decide (a>=64)) (lU (ad b 0) λd=>ch ((0:Int)<=(IntKind.u64.wrap (aa.wrap (a-64)))) (ch ((2:Int)≠0) (K (.i (aa.wrap ((shr .u64 d (IntKind.u64.wrap (aa.wrap (a-64)))).tmod (2:Int))))))) (lU (ad b 1) λe=>ch ((0:Int)<=(IntKind.u64.wrap a)) (ch ((2:Int)≠0) (K (.i (aa.wrap ((shr .u64 e (IntKind.u64.wrap a)).tmod (2:Int)))))))
def jX(I:LV)(K:VK):WK:=mk I λJ=>ch (1=1/\True) (mk [.i 0] λM=>(lp [.p (some (ad J 0)),.s .empty,.l (ah M) 1 1,.i 127] λy D=>∀g h j a k d t,y [.p (some g),.s h,.l j a k,.i d] t->(br (decide (d>=0)) (aI g 2 λO=>fL O d (xI .i64 λP=>(lp [.p (some g),.s h,.l j a k,.i d,.i P,.i (aa.wrap ((a:Int) -1))] λE Q=>∀m n b c u o e f z,E [.p (some m),.s n,.l b c u,.i o,.i e,.i f] z->(br (decide (f>=0)) (iX b c f 1 λR=>lI R λF=>ch ((10:Int)≠0) (iX b c f 1 λS=>st S (.i ((aa.wrap ((aa.wrap (2* F))+e)).tmod (10:Int))) (ch ((10:Int)≠0) ((ct E Q [.p (some m),.s n,.l b c u,.i o,.i (aa.wrap ((aa.wrap ((aa.wrap (2* F))+e)).tdiv (10:Int))),.i (aa.wrap (f-1))] [.p (some m),.s n,.l b c u,.i o,.i e,.i f] z))))) (br (decide (e>0)) (ch (1=1/\True) (mk [.i e] λT=>gY 1 8 [.i 0] (ah T) 1 1 b c λV W X=>(ct y D [.p (some m),.s n,.l V W X,.i (aa.wrap (o-1))] [.p (some g),.s h,.l j a k,.i d] t))) ((ct y D [.p (some m),.s n,.l b c u,.i (aa.wrap (o-1))] [.p (some g),.s h,.l j a k,.i d] t)))) z))) ((lp [.s h,.s .empty,.l j a k,.i (a:Int),.i 0] λG Y=>∀A q v w B x r C,G [.s A,.s q,.l v w B,.i x,.i r] C->(br (decide (r<x)) (iX v w r 1 λZ=>lI Z λn9=>ch (1=1/\True) (mk [.int .u8 (IntKind.u8.wrap (aa.wrap (48+n9)))] λr4=>TT (ah r4) 1 λH=>ch (((q.size+H.size:Nat):Int)<=9223372036854775807) ((ct G Y [.s A,.s (q++H),.l v w B,.i x,.i (aa.wrap (r+1))] [.s A,.s q,.l v w B,.i x,.i r] C)))) (K (.s q))) C))) t))
def mE(c a:Int)(K:VK):WK:=ch (a≠0) (ch ((2:Int)≠0) (K (.b (((aa.wrap (c.tdiv a)).tmod (2:Int))==1))))
def bq.j4(K:VK)(a:Nat)(b:Bool):WK:=br b (K (.i 8)) (lI (ad a 11) λc=>br (decide (c<=0)) (K (.i 9)) (lI (ad a 11) λd=>br (decide (d>=65536)) (K (.i 9)) (K (.i 0))))
def bq.j3(K:VK)(a:Nat)(b:Bool):WK:=br b (K (.i 7)) (lI (ad a 10) λc=>br (decide (c<=0)) (bq.j4 K a true) (lI (ad a 10) λd=>bq.j4 K a (decide (d>=4294967296))))
def bq.j6(K:VK)(a b:Nat)(c:Bool):WK:=br c (bq.j3 K a true) (aI (ad a 8) 2 λd=>aI (ad b 0) 2 λe=>rl [.u 0,.u 0] d e λf=>br (!f) (bq.j3 K a true) (lI (ad a 13) λg=>bq.j3 K a (g !=0)))
def bq.j5(K:VK)(a b:Nat)(c:Bool):WK:=br c (bq.j6 K a b true) (aI (ad a 6) 2 λd=>aI (ad b 0) 2 λe=>rl [.u 0,.u 0] d e λf=>bq.j6 K a b (!f))
def bq.j2(K:VK)(a b:Nat)(c:Bool):WK:=br c (K (.i 6)) (aI (ad a 2) 2 λd=>aI (ad b 0) 2 λe=>rl [.u 0,.u 0] d e λf=>br (!f) (bq.j5 K a b true) (aI (ad a 4) 2 λg=>aI (ad b 0) 2 λh=>rl [.u 0,.u 0] g h λj=>bq.j5 K a b (!j)))
def bq.j1(K:VK)(a b:Nat)(c:Bool):WK:=br c (K (.i 3)) (aI (ad a 0) 2 λd=>aI (ad b 0) 2 λe=>rl [.u 0,.u 0] d e λf=>br f (K (.i 4)) (aI (ad a 0) 2 λg=>jX g (xS λh=>br (py h (⟨#[51,52,48,50,56,50,51,54,54,57,50,48,57,51,56,52,54,51,52,54,51,51,55,52,54,48,55,52,51,49,55,54,56,50,49,49,52,53,53]⟩:BA)) (K (.i 5)) (lI (ad a 12) λj=>mE j 2 (xB λk=>br k (lI (ad a 12) λl=>mE l 4 (xB λm=>bq.j2 K a b m)) (bq.j2 K a b false))))))
def bq(c:LV)(K:VK):WK:=mk c λa=>ch True (mk [.u 0,.u 0] λb=>ch (2=2) (jC (ad b 0) [.u 0,.u 0] (lI (ad a 12) λd=>br (decide (d<0)) (bq.j1 K a b true) (lI (ad a 12) λe=>bq.j1 K a b (decide (e>7))))))
def fj(n:OA)(o:LV)(K:VK):WK:=mk o λq=>nn n λr=>lL r λs j t=>(lp [.p (some (ad q 0)),.i 0,.l s j t,.i (j:Int),.i 0] λk v=>∀b f c d g e a h,k [.p (some b),.i f,.l c d g,.i e,.i a] h->(br (decide (a<e)) (iX c d a 14 λw=>aI w 14 λx=>mk dR λm=>bw 14 (ad m 0) x (aI (ad m 0) 2 λy=>aI b 2 λz=>rl [.u 0,.u 0] y z λA=>br A (K (.i a)) ((ct k v [.p (some b),.i f,.l c d g,.i e,.i (aa.wrap (a+1))] [.p (some b),.i f,.l c d g,.i e,.i a] h)))) (K (.i (-1)))) h)
def gR.j1(K:VK)(a b:Nat)(c:Bool):WK:=br c (lI (ad a 12) λd=>ch ((2:Int)≠0) (ch ((4:Int)≠0) (lI (ad b 12) λe=>ch ((2:Int)≠0) (ch ((4:Int)≠0) (br (((aa.wrap (d.tdiv (2:Int))).tmod (4:Int))==((aa.wrap (e.tdiv (2:Int))).tmod (4:Int))) (K (.i 10)) (K (.i 11))))))) (K (.i 11))
def gR(c d:LV)(K:VK):WK:=mk c λa=>mk d λb=>lI (ad a 10) λe=>lI (ad b 10) λf=>br (e==f) (lI (ad a 11) λg=>lI (ad b 11) λh=>gR.j1 K a b (g==h)) (gR.j1 K a b false)
def km(a:OA)(n:LV)(K:VK):WK:=mk n λb=>aI (ad b 0) 14 λo=>bq o (xI .i64 λc=>br (c !=0) (K (.i c)) (aI (ad b 0) 2 λp=>fj a p (xI .i64 λd=>br (decide (d>=0)) (tick (aI (ad b 0) 14 λq=>nn a λe=>lL e λf g r=>iX f g d 14 λs=>aI s 14 λt=>gR q t (xI .i64 λu=>kp e [.l f g r] (K (.i u))))) (nn a λv=>lL v λJ w M=>br (decide ((w:Int)>=32)) (K (.i 35)) (nn a λx=>lI (x.add 3) λy=>nn a λz=>st (z.add 3) (.i (aa.wrap (y+1))) (nn a λA=>lI (A.add 3) λB=>st (ad b 13) (.i B) (lI (ad b 12) λC=>ch ((2:Int)≠0) (st (ad b 12) (.i (aa.wrap ((aa.wrap (C.tdiv (2:Int)))* 2))) (tick (nn a λh=>lL h λj k m=>aI (ad b 0) 14 λD=>F0 14 D λE=>kp h [.l j k m] (gY 14 112 dR j k m (ah E) 1 λF G H=>nn a λI=>st I (.l F G H) (K (.i 0)))))))))))))
def bS(c:LV)(a:Int)(K:VK):WK:=mk c λd=>lI (ad d 13) λe=>ch (a≠0) (ch ((2:Int)≠0) (K (.b (((aa.wrap (e.tdiv a)).tmod (2:Int))==1))))
def gG(c:LV)(K:VK):WK:=mk c λa=>aI (ad a 0) 16 λd=>bS d 4 (xB λe=>br e (K (.b true)) (aI (ad a 0) 16 λf=>bS f 8 (xB λg=>K (.b g))))
def bJ.j2(K:VK)(a:Nat)(c:Bool):WK:=br c (K (.b false)) (lI (ad a 13) λd=>br (decide (d<64)) (K (.b true)) (aI (ad a 0) 16 λe=>bS e 2 (xB λf=>K (.b f))))
def bJ.j1(K:VK)(a:Nat)(c:Bool):WK:=br c (K (.b false)) (aI (ad a 0) 16 λd=>gG d (xB λe=>br e (lI (ad a 13) λf=>bJ.j2 K a (decide (f>=16))) (bJ.j2 K a false)))
def bJ.j4(K:VK)(a:Nat)(b:Bool):WK:=br b (bJ.j1 K a true) (aI (ad a 0) 16 λc=>bS c 4 (xB λd=>br d (aI (ad a 0) 16 λe=>bS e 8 (xB λf=>bJ.j1 K a f)) (bJ.j1 K a false)))
def bJ.j3(K:VK)(a:Nat)(b:Bool):WK:=br b (bJ.j4 K a true) (aI (ad a 0) 16 λc=>bS c 2 (xB λd=>br d (aI (ad a 0) 16 λe=>bS e 8 (xB λf=>bJ.j4 K a f)) (bJ.j4 K a false)))
def bJ(b:LV)(K:VK):WK:=mk b λa=>aI (ad a 0) 16 λc=>bS c 2 (xB λd=>br d (aI (ad a 0) 16 λe=>bS e 4 (xB λf=>bJ.j3 K a f)) (bJ.j3 K a false))
def aV.j5(K:VK)(a:Nat)(b:Int)(c:Bool):WK:=br c (K (.i 8)) (lI (ad a 12) λd=>br (decide (d<b)) (K (.i 9)) (lI (ad a 12) λe=>br (decide (e>=65536)) (K (.i 9)) (K (.i 0))))
def aV.j4(K:VK)(a:Nat)(b:Int):WK:=lI (ad a 11) λc=>br (decide (c<b)) (aV.j5 K a b true) (lI (ad a 11) λd=>aV.j5 K a b (decide (d>=4294967296)))
def aV.j3(K:VK)(a b:Nat)(c:Bool):WK:=br c (K (.i 17)) (aI (ad a 0) 16 λd=>gG d (xB λe=>br e (aI (ad a 8) 2 λf=>aI (ad b 0) 2 λg=>rl [.u 0,.u 0] f g λh=>br h (K (.i 16)) (aV.j4 K a 0)) (aI (ad a 2) 2 λj=>aI (ad b 0) 2 λk=>rl [.u 0,.u 0] j k λl=>br l (K (.i 12)) (aI (ad a 4) 2 λm=>aI (ad b 0) 2 λn=>rl [.u 0,.u 0] m n λo=>br o (K (.i 13)) (aI (ad a 2) 2 λp=>aI (ad a 4) 2 λq=>rl [.u 0,.u 0] p q λr=>br r (K (.i 14)) (aI (ad a 8) 2 λs=>aI (ad b 0) 2 λt=>rl [.u 0,.u 0] s t λv=>br (!v) (K (.i 15)) (aI (ad a 6) 2 λw=>aI (ad b 0) 2 λx=>rl [.u 0,.u 0] w x λy=>br y (aI (ad a 0) 16 λz=>bS z 16 (xB λA=>br (!A) (aI (ad a 0) 16 λB=>bS B 32 (xB λC=>br (!C) (K (.i 18)) (aV.j4 K a 1))) (aV.j4 K a 1))) (aV.j4 K a 1))))))))
def aV.j6(K:VK)(a b:Nat)(c:Bool):WK:=br c (aV.j3 K a b true) (lI (ad a 10) λd=>br (decide (d>0)) (aI (ad a 0) 16 λe=>bS e 2 (xB λf=>aV.j3 K a b (!f))) (aV.j3 K a b false))
def aV.j2(K:VK)(a b:Nat)(c:Bool):WK:=br c (K (.i 7)) (lI (ad a 10) λd=>br (decide (d<0)) (aV.j6 K a b true) (lI (ad a 10) λe=>aV.j6 K a b (decide (e>1073741824))))
def aV.j1(K:VK)(a b:Nat)(c:Bool):WK:=br c (K (.i 3)) (aI (ad a 0) 2 λd=>aI (ad b 0) 2 λe=>rl [.u 0,.u 0] d e λf=>br f (K (.i 4)) (aI (ad a 0) 2 λg=>jX g (xS λh=>br (py h (⟨#[51,52,48,50,56,50,51,54,54,57,50,48,57,51,56,52,54,51,52,54,51,51,55,52,54,48,55,52,51,49,55,54,56,50,49,49,52,53,53]⟩:BA)) (K (.i 5)) (aI (ad a 0) 16 λj=>bJ j (xB λk=>br (!k) (K (.i 6)) (lI (ad a 14) λl=>br (l !=0) (aV.j2 K a b true) (lI (ad a 15) λm=>aV.j2 K a b (m !=0))))))))
def aV(c:LV)(K:VK):WK:=mk c λa=>ch True (mk [.u 0,.u 0] λb=>ch (2=2) (jC (ad b 0) [.u 0,.u 0] (lI (ad a 13) λd=>br (decide (d<0)) (aV.j1 K a b true) (lI (ad a 13) λe=>aV.j1 K a b (decide (e>255))))))
def gS(n:OA)(o:LV)(K:VK):WK:=mk o λq=>nn n λr=>lL (r.add 1) λs j t=>(lp [.p (some (ad q 0)),.i 0,.l s j t,.i (j:Int),.i 0] λk v=>∀b f c d g e a h,k [.p (some b),.i f,.l c d g,.i e,.i a] h->(br (decide (a<e)) (iX c d a 33 λw=>aI w 33 λx=>mk cF λm=>bw 33 (ad m 0) x (aI (ad m 16) 2 λy=>aI b 2 λz=>rl [.u 0,.u 0] y z λA=>br A (K (.i a)) ((ct k v [.p (some b),.i f,.l c d g,.i e,.i (aa.wrap (a+1))] [.p (some b),.i f,.l c d g,.i e,.i a] h)))) (K (.i (-1)))) h)
def kP(c d:LV)(K:VK):WK:=mk c λa=>mk d λb=>lI (ad a 13) λe=>ch ((2:Int)≠0) (st (ad a 13) (.i (aa.wrap (e.tdiv (2:Int)))) (lI (ad b 13) λf=>ch ((2:Int)≠0) (st (ad b 13) (.i (aa.wrap (f.tdiv (2:Int)))) (aI (ad a 0) 16 λg=>aI (ad b 0) 16 λh=>rl iw g h λj=>br j (K (.i 10)) (K (.i 11))))))
def gH(k l:LV)(K:VK):WK:=mk k λm=>mk l λn=>(lp [.p (some (ad m 0)),.p (some (ad n 0)),.b false,.i 127] λg o=>∀d c e a f,g [.p (some d),.p (some c),.b e,.i a] f->(br (decide (a>=0)) (tick (aI d 2 λq=>aI c 2 λh=>fL q a (xI .i64 λr=>kp c h (fL h a (xI .i64 λs=>br (r !=s) (tick (aI d 2 λt=>aI c 2 λj=>fL t a (xI .i64 λu=>kp c j (fL j a (xI .i64 λv=>K (.b (decide (u<v)))))))) ((ct g o [.p (some d),.p (some c),.b e,.i (aa.wrap (a-1))] [.p (some d),.p (some c),.b e,.i a] f))))))) (K (.b false))) f)
def cL.j1(K:VK)(a:Nat)(c d e:Int)(f:Bool):WK:=br f (ch True (ch (2=2) (jC (ad a 0) [.u 0,.u 0] (aI (ad a 0) 2 λg=>K (.tuple ⟨[.agg ⟨g⟩,.b false]⟩))))) (ch (1=1/\(1=1/\True)) (ch (2=2) (jC (ad a 0) [.u e,.u (IntKind.u64.wrap (c+d))] (aI (ad a 0) 2 λh=>K (.tuple ⟨[.agg ⟨h⟩,.b true]⟩)))))
def cL(i j:LV)(K:VK):WK:=mk i λc=>mk j λg=>mk [.u 0,.u 0] λf=>lU (ad c 1) λd=>lU (ad g 1) λe=>lU (ad c 0) λa=>lU (ad g 0) λb=>lU (ad c 0) λh=>lU (ad c 1) λk=>br (decide ((IntKind.u64.wrap (d+e))<k)) (br (decide ((IntKind.u64.wrap (a+b))<h)) (cL.j1 K f d e (IntKind.u64.wrap ((IntKind.u64.wrap (a+b))+1)) true) (cL.j1 K f d e (IntKind.u64.wrap ((IntKind.u64.wrap (a+b))+1)) ((IntKind.u64.wrap ((IntKind.u64.wrap (a+b))+1))==0))) (cL.j1 K f d e (IntKind.u64.wrap (a+b)) (decide ((IntKind.u64.wrap (a+b))<h)))
def jq(c d:LV)(K:VK):WK:=mk c λe=>mk d λf=>mk [.u 0,.u 0] λa=>aI (ad e 0) 2 λg=>aI (ad f 0) 2 λh=>cL g h (x2 λi j=>(xA 2 λk=>(xB λn=>mk [.u 0,.u 0] λb=>bw 2 (ad b 0) k (aI (ad b 0) 2 λl=>bw 2 (ad a 0) l (aI (ad a 0) 2 λm=>K (.agg ⟨m⟩)))) j) i)
def ar.ZQ(K:VK)(a:Addr)(h:LI)(b:Addr)(c:OA)(d e:Nat)(f g:Int)(j:LM)(k:World)(m:Bool):WK:=br m (lI (a.add 12) λn=>ch ((8:Int)≠0) (st (a.add 12) (.i (aa.wrap ((n.tmod (8:Int))+8))) ((ct h j [.p (some b),.p (some a),.l c d e,.i f,.i (aa.wrap (g+1))] [.p (some b),.p (some a),.l c d e,.i f,.i g] k)))) ((ct h j [.p (some b),.p (some a),.l c d e,.i f,.i (aa.wrap (g+1))] [.p (some b),.p (some a),.l c d e,.i f,.i g] k))
def ar.Kv(K:VK)(k:Nat)(a:Addr)(b:LI)(c:Addr)(d:OA)(e f:Nat)(g h:Int)(i:LM)(j:World)(l:Bool):WK:=br l (lI (ad k 32) λm=>br (m==1) (ar.ZQ K a b c d e f g h i j true) (lI (ad k 32) λn=>ar.ZQ K a b c d e f g h i j (n==2))) (ar.ZQ K a b c d e f g h i j false)
def ar.j12(K:VK)(b:Nat)(a:Addr)(c:LI)(d:Addr)(e:OA)(f g:Nat)(h i:Int)(j:LM)(k:World)(l:Nat)(m:Bool):WK:=br m (ar.Kv K b a c d e f g h i j k true) (aI (ad l 0) 16 λn=>bS n 128 (xB λo=>br o (aI (ad l 4) 2 λp=>aI a 2 λq=>rl [.u 0,.u 0] p q λr=>ar.Kv K b a c d e f g h i j k r) (ar.Kv K b a c d e f g h i j k false)))
def ar.j9(K:VK)(a:Nat)(b:Addr)(c:Nat)(d:LI)(e:Addr)(f:OA)(g h:Nat)(i j:Int)(k:LM)(l:World):WK:=aI (ad a 0) 16 λm=>bS m 64 (xB λn=>br n (aI (ad a 2) 2 λo=>aI b 2 λp=>rl [.u 0,.u 0] o p λq=>ar.j12 K c b d e f g h i j k l a q) (ar.j12 K c b d e f g h i j k l a false))
def ar.j8(K:VK)(a:Addr)(b c:Nat)(d:LI)(e:Addr)(f:OA)(g h:Nat)(i j:Int)(k:LM)(l:World)(m:Bool):WK:=br m (aI (a.add 6) 2 λn=>aI (ad b 6) 2 λo=>jq n o (xA 2 λp=>bw 2 (a.add 6) p (ar.j9 K b a c d e f g h i j k l))) (ar.j9 K b a c d e f g h i j k l)
def ar.j7(K:VK)(a b:Nat)(c:Addr)(d:LI)(e:Addr)(f:OA)(g h:Nat)(i j:Int)(k:LM)(l:World):WK:=lI (ad a 32) λm=>br (m==1) (aI (ad b 4) 2 λn=>aI c 2 λo=>rl [.u 0,.u 0] n o λp=>ar.j8 K c b a d e f g h i j k l p) (ar.j8 K c b a d e f g h i j k l false)
def ar.j6(K:VK)(a:Addr)(b c:Nat)(d:LI)(e:Addr)(f:OA)(g h:Nat)(i j:Int)(k:LM)(l:World)(m:Bool):WK:=br m (aI (a.add 2) 2 λn=>aI (ad b 6) 2 λo=>jq n o (xA 2 λp=>bw 2 (a.add 2) p (ar.j7 K c b a d e f g h i j k l))) (ar.j7 K c b a d e f g h i j k l)
def ar.j5(K:VK)(a b:Nat)(c:Addr)(d:LI)(e:Addr)(f:OA)(g h:Nat)(i j:Int)(k:LM)(l:World):WK:=lI (ad a 32) λm=>br (m==1) (aI (ad b 2) 2 λn=>aI c 2 λo=>rl [.u 0,.u 0] n o λp=>ar.j6 K c b a d e f g h i j k l p) (ar.j6 K c b a d e f g h i j k l false)
def ar.j4(K:VK)(a:Addr)(b c:Nat)(d:LI)(e:Addr)(f:OA)(g h:Nat)(i j:Int)(k:LM)(l:World)(m:Bool):WK:=br m (aI (a.add 8) 2 λn=>aI (ad b 6) 2 λo=>jq n o (xA 2 λp=>bw 2 (a.add 8) p (ar.j5 K c b a d e f g h i j k l))) (ar.j5 K c b a d e f g h i j k l)
def ar.j3(K:VK)(m:Bool)(a:Nat)(b:Addr)(c:Nat)(d:LI)(e:Addr)(f:OA)(g h:Nat)(i j:Int)(k:LM)(l:World):WK:=br m (aI (ad a 4) 2 λn=>aI b 2 λo=>rl [.u 0,.u 0] n o λp=>ar.j4 K b a c d e f g h i j k l p) (ar.j4 K b a c d e f g h i j k l false)
def ar.j2(K:VK)(a:Addr)(b:Nat)(c:Bool)(d:Nat)(e:LI)(f:Addr)(g:OA)(h i:Nat)(j k:Int)(l:LM)(m:World)(n:Bool):WK:=br n (aI (a.add 4) 2 λo=>aI (ad b 6) 2 λp=>jq o p (xA 2 λq=>bw 2 (a.add 4) q (ar.j3 K c b a d e f g h i j k l m))) (ar.j3 K c b a d e f g h i j k l m)
def ar.j1(K:VK)(a:Nat)(b:Addr)(d:Nat)(e:LI)(f:Addr)(g:OA)(h i:Nat)(j k:Int)(l:LM)(m:World)(c:Bool):WK:=br c (aI (ad a 2) 2 λn=>aI b 2 λo=>rl [.u 0,.u 0] n o λp=>ar.j2 K b a c d e f g h i j k l m p) (ar.j2 K b a c d e f g h i j k l m false)
def ar(n:OA)(s:Int)(K:VK):WK:=mk dR λt=>nn n λu=>lL u λv w O=>iX v w s 14 λx=>aI x 14 λy=>mk dR λo=>bw 14 (ad o 0) y (nn n λz=>lL (z.add 1) λA q B=>(lp [.p (some (ad t 0)),.p (some (ad o 0)),.l A q B,.i (q:Int),.i 0] λk r=>∀a d e f m g b h,k [.p (some a),.p (some d),.l e f m,.i g,.i b] h->(br (decide (b<g)) (iX e f b 33 λC=>aI C 33 λD=>mk cF λj=>bw 33 (ad j 0) D (aI (ad j 16) 16 λE=>mk iw λc=>bw 16 (ad c 0) E (aI (ad c 0) 16 λF=>bS F 2 (xB λG=>br (!G) (aI (ad c 0) 16 λH=>bS H 8 (xB λI=>ar.j1 K c d j k a e f m g b r h (!I))) (ar.j1 K c d j k a e f m g b r h false))))) (aI d 14 λJ=>bw 14 a J (aI a 14 λM=>K (.agg ⟨M⟩)))) h))
def gu(d:OA)(e:LV)(f:Int)(K:VK):WK:=mk e λg=>gU d (xP λa=>nn a λh=>lL (h.add 1) λj k q=>iX j k f 33 λl=>st (l.add 32) (.i 3) (aI (ad g 0) 2 λm=>fj a m (xI .i64 λn=>ar a n (xA 14 λo=>(λw=>∃c,o[12]?=some c/\(xI .i64 λp=>K (.b (decide (p>=8)))) c w)))))
def gT(a:OA)(m n:LV)(f:Int)(K:VK):WK:=mk m λe=>mk n λb=>nn a λo=>lI (o.add 3) λp=>nn a λq=>st (q.add 3) (.i (aa.wrap (p+1))) (nn a λr=>lI (r.add 3) λs=>st (ad b 14) (.i s) (nn a λt=>lI (t.add 2) λu=>st (ad b 15) (.i u) (tick (nn a λg=>lL (g.add 1) λh j k=>aI (ad e 0) 16 λc=>aI (ad b 0) 16 λd=>ch (c.length=16/\(d.length=16/\(1=1/\True))) (ch ((c++(d++([.i f]:LV))).length=33/\True) (mk ((c++(d++([.i f]:LV)))++[]) λv=>kp (ad b 0) d (kp (ad e 0) c (kp (g.add 1) [.l h j k] (gY 33 264 cF h j k (ah v) 1 λw x y=>kp (ad b 0) d (kp (ad e 0) c (nn a λz=>st (z.add 1) (.l w x y) (K (.tuple ⟨[]⟩)))))))))))))
def az.j6(K:VK)(c b d:Nat)(e:OA):WK:=aI (ad c 0) 16 λf=>mk iw λa=>bw 16 (ad a 0) f (aI (ad b 2) 2 λg=>bw 2 (ad a 2) g (aI (ad b 4) 2 λh=>bw 2 (ad a 4) h (aI (ad d 0) 2 λj=>bw 2 (ad a 6) j (lI (ad b 11) λk=>st (ad a 11) (.i k) (lI (ad b 12) λl=>st (ad a 12) (.i l) (aI (ad c 0) 16 λm=>aI (ad a 0) 16 λn=>gT e m n 0 (x0 (K (.i 0)))))))))
def az.j5(K:VK)(a:OA)(b:Int)(f:Bool)(c d e:Nat)(g:Bool):WK:=br g (K (.i 31)) (nn a λh=>lL (h.add 1) λs j t=>br (decide ((j:Int)>=96)) (K (.i 35)) (nn a λk=>lL (k.add 1) λl m u=>iX l m b 33 λn=>st (n.add 32) (.i 3) (br f (nn a λo=>lL (o.add 1) λp q v=>iX p q b 33 λr=>st (r.add 32) (.i 2) (az.j6 K c d e a)) (az.j6 K c d e a))))
def az.j4(K:VK)(a:Bool)(b:Nat)(c:OA)(d:Int)(e f:Nat)(g:Bool):WK:=br g (K (.i 30)) (br a (aI (ad b 4) 2 λh=>gu c h d (xB λj=>az.j5 K c d a e b f j)) (az.j5 K c d a e b f false))
def az.j3(K:VK)(a:Bool)(b:Nat)(c:OA)(d:Int)(e f:Nat)(g:Bool):WK:=br g (K (.i 26)) (br a (aI (ad b 2) 2 λh=>gu c h d (xB λj=>az.j4 K a b c d e f j)) (az.j4 K a b c d e f false))
def az.j7(K:VK)(a:Bool)(b:Nat)(d:OA)(e:Int)(f c:Nat)(g:Bool):WK:=br g (az.j3 K a b d e f c true) (br (!a) (aI (ad c 0) 2 λh=>aI (ad b 6) 2 λi=>rl [.u 0,.u 0] h i λj=>az.j3 K a b d e f c (!j)) (az.j3 K a b d e f c false))
def az.j2(K:VK)(a:Bool)(b c:Nat)(d:OA)(e:Int)(f:Nat):WK:=br a (aI (ad b 6) 2 λg=>aI (ad c 0) 2 λh=>gH g h (xB λi=>az.j7 K a b d e f c i)) (az.j7 K a b d e f c false)
def az.j1(K:VK)(b:OA)(c:Int)(d g e:Nat)(h:Bool):WK:=br h (K (.i 25)) (nn b λj=>lL (j.add 1) λk l A=>iX k l c 33 λm=>lI (m.add 32) λn=>br (decide (n>1)) (nn b λo=>lL (o.add 1) λp q B=>iX p q c 33 λr=>lI (r.add 32) λs=>K (.i (aa.wrap (25+s)))) (aI (ad d 0) 16 λt=>bS t 4 (xB λf=>aI (ad d 6) 2 λv=>mk [.u 0,.u 0] λa=>bw 2 (ad a 0) v (aI (ad a 0) 2 λw=>aI (ad g 0) 2 λx=>rl [.u 0,.u 0] w x λy=>br y (aI (ad e 6) 2 λz=>bw 2 (ad a 0) z (az.j2 K f e a b c d)) (az.j2 K f e a b c d)))))
def az.Kv(K:VK)(c:OA)(d:Int)(a e b:Nat)(f:Bool):WK:=br f (az.j1 K c d a e b true) (lI (ad a 12) λg=>br (g !=0) (lI (ad a 12) λh=>lI (ad b 12) λi=>az.j1 K c d a e b (h !=i)) (az.j1 K c d a e b false))
def az.j9(K:VK)(c:OA)(d:Int)(a e b:Nat)(f:Bool):WK:=br f (az.Kv K c d a e b true) (lI (ad a 11) λg=>br (g !=0) (lI (ad a 11) λh=>lI (ad b 11) λi=>az.Kv K c d a e b (h !=i)) (az.Kv K c d a e b false))
def az.j8(K:VK)(d:OA)(e:Int)(a b c:Nat)(f:Bool):WK:=br f (az.j9 K d e a b c true) (aI (ad a 4) 2 λg=>aI (ad b 0) 2 λh=>rl [.u 0,.u 0] g h λi=>br (!i) (aI (ad a 4) 2 λj=>aI (ad c 4) 2 λk=>rl [.u 0,.u 0] j k λl=>az.j9 K d e a b c (!l)) (az.j9 K d e a b c false))
def az(b:OA)(m:LV)(K:VK):WK:=mk m λa=>aI (ad a 0) 16 λn=>aV n (xI .i64 λf=>br (f !=0) (K (.i f)) (aI (ad a 0) 16 λo=>gG o (xB λp=>br (!p) (K (.i 6)) (aI (ad a 0) 2 λq=>gS b q (xI .i64 λg=>br (decide (g>=0)) (tick (aI (ad a 0) 16 λr=>nn b λh=>lL (h.add 1) λj k s=>iX j k g 33 λt=>aI t 16 λv=>kP r v (xI .i64 λw=>kp (h.add 1) [.l j k s] (K (.i w))))) (aI (ad a 8) 2 λx=>gS b x (xI .i64 λd=>br (decide (d<0)) (K (.i 23)) (nn b λy=>lL (y.add 1) λz A O=>iX z A d 33 λB=>aI (B.add 16) 16 λC=>mk iw λc=>bw 16 (ad c 0) C (ch True (mk [.u 0,.u 0] λe=>ch (2=2) (jC (ad e 0) [.u 0,.u 0] (aI (ad c 0) 16 λD=>bS D 2 (xB λE=>br (!E) (K (.i 24)) (aI (ad a 2) 2 λF=>aI (ad e 0) 2 λG=>rl [.u 0,.u 0] F G λH=>br (!H) (aI (ad a 2) 2 λI=>aI (ad c 2) 2 λJ=>rl [.u 0,.u 0] I J λM=>az.j8 K b d a e c (!M)) (az.j8 K b d a e c false)))))))))))))))
def kN(d e:LV)(K:VK):WK:=mk d λb=>mk e λc=>mk [.u 0,.u 0] λa=>aI (ad b 0) 2 λf=>aI (ad c 0) 2 λg=>gH f g (xB λh=>br h (aI (ad b 0) 2 λi=>bw 2 (ad a 0) i (aI (ad a 0) 2 λj=>K (.agg ⟨j⟩))) (aI (ad c 0) 2 λk=>bw 2 (ad a 0) k (aI (ad a 0) 2 λl=>K (.agg ⟨l⟩))))
def nS(K:VK):WK:=mk [.u 0,.u 0] λa=>ch (1=1/\(1=1/\True)) (ch (2=2) (jC (ad a 0) [.u 18446744073709551615,.u 18446744073709551615] (aI (ad a 0) 2 λb=>K (.agg ⟨b⟩))))
def oS(d:LV)(a:Int)(K:VK):WK:=mk d λb=>mk [.u 0,.u 0] λc=>br (decide (a>=64)) (lU (ad b 0) λe=>ch ((0:Int)<=(IntKind.u64.wrap (aa.wrap (a-64)))) (lU (ad b 1) λf=>ch (1=1/\(1=1/\True)) (ch (2=2) (jC (ad c 0) [.u (IntKind.u64.wrap (e+(shl .u64 1 (IntKind.u64.wrap (aa.wrap (a-64)))))),.u f] (aI (ad c 0) 2 λg=>K (.agg ⟨g⟩)))))) (lU (ad b 0) λh=>lU (ad b 1) λi=>ch ((0:Int)<=(IntKind.u64.wrap a)) (ch (1=1/\(1=1/\True)) (ch (2=2) (jC (ad c 0) [.u h,.u (IntKind.u64.wrap (i+(shl .u64 1 (IntKind.u64.wrap a))))] (aI (ad c 0) 2 λj=>K (.agg ⟨j⟩))))))
def fK.j1(K:VK)(a:Addr)(c:Int)(h:LI)(d e f:Addr)(g:Bool)(j:LM)(k:Int)(l:World)(m n:Int):WK:=br (n==1) (aI a 2 λo=>oS o c (xA 2 λq=>bw 2 a q ((ct h j [.p (some d),.p (some e),.p (some f),.b g,.p (some a),.i m,.i (aa.wrap (c+1))] [.p (some d),.p (some e),.p (some f),.b g,.p (some a),.i k,.i c] l)))) ((ct h j [.p (some d),.p (some e),.p (some f),.b g,.p (some a),.i m,.i (aa.wrap (c+1))] [.p (some d),.p (some e),.p (some f),.b g,.p (some a),.i k,.i c] l))
def fK(v w:LV)(K:VK):WK:=mk v λo=>mk w λq=>mk [.u 0,.u 0] λj=>aI (ad o 0) 2 λx=>aI (ad q 0) 2 λy=>gH x y (xB λz=>br z (ch True (ch (2=2) (jC (ad j 0) [.u 0,.u 0] (aI (ad j 0) 2 λA=>K (.tuple ⟨[.agg ⟨A⟩,.b false]⟩))))) (ch True (mk [.u 0,.u 0] λr=>ch (2=2) (jC (ad r 0) [.u 0,.u 0] ((lp [.p (some (ad o 0)),.p (some (ad q 0)),.p (some (ad j 0)),.b false,.p (some (ad r 0)),.i 0,.i 0] λk s=>∀f d e l g a c h,k [.p (some f),.p (some d),.p (some e),.b l,.p (some g),.i a,.i c] h->(br (decide (c<128)) (tick (aI f 2 λB=>aI d 2 λt=>fL B c (xI .i64 λm=>kp d t (fL t c (xI .i64 λn=>br (decide ((aa.wrap ((aa.wrap (m-n)) -a))<0)) (fK.j1 K g c k f d e l s a h 1 (aa.wrap ((aa.wrap ((aa.wrap (m-n)) -a))+2))) (fK.j1 K g c k f d e l s a h 0 (aa.wrap ((aa.wrap (m-n)) -a)))))))) (aI g 2 λC=>bw 2 e C (aI e 2 λD=>K (.tuple ⟨[.agg ⟨D⟩,.b true]⟩)))) h))))))
def dw.j2(K:VK)(c d a:Nat):WK:=aI (ad c 0) 2 λe=>aI (ad d 0) 2 λf=>fK e f (x2 λg h=>(xA 2 λi=>(xB λl=>mk [.u 0,.u 0] λb=>bw 2 (ad b 0) i (aI (ad b 0) 2 λj=>bw 2 (ad a 0) j (aI (ad a 0) 2 λk=>K (.agg ⟨k⟩)))) h) g)
def dw.j1(K:VK)(d e b c:Nat):WK:=aI (ad d 0) 2 λf=>aI (ad e 0) 2 λg=>cL f g (x2 λh i=>(xA 2 λj=>(xB λk=>mk [.u 0,.u 0] λa=>bw 2 (ad a 0) j (br (!k) (nS (xA 2 λl=>bw 2 (ad a 0) l (dw.j2 K b a c))) (dw.j2 K b a c))) i) h)
def dw(f:LV)(g:Bool)(K:VK):WK:=mk f λa=>mk [.u 0,.u 0] λe=>aI (ad a 4) 2 λh=>mk [.u 0,.u 0] λb=>bw 2 (ad b 0) h (aI (ad a 6) 2 λi=>mk [.u 0,.u 0] λc=>bw 2 (ad c 0) i (aI (ad a 8) 2 λj=>mk [.u 0,.u 0] λd=>bw 2 (ad d 0) j (br g (aI (ad a 8) 2 λk=>bw 2 (ad b 0) k (aI (ad a 2) 2 λl=>bw 2 (ad c 0) l (aI (ad a 4) 2 λm=>bw 2 (ad d 0) m (dw.j1 K c d b e)))) (dw.j1 K c d b e))))
def bX.j4(K:VK)(e:Bool)(c a d b:Nat):WK:=br e (aI (ad c 0) 2 λf=>bw 2 (ad a 2) f (aI (ad d 0) 2 λg=>bw 2 (ad a 4) g (aI (ad a 0) 14 λh=>bw 14 (ad b 0) h (aI (ad b 0) 14 λj=>K (.tuple ⟨[.agg ⟨j⟩,.i 0]⟩))))) (aI (ad c 0) 2 λk=>bw 2 (ad a 6) k (aI (ad d 0) 2 λl=>bw 2 (ad a 8) l (aI (ad a 0) 14 λm=>bw 14 (ad b 0) m (aI (ad b 0) 14 λn=>K (.tuple ⟨[.agg ⟨n⟩,.i 0]⟩)))))
def bX.j3(K:VK)(e:Bool)(b a:Nat)(g:Bool)(c f d:Nat)(h:Bool):WK:=br h (br e (aI (ad b 0) 14 λj=>bw 14 (ad a 0) j (aI (ad a 0) 14 λk=>K (.tuple ⟨[.agg ⟨k⟩,.i 33]⟩))) (aI (ad b 0) 14 λl=>bw 14 (ad a 0) l (aI (ad a 0) 14 λm=>K (.tuple ⟨[.agg ⟨m⟩,.i 34]⟩)))) (br g (aI (ad c 0) 2 λn=>aI (ad f 0) 2 λo=>cL n o (x2 λp q=>(xA 2 λr=>(xB λx=>bw 2 (ad c 0) r (bX.j4 K e c b d a)) q) p)) (aI (ad d 0) 2 λs=>aI (ad f 0) 2 λt=>cL s t (x2 λu v=>(xA 2 λw=>(xB λy=>bw 2 (ad d 0) w (bX.j4 K e c b d a)) v) u)))
def bX.j2(K:VK)(a b:Nat)(k:Int)(c:Nat)(d f:Bool)(g h:Nat)(l:Bool):WK:=br l (aI (ad a 0) 14 λm=>bw 14 (ad b 0) m (aI (ad b 0) 14 λn=>K (.tuple ⟨[.agg ⟨n⟩,.i 32]⟩))) (tick (lI (ad a 12) λe=>br ((db .i64 .and e k)!=0) (aI (ad a 0) 14 λo=>aI (ad c 0) 2 λj=>dw o d (xA 2 λp=>kp (ad c 0) j (kp (ad a 12) [.i e] (gH p j (xB λq=>kp (ad a 12) [.i e] (bX.j3 K d a b f g c h q)))))) (bX.j3 K d a b f g c h false)))
def bX.j1(K:VK)(a b c d e:Nat)(f g:Bool)(h:Int):WK:=aI (ad a 0) 2 λj=>aI (ad b 0) 2 λk=>cL j k (x2 λl m=>(xA 2 λn=>(xB λo=>mk [.u 0,.u 0] λi=>bw 2 (ad i 0) n (aI (ad i 0) 2 λp=>aI (ad c 0) 2 λq=>cL p q (x2 λr s=>(xA 2 λt=>(xB λv=>mk [.u 0,.u 0] λw=>bw 2 (ad w 0) t (br (!o) (bX.j2 K d e h c f g a b true) (bX.j2 K d e h c f g a b (!v)))) s) r))) m) l)
def bX(h:LV)(d:Bool)(i:LV)(e:Bool)(K:VK):WK:=mk h λa=>mk i λf=>mk dR λg=>aI (ad a 6) 2 λj=>mk [.u 0,.u 0] λb=>bw 2 (ad b 0) j (aI (ad a 8) 2 λk=>mk [.u 0,.u 0] λc=>bw 2 (ad c 0) k (br d (aI (ad a 2) 2 λl=>bw 2 (ad b 0) l (aI (ad a 4) 2 λm=>bw 2 (ad c 0) m (bX.j1 K b c f a g d e 2))) (bX.j1 K b c f a g d e 4)))
def bQ.j3(K:VK)(a h c j:Nat)(e:OA):WK:=aI (ad a 0) 16 λk=>bS k 2 (xB λd=>aI (ad h 0) 14 λl=>aI (ad c 0) 2 λm=>bX l true m d (x2 λn o=>(xA 14 λz=>(xI .i64 λf=>br (f !=0) (K (.i f)) (aI (ad j 0) 14 λp=>aI (ad c 0) 2 λq=>bX p false q d (x2 λr s=>(xA 14 λA=>(xI .i64 λg=>br (g !=0) (K (.i g)) (aI (ad a 0) 16 λt=>mk iw λb=>bw 16 (ad b 0) t (aI (ad c 0) 2 λu=>bw 2 (ad b 6) u (br d (aI (ad a 0) 16 λv=>aI (ad b 0) 16 λw=>gT e v w 1 (x0 (K (.i 0)))) (aI (ad a 0) 16 λx=>aI (ad b 0) 16 λy=>gT e x y 0 (x0 (K (.i 0)))))))) s) r))) o) n))
def bQ.j2(K:VK)(b a c g d:Nat)(e:OA):WK:=aI (ad b 0) 16 λh=>bS h 32 (xB λj=>br j (tick (aI (ad a 0) 2 λf=>aI (ad c 0) 14 λk=>dw k false (xA 2 λl=>kp (ad a 0) f (kN f l (xA 2 λm=>bw 2 (ad a 0) m (aI (ad a 0) 2 λn=>aI (ad g 0) 2 λo=>rl [.u 0,.u 0] n o λp=>br p (K (.i 34)) (bQ.j3 K b d a c e))))))) (bQ.j3 K b d a c e))
def bQ.j1(K:VK)(b a c d e:Nat)(f:OA):WK:=aI (ad b 0) 16 λh=>bS h 16 (xB λj=>br j (tick (aI (ad a 0) 2 λg=>aI (ad c 0) 14 λk=>dw k true (xA 2 λl=>kp (ad a 0) g (kN g l (xA 2 λm=>bw 2 (ad a 0) m (aI (ad a 0) 2 λn=>aI (ad d 0) 2 λo=>rl [.u 0,.u 0] n o λp=>br p (K (.i 33)) (bQ.j2 K b a e d c f))))))) (bQ.j2 K b a e d c f))
def bQ(b:OA)(p:LV)(K:VK):WK:=mk p λa=>aI (ad a 0) 16 λq=>aV q (xI .i64 λg=>br (g !=0) (K (.i g)) (aI (ad a 0) 16 λr=>gG r (xB λs=>br s (K (.i 6)) (aI (ad a 0) 2 λt=>gS b t (xI .i64 λh=>br (decide (h>=0)) (tick (aI (ad a 0) 16 λv=>nn b λj=>lL (j.add 1) λk m w=>iX k m h 33 λx=>aI x 16 λy=>kP v y (xI .i64 λz=>kp (j.add 1) [.l k m w] (K (.i z))))) (aI (ad a 2) 2 λA=>fj b A (xI .i64 λn=>aI (ad a 4) 2 λB=>fj b B (xI .i64 λo=>br (decide (n<0)) (K (.i 19)) (br (decide (o<0)) (K (.i 20)) (ar b n (xA 14 λC=>mk dR λc=>bw 14 (ad c 0) C (ar b o (xA 14 λD=>mk dR λd=>bw 14 (ad d 0) D (lI (ad c 10) λE=>lI (ad d 10) λF=>br (E !=F) (K (.i 21)) (lI (ad c 10) λG=>lI (ad a 11) λH=>br (G !=H) (K (.i 22)) (lI (ad c 12) λI=>br (decide (I>=8)) (K (.i 30)) (lI (ad d 12) λJ=>br (decide (J>=8)) (K (.i 31)) (nn b λM=>lL (M.add 1) λT O V=>br (decide ((O:Int)>=96)) (K (.i 35)) (ch True (mk [.u 0,.u 0] λf=>ch (2=2) (jC (ad f 0) [.u 0,.u 0] (aI (ad a 6) 2 λP=>mk [.u 0,.u 0] λe=>bw 2 (ad e 0) P (aI (ad e 0) 2 λQ=>aI (ad f 0) 2 λR=>rl [.u 0,.u 0] Q R λS=>br S (ch (1=1/\(1=1/\True)) (ch (2=2) (jC (ad e 0) [.u 18446744073709551615,.u 18446744073709551615] (bQ.j1 K a e c f d b)))) (bQ.j1 K a e c f d b))))))))))))))))))))))))
def iW.j1(K:VK)(a:Nat)(b:OA)(c:Bool):WK:=br c (aI (ad a 15) 16 λd=>az b d (xI .i64 λe=>K (.i e))) (aI (ad a 15) 16 λf=>bQ b f (xI .i64 λg=>K (.i g)))
def iW(b:OA)(c:LV)(K:VK):WK:=mk c λa=>lT (ad a 0) λd=>br d (aI (ad a 1) 14 λe=>km b e (xI .i64 λf=>K (.i f))) (aI (ad a 15) 16 λg=>aV g (xI .i64 λh=>br (h==0) (aI (ad a 15) 16 λj=>gG j (xB λk=>iW.j1 K a b k)) (iW.j1 K a b false)))
def cr.j3(K:VK)(u:LI)(v:LM)(w x:OA)(y z:Nat)(A B:OA)(C D:Nat)(E:Int)(F:World)(H I:OA)(J M:Nat)(O P:OA)(Q R:Nat)(G S T V:Int)(W:OA):WK:=(lp [.p H,.l I J M,.p O,.l P Q R,.i G,.i S,.i T,.i V,.p W,.i G] λs t=>∀m c d e f g h j q a b n o k r,s [.p m,.l c d e,.p f,.l g h j,.i q,.i a,.i b,.i n,.p o,.i k] r->(br (decide (k<=a)) (br (decide (b<0)) (ch (1=1/\True) (mk [.i 0] λX=>gY 1 8 [.i 0] g h j (ah X) 1 λY Z CZ=>(ct s t [.p m,.l c d e,.p f,.l Y Z CZ,.i q,.i a,.i b,.i n,.p o,.i (aa.wrap (k+1))] [.p m,.l c d e,.p f,.l g h j,.i q,.i a,.i b,.i n,.p o,.i k] r))) (br (k==b) (ch (1=1/\True) (mk [.i n] λr2=>gY 1 8 [.i 0] g h j (ah r2) 1 λPB Pv Pz=>(ct s t [.p m,.l c d e,.p f,.l PB Pv Pz,.i q,.i a,.i b,.i n,.p o,.i (aa.wrap (k+1))] [.p m,.l c d e,.p f,.l g h j,.i q,.i a,.i b,.i n,.p o,.i k] r))) (ch (1=1/\True) (mk [.i 1] λr3=>gY 1 8 [.i 0] g h j (ah r3) 1 λPA Pu RZ=>(ct s t [.p m,.l c d e,.p f,.l PA Pu RZ,.i q,.i a,.i b,.i n,.p o,.i (aa.wrap (k+1))] [.p m,.l c d e,.p f,.l g h j,.i q,.i a,.i b,.i n,.p o,.i k] r))))) (br (decide (b<0)) ((ct u v [.p o,.l c d e,.p f,.l g h j,.i (aa.wrap (a+1))] [.p w,.l x y z,.p A,.l B C D,.i E] F)) ((ct u v [.p m,.l c d e,.p f,.l g h j,.i (aa.wrap (a+1))] [.p w,.l x y z,.p A,.l B C D,.i E] F)))) r)
def cr.j4(K:VK)(v:OA)(w:Nat)(a:Int)(b:OA)(s:LI)(c d:OA)(e f:Nat)(g h:OA)(j k:Nat)(m n:Int)(t:LM)(o q:Int)(u:World)(x:LI)(y:LM)(z A:OA)(B C:Nat)(D E:OA)(F G:Nat)(H:Int)(I:World)(J:Bool):WK:=br J (iX v w a 31 λM=>aI M 31 λO=>iW b O (xI .i64 λr=>br (r !=0) ((ct s t [.p c,.l d e f,.p g,.l h j k,.i m,.i n,.i a,.i r,.p b,.i (aa.wrap (a+1))] [.p c,.l d e f,.p g,.l h j k,.i m,.i n,.i o,.i q,.p b,.i a] u)) ((ct s t [.p c,.l d e f,.p g,.l h j k,.i m,.i n,.i o,.i r,.p b,.i (aa.wrap (a+1))] [.p c,.l d e f,.p g,.l h j k,.i m,.i n,.i o,.i q,.p b,.i a] u)))) (cr.j3 K x y z A B C D E F G H I c d e f g h j k m n o q b)
def cr.j2(K:VK)(t M:OA)(O P:Nat)(Q R:OA)(S T:Nat)(u:Int)(v:OA)(w:Nat)(x:LI)(y:LM)(z A:OA)(B C:Nat)(D E:OA)(F G:Nat)(H:Int)(I:World)(V W X:Int):WK:=gU t (xP λY=>(lp [.p t,.l M O P,.p Q,.l R S T,.i u,.i V,.i W,.i X,.p Y,.i u] λe J=>∀f g h j k m n o q a b r s c d,e [.p f,.l g h j,.p k,.l m n o,.i q,.i a,.i b,.i r,.p s,.i c] d->(br (decide (c<=a)) (cr.j4 K v w c s e f g h j k m n o q a J b r d x y z A B C D E F G H I (decide (b<0))) (cr.j4 K v w c s e f g h j k m n o q a J b r d x y z A B C D E F G H I false)) d))
def cr.j1(K:VK)(a:Nat)(b:OA)(c:LI)(d:LM)(e f:OA)(g h:Nat)(i j:OA)(k l:Nat)(m:Int)(n:World)(o p:OA)(q r:Nat)(s t:OA)(u v:Nat)(w x:Int):WK:=br (x==(a:Int)) (cr.j2 K o p q r s t u v w b a c d e f g h i j k l m n (aa.wrap ((a:Int) -1)) (aa.wrap ((a:Int) -1)) 2) (cr.j2 K o p q r s t u v w b a c d e f g h i j k l m n x (-1) 0)
def cr(D y:OA)(c I:Nat)(K:VK):WK:=(lp [.p D,.l none 0 0,.p none,.l none 0 0,.i 0] λz B=>∀d t u v w e f g b x,z [.p d,.l t u v,.p w,.l e f g,.i b] x->(br (decide (b<(c:Int))) ((lp [.p d,.l t u v,.p w,.l e f g,.i b,.i b] λC E=>∀h j k m n o q r s a A,C [.p h,.l j k m,.p n,.l o q r,.i s,.i a] A->(br (decide (a<(c:Int))) (iX y c a 31 λF=>aI F 31 λG=>mL G (xB λH=>br H ((ct C E [.p h,.l j k m,.p n,.l o q r,.i s,.i (aa.wrap (a+1))] [.p h,.l j k m,.p n,.l o q r,.i s,.i a] A)) (cr.j1 K c y z B d t u v w e f g b x h j k m n o q r s a))) (cr.j1 K c y z B d t u v w e f g b x h j k m n o q r s a)) A)) (K (.tuple ⟨[.l e f g,.p d]⟩))) x)
def iV.j1(K:VK)(a b:OA)(c d:Nat):WK:=cr a b c d (x2 λe f=>(xL λg h j=>(xP λk=>K (.tuple ⟨[.l g h j,.i 0,.p k]⟩)) f) e)
def iV(b:OA)(d:LV)(K:VK):WK:=mk d λa=>aI (ad a 0) 13 λe=>dP e (xB λf=>br (!f) (K (.tuple ⟨[.l none 0 0,.i 1,.p b]⟩)) (lI (ad a 0) λg=>br (g==3) (gU b (xP λc=>lI (ad a 3) λh=>kj c h (x0 (K (.tuple ⟨[.l none 0 0,.i 0,.p c]⟩))))) (lL (ad a 1) λj k m=>lq j k m (xL λn o q=>lI (ad a 0) λr=>br (r==2) (lL (ad a 2) λs t u=>kI s t u (xL λv w x=>iV.j1 K b v w x)) (iV.j1 K b n o q)))))
def ln(S:OA)(M T:Nat)(V:OA)(O W:Nat)(K:VK):WK:=(lp [.l none 0 0,.l none 0 0,.l V O W,.i (O:Int),.i 0] λP X=>∀D E F w x y z A G B t H,P [.l D E F,.l w x y,.l z A G,.i B,.i t] H->(br (decide (t<B)) (iX z A t 2 λY=>aI Y 2 λZ=>mk [.u 0,.u 0] λQ=>bw 2 (ad Q 0) Z ((lp [.l D E F,.l w x y,.p (some (ad Q 0)),.l z A G,.i B,.i t,.l S M T,.i (M:Int),.i 0] λI R=>∀b c d e f g h j k m n o q r v s a C,I [.l b c d,.l e f g,.p (some h),.l j k m,.i n,.i o,.l q r v,.i s,.i a] C->(br (decide (a<s)) (iX q r a 14 λa3=>aI a3 14 λFh=>mk dR λJ=>bw 14 (ad J 0) Fh (aI (ad J 0) 2 λGy=>aI h 2 λC6=>rl [.u 0,.u 0] Gy C6 λb1=>br b1 (aI (ad J 0) 14 λIX=>F0 14 IX λr3=>gY 14 112 dR e f g (ah r3) 1 λGd Ga CZ=>(ct I R [.l b c d,.l Gd Ga CZ,.p (some h),.l j k m,.i n,.i o,.l q r v,.i s,.i (aa.wrap (a+1))] [.l b c d,.l e f g,.p (some h),.l j k m,.i n,.i o,.l q r v,.i s,.i a] C)) ((ct I R [.l b c d,.l e f g,.p (some h),.l j k m,.i n,.i o,.l q r v,.i s,.i (aa.wrap (a+1))] [.l b c d,.l e f g,.p (some h),.l j k m,.i n,.i o,.l q r v,.i s,.i a] C)))) ((ct P X [.l b c d,.l e f g,.l j k m,.i n,.i (aa.wrap (o+1))] [.l D E F,.l w x y,.l z A G,.i B,.i t] H))) C))) (K (.l w x y))) H)
def kH(S:OA)(M T:Nat)(V:OA)(O W:Nat)(K:VK):WK:=(lp [.l none 0 0,.l none 0 0,.l V O W,.i (O:Int),.i 0] λP X=>∀D E F w x y z A G B t H,P [.l D E F,.l w x y,.l z A G,.i B,.i t] H->(br (decide (t<B)) (iX z A t 2 λY=>aI Y 2 λZ=>mk [.u 0,.u 0] λQ=>bw 2 (ad Q 0) Z ((lp [.l D E F,.l w x y,.p (some (ad Q 0)),.l z A G,.i B,.i t,.l S M T,.i (M:Int),.i 0] λI R=>∀b c d e f g h j k m n o q r v s a C,I [.l b c d,.l e f g,.p (some h),.l j k m,.i n,.i o,.l q r v,.i s,.i a] C->(br (decide (a<s)) (iX q r a 33 λa3=>aI a3 33 λFh=>mk cF λJ=>bw 33 (ad J 0) Fh (aI (ad J 16) 2 λGy=>aI h 2 λC6=>rl [.u 0,.u 0] Gy C6 λb1=>br b1 (aI (ad J 16) 16 λIX=>F0 16 IX λr3=>gY 16 128 iw e f g (ah r3) 1 λGd Ga CZ=>(ct I R [.l b c d,.l Gd Ga CZ,.p (some h),.l j k m,.i n,.i o,.l q r v,.i s,.i (aa.wrap (a+1))] [.l b c d,.l e f g,.p (some h),.l j k m,.i n,.i o,.l q r v,.i s,.i a] C)) ((ct I R [.l b c d,.l e f g,.p (some h),.l j k m,.i n,.i o,.l q r v,.i s,.i (aa.wrap (a+1))] [.l b c d,.l e f g,.p (some h),.l j k m,.i n,.i o,.l q r v,.i s,.i a] C)))) ((ct P X [.l b c d,.l e f g,.l j k m,.i n,.i (aa.wrap (o+1))] [.l D E F,.l w x y,.l z A G,.i B,.i t] H))) C))) (K (.l w x y))) H)
def bK.j3(K:VK)(o:Nat)(a:OA)(b c:Nat)(k:LI)(d:Addr)(e:OA)(f g:Nat)(h j:Int)(m:LM)(n:World)(q:Bool):WK:=br q (aI (ad o 0) 16 λr=>F0 16 r λs=>gY 16 128 iw a b c (ah s) 1 λt u v=>(ct k m [.p (some d),.l e f g,.l t u v,.i h,.i (aa.wrap (j+1))] [.p (some d),.l e f g,.l a b c,.i h,.i j] n)) ((ct k m [.p (some d),.l e f g,.l a b c,.i h,.i (aa.wrap (j+1))] [.p (some d),.l e f g,.l a b c,.i h,.i j] n))
def bK.j4(K:VK)(b:Nat)(c:OA)(d e:Nat)(f:LI)(a:Addr)(g:OA)(h i:Nat)(j k:Int)(l:LM)(m:World)(n:Bool):WK:=br n (bK.j3 K b c d e f a g h i j k l m true) (lT (a.add 5) λo=>br o (aI (ad b 4) 2 λp=>aI a 2 λq=>rl [.u 0,.u 0] p q λr=>bK.j3 K b c d e f a g h i j k l m r) (bK.j3 K b c d e f a g h i j k l m false))
def bK.j2(K:VK)(k:LI)(a:Addr)(b:OA)(c d:Nat)(e:OA)(f g:Nat)(h j:Int)(m:LM)(n:World)(o:Nat)(q:Bool):WK:=br q ((ct k m [.p (some a),.l b c d,.l e f g,.i h,.i (aa.wrap (j+1))] [.p (some a),.l b c d,.l e f g,.i h,.i j] n)) (lT (a.add 4) λr=>br r (aI (ad o 2) 2 λs=>aI a 2 λt=>rl [.u 0,.u 0] s t λv=>bK.j4 K o e f g k a b c d h j m n v) (bK.j4 K o e f g k a b c d h j m n false))
def bK.j5(K:VK)(c:LI)(a:Addr)(d:OA)(e f:Nat)(g:OA)(b h:Nat)(i j:Int)(k:LM)(l:World)(m:Nat)(n:Bool):WK:=br n (bK.j2 K c a d e f g b h i j k l m true) (lI (a.add 7) λo=>bK.j2 K c a d e f g b h i j k l m (decide ((b:Int)>=o)))
def bK.j1(K:VK)(n:Nat)(a:Addr)(c:LI)(d:OA)(e f:Nat)(g:OA)(h i:Nat)(j k:Int)(l:LM)(m:World):WK:=aI (ad n 16) 16 λo=>mk iw λb=>bw 16 (ad b 0) o (lI (ad b 14) λp=>lI (a.add 2) λq=>br (decide (p<q)) (bK.j2 K c a d e f g h i j k l m b true) (lI (a.add 3) λr=>br (r !=0) (lI (ad b 14) λs=>lI (a.add 3) λt=>bK.j5 K c a d e f g h i j k l m b (decide (s>t))) (bK.j5 K c a d e f g h i j k l m b false)))
def bK(q:OA)(b z:Nat)(s:LV)(K:VK):WK:=mk s λt=>(lp [.p (some (ad t 0)),.l none 0 0,.l none 0 0,.i (b:Int),.i 0] λk r=>∀c m n o d e f g a h,k [.p (some c),.l m n o,.l d e f,.i g,.i a] h->(br (decide (a<g)) (iX q b a 33 λu=>aI u 33 λv=>mk cF λj=>bw 33 (ad j 0) v (lT (c.add 6) λw=>br w (iX q b (aa.wrap ((aa.wrap ((b:Int) -1)) -a)) 33 λx=>aI x 33 λy=>bw 33 (ad j 0) y (bK.j1 K j c k m n o d e f g a r h)) (bK.j1 K j c k m n o d e f g a r h))) (K (.l d e f))) h)
def nr(e:OA)(f g:Nat)(b:OA)(c d:Nat)(h:LV)(K:VK):WK:=mk h λa=>aI (ad a 0) 13 λj=>bg j (xB λk=>br (!k) (K (.tuple ⟨[.l none 0 0,.l none 0 0,.i 1]⟩)) (lI (ad a 0) λm=>br (m==4) (lL (ad a 4) λn o p=>ln e f g n o p (xL λq r s=>K (.tuple ⟨[.l q r s,.l none 0 0,.i 0]⟩))) (lI (ad a 0) λt=>br (t==5) (lL (ad a 4) λu v w=>kH b c d u v w (xL λx y z=>K (.tuple ⟨[.l none 0 0,.l x y z,.i 0]⟩))) (aI (ad a 5) 8 λA=>bK b c d A (xL λB C D=>K (.tuple ⟨[.l none 0 0,.l B C D,.i 0]⟩))))))
def gQ(k:OA)(K:VK):WK:=nn k λn=>lL n λv o w=>(lp [.l none 0 0,.l none 0 0,.i (o:Int),.i 0] λm p=>∀f g h b c d e a j,m [.l f g h,.l b c d,.i e,.i a] j->(br (decide (a<e)) (ar k a (xA 14 λq=>F0 14 q λr=>gY 14 112 dR b c d (ah r) 1 λs t u=>(ct m p [.l f g h,.l s t u,.i e,.i (aa.wrap (a+1))] [.l f g h,.l b c d,.i e,.i a] j))) (K (.l b c d))) j)
def cX.j1(K:VK)(k:Nat)(l p:OA)(m:Nat)(q:OA)(r:Bool):WK:=br r (K (.b false)) ((lp [.b false,.i (k:Int),.i 0] λn s=>∀d e a g,n [.b d,.i e,.i a] g->(br (decide (a<e)) (tick (nn l λt=>lL t λu v M=>iX u v a 14 λw=>aI w 14 λx=>iX p k a 14 λy=>aI y 14 λz=>rl dR x z λA=>br (!A) (K (.b false)) ((ct n s [.b d,.i e,.i (aa.wrap (a+1))] [.b d,.i e,.i a] g)))) ((lp [.b d,.i (m:Int),.i 0] λo B=>∀h f c j,o [.b h,.i f,.i c] j->(br (decide (c<f)) (tick (nn l λC=>lL (C.add 1) λD E O=>iX D E c 33 λF=>aI F 33 λG=>iX q m c 33 λH=>aI H 33 λI=>rl cF G I λJ=>br (!J) (K (.b false)) ((ct o B [.b h,.i f,.i (aa.wrap (c+1))] [.b h,.i f,.i c] j)))) (K (.b true))) j))) g))
def cX.j3(K:VK)(b:Nat)(a c:OA)(d:Nat)(e:OA)(f:Int)(g:Bool):WK:=br g (cX.j1 K b a c d e true) (nn a λh=>lI (h.add 3) λi=>cX.j1 K b a c d e (i !=f))
def cX.j2(K:VK)(b:Nat)(a c:OA)(d:Nat)(e:OA)(f g:Int)(h:Bool):WK:=br h (cX.j3 K b a c d e f true) (nn a λi=>lI (i.add 2) λj=>cX.j3 K b a c d e f (j !=g))
def cX(a d:OA)(b l:Nat)(e:OA)(c m:Nat)(f g:Int)(K:VK):WK:=nn a λh=>lL h λn i o=>br ((i:Int)!=(b:Int)) (cX.j2 K b a d c e g f true) (nn a λj=>lL (j.add 1) λp k q=>cX.j2 K b a d c e g f ((k:Int)!=(c:Int)))
def kk(a m:OA)(n o:Nat)(p:OA)(q r:Nat)(s t:Int)(K:VK):WK:=tick (nn a λc=>lL (c.add 1) λd e f=>nn a λg=>lI (g.add 2) λh=>nn a λj=>lI (j.add 3) λk=>gQ a (xL λu v w=>kp (j.add 3) [.i k] (kp (g.add 2) [.i h] (kp (c.add 1) [.l d e f] (ch (1=1/\(1=1/\(1=1/\(1=1/\True)))) (mk [.l u v w,.l d e f,.i h,.i k] λx=>kp (j.add 3) [.i k] (kp (g.add 2) [.i h] (kp (c.add 1) [.l d e f] (cX (some (ad x 0)) m n o p q r s t (xB λy=>K (.b y)))))))))))
def wv(b:OA)(f:LV)(K:VK):WK:=mk f λc=>mk UU λa=>br (b.isNone) (ch (1=1/\True) (ch (4=4) (jC (ad a 0) [.i 2,.l none 0 0,.l none 0 0,.l none 0 0] (aI (ad a 0) 4 λg=>K (.agg ⟨g⟩))))) (aI (ad c 0) 13 λh=>tu h (xB λj=>br (!j) (ch (1=1/\True) (ch (4=4) (jC (ad a 0) [.i 1,.l none 0 0,.l none 0 0,.l none 0 0] (aI (ad a 0) 4 λk=>K (.agg ⟨k⟩))))) (mk UU λd=>lI (ad c 0) λe=>br (e==1) (lL (ad c 1) λm n o=>rP b m n o (xL λp q r=>st (ad d 1) (.l p q r) (lj b (x0 (aI (ad d 0) 4 λs=>bw 4 (ad a 0) s (aI (ad a 0) 4 λt=>K (.agg ⟨t⟩))))))) (br (e==2) (lL (ad c 2) λu v w=>qM b u v w (xL λx y z=>st (ad d 1) (.l x y z) (lj b (x0 (aI (ad d 0) 4 λA=>bw 4 (ad a 0) A (aI (ad a 0) 4 λB=>K (.agg ⟨B⟩))))))) (lI (ad c 3) λC=>uj b C (xI .i64 λF=>lj b (x0 (aI (ad d 0) 4 λD=>bw 4 (ad a 0) D (aI (ad a 0) 4 λE=>K (.agg ⟨E⟩))))))))))
def mu.j1(K:VK)(k:Nat)(a:OA)(m:LI)(b:OA)(c:Int)(d:Addr)(e:OA)(f g:Nat)(h j:Int)(n:LM)(o:World)(q:Bool):WK:=br q (K (.tuple ⟨[.p none,.i 4]⟩)) (aI (ad k 0) 13 λr=>wv a r (xA 4 λs=>(ct m n [.p b,.i c,.p a,.p (some d),.l e f g,.i h,.i (aa.wrap (j+1))] [.p b,.i c,.p a,.p (some d),.l e f g,.i h,.i j] o)))
def mu(a:OA)(K:VK):WK:=br (a.isNone) (K (.tuple ⟨[.p none,.i 2]⟩)) (fx a (xI .i64 λA=>tT A (x2 λB C=>(xA 5 λD=>(xI .i64 λt=>mk zi5 λc=>bw 5 (ad c 0) D (br (t !=0) (K (.tuple ⟨[.p none,.i t]⟩)) (aI (ad c 0) 5 λE=>wJ a E (x3 λF G H=>(xP λu=>(xA 4 λI=>(xI .i64 λv=>mk zi4 λm=>bw 4 (ad m 0) I (br (v !=0) (K (.tuple ⟨[.p none,.i v]⟩)) (lI (ad c 3) λJ=>lI (ad c 4) λM=>lI (ad m 3) λO=>kD a J M O (x3 λP Q R=>(xP λS=>(xL λT w V=>(xI .i64 λx=>br (x !=0) (K (.tuple ⟨[.p none,.i x]⟩)) (aI (ad c 0) 5 λy=>lI (ad m 0) λW=>ch (1=1/\(y.length=5/\(1=1/\(1=1/\(1=1/\True))))) (mk (([.p a]:LV)++(y++([.p u,.p S,.i W,.b false]:LV))) λX=>(lp [.p none,.i 0,.p u,.p (some (ad X 0)),.l T w V,.i (w:Int),.i 0] λn z=>∀o q r e f g s h d j,n [.p o,.i q,.p r,.p (some e),.l f g s,.i h,.i d] j->(br (decide (d<h)) (iX f g d 1 λY=>lS Y λZ=>ku Z (x2 λv9 v10=>(xA 13 λIX=>(xI .i64 λVT=>mk nA λk=>bw 13 (ad k 0) IX (br (VT !=0) (mu.j1 K k r n o q e f g s h d z j true) (aI (ad k 0) 13 λQG=>qC QG (xB λb2=>mu.j1 K k r n o q e f g s h d z j (!b2))))) v10) v9)) (K (.tuple ⟨[.p (some e),.i 0]⟩))) j)))) R) Q) P)))) H) G) F)))) C) B)))
def mr(b:OA)(f:LV)(K:VK):WK:=mk f λc=>mk UU λa=>br (b.isNone) (ch (1=1/\True) (ch (4=4) (jC (ad a 0) [.i 2,.l none 0 0,.l none 0 0,.l none 0 0] (aI (ad a 0) 4 λg=>K (.agg ⟨g⟩))))) (aI (ad c 0) 13 λh=>qC h (xB λj=>br (!j) (tick (nn b λk=>lP (k.add 6) λm=>aI (ad c 0) 13 λn=>I0 m n (xA 4 λo=>bw 4 (ad a 0) o (aI (ad a 0) 4 λp=>K (.agg ⟨p⟩))))) (aI (ad c 0) 13 λq=>wG q (x2 λr s=>(xS λt=>(xI .i64 λd=>br (d !=0) (ch (1=1/\True) (ch (4=4) (jC (ad a 0) [.i d,.l none 0 0,.l none 0 0,.l none 0 0] (aI (ad a 0) 4 λu=>K (.agg ⟨u⟩))))) (nn b λv=>lT (v.add 9) λw=>br w (ch (1=1/\True) (ch (4=4) (jC (ad a 0) [.i 9,.l none 0 0,.l none 0 0,.l none 0 0] (aI (ad a 0) 4 λx=>K (.agg ⟨x⟩))))) (jh b t (xI .i64 λe=>br (e !=0) (ch (1=1/\True) (ch (4=4) (jC (ad a 0) [.i e,.l none 0 0,.l none 0 0,.l none 0 0] (aI (ad a 0) 4 λy=>K (.agg ⟨y⟩))))) (tick (nn b λz=>lP (z.add 6) λA=>aI (ad c 0) 13 λB=>wv A B (xA 4 λC=>bw 4 (ad a 0) C (aI (ad a 0) 4 λD=>K (.agg ⟨D⟩))))))))) s) r))))
end Go.Prog
namespace Go.Up
open Go.Sep Go.Den Go.RowKit Go.Prog Go.Md Go.cD
structure jF where
 op:Int
 aB:List bC
 cm:List cE
 now:Int
 ids:List Nat
 xM:Nat
 jT:Int
 xm:Int
 wu:Bool
 tO:Bool
 qy:Bool
 kE:Int
structure vx where
 sa:OA
 ca:Nat
 st:OA
 ct:Nat
 si:OA
 ci:Nat
def pH(q:jF):LV:=nm q.xM++[.i q.jT,.i q.xm,.b q.wu,.b q.tO,.b q.qy,.i q.kE]
def gB(q:jF)(s:vx):LV:=[.i q.op,.l s.sa q.aB.length s.ca,.l s.st q.cm.length s.ct,.i q.now,.l s.si q.ids.length s.ci]++pH q
def Sc(q:jF)(s:vx):(gB q s).length=13:=rfl
instance{q:jF}{s:vx}:Ln (gB q s) 13:=⟨rfl⟩
instance{q:jF}:Ln (pH q) 8:=⟨rfl⟩
instance{q:jF}{s:vx}:Gt (gB q s) 0 (.i q.op):=⟨rfl⟩
instance{q:jF}{s:vx}:Gt (gB q s) 1 (.l s.sa q.aB.length s.ca):=⟨rfl⟩
instance{q:jF}{s:vx}:Gt (gB q s) 2 (.l s.st q.cm.length s.ct):=⟨rfl⟩
instance{q:jF}{s:vx}:Gt (gB q s) 3 (.i q.now):=⟨rfl⟩
instance{q:jF}{s:vx}:Gt (gB q s) 4 (.l s.si q.ids.length s.ci):=⟨rfl⟩
instance{q:jF}:Gt (pH q) 2 (.i q.jT):=⟨rfl⟩
instance{q:jF}:Gt (pH q) 3 (.i q.xm):=⟨rfl⟩
instance{q:jF}:Gt (pH q) 4 (.b q.wu):=⟨rfl⟩
instance{q:jF}:Gt (pH q) 5 (.b q.tO):=⟨rfl⟩
instance{q:jF}:Gt (pH q) 6 (.b q.qy):=⟨rfl⟩
instance{q:jF}:Gt (pH q) 7 (.i q.kE):=⟨rfl⟩
instance{L:LH}{X:WK}{r o:Nat}{q:jF}{s:vx}{cs:LV}{f:LV->LH}[i:Lc (Sep.pt r) L cs f][s2:Sub cs o 13 (gB q s)]:Wk L (kp ⟨r,o,none⟩ (gB q s) X) L X:=⟨λ_ h=>RI (n:=13) h⟩
def AI(q:jF)(s:vx):∀v∈gB q s,v.oneCell'=true:=λv h=>by
 simp[gB,pH,nm] at h;rcases h with rfl|rfl|rfl|rfl|rfl|rfl|rfl|rfl|rfl|rfl|rfl|rfl|rfl<;>rfl
instance{q:jF}{s:vx}:Sub (gB q s) 0 13 (gB q s):=⟨rfl,λj v h=>by rw[aC];exact h⟩
instance{q:jF}{s:vx}:Sub (gB q s) 5 8 (pH q):=⟨rfl,λj v h=>by
 show([_,_,_,_,_]++pH q)[5+j]?=some v
 rw[iz (by simp)];simpa using h⟩
instance{x1 x2 x3 x4 x5 x6 x7 x8 x9 DO DN DM DL:Value}{q:jF}{s:vx}:Wr [x1,x2,x3,x4,x5,x6,x7,x8,x9,DO,DN,DM,DL] 0 (gB q s) (gB q s):=⟨rfl,aG _,AI q s⟩
def nK.mono{α:Type}{W:World}{R R':LH}{g:α->LV}{e:Nat}{s:OA}{l:List α}[h:Has R R'](hr:nK W R g e s l):nK W R' g e s l:=λw hw=>hr w (h.sub hw)
structure pC(W:World)(R:LH)(q:jF)(s:vx):Prop where
 aB:nK W R aK 14 s.sa q.aB
 cm:nK W R aL 16 s.st q.cm
 ids:nK W R nm 2 s.si q.ids
 ca:q.aB.length<=s.ca
 ct:q.cm.length<=s.ct
 ci:q.ids.length<=s.ci
def rD(e:Int)(rb:OA)(rn rc:Nat)(ab:OA)(an ac:Nat)(tb:OA)(tn tc:Nat):LV:=[.i e,.l rb rn rc,.l ab an ac,.l tb tn tc]
instance{e:Int}{rb ab tb:OA}{rn rc an ac tn tc:Nat}:Ln (rD e rb rn rc ab an ac tb tn tc) 4:=⟨rfl⟩
instance{e:Int}{rb ab tb:OA}{rn rc an ac tn tc:Nat}:Gt (rD e rb rn rc ab an ac tb tn tc) 0 (.i e):=⟨rfl⟩
instance{e:Int}{rb ab tb:OA}{rn rc an ac tn tc:Nat}:Gt (rD e rb rn rc ab an ac tb tn tc) 1 (.l rb rn rc):=⟨rfl⟩
instance{e:Int}{rb ab tb:OA}{rn rc an ac tn tc:Nat}:Gt (rD e rb rn rc ab an ac tb tn tc) 2 (.l ab an ac):=⟨rfl⟩
instance{e:Int}{rb ab tb:OA}{rn rc an ac tn tc:Nat}:Gt (rD e rb rn rc ab an ac tb tn tc) 3 (.l tb tn tc):=⟨rfl⟩
def Em{e:Int}{rb:OA}{rn rc:Nat}{ab:OA}{an ac:Nat}{tb:OA}{tn tc:Nat}:∀v∈rD e rb rn rc ab an ac tb tn tc,v.oneCell'=true:=λv h=>by
 simp[rD] at h;rcases h with rfl|rfl|rfl|rfl<;>rfl
instance{x1 x2 x3 x4:Value}{e:Int}{rb:OA}{rn rc:Nat}{ab:OA}{an ac:Nat}{tb:OA}{tn tc:Nat}:Wr [x1,x2,x3,x4] 0 (rD e rb rn rc ab an ac tb tn tc) (rD e rb rn rc ab an ac tb tn tc):=⟨rfl,aG _,Em⟩
instance{x1 x2 x3 x4:Value}{e:Int}{rb:OA}{rn rc:Nat}{ab:OA}{an ac:Nat}{tb:OA}{tn tc:Nat}:Wr [x1,x2,x3,x4] 0 [.i e,.l rb rn rc,.l ab an ac,.l tb tn tc] (rD e rb rn rc ab an ac tb tn tc):=⟨rfl,aG _,Em⟩
instance{e:Int}{rb:OA}{rn rc:Nat}{ab:OA}{an ac:Nat}{tb:OA}{tn tc:Nat}:Sub (rD e rb rn rc ab an ac tb tn tc) 0 4 (rD e rb rn rc ab an ac tb tn tc):=⟨rfl,λj v h=>by rw[aC];exact h⟩
instance{e:Int}{rb:OA}{rn rc:Nat}{ab:OA}{an ac:Nat}{tb:OA}{tn tc:Nat}:Sub [.i e,.l rb rn rc,.l ab an ac,.l tb tn tc] 0 4 (rD e rb rn rc ab an ac tb tn tc):=⟨rfl,λj v h=>by rw[aC];exact h⟩
def k8(q:jF):Bool:=
 if q.op=1 then decide (1<=q.aB.length)&&decide (q.aB.length<=8) else if q.op=2 then decide (1<=q.cm.length)&&decide (q.cm.length<=8) else if q.op=3 then decide (0<=q.now)&&decide (q.now<=1099511627776) else false
def fY(q:jF):Bool:=decide (q.op=1\/q.op=2\/q.op=3)
def bo(m:aA):aY:=⟨m.cy.map (Md.full m.ax),m.ax,m.clock,m.ay⟩
def qh(m:aA):oT (bo m) m:=⟨rfl,rfl,rfl,rfl⟩
def Ih{b:aY}{m:aA}(h:oT b m):b=bo m:=by
 obtain⟨h1,h2,h3,h4⟩:=h;cases b
 simp only at h1 h2 h3 h4;subst h1 h2 h3 h4;rfl
def bD(m:aA)(q:jF):Int×List Int×aA:=
 if k8 q=false then(1,[],m)
 else if q.op=1 then(0,hG aA.make Ai q.aB.length m q.aB)
 else if q.op=2 then(0,hG aA.qL Ah q.cm.length m q.cm)
 else(0,[],m.time q.now)
def JR{m:aA}(hg:Md.bN m)(l:List bC)(n:Nat):(hG aY.make Ai n (bo m) l).1=(hG aA.make Ai n m l).1/\(hG aY.make Ai n (bo m) l).2=bo (hG aA.make Ai n m l).2/\Md.bN (hG aA.make Ai n m l).2:=by
 obtain⟨h1,h2⟩:=AD (f:=aY.make) (g:=aA.make) (R:=λ(b:aY)(m:aA)=>oT b m/\Md.bN m) Ai (λs t x h=>h.1.make h.2) n l (bo m) m ⟨qh m,hg⟩;exact⟨h1,Ih h2.1,h2.2⟩
def N1{m:aA}(hg:Md.bN m)(l:List cE)(n:Nat):(hG aY.qL Ah n (bo m) l).1=(hG aA.qL Ah n m l).1/\(hG aY.qL Ah n (bo m) l).2=bo (hG aA.qL Ah n m l).2/\Md.bN (hG aA.qL Ah n m l).2:=by
 obtain⟨h1,h2⟩:=AD (f:=aY.qL) (g:=aA.qL) (R:=λ(b:aY)(m:aA)=>oT b m/\Md.bN m) Ah (λs t x h=>h.1.qL h.2) n l (bo m) m ⟨qh m,hg⟩;exact⟨h1,Ih h2.1,h2.2⟩
section
variable {W:World} {L R:LH} {K:VK} {X:WK} {p:Nat} {q:jF} {s:vx}
def T.Zp{A B C D:HP}(h:T W (D::A::B::C::R) X):T W (A::B::C::D::R) X:=T.perm h (bu (l₁:=[A,B,C]) (l₂:=[D])|>.append_right R)
def OZ(h:T W L (K (.b (k8 q)))):T W L (tu (gB q s) K):=by
 unfold tu;apply ws;intros;apply dh<;>intro g1
 ·have g1:q.op=1:=by simpa using g1
  unfold k8 at h;rw[ai g1] at h;apply ws;apply fV<;>intro g2
  ·rw[av (by omega),dV] at h;apply ws;refine T.fin (T.dp h) ?_;congr 1;rw[decide_eq_decide];omega
  ·rw[aq (by omega),fD] at h;exact T.dp h
 have g1: ¬q.op=1:=by simpa using g1
 apply dh<;>intro g2
 ·have g2:q.op=2:=by simpa using g2
  unfold k8 at h;rw[ag g1,ai g2] at h;apply ws;apply fV<;>intro g2
  ·rw[av (by omega),dV] at h;apply ws;refine T.fin (T.dp h) ?_;congr 1;rw[decide_eq_decide];omega
  ·rw[aq (by omega),fD] at h;exact T.dp h
 have g2: ¬q.op=2:=by simpa using g2
 unfold k8 at h;rw[ag g1,ag g2] at h;apply dh<;>intro g3
 ·have g3:q.op=3:=by simpa using g3
  rw[ai g3] at h;apply ws;apply fV<;>intro g2
  ·rw[av (by omega),dV] at h;apply ws;exact T.dp h
  ·rw[aq (by omega),fD] at h;exact T.dp h
 have g3: ¬q.op=3:=by simpa using g3
 rw[ag g3] at h;exact T.dp h
def B2(h:T W L (K (.b (fY q)))):T W L (qC (gB q s) K):=by
 unfold qC;unfold fY at h;apply ws;intros;apply dh<;>intro g1
 ·have g1:q.op=1:=by simpa using g1
  rw[av (.inl g1)] at h;exact T.dp h
 have g1: ¬q.op=1:=by simpa using g1
 apply ws;apply dh<;>intro g2
 ·have g2:q.op=2:=by simpa using g2
  rw[av (.inr (.inl g2))] at h;exact T.dp h
 have g2: ¬q.op=2:=by simpa using g2
 apply ws;refine T.fin (T.dp h) ?_
 congr 1
 rw[bV];simp[g1,g2]
def Eg{b:aY}{hs:List C}{f:aY×List C->LH}[i:Lc (cO p) L (b,hs) f](hl:hs.length<1000000)(h:T W (f (b,[])) (K (.tuple ⟨[]⟩))):T W L (lj (ah p) K):=λw hw=>by
 obtain⟨k,hk,e1⟩:=i.at_;have h1:=hw.focus hk;obtain⟨hg,h2⟩:=h1.and;refine(show T W (cP p (fF b,hs)::L.eraseIdx k) _ from ?_) w h2;unfold lj;apply ws;refine Xy (p:=p) hl ?_;apply ws;intro w2 hw2;refine h w2 ?_;rw[e1];exact St.rA (A:=cO p (b,hs)) (St.and_intro hg hw2) hk
def K3(G:qF W){m:aA}(hg:Md.bN m)(hq:pC W R q s)(hA:q.op=1->∀a∈q.aB,wD a)(hT:q.op=2->∀t∈q.cm,TOk t)
 (h:∀rb rc,Md.bN (bD m q).2.2->T W (cO p (bo (bD m q).2.2,[])::own rb (bD m q).2.1.length rc 1 ((bD m q).2.1.flatMap I1)::R) (K (.agg ⟨rD (bD m q).1 rb (bD m q).2.1.length rc none 0 0 none 0 0⟩))):
 T W (cO p (bo m,[])::R) (wv (ah p) (gB q s) K):=by
 unfold wv
 repeat' first|apply ws;intros|apply wb|refine OZ ?_
 cases ge:k8 q with
 |false=>
  have e:bD m q=(1,[],m):=by unfold bD;rw[ai ge]
  rw[e] at h;apply ws;refine T.drop (T.drop ?_);refine gZ (e:=1) ?_;exact T.perm (h none 0 hg) (bU.swap _ _ _)
 |true=>
  apply ws;intros;apply dh<;>intro g1
  ·have g1:q.op=1:=by simpa using g1
   have e:bD m q=(0,hG aA.make Ai q.aB.length m q.aB):=by unfold bD;rw[ag (by rw[ge];decide),ai g1]
   rw[e] at h;dsimp only at h;have hlen:1<=q.aB.length/\q.aB.length<=8:=by
    unfold k8 at ge;rw[ai g1] at ge;simpa using ge
   obtain⟨s1,s2,s3⟩:=JR hg q.aB q.aB.length;apply ws;refine T.Zp ?_;refine Zn G (hs:=[]) (R:=_::_::_::R) hq.aB.mono hq.ca (hA g1) ⟨m,qh m,hg⟩ (by omega) (by show 0+_<_;omega) λr ft LS his hln=>?_;rw[s1,s2];rw[s1] at hln;apply ws;refine Eg (p:=p) (by have:ft.length<=0+_:=LS;omega) ?_;apply ws;have:=h (ah r) q.aB.length s3;rw[hln] at this;refine T.sub this ?_;exact qv
  have g1: ¬q.op=1:=by simpa using g1
  apply dh<;>intro g2
  ·have g2:q.op=2:=by simpa using g2
   have e:bD m q=(0,hG aA.qL Ah q.cm.length m q.cm):=by unfold bD;rw[ag (by rw[ge];decide),ag g1,ai g2]
   rw[e] at h;dsimp only at h;have hlen:1<=q.cm.length/\q.cm.length<=8:=by
    unfold k8 at ge;rw[ag g1,ai g2] at ge;simpa using ge
   obtain⟨s1,s2,s3⟩:=N1 hg q.cm q.cm.length;apply ws;refine T.Zp ?_;refine Zm G (hs:=[]) (R:=_::_::_::R) hq.cm.mono hq.ct (hT g2) ⟨m,qh m,hg⟩ (by omega) (by show 0+_<_;omega) λr ft LS his hln=>?_;rw[s1,s2];rw[s1] at hln;apply ws;refine Eg (p:=p) (by have:ft.length<=0+_:=LS;omega) ?_;apply ws;have:=h (ah r) q.cm.length s3;rw[hln] at this;refine T.sub this ?_;exact qv
  ·have g2: ¬q.op=2:=by simpa using g2
   have g3:q.op=3/\0<=q.now/\q.now<=1099511627776:=by
    unfold k8 at ge;rw[ag g1,ag g2] at ge;by_cases g3:q.op=3
    ·rw[ai g3] at ge;exact⟨g3,by simpa using ge⟩
    ·rw[ag g3] at ge;cases ge
   have e:bD m q=(0,[],m.time q.now):=by unfold bD;rw[ag (by rw[ge];decide),ag g1,ag g2]
   rw[e] at h;dsimp only at h;apply ws;refine T.Zp ?_;intro w hw;refine⟨W,_::_::_::R,p,bo m,m,[],rfl,hw,qh m,hg,by simp,λn b' ft w' Ak LY hl1 ZU=>?_⟩;have hb:=Ih Ak;subst hb;refine T.at ?_ ZU;apply ws;refine Eg (p:=p) (by omega) ?_;apply ws;have:=h none 0 LY;refine gZ (e:=1) (T.Mo ?_);refine T.sub this ?_
   repeat (first|exact ba.refl _|apply ba.cons_cons|apply ba.cons)
end
def xa(b:aY)(p:nN):bW:=(b.ax[p.2.toNat]?).getD zK
def btw(b:aY)(from_ toX:Int)(wZ:Bool):List bW:=
 (if wZ then(qo from_ toX (fo 0 b.ax)).reverse else qo from_ toX (fo 0 b.ax)).map (xa b)
def Ep{from_ toX:Int}{l:List nN}{x:nN}(h:x∈qo from_ toX l):x∈l:=List.mem_of_mem_drop (List.mem_of_mem_take h)
def F'{l:List bW}{x:nN}(h:x∈fo 0 l):∃(j:Nat)(k:bW),l[j]?=some k/\x=(k.move.ay,(j:Int)):=by
 obtain⟨j,hj⟩:=qj h;rw[lZ] at hj;cases hl:l[j]? with
 |none=>rw[hl] at hj;cases hj
 |some k=>rw[hl] at hj;simp at hj;exact⟨j,k,hl,hj.symm⟩
def je(k:bW):(bG k).length=33:=rfl
section
variable {W:World} {L R:LH} {K:VK} {X:WK} {p:Nat} {b:aY} {hs:List C} {f:aY×List C->LH}
def Q1[i:Lc (cO p) L (b,hs) f]{from_ toX:Int}{wZ:Bool}(h:∀b' c' out,out=btw b from_ toX wZ->T W (own b' out.length c' 33 (out.flatMap bG)::L) (K (.l b' out.length c'))):
 T W L (nP (ah p) from_ toX wZ K):=by
 have hL:f (b,hs)=L:=i.same;refine LK (p:=p) λla lk ti tn vs bx R hg hc pG=>?_;have many:=hg.many;unfold nP;refine yk ?_;refine CY ?_;simp only[gN,aC];refine QL (p:=p) hg.yo (by show(fo 0 b.ax).length<_;rw[lY];omega) λb' c' out ho=>?_;have nM:∀x∈out,∃(j:Nat)(k:bW),b.ax[j]?=some k/\x=(k.move.ay,(j:Int)):=λx hx=>F' (by
  rw[ho] at hx
  split at hx
  ·exact Ep (List.mem_reverse.1 hx)
  ·exact Ep hx)
 have xY:out.length<=96:=by
  have h1:∀x:List nN,x=qo from_ toX (fo 0 b.ax)->x.length<=96:=λx hx=>by
   rw[hx];unfold qo;rw[aD,aS,lY];omega
  rw[ho];split
  ·rw[jb];exact h1 _ rfl
  ·exact h1 _ rfl
 have aeo:out.map (xa b)=btw b from_ toX wZ:=by rw[ho];rfl
 clear ho;refine wL ?_;refine gZ (e:=33) ?_;intro w jW;refine⟨λvv w=>∃(i:Nat)(bo:OA)(cc:Nat)(done:List bW),i<=out.length/\done=(out.take i).map (xa b)/\vv=[.l none 0 0,.l bo done.length cc,.l b' out.length c',.i (out.length:Int),.i (i:Int)]/\
  St W w (own bo done.length cc 33 (done.flatMap bG)::own b' out.length c' 2 (out.flatMap oY)::gM p (gp la lk ti tn vs (fF b))::sj aK 14 la (p,(fF b).aB)::sj bG 33 lk (p,(fF b).ax)::oV ti (fF b).po::oV tn (fF b).ib::vO bx::R),
  λvs _=>match vs with|[_,_,_,_,.int _ d]=>out.length-d.toNat|_=>0,⟨0,none,0,[],aE _,by simp,rfl,jW⟩,?_⟩
 rintro qI oW re bo qQ cc xG vT wO n3 n4 w2 ⟨i,b0,c0,done,hi,kZ,e,gX⟩;cases e
 refine T.at ?_ gX;have e5:=nL i;have zv:done.length=i:=by rw[kZ,bP,aD];omega
 apply fV<;>intro g1
 ·have cf:i<out.length:=by omega
  have gx:=aj cf;have gm:=bR cf;generalize out[i]=x at gx gm;obtain⟨j,k,hk,rfl⟩:=nM x gm;have hka:xa b (k.move.ay,(j:Int))=k:=by unfold xa;dsimp only;rw[ao,hk];rfl
  have ve:(done++[k])=(out.take (i+1)).map (xa b):=by rw[a8,gx,cR,<-kZ];simp[hka]
  refine dM (b:=b') ⟨by omega,by omega⟩ λrb hb=>?_;subst hb;rw[ao];refine gI nX gx ?_
  repeat' first|apply ws;intros|apply wb
  ·refine Uj (l:=lk) (x:=k) hk (by show b.ax.length<_;omega) ?_;apply ws;intros;refine jm (b:=bo) (x:=k) rfl rfl rfl (by omega) (by omega) (mC _) λb2 c2=>?_;rw[e5];refine T.drop (T.drop (T.drop ?_));exact λw3 h3=>⟨⟨i+1,b2,c2,done++[k],cf,ve,by simp,by simpa using h3⟩,by show out.length-((i+1:Nat):Int).toNat<out.length-(i:Int).toNat;omega⟩
  ·refine Uj (l:=lk) (x:=k) hk (by show b.ax.length<_;omega) ?_;apply ws;intros;refine jm (b:=bo) (x:=k) rfl rfl rfl (by omega) (by omega) (mC _) λb2 c2=>?_;rw[e5];refine T.drop (T.drop (T.drop ?_));exact λw3 h3=>⟨⟨i+1,b2,c2,done++[k],cf,ve,by simp,by simpa using h3⟩,by show out.length-((i+1:Nat):Int).toNat<out.length-(i:Int).toNat;omega⟩
 ·have iM:i=out.length:=by omega
  subst iM;rw[aR] at kZ;have:=pG [_] b hs vs bx _ hg hc (by rw[hL];exact h bo cc done (kZ.trans aeo));refine T.sub this ?_;exact qv
def aaR[i:Lc (cO p) L (b,hs) f][hh:Has R L]{s:OA}{c:Nat}{ids:List Nat}(hr:nK W R nm 2 s ids)(hl:ids.length<=1000)
 (h:∀b' c' out,out=ids.filterMap b.find->T W (own b' out.length c' 14 (out.flatMap aK)::L) (K (.l b' out.length c'))):T W L (tZ (some ⟨p,0,none⟩) s ids.length c K):=by
 unfold tZ;refine gZ (e:=14) ?_;intro w jW;refine⟨λvv w=>∃(i:Nat)(bo:OA)(cc:Nat)(done:List bC),i<=ids.length/\done=(ids.take i).filterMap b.find/\done.length<=i/\vv=[.l none 0 0,.l bo done.length cc,.l s ids.length c,.i (ids.length:Int),.i (i:Int)]/\
  St W w (own bo done.length cc 14 (done.flatMap aK)::L),
  λvs _=>match vs with|[_,_,_,_,.int _ d]=>ids.length-d.toNat|_=>0,⟨0,none,0,[],aE _,by simp,aG _,rfl,jW⟩,?_⟩
 rintro qI oW re bo qQ cc xG vT wO n3 n4 w2 ⟨i,b0,c0,done,hi,kZ,zv,e,gX⟩;cases e
 refine T.at ?_ gX;have e5:=nL i;apply fV<;>intro g1
 ·have cf:i<ids.length:=by omega
  have gx:=aj cf;generalize ids[i]=x at gx;have gi:(ids.take (i+1)).filterMap b.find=done++(b.find x).toList:=by
   rw[a8,gx,List.filterMap_append,<-kZ]
   congr 1
  refine iN hr ⟨by omega,by omega⟩ rfl λa ha=>?_;rw[ao];refine jH hr ha gx rfl ?_
  repeat' first|apply ws;intros|apply wb|refine wB (p:=p) ?_
  rw[e5];cases hf:b.find x with
  |none=>
   rw[hf] at gi;simp only[eQ,gw];apply ws;refine T.drop (T.drop ?_);exact λw3 h3=>⟨⟨i+1,bo,cc,done,cf,by simp[gi],by omega,rfl,h3⟩,by show ids.length-((i+1:Nat):Int).toNat<ids.length-(i:Int).toNat;omega⟩
  |some a2=>
   rw[hf] at gi;simp only[dy,dx];apply ws;intros;refine jm (b:=bo) (x:=a2) rfl rfl rfl (by omega) (by omega) (iv _) λb2 c2=>?_;refine T.drop (T.drop (T.drop ?_));exact λw3 h3=>⟨⟨i+1,b2,c2,done++[a2],cf,by simpa using gi.symm,by simp;omega,by simp,by simpa using h3⟩,by show ids.length-((i+1:Nat):Int).toNat<ids.length-(i:Int).toNat;omega⟩
 ·have iM:i=ids.length:=by omega
  subst iM;rw[aR] at kZ;exact h bo cc done kZ
def aaQ[i:Lc (cO p) L (b,hs) f][hh:Has R L]{s:OA}{c:Nat}{ids:List Nat}(hr:nK W R nm 2 s ids)(hl:ids.length<=1000)
 (h:∀b' c' out,out=ids.filterMap (λid=>(b.named id).map (·.move))->T W (own b' out.length c' 16 (out.flatMap aL)::L) (K (.l b' out.length c'))):T W L (sT (some ⟨p,0,none⟩) s ids.length c K):=by
 unfold sT;refine gZ (e:=16) ?_;intro w jW;refine⟨λvv w=>∃(i:Nat)(bo:OA)(cc:Nat)(done:List cE),i<=ids.length/\done=(ids.take i).filterMap (λid=>(b.named id).map (·.move))/\done.length<=i/\vv=[.l none 0 0,.l bo done.length cc,.l s ids.length c,.i (ids.length:Int),.i (i:Int)]/\
  St W w (own bo done.length cc 16 (done.flatMap aL)::L),
  λvs _=>match vs with|[_,_,_,_,.int _ d]=>ids.length-d.toNat|_=>0,⟨0,none,0,[],aE _,by simp,aG _,rfl,jW⟩,?_⟩
 rintro qI oW re bo qQ cc xG vT wO n3 n4 w2 ⟨i,b0,c0,done,hi,kZ,zv,e,gX⟩;cases e
 refine T.at ?_ gX;have e5:=nL i;apply fV<;>intro g1
 ·have cf:i<ids.length:=by omega
  have gx:=aj cf;generalize ids[i]=x at gx;have gi:(ids.take (i+1)).filterMap (λid=>(b.named id).map (·.move))=done++((b.named x).map (·.move)).toList:=by
   rw[a8,gx,List.filterMap_append,<-kZ]
   congr 1
  refine iN hr ⟨by omega,by omega⟩ rfl λa ha=>?_;rw[ao];refine jH hr ha gx rfl ?_
  repeat' first|apply ws;intros|apply wb|refine Je (p:=p) ?_
  rw[e5];cases hf:b.named x with
  |none=>
   rw[hf] at gi;simp only[eQ,gw];apply ws;refine T.drop (T.drop ?_);exact λw3 h3=>⟨⟨i+1,bo,cc,done,cf,by simp[gi],by omega,rfl,h3⟩,by show ids.length-((i+1:Nat):Int).toNat<ids.length-(i:Int).toNat;omega⟩
  |some a2=>
   rw[hf] at gi;simp only[dy,dx];apply ws;intros;refine jm (b:=bo) (x:=a2.move) rfl rfl rfl (by omega) (by omega) (o0 _) λb2 c2=>?_;refine T.drop (T.drop (T.drop ?_));exact λw3 h3=>⟨⟨i+1,b2,c2,done++[a2.move],cf,by simpa using gi.symm,by simp;omega,by simp,by simpa using h3⟩,by show ids.length-((i+1:Nat):Int).toNat<ids.length-(i:Int).toNat;omega⟩
 ·have iM:i=ids.length:=by omega
  subst iM;rw[aR] at kZ;exact h bo cc done kZ
end
instance{q:jF}:Sub (pH q) 0 2 (nm q.xM):=⟨rfl,λj v h=>by
 rw[aC]
 match j with
 |0=>exact h
 |1=>exact h
 |j+2=>simp[nm] at h⟩
instance{k:bW}:Sub (bG k) 18 2 (nm k.move.bp):=⟨rfl,(zb (cs:=bG k) (o:=18) (n:=k.move.bp) rfl rfl).2⟩
instance{k:bW}:Sub (bG k) 20 2 (nm k.move.aP):=⟨rfl,(zb (cs:=bG k) (o:=20) (n:=k.move.aP) rfl rfl).2⟩
def KV(q:jF):∀v∈pH q,v.oneCell'=true:=λv h=>by
 simp[pH,nm] at h;rcases h with rfl|rfl|rfl|rfl|rfl|rfl|rfl|rfl<;>rfl
instance{x1 x2 x3 x4 x5 x6 x7 x8:Value}{q:jF}:Wr [x1,x2,x3,x4,x5,x6,x7,x8] 0 (pH q) (pH q):=⟨rfl,aG _,KV q⟩
def fits(q:jF)(k:bW):Bool:=(q.wu&&decide (k.move.bp=q.xM))||(q.tO&&decide (k.move.aP=q.xM))
def ofL(b:aY)(q:jF):List cE:=(((btw b q.jT q.xm q.qy).filter (fits q)).take q.kE.toNat).map (·.move)
def Cj{α:Type}{P:α->Bool}{l:List α}{i n:Nat}{x:α}(hx:l[i]?=some x):
 ((l.take (i+1)).filter P).take n=if(((l.take i).filter P).take n).length<n then(if P x then((l.take i).filter P).take n++[x] else((l.take i).filter P).take n) else((l.take i).filter P).take n:=by
 rw[a8,hx,List.filter_append];show(_++[x].filter P).take n=_;generalize (l.take i).filter P=A;rw[aD];by_cases h:min n A.length<n
 ·rw[ai h];have hA:A.length<n:=by omega
  by_cases hp:P x=true
  ·rw[ai hp,kT hp,List.filter_nil,bM (by simp;omega),bM (by omega)]
  ·rw[ag hp,kU hp,List.filter_nil,bI]
 ·rw[ag h,List.take_append_of_le_length (by omega)]
section
variable {W:World} {L R:LH} {K:VK} {X:WK} {p:Nat} {b:aY} {hs:List C} {f:aY×List C->LH} {q:jF} {s:vx}
def Sq{I1:LV->World->Prop}{pI:LV->World->Nat}{M:LH}{r1 r2 cc vT wO:Nat}{bo xG:OA}{done:List cE}{x:bW}{n3 n4:Int}{w2:World}{g:LV->LH}
 (hA:(done.length<q.kE.toNat/\fits q x=true)->∀b2 c2,T W (own b2 (done.length+1) c2 16 ((done++[x.move]).flatMap aL)::M) (λw3=>I1 [.p (some (ad r1 0)),.l none 0 0,.l b2 (done.length+1) c2,.l xG vT wO,.i n3,.i (aa.wrap (n4+1))] w3/\
  pI [.p (some (ad r1 0)),.l none 0 0,.l b2 (done.length+1) c2,.l xG vT wO,.i n3,.i (aa.wrap (n4+1))] w3<pI [.p (some (ad r1 0)),.l none 0 0,.l bo done.length cc,.l xG vT wO,.i n3,.i n4] w2))
 (hN: ¬(done.length<q.kE.toNat/\fits q x=true)->T W (own bo done.length cc 16 (done.flatMap aL)::M) (λw3=>I1 [.p (some (ad r1 0)),.l none 0 0,.l bo done.length cc,.l xG vT wO,.i n3,.i (aa.wrap (n4+1))] w3/\
  pI [.p (some (ad r1 0)),.l none 0 0,.l bo done.length cc,.l xG vT wO,.i n3,.i (aa.wrap (n4+1))] w3<pI [.p (some (ad r1 0)),.l none 0 0,.l bo done.length cc,.l xG vT wO,.i n3,.i n4] w2))
 [i1:Lc (Sep.pt r1) M (pH q) g](IG:0<=q.kE/\q.kE<=16)(hd:done.length<=1000):
 T W (Sep.pt r2 (bG x)::own bo done.length cc 16 (done.flatMap aL)::M) (br q.wu (aI (ad r2 18) 2 λQH=>aI (ad r1 0) 2 λRe=>rl [.u 0,.u 0] QH Re λb8=>mU.j1 K (ad r1 0) r2 done.length bo cc I1 none 0 0 xG vT wO n3 n4 pI w2 b8)
   (mU.j1 K (ad r1 0) r2 done.length bo cc I1 none 0 0 xG vT wO n3 n4 pI w2 false)):=by
 have j3:∀yes:Bool,(yes=true↔done.length<q.kE.toNat/\fits q x=true)->T W (Sep.pt r2 (bG x)::own bo done.length cc 16 (done.flatMap aL)::M) (mU.j3 K r2 bo done.length cc I1 (ad r1 0) none 0 0 xG vT wO n3 n4 pI w2 yes):=λyes hy=>by
  unfold mU.j3;cases yes with
  |true=>
   apply ws;intros;refine jm (b:=bo) (x:=x.move) rfl rfl rfl (by omega) (by omega) (o0 _) λb2 c2=>?_;exact T.drop (T.drop (hA (hy.1 rfl) b2 c2))
  |false=>
   apply ws;exact T.drop (hN λhh=>by have:=hy.2 hh;cases this)
 have j2:∀b2 b3:Bool,(b2||b3)=fits q x->T W (Sep.pt r2 (bG x)::own bo done.length cc 16 (done.flatMap aL)::M) (mU.j2 K (ad r1 0) done.length b2 r2 bo cc I1 none 0 0 xG vT wO n3 n4 pI w2 b3):=λb2 b3 hb=>by
  unfold mU.j2;apply ws;apply fV<;>intro g1
  ·cases b2 with
   |true=>
    apply ws;refine j3 true ⟨λ_=>⟨by omega,by rw[<-hb];rfl⟩,λ_=>rfl⟩
   |false=>
    apply ws;rw[Bool.false_or] at hb;refine j3 b3 ⟨λh=>⟨by omega,by rw[<-hb];exact h⟩,λh=>by rw[hb];exact h.2⟩
  ·refine j3 false ⟨λh=>(by cases h),λh=>(by omega)⟩
 have j1:∀b2:Bool,b2=(q.wu&&decide (x.move.bp=q.xM))->T W (Sep.pt r2 (bG x)::own bo done.length cc 16 (done.flatMap aL)::M) (mU.j1 K (ad r1 0) r2 done.length bo cc I1 none 0 0 xG vT wO n3 n4 pI w2 b2):=λb2 hb=>by
  unfold mU.j1;apply ws;cases hc:q.tO with
  |true=>
   apply ws;refine j2 _ _ ?_;unfold fits;rw[hb,hc,dV]
  |false=>
   apply ws;refine j2 _ _ ?_;unfold fits;rw[hb,hc,fD]
 cases UL:q.wu with
 |true=>
  apply ws;refine j1 _ ?_;rw[UL,dV]
 |false=>
  apply ws;refine j1 _ ?_;rw[UL,fD]
def ag0[i:Lc (cO p) L (b,hs) f](IG:0<=q.kE/\q.kE<=16)(h:∀b' c' out,out=ofL b q->T W (own b' out.length c' 16 (out.flatMap aL)::L) (K (.l b' out.length c'))):
 T W L (mU (ah p) (pH q) K):=by
 unfold mU;refine qm (p:=p) λhg=>?_;have many:=hg.many;have acn:(btw b q.jT q.xm q.qy).length<=96:=by
  unfold btw;rw[bP];have h1:(qo q.jT q.xm (fo 0 b.ax)).length<=96:=by unfold qo;rw[aD,aS,lY];omega
  split
  ·rw[jb];exact h1
  ·exact h1
 apply ws;intros;rename_i r1;refine Q1 (p:=p) λbb bc l hl=>?_;rw[<-hl] at acn;apply ws;refine gZ (e:=16) ?_;intro w jW;refine⟨λvv w=>∃(i:Nat)(bo:OA)(cc:Nat)(done:List cE),i<=l.length/\done=(((l.take i).filter (fits q)).take q.kE.toNat).map (·.move)/\done.length<=i/\vv=[.p (some (ad r1 0)),.l none 0 0,.l bo done.length cc,.l bb l.length bc,.i (l.length:Int),.i (i:Int)]/\
                                                                 St W w (own bo done.length cc 16 (done.flatMap aL)::own bb l.length bc 33 (l.flatMap bG)::Sep.pt r1 (pH q)::L),
  λvs _=>match vs with|[_,_,_,_,_,.int _ d]=>l.length-d.toNat|_=>0,⟨0,none,0,[],aE _,by simp,aG _,rfl,jW⟩,?_⟩
 rintro a1 qI oW re bo qQ cc xG vT wO n3 n4 w2 ⟨i,b0,c0,done,hi,kZ,zv,e,gX⟩;cases e
 refine T.at ?_ gX;have e5:=nL i;apply fV<;>intro g1
 ·have cf:i<l.length:=by omega
  have gx:=aj cf;generalize l[i]=x at gx;have gi:=Cj (P:=fits q) (n:=q.kE.toNat) gx;have wk:done.length=(((l.take i).filter (fits q)).take q.kE.toNat).length:=by rw[kZ,bP]
  rw[<-wk] at gi;have ve:(((l.take (i+1)).filter (fits q)).take q.kE.toNat).map (·.move)=if done.length<q.kE.toNat/\fits q x=true then done++[x.move] else done:=by
   rw[gi];by_cases c1:done.length<q.kE.toNat
   ·rw[ai c1];by_cases c2:fits q x=true
    ·rw[ai c2,ai ⟨c1,c2⟩,cR,<-kZ];rfl
    ·rw[ag c2,ag (λh=>c2 h.2),<-kZ]
   ·rw[ag c1,ag (λh=>c1 h.1),<-kZ]
  refine dM (b:=bb) ⟨by omega,by omega⟩ λrb hb=>?_;subst hb;rw[ao];refine gI je gx ?_;apply ws;intros;rename_i r2;refine Sq (r1:=r1) (r2:=r2) (bo:=bo) (x:=x) (M:=own (ah rb) l.length bc 33 (l.flatMap bG)::Sep.pt r1 (pH q)::L) (λhy b2 c2=>?_) (λhy=>?_) IG (by omega)
  ·rw[e5];rw[ai hy] at ve;exact λw3 h3=>⟨⟨i+1,b2,c2,done++[x.move],cf,ve.symm,by simp;omega,by simp,by simpa using h3⟩,by show l.length-((i+1:Nat):Int).toNat<l.length-(i:Int).toNat;omega⟩
  ·rw[e5];rw[ag hy] at ve;exact λw3 h3=>⟨⟨i+1,bo,cc,done,cf,ve.symm,by omega,rfl,h3⟩,by show l.length-((i+1:Nat):Int).toNat<l.length-(i:Int).toNat;omega⟩
 ·have iM:i=l.length:=by omega
  subst iM;rw[aR] at kZ;have:=h bo cc done (by rw[kZ,hl];rfl);refine T.sub this ?_;exact qv
def o9(q:jF):Bool:=
 if q.op=4\/q.op=5 then decide (1<=q.ids.length)&&decide (q.ids.length<=16)
 else if q.op=6 then decide (0<=q.jT/\0<=q.xm/\1<=q.kE/\q.kE<=16)&&(q.wu||q.tO) else false
def ask(m:aA)(q:jF):Int×List bC×List cE:=
 if o9 q=false then(1,[],[])
 else if q.op=4 then(0,q.ids.filterMap (bo m).find,[])
 else if q.op=5 then(0,[],q.ids.filterMap λid=>((bo m).named id).map (·.move))
 else(0,[],ofL (bo m) q)
def Lz(h:T W L (K (.b (o9 q)))):T W L (ic (gB q s) K):=by
 have main:∀(r1:Nat)(b1:Bool),b1=decide (q.op=4\/q.op=5)->T W (Sep.pt r1 (gB q s)::L) (ic.j1 K r1 q.op b1):=λr1 b1 hb=>by
  unfold ic.j1;unfold o9 at h;by_cases WD:q.op=4\/q.op=5
  ·rw[ai WD] at h;rw[av WD] at hb;subst hb;apply ws;apply fV<;>intro g2
   ·rw[av (by omega),dV] at h;apply ws;refine T.fin (T.dp h) ?_;congr 1;rw[decide_eq_decide];omega
   ·rw[aq (by omega),fD] at h;exact T.dp h
  ·rw[ag WD] at h;rw[aq WD] at hb;subst hb;rw[dY];apply dh<;>intro g6
   ·have g6:q.op=6:=by simpa using g6
    rw[ai g6] at h;apply ws;intros;rename_i r2;have j4:∀b4:Bool,b4=decide (0<=q.jT/\0<=q.xm/\1<=q.kE/\q.kE<=16)->T W (Sep.pt r2 (pH q)::Sep.pt r1 (gB q s)::L) (ic.j4 K r2 b4):=λb4 h4=>by
     unfold ic.j4;rw[<-h4] at h;cases b4 with
     |true=>
      apply ws;rw[dV] at h;cases hd:q.wu with
      |true=>
       rw[hd] at h;apply ws;exact T.dp h
      |false=>
       rw[hd,Bool.false_or] at h;apply ws;exact T.dp h
     |false=>
      apply ws;rw[fD] at h;exact T.dp h
    have j3:∀b3:Bool,b3=decide (0<=q.jT/\0<=q.xm/\1<=q.kE)->T W (Sep.pt r2 (pH q)::Sep.pt r1 (gB q s)::L) (ic.j3 K r2 b3):=λb3 h3=>by
     unfold ic.j3;cases b3 with
     |true=>
      apply ws;refine j4 _ ?_;have:=aQ h3.symm;rw[decide_eq_decide];omega
     |false=>
      apply ws;refine j4 _ ?_;have:=bj h3.symm;exact(aq (by omega)).symm
    have j2:∀b2:Bool,b2=decide (0<=q.jT/\0<=q.xm)->T W (Sep.pt r2 (pH q)::Sep.pt r1 (gB q s)::L) (ic.j2 K r2 b2):=λb2 h2=>by
     unfold ic.j2;cases b2 with
     |true=>
      apply ws;refine j3 _ ?_;have:=aQ h2.symm;rw[decide_eq_decide];omega
     |false=>
      apply ws;refine j3 _ ?_;have:=bj h2.symm;exact(aq (by omega)).symm
    apply fV<;>intro g1
    ·apply ws;refine j2 _ ?_;rw[decide_eq_decide];omega
    ·refine j2 _ ?_;exact(aq (by omega)).symm
   ·have g6: ¬q.op=6:=by simpa using g6
    rw[ag g6] at h;exact T.dp h
 unfold ic;apply ws;intros;apply dh<;>intro g1
 ·have g1':q.op=4:=by simpa using g1
  exact main _ _ (by rw[g1];exact(av (.inl g1')).symm)
 ·have g1': ¬q.op=4:=by simpa using g1
  exact main _ _ (by rw[bV];simp[g1'])
def adE{m:aA}(hq:pC W R q s)
 (h:∀ab ac tb tc,T W (own ab (ask m q).2.1.length ac 14 ((ask m q).2.1.flatMap aK)::own tb (ask m q).2.2.length tc 16 ((ask m q).2.2.flatMap aL)::cO p (bo m,[])::R) (K (.agg ⟨rD (ask m q).1 none 0 0 ab (ask m q).2.1.length ac tb (ask m q).2.2.length tc⟩))):
 T W (cO p (bo m,[])::R) (I0 (ah p) (gB q s) K):=by
 unfold I0
 repeat' first|apply ws;intros|apply wb|refine Lz ?_
 cases ge:o9 q with
 |false=>
  have e:ask m q=(1,[],[]):=by unfold ask;rw[ai ge]
  rw[e] at h;apply ws;refine T.drop (T.drop ?_);exact gZ (e:=16) (gZ (e:=14) (h none 0 none 0))
 |true=>
  apply ws;apply dh<;>intro g1
  ·have g1:q.op=4:=by simpa using g1
   have e:ask m q=(0,q.ids.filterMap (bo m).find,[]):=by unfold ask;rw[ag (by rw[ge];decide),ai g1]
   rw[e] at h;have hlen:q.ids.length<=16:=by unfold o9 at ge;rw[ai (.inl g1)] at ge;simp at ge;exact ge.2
   apply ws;refine aaR (R:=R) (p:=p) hq.ids (by omega) λab ac out ho=>?_;subst ho;apply ws;have:=h ab ac none 0;refine gZ (e:=16) (T.Mo ?_);refine T.sub this ?_
   repeat (first|exact ba.refl _|apply ba.cons_cons|apply ba.cons)
  have g1: ¬q.op=4:=by simpa using g1
  apply dh<;>intro g2
  ·have g2:q.op=5:=by simpa using g2
   have e:ask m q=(0,[],q.ids.filterMap λid=>((bo m).named id).map (·.move)):=by unfold ask;rw[ag (by rw[ge];decide),ag g1,ai g2]
   rw[e] at h;have hlen:q.ids.length<=16:=by unfold o9 at ge;rw[ai (.inr g2)] at ge;simp at ge;exact ge.2
   apply ws;refine aaQ (R:=R) (p:=p) hq.ids (by omega) λab ac out ho=>?_;subst ho;apply ws;have:=h none 0 ab ac;refine gZ (e:=14) ?_;refine T.sub this ?_
   repeat (first|exact ba.refl _|apply ba.cons_cons|apply ba.cons)
  ·have g2: ¬q.op=5:=by simpa using g2
   have e:ask m q=(0,[],ofL (bo m) q):=by unfold ask;rw[ag (by rw[ge];decide),ag g1,ag g2]
   rw[e] at h;have IG:0<=q.kE/\q.kE<=16:=by
    unfold o9 at ge;rw[ag (by omega)] at ge;split at ge
    ·simp at ge;omega
    ·cases ge
   apply ws;refine ag0 (p:=p) IG λab ac out ho=>?_;subst ho;apply ws;have:=h none 0 ab ac;refine gZ (e:=14) ?_;refine T.sub this ?_
   repeat (first|exact ba.refl _|apply ba.cons_cons|apply ba.cons)
end
def many{α:Type}(nx:RS->RS)(nv:RS->α):Nat->RS->List α×RS
 |0,x=>([],x)
 |n+1,x=>if x.2=true then([],x) else(nv x::(many nx nv n (nx x)).1,(many nx nv n (nx x)).2)
def rh{α:Type}{nx:RS->RS}{nv:RS->α}(n:Nat)(x:RS):many nx nv (n+1) x=if x.2=true then([],x) else(nv x::(many nx nv n (nx x)).1,(many nx nv n (nx x)).2):=rfl
def BQ{α:Type}{nx:RS->RS}{nv:RS->α}(x:RS):many nx nv 0 x=([],x):=rfl
def wc{α:Type}{nx:RS->RS}{nv:RS->α}:∀(n:Nat)(x:RS),(many nx nv n x).1.length<=n
 |0,x=>aG _
 |n+1,x=>by unfold many;split<;>simp;exact wc n _
def Sv(x:RS):0<=kL 1 x/\kL 1 x<=255:=by
 unfold kL;split
 ·omega
 ·have h1:=ry (x.1.take 1);have h2:(x.1.take 1).length<=1:=by rw[aD];omega
  have h3:256^(x.1.take 1).length<=256^1:=gv (by decide) h2;have h4:(256:Nat)^1=256:=rfl;rw[nD (by omega)];omega
def LL(x:RS):RS:=if 1<kL 1 x then((fG 1 x).1,true) else fG 1 x
def nvF(x:RS):Bool:=kL 1 x==1
section
variable {W:World} {L R:LH} {K:VK} {X:WK} {r:Nat} {x:RS} {g:RS->LH} {q:jF} {s:vx}
def VH(x:RS):(FU x).1.length<=x.1.length:=by
 unfold FU zn;repeat (first|exact aG _|refine y9 (u9 _ _) ?_)
def VF(x:RS):(FT x).1.length<=x.1.length:=by
 unfold FT zn;repeat (first|exact aG _|refine y9 (u9 _ _) ?_)
def Jd[i:Lc (rd r) L x g](hl:x.1.length<1099511627776)(h:T W (g (LL x)) (K (.b (nvF x)))):T W L (mm (ah r) K):=by
 unfold mm;refine vy hl ?_;refine pF ?_;have hn:=i.next;rw[Option.isNone_some,NI,kG];apply fV<;>intro g1
 ·have g1:kL 1 x>1:=g1;intro w hs;obtain⟨k,hk,e⟩:=(hn (fG 1 x)).at_;rw[Di,gN,aC];refine oz hs (show(g (fG 1 x))[k]?=some (Sep.pt r [.s (bs (fG 1 x).1),.b (fG 1 x).2]) from hk) (by show 1<2;decide) rfl λw' ft=>?_;refine h w' ?_;have e2:LL x=((fG 1 x).1,true):=by unfold LL;rw[ai g1]
  rw[e2,e];exact ft
 ·have g1: ¬kL 1 x>1:=g1;have e2:LL x=fG 1 x:=by unfold LL;rw[ag g1]
  rw[e2] at h;exact h
def V4[i:Lc (rd r) L x g](hl:x.1.length<1099511627776)
 (h:∀b c,T W (own b (many FU FW (kL 1 x).toNat (fG 1 x)).1.length c 14 ((many FU FW (kL 1 x).toNat (fG 1 x)).1.flatMap aK)::g (many FU FW (kL 1 x).toNat (fG 1 x)).2) (K (.l b (many FU FW (kL 1 x).toNat (fG 1 x)).1.length c))):
 T W L (mH (ah r) (.func (.func N.oo) ⟨[]⟩ ⟨[]⟩) K):=by
 unfold mH;refine vy hl ?_;refine pF ?_;have hn:=i.next;have hb:=Sv x;obtain⟨n,en⟩:∃n:Nat,kL 1 x=(n:Int):=⟨(kL 1 x).toNat,by omega⟩;rw[en,ao] at h;rw[en];refine gZ (e:=14) ?_;intro w jW;refine⟨λvv w=>∃(i:Nat)(bo:OA)(cc:Nat)(done:List bC)(y:RS),i<=n/\done.length<=i/\y.1.length<1099511627776/\many FU FW n (fG 1 x)=(done++(many FU FW (n-i) y).1,(many FU FW (n-i) y).2)/\
                                                                                                                                       vv=[.l none 0 0,.l bo done.length cc,.i (n:Int),.i (i:Int)]/\St W w (own bo done.length cc 14 (done.flatMap aK)::g y),
  λvs _=>match vs with|[_,_,_,.int _ d]=>n-d.toNat|_=>0,⟨0,none,0,[],fG 1 x,aE _,aG _,qU hl,by simp,rfl,jW⟩,?_⟩
 rintro Ge GQ GV bo oW cc n2 n3 w2 ⟨i,b0,c0,done,y,hi,zv,hy,hm,e,gX⟩;cases e
 refine T.at ?_ gX;have e5:=nL i
 haveI:=hn y
 apply fV<;>intro g1
 ·have cf:i<n:=by omega
  obtain⟨k,hk⟩:∃k,n-i=k+1:=⟨n-i-1,by omega⟩;rw[hk] at hm;refine y4 (r:=r) ?_;refine u0 ?_;cases ht:y.2 with
  |true=>
   apply ws;rw[rh,ai ht] at hm;simp only[bI] at hm;have:=h bo cc;rw[hm] at this;exact this
  |false=>
   apply ws;rw[rh,ag (by rw[ht];decide)] at hm;show T W _ (oo (ah r) _);refine T1 hy ?_;apply ws;intros;refine jm (b:=bo) (x:=FW y) rfl rfl rfl (by omega) (by omega) (iv _) λb2 c2=>?_;rw[e5];refine T.drop ?_;refine λw3 h3=>⟨⟨i+1,b2,c2,done++[FW y],FU y,cf,by simp;omega,F2 (VH y) hy,?_,by simp,by simpa using h3⟩,by show n-((i+1:Nat):Int).toNat<n-(i:Int).toNat;omega⟩;rw[hm,show n-(i+1)=k by omega];simp
 ·have iM:i=n:=by omega
  subst iM;rw[lu] at hm;rw[BQ,bI] at hm;have:=h bo cc;rw[hm] at this;exact this
def V2[i:Lc (rd r) L x g](hl:x.1.length<1099511627776)
 (h:∀b c,T W (own b (many FT FV (kL 1 x).toNat (fG 1 x)).1.length c 16 ((many FT FV (kL 1 x).toNat (fG 1 x)).1.flatMap aL)::g (many FT FV (kL 1 x).toNat (fG 1 x)).2) (K (.l b (many FT FV (kL 1 x).toNat (fG 1 x)).1.length c))):
 T W L (lR (ah r) (.func (.func N.mZ) ⟨[]⟩ ⟨[]⟩) K):=by
 unfold lR;refine vy hl ?_;refine pF ?_;have hn:=i.next;have hb:=Sv x;obtain⟨n,en⟩:∃n:Nat,kL 1 x=(n:Int):=⟨(kL 1 x).toNat,by omega⟩;rw[en,ao] at h;rw[en];refine gZ (e:=16) ?_;intro w jW;refine⟨λvv w=>∃(i:Nat)(bo:OA)(cc:Nat)(done:List cE)(y:RS),i<=n/\done.length<=i/\y.1.length<1099511627776/\many FT FV n (fG 1 x)=(done++(many FT FV (n-i) y).1,(many FT FV (n-i) y).2)/\
                                                                                                                                       vv=[.l none 0 0,.l bo done.length cc,.i (n:Int),.i (i:Int)]/\St W w (own bo done.length cc 16 (done.flatMap aL)::g y),
  λvs _=>match vs with|[_,_,_,.int _ d]=>n-d.toNat|_=>0,⟨0,none,0,[],fG 1 x,aE _,aG _,qU hl,by simp,rfl,jW⟩,?_⟩
 rintro Ge GQ GV bo oW cc n2 n3 w2 ⟨i,b0,c0,done,y,hi,zv,hy,hm,e,gX⟩;cases e
 refine T.at ?_ gX;have e5:=nL i
 haveI:=hn y
 apply fV<;>intro g1
 ·have cf:i<n:=by omega
  obtain⟨k,hk⟩:∃k,n-i=k+1:=⟨n-i-1,by omega⟩;rw[hk] at hm;refine y4 (r:=r) ?_;refine u0 ?_;cases ht:y.2 with
  |true=>
   apply ws;rw[rh,ai ht] at hm;simp only[bI] at hm;have:=h bo cc;rw[hm] at this;exact this
  |false=>
   apply ws;rw[rh,ag (by rw[ht];decide)] at hm;show T W _ (mZ (ah r) _);refine Mh hy ?_;apply ws;intros;refine jm (b:=bo) (x:=FV y) rfl rfl rfl (by omega) (by omega) (o0 _) λb2 c2=>?_;rw[e5];refine T.drop ?_;refine λw3 h3=>⟨⟨i+1,b2,c2,done++[FV y],FT y,cf,by simp;omega,F2 (VF y) hy,?_,by simp,by simpa using h3⟩,by show n-((i+1:Nat):Int).toNat<n-(i:Int).toNat;omega⟩;rw[hm,show n-(i+1)=k by omega];simp
 ·have iM:i=n:=by omega
  subst iM;rw[lu] at hm;rw[BQ,bI] at hm;have:=h bo cc;rw[hm] at this;exact this
def V3[i:Lc (rd r) L x g](hl:x.1.length<1099511627776)
 (h:∀b c,T W (own b (many (fG 16) zm (kL 1 x).toNat (fG 1 x)).1.length c 2 ((many (fG 16) zm (kL 1 x).toNat (fG 1 x)).1.flatMap nm)::g (many (fG 16) zm (kL 1 x).toNat (fG 1 x)).2) (K (.l b (many (fG 16) zm (kL 1 x).toNat (fG 1 x)).1.length c))):
 T W L (pw (ah r) (.func (.func N.cS) ⟨[]⟩ ⟨[]⟩) K):=by
 unfold pw;refine vy hl ?_;refine pF ?_;have hn:=i.next;have hb:=Sv x;obtain⟨n,en⟩:∃n:Nat,kL 1 x=(n:Int):=⟨(kL 1 x).toNat,by omega⟩;rw[en,ao] at h;rw[en];refine gZ (e:=2) ?_;intro w jW;refine⟨λvv w=>∃(i:Nat)(bo:OA)(cc:Nat)(done:List Nat)(y:RS),i<=n/\done.length<=i/\y.1.length<1099511627776/\many (fG 16) zm n (fG 1 x)=(done++(many (fG 16) zm (n-i) y).1,(many (fG 16) zm (n-i) y).2)/\
                                                                                                                                       vv=[.l none 0 0,.l bo done.length cc,.i (n:Int),.i (i:Int)]/\St W w (own bo done.length cc 2 (done.flatMap nm)::g y),
  λvs _=>match vs with|[_,_,_,.int _ d]=>n-d.toNat|_=>0,⟨0,none,0,[],fG 1 x,aE _,aG _,qU hl,by simp,rfl,jW⟩,?_⟩
 rintro Ge GQ GV bo oW cc n2 n3 w2 ⟨i,b0,c0,done,y,hi,zv,hy,hm,e,gX⟩;cases e
 refine T.at ?_ gX;have e5:=nL i
 haveI:=hn y
 apply fV<;>intro g1
 ·have cf:i<n:=by omega
  obtain⟨k,hk⟩:∃k,n-i=k+1:=⟨n-i-1,by omega⟩;rw[hk] at hm;refine y4 (r:=r) ?_;refine u0 ?_;cases ht:y.2 with
  |true=>
   apply ws;rw[rh,ai ht] at hm;simp only[bI] at hm;have:=h bo cc;rw[hm] at this;exact this
  |false=>
   apply ws;rw[rh,ag (by rw[ht];decide)] at hm;show T W _ (cS (ah r) _);refine Jb hy ?_;apply ws;intros;refine jm (b:=bo) (x:=zm y) rfl rfl rfl (by omega) (by omega) (l6 _) λb2 c2=>?_;rw[e5];refine T.drop ?_;refine λw3 h3=>⟨⟨i+1,b2,c2,done++[zm y],(fG 16) y,cf,by simp;omega,F2 (u9 16 y) hy,?_,by simp,by simpa using h3⟩,by show n-((i+1:Nat):Int).toNat<n-(i:Int).toNat;omega⟩;rw[hm,show n-(i+1)=k by omega];simp
 ·have iM:i=n:=by omega
  subst iM;rw[lu] at hm;rw[BQ,bI] at hm;have:=h bo cc;rw[hm] at this;exact this
def ph(q:jF):Bool:=if q.op=1 then q.aB.all λa=>decide (mG a) else if q.op=2 then q.cm.all λt=>decide (j0 t) else true
def kz(q:jF):Bool:=(k8 q||o9 q)&&ph q
def qE{α:Type}{P:α->Bool}{l:List α}{i:Nat}{x:α}(hx:l[i]?=some x)(h:(l.take i).all P=true):(l.take (i+1)).all P=P x:=by
 rw[a8,hx,List.all_append,h];simp
def all_false{α:Type}{P:α->Bool}{l:List α}{i:Nat}{x:α}(hx:l[i]?=some x)(h:P x=false):l.all P=false:=by
 rw[List.all_eq_false];exact⟨x,cb hx,by rw[h];decide⟩
def Jv[hh:Has R L](hq:pC W R q s)(CB:q.aB.length<1000000)(cf:q.cm.length<1000000){r1:Nat}{b1:Bool}(h:T W (Sep.pt r1 (gB q s)::L) (K (.b (!b1&&ph q)))):T W (Sep.pt r1 (gB q s)::L) (pa.j1 K r1 b1):=by
 unfold pa.j1;cases b1 with
 |true=>rw[kG];exact h
 |false=>
  rw[NI,dV] at h;rw[dY];apply ws;apply dh<;>intro g1
  ·have g1:q.op=1:=by simpa using g1
   unfold ph at h;rw[ai g1] at h;apply ws;intro w jW;refine⟨λvv w=>∃i:Nat,i<=q.aB.length/\(q.aB.take i).all (λx=>decide (mG x))=true/\vv=[.b false,.l s.sa q.aB.length s.ca,.i (q.aB.length:Int),.i (i:Int)]/\St W w (Sep.pt r1 (gB q s)::L),
    λvs _=>match vs with|[_,_,_,.int _ d]=>q.aB.length-d.toNat|_=>0,⟨0,aE _,rfl,rfl,jW⟩,?_⟩
   rintro b2 qI oW re n2 n3 w2 ⟨i,hi,gh,e,gX⟩;cases e
   refine T.at ?_ gX;have e5:=nL i;apply fV<;>intro g1
   ·have cf:i<q.aB.length:=by omega
    have gx:=aj cf;generalize q.aB[i]=x at gx;refine iN hq.aB ⟨by omega,by omega⟩ rfl λa ha=>?_;rw[ao];refine jH hq.aB ha gx rfl ?_
    repeat' first|apply ws;intros|apply wb|refine I5 ?_
    rw[e5];by_cases hg:mG x
    ·rw[av hg];apply ws;refine T.drop λw3 h3=>⟨⟨i+1,cf,?_,rfl,h3⟩,by show q.aB.length-((i+1:Nat):Int).toNat<q.aB.length-(i:Int).toNat;omega⟩;rw[qE gx gh];exact av hg
    ·rw[aq hg];apply ws;rw[all_false gx (aq hg)] at h;exact T.drop h
   ·have iM:i=q.aB.length:=by omega
    subst iM;rw[aR] at gh;rw[gh] at h;exact h
  have g1: ¬q.op=1:=by simpa using g1
  apply dh<;>intro g2
  ·have g2:q.op=2:=by simpa using g2
   unfold ph at h;rw[ag g1,ai g2] at h;apply ws;intro w jW;refine⟨λvv w=>∃i:Nat,i<=q.cm.length/\(q.cm.take i).all (λx=>decide (j0 x))=true/\vv=[.b false,.l s.st q.cm.length s.ct,.i (q.cm.length:Int),.i (i:Int)]/\St W w (Sep.pt r1 (gB q s)::L),
    λvs _=>match vs with|[_,_,_,.int _ d]=>q.cm.length-d.toNat|_=>0,⟨0,aE _,rfl,rfl,jW⟩,?_⟩
   rintro b2 qI oW re n2 n3 w2 ⟨i,hi,gh,e,gX⟩;cases e
   refine T.at ?_ gX;have e5:=nL i;apply fV<;>intro g1
   ·have cf:i<q.cm.length:=by omega
    have gx:=aj cf;generalize q.cm[i]=x at gx;refine iN hq.cm ⟨by omega,by omega⟩ rfl λa ha=>?_;rw[ao];refine jH hq.cm ha gx rfl ?_
    repeat' first|apply ws;intros|apply wb|refine H' ?_
    rw[e5];by_cases hg:j0 x
    ·rw[av hg];apply ws;refine T.drop λw3 h3=>⟨⟨i+1,cf,?_,rfl,h3⟩,by show q.cm.length-((i+1:Nat):Int).toNat<q.cm.length-(i:Int).toNat;omega⟩;rw[qE gx gh];exact av hg
    ·rw[aq hg];apply ws;rw[all_false gx (aq hg)] at h;exact T.drop h
   ·have iM:i=q.cm.length:=by omega
    subst iM;rw[aR] at gh;rw[gh] at h;exact h
  ·have g2: ¬q.op=2:=by simpa using g2
   unfold ph at h;rw[ag g1,ag g2] at h;exact h
def NN[hh:Has R L](hq:pC W R q s)(CB:q.aB.length<1000000)(cf:q.cm.length<1000000)(h:T W L (K (.b (kz q)))):T W L (pa (gB q s) K):=by
 unfold pa
 repeat' first|apply ws;intros|apply wb|refine OZ ?_
 unfold kz at h;cases he:k8 q with
 |true=>
  rw[he,Bool.true_or] at h;apply ws;exact Jv hq CB cf (T.drop h)
 |false=>
  rw[he,Bool.false_or] at h
  repeat' first|apply ws|apply wb|refine Lz ?_
  refine Jv hq CB cf (T.drop ?_);rw[Bool.not_not];exact h
end
def CJ(b:Bool):List UInt8:=[if b then 1 else 0]
def WJ(q:jF):List UInt8:=nb q.xM++le .i64 8 q.jT++le .i64 8 q.xm++CJ q.wu++CJ q.tO++CJ q.qy++le .i64 1 q.kE
def dI(q:jF):List UInt8:=le .i64 1 q.op++
 (if q.op=1 then le .i64 1 (q.aB.length:Int)++q.aB.flatMap jl
 else if q.op=2 then le .i64 1 (q.cm.length:Int)++q.cm.flatMap oA
 else if q.op=3 then le .i64 8 q.now
 else if q.op=6 then WJ q
 else le .i64 1 (q.ids.length:Int)++q.ids.flatMap nb)
section
variable {W:World} {L R:LH} {K:VK} {X:WK} {p:Nat} {l:List UInt8} {f:List UInt8->LH} {q:jF} {s:vx}
def Mf(h:T W (buf p []::L) X):T W (Sep.pt p [.l none 0 0]::L) X:=λw hs=>by
 have h2:=(hs.push (A:=own none 0 0 1 (([]:List UInt8).map u4)) (rG 1)).perm (bU.swap _ _ _);exact h w (uq (k:=0) (L:=buf p []::L) (A:=buf p []) rfl rfl h2)
def dU{α:Type}{g:α->List UInt8}{e:Nat}(hg:∀x,(g x).length=e)(l:List α):(l.flatMap g).length=l.length* e:=by
 induction l with
 |nil=>simp
 |cons x l ih=>rw[iB,au,ih,hg,bt,lO];omega
def abc[i:Lc (buf p) L l f][hh:∀y,Has R (f y)]{sl:OA}{c:Nat}{items:List bC}(hr:nK W R aK 14 sl items)(hg:∀x∈items,mG x)(hi:items.length<=1000)(hl:l.length<1000000)
 (h:T W (f (l++le .i64 1 (items.length:Int)++items.flatMap jl)) (K (.tuple ⟨[]⟩))):T W L (kJ (ah p) sl items.length c K):=by
 unfold kJ;refine CY ?_;refine rS (by omega) (Bt ?_);intro w jW;refine⟨λvv w=>∃i:Nat,i<=items.length/\vv=[.l sl items.length c,.i (items.length:Int),.i (i:Int)]/\St W w (f (l++le .i64 1 (items.length:Int)++(items.take i).flatMap jl)),
  λvs _=>match vs with|[_,_,.int _ d]=>items.length-d.toNat|_=>0,⟨0,aE _,rfl,by simpa using jW⟩,?_⟩
 rintro qI oW re n1 n2 w2 ⟨i,hii,e,gX⟩;cases e
 refine T.at ?_ gX;have hn:=Lc.next (P:=buf p) inferInstance (l++le .i64 1 (items.length:Int)++(items.take i).flatMap jl) (L:=L) (x:=l) (f:=f);have Am:=hh (l++le .i64 1 (items.length:Int)++(items.take i).flatMap jl);have hlen:(l++le .i64 1 (items.length:Int)++(items.take i).flatMap jl).length<549755813888:=by
  rw[au,au,dU oq,aD,aO];have:min i items.length<=1000:=by omega
  have:min i items.length* (100-4)<=1000* (100-4):=ie _ this;omega
 have e5:=nL i;apply fV<;>intro g1
 ·have cf:i<items.length:=by omega
  have gx:=aj cf;have gm:=hg _ (bR cf);generalize items[i]=x at gx gm;refine iN hr ⟨by omega,by omega⟩ rfl λa ha=>?_;rw[ao];refine jH hr ha gx rfl ?_
  repeat' first|apply ws;intros|apply wb|refine T0 (p:=p) gm hlen ?_
  rw[e5];refine T.drop λw3 h3=>⟨⟨i+1,cf,rfl,?_⟩,by show items.length-((i+1:Nat):Int).toNat<items.length-(i:Int).toNat;omega⟩;rw[a8,gx,fQ];simpa [aH] using h3
 ·have iM:i=items.length:=by omega
  subst iM;rw[aR];exact h
def aba[i:Lc (buf p) L l f][hh:∀y,Has R (f y)]{sl:OA}{c:Nat}{items:List cE}(hr:nK W R aL 16 sl items)(hg:∀x∈items,j0 x)(hi:items.length<=1000)(hl:l.length<1000000)
 (h:T W (f (l++le .i64 1 (items.length:Int)++items.flatMap oA)) (K (.tuple ⟨[]⟩))):T W L (kn (ah p) sl items.length c K):=by
 unfold kn;refine CY ?_;refine rS (by omega) (Bt ?_);intro w jW;refine⟨λvv w=>∃i:Nat,i<=items.length/\vv=[.l sl items.length c,.i (items.length:Int),.i (i:Int)]/\St W w (f (l++le .i64 1 (items.length:Int)++(items.take i).flatMap oA)),
  λvs _=>match vs with|[_,_,.int _ d]=>items.length-d.toNat|_=>0,⟨0,aE _,rfl,by simpa using jW⟩,?_⟩
 rintro qI oW re n1 n2 w2 ⟨i,hii,e,gX⟩;cases e
 refine T.at ?_ gX;have hn:=Lc.next (P:=buf p) inferInstance (l++le .i64 1 (items.length:Int)++(items.take i).flatMap oA) (L:=L) (x:=l) (f:=f);have Am:=hh (l++le .i64 1 (items.length:Int)++(items.take i).flatMap oA);have hlen:(l++le .i64 1 (items.length:Int)++(items.take i).flatMap oA).length<549755813888:=by
  rw[au,au,dU pg,aD,aO];have:min i items.length<=1000:=by omega
  have:min i items.length* 108<=1000* 108:=ie _ this;omega
 have e5:=nL i;apply fV<;>intro g1
 ·have cf:i<items.length:=by omega
  have gx:=aj cf;have gm:=hg _ (bR cf);generalize items[i]=x at gx gm;refine iN hr ⟨by omega,by omega⟩ rfl λa ha=>?_;rw[ao];refine jH hr ha gx rfl ?_
  repeat' first|apply ws;intros|apply wb|refine Mg (p:=p) gm hlen ?_
  rw[e5];refine T.drop λw3 h3=>⟨⟨i+1,cf,rfl,?_⟩,by show items.length-((i+1:Nat):Int).toNat<items.length-(i:Int).toNat;omega⟩;rw[a8,gx,fQ];simpa [aH] using h3
 ·have iM:i=items.length:=by omega
  subst iM;rw[aR];exact h
def YV[i:Lc (buf p) L l f](hl:l.length<1000000)(h:T W (f (l++WJ q)) (K (.tuple ⟨[]⟩))):T W L (oG (ah p) (pH q) K):=by
 unfold oG;have hn0:=i.next
 repeat' first|apply ws;intros|apply wb|refine I6 (by omega) ?_
 rename_i r1
 repeat' first|apply ws|apply wb|refine y3 (by simp only[au,rH,aO];omega) ?_
 intro w jW;refine⟨λvv w=>∃i:Nat,i<=3/\vv=[.p (some (ad r1 0)),.agg ⟨[.b q.wu,.b q.tO,.b q.qy]⟩,.i (i:Int)]/\St W w (Sep.pt r1 (pH q)::f (l++nb q.xM++le .i64 8 q.jT++le .i64 8 q.xm++([q.wu,q.tO,q.qy].take i).flatMap CJ)),
  λvs _=>match vs with|[_,_,.int _ d]=>3-d.toNat|_=>0,⟨0,aE _,rfl,by simpa using jW⟩,?_⟩
 rintro a4 Gy n3 w2 ⟨i,hi,e,gX⟩;cases e
 refine T.at ?_ gX;have hn:=Lc.next (P:=buf p) inferInstance (l++nb q.xM++le .i64 8 q.jT++le .i64 8 q.xm++([q.wu,q.tO,q.qy].take i).flatMap CJ) (L:=L) (x:=l) (f:=f);have OM:(([q.wu,q.tO,q.qy].take i).flatMap CJ).length<=3:=by rw[dU (e:=1) (λ_=>rfl),aD];simp;omega
 have e5:=nL i;apply fV<;>intro g1
 ·have cf:i<3:=by omega
  obtain⟨b,hb⟩:∃b,[q.wu,q.tO,q.qy][i]?=some b:=⟨_,aj (by simpa using cf)⟩;have hv:[Value.bool q.wu,.b q.tO,.b q.qy][i]?=some (.b b):=by
   have:=congrArg (ya Value.bool) hb;rw[<-eK] at this;exact this
  refine NT cf hv ?_
  repeat' first|apply ws|apply wb|refine Xo (by simp only[au,rH,aO];omega) ?_
  rw[e5];refine λw3 h3=>⟨⟨i+1,cf,rfl,?_⟩,by show 3-((i+1:Nat):Int).toNat<3-(i:Int).toNat;omega⟩;rw[a8,hb,fQ];simpa [aH,CJ] using h3
 ·have iM:i=3:=by omega
  subst iM
  repeat' first|apply ws|apply wb|refine rS (by simp only[au,rH,aO];omega) ?_
  have e2:l++nb q.xM++le .i64 8 q.jT++le .i64 8 q.xm++([q.wu,q.tO,q.qy].take 3).flatMap CJ++le .i64 1 q.kE=l++WJ q:=by
   unfold WJ;simp[aH]
  rw[e2];exact T.drop h
def m8(h:kz q=true):(q.op=1/\q.aB.length<=8/\∀a∈q.aB,mG a)\/(q.op=2/\q.cm.length<=8/\∀t∈q.cm,j0 t)\/(q.op=3/\0<=q.now/\q.now<=1099511627776)\/((q.op=4\/q.op=5)/\q.ids.length<=16)\/(q.op=6/\0<=q.jT/\0<=q.xm/\1<=q.kE/\q.kE<=16):=by
 unfold kz k8 o9 ph at h;simp only[dW,Bool.or_eq_true] at h;obtain⟨h1,h2⟩:=h;by_cases o1:q.op=1
 ·rw[ai o1] at h1 h2;rw[ag (by omega),ag (by omega)] at h1;simp at h1 h2;exact .inl ⟨o1,h1.2,h2⟩
 by_cases o2:q.op=2
 ·rw[ag o1,ai o2] at h1 h2;rw[ag (by omega),ag (by omega)] at h1;simp at h1 h2;exact .inr (.inl ⟨o2,h1.2,h2⟩)
 by_cases o3:q.op=3
 ·rw[ag o1,ag o2,ai o3] at h1;rw[ag (by omega),ag (by omega)] at h1;simp at h1;exact .inr (.inr (.inl ⟨o3,h1⟩))
 rw[ag o1,ag o2,ag o3] at h1;by_cases o4:q.op=4\/q.op=5
 ·rw[ai o4] at h1;simp at h1;exact .inr (.inr (.inr (.inl ⟨o4,h1.2⟩)))
 rw[ag o4] at h1;by_cases o6:q.op=6
 ·rw[ai o6] at h1;simp at h1;exact .inr (.inr (.inr (.inr ⟨o6,h1.1⟩)))
 ·rw[ag o6] at h1;simp at h1
def Rp[hh:Has R L](hq:pC W R q s)(CB:q.aB.length<1000000)(cf:q.cm.length<1000000)(h1:kz q=true->T W L (K (.tuple ⟨[.s (bs (dI q)),.i 0]⟩)))(h0:kz q=false->T W L (K (.tuple ⟨[.s .empty,.i 1]⟩))):T W L (wG (gB q s) K):=by
 unfold wG
 repeat' first|apply ws;intros|apply wb|refine NN hq CB cf ?_
 rename_i r1;cases hw:kz q with
 |false=>
  apply ws;exact T.drop (h0 hw)
 |true=>
  have h1:=h1 hw;have hf:=m8 hw;apply ws;intros;rename_i r2;refine Mf ?_
  repeat' first|apply ws|apply wb|refine rS (by simp) ?_
  unfold dI at h1;apply dh<;>intro g1
  ·have g1:q.op=1:=by simpa using g1
   rw[ai g1] at h1;have Dt:q.aB.length<=8/\∀a∈q.aB,mG a:=by rcases hf with h|h|h|h|h<;>first|exact h.2|omega
   apply ws;refine abc (R:=R) hq.aB Dt.2 (by omega) (by simp[aO]) ?_
   repeat' first|apply ws|apply wb|refine sF ?_
   rw[de,aH];exact T.dp h1
  have g1: ¬q.op=1:=by simpa using g1
  rw[ag g1] at h1;apply dh<;>intro g2
  ·have g2:q.op=2:=by simpa using g2
   rw[ai g2] at h1;have Dt:q.cm.length<=8/\∀a∈q.cm,j0 a:=by rcases hf with h|h|h|h|h<;>first|exact h.2|omega
   apply ws;refine aba (R:=R) hq.cm Dt.2 (by omega) (by simp[aO]) ?_
   repeat' first|apply ws|apply wb|refine sF ?_
   rw[de,aH];exact T.dp h1
  have g2: ¬q.op=2:=by simpa using g2
  rw[ag g2] at h1;apply dh<;>intro g3
  ·have g3:q.op=3:=by simpa using g3
   rw[ai g3] at h1
   repeat' first|apply ws|apply wb|first|refine y3 (by simp[aO]) ?_|refine sF ?_
   rw[de];exact T.dp h1
  have g3: ¬q.op=3:=by simpa using g3
  rw[ag g3] at h1;apply dh<;>intro g6
  ·have g6:q.op=6:=by simpa using g6
   rw[ai g6] at h1;apply ws;refine YV (by simp[aO]) ?_
   repeat' first|apply ws|apply wb|refine sF ?_
   rw[de];exact T.dp h1
  have g6: ¬q.op=6:=by simpa using g6
  rw[ag g6] at h1;have Dt:q.ids.length<=16:=by rcases hf with h|h|h|h|h<;>first|exact h.2|omega
  repeat' first|apply ws|apply wb|refine rS (by simp[aO]) ?_
  intro w jW;refine⟨λvv w=>∃i:Nat,i<=q.ids.length/\vv=[.s .empty,.i 0,.p (some (ad r2 0)),.l s.si q.ids.length s.ci,.i (q.ids.length:Int),.i (i:Int)]/\
   St W w (buf r2 (le .i64 1 q.op++(le .i64 1 (q.ids.length:Int)++(q.ids.take i).flatMap nb))::Sep.pt r1 (gB q s)::L),
   λvs _=>match vs with|[_,_,_,_,_,.int _ d]=>q.ids.length-d.toNat|_=>0,⟨0,aE _,rfl,by simpa using jW⟩,?_⟩
  rintro s5 n4 a1 Gb FP FQ n5 n6 w2 ⟨i,hi,e,gX⟩;cases e
  refine T.at ?_ gX;have hlen:(le .i64 1 q.op++(le .i64 1 (q.ids.length:Int)++(q.ids.take i).flatMap nb)).length<1099511627776:=by
   rw[au,au,dU rH,aD,aO,aO];have:min i q.ids.length<=16:=by omega
   omega
  have e5:=nL i;apply fV<;>intro g1
  ·have cf:i<q.ids.length:=by omega
   have gx:=aj cf;generalize q.ids[i]=x at gx;refine iN hq.ids ⟨by omega,by omega⟩ rfl λa ha=>?_;rw[ao];refine jH hq.ids ha gx rfl ?_
   repeat' first|apply ws;intros|apply wb|refine I6 hlen ?_
   rw[e5];refine T.drop λw3 h3=>⟨⟨i+1,cf,rfl,?_⟩,by show q.ids.length-((i+1:Nat):Int).toNat<q.ids.length-(i:Int).toNat;omega⟩;rw[a8,gx,fQ];simpa [aH] using h3
  ·have iM:i=q.ids.length:=by omega
   subst iM;rw[aR]
   repeat' first|apply ws|apply wb|refine sF ?_
   exact T.dp h1
end
def q0:jF:=⟨0,[],[],0,[],0,0,0,false,false,false,0⟩
def s0:vx:=⟨none,0,none,0,none,0⟩
instance{q q':jF}{s s':vx}:Wr (gB q s) 0 (gB q' s') (gB q' s'):=⟨rfl,aG _,AI q' s'⟩
instance{q:jF}{s:vx}:Wr (gB q s) 0 [.i 0,.l none 0 0,.l none 0 0,.i 0,.l none 0 0,.u 0,.u 0,.i 0,.i 0,.b false,.b false,.b false,.i 0] (gB q0 s0):=⟨rfl,aG _,AI q0 s0⟩
instance{q:jF}{s:vx}{a:Nat}{f t m:Int}{d c l:Bool}:Wr (gB q s) 5 (nm a++([.i f,.i t,.b d,.b c,.b l,.i m]:LV)) (gB ⟨q.op,q.aB,q.cm,q.now,q.ids,a,f,t,d,c,l,m⟩ s):=⟨rfl,by show 13<=13;decide,KV ⟨q.op,q.aB,q.cm,q.now,q.ids,a,f,t,d,c,l,m⟩⟩
def MC(n:Int):jF:=⟨n,[],[],0,[],0,0,0,false,false,false,0⟩
def opC(n:Int):gB (MC n) s0=[.i n,.l none 0 0,.l none 0 0,.i 0,.l none 0 0,.u 0,.u 0,.i 0,.i 0,.b false,.b false,.b false,.i 0]:=by
 simp[gB,pH,nm,MC,s0]
instance{x1 x2 x3 x4 x5 x6 x7 x8 x9 DO DN DM DL:Value}{n:Int}:Wr [x1,x2,x3,x4,x5,x6,x7,x8,x9,DO,DN,DM,DL] 0 [.i n,.l none 0 0,.l none 0 0,.i 0,.l none 0 0,.u 0,.u 0,.i 0,.i 0,.b false,.b false,.b false,.i 0] (gB (MC n) s0):=by
 rw[<-opC n];exact⟨rfl,aG _,AI _ _⟩
def iL(l:List UInt8):jF×RS:=
 let x:RS:=(l,false)
 let y:=fG 1 x
 if kL 1 x=1 then({q0 with op:=1,aB:=(many FU FW (kL 1 y).toNat (fG 1 y)).1},(many FU FW (kL 1 y).toNat (fG 1 y)).2)
 else if kL 1 x=2 then({q0 with op:=2,cm:=(many FT FV (kL 1 y).toNat (fG 1 y)).1},(many FT FV (kL 1 y).toNat (fG 1 y)).2)
 else if kL 1 x=3 then({q0 with op:=3,now:=kL 8 y},fG 8 y)
 else if kL 1 x=6 then({q0 with op:=6,xM:=zm y,jT:=kL 8 (fG 16 y),xm:=kL 8 (fG 8 (fG 16 y)),wu:=nvF (fG 8 (fG 8 (fG 16 y))),tO:=nvF (LL (fG 8 (fG 8 (fG 16 y)))),qy:=nvF (LL (LL (fG 8 (fG 8 (fG 16 y))))),kE:=kL 1 (LL (LL (LL (fG 8 (fG 8 (fG 16 y))))))},
  fG 1 (LL (LL (LL (fG 8 (fG 8 (fG 16 y)))))))
 else({q0 with op:=kL 1 x,ids:=(many (fG 16) zm (kL 1 y).toNat (fG 1 y)).1},(many (fG 16) zm (kL 1 y).toNat (fG 1 y)).2)
def rE(l:List UInt8):Bool:=(!(iL l).2.2&&decide ((iL l).2.1=[]))&&kz (iL l).1
def Iw(x:RS):(LL x).1.length<=x.1.length:=by
 unfold LL;split
 ·exact u9 _ _
 ·exact u9 _ _
section
variable {W:World} {L R:LH} {K:VK} {X:WK} {p r:Nat} {l:List UInt8} {q:jF} {s:vx} {A:HP}
def RQ(h:∀r,T W (rd r (l,false)::L) (K (.p (ah r)))):T W L (pc (bs l) K):=λw hs=>sq hs λr w' h'=>h r w' h'
def nK.own{α:Type}{b:OA}{n c e:Nat}{g:α->LV}{xs:List α}(hg:∀x,(g x).length=e)(hn:n=xs.length):nK W (Sep.own b n c e (xs.flatMap g)::L) g e b xs:=λw hw i x hx=>by
 obtain⟨hl,h0|⟨r,sp,hb,u1,Bm,hs⟩⟩:=hw.nY (k:=0) rfl
 ·have:=(aw.1 hx).1;omega
 ·refine⟨⟨r,0,none⟩,hb,?_⟩;subst hb;rw[gN,aC];exact y7 (k:=0) hw rfl (qz hg xs i x hx)
def nK.nil{α:Type}{b:OA}{e:Nat}{g:α->LV}:nK W R g e b []:=λw hw i x hx=>by simp at hx
def Rl{r1 r2:Nat}{x:RS}(hq:pC W (A::L) q s)(CB:q.aB.length<1000000)(cf:q.cm.length<1000000)
 (h0:((!x.2&&decide (x.1=[]))&&kz q)=false->T W L (K (.tuple ⟨[.agg ⟨gB q0 s0⟩,.i 4]⟩)))
 (h1:((!x.2&&decide (x.1=[]))&&kz q)=true->T W (A::L) (K (.tuple ⟨[.agg ⟨gB q s⟩,.i 0]⟩))):
 T W (Sep.pt r2 (gB q s)::rd p x::Sep.pt r1 (gB q0 s0)::A::L) (ku.j1 K (ah p) r1 r2):=by
 unfold ku.j1;refine Ud (r:=p) ?_;refine u0 ?_;cases he:(!x.2&&decide (x.1=[])) with
 |false=>
  rw[he,fD] at h0;have h0:=h0 rfl;rw[NI,kG];apply ws;exact T.dp h0
 |true=>
  rw[he,dV] at h0 h1;rw[Bool.not_true,dY]
  repeat' first|apply ws|apply wb|refine NN (R:=A::L) hq CB cf ?_
  cases hw:kz q with
  |false=>
   have h0:=h0 hw;apply ws;exact T.dp h0
  |true=>
   have h1:=h1 hw;apply ws;exact T.dp h1
def HW(hl:l.length<1099511627776)
 (h0:rE l=false->T W L (K (.tuple ⟨[.agg ⟨gB q0 s0⟩,.i 4]⟩)))
 (h1:rE l=true->∀A s,(∀L',pC W (A::L') (iL l).1 s)->T W (A::L) (K (.tuple ⟨[.agg ⟨gB (iL l).1 s⟩,.i 0]⟩))):T W L (ku (bs l) K):=by
 unfold ku;refine tS λr1=>?_;refine RQ λp=>?_;refine za ?_;refine vy hl (pF ?_);refine dD ⟨rfl,trivial⟩ ?_;refine tS λr2=>?_;apply ws;have hy:=qU (m:=1) (x:=(l,false)) hl;have hb:=Sv (fG 1 (l,false));have fin:∀(q:jF)(x:RS)(A:HP)(s:vx),iL l=(q,x)->(∀L',pC W (A::L') q s)->q.aB.length<1000000->q.cm.length<1000000->
  T W (A::Sep.pt r2 (gB q s)::rd p x::Sep.pt r1 (gB q0 s0)::L) (ku.j1 K (ah p) r1 r2):=by
  intro q x A s he hq CB cf;unfold rE at h0 h1;rw[he] at h0 h1;exact T.perm (Rl (hq L) CB cf h0 λhh=>h1 hh A s hq) (bu (l₁:=[A]) (l₂:=[Sep.pt r2 (gB q s),rd p x,Sep.pt r1 (gB q0 s0)])|>.append_right L)
 unfold iL at fin;dsimp only at fin;generalize kL 1 (l,false)=op at fin⊢;generalize fG 1 (l,false)=y at fin hy hb⊢;apply dh<;>intro g1
 ·have g1:op=1:=by simpa [MC] using g1
  subst g1;rw[ai rfl] at fin;refine V4 hy λb c=>?_;have IF:=wc (nx:=FU) (nv:=FW) (kL 1 y).toNat (fG 1 y);obtain⟨out,ho⟩:∃out,(many FU FW (kL 1 y).toNat (fG 1 y)).1=out:=⟨_,rfl⟩;obtain⟨z,hz⟩:∃z,(many FU FW (kL 1 y).toNat (fG 1 y)).2=z:=⟨_,rfl⟩;rw[ho,hz] at fin⊢;rw[ho] at IF;refine wL ?_;refine qJ (b:=b) λu1 _=>?_;refine Cl (r:=r2) (cs:=gB (MC 1) s0) (o:=1) (v:=.l b out.length c) (by decide) rfl ?_;exact fin _ _ (Sep.own b out.length c 14 (out.flatMap aK)) ⟨b,c,none,0,none,0⟩ rfl (λ_=>⟨nK.own (λ_=>rfl) rfl,nK.nil,nK.nil,u1,aG _,aG _⟩) (by show out.length<_;omega) (by show 0<_;decide)
 have g1: ¬op=1:=by simpa [MC] using g1
 rw[ag g1] at fin;apply dh<;>intro g2
 ·have g2:op=2:=by simpa [MC] using g2
  subst g2;rw[ai rfl] at fin;refine V2 hy λb c=>?_;have IF:=wc (nx:=FT) (nv:=FV) (kL 1 y).toNat (fG 1 y);obtain⟨out,ho⟩:∃out,(many FT FV (kL 1 y).toNat (fG 1 y)).1=out:=⟨_,rfl⟩;obtain⟨z,hz⟩:∃z,(many FT FV (kL 1 y).toNat (fG 1 y)).2=z:=⟨_,rfl⟩;rw[ho,hz] at fin⊢;rw[ho] at IF;refine wL ?_;refine qJ (b:=b) λu1 _=>?_;refine Cl (r:=r2) (cs:=gB (MC 2) s0) (o:=2) (v:=.l b out.length c) (by decide) rfl ?_;exact fin _ _ (Sep.own b out.length c 16 (out.flatMap aL)) ⟨none,0,b,c,none,0⟩ rfl (λ_=>⟨nK.nil,nK.own (λ_=>rfl) rfl,nK.nil,aG _,u1,aG _⟩) (by show 0<_;decide) (by show out.length<_;omega)
 have g2: ¬op=2:=by simpa [MC] using g2
 rw[ag g2] at fin;apply dh<;>intro g3
 ·have g3:op=3:=by simpa [MC] using g3
  subst g3;rw[ai rfl] at fin;refine xw hy (pF ?_);refine Cl (r:=r2) (cs:=gB (MC 3) s0) (o:=3) (v:=.i (kL 8 y)) (by decide) rfl ?_;refine gZ (e:=1) ?_;exact fin _ _ (Sep.own none 0 0 1 []) s0 rfl (λ_=>⟨nK.nil,nK.nil,nK.nil,aG _,aG _,aG _⟩) (by show 0<_;decide) (by show 0<_;decide)
 have g3: ¬op=3:=by simpa [MC] using g3
 rw[ag g3] at fin;apply dh<;>intro g6
 ·have g6:op=6:=by simpa [MC] using g6
  subst g6;rw[ai rfl] at fin;have b1:=qU (m:=16) hy;have b2:=qU (m:=8) b1;have b3:=qU (m:=8) b2;have b4:=F2 (Iw _) b3;have b5:=F2 (Iw _) b4;have b6:=F2 (Iw _) b5;refine Jb hy (CX rfl ?_);refine xw b1 (pF ?_);refine xw b2 (pF ?_);refine Jd b3 (u0 ?_);refine Jd b4 (u0 ?_);refine Jd b5 (u0 ?_);refine vy b6 (pF ?_);refine dD ⟨rfl,rfl,rfl,rfl,rfl,rfl,rfl,trivial⟩ ?_;refine dD rfl ?_;apply ws;refine gZ (e:=1) ?_;exact fin _ _ (Sep.own none 0 0 1 []) s0 rfl (λ_=>⟨nK.nil,nK.nil,nK.nil,aG _,aG _,aG _⟩) (by show 0<_;decide) (by show 0<_;decide)
 have g6: ¬op=6:=by simpa [MC] using g6
 rw[ag g6] at fin;refine V3 hy λb c=>?_;have IF:=wc (nx:=fG 16) (nv:=zm) (kL 1 y).toNat (fG 1 y);obtain⟨out,ho⟩:∃out,(many (fG 16) zm (kL 1 y).toNat (fG 1 y)).1=out:=⟨_,rfl⟩;obtain⟨z,hz⟩:∃z,(many (fG 16) zm (kL 1 y).toNat (fG 1 y)).2=z:=⟨_,rfl⟩;rw[ho,hz] at fin⊢;rw[ho] at IF;refine wL ?_;refine qJ (b:=b) λu1 _=>?_;refine Cl (r:=r2) (cs:=gB (MC op) s0) (o:=4) (v:=.l b out.length c) (by rw[Sc];decide) rfl ?_;exact fin _ _ (Sep.own b out.length c 2 (out.flatMap nm)) ⟨none,0,none,0,b,c⟩ rfl (λ_=>⟨nK.nil,nK.nil,nK.own (λ_=>rfl) rfl,aG _,aG _,u1⟩) (by show 0<_;decide) (by show 0<_;decide)
end
def Nh{n:Int}{i:Nat}(hi:i<8):Go.Sep.byteOf aa n i=Go.Sep.byteOf aa (n+18446744073709551616) i:=by
 unfold Go.Sep.byteOf shr;have h1:(8* (i:Int)).toNat=8* i:=by omega
 have h2:min (8* i) aa.bits=8* i:=by show min (8* i) 64=_;omega
 rw[h1,h2];have hp:(0:Int)<2^(8* i):=Int.pow_pos (by decide);rw[F3 _ (Int.le_of_lt hp),F3 _ (Int.le_of_lt hp)];have hq:(18446744073709551616:Int)=256* 2^(56-8* i)* 2^(8* i):=by
  have:(256:Int)* 2^(56-8* i)* 2^(8* i)=2^(8+(56-8* i)+8* i):=by
   rw[Int.pow_add,Int.pow_add];rfl
  rw[this,show 8+(56-8* i)+8* i=64 by omega];rfl
 rw[hq,Int.add_mul_ediv_right _ _ (by omega)]
 congr 2
 generalize n/2^(8* i)=a;generalize (2:Int)^(56-8* i)=c;simp only[IntKind.wrap,IntKind.bits,IntKind.signed];simp
def P4{n:Int}(h:uU n):mS (le .i64 8 n)=n:=by
 unfold uU at h;by_cases h0:0<=n
 ·obtain⟨m,rfl⟩:=bm h0;unfold mS;rw[rz m 8 (by omega)];have h8:(256:Nat)^8=18446744073709551616:=rfl;rw[h8,fw (by omega),aW (by omega)]
 ·obtain⟨m,hm⟩:=bm (show 0<=n+18446744073709551616 by omega);have e:le .i64 8 n=le .i64 8 (m:Int):=by
   unfold le;apply dS;intro i hi;rw[List.mem_range] at hi;rw[Nh hi,hm]
  rw[e];unfold mS;rw[rz m 8 (by omega)];have h8:(256:Nat)^8=18446744073709551616:=rfl;rw[h8,fw (by omega)];simp[IntKind.wrap,IntKind.bits,IntKind.signed];split<;>omega
def DR(n:Nat):∀w:Nat,nB ((pr w).map λi=>UInt8.ofNat (n/256^i%256))=n%256^w
 |0=>by simp[nB,Nat.mod_one]
 |w+1=>by
  rw[List.range_succ,cR,DS,DR n w,bP,List.length_range,Nat.mod_pow_succ]
  congr 2
  have e:(UInt8.ofNat (n/256^w%256)).toNat=n/256^w%256:=UInt8.toNat_ofNat_of_lt' (Nat.mod_lt _ (by decide));show(UInt8.ofNat (n/256^w%256)).toNat+256* 0=_;rw[e];omega
def UX{n:Nat}(h:n<bB):nB (nb n)=n:=by
 unfold nb;rw[DR];exact fw (by unfold bB at h;exact h)
section
variable {r:List UInt8} {n:Int} {m:Nat}
def JY(l:List UInt8)(k:Nat)(hl:l.length=k):fG k (l++r,false)=(r,false):=by
 unfold fG;rw[ag (by simp only[cB,false_or,au];omega),uK _ _ k hl]
def Ob(l:List UInt8)(k:Nat)(hl:l.length=k):kL k (l++r,false)=mS l:=by
 unfold kL;rw[ag (by simp only[cB,false_or,au];omega),sW _ _ k hl]
def Zu(h:0<=n/\n<=255):kL 1 (le .i64 1 n++r,false)=n:=by
 obtain⟨k,rfl⟩:=bm h.1;rw[Ob _ _ (aO _ _ _),nD (by rw[aO];omega),rz k 1 (by omega)];have:(256:Nat)^1=256:=rfl;rw[this,fw (by omega)]
def rd2(h:0<=n/\n<=65535):kL 2 (le .i64 2 n++r,false)=n:=by
 obtain⟨k,rfl⟩:=bm h.1;rw[Ob _ _ (aO _ _ _),nD (by rw[aO];omega),rz k 2 (by omega)];have:(256:Nat)^2=65536:=rfl;rw[this,fw (by omega)]
def rd4(h:0<=n/\n<=4294967295):kL 4 (le .i64 4 n++r,false)=n:=by
 obtain⟨k,rfl⟩:=bm h.1;rw[Ob _ _ (aO _ _ _),nD (by rw[aO];omega),rz k 4 (by omega)];have:(256:Nat)^4=4294967296:=rfl;rw[this,fw (by omega)]
def rd8(h:uU n):kL 8 (le .i64 8 n++r,false)=n:=by
 rw[Ob _ _ (aO _ _ _),P4 h]
def Ux(h:m<bB):zm (nb m++r,false)=m:=by
 unfold zm Kh;rw[ag (by simp),ag (by show ¬(nb m++r).length<16;rw[au,rH];omega)];show nB ((nb m++r).take 16)=m;rw[sW _ _ 16 (rH m),UX h]
def nx1:fG 1 (le .i64 1 n++r,false)=(r,false):=JY _ _ (aO _ _ _)
def nx2:fG 2 (le .i64 2 n++r,false)=(r,false):=JY _ _ (aO _ _ _)
def nx4:fG 4 (le .i64 4 n++r,false)=(r,false):=JY _ _ (aO _ _ _)
def ZC:fG 8 (le .i64 8 n++r,false)=(r,false):=JY _ _ (aO _ _ _)
def VJ:fG 16 (nb m++r,false)=(r,false):=JY _ _ (rH _)
def EK(a:bC):FU (jl a++r,false)=(r,false):=by
 have e:jl a++r=nb a.id++(nb a.dp++(nb a.dq++(nb a.cp++(nb a.cq++(le .i64 4 a.aZ++(le .i64 2 a.code++(le .i64 2 a.ak++(le .i64 8 a.ay++r)))))))):=by
  unfold jl;simp[aH]
 rw[e];unfold FU;simp only[zn,VJ,nx4,nx2,ZC]
def Ke{a:bC}(ha:wD a)(hg:mG a):FW (jl a++r,false)=a:=by
 unfold FW;rw[EK,ag (by simp)];have e:jl a++r=nb a.id++(nb a.dp++(nb a.dq++(nb a.cp++(nb a.cq++(le .i64 4 a.aZ++(le .i64 2 a.code++(le .i64 2 a.ak++(le .i64 8 a.ay++r)))))))):=by
  unfold jl;simp[aH]
 rw[e];simp only[zn,VJ,nx4,nx2,ZC];rw[Ux ha.id,Ux ha.dp,Ux ha.dq,Ux ha.cp,Ux ha.cq,rd4 hg.1,rd2 hg.2.1,rd2 hg.2.2,rd8 ha.ay]
def Kj(t:cE):oA t++r=nb t.id++(nb t.bp++(nb t.aP++(nb t.aU++(nb t.pending++(le .i64 4 t.cu++(le .i64 4 t.aZ++(le .i64 2 t.code++(le .i64 2 t.ak++(le .i64 8 t.ay++(le .i64 8 t.jj++r)))))))))):=by
 unfold oA;simp[aH]
def AR(t:cE):FT (oA t++r,false)=(r,false):=by
 rw[Kj];unfold FT;simp only[zn,VJ,nx4,nx2,ZC]
def EL{t:cE}(ht:yJ t)(hg:j0 t):FV (oA t++r,false)=t:=by
 unfold FV;rw[AR,ag (by simp),Kj];simp only[zn,VJ,nx4,nx2,ZC];rw[Ux ht.id,Ux ht.bp,Ux ht.aP,Ux ht.aU,Ux ht.pending,rd4 hg.1,rd4 hg.2.1,rd2 hg.2.2.1,rd2 hg.2.2.2,rd8 ht.ay,rd8 ht.jj]
def ER{α:Type}{nx:RS->RS}{nv:RS->α}{g:α->List UInt8}:∀(l:List α),(∀x∈l,∀r,nx (g x++r,false)=(r,false)/\nv (g x++r,false)=x)->∀r,many nx nv l.length (l.flatMap g++r,false)=(l,(r,false))
 |[],_,r=>rfl
 |x::l,h,r=>by
  rw[bt,rh,iB,aH,(h x (by simp) _).1,(h x (by simp) _).2,ER l (λy hy=>h y (by simp[hy])) r]
  rfl
end
def canon(q:jF):jF:=if q.op=1 then{q0 with op:=1,aB:=q.aB} else if q.op=2 then{q0 with op:=2,cm:=q.cm} else{q0 with op:=3,now:=q.now}
def BD{q:jF}(hw:kz q=true)(he:fY q=true)(hA:∀a∈q.aB,wD a)(hT:∀t∈q.cm,yJ t):iL (dI q)=(canon q,([],false)):=by
 have Wl:q.op=1\/q.op=2\/q.op=3:=aQ he;have hf:=m8 hw;unfold iL dI canon;dsimp only;rw[Zu (by omega),nx1];by_cases o1:q.op=1
 ·have Dt:q.aB.length<=8/\∀a∈q.aB,mG a:=by rcases hf with h|h|h|h|h<;>first|exact h.2|omega
  rw[ai o1,ai o1,ai o1,Zu (by omega),nx1,ao];have:=ER (nx:=FU) (nv:=FW) (g:=jl) q.aB (λa ha r=>⟨EK a,Ke (hA a ha) (Dt.2 a ha)⟩) [];rw[bI] at this;rw[this]
 by_cases o2:q.op=2
 ·have Dt:q.cm.length<=8/\∀a∈q.cm,j0 a:=by rcases hf with h|h|h|h|h<;>first|exact h.2|omega
  rw[ag o1,ag o1,ag o1,ai o2,ai o2,ai o2,Zu (by omega),nx1,ao];have:=ER (nx:=FT) (nv:=FV) (g:=oA) q.cm (λa ha r=>⟨AR a,EL (hT a ha) (Dt.2 a ha)⟩) [];rw[bI] at this;rw[this]
 ·have o3:q.op=3:=by omega
  have Dt:0<=q.now/\q.now<=1099511627776:=by rcases hf with h|h|h|h|h<;>first|exact h.2|omega
  rw[ag o1,ag o1,ag o1,ag o2,ag o2,ag o2,ai o3,ai o3];have e8:le .i64 8 q.now=le .i64 8 q.now++[]:=(bI _).symm;rw[e8,rd8 (by unfold uU;omega),ZC]
def Fp(m:aA){q:jF}(he:fY q=true):bD m (canon q)=bD m q/\k8 (canon q)=k8 q:=by
 have Wl:q.op=1\/q.op=2\/q.op=3:=aQ he;unfold canon;by_cases o1:q.op=1
 ·rw[ai o1];unfold bD k8;simp[o1]
 by_cases o2:q.op=2
 ·rw[ag o1,ai o2];unfold bD k8;simp[o2]
 ·have o3:q.op=3:=by omega
  rw[ag o1,ag o2];unfold bD k8;simp[o3]
def Fq{q:jF}(hw:kz q=true)(he:fY q=true):kz (canon q)=true/\fY (canon q)=true:=by
 have Wl:q.op=1\/q.op=2\/q.op=3:=aQ he;unfold kz o9 ph at *;rw[(Fp ⟨[],[],0,0⟩ he).2];unfold fY canon;by_cases o1:q.op=1
 ·simp[o1] at hw⊢;exact hw
 by_cases o2:q.op=2
 ·simp[o2] at hw⊢;exact hw
 ·have o3:q.op=3:=by omega
  simp[o3] at hw⊢;exact hw
def Cp{q:jF}(hw:kz q=true)(he:fY q=true)(hA:∀a∈q.aB,wD a)(hT:∀t∈q.cm,yJ t):rE (dI q)=true:=by
 unfold rE;rw[BD hw he hA hT,(Fq hw he).1];rfl
def rC(e:Int)(res:List Int)(al:List bC)(tl:List cE):Bool:=
 res.all (λr=>decide (0<=r/\r<=255))&&al.all (λa=>decide (mG a))&&tl.all (λt=>decide (j0 t))&&decide (0<=e/\e<=255)&&decide (res.length<=16/\al.length<=16/\tl.length<=16)
def En(e:Int)(res:List Int)(al:List bC)(tl:List cE):List UInt8:=
 le .i64 1 e++(le .i64 1 res.length++(res.flatMap (λr=>le .i64 1 r)++(le .i64 1 al.length++(al.flatMap jl++(le .i64 1 tl.length++tl.flatMap oA)))))
def su(e:Int)(res:List Int)(al:List bC)(tl:List cE):List UInt8:=if rC e res al tl=true then En e res al tl else En 3 [] [] []
def AH{e:Int}{res:List Int}{al:List bC}{tl:List cE}(h:rC e res al tl=true):(∀r∈res,0<=r/\r<=255)/\(∀a∈al,mG a)/\(∀t∈tl,j0 t)/\(0<=e/\e<=255)/\res.length<=16/\al.length<=16/\tl.length<=16:=by
 unfold rC at h;simp only[dW,List.all_eq_true,decide_eq_true_eq] at h;obtain⟨⟨⟨⟨h1,h2⟩,h3⟩,h4⟩,h5⟩:=h;exact⟨h1,h2,h3,h4,h5⟩
section
variable {W:World} {L R:LH} {K:VK} {X:WK} {p:Nat} {b:aY}
def QM{q:Core}{f:Core->LH}[i:Lc (gM p) L q f](hl:q.vs.length<1000000)(h:T W (f {q with vs:=[]}) (K (.tuple ⟨[]⟩))):T W L (mw (ah p) K):=by
 refine qn (p:=p) λb1 c1 b2 c2 b3 c3 hp R2 g1 g2 S9=>?_;unfold mw iZ;apply ws;refine qJ (b:=b1) λu1 Ho=>?_;refine RJ (b:=b1) (by rw[nT,Ho];simp) (λv hv=>?_) λzs=>?_
 ·simp only[Builtin.zeroCells,Array.toList_map,cw] at hv;obtain⟨j,_,rfl⟩:=hv;have:(⟨[Value.nilFunc]⟩:Array Value)[j%(⟨[Value.nilFunc]⟩:Array Value).size]! =.nilFunc:=by
   have:j%(⟨[Value.nilFunc]⟩:Array Value).size=0:=Nat.mod_one j;rw[this];rfl
  rw[this];rfl
 apply ws;refine zD (i:=0) (by omega) ?_;refine Bu (b:=b1) (i:=0) (by omega) ?_;apply ws;rw[Nat.zero_mul,nG];exact S9 [] {q with vs:=[]} b1 c1 b2 c2 b3 c3 hp _ g1 g2 h
def JI{α:Type}{g:α->LV}{e l:Nat}(h:T W (sj g e l (p,[])::L) X):T W (Sep.pt l [.l none 0 0,.p (some (ad p 0))]::L) X:=λw hw=>by
 have h2:=(hw.push (A:=own none 0 0 e []) (rG e)).perm (bU.swap _ _ _);exact h w (St.qB (none,0) (St.qR [_,_] L h2))
def TP(h:∀p la lk ti tn,T W (gM p ⟨la,lk,ti,tn,[],[],[],0,0⟩::sj aK 14 la (p,[])::sj bG 33 lk (p,[])::oV ti (λ_=>none,0)::oV tn (λ_=>none,0)::L) (K (.p (ah p)))):T W L (uu K):=by
 unfold uu;refine YG λti=>?_;refine za ?_;refine YG λtn=>?_;refine za ?_;refine dD ⟨rfl,rfl,trivial⟩ ?_;refine tS λr=>?_;unfold ql so;refine H0 ?_;refine dD ⟨rfl,trivial⟩ ?_;refine tS λla=>?_;refine za ?_;refine dD ⟨rfl,trivial⟩ ?_;refine tS λlk=>?_;refine za ?_;refine Cl (r:=r) (cs:=[.l none 0 0,.p none,.p none,.p (ah ti),.p (ah tn),.l none 0 0,.l none 0 0,.i 0,.i 0]) (o:=1) (v:=.p (ah la)) (by show 1<9;decide) rfl ?_;refine Cl (r:=r) (cs:=[.l none 0 0,.p (ah la),.p none,.p (ah ti),.p (ah tn),.l none 0 0,.l none 0 0,.i 0,.i 0]) (o:=2) (v:=.p (ah lk)) (by show 2<9;decide) rfl ?_;refine JI (g:=bG) (e:=33) ?_;refine T.Mo (JI (g:=aK) (e:=14) ?_);refine gZ (e:=4) (gZ (e:=2) (gZ (e:=1) ?_));have:=Ab (W:=W) (p:=r) (q:=⟨la,lk,ti,tn,[],[],[],0,0⟩) (b1:=none) (c1:=0) (b2:=none) (c2:=0) (b3:=none) (c3:=0) (h:=[]) (X:=K (.p (ah r))) (λj hj x y hx=>by simp at hx) (bU.refl _) (h r la lk ti tn);refine T.perm this ?_;exact(bu (l₁:=[_,_,_,_,_]) (l₂:=[_])|>.append_right (_::_::L)).trans (bU.append_left [_,_,_,_,_,_] (bU.swap _ _ _))
def Hk{α:Type}{key:α->Nat}{l:List α}(hn:(l.map key).Nodup){i:Nat}{x:α}(hx:l[i]?=some x):(l.take i).find? (λa=>key a=key x)=none:=by
 obtain⟨hi,rfl⟩:=aw.1 hx;rw[mW];intro a ha hk;obtain⟨j,hj,rfl⟩:=List.getElem_of_mem ha;rw[aD] at hj;rw[List.getElem_take] at hk;have:=pT.1 hn j i (by simpa using by omega) (by simpa using hi) (by omega);simp only[List.getElem_map] at this;exact this (by simpa using hk)
def F9(l:List bW)(j:Nat):fo 0 (l.take j)=(fo 0 l).take j:=by
 apply qk;intro i;rw[lZ,rV,rV,lZ];split<;>rfl
def aaZ(hg:fk b){sa sk:OA}{ca ck:Nat}[hh:Has R L](hA:nK W R aK 14 sa b.aB)(hK:nK W R bG 33 sk b.ax)
 (h:∀p,T W (cO p (b,[])::L) (K (.tuple ⟨[.p (ah p),.i 0]⟩))):T W L (eG sa b.aB.length ca sk b.ax.length ck b.clock b.ay K):=by
 have ou:=hg.ou;have many:=hg.many;have uX:=hg.ay;have hck:=hg.clock;unfold eG;refine TP λp la lk ti tn=>?_;refine za ?_;refine gL (by simp;omega) ?_;unfold eG.j3;rw[show decide (((b.ax.length:Nat):Int)>96)=false by simp;omega,dY];unfold eG.j4;rw[show decide (b.clock<0)=false by simp;omega,dY];unfold eG.j5;rw[show decide (b.clock>1099511627776)=false by simp;omega,dY];refine gL (by simp;omega) ?_;rw[show decide (b.ay>1099511627776)=false by simp;omega];unfold eG.j1;rw[dY];intro w X9;refine⟨λvv w=>∃(i:Nat)(vs:LV),i<=b.aB.length/\vs.length=i/\vv=[.p none,.i 0,.p (ah p),.l sa b.aB.length ca,.i (b.aB.length:Int),.i (i:Int)]/\
                                                                                                                                                                      St W w (gM p ⟨la,lk,ti,tn,vs,[],[],0,0⟩::sj aK 14 la (p,b.aB.take i)::sj bG 33 lk (p,[])::oV ti (IC (b.aB.take i))::oV tn (λ_=>none,0)::L),
  λvs _=>match vs with|[_,_,_,_,_,.int _ d]=>b.aB.length-d.toNat|_=>0,⟨0,[],aE _,rfl,rfl,X9⟩,?_⟩
 rintro p2 n3 p3 ta qQ sO n4 n5 w2 ⟨i,vs,hi,hvs,e,gX⟩;cases e
 refine T.at ?_ gX;have e5:=nL i;apply fV<;>intro g1
 ·have cf:i<b.aB.length:=by omega
  have gx:=aj cf;generalize b.aB[i]=x at gx;have Qq:=Hk (key:=λx:bC=>x.id) hg.ids gx;have oC:(IC (b.aB.take i)).1 x.id=none:=by show ya _ _=_;rw[qA (key:=λx:bC=>x.id) Qq];rfl
  have C3:(b.aB.take i).length=i:=by rw[aD];omega
  have hsn:=AY (key:=λx:bC=>x.id) Qq;have qV:b.aB.take (i+1)=b.aB.take i++[x]:=by rw[a8,gx];rfl
  refine iN hA ⟨by omega,by omega⟩ rfl λa ha=>?_;rw[ao];refine jH hA ha gx rfl ?_;apply ws;intros;refine CU (t:=ti) (x:=IC (b.aB.take i)) ?_;rw[oC];simp only[eQ,gw];apply ws;refine Uu (p:=p) (l:=la) (x:=x) (items:=b.aB.take i) (by rw[C3];omega) (by show vs.length<_;omega) λr3 r4=>?_;apply ws;refine Pj (t:=ti) (x:=IC (b.aB.take i)) (by show(b.aB.take i).length<=1000;omega) oC ?_;apply ws;rw[e5];refine T.drop (T.drop (T.drop ?_));refine λw3 h3=>⟨⟨i+1,vs++[Bc r3 r4],cf,by simp;omega,rfl,?_⟩,by show b.aB.length-((i+1:Nat):Int).toNat<b.aB.length-(i:Int).toNat;omega⟩;rw[qV];rw[show IC (b.aB.take i++[x])=_ from hsn];exact h3
 ·have iM:i=b.aB.length:=by omega
  subst iM;rw[aR];intro w3 hw3;refine⟨λvv w=>∃(j:Nat)(vs:LV),j<=b.ax.length/\vs.length<=1000+j/\vv=[.p none,.i 0,.p (ah p),.l sk b.ax.length ck,.i (b.ax.length:Int),.i (j:Int)]/\
              St W w (gM p ⟨la,lk,ti,tn,vs,fo 0 (b.ax.take j),(b.ax.take j).filterMap fR,0,0⟩::sj aK 14 la (p,b.aB)::sj bG 33 lk (p,b.ax.take j)::oV ti (IC b.aB)::oV tn (FY (b.ax.take j))::L),
   λvs _=>match vs with|[_,_,_,_,_,.int _ d]=>b.ax.length-d.toNat|_=>0,⟨0,vs,aE _,by omega,rfl,hw3⟩,?_⟩
  rintro p7 n8 p8 xG vT wO n9 X4 w5 ⟨j,yK,hj,adU,e,OG⟩;cases e
  refine T.at ?_ OG;have e6:=nL j;apply fV<;>intro g1
  ·have cf:j<b.ax.length:=by omega
   have gx:=aj cf;have gk:=hg.Q3 _ (bR cf);have KJ:∀k∈b.ax.take j,k.move.ay<(b.ax[j]'cf).move.ay:=λk hk=>by
    obtain⟨m,hm,rfl⟩:=List.getElem_of_mem hk;rw[aD] at hm;rw[List.getElem_take];exact pT.1 hg.rising m j (by omega) cf (by omega)
   generalize b.ax[j]=x at gx gk KJ;have Qq:=Hk (key:=λx:bW=>x.move.id) hg.names gx;have oC:(FY (b.ax.take j)).1 x.move.id=none:=by show ya _ _=_;rw[qA (key:=λx:bW=>x.move.id) Qq];rfl
   have C3:(b.ax.take j).length=j:=by rw[aD];omega
   have hsn:=AY (key:=λx:bW=>x.move.id) Qq;have qV:b.ax.take (j+1)=b.ax.take j++[x]:=by rw[a8,gx];rfl
   have abZ:sG (fo 0 (b.ax.take j)):=by rw[F9];exact List.Pairwise.sublist (List.take_sublist _ _) hg.yo
   refine iN hK ⟨by omega,by omega⟩ rfl λa ha=>?_;rw[ao];refine jH hK ha gx rfl ?_;apply ws;intros;rename_i r2;refine CU (t:=tn) (x:=FY (b.ax.take j)) ?_;rw[oC];simp only[eQ,gw];apply ws;refine gL (by have:=gk.fate;simp;omega) ?_;apply ws;refine gL (by have:=gk.fate;simp;omega) ?_;apply ws;refine Nw (l:=lk) ?_;rw[C3];apply ws;refine O4 (p:=p) abZ (by rw[lY];omega) (λy hy=>?_) ?_
   ·obtain⟨k,hk,e⟩:=Av hy;rw[e];exact KJ k hk
   apply ws;unfold eG.j2;rw[Bool.not_true,dY];apply ws;refine Ul (p:=p) (l:=lk) (x:=x) (items:=b.ax.take j) (by rw[C3];omega) (by show yK.length<_;omega) λr3 r4=>?_;rw[C3];apply ws;refine Pj (t:=tn) (x:=FY (b.ax.take j)) (by show(b.ax.take j).length<=1000;omega) oC ?_;apply ws;refine Tv (k:=x) gk ?_;apply ws;intros;rename_i r5;rw[e6];have Gp:fo 0 (b.ax.take (j+1))=fo 0 (b.ax.take j)++[(x.move.ay,(j:Int))]:=by rw[qV,vG,C3,aC]
   have ace:FY (b.ax.take (j+1))=(wE (FY (b.ax.take j)).1 x.move.id (some (j:Int)),(FY (b.ax.take j)).2+1):=by rw[qV];rw[show FY (b.ax.take j++[x])=_ from hsn,C3]
   cases hd:fR x with
   |none=>
    simp only[eQ];apply ws;refine T.drop (T.drop (T.drop (T.drop ?_)));refine λw3 h3=>⟨⟨j+1,yK++[vo r3 r4],cf,by simp;omega,rfl,?_⟩,by show b.ax.length-((j+1:Nat):Int).toNat<b.ax.length-(j:Int).toNat;omega⟩;have UJ:(b.ax.take (j+1)).filterMap fR=(b.ax.take j).filterMap fR:=by rw[qV,List.filterMap_append];simp[hd]
    rw[Gp,ace,UJ,qV];exact h3
   |some y=>
    have ey:M8 x=y:=by
     unfold fR at hd;split at hd
     ·cases hd;rfl
     ·cases hd
    simp only[dy];rw[ey];apply ws;simp only[gN,aC];refine IY (p:=p) (e':=(b.ax.take j).filterMap fR++[y]) (by
     have:=List.length_filterMap_le fR (b.ax.take j)
     show((b.ax.take j).filterMap fR).length<_
     omega) (bU.refl _) ?_
    apply ws;refine T.drop (T.drop (T.drop (T.drop ?_)));refine λw3 h3=>⟨⟨j+1,yK++[vo r3 r4],cf,by simp;omega,rfl,?_⟩,by show b.ax.length-((j+1:Nat):Int).toNat<b.ax.length-(j:Int).toNat;omega⟩;have UJ:(b.ax.take (j+1)).filterMap fR=(b.ax.take j).filterMap fR++[y]:=by rw[qV,List.filterMap_append];simp[hd]
    rw[Gp,ace,UJ,qV];exact h3
  ·have iM:j=b.ax.length:=by omega
   subst iM;rw[aR];apply ws;refine Me (p:=p) ?_;apply ws;refine Mc (p:=p) ?_;apply ws;refine QM (p:=p) (by show yK.length<_;omega) ?_;apply ws;have fin:=h p;intro w7 hw7;have h2:=hw7.push (A:=vO []) trivial;refine DC (p:=p) (la:=la) (lk:=lk) (ti:=ti) (tn:=tn) (vs:=[]) (bx:=[]) (c:=fF b) (hs:=[]) (R:=L) trivial (λw hw=>fin w (St.and_intro hg hw)) w7 ?_;exact h2.perm (bu (l₁:=[vO []]) (l₂:=[_,_,_,_,_])|>.append_right L)
end
def pB(k:bW):List UInt8:=oA k.asked++oA k.move++le .i64 1 k.fate
def wg(k:bW):(pB k).length=217:=by unfold pB;rw[au,au,pg,pg,aO]
def zu(b:aY):List UInt8:=le .i64 1 1++le .i64 8 b.clock++le .i64 8 b.ay++le .i64 2 (b.aB.length:Int)++le .i64 2 (b.ax.length:Int)
def Hr(b:aY):(zu b).length=21:=by simp only[zu,au,aO]
def cI(b:aY):List UInt8:=zu b++b.aB.flatMap jl++b.ax.flatMap pB
section
variable {W:World} {L R:LH} {K:VK} {X:WK} {p:Nat} {b:aY} {hs:List C} {f:aY×List C->LH}
def Jl[i:Lc (cO p) L (b,hs) f](h:T W L (K (.i b.clock))):T W L (lh (ah p) K):=by
 have hL:f (b,hs)=L:=i.same;refine LK (p:=p) λla lk ti tn vs bx R hg hc pG=>?_;have fin:=pG [] b hs vs bx _ hg hc (by rw[hL];exact h);unfold lh;apply ws;exact fin
def Pd[i:Lc (cO p) L (b,hs) f](h:T W L (K (.i b.ay))):T W L (nj (ah p) K):=by
 have hL:f (b,hs)=L:=i.same;refine LK (p:=p) λla lk ti tn vs bx R hg hc pG=>?_;have fin:=pG [] b hs vs bx _ hg hc (by rw[hL];exact h);unfold nj;apply ws;exact fin
def xy[i:Lc (cO p) L (b,hs) f](h:∀bb c,T W (own bb b.aB.length c 14 (b.aB.flatMap aK)::L) (K (.l bb b.aB.length c))):T W L (iD (ah p) K):=by
 have hL:f (b,hs)=L:=i.same;refine LK (p:=p) λla lk ti tn vs bx R hg hc pG=>?_;have ou:=hg.ou;unfold iD;apply ws;refine aa7 (l:=la) (by show b.aB.length<_;omega) λbb c=>?_;apply ws;exact pG [_] b hs vs bx _ hg hc (by rw[hL];exact h bb c)
def DF[i:Lc (cO p) L (b,hs) f](h:∀bb c,T W (own bb b.ax.length c 33 (b.ax.flatMap bG)::L) (K (.l bb b.ax.length c))):T W L (jU (ah p) K):=by
 have hL:f (b,hs)=L:=i.same;refine LK (p:=p) λla lk ti tn vs bx R hg hc pG=>?_;have many:=hg.many;unfold jU;apply ws;refine aa1 (l:=lk) (by show b.ax.length<_;omega) λbb c=>?_;apply ws;exact pG [_] b hs vs bx _ hg hc (by rw[hL];exact h bb c)
def GP[i:Lc (cO p) L (b,hs) f](h:T W L (K (.s (bs (cI b))))):T W L (s8 (ah p) K):=by
 refine qm (p:=p) λhg=>?_;have ou:=hg.ou;have many:=hg.many;unfold s8;refine RK ?_;refine tS λr1=>?_;refine Mf ?_;refine rS (by simp) (Bt ?_);refine Jl (p:=p) (pF ?_);refine y3 (by simp only[au,cH,aO];omega) (Bt ?_);refine Pd (p:=p) (pF ?_);refine y3 (by simp only[au,cH,aO];omega) (Bt ?_);refine xy (p:=p) λb1 c1=>?_;refine wL ?_;refine DD (by simp only[au,cH,aO];omega) (Bt ?_);refine DF (p:=p) λb2 c2=>?_;refine wL ?_;refine DD (by simp only[au,cH,aO];omega) (Bt ?_);refine xy (p:=p) λb3 c3=>?_;refine wL ?_;have e0:[]++le .i64 1 1++le .i64 8 b.clock++le .i64 8 b.ay++le .i64 2 (b.aB.length:Int)++le .i64 2 (b.ax.length:Int)=zu b:=by unfold zu;simp
 rw[e0];intro w X9;refine⟨λvv w=>∃i:Nat,i<=b.aB.length/\vv=[.s .empty,.p (some (ad r1 0)),.l b3 b.aB.length c3,.i (b.aB.length:Int),.i (i:Int)]/\
    St W w (own b3 b.aB.length c3 14 (b.aB.flatMap aK)::own b2 b.ax.length c2 33 (b.ax.flatMap bG)::own b1 b.aB.length c1 14 (b.aB.flatMap aK)::buf r1 (zu b++(b.aB.take i).flatMap jl)::L),
  λvs _=>match vs with|[_,_,_,_,.int _ d]=>b.aB.length-d.toNat|_=>0,⟨0,aE _,rfl,by simpa using X9⟩,?_⟩
 rintro s1 a1 xG vT wO n3 n4 w2 ⟨i,hi,e,gX⟩;cases e
 refine T.at ?_ gX;have e5:=nL i;have hlen:(zu b++(b.aB.take i).flatMap jl).length<=21+32* 96:=by
  rw[au,Hr,dU oq,aD];have:min i b.aB.length* 96<=32* 96:=ie _ (by omega);omega
 apply fV<;>intro g1
 ·have cf:i<b.aB.length:=by omega
  have gx:=aj cf;have gm:=(hg.Rg _ (bR cf)).yB;generalize b.aB[i]=x at gx gm;refine dM (b:=b3) ⟨by omega,by omega⟩ λrb hb=>?_;subst hb;rw[ao];refine gI (λ_=>rfl) gx ?_
  repeat' first|apply ws;intros|apply wb|with_reducible refine T0 gm (by omega) ?_|fail
  rw[e5];refine T.drop λw3 h3=>⟨⟨i+1,cf,rfl,?_⟩,by show b.aB.length-((i+1:Nat):Int).toNat<b.aB.length-(i:Int).toNat;omega⟩;rw[a8,gx,fQ];simpa [aH] using h3
 ·have iM:i=b.aB.length:=by omega
  subst iM;rw[aR] at hlen⊢;refine DF (p:=p) λb5 c5=>?_;refine wL ?_;intro w4 hw4;refine⟨λvv w=>∃j:Nat,j<=b.ax.length/\vv=[.s .empty,.p (some (ad r1 0)),.l b5 b.ax.length c5,.i (b.ax.length:Int),.i (j:Int)]/\
              St W w (own b5 b.ax.length c5 33 (b.ax.flatMap bG)::own b3 b.aB.length c3 14 (b.aB.flatMap aK)::own b2 b.ax.length c2 33 (b.ax.flatMap bG)::own b1 b.aB.length c1 14 (b.aB.flatMap aK)::buf r1 (zu b++b.aB.flatMap jl++(b.ax.take j).flatMap pB)::L),
   λvs _=>match vs with|[_,_,_,_,.int _ d]=>b.ax.length-d.toNat|_=>0,⟨0,aE _,rfl,by simpa using hw4⟩,?_⟩
  rintro s2 a3 Jp Jo Ig n5 n6 w5 ⟨j,hj,e,OG⟩;cases e
  refine T.at ?_ OG;have e6:=nL j;have zq:(zu b++b.aB.flatMap jl++(b.ax.take j).flatMap pB).length<=21+32* 96+96* 217:=by
   rw[au,dU wg,aD];have:min j b.ax.length* 217<=96* 217:=ie _ (by omega);omega
  apply fV<;>intro g1
  ·have cf:j<b.ax.length:=by omega
   have gx:=aj cf;have gm:=hg.Q3 _ (bR cf);generalize b.ax[j]=x at gx gm;refine dM (b:=b5) ⟨by omega,by omega⟩ λrb hb=>?_;subst hb;rw[ao];refine gI (λ_=>rfl) gx ?_
   repeat' first|apply ws;intros|apply wb|with_reducible refine Mg gm.Nq (by omega) ?_|fail
   refine Mg gm.Ol (by rw[au,pg];omega) (Bt ?_)
   repeat' first|apply ws|apply wb|with_reducible refine rS (by simp only[au,pg] at zq⊢;omega) ?_|fail
   rw[e6];refine T.drop λw3 h3=>⟨⟨j+1,cf,rfl,?_⟩,by show b.ax.length-((j+1:Nat):Int).toNat<b.ax.length-(j:Int).toNat;omega⟩;rw[a8,gx,fQ];simpa [aH,pB] using h3
  ·have iM:j=b.ax.length:=by omega
   subst iM;rw[aR];refine sF (p:=r1) (xU ?_);exact T.dp h
end
section
variable {W:World} {L R:LH} {K:VK} {X:WK} {p:Nat} {b:aY}
def wM{b:aY}(hg:fk b):(cI b).length=21+b.aB.length* 96+b.ax.length* 217:=by
 unfold cI;rw[au,au,Hr,dU oq,dU wg]
def JO(hg:fk b)(h:∀p,T W (cO p (b,[])::L) (K (.tuple ⟨[.p (ah p),.i 0]⟩))):T W L (oI (bs (cI b)) K):=by
 have ou:=hg.ou;have many:=hg.many;have uX:=hg.ay;have hck:=hg.clock;have hlen:=wM hg;have xg:cI b=le .i64 1 1++(le .i64 8 b.clock++(le .i64 8 b.ay++(le .i64 2 (b.aB.length:Int)++(le .i64 2 (b.ax.length:Int)++(b.aB.flatMap jl++b.ax.flatMap pB))))):=by
  unfold cI zu;simp only[aH]
 unfold oI;refine RQ λr=>?_;refine za ?_;refine vy (by show(cI b).length<_;omega) (pF ?_);rw[xg];rw[Zu (by omega),nx1];refine gL (by decide) ?_;have Wo:(le .i64 8 b.clock++(le .i64 8 b.ay++(le .i64 2 (b.aB.length:Int)++(le .i64 2 (b.ax.length:Int)++(b.aB.flatMap jl++b.ax.flatMap pB))))).length<1099511627776:=by
  rw[xg,au] at hlen;omega
 refine xw Wo (pF ?_);rw[rd8 (by unfold uU;omega),ZC];rw[au] at Wo;have UG:(le .i64 8 b.ay++(le .i64 2 (b.aB.length:Int)++(le .i64 2 (b.ax.length:Int)++(b.aB.flatMap jl++b.ax.flatMap pB)))).length<1099511627776:=by omega
 refine xw UG (pF ?_);rw[rd8 (by unfold uU;omega),ZC];rw[au] at UG;have hl4:(le .i64 2 (b.aB.length:Int)++(le .i64 2 (b.ax.length:Int)++(b.aB.flatMap jl++b.ax.flatMap pB))).length<1099511627776:=by omega
 refine DE hl4 (pF ?_);rw[rd2 (by omega),nx2];rw[au] at hl4;have hl5:(le .i64 2 (b.ax.length:Int)++(b.aB.flatMap jl++b.ax.flatMap pB)).length<1099511627776:=by omega
 refine DE hl5 (pF ?_);rw[rd2 (by omega),nx2];refine y4 (r:=r) (u0 ?_);rw[dY];refine Xq (r:=r) (pF ?_);have E1:(b.aB.flatMap jl++b.ax.flatMap pB).length=b.aB.length* 96+b.ax.length* 217:=by
  rw[au,dU oq,dU wg]
 have e1:aa.wrap ((b.aB.length:Int)* 96)=(b.aB.length:Int)* 96:=aW (by omega);have e2:aa.wrap ((b.ax.length:Int)* 217)=(b.ax.length:Int)* 217:=aW (by omega);have e3:aa.wrap ((b.aB.length:Int)* 96+(b.ax.length:Int)* 217)=(b.aB.length:Int)* 96+(b.ax.length:Int)* 217:=aW (by omega);rw[e1,e2,e3];rw[ag (by simp),show((((b.aB.flatMap jl++b.ax.flatMap pB).length:Nat):Int)!=(b.aB.length:Int)* 96+(b.ax.length:Int)* 217)=false by rw[E1];simp];unfold oI.j1;rw[dY];refine gZ (e:=14) ?_;intro w X9;refine⟨λvv w=>∃(i:Nat)(bo:OA)(cc:Nat),i<=b.aB.length/\vv=[.p none,.i 0,.p (ah r),.i b.clock,.i b.ay,.i (b.ax.length:Int),.l bo (b.aB.take i).length cc,.i (b.aB.length:Int),.i (i:Int)]/\
                                                                                                                                                                                                                                                                                           St W w (own bo (b.aB.take i).length cc 14 ((b.aB.take i).flatMap aK)::rd r ((b.aB.drop i).flatMap jl++b.ax.flatMap pB,false)::L),
  λvs _=>match vs with|[_,_,_,_,_,_,_,_,.int _ d]=>b.aB.length-d.toNat|_=>0,⟨0,none,0,aE _,rfl,X9⟩,?_⟩
 rintro p2 n6 p3 n7 n8 n9 bo GQ cc X4 VU w2 ⟨i,b0,c0,hi,e,gX⟩;cases e
 refine T.at ?_ gX;have e5:=nL i;have C3:(b.aB.take i).length=i:=by rw[aD];omega
 apply fV<;>intro g1
 ·have cf:i<b.aB.length:=by omega
  have gm:=hg.Rg _ (bR cf);have gx:=aj cf;have hdr:b.aB.drop i=b.aB[i]::b.aB.drop (i+1):=gO cf;generalize b.aB[i]=x at gm gx hdr;have Bm:(b.aB.drop i).flatMap jl++b.ax.flatMap pB=jl x++((b.aB.drop (i+1)).flatMap jl++b.ax.flatMap pB):=by rw[hdr,iB,aH]
  have Ho:((b.aB.drop i).flatMap jl++b.ax.flatMap pB).length<1099511627776:=by
   rw[au,dU oq,dU wg,aS];have:(b.aB.length-i)* 96<=32* 96:=ie _ (by omega);have:b.ax.length* 217<=96* 217:=ie _ (by omega);omega
  rw[Bm] at Ho⊢;refine T1 Ho ?_;rw[EK,Ke gm.ok gm.yB];apply ws;intros;refine jm (b:=bo) (x:=x) rfl rfl rfl (by omega) (by omega) (iv _) λb2 c2=>?_;rw[e5];have qV:b.aB.take (i+1)=b.aB.take i++[x]:=by rw[a8,gx];rfl
  refine T.drop λw3 h3=>⟨⟨i+1,b2,c2,cf,?_,?_⟩,by show b.aB.length-((i+1:Nat):Int).toNat<b.aB.length-(i:Int).toNat;omega⟩
  ·rw[qV];simp
  ·rw[qV];simpa using h3
 ·have iM:i=b.aB.length:=by omega
  subst iM;rw[aR,List.drop_length,List.flatMap_nil,de];refine gZ (e:=33) ?_;intro w3 hw3;refine⟨λvv w=>∃(j:Nat)(bk:OA)(ck:Nat),j<=b.ax.length/\vv=[.p none,.i 0,.p (ah r),.i b.clock,.i b.ay,.l bo b.aB.length cc,.l bk (b.ax.take j).length ck,.i (b.ax.length:Int),.i (j:Int)]/\
              St W w (own bk (b.ax.take j).length ck 33 ((b.ax.take j).flatMap bG)::own bo b.aB.length cc 14 (b.aB.flatMap aK)::rd r ((b.ax.drop j).flatMap pB,false)::L),
   λvs _=>match vs with|[_,_,_,_,_,_,_,_,.int _ d]=>b.ax.length-d.toNat|_=>0,⟨0,none,0,aE _,rfl,hw3⟩,?_⟩
  rintro p4 VT p5 VR VQ ta qQ sO bk vT ck n15 zn w5 ⟨j,b1,c1,hj,e,OG⟩;cases e
  refine T.at ?_ OG;have e6:=nL j;have ahi:(b.ax.take j).length=j:=by rw[aD];omega
  apply fV<;>intro g2
  ·have cf:j<b.ax.length:=by omega
   have gm:=hg.Q3 _ (bR cf);have gx:=aj cf;have hdr:b.ax.drop j=b.ax[j]::b.ax.drop (j+1):=gO cf;generalize b.ax[j]=x at gm gx hdr;have Bm:(b.ax.drop j).flatMap pB=oA x.asked++(oA x.move++(le .i64 1 x.fate++(b.ax.drop (j+1)).flatMap pB)):=by rw[hdr,iB];simp[pB,aH]
   have Ho:((b.ax.drop j).flatMap pB).length<1099511627776:=by
    rw[dU wg,aS];have:(b.ax.length-j)* 217<=96* 217:=ie _ (by omega);omega
   rw[Bm] at Ho⊢;have ab8:(oA x.move++(le .i64 1 x.fate++(b.ax.drop (j+1)).flatMap pB)).length<1099511627776:=by rw[au] at Ho;omega
   have ad4:(le .i64 1 x.fate++(b.ax.drop (j+1)).flatMap pB).length<1099511627776:=by rw[au] at ab8;omega
   refine Mh Ho ?_;rw[AR,EL gm.asked gm.Nq];apply ws;refine Mh ab8 ?_;rw[AR,EL gm.move gm.Ol];apply ws;refine vy ad4 (pF ?_);rw[Zu (by have:=gm.fate;omega),nx1];refine dD ⟨rfl,rfl,rfl,trivial⟩ ?_;refine dD ⟨rfl,trivial⟩ ?_;refine tS λr3=>?_;refine jm (b:=bk) (x:=x) (by show(aL x.asked++(aL x.move++[.i x.fate]))++[]=bG x;rw[bI];rfl) rfl rfl (by omega) (by omega) (mC _) λb2 c2=>?_;rw[e6];have qV:b.ax.take (j+1)=b.ax.take j++[x]:=by rw[a8,gx];rfl
   refine T.drop λw6 h6=>⟨⟨j+1,b2,c2,cf,?_,?_⟩,by show b.ax.length-((j+1:Nat):Int).toNat<b.ax.length-(j:Int).toNat;omega⟩
   ·rw[qV];simp
   ·rw[qV];simpa using h6
  ·have iM:j=b.ax.length:=by omega
   subst iM;rw[aR,List.drop_length,List.flatMap_nil];refine aaZ (R:=own bk b.ax.length ck 33 (b.ax.flatMap bG)::own bo b.aB.length cc 14 (b.aB.flatMap aK)::rd r ([],false)::L) hg ?_ (nK.own (λ_=>rfl) rfl) λp=>?_
   ·have:=nK.own (W:=W) (L:=rd r ([],false)::L) (b:=bo) (n:=b.aB.length) (c:=cc) (e:=14) (g:=aK) (xs:=b.aB) (λ_=>rfl) rfl;exact this.mono
   apply ws;refine gL (by decide) ?_;refine Ud (r:=r) (u0 ?_);refine T.sub (h p) ?_;exact qv
end
end Go.Up
namespace Go.Sep
open Go.Den Go.RowKit Go.Prog Go.cD
def pN{D:aX}{a toX q a2:Int}{s:List UInt8}(h:lK D a toX q=some (s,a2)):a<a2/\a2<=toX/\0<=a/\toX<=(D.safe.length:Int)/\s.length<=32768/\a2=a+(gj (12+s.length):Int):=by
 unfold lK at h;split at h
 ·cases h
 rename_i ha;split at h
 ·cases h
 rename_i m j d hv;split at h
 ·cases h
 rename_i hj;split at h
 ·cases h
 rename_i hc;split at h
 ·cases h
 rename_i t ht;obtain⟨l1,l2,l3,l4,l5⟩:=take_length ht;simp only[bE.injEq,Prod.mk.injEq] at h;obtain⟨h1,h2⟩:=h;subst h1;have hn: ¬32768<kL 4 (fG 8 (d.data.toList,false)):=λhh=>hc (.inr hh);have h4:=Ix (fG 8 (d.data.toList,false));generalize kL 4 (fG 8 (d.data.toList,false))=n6 at *;have hp:=rO (12+n6).toNat;have e:(12+n6).toNat=12+(t.drop 12).length:=by rw[aS];omega
 rw[e] at h2 l3 hp;rw[<-h2];have hl:(t.drop 12).length=t.length-12:=aS;exact⟨by omega,by omega,l2,l4,by omega,rfl⟩
def zk(D:aX)(toX:Int):Nat->Int->Int->List (List UInt8)×Int×Int
 |0,a,q=>([],a,q)
 |f+1,a,q=>match lK D a toX (q+1) with
  |none=>([],a,q)
  |some (s,a2)=>(s::(zk D toX f a2 (q+1)).1,(zk D toX f a2 (q+1)).2)
def kB(D:aX)(toX a q:Int):List (List UInt8)×Int×Int:=zk D toX (toX-a).toNat a q
def BL{D:aX}{a toX q:Int}(h:toX<=a):lK D a toX q=none:=by unfold lK;rw[ai h]
def AP{D:aX}{toX:Int}:∀(f f':Nat)(a q:Int),(toX-a).toNat<=f->(toX-a).toNat<=f'->zk D toX f a q=zk D toX f' a q
 |0,f',a,q,h1,h2=>by
  have hn:=BL (D:=D) (a:=a) (toX:=toX) (q:=q+1) (by omega);cases f' with
  |zero=>rfl
  |succ f'=>simp only[zk,hn]
 |f+1,0,a,q,h1,h2=>by
  have hn:=BL (D:=D) (a:=a) (toX:=toX) (q:=q+1) (by omega);simp only[zk,hn]
 |f+1,f'+1,a,q,h1,h2=>by
  simp only[zk];cases hn:lK D a toX (q+1) with
  |none=>rfl
  |some y=>
   obtain⟨s,a2⟩:=y;have:=pN hn;dsimp only;rw[AP f f' a2 (q+1) (by omega) (by omega)]
def EG{D:aX}{toX a q:Int}(h:lK D a toX (q+1)=none):kB D toX a q=([],a,q):=by
 unfold kB;cases hf:(toX-a).toNat with
 |zero=>rfl
 |succ f=>simp only[zk,h]
def EH{D:aX}{toX a q a2:Int}{s:List UInt8}(h:lK D a toX (q+1)=some (s,a2)):kB D toX a q=(s::(kB D toX a2 (q+1)).1,(kB D toX a2 (q+1)).2):=by
 have hi:=pN h;unfold kB;obtain⟨f,hf⟩:∃f,(toX-a).toNat=f+1:=⟨(toX-a).toNat-1,by omega⟩;rw[hf];simp only[zk,h];rw[AP f (toX-a2).toNat a2 (q+1) (by omega) (by omega)]
section
variable {W w:World} {L:LH} {k d:Nat} {D:aX}
def Gh(l:List UInt8):Value:=.s (bs l)
def J'{lo hi:Int}{K:VK}(h:St W w L)(hk:L[k]?=some (gJ d D))(hK:K (.b (decide (0<=lo/\lo<hi/\hi<=(D.safe.length:Int)))) w):rJ (ah d) lo hi K w:=by
 have no: ¬(0<=lo/\lo<hi/\hi<=(D.safe.length:Int))->K (.b false) w:=λhn=>by rw[aq hn] at hK;exact hK
 unfold rJ;refine fJ (λh1=>?_) (λh1=>no (by omega));refine fJ (λh2=>?_) (λh2=>no (by omega));refine nu h hk ?_;simp only[nz,ae,af];have:decide (hi<=(D.safe.length:Int))=decide (0<=lo/\lo<hi/\hi<=(D.safe.length:Int)):=by rw[decide_eq_decide];omega
 rw[this];exact hK
def QY{lo hi q:Int}{K:VK}(h:St W w L)(hk:L[k]?=some (gJ d D))(ix:D.Ok)(hp:0<=lo/\lo<hi/\hi<=(D.safe.length:Int))(hq:0<=q/\q<=1152921504606846976)
 (hK:∀r b c w',(∃n:Nat,n<=4096/\(kB D hi lo q).1.length=n/\(kB D hi lo q).2.2=q+n/\lo<=(kB D hi lo q).2.1/\(kB D hi lo q).2.1<=hi)->St W w' (own b (kB D hi lo q).1.length c 1 ((kB D hi lo q).1.map Gh)::pt r (rK d ⟨lo,hi,(kB D hi lo q).2.1,(kB D hi lo q).2.2,false⟩)::L)->
  K (.tuple ⟨[.p (ah r),.l b (kB D hi lo q).1.length c,.i 0]⟩) w'):kD (ah d) lo hi q K w:=by
 have wj:=ix.ou;unfold kD;simp only[nz,ae,af];refine J' h hk ?_;rw[av hp];simp only[nz,ae,af];refine fJ (λh1=>by omega) (λ_=>?_);have e0:decide (q>1152921504606846976)=false:=aq (by omega);rw[e0];unfold kD.j1;simp only[nz,ae,af];refine iS h λr w h=>?_;have h0:=h.push (A:=own none 0 0 1 (([]:List (List UInt8)).map Gh)) (rG 1);refine⟨λus w'=>∃(acc:List (List UInt8))(a:Int)(b:OA)(n c:Nat),us=[.p none,.l none 0 0,.i 0,.p (ah r),.l b n c]/\acc.length=n/\lo+n<=a/\a<=hi/\
                                                                   kB D hi lo q=(acc++(kB D hi a (q+n)).1,(kB D hi a (q+n)).2)/\St W w' (own b n c 1 (acc.map Gh)::pt r (rK d ⟨lo,hi,a,q+n,false⟩)::L),
  λus _=>match us with|[_,_,_,_,.slice _ n _]=>5000-n|_=>0,⟨[],lo,none,0,0,rfl,rfl,by omega,by omega,by simp,?_⟩,?_⟩
 ·have:rK d ⟨lo,hi,lo,q+((0:Nat):Int),false⟩=[.p (ah d),.i lo,.i hi,.i lo,.i q,.b false]:=by
   rw[show q+((0:Nat):Int)=q from by omega];rfl
  rw[this];exact h0
 rintro p2 Ge GQ GV n4 a1 qI oW re w2 ⟨acc,a,b,n,c,he,hn,ha,hah,ho,h⟩;cases he
 refine lX h λw h=>?_;refine cT (k:=1) h rfl (v:=.i a) rfl ?_;simp only[nz,ae,af];refine cT (k:=1) h rfl (v:=.i (q+oW)) rfl ?_;simp only[nz,ae,af];have ew:aa.wrap (q+(oW:Int)+1)=q+(oW:Int)+1:=aW (by omega);rw[ew];refine P7 (k:=k+2) h (by rw[bO,bO];exact hk) ix (by omega) (by omega) λw h=>?_;cases hx:lK D a hi (q+(oW:Int)+1) with
 |none=>
  unfold AS;simp only[nz,ae,af];refine ka (k:=1) h rfl rfl ?_;rw[EG hx,bI] at ho;have:=hK r qI re w;rw[ho] at this;dsimp only at this;rw[hn] at this;exact this ⟨oW,by omega,rfl,rfl,by omega,by omega⟩ h
 |some y=>
  obtain⟨s,a2⟩:=y;obtain⟨b1,b2,b3,b4,b5,b6⟩:=pN hx;unfold AS;simp only[nz,ae,af];refine ka (k:=1) h rfl rfl ?_;refine⟨trivial,iS h λr2 w h=>?_⟩;refine uv (k:=1) (ys:=[Gh s]) h rfl (FH (k':=0) h rfl rfl λj v hj=>by rw[aC];exact hj) (by simp) rfl (by omega) (by omega) (by simp[Gh,Value.oneCell']) λb' c' w h=>?_;simp only[nz,ae,af] at h⊢;refine cT (k:=2) h rfl (v:=.i (q+oW)) rfl ?_;simp only[nz,ae,af];refine oz (k:=2) h rfl (aJ rfl) rfl λw h=>?_;simp only[nz,ae,af] at h;refine oz (k:=2) h rfl (aJ rfl) rfl λw h=>?_;simp only[nz,ae,af] at h;rw[ew] at h;refine⟨⟨acc++[s],a2,b',oW+1,c',rfl,by rw[au,hn];rfl,by omega,by omega,?_,?_⟩,by omega⟩
  ·rw[ho,EH hx,show q+(oW:Int)+1=q+((oW+1:Nat):Int) from by omega,aH];rfl
  ·rw[cR];have:rK d ⟨lo,hi,a2,q+((oW+1:Nat):Int),false⟩=[.p (ah d),.i lo,.i hi,.i a2,.i (q+(oW:Int)+1),.b false]:=by
    rw[show q+((oW+1:Nat):Int)=q+(oW:Int)+1 from by omega];rfl
   rw[this];exact h.drop
end
def Ec(d:BA):Int:=kL 8 (d.data.toList,false)
def TN(l:List UInt8):(part (bs l) 0).data.toList=l.take 104:=by
 unfold part;rw[extract_toList,Nat.mul_zero,iQ]
 rfl
def KU(seq:Int)(s:BA):df seq s=le .i64 8 seq++(le .i64 4 s.size++s.data.toList):=by simp only[df,aH]
def MA(seq:Int)(s:BA):∃r,(part (bs (df seq s)) 0).data.toList=le .i64 8 seq++(le .i64 4 s.size++r):=by
 rw[TN,KU];refine⟨s.data.toList.take 92,?_⟩;have h8:(le .i64 8 seq).length=8:=aO _ _ _;have h4:(le .i64 4 (s.size:Int)).length=4:=aO _ _ _;rw[List.take_append,List.take_append,h8,h4,bM (by rw[h8];omega),bM (l:=le .i64 4 (s.size:Int)) (by rw[h4];omega)]
def Rv{m:Nat}(h:m<4294967296):nB (le .i64 4 (m:Int))=m:=by
 rw[rz m 4 (by omega)];exact fw h
def P5{n:Int}(h:0<=n/\n<9223372036854775808):mS (le .i64 8 n)=n:=by
 obtain⟨m,rfl⟩:=bm h.1;unfold mS;rw[rz m 8 (by omega)];have h8:(256:Nat)^8=18446744073709551616:=rfl;rw[h8,fw (by omega),aW (by omega)]
def u7{seq:Int}{s:BA}(hq:0<=seq/\seq<9223372036854775808)(hs:s.size<=32768):
 Ec (part (bs (df seq s)) 0)=seq/\(fG 4 (fG 8 ((part (bs (df seq s)) 0).data.toList,false))).2=false/\kL 4 (fG 8 ((part (bs (df seq s)) 0).data.toList,false))=(s.size:Int):=by
 obtain⟨r,hr⟩:=MA seq s;unfold Ec;rw[hr];have h8:(le .i64 8 seq).length=8:=aO _ _ _;have h4:(le .i64 4 (s.size:Int)).length=4:=aO _ _ _;have e1:fG 8 (le .i64 8 seq++(le .i64 4 s.size++r),false)=(le .i64 4 s.size++r,false):=by
  unfold fG;rw[ag (by simp only[cB,false_or,au,h8];omega),uK _ _ 8 h8]
 have e2:kL 8 (le .i64 8 seq++(le .i64 4 s.size++r),false)=seq:=by
  unfold kL;rw[ag (by simp only[cB,false_or,au,h8];omega),sW _ _ 8 h8,P5 hq]
 have e3:fG 4 (le .i64 4 (s.size:Int)++r,false)=(r,false):=by
  unfold fG;rw[ag (by simp only[cB,false_or,au,h4];omega),uK _ _ 4 h4]
 have e4:kL 4 (le .i64 4 (s.size:Int)++r,false)=(s.size:Int):=by
  unfold kL;rw[ag (by simp only[cB,false_or,au,h4];omega),sW _ _ 4 h4,nD (by rw[h4];omega),Rv (by omega)]
 rw[e1,e2,e3,e4];exact⟨rfl,rfl,rfl⟩
def sw(seq:Int)(s:BA):(bs (df seq s)).size=12+s.size:=by rw[bY,zx]
def JH{D:aX}{a toX n:Int}{s:BA}(hn:1<=n/\n<=1152921504606846976)(h0:0<=a)(UB:a+(gj s.size:Int)<=toX)(hlen:toX<=(D.safe.length:Int))(wj:D.safe.length<=4096)
 (hr:∀i:Nat,i<gj s.size->(D.read (a+i)).1=leaf n i (part s i)):take D a toX n s.size=some s.data.toList:=by
 have hb:s.size<=104* gj s.size:=by unfold gj;split<;>omega
 have SS:∀q:Nat,(part s q).size=min (104* (q+1)) s.size-104* q:=λq=>by unfold part;rw[s7]
 have se:s.size<=425984:=by omega
 unfold take;rw[ag (by rw[ao];omega),ao,Bs (s:=s) (gj s.size) 0 (λq _ hq=>by
  have hg:fk n q (part s q):=⟨hn.1,hn.2,by omega,by omega,mX s q⟩
  rw[hr q (by omega),mY hg]
  exact⟨oK hg,by rw[SS];omega⟩)]
 congr 1
 rw[Nat.mul_zero,iQ,bM (by rw[eJ];exact hb)]
def Ct{D:aX}{a toX n q:Int}{s:BA}(hn:1<=n/\n<=1152921504606846976)(hq:0<=q/\q<9223372036854775808)(hs:s.size<=32768)(h0:0<=a)(UB:a+(gj (12+s.size):Int)<=toX)(hlen:toX<=(D.safe.length:Int))(wj:D.safe.length<=4096)
 (hr:∀i:Nat,i<gj (12+s.size)->(D.read (a+i)).1=leaf n i (part (bs (df q s)) i)):lK D a toX q=some (s.data.toList,a+(gj (12+s.size):Int)):=by
 have A2:=sw q s;have hp:=rO (12+s.size);obtain⟨p1,p2,p3⟩:=u7 hq hs;have h00:=hr 0 hp;rw[show a+((0:Nat):Int)=a from by omega] at h00;have hg:fk n ((0:Nat):Int) (part (bs (df q s)) 0):=⟨hn.1,hn.2,by omega,by omega,mX _ 0⟩;have ht:=JH (D:=D) (a:=a) (toX:=toX) (s:=bs (df q s)) hn h0 (by rw[A2];exact UB) hlen wj (by rw[A2];exact hr);unfold lK;rw[ag (by omega),h00,mY hg,oK hg];dsimp only;unfold Ec at p1;rw[ag (by rintro(hh|hh);exact hh rfl;exact hh p1),p2,p3,ag (by rintro(hh|hh);cases hh;omega)];rw[A2] at ht;have e1:((12+s.size:Nat):Int)=12+(s.size:Int):=by omega
 rw[e1] at ht;rw[ht];dsimp only;have e2:(12+(s.size:Int)).toNat=12+s.size:=by omega
 have e3:(bs (df q s)).data.toList.drop 12=s.data.toList:=by
  show(df q s).drop 12=_;unfold df;exact uK _ _ 12 (by rw[au,aO,aO])
 rw[e2,e3]
def Ck{D D':aX}{a n:Int}{size:Nat}:∀(k i:Nat),(∀j:Nat,i<=j->j<i+k->(D'.read (a+j)).1=(D.read (a+j)).1)->mQ D' a n size i k=mQ D a n size i k
 |0,i,_=>rfl
 |k+1,i,h=>by
  rw[oH,oH,h i (aG _) (by omega),Ck k (i+1) (λj h1 h2=>h j (by omega) (by omega))]
def vc{D D':aX}{a toX q a2:Int}{s:List UInt8}(h:lK D a toX q=some (s,a2))(hlen:D'.safe.length=D.safe.length)(hr:∀j:Int,a<=j->j<a2->(D'.read j).1=(D.read j).1):lK D' a toX q=some (s,a2):=by
 obtain⟨i1,i2,i3,i4,i5,i6⟩:=pN h;have h0:=hr a (by omega) (by omega);have ag7:=h;unfold lK at h⊢;rw[h0];split at h
 ·cases h
 rename_i ha;rw[ag ha];split at h
 ·cases h
 rename_i m j d hv;split at h
 ·cases h
 rename_i hj;rw[ag hj];split at h
 ·cases h
 rename_i hc;rw[ag hc];split at h
 ·cases h
 rename_i t ht;obtain⟨l1,l2,l3,l4,l5⟩:=take_length ht;have Kx:take D' a toX m (12+kL 4 (fG 8 (d.data.toList,false)))=some t:=by
  simp only[bE.injEq,Prod.mk.injEq] at h;rw[<-ht];unfold take;rw[hlen,Ck _ 0 (λj h1 h2=>hr (a+j) (by omega) (by omega))]
 rw[Kx];dsimp only;exact h
def BK{D:aX}{a toX q:Int}(h:∀m d,lJ (D.read a).1.data.toList=some (m,0,d)->Ec d≠q):lK D a toX q=none:=by
 unfold lK;split
 ·rfl
 split
 ·rfl
 rename_i m j d hv;by_cases hj:j=0
 ·subst hj;rw[ai (.inr (h m d hv))]
 ·rw[ai (.inl hj)]
def jV(D:aX)(toX:Int):Int->Int->List (List UInt8)->Int->Prop
 |a,_,[],e=>a=e
 |a,q,s::r,e=>∃a2,lK D a toX (q+1)=some (s,a2)/\jV D toX a2 (q+1) r e
def Lf{D:aX}{toX:Int}:∀(r:List (List UInt8)) {a q e:Int},jV D toX a q r e->a+r.length<=e
 |[],a,q,e,h=>by unfold jV at h;simp;omega
 |s::r,a,q,e,⟨a2,h1,h2⟩=>by
  have:=pN h1;have:=Lf r h2;rw[bt];omega
def Fo{D:aX}{toX:Int}:∀(r:List (List UInt8)) {a q e:Int},jV D toX a q r e->lK D e toX (q+r.length+1)=none->kB D toX a q=(r,e,q+r.length)
 |[],a,q,e,h,hn=>by
  unfold jV at h;subst h;have e0:q+(([]:List (List UInt8)).length:Int)=q:=by simp
  rw[e0] at hn⊢;exact EG hn
 |s::r,a,q,e,⟨a2,h1,h2⟩,hn=>by
  have e1:q+((s::r).length:Int)=q+1+(r.length:Int):=by rw[bt];omega
  rw[e1] at hn⊢;rw[EH h1,Fo r h2 hn]
def vr{D D':aX}{toX:Int}(hlen:D'.safe.length=D.safe.length):∀(r:List (List UInt8)) {a q e:Int},jV D toX a q r e->(∀j:Int,a<=j->j<e->(D'.read j).1=(D.read j).1)->jV D' toX a q r e
 |[],a,q,e,h,_=>h
 |s::r,a,q,e,⟨a2,h1,h2⟩,hr=>by
  have hi:=pN h1;have hl:=Lf r h2;exact⟨a2,vc h1 hlen (λj h3 h4=>hr j h3 (by omega)),vr hlen r h2 (λj h3 h4=>hr j (by omega) h4)⟩
def Fm{D:aX}{toX:Int}:∀(r:List (List UInt8)) {a q e e2:Int} {s:List UInt8},jV D toX a q r e->lK D e toX (q+r.length+1)=some (s,e2)->jV D toX a q (r++[s]) e2
 |[],a,q,e,e2,s,h,hn=>by
  unfold jV at h;subst h;have e0:q+(([]:List (List UInt8)).length:Int)=q:=by simp
  rw[e0] at hn;exact⟨e2,hn,rfl⟩
 |x::r,a,q,e,e2,s,⟨a2,h1,h2⟩,hn=>by
  have e1:q+((x::r).length:Int)=q+1+(r.length:Int):=by rw[bt];omega
  rw[e1] at hn;exact⟨a2,h1,Fm r h2 hn⟩
def PJ.more(J:PJ)(s:BA):PJ:={J with at':=J.at'+(gj (12+s.size):Int),seq:=J.seq+1}
def TX{n:Nat}{D:aX}{J:PJ}{number:Int}{s:BA}(hc:Calm n D)(cQ:n<=4096)(hJ:J.Ok D)(Wc:J.dK=false)(pO:1<=number/\number<=1152921504606846976)(Gq:J.seq<1152921504606846976)(hr:room J s.size):
 ∃D',tK D J number s=(D',J.more s,0)/\Calm n D'/\D'.later=[]/\(J.more s).Ok D'/\(∀i:Nat,i<gj (12+s.size)->(D'.read (J.at'+i)).1=leaf number i (part (bs (df (J.seq+1) s)) i))/\
  (∀j:Int,0<=j->j<n->(j<J.at'\/J.at'+(gj (12+s.size):Int)<=j)->(D'.read j).1=(D.read j).1)/\lK D' J.at' J.hi (J.seq+1)=some (s.data.toList,J.at'+(gj (12+s.size):Int)):=by
 obtain⟨j1,j2,j3,j4,j5⟩:=hJ;obtain⟨r1,r2,r3⟩:=hr;rw[ao] at r3;have hlen:=hc.len;have A2:=sw (J.seq+1) s;obtain⟨a,ha⟩:=bm (show 0<=J.at' by omega);obtain⟨t,ht⟩:=bm (show 0<=J.hi by omega);obtain⟨p1,p2,p3,p4⟩:=Oo (n:=n) (a:=a) (t:=t) (number:=number) (s:=bs (df (J.seq+1) s)) hc cQ pO (by rw[A2];omega) (by omega);have p5:=SH (n:=n) (a:=a) (t:=t) (number:=number) (s:=bs (df (J.seq+1) s)) hc cQ pO (by rw[A2];omega) (by omega);rw[A2] at p3 p4;rw[<-ha,<-ht] at p1 p2 p3 p4 p5;have zq:=p2.len;refine⟨(eO D J.at' J.hi number (bs (df (J.seq+1) s))).1,?_,p2,p5,⟨j1,?_,?_,?_,?_⟩,p3,λj h1 h2 h3=>?_,?_⟩
 ·unfold tK;rw[ag (by rw[Wc];exact q8),ag (by omega),ag (by rintro(hh|hh);exact hh ⟨r1,r2,by rw[ao];exact r3⟩;omega)];unfold B6;rw[ag (λhh=>hh p1)]
  rfl
 ·show J.lo<=J.at'+_;omega
 ·show J.at'+_<=J.hi;omega
 ·show J.hi<=_;omega
 ·show 0<=J.seq+1/\J.seq+1<=_;omega
 ·obtain⟨m,rfl⟩:=bm h1;exact p4 m (by omega) (by omega)
 ·exact Ct pO (by omega) (by omega) (by omega) (by omega) (by omega) (by omega) p3
def Ki{D:aX}{a toX q:Int}(h:(D.read a).1=mP 128):lK D a toX q=none:=
 BK (λm d hv=>by rw[h,yp] at hv;cases hv)
def Hd{n:Nat}(h:n<=4096){j:Int}(h0:0<=j)(hj:j<n):((aX.new n).read j).1=mP 128:=by
 obtain⟨m,rfl⟩:=bm h0;exact AU h (by omega)
section
variable {W w:World} {L:LH} {k d:Nat} {D:aX}
end
def yU{l:List UInt8}{k:Nat}(hk:k<=8)(hl:l.length=k):l=le .i64 k (nB l:Int):=by
 refine Jx _ _ (by rw[hl,aO]) ?_;have:=ry l;rw[hl] at this;rw[rz (nB l) k hk,fw this]
def BS{l:List UInt8}{n:Int}(hl:l.length=8)(hn:0<=n)(h:mS l=n):l=le .i64 8 n:=by
 have hv:=ry l;have h8:(256:Nat)^8=18446744073709551616:=rfl;rw[hl,h8] at hv;have Gn:(nB l:Int)=n:=by
  unfold mS at h;simp[IntKind.wrap,IntKind.bits,IntKind.signed] at h;split at h<;>omega
 rw[<-Gn];exact yU (by decide) hl
def BE{l:List UInt8}{n j:Int}{d:BA}(h:lJ l=some (n,j,d)):l=ml n j d/\fk n j d:=by
 unfold lJ at h;split at h
 ·cases h
 rename_i h1;split at h
 ·cases h
 rename_i h2;split at h
 ·cases h
 rename_i h3;split at h
 ·cases h
 rename_i h4;split at h
 ·cases h
 rename_i h5;split at h
 ·cases h
 rename_i h6;have h1:=bh.1 h1;have h2:tF (l.take 120)=true:=by cases hh:tF (l.take 120) with
  |true=>rfl
  |false=>exact aT hh h2
 have h4:=bh.1 h4;have h5:=bh.1 h5;have h6:=bh.1 h6;simp only[bE.injEq,Prod.mk.injEq] at h;obtain⟨rfl,rfl,rfl⟩:=h;refine⟨?_,h6⟩;obtain⟨g1,g2,g3,g4,g5⟩:=h6;have hM:sM l<=104:=by omega
 have l8:(l.drop 8).length=120:=by rw[aS];omega
 have l10:((l.drop 8).drop 2).length=118:=by rw[aS];omega
 have lr:(mz l).length=116:=by unfold mz;rw[aS];omega
 have p1:l.take 8=le .i64 8 (sN l):=BS (by rw[aD];omega) (by omega) rfl;have p2:(l.drop 8).take 2=le .i64 2 (sI l):=by
  have e:sI l=(nB ((l.drop 8).take 2):Int):=nD (by rw[aD];omega);rw[e];exact yU (by decide) (by rw[aD];omega)
 have p3:((l.drop 8).drop 2).take 2=le .i64 2 (sM l:Int):=yU (by decide) (by rw[aD];omega);have hD:(sD l).length=sM l:=by unfold sD;rw[aD];omega
 have lrm:((mz l).drop (sM l)).length=116-sM l:=by rw[aS,lr]
 have hZ:(sZ l).length=104-sM l:=by unfold sZ;rw[aD];omega
 have lrz:(((mz l).drop (sM l)).drop (104-sM l)).length=12:=by rw[aS,lrm];omega
 have lrc:((((mz l).drop (sM l)).drop (104-sM l)).drop 4).length=8:=by rw[aS,lrz]
 have p6:(((mz l).drop (sM l)).drop (104-sM l)).drop 4=le .i64 8 (sN l):=by
  refine BS lrc (by omega) ?_;rw[<-h4];unfold Cn;rw[bM (by omega)]
 rw[hZ] at h5;have e1:l=l.take 8++((l.drop 8).take 2++(((l.drop 8).drop 2).take 2++(sD l++(sZ l++((((mz l).drop (sM l)).drop (104-sM l)).take 4++(((mz l).drop (sM l)).drop (104-sM l)).drop 4))))):=by
  unfold sD sZ;rw[dj,dj,dj];unfold mz;rw[dj,dj,dj]
 have se:(bs (sD l)).size=sM l:=by rw[bY,hD]
 have aey:pre (sN l) (sI l) (bs (sD l))=l.take 8++((l.drop 8).take 2++(((l.drop 8).drop 2).take 2++(sD l++sZ l))):=by
  unfold pre;rw[se,p1,p2,p3,h5];simp only[aH]
  rfl
 have Q5:(pre (sN l) (sI l) (bs (sD l))).length=116:=qS g5;have e2:l=pre (sN l) (sI l) (bs (sD l))++((((mz l).drop (sM l)).drop (104-sM l)).take 4++(((mz l).drop (sM l)).drop (104-sM l)).drop 4):=by
  rw[aey];simp only[aH];exact e1
 have aay:l.take 116=pre (sN l) (sI l) (bs (sD l)):=by
  have:=congrArg (List.take 116) e2;rw[sW _ _ 116 Q5] at this;exact this
 have e4:(l.take 120).drop 116=(((mz l).drop (sM l)).drop (104-sM l)).take 4:=by
  have aew:l.drop 116=(((mz l).drop (sM l)).drop (104-sM l)).take 4++(((mz l).drop (sM l)).drop (104-sM l)).drop 4:=by
   have:=congrArg (List.drop 116) e2;rw[uK _ _ 116 Q5] at this;exact this
  rw[List.drop_take,aew];exact sW _ _ 4 (by rw[aD];omega)
 have aem:vL (sY 0 (pre (sN l) (sI l) (bs (sD l))))=(((mz l).drop (sM l)).drop (104-sM l)).take 4:=by
  unfold tF at h2;have IK:(l.take 120).length=120:=by rw[aD];omega
  rw[IK,show 120-4=116 from rfl,e4,xz,show min 116 120=116 from rfl,aay] at h2;simpa using h2
 unfold ml;rw[aem,aH];rw[p6] at e2;exact e2
def GL{D:aX}{a n:Int}{size:Nat}:∀(k i:Nat) {t:List UInt8},mQ D a n size i k=some t->size<=104* (i+k)->∀q,i<=q->q<i+k->
 ∃d,lJ (D.read (a+q)).1.data.toList=some (n,(q:Int),d)/\d.data.toList=(t.drop (104* (q-i))).take 104
 |0,i,t,h,hs,q,h1,h2=>by omega
 |k+1,i,t,h,hs,q,h1,h2=>by
  rw[oH] at h;split at h
  ·cases h
  rename_i m j d hv;split at h
  ·rename_i hc;obtain⟨rfl,rfl,hd⟩:=hc;cases ht:mQ D a m size (i+1) k with
   |none=>rw[ht] at h;cases h
   |some u=>
    rw[ht] at h;simp only[eW,bE.injEq] at h;subst h;have zv:d.data.toList.length=d.size:=rfl;by_cases hq:q=i
    ·subst hq;refine⟨d,hv,?_⟩;rw[lu,Nat.mul_zero,iQ];by_cases h3:104* (q+1)<=size
     ·exact(sW _ _ 104 (by omega)).symm
     ·have hu:u.length=0:=by
       by_cases hk:k=0
       ·subst hk;simp only[mQ,bE.injEq] at ht;subst ht;rfl
       ·
        have hz:∀(n' i':Nat) {v:List UInt8},mQ D a m size i' n'=some v->size<=104* i'->v.length=0:=by
         intro n'
         induction n' with
         |zero=>intro i' v h _;simp only[mQ,bE.injEq] at h;subst h;rfl
         |succ n' ih=>
          intro i' v h hle;rw[oH] at h;split at h
          ·cases h
          ·split at h
           ·rename_i OQ;cases MO:mQ D a m size (i'+1) n' with
            |none=>rw[MO] at h;cases h
            |some v2=>
             rw[MO] at h;simp only[eW,bE.injEq] at h;subst h;have:=ih (i'+1) MO (by omega);rw[au,this,eJ,OQ.2.2];omega
           ·cases h
        exact hz k (q+1) ht (by omega)
      rw[List.eq_nil_of_length_eq_zero hu,bI,bM (by omega)]
    ·obtain⟨d2,Wa,UL⟩:=GL k (i+1) ht (by omega) q (by omega) (by omega);refine⟨d2,Wa,?_⟩;have hu:104* (i+1)<=size\/u.length=0:=by
      by_cases h3:104* (i+1)<=size
      ·exact .inl h3
      ·right
       have hz:∀(n' i':Nat) {v:List UInt8},mQ D a m size i' n'=some v->size<=104* i'->v.length=0:=by
        intro n'
        induction n' with
        |zero=>intro i' v h _;simp only[mQ,bE.injEq] at h;subst h;rfl
        |succ n' ih=>
         intro i' v h hle;rw[oH] at h;split at h
         ·cases h
         ·split at h
          ·rename_i OQ;cases MO:mQ D a m size (i'+1) n' with
           |none=>rw[MO] at h;cases h
           |some v2=>
            rw[MO] at h;simp only[eW,bE.injEq] at h;subst h;have:=ih (i'+1) MO (by omega);rw[au,this,eJ,OQ.2.2];omega
          ·cases h
       exact hz k (i+1) ht (by omega)
     rw[UL];rcases hu with h3|h3
     ·have:(d.data.toList++u).drop (104* (q-i))=u.drop (104* (q-(i+1))):=by
       rw[show 104* (q-i)=104+104* (q-(i+1)) from by omega,<-jz,uK _ _ 104 (by omega)]
      rw[this]
     ·rw[List.eq_nil_of_length_eq_zero h3,bI];simp only[List.drop_nil,List.take_nil];rw[ga (by omega)]
      rfl
  ·cases h
def Hc{D:aX}{a toX q a2:Int}{s:List UInt8}(hq:0<=q)(h:lK D a toX q=some (s,a2)):
 ∃m d,1<=m/\m<=1152921504606846976/\lJ (D.read a).1.data.toList=some (m,0,d)/\∀i:Nat,i<gj (12+s.length)->(D.read (a+i)).1=leaf m i (part (bs (df q (bs s))) i):=by
 have hi:=pN h;unfold lK at h;split at h
 ·cases h
 rename_i ha;split at h
 ·cases h
 rename_i m j d hv;split at h
 ·cases h
 rename_i hj;split at h
 ·cases h
 rename_i hc;split at h
 ·cases h
 rename_i t ht;obtain⟨l1,l2,l3,l4,l5⟩:=take_length ht;simp only[bE.injEq,Prod.mk.injEq] at h;obtain⟨h1,h2⟩:=h;subst h1;have hj0:j=0:=by
  by_cases hh:j=0
  ·exact hh
  ·exact aT (.inl hh) hj
 have Wg:kL 8 (d.data.toList,false)=q:=by
  by_cases hh:kL 8 (d.data.toList,false)=q
  ·exact hh
  ·exact aT (.inr hh) hj
 subst hj0;have hn4:=Ix (fG 8 (d.data.toList,false));have hle: ¬32768<kL 4 (fG 8 (d.data.toList,false)):=λhh=>hc (.inr hh);have ag2:(fG 4 (fG 8 (d.data.toList,false))).2=false:=by
  cases hh:(fG 4 (fG 8 (d.data.toList,false))).2 with
  |false=>rfl
  |true=>exact aT (.inl hh) hc
 obtain⟨_,zW⟩:=BE hv;have qV:=ht;unfold take at qV;split at qV
 ·cases qV
 have hcn:(12+kL 4 (fG 8 (d.data.toList,false))).toNat=t.length:=by omega
 rw[hcn] at qV;have hb:t.length<=104* gj t.length:=by unfold gj;split<;>omega
 have Qi:=GL (gj t.length) 0 qV (by omega);have hcp:=rO t.length;obtain⟨d0,hv0,hd0⟩:=Qi 0 (aG _) (by omega);rw[show a+((0:Nat):Int)=a from by omega,hv] at hv0;have aek:d=d0:=by cases hv0;rfl
 subst aek;rw[Nat.sub_zero,Nat.mul_zero,iQ] at hd0;have ahv:12<=d.data.toList.length:=by
  rw[hd0,aD];omega
 have x1:fG 8 (d.data.toList,false)=(d.data.toList.drop 8,false):=by unfold fG;rw[ag (by simp only[cB,false_or];omega)]
 have x2:kL 8 (d.data.toList,false)=mS (d.data.toList.take 8):=by unfold kL;rw[ag (by simp only[cB,false_or];omega)]
 have l8:(d.data.toList.drop 8).length=d.data.toList.length-8:=aS;have x3:kL 4 (d.data.toList.drop 8,false)=mS ((d.data.toList.drop 8).take 4):=by unfold kL;rw[ag (by simp only[cB,false_or];omega)]
 rw[x2] at Wg;rw[x1,x3] at l1 hn4 hcn;have y1:d.data.toList.take 8=le .i64 8 q:=BS (by rw[aD];omega) hq Wg;have hl4:((d.data.toList.drop 8).take 4).length=4:=by rw[aD];omega
 rw[nD (by omega)] at l1;have y2:(d.data.toList.drop 8).take 4=le .i64 4 ((t.length-12:Nat):Int):=by
  have:=yU (by decide) hl4;rw[show(nB ((d.data.toList.drop 8).take 4):Int)=((t.length-12:Nat):Int) from by omega] at this;exact this
 have z1:t.take 8=le .i64 8 q:=by
  rw[<-y1,hd0,xz,show min 8 104=8 from rfl]
 have z2:(t.drop 8).take 4=le .i64 4 ((t.length-12:Nat):Int):=by
  rw[<-y2,hd0,List.drop_take,xz,show min 4 (104-8)=4 from rfl]
 have Qq:df q (bs (t.drop 12))=t:=by
  unfold df;have se:(bs (t.drop 12)).size=t.length-12:=by rw[bY,aS]
  rw[se,<-z1,<-z2];show t.take 8++(t.drop 8).take 4++t.drop 12=t;have:t.drop 12=(t.drop 8).drop 4:=by rw[jz]
  rw[this,aH,dj,dj]
 refine⟨m,d,zW.1,zW.2.1,hv,λi hi2=>?_⟩;have ad7:12+(t.drop 12).length=t.length:=by rw[aS];omega
 rw[ad7] at hi2;obtain⟨di,hvi,E5⟩:=Qi i (aE _) (by omega);obtain⟨hx,KL⟩:=BE hvi;rw[Qq];have OH:part (bs t) i=di:=by
  apply kx;rw[E5];unfold part;rw[extract_toList];show(t.drop (104* i)).take (104* (i+1) -104* i)=_;rw[Nat.sub_zero,show 104* (i+1) -104* i=104 from by omega]
 rw[OH];apply kx;rw[mY KL];exact hx
section
variable {W w:World} {L:LH}
end
def Pp{D:aX}(h:D.sync.2=0):D.sync.1.later=[]:=by
 unfold aX.sync at h⊢;split at h
 ·simp at h
 ·rename_i hf;rw[ag hf]
def On{D:aX}{at' toX number:Int}{s:BA}(h:(eO D at' toX number s).2=0):(eO D at' toX number s).1.later=[]:=by
 unfold eO at h⊢;split at h
 ·rename_i hh;exact aT h hh
 ·rename_i hh;rw[ag hh];exact Pp h
def Aa{D:aX}(h:D.later=[])(mask torn cut:Int)(j:Int):(D.fI mask torn cut).read j=D.read j:=by
 have e:D.fI mask torn cut=⟨D.safe,[],D.ops,0⟩:=by rw[od,h];rfl
 rw[e];unfold aX.read aX.is aX.now;rw[h]
def Hi{at' number:Int}{s:BA}(pO:1<=number/\number<=1152921504606846976)(Bp:0<=at'):∀(n i:Nat) {D:aX},at'+i+n<=D.safe.length->i+n<=4096->(o5 at' number s D i n).2=0\/(o5 at' number s D i n).2=8
 |0,i,D,hr,hi=>.inl rfl
 |n+1,i,D,hr,hi=>by
  have hg:fk number i (part s i):=⟨pO.1,pO.2,by omega,by omega,mX s i⟩;have se:=ui hg;have uY:D.is (at'+i):=⟨by omega,by omega⟩;have zg: ¬(¬D.is (at'+i)\/128<(leaf number i (part s i)).size):=by
   rintro(hh|hh)
   ·exact hh uY
   ·omega
  have th:=(sn D (at'+i) (leaf number i (part s i))).1;have hw:D.write (at'+i) (leaf number i (part s i))=if D.vh then(D.tick,8) else({Go.cD.aX.tick D with later:=D.later++[(at'+i,aX.pad (leaf number i (part s i)))]},0):=by
   unfold aX.write;rw[ag zg]
  unfold o5;cases hf:D.vh with
  |true=>
   rw[hf,ai rfl] at hw;rw[hw,ai (by simp)];exact .inr rfl
  |false=>
   rw[hf,ag q8] at hw;have h0:(D.write (at'+i) (leaf number i (part s i))).2=0:=by rw[hw]
   rw[ag (by rw[h0];exact λhh=>hh rfl)];exact Hi pO Bp (s:=s) n (i+1) (D:=(D.write (at'+i) (leaf number i (part s i))).1) (by rw[th];omega) (by omega)
def Dp{n a t:Nat}{D:aX}{number:Int}{s:BA}(hlen:D.safe.length=n)(cQ:n<=4096)(pO:1<=number/\number<=1152921504606846976)(hl:a+gj s.size<=t)(ZV:t<=n):(eO D a t number s).2=0\/(eO D a t number s).2=8:=by
 have hcp:=rO s.size;have e:lay D (a:Nat) ((t:Nat):Int) number s=o5 (a:Nat) number s D 0 (gj s.size):=by
  unfold lay;rw[ag (by rw[hlen];omega),ag (by omega)]
 have hc:=Hi (at':=((a:Nat):Int)) (number:=number) (s:=s) pO (by omega) (gj s.size) 0 (D:=D) (by rw[hlen];omega) (by omega);unfold eO;rw[e];split
 ·exact hc
 ·unfold aX.sync;split
  ·exact .inr rfl
  ·exact .inl rfl
def G0{g:Nat}{X:BA}{m j:Int}{d:BA}(he:Ends g X)(hg:g<256)(h:lJ X.data.toList=some (m,j,d)):m<=g:=by
 obtain⟨hx,zW⟩:=BE h;obtain⟨_,⟨a,ha,h8⟩,_⟩:=he;rw[hx,yx] at h8;have e1:=oZ (n:=m) ⟨by have:=zW.1;omega,zW.2.1⟩;have e2:=oZ (n:=(a:Int)) ⟨by omega,by omega⟩;rw[h8,e2] at e1;omega
def Cu{D D':aX}{a toX q:Int}(hlen:D'.safe.length=D.safe.length)(hr:∀j:Int,a<=j->j<toX->(D'.read j).1=(D.read j).1):lK D' a toX q=lK D a toX q:=by
 cases h:lK D a toX q with
 |some y=>
  obtain⟨s,a2⟩:=y;have:=pN h;exact vc h hlen (λj h1 h2=>hr j h1 (by omega))
 |none=>
  cases h':lK D' a toX q with
  |none=>rfl
  |some y=>
   obtain⟨s,a2⟩:=y;have:=pN h';have:=vc h' hlen.symm (λj h1 h2=>(hr j h1 (by omega)).symm);rw[h] at this;cases this
structure JG(n:Nat)(D:aX)(J:PJ)(q0:Int)(ov:List (List UInt8))(g:Nat):Prop where
 ok:D.Ok
 IB:D.later=[]
 len:D.safe.length=n
 xJ:J.Ok D
 chain:jV D J.hi J.lo q0 ov J.at'
 seq:J.seq=q0+ov.length
 q0:0<=q0
 low:∀j:Int,J.lo<=j->j<J.hi->∀m d,lJ (D.read j).1.data.toList=some (m,0,d)->Ec d<=J.seq+1
 stop:lK D J.at' J.hi (J.seq+1)=none
 ends:∀j:Nat,j<n->Ends g (D.read (j:Int)).1
def JG.congr{n:Nat}{D D':aX}{J:PJ}{q0:Int}{ov:List (List UInt8)}{g:Nat}(h:JG n D J q0 ov g)(ix:D'.Ok)(zV:D'.later=[])(hlen:D'.safe.length=n)(hr:∀j:Int,0<=j->j<n->(D'.read j).1=(D.read j).1):JG n D' J q0 ov g:=by
 have hl:D'.safe.length=D.safe.length:=by rw[hlen,h.len]
 have j1:=h.xJ.lo;have j2:=h.xJ.Lr;have j3:=h.xJ.Rf;have j4:=h.xJ.hi;have j5:=h.len;refine⟨ix,zV,hlen,⟨j1,j2,j3,by rw[hl];exact j4,h.xJ.seq⟩,vr hl _ h.chain (λj a b=>hr j (by omega) (by omega)),h.seq,h.q0,λj a b m d hv=>?_,?_,λj hj=>?_⟩
 ·rw[hr j (by omega) (by omega)] at hv;exact h.low j a b m d hv
 ·rw[Cu hl (λj a b=>hr j (by omega) (by omega))];exact h.stop
 ·rw[hr j (by omega) (by omega)];exact h.ends j hj
def JG.opened{n:Nat}{D:aX}{J:PJ}{q0:Int}{ov:List (List UInt8)}{g:Nat}(h:JG n D J q0 ov g):kB D J.hi J.lo q0=(ov,J.at',J.seq):=by
 have:=h.stop;rw[h.seq] at this;rw[Fo ov h.chain this,h.seq]
def fly{n:Nat}{D:aX}{J:PJ}{q0:Int}{ov:List (List UInt8)}{g m:Nat}{s:BA}(h:JG n D J q0 ov g)(cQ:n<=4096)(hm:g<m)(LQ:m<256)(hr:room J s.size)(Ky:J.seq<1152921504606846976)(mask torn cut:Int):
 ((eO D J.at' J.hi m (bs (df (J.seq+1) s))).2=0\/(eO D J.at' J.hi m (bs (df (J.seq+1) s))).2=8)/\
 ((eO D J.at' J.hi m (bs (df (J.seq+1) s))).2=0->∀i:Nat,i<gj (12+s.size)->(((eO D J.at' J.hi m (bs (df (J.seq+1) s))).1.fI mask torn cut).read (J.at'+i)).1=leaf m i (part (bs (df (J.seq+1) s)) i))/\
 ((∀i:Nat,i<gj (12+s.size)->(((eO D J.at' J.hi m (bs (df (J.seq+1) s))).1.fI mask torn cut).read (J.at'+i)).1=leaf m i (part (bs (df (J.seq+1) s)) i))->
   JG n ((eO D J.at' J.hi m (bs (df (J.seq+1) s))).1.fI mask torn cut) (J.more s) q0 (ov++[s.data.toList]) m)/\
 ((¬∀i:Nat,i<gj (12+s.size)->(((eO D J.at' J.hi m (bs (df (J.seq+1) s))).1.fI mask torn cut).read (J.at'+i)).1=leaf m i (part (bs (df (J.seq+1) s)) i))->
   JG n ((eO D J.at' J.hi m (bs (df (J.seq+1) s))).1.fI mask torn cut) J q0 ov m):=by
 obtain⟨j1,j2,j3,j4,j5⟩:=h.xJ;obtain⟨r1,r2,r3⟩:=hr;rw[ao] at r3;have hlen:=h.len;have hcp:=rO (12+s.size);have A2:=sw (J.seq+1) s;obtain⟨a,ha⟩:=bm (show 0<=J.at' by omega);obtain⟨t,ht⟩:=bm (show 0<=J.hi by omega);have Yq:=Dp (n:=n) (a:=a) (t:=t) (number:=m) (s:=bs (df (J.seq+1) s)) hlen cQ (by omega) (by rw[A2];omega) (by omega);obtain⟨c1,c2,c3,c4⟩:=Kn (n:=n) (a:=a) (t:=t) (number:=m) (mask:=mask) (torn:=torn) (cut:=cut) (s:=bs (df (J.seq+1) s)) h.ok h.IB hlen cQ (by omega) (by rw[A2];omega) (by omega);have Yi:((eO D (a:Int) (t:Int) m (bs (df (J.seq+1) s))).1.fI mask torn cut).later=[]:=by rw[od]
 rw[A2] at c1 c2;rw[ha,ht];generalize (eO D (a:Int) (t:Int) m (bs (df (J.seq+1) s))).2=code at *;generalize (eO D (a:Int) (t:Int) m (bs (df (J.seq+1) s))).1.fI mask torn cut=D2 at *;have hcn:gj (12+s.size)<=4096:=by omega
 have zW:∀i:Nat,i<4096->fk m (i:Int) (part (bs (df (J.seq+1) s)) i):=λi hi=>⟨by omega,by omega,by omega,by omega,mX _ i⟩;have sec:∀j:Nat,j<n->Ends m (D2.read (j:Int)).1/\((D2.read (j:Int)).1=(D.read (j:Int)).1\/(∃i,i<gj (12+s.size)/\j=a+i/\((D2.read (j:Int)).1=leaf m i (part (bs (df (J.seq+1) s)) i)\/lJ (D2.read (j:Int)).1.data.toList=none))):=λj hj=>by
  rcases c1 j hj with hh|⟨i,h1,h2,h3⟩
  ·rw[hh];exact⟨(h.ends j hj).mono (by omega),.inl rfl⟩
  ·obtain⟨e1,e2⟩:=BO hm LQ (zW i (by omega)) (h.ends j hj) h3;refine⟨e1,?_⟩;rcases e2 with e2|e2|e2
   ·exact .inl e2
   ·exact .inr ⟨i,h1,h2,.inl e2⟩
   ·exact .inr ⟨i,h1,h2,.inr e2⟩
 have out:∀j:Int,0<=j->j<n->(j<a\/a+(gj (12+s.size):Int)<=j)->(D2.read j).1=(D.read j).1:=λj h1 h2 h3=>by
  obtain⟨k,rfl⟩:=bm h1;rcases c1 k (by omega) with hh|⟨i,h4,h5,_⟩
  ·exact hh
  ·omega
 have Wo:D2.safe.length=D.safe.length:=by rw[c4,hlen]
 have hpr:=u7 (seq:=J.seq+1) (s:=s) ⟨by omega,by omega⟩ (by omega);have ZL:∀j:Int,J.lo<=j->j<J.hi->∀x d,lJ (D2.read j).1.data.toList=some (x,0,d)->Ec d<=J.seq+1:=λj h1 h2 x d hv=>by
  obtain⟨k,rfl⟩:=bm (show 0<=j by omega);rcases(sec k (by omega)).2 with hh|⟨i,hi,_,hh|hh⟩
  ·rw[hh] at hv;exact h.low _ h1 h2 x d hv
  ·rw[hh,mY (zW i (by omega)),oK (zW i (by omega))] at hv;simp only[bE.injEq,Prod.mk.injEq] at hv;obtain⟨_,Yl,hd⟩:=hv;have:i=0:=by omega
   subst this;rw[<-hd,hpr.1];exact sH _
  ·rw[hh] at hv;cases hv
 have TJ:jV D2 J.hi J.lo q0 ov J.at':=vr Wo _ h.chain (λj h1 h2=>out j (by omega) (by omega) (by omega));have S6:∀j:Nat,j<n->Ends m (D2.read (j:Int)).1:=λj hj=>(sec j hj).1;refine⟨Yq,λh0 i hi=>?_,λhw=>?_,λhnw=>?_⟩
 ·have:=c2 h0 i hi;rw[show(a:Int)+(i:Int)=((a+i:Nat):Int) from by omega];exact this
 ·have ZW:=Ct (D:=D2) (a:=J.at') (toX:=J.hi) (n:=m) (q:=J.seq+1) (s:=s) (by omega) (by omega) (by omega) (by omega) (by omega) (by omega) (by omega) (by rw[ha];exact hw);refine⟨c3,Yi,c4,⟨j1,?_,?_,?_,?_⟩,?_,?_,h.q0,λj h1 h2 x d hv=>?_,?_,S6⟩
  ·show J.lo<=J.at'+_;omega
  ·show J.at'+_<=J.hi;omega
  ·show J.hi<=_;omega
  ·show 0<=J.seq+1/\J.seq+1<=_;omega
  ·show jV D2 J.hi J.lo q0 _ (J.at'+_);refine Fm ov TJ ?_;rw[<-h.seq];exact ZW
  ·show J.seq+1=_;rw[h.seq,au,bt,cH];omega
  ·show Ec d<=J.seq+1+1;have:=ZL j h1 h2 x d hv;omega
  ·show lK D2 (J.at'+(gj (12+s.size):Int)) J.hi (J.seq+1+1)=none;by_cases aae:J.hi<=J.at'+(gj (12+s.size):Int)
   ·exact BL aae
   ·refine BK (λx d hv=>?_);have:=ZL _ (by omega) (by omega) x d hv;omega
 ·refine⟨c3,Yi,c4,⟨j1,j2,j3,by omega,j5⟩,TJ,h.seq,h.q0,ZL,?_,S6⟩;cases hx:lK D2 J.at' J.hi (J.seq+1) with
  |none=>rfl
  |some y=>
   exfalso;obtain⟨s2,a2⟩:=y;obtain⟨i1,i2,i3,i4,i5,i6⟩:=pN hx;obtain⟨x,d,x1,x2,hv,Qi⟩:=Hc (by omega) hx;have S7:=rO (12+s2.length);have S4:∀i:Nat,i<4096->fk x (i:Int) (part (bs (df (J.seq+1) (bs s2))) i):=λi hi=>⟨x1,x2,by omega,by omega,mX _ i⟩;have Z2:=u7 (seq:=J.seq+1) (s:=bs s2) ⟨by omega,by omega⟩ (by rw[bY];omega);have rd:∀i:Nat,i<gj (12+s2.length)->lJ (D2.read ((a+i:Nat):Int)).1.data.toList=some (x,(i:Int),part (bs (df (J.seq+1) (bs s2))) i):=λi hi=>by
    have:=Qi i hi;rw[ha,show(a:Int)+(i:Int)=((a+i:Nat):Int) from by omega] at this;rw[this,mY (S4 i (by omega)),oK (S4 i (by omega))]
   rcases(sec a (by omega)).2 with hh|⟨i,hi,hai,hh|hh⟩
   ·
    have r0:=rd 0 S7;rw[dZ,hh] at r0;have hxg:=G0 (h.ends a (by omega)) (by omega) r0;have all:∀j:Int,J.at'<=j->j<a2->(D.read j).1=(D2.read j).1:=λj h1 h2=>by
     obtain⟨k,hk⟩:=bm (show 0<=j-a by omega);have hj:j=((a+k:Nat):Int):=by omega
     subst hj;rcases(sec (a+k) (by omega)).2 with e|⟨i,hi,hai,e|e⟩
     ·exact e.symm
     ·exfalso;have SY:i=k:=by omega
      subst SY;have r:=rd i (by omega);rw[e,mY (zW i (by omega)),oK (zW i (by omega))] at r;simp only[bE.injEq,Prod.mk.injEq] at r;have:=r.1;omega
     ·exfalso;have r:=rd k (by omega);rw[e] at r;cases r
    have:=vc hx Wo.symm all;rw[h.stop] at this;cases this
   ·
    have Yl:i=0:=by omega
    subst Yl;have r0:=rd 0 S7;rw[dZ,hh,mY (zW 0 (by omega)),oK (zW 0 (by omega))] at r0;simp only[bE.injEq,Prod.mk.injEq] at r0;obtain⟨hxm,_,hp0⟩:=r0;have se:s2.length=s.size:=by
     have e1:=hpr.2.2;have e2:=Z2.2.2;rw[hp0] at e1;rw[e1,bY] at e2;omega
    refine hnw λi hi=>?_;rw[show(a:Int)+(i:Int)=((a+i:Nat):Int) from by omega];have r:=rd i (by rw[se];exact hi);rcases(sec (a+i) (by omega)).2 with e|⟨i',uY,ahy,e|e⟩
    ·exfalso;rw[e] at r;have:=G0 (h.ends (a+i) (by omega)) (by omega) r;omega
    ·have:i'=i:=by omega
     subst this;exact e
    ·rw[e] at r;cases r
   ·have Yl:i=0:=by omega
    subst Yl;have r0:=rd 0 S7;rw[dZ,hh] at r0;cases r0
section
variable {W w:World} {L:LH}
end
def uo(D:aX)(mask torn cut:Int):(D.fI mask torn cut).safe.length=D.safe.length:=by rw[od];simp only[jf]
def JG.add{n:Nat}{D:aX}{J:PJ}{q0:Int}{ov:List (List UInt8)}{g m:Nat}{s:BA}(h:JG n D J q0 ov g)(Wc:J.dK=false)(cQ:n<=4096)(hm:g<m)(LQ:m<256)(hr:room J s.size)(Ky:J.seq<1152921504606846976):
 tK D J m s=B6 J s (eO D J.at' J.hi m (bs (df (J.seq+1) s)))/\(eO D J.at' J.hi m (bs (df (J.seq+1) s))).1.Ok/\
 ((eO D J.at' J.hi m (bs (df (J.seq+1) s))).2=0/\JG n (eO D J.at' J.hi m (bs (df (J.seq+1) s))).1 (J.more s) q0 (ov++[s.data.toList]) m\/(eO D J.at' J.hi m (bs (df (J.seq+1) s))).2=8):=by
 have hcn:gj (12+s.size)<=400:=by have:=hr.2.1;unfold gj;split<;>omega
 have ix:=Km (at':=J.at') (toX:=J.hi) (number:=m) (s:=bs (df (J.seq+1) s)) h.ok (by rw[h.IB,sw,cH];omega);refine⟨?_,ix,?_⟩
 ·unfold tK;rw[ag (by rw[Wc];exact q8),ag (by omega),ag (by rintro(hh|hh);exact hh hr;omega)]
 ·obtain⟨f1,f2,f3,f4⟩:=fly h cQ hm LQ hr Ky 0 (-1) 0;rcases f1 with f1|f1
  ·refine .inl ⟨f1,?_⟩;have hl:=On f1;have hj:=f3 (f2 f1);refine hj.congr ix hl ?_ (λj _ _=>?_)
   ·rw[<-uo _ 0 (-1) 0];exact hj.len
   ·rw[Aa hl]
  ·exact .inr f1
def aa2{n:Nat}(h:n<=4096){lo hi:Int}(h0:0<=lo)(h1:lo<hi)(h2:hi<=n)(q0:Int)(hq:0<=q0/\q0<=1152921504606846976):JG n (aX.new n) ⟨lo,hi,lo,q0,false⟩ q0 [] 0:=by
 have hc:=Fs h;refine⟨hc.ok,rfl,hc.len,⟨h0,sH _,by show lo<=hi;omega,by show hi<=_;rw[hc.len];exact h2,by show 0<=q0/\q0<=_;omega⟩,rfl,by show q0=q0+_;simp,hq.1,λj a b m d hv=>?_,?_,λj hj=>?_⟩
 ·dsimp only at a b;rw[Hd h (by omega) (by omega),yp] at hv;cases hv
 ·exact Ki (Hd h h0 (by show lo<(n:Int);omega))
 ·rw[AU h hj];exact Ff
section
variable {W w:World} {L:LH} {k:Nat}
end
section
variable {W w:World} {L:LH}
end
end Go.Sep
namespace Go.Sep
open Go.Den Go.RowKit
section
variable {H:Type} {enc:TypeId×Value->H} {P:Program} {w:World} {base:Nat} {spare:Nat->Bool} {held:Bool}
end
end Go.Sep
namespace Go.Sep
open Go.Den Go.RowKit Go.Prog Go.cD
def JG.mono{n:Nat}{D:aX}{J:PJ}{q0:Int}{ov:List (List UInt8)}{g g':Nat}(h:JG n D J q0 ov g)(hg:g<=g'):JG n D J q0 ov g':=
 ⟨h.ok,h.IB,h.len,h.xJ,h.chain,h.seq,h.q0,h.low,h.stop,λj hj=>(h.ends j hj).mono hg⟩
def JG.yA{n:Nat}{D:aX}{J:PJ}{q0:Int}{ov:List (List UInt8)}{g:Nat}(h:JG n D J q0 ov g)(hg:g<256):∃x:Nat,eV D n=x/\x<=g/\JG n D J q0 ov x:=by
 have h1:=xk D n;have h2:=yX (D:=D) hg n h.ends;obtain⟨x,hx⟩:=bm h1.1;refine⟨x,hx,by omega,⟨h.ok,h.IB,h.len,h.xJ,h.chain,h.seq,h.q0,h.low,h.stop,λj hj=>?_⟩⟩;obtain⟨e1,⟨a,ha,e2⟩,b,hb,e3⟩:=h.ends j hj;have hle:=Kf (D:=D) n j hj;have e4:BW (D.read (j:Int)).1=bs (le .i64 8 ((a:Nat):Int)):=kx (by rw[KP,e2];rfl);have e5:Br (D.read (j:Int)).1=bs (le .i64 8 ((b:Nat):Int)):=kx (by rw[JF e1,e3];rfl);rw[e4,e5,va (by omega),va (by omega)] at hle;exact⟨e1,⟨a,by omega,e2⟩,b,by omega,e3⟩
section
variable {W w:World} {L:LH}
end
section
variable {W w:World} {L:LH} {k:Nat}
end
def AT(a b:Option fS):Option fS:=
 match b with
 |none=>a
 |some hb=>match a with
  |none=>some hb
  |some ha=>if ha.bA<hb.bA then some hb else some ha
def tH(D:aX)(number:Int)(h:fS):aX×Int:=
 if nt h then(if(lay D (low h.bA) (low h.bA+1) number (bs (jS h))).2≠0 then lay D (low h.bA) (low h.bA+1) number (bs (jS h)) else(lay D (low h.bA) (low h.bA+1) number (bs (jS h))).1.sync) else(D,1)
section
variable {W w:World} {L:LH} {k d:Nat} {D:aX}
def QP{number:Int}{h:fS}{K:VK}(hs:St W w L)(hk:L[k]?=some (gJ d D))(ix:D.Ok)(hl:D.later.length+5000<1099511627776)
 (hK:∀w',St W w' (L.set k (gJ d (tH D number h).1))->K (.i (tH D number h).2) w'):um (ah d) number (bZ h) K w:=by
 unfold um;refine iS hs λr w hs=>?_;refine jQ (k:=0) (xs:=bZ h) hs rfl rfl (λj v hj=>by rw[aC];exact hj) ?_;refine Lj hs λw hs=>?_;simp only[nz,ae,af];unfold tH at hK;unfold Du;by_cases hg:nt h
 ·rw[ai hg] at hK⊢;dsimp only;refine uP (λhh=>aT rfl hh) (λ_=>?_);refine cT (k:=0) hs rfl rfl ?_;simp only[nz,ae,af];refine cT (k:=0) hs rfl rfl ?_;simp only[nz,ae,af];have KJ:=vJ h.bA;have ew:aa.wrap (db .i64 .and h.bA 1+1)=low h.bA+1:=by
   show aa.wrap (low h.bA+1)=_;rw[aW (by omega)]
  rw[ew];have e0:db .i64 .and h.bA 1=low h.bA:=rfl;rw[e0];have se:(bs (jS h)).size=32:=by rw[bY,qg]
  have MU:gj (bs (jS h)).size=1:=by rw[se];rfl
  have rq:(pt r (bZ h)::L)[k+1]?=some (gJ d D):=by rw[bO];exact hk
  refine FL (k:=k+1) hs rq ix (by omega) (by rw[se];decide) λw hs=>?_;rw[mV] at hs;simp only[nz,ae,af];have Qn:=(IA (at':=low h.bA) (toX:=low h.bA+1) (number:=number) (s:=bs (jS h)) ix (by rw[MU];omega)).1;refine uP (λkd=>?_) (λh0=>?_)
  ·rw[ai kd] at hK;exact hK w hs.drop
  ·rw[ag (λhh=>hh h0)] at hK;refine uW (k:=k+1) hs (by rw[bO];exact jM hk) Qn λw hs=>?_;rw[mV,jk] at hs;simp only[nz,ae,af];exact hK w hs.drop
 ·rw[ag hg] at hK⊢;dsimp only;refine uP (λ_=>?_) (λhh=>by simp at hh);refine hK w ?_;rw[nd hk];exact hs.drop
def Gs(o:Option fS):fS:=o.getD DJ
def zX(o:Option fS):qf o=.tuple ⟨[.agg ⟨bZ (Gs o)⟩,.b o.isSome]⟩:=by cases o<;>rfl
def LF{K:VK}(hs:St W w L)(hk:L[k]?=some (gJ d D))(ix:D.Ok)(hK:∀w',St W w' L->K (qf (AT (Af D 0) (Af D 1))) w'):rN (ah d) K w:=by
 unfold rN;refine iS hs λr1 w hs=>?_;refine O' (i:=0) (k:=k+1) hs (by rw[bO];exact hk) ix λw hs=>?_;rw[zX];simp only[nz,ae,af];simp only[xD];refine⟨rfl,?_⟩;simp only[nz,ae,af];refine iS hs λr2 w hs=>?_;refine⟨rfl,jK (k:=0) hs rfl (aJ rfl) (by simp[Value.oneCell',bZ]) λw hs=>?_⟩;rw[iC (by simp[bZ])] at hs;simp only[nz,ae,af] at hs;refine O' (i:=1) (k:=k+2) hs (by rw[bO,bO];exact hk) ix λw hs=>?_;rw[zX];simp only[nz,ae,af];simp only[xD];refine⟨rfl,?_⟩;simp only[nz,ae,af];refine iS hs λr3 w hs=>?_;refine⟨rfl,jK (k:=0) hs rfl (aJ rfl) (by simp[Value.oneCell',bZ]) λw hs=>?_⟩;rw[iC (by simp[bZ])] at hs;simp only[nz,ae,af] at hs;generalize Af D 0=a at *;generalize Af D 1=b at *;have tell:∀(i:Nat)(o:Option fS)(r:Nat)(f:Bool),(i=0/\r=r3/\Gs o=Gs b\/i=1/\r=r2/\Gs o=Gs a)->(f=o.isSome)->(∀w',St W w' L->K (qf o) w')->
                                                                                                       aI ⟨r,0,none⟩ 4 (λcs=>ch (cs.length=4) (jC ⟨r1,0,none⟩ cs (aI ⟨r1,0,none⟩ 4 λvR=>K (.tuple ⟨[.agg ⟨vR⟩,.b f]⟩)))) w:=λi o r f hi hf hK=>by
  have A1:(pt r3 (bZ (Gs b))::pt r2 (bZ (Gs a))::pt r1 [.i 0,.i 0,.i 0,.i 0]::L)[i]?=some (pt r (bZ (Gs o))):=by
   rcases hi with⟨rfl,rfl,h⟩|⟨rfl,rfl,h⟩<;>rw[h]<;>rfl
  refine jQ (xs:=bZ (Gs o)) hs A1 rfl (λj v hj=>by rw[aC];exact hj) ?_;refine⟨rfl,?_⟩;refine jK (k:=2) hs rfl (aJ rfl) (by simp[Value.oneCell',bZ]) λw hs=>?_;rw[iC (by simp[bZ])] at hs;simp only[nz,ae,af] at hs;refine jQ (k:=2) (xs:=bZ (Gs o)) hs rfl rfl (λj v hj=>by rw[aC];exact hj) ?_;have:=hK w hs.drop.drop.drop;rw[zX] at this;rw[hf];exact this
 cases b with
 |none=>
  exact tell 1 a r2 _ (.inr ⟨rfl,rfl,rfl⟩) rfl hK
 |some hb=>
  cases a with
  |none=>exact tell 0 (some hb) r3 true (.inl ⟨rfl,rfl,rfl⟩) rfl hK
  |some ha=>
   have e1:(some hb:Option fS).isSome=true:=rfl;have e2:(some ha:Option fS).isSome=true:=rfl;rw[e1,e2];simp only[nz,ae,af];refine cT (k:=0) hs rfl (v:=.i hb.bA) rfl ?_;simp only[nz,ae,af];refine cT (k:=1) hs rfl (v:=.i ha.bA) rfl ?_;simp only[nz,ae,af];unfold AT at hK;dsimp only at hK;refine fJ (λOL=>?_) (λhle=>?_)
   ·rw[ai OL] at hK;exact tell 0 (some hb) r3 true (.inl ⟨rfl,rfl,rfl⟩) rfl hK
   ·rw[ag hle] at hK;exact tell 1 (some ha) r2 true (.inr ⟨rfl,rfl,rfl⟩) rfl hK
end
end Go.Sep
namespace Go.Up
open Go.Sep Go.Den Go.RowKit Go.Prog Go.Md Go.cD
section
variable {W:World} {L R:LH} {K:VK} {X:WK} {d r n:Nat} {D:aX} {J:PJ} {f:aX->LH} {g:PJ->LH} {s:BA}
abbrev jP(d r:Nat)(J:PJ):HP:=Sep.pt r (rK d J)
def HR[i:Lc (gJ d) L D f](h:T W L (K (.i (D.safe.length:Int)))):T W L (fx (ah d) K):=λw hs=>by
 obtain⟨k,hk,e⟩:=i.at_;exact nu hs hk (h w hs)
def Zy{n:Int}(h:∀d,T W (gJ d (aX.new n)::L) (K (.p (ah d)))):T W L (te n K):=λw hs=>Uh hs λd w' h'=>h d w' h'
def adI[i:Lc (gJ d) L D f]{n:Int}(h:T W (f (D.tz n)) (K (.tuple ⟨[]⟩))):T W L (nW (ah d) n K):=λw hs=>by
 obtain⟨k,hk,e⟩:=i.at_;exact GB hs hk λw' h'=>h w' (by rw[e];exact h')
def adH(ny:12<=n)(cQ:n<=4096)(h:T W L (K (.tuple ⟨[.agg ⟨fp n⟩,.i 0]⟩))):T W L (tT n K):=λw hs=>Xr hs ny cQ λw' h'=>h w' h'
def Zg[i:Lc (gJ d) L D f]{which number:Int}(ix:D.Ok)(ny:12<=n)(cQ:n<=4096)(hl:D.later.length+5000<1099511627776)(hs:s.size<=reachBytes)
 (h:T W (f (put D n which number s).1) (K (.i (put D n which number s).2))):T W L (qt (fp n) (ah d) which number s K):=λw hw=>by
 obtain⟨k,hk,e⟩:=i.at_;exact Uf hw hk ix ny cQ hl hs λw' h'=>h w' (by rw[e];exact h')
def Zh[i:Lc (gJ d) L D f]{which number size:Int}(ix:D.Ok)(ny:12<=n)(cQ:n<=4096)(h:T W L (K (sL (get D n which number size)))):T W L (qu (fp n) (ah d) which number size K):=λw hw=>by
 obtain⟨k,hk,e⟩:=i.at_;exact Um hw hk ix ny cQ λw' h'=>h w' h'
def Ug[i:Lc (gJ d) L D f](ix:D.Ok)(h:T W L (K (qf (AT (Af D 0) (Af D 1))))):T W L (rN (ah d) K):=λw hw=>by
 obtain⟨k,hk,e⟩:=i.at_;exact LF hw hk ix λw' h'=>h w' h'
def aaI[i:Lc (gJ d) L D f]{number:Int}{hd:fS}(ix:D.Ok)(hl:D.later.length+5000<1099511627776)(h:T W (f (tH D number hd).1) (K (.i (tH D number hd).2))):T W L (um (ah d) number (bZ hd) K):=λw hw=>by
 obtain⟨k,hk,e⟩:=i.at_;exact QP hw hk ix hl λw' h'=>h w' (by rw[e];exact h')
def FM[i:Lc (gJ d) L D f](ix:D.Ok)(h:T W L (K (.i (eV D D.safe.length)))):T W L (nU (ah d) K):=λw hw=>by
 obtain⟨k,hk,e⟩:=i.at_;exact GA hw hk ix λw' h'=>h w' h'
def ZO[i:Lc (jP d r) L J g](h:T W L (K (.i J.seq))):T W L (lM (ah r) K):=λw hw=>by
 obtain⟨k,hk,e⟩:=i.at_;exact T7 hw hk (h w hw)
def QX[i:Lc (jP d r) L J g](h:T W (g {J with at':=J.lo}) (K (.tuple ⟨[]⟩))):T W L (jv (ah r) K):=λw hw=>by
 obtain⟨k,hk,e⟩:=i.at_;exact Ja hw hk λw' h'=>h w' (by rw[e];exact h')
def V8[i:Lc (jP d r) L J g]{m:Int}(hJ:J.Ok D)(ix:D.Ok)(h:T W L (K (.b (decide (room J m))))):T W L (ju (ah r) m K):=λw hw=>by
 obtain⟨k,hk,e⟩:=i.at_;exact EV hw hk hJ ix λw' h'=>h w' h'
def ZP{number:Int}(hJ:J.Ok D)(ix:D.Ok)(hl:D.later.length<1000000)(hs:s.size<=reachBytes)
 (h:T W (jP d r (tK D J number s).2.1::gJ d (tK D J number s).1::R) (K (.i (tK D J number s).2.2))):T W (jP d r J::gJ d D::R) (cj (ah r) number s K):=λw hw=>
 Qe (k:=0) (k2:=1) hw rfl rfl (by decide) hJ ix hl hs λw' h'=>h w' h'
def V9[i:Lc (gJ d) L D f]{lo hi q:Int}(ix:D.Ok)(hp:0<=lo/\lo<hi/\hi<=(D.safe.length:Int))(hq:0<=q/\q<=1152921504606846976)
 (h:∀r b c,(∃n:Nat,n<=4096/\(kB D hi lo q).1.length=n/\(kB D hi lo q).2.2=q+n/\lo<=(kB D hi lo q).2.1/\(kB D hi lo q).2.1<=hi)->T W (own b (kB D hi lo q).1.length c 1 ((kB D hi lo q).1.map Gh)::jP d r ⟨lo,hi,(kB D hi lo q).2.1,(kB D hi lo q).2.2,false⟩::L)
  (K (.tuple ⟨[.p (ah r),.l b (kB D hi lo q).1.length c,.i 0]⟩))):T W L (kD (ah d) lo hi q K):=λw hw=>by
 obtain⟨k,hk,e⟩:=i.at_;exact QY hw hk ix hp hq λr b c w' he h'=>h r b c he w' h'
end
end Go.Up
namespace Go.Sep
open Go.Den Go.RowKit Go.Prog Go.cD
def MJ{D:aX}{at' toX number:Int}{s:BA}(h:D.Ok)(hl:D.later.length+gj s.size<1099511627776):(eO D at' toX number s).1.later.length<=D.later.length+gj s.size:=by
 have hL:(lay D at' toX number s).1.later.length<=D.later.length+gj s.size:=by
  unfold lay;split
  ·exact Nat.le_add_right _ _
  ·split
   ·exact Nat.le_add_right _ _
   ·exact(AW _ 0 h hl).2.2
 unfold eO;split
 ·exact hL
 ·exact y9 Dk.JM.2 hL
section
variable {W w:World} {L:LH}
end
end Go.Sep
namespace Go.Up
open Go.Sep Go.Den Go.RowKit Go.Prog Go.Md Go.cD
structure VS where
 D:aX
 J:PJ
 bA:Int
 dK:Bool
def vC(d n pb pj:Nat)(bA:Int)(dK:Bool):LV:=[.p (ah d)]++(fp n++[.p (ah pb),.p (ah pj),.i bA,.b dK])
instance{h:fS}:Ln (bZ h) 4:=⟨rfl⟩
instance{n:Nat}:Ln (fp n) 5:=⟨rfl⟩
instance{h:fS}:Gt (bZ h) 0 (.i h.bA):=⟨rfl⟩
instance{h:fS}:Gt (bZ h) 1 (.i h.number):=⟨rfl⟩
instance{h:fS}:Gt (bZ h) 2 (.i h.size):=⟨rfl⟩
instance{h:fS}:Gt (bZ h) 3 (.i h.seq):=⟨rfl⟩
instance{n:Nat}:Gt (fp n) 3 (.i (2+2* dv n:Nat)):=⟨rfl⟩
instance{n:Nat}:Gt (fp n) 4 (.i n):=⟨rfl⟩
instance{d n pb pj:Nat}{bA:Int}{dK:Bool}:Gt (vC d n pb pj bA dK) 0 (.p (ah d)):=⟨rfl⟩
instance{d n pb pj:Nat}{bA:Int}{dK:Bool}:Gt (vC d n pb pj bA dK) 6 (.p (ah pb)):=⟨rfl⟩
instance{d n pb pj:Nat}{bA:Int}{dK:Bool}:Gt (vC d n pb pj bA dK) 7 (.p (ah pj)):=⟨rfl⟩
instance{d n pb pj:Nat}{bA:Int}{dK:Bool}:Gt (vC d n pb pj bA dK) 8 (.i bA):=⟨rfl⟩
instance{d n pb pj:Nat}{bA:Int}{dK:Bool}:Gt (vC d n pb pj bA dK) 9 (.b dK):=⟨rfl⟩
instance{d n pb pj:Nat}{bA:Int}{dK:Bool}:Sub (vC d n pb pj bA dK) 1 5 (fp n):=⟨rfl,λj v h=>by
 show([_]++(fp n++_))[1+j]?=some v
 rw[iz (by simp),dB (by have:=(aw.1 h).1;simpa using this)]
 simpa using h⟩
instance{d n pb pj:Nat}{bA t2:Int}{dK:Bool}:Wr (vC d n pb pj bA dK) 8 [.i t2] (vC d n pb pj t2 dK):=⟨rfl,by show 9<=10;decide,λv h=>by simp at h;subst h;rfl⟩
instance{d n pb pj:Nat}{bA:Int}{dK s2:Bool}:Wr (vC d n pb pj bA dK) 9 [.b s2] (vC d n pb pj bA s2):=⟨rfl,by show 10<=10;decide,λv h=>by simp at h;subst h;rfl⟩
abbrev VL(v d n pb pj:Nat)(m:aA)(S:VS)(R:LH):LH:=Sep.pt v (vC d n pb pj S.bA S.dK)::cO pb (bo m,[])::jP d pj S.J::gJ d S.D::R
def fO(n:Nat)(m:aA)(S:VS):VS×Int:=
 if S.dK=true then(S,9)
 else if ¬gj (cI (bo m)).length<=dv n then(S,3)
 else if(put S.D n (S.bA+1) (eV S.D S.D.safe.length+1) (bs (cI (bo m)))).2≠0 then(⟨(put S.D n (S.bA+1) (eV S.D S.D.safe.length+1) (bs (cI (bo m)))).1,S.J,S.bA,true⟩,(put S.D n (S.bA+1) (eV S.D S.D.safe.length+1) (bs (cI (bo m)))).2)
 else if(tH (put S.D n (S.bA+1) (eV S.D S.D.safe.length+1) (bs (cI (bo m)))).1 (eV S.D S.D.safe.length+2) ⟨S.bA+1,eV S.D S.D.safe.length+1,((cI (bo m)).length:Int),S.J.seq⟩).2≠0 then
  (⟨(tH (put S.D n (S.bA+1) (eV S.D S.D.safe.length+1) (bs (cI (bo m)))).1 (eV S.D S.D.safe.length+2) ⟨S.bA+1,eV S.D S.D.safe.length+1,((cI (bo m)).length:Int),S.J.seq⟩).1,S.J,S.bA,true⟩,(tH (put S.D n (S.bA+1) (eV S.D S.D.safe.length+1) (bs (cI (bo m)))).1 (eV S.D S.D.safe.length+2) ⟨S.bA+1,eV S.D S.D.safe.length+1,((cI (bo m)).length:Int),S.J.seq⟩).2)
 else(⟨(tH (put S.D n (S.bA+1) (eV S.D S.D.safe.length+1) (bs (cI (bo m)))).1 (eV S.D S.D.safe.length+2) ⟨S.bA+1,eV S.D S.D.safe.length+1,((cI (bo m)).length:Int),S.J.seq⟩).1,{S.J with at':=S.J.lo},S.bA+1,S.dK⟩,0)
section
variable {W:World} {L R:LH} {K:VK} {X:WK} {v d n pb pj:Nat} {m:aA} {S:VS}
def aa3{k:Nat}(hk:k<1099511627776000)(h:T W L (K (.b (decide (gj k<=dv n))))):T W L (pL (fp n) k K):=λw hs=>QZ hs hk λw' h'=>h w' h'
def zO{D:aX}{which number:Int}{s:BA}:put D n which number s=eO D (eS n which) ((eS n which+dv n:Nat):Int) number s:=rfl
def Pg{e:Int}{J2:PJ}{D2:aX}(ht:0<=S.bA/\S.bA<1152921504606846976)
 (h1:e≠0->T W (Sep.pt v (vC d n pb pj S.bA true)::cO pb (bo m,[])::jP d pj J2::gJ d D2::R) (K (.i e)))
 (h0:e=0->T W (Sep.pt v (vC d n pb pj (S.bA+1) S.dK)::cO pb (bo m,[])::jP d pj {J2 with at':=J2.lo}::gJ d D2::R) (K (.i 0))):
 T W (Sep.pt v (vC d n pb pj S.bA S.dK)::cO pb (bo m,[])::jP d pj J2::gJ d D2::R) (ij.j1 K (ah v) e):=by
 unfold ij.j1;apply dh<;>intro g1
 ·have g1:e≠0:=by simpa using g1
  apply ws;exact h1 g1
 ·have g1:e=0:=by simpa using g1
  have e5:aa.wrap (S.bA+1)=S.bA+1:=aW (by omega);apply ws;rw[e5];refine QX (d:=d) (r:=pj) ?_;apply ws;exact h0 g1
def T9(ix:S.D.Ok)(zV:S.D.later.length<1000000)(ny:12<=n)(cQ:n<=4096)(ht:0<=S.bA/\S.bA<1152921504606846976)
 (h:T W (VL v d n pb pj m (fO n m S).1 R) (K (.i (fO n m S).2))):T W (VL v d n pb pj m S R) (ij (ah v) K):=by
 unfold ij;refine qm (p:=pb) (b:=bo m) (hs:=[]) λhg=>?_;have X':=wM hg;have ou:=hg.ou;have many:=hg.many;apply ws;unfold fO at h;cases CA:S.dK with
 |true=>
  rw[ai CA] at h;rw[kG];exact h
 |false=>
  rw[ag (by rw[CA];decide)] at h;rw[dY]
  repeat' first|apply ws|apply wb|refine GP (p:=pb) ?_
  rw[bY];refine aa3 (by omega) (u0 ?_);by_cases hf:gj (cI (bo m)).length<=dv n
  ·rw[ag (λhh=>hh hf)] at h;rw[av hf,Bool.not_true,dY];obtain⟨LY,KL⟩:=xk S.D S.D.safe.length;have e1:aa.wrap (eV S.D S.D.safe.length+1)=eV S.D S.D.safe.length+1:=aW (by omega);have e2:aa.wrap (eV S.D S.D.safe.length+1+1)=eV S.D S.D.safe.length+2:=by rw[aW (by omega)];omega
   have e3:aa.wrap (S.bA+1)=S.bA+1:=aW (by omega)
   repeat' first|apply ws|apply wb|refine FM (d:=d) ix ?_
   rw[e1,e2,e3];have gX:(bs (cI (bo m))).size<=reachBytes:=by rw[bY,X'];unfold reachBytes;omega
   refine Zg ix ny cQ (by omega) gX ?_;have ab2:(put S.D n (S.bA+1) (eV S.D S.D.safe.length+1) (bs (cI (bo m)))).1.Ok:=by
    rw[zO];exact Km ix (by rw[bY];unfold dv at hf;omega)
   have aci:(put S.D n (S.bA+1) (eV S.D S.D.safe.length+1) (bs (cI (bo m)))).1.later.length<1010000:=by
    rw[zO];have:=MJ (D:=S.D) (at':=(eS n (S.bA+1):Nat)) (toX:=((eS n (S.bA+1)+dv n:Nat):Int)) (number:=eV S.D S.D.safe.length+1) (s:=bs (cI (bo m))) ix (by rw[bY];unfold dv at hf;omega);rw[bY] at this;unfold dv at hf;omega
   generalize put S.D n (S.bA+1) (eV S.D S.D.safe.length+1) (bs (cI (bo m)))=P1 at h ab2 aci⊢;generalize eV S.D S.D.safe.length=G at h⊢;apply ws;apply dh<;>intro g1
   ·have g1:P1.2=0:=by simpa using g1
    rw[ag (by omega)] at h
    repeat' first|apply ws|apply wb|refine ZO (d:=d) (r:=pj) ?_
    rw[e3];show T W _ (um (ah d) (G+2) (bZ (⟨S.bA+1,G+1,((cI (bo m)).length:Int),S.J.seq⟩:fS)) _);refine aaI ab2 (by omega) ?_;generalize tH P1.1 (G+2) (⟨S.bA+1,G+1,((cI (bo m)).length:Int),S.J.seq⟩:fS)=P2 at h⊢;apply ws;refine Pg (S:=S) ht (λhe=>?_) (λhe=>?_)
    ·rw[ai he] at h;exact h
    ·rw[ag (by omega)] at h;exact h
   ·have g1:P1.2≠0:=by simpa using g1
    rw[ai g1] at h;refine Pg (S:=S) ht (λhe=>?_) (λhe=>aT he g1);exact h
  ·rw[ai hf] at h;rw[aq hf,NI,kG];exact h
end
def oy(S:VS)(s:BA):VS×Int:=
 (⟨(tK S.D S.J (eV S.D S.D.safe.length+1) s).1,(tK S.D S.J (eV S.D S.D.safe.length+1) s).2.1,S.bA,S.dK||(tK S.D S.J (eV S.D S.D.safe.length+1) s).2.2==8⟩,(tK S.D S.J (eV S.D S.D.safe.length+1) s).2.2)
def iJ(n:Nat)(m:aA)(S:VS)(s:BA):VS×Int:=
 if room S.J s.size then oy S s else if(fO n m S).2≠0 then fO n m S else oy (fO n m S).1 s
def zi(n:Nat)(m:aA)(S:VS)(q:jF):VS×aA×Int×List Int:=
 if kz q=false then(S,m,1,[])
 else if S.dK=true then(S,m,9,[])
 else if(iJ n m S (bs (dI q))).2≠0 then((iJ n m S (bs (dI q))).1,m,(iJ n m S (bs (dI q))).2,[])
 else((iJ n m S (bs (dI q))).1,(bD m q).2.2,(bD m q).1,(bD m q).2.1)
structure LB(S:VS):Prop where
 ok:S.D.Ok
 ou:S.D.later.length<1000000
 xJ:S.J.Ok S.D
 bA:0<=S.bA/\S.bA<1152921504606846976
section
variable {W:World} {L R:LH} {K:VK} {X:WK} {v d n pb pj:Nat} {m:aA} {S:VS} {s:BA} {q:jF} {sl:vx}
def T.eng{A B C D E F G:HP}(h:T W (B::C::A::D::E::R) X):T W (A::B::C::D::E::F::G::R) X:=
 T.perm (L:=B::C::A::D::E::F::G::R) (T.sub h (by exact qv)) (bu (l₁:=[A]) (l₂:=[B,C])|>.append_right _)
def Us(hS:LB S)(hs:s.size<=reachBytes)(h:T W (VL v d n pb pj m (oy S s).1 R) (K (.i (oy S s).2))):T W (VL v d n pb pj m S R) (jh.j1 K (ah v) s):=by
 unfold jh.j1;obtain⟨LY,KL⟩:=xk S.D S.D.safe.length;have e1:aa.wrap (eV S.D S.D.safe.length+1)=eV S.D S.D.safe.length+1:=aW (by omega)
 repeat' first|apply ws|apply wb|refine FM (d:=d) hS.ok ?_
 rw[e1];refine T.perm (L:=jP d pj S.J::gJ d S.D::Sep.pt v (vC d n pb pj S.bA S.dK)::cO pb (bo m,[])::R) ?_ (bu (l₁:=[_,_]) (l₂:=[_,_])|>.append_right R);refine ZP hS.xJ hS.ok hS.ou hs ?_;unfold oy at h;generalize tK S.D S.J (eV S.D S.D.safe.length+1) s=A at h⊢;refine T.perm (L:=Sep.pt v (vC d n pb pj S.bA S.dK)::cO pb (bo m,[])::jP d pj A.2.1::gJ d A.1::R) ?_ (bu (l₁:=[_,_]) (l₂:=[_,_])|>.append_right R);cases CA:S.dK with
 |true=>
  rw[CA,Bool.true_or] at h;apply ws;exact h
 |false=>
  rw[CA,Bool.false_or] at h;apply ws;exact h
def adG(hS:LB S)(hS2:LB (fO n m S).1)(ny:12<=n)(cQ:n<=4096)(hs:s.size<=100000)(h:T W (VL v d n pb pj m (iJ n m S s).1 R) (K (.i (iJ n m S s).2))):T W (VL v d n pb pj m S R) (jh (ah v) s K):=by
 have hsr:s.size<=reachBytes:=by unfold reachBytes;omega
 unfold jh;apply ws;refine V8 (d:=d) (r:=pj) (D:=S.D) hS.xJ hS.ok ?_;unfold iJ at h;by_cases hr:room S.J s.size
 ·rw[ai hr] at h;rw[av hr];apply ws;exact Us hS hsr h
 ·rw[ag hr] at h;rw[aq hr];apply ws;refine T9 hS.ok hS.ou ny cQ hS.bA ?_;apply ws;apply dh<;>intro g1
  ·have g1:(fO n m S).2≠0:=by simpa using g1
   rw[ai g1] at h;exact h
  ·have g1:(fO n m S).2=0:=by simpa using g1
   rw[ag (by omega)] at h;exact Us hS2 hsr h
def JV(hw:kz q=true)(he:fY q=true):(dI q).length<=2000:=by
 have Wl:q.op=1\/q.op=2\/q.op=3:=aQ he;have hf:=m8 hw;unfold dI;rw[au,aO];split
 ·rw[au,aO,dU oq];omega
 ·split
  ·rw[au,aO,dU pg];omega
  ·split
   ·rw[aO];omega
   ·omega
def YY(G:qF W)(hg:Md.bN m)(hS:LB S)(hS2:LB (fO n m S).1)(ny:12<=n)(cQ:n<=4096)(hq:pC W R q sl)(hA:∀a∈q.aB,wD a)(hT:∀t∈q.cm,yJ t)(CB:q.aB.length<1000000)(cf:q.cm.length<1000000)(he:fY q=true)
 (h:∀rb rc,Md.bN (zi n m S q).2.1->T W (own rb (zi n m S q).2.2.2.length rc 1 ((zi n m S q).2.2.2.flatMap I1)::VL v d n pb pj (zi n m S q).2.1 (zi n m S q).1 R) (K (.agg ⟨rD (zi n m S q).2.2.1 rb (zi n m S q).2.2.2.length rc none 0 0 none 0 0⟩))):
 T W (VL v d n pb pj m S R) (mr (ah v) (gB q sl) K):=by
 unfold mr
 repeat' first|apply ws;intros|apply wb|refine B2 ?_
 rw[he];apply ws;refine Rp (R:=R) hq CB cf (λhw=>?_) (λhw=>?_)
 ·apply ws;unfold zi at h;rw[ag (by rw[hw];decide)] at h;refine gL (by decide) ?_;apply ws;cases CA:S.dK with
  |true=>
   rw[ai CA] at h;apply ws;refine gZ (e:=1) ?_;refine T.sub (h none 0 hg) ?_
   repeat (first|exact ba.refl _|apply ba.cons_cons|apply ba.cons)
  |false=>
   rw[ag (by rw[CA];decide)] at h;rw[dY];have hrl:=JV hw he;have UQ:q.op=2->∀t∈q.cm,TOk t:=λho t ht=>⟨hT t ht,by
    have hf:=m8 hw
    have:∀a∈q.cm,j0 a:=by rcases hf with h|h|h|h|h<;>first|exact h.2.2|omega
    exact this t ht⟩
   refine T.perm (L:=VL v d n pb pj m S (_::_::R)) ?_ (bu (l₁:=[_,_]) (l₂:=[_,_,_,_])|>.append_right R);refine adG hS hS2 ny cQ (by rw[bY];omega) ?_;generalize iJ n m S (bs (dI q))=A at h⊢;apply ws;apply dh<;>intro g1
   ·have g1:A.2≠0:=by simpa using g1
    rw[ai g1] at h;apply ws;refine gZ (e:=1) ?_;refine T.sub (h none 0 hg) ?_
    repeat (first|exact ba.refl _|apply ba.cons_cons|apply ba.cons)
   ·have g1:A.2=0:=by simpa using g1
    rw[ag (by omega)] at h;apply ws;refine T.Mo ?_;refine K3 G hg ⟨hq.aB.mono,hq.cm.mono,hq.ids.mono,hq.ca,hq.ct,hq.ci⟩ (λ_=>hA) UQ λrb rc KL=>?_;apply ws;have fin:=h rb rc KL;exact T.eng fin
 ·apply ws;unfold zi at h;rw[ai hw] at h;refine mR (by decide) ?_;apply ws;refine gZ (e:=1) ?_;refine T.sub (h none 0 hg) ?_
  repeat (first|exact ba.refl _|apply ba.cons_cons|apply ba.cons)
end
section
variable {W:World} {L R:LH} {K:VK} {X:WK} {v d n pb pj:Nat} {m:aA} {S:VS} {s:BA} {q:jF} {sl:vx}
def T.ask{O1 O2 B V J D F G:HP}(h:T W (O1::O2::V::B::J::D::R) X):T W (O1::O2::B::V::J::D::F::G::R) X:=
 T.perm (L:=O1::O2::V::B::J::D::F::G::R) (T.sub h (by exact qv)) (bU.append_left [O1,O2] (bU.swap _ _ _))
def T.in2{F G V B J D:HP}(h:T W (B::V::J::D::F::G::R) X):T W (F::G::V::B::J::D::R) X:=
 T.perm h ((bu (l₁:=[F,G]) (l₂:=[V,B,J,D])|>.append_right R).trans (bU.swap _ _ _))
def Y0(hq:pC W R q sl)(he:fY q=false)
 (h:∀ab ac tb tc,T W (own ab (ask m q).2.1.length ac 14 ((ask m q).2.1.flatMap aK)::own tb (ask m q).2.2.length tc 16 ((ask m q).2.2.flatMap aL)::VL v d n pb pj m S R) (K (.agg ⟨rD (ask m q).1 none 0 0 ab (ask m q).2.1.length ac tb (ask m q).2.2.length tc⟩))):
 T W (VL v d n pb pj m S R) (mr (ah v) (gB q sl) K):=by
 unfold mr
 repeat' first|apply ws;intros|apply wb|refine B2 ?_
 rw[he];apply ws;refine T.in2 ?_;refine adE ⟨hq.aB.mono,hq.cm.mono,hq.ids.mono,hq.ca,hq.ct,hq.ci⟩ λab ac tb tc=>?_;apply ws;exact T.ask (h ab ac tb tc)
def UY(h:T W (VL v d n pb pj m S R) (K (.b S.dK))):T W (VL v d n pb pj m S R) (pW (ah v) K):=by
 unfold pW;apply ws;exact h
def Rx(h:∀p,T W (cO p (bo m,[])::VL v d n pb pj m S R) (K (.p (ah p)))):T W (VL v d n pb pj m S R) (px (ah v) K):=by
 refine qm (p:=pb) (b:=bo m) (hs:=[]) λhg=>?_;unfold px
 repeat' first|apply ws|apply wb|refine GP (p:=pb) ?_
 refine JO hg λp=>?_;apply ws;exact h p
end
def nZ:aA:=⟨[],[],0,0⟩
def E7:fk (bo nZ):=⟨List.nodup_nil,List.nodup_nil,(by show 0<=32;decide),(by show 0<=96;decide),λa h=>(by cases h),λa h=>(by cases h),List.Pairwise.nil,λa h=>(by cases h),(by show(0:Int)<=0/\(0:Int)<=1099511627776;decide),rfl⟩
def pP:Md.bN nZ:=⟨λa h=>(by cases h),List.nodup_nil,(by show 0<=32;decide),List.nodup_nil,λa h=>(by cases h),λa h=>(by cases h),(by show 0<=96;decide),λa h=>(by cases h),λa h=>(by cases h),λa h=>(by cases h)⟩
def zt(h:fS):∀v∈bZ h,v.oneCell'=true:=λv hv=>by simp[bZ] at hv;rcases hv with rfl|rfl|rfl|rfl<;>rfl
instance{x1 x2 x3 x4:Value}{h:fS}:Wr [x1,x2,x3,x4] 0 (bZ h) (bZ h):=⟨rfl,aG _,zt h⟩
instance{h:fS}:Sub (bZ h) 0 4 (bZ h):=⟨rfl,λj v h=>by rw[aC];exact h⟩
def Gl(n:Nat):∀v∈fp n,v.oneCell'=true:=λv hv=>by simp[fp] at hv;rcases hv with rfl|rfl|rfl|rfl|rfl<;>rfl
instance{x1 x2 x3 x4 x5:Value}{n:Nat}:Wr [x1,x2,x3,x4,x5] 0 (fp n) (fp n):=⟨rfl,aG _,Gl n⟩
instance{n:Nat}:Sub (fp n) 0 5 (fp n):=⟨rfl,λj v h=>by rw[aC];exact h⟩
def aa4(D:aX)(n:Nat)(hd:fS)(mb:aA):Prop:=
 (AT (Af D 0) (Af D 1)=none/\hd=DJ/\mb=nZ)\/(AT (Af D 0) (Af D 1)=some hd/\get D n hd.bA hd.number hd.size=some (cI (bo mb)))
section
variable {W:World} {L R:LH} {K:VK} {X:WK} {v d n pb pj:Nat} {D:aX} {f:aX->LH} {mb:aA} {hd:fS}
def Xg(h:∀p,T W (cO p (bo nZ,[])::L) (K (.p (ah p)))):T W L (uu K):=by
 refine TP λp la lk ti tn=>?_;intro w7 hw7;have h2:=hw7.push (A:=vO []) trivial;refine DC (p:=p) (la:=la) (lk:=lk) (ti:=ti) (tn:=tn) (vs:=[]) (bx:=[]) (c:=fF (bo nZ)) (hs:=[]) (R:=L) trivial (λw hw=>h p w (St.and_intro E7 hw)) w7 ?_;exact h2.perm (bu (l₁:=[vO []]) (l₂:=[_,_,_,_,_])|>.append_right L)
def U0[i:Lc (gJ d) L D f](ix:D.Ok)(ny:12<=n)(cQ:n<=4096)(hb:aa4 D n hd mb)(hg:fk (bo mb))(h:∀pb,T W (cO pb (bo mb,[])::L) (K (.tuple ⟨[.p (ah pb),.agg ⟨bZ hd⟩,.i 0]⟩))):
 T W L (wJ (ah d) (fp n) K):=by
 unfold wJ;apply ws;intros;refine Ug ix ?_;rcases hb with⟨h1,rfl,rfl⟩|⟨h1,h2⟩
 ·rw[h1];unfold qf;apply ws;intros;refine Xg λp=>?_;apply ws;refine RI (n:=4) (xs:=bZ DJ) ?_;apply ws;refine T.sub (h p) ?_;exact qv
 ·rw[h1];unfold qf;apply ws;intros;refine Zh ix ny cQ ?_;rw[h2];unfold sL;apply ws;refine JO hg λp=>?_;apply ws;refine T.sub (h p) ?_;exact qv
end
structure FJ(q:jF):Prop where
 yB:kz q=true
 writes:fY q=true
 aB:∀a∈q.aB,wD a
 cm:∀t∈q.cm,yJ t
def ze(m:aA)(qs:List jF):aA:=qs.foldl (λm q=>(bD m q).2.2) m
def GZ(m:aA)(qs:List jF)(q:jF):ze m (qs++[q])=(bD (ze m qs) q).2.2:=by unfold ze;rw[List.foldl_append];rfl
def Gw{m0:aA}:∀(k:Nat)(m:aA),Cs m0.clock m.ax=k->Md.bN m->Xu m0 m->Md.bN {m0 with ax:=m0.ax.map (Fc m0.clock)}:=by
 intro k
 induction k using Nat.strongRecOn with
 |_ k ih=>
  intro m hk hg hx;by_cases hn:∀x∈(bo m).ax,¬kY (bo m).clock x
  ·have:=Hb (qh m) hx hn;rw[<-this];exact hg
  ·have:∃x,x∈(bo m).ax/\kY (bo m).clock x:=by
    by_cases he:∃x,x∈(bo m).ax/\kY (bo m).clock x
    ·exact he
    ·exact aT (λx hx ho=>he ⟨x,hx,ho⟩) hn
   obtain⟨x,hxm,ho⟩:=this;obtain⟨-,-,m',ft,Wu,ZT,Al⟩:=Ha (qh m) hg hx hxm ho;exact ih _ (by omega) m' rfl Wu ZT
def Ch{m:aA}(hg:Md.bN m)(now:Int):Md.bN (m.time now):=by
 rw[HZ];exact Gw _ (uB m now) rfl (CT hg now) (Xu.refl _)
def Lg{q:jF}:(∀a∈(canon q).aB,a∈q.aB)/\(∀t∈(canon q).cm,t∈q.cm)/\(canon q).aB.length<=q.aB.length/\(canon q).cm.length<=q.cm.length:=by
 unfold canon;split
 ·exact⟨λa h=>h,λt h=>(by cases h),aG _,aE _⟩
 ·split
  ·exact⟨λa h=>(by cases h),λt h=>h,aE _,aG _⟩
  ·exact⟨λa h=>(by cases h),λt h=>(by cases h),aE _,aE _⟩
def vM{m:aA}(hg:Md.bN m)(q:jF):Md.bN (bD m q).2.2:=by
 unfold bD;split
 ·exact hg
 ·split
  ·exact(JR hg _ _).2.2
  ·split
   ·exact(N1 hg _ _).2.2
   ·exact Ch hg _
section
variable {W:World} {L R:LH} {K:VK} {X:WK} {v d n pb pj:Nat} {D:aX} {f:aX->LH} {mb:aA} {hd:fS} {qs:List jF}
def pC.two{Y A:HP}{q:jF}{s:vx}(hq:∀L',pC W (A::L') q s):pC W (Y::A::L) q s:=⟨(hq L).aB.mono,(hq L).cm.mono,(hq L).ids.mono,(hq L).ca,(hq L).ct,(hq L).ci⟩
def T.abF{V O J H B P Dk:HP}(h:T W (B::V::J::Dk::O::R) X):T W (V::O::J::H::B::P::Dk::R) X:=
 T.perm (L:=B::V::J::Dk::O::H::P::R) (T.sub h (by exact qv)) (by
  have e1:([V,O,J,H,B,P,Dk]:LH).Perm (B::[V,O,J,H,P,Dk]):=iy (l₁:=[V,O,J,H]) (l₂:=[P,Dk])
  have e2:([O,J,H,P,Dk]:LH).Perm (J::[O,H,P,Dk]):=iy (l₁:=[O]) (l₂:=[H,P,Dk])
  have e3:([O,H,P,Dk]:LH).Perm (Dk::[O,H,P]):=iy (l₁:=[O,H,P]) (l₂:=[])
  exact(e1.trans (bU.cons _ (bU.cons _ (e2.trans (bU.cons _ e3))))).append_right R)
def UZ(G:qF W)(ix:D.Ok)(ny:12<=n)(cQ:n<=4096)(hlen:D.safe.length=n)(hb:aa4 D n hd mb)(hg:fk (bo mb))(rr:Md.bN mb)(Gq:0<=hd.seq/\hd.seq<=1152921504606846976)
 (C4:(kB D n (2+2* dv n:Nat) hd.seq).1=qs.map dI)(hqs:∀q∈qs,FJ q)
 (h:∀v pb pj,Md.bN (ze mb qs)->T W (VL v d n pb pj (ze mb qs) ⟨D,⟨(2+2* dv n:Nat),n,(kB D n (2+2* dv n:Nat) hd.seq).2.1,(kB D n (2+2* dv n:Nat) hd.seq).2.2,false⟩,hd.bA,false⟩ R) (K (.tuple ⟨[.p (ah v),.i 0]⟩))):
 T W (gJ d D::R) (mu (ah d) K):=by
 unfold mu;have SS:2+2* dv n<n:=by unfold dv;omega
 repeat' first|apply ws|apply wb|refine HR (d:=d) ?_
 rw[hlen];refine adH ny cQ ?_;apply ws;intros;refine gL (by decide) ?_;apply ws;refine U0 (mb:=mb) (hd:=hd) ix ny cQ hb hg λpb=>?_;apply ws;intros;refine gL (by decide) ?_;apply ws;refine V9 (D:=D) ix (by rw[hlen];omega) Gq λpj bb c hex=>?_;apply ws;refine gL (by decide) ?_;apply ws;intros;rename_i v;rw[C4];refine T.abF ?_;rw[bP];have hql:qs.length<=4096:=by obtain⟨n',h1,h2,-⟩:=hex;rw[C4,bP] at h2;omega
 intro w X9;refine⟨λvv w=>∃i:Nat,i<=qs.length/\vv=[.p none,.i 0,.p (ah pb),.p (some (ad v 0)),.l bb qs.length c,.i (qs.length:Int),.i (i:Int)]/\Md.bN (ze mb (qs.take i))/\
  St W w (cO pb (bo (ze mb (qs.take i)),[])::Sep.pt v (vC d n pb pj hd.bA false)::jP d pj ⟨(2+2* dv n:Nat),n,(kB D n (2+2* dv n:Nat) hd.seq).2.1,(kB D n (2+2* dv n:Nat) hd.seq).2.2,false⟩::gJ d D::own bb qs.length c 1 ((qs.map dI).map Gh)::R),
  λvs _=>match vs with|[_,_,_,_,_,_,.int _ k]=>qs.length-k.toNat|_=>0,⟨0,aE _,rfl,rr,X9⟩,?_⟩
 rintro p4 n9 p5 a1 qI oW re X4 VU w2 ⟨i,hi,e,hgi,gX⟩;cases e
 refine T.at ?_ gX;have e5:=nL i;apply fV<;>intro g1
 ·have cf:i<qs.length:=by omega
  have gx:=aj cf;have gq:=hqs _ (bR cf);have qV:qs.take (i+1)=qs.take i++[qs[i]]:=by rw[a8,gx];rfl
  generalize qs[i]=q at gx gq qV;have aco:=BD gq.yB gq.writes gq.aB gq.cm;have hcg:=Fq gq.yB gq.writes;refine dM (b:=bb) ⟨by omega,by omega⟩ λrb hb=>?_;subst hb;rw[ao,lN];refine RG (v:=Gh (dI q)) (by rw[eK,eK,gx];rfl) ?_;unfold Gh;refine xU ?_;refine HW (by have:=JV gq.yB gq.writes;omega) (λzg=>by rw[Cp gq.yB gq.writes gq.aB gq.cm] at zg;cases zg) (λ_ A sl hq=>?_);rw[aco] at hq⊢;dsimp only at hq⊢;apply ws;intros;refine gL (by decide) ?_
  repeat' first|apply ws|apply wb|refine B2 ?_
  rw[hcg.2];unfold mu.j1;apply ws;refine T.Zo ?_;have Dw:=Lg (q:=q);have UQ:(canon q).op=2->∀t∈(canon q).cm,TOk t:=λho t ht=>⟨gq.cm t (Dw.2.1 t ht),by
   have hf:=m8 hcg.1
   have:∀a∈(canon q).cm,j0 a:=by rcases hf with h|h|h|h|h<;>first|exact h.2.2|omega
   exact this t ht⟩
  have E0:=Fp (ze mb (qs.take i)) gq.writes;refine K3 G hgi (pC.two hq) (λ_ a ha=>gq.aB a (Dw.1 a ha)) UQ λZv rc2 KL=>?_;apply ws;rw[E0.1] at KL⊢;rw[e5];have hre:ze mb (qs.take (i+1))=(bD (ze mb (qs.take i)) q).2.2:=by rw[qV,GZ]
  refine T.sub (M:=cO pb (bo (bD (ze mb (qs.take i)) q).2.2,[])::Sep.pt v (vC d n pb pj hd.bA false)::jP d pj ⟨(2+2* dv n:Nat),n,(kB D n (2+2* dv n:Nat) hd.seq).2.1,(kB D n (2+2* dv n:Nat) hd.seq).2.2,false⟩::gJ d D::own (ah rb) qs.length c 1 ((qs.map dI).map Gh)::R) (λw3 h3=>?_) ?_
  ·exact⟨⟨i+1,cf,rfl,by rw[hre];exact KL,by rw[hre];exact h3⟩,by show qs.length-((i+1:Nat):Int).toNat<qs.length-(i:Int).toNat;omega⟩
  ·repeat (first|exact ba.refl _|apply ba.cons_cons|apply ba.cons)
 ·have iM:i=qs.length:=by omega
  subst iM;rw[aR] at hgi⊢;have fin:=h v pb pj hgi;refine T.Mo ?_;refine T.sub fin ?_;exact qv
end
end Go.Up
namespace Go.Up
open Go.Md
inductive Step(m:aA):aA->Prop where
 |same:Step m m
 |make (a:bC) (h:tI a=0) (hn:m.find a.id=none) (hf:m.cy.length<32):Step m {m with ay:=m.ay+1,cy:=m.cy++[{a with ay:=m.ay+1,ak:=a.ak/2* 2}]}
 |move (t:cE) (n:Nat) (d c:bC) (hk:mT t=0) (he: ¬jA t.ak) (hn:m.named t.id=none) (hd:d∈m.cy) (hc:c∈m.cy) (E5:d.id=t.bp) (Dw:c.id=t.aP) (hl:d.aZ=c.aZ) (hm:m.ax.length<96)
  (hb: ¬(has (Md.full m.ax d).ak 2/\iu (Md.full m.ax d) true<n)) (wm: ¬(has (Md.full m.ax c).ak 4/\iu (Md.full m.ax c) false<n)):Step m (m.mD t {t with aU:=n} (waits t))
 |ends (t:cE) (i:Nat) (k:bW) (hi:m.ax[i]?=some k) (hk:mT t=0) (he:jA t.ak) (hn:m.named t.id=none) (hw:has k.move.ak 2) (h1:k.fate=1) (hb: ¬lF t k.move) (hm:m.ax.length<96):
  Step m ((m.dE i (cJ t)).mD t (l7 t k.move) 0)
 |time (now:Int):Step m (m.time now)
def Qc{m:aA}(a:bC):Step m (m.make a).2:=by
 unfold aA.make;split
 ·exact .same
 ·rename_i h1;split
  ·exact .same
  ·rename_i h2;split
   ·exact .same
   ·rename_i h3;exact .make a (by simpa using h1) h2 (by omega)
def P'{m:aA}(hg:Md.bN m)(t:cE):Step m (m.move t).2:=by
 unfold aA.move;dsimp only;split
 ·exact .same
 ·rename_i h;have h:(jn t (m.named t.id) ((m.find t.bp).map m.full) ((m.find t.aP).map m.full) m.ax.length).1=0:=by simpa using h
  obtain⟨d',c',e1,e2,e3,e4,e5,e6,e7,e8,e9,e10,e11,e12,e13⟩:=vd h;cases hd:m.find t.bp with
  |none=>rw[hd] at e1;cases e1
  |some d=>
   cases hc:m.find t.aP with
   |none=>rw[hc] at e2;cases e2
   |some c=>
    rw[hd] at e1;rw[hc] at e2;cases e1
    cases e2
    obtain⟨m1,i1⟩:=wo hd;obtain⟨m2,i2⟩:=wo hc;have f1:=hg.full m1;have f2:=hg.full m2;rw[hd,hc] at *;simp only[eW] at *;generalize (jn t (m.named t.id) (some (m.full d)) (some (m.full c)) m.ax.length).2=N at e10 e11 e12 e13⊢;rw[f1] at e12;rw[f2] at e13;rw[f1,f2] at e6;exact .move t _ d c e4 e5 e3 m1 m2 i1 i2 e6 e9 e12 e13
def Tp{m:aA}(hg:Md.bN m)(t:cE):Step m (m.oN t).2:=by
 unfold aA.oN;split
 ·exact .same
 ·rename_i i hi;split
  ·exact .same
  ·rename_i k hk;dsimp only;split
   ·exact .same
   ·rename_i h;have nM:=cb hk;obtain⟨e1,e2,e3,e4,e5,e6,e7⟩:=z7 (by simpa using h) (hg.uJ k nM).1;have:=(hg.uJ k nM).2.2.1 e4;exact .ends t i k hk e2 e3 e1 e4 (by omega) e6 e7
def Tx{m:aA}(hg:Md.bN m)(t:cE):Step m (m.qL t).2:=by
 unfold aA.qL;split
 ·exact Tp hg t
 ·exact P' hg t
def HH{σ α:Type}{f:σ->α->Int×σ}{P:σ->Prop}(h:∀s x,P s->P (f s x).2):∀(l:List α)(s:σ)(i:Nat),P s->P (ia f s l i).2
 |[],s,i,hs=>hs
 |x::l,s,i,hs=>by
  unfold ia;split
  ·exact hs
  ·exact HH h l _ _ (h s x hs)
def AF{σ α:Type}{f:σ->α->Int×σ}{P:σ->Prop}(lk:α->Bool)(h:∀s x,P s->P (f s x).2):∀(n:Nat)(s:σ)(l:List α),P s->P (hG f lk n s l).2
 |0,s,l,hs=>hs
 |n+1,s,[],hs=>hs
 |n+1,s,x::l,hs=>by
  rw[hG];split
  ·exact hs
  ·have hd:=HH h ((x::l).take (cn lk (x::l)).1) s 0 hs;split
   ·rename_i s' e;rw[e] at hd;exact AF lk h n _ _ hd
   ·exact AF lk h n _ _ hs
def M5{P:aA->Prop}(hP:∀m m',Md.bN m->P m->Step m m'->P m'){m:aA}{q:jF}(hg:Md.bN m)(h:P m):P (bD m q).2.2:=by
 unfold bD;split
 ·exact h
 ·split
  ·exact(AF (P:=λm=>Md.bN m/\P m) _ (λs x hs=>⟨(Md.oT.make (qh s) hs.1).2.2,hP _ _ hs.1 hs.2 (Qc x)⟩) _ _ _ ⟨hg,h⟩).2
  ·split
   ·exact(AF (P:=λm=>Md.bN m/\P m) _ (λs x hs=>⟨(Md.oT.qL (qh s) hs.1).2.2,hP _ _ hs.1 hs.2 (Tx hs.1 x)⟩) _ _ _ ⟨hg,h⟩).2
   ·exact hP _ _ hg h (.time _)
def mP(l:List Int):Nat:=l.countP (·==0)
def wR{α σ:Type}(f:σ->α->Int×σ)(lk:α->Bool):∀(n:Nat)(s:σ)(l:List α),(hG f lk n s l).1.length<=l.length
 |0,s,l=>aE _
 |n+1,s,[]=>aE _
 |n+1,s,x::l=>by
  have hle:=uM (linked:=lk) (x::l);have hd:((x::l).drop (cn lk (x::l)).1).length=(x::l).length-(cn lk (x::l)).1:=aS;rw[hG];by_cases hw:(cn lk (x::l)).2=false
  ·rw[ai hw];dsimp only;rw[kv];exact hle
  rw[ag hw];cases ia f s ((x::l).take (cn lk (x::l)).1) 0 with
  |mk o s'=>
   cases o with
   |none=>
    have:=wR f lk n s' ((x::l).drop (cn lk (x::l)).1);dsimp only;rw[au,kv];omega
   |some e=>
    have:=wR f lk n s ((x::l).drop (cn lk (x::l)).1);dsimp only;rw[au,kv];omega
def xW(c:Int):Prop:=0<=c/\c<=255
def Le(t:cE):xW (mT t):=by
 unfold mT xW
 repeat' split
 all_goals omega
def TG(a:bC):xW (tI a):=by
 unfold tI xW
 repeat' split
 all_goals omega
def FE(t b:cE):xW (sE t b):=by unfold sE xW;split<;>omega
def Nt(t b:bC):xW (tJ t b):=by unfold tJ xW;split<;>omega
def Ns(t:cE)(d c:bC):xW (cZ t d c).2:=by
 unfold cZ xW;dsimp only;by_cases h1:has t.ak 16/\(if has t.ak 16 then min (if t.aU=0 then bB-1 else t.aU) (iu d true) else if t.aU=0 then bB-1 else t.aU)=0
 ·rw[ai h1];simp
 ·rw[ag h1];by_cases h2:has t.ak 32/\(if has t.ak 32 then min (if has t.ak 16 then min (if t.aU=0 then bB-1 else t.aU) (iu d true) else if t.aU=0 then bB-1 else t.aU) (iu c false) else if has t.ak 16 then min (if t.aU=0 then bB-1 else t.aU) (iu d true) else if t.aU=0 then bB-1 else t.aU)=0
  ·rw[ai h2];simp
  ·rw[ag h2];simp
def Kk(a:bC)(b:Bool)(n:Nat)(p:Bool):xW (more a b n p).2:=by
 unfold more xW
 repeat' split
 all_goals simp
def MH(t:cE)(named:Option bW)(d c:Option bC)(many:Nat):xW (jn t named d c many).1:=by
 unfold jn;have h1:=Le t;split
 ·exact h1
 split
 ·unfold xW;simp
 cases named with
 |some k=>exact FE _ _
 |none=>
  cases d with
  |none=>unfold xW;simp
  |some d=>
   cases c with
   |none=>unfold xW;simp
   |some c=>
    have h2:=Ns t d c;have h3:=Kk d true (cZ t d c).1 (decide (has t.ak 2));have h4:=Kk c false (cZ t d c).1 (decide (has t.ak 2));dsimp only
    repeat' split
    all_goals first|exact h2|exact h3|exact h4|(unfold xW;dsimp only;decide)
def B1(t:cE)(named:Option bW){pend:Option bW}(hp:∀k,pend=some k->k.fate<=4)(d c:Bool)(many:Nat):xW (nH t named pend d c many):=by
 unfold nH;have h1:=Le t;split
 ·exact h1
 split
 ·unfold xW;decide
 cases named with
 |some k=>exact FE _ _
 |none=>
  cases pend with
  |none=>unfold xW;dsimp only;decide
  |some k=>
   have:=hp k rfl;unfold xW;dsimp only
   repeat' split
   all_goals omega
def WY{m:aA}(hg:Md.bN m)(t:cE):xW (m.qL t).1:=by
 unfold aA.qL;split
 ·unfold aA.oN;cases hi:m.name t.pending with
  |none=>dsimp only;exact B1 t _ (λk h=>by cases h) _ _ _
  |some i=>
   dsimp only;cases hk:m.ax[i]? with
   |none=>dsimp only;exact B1 t _ (λk h=>by cases h) _ _ _
   |some k=>
    have hf:=(hg.uJ k (cb hk)).2.1;dsimp only;split
    ·exact B1 t _ (pend:=some k) (λk2 h=>by cases h;exact hf) _ _ _
    ·unfold xW;dsimp only;decide
 ·unfold aA.move;dsimp only;split
  ·exact MH t _ _ _ _
  ·unfold xW;dsimp only;decide
def SG(m:aA)(a:bC):xW (m.make a).1:=by
 unfold aA.make;split
 ·exact TG a
 ·split
  ·exact Nt _ _
  ·split
   ·unfold xW;dsimp only;decide
   ·unfold xW;dsimp only;decide
def BJ{n:Nat}{o:Option (Nat×Int)}(h:∀i c,o=some (i,c)->xW c):∀c∈kA n o,xW c:=λc hc=>by
 unfold kA at hc;cases o with
 |none=>rw[(List.mem_replicate.1 hc).2];unfold xW;decide
 |some e=>
  obtain⟨i,x⟩:=e;rcases eY hc with hh|hh
  ·rw[(List.mem_replicate.1 hh).2];unfold xW;decide
  ·rw[hh];exact h i x rfl
section
variable {σ α:Type} {f:σ->α->Int×σ} {P:σ->Prop}
def HE(hP:∀s x,P s->P (f s x).2/\xW (f s x).1):∀(l:List α)(s:σ)(i:Nat),P s->P (ia f s l i).2/\∀j c,(ia f s l i).1=some (j,c)->xW c
 |[],s,i,h=>⟨h,λj c e=>by cases e⟩
 |x::l,s,i,h=>by
  unfold ia;split
  ·exact⟨h,λj c e=>by cases e;exact(hP s x h).2⟩
  ·exact HE hP l _ _ (hP s x h).1
def AB(lk:α->Bool)(hP:∀s x,P s->P (f s x).2/\xW (f s x).1):∀(n:Nat)(s:σ)(l:List α),P s->∀c∈(hG f lk n s l).1,xW c
 |0,s,l,_,c,hc=>by cases hc
 |n+1,s,[],_,c,hc=>by cases hc
 |n+1,s,x::l,h,c,hc=>by
  rw[hG] at hc;split at hc
  ·exact BJ (o:=some ((cn lk (x::l)).1-1,2)) (λi c e=>by cases e;unfold xW;decide) c hc
  ·have hd:=HE hP ((x::l).take (cn lk (x::l)).1) s 0 h;generalize ia f s ((x::l).take (cn lk (x::l)).1) 0=r at hd hc
   match r,hd,hc with
   |(none,s'),hd,hc=>
    rcases dF.1 hc with hc|hc
    ·exact BJ (o:=none) (λi c e=>by cases e) c hc
    ·exact AB lk hP n _ _ hd.1 c hc
   |(some e,s'),hd,hc=>
    rcases dF.1 hc with hc|hc
    ·exact BJ (o:=some e) (λi c' e'=>by cases e';exact hd.2 _ _ rfl) c hc
    ·exact AB lk hP n _ _ h c hc
end
def K4{m:aA}{q:jF}(hg:Md.bN m)(he:k8 q=true):rC (bD m q).1 (bD m q).2.1 [] []=true:=by
 have kd: ¬k8 q=false:=by rw[he];decide
 have fin:∀(res:List Int),(∀c∈res,xW c)->res.length<=16->rC 0 res [] []=true:=λres h1 h2=>by
  unfold rC;simp only[dW,List.all_eq_true,decide_eq_true_eq,cH];exact⟨⟨⟨⟨λc hc=>h1 c hc,λa ha=>(by cases ha)⟩,λa ha=>(by cases ha)⟩,by omega⟩,by omega⟩
 have hl:q.op=1/\q.aB.length<=8\/q.op=2/\q.cm.length<=8\/q.op≠1/\q.op≠2:=by
  unfold k8 at he;by_cases h1:q.op=1
  ·left;rw[ai h1] at he;simp at he;exact⟨h1,by omega⟩
  ·by_cases h2:q.op=2
   ·right;left;rw[ag h1,ai h2] at he;simp at he;exact⟨h2,by omega⟩
   ·exact .inr (.inr ⟨h1,h2⟩)
 unfold bD;rw[ag kd];rcases hl with⟨h1,h2⟩|⟨h1,h2⟩|⟨h1,h2⟩
 ·rw[ai h1];refine fin _ (AB (P:=λ_=>True) _ (λs x _=>⟨trivial,SG s x⟩) _ _ _ trivial) ?_;have:=wR aA.make Ai q.aB.length m q.aB;dsimp only;omega
 ·rw[ag (by omega),ai h1];refine fin _ (AB (P:=Md.bN) _ (λs x h=>⟨(Md.oT.qL (qh s) h).2.2,WY h x⟩) _ _ _ hg) ?_;have:=wR aA.qL Ah q.cm.length m q.cm;dsimp only;omega
 ·rw[ag h1,ag h2];exact fin [] (λc hc=>by cases hc) (by simp)
end Go.Up
namespace Go.Up
open Go.Sep Go.Den Go.RowKit Go.Prog Go.Md Go.cD
def VN(l:List UInt8):Kh l<bB:=by
 unfold Kh;split
 ·decide
 ·have h1:=ry (l.take 16);have h2:(l.take 16).length<=16:=by rw[aD];omega
  have h3:256^(l.take 16).length<=256^16:=gv (by decide) h2;have h4:(256:Nat)^16=bB:=rfl;omega
def vI(x:RS):zm x<bB:=by
 unfold zm;split
 ·decide
 ·exact VN _
def sP(n:Nat)(x:RS):uU (kL n x):=by
 unfold kL uU;split
 ·omega
 ·unfold mS;simp only[IntKind.wrap,IntKind.bits,IntKind.signed];simp;split<;>omega
def zp:uU 0:=by unfold uU;omega
def ZF(x:RS):wD (FW x):=by
 unfold FW;split
 ·exact⟨by decide,by decide,by decide,by decide,by decide,zp,zp,zp,zp⟩
 ·exact⟨vI _,vI _,vI _,vI _,vI _,sP _ _,sP _ _,sP _ _,sP _ _⟩
def ZE(x:RS):yJ (FV x):=by
 unfold FV;split
 ·exact⟨by decide,by decide,by decide,by decide,by decide,zp,zp,zp,zp,zp,zp⟩
 ·exact⟨vI _,vI _,vI _,vI _,vI _,sP _ _,sP _ _,sP _ _,sP _ _,sP _ _,sP _ _⟩
def MI{α:Type}{nx:RS->RS}{nv:RS->α}{P:α->Prop}(h:∀x,P (nv x)):∀(n:Nat)(x:RS),∀y∈(many nx nv n x).1,P y
 |0,x,y,hy=>by cases hy
 |n+1,x,y,hy=>by
  rw[rh] at hy;split at hy
  ·cases hy
  ·rcases jB.1 hy with e|e
   ·rw[e];exact h x
   ·exact MI h n _ y e
def Eo(l:List UInt8):(∀a∈(iL l).1.aB,wD a)/\(∀t∈(iL l).1.cm,yJ t)/\(iL l).1.aB.length<=255/\(iL l).1.cm.length<=255:=by
 have hb:=Sv (fG 1 (l,false));have h1:=wc (nx:=FU) (nv:=FW) (kL 1 (fG 1 (l,false))).toNat (fG 1 (fG 1 (l,false)));have h2:=wc (nx:=FT) (nv:=FV) (kL 1 (fG 1 (l,false))).toNat (fG 1 (fG 1 (l,false)));unfold iL;dsimp only;split
 ·exact⟨MI ZF _ _,λt h=>(by cases h),by dsimp only;omega,aE _⟩
 split
 ·exact⟨λt h=>(by cases h),MI ZE _ _,aE _,by dsimp only;omega⟩
 split
 ·exact⟨λt h=>(by cases h),λt h=>(by cases h),aE _,aE _⟩
 split
 ·exact⟨λt h=>(by cases h),λt h=>(by cases h),aE _,aE _⟩
 ·exact⟨λt h=>(by cases h),λt h=>(by cases h),aE _,aE _⟩
def yq{l:List UInt8}(h:rE l=true):kz (iL l).1=true:=by
 unfold rE at h;exact(dW _ _▸h).2
def PE{e:Int}(h:0<=e/\e<=255):rC e [] [] []=true:=by
 unfold rC;simp[h]
def Vn{e e':Int}{res abA:List Int}{al al':List bC}{tl tl':List cE}(h:rC e res al tl=true)(h':rC e' abA al' tl'=true)(heq:su e res al tl=su e' abA al' tl'):e=e':=by
 unfold su at heq;rw[ai h,ai h'] at heq;have:=congrArg (λl=>kL 1 (l,false)) heq;unfold En at this;rwa[Zu (AH h).2.2.2.1,Zu (AH h').2.2.2.1] at this
def Zt{e e':Int}{res:List Int}(h:rC e res [] []=true)(h':0<=e'/\e'<=255)(hn:e≠e'):su e res [] []≠su e' [] [] []:=λhh=>hn (Vn h (PE h') hh)
end Go.Up
namespace Go.Prog
open Go.Den
def jJ(a:OA)(K:VK):WK:=br (a.isNone) (K (.p none)) (nn a λb=>lP (b.add 1) λc=>px c (xP λd=>K (.p d)))
def pV.j1(K:VK)(a:Addr)(c:Bool):WK:=br c (lL (a.add 1) λg d h=>lL (a.add 2) λi e j=>lL (a.add 3) λk f l=>K (.b (decide ((max2 (max2 (d:Int) (e:Int)) (f:Int))<=16)))) (K (.b false))
def pV(P:LV)(K:VK):WK:=mk P λC=>lL (ad C 1) λQ D R=>(lp [.p (some (ad C 0)),.b false,.l Q D R,.i (D:Int),.i 0] λE S=>∀c h j k v m d w,E [.p (some c),.b h,.l j k v,.i m,.i d] w->(br (decide (d<m)) (iX j k d 1 λT=>lI T λF=>br (decide (F<0)) (K (.b false)) (br (decide (F>255)) (K (.b false)) ((ct E S [.p (some c),.b h,.l j k v,.i m,.i (aa.wrap (d+1))] [.p (some c),.b h,.l j k v,.i m,.i d] w)))) (lL (c.add 2) λV G W=>(lp [.p (some c),.b h,.l V G W,.i (G:Int),.i 0] λH X=>∀e n o q x r f y,H [.p (some e),.b n,.l o q x,.i r,.i f] y->(br (decide (f<r)) (iX o q f 14 λY=>aI Y 14 λZ=>mk dR λI=>bw 14 (ad I 0) Z (aI (ad I 0) 14 λGy=>ja Gy (xB λb3=>br (!b3) (K (.b false)) ((ct H X [.p (some e),.b n,.l o q x,.i r,.i (aa.wrap (f+1))] [.p (some e),.b n,.l o q x,.i r,.i f] y))))) (lL (e.add 3) λGb J FQ=>(lp [.p (some e),.b n,.l Gb J FQ,.i (J:Int),.i 0] λM YI=>∀a z s t A u g B,M [.p (some a),.b z,.l s t A,.i u,.i g] B->(br (decide (g<u)) (iX s t g 16 λa6=>aI a6 16 λC6=>mk iw λO=>bw 16 (ad O 0) C6 (aI (ad O 0) 16 λIX=>fN IX (xB λb5=>br (!b5) (K (.b false)) ((ct M YI [.p (some a),.b z,.l s t A,.i u,.i (aa.wrap (g+1))] [.p (some a),.b z,.l s t A,.i u,.i g] B))))) (lI a λn8=>br (decide (n8>=0)) (lI a λn9=>pV.j1 K a (decide (n9<=255))) (pV.j1 K a false))) B))) y))) w)
def kr.j1(K:VK)(b:Nat):WK:=ch True (mk [.l none 0 0] λh=>tick (lI (ad b 0) λr=>bl (some (ad h 0)) 1 r (x0 (tick (lL (ad b 1) λt n u=>bl (some (ad h 0)) 1 (n:Int) (x0 (kp (ad b 1) [.l t n u] (lL (ad b 1) λv o w=>(lp [.p (some (ad b 0)),.s .empty,.p (some (ad h 0)),.l v o w,.i (o:Int),.i 0] λq x=>∀c j a e f k g d m,q [.p (some c),.s j,.p (some a),.l e f k,.i g,.i d] m->(br (decide (d<g)) (iX e f d 1 λy=>lI y λz=>bl (some a) 1 z (x0 ((ct q x [.p (some c),.s j,.p (some a),.l e f k,.i g,.i (aa.wrap (d+1))] [.p (some c),.s j,.p (some a),.l e f k,.i g,.i d] m)))) (lL (c.add 2) λA B C=>kJ (some a) A B C (x0 (lL (c.add 3) λD E F=>kn (some a) D E F (x0 (dz (some a) (xS λG=>K (.s G)))))))) m)))))))))
def kr(b:LV)(K:VK):WK:=mk b λa=>aI (ad a 0) 4 λc=>pV c (xB λd=>br (!d) (ch (1=1/\True) (ch (4=4) (jC (ad a 0) [.i 3,.l none 0 0,.l none 0 0,.l none 0 0] (kr.j1 K a)))) (kr.j1 K a))
def my(a:OA)(b:BA)(K:VK):WK:=br (a.isNone) (ch (1=1/\True) (kr [.i 2,.l none 0 0,.l none 0 0,.l none 0 0] (xS λe=>K (.s e)))) (br (decide ((b.size:Int)>16384)) (ch (1=1/\True) (kr [.i 3,.l none 0 0,.l none 0 0,.l none 0 0] (xS λf=>K (.s f)))) (ku b (x2 λg h=>(xA 13 λj=>(xI .i64 λc=>mk nA λd=>bw 13 (ad d 0) j (br (c !=0) (ch (1=1/\True) (kr [.i c,.l none 0 0,.l none 0 0,.l none 0 0] (xS λk=>K (.s k)))) (tick (nn a λm=>lP (m.add 1) λn=>aI (ad d 0) 13 λo=>mr n o (xA 4 λp=>kr p (xS λq=>K (.s q))))))) h) g)))
def qa.j1(K:VK)(a b:OA)(c:Bool):WK:=br c (K (.tuple ⟨[.p none,.i 1]⟩)) (ch (1=1/\(1=1/\True)) (mk [.p a,.p b] λd=>K (.tuple ⟨[.p (some (ad d 0)),.i 0]⟩)))
def qa(b:Int)(K:VK):WK:=te b (xP λa=>mu a (x2 λd e=>(xP λc=>(xI .i64 λf=>br (f !=0) (qa.j1 K a c true) (fx a (xI .i64 λg=>qa.j1 K a c (g !=b)))) e) d))
def dg(r:LV)(K:VK):WK:=mk r λt=>(lp [.p (some (ad t 0)),.s .empty,.s .empty,.i 0] λn u=>∀j k e f l,n [.p (some j),.s k,.s e,.i f] l->(br (decide (f<16)) ((lp [.p (some j),.s k,.s e,.i f,.i 0,.i 7] λo v=>∀a g b c h d m,o [.p (some a),.s g,.s b,.i c,.i h,.i d] m->(br (decide (d>=0)) (aI a 2 λw=>fL w (aa.wrap ((aa.wrap (8* c))+d)) (xI .i64 λx=>(ct o v [.p (some a),.s g,.s b,.i c,.i (aa.wrap ((aa.wrap (2* h))+x)),.i (aa.wrap (d-1))] [.p (some a),.s g,.s b,.i c,.i h,.i d] m))) (ch (1=1/\True) (mk [.int .u8 (IntKind.u8.wrap h)] λy=>TT (ah y) 1 λq=>ch (((b.size+q.size:Nat):Int)<=9223372036854775807) ((ct n u [.p (some a),.s g,.s (b++q),.i (aa.wrap (c+1))] [.p (some j),.s k,.s e,.i f] l))))) m)) (K (.s e))) l)
def kQ(t:LV)(K:VK):WK:=mk t λa=>tick (aI (ad a 0) 2 λu=>aI (ad a 2) 2 λp=>aI (ad a 4) 2 λm=>aI (ad a 6) 2 λj=>aI (ad a 8) 2 λg=>dg u (xS λb=>kp (ad a 8) g (kp (ad a 6) j (kp (ad a 4) m (kp (ad a 2) p (dg p (xS λc=>kp (ad a 8) g (kp (ad a 6) j (kp (ad a 4) m (ch (((b.size+c.size:Nat):Int)<=9223372036854775807) (dg m (xS λd=>kp (ad a 8) g (kp (ad a 6) j (ch ((((b++c).size+d.size:Nat):Int)<=9223372036854775807) (dg j (xS λe=>kp (ad a 8) g (ch (((((b++c)++d).size+e.size:Nat):Int)<=9223372036854775807) (dg g (xS λf=>ch ((((((b++c)++d)++e).size+f.size:Nat):Int)<=9223372036854775807) (tick (lI (ad a 10) λv=>lI (ad a 11) λq=>lI (ad a 12) λn=>lI (ad a 13) λk=>bF 4 v (xS λh=>kp (ad a 13) [.i k] (kp (ad a 12) [.i n] (kp (ad a 11) [.i q] (ch (((((((b++c)++d)++e)++f).size+h.size:Nat):Int)<=9223372036854775807) (bF 2 q (xS λl=>kp (ad a 13) [.i k] (kp (ad a 12) [.i n] (ch ((((((((b++c)++d)++e)++f)++h).size+l.size:Nat):Int)<=9223372036854775807) (bF 2 n (xS λo=>kp (ad a 13) [.i k] (ch (((((((((b++c)++d)++e)++f)++h)++l).size+o.size:Nat):Int)<=9223372036854775807) (bF 8 k (xS λr=>ch ((((((((((b++c)++d)++e)++f)++h)++l)++o).size+r.size:Nat):Int)<=9223372036854775807) (K (.s ((((((((b++c)++d)++e)++f)++h)++l)++o)++r)))))))))))))))))))))))))))))))))))))
def kO(w:LV)(K:VK):WK:=mk w λa=>tick (aI (ad a 0) 2 λx=>aI (ad a 2) 2 λr=>aI (ad a 4) 2 λo=>aI (ad a 6) 2 λl=>aI (ad a 8) 2 λj=>dg x (xS λb=>kp (ad a 8) j (kp (ad a 6) l (kp (ad a 4) o (kp (ad a 2) r (dg r (xS λc=>kp (ad a 8) j (kp (ad a 6) l (kp (ad a 4) o (ch (((b.size+c.size:Nat):Int)<=9223372036854775807) (dg o (xS λd=>kp (ad a 8) j (kp (ad a 6) l (ch ((((b++c).size+d.size:Nat):Int)<=9223372036854775807) (dg l (xS λe=>kp (ad a 8) j (ch (((((b++c)++d).size+e.size:Nat):Int)<=9223372036854775807) (dg j (xS λf=>ch ((((((b++c)++d)++e).size+f.size:Nat):Int)<=9223372036854775807) (tick (lI (ad a 10) λy=>lI (ad a 11) λt=>lI (ad a 12) λp=>lI (ad a 13) λm=>bF 4 y (xS λg=>kp (ad a 13) [.i m] (kp (ad a 12) [.i p] (kp (ad a 11) [.i t] (ch (((((((b++c)++d)++e)++f).size+g.size:Nat):Int)<=9223372036854775807) (bF 4 t (xS λh=>kp (ad a 13) [.i m] (kp (ad a 12) [.i p] (ch ((((((((b++c)++d)++e)++f)++g).size+h.size:Nat):Int)<=9223372036854775807) (bF 2 p (xS λk=>kp (ad a 13) [.i m] (ch (((((((((b++c)++d)++e)++f)++g)++h).size+k.size:Nat):Int)<=9223372036854775807) (bF 2 m (xS λn=>ch ((((((((((b++c)++d)++e)++f)++g)++h)++k).size+n.size:Nat):Int)<=9223372036854775807) (tick (lI (ad a 14) λz=>lI (ad a 15) λu=>bF 8 z (xS λq=>kp (ad a 15) [.i u] (ch (((((((((((b++c)++d)++e)++f)++g)++h)++k)++n).size+q.size:Nat):Int)<=9223372036854775807) (bF 8 u (xS λv=>ch ((((((((((((b++c)++d)++e)++f)++g)++h)++k)++n)++q).size+v.size:Nat):Int)<=9223372036854775807) (K (.s ((((((((((b++c)++d)++e)++f)++g)++h)++k)++n)++q)++v)))))))))))))))))))))))))))))))))))))))))))
def cx.j1(K:VK)(H:OA)(y I:Nat)(J:OA)(z M:Nat)(O:OA)(A P:Nat)(Q:Bool):WK:=br Q (K (.b false)) ((lp [.b false,.l H y I,.i (y:Int),.i 0] λB R=>∀e f g r h a s,B [.b e,.l f g r,.i h,.i a] s->(br (decide (a<h)) (iX f g a 1 λS=>lI S λC=>br (decide (C<0)) (K (.b false)) (br (decide (C>255)) (K (.b false)) ((ct B R [.b e,.l f g r,.i h,.i (aa.wrap (a+1))] [.b e,.l f g r,.i h,.i a] s)))) ((lp [.b e,.l J z M,.i (z:Int),.i 0] λD T=>∀j k m t n c u,D [.b j,.l k m t,.i n,.i c] u->(br (decide (c<n)) (iX k m c 14 λV=>aI V 14 λW=>mk dR λE=>bw 14 (ad E 0) W (aI (ad E 0) 14 λX=>cY X (xB λY=>br (!Y) (K (.b false)) ((ct D T [.b j,.l k m t,.i n,.i (aa.wrap (c+1))] [.b j,.l k m t,.i n,.i c] u))))) ((lp [.b j,.l O A P,.i (A:Int),.i 0] λF Z=>∀v o p w q d x,F [.b v,.l o p w,.i q,.i d] x->(br (decide (d<q)) (iX o p d 16 λa3=>aI a3 16 λGy=>mk iw λG=>bw 16 (ad G 0) Gy (aI (ad G 0) 16 λC6=>bT C6 (xB λb6=>br (!b6) (K (.b false)) ((ct F Z [.b v,.l o p w,.i q,.i (aa.wrap (d+1))] [.b v,.l o p w,.i q,.i d] x))))) (K (.b true))) x))) u))) s))
def cx.j3(K:VK)(c:OA)(d e:Nat)(f:OA)(a g:Nat)(h:OA)(b i:Nat)(j:Bool):WK:=br j (cx.j1 K c d e f a g h b i true) (br (decide ((a:Int)>16)) (cx.j1 K c d e f a g h b i true) (cx.j1 K c d e f a g h b i (decide ((b:Int)>16))))
def cx.j2(K:VK)(b:OA)(a c:Nat)(d:OA)(e f:Nat)(g:OA)(h i:Nat)(j:Bool):WK:=br j (cx.j3 K b a c d e f g h i true) (cx.j3 K b a c d e f g h i (decide ((a:Int)>16)))
def cx(a:Int)(b:OA)(c d:Nat)(e:OA)(f g:Nat)(h:OA)(i j:Nat)(K:VK):WK:=br (decide (a<0)) (cx.j2 K b c d e f g h i j true) (cx.j2 K b c d e f g h i j (decide (a>255)))
def gP(E:Int)(F:OA)(g G:Nat)(H:OA)(h I:Nat)(J:OA)(j M:Nat)(K:VK):WK:=cx E F g G H h I J j M (xB λb1=>br (!b1) (K (.s ⟨#[3,0,0,0]⟩)) (bF 1 E (xS λO=>bF 1 (g:Int) (xS λP=>ch (((O.size+P.size:Nat):Int)<=9223372036854775807) ((lp [.s .empty,.s (O++P),.l F g G,.i (g:Int),.i 0] λQ pI=>∀k a m n x o c y,Q [.s k,.s a,.l m n x,.i o,.i c] y->(br (decide (c<o)) (iX m n c 1 λa1=>lI a1 λn4=>bF 1 n4 (xS λR=>ch (((a.size+R.size:Nat):Int)<=9223372036854775807) ((ct Q pI [.s k,.s (a++R),.l m n x,.i o,.i (aa.wrap (c+1))] [.s k,.s a,.l m n x,.i o,.i c] y)))) (bF 1 (h:Int) (xS λS=>ch (((a.size+S.size:Nat):Int)<=9223372036854775807) ((lp [.s k,.s (a++S),.l H h I,.i (h:Int),.i 0] λT μ2=>∀p b q r z t d A,T [.s p,.s b,.l q r z,.i t,.i d] A->(br (decide (d<t)) (iX q r d 14 λa2=>aI a2 14 λO0=>mk dR λV=>bw 14 (ad V 0) O0 (aI (ad V 0) 14 λFh=>kQ Fh (xS λW=>ch (((b.size+W.size:Nat):Int)<=9223372036854775807) ((ct T μ2 [.s p,.s (b++W),.l q r z,.i t,.i (aa.wrap (d+1))] [.s p,.s b,.l q r z,.i t,.i d] A))))) (bF 1 (j:Int) (xS λX=>ch (((b.size+X.size:Nat):Int)<=9223372036854775807) ((lp [.s p,.s (b++X),.l J j M,.i (j:Int),.i 0] λY YI=>∀B e u v C w f D,Y [.s B,.s e,.l u v C,.i w,.i f] D->(br (decide (f<w)) (iX u v f 16 λa3=>aI a3 16 λGy=>mk iw λZ=>bw 16 (ad Z 0) Gy (aI (ad Z 0) 16 λC6=>kO C6 (xS λs13=>ch (((e.size+s13.size:Nat):Int)<=9223372036854775807) ((ct Y YI [.s B,.s (e++s13),.l u v C,.i w,.i (aa.wrap (f+1))] [.s B,.s e,.l u v C,.i w,.i f] D))))) (K (.s e))) D))))) A))))) y))))))
def iF(a:Int)(K:VK):WK:=gP a none 0 0 none 0 0 none 0 0 (xS λb=>K (.s b))
def nQ(a:Bool)(K:VK):WK:=br a (K (.s ⟨#[1]⟩)) (K (.s ⟨#[0]⟩))
def kM(O0:LV)(K:VK):WK:=mk O0 λd=>lI (ad d 0) λn1=>bF 1 n1 (xS λc=>lI (ad d 0) λv=>br (v==1) (lL (ad d 1) λGe GQ GV=>bF 1 (GQ:Int) (xS λW=>ch (((c.size+W.size:Nat):Int)<=9223372036854775807) (lL (ad d 1) λqI X re=>(lp [.s .empty,.s (c++W),.l qI X re,.i (X:Int),.i 0] λY pI=>∀H k w x I y m J,Y [.s H,.s k,.l w x I,.i y,.i m] J->(br (decide (m<y)) (iX w x m 14 λa1=>aI a1 14 λFh=>mk dR λZ=>bw 14 (ad Z 0) Fh (aI (ad Z 0) 14 λGy=>kQ Gy (xS λs5=>ch (((k.size+s5.size:Nat):Int)<=9223372036854775807) ((ct Y pI [.s H,.s (k++s5),.l w x I,.i y,.i (aa.wrap (m+1))] [.s H,.s k,.l w x I,.i y,.i m] J))))) (K (.s k))) J)))) (br (v==2) (lL (ad d 2) λxG vT wO=>bF 1 (vT:Int) (xS λs6=>ch (((c.size+s6.size:Nat):Int)<=9223372036854775807) (lL (ad d 2) λGb FP FQ=>(lp [.s .empty,.s (c++s6),.l Gb FP FQ,.i (FP:Int),.i 0] λI2 μ2=>∀M n z A O B o P,I2 [.s M,.s n,.l z A O,.i B,.i o] P->(br (decide (o<B)) (iX z A o 16 λa2=>aI a2 16 λC6=>mk iw λr3=>bw 16 (ad r3 0) C6 (aI (ad r3 0) 16 λIX=>kO IX (xS λs9=>ch (((n.size+s9.size:Nat):Int)<=9223372036854775807) ((ct I2 μ2 [.s M,.s (n++s9),.l z A O,.i B,.i (aa.wrap (o+1))] [.s M,.s n,.l z A O,.i B,.i o] P))))) (K (.s n))) P)))) (br (v==3) (lI (ad d 3) λn7=>bF 8 n7 (xS λs10=>ch (((c.size+s10.size:Nat):Int)<=9223372036854775807) (K (.s (c++s10))))) (br (v==6) (aI (ad d 5) 8 λQH=>mk DH λa=>bw 8 (ad a 0) QH (tick (aI (ad a 0) 2 λRe=>lI (ad a 2) λn8=>lI (ad a 3) λQ=>lT (ad a 4) λC=>lT (ad a 5) λp=>lT (ad a 6) λh=>lI (ad a 7) λf=>dg Re (xS λe=>kp (ad a 7) [.i f] (kp (ad a 6) [.b h] (kp (ad a 5) [.b p] (kp (ad a 4) [.b C] (kp (ad a 3) [.i Q] (kp (ad a 2) [.i n8] (ch (((c.size+e.size:Nat):Int)<=9223372036854775807) (bF 8 n8 (xS λg=>kp (ad a 7) [.i f] (kp (ad a 6) [.b h] (kp (ad a 5) [.b p] (kp (ad a 4) [.b C] (kp (ad a 3) [.i Q] (ch ((((c++e).size+g.size:Nat):Int)<=9223372036854775807) (bF 8 Q (xS λj=>kp (ad a 7) [.i f] (kp (ad a 6) [.b h] (kp (ad a 5) [.b p] (kp (ad a 4) [.b C] (ch (((((c++e)++g).size+j.size:Nat):Int)<=9223372036854775807) (nQ C (xS λq=>kp (ad a 7) [.i f] (kp (ad a 6) [.b h] (kp (ad a 5) [.b p] (ch ((((((c++e)++g)++j).size+q.size:Nat):Int)<=9223372036854775807) (nQ p (xS λD=>kp (ad a 7) [.i f] (kp (ad a 6) [.b h] (ch (((((((c++e)++g)++j)++q).size+D.size:Nat):Int)<=9223372036854775807) (nQ h (xS λR=>kp (ad a 7) [.i f] (ch ((((((((c++e)++g)++j)++q)++D).size+R.size:Nat):Int)<=9223372036854775807) (bF 1 f (xS λs17=>ch (((((((((c++e)++g)++j)++q)++D)++R).size+s17.size:Nat):Int)<=9223372036854775807) (K (.s (((((((c++e)++g)++j)++q)++D)++R)++s17)))))))))))))))))))))))))))))))))))))))) (lL (ad d 4) λUw Pt Vd=>bF 1 (Pt:Int) (xS λs18=>ch (((c.size+s18.size:Nat):Int)<=9223372036854775807) (lL (ad d 4) λVe Uv Vc=>(lp [.s .empty,.s (c++s18),.l Ve Uv Vc,.i (Uv:Int),.i 0] λI3 YI=>∀S r E F T G t V,I3 [.s S,.s r,.l E F T,.i G,.i t] V->(br (decide (t<G)) (iX E F t 2 λa3=>aI a3 2 λQG=>mk [.u 0,.u 0] λr5=>bw 2 (ad r5 0) QG (aI (ad r5 0) 2 λcs9=>dg cs9 (xS λs21=>ch (((r.size+s21.size:Nat):Int)<=9223372036854775807) ((ct I3 YI [.s S,.s (r++s21),.l E F T,.i G,.i (aa.wrap (t+1))] [.s S,.s r,.l E F T,.i G,.i t] V))))) (K (.s r))) V))))))))
def iE.j1(K:VK)(a:OA)(c:Bool):WK:=br c (ch (1=1/\(1=1/\True)) (kM [.i 3,.l none 0 0,.l none 0 0,.i 5,.l none 0 0,.u 0,.u 0,.i 0,.i 0,.b false,.b false,.b false,.i 0] (xS λd=>my a d (xS λe=>br (py e (⟨#[0,0,0,0]⟩:BA)) (jJ a (xP λf=>lh f (xI .i64 λg=>K (.b (g==5))))) (K (.b false)))))) (K (.b false))
def iE(K:VK):WK:=qa 600 (x2 λb c=>(xP λa=>(xI .i64 λd=>br (d==0) (my a (⟨#[]⟩:BA) (xS λe=>iF 4 (xS λf=>iE.j1 K a (py e f)))) (iE.j1 K a false)) c) b)
def oR(o:OA)(g p:Nat)(K:VK):WK:=(lp [.b false,.i 0,.l o g p,.i (g:Int),.i 0] λm q=>∀h c d e j f a k,m [.b h,.i c,.l d e j,.i f,.i a] k->(br (decide (a<f)) (iX d e a 6 λr=>aI r 6 λs=>mk L2 λn=>bw 6 (ad n 0) s (lS (ad n 1) λt=>(ct m q [.b h,.i (aa.wrap (c+(t.size:Int))),.l d e j,.i f,.i (aa.wrap (a+1))] [.b h,.i c,.l d e j,.i f,.i a] k))) (br (decide ((g:Int)>60)) (K (.b true)) (K (.b (decide (c>16384)))))) k)
def oP(K:VK):WK:=qa 600 (x2 λb c=>(xP λd=>(xI .i64 λf=>ch True (mk aa' λa=>ch (1=1/\(1=1/\(1=1/\True))) (mk [.p d,.p (some (ad a 0)),.p (some (ad a 0))] λe=>K (.p (some (ad e 0)))))) c) b)
def mK(c d:OA)(K:VK):WK:=nn c λe=>lP e λf=>jJ f (xP λa=>iD a (xL λg h i=>jU a (xL λj k l=>lh a (xI .i64 λm=>nj a (xI .i64 λn=>kk d g h i j k l m n (xB λo=>K (.b o)))))))
def iH(a:OA)(K:VK):WK:=br (!(a.isNone)) (nn a λc=>lP (c.add 1) λd=>pW d (xB λe=>K (.b e))) (K (.b false))
def pZ(a:OA)(K:VK):WK:=br (a.isNone) (K (.i 2)) (nn a λb=>lP (b.add 1) λc=>ij c (xI .i64 λd=>K (.i d)))
def pz(a:OA)(c d e:Int)(K:VK):WK:=br (a.isNone) (K (.i 2)) (nn a λf=>lP f λg=>mB g c d e (x0 (nn a λh=>lP h λj=>mu j (x2 λk l=>(xP λm=>(xI .i64 λb=>br (b==0) (nn a λn=>st (n.add 1) (.p m) (K (.i b))) (K (.i b))) l) k))))
def qH(a:OA)(b:Int)(K:VK):WK:=br (!(a.isNone)) (nn a λc=>lP c λd=>nW d b (x0 (K (.tuple ⟨[]⟩)))) (K (.tuple ⟨[]⟩))
def nq(a:OA)(h:LV)(K:VK):WK:=mk h λb=>aI (ad b 0) 13 λi=>kq i (xB λj=>br j (aI (ad b 0) 13 λk=>gF k (xB λm=>br (!m) (gP 1 none 0 0 none 0 0 none 0 0 (xS λn=>K (.tuple ⟨[.s n,.p a]⟩))) (aI (ad b 0) 13 λo=>iV a o (x3 λq r t=>(xL λu v w=>(xI .i64 λx=>(xP λy=>gP x u v w none 0 0 none 0 0 (xS λz=>K (.tuple ⟨[.s z,.p y]⟩))) t) r) q)))) (tick (nn a λc=>lL (c.add 1) λd e f=>aI (ad b 0) 13 λg=>gQ a (xL λA B C=>kp (ad b 0) g (kp (c.add 1) [.l d e f] (nr A B C d e f g (x3 λD E F=>(xL λG H I=>(xL λJ M O=>(xI .i64 λP=>gP P none 0 0 G H I J M O (xS λQ=>K (.tuple ⟨[.s Q,.p a]⟩))) F) E) D)))))))
def oQ(c:OA)(d:BA)(K:VK):WK:=ku d (x2 λe f=>(xA 13 λg=>(xI .i64 λh=>mk nA λa=>bw 13 (ad a 0) g (br (h !=0) (iF 4 (xS λi=>K (.tuple ⟨[.s i,.p c,.b false]⟩))) (aI (ad a 0) 13 λj=>nq c j (x2 λk l=>(xS λm=>(xP λn=>aI (ad a 0) 13 λo=>kq o (xB λq=>K (.tuple ⟨[.s m,.p n,.b q]⟩))) l) k)))) f) e)
def aM.j2(K:VK)(a:OA)(c:Bool):WK:=nn a λd=>lP d λe=>iH e (xB λf=>K (.b (f==c)))
def aM.j1(K:VK)(a c:OA)(b:Bool):WK:=nn a λd=>st (d.add 1) (.p c) (br (!b) (nn a λe=>st (e.add 2) (.p c) (aM.j2 K a b)) (aM.j2 K a b))
def aM.j4(K:VK)(a c:OA)(d e:BA)(f g:Bool):WK:=br g (nn a λh=>st (h.add 2) (.p c) (nn a λi=>lP i λj=>iH j (xB λk=>K (.b k)))) (br (!(py d e)) (K (.b false)) (aM.j1 K a c f))
def aM.j3(K:VK)(a:BA)(g:Bool)(c d:OA)(e:BA)(f h:Bool):WK:=br h (iF 9 (xS λi=>K (.b (py a i)))) (br g (iF 8 (xS λj=>aM.j4 K c d a e f (py a j))) (aM.j4 K c d a e f false))
def aM.j6(K:VK)(a:Int)(c:OA)(d:Bool):WK:=br d (K (.b true)) (br (a==8) (nn c λe=>lP e λf=>iH f (xB λg=>K (.b g))) (K (.b false)))
def aM.j5(K:VK)(d:Bool)(a:Int)(c:OA)(e:Bool):WK:=br e (K (.b true)) (br (!d) (br (a==0) (nn c λf=>lP f λg=>iH g (xB λh=>aM.j6 K a c (!h))) (aM.j6 K a c false)) (K (.b false)))
def aM.j7(K:VK)(a:OA):WK:=nn a λc=>lP (c.add 1) λd=>nn a λe=>st (e.add 2) (.p d) (K (.b true))
def aM(a:OA)(l:LV)(K:VK):WK:=mk l λc=>lI (ad c 0) λd=>br (d==0) (tick (nn a λm=>lP (m.add 1) λn=>lS (ad c 1) λo=>oQ n o (x3 λq r s=>(xS λi=>(xP λj=>(xB λe=>nn a λt=>lP t λu=>iH u (xB λf=>tick (nn a λv=>lP v λw=>lS (ad c 1) λx=>my w x (xS λk=>br e (aM.j3 K k e a j i f f) (aM.j3 K k e a j i f false))))) s) r) q))) (br (d==1) (nn a λy=>lP y λz=>iH z (xB λg=>nn a λA=>lP A λB=>pZ B (xI .i64 λh=>br g (aM.j5 K g h a (h==9)) (aM.j5 K g h a false)))) (br (d==2) (tick (nn a λC=>lP C λD=>lU (ad c 2) λE=>lI (ad c 3) λF=>lI (ad c 4) λG=>pz D E F G (xI .i64 λH=>br (H !=0) (K (.b false)) (nn a λI=>lP (I.add 2) λJ=>mK a J (xB λM=>br M (nn a λO=>lP (O.add 2) λP=>nn a λQ=>st (Q.add 1) (.p P) (aM.j7 K a)) (aM.j7 K a)))))) (br (d==3) (tick (nn a λR=>lP R λS=>lI (ad c 5) λT=>qH S T (x0 (K (.b true))))) (K (.b true)))))
end Go.Prog
namespace Go.Up
open Go.Sep Go.Den Go.RowKit Go.Prog Go.Md Go.cD
def okR(r:Int):Bool:=decide (0<=r/\r<=255)
def JU(e:Int)(res:List Int)(al:List bC)(tl:List cE):rC e res al tl=(res.all okR&&(al.all (λa=>decide (mG a))&&(tl.all (λt=>decide (j0 t))&&(decide (0<=e/\e<=255)&&decide (res.length<=16/\al.length<=16/\tl.length<=16))))):=by
 unfold rC okR;simp only[Bool.and_assoc]
instance{e:Int}{rb ab tb:OA}{rn rc an ac tn tc:Nat}:Wr (rD e rb rn rc ab an ac tb tn tc) 0 [.i 3,.l none 0 0,.l none 0 0,.l none 0 0] (rD 3 none 0 0 none 0 0 none 0 0):=⟨rfl,aG _,Em⟩
section
variable {W:World} {L R:LH} {K:VK} {X:WK} {e:Int} {res:List Int} {al:List bC} {tl:List cE} {rb ab tb:OA} {rc ac tc:Nat}
def H6{l:List Int}{s:OA}{i:Nat}{x:Int}{a:Addr}[hh:Has R L](hr:nK W R I1 1 s l)(hs:s=some a)(hx:l[i]?=some x)(h:T W L (K (.i x))):T W L (ld (a.add (i* 1)) K):=λw hw=>by
 obtain⟨a',ha,hh⟩:=hr w (hh.sub hw) i x hx;rw[hs] at ha;cases ha
 exact SK (hh 0 _ rfl) (h w hw)
def UW[hh:Has R L](h1:nK W R I1 1 rb res)(h2:nK W R aK 14 ab al)(h3:nK W R aL 16 tb tl)(l1:res.length<1000000)(l2:al.length<1000000)(l3:tl.length<1000000)(h:T W L (K (.b (rC e res al tl)))):
 T W L (pV (rD e rb res.length rc ab al.length ac tb tl.length tc) K):=by
 unfold pV;rw[JU] at h;apply ws;intros;rename_i r1;intro w jW;refine⟨λvv w=>∃i:Nat,i<=res.length/\(res.take i).all okR=true/\vv=[.p (some (ad r1 0)),.b false,.l rb res.length rc,.i (res.length:Int),.i (i:Int)]/\St W w (Sep.pt r1 (rD e rb res.length rc ab al.length ac tb tl.length tc)::L),
  λvs _=>match vs with|[_,_,_,_,.int _ d]=>res.length-d.toNat|_=>0,⟨0,aE _,rfl,rfl,jW⟩,?_⟩
 rintro a1 b1 qI oW re n1 n2 w2 ⟨i,hi,gh,e1,gX⟩;cases e1
 refine T.at ?_ gX;have e5:=nL i;apply fV<;>intro g1
 ·have cf:i<res.length:=by omega
  have gx:=aj cf;generalize res[i]=x at gx;refine iN h1 ⟨by omega,by omega⟩ rfl λa ha=>?_;rw[ao];refine H6 h1 ha gx ?_;refine pF ?_;have bad: ¬(0<=x/\x<=255)->T W (Sep.pt r1 (rD e rb res.length rc ab al.length ac tb tl.length tc)::L) (K (.b false)):=λhx=>by
   rw[all_false (P:=okR) gx (aq hx),fD] at h;exact T.dp h
  refine fV (λg2=>bad (by omega)) (λg2=>?_);refine fV (λg3=>bad (by omega)) (λg3=>?_);rw[e5];exact λw3 h3=>⟨⟨i+1,cf,by rw[qE gx gh];exact av (by omega),rfl,h3⟩,by show res.length-((i+1:Nat):Int).toNat<res.length-(i:Int).toNat;omega⟩
 have iM:i=res.length:=by omega
 subst iM;rw[aR] at gh;rw[gh,dV] at h;apply ws;intro w jW;refine⟨λvv w=>∃i:Nat,i<=al.length/\(al.take i).all (λa=>decide (mG a))=true/\vv=[.p (some (ad r1 0)),.b false,.l ab al.length ac,.i (al.length:Int),.i (i:Int)]/\St W w (Sep.pt r1 (rD e rb res.length rc ab al.length ac tb tl.length tc)::L),
  λvs _=>match vs with|[_,_,_,_,.int _ d]=>al.length-d.toNat|_=>0,⟨0,aE _,rfl,rfl,jW⟩,?_⟩
 rintro a1 b1 qI oW re n1 n2 w2 ⟨i,hi,gh,e1,gX⟩;cases e1
 refine T.at ?_ gX;have e5:=nL i;apply fV<;>intro g1
 ·have cf:i<al.length:=by omega
  have gx:=aj cf;generalize al[i]=x at gx;refine iN h2 ⟨by omega,by omega⟩ rfl λa ha=>?_;rw[ao];refine jH h2 ha gx rfl ?_
  repeat' first|apply ws;intros|apply wb|refine I5 ?_
  rw[e5];by_cases hg:mG x
  ·rw[av hg];apply ws;refine T.drop λw3 h3=>⟨⟨i+1,cf,by rw[qE gx gh];exact av hg,rfl,h3⟩,by show al.length-((i+1:Nat):Int).toNat<al.length-(i:Int).toNat;omega⟩
  ·rw[aq hg];apply ws;rw[all_false (P:=λa=>decide (mG a)) gx (aq hg),fD] at h;exact T.dp h
 have iM:i=al.length:=by omega
 subst iM;rw[aR] at gh;rw[gh,dV] at h;apply ws;intro w jW;refine⟨λvv w=>∃i:Nat,i<=tl.length/\(tl.take i).all (λa=>decide (j0 a))=true/\vv=[.p (some (ad r1 0)),.b false,.l tb tl.length tc,.i (tl.length:Int),.i (i:Int)]/\St W w (Sep.pt r1 (rD e rb res.length rc ab al.length ac tb tl.length tc)::L),
  λvs _=>match vs with|[_,_,_,_,.int _ d]=>tl.length-d.toNat|_=>0,⟨0,aE _,rfl,rfl,jW⟩,?_⟩
 rintro a1 b1 qI oW re n1 n2 w2 ⟨i,hi,gh,e1,gX⟩;cases e1
 refine T.at ?_ gX;have e5:=nL i;apply fV<;>intro g1
 ·have cf:i<tl.length:=by omega
  have gx:=aj cf;generalize tl[i]=x at gx;refine iN h3 ⟨by omega,by omega⟩ rfl λa ha=>?_;rw[ao];refine jH h3 ha gx rfl ?_
  repeat' first|apply ws;intros|apply wb|refine H' ?_
  rw[e5];by_cases hg:j0 x
  ·rw[av hg];apply ws;refine T.drop λw3 h3=>⟨⟨i+1,cf,by rw[qE gx gh];exact av hg,rfl,h3⟩,by show tl.length-((i+1:Nat):Int).toNat<tl.length-(i:Int).toNat;omega⟩
  ·rw[aq hg];apply ws;rw[all_false (P:=λa=>decide (j0 a)) gx (aq hg),fD] at h;exact T.dp h
 have iM:i=tl.length:=by omega
 subst iM;rw[aR] at gh;rw[gh,dV] at h;apply ws;have j1:∀b:Bool,b=decide (0<=e/\e<=255)->T W (Sep.pt r1 (rD e rb res.length rc ab al.length ac tb tl.length tc)::L) (pV.j1 K (ad r1 0) b):=λb hb=>by
  unfold pV.j1;rw[<-hb] at h;cases b with
  |false=>rw[fD] at h;apply ws;exact T.dp h
  |true=>
   rw[dV] at h;apply ws;refine T.fin (T.dp h) ?_
   congr 1
   rw[decide_eq_decide];unfold max2;split<;>split<;>omega
 apply fV<;>intro g2
 ·apply ws;exact j1 _ (by rw[decide_eq_decide];omega)
 ·exact j1 _ (aq (by omega)).symm
def NM[hh:Has R L]{r1:Nat}(h1:nK W R I1 1 rb res)(h2:nK W R aK 14 ab al)(h3:nK W R aL 16 tb tl)(hf:rC e res al tl=true)(h:T W L (K (.s (bs (En e res al tl))))):
 T W (Sep.pt r1 (rD e rb res.length rc ab al.length ac tb tl.length tc)::L) (kr.j1 K r1):=by
 obtain⟨f1,f2,f3,f4,f5,f6,f7⟩:=AH hf;unfold kr.j1;apply ws;intros;rename_i r2;refine Mf ?_
 repeat' first|apply ws|apply wb|refine rS (by simp[aO]) ?_
 intro w jW;refine⟨λvv w=>∃i:Nat,i<=res.length/\vv=[.p (some (ad r1 0)),.s .empty,.p (some (ad r2 0)),.l rb res.length rc,.i (res.length:Int),.i (i:Int)]/\St W w (buf r2 (le .i64 1 e++le .i64 1 (res.length:Int)++(res.take i).flatMap λr=>le .i64 1 r)::Sep.pt r1 (rD e rb res.length rc ab al.length ac tb tl.length tc)::L),
  λvs _=>match vs with|[_,_,_,_,_,.int _ d]=>res.length-d.toNat|_=>0,⟨0,aE _,rfl,by simpa using jW⟩,?_⟩
 rintro a1 s1 a2 ta qQ sO n2 n3 w2 ⟨i,hi,e1,gX⟩;cases e1
 refine T.at ?_ gX;have e5:=nL i;have hlen:(le .i64 1 e++le .i64 1 (res.length:Int)++(res.take i).flatMap λr=>le .i64 1 r).length<=18:=by
  rw[au,au,dU (e:=1) (λr=>aO _ _ _),aD,aO,aO];omega
 apply fV<;>intro g1
 ·have cf:i<res.length:=by omega
  have gx:=aj cf;generalize res[i]=x at gx;refine iN h1 ⟨by omega,by omega⟩ rfl λa ha=>?_;rw[ao];refine H6 h1 ha gx ?_;refine pF ?_;refine rS (by omega) (Bt ?_);rw[e5];refine λw3 h3=>⟨⟨i+1,cf,rfl,?_⟩,by show res.length-((i+1:Nat):Int).toNat<res.length-(i:Int).toNat;omega⟩;rw[a8,gx,fQ];simpa [aH] using h3
 have iM:i=res.length:=by omega
 subst iM;rw[aR] at hlen⊢;have k2:(al.flatMap jl).length=al.length* 96:=dU oq al;apply ws;refine abc (R:=R) h2 f2 (by omega) (by omega) ?_;apply ws;refine aba (R:=R) h3 f3 (by omega) (by rw[au,au,k2,aO];omega) ?_
 repeat' first|apply ws|apply wb|refine sF ?_
 unfold En at h;simp only[aH];exact T.dp h
def Ju[hh:Has R L](h1:nK W R I1 1 rb res)(h2:nK W R aK 14 ab al)(h3:nK W R aL 16 tb tl)(l1:res.length<1000000)(l2:al.length<1000000)(l3:tl.length<1000000)(h:T W L (K (.s (bs (su e res al tl))))):
 T W L (kr (rD e rb res.length rc ab al.length ac tb tl.length tc) K):=by
 unfold kr
 repeat' first|apply ws;intros|apply wb|refine UW h1 h2 h3 l1 l2 l3 ?_
 rename_i r1;unfold su at h;cases hf:rC e res al tl with
 |true=>
  rw[ai hf] at h;apply ws;exact NM h1 h2 h3 hf h
 |false=>
  rw[ag (by rw[hf];decide)] at h;apply ws;exact NM (R:=L) (rb:=none) (ab:=none) (tb:=none) (res:=[]) (al:=[]) (tl:=[]) nK.nil nK.nil nK.nil (by decide) h
def Rn(h:T W L (K (.s (bs (su e [] [] []))))):T W L (kr [.i e,.l none 0 0,.l none 0 0,.l none 0 0] K):=
 Ju (R:=L) (rb:=none) (ab:=none) (tb:=none) (rc:=0) (ac:=0) (tc:=0) (res:=[]) (al:=[]) (tl:=[]) nK.nil nK.nil nK.nil (by decide) (by decide) (by decide) h
end
structure Rm(n g:Nat)(S:VS):Prop where
 calm:Sep.Calm n S.D
 ends:∀j:Nat,j<n->Sep.Ends g (S.D.read (j:Int)).1
 lo:S.J.lo=((2+2* dv n:Nat):Int)
 hi:S.J.hi=(n:Int)
 Lr:S.J.lo<=S.J.at'
 Rf:S.J.at'<=S.J.hi
 seq:0<=S.J.seq/\S.J.seq<=1000000
 js:S.J.dK=false
 dK:S.dK=false
 bA:0<=S.bA/\S.bA<=g
def Ks{n a t g:Nat}{D:aX}{number:Int}{s:BA}(hc:Sep.Calm n D)(he:∀j:Nat,j<n->Sep.Ends g (D.read (j:Int)).1)(cQ:n<=4096)(h1:1<=number)(h2:number<=g+1)(hg:g+1<256)(hl:a+gj s.size<=t)(ZV:t<=n):
 (eO D (a:Nat) (t:Nat) number s).2=0/\Sep.Calm n (eO D (a:Nat) (t:Nat) number s).1/\∀j:Nat,j<n->Sep.Ends (g+1) ((eO D (a:Nat) (t:Nat) number s).1.read (j:Int)).1:=by
 obtain⟨f1,f2,f3,f4⟩:=Oo (a:=a) (t:=t) (number:=number) (s:=s) hc cQ ⟨h1,by omega⟩ hl ZV;refine⟨f1,f2,λj hj=>?_⟩;by_cases CC:a<=j/\j<a+gj s.size
 ·obtain⟨q,rfl⟩:∃q,j=a+q:=⟨j-a,by omega⟩;have:=f3 q (by omega);rw[show((a+q:Nat):Int)=(a:Int)+q from by omega,this];obtain⟨m,rfl⟩:=bm (show 0<=number by omega);have zW:Sep.fk m (q:Int) (Sep.part s q):=⟨h1,by omega,by omega,by omega,by
   unfold Sep.part;rw[ByteArray.size_extract];omega⟩
  exact(B0 zW).mono (by omega)
 ·rw[f4 j hj (by omega)];exact(he j hj).mono (by omega)
def L7{n g:Nat}{m:aA}{S:VS}(h:Rm n g S)(cQ:n<=4096)(ny:12<=n)(hg:g+2<256)(BV:gj (cI (bo m)).length<=dv n)(hlen:(cI (bo m)).length<=425984):
 (fO n m S).2=0/\Rm n (g+2) (fO n m S).1/\(fO n m S).1.J.at'=S.J.lo/\(fO n m S).1.J.lo=S.J.lo/\(fO n m S).1.J.seq=S.J.seq/\(fO n m S).1.bA=S.bA+1:=by
 have rr:=yX (by omega) n h.ends;have hgi:=(xk S.D n).1;have CC:=pe ny (S.bA+1);have ht:=h.bA;have Ky:=h.seq;obtain⟨p1,p2,p3⟩:=Ks (a:=eS n (S.bA+1)) (t:=eS n (S.bA+1)+dv n) (g:=g) (number:=eV S.D n+1) (s:=bs (cI (bo m))) h.calm h.ends cQ (by omega) (by omega) (by omega) (by rw[bY];omega) CC.2.1;have KJ:=vJ (S.bA+1);obtain⟨lw,hlw⟩:∃lw:Nat,low (S.bA+1)=(lw:Int)/\lw<2:=by
  rcases KJ with hh|hh
  ·exact⟨0,hh,by decide⟩
  ·exact⟨1,hh,by decide⟩
 have hH:nt ⟨S.bA+1,eV S.D n+1,((cI (bo m)).length:Int),S.J.seq⟩:=by
  unfold nt;dsimp only;omega
 have hhl:(jS ⟨S.bA+1,eV S.D n+1,((cI (bo m)).length:Int),S.J.seq⟩).length=32:=by simp only[jS,au,aO]
 have zq:=h.calm.len;have cp:∀D1:aX,Sep.Calm n D1->(∀j:Nat,j<n->Sep.Ends (g+1) (D1.read (j:Int)).1)->(tH D1 (eV S.D n+2) ⟨S.bA+1,eV S.D n+1,((cI (bo m)).length:Int),S.J.seq⟩).2=0/\Sep.Calm n (tH D1 (eV S.D n+2) ⟨S.bA+1,eV S.D n+1,((cI (bo m)).length:Int),S.J.seq⟩).1/\
  ∀j:Nat,j<n->Sep.Ends (g+2) ((tH D1 (eV S.D n+2) ⟨S.bA+1,eV S.D n+1,((cI (bo m)).length:Int),S.J.seq⟩).1.read (j:Int)).1:=by
  intro D1 c1 e1;have:=Ks (a:=lw) (t:=lw+1) (g:=g+1) (number:=eV S.D n+2) (s:=bs (jS ⟨S.bA+1,eV S.D n+1,((cI (bo m)).length:Int),S.J.seq⟩)) c1 e1 cQ (by omega) (by omega) (by omega) (by rw[bY,hhl];show lw+1<=lw+1;omega) (by omega);have e:tH D1 (eV S.D n+2) ⟨S.bA+1,eV S.D n+1,((cI (bo m)).length:Int),S.J.seq⟩=eO D1 ((lw:Nat):Int) ((lw+1:Nat):Int) (eV S.D n+2) (bs (jS ⟨S.bA+1,eV S.D n+1,((cI (bo m)).length:Int),S.J.seq⟩)):=by
   unfold tH eO;rw[ai hH];dsimp only;rw[hlw.1]
   rfl
  rw[e];exact this
 unfold fO;rw[zq,ag (by rw[h.dK];decide),ag (λhh=>hh BV),ag (by rw[zO];exact λhh=>hh p1)];obtain⟨c1,c2,c3⟩:=cp (put S.D n (S.bA+1) (eV S.D n+1) (bs (cI (bo m)))).1 p2 p3;rw[ag (λhh=>hh c1)];refine⟨rfl,⟨c2,c3,h.lo,h.hi,sH _,?_,h.seq,h.js,h.dK,?_⟩,rfl,rfl,rfl,rfl⟩
 ·have:=h.Lr;have:=h.Rf;show S.J.lo<=S.J.hi;omega
 ·show 0<=S.bA+1/\S.bA+1<=((g+2:Nat):Int);omega
def Rm.xJ{n g:Nat}{S:VS}(h:Rm n g S):S.J.Ok S.D:=by
 have h2:=h.lo;have h5:=h.seq;have h7:=h.hi;exact⟨by omega,h.Lr,h.Rf,by rw[h.calm.len];omega,by omega⟩
def DT{n g:Nat}{S:VS}{s:BA}(h:Rm n g S)(cQ:n<=4096)(hg:g+1<256)(Ky:S.J.seq<1000000)(hr:room S.J s.size):
 (oy S s).2=0/\Rm n (g+1) (oy S s).1/\(oy S s).1.J.at'=S.J.at'+(gj (12+s.size):Int)/\(oy S s).1.J.lo=S.J.lo/\(oy S s).1.J.seq=S.J.seq+1/\(oy S s).1.bA=S.bA:=by
 have rr:=yX (by omega) n h.ends;have hgi:=(xk S.D n).1;have Bn:=h.lo;have Bp:=h.Lr;obtain⟨D',e1,e2,e3,e4,e5,e6,e7⟩:=TX (n:=n) (number:=eV S.D n+1) (s:=s) h.calm cQ h.xJ h.js (by omega) (by omega) hr;unfold oy;rw[h.calm.len,e1];have rj:∀j:Nat,j<n->Sep.Ends (g+1) (D'.read (j:Int)).1:=λj hj=>by
  by_cases CC:S.J.at'<=j/\(j:Int)<S.J.at'+(gj (12+s.size):Int)
  ·obtain⟨q,hq⟩:=bm (show 0<=(j:Int) -S.J.at' by omega);have:=e5 q (by omega);rw[show(j:Int)=S.J.at'+(q:Int) from by omega,this];obtain⟨m,hm⟩:=bm (show 0<=eV S.D n+1 by omega);rw[hm];have zW:Sep.fk m (q:Int) (Sep.part (bs (df (S.J.seq+1) s)) q):=⟨by omega,by omega,by omega,by omega,by
    unfold Sep.part;rw[ByteArray.size_extract];omega⟩
   exact(B0 zW).mono (by omega)
  ·rw[e6 j (by omega) (by omega) (by omega)];exact(h.ends j hj).mono (by omega)
 have Wc:=h.dK;have htu:=h.bA;have ahl:=h.seq;refine⟨rfl,⟨e2,rj,h.lo,h.hi,e4.Lr,e4.Rf,⟨?_,?_⟩,h.js,?_,?_⟩,rfl,rfl,rfl,rfl⟩
 ·show 0<=S.J.seq+1;omega
 ·show S.J.seq+1<=1000000;omega
 ·show(S.dK||_)=false;rw[Wc];rfl
 ·show 0<=S.bA/\S.bA<=((g+1:Nat):Int);omega
def Pn{n g:Nat}{m:aA}{S:VS}{s:BA}(h:Rm n g S)(cQ:n<=4096)(ny:12<=n)(hg:g+3<256)(BV:gj (cI (bo m)).length<=dv n)(hlen:(cI (bo m)).length<=425984)(Ky:S.J.seq<1000000)(hs:s.size<=32768)(hj:(gj (12+s.size):Int)<=S.J.hi-S.J.lo):
 (iJ n m S s).2=0/\(iJ n m S s).1.J.lo=S.J.lo/\(iJ n m S s).1.J.seq=S.J.seq+1/\
  ((Rm n (g+1) (iJ n m S s).1/\(iJ n m S s).1.J.at'=S.J.at'+(gj (12+s.size):Int))\/
   (Rm n (g+3) (iJ n m S s).1/\(iJ n m S s).1.J.at'=S.J.lo+(gj (12+s.size):Int)/\S.J.hi<S.J.at'+(gj (12+s.size):Int))):=by
 unfold iJ;by_cases hr:room S.J s.size
 ·rw[ai hr];obtain⟨a1,a2,a3,a4,a5,a6⟩:=DT h cQ (by omega) Ky hr;exact⟨a1,a4,a5,.inl ⟨a2,a3⟩⟩
 ·rw[ag hr];obtain⟨b1,b2,b3,b4,b5,b6⟩:=L7 h cQ ny (by omega) BV hlen;have Am:(fO n m S).1.J.hi=S.J.hi:=by rw[b2.hi,h.hi]
  have UF:room (fO n m S).1.J s.size:=by
   refine⟨by omega,by omega,?_⟩;rw[ao,Am,b3];exact hj
  obtain⟨a1,a2,a3,a4,a5,a6⟩:=DT b2 cQ (by omega) (by omega) UF;rw[ag (λhh=>hh b1)];refine⟨a1,by rw[a4,b4],by rw[a5,b5],.inr ⟨a2,by rw[a3,b3],?_⟩⟩;unfold room at hr;rw[ao] at hr;omega
def BC{q:jF}(hw:kz q=true)(he:fY q=true):(dI q).length<=924:=by
 have Wl:q.op=1\/q.op=2\/q.op=3:=aQ he;have hf:=m8 hw;unfold dI;rw[au,aO];split
 ·rw[au,aO,dU oq];omega
 ·split
  ·rw[au,aO,dU pg];omega
  ·split
   ·rw[aO];omega
   ·omega
def Rm.mono{n g g':Nat}{S:VS}(h:Rm n g S)(hg:g<=g'):Rm n g' S:=
 ⟨h.calm,λj hj=>(h.ends j hj).mono hg,h.lo,h.hi,h.Lr,h.Rf,h.seq,h.js,h.dK,⟨h.bA.1,by have:=h.bA.2;omega⟩⟩
def O5{k:Nat}(h:k<=936):gj k<=9:=by unfold gj;split<;>omega
def B3{n k:Nat}(hn:600<=n)(h:k<=23925):gj k<=dv n:=by unfold gj dv;split<;>omega
def yl{b:aY}(hg:fk b):(cI b).length<=23925:=by
 have:=hg.ou;have:=hg.many;rw[wM hg];omega
section
variable {W:World} {L R:LH} {K:VK} {X:WK} {a:bC} {t:cE} {q:jF} {s:vx}
def G6(h:T W L (K (.b (decide (mG a))))):T W L (cY (aK a) K):=by
 unfold cY cY.j1 cY.j2 cY.j3
 repeat' first|apply ws;intros|apply wb|apply dh<;>intro h1
 all_goals (refine T.fin (T.dp h) ?_;congr 1;(rw[bV];(try simp only[bz,false_iff,true_iff] at *)<;>(try simp only[mG,bh] at *)<;>omega))
def G5(h:T W L (K (.b (decide (j0 t))))):T W L (bT (aL t) K):=by
 unfold bT bT.j1 bT.j2 bT.j3 bT.j4 bT.j5
 repeat' first|apply ws;intros|apply wb|apply dh<;>intro h1
 all_goals (refine T.fin (T.dp h) ?_;congr 1;(rw[bV];(try simp only[bz,false_iff,true_iff] at *)<;>(try simp only[j0,bh] at *)<;>omega))
def Cr(h:T W L (K (.b (fY q)))):T W L (kq (gB q s) K):=by
 unfold kq;unfold fY at h
 repeat' first|apply ws;intros|apply wb|apply dh<;>intro h1
 ·have h1:=aQ h1;refine T.fin (T.dp h) ?_;congr 1;rw[decide_eq_decide];omega
 ·have h1:=bj h1;rw[aq (by omega)] at h;exact T.dp h
def G3(h:T W L (K (.b (k8 q)))):T W L (dP (gB q s) K):=by
 unfold dP dP.j1 dP.j2;apply ws;intros;apply dh<;>intro g1
 ·have g1:q.op=1:=by simpa using g1
  unfold k8 at h;rw[ai g1] at h;apply ws;apply fV<;>intro g2
  ·rw[av (by omega),dV] at h;apply ws;refine T.fin (T.dp h) ?_;congr 1;rw[decide_eq_decide];omega
  ·rw[aq (by omega),fD] at h;exact T.dp h
 have g1: ¬q.op=1:=by simpa using g1
 apply ws;apply dh<;>intro g2
 ·have g2:q.op=2:=by simpa using g2
  unfold k8 at h;rw[ag g1,ai g2] at h;apply ws;apply fV<;>intro g2
  ·rw[av (by omega),dV] at h;apply ws;refine T.fin (T.dp h) ?_;congr 1;rw[decide_eq_decide];omega
  ·rw[aq (by omega),fD] at h;exact T.dp h
 have g2: ¬q.op=2:=by simpa using g2
 unfold k8 at h;rw[ag g1,ag g2] at h;apply ws;apply dh<;>intro g3
 ·have g3:q.op=3:=by simpa using g3
  rw[ai g3] at h;apply ws;apply fV<;>intro g2
  ·rw[av (by omega),dV] at h;apply ws;exact T.dp h
  ·rw[aq (by omega),fD] at h;exact T.dp h
 have g3: ¬q.op=3:=by simpa using g3
 rw[ag g3] at h;exact T.dp h
def G2(h:T W L (K (.b (o9 q)))):T W L (bg (gB q s) K):=by
 have main:∀(r1:Nat)(b1:Bool),b1=decide (q.op=4\/q.op=5)->T W (Sep.pt r1 (gB q s)::L) (bg.j1 K r1 b1):=λr1 b1 hb=>by
  unfold bg.j1 bg.j2;unfold o9 at h;by_cases WD:q.op=4\/q.op=5
  ·rw[ai WD] at h;rw[av WD] at hb;subst hb;apply ws;apply fV<;>intro g2
   ·rw[av (by omega),dV] at h;apply ws;refine T.fin (T.dp h) ?_;congr 1;rw[decide_eq_decide];omega
   ·rw[aq (by omega),fD] at h;exact T.dp h
  ·rw[ag WD] at h;rw[aq WD] at hb;subst hb;rw[dY];apply ws;intros;rename_i r2;have j6:∀b:Bool,b=decide (q.op=6/\0<=q.jT/\0<=q.xm/\1<=q.kE/\q.kE<=16)->T W (Sep.pt r2 (pH q)::Sep.pt r1 (gB q s)::L) (bg.j6 K r2 b):=λb hb=>by
    unfold bg.j6;cases b with
    |true=>
     have hc:=aQ hb.symm;rw[ai hc.1,av hc.2,dV] at h;apply ws;cases hd:q.wu with
     |true=>
      rw[hd] at h;apply ws;exact T.dp h
     |false=>
      rw[hd,Bool.false_or] at h;apply ws;exact T.dp h
    |false=>
     have hc:=bj hb.symm;apply ws;by_cases g6:q.op=6
     ·rw[ai g6,aq (λhh=>hc ⟨g6,hh⟩),fD] at h;exact T.dp h
     ·rw[ag g6] at h;exact T.dp h
   have j5:∀b:Bool,b=decide (q.op=6/\0<=q.jT/\0<=q.xm/\1<=q.kE)->T W (Sep.pt r2 (pH q)::Sep.pt r1 (gB q s)::L) (bg.j5 K r2 b):=λb hb=>by
    unfold bg.j5;cases b with
    |true=>
     apply ws;refine j6 _ ?_;have:=aQ hb.symm;rw[decide_eq_decide];omega
    |false=>
     apply ws;refine j6 _ ?_;have:=bj hb.symm;exact(aq (by omega)).symm
   have j4:∀b:Bool,b=decide (q.op=6/\0<=q.jT/\0<=q.xm)->T W (Sep.pt r2 (pH q)::Sep.pt r1 (gB q s)::L) (bg.j4 K r2 b):=λb hb=>by
    unfold bg.j4;cases b with
    |true=>
     apply ws;refine j5 _ ?_;have:=aQ hb.symm;rw[decide_eq_decide];omega
    |false=>
     apply ws;refine j5 _ ?_;have:=bj hb.symm;exact(aq (by omega)).symm
   have j3:∀b:Bool,b=decide (q.op=6/\0<=q.jT)->T W (Sep.pt r2 (pH q)::Sep.pt r1 (gB q s)::L) (bg.j3 K r2 b):=λb hb=>by
    unfold bg.j3;cases b with
    |true=>
     apply ws;refine j4 _ ?_;have:=aQ hb.symm;rw[decide_eq_decide];omega
    |false=>
     apply ws;refine j4 _ ?_;have:=bj hb.symm;exact(aq (by omega)).symm
   apply dh<;>intro g6
   ·have g6:q.op=6:=by simpa using g6
    apply ws;refine j3 _ ?_;rw[decide_eq_decide];omega
   ·have g6: ¬q.op=6:=by simpa using g6
    refine j3 _ ?_;exact(aq (by omega)).symm
 unfold bg;apply ws;intros;apply dh<;>intro g1
 ·have g1':q.op=4:=by simpa using g1
  exact main _ _ (av (.inl g1')).symm
 ·have g1': ¬q.op=4:=by simpa using g1
  apply ws;exact main _ _ (by rw[bV];simp[g1'])
def xd(q:jF):ph q=((q.aB.all λx=> !decide (q.op=1)||decide (mG x))&&(q.cm.all λx=> !decide (q.op=2)||decide (j0 x))):=by
 unfold ph;by_cases h1:q.op=1
 ·rw[ai h1];have h2: ¬q.op=2:=by omega
  simp[h1]
 ·rw[ag h1];by_cases h2:q.op=2
  ·rw[ai h2];simp[h2]
  ·rw[ag h2];simp[h1,h2]
def Es[hh:Has R L](hq:pC W R q s)(CB:q.aB.length<1000000)(cf:q.cm.length<1000000){r1:Nat}{b1:Bool}(h:T W (Sep.pt r1 (gB q s)::L) (K (.b (!b1&&ph q)))):T W (Sep.pt r1 (gB q s)::L) (gF.j1 K r1 b1):=by
 unfold gF.j1;cases b1 with
 |true=>rw[kG];exact h
 |false=>
  rw[NI,dV] at h;rw[dY];apply ws;intro w jW;refine⟨λvv w=>∃i:Nat,i<=q.aB.length/\(q.aB.take i).all (λx=> !decide (q.op=1)||decide (mG x))=true/\vv=[.p (ah r1),.b false,.l s.sa q.aB.length s.ca,.i (q.aB.length:Int),.i (i:Int)]/\St W w (Sep.pt r1 (gB q s)::L),
   λvs _=>match vs with|[_,_,_,_,.int _ d]=>q.aB.length-d.toNat|_=>0,⟨0,aE _,rfl,rfl,jW⟩,?_⟩
  rintro a1 b2 qI oW re n2 n3 w2 ⟨i,hi,gh,e,gX⟩;cases e
  refine T.at ?_ gX;have e5:=nL i;apply fV<;>intro g1
  ·have cf:i<q.aB.length:=by omega
   have gx:=aj cf;generalize q.aB[i]=x at gx;refine iN hq.aB ⟨by omega,by omega⟩ rfl λa ha=>?_;rw[ao];refine jH hq.aB ha gx rfl ?_;apply ws;intros;rw[e5];have step:(!decide (q.op=1)||decide (mG x))=true->T W (Sep.pt r1 (gB q s)::L) (λw=>(∃j:Nat,j<=q.aB.length/\(q.aB.take j).all (λx=> !decide (q.op=1)||decide (mG x))=true/\[.p (ah r1),.b false,.l s.sa q.aB.length s.ca,.i (q.aB.length:Int),.i ((i+1:Nat):Int)]=[.p (ah r1),.b false,.l s.sa q.aB.length s.ca,.i (q.aB.length:Int),Value.int .i64 (j:Int)]/\St W w (Sep.pt r1 (gB q s)::L))/\q.aB.length-((i+1:Nat):Int).toNat<q.aB.length-(i:Int).toNat):=λhp w3 h3=>⟨⟨i+1,cf,by rw[qE gx gh];exact hp,rfl,h3⟩,by omega⟩;apply dh<;>intro g2
   ·have g2:q.op=1:=by simpa using g2
    repeat' first|apply ws|apply wb|refine G6 ?_
    by_cases hg:mG x
    ·rw[av hg];apply ws;refine T.drop ?_;exact step (by rw[av hg,Bool.or_true])
    ·rw[aq hg];apply ws;rw[xd,all_false (P:=λx=> !decide (q.op=1)||decide (mG x)) gx (by rw[aq hg,av g2];rfl)] at h;rw[fD] at h;exact T.drop h
   ·have g2: ¬q.op=1:=by simpa using g2
    refine T.drop ?_;exact step (by rw[aq g2];rfl)
  ·have iM:i=q.aB.length:=by omega
   subst iM;rw[aR] at gh;have acs:=gh;apply ws;intro w jW;refine⟨λvv w=>∃i:Nat,i<=q.cm.length/\(q.cm.take i).all (λx=> !decide (q.op=2)||decide (j0 x))=true/\vv=[.p (ah r1),.b false,.l s.st q.cm.length s.ct,.i (q.cm.length:Int),.i (i:Int)]/\St W w (Sep.pt r1 (gB q s)::L),
    λvs _=>match vs with|[_,_,_,_,.int _ d]=>q.cm.length-d.toNat|_=>0,⟨0,aE _,rfl,rfl,jW⟩,?_⟩
   rintro a1 b2 qI oW re n2 n3 w2 ⟨i,hi,gh,e,gX⟩;cases e
   refine T.at ?_ gX;have e5:=nL i;apply fV<;>intro g1
   ·have cf:i<q.cm.length:=by omega
    have gx:=aj cf;generalize q.cm[i]=x at gx;refine iN hq.cm ⟨by omega,by omega⟩ rfl λa ha=>?_;rw[ao];refine jH hq.cm ha gx rfl ?_;apply ws;intros;rw[e5];have step:(!decide (q.op=2)||decide (j0 x))=true->T W (Sep.pt r1 (gB q s)::L) (λw=>(∃j:Nat,j<=q.cm.length/\(q.cm.take j).all (λx=> !decide (q.op=2)||decide (j0 x))=true/\[.p (ah r1),.b false,.l s.st q.cm.length s.ct,.i (q.cm.length:Int),.i ((i+1:Nat):Int)]=[.p (ah r1),.b false,.l s.st q.cm.length s.ct,.i (q.cm.length:Int),Value.int .i64 (j:Int)]/\St W w (Sep.pt r1 (gB q s)::L))/\q.cm.length-((i+1:Nat):Int).toNat<q.cm.length-(i:Int).toNat):=λhp w3 h3=>⟨⟨i+1,cf,by rw[qE gx gh];exact hp,rfl,h3⟩,by omega⟩;apply dh<;>intro g2
    ·have g2:q.op=2:=by simpa using g2
     repeat' first|apply ws|apply wb|refine G5 ?_
     by_cases hg:j0 x
     ·rw[av hg];apply ws;refine T.drop ?_;exact step (by rw[av hg,Bool.or_true])
     ·rw[aq hg];apply ws;rw[xd,all_false (P:=λx=> !decide (q.op=2)||decide (j0 x)) gx (by rw[aq hg,av g2];rfl)] at h;rw[Bool.and_false] at h;exact T.drop h
    ·have g2: ¬q.op=2:=by simpa using g2
     refine T.drop ?_;exact step (by rw[aq g2];rfl)
   ·have iM:i=q.cm.length:=by omega
    subst iM;rw[aR] at gh;rw[xd,acs,gh] at h;exact h
def PO[hh:Has R L](hq:pC W R q s)(CB:q.aB.length<1000000)(cf:q.cm.length<1000000)(h:T W L (K (.b (kz q)))):T W L (gF (gB q s) K):=by
 unfold gF
 repeat' first|apply ws;intros|apply wb|refine G3 ?_
 unfold kz at h;cases he:k8 q with
 |true=>
  rw[he,Bool.true_or] at h;apply ws;exact Es hq CB cf (T.drop h)
 |false=>
  rw[he,Bool.false_or] at h
  repeat' first|apply ws|apply wb|refine G2 ?_
  refine Es hq CB cf (T.drop ?_);rw[Bool.not_not];exact h
end
def FX(m:aA)(mb:OA)(mc:Nat)(kb:OA)(kc:Nat):LV:=[.l mb m.cy.length mc,.l kb m.ax.length kc,.i m.clock,.i m.ay]
instance{m:aA}{mb kb:OA}{mc kc:Nat}:Gt (FX m mb mc kb kc) 0 (.l mb m.cy.length mc):=⟨rfl⟩
instance{m:aA}{mb kb:OA}{mc kc:Nat}:Gt (FX m mb mc kb kc) 1 (.l kb m.ax.length kc):=⟨rfl⟩
instance{m:aA}{mb kb:OA}{mc kc:Nat}:Gt (FX m mb mc kb kc) 2 (.i m.clock):=⟨rfl⟩
instance{m:aA}{mb kb:OA}{mc kc:Nat}:Gt (FX m mb mc kb kc) 3 (.i m.ay):=⟨rfl⟩
abbrev ML(p:Nat)(m:aA)(mb:OA)(mc:Nat)(kb:OA)(kc:Nat)(R:LH):LH:=Sep.pt p (FX m mb mc kb kc)::own mb m.cy.length mc 14 (m.cy.flatMap aK)::own kb m.ax.length kc 33 (m.ax.flatMap bG)::R
def EZ{α:Type}(P:α->Bool)(l:List α):Int:=match l.findIdx? P with|some i=>(i:Int)|none=> -1
def Hm{α:Type}{P:α->Bool}{l:List α}(h:∀x∈l,P x=false):EZ P l= -1:=by
 unfold EZ;rw[List.findIdx?_eq_none_iff.2 h]
def Hl{α:Type}{P:α->Bool}{l:List α}{i:Nat}{x:α}(hx:l[i]?=some x)(hp:P x=true)(h:∀y∈l.take i,P y=false):EZ P l=(i:Int):=by
 unfold EZ;obtain⟨hi,he⟩:=aw.1 hx;rw[(List.findIdx?_eq_some_iff_getElem (xs:=l) (p:=P)).2 ⟨hi,by rw[he];exact hp,λj hj=>by
  have SX:j<l.length:=Nat.lt_trans hj hi
  have:=h (l[j]) (List.mem_take_iff_getElem.2 ⟨j,by omega,rfl⟩)
  rw[this];exact cG⟩]
def GK{α:Type}{P:α->Bool}{l:List α}{i:Nat}{x:α}(hx:l[i]?=some x)(hp:P x=false)(h:∀y∈l.take i,P y=false):∀y∈l.take (i+1),P y=false:=λy hy=>by
 rw[a8,hx,dF] at hy;rcases hy with hy|hy
 ·exact h y hy
 ·cases(show y=x by simpa using hy);exact hp
section
variable {W:World} {L R:LH} {K:VK} {X:WK} {p:Nat} {m:aA} {mb kb:OA} {mc kc:Nat} {a:bC} {t:cE}
def wS(hm:m.cy.length<1000000){id:Nat}(h:T W (ML p m mb mc kb kc R) (K (.i (EZ (λx:bC=>decide (x.id=id)) m.cy)))):T W (ML p m mb mc kb kc R) (fj (ah p) (nm id) K):=by
 unfold fj;apply ws;intros;rename_i r1;intro w jW;refine⟨λvv w=>∃i:Nat,i<=m.cy.length/\(∀x∈m.cy.take i,decide (x.id=id)=false)/\vv=[.p (some (ad r1 0)),.i 0,.l mb m.cy.length mc,.i (m.cy.length:Int),.i (i:Int)]/\St W w (Sep.pt r1 (nm id)::ML p m mb mc kb kc R),
  λvs _=>match vs with|[_,_,_,_,.int _ d]=>m.cy.length-d.toNat|_=>0,⟨0,aE _,(λx hx=>by cases hx),rfl,jW⟩,?_⟩
 rintro a2 n1 qI oW re n2 n3 w2 ⟨i,hi,gh,e,gX⟩;cases e
 refine T.at ?_ gX;have e5:=nL i;apply fV<;>intro g1
 ·have cf:i<m.cy.length:=by omega
  have gx:=aj cf;generalize m.cy[i]=x at gx;refine dM (b:=mb) ⟨by omega,by omega⟩ λrb hb=>?_;rw[ao];subst hb;refine gI jx gx ?_;apply ws;intros;rw[e5];apply dh<;>intro g2
  ·rw[Hl gx g2 gh] at h;exact T.dp h
  ·refine T.drop λw3 h3=>⟨⟨i+1,cf,GK gx g2 gh,rfl,h3⟩,by show m.cy.length-((i+1:Nat):Int).toNat<m.cy.length-(i:Int).toNat;omega⟩
 ·have iM:i=m.cy.length:=by omega
  subst iM;rw[aR] at gh;rw[Hm gh] at h;exact T.dp h
def Io(hm:m.ax.length<1000000){id:Nat}(h:T W (ML p m mb mc kb kc R) (K (.i (EZ (λx:bW=>decide (x.move.id=id)) m.ax)))):T W (ML p m mb mc kb kc R) (gS (ah p) (nm id) K):=by
 unfold gS;apply ws;intros;rename_i r1;intro w jW;refine⟨λvv w=>∃i:Nat,i<=m.ax.length/\(∀x∈m.ax.take i,decide (x.move.id=id)=false)/\vv=[.p (some (ad r1 0)),.i 0,.l kb m.ax.length kc,.i (m.ax.length:Int),.i (i:Int)]/\St W w (Sep.pt r1 (nm id)::ML p m mb mc kb kc R),
  λvs _=>match vs with|[_,_,_,_,.int _ d]=>m.ax.length-d.toNat|_=>0,⟨0,aE _,(λx hx=>by cases hx),rfl,jW⟩,?_⟩
 rintro a2 n1 qI oW re n2 n3 w2 ⟨i,hi,gh,e,gX⟩;cases e
 refine T.at ?_ gX;have e5:=nL i;apply fV<;>intro g1
 ·have cf:i<m.ax.length:=by omega
  have gx:=aj cf;generalize m.ax[i]=x at gx;refine dM (b:=kb) ⟨by omega,by omega⟩ λrb hb=>?_;rw[ao];subst hb;refine gI je gx ?_;apply ws;intros;rw[e5];apply dh<;>intro g2
  ·rw[Hl gx g2 gh] at h;exact T.dp h
  ·refine T.drop λw3 h3=>⟨⟨i+1,cf,GK gx g2 gh,rfl,h3⟩,by show m.ax.length-((i+1:Nat):Int).toNat<m.ax.length-(i:Int).toNat;omega⟩
 ·have iM:i=m.ax.length:=by omega
  subst iM;rw[aR] at gh;rw[Hm gh] at h;exact T.dp h
end
def vf{α:Type}(f:α->α)(i:Nat)(l:List α):List α:=(l.take i).map f++l.drop i
def Qu{α:Type}{f:α->α}{i:Nat}{l:List α}:(vf f i l).length=l.length:=by unfold vf;rw[au,bP,<-au,dj]
def MW{α:Type}{f:α->α}{l:List α}:vf f 0 l=l:=rfl
def Qv{α:Type}{f:α->α}{l:List α}:vf f l.length l=l.map f:=by unfold vf;rw[aR,List.drop_length,bI]
def KS{α:Type}{f:α->α}{i:Nat}{l:List α}{x:α}(hx:l[i]?=some x):(vf f i l)[i]?=some x:=by
 obtain⟨hi,he⟩:=aw.1 hx;unfold vf;rw[iz (by simp;omega),bP,aD,qG (by omega),lu,rW,dZ];exact hx
def Hu{α:Type}{f:α->α}{i:Nat}{l:List α}{x:α}(hx:l[i]?=some x):(vf f i l).set i (f x)=vf f (i+1) l:=by
 obtain⟨hi,he⟩:=aw.1 hx;unfold vf;have h1:((l.take i).map f).length=i:=by rw[bP,aD,qG (by omega)]
 rw[List.set_append_right _ _ (by omega),h1,lu,gO hi,List.set_cons_zero,a8,hx];simp
def MX{α:Type}{f:α->α}{i:Nat}{l:List α}{x:α}(hx:l[i]?=some x)(hf:f x=x):vf f (i+1) l=vf f i l:=by
 rw[<-Hu hx,hf];have:=KS (f:=f) hx;obtain⟨hi,he⟩:=aw.1 this;rw[<-he,List.set_getElem_self]
section
variable {W:World} {L R:LH} {K:VK} {X:WK} {p:Nat} {m:aA} {mb kb:OA} {mc kc:Nat} {a:bC} {t:cE}
def BF(hm:m.ax.length<1000000)(hb:∀k∈m.ax,aa.wrap (k.move.jj+k.move.cu)=k.move.jj+k.move.cu)
 (h:T W (ML p {m with ax:=m.ax.map (Fc m.clock)} mb mc kb kc R) (K (.tuple ⟨[]⟩))):T W (ML p m mb mc kb kc R) (cK (ah p) K):=by
 unfold cK;apply ws;intro w jW;refine⟨λvv w=>∃(i:Nat)(l:List bW),i<=m.ax.length/\l=vf (Fc m.clock) i m.ax/\vv=[.l kb m.ax.length kc,.i (m.ax.length:Int),.i (i:Int)]/\St W w (Sep.pt p (FX m mb mc kb kc)::own mb m.cy.length mc 14 (m.cy.flatMap aK)::own kb m.ax.length kc 33 (l.flatMap bG)::R),
  λvs _=>match vs with|[_,_,.int _ d]=>m.ax.length-d.toNat|_=>0,⟨0,m.ax,aE _,MW.symm,rfl,jW⟩,?_⟩
 rintro qI oW re n1 n2 w2 ⟨i,l,hi,hl,e,gX⟩;cases e
 refine T.at ?_ gX;have e5:=nL i;have Ho:l.length=m.ax.length:=by rw[hl];exact Qu
 apply fV<;>intro g1
 ·have cf:i<m.ax.length:=by omega
  have gx:=aj cf;have hbx:=hb _ (bR cf);generalize m.ax[i]=x at gx hbx;have gl:l[i]?=some x:=by rw[hl];exact KS gx
  refine dM (b:=kb) ⟨by omega,by omega⟩ λrb wm=>?_;rw[ao];subst wm;refine gI je gl ?_;have main:∀(r1:Nat)(b1:Bool),b1=decide (kY m.clock x)->T W (Sep.pt r1 (bG x)::Sep.pt p (FX m mb mc (ah rb) kc)::own mb m.cy.length mc 14 (m.cy.flatMap aK)::own (ah rb) m.ax.length kc 33 (l.flatMap bG)::R)
                                                      (cK.j1 K (ah p) (i:Int) (λvv w=>∃(i:Nat)(l:List bW),i<=m.ax.length/\l=vf (Fc m.clock) i m.ax/\vv=[.l (ah rb) m.ax.length kc,.i (m.ax.length:Int),.i (i:Int)]/\St W w (Sep.pt p (FX m mb mc (ah rb) kc)::own mb m.cy.length mc 14 (m.cy.flatMap aK)::own (ah rb) m.ax.length kc 33 (l.flatMap bG)::R)) (ah rb) m.ax.length kc (m.ax.length:Int) (λvs _=>match vs with|[_,_,.int _ d]=>m.ax.length-d.toNat|_=>0) w2 b1):=λr1 b1 MV=>by
   unfold cK.j1;rw[e5];cases b1 with
   |true=>
    have Wj:=aQ MV.symm;apply ws;refine dM (b:=ah rb) ⟨by omega,by omega⟩ λZv wm=>?_;cases wm
    rw[ao];refine NQ ?_;refine DZ (o:=i) (x:=x) (y:={x with fate:=4}) je gl rfl (by decide) rfl ?_;refine T.drop λw3 h3=>⟨⟨i+1,_,cf,?_,rfl,h3⟩,by show m.ax.length-((i+1:Nat):Int).toNat<m.ax.length-(i:Int).toNat;omega⟩;rw[<-Hu gx,hl];unfold Fc;rw[ai Wj]
   |false=>
    have Wj:=bj MV.symm;rw[dY];refine T.drop λw3 h3=>⟨⟨i+1,_,cf,?_,rfl,h3⟩,by show m.ax.length-((i+1:Nat):Int).toNat<m.ax.length-(i:Int).toNat;omega⟩;rw[MX gx (by unfold Fc;rw[ag Wj]),hl]
  apply ws;intros;apply dh<;>intro g2
  ·have g2:x.fate=1:=by simpa using g2
   apply ws;apply fV<;>intro g3
   ·apply ws;rw[hbx];refine main _ _ ?_;rw[decide_eq_decide];exact⟨λhh=>⟨g2,g3,hh⟩,λhh=>hh.2.2⟩
   ·exact main _ _ (aq (λhh=>g3 hh.2.1)).symm
  ·have g2: ¬x.fate=1:=by simpa using g2
   exact main _ _ (aq (λhh=>g2 hh.1)).symm
 ·have iM:i=m.ax.length:=by omega
  subst iM;rw[Qv] at hl;subst hl;unfold ML FX at h;simp only[bP] at h;exact h
instance aa9{m:aA}{mb kb:OA}{mc kc:Nat}{c:Int}:Wr (FX m mb mc kb kc) 2 [.i c] (FX {m with clock:=c} mb mc kb kc):=⟨rfl,by show 3<=4;decide,λv h=>by simp at h;subst h;rfl⟩
def Vr{now:Int}(hm:m.ax.length<1000000)(hb:∀k∈m.ax,aa.wrap (k.move.jj+k.move.cu)=k.move.jj+k.move.cu)
 (h:T W (ML p (m.time now) mb mc kb kc R) (K (.tuple ⟨[]⟩))):T W (ML p m mb mc kb kc R) (kj (ah p) now K):=by
 unfold kj;rw[HZ] at h;unfold uB at h;apply ws;apply fV<;>intro g1
 ·apply fV<;>intro g2
  ·rw[ai ⟨g1,g2⟩] at h;apply ws;refine BF (m:={m with clock:=now}) hm hb ?_;apply ws;exact h
  ·rw[ag (λhh=>g2 hh.2)] at h;refine BF hm hb ?_;apply ws;exact h
 ·rw[ag (λhh=>g1 hh.1)] at h;refine BF hm hb ?_;apply ws;exact h
end
def xp{f b:Int}(h0:0<=f)(h1:f<1000000)(hb:1<=b):aa.wrap (f.tdiv b)=f/b:=by
 rw[Int.tdiv_eq_ediv_of_nonneg h0];have h2:=Int.ediv_nonneg h0 (show 0<=b by omega);have h3:=Int.ediv_le_self b h0;exact aW (by omega)
def Nk{f b:Int}(h0:0<=f)(h1:f<1000000)(hb:1<=b):(((aa.wrap (f.tdiv b)).tmod (2:Int))==1)=decide (has f b):=by
 rw[xp h0 h1 hb,dN (Int.ediv_nonneg h0 (by omega))];rw[bV,vD,decide_eq_true_eq];exact Iff.rfl
section
variable {W:World} {L R:LH} {K:VK} {X:WK} {a b:bC} {t u:cE}
def J5{f n:Int}(h0:0<=f/\f<1000000)(hn:1<=n)(h:T W L (K (.b (decide (has f n))))):T W L (mE f n K):=by
 unfold mE;refine dD (by omega) ?_;refine dD (by decide) ?_;rw[Nk h0.1 h0.2 hn];exact h
def My(ha:0<=a.ak/\a.ak<256)(hb:0<=b.ak/\b.ak<256)(h:T W L (K (.i (tJ a b)))):T W L (gR (aK a) (aK b) K):=by
 unfold gR gR.j1;have e1:(aa.wrap (a.ak.tdiv 2)).tmod 4=a.ak/2%4:=by rw[xp ha.1 (by omega) (by decide),dN (by omega)]
 have e2:(aa.wrap (b.ak.tdiv 2)).tmod 4=b.ak/2%4:=by rw[xp hb.1 (by omega) (by decide),dN (by omega)]
 unfold tJ at h;apply ws;intros;apply dh<;>intro g1
 ·have g1:a.aZ=b.aZ:=by simpa using g1
  apply ws;apply dh<;>intro g2
  ·have g2:a.code=b.code:=by simpa using g2
   repeat' first|apply ws|apply wb|refine dD (by decide) ?_
   apply dh<;>intro g3
   ·rw[e1,e2] at g3;have g3:a.ak/2%4=b.ak/2%4:=by simpa using g3
    rw[ai ⟨g1,g2,g3⟩] at h;exact T.dp h
   ·rw[e1,e2] at g3;have g3: ¬a.ak/2%4=b.ak/2%4:=by simpa using g3
    rw[ag (λhh=>g3 hh.2.2)] at h;exact T.dp h
  ·have g2: ¬a.code=b.code:=by simpa using g2
   rw[ag (λhh=>g2 hh.2.1)] at h;exact T.dp h
 ·have g1: ¬a.aZ=b.aZ:=by simpa using g1
  rw[ag (λhh=>g1 hh.1)] at h;apply ws;exact T.dp h
def kK{n:Int}(h0:0<=t.ak/\t.ak<1000000)(hn:1<=n)(h:T W L (K (.b (decide (has t.ak n))))):T W L (bS (aL t) n K):=by
 unfold bS;apply ws;intros;refine dD (by omega) ?_;refine dD (by decide) ?_;rw[Nk h0.1 h0.2 hn];exact T.dp h
def vY(h0:0<=t.ak/\t.ak<1000000)(h:T W L (K (.b (decide (jA t.ak))))):T W L (gG (aL t) K):=by
 unfold gG;apply ws;intros;refine kK h0 (by decide) ?_;apply ws;by_cases h4:has t.ak 4
 ·rw[av (show jA t.ak from .inl h4)] at h;rw[av h4];apply ws;exact T.dp h
 ·rw[aq h4];apply ws;refine kK h0 (by decide) ?_;apply ws;have e:decide (jA t.ak)=decide (has t.ak 8):=by rw[decide_eq_decide];exact⟨λhh=>hh.resolve_left h4,.inr⟩
  rw[e] at h;exact T.dp h
end
def rX(x:Int):IntKind.u64.wrap x=x%18446744073709551616:=by
 unfold IntKind.wrap;simp[IntKind.signed,IntKind.bits]
section
variable {W:World} {L R:LH} {K:VK} {X:WK} {a b:Nat}
def zM{r3:Nat}{n1 n2 n7:Int}{b1:Bool}(hb:b1=decide (¬a+b<bB))(h0: ¬b1=true->n7=(((a+b)/18446744073709551616:Nat):Int)/\IntKind.u64.wrap (n1+n2)=(((a+b)%18446744073709551616:Nat):Int))
 (h:T W L (K (.tuple ⟨[.agg ⟨nm (add a b)⟩,.b (decide (a+b<bB))]⟩))):T W (Sep.pt r3 [.u 0,.u 0]::L) (cL.j1 K r3 n1 n2 n7 b1):=by
 unfold cL.j1;unfold add at h;cases b1 with
 |true=>
  have hb:=aQ hb.symm;rw[ag hb,aq hb] at h;apply ws;exact T.dp h
 |false=>
  have hb:=bj hb.symm;have wm:a+b<bB:=by omega
  rw[ai wm,av wm] at h;obtain⟨e1,e2⟩:=h0 (by decide);rw[e1,e2];apply ws;exact T.dp h
def qb(ha:a<bB)(hb:b<bB)(h:T W L (K (.tuple ⟨[.agg ⟨nm (add a b)⟩,.b (decide (a+b<bB))]⟩))):T W L (cL (nm a) (nm b) K):=by
 unfold cL;unfold nm;unfold bB at ha hb;have e1:IntKind.u64.wrap (((a%18446744073709551616:Nat):Int)+((b%18446744073709551616:Nat):Int))=(((a+b)%18446744073709551616:Nat):Int):=by rw[rX];omega
 apply ws;intros;apply fV<;>intro g1
 ·rw[e1] at g1;apply fV<;>intro g2
  ·rw[rX] at g2;refine zM (a:=a) (b:=b) (av (by unfold bB;omega)).symm (λhh=>aT rfl hh) ?_;exact T.dp h
  ·rw[rX] at g2;refine zM (a:=a) (b:=b) ?_ (λhh=>⟨?_,e1⟩) ?_
   ·rw[bV,vD,decide_eq_true_eq,rX,rX];unfold bB;omega
   ·rw[vD,rX,rX] at hh;rw[rX,rX];omega
   ·exact T.dp h
 ·rw[e1] at g1;refine zM (a:=a) (b:=b) ?_ (λhh=>⟨?_,e1⟩) ?_
  ·rw[decide_eq_decide,rX];unfold bB;omega
  ·rw[decide_eq_true_eq,rX] at hh;rw[rX];omega
  ·exact T.dp h
def AL(ha:a<bB)(hb:b<bB)(h:T W L (K (.agg ⟨nm (add a b)⟩))):T W L (jq (nm a) (nm b) K):=by
 unfold jq;apply ws;intros;refine qb ha hb ?_;apply ws;intros;exact T.dp h
end
def B7(I1:LV->World->Prop)(pI:LV->World->Nat)(w2:World)(a4 a5:Addr)(ta:OA)(qQ sO:Nat)(n2 n3:Int):WK:=λw3=>
 I1 [.p (some a4),.p (some a5),.l ta qQ sO,.i n2,.i (aa.wrap (n3+1))] w3/\pI [.p (some a4),.p (some a5),.l ta qQ sO,.i n2,.i (aa.wrap (n3+1))] w3<pI [.p (some a4),.p (some a5),.l ta qQ sO,.i n2,.i n3] w2
section
variable {W w2:World} {L R:LH} {K:VK} {r2 r3 r4:Nat} {a:bC} {k:bW} {I1:LV->World->Prop} {pI:LV->World->Nat} {a4:Addr} {ta:OA} {qQ sO:Nat} {n2 n3:Int}
def TY{b:Bool}(hf:0<=a.ak/\a.ak<1000000)(hb:b=decide (kh a.id k))
 (h:T W (Sep.pt r4 (aL k.move)::Sep.pt r3 (bG k)::Sep.pt r2 (aK {a with ak:=if kh a.id k then a.ak%8+8 else a.ak})::L) (B7 I1 pI w2 a4 (ad r2 0) ta qQ sO n2 n3)):
 T W (Sep.pt r4 (aL k.move)::Sep.pt r3 (bG k)::Sep.pt r2 (aK a)::L) (ar.ZQ K (ad r2 0) I1 a4 ta qQ sO n2 n3 pI w2 b):=by
 unfold ar.ZQ;have e1:aa.wrap (a.ak.tmod 8+8)=a.ak%8+8:=by rw[dN hf.1];exact aW (by omega)
 cases b with
 |true=>
  rw[ai (aQ hb.symm)] at h
  repeat' first|apply ws|apply wb|refine dD (by decide) ?_
  rw[e1];exact h
 |false=>
  rw[ag (bj hb.symm)] at h;rw[dY];exact h
def TZ{b:Bool}(hf:0<=a.ak/\a.ak<1000000)(hb:b=decide (has k.move.ak 64/\k.move.bp=a.id\/has k.move.ak 128/\k.move.aP=a.id))
 (h:T W (Sep.pt r4 (aL k.move)::Sep.pt r3 (bG k)::Sep.pt r2 (aK {a with ak:=if kh a.id k then a.ak%8+8 else a.ak})::L) (B7 I1 pI w2 a4 (ad r2 0) ta qQ sO n2 n3)):
 T W (Sep.pt r4 (aL k.move)::Sep.pt r3 (bG k)::Sep.pt r2 (aK a)::L) (ar.Kv K r3 (ad r2 0) I1 a4 ta qQ sO n2 n3 pI w2 b):=by
 unfold ar.Kv;cases b with
 |true=>
  have hc:=aQ hb.symm;apply ws;apply dh<;>intro g1
  ·have g1:k.fate=1:=by simpa using g1
   exact TY hf (av (show kh a.id k from⟨hc,.inl g1⟩)).symm h
  ·have g1: ¬k.fate=1:=by simpa using g1
   apply ws;refine TY hf ?_ h;rw[bV,vD,decide_eq_true_eq];exact⟨λhh=>⟨hc,.inr hh⟩,λhh=>hh.2.resolve_left g1⟩
 |false=>
  have hc:=bj hb.symm;rw[dY];exact TY hf (aq (show ¬kh a.id k from λhh=>hc hh.1)).symm h
def YD{b:Bool}(hf:0<=a.ak/\a.ak<1000000)(hm:0<=k.move.ak/\k.move.ak<1000000)(hb:b=decide (has k.move.ak 64/\k.move.bp=a.id))
 (h:T W (Sep.pt r4 (aL k.move)::Sep.pt r3 (bG k)::Sep.pt r2 (aK {a with ak:=if kh a.id k then a.ak%8+8 else a.ak})::L) (B7 I1 pI w2 a4 (ad r2 0) ta qQ sO n2 n3)):
 T W (Sep.pt r4 (aL k.move)::Sep.pt r3 (bG k)::Sep.pt r2 (aK a)::L) (ar.j12 K r3 (ad r2 0) I1 a4 ta qQ sO n2 n3 pI w2 r4 b):=by
 unfold ar.j12;cases b with
 |true=>
  have hc:=aQ hb.symm;rw[kG];exact TZ hf (av (.inl hc)).symm h
 |false=>
  have hc:=bj hb.symm;rw[dY];apply ws;refine kK hm (by decide) ?_;apply ws;by_cases g1:has k.move.ak 128
  ·rw[av g1];apply ws;refine TZ hf ?_ h;rw[decide_eq_decide];exact⟨λhh=>.inr ⟨g1,hh⟩,λhh=>(hh.resolve_left hc).2⟩
  ·rw[aq g1];apply ws;exact TZ hf (aq (λhh=>g1 (hh.resolve_left hc).1)).symm h
def agQ(hf:0<=a.ak/\a.ak<1000000)(hm:0<=k.move.ak/\k.move.ak<1000000)
 (h:T W (Sep.pt r4 (aL k.move)::Sep.pt r3 (bG k)::Sep.pt r2 (aK {a with ak:=if kh a.id k then a.ak%8+8 else a.ak})::L) (B7 I1 pI w2 a4 (ad r2 0) ta qQ sO n2 n3)):
 T W (Sep.pt r4 (aL k.move)::Sep.pt r3 (bG k)::Sep.pt r2 (aK a)::L) (ar.j9 K r4 (ad r2 0) r3 I1 a4 ta qQ sO n2 n3 pI w2):=by
 unfold ar.j9;apply ws;refine kK hm (by decide) ?_;apply ws;by_cases g1:has k.move.ak 64
 ·rw[av g1];apply ws;refine YD hf hm ?_ h;rw[decide_eq_decide];exact⟨λhh=>⟨g1,hh⟩,λhh=>hh.2⟩
 ·rw[aq g1];apply ws;exact YD hf hm (aq (λhh=>g1 hh.1)).symm h
def agR{b:Bool}(h1:a.cp<bB)(h2:k.move.aU<bB)(h:T W (Sep.pt r4 (aL k.move)::Sep.pt r3 (bG k)::Sep.pt r2 (aK {a with cp:=if b=true then add a.cp k.move.aU else a.cp})::L) (ar.j9 K r4 (ad r2 0) r3 I1 a4 ta qQ sO n2 n3 pI w2)):T W (Sep.pt r4 (aL k.move)::Sep.pt r3 (bG k)::Sep.pt r2 (aK a)::L) (ar.j8 K (ad r2 0) r4 r3 I1 a4 ta qQ sO n2 n3 pI w2 b):=by
 unfold ar.j8;cases b with
 |true=>
  rw[ai rfl] at h;apply ws;refine AL h1 h2 ?_;apply ws;exact h
 |false=>
  rw[ag cG] at h;rw[dY];exact h
def agS(h1:a.cp<bB)(h2:k.move.aU<bB)(h:T W (Sep.pt r4 (aL k.move)::Sep.pt r3 (bG k)::Sep.pt r2 (aK {a with cp:=if k.fate=1/\k.move.aP=a.id then add a.cp k.move.aU else a.cp})::L) (ar.j9 K r4 (ad r2 0) r3 I1 a4 ta qQ sO n2 n3 pI w2)):T W (Sep.pt r4 (aL k.move)::Sep.pt r3 (bG k)::Sep.pt r2 (aK a)::L) (ar.j7 K r3 r4 (ad r2 0) I1 a4 ta qQ sO n2 n3 pI w2):=by
 unfold ar.j7;have fin:∀b:Bool,b=decide (k.fate=1/\k.move.aP=a.id)->T W (Sep.pt r4 (aL k.move)::Sep.pt r3 (bG k)::Sep.pt r2 (aK a)::L) (ar.j8 K (ad r2 0) r4 r3 I1 a4 ta qQ sO n2 n3 pI w2 b):=λb hb=>by
  refine agR h1 h2 ?_;have e:(if b=true then add a.cp k.move.aU else a.cp)=(if k.fate=1/\k.move.aP=a.id then add a.cp k.move.aU else a.cp):=by
   subst hb;by_cases hc:k.fate=1/\k.move.aP=a.id
   ·rw[ai (av hc),ai hc]
   ·rw[ag (by rw[aq hc];exact cG),ag hc]
  rw[e];exact h
 apply ws;apply dh<;>intro g1
 ·have g1:k.fate=1:=by simpa using g1
  apply ws;refine fin _ ?_;rw[decide_eq_decide];exact⟨λhh=>⟨g1,hh⟩,λhh=>hh.2⟩
 ·have g1: ¬k.fate=1:=by simpa using g1
  exact fin _ (aq (λhh=>g1 hh.1)).symm
def agT{b:Bool}(h1:a.dp<bB)(h2:k.move.aU<bB)(h:T W (Sep.pt r4 (aL k.move)::Sep.pt r3 (bG k)::Sep.pt r2 (aK {a with dp:=if b=true then add a.dp k.move.aU else a.dp})::L) (ar.j7 K r3 r4 (ad r2 0) I1 a4 ta qQ sO n2 n3 pI w2)):T W (Sep.pt r4 (aL k.move)::Sep.pt r3 (bG k)::Sep.pt r2 (aK a)::L) (ar.j6 K (ad r2 0) r4 r3 I1 a4 ta qQ sO n2 n3 pI w2 b):=by
 unfold ar.j6;cases b with
 |true=>
  rw[ai rfl] at h;apply ws;refine AL h1 h2 ?_;apply ws;exact h
 |false=>
  rw[ag cG] at h;rw[dY];exact h
def agU(h1:a.dp<bB)(h2:k.move.aU<bB)(h:T W (Sep.pt r4 (aL k.move)::Sep.pt r3 (bG k)::Sep.pt r2 (aK {a with dp:=if k.fate=1/\k.move.bp=a.id then add a.dp k.move.aU else a.dp})::L) (ar.j7 K r3 r4 (ad r2 0) I1 a4 ta qQ sO n2 n3 pI w2)):T W (Sep.pt r4 (aL k.move)::Sep.pt r3 (bG k)::Sep.pt r2 (aK a)::L) (ar.j5 K r3 r4 (ad r2 0) I1 a4 ta qQ sO n2 n3 pI w2):=by
 unfold ar.j5;have fin:∀b:Bool,b=decide (k.fate=1/\k.move.bp=a.id)->T W (Sep.pt r4 (aL k.move)::Sep.pt r3 (bG k)::Sep.pt r2 (aK a)::L) (ar.j6 K (ad r2 0) r4 r3 I1 a4 ta qQ sO n2 n3 pI w2 b):=λb hb=>by
  refine agT h1 h2 ?_;have e:(if b=true then add a.dp k.move.aU else a.dp)=(if k.fate=1/\k.move.bp=a.id then add a.dp k.move.aU else a.dp):=by
   subst hb;by_cases hc:k.fate=1/\k.move.bp=a.id
   ·rw[ai (av hc),ai hc]
   ·rw[ag (by rw[aq hc];exact cG),ag hc]
  rw[e];exact h
 apply ws;apply dh<;>intro g1
 ·have g1:k.fate=1:=by simpa using g1
  apply ws;refine fin _ ?_;rw[decide_eq_decide];exact⟨λhh=>⟨g1,hh⟩,λhh=>hh.2⟩
 ·have g1: ¬k.fate=1:=by simpa using g1
  exact fin _ (aq (λhh=>g1 hh.1)).symm
def agV{b:Bool}(h1:a.cq<bB)(h2:k.move.aU<bB)(h:T W (Sep.pt r4 (aL k.move)::Sep.pt r3 (bG k)::Sep.pt r2 (aK {a with cq:=if b=true then add a.cq k.move.aU else a.cq})::L) (ar.j5 K r3 r4 (ad r2 0) I1 a4 ta qQ sO n2 n3 pI w2)):T W (Sep.pt r4 (aL k.move)::Sep.pt r3 (bG k)::Sep.pt r2 (aK a)::L) (ar.j4 K (ad r2 0) r4 r3 I1 a4 ta qQ sO n2 n3 pI w2 b):=by
 unfold ar.j4;cases b with
 |true=>
  rw[ai rfl] at h;apply ws;refine AL h1 h2 ?_;apply ws;exact h
 |false=>
  rw[ag cG] at h;rw[dY];exact h
def agW{b1:Bool}(h1:a.cq<bB)(h2:k.move.aU<bB)(h:T W (Sep.pt r4 (aL k.move)::Sep.pt r3 (bG k)::Sep.pt r2 (aK {a with cq:=if b1=true/\k.move.aP=a.id then add a.cq k.move.aU else a.cq})::L) (ar.j5 K r3 r4 (ad r2 0) I1 a4 ta qQ sO n2 n3 pI w2)):T W (Sep.pt r4 (aL k.move)::Sep.pt r3 (bG k)::Sep.pt r2 (aK a)::L) (ar.j3 K b1 r4 (ad r2 0) r3 I1 a4 ta qQ sO n2 n3 pI w2):=by
 unfold ar.j3;have fin:∀b:Bool,b=decide (b1=true/\k.move.aP=a.id)->T W (Sep.pt r4 (aL k.move)::Sep.pt r3 (bG k)::Sep.pt r2 (aK a)::L) (ar.j4 K (ad r2 0) r4 r3 I1 a4 ta qQ sO n2 n3 pI w2 b):=λb hb=>by
  refine agV h1 h2 ?_;have e:(if b=true then add a.cq k.move.aU else a.cq)=(if b1=true/\k.move.aP=a.id then add a.cq k.move.aU else a.cq):=by
   subst hb;by_cases hc:b1=true/\k.move.aP=a.id
   ·rw[ai (av hc),ai hc]
   ·rw[ag (by rw[aq hc];exact cG),ag hc]
  rw[e];exact h
 cases b1 with
 |true=>
  apply ws;refine fin _ ?_;rw[decide_eq_decide];exact⟨λhh=>⟨rfl,hh⟩,λhh=>hh.2⟩
 |false=>
  rw[dY];exact fin _ (aq (λhh=>cG hh.1)).symm
def agX{b:Bool}{b1:Bool}(h1:a.dq<bB)(h2:k.move.aU<bB)(h:T W (Sep.pt r4 (aL k.move)::Sep.pt r3 (bG k)::Sep.pt r2 (aK {a with dq:=if b=true then add a.dq k.move.aU else a.dq})::L) (ar.j3 K b1 r4 (ad r2 0) r3 I1 a4 ta qQ sO n2 n3 pI w2)):T W (Sep.pt r4 (aL k.move)::Sep.pt r3 (bG k)::Sep.pt r2 (aK a)::L) (ar.j2 K (ad r2 0) r4 b1 r3 I1 a4 ta qQ sO n2 n3 pI w2 b):=by
 unfold ar.j2;cases b with
 |true=>
  rw[ai rfl] at h;apply ws;refine AL h1 h2 ?_;apply ws;exact h
 |false=>
  rw[ag cG] at h;rw[dY];exact h
def agY{b1:Bool}(h1:a.dq<bB)(h2:k.move.aU<bB)(h:T W (Sep.pt r4 (aL k.move)::Sep.pt r3 (bG k)::Sep.pt r2 (aK {a with dq:=if b1=true/\k.move.bp=a.id then add a.dq k.move.aU else a.dq})::L) (ar.j3 K b1 r4 (ad r2 0) r3 I1 a4 ta qQ sO n2 n3 pI w2)):T W (Sep.pt r4 (aL k.move)::Sep.pt r3 (bG k)::Sep.pt r2 (aK a)::L) (ar.j1 K r4 (ad r2 0) r3 I1 a4 ta qQ sO n2 n3 pI w2 b1):=by
 unfold ar.j1;have fin:∀b:Bool,b=decide (b1=true/\k.move.bp=a.id)->T W (Sep.pt r4 (aL k.move)::Sep.pt r3 (bG k)::Sep.pt r2 (aK a)::L) (ar.j2 K (ad r2 0) r4 b1 r3 I1 a4 ta qQ sO n2 n3 pI w2 b):=λb hb=>by
  refine agX h1 h2 ?_;have e:(if b=true then add a.dq k.move.aU else a.dq)=(if b1=true/\k.move.bp=a.id then add a.dq k.move.aU else a.dq):=by
   subst hb;by_cases hc:b1=true/\k.move.bp=a.id
   ·rw[ai (av hc),ai hc]
   ·rw[ag (by rw[aq hc];exact cG),ag hc]
  rw[e];exact h
 cases b1 with
 |true=>
  apply ws;refine fin _ ?_;rw[decide_eq_decide];exact⟨λhh=>⟨rfl,hh⟩,λhh=>hh.2⟩
 |false=>
  rw[dY];exact fin _ (aq (λhh=>cG hh.1)).symm
end
def LD(a:bC):Prop:=a.dp<bB/\a.dq<bB/\a.cp<bB/\a.cq<bB/\0<=a.ak/\a.ak<1000000
def RkK(k:bW):Prop:=k.move.aU<bB/\0<=k.move.ak/\k.move.ak<1000000
def FG(a b:Nat):add a b<bB:=by
 unfold add;split
 ·assumption
 ·unfold bB;decide
def Vq{a:bC}{k:bW}(h:LD a):LD (vX a k):=by
 obtain⟨h1,h2,h3,h4,h5,h6⟩:=h;refine⟨?_,?_,?_,?_,?_,?_⟩
 ·show(if _ then _ else _)<bB;split;exact FG _ _;exact h1
 ·show(if _ then _ else _)<bB;split;exact FG _ _;exact h2
 ·show(if _ then _ else _)<bB;split;exact FG _ _;exact h3
 ·show(if _ then _ else _)<bB;split;exact FG _ _;exact h4
 ·show 0<=(if kh a.id k then a.ak%8+8 else a.ak);split<;>omega
 ·show(if kh a.id k then a.ak%8+8 else a.ak)<1000000;split<;>omega
def JX{a:bC}(l:List bW)(h:LD a):LD (l.foldl vX a):=by
 induction l generalizing a with
 |nil=>exact h
 |cons k l ih=>exact ih (Vq h)
section
variable {W w2:World} {L R:LH} {K:VK} {r2 r3 r4 p:Nat} {a:bC} {k:bW} {m:aA} {mb kb:OA} {mc kc:Nat} {I1:LV->World->Prop} {pI:LV->World->Nat} {a4:Addr} {ta:OA} {qQ sO:Nat} {n2 n3:Int}
def aaT{b1:Bool}(ha:LD a)(hk:RkK k)(hb:b1=decide (iR k))
 (h:T W (Sep.pt r4 (aL k.move)::Sep.pt r3 (bG k)::Sep.pt r2 (aK (vX a k))::L) (B7 I1 pI w2 a4 (ad r2 0) ta qQ sO n2 n3)):
 T W (Sep.pt r4 (aL k.move)::Sep.pt r3 (bG k)::Sep.pt r2 (aK a)::L) (ar.j1 K r4 (ad r2 0) r3 I1 a4 ta qQ sO n2 n3 pI w2 b1):=by
 obtain⟨h1,h2,h3,h4,h5,h6⟩:=ha;obtain⟨k1,k2,k3⟩:=hk;have e:∀(P:Prop) [Decidable P](x y:Nat),(if b1=true/\P then x else y)=if iR k/\P then x else y:=λP _ x y=>by
  subst hb;by_cases hc:iR k
  ·by_cases hp:P
   ·rw[ai ⟨av hc,hp⟩,ai ⟨hc,hp⟩]
   ·rw[ag (λhh=>hp hh.2),ag (λhh=>hp hh.2)]
  ·rw[ag (λhh=>hc (aQ hh.1)),ag (λhh=>hc hh.1)]
 refine agY h2 k1 ?_;refine agW h4 k1 ?_;refine agU h1 k1 ?_;refine agS h3 k1 ?_;refine agQ (show 0<=a.ak/\a.ak<1000000 from⟨h5,h6⟩) ⟨k2,k3⟩ ?_;rw[e,e];exact h
def AK{i:Nat}(hn:m.ax.length<1000000)(hx:m.cy[i]?=some a)(ha:LD a)(hk:∀k∈m.ax,RkK k)
 (h:T W (ML p m mb mc kb kc R) (K (.agg ⟨aK (m.ax.foldl vX a)⟩))):T W (ML p m mb mc kb kc R) (ar (ah p) (i:Int) K):=by
 unfold ar;have Qp:=(aw.1 hx).1;apply ws;intros;rename_i r1;refine dM (b:=mb) ⟨by omega,by omega⟩ λrb hb=>?_;rw[ao];subst hb;refine gI jx hx ?_;apply ws;intros;rename_i r2;intro w jW;refine⟨λvv w=>∃j:Nat,j<=m.ax.length/\vv=[.p (some (ad r1 0)),.p (some (ad r2 0)),.l kb m.ax.length kc,.i (m.ax.length:Int),.i (j:Int)]/\St W w (Sep.pt r2 (aK ((m.ax.take j).foldl vX a))::Sep.pt r1 (aK zA)::ML p m (ah rb) mc kb kc R),
  λvs _=>match vs with|[_,_,_,_,.int _ d]=>m.ax.length-d.toNat|_=>0,⟨0,aE _,rfl,jW⟩,?_⟩
 rintro a4 a5 ta qQ sO n2 n3 w2 ⟨j,hj,e,gX⟩;cases e
 refine T.at ?_ gX;have e5:=nL j;apply fV<;>intro g1
 ·have cf:j<m.ax.length:=by omega
  have gx:=aj cf;have SW:=hk _ (bR cf);generalize m.ax[j]=x at gx SW;refine dM (b:=kb) ⟨by omega,by omega⟩ λrk wm=>?_;rw[ao];subst wm;refine gI je gx ?_;apply ws;intros;rename_i r3 r4;have ael:=JX (m.ax.take j) ha;have gi:(m.ax.take (j+1)).foldl vX a=vX ((m.ax.take j).foldl vX a) x:=by rw[a8,gx,List.foldl_append];rfl
  have fin:∀b1:Bool,b1=decide (iR x)->T W (Sep.pt r4 (aL x.move)::Sep.pt r3 (bG x)::Sep.pt r2 (aK ((m.ax.take j).foldl vX a))::Sep.pt r1 (aK zA)::ML p m (ah rb) mc (ah rk) kc R)
   (ar.j1 K r4 (ad r2 0) r3 (λvv w=>∃j:Nat,j<=m.ax.length/\vv=[.p (some (ad r1 0)),.p (some (ad r2 0)),.l (ah rk) m.ax.length kc,.i (m.ax.length:Int),.i (j:Int)]/\St W w (Sep.pt r2 (aK ((m.ax.take j).foldl vX a))::Sep.pt r1 (aK zA)::ML p m (ah rb) mc (ah rk) kc R)) (ad r1 0) (ah rk) m.ax.length kc (m.ax.length:Int) (j:Int) (λvs _=>match vs with|[_,_,_,_,.int _ d]=>m.ax.length-d.toNat|_=>0) w2 b1):=λb1 MV=>by
   refine aaT ael SW MV ?_;unfold B7;rw[e5];refine T.drop (T.drop λw3 h3=>⟨⟨j+1,cf,rfl,by rw[gi];exact h3⟩,by show m.ax.length-((j+1:Nat):Int).toNat<m.ax.length-(j:Int).toNat;omega⟩)
  refine kK ⟨SW.2.1,SW.2.2⟩ (by decide) ?_;apply ws;by_cases g2:has x.move.ak 2
  ·rw[av g2];apply ws;exact fin _ (aq (λhh=>hh.1 g2)).symm
  ·rw[aq g2];apply ws;refine kK ⟨SW.2.1,SW.2.2⟩ (by decide) ?_;apply ws;refine fin _ ?_;by_cases g3:has x.move.ak 8
   ·rw[av g3];exact(aq (λhh=>hh.2 g3)).symm
   ·rw[aq g3];exact(av (show iR x from⟨g2,g3⟩)).symm
 ·have iM:j=m.ax.length:=by omega
  subst iM;rw[aR];apply ws;exact T.dp h
def Cq(hm:m.cy.length<1000000)(hn:m.ax.length<1000000)(ha:∀a∈m.cy,LD a)(hk:∀k∈m.ax,RkK k)
 (h:∀ob oc,T W (ML p m mb mc kb kc (own ob m.cy.length oc 14 ((m.cy.map m.full).flatMap aK)::R)) (K (.l ob m.cy.length oc))):T W (ML p m mb mc kb kc R) (gQ (ah p) K):=by
 unfold gQ;apply ws;refine gZ (e:=14) ?_;refine T.perm (L:=ML p m mb mc kb kc (own none 0 0 14 []::R)) ?_ (bu (l₁:=[own none 0 0 14 []]) (l₂:=[_,_,_])|>.append_right R);intro w jW;refine⟨λvv w=>∃(i:Nat)(ob:OA)(oc:Nat)(out:List bC),i<=m.cy.length/\out=(m.cy.take i).map m.full/\vv=[.l none 0 0,.l ob i oc,.i (m.cy.length:Int),.i (i:Int)]/\St W w (ML p m mb mc kb kc (own ob i oc 14 (out.flatMap aK)::R)),
  λvs _=>match vs with|[_,_,_,.int _ d]=>m.cy.length-d.toNat|_=>0,⟨0,none,0,[],aE _,rfl,rfl,jW⟩,?_⟩
 rintro qI oW re ob i oc n1 n2 w2 ⟨i0,ob0,oc0,out,hi,xY,e,gX⟩;cases e
 refine T.at ?_ gX;have e5:=nL i;apply fV<;>intro g1
 ·have cf:i<m.cy.length:=by omega
  have gx:=aj cf;have hax:=ha _ (bR cf);generalize m.cy[i]=x at gx hax;refine AK hn gx hax hk ?_;apply ws;intros;refine jm (g:=aK) (l:=out) (x:=m.full x) (bI _) rfl rfl (by omega) (by omega) (iv _) λb' c'=>?_;rw[e5];refine T.drop λw3 h3=>⟨⟨i+1,b',c',out++[m.full x],cf,?_,rfl,h3⟩,by show m.cy.length-((i+1:Nat):Int).toNat<m.cy.length-(i:Int).toNat;omega⟩;rw[a8,gx,cR,xY];rfl
 ·have iM:i=m.cy.length:=by omega
  subst iM;rw[aR] at xY;subst xY;exact h ob oc
end
end Go.Up
