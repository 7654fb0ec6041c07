/- Part of the proof: see the last text. -/
import Derived.Test.YtibneekkkdnmgaaGreatDoorPA
import Derived.Test.YtibneekkkdnmgaaGreatDoorPC
import Derived.Test.YtibneekkkdnmgaaGreatDoorPB
set_option linter.all false
set_option maxRecDepth 100000
set_option synthInstance.maxSize 100000
open Bool renaming eq_iff_iff→bZ,true_and→dI,false_and→fK,not_false→OQ,and_eq_true→dh,false_eq_true→cG,noConfusion→rq,false_ne_true→cJ
open Decidable renaming not_not→bp
open Go.IntKind renaming i64→aa
open Int renaming toNat_natCast→ak,eq_ofNat_of_zero_le→bw,fdiv_eq_ediv_of_nonneg→GI,le_refl→sS,tmod_eq_emod_of_nonneg→dB
open List renaming Sublist→bl,perm_append_comm→bt,Perm→bX,getElem?_append_right→iJ,getElem?_eq_getElem→aj,length_take→aC,length_drop→aR,take_length→aV,take_add_one→ba,length_map→bY,getElem_mem→cb,map_append→cU,length_reverse→ju,getElem?_of_mem→qB,take_of_length_le→bG,append_nil→bO,filter_cons_of_pos→lF,filter_cons_of_neg→lG,take_append_of_le_length→zJ,mem_of_getElem?→cn,length_append→au,append_assoc→aH,length_cons→aW,nil_append→cT,getElem?_map→dU,flatMap_append→gi,flatMap_cons→iP,getElem?_eq_some_iff→av,map_congr_left→mI,range→pK,mem_map→dF,take_zero→og,ext_getElem?→oz,find?_eq_none→pM,pairwise_iff_getElem→qj,getElem?_take→sj,length_nil→cK,drop_eq_getElem_cons→gZ,drop_length→Hc,getElem?_cons_succ→bT,drop_zero→iK,take_append_drop→dk,drop_of_length_le→fB,drop_drop→iL,take_take→xV,set_set→jC,set_cons_succ→lA,getElem?_append_left→cO,perm_middle→iI,mem_or_eq_of_mem_set→fm,length_replicate→iF,length_set→iH,mem_cons_of_mem→fJ,mem_cons→jX,mem_cons_self→pL,mem_append→dY,getElem?_drop→lC
open Nat renaming zero_add→aD,le_refl→aF,zero_le→aE,pow_le_pow_right→gM,sub_self→jS,lt_of_le_of_lt→qk,le_trans→zy,mul_le_mul_right→iw,add_mul→mn,mod_eq_of_lt→fD,reduceAdd→ae,reduceMul→ag,le_of_ble_eq_true→aI,add_zero→gK,mul_one→mm,min_eq_left→nA
open Option renaming getD_some→dz,isSome_some→dD,isSome_none→eX,getD_none→gN,map→yr,some→bE,map_some→fF
namespace Go.Prog
open Go.Den
def kN(c:LV)(K:VK):WK:=mk c λa=>lI (ad a 0) λd=>br (decide (d>=1)) (lI (ad a 0) λe=>K (.b (decide (e<=3)))) (K (.b false))
def dS.j1(K:VK)(a:Bool):WK:=K (.b a)
def dS.j2(K:VK)(a:Bool):WK:=K (.b a)
def dS(c:LV)(K:VK):WK:=mk c λa=>lI (ad a 0) λd=>br (d==1) (lL (ad a 1) λm e n=>br (decide ((e:Int)>0)) (lL (ad a 1) λo f p=>dS.j1 K (decide ((f:Int)<9))) (dS.j1 K false)) (lI (ad a 0) λg=>br (g==2) (lL (ad a 2) λq h r=>br (decide ((h:Int)>0)) (lL (ad a 2) λs i t=>dS.j2 K (decide ((i:Int)<9))) (dS.j2 K false)) (lI (ad a 0) λj=>br (j==3) (lI (ad a 3) λk=>br (decide (k>=0)) (lI (ad a 3) λl=>K (.b (decide (l<=1099511627776)))) (K (.b false))) (K (.b false))))
def bm.j2(K:VK)(a:Bool):WK:=K (.b a)
def bm.j6(K:VK)(a:Nat)(c:Bool):WK:=br c (lT (ad a 4) λd=>br d (K (.b true)) (lT (ad a 5) λe=>K (.b e))) (K (.b false))
def bm.j5(K:VK)(a:Nat)(b:Bool):WK:=br b (lI (ad a 7) λc=>bm.j6 K a (decide (c<17))) (bm.j6 K a false)
def bm.j4(K:VK)(a:Nat)(b:Bool):WK:=br b (lI (ad a 7) λc=>bm.j5 K a (decide (c>0))) (bm.j5 K a false)
def bm.j3(K:VK)(a:Nat)(b:Bool):WK:=br b (lI (ad a 3) λc=>bm.j4 K a (decide (c>=0))) (bm.j4 K a false)
def bm.j1(K:VK)(a:Nat)(c:Bool):WK:=br c (lL (ad a 4) λi d j=>br (decide ((d:Int)>0)) (lL (ad a 4) λk e l=>bm.j2 K (decide ((e:Int)<17))) (bm.j2 K false)) (aJ (ad a 5) 8 λf=>mk Es λb=>bD 8 (ad b 0) f (lI (ad a 0) λg=>br (g==6) (lI (ad b 2) λh=>bm.j3 K b (decide (h>=0))) (bm.j3 K b false)))
def bm(b:LV)(K:VK):WK:=mk b λa=>lI (ad a 0) λc=>br (c==4) (bm.j1 K a true) (lI (ad a 0) λd=>bm.j1 K a (d==5))
def da.j3(K:VK)(a:Nat)(c:Bool):WK:=br c (lI (ad a 12) λd=>br (decide (d>=0)) (lI (ad a 12) λe=>K (.b (decide (e<65536)))) (K (.b false))) (K (.b false))
def da.j2(K:VK)(a:Nat)(b:Bool):WK:=br b (lI (ad a 11) λc=>da.j3 K a (decide (c<65536))) (da.j3 K a false)
def da.j1(K:VK)(a:Nat)(b:Bool):WK:=br b (lI (ad a 11) λc=>da.j2 K a (decide (c>=0))) (da.j2 K a false)
def da(b:LV)(K:VK):WK:=mk b λa=>lI (ad a 10) λc=>br (decide (c>=0)) (lI (ad a 10) λd=>da.j1 K a (decide (d<4294967296))) (da.j1 K a false)
def bW.j5(K:VK)(a:Nat)(c:Bool):WK:=br c (lI (ad a 13) λd=>br (decide (d>=0)) (lI (ad a 13) λe=>K (.b (decide (e<65536)))) (K (.b false))) (K (.b false))
def bW.j4(K:VK)(a:Nat)(b:Bool):WK:=br b (lI (ad a 12) λc=>bW.j5 K a (decide (c<65536))) (bW.j5 K a false)
def bW.j3(K:VK)(a:Nat)(b:Bool):WK:=br b (lI (ad a 12) λc=>bW.j4 K a (decide (c>=0))) (bW.j4 K a false)
def bW.j2(K:VK)(a:Nat)(b:Bool):WK:=br b (lI (ad a 11) λc=>bW.j3 K a (decide (c<4294967296))) (bW.j3 K a false)
def bW.j1(K:VK)(a:Nat)(b:Bool):WK:=br b (lI (ad a 11) λc=>bW.j2 K a (decide (c>=0))) (bW.j2 K a false)
def bW(b:LV)(K:VK):WK:=mk b λa=>lI (ad a 10) λc=>br (decide (c>=0)) (lI (ad a 10) λd=>bW.j1 K a (decide (d<4294967296))) (bW.j1 K a false)
def gP.j1(K:VK)(w:Nat)(D:Bool):WK:=br D (K (.b false)) (lL (ad w 1) λE x F=>(lp [.p (some (ad w 0)),.b false,.l E x F,.i (x:Int),.i 0] λu y=>∀a e f g o h c s,u [.p (some a),.b e,.l f g o,.i h,.i c] s->(br (decide (c<h)) (iY f g c 14 λG=>aJ G 14 λH=>mk eK λz=>bD 14 (ad z 0) H (lI a λI=>br (I==1) (aJ (ad z 0) 14 λJ=>da J (xB λM=>br (!M) (K (.b false)) ((ct u y [.p (some a),.b e,.l f g o,.i h,.i (aa.wrap (c+1))] [.p (some a),.b e,.l f g o,.i h,.i c] s)))) ((ct u y [.p (some a),.b e,.l f g o,.i h,.i (aa.wrap (c+1))] [.p (some a),.b e,.l f g o,.i h,.i c] s)))) (lL (a.add 2) λO A P=>(lp [.p (some a),.b e,.l O A P,.i (A:Int),.i 0] λv B=>∀j q k m r n d t,v [.p (some j),.b q,.l k m r,.i n,.i d] t->(br (decide (d<n)) (iY k m d 16 λQ=>aJ Q 16 λR=>mk iD λC=>bD 16 (ad C 0) R (lI j λS=>br (S==2) (aJ (ad C 0) 16 λT=>bW T (xB λV=>br (!V) (K (.b false)) ((ct v B [.p (some j),.b q,.l k m r,.i n,.i (aa.wrap (d+1))] [.p (some j),.b q,.l k m r,.i n,.i d] t)))) ((ct v B [.p (some j),.b q,.l k m r,.i n,.i (aa.wrap (d+1))] [.p (some j),.b q,.l k m r,.i n,.i d] t)))) (K (.b true))) t))) s))
def gP(b:LV)(K:VK):WK:=mk b λa=>aJ (ad a 0) 13 λc=>dS c (xB λd=>br (!d) (aJ (ad a 0) 13 λe=>bm e (xB λf=>gP.j1 K a (!f))) (gP.j1 K a false))
def ig(n:OA)(K:VK):WK:=tick (nn n λm=>lL m λj k o=>nn n λg=>lL (g.add 1) λe f h=>nn n λc=>lI (c.add 2) λa=>nn n λd=>lI (d.add 3) λb=>both (cu True (mk [] λq=>kp (d.add 3) [.i b] (kp (c.add 2) [.i a] (kp (g.add 1) [.l e f h] (kp m [.l j k o] (both (iN 14 112 eK (ah q) 0 0 j k λr s t=>kp (d.add 3) [.i b] (kp (c.add 2) [.i a] (kp (g.add 1) [.l e f h] (cu True (mk [] λu=>kp (d.add 3) [.i b] (kp (c.add 2) [.i a] (kp (g.add 1) [.l e f h] (iN 33 264 cI (ah u) 0 0 e f λv w x=>kp (d.add 3) [.i b] (kp (c.add 2) [.i a] (cu (1=1/\(1=1/\(1=1/\(1=1/\True)))) (mk [.l r s t,.l v w x,.i a,.i b] λy=>kp (d.add 3) [.i b] (kp (c.add 2) [.i a] (K (.p (some (ad y 0)))))))))))))))) (cu True (mk [] λz=>kp (d.add 3) [.i b] (kp (c.add 2) [.i a] (kp (g.add 1) [.l e f h] (kp m [.l j k o] (iN 14 112 eK (ah q) 0 0 j k λA B C=>kp (d.add 3) [.i b] (kp (c.add 2) [.i a] (kp (g.add 1) [.l e f h] (iN 33 264 cI (ah z) 0 0 e f λD E F=>kp (d.add 3) [.i b] (kp (c.add 2) [.i a] (cu (1=1/\(1=1/\(1=1/\(1=1/\True)))) (mk [.l A B C,.l D E F,.i a,.i b] λG=>kp (d.add 3) [.i b] (kp (c.add 2) [.i a] (K (.p (some (ad G 0))))))))))))))))))))))) (cu True (mk [] λH=>kp (d.add 3) [.i b] (kp (c.add 2) [.i a] (kp (g.add 1) [.l e f h] (kp m [.l j k o] (cu True (mk [] λI=>kp (d.add 3) [.i b] (kp (c.add 2) [.i a] (kp (g.add 1) [.l e f h] (kp m [.l j k o] (iN 14 112 eK (ah I) 0 0 j k λJ M O=>kp (d.add 3) [.i b] (kp (c.add 2) [.i a] (kp (g.add 1) [.l e f h] (iN 33 264 cI (ah H) 0 0 e f λP Q R=>kp (d.add 3) [.i b] (kp (c.add 2) [.i a] (cu (1=1/\(1=1/\(1=1/\(1=1/\True)))) (mk [.l J M O,.l P Q R,.i a,.i b] λS=>kp (d.add 3) [.i b] (kp (c.add 2) [.i a] (K (.p (some (ad S 0)))))))))))))))))))))))
def cM.j1(K:VK)(j:OA)(a:Int)(f:LI)(b:OA)(c d:Nat)(e:Int)(g:LM)(h:World)(k:Bool):WK:=br k (nn j λm=>lL (m.add 1) λn o q=>iY n o a 33 λp=>st (p.add 32) (.i 4) ((ct f g [.l b c d,.i e,.i (aa.wrap (a+1))] [.l b c d,.i e,.i a] h))) ((ct f g [.l b c d,.i e,.i (aa.wrap (a+1))] [.l b c d,.i e,.i a] h))
def cM(b:OA)(K:VK):WK:=nn b λn=>lL (n.add 1) λo m p=>(lp [.l o m p,.i (m:Int),.i 0] λh k=>∀c d j e a f,h [.l c d j,.i e,.i a] f->(br (decide (a<e)) (iY c d a 33 λq=>aJ q 33 λr=>mk cI λg=>bD 33 (ad g 0) r (tick (lI (ad g 32) λs=>br (s==1) (lI (ad g 26) λt=>br (decide (t>0)) (lI (ad g 31) λu=>lI (ad g 26) λv=>nn b λw=>lI (w.add 2) λx=>cM.j1 K b a h c d j e k f (decide ((aa.wrap (u+v))<=x))) (cM.j1 K b a h c d j e k f false)) (cM.j1 K b a h c d j e k f false)))) (K (.tuple ⟨[]⟩))) f)
def kG(a:OA)(b:Int)(K:VK):WK:=nn a λc=>lI (c.add 2) λd=>br (decide (b>d)) (br (decide (b<=1099511627776)) (nn a λe=>st (e.add 2) (.i b) (cM a (x0 (K (.tuple ⟨[]⟩))))) (cM a (x0 (K (.tuple ⟨[]⟩))))) (cM a (x0 (K (.tuple ⟨[]⟩))))
def lX(t:OA)(q u:Nat)(K:VK):WK:=(lp [.l none 0 0,.l none 0 0,.l t q u,.i (q:Int),.i 0] λr v=>∀j k m c d e f g n h a o,r [.l j k m,.l c d e,.l f g n,.i h,.i a] o->(br (decide (a<h)) (iY f g a 14 λw=>aJ w 14 λx=>mk eK λs=>bD 14 (ad s 0) x (aJ (ad s 0) 14 λp=>cu (1=1/\(p.length=14/\True)) (cu ((([.b true]:LV)++(p++(iD:LV))).length=31/\True) (mk ((([.b true]:LV)++(p++(iD:LV)))++[]) λy=>iN 31 248 A0 c d e (ah y) 1 λz A B=>(ct r v [.l j k m,.l z A B,.l f g n,.i h,.i (aa.wrap (a+1))] [.l j k m,.l c d e,.l f g n,.i h,.i a] o))))) (K (.l c d e))) o)
def k9(s:OA)(p t:Nat)(K:VK):WK:=(lp [.l none 0 0,.l none 0 0,.l s p t,.i (p:Int),.i 0] λq u=>∀h j k b c d e f m g a n,q [.l h j k,.l b c d,.l e f m,.i g,.i a] n->(br (decide (a<g)) (iY e f a 16 λv=>aJ v 16 λw=>mk iD λr=>bD 16 (ad r 0) w (aJ (ad r 0) 16 λo=>cu (o.length=16/\True) (cu (((OS:LV)++(o++[])).length=31/\True) (mk (((OS:LV)++(o++[]))++[]) λx=>iN 31 248 A0 b c d (ah x) 1 λy z A=>(ct q u [.l h j k,.l y z A,.l e f m,.i g,.i (aa.wrap (a+1))] [.l h j k,.l b c d,.l e f m,.i g,.i a] n))))) (K (.l b c d))) n)
def nh(c:LV)(K:VK):WK:=mk c λa=>lT (ad a 0) λd=>br d (lI (ad a 13) λe=>cu ((2:Int)≠0) (K (.b ((e.tmod (2:Int))!=0)))) (lI (ad a 28) λf=>cu ((2:Int)≠0) (K (.b ((f.tmod (2:Int))!=0))))
def fS(c:LV)(a:Int)(K:VK):WK:=mk c λb=>br (decide (a>=64)) (lU (ad b 0) λd=>cu ((0:Int)<=(IntKind.u64.wrap (aa.wrap (a-64)))) (cu ((2:Int)≠0) (K (.i (aa.wrap ((shr .u64 d (IntKind.u64.wrap (aa.wrap (a-64)))).tmod (2:Int))))))) (lU (ad b 1) λe=>cu ((0:Int)<=(IntKind.u64.wrap a)) (cu ((2:Int)≠0) (K (.i (aa.wrap ((shr .u64 e (IntKind.u64.wrap a)).tmod (2:Int)))))))
def kv(I:LV)(K:VK):WK:=mk I λJ=>cu (1=1/\True) (mk [.i 0] λM=>(lp [.p (some (ad J 0)),.s .empty,.l (ah M) 1 1,.i 127] λy D=>∀g h j a k d t,y [.p (some g),.s h,.l j a k,.i d] t->(br (decide (d>=0)) (aJ g 2 λO=>fS O d (xI .i64 λP=>(lp [.p (some g),.s h,.l j a k,.i d,.i P,.i (aa.wrap ((a:Int) -1))] λE Q=>∀m n b c u o e f z,E [.p (some m),.s n,.l b c u,.i o,.i e,.i f] z->(br (decide (f>=0)) (iY b c f 1 λR=>lI R λF=>cu ((10:Int)≠0) (iY b c f 1 λS=>st S (.i ((aa.wrap ((aa.wrap (2* F))+e)).tmod (10:Int))) (cu ((10:Int)≠0) ((ct E Q [.p (some m),.s n,.l b c u,.i o,.i (aa.wrap ((aa.wrap ((aa.wrap (2* F))+e)).tdiv (10:Int))),.i (aa.wrap (f-1))] [.p (some m),.s n,.l b c u,.i o,.i e,.i f] z))))) (br (decide (e>0)) (cu (1=1/\True) (mk [.i e] λT=>iN 1 8 [.i 0] (ah T) 1 1 b c λV W X=>(ct y D [.p (some m),.s n,.l V W X,.i (aa.wrap (o-1))] [.p (some g),.s h,.l j a k,.i d] t))) ((ct y D [.p (some m),.s n,.l b c u,.i (aa.wrap (o-1))] [.p (some g),.s h,.l j a k,.i d] t)))) z))) ((lp [.s h,.s .empty,.l j a k,.i (a:Int),.i 0] λG Y=>∀A q v w B x r C,G [.s A,.s q,.l v w B,.i x,.i r] C->(br (decide (r<x)) (iY v w r 1 λZ=>lI Z λn9=>cu (1=1/\True) (mk [.int .u8 (IntKind.u8.wrap (aa.wrap (48+n9)))] λr4=>U2 (ah r4) 1 λH=>cu (((q.size+H.size:Nat):Int)<=9223372036854775807) ((ct G Y [.s A,.s (q++H),.l v w B,.i x,.i (aa.wrap (r+1))] [.s A,.s q,.l v w B,.i x,.i r] C)))) (K (.s q))) C))) t))
def mY(c a:Int)(K:VK):WK:=cu (a≠0) (cu ((2:Int)≠0) (K (.b (((aa.wrap (c.tdiv a)).tmod (2:Int))==1))))
def bA.j4(K:VK)(a:Nat)(b:Bool):WK:=br b (K (.i 8)) (lI (ad a 11) λc=>br (decide (c<=0)) (K (.i 9)) (lI (ad a 11) λd=>br (decide (d>=65536)) (K (.i 9)) (K (.i 0))))
def bA.j3(K:VK)(a:Nat)(b:Bool):WK:=br b (K (.i 7)) (lI (ad a 10) λc=>br (decide (c<=0)) (bA.j4 K a true) (lI (ad a 10) λd=>bA.j4 K a (decide (d>=4294967296))))
def bA.j6(K:VK)(a b:Nat)(c:Bool):WK:=br c (bA.j3 K a true) (aJ (ad a 8) 2 λd=>aJ (ad b 0) 2 λe=>rT [.u 0,.u 0] d e λf=>br (!f) (bA.j3 K a true) (lI (ad a 13) λg=>bA.j3 K a (g !=0)))
def bA.j5(K:VK)(a b:Nat)(c:Bool):WK:=br c (bA.j6 K a b true) (aJ (ad a 6) 2 λd=>aJ (ad b 0) 2 λe=>rT [.u 0,.u 0] d e λf=>bA.j6 K a b (!f))
def bA.j2(K:VK)(a b:Nat)(c:Bool):WK:=br c (K (.i 6)) (aJ (ad a 2) 2 λd=>aJ (ad b 0) 2 λe=>rT [.u 0,.u 0] d e λf=>br (!f) (bA.j5 K a b true) (aJ (ad a 4) 2 λg=>aJ (ad b 0) 2 λh=>rT [.u 0,.u 0] g h λj=>bA.j5 K a b (!j)))
def bA.j1(K:VK)(a b:Nat)(c:Bool):WK:=br c (K (.i 3)) (aJ (ad a 0) 2 λd=>aJ (ad b 0) 2 λe=>rT [.u 0,.u 0] d e λf=>br f (K (.i 4)) (aJ (ad a 0) 2 λg=>kv g (xS λh=>br (pP h (⟨#[51,52,48,50,56,50,51,54,54,57,50,48,57,51,56,52,54,51,52,54,51,51,55,52,54,48,55,52,51,49,55,54,56,50,49,49,52,53,53]⟩:BA)) (K (.i 5)) (lI (ad a 12) λj=>mY j 2 (xB λk=>br k (lI (ad a 12) λl=>mY l 4 (xB λm=>bA.j2 K a b m)) (bA.j2 K a b false))))))
def bA(c:LV)(K:VK):WK:=mk c λa=>cu True (mk [.u 0,.u 0] λb=>cu (2=2) (jU (ad b 0) [.u 0,.u 0] (lI (ad a 12) λd=>br (decide (d<0)) (bA.j1 K a b true) (lI (ad a 12) λe=>bA.j1 K a b (decide (e>7))))))
def fr(n:OA)(o:LV)(K:VK):WK:=mk o λq=>nn n λr=>lL r λs j t=>(lp [.p (some (ad q 0)),.i 0,.l s j t,.i (j:Int),.i 0] λk v=>∀b f c d g e a h,k [.p (some b),.i f,.l c d g,.i e,.i a] h->(br (decide (a<e)) (iY c d a 14 λw=>aJ w 14 λx=>mk eK λm=>bD 14 (ad m 0) x (aJ (ad m 0) 2 λy=>aJ b 2 λz=>rT [.u 0,.u 0] y z λA=>br A (K (.i a)) ((ct k v [.p (some b),.i f,.l c d g,.i e,.i (aa.wrap (a+1))] [.p (some b),.i f,.l c d g,.i e,.i a] h)))) (K (.i (-1)))) h)
def ib.j1(K:VK)(a b:Nat)(c:Bool):WK:=br c (lI (ad a 12) λd=>cu ((2:Int)≠0) (cu ((4:Int)≠0) (lI (ad b 12) λe=>cu ((2:Int)≠0) (cu ((4:Int)≠0) (br (((aa.wrap (d.tdiv (2:Int))).tmod (4:Int))==((aa.wrap (e.tdiv (2:Int))).tmod (4:Int))) (K (.i 10)) (K (.i 11))))))) (K (.i 11))
def ib(c d:LV)(K:VK):WK:=mk c λa=>mk d λb=>lI (ad a 10) λe=>lI (ad b 10) λf=>br (e==f) (lI (ad a 11) λg=>lI (ad b 11) λh=>ib.j1 K a b (g==h)) (ib.j1 K a b false)
def kI(a:OA)(n:LV)(K:VK):WK:=mk n λb=>aJ (ad b 0) 14 λo=>bA o (xI .i64 λc=>br (c !=0) (K (.i c)) (aJ (ad b 0) 2 λp=>fr a p (xI .i64 λd=>br (decide (d>=0)) (tick (aJ (ad b 0) 14 λq=>nn a λe=>lL e λf g r=>iY f g d 14 λs=>aJ s 14 λt=>ib q t (xI .i64 λu=>kp e [.l f g r] (K (.i u))))) (nn a λv=>lL v λJ w M=>br (decide ((w:Int)>=32)) (K (.i 35)) (nn a λx=>lI (x.add 3) λy=>nn a λz=>st (z.add 3) (.i (aa.wrap (y+1))) (nn a λA=>lI (A.add 3) λB=>st (ad b 13) (.i B) (lI (ad b 12) λC=>cu ((2:Int)≠0) (st (ad b 12) (.i (aa.wrap ((aa.wrap (C.tdiv (2:Int)))* 2))) (tick (nn a λh=>lL h λj k m=>aJ (ad b 0) 14 λD=>Kf 14 D λE=>kp h [.l j k m] (iN 14 112 eK j k m (ah E) 1 λF G H=>nn a λI=>st I (.l F G H) (K (.i 0)))))))))))))
def bV(c:LV)(a:Int)(K:VK):WK:=mk c λd=>lI (ad d 13) λe=>cu (a≠0) (cu ((2:Int)≠0) (K (.b (((aa.wrap (e.tdiv a)).tmod (2:Int))==1))))
def gQ(c:LV)(K:VK):WK:=mk c λa=>aJ (ad a 0) 16 λd=>bV d 4 (xB λe=>br e (K (.b true)) (aJ (ad a 0) 16 λf=>bV f 8 (xB λg=>K (.b g))))
def bP.j2(K:VK)(a:Nat)(c:Bool):WK:=br c (K (.b false)) (lI (ad a 13) λd=>br (decide (d<64)) (K (.b true)) (aJ (ad a 0) 16 λe=>bV e 2 (xB λf=>K (.b f))))
def bP.j1(K:VK)(a:Nat)(c:Bool):WK:=br c (K (.b false)) (aJ (ad a 0) 16 λd=>gQ d (xB λe=>br e (lI (ad a 13) λf=>bP.j2 K a (decide (f>=16))) (bP.j2 K a false)))
def bP.j4(K:VK)(a:Nat)(b:Bool):WK:=br b (bP.j1 K a true) (aJ (ad a 0) 16 λc=>bV c 4 (xB λd=>br d (aJ (ad a 0) 16 λe=>bV e 8 (xB λf=>bP.j1 K a f)) (bP.j1 K a false)))
def bP.j3(K:VK)(a:Nat)(b:Bool):WK:=br b (bP.j4 K a true) (aJ (ad a 0) 16 λc=>bV c 2 (xB λd=>br d (aJ (ad a 0) 16 λe=>bV e 8 (xB λf=>bP.j4 K a f)) (bP.j4 K a false)))
def bP(b:LV)(K:VK):WK:=mk b λa=>aJ (ad a 0) 16 λc=>bV c 2 (xB λd=>br d (aJ (ad a 0) 16 λe=>bV e 4 (xB λf=>bP.j3 K a f)) (bP.j3 K a false))
def aY.j5(K:VK)(a:Nat)(b:Int)(c:Bool):WK:=br c (K (.i 8)) (lI (ad a 12) λd=>br (decide (d<b)) (K (.i 9)) (lI (ad a 12) λe=>br (decide (e>=65536)) (K (.i 9)) (K (.i 0))))
def aY.j4(K:VK)(a:Nat)(b:Int):WK:=lI (ad a 11) λc=>br (decide (c<b)) (aY.j5 K a b true) (lI (ad a 11) λd=>aY.j5 K a b (decide (d>=4294967296)))
def aY.j3(K:VK)(a b:Nat)(c:Bool):WK:=br c (K (.i 17)) (aJ (ad a 0) 16 λd=>gQ d (xB λe=>br e (aJ (ad a 8) 2 λf=>aJ (ad b 0) 2 λg=>rT [.u 0,.u 0] f g λh=>br h (K (.i 16)) (aY.j4 K a 0)) (aJ (ad a 2) 2 λj=>aJ (ad b 0) 2 λk=>rT [.u 0,.u 0] j k λl=>br l (K (.i 12)) (aJ (ad a 4) 2 λm=>aJ (ad b 0) 2 λn=>rT [.u 0,.u 0] m n λo=>br o (K (.i 13)) (aJ (ad a 2) 2 λp=>aJ (ad a 4) 2 λq=>rT [.u 0,.u 0] p q λr=>br r (K (.i 14)) (aJ (ad a 8) 2 λs=>aJ (ad b 0) 2 λt=>rT [.u 0,.u 0] s t λv=>br (!v) (K (.i 15)) (aJ (ad a 6) 2 λw=>aJ (ad b 0) 2 λx=>rT [.u 0,.u 0] w x λy=>br y (aJ (ad a 0) 16 λz=>bV z 16 (xB λA=>br (!A) (aJ (ad a 0) 16 λB=>bV B 32 (xB λC=>br (!C) (K (.i 18)) (aY.j4 K a 1))) (aY.j4 K a 1))) (aY.j4 K a 1))))))))
def aY.j6(K:VK)(a b:Nat)(c:Bool):WK:=br c (aY.j3 K a b true) (lI (ad a 10) λd=>br (decide (d>0)) (aJ (ad a 0) 16 λe=>bV e 2 (xB λf=>aY.j3 K a b (!f))) (aY.j3 K a b false))
def aY.j2(K:VK)(a b:Nat)(c:Bool):WK:=br c (K (.i 7)) (lI (ad a 10) λd=>br (decide (d<0)) (aY.j6 K a b true) (lI (ad a 10) λe=>aY.j6 K a b (decide (e>1073741824))))
def aY.j1(K:VK)(a b:Nat)(c:Bool):WK:=br c (K (.i 3)) (aJ (ad a 0) 2 λd=>aJ (ad b 0) 2 λe=>rT [.u 0,.u 0] d e λf=>br f (K (.i 4)) (aJ (ad a 0) 2 λg=>kv g (xS λh=>br (pP h (⟨#[51,52,48,50,56,50,51,54,54,57,50,48,57,51,56,52,54,51,52,54,51,51,55,52,54,48,55,52,51,49,55,54,56,50,49,49,52,53,53]⟩:BA)) (K (.i 5)) (aJ (ad a 0) 16 λj=>bP j (xB λk=>br (!k) (K (.i 6)) (lI (ad a 14) λl=>br (l !=0) (aY.j2 K a b true) (lI (ad a 15) λm=>aY.j2 K a b (m !=0))))))))
def aY(c:LV)(K:VK):WK:=mk c λa=>cu True (mk [.u 0,.u 0] λb=>cu (2=2) (jU (ad b 0) [.u 0,.u 0] (lI (ad a 13) λd=>br (decide (d<0)) (aY.j1 K a b true) (lI (ad a 13) λe=>aY.j1 K a b (decide (e>255))))))
def ic(n:OA)(o:LV)(K:VK):WK:=mk o λq=>nn n λr=>lL (r.add 1) λs j t=>(lp [.p (some (ad q 0)),.i 0,.l s j t,.i (j:Int),.i 0] λk v=>∀b f c d g e a h,k [.p (some b),.i f,.l c d g,.i e,.i a] h->(br (decide (a<e)) (iY c d a 33 λw=>aJ w 33 λx=>mk cI λm=>bD 33 (ad m 0) x (aJ (ad m 16) 2 λy=>aJ b 2 λz=>rT [.u 0,.u 0] y z λA=>br A (K (.i a)) ((ct k v [.p (some b),.i f,.l c d g,.i e,.i (aa.wrap (a+1))] [.p (some b),.i f,.l c d g,.i e,.i a] h)))) (K (.i (-1)))) h)
def lv(c d:LV)(K:VK):WK:=mk c λa=>mk d λb=>lI (ad a 13) λe=>cu ((2:Int)≠0) (st (ad a 13) (.i (aa.wrap (e.tdiv (2:Int)))) (lI (ad b 13) λf=>cu ((2:Int)≠0) (st (ad b 13) (.i (aa.wrap (f.tdiv (2:Int)))) (aJ (ad a 0) 16 λg=>aJ (ad b 0) 16 λh=>rT iD g h λj=>br j (K (.i 10)) (K (.i 11))))))
def jd(k l:LV)(K:VK):WK:=mk k λm=>mk l λn=>(lp [.p (some (ad m 0)),.p (some (ad n 0)),.b false,.i 127] λg o=>∀d c e a f,g [.p (some d),.p (some c),.b e,.i a] f->(br (decide (a>=0)) (tick (aJ d 2 λq=>aJ c 2 λh=>fS q a (xI .i64 λr=>kp c h (fS h a (xI .i64 λs=>br (r !=s) (tick (aJ d 2 λt=>aJ c 2 λj=>fS t a (xI .i64 λu=>kp c j (fS j a (xI .i64 λv=>K (.b (decide (u<v)))))))) ((ct g o [.p (some d),.p (some c),.b e,.i (aa.wrap (a-1))] [.p (some d),.p (some c),.b e,.i a] f))))))) (K (.b false))) f)
def dx.j1(K:VK)(a:Nat)(c d e:Int)(f:Bool):WK:=br f (cu True (cu (2=2) (jU (ad a 0) [.u 0,.u 0] (aJ (ad a 0) 2 λg=>K (.tuple ⟨[.agg ⟨g⟩,.b false]⟩))))) (cu (1=1/\(1=1/\True)) (cu (2=2) (jU (ad a 0) [.u e,.u (IntKind.u64.wrap (c+d))] (aJ (ad a 0) 2 λh=>K (.tuple ⟨[.agg ⟨h⟩,.b true]⟩)))))
def dx(i j:LV)(K:VK):WK:=mk i λc=>mk j λg=>mk [.u 0,.u 0] λf=>lU (ad c 1) λd=>lU (ad g 1) λe=>lU (ad c 0) λa=>lU (ad g 0) λb=>lU (ad c 0) λh=>lU (ad c 1) λk=>br (decide ((IntKind.u64.wrap (d+e))<k)) (br (decide ((IntKind.u64.wrap (a+b))<h)) (dx.j1 K f d e (IntKind.u64.wrap ((IntKind.u64.wrap (a+b))+1)) true) (dx.j1 K f d e (IntKind.u64.wrap ((IntKind.u64.wrap (a+b))+1)) ((IntKind.u64.wrap ((IntKind.u64.wrap (a+b))+1))==0))) (dx.j1 K f d e (IntKind.u64.wrap (a+b)) (decide ((IntKind.u64.wrap (a+b))<h)))
def jG(c d:LV)(K:VK):WK:=mk c λe=>mk d λf=>mk [.u 0,.u 0] λa=>aJ (ad e 0) 2 λg=>aJ (ad f 0) 2 λh=>dx g h (x2 λi j=>(xA 2 λk=>(xB λn=>mk [.u 0,.u 0] λb=>bD 2 (ad b 0) k (aJ (ad b 0) 2 λl=>bD 2 (ad a 0) l (aJ (ad a 0) 2 λm=>K (.agg ⟨m⟩)))) j) i)
def ar.Xp(K:VK)(a:Addr)(h:LI)(b:Addr)(c:OA)(d e:Nat)(f g:Int)(j:LM)(k:World)(m:Bool):WK:=br m (lI (a.add 12) λn=>cu ((8:Int)≠0) (st (a.add 12) (.i (aa.wrap ((n.tmod (8:Int))+8))) ((ct h j [.p (some b),.p (some a),.l c d e,.i f,.i (aa.wrap (g+1))] [.p (some b),.p (some a),.l c d e,.i f,.i g] k)))) ((ct h j [.p (some b),.p (some a),.l c d e,.i f,.i (aa.wrap (g+1))] [.p (some b),.p (some a),.l c d e,.i f,.i g] k))
def ar.Jh(K:VK)(k:Nat)(a:Addr)(b:LI)(c:Addr)(d:OA)(e f:Nat)(g h:Int)(i:LM)(j:World)(l:Bool):WK:=br l (lI (ad k 32) λm=>br (m==1) (ar.Xp K a b c d e f g h i j true) (lI (ad k 32) λn=>ar.Xp K a b c d e f g h i j (n==2))) (ar.Xp K a b c d e f g h i j false)
def ar.Zo(K:VK)(b:Nat)(a:Addr)(c:LI)(d:Addr)(e:OA)(f g:Nat)(h i:Int)(j:LM)(k:World)(l:Nat)(m:Bool):WK:=br m (ar.Jh K b a c d e f g h i j k true) (aJ (ad l 0) 16 λn=>bV n 128 (xB λo=>br o (aJ (ad l 4) 2 λp=>aJ a 2 λq=>rT [.u 0,.u 0] p q λr=>ar.Jh K b a c d e f g h i j k r) (ar.Jh K b a c d e f g h i j k false)))
def ar.j9(K:VK)(a:Nat)(b:Addr)(c:Nat)(d:LI)(e:Addr)(f:OA)(g h:Nat)(i j:Int)(k:LM)(l:World):WK:=aJ (ad a 0) 16 λm=>bV m 64 (xB λn=>br n (aJ (ad a 2) 2 λo=>aJ b 2 λp=>rT [.u 0,.u 0] o p λq=>ar.Zo K c b d e f g h i j k l a q) (ar.Zo K c b d e f g h i j k l a false))
def ar.j8(K:VK)(a:Addr)(b c:Nat)(d:LI)(e:Addr)(f:OA)(g h:Nat)(i j:Int)(k:LM)(l:World)(m:Bool):WK:=br m (aJ (a.add 6) 2 λn=>aJ (ad b 6) 2 λo=>jG n o (xA 2 λp=>bD 2 (a.add 6) p (ar.j9 K b a c d e f g h i j k l))) (ar.j9 K b a c d e f g h i j k l)
def ar.j7(K:VK)(a b:Nat)(c:Addr)(d:LI)(e:Addr)(f:OA)(g h:Nat)(i j:Int)(k:LM)(l:World):WK:=lI (ad a 32) λm=>br (m==1) (aJ (ad b 4) 2 λn=>aJ c 2 λo=>rT [.u 0,.u 0] n o λp=>ar.j8 K c b a d e f g h i j k l p) (ar.j8 K c b a d e f g h i j k l false)
def ar.j6(K:VK)(a:Addr)(b c:Nat)(d:LI)(e:Addr)(f:OA)(g h:Nat)(i j:Int)(k:LM)(l:World)(m:Bool):WK:=br m (aJ (a.add 2) 2 λn=>aJ (ad b 6) 2 λo=>jG n o (xA 2 λp=>bD 2 (a.add 2) p (ar.j7 K c b a d e f g h i j k l))) (ar.j7 K c b a d e f g h i j k l)
def ar.j5(K:VK)(a b:Nat)(c:Addr)(d:LI)(e:Addr)(f:OA)(g h:Nat)(i j:Int)(k:LM)(l:World):WK:=lI (ad a 32) λm=>br (m==1) (aJ (ad b 2) 2 λn=>aJ c 2 λo=>rT [.u 0,.u 0] n o λp=>ar.j6 K c b a d e f g h i j k l p) (ar.j6 K c b a d e f g h i j k l false)
def ar.j4(K:VK)(a:Addr)(b c:Nat)(d:LI)(e:Addr)(f:OA)(g h:Nat)(i j:Int)(k:LM)(l:World)(m:Bool):WK:=br m (aJ (a.add 8) 2 λn=>aJ (ad b 6) 2 λo=>jG n o (xA 2 λp=>bD 2 (a.add 8) p (ar.j5 K c b a d e f g h i j k l))) (ar.j5 K c b a d e f g h i j k l)
def ar.j3(K:VK)(m:Bool)(a:Nat)(b:Addr)(c:Nat)(d:LI)(e:Addr)(f:OA)(g h:Nat)(i j:Int)(k:LM)(l:World):WK:=br m (aJ (ad a 4) 2 λn=>aJ b 2 λo=>rT [.u 0,.u 0] n o λp=>ar.j4 K b a c d e f g h i j k l p) (ar.j4 K b a c d e f g h i j k l false)
def ar.j2(K:VK)(a:Addr)(b:Nat)(c:Bool)(d:Nat)(e:LI)(f:Addr)(g:OA)(h i:Nat)(j k:Int)(l:LM)(m:World)(n:Bool):WK:=br n (aJ (a.add 4) 2 λo=>aJ (ad b 6) 2 λp=>jG o p (xA 2 λq=>bD 2 (a.add 4) q (ar.j3 K c b a d e f g h i j k l m))) (ar.j3 K c b a d e f g h i j k l m)
def ar.j1(K:VK)(a:Nat)(b:Addr)(d:Nat)(e:LI)(f:Addr)(g:OA)(h i:Nat)(j k:Int)(l:LM)(m:World)(c:Bool):WK:=br c (aJ (ad a 2) 2 λn=>aJ b 2 λo=>rT [.u 0,.u 0] n o λp=>ar.j2 K b a c d e f g h i j k l m p) (ar.j2 K b a c d e f g h i j k l m false)
def ar(n:OA)(s:Int)(K:VK):WK:=mk eK λt=>nn n λu=>lL u λv w O=>iY v w s 14 λx=>aJ x 14 λy=>mk eK λo=>bD 14 (ad o 0) y (nn n λz=>lL (z.add 1) λA q B=>(lp [.p (some (ad t 0)),.p (some (ad o 0)),.l A q B,.i (q:Int),.i 0] λk r=>∀a d e f m g b h,k [.p (some a),.p (some d),.l e f m,.i g,.i b] h->(br (decide (b<g)) (iY e f b 33 λC=>aJ C 33 λD=>mk cI λj=>bD 33 (ad j 0) D (aJ (ad j 16) 16 λE=>mk iD λc=>bD 16 (ad c 0) E (aJ (ad c 0) 16 λF=>bV F 2 (xB λG=>br (!G) (aJ (ad c 0) 16 λH=>bV H 8 (xB λI=>ar.j1 K c d j k a e f m g b r h (!I))) (ar.j1 K c d j k a e f m g b r h false))))) (aJ d 14 λJ=>bD 14 a J (aJ a 14 λM=>K (.agg ⟨M⟩)))) h))
def gJ(d:OA)(e:LV)(f:Int)(K:VK):WK:=mk e λg=>ig d (xP λa=>nn a λh=>lL (h.add 1) λj k q=>iY j k f 33 λl=>st (l.add 32) (.i 3) (aJ (ad g 0) 2 λm=>fr a m (xI .i64 λn=>ar a n (xA 14 λo=>(λw=>∃c,o[12]?=some c/\(xI .i64 λp=>K (.b (decide (p>=8)))) c w)))))
def ie(a:OA)(m n:LV)(f:Int)(K:VK):WK:=mk m λe=>mk n λb=>nn a λo=>lI (o.add 3) λp=>nn a λq=>st (q.add 3) (.i (aa.wrap (p+1))) (nn a λr=>lI (r.add 3) λs=>st (ad b 14) (.i s) (nn a λt=>lI (t.add 2) λu=>st (ad b 15) (.i u) (tick (nn a λg=>lL (g.add 1) λh j k=>aJ (ad e 0) 16 λc=>aJ (ad b 0) 16 λd=>cu (c.length=16/\(d.length=16/\(1=1/\True))) (cu ((c++(d++([.i f]:LV))).length=33/\True) (mk ((c++(d++([.i f]:LV)))++[]) λv=>kp (ad b 0) d (kp (ad e 0) c (kp (g.add 1) [.l h j k] (iN 33 264 cI h j k (ah v) 1 λw x y=>kp (ad b 0) d (kp (ad e 0) c (nn a λz=>st (z.add 1) (.l w x y) (K (.tuple ⟨[]⟩)))))))))))))
def az.j6(K:VK)(c b d:Nat)(e:OA):WK:=aJ (ad c 0) 16 λf=>mk iD λa=>bD 16 (ad a 0) f (aJ (ad b 2) 2 λg=>bD 2 (ad a 2) g (aJ (ad b 4) 2 λh=>bD 2 (ad a 4) h (aJ (ad d 0) 2 λj=>bD 2 (ad a 6) j (lI (ad b 11) λk=>st (ad a 11) (.i k) (lI (ad b 12) λl=>st (ad a 12) (.i l) (aJ (ad c 0) 16 λm=>aJ (ad a 0) 16 λn=>ie e m n 0 (x0 (K (.i 0)))))))))
def az.j5(K:VK)(a:OA)(b:Int)(f:Bool)(c d e:Nat)(g:Bool):WK:=br g (K (.i 31)) (nn a λh=>lL (h.add 1) λs j t=>br (decide ((j:Int)>=96)) (K (.i 35)) (nn a λk=>lL (k.add 1) λl m u=>iY l m b 33 λn=>st (n.add 32) (.i 3) (br f (nn a λo=>lL (o.add 1) λp q v=>iY p q b 33 λr=>st (r.add 32) (.i 2) (az.j6 K c d e a)) (az.j6 K c d e a))))
def az.j4(K:VK)(a:Bool)(b:Nat)(c:OA)(d:Int)(e f:Nat)(g:Bool):WK:=br g (K (.i 30)) (br a (aJ (ad b 4) 2 λh=>gJ c h d (xB λj=>az.j5 K c d a e b f j)) (az.j5 K c d a e b f false))
def az.j3(K:VK)(a:Bool)(b:Nat)(c:OA)(d:Int)(e f:Nat)(g:Bool):WK:=br g (K (.i 26)) (br a (aJ (ad b 2) 2 λh=>gJ c h d (xB λj=>az.j4 K a b c d e f j)) (az.j4 K a b c d e f false))
def az.j7(K:VK)(a:Bool)(b:Nat)(d:OA)(e:Int)(f c:Nat)(g:Bool):WK:=br g (az.j3 K a b d e f c true) (br (!a) (aJ (ad c 0) 2 λh=>aJ (ad b 6) 2 λi=>rT [.u 0,.u 0] h i λj=>az.j3 K a b d e f c (!j)) (az.j3 K a b d e f c false))
def az.j2(K:VK)(a:Bool)(b c:Nat)(d:OA)(e:Int)(f:Nat):WK:=br a (aJ (ad b 6) 2 λg=>aJ (ad c 0) 2 λh=>jd g h (xB λi=>az.j7 K a b d e f c i)) (az.j7 K a b d e f c false)
def az.j1(K:VK)(b:OA)(c:Int)(d g e:Nat)(h:Bool):WK:=br h (K (.i 25)) (nn b λj=>lL (j.add 1) λk l A=>iY k l c 33 λm=>lI (m.add 32) λn=>br (decide (n>1)) (nn b λo=>lL (o.add 1) λp q B=>iY p q c 33 λr=>lI (r.add 32) λs=>K (.i (aa.wrap (25+s)))) (aJ (ad d 0) 16 λt=>bV t 4 (xB λf=>aJ (ad d 6) 2 λv=>mk [.u 0,.u 0] λa=>bD 2 (ad a 0) v (aJ (ad a 0) 2 λw=>aJ (ad g 0) 2 λx=>rT [.u 0,.u 0] w x λy=>br y (aJ (ad e 6) 2 λz=>bD 2 (ad a 0) z (az.j2 K f e a b c d)) (az.j2 K f e a b c d)))))
def az.Jh(K:VK)(c:OA)(d:Int)(a e b:Nat)(f:Bool):WK:=br f (az.j1 K c d a e b true) (lI (ad a 12) λg=>br (g !=0) (lI (ad a 12) λh=>lI (ad b 12) λi=>az.j1 K c d a e b (h !=i)) (az.j1 K c d a e b false))
def az.j9(K:VK)(c:OA)(d:Int)(a e b:Nat)(f:Bool):WK:=br f (az.Jh K c d a e b true) (lI (ad a 11) λg=>br (g !=0) (lI (ad a 11) λh=>lI (ad b 11) λi=>az.Jh K c d a e b (h !=i)) (az.Jh K c d a e b false))
def az.j8(K:VK)(d:OA)(e:Int)(a b c:Nat)(f:Bool):WK:=br f (az.j9 K d e a b c true) (aJ (ad a 4) 2 λg=>aJ (ad b 0) 2 λh=>rT [.u 0,.u 0] g h λi=>br (!i) (aJ (ad a 4) 2 λj=>aJ (ad c 4) 2 λk=>rT [.u 0,.u 0] j k λl=>az.j9 K d e a b c (!l)) (az.j9 K d e a b c false))
def az(b:OA)(m:LV)(K:VK):WK:=mk m λa=>aJ (ad a 0) 16 λn=>aY n (xI .i64 λf=>br (f !=0) (K (.i f)) (aJ (ad a 0) 16 λo=>gQ o (xB λp=>br (!p) (K (.i 6)) (aJ (ad a 0) 2 λq=>ic b q (xI .i64 λg=>br (decide (g>=0)) (tick (aJ (ad a 0) 16 λr=>nn b λh=>lL (h.add 1) λj k s=>iY j k g 33 λt=>aJ t 16 λv=>lv r v (xI .i64 λw=>kp (h.add 1) [.l j k s] (K (.i w))))) (aJ (ad a 8) 2 λx=>ic b x (xI .i64 λd=>br (decide (d<0)) (K (.i 23)) (nn b λy=>lL (y.add 1) λz A O=>iY z A d 33 λB=>aJ (B.add 16) 16 λC=>mk iD λc=>bD 16 (ad c 0) C (cu True (mk [.u 0,.u 0] λe=>cu (2=2) (jU (ad e 0) [.u 0,.u 0] (aJ (ad c 0) 16 λD=>bV D 2 (xB λE=>br (!E) (K (.i 24)) (aJ (ad a 2) 2 λF=>aJ (ad e 0) 2 λG=>rT [.u 0,.u 0] F G λH=>br (!H) (aJ (ad a 2) 2 λI=>aJ (ad c 2) 2 λJ=>rT [.u 0,.u 0] I J λM=>az.j8 K b d a e c (!M)) (az.j8 K b d a e c false)))))))))))))))
def lq(d e:LV)(K:VK):WK:=mk d λb=>mk e λc=>mk [.u 0,.u 0] λa=>aJ (ad b 0) 2 λf=>aJ (ad c 0) 2 λg=>jd f g (xB λh=>br h (aJ (ad b 0) 2 λi=>bD 2 (ad a 0) i (aJ (ad a 0) 2 λj=>K (.agg ⟨j⟩))) (aJ (ad c 0) 2 λk=>bD 2 (ad a 0) k (aJ (ad a 0) 2 λl=>K (.agg ⟨l⟩))))
def oy(K:VK):WK:=mk [.u 0,.u 0] λa=>cu (1=1/\(1=1/\True)) (cu (2=2) (jU (ad a 0) [.u 18446744073709551615,.u 18446744073709551615] (aJ (ad a 0) 2 λb=>K (.agg ⟨b⟩))))
def pq(d:LV)(a:Int)(K:VK):WK:=mk d λb=>mk [.u 0,.u 0] λc=>br (decide (a>=64)) (lU (ad b 0) λe=>cu ((0:Int)<=(IntKind.u64.wrap (aa.wrap (a-64)))) (lU (ad b 1) λf=>cu (1=1/\(1=1/\True)) (cu (2=2) (jU (ad c 0) [.u (IntKind.u64.wrap (e+(shl .u64 1 (IntKind.u64.wrap (aa.wrap (a-64)))))),.u f] (aJ (ad c 0) 2 λg=>K (.agg ⟨g⟩)))))) (lU (ad b 0) λh=>lU (ad b 1) λi=>cu ((0:Int)<=(IntKind.u64.wrap a)) (cu (1=1/\(1=1/\True)) (cu (2=2) (jU (ad c 0) [.u h,.u (IntKind.u64.wrap (i+(shl .u64 1 (IntKind.u64.wrap a))))] (aJ (ad c 0) 2 λj=>K (.agg ⟨j⟩))))))
def fR.j1(K:VK)(a:Addr)(c:Int)(h:LI)(d e f:Addr)(g:Bool)(j:LM)(k:Int)(l:World)(m n:Int):WK:=br (n==1) (aJ a 2 λo=>pq o c (xA 2 λq=>bD 2 a q ((ct h j [.p (some d),.p (some e),.p (some f),.b g,.p (some a),.i m,.i (aa.wrap (c+1))] [.p (some d),.p (some e),.p (some f),.b g,.p (some a),.i k,.i c] l)))) ((ct h j [.p (some d),.p (some e),.p (some f),.b g,.p (some a),.i m,.i (aa.wrap (c+1))] [.p (some d),.p (some e),.p (some f),.b g,.p (some a),.i k,.i c] l))
def fR(v w:LV)(K:VK):WK:=mk v λo=>mk w λq=>mk [.u 0,.u 0] λj=>aJ (ad o 0) 2 λx=>aJ (ad q 0) 2 λy=>jd x y (xB λz=>br z (cu True (cu (2=2) (jU (ad j 0) [.u 0,.u 0] (aJ (ad j 0) 2 λA=>K (.tuple ⟨[.agg ⟨A⟩,.b false]⟩))))) (cu True (mk [.u 0,.u 0] λr=>cu (2=2) (jU (ad r 0) [.u 0,.u 0] ((lp [.p (some (ad o 0)),.p (some (ad q 0)),.p (some (ad j 0)),.b false,.p (some (ad r 0)),.i 0,.i 0] λk s=>∀f d e l g a c h,k [.p (some f),.p (some d),.p (some e),.b l,.p (some g),.i a,.i c] h->(br (decide (c<128)) (tick (aJ f 2 λB=>aJ d 2 λt=>fS B c (xI .i64 λm=>kp d t (fS t c (xI .i64 λn=>br (decide ((aa.wrap ((aa.wrap (m-n)) -a))<0)) (fR.j1 K g c k f d e l s a h 1 (aa.wrap ((aa.wrap ((aa.wrap (m-n)) -a))+2))) (fR.j1 K g c k f d e l s a h 0 (aa.wrap ((aa.wrap (m-n)) -a)))))))) (aJ g 2 λC=>bD 2 e C (aJ e 2 λD=>K (.tuple ⟨[.agg ⟨D⟩,.b true]⟩)))) h))))))
def dy.j2(K:VK)(c d a:Nat):WK:=aJ (ad c 0) 2 λe=>aJ (ad d 0) 2 λf=>fR e f (x2 λg h=>(xA 2 λi=>(xB λl=>mk [.u 0,.u 0] λb=>bD 2 (ad b 0) i (aJ (ad b 0) 2 λj=>bD 2 (ad a 0) j (aJ (ad a 0) 2 λk=>K (.agg ⟨k⟩)))) h) g)
def dy.j1(K:VK)(d e b c:Nat):WK:=aJ (ad d 0) 2 λf=>aJ (ad e 0) 2 λg=>dx f g (x2 λh i=>(xA 2 λj=>(xB λk=>mk [.u 0,.u 0] λa=>bD 2 (ad a 0) j (br (!k) (oy (xA 2 λl=>bD 2 (ad a 0) l (dy.j2 K b a c))) (dy.j2 K b a c))) i) h)
def dy(f:LV)(g:Bool)(K:VK):WK:=mk f λa=>mk [.u 0,.u 0] λe=>aJ (ad a 4) 2 λh=>mk [.u 0,.u 0] λb=>bD 2 (ad b 0) h (aJ (ad a 6) 2 λi=>mk [.u 0,.u 0] λc=>bD 2 (ad c 0) i (aJ (ad a 8) 2 λj=>mk [.u 0,.u 0] λd=>bD 2 (ad d 0) j (br g (aJ (ad a 8) 2 λk=>bD 2 (ad b 0) k (aJ (ad a 2) 2 λl=>bD 2 (ad c 0) l (aJ (ad a 4) 2 λm=>bD 2 (ad d 0) m (dy.j1 K c d b e)))) (dy.j1 K c d b e))))
def ch.j4(K:VK)(e:Bool)(c a d b:Nat):WK:=br e (aJ (ad c 0) 2 λf=>bD 2 (ad a 2) f (aJ (ad d 0) 2 λg=>bD 2 (ad a 4) g (aJ (ad a 0) 14 λh=>bD 14 (ad b 0) h (aJ (ad b 0) 14 λj=>K (.tuple ⟨[.agg ⟨j⟩,.i 0]⟩))))) (aJ (ad c 0) 2 λk=>bD 2 (ad a 6) k (aJ (ad d 0) 2 λl=>bD 2 (ad a 8) l (aJ (ad a 0) 14 λm=>bD 14 (ad b 0) m (aJ (ad b 0) 14 λn=>K (.tuple ⟨[.agg ⟨n⟩,.i 0]⟩)))))
def ch.j3(K:VK)(e:Bool)(b a:Nat)(g:Bool)(c f d:Nat)(h:Bool):WK:=br h (br e (aJ (ad b 0) 14 λj=>bD 14 (ad a 0) j (aJ (ad a 0) 14 λk=>K (.tuple ⟨[.agg ⟨k⟩,.i 33]⟩))) (aJ (ad b 0) 14 λl=>bD 14 (ad a 0) l (aJ (ad a 0) 14 λm=>K (.tuple ⟨[.agg ⟨m⟩,.i 34]⟩)))) (br g (aJ (ad c 0) 2 λn=>aJ (ad f 0) 2 λo=>dx n o (x2 λp q=>(xA 2 λr=>(xB λx=>bD 2 (ad c 0) r (ch.j4 K e c b d a)) q) p)) (aJ (ad d 0) 2 λs=>aJ (ad f 0) 2 λt=>dx s t (x2 λu v=>(xA 2 λw=>(xB λy=>bD 2 (ad d 0) w (ch.j4 K e c b d a)) v) u)))
def ch.j2(K:VK)(a b:Nat)(k:Int)(c:Nat)(d f:Bool)(g h:Nat)(l:Bool):WK:=br l (aJ (ad a 0) 14 λm=>bD 14 (ad b 0) m (aJ (ad b 0) 14 λn=>K (.tuple ⟨[.agg ⟨n⟩,.i 32]⟩))) (tick (lI (ad a 12) λe=>br ((de .i64 .and e k)!=0) (aJ (ad a 0) 14 λo=>aJ (ad c 0) 2 λj=>dy o d (xA 2 λp=>kp (ad c 0) j (kp (ad a 12) [.i e] (jd p j (xB λq=>kp (ad a 12) [.i e] (ch.j3 K d a b f g c h q)))))) (ch.j3 K d a b f g c h false)))
def ch.j1(K:VK)(a b c d e:Nat)(f g:Bool)(h:Int):WK:=aJ (ad a 0) 2 λj=>aJ (ad b 0) 2 λk=>dx j k (x2 λl m=>(xA 2 λn=>(xB λo=>mk [.u 0,.u 0] λi=>bD 2 (ad i 0) n (aJ (ad i 0) 2 λp=>aJ (ad c 0) 2 λq=>dx p q (x2 λr s=>(xA 2 λt=>(xB λv=>mk [.u 0,.u 0] λw=>bD 2 (ad w 0) t (br (!o) (ch.j2 K d e h c f g a b true) (ch.j2 K d e h c f g a b (!v)))) s) r))) m) l)
def ch(h:LV)(d:Bool)(i:LV)(e:Bool)(K:VK):WK:=mk h λa=>mk i λf=>mk eK λg=>aJ (ad a 6) 2 λj=>mk [.u 0,.u 0] λb=>bD 2 (ad b 0) j (aJ (ad a 8) 2 λk=>mk [.u 0,.u 0] λc=>bD 2 (ad c 0) k (br d (aJ (ad a 2) 2 λl=>bD 2 (ad b 0) l (aJ (ad a 4) 2 λm=>bD 2 (ad c 0) m (ch.j1 K b c f a g d e 2))) (ch.j1 K b c f a g d e 4)))
def bU.j3(K:VK)(a h c j:Nat)(e:OA):WK:=aJ (ad a 0) 16 λk=>bV k 2 (xB λd=>aJ (ad h 0) 14 λl=>aJ (ad c 0) 2 λm=>ch l true m d (x2 λn o=>(xA 14 λz=>(xI .i64 λf=>br (f !=0) (K (.i f)) (aJ (ad j 0) 14 λp=>aJ (ad c 0) 2 λq=>ch p false q d (x2 λr s=>(xA 14 λA=>(xI .i64 λg=>br (g !=0) (K (.i g)) (aJ (ad a 0) 16 λt=>mk iD λb=>bD 16 (ad b 0) t (aJ (ad c 0) 2 λu=>bD 2 (ad b 6) u (br d (aJ (ad a 0) 16 λv=>aJ (ad b 0) 16 λw=>ie e v w 1 (x0 (K (.i 0)))) (aJ (ad a 0) 16 λx=>aJ (ad b 0) 16 λy=>ie e x y 0 (x0 (K (.i 0)))))))) s) r))) o) n))
def bU.j2(K:VK)(b a c g d:Nat)(e:OA):WK:=aJ (ad b 0) 16 λh=>bV h 32 (xB λj=>br j (tick (aJ (ad a 0) 2 λf=>aJ (ad c 0) 14 λk=>dy k false (xA 2 λl=>kp (ad a 0) f (lq f l (xA 2 λm=>bD 2 (ad a 0) m (aJ (ad a 0) 2 λn=>aJ (ad g 0) 2 λo=>rT [.u 0,.u 0] n o λp=>br p (K (.i 34)) (bU.j3 K b d a c e))))))) (bU.j3 K b d a c e))
def bU.j1(K:VK)(b a c d e:Nat)(f:OA):WK:=aJ (ad b 0) 16 λh=>bV h 16 (xB λj=>br j (tick (aJ (ad a 0) 2 λg=>aJ (ad c 0) 14 λk=>dy k true (xA 2 λl=>kp (ad a 0) g (lq g l (xA 2 λm=>bD 2 (ad a 0) m (aJ (ad a 0) 2 λn=>aJ (ad d 0) 2 λo=>rT [.u 0,.u 0] n o λp=>br p (K (.i 33)) (bU.j2 K b a e d c f))))))) (bU.j2 K b a e d c f))
def bU(b:OA)(p:LV)(K:VK):WK:=mk p λa=>aJ (ad a 0) 16 λq=>aY q (xI .i64 λg=>br (g !=0) (K (.i g)) (aJ (ad a 0) 16 λr=>gQ r (xB λs=>br s (K (.i 6)) (aJ (ad a 0) 2 λt=>ic b t (xI .i64 λh=>br (decide (h>=0)) (tick (aJ (ad a 0) 16 λv=>nn b λj=>lL (j.add 1) λk m w=>iY k m h 33 λx=>aJ x 16 λy=>lv v y (xI .i64 λz=>kp (j.add 1) [.l k m w] (K (.i z))))) (aJ (ad a 2) 2 λA=>fr b A (xI .i64 λn=>aJ (ad a 4) 2 λB=>fr b B (xI .i64 λo=>br (decide (n<0)) (K (.i 19)) (br (decide (o<0)) (K (.i 20)) (ar b n (xA 14 λC=>mk eK λc=>bD 14 (ad c 0) C (ar b o (xA 14 λD=>mk eK λd=>bD 14 (ad d 0) D (lI (ad c 10) λE=>lI (ad d 10) λF=>br (E !=F) (K (.i 21)) (lI (ad c 10) λG=>lI (ad a 11) λH=>br (G !=H) (K (.i 22)) (lI (ad c 12) λI=>br (decide (I>=8)) (K (.i 30)) (lI (ad d 12) λJ=>br (decide (J>=8)) (K (.i 31)) (nn b λM=>lL (M.add 1) λT O V=>br (decide ((O:Int)>=96)) (K (.i 35)) (cu True (mk [.u 0,.u 0] λf=>cu (2=2) (jU (ad f 0) [.u 0,.u 0] (aJ (ad a 6) 2 λP=>mk [.u 0,.u 0] λe=>bD 2 (ad e 0) P (aJ (ad e 0) 2 λQ=>aJ (ad f 0) 2 λR=>rT [.u 0,.u 0] Q R λS=>br S (cu (1=1/\(1=1/\True)) (cu (2=2) (jU (ad e 0) [.u 18446744073709551615,.u 18446744073709551615] (bU.j1 K a e c f d b)))) (bU.j1 K a e c f d b))))))))))))))))))))))))
def jk.j1(K:VK)(a:Nat)(b:OA)(c:Bool):WK:=br c (aJ (ad a 15) 16 λd=>az b d (xI .i64 λe=>K (.i e))) (aJ (ad a 15) 16 λf=>bU b f (xI .i64 λg=>K (.i g)))
def jk(b:OA)(c:LV)(K:VK):WK:=mk c λa=>lT (ad a 0) λd=>br d (aJ (ad a 1) 14 λe=>kI b e (xI .i64 λf=>K (.i f))) (aJ (ad a 15) 16 λg=>aY g (xI .i64 λh=>br (h==0) (aJ (ad a 15) 16 λj=>gQ j (xB λk=>jk.j1 K a b k)) (jk.j1 K a b false)))
def cz.j3(K:VK)(u:LI)(v:LM)(w x:OA)(y z:Nat)(A B:OA)(C D:Nat)(E:Int)(F:World)(H I:OA)(J M:Nat)(O P:OA)(Q R:Nat)(G S T V:Int)(W:OA):WK:=(lp [.p H,.l I J M,.p O,.l P Q R,.i G,.i S,.i T,.i V,.p W,.i G] λs t=>∀m c d e f g h j q a b n o k r,s [.p m,.l c d e,.p f,.l g h j,.i q,.i a,.i b,.i n,.p o,.i k] r->(br (decide (k<=a)) (br (decide (b<0)) (cu (1=1/\True) (mk [.i 0] λX=>iN 1 8 [.i 0] g h j (ah X) 1 λY Z KH=>(ct s t [.p m,.l c d e,.p f,.l Y Z KH,.i q,.i a,.i b,.i n,.p o,.i (aa.wrap (k+1))] [.p m,.l c d e,.p f,.l g h j,.i q,.i a,.i b,.i n,.p o,.i k] r))) (br (k==b) (cu (1=1/\True) (mk [.i n] λr2=>iN 1 8 [.i 0] g h j (ah r2) 1 λWz QH Wx=>(ct s t [.p m,.l c d e,.p f,.l Wz QH Wx,.i q,.i a,.i b,.i n,.p o,.i (aa.wrap (k+1))] [.p m,.l c d e,.p f,.l g h j,.i q,.i a,.i b,.i n,.p o,.i k] r))) (cu (1=1/\True) (mk [.i 1] λr3=>iN 1 8 [.i 0] g h j (ah r3) 1 λKJ IU Nq=>(ct s t [.p m,.l c d e,.p f,.l KJ IU Nq,.i q,.i a,.i b,.i n,.p o,.i (aa.wrap (k+1))] [.p m,.l c d e,.p f,.l g h j,.i q,.i a,.i b,.i n,.p o,.i k] r))))) (br (decide (b<0)) ((ct u v [.p o,.l c d e,.p f,.l g h j,.i (aa.wrap (a+1))] [.p w,.l x y z,.p A,.l B C D,.i E] F)) ((ct u v [.p m,.l c d e,.p f,.l g h j,.i (aa.wrap (a+1))] [.p w,.l x y z,.p A,.l B C D,.i E] F)))) r)
def cz.j4(K:VK)(v:OA)(w:Nat)(a:Int)(b:OA)(s:LI)(c d:OA)(e f:Nat)(g h:OA)(j k:Nat)(m n:Int)(t:LM)(o q:Int)(u:World)(x:LI)(y:LM)(z A:OA)(B C:Nat)(D E:OA)(F G:Nat)(H:Int)(I:World)(J:Bool):WK:=br J (iY v w a 31 λM=>aJ M 31 λO=>jk b O (xI .i64 λr=>br (r !=0) ((ct s t [.p c,.l d e f,.p g,.l h j k,.i m,.i n,.i a,.i r,.p b,.i (aa.wrap (a+1))] [.p c,.l d e f,.p g,.l h j k,.i m,.i n,.i o,.i q,.p b,.i a] u)) ((ct s t [.p c,.l d e f,.p g,.l h j k,.i m,.i n,.i o,.i r,.p b,.i (aa.wrap (a+1))] [.p c,.l d e f,.p g,.l h j k,.i m,.i n,.i o,.i q,.p b,.i a] u)))) (cz.j3 K x y z A B C D E F G H I c d e f g h j k m n o q b)
def cz.j2(K:VK)(t M:OA)(O P:Nat)(Q R:OA)(S T:Nat)(u:Int)(v:OA)(w:Nat)(x:LI)(y:LM)(z A:OA)(B C:Nat)(D E:OA)(F G:Nat)(H:Int)(I:World)(V W X:Int):WK:=ig t (xP λY=>(lp [.p t,.l M O P,.p Q,.l R S T,.i u,.i V,.i W,.i X,.p Y,.i u] λe J=>∀f g h j k m n o q a b r s c d,e [.p f,.l g h j,.p k,.l m n o,.i q,.i a,.i b,.i r,.p s,.i c] d->(br (decide (c<=a)) (cz.j4 K v w c s e f g h j k m n o q a J b r d x y z A B C D E F G H I (decide (b<0))) (cz.j4 K v w c s e f g h j k m n o q a J b r d x y z A B C D E F G H I false)) d))
def cz.j1(K:VK)(a:Nat)(b:OA)(c:LI)(d:LM)(e f:OA)(g h:Nat)(i j:OA)(k l:Nat)(m:Int)(n:World)(o p:OA)(q r:Nat)(s t:OA)(u v:Nat)(w x:Int):WK:=br (x==(a:Int)) (cz.j2 K o p q r s t u v w b a c d e f g h i j k l m n (aa.wrap ((a:Int) -1)) (aa.wrap ((a:Int) -1)) 2) (cz.j2 K o p q r s t u v w b a c d e f g h i j k l m n x (-1) 0)
def cz(D y:OA)(c I:Nat)(K:VK):WK:=(lp [.p D,.l none 0 0,.p none,.l none 0 0,.i 0] λz B=>∀d t u v w e f g b x,z [.p d,.l t u v,.p w,.l e f g,.i b] x->(br (decide (b<(c:Int))) ((lp [.p d,.l t u v,.p w,.l e f g,.i b,.i b] λC E=>∀h j k m n o q r s a A,C [.p h,.l j k m,.p n,.l o q r,.i s,.i a] A->(br (decide (a<(c:Int))) (iY y c a 31 λF=>aJ F 31 λG=>nh G (xB λH=>br H ((ct C E [.p h,.l j k m,.p n,.l o q r,.i s,.i (aa.wrap (a+1))] [.p h,.l j k m,.p n,.l o q r,.i s,.i a] A)) (cz.j1 K c y z B d t u v w e f g b x h j k m n o q r s a))) (cz.j1 K c y z B d t u v w e f g b x h j k m n o q r s a)) A)) (K (.tuple ⟨[.l e f g,.p d]⟩))) x)
def jj.j1(K:VK)(a b:OA)(c d:Nat):WK:=cz a b c d (x2 λe f=>(xL λg h j=>(xP λk=>K (.tuple ⟨[.l g h j,.i 0,.p k]⟩)) f) e)
def jj(b:OA)(d:LV)(K:VK):WK:=mk d λa=>aJ (ad a 0) 13 λe=>dS e (xB λf=>br (!f) (K (.tuple ⟨[.l none 0 0,.i 1,.p b]⟩)) (lI (ad a 0) λg=>br (g==3) (ig b (xP λc=>lI (ad a 3) λh=>kG c h (x0 (K (.tuple ⟨[.l none 0 0,.i 0,.p c]⟩))))) (lL (ad a 1) λj k m=>lX j k m (xL λn o q=>lI (ad a 0) λr=>br (r==2) (lL (ad a 2) λs t u=>k9 s t u (xL λv w x=>jj.j1 K b v w x)) (jj.j1 K b n o q)))))
def lW(S:OA)(M T:Nat)(V:OA)(O W:Nat)(K:VK):WK:=(lp [.l none 0 0,.l none 0 0,.l V O W,.i (O:Int),.i 0] λP X=>∀D E F w x y z A G B t H,P [.l D E F,.l w x y,.l z A G,.i B,.i t] H->(br (decide (t<B)) (iY z A t 2 λY=>aJ Y 2 λZ=>mk [.u 0,.u 0] λQ=>bD 2 (ad Q 0) Z ((lp [.l D E F,.l w x y,.p (some (ad Q 0)),.l z A G,.i B,.i t,.l S M T,.i (M:Int),.i 0] λI R=>∀b c d e f g h j k m n o q r v s a C,I [.l b c d,.l e f g,.p (some h),.l j k m,.i n,.i o,.l q r v,.i s,.i a] C->(br (decide (a<s)) (iY q r a 14 λa3=>aJ a3 14 λJM=>mk eK λJ=>bD 14 (ad J 0) JM (aJ (ad J 0) 2 λJL=>aJ h 2 λJK=>rT [.u 0,.u 0] JL JK λb1=>br b1 (aJ (ad J 0) 14 λL8=>Kf 14 L8 λr3=>iN 14 112 eK e f g (ah r3) 1 λQN DG KH=>(ct I R [.l b c d,.l QN DG KH,.p (some h),.l j k m,.i n,.i o,.l q r v,.i s,.i (aa.wrap (a+1))] [.l b c d,.l e f g,.p (some h),.l j k m,.i n,.i o,.l q r v,.i s,.i a] C)) ((ct I R [.l b c d,.l e f g,.p (some h),.l j k m,.i n,.i o,.l q r v,.i s,.i (aa.wrap (a+1))] [.l b c d,.l e f g,.p (some h),.l j k m,.i n,.i o,.l q r v,.i s,.i a] C)))) ((ct P X [.l b c d,.l e f g,.l j k m,.i n,.i (aa.wrap (o+1))] [.l D E F,.l w x y,.l z A G,.i B,.i t] H))) C))) (K (.l w x y))) H)
def k8(S:OA)(M T:Nat)(V:OA)(O W:Nat)(K:VK):WK:=(lp [.l none 0 0,.l none 0 0,.l V O W,.i (O:Int),.i 0] λP X=>∀D E F w x y z A G B t H,P [.l D E F,.l w x y,.l z A G,.i B,.i t] H->(br (decide (t<B)) (iY z A t 2 λY=>aJ Y 2 λZ=>mk [.u 0,.u 0] λQ=>bD 2 (ad Q 0) Z ((lp [.l D E F,.l w x y,.p (some (ad Q 0)),.l z A G,.i B,.i t,.l S M T,.i (M:Int),.i 0] λI R=>∀b c d e f g h j k m n o q r v s a C,I [.l b c d,.l e f g,.p (some h),.l j k m,.i n,.i o,.l q r v,.i s,.i a] C->(br (decide (a<s)) (iY q r a 33 λa3=>aJ a3 33 λJM=>mk cI λJ=>bD 33 (ad J 0) JM (aJ (ad J 16) 2 λJL=>aJ h 2 λJK=>rT [.u 0,.u 0] JL JK λb1=>br b1 (aJ (ad J 16) 16 λL8=>Kf 16 L8 λr3=>iN 16 128 iD e f g (ah r3) 1 λQN DG KH=>(ct I R [.l b c d,.l QN DG KH,.p (some h),.l j k m,.i n,.i o,.l q r v,.i s,.i (aa.wrap (a+1))] [.l b c d,.l e f g,.p (some h),.l j k m,.i n,.i o,.l q r v,.i s,.i a] C)) ((ct I R [.l b c d,.l e f g,.p (some h),.l j k m,.i n,.i o,.l q r v,.i s,.i (aa.wrap (a+1))] [.l b c d,.l e f g,.p (some h),.l j k m,.i n,.i o,.l q r v,.i s,.i a] C)))) ((ct P X [.l b c d,.l e f g,.l j k m,.i n,.i (aa.wrap (o+1))] [.l D E F,.l w x y,.l z A G,.i B,.i t] H))) C))) (K (.l w x y))) H)
def bR.j3(K:VK)(o:Nat)(a:OA)(b c:Nat)(k:LI)(d:Addr)(e:OA)(f g:Nat)(h j:Int)(m:LM)(n:World)(q:Bool):WK:=br q (aJ (ad o 0) 16 λr=>Kf 16 r λs=>iN 16 128 iD a b c (ah s) 1 λt u v=>(ct k m [.p (some d),.l e f g,.l t u v,.i h,.i (aa.wrap (j+1))] [.p (some d),.l e f g,.l a b c,.i h,.i j] n)) ((ct k m [.p (some d),.l e f g,.l a b c,.i h,.i (aa.wrap (j+1))] [.p (some d),.l e f g,.l a b c,.i h,.i j] n))
def bR.j4(K:VK)(b:Nat)(c:OA)(d e:Nat)(f:LI)(a:Addr)(g:OA)(h i:Nat)(j k:Int)(l:LM)(m:World)(n:Bool):WK:=br n (bR.j3 K b c d e f a g h i j k l m true) (lT (a.add 5) λo=>br o (aJ (ad b 4) 2 λp=>aJ a 2 λq=>rT [.u 0,.u 0] p q λr=>bR.j3 K b c d e f a g h i j k l m r) (bR.j3 K b c d e f a g h i j k l m false))
def bR.j2(K:VK)(k:LI)(a:Addr)(b:OA)(c d:Nat)(e:OA)(f g:Nat)(h j:Int)(m:LM)(n:World)(o:Nat)(q:Bool):WK:=br q ((ct k m [.p (some a),.l b c d,.l e f g,.i h,.i (aa.wrap (j+1))] [.p (some a),.l b c d,.l e f g,.i h,.i j] n)) (lT (a.add 4) λr=>br r (aJ (ad o 2) 2 λs=>aJ a 2 λt=>rT [.u 0,.u 0] s t λv=>bR.j4 K o e f g k a b c d h j m n v) (bR.j4 K o e f g k a b c d h j m n false))
def bR.j5(K:VK)(c:LI)(a:Addr)(d:OA)(e f:Nat)(g:OA)(b h:Nat)(i j:Int)(k:LM)(l:World)(m:Nat)(n:Bool):WK:=br n (bR.j2 K c a d e f g b h i j k l m true) (lI (a.add 7) λo=>bR.j2 K c a d e f g b h i j k l m (decide ((b:Int)>=o)))
def bR.j1(K:VK)(n:Nat)(a:Addr)(c:LI)(d:OA)(e f:Nat)(g:OA)(h i:Nat)(j k:Int)(l:LM)(m:World):WK:=aJ (ad n 16) 16 λo=>mk iD λb=>bD 16 (ad b 0) o (lI (ad b 14) λp=>lI (a.add 2) λq=>br (decide (p<q)) (bR.j2 K c a d e f g h i j k l m b true) (lI (a.add 3) λr=>br (r !=0) (lI (ad b 14) λs=>lI (a.add 3) λt=>bR.j5 K c a d e f g h i j k l m b (decide (s>t))) (bR.j5 K c a d e f g h i j k l m b false)))
def bR(q:OA)(b z:Nat)(s:LV)(K:VK):WK:=mk s λt=>(lp [.p (some (ad t 0)),.l none 0 0,.l none 0 0,.i (b:Int),.i 0] λk r=>∀c m n o d e f g a h,k [.p (some c),.l m n o,.l d e f,.i g,.i a] h->(br (decide (a<g)) (iY q b a 33 λu=>aJ u 33 λv=>mk cI λj=>bD 33 (ad j 0) v (lT (c.add 6) λw=>br w (iY q b (aa.wrap ((aa.wrap ((b:Int) -1)) -a)) 33 λx=>aJ x 33 λy=>bD 33 (ad j 0) y (bR.j1 K j c k m n o d e f g a r h)) (bR.j1 K j c k m n o d e f g a r h))) (K (.l d e f))) h)
def nP(e:OA)(f g:Nat)(b:OA)(c d:Nat)(h:LV)(K:VK):WK:=mk h λa=>aJ (ad a 0) 13 λj=>bm j (xB λk=>br (!k) (K (.tuple ⟨[.l none 0 0,.l none 0 0,.i 1]⟩)) (lI (ad a 0) λm=>br (m==4) (lL (ad a 4) λn o p=>lW e f g n o p (xL λq r s=>K (.tuple ⟨[.l q r s,.l none 0 0,.i 0]⟩))) (lI (ad a 0) λt=>br (t==5) (lL (ad a 4) λu v w=>k8 b c d u v w (xL λx y z=>K (.tuple ⟨[.l none 0 0,.l x y z,.i 0]⟩))) (aJ (ad a 5) 8 λA=>bR b c d A (xL λB C D=>K (.tuple ⟨[.l none 0 0,.l B C D,.i 0]⟩))))))
def ia(k:OA)(K:VK):WK:=nn k λn=>lL n λv o w=>(lp [.l none 0 0,.l none 0 0,.i (o:Int),.i 0] λm p=>∀f g h b c d e a j,m [.l f g h,.l b c d,.i e,.i a] j->(br (decide (a<e)) (ar k a (xA 14 λq=>Kf 14 q λr=>iN 14 112 eK b c d (ah r) 1 λs t u=>(ct m p [.l f g h,.l s t u,.i e,.i (aa.wrap (a+1))] [.l f g h,.l b c d,.i e,.i a] j))) (K (.l b c d))) j)
def cQ.j1(K:VK)(k:Nat)(l p:OA)(m:Nat)(q:OA)(r:Bool):WK:=br r (K (.b false)) ((lp [.b false,.i (k:Int),.i 0] λn s=>∀d e a g,n [.b d,.i e,.i a] g->(br (decide (a<e)) (tick (nn l λt=>lL t λu v M=>iY u v a 14 λw=>aJ w 14 λx=>iY p k a 14 λy=>aJ y 14 λz=>rT eK x z λA=>br (!A) (K (.b false)) ((ct n s [.b d,.i e,.i (aa.wrap (a+1))] [.b d,.i e,.i a] g)))) ((lp [.b d,.i (m:Int),.i 0] λo B=>∀h f c j,o [.b h,.i f,.i c] j->(br (decide (c<f)) (tick (nn l λC=>lL (C.add 1) λD E O=>iY D E c 33 λF=>aJ F 33 λG=>iY q m c 33 λH=>aJ H 33 λI=>rT cI G I λJ=>br (!J) (K (.b false)) ((ct o B [.b h,.i f,.i (aa.wrap (c+1))] [.b h,.i f,.i c] j)))) (K (.b true))) j))) g))
def cQ.j3(K:VK)(b:Nat)(a c:OA)(d:Nat)(e:OA)(f:Int)(g:Bool):WK:=br g (cQ.j1 K b a c d e true) (nn a λh=>lI (h.add 3) λi=>cQ.j1 K b a c d e (i !=f))
def cQ.j2(K:VK)(b:Nat)(a c:OA)(d:Nat)(e:OA)(f g:Int)(h:Bool):WK:=br h (cQ.j3 K b a c d e f true) (nn a λi=>lI (i.add 2) λj=>cQ.j3 K b a c d e f (j !=g))
def cQ(a d:OA)(b l:Nat)(e:OA)(c m:Nat)(f g:Int)(K:VK):WK:=nn a λh=>lL h λn i o=>br ((i:Int)!=(b:Int)) (cQ.j2 K b a d c e g f true) (nn a λj=>lL (j.add 1) λp k q=>cQ.j2 K b a d c e g f ((k:Int)!=(c:Int)))
def kH(a m:OA)(n o:Nat)(p:OA)(q r:Nat)(s t:Int)(K:VK):WK:=tick (nn a λc=>lL (c.add 1) λd e f=>nn a λg=>lI (g.add 2) λh=>nn a λj=>lI (j.add 3) λk=>ia a (xL λu v w=>kp (j.add 3) [.i k] (kp (g.add 2) [.i h] (kp (c.add 1) [.l d e f] (cu (1=1/\(1=1/\(1=1/\(1=1/\True)))) (mk [.l u v w,.l d e f,.i h,.i k] λx=>kp (j.add 3) [.i k] (kp (g.add 2) [.i h] (kp (c.add 1) [.l d e f] (cQ (some (ad x 0)) m n o p q r s t (xB λy=>K (.b y)))))))))))
def wI(b:OA)(f:LV)(K:VK):WK:=mk f λc=>mk Ab λa=>br (b.isNone) (cu (1=1/\True) (cu (4=4) (jU (ad a 0) [.i 2,.l none 0 0,.l none 0 0,.l none 0 0] (aJ (ad a 0) 4 λg=>K (.agg ⟨g⟩))))) (aJ (ad c 0) 13 λh=>tG h (xB λj=>br (!j) (cu (1=1/\True) (cu (4=4) (jU (ad a 0) [.i 1,.l none 0 0,.l none 0 0,.l none 0 0] (aJ (ad a 0) 4 λk=>K (.agg ⟨k⟩))))) (mk Ab λd=>lI (ad c 0) λe=>br (e==1) (lL (ad c 1) λm n o=>rW b m n o (xL λp q r=>st (ad d 1) (.l p q r) (lV b (x0 (aJ (ad d 0) 4 λs=>bD 4 (ad a 0) s (aJ (ad a 0) 4 λt=>K (.agg ⟨t⟩))))))) (br (e==2) (lL (ad c 2) λu v w=>qZ b u v w (xL λx y z=>st (ad d 1) (.l x y z) (lV b (x0 (aJ (ad d 0) 4 λA=>bD 4 (ad a 0) A (aJ (ad a 0) 4 λB=>K (.agg ⟨B⟩))))))) (lI (ad c 3) λC=>uw b C (xI .i64 λF=>lV b (x0 (aJ (ad d 0) 4 λD=>bD 4 (ad a 0) D (aJ (ad a 0) 4 λE=>K (.agg ⟨E⟩))))))))))
def mR.j1(K:VK)(k:Nat)(a:OA)(m:LI)(b:OA)(c:Int)(d:Addr)(e:OA)(f g:Nat)(h j:Int)(n:LM)(o:World)(q:Bool):WK:=br q (K (.tuple ⟨[.p none,.i 4]⟩)) (aJ (ad k 0) 13 λr=>wI a r (xA 4 λs=>(ct m n [.p b,.i c,.p a,.p (some d),.l e f g,.i h,.i (aa.wrap (j+1))] [.p b,.i c,.p a,.p (some d),.l e f g,.i h,.i j] o)))
def mR(a:OA)(K:VK):WK:=br (a.isNone) (K (.tuple ⟨[.p none,.i 2]⟩)) (fE a (xI .i64 λA=>ud A (x2 λB C=>(xA 5 λD=>(xI .i64 λt=>mk zi5 λc=>bD 5 (ad c 0) D (br (t !=0) (K (.tuple ⟨[.p none,.i t]⟩)) (aJ (ad c 0) 5 λE=>wX a E (x3 λF G H=>(xP λu=>(xA 4 λI=>(xI .i64 λv=>mk zi4 λm=>bD 4 (ad m 0) I (br (v !=0) (K (.tuple ⟨[.p none,.i v]⟩)) (lI (ad c 3) λJ=>lI (ad c 4) λM=>lI (ad m 3) λO=>kW a J M O (x3 λP Q R=>(xP λS=>(xL λT w V=>(xI .i64 λx=>br (x !=0) (K (.tuple ⟨[.p none,.i x]⟩)) (aJ (ad c 0) 5 λy=>lI (ad m 0) λW=>cu (1=1/\(y.length=5/\(1=1/\(1=1/\(1=1/\True))))) (mk (([.p a]:LV)++(y++([.p u,.p S,.i W,.b false]:LV))) λX=>(lp [.p none,.i 0,.p u,.p (some (ad X 0)),.l T w V,.i (w:Int),.i 0] λn z=>∀o q r e f g s h d j,n [.p o,.i q,.p r,.p (some e),.l f g s,.i h,.i d] j->(br (decide (d<h)) (iY f g d 1 λY=>lS Y λZ=>jI Z (x2 λv9 v10=>(xA 13 λL8=>(xI .i64 λLd=>mk kU λk=>bD 13 (ad k 0) L8 (br (Ld !=0) (mR.j1 K k r n o q e f g s h d z j true) (aJ (ad k 0) 13 λcs8=>qS cs8 (xB λb2=>mR.j1 K k r n o q e f g s h d z j (!b2))))) v10) v9)) (K (.tuple ⟨[.p (some e),.i 0]⟩))) j)))) R) Q) P)))) H) G) F)))) C) B)))
def mQ(b:OA)(f:LV)(K:VK):WK:=mk f λc=>mk Ab λa=>br (b.isNone) (cu (1=1/\True) (cu (4=4) (jU (ad a 0) [.i 2,.l none 0 0,.l none 0 0,.l none 0 0] (aJ (ad a 0) 4 λg=>K (.agg ⟨g⟩))))) (aJ (ad c 0) 13 λh=>qS h (xB λj=>br (!j) (tick (nn b λk=>lP (k.add 6) λm=>aJ (ad c 0) 13 λn=>JQ m n (xA 4 λo=>bD 4 (ad a 0) o (aJ (ad a 0) 4 λp=>K (.agg ⟨p⟩))))) (aJ (ad c 0) 13 λq=>wU q (x2 λr s=>(xS λt=>(xI .i64 λd=>br (d !=0) (cu (1=1/\True) (cu (4=4) (jU (ad a 0) [.i d,.l none 0 0,.l none 0 0,.l none 0 0] (aJ (ad a 0) 4 λu=>K (.agg ⟨u⟩))))) (nn b λv=>lT (v.add 9) λw=>br w (cu (1=1/\True) (cu (4=4) (jU (ad a 0) [.i 9,.l none 0 0,.l none 0 0,.l none 0 0] (aJ (ad a 0) 4 λx=>K (.agg ⟨x⟩))))) (jA b t (xI .i64 λe=>br (e !=0) (cu (1=1/\True) (cu (4=4) (jU (ad a 0) [.i e,.l none 0 0,.l none 0 0,.l none 0 0] (aJ (ad a 0) 4 λy=>K (.agg ⟨y⟩))))) (tick (nn b λz=>lP (z.add 6) λA=>aJ (ad c 0) 13 λB=>wI A B (xA 4 λC=>bD 4 (ad a 0) C (aJ (ad a 0) 4 λD=>K (.agg ⟨D⟩))))))))) s) r))))
end Go.Prog
namespace Go.Up
open Go.Sep Go.Den Go.RowKit Go.Prog Go.Md Go.cH
structure jY where
 op:Int
 aB:List bN
 bQ:List cx
 now:Int
 ids:List Nat
 ye:Nat
 kq:Int
 xD:Int
 wG:Bool
 tW:Bool
 qO:Bool
 kX:Int
structure vH where
 sa:OA
 ca:Nat
 st:OA
 ct:Nat
 si:OA
 ci:Nat
def pW(q:jY):LV:=nm q.ye++[.i q.kq,.i q.xD,.b q.wG,.b q.tW,.b q.qO,.i q.kX]
def fU(q:jY)(s:vH):LV:=[.i q.op,.l s.sa q.aB.length s.ca,.l s.st q.bQ.length s.ct,.i q.now,.l s.si q.ids.length s.ci]++pW q
def Tn(q:jY)(s:vH):(fU q s).length=13:=rfl
instance{q:jY}{s:vH}:Ln (fU q s) 13:=⟨rfl⟩
instance{q:jY}:Ln (pW q) 8:=⟨rfl⟩
instance{q:jY}{s:vH}:Gt (fU q s) 0 (.i q.op):=⟨rfl⟩
instance{q:jY}{s:vH}:Gt (fU q s) 1 (.l s.sa q.aB.length s.ca):=⟨rfl⟩
instance{q:jY}{s:vH}:Gt (fU q s) 2 (.l s.st q.bQ.length s.ct):=⟨rfl⟩
instance{q:jY}{s:vH}:Gt (fU q s) 3 (.i q.now):=⟨rfl⟩
instance{q:jY}{s:vH}:Gt (fU q s) 4 (.l s.si q.ids.length s.ci):=⟨rfl⟩
instance{q:jY}:Gt (pW q) 2 (.i q.kq):=⟨rfl⟩
instance{q:jY}:Gt (pW q) 3 (.i q.xD):=⟨rfl⟩
instance{q:jY}:Gt (pW q) 4 (.b q.wG):=⟨rfl⟩
instance{q:jY}:Gt (pW q) 5 (.b q.tW):=⟨rfl⟩
instance{q:jY}:Gt (pW q) 6 (.b q.qO):=⟨rfl⟩
instance{q:jY}:Gt (pW q) 7 (.i q.kX):=⟨rfl⟩
instance{L:LH}{X:WK}{r o:Nat}{q:jY}{s:vH}{cs:LV}{f:LV->LH}[i:Lc (Sep.pt r) L cs f][s2:Sub cs o 13 (fU q s)]:Wk L (kp ⟨r,o,none⟩ (fU q s) X) L X:=⟨λ_ h=>S4 (n:=13) h⟩
def Bl(q:jY)(s:vH):∀v∈fU q s,v.oneCell'=true:=λv h=>by
 simp[fU,pW,nm] at h;rcases h with rfl|rfl|rfl|rfl|rfl|rfl|rfl|rfl|rfl|rfl|rfl|rfl|rfl<;>rfl
instance{q:jY}{s:vH}:Sub (fU q s) 0 13 (fU q s):=⟨rfl,λj v h=>by rw[aD];exact h⟩
instance{q:jY}{s:vH}:Sub (fU q s) 5 8 (pW q):=⟨rfl,λj v h=>by
 show([_,_,_,_,_]++pW q)[5+j]?=some v
 rw[iJ (by simp)];simpa using h⟩
instance{x1 x2 x3 x4 x5 x6 x7 x8 x9 EC EB EA Ez:Value}{q:jY}{s:vH}:Wr [x1,x2,x3,x4,x5,x6,x7,x8,x9,EC,EB,EA,Ez] 0 (fU q s) (fU q s):=⟨rfl,aF _,Bl q s⟩
def np.mono{α:Type}{W:World}{R R':LH}{g:α->LV}{e:Nat}{s:OA}{l:List α}[h:Has R R'](hr:np W R g e s l):np W R' g e s l:=λw hw=>hr w (h.sub hw)
structure oq(W:World)(R:LH)(q:jY)(s:vH):Prop where
 aB:np W R aO 14 s.sa q.aB
 bQ:np W R aM 16 s.st q.bQ
 ids:np W R nm 2 s.si q.ids
 ca:q.aB.length<=s.ca
 ct:q.bQ.length<=s.ct
 ci:q.ids.length<=s.ci
def nX(e:Int)(rb:OA)(rn rc:Nat)(ab:OA)(an ac:Nat)(tb:OA)(tn tc:Nat):LV:=[.i e,.l rb rn rc,.l ab an ac,.l tb tn tc]
instance{e:Int}{rb ab tb:OA}{rn rc an ac tn tc:Nat}:Ln (nX e rb rn rc ab an ac tb tn tc) 4:=⟨rfl⟩
instance{e:Int}{rb ab tb:OA}{rn rc an ac tn tc:Nat}:Gt (nX e rb rn rc ab an ac tb tn tc) 0 (.i e):=⟨rfl⟩
instance{e:Int}{rb ab tb:OA}{rn rc an ac tn tc:Nat}:Gt (nX e rb rn rc ab an ac tb tn tc) 1 (.l rb rn rc):=⟨rfl⟩
instance{e:Int}{rb ab tb:OA}{rn rc an ac tn tc:Nat}:Gt (nX e rb rn rc ab an ac tb tn tc) 2 (.l ab an ac):=⟨rfl⟩
instance{e:Int}{rb ab tb:OA}{rn rc an ac tn tc:Nat}:Gt (nX e rb rn rc ab an ac tb tn tc) 3 (.l tb tn tc):=⟨rfl⟩
def E9{e:Int}{rb:OA}{rn rc:Nat}{ab:OA}{an ac:Nat}{tb:OA}{tn tc:Nat}:∀v∈nX e rb rn rc ab an ac tb tn tc,v.oneCell'=true:=λv h=>by
 simp[nX] at h;rcases h with rfl|rfl|rfl|rfl<;>rfl
instance{x1 x2 x3 x4:Value}{e:Int}{rb:OA}{rn rc:Nat}{ab:OA}{an ac:Nat}{tb:OA}{tn tc:Nat}:Wr [x1,x2,x3,x4] 0 (nX e rb rn rc ab an ac tb tn tc) (nX e rb rn rc ab an ac tb tn tc):=⟨rfl,aF _,E9⟩
instance{x1 x2 x3 x4:Value}{e:Int}{rb:OA}{rn rc:Nat}{ab:OA}{an ac:Nat}{tb:OA}{tn tc:Nat}:Wr [x1,x2,x3,x4] 0 [.i e,.l rb rn rc,.l ab an ac,.l tb tn tc] (nX e rb rn rc ab an ac tb tn tc):=⟨rfl,aF _,E9⟩
instance{e:Int}{rb:OA}{rn rc:Nat}{ab:OA}{an ac:Nat}{tb:OA}{tn tc:Nat}:Sub (nX e rb rn rc ab an ac tb tn tc) 0 4 (nX e rb rn rc ab an ac tb tn tc):=⟨rfl,λj v h=>by rw[aD];exact h⟩
instance{e:Int}{rb:OA}{rn rc:Nat}{ab:OA}{an ac:Nat}{tb:OA}{tn tc:Nat}:Sub [.i e,.l rb rn rc,.l ab an ac,.l tb tn tc] 0 4 (nX e rb rn rc ab an ac tb tn tc):=⟨rfl,λj v h=>by rw[aD];exact h⟩
def kz(q:jY):Bool:=
 if q.op=1 then decide (1<=q.aB.length)&&decide (q.aB.length<=8) else if q.op=2 then decide (1<=q.bQ.length)&&decide (q.bQ.length<=8) else if q.op=3 then decide (0<=q.now)&&decide (q.now<=1099511627776) else false
def fW(q:jY):Bool:=decide (q.op=1\/q.op=2\/q.op=3)
def bo(m:aA):bh:=⟨m.dj.map (Md.full m.ax),m.ax,m.clock,m.ay⟩
def rY(m:aA):pJ (bo m) m:=⟨rfl,rfl,rfl,rfl⟩
def IW{b:bh}{m:aA}(h:pJ b m):b=bo m:=by
 obtain⟨h1,h2,h3,h4⟩:=h;cases b
 simp only at h1 h2 h3 h4;subst h1 h2 h3 h4;rfl
def bn(m:aA)(q:jY):Int×List Int×aA:=
 if kz q=false then(1,[],m)
 else if q.op=1 then(0,eW aA.make yQ q.aB.length m q.aB)
 else if q.op=2 then(0,eW aA.lO sY q.bQ.length m q.bQ)
 else(0,[],m.time q.now)
def KE{m:aA}(hg:Md.bS m)(l:List bN)(n:Nat):(eW bh.make yQ n (bo m) l).1=(eW aA.make yQ n m l).1/\(eW bh.make yQ n (bo m) l).2=bo (eW aA.make yQ n m l).2/\Md.bS (eW aA.make yQ n m l).2:=by
 obtain⟨h1,h2⟩:=Bi (f:=bh.make) (g:=aA.make) (R:=λ(b:bh)(m:aA)=>pJ b m/\Md.bS m) yQ (λs t x h=>h.1.make h.2) n l (bo m) m ⟨rY m,hg⟩;exact⟨h1,IW h2.1,h2.2⟩
def Pd{m:aA}(hg:Md.bS m)(l:List cx)(n:Nat):(eW bh.lO sY n (bo m) l).1=(eW aA.lO sY n m l).1/\(eW bh.lO sY n (bo m) l).2=bo (eW aA.lO sY n m l).2/\Md.bS (eW aA.lO sY n m l).2:=by
 obtain⟨h1,h2⟩:=Bi (f:=bh.lO) (g:=aA.lO) (R:=λ(b:bh)(m:aA)=>pJ b m/\Md.bS m) sY (λs t x h=>h.1.lO h.2) n l (bo m) m ⟨rY m,hg⟩;exact⟨h1,IW h2.1,h2.2⟩
section
variable {W:World} {L R:LH} {K:VK} {X:WK} {p:Nat} {q:jY} {s:vH}
def T.aaF{A B C D:HP}(h:T W (D::A::B::C::R) X):T W (A::B::C::D::R) X:=T.perm h (bt (l₁:=[A,B,C]) (l₂:=[D])|>.append_right R)
def Qf(h:T W L (K (.b (kz q)))):T W L (tG (fU q s) K):=by
 unfold tG;apply ws;intros;apply db<;>intro g1
 ·have g1:q.op=1:=by simpa using g1
  unfold kz at h;rw[ai g1] at h;apply ws;apply fZ<;>intro g2
  ·rw[aw (by omega),dI] at h;apply ws;apply T.fin (T.dp h);congr 1;rw[decide_eq_decide];omega
  ·rw[aq (by omega),fK] at h;exact T.dp h
 have g1: ¬q.op=1:=by simpa using g1
 apply db<;>intro g2
 ·have g2:q.op=2:=by simpa using g2
  unfold kz at h;rw[af g1,ai g2] at h;apply ws;apply fZ<;>intro g2
  ·rw[aw (by omega),dI] at h;apply ws;apply T.fin (T.dp h);congr 1;rw[decide_eq_decide];omega
  ·rw[aq (by omega),fK] at h;exact T.dp h
 have g2: ¬q.op=2:=by simpa using g2
 unfold kz at h;rw[af g1,af g2] at h;apply db<;>intro g3
 ·have g3:q.op=3:=by simpa using g3
  rw[ai g3] at h;apply ws;apply fZ<;>intro g2
  ·rw[aw (by omega),dI] at h;apply ws;exact T.dp h
  ·rw[aq (by omega),fK] at h;exact T.dp h
 have g3: ¬q.op=3:=by simpa using g3
 rw[af g3] at h;exact T.dp h
def CL(h:T W L (K (.b (fW q)))):T W L (qS (fU q s) K):=by
 unfold qS;unfold fW at h;apply ws;intros;apply db<;>intro g1
 ·have g1:q.op=1:=by simpa using g1
  rw[aw (.inl g1)] at h;exact T.dp h
 have g1: ¬q.op=1:=by simpa using g1
 apply ws;apply db<;>intro g2
 ·have g2:q.op=2:=by simpa using g2
  rw[aw (.inr (.inl g2))] at h;exact T.dp h
 have g2: ¬q.op=2:=by simpa using g2
 apply ws;apply T.fin (T.dp h)
 congr 1
 rw[bZ];simp[g1,g2]
def E2{b:bh}{hs:List C}{f:bh×List C->LH}[i:Lc (cR p) L (b,hs) f](hl:hs.length<1000000)(h:T W (f (b,[])) (K (.tuple ⟨[]⟩))):T W L (lV (ah p) K):=λw hw=>by
 obtain⟨k,hk,e1⟩:=i.at_;have h1:=hw.focus hk;obtain⟨hg,h2⟩:=h1.and;refine(show T W (cP p (fN b,hs)::L.eraseIdx k) _ from ?_) w h2;unfold lV;apply ws;apply YG (p:=p) hl;apply ws;intro w2 hw2;apply h w2;rw[e1];exact St.rH (A:=cR p (b,hs)) (St.and_intro hg hw2) hk
def L1(G:qi W){m:aA}(hg:Md.bS m)(hq:oq W R q s)(hA:q.op=1->∀a∈q.aB,yi a)(hT:q.op=2->∀t∈q.bQ,TOk t)
 (h:∀rb rc,Md.bS (bn m q).2.2->T W (cR p (bo (bn m q).2.2,[])::own rb (bn m q).2.1.length rc 1 ((bn m q).2.1.flatMap I1)::R) (K (.agg ⟨nX (bn m q).1 rb (bn m q).2.1.length rc none 0 0 none 0 0⟩))):
 T W (cR p (bo m,[])::R) (wI (ah p) (fU q s) K):=by
 unfold wI
 repeat' first|apply ws;intros|apply wb|refine Qf ?_
 cases ge:kz q with
 |false=>
  have e:bn m q=(1,[],m):=by unfold bn;rw[ai ge]
  rw[e] at h;apply ws;refine T.drop (T.drop ?_);refine iR (e:=1) ?_;exact T.perm (h none 0 hg) (bX.swap _ _ _)
 |true=>
  apply ws;intros;apply db<;>intro g1
  ·have g1:q.op=1:=by simpa using g1
   have e:bn m q=(0,eW aA.make yQ q.aB.length m q.aB):=by unfold bn;rw[af (by rw[ge];decide),ai g1]
   rw[e] at h;dsimp only at h;have hlen:1<=q.aB.length/\q.aB.length<=8:=by
    unfold kz at ge;rw[ai g1] at ge;simpa using ge
   obtain⟨s1,s2,s3⟩:=KE hg q.aB q.aB.length;apply ws;apply T.aaF;refine aaD G (hs:=[]) (R:=_::_::_::R) hq.aB.mono hq.ca (hA g1) ⟨m,rY m,hg⟩ (by omega) (by show 0+_<_;omega) λr fC MQ his hln=>?_;rw[s1,s2];rw[s1] at hln;apply ws;refine E2 (p:=p) (by have:fC.length<=0+_:=MQ;omega) ?_;apply ws;have:=h (ah r) q.aB.length s3;rw[hln] at this;apply T.sub this;exact pX
  have g1: ¬q.op=1:=by simpa using g1
  apply db<;>intro g2
  ·have g2:q.op=2:=by simpa using g2
   have e:bn m q=(0,eW aA.lO sY q.bQ.length m q.bQ):=by unfold bn;rw[af (by rw[ge];decide),af g1,ai g2]
   rw[e] at h;dsimp only at h;have hlen:1<=q.bQ.length/\q.bQ.length<=8:=by
    unfold kz at ge;rw[af g1,ai g2] at ge;simpa using ge
   obtain⟨s1,s2,s3⟩:=Pd hg q.bQ q.bQ.length;apply ws;apply T.aaF;refine aaC G (hs:=[]) (R:=_::_::_::R) hq.bQ.mono hq.ct (hT g2) ⟨m,rY m,hg⟩ (by omega) (by show 0+_<_;omega) λr fC MQ his hln=>?_;rw[s1,s2];rw[s1] at hln;apply ws;refine E2 (p:=p) (by have:fC.length<=0+_:=MQ;omega) ?_;apply ws;have:=h (ah r) q.bQ.length s3;rw[hln] at this;apply T.sub this;exact pX
  ·have g2: ¬q.op=2:=by simpa using g2
   have g3:q.op=3/\0<=q.now/\q.now<=1099511627776:=by
    unfold kz at ge;rw[af g1,af g2] at ge;by_cases g3:q.op=3
    ·rw[ai g3] at ge;exact⟨g3,by simpa using ge⟩
    ·rw[af g3] at ge;cases ge
   have e:bn m q=(0,[],m.time q.now):=by unfold bn;rw[af (by rw[ge];decide),af g1,af g2]
   rw[e] at h;dsimp only at h;apply ws;apply T.aaF;intro w hw;refine⟨W,_::_::_::R,p,bo m,m,[],rfl,hw,rY m,hg,by simp,λn b' fC w' AS MW hl1 hw1=>?_⟩;have hb:=IW AS;subst hb;refine T.at ?_ hw1;apply ws;apply E2 (p:=p) (by omega);apply ws;have:=h none 0 MW;refine iR (e:=1) (T.Ns ?_);apply T.sub this
   repeat (first|exact bl.refl _|apply bl.cons_cons|apply bl.cons)
end
def xr(b:bh)(p:ou):cr:=(b.ax[p.2.toNat]?).getD zK
def btw(b:bh)(from_ toX:Int)(xq:Bool):List cr:=
 (if xq then(qF from_ toX (ft 0 b.ax)).reverse else qF from_ toX (ft 0 b.ax)).map (xr b)
def Fb{from_ toX:Int}{l:List ou}{x:ou}(h:x∈qF from_ toX l):x∈l:=List.mem_of_mem_drop (List.mem_of_mem_take h)
def GO{l:List cr}{x:ou}(h:x∈ft 0 l):∃(j:Nat)(k:cr),l[j]?=some k/\x=(k.move.ay,(j:Int)):=by
 obtain⟨j,hj⟩:=qB h;rw[mz] at hj;cases hl:l[j]? with
 |none=>rw[hl] at hj;cases hj
 |some k=>rw[hl] at hj;simp at hj;exact⟨j,k,hl,hj.symm⟩
def jy(k:cr):(bM k).length=33:=rfl
section
variable {W:World} {L R:LH} {K:VK} {X:WK} {p:Nat} {b:bh} {hs:List C} {f:bh×List C->LH}
def Se[i:Lc (cR p) L (b,hs) f]{from_ toX:Int}{xq:Bool}(h:∀b' c' out,out=btw b from_ toX xq->T W (own b' out.length c' 33 (out.flatMap bM)::L) (K (.l b' out.length c'))):
 T W L (ow (ah p) from_ toX xq K):=by
 have hL:f (b,hs)=L:=i.same;refine MI (p:=p) λla lk ti tn vs bx R hg hc pV=>?_;have many:=hg.many;unfold ow;apply yD;apply DF;simp only[gY,aD];refine RQ (p:=p) hg.yH (by show(ft 0 b.ax).length<_;rw[my];omega) λb' c' out ho=>?_;have qe:∀x∈out,∃(j:Nat)(k:cr),b.ax[j]?=some k/\x=(k.move.ay,(j:Int)):=λx hx=>GO (by
  rw[ho] at hx
  split at hx
  ·exact Fb (List.mem_reverse.1 hx)
  ·exact Fb hx)
 have yp:out.length<=96:=by
  have h1:∀x:List ou,x=qF from_ toX (ft 0 b.ax)->x.length<=96:=λx hx=>by
   rw[hx];unfold qF;rw[aC,aR,my];omega
  rw[ho];split
  ·rw[ju];exact h1 _ rfl
  ·exact h1 _ rfl
 have afD:out.map (xr b)=btw b from_ toX xq:=by rw[ho];rfl
 clear ho;refine tZ ?_;refine iR (e:=33) ?_;intro w jo;refine⟨λvv w=>∃(i:Nat)(bo:OA)(cc:Nat)(done:List cr),i<=out.length/\done=(out.take i).map (xr b)/\vv=[.l none 0 0,.l bo done.length cc,.l b' out.length c',.i (out.length:Int),.i (i:Int)]/\
  St W w (own bo done.length cc 33 (done.flatMap bM)::own b' out.length c' 2 (out.flatMap pw)::gW p (gG la lk ti tn vs (fN b))::sw aO 14 la (p,(fN b).aB)::sw bM 33 lk (p,(fN b).ax)::pr ti (fN b).pI::pr tn (fN b).iu::vV bx::R),
  mq 4 out.length,⟨0,none,0,[],aE _,by simp,rfl,jo⟩,?_⟩
 rintro jJ iX jV bo oD cc vc rA u6 n3 n4 w2 ⟨i,b0,c0,done,hi,lN,e,gI⟩;cases e
 refine T.at ?_ gI;have e5:=m9 i;have zF:done.length=i:=by rw[lN,bY,aC];omega
 apply fZ<;>intro g1
 ·have cj:i<out.length:=by omega
  have gx:=aj cj;have gm:=cb cj;generalize out[i]=x at gx gm;obtain⟨j,k,hk,rfl⟩:=qe x gm;have hka:xr b (k.move.ay,(j:Int))=k:=by unfold xr;dsimp only;rw[ak,hk];rfl
  have tU:(done++[k])=(out.take (i+1)).map (xr b):=by rw[ba,gx,cU,<-lN];simp[hka]
  refine dT (b:=b') ⟨by omega,by omega⟩ λrb hb=>?_;subst hb;rw[ak];apply ij oH gx
  repeat' first|apply ws;intros|apply wb
  ·refine Vs (l:=lk) (x:=k) hk (by show b.ax.length<_;omega) ?_;apply ws;intros;refine kP (b:=bo) (x:=k) rfl rfl rfl (by omega) (by omega) (mW _) λb2 c2=>?_;rw[e5];refine T.drop (T.drop (T.drop ?_));exact λw3 h3=>⟨⟨i+1,b2,c2,done++[k],cj,tU,by simp,by simpa using h3⟩,dn (by omega)⟩
  ·refine Vs (l:=lk) (x:=k) hk (by show b.ax.length<_;omega) ?_;apply ws;intros;refine kP (b:=bo) (x:=k) rfl rfl rfl (by omega) (by omega) (mW _) λb2 c2=>?_;rw[e5];refine T.drop (T.drop (T.drop ?_));exact λw3 h3=>⟨⟨i+1,b2,c2,done++[k],cj,tU,by simp,by simpa using h3⟩,dn (by omega)⟩
 ·have iO:i=out.length:=by omega
  subst iO;rw[aV] at lN;have:=pV [_] b hs vs bx _ hg hc (by rw[hL];exact h bo cc done (lN.trans afD));apply T.sub this;exact pX
def abU[i:Lc (cR p) L (b,hs) f][hh:Has R L]{s:OA}{c:Nat}{ids:List Nat}(hr:np W R nm 2 s ids)(hl:ids.length<=1000)
 (h:∀b' c' out,out=ids.filterMap b.find->T W (own b' out.length c' 14 (out.flatMap aO)::L) (K (.l b' out.length c'))):T W L (uj (some ⟨p,0,none⟩) s ids.length c K):=by
 unfold uj;refine iR (e:=14) ?_;intro w jo;refine⟨λvv w=>∃(i:Nat)(bo:OA)(cc:Nat)(done:List bN),i<=ids.length/\done=(ids.take i).filterMap b.find/\done.length<=i/\vv=[.l none 0 0,.l bo done.length cc,.l s ids.length c,.i (ids.length:Int),.i (i:Int)]/\
  St W w (own bo done.length cc 14 (done.flatMap aO)::L),
  mq 4 ids.length,⟨0,none,0,[],aE _,by simp,aF _,rfl,jo⟩,?_⟩
 rintro jJ iX jV bo oD cc vc rA u6 n3 n4 w2 ⟨i,b0,c0,done,hi,lN,zF,e,gI⟩;cases e
 refine T.at ?_ gI;have e5:=m9 i;apply fZ<;>intro g1
 ·have cj:i<ids.length:=by omega
  have gx:=aj cj;generalize ids[i]=x at gx;have gA:(ids.take (i+1)).filterMap b.find=done++(b.find x).toList:=by
   rw[ba,gx,List.filterMap_append,<-lN]
   congr 1
  refine iq hr ⟨by omega,by omega⟩ rfl λa ha=>?_;rw[ak];apply kd hr ha gx rfl
  repeat' first|apply ws;intros|apply wb|refine wQ (p:=p) ?_
  rw[e5];cases hf:b.find x with
  |none=>
   rw[hf] at gA;simp only[eX,gN];apply ws;refine T.drop (T.drop ?_);exact λw3 h3=>⟨⟨i+1,bo,cc,done,cj,by simp[gA],by omega,rfl,h3⟩,dn (by omega)⟩
  |some a2=>
   rw[hf] at gA;simp only[dD,dz];apply ws;intros;refine kP (b:=bo) (x:=a2) rfl rfl rfl (by omega) (by omega) (iW _) λb2 c2=>?_;refine T.drop (T.drop (T.drop ?_));exact λw3 h3=>⟨⟨i+1,b2,c2,done++[a2],cj,by simpa using gA.symm,by simp;omega,by simp,by simpa using h3⟩,dn (by omega)⟩
 ·have iO:i=ids.length:=by omega
  subst iO;rw[aV] at lN;exact h bo cc done lN
def abT[i:Lc (cR p) L (b,hs) f][hh:Has R L]{s:OA}{c:Nat}{ids:List Nat}(hr:np W R nm 2 s ids)(hl:ids.length<=1000)
 (h:∀b' c' out,out=ids.filterMap (λid=>(b.named id).map (·.move))->T W (own b' out.length c' 16 (out.flatMap aM)::L) (K (.l b' out.length c'))):T W L (te (some ⟨p,0,none⟩) s ids.length c K):=by
 unfold te;refine iR (e:=16) ?_;intro w jo;refine⟨λvv w=>∃(i:Nat)(bo:OA)(cc:Nat)(done:List cx),i<=ids.length/\done=(ids.take i).filterMap (λid=>(b.named id).map (·.move))/\done.length<=i/\vv=[.l none 0 0,.l bo done.length cc,.l s ids.length c,.i (ids.length:Int),.i (i:Int)]/\
  St W w (own bo done.length cc 16 (done.flatMap aM)::L),
  mq 4 ids.length,⟨0,none,0,[],aE _,by simp,aF _,rfl,jo⟩,?_⟩
 rintro jJ iX jV bo oD cc vc rA u6 n3 n4 w2 ⟨i,b0,c0,done,hi,lN,zF,e,gI⟩;cases e
 refine T.at ?_ gI;have e5:=m9 i;apply fZ<;>intro g1
 ·have cj:i<ids.length:=by omega
  have gx:=aj cj;generalize ids[i]=x at gx;have gA:(ids.take (i+1)).filterMap (λid=>(b.named id).map (·.move))=done++((b.named x).map (·.move)).toList:=by
   rw[ba,gx,List.filterMap_append,<-lN]
   congr 1
  refine iq hr ⟨by omega,by omega⟩ rfl λa ha=>?_;rw[ak];apply kd hr ha gx rfl
  repeat' first|apply ws;intros|apply wb|refine J3 (p:=p) ?_
  rw[e5];cases hf:b.named x with
  |none=>
   rw[hf] at gA;simp only[eX,gN];apply ws;refine T.drop (T.drop ?_);exact λw3 h3=>⟨⟨i+1,bo,cc,done,cj,by simp[gA],by omega,rfl,h3⟩,dn (by omega)⟩
  |some a2=>
   rw[hf] at gA;simp only[dD,dz];apply ws;intros;refine kP (b:=bo) (x:=a2.move) rfl rfl rfl (by omega) (by omega) (py _) λb2 c2=>?_;refine T.drop (T.drop (T.drop ?_));exact λw3 h3=>⟨⟨i+1,b2,c2,done++[a2.move],cj,by simpa using gA.symm,by simp;omega,by simp,by simpa using h3⟩,dn (by omega)⟩
 ·have iO:i=ids.length:=by omega
  subst iO;rw[aV] at lN;exact h bo cc done lN
end
instance{q:jY}:Sub (pW q) 0 2 (nm q.ye):=⟨rfl,λj v h=>by
 rw[aD]
 match j with
 |0=>exact h
 |1=>exact h
 |j+2=>simp[nm] at h⟩
instance{k:cr}:Sub (bM k) 18 2 (nm k.move.bC):=⟨rfl,(zz (cs:=bM k) (o:=18) (n:=k.move.bC) rfl rfl).2⟩
instance{k:cr}:Sub (bM k) 20 2 (nm k.move.aU):=⟨rfl,(zz (cs:=bM k) (o:=20) (n:=k.move.aU) rfl rfl).2⟩
def LU(q:jY):∀v∈pW q,v.oneCell'=true:=λv h=>by
 simp[pW,nm] at h;rcases h with rfl|rfl|rfl|rfl|rfl|rfl|rfl|rfl<;>rfl
instance{x1 x2 x3 x4 x5 x6 x7 x8:Value}{q:jY}:Wr [x1,x2,x3,x4,x5,x6,x7,x8] 0 (pW q) (pW q):=⟨rfl,aF _,LU q⟩
def fits(q:jY)(k:cr):Bool:=(q.wG&&decide (k.move.bC=q.ye))||(q.tW&&decide (k.move.aU=q.ye))
def ofL(b:bh)(q:jY):List cx:=(((btw b q.kq q.xD q.qO).filter (fits q)).take q.kX.toNat).map (·.move)
def C1{α:Type}{P:α->Bool}{l:List α}{i n:Nat}{x:α}(hx:l[i]?=some x):
 ((l.take (i+1)).filter P).take n=if(((l.take i).filter P).take n).length<n then(if P x then((l.take i).filter P).take n++[x] else((l.take i).filter P).take n) else((l.take i).filter P).take n:=by
 rw[ba,hx,List.filter_append];show(_++[x].filter P).take n=_;generalize (l.take i).filter P=A;rw[aC];by_cases h:min n A.length<n
 ·rw[ai h];have hA:A.length<n:=by omega
  by_cases hp:P x=true
  ·rw[ai hp,lF hp,List.filter_nil,bG (by simp;omega),bG (by omega)]
  ·rw[af hp,lG hp,List.filter_nil,bO]
 ·rw[af h,zJ (by omega)]
section
variable {W:World} {L R:LH} {K:VK} {X:WK} {p:Nat} {b:bh} {hs:List C} {f:bh×List C->LH} {q:jY} {s:vH}
def TC{I1:LV->World->Prop}{μ1:LV->World->Nat}{M:LH}{r1 r2 cc rA u6:Nat}{bo vc:OA}{done:List cx}{x:cr}{n3 n4:Int}{w2:World}{g:LV->LH}
 (hA:(done.length<q.kX.toNat/\fits q x=true)->∀b2 c2,T W (own b2 (done.length+1) c2 16 ((done++[x.move]).flatMap aM)::M) (λw3=>I1 [.p (some (ad r1 0)),.l none 0 0,.l b2 (done.length+1) c2,.l vc rA u6,.i n3,.i (aa.wrap (n4+1))] w3/\
  μ1 [.p (some (ad r1 0)),.l none 0 0,.l b2 (done.length+1) c2,.l vc rA u6,.i n3,.i (aa.wrap (n4+1))] w3<μ1 [.p (some (ad r1 0)),.l none 0 0,.l bo done.length cc,.l vc rA u6,.i n3,.i n4] w2))
 (hN: ¬(done.length<q.kX.toNat/\fits q x=true)->T W (own bo done.length cc 16 (done.flatMap aM)::M) (λw3=>I1 [.p (some (ad r1 0)),.l none 0 0,.l bo done.length cc,.l vc rA u6,.i n3,.i (aa.wrap (n4+1))] w3/\
  μ1 [.p (some (ad r1 0)),.l none 0 0,.l bo done.length cc,.l vc rA u6,.i n3,.i (aa.wrap (n4+1))] w3<μ1 [.p (some (ad r1 0)),.l none 0 0,.l bo done.length cc,.l vc rA u6,.i n3,.i n4] w2))
 [i1:Lc (Sep.pt r1) M (pW q) g](Jo:0<=q.kX/\q.kX<=16)(hd:done.length<=1000):
 T W (Sep.pt r2 (bM x)::own bo done.length cc 16 (done.flatMap aM)::M) (br q.wG (aJ (ad r2 18) 2 λYc=>aJ (ad r1 0) 2 λcs7=>rT [.u 0,.u 0] Yc cs7 λb8=>ny.j1 K (ad r1 0) r2 done.length bo cc I1 none 0 0 vc rA u6 n3 n4 μ1 w2 b8)
   (ny.j1 K (ad r1 0) r2 done.length bo cc I1 none 0 0 vc rA u6 n3 n4 μ1 w2 false)):=by
 have j3:∀yes:Bool,(yes=true↔done.length<q.kX.toNat/\fits q x=true)->T W (Sep.pt r2 (bM x)::own bo done.length cc 16 (done.flatMap aM)::M) (ny.j3 K r2 bo done.length cc I1 (ad r1 0) none 0 0 vc rA u6 n3 n4 μ1 w2 yes):=λyes hy=>by
  unfold ny.j3;cases yes with
  |true=>
   apply ws;intros;refine kP (b:=bo) (x:=x.move) rfl rfl rfl (by omega) (by omega) (py _) λb2 c2=>?_;exact T.drop (T.drop (hA (hy.1 rfl) b2 c2))
  |false=>
   apply ws;exact T.drop (hN λhh=>by have:=hy.2 hh;cases this)
 have j2:∀b2 b3:Bool,(b2||b3)=fits q x->T W (Sep.pt r2 (bM x)::own bo done.length cc 16 (done.flatMap aM)::M) (ny.j2 K (ad r1 0) done.length b2 r2 bo cc I1 none 0 0 vc rA u6 n3 n4 μ1 w2 b3):=λb2 b3 hb=>by
  unfold ny.j2;apply ws;apply fZ<;>intro g1
  ·cases b2 with
   |true=>
    apply ws;refine j3 true ⟨λ_=>⟨by omega,by rw[<-hb];rfl⟩,λ_=>rfl⟩
   |false=>
    apply ws;rw[Bool.false_or] at hb;refine j3 b3 ⟨λh=>⟨by omega,by rw[<-hb];exact h⟩,λh=>by rw[hb];exact h.2⟩
  ·refine j3 false ⟨λh=>(by cases h),λh=>(by omega)⟩
 have j1:∀b2:Bool,b2=(q.wG&&decide (x.move.bC=q.ye))->T W (Sep.pt r2 (bM x)::own bo done.length cc 16 (done.flatMap aM)::M) (ny.j1 K (ad r1 0) r2 done.length bo cc I1 none 0 0 vc rA u6 n3 n4 μ1 w2 b2):=λb2 hb=>by
  unfold ny.j1;apply ws;cases hc:q.tW with
  |true=>
   apply ws;apply j2 _ _;unfold fits;rw[hb,hc,dI]
  |false=>
   apply ws;apply j2 _ _;unfold fits;rw[hb,hc,fK]
 cases VY:q.wG with
 |true=>
  apply ws;apply j1 _;rw[VY,dI]
 |false=>
  apply ws;apply j1 _;rw[VY,fK]
def aib[i:Lc (cR p) L (b,hs) f](Jo:0<=q.kX/\q.kX<=16)(h:∀b' c' out,out=ofL b q->T W (own b' out.length c' 16 (out.flatMap aM)::L) (K (.l b' out.length c'))):
 T W L (ny (ah p) (pW q) K):=by
 unfold ny;refine qD (p:=p) λhg=>?_;have many:=hg.many;have adA:(btw b q.kq q.xD q.qO).length<=96:=by
  unfold btw;rw[bY];have h1:(qF q.kq q.xD (ft 0 b.ax)).length<=96:=by unfold qF;rw[aC,aR,my];omega
  split
  ·rw[ju];exact h1
  ·exact h1
 apply ws;intros;rename_i r1;refine Se (p:=p) λbb bc l hl=>?_;rw[<-hl] at adA;apply ws;refine iR (e:=16) ?_;intro w jo;refine⟨λvv w=>∃(i:Nat)(bo:OA)(cc:Nat)(done:List cx),i<=l.length/\done=(((l.take i).filter (fits q)).take q.kX.toNat).map (·.move)/\done.length<=i/\vv=[.p (some (ad r1 0)),.l none 0 0,.l bo done.length cc,.l bb l.length bc,.i (l.length:Int),.i (i:Int)]/\
                                                                 St W w (own bo done.length cc 16 (done.flatMap aM)::own bb l.length bc 33 (l.flatMap bM)::Sep.pt r1 (pW q)::L),
  mq 5 l.length,⟨0,none,0,[],aE _,by simp,aF _,rfl,jo⟩,?_⟩
 rintro a1 jJ iX jV bo oD cc vc rA u6 n3 n4 w2 ⟨i,b0,c0,done,hi,lN,zF,e,gI⟩;cases e
 refine T.at ?_ gI;have e5:=m9 i;apply fZ<;>intro g1
 ·have cj:i<l.length:=by omega
  have gx:=aj cj;generalize l[i]=x at gx;have gA:=C1 (P:=fits q) (n:=q.kX.toNat) gx;have wD:done.length=(((l.take i).filter (fits q)).take q.kX.toNat).length:=by rw[lN,bY]
  rw[<-wD] at gA;have tU:(((l.take (i+1)).filter (fits q)).take q.kX.toNat).map (·.move)=if done.length<q.kX.toNat/\fits q x=true then done++[x.move] else done:=by
   rw[gA];by_cases c1:done.length<q.kX.toNat
   ·rw[ai c1];by_cases c2:fits q x=true
    ·rw[ai c2,ai ⟨c1,c2⟩,cU,<-lN];rfl
    ·rw[af c2,af (λh=>c2 h.2),<-lN]
   ·rw[af c1,af (λh=>c1 h.1),<-lN]
  refine dT (b:=bb) ⟨by omega,by omega⟩ λrb hb=>?_;subst hb;rw[ak];apply ij jy gx;apply ws;intros;rename_i r2;refine TC (r1:=r1) (r2:=r2) (bo:=bo) (x:=x) (M:=own (ah rb) l.length bc 33 (l.flatMap bM)::Sep.pt r1 (pW q)::L) (λhy b2 c2=>?_) (λhy=>?_) Jo (by omega)
  ·rw[e5];rw[ai hy] at tU;exact λw3 h3=>⟨⟨i+1,b2,c2,done++[x.move],cj,tU.symm,by simp;omega,by simp,by simpa using h3⟩,dn (by omega)⟩
  ·rw[e5];rw[af hy] at tU;exact λw3 h3=>⟨⟨i+1,bo,cc,done,cj,tU.symm,by omega,rfl,h3⟩,dn (by omega)⟩
 ·have iO:i=l.length:=by omega
  subst iO;rw[aV] at lN;have:=h bo cc done (by rw[lN,hl];rfl);apply T.sub this;exact pX
def nQ(q:jY):Bool:=
 if q.op=4\/q.op=5 then decide (1<=q.ids.length)&&decide (q.ids.length<=16)
 else if q.op=6 then decide (0<=q.kq/\0<=q.xD/\1<=q.kX/\q.kX<=16)&&(q.wG||q.tW) else false
def ask(m:aA)(q:jY):Int×List bN×List cx:=
 if nQ q=false then(1,[],[])
 else if q.op=4 then(0,q.ids.filterMap (bo m).find,[])
 else if q.op=5 then(0,[],q.ids.filterMap λid=>((bo m).named id).map (·.move))
 else(0,[],ofL (bo m) q)
def Mz(h:T W L (K (.b (nQ q)))):T W L (iv (fU q s) K):=by
 have main:∀(r1:Nat)(b1:Bool),b1=decide (q.op=4\/q.op=5)->T W (Sep.pt r1 (fU q s)::L) (iv.j1 K r1 q.op b1):=λr1 b1 hb=>by
  unfold iv.j1;unfold nQ at h;by_cases XR:q.op=4\/q.op=5
  ·rw[ai XR] at h;rw[aw XR] at hb;subst hb;apply ws;apply fZ<;>intro g2
   ·rw[aw (by omega),dI] at h;apply ws;apply T.fin (T.dp h);congr 1;rw[decide_eq_decide];omega
   ·rw[aq (by omega),fK] at h;exact T.dp h
  ·rw[af XR] at h;rw[aq XR] at hb;subst hb;rw[dX];apply db<;>intro g6
   ·have g6:q.op=6:=by simpa using g6
    rw[ai g6] at h;apply ws;intros;rename_i r2;have j4:∀b4:Bool,b4=decide (0<=q.kq/\0<=q.xD/\1<=q.kX/\q.kX<=16)->T W (Sep.pt r2 (pW q)::Sep.pt r1 (fU q s)::L) (iv.j4 K r2 b4):=λb4 h4=>by
     unfold iv.j4;rw[<-h4] at h;cases b4 with
     |true=>
      apply ws;rw[dI] at h;cases hd:q.wG with
      |true=>
       rw[hd] at h;apply ws;exact T.dp h
      |false=>
       rw[hd,Bool.false_or] at h;apply ws;exact T.dp h
     |false=>
      apply ws;rw[fK] at h;exact T.dp h
    have j3:∀b3:Bool,b3=decide (0<=q.kq/\0<=q.xD/\1<=q.kX)->T W (Sep.pt r2 (pW q)::Sep.pt r1 (fU q s)::L) (iv.j3 K r2 b3):=λb3 h3=>by
     unfold iv.j3;cases b3 with
     |true=>
      apply ws;apply j4 _;have:=aS h3.symm;rw[decide_eq_decide];omega
     |false=>
      apply ws;apply j4 _;have:=bq h3.symm;exact(aq (by omega)).symm
    have j2:∀b2:Bool,b2=decide (0<=q.kq/\0<=q.xD)->T W (Sep.pt r2 (pW q)::Sep.pt r1 (fU q s)::L) (iv.j2 K r2 b2):=λb2 h2=>by
     unfold iv.j2;cases b2 with
     |true=>
      apply ws;apply j3 _;have:=aS h2.symm;rw[decide_eq_decide];omega
     |false=>
      apply ws;apply j3 _;have:=bq h2.symm;exact(aq (by omega)).symm
    apply fZ<;>intro g1
    ·apply ws;apply j2 _;rw[decide_eq_decide];omega
    ·apply j2 _;exact(aq (by omega)).symm
   ·have g6: ¬q.op=6:=by simpa using g6
    rw[af g6] at h;exact T.dp h
 unfold iv;apply ws;intros;apply db<;>intro g1
 ·have g1':q.op=4:=by simpa using g1
  exact main _ _ (by rw[g1];exact(aw (.inl g1')).symm)
 ·have g1': ¬q.op=4:=by simpa using g1
  exact main _ _ (by rw[bZ];simp[g1'])
def aeL{m:aA}(hq:oq W R q s)
 (h:∀ab ac tb tc,T W (own ab (ask m q).2.1.length ac 14 ((ask m q).2.1.flatMap aO)::own tb (ask m q).2.2.length tc 16 ((ask m q).2.2.flatMap aM)::cR p (bo m,[])::R) (K (.agg ⟨nX (ask m q).1 none 0 0 ab (ask m q).2.1.length ac tb (ask m q).2.2.length tc⟩))):
 T W (cR p (bo m,[])::R) (JQ (ah p) (fU q s) K):=by
 unfold JQ
 repeat' first|apply ws;intros|apply wb|refine Mz ?_
 cases ge:nQ q with
 |false=>
  have e:ask m q=(1,[],[]):=by unfold ask;rw[ai ge]
  rw[e] at h;apply ws;refine T.drop (T.drop ?_);exact iR (e:=16) (iR (e:=14) (h none 0 none 0))
 |true=>
  apply ws;apply db<;>intro g1
  ·have g1:q.op=4:=by simpa using g1
   have e:ask m q=(0,q.ids.filterMap (bo m).find,[]):=by unfold ask;rw[af (by rw[ge];decide),ai g1]
   rw[e] at h;have hlen:q.ids.length<=16:=by unfold nQ at ge;rw[ai (.inl g1)] at ge;simp at ge;exact ge.2
   apply ws;refine abU (R:=R) (p:=p) hq.ids (by omega) λab ac out ho=>?_;subst ho;apply ws;have:=h ab ac none 0;refine iR (e:=16) (T.Ns ?_);apply T.sub this
   repeat (first|exact bl.refl _|apply bl.cons_cons|apply bl.cons)
  have g1: ¬q.op=4:=by simpa using g1
  apply db<;>intro g2
  ·have g2:q.op=5:=by simpa using g2
   have e:ask m q=(0,[],q.ids.filterMap λid=>((bo m).named id).map (·.move)):=by unfold ask;rw[af (by rw[ge];decide),af g1,ai g2]
   rw[e] at h;have hlen:q.ids.length<=16:=by unfold nQ at ge;rw[ai (.inr g2)] at ge;simp at ge;exact ge.2
   apply ws;refine abT (R:=R) (p:=p) hq.ids (by omega) λab ac out ho=>?_;subst ho;apply ws;have:=h none 0 ab ac;refine iR (e:=14) ?_;apply T.sub this
   repeat (first|exact bl.refl _|apply bl.cons_cons|apply bl.cons)
  ·have g2: ¬q.op=5:=by simpa using g2
   have e:ask m q=(0,[],ofL (bo m) q):=by unfold ask;rw[af (by rw[ge];decide),af g1,af g2]
   rw[e] at h;have Jo:0<=q.kX/\q.kX<=16:=by
    unfold nQ at ge;rw[af (by omega)] at ge;split at ge
    ·simp at ge;omega
    ·cases ge
   apply ws;refine aib (p:=p) Jo λab ac out ho=>?_;subst ho;apply ws;have:=h none 0 ab ac;refine iR (e:=14) ?_;apply T.sub this
   repeat (first|exact bl.refl _|apply bl.cons_cons|apply bl.cons)
end
def many{α:Type}(nx:RS->RS)(nv:RS->α):Nat->RS->List α×RS
 |0,x=>([],x)
 |n+1,x=>if x.2=true then([],x) else(nv x::(many nx nv n (nx x)).1,(many nx nv n (nx x)).2)
def pE{α:Type}{nx:RS->RS}{nv:RS->α}(n:Nat)(x:RS):many nx nv (n+1) x=if x.2=true then([],x) else(nv x::(many nx nv n (nx x)).1,(many nx nv n (nx x)).2):=rfl
def zj{α:Type}{nx:RS->RS}{nv:RS->α}(x:RS):many nx nv 0 x=([],x):=rfl
def wu{α:Type}{nx:RS->RS}{nv:RS->α}:∀(n:Nat)(x:RS),(many nx nv n x).1.length<=n
 |0,x=>aF _
 |n+1,x=>by unfold many;split<;>simp;exact wu n _
def At{α:Type}{nx:RS->RS}{nv:RS->α}(h:∀x,(nx x).1.length<=x.1.length):∀(n:Nat)(x:RS),(many nx nv n x).2.1.length<=x.1.length
 |0,x=>aF _
 |n+1,x=>by
  unfold many;split
  ·exact aF _
  ·exact zy (At h n _) (h x)
def Q5(x:RS):0<=jm 1 x/\jm 1 x<=255:=by
 unfold jm;split
 ·omega
 ·have h1:=rF (x.1.take 1);have h2:(x.1.take 1).length<=1:=by rw[aC];omega
  have h3:256^(x.1.take 1).length<=256^1:=gM (by decide) h2;have h4:(256:Nat)^1=256:=rfl;rw[nY (by omega)];omega
def MJ(x:RS):RS:=if 1<jm 1 x then((eJ 1 x).1,true) else eJ 1 x
def nvF(x:RS):Bool:=jm 1 x==1
section
variable {W:World} {L R:LH} {K:VK} {X:WK} {r:Nat} {x:RS} {g:RS->LH} {q:jY} {s:vH}
def PB(x:RS):(DJ x).1.length<=x.1.length:=by
 unfold DJ yb;repeat (first|exact aF _|refine zy (sW _ _) ?_)
def W6(x:RS):(D5 x).1.length<=x.1.length:=by
 unfold D5 yb;repeat (first|exact aF _|refine zy (sW _ _) ?_)
def J1[i:Lc (rd r) L x g](hl:x.1.length<1099511627776)(h:T W (g (MJ x)) (K (.b (nvF x)))):T W L (mJ (ah r) K):=by
 unfold mJ;apply sf hl;apply mg;have hn:=i.next;rw[Option.isNone_some,OQ,kZ];apply fZ<;>intro g1
 ·have g1:jm 1 x>1:=g1;intro w hs;obtain⟨k,hk,e⟩:=(hn (eJ 1 x)).at_;rw[D7,gY,aD];refine oX hs (show(g (eJ 1 x))[k]?=some (Sep.pt r [.s (bs (eJ 1 x).1),.b (eJ 1 x).2]) from hk) (by show 1<2;decide) rfl λw' fC=>?_;apply h w';have e2:MJ x=((eJ 1 x).1,true):=by unfold MJ;rw[ai g1]
  rw[e2,e];exact fC
 ·have g1: ¬jm 1 x>1:=g1;have e2:MJ x=eJ 1 x:=by unfold MJ;rw[af g1]
  rw[e2] at h;exact h
def PF[i:Lc (rd r) L x g](hl:x.1.length<1099511627776)
 (h:∀b c,T W (own b (many DJ DK (jm 1 x).toNat (eJ 1 x)).1.length c 14 ((many DJ DK (jm 1 x).toNat (eJ 1 x)).1.flatMap aO)::g (many DJ DK (jm 1 x).toNat (eJ 1 x)).2) (K (.l b (many DJ DK (jm 1 x).toNat (eJ 1 x)).1.length c))):
 T W L (kK (ah r) (.func (.func N.nR) ⟨[]⟩ ⟨[]⟩) K):=by
 unfold kK;apply sf hl;apply mg;have hn:=i.next;have hb:=Q5 x;obtain⟨n,en⟩:∃n:Nat,jm 1 x=(n:Int):=⟨(jm 1 x).toNat,by omega⟩;rw[en,ak] at h;rw[en];refine iR (e:=14) ?_;intro w jo;refine⟨λvv w=>∃(i:Nat)(bo:OA)(cc:Nat)(done:List bN)(y:RS),i<=n/\done.length<=i/\y.1.length<1099511627776/\many DJ DK n (eJ 1 x)=(done++(many DJ DK (n-i) y).1,(many DJ DK (n-i) y).2)/\
                                                                                                                               vv=[.l none 0 0,.l bo done.length cc,.i (n:Int),.i (i:Int)]/\St W w (own bo done.length cc 14 (done.flatMap aO)::g y),
  mq 3 n,⟨0,none,0,[],eJ 1 x,aE _,aF _,pk hl,by simp,rfl,jo⟩,?_⟩
 rintro yn ya Ah bo iX cc n2 n3 w2 ⟨i,b0,c0,done,y,hi,zF,hy,hm,e,gI⟩;cases e
 refine T.at ?_ gI;have e5:=m9 i
 haveI:=hn y
 apply fZ<;>intro g1
 ·have cj:i<n:=by omega
  obtain⟨k,hk⟩:∃k,n-i=k+1:=⟨n-i-1,by omega⟩;rw[hk] at hm;apply xO (r:=r);apply sA;cases ht:y.2 with
  |true=>
   apply ws;rw[pE,ai ht] at hm;simp only[bO] at hm;have:=h bo cc;rw[hm] at this;exact this
  |false=>
   apply ws;rw[pE,af (by rw[ht];decide)] at hm;show T W _ (nR (ah r) _);apply U' hy;apply ws;intros;refine kP (b:=bo) (x:=DK y) rfl rfl rfl (by omega) (by omega) (iW _) λb2 c2=>?_;rw[e5];apply T.drop;refine λw3 h3=>⟨⟨i+1,b2,c2,done++[DK y],DJ y,cj,by simp;omega,qk (PB y) hy,?_,by simp,by simpa using h3⟩,dn (by omega)⟩;rw[hm,show n-(i+1)=k by omega];simp
 ·have iO:i=n:=by omega
  subst iO;rw[jS] at hm;rw[zj,bO] at hm;have:=h bo cc;rw[hm] at this;exact this
def PE[i:Lc (rd r) L x g](hl:x.1.length<1099511627776)
 (h:∀b c,T W (own b (many D5 D6 (jm 1 x).toNat (eJ 1 x)).1.length c 16 ((many D5 D6 (jm 1 x).toNat (eJ 1 x)).1.flatMap aM)::g (many D5 D6 (jm 1 x).toNat (eJ 1 x)).2) (K (.l b (many D5 D6 (jm 1 x).toNat (eJ 1 x)).1.length c))):
 T W L (jZ (ah r) (.func (.func N.mP) ⟨[]⟩ ⟨[]⟩) K):=by
 unfold jZ;apply sf hl;apply mg;have hn:=i.next;have hb:=Q5 x;obtain⟨n,en⟩:∃n:Nat,jm 1 x=(n:Int):=⟨(jm 1 x).toNat,by omega⟩;rw[en,ak] at h;rw[en];refine iR (e:=16) ?_;intro w jo;refine⟨λvv w=>∃(i:Nat)(bo:OA)(cc:Nat)(done:List cx)(y:RS),i<=n/\done.length<=i/\y.1.length<1099511627776/\many D5 D6 n (eJ 1 x)=(done++(many D5 D6 (n-i) y).1,(many D5 D6 (n-i) y).2)/\
                                                                                                                               vv=[.l none 0 0,.l bo done.length cc,.i (n:Int),.i (i:Int)]/\St W w (own bo done.length cc 16 (done.flatMap aM)::g y),
  mq 3 n,⟨0,none,0,[],eJ 1 x,aE _,aF _,pk hl,by simp,rfl,jo⟩,?_⟩
 rintro yn ya Ah bo iX cc n2 n3 w2 ⟨i,b0,c0,done,y,hi,zF,hy,hm,e,gI⟩;cases e
 refine T.at ?_ gI;have e5:=m9 i
 haveI:=hn y
 apply fZ<;>intro g1
 ·have cj:i<n:=by omega
  obtain⟨k,hk⟩:∃k,n-i=k+1:=⟨n-i-1,by omega⟩;rw[hk] at hm;apply xO (r:=r);apply sA;cases ht:y.2 with
  |true=>
   apply ws;rw[pE,ai ht] at hm;simp only[bO] at hm;have:=h bo cc;rw[hm] at this;exact this
  |false=>
   apply ws;rw[pE,af (by rw[ht];decide)] at hm;show T W _ (mP (ah r) _);apply Ni hy;apply ws;intros;refine kP (b:=bo) (x:=D6 y) rfl rfl rfl (by omega) (by omega) (py _) λb2 c2=>?_;rw[e5];apply T.drop;refine λw3 h3=>⟨⟨i+1,b2,c2,done++[D6 y],D5 y,cj,by simp;omega,qk (W6 y) hy,?_,by simp,by simpa using h3⟩,dn (by omega)⟩;rw[hm,show n-(i+1)=k by omega];simp
 ·have iO:i=n:=by omega
  subst iO;rw[jS] at hm;rw[zj,bO] at hm;have:=h bo cc;rw[hm] at this;exact this
def Xj[i:Lc (rd r) L x g](hl:x.1.length<1099511627776)
 (h:∀b c,T W (own b (many (eJ 16) zP (jm 1 x).toNat (eJ 1 x)).1.length c 2 ((many (eJ 16) zP (jm 1 x).toNat (eJ 1 x)).1.flatMap nm)::g (many (eJ 16) zP (jm 1 x).toNat (eJ 1 x)).2) (K (.l b (many (eJ 16) zP (jm 1 x).toNat (eJ 1 x)).1.length c))):
 T W L (pN (ah r) (.func (.func N.cV) ⟨[]⟩ ⟨[]⟩) K):=by
 unfold pN;apply sf hl;apply mg;have hn:=i.next;have hb:=Q5 x;obtain⟨n,en⟩:∃n:Nat,jm 1 x=(n:Int):=⟨(jm 1 x).toNat,by omega⟩;rw[en,ak] at h;rw[en];refine iR (e:=2) ?_;intro w jo;refine⟨λvv w=>∃(i:Nat)(bo:OA)(cc:Nat)(done:List Nat)(y:RS),i<=n/\done.length<=i/\y.1.length<1099511627776/\many (eJ 16) zP n (eJ 1 x)=(done++(many (eJ 16) zP (n-i) y).1,(many (eJ 16) zP (n-i) y).2)/\
                                                                                                                               vv=[.l none 0 0,.l bo done.length cc,.i (n:Int),.i (i:Int)]/\St W w (own bo done.length cc 2 (done.flatMap nm)::g y),
  mq 3 n,⟨0,none,0,[],eJ 1 x,aE _,aF _,pk hl,by simp,rfl,jo⟩,?_⟩
 rintro yn ya Ah bo iX cc n2 n3 w2 ⟨i,b0,c0,done,y,hi,zF,hy,hm,e,gI⟩;cases e
 refine T.at ?_ gI;have e5:=m9 i
 haveI:=hn y
 apply fZ<;>intro g1
 ·have cj:i<n:=by omega
  obtain⟨k,hk⟩:∃k,n-i=k+1:=⟨n-i-1,by omega⟩;rw[hk] at hm;apply xO (r:=r);apply sA;cases ht:y.2 with
  |true=>
   apply ws;rw[pE,ai ht] at hm;simp only[bO] at hm;have:=h bo cc;rw[hm] at this;exact this
  |false=>
   apply ws;rw[pE,af (by rw[ht];decide)] at hm;show T W _ (cV (ah r) _);apply JZ hy;apply ws;intros;refine kP (b:=bo) (x:=zP y) rfl rfl rfl (by omega) (by omega) (oJ _) λb2 c2=>?_;rw[e5];apply T.drop;refine λw3 h3=>⟨⟨i+1,b2,c2,done++[zP y],(eJ 16) y,cj,by simp;omega,qk (sW 16 y) hy,?_,by simp,by simpa using h3⟩,dn (by omega)⟩;rw[hm,show n-(i+1)=k by omega];simp
 ·have iO:i=n:=by omega
  subst iO;rw[jS] at hm;rw[zj,bO] at hm;have:=h bo cc;rw[hm] at this;exact this
def pF(q:jY):Bool:=if q.op=1 then q.aB.all λa=>decide (m8 a) else if q.op=2 then q.bQ.all λt=>decide (kB t) else true
def j0(q:jY):Bool:=(kz q||nQ q)&&pF q
def qV{α:Type}{P:α->Bool}{l:List α}{i:Nat}{x:α}(hx:l[i]?=some x)(h:(l.take i).all P=true):(l.take (i+1)).all P=P x:=by
 rw[ba,hx,List.all_append,h];simp
def all_false{α:Type}{P:α->Bool}{l:List α}{i:Nat}{x:α}(hx:l[i]?=some x)(h:P x=false):l.all P=false:=by
 rw[List.all_eq_false];exact⟨x,cn hx,by rw[h];decide⟩
def Kk[hh:Has R L](hq:oq W R q s)(AT:q.aB.length<1000000)(cj:q.bQ.length<1000000){r1:Nat}{b1:Bool}(h:T W (Sep.pt r1 (fU q s)::L) (K (.b (!b1&&pF q)))):T W (Sep.pt r1 (fU q s)::L) (pC.j1 K r1 b1):=by
 unfold pC.j1;cases b1 with
 |true=>rw[kZ];exact h
 |false=>
  rw[OQ,dI] at h;rw[dX];apply ws;apply db<;>intro g1
  ·have g1:q.op=1:=by simpa using g1
   unfold pF at h;rw[ai g1] at h;apply ws;intro w jo;refine⟨λvv w=>∃i:Nat,i<=q.aB.length/\(q.aB.take i).all (λx=>decide (m8 x))=true/\vv=[.b false,.l s.sa q.aB.length s.ca,.i (q.aB.length:Int),.i (i:Int)]/\St W w (Sep.pt r1 (fU q s)::L),
    mq 3 q.aB.length,⟨0,aE _,rfl,rfl,jo⟩,?_⟩
   rintro b2 jJ iX jV n2 n3 w2 ⟨i,hi,fx,e,gI⟩;cases e
   refine T.at ?_ gI;have e5:=m9 i;apply fZ<;>intro g1
   ·have cj:i<q.aB.length:=by omega
    have gx:=aj cj;generalize q.aB[i]=x at gx;refine iq hq.aB ⟨by omega,by omega⟩ rfl λa ha=>?_;rw[ak];apply kd hq.aB ha gx rfl
    repeat' first|apply ws;intros|apply wb|refine JS ?_
    rw[e5];by_cases hg:m8 x
    ·rw[aw hg];apply ws;refine T.drop λw3 h3=>⟨⟨i+1,cj,?_,rfl,h3⟩,dn (by omega)⟩;rw[qV gx fx];exact aw hg
    ·rw[aq hg];apply ws;rw[all_false gx (aq hg)] at h;exact T.drop h
   ·have iO:i=q.aB.length:=by omega
    subst iO;rw[aV] at fx;rw[fx] at h;exact h
  have g1: ¬q.op=1:=by simpa using g1
  apply db<;>intro g2
  ·have g2:q.op=2:=by simpa using g2
   unfold pF at h;rw[af g1,ai g2] at h;apply ws;intro w jo;refine⟨λvv w=>∃i:Nat,i<=q.bQ.length/\(q.bQ.take i).all (λx=>decide (kB x))=true/\vv=[.b false,.l s.st q.bQ.length s.ct,.i (q.bQ.length:Int),.i (i:Int)]/\St W w (Sep.pt r1 (fU q s)::L),
    mq 3 q.bQ.length,⟨0,aE _,rfl,rfl,jo⟩,?_⟩
   rintro b2 jJ iX jV n2 n3 w2 ⟨i,hi,fx,e,gI⟩;cases e
   refine T.at ?_ gI;have e5:=m9 i;apply fZ<;>intro g1
   ·have cj:i<q.bQ.length:=by omega
    have gx:=aj cj;generalize q.bQ[i]=x at gx;refine iq hq.bQ ⟨by omega,by omega⟩ rfl λa ha=>?_;rw[ak];apply kd hq.bQ ha gx rfl
    repeat' first|apply ws;intros|apply wb|refine IN ?_
    rw[e5];by_cases hg:kB x
    ·rw[aw hg];apply ws;refine T.drop λw3 h3=>⟨⟨i+1,cj,?_,rfl,h3⟩,dn (by omega)⟩;rw[qV gx fx];exact aw hg
    ·rw[aq hg];apply ws;rw[all_false gx (aq hg)] at h;exact T.drop h
   ·have iO:i=q.bQ.length:=by omega
    subst iO;rw[aV] at fx;rw[fx] at h;exact h
  ·have g2: ¬q.op=2:=by simpa using g2
   unfold pF at h;rw[af g1,af g2] at h;exact h
def OW[hh:Has R L](hq:oq W R q s)(AT:q.aB.length<1000000)(cj:q.bQ.length<1000000)(h:T W L (K (.b (j0 q)))):T W L (pC (fU q s) K):=by
 unfold pC
 repeat' first|apply ws;intros|apply wb|refine Qf ?_
 unfold j0 at h;cases he:kz q with
 |true=>
  rw[he,Bool.true_or] at h;apply ws;exact Kk hq AT cj (T.drop h)
 |false=>
  rw[he,Bool.false_or] at h
  repeat' first|apply ws|apply wb|refine Mz ?_
  refine Kk hq AT cj (T.drop ?_);rw[Bool.not_not];exact h
end
def Dq(b:Bool):List UInt8:=[if b then 1 else 0]
def XW(q:jY):List UInt8:=nb q.ye++le .i64 8 q.kq++le .i64 8 q.xD++Dq q.wG++Dq q.tW++Dq q.qO++le .i64 1 q.kX
def dN(q:jY):List UInt8:=le .i64 1 q.op++
 (if q.op=1 then le .i64 1 (q.aB.length:Int)++q.aB.flatMap jl
 else if q.op=2 then le .i64 1 (q.bQ.length:Int)++q.bQ.flatMap oL
 else if q.op=3 then le .i64 8 q.now
 else if q.op=6 then XW q
 else le .i64 1 (q.ids.length:Int)++q.ids.flatMap nb)
section
variable {W:World} {L R:LH} {K:VK} {X:WK} {p:Nat} {l:List UInt8} {f:List UInt8->LH} {q:jY} {s:vH}
def Nd(h:T W (buf p []::L) X):T W (Sep.pt p [.l none 0 0]::L) X:=λw hs=>by
 have h2:=(hs.push (A:=own none 0 0 1 (([]:List UInt8).map vf)) (rM 1)).perm (bX.swap _ _ _);exact h w (uA (k:=0) (L:=buf p []::L) (A:=buf p []) rfl rfl h2)
def dE{α:Type}{g:α->List UInt8}{e:Nat}(hg:∀x,(g x).length=e)(l:List α):(l.flatMap g).length=l.length* e:=by
 induction l with
 |nil=>simp
 |cons x l ih=>rw[iP,au,ih,hg,aW,mn];omega
def acf[i:Lc (buf p) L l f][hh:∀y,Has R (f y)]{sl:OA}{c:Nat}{items:List bN}(hr:np W R aO 14 sl items)(hg:∀x∈items,m8 x)(hi:items.length<=1000)(hl:l.length<1000000)
 (h:T W (f (l++le .i64 1 (items.length:Int)++items.flatMap jl)) (K (.tuple ⟨[]⟩))):T W L (lg (ah p) sl items.length c K):=by
 unfold lg;apply DF;refine r9 (by omega) (B9 ?_);intro w jo;refine⟨λvv w=>∃i:Nat,i<=items.length/\vv=[.l sl items.length c,.i (items.length:Int),.i (i:Int)]/\St W w (f (l++le .i64 1 (items.length:Int)++(items.take i).flatMap jl)),
  mq 2 items.length,⟨0,aE _,rfl,by simpa using jo⟩,?_⟩
 rintro jJ iX jV n1 n2 w2 ⟨i,hii,e,gI⟩;cases e
 refine T.at ?_ gI;have hn:=Lc.next (P:=buf p) inferInstance (l++le .i64 1 (items.length:Int)++(items.take i).flatMap jl) (L:=L) (x:=l) (f:=f);have AW:=hh (l++le .i64 1 (items.length:Int)++(items.take i).flatMap jl);have hlen:(l++le .i64 1 (items.length:Int)++(items.take i).flatMap jl).length<549755813888:=by
  rw[au,au,dE nD,aC,aP];have:min i items.length<=1000:=by omega
  have:min i items.length* (100-4)<=1000* (100-4):=iw _ this;omega
 have e5:=m9 i;apply fZ<;>intro g1
 ·have cj:i<items.length:=by omega
  have gx:=aj cj;have gm:=hg _ (cb cj);generalize items[i]=x at gx gm;refine iq hr ⟨by omega,by omega⟩ rfl λa ha=>?_;rw[ak];apply kd hr ha gx rfl
  repeat' first|apply ws;intros|apply wb|refine U9 (p:=p) gm hlen ?_
  rw[e5];refine T.drop λw3 h3=>⟨⟨i+1,cj,rfl,?_⟩,dn (by omega)⟩;rw[ba,gx,gi];simpa [aH] using h3
 ·have iO:i=items.length:=by omega
  subst iO;rw[aV];exact h
def ace[i:Lc (buf p) L l f][hh:∀y,Has R (f y)]{sl:OA}{c:Nat}{items:List cx}(hr:np W R aM 16 sl items)(hg:∀x∈items,kB x)(hi:items.length<=1000)(hl:l.length<1000000)
 (h:T W (f (l++le .i64 1 (items.length:Int)++items.flatMap oL)) (K (.tuple ⟨[]⟩))):T W L (kJ (ah p) sl items.length c K):=by
 unfold kJ;apply DF;refine r9 (by omega) (B9 ?_);intro w jo;refine⟨λvv w=>∃i:Nat,i<=items.length/\vv=[.l sl items.length c,.i (items.length:Int),.i (i:Int)]/\St W w (f (l++le .i64 1 (items.length:Int)++(items.take i).flatMap oL)),
  mq 2 items.length,⟨0,aE _,rfl,by simpa using jo⟩,?_⟩
 rintro jJ iX jV n1 n2 w2 ⟨i,hii,e,gI⟩;cases e
 refine T.at ?_ gI;have hn:=Lc.next (P:=buf p) inferInstance (l++le .i64 1 (items.length:Int)++(items.take i).flatMap oL) (L:=L) (x:=l) (f:=f);have AW:=hh (l++le .i64 1 (items.length:Int)++(items.take i).flatMap oL);have hlen:(l++le .i64 1 (items.length:Int)++(items.take i).flatMap oL).length<549755813888:=by
  rw[au,au,dE oK,aC,aP];have:min i items.length<=1000:=by omega
  have:min i items.length* 108<=1000* 108:=iw _ this;omega
 have e5:=m9 i;apply fZ<;>intro g1
 ·have cj:i<items.length:=by omega
  have gx:=aj cj;have gm:=hg _ (cb cj);generalize items[i]=x at gx gm;refine iq hr ⟨by omega,by omega⟩ rfl λa ha=>?_;rw[ak];apply kd hr ha gx rfl
  repeat' first|apply ws;intros|apply wb|refine Nh (p:=p) gm hlen ?_
  rw[e5];refine T.drop λw3 h3=>⟨⟨i+1,cj,rfl,?_⟩,dn (by omega)⟩;rw[ba,gx,gi];simpa [aH] using h3
 ·have iO:i=items.length:=by omega
  subst iO;rw[aV];exact h
def Z7[i:Lc (buf p) L l f](hl:l.length<1000000)(h:T W (f (l++XW q)) (K (.tuple ⟨[]⟩))):T W L (o8 (ah p) (pW q) K):=by
 unfold o8;have hn0:=i.next
 repeat' first|apply ws;intros|apply wb|refine JT (by omega) ?_
 rename_i r1
 repeat' first|apply ws|apply wb|refine zt (by simp only[au,rN,aP];omega) ?_
 intro w jo;refine⟨λvv w=>∃i:Nat,i<=3/\vv=[.p (some (ad r1 0)),.agg ⟨[.b q.wG,.b q.tW,.b q.qO]⟩,.i (i:Int)]/\St W w (Sep.pt r1 (pW q)::f (l++nb q.ye++le .i64 8 q.kq++le .i64 8 q.xD++([q.wG,q.tW,q.qO].take i).flatMap Dq)),
  mq 2 3,⟨0,aE _,rfl,by simpa using jo⟩,?_⟩
 rintro a4 JL n3 w2 ⟨i,hi,e,gI⟩;cases e
 refine T.at ?_ gI;have hn:=Lc.next (P:=buf p) inferInstance (l++nb q.ye++le .i64 8 q.kq++le .i64 8 q.xD++([q.wG,q.tW,q.qO].take i).flatMap Dq) (L:=L) (x:=l) (f:=f);have Jq:(([q.wG,q.tW,q.qO].take i).flatMap Dq).length<=3:=by rw[dE (e:=1) (λ_=>rfl),aC];simp;omega
 have e5:=m9 i;apply fZ<;>intro g1
 ·have cj:i<3:=by omega
  obtain⟨b,hb⟩:∃b,[q.wG,q.tW,q.qO][i]?=some b:=⟨_,aj (by simpa using cj)⟩;have hv:[Value.bool q.wG,.b q.tW,.b q.qO][i]?=some (.b b):=by
   have:=congrArg (yr Value.bool) hb;rw[<-dU] at this;exact this
  apply O5 cj hv
  repeat' first|apply ws|apply wb|refine Yx (by simp only[au,rN,aP];omega) ?_
  rw[e5];refine λw3 h3=>⟨⟨i+1,cj,rfl,?_⟩,dn (by omega)⟩;rw[ba,hb,gi];simpa [aH,Dq] using h3
 ·have iO:i=3:=by omega
  subst iO
  repeat' first|apply ws|apply wb|refine r9 (by simp only[au,rN,aP];omega) ?_
  have e2:l++nb q.ye++le .i64 8 q.kq++le .i64 8 q.xD++([q.wG,q.tW,q.qO].take 3).flatMap Dq++le .i64 1 q.kX=l++XW q:=by
   unfold XW;simp[aH]
  rw[e2];exact T.drop h
def mE(h:j0 q=true):(q.op=1/\q.aB.length<=8/\∀a∈q.aB,m8 a)\/(q.op=2/\q.bQ.length<=8/\∀t∈q.bQ,kB t)\/(q.op=3/\0<=q.now/\q.now<=1099511627776)\/((q.op=4\/q.op=5)/\q.ids.length<=16)\/(q.op=6/\0<=q.kq/\0<=q.xD/\1<=q.kX/\q.kX<=16):=by
 unfold j0 kz nQ pF at h;simp only[dh,Bool.or_eq_true] at h;obtain⟨h1,h2⟩:=h;by_cases o1:q.op=1
 ·rw[ai o1] at h1 h2;rw[af (by omega),af (by omega)] at h1;simp at h1 h2;exact .inl ⟨o1,h1.2,h2⟩
 by_cases o2:q.op=2
 ·rw[af o1,ai o2] at h1 h2;rw[af (by omega),af (by omega)] at h1;simp at h1 h2;exact .inr (.inl ⟨o2,h1.2,h2⟩)
 by_cases o3:q.op=3
 ·rw[af o1,af o2,ai o3] at h1;rw[af (by omega),af (by omega)] at h1;simp at h1;exact .inr (.inr (.inl ⟨o3,h1⟩))
 rw[af o1,af o2,af o3] at h1;by_cases o4:q.op=4\/q.op=5
 ·rw[ai o4] at h1;simp at h1;exact .inr (.inr (.inr (.inl ⟨o4,h1.2⟩)))
 rw[af o4] at h1;by_cases o6:q.op=6
 ·rw[ai o6] at h1;simp at h1;exact .inr (.inr (.inr (.inr ⟨o6,h1.1⟩)))
 ·rw[af o6] at h1;simp at h1
def SB[hh:Has R L](hq:oq W R q s)(AT:q.aB.length<1000000)(cj:q.bQ.length<1000000)(h1:j0 q=true->T W L (K (.tuple ⟨[.s (bs (dN q)),.i 0]⟩)))(h0:j0 q=false->T W L (K (.tuple ⟨[.s .empty,.i 1]⟩))):T W L (wU (fU q s) K):=by
 unfold wU
 repeat' first|apply ws;intros|apply wb|refine OW hq AT cj ?_
 rename_i r1;cases hw:j0 q with
 |false=>
  apply ws;exact T.drop (h0 hw)
 |true=>
  have h1:=h1 hw;have hf:=mE hw;apply ws;intros;rename_i r2;apply Nd
  repeat' first|apply ws|apply wb|refine r9 (by simp) ?_
  unfold dN at h1;apply db<;>intro g1
  ·have g1:q.op=1:=by simpa using g1
   rw[ai g1] at h1;have Ef:q.aB.length<=8/\∀a∈q.aB,m8 a:=by rcases hf with h|h|h|h|h<;>first|exact h.2|omega
   apply ws;apply acf (R:=R) hq.aB Ef.2 (by omega) (by simp[aP])
   repeat' first|apply ws|apply wb|refine sQ ?_
   rw[cT,aH];exact T.dp h1
  have g1: ¬q.op=1:=by simpa using g1
  rw[af g1] at h1;apply db<;>intro g2
  ·have g2:q.op=2:=by simpa using g2
   rw[ai g2] at h1;have Ef:q.bQ.length<=8/\∀a∈q.bQ,kB a:=by rcases hf with h|h|h|h|h<;>first|exact h.2|omega
   apply ws;apply ace (R:=R) hq.bQ Ef.2 (by omega) (by simp[aP])
   repeat' first|apply ws|apply wb|refine sQ ?_
   rw[cT,aH];exact T.dp h1
  have g2: ¬q.op=2:=by simpa using g2
  rw[af g2] at h1;apply db<;>intro g3
  ·have g3:q.op=3:=by simpa using g3
   rw[ai g3] at h1
   repeat' first|apply ws|apply wb|first|refine zt (by simp[aP]) ?_|refine sQ ?_
   rw[cT];exact T.dp h1
  have g3: ¬q.op=3:=by simpa using g3
  rw[af g3] at h1;apply db<;>intro g6
  ·have g6:q.op=6:=by simpa using g6
   rw[ai g6] at h1;apply ws;apply Z7 (by simp[aP])
   repeat' first|apply ws|apply wb|refine sQ ?_
   rw[cT];exact T.dp h1
  have g6: ¬q.op=6:=by simpa using g6
  rw[af g6] at h1;have Ef:q.ids.length<=16:=by rcases hf with h|h|h|h|h<;>first|exact h.2|omega
  repeat' first|apply ws|apply wb|refine r9 (by simp[aP]) ?_
  intro w jo;refine⟨λvv w=>∃i:Nat,i<=q.ids.length/\vv=[.s .empty,.i 0,.p (some (ad r2 0)),.l s.si q.ids.length s.ci,.i (q.ids.length:Int),.i (i:Int)]/\
   St W w (buf r2 (le .i64 1 q.op++(le .i64 1 (q.ids.length:Int)++(q.ids.take i).flatMap nb))::Sep.pt r1 (fU q s)::L),
   mq 5 q.ids.length,⟨0,aE _,rfl,by simpa using jo⟩,?_⟩
  rintro s5 n4 a1 GC GB GP n5 n6 w2 ⟨i,hi,e,gI⟩;cases e
  refine T.at ?_ gI;have hlen:(le .i64 1 q.op++(le .i64 1 (q.ids.length:Int)++(q.ids.take i).flatMap nb)).length<1099511627776:=by
   rw[au,au,dE rN,aC,aP,aP];have:min i q.ids.length<=16:=by omega
   omega
  have e5:=m9 i;apply fZ<;>intro g1
  ·have cj:i<q.ids.length:=by omega
   have gx:=aj cj;generalize q.ids[i]=x at gx;refine iq hq.ids ⟨by omega,by omega⟩ rfl λa ha=>?_;rw[ak];apply kd hq.ids ha gx rfl
   repeat' first|apply ws;intros|apply wb|refine JT hlen ?_
   rw[e5];refine T.drop λw3 h3=>⟨⟨i+1,cj,rfl,?_⟩,dn (by omega)⟩;rw[ba,gx,gi];simpa [aH] using h3
  ·have iO:i=q.ids.length:=by omega
   subst iO;rw[aV]
   repeat' first|apply ws|apply wb|refine sQ ?_
   exact T.dp h1
end
def q0:jY:=⟨0,[],[],0,[],0,0,0,false,false,false,0⟩
def s0:vH:=⟨none,0,none,0,none,0⟩
instance{q q':jY}{s s':vH}:Wr (fU q s) 0 (fU q' s') (fU q' s'):=⟨rfl,aF _,Bl q' s'⟩
instance{q:jY}{s:vH}:Wr (fU q s) 0 [.i 0,.l none 0 0,.l none 0 0,.i 0,.l none 0 0,.u 0,.u 0,.i 0,.i 0,.b false,.b false,.b false,.i 0] (fU q0 s0):=⟨rfl,aF _,Bl q0 s0⟩
instance{q:jY}{s:vH}{a:Nat}{f t m:Int}{d c l:Bool}:Wr (fU q s) 5 (nm a++([.i f,.i t,.b d,.b c,.b l,.i m]:LV)) (fU ⟨q.op,q.aB,q.bQ,q.now,q.ids,a,f,t,d,c,l,m⟩ s):=⟨rfl,by show 13<=13;decide,LU ⟨q.op,q.aB,q.bQ,q.now,q.ids,a,f,t,d,c,l,m⟩⟩
def NL(n:Int):jY:=⟨n,[],[],0,[],0,0,0,false,false,false,0⟩
def opC(n:Int):fU (NL n) s0=[.i n,.l none 0 0,.l none 0 0,.i 0,.l none 0 0,.u 0,.u 0,.i 0,.i 0,.b false,.b false,.b false,.i 0]:=by
 simp[fU,pW,nm,NL,s0]
instance{x1 x2 x3 x4 x5 x6 x7 x8 x9 EC EB EA Ez:Value}{n:Int}:Wr [x1,x2,x3,x4,x5,x6,x7,x8,x9,EC,EB,EA,Ez] 0 [.i n,.l none 0 0,.l none 0 0,.i 0,.l none 0 0,.u 0,.u 0,.i 0,.i 0,.b false,.b false,.b false,.i 0] (fU (NL n) s0):=by
 rw[<-opC n];exact⟨rfl,aF _,Bl _ _⟩
def gV(l:List UInt8):jY×RS:=
 let x:RS:=(l,false)
 let y:=eJ 1 x
 if jm 1 x=1 then({q0 with op:=1,aB:=(many DJ DK (jm 1 y).toNat (eJ 1 y)).1},(many DJ DK (jm 1 y).toNat (eJ 1 y)).2)
 else if jm 1 x=2 then({q0 with op:=2,bQ:=(many D5 D6 (jm 1 y).toNat (eJ 1 y)).1},(many D5 D6 (jm 1 y).toNat (eJ 1 y)).2)
 else if jm 1 x=3 then({q0 with op:=3,now:=jm 8 y},eJ 8 y)
 else if jm 1 x=6 then({q0 with op:=6,ye:=zP y,kq:=jm 8 (eJ 16 y),xD:=jm 8 (eJ 8 (eJ 16 y)),wG:=nvF (eJ 8 (eJ 8 (eJ 16 y))),tW:=nvF (MJ (eJ 8 (eJ 8 (eJ 16 y)))),qO:=nvF (MJ (MJ (eJ 8 (eJ 8 (eJ 16 y))))),kX:=jm 1 (MJ (MJ (MJ (eJ 8 (eJ 8 (eJ 16 y))))))},
  eJ 1 (MJ (MJ (MJ (eJ 8 (eJ 8 (eJ 16 y)))))))
 else({q0 with op:=jm 1 x,ids:=(many (eJ 16) zP (jm 1 y).toNat (eJ 1 y)).1},(many (eJ 16) zP (jm 1 y).toNat (eJ 1 y)).2)
def rK(l:List UInt8):Bool:=(!(gV l).2.2&&decide ((gV l).2.1=[]))&&j0 (gV l).1
def Jb(x:RS):(MJ x).1.length<=x.1.length:=by
 unfold MJ;split
 ·exact sW _ _
 ·exact sW _ _
section
variable {W:World} {L R:LH} {K:VK} {X:WK} {p r:Nat} {l:List UInt8} {q:jY} {s:vH} {A:HP}
def Ng(h:∀r,T W (rd r (l,false)::L) (K (.p (ah r)))):T W L (oB (bs l) K):=λw hs=>sC hs λr w' h'=>h r w' h'
def np.own{α:Type}{b:OA}{n c e:Nat}{g:α->LV}{xs:List α}(hg:∀x,(g x).length=e)(hn:n=xs.length):np W (Sep.own b n c e (xs.flatMap g)::L) g e b xs:=λw hw i x hx=>by
 obtain⟨hl,h0|⟨r,sp,hb,vd,B4,hs⟩⟩:=hw.oI (k:=0) rfl
 ·have:=(av.1 hx).1;omega
 ·refine⟨⟨r,0,none⟩,hb,?_⟩;subst hb;rw[gY,aD];exact zw (k:=0) hw rfl (qP hg xs i x hx)
def np.nil{α:Type}{b:OA}{e:Nat}{g:α->LV}:np W R g e b []:=λw hw i x hx=>by simp at hx
def Sz{r1 r2:Nat}{x:RS}(hq:oq W (A::L) q s)(AT:q.aB.length<1000000)(cj:q.bQ.length<1000000)
 (h0:((!x.2&&decide (x.1=[]))&&j0 q)=false->T W L (K (.tuple ⟨[.agg ⟨fU q0 s0⟩,.i 4]⟩)))
 (h1:((!x.2&&decide (x.1=[]))&&j0 q)=true->T W (A::L) (K (.tuple ⟨[.agg ⟨fU q s⟩,.i 0]⟩))):
 T W (Sep.pt r2 (fU q s)::rd p x::Sep.pt r1 (fU q0 s0)::A::L) (jI.j1 K (ah p) r1 r2):=by
 unfold jI.j1;apply OJ (r:=p);apply sA;cases he:(!x.2&&decide (x.1=[])) with
 |false=>
  rw[he,fK] at h0;have h0:=h0 rfl;rw[OQ,kZ];apply ws;exact T.dp h0
 |true=>
  rw[he,dI] at h0 h1;rw[Bool.not_true,dX]
  repeat' first|apply ws|apply wb|refine OW (R:=A::L) hq AT cj ?_
  cases hw:j0 q with
  |false=>
   have h0:=h0 hw;apply ws;exact T.dp h0
  |true=>
   have h1:=h1 hw;apply ws;exact T.dp h1
def A2(hl:l.length<1099511627776)
 (h0:rK l=false->T W L (K (.tuple ⟨[.agg ⟨fU q0 s0⟩,.i 4]⟩)))
 (h1:rK l=true->∀A s,(∀L',oq W (A::L') (gV l).1 s)->T W (A::L) (K (.tuple ⟨[.agg ⟨fU (gV l).1 s⟩,.i 0]⟩))):T W L (jI (bs l) K):=by
 unfold jI;refine tN λr1=>?_;refine Ng λp=>?_;apply yj;refine sf hl (mg ?_);apply dJ ⟨rfl,trivial⟩;refine tN λr2=>?_;apply ws;have hy:=pk (m:=1) (x:=(l,false)) hl;have hb:=Q5 (eJ 1 (l,false));have fin:∀(q:jY)(x:RS)(A:HP)(s:vH),gV l=(q,x)->(∀L',oq W (A::L') q s)->q.aB.length<1000000->q.bQ.length<1000000->
  T W (A::Sep.pt r2 (fU q s)::rd p x::Sep.pt r1 (fU q0 s0)::L) (jI.j1 K (ah p) r1 r2):=by
  intro q x A s he hq AT cj;unfold rK at h0 h1;rw[he] at h0 h1;exact T.perm (Sz (hq L) AT cj h0 λhh=>h1 hh A s hq) (bt (l₁:=[A]) (l₂:=[Sep.pt r2 (fU q s),rd p x,Sep.pt r1 (fU q0 s0)])|>.append_right L)
 unfold gV at fin;dsimp only at fin;generalize jm 1 (l,false)=op at fin⊢;generalize eJ 1 (l,false)=y at fin hy hb⊢;apply db<;>intro g1
 ·have g1:op=1:=by simpa [NL] using g1
  subst g1;rw[ai rfl] at fin;refine PF hy λb c=>?_;have LD:=wu (nx:=DJ) (nv:=DK) (jm 1 y).toNat (eJ 1 y);obtain⟨out,ho⟩:∃out,(many DJ DK (jm 1 y).toNat (eJ 1 y)).1=out:=⟨_,rfl⟩;obtain⟨z,hz⟩:∃z,(many DJ DK (jm 1 y).toNat (eJ 1 y)).2=z:=⟨_,rfl⟩;rw[ho,hz] at fin⊢;rw[ho] at LD;apply tZ;refine qv (b:=b) λvd _=>?_;apply C3 (r:=r2) (cs:=fU (NL 1) s0) (o:=1) (v:=.l b out.length c) (by decide) rfl;exact fin _ _ (Sep.own b out.length c 14 (out.flatMap aO)) ⟨b,c,none,0,none,0⟩ rfl (λ_=>⟨np.own (λ_=>rfl) rfl,np.nil,np.nil,vd,aF _,aF _⟩) (by show out.length<_;omega) (by show 0<_;decide)
 have g1: ¬op=1:=by simpa [NL] using g1
 rw[af g1] at fin;apply db<;>intro g2
 ·have g2:op=2:=by simpa [NL] using g2
  subst g2;rw[ai rfl] at fin;refine PE hy λb c=>?_;have LD:=wu (nx:=D5) (nv:=D6) (jm 1 y).toNat (eJ 1 y);obtain⟨out,ho⟩:∃out,(many D5 D6 (jm 1 y).toNat (eJ 1 y)).1=out:=⟨_,rfl⟩;obtain⟨z,hz⟩:∃z,(many D5 D6 (jm 1 y).toNat (eJ 1 y)).2=z:=⟨_,rfl⟩;rw[ho,hz] at fin⊢;rw[ho] at LD;apply tZ;refine qv (b:=b) λvd _=>?_;apply C3 (r:=r2) (cs:=fU (NL 2) s0) (o:=2) (v:=.l b out.length c) (by decide) rfl;exact fin _ _ (Sep.own b out.length c 16 (out.flatMap aM)) ⟨none,0,b,c,none,0⟩ rfl (λ_=>⟨np.nil,np.own (λ_=>rfl) rfl,np.nil,aF _,vd,aF _⟩) (by show 0<_;decide) (by show out.length<_;omega)
 have g2: ¬op=2:=by simpa [NL] using g2
 rw[af g2] at fin;apply db<;>intro g3
 ·have g3:op=3:=by simpa [NL] using g3
  subst g3;rw[ai rfl] at fin;refine xQ hy (mg ?_);refine C3 (r:=r2) (cs:=fU (NL 3) s0) (o:=3) (v:=.i (jm 8 y)) (by decide) rfl ?_;refine iR (e:=1) ?_;exact fin _ _ (Sep.own none 0 0 1 []) s0 rfl (λ_=>⟨np.nil,np.nil,np.nil,aF _,aF _,aF _⟩) (by show 0<_;decide) (by show 0<_;decide)
 have g3: ¬op=3:=by simpa [NL] using g3
 rw[af g3] at fin;apply db<;>intro g6
 ·have g6:op=6:=by simpa [NL] using g6
  subst g6;rw[ai rfl] at fin;have b1:=pk (m:=16) hy;have b2:=pk (m:=8) b1;have b3:=pk (m:=8) b2;have b4:=qk (Jb _) b3;have b5:=qk (Jb _) b4;have b6:=qk (Jb _) b5;refine JZ hy (DE rfl ?_);refine xQ b1 (mg ?_);refine xQ b2 (mg ?_);refine J1 b3 (sA ?_);refine J1 b4 (sA ?_);refine J1 b5 (sA ?_);refine sf b6 (mg ?_);apply dJ ⟨rfl,rfl,rfl,rfl,rfl,rfl,rfl,trivial⟩;refine dJ rfl ?_;apply ws;refine iR (e:=1) ?_;exact fin _ _ (Sep.own none 0 0 1 []) s0 rfl (λ_=>⟨np.nil,np.nil,np.nil,aF _,aF _,aF _⟩) (by show 0<_;decide) (by show 0<_;decide)
 have g6: ¬op=6:=by simpa [NL] using g6
 rw[af g6] at fin;refine Xj hy λb c=>?_;have LD:=wu (nx:=eJ 16) (nv:=zP) (jm 1 y).toNat (eJ 1 y);obtain⟨out,ho⟩:∃out,(many (eJ 16) zP (jm 1 y).toNat (eJ 1 y)).1=out:=⟨_,rfl⟩;obtain⟨z,hz⟩:∃z,(many (eJ 16) zP (jm 1 y).toNat (eJ 1 y)).2=z:=⟨_,rfl⟩;rw[ho,hz] at fin⊢;rw[ho] at LD;apply tZ;refine qv (b:=b) λvd _=>?_;refine C3 (r:=r2) (cs:=fU (NL op) s0) (o:=4) (v:=.l b out.length c) (by rw[Tn];decide) rfl ?_;exact fin _ _ (Sep.own b out.length c 2 (out.flatMap nm)) ⟨none,0,none,0,b,c⟩ rfl (λ_=>⟨np.nil,np.nil,np.own (λ_=>rfl) rfl,aF _,aF _,vd⟩) (by show 0<_;decide) (by show 0<_;decide)
end
def Ou{n:Int}{i:Nat}(hi:i<8):Go.Sep.byteOf aa n i=Go.Sep.byteOf aa (n+18446744073709551616) i:=by
 unfold Go.Sep.byteOf shr;have h1:(8* (i:Int)).toNat=8* i:=by omega
 have h2:min (8* i) aa.bits=8* i:=by show min (8* i) 64=_;omega
 rw[h1,h2];have hp:(0:Int)<2^(8* i):=Int.pow_pos (by decide);rw[GI _ (Int.le_of_lt hp),GI _ (Int.le_of_lt hp)];have hq:(18446744073709551616:Int)=256* 2^(56-8* i)* 2^(8* i):=by
  have:(256:Int)* 2^(56-8* i)* 2^(8* i)=2^(8+(56-8* i)+8* i):=by
   rw[Int.pow_add,Int.pow_add];rfl
  rw[this,show 8+(56-8* i)+8* i=64 by omega];rfl
 rw[hq,Int.add_mul_ediv_right _ _ (by omega)]
 congr 2
 generalize n/2^(8* i)=a;generalize (2:Int)^(56-8* i)=c;simp only[IntKind.wrap,IntKind.bits,IntKind.signed];simp
def Q6{n:Int}(h:u2 n):nt (le .i64 8 n)=n:=by
 unfold u2 at h;by_cases h0:0<=n
 ·obtain⟨m,rfl⟩:=bw h0;unfold nt;rw[rG m 8 (by omega)];have h8:(256:Nat)^8=18446744073709551616:=rfl;rw[h8,fD (by omega),aX (by omega)]
 ·obtain⟨m,hm⟩:=bw (show 0<=n+18446744073709551616 by omega);have e:le .i64 8 n=le .i64 8 (m:Int):=by
   unfold le;apply mI;intro i hi;rw[List.mem_range] at hi;rw[Ou hi,hm]
  rw[e];unfold nt;rw[rG m 8 (by omega)];have h8:(256:Nat)^8=18446744073709551616:=rfl;rw[h8,fD (by omega)];simp[IntKind.wrap,IntKind.bits,IntKind.signed];split<;>omega
def EF(n:Nat):∀w:Nat,nV ((pK w).map λi=>UInt8.ofNat (n/256^i%256))=n%256^w
 |0=>by simp[nV,Nat.mod_one]
 |w+1=>by
  rw[List.range_succ,cU,EG,EF n w,bY,List.length_range,Nat.mod_pow_succ]
  congr 2
  have e:(UInt8.ofNat (n/256^w%256)).toNat=n/256^w%256:=UInt8.toNat_ofNat_of_lt' (Nat.mod_lt _ (by decide));show(UInt8.ofNat (n/256^w%256)).toNat+256* 0=_;rw[e];omega
def V'{n:Nat}(h:n<bJ):nV (nb n)=n:=by
 unfold nb;rw[EF];exact fD (by unfold bJ at h;exact h)
section
variable {r:List UInt8} {n:Int} {m:Nat}
def KU(l:List UInt8)(k:Nat)(hl:l.length=k):eJ k (l++r,false)=(r,false):=by
 unfold eJ;rw[af (by simp only[cG,false_or,au];omega),uS _ _ k hl]
def Pr(l:List UInt8)(k:Nat)(hl:l.length=k):jm k (l++r,false)=nt l:=by
 unfold jm;rw[af (by simp only[cG,false_or,au];omega),th _ _ k hl]
def Sg(h:0<=n/\n<=255):jm 1 (le .i64 1 n++r,false)=n:=by
 obtain⟨k,rfl⟩:=bw h.1;rw[Pr _ _ (aP _ _ _),nY (by rw[aP];omega),rG k 1 (by omega)];have:(256:Nat)^1=256:=rfl;rw[this,fD (by omega)]
def rd2(h:0<=n/\n<=65535):jm 2 (le .i64 2 n++r,false)=n:=by
 obtain⟨k,rfl⟩:=bw h.1;rw[Pr _ _ (aP _ _ _),nY (by rw[aP];omega),rG k 2 (by omega)];have:(256:Nat)^2=65536:=rfl;rw[this,fD (by omega)]
def rd4(h:0<=n/\n<=4294967295):jm 4 (le .i64 4 n++r,false)=n:=by
 obtain⟨k,rfl⟩:=bw h.1;rw[Pr _ _ (aP _ _ _),nY (by rw[aP];omega),rG k 4 (by omega)];have:(256:Nat)^4=4294967296:=rfl;rw[this,fD (by omega)]
def rd8(h:u2 n):jm 8 (le .i64 8 n++r,false)=n:=by
 rw[Pr _ _ (aP _ _ _),Q6 h]
def VC(h:m<bJ):zP (nb m++r,false)=m:=by
 unfold zP La;rw[af (by simp),af (by show ¬(nb m++r).length<16;rw[au,rN];omega)];show nV ((nb m++r).take 16)=m;rw[th _ _ 16 (rN m),V' h]
def W9:eJ 1 (le .i64 1 n++r,false)=(r,false):=KU _ _ (aP _ _ _)
def nx2:eJ 2 (le .i64 2 n++r,false)=(r,false):=KU _ _ (aP _ _ _)
def nx4:eJ 4 (le .i64 4 n++r,false)=(r,false):=KU _ _ (aP _ _ _)
def nx8:eJ 8 (le .i64 8 n++r,false)=(r,false):=KU _ _ (aP _ _ _)
def W8:eJ 16 (nb m++r,false)=(r,false):=KU _ _ (rN _)
def Bu(a:bN):DJ (jl a++r,false)=(r,false):=by
 have e:jl a++r=nb a.id++(nb a.dp++(nb a.dq++(nb a.cp++(nb a.cq++(le .i64 4 a.bF++(le .i64 2 a.code++(le .i64 2 a.ao++(le .i64 8 a.ay++r)))))))):=by
  unfold jl;simp[aH]
 rw[e];unfold DJ;simp only[yb,W8,nx4,nx2,nx8]
def Fz{a:bN}(ha:yi a)(hg:m8 a):DK (jl a++r,false)=a:=by
 unfold DK;rw[Bu,af (by simp)];have e:jl a++r=nb a.id++(nb a.dp++(nb a.dq++(nb a.cp++(nb a.cq++(le .i64 4 a.bF++(le .i64 2 a.code++(le .i64 2 a.ao++(le .i64 8 a.ay++r)))))))):=by
  unfold jl;simp[aH]
 rw[e];simp only[yb,W8,nx4,nx2,nx8];rw[VC ha.id,VC ha.dp,VC ha.dq,VC ha.cp,VC ha.cq,rd4 hg.1,rd2 hg.2.1,rd2 hg.2.2,rd8 ha.ay]
def Le(t:cx):oL t++r=nb t.id++(nb t.bC++(nb t.aU++(nb t.aT++(nb t.pending++(le .i64 4 t.cA++(le .i64 4 t.bF++(le .i64 2 t.code++(le .i64 2 t.ao++(le .i64 8 t.ay++(le .i64 8 t.jO++r)))))))))):=by
 unfold oL;simp[aH]
def yO(t:cx):D5 (oL t++r,false)=(r,false):=by
 rw[Le];unfold D5;simp only[yb,W8,nx4,nx2,nx8]
def Bv{t:cx}(ht:yf t)(hg:kB t):D6 (oL t++r,false)=t:=by
 unfold D6;rw[yO,af (by simp),Le];simp only[yb,W8,nx4,nx2,nx8];rw[VC ht.id,VC ht.bC,VC ht.aU,VC ht.aT,VC ht.pending,rd4 hg.1,rd4 hg.2.1,rd2 hg.2.2.1,rd2 hg.2.2.2,rd8 ht.ay,rd8 ht.jO]
def wv{α:Type}{nx:RS->RS}{nv:RS->α}{g:α->List UInt8}:∀(l:List α),(∀x∈l,∀r,nx (g x++r,false)=(r,false)/\nv (g x++r,false)=x)->∀r,many nx nv l.length (l.flatMap g++r,false)=(l,(r,false))
 |[],_,r=>rfl
 |x::l,h,r=>by
  rw[aW,pE,iP,aH,(h x (by simp) _).1,(h x (by simp) _).2,wv l (λy hy=>h y (by simp[hy])) r]
  rfl
end
def canon(q:jY):jY:=if q.op=1 then{q0 with op:=1,aB:=q.aB} else if q.op=2 then{q0 with op:=2,bQ:=q.bQ} else{q0 with op:=3,now:=q.now}
def Cl{q:jY}(hw:j0 q=true)(he:fW q=true)(hA:∀a∈q.aB,yi a)(hT:∀t∈q.bQ,yf t):gV (dN q)=(canon q,([],false)):=by
 have Lz:q.op=1\/q.op=2\/q.op=3:=aS he;have hf:=mE hw;unfold gV dN canon;dsimp only;rw[Sg (by omega),W9];by_cases o1:q.op=1
 ·have Ef:q.aB.length<=8/\∀a∈q.aB,m8 a:=by rcases hf with h|h|h|h|h<;>first|exact h.2|omega
  rw[ai o1,ai o1,ai o1,Sg (by omega),W9,ak];have:=wv (nx:=DJ) (nv:=DK) (g:=jl) q.aB (λa ha r=>⟨Bu a,Fz (hA a ha) (Ef.2 a ha)⟩) [];rw[bO] at this;rw[this]
 by_cases o2:q.op=2
 ·have Ef:q.bQ.length<=8/\∀a∈q.bQ,kB a:=by rcases hf with h|h|h|h|h<;>first|exact h.2|omega
  rw[af o1,af o1,af o1,ai o2,ai o2,ai o2,Sg (by omega),W9,ak];have:=wv (nx:=D5) (nv:=D6) (g:=oL) q.bQ (λa ha r=>⟨yO a,Bv (hT a ha) (Ef.2 a ha)⟩) [];rw[bO] at this;rw[this]
 ·have o3:q.op=3:=by omega
  have Ef:0<=q.now/\q.now<=1099511627776:=by rcases hf with h|h|h|h|h<;>first|exact h.2|omega
  rw[af o1,af o1,af o1,af o2,af o2,af o2,ai o3,ai o3];have e8:le .i64 8 q.now=le .i64 8 q.now++[]:=(bO _).symm;rw[e8,rd8 (by unfold u2;omega),nx8]
def Ga(m:aA){q:jY}(he:fW q=true):bn m (canon q)=bn m q/\kz (canon q)=kz q:=by
 have Lz:q.op=1\/q.op=2\/q.op=3:=aS he;unfold canon;by_cases o1:q.op=1
 ·rw[ai o1];unfold bn kz;simp[o1]
 by_cases o2:q.op=2
 ·rw[af o1,ai o2];unfold bn kz;simp[o2]
 ·have o3:q.op=3:=by omega
  rw[af o1,af o2];unfold bn kz;simp[o3]
def Gb{q:jY}(hw:j0 q=true)(he:fW q=true):j0 (canon q)=true/\fW (canon q)=true:=by
 have Lz:q.op=1\/q.op=2\/q.op=3:=aS he;unfold j0 nQ pF at *;rw[(Ga ⟨[],[],0,0⟩ he).2];unfold fW canon;by_cases o1:q.op=1
 ·simp[o1] at hw⊢;exact hw
 by_cases o2:q.op=2
 ·simp[o2] at hw⊢;exact hw
 ·have o3:q.op=3:=by omega
  simp[o3] at hw⊢;exact hw
def C8{q:jY}(hw:j0 q=true)(he:fW q=true)(hA:∀a∈q.aB,yi a)(hT:∀t∈q.bQ,yf t):rK (dN q)=true:=by
 unfold rK;rw[Cl hw he hA hT,(Gb hw he).1];rfl
def oE(e:Int)(res:List Int)(al:List bN)(tl:List cx):Bool:=
 res.all (λr=>decide (0<=r/\r<=255))&&al.all (λa=>decide (m8 a))&&tl.all (λt=>decide (kB t))&&decide (0<=e/\e<=255)&&decide (res.length<=16/\al.length<=16/\tl.length<=16)
def yI(e:Int)(res:List Int)(al:List bN)(tl:List cx):List UInt8:=
 le .i64 1 e++(le .i64 1 res.length++(res.flatMap (λr=>le .i64 1 r)++(le .i64 1 al.length++(al.flatMap jl++(le .i64 1 tl.length++tl.flatMap oL)))))
def qq(e:Int)(res:List Int)(al:List bN)(tl:List cx):List UInt8:=if oE e res al tl=true then yI e res al tl else yI 3 [] [] []
def yL(l:List UInt8):Int×List Int×List bN×List cx×RS:=
 let x1:=eJ 1 (l,false)
 let r:=many (eJ 1) (jm 1) (jm 1 x1).toNat (eJ 1 x1)
 let a:=many DJ DK (jm 1 r.2).toNat (eJ 1 r.2)
 let t:=many D5 D6 (jm 1 a.2).toNat (eJ 1 a.2)
 (jm 1 (l,false),r.1,a.1,t.1,t.2)
def Bn(l:List UInt8):Bool:=(!(yL l).2.2.2.2.2&&decide ((yL l).2.2.2.2.1=[]))&&oE (yL l).1 (yL l).2.1 (yL l).2.2.1 (yL l).2.2.2.1
def uL{e:Int}{res:List Int}{al:List bN}{tl:List cx}(h:oE e res al tl=true):(∀r∈res,0<=r/\r<=255)/\(∀a∈al,m8 a)/\(∀t∈tl,kB t)/\(0<=e/\e<=255)/\res.length<=16/\al.length<=16/\tl.length<=16:=by
 unfold oE at h;simp only[dh,List.all_eq_true,decide_eq_true_eq] at h;obtain⟨⟨⟨⟨h1,h2⟩,h3⟩,h4⟩,h5⟩:=h;exact⟨h1,h2,h3,h4,h5⟩
def Fa{e:Int}{res:List Int}{al:List bN}{tl:List cx}(h:oE e res al tl=true)(hA:∀a∈al,yi a)(hT:∀t∈tl,yf t):yL (yI e res al tl)=(e,res,al,tl,([],false)):=by
 obtain⟨h1,h2,h3,h4,h5,h6,h7⟩:=uL h;unfold yL yI;have nn:∀n:Nat,n<=16->((n:Int)).toNat=n:=λn _=>ak n;simp only[W9,Sg (n:=e) h4,Sg (n:=(res.length:Int)) (by omega)];rw[ak,wv (g:=λr=>le .i64 1 r) res (λx hx r=>⟨W9,Sg (h1 x hx)⟩)];simp only[W9,Sg (n:=(al.length:Int)) (by omega)];rw[ak,wv (g:=jl) al (λx hx r=>⟨Bu x,Fz (hA x hx) (h2 x hx)⟩)];simp only[W9,Sg (n:=(tl.length:Int)) (by omega)];have:=wv (nx:=D5) (nv:=D6) (g:=oL) tl (λx hx r=>⟨yO x,Bv (hT x hx) (h3 x hx)⟩) [];rw[bO] at this;rw[ak,this]
def I0{e:Int}{res:List Int}{al:List bN}{tl:List cx}(hA:∀a∈al,yi a)(hT:∀t∈tl,yf t):Bn (qq e res al tl)=true/\
 yL (qq e res al tl)=if oE e res al tl=true then(e,res,al,tl,([],false)) else(3,[],[],[],([],false)):=by
 unfold qq;by_cases h:oE e res al tl=true
 ·rw[ai h,ai h];have:=Fa h hA hT;unfold Bn;rw[this];exact⟨by rw[h];rfl,rfl⟩
 ·rw[af h,af h];have h0:oE 3 [] [] []=true:=by decide
  have:=Fa h0 (λa ha=>by cases ha) (λt ht=>by cases ht);unfold Bn;rw[this];exact⟨by rw[h0];rfl,rfl⟩
def Tp{e:Int}{res:List Int}{al:List bN}{tl:List cx}:(qq e res al tl).length<=20000:=by
 unfold qq;split
 ·rename_i h;obtain⟨_,_,_,_,h5,h6,h7⟩:=uL h;unfold yI;have f1:(res.flatMap λr=>le .i64 1 r).length=res.length* 1:=dE (λr=>aP _ _ _) res;have f2:(al.flatMap jl).length=al.length* 96:=dE nD al;have f3:=dE oK tl;simp only[au,aP,f1,f2,f3];omega
 ·simp[yI,aP]
section
variable {W:World} {L R:LH} {K:VK} {X:WK} {p:Nat} {b:bh}
def RR{q:Core}{f:Core->LH}[i:Lc (gW p) L q f](hl:q.vs.length<1000000)(h:T W (f {q with vs:=[]}) (K (.tuple ⟨[]⟩))):T W L (mS (ah p) K):=by
 refine qE (p:=p) λb1 c1 b2 c2 b3 c3 hp R2 g1 g2 Uf=>?_;unfold mS jq;apply ws;refine qv (b:=b1) λvd H3=>?_;refine S5 (b:=b1) (by rw[oA,H3];simp) (λv hv=>?_) λzs=>?_
 ·simp only[Builtin.zeroCells,Array.toList_map,dF] at hv;obtain⟨j,_,rfl⟩:=hv;have:(⟨[Value.nilFunc]⟩:Array Value)[j%(⟨[Value.nilFunc]⟩:Array Value).size]! =.nilFunc:=by
   have:j%(⟨[Value.nilFunc]⟩:Array Value).size=0:=Nat.mod_one j;rw[this];rfl
  rw[this];rfl
 apply ws;refine Ad (i:=0) (by omega) ?_;refine Ca (b:=b1) (i:=0) (by omega) ?_;apply ws;rw[Nat.zero_mul,og];exact Uf [] {q with vs:=[]} b1 c1 b2 c2 b3 c3 hp _ g1 g2 h
def Kw{α:Type}{g:α->LV}{e l:Nat}(h:T W (sw g e l (p,[])::L) X):T W (Sep.pt l [.l none 0 0,.p (some (ad p 0))]::L) X:=λw hw=>by
 have h2:=(hw.push (A:=own none 0 0 e []) (rM e)).perm (bX.swap _ _ _);exact h w (St.qR (none,0) (St.ra [_,_] L h2))
def UZ(h:∀p la lk ti tn,T W (gW p ⟨la,lk,ti,tn,[],[],[],0,0⟩::sw aO 14 la (p,[])::sw bM 33 lk (p,[])::pr ti (λ_=>none,0)::pr tn (λ_=>none,0)::L) (K (.p (ah p)))):T W L (uC K):=by
 unfold uC;refine ZU λti=>?_;apply yj;refine ZU λtn=>?_;apply yj;apply dJ ⟨rfl,rfl,trivial⟩;refine tN λr=>?_;unfold qC sz;apply IJ;apply dJ ⟨rfl,trivial⟩;refine tN λla=>?_;apply yj;apply dJ ⟨rfl,trivial⟩;refine tN λlk=>?_;apply yj;refine C3 (r:=r) (cs:=[.l none 0 0,.p none,.p none,.p (ah ti),.p (ah tn),.l none 0 0,.l none 0 0,.i 0,.i 0]) (o:=1) (v:=.p (ah la)) (by show 1<9;decide) rfl ?_;refine C3 (r:=r) (cs:=[.l none 0 0,.p (ah la),.p none,.p (ah ti),.p (ah tn),.l none 0 0,.l none 0 0,.i 0,.i 0]) (o:=2) (v:=.p (ah lk)) (by show 2<9;decide) rfl ?_;refine Kw (g:=bM) (e:=33) ?_;refine T.Ns (Kw (g:=aO) (e:=14) ?_);refine iR (e:=4) (iR (e:=2) (iR (e:=1) ?_));have:=AJ (W:=W) (p:=r) (q:=⟨la,lk,ti,tn,[],[],[],0,0⟩) (b1:=none) (c1:=0) (b2:=none) (c2:=0) (b3:=none) (c3:=0) (h:=[]) (X:=K (.p (ah r))) (λj hj x y hx=>by simp at hx) (bX.refl _) (h r la lk ti tn);apply T.perm this;exact(bt (l₁:=[_,_,_,_,_]) (l₂:=[_])|>.append_right (_::_::L)).trans (bX.append_left [_,_,_,_,_,_] (bX.swap _ _ _))
def HV{α:Type}{key:α->Nat}{l:List α}(hn:(l.map key).Nodup){i:Nat}{x:α}(hx:l[i]?=some x):(l.take i).find? (λa=>key a=key x)=none:=by
 obtain⟨hi,rfl⟩:=av.1 hx;rw[pM];intro a ha hk;obtain⟨j,hj,rfl⟩:=List.getElem_of_mem ha;rw[aC] at hj;rw[List.getElem_take] at hk;have:=qj.1 hn j i (by simpa using by omega) (by simpa using hi) (by omega);simp only[List.getElem_map] at this;exact this (by simpa using hk)
def GN(l:List cr)(j:Nat):ft 0 (l.take j)=(ft 0 l).take j:=by
 apply oz;intro i;rw[mz,sj,sj,mz];split<;>rfl
def ab1(hg:fk b){sa sk:OA}{ca ck:Nat}[hh:Has R L](hA:np W R aO 14 sa b.aB)(hK:np W R bM 33 sk b.ax)
 (h:∀p,T W (cR p (b,[])::L) (K (.tuple ⟨[.p (ah p),.i 0]⟩))):T W L (eG sa b.aB.length ca sk b.ax.length ck b.clock b.ay K):=by
 have oS:=hg.oS;have many:=hg.many;have u7:=hg.ay;have hck:=hg.clock;unfold eG;refine UZ λp la lk ti tn=>?_;apply yj;refine eO (by simp;omega) ?_;unfold eG.j3;rw[show decide (((b.ax.length:Nat):Int)>96)=false by simp;omega,dX];unfold eG.j4;rw[show decide (b.clock<0)=false by simp;omega,dX];unfold eG.j5;rw[show decide (b.clock>1099511627776)=false by simp;omega,dX];refine eO (by simp;omega) ?_;rw[show decide (b.ay>1099511627776)=false by simp;omega];unfold eG.j1;rw[dX];intro w HY;refine⟨λvv w=>∃(i:Nat)(vs:LV),i<=b.aB.length/\vs.length=i/\vv=[.p none,.i 0,.p (ah p),.l sa b.aB.length ca,.i (b.aB.length:Int),.i (i:Int)]/\
                                                                                                                                                                  St W w (gW p ⟨la,lk,ti,tn,vs,[],[],0,0⟩::sw aO 14 la (p,b.aB.take i)::sw bM 33 lk (p,[])::pr ti (Ji (b.aB.take i))::pr tn (λ_=>none,0)::L),
  mq 5 b.aB.length,⟨0,[],aE _,rfl,rfl,HY⟩,?_⟩
 rintro p2 n3 p3 sr oD sq n4 n5 w2 ⟨i,vs,hi,hvs,e,gI⟩;cases e
 refine T.at ?_ gI;have e5:=m9 i;apply fZ<;>intro g1
 ·have cj:i<b.aB.length:=by omega
  have gx:=aj cj;generalize b.aB[i]=x at gx;have Rt:=HV (key:=λx:bN=>x.id) hg.ids gx;have oZ:(Ji (b.aB.take i)).1 x.id=none:=by show yr _ _=_;rw[qQ (key:=λx:bN=>x.id) Rt];rfl
  have DM:(b.aB.take i).length=i:=by rw[aC];omega
  have hsn:=BD (key:=λx:bN=>x.id) Rt;have rB:b.aB.take (i+1)=b.aB.take i++[x]:=by rw[ba,gx];rfl
  refine iq hA ⟨by omega,by omega⟩ rfl λa ha=>?_;rw[ak];apply kd hA ha gx rfl;apply ws;intros;apply DB (t:=ti) (x:=Ji (b.aB.take i));rw[oZ];simp only[eX,gN];apply ws;refine VB (p:=p) (l:=la) (x:=x) (items:=b.aB.take i) (by rw[DM];omega) (by show vs.length<_;omega) λr3 r4=>?_;apply ws;refine Qx (t:=ti) (x:=Ji (b.aB.take i)) (by show(b.aB.take i).length<=1000;omega) oZ ?_;apply ws;rw[e5];refine T.drop (T.drop (T.drop ?_));refine λw3 h3=>⟨⟨i+1,vs++[BV r3 r4],cj,by simp;omega,rfl,?_⟩,dn (by omega)⟩;rw[rB];rw[show Ji (b.aB.take i++[x])=_ from hsn];exact h3
 ·have iO:i=b.aB.length:=by omega
  subst iO;rw[aV];intro w3 hw3;refine⟨λvv w=>∃(j:Nat)(vs:LV),j<=b.ax.length/\vs.length<=1000+j/\vv=[.p none,.i 0,.p (ah p),.l sk b.ax.length ck,.i (b.ax.length:Int),.i (j:Int)]/\
              St W w (gW p ⟨la,lk,ti,tn,vs,ft 0 (b.ax.take j),(b.ax.take j).filterMap gj,0,0⟩::sw aO 14 la (p,b.aB)::sw bM 33 lk (p,b.ax.take j)::pr ti (Ji b.aB)::pr tn (GF (b.ax.take j))::L),
   mq 5 b.ax.length,⟨0,vs,aE _,by omega,rfl,hw3⟩,?_⟩
  rintro p7 n8 p8 vc rA u6 n9 Zl w5 ⟨j,yz,hj,ae9,e,P0⟩;cases e
  refine T.at ?_ P0;have e6:=m9 j;apply fZ<;>intro g1
  ·have cj:j<b.ax.length:=by omega
   have gx:=aj cj;have gk:=hg.Sh _ (cb cj);have LG:∀k∈b.ax.take j,k.move.ay<(b.ax[j]'cj).move.ay:=λk hk=>by
    obtain⟨m,hm,rfl⟩:=List.getElem_of_mem hk;rw[aC] at hm;rw[List.getElem_take];exact qj.1 hg.rising m j (by omega) cj (by omega)
   generalize b.ax[j]=x at gx gk LG;have Rt:=HV (key:=λx:cr=>x.move.id) hg.names gx;have oZ:(GF (b.ax.take j)).1 x.move.id=none:=by show yr _ _=_;rw[qQ (key:=λx:cr=>x.move.id) Rt];rfl
   have DM:(b.ax.take j).length=j:=by rw[aC];omega
   have hsn:=BD (key:=λx:cr=>x.move.id) Rt;have rB:b.ax.take (j+1)=b.ax.take j++[x]:=by rw[ba,gx];rfl
   have ac9:sR (ft 0 (b.ax.take j)):=by rw[GN];exact List.Pairwise.sublist (List.take_sublist _ _) hg.yH
   refine iq hK ⟨by omega,by omega⟩ rfl λa ha=>?_;rw[ak];apply kd hK ha gx rfl;apply ws;intros;rename_i r2;apply DB (t:=tn) (x:=GF (b.ax.take j));rw[oZ];simp only[eX,gN];apply ws;refine eO (by have:=gk.fate;simp;omega) ?_;apply ws;refine eO (by have:=gk.fate;simp;omega) ?_;apply ws;apply OK (l:=lk);rw[DM];apply ws;refine Qi (p:=p) ac9 (by rw[my];omega) (λy hy=>?_) ?_
   ·obtain⟨k,hk,e⟩:=Bb hy;rw[e];exact LG k hk
   apply ws;unfold eG.j2;rw[Bool.not_true,dX];apply ws;refine Vu (p:=p) (l:=lk) (x:=x) (items:=b.ax.take j) (by rw[DM];omega) (by show yz.length<_;omega) λr3 r4=>?_;rw[DM];apply ws;refine Qx (t:=tn) (x:=GF (b.ax.take j)) (by show(b.ax.take j).length<=1000;omega) oZ ?_;apply ws;apply UB (k:=x) gk;apply ws;intros;rename_i r5;rw[e6];have GZ:ft 0 (b.ax.take (j+1))=ft 0 (b.ax.take j)++[(x.move.ay,(j:Int))]:=by rw[rB,vO,DM,aD]
   have adr:GF (b.ax.take (j+1))=(wR (GF (b.ax.take j)).1 x.move.id (some (j:Int)),(GF (b.ax.take j)).2+1):=by rw[rB];rw[show GF (b.ax.take j++[x])=_ from hsn,DM]
   cases hd:gj x with
   |none=>
    simp only[eX];apply ws;refine T.drop (T.drop (T.drop (T.drop ?_)));refine λw3 h3=>⟨⟨j+1,yz++[vD r3 r4],cj,by simp;omega,rfl,?_⟩,dn (by omega)⟩;have Ru:(b.ax.take (j+1)).filterMap gj=(b.ax.take j).filterMap gj:=by rw[rB,List.filterMap_append];simp[hd]
    rw[GZ,adr,Ru,rB];exact h3
   |some y=>
    have ey:Oh x=y:=by
     unfold gj at hd;split at hd
     ·cases hd;rfl
     ·cases hd
    simp only[dD];rw[ey];apply ws;simp only[gY,aD];refine JN (p:=p) (e':=(b.ax.take j).filterMap gj++[y]) (by
     have:=List.length_filterMap_le gj (b.ax.take j)
     show((b.ax.take j).filterMap gj).length<_
     omega) (bX.refl _) ?_
    apply ws;refine T.drop (T.drop (T.drop (T.drop ?_)));refine λw3 h3=>⟨⟨j+1,yz++[vD r3 r4],cj,by simp;omega,rfl,?_⟩,dn (by omega)⟩;have Ru:(b.ax.take (j+1)).filterMap gj=(b.ax.take j).filterMap gj++[y]:=by rw[rB,List.filterMap_append];simp[hd]
    rw[GZ,adr,Ru,rB];exact h3
  ·have iO:j=b.ax.length:=by omega
   subst iO;rw[aV];apply ws;apply Nc (p:=p);apply ws;apply Nb (p:=p);apply ws;refine RR (p:=p) (by show yz.length<_;omega) ?_;apply ws;have fin:=h p;intro w7 hw7;have h2:=hw7.push (A:=vV []) trivial;refine Em (p:=p) (la:=la) (lk:=lk) (ti:=ti) (tn:=tn) (vs:=[]) (bx:=[]) (c:=fN b) (hs:=[]) (R:=L) trivial (λw hw=>fin w (St.and_intro hg hw)) w7 ?_;exact h2.perm (bt (l₁:=[vV []]) (l₂:=[_,_,_,_,_])|>.append_right L)
end
def pR(k:cr):List UInt8:=oL k.asked++oL k.move++le .i64 1 k.fate
def wy(k:cr):(pR k).length=217:=by unfold pR;rw[au,au,oK,oK,aP]
def zV(b:bh):List UInt8:=le .i64 1 1++le .i64 8 b.clock++le .i64 8 b.ay++le .i64 2 (b.aB.length:Int)++le .i64 2 (b.ax.length:Int)
def H7(b:bh):(zV b).length=21:=by simp only[zV,au,aP]
def cL(b:bh):List UInt8:=zV b++b.aB.flatMap jl++b.ax.flatMap pR
section
variable {W:World} {L R:LH} {K:VK} {X:WK} {p:Nat} {b:bh} {hs:List C} {f:bh×List C->LH}
def B2[i:Lc (cR p) L (b,hs) f](h:T W L (K (.i b.clock))):T W L (ji (ah p) K):=by
 have hL:f (b,hs)=L:=i.same;refine MI (p:=p) λla lk ti tn vs bx R hg hc pV=>?_;have fin:=pV [] b hs vs bx _ hg hc (by rw[hL];exact h);unfold ji;apply ws;exact fin
def Eo[i:Lc (cR p) L (b,hs) f](h:T W L (K (.i b.ay))):T W L (kr (ah p) K):=by
 have hL:f (b,hs)=L:=i.same;refine MI (p:=p) λla lk ti tn vs bx R hg hc pV=>?_;have fin:=pV [] b hs vs bx _ hg hc (by rw[hL];exact h);unfold kr;apply ws;exact fin
def u5[i:Lc (cR p) L (b,hs) f](h:∀bb c,T W (own bb b.aB.length c 14 (b.aB.flatMap aO)::L) (K (.l bb b.aB.length c))):T W L (hG (ah p) K):=by
 have hL:f (b,hs)=L:=i.same;refine MI (p:=p) λla lk ti tn vs bx R hg hc pV=>?_;have oS:=hg.oS;unfold hG;apply ws;refine ab' (l:=la) (by show b.aB.length<_;omega) λbb c=>?_;apply ws;exact pV [_] b hs vs bx _ hg hc (by rw[hL];exact h bb c)
def xR[i:Lc (cR p) L (b,hs) f](h:∀bb c,T W (own bb b.ax.length c 33 (b.ax.flatMap bM)::L) (K (.l bb b.ax.length c))):T W L (fh (ah p) K):=by
 have hL:f (b,hs)=L:=i.same;refine MI (p:=p) λla lk ti tn vs bx R hg hc pV=>?_;have many:=hg.many;unfold fh;apply ws;refine ab4 (l:=lk) (by show b.ax.length<_;omega) λbb c=>?_;apply ws;exact pV [_] b hs vs bx _ hg hc (by rw[hL];exact h bb c)
def Hm[i:Lc (cR p) L (b,hs) f](h:T W L (K (.s (bs (cL b))))):T W L (tr (ah p) K):=by
 refine qD (p:=p) λhg=>?_;have oS:=hg.oS;have many:=hg.many;unfold tr;apply S6;refine tN λr1=>?_;apply Nd;refine r9 (by simp) (B9 ?_);refine B2 (p:=p) (mg ?_);refine zt (by simp only[au,cK,aP];omega) (B9 ?_);refine Eo (p:=p) (mg ?_);refine zt (by simp only[au,cK,aP];omega) (B9 ?_);refine u5 (p:=p) λb1 c1=>?_;apply tZ;refine En (by simp only[au,cK,aP];omega) (B9 ?_);refine xR (p:=p) λb2 c2=>?_;apply tZ;refine En (by simp only[au,cK,aP];omega) (B9 ?_);refine u5 (p:=p) λb3 c3=>?_;apply tZ;have e0:[]++le .i64 1 1++le .i64 8 b.clock++le .i64 8 b.ay++le .i64 2 (b.aB.length:Int)++le .i64 2 (b.ax.length:Int)=zV b:=by unfold zV;simp
 rw[e0];intro w HY;refine⟨λvv w=>∃i:Nat,i<=b.aB.length/\vv=[.s .empty,.p (some (ad r1 0)),.l b3 b.aB.length c3,.i (b.aB.length:Int),.i (i:Int)]/\
    St W w (own b3 b.aB.length c3 14 (b.aB.flatMap aO)::own b2 b.ax.length c2 33 (b.ax.flatMap bM)::own b1 b.aB.length c1 14 (b.aB.flatMap aO)::buf r1 (zV b++(b.aB.take i).flatMap jl)::L),
  mq 4 b.aB.length,⟨0,aE _,rfl,by simpa using HY⟩,?_⟩
 rintro s1 a1 vc rA u6 n3 n4 w2 ⟨i,hi,e,gI⟩;cases e
 refine T.at ?_ gI;have e5:=m9 i;have hlen:(zV b++(b.aB.take i).flatMap jl).length<=21+32* 96:=by
  rw[au,H7,dE nD,aC];have:min i b.aB.length* 96<=32* 96:=iw _ (by omega);omega
 apply fZ<;>intro g1
 ·have cj:i<b.aB.length:=by omega
  have gx:=aj cj;have gm:=(hg.Su _ (cb cj)).yV;generalize b.aB[i]=x at gx gm;refine dT (b:=b3) ⟨by omega,by omega⟩ λrb hb=>?_;subst hb;rw[ak];refine ij (λ_=>rfl) gx ?_
  repeat' first|apply ws;intros|apply wb|with_reducible refine U9 gm (by omega) ?_|fail
  rw[e5];refine T.drop λw3 h3=>⟨⟨i+1,cj,rfl,?_⟩,dn (by omega)⟩;rw[ba,gx,gi];simpa [aH] using h3
 ·have iO:i=b.aB.length:=by omega
  subst iO;rw[aV] at hlen⊢;refine xR (p:=p) λb5 c5=>?_;apply tZ;intro w4 hw4;refine⟨λvv w=>∃j:Nat,j<=b.ax.length/\vv=[.s .empty,.p (some (ad r1 0)),.l b5 b.ax.length c5,.i (b.ax.length:Int),.i (j:Int)]/\
              St W w (own b5 b.ax.length c5 33 (b.ax.flatMap bM)::own b3 b.aB.length c3 14 (b.aB.flatMap aO)::own b2 b.ax.length c2 33 (b.ax.flatMap bM)::own b1 b.aB.length c1 14 (b.aB.flatMap aO)::buf r1 (zV b++b.aB.flatMap jl++(b.ax.take j).flatMap pR)::L),
   mq 4 b.ax.length,⟨0,aE _,rfl,by simpa using hw4⟩,?_⟩
  rintro s2 a3 sb6 Y5 Y7 n5 n6 w5 ⟨j,hj,e,P0⟩;cases e
  refine T.at ?_ P0;have e6:=m9 j;have zS:(zV b++b.aB.flatMap jl++(b.ax.take j).flatMap pR).length<=21+32* 96+96* 217:=by
   rw[au,dE wy,aC];have:min j b.ax.length* 217<=96* 217:=iw _ (by omega);omega
  apply fZ<;>intro g1
  ·have cj:j<b.ax.length:=by omega
   have gx:=aj cj;have gm:=hg.Sh _ (cb cj);generalize b.ax[j]=x at gx gm;refine dT (b:=b5) ⟨by omega,by omega⟩ λrb hb=>?_;subst hb;rw[ak];refine ij (λ_=>rfl) gx ?_
   repeat' first|apply ws;intros|apply wb|with_reducible refine Nh gm.OC (by omega) ?_|fail
   refine Nh gm.PC (by rw[au,oK];omega) (B9 ?_)
   repeat' first|apply ws|apply wb|with_reducible refine r9 (by simp only[au,oK] at zS⊢;omega) ?_|fail
   rw[e6];refine T.drop λw3 h3=>⟨⟨j+1,cj,rfl,?_⟩,dn (by omega)⟩;rw[ba,gx,gi];simpa [aH,pR] using h3
  ·have iO:j=b.ax.length:=by omega
   subst iO;rw[aV];refine sQ (p:=r1) (wc ?_);exact T.dp h
end
section
variable {W:World} {L R:LH} {K:VK} {X:WK} {p:Nat} {b:bh}
def xa{b:bh}(hg:fk b):(cL b).length=21+b.aB.length* 96+b.ax.length* 217:=by
 unfold cL;rw[au,au,H7,dE nD,dE wy]
def KB(hg:fk b)(h:∀p,T W (cR p (b,[])::L) (K (.tuple ⟨[.p (ah p),.i 0]⟩))):T W L (pa (bs (cL b)) K):=by
 have oS:=hg.oS;have many:=hg.many;have u7:=hg.ay;have hck:=hg.clock;have hlen:=xa hg;have xw:cL b=le .i64 1 1++(le .i64 8 b.clock++(le .i64 8 b.ay++(le .i64 2 (b.aB.length:Int)++(le .i64 2 (b.ax.length:Int)++(b.aB.flatMap jl++b.ax.flatMap pR))))):=by
  unfold cL zV;simp only[aH]
 unfold pa;refine Ng λr=>?_;apply yj;refine sf (by show(cL b).length<_;omega) (mg ?_);rw[xw];rw[Sg (by omega),W9];apply eO (by decide);have XC:(le .i64 8 b.clock++(le .i64 8 b.ay++(le .i64 2 (b.aB.length:Int)++(le .i64 2 (b.ax.length:Int)++(b.aB.flatMap jl++b.ax.flatMap pR))))).length<1099511627776:=by
  rw[xw,au] at hlen;omega
 refine xQ XC (mg ?_);rw[rd8 (by unfold u2;omega),nx8];rw[au] at XC;have VR:(le .i64 8 b.ay++(le .i64 2 (b.aB.length:Int)++(le .i64 2 (b.ax.length:Int)++(b.aB.flatMap jl++b.ax.flatMap pR)))).length<1099511627776:=by omega
 refine xQ VR (mg ?_);rw[rd8 (by unfold u2;omega),nx8];rw[au] at VR;have hl4:(le .i64 2 (b.aB.length:Int)++(le .i64 2 (b.ax.length:Int)++(b.aB.flatMap jl++b.ax.flatMap pR))).length<1099511627776:=by omega
 refine Ep hl4 (mg ?_);rw[rd2 (by omega),nx2];rw[au] at hl4;have hl5:(le .i64 2 (b.ax.length:Int)++(b.aB.flatMap jl++b.ax.flatMap pR)).length<1099511627776:=by omega
 refine Ep hl5 (mg ?_);rw[rd2 (by omega),nx2];refine xO (r:=r) (sA ?_);rw[dX];refine Yz (r:=r) (mg ?_);have FO:(b.aB.flatMap jl++b.ax.flatMap pR).length=b.aB.length* 96+b.ax.length* 217:=by
  rw[au,dE nD,dE wy]
 have e1:aa.wrap ((b.aB.length:Int)* 96)=(b.aB.length:Int)* 96:=aX (by omega);have e2:aa.wrap ((b.ax.length:Int)* 217)=(b.ax.length:Int)* 217:=aX (by omega);have e3:aa.wrap ((b.aB.length:Int)* 96+(b.ax.length:Int)* 217)=(b.aB.length:Int)* 96+(b.ax.length:Int)* 217:=aX (by omega);rw[e1,e2,e3];rw[af (by simp),show((((b.aB.flatMap jl++b.ax.flatMap pR).length:Nat):Int)!=(b.aB.length:Int)* 96+(b.ax.length:Int)* 217)=false by rw[FO];simp];unfold pa.j1;rw[dX];refine iR (e:=14) ?_;intro w HY;refine⟨λvv w=>∃(i:Nat)(bo:OA)(cc:Nat),i<=b.aB.length/\vv=[.p none,.i 0,.p (ah r),.i b.clock,.i b.ay,.i (b.ax.length:Int),.l bo (b.aB.take i).length cc,.i (b.aB.length:Int),.i (i:Int)]/\
                                                                                                                                                                                                                                                                                           St W w (own bo (b.aB.take i).length cc 14 ((b.aB.take i).flatMap aO)::rd r ((b.aB.drop i).flatMap jl++b.ax.flatMap pR,false)::L),
  mq 8 b.aB.length,⟨0,none,0,aE _,rfl,HY⟩,?_⟩
 rintro p2 n6 p3 n7 n8 n9 bo ya cc Zl MK w2 ⟨i,b0,c0,hi,e,gI⟩;cases e
 refine T.at ?_ gI;have e5:=m9 i;have DM:(b.aB.take i).length=i:=by rw[aC];omega
 apply fZ<;>intro g1
 ·have cj:i<b.aB.length:=by omega
  have gm:=hg.Su _ (cb cj);have gx:=aj cj;have hdr:b.aB.drop i=b.aB[i]::b.aB.drop (i+1):=gZ cj;generalize b.aB[i]=x at gm gx hdr;have B4:(b.aB.drop i).flatMap jl++b.ax.flatMap pR=jl x++((b.aB.drop (i+1)).flatMap jl++b.ax.flatMap pR):=by rw[hdr,iP,aH]
  have H3:((b.aB.drop i).flatMap jl++b.ax.flatMap pR).length<1099511627776:=by
   rw[au,dE nD,dE wy,aR];have:(b.aB.length-i)* 96<=32* 96:=iw _ (by omega);have:b.ax.length* 217<=96* 217:=iw _ (by omega);omega
  rw[B4] at H3⊢;apply U' H3;rw[Bu,Fz gm.ok gm.yV];apply ws;intros;refine kP (b:=bo) (x:=x) rfl rfl rfl (by omega) (by omega) (iW _) λb2 c2=>?_;rw[e5];have rB:b.aB.take (i+1)=b.aB.take i++[x]:=by rw[ba,gx];rfl
  refine T.drop λw3 h3=>⟨⟨i+1,b2,c2,cj,?_,?_⟩,dn (by omega)⟩
  ·rw[rB];simp
  ·rw[rB];simpa using h3
 ·have iO:i=b.aB.length:=by omega
  subst iO;rw[aV,Hc,List.flatMap_nil,cT];refine iR (e:=33) ?_;intro w3 hw3;refine⟨λvv w=>∃(j:Nat)(bk:OA)(ck:Nat),j<=b.ax.length/\vv=[.p none,.i 0,.p (ah r),.i b.clock,.i b.ay,.l bo b.aB.length cc,.l bk (b.ax.take j).length ck,.i (b.ax.length:Int),.i (j:Int)]/\
              St W w (own bk (b.ax.take j).length ck 33 ((b.ax.take j).flatMap bM)::own bo b.aB.length cc 14 (b.aB.flatMap aO)::rd r ((b.ax.drop j).flatMap pR,false)::L),
   mq 8 b.ax.length,⟨0,none,0,aE _,rfl,hw3⟩,?_⟩
  rintro p4 Ld p5 VE Rb sr oD sq bk rA ck NP yb w5 ⟨j,b1,c1,hj,e,P0⟩;cases e
  refine T.at ?_ P0;have e6:=m9 j;have aio:(b.ax.take j).length=j:=by rw[aC];omega
  apply fZ<;>intro g2
  ·have cj:j<b.ax.length:=by omega
   have gm:=hg.Sh _ (cb cj);have gx:=aj cj;have hdr:b.ax.drop j=b.ax[j]::b.ax.drop (j+1):=gZ cj;generalize b.ax[j]=x at gm gx hdr;have B4:(b.ax.drop j).flatMap pR=oL x.asked++(oL x.move++(le .i64 1 x.fate++(b.ax.drop (j+1)).flatMap pR)):=by rw[hdr,iP];simp[pR,aH]
   have H3:((b.ax.drop j).flatMap pR).length<1099511627776:=by
    rw[dE wy,aR];have:(b.ax.length-j)* 217<=96* 217:=iw _ (by omega);omega
   rw[B4] at H3⊢;have adl:(oL x.move++(le .i64 1 x.fate++(b.ax.drop (j+1)).flatMap pR)).length<1099511627776:=by rw[au] at H3;omega
   have afh:(le .i64 1 x.fate++(b.ax.drop (j+1)).flatMap pR).length<1099511627776:=by rw[au] at adl;omega
   apply Ni H3;rw[yO,Bv gm.asked gm.OC];apply ws;apply Ni adl;rw[yO,Bv gm.move gm.PC];apply ws;refine sf afh (mg ?_);rw[Sg (by have:=gm.fate;omega),W9];apply dJ ⟨rfl,rfl,rfl,trivial⟩;apply dJ ⟨rfl,trivial⟩;refine tN λr3=>?_;refine kP (b:=bk) (x:=x) (by show(aM x.asked++(aM x.move++[.i x.fate]))++[]=bM x;rw[bO];rfl) rfl rfl (by omega) (by omega) (mW _) λb2 c2=>?_;rw[e6];have rB:b.ax.take (j+1)=b.ax.take j++[x]:=by rw[ba,gx];rfl
   refine T.drop λw6 h6=>⟨⟨j+1,b2,c2,cj,?_,?_⟩,dn (by omega)⟩
   ·rw[rB];simp
   ·rw[rB];simpa using h6
  ·have iO:j=b.ax.length:=by omega
   subst iO;rw[aV,Hc,List.flatMap_nil];refine ab1 (R:=own bk b.ax.length ck 33 (b.ax.flatMap bM)::own bo b.aB.length cc 14 (b.aB.flatMap aO)::rd r ([],false)::L) hg ?_ (np.own (λ_=>rfl) rfl) λp=>?_
   ·have:=np.own (W:=W) (L:=rd r ([],false)::L) (b:=bo) (n:=b.aB.length) (c:=cc) (e:=14) (g:=aO) (xs:=b.aB) (λ_=>rfl) rfl;exact this.mono
   apply ws;apply eO (by decide);refine OJ (r:=r) (sA ?_);apply T.sub (h p);exact pX
end
end Go.Up
namespace Go.Sep
open Go.Den Go.RowKit Go.Prog Go.cH
def qc{D:aZ}{a toX q a2:Int}{s:List UInt8}(h:mj D a toX q=some (s,a2)):a<a2/\a2<=toX/\0<=a/\toX<=(D.safe.length:Int)/\s.length<=32768/\a2=a+(gB (12+s.length):Int):=by
 unfold mj at h;split at h
 ·cases h
 rename_i ha;split at h
 ·cases h
 rename_i m j d hv;split at h
 ·cases h
 rename_i hj;split at h
 ·cases h
 rename_i hc;split at h
 ·cases h
 rename_i t ht;obtain⟨l1,l2,l3,l4,l5⟩:=take_length ht;simp only[bE.injEq,Prod.mk.injEq] at h;obtain⟨h1,h2⟩:=h;subst h1;have hn: ¬32768<jm 4 (eJ 8 (d.data.toList,false)):=λhh=>hc (.inr hh);have h4:=Jc (eJ 8 (d.data.toList,false));generalize jm 4 (eJ 8 (d.data.toList,false))=n6 at *;have hp:=rV (12+n6).toNat;have e:(12+n6).toNat=12+(t.drop 12).length:=by rw[aR];omega
 rw[e] at h2 l3 hp;rw[<-h2];have hl:(t.drop 12).length=t.length-12:=aR;exact⟨by omega,by omega,l2,l4,by omega,rfl⟩
def zN(D:aZ)(toX:Int):Nat->Int->Int->List (List UInt8)×Int×Int
 |0,a,q=>([],a,q)
 |f+1,a,q=>match mj D a toX (q+1) with
  |none=>([],a,q)
  |some (s,a2)=>(s::(zN D toX f a2 (q+1)).1,(zN D toX f a2 (q+1)).2)
def kT(D:aZ)(toX a q:Int):List (List UInt8)×Int×Int:=zN D toX (toX-a).toNat a q
def Cs{D:aZ}{a toX q:Int}(h:toX<=a):mj D a toX q=none:=by unfold mj;rw[ai h]
def Bs{D:aZ}{toX:Int}:∀(f f':Nat)(a q:Int),(toX-a).toNat<=f->(toX-a).toNat<=f'->zN D toX f a q=zN D toX f' a q
 |0,f',a,q,h1,h2=>by
  have hn:=Cs (D:=D) (a:=a) (toX:=toX) (q:=q+1) (by omega);cases f' with
  |zero=>rfl
  |succ f'=>simp only[zN,hn]
 |f+1,0,a,q,h1,h2=>by
  have hn:=Cs (D:=D) (a:=a) (toX:=toX) (q:=q+1) (by omega);simp only[zN,hn]
 |f+1,f'+1,a,q,h1,h2=>by
  simp only[zN];cases hn:mj D a toX (q+1) with
  |none=>rfl
  |some y=>
   obtain⟨s,a2⟩:=y;have:=qc hn;dsimp only;rw[Bs f f' a2 (q+1) (by omega) (by omega)]
def Fv{D:aZ}{toX a q:Int}(h:mj D a toX (q+1)=none):kT D toX a q=([],a,q):=by
 unfold kT;cases hf:(toX-a).toNat with
 |zero=>rfl
 |succ f=>simp only[zN,h]
def Fw{D:aZ}{toX a q a2:Int}{s:List UInt8}(h:mj D a toX (q+1)=some (s,a2)):kT D toX a q=(s::(kT D toX a2 (q+1)).1,(kT D toX a2 (q+1)).2):=by
 have hi:=qc h;unfold kT;obtain⟨f,hf⟩:∃f,(toX-a).toNat=f+1:=⟨(toX-a).toNat-1,by omega⟩;rw[hf];simp only[zN,h];rw[Bs f (toX-a2).toNat a2 (q+1) (by omega) (by omega)]
section
variable {W w:World} {L:LH} {k d:Nat} {D:aZ}
def GS(l:List UInt8):Value:=.s (bs l)
def K4{lo hi:Int}{K:VK}(h:St W w L)(hk:L[k]?=some (gT d D))(hK:K (.b (decide (0<=lo/\lo<hi/\hi<=(D.safe.length:Int)))) w):rP (ah d) lo hi K w:=by
 have no: ¬(0<=lo/\lo<hi/\hi<=(D.safe.length:Int))->K (.b false) w:=λhn=>by rw[aq hn] at hK;exact hK
 unfold rP;refine fQ (λh1=>?_) (λh1=>no (by omega));refine fQ (λh2=>?_) (λh2=>no (by omega));refine nT h hk ?_;simp only[nz,ae,ag];have:decide (hi<=(D.safe.length:Int))=decide (0<=lo/\lo<hi/\hi<=(D.safe.length:Int)):=by rw[decide_eq_decide];omega
 rw[this];exact hK
def Sb{lo hi q:Int}{K:VK}(h:St W w L)(hk:L[k]?=some (gT d D))(iE:D.Ok)(hp:0<=lo/\lo<hi/\hi<=(D.safe.length:Int))(hq:0<=q/\q<=1152921504606846976)
 (hK:∀r b c w',(∃n:Nat,n<=4096/\(kT D hi lo q).1.length=n/\(kT D hi lo q).2.2=q+n/\lo<=(kT D hi lo q).2.1/\(kT D hi lo q).2.1<=hi)->St W w' (own b (kT D hi lo q).1.length c 1 ((kT D hi lo q).1.map GS)::pt r (rQ d ⟨lo,hi,(kT D hi lo q).2.1,(kT D hi lo q).2.2,false⟩)::L)->
  K (.tuple ⟨[.p (ah r),.l b (kT D hi lo q).1.length c,.i 0]⟩) w'):kW (ah d) lo hi q K w:=by
 have wB:=iE.oS;unfold kW;simp only[nz,ae,ag];refine K4 h hk ?_;rw[aw hp];simp only[nz,ae,ag];refine fQ (λh1=>by omega) (λ_=>?_);have e0:decide (q>1152921504606846976)=false:=aq (by omega);rw[e0];unfold kW.j1;simp only[nz,ae,ag];refine je h λr w h=>?_;have h0:=h.push (A:=own none 0 0 1 (([]:List (List UInt8)).map GS)) (rM 1);refine⟨λus w'=>∃(acc:List (List UInt8))(a:Int)(b:OA)(n c:Nat),us=[.p none,.l none 0 0,.i 0,.p (ah r),.l b n c]/\acc.length=n/\lo+n<=a/\a<=hi/\
                                                                   kT D hi lo q=(acc++(kT D hi a (q+n)).1,(kT D hi a (q+n)).2)/\St W w' (own b n c 1 (acc.map GS)::pt r (rQ d ⟨lo,hi,a,q+n,false⟩)::L),
  λus _=>match us with|[_,_,_,_,.slice _ n _]=>5000-n|_=>0,⟨[],lo,none,0,0,rfl,rfl,by omega,by omega,by simp,?_⟩,?_⟩
 ·have:rQ d ⟨lo,hi,lo,q+((0:Nat):Int),false⟩=[.p (ah d),.i lo,.i hi,.i lo,.i q,.b false]:=by
   rw[show q+((0:Nat):Int)=q from by omega];rfl
  rw[this];exact h0
 rintro p2 yn ya Ah n4 a1 jJ iX jV w2 ⟨acc,a,b,n,c,he,hn,ha,hah,ho,h⟩;cases he
 refine mw h λw h=>?_;refine cX (k:=1) h rfl (v:=.i a) rfl ?_;simp only[nz,ae,ag];refine cX (k:=1) h rfl (v:=.i (q+iX)) rfl ?_;simp only[nz,ae,ag];have ew:aa.wrap (q+(iX:Int)+1)=q+(iX:Int)+1:=aX (by omega);rw[ew];refine Q9 (k:=k+2) h (by rw[bT,bT];exact hk) iE (by omega) (by omega) λw h=>?_;cases hx:mj D a hi (q+(iX:Int)+1) with
 |none=>
  unfold Bw;simp only[nz,ae,ag];refine kC (k:=1) h rfl rfl ?_;rw[Fv hx,bO] at ho;have:=hK r jJ jV w;rw[ho] at this;dsimp only at this;rw[hn] at this;exact this ⟨iX,by omega,rfl,rfl,by omega,by omega⟩ h
 |some y=>
  obtain⟨s,a2⟩:=y;obtain⟨b1,b2,b3,b4,b5,b6⟩:=qc hx;unfold Bw;simp only[nz,ae,ag];refine kC (k:=1) h rfl rfl ?_;refine⟨trivial,je h λr2 w h=>?_⟩;refine uD (k:=1) (ys:=[GS s]) h rfl (Gr (k':=0) h rfl rfl λj v hj=>by rw[aD];exact hj) (by simp) rfl (by omega) (by omega) (by simp[GS,Value.oneCell']) λb' c' w h=>?_;simp only[nz,ae,ag] at h⊢;refine cX (k:=2) h rfl (v:=.i (q+iX)) rfl ?_;simp only[nz,ae,ag];refine oX (k:=2) h rfl (aI rfl) rfl λw h=>?_;simp only[nz,ae,ag] at h;refine oX (k:=2) h rfl (aI rfl) rfl λw h=>?_;simp only[nz,ae,ag] at h;rw[ew] at h;refine⟨⟨acc++[s],a2,b',iX+1,c',rfl,by rw[au,hn];rfl,by omega,by omega,?_,?_⟩,by omega⟩
  ·rw[ho,Fw hx,show q+(iX:Int)+1=q+((iX+1:Nat):Int) from by omega,aH];rfl
  ·rw[cU];have:rQ d ⟨lo,hi,a2,q+((iX+1:Nat):Int),false⟩=[.p (ah d),.i lo,.i hi,.i a2,.i (q+(iX:Int)+1),.b false]:=by
    rw[show q+((iX+1:Nat):Int)=q+(iX:Int)+1 from by omega];rfl
   rw[this];exact h.drop
end
def EZ(d:BA):Int:=jm 8 (d.data.toList,false)
def UW(l:List UInt8):(part (bs l) 0).data.toList=l.take 104:=by
 unfold part;rw[extract_toList,Nat.mul_zero,iK]
 rfl
def LR(seq:Int)(s:BA):df seq s=le .i64 8 seq++(le .i64 4 s.size++s.data.toList):=by simp only[df,aH]
def NJ(seq:Int)(s:BA):∃r,(part (bs (df seq s)) 0).data.toList=le .i64 8 seq++(le .i64 4 s.size++r):=by
 rw[UW,LR];refine⟨s.data.toList.take 92,?_⟩;have h8:(le .i64 8 seq).length=8:=aP _ _ _;have h4:(le .i64 4 (s.size:Int)).length=4:=aP _ _ _;rw[List.take_append,List.take_append,h8,h4,bG (by rw[h8];omega),bG (l:=le .i64 4 (s.size:Int)) (by rw[h4];omega)]
def SH{m:Nat}(h:m<4294967296):nV (le .i64 4 (m:Int))=m:=by
 rw[rG m 4 (by omega)];exact fD h
def Q7{n:Int}(h:0<=n/\n<9223372036854775808):nt (le .i64 8 n)=n:=by
 obtain⟨m,rfl⟩:=bw h.1;unfold nt;rw[rG m 8 (by omega)];have h8:(256:Nat)^8=18446744073709551616:=rfl;rw[h8,fD (by omega),aX (by omega)]
def vj{seq:Int}{s:BA}(hq:0<=seq/\seq<9223372036854775808)(hs:s.size<=32768):
 EZ (part (bs (df seq s)) 0)=seq/\(eJ 4 (eJ 8 ((part (bs (df seq s)) 0).data.toList,false))).2=false/\jm 4 (eJ 8 ((part (bs (df seq s)) 0).data.toList,false))=(s.size:Int):=by
 obtain⟨r,hr⟩:=NJ seq s;unfold EZ;rw[hr];have h8:(le .i64 8 seq).length=8:=aP _ _ _;have h4:(le .i64 4 (s.size:Int)).length=4:=aP _ _ _;have e1:eJ 8 (le .i64 8 seq++(le .i64 4 s.size++r),false)=(le .i64 4 s.size++r,false):=by
  unfold eJ;rw[af (by simp only[cG,false_or,au,h8];omega),uS _ _ 8 h8]
 have e2:jm 8 (le .i64 8 seq++(le .i64 4 s.size++r),false)=seq:=by
  unfold jm;rw[af (by simp only[cG,false_or,au,h8];omega),th _ _ 8 h8,Q7 hq]
 have e3:eJ 4 (le .i64 4 (s.size:Int)++r,false)=(r,false):=by
  unfold eJ;rw[af (by simp only[cG,false_or,au,h4];omega),uS _ _ 4 h4]
 have e4:jm 4 (le .i64 4 (s.size:Int)++r,false)=(s.size:Int):=by
  unfold jm;rw[af (by simp only[cG,false_or,au,h4];omega),th _ _ 4 h4,nY (by rw[h4];omega),SH (by omega)]
 rw[e1,e2,e3,e4];exact⟨rfl,rfl,rfl⟩
def sG(seq:Int)(s:BA):(bs (df seq s)).size=12+s.size:=by rw[cf,zX]
def Kv{D:aZ}{a toX n:Int}{s:BA}(hn:1<=n/\n<=1152921504606846976)(h0:0<=a)(VJ:a+(gB s.size:Int)<=toX)(hlen:toX<=(D.safe.length:Int))(wB:D.safe.length<=4096)
 (hr:∀i:Nat,i<gB s.size->(D.read (a+i)).1=leaf n i (part s i)):take D a toX n s.size=some s.data.toList:=by
 have hb:s.size<=104* gB s.size:=by unfold gB;split<;>omega
 have T5:∀q:Nat,(part s q).size=min (104* (q+1)) s.size-104* q:=λq=>by unfold part;rw[tq]
 have qX:s.size<=425984:=by omega
 unfold take;rw[af (by rw[ak];omega),ak,B8 (s:=s) (gB s.size) 0 (λq _ hq=>by
  have hg:fk n q (part s q):=⟨hn.1,hn.2,by omega,by omega,nB s q⟩
  rw[hr q (by omega),nC hg]
  exact⟨pg hg,by rw[T5];omega⟩)]
 congr 1
 rw[Nat.mul_zero,iK,bG (by rw[eL];exact hb)]
def Db{D:aZ}{a toX n q:Int}{s:BA}(hn:1<=n/\n<=1152921504606846976)(hq:0<=q/\q<9223372036854775808)(hs:s.size<=32768)(h0:0<=a)(VJ:a+(gB (12+s.size):Int)<=toX)(hlen:toX<=(D.safe.length:Int))(wB:D.safe.length<=4096)
 (hr:∀i:Nat,i<gB (12+s.size)->(D.read (a+i)).1=leaf n i (part (bs (df q s)) i)):mj D a toX q=some (s.data.toList,a+(gB (12+s.size):Int)):=by
 have BH:=sG q s;have hp:=rV (12+s.size);obtain⟨p1,p2,p3⟩:=vj hq hs;have h00:=hr 0 hp;rw[show a+((0:Nat):Int)=a from by omega] at h00;have hg:fk n ((0:Nat):Int) (part (bs (df q s)) 0):=⟨hn.1,hn.2,by omega,by omega,nB _ 0⟩;have ht:=Kv (D:=D) (a:=a) (toX:=toX) (s:=bs (df q s)) hn h0 (by rw[BH];exact VJ) hlen wB (by rw[BH];exact hr);unfold mj;rw[af (by omega),h00,nC hg,pg hg];dsimp only;unfold EZ at p1;rw[af (by rintro(hh|hh);exact hh rfl;exact hh p1),p2,p3,af (by rintro(hh|hh);cases hh;omega)];rw[BH] at ht;have e1:((12+s.size:Nat):Int)=12+(s.size:Int):=by omega
 rw[e1] at ht;rw[ht];dsimp only;have e2:(12+(s.size:Int)).toNat=12+s.size:=by omega
 have e3:(bs (df q s)).data.toList.drop 12=s.data.toList:=by
  show(df q s).drop 12=_;unfold df;exact uS _ _ 12 (by rw[au,aP,aP])
 rw[e2,e3]
def C2{D D':aZ}{a n:Int}{size:Nat}:∀(k i:Nat),(∀j:Nat,i<=j->j<i+k->(D'.read (a+j)).1=(D.read (a+j)).1)->nq D' a n size i k=nq D a n size i k
 |0,i,_=>rfl
 |k+1,i,h=>by
  rw[o9,o9,h i (aF _) (by omega),C2 k (i+1) (λj h1 h2=>h j (by omega) (by omega))]
def vm{D D':aZ}{a toX q a2:Int}{s:List UInt8}(h:mj D a toX q=some (s,a2))(hlen:D'.safe.length=D.safe.length)(hr:∀j:Int,a<=j->j<a2->(D'.read j).1=(D.read j).1):mj D' a toX q=some (s,a2):=by
 obtain⟨i1,i2,i3,i4,i5,i6⟩:=qc h;have h0:=hr a (by omega) (by omega);have ail:=h;unfold mj at h⊢;rw[h0];split at h
 ·cases h
 rename_i ha;rw[af ha];split at h
 ·cases h
 rename_i m j d hv;split at h
 ·cases h
 rename_i hj;rw[af hj];split at h
 ·cases h
 rename_i hc;rw[af hc];split at h
 ·cases h
 rename_i t ht;obtain⟨l1,l2,l3,l4,l5⟩:=take_length ht;have Lt:take D' a toX m (12+jm 4 (eJ 8 (d.data.toList,false)))=some t:=by
  simp only[bE.injEq,Prod.mk.injEq] at h;rw[<-ht];unfold take;rw[hlen,C2 _ 0 (λj h1 h2=>hr (a+j) (by omega) (by omega))]
 rw[Lt];dsimp only;exact h
def Cr{D:aZ}{a toX q:Int}(h:∀m d,mh (D.read a).1.data.toList=some (m,0,d)->EZ d≠q):mj D a toX q=none:=by
 unfold mj;split
 ·rfl
 split
 ·rfl
 rename_i m j d hv;by_cases hj:j=0
 ·subst hj;rw[ai (.inr (h m d hv))]
 ·rw[ai (.inl hj)]
def ku(D:aZ)(toX:Int):Int->Int->List (List UInt8)->Int->Prop
 |a,_,[],e=>a=e
 |a,q,s::r,e=>∃a2,mj D a toX (q+1)=some (s,a2)/\ku D toX a2 (q+1) r e
def Mg{D:aZ}{toX:Int}:∀(r:List (List UInt8)) {a q e:Int},ku D toX a q r e->a+r.length<=e
 |[],a,q,e,h=>by unfold ku at h;simp;omega
 |s::r,a,q,e,⟨a2,h1,h2⟩=>by
  have:=qc h1;have:=Mg r h2;rw[aW];omega
def F'{D:aZ}{toX:Int}:∀(r:List (List UInt8)) {a q e:Int},ku D toX a q r e->mj D e toX (q+r.length+1)=none->kT D toX a q=(r,e,q+r.length)
 |[],a,q,e,h,hn=>by
  unfold ku at h;subst h;have e0:q+(([]:List (List UInt8)).length:Int)=q:=by simp
  rw[e0] at hn⊢;exact Fv hn
 |s::r,a,q,e,⟨a2,h1,h2⟩,hn=>by
  have e1:q+((s::r).length:Int)=q+1+(r.length:Int):=by rw[aW];omega
  rw[e1] at hn⊢;rw[Fw h1,F' r h2 hn]
def vE{D D':aZ}{toX:Int}(hlen:D'.safe.length=D.safe.length):∀(r:List (List UInt8)) {a q e:Int},ku D toX a q r e->(∀j:Int,a<=j->j<e->(D'.read j).1=(D.read j).1)->ku D' toX a q r e
 |[],a,q,e,h,_=>h
 |s::r,a,q,e,⟨a2,h1,h2⟩,hr=>by
  have hi:=qc h1;have hl:=Mg r h2;exact⟨a2,vm h1 hlen (λj h3 h4=>hr j h3 (by omega)),vE hlen r h2 (λj h3 h4=>hr j (by omega) h4)⟩
def F9{D:aZ}{toX:Int}:∀(r:List (List UInt8)) {a q e e2:Int} {s:List UInt8},ku D toX a q r e->mj D e toX (q+r.length+1)=some (s,e2)->ku D toX a q (r++[s]) e2
 |[],a,q,e,e2,s,h,hn=>by
  unfold ku at h;subst h;have e0:q+(([]:List (List UInt8)).length:Int)=q:=by simp
  rw[e0] at hn;exact⟨e2,hn,rfl⟩
 |x::r,a,q,e,e2,s,⟨a2,h1,h2⟩,hn=>by
  have e1:q+((x::r).length:Int)=q+1+(r.length:Int):=by rw[aW];omega
  rw[e1] at hn;exact⟨a2,h1,F9 r h2 hn⟩
def PJ.more(J:PJ)(s:BA):PJ:={J with at':=J.at'+(gB (12+s.size):Int),seq:=J.seq+1}
def U6{n:Nat}{D:aZ}{J:PJ}{number:Int}{s:BA}(hc:Calm n D)(cS:n<=4096)(hJ:J.Ok D)(Xt:J.dL=false)(qd:1<=number/\number<=1152921504606846976)(G0:J.seq<1152921504606846976)(hr:room J s.size):
 ∃D',tT D J number s=(D',J.more s,0)/\Calm n D'/\D'.later=[]/\(J.more s).Ok D'/\(∀i:Nat,i<gB (12+s.size)->(D'.read (J.at'+i)).1=leaf number i (part (bs (df (J.seq+1) s)) i))/\
  (∀j:Int,0<=j->j<n->(j<J.at'\/J.at'+(gB (12+s.size):Int)<=j)->(D'.read j).1=(D.read j).1)/\mj D' J.at' J.hi (J.seq+1)=some (s.data.toList,J.at'+(gB (12+s.size):Int)):=by
 obtain⟨j1,j2,j3,j4,j5⟩:=hJ;obtain⟨r1,r2,r3⟩:=hr;rw[ak] at r3;have hlen:=hc.len;have BH:=sG (J.seq+1) s;obtain⟨a,ha⟩:=bw (show 0<=J.at' by omega);obtain⟨t,ht⟩:=bw (show 0<=J.hi by omega);obtain⟨p1,p2,p3,p4⟩:=PH (n:=n) (a:=a) (t:=t) (number:=number) (s:=bs (df (J.seq+1) s)) hc cS qd (by rw[BH];omega) (by omega);have p5:=TR (n:=n) (a:=a) (t:=t) (number:=number) (s:=bs (df (J.seq+1) s)) hc cS qd (by rw[BH];omega) (by omega);rw[BH] at p3 p4;rw[<-ha,<-ht] at p1 p2 p3 p4 p5;have zS:=p2.len;refine⟨(eQ D J.at' J.hi number (bs (df (J.seq+1) s))).1,?_,p2,p5,⟨j1,?_,?_,?_,?_⟩,p3,λj h1 h2 h3=>?_,?_⟩
 ·unfold tT;rw[af (by rw[Xt];exact rq),af (by omega),af (by rintro(hh|hh);exact hh ⟨r1,r2,by rw[ak];exact r3⟩;omega)];unfold CQ;rw[af (λhh=>hh p1)]
  rfl
 ·show J.lo<=J.at'+_;omega
 ·show J.at'+_<=J.hi;omega
 ·show J.hi<=_;omega
 ·show 0<=J.seq+1/\J.seq+1<=_;omega
 ·obtain⟨m,rfl⟩:=bw h1;exact p4 m (by omega) (by omega)
 ·exact Db qd (by omega) (by omega) (by omega) (by omega) (by omega) (by omega) p3
def Lb{D:aZ}{a toX q:Int}(h:(D.read a).1=fO 128):mj D a toX q=none:=
 Cr (λm d hv=>by rw[h,yJ] at hv;cases hv)
def HM{n:Nat}(h:n<=4096){j:Int}(h0:0<=j)(hj:j<n):((aZ.new n).read j).1=fO 128:=by
 obtain⟨m,rfl⟩:=bw h0;exact By h (by omega)
section
variable {W w:World} {L:LH} {k d:Nat} {D:aZ}
end
def zk{l:List UInt8}{k:Nat}(hk:k<=8)(hl:l.length=k):l=le .i64 k (nV l:Int):=by
 refine Km _ _ (by rw[hl,aP]) ?_;have:=rF l;rw[hl] at this;rw[rG (nV l) k hk,fD this]
def Cy{l:List UInt8}{n:Int}(hl:l.length=8)(hn:0<=n)(h:nt l=n):l=le .i64 8 n:=by
 have hv:=rF l;have h8:(256:Nat)^8=18446744073709551616:=rfl;rw[hl,h8] at hv;have Aw:(nV l:Int)=n:=by
  unfold nt at h;simp[IntKind.wrap,IntKind.bits,IntKind.signed] at h;split at h<;>omega
 rw[<-Aw];exact zk (by decide) hl
def Cm{l:List UInt8}{n j:Int}{d:BA}(h:mh l=some (n,j,d)):l=mH n j d/\fk n j d:=by
 unfold mh at h;split at h
 ·cases h
 rename_i h1;split at h
 ·cases h
 rename_i h2;split at h
 ·cases h
 rename_i h3;split at h
 ·cases h
 rename_i h4;split at h
 ·cases h
 rename_i h5;split at h
 ·cases h
 rename_i h6;have h1:=bp.1 h1;have h2:tQ (l.take 120)=true:=by cases hh:tQ (l.take 120) with
  |true=>rfl
  |false=>exact aQ hh h2
 have h4:=bp.1 h4;have h5:=bp.1 h5;have h6:=bp.1 h6;simp only[bE.injEq,Prod.mk.injEq] at h;obtain⟨rfl,rfl,rfl⟩:=h;refine⟨?_,h6⟩;obtain⟨g1,g2,g3,g4,g5⟩:=h6;have hM:sM l<=104:=by omega
 have l8:(l.drop 8).length=120:=by rw[aR];omega
 have l10:((l.drop 8).drop 2).length=118:=by rw[aR];omega
 have lr:(mT l).length=116:=by unfold mT;rw[aR];omega
 have p1:l.take 8=le .i64 8 (sN l):=Cy (by rw[aC];omega) (by omega) rfl;have p2:(l.drop 8).take 2=le .i64 2 (sI l):=by
  have e:sI l=(nV ((l.drop 8).take 2):Int):=nY (by rw[aC];omega);rw[e];exact zk (by decide) (by rw[aC];omega)
 have p3:((l.drop 8).drop 2).take 2=le .i64 2 (sM l:Int):=zk (by decide) (by rw[aC];omega);have hD:(sD l).length=sM l:=by unfold sD;rw[aC];omega
 have lrm:((mT l).drop (sM l)).length=116-sM l:=by rw[aR,lr]
 have hZ:(sZ l).length=104-sM l:=by unfold sZ;rw[aC];omega
 have lrz:(((mT l).drop (sM l)).drop (104-sM l)).length=12:=by rw[aR,lrm];omega
 have lrc:((((mT l).drop (sM l)).drop (104-sM l)).drop 4).length=8:=by rw[aR,lrz]
 have p6:(((mT l).drop (sM l)).drop (104-sM l)).drop 4=le .i64 8 (sN l):=by
  refine Cy lrc (by omega) ?_;rw[<-h4];unfold C5;rw[bG (by omega)]
 rw[hZ] at h5;have e1:l=l.take 8++((l.drop 8).take 2++(((l.drop 8).drop 2).take 2++(sD l++(sZ l++((((mT l).drop (sM l)).drop (104-sM l)).take 4++(((mT l).drop (sM l)).drop (104-sM l)).drop 4))))):=by
  unfold sD sZ;rw[dk,dk,dk];unfold mT;rw[dk,dk,dk]
 have qX:(bs (sD l)).size=sM l:=by rw[cf,hD]
 have afM:pre (sN l) (sI l) (bs (sD l))=l.take 8++((l.drop 8).take 2++(((l.drop 8).drop 2).take 2++(sD l++sZ l))):=by
  unfold pre;rw[qX,p1,p2,p3,h5];simp only[aH]
  rfl
 have Sj:(pre (sN l) (sI l) (bs (sD l))).length=116:=re g5;have e2:l=pre (sN l) (sI l) (bs (sD l))++((((mT l).drop (sM l)).drop (104-sM l)).take 4++(((mT l).drop (sM l)).drop (104-sM l)).drop 4):=by
  rw[afM];simp only[aH];exact e1
 have abD:l.take 116=pre (sN l) (sI l) (bs (sD l)):=by
  have:=congrArg (List.take 116) e2;rw[th _ _ 116 Sj] at this;exact this
 have e4:(l.take 120).drop 116=(((mT l).drop (sM l)).drop (104-sM l)).take 4:=by
  have afL:l.drop 116=(((mT l).drop (sM l)).drop (104-sM l)).take 4++(((mT l).drop (sM l)).drop (104-sM l)).drop 4:=by
   have:=congrArg (List.drop 116) e2;rw[uS _ _ 116 Sj] at this;exact this
  rw[List.drop_take,afL];exact th _ _ 4 (by rw[aC];omega)
 have afz:vT (tp 0 (pre (sN l) (sI l) (bs (sD l))))=(((mT l).drop (sM l)).drop (104-sM l)).take 4:=by
  unfold tQ at h2;have Jv:(l.take 120).length=120:=by rw[aC];omega
  rw[Jv,show 120-4=116 from rfl,e4,xV,show min 116 120=116 from rfl,abD] at h2;simpa using h2
 unfold mH;rw[afz,aH];rw[p6] at e2;exact e2
def Hi{D:aZ}{a n:Int}{size:Nat}:∀(k i:Nat) {t:List UInt8},nq D a n size i k=some t->size<=104* (i+k)->∀q,i<=q->q<i+k->
 ∃d,mh (D.read (a+q)).1.data.toList=some (n,(q:Int),d)/\d.data.toList=(t.drop (104* (q-i))).take 104
 |0,i,t,h,hs,q,h1,h2=>by omega
 |k+1,i,t,h,hs,q,h1,h2=>by
  rw[o9] at h;split at h
  ·cases h
  rename_i m j d hv;split at h
  ·rename_i hc;obtain⟨rfl,rfl,hd⟩:=hc;cases ht:nq D a m size (i+1) k with
   |none=>rw[ht] at h;cases h
   |some u=>
    rw[ht] at h;simp only[fF,bE.injEq] at h;subst h;have zF:d.data.toList.length=d.size:=rfl;by_cases hq:q=i
    ·subst hq;refine⟨d,hv,?_⟩;rw[jS,Nat.mul_zero,iK];by_cases h3:104* (q+1)<=size
     ·exact(th _ _ 104 (by omega)).symm
     ·have hu:u.length=0:=by
       by_cases hk:k=0
       ·subst hk;simp only[nq,bE.injEq] at ht;subst ht;rfl
       ·
        have hz:∀(n' i':Nat) {v:List UInt8},nq D a m size i' n'=some v->size<=104* i'->v.length=0:=by
         intro n'
         induction n' with
         |zero=>intro i' v h _;simp only[nq,bE.injEq] at h;subst h;rfl
         |succ n' ih=>
          intro i' v h hle;rw[o9] at h;split at h
          ·cases h
          ·split at h
           ·rename_i Sn;cases N1:nq D a m size (i'+1) n' with
            |none=>rw[N1] at h;cases h
            |some v2=>
             rw[N1] at h;simp only[fF,bE.injEq] at h;subst h;have:=ih (i'+1) N1 (by omega);rw[au,this,eL,Sn.2.2];omega
           ·cases h
        exact hz k (q+1) ht (by omega)
      rw[List.eq_nil_of_length_eq_zero hu,bO,bG (by omega)]
    ·obtain⟨d2,NZ,VY⟩:=Hi k (i+1) ht (by omega) q (by omega) (by omega);refine⟨d2,NZ,?_⟩;have hu:104* (i+1)<=size\/u.length=0:=by
      by_cases h3:104* (i+1)<=size
      ·exact .inl h3
      ·right
       have hz:∀(n' i':Nat) {v:List UInt8},nq D a m size i' n'=some v->size<=104* i'->v.length=0:=by
        intro n'
        induction n' with
        |zero=>intro i' v h _;simp only[nq,bE.injEq] at h;subst h;rfl
        |succ n' ih=>
         intro i' v h hle;rw[o9] at h;split at h
         ·cases h
         ·split at h
          ·rename_i Sn;cases N1:nq D a m size (i'+1) n' with
           |none=>rw[N1] at h;cases h
           |some v2=>
            rw[N1] at h;simp only[fF,bE.injEq] at h;subst h;have:=ih (i'+1) N1 (by omega);rw[au,this,eL,Sn.2.2];omega
          ·cases h
       exact hz k (i+1) ht (by omega)
     rw[VY];rcases hu with h3|h3
     ·have:(d.data.toList++u).drop (104* (q-i))=u.drop (104* (q-(i+1))):=by
       rw[show 104* (q-i)=104+104* (q-(i+1)) from by omega,<-iL,uS _ _ 104 (by omega)]
      rw[this]
     ·rw[List.eq_nil_of_length_eq_zero h3,bO];simp only[List.drop_nil,List.take_nil];rw[fB (by omega)]
      rfl
  ·cases h
def HL{D:aZ}{a toX q a2:Int}{s:List UInt8}(hq:0<=q)(h:mj D a toX q=some (s,a2)):
 ∃m d,1<=m/\m<=1152921504606846976/\mh (D.read a).1.data.toList=some (m,0,d)/\∀i:Nat,i<gB (12+s.length)->(D.read (a+i)).1=leaf m i (part (bs (df q (bs s))) i):=by
 have hi:=qc h;unfold mj at h;split at h
 ·cases h
 rename_i ha;split at h
 ·cases h
 rename_i m j d hv;split at h
 ·cases h
 rename_i hj;split at h
 ·cases h
 rename_i hc;split at h
 ·cases h
 rename_i t ht;obtain⟨l1,l2,l3,l4,l5⟩:=take_length ht;simp only[bE.injEq,Prod.mk.injEq] at h;obtain⟨h1,h2⟩:=h;subst h1;have hj0:j=0:=by
  by_cases hh:j=0
  ·exact hh
  ·exact aQ (.inl hh) hj
 have Xw:jm 8 (d.data.toList,false)=q:=by
  by_cases hh:jm 8 (d.data.toList,false)=q
  ·exact hh
  ·exact aQ (.inr hh) hj
 subst hj0;have hn4:=Jc (eJ 8 (d.data.toList,false));have hle: ¬32768<jm 4 (eJ 8 (d.data.toList,false)):=λhh=>hc (.inr hh);have aie:(eJ 4 (eJ 8 (d.data.toList,false))).2=false:=by
  cases hh:(eJ 4 (eJ 8 (d.data.toList,false))).2 with
  |false=>rfl
  |true=>exact aQ (.inl hh) hc
 obtain⟨_,AA⟩:=Cm hv;have rB:=ht;unfold take at rB;split at rB
 ·cases rB
 have hcn:(12+jm 4 (eJ 8 (d.data.toList,false))).toNat=t.length:=by omega
 rw[hcn] at rB;have hb:t.length<=104* gB t.length:=by unfold gB;split<;>omega
 have Rl:=Hi (gB t.length) 0 rB (by omega);have hcp:=rV t.length;obtain⟨d0,hv0,hd0⟩:=Rl 0 (aF _) (by omega);rw[show a+((0:Nat):Int)=a from by omega,hv] at hv0;have afx:d=d0:=by cases hv0;rfl
 subst afx;rw[Nat.sub_zero,Nat.mul_zero,iK] at hd0;have aiB:12<=d.data.toList.length:=by
  rw[hd0,aC];omega
 have x1:eJ 8 (d.data.toList,false)=(d.data.toList.drop 8,false):=by unfold eJ;rw[af (by simp only[cG,false_or];omega)]
 have x2:jm 8 (d.data.toList,false)=nt (d.data.toList.take 8):=by unfold jm;rw[af (by simp only[cG,false_or];omega)]
 have l8:(d.data.toList.drop 8).length=d.data.toList.length-8:=aR;have x3:jm 4 (d.data.toList.drop 8,false)=nt ((d.data.toList.drop 8).take 4):=by unfold jm;rw[af (by simp only[cG,false_or];omega)]
 rw[x2] at Xw;rw[x1,x3] at l1 hn4 hcn;have y1:d.data.toList.take 8=le .i64 8 q:=Cy (by rw[aC];omega) hq Xw;have hl4:((d.data.toList.drop 8).take 4).length=4:=by rw[aC];omega
 rw[nY (by omega)] at l1;have y2:(d.data.toList.drop 8).take 4=le .i64 4 ((t.length-12:Nat):Int):=by
  have:=zk (by decide) hl4;rw[show(nV ((d.data.toList.drop 8).take 4):Int)=((t.length-12:Nat):Int) from by omega] at this;exact this
 have z1:t.take 8=le .i64 8 q:=by
  rw[<-y1,hd0,xV,show min 8 104=8 from rfl]
 have z2:(t.drop 8).take 4=le .i64 4 ((t.length-12:Nat):Int):=by
  rw[<-y2,hd0,List.drop_take,xV,show min 4 (104-8)=4 from rfl]
 have Rt:df q (bs (t.drop 12))=t:=by
  unfold df;have qX:(bs (t.drop 12)).size=t.length-12:=by rw[cf,aR]
  rw[qX,<-z1,<-z2];show t.take 8++(t.drop 8).take 4++t.drop 12=t;have:t.drop 12=(t.drop 8).drop 4:=by rw[iL]
  rw[this,aH,dk,dk]
 refine⟨m,d,AA.1,AA.2.1,hv,λi hi2=>?_⟩;have afk:12+(t.drop 12).length=t.length:=by rw[aR];omega
 rw[afk] at hi2;obtain⟨di,hvi,Kc⟩:=Rl i (aE _) (by omega);obtain⟨hx,GG⟩:=Cm hvi;rw[Rt];have HZ:part (bs t) i=di:=by
  apply kQ;rw[Kc];unfold part;rw[extract_toList];show(t.drop (104* i)).take (104* (i+1) -104* i)=_;rw[Nat.sub_zero,show 104* (i+1) -104* i=104 from by omega]
 rw[HZ];apply kQ;rw[nC GG];exact hx
section
variable {W w:World} {L:LH}
end
def QD{D:aZ}(h:D.sync.2=0):D.sync.1.later=[]:=by
 unfold aZ.sync at h⊢;split at h
 ·simp at h
 ·rename_i hf;rw[af hf]
def PG{D:aZ}{at' toX number:Int}{s:BA}(h:(eQ D at' toX number s).2=0):(eQ D at' toX number s).1.later=[]:=by
 unfold eQ at h⊢;split at h
 ·rename_i hh;exact aQ h hh
 ·rename_i hh;rw[af hh];exact QD h
def AI{D:aZ}(h:D.later=[])(mask torn cut:Int)(j:Int):(D.fM mask torn cut).read j=D.read j:=by
 have e:D.fM mask torn cut=⟨D.safe,[],D.ops,0⟩:=by rw[oN,h];rfl
 rw[e];unfold aZ.read aZ.is aZ.now;rw[h]
def HS{at' number:Int}{s:BA}(qd:1<=number/\number<=1152921504606846976)(BJ:0<=at'):∀(n i:Nat) {D:aZ},at'+i+n<=D.safe.length->i+n<=4096->(pz at' number s D i n).2=0\/(pz at' number s D i n).2=8
 |0,i,D,hr,hi=>.inl rfl
 |n+1,i,D,hr,hi=>by
  have hg:fk number i (part s i):=⟨qd.1,qd.2,by omega,by omega,nB s i⟩;have qX:=uv hg;have u9:D.is (at'+i):=⟨by omega,by omega⟩;have zG: ¬(¬D.is (at'+i)\/128<(leaf number i (part s i)).size):=by
   rintro(hh|hh)
   ·exact hh u9
   ·omega
  have tA:=(sy D (at'+i) (leaf number i (part s i))).1;have hw:D.write (at'+i) (leaf number i (part s i))=if D.vt then(D.tick,8) else({Go.cH.aZ.tick D with later:=D.later++[(at'+i,aZ.pad (leaf number i (part s i)))]},0):=by
   unfold aZ.write;rw[af zG]
  unfold pz;cases hf:D.vt with
  |true=>
   rw[hf,ai rfl] at hw;rw[hw,ai (by simp)];exact .inr rfl
  |false=>
   rw[hf,af rq] at hw;have h0:(D.write (at'+i) (leaf number i (part s i))).2=0:=by rw[hw]
   rw[af (by rw[h0];exact λhh=>hh rfl)];exact HS qd BJ (s:=s) n (i+1) (D:=(D.write (at'+i) (leaf number i (part s i))).1) (by rw[tA];omega) (by omega)
def Eb{n a t:Nat}{D:aZ}{number:Int}{s:BA}(hlen:D.safe.length=n)(cS:n<=4096)(qd:1<=number/\number<=1152921504606846976)(hl:a+gB s.size<=t)(htn:t<=n):(eQ D a t number s).2=0\/(eQ D a t number s).2=8:=by
 have hcp:=rV s.size;have e:lay D (a:Nat) ((t:Nat):Int) number s=pz (a:Nat) number s D 0 (gB s.size):=by
  unfold lay;rw[af (by rw[hlen];omega),af (by omega)]
 have hc:=HS (at':=((a:Nat):Int)) (number:=number) (s:=s) qd (by omega) (gB s.size) 0 (D:=D) (by rw[hlen];omega) (by omega);unfold eQ;rw[e];split
 ·exact hc
 ·unfold aZ.sync;split
  ·exact .inr rfl
  ·exact .inl rfl
def Hv{g:Nat}{X:BA}{m j:Int}{d:BA}(he:Ends g X)(hg:g<256)(h:mh X.data.toList=some (m,j,d)):m<=g:=by
 obtain⟨hx,AA⟩:=Cm h;obtain⟨_,⟨a,ha,h8⟩,_⟩:=he;rw[hx,yR] at h8;have e1:=px (n:=m) ⟨by have:=AA.1;omega,AA.2.1⟩;have e2:=px (n:=(a:Int)) ⟨by omega,by omega⟩;rw[h8,e2] at e1;omega
def Dc{D D':aZ}{a toX q:Int}(hlen:D'.safe.length=D.safe.length)(hr:∀j:Int,a<=j->j<toX->(D'.read j).1=(D.read j).1):mj D' a toX q=mj D a toX q:=by
 cases h:mj D a toX q with
 |some y=>
  obtain⟨s,a2⟩:=y;have:=qc h;exact vm h hlen (λj h1 h2=>hr j h1 (by omega))
 |none=>
  cases h':mj D' a toX q with
  |none=>rfl
  |some y=>
   obtain⟨s,a2⟩:=y;have:=qc h';have:=vm h' hlen.symm (λj h1 h2=>(hr j h1 (by omega)).symm);rw[h] at this;cases this
structure JG(n:Nat)(D:aZ)(J:PJ)(q0:Int)(oR:List (List UInt8))(g:Nat):Prop where
 ok:D.Ok
 Jg:D.later=[]
 len:D.safe.length=n
 yc:J.Ok D
 chain:ku D J.hi J.lo q0 oR J.at'
 seq:J.seq=q0+oR.length
 q0:0<=q0
 low:∀j:Int,J.lo<=j->j<J.hi->∀m d,mh (D.read j).1.data.toList=some (m,0,d)->EZ d<=J.seq+1
 stop:mj D J.at' J.hi (J.seq+1)=none
 ends:∀j:Nat,j<n->Ends g (D.read (j:Int)).1
def JG.congr{n:Nat}{D D':aZ}{J:PJ}{q0:Int}{oR:List (List UInt8)}{g:Nat}(h:JG n D J q0 oR g)(iE:D'.Ok)(Az:D'.later=[])(hlen:D'.safe.length=n)(hr:∀j:Int,0<=j->j<n->(D'.read j).1=(D.read j).1):JG n D' J q0 oR g:=by
 have hl:D'.safe.length=D.safe.length:=by rw[hlen,h.len]
 have j1:=h.yc.lo;have j2:=h.yc.Ms;have j3:=h.yc.Ss;have j4:=h.yc.hi;have j5:=h.len;refine⟨iE,Az,hlen,⟨j1,j2,j3,by rw[hl];exact j4,h.yc.seq⟩,vE hl _ h.chain (λj a b=>hr j (by omega) (by omega)),h.seq,h.q0,λj a b m d hv=>?_,?_,λj hj=>?_⟩
 ·rw[hr j (by omega) (by omega)] at hv;exact h.low j a b m d hv
 ·rw[Dc hl (λj a b=>hr j (by omega) (by omega))];exact h.stop
 ·rw[hr j (by omega) (by omega)];exact h.ends j hj
def JG.opened{n:Nat}{D:aZ}{J:PJ}{q0:Int}{oR:List (List UInt8)}{g:Nat}(h:JG n D J q0 oR g):kT D J.hi J.lo q0=(oR,J.at',J.seq):=by
 have:=h.stop;rw[h.seq] at this;rw[F' oR h.chain this,h.seq]
def fly{n:Nat}{D:aZ}{J:PJ}{q0:Int}{oR:List (List UInt8)}{g m:Nat}{s:BA}(h:JG n D J q0 oR g)(cS:n<=4096)(hm:g<m)(Jn:m<256)(hr:room J s.size)(Lu:J.seq<1152921504606846976)(mask torn cut:Int):
 ((eQ D J.at' J.hi m (bs (df (J.seq+1) s))).2=0\/(eQ D J.at' J.hi m (bs (df (J.seq+1) s))).2=8)/\
 ((eQ D J.at' J.hi m (bs (df (J.seq+1) s))).2=0->∀i:Nat,i<gB (12+s.size)->(((eQ D J.at' J.hi m (bs (df (J.seq+1) s))).1.fM mask torn cut).read (J.at'+i)).1=leaf m i (part (bs (df (J.seq+1) s)) i))/\
 ((∀i:Nat,i<gB (12+s.size)->(((eQ D J.at' J.hi m (bs (df (J.seq+1) s))).1.fM mask torn cut).read (J.at'+i)).1=leaf m i (part (bs (df (J.seq+1) s)) i))->
   JG n ((eQ D J.at' J.hi m (bs (df (J.seq+1) s))).1.fM mask torn cut) (J.more s) q0 (oR++[s.data.toList]) m)/\
 ((¬∀i:Nat,i<gB (12+s.size)->(((eQ D J.at' J.hi m (bs (df (J.seq+1) s))).1.fM mask torn cut).read (J.at'+i)).1=leaf m i (part (bs (df (J.seq+1) s)) i))->
   JG n ((eQ D J.at' J.hi m (bs (df (J.seq+1) s))).1.fM mask torn cut) J q0 oR m):=by
 obtain⟨j1,j2,j3,j4,j5⟩:=h.yc;obtain⟨r1,r2,r3⟩:=hr;rw[ak] at r3;have hlen:=h.len;have hcp:=rV (12+s.size);have BH:=sG (J.seq+1) s;obtain⟨a,ha⟩:=bw (show 0<=J.at' by omega);obtain⟨t,ht⟩:=bw (show 0<=J.hi by omega);have ZF:=Eb (n:=n) (a:=a) (t:=t) (number:=m) (s:=bs (df (J.seq+1) s)) hlen cS (by omega) (by rw[BH];omega) (by omega);obtain⟨c1,c2,c3,c4⟩:=Lj (n:=n) (a:=a) (t:=t) (number:=m) (mask:=mask) (torn:=torn) (cut:=cut) (s:=bs (df (J.seq+1) s)) h.ok h.Jg hlen cS (by omega) (by rw[BH];omega) (by omega);have Zy:((eQ D (a:Int) (t:Int) m (bs (df (J.seq+1) s))).1.fM mask torn cut).later=[]:=by rw[oN]
 rw[BH] at c1 c2;rw[ha,ht];generalize (eQ D (a:Int) (t:Int) m (bs (df (J.seq+1) s))).2=code at *;generalize (eQ D (a:Int) (t:Int) m (bs (df (J.seq+1) s))).1.fM mask torn cut=D2 at *;have hcn:gB (12+s.size)<=4096:=by omega
 have AA:∀i:Nat,i<4096->fk m (i:Int) (part (bs (df (J.seq+1) s)) i):=λi hi=>⟨by omega,by omega,by omega,by omega,nB _ i⟩;have sec:∀j:Nat,j<n->Ends m (D2.read (j:Int)).1/\((D2.read (j:Int)).1=(D.read (j:Int)).1\/(∃i,i<gB (12+s.size)/\j=a+i/\((D2.read (j:Int)).1=leaf m i (part (bs (df (J.seq+1) s)) i)\/mh (D2.read (j:Int)).1.data.toList=none))):=λj hj=>by
  rcases c1 j hj with hh|⟨i,h1,h2,h3⟩
  ·rw[hh];exact⟨(h.ends j hj).mono (by omega),.inl rfl⟩
  ·obtain⟨e1,e2⟩:=Cv hm Jn (AA i (by omega)) (h.ends j hj) h3;refine⟨e1,?_⟩;rcases e2 with e2|e2|e2
   ·exact .inl e2
   ·exact .inr ⟨i,h1,h2,.inl e2⟩
   ·exact .inr ⟨i,h1,h2,.inr e2⟩
 have out:∀j:Int,0<=j->j<n->(j<a\/a+(gB (12+s.size):Int)<=j)->(D2.read j).1=(D.read j).1:=λj h1 h2 h3=>by
  obtain⟨k,rfl⟩:=bw h1;rcases c1 k (by omega) with hh|⟨i,h4,h5,_⟩
  ·exact hh
  ·omega
 have XC:D2.safe.length=D.safe.length:=by rw[c4,hlen]
 have hpr:=vj (seq:=J.seq+1) (s:=s) ⟨by omega,by omega⟩ (by omega);have aaV:∀j:Int,J.lo<=j->j<J.hi->∀x d,mh (D2.read j).1.data.toList=some (x,0,d)->EZ d<=J.seq+1:=λj h1 h2 x d hv=>by
  obtain⟨k,rfl⟩:=bw (show 0<=j by omega);rcases(sec k (by omega)).2 with hh|⟨i,hi,_,hh|hh⟩
  ·rw[hh] at hv;exact h.low _ h1 h2 x d hv
  ·rw[hh,nC (AA i (by omega)),pg (AA i (by omega))] at hv;simp only[bE.injEq,Prod.mk.injEq] at hv;obtain⟨_,ZB,hd⟩:=hv;have:i=0:=by omega
   subst this;rw[<-hd,hpr.1];exact sS _
  ·rw[hh] at hv;cases hv
 have UO:ku D2 J.hi J.lo q0 oR J.at':=vE XC _ h.chain (λj h1 h2=>out j (by omega) (by omega) (by omega));have Uc:∀j:Nat,j<n->Ends m (D2.read (j:Int)).1:=λj hj=>(sec j hj).1;refine⟨ZF,λh0 i hi=>?_,λhw=>?_,λhnw=>?_⟩
 ·have:=c2 h0 i hi;rw[show(a:Int)+(i:Int)=((a+i:Nat):Int) from by omega];exact this
 ·have aa1:=Db (D:=D2) (a:=J.at') (toX:=J.hi) (n:=m) (q:=J.seq+1) (s:=s) (by omega) (by omega) (by omega) (by omega) (by omega) (by omega) (by omega) (by rw[ha];exact hw);refine⟨c3,Zy,c4,⟨j1,?_,?_,?_,?_⟩,?_,?_,h.q0,λj h1 h2 x d hv=>?_,?_,Uc⟩
  ·show J.lo<=J.at'+_;omega
  ·show J.at'+_<=J.hi;omega
  ·show J.hi<=_;omega
  ·show 0<=J.seq+1/\J.seq+1<=_;omega
  ·show ku D2 J.hi J.lo q0 _ (J.at'+_);refine F9 oR UO ?_;rw[<-h.seq];exact aa1
  ·show J.seq+1=_;rw[h.seq,au,aW,cK];omega
  ·show EZ d<=J.seq+1+1;have:=aaV j h1 h2 x d hv;omega
  ·show mj D2 (J.at'+(gB (12+s.size):Int)) J.hi (J.seq+1+1)=none;by_cases abj:J.hi<=J.at'+(gB (12+s.size):Int)
   ·exact Cs abj
   ·refine Cr (λx d hv=>?_);have:=aaV _ (by omega) (by omega) x d hv;omega
 ·refine⟨c3,Zy,c4,⟨j1,j2,j3,by omega,j5⟩,UO,h.seq,h.q0,aaV,?_,Uc⟩;cases hx:mj D2 J.at' J.hi (J.seq+1) with
  |none=>rfl
  |some y=>
   exfalso;obtain⟨s2,a2⟩:=y;obtain⟨i1,i2,i3,i4,i5,i6⟩:=qc hx;obtain⟨x,d,x1,x2,hv,Rl⟩:=HL (by omega) hx;have Ud:=rV (12+s2.length);have Ua:∀i:Nat,i<4096->fk x (i:Int) (part (bs (df (J.seq+1) (bs s2))) i):=λi hi=>⟨x1,x2,by omega,by omega,nB _ i⟩;have aa7:=vj (seq:=J.seq+1) (s:=bs s2) ⟨by omega,by omega⟩ (by rw[cf];omega);have rd:∀i:Nat,i<gB (12+s2.length)->mh (D2.read ((a+i:Nat):Int)).1.data.toList=some (x,(i:Int),part (bs (df (J.seq+1) (bs s2))) i):=λi hi=>by
    have:=Rl i hi;rw[ha,show(a:Int)+(i:Int)=((a+i:Nat):Int) from by omega] at this;rw[this,nC (Ua i (by omega)),pg (Ua i (by omega))]
   rcases(sec a (by omega)).2 with hh|⟨i,hi,hai,hh|hh⟩
   ·
    have r0:=rd 0 Ud;rw[gK,hh] at r0;have hxg:=Hv (h.ends a (by omega)) (by omega) r0;have all:∀j:Int,J.at'<=j->j<a2->(D.read j).1=(D2.read j).1:=λj h1 h2=>by
     obtain⟨k,hk⟩:=bw (show 0<=j-a by omega);have hj:j=((a+k:Nat):Int):=by omega
     subst hj;rcases(sec (a+k) (by omega)).2 with e|⟨i,hi,hai,e|e⟩
     ·exact e.symm
     ·exfalso;have T':i=k:=by omega
      subst T';have r:=rd i (by omega);rw[e,nC (AA i (by omega)),pg (AA i (by omega))] at r;simp only[bE.injEq,Prod.mk.injEq] at r;have:=r.1;omega
     ·exfalso;have r:=rd k (by omega);rw[e] at r;cases r
    have:=vm hx XC.symm all;rw[h.stop] at this;cases this
   ·
    have ZB:i=0:=by omega
    subst ZB;have r0:=rd 0 Ud;rw[gK,hh,nC (AA 0 (by omega)),pg (AA 0 (by omega))] at r0;simp only[bE.injEq,Prod.mk.injEq] at r0;obtain⟨hxm,_,hp0⟩:=r0;have qX:s2.length=s.size:=by
     have e1:=hpr.2.2;have e2:=aa7.2.2;rw[hp0] at e1;rw[e1,cf] at e2;omega
    refine hnw λi hi=>?_;rw[show(a:Int)+(i:Int)=((a+i:Nat):Int) from by omega];have r:=rd i (by rw[qX];exact hi);rcases(sec (a+i) (by omega)).2 with e|⟨i',u9,aiD,e|e⟩
    ·exfalso;rw[e] at r;have:=Hv (h.ends (a+i) (by omega)) (by omega) r;omega
    ·have:i'=i:=by omega
     subst this;exact e
    ·rw[e] at r;cases r
   ·have ZB:i=0:=by omega
    subst ZB;have r0:=rd 0 Ud;rw[gK,hh] at r0;cases r0
section
variable {W w:World} {L:LH}
end
def uz(D:aZ)(mask torn cut:Int):(D.fM mask torn cut).safe.length=D.safe.length:=by rw[oN];simp only[jz]
def JG.add{n:Nat}{D:aZ}{J:PJ}{q0:Int}{oR:List (List UInt8)}{g m:Nat}{s:BA}(h:JG n D J q0 oR g)(Xt:J.dL=false)(cS:n<=4096)(hm:g<m)(Jn:m<256)(hr:room J s.size)(Lu:J.seq<1152921504606846976):
 tT D J m s=CQ J s (eQ D J.at' J.hi m (bs (df (J.seq+1) s)))/\(eQ D J.at' J.hi m (bs (df (J.seq+1) s))).1.Ok/\
 ((eQ D J.at' J.hi m (bs (df (J.seq+1) s))).2=0/\JG n (eQ D J.at' J.hi m (bs (df (J.seq+1) s))).1 (J.more s) q0 (oR++[s.data.toList]) m\/(eQ D J.at' J.hi m (bs (df (J.seq+1) s))).2=8):=by
 have hcn:gB (12+s.size)<=400:=by have:=hr.2.1;unfold gB;split<;>omega
 have iE:=Li (at':=J.at') (toX:=J.hi) (number:=m) (s:=bs (df (J.seq+1) s)) h.ok (by rw[h.Jg,sG,cK];omega);refine⟨?_,iE,?_⟩
 ·unfold tT;rw[af (by rw[Xt];exact rq),af (by omega),af (by rintro(hh|hh);exact hh hr;omega)]
 ·obtain⟨f1,f2,f3,f4⟩:=fly h cS hm Jn hr Lu 0 (-1) 0;rcases f1 with f1|f1
  ·refine .inl ⟨f1,?_⟩;have hl:=PG f1;have hj:=f3 (f2 f1);refine hj.congr iE hl ?_ (λj _ _=>?_)
   ·rw[<-uz _ 0 (-1) 0];exact hj.len
   ·rw[AI hl]
  ·exact .inr f1
def ab5{n:Nat}(h:n<=4096){lo hi:Int}(h0:0<=lo)(h1:lo<hi)(h2:hi<=n)(q0:Int)(hq:0<=q0/\q0<=1152921504606846976):JG n (aZ.new n) ⟨lo,hi,lo,q0,false⟩ q0 [] 0:=by
 have hc:=Gd h;refine⟨hc.ok,rfl,hc.len,⟨h0,sS _,by show lo<=hi;omega,by show hi<=_;rw[hc.len];exact h2,by show 0<=q0/\q0<=_;omega⟩,rfl,by show q0=q0+_;simp,hq.1,λj a b m d hv=>?_,?_,λj hj=>?_⟩
 ·dsimp only at a b;rw[HM h (by omega) (by omega),yJ] at hv;cases hv
 ·exact Lb (HM h h0 (by show lo<(n:Int);omega))
 ·rw[By h hj];exact F3
section
variable {W w:World} {L:LH} {k:Nat}
end
section
variable {W w:World} {L:LH}
end
end Go.Sep
namespace Go.Sep
open Go.Den Go.RowKit
section
variable {H:Type} {enc:TypeId×Value->H} {P:Program} {w:World} {base:Nat} {spare:Nat->Bool} {held:Bool}
end
end Go.Sep
namespace Go.Sep
open Go.Den Go.RowKit Go.Prog Go.cH
def JG.mono{n:Nat}{D:aZ}{J:PJ}{q0:Int}{oR:List (List UInt8)}{g g':Nat}(h:JG n D J q0 oR g)(hg:g<=g'):JG n D J q0 oR g':=
 ⟨h.ok,h.Jg,h.len,h.yc,h.chain,h.seq,h.q0,h.low,h.stop,λj hj=>(h.ends j hj).mono hg⟩
def JG.yU{n:Nat}{D:aZ}{J:PJ}{q0:Int}{oR:List (List UInt8)}{g:Nat}(h:JG n D J q0 oR g)(hg:g<256):∃x:Nat,fe D n=x/\x<=g/\JG n D J q0 oR x:=by
 have h1:=xC D n;have h2:=zn (D:=D) hg n h.ends;obtain⟨x,hx⟩:=bw h1.1;refine⟨x,hx,by omega,⟨h.ok,h.Jg,h.len,h.yc,h.chain,h.seq,h.q0,h.low,h.stop,λj hj=>?_⟩⟩;obtain⟨e1,⟨a,ha,e2⟩,b,hb,e3⟩:=h.ends j hj;have hle:=K8 (D:=D) n j hj;have e4:CB (D.read (j:Int)).1=bs (le .i64 8 ((a:Nat):Int)):=kQ (by rw[LN,e2];rfl);have e5:B7 (D.read (j:Int)).1=bs (le .i64 8 ((b:Nat):Int)):=kQ (by rw[Ku e1,e3];rfl);rw[e4,e5,vk (by omega),vk (by omega)] at hle;exact⟨e1,⟨a,by omega,e2⟩,b,by omega,e3⟩
section
variable {W w:World} {L:LH}
end
section
variable {W w:World} {L:LH} {k:Nat}
end
def Bx(a b:Option gn):Option gn:=
 match b with
 |none=>a
 |some hb=>match a with
  |none=>some hb
  |some ha=>if ha.bB<hb.bB then some hb else some ha
def tS(D:aZ)(number:Int)(h:gn):aZ×Int:=
 if nS h then(if(lay D (low h.bB) (low h.bB+1) number (bs (ko h))).2≠0 then lay D (low h.bB) (low h.bB+1) number (bs (ko h)) else(lay D (low h.bB) (low h.bB+1) number (bs (ko h))).1.sync) else(D,1)
section
variable {W w:World} {L:LH} {k d:Nat} {D:aZ}
def RX{number:Int}{h:gn}{K:VK}(hs:St W w L)(hk:L[k]?=some (gT d D))(iE:D.Ok)(hl:D.later.length+5000<1099511627776)
 (hK:∀w',St W w' (L.set k (gT d (tS D number h).1))->K (.i (tS D number h).2) w'):uy (ah d) number (cm h) K w:=by
 unfold uy;refine je hs λr w hs=>?_;refine km (k:=0) (xs:=cm h) hs rfl rfl (λj v hj=>by rw[aD];exact hj) ?_;refine Ml hs λw hs=>?_;simp only[nz,ae,ag];unfold tS at hK;unfold Eg;by_cases hg:nS h
 ·rw[ai hg] at hK⊢;dsimp only;refine uX (λhh=>aQ rfl hh) (λ_=>?_);apply cX (k:=0) hs rfl rfl;simp only[nz,ae,ag];apply cX (k:=0) hs rfl rfl;simp only[nz,ae,ag];have LG:=vR h.bB;have ew:aa.wrap (de .i64 .and h.bB 1+1)=low h.bB+1:=by
   show aa.wrap (low h.bB+1)=_;rw[aX (by omega)]
  rw[ew];have e0:de .i64 .and h.bB 1=low h.bB:=rfl;rw[e0];have qX:(bs (ko h)).size=32:=by rw[cf,qy]
  have N7:gB (bs (ko h)).size=1:=by rw[qX];rfl
  have ux:(pt r (cm h)::L)[k+1]?=some (gT d D):=by rw[bT];exact hk
  refine Gw (k:=k+1) hs ux iE (by omega) (by rw[qX];decide) λw hs=>?_;rw[lA] at hs;simp only[nz,ae,ag];have Rr:=(Jf (at':=low h.bB) (toX:=low h.bB+1) (number:=number) (s:=bs (ko h)) iE (by rw[N7];omega)).1;refine uX (λjW=>?_) (λh0=>?_)
  ·rw[ai jW] at hK;exact hK w hs.drop
  ·rw[af (λhh=>hh h0)] at hK;refine u4 (k:=k+1) hs (by rw[bT];exact kj hk) Rr λw hs=>?_;rw[lA,jC] at hs;simp only[nz,ae,ag];exact hK w hs.drop
 ·rw[af hg] at hK⊢;dsimp only;refine uX (λ_=>?_) (λhh=>by simp at hh);apply hK w;rw[nI hk];exact hs.drop
def G2(o:Option gn):gn:=o.getD Ew
def AD(o:Option gn):qx o=.tuple ⟨[.agg ⟨cm (G2 o)⟩,.b o.isSome]⟩:=by cases o<;>rfl
def MD{K:VK}(hs:St W w L)(hk:L[k]?=some (gT d D))(iE:D.Ok)(hK:∀w',St W w' L->K (qx (Bx (AN D 0) (AN D 1))) w'):rU (ah d) K w:=by
 unfold rU;refine je hs λr1 w hs=>?_;refine Qo (i:=0) (k:=k+1) hs (by rw[bT];exact hk) iE λw hs=>?_;rw[AD];simp only[nz,ae,ag];simp only[xX];refine⟨rfl,?_⟩;simp only[nz,ae,ag];refine je hs λr2 w hs=>?_;refine⟨rfl,kf (k:=0) hs rfl (aI rfl) (by simp[Value.oneCell',cm]) λw hs=>?_⟩;rw[iS (by simp[cm])] at hs;simp only[nz,ae,ag] at hs;refine Qo (i:=1) (k:=k+2) hs (by rw[bT,bT];exact hk) iE λw hs=>?_;rw[AD];simp only[nz,ae,ag];simp only[xX];refine⟨rfl,?_⟩;simp only[nz,ae,ag];refine je hs λr3 w hs=>?_;refine⟨rfl,kf (k:=0) hs rfl (aI rfl) (by simp[Value.oneCell',cm]) λw hs=>?_⟩;rw[iS (by simp[cm])] at hs;simp only[nz,ae,ag] at hs;generalize AN D 0=a at *;generalize AN D 1=b at *;have tell:∀(i:Nat)(o:Option gn)(r:Nat)(f:Bool),(i=0/\r=r3/\G2 o=G2 b\/i=1/\r=r2/\G2 o=G2 a)->(f=o.isSome)->(∀w',St W w' L->K (qx o) w')->
                                                                                                       aJ ⟨r,0,none⟩ 4 (λcs=>cu (cs.length=4) (jU ⟨r1,0,none⟩ cs (aJ ⟨r1,0,none⟩ 4 λvZ=>K (.tuple ⟨[.agg ⟨vZ⟩,.b f]⟩)))) w:=λi o r f hi hf hK=>by
  have zE:(pt r3 (cm (G2 b))::pt r2 (cm (G2 a))::pt r1 [.i 0,.i 0,.i 0,.i 0]::L)[i]?=some (pt r (cm (G2 o))):=by
   rcases hi with⟨rfl,rfl,h⟩|⟨rfl,rfl,h⟩<;>rw[h]<;>rfl
  refine km (xs:=cm (G2 o)) hs zE rfl (λj v hj=>by rw[aD];exact hj) ?_;refine⟨rfl,?_⟩;refine kf (k:=2) hs rfl (aI rfl) (by simp[Value.oneCell',cm]) λw hs=>?_;rw[iS (by simp[cm])] at hs;simp only[nz,ae,ag] at hs;refine km (k:=2) (xs:=cm (G2 o)) hs rfl rfl (λj v hj=>by rw[aD];exact hj) ?_;have:=hK w hs.drop.drop.drop;rw[AD] at this;rw[hf];exact this
 cases b with
 |none=>
  exact tell 1 a r2 _ (.inr ⟨rfl,rfl,rfl⟩) rfl hK
 |some hb=>
  cases a with
  |none=>exact tell 0 (some hb) r3 true (.inl ⟨rfl,rfl,rfl⟩) rfl hK
  |some ha=>
   have e1:(some hb:Option gn).isSome=true:=rfl;have e2:(some ha:Option gn).isSome=true:=rfl;rw[e1,e2];simp only[nz,ae,ag];apply cX (k:=0) hs rfl (v:=.i hb.bB) rfl;simp only[nz,ae,ag];apply cX (k:=1) hs rfl (v:=.i ha.bB) rfl;simp only[nz,ae,ag];unfold Bx at hK;dsimp only at hK;refine fQ (λP8=>?_) (λhle=>?_)
   ·rw[ai P8] at hK;exact tell 0 (some hb) r3 true (.inl ⟨rfl,rfl,rfl⟩) rfl hK
   ·rw[af hle] at hK;exact tell 1 (some ha) r2 true (.inr ⟨rfl,rfl,rfl⟩) rfl hK
end
end Go.Sep
namespace Go.Up
open Go.Sep Go.Den Go.RowKit Go.Prog Go.Md Go.cH
section
variable {W:World} {L R:LH} {K:VK} {X:WK} {d r n:Nat} {D:aZ} {J:PJ} {f:aZ->LH} {g:PJ->LH} {s:BA}
abbrev jP(d r:Nat)(J:PJ):HP:=Sep.pt r (rQ d J)
def Iz[i:Lc (gT d) L D f](h:T W L (K (.i (D.safe.length:Int)))):T W L (fE (ah d) K):=λw hs=>by
 obtain⟨k,hk,e⟩:=i.at_;exact nT hs hk (h w hs)
def aaL{n:Int}(h:∀d,T W (gT d (aZ.new n)::L) (K (.p (ah d)))):T W L (tv n K):=λw hs=>Vq hs λd w' h'=>h d w' h'
def aeP[i:Lc (gT d) L D f]{n:Int}(h:T W (f (D.tL n)) (K (.tuple ⟨[]⟩))):T W L (oG (ah d) n K):=λw hs=>by
 obtain⟨k,hk,e⟩:=i.at_;exact G' hs hk λw' h'=>h w' (by rw[e];exact h')
def aeO(nU:12<=n)(cS:n<=4096)(h:T W L (K (.tuple ⟨[.agg ⟨fw n⟩,.i 0]⟩))):T W L (ud n K):=λw hs=>YA hs nU cS λw' h'=>h w' h'
def aaw[i:Lc (gT d) L D f]{which number:Int}(iE:D.Ok)(nU:12<=n)(cS:n<=4096)(hl:D.later.length+5000<1099511627776)(hs:s.size<=reachBytes)
 (h:T W (f (put D n which number s).1) (K (.i (put D n which number s).2))):T W L (qK (fw n) (ah d) which number s K):=λw hw=>by
 obtain⟨k,hk,e⟩:=i.at_;exact Vo hw hk iE nU cS hl hs λw' h'=>h w' (by rw[e];exact h')
def aax[i:Lc (gT d) L D f]{which number size:Int}(iE:D.Ok)(nU:12<=n)(cS:n<=4096)(h:T W L (K (sV (get D n which number size)))):T W L (qL (fw n) (ah d) which number size K):=λw hw=>by
 obtain⟨k,hk,e⟩:=i.at_;exact Vv hw hk iE nU cS λw' h'=>h w' h'
def Vp[i:Lc (gT d) L D f](iE:D.Ok)(h:T W L (K (qx (Bx (AN D 0) (AN D 1))))):T W L (rU (ah d) K):=λw hw=>by
 obtain⟨k,hk,e⟩:=i.at_;exact MD hw hk iE λw' h'=>h w' h'
def abM[i:Lc (gT d) L D f]{number:Int}{hd:gn}(iE:D.Ok)(hl:D.later.length+5000<1099511627776)(h:T W (f (tS D number hd).1) (K (.i (tS D number hd).2))):T W L (uy (ah d) number (cm hd) K):=λw hw=>by
 obtain⟨k,hk,e⟩:=i.at_;exact RX hw hk iE hl λw' h'=>h w' (by rw[e];exact h')
def Gx[i:Lc (gT d) L D f](iE:D.Ok)(h:T W L (K (.i (fe D D.safe.length)))):T W L (oC (ah d) K):=λw hw=>by
 obtain⟨k,hk,e⟩:=i.at_;exact G9 hw hk iE λw' h'=>h w' h'
def aaY[i:Lc (jP d r) L J g](h:T W L (K (.i J.seq))):T W L (ml (ah r) K):=λw hw=>by
 obtain⟨k,hk,e⟩:=i.at_;exact Vg hw hk (h w hw)
def Sa[i:Lc (jP d r) L J g](h:T W (g {J with at':=J.lo}) (K (.tuple ⟨[]⟩))):T W L (jL (ah r) K):=λw hw=>by
 obtain⟨k,hk,e⟩:=i.at_;exact JY hw hk λw' h'=>h w' (by rw[e];exact h')
def Xn[i:Lc (jP d r) L J g]{m:Int}(hJ:J.Ok D)(iE:D.Ok)(h:T W L (K (.b (decide (room J m))))):T W L (jK (ah r) m K):=λw hw=>by
 obtain⟨k,hk,e⟩:=i.at_;exact FI hw hk hJ iE λw' h'=>h w' h'
def aaZ{number:Int}(hJ:J.Ok D)(iE:D.Ok)(hl:D.later.length<1000000)(hs:s.size<=reachBytes)
 (h:T W (jP d r (tT D J number s).2.1::gT d (tT D J number s).1::R) (K (.i (tT D J number s).2.2))):T W (jP d r J::gT d D::R) (cy (ah r) number s K):=λw hw=>
 Rg (k:=0) (k2:=1) hw rfl rfl (by decide) hJ iE hl hs λw' h'=>h w' h'
def Xo[i:Lc (gT d) L D f]{lo hi q:Int}(iE:D.Ok)(hp:0<=lo/\lo<hi/\hi<=(D.safe.length:Int))(hq:0<=q/\q<=1152921504606846976)
 (h:∀r b c,(∃n:Nat,n<=4096/\(kT D hi lo q).1.length=n/\(kT D hi lo q).2.2=q+n/\lo<=(kT D hi lo q).2.1/\(kT D hi lo q).2.1<=hi)->T W (own b (kT D hi lo q).1.length c 1 ((kT D hi lo q).1.map GS)::jP d r ⟨lo,hi,(kT D hi lo q).2.1,(kT D hi lo q).2.2,false⟩::L)
  (K (.tuple ⟨[.p (ah r),.l b (kT D hi lo q).1.length c,.i 0]⟩))):T W L (kW (ah d) lo hi q K):=λw hw=>by
 obtain⟨k,hk,e⟩:=i.at_;exact Sb hw hk iE hp hq λr b c w' he h'=>h r b c he w' h'
end
end Go.Up
namespace Go.Sep
open Go.Den Go.RowKit Go.Prog Go.cH
def NW{D:aZ}{at' toX number:Int}{s:BA}(h:D.Ok)(hl:D.later.length+gB s.size<1099511627776):(eQ D at' toX number s).1.later.length<=D.later.length+gB s.size:=by
 have hL:(lay D at' toX number s).1.later.length<=D.later.length+gB s.size:=by
  unfold lay;split
  ·exact Nat.le_add_right _ _
  ·split
   ·exact Nat.le_add_right _ _
   ·exact(BB _ 0 h hl).2.2
 unfold eQ;split
 ·exact hL
 ·exact zy Dk.Kz.2 hL
section
variable {W w:World} {L:LH}
end
end Go.Sep
namespace Go.Up
open Go.Sep Go.Den Go.RowKit Go.Prog Go.Md Go.cH
structure VS where
 D:aZ
 J:PJ
 bB:Int
 dL:Bool
def vC(d n pb pj:Nat)(bB:Int)(dL:Bool):LV:=[.p (ah d)]++(fw n++[.p (ah pb),.p (ah pj),.i bB,.b dL])
instance{h:gn}:Ln (cm h) 4:=⟨rfl⟩
instance{n:Nat}:Ln (fw n) 5:=⟨rfl⟩
instance{h:gn}:Gt (cm h) 0 (.i h.bB):=⟨rfl⟩
instance{h:gn}:Gt (cm h) 1 (.i h.number):=⟨rfl⟩
instance{h:gn}:Gt (cm h) 2 (.i h.size):=⟨rfl⟩
instance{h:gn}:Gt (cm h) 3 (.i h.seq):=⟨rfl⟩
instance{n:Nat}:Gt (fw n) 3 (.i (2+2* dv n:Nat)):=⟨rfl⟩
instance{n:Nat}:Gt (fw n) 4 (.i n):=⟨rfl⟩
instance{d n pb pj:Nat}{bB:Int}{dL:Bool}:Gt (vC d n pb pj bB dL) 0 (.p (ah d)):=⟨rfl⟩
instance{d n pb pj:Nat}{bB:Int}{dL:Bool}:Gt (vC d n pb pj bB dL) 6 (.p (ah pb)):=⟨rfl⟩
instance{d n pb pj:Nat}{bB:Int}{dL:Bool}:Gt (vC d n pb pj bB dL) 7 (.p (ah pj)):=⟨rfl⟩
instance{d n pb pj:Nat}{bB:Int}{dL:Bool}:Gt (vC d n pb pj bB dL) 8 (.i bB):=⟨rfl⟩
instance{d n pb pj:Nat}{bB:Int}{dL:Bool}:Gt (vC d n pb pj bB dL) 9 (.b dL):=⟨rfl⟩
instance{d n pb pj:Nat}{bB:Int}{dL:Bool}:Sub (vC d n pb pj bB dL) 1 5 (fw n):=⟨rfl,λj v h=>by
 show([_]++(fw n++_))[1+j]?=some v
 rw[iJ (by simp),cO (by have:=(av.1 h).1;simpa using this)]
 simpa using h⟩
instance{d n pb pj:Nat}{bB t2:Int}{dL:Bool}:Wr (vC d n pb pj bB dL) 8 [.i t2] (vC d n pb pj t2 dL):=⟨rfl,by show 9<=10;decide,λv h=>by simp at h;subst h;rfl⟩
instance{d n pb pj:Nat}{bB:Int}{dL s2:Bool}:Wr (vC d n pb pj bB dL) 9 [.b s2] (vC d n pb pj bB s2):=⟨rfl,by show 10<=10;decide,λv h=>by simp at h;subst h;rfl⟩
abbrev VL(v d n pb pj:Nat)(m:aA)(S:VS)(R:LH):LH:=Sep.pt v (vC d n pb pj S.bB S.dL)::cR pb (bo m,[])::jP d pj S.J::gT d S.D::R
def fY(n:Nat)(m:aA)(S:VS):VS×Int:=
 if S.dL=true then(S,9)
 else if ¬gB (cL (bo m)).length<=dv n then(S,3)
 else if(put S.D n (S.bB+1) (fe S.D S.D.safe.length+1) (bs (cL (bo m)))).2≠0 then(⟨(put S.D n (S.bB+1) (fe S.D S.D.safe.length+1) (bs (cL (bo m)))).1,S.J,S.bB,true⟩,(put S.D n (S.bB+1) (fe S.D S.D.safe.length+1) (bs (cL (bo m)))).2)
 else if(tS (put S.D n (S.bB+1) (fe S.D S.D.safe.length+1) (bs (cL (bo m)))).1 (fe S.D S.D.safe.length+2) ⟨S.bB+1,fe S.D S.D.safe.length+1,((cL (bo m)).length:Int),S.J.seq⟩).2≠0 then
  (⟨(tS (put S.D n (S.bB+1) (fe S.D S.D.safe.length+1) (bs (cL (bo m)))).1 (fe S.D S.D.safe.length+2) ⟨S.bB+1,fe S.D S.D.safe.length+1,((cL (bo m)).length:Int),S.J.seq⟩).1,S.J,S.bB,true⟩,(tS (put S.D n (S.bB+1) (fe S.D S.D.safe.length+1) (bs (cL (bo m)))).1 (fe S.D S.D.safe.length+2) ⟨S.bB+1,fe S.D S.D.safe.length+1,((cL (bo m)).length:Int),S.J.seq⟩).2)
 else(⟨(tS (put S.D n (S.bB+1) (fe S.D S.D.safe.length+1) (bs (cL (bo m)))).1 (fe S.D S.D.safe.length+2) ⟨S.bB+1,fe S.D S.D.safe.length+1,((cL (bo m)).length:Int),S.J.seq⟩).1,{S.J with at':=S.J.lo},S.bB+1,S.dL⟩,0)
section
variable {W:World} {L R:LH} {K:VK} {X:WK} {v d n pb pj:Nat} {m:aA} {S:VS}
def ab6{k:Nat}(hk:k<1099511627776000)(h:T W L (K (.b (decide (gB k<=dv n))))):T W L (qa (fw n) k K):=λw hs=>Sc hs hk λw' h'=>h w' h'
def Ar{D:aZ}{which number:Int}{s:BA}:put D n which number s=eQ D (fa n which) ((fa n which+dv n:Nat):Int) number s:=rfl
def Qv{e:Int}{J2:PJ}{D2:aZ}(ht:0<=S.bB/\S.bB<1152921504606846976)
 (h1:e≠0->T W (Sep.pt v (vC d n pb pj S.bB true)::cR pb (bo m,[])::jP d pj J2::gT d D2::R) (K (.i e)))
 (h0:e=0->T W (Sep.pt v (vC d n pb pj (S.bB+1) S.dL)::cR pb (bo m,[])::jP d pj {J2 with at':=J2.lo}::gT d D2::R) (K (.i 0))):
 T W (Sep.pt v (vC d n pb pj S.bB S.dL)::cR pb (bo m,[])::jP d pj J2::gT d D2::R) (iy.j1 K (ah v) e):=by
 unfold iy.j1;apply db<;>intro g1
 ·have g1:e≠0:=by simpa using g1
  apply ws;exact h1 g1
 ·have g1:e=0:=by simpa using g1
  have e5:aa.wrap (S.bB+1)=S.bB+1:=aX (by omega);apply ws;rw[e5];apply Sa (d:=d) (r:=pj);apply ws;exact h0 g1
def Vi(iE:S.D.Ok)(Az:S.D.later.length<1000000)(nU:12<=n)(cS:n<=4096)(ht:0<=S.bB/\S.bB<1152921504606846976)
 (h:T W (VL v d n pb pj m (fY n m S).1 R) (K (.i (fY n m S).2))):T W (VL v d n pb pj m S R) (iy (ah v) K):=by
 unfold iy;refine qD (p:=pb) (b:=bo m) (hs:=[]) λhg=>?_;have Zq:=xa hg;have oS:=hg.oS;have many:=hg.many;apply ws;unfold fY at h;cases Di:S.dL with
 |true=>
  rw[ai Di] at h;rw[kZ];exact h
 |false=>
  rw[af (by rw[Di];decide)] at h;rw[dX]
  repeat' first|apply ws|apply wb|refine Hm (p:=pb) ?_
  rw[cf];refine ab6 (by omega) (sA ?_);by_cases hf:gB (cL (bo m)).length<=dv n
  ·rw[af (λhh=>hh hf)] at h;rw[aw hf,Bool.not_true,dX];obtain⟨MW,GG⟩:=xC S.D S.D.safe.length;have e1:aa.wrap (fe S.D S.D.safe.length+1)=fe S.D S.D.safe.length+1:=aX (by omega);have e2:aa.wrap (fe S.D S.D.safe.length+1+1)=fe S.D S.D.safe.length+2:=by rw[aX (by omega)];omega
   have e3:aa.wrap (S.bB+1)=S.bB+1:=aX (by omega)
   repeat' first|apply ws|apply wb|refine Gx (d:=d) iE ?_
   rw[e1,e2,e3];have gI:(bs (cL (bo m))).size<=reachBytes:=by rw[cf,Zq];unfold reachBytes;omega
   apply aaw iE nU cS (by omega) gI;have ade:(put S.D n (S.bB+1) (fe S.D S.D.safe.length+1) (bs (cL (bo m)))).1.Ok:=by
    rw[Ar];exact Li iE (by rw[cf];unfold dv at hf;omega)
   have adw:(put S.D n (S.bB+1) (fe S.D S.D.safe.length+1) (bs (cL (bo m)))).1.later.length<1010000:=by
    rw[Ar];have:=NW (D:=S.D) (at':=(fa n (S.bB+1):Nat)) (toX:=((fa n (S.bB+1)+dv n:Nat):Int)) (number:=fe S.D S.D.safe.length+1) (s:=bs (cL (bo m))) iE (by rw[cf];unfold dv at hf;omega);rw[cf] at this;unfold dv at hf;omega
   generalize put S.D n (S.bB+1) (fe S.D S.D.safe.length+1) (bs (cL (bo m)))=P1 at h ade adw⊢;generalize fe S.D S.D.safe.length=G at h⊢;apply ws;apply db<;>intro g1
   ·have g1:P1.2=0:=by simpa using g1
    rw[af (by omega)] at h
    repeat' first|apply ws|apply wb|refine aaY (d:=d) (r:=pj) ?_
    rw[e3];show T W _ (uy (ah d) (G+2) (cm (⟨S.bB+1,G+1,((cL (bo m)).length:Int),S.J.seq⟩:gn)) _);apply abM ade (by omega);generalize tS P1.1 (G+2) (⟨S.bB+1,G+1,((cL (bo m)).length:Int),S.J.seq⟩:gn)=P2 at h⊢;apply ws;refine Qv (S:=S) ht (λhe=>?_) (λhe=>?_)
    ·rw[ai he] at h;exact h
    ·rw[af (by omega)] at h;exact h
   ·have g1:P1.2≠0:=by simpa using g1
    rw[ai g1] at h;refine Qv (S:=S) ht (λhe=>?_) (λhe=>aQ he g1);exact h
  ·rw[ai hf] at h;rw[aq hf,OQ,kZ];exact h
end
def oW(S:VS)(s:BA):VS×Int:=
 (⟨(tT S.D S.J (fe S.D S.D.safe.length+1) s).1,(tT S.D S.J (fe S.D S.D.safe.length+1) s).2.1,S.bB,S.dL||(tT S.D S.J (fe S.D S.D.safe.length+1) s).2.2==8⟩,(tT S.D S.J (fe S.D S.D.safe.length+1) s).2.2)
def ja(n:Nat)(m:aA)(S:VS)(s:BA):VS×Int:=
 if room S.J s.size then oW S s else if(fY n m S).2≠0 then fY n m S else oW (fY n m S).1 s
def zL(n:Nat)(m:aA)(S:VS)(q:jY):VS×aA×Int×List Int:=
 if j0 q=false then(S,m,1,[])
 else if S.dL=true then(S,m,9,[])
 else if(ja n m S (bs (dN q))).2≠0 then((ja n m S (bs (dN q))).1,m,(ja n m S (bs (dN q))).2,[])
 else((ja n m S (bs (dN q))).1,(bn m q).2.2,(bn m q).1,(bn m q).2.1)
structure JV(S:VS):Prop where
 ok:S.D.Ok
 oS:S.D.later.length<1000000
 yc:S.J.Ok S.D
 bB:0<=S.bB/\S.bB<1152921504606846976
section
variable {W:World} {L R:LH} {K:VK} {X:WK} {v d n pb pj:Nat} {m:aA} {S:VS} {s:BA} {q:jY} {sl:vH}
def T.eng{A B C D E F G:HP}(h:T W (B::C::A::D::E::R) X):T W (A::B::C::D::E::F::G::R) X:=
 T.perm (L:=B::C::A::D::E::F::G::R) (T.sub h (by exact pX)) (bt (l₁:=[A]) (l₂:=[B,C])|>.append_right _)
def Vz(hS:JV S)(hs:s.size<=reachBytes)(h:T W (VL v d n pb pj m (oW S s).1 R) (K (.i (oW S s).2))):T W (VL v d n pb pj m S R) (jA.j1 K (ah v) s):=by
 unfold jA.j1;obtain⟨MW,GG⟩:=xC S.D S.D.safe.length;have e1:aa.wrap (fe S.D S.D.safe.length+1)=fe S.D S.D.safe.length+1:=aX (by omega)
 repeat' first|apply ws|apply wb|refine Gx (d:=d) hS.ok ?_
 rw[e1];refine T.perm (L:=jP d pj S.J::gT d S.D::Sep.pt v (vC d n pb pj S.bB S.dL)::cR pb (bo m,[])::R) ?_ (bt (l₁:=[_,_]) (l₂:=[_,_])|>.append_right R);apply aaZ hS.yc hS.ok hS.oS hs;unfold oW at h;generalize tT S.D S.J (fe S.D S.D.safe.length+1) s=A at h⊢;refine T.perm (L:=Sep.pt v (vC d n pb pj S.bB S.dL)::cR pb (bo m,[])::jP d pj A.2.1::gT d A.1::R) ?_ (bt (l₁:=[_,_]) (l₂:=[_,_])|>.append_right R);cases Di:S.dL with
 |true=>
  rw[Di,Bool.true_or] at h;apply ws;exact h
 |false=>
  rw[Di,Bool.false_or] at h;apply ws;exact h
def aeN(hS:JV S)(XO:JV (fY n m S).1)(nU:12<=n)(cS:n<=4096)(hs:s.size<=100000)(h:T W (VL v d n pb pj m (ja n m S s).1 R) (K (.i (ja n m S s).2))):T W (VL v d n pb pj m S R) (jA (ah v) s K):=by
 have hsr:s.size<=reachBytes:=by unfold reachBytes;omega
 unfold jA;apply ws;apply Xn (d:=d) (r:=pj) (D:=S.D) hS.yc hS.ok;unfold ja at h;by_cases hr:room S.J s.size
 ·rw[ai hr] at h;rw[aw hr];apply ws;exact Vz hS hsr h
 ·rw[af hr] at h;rw[aq hr];apply ws;apply Vi hS.ok hS.oS nU cS hS.bB;apply ws;apply db<;>intro g1
  ·have g1:(fY n m S).2≠0:=by simpa using g1
   rw[ai g1] at h;exact h
  ·have g1:(fY n m S).2=0:=by simpa using g1
   rw[af (by omega)] at h;exact Vz XO hsr h
def KR(hw:j0 q=true)(he:fW q=true):(dN q).length<=2000:=by
 have Lz:q.op=1\/q.op=2\/q.op=3:=aS he;have hf:=mE hw;unfold dN;rw[au,aP];split
 ·rw[au,aP,dE nD];omega
 ·split
  ·rw[au,aP,dE oK];omega
  ·split
   ·rw[aP];omega
   ·omega
def Z'(G:qi W)(hg:Md.bS m)(hS:JV S)(XO:JV (fY n m S).1)(nU:12<=n)(cS:n<=4096)(hq:oq W R q sl)(hA:∀a∈q.aB,yi a)(hT:∀t∈q.bQ,yf t)(AT:q.aB.length<1000000)(cj:q.bQ.length<1000000)(he:fW q=true)
 (h:∀rb rc,Md.bS (zL n m S q).2.1->T W (own rb (zL n m S q).2.2.2.length rc 1 ((zL n m S q).2.2.2.flatMap I1)::VL v d n pb pj (zL n m S q).2.1 (zL n m S q).1 R) (K (.agg ⟨nX (zL n m S q).2.2.1 rb (zL n m S q).2.2.2.length rc none 0 0 none 0 0⟩))):
 T W (VL v d n pb pj m S R) (mQ (ah v) (fU q sl) K):=by
 unfold mQ
 repeat' first|apply ws;intros|apply wb|refine CL ?_
 rw[he];apply ws;refine SB (R:=R) hq AT cj (λhw=>?_) (λhw=>?_)
 ·apply ws;unfold zL at h;rw[af (by rw[hw];decide)] at h;apply eO (by decide);apply ws;cases Di:S.dL with
  |true=>
   rw[ai Di] at h;apply ws;refine iR (e:=1) ?_;apply T.sub (h none 0 hg)
   repeat (first|exact bl.refl _|apply bl.cons_cons|apply bl.cons)
  |false=>
   rw[af (by rw[Di];decide)] at h;rw[dX];have hrl:=KR hw he;have V4:q.op=2->∀t∈q.bQ,TOk t:=λho t ht=>⟨hT t ht,by
    have hf:=mE hw
    have:∀a∈q.bQ,kB a:=by rcases hf with h|h|h|h|h<;>first|exact h.2.2|omega
    exact this t ht⟩
   refine T.perm (L:=VL v d n pb pj m S (_::_::R)) ?_ (bt (l₁:=[_,_]) (l₂:=[_,_,_,_])|>.append_right R);refine aeN hS XO nU cS (by rw[cf];omega) ?_;generalize ja n m S (bs (dN q))=A at h⊢;apply ws;apply db<;>intro g1
   ·have g1:A.2≠0:=by simpa using g1
    rw[ai g1] at h;apply ws;refine iR (e:=1) ?_;apply T.sub (h none 0 hg)
    repeat (first|exact bl.refl _|apply bl.cons_cons|apply bl.cons)
   ·have g1:A.2=0:=by simpa using g1
    rw[af (by omega)] at h;apply ws;apply T.Ns;refine L1 G hg ⟨hq.aB.mono,hq.bQ.mono,hq.ids.mono,hq.ca,hq.ct,hq.ci⟩ (λ_=>hA) V4 λrb rc GG=>?_;apply ws;have fin:=h rb rc GG;exact T.eng fin
 ·apply ws;unfold zL at h;rw[ai hw] at h;refine kL (by decide) ?_;apply ws;refine iR (e:=1) ?_;apply T.sub (h none 0 hg)
  repeat (first|exact bl.refl _|apply bl.cons_cons|apply bl.cons)
end
section
variable {W:World} {L R:LH} {K:VK} {X:WK} {v d n pb pj:Nat} {m:aA} {S:VS} {s:BA} {q:jY} {sl:vH}
def T.ask{O1 O2 B V J D F G:HP}(h:T W (O1::O2::V::B::J::D::R) X):T W (O1::O2::B::V::J::D::F::G::R) X:=
 T.perm (L:=O1::O2::V::B::J::D::F::G::R) (T.sub h (by exact pX)) (bX.append_left [O1,O2] (bX.swap _ _ _))
def T.in2{F G V B J D:HP}(h:T W (B::V::J::D::F::G::R) X):T W (F::G::V::B::J::D::R) X:=
 T.perm h ((bt (l₁:=[F,G]) (l₂:=[V,B,J,D])|>.append_right R).trans (bX.swap _ _ _))
def aab(hq:oq W R q sl)(he:fW q=false)
 (h:∀ab ac tb tc,T W (own ab (ask m q).2.1.length ac 14 ((ask m q).2.1.flatMap aO)::own tb (ask m q).2.2.length tc 16 ((ask m q).2.2.flatMap aM)::VL v d n pb pj m S R) (K (.agg ⟨nX (ask m q).1 none 0 0 ab (ask m q).2.1.length ac tb (ask m q).2.2.length tc⟩))):
 T W (VL v d n pb pj m S R) (mQ (ah v) (fU q sl) K):=by
 unfold mQ
 repeat' first|apply ws;intros|apply wb|refine CL ?_
 rw[he];apply ws;apply T.in2;refine aeL ⟨hq.aB.mono,hq.bQ.mono,hq.ids.mono,hq.ca,hq.ct,hq.ci⟩ λab ac tb tc=>?_;apply ws;exact T.ask (h ab ac tb tc)
def Wa(h:T W (VL v d n pb pj m S R) (K (.b S.dL))):T W (VL v d n pb pj m S R) (ql (ah v) K):=by
 unfold ql;apply ws;exact h
def SJ(h:∀p,T W (cR p (bo m,[])::VL v d n pb pj m S R) (K (.p (ah p)))):T W (VL v d n pb pj m S R) (pO (ah v) K):=by
 refine qD (p:=pb) (b:=bo m) (hs:=[]) λhg=>?_;unfold pO
 repeat' first|apply ws|apply wb|refine Hm (p:=pb) ?_
 refine KB hg λp=>?_;apply ws;exact h p
end
def nZ:aA:=⟨[],[],0,0⟩
def FW:fk (bo nZ):=⟨List.nodup_nil,List.nodup_nil,(by show 0<=32;decide),(by show 0<=96;decide),λa h=>(by cases h),λa h=>(by cases h),List.Pairwise.nil,λa h=>(by cases h),(by show(0:Int)<=0/\(0:Int)<=1099511627776;decide),rfl⟩
def od:Md.bS nZ:=⟨λa h=>(by cases h),List.nodup_nil,(by show 0<=32;decide),List.nodup_nil,λa h=>(by cases h),λa h=>(by cases h),(by show 0<=96;decide),λa h=>(by cases h),λa h=>(by cases h),λa h=>(by cases h)⟩
def zU(h:gn):∀v∈cm h,v.oneCell'=true:=λv hv=>by simp[cm] at hv;rcases hv with rfl|rfl|rfl|rfl<;>rfl
instance{x1 x2 x3 x4:Value}{h:gn}:Wr [x1,x2,x3,x4] 0 (cm h) (cm h):=⟨rfl,aF _,zU h⟩
instance{h:gn}:Sub (cm h) 0 4 (cm h):=⟨rfl,λj v h=>by rw[aD];exact h⟩
def GX(n:Nat):∀v∈fw n,v.oneCell'=true:=λv hv=>by simp[fw] at hv;rcases hv with rfl|rfl|rfl|rfl|rfl<;>rfl
instance{x1 x2 x3 x4 x5:Value}{n:Nat}:Wr [x1,x2,x3,x4,x5] 0 (fw n) (fw n):=⟨rfl,aF _,GX n⟩
instance{n:Nat}:Sub (fw n) 0 5 (fw n):=⟨rfl,λj v h=>by rw[aD];exact h⟩
def ab7(D:aZ)(n:Nat)(hd:gn)(mb:aA):Prop:=
 (Bx (AN D 0) (AN D 1)=none/\hd=Ew/\mb=nZ)\/(Bx (AN D 0) (AN D 1)=some hd/\get D n hd.bB hd.number hd.size=some (cL (bo mb)))
section
variable {W:World} {L R:LH} {K:VK} {X:WK} {v d n pb pj:Nat} {D:aZ} {f:aZ->LH} {mb:aA} {hd:gn}
def Yq(h:∀p,T W (cR p (bo nZ,[])::L) (K (.p (ah p)))):T W L (uC K):=by
 refine UZ λp la lk ti tn=>?_;intro w7 hw7;have h2:=hw7.push (A:=vV []) trivial;refine Em (p:=p) (la:=la) (lk:=lk) (ti:=ti) (tn:=tn) (vs:=[]) (bx:=[]) (c:=fN (bo nZ)) (hs:=[]) (R:=L) trivial (λw hw=>h p w (St.and_intro FW hw)) w7 ?_;exact h2.perm (bt (l₁:=[vV []]) (l₂:=[_,_,_,_,_])|>.append_right L)
def Wd[i:Lc (gT d) L D f](iE:D.Ok)(nU:12<=n)(cS:n<=4096)(hb:ab7 D n hd mb)(hg:fk (bo mb))(h:∀pb,T W (cR pb (bo mb,[])::L) (K (.tuple ⟨[.p (ah pb),.agg ⟨cm hd⟩,.i 0]⟩))):
 T W L (wX (ah d) (fw n) K):=by
 unfold wX;apply ws;intros;apply Vp iE;rcases hb with⟨h1,rfl,rfl⟩|⟨h1,h2⟩
 ·rw[h1];unfold qx;apply ws;intros;refine Yq λp=>?_;apply ws;apply S4 (n:=4) (xs:=cm Ew);apply ws;apply T.sub (h p);exact pX
 ·rw[h1];unfold qx;apply ws;intros;apply aax iE nU cS;rw[h2];unfold sV;apply ws;refine KB hg λp=>?_;apply ws;apply T.sub (h p);exact pX
end
structure Gu(q:jY):Prop where
 yV:j0 q=true
 writes:fW q=true
 aB:∀a∈q.aB,yi a
 bQ:∀t∈q.bQ,yf t
def zB(m:aA)(qs:List jY):aA:=qs.foldl (λm q=>(bn m q).2.2) m
def Hu(m:aA)(qs:List jY)(q:jY):zB m (qs++[q])=(bn (zB m qs) q).2.2:=by unfold zB;rw[List.foldl_append];rfl
def G5{m0:aA}:∀(k:Nat)(m:aA),Da m0.clock m.ax=k->Md.bS m->YC m0 m->Md.bS {m0 with ax:=m0.ax.map (F2 m0.clock)}:=by
 intro k
 induction k using Nat.strongRecOn with
 |_ k ih=>
  intro m hk hg hx;by_cases hn:∀x∈(bo m).ax,¬nr (bo m).clock x
  ·have:=HJ (rY m) hx hn;rw[<-this];exact hg
  ·have:∃x,x∈(bo m).ax/\nr (bo m).clock x:=by
    by_cases he:∃x,x∈(bo m).ax/\nr (bo m).clock x
    ·exact he
    ·exact aQ (λx hx ho=>he ⟨x,hx,ho⟩) hn
   obtain⟨x,hxm,ho⟩:=this;obtain⟨-,-,m',fC,XF,hx',AU⟩:=HI (rY m) hg hx hxm ho;exact ih _ (by omega) m' rfl XF hx'
def C0{m:aA}(hg:Md.bS m)(now:Int):Md.bS (m.time now):=by
 rw[IH];exact G5 _ (uI m now) rfl (DA hg now) (YC.refl _)
def Mi{q:jY}:(∀a∈(canon q).aB,a∈q.aB)/\(∀t∈(canon q).bQ,t∈q.bQ)/\(canon q).aB.length<=q.aB.length/\(canon q).bQ.length<=q.bQ.length:=by
 unfold canon;split
 ·exact⟨λa h=>h,λt h=>(by cases h),aF _,aE _⟩
 ·split
  ·exact⟨λa h=>(by cases h),λt h=>h,aE _,aF _⟩
  ·exact⟨λa h=>(by cases h),λt h=>(by cases h),aE _,aE _⟩
def td{m:aA}(hg:Md.bS m)(q:jY):Md.bS (bn m q).2.2:=by
 unfold bn;split
 ·exact hg
 ·split
  ·exact(KE hg _ _).2.2
  ·split
   ·exact(Pd hg _ _).2.2
   ·exact C0 hg _
section
variable {W:World} {L R:LH} {K:VK} {X:WK} {v d n pb pj:Nat} {D:aZ} {f:aZ->LH} {mb:aA} {hd:gn} {qs:List jY}
def oq.two{Y A:HP}{q:jY}{s:vH}(hq:∀L',oq W (A::L') q s):oq W (Y::A::L) q s:=⟨(hq L).aB.mono,(hq L).bQ.mono,(hq L).ids.mono,(hq L).ca,(hq L).ct,(hq L).ci⟩
def T.acO{V O J H B P Dk:HP}(h:T W (B::V::J::Dk::O::R) X):T W (V::O::J::H::B::P::Dk::R) X:=
 T.perm (L:=B::V::J::Dk::O::H::P::R) (T.sub h (by exact pX)) (by
  have e1:([V,O,J,H,B,P,Dk]:LH).Perm (B::[V,O,J,H,P,Dk]):=iI (l₁:=[V,O,J,H]) (l₂:=[P,Dk])
  have e2:([O,J,H,P,Dk]:LH).Perm (J::[O,H,P,Dk]):=iI (l₁:=[O]) (l₂:=[H,P,Dk])
  have e3:([O,H,P,Dk]:LH).Perm (Dk::[O,H,P]):=iI (l₁:=[O,H,P]) (l₂:=[])
  exact(e1.trans (bX.cons _ (bX.cons _ (e2.trans (bX.cons _ e3))))).append_right R)
def Wc(G:qi W)(iE:D.Ok)(nU:12<=n)(cS:n<=4096)(hlen:D.safe.length=n)(hb:ab7 D n hd mb)(hg:fk (bo mb))(rC:Md.bS mb)(G0:0<=hd.seq/\hd.seq<=1152921504606846976)
 (DN:(kT D n (2+2* dv n:Nat) hd.seq).1=qs.map dN)(hqs:∀q∈qs,Gu q)
 (h:∀v pb pj,Md.bS (zB mb qs)->T W (VL v d n pb pj (zB mb qs) ⟨D,⟨(2+2* dv n:Nat),n,(kT D n (2+2* dv n:Nat) hd.seq).2.1,(kT D n (2+2* dv n:Nat) hd.seq).2.2,false⟩,hd.bB,false⟩ R) (K (.tuple ⟨[.p (ah v),.i 0]⟩))):
 T W (gT d D::R) (mR (ah d) K):=by
 unfold mR;have T5:2+2* dv n<n:=by unfold dv;omega
 repeat' first|apply ws|apply wb|refine Iz (d:=d) ?_
 rw[hlen];apply aeO nU cS;apply ws;intros;apply eO (by decide);apply ws;refine Wd (mb:=mb) (hd:=hd) iE nU cS hb hg λpb=>?_;apply ws;intros;apply eO (by decide);apply ws;refine Xo (D:=D) iE (by rw[hlen];omega) G0 λpj bb c hex=>?_;apply ws;apply eO (by decide);apply ws;intros;rename_i v;rw[DN];apply T.acO;rw[bY];have hql:qs.length<=4096:=by obtain⟨n',h1,h2,-⟩:=hex;rw[DN,bY] at h2;omega
 intro w HY;refine⟨λvv w=>∃i:Nat,i<=qs.length/\vv=[.p none,.i 0,.p (ah pb),.p (some (ad v 0)),.l bb qs.length c,.i (qs.length:Int),.i (i:Int)]/\Md.bS (zB mb (qs.take i))/\
  St W w (cR pb (bo (zB mb (qs.take i)),[])::Sep.pt v (vC d n pb pj hd.bB false)::jP d pj ⟨(2+2* dv n:Nat),n,(kT D n (2+2* dv n:Nat) hd.seq).2.1,(kT D n (2+2* dv n:Nat) hd.seq).2.2,false⟩::gT d D::own bb qs.length c 1 ((qs.map dN).map GS)::R),
  λvs _=>match vs with|[_,_,_,_,_,_,.int _ k]=>qs.length-k.toNat|_=>0,⟨0,aE _,rfl,rC,HY⟩,?_⟩
 rintro p4 n9 p5 a1 jJ iX jV Zl MK w2 ⟨i,hi,e,hgi,gI⟩;cases e
 refine T.at ?_ gI;have e5:=m9 i;apply fZ<;>intro g1
 ·have cj:i<qs.length:=by omega
  have gx:=aj cj;have gq:=hqs _ (cb cj);have rB:qs.take (i+1)=qs.take i++[qs[i]]:=by rw[ba,gx];rfl
  generalize qs[i]=q at gx gq rB;have adB:=Cl gq.yV gq.writes gq.aB gq.bQ;have hcg:=Gb gq.yV gq.writes;refine dT (b:=bb) ⟨by omega,by omega⟩ λrb hb=>?_;subst hb;rw[ak,mm];refine SW (v:=GS (dN q)) (by rw[dU,dU,gx];rfl) ?_;unfold GS;apply wc;refine A2 (by have:=KR gq.yV gq.writes;omega) (λzG=>by rw[C8 gq.yV gq.writes gq.aB gq.bQ] at zG;cases zG) (λ_ A sl hq=>?_);rw[adB] at hq⊢;dsimp only at hq⊢;apply ws;intros;apply eO (by decide)
  repeat' first|apply ws|apply wb|refine CL ?_
  rw[hcg.2];unfold mR.j1;apply ws;apply T.aaE;have Js:=Mi (q:=q);have V4:(canon q).op=2->∀t∈(canon q).bQ,TOk t:=λho t ht=>⟨gq.bQ t (Js.2.1 t ht),by
   have hf:=mE hcg.1
   have:∀a∈(canon q).bQ,kB a:=by rcases hf with h|h|h|h|h<;>first|exact h.2.2|omega
   exact this t ht⟩
  have FN:=Ga (zB mb (qs.take i)) gq.writes;refine L1 G hgi (oq.two hq) (λ_ a ha=>gq.aB a (Js.1 a ha)) V4 λrb2 rc2 GG=>?_;apply ws;rw[FN.1] at GG⊢;rw[e5];have hre:zB mb (qs.take (i+1))=(bn (zB mb (qs.take i)) q).2.2:=by rw[rB,Hu]
  refine T.sub (M:=cR pb (bo (bn (zB mb (qs.take i)) q).2.2,[])::Sep.pt v (vC d n pb pj hd.bB false)::jP d pj ⟨(2+2* dv n:Nat),n,(kT D n (2+2* dv n:Nat) hd.seq).2.1,(kT D n (2+2* dv n:Nat) hd.seq).2.2,false⟩::gT d D::own (ah rb) qs.length c 1 ((qs.map dN).map GS)::R) (λw3 h3=>?_) ?_
  ·exact⟨⟨i+1,cj,rfl,by rw[hre];exact GG,by rw[hre];exact h3⟩,dn (by omega)⟩
  ·repeat (first|exact bl.refl _|apply bl.cons_cons|apply bl.cons)
 ·have iO:i=qs.length:=by omega
  subst iO;rw[aV] at hgi⊢;have fin:=h v pb pj hgi;apply T.Ns;apply T.sub fin;exact pX
end
end Go.Up
namespace Go.Up
open Go.Md
def Me(t:cx):mM t≠1:=by
 unfold mM
 repeat' split
 all_goals omega
def Gp(t b:cx):qf t b≠1:=by unfold qf;split<;>decide
def OF(t:cx)(d c:bN):(cN t d c).2≠1:=by
 unfold cN;dsimp only;by_cases h1:has t.ao 16/\(if has t.ao 16 then min (if t.aT=0 then bJ-1 else t.aT) (iU d true) else if t.aT=0 then bJ-1 else t.aT)=0
 ·rw[ai h1];simp
 ·rw[af h1];by_cases h2:has t.ao 32/\(if has t.ao 32 then min (if has t.ao 16 then min (if t.aT=0 then bJ-1 else t.aT) (iU d true) else if t.aT=0 then bJ-1 else t.aT) (iU c false) else if has t.ao 16 then min (if t.aT=0 then bJ-1 else t.aT) (iU d true) else if t.aT=0 then bJ-1 else t.aT)=0
  ·rw[ai h2];simp
  ·rw[af h2];simp
def Lg(a:bN)(b:Bool)(n:Nat)(p:Bool):(more a b n p).2≠1:=by
 unfold more
 repeat' split
 all_goals simp
def NT(t:cx)(named:Option cr)(d c:Option bN)(many:Nat):(iT t named d c many).1≠1:=by
 unfold iT;have h1:=Me t;split
 ·exact h1
 split
 ·simp
 cases named with
 |some k=>exact Gp _ _
 |none=>
  cases d with
  |none=>simp
  |some d=>
   cases c with
   |none=>simp
   |some c=>
    have h2:=OF t d c;have h3:=Lg d true (cN t d c).1 (decide (has t.ao 2));have h4:=Lg c false (cN t d c).1 (decide (has t.ao 2));dsimp only
    repeat' split
    all_goals first|exact h2|exact h3|exact h4|(dsimp only;decide)
def CJ(t:cx)(named pend:Option cr)(d c:Bool)(many:Nat):kM t named pend d c many≠1:=by
 unfold kM;have h1:=Me t;split
 ·exact h1
 split
 ·decide
 cases named with
 |some k=>exact Gp _ _
 |none=>
  cases pend with
  |none=>dsimp only;decide
  |some k=>
   dsimp only
   repeat' split
   all_goals first|decide|omega
def xH(t:cx)(named:Option cr)(d c:Bool)(many:Nat):kM t named none d c many≠0:=by
 unfold kM;split
 ·assumption
 split
 ·decide
 cases named with
 |some k=>exact qz _ _
 |none=>dsimp only;decide
def X'{m:aA}(t:cx):(m.lO t).1≠1/\((m.lO t).1=0->(m.lO t).2.ax.length=m.ax.length+1):=by
 unfold aA.lO;split
 ·unfold aA.oT;cases hi:m.name t.pending with
  |none=>
   dsimp only;exact⟨CJ t _ _ _ _ _,λh=>aQ h (xH t _ _ _ _)⟩
  |some i=>
   dsimp only;cases hk:m.ax[i]? with
   |none=>
    dsimp only;exact⟨CJ t _ _ _ _ _,λh=>aQ h (xH t _ _ _ _)⟩
   |some k=>
    obtain⟨cj,ek⟩:=av.1 hk;dsimp only;by_cases h1:kM t (m.named t.id) (some k) (m.closed k.move.bC i) (m.closed k.move.aU i) m.ax.length≠0
    ·rw[ai h1];dsimp only;exact⟨CJ t _ _ _ _ _,λh=>aQ h h1⟩
    ·rw[af h1];refine⟨by simp,λ_=>?_⟩;show((m.eS i _).ax++[_]).length=_;rw[qb cj,au,iH];rfl
 ·unfold aA.move;dsimp only;by_cases h1:(iT t (m.named t.id) ((m.find t.bC).map m.full) ((m.find t.aU).map m.full) m.ax.length).1≠0
  ·rw[ai h1];dsimp only;exact⟨NT t _ _ _ _,λh=>aQ h h1⟩
  ·rw[af h1];refine⟨by simp,λ_=>?_⟩;show(m.ax++[_]).length=_;rw[au];rfl
def fO(l:List Int):Nat:=l.countP (·==0)
def wT(a b:List Int):fO (a++b)=fO a+fO b:=by unfold fO;rw[List.countP_append]
def Eu(n:Nat):fO (ga n none)=n:=by
 unfold fO ga;rw[List.countP_eq_length.2 λx hx=>by rw[(List.mem_replicate.1 hx).2];rfl,iF]
def Ac{n i:Nat}{c:Int}(hc:c≠0):fO (ga n (some (i,c)))=0:=by
 unfold fO ga;refine List.countP_eq_zero.2 λx hx=>?_;rcases fm hx with h|h
 ·rw[(List.mem_replicate.1 h).2];decide
 ·rw[h];simpa using hc
def CM:∀(l:List cx)(m:aA)(i:Nat),(match gL aA.lO m l i with
 |(none,m')=>m'.ax.length=m.ax.length+l.length
 |(some (j,c),_)=>i<=j/\j<i+l.length/\c≠0/\c≠1)
 |[],m,i=>by simp[gL]
 |t::l,m,i=>by
  have h1:=X' (m:=m) t;unfold gL;by_cases hz:(m.lO t).1≠0
  ·rw[ai hz];exact⟨aF _,by rw[aW];omega,hz,h1.1⟩
  ·rw[af hz];have ih:=CM l (m.lO t).2 (i+1);have h2:=h1.2 (by simpa using hz);generalize gL aA.lO (m.lO t).2 l (i+1)=r at ih⊢
   match r,ih with
   |(none,m'),ih=>show m'.ax.length=_;rw[aW];have:m'.ax.length=_:=ih;omega
   |(some (j,c),m'),ih=>
    obtain⟨a1,a2,a3,a4⟩:=(show i+1<=j/\j<i+1+l.length/\c≠0/\c≠1 from ih);exact⟨by omega,by rw[aW];omega,a3,a4⟩
def Ch(lk:cx->Bool):∀(n:Nat)(m:aA)(l:List cx),(eW aA.lO lk n m l).2.ax.length=m.ax.length+fO (eW aA.lO lk n m l).1
 |0,m,l=>rfl
 |n+1,m,[]=>rfl
 |n+1,m,x::l=>by
  rw[eW];by_cases hw:(bI lk (x::l)).2=false
  ·rw[ai hw];dsimp only;rw[Ac (by decide)];rfl
  rw[af hw];have hd:=CM ((x::l).take (bI lk (x::l)).1) m 0;have hle:=sO (linked:=lk) (x::l);generalize gL aA.lO m ((x::l).take (bI lk (x::l)).1) 0=r at hd⊢
  match r,hd with
  |(none,m'),hd=>
   have hd:m'.ax.length=_:=hd;dsimp only;rw[wT,Eu,Ch lk n m',hd,aC,nA hle];omega
  |(some (j,c),m'),hd=>
   obtain⟨_,_,a3,a4⟩:=hd;dsimp only;rw[wT,Ac a3,Ch lk n m];omega
def xf{α σ:Type}(f:σ->α->Int×σ)(lk:α->Bool):∀(n:Nat)(s:σ)(l:List α),(eW f lk n s l).1.length<=l.length
 |0,s,l=>aE _
 |n+1,s,[]=>aE _
 |n+1,s,x::l=>by
  have hle:=sO (linked:=lk) (x::l);have hd:((x::l).drop (bI lk (x::l)).1).length=(x::l).length-(bI lk (x::l)).1:=aR;rw[eW];by_cases hw:(bI lk (x::l)).2=false
  ·rw[ai hw];dsimp only;rw[iA];exact hle
  rw[af hw];cases gL f s ((x::l).take (bI lk (x::l)).1) 0 with
  |mk o s'=>
   cases o with
   |none=>
    have:=xf f lk n s' ((x::l).drop (bI lk (x::l)).1);dsimp only;rw[au,iA];omega
   |some e=>
    have:=xf f lk n s ((x::l).drop (bI lk (x::l)).1);dsimp only;rw[au,iA];omega
def tI(lk:cx->Bool):∀l:List cx,l≠[]->1<=(bI lk l).1/\(bI lk l).1<=l.length/\((bI lk l).2=false->(bI lk l).1=l.length)
 |[],h=>aQ rfl h
 |x::l,_=>by
  unfold bI;split
  ·dsimp only;cases l with
   |nil=>simp[bI]
   |cons y l=>
    obtain⟨h1,h2,h3⟩:=tI lk (y::l) (by simp);refine⟨by omega,by rw[aW];omega,λh=>?_⟩;rw[aW,h3 h]
  ·exact⟨aF _,by rw[aW];omega,λh=>by cases h⟩
def Hp(lk:cx->Bool)(k:Nat)(m:aA)(l:List cx)(jW:l≠[]):∃o m',(eW aA.lO lk (k+1) m l).1=ga (bI lk l).1 o++(eW aA.lO lk k m' (l.drop (bI lk l).1)).1/\
 (∀i c,o=some (i,c)->i<(bI lk l).1/\c≠0/\c≠1)/\((bI lk l).2=false->o=some ((bI lk l).1-1,2)):=by
 obtain⟨c1,c2,c3⟩:=tI lk l jW;cases l with
 |nil=>exact aQ rfl jW
 |cons x l=>
  rw[eW];by_cases hw:(bI lk (x::l)).2=false
  ·rw[ai hw];refine⟨some ((bI lk (x::l)).1-1,2),m,?_,λi c h=>?_,λ_=>rfl⟩
   ·rw[c3 hw,Hc];have:(eW aA.lO lk k m []).1=[]:=by cases k<;>rfl
    rw[this,bO]
   ·cases h
    exact⟨by omega,by decide,by decide⟩
  ·rw[af hw];have hd:=CM ((x::l).take (bI lk (x::l)).1) m 0;generalize gL aA.lO m ((x::l).take (bI lk (x::l)).1) 0=r at hd⊢
   match r,hd with
   |(none,m'),_=>exact⟨none,m',rfl,λi c h=>(by cases h),λh=>aQ h hw⟩
   |(some (j,c),m'),hd=>
    obtain⟨_,a2,a3,a4⟩:=hd;refine⟨some (j,c),m,rfl,λi c' h=>?_,λh=>aQ h hw⟩;cases h
    rw[aC,nA c2] at a2;exact⟨by omega,a3,a4⟩
def Ak{σ α:Type}{f:σ->α->Int×σ}{lk:α->Bool}:∀(n:Nat)(s:σ)(l:List α),l.length<=n->(∀x∈l,lk x=false)->(eW f lk n s l)=(match l with
 |[]=>([],s)
 |x::r=>((f s x).1::(eW f lk (n-1) (if(f s x).1=0 then(f s x).2 else s) r).1,(eW f lk (n-1) (if(f s x).1=0 then(f s x).2 else s) r).2))
 |0,s,[],_,_=>rfl
 |0,s,x::l,h,_=>by simp at h
 |n+1,s,[],_,_=>rfl
 |n+1,s,x::l,h,hl=>by
  have hx:=hl x pL;have hc:bI lk (x::l)=(1,true):=by unfold bI;rw[hx];rfl
  rw[eW,hc,af (by simp)];dsimp only;rw[show(x::l).take 1=[x] from rfl,show(x::l).drop 1=l from rfl];unfold gL;by_cases hz:(f s x).1≠0
  ·rw[ai hz,af hz]
   rfl
  ·rw[af hz,ai (by simpa using hz)];unfold gL;dsimp only;have:(f s x).1=0:=by simpa using hz
   rw[this]
   rfl
def vP{σ α:Type}{f:σ->α->Int×σ}{lk:α->Bool}:∀(n:Nat)(s:σ)(l:List α),l.length<=n->(∀x∈l,lk x=false)->(eW f lk n s l).1.length=l.length
 |0,s,[],_,_=>rfl
 |0,s,x::l,h,_=>by simp at h
 |n+1,s,[],_,_=>rfl
 |n+1,s,x::l,h,hl=>by
  rw[Ak (n+1) s (x::l) h hl];dsimp only;rw[aW,aW,Nat.add_sub_cancel,vP n _ l (by simpa using h) λy hy=>hl y (fJ _ hy)]
def Am{σ α:Type}{f:σ->α->Int×σ}{lk:α->Bool}{s:σ}:∀(n:Nat)(l:List α),l.length<=n->(∀x∈l,lk x=false)->(∀x∈l,(f s x).1=10)->eW f lk n s l=(l.map λ_=>10,s)
 |0,[],_,_,_=>rfl
 |0,x::l,h,_,_=>by simp at h
 |n+1,[],_,_,_=>rfl
 |n+1,x::l,h,hl,hx=>by
  have e:=hx x pL;rw[Ak (n+1) s (x::l) h hl];dsimp only;rw[e,af (by decide),Nat.add_sub_cancel,Am n l (by simpa using h) (λy hy=>hl y (fJ _ hy)) (λy hy=>hx y (fJ _ hy))]
  rfl
def Al{σ α:Type}{f:σ->α->Int×σ}{lk:α->Bool}{P:α->σ->Prop}(hP:∀s x,(f s x).1=0->P x (f s x).2)(hk:∀s x y,P y s->P y (f s x).2):∀(n:Nat)(s:σ)(l:List α),l.length<=n->(∀x∈l,lk x=false)->
 (∀c∈(eW f lk n s l).1,c=0)->(∀x∈l,P x (eW f lk n s l).2)/\∀y,P y s->P y (eW f lk n s l).2
 |0,s,[],_,_,_=>⟨λx h=>(by cases h),λy h=>h⟩
 |0,s,x::l,h,_,_=>by simp at h
 |n+1,s,[],_,_,_=>⟨λx h=>(by cases h),λy h=>h⟩
 |n+1,s,x::l,h,hl,hz=>by
  rw[Ak (n+1) s (x::l) h hl] at hz⊢;dsimp only at hz⊢;have e:=hz _ pL;rw[ai e,Nat.add_sub_cancel] at hz⊢;obtain⟨i1,i2⟩:=Al hP hk n (f s x).2 l (by simpa using h) (λy hy=>hl y (fJ _ hy)) (λc hc=>hz c (fJ _ hc));refine⟨λy hy=>?_,λy hy=>i2 y (hk s x y hy)⟩;rcases jX.1 hy with hy|hy
  ·subst hy;exact i2 y (hP s y e)
  ·exact i1 y hy
def yl(c:Int):Prop:=0<=c/\c<=255
def Mc(t:cx):yl (mM t):=by
 unfold mM yl
 repeat' split
 all_goals omega
def UM(a:bN):yl (tH a):=by
 unfold tH yl
 repeat' split
 all_goals omega
def Gn(t b:cx):yl (qf t b):=by unfold qf yl;split<;>omega
def OG(t b:bN):yl (qG t b):=by unfold qG yl;split<;>omega
def OE(t:cx)(d c:bN):yl (cN t d c).2:=by
 unfold cN yl;dsimp only;by_cases h1:has t.ao 16/\(if has t.ao 16 then min (if t.aT=0 then bJ-1 else t.aT) (iU d true) else if t.aT=0 then bJ-1 else t.aT)=0
 ·rw[ai h1];simp
 ·rw[af h1];by_cases h2:has t.ao 32/\(if has t.ao 32 then min (if has t.ao 16 then min (if t.aT=0 then bJ-1 else t.aT) (iU d true) else if t.aT=0 then bJ-1 else t.aT) (iU c false) else if has t.ao 16 then min (if t.aT=0 then bJ-1 else t.aT) (iU d true) else if t.aT=0 then bJ-1 else t.aT)=0
  ·rw[ai h2];simp
  ·rw[af h2];simp
def Lf(a:bN)(b:Bool)(n:Nat)(p:Bool):yl (more a b n p).2:=by
 unfold more yl
 repeat' split
 all_goals simp
def NS(t:cx)(named:Option cr)(d c:Option bN)(many:Nat):yl (iT t named d c many).1:=by
 unfold iT;have h1:=Mc t;split
 ·exact h1
 split
 ·unfold yl;simp
 cases named with
 |some k=>exact Gn _ _
 |none=>
  cases d with
  |none=>unfold yl;simp
  |some d=>
   cases c with
   |none=>unfold yl;simp
   |some c=>
    have h2:=OE t d c;have h3:=Lf d true (cN t d c).1 (decide (has t.ao 2));have h4:=Lf c false (cN t d c).1 (decide (has t.ao 2));dsimp only
    repeat' split
    all_goals first|exact h2|exact h3|exact h4|(unfold yl;dsimp only;decide)
def CI(t:cx)(named:Option cr){pend:Option cr}(hp:∀k,pend=some k->k.fate<=4)(d c:Bool)(many:Nat):yl (kM t named pend d c many):=by
 unfold kM;have h1:=Mc t;split
 ·exact h1
 split
 ·unfold yl;decide
 cases named with
 |some k=>exact Gn _ _
 |none=>
  cases pend with
  |none=>unfold yl;dsimp only;decide
  |some k=>
   have:=hp k rfl;unfold yl;dsimp only
   repeat' split
   all_goals omega
def X9{m:aA}(hg:Md.bS m)(t:cx):yl (m.lO t).1:=by
 unfold aA.lO;split
 ·unfold aA.oT;cases hi:m.name t.pending with
  |none=>dsimp only;exact CI t _ (λk h=>by cases h) _ _ _
  |some i=>
   dsimp only;cases hk:m.ax[i]? with
   |none=>dsimp only;exact CI t _ (λk h=>by cases h) _ _ _
   |some k=>
    have hf:=(hg.wH k (cn hk)).2.1;dsimp only;split
    ·exact CI t _ (pend:=some k) (λk2 h=>by cases h;exact hf) _ _ _
    ·unfold yl;dsimp only;decide
 ·unfold aA.move;dsimp only;split
  ·exact NS t _ _ _ _
  ·unfold yl;dsimp only;decide
def TQ(m:aA)(a:bN):yl (m.make a).1:=by
 unfold aA.make;split
 ·exact UM a
 ·split
  ·exact OG _ _
  ·split
   ·unfold yl;dsimp only;decide
   ·unfold yl;dsimp only;decide
def Cq{n:Nat}{o:Option (Nat×Int)}(h:∀i c,o=some (i,c)->yl c):∀c∈ga n o,yl c:=λc hc=>by
 unfold ga at hc;cases o with
 |none=>rw[(List.mem_replicate.1 hc).2];unfold yl;decide
 |some e=>
  obtain⟨i,x⟩:=e;rcases fm hc with hh|hh
  ·rw[(List.mem_replicate.1 hh).2];unfold yl;decide
  ·rw[hh];exact h i x rfl
section
variable {σ α:Type} {f:σ->α->Int×σ} {P:σ->Prop}
def Il(hP:∀s x,P s->P (f s x).2/\yl (f s x).1):∀(l:List α)(s:σ)(i:Nat),P s->P (gL f s l i).2/\∀j c,(gL f s l i).1=some (j,c)->yl c
 |[],s,i,h=>⟨h,λj c e=>by cases e⟩
 |x::l,s,i,h=>by
  unfold gL;split
  ·exact⟨h,λj c e=>by cases e;exact(hP s x h).2⟩
  ·exact Il hP l _ _ (hP s x h).1
def Bh(lk:α->Bool)(hP:∀s x,P s->P (f s x).2/\yl (f s x).1):∀(n:Nat)(s:σ)(l:List α),P s->∀c∈(eW f lk n s l).1,yl c
 |0,s,l,_,c,hc=>by cases hc
 |n+1,s,[],_,c,hc=>by cases hc
 |n+1,s,x::l,h,c,hc=>by
  rw[eW] at hc;split at hc
  ·exact Cq (o:=some ((bI lk (x::l)).1-1,2)) (λi c e=>by cases e;unfold yl;decide) c hc
  ·have hd:=Il hP ((x::l).take (bI lk (x::l)).1) s 0 h;generalize gL f s ((x::l).take (bI lk (x::l)).1) 0=r at hd hc
   match r,hd,hc with
   |(none,s'),hd,hc=>
    rcases dY.1 hc with hc|hc
    ·exact Cq (o:=none) (λi c e=>by cases e) c hc
    ·exact Bh lk hP n _ _ hd.1 c hc
   |(some e,s'),hd,hc=>
    rcases dY.1 hc with hc|hc
    ·exact Cq (o:=some e) (λi c' e'=>by cases e';exact hd.2 _ _ rfl) c hc
    ·exact Bh lk hP n _ _ h c hc
end
def L2{m:aA}{q:jY}(hg:Md.bS m)(he:kz q=true):oE (bn m q).1 (bn m q).2.1 [] []=true:=by
 have jW: ¬kz q=false:=by rw[he];decide
 have fin:∀(res:List Int),(∀c∈res,yl c)->res.length<=16->oE 0 res [] []=true:=λres h1 h2=>by
  unfold oE;simp only[dh,List.all_eq_true,decide_eq_true_eq,cK];exact⟨⟨⟨⟨λc hc=>h1 c hc,λa ha=>(by cases ha)⟩,λa ha=>(by cases ha)⟩,by omega⟩,by omega⟩
 have hl:q.op=1/\q.aB.length<=8\/q.op=2/\q.bQ.length<=8\/q.op≠1/\q.op≠2:=by
  unfold kz at he;by_cases h1:q.op=1
  ·left;rw[ai h1] at he;simp at he;exact⟨h1,by omega⟩
  ·by_cases h2:q.op=2
   ·right;left;rw[af h1,ai h2] at he;simp at he;exact⟨h2,by omega⟩
   ·exact .inr (.inr ⟨h1,h2⟩)
 unfold bn;rw[af jW];rcases hl with⟨h1,h2⟩|⟨h1,h2⟩|⟨h1,h2⟩
 ·rw[ai h1];refine fin _ (Bh (P:=λ_=>True) _ (λs x _=>⟨trivial,TQ s x⟩) _ _ _ trivial) ?_;have:=xf aA.make yQ q.aB.length m q.aB;dsimp only;omega
 ·rw[af (by omega),ai h1];refine fin _ (Bh (P:=Md.bS) _ (λs x h=>⟨(Md.pJ.lO (rY s) h).2.2,X9 h x⟩) _ _ _ hg) ?_;have:=xf aA.lO sY q.bQ.length m q.bQ;dsimp only;omega
 ·rw[af h1,af h2];exact fin [] (λc hc=>by cases hc) (by simp)
end Go.Up
namespace Go.Up
open Go.Sep Go.Den Go.RowKit Go.Prog Go.Md Go.cH
def Xb(l:List UInt8):La l<bJ:=by
 unfold La;split
 ·decide
 ·have h1:=rF (l.take 16);have h2:(l.take 16).length<=16:=by rw[aC];omega
  have h3:256^(l.take 16).length<=256^16:=gM (by decide) h2;have h4:(256:Nat)^16=bJ:=rfl;omega
def vQ(x:RS):zP x<bJ:=by
 unfold zP;split
 ·decide
 ·exact Xb _
def sX(n:Nat)(x:RS):u2 (jm n x):=by
 unfold jm u2;split
 ·omega
 ·unfold nt;simp only[IntKind.wrap,IntKind.bits,IntKind.signed];simp;split<;>omega
def zR:u2 0:=by unfold u2;omega
def aaR(x:RS):yi (DK x):=by
 unfold DK;split
 ·exact⟨by decide,by decide,by decide,by decide,by decide,zR,zR,zR,zR⟩
 ·exact⟨vQ _,vQ _,vQ _,vQ _,vQ _,sX _ _,sX _ _,sX _ _,sX _ _⟩
def aaQ(x:RS):yf (D6 x):=by
 unfold D6;split
 ·exact⟨by decide,by decide,by decide,by decide,by decide,zR,zR,zR,zR,zR,zR⟩
 ·exact⟨vQ _,vQ _,vQ _,vQ _,vQ _,sX _ _,sX _ _,sX _ _,sX _ _,sX _ _,sX _ _⟩
def NU{α:Type}{nx:RS->RS}{nv:RS->α}{P:α->Prop}(h:∀x,P (nv x)):∀(n:Nat)(x:RS),∀y∈(many nx nv n x).1,P y
 |0,x,y,hy=>by cases hy
 |n+1,x,y,hy=>by
  rw[pE] at hy;split at hy
  ·cases hy
  ·rcases jX.1 hy with e|e
   ·rw[e];exact h x
   ·exact NU h n _ y e
def yK(l:List UInt8):(∀a∈(gV l).1.aB,yi a)/\(∀t∈(gV l).1.bQ,yf t)/\(gV l).1.aB.length<=255/\(gV l).1.bQ.length<=255:=by
 have hb:=Q5 (eJ 1 (l,false));have h1:=wu (nx:=DJ) (nv:=DK) (jm 1 (eJ 1 (l,false))).toNat (eJ 1 (eJ 1 (l,false)));have h2:=wu (nx:=D5) (nv:=D6) (jm 1 (eJ 1 (l,false))).toNat (eJ 1 (eJ 1 (l,false)));unfold gV;dsimp only;split
 ·exact⟨NU aaR _ _,λt h=>(by cases h),by dsimp only;omega,aE _⟩
 split
 ·exact⟨λt h=>(by cases h),NU aaQ _ _,aE _,by dsimp only;omega⟩
 split
 ·exact⟨λt h=>(by cases h),λt h=>(by cases h),aE _,aE _⟩
 split
 ·exact⟨λt h=>(by cases h),λt h=>(by cases h),aE _,aE _⟩
 ·exact⟨λt h=>(by cases h),λt h=>(by cases h),aE _,aE _⟩
def tt{l:List UInt8}(h:rK l=true):j0 (gV l).1=true:=by
 unfold rK at h;exact(dh _ _▸h).2
def Hr{e:Int}(h:0<=e/\e<=255):oE e [] [] []=true:=by
 unfold oE;simp[h]
def WJ{e e':Int}{res acJ:List Int}{al al':List bN}{tl tl':List cx}(h:oE e res al tl=true)(h':oE e' acJ al' tl'=true)(heq:qq e res al tl=qq e' acJ al' tl'):e=e':=by
 unfold qq at heq;rw[ai h,ai h'] at heq;have:=congrArg (λl=>jm 1 (l,false)) heq;unfold yI at this;rwa[Sg (uL h).2.2.2.1,Sg (uL h').2.2.2.1] at this
def aaI{e e':Int}{res:List Int}(h:oE e res [] []=true)(h':0<=e'/\e'<=255)(hn:e≠e'):qq e res [] []≠qq e' [] [] []:=λhh=>hn (WJ h (Hr h') hh)
end Go.Up
namespace Go.Prog
open Go.Den
def ff(a:OA)(K:VK):WK:=br (a.isNone) (K (.p none)) (nn a λb=>lP (b.add 1) λc=>pO c (xP λd=>K (.p d)))
def pB.j1(K:VK)(a:Addr)(c:Bool):WK:=br c (lL (a.add 1) λg d h=>lL (a.add 2) λi e j=>lL (a.add 3) λk f l=>K (.b (decide ((max2 (max2 (d:Int) (e:Int)) (f:Int))<=16)))) (K (.b false))
def pB(P:LV)(K:VK):WK:=mk P λC=>lL (ad C 1) λQ D R=>(lp [.p (some (ad C 0)),.b false,.l Q D R,.i (D:Int),.i 0] λE S=>∀c h j k v m d w,E [.p (some c),.b h,.l j k v,.i m,.i d] w->(br (decide (d<m)) (iY j k d 1 λT=>lI T λF=>br (decide (F<0)) (K (.b false)) (br (decide (F>255)) (K (.b false)) ((ct E S [.p (some c),.b h,.l j k v,.i m,.i (aa.wrap (d+1))] [.p (some c),.b h,.l j k v,.i m,.i d] w)))) (lL (c.add 2) λV G W=>(lp [.p (some c),.b h,.l V G W,.i (G:Int),.i 0] λH X=>∀e n o q x r f y,H [.p (some e),.b n,.l o q x,.i r,.i f] y->(br (decide (f<r)) (iY o q f 14 λY=>aJ Y 14 λZ=>mk eK λI=>bD 14 (ad I 0) Z (aJ (ad I 0) 14 λJL=>jt JL (xB λb3=>br (!b3) (K (.b false)) ((ct H X [.p (some e),.b n,.l o q x,.i r,.i (aa.wrap (f+1))] [.p (some e),.b n,.l o q x,.i r,.i f] y))))) (lL (e.add 3) λGC J GP=>(lp [.p (some e),.b n,.l GC J GP,.i (J:Int),.i 0] λM V9=>∀a z s t A u g B,M [.p (some a),.b z,.l s t A,.i u,.i g] B->(br (decide (g<u)) (iY s t g 16 λa6=>aJ a6 16 λJK=>mk iD λO=>bD 16 (ad O 0) JK (aJ (ad O 0) 16 λL8=>fX L8 (xB λb5=>br (!b5) (K (.b false)) ((ct M V9 [.p (some a),.b z,.l s t A,.i u,.i (aa.wrap (g+1))] [.p (some a),.b z,.l s t A,.i u,.i g] B))))) (lI a λn8=>br (decide (n8>=0)) (lI a λn9=>pB.j1 K a (decide (n9<=255))) (pB.j1 K a false))) B))) y))) w)
def kO.j1(K:VK)(b:Nat):WK:=cu True (mk [.l none 0 0] λh=>tick (lI (ad b 0) λr=>bu (some (ad h 0)) 1 r (x0 (tick (lL (ad b 1) λt n u=>bu (some (ad h 0)) 1 (n:Int) (x0 (kp (ad b 1) [.l t n u] (lL (ad b 1) λv o w=>(lp [.p (some (ad b 0)),.s .empty,.p (some (ad h 0)),.l v o w,.i (o:Int),.i 0] λq x=>∀c j a e f k g d m,q [.p (some c),.s j,.p (some a),.l e f k,.i g,.i d] m->(br (decide (d<g)) (iY e f d 1 λy=>lI y λz=>bu (some a) 1 z (x0 ((ct q x [.p (some c),.s j,.p (some a),.l e f k,.i g,.i (aa.wrap (d+1))] [.p (some c),.s j,.p (some a),.l e f k,.i g,.i d] m)))) (lL (c.add 2) λA B C=>lg (some a) A B C (x0 (lL (c.add 3) λD E F=>kJ (some a) D E F (x0 (dG (some a) (xS λG=>K (.s G)))))))) m)))))))))
def kO(b:LV)(K:VK):WK:=mk b λa=>aJ (ad a 0) 4 λc=>pB c (xB λd=>br (!d) (cu (1=1/\True) (cu (4=4) (jU (ad a 0) [.i 3,.l none 0 0,.l none 0 0,.l none 0 0] (kO.j1 K a)))) (kO.j1 K a))
def gS(a:OA)(b:BA)(K:VK):WK:=br (a.isNone) (cu (1=1/\True) (kO [.i 2,.l none 0 0,.l none 0 0,.l none 0 0] (xS λe=>K (.s e)))) (br (decide ((b.size:Int)>16384)) (cu (1=1/\True) (kO [.i 3,.l none 0 0,.l none 0 0,.l none 0 0] (xS λf=>K (.s f)))) (jI b (x2 λg h=>(xA 13 λj=>(xI .i64 λc=>mk kU λd=>bD 13 (ad d 0) j (br (c !=0) (cu (1=1/\True) (kO [.i c,.l none 0 0,.l none 0 0,.l none 0 0] (xS λk=>K (.s k)))) (tick (nn a λm=>lP (m.add 1) λn=>aJ (ad d 0) 13 λo=>mQ n o (xA 4 λp=>kO p (xS λq=>K (.s q))))))) h) g)))
def qp.j1(K:VK)(a b:OA)(c:Bool):WK:=br c (K (.tuple ⟨[.p none,.i 1]⟩)) (cu (1=1/\(1=1/\True)) (mk [.p a,.p b] λd=>K (.tuple ⟨[.p (some (ad d 0)),.i 0]⟩)))
def qp(b:Int)(K:VK):WK:=tv b (xP λa=>mR a (x2 λd e=>(xP λc=>(xI .i64 λf=>br (f !=0) (qp.j1 K a c true) (fE a (xI .i64 λg=>qp.j1 K a c (g !=b)))) e) d))
def dg(r:LV)(K:VK):WK:=mk r λt=>(lp [.p (some (ad t 0)),.s .empty,.s .empty,.i 0] λn u=>∀j k e f l,n [.p (some j),.s k,.s e,.i f] l->(br (decide (f<16)) ((lp [.p (some j),.s k,.s e,.i f,.i 0,.i 7] λo v=>∀a g b c h d m,o [.p (some a),.s g,.s b,.i c,.i h,.i d] m->(br (decide (d>=0)) (aJ a 2 λw=>fS w (aa.wrap ((aa.wrap (8* c))+d)) (xI .i64 λx=>(ct o v [.p (some a),.s g,.s b,.i c,.i (aa.wrap ((aa.wrap (2* h))+x)),.i (aa.wrap (d-1))] [.p (some a),.s g,.s b,.i c,.i h,.i d] m))) (cu (1=1/\True) (mk [.int .u8 (IntKind.u8.wrap h)] λy=>U2 (ah y) 1 λq=>cu (((b.size+q.size:Nat):Int)<=9223372036854775807) ((ct n u [.p (some a),.s g,.s (b++q),.i (aa.wrap (c+1))] [.p (some j),.s k,.s e,.i f] l))))) m)) (K (.s e))) l)
def lz(t:LV)(K:VK):WK:=mk t λa=>tick (aJ (ad a 0) 2 λu=>aJ (ad a 2) 2 λp=>aJ (ad a 4) 2 λm=>aJ (ad a 6) 2 λj=>aJ (ad a 8) 2 λg=>dg u (xS λb=>kp (ad a 8) g (kp (ad a 6) j (kp (ad a 4) m (kp (ad a 2) p (dg p (xS λc=>kp (ad a 8) g (kp (ad a 6) j (kp (ad a 4) m (cu (((b.size+c.size:Nat):Int)<=9223372036854775807) (dg m (xS λd=>kp (ad a 8) g (kp (ad a 6) j (cu ((((b++c).size+d.size:Nat):Int)<=9223372036854775807) (dg j (xS λe=>kp (ad a 8) g (cu (((((b++c)++d).size+e.size:Nat):Int)<=9223372036854775807) (dg g (xS λf=>cu ((((((b++c)++d)++e).size+f.size:Nat):Int)<=9223372036854775807) (tick (lI (ad a 10) λv=>lI (ad a 11) λq=>lI (ad a 12) λn=>lI (ad a 13) λk=>bK 4 v (xS λh=>kp (ad a 13) [.i k] (kp (ad a 12) [.i n] (kp (ad a 11) [.i q] (cu (((((((b++c)++d)++e)++f).size+h.size:Nat):Int)<=9223372036854775807) (bK 2 q (xS λl=>kp (ad a 13) [.i k] (kp (ad a 12) [.i n] (cu ((((((((b++c)++d)++e)++f)++h).size+l.size:Nat):Int)<=9223372036854775807) (bK 2 n (xS λo=>kp (ad a 13) [.i k] (cu (((((((((b++c)++d)++e)++f)++h)++l).size+o.size:Nat):Int)<=9223372036854775807) (bK 8 k (xS λr=>cu ((((((((((b++c)++d)++e)++f)++h)++l)++o).size+r.size:Nat):Int)<=9223372036854775807) (K (.s ((((((((b++c)++d)++e)++f)++h)++l)++o)++r)))))))))))))))))))))))))))))))))))))
def lu(w:LV)(K:VK):WK:=mk w λa=>tick (aJ (ad a 0) 2 λx=>aJ (ad a 2) 2 λr=>aJ (ad a 4) 2 λo=>aJ (ad a 6) 2 λl=>aJ (ad a 8) 2 λj=>dg x (xS λb=>kp (ad a 8) j (kp (ad a 6) l (kp (ad a 4) o (kp (ad a 2) r (dg r (xS λc=>kp (ad a 8) j (kp (ad a 6) l (kp (ad a 4) o (cu (((b.size+c.size:Nat):Int)<=9223372036854775807) (dg o (xS λd=>kp (ad a 8) j (kp (ad a 6) l (cu ((((b++c).size+d.size:Nat):Int)<=9223372036854775807) (dg l (xS λe=>kp (ad a 8) j (cu (((((b++c)++d).size+e.size:Nat):Int)<=9223372036854775807) (dg j (xS λf=>cu ((((((b++c)++d)++e).size+f.size:Nat):Int)<=9223372036854775807) (tick (lI (ad a 10) λy=>lI (ad a 11) λt=>lI (ad a 12) λp=>lI (ad a 13) λm=>bK 4 y (xS λg=>kp (ad a 13) [.i m] (kp (ad a 12) [.i p] (kp (ad a 11) [.i t] (cu (((((((b++c)++d)++e)++f).size+g.size:Nat):Int)<=9223372036854775807) (bK 4 t (xS λh=>kp (ad a 13) [.i m] (kp (ad a 12) [.i p] (cu ((((((((b++c)++d)++e)++f)++g).size+h.size:Nat):Int)<=9223372036854775807) (bK 2 p (xS λk=>kp (ad a 13) [.i m] (cu (((((((((b++c)++d)++e)++f)++g)++h).size+k.size:Nat):Int)<=9223372036854775807) (bK 2 m (xS λn=>cu ((((((((((b++c)++d)++e)++f)++g)++h)++k).size+n.size:Nat):Int)<=9223372036854775807) (tick (lI (ad a 14) λz=>lI (ad a 15) λu=>bK 8 z (xS λq=>kp (ad a 15) [.i u] (cu (((((((((((b++c)++d)++e)++f)++g)++h)++k)++n).size+q.size:Nat):Int)<=9223372036854775807) (bK 8 u (xS λv=>cu ((((((((((((b++c)++d)++e)++f)++g)++h)++k)++n)++q).size+v.size:Nat):Int)<=9223372036854775807) (K (.s ((((((((((b++c)++d)++e)++f)++g)++h)++k)++n)++q)++v)))))))))))))))))))))))))))))))))))))))))))
def cB.j1(K:VK)(H:OA)(y I:Nat)(J:OA)(z M:Nat)(O:OA)(A P:Nat)(Q:Bool):WK:=br Q (K (.b false)) ((lp [.b false,.l H y I,.i (y:Int),.i 0] λB R=>∀e f g r h a s,B [.b e,.l f g r,.i h,.i a] s->(br (decide (a<h)) (iY f g a 1 λS=>lI S λC=>br (decide (C<0)) (K (.b false)) (br (decide (C>255)) (K (.b false)) ((ct B R [.b e,.l f g r,.i h,.i (aa.wrap (a+1))] [.b e,.l f g r,.i h,.i a] s)))) ((lp [.b e,.l J z M,.i (z:Int),.i 0] λD T=>∀j k m t n c u,D [.b j,.l k m t,.i n,.i c] u->(br (decide (c<n)) (iY k m c 14 λV=>aJ V 14 λW=>mk eK λE=>bD 14 (ad E 0) W (aJ (ad E 0) 14 λX=>da X (xB λY=>br (!Y) (K (.b false)) ((ct D T [.b j,.l k m t,.i n,.i (aa.wrap (c+1))] [.b j,.l k m t,.i n,.i c] u))))) ((lp [.b j,.l O A P,.i (A:Int),.i 0] λF Z=>∀v o p w q d x,F [.b v,.l o p w,.i q,.i d] x->(br (decide (d<q)) (iY o p d 16 λa3=>aJ a3 16 λJL=>mk iD λG=>bD 16 (ad G 0) JL (aJ (ad G 0) 16 λJK=>bW JK (xB λb6=>br (!b6) (K (.b false)) ((ct F Z [.b v,.l o p w,.i q,.i (aa.wrap (d+1))] [.b v,.l o p w,.i q,.i d] x))))) (K (.b true))) x))) u))) s))
def cB.j3(K:VK)(c:OA)(d e:Nat)(f:OA)(a g:Nat)(h:OA)(b i:Nat)(j:Bool):WK:=br j (cB.j1 K c d e f a g h b i true) (br (decide ((a:Int)>16)) (cB.j1 K c d e f a g h b i true) (cB.j1 K c d e f a g h b i (decide ((b:Int)>16))))
def cB.j2(K:VK)(b:OA)(a c:Nat)(d:OA)(e f:Nat)(g:OA)(h i:Nat)(j:Bool):WK:=br j (cB.j3 K b a c d e f g h i true) (cB.j3 K b a c d e f g h i (decide ((a:Int)>16)))
def cB(a:Int)(b:OA)(c d:Nat)(e:OA)(f g:Nat)(h:OA)(i j:Nat)(K:VK):WK:=br (decide (a<0)) (cB.j2 K b c d e f g h i j true) (cB.j2 K b c d e f g h i j (decide (a>255)))
def hO(E:Int)(F:OA)(g G:Nat)(H:OA)(h I:Nat)(J:OA)(j M:Nat)(K:VK):WK:=cB E F g G H h I J j M (xB λb1=>br (!b1) (K (.s ⟨#[3,0,0,0]⟩)) (bK 1 E (xS λO=>bK 1 (g:Int) (xS λP=>cu (((O.size+P.size:Nat):Int)<=9223372036854775807) ((lp [.s .empty,.s (O++P),.l F g G,.i (g:Int),.i 0] λQ μ1=>∀k a m n x o c y,Q [.s k,.s a,.l m n x,.i o,.i c] y->(br (decide (c<o)) (iY m n c 1 λa1=>lI a1 λn4=>bK 1 n4 (xS λR=>cu (((a.size+R.size:Nat):Int)<=9223372036854775807) ((ct Q μ1 [.s k,.s (a++R),.l m n x,.i o,.i (aa.wrap (c+1))] [.s k,.s a,.l m n x,.i o,.i c] y)))) (bK 1 (h:Int) (xS λS=>cu (((a.size+S.size:Nat):Int)<=9223372036854775807) ((lp [.s k,.s (a++S),.l H h I,.i (h:Int),.i 0] λT YI=>∀p b q r z t d A,T [.s p,.s b,.l q r z,.i t,.i d] A->(br (decide (d<t)) (iY q r d 14 λa2=>aJ a2 14 λV6=>mk eK λV=>bD 14 (ad V 0) V6 (aJ (ad V 0) 14 λJM=>lz JM (xS λW=>cu (((b.size+W.size:Nat):Int)<=9223372036854775807) ((ct T YI [.s p,.s (b++W),.l q r z,.i t,.i (aa.wrap (d+1))] [.s p,.s b,.l q r z,.i t,.i d] A))))) (bK 1 (j:Int) (xS λX=>cu (((b.size+X.size:Nat):Int)<=9223372036854775807) ((lp [.s p,.s (b++X),.l J j M,.i (j:Int),.i 0] λY V9=>∀B e u v C w f D,Y [.s B,.s e,.l u v C,.i w,.i f] D->(br (decide (f<w)) (iY u v f 16 λa3=>aJ a3 16 λJL=>mk iD λZ=>bD 16 (ad Z 0) JL (aJ (ad Z 0) 16 λJK=>lu JK (xS λs13=>cu (((e.size+s13.size:Nat):Int)<=9223372036854775807) ((ct Y V9 [.s B,.s (e++s13),.l u v C,.i w,.i (aa.wrap (f+1))] [.s B,.s e,.l u v C,.i w,.i f] D))))) (K (.s e))) D))))) A))))) y))))))
def iV(a:Int)(K:VK):WK:=hO a none 0 0 none 0 0 none 0 0 (xS λb=>K (.s b))
def ox(a:Bool)(K:VK):WK:=br a (K (.s ⟨#[1]⟩)) (K (.s ⟨#[0]⟩))
def ln(V6:LV)(K:VK):WK:=mk V6 λd=>lI (ad d 0) λn1=>bK 1 n1 (xS λc=>lI (ad d 0) λv=>br (v==1) (lL (ad d 1) λyn ya Ah=>bK 1 (ya:Int) (xS λW=>cu (((c.size+W.size:Nat):Int)<=9223372036854775807) (lL (ad d 1) λjJ X jV=>(lp [.s .empty,.s (c++W),.l jJ X jV,.i (X:Int),.i 0] λY μ1=>∀H k w x I y m J,Y [.s H,.s k,.l w x I,.i y,.i m] J->(br (decide (m<y)) (iY w x m 14 λa1=>aJ a1 14 λJM=>mk eK λZ=>bD 14 (ad Z 0) JM (aJ (ad Z 0) 14 λJL=>lz JL (xS λs5=>cu (((k.size+s5.size:Nat):Int)<=9223372036854775807) ((ct Y μ1 [.s H,.s (k++s5),.l w x I,.i y,.i (aa.wrap (m+1))] [.s H,.s k,.l w x I,.i y,.i m] J))))) (K (.s k))) J)))) (br (v==2) (lL (ad d 2) λvc rA u6=>bK 1 (rA:Int) (xS λs6=>cu (((c.size+s6.size:Nat):Int)<=9223372036854775807) (lL (ad d 2) λGC GB GP=>(lp [.s .empty,.s (c++s6),.l GC GB GP,.i (GB:Int),.i 0] λI2 YI=>∀M n z A O B o P,I2 [.s M,.s n,.l z A O,.i B,.i o] P->(br (decide (o<B)) (iY z A o 16 λa2=>aJ a2 16 λJK=>mk iD λr3=>bD 16 (ad r3 0) JK (aJ (ad r3 0) 16 λL8=>lu L8 (xS λs9=>cu (((n.size+s9.size:Nat):Int)<=9223372036854775807) ((ct I2 YI [.s M,.s (n++s9),.l z A O,.i B,.i (aa.wrap (o+1))] [.s M,.s n,.l z A O,.i B,.i o] P))))) (K (.s n))) P)))) (br (v==3) (lI (ad d 3) λn7=>bK 8 n7 (xS λs10=>cu (((c.size+s10.size:Nat):Int)<=9223372036854775807) (K (.s (c++s10))))) (br (v==6) (aJ (ad d 5) 8 λYc=>mk Es λa=>bD 8 (ad a 0) Yc (tick (aJ (ad a 0) 2 λcs7=>lI (ad a 2) λn8=>lI (ad a 3) λQ=>lT (ad a 4) λC=>lT (ad a 5) λp=>lT (ad a 6) λh=>lI (ad a 7) λf=>dg cs7 (xS λe=>kp (ad a 7) [.i f] (kp (ad a 6) [.b h] (kp (ad a 5) [.b p] (kp (ad a 4) [.b C] (kp (ad a 3) [.i Q] (kp (ad a 2) [.i n8] (cu (((c.size+e.size:Nat):Int)<=9223372036854775807) (bK 8 n8 (xS λg=>kp (ad a 7) [.i f] (kp (ad a 6) [.b h] (kp (ad a 5) [.b p] (kp (ad a 4) [.b C] (kp (ad a 3) [.i Q] (cu ((((c++e).size+g.size:Nat):Int)<=9223372036854775807) (bK 8 Q (xS λj=>kp (ad a 7) [.i f] (kp (ad a 6) [.b h] (kp (ad a 5) [.b p] (kp (ad a 4) [.b C] (cu (((((c++e)++g).size+j.size:Nat):Int)<=9223372036854775807) (ox C (xS λq=>kp (ad a 7) [.i f] (kp (ad a 6) [.b h] (kp (ad a 5) [.b p] (cu ((((((c++e)++g)++j).size+q.size:Nat):Int)<=9223372036854775807) (ox p (xS λD=>kp (ad a 7) [.i f] (kp (ad a 6) [.b h] (cu (((((((c++e)++g)++j)++q).size+D.size:Nat):Int)<=9223372036854775807) (ox h (xS λR=>kp (ad a 7) [.i f] (cu ((((((((c++e)++g)++j)++q)++D).size+R.size:Nat):Int)<=9223372036854775807) (bK 1 f (xS λs17=>cu (((((((((c++e)++g)++j)++q)++D)++R).size+s17.size:Nat):Int)<=9223372036854775807) (K (.s (((((((c++e)++g)++j)++q)++D)++R)++s17)))))))))))))))))))))))))))))))))))))))) (lL (ad d 4) λY8 Tg sc7=>bK 1 (Tg:Int) (xS λs18=>cu (((c.size+s18.size:Nat):Int)<=9223372036854775807) (lL (ad d 4) λPg Nn QM=>(lp [.s .empty,.s (c++s18),.l Pg Nn QM,.i (Nn:Int),.i 0] λI3 V9=>∀S r E F T G t V,I3 [.s S,.s r,.l E F T,.i G,.i t] V->(br (decide (t<G)) (iY E F t 2 λa3=>aJ a3 2 λcs8=>mk [.u 0,.u 0] λr5=>bD 2 (ad r5 0) cs8 (aJ (ad r5 0) 2 λcs9=>dg cs9 (xS λs21=>cu (((r.size+s21.size:Nat):Int)<=9223372036854775807) ((ct I3 V9 [.s S,.s (r++s21),.l E F T,.i G,.i (aa.wrap (t+1))] [.s S,.s r,.l E F T,.i G,.i t] V))))) (K (.s r))) V))))))))
def il.j1(K:VK)(a:OA)(c:Bool):WK:=br c (cu (1=1/\(1=1/\True)) (ln [.i 3,.l none 0 0,.l none 0 0,.i 5,.l none 0 0,.u 0,.u 0,.i 0,.i 0,.b false,.b false,.b false,.i 0] (xS λd=>gS a d (xS λe=>br (pP e (⟨#[0,0,0,0]⟩:BA)) (ff a (xP λf=>ji f (xI .i64 λg=>K (.b (g==5))))) (K (.b false)))))) (K (.b false))
def il(K:VK):WK:=qp 600 (x2 λb c=>(xP λa=>(xI .i64 λd=>br (d==0) (gS a (⟨#[]⟩:BA) (xS λe=>iV 4 (xS λf=>il.j1 K a (pP e f)))) (il.j1 K a false)) c) b)
def kS(o:OA)(g p:Nat)(K:VK):WK:=(lp [.b false,.i 0,.l o g p,.i (g:Int),.i 0] λm q=>∀h c d e j f a k,m [.b h,.i c,.l d e j,.i f,.i a] k->(br (decide (a<f)) (iY d e a 6 λr=>aJ r 6 λs=>mk Et λn=>bD 6 (ad n 0) s (lS (ad n 1) λt=>(ct m q [.b h,.i (aa.wrap (c+(t.size:Int))),.l d e j,.i f,.i (aa.wrap (a+1))] [.b h,.i c,.l d e j,.i f,.i a] k))) (br (decide ((g:Int)>60)) (K (.b true)) (K (.b (decide (c>16384)))))) k)
def mX(K:VK):WK:=qp 600 (x2 λb c=>(xP λd=>(xI .i64 λf=>cu True (mk acd λa=>cu (1=1/\(1=1/\(1=1/\True))) (mk [.p d,.p (some (ad a 0)),.p (some (ad a 0))] λe=>K (.p (some (ad e 0)))))) c) b)
def ng(c d:OA)(K:VK):WK:=nn c λe=>lP e λf=>ff f (xP λa=>hG a (xL λg h i=>fh a (xL λj k l=>ji a (xI .i64 λm=>kr a (xI .i64 λn=>kH d g h i j k l m n (xB λo=>K (.b o)))))))
def gR(a:OA)(K:VK):WK:=br (!(a.isNone)) (nn a λc=>lP (c.add 1) λd=>ql d (xB λe=>K (.b e))) (K (.b false))
def qo(a:OA)(K:VK):WK:=br (a.isNone) (K (.i 2)) (nn a λb=>lP (b.add 1) λc=>iy c (xI .i64 λd=>K (.i d)))
def nH(a:OA)(c d e:Int)(K:VK):WK:=br (a.isNone) (K (.i 2)) (nn a λf=>lP f λg=>mV g c d e (x0 (nn a λh=>lP h λj=>mR j (x2 λk l=>(xP λm=>(xI .i64 λb=>br (b==0) (nn a λn=>st (n.add 1) (.p m) (K (.i b))) (K (.i b))) l) k))))
def qW(a:OA)(b:Int)(K:VK):WK:=br (!(a.isNone)) (nn a λc=>lP c λd=>oG d b (x0 (K (.tuple ⟨[]⟩)))) (K (.tuple ⟨[]⟩))
def nO(a:OA)(h:LV)(K:VK):WK:=mk h λb=>aJ (ad b 0) 13 λi=>kN i (xB λj=>br j (aJ (ad b 0) 13 λk=>gP k (xB λm=>br (!m) (hO 1 none 0 0 none 0 0 none 0 0 (xS λn=>K (.tuple ⟨[.s n,.p a]⟩))) (aJ (ad b 0) 13 λo=>jj a o (x3 λq r t=>(xL λu v w=>(xI .i64 λx=>(xP λy=>hO x u v w none 0 0 none 0 0 (xS λz=>K (.tuple ⟨[.s z,.p y]⟩))) t) r) q)))) (tick (nn a λc=>lL (c.add 1) λd e f=>aJ (ad b 0) 13 λg=>ia a (xL λA B C=>kp (ad b 0) g (kp (c.add 1) [.l d e f] (nP A B C d e f g (x3 λD E F=>(xL λG H I=>(xL λJ M O=>(xI .i64 λP=>hO P none 0 0 G H I J M O (xS λQ=>K (.tuple ⟨[.s Q,.p a]⟩))) F) E) D)))))))
def po(c:OA)(d:BA)(K:VK):WK:=jI d (x2 λe f=>(xA 13 λg=>(xI .i64 λh=>mk kU λa=>bD 13 (ad a 0) g (br (h !=0) (iV 4 (xS λi=>K (.tuple ⟨[.s i,.p c,.b false]⟩))) (aJ (ad a 0) 13 λj=>nO c j (x2 λk l=>(xS λm=>(xP λn=>aJ (ad a 0) 13 λo=>kN o (xB λq=>K (.tuple ⟨[.s m,.p n,.b q]⟩))) l) k)))) f) e)
def aN.j2(K:VK)(a:OA)(c:Bool):WK:=nn a λd=>lP d λe=>gR e (xB λf=>K (.b (f==c)))
def aN.j1(K:VK)(a c:OA)(b:Bool):WK:=nn a λd=>st (d.add 1) (.p c) (br (!b) (nn a λe=>st (e.add 2) (.p c) (aN.j2 K a b)) (aN.j2 K a b))
def aN.j4(K:VK)(a c:OA)(d e:BA)(f g:Bool):WK:=br g (nn a λh=>st (h.add 2) (.p c) (nn a λi=>lP i λj=>gR j (xB λk=>K (.b k)))) (br (!(pP d e)) (K (.b false)) (aN.j1 K a c f))
def aN.j3(K:VK)(a:BA)(g:Bool)(c d:OA)(e:BA)(f h:Bool):WK:=br h (iV 9 (xS λi=>K (.b (pP a i)))) (br g (iV 8 (xS λj=>aN.j4 K c d a e f (pP a j))) (aN.j4 K c d a e f false))
def aN.j6(K:VK)(a:Int)(c:OA)(d:Bool):WK:=br d (K (.b true)) (br (a==8) (nn c λe=>lP e λf=>gR f (xB λg=>K (.b g))) (K (.b false)))
def aN.j5(K:VK)(d:Bool)(a:Int)(c:OA)(e:Bool):WK:=br e (K (.b true)) (br (!d) (br (a==0) (nn c λf=>lP f λg=>gR g (xB λh=>aN.j6 K a c (!h))) (aN.j6 K a c false)) (K (.b false)))
def aN.j7(K:VK)(a:OA):WK:=nn a λc=>lP (c.add 1) λd=>nn a λe=>st (e.add 2) (.p d) (K (.b true))
def aN(a:OA)(l:LV)(K:VK):WK:=mk l λc=>lI (ad c 0) λd=>br (d==0) (tick (nn a λm=>lP (m.add 1) λn=>lS (ad c 1) λo=>po n o (x3 λq r s=>(xS λi=>(xP λj=>(xB λe=>nn a λt=>lP t λu=>gR u (xB λf=>tick (nn a λv=>lP v λw=>lS (ad c 1) λx=>gS w x (xS λk=>br e (aN.j3 K k e a j i f f) (aN.j3 K k e a j i f false))))) s) r) q))) (br (d==1) (nn a λy=>lP y λz=>gR z (xB λg=>nn a λA=>lP A λB=>qo B (xI .i64 λh=>br g (aN.j5 K g h a (h==9)) (aN.j5 K g h a false)))) (br (d==2) (tick (nn a λC=>lP C λD=>lU (ad c 2) λE=>lI (ad c 3) λF=>lI (ad c 4) λG=>nH D E F G (xI .i64 λH=>br (H !=0) (K (.b false)) (nn a λI=>lP (I.add 2) λJ=>ng a J (xB λM=>br M (nn a λO=>lP (O.add 2) λP=>nn a λQ=>st (Q.add 1) (.p P) (aN.j7 K a)) (aN.j7 K a)))))) (br (d==3) (tick (nn a λR=>lP R λS=>lI (ad c 5) λT=>qW S T (x0 (K (.b true))))) (K (.b true)))))
end Go.Prog
namespace Go.Up
open Go.Sep Go.Den Go.RowKit Go.Prog Go.Md Go.cH
def okR(r:Int):Bool:=decide (0<=r/\r<=255)
def KQ(e:Int)(res:List Int)(al:List bN)(tl:List cx):oE e res al tl=(res.all okR&&(al.all (λa=>decide (m8 a))&&(tl.all (λt=>decide (kB t))&&(decide (0<=e/\e<=255)&&decide (res.length<=16/\al.length<=16/\tl.length<=16))))):=by
 unfold oE okR;simp only[Bool.and_assoc]
instance{e:Int}{rb ab tb:OA}{rn rc an ac tn tc:Nat}:Wr (nX e rb rn rc ab an ac tb tn tc) 0 [.i 3,.l none 0 0,.l none 0 0,.l none 0 0] (nX 3 none 0 0 none 0 0 none 0 0):=⟨rfl,aF _,E9⟩
section
variable {W:World} {L R:LH} {K:VK} {X:WK} {e:Int} {res:List Int} {al:List bN} {tl:List cx} {rb ab tb:OA} {rc ac tc:Nat}
def Ae{l:List Int}{s:OA}{i:Nat}{x:Int}{a:Addr}[hh:Has R L](hr:np W R I1 1 s l)(hs:s=some a)(hx:l[i]?=some x)(h:T W L (K (.i x))):T W L (ld (a.add (i* 1)) K):=λw hw=>by
 obtain⟨a',ha,hh⟩:=hr w (hh.sub hw) i x hx;rw[hs] at ha;cases ha
 exact TV (hh 0 _ rfl) (h w hw)
def OX[hh:Has R L](h1:np W R I1 1 rb res)(h2:np W R aO 14 ab al)(h3:np W R aM 16 tb tl)(l1:res.length<1000000)(l2:al.length<1000000)(l3:tl.length<1000000)(h:T W L (K (.b (oE e res al tl)))):
 T W L (pB (nX e rb res.length rc ab al.length ac tb tl.length tc) K):=by
 unfold pB;rw[KQ] at h;apply ws;intros;rename_i r1;intro w jo;refine⟨λvv w=>∃i:Nat,i<=res.length/\(res.take i).all okR=true/\vv=[.p (some (ad r1 0)),.b false,.l rb res.length rc,.i (res.length:Int),.i (i:Int)]/\St W w (Sep.pt r1 (nX e rb res.length rc ab al.length ac tb tl.length tc)::L),
  mq 4 res.length,⟨0,aE _,rfl,rfl,jo⟩,?_⟩
 rintro a1 b1 jJ iX jV n1 n2 w2 ⟨i,hi,fx,e1,gI⟩;cases e1
 refine T.at ?_ gI;have e5:=m9 i;apply fZ<;>intro g1
 ·have cj:i<res.length:=by omega
  have gx:=aj cj;generalize res[i]=x at gx;refine iq h1 ⟨by omega,by omega⟩ rfl λa ha=>?_;rw[ak];apply Ae h1 ha gx;apply mg;have bad: ¬(0<=x/\x<=255)->T W (Sep.pt r1 (nX e rb res.length rc ab al.length ac tb tl.length tc)::L) (K (.b false)):=λhx=>by
   rw[all_false (P:=okR) gx (aq hx),fK] at h;exact T.dp h
  refine fZ (λg2=>bad (by omega)) (λg2=>?_);refine fZ (λg3=>bad (by omega)) (λg3=>?_);rw[e5];exact λw3 h3=>⟨⟨i+1,cj,by rw[qV gx fx];exact aw (by omega),rfl,h3⟩,dn (by omega)⟩
 have iO:i=res.length:=by omega
 subst iO;rw[aV] at fx;rw[fx,dI] at h;apply ws;intro w jo;refine⟨λvv w=>∃i:Nat,i<=al.length/\(al.take i).all (λa=>decide (m8 a))=true/\vv=[.p (some (ad r1 0)),.b false,.l ab al.length ac,.i (al.length:Int),.i (i:Int)]/\St W w (Sep.pt r1 (nX e rb res.length rc ab al.length ac tb tl.length tc)::L),
  mq 4 al.length,⟨0,aE _,rfl,rfl,jo⟩,?_⟩
 rintro a1 b1 jJ iX jV n1 n2 w2 ⟨i,hi,fx,e1,gI⟩;cases e1
 refine T.at ?_ gI;have e5:=m9 i;apply fZ<;>intro g1
 ·have cj:i<al.length:=by omega
  have gx:=aj cj;generalize al[i]=x at gx;refine iq h2 ⟨by omega,by omega⟩ rfl λa ha=>?_;rw[ak];apply kd h2 ha gx rfl
  repeat' first|apply ws;intros|apply wb|refine JS ?_
  rw[e5];by_cases hg:m8 x
  ·rw[aw hg];apply ws;refine T.drop λw3 h3=>⟨⟨i+1,cj,by rw[qV gx fx];exact aw hg,rfl,h3⟩,dn (by omega)⟩
  ·rw[aq hg];apply ws;rw[all_false (P:=λa=>decide (m8 a)) gx (aq hg),fK] at h;exact T.dp h
 have iO:i=al.length:=by omega
 subst iO;rw[aV] at fx;rw[fx,dI] at h;apply ws;intro w jo;refine⟨λvv w=>∃i:Nat,i<=tl.length/\(tl.take i).all (λa=>decide (kB a))=true/\vv=[.p (some (ad r1 0)),.b false,.l tb tl.length tc,.i (tl.length:Int),.i (i:Int)]/\St W w (Sep.pt r1 (nX e rb res.length rc ab al.length ac tb tl.length tc)::L),
  mq 4 tl.length,⟨0,aE _,rfl,rfl,jo⟩,?_⟩
 rintro a1 b1 jJ iX jV n1 n2 w2 ⟨i,hi,fx,e1,gI⟩;cases e1
 refine T.at ?_ gI;have e5:=m9 i;apply fZ<;>intro g1
 ·have cj:i<tl.length:=by omega
  have gx:=aj cj;generalize tl[i]=x at gx;refine iq h3 ⟨by omega,by omega⟩ rfl λa ha=>?_;rw[ak];apply kd h3 ha gx rfl
  repeat' first|apply ws;intros|apply wb|refine IN ?_
  rw[e5];by_cases hg:kB x
  ·rw[aw hg];apply ws;refine T.drop λw3 h3=>⟨⟨i+1,cj,by rw[qV gx fx];exact aw hg,rfl,h3⟩,dn (by omega)⟩
  ·rw[aq hg];apply ws;rw[all_false (P:=λa=>decide (kB a)) gx (aq hg),fK] at h;exact T.dp h
 have iO:i=tl.length:=by omega
 subst iO;rw[aV] at fx;rw[fx,dI] at h;apply ws;have j1:∀b:Bool,b=decide (0<=e/\e<=255)->T W (Sep.pt r1 (nX e rb res.length rc ab al.length ac tb tl.length tc)::L) (pB.j1 K (ad r1 0) b):=λb hb=>by
  unfold pB.j1;rw[<-hb] at h;cases b with
  |false=>rw[fK] at h;apply ws;exact T.dp h
  |true=>
   rw[dI] at h;apply ws;apply T.fin (T.dp h)
   congr 1
   rw[decide_eq_decide];unfold max2;split<;>split<;>omega
 apply fZ<;>intro g2
 ·apply ws;exact j1 _ (by rw[decide_eq_decide];omega)
 ·exact j1 _ (aq (by omega)).symm
def OU[hh:Has R L]{r1:Nat}(h1:np W R I1 1 rb res)(h2:np W R aO 14 ab al)(h3:np W R aM 16 tb tl)(hf:oE e res al tl=true)(h:T W L (K (.s (bs (yI e res al tl))))):
 T W (Sep.pt r1 (nX e rb res.length rc ab al.length ac tb tl.length tc)::L) (kO.j1 K r1):=by
 obtain⟨f1,f2,f3,f4,f5,f6,f7⟩:=uL hf;unfold kO.j1;apply ws;intros;rename_i r2;apply Nd
 repeat' first|apply ws|apply wb|refine r9 (by simp[aP]) ?_
 intro w jo;refine⟨λvv w=>∃i:Nat,i<=res.length/\vv=[.p (some (ad r1 0)),.s .empty,.p (some (ad r2 0)),.l rb res.length rc,.i (res.length:Int),.i (i:Int)]/\St W w (buf r2 (le .i64 1 e++le .i64 1 (res.length:Int)++(res.take i).flatMap λr=>le .i64 1 r)::Sep.pt r1 (nX e rb res.length rc ab al.length ac tb tl.length tc)::L),
  mq 5 res.length,⟨0,aE _,rfl,by simpa using jo⟩,?_⟩
 rintro a1 s1 a2 sr oD sq n2 n3 w2 ⟨i,hi,e1,gI⟩;cases e1
 refine T.at ?_ gI;have e5:=m9 i;have hlen:(le .i64 1 e++le .i64 1 (res.length:Int)++(res.take i).flatMap λr=>le .i64 1 r).length<=18:=by
  rw[au,au,dE (e:=1) (λr=>aP _ _ _),aC,aP,aP];omega
 apply fZ<;>intro g1
 ·have cj:i<res.length:=by omega
  have gx:=aj cj;generalize res[i]=x at gx;refine iq h1 ⟨by omega,by omega⟩ rfl λa ha=>?_;rw[ak];apply Ae h1 ha gx;apply mg;refine r9 (by omega) (B9 ?_);rw[e5];refine λw3 h3=>⟨⟨i+1,cj,rfl,?_⟩,dn (by omega)⟩;rw[ba,gx,gi];simpa [aH] using h3
 have iO:i=res.length:=by omega
 subst iO;rw[aV] at hlen⊢;have k2:(al.flatMap jl).length=al.length* 96:=dE nD al;apply ws;apply acf (R:=R) h2 f2 (by omega) (by omega);apply ws;refine ace (R:=R) h3 f3 (by omega) (by rw[au,au,k2,aP];omega) ?_
 repeat' first|apply ws|apply wb|refine sQ ?_
 unfold yI at h;simp only[aH];exact T.dp h
def Kj[hh:Has R L](h1:np W R I1 1 rb res)(h2:np W R aO 14 ab al)(h3:np W R aM 16 tb tl)(l1:res.length<1000000)(l2:al.length<1000000)(l3:tl.length<1000000)(h:T W L (K (.s (bs (qq e res al tl))))):
 T W L (kO (nX e rb res.length rc ab al.length ac tb tl.length tc) K):=by
 unfold kO
 repeat' first|apply ws;intros|apply wb|refine OX h1 h2 h3 l1 l2 l3 ?_
 rename_i r1;unfold qq at h;cases hf:oE e res al tl with
 |true=>
  rw[ai hf] at h;apply ws;exact OU h1 h2 h3 hf h
 |false=>
  rw[af (by rw[hf];decide)] at h;apply ws;exact OU (R:=L) (rb:=none) (ab:=none) (tb:=none) (res:=[]) (al:=[]) (tl:=[]) np.nil np.nil np.nil (by decide) h
def SA(h:T W L (K (.s (bs (qq e [] [] []))))):T W L (kO [.i e,.l none 0 0,.l none 0 0,.l none 0 0] K):=
 Kj (R:=L) (rb:=none) (ab:=none) (tb:=none) (rc:=0) (ac:=0) (tc:=0) (res:=[]) (al:=[]) (tl:=[]) np.nil np.nil np.nil (by decide) (by decide) (by decide) h
end
structure Rm(n g:Nat)(S:VS):Prop where
 calm:Sep.Calm n S.D
 ends:∀j:Nat,j<n->Sep.Ends g (S.D.read (j:Int)).1
 lo:S.J.lo=((2+2* dv n:Nat):Int)
 hi:S.J.hi=(n:Int)
 Ms:S.J.lo<=S.J.at'
 Ss:S.J.at'<=S.J.hi
 seq:0<=S.J.seq/\S.J.seq<=1000000
 js:S.J.dL=false
 dL:S.dL=false
 bB:0<=S.bB/\S.bB<=g
def Lp{n a t g:Nat}{D:aZ}{number:Int}{s:BA}(hc:Sep.Calm n D)(he:∀j:Nat,j<n->Sep.Ends g (D.read (j:Int)).1)(cS:n<=4096)(h1:1<=number)(h2:number<=g+1)(hg:g+1<256)(hl:a+gB s.size<=t)(htn:t<=n):
 (eQ D (a:Nat) (t:Nat) number s).2=0/\Sep.Calm n (eQ D (a:Nat) (t:Nat) number s).1/\∀j:Nat,j<n->Sep.Ends (g+1) ((eQ D (a:Nat) (t:Nat) number s).1.read (j:Int)).1:=by
 obtain⟨f1,f2,f3,f4⟩:=PH (a:=a) (t:=t) (number:=number) (s:=s) hc cS ⟨h1,by omega⟩ hl htn;refine⟨f1,f2,λj hj=>?_⟩;by_cases AV:a<=j/\j<a+gB s.size
 ·obtain⟨q,rfl⟩:∃q,j=a+q:=⟨j-a,by omega⟩;have:=f3 q (by omega);rw[show((a+q:Nat):Int)=(a:Int)+q from by omega,this];obtain⟨m,rfl⟩:=bw (show 0<=number by omega);have AA:Sep.fk m (q:Int) (Sep.part s q):=⟨h1,by omega,by omega,by omega,by
   unfold Sep.part;rw[ByteArray.size_extract];omega⟩
  exact(CH AA).mono (by omega)
 ·rw[f4 j hj (by omega)];exact(he j hj).mono (by omega)
def M7{n g:Nat}{m:aA}{S:VS}(h:Rm n g S)(cS:n<=4096)(nU:12<=n)(hg:g+2<256)(AB:gB (cL (bo m)).length<=dv n)(hlen:(cL (bo m)).length<=425984):
 (fY n m S).2=0/\Rm n (g+2) (fY n m S).1/\(fY n m S).1.J.at'=S.J.lo/\(fY n m S).1.J.lo=S.J.lo/\(fY n m S).1.J.seq=S.J.seq/\(fY n m S).1.bB=S.bB+1:=by
 have rC:=zn (by omega) n h.ends;have hgi:=(xC S.D n).1;have AV:=pD nU (S.bB+1);have ht:=h.bB;have Lu:=h.seq;obtain⟨p1,p2,p3⟩:=Lp (a:=fa n (S.bB+1)) (t:=fa n (S.bB+1)+dv n) (g:=g) (number:=fe S.D n+1) (s:=bs (cL (bo m))) h.calm h.ends cS (by omega) (by omega) (by omega) (by rw[cf];omega) AV.2.1;have LG:=vR (S.bB+1);obtain⟨lw,hlw⟩:∃lw:Nat,low (S.bB+1)=(lw:Int)/\lw<2:=by
  rcases LG with hh|hh
  ·exact⟨0,hh,by decide⟩
  ·exact⟨1,hh,by decide⟩
 have hH:nS ⟨S.bB+1,fe S.D n+1,((cL (bo m)).length:Int),S.J.seq⟩:=by
  unfold nS;dsimp only;omega
 have hhl:(ko ⟨S.bB+1,fe S.D n+1,((cL (bo m)).length:Int),S.J.seq⟩).length=32:=by simp only[ko,au,aP]
 have zS:=h.calm.len;have cp:∀D1:aZ,Sep.Calm n D1->(∀j:Nat,j<n->Sep.Ends (g+1) (D1.read (j:Int)).1)->(tS D1 (fe S.D n+2) ⟨S.bB+1,fe S.D n+1,((cL (bo m)).length:Int),S.J.seq⟩).2=0/\Sep.Calm n (tS D1 (fe S.D n+2) ⟨S.bB+1,fe S.D n+1,((cL (bo m)).length:Int),S.J.seq⟩).1/\
  ∀j:Nat,j<n->Sep.Ends (g+2) ((tS D1 (fe S.D n+2) ⟨S.bB+1,fe S.D n+1,((cL (bo m)).length:Int),S.J.seq⟩).1.read (j:Int)).1:=by
  intro D1 c1 e1;have:=Lp (a:=lw) (t:=lw+1) (g:=g+1) (number:=fe S.D n+2) (s:=bs (ko ⟨S.bB+1,fe S.D n+1,((cL (bo m)).length:Int),S.J.seq⟩)) c1 e1 cS (by omega) (by omega) (by omega) (by rw[cf,hhl];show lw+1<=lw+1;omega) (by omega);have e:tS D1 (fe S.D n+2) ⟨S.bB+1,fe S.D n+1,((cL (bo m)).length:Int),S.J.seq⟩=eQ D1 ((lw:Nat):Int) ((lw+1:Nat):Int) (fe S.D n+2) (bs (ko ⟨S.bB+1,fe S.D n+1,((cL (bo m)).length:Int),S.J.seq⟩)):=by
   unfold tS eQ;rw[ai hH];dsimp only;rw[hlw.1]
   rfl
  rw[e];exact this
 unfold fY;rw[zS,af (by rw[h.dL];decide),af (λhh=>hh AB),af (by rw[Ar];exact λhh=>hh p1)];obtain⟨c1,c2,c3⟩:=cp (put S.D n (S.bB+1) (fe S.D n+1) (bs (cL (bo m)))).1 p2 p3;rw[af (λhh=>hh c1)];refine⟨rfl,⟨c2,c3,h.lo,h.hi,sS _,?_,h.seq,h.js,h.dL,?_⟩,rfl,rfl,rfl,rfl⟩
 ·have:=h.Ms;have:=h.Ss;show S.J.lo<=S.J.hi;omega
 ·show 0<=S.bB+1/\S.bB+1<=((g+2:Nat):Int);omega
def Rm.yc{n g:Nat}{S:VS}(h:Rm n g S):S.J.Ok S.D:=by
 have h2:=h.lo;have h5:=h.seq;have h7:=h.hi;exact⟨by omega,h.Ms,h.Ss,by rw[h.calm.len];omega,by omega⟩
def EH{n g:Nat}{S:VS}{s:BA}(h:Rm n g S)(cS:n<=4096)(hg:g+1<256)(Lu:S.J.seq<1000000)(hr:room S.J s.size):
 (oW S s).2=0/\Rm n (g+1) (oW S s).1/\(oW S s).1.J.at'=S.J.at'+(gB (12+s.size):Int)/\(oW S s).1.J.lo=S.J.lo/\(oW S s).1.J.seq=S.J.seq+1/\(oW S s).1.bB=S.bB:=by
 have rC:=zn (by omega) n h.ends;have hgi:=(xC S.D n).1;have B5:=h.lo;have BJ:=h.Ms;obtain⟨D',e1,e2,e3,e4,e5,e6,e7⟩:=U6 (n:=n) (number:=fe S.D n+1) (s:=s) h.calm cS h.yc h.js (by omega) (by omega) hr;unfold oW;rw[h.calm.len,e1];have ry:∀j:Nat,j<n->Sep.Ends (g+1) (D'.read (j:Int)).1:=λj hj=>by
  by_cases AV:S.J.at'<=j/\(j:Int)<S.J.at'+(gB (12+s.size):Int)
  ·obtain⟨q,hq⟩:=bw (show 0<=(j:Int) -S.J.at' by omega);have:=e5 q (by omega);rw[show(j:Int)=S.J.at'+(q:Int) from by omega,this];obtain⟨m,hm⟩:=bw (show 0<=fe S.D n+1 by omega);rw[hm];have AA:Sep.fk m (q:Int) (Sep.part (bs (df (S.J.seq+1) s)) q):=⟨by omega,by omega,by omega,by omega,by
    unfold Sep.part;rw[ByteArray.size_extract];omega⟩
   exact(CH AA).mono (by omega)
  ·rw[e6 j (by omega) (by omega) (by omega)];exact(h.ends j hj).mono (by omega)
 have Xt:=h.dL;have htu:=h.bB;have air:=h.seq;refine⟨rfl,⟨e2,ry,h.lo,h.hi,e4.Ms,e4.Ss,⟨?_,?_⟩,h.js,?_,?_⟩,rfl,rfl,rfl,rfl⟩
 ·show 0<=S.J.seq+1;omega
 ·show S.J.seq+1<=1000000;omega
 ·show(S.dL||_)=false;rw[Xt];rfl
 ·show 0<=S.bB/\S.bB<=((g+1:Nat):Int);omega
def QB{n g:Nat}{m:aA}{S:VS}{s:BA}(h:Rm n g S)(cS:n<=4096)(nU:12<=n)(hg:g+3<256)(AB:gB (cL (bo m)).length<=dv n)(hlen:(cL (bo m)).length<=425984)(Lu:S.J.seq<1000000)(hs:s.size<=32768)(hj:(gB (12+s.size):Int)<=S.J.hi-S.J.lo):
 (ja n m S s).2=0/\(ja n m S s).1.J.lo=S.J.lo/\(ja n m S s).1.J.seq=S.J.seq+1/\
  ((Rm n (g+1) (ja n m S s).1/\(ja n m S s).1.J.at'=S.J.at'+(gB (12+s.size):Int))\/
   (Rm n (g+3) (ja n m S s).1/\(ja n m S s).1.J.at'=S.J.lo+(gB (12+s.size):Int)/\S.J.hi<S.J.at'+(gB (12+s.size):Int))):=by
 unfold ja;by_cases hr:room S.J s.size
 ·rw[ai hr];obtain⟨a1,a2,a3,a4,a5,a6⟩:=EH h cS (by omega) Lu hr;exact⟨a1,a4,a5,.inl ⟨a2,a3⟩⟩
 ·rw[af hr];obtain⟨b1,b2,b3,b4,b5,b6⟩:=M7 h cS nU (by omega) AB hlen;have AW:(fY n m S).1.J.hi=S.J.hi:=by rw[b2.hi,h.hi]
  have G1:room (fY n m S).1.J s.size:=by
   refine⟨by omega,by omega,?_⟩;rw[ak,AW,b3];exact hj
  obtain⟨a1,a2,a3,a4,a5,a6⟩:=EH b2 cS (by omega) (by omega) G1;rw[af (λhh=>hh b1)];refine⟨a1,by rw[a4,b4],by rw[a5,b5],.inr ⟨a2,by rw[a3,b3],?_⟩⟩;unfold room at hr;rw[ak] at hr;omega
def Ck{q:jY}(hw:j0 q=true)(he:fW q=true):(dN q).length<=924:=by
 have Lz:q.op=1\/q.op=2\/q.op=3:=aS he;have hf:=mE hw;unfold dN;rw[au,aP];split
 ·rw[au,aP,dE nD];omega
 ·split
  ·rw[au,aP,dE oK];omega
  ·split
   ·rw[aP];omega
   ·omega
def Rm.mono{n g g':Nat}{S:VS}(h:Rm n g S)(hg:g<=g'):Rm n g' S:=
 ⟨h.calm,λj hj=>(h.ends j hj).mono hg,h.lo,h.hi,h.Ms,h.Ss,h.seq,h.js,h.dL,⟨h.bB.1,by have:=h.bB.2;omega⟩⟩
def Qj{k:Nat}(h:k<=936):gB k<=9:=by unfold gB;split<;>omega
def CN{n k:Nat}(hn:600<=n)(h:k<=23925):gB k<=dv n:=by unfold gB dv;split<;>omega
def yE{b:bh}(hg:fk b):(cL b).length<=23925:=by
 have:=hg.oS;have:=hg.many;rw[xa hg];omega
section
variable {W:World} {L R:LH} {K:VK} {X:WK} {a:bN} {t:cx} {q:jY} {s:vH}
def HC(h:T W L (K (.b (decide (m8 a))))):T W L (da (aO a) K):=by
 unfold da da.j1 da.j2 da.j3
 repeat' first|apply ws;intros|apply wb|apply db<;>intro h1
 all_goals (apply T.fin (T.dp h);congr 1;(rw[bZ];(try simp only[bz,false_iff,true_iff] at *)<;>(try simp only[m8,bp] at *)<;>omega))
def HB(h:T W L (K (.b (decide (kB t))))):T W L (bW (aM t) K):=by
 unfold bW bW.j1 bW.j2 bW.j3 bW.j4 bW.j5
 repeat' first|apply ws;intros|apply wb|apply db<;>intro h1
 all_goals (apply T.fin (T.dp h);congr 1;(rw[bZ];(try simp only[bz,false_iff,true_iff] at *)<;>(try simp only[kB,bp] at *)<;>omega))
def C'(h:T W L (K (.b (fW q)))):T W L (kN (fU q s) K):=by
 unfold kN;unfold fW at h
 repeat' first|apply ws;intros|apply wb|apply db<;>intro h1
 ·have h1:=aS h1;apply T.fin (T.dp h);congr 1;rw[decide_eq_decide];omega
 ·have h1:=bq h1;rw[aq (by omega)] at h;exact T.dp h
def Hy(h:T W L (K (.b (kz q)))):T W L (dS (fU q s) K):=by
 unfold dS dS.j1 dS.j2;apply ws;intros;apply db<;>intro g1
 ·have g1:q.op=1:=by simpa using g1
  unfold kz at h;rw[ai g1] at h;apply ws;apply fZ<;>intro g2
  ·rw[aw (by omega),dI] at h;apply ws;apply T.fin (T.dp h);congr 1;rw[decide_eq_decide];omega
  ·rw[aq (by omega),fK] at h;exact T.dp h
 have g1: ¬q.op=1:=by simpa using g1
 apply ws;apply db<;>intro g2
 ·have g2:q.op=2:=by simpa using g2
  unfold kz at h;rw[af g1,ai g2] at h;apply ws;apply fZ<;>intro g2
  ·rw[aw (by omega),dI] at h;apply ws;apply T.fin (T.dp h);congr 1;rw[decide_eq_decide];omega
  ·rw[aq (by omega),fK] at h;exact T.dp h
 have g2: ¬q.op=2:=by simpa using g2
 unfold kz at h;rw[af g1,af g2] at h;apply ws;apply db<;>intro g3
 ·have g3:q.op=3:=by simpa using g3
  rw[ai g3] at h;apply ws;apply fZ<;>intro g2
  ·rw[aw (by omega),dI] at h;apply ws;exact T.dp h
  ·rw[aq (by omega),fK] at h;exact T.dp h
 have g3: ¬q.op=3:=by simpa using g3
 rw[af g3] at h;exact T.dp h
def Hx(h:T W L (K (.b (nQ q)))):T W L (bm (fU q s) K):=by
 have main:∀(r1:Nat)(b1:Bool),b1=decide (q.op=4\/q.op=5)->T W (Sep.pt r1 (fU q s)::L) (bm.j1 K r1 b1):=λr1 b1 hb=>by
  unfold bm.j1 bm.j2;unfold nQ at h;by_cases XR:q.op=4\/q.op=5
  ·rw[ai XR] at h;rw[aw XR] at hb;subst hb;apply ws;apply fZ<;>intro g2
   ·rw[aw (by omega),dI] at h;apply ws;apply T.fin (T.dp h);congr 1;rw[decide_eq_decide];omega
   ·rw[aq (by omega),fK] at h;exact T.dp h
  ·rw[af XR] at h;rw[aq XR] at hb;subst hb;rw[dX];apply ws;intros;rename_i r2;have j6:∀b:Bool,b=decide (q.op=6/\0<=q.kq/\0<=q.xD/\1<=q.kX/\q.kX<=16)->T W (Sep.pt r2 (pW q)::Sep.pt r1 (fU q s)::L) (bm.j6 K r2 b):=λb hb=>by
    unfold bm.j6;cases b with
    |true=>
     have hc:=aS hb.symm;rw[ai hc.1,aw hc.2,dI] at h;apply ws;cases hd:q.wG with
     |true=>
      rw[hd] at h;apply ws;exact T.dp h
     |false=>
      rw[hd,Bool.false_or] at h;apply ws;exact T.dp h
    |false=>
     have hc:=bq hb.symm;apply ws;by_cases g6:q.op=6
     ·rw[ai g6,aq (λhh=>hc ⟨g6,hh⟩),fK] at h;exact T.dp h
     ·rw[af g6] at h;exact T.dp h
   have j5:∀b:Bool,b=decide (q.op=6/\0<=q.kq/\0<=q.xD/\1<=q.kX)->T W (Sep.pt r2 (pW q)::Sep.pt r1 (fU q s)::L) (bm.j5 K r2 b):=λb hb=>by
    unfold bm.j5;cases b with
    |true=>
     apply ws;apply j6 _;have:=aS hb.symm;rw[decide_eq_decide];omega
    |false=>
     apply ws;apply j6 _;have:=bq hb.symm;exact(aq (by omega)).symm
   have j4:∀b:Bool,b=decide (q.op=6/\0<=q.kq/\0<=q.xD)->T W (Sep.pt r2 (pW q)::Sep.pt r1 (fU q s)::L) (bm.j4 K r2 b):=λb hb=>by
    unfold bm.j4;cases b with
    |true=>
     apply ws;apply j5 _;have:=aS hb.symm;rw[decide_eq_decide];omega
    |false=>
     apply ws;apply j5 _;have:=bq hb.symm;exact(aq (by omega)).symm
   have j3:∀b:Bool,b=decide (q.op=6/\0<=q.kq)->T W (Sep.pt r2 (pW q)::Sep.pt r1 (fU q s)::L) (bm.j3 K r2 b):=λb hb=>by
    unfold bm.j3;cases b with
    |true=>
     apply ws;apply j4 _;have:=aS hb.symm;rw[decide_eq_decide];omega
    |false=>
     apply ws;apply j4 _;have:=bq hb.symm;exact(aq (by omega)).symm
   apply db<;>intro g6
   ·have g6:q.op=6:=by simpa using g6
    apply ws;apply j3 _;rw[decide_eq_decide];omega
   ·have g6: ¬q.op=6:=by simpa using g6
    apply j3 _;exact(aq (by omega)).symm
 unfold bm;apply ws;intros;apply db<;>intro g1
 ·have g1':q.op=4:=by simpa using g1
  exact main _ _ (aw (.inl g1')).symm
 ·have g1': ¬q.op=4:=by simpa using g1
  apply ws;exact main _ _ (by rw[bZ];simp[g1'])
def xt(q:jY):pF q=((q.aB.all λx=> !decide (q.op=1)||decide (m8 x))&&(q.bQ.all λx=> !decide (q.op=2)||decide (kB x))):=by
 unfold pF;by_cases h1:q.op=1
 ·rw[ai h1];have h2: ¬q.op=2:=by omega
  simp[h1]
 ·rw[af h1];by_cases h2:q.op=2
  ·rw[ai h2];simp[h2]
  ·rw[af h2];simp[h1,h2]
def Fe[hh:Has R L](hq:oq W R q s)(AT:q.aB.length<1000000)(cj:q.bQ.length<1000000){r1:Nat}{b1:Bool}(h:T W (Sep.pt r1 (fU q s)::L) (K (.b (!b1&&pF q)))):T W (Sep.pt r1 (fU q s)::L) (gP.j1 K r1 b1):=by
 unfold gP.j1;cases b1 with
 |true=>rw[kZ];exact h
 |false=>
  rw[OQ,dI] at h;rw[dX];apply ws;intro w jo;refine⟨λvv w=>∃i:Nat,i<=q.aB.length/\(q.aB.take i).all (λx=> !decide (q.op=1)||decide (m8 x))=true/\vv=[.p (ah r1),.b false,.l s.sa q.aB.length s.ca,.i (q.aB.length:Int),.i (i:Int)]/\St W w (Sep.pt r1 (fU q s)::L),
   mq 4 q.aB.length,⟨0,aE _,rfl,rfl,jo⟩,?_⟩
  rintro a1 b2 jJ iX jV n2 n3 w2 ⟨i,hi,fx,e,gI⟩;cases e
  refine T.at ?_ gI;have e5:=m9 i;apply fZ<;>intro g1
  ·have cj:i<q.aB.length:=by omega
   have gx:=aj cj;generalize q.aB[i]=x at gx;refine iq hq.aB ⟨by omega,by omega⟩ rfl λa ha=>?_;rw[ak];apply kd hq.aB ha gx rfl;apply ws;intros;rw[e5];have step:(!decide (q.op=1)||decide (m8 x))=true->T W (Sep.pt r1 (fU q s)::L) (λw=>(∃j:Nat,j<=q.aB.length/\(q.aB.take j).all (λx=> !decide (q.op=1)||decide (m8 x))=true/\[.p (ah r1),.b false,.l s.sa q.aB.length s.ca,.i (q.aB.length:Int),.i ((i+1:Nat):Int)]=[.p (ah r1),.b false,.l s.sa q.aB.length s.ca,.i (q.aB.length:Int),Value.int .i64 (j:Int)]/\St W w (Sep.pt r1 (fU q s)::L))/\q.aB.length-((i+1:Nat):Int).toNat<q.aB.length-(i:Int).toNat):=λhp w3 h3=>⟨⟨i+1,cj,by rw[qV gx fx];exact hp,rfl,h3⟩,by omega⟩;apply db<;>intro g2
   ·have g2:q.op=1:=by simpa using g2
    repeat' first|apply ws|apply wb|refine HC ?_
    by_cases hg:m8 x
    ·rw[aw hg];apply ws;apply T.drop;exact step (by rw[aw hg,Bool.or_true])
    ·rw[aq hg];apply ws;rw[xt,all_false (P:=λx=> !decide (q.op=1)||decide (m8 x)) gx (by rw[aq hg,aw g2];rfl)] at h;rw[fK] at h;exact T.drop h
   ·have g2: ¬q.op=1:=by simpa using g2
    apply T.drop;exact step (by rw[aq g2];rfl)
  ·have iO:i=q.aB.length:=by omega
   subst iO;rw[aV] at fx;have Uj:=fx;apply ws;intro w jo;refine⟨λvv w=>∃i:Nat,i<=q.bQ.length/\(q.bQ.take i).all (λx=> !decide (q.op=2)||decide (kB x))=true/\vv=[.p (ah r1),.b false,.l s.st q.bQ.length s.ct,.i (q.bQ.length:Int),.i (i:Int)]/\St W w (Sep.pt r1 (fU q s)::L),
    mq 4 q.bQ.length,⟨0,aE _,rfl,rfl,jo⟩,?_⟩
   rintro a1 b2 jJ iX jV n2 n3 w2 ⟨i,hi,fx,e,gI⟩;cases e
   refine T.at ?_ gI;have e5:=m9 i;apply fZ<;>intro g1
   ·have cj:i<q.bQ.length:=by omega
    have gx:=aj cj;generalize q.bQ[i]=x at gx;refine iq hq.bQ ⟨by omega,by omega⟩ rfl λa ha=>?_;rw[ak];apply kd hq.bQ ha gx rfl;apply ws;intros;rw[e5];have step:(!decide (q.op=2)||decide (kB x))=true->T W (Sep.pt r1 (fU q s)::L) (λw=>(∃j:Nat,j<=q.bQ.length/\(q.bQ.take j).all (λx=> !decide (q.op=2)||decide (kB x))=true/\[.p (ah r1),.b false,.l s.st q.bQ.length s.ct,.i (q.bQ.length:Int),.i ((i+1:Nat):Int)]=[.p (ah r1),.b false,.l s.st q.bQ.length s.ct,.i (q.bQ.length:Int),Value.int .i64 (j:Int)]/\St W w (Sep.pt r1 (fU q s)::L))/\q.bQ.length-((i+1:Nat):Int).toNat<q.bQ.length-(i:Int).toNat):=λhp w3 h3=>⟨⟨i+1,cj,by rw[qV gx fx];exact hp,rfl,h3⟩,by omega⟩;apply db<;>intro g2
    ·have g2:q.op=2:=by simpa using g2
     repeat' first|apply ws|apply wb|refine HB ?_
     by_cases hg:kB x
     ·rw[aw hg];apply ws;apply T.drop;exact step (by rw[aw hg,Bool.or_true])
     ·rw[aq hg];apply ws;rw[xt,all_false (P:=λx=> !decide (q.op=2)||decide (kB x)) gx (by rw[aq hg,aw g2];rfl)] at h;rw[Bool.and_false] at h;exact T.drop h
    ·have g2: ¬q.op=2:=by simpa using g2
     apply T.drop;exact step (by rw[aq g2];rfl)
   ·have iO:i=q.bQ.length:=by omega
    subst iO;rw[aV] at fx;rw[xt,Uj,fx] at h;exact h
def QY[hh:Has R L](hq:oq W R q s)(AT:q.aB.length<1000000)(cj:q.bQ.length<1000000)(h:T W L (K (.b (j0 q)))):T W L (gP (fU q s) K):=by
 unfold gP
 repeat' first|apply ws;intros|apply wb|refine Hy ?_
 unfold j0 at h;cases he:kz q with
 |true=>
  rw[he,Bool.true_or] at h;apply ws;exact Fe hq AT cj (T.drop h)
 |false=>
  rw[he,Bool.false_or] at h
  repeat' first|apply ws|apply wb|refine Hx ?_
  refine Fe hq AT cj (T.drop ?_);rw[Bool.not_not];exact h
end
def GD(m:aA)(mb:OA)(mc:Nat)(kb:OA)(kc:Nat):LV:=[.l mb m.dj.length mc,.l kb m.ax.length kc,.i m.clock,.i m.ay]
instance{m:aA}{mb kb:OA}{mc kc:Nat}:Gt (GD m mb mc kb kc) 0 (.l mb m.dj.length mc):=⟨rfl⟩
instance{m:aA}{mb kb:OA}{mc kc:Nat}:Gt (GD m mb mc kb kc) 1 (.l kb m.ax.length kc):=⟨rfl⟩
instance{m:aA}{mb kb:OA}{mc kc:Nat}:Gt (GD m mb mc kb kc) 2 (.i m.clock):=⟨rfl⟩
instance{m:aA}{mb kb:OA}{mc kc:Nat}:Gt (GD m mb mc kb kc) 3 (.i m.ay):=⟨rfl⟩
abbrev ML(p:Nat)(m:aA)(mb:OA)(mc:Nat)(kb:OA)(kc:Nat)(R:LH):LH:=Sep.pt p (GD m mb mc kb kc)::own mb m.dj.length mc 14 (m.dj.flatMap aO)::own kb m.ax.length kc 33 (m.ax.flatMap bM)::R
def FM{α:Type}(P:α->Bool)(l:List α):Int:=match l.findIdx? P with|some i=>(i:Int)|none=> -1
def HX{α:Type}{P:α->Bool}{l:List α}(h:∀x∈l,P x=false):FM P l= -1:=by
 unfold FM;rw[List.findIdx?_eq_none_iff.2 h]
def HW{α:Type}{P:α->Bool}{l:List α}{i:Nat}{x:α}(hx:l[i]?=some x)(hp:P x=true)(h:∀y∈l.take i,P y=false):FM P l=(i:Int):=by
 unfold FM;obtain⟨hi,he⟩:=av.1 hx;rw[(List.findIdx?_eq_some_iff_getElem (xs:=l) (p:=P)).2 ⟨hi,by rw[he];exact hp,λj hj=>by
  have T9:j<l.length:=Nat.lt_trans hj hi
  have:=h (l[j]) (List.mem_take_iff_getElem.2 ⟨j,by omega,rfl⟩)
  rw[this];exact cJ⟩]
def Hh{α:Type}{P:α->Bool}{l:List α}{i:Nat}{x:α}(hx:l[i]?=some x)(hp:P x=false)(h:∀y∈l.take i,P y=false):∀y∈l.take (i+1),P y=false:=λy hy=>by
 rw[ba,hx,dY] at hy;rcases hy with hy|hy
 ·exact h y hy
 ·cases(show y=x by simpa using hy);exact hp
section
variable {W:World} {L R:LH} {K:VK} {X:WK} {p:Nat} {m:aA} {mb kb:OA} {mc kc:Nat} {a:bN} {t:cx}
def xi(hm:m.dj.length<1000000){id:Nat}(h:T W (ML p m mb mc kb kc R) (K (.i (FM (λx:bN=>decide (x.id=id)) m.dj)))):T W (ML p m mb mc kb kc R) (fr (ah p) (nm id) K):=by
 unfold fr;apply ws;intros;rename_i r1;intro w jo;refine⟨λvv w=>∃i:Nat,i<=m.dj.length/\(∀x∈m.dj.take i,decide (x.id=id)=false)/\vv=[.p (some (ad r1 0)),.i 0,.l mb m.dj.length mc,.i (m.dj.length:Int),.i (i:Int)]/\St W w (Sep.pt r1 (nm id)::ML p m mb mc kb kc R),
  mq 4 m.dj.length,⟨0,aE _,(λx hx=>by cases hx),rfl,jo⟩,?_⟩
 rintro a2 n1 jJ iX jV n2 n3 w2 ⟨i,hi,fx,e,gI⟩;cases e
 refine T.at ?_ gI;have e5:=m9 i;apply fZ<;>intro g1
 ·have cj:i<m.dj.length:=by omega
  have gx:=aj cj;generalize m.dj[i]=x at gx;refine dT (b:=mb) ⟨by omega,by omega⟩ λrb hb=>?_;rw[ak];subst hb;apply ij jR gx;apply ws;intros;rw[e5];apply db<;>intro g2
  ·rw[HW gx g2 fx] at h;exact T.dp h
  ·refine T.drop λw3 h3=>⟨⟨i+1,cj,Hh gx g2 fx,rfl,h3⟩,dn (by omega)⟩
 ·have iO:i=m.dj.length:=by omega
  subst iO;rw[aV] at fx;rw[HX fx] at h;exact T.dp h
def I8(hm:m.ax.length<1000000){id:Nat}(h:T W (ML p m mb mc kb kc R) (K (.i (FM (λx:cr=>decide (x.move.id=id)) m.ax)))):T W (ML p m mb mc kb kc R) (ic (ah p) (nm id) K):=by
 unfold ic;apply ws;intros;rename_i r1;intro w jo;refine⟨λvv w=>∃i:Nat,i<=m.ax.length/\(∀x∈m.ax.take i,decide (x.move.id=id)=false)/\vv=[.p (some (ad r1 0)),.i 0,.l kb m.ax.length kc,.i (m.ax.length:Int),.i (i:Int)]/\St W w (Sep.pt r1 (nm id)::ML p m mb mc kb kc R),
  mq 4 m.ax.length,⟨0,aE _,(λx hx=>by cases hx),rfl,jo⟩,?_⟩
 rintro a2 n1 jJ iX jV n2 n3 w2 ⟨i,hi,fx,e,gI⟩;cases e
 refine T.at ?_ gI;have e5:=m9 i;apply fZ<;>intro g1
 ·have cj:i<m.ax.length:=by omega
  have gx:=aj cj;generalize m.ax[i]=x at gx;refine dT (b:=kb) ⟨by omega,by omega⟩ λrb hb=>?_;rw[ak];subst hb;apply ij jy gx;apply ws;intros;rw[e5];apply db<;>intro g2
  ·rw[HW gx g2 fx] at h;exact T.dp h
  ·refine T.drop λw3 h3=>⟨⟨i+1,cj,Hh gx g2 fx,rfl,h3⟩,dn (by omega)⟩
 ·have iO:i=m.ax.length:=by omega
  subst iO;rw[aV] at fx;rw[HX fx] at h;exact T.dp h
end
def vo{α:Type}(f:α->α)(i:Nat)(l:List α):List α:=(l.take i).map f++l.drop i
def Ry{α:Type}{f:α->α}{i:Nat}{l:List α}:(vo f i l).length=l.length:=by unfold vo;rw[au,bY,<-au,dk]
def N8{α:Type}{f:α->α}{l:List α}:vo f 0 l=l:=rfl
def Rz{α:Type}{f:α->α}{l:List α}:vo f l.length l=l.map f:=by unfold vo;rw[aV,Hc,bO]
def LQ{α:Type}{f:α->α}{i:Nat}{l:List α}{x:α}(hx:l[i]?=some x):(vo f i l)[i]?=some x:=by
 obtain⟨hi,he⟩:=av.1 hx;unfold vo;rw[iJ (by simp;omega),bY,aC,nA (by omega),jS,lC,gK];exact hx
def Ia{α:Type}{f:α->α}{i:Nat}{l:List α}{x:α}(hx:l[i]?=some x):(vo f i l).set i (f x)=vo f (i+1) l:=by
 obtain⟨hi,he⟩:=av.1 hx;unfold vo;have h1:((l.take i).map f).length=i:=by rw[bY,aC,nA (by omega)]
 rw[List.set_append_right _ _ (by omega),h1,jS,gZ hi,List.set_cons_zero,ba,hx];simp
def N9{α:Type}{f:α->α}{i:Nat}{l:List α}{x:α}(hx:l[i]?=some x)(hf:f x=x):vo f (i+1) l=vo f i l:=by
 rw[<-Ia hx,hf];have:=LQ (f:=f) hx;obtain⟨hi,he⟩:=av.1 this;rw[<-he,List.set_getElem_self]
section
variable {W:World} {L R:LH} {K:VK} {X:WK} {p:Nat} {m:aA} {mb kb:OA} {mc kc:Nat} {a:bN} {t:cx}
def Cn(hm:m.ax.length<1000000)(hb:∀k∈m.ax,aa.wrap (k.move.jO+k.move.cA)=k.move.jO+k.move.cA)
 (h:T W (ML p {m with ax:=m.ax.map (F2 m.clock)} mb mc kb kc R) (K (.tuple ⟨[]⟩))):T W (ML p m mb mc kb kc R) (cM (ah p) K):=by
 unfold cM;apply ws;intro w jo;refine⟨λvv w=>∃(i:Nat)(l:List cr),i<=m.ax.length/\l=vo (F2 m.clock) i m.ax/\vv=[.l kb m.ax.length kc,.i (m.ax.length:Int),.i (i:Int)]/\St W w (Sep.pt p (GD m mb mc kb kc)::own mb m.dj.length mc 14 (m.dj.flatMap aO)::own kb m.ax.length kc 33 (l.flatMap bM)::R),
  mq 2 m.ax.length,⟨0,m.ax,aE _,N8.symm,rfl,jo⟩,?_⟩
 rintro jJ iX jV n1 n2 w2 ⟨i,l,hi,hl,e,gI⟩;cases e
 refine T.at ?_ gI;have e5:=m9 i;have H3:l.length=m.ax.length:=by rw[hl];exact Ry
 apply fZ<;>intro g1
 ·have cj:i<m.ax.length:=by omega
  have gx:=aj cj;have hbx:=hb _ (cb cj);generalize m.ax[i]=x at gx hbx;have gl:l[i]?=some x:=by rw[hl];exact LQ gx
  refine dT (b:=kb) ⟨by omega,by omega⟩ λrb wE=>?_;rw[ak];subst wE;apply ij jy gl;have main:∀(r1:Nat)(b1:Bool),b1=decide (nr m.clock x)->T W (Sep.pt r1 (bM x)::Sep.pt p (GD m mb mc (ah rb) kc)::own mb m.dj.length mc 14 (m.dj.flatMap aO)::own (ah rb) m.ax.length kc 33 (l.flatMap bM)::R)
                                                      (cM.j1 K (ah p) (i:Int) (λvv w=>∃(i:Nat)(l:List cr),i<=m.ax.length/\l=vo (F2 m.clock) i m.ax/\vv=[.l (ah rb) m.ax.length kc,.i (m.ax.length:Int),.i (i:Int)]/\St W w (Sep.pt p (GD m mb mc (ah rb) kc)::own mb m.dj.length mc 14 (m.dj.flatMap aO)::own (ah rb) m.ax.length kc 33 (l.flatMap bM)::R)) (ah rb) m.ax.length kc (m.ax.length:Int) (mq 2 m.ax.length) w2 b1):=λr1 b1 V1=>by
   unfold cM.j1;rw[e5];cases b1 with
   |true=>
    have hov:=aS V1.symm;apply ws;refine dT (b:=ah rb) ⟨by omega,by omega⟩ λrb2 wE=>?_;cases wE
    rw[ak];apply O0;apply EO (o:=i) (x:=x) (y:={x with fate:=4}) jy gl rfl (by decide) rfl;refine T.drop λw3 h3=>⟨⟨i+1,_,cj,?_,rfl,h3⟩,dn (by omega)⟩;rw[<-Ia gx,hl];unfold F2;rw[ai hov]
   |false=>
    have hov:=bq V1.symm;rw[dX];refine T.drop λw3 h3=>⟨⟨i+1,_,cj,?_,rfl,h3⟩,dn (by omega)⟩;rw[N9 gx (by unfold F2;rw[af hov]),hl]
  apply ws;intros;apply db<;>intro g2
  ·have g2:x.fate=1:=by simpa using g2
   apply ws;apply fZ<;>intro g3
   ·apply ws;rw[hbx];apply main _ _;rw[decide_eq_decide];exact⟨λhh=>⟨g2,g3,hh⟩,λhh=>hh.2.2⟩
   ·exact main _ _ (aq (λhh=>g3 hh.2.1)).symm
  ·have g2: ¬x.fate=1:=by simpa using g2
   exact main _ _ (aq (λhh=>g2 hh.1)).symm
 ·have iO:i=m.ax.length:=by omega
  subst iO;rw[Rz] at hl;subst hl;unfold ML GD at h;simp only[bY] at h;exact h
instance acb{m:aA}{mb kb:OA}{mc kc:Nat}{c:Int}:Wr (GD m mb mc kb kc) 2 [.i c] (GD {m with clock:=c} mb mc kb kc):=⟨rfl,by show 3<=4;decide,λv h=>by simp at h;subst h;rfl⟩
def WO{now:Int}(hm:m.ax.length<1000000)(hb:∀k∈m.ax,aa.wrap (k.move.jO+k.move.cA)=k.move.jO+k.move.cA)
 (h:T W (ML p (m.time now) mb mc kb kc R) (K (.tuple ⟨[]⟩))):T W (ML p m mb mc kb kc R) (kG (ah p) now K):=by
 unfold kG;rw[IH] at h;unfold uI at h;apply ws;apply fZ<;>intro g1
 ·apply fZ<;>intro g2
  ·rw[ai ⟨g1,g2⟩] at h;apply ws;apply Cn (m:={m with clock:=now}) hm hb;apply ws;exact h
  ·rw[af (λhh=>g2 hh.2)] at h;apply Cn hm hb;apply ws;exact h
 ·rw[af (λhh=>g1 hh.1)] at h;apply Cn hm hb;apply ws;exact h
end
def zp{f b:Int}(h0:0<=f)(h1:f<1000000)(hb:1<=b):aa.wrap (f.tdiv b)=f/b:=by
 rw[Int.tdiv_eq_ediv_of_nonneg h0];have h2:=Int.ediv_nonneg h0 (show 0<=b by omega);have h3:=Int.ediv_le_self b h0;exact aX (by omega)
def UX{f b:Int}(h0:0<=f)(h1:f<1000000)(hb:1<=b):(((aa.wrap (f.tdiv b)).tmod (2:Int))==1)=decide (has f b):=by
 rw[zp h0 h1 hb,dB (Int.ediv_nonneg h0 (by omega))];rw[bZ,vL,decide_eq_true_eq];exact Iff.rfl
section
variable {W:World} {L R:LH} {K:VK} {X:WK} {a b:bN} {t u:cx}
def K0{f n:Int}(h0:0<=f/\f<1000000)(hn:1<=n)(h:T W L (K (.b (decide (has f n))))):T W L (mY f n K):=by
 unfold mY;apply dJ (by omega);apply dJ (by decide);rw[UX h0.1 h0.2 hn];exact h
def NH(ha:0<=a.ao/\a.ao<256)(hb:0<=b.ao/\b.ao<256)(h:T W L (K (.i (qG a b)))):T W L (ib (aO a) (aO b) K):=by
 unfold ib ib.j1;have e1:(aa.wrap (a.ao.tdiv 2)).tmod 4=a.ao/2%4:=by rw[zp ha.1 (by omega) (by decide),dB (by omega)]
 have e2:(aa.wrap (b.ao.tdiv 2)).tmod 4=b.ao/2%4:=by rw[zp hb.1 (by omega) (by decide),dB (by omega)]
 unfold qG at h;apply ws;intros;apply db<;>intro g1
 ·have g1:a.bF=b.bF:=by simpa using g1
  apply ws;apply db<;>intro g2
  ·have g2:a.code=b.code:=by simpa using g2
   repeat' first|apply ws|apply wb|refine dJ (by decide) ?_
   apply db<;>intro g3
   ·rw[e1,e2] at g3;have g3:a.ao/2%4=b.ao/2%4:=by simpa using g3
    rw[ai ⟨g1,g2,g3⟩] at h;exact T.dp h
   ·rw[e1,e2] at g3;have g3: ¬a.ao/2%4=b.ao/2%4:=by simpa using g3
    rw[af (λhh=>g3 hh.2.2)] at h;exact T.dp h
  ·have g2: ¬a.code=b.code:=by simpa using g2
   rw[af (λhh=>g2 hh.2.1)] at h;exact T.dp h
 ·have g1: ¬a.bF=b.bF:=by simpa using g1
  rw[af (λhh=>g1 hh.1)] at h;apply ws;exact T.dp h
def lj{n:Int}(h0:0<=t.ao/\t.ao<1000000)(hn:1<=n)(h:T W L (K (.b (decide (has t.ao n))))):T W L (bV (aM t) n K):=by
 unfold bV;apply ws;intros;apply dJ (by omega);apply dJ (by decide);rw[UX h0.1 h0.2 hn];exact T.dp h
def wm(h0:0<=t.ao/\t.ao<1000000)(h:T W L (K (.b (decide (jM t.ao))))):T W L (gQ (aM t) K):=by
 unfold gQ;apply ws;intros;apply lj h0 (by decide);apply ws;by_cases h4:has t.ao 4
 ·rw[aw (show jM t.ao from .inl h4)] at h;rw[aw h4];apply ws;exact T.dp h
 ·rw[aq h4];apply ws;apply lj h0 (by decide);apply ws;have e:decide (jM t.ao)=decide (has t.ao 8):=by rw[decide_eq_decide];exact⟨λhh=>hh.resolve_left h4,.inr⟩
  rw[e] at h;exact T.dp h
end
def sm(x:Int):IntKind.u64.wrap x=x%18446744073709551616:=by
 unfold IntKind.wrap;simp[IntKind.signed,IntKind.bits]
section
variable {W:World} {L R:LH} {K:VK} {X:WK} {a b:Nat}
def Ap{r3:Nat}{n1 n2 n7:Int}{b1:Bool}(hb:b1=decide (¬a+b<bJ))(h0: ¬b1=true->n7=(((a+b)/18446744073709551616:Nat):Int)/\IntKind.u64.wrap (n1+n2)=(((a+b)%18446744073709551616:Nat):Int))
 (h:T W L (K (.tuple ⟨[.agg ⟨nm (add a b)⟩,.b (decide (a+b<bJ))]⟩))):T W (Sep.pt r3 [.u 0,.u 0]::L) (dx.j1 K r3 n1 n2 n7 b1):=by
 unfold dx.j1;unfold add at h;cases b1 with
 |true=>
  have hb:=aS hb.symm;rw[af hb,aq hb] at h;apply ws;exact T.dp h
 |false=>
  have hb:=bq hb.symm;have wE:a+b<bJ:=by omega
  rw[ai wE,aw wE] at h;obtain⟨e1,e2⟩:=h0 (by decide);rw[e1,e2];apply ws;exact T.dp h
def uq(ha:a<bJ)(hb:b<bJ)(h:T W L (K (.tuple ⟨[.agg ⟨nm (add a b)⟩,.b (decide (a+b<bJ))]⟩))):T W L (dx (nm a) (nm b) K):=by
 unfold dx;unfold nm;unfold bJ at ha hb;have e1:IntKind.u64.wrap (((a%18446744073709551616:Nat):Int)+((b%18446744073709551616:Nat):Int))=(((a+b)%18446744073709551616:Nat):Int):=by rw[sm];omega
 apply ws;intros;apply fZ<;>intro g1
 ·rw[e1] at g1;apply fZ<;>intro g2
  ·rw[sm] at g2;refine Ap (a:=a) (b:=b) (aw (by unfold bJ;omega)).symm (λhh=>aQ rfl hh) ?_;exact T.dp h
  ·rw[sm] at g2;refine Ap (a:=a) (b:=b) ?_ (λhh=>⟨?_,e1⟩) ?_
   ·rw[bZ,vL,decide_eq_true_eq,sm,sm];unfold bJ;omega
   ·rw[vL,sm,sm] at hh;rw[sm,sm];omega
   ·exact T.dp h
 ·rw[e1] at g1;refine Ap (a:=a) (b:=b) ?_ (λhh=>⟨?_,e1⟩) ?_
  ·rw[decide_eq_decide,sm];unfold bJ;omega
  ·rw[decide_eq_true_eq,sm] at hh;rw[sm];omega
  ·exact T.dp h
def Bo(ha:a<bJ)(hb:b<bJ)(h:T W L (K (.agg ⟨nm (add a b)⟩))):T W L (jG (nm a) (nm b) K):=by
 unfold jG;apply ws;intros;apply uq ha hb;apply ws;intros;exact T.dp h
end
def CR(I1:LV->World->Prop)(μ1:LV->World->Nat)(w2:World)(a4 a5:Addr)(sr:OA)(oD sq:Nat)(n2 n3:Int):WK:=λw3=>
 I1 [.p (some a4),.p (some a5),.l sr oD sq,.i n2,.i (aa.wrap (n3+1))] w3/\μ1 [.p (some a4),.p (some a5),.l sr oD sq,.i n2,.i (aa.wrap (n3+1))] w3<μ1 [.p (some a4),.p (some a5),.l sr oD sq,.i n2,.i n3] w2
section
variable {W w2:World} {L R:LH} {K:VK} {r2 r3 r4:Nat} {a:bN} {k:cr} {I1:LV->World->Prop} {μ1:LV->World->Nat} {a4:Addr} {sr:OA} {oD sq:Nat} {n2 n3:Int}
def U7{b:Bool}(hf:0<=a.ao/\a.ao<1000000)(hb:b=decide (kF a.id k))
 (h:T W (Sep.pt r4 (aM k.move)::Sep.pt r3 (bM k)::Sep.pt r2 (aO {a with ao:=if kF a.id k then a.ao%8+8 else a.ao})::L) (CR I1 μ1 w2 a4 (ad r2 0) sr oD sq n2 n3)):
 T W (Sep.pt r4 (aM k.move)::Sep.pt r3 (bM k)::Sep.pt r2 (aO a)::L) (ar.Xp K (ad r2 0) I1 a4 sr oD sq n2 n3 μ1 w2 b):=by
 unfold ar.Xp;have e1:aa.wrap (a.ao.tmod 8+8)=a.ao%8+8:=by rw[dB hf.1];exact aX (by omega)
 cases b with
 |true=>
  rw[ai (aS hb.symm)] at h
  repeat' first|apply ws|apply wb|refine dJ (by decide) ?_
  rw[e1];exact h
 |false=>
  rw[af (bq hb.symm)] at h;rw[dX];exact h
def U8{b:Bool}(hf:0<=a.ao/\a.ao<1000000)(hb:b=decide (has k.move.ao 64/\k.move.bC=a.id\/has k.move.ao 128/\k.move.aU=a.id))
 (h:T W (Sep.pt r4 (aM k.move)::Sep.pt r3 (bM k)::Sep.pt r2 (aO {a with ao:=if kF a.id k then a.ao%8+8 else a.ao})::L) (CR I1 μ1 w2 a4 (ad r2 0) sr oD sq n2 n3)):
 T W (Sep.pt r4 (aM k.move)::Sep.pt r3 (bM k)::Sep.pt r2 (aO a)::L) (ar.Jh K r3 (ad r2 0) I1 a4 sr oD sq n2 n3 μ1 w2 b):=by
 unfold ar.Jh;cases b with
 |true=>
  have hc:=aS hb.symm;apply ws;apply db<;>intro g1
  ·have g1:k.fate=1:=by simpa using g1
   exact U7 hf (aw (show kF a.id k from⟨hc,.inl g1⟩)).symm h
  ·have g1: ¬k.fate=1:=by simpa using g1
   apply ws;refine U7 hf ?_ h;rw[bZ,vL,decide_eq_true_eq];exact⟨λhh=>⟨hc,.inr hh⟩,λhh=>hh.2.resolve_left g1⟩
 |false=>
  have hc:=bq hb.symm;rw[dX];exact U7 hf (aq (show ¬kF a.id k from λhh=>hc hh.1)).symm h
def ZS{b:Bool}(hf:0<=a.ao/\a.ao<1000000)(hm:0<=k.move.ao/\k.move.ao<1000000)(hb:b=decide (has k.move.ao 64/\k.move.bC=a.id))
 (h:T W (Sep.pt r4 (aM k.move)::Sep.pt r3 (bM k)::Sep.pt r2 (aO {a with ao:=if kF a.id k then a.ao%8+8 else a.ao})::L) (CR I1 μ1 w2 a4 (ad r2 0) sr oD sq n2 n3)):
 T W (Sep.pt r4 (aM k.move)::Sep.pt r3 (bM k)::Sep.pt r2 (aO a)::L) (ar.Zo K r3 (ad r2 0) I1 a4 sr oD sq n2 n3 μ1 w2 r4 b):=by
 unfold ar.Zo;cases b with
 |true=>
  have hc:=aS hb.symm;rw[kZ];exact U8 hf (aw (.inl hc)).symm h
 |false=>
  have hc:=bq hb.symm;rw[dX];apply ws;apply lj hm (by decide);apply ws;by_cases g1:has k.move.ao 128
  ·rw[aw g1];apply ws;refine U8 hf ?_ h;rw[decide_eq_decide];exact⟨λhh=>.inr ⟨g1,hh⟩,λhh=>(hh.resolve_left hc).2⟩
  ·rw[aq g1];apply ws;exact U8 hf (aq (λhh=>g1 (hh.resolve_left hc).1)).symm h
def ah2(hf:0<=a.ao/\a.ao<1000000)(hm:0<=k.move.ao/\k.move.ao<1000000)
 (h:T W (Sep.pt r4 (aM k.move)::Sep.pt r3 (bM k)::Sep.pt r2 (aO {a with ao:=if kF a.id k then a.ao%8+8 else a.ao})::L) (CR I1 μ1 w2 a4 (ad r2 0) sr oD sq n2 n3)):
 T W (Sep.pt r4 (aM k.move)::Sep.pt r3 (bM k)::Sep.pt r2 (aO a)::L) (ar.j9 K r4 (ad r2 0) r3 I1 a4 sr oD sq n2 n3 μ1 w2):=by
 unfold ar.j9;apply ws;apply lj hm (by decide);apply ws;by_cases g1:has k.move.ao 64
 ·rw[aw g1];apply ws;refine ZS hf hm ?_ h;rw[decide_eq_decide];exact⟨λhh=>⟨g1,hh⟩,λhh=>hh.2⟩
 ·rw[aq g1];apply ws;exact ZS hf hm (aq (λhh=>g1 hh.1)).symm h
def ah3{b:Bool}(h1:a.cp<bJ)(h2:k.move.aT<bJ)(h:T W (Sep.pt r4 (aM k.move)::Sep.pt r3 (bM k)::Sep.pt r2 (aO {a with cp:=if b=true then add a.cp k.move.aT else a.cp})::L) (ar.j9 K r4 (ad r2 0) r3 I1 a4 sr oD sq n2 n3 μ1 w2)):T W (Sep.pt r4 (aM k.move)::Sep.pt r3 (bM k)::Sep.pt r2 (aO a)::L) (ar.j8 K (ad r2 0) r4 r3 I1 a4 sr oD sq n2 n3 μ1 w2 b):=by
 unfold ar.j8;cases b with
 |true=>
  rw[ai rfl] at h;apply ws;apply Bo h1 h2;apply ws;exact h
 |false=>
  rw[af cJ] at h;rw[dX];exact h
def ah4(h1:a.cp<bJ)(h2:k.move.aT<bJ)(h:T W (Sep.pt r4 (aM k.move)::Sep.pt r3 (bM k)::Sep.pt r2 (aO {a with cp:=if k.fate=1/\k.move.aU=a.id then add a.cp k.move.aT else a.cp})::L) (ar.j9 K r4 (ad r2 0) r3 I1 a4 sr oD sq n2 n3 μ1 w2)):T W (Sep.pt r4 (aM k.move)::Sep.pt r3 (bM k)::Sep.pt r2 (aO a)::L) (ar.j7 K r3 r4 (ad r2 0) I1 a4 sr oD sq n2 n3 μ1 w2):=by
 unfold ar.j7;have fin:∀b:Bool,b=decide (k.fate=1/\k.move.aU=a.id)->T W (Sep.pt r4 (aM k.move)::Sep.pt r3 (bM k)::Sep.pt r2 (aO a)::L) (ar.j8 K (ad r2 0) r4 r3 I1 a4 sr oD sq n2 n3 μ1 w2 b):=λb hb=>by
  apply ah3 h1 h2;have e:(if b=true then add a.cp k.move.aT else a.cp)=(if k.fate=1/\k.move.aU=a.id then add a.cp k.move.aT else a.cp):=by
   subst hb;by_cases hc:k.fate=1/\k.move.aU=a.id
   ·rw[ai (aw hc),ai hc]
   ·rw[af (by rw[aq hc];exact cJ),af hc]
  rw[e];exact h
 apply ws;apply db<;>intro g1
 ·have g1:k.fate=1:=by simpa using g1
  apply ws;apply fin _;rw[decide_eq_decide];exact⟨λhh=>⟨g1,hh⟩,λhh=>hh.2⟩
 ·have g1: ¬k.fate=1:=by simpa using g1
  exact fin _ (aq (λhh=>g1 hh.1)).symm
def ah5{b:Bool}(h1:a.dp<bJ)(h2:k.move.aT<bJ)(h:T W (Sep.pt r4 (aM k.move)::Sep.pt r3 (bM k)::Sep.pt r2 (aO {a with dp:=if b=true then add a.dp k.move.aT else a.dp})::L) (ar.j7 K r3 r4 (ad r2 0) I1 a4 sr oD sq n2 n3 μ1 w2)):T W (Sep.pt r4 (aM k.move)::Sep.pt r3 (bM k)::Sep.pt r2 (aO a)::L) (ar.j6 K (ad r2 0) r4 r3 I1 a4 sr oD sq n2 n3 μ1 w2 b):=by
 unfold ar.j6;cases b with
 |true=>
  rw[ai rfl] at h;apply ws;apply Bo h1 h2;apply ws;exact h
 |false=>
  rw[af cJ] at h;rw[dX];exact h
def ah6(h1:a.dp<bJ)(h2:k.move.aT<bJ)(h:T W (Sep.pt r4 (aM k.move)::Sep.pt r3 (bM k)::Sep.pt r2 (aO {a with dp:=if k.fate=1/\k.move.bC=a.id then add a.dp k.move.aT else a.dp})::L) (ar.j7 K r3 r4 (ad r2 0) I1 a4 sr oD sq n2 n3 μ1 w2)):T W (Sep.pt r4 (aM k.move)::Sep.pt r3 (bM k)::Sep.pt r2 (aO a)::L) (ar.j5 K r3 r4 (ad r2 0) I1 a4 sr oD sq n2 n3 μ1 w2):=by
 unfold ar.j5;have fin:∀b:Bool,b=decide (k.fate=1/\k.move.bC=a.id)->T W (Sep.pt r4 (aM k.move)::Sep.pt r3 (bM k)::Sep.pt r2 (aO a)::L) (ar.j6 K (ad r2 0) r4 r3 I1 a4 sr oD sq n2 n3 μ1 w2 b):=λb hb=>by
  apply ah5 h1 h2;have e:(if b=true then add a.dp k.move.aT else a.dp)=(if k.fate=1/\k.move.bC=a.id then add a.dp k.move.aT else a.dp):=by
   subst hb;by_cases hc:k.fate=1/\k.move.bC=a.id
   ·rw[ai (aw hc),ai hc]
   ·rw[af (by rw[aq hc];exact cJ),af hc]
  rw[e];exact h
 apply ws;apply db<;>intro g1
 ·have g1:k.fate=1:=by simpa using g1
  apply ws;apply fin _;rw[decide_eq_decide];exact⟨λhh=>⟨g1,hh⟩,λhh=>hh.2⟩
 ·have g1: ¬k.fate=1:=by simpa using g1
  exact fin _ (aq (λhh=>g1 hh.1)).symm
def ah7{b:Bool}(h1:a.cq<bJ)(h2:k.move.aT<bJ)(h:T W (Sep.pt r4 (aM k.move)::Sep.pt r3 (bM k)::Sep.pt r2 (aO {a with cq:=if b=true then add a.cq k.move.aT else a.cq})::L) (ar.j5 K r3 r4 (ad r2 0) I1 a4 sr oD sq n2 n3 μ1 w2)):T W (Sep.pt r4 (aM k.move)::Sep.pt r3 (bM k)::Sep.pt r2 (aO a)::L) (ar.j4 K (ad r2 0) r4 r3 I1 a4 sr oD sq n2 n3 μ1 w2 b):=by
 unfold ar.j4;cases b with
 |true=>
  rw[ai rfl] at h;apply ws;apply Bo h1 h2;apply ws;exact h
 |false=>
  rw[af cJ] at h;rw[dX];exact h
def ah8{b1:Bool}(h1:a.cq<bJ)(h2:k.move.aT<bJ)(h:T W (Sep.pt r4 (aM k.move)::Sep.pt r3 (bM k)::Sep.pt r2 (aO {a with cq:=if b1=true/\k.move.aU=a.id then add a.cq k.move.aT else a.cq})::L) (ar.j5 K r3 r4 (ad r2 0) I1 a4 sr oD sq n2 n3 μ1 w2)):T W (Sep.pt r4 (aM k.move)::Sep.pt r3 (bM k)::Sep.pt r2 (aO a)::L) (ar.j3 K b1 r4 (ad r2 0) r3 I1 a4 sr oD sq n2 n3 μ1 w2):=by
 unfold ar.j3;have fin:∀b:Bool,b=decide (b1=true/\k.move.aU=a.id)->T W (Sep.pt r4 (aM k.move)::Sep.pt r3 (bM k)::Sep.pt r2 (aO a)::L) (ar.j4 K (ad r2 0) r4 r3 I1 a4 sr oD sq n2 n3 μ1 w2 b):=λb hb=>by
  apply ah7 h1 h2;have e:(if b=true then add a.cq k.move.aT else a.cq)=(if b1=true/\k.move.aU=a.id then add a.cq k.move.aT else a.cq):=by
   subst hb;by_cases hc:b1=true/\k.move.aU=a.id
   ·rw[ai (aw hc),ai hc]
   ·rw[af (by rw[aq hc];exact cJ),af hc]
  rw[e];exact h
 cases b1 with
 |true=>
  apply ws;apply fin _;rw[decide_eq_decide];exact⟨λhh=>⟨rfl,hh⟩,λhh=>hh.2⟩
 |false=>
  rw[dX];exact fin _ (aq (λhh=>cJ hh.1)).symm
def ah9{b:Bool}{b1:Bool}(h1:a.dq<bJ)(h2:k.move.aT<bJ)(h:T W (Sep.pt r4 (aM k.move)::Sep.pt r3 (bM k)::Sep.pt r2 (aO {a with dq:=if b=true then add a.dq k.move.aT else a.dq})::L) (ar.j3 K b1 r4 (ad r2 0) r3 I1 a4 sr oD sq n2 n3 μ1 w2)):T W (Sep.pt r4 (aM k.move)::Sep.pt r3 (bM k)::Sep.pt r2 (aO a)::L) (ar.j2 K (ad r2 0) r4 b1 r3 I1 a4 sr oD sq n2 n3 μ1 w2 b):=by
 unfold ar.j2;cases b with
 |true=>
  rw[ai rfl] at h;apply ws;apply Bo h1 h2;apply ws;exact h
 |false=>
  rw[af cJ] at h;rw[dX];exact h
def ah'{b1:Bool}(h1:a.dq<bJ)(h2:k.move.aT<bJ)(h:T W (Sep.pt r4 (aM k.move)::Sep.pt r3 (bM k)::Sep.pt r2 (aO {a with dq:=if b1=true/\k.move.bC=a.id then add a.dq k.move.aT else a.dq})::L) (ar.j3 K b1 r4 (ad r2 0) r3 I1 a4 sr oD sq n2 n3 μ1 w2)):T W (Sep.pt r4 (aM k.move)::Sep.pt r3 (bM k)::Sep.pt r2 (aO a)::L) (ar.j1 K r4 (ad r2 0) r3 I1 a4 sr oD sq n2 n3 μ1 w2 b1):=by
 unfold ar.j1;have fin:∀b:Bool,b=decide (b1=true/\k.move.bC=a.id)->T W (Sep.pt r4 (aM k.move)::Sep.pt r3 (bM k)::Sep.pt r2 (aO a)::L) (ar.j2 K (ad r2 0) r4 b1 r3 I1 a4 sr oD sq n2 n3 μ1 w2 b):=λb hb=>by
  apply ah9 h1 h2;have e:(if b=true then add a.dq k.move.aT else a.dq)=(if b1=true/\k.move.bC=a.id then add a.dq k.move.aT else a.dq):=by
   subst hb;by_cases hc:b1=true/\k.move.bC=a.id
   ·rw[ai (aw hc),ai hc]
   ·rw[af (by rw[aq hc];exact cJ),af hc]
  rw[e];exact h
 cases b1 with
 |true=>
  apply ws;apply fin _;rw[decide_eq_decide];exact⟨λhh=>⟨rfl,hh⟩,λhh=>hh.2⟩
 |false=>
  rw[dX];exact fin _ (aq (λhh=>cJ hh.1)).symm
end
end Go.Up
