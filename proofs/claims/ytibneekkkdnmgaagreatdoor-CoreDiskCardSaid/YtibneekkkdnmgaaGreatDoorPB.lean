/- Part of the proof: see the last text. -/
import Derived.Test.YtibneekkkdnmgaaGreatDoorPA
import Derived.ProofKit
import Derived.OpenShut
import Derived.ChangeOld
import Derived.SizedLaws
import Derived.Carry
import Derived.Deep.Slices
import Derived.Laws.StructEq
set_option linter.all false
set_option maxRecDepth 100000
set_option synthInstance.maxSize 100000
open Array renaming ext'→va,replicate→jX
open Bool renaming false_ne_true→cN,true_and→eG,noConfusion→rN,false_eq_true→cJ,eq_iff_iff→cf,and_eq_true→dI
open Decidable renaming not_not→bm
open Go.IntKind renaming i64→aa
open Int renaming toNat_natCast→ak,tmod_eq_emod_of_nonneg→dX,eq_ofNat_of_zero_le→bt,fdiv_eq_ediv_of_nonneg→HH
open List renaming mem_cons→kf,set_cons_succ→nI,getElem?_eq_getElem→aj,mem_of_getElem?→bD,getElem_mem→bP,mem_append→dF,mem_or_eq_of_mem_set→eE,mem_cons_of_mem→iy,drop_zero→jn,getD_eq_getElem?_getD→ka,length_replicate→nB,mem_cons_self→qa,mem_singleton→DH,getElem?_eq_some_iff→ao,getElem?_append_left→bh,length_map→bU,mem_map→cA,map_cons→cW,getElem?_map→eo,getElem?_append_right→iW,range→pZ,getElem?_range→rD,getElem?_drop→sJ,append_nil→bO,nil_append→cw,drop_of_length_le→gL,take_zero→ox,reverse_cons→yP,getElem?_set_ne→P7,length_append→aw,append_assoc→aI,take_of_length_le→bS,map_append→cY,map_congr_left→eg,map_map→pD,take_succ_eq_append_getElem→qL,replicate→bu,Perm→bZ,length_nil→cO,length_take→aD,length_drop→aT,set_set→jM,drop_drop→kd,take_take→yO,length_cons→bE,cons_append→lV,mem_of_find?_eq_some→nA,take_length→aS,take_left→DG,drop_eq_getElem_cons→ij,flatMap_cons→iY,getElem?_cons_succ→bT,getElem?_eq_none→qh,map_nil→uS,take_append_drop→dy,getElem?_set→da,length_set→jm,ext_getElem?→qN,flatMap_append→gA,getElem?_take→sH
open Nat renaming le_refl→aH,zero_add→aC,mul_le_mul_right→iI,add_mul→mA,mul_comm→wN,le_trans→AD,zero_le→aE,reduceAdd→ae,reduceMul→af,le_of_ble_eq_true→aK,mul_one→mz,sub_self→mg,pow_le_pow_right→gS,pow_succ→AB,add_zero→eL,mod_eq_of_lt→fN,min_eq_left→rr,lt_of_le_of_lt→HG,eq_of_beq_eq_true→fa,beq→iJ
open Option renaming getD_some→dE,some→aY,map_some→fw,getD_none→gV
namespace Go.Prog
open Go.Den
def rW(e:BA)(K:VK):WK:=mk [.u 0,.u 0] λf=>mk [.u 0,.u 0] λj=>br (decide ((e.size:Int)<16)) (aJ (ad j 0) 2 λl=>bA 2 (ad f 0) l (aJ (ad f 0) 2 λm=>K (.tuple ⟨[.agg ⟨m⟩,.b false]⟩))) ((lp [.p (some (ad f 0)),.b false,.p (some (ad j 0)),.i 0] λk n=>∀d g c a h,k [.p (some d),.b g,.p (some c),.i a] h->(br (decide (a<8)) (tick (lU (c.add 1) λo=>AR e a λq=>cu ((0:Int)<=(aa.wrap (8* a))) (st (c.add 1) (.u (dm .u64 .or o (shl .u64 (IntKind.u64.wrap (q.toNat:Int)) (aa.wrap (8* a))))) (tick (lU c λr=>AR e (aa.wrap (8+a)) λs=>cu ((0:Int)<=(aa.wrap (8* a))) (st c (.u (dm .u64 .or r (shl .u64 (IntKind.u64.wrap (s.toNat:Int)) (aa.wrap (8* a))))) ((ct k n [.p (some d),.b g,.p (some c),.i (aa.wrap (a+1))] [.p (some d),.b g,.p (some c),.i a] h)))))))) (aJ c 2 λt=>bA 2 d t (aJ d 2 λv=>K (.tuple ⟨[.agg ⟨v⟩,.b true]⟩)))) h))
def cZ(c:OA)(K:VK):WK:=mk [.u 0,.u 0] λa=>fB c 16 (xS λd=>rW d (x2 λe f=>(xA 2 λg=>(xB λj=>mk [.u 0,.u 0] λb=>bA 2 (ad b 0) g (aJ (ad b 0) 2 λh=>bA 2 (ad a 0) h (aJ (ad a 0) 2 λi=>K (.agg ⟨i⟩)))) f) e))
def cZ.u:WP|[.pointer a],K=>cZ a K|_,_=>no
def oS(a:OA)(K:VK):WK:=mk dV λb=>cZ a (xA 2 λc=>cZ a (xA 2 λd=>cZ a (xA 2 λe=>cZ a (xA 2 λf=>cZ a (xA 2 λg=>aN a 4 (xI .i64 λh=>aN a 2 (xI .i64 λj=>aN a 2 (xI .i64 λk=>aN a 8 (xI .i64 λl=>cu (c.length=2/\(d.length=2/\(e.length=2/\(f.length=2/\(g.length=2/\(1=1/\(1=1/\(1=1/\(1=1/\True))))))))) (mk dV λm=>cu ((c++(d++(e++(f++(g++([.i h,.i j,.i k,.i l]:LV)))))).length=14) (kj (ad m 0) (c++(d++(e++(f++(g++([.i h,.i j,.i k,.i l]:LV)))))) (df a (xB λn=>br n (cu True (cu (14=14) (kj (ad b 0) dV (aJ (ad b 0) 14 λo=>K (.agg ⟨o⟩))))) (aJ (ad m 0) 14 λp=>bA 14 (ad b 0) p (aJ (ad b 0) 14 λq=>K (.agg ⟨q⟩))))))))))))))))
def oS.u:WP|[.pointer a],K=>oS a K|_,_=>no
def nO(a:OA)(K:VK):WK:=mk iA λb=>cZ a (xA 2 λc=>cZ a (xA 2 λd=>cZ a (xA 2 λe=>cZ a (xA 2 λf=>cZ a (xA 2 λg=>aN a 4 (xI .i64 λh=>aN a 4 (xI .i64 λj=>aN a 2 (xI .i64 λk=>aN a 2 (xI .i64 λl=>aN a 8 (xI .i64 λm=>aN a 8 (xI .i64 λn=>cu (c.length=2/\(d.length=2/\(e.length=2/\(f.length=2/\(g.length=2/\(1=1/\(1=1/\(1=1/\(1=1/\(1=1/\(1=1/\True))))))))))) (mk iA λo=>cu ((c++(d++(e++(f++(g++([.i h,.i j,.i k,.i l,.i m,.i n]:LV)))))).length=16) (kj (ad o 0) (c++(d++(e++(f++(g++([.i h,.i j,.i k,.i l,.i m,.i n]:LV)))))) (df a (xB λp=>br p (cu True (cu (16=16) (kj (ad b 0) iA (aJ (ad b 0) 16 λq=>K (.agg ⟨q⟩))))) (aJ (ad o 0) 16 λr=>bA 16 (ad b 0) r (aJ (ad b 0) 16 λs=>K (.agg ⟨s⟩))))))))))))))))))
def nO.u:WP|[.pointer a],K=>nO a K|_,_=>no
def qC(a:OA)(K:VK):WK:=br (a.isNone) (K (.i 0)) (nn a λb=>lT (b.add 1) λc=>br c (K (.i 0)) (nn a λd=>lS d λe=>K (.i (e.size:Int))))
def xp(K:VK):WK:=Mo 32 P9 8 8 λa b c=>cu (1=1/\True) (mk [.l a b c,.i 0,.i 0] λd=>K (.p (some (ad d 0))))
def qO(a:OA)(K:VK):WK:=cu (1=1/\True) (mk [.l none 0 0,.p a] λb=>K (.p (some (ad b 0))))
def sW(a:OA)(K:VK):WK:=cu (1=1/\True) (mk [.l none 0 0,.p a] λb=>K (.p (some (ad b 0))))
def u5(K:VK):WK:=xp (xP λb=>xp (xP λc=>cu (1=1/\(1=1/\True)) (mk [.l none 0 0,.p none,.p none,.p b,.p c,.l none 0 0,.l none 0 0,.i 0,.i 0] λa=>tick (qO (some (ad a 0)) (xP λd=>sW (some (ad a 0)) (xP λe=>st (ad a 1) (.p d) (st (ad a 2) (.p e) (K (.p (some (ad a 0)))))))))))
def na(a:OA)(K:VK):WK:=br (!(a.isNone)) (nn a λc=>lL c λd b n=>Zo (Builtin.zeroCells ⟨[.nilFunc]⟩ b).toList d b (nn a λe=>lL e λf g h=>sO f g h 1 none (some 0) λi j k=>nn a λm=>st m (.l i j k) (K (.tuple ⟨[]⟩)))) (K (.tuple ⟨[]⟩))
def uM(e:LV)(K:VK):WK:=mk e λa=>lU (ad a 1) λb=>lU (ad a 0) λc=>cu ((0:Int)<=31) (lU (ad a 0) λd=>cu ((0:Int)<=33) (cu ((0:Int)<=29) (K (.u (dm .u64 .xor (IntKind.u64.wrap ((dm .u64 .xor (dm .u64 .xor b (shl .u64 c 31)) (shr .u64 d 33))* 11400714819323198485)) (shr .u64 (IntKind.u64.wrap ((dm .u64 .xor (dm .u64 .xor b (shl .u64 c 31)) (shr .u64 d 33))* 11400714819323198485)) 29))))))
def dz.j3(K:VK)(a:Int)(h:LI)(d:Addr)(e:Int)(f:Bool)(c g:Int)(j:LM)(k:World)(l:Bool):WK:=br l (K (.tuple ⟨[.i (aa.wrap a),.b true]⟩)) ((ct h j [.p (some d),.i e,.b f,.u c,.i g,.u (dm .u64 .and (IntKind.u64.wrap (a+1)) c)] [.p (some d),.i e,.b f,.u c,.i g,.u a] k))
def dz.j2(K:VK)(g:LI)(a:Addr)(e:Int)(f:Bool)(c d:Int)(h:LM)(j:Int)(k:World)(l:Nat)(m:Bool):WK:=br m ((ct g h [.p (some a),.i e,.b f,.u c,.i (aa.wrap d),.u (dm .u64 .and (IntKind.u64.wrap (d+1)) c)] [.p (some a),.i e,.b f,.u c,.i j,.u d] k)) (lB (ad l 3) λn=>br (n==1) (aJ (ad l 0) 2 λo=>aJ a 2 λq=>rz [.u 0,.u 0] o q λr=>dz.j3 K d g a e f c j h k r) (dz.j3 K d g a e f c j h k false))
def dz.j1(K:VK)(d:Int)(a:Nat)(c:Int)(e:LI)(f:Addr)(g:Int)(h:Bool)(j:Int)(k:LM)(l:World)(m:Bool):WK:=br m (K (.tuple ⟨[.i (aa.wrap d),.b false]⟩)) (lB (ad a 3) λn=>br (n==0) (K (.tuple ⟨[.i c,.b false]⟩)) (lB (ad a 3) λo=>br (o==2) (dz.j2 K e f g h j d k c l a (decide (c<0))) (dz.j2 K e f g h j d k c l a false)))
def dz(l:OA)(q:LV)(K:VK):WK:=mk q λm=>nn l λr=>lL r λB n C=>aJ (ad m 0) 2 λs=>uM s (xI .u64 λt=>(lp [.p (some (ad m 0)),.i 0,.b false,.u (IntKind.u64.wrap (aa.wrap ((n:Int) -1))),.i (-1),.u (dm .u64 .and t (IntKind.u64.wrap (aa.wrap ((n:Int) -1))))] λf o=>∀g h j k a c d,f [.p (some g),.i h,.b j,.u k,.i a,.u c] d->(nn l λv=>lL v λw x D=>iV w x c 4 λy=>aJ y 4 λz=>mk P9 λe=>bA 4 (ad e 0) z (lB (ad e 3) λA=>br (A==0) (dz.j1 K c e a f g h j k o d (decide (a<0))) (dz.j1 K c e a f g h j k o d false))) d))
def iD(a:OA)(c:LV)(K:VK):WK:=mk c λd=>br (a.isNone) (K (.tuple ⟨[.i 0,.b false]⟩)) (aJ (ad d 0) 2 λe=>dz a e (x2 λf g=>(xI .i64 λh=>(xB λj=>br (!j) (K (.tuple ⟨[.i 0,.b false]⟩)) (nn a λk=>lL k λl m p=>iV l m h 4 λn=>lI (n.add 2) λo=>K (.tuple ⟨[.i o,.b true]⟩))) g) f))
def qG(b:OA)(K:VK):WK:=nn b λs=>lL s λt u v=>(lp [.l t u v,.i 8] λq w=>∀j g k c o,q [.l j g k,.i c] o->(nn b λx=>lI (x.add 1) λy=>br (decide (c<(aa.wrap (3* (aa.wrap (y+1)))))) ((ct q w [.l j g k,.i (aa.wrap (c* 2))] [.l j g k,.i c] o)) (Mo 32 P9 c c λz A B=>nn b λC=>st C (.l z A B) (nn b λD=>st (D.add 2) (.i 0) ((lp [.l j g k,.i (g:Int),.i 0] λp r=>∀d e h f a m,p [.l d e h,.i f,.i a] m->(br (decide (a<f)) (iV d e a 4 λE=>aJ E 4 λF=>mk P9 λn=>bA 4 (ad n 0) F (lB (ad n 3) λG=>br (G==1) (aJ (ad n 0) 2 λH=>dz b H (x2 λI J=>(xI .i64 λM=>(xB λT=>tick (nn b λO=>lL O λP Q V=>aJ (ad n 0) 4 λR=>iV P Q M 4 λS=>bA 4 S R ((ct p r [.l d e h,.i f,.i (aa.wrap (a+1))] [.l d e h,.i f,.i a] m)))) J) I)) ((ct p r [.l d e h,.i f,.i (aa.wrap (a+1))] [.l d e h,.i f,.i a] m)))) (K (.tuple ⟨[]⟩))) m))))) o)
def eu.j2(K:VK)(a:OA)(e:Nat)(f d:Int):WK:=tick (nn a λg=>lL g λh j o=>aJ (ad e 0) 2 λc=>cu (c.length=2/\(1=1/\(1=1/\True))) (iV h j f 4 λk=>cu ((c++([.i d,.int .u8 1]:LV)).length=4) (kj k (c++([.i d,.int .u8 1]:LV)) (nn a λl=>lI (l.add 1) λm=>nn a λn=>st (n.add 1) (.i (aa.wrap (m+1))) (K (.b true))))))
def eu.j1(K:VK)(d:Nat)(a:OA)(e:Int):WK:=aJ (ad d 0) 2 λf=>dz a f (x2 λg h=>(xI .i64 λc=>(xB λj=>br j (nn a λk=>lL k λl m w=>iV l m c 4 λn=>st (n.add 2) (.i e) (K (.b false))) (nn a λo=>lL o λp q x=>iV p q c 4 λr=>lB (r.add 3) λs=>br (s==2) (nn a λt=>lI (t.add 2) λu=>nn a λv=>st (v.add 2) (.i (aa.wrap (u-1))) (eu.j2 K a d c e)) (eu.j2 K a d c e))) h) g)
def eu(a:OA)(e:LV)(c:Int)(K:VK):WK:=mk e λd=>br (a.isNone) (K (.b false)) (tick (nn a λf=>lI (f.add 1) λg=>nn a λh=>lI (h.add 2) λi=>nn a λj=>lL j λl k m=>br (decide ((aa.wrap (4* (aa.wrap ((aa.wrap (g+i))+1))))>(aa.wrap (3* (k:Int))))) (qG a (x0 (eu.j1 K d a c))) (eu.j1 K d a c)))
def iL(a:OA)(b:Value)(K:VK):WK:=br (!(a.isNone)) (nn a λc=>lL c λd e f=>cu ((fL b).length=1/\True) (mk ((fL b)++[]) λg=>iz 1 8 [.nilFunc] d e f (ah g) 1 λh i j=>nn a λk=>st k (.l h i j) (K (.tuple ⟨[]⟩)))) (K (.tuple ⟨[]⟩))
def cI(a b:Addr)(K:VK):WK:=tick (lP a λc=>lP a λd=>nn d λe=>lL e λf g h=>lI b λi=>sO f g h 14 none (some i) λj k m=>nn c λn=>st n (.l j k m) (K (.tuple ⟨[]⟩)))
def cI.u:WP|[.pointer (some a),.pointer (some b)],K=>cI a b K|_,_=>no
def jj(j:OA)(k:LV)(K:VK):WK:=mk [.p j] λa=>mk k λm=>lP (ad a 0) λn=>br (n.isNone) (K (.i (-1))) (lP (ad a 0) λo=>nn o λq=>lL q λC r D=>mk [.i 0] λb=>st (ad b 0) (.i (r:Int)) (tick (lP (ad a 0) λc=>lP (ad a 0) λd=>nn d λe=>lL e λf g h=>aJ (ad m 0) 14 λs=>HE 14 s λt=>kp e [.l f g h] (kp (ad a 0) [.p d] (kp (ad a 0) [.p c] (iz 14 112 dV f g h (ah t) 1 λu v w=>kp (ad a 0) [.p d] (kp (ad a 0) [.p c] (nn c λx=>st x (.l u v w) (lP (ad a 0) λy=>nn y λz=>lP (z.add 1) λA=>iL A (.func (.func N.cI) ⟨[]⟩ ⟨[.p (some (ad a 0)),.p (some (ad b 0))]⟩) (x0 (lI (ad b 0) λB=>K (.i B))))))))))))
def fX(a:Int)(c d:Addr)(K:VK):WK:=tick (lP c λe=>nn e λf=>lL f λg h l=>iV g h a 2 λi=>lI i λj=>lI d λk=>K (.b (decide (j>=k))))
def fX.u:WP|[.int .i64 a,.pointer (some b),.pointer (some c)],K=>fX a b c K|_,_=>no
def we(g:Int)(h:Value)(K:VK):WK:=(lp [.i 0,.i 0,.i g] λe f=>∀c a b d,e [.i c,.i a,.i b] d->(br (decide (a<b)) (cu ((0:Int)<=1) (yZ [(N.fX,fX.u)] h [.i (aa.wrap (shr .u64 (IntKind.u64.wrap (aa.wrap (a+b))) 1))] (xB λj=>br (!j) ((ct e f [.i c,.i (aa.wrap ((aa.wrap (shr .u64 (IntKind.u64.wrap (aa.wrap (a+b))) 1))+1)),.i b] [.i c,.i a,.i b] d)) ((ct e f [.i c,.i a,.i (aa.wrap (shr .u64 (IntKind.u64.wrap (aa.wrap (a+b))) 1))] [.i c,.i a,.i b] d))))) (K (.i a))) d)
def mo(b:OA)(c:Int)(K:VK):WK:=mk [.p b] λa=>mk [.i c] λd=>lP (ad a 0) λe=>nn e λf=>lL f λj g k=>we (g:Int) (.func (.func N.fX) ⟨[]⟩ ⟨[.p (some (ad a 0)),.p (some (ad d 0))]⟩) (xI .i64 λh=>K (.i h))
def jG.j1(K:VK)(a:OA)(c d o:Int)(p:Bool):WK:=br p (nn a λq=>lL q λr s O=>iV r s c 2 λt=>st (t.add 1) (.i d) (K (.b false))) (nn a λu=>lL u λv w x=>cu True (cu (2=2/\True) (mk [.i 0,.i 0] λy=>iz 2 16 [.i 0,.i 0] v w x (ah y) 1 λz A B=>nn a λC=>st C (.l z A B) (tick (nn a λe=>lL e λf g h=>sO f g h 2 (some (aa.wrap (c+1))) none λD E P=>nn a λj=>lL j λk m n=>sO k m n 2 (some c) none λF G Q=>Wf 2 D E F G λm1=>kp j [.l k m n] (kp e [.l f g h] (nn a λH=>lL H λI J R=>cu (1=1/\(1=1/\True)) (iV I J c 2 λM=>cu (2=2) (kj M [.i o,.i d] (K (.b true)))))))))))
def jG(a:OA)(c e:Int)(K:VK):WK:=br (a.isNone) (K (.b false)) (mo a c (xI .i64 λd=>nn a λf=>lL f λm g n=>br (decide (d<(g:Int))) (nn a λh=>lL h λi j o=>iV i j d 2 λk=>lI k λl=>jG.j1 K a d e c (l==c)) (jG.j1 K a d e c false)))
def gH(a:OA)(K:VK):WK:=br (a.isNone) (K (.i 0)) (nn a λb=>lL b λd c e=>K (.i (c:Int)))
def de(a b:Addr)(K:VK):WK:=tick (lP a λc=>lP a λd=>nn d λe=>lL e λf g h=>lI b λi=>sO f g h 33 none (some i) λj k m=>nn c λn=>st n (.l j k m) (K (.tuple ⟨[]⟩)))
def de.u:WP|[.pointer (some a),.pointer (some b)],K=>de a b K|_,_=>no
def kk(j:OA)(k:LV)(K:VK):WK:=mk [.p j] λa=>mk k λm=>lP (ad a 0) λn=>br (n.isNone) (K (.i (-1))) (lP (ad a 0) λo=>nn o λq=>lL q λC r D=>mk [.i 0] λb=>st (ad b 0) (.i (r:Int)) (tick (lP (ad a 0) λc=>lP (ad a 0) λd=>nn d λe=>lL e λf g h=>aJ (ad m 0) 33 λs=>HE 33 s λt=>kp e [.l f g h] (kp (ad a 0) [.p d] (kp (ad a 0) [.p c] (iz 33 264 cG f g h (ah t) 1 λu v w=>kp (ad a 0) [.p d] (kp (ad a 0) [.p c] (nn c λx=>st x (.l u v w) (lP (ad a 0) λy=>nn y λz=>lP (z.add 1) λA=>iL A (.func (.func N.de) ⟨[]⟩ ⟨[.p (some (ad a 0)),.p (some (ad b 0))]⟩) (x0 (lI (ad b 0) λB=>K (.i B))))))))))))
def u4(k:LV)(K:VK):WK:=mk k λa=>mk zj λd=>tick (lI (ad a 31) λe=>lI (ad a 26) λf=>lI (ad a 30) λg=>aJ (ad a 16) 2 λc=>cu (1=1/\(1=1/\(c.length=2/\True))) (lI (ad a 32) λh=>br (h==1) (lI (ad a 26) λj=>cu ((([.i (aa.wrap (e+f)),.i g]:LV)++(c++[])).length=4) (kj (ad d 0) (([.i (aa.wrap (e+f)),.i g]:LV)++(c++[])) (kp (ad a 26) [.i j] (kp (ad a 32) [.i h] (aJ (ad d 0) 4 λl=>K (.tuple ⟨[.agg ⟨l⟩,.b (decide (j>0))]⟩)))))) (cu ((([.i (aa.wrap (e+f)),.i g]:LV)++(c++[])).length=4) (kj (ad d 0) (([.i (aa.wrap (e+f)),.i g]:LV)++(c++[])) (kp (ad a 32) [.i h] (aJ (ad d 0) 4 λm=>K (.tuple ⟨[.agg ⟨m⟩,.b false]⟩)))))))
def sj(d e:LV)(K:VK):WK:=mk d λa=>mk e λc=>lI (ad a 0) λf=>lI (ad c 0) λg=>br (decide (f<g)) (K (.b true)) (lI (ad a 0) λh=>lI (ad c 0) λi=>br (h==i) (lI (ad a 1) λj=>lI (ad c 1) λk=>K (.b (decide (j<k)))) (K (.b false)))
def jF.j1(K:VK)(b:OA)(a:Int)(c:LI)(d:LM)(e:World)(f:Bool):WK:=br f (tick (nn b λg=>lL g λh j z=>nn b λk=>lL k λl m A=>cu ((2:Int)≠0) (nn b λn=>lL n λo p B=>cu ((2:Int)≠0) (iV o p (aa.wrap ((aa.wrap (a-1)).tdiv (2:Int))) 4 λq=>aJ q 4 λr=>nn b λs=>lL s λt u C=>iV t u a 4 λv=>aJ v 4 λw=>iV h j a 4 λx=>bA 4 x r (iV l m (aa.wrap ((aa.wrap (a-1)).tdiv (2:Int))) 4 λy=>bA 4 y w (cu ((2:Int)≠0) ((ct c d [.i (aa.wrap ((aa.wrap (a-1)).tdiv (2:Int)))] [.i a] e)))))))) (K (.tuple ⟨[]⟩))
def jF(b:OA)(n:Int)(K:VK):WK:=(lp [.i n] λd e=>∀a c,d [.i a] c->(tick (br (decide (a>0)) (nn b λf=>lL f λg h o=>iV g h a 4 λp=>aJ p 4 λq=>nn b λj=>lL j λk m r=>cu ((2:Int)≠0) (iV k m (aa.wrap ((aa.wrap (a-1)).tdiv (2:Int))) 4 λs=>aJ s 4 λt=>sj q t (xB λu=>kp j [.l k m r] (kp f [.l g h o] (jF.j1 K b a d e c u))))) (jF.j1 K b a d e c false))) c)
def mn(a:OA)(f:LV)(K:VK):WK:=mk f λg=>br (!(a.isNone)) (tick (nn a λb=>lL b λc d e=>aJ (ad g 0) 4 λh=>HE 4 h λi=>kp b [.l c d e] (iz 4 32 zj c d e (ah i) 1 λj k m=>nn a λn=>st n (.l j k m) (nn a λo=>lL o λq p r=>jF a (aa.wrap ((p:Int) -1)) (x0 (K (.tuple ⟨[]⟩))))))) (K (.tuple ⟨[]⟩))
def eX.j2(K:VK)(a:OA)(b:Nat)(k:LI)(c:OA)(d:Int)(e:OA)(f g:Nat)(h j:Int)(m:LM)(n:World)(t:Bool):WK:=br t (K (.tuple ⟨[.p none,.i 1]⟩)) (tick (nn a λo=>lP (o.add 4) λq=>aJ (ad b 16) 2 λr=>nn a λu=>lP (u.add 2) λv=>aJ (ad b 0) 33 λw=>kk v w (xI .i64 λx=>kp (ad b 16) r (kp (o.add 4) [.p q] (eu q r x (xB λF=>aJ (ad b 0) 33 λy=>u4 y (x2 λz A=>(xA 4 λB=>(xB λC=>mk zj λs=>bA 4 (ad s 0) B (br C (tick (nn a λD=>aJ (ad s 0) 4 λE=>mn (some (D.add 6)) E (x0 ((ct k m [.p c,.i d,.p a,.l e f g,.i h,.i (aa.wrap (j+1))] [.p c,.i d,.p a,.l e f g,.i h,.i j] n))))) ((ct k m [.p c,.i d,.p a,.l e f g,.i h,.i (aa.wrap (j+1))] [.p c,.i d,.p a,.l e f g,.i h,.i j] n)))) A) z)))))))
def eX.j1(K:VK)(I J:OA)(B M:Nat)(O:OA)(C P:Nat)(Q R:Int)(S:Bool):WK:=br S (K (.tuple ⟨[.p none,.i 1]⟩)) ((lp [.p none,.i 0,.p I,.l J B M,.i (B:Int),.i 0] λD T=>∀r s c t u x v j y,D [.p r,.i s,.p c,.l t u x,.i v,.i j] y->(br (decide (j<v)) (iV t u j 14 λV=>aJ V 14 λW=>mk dV λk=>bA 14 (ad k 0) W (tick (nn c λX=>lP (X.add 3) λY=>aJ (ad k 0) 2 λZ=>iD Y Z (x2 λv1 v2=>(xI .i64 λn6=>(xB λb2=>br b2 (K (.tuple ⟨[.p none,.i 1]⟩)) (tick (nn c λE=>lP (E.add 3) λF=>aJ (ad k 0) 2 λG=>nn c λa4=>lP (a4.add 1) λp6=>aJ (ad k 0) 14 λBw=>jj p6 Bw (xI .i64 λn7=>kp (ad k 0) G (kp (E.add 3) [.p F] (eu F G n7 (xB λb3=>(ct D T [.p r,.i s,.p c,.l t u x,.i v,.i (aa.wrap (j+1))] [.p r,.i s,.p c,.l t u x,.i v,.i j] y)))))))) v2) v1)))) ((lp [.p r,.i s,.p c,.l O C P,.i (C:Int),.i 0] λm w=>∀n o b e f q g d h,m [.p n,.i o,.p b,.l e f q,.i g,.i d] h->(br (decide (d<g)) (iV e f d 33 λa5=>aJ a5 33 λIh=>mk cG λa=>bA 33 (ad a 0) Ih (tick (nn b λa6=>lP (a6.add 4) λp9=>aJ (ad a 16) 2 λPu=>iD p9 Pu (x2 λv3 v4=>(xI .i64 λBf=>(xB λb4=>tick (br b4 (eX.j2 K b a m n o e f q g d w h true) (lI (ad a 32) λz=>br (decide (z<0)) (eX.j2 K b a m n o e f q g d w h true) (lI (ad a 32) λA=>br (decide (A>4)) (eX.j2 K b a m n o e f q g d w h true) (nn b λa10=>lI (ad a 30) λH=>nn b λa11=>lP (a11.add 2) λU0=>gH U0 (xI .i64 λzH=>kp (ad a 30) [.i H] (kp (ad a 32) [.i A] (kp (ad a 32) [.i z] (jG (some (a10.add 5)) H zH (xB λb8=>kp (ad a 32) [.i A] (kp (ad a 32) [.i z] (eX.j2 K b a m n o e f q g d w h (!b8))))))))))))) v4) v3)))) (nn b λa12=>st (a12.add 7) (.i Q) (nn b λa13=>st (a13.add 8) (.i R) (nn b λa14=>na (some a14) (x0 (K (.tuple ⟨[.p b,.i 0]⟩))))))) h))) y))
def eX.j5(K:VK)(b c:OA)(d e:Nat)(f:OA)(g h:Nat)(i a:Int)(j:Bool):WK:=br j (eX.j1 K b c d e f g h i a true) (br (decide (a<0)) (eX.j1 K b c d e f g h i a true) (eX.j1 K b c d e f g h i a (decide (a>1099511627776))))
def eX.j4(K:VK)(b c:OA)(d e:Nat)(f:OA)(g h:Nat)(a i:Int)(j:Bool):WK:=br j (eX.j5 K b c d e f g h a i true) (eX.j5 K b c d e f g h a i (decide (a>1099511627776)))
def eX.j3(K:VK)(b c:OA)(d e:Nat)(f:OA)(g h:Nat)(a i:Int)(j:Bool):WK:=br j (eX.j4 K b c d e f g h a i true) (eX.j4 K b c d e f g h a i (decide (a<0)))
def eX(c:OA)(a d:Nat)(e:OA)(b f:Nat)(g h:Int)(K:VK):WK:=u5 (xP λi=>br (decide ((a:Int)>32)) (eX.j3 K i c a d e b f g h true) (eX.j3 K i c a d e b f g h (decide ((b:Int)>96))))
def pk.j1(K:VK)(J:OA)(M O P Q:Int)(R:Bool):WK:=br R (K (.tuple ⟨[.p none,.i 4]⟩)) ((lp [.p none,.i 0,.p J,.i M,.i O,.i P,.l none 0 0,.i Q,.i 0] λF S=>∀c d b e f g h j k m n z,F [.p c,.i d,.p b,.i e,.i f,.i g,.l h j k,.i m,.i n] z->(br (decide (n<m)) (oS b (xA 14 λT=>HE 14 T λV=>iz 14 112 dV h j k (ah V) 1 λW X Y=>(ct F S [.p c,.i d,.p b,.i e,.i f,.i g,.l W X Y,.i m,.i (aa.wrap (n+1))] [.p c,.i d,.p b,.i e,.i f,.i g,.l h j k,.i m,.i n] z))) ((lp [.p c,.i d,.p b,.i e,.i f,.l h j k,.l none 0 0,.i g,.i 0] λG Z=>∀A B a o q r s t u v w x y C,G [.p A,.i B,.p a,.i o,.i q,.l r s t,.l u v w,.i x,.i y] C->(br (decide (y<x)) (nO a (xA 16 λD=>nO a (xA 16 λE=>aN a 1 (xI .i64 λH=>cu (D.length=16/\(E.length=16/\(1=1/\True))) (cu ((D++(E++([.i H]:LV))).length=33/\True) (mk ((D++(E++([.i H]:LV)))++[]) λr2=>iz 33 264 cG u v w (ah r2) 1 λxi wS yU=>(ct G Z [.p A,.i B,.p a,.i o,.i q,.l r s t,.l xi wS yU,.i x,.i (aa.wrap (y+1))] [.p A,.i B,.p a,.i o,.i q,.l r s t,.l u v w,.i x,.i y] C))))))) (eX r s t u v w o q (x2 λv1 v2=>(xP λp6=>(xI .i64 λI=>br (I !=0) (K (.tuple ⟨[.p none,.i 4]⟩)) (ml a (xB λb2=>br (!b2) (K (.tuple ⟨[.p none,.i 4]⟩)) (K (.tuple ⟨[.p p6,.i I]⟩))))) v2) v1))) C))) z))
def pk(f:BA)(K:VK):WK:=pQ f (xP λa=>aN a 1 (xI .i64 λg=>br (g !=1) (K (.tuple ⟨[.p none,.i 4]⟩)) (aN a 8 (xI .i64 λd=>aN a 8 (xI .i64 λe=>aN a 2 (xI .i64 λb=>aN a 2 (xI .i64 λc=>df a (xB λh=>br h (pk.j1 K a d e c b true) (qC a (xI .i64 λj=>pk.j1 K a d e c b (j !=(aa.wrap ((aa.wrap (b* 96))+(aa.wrap (c* 217)))))))))))))))
def yc(c:OA)(e:LV)(K:VK):WK:=mk e λf=>mk zi4 λb=>sw c (x2 λg h=>(xA 4 λj=>(xB λk=>mk zi4 λa=>bA 4 (ad a 0) j (br (!k) (tick (aJ (ad a 0) 4 λd=>u5 (xP λl=>kp (ad a 0) d (bA 4 (ad b 0) d (aJ (ad b 0) 4 λm=>K (.tuple ⟨[.p l,.agg ⟨m⟩,.i 0]⟩)))))) (aJ (ad f 0) 5 λn=>lI (ad a 0) λo=>lI (ad a 1) λq=>lI (ad a 2) λr=>qY n c o q r (x2 λs t=>(xS λu=>(xB λv=>br (!v) (tick (aJ (ad a 0) 4 λw=>bA 4 (ad b 0) w (aJ (ad b 0) 4 λx=>K (.tuple ⟨[.p none,.agg ⟨x⟩,.i 4]⟩)))) (pk u (x2 λy z=>(xP λA=>(xI .i64 λB=>tick (aJ (ad a 0) 4 λC=>bA 4 (ad b 0) C (aJ (ad b 0) 4 λD=>K (.tuple ⟨[.p A,.agg ⟨D⟩,.i B]⟩)))) z) y))) t) s)))) h) g)
def nr(f:OA)(n:Value)(K:VK):WK:=aN f 1 (xI .i64 λo=>(lp [.l none 0 0,.l none 0 0,.i o,.i 0] λm q=>∀g h j a b c d e k,m [.l g h j,.l a b c,.i d,.i e] k->(br (decide (e<d)) (df f (xB λr=>br r (K (.l a b c)) (yZ [(N.oS,oS.u),(N.aN,aN.u),(N.df,df.u)] n [.p f] (xA 14 λs=>HE 14 s λt=>iz 14 112 dV a b c (ah t) 1 λv w x=>(ct m q [.l g h j,.l v w x,.i d,.i (aa.wrap (e+1))] [.l g h j,.l a b c,.i d,.i e] k))))) (K (.l a b c))) k))
def mC(f:OA)(n:Value)(K:VK):WK:=aN f 1 (xI .i64 λo=>(lp [.l none 0 0,.l none 0 0,.i o,.i 0] λm q=>∀g h j a b c d e k,m [.l g h j,.l a b c,.i d,.i e] k->(br (decide (e<d)) (df f (xB λr=>br r (K (.l a b c)) (yZ [(N.aN,aN.u),(N.df,df.u),(N.nO,nO.u)] n [.p f] (xA 16 λs=>HE 16 s λt=>iz 16 128 iA a b c (ah t) 1 λv w x=>(ct m q [.l g h j,.l v w x,.i d,.i (aa.wrap (e+1))] [.l g h j,.l a b c,.i d,.i e] k))))) (K (.l a b c))) k))
def mT(c:OA)(K:VK):WK:=aN c 1 (xI .i64 λa=>br (!(c.isNone)) (br (decide (a>1)) (nn c λd=>st (d.add 1) (.b true) (K (.b (a==1)))) (K (.b (a==1)))) (K (.b (a==1))))
def qb(f:OA)(n:Value)(K:VK):WK:=aN f 1 (xI .i64 λo=>(lp [.l none 0 0,.l none 0 0,.i o,.i 0] λm q=>∀g h j a b c d e k,m [.l g h j,.l a b c,.i d,.i e] k->(br (decide (e<d)) (df f (xB λr=>br r (K (.l a b c)) (yZ [(N.aN,aN.u),(N.cZ,cZ.u),(N.df,df.u)] n [.p f] (xA 2 λs=>HE 2 s λt=>iz 2 16 [.u 0,.u 0] a b c (ah t) 1 λv w x=>(ct m q [.l g h j,.l v w x,.i d,.i (aa.wrap (e+1))] [.l g h j,.l a b c,.i d,.i e] k))))) (K (.l a b c))) k))
def ue(d:LV)(K:VK):WK:=mk d λa=>lI (ad a 0) λc=>br (c==1) (lL (ad a 1) λk e l=>br (decide ((e:Int)>=1)) (lL (ad a 1) λm f n=>K (.b (decide ((f:Int)<=8)))) (K (.b false))) (br (c==2) (lL (ad a 2) λo g p=>br (decide ((g:Int)>=1)) (lL (ad a 2) λq h r=>K (.b (decide ((h:Int)<=8)))) (K (.b false))) (br (c==3) (lI (ad a 3) λi=>br (decide (i>=0)) (lI (ad a 3) λj=>K (.b (decide (j<=1099511627776)))) (K (.b false))) (K (.b false))))
def iG.j4(K:VK)(a:Nat)(c:Bool):WK:=br c (lT (ad a 4) λd=>br d (K (.b true)) (lT (ad a 5) λe=>K (.b e))) (K (.b false))
def iG.j3(K:VK)(a:Nat)(b:Bool):WK:=br b (lI (ad a 7) λc=>iG.j4 K a (decide (c<=16))) (iG.j4 K a false)
def iG.j2(K:VK)(a:Nat)(b:Bool):WK:=br b (lI (ad a 7) λc=>iG.j3 K a (decide (c>=1))) (iG.j3 K a false)
def iG.j1(K:VK)(c:Nat)(d:Int)(e:Bool):WK:=br e (lL (ad c 4) λk f l=>br (decide ((f:Int)>=1)) (lL (ad c 4) λm g n=>K (.b (decide ((g:Int)<=16)))) (K (.b false))) (br (d==6) (aJ (ad c 5) 8 λh=>mk Fp λa=>bA 8 (ad a 0) h (lI (ad a 2) λi=>br (decide (i>=0)) (lI (ad a 3) λj=>iG.j2 K a (decide (j>=0))) (iG.j2 K a false))) (K (.b false)))
def iG(c:LV)(K:VK):WK:=mk c λb=>lI (ad b 0) λa=>br (a==4) (iG.j1 K b a (a==4)) (iG.j1 K b a (a==5))
def jB.j3(K:VK)(a:Nat)(c:Bool):WK:=br c (lI (ad a 12) λd=>br (decide (d>=0)) (lI (ad a 12) λe=>K (.b (decide (e<=65535)))) (K (.b false))) (K (.b false))
def jB.j2(K:VK)(a:Nat)(b:Bool):WK:=br b (lI (ad a 11) λc=>jB.j3 K a (decide (c<=65535))) (jB.j3 K a false)
def jB.j1(K:VK)(a:Nat)(b:Bool):WK:=br b (lI (ad a 11) λc=>jB.j2 K a (decide (c>=0))) (jB.j2 K a false)
def jB(b:LV)(K:VK):WK:=mk b λa=>lI (ad a 10) λc=>br (decide (c>=0)) (lI (ad a 10) λd=>jB.j1 K a (decide (d<=4294967295))) (jB.j1 K a false)
def gv.j5(K:VK)(a:Nat)(c:Bool):WK:=br c (lI (ad a 13) λd=>br (decide (d>=0)) (lI (ad a 13) λe=>K (.b (decide (e<=65535)))) (K (.b false))) (K (.b false))
def gv.j4(K:VK)(a:Nat)(b:Bool):WK:=br b (lI (ad a 12) λc=>gv.j5 K a (decide (c<=65535))) (gv.j5 K a false)
def gv.j3(K:VK)(a:Nat)(b:Bool):WK:=br b (lI (ad a 12) λc=>gv.j4 K a (decide (c>=0))) (gv.j4 K a false)
def gv.j2(K:VK)(a:Nat)(b:Bool):WK:=br b (lI (ad a 11) λc=>gv.j3 K a (decide (c<=4294967295))) (gv.j3 K a false)
def gv.j1(K:VK)(a:Nat)(b:Bool):WK:=br b (lI (ad a 11) λc=>gv.j2 K a (decide (c>=0))) (gv.j2 K a false)
def gv(b:LV)(K:VK):WK:=mk b λa=>lI (ad a 10) λc=>br (decide (c>=0)) (lI (ad a 10) λd=>gv.j1 K a (decide (d<=4294967295))) (gv.j1 K a false)
def pP.j1(K:VK)(k:Nat)(z:Bool):WK:=br z (K (.b false)) (lI (ad k 0) λs=>br (s==1) (lL (ad k 1) λA t B=>(lp [.b false,.l A t B,.i (t:Int),.i 0] λu C=>∀m d e n f a o,u [.b m,.l d e n,.i f,.i a] o->(br (decide (a<f)) (iV d e a 14 λD=>aJ D 14 λE=>mk dV λv=>bA 14 (ad v 0) E (aJ (ad v 0) 14 λF=>jB F (xB λG=>br (!G) (K (.b false)) ((ct u C [.b m,.l d e n,.i f,.i (aa.wrap (a+1))] [.b m,.l d e n,.i f,.i a] o))))) (K (.b true))) o)) (br (s==2) (lL (ad k 2) λH w I=>(lp [.b false,.l H w I,.i (w:Int),.i 0] λx J=>∀p g h q j c r,x [.b p,.l g h q,.i j,.i c] r->(br (decide (c<j)) (iV g h c 16 λM=>aJ M 16 λO=>mk iA λy=>bA 16 (ad y 0) O (aJ (ad y 0) 16 λP=>gv P (xB λQ=>br (!Q) (K (.b false)) ((ct x J [.b p,.l g h q,.i j,.i (aa.wrap (c+1))] [.b p,.l g h q,.i j,.i c] r))))) (K (.b true))) r)) (K (.b true))))
def pP(b:LV)(K:VK):WK:=mk b λa=>aJ (ad a 0) 13 λc=>ue c (xB λd=>br (!d) (aJ (ad a 0) 13 λe=>iG e (xB λf=>pP.j1 K a (!f))) (pP.j1 K a false))
def kF.j1(K:VK)(c:OA)(a b:Nat):WK:=ml c (xB λd=>br (!d) (cu True (cu (13=13) (kj (ad a 0) mO (aJ (ad a 0) 13 λe=>K (.tuple ⟨[.agg ⟨e⟩,.i 4]⟩))))) (aJ (ad b 0) 13 λf=>pP f (xB λg=>br (!g) (cu True (cu (13=13) (kj (ad a 0) mO (aJ (ad a 0) 13 λh=>K (.tuple ⟨[.agg ⟨h⟩,.i 4]⟩))))) (aJ (ad b 0) 13 λj=>bA 13 (ad a 0) j (aJ (ad a 0) 13 λk=>K (.tuple ⟨[.agg ⟨k⟩,.i 0]⟩))))))
def kF(o:BA)(K:VK):WK:=mk mO λd=>pQ o (xP λa=>aN a 1 (xI .i64 λp=>cu (1=1/\True) (mk mO λc=>cu (13=13) (kj (ad c 0) [.i p,.l none 0 0,.l none 0 0,.i 0,.l none 0 0,.u 0,.u 0,.i 0,.i 0,.b false,.b false,.b false,.i 0] (lI (ad c 0) λe=>br (e==1) (nr a (.func (.func N.oS) ⟨[]⟩ ⟨[]⟩) (xL λq r s=>st (ad c 1) (.l q r s) (kF.j1 K a d c))) (br (e==2) (mC a (.func (.func N.nO) ⟨[]⟩ ⟨[]⟩) (xL λt v w=>st (ad c 2) (.l t v w) (kF.j1 K a d c))) (br (e==3) (aN a 8 (xI .i64 λx=>st (ad c 3) (.i x) (kF.j1 K a d c))) (br (e==6) (cZ a (xA 2 λf=>aN a 8 (xI .i64 λg=>aN a 8 (xI .i64 λh=>mT a (xB λj=>mT a (xB λk=>mT a (xB λm=>aN a 1 (xI .i64 λn=>cu (f.length=2/\(1=1/\(1=1/\(1=1/\(1=1/\(1=1/\(1=1/\True))))))) (cu ((f++([.i g,.i h,.b j,.b k,.b m,.i n]:LV)).length=8) (kj (ad c 5) (f++([.i g,.i h,.b j,.b k,.b m,.i n]:LV)) (kF.j1 K a d c))))))))))) (qb a (.func (.func N.cZ) ⟨[]⟩ ⟨[]⟩) (xL λy z A=>st (ad c 4) (.l y z A) (kF.j1 K a d c)))))))))))
def ri(c:LV)(K:VK):WK:=mk c λa=>lI (ad a 0) λd=>br (d==1) (K (.b true)) (lI (ad a 0) λe=>br (e==2) (K (.b true)) (lI (ad a 0) λf=>K (.b (f==3))))
def ib(a:LV)(K:VK):WK:=mk a λc=>lI (ad c 12) λd=>K (.b ((dm .i64 .and d 1)!=0))
def ib.u:WP|[.agg ⟨a⟩],K=>ib a K|_,_=>no
def mL(o:OA)(f p:Nat)(q:Value)(K:VK):WK:=(lp [.i 0,.b false,.l o f p,.i (f:Int),.i 0] λm r=>∀g h c d j e a k,m [.i g,.b h,.l c d j,.i e,.i a] k->(br (decide (a<e)) (iV c d a 14 λs=>aJ s 14 λt=>mk dV λn=>bA 14 (ad n 0) t (aJ (ad n 0) 14 λv=>yZ [(N.ib,ib.u)] q [.agg ⟨v⟩] (xB λw=>br (!w) (K (.tuple ⟨[.i (aa.wrap (a+1)),.b true]⟩)) ((ct m r [.i g,.b h,.l c d j,.i e,.i (aa.wrap (a+1))] [.i g,.b h,.l c d j,.i e,.i a] k))))) (K (.tuple ⟨[.i (f:Int),.b false]⟩))) k)
def jV(e:OA)(c m:Nat)(g h:Int)(K:VK):WK:=(lp [.i (c:Int),.i 0] λf j=>∀b a d,f [.i b,.i a] d->(br (decide (a<b)) (iV e c a 1 λk=>st k (.i 1) ((ct f j [.i b,.i (aa.wrap (a+1))] [.i b,.i a] d))) (iV e c g 1 λl=>st l (.i h) (K (.tuple ⟨[]⟩)))) d)
def jV.u:WP|[.slice a b c,.int .i64 d,.int .i64 e],K=>jV a b c d e K|_,_=>no
def gw(a:OA)(K:VK):WK:=br (a.isNone) (K (.i 0)) (nn a λb=>lL b λd c e=>K (.i (c:Int)))
def dU.j1(K:VK)(c a:Nat)(d:OA)(e:Int)(f:Bool):WK:=br f (aJ (ad c 0) 14 λg=>bA 14 (ad a 0) g (aJ (ad a 0) 14 λh=>K (.tuple ⟨[.agg ⟨h⟩,.b false]⟩))) (nn d λi=>lL i λj k o=>iV j k e 14 λl=>aJ l 14 λm=>bA 14 (ad a 0) m (aJ (ad a 0) 14 λn=>K (.tuple ⟨[.agg ⟨n⟩,.b true]⟩)))
def dU(b:OA)(a:Int)(K:VK):WK:=mk dV λc=>mk dV λd=>br (decide (a<0)) (dU.j1 K d c b a true) (gw b (xI .i64 λe=>dU.j1 K d c b a (decide (a>=e))))
def dY(c:OA)(d:LV)(K:VK):WK:=mk d λe=>mk dV λa=>br (c.isNone) (cu True (cu (14=14) (kj (ad a 0) dV (aJ (ad a 0) 14 λf=>K (.tuple ⟨[.agg ⟨f⟩,.b false]⟩))))) (tick (nn c λg=>lP (g.add 3) λh=>aJ (ad e 0) 2 λi=>iD h i (x2 λj k=>(xI .i64 λl=>(xB λm=>br (!m) (cu True (cu (14=14) (kj (ad a 0) dV (aJ (ad a 0) 14 λn=>K (.tuple ⟨[.agg ⟨n⟩,.b false]⟩))))) (nn c λo=>lP (o.add 1) λp=>dU p l (x2 λq r=>(xA 14 λs=>(xB λt=>bA 14 (ad a 0) s (aJ (ad a 0) 14 λu=>K (.tuple ⟨[.agg ⟨u⟩,.b t]⟩))) r) q))) k) j)))
def iX(a:LV)(K:VK):WK:=mk a λc=>aJ (ad c 0) 2 λd=>cu True (rz [.u 0,.u 0] d [.u 0,.u 0] λe=>K (.b e))
def mu.j2(K:VK)(a:Nat)(c:Bool):WK:=br c (aJ (ad a 8) 2 λd=>iX d (xB λe=>br e (lI (ad a 13) λf=>K (.b (f==0))) (K (.b false)))) (K (.b false))
def mu.j1(K:VK)(a:Nat)(b:Bool):WK:=br b (aJ (ad a 6) 2 λc=>iX c (xB λd=>mu.j2 K a d)) (mu.j2 K a false)
def mu(b:LV)(K:VK):WK:=mk b λa=>aJ (ad a 2) 2 λc=>iX c (xB λd=>br d (aJ (ad a 4) 2 λe=>iX e (xB λf=>mu.j1 K a f)) (mu.j1 K a false))
def qu.j1(K:VK)(a:Nat)(b:Bool):WK:=br b (K (.i 8)) (lI (ad a 11) λc=>br (decide (c<1)) (K (.i 9)) (lI (ad a 11) λd=>br (decide (d>65535)) (K (.i 9)) (K (.i 0))))
def qu(b:LV)(K:VK):WK:=mk b λa=>lI (ad a 12) λc=>br ((dm .i64 .andNot c 7)!=0) (K (.i 3)) (aJ (ad a 0) 2 λd=>iX d (xB λe=>br e (K (.i 4)) (aJ (ad a 0) 2 λf=>aJ (ad N.tZ 0) 2 λg=>rz [.u 0,.u 0] f g λh=>br h (K (.i 5)) (lI (ad a 12) λj=>br ((dm .i64 .and j 6)==6) (K (.i 6)) (aJ (ad a 0) 14 λk=>mu k (xB λl=>br (!l) (K (.i 7)) (lI (ad a 10) λm=>br (decide (m<1)) (qu.j1 K a true) (lI (ad a 10) λn=>qu.j1 K a (decide (n>4294967295))))))))))
def qv.j1(K:VK)(a b:Nat)(c:Bool):WK:=br c (lI (ad a 12) λd=>lI (ad b 12) λe=>br ((dm .i64 .and d 6)==(dm .i64 .and e 6)) (K (.i 10)) (K (.i 11))) (K (.i 11))
def qv(c d:LV)(K:VK):WK:=mk c λa=>mk d λb=>lI (ad a 10) λe=>lI (ad b 10) λf=>br (e==f) (lI (ad a 11) λg=>lI (ad b 11) λh=>qv.j1 K a b (g==h)) (qv.j1 K a b false)
def eO(b:Addr)(K:VK):WK:=lP b λa=>nn a λc=>lI (c.add 8) λd=>nn a λe=>st (e.add 8) (.i (aa.wrap (d-1))) (K (.tuple ⟨[]⟩))
def eO.u:WP|[.pointer (some a)],K=>eO a K|_,_=>no
def oQ(c:OA)(K:VK):WK:=mk [.p c] λa=>lP (ad a 0) λb=>nn b λd=>lI (d.add 8) λe=>nn b λf=>st (f.add 8) (.i (aa.wrap (e+1))) (lP (ad a 0) λg=>nn g λh=>iL (some h) (.func (.func N.eO) ⟨[]⟩ ⟨[.p (some (ad a 0))]⟩) (x0 (lP (ad a 0) λj=>nn j λk=>lI (k.add 8) λl=>K (.i l))))
def oK(a:OA)(c:LV)(K:VK):WK:=mk c λd=>br (a.isNone) (K (.b false)) (aJ (ad d 0) 2 λe=>dz a e (x2 λf g=>(xI .i64 λh=>(xB λj=>br (!j) (K (.b false)) (nn a λk=>lL k λl m v=>cu (1=1/\True) (iV l m h 4 λn=>cu (4=4) (kj n [.u 0,.u 0,.i 0,.int .u8 2] (nn a λo=>lI (o.add 1) λp=>nn a λq=>st (q.add 1) (.i (aa.wrap (p-1))) (nn a λr=>lI (r.add 2) λs=>nn a λt=>st (t.add 2) (.i (aa.wrap (s+1))) (K (.b true)))))))) g) f))
def eS(a c:Addr)(K:VK):WK:=tick (lP a λb=>nn b λd=>lP (d.add 3) λe=>aJ c 2 λf=>oK e f (xB λg=>kp a [.p b] (K (.tuple ⟨[]⟩))))
def eS.u:WP|[.pointer (some a),.pointer (some b)],K=>eS a b K|_,_=>no
def mX(k:OA)(l:LV)(K:VK):WK:=mk [.p k] λa=>mk l λb=>lP (ad a 0) λm=>br (m.isNone) (K (.i 2)) (lP (ad a 0) λn=>nn n λo=>lP (o.add 1) λq=>gw q (xI .i64 λr=>br (decide (r>=32)) (K (.i 6)) (tick (lP (ad a 0) λe=>nn e λs=>lP (s.add 3) λt=>aJ (ad b 0) 2 λu=>iD t u (x2 λv w=>(xI .i64 λI=>(xB λx=>kp (ad a 0) [.p e] (br x (K (.i 1)) (lP (ad a 0) λy=>oQ y (xI .i64 λz=>st (ad b 13) (.i z) (tick (lP (ad a 0) λc=>nn c λf=>lP (f.add 3) λg=>aJ (ad b 0) 2 λh=>lP (ad a 0) λd=>nn d λA=>lP (A.add 1) λB=>gw B (xI .i64 λC=>kp (ad a 0) [.p d] (kp (ad b 0) h (kp (f.add 3) [.p g] (kp (ad a 0) [.p c] (eu g h C (xB λJ=>kp (ad a 0) [.p d] (kp (ad a 0) [.p c] (lP (ad a 0) λD=>nn D λE=>iL (some E) (.func (.func N.eS) ⟨[]⟩ ⟨[.p (some (ad a 0)),.p (some (ad b 0))]⟩) (x0 (tick (lP (ad a 0) λj=>nn j λF=>lP (F.add 1) λG=>aJ (ad b 0) 14 λH=>jj G H (xI .i64 λM=>kp (ad a 0) [.p j] (K (.i 0)))))))))))))))))))) w) v)))))
def mr(b:OA)(e:LV)(K:VK):WK:=mk e λa=>aJ (ad a 0) 14 λf=>qu f (xI .i64 λc=>br (c !=0) (K (.i c)) (aJ (ad a 0) 2 λg=>dY b g (x2 λh j=>(xA 14 λk=>(xB λl=>mk dV λd=>bA 14 (ad d 0) k (br l (aJ (ad a 0) 14 λm=>aJ (ad d 0) 14 λn=>qv m n (xI .i64 λo=>K (.i o))) (lI (ad a 12) λp=>st (ad a 12) (.i (dm .i64 .andNot p 1)) (aJ (ad a 0) 14 λq=>mX b q (xI .i64 λr=>br (r !=0) (K (.i 35)) (K (.i 0))))))) j) h)))
def mr.u:WP|[.pointer a,.agg ⟨b⟩],K=>mr a b K|_,_=>no
def tz(a:OA)(K:VK):WK:=br (a.isNone) (K (.i 0)) (nn a λb=>lL b λd c e=>K (.i (c:Int)))
def fS(a:OA)(K:VK):WK:=br (a.isNone) (K (.i 0)) (nn a λb=>tz (some b) (xI .i64 λc=>K (.i c)))
def fS.u:WP|[.pointer a],K=>fS a K|_,_=>no
def eP(a b:Addr)(K:VK):WK:=lP b λc=>lI a λd=>nn c λe=>st (e.add 7) (.i d) (K (.tuple ⟨[]⟩))
def eP.u:WP|[.pointer (some a),.pointer (some b)],K=>eP a b K|_,_=>no
def fx(a c:Addr)(K:VK):WK:=tick (lP a λb=>nn b λd=>aJ c 4 λe=>mn (some (d.add 6)) e (x0 (kp a [.p b] (K (.tuple ⟨[]⟩)))))
def fx.u:WP|[.pointer (some a),.pointer (some b)],K=>fx a b K|_,_=>no
def jL.j1(K:VK)(a:OA)(c:Int)(n:Bool):WK:=br n (K (.b false)) (tick (nn a λd=>lL d λe f g=>sO e f g 2 none (some c) λo p q=>nn a λh=>lL h λj k m=>sO j k m 2 (some (aa.wrap (c+1))) none λr s x=>iz 2 16 [.i 0,.i 0] o p q r s λt u v=>kp h [.l j k m] (kp d [.l e f g] (nn a λw=>st w (.l t u v) (K (.b true))))))
def jL(a:OA)(d:Int)(K:VK):WK:=br (a.isNone) (K (.b false)) (mo a d (xI .i64 λc=>nn a λe=>lL e λl f m=>br (c==(f:Int)) (jL.j1 K a c true) (nn a λg=>lL g λh i n=>iV h i c 2 λj=>lI j λk=>jL.j1 K a c (k !=d))))
def eW(a d e:Addr)(K:VK):WK:=tick (lP a λb=>nn b λf=>lP (f.add 4) λg=>aJ d 2 λh=>oK g h (xB λk=>kp a [.p b] (tick (lP a λc=>nn c λi=>lI (e.add 30) λj=>jL (some (i.add 5)) j (xB λl=>kp a [.p c] (K (.tuple ⟨[]⟩)))))))
def eW.u:WP|[.pointer (some a),.pointer (some b),.pointer (some c)],K=>eW a b c K|_,_=>no
def fR.j1(K:VK)(a:OA)(d:LI)(e:LM)(f:Int)(g:World)(c b:Int):WK:=br (b==c) (K (.tuple ⟨[]⟩)) (tick (nn a λh=>lL h λj k A=>nn a λl=>lL l λm n B=>nn a λo=>lL o λp q C=>iV p q b 4 λr=>aJ r 4 λs=>nn a λt=>lL t λu v D=>iV u v c 4 λw=>aJ w 4 λx=>iV j k c 4 λy=>bA 4 y s (iV m n b 4 λz=>bA 4 z x ((ct d e [.i b] [.i f] g)))))
def fR.j2(K:VK)(d:OA)(a b:Int)(e:LI)(c:Int)(f:LM)(g:World)(p:LI)(q:LM)(r:Int)(s:World)(t:Bool):WK:=br t (tick (nn d λh=>lL h λj k u=>iV j k a 4 λv=>aJ v 4 λw=>nn d λm=>lL m λn o x=>iV n o b 4 λy=>aJ y 4 λz=>sj w z (xB λA=>kp m [.l n o x] (kp h [.l j k u] (br A ((ct e f [.i c,.i a,.i (aa.wrap (a+1))] [.i c,.i b,.i a] g)) ((ct e f [.i c,.i b,.i (aa.wrap (a+1))] [.i c,.i b,.i a] g))))))) (fR.j1 K d p q r s c b)
def fR(f:OA)(m:Int)(K:VK):WK:=(lp [.i m] λg k=>∀a c,g [.i a] c->((lp [.i a,.i a,.i (aa.wrap ((aa.wrap (2* a))+1))] λh l=>∀d j b e,h [.i d,.i j,.i b] e->(br (decide (b<=(aa.wrap ((aa.wrap (2* d))+2)))) (nn f λn=>lL n λp o q=>fR.j2 K f b j h d l e g k a c (decide (b<(o:Int)))) (fR.j2 K f b j h d l e g k a c false)) e)) c)
def qF(a:OA)(b:Int)(K:VK):WK:=mk zj λd=>tick (nn a λg=>lL g λh i o=>iV h i b 4 λj=>aJ j 4 λk=>nn a λe=>lL e λm c n=>mk zj λf=>kp e [.l m c n] (kp j k (kp g [.l h i o] (bA 4 (ad f 0) k (kp e [.l m c n] (tick (nn a λp=>lL p λq r M=>nn a λs=>lL s λt u O=>iV t u (aa.wrap ((c:Int) -1)) 4 λv=>aJ v 4 λw=>iV q r b 4 λx=>bA 4 x w (nn a λy=>lL y λz A B=>sO z A B 4 none (some (aa.wrap ((c:Int) -1))) λC D E=>nn a λF=>st F (.l C D E) (br (decide (b<(aa.wrap ((c:Int) -1)))) (fR a b (x0 (jF a b (x0 (aJ (ad f 0) 4 λG=>bA 4 (ad d 0) G (aJ (ad d 0) 4 λH=>K (.agg ⟨H⟩))))))) (aJ (ad f 0) 4 λI=>bA 4 (ad d 0) I (aJ (ad d 0) 4 λJ=>K (.agg ⟨J⟩))))))))))))
def mV(f:OA)(o:Int)(K:VK):WK:=br (f.isNone) (K (.b false)) (nn f λp=>lL p λq k r=>(lp [.b false,.l q k r,.i (k:Int),.i 0] λm s=>∀g c d h e a j,m [.b g,.l c d h,.i e,.i a] j->(br (decide (a<e)) (iV c d a 4 λt=>aJ t 4 λu=>mk zj λn=>bA 4 (ad n 0) u (lI (ad n 1) λv=>br (v==o) (qF f a (xA 4 λw=>K (.b true))) ((ct m s [.b g,.l c d h,.i e,.i (aa.wrap (a+1))] [.b g,.l c d h,.i e,.i a] j)))) (K (.b false))) j))
def eV(a c:Addr)(K:VK):WK:=tick (lP a λb=>nn b λd=>lI (c.add 1) λe=>mV (some (d.add 6)) e (xB λf=>kp a [.p b] (K (.tuple ⟨[]⟩))))
def eV.u:WP|[.pointer (some a),.pointer (some b)],K=>eV a b K|_,_=>no
def cH(a b c:Addr)(K:VK):WK:=tick (lP b λd=>nn d λe=>lL e λf g k=>lI c λh=>aJ a 14 λi=>iV f g h 14 λj=>bA 14 j i (K (.tuple ⟨[]⟩)))
def cH.u:WP|[.pointer (some a),.pointer (some b),.pointer (some c)],K=>cH a b c K|_,_=>no
def dc(a b c:Addr)(K:VK):WK:=tick (lP b λd=>nn d λe=>lL e λf g k=>lI c λh=>aJ a 33 λi=>iV f g h 33 λj=>bA 33 j i (K (.tuple ⟨[]⟩)))
def dc.u:WP|[.pointer (some a),.pointer (some b),.pointer (some c)],K=>dc a b c K|_,_=>no
def tA(a:OA)(e:Int)(K:VK):WK:=br (a.isNone) (K (.tuple ⟨[]⟩)) ((lp [] λc f=>∀b,c [] b->(nn a λg=>lL g λy h z=>br (decide ((h:Int)>(max2 e 0))) (nn a λi=>lL i λA d B=>nn a λj=>lL j λk m C=>iV k m (aa.wrap ((d:Int) -1)) 1 λn=>ld n λo=>yZ [(N.fx,fx.u),(N.eW,eW.u),(N.eV,eV.u),(N.eS,eS.u),(N.eP,eP.u),(N.eO,eO.u),(N.cI,cI.u),(N.cH,cH.u),(N.de,de.u),(N.dc,dc.u)] o [] (x0 (nn a λp=>lL p λq r s=>sO q r s 1 none (some (aa.wrap ((d:Int) -1))) λt v w=>nn a λx=>st x (.l t v w) ((ct c f [] [] b))))) (K (.tuple ⟨[]⟩))) b))
def fU(a:OA)(b:Int)(K:VK):WK:=br (!(a.isNone)) (nn a λc=>tA (some c) b (x0 (K (.tuple ⟨[]⟩)))) (K (.tuple ⟨[]⟩))
def fU.u:WP|[.pointer a,.int .i64 b],K=>fU a b K|_,_=>no
def nu(f o:OA)(j q:Nat)(r:OA)(s t:Nat)(v:Value)(K:VK):WK:=fS f (xI .i64 λw=>(lp [.i w,.l o j q,.i (j:Int),.i 0] λk x=>∀b c d g e a h,k [.i b,.l c d g,.i e,.i a] h->(br (decide (a<e)) (iV c d a 14 λy=>aJ y 14 λz=>mk dV λm=>bA 14 (ad m 0) z (aJ (ad m 0) 14 λA=>yZ [(N.fU,fU.u),(N.fS,fS.u),(N.mr,mr.u),(N.jV,jV.u)] v [.p f,.agg ⟨A⟩] (xI .i64 λn=>br (n !=0) (fU f b (x0 (jV r s t a n (x0 (K (.tuple ⟨[]⟩)))))) ((ct k x [.i b,.l c d g,.i e,.i (aa.wrap (a+1))] [.i b,.l c d g,.i e,.i a] h))))) (K (.tuple ⟨[]⟩))) h))
def pW(t n:OA)(e o:Nat)(u v:Value)(K:VK):WK:=Mo 8 [.i 0] (e:Int) (e:Int) λw x y=>(lp [.l none 0 0,.l w x y,.i 0] λm p=>∀f g h b c d a k,m [.l f g h,.l b c d,.i a] k->(br (decide (a<(e:Int))) (sO n e o 14 (some a) none λz A B=>mL z A B (u) (x2 λC D=>(xI .i64 λj=>(xB λE=>sO b c d 1 (some a) (some (aa.wrap (a+j))) λq r s=>br (!E) (jV q r s (aa.wrap (j-1)) 2 (x0 ((ct m p [.l f g h,.l b c d,.i (aa.wrap (a+j))] [.l f g h,.l b c d,.i a] k)))) (sO n e o 14 (some a) (some (aa.wrap (a+j))) λF G H=>nu t F G H q r s (v) (x0 ((ct m p [.l f g h,.l b c d,.i (aa.wrap (a+j))] [.l f g h,.l b c d,.i a] k))))) D) C)) (K (.l b c d))) k)
def sy(a b:OA)(c d:Nat)(K:VK):WK:=pW a b c d (.func (.func N.ib) ⟨[]⟩ ⟨[]⟩) (.func (.func N.mr) ⟨[]⟩ ⟨[]⟩) (xL λe f g=>K (.l e f g))
def gK(a:LV)(K:VK):WK:=mk a λc=>lI (ad c 13) λd=>K (.b ((dm .i64 .and d 1)!=0))
def gK.u:WP|[.agg ⟨a⟩],K=>gK a K|_,_=>no
def l6(o:OA)(f p:Nat)(q:Value)(K:VK):WK:=(lp [.i 0,.b false,.l o f p,.i (f:Int),.i 0] λm r=>∀g h c d j e a k,m [.i g,.b h,.l c d j,.i e,.i a] k->(br (decide (a<e)) (iV c d a 16 λs=>aJ s 16 λt=>mk iA λn=>bA 16 (ad n 0) t (aJ (ad n 0) 16 λv=>yZ [(N.gK,gK.u)] q [.agg ⟨v⟩] (xB λw=>br (!w) (K (.tuple ⟨[.i (aa.wrap (a+1)),.b true]⟩)) ((ct m r [.i g,.b h,.l c d j,.i e,.i (aa.wrap (a+1))] [.i g,.b h,.l c d j,.i e,.i a] k))))) (K (.tuple ⟨[.i (f:Int),.b false]⟩))) k)
def sU(a:LV)(K:VK):WK:=mk a λc=>lI (ad c 13) λd=>K (.b ((dm .i64 .and d 12)!=0))
def mB(a:LV)(K:VK):WK:=mk a λc=>lI (ad c 13) λd=>K (.b ((dm .i64 .and d 2)!=0))
def ln.j1(K:VK)(a:Addr)(c:Bool):WK:=br c (lI (a.add 13) λd=>br ((dm .i64 .and d 192)==0) (K (.b true)) (aJ a 16 λe=>mB e (xB λf=>K (.b f)))) (K (.b false))
def ln(k:LV)(K:VK):WK:=mk k λl=>cu (1=1/\(1=1/\(1=1/\True))) ((lp [.p (some (ad l 0)),.b false,.i 0,.agg ⟨[.i 2,.i 4,.i 8]⟩,.i 0] λh j=>∀a f d e c g,h [.p (some a),.b f,.i d,.agg ⟨e⟩,.i c] g->(br (decide (c<3)) (D6 e 3 c (xI .i64 λm=>lI (a.add 13) λn=>br ((dm .i64 .and n m)!=0) ((ct h j [.p (some a),.b f,.i (aa.wrap (d+1)),.agg ⟨e⟩,.i (aa.wrap (c+1))] [.p (some a),.b f,.i d,.agg ⟨e⟩,.i c] g)) ((ct h j [.p (some a),.b f,.i d,.agg ⟨e⟩,.i (aa.wrap (c+1))] [.p (some a),.b f,.i d,.agg ⟨e⟩,.i c] g)))) (br (decide (d<=1)) (aJ a 16 λo=>sU o (xB λq=>br q (lI (a.add 13) λr=>ln.j1 K a (!((dm .i64 .and r 240)!=0))) (ln.j1 K a true))) (ln.j1 K a false))) g))
def oX.j1(K:VK)(a:Nat)(b:Bool):WK:=br b (K (.i 8)) (lI (ad a 12) λc=>br (decide (c<0)) (K (.i 9)) (lI (ad a 12) λd=>br (decide (d>65535)) (K (.i 9)) (K (.i 0))))
def oX(b:LV)(K:VK):WK:=mk b λa=>aJ (ad a 8) 2 λc=>iX c (xB λd=>br d (K (.i 16)) (lI (ad a 11) λe=>br (decide (e<0)) (oX.j1 K a true) (lI (ad a 11) λf=>oX.j1 K a (decide (f>4294967295)))))
def qW(a:LV)(K:VK):WK:=mk a λc=>lI (ad c 13) λd=>K (.b ((dm .i64 .and d 48)!=0))
def kI.j2(K:VK)(a:Nat)(b:Bool):WK:=br b (K (.i 8)) (lI (ad a 12) λc=>br (decide (c<1)) (K (.i 9)) (lI (ad a 12) λd=>br (decide (d>65535)) (K (.i 9)) (K (.i 0))))
def kI.j1(K:VK)(a:Nat)(b:Bool):WK:=br b (K (.i 18)) (lI (ad a 11) λc=>br (decide (c<1)) (kI.j2 K a true) (lI (ad a 11) λd=>kI.j2 K a (decide (d>4294967295))))
def kI(b:LV)(K:VK):WK:=mk b λa=>aJ (ad a 2) 2 λc=>iX c (xB λd=>br d (K (.i 12)) (aJ (ad a 4) 2 λe=>iX e (xB λf=>br f (K (.i 13)) (aJ (ad a 2) 2 λg=>aJ (ad a 4) 2 λh=>rz [.u 0,.u 0] g h λj=>br j (K (.i 14)) (aJ (ad a 8) 2 λk=>iX k (xB λl=>br (!l) (K (.i 15)) (aJ (ad a 6) 2 λm=>iX m (xB λn=>br n (aJ (ad a 0) 16 λo=>qW o (xB λp=>kI.j1 K a (!p))) (kI.j1 K a false)))))))))
def fK.j3(K:VK)(a:Nat)(b:Bool):WK:=br b (K (.i 17)) (aJ (ad a 0) 16 λc=>sU c (xB λd=>br d (aJ (ad a 0) 16 λe=>oX e (xI .i64 λf=>K (.i f))) (aJ (ad a 0) 16 λg=>kI g (xI .i64 λh=>K (.i h)))))
def fK.j4(K:VK)(a:Nat)(b:Bool):WK:=br b (fK.j3 K a true) (lI (ad a 10) λc=>br (c !=0) (aJ (ad a 0) 16 λd=>mB d (xB λe=>fK.j3 K a (!e))) (fK.j3 K a false))
def fK.j2(K:VK)(a:Nat)(b:Bool):WK:=br b (K (.i 7)) (lI (ad a 10) λc=>br (decide (c<0)) (fK.j4 K a true) (lI (ad a 10) λd=>fK.j4 K a (decide (d>1073741824))))
def fK.j1(K:VK)(a:Nat)(b:Bool):WK:=br b (K (.i 3)) (aJ (ad a 0) 2 λc=>iX c (xB λd=>br d (K (.i 4)) (aJ (ad a 0) 2 λe=>aJ (ad N.tZ 0) 2 λf=>rz [.u 0,.u 0] e f λg=>br g (K (.i 5)) (aJ (ad a 0) 16 λh=>ln h (xB λj=>br (!j) (K (.i 6)) (lI (ad a 14) λk=>br (k !=0) (fK.j2 K a true) (lI (ad a 15) λl=>fK.j2 K a (l !=0))))))))
def fK(b:LV)(K:VK):WK:=mk b λa=>lI (ad a 13) λc=>br (decide (c<0)) (fK.j1 K a true) (lI (ad a 13) λd=>fK.j1 K a (decide (d>255)))
def dS.j1(K:VK)(c a:Nat)(d:OA)(e:Int)(f:Bool):WK:=br f (aJ (ad c 0) 33 λg=>bA 33 (ad a 0) g (aJ (ad a 0) 33 λh=>K (.tuple ⟨[.agg ⟨h⟩,.b false]⟩))) (nn d λi=>lL i λj k o=>iV j k e 33 λl=>aJ l 33 λm=>bA 33 (ad a 0) m (aJ (ad a 0) 33 λn=>K (.tuple ⟨[.agg ⟨n⟩,.b true]⟩)))
def dS(b:OA)(a:Int)(K:VK):WK:=mk cG λc=>mk cG λd=>br (decide (a<0)) (dS.j1 K d c b a true) (gH b (xI .i64 λe=>dS.j1 K d c b a (decide (a>=e))))
def iN(c:OA)(d:LV)(K:VK):WK:=mk d λe=>mk cG λa=>br (c.isNone) (cu True (cu (33=33) (kj (ad a 0) cG (aJ (ad a 0) 33 λf=>K (.tuple ⟨[.agg ⟨f⟩,.b false]⟩))))) (tick (nn c λg=>lP (g.add 4) λh=>aJ (ad e 0) 2 λi=>iD h i (x2 λj k=>(xI .i64 λl=>(xB λm=>br (!m) (cu True (cu (33=33) (kj (ad a 0) cG (aJ (ad a 0) 33 λn=>K (.tuple ⟨[.agg ⟨n⟩,.b false]⟩))))) (nn c λo=>lP (o.add 2) λp=>dS p l (x2 λq r=>(xA 33 λs=>(xB λt=>bA 33 (ad a 0) s (aJ (ad a 0) 33 λu=>K (.tuple ⟨[.agg ⟨u⟩,.b t]⟩))) r) q))) k) j)))
def kO(e:OA)(f:Int)(g:LV)(K:VK):WK:=mk [.p e] λa=>mk [.i f] λc=>mk g λh=>lP (ad a 0) λj=>lI (ad c 0) λk=>dU j k (x2 λl m=>(xA 14 λn=>(xB λo=>mk dV λd=>bA 14 (ad d 0) n (br (!o) (K (.b false)) (tick (lP (ad a 0) λq=>nn q λr=>lL r λs t A=>lI (ad c 0) λu=>aJ (ad h 0) 14 λv=>iV s t u 14 λw=>bA 14 w v (lP (ad a 0) λx=>nn x λy=>lP (y.add 1) λz=>iL z (.func (.func N.cH) ⟨[]⟩ ⟨[.p (some (ad d 0)),.p (some (ad a 0)),.p (some (ad c 0))]⟩) (x0 (K (.b true)))))))) m) l)
def k8(a:OA)(d:LV)(K:VK):WK:=mk d λb=>aJ (ad b 0) 2 λe=>dY a e (x2 λf g=>(xA 14 λh=>(xB λj=>mk dV λc=>bA 14 (ad c 0) h (br (a.isNone) (K (.i 2)) (br (!j) (K (.i 5)) (tick (nn a λk=>lP (k.add 3) λl=>aJ (ad b 0) 2 λm=>iD l m (x2 λn o=>(xI .i64 λp=>(xB λu=>lI (ad c 13) λq=>st (ad b 13) (.i q) (tick (nn a λr=>lP (r.add 1) λs=>aJ (ad b 0) 14 λt=>kO s p t (xB λv=>K (.i 0))))) o) n)))))) g) f)
def vd(d e:LV)(K:VK):WK:=mk d λb=>mk e λa=>tick (lI (ad b 13) λf=>lI (ad a 13) λc=>st (ad b 13) (.i (dm .i64 .andNot f 1)) (kp (ad a 13) [.i c] (st (ad a 13) (.i (dm .i64 .andNot c 1)) (aJ (ad b 0) 16 λg=>aJ (ad a 0) 16 λh=>rz iA g h λj=>br j (K (.i 10)) (K (.i 11))))))
def Ak(g:OA)(h:LV)(K:VK):WK:=mk h λd=>mk oW λa=>aJ (ad d 2) 2 λj=>dY g j (x2 λk l=>(xA 14 λm=>(xB λn=>mk dV λb=>bA 14 (ad b 0) m (aJ (ad d 4) 2 λo=>dY g o (x2 λp q=>(xA 14 λr=>(xB λs=>mk dV λc=>bA 14 (ad c 0) r (br (!n) (cu True (cu (28=28) (kj (ad a 0) oW (aJ (ad a 0) 28 λt=>K (.tuple ⟨[.agg ⟨t⟩,.i 19]⟩))))) (br (!s) (cu True (cu (28=28) (kj (ad a 0) oW (aJ (ad a 0) 28 λu=>K (.tuple ⟨[.agg ⟨u⟩,.i 20]⟩))))) (lI (ad b 10) λv=>lI (ad c 10) λw=>br (v !=w) (cu True (cu (28=28) (kj (ad a 0) oW (aJ (ad a 0) 28 λx=>K (.tuple ⟨[.agg ⟨x⟩,.i 21]⟩))))) (lI (ad b 10) λy=>lI (ad d 11) λz=>br (y !=z) (cu True (cu (28=28) (kj (ad a 0) oW (aJ (ad a 0) 28 λA=>K (.tuple ⟨[.agg ⟨A⟩,.i 22]⟩))))) (lI (ad b 12) λB=>br ((dm .i64 .and B 8)!=0) (cu True (cu (28=28) (kj (ad a 0) oW (aJ (ad a 0) 28 λC=>K (.tuple ⟨[.agg ⟨C⟩,.i 30]⟩))))) (lI (ad c 12) λD=>br ((dm .i64 .and D 8)!=0) (cu True (cu (28=28) (kj (ad a 0) oW (aJ (ad a 0) 28 λE=>K (.tuple ⟨[.agg ⟨E⟩,.i 31]⟩))))) (aJ (ad b 0) 14 λe=>aJ (ad c 0) 14 λf=>cu (e.length=14/\(f.length=14/\True)) (cu ((e++(f++[])).length=28) (kj (ad a 0) (e++(f++[])) (aJ (ad a 0) 28 λF=>K (.tuple ⟨[.agg ⟨F⟩,.i 0]⟩)))))))))))) q) p))) l) k)
def oR(a:OA)(K:VK):WK:=br (!(a.isNone)) (nn a λc=>lP (c.add 2) λd=>gH d (xI .i64 λe=>K (.b (decide (e<96))))) (K (.b false))
def uG(c d:LV)(K:VK):WK:=mk c λa=>mk d λb=>aJ (ad a 0) 2 λe=>aJ (ad b 0) 2 λf=>rz [.u 0,.u 0] e f λg=>br g (K (.i 0)) (lU (ad a 0) λh=>lU (ad b 0) λj=>br (decide (h<j)) (K (.i (-1))) (lU (ad a 0) λk=>lU (ad b 0) λl=>br (k==l) (lU (ad a 1) λm=>lU (ad b 1) λn=>br (decide (m<n)) (K (.i (-1))) (K (.i 1))) (K (.i 1))))
def rO(a c:LV)(K:VK):WK:=mk a λd=>mk c λe=>aJ (ad d 0) 2 λf=>aJ (ad e 0) 2 λg=>uG f g (xI .i64 λh=>K (.b (decide (h<0))))
def zl(d e:LV)(K:VK):WK:=mk d λb=>mk e λc=>mk [.u 0,.u 0] λa=>aJ (ad c 0) 2 λf=>aJ (ad b 0) 2 λg=>rO f g (xB λh=>br h (aJ (ad c 0) 2 λi=>bA 2 (ad a 0) i (aJ (ad a 0) 2 λj=>K (.agg ⟨j⟩))) (aJ (ad b 0) 2 λk=>bA 2 (ad a 0) k (aJ (ad a 0) 2 λl=>K (.agg ⟨l⟩))))
def ql(e f:LV)(K:VK):WK:=mk e λc=>mk f λd=>mk [.u 0,.u 0] λa=>aJ (ad c 0) 2 λg=>aJ (ad d 0) 2 λh=>rO g h (xB λi=>br i (cu True (cu (2=2) (kj (ad a 0) [.u 0,.u 0] (aJ (ad a 0) 2 λj=>K (.tuple ⟨[.agg ⟨j⟩,.b false]⟩))))) (lU (ad c 1) λk=>lU (ad d 1) λl=>rK k l 0 (x2 λm n=>(xI .u64 λo=>(xI .u64 λp=>lU (ad c 0) λq=>lU (ad d 0) λr=>rK q r p (x2 λs t=>(xI .u64 λv=>(xI .u64 λx=>cu (1=1/\(1=1/\True)) (cu (2=2) (kj (ad a 0) [.u v,.u o] (aJ (ad a 0) 2 λw=>K (.tuple ⟨[.agg ⟨w⟩,.b true]⟩))))) t) s)) n) m)))
def qm(e f:LV)(K:VK):WK:=mk e λc=>mk f λd=>mk [.u 0,.u 0] λa=>lU (ad c 1) λg=>lU (ad d 1) λh=>rL g h 0 (x2 λi j=>(xI .u64 λk=>(xI .u64 λl=>lU (ad c 0) λm=>lU (ad d 0) λn=>rL m n l (x2 λo p=>(xI .u64 λq=>(xI .u64 λr=>br (r !=0) (cu True (cu (2=2) (kj (ad a 0) [.u 0,.u 0] (aJ (ad a 0) 2 λs=>K (.tuple ⟨[.agg ⟨s⟩,.b false]⟩))))) (cu (1=1/\(1=1/\True)) (cu (2=2) (kj (ad a 0) [.u q,.u k] (aJ (ad a 0) 2 λt=>K (.tuple ⟨[.agg ⟨t⟩,.b true]⟩)))))) p) o)) j) i)
def ju(c d:LV)(K:VK):WK:=mk c λe=>mk d λf=>mk [.u 0,.u 0] λa=>aJ (ad e 0) 2 λg=>aJ (ad f 0) 2 λh=>qm g h (x2 λi j=>(xA 2 λk=>(xB λl=>mk [.u 0,.u 0] λb=>bA 2 (ad b 0) k (br (!l) (aJ (ad N.tZ 0) 2 λm=>bA 2 (ad a 0) m (aJ (ad a 0) 2 λn=>K (.agg ⟨n⟩))) (aJ (ad b 0) 2 λo=>bA 2 (ad a 0) o (aJ (ad a 0) 2 λp=>K (.agg ⟨p⟩))))) j) i)
def dM.j1(K:VK)(c d a:Nat):WK:=aJ (ad c 0) 2 λe=>aJ (ad d 0) 2 λf=>ql e f (x2 λg h=>(xA 2 λi=>(xB λl=>mk [.u 0,.u 0] λb=>bA 2 (ad b 0) i (aJ (ad b 0) 2 λj=>bA 2 (ad a 0) j (aJ (ad a 0) 2 λk=>K (.agg ⟨k⟩)))) h) g)
def dM.j2(K:VK)(c d a:Nat):WK:=aJ (ad c 0) 2 λe=>aJ (ad d 0) 2 λf=>ql e f (x2 λg h=>(xA 2 λi=>(xB λl=>mk [.u 0,.u 0] λb=>bA 2 (ad b 0) i (aJ (ad b 0) 2 λj=>bA 2 (ad a 0) j (aJ (ad a 0) 2 λk=>K (.agg ⟨k⟩)))) h) g)
def dM.j3(K:VK)(c d a:Nat):WK:=aJ (ad c 0) 2 λe=>aJ (ad d 0) 2 λf=>ql e f (x2 λg h=>(xA 2 λi=>(xB λl=>mk [.u 0,.u 0] λb=>bA 2 (ad b 0) i (aJ (ad b 0) 2 λj=>bA 2 (ad a 0) j (aJ (ad a 0) 2 λk=>K (.agg ⟨k⟩)))) h) g)
def dM.j4(K:VK)(c d a:Nat):WK:=aJ (ad c 0) 2 λe=>aJ (ad d 0) 2 λf=>ql e f (x2 λg h=>(xA 2 λi=>(xB λl=>mk [.u 0,.u 0] λb=>bA 2 (ad b 0) i (aJ (ad b 0) 2 λj=>bA 2 (ad a 0) j (aJ (ad a 0) 2 λk=>K (.agg ⟨k⟩)))) h) g)
def dM.j5(K:VK)(c d a:Nat):WK:=aJ (ad c 0) 2 λe=>aJ (ad d 0) 2 λf=>ql e f (x2 λg h=>(xA 2 λi=>(xB λl=>mk [.u 0,.u 0] λb=>bA 2 (ad b 0) i (aJ (ad b 0) 2 λj=>bA 2 (ad a 0) j (aJ (ad a 0) 2 λk=>K (.agg ⟨k⟩)))) h) g)
def dM.j6(K:VK)(c d a:Nat):WK:=aJ (ad c 0) 2 λe=>aJ (ad d 0) 2 λf=>ql e f (x2 λg h=>(xA 2 λi=>(xB λl=>mk [.u 0,.u 0] λb=>bA 2 (ad b 0) i (aJ (ad b 0) 2 λj=>bA 2 (ad a 0) j (aJ (ad a 0) 2 λk=>K (.agg ⟨k⟩)))) h) g)
def dM(y:LV)(h:Bool)(K:VK):WK:=mk y λa=>mk [.u 0,.u 0] λc=>tick (aJ (ad a 4) 2 λb=>aJ (ad a 6) 2 λd=>aJ (ad a 8) 2 λe=>both (ju d e (xA 2 λq=>kp (ad a 4) b (both (mk [.u 0,.u 0] λi=>kp (ad a 4) b (mk [.u 0,.u 0] λj=>kp (ad a 4) b (bA 2 (ad i 0) b (bA 2 (ad j 0) q (br h (tick (aJ (ad a 8) 2 λr=>aJ (ad a 2) 2 λz=>aJ (ad a 4) 2 λA=>ju z A (xA 2 λB=>kp (ad a 8) r (bA 2 (ad i 0) r (bA 2 (ad j 0) B (dM.j1 K i j c)))))) (dM.j1 K i j c)))))) (mk [.u 0,.u 0] λk=>kp (ad a 4) b (mk [.u 0,.u 0] λl=>kp (ad a 4) b (bA 2 (ad l 0) b (bA 2 (ad k 0) q (br h (tick (aJ (ad a 8) 2 λs=>aJ (ad a 2) 2 λC=>aJ (ad a 4) 2 λD=>ju C D (xA 2 λE=>kp (ad a 8) s (bA 2 (ad l 0) s (bA 2 (ad k 0) E (dM.j2 K l k c)))))) (dM.j2 K l k c))))))))) (both (mk [.u 0,.u 0] λf=>kp (ad a 8) e (kp (ad a 6) d (kp (ad a 4) b (both (ju d e (xA 2 λF=>kp (ad a 4) b (mk [.u 0,.u 0] λm=>kp (ad a 4) b (bA 2 (ad f 0) b (bA 2 (ad m 0) F (br h (tick (aJ (ad a 8) 2 λt=>aJ (ad a 2) 2 λG=>aJ (ad a 4) 2 λH=>ju G H (xA 2 λI=>kp (ad a 8) t (bA 2 (ad f 0) t (bA 2 (ad m 0) I (dM.j3 K f m c)))))) (dM.j3 K f m c))))))) (mk [.u 0,.u 0] λn=>kp (ad a 8) e (kp (ad a 6) d (kp (ad a 4) b (ju d e (xA 2 λJ=>kp (ad a 4) b (bA 2 (ad f 0) b (bA 2 (ad n 0) J (br h (tick (aJ (ad a 8) 2 λv=>aJ (ad a 2) 2 λM=>aJ (ad a 4) 2 λO=>ju M O (xA 2 λP=>kp (ad a 8) v (bA 2 (ad f 0) v (bA 2 (ad n 0) P (dM.j4 K f n c)))))) (dM.j4 K f n c))))))))))))) (mk [.u 0,.u 0] λg=>kp (ad a 8) e (kp (ad a 6) d (kp (ad a 4) b (both (ju d e (xA 2 λQ=>kp (ad a 4) b (mk [.u 0,.u 0] λo=>kp (ad a 4) b (bA 2 (ad o 0) b (bA 2 (ad g 0) Q (br h (tick (aJ (ad a 8) 2 λw=>aJ (ad a 2) 2 λR=>aJ (ad a 4) 2 λS=>ju R S (xA 2 λT=>kp (ad a 8) w (bA 2 (ad o 0) w (bA 2 (ad g 0) T (dM.j5 K o g c)))))) (dM.j5 K o g c))))))) (mk [.u 0,.u 0] λp=>kp (ad a 8) e (kp (ad a 6) d (kp (ad a 4) b (ju d e (xA 2 λV=>kp (ad a 4) b (bA 2 (ad p 0) b (bA 2 (ad g 0) V (br h (tick (aJ (ad a 8) 2 λx=>aJ (ad a 2) 2 λW=>aJ (ad a 4) 2 λX=>ju W X (xA 2 λY=>kp (ad a 8) x (bA 2 (ad p 0) x (bA 2 (ad g 0) Y (dM.j6 K p g c)))))) (dM.j6 K p g c)))))))))))))))
def gI.j3(K:VK)(d a e b:Nat):WK:=lI (ad d 13) λf=>br ((dm .i64 .and f 32)!=0) (tick (aJ (ad a 0) 2 λc=>aJ (ad e 14) 14 λg=>dM g false (xA 2 λh=>kp (ad a 0) c (zl c h (xA 2 λj=>bA 2 (ad a 0) j (aJ (ad a 0) 2 λk=>iX k (xB λl=>br l (aJ (ad a 0) 2 λm=>bA 2 (ad b 0) m (aJ (ad b 0) 2 λn=>K (.tuple ⟨[.agg ⟨n⟩,.i 34]⟩))) (aJ (ad a 0) 2 λo=>bA 2 (ad b 0) o (aJ (ad b 0) 2 λp=>K (.tuple ⟨[.agg ⟨p⟩,.i 0]⟩)))))))))) (aJ (ad a 0) 2 λq=>bA 2 (ad b 0) q (aJ (ad b 0) 2 λr=>K (.tuple ⟨[.agg ⟨r⟩,.i 0]⟩)))
def gI.j2(K:VK)(c a d b:Nat):WK:=lI (ad c 13) λf=>br ((dm .i64 .and f 16)!=0) (tick (aJ (ad a 0) 2 λe=>aJ (ad d 0) 14 λg=>dM g true (xA 2 λh=>kp (ad a 0) e (zl e h (xA 2 λj=>bA 2 (ad a 0) j (aJ (ad a 0) 2 λk=>iX k (xB λl=>br l (aJ (ad a 0) 2 λm=>bA 2 (ad b 0) m (aJ (ad b 0) 2 λn=>K (.tuple ⟨[.agg ⟨n⟩,.i 33]⟩))) (gI.j3 K c a d b)))))))) (gI.j3 K c a d b)
def gI.j1(K:VK)(a b c d:Nat)(e:Bool):WK:=br e (aJ (ad N.tZ 0) 2 λf=>bA 2 (ad a 0) f (gI.j2 K b a c d)) (gI.j2 K b a c d)
def gI(e f:LV)(K:VK):WK:=mk e λc=>mk f λa=>mk [.u 0,.u 0] λd=>aJ (ad a 6) 2 λg=>mk [.u 0,.u 0] λb=>bA 2 (ad b 0) g (aJ (ad a 0) 16 λh=>qW h (xB λi=>br i (aJ (ad b 0) 2 λj=>iX j (xB λk=>gI.j1 K b a c d k)) (gI.j1 K b a c d false)))
def zk(q:OA)(m r:Nat)(K:VK):WK:=mk [.u 0,.u 0] λs=>mk [.u 0,.u 0] λt=>(lp [.p (some (ad s 0)),.b false,.p (some (ad t 0)),.l q m r,.i (m:Int),.i 0] λn v=>∀a h c e f j g d k,n [.p (some a),.b h,.p (some c),.l e f j,.i g,.i d] k->(br (decide (d<g)) (iV e f d 2 λw=>aJ w 2 λx=>mk [.u 0,.u 0] λo=>bA 2 (ad o 0) x (aJ c 2 λy=>aJ (ad o 0) 2 λz=>qm y z (x2 λA B=>(xA 2 λC=>(xB λD=>bA 2 c C (br (!D) (cu True (cu (2=2) (kj a [.u 0,.u 0] (aJ a 2 λE=>K (.tuple ⟨[.agg ⟨E⟩,.b false]⟩))))) ((ct n v [.p (some a),.b h,.p (some c),.l e f j,.i g,.i (aa.wrap (d+1))] [.p (some a),.b h,.p (some c),.l e f j,.i g,.i d] k)))) B) A))) (aJ c 2 λF=>bA 2 a F (aJ a 2 λG=>K (.tuple ⟨[.agg ⟨G⟩,.b true]⟩)))) k)
def nY.j1(K:VK)(a b:Nat)(d:Bool)(c:Nat)(e:Bool):WK:=br e (aJ (ad a 0) 14 λf=>bA 14 (ad b 0) f (aJ (ad b 0) 14 λg=>K (.tuple ⟨[.agg ⟨g⟩,.i 33]⟩))) (br d (aJ (ad a 2) 2 λh=>aJ (ad c 0) 2 λj=>qm h j (x2 λk l=>(xA 2 λm=>(xB λw=>bA 2 (ad a 2) m (aJ (ad a 0) 14 λn=>bA 14 (ad b 0) n (aJ (ad b 0) 14 λo=>K (.tuple ⟨[.agg ⟨o⟩,.i 0]⟩)))) l) k)) (aJ (ad a 4) 2 λp=>aJ (ad c 0) 2 λq=>qm p q (x2 λr s=>(xA 2 λt=>(xB λx=>bA 2 (ad a 4) t (aJ (ad a 0) 14 λu=>bA 14 (ad b 0) u (aJ (ad b 0) 14 λv=>K (.tuple ⟨[.agg ⟨v⟩,.i 0]⟩)))) s) r)))
def nY(k l:LV)(e:Bool)(K:VK):WK:=mk k λa=>mk l λb=>mk dV λc=>aJ (ad a 2) 2 λf=>aJ (ad a 4) 2 λg=>aJ (ad b 0) 2 λh=>cu (f.length=2/\(g.length=2/\(h.length=2/\True))) (mk (f++(g++(h++[]))) λm=>zk (ah m) 3 3 (x2 λn o=>(xA 2 λp=>(xB λq=>mk [.u 0,.u 0] λr=>bA 2 (ad r 0) p (br (!q) (aJ (ad a 0) 14 λs=>bA 14 (ad c 0) s (aJ (ad c 0) 14 λt=>K (.tuple ⟨[.agg ⟨t⟩,.i 32]⟩))) (tick (lI (ad a 12) λd=>br ((dm .i64 .and d 2)!=0) (aJ (ad a 0) 14 λv=>aJ (ad b 0) 2 λj=>dM v true (xA 2 λw=>kp (ad b 0) j (kp (ad a 12) [.i d] (rO w j (xB λx=>kp (ad a 12) [.i d] (nY.j1 K a c e b x)))))) (nY.j1 K a c e b false))))) o) n))
def mM.j1(K:VK)(a b:Nat)(d:Bool)(c:Nat)(e:Bool):WK:=br e (aJ (ad a 0) 14 λf=>bA 14 (ad b 0) f (aJ (ad b 0) 14 λg=>K (.tuple ⟨[.agg ⟨g⟩,.i 34]⟩))) (br d (aJ (ad a 6) 2 λh=>aJ (ad c 0) 2 λj=>qm h j (x2 λk l=>(xA 2 λm=>(xB λw=>bA 2 (ad a 6) m (aJ (ad a 0) 14 λn=>bA 14 (ad b 0) n (aJ (ad b 0) 14 λo=>K (.tuple ⟨[.agg ⟨o⟩,.i 0]⟩)))) l) k)) (aJ (ad a 8) 2 λp=>aJ (ad c 0) 2 λq=>qm p q (x2 λr s=>(xA 2 λt=>(xB λx=>bA 2 (ad a 8) t (aJ (ad a 0) 14 λu=>bA 14 (ad b 0) u (aJ (ad b 0) 14 λv=>K (.tuple ⟨[.agg ⟨v⟩,.i 0]⟩)))) s) r)))
def mM(k l:LV)(e:Bool)(K:VK):WK:=mk k λa=>mk l λb=>mk dV λc=>aJ (ad a 6) 2 λf=>aJ (ad a 8) 2 λg=>aJ (ad b 0) 2 λh=>cu (f.length=2/\(g.length=2/\(h.length=2/\True))) (mk (f++(g++(h++[]))) λm=>zk (ah m) 3 3 (x2 λn o=>(xA 2 λp=>(xB λq=>mk [.u 0,.u 0] λr=>bA 2 (ad r 0) p (br (!q) (aJ (ad a 0) 14 λs=>bA 14 (ad c 0) s (aJ (ad c 0) 14 λt=>K (.tuple ⟨[.agg ⟨t⟩,.i 32]⟩))) (tick (lI (ad a 12) λd=>br ((dm .i64 .and d 4)!=0) (aJ (ad a 0) 14 λv=>aJ (ad b 0) 2 λj=>dM v false (xA 2 λw=>kp (ad b 0) j (kp (ad a 12) [.i d] (rO w j (xB λx=>kp (ad a 12) [.i d] (mM.j1 K a c e b x)))))) (mM.j1 K a c e b false))))) o) n))
def iO.j1(K:VK)(a b g:Nat):WK:=tick (lP (ad a 0) λn=>lP (ad a 0) λc=>nn c λd=>lI (d.add 7) λe=>oQ n (xI .i64 λo=>kp (d.add 7) [.i e] (kp (ad a 0) [.p c] (st (ad b 30) (.i o) (kp (d.add 7) [.i e] (kp (ad a 0) [.p c] (st (ad b 31) (.i e) (tick (lP (ad a 0) λh=>nn h λq=>lP (q.add 2) λr=>aJ (ad b 0) 33 λs=>kk r s (xI .i64 λj=>kp (ad a 0) [.p h] (tick (lP (ad a 0) λk=>nn k λt=>lP (t.add 4) λu=>aJ (ad g 0) 2 λv=>eu u v j (xB λJ=>kp (ad a 0) [.p k] (tick (lP (ad a 0) λl=>nn l λw=>lI (ad b 30) λx=>jG (some (w.add 5)) x j (xB λM=>kp (ad a 0) [.p l] (lP (ad a 0) λy=>nn y λz=>iL (some z) (.func (.func N.eW) ⟨[]⟩ ⟨[.p (some (ad a 0)),.p (some (ad g 0)),.p (some (ad b 0))]⟩) (x0 (aJ (ad b 0) 33 λA=>u4 A (x2 λB C=>(xA 4 λD=>(xB λE=>mk zj λf=>bA 4 (ad f 0) D (br E (tick (lP (ad a 0) λm=>nn m λF=>aJ (ad f 0) 4 λG=>mn (some (F.add 6)) G (x0 (kp (ad a 0) [.p m] (lP (ad a 0) λH=>nn H λI=>iL (some I) (.func (.func N.eV) ⟨[]⟩ ⟨[.p (some (ad a 0)),.p (some (ad f 0))]⟩) (x0 (K (.i 0)))))))) (K (.i 0)))) C) B))))))))))))))))))))
def iO(g:OA)(h j:LV)(k:Bool)(K:VK):WK:=mk [.p g] λa=>mk h λl=>mk j λb=>lP (ad a 0) λm=>br (m.isNone) (K (.i 2)) (lP (ad a 0) λn=>nn n λo=>lP (o.add 2) λq=>gH q (xI .i64 λr=>br (decide (r>=96)) (K (.i 6)) (tick (lP (ad a 0) λf=>nn f λs=>lP (s.add 4) λt=>aJ (ad b 0) 2 λu=>iD t u (x2 λv w=>(xI .i64 λy=>(xB λx=>kp (ad a 0) [.p f] (br x (K (.i 1)) (aJ (ad l 0) 16 λd=>aJ (ad b 0) 16 λe=>cu (d.length=16/\(e.length=16/\True)) (mk cG λc=>cu ((d++(e++([.i 0]:LV))).length=33) (kj (ad c 0) (d++(e++([.i 0]:LV))) (br k (st (ad c 32) (.i 1) (iO.j1 K a c b)) (iO.j1 K a c b))))))) w) v)))))
def qd.j2(K:VK)(d:Nat)(c:OA)(a g:Nat):WK:=aJ (ad d 0) 14 λh=>k8 c h (xI .i64 λo=>aJ (ad d 14) 14 λj=>k8 c j (xI .i64 λp=>aJ (ad a 0) 16 λk=>mk iA λb=>bA 16 (ad b 0) k (aJ (ad g 0) 2 λl=>bA 2 (ad b 6) l (tick (aJ (ad a 0) 16 λe=>aJ (ad b 0) 16 λf=>aJ (ad a 0) 16 λm=>mB m (xB λn=>kp (ad b 0) f (kp (ad a 0) e (iO c e f n (xI .i64 λq=>K (.i 0))))))))))
def qd.j1(K:VK)(b a:Nat)(c:OA)(d:Nat):WK:=lI (ad b 13) λe=>br ((dm .i64 .and e 128)!=0) (lI (ad a 26) λf=>st (ad a 26) (.i (dm .i64 .or f 8)) (qd.j2 K a c b d)) (qd.j2 K a c b d)
def qd(d:OA)(p:LV)(K:VK):WK:=mk p λb=>aJ (ad b 0) 16 λq=>fK q (xI .i64 λe=>br (e !=0) (K (.i e)) (aJ (ad b 0) 16 λr=>sU r (xB λs=>br s (K (.i 6)) (aJ (ad b 0) 2 λt=>iN d t (x2 λv w=>(xA 33 λx=>(xB λy=>mk cG λf=>bA 33 (ad f 0) x (br y (aJ (ad b 0) 16 λz=>aJ (ad f 0) 16 λA=>vd z A (xI .i64 λB=>K (.i B))) (aJ (ad b 0) 16 λC=>Ak d C (x2 λD E=>(xA 28 λF=>(xI .i64 λg=>mk oW λa=>bA 28 (ad a 0) F (br (g !=0) (K (.i g)) (oR d (xB λG=>br (!G) (K (.i 35)) (aJ (ad a 0) 28 λH=>aJ (ad b 0) 16 λI=>gI H I (x2 λJ M=>(xA 2 λO=>(xI .i64 λh=>mk [.u 0,.u 0] λc=>bA 2 (ad c 0) O (br (h !=0) (K (.i h)) (tick (aJ (ad a 0) 14 λj=>aJ (ad c 0) 2 λk=>aJ (ad b 0) 16 λP=>mB P (xB λQ=>kp (ad c 0) k (kp (ad a 0) j (nY j k Q (x2 λR S=>(xA 14 λT=>(xI .i64 λl=>bA 14 (ad a 0) T (br (l !=0) (K (.i l)) (tick (aJ (ad a 14) 14 λm=>aJ (ad c 0) 2 λn=>aJ (ad b 0) 16 λV=>mB V (xB λW=>kp (ad c 0) n (kp (ad a 14) m (mM m n W (x2 λX Y=>(xA 14 λZ=>(xI .i64 λo=>bA 14 (ad a 14) Z (br (o !=0) (K (.i o)) (lI (ad b 13) λn7=>br ((dm .i64 .and n7 64)!=0) (lI (ad a 12) λDc=>st (ad a 12) (.i (dm .i64 .or Dc 8)) (qd.j1 K b a d c)) (qd.j1 K b a d c)))) Y) X)))))))) S) R)))))))) M) J)))))) E) D)))) w) v)))))
def mD(e:OA)(f:Int)(g:LV)(K:VK):WK:=mk [.p e] λa=>mk [.i f] λc=>mk g λh=>lP (ad a 0) λj=>lI (ad c 0) λk=>dS j k (x2 λl m=>(xA 33 λn=>(xB λo=>mk cG λd=>bA 33 (ad d 0) n (br (!o) (K (.b false)) (tick (lP (ad a 0) λq=>nn q λr=>lL r λs t A=>lI (ad c 0) λu=>aJ (ad h 0) 33 λv=>iV s t u 33 λw=>bA 33 w v (lP (ad a 0) λx=>nn x λy=>lP (y.add 1) λz=>iL z (.func (.func N.dc) ⟨[]⟩ ⟨[.p (some (ad d 0)),.p (some (ad a 0)),.p (some (ad c 0))]⟩) (x0 (K (.b true)))))))) m) l)
def dk.j4(K:VK)(a e b:Nat)(f:Int):WK:=tick (lP (ad a 0) λc=>nn c λg=>lP (g.add 4) λh=>aJ (ad e 0) 2 λj=>iD h j (x2 λk l=>(xI .i64 λm=>(xB λr=>kp (ad a 0) [.p c] (st (ad b 32) (.i f) (tick (lP (ad a 0) λd=>nn d λn=>lP (n.add 2) λo=>aJ (ad b 0) 33 λq=>mD o m q (xB λs=>kp (ad a 0) [.p d] (K (.i 0))))))) l) k))
def dk.j3(K:VK)(a e b c:Nat)(d:Int)(f:Bool):WK:=br f (lP (ad a 0) λg=>nn g λh=>iL (some h) (.func (.func N.fx) ⟨[]⟩ ⟨[.p (some (ad a 0)),.p (some (ad e 0))]⟩) (x0 (dk.j4 K a b c d))) (dk.j4 K a b c d)
def dk.j2(K:VK)(c a d:Nat)(e:Int)(g:Bool):WK:=br g (K (.i 1)) (aJ (ad c 0) 33 λh=>u4 h (x2 λj k=>(xA 4 λl=>(xB λm=>mk zj λb=>bA 4 (ad b 0) l (tick (br m (lP (ad a 0) λf=>nn f λn=>lI (ad b 1) λo=>mV (some (n.add 6)) o (xB λq=>kp (ad a 0) [.p f] (dk.j3 K a b d c e q))) (dk.j3 K a b d c e false)))) k) j))
def dk.j1(K:VK)(a:Int)(b c d:Nat)(e:Bool):WK:=br e (K (.i 5)) (br (decide (a<=1)) (dk.j2 K b c d a true) (dk.j2 K b c d a (decide (a>4))))
def dk(e:OA)(f:LV)(d:Int)(K:VK):WK:=mk [.p e] λa=>mk f λc=>lP (ad a 0) λg=>aJ (ad c 0) 2 λh=>iN g h (x2 λj k=>(xA 33 λl=>(xB λm=>mk cG λb=>bA 33 (ad b 0) l (lP (ad a 0) λn=>br (n.isNone) (K (.i 2)) (br (!m) (dk.j1 K d b a c true) (lI (ad b 32) λo=>dk.j1 K d b a c (o !=1))))) k) j)
def eH.j1(K:VK)(b:Nat)(a:OA)(c d:Nat)(e:Int):WK:=aJ (ad b 0) 14 λf=>k8 a f (xI .i64 λi=>aJ (ad c 0) 14 λg=>k8 a g (xI .i64 λj=>aJ (ad d 0) 2 λh=>dk a h e (xI .i64 λk=>K (.tuple ⟨[]⟩))))
def eH.j2(K:VK)(b a c:Nat)(d:OA)(e:Int):WK:=lI (ad b 13) λf=>br ((dm .i64 .and f 128)!=0) (lI (ad a 12) λg=>st (ad a 12) (.i (dm .i64 .andNot g 8)) (eH.j1 K c d a b e)) (eH.j1 K c d a b e)
def eH(d:OA)(g h:LV)(e:Int)(K:VK):WK:=mk g λb=>mk h λf=>aJ (ad b 2) 2 λj=>dY d j (x2 λk l=>(xA 14 λm=>(xB λQ=>mk dV λa=>bA 14 (ad a 0) m (aJ (ad b 4) 2 λn=>dY d n (x2 λo p=>(xA 14 λq=>(xB λR=>mk dV λc=>bA 14 (ad c 0) q (aJ (ad a 2) 2 λr=>aJ (ad b 6) 2 λs=>ql r s (x2 λt u=>(xA 2 λv=>(xB λS=>bA 2 (ad a 2) v (aJ (ad c 6) 2 λw=>aJ (ad b 6) 2 λx=>ql w x (x2 λy z=>(xA 2 λA=>(xB λT=>bA 2 (ad c 6) A (br (e==2) (aJ (ad a 4) 2 λB=>aJ (ad f 0) 2 λC=>qm B C (x2 λD E=>(xA 2 λF=>(xB λV=>bA 2 (ad a 4) F (aJ (ad c 8) 2 λG=>aJ (ad f 0) 2 λH=>qm G H (x2 λI J=>(xA 2 λM=>(xB λW=>bA 2 (ad c 8) M (eH.j1 K a d c b e)) J) I))) E) D)) (lI (ad b 13) λO=>br ((dm .i64 .and O 64)!=0) (lI (ad a 12) λP=>st (ad a 12) (.i (dm .i64 .andNot P 8)) (eH.j2 K b c a d e)) (eH.j2 K b c a d e)))) z) y))) u) t))) p) o))) l) k)
def eH.u:WP|[.pointer a,.agg ⟨b⟩,.agg ⟨c⟩,.int .i64 d],K=>eH a b c d K|_,_=>no
def gO.j3(K:VK)(a c:Nat)(d:Bool):WK:=br d (lI (ad a 12) λe=>br (e==0) (K (.b true)) (lI (ad a 12) λf=>lI (ad c 12) λg=>K (.b (f==g)))) (K (.b false))
def gO.j2(K:VK)(a b:Nat)(c:Bool):WK:=br c (lI (ad a 11) λd=>br (d==0) (gO.j3 K a b true) (lI (ad a 11) λe=>lI (ad b 11) λf=>gO.j3 K a b (e==f))) (gO.j3 K a b false)
def gO.j1(K:VK)(a b:Nat)(c:Bool):WK:=br c (aJ (ad a 4) 2 λd=>iX d (xB λe=>br e (gO.j2 K a b true) (aJ (ad a 4) 2 λf=>aJ (ad b 4) 2 λg=>rz [.u 0,.u 0] f g λh=>gO.j2 K a b h))) (gO.j2 K a b false)
def gO(c d:LV)(K:VK):WK:=mk c λa=>mk d λb=>aJ (ad a 2) 2 λe=>iX e (xB λf=>br f (gO.j1 K a b true) (aJ (ad a 2) 2 λg=>aJ (ad b 2) 2 λh=>rz [.u 0,.u 0] g h λi=>gO.j1 K a b i))
def Ap(f:OA)(g:LV)(K:VK):WK:=mk g λd=>mk iA λa=>aJ (ad d 8) 2 λh=>iN f h (x2 λj k=>(xA 33 λl=>(xB λm=>mk cG λb=>bA 33 (ad b 0) l (br (!m) (cu True (cu (16=16) (kj (ad a 0) iA (aJ (ad a 0) 16 λn=>K (.tuple ⟨[.agg ⟨n⟩,.i 23]⟩))))) (aJ (ad b 16) 16 λo=>mB o (xB λp=>br (!p) (cu True (cu (16=16) (kj (ad a 0) iA (aJ (ad a 0) 16 λq=>K (.tuple ⟨[.agg ⟨q⟩,.i 24]⟩))))) (aJ (ad d 0) 16 λr=>aJ (ad b 16) 16 λs=>gO r s (xB λt=>br (!t) (cu True (cu (16=16) (kj (ad a 0) iA (aJ (ad a 0) 16 λu=>K (.tuple ⟨[.agg ⟨u⟩,.i 25]⟩))))) (tick (aJ (ad b 16) 16 λv=>lI (ad b 32) λc=>cu ((0:Int)<=c/\c<5) (lI ((ad N.zQ 0).add (c.toNat* 1)) λe=>bA 16 (ad a 0) v (kp ((ad N.zQ 0).add (c.toNat* 1)) [.i e] (kp (ad b 32) [.i c] (aJ (ad a 0) 16 λw=>K (.tuple ⟨[.agg ⟨w⟩,.i e]⟩))))))))))))) k) j)
def o5.j1(K:VK)(a b d:Nat)(c:Bool):WK:=br c (br c (cu True (cu (2=2) (kj (ad a 0) [.u 0,.u 0] (aJ (ad a 0) 2 λe=>K (.tuple ⟨[.agg ⟨e⟩,.i 26]⟩))))) (aJ (ad b 6) 2 λf=>bA 2 (ad a 0) f (aJ (ad a 0) 2 λg=>K (.tuple ⟨[.agg ⟨g⟩,.i 0]⟩)))) (aJ (ad d 6) 2 λh=>aJ (ad b 6) 2 λj=>rO h j (xB λk=>br k (cu True (cu (2=2) (kj (ad a 0) [.u 0,.u 0] (aJ (ad a 0) 2 λl=>K (.tuple ⟨[.agg ⟨l⟩,.i 26]⟩))))) (aJ (ad b 6) 2 λm=>bA 2 (ad a 0) m (aJ (ad a 0) 2 λn=>K (.tuple ⟨[.agg ⟨n⟩,.i 0]⟩)))))
def o5(d e:LV)(K:VK):WK:=mk d λa=>mk e λb=>mk [.u 0,.u 0] λc=>aJ (ad a 6) 2 λf=>iX f (xB λg=>br g (aJ (ad b 6) 2 λh=>bA 2 (ad c 0) h (aJ (ad c 0) 2 λj=>K (.tuple ⟨[.agg ⟨j⟩,.i 0]⟩))) (lI (ad a 13) λk=>br ((dm .i64 .and k 8)!=0) (aJ (ad a 6) 2 λl=>aJ (ad b 6) 2 λm=>rz [.u 0,.u 0] l m λn=>o5.j1 K c a b (!n)) (o5.j1 K c a b false)))
def nV.j1(K:VK)(a b:Nat)(c:Bool):WK:=br c (K (.i 30)) (lI (ad a 12) λd=>br ((dm .i64 .and d 8)!=0) (lI (ad b 13) λe=>br ((dm .i64 .and e 128)==0) (K (.i 31)) (K (.i 0))) (K (.i 0)))
def nV(c:OA)(e:LV)(K:VK):WK:=mk e λa=>aJ (ad a 2) 2 λf=>dY c f (x2 λg h=>(xA 14 λi=>(xB λp=>mk dV λd=>bA 14 (ad d 0) i (aJ (ad a 4) 2 λj=>dY c j (x2 λk l=>(xA 14 λm=>(xB λq=>mk dV λb=>bA 14 (ad b 0) m (lI (ad d 12) λn=>br ((dm .i64 .and n 8)!=0) (lI (ad a 13) λo=>nV.j1 K b a ((dm .i64 .and o 64)==0)) (nV.j1 K b a false))) l) k))) h) g)
def su.j1(K:VK)(f:OA)(a d h:Nat)(k:Int):WK:=oR f (xB λl=>br (!l) (K (.i 35)) (aJ (ad a 0) 16 λm=>aJ (ad d 0) 2 λn=>eH f m n k (x0 (aJ (ad h 0) 16 λo=>mk iA λb=>bA 16 (ad b 0) o (tick (aJ (ad a 2) 2 λp=>aJ (ad a 4) 2 λj=>aJ (ad d 0) 2 λg=>lI (ad a 11) λe=>lI (ad a 12) λc=>bA 2 (ad b 2) p (kp (ad a 12) [.i c] (kp (ad a 11) [.i e] (kp (ad d 0) g (kp (ad a 4) j (bA 2 (ad b 4) j (kp (ad a 12) [.i c] (kp (ad a 11) [.i e] (kp (ad d 0) g (bA 2 (ad b 6) g (kp (ad a 12) [.i c] (kp (ad a 11) [.i e] (st (ad b 11) (.i e) (kp (ad a 12) [.i c] (st (ad b 12) (.i c) (aJ (ad h 0) 16 λq=>aJ (ad b 0) 16 λr=>iO f q r false (xI .i64 λs=>K (.i 0)))))))))))))))))))))))
def su(b:OA)(j:LV)(K:VK):WK:=mk j λa=>aJ (ad a 0) 2 λk=>iN b k (x2 λl m=>(xA 33 λn=>(xB λo=>mk cG λe=>bA 33 (ad e 0) n (br o (aJ (ad a 0) 16 λp=>aJ (ad e 0) 16 λq=>vd p q (xI .i64 λr=>K (.i r))) (aJ (ad a 0) 16 λs=>Ap b s (x2 λt v=>(xA 16 λw=>(xI .i64 λf=>mk iA λc=>bA 16 (ad c 0) w (br (f !=0) (K (.i f)) (aJ (ad a 0) 16 λx=>aJ (ad c 0) 16 λy=>o5 x y (x2 λz A=>(xA 2 λB=>(xI .i64 λg=>mk [.u 0,.u 0] λd=>bA 2 (ad d 0) B (br (g !=0) (K (.i g)) (lI (ad a 13) λC=>br ((dm .i64 .and C 4)!=0) (aJ (ad c 0) 16 λD=>nV b D (xI .i64 λh=>br (h !=0) (K (.i h)) (su.j1 K b c d a 2))) (su.j1 K b c d a 3)))) A) z)))) v) t)))) m) l)
def oD.j1(K:VK)(a:Nat)(b:OA)(c:Bool):WK:=br c (aJ (ad a 0) 16 λd=>qd b d (xI .i64 λe=>K (.i e))) (aJ (ad a 0) 16 λf=>su b f (xI .i64 λg=>K (.i g)))
def oD(b:OA)(c:LV)(K:VK):WK:=mk c λa=>aJ (ad a 0) 16 λd=>fK d (xI .i64 λe=>br (e !=0) (oD.j1 K a b true) (aJ (ad a 0) 16 λf=>sU f (xB λg=>oD.j1 K a b (!g))))
def oD.u:WP|[.pointer a,.agg ⟨b⟩],K=>oD a b K|_,_=>no
def mK(f o:OA)(j q:Nat)(r:OA)(s t:Nat)(v:Value)(K:VK):WK:=fS f (xI .i64 λw=>(lp [.i w,.l o j q,.i (j:Int),.i 0] λk x=>∀b c d g e a h,k [.i b,.l c d g,.i e,.i a] h->(br (decide (a<e)) (iV c d a 16 λy=>aJ y 16 λz=>mk iA λm=>bA 16 (ad m 0) z (aJ (ad m 0) 16 λA=>yZ [(N.fU,fU.u),(N.fS,fS.u),(N.jV,jV.u),(N.oD,oD.u)] v [.p f,.agg ⟨A⟩] (xI .i64 λn=>br (n !=0) (fU f b (x0 (jV r s t a n (x0 (K (.tuple ⟨[]⟩)))))) ((ct k x [.i b,.l c d g,.i e,.i (aa.wrap (a+1))] [.i b,.l c d g,.i e,.i a] h))))) (K (.tuple ⟨[]⟩))) h))
def pz(t n:OA)(e o:Nat)(u v:Value)(K:VK):WK:=Mo 8 [.i 0] (e:Int) (e:Int) λw x y=>(lp [.l none 0 0,.l w x y,.i 0] λm p=>∀f g h b c d a k,m [.l f g h,.l b c d,.i a] k->(br (decide (a<(e:Int))) (sO n e o 16 (some a) none λz A B=>l6 z A B (u) (x2 λC D=>(xI .i64 λj=>(xB λE=>sO b c d 1 (some a) (some (aa.wrap (a+j))) λq r s=>br (!E) (jV q r s (aa.wrap (j-1)) 2 (x0 ((ct m p [.l f g h,.l b c d,.i (aa.wrap (a+j))] [.l f g h,.l b c d,.i a] k)))) (sO n e o 16 (some a) (some (aa.wrap (a+j))) λF G H=>mK t F G H q r s (v) (x0 ((ct m p [.l f g h,.l b c d,.i (aa.wrap (a+j))] [.l f g h,.l b c d,.i a] k))))) D) C)) (K (.l b c d))) k)
def rB(a b:OA)(c d:Nat)(K:VK):WK:=pz a b c d (.func (.func N.gK) ⟨[]⟩ ⟨[]⟩) (.func (.func N.oD) ⟨[]⟩ ⟨[]⟩) (xL λe f g=>K (.l e f g))
def eQ.j1(K:VK)(a:Nat)(c:Int)(d:Bool):WK:=br d (K (.tuple ⟨[]⟩)) (lP (ad a 0) λe=>nn e λf=>lI (f.add 7) λg=>mk [.i 0] λb=>st (ad b 0) (.i g) (lP (ad a 0) λh=>nn h λj=>st (j.add 7) (.i c) (lP (ad a 0) λk=>nn k λl=>iL (some l) (.func (.func N.eP) ⟨[]⟩ ⟨[.p (some (ad b 0)),.p (some (ad a 0))]⟩) (x0 (K (.tuple ⟨[]⟩))))))
def eQ(c:OA)(a:Int)(K:VK):WK:=mk [.p c] λb=>lP (ad b 0) λd=>br (d.isNone) (eQ.j1 K b a true) (lP (ad b 0) λe=>nn e λf=>lI (f.add 7) λg=>br (decide (a<=g)) (eQ.j1 K b a true) (eQ.j1 K b a (decide (a>1099511627776))))
def eQ.u:WP|[.pointer a,.int .i64 b],K=>eQ a b K|_,_=>no
def uo(a:OA)(K:VK):WK:=br (a.isNone) (K (.i 0)) (nn a λb=>lL b λd c e=>K (.i (c:Int)))
def nU(c:OA)(K:VK):WK:=mk zj λa=>uo c (xI .i64 λd=>br (d==0) (cu True (cu (4=4) (kj (ad a 0) zj (aJ (ad a 0) 4 λe=>K (.tuple ⟨[.agg ⟨e⟩,.b false]⟩))))) (nn c λf=>lL f λg h l=>iV g h 0 4 λi=>aJ i 4 λj=>bA 4 (ad a 0) j (aJ (ad a 0) 4 λk=>K (.tuple ⟨[.agg ⟨k⟩,.b true]⟩))))
def fD.j1(K:VK)(c:Nat)(d:OA)(a:Nat)(e:Bool):WK:=br e (aJ (ad c 2) 2 λf=>iN d f (x2 λg h=>(xA 33 λi=>(xB λj=>bA 33 (ad a 0) i (aJ (ad a 0) 33 λk=>K (.tuple ⟨[.agg ⟨k⟩,.b j]⟩))) h) g)) (cu True (cu (33=33) (kj (ad a 0) cG (aJ (ad a 0) 33 λl=>K (.tuple ⟨[.agg ⟨l⟩,.b false]⟩)))))
def fD(a:OA)(K:VK):WK:=mk cG λc=>br (a.isNone) (cu True (cu (33=33) (kj (ad c 0) cG (aJ (ad c 0) 33 λe=>K (.tuple ⟨[.agg ⟨e⟩,.b false]⟩))))) (nn a λf=>nU (some (f.add 6)) (x2 λg h=>(xA 4 λi=>(xB λj=>mk zj λd=>bA 4 (ad d 0) i (tick (br j (lI (ad d 0) λk=>nn a λl=>lI (l.add 7) λm=>fD.j1 K d a c (decide (k<=m))) (fD.j1 K d a c false)))) h) g))
def fD.u:WP|[.pointer a],K=>fD a K|_,_=>no
def tW(a:OA)(K:VK):WK:=mk [.p a] λb=>K (.func (.func N.O4) ⟨[]⟩ ⟨[.p (some (ad b 0))]⟩)
def tW.u:WP|[.pointer a],K=>tW a K|_,_=>no
def l9(a:OA)(K:VK):WK:=br (!(a.isNone)) (nn a λb=>na (some b) (x0 (K (.tuple ⟨[]⟩)))) (K (.tuple ⟨[]⟩))
def uQ(t v:OA)(p w:Nat)(K:VK):WK:=(lp [.l none 0 0,.l none 0 0,.l v p w,.i (p:Int),.i 0] λo q=>∀h j k b c d e f m g a n,o [.l h j k,.l b c d,.l e f m,.i g,.i a] n->(br (decide (a<g)) (iV e f a 2 λx=>aJ x 2 λy=>mk [.u 0,.u 0] λr=>bA 2 (ad r 0) y (aJ (ad r 0) 2 λz=>dY t z (x2 λA B=>(xA 14 λC=>(xB λD=>mk dV λs=>bA 14 (ad s 0) C (br D (aJ (ad s 0) 14 λE=>HE 14 E λF=>iz 14 112 dV b c d (ah F) 1 λG H I=>(ct o q [.l h j k,.l G H I,.l e f m,.i g,.i (aa.wrap (a+1))] [.l h j k,.l b c d,.l e f m,.i g,.i a] n)) ((ct o q [.l h j k,.l b c d,.l e f m,.i g,.i (aa.wrap (a+1))] [.l h j k,.l b c d,.l e f m,.i g,.i a] n)))) B) A))) (K (.l b c d))) n)
def tJ(t v:OA)(p w:Nat)(K:VK):WK:=(lp [.l none 0 0,.l none 0 0,.l v p w,.i (p:Int),.i 0] λo q=>∀h j k b c d e f m g a n,o [.l h j k,.l b c d,.l e f m,.i g,.i a] n->(br (decide (a<g)) (iV e f a 2 λx=>aJ x 2 λy=>mk [.u 0,.u 0] λr=>bA 2 (ad r 0) y (aJ (ad r 0) 2 λz=>iN t z (x2 λA B=>(xA 33 λC=>(xB λD=>mk cG λs=>bA 33 (ad s 0) C (br D (aJ (ad s 16) 16 λE=>HE 16 E λF=>iz 16 128 iA b c d (ah F) 1 λG H I=>(ct o q [.l h j k,.l G H I,.l e f m,.i g,.i (aa.wrap (a+1))] [.l h j k,.l b c d,.l e f m,.i g,.i a] n)) ((ct o q [.l h j k,.l b c d,.l e f m,.i g,.i (aa.wrap (a+1))] [.l h j k,.l b c d,.l e f m,.i g,.i a] n)))) B) A))) (K (.l b c d))) n)
def gG.j1(K:VK)(w:Int)(x:OA)(y:Bool)(z:Int):WK:=(lp [.l none 0 0,.i w,.i z,.l none 0 0] λu A=>∀j k m f n g c h p,u [.l j k m,.i f,.i n,.l g c h] p->(br (decide (f<n)) (nn x λB=>lL B λC D V=>iV C D f 2 λE=>aJ E 2 λF=>HE 2 F λG=>iz 2 16 [.i 0,.i 0] g c h (ah G) 1 λH I J=>(ct u A [.l j k m,.i (aa.wrap (f+1)),.i n,.l H I J] [.l j k m,.i f,.i n,.l g c h] p)) (br y ((lp [.l j k m,.l g c h,.i 0,.i (aa.wrap ((c:Int) -1))] λv M=>∀q r s a b o d e t,v [.l q r s,.l a b o,.i d,.i e] t->(br (decide (d<e)) (tick (iV a b e 2 λO=>aJ O 2 λP=>iV a b d 2 λQ=>aJ Q 2 λR=>iV a b d 2 λS=>bA 2 S P (iV a b e 2 λT=>bA 2 T R ((ct v M [.l q r s,.l a b o,.i (aa.wrap (d+1)),.i (aa.wrap (e-1))] [.l q r s,.l a b o,.i d,.i e] t))))) (K (.l a b o))) t)) (K (.l g c h)))) p)
def gG(a:OA)(h e:Int)(c:Bool)(K:VK):WK:=br (a.isNone) (K (.l none 0 0)) (tick (nn a λf=>lL f λi g j=>mo a h (xI .i64 λd=>kp f [.l i g j] (br (e !=0) (mo a e (xI .i64 λb=>nn a λk=>lL k λs m t=>br (decide (b<(m:Int))) (nn a λn=>lL n λo p u=>iV o p b 2 λq=>lI q λr=>br (r==e) (gG.j1 K d a c (aa.wrap (b+1))) (gG.j1 K d a c b)) (gG.j1 K d a c b))) (gG.j1 K d a c (g:Int))))))
def oE(o:OA)(z A:Int)(B:Bool)(K:VK):WK:=br (o.isNone) (K (.l none 0 0)) (nn o λC=>gG (some (C.add 5)) z A B (xL λD u E=>(lp [.l none 0 0,.l none 0 0,.l D u E,.i (u:Int),.i 0] λq v=>∀h j k b c d e f m g a n,q [.l h j k,.l b c d,.l e f m,.i g,.i a] n->(br (decide (a<g)) (iV e f a 2 λF=>aJ F 2 λG=>mk [.i 0,.i 0] λr=>bA 2 (ad r 0) G (tick (nn o λw=>lP (w.add 2) λs=>lI (ad r 1) λt=>both (dS s t (x2 λH I=>(xA 33 λJ=>(xB λb2=>mk cG λx=>bA 33 (ad x 0) J (aJ (ad x 0) 33 λM=>HE 33 M λO=>iz 33 264 cG b c d (ah O) 1 λP Q R=>(ct q v [.l h j k,.l P Q R,.l e f m,.i g,.i (aa.wrap (a+1))] [.l h j k,.l b c d,.l e f m,.i g,.i a] n))) I) H)) (mk cG λy=>kp (ad r 1) [.i t] (kp (w.add 2) [.p s] (dS s t (x2 λS T=>(xA 33 λV=>(xB λb3=>bA 33 (ad y 0) V (aJ (ad y 0) 33 λW=>HE 33 W λX=>iz 33 264 cG b c d (ah X) 1 λY Z BG=>(ct q v [.l h j k,.l Y Z BG,.l e f m,.i g,.i (aa.wrap (a+1))] [.l h j k,.l b c d,.l e f m,.i g,.i a] n))) T) S))))))) (K (.l b c d))) n)))
def nH.j3(K:VK)(s:Nat)(a:OA)(b c:Nat)(o:LI)(d:Addr)(e:OA)(f g:Nat)(h:OA)(j k:Nat)(m n:Int)(q:LM)(r:World)(t:Bool):WK:=br t (aJ (ad s 16) 16 λu=>HE 16 u λv=>iz 16 128 iA a b c (ah v) 1 λw x y=>(ct o q [.p (some d),.l e f g,.l w x y,.l h j k,.i m,.i (aa.wrap (n+1))] [.p (some d),.l e f g,.l a b c,.l h j k,.i m,.i n] r)) ((ct o q [.p (some d),.l e f g,.l a b c,.l h j k,.i m,.i (aa.wrap (n+1))] [.p (some d),.l e f g,.l a b c,.l h j k,.i m,.i n] r))
def nH.j2(K:VK)(a:Addr)(b:Nat)(q:Bool)(c:Nat)(d:OA)(e:Nat)(f:LI)(g:OA)(h i:Nat)(j:OA)(k l:Nat)(m n:Int)(o:LM)(p:World)(r:Bool):WK:=lI (a.add 7) λs=>br (decide ((b:Int)<s)) (br q (nH.j3 K c d b e f a g h i j k l m n o p true) (nH.j3 K c d b e f a g h i j k l m n o p r)) (nH.j3 K c d b e f a g h i j k l m n o p false)
def nH.j1(K:VK)(a:Addr)(b c:Nat)(d:OA)(e:Nat)(f:LI)(g:OA)(h i:Nat)(j:OA)(k l:Nat)(m n:Int)(o:LM)(p:World)(q:Bool):WK:=lT (a.add 5) λr=>br r (aJ (ad b 20) 2 λs=>aJ a 2 λt=>rz [.u 0,.u 0] s t λv=>nH.j2 K a c q b d e f g h i j k l m n o p v) (nH.j2 K a c q b d e f g h i j k l m n o p false)
def nH(w:OA)(x:LV)(K:VK):WK:=mk x λc=>lI (ad c 2) λy=>lI (ad c 3) λz=>lT (ad c 6) λA=>oE w y z A (xL λB t C=>(lp [.p (some (ad c 0)),.l none 0 0,.l none 0 0,.l B t C,.i (t:Int),.i 0] λn v=>∀a o q r d e f g h s j b k,n [.p (some a),.l o q r,.l d e f,.l g h s,.i j,.i b] k->(br (decide (b<j)) (iV g h b 33 λD=>aJ D 33 λE=>mk cG λm=>bA 33 (ad m 0) E (lT (a.add 4) λF=>br F (aJ (ad m 18) 2 λG=>aJ a 2 λH=>rz [.u 0,.u 0] G H λI=>nH.j1 K a m e d f n o q r g h s j b v k I) (nH.j1 K a m e d f n o q r g h s j b v k false))) (K (.l d e f))) k))
def KQ(c:OA)(e:LV)(K:VK):WK:=mk e λb=>mk XB λa=>br (c.isNone) (cu (1=1/\True) (cu (4=4) (kj (ad a 0) [.i 2,.l none 0 0,.l none 0 0,.l none 0 0] (aJ (ad a 0) 4 λf=>K (.agg ⟨f⟩))))) (aJ (ad b 0) 13 λg=>iG g (xB λh=>br (!h) (cu (1=1/\True) (cu (4=4) (kj (ad a 0) [.i 1,.l none 0 0,.l none 0 0,.l none 0 0] (aJ (ad a 0) 4 λj=>K (.agg ⟨j⟩))))) (lI (ad b 0) λd=>br (d==4) (lL (ad b 4) λk m n=>uQ c k m n (xL λo p q=>cu (1=1/\True) (cu (4=4) (kj (ad a 0) [.i 0,.l none 0 0,.l o p q,.l none 0 0] (aJ (ad a 0) 4 λr=>K (.agg ⟨r⟩)))))) (br (d==5) (lL (ad b 4) λs t u=>tJ c s t u (xL λv w x=>cu (1=1/\True) (cu (4=4) (kj (ad a 0) [.i 0,.l none 0 0,.l none 0 0,.l v w x] (aJ (ad a 0) 4 λy=>K (.agg ⟨y⟩)))))) (aJ (ad b 5) 8 λz=>nH c z (xL λA B C=>cu (1=1/\True) (cu (4=4) (kj (ad a 0) [.i 0,.l none 0 0,.l none 0 0,.l A B C] (aJ (ad a 0) 4 λD=>K (.agg ⟨D⟩))))))))))
def ya(h:LV)(K:VK):WK:=mk h λj=>mk ae' λk=>(lp [.p (some (ad j 0)),.s .empty,.p (some (ad k 0)),.i 0] λf l=>∀b d c a e,f [.p (some b),.s d,.p (some c),.i a] e->(br (decide (a<8)) (tick (lU (b.add 1) λm=>cu ((0:Int)<=(aa.wrap (8* a))) (lU b λg=>cu ((0:Int)<=(aa.wrap (8* a))) (cu ((0:Int)<=a/\a<16) (st (c.add (a.toNat* 1)) (.int .u8 (IntKind.u8.wrap (shr .u64 m (aa.wrap (8* a))))) (kp b [.u g] (cu ((0:Int)<=(aa.wrap (8+a))/\(aa.wrap (8+a))<16) (st (c.add ((aa.wrap (8+a)).toNat* 1)) (.int .u8 (IntKind.u8.wrap (shr .u64 g (aa.wrap (8* a))))) ((ct f l [.p (some b),.s d,.p (some c),.i (aa.wrap (a+1))] [.p (some b),.s d,.p (some c),.i a] e)))))))))) (sO (some c) 16 16 1 none none λn o r=>WB n o λq=>K (.s q))) e)
def mj(a:OA)(f:LV)(K:VK):WK:=mk f λg=>tick (nn a λb=>lL b λc d e=>aJ (ad g 0) 2 λh=>ya h (xS λi=>kp b [.l c d e] (Hg c d e i λj k m=>nn a λn=>st n (.l j k m) (K (.tuple ⟨[]⟩)))))
def sA.j1(K:VK)(c:Nat)(d:OA):WK:=aJ (ad c 0) 2 λg=>aJ (ad c 2) 2 λh=>aJ (ad c 4) 2 λj=>aJ (ad c 6) 2 λk=>aJ (ad c 8) 2 λl=>cu (g.length=2/\(h.length=2/\(j.length=2/\(k.length=2/\(l.length=2/\True))))) ((lp [.p (some (ad c 0)),.agg ⟨(g++(h++(j++(k++(l++[])))))⟩,.i 0] λm o=>∀b e a f,m [.p (some b),.agg ⟨e⟩,.i a] f->(br (decide (a<5)) (cu ((0:Int)<=a/\a<5) (mk [.u 0,.u 0] λn=>cu (((e.drop ((a:Int).toNat* 2)).take 2).length=2) (kj (ad n 0) ((e.drop ((a:Int).toNat* 2)).take 2) (aJ (ad n 0) 2 λq=>mj d q (x0 ((ct m o [.p (some b),.agg ⟨e⟩,.i (aa.wrap (a+1))] [.p (some b),.agg ⟨e⟩,.i a] f))))))) (lI (b.add 10) λr=>bq d 4 r (x0 (lI (b.add 11) λs=>bq d 2 s (x0 (lI (b.add 12) λt=>bq d 2 t (x0 (lI (b.add 13) λv=>bq d 8 v (x0 (K (.tuple ⟨[]⟩))))))))))) f))
def sA(b:OA)(c:LV)(K:VK):WK:=mk c λa=>aJ (ad a 0) 14 λd=>jB d (xB λe=>br (!e) (cu True (cu (14=14) (kj (ad a 0) dV (sA.j1 K a b)))) (sA.j1 K a b))
def lD(h m:OA)(e n:Nat)(K:VK):WK:=nn h λo=>bq (some o) 1 (e:Int) (x0 ((lp [.l m e n,.i (e:Int),.i 0] λj p=>∀b c f d a g,j [.l b c f,.i d,.i a] g->(br (decide (a<d)) (iV b c a 14 λq=>aJ q 14 λr=>mk dV λk=>bA 14 (ad k 0) r (tick (nn h λs=>aJ (ad k 0) 14 λt=>sA (some s) t (x0 ((ct j p [.l b c f,.i d,.i (aa.wrap (a+1))] [.l b c f,.i d,.i a] g)))))) (K (.tuple ⟨[]⟩))) g)))
def qV.j1(K:VK)(d:Nat)(c:OA):WK:=aJ (ad d 0) 2 λg=>aJ (ad d 2) 2 λh=>aJ (ad d 4) 2 λj=>aJ (ad d 6) 2 λk=>aJ (ad d 8) 2 λl=>cu (g.length=2/\(h.length=2/\(j.length=2/\(k.length=2/\(l.length=2/\True))))) ((lp [.p (some (ad d 0)),.agg ⟨(g++(h++(j++(k++(l++[])))))⟩,.i 0] λm o=>∀a e b f,m [.p (some a),.agg ⟨e⟩,.i b] f->(br (decide (b<5)) (cu ((0:Int)<=b/\b<5) (mk [.u 0,.u 0] λn=>cu (((e.drop ((b:Int).toNat* 2)).take 2).length=2) (kj (ad n 0) ((e.drop ((b:Int).toNat* 2)).take 2) (aJ (ad n 0) 2 λq=>mj c q (x0 ((ct m o [.p (some a),.agg ⟨e⟩,.i (aa.wrap (b+1))] [.p (some a),.agg ⟨e⟩,.i b] f))))))) (lI (a.add 10) λr=>bq c 4 r (x0 (lI (a.add 11) λs=>bq c 4 s (x0 (lI (a.add 12) λt=>bq c 2 t (x0 (lI (a.add 13) λv=>bq c 2 v (x0 (lI (a.add 14) λw=>bq c 8 w (x0 (lI (a.add 15) λx=>bq c 8 x (x0 (K (.tuple ⟨[]⟩))))))))))))))) f))
def qV(b:OA)(c:LV)(K:VK):WK:=mk c λa=>aJ (ad a 0) 16 λd=>gv d (xB λe=>br (!e) (cu True (cu (16=16) (kj (ad a 0) iA (qV.j1 K a b)))) (qV.j1 K a b))
def kU(h m:OA)(e n:Nat)(K:VK):WK:=nn h λo=>bq (some o) 1 (e:Int) (x0 ((lp [.l m e n,.i (e:Int),.i 0] λj p=>∀b c f d a g,j [.l b c f,.i d,.i a] g->(br (decide (a<d)) (iV b c a 16 λq=>aJ q 16 λr=>mk iA λk=>bA 16 (ad k 0) r (tick (nn h λs=>aJ (ad k 0) 16 λt=>qV (some s) t (x0 ((ct j p [.l b c f,.i d,.i (aa.wrap (a+1))] [.l b c f,.i d,.i a] g)))))) (K (.tuple ⟨[]⟩))) g)))
def qB(a:OA)(b:Bool)(K:VK):WK:=br b (bq a 1 1 (x0 (K (.tuple ⟨[]⟩)))) (bq a 1 0 (x0 (K (.tuple ⟨[]⟩))))
def pe(c:OA)(j:LV)(K:VK):WK:=mk j λa=>tick (nn c λk=>aJ (ad a 0) 2 λl=>mj (some k) l (x0 (tick (nn c λm=>lI (ad a 2) λn=>bq (some m) 8 n (x0 (tick (nn c λo=>lI (ad a 3) λq=>bq (some o) 8 q (x0 (lT (ad a 4) λr=>lT (ad a 5) λs=>lT (ad a 6) λt=>cu (1=1/\(1=1/\(1=1/\True))) ((lp [.p (some (ad a 0)),.agg ⟨[.b r,.b s,.b t]⟩,.i 0] λh u=>∀e f d g,h [.p (some e),.agg ⟨f⟩,.i d] g->(br (decide (d<3)) (D6 f 3 d (xB λv=>nn c λw=>qB (some w) v (x0 ((ct h u [.p (some e),.agg ⟨f⟩,.i (aa.wrap (d+1))] [.p (some e),.agg ⟨f⟩,.i d] g))))) (tick (nn c λx=>lI (e.add 7) λy=>bq (some x) 1 y (x0 (K (.tuple ⟨[]⟩)))))) g)))))))))))
def xZ(v:LV)(K:VK):WK:=mk v λb=>aJ (ad b 0) 13 λw=>pP w (xB λx=>br (!x) (K (.tuple ⟨[.s .empty,.i 1]⟩)) (cu True (mk [.l none 0 0] λa=>tick (lI (ad b 0) λy=>bq (some (ad a 0)) 1 y (x0 (lI (ad b 0) λe=>br (e==1) (lL (ad b 1) λz A B=>lD (some (ad a 0)) z A B (x0 (dK (some (ad a 0)) (xS λC=>K (.tuple ⟨[.s C,.i 0]⟩))))) (br (e==2) (lL (ad b 2) λD E F=>kU (some (ad a 0)) D E F (x0 (dK (some (ad a 0)) (xS λG=>K (.tuple ⟨[.s G,.i 0]⟩))))) (br (e==3) (tick (lI (ad b 3) λH=>bq (some (ad a 0)) 8 H (x0 (dK (some (ad a 0)) (xS λI=>K (.tuple ⟨[.s I,.i 0]⟩)))))) (br (e==6) (aJ (ad b 5) 8 λJ=>pe (some (ad a 0)) J (x0 (dK (some (ad a 0)) (xS λM=>K (.tuple ⟨[.s M,.i 0]⟩))))) (tick (lL (ad b 4) λO o P=>bq (some (ad a 0)) 1 (o:Int) (x0 (kp (ad b 4) [.l O o P] (lL (ad b 4) λQ q R=>(lp [.s .empty,.i 0,.p (some (ad a 0)),.l Q q R,.i (q:Int),.i 0] λr S=>∀j k c f g m h d n,r [.s j,.i k,.p (some c),.l f g m,.i h,.i d] n->(br (decide (d<h)) (iV f g d 2 λT=>aJ T 2 λV=>mk [.u 0,.u 0] λt=>bA 2 (ad t 0) V (tick (aJ (ad t 0) 2 λW=>mj (some c) W (x0 ((ct r S [.s j,.i k,.p (some c),.l f g m,.i h,.i (aa.wrap (d+1))] [.s j,.i k,.p (some c),.l f g m,.i h,.i d] n)))))) (dK (some c) (xS λX=>K (.tuple ⟨[.s X,.i 0]⟩)))) n)))))))))))))))
def iS(a:OA)(K:VK):WK:=br (a.isNone) (K (.i 0)) (nn a λb=>lI (b.add 7) λc=>K (.i c))
def kP(a:OA)(K:VK):WK:=br (a.isNone) (K (.l none 0 0)) (nn a λb=>lL b λc d h=>iz 14 112 dV none 0 0 c d λe f g=>K (.l e f g))
def fk(a:OA)(K:VK):WK:=br (a.isNone) (K (.l none 0 0)) (nn a λb=>lP (b.add 1) λc=>kP c (xL λd e f=>K (.l d e f)))
def mE(a:OA)(K:VK):WK:=br (a.isNone) (K (.l none 0 0)) (nn a λb=>lL b λc d h=>iz 33 264 cG none 0 0 c d λe f g=>K (.l e f g))
def fZ(a:OA)(K:VK):WK:=br (a.isNone) (K (.l none 0 0)) (nn a λb=>lP (b.add 2) λc=>mE c (xL λd e f=>K (.l d e f)))
def ie(a:OA)(K:VK):WK:=br (a.isNone) (K (.i 0)) (nn a λb=>lI (b.add 8) λc=>K (.i c))
def tQ(b:OA)(K:VK):WK:=cu True (mk [.l none 0 0] λc=>bq (some (ad c 0)) 1 1 (x0 (iS b (xI .i64 λC=>bq (some (ad c 0)) 8 C (x0 (ie b (xI .i64 λD=>bq (some (ad c 0)) 8 D (x0 (fk b (xL λZ E uU=>bq (some (ad c 0)) 2 (E:Int) (x0 (fZ b (xL λjT F ku=>bq (some (ad c 0)) 2 (F:Int) (x0 (fk b (xL λG x H=>(lp [.s .empty,.p (some (ad c 0)),.l G x H,.i (x:Int),.i 0] λy I=>∀g d h j r k e t,y [.s g,.p (some d),.l h j r,.i k,.i e] t->(br (decide (e<k)) (iV h j e 14 λJ=>aJ J 14 λM=>mk dV λz=>bA 14 (ad z 0) M (aJ (ad z 0) 14 λO=>sA (some d) O (x0 ((ct y I [.s g,.p (some d),.l h j r,.i k,.i (aa.wrap (e+1))] [.s g,.p (some d),.l h j r,.i k,.i e] t))))) (fZ b (xL λP A Q=>(lp [.s g,.p (some d),.l P A Q,.i (A:Int),.i 0] λB R=>∀u a m n v o f w,B [.s u,.p (some a),.l m n v,.i o,.i f] w->(br (decide (f<o)) (iV m n f 33 λS=>aJ S 33 λT=>mk cG λq=>bA 33 (ad q 0) T (aJ (ad q 0) 16 λV=>qV (some a) V (x0 (aJ (ad q 16) 16 λW=>qV (some a) W (x0 (lI (ad q 32) λX=>bq (some a) 1 X (x0 ((ct B R [.s u,.p (some a),.l m n v,.i o,.i (aa.wrap (f+1))] [.s u,.p (some a),.l m n v,.i o,.i f] w))))))))) (dK (some a) (xS λY=>K (.s Y)))) w)))) t)))))))))))))))))
def iK.j1(K:VK)(a:OA)(c:Int):WK:=br (c !=0) (nn a λd=>st (d.add 9) (.b true) (K (.i c))) (nn a λe=>lI (e.add 8) λf=>nn a λg=>st (g.add 8) (.i (aa.wrap (f+1))) (nn a λh=>lP (h.add 7) λj=>jZ j (x0 (K (.i 0)))))
def iK(a:OA)(K:VK):WK:=br (a.isNone) (K (.i 2)) (nn a λl=>lT (l.add 9) λm=>br m (K (.i 9)) (nn a λn=>lP (n.add 6) λo=>tQ o (xS λb=>nn a λq=>aJ (q.add 1) 5 λr=>qn r (b.size:Int) (xB λs=>br (!s) (K (.i 3)) (nn a λt=>lP t λu=>oJ u (xI .i64 λc=>tick (nn a λv=>aJ (v.add 1) 5 λw=>nn a λx=>lP x λy=>nn a λf=>lI (f.add 8) λg=>qX w y (aa.wrap (g+1)) (aa.wrap (c+1)) b (xI .i64 λh=>kp (f.add 8) [.i g] (br (h==0) (tick (nn a λj=>lP j λk=>nn a λd=>lI (d.add 8) λe=>nn a λz=>lP (z.add 7) λA=>kG A (xI .i64 λB=>kp (d.add 8) [.i e] (kp j [.p k] (cu (1=1/\(1=1/\(1=1/\(1=1/\True)))) (u2 k (aa.wrap ((aa.wrap (c+1))+1)) [.i (aa.wrap (e+1)),.i (aa.wrap (c+1)),.i (b.size:Int),.i B] (xI .i64 λC=>kp (d.add 8) [.i e] (iK.j1 K a C)))))))) (iK.j1 K a h))))))))))
def jJ.j1(K:VK)(a:OA)(f:BA):WK:=tick (nn a λd=>lP (d.add 7) λe=>nn a λg=>lP g λh=>oJ h (xI .i64 λj=>kp (d.add 7) [.p e] (cx e (aa.wrap (j+1)) f (xI .i64 λc=>nn a λk=>lT (k.add 9) λl=>br l (nn a λm=>st (m.add 9) (.b true) (K (.i c))) (nn a λn=>st (n.add 9) (.b (c==8)) (K (.i c)))))))
def jJ(a:OA)(b:BA)(K:VK):WK:=nn a λd=>lP (d.add 7) λe=>jY e (b.size:Int) (xB λf=>br (!f) (iK a (xI .i64 λc=>br (c !=0) (K (.i c)) (jJ.j1 K a b))) (jJ.j1 K a b))
def ru(a:OA)(K:VK):WK:=br (a.isNone) (K (.i 0)) (nn a λb=>lP (b.add 7) λc=>kG c (xI .i64 λd=>K (.i d)))
def qc(a:OA)(K:VK):WK:=br (a.isNone) (K (.p none)) (nn a λb=>lP (b.add 6) λc=>tQ c (xS λd=>pk d (x2 λe f=>(xP λg=>(xI .i64 λh=>K (.p g)) f) e)))
def qA(a:OA)(K:VK):WK:=br (!(a.isNone)) (nn a λc=>lT (c.add 9) λd=>K (.b d)) (K (.b false))
end Go.Prog
namespace Go.Md
def bG:Nat:=340282366920938463463374607431768211456
structure bJ where
 id:Nat
 dp:Nat
 dq:Nat
 cp:Nat
 cq:Nat
 ba:Int
 code:Int
 aq:Int
 ay:Int
deriving DecidableEq
structure cM where
 id:Nat
 bw:Nat
 aP:Nat
 aU:Nat
 pending:Nat
 cn:Int
 ba:Int
 code:Int
 aq:Int
 ay:Int
 jh:Int
deriving DecidableEq
structure ch where
 asked:cM
 move:cM
 fate:Int
deriving DecidableEq
structure aZ where
 aB:List bJ
 ax:List ch
 clock:Int
 ay:Int
structure aA where
 cE:List bJ
 ax:List ch
 clock:Int
 ay:Int
def has(f b:Int):Prop:=f/b%2=1
instance(f b:Int):Decidable (has f b):=by unfold has;infer_instance
def uw(a:bJ):Int:=
 if a.aq<0\/7<a.aq then 3 else if a.id=0 then 4 else if a.id=bG-1 then 5 else if has a.aq 2/\has a.aq 4 then 6
 else if a.dp≠0\/a.dq≠0\/a.cp≠0\/a.cq≠0\/a.ay≠0 then 7 else if a.ba<=0\/4294967296<=a.ba then 8 else if a.code<=0\/65536<=a.code then 9 else 0
def ux(a b:bJ):Int:=if a.ba=b.ba/\a.code=b.code/\a.aq/2%4=b.aq/2%4 then 10 else 11
def ke(f:Int):Prop:=has f 4\/has f 8
instance(f:Int):Decidable (ke f):=by unfold ke;infer_instance
def jy(f:Int):Prop:= ¬(has f 2/\has f 4\/has f 2/\has f 8\/has f 4/\has f 8)/\ ¬(ke f/\16<=f)/\(f<64\/has f 2)
instance(f:Int):Decidable (jy f):=by unfold jy;infer_instance
def nG(t:cM):Int:=
 if t.aq<0\/255<t.aq then 3 else if t.id=0 then 4 else if t.id=bG-1 then 5 else if ¬jy t.aq then 6
 else if t.ay≠0\/t.jh≠0 then 7 else if t.cn<0\/1073741824<t.cn\/0<t.cn/\ ¬has t.aq 2 then 17
 else if ke t.aq then
  (if t.pending=0 then 16 else if t.ba<0\/4294967296<=t.ba then 8 else if t.code<0\/65536<=t.code then 9 else 0)
 else if t.bw=0 then 12 else if t.aP=0 then 13 else if t.bw=t.aP then 14 else if t.pending≠0 then 15 else if t.aU=0/\ ¬has t.aq 16/\ ¬has t.aq 32 then 18
 else if t.ba<1\/4294967296<=t.ba then 8 else if t.code<1\/65536<=t.code then 9 else 0
def tt(t b:cM):Int:=if{t with aq:=t.aq/2}={b with aq:=b.aq/2} then 10 else 11
def S(f:ch->Nat)(l:List ch):Nat:=(l.map f).sum
def y3(f:ch->Nat):S f []=0:=rfl
def pY(f:ch->Nat)(k:ch)(l:List ch):S f (k::l)=f k+S f l:=by simp[S]
def WW(f:ch->Nat)(l m:List ch):S f (l++m)=S f l+S f m:=by simp[S]
def uz(f:ch->Nat)(l:List ch)(k:ch):S f (l++[k])=S f l+f k:=by simp[S]
def JM(f:ch->Nat):∀(l:List ch)(i:Nat)(k:ch)(h:i<l.length),S f (l.set i k)+f l[i]=S f l+f k
 |[],i,k,h=>by simp at h
 |x::l,0,k,h=>by simp[S];omega
 |x::l,i+1,k,h=>by
  have ih:=JM f l i k (by simpa using h);simp only[nI,pY,List.getElem_cons_succ];omega
def WV(f:ch->Nat):∀(l:List ch)(k:ch),k∈l->f k<=S f l
 |[],k,h=>by simp at h
 |x::l,k,h=>by
  rw[pY];rcases kf.1 h with h|h
  ·subst h;omega
  ·have:=WV f l k h;omega
def uC(id:Nat)(k:ch):Nat:=if k.fate=1/\k.move.bw=id then k.move.aU else 0
def uE(id:Nat)(k:ch):Nat:=if k.fate=1/\k.move.aP=id then k.move.aU else 0
def jo(k:ch):Prop:= ¬has k.move.aq 2/\ ¬has k.move.aq 8
instance(k:ch):Decidable (jo k):=by unfold jo;infer_instance
def uj(id:Nat)(k:ch):Nat:=if jo k/\k.move.bw=id then k.move.aU else 0
def uk(id:Nat)(k:ch):Nat:=if jo k/\k.move.aP=id then k.move.aU else 0
def kQ(id:Nat)(k:ch):Prop:=(has k.move.aq 64/\k.move.bw=id\/has k.move.aq 128/\k.move.aP=id)/\(k.fate=1\/k.fate=2)
instance(id:Nat)(k:ch):Decidable (kQ id k):=by unfold kQ;infer_instance
def u1(id:Nat)(k:ch):Nat:=if kQ id k then 1 else 0
def add(a b:Nat):Nat:=if a+b<bG then a+b else 0
def xn(a:bJ)(k:ch):bJ:=
 {a with dq:=if jo k/\k.move.bw=a.id then add a.dq k.move.aU else a.dq,cq:=if jo k/\k.move.aP=a.id then add a.cq k.move.aU else a.cq,dp:=if k.fate=1/\k.move.bw=a.id then add a.dp k.move.aU else a.dp,cp:=if k.fate=1/\k.move.aP=a.id then add a.cp k.move.aU else a.cp,aq:=if kQ a.id k then a.aq%8+8 else a.aq}
def full(l:List ch)(a:bJ):bJ:=
 {a with dp:=a.dp+S (uC a.id) l,dq:=a.dq+S (uj a.id) l,cp:=a.cp+S (uE a.id) l,cq:=a.cq+S (uk a.id) l,aq:=if S (u1 a.id) l=0 then a.aq else a.aq%8+8}
def Ta(a:bJ)(k:ch)(h1:a.dp+uC a.id k<bG)(h2:a.dq+uj a.id k<bG)(h3:a.cp+uE a.id k<bG)(h4:a.cq+uk a.id k<bG):xn a k=full [k] a:=by
 have e1:(if k.fate=1/\k.move.bw=a.id then add a.dp k.move.aU else a.dp)=a.dp+S (uC a.id) [k]:=by
  rw[pY,y3];unfold uC at h1⊢;by_cases h:k.fate=1/\k.move.bw=a.id
  ·rw[ai h] at h1⊢;rw[ai h];unfold add;rw[ai h1];omega
  ·rw[ag h,ag h];rfl
 have e2:(if jo k/\k.move.bw=a.id then add a.dq k.move.aU else a.dq)=a.dq+S (uj a.id) [k]:=by
  rw[pY,y3];unfold uj at h2⊢;by_cases h:jo k/\k.move.bw=a.id
  ·rw[ai h] at h2⊢;rw[ai h];unfold add;rw[ai h2];omega
  ·rw[ag h,ag h];rfl
 have e3:(if k.fate=1/\k.move.aP=a.id then add a.cp k.move.aU else a.cp)=a.cp+S (uE a.id) [k]:=by
  rw[pY,y3];unfold uE at h3⊢;by_cases h:k.fate=1/\k.move.aP=a.id
  ·rw[ai h] at h3⊢;rw[ai h];unfold add;rw[ai h3];omega
  ·rw[ag h,ag h];rfl
 have e4:(if jo k/\k.move.aP=a.id then add a.cq k.move.aU else a.cq)=a.cq+S (uk a.id) [k]:=by
  rw[pY,y3];unfold uk at h4⊢;by_cases h:jo k/\k.move.aP=a.id
  ·rw[ai h] at h4⊢;rw[ai h];unfold add;rw[ai h4];omega
  ·rw[ag h,ag h];rfl
 have e5:(if kQ a.id k then a.aq%8+8 else a.aq)=if S (u1 a.id) [k]=0 then a.aq else a.aq%8+8:=by
  rw[pY,y3];unfold u1;by_cases h:kQ a.id k
  ·rw[ai h,ai h,ag (by omega)]
  ·rw[ag h,ag h,ai (by omega)]
 unfold xn full;rw[e1,e2,e3,e4,e5]
def Ei(a:bJ)(l m:List ch):full m (full l a)=full (l++m) a:=by
 unfold full;dsimp only;simp only[WW,Nat.add_assoc]
 congr 1
 by_cases h1:S (u1 a.id) l=0
 ·rw[ai h1];by_cases h2:S (u1 a.id) m=0
  ·rw[ai h2,ai (by omega)]
  ·rw[ag h2,ag (by omega)]
 ·rw[ag h1];by_cases h2:S (u1 a.id) m=0
  ·rw[ai h2,ag (by omega)]
  ·rw[ag h2,ag (by omega)];omega
def Ph(a:bJ):∀(l:List ch),a.dp+S (uC a.id) l<bG->a.dq+S (uj a.id) l<bG->a.cp+S (uE a.id) l<bG->a.cq+S (uk a.id) l<bG->l.foldl xn a=full l a:=by
 intro l
 induction l generalizing a with
 |nil=>intros;unfold full;simp[y3]
 |cons k l ih=>
  intro h1 h2 h3 h4;rw[pY] at h1 h2 h3 h4;rw[List.foldl_cons,Ta a k (by omega) (by omega) (by omega) (by omega)];have NY:(full [k] a).id=a.id:=rfl;have:=ih (full [k] a) (by rw[NY];show a.dp+S (uC a.id) [k]+_<_;rw[pY,y3];omega) (by rw[NY];show a.dq+S (uj a.id) [k]+_<_;rw[pY,y3];omega)
   (by rw[NY];show a.cp+S (uE a.id) [k]+_<_;rw[pY,y3];omega) (by rw[NY];show a.cq+S (uk a.id) [k]+_<_;rw[pY,y3];omega)
  rw[this,Ei];rfl
end Go.Md
namespace Go.Up
open Go.Sep Go.Den Go.RowKit Go.Prog Go.Md
instance{a b:Value}{n:Nat}:Wr [a,b] 0 (nm n) (nm n):=⟨rfl,aH _,λv h=>by simp[nm] at h;rcases h with rfl|rfl<;>rfl⟩
instance{m n:Nat}:Wr (nm m) 0 (nm n) (nm n):=⟨rfl,aH _,λv h=>by simp[nm] at h;rcases h with rfl|rfl<;>rfl⟩
instance{a b:Value}{k k':IntKind}{x y:Int}:Wr [a,b] 0 [.int k x,.int k' y] [.int k x,.int k' y]:=⟨rfl,aH _,λv h=>by simp at h;rcases h with rfl|rfl<;>rfl⟩
instance{n:Nat}{k k':IntKind}{x y:Int}:Wr (nm n) 0 [.int k x,.int k' y] [.int k x,.int k' y]:=⟨rfl,aH _,λv h=>by simp at h;rcases h with rfl|rfl<;>rfl⟩
section
variable {W:World} {L:LH} {K:VK} {a b n:Nat}
def vR(h:T W L (K (.b (decide (n=0))))):T W L (iX (nm n) K):=by
 unfold iX;apply ws;intros;exact T.dp h
def aa6{x y c:Int}(h1:(0<=x/\0<=y)/\0<=c/\c<=1)(h:T W L (K (.tuple ⟨[.u ((x+y+c)%18446744073709551616),.u ((x+y+c)/18446744073709551616)]⟩))):T W L (rL x y c K):=dO h1 h
def Ur{x y c:Int}(h1:(0<=x/\0<=y/\y<18446744073709551616)/\0<=c/\c<=1)(h:T W L (K (.tuple ⟨[.u ((x-y-c)%18446744073709551616),.u (if x<y+c then 1 else 0)]⟩))):T W L (rK x y c K):=dO h1 h
def TC(h:T W L (K (.i (if a=b then 0 else if a<b then-1 else 1)))):T W L (uG (nm a) (nm b) K):=by
 unfold uG
 repeat' first|apply ws;intros|apply wb|with_reducible refine dj (λh1=>?_) (λh1=>?_)|fail
 all_goals (refine T.fin (T.dp h) ?_;simp only[decide_eq_true_eq,decide_eq_false_iff_not,wO,beq_eq_false_iff_ne,ne_eq] at *;congr 1;split<;>(try split)<;>omega)
def DF(h:T W L (K (.b (decide (a<b))))):T W L (rO (nm a) (nm b) K):=by
 unfold rO
 repeat' first|apply ws;intros|apply wb|with_reducible refine TC ?_|fail
 refine T.fin (T.dp h) ?_
 congr 1
 simp only[decide_eq_decide];split<;>(try split)<;>omega
def aaH(h:T W L (K (.agg ⟨nm (min a b)⟩))):T W L (zl (nm a) (nm b) K):=by
 unfold zl
 repeat' first|apply ws;intros|apply wb|with_reducible first|refine DF ?_|refine dj (λh1=>?_) (λh1=>?_)|fail
 all_goals (refine T.fin (T.dp h) ?_;simp only[decide_eq_true_eq,decide_eq_false_iff_not] at h1;congr 3;omega)
def U'{x y:Int}(n:Nat)(h1:x=((n/18446744073709551616:Nat):Int))(h2:y=((n%18446744073709551616:Nat):Int)):[Value.int .u64 x,Value.int .u64 y]=nm n:=by rw[h1,h2];rfl
abbrev DA(a b:Nat):Value:=.tuple ⟨[.agg ⟨nm (if a+b<bG then a+b else 0)⟩,.b (decide (a+b<bG))]⟩
abbrev ac5(a b:Nat):Value:=.tuple ⟨[.agg ⟨nm (if a<b then 0 else a-b)⟩,.b (decide (b<=a))]⟩
def Ew(ha:a<bG)(hb:b<bG)(h:T W L (K (DA a b))):T W L (qm (nm a) (nm b) K):=by
 unfold bG at ha hb;unfold qm
 repeat' first|apply ws;intros|apply wb|with_reducible first|refine aa6 (by omega) ?_|refine dj (λh1=>?_) (λh1=>?_)|fail
 all_goals
  refine T.fin (T.dp h) ?_;simp only[fP,ne_eq,bne_eq_false_iff_eq] at h1;unfold DA bG
 ·rw[ag (by omega),ar (by omega)];rfl
 ·rw[ai (by omega),av (by omega),U' (a+b) (by omega) (by omega)]
def WR(ha:a<bG)(hb:b<bG)(h:T W L (K (ac5 a b))):T W L (ql (nm a) (nm b) K):=by
 unfold bG at ha hb;unfold ql
 repeat' first|apply ws;intros|apply wb|with_reducible first|refine DF ?_|refine Ur (by omega) ?_|refine Ur (by split<;>omega) ?_|refine dj (λh1=>?_) (λh1=>?_)|fail
 all_goals
  refine T.fin (T.dp h) ?_;simp only[decide_eq_true_eq,decide_eq_false_iff_not] at h1;unfold ac5
 ·rw[ai h1,ar (by omega)];rfl
 ·rw[ag h1,av (by omega),U' (a-b) (by split<;>omega) (by omega)]
end
end Go.Up
namespace Go.Sep
open Go.Den Go.RowKit Go.Prog Go.cF
def UZ{s:BA}(h:s.size<=128):(aX.pad s).size=128:=by
 unfold aX.pad;rw[ByteArray.size_append,vc];omega
def abv(n:Int):(aX.new n).Ok:=by
 have hn:0<=min2 (max2 n 0) 4096/\min2 (max2 n 0) 4096<=4096:=by unfold min2 max2;split<;>split<;>omega
 refine⟨λs hs=>?_,λp hp=>?_,?_,?_⟩
 ·simp only[aX.new,List.mem_replicate] at hs;rw[hs.2];exact vc 128
 ·simp[aX.new] at hp
 ·simp only[aX.new,nB];omega
 ·simp[aX.new]
def nW(D:aX)(mask torn cut:Int):D.eY mask torn cut=⟨fo mask torn (min2 (max2 cut 0) 128) D.safe D.later D.later.length,[],D.ops,0⟩:=by
 unfold aX.eY;have:=yJ mask torn (min2 (max2 cut 0) 128) D.later D.safe D.later.length 0 (by omega);simp only[jn,fo] at this;rw[this]
def sV(D:aX)(i:Int)(s:BA):(D.write i s).1.safe=D.safe/\(D.write i s).1.later.length<=D.later.length+1:=by
 unfold aX.write;split
 ·exact⟨rfl,by simp⟩
 ·split
  ·exact⟨rfl,by simp[aX.tick]⟩
  ·exact⟨rfl,by simp⟩
def Lj{D:aX}(h:D.Ok)(i:Int)(s:BA)(hl:D.later.length+1<1099511627776):(D.write i s).1.Ok:=by
 have h2:=sV D i s;refine⟨by rw[h2.1];exact h.safe,?_,by rw[h2.1];exact h.og,by omega⟩;rw[h2.1];unfold aX.write;split
 ·exact h.later
 ·rename_i hg;split
  ·exact h.later
  ·intro p hp;simp only[dF,DH] at hp;rcases hp with hp|hp
   ·exact h.later p hp
   ·subst hp;have NZ:D.is i:=by
     by_cases hh:D.is i
     ·exact hh
     ·exact aQ (.inl hh) hg
    have xX: ¬128<s.size:=λhh=>hg (.inr hh);exact⟨UZ (by omega),NZ.1,NZ.2⟩
def Na{mask torn c:Int}(hc:0<=c/\c<=128){safe:List BA}{k:Nat}{p:Int×BA}(hs:∀s∈safe,s.size=128)(hp:p.2.size=128/\0<=p.1/\p.1<safe.length):
 ∀s∈aX.nX mask torn c safe k p,s.size=128:=by
 intro s hm;have Cs:p.1.toNat<safe.length:=by omega
 unfold aX.nX at hm;split at hm
 ·rcases eE hm with hm|hm
  ·exact hs s hm
  ·rw[hm];have:=hs _ (bP Cs);rw[ka,aj Cs,dE,ByteArray.size_append,tP,tP,this,hp.1];omega
 ·split at hm
  ·rcases eE hm with hm|hm
   ·exact hs s hm
   ·rw[hm];exact hp.1
  ·exact hs s hm
def zV{mask torn c:Int}(hc:0<=c/\c<=128){safe:List BA}{later:List (Int×BA)}(hs:∀s∈safe,s.size=128)(hp:∀p∈later,p.2.size=128/\0<=p.1/\p.1<safe.length):
 ∀j,∀s∈fo mask torn c safe later j,s.size=128
 |0=>hs
 |j+1=>by
  simp only[fo];cases hl:later[j]? with
  |none=>exact zV hc hs hp j
  |some p=>
   refine Na hc (zV hc hs hp j) ?_;rw[jI];exact hp p (bD hl)
def Wc(cut:Int):0<=min2 (max2 cut 0) 128/\min2 (max2 cut 0) 128<=128:=by unfold min2 max2;split<;>split<;>omega
def zW{D:aX}(h:D.Ok)(mask torn cut:Int):(D.eY mask torn cut).Ok:=by
 rw[nW];refine⟨zV (Wc cut) h.safe h.later _,λp hp=>by simp at hp,by simp only[jI];exact h.og,by simp⟩
def Ic{later:List (Int×BA)}:∀{safe:List BA},(∀s∈safe,s.size=128)->(∀p∈later,p.2.size=128)->∀s∈later.foldl aX.put safe,s.size=128:=by
 induction later with
 |nil=>exact λhs _=>hs
 |cons p l ih=>
  intro safe hs hp;rw[List.foldl_cons];refine ih (λs hm=>?_) (λq hq=>hp q (iy _ hq));rcases eE hm with hm|hm
  ·exact hs s hm
  ·rw[hm];exact hp p (qa)
def JZ{D:aX}(h:D.Ok):D.sync.1.Ok:=by
 unfold aX.sync;split
 ·exact⟨h.safe,h.later,h.og,h.less⟩
 ·refine⟨Ic h.safe λp hp=>(h.later p hp).1,λp hp=>by simp at hp,?_,by simp⟩;show(D.later.foldl aX.put D.safe).length<=4096;rw[oO];exact h.og
def Ag{D:aX}(h:D.later=[]){i:Nat}(hi:i<D.safe.length):D.read (i:Int)=(D.safe[i],0):=by
 unfold aX.read;rw[ai ⟨by omega,by omega⟩];simp[aX.now,aX.last,h,hi]
section
variable {W w:World} {L:LH}
end
end Go.Sep
namespace Go.Sep
open Go.Den Go.RowKit Go.ChangeShapes Go.WideShapes
inductive CK where
 |i(k:IntKind)
 |b
 |s
deriving DecidableEq
def CK.is:CK->Value->Prop
 | .i k,v=>∃n,v=.int k n/\(Lit.int k n).wf=true
 | .b,v=>∃x,v=.bool x
 | .s,v=>∃x,v=.string x/\x.size<=reachBytes
def Typed(ks:List CK)(cs:LV)(o:Nat):Prop:=∀j k,ks[j]?=some k->∃v,cs[o+j]?=some v/\k.is v
def tf(P:Program)(f:TypeId->Option (List CK)):Nat->List Field->Option (List CK)
 |_,[]=>some []
 |o,fd::r=>match f fd.type with
  |some a=>if fd.offset=o/\P.cellsOf fd.type=a.length then(tf P f (o+a.length) r).map (a++·) else none
  |none=>none
def flat(P:Program):Nat->TypeId->Option (List CK)
 |0,_=>none
 |n+1,t=>match P.underlying t with
  |some (.int k)=>some [.i k]
  |some .bool=>some [.b]
  |some .string=>some [.s]
  |some (.struct fs)=>tf P (flat P n) 0 fs.toList
  |_=>none
section
variable {H:Type} {enc:TypeId×Value->H} {P:Program} {w:World} {base:Nat} {spare:Nat->Bool} {held:Bool}
def Cy{f:TypeId->Option (List CK)}{m:Nat}{cs:LV}
 (hf:∀t ks cs x,f t=some ks->DataW.trod enc P w base spare held m t cs=some x->(∀n∈x.1.weights P t,n<=reachBytes)->Typed ks cs 0):
 ∀(fs:List Field)(o:Nat)(ks:List CK)(xs:List (DataW H×List MemPlace)),tf P f o fs=some ks->
  (∀(i:Nat)(fd:Field),fs[i]?=some fd->DataW.trod enc P w base spare held m fd.type ((cs.drop fd.offset).take (P.cellsOf fd.type))=xs[i]?)->xs.length=fs.length->
  (∀n∈DataW.weightsEach P (fs.map (·.type)) (xs.map (·.1)),n<=reachBytes)->Typed ks cs o
 |[],o,ks,xs,h,_,_,_=>by
  simp only[tf,aY.injEq] at h;subst h;intro j k hj;simp at hj
 |fd::r,o,ks,[],h,hx,hl,hw=>by simp at hl
 |fd::r,o,ks,x::xs,h,hx,hl,hw=>by
  simp only[tf] at h;cases ha:f fd.type with
  |none=>simp[ha] at h
  |some a=>
   simp only[ha] at h;split at h
   ·rename_i hc;cases hb:tf P f (o+a.length) r with
    |none=>simp[hb] at h
    |some b=>
     simp only[hb,fw,aY.injEq] at h;subst h;simp only[cW,DataW.weightsEach,dF] at hw;have h1:=hf fd.type a _ x ha (by have:=hx 0 fd rfl;simpa using this) (λn hn=>hw n (.inl hn));have h2:=Cy hf r (o+a.length) b xs hb (λi g hg=>by have:=hx (i+1) g (by simpa using hg);simpa using this) (by simpa using hl) (λn hn=>hw n (.inr hn));intro j k hj;by_cases hja:j<a.length
     ·rw[bh hja] at hj;obtain⟨v,hv,hk⟩:=h1 j k hj;refine⟨v,?_,hk⟩;rw[hc.1,hc.2,aC,List.getElem?_take_of_lt hja,sJ] at hv;exact hv
     ·rw[iW (by omega)] at hj;obtain⟨v,hv,hk⟩:=h2 (j-a.length) k hj;refine⟨v,?_,hk⟩;rw[show o+j=o+a.length+(j-a.length) from by omega];exact hv
   ·cases h
def GU:∀(f:Nat)(m:Nat)(t:TypeId)(ks:List CK)(cs:LV)(x:DataW H×List MemPlace),flat P f t=some ks->DataW.trod enc P w base spare held m t cs=some x->
 (∀n∈x.1.weights P t,n<=reachBytes)->Typed ks cs 0
 |0,_,_,_,_,_,h,_,_=>by simp[flat] at h
 |f+1,m,t,ks,cs,x,h,hx,hw=>by
  unfold flat at h;split at h
  ·rename_i k ht;cases h
   obtain⟨n,rfl,rfl,hwf⟩:=DataW.trod_int ht hx;intro j k' hj;cases j with
   |zero=>simp at hj;subst hj;exact⟨_,rfl,n,rfl,hwf⟩
   |succ j=>simp at hj
  ·rename_i ht;cases h
   obtain⟨n,rfl,rfl⟩:=DataW.trod_bool ht hx;intro j k' hj;cases j with
   |zero=>simp at hj;subst hj;exact⟨_,rfl,n,rfl⟩
   |succ j=>simp at hj
  ·rename_i ht;cases h
   obtain⟨n,rfl,rfl,_⟩:=DataW.trod_string ht hx;intro j k' hj;cases j with
   |zero=>simp at hj;subst hj;exact⟨_,rfl,n,rfl,by have:=hw n.data.toList.length (by simp[DataW.weights]);simpa using this⟩
   |succ j=>simp at hj
  ·rename_i fs ht;obtain⟨xs,n,rfl,rfl,hl,hlen,hf⟩:=DataW.trod_struct ht hx;refine Cy (m:=n) (λt ks cs x h1 h2 h3=>GU f n t ks cs x h1 h2 h3) fs.toList 0 ks xs h (λi fd hi=>hf i fd (by simpa using hi)) (by simpa using hlen) (λn hn=>hw n ?_);simp only[DataW.weights,ht];exact hn
  ·cases h
def y5(ks:List CK)(n:Nat)(xs:LV):Prop:=∀i,i<n->Typed ks xs (i* ks.length)
def zm{e:TypeId}:∀{ds:List (DataW H)} {d:DataW H},d∈ds->∀n∈d.weights P e,n∈DataW.weightsAll P e ds
 |[],d,h,_,_=>by simp at h
 |d0::ds,d,h,n,hn=>by
  simp only[DataW.weightsAll,dF];rcases kf.1 h with h|h
  ·subst h;exact .inl hn
  ·exact .inr (zm h n hn)
def pr{t e:TypeId}{f:Nat}{ks:List CK}{v:Value}{r:Reach}{b0:Nat}{d:DataW H}{ps:List MemPlace}(ht:P.underlying t=some (.slice e))(he:flat P f e=some ks)(hc:P.cellsOf e=ks.length)
 (qi:Value.okWide P w r b0 t v)(hd:DataW.Trod enc P w base spare held t v d ps)(hw:∀n∈d.weights P t,n<=reachBytes):
 ∃b n c xs,v=.slice b n c/\Ro w b n ks.length xs/\y5 ks n xs/\n* P.bytesOf e<=reachBytes/\n<=maxLen:=by
 obtain⟨b,n,c,rfl⟩:=okWide_slice ht qi;obtain⟨m,hm⟩:=hd;rcases Go.Deep.open_slice ht hm with⟨N2,hx⟩|⟨a,len,cap,k,n',D,Pl,N2,hb,hl,hmx,hk,hx,AX⟩
 ·simp[Value.cells] at N2;obtain⟨rfl,rfl,rfl⟩:=N2;refine⟨none,0,0,[],rfl,⟨by simp,λ_=>rfl,λa h=>by cases h⟩,λi h=>by omega,by simp,by decide⟩
 ·simp[Value.cells] at N2;obtain⟨rfl,rfl,rfl⟩:=N2;obtain⟨hx,_⟩:=Prod.mk.inj hx;subst hx;have hlk:n<=k:=by rw[hk];split<;>omega
  simp only[DataW.weights,ht] at hw;have qj:∀i,i<n->∀j,j<ks.length->∃v,w.cell? (a.add (i* ks.length+j))=some v:=λi hi j hj=>by
   obtain⟨xg,h1,h2⟩:=AX i (by omega);obtain⟨_,h3,h4⟩:=World.cells?_some h1;rw[hc] at h3 h4;refine⟨xg[j],?_⟩;rw[<-add_add,h4 j hj];simp[h3,hj]
  have Cu:∀j,j<n* ks.length->∃v,w.cell? (a.add j)=some v:=λj hj=>by
   have ME:0<ks.length:=by
    cases hks:ks.length with
    |zero=>rw[hks] at hj;omega
    |succ x=>omega
   have h1:j/ks.length<n:=by rw[Nat.div_lt_iff_lt_mul ME];exact hj
   have h2:j%ks.length<ks.length:=Nat.mod_lt _ ME;obtain⟨v,hv⟩:=qj _ h1 _ h2;refine⟨v,?_⟩;rw[<-hv];congr 2;have:=Nat.div_add_mod j ks.length;rw[wN] at this;omega
  refine⟨some a,n,c,(pZ (n* ks.length)).map λj=>(w.cell? (a.add j)).getD (.bool false),rfl,⟨by simp,λh=>(by cases h),λa' ha' j v hv=>?_⟩,λi hi j k' BM=>?_,?_,by omega⟩
  ·cases ha'
   rw[eo,Option.map_eq_some_iff] at hv;obtain⟨j',NW,rfl⟩:=hv;obtain⟨bX,rfl⟩:=ao.1 NW;simp only[List.length_range] at bX;simp only[List.getElem_range];obtain⟨v,hv⟩:=Cu j bX;rw[hv];rfl
  ·obtain⟨xg,h1,h2⟩:=AX i (by omega);obtain⟨_,h3,h4⟩:=World.cells?_some h1;rw[hc] at h3 h4;have hj:j<ks.length:=(ao.1 BM).1;have h5:=GU f n' e ks xg (D i,Pl i) he h2 (λx hx=>hw x (by
    simp only[kf,dF]
    refine .inr (.inl (zm ?_ x hx))
    exact cA.2 ⟨i,List.mem_range.2 hi,rfl⟩))
   obtain⟨v,hv,hkv⟩:=h5 j k' BM;refine⟨v,?_,hkv⟩;have bX:i* ks.length+j<n* ks.length:=by
    have:(i+1)* ks.length<=n* ks.length:=iI _ hi;rw[mA] at this;omega
   rw[eo,rD bX,fw,<-add_add,hc] at *;rw[aC] at hv;rw[h4 j hj,hv];rfl
  ·have:=hw _ (qa);simp only[bU,List.length_range] at this;exact AD (iI _ (by omega)) this
end
end Go.Sep
namespace Go.Sep
open Go.Den Go.RowKit Go.Prog Go.cF
def ja{z ys:LV}(h:ys.length=z.length):over z 0 ys=ys:=by
 unfold over;rw[ox,cw,aC,gL (by omega),bO]
section
variable {W w:World} {L:LH} {b:OA} {n e:Nat} {xs:LV}
end
section
variable {W w:World} {L:LH}
end
namespace Dk
variable {D:Go.cF.aX}
open Go.cF.aX (last put pad)
def VY(h:D.arm=0):D.wz=false:=by simp[Go.cF.aX.wz,h]
def Z3(h:D.arm=0):D.tick.arm=0:=by simp[Go.cF.aX.tick,h]
def JO(h:D.arm=0)(i:Int)(s:BA):D.write i s=if ¬D.is i\/128<s.size then(D,1) else({Go.cF.aX.tick D with later:=D.later++[(i,pad s)]},0):=by
 unfold Go.cF.aX.write;rw[VY h];rfl
def FA(h:D.arm=0)(i:Int)(s:BA):(D.write i s).1.arm=0:=by
 rw[JO h];split
 ·exact h
 ·exact Z3 h
def Qn(h:D.arm=0):D.sync=({D.tick with safe:=D.later.foldl put D.safe,later:=[]},0):=by
 unfold Go.cF.aX.sync;rw[VY h];rfl
def tT(l:List (Int×BA))(p:Int×BA)(i:Int):last (l++[p]) i=if p.1=i then some p.2 else last l i:=by
 unfold last;rw[List.reverse_append];simp only[yP,List.reverse_nil,cw,List.singleton_append,List.find?_cons];by_cases h:p.1=i
 ·simp[h]
 ·have:(p.1==i)=false:=by simp[h]
  rw[this,ag h]
def Gy(h:D.arm=0)(n i:Int)(s:BA):(D.write n s).1.now i=if(D.is n/\s.size<=128)/\n=i then pad s else D.now i:=by
 rw[JO h];by_cases hw: ¬D.is n\/128<s.size
 ·rw[ai hw,ag];rintro⟨⟨h1,h2⟩,_⟩;rcases hw with hw|hw
  ·exact hw h1
  ·omega
 ·rw[ag hw];have h1:D.is n:=by
   by_cases hh:D.is n
   ·exact hh
   ·exact aQ (.inl hh) hw
  have h2:s.size<=128:=by
   by_cases hh:s.size<=128
   ·exact hh
   ·exact aQ (.inr (by omega)) hw
  simp only[Go.cF.aX.now,Go.cF.aX.tick,tT];by_cases hni:n=i
  ·rw[ai hni,ai ⟨⟨h1,h2⟩,hni⟩];rfl
  ·rw[ag hni,ag (λhh=>hni hh.2)]
def Ao(l:List (Int×BA))(p:Int×BA)(i:Int):last (p::l) i=(last l i).or (if p.1=i then some p.2 else none):=by
 unfold last;rw[yP,List.find?_append];by_cases h:p.1=i
 ·cases List.find? (λp=>p.1==i) l.reverse<;>simp[h]
 ·have:(p.1==i)=false:=by simp[h]
  cases List.find? (λp=>p.1==i) l.reverse<;>simp[h,this]
def A0{i:Int}(hi:0<=i):∀(l:List (Int×BA))(safe:List BA),i<safe.length->(∀p∈l,0<=p.1)->(l.foldl put safe).getD i.toNat .empty=(last l i).getD (safe.getD i.toNat .empty):=by
 intro l
 induction l with
 |nil=>intro safe _ _;rfl
 |cons p l ih=>
  intro safe hs hp;rw[List.foldl_cons,Ao,ih _ (by simp[put];exact hs) (λq hq=>hp q (iy _ hq))];have hp0:=hp p (by simp);have hlen:i.toNat<safe.length:=by omega
  have e:(put safe p).getD i.toNat .empty=if p.1=i then p.2 else safe.getD i.toNat .empty:=by
   unfold put;by_cases NS:p.1=i
   ·rw[ai NS,NS,ka,List.getElem?_set_self hlen];rfl
   ·rw[ag NS,ka,P7 (by omega),<-ka]
  rw[e];cases last l i with
  |some x=>rfl
  |none=>by_cases NS:p.1=i<;>simp[NS]
def Sy(h:D.arm=0)(iH:D.Ok){i:Int}(hi:D.is i):D.sync.1.now i=D.now i:=by
 rw[Qn h];have:=A0 hi.1 D.later D.safe hi.2 (λp hp=>(iH.later p hp).2.1);simp only[Go.cF.aX.now,last,List.reverse_nil,List.find?_nil,Option.map_none,gV];exact this
def LF:D.sync.1.safe.length=D.safe.length/\D.sync.1.later.length<=D.later.length:=by
 unfold Go.cF.aX.sync;split
 ·exact⟨rfl,aH _⟩
 ·exact⟨oO _ _,aE _⟩
def RR(h:D.arm=0):D.sync.1.arm=0:=by rw[Qn h];exact Z3 h
end Dk
end Go.Sep
namespace Go.Sep
open Go.Den Go.RowKit Go.Prog Go.cF
def bs(l:List UInt8):BA:=⟨l.toArray⟩
def cj(l:List UInt8):(bs l).size=l.length:=rfl
def Rx(s:BA):bs s.data.toList=s:=rfl
def vZ(x:UInt8):Value:=.int .u8 (x.toNat:Int)
def byteOf(k:IntKind)(n:Int)(i:Nat):UInt8:=UInt8.ofNat (IntKind.u8.wrap (shr k n (8* (i:Int)))).toNat
def le(k:IntKind)(w:Nat)(n:Int):List UInt8:=(pZ w).map (byteOf k n)
def aO(k:IntKind)(w:Nat)(n:Int):(le k w n).length=w:=by simp[le]
def yd(n:Int):0<=IntKind.u8.wrap n/\IntKind.u8.wrap n<256:=by
 simp[IntKind.wrap,IntKind.bits,IntKind.signed];omega
def uT{n:Int}(h:0<=n/\n<256):vZ (UInt8.ofNat n.toNat)=.int .u8 n:=by
 unfold vZ
 congr 1
 have:n.toNat<256:=by omega
 rw[UInt8.toNat_ofNat_of_lt' (by exact this)];omega
def Ep(l:List UInt8):bytesOf (l.map vZ)=l:=by
 unfold bytesOf;rw[pD]
 conv=>rhs;rw[<-List.map_id l]
 refine eg λx _=>?_;simp[vZ]
def strCells_eq(s:BA):strCells s=s.data.toList.map vZ:=rfl
def buf(p:Nat)(l:List UInt8):HP:=TT λ(v:OA×Nat)=>sep (pt p [.l v.1 l.length v.2]) (own v.1 l.length v.2 1 (l.map vZ))
section
variable {W w:World} {L:LH} {k p:Nat} {l:List UInt8}
def Ha(h:St W w L)(hk:L[k]?=some (buf p l)):∃b c,St W w (pt p [.l b l.length c]::own b l.length c 1 (l.map vZ)::L.eraseIdx k):=by
 obtain⟨⟨b,c⟩,h1⟩:=(h.focus hk).ex;exact⟨b,c,h1.split⟩
def u3{b:OA}{c n:Nat}{A:HP}(hk:L[k]?=some A)(hn:n=l.length)(h:St W w (pt p [.l b n c]::own b n c 1 (l.map vZ)::L.eraseIdx k)):St W w (L.set k (buf p l)):=by
 subst hn;refine St.rZ (A:=A) ?_ hk;exact St.rh (b,c) (St.join h)
def Zz{b:OA}{n c:Nat}{K:BA->WK}(h:St W w L)(hk:L[k]?=some (own b n c 1 (l.map vZ)))(hK:K (bs l) w):WB b n K w:=by
 have hl:=(h.oN hk).1;rw[bU,mz] at hl;have Bn:=RG h hk;refine⟨λhb=>?_,λa ha=>⟨l.map vZ,by rw[bU];exact hl,Bn.1.2 a ha,λv hv=>?_,?_⟩⟩
 ·have:n=0:=Bn.2 hb;have TM:l=[]:=List.length_eq_zero_iff.1 (by omega);subst TM;exact hK
 ·obtain⟨x,_,rfl⟩:=cA.1 hv;exact⟨_,rfl⟩
 ·rw[Ep];exact hK
def PK{r n:Nat}{K:BA->WK}(h:St W w L)(hk:L[k]?=some (pt r (l.map vZ)))(hn:n=l.length)(hK:K (bs l) w):WB (ah r) n K w:=by
 refine⟨λhb=>(by cases hb),λa ha=>⟨l.map vZ,by rw[bU,hn],?_,λv hv=>?_,?_⟩⟩
 ·cases ha
  exact xO h hk λj v hj=>by rw[aC];exact hj
 ·obtain⟨x,_,rfl⟩:=cA.1 hv;exact⟨_,rfl⟩
 ·rw[Ep];exact hK
def kK{m n:Int}{K:VK}(h:St W w L)(hk:L[k]?=some (buf p l))(hl:l.length<1099511627776)
 (hK:∀w',St W w' (L.set k (buf p (l++le .i64 (min2 (max2 m 1) 8).toNat n)))->K (.tuple ⟨[]⟩) w'):bq (ah p) m n K w:=by
 have hm:1<=min2 (max2 m 1) 8/\min2 (max2 m 1) 8<=8:=by unfold min2 max2;split<;>split<;>omega
 unfold bq;generalize min2 (max2 m 1) 8=q at *;obtain⟨b,c,hs⟩:=Ha h hk;refine⟨λus w'=>∃(j:Nat)(b:OA)(c:Nat),us=[.i q,.i j]/\(j:Int)<=q/\St W w' (pt p [.l b (l++le .i64 j n).length c]::own b (l++le .i64 j n).length c 1 ((l++le .i64 j n).map vZ)::L.eraseIdx k),
  λus _=>match us with|[_,.int _ j]=>(q-j).toNat|_=>0,⟨0,b,c,rfl,by omega,?_⟩,?_⟩
 ·have e:l++le .i64 0 n=l:=by simp[le]
  rw[e];exact hs
 rintro n3 n4 w2 ⟨j,b,c,he,hj,hs⟩;cases he
 refine gj (λh0=>?_) (λh0=>?_)
 ·refine mF hs λw hs=>?_;simp only[nz,ae,af];refine db (k:=0) hs rfl rfl ?_;simp only[nz,ae,af];have e8:aa.wrap (8* (j:Int))=8* (j:Int):=aW (by omega);rw[e8];refine⟨by omega,?_⟩;have hb8:Value.int .u8 (IntKind.u8.wrap (shr .i64 n (8* (j:Int))))=vZ (byteOf .i64 n j):=by
   unfold byteOf;rw[uT (yd _)]
  rw[hb8];refine jq hs λr w hs=>?_;refine kM (k:=1) hs rfl rfl ?_;have hlen:(l++le .i64 j n).length=l.length+j:=by rw[aw,aO]
  refine u6 (k:=2) (ys:=[vZ (byteOf .i64 n j)]) hs rfl (Hk (k':=0) hs rfl rfl λj v hj=>by rw[aC];exact hj) (by simp) rfl (by omega) (by omega) (by simp[Value.oneCell',vZ]) λb' c' w hs=>?_;simp only[nz,ae,af] at hs⊢;refine oZ (k:=1) hs rfl (aK rfl) rfl λw hs=>?_;simp only[nz,ae,af] at hs;have e5:=nK j;rw[e5];refine⟨⟨j+1,b',c',rfl,by omega,?_⟩,by omega⟩;have e6:l++le .i64 (j+1) n=(l++le .i64 j n)++[byteOf .i64 n j]:=by
   unfold le;rw[List.range_succ,cY,aI];rfl
  rw[e6,aw,cY];exact hs.drop
 ·have Ks:(j:Int)=q:=by omega
  refine hK _ ?_;have:q.toNat=j:=by omega
  rw[this];exact u3 hk rfl hs
def rC{s:BA}{K:VK}(h:St W w L)(hk:L[k]?=some (buf p l))(hl:l.length+s.size<1099511627776)
 (hK:∀w',St W w' (L.set k (buf p (l++s.data.toList)))->K (.tuple ⟨[]⟩) w'):mh (ah p) s K w:=by
 unfold mh;obtain⟨b,c,hs⟩:=Ha h hk;simp only[nz,ae,af];refine db (k:=0) hs rfl rfl ?_;simp only[nz,ae,af];refine Hf (k:=1) hs rfl (by omega) λb' c' w hs=>?_;simp only[nz,ae,af] at hs⊢;refine oZ (k:=0) hs rfl (aK rfl) rfl λw hs=>?_;simp only[nz,ae,af] at hs;refine hK w (u3 (b:=b') (c:=c') (n:=l.length+s.size) hk (by rw[aw];rfl) ?_);rw[cY,<-strCells_eq];exact hs
def np{K:VK}(h:St W w L)(hk:L[k]?=some (buf p l))(hK:K (.s (bs l)) w):dK (ah p) K w:=by
 unfold dK;obtain⟨b,c,hs⟩:=Ha h hk;simp only[nz,ae,af];refine db (k:=0) hs rfl rfl ?_;simp only[nz,ae,af];exact Zz (k:=1) hs rfl hK
def We(n:Int):Nat->Int
 |0=>n
 |j+1=>dm .u32 .xor (shr .u32 (We n j) 1) (dm .u32 .and 2197175160 (IntKind.u32.wrap (0-(dm .u32 .and (We n j) 1))))
def Zl(n:Int)(c:UInt8):Int:=We (dm .u32 .xor n (IntKind.u32.wrap (c.toNat:Int))) 8
def Wd(n:Int)(l:List UInt8):Int:=l.foldl Zl n
def tO(n:Int)(l:List UInt8):Int:=dm .u32 .xor 4294967295 (Wd (dm .u32 .xor 4294967295 n) l)
def isW(w w':World):Prop:=w'=w
def NG{n:Int}{s:BA}{K:VK}(hs:s.size<1099511627776)(hK:K (.int .u32 (tO n s.data.toList)) w):vJ n s K w:=by
 unfold vJ;refine⟨λus w'=>∃j:Nat,us=[.int .u32 0,.int .u32 (Wd (dm .u32 .xor 4294967295 n) (s.data.toList.take j)),.i s.size,.i j]/\j<=s.size/\isW w w',
  λus _=>match us with|[_,_,_,.int _ j]=>s.size-j.toNat|_=>0,⟨0,rfl,aE _,rfl⟩,?_⟩
 rintro n2 n3 n4 n5 w2 ⟨j,he,hj,hw⟩;obtain rfl:w2=w:=hw;cases he
 have hlen:s.data.toList.length=s.size:=rfl;generalize hb:decide ((j:Int)<(s.size:Int))=b;cases b
 ·have jk:=bn hb;rw[eK];have:j=s.size:=by omega
  subst this;rw[bS (by omega)];exact hK
 ·have bX:=aR hb;rw[lz];have Vy:j<s.data.toList.length:=by omega
  refine⟨s.data.toList[j],⟨by omega,by simp[Vy]⟩,?_⟩;generalize hc:s.data.toList[j]=c;generalize hx:Wd (dm .u32 .xor 4294967295 n) (s.data.toList.take j)=x;refine⟨λus w'=>∃i:Nat,us=[.int .u32 0,.int .u32 (We (dm .u32 .xor x (IntKind.u32.wrap (c.toNat:Int))) i),.i j,.i s.size,.i j,.b true,.i j,.int .u32 x,.s s,.i j,.int .u8 (c.toNat:Int),.int .u32 (IntKind.u32.wrap (c.toNat:Int)),.int .u32 (dm .u32 .xor x (IntKind.u32.wrap (c.toNat:Int))),.i i]/\i<=8/\isW w2 w',
   λus _=>match us with|[_,_,_,_,_,_,_,_,_,_,_,_,_,.int _ i]=>8-i.toNat|_=>0,⟨0,rfl,aE _,rfl⟩,?_⟩
  rintro n6 n7 n8 n9 Bg b1 Bf DZ s2 Dc SC n15 zH n17 w4 ⟨i,he,hi,hw⟩;obtain rfl:w4=w2:=hw;cases he
  generalize wX:decide ((i:Int)<8)=b2;cases b2
  ·have jk:=bn wX;rw[eK];have hi8:i=8:=by omega
   subst hi8;have e5:=nK j;rw[e5];refine⟨⟨j+1,?_,by omega,rfl⟩,by dsimp only;omega⟩;have e6:Wd (dm .u32 .xor 4294967295 n) (s.data.toList.take (j+1))=We (dm .u32 .xor x (IntKind.u32.wrap (c.toNat:Int))) 8:=by
    rw[qL Vy];unfold Wd at hx⊢;rw[List.foldl_append,hx,hc];rfl
   rw[e6]
  ·have yx:=aR wX;rw[lz];refine⟨by decide,?_⟩;have e5:=nK i;rw[e5];exact⟨⟨i+1,rfl,by omega,rfl⟩,by dsimp only;omega⟩
def wW(n:Int):List UInt8:=le .u32 4 n
def Aa{n:Int}{K:VK}(h:St W w L)(hn:0<=n/\n<4294967296)(hK:∀w',St W w' L->K (.s (bs (wW n))) w'):sz n K w:=by
 unfold sz;refine⟨by decide,by decide,by decide,⟨rfl,rfl,rfl,rfl,trivial⟩,jq h λr w hs=>?_⟩;have e0:Value.int .u8 (IntKind.u8.wrap n)=vZ (byteOf .u32 n 0):=by
  unfold byteOf;rw[uT (yd _)];have:shr .u32 n (8* ((0:Nat):Int))=n:=by simp[shr]
  rw[this]
 have e:∀i:Nat,Value.int .u8 (IntKind.u8.wrap (shr .u32 n (8* (i:Int))))=vZ (byteOf .u32 n i):=λi=>by
  unfold byteOf;rw[uT (yd _)]
 have e1:=e 1;have e2:=e 2;have e3:=e 3;have AX:[Value.int .u8 (IntKind.u8.wrap n),.int .u8 (IntKind.u8.wrap (shr .u32 n 8)),.int .u8 (IntKind.u8.wrap (shr .u32 n 16)),.int .u8 (IntKind.u8.wrap (shr .u32 n 24))]=(wW n).map vZ:=by
  rw[e0,show(8:Int)=8* ((1:Nat):Int) from rfl,show(16:Int)=8* ((2:Nat):Int) from rfl,show(24:Int)=8* ((3:Nat):Int) from rfl,e1,e2,e3]
  rfl
 rw[AX] at hs;exact PK (k:=0) hs rfl rfl (hK w hs.drop)
end
def ft(n i:Int)(s:BA):Prop:=1<=n/\n<=1152921504606846976/\0<=i/\i<4096/\s.size<=104
instance(n i:Int)(s:BA):Decidable (ft n i s):=by unfold ft;infer_instance
def pre(n i:Int)(s:BA):List UInt8:=le .i64 8 n++le .i64 2 i++le .i64 2 s.size++s.data.toList++bu (104-s.size) 0
def mS(n i:Int)(s:BA):List UInt8:=pre n i s++wW (tO 0 (pre n i s))++le .i64 8 n
def leaf(n i:Int)(s:BA):BA:=if ft n i s then bs (mS n i s) else .empty
def rG{n i:Int}{s:BA}(h:s.size<=104):(pre n i s).length=116:=by
 have:s.data.toList.length=s.size:=rfl;simp only[pre,aw,aO,nB];omega
def yo{n i:Int}{s:BA}(h:s.size<=104):(mS n i s).length=128:=by
 simp only[mS,aw,aO,rG h,wW]
def uY{n i:Int}{s:BA}(h:ft n i s):(leaf n i s).size=128:=by
 unfold leaf;rw[ai h,cj,yo h.2.2.2.2]
def DJ(n:Int):0<=IntKind.u32.wrap n/\IntKind.u32.wrap n<4294967296:=by
 simp[IntKind.wrap,IntKind.bits,IntKind.signed];omega
section
variable {W w:World} {L:LH} {k d:Nat} {D:aX}
def Js{n i:Int}{s:BA}{K:VK}(h:St W w L)(hK:∀w',St W w' L->K (.b (decide (ft n i s))) w'):vj [.i n,.i i,.s s] K w:=by
 unfold vj;refine jq h λr w hs=>?_;have hh:=hK w hs.drop;simp only[nz,ae,af];refine db (k:=0) hs rfl rfl ?_;simp only[nz,ae,af];refine gj (λh1=>?_) (λh1=>?_)
 ·refine db (k:=0) hs rfl rfl ?_;simp only[nz,ae,af];refine gj (λh2=>?_) (λh2=>?_)
  ·refine db (k:=0) hs rfl rfl ?_;simp only[nz,ae,af];refine gj (λh3=>?_) (λh3=>?_)
   ·refine db (k:=0) hs rfl rfl ?_;simp only[nz,ae,af];refine gj (λh4=>?_) (λh4=>?_)
    ·refine db (k:=0) hs rfl rfl ?_;simp only[nz,ae,af];have:decide ((s.size:Int)<=104)=decide (ft n i s):=by
      rw[decide_eq_decide];unfold ft;omega
     rw[this];exact hh
    ·have:decide (ft n i s)=false:=ar (by unfold ft;omega);rw[this] at hh;exact hh
   ·have:decide (ft n i s)=false:=ar (by unfold ft;omega);rw[this] at hh;exact hh
  ·have:decide (ft n i s)=false:=ar (by unfold ft;omega);rw[this] at hh;exact hh
 ·have:decide (ft n i s)=false:=ar (by unfold ft;omega);rw[this] at hh;exact hh
def P5{n i:Int}{s:BA}{K:VK}(h:St W w L)(hK:∀w',St W w' L->K (.tuple ⟨[.s (leaf n i s),.i (if ft n i s then 0 else 1)]⟩) w'):
 rP [.i n,.i i,.s s] K w:=by
 unfold rP;refine jq h λr w hs=>?_;refine kx (k:=0) (xs:=[.i n,.i i,.s s]) hs rfl rfl (λj v hj=>by rw[aC];exact hj) ?_;refine Js hs λw hs=>?_;simp only[nz,ae,af];by_cases hg:ft n i s
 ·have pE:=hg.2.2.2.2;have e0:decide (ft n i s)=true:=av hg;unfold leaf at hK;rw[ai hg,ai hg] at hK;rw[e0];simp only[nz,ae,af];refine jq hs λp w hs=>?_;have hs:St W w (buf p []::pt r [.i n,.i i,.s s]::L):=by
   have h2:=(hs.push (A:=own none 0 0 1 (([]:List UInt8).map vZ)) (sm 1)).perm (bZ.swap _ _ _);exact u3 (k:=0) (L:=buf p []::pt r [.i n,.i i,.s s]::L) (A:=buf p []) rfl rfl h2
  have hd:s.data.toList.length=s.size:=rfl;refine db (k:=1) hs rfl rfl ?_;simp only[nz,ae,af];refine kK (k:=0) hs rfl (by simp) λw hs=>?_;rw[show(min2 (max2 8 1) 8).toNat=8 from rfl] at hs;simp only[nz,ae,af] at hs⊢;refine db (k:=1) hs rfl rfl ?_;simp only[nz,ae,af];refine kK (k:=0) hs rfl (by simp only[aw,aO,cO];omega) λw hs=>?_;rw[show(min2 (max2 2 1) 8).toNat=2 from rfl] at hs;simp only[nz,ae,af] at hs⊢;refine db (k:=1) hs rfl rfl ?_;simp only[nz,ae,af];refine kK (k:=0) hs rfl (by simp only[aw,aO,cO];omega) λw hs=>?_;rw[show(min2 (max2 2 1) 8).toNat=2 from rfl] at hs;simp only[nz,ae,af] at hs⊢;refine db (k:=1) hs rfl rfl ?_;simp only[nz,ae,af];refine rC (k:=0) hs rfl (by simp only[aw,aO,cO];omega) λw hs=>?_;simp only[nz,ae,af] at hs⊢;refine db (k:=1) hs rfl rfl ?_;simp only[nz,ae,af];have ew:aa.wrap (104-(s.size:Int))=((104-s.size:Nat):Int):=by rw[aW (by omega)];omega
  rw[ew];refine Es hs (by omega) (by rw[ak];have:(⟨#[0]⟩:BA).size=1:=rfl;rw[this];omega) (by omega) λw hs=>?_;have er:(⟨(F7 (⟨#[0]⟩:BA).data.toList (((104-s.size:Nat):Int).toNat)).toArray⟩:BA)=bs (bu (104-s.size) 0):=by
   rw[ak];show bs (F7 [0] (104-s.size))=_;rw[F6]
  rw[er];simp only[nz,ae,af];refine rC (k:=0) hs rfl (by rw[cj];simp only[aw,aO,cO,nB];omega) λw hs=>?_;simp only[nz,ae,af] at hs⊢;have ep:[]++le .i64 8 n++le .i64 2 i++le .i64 2 s.size++s.data.toList++(bs (bu (104-s.size) 0)).data.toList=pre n i s:=rfl;rw[ep] at hs;refine np (k:=0) hs rfl ?_;simp only[nz,ae,af];refine NG (by rw[cj,rG pE];omega) ?_;simp only[nz,ae,af];refine Aa hs (DJ _) λw hs=>?_;simp only[nz,ae,af];refine rC (k:=0) hs rfl (by rw[cj,rG pE];simp only[wW,aO];omega) λw hs=>?_;simp only[nz,ae,af] at hs⊢;refine db (k:=1) hs rfl rfl ?_;simp only[nz,ae,af];have ep2:pre n i s++(bs (wW (tO 0 (bs (pre n i s)).data.toList))).data.toList=pre n i s++wW (tO 0 (pre n i s)):=rfl;rw[ep2] at hs;refine kK (k:=0) hs rfl (by simp only[aw,wW,aO,rG pE];omega) λw hs=>?_;rw[show(min2 (max2 8 1) 8).toNat=8 from rfl] at hs;simp only[nz,ae,af] at hs⊢;refine np (k:=0) hs rfl ?_;simp only[nz,ae,af];exact hK w hs.drop.drop
 ·have e0:decide (ft n i s)=false:=ar hg;unfold leaf at hK;rw[ag hg,ag hg] at hK;rw[e0];simp only[nz,ae,af];exact hK w hs.drop
def gN(n:Nat):Nat:=if n=0 then 1 else(n+103)/104
def sx(n:Nat):1<=gN n:=by unfold gN;split<;>omega
def Px{n j:Nat}(hj:1<=j):104* j<n↔j<gN n:=by unfold gN;split<;>omega
def rM{n:Nat}{K:VK}(hn:n<1099511627776000)(hK:K (.i (gN n)) w):mQ n K w:=by
 unfold mQ;refine⟨by decide,by decide,?_⟩;have e0:max2 (n:Int) 0=n:=by unfold max2;split<;>omega
 have e1:(n:Int).tdiv 104=((n/104:Nat):Int):=by rw[Int.tdiv_eq_ediv_of_nonneg (by omega)];rfl
 have e2:(n:Int).tmod 104=((n%104:Nat):Int):=by rw[dX (by omega)];rfl
 rw[e0,e1,e2];have e3:max2 (aa.wrap (aa.wrap ((n/104:Nat):Int)+min2 ((n%104:Nat):Int) 1)) 1=(gN n:Int):=by
  have h1:aa.wrap ((n/104:Nat):Int)=((n/104:Nat):Int):=aW (by omega);rw[h1];have h2:min2 ((n%104:Nat):Int) 1=((min (n%104) 1:Nat):Int):=by unfold min2;split<;>omega
  rw[h2,aW (by omega)];unfold max2 gN;split<;>split<;>omega
 rw[e3];exact hK
end
def kZ{x y:BA}(h:x.data.toList=y.data.toList):x=y:=ByteArray.ext (va h)
def extract_toList(s:BA)(a b:Nat):(s.extract a b).data.toList=(s.data.toList.drop a).take (b-a):=by
 rw[ByteArray.data_extract,Array.toList_extract,List.extract_eq_take_drop]
def fe(s:BA):s.data.toList.length=s.size:=rfl
def part(s:BA)(i:Nat):BA:=s.extract (104* i) (104* (i+1))
def nM(s:BA)(i:Nat):(part s i).size<=104:=by unfold part;rw[tP];omega
def Sg(s:BA)(i m:Nat)(hm:m=min (s.size-104* i) 104):(s.extract (104* i) s.size).extract 0 m=part s i:=by
 apply kZ;unfold part;rw[extract_toList,extract_toList,extract_toList,jn,yO,List.take_eq_take_iff,aT,fe];omega
def Sf(s:BA)(i m:Nat)(hm:m=min (s.size-104* i) 104):(s.extract (104* i) s.size).extract m (s.extract (104* i) s.size).size=s.extract (104* (i+1)) s.size:=by
 apply kZ;rw[extract_toList,extract_toList,extract_toList,tP];rw[bS (by rw[aT,aD,aT,fe];omega),bS (by rw[aT,fe];omega),bS (by rw[aT,fe];omega),kd];by_cases h:104<=s.size-104* i
 ·congr 1;omega
 ·rw[gL (by rw[fe];omega),gL (by rw[fe];omega)]
def pL(at' number:Int)(s:BA):aX->Nat->Nat->aX×Int
 |D,_,0=>(D,0)
 |D,i,n+1=>if(D.write (at'+i) (leaf number i (part s i))).2≠0 then D.write (at'+i) (leaf number i (part s i)) else pL at' number s (D.write (at'+i) (leaf number i (part s i))).1 (i+1) n
def lay(D:aX)(at' toX number:Int)(s:BA):aX×Int:=
 if number<1\/1152921504606846976<number\/at'<0\/(D.safe.length:Int)<toX\/toX<at' then(D,1)
 else if toX-at'<(gN s.size:Int) then(D,3) else pL at' number s D 0 (gN s.size)
def Co{at' number:Int}{s:BA}:∀(n i:Nat) {D:aX},D.Ok->D.later.length+n<1099511627776->(pL at' number s D i n).1.Ok/\(pL at' number s D i n).1.safe=D.safe/\(pL at' number s D i n).1.later.length<=D.later.length+n
 |0,i,D,h,hl=>⟨h,rfl,aH _⟩
 |n+1,i,D,h,hl=>by
  have h1:=sV D (at'+i) (leaf number i (part s i));have h2:=Lj h (at'+i) (leaf number i (part s i)) (by omega);unfold pL;split
  ·exact⟨h2,h1.1,by omega⟩
  ·have:=Co (at':=at') (number:=number) (s:=s) n (i+1) h2 (by omega);exact⟨this.1,this.2.1.trans h1.1,by omega⟩
def Kl{D:aX}{at' toX number:Int}{s:BA}(h:D.Ok)(hl:D.later.length+gN s.size<1099511627776):(lay D at' toX number s).1.Ok/\(lay D at' toX number s).1.safe=D.safe:=by
 unfold lay;split
 ·exact⟨h,rfl⟩
 ·split
  ·exact⟨h,rfl⟩
  ·have:=Co (at':=at') (number:=number) (s:=s) (gN s.size) 0 h hl;exact⟨this.1,this.2.1⟩
section
variable {W w:World} {L:LH} {k d:Nat} {D:aX}
def ui{at' toX number:Int}{s:BA}{b:Bool}{K:VK}(h:St W w L)(hk:L[k]?=some (gU d D))(iH:D.Ok)(hl:D.later.length+4097<1099511627776)(hs:s.size<=reachBytes)
 (hb:b=decide (number<1\/1152921504606846976<number\/at'<0\/(D.safe.length:Int)<toX\/toX<at'))
 (hK:∀w',St W w' (L.set k (gU d (lay D at' toX number s).1))->K (.i (lay D at' toX number s).2) w'):lW.j1 K s toX at' number (ah d) b w:=by
 have pE:s.size<=140737488351232:=hs;have xy:=iH.og;unfold lW.j1;unfold lay at hK;refine uf (λh1=>?_) (λh1=>?_)
 ·rw[hb] at h1;rw[ai (aR h1)] at hK;refine hK w ?_;rw[nT hk];exact h
 rw[hb] at h1;have AI:=bn h1;rw[ag AI] at hK;refine rM (by omega) ?_;simp only[nz,ae,af];have ew:aa.wrap (toX-at')=toX-at':=aW (by omega);rw[ew];refine gj (λh2=>?_) (λh2=>?_)
 ·rw[ai (by omega)] at hK;refine hK w ?_;rw[nT hk];exact h
 rw[ag (by omega)] at hK;have O7:gN s.size<=4096:=by omega
 refine⟨λus w'=>∃(j:Nat)(Dj:aX),us=[.s (s.extract (104* j) s.size),.i 0,.i j]/\j<=gN s.size/\Dj.Ok/\Dj.later.length<=D.later.length+j/\pL at' number s D 0 (gN s.size)=pL at' number s Dj j (gN s.size-j)/\St W w' (L.set k (gU d Dj)),
  λus _=>match us with|[_,_,.int _ j]=>gN s.size-j.toNat|_=>0,⟨0,D,?_,aE _,iH,by omega,rfl,by rw[nT hk];exact h⟩,?_⟩
 ·have:s.extract (104* 0) s.size=s:=by rw[Nat.mul_zero];exact ByteArray.extract_zero_size
  rw[this];rfl
 rintro s2 n5 n6 w2 ⟨j,Dj,he,hj,iH,hlj,abM,hs⟩;cases he
 have q8:(L.set k (gU d Dj))[k]?=some (gU d Dj):=kr hk;have AH:min2 ((s.extract (104* j) s.size).size:Int) 104=((min (s.size-104* j) 104:Nat):Int):=by
  rw[tP];unfold min2;split<;>omega
 have e5:=nK j;have ea:aa.wrap (at'+(j:Int))=at'+j:=aW (by omega);rw[AH,e5,ea,tP];have hex:∀X:WK,X w2->cu (0<=((min (s.size-104* j) 104:Nat):Int)/\((min (s.size-104* j) 104:Nat):Int)<=((min s.size s.size-104* j:Nat):Int)) X w2:=λX hX=>⟨by omega,hX⟩;have step:j<gN s.size->∀w,St W w (L.set k (gU d (Dj.write (at'+j) (leaf number j (part s j))).1))->(Dj.write (at'+j) (leaf number j (part s j))).2≠0->K (.i (Dj.write (at'+j) (leaf number j (part s j))).2) w:=λTO w hs kN=>by
  have e:pL at' number s Dj j (gN s.size-j)=Dj.write (at'+j) (leaf number j (part s j)):=by
   obtain⟨q,hq⟩:∃q,gN s.size-j=q+1:=⟨gN s.size-j-1,by omega⟩;rw[hq,pL,ai kN]
  rw[abM,e] at hK;exact hK w hs
 have fin:j<gN s.size->∀w,St W w (L.set k (gU d (Dj.write (at'+j) (leaf number j (part s j))).1))->(Dj.write (at'+j) (leaf number j (part s j))).2=0->
  ∃(j':Nat)(ZM:aX),[Value.string (s.extract (104* (j+1)) s.size),.i 0,.i ((j+1:Nat):Int)]=[.s (s.extract (104* j') s.size),.i 0,.i j']/\j'<=gN s.size/\ZM.Ok/\ZM.later.length<=D.later.length+j'/\pL at' number s D 0 (gN s.size)=pL at' number s ZM j' (gN s.size-j')/\St W w (L.set k (gU d ZM)):=λTO w hs hz=>by
  have hw:=sV Dj (at'+j) (leaf number j (part s j));refine⟨j+1,_,rfl,by omega,Lj iH _ _ (by omega),by omega,?_,hs⟩;rw[abM];obtain⟨q,hq⟩:∃q,gN s.size-j=q+1:=⟨gN s.size-j-1,by omega⟩;have YI:gN s.size-(j+1)=q:=by omega
  rw[hq,YI,pL,ag (by rw[hz];exact λhh=>hh rfl)]
 have ME:=sx s.size;have body:j<gN s.size->mR (s.extract (104* j) s.size) none (some ((min (s.size-104* j) 104:Nat):Int)) (λs3=>
  cu True (
  rP [.i number,.i j,.s s3] (x2 λv1 v2=>(xS λs4=>
  (xI .i64 λn7=>
  fC (ah d) (at'+j) s4 (xI .i64 λn8=>
  br (n8 !=0) (
  K (.i n8)) (
  mR (s.extract (104* j) s.size) (some ((min (s.size-104* j) 104:Nat):Int)) none (λs5=>λw3=>
   (∃(j':Nat)(ZM:aX),[Value.string s5,.i 0,.i ((j+1:Nat):Int)]=[.s (s.extract (104* j') s.size),.i 0,.i j']/\j'<=gN s.size/\ZM.Ok/\ZM.later.length<=D.later.length+j'/\pL at' number s D 0 (gN s.size)=pL at' number s ZM j' (gN s.size-j')/\St W w3 (L.set k (gU d ZM)))/\
   gN s.size-((j+1:Nat):Int).toNat<gN s.size-((j:Nat):Int).toNat)))) v2) v1))) w2:=λTO=>by
  unfold mR;dsimp only;refine⟨⟨by omega,by rw[tP];omega⟩,trivial,?_⟩;rw[ak,Sg s j _ rfl];refine P5 hs λw hs=>?_;simp only[nz,ae,af];refine EN hs q8 iH λw hs=>?_;rw[jM] at hs;simp only[nz,ae,af];refine vN (λkN=>?_) (λhz=>?_)
  ·exact step TO w hs kN
  ·refine⟨⟨by omega,by rw[tP];omega⟩,?_⟩;rw[Sf s j _ rfl];exact⟨fin TO w hs hz,by omega⟩
 refine JI (λhj0=>body (by omega)) (λhj0=>?_);refine gj (λRd=>?_) (λhle=>?_)
 ·have hc:=Px (n:=s.size) (j:=j) (by omega);exact body (by omega)
 ·have hc:=Px (n:=s.size) (j:=j) (by omega);have TO:j=gN s.size:=by omega
  have e:pL at' number s Dj j (gN s.size-j)=(Dj,0):=by rw[TO,mg];rfl
  rw[abM,e] at hK;exact hK _ hs
def Ho{at' toX number:Int}{s:BA}{K:VK}(h:St W w L)(hk:L[k]?=some (gU d D))(iH:D.Ok)(hl:D.later.length+4097<1099511627776)(hs:s.size<=reachBytes)
 (hK:∀w',St W w' (L.set k (gU d (lay D at' toX number s).1))->K (.i (lay D at' toX number s).2) w'):lW (ah d) at' toX number s K w:=by
 unfold lW;refine gj (λh1=>?_) (λh1=>?_)
 ·exact ui h hk iH hl hs (by symm;rw[decide_eq_true_eq];exact .inl h1) hK
 refine gj (λh2=>?_) (λh2=>?_)
 ·exact ui h hk iH hl hs (by symm;rw[decide_eq_true_eq];exact .inr (.inl h2)) hK
 refine gj (λh3=>?_) (λh3=>?_)
 ·exact ui h hk iH hl hs (by symm;rw[decide_eq_true_eq];exact .inr (.inr (.inl h3))) hK
 refine oe h hk ?_;simp only[nz,ae,af];refine gj (λh4=>?_) (λh4=>?_)
 ·exact ui h hk iH hl hs (by symm;rw[decide_eq_true_eq];exact .inr (.inr (.inr (.inl h4)))) hK
 ·refine ui h hk iH hl hs ?_ hK;rw[decide_eq_decide];omega
end
section
variable {W w:World} {L:LH} {k:Nat}
def Ee(w:World)(a:Addr)(n j:Nat)(hj:j≠a.block):(w.freeze a n).heap[j]?=w.heap[j]?:=by
 unfold World.freeze;split
 ·rfl
 ·simp only[Array.getElem?_modify];rw[ag (λh=>hj h.symm)]
def abd{s:BA}{K:Nat->Nat->WK}(h:St W w L)(hK:∀r c w',St W w' (own (ah r) s.size c 1 (s.data.toList.map vZ)::L)->K r c w'):s2b s K w:=by
 intro c t hc;have h1:=h.drew.new ((s.data.toList.map vZ)++bu (c-s.size) (.int .u8 0)) t;have pE:s.data.toList.length=s.size:=rfl;have abZ:((strCells s).toArray++jX (c-s.size) (.int .u8 0):Array Value)=⟨(s.data.toList.map vZ)++bu (c-s.size) (.int .u8 0)⟩:=by
  apply va;rw[Array.toList_append,Array.toList_replicate]
  rfl
 rw[abZ];generalize N2:(s.data.toList.map vZ)++bu (c-s.size) (Value.int .u8 0)=cs at *;have hlen:cs.length=c:=by rw[<-N2];simp;omega
 have hhp:(w.drew.alloc (.cells ⟨cs⟩ t)).heap[w.heap.size]?=some (.cells ⟨cs⟩ t):=by
  show(w.heap.push (.cells ⟨cs⟩ t))[w.heap.size]?=_;rw[Array.getElem?_push_size]
 have D7:view ((w.drew.alloc (.cells ⟨cs⟩ t)).freeze ⟨w.heap.size,c,none⟩ 1) w.heap.size=some (.cells cs):=by
  unfold view World.freeze;rw[ag (by decide)];simp only[Array.getElem?_modify,hhp];simp[hlen]
 have hb:=h1.1;have h2:=h1.bC (k:=0) rfl (w':=(w.drew.alloc (.cells ⟨cs⟩ t)).freeze ⟨w.heap.size,c,none⟩ 1) ?_ D7 (λj hj _=>Ee _ _ _ _ hj)
 ·refine hK _ _ _ ?_;refine St.mono (A:=pt w.heap.size cs) h2 λg hp=>⟨by rw[bU];omega,.inr ⟨_,bu (c-s.size) (.int .u8 0),rfl,hc,by simp,?_⟩⟩;rw[N2];exact hp
 ·refine⟨?_,?_,?_,?_,λj hj=>?_⟩
  ·unfold World.freeze;rw[ag (by decide)];exact hb.os
  ·unfold World.freeze;rw[ag (by decide)];exact hb.tape
  ·unfold World.freeze;rw[ag (by decide)];exact hb.output
  ·unfold World.freeze;rw[ag (by decide)];simp only[Array.size_modify];exact hb.size
  ·rw[Ee _ _ _ _ (by have:=h.1.size;simp only;omega)];exact hb.block j hj
def EC(r:Nat)(s:BA)(t:Bool):HP:=pt r [.s s,.b t]
def sP(s:BA)(t:Bool)(n:Int):Bool:=t||decide (n<0\/(s.size:Int)<n)
def zB(s:BA)(t:Bool)(n:Int):BA:=if sP s t n then .empty else s.extract 0 n.toNat
def ED(s:BA)(t:Bool)(n:Int):BA:=if sP s t n then s else s.extract n.toNat s.size
def sY{s:BA}{K:VK}(h:St W w L)(hK:∀r w',St W w' (EC r s false::L)->K (.p (ah r)) w'):pQ s K w:=by
 unfold pQ;exact⟨⟨rfl,trivial⟩,jq h λr w hs=>hK r w hs⟩
def Hn{r:Nat}{s:BA}{t:Bool}{n:Int}{K:VK}(h:St W w L)(hk:L[k]?=some (EC r s t))(hK:∀w',St W w' (L.set k (EC r (ED s t n) (sP s t n)))->K (.s (zB s t n)) w'):fB (ah r) n K w:=by
 unfold fB;unfold EC at hk;simp only[nz,ae,af];refine db hk (h:=h) rfl ?_;simp only[nz,ae,af];have bad:sP s t n=true->∀w',St W w' (L.set k (pt r [.s s,.b true]))->K (.s .empty) w':=λhb w' hs=>by
  have:=hK w';unfold ED zB at this;rw[ai hb,ai hb,hb] at this;exact this hs
 refine uf (λht=>?_) (λht=>?_)
 ·refine oZ h hk (aK rfl) rfl λw hs=>?_;refine db hs (kr hk) rfl ?_;simp only[nz,ae,af] at hs⊢;exact bad (by simp[sP,ht]) w hs
 refine gj (λhn=>?_) (λhn=>?_)
 ·refine oZ h hk (aK rfl) rfl λw hs=>?_;refine db hs (kr hk) rfl ?_;simp only[nz,ae,af] at hs⊢;exact bad (by simp[sP,hn]) w hs
 refine db h hk rfl ?_;simp only[nz,ae,af];refine oZ h hk (aK rfl) rfl λw hs=>?_;refine db hs (kr hk) rfl ?_;simp only[nz,ae,af] at hs⊢;refine gj (λRd=>?_) (λRd=>?_)
 ·have:decide (n>(s.size:Int))=true:=av Rd;rw[this] at hs;exact bad (by simp[sP];omega) w hs
 ·have e:decide (n>(s.size:Int))=false:=ar Rd;rw[e] at hs;have hb:sP s t n=false:=by
   unfold sP;rw[ht,ar (by omega)];rfl
  have:=hK;unfold ED zB at this;rw[ag (by rw[hb];exact cN),ag (by rw[hb];exact cN),hb] at this;unfold fB.j1;simp only[nz,ae,af];refine db hs (kr hk) rfl ?_;unfold mR;simp only[nz,ae,af];refine⟨by omega,?_⟩;refine db hs (kr hk) rfl ?_;simp only[nz,ae,af];refine⟨by omega,?_⟩;refine oZ hs (kr hk) (aK rfl) rfl λw hs=>?_;rw[jM] at hs;exact this w hs
def om:List UInt8->Nat
 |[]=>0
 |c::r=>c.toNat+256* om r
def rX:∀l:List UInt8,om l<256^l.length
 |[]=>by simp[om]
 |c::r=>by
  have:=rX r;have hc:=c.toNat_lt;simp only[om,bE,AB];omega
def tL:∀(l:List UInt8)(c:UInt8),om (l++[c])=om l+c.toNat* 256^l.length
 |[],c=>by simp[om]
 |d::r,c=>by
  simp only[lV,om,tL r c,bE,AB];rw[Nat.mul_add,Nat.add_assoc]
  congr 2
  rw[wN 256,Nat.mul_assoc]
def Ci(z:Int):BitVec.ofInt 64 (aa.wrap z)=BitVec.ofInt 64 z:=by
 apply BitVec.eq_of_toNat_eq;simp only[BitVec.toNat_ofInt];simp[IntKind.wrap,IntKind.bits,IntKind.signed];split<;>omega
def Yf{A j:Nat}{c:UInt8}(hj:j<8)(hA:A<256^j):dm .i64 .or (aa.wrap A) (shl .i64 (aa.wrap (c.toNat:Int)) (8* (j:Int)))=aa.wrap ((A+c.toNat* 256^j:Nat):Int):=by
 have hc:=c.toNat_lt;have SQ:256^j=2^(8* j):=by rw[show(256:Nat)=2^8 from rfl,<-Nat.pow_mul]
 have afo:c.toNat* 2^(8* j)<2^64:=by
  have h1:c.toNat* 2^(8* j)<2^8* 2^(8* j):=Nat.mul_lt_mul_of_pos_right (by exact hc) (Nat.pow_pos (by decide));rw[<-Nat.pow_add] at h1;exact Nat.lt_of_lt_of_le h1 (gS (by decide) (by omega))
 have aiX:A<2^64:=by
  rw[SQ] at hA;exact Nat.lt_of_lt_of_le hA (gS (by decide) (by omega))
 have ew:aa.wrap (c.toNat:Int)=(c.toNat:Int):=aW (by omega);have esh:shl .i64 (c.toNat:Int) (8* (j:Int))=aa.wrap ((c.toNat* 2^(8* j):Nat):Int):=by
  unfold shl;have h1:(8* (j:Int)).toNat=8* j:=by omega
  have h2:min (8* j) aa.bits=8* j:=by show min (8* j) 64=_;omega
  rw[h1,h2]
  congr 1
 rw[ew,esh];show aa.wrap (((BitVec.ofInt 64 (aa.wrap A)|||BitVec.ofInt 64 (aa.wrap ((c.toNat* 2^(8* j):Nat):Int))).toNat:Nat):Int)=_;rw[Ci,Ci,BitVec.toNat_or];have t1:(BitVec.ofInt 64 (A:Int)).toNat=A:=by simp only[BitVec.toNat_ofInt];omega
 have t2:(BitVec.ofInt 64 ((c.toNat* 2^(8* j):Nat):Int)).toNat=c.toNat* 2^(8* j):=by
  generalize c.toNat* 2^(8* j)=z at *;simp only[BitVec.toNat_ofInt];omega
 rw[t1,t2,SQ]
 congr 2
 rw[Nat.or_comm,<-Nat.shiftLeft_eq,<-Nat.shiftLeft_add_eq_or_of_lt (by rw[<-SQ];exact hA),Nat.add_comm]
def nE(l:List UInt8):Int:=aa.wrap (om l:Int)
def CJ{r:Nat}{s:BA}{t:Bool}{n:Int}{K:VK}(h:St W w L)(hk:L[k]?=some (EC r s t))
 (hK:∀w',St W w' (L.set k (EC r (ED s t (min2 (max2 n 1) 8)) (sP s t (min2 (max2 n 1) 8))))->K (.i (nE (zB s t (min2 (max2 n 1) 8)).data.toList)) w'):aN (ah r) n K w:=by
 have hm:1<=min2 (max2 n 1) 8/\min2 (max2 n 1) 8<=8:=by unfold min2 max2;split<;>split<;>omega
 unfold aN;generalize min2 (max2 n 1) 8=m at *;refine Hn h hk λw hs=>?_;simp only[nz,ae,af];have hv8:(zB s t m).size<=8:=by
  unfold zB;split
  ·exact aE _
  ·rw[tP];omega
 have hK':=hK;generalize zB s t m=v at *;refine abd hs λq c w hs=>?_;have hlen:v.data.toList.length=v.size:=rfl;refine⟨λus w'=>∃j:Nat,us=[.i 0,.i (nE (v.data.toList.take j)),.l (ah q) v.size c,.i v.size,.i j]/\j<=v.size/\isW w w',
  λus _=>match us with|[_,_,_,_,.int _ j]=>v.size-j.toNat|_=>0,⟨0,rfl,aE _,rfl⟩,?_⟩
 rintro n2 n3 uK s8 uU n4 n5 w2 ⟨j,he,hj,hw⟩;obtain rfl:w2=w:=hw;cases he
 generalize hb:decide ((j:Int)<(v.size:Int))=b;cases b
 ·have jk:=bn hb;rw[eK];rw[bS (by omega)];exact hK' _ hs.drop
 ·have bX:=aR hb;rw[lz];have Vy:j<v.data.toList.length:=by omega
  refine ss (k:=0) hs rfl (by omega) λr' hr=>?_;cases hr
  refine Bj (k:=0) hs rfl (v:=vZ (v.data.toList[j])) (by rw[ak,mz,eo,aj Vy];rfl) ?_;unfold vZ;simp only[nz,ae,af];have e8:aa.wrap (8* (j:Int))=8* (j:Int):=aW (by omega);have e5:=nK j;rw[e8,e5];refine⟨by omega,?_⟩;have Q9:=rX (v.data.toList.take j);have EF:(v.data.toList.take j).length=j:=by rw[aD];omega
  rw[EF] at Q9;have e6:dm .i64 .or (nE (v.data.toList.take j)) (shl .i64 (aa.wrap ((v.data.toList[j]).toNat:Int)) (8* (j:Int)))=nE (v.data.toList.take (j+1)):=by
   unfold nE;rw[Yf (by omega) Q9,qL Vy,tL,EF]
  rw[e6];exact⟨⟨j+1,rfl,by omega,rfl⟩,by omega⟩
def numOf(s:BA):Int:=if 1<=nE s.data.toList/\nE s.data.toList<=1152921504606846976 then nE s.data.toList else 0
def sL{n:Int}(h:0<=n/\n<18446744073709551616):IntKind.u64.wrap n=n:=by
 simp[IntKind.wrap,IntKind.bits,IntKind.signed];omega
def Dp(s:BA):BA:=s.extract 0 8
def CT(s:BA):BA:=s.extract (s.size-8) s.size
def Td{s:BA}{K:VK}(h:St W w L)(hs8:8<=s.size)(pE:s.size<1099511627776)(hK:∀w',St W w' L->K (.agg ⟨[.i (numOf (Dp s)),.i (numOf (CT s))]⟩) w'):yf s K w:=by
 unfold yf;refine jq h λr1 w hs=>?_;refine jq hs λr2 w hs=>?_;refine mF hs λw hs=>?_;unfold mR;simp only[nz,ae,af];have e1:aa.wrap ((s.size:Int) -8)=(s.size:Int) -8:=aW (by omega);rw[e1];refine⟨by omega,by omega,?_⟩;have eh:s.extract 0 (8:Int).toNat=Dp s:=rfl;have et:s.extract ((s.size:Int) -8).toNat s.size=CT s:=by unfold CT;congr 1;omega
 rw[eh,et];have h8:(Dp s).size=8:=by unfold Dp;rw[tP];omega
 have t8:(CT s).size=8:=by unfold CT;rw[tP];omega
 refine⟨λus w'=>∃j:Nat,us=[.p (some ⟨r1,0,none⟩),.p (some ⟨r2,0,none⟩),.agg ⟨[.s (Dp s),.s (CT s)]⟩,.i j]/\j<=2/\
  St W w' (pt r2 [.i (if 0<j then numOf (Dp s) else 0),.i (if 1<j then numOf (CT s) else 0)]::pt r1 [.i 0,.i 0]::L),
  λus _=>match us with|[_,_,_,.int _ j]=>2-j.toNat|_=>0,⟨0,rfl,aE _,hs⟩,?_⟩
 rintro a1 a2 CR n1 w2 ⟨j,he,hj,hs⟩;cases he
 refine uf (λh0=>?_) (λh0=>?_)
 ·have Ks:j<2:=by have:=aR h0;omega
  have e5:=nK j;rw[e5];obtain⟨p,hp,hp8⟩:∃p,([Value.string (Dp s),.s (CT s)]:LV)[(j:Int).toNat]?=some (.s p)/\p.size=8/\(j=0->p=Dp s)/\(j=1->p=CT s):=by
   match j,Ks with
   |0,_=>exact⟨Dp s,rfl,h8,λ_=>rfl,λhh=>by omega⟩
   |1,_=>exact⟨CT s,rfl,t8,λhh=>by omega,λ_=>rfl⟩
  refine⟨.s p,⟨by omega,by omega,hp⟩,?_⟩;simp only[nz,ae,af];refine sY hs λq w hs=>?_;simp only[nz,ae,af];refine CJ (k:=0) hs rfl λw hs=>?_;have em:min2 (max2 8 1) 8=8:=rfl;have ev:zB p false (min2 (max2 8 1) 8)=p:=by
   rw[em];unfold zB;have:sP p false 8=false:=by unfold sP;rw[hp8.1];rfl
   rw[ag (by rw[this];exact cN)];have:(8:Int).toNat=p.size:=by rw[hp8.1];rfl
   rw[this];exact ByteArray.extract_zero_size
  rw[ev];simp only[nz,ae,af] at hs⊢;have hs:=hs.drop;have fin:∀x w',x=numOf p->St W w' (pt r2 ([.i (if 0<j then numOf (Dp s) else 0),.i (if 1<j then numOf (CT s) else 0)].set j (.i x))::pt r1 [.i 0,.i 0]::L)->
     St W w' (pt r2 [.i (if 0<j+1 then numOf (Dp s) else 0),.i (if 1<j+1 then numOf (CT s) else 0)]::pt r1 [.i 0,.i 0]::L):=λx w' hx hs=>by
   subst hx
   match j,Ks,hp8,hs with
   |0,_,hp8,hs=>rw[hp8.2.1 rfl] at hs;simpa using hs
   |1,_,hp8,hs=>rw[hp8.2.2 rfl] at hs;simpa using hs
  have zero:numOf p=0->∀w',St W w' (pt r2 [.i (if 0<j then numOf (Dp s) else 0),.i (if 1<j then numOf (CT s) else 0)]::pt r1 [.i 0,.i 0]::L)->
   St W w' (pt r2 [.i (if 0<j+1 then numOf (Dp s) else 0),.i (if 1<j+1 then numOf (CT s) else 0)]::pt r1 [.i 0,.i 0]::L):=λhz w' hs=>by
   refine fin 0 w' hz.symm ?_
   match j,Ks,hs with
   |0,_,hs=>simpa using hs
   |1,_,hs=>simpa using hs
  refine gj (λh1=>?_) (λh1=>?_)
  ·refine gj (λh2=>?_) (λh2=>?_)
   ·refine⟨by omega,?_⟩;refine oZ (k:=0) hs rfl (by simp;omega) rfl λw hs=>?_;simp only[nz,ae,af] at hs;rw[ak,mz] at hs;refine⟨⟨j+1,rfl,by omega,fin _ w ?_ hs⟩,by omega⟩;unfold numOf;rw[ai (by omega)]
   ·exact⟨⟨j+1,rfl,by omega,zero (by unfold numOf;rw[ag (by omega)]) w hs⟩,by omega⟩
  ·exact⟨⟨j+1,rfl,by omega,zero (by unfold numOf;rw[ag (by omega)]) w hs⟩,by omega⟩
 ·have Ks:j=2:=by have:=bn h0;omega
  subst Ks;have hs:St W w2 (pt r2 [.i (numOf (Dp s)),.i (numOf (CT s))]::pt r1 [.i 0,.i 0]::L):=hs;refine kx (k:=0) (xs:=[.i (numOf (Dp s)),.i (numOf (CT s))]) hs rfl rfl (λi v hi=>by rw[aC];exact hi) ?_;refine⟨rfl,ko (k:=1) hs rfl (aK rfl) (by simp[Value.oneCell']) λw hs=>?_⟩;rw[ja (by simp)] at hs;simp only[nz,ae,af] at hs;refine kx (k:=1) (xs:=[.i (numOf (Dp s)),.i (numOf (CT s))]) hs rfl rfl (λi v hi=>by rw[aC];exact hi) ?_;exact hK w hs.drop.drop
def fr(D:aX):Nat->Int
 |0=>0
 |j+1=>max2 (max2 (fr D j) (numOf (Dp (D.read (j:Int)).1))) (numOf (CT (D.read (j:Int)).1))
def Af{D:aX}(h:D.Ok){i:Int}(hi:D.is i):(D.read i).1.size=128:=by
 unfold aX.read;rw[ai hi];unfold aX.now;have bX:i.toNat<D.safe.length:=by have:=hi.1;have:=hi.2;omega
 cases hl:aX.last D.later i with
 |none=>
  rw[gV,ka,aj bX,dE];exact h.safe _ (bP bX)
 |some x=>
  unfold aX.last at hl;rw[Option.map_eq_some_iff] at hl;obtain⟨p,hp,rfl⟩:=hl;exact(h.later p (List.mem_reverse.1 (nA hp))).1
def Io{d:Nat}{D:aX}{K:VK}(h:St W w L)(hk:L[k]?=some (gU d D))(iH:D.Ok)(hK:∀w',St W w' L->K (.i (fr D D.safe.length)) w'):oJ (ah d) K w:=by
 have xy:=iH.og;unfold oJ;refine oe h hk ?_;simp only[nz,ae,af];refine⟨λus w'=>∃j:Nat,us=[.i 0,.i (fr D j),.i D.safe.length,.i j]/\j<=D.safe.length/\St W w' L,
  λus _=>match us with|[_,_,_,.int _ j]=>D.safe.length-j.toNat|_=>0,⟨0,rfl,aE _,h⟩,?_⟩
 rintro n2 n3 n4 n5 w2 ⟨j,he,hj,hs⟩;cases he
 refine gj (λbX=>?_) (λjk=>?_)
 ·have hi:D.is (j:Int):=⟨by omega,bX⟩;have pE:=Af iH hi;have e5:=nK j;refine sG hs hk iH ?_;simp only[nz,ae,af];refine Td hs (by omega) (by omega) λw hs=>?_;simp only[yQ,bE,cO,aC,ae,true_and];refine jq hs λr w hs=>?_;refine⟨trivial,ko (k:=0) hs rfl (aK rfl) (by simp[Value.oneCell']) λw hs=>?_⟩;rw[ja (by simp)] at hs;simp only[nz,ae,af] at hs⊢;refine⟨by decide,?_⟩;refine db (k:=0) hs rfl rfl ?_;simp only[nz,ae,af];refine⟨by decide,?_⟩;refine db (k:=0) hs rfl rfl ?_;simp only[nz,ae,af];rw[e5];exact⟨⟨j+1,rfl,by omega,hs.drop⟩,by omega⟩
 ·have:j=D.safe.length:=by omega
  subst this;exact hK _ hs
end
def pc(l:List UInt8)(n:Nat):(bs l).extract 0 n=bs (l.take n):=by
 apply kZ;rw[extract_toList,jn,Nat.sub_zero];rfl
def o9(l:List UInt8)(n:Nat):(bs l).extract n (bs l).size=bs (l.drop n):=by
 apply kZ;rw[extract_toList,cj];show(l.drop n).take (l.length-n)=l.drop n;rw[bS (by rw[aT];omega)]
def l7(a b:List UInt8):bs a++bs b=bs (a++b):=by
 apply kZ;rw[ByteArray.data_append,Array.toList_append];rfl
def BC{a b:List UInt8}:bs a=bs b↔a=b:=by
 constructor
 ·intro h;have:=congrArg (λx=>x.data.toList) h;exact this
 ·intro h;rw[h]
def M7:ByteArray.empty=bs []:=rfl
section
variable {W w:World} {L:LH} {k:Nat}
def FM{l:List UInt8}{K:VK}(hl:l.length<1099511627776)(hK:∀m,m<=l.length->(∀j(h:j<l.length),m<=j->l[j]=0)->(m=0\/∃h:m-1<l.length,l[m-1]≠0)->K (.s (bs (l.take m))) w):nt (bs l) 0 K w:=by
 unfold nt;refine⟨λus w'=>∃m:Nat,us=[.s (bs (l.take m)),.s .empty]/\m<=l.length/\(∀j(h:j<l.length),m<=j->l[j]=0)/\isW w w',λus _=>match us with|[.string s,_]=>s.size|_=>0,
  ⟨l.length,by rw[aS],aH _,λj h hj=>by omega,rfl⟩,?_⟩
 rintro s2 s3 w2 ⟨m,he,hm,hz,hw⟩;obtain rfl:w2=w:=hw;cases he
 have pE:(bs (l.take m)).size=m:=by rw[cj,aD];omega
 rw[pE];refine gj (λME=>?_) (λadD=>?_)
 ·have hm1:m-1<l.length:=by omega
  have ew:aa.wrap ((m:Int) -1)=((m-1:Nat):Int):=by rw[aW (by omega)];omega
  rw[ew];refine⟨l[m-1],⟨by omega,?_⟩,?_⟩
  ·rw[ak];show(l.take m)[m-1]?=_;rw[List.getElem?_take_of_lt (by omega),aj hm1]
  refine JI (λh0=>?_) (λh0=>?_)
  ·have hc:l[m-1]=0:=by
    apply UInt8.toNat_inj.1;show _=0;omega
   unfold mR;refine⟨⟨by omega,by rw[pE];omega⟩,?_⟩;rw[ak,pc,yO,show min (m-1) m=m-1 from by omega];refine⟨⟨m-1,rfl,by omega,λj hj hmj=>?_,rfl⟩,?_⟩
   ·by_cases hjm:m<=j
    ·exact hz j hj hjm
    ·have:j=m-1:=by omega
     subst this;exact hc
   ·dsimp only;rw[cj,aD,cj,aD];omega
  ·exact hK m hm hz (.inr ⟨hm1,λhc=>h0 (by rw[hc];rfl)⟩)
 ·exact hK m hm hz (.inl (by omega))
def HK{l:List UInt8}{K:VK}(hl:l.length<1099511627776)(hK:∀m,m<=l.length->(∀j(h:j<l.length),j<m->l[j]=0)->(m=l.length\/∃h:m<l.length,l[m]≠0)->K (.s (bs (l.drop m))) w):nS (bs l) 0 K w:=by
 unfold nS;refine⟨λus w'=>∃m:Nat,us=[.s (bs (l.drop m)),.s .empty]/\m<=l.length/\(∀j(h:j<l.length),j<m->l[j]=0)/\isW w w',λus _=>match us with|[.string s,_]=>s.size|_=>0,
  ⟨0,rfl,aE _,λj h hj=>by omega,rfl⟩,?_⟩
 rintro s2 s3 w2 ⟨m,he,hm,hz,hw⟩;obtain rfl:w2=w:=hw;cases he
 have pE:(bs (l.drop m)).size=l.length-m:=by rw[cj,aT]
 refine gj (λME=>?_) (λadD=>?_)
 ·rw[pE] at ME;have hm1:m<l.length:=by omega
  refine⟨l[m],⟨by omega,?_⟩,?_⟩
  ·show(l.drop m)[0]?=_;rw[sJ,eL,aj hm1]
  refine JI (λh0=>?_) (λh0=>?_)
  ·have hc:l[m]=0:=by
    apply UInt8.toNat_inj.1;show _=0;omega
   unfold mR;refine⟨⟨by omega,by rw[pE];omega⟩,?_⟩;rw[show(1:Int).toNat=1 from rfl,o9,kd];refine⟨⟨m+1,rfl,by omega,λj hj hmj=>?_,rfl⟩,?_⟩
   ·by_cases hjm:j<m
    ·exact hz j hj hjm
    ·have:j=m:=by omega
     subst this;exact hc
   ·dsimp only;rw[cj,aT,cj,aT];omega
  ·exact hK m hm hz (.inr ⟨hm1,λhc=>h0 (by rw[hc];rfl)⟩)
 ·rw[pE] at adD;exact hK m hm hz (.inl (by omega))
def Tx{l:List UInt8}{K:VK}(h:St W w L)(hl:l.length<1099511627776)(hK:∀r w',(r=.empty↔l=bu l.length 0)->St W w' L->K (.s r) w'):ix (bs l) ⟨#[0]⟩ K w:=by
 unfold ix;have e0:pG (⟨#[0]⟩:BA) (⟨#[]⟩:BA)=false:=by rw[s7];exact ar (λh=>aQ (congrArg ByteArray.size h) (by decide))
 rw[e0,s7];refine gj (λhem=>?_) (λkN=>?_)
 ·unfold ix.j1;rw[lz];have:l=[]:=BC.1 hem;subst this;exact hK _ w (by simp[M7]) h
 ·unfold ix.j1;rw[eK];have e1:((((⟨#[0]⟩:BA).size:Nat):Int)==1)=true:=by decide
  rw[e1,lz];refine⟨0,⟨by decide,rfl⟩,?_⟩;have e2:decide (((0:UInt8).toNat:Int)<128)=true:=by decide
  dsimp only;rw[e2];unfold ix.j3;rw[lz];refine mF h λw h=>?_;refine⟨0,⟨by decide,rfl⟩,?_⟩;refine⟨0,⟨by decide,rfl⟩,?_⟩;refine FM hl λm hm hz Jl=>?_;simp only[nz,ae,af];refine HK (by rw[aD];omega) λq hq hz2 zN=>?_;simp only[nz,ae,af];refine hK _ w ?_ h;have bX:(l.take m).length=m:=by rw[aD];omega
  rw[M7,BC]
  constructor
  ·intro hd;have hqm:q=m:=by have:=congrArg List.length hd;rw[aT,cO] at this;omega
   subst hqm;rcases Jl with h0|⟨h1,h2⟩
   ·subst h0;exact List.eq_replicate_iff.2 ⟨rfl,λx hx=>by
     obtain⟨j,hj,rfl⟩:=List.mem_iff_getElem.1 hx
     exact hz j hj (aE _)⟩
   ·exfalso;have hq0:0<q:=by
     rcases Nat.eq_zero_or_pos q with h0|h0
     ·subst h0;exact aQ (hz _ h1 (by omega)) h2
     ·exact h0
    have:=hz2 (q-1) (by omega) (by omega);rw[List.getElem_take] at this;exact h2 this
  ·intro fG;have hz0:∀j(hj:j<l.length),l[j]=0:=λj hj=>(List.eq_replicate_iff.1 fG).2 _ (bP hj);rcases zN with h0|⟨h1,h2⟩
   ·rw[gL (by omega)]
   ·exfalso;rw[List.getElem_take] at h2;exact h2 (hz0 q _)
def ur(l:List UInt8):Bool:=decide (4<=l.length)&&(wW (tO 0 (l.take (l.length-4)))==l.drop (l.length-4))
def PY{l:List UInt8}{K:VK}(h:St W w L)(hl:l.length<1099511627776)(hK:∀w',St W w' L->K (.b (ur l)) w'):uP (bs l) K w:=by
 unfold uP;refine mF h λw h=>?_;have ew:aa.wrap (((bs l).size:Int) -4)=(l.length:Int) -4:=by rw[cj,aW (by omega)]
 rw[ew];refine gj (λh0=>?_) (λh0=>?_)
 ·have e1:((l.length:Int) -4).toNat=l.length-4:=by omega
  unfold mR;dsimp only;refine⟨⟨h0,by rw[cj];omega⟩,?_⟩;refine⟨⟨h0,by rw[cj];omega⟩,?_⟩;rw[e1,pc,o9];refine NG (by rw[cj,aD];omega) ?_;simp only[nz,ae,af];refine Aa h (DJ _) λw h=>?_;simp only[nz,ae,af];have e2:pG (bs (wW (tO 0 (bs (l.take (l.length-4))).data.toList))) (bs (l.drop (l.length-4)))=ur l:=by
   rw[s7];unfold ur;rw[av (by omega:4<=l.length),eG];show decide (bs (wW (tO 0 (l.take (l.length-4))))=bs (l.drop (l.length-4)))=_;by_cases hh:wW (tO 0 (l.take (l.length-4)))=l.drop (l.length-4)
   ·rw[av (BC.2 hh),hh,beq_self_eq_true]
   ·rw[ar (λh=>hh (BC.1 h))]
    symm;simp[hh]
  rw[e2];exact hK w h
 ·have e2:ur l=false:=by unfold ur;rw[ar (by omega: ¬4<=l.length)];rfl
  rw[<-e2];exact hK w h
def K5{r:Nat}{l:List UInt8}{n:Nat}{K:VK}(h:St W w L)(hk:L[k]?=some (EC r (bs l) false))(h1:1<=n)(h8:n<=8)(hn:n<=l.length)
 (hK:∀w',St W w' (L.set k (EC r (bs (l.drop n)) false))->K (.i (nE (l.take n))) w'):aN (ah r) n K w:=by
 refine CJ h hk ?_;have em:min2 (max2 (n:Int) 1) 8=n:=by unfold min2 max2;split<;>split<;>omega
 rw[em];have et:sP (bs l) false n=false:=by unfold sP;rw[cj,ar (by omega)];rfl
 unfold ED zB;rw[et,ak,pc,o9];exact hK
def PS{r:Nat}{l:List UInt8}{n:Nat}{K:VK}(h:St W w L)(hk:L[k]?=some (EC r (bs l) false))(hn:n<=l.length)
 (hK:∀w',St W w' (L.set k (EC r (bs (l.drop n)) false))->K (.s (bs (l.take n))) w'):fB (ah r) n K w:=by
 refine Hn h hk ?_;have et:sP (bs l) false n=false:=by unfold sP;rw[cj,ar (by omega)];rfl
 unfold ED zB;rw[et,ak,pc,o9];exact hK
end
def ou{l:List UInt8}(h:l.length<=7):nE l=(om l:Int):=by
 have h1:=rX l;have h2:256^l.length<=256^7:=gS (by decide) h;have h3:(256:Nat)^7=72057594037927936:=rfl;unfold nE;rw[aW (by omega)]
def sN(l:List UInt8):Int:=nE (l.take 8)
def sI(l:List UInt8):Int:=nE ((l.drop 8).take 2)
def sM(l:List UInt8):Nat:=om (((l.drop 8).drop 2).take 2)
def nd(l:List UInt8):List UInt8:=((l.drop 8).drop 2).drop 2
def sD(l:List UInt8):List UInt8:=(nd l).take (sM l)
def sZ(l:List UInt8):List UInt8:=((nd l).drop (sM l)).take (104-sM l)
def DQ(l:List UInt8):Int:=nE (((((nd l).drop (sM l)).drop (104-sM l)).drop 4).take 8)
def mw(l:List UInt8):Option (Int×Int×BA):=
 if ¬l.length=128 then none
 else if ur (l.take 120)=false then none
 else if 104<sM l then none
 else if ¬DQ l=sN l then none
 else if ¬sZ l=bu (sZ l).length 0 then none
 else if ¬ft (sN l) (sI l) (bs (sD l)) then none
 else some (sN l,sI l,bs (sD l))
def uL:Option (Int×Int×BA)->Value
 |none=>.tuple ⟨[.agg ⟨[.i 0,.i 0,.s .empty]⟩,.b false]⟩
 |some (n,i,d)=>.tuple ⟨[.agg ⟨[.i n,.i i,.s d]⟩,.b true]⟩
section
variable {W w:World} {L:LH}
def DE{l:List UInt8}{K:VK}(h:St W w L)(hl:l.length<1099511627776)(hK:∀w',St W w' L->K (uL (mw l)) w'):mm (bs l) K w:=by
 unfold mw at hK;unfold mm;refine jq h λr1 w hs=>?_;rw[cj];have aau:(∀w',St W w' L->K (uL none) w')->∀w,St W w (pt r1 [.i 0,.i 0,.s .empty]::L)->mm.j1 K r1 (bs l) true w:=λhK w hs=>by
  unfold mm.j1;simp only[nz,ae,af];refine ko (k:=0) hs rfl (aK rfl) (by simp[Value.oneCell']) λw hs=>?_;rw[ja (by simp)] at hs;refine kx (k:=0) (xs:=[.i 0,.i 0,.s .empty]) hs rfl rfl (λj v hj=>by rw[aC];exact hj) ?_;exact hK w hs.drop
 refine vN (λkN=>?_) (λhe=>?_)
 ·rw[ai (by omega)] at hK;exact aau hK w hs
 have Dq:l.length=128:=by omega
 rw[ag (by omega)] at hK;unfold mR;dsimp only;refine⟨⟨by omega,by rw[cj];omega⟩,?_⟩;rw[show(120:Int).toNat=120 from rfl,pc];refine PY hs (by rw[aD];omega) λw hs=>?_;simp only[nz,ae,af];cases hh:ur (l.take 120) with
 |false=>
  rw[ai hh] at hK;exact aau hK w hs
 |true=>
 rw[ag (by rw[hh];exact rN)] at hK;unfold mm.j1;simp only[nz,ae,af];refine sY hs λq w hs=>?_;simp only[nz,ae,af];refine K5 (k:=0) (n:=8) hs rfl (by decide) (by decide) (by omega) λw hs=>?_;simp only[nz,ae,af] at hs⊢;have l8:(l.drop 8).length=120:=by rw[aT];omega
 refine K5 (k:=0) (n:=2) hs rfl (by decide) (by decide) (by omega) λw hs=>?_;simp only[nz,ae,af] at hs⊢;have l10:((l.drop 8).drop 2).length=118:=by rw[aT];omega
 refine jq hs λr2 w hs=>?_;refine⟨by simp,?_⟩;refine ko (k:=0) hs rfl (aK rfl) (by simp[Value.oneCell']) λw hs=>?_;rw[ja (by simp)] at hs;simp only[nz,ae,af] at hs;refine K5 (k:=1) (n:=2) hs rfl (by decide) (by decide) (by omega) λw hs=>?_;simp only[nz,ae,af] at hs⊢;have em:nE (((l.drop 8).drop 2).take 2)=(sM l:Int):=ou (by rw[aD];omega);have en:nE (l.take 8)=sN l:=rfl;have ei:nE ((l.drop 8).take 2)=sI l:=rfl;have er:((l.drop 8).drop 2).drop 2=nd l:=rfl;have lr:(nd l).length=116:=by unfold nd;rw[aT];omega
 rw[em];rw[en,ei,er] at hs;have Rq:(∀w',St W w' L->K (uL none) w')->∀w A B,St W w (A::B::pt r1 [.i 0,.i 0,.s .empty]::L)->cu True (cu True (kj ⟨r1,0,none⟩ [.i 0,.i 0,.s .empty] (aJ ⟨r1,0,none⟩ 3 λcs=>K (.tuple ⟨[.agg ⟨cs⟩,.b false]⟩)))) w:=λhK w A B hs=>by
  refine⟨trivial,trivial,?_⟩;refine ko (k:=2) hs rfl (aK rfl) (by simp[Value.oneCell']) λw hs=>?_;rw[ja (by simp)] at hs;refine kx (k:=2) (xs:=[.i 0,.i 0,.s .empty]) hs rfl rfl (λj v hj=>by rw[aC];exact hj) ?_;exact hK w hs.drop.drop.drop
 refine uf (λRd=>?_) (λhle=>?_)
 ·have Rd:=aR Rd;rw[ai (by omega)] at hK;exact Rq hK w _ _ hs
 have hle:=bn hle;rw[ag (by omega)] at hK;refine PS (k:=1) (n:=sM l) hs rfl (by omega) λw hs=>?_;simp only[nz,ae,af] at hs⊢;have ed:(nd l).take (sM l)=sD l:=rfl;rw[ed];refine oZ (k:=0) hs rfl (aK rfl) rfl λw hs=>?_;simp only[nz,ae,af] at hs;have ew:aa.wrap (104-(sM l:Int))=((104-sM l:Nat):Int):=by rw[aW (by omega)];omega
 rw[ew];have lrm:((nd l).drop (sM l)).length=116-sM l:=by rw[aT,lr]
 refine PS (k:=1) (n:=104-sM l) hs rfl (by omega) λw hs=>?_;simp only[nz,ae,af] at hs⊢;have ez:((nd l).drop (sM l)).take (104-sM l)=sZ l:=rfl;rw[ez];have lrz:(((nd l).drop (sM l)).drop (104-sM l)).length=12:=by rw[aT,lrm];omega
 refine PS (k:=1) (n:=4) hs rfl (by omega) λw hs=>?_;simp only[nz,ae,af] at hs⊢;have lrc:((((nd l).drop (sM l)).drop (104-sM l)).drop 4).length=8:=by rw[aT,lrz]
 refine mF hs λw hs=>?_;refine db (k:=0) hs rfl rfl ?_;simp only[nz,ae,af];refine K5 (k:=1) (n:=8) hs rfl (by decide) (by decide) (by omega) λw hs=>?_;simp only[nz,ae,af] at hs⊢;refine kM (k:=0) hs rfl rfl ?_;have et:nE (((((nd l).drop (sM l)).drop (104-sM l)).drop 4).take 8)=DQ l:=rfl;rw[et];refine vN (λkN=>?_) (λheq=>?_)
 ·rw[ai kN] at hK;exact Rq hK w _ _ hs
 rw[ag (λhh=>hh heq)] at hK;refine Tx hs (by unfold sZ;rw[aD];omega) λs5 w hr hs=>?_;simp only[nz,ae,af];refine kM (k:=0) hs rfl rfl ?_;have afF:(⟨#[]⟩:BA)=.empty:=rfl;rw[s7,afF];by_cases hz:sZ l=bu (sZ l).length 0
 ·rw[ag (λhh=>hh hz)] at hK;rw[av (hr.2 hz)];simp only[nz,ae,af];refine kx (k:=0) (xs:=[.i (sN l),.i (sI l),.s (bs (sD l))]) hs rfl rfl (λj v hj=>by rw[aC];exact hj) ?_;refine Js hs λw hs=>?_;simp only[nz,ae,af];refine kM (k:=0) hs rfl rfl ?_;by_cases hg:ft (sN l) (sI l) (bs (sD l))
  ·rw[ag (λhh=>hh hg)] at hK;rw[av hg];simp only[nz,ae,af];refine kx (k:=0) (xs:=[.i (sN l),.i (sI l),.s (bs (sD l))]) hs rfl rfl (λj v hj=>by rw[aC];exact hj) ?_;refine⟨rfl,?_⟩;refine ko (k:=2) hs rfl (aK rfl) (by simp[Value.oneCell']) λw hs=>?_;rw[ja (by simp)] at hs;simp only[nz,ae,af] at hs;refine kx (k:=2) (xs:=[.i (sN l),.i (sI l),.s (bs (sD l))]) hs rfl rfl (λj v hj=>by rw[aC];exact hj) ?_;exact hK w hs.drop.drop.drop
  ·rw[ai hg] at hK;rw[ar hg];simp only[nz,ae,af];exact(Rq hK w _ _ hs).2.2
 ·rw[ai hz] at hK;rw[ar (λhh=>hz (hr.1 hh))];simp only[nz,ae,af];exact(Rq hK w _ _ hs).2.2
end
def nD(D:aX)(at' number:Int)(size:Nat):Nat->Nat->Option (List UInt8)
 |_,0=>some []
 |i,n+1=>match mw (D.read (at'+i)).1.data.toList with
  |none=>none
  |some (m,j,d)=>if m=number/\j=i/\d.size=min (size-104* i) 104 then(nD D at' number size (i+1) n).map (d.data.toList++·) else none
def take(D:aX)(at' toX number size:Int):Option (List UInt8):=
 if at'<0\/(D.safe.length:Int)<toX\/toX<at'\/size<0\/425984<size\/toX-at'<(gN size.toNat:Int) then none else nD D at' number size.toNat 0 (gN size.toNat)
def tB:Option (List UInt8)->Value
 |none=>.tuple ⟨[.s .empty,.b false]⟩
 |some l=>.tuple ⟨[.s (bs l),.b true]⟩
def pg(D:aX)(at' number:Int)(size i n:Nat):nD D at' number size i (n+1)=match mw (D.read (at'+i)).1.data.toList with
 |none=>none
 |some (m,j,d)=>if m=number/\j=i/\d.size=min (size-104* i) 104 then(nD D at' number size (i+1) n).map (d.data.toList++·) else none:=rfl
def SM{B b:Nat}{l:List UInt8}{w w':World}(h:isB B b l w)(hb:Below w.heap.size w w'):isB B b l w':=by
 have key:∀p,Go.Lib.BuilderAt Z0 aaT B b p (Go.Lib.byteCells l) w->Go.Lib.BuilderAt Z0 aaT B b p (Go.Lib.byteCells l) w':=by
  intro p h;have bX:=h.lt;obtain⟨hB,v,AY,adz,kN⟩:=h;refine⟨hB,v,by rw[hb.block b bX];exact AY,?_,kN⟩;refine⟨adz.1,?_⟩;rcases adz.2 with h0|⟨g,cap,cur,h1,h2,h3,h4⟩
  ·exact .inl h0
  ·refine .inr ⟨g,cap,cur,h1,h2,?_,h4⟩;have hg:g<w.heap.size:=(Array.getElem?_eq_some_iff.1 h3).1;rw[hb.block g hg];exact h3
 rcases h with h|h
 ·exact .inl (key _ h)
 ·exact .inr (key _ h)
def YD{w:World}:isB w.heap.size w.heap.size [] (w.alloc (.cells ⟨[.p none,.l none 0 0]⟩ Z0)):=by
 refine .inl ⟨aH _,.l none 0 0,?_,?_,by intro h;cases h⟩
 ·show(w.heap.push _)[w.heap.size]?=_;rw[Array.getElem?_push_size]
 ·exact⟨rfl,.inl ⟨rfl,rfl⟩⟩
section
variable {W w:World} {L:LH} {k d:Nat} {D:aX}
def KX{at' number:Int}{size:Nat}{b:Bool}{K:VK}(h:St W w L)(hk:L[k]?=some (gU d D))(iH:D.Ok)(CQ:b=false->0<=at'/\at'+(gN size:Int)<=D.safe.length)(pE:size<=425984)
 (hK:∀w',St W w' L->K (tB (if b then none else nD D at' number size 0 (gN size))) w'):jl.j1 K size (ah d) at' number b w:=by
 have xy:=iH.og;unfold jl.j1;refine uf (λhb=>?_) (λhb=>?_)
 ·rw[ai hb] at hK;exact hK w h
 rw[ag (by rw[hb];exact rN)] at hK;obtain⟨h0,Xl⟩:=CQ hb;generalize hw0:w=w0 at *;show mkT Z0 [.p none,.l none 0 0] _ w0;unfold mkT;have hB0:=YD (w:=w0);have aas:Below w0.heap.size w0 (w0.alloc (.cells ⟨[.p none,.l none 0 0]⟩ Z0)):=Below.alloc (Below.refl _ _) (aH _) _;generalize hw1:w0.alloc (.cells ⟨[.p none,.l none 0 0]⟩ Z0)=w1 at *;generalize hq:w0.heap.size=q at *;refine rM (by omega) ?_;simp only[nz,ae,af];refine⟨λus w'=>∃(j:Nat)(l:List UInt8),us=[.s .empty,.b false,.p (ah q),.i (gN size),.i j]/\j<=gN size/\l.length<=104* j/\isB q q l w'/\Below q w0 w'/\q<=w'.heap.size/\
    nD D at' number size 0 (gN size)=(nD D at' number size j (gN size-j)).map (l++·),
  λus _=>match us with|[_,_,_,_,.int _ j]=>gN size-j.toNat|_=>0,⟨0,[],rfl,aE _,aH _,hB0,aas,?_,?_⟩,?_⟩
 ·have:=aas.size;omega
 ·cases nD D at' number size 0 (gN size)<;>simp
 rintro s1 b2 a1 n6 n7 w2 ⟨j,l,he,hj,Jk,hB,abU,hqs,rI⟩;cases he
 have hs:St W w2 L:=h.ug (by rw[hq];exact abU);have N2:gN size<=4096:=by unfold gN;split<;>omega
 refine gj (λbX=>?_) (λjk=>?_)
 ·have ea:aa.wrap (at'+(j:Int))=at'+j:=aW (by omega);rw[ea];refine sG hs hk iH ?_;simp only[nz,ae,af];have aiH:=Af iH (i:=at'+j) ⟨by omega,by omega⟩;obtain⟨p,hp⟩:∃p,gN size-j=p+1:=⟨gN size-j-1,by omega⟩;rw[hp,pg] at rI;generalize hx:(D.read (at'+(j:Int))).1=x at *;rw[show x=bs x.data.toList from rfl];refine DE (St.start w2) (by rw[fe];omega) λw3 xf=>?_;have hb3:=xf.below;have VJ:Below q w0 w3:=abU.trans (hb3.mono hqs);have fM:St W w3 L:=h.ug (by rw[hq];exact VJ);have no:nD D at' number size 0 (gN size)=none->∀w',Below q w0 w'->K (.tuple ⟨[.s .empty,.b false]⟩) w':=λhn w' hb=>by
   have:=hK w' (h.ug (by rw[hq];exact hb));rw[hn] at this;exact this
  cases hv:mw x.data.toList with
  |none=>
   rw[hv] at rI;unfold uL;simp only[nz,ae,af];simp only[yQ,bE,cO,aC,ae,true_and];simp only[nz,ae,af];refine jq (St.start w3) λr w4 zi=>?_;refine⟨trivial,ko (k:=0) zi rfl (aK rfl) (by simp[Value.oneCell']) λw4 zi=>?_⟩;exact no (by rw[rI];rfl) w4 (VJ.trans (zi.below.mono (by have:=hb3.size;omega)))
  |some y=>
   obtain⟨m,i,dd⟩:=y;rw[hv] at rI;dsimp only at rI;unfold uL;simp only[nz,ae,af];simp only[yQ,bE,cO,aC,ae,true_and];simp only[nz,ae,af];refine jq (St.start w3) λr w4 zi=>?_;refine⟨trivial,ko (k:=0) zi rfl (aK rfl) (by simp[Value.oneCell']) λw4 zi=>?_⟩;rw[ja (by simp)] at zi;simp only[nz,ae,af] at zi;have Jo:Below q w0 w4:=VJ.trans (zi.below.mono (by have:=hb3.size;omega));refine db (k:=0) zi rfl rfl ?_;simp only[nz,ae,af];refine vN (λkN=>?_) (λhmn=>?_)
   ·exact no (by rw[rI,ag (λhh=>kN hh.1)];rfl) w4 Jo
   refine db (k:=0) zi rfl rfl ?_;simp only[nz,ae,af];refine vN (λkN=>?_) (λNX=>?_)
   ·exact no (by rw[rI,ag (λhh=>kN hh.2.1)];rfl) w4 Jo
   refine db (k:=0) zi rfl rfl ?_;simp only[nz,ae,af];have e1:aa.wrap ((j:Int)* 104)=(j:Int)* 104:=aW (by omega);have e2:aa.wrap ((size:Int) -(j:Int)* 104)=(size:Int) -(j:Int)* 104:=aW (by omega);have YR:104* j<=size:=by
    rcases Nat.eq_zero_or_pos j with h0|h0
    ·omega
    ·have:=(Px (n:=size) h0).2 (by omega);omega
   have e3:min2 ((size:Int) -(j:Int)* 104) 104=((min (size-104* j) 104:Nat):Int):=by unfold min2;split<;>omega
   rw[e1,e2,e3];refine vN (λkN=>?_) (λhds=>?_)
   ·exact no (by rw[rI,ag (λhh=>kN (by rw[hh.2.2]))];rfl) w4 Jo
   have afG:dd.size=min (size-104* j) 104:=by omega
   refine db (k:=0) zi rfl rfl ?_;simp only[nz,ae,af];rw[ai ⟨hmn,NX,afG⟩] at rI;have hB4:isB q q l w4:=SM hB (hb3.trans (zi.below.mono hb3.size));refine⟨q,q,l,rfl,hB4,by omega,(by have:=Jo.size;omega),λw5 hB5 aar=>?_⟩;simp only[nz,ae,af];have e5:=nK j;rw[e5];have Ec:gN size-(j+1)=p:=by omega
   refine⟨⟨j+1,_,rfl,by omega,?_,hB5,Jo.trans aar,?_,?_⟩,by omega⟩
   ·rw[aw,fe];omega
   ·have:=aar.size;have:=Jo.size;omega
   ·rw[rI,Ec];cases nD D at' number size (j+1) p<;>simp[aI]
 ·have hje:j=gN size:=by omega
  refine⟨q,q,l,rfl,hB,hqs,λw' hb=>?_⟩;simp only[nz,ae,af];have:=hK w' (h.ug (by rw[hq];exact abU.trans hb));rw[rI,hje,mg] at this;simp only[nD,fw,bO,tB] at this;exact this
def JK{at' toX number size:Int}{K:VK}(h:St W w L)(hk:L[k]?=some (gU d D))(iH:D.Ok)(hK:∀w',St W w' L->K (tB (take D at' toX number size)) w'):jl (ah d) at' toX number size K w:=by
 have xy:=iH.og;have bad:(at'<0\/(D.safe.length:Int)<toX\/toX<at'\/size<0\/425984<size\/toX-at'<(gN size.toNat:Int))->jl.j1 K size (ah d) at' number true w:=λhb=>by
  unfold jl.j1;rw[lz];have:=hK w h;unfold take at this;rw[ai hb] at this;exact this
 unfold jl;refine gj (λh1=>bad (.inl h1)) (λh1=>?_);refine oe h hk ?_;simp only[nz,ae,af];refine gj (λh2=>bad (.inr (.inl h2))) (λh2=>?_);refine gj (λh3=>bad (.inr (.inr (.inl h3)))) (λh3=>?_);refine gj (λh4=>bad (.inr (.inr (.inr (.inl h4))))) (λh4=>?_);refine uf (λh5=>bad (.inr (.inr (.inr (.inr (.inl (aR h5))))))) (λh5=>?_);have h5:=bn h5;obtain⟨m,rfl⟩:=bt (show 0<=size by omega);refine rM (by omega) ?_;simp only[nz,ae,af];have ew:aa.wrap (toX-at')=toX-at':=aW (by omega);rw[ew];refine KX h hk iH (λhb=>?_) (by omega) λw' hs=>?_
 ·have:=bn hb;omega
 ·have:=hK w' hs;unfold take at this;rw[ak] at this;by_cases h6:toX-at'<(gN m:Int)
  ·rw[ai (by omega)] at this;have e:decide ((gN m:Int)>toX-at')=true:=av (by omega);rw[e,ai rfl];exact this
  ·rw[ag (by omega)] at this;have e:decide ((gN m:Int)>toX-at')=false:=ar (by omega);rw[e,ag rN];exact this
end
def Q1{at' number:Int}{s:BA}(qt:1<=number/\number<=1152921504606846976)(CQ:0<=at'):∀(n i:Nat) {D:aX},D.arm=0->at'+i+n<=D.safe.length->i+n<=4096->
 (pL at' number s D i n).2=0/\(pL at' number s D i n).1.arm=0/\(pL at' number s D i n).1.safe=D.safe/\(pL at' number s D i n).1.later.length=D.later.length+n/\
 ∀j:Int,(j<at'+i\/at'+i+n<=j)->(pL at' number s D i n).1.now j=D.now j
 |0,i,D,ha,hr,hi=>⟨rfl,ha,rfl,rfl,λ_ _=>rfl⟩
 |n+1,i,D,ha,hr,hi=>by
  have hg:ft number i (part s i):=⟨qt.1,qt.2,by omega,by omega,nM s i⟩;have pE:=uY hg;have hi:D.is (at'+i):=⟨by omega,by omega⟩;have AI: ¬(¬D.is (at'+i)\/128<(leaf number i (part s i)).size):=by
   rintro(hh|hh)
   ·exact hh hi
   ·omega
  have hw:D.write (at'+i) (leaf number i (part s i))=({Go.cF.aX.tick D with later:=D.later++[(at'+i,aX.pad (leaf number i (part s i)))]},0):=by
   rw[Dk.JO ha,ag AI]
  have hn:=λj=>Dk.Gy ha (at'+i) j (leaf number i (part s i));unfold pL;have h0:(D.write (at'+i) (leaf number i (part s i))).2=0:=by rw[hw]
  rw[ag (by rw[h0];exact λhh=>hh rfl)];have hlen:(D.write (at'+i) (leaf number i (part s i))).1.later.length=D.later.length+1:=by rw[hw];simp
  have tV:=(sV D (at'+i) (leaf number i (part s i))).1;have YZ:=Dk.FA ha (at'+i) (leaf number i (part s i));have ih:=Q1 qt CQ (s:=s) n (i+1) (D:=(D.write (at'+i) (leaf number i (part s i))).1) YZ (by rw[tV];omega) (by omega);refine⟨ih.1,ih.2.1,ih.2.2.1.trans tV,by rw[ih.2.2.2.1,hlen];omega,λj hj=>?_⟩;rw[ih.2.2.2.2 j (by omega),hn j,ag (λhh=>by have:=hh.2;omega)]
section
variable {W w:World} {L:LH}
end
def PD(m i:Nat)(hi:i<8):(byteOf .i64 (m:Int) i).toNat=m/256^i%256:=by
 have hp:(256:Nat)^i=2^(8* i):=by rw[show(256:Nat)=2^8 from rfl,<-Nat.pow_mul]
 have e1:shr .i64 (m:Int) (8* (i:Int))=((m/256^i:Nat):Int):=by
  unfold shr;have h1:(8* (i:Int)).toNat=8* i:=by omega
  have h2:min (8* i) aa.bits=8* i:=by show min (8* i) 64=_;omega
  rw[h1,h2,hp,HH _ (Int.le_of_lt (Int.pow_pos (by decide)))]
  push_cast
  rfl
 have e2:IntKind.u8.wrap ((m/256^i:Nat):Int)=((m/256^i%256:Nat):Int):=by
  generalize m/256^i=z;simp[IntKind.wrap,IntKind.bits,IntKind.signed]
 unfold byteOf;rw[e1,e2,ak,UInt8.toNat_ofNat_of_lt' (Nat.mod_lt _ (by decide))]
def le_succ(k:IntKind)(w:Nat)(n:Int):le k (w+1) n=le k w n++[byteOf k n w]:=by
 unfold le;rw[List.range_succ,cY];rfl
def rY(m:Nat):∀w,w<=8->om (le .i64 w (m:Int))=m%256^w
 |0,_=>by simp[le,om,Nat.mod_one]
 |w+1,h=>by
  rw[le_succ,tL,rY m w (by omega),PD m w (by omega),aO,Nat.mod_pow_succ,wN]
def pJ{n:Int}(h:0<=n/\n<=1152921504606846976):nE (le .i64 8 n)=n:=by
 obtain⟨m,rfl⟩:=bt h.1;unfold nE;rw[rY m 8 (by omega)];have h8:(256:Nat)^8=18446744073709551616:=rfl;rw[h8,fN (by omega),aW (by omega)]
def Lp{m:Nat}(h:m<65536):om (le .i64 2 (m:Int))=m:=by
 rw[rY m 2 (by omega)];exact fN h
def pq{n i:Int}{s:BA}(h:ft n i s):mw (mS n i s)=some (n,i,s):=by
 obtain⟨h1,h2,h3,h4,h5⟩:=h;have hl:(mS n i s).length=128:=yo h5;have TL:(pre n i s).length=116:=rG h5;have hd:s.data.toList.length=s.size:=rfl;have hc:(wW (tO 0 (pre n i s))).length=4:=aO _ _ _;have yw:mS n i s=le .i64 8 n++(le .i64 2 i++(le .i64 2 s.size++(s.data.toList++(bu (104-s.size) 0++(wW (tO 0 (pre n i s))++le .i64 8 n))))):=by
  simp only[mS,pre,aI]
 have t120:(mS n i s).take 120=pre n i s++wW (tO 0 (pre n i s)):=by
  unfold mS;rw[List.take_append_of_le_length (by rw[aw,TL,hc];omega),bS (by rw[aw,TL,hc];omega)]
 have hh:ur ((mS n i s).take 120)=true:=by
  rw[t120];unfold ur;have hlen:(pre n i s++wW (tO 0 (pre n i s))).length=120:=by rw[aw,TL,hc]
  rw[hlen,show 120-4=(pre n i s).length from by rw[TL],DG,List.drop_left,beq_self_eq_true]
  rfl
 have tl:∀(a b:List UInt8)(m:Nat),a.length=m->(a++b).take m=a:=λa b m hm=>by subst hm;exact DG
 have dl:∀(a b:List UInt8)(m:Nat),a.length=m->(a++b).drop m=b:=λa b m hm=>by subst hm;exact List.drop_left
 have d8:(mS n i s).drop 8=le .i64 2 i++(le .i64 2 s.size++(s.data.toList++(bu (104-s.size) 0++(wW (tO 0 (pre n i s))++le .i64 8 n)))):=by rw[yw,dl _ _ _ (aO _ _ _)]
 have d10:((mS n i s).drop 8).drop 2=le .i64 2 s.size++(s.data.toList++(bu (104-s.size) 0++(wW (tO 0 (pre n i s))++le .i64 8 n))):=by rw[d8,dl _ _ _ (aO _ _ _)]
 have hr:nd (mS n i s)=s.data.toList++(bu (104-s.size) 0++(wW (tO 0 (pre n i s))++le .i64 8 n)):=by unfold nd;rw[d10,dl _ _ _ (aO _ _ _)]
 have eN:sN (mS n i s)=n:=by unfold sN;rw[yw,tl _ _ _ (aO _ _ _),pJ ⟨by omega,h2⟩]
 have eI:sI (mS n i s)=i:=by
  unfold sI;rw[d8,tl _ _ _ (aO _ _ _),ou (by rw[aO];omega)];obtain⟨m,rfl⟩:=bt h3;rw[Lp (by omega)]
 have eM:sM (mS n i s)=s.size:=by
  unfold sM;rw[d10,tl _ _ _ (aO _ _ _),Lp (by omega)]
 have eD:sD (mS n i s)=s.data.toList:=by unfold sD;rw[eM,hr,tl _ _ _ hd]
 have dr:(nd (mS n i s)).drop s.size=bu (104-s.size) 0++(wW (tO 0 (pre n i s))++le .i64 8 n):=by rw[hr,dl _ _ _ hd]
 have eZ:sZ (mS n i s)=bu (104-s.size) 0:=by unfold sZ;rw[eM,dr,tl _ _ _ (by simp)]
 have eT:DQ (mS n i s)=n:=by
  unfold DQ;rw[eM,dr,dl _ _ _ (by simp),dl _ _ _ hc,bS (by rw[aO];omega),pJ ⟨by omega,h2⟩]
 have hg:ft (sN (mS n i s)) (sI (mS n i s)) (bs (sD (mS n i s))):=by
  rw[eN,eI,eD,Rx];exact⟨h1,h2,h3,h4,h5⟩
 unfold mw;rw[ag (λhx=>hx hl),ag (by rw[hh];exact rN),ag (by rw[eM];omega),ag (λhx=>hx (by rw[eT,eN])),ag (λhx=>hx (by rw[eZ];simp)),ag (λhx=>hx hg),eN,eI,eD,Rx]
def zz:mw (nC 128).data.toList=none:=by decide+kernel
def QR{s:BA}(h:s.size=128):aX.pad s=s:=by
 unfold aX.pad;rw[h];apply kZ;rw[ByteArray.data_append,Array.toList_append];simp[nC]
def Q0{at' number:Int}{s:BA}(qt:1<=number/\number<=1152921504606846976)(CQ:0<=at'):∀(n i:Nat) {D:aX},D.arm=0->at'+i+n<=D.safe.length->i+n<=4096->
 ∀q,i<=q->q<i+n->(pL at' number s D i n).1.now (at'+q)=leaf number q (part s q)
 |0,i,D,ha,hr,hi,q,h1,h2=>by omega
 |n+1,i,D,ha,hr,hi,q,h1,h2=>by
  have hg:ft number i (part s i):=⟨qt.1,qt.2,by omega,by omega,nM s i⟩;have pE:=uY hg;have vU:D.is (at'+i):=⟨by omega,by omega⟩;have AI: ¬(¬D.is (at'+i)\/128<(leaf number i (part s i)).size):=by
   rintro(hh|hh)
   ·exact hh vU
   ·omega
  have hw:D.write (at'+i) (leaf number i (part s i))=({Go.cF.aX.tick D with later:=D.later++[(at'+i,aX.pad (leaf number i (part s i)))]},0):=by
   rw[Dk.JO ha,ag AI]
  have h0:(D.write (at'+i) (leaf number i (part s i))).2=0:=by rw[hw]
  have tV:=(sV D (at'+i) (leaf number i (part s i))).1;have YZ:=Dk.FA ha (at'+i) (leaf number i (part s i));unfold pL;rw[ag (by rw[h0];exact λhh=>hh rfl)];by_cases hq:q=i
  ·subst hq;have:=(Q1 qt CQ (s:=s) n (q+1) (D:=(D.write (at'+q) (leaf number q (part s q))).1) YZ (by rw[tV];omega) (by omega)).2.2.2.2 (at'+q) (by omega);rw[this,Dk.Gy ha,ai ⟨⟨vU,by omega⟩,rfl⟩,QR pE]
  ·exact Q0 qt CQ (s:=s) n (i+1) YZ (by rw[tV];omega) (by omega) q (by omega) (by omega)
def CU{D:aX}{at' number:Int}{size:Nat}{s:BA}:∀(n i:Nat),(∀q,i<=q->q<i+n->mw (D.read (at'+q)).1.data.toList=some (number,(q:Int),part s q)/\(part s q).size=min (size-104* q) 104)->
 nD D at' number size i n=some ((s.data.toList.drop (104* i)).take (104* n))
 |0,i,_=>by simp[nD]
 |n+1,i,h=>by
  obtain⟨h1,h2⟩:=h i (aH _) (by omega);rw[pg,h1];dsimp only;rw[ai ⟨rfl,rfl,h2⟩,CU n (i+1) (λq hq YI=>h q (by omega) (by omega))];have e:(part s i).data.toList=(s.data.toList.drop (104* i)).take 104:=by
   unfold part;rw[extract_toList];congr 1;omega
  rw[e,fw]
  congr 1
  rw[show 104* (n+1)=104+104* n from by omega,List.take_add,kd,show 104* i+104=104* (i+1) from by omega]
section
variable {W w:World} {L:LH}
end
def DI(n:Int):0<=IntKind.u64.wrap n/\IntKind.u64.wrap n<18446744073709551616:=by
 simp[IntKind.wrap,IntKind.bits,IntKind.signed];omega
def Wu(n:Int)(i:Nat)(hi:i<8):IntKind.u8.wrap (shr .i64 n (8* (i:Int)))=IntKind.u8.wrap ((((IntKind.u64.wrap n).toNat/256^i:Nat):Int)):=by
 have hu:(((IntKind.u64.wrap n).toNat:Nat):Int)=n%18446744073709551616:=by
  have:=DI n;rw[Int.toNat_of_nonneg this.1];simp[IntKind.wrap,IntKind.bits,IntKind.signed]
 generalize (IntKind.u64.wrap n).toNat=U at *;have e8:∀x:Int,IntKind.u8.wrap x=x%256:=λx=>by simp[IntKind.wrap,IntKind.bits,IntKind.signed]
 rw[e8,e8];unfold shr;rw[HH _ (Int.le_of_lt (Int.pow_pos (by decide)))]
 match i,hi with
 |0,_=>show(n/1)%256=(((U/1:Nat):Int))%256;omega
 |1,_=>show(n/256)%256=(((U/256:Nat):Int))%256;omega
 |2,_=>show(n/65536)%256=(((U/65536:Nat):Int))%256;omega
 |3,_=>show(n/16777216)%256=(((U/16777216:Nat):Int))%256;omega
 |4,_=>show(n/4294967296)%256=(((U/4294967296:Nat):Int))%256;omega
 |5,_=>show(n/1099511627776)%256=(((U/1099511627776:Nat):Int))%256;omega
 |6,_=>show(n/281474976710656)%256=(((U/281474976710656:Nat):Int))%256;omega
 |7,_=>show(n/72057594037927936)%256=(((U/72057594037927936:Nat):Int))%256;omega
section
variable {W w:World} {L:LH}
def Ai{m n:Int}{K:VK}(h:St W w L)(hK:∀w',St W w' L->K (.s (bs (le .i64 (min2 (max2 m 1) 8).toNat n))) w'):bN m n K w:=by
 have hm:1<=min2 (max2 m 1) 8/\min2 (max2 m 1) 8<=8:=by unfold min2 max2;split<;>split<;>omega
 unfold bN;generalize min2 (max2 m 1) 8=q at *;have hu:=DI n;refine⟨λus w'=>∃j:Nat,us=[.s .empty,.i q,.u (((IntKind.u64.wrap n).toNat/256^j:Nat):Int),.s (bs (le .i64 j n)),.i j]/\(j:Int)<=q/\St W w' L,
  λus _=>match us with|[_,_,_,_,.int _ j]=>(q-j).toNat|_=>0,⟨0,?_,by omega,h⟩,?_⟩
 ·rw[Nat.pow_zero,Nat.div_one,Int.toNat_of_nonneg hu.1];rfl
 rintro s1 n3 n4 s2 n5 w2 ⟨j,he,hj,hs⟩;cases he
 refine gj (λh0=>?_) (λh0=>?_)
 ·have hj8:j<8:=by omega
  have hb:=Wu n j hj8;have aiW:(IntKind.u64.wrap n).toNat<18446744073709551616:=by omega
  generalize hU:(IntKind.u64.wrap n).toNat=U at *;have hle:U/256^j<=U:=Nat.div_le_self _ _;have wq:U/256^(j+1)=U/256^j/256:=by rw[Nat.div_div_eq_div_mul,<-AB]
  generalize U/256^j=V at *;have et:((V:Nat):Int).tmod 256=((V%256:Nat):Int):=by rw[dX (by omega)];rfl
  have ed:((V:Nat):Int).tdiv 256=((V/256:Nat):Int):=by rw[Int.tdiv_eq_ediv_of_nonneg (by omega)];rfl
  have ew:IntKind.u64.wrap ((V/256:Nat):Int)=((V/256:Nat):Int):=sL (by omega);have e5:=nK j;have w8:∀z:Nat,IntKind.u8.wrap ((z%256:Nat):Int)=IntKind.u8.wrap ((z:Nat):Int):=λz=>by simp[IntKind.wrap,IntKind.bits,IntKind.signed]
  have AX:Value.int .u8 (IntKind.u8.wrap (((V:Nat):Int).tmod 256))=vZ (byteOf .i64 n j):=by
   unfold byteOf;rw[uT (yd _),hb,et,w8]
  rw[AX,ed,ew,e5];refine⟨by decide,⟨rfl,trivial⟩,jq hs λr w hs=>?_⟩;refine PK (k:=0) (l:=[byteOf .i64 n j]) hs rfl rfl ?_;rw[l7,<-le_succ];refine⟨by rw[cj,cj,aO];simp;omega,by decide,?_⟩;exact⟨⟨j+1,by rw[wq],by omega,hs.drop⟩,by dsimp only;omega⟩
 ·have:q.toNat=j:=by omega
  rw[this] at hK;exact hK _ hs
end
end Go.Sep
namespace Go.Up
open Go.Sep Go.Den Go.RowKit Go.Prog Go.Md
def Cx{α:Type}{f:α->LV}{e:Nat}(hf:∀x,(f x).length=e):∀l:List α,(l.flatMap f).length=l.length* e
 |[]=>by simp
 |x::l=>by rw[iY,aw,hf,Cx hf l,bE,mA];omega
def ra{α:Type}{f:α->LV}{e:Nat}(hf:∀x,(f x).length=e):∀(l:List α)(i:Nat)(x:α),l[i]?=some x->∀j v,(f x)[j]?=some v->(l.flatMap f)[i* e+j]?=some v
 |[],i,x,h,j,v,hj=>by simp at h
 |y::l,0,x,h,j,v,hj=>by
  simp at h;subst h;rw[iY,Nat.zero_mul,aC,bh (ao.1 hj).1];exact hj
 |y::l,i+1,x,h,j,v,hj=>by
  rw[iY,iW (by rw[hf,mA];omega),hf,show(i+1)* e+j-e=i* e+j by rw[mA];omega];exact ra hf l i x (by simpa using h) j v hj
def GV{α:Type}{f:α->LV}{e:Nat}(hf:∀x,(f x).length=e):∀(l:List α)(i:Nat)(x:α),i<l.length->over (l.flatMap f) (i* e) (f x)=(l.set i x).flatMap f
 |[],i,x,h=>by simp at h
 |y::l,0,x,h=>by
  unfold over;rw[iY,Nat.zero_mul,ox,cw,hf,aC,List.drop_left' (hf y)];rfl
 |y::l,i+1,x,h=>by
  have ih:=GV hf l i x (by simpa using h);unfold over at ih⊢;rw[iY,nI,iY,<-ih,hf,show(i+1)* e=(f y).length+i* e by rw[hf,mA];omega,List.take_append,bS (by omega),
   show(f y).length+i* e-(f y).length=i* e by omega,Nat.add_assoc,List.drop_append,gL (by omega),show(f y).length+(i* e+e) -(f y).length=i* e+e by omega]
  simp
def zE(n:Nat):(nm n).length=2:=rfl
def mI(n:Nat):∀v∈nm n,v.oneCell'=true:=λv h=>by simp[nm] at h;rcases h with rfl|rfl<;>rfl
section
variable {W:World} {L:LH} {K:VK} {a b n:Nat}
def tN{r m e:Nat}{i:Int}{K:Addr->WK}(hi:0<=i/\i<m)(h:T W L (K ⟨r,i.toNat* e,none⟩)):T W L (iV (ah r) m i e K):=λw hs=>
 ⟨_,rfl,hi,by rw[ig,aC];exact h w hs⟩
def acU{α:Type}{r o e:Nat}{l:List α}{x:α}{g:α->LV}{f:LV->LH}{K:LV->WK}[i:Lc (pt r) L (l.flatMap g) f](hf:∀x,(g x).length=e)(hx:l[o]?=some x)(h:T W L (K (g x))):T W L (aJ ⟨r,o* e,none⟩ e K):=λw hs=>
 let⟨_,hk,_⟩:=i.at_;kx hs hk (hf x) (ra hf l o x hx) (h w hs)
def DP:Nat->List Nat->Option Nat
 |s,[]=>some s
 |s,x::l=>if s+x<bG then DP (s+x) l else none
abbrev afb(o:Option Nat):Value:=.tuple ⟨[.agg ⟨nm (o.getD 0)⟩,.b o.isSome]⟩
def aaD{r c:Nat}{l:List Nat}{f:LV->LH}(hl:∀x∈l,x<bG)(hlen:l.length<1000)[i:Lc (pt r) L (l.flatMap nm) f](h:T W L (K (afb (DP 0 l)))):T W L (zk (ah r) l.length c K):=by
 unfold zk;apply ws;intros;rename_i r1 r2;intro w hs;refine⟨λvs w=>∃i s:Nat,i<=l.length/\s<bG/\DP 0 l=DP s (l.drop i)/\vs=[.p (some (ad r1 0)),.b false,.p (some (ad r2 0)),.l (ah r) l.length c,.i (l.length:Int),.i (i:Int)]/\St W w (pt r2 (nm s)::pt r1 (nm 0)::L),
  λvs _=>match vs with|[_,_,_,_,_,.int _ j]=>l.length-j.toNat|_=>0,⟨0,0,aE _,by decide,rfl,rfl,hs⟩,?_⟩
 rintro a1 b1 a2 jT jd ku n1 n2 w2 ⟨i,s,hi,hsM,he,e,hs⟩;cases e
 refine T.at ?_ hs;apply ga<;>intro h1
 ·have bX:i<l.length:=by simpa using h1
  refine tN (by omega) ?_;rw[ak];refine acU zE (aj bX) ?_;have hx:=hl _ (bP bX);have hd:l.drop i=l[i]::l.drop (i+1):=ij bX;rw[hd] at he;generalize l[i]=x at *;have uZ:DP s (x::l.drop (i+1))=if s+x<bG then DP (s+x) (l.drop (i+1)) else none:=rfl
  rw[uZ] at he
  repeat' first|apply ws;intros|apply wb|with_reducible first|refine Ew hsM hx ?_|refine dj (λh1=>?_) (λh1=>?_)|fail
  ·have h2: ¬s+x<bG:=by simpa using h1
   rw[ag h2] at he;rw[he] at h;exact T.dp h
  ·have h2:s+x<bG:=by simpa using h1
   rw[ai h2] at he;rw[ai h2];have e5:=nK i;rw[e5];refine T.drop λw3 h3=>⟨⟨i+1,s+x,bX,h2,he,rfl,h3⟩,?_⟩;show l.length-((i+1:Nat):Int).toNat<l.length-(i:Int).toNat;omega
 ·have jk:i=l.length:=by omega
  subst jk;rw[gL (aH _)] at he;rw[he] at h;apply ws;intros;exact T.dp h
end
end Go.Up
namespace Go.Sep
open Go.Den Go.RowKit Go.Prog Go.cF
section
variable {W w:World} {L:LH}
end
def Lq:∀(a b:List UInt8),a.length=b.length->om a=om b->a=b
 |[],[],_,_=>rfl
 |[],_::_,h,_=>by simp at h
 |_::_,[],h,_=>by simp at h
 |c::a,d::b,h,hv=>by
  have hc:=c.toNat_lt;have hd:=d.toNat_lt;simp only[om] at hv;have h1:c.toNat=d.toNat:=by omega
  rw[Lq a b (by simpa using h) (by omega),UInt8.toNat_inj.1 h1]
def OC{l:List UInt8}{n j:Int}{d:BA}(h:mw l=some (n,j,d)):l.length=128/\sM l<=104/\DQ l=sN l/\n=sN l/\j=sI l/\ft (sN l) (sI l) (bs (sD l)):=by
 unfold mw at h;split at h
 ·cases h
 rename_i h1;split at h
 ·cases h
 split at h
 ·cases h
 rename_i h3;split at h
 ·cases h
 rename_i h4;split at h
 ·cases h
 split at h
 ·cases h
 rename_i h6;cases h
 exact⟨bm.1 h1,by omega,bm.1 h4,rfl,rfl,bm.1 h6⟩
def UE{l:List UInt8}(h:sM l<=104)(hl:l.length=128):DQ l=nE (l.drop 120):=by
 unfold DQ nd;rw[kd,kd,kd,kd,kd,bS (by rw[aT];omega)]
 congr 2
 omega
def Mi{D:aX}:∀j i:Nat,i<j->numOf (Dp (D.read (i:Int)).1)<=fr D j/\numOf (CT (D.read (i:Int)).1)<=fr D j
 |0,i,h=>by omega
 |j+1,i,h=>by
  have hm:∀a b:Int,a<=max2 a b/\b<=max2 a b:=λa b=>by unfold max2;split<;>omega
  simp only[fr];have h1:=hm (max2 (fr D j) (numOf (Dp (D.read (j:Int)).1))) (numOf (CT (D.read (j:Int)).1));have h2:=hm (fr D j) (numOf (Dp (D.read (j:Int)).1));by_cases NX:i=j
  ·subst NX;exact⟨by omega,by omega⟩
  ·have:=Mi (D:=D) j i (by omega);exact⟨by omega,by omega⟩
def Mj(s:BA):0<=numOf s/\numOf s<=1152921504606846976:=by unfold numOf;split<;>omega
def yA(D:aX):∀j,0<=fr D j/\fr D j<=1152921504606846976
 |0=>by simp[fr]
 |j+1=>by
  have h1:=yA D j;have h2:=Mj (Dp (D.read (j:Int)).1);have h3:=Mj (CT (D.read (j:Int)).1);simp only[fr];unfold max2;split<;>split<;>omega
def low(w:Int):Int:=dm .i64 .and w 1
def QX(w:Int):low w=(((BitVec.ofInt 64 w).toNat%2:Nat):Int):=by
 have e2:(BitVec.ofInt 64 1).toNat=1:=rfl;show aa.wrap (((BitVec.ofInt 64 w&&&BitVec.ofInt 64 1).toNat:Nat):Int)=_;rw[BitVec.toNat_and,e2,Nat.and_one_is_mod,aW (by omega)]
def wU(w:Int):low w=0\/low w=1:=by rw[QX];omega
def dB(n:Nat):Nat:=(n-2)* 2/5
def fI(n:Nat):LV:=[.i 2,.i (2+dB n:Nat),.i (dB n:Nat),.i (2+2* dB n:Nat),.i n]
def fq(n:Nat)(which:Int):Nat:=if low which=0 then 2 else 2+dB n
def pR{n:Nat}(h:12<=n)(w:Int):2<=fq n w/\fq n w+dB n<=n/\4<=dB n:=by
 unfold fq dB;split<;>omega
def Ou{n:Nat}(w v:Int)(h:low w≠low v):fq n w+dB n<=fq n v\/fq n v+dB n<=fq n w:=by
 unfold fq;rcases wU w with a|a<;>rcases wU v with b|b<;>rw[a,b] at h⊢<;>simp at h⊢
def put(D:aX)(n:Nat)(which number:Int)(s:BA):aX×Int:=
 if(lay D (fq n which) ((fq n which+dB n:Nat):Int) number s).2≠0 then lay D (fq n which) ((fq n which+dB n:Nat):Int) number s
 else(lay D (fq n which) ((fq n which+dB n:Nat):Int) number s).1.sync
def get(D:aX)(n:Nat)(which number size:Int):Option (List UInt8):=take D (fq n which) ((fq n which+dB n:Nat):Int) number size
section
variable {W w:World} {L:LH} {k d:Nat} {D:aX}
def ZI{n:Nat}{K:VK}(h:St W w L)(nF:12<=n)(cS:n<=4096)(hK:∀w',St W w' L->K (.tuple ⟨[.agg ⟨fI n⟩,.i 0]⟩) w'):uJ n K w:=by
 unfold uJ;refine jq h λr w hs=>?_;have e1:decide ((n:Int)<12)=false:=ar (by omega);have e2:decide ((n:Int)>4096)=false:=ar (by omega);rw[e1,e2];unfold uJ.j1;have a1:aa.wrap ((n:Int) -2)=((n-2:Nat):Int):=by rw[aW (by omega)];omega
 have a2:aa.wrap (((n-2:Nat):Int)* 2)=(((n-2)* 2:Nat):Int):=by rw[aW (by omega)];omega
 have a3:(((n-2)* 2:Nat):Int).tdiv 5=((dB n:Nat):Int):=by rw[Int.tdiv_eq_ediv_of_nonneg (by omega)];rfl
 have hp:dB n<=4096:=by unfold dB;omega
 have a4:aa.wrap ((dB n:Nat):Int)=((dB n:Nat):Int):=aW (by omega);have a5:aa.wrap (2+((dB n:Nat):Int))=((2+dB n:Nat):Int):=by rw[aW (by omega)];omega
 have a6:aa.wrap (2* ((dB n:Nat):Int))=((2* dB n:Nat):Int):=by rw[aW (by omega)];omega
 have a7:aa.wrap (2+((2* dB n:Nat):Int))=((2+2* dB n:Nat):Int):=by rw[aW (by omega)];omega
 rw[a1,a2,a3,a4,a5,a6,a7];simp only[nz,ae,af];refine⟨by decide,?_⟩;refine ko (k:=0) hs rfl (aK rfl) (by simp[Value.oneCell']) λw hs=>?_;rw[ja (by simp)] at hs;refine kx (k:=0) (xs:=fI n) hs rfl rfl (λj v hj=>by rw[aC];exact hj) ?_;exact hK w hs.drop
def Fo{n:Nat}{which:Int}{K:VK}(h:St W w L)(hK:∀w',St W w' L->K (.i (fq n which:Nat)) w'):po (fI n) which K w:=by
 unfold po;refine jq h λr w hs=>?_;simp only[nz,ae,af];refine db (k:=0) hs rfl rfl ?_;simp only[nz,ae,af];refine db (k:=0) hs rfl rfl ?_;simp only[nz,ae,af];have hl:=wU which;have hh:=hK w hs.drop;unfold fq at hh;show D6 _ 2 (low which) _ w;rcases hl with h0|h0
 ·rw[ai h0] at hh;rw[h0];refine⟨_,⟨by decide,by decide,rfl⟩,?_⟩;simp only[nz,ae,af];exact hh
 ·rw[ag (by omega)] at hh;rw[h0];refine⟨_,⟨by decide,by decide,rfl⟩,?_⟩;simp only[nz,ae,af];exact hh
def W4{n:Nat}{which number:Int}{s:BA}{K:VK}(h:St W w L)(hk:L[k]?=some (gU d D))(iH:D.Ok)(nF:12<=n)(cS:n<=4096)(hl:D.later.length+5000<1099511627776)(hs:s.size<=reachBytes)
 (hK:∀w',St W w' (L.set k (gU d (put D n which number s).1))->K (.i (put D n which number s).2) w'):qX (fI n) (ah d) which number s K w:=by
 have tG:=pR nF which;unfold qX;refine jq h λr w fM=>?_;have pE:=hs;simp only[nz,ae,af];refine mF fM λw hs=>?_;refine kx (k:=0) (xs:=fI n) hs rfl rfl (λj v hj=>by rw[aC];exact hj) ?_;refine kx (k:=0) (xs:=fI n) hs rfl rfl (λj v hj=>by rw[aC];exact hj) ?_;refine db (k:=0) hs rfl rfl ?_;simp only[nz,ae,af];refine Fo hs λw hs=>?_;simp only[nz,ae,af];refine kM (k:=0) hs rfl rfl ?_;refine Q2 (k:=0) hs rfl (λj v hj=>by rw[aC];exact hj) ?_;refine Fo hs λw hs=>?_;simp only[nz,ae,af];refine kM (k:=0) hs rfl rfl ?_;have ew:aa.wrap (((fq n which:Nat):Int)+((dB n:Nat):Int))=((fq n which+dB n:Nat):Int):=by rw[aW (by omega)];omega
 rw[ew];have q8:(pt r (fI n)::L)[k+1]?=some (gU d D):=by rw[bT];exact hk
 refine Ho (k:=k+1) hs q8 iH (by omega) pE λw hs=>?_;rw[nI] at hs;simp only[nz,ae,af];refine kM (k:=0) hs rfl rfl ?_;unfold put at hK;have SU:(lay D (fq n which) ((fq n which+dB n:Nat):Int) number s).1.Ok\/(lay D (fq n which) ((fq n which+dB n:Nat):Int) number s).2≠0:=by
  by_cases hc:gN s.size<=4097
  ·exact .inl (Kl iH (by omega)).1
  ·refine .inr ?_;unfold lay;split
   ·simp
   ·rw[ai (by omega)];simp
 refine vN (λkN=>?_) (λh0=>?_)
 ·rw[ai kN] at hK;exact hK w hs.drop
 ·rw[ag (λhh=>hh h0)] at hK;refine vT (k:=k+1) hs (by rw[bT];exact kr hk) (SU.resolve_right (λhh=>hh h0)) λw hs=>?_;rw[nI,jM] at hs;simp only[nz,ae,af];exact hK w hs.drop
def Xb{n:Nat}{which number size:Int}{K:VK}(h:St W w L)(hk:L[k]?=some (gU d D))(iH:D.Ok)(nF:12<=n)(cS:n<=4096)
 (hK:∀w',St W w' L->K (tB (get D n which number size)) w'):qY (fI n) (ah d) which number size K w:=by
 have tG:=pR nF which;unfold qY;refine jq h λr w fM=>?_;simp only[nz,ae,af];refine mF fM λw hs=>?_;refine kx (k:=0) (xs:=fI n) hs rfl rfl (λj v hj=>by rw[aC];exact hj) ?_;refine kx (k:=0) (xs:=fI n) hs rfl rfl (λj v hj=>by rw[aC];exact hj) ?_;refine db (k:=0) hs rfl rfl ?_;simp only[nz,ae,af];refine Fo hs λw hs=>?_;simp only[nz,ae,af];refine kM (k:=0) hs rfl rfl ?_;refine Q2 (k:=0) hs rfl (λj v hj=>by rw[aC];exact hj) ?_;refine Fo hs λw hs=>?_;simp only[nz,ae,af];refine kM (k:=0) hs rfl rfl ?_;have ew:aa.wrap (((fq n which:Nat):Int)+((dB n:Nat):Int))=((fq n which+dB n:Nat):Int):=by rw[aW (by omega)];omega
 rw[ew];refine JK (k:=k+1) hs (by rw[bT];exact hk) iH λw hs=>?_;unfold get at hK;cases hg:take D (fq n which) ((fq n which+dB n:Nat):Int) number size with
 |none=>
  rw[hg] at hK;unfold tB at hK⊢;simp only[nz,ae,af];refine kM (k:=0) hs rfl rfl ?_;exact hK w hs.drop
 |some l=>
  rw[hg] at hK;unfold tB at hK⊢;simp only[nz,ae,af];refine kM (k:=0) hs rfl rfl ?_;exact hK w hs.drop
end
structure Calm(n:Nat)(D:aX):Prop where
 ok:D.Ok
 arm:D.arm=0
 later:D.later.length<=1000
 len:D.safe.length=n
def G8{n:Nat}(h:n<=4096):Calm n (aX.new n):=by
 refine⟨abv n,rfl,aE _,?_⟩;simp only[aX.new,nB];have:min2 (max2 (n:Int) 0) 4096=n:=by unfold min2 max2;split<;>split<;>omega
 rw[this];omega
def Cm{n:Nat}(h:n<=4096){j:Nat}(hj:j<n):((aX.new n).read (j:Int)).1=nC 128:=by
 have hc:=G8 h;rw[Ag (D:=aX.new n) rfl (i:=j) (by rw[hc.len];exact hj)];simp[aX.new]
def Y3{n:Nat}{D:aX}{which number:Int}{s:BA}(hlen:D.safe.length=n)(nF:12<=n)(cS:n<=4096)(qt:1<=number/\number<=1152921504606846976)(hl:gN s.size<=dB n)
 (hr:∀q:Nat,q<gN s.size->(D.read (((fq n which:Nat):Int)+q)).1=leaf number q (part s q)):get D n which number s.size=some s.data.toList:=by
 have tG:=pR nF which;have hb:s.size<=104* gN s.size:=by unfold gN;split<;>omega
 have Vv:∀q:Nat,(part s q).size=min (104* (q+1)) s.size-104* q:=λq=>by unfold part;rw[tP]
 unfold get take;rw[ag (by rw[hlen,ak];omega),ak,CU (s:=s) (gN s.size) 0 (λq _ hq=>by
  rw[hr q (by omega)]
  have hg:ft number q (part s q):=⟨qt.1,qt.2,by omega,by omega,nM s q⟩
  unfold leaf
  rw[ai hg]
  exact⟨pq hg,by rw[Vv];omega⟩)]
 congr 1
 rw[Nat.mul_zero,jn,bS (by rw[fe];exact hb)]
section
variable {W w:World} {L:LH}
end
section
variable {W w:World} {L:LH}
def TB{n m:Nat}{K:VK}(h:St W w L)(hm:m<1099511627776000)(hK:∀w',St W w' L->K (.b (decide (gN m<=dB n))) w'):qn (fI n) m K w:=by
 unfold qn;refine jq h λr w hs=>?_;refine mF hs λw hs=>?_;refine gj (λ_=>?_) (λhh=>by omega);refine db (k:=0) hs rfl rfl ?_;simp only[nz,ae,af];refine rM (by omega) ?_;simp only[nz,ae,af];refine kM (k:=0) hs rfl rfl ?_;have e:decide (((gN m:Nat):Int)<=((dB n:Nat):Int))=decide (gN m<=dB n):=by rw[decide_eq_decide];omega
 rw[e];exact hK w hs.drop
end
def Mix(old new X:BA):Prop:=X=old\/X=new\/∃c,c<=128/\X=new.extract 0 c++old.extract c old.size
def El(mask torn x:Int)(hx:0<=x/\x<=128)(safe:List BA)(later:List (Int×BA))(hn:(later.map (·.1.toNat)).Nodup)(hp:∀p∈later,0<=p.1/\p.1<safe.length)(i:Nat)(hi:i<safe.length):
 ∀j,j<=later.length->((∀k,k<j->∀p,later[k]?=some p->p.1.toNat≠i)/\(fo mask torn x safe later j)[i]?=safe[i]?)\/
  ∃k p,k<j/\later[k]?=some p/\p.1.toNat=i/\∃X,(fo mask torn x safe later j)[i]?=some X/\Mix (safe.getD i .empty) p.2 X
 |0,_=>.inl ⟨λk hk=>by omega,rfl⟩
 |j+1,hj=>by
  have bX:j<later.length:=by omega
  have Cu:later[j]?=some later[j]:=aj bX;have ih:=El mask torn x hx safe later hn hp i hi j (by omega);simp only[fo,Cu];have hlen:i<(fo mask torn x safe later j).length:=by rw[jI];exact hi
  by_cases NS:(later[j]).1.toNat=i
  ·
   have zN:(fo mask torn x safe later j)[i]?=safe[i]?:=by
    rcases ih with⟨_,h⟩|⟨k,p,hk,Xq,YJ,_⟩
    ·exact h
    ·exfalso;have q8:k<later.length:=by omega
     have e1:(later.map (·.1.toNat))[k]?=some i:=by rw[eo,Xq];simp[YJ]
     have e2:(later.map (·.1.toNat))[j]?=some i:=by rw[eo,Cu];simp[NS]
     have:=(List.getElem?_inj (by simpa using q8) hn).1 (e1.trans e2.symm);omega
   have Br:(fo mask torn x safe later j).getD i .empty=safe.getD i .empty:=by
    rw[ka,zN,<-ka]
   refine .inr ⟨j,later[j],by omega,Cu,NS,?_⟩;unfold aX.nX;rw[NS];split
   ·refine⟨_,List.getElem?_set_self hlen,.inr (.inr ⟨x.toNat,by omega,?_⟩)⟩;rw[Br]
   ·split
    ·exact⟨_,List.getElem?_set_self hlen,.inr (.inl rfl)⟩
    ·refine⟨safe[i],by rw[zN];exact aj hi,.inl ?_⟩;simp[hi]
  ·have GL:(aX.nX mask torn x (fo mask torn x safe later j) j later[j])[i]?=(fo mask torn x safe later j)[i]?:=by
    unfold aX.nX;split
    ·rw[P7 NS]
    ·split
     ·rw[P7 NS]
     ·rfl
   rw[GL];rcases ih with⟨h1,h2⟩|⟨k,p,hk,Xq,YJ,X,hX⟩
   ·refine .inl ⟨λk hk p Xq=>?_,h2⟩;by_cases hkj:k=j
    ·subst hkj;rw[Cu] at Xq;cases Xq
     exact NS
    ·exact h1 k (by omega) p Xq
   ·exact .inr ⟨k,p,by omega,Xq,YJ,X,hX⟩
def Mx{at' number:Int}{s:BA}(qt:1<=number/\number<=1152921504606846976)(CQ:0<=at'):∀(n i:Nat) {D:aX},at'+i+n<=D.safe.length->i+n<=4096->
 ∃m,m<=n/\(pL at' number s D i n).1.later=D.later++((List.range' i m).map λq:Nat=>(at'+(q:Int),aX.pad (leaf number q (part s q))))/\(pL at' number s D i n).1.safe=D.safe/\((pL at' number s D i n).2=0->m=n)
 |0,i,D,hr,hi=>⟨0,aH _,by simp[pL],rfl,λ_=>rfl⟩
 |n+1,i,D,hr,hi=>by
  have hg:ft number i (part s i):=⟨qt.1,qt.2,by omega,by omega,nM s i⟩;have pE:=uY hg;have vU:D.is (at'+i):=⟨by omega,by omega⟩;have AI: ¬(¬D.is (at'+i)\/128<(leaf number i (part s i)).size):=by
   rintro(hh|hh)
   ·exact hh vU
   ·omega
  have tV:=(sV D (at'+i) (leaf number i (part s i))).1;have hw:D.write (at'+i) (leaf number i (part s i))=if D.wz then(D.tick,8) else({Go.cF.aX.tick D with later:=D.later++[(at'+i,aX.pad (leaf number i (part s i)))]},0):=by
   unfold aX.write;rw[ag AI]
  unfold pL;cases hf:D.wz with
  |true=>
   rw[hf,ai rfl] at hw;rw[hw,ai (by simp)];exact⟨0,aE _,by simp[aX.tick],rfl,λh=>by simp at h⟩
  |false=>
   rw[hf,ag rN] at hw;have h0:(D.write (at'+i) (leaf number i (part s i))).2=0:=by rw[hw]
   have Bq:(D.write (at'+i) (leaf number i (part s i))).1.later=D.later++[(at'+i,aX.pad (leaf number i (part s i)))]:=by rw[hw]
   rw[ag (by rw[h0];exact λhh=>hh rfl)];obtain⟨m,h1,h2,h3,h4⟩:=Mx qt CQ (s:=s) n (i+1) (D:=(D.write (at'+i) (leaf number i (part s i))).1) (by rw[tV];omega) (by omega);refine⟨m+1,by omega,?_,by rw[h3,tV],λh=>by rw[h4 h]⟩;rw[h2,Bq,List.range'_succ,cW,aI]
   rfl
def GC(at':Nat)(f:Nat->BA)(i:Int):∀m:Nat,aX.last ((pZ m).map λq:Nat=>(((at':Nat):Int)+(q:Int),f q)) i=if(at':Int)<=i/\i<(at':Int)+m then some (f (i-at').toNat) else none
 |0=>by rw[ag (by omega)];rfl
 |m+1=>by
  rw[List.range_succ,cY,cW,uS,Dk.tT,GC at' f i m];dsimp only;by_cases h:((at':Nat):Int)+(m:Int)=i
  ·rw[ai h,ai (by omega)]
   congr 2
   omega
  ·rw[ag h];by_cases h2:(at':Int)<=i/\i<(at':Int)+m
   ·rw[ai h2,ai (by omega)]
   ·rw[ag h2,ag (by omega)]
def J'(at' i m q:Nat)(n:Int)(s:BA)(k:Nat)(p:Int×BA)(h:((List.range' 0 m).map λq:Nat=>(((at':Nat):Int)+(q:Int),aX.pad (leaf n q (part s q))))[k]?=some p):
 k<m/\p.1.toNat=at'+k/\p.2=aX.pad (leaf n k (part s k)):=by
 rw[<-List.range_eq_range',eo] at h;have hk:k<m:=by
  by_cases hh:k<m
  ·exact hh
  ·rw[qh (by simpa using hh)] at h;cases h
 rw[rD hk] at h;cases h
 exact⟨hk,by dsimp only;omega,rfl⟩
def MO(x:BA):(Dp x).data.toList=x.data.toList.take 8:=by unfold Dp;rw[extract_toList];rfl
def Ly{x:BA}(h:x.size=128):(CT x).data.toList=x.data.toList.drop 120:=by
 unfold CT;rw[h,extract_toList,bS (by rw[aT,fe,h];omega)]
def tM{α:Type}(a b:List α)(m:Nat)(h:a.length=m):(a++b).take m=a:=by subst h;exact DG
def vD{α:Type}(a b:List α)(m:Nat)(h:a.length=m):(a++b).drop m=b:=by subst h;exact List.drop_left
def zL{n i:Int}{s:BA}:(mS n i s).take 8=le .i64 8 n:=by
 unfold mS pre;simp only[aI];exact tM _ _ 8 (aO _ _ _)
def wV{n i:Int}{s:BA}(hs:s.size<=104):(mS n i s).drop 120=le .i64 8 n:=by
 unfold mS;exact vD _ _ 120 (by rw[aw,rG hs];rfl)
def Fq(n:Nat):(nC n).data.toList=bu n 0:=by unfold nC;rfl
def Rk{D:aX}{b:Int}(hb:0<=b):∀j,(∀i:Nat,i<j->numOf (Dp (D.read (i:Int)).1)<=b/\numOf (CT (D.read (i:Int)).1)<=b)->fr D j<=b
 |0,_=>hb
 |j+1,h=>by
  have h1:=Rk hb j (λi hi=>h i (by omega));have h2:=h j (by omega);simp only[fr];unfold max2;split<;>split<;>omega
section
variable {W w:World} {L:LH}
end
def fj(D:aX)(at' toX number:Int)(s:BA):aX×Int:=if(lay D at' toX number s).2≠0 then lay D at' toX number s else(lay D at' toX number s).1.sync
def Mp{D:aX}{at' toX number:Int}{s:BA}(h:D.Ok)(hl:D.later.length+gN s.size<1099511627776):(fj D at' toX number s).1.Ok:=by
 have:=(Kl (at':=at') (number:=number) (s:=s) (toX:=toX) h hl).1;unfold fj;split
 ·exact this
 ·exact JZ this
def Vi{n a t:Nat}{D:aX}{number:Int}{s:BA}(h:Calm n D)(cS:n<=4096)(qt:1<=number/\number<=1152921504606846976)(hl:a+gN s.size<=t)(htn:t<=n):(fj D a t number s).1.later=[]:=by
 have hcp:=sx s.size;have e:lay D (a:Nat) ((t:Nat):Int) number s=pL (a:Nat) number s D 0 (gN s.size):=by
  unfold lay;rw[ag (by rw[h.len];omega),ag (by omega)]
 obtain⟨l1,l2,_,_,_⟩:=Q1 (at':=((a:Nat):Int)) (number:=number) (s:=s) qt (by omega) (gN s.size) 0 (D:=D) h.arm (by rw[h.len];omega) (by omega);unfold fj;rw[e,ag (λhh=>hh l1),Dk.Qn l2]
def QW{n a t:Nat}{D:aX}{number:Int}{s:BA}(h:Calm n D)(cS:n<=4096)(qt:1<=number/\number<=1152921504606846976)(hl:a+gN s.size<=t)(htn:t<=n):
 (fj D a t number s).2=0/\Calm n (fj D a t number s).1/\(∀q:Nat,q<gN s.size->((fj D a t number s).1.read (((a:Nat):Int)+q)).1=leaf number q (part s q))/\
 ∀j:Nat,j<n->(j<a\/a+gN s.size<=j)->((fj D a t number s).1.read (j:Int)).1=(D.read (j:Int)).1:=by
 have e:lay D (a) ((t:Nat):Int) number s=pL (a) number s D 0 (gN s.size):=by
  unfold lay;rw[ag (by rw[h.len];omega),ag (by omega)]
 have TM:=Q1 (at':=((a:Nat):Int)) (number:=number) (s:=s) qt (by omega) (gN s.size) 0 (D:=D) h.arm (by rw[h.len];omega) (by omega);have hli:=Q0 (at':=((a:Nat):Int)) (number:=number) (s:=s) qt (by omega) (gN s.size) 0 (D:=D) h.arm (by rw[h.len];omega) (by omega);have iH:=Co (at':=((a:Nat):Int)) (number:=number) (s:=s) (gN s.size) 0 h.ok (by have:=h.later;omega);unfold fj;rw[e];obtain⟨l1,l2,l3,l4,l5⟩:=TM;rw[ag (λhh=>hh l1)];generalize (pL ((a:Nat):Int) number s D 0 (gN s.size)).1=D1 at *;have aam:D1.safe.length=n:=by rw[l3];exact h.len
 have jO:=Dk.Qn l2;have aaq:Calm n D1.sync.1:=⟨JZ iH.1,Dk.RR l2,by rw[jO];exact aE _,by rw[Dk.LF.1];exact aam⟩;have Xo:∀j:Nat,j<n->(D1.sync.1.read (j:Int)).1=D1.now (j:Int):=λj hj=>by
  have h1:D1.sync.1.is (j:Int):=⟨by omega,by rw[aaq.len];omega⟩;have h2:D1.is (j:Int):=⟨by omega,by rw[aam];omega⟩;unfold aX.read;rw[ai h1];exact Dk.Sy l2 iH.1 h2
 refine⟨by rw[jO],aaq,λq hq=>?_,λj hj Ks=>?_⟩
 ·have:=Xo (a+q) (by omega);rw[show(((a:Nat):Int)+(q:Int))=((a+q:Nat):Int) from by omega,this,show((a+q:Nat):Int)=((a:Nat):Int)+(q:Int) from by omega];exact hli q (aE _) (by omega)
 ·rw[Xo j hj,l5 (j:Int) (by omega)];have h2:D.is (j:Int):=⟨by omega,by rw[h.len];omega⟩;unfold aX.read;rw[ai h2]
def Mq{n a t:Nat}{D:aX}{number mask torn cut:Int}{s:BA}(iH:D.Ok)(Bq:D.later=[])(hlen:D.safe.length=n)(cS:n<=4096)(qt:1<=number/\number<=1152921504606846976)(hl:a+gN s.size<=t)(htn:t<=n):
 (∀j:Nat,j<n->(((fj D a t number s).1.eY mask torn cut).read (j:Int)).1=(D.read (j:Int)).1\/
  ∃q,q<gN s.size/\j=a+q/\Mix (D.read (j:Int)).1 (leaf number q (part s q)) (((fj D a t number s).1.eY mask torn cut).read (j:Int)).1)/\
 ((fj D a t number s).2=0->∀q:Nat,q<gN s.size->(((fj D a t number s).1.eY mask torn cut).read ((a+q:Nat):Int)).1=leaf number q (part s q))/\
 ((fj D a t number s).1.eY mask torn cut).Ok/\((fj D a t number s).1.eY mask torn cut).safe.length=n:=by
 have hcp:=sx s.size;have abH:∀q:Nat,q<gN s.size->aX.pad (leaf number q (part s q))=leaf number q (part s q):=λq hq=>QR (uY ⟨qt.1,qt.2,by omega,by omega,nM s q⟩);have afX:lay D (a:Nat) ((t:Nat):Int) number s=pL (a) number s D 0 (gN s.size):=by
  unfold lay;rw[ag (by rw[hlen];omega),ag (by omega)]
 obtain⟨m,hm,GO,tV,fG⟩:=Mx (at':=((a:Nat):Int)) (number:=number) (s:=s) qt (by omega) (gN s.size) 0 (D:=D) (by rw[hlen];omega) (by omega);rw[Bq,cw] at GO;have Ku:=(Co (at':=((a:Nat):Int)) (number:=number) (s:=s) (gN s.size) 0 iH (by rw[Bq];simp;omega)).1;unfold fj;rw[afX];generalize hF:pL ((a:Nat):Int) number s D 0 (gN s.size)=F at *;obtain⟨D1,e⟩:=F;dsimp only at GO tV fG Ku⊢;have hold:∀j(hj:j<n),(D.read (j:Int)).1=D.safe[j]'(by omega):=λj hj=>by rw[Ag Bq (by omega)]
 have key:∀D2:aX,D2.safe=D.safe->D2.later=D1.later->∀j:Nat,j<n->((D2.eY mask torn cut).read (j:Int)).1=(D.read (j:Int)).1\/
  ∃q,q<gN s.size/\j=a+q/\Mix (D.read (j:Int)).1 (leaf number q (part s q)) ((D2.eY mask torn cut).read (j:Int)).1:=λD2 h1 h2 j hj=>by
  have YR:j<D.safe.length:=by omega
  have hce:(D2.eY mask torn cut).safe=fo mask torn (min2 (max2 cut 0) 128) D.safe D1.later D1.later.length:=by rw[nW,h1,h2]
  have TO:j<(D2.eY mask torn cut).safe.length:=by rw[hce,jI];exact YR
  have hr:((D2.eY mask torn cut).read (j:Int)).1=(D2.eY mask torn cut).safe[j]:=by rw[Ag (by rw[nW]) TO]
  have hx:(D2.eY mask torn cut).safe[j]?=some ((D2.eY mask torn cut).safe[j]):=aj TO;have E9:(D1.later.map (·.1.toNat)).Nodup:=by
   rw[GO,pD];have:((λp:Int×BA=>p.1.toNat)∘λq:Nat=>(((a:Nat):Int)+(q:Int),aX.pad (leaf number q (part s q))))=λq:Nat=>a+q:=by
    funext q;simp only[Function.comp];omega
   rw[this];exact List.Pairwise.map (λq=>a+q) (λx y(Xu:x≠y)=>by show a+x≠a+y;omega) (List.nodup_range' 1 (by decide))
  have adF:=El mask torn (min2 (max2 cut 0) 128) (Wc cut) D.safe D1.later E9 (λp hp=>by
   have:=Ku.later p hp
   rw[tV] at this
   exact this.2) j YR D1.later.length (aH _)
  rw[<-hce,hx] at adF;rw[hr];generalize (D2.eY mask torn cut).safe[j]=X at *;rcases adF with⟨_,h⟩|⟨k,p,hk,Xq,YJ,Y,hY,hM⟩
  ·left
   rw[hold j hj];rw[aj YR] at h;exact aY.inj h
  ·right
   cases hY
   rw[GO] at Xq;obtain⟨r1,r2,r3⟩:=J' (a) 0 m 0 number s k p Xq;refine⟨k,by omega,by omega,?_⟩;rw[hold j hj,<-abH k (by omega),<-r3];have:D.safe.getD j .empty=D.safe[j]:=by simp[YR]
   rw[<-this];exact hM
 have qj:∀D2:aX,D2.safe.length=n->(D2.eY mask torn cut).safe.length=n:=λD2 h=>by rw[nW];simp only[jI];exact h
 have ad2:D1.safe.length=n:=by rw[tV];exact hlen
 by_cases he:e=0
 ·subst he;rw[ag (by simp)];unfold aX.sync;cases hf:D1.wz with
  |true=>
   rw[ai rfl];exact⟨key D1.tick tV rfl,λh=>by simp at h,zW (D:=D1.tick) ⟨Ku.safe,Ku.later,Ku.og,Ku.less⟩ mask torn cut,qj D1.tick ad2⟩
  |false=>
   rw[ag rN];have Lg:=fG rfl;subst Lg;have SR:=JZ Ku;unfold aX.sync at SR;rw[hf,ag rN] at SR;generalize hD3:({Go.cF.aX.tick D1 with safe:=D1.later.foldl aX.put D1.safe,later:=[]}:aX)=D3 at *;have h3s:D3.safe=D1.later.foldl aX.put D.safe:=by rw[<-hD3,<-tV]
   have h3l:D3.later=[]:=by rw[<-hD3]
   have h3n:D3.safe.length=n:=by rw[h3s,oO];exact hlen
   have N2:(D3.eY mask torn cut).safe=D3.safe:=by rw[nW,h3l];rfl
   have Xo:∀j(hj:j<n),((D3.eY mask torn cut).read (j:Int)).1=(aX.last D1.later (j:Int)).getD (D.read (j:Int)).1:=λj hj=>by
    have TO:j<(D3.eY mask torn cut).safe.length:=by rw[qj D3 h3n];exact hj
    have YR:j<D.safe.length:=by omega
    rw[Ag (by rw[nW]) TO,hold j hj];have h1:=Dk.A0 (i:=(j:Int)) (by omega) D1.later D.safe (by omega) (λp hp=>(Ku.later p hp).2.1);rw[ak,<-h3s,<-N2,ka,aj TO,ka,aj YR] at h1;exact h1
   have Jl:∀j:Nat,aX.last D1.later (j:Int)=if a<=j/\j<a+gN s.size then some (aX.pad (leaf number ((j-a:Nat):Int) (part s (j-a)))) else none:=λj=>by
    rw[GO,<-List.range_eq_range',GC (a) (λq=>aX.pad (leaf number q (part s q))) (j:Int) (gN s.size)];by_cases hj:a<=j/\j<a+gN s.size
    ·rw[ai hj,ai (by omega)];have:((j:Int) -((a:Nat):Int)).toNat=j-a:=by omega
     rw[this]
    ·rw[ag hj,ag (by omega)]
   refine⟨λj hj=>?_,λ_ q hq=>?_,zW SR mask torn cut,qj D3 h3n⟩
   ·rw[Xo j hj,Jl j];by_cases hjr:a<=j/\j<a+gN s.size
    ·right
     refine⟨j-a,by omega,by omega,.inr (.inl ?_)⟩;rw[ai hjr,dE,abH _ (by omega)]
    ·left;rw[ag hjr];rfl
   ·rw[Xo _ (by omega),Jl,ai (by omega),dE,show a+q-a=q from by omega,abH q hq]
 ·rw[ai he];exact⟨key D1 tV rfl,λh=>aQ h he,zW Ku mask torn cut,qj D1 ad2⟩
def SH:∀n:Fin 256,le .i64 8 (n.val:Int)=UInt8.ofNat n.val::bu 7 0:=by decide+kernel
def Mu{n:Nat}(h:n<256):le .i64 8 (n:Int)=UInt8.ofNat n::bu 7 0:=SH ⟨n,h⟩
structure Ends(g:Nat)(X:BA):Prop where
 size:X.size=128
 hd:∃a,a<=g/\X.data.toList.take 8=le .i64 8 ((a:Nat):Int)
 tl:∃b,b<=g/\X.data.toList.drop 120=le .i64 8 ((b:Nat):Int)
def Ends.mono{g g':Nat}{X:BA}(h:Ends g X)(hg:g<=g'):Ends g' X:=by
 obtain⟨h1,⟨a,h2,h3⟩,b,h4,h5⟩:=h;exact⟨h1,⟨a,by omega,h3⟩,b,by omega,h5⟩
def GZ:Ends 0 (nC 128):=⟨vc 128,⟨0,aH _,by rw[Fq];decide+kernel⟩,0,aH _,by rw[Fq];decide+kernel⟩
def nN{n i:Int}{s:BA}(h:ft n i s):(leaf n i s).data.toList=mS n i s:=by unfold leaf;rw[ai h];rfl
def Dt{n:Nat}{i:Int}{s:BA}(h:ft n i s):Ends n (leaf n i s):=
 ⟨uY h,⟨n,aH _,by rw[nN h,zL]⟩,n,aH _,by rw[nN h,wV h.2.2.2.2]⟩
def wk{n:Nat}(h:n<256):numOf (bs (le .i64 8 ((n:Nat):Int)))=n:=by
 unfold numOf;show(if 1<=nE (le .i64 8 (n:Int))/\nE (le .i64 8 (n:Int))<=1152921504606846976 then _ else _)=_;rw[pJ ⟨by omega,by omega⟩];by_cases h0:n=0
 ·subst h0;rfl
 ·rw[ai ⟨by omega,by omega⟩];show nE (le .i64 8 (n:Int))=_;rw[pJ ⟨by omega,by omega⟩]
def Ends.num{g:Nat}{X:BA}(h:Ends g X)(hg:g<256):numOf (Dp X)<=g/\numOf (CT X)<=g:=by
 obtain⟨h1,⟨a,h2,h3⟩,b,h4,h5⟩:=h;have e1:Dp X=bs (le .i64 8 ((a:Nat):Int)):=kZ (by rw[MO,h3];rfl);have e2:CT X=bs (le .i64 8 ((b:Nat):Int)):=kZ (by rw[Ly h1,h5];rfl);rw[e1,e2,wk (by omega),wk (by omega)];omega
def Aq{D:aX}{g:Nat}(hg:g<256)(j:Nat)(h:∀i:Nat,i<j->Ends g (D.read (i:Int)).1):fr D j<=g:=Rk (by omega) j (λi hi=>(h i hi).num hg)
def Ot{n a:Nat}(hn:n<256)(ha:a<256)(k:Nat)(hk:k<=8):(le .i64 8 ((n:Nat):Int)).take k++(le .i64 8 ((a:Nat):Int)).drop k=if k=0 then le .i64 8 ((a:Nat):Int) else le .i64 8 ((n:Nat):Int):=by
 rw[Mu hn,Mu ha];cases k with
 |zero=>rfl
 |succ k=>
  rw[ag (by omega),List.take_succ_cons,List.drop_succ_cons,lV]
  congr 1
  exact dy k _
def De{n:Nat}{g:Nat}{i:Int}{s old X:BA}(hn:g<n)(YO:n<256)(Br:ft n i s)(ho:Ends g old)(hm:Mix old (leaf n i s) X):
 Ends n X/\(X=old\/X=leaf n i s\/mw X.data.toList=none):=by
 rcases hm with h|h|⟨c,hc,h⟩
 ·rw[h];exact⟨ho.mono (by omega),.inl rfl⟩
 ·rw[h];exact⟨Dt Br,.inr (.inl rfl)⟩
 ·obtain⟨o1,⟨a,ha,oh⟩,b,hb,ot⟩:=ho;have hl:=nN Br;have Jk:(mS n i s).length=128:=yo Br.2.2.2.2;have hol:old.data.toList.length=128:=by rw[fe];exact o1
  have hX:X.data.toList=(mS n i s).take c++old.data.toList.drop c:=by
   have e2:(old.extract c old.size).data.toList=old.data.toList.drop c:=by
    rw[extract_toList,bS (by rw[aT,fe];exact aH _)]
   rw[h,ByteArray.data_append,Array.toList_append,e2,extract_toList,jn,Nat.sub_zero,hl]
  have hXs:X.size=128:=by
   rw[<-fe,hX,aw,aD,aT,Jk,hol];omega
  have h8:X.data.toList.take 8=(le .i64 8 ((n:Nat):Int)).take (min c 8)++(le .i64 8 ((a:Nat):Int)).drop (min c 8):=by
   rw[hX,<-oh,<-zL (n:=n) (i:=i) (s:=s),List.take_append,yO,yO,aD,Jk,List.drop_take,show min (min c 8) 8=min 8 c from by omega,show min c 128=c from by omega]
   congr 1
   by_cases h8:c<=8
   ·rw[show min c 8=c from by omega]
   ·rw[show 8-c=0 from by omega,show 8-min c 8=0 from by omega,ox,ox]
  have Kv:X.data.toList.drop 120=(le .i64 8 ((n:Nat):Int)).take (c-120)++(le .i64 8 ((b:Nat):Int)).drop (c-120):=by
   rw[hX,<-ot,<-wV (n:=n) (i:=i) Br.2.2.2.2,List.drop_append,List.drop_take,aD,Jk,kd,kd,show min c 128=c from by omega]
   congr 2
   omega
  rw[Ot YO (by omega) _ (by omega)] at h8 Kv;by_cases hc0:c=0
  ·have:X=old:=kZ (by rw[hX,hc0,ox,cw,jn]);rw[this];exact⟨⟨o1,⟨a,by omega,oh⟩,b,by omega,ot⟩,.inl rfl⟩
  ·rw[ag (by omega)] at h8;by_cases hc1:c<=120
   ·rw[ai (by omega)] at Kv;refine⟨⟨hXs,⟨n,aH _,h8⟩,b,by omega,Kv⟩,.inr (.inr ?_)⟩;cases hv:mw X.data.toList with
    |none=>rfl
    |some y=>
     exfalso;obtain⟨m,j,d⟩:=y;obtain⟨v1,v2,v3,v4,_,_⟩:=OC hv;rw[UE v2 v1,Kv] at v3;unfold sN at v3;rw[h8,pJ ⟨by omega,by omega⟩,pJ ⟨by omega,by omega⟩] at v3;omega
   ·rw[ag (by omega)] at Kv;refine⟨⟨hXs,⟨n,aH _,h8⟩,n,aH _,Kv⟩,.inr (.inl ?_)⟩;apply kZ;rw[hl];refine(dy 120 _).symm.trans (Eq.trans ?_ (dy 120 _));rw[Kv,wV Br.2.2.2.2,hX,List.take_append_of_le_length (by rw[aD,Jk];omega),yO,show min 120 c=120 from by omega]
structure gF where
 bC:Int
 number:Int
 size:Int
 seq:Int
deriving DecidableEq
def cr(h:gF):LV:=[.i h.bC,.i h.number,.i h.size,.i h.seq]
def od(h:gF):Prop:=1<=h.bC/\h.bC<=1152921504606846976/\1<=h.number/\h.number<=1152921504606846976/\0<=h.size/\h.size<=425984/\0<=h.seq/\h.seq<=1152921504606846976
instance(h:gF):Decidable (od h):=by unfold od;infer_instance
def kz(h:gF):List UInt8:=le .i64 8 h.bC++le .i64 8 h.number++le .i64 8 h.size++le .i64 8 h.seq
def qJ(h:gF):(kz h).length=32:=by simp only[kz,aw,aO]
def Fs:gF:=⟨0,0,0,0⟩
def yz(l:List UInt8):gF:=⟨nE (l.take 8),nE ((l.drop 8).take 8),nE (((l.drop 8).drop 8).take 8),nE ((((l.drop 8).drop 8).drop 8).take 8)⟩
def IN(l:List UInt8):Option gF:=if l.length=32/\od (yz l) then some (yz l) else none
def MM{h:gF}(hg:od h):IN (kz h)=some h:=by
 obtain⟨h1,h2,h3,h4,h5,h6,h7,h8⟩:=hg;have yw:kz h=le .i64 8 h.bC++(le .i64 8 h.number++(le .i64 8 h.size++le .i64 8 h.seq)):=by simp only[kz,aI]
 have tl:∀(a b:List UInt8)(m:Nat),a.length=m->(a++b).take m=a:=λa b m hm=>by subst hm;exact DG
 have dl:∀(a b:List UInt8)(m:Nat),a.length=m->(a++b).drop m=b:=λa b m hm=>by subst hm;exact List.drop_left
 have e:yz (kz h)=h:=by
  unfold yz;rw[yw,tl _ _ _ (aO _ _ _),dl _ _ _ (aO _ _ _),tl _ _ _ (aO _ _ _),dl _ _ _ (aO _ _ _),tl _ _ _ (aO _ _ _),dl _ _ _ (aO _ _ _),bS (by rw[aO];omega)];rw[pJ ⟨by omega,h2⟩,pJ ⟨by omega,h4⟩,pJ ⟨h5,by omega⟩,pJ ⟨h7,h8⟩]
 unfold IN;rw[e,ai ⟨qJ h,h1,h2,h3,h4,h5,h6,h7,h8⟩]
def qI:Option gF->Value
 |none=>.tuple ⟨[.agg ⟨cr Fs⟩,.b false]⟩
 |some h=>.tuple ⟨[.agg ⟨cr h⟩,.b true]⟩
section
variable {W w:World} {L:LH} {k:Nat}
def G9{h:gF}{K:VK}(hs:St W w L)(hK:∀w',St W w' L->K (.b (decide (od h))) w'):vE (cr h) K w:=by
 unfold vE;refine jq hs λr w hs=>?_;have hh:=hK w hs.drop;have no: ¬od h->K (.b false) w:=λhn=>by rw[ar hn] at hh;exact hh
 refine db (k:=0) hs rfl rfl ?_;simp only[nz,ae,af];refine gj (λh1=>?_) (λh1=>no (by unfold od;omega));refine db (k:=0) hs rfl rfl ?_;simp only[nz,ae,af];refine gj (λh2=>?_) (λh1=>no (by unfold od;omega));refine db (k:=0) hs rfl rfl ?_;simp only[nz,ae,af];refine gj (λh3=>?_) (λh1=>no (by unfold od;omega));refine db (k:=0) hs rfl rfl ?_;simp only[nz,ae,af];refine gj (λh4=>?_) (λh1=>no (by unfold od;omega));refine db (k:=0) hs rfl rfl ?_;simp only[nz,ae,af];refine gj (λh5=>?_) (λh1=>no (by unfold od;omega));refine db (k:=0) hs rfl rfl ?_;simp only[nz,ae,af];refine gj (λh6=>?_) (λh1=>no (by unfold od;omega));refine db (k:=0) hs rfl rfl ?_;simp only[nz,ae,af];refine gj (λh7=>?_) (λh1=>no (by unfold od;omega));refine db (k:=0) hs rfl rfl ?_;simp only[nz,ae,af];have:decide (h.seq<=1152921504606846976)=decide (od h):=by rw[decide_eq_decide];unfold od;omega
 rw[this];exact hh
def Fb(h:gF):List UInt8×Int:=if od h then(kz h,0) else([],1)
def Nn{h:gF}{K:VK}(hs:St W w L)(hK:∀w',St W w' L->K (.tuple ⟨[.s (bs (Fb h).1),.i (Fb h).2]⟩) w'):wD (cr h) K w:=by
 unfold wD;refine jq hs λr w hs=>?_;refine kx (k:=0) (xs:=cr h) hs rfl rfl (λj v hj=>by rw[aC];exact hj) ?_;refine G9 hs λw hs=>?_;simp only[nz,ae,af];unfold Fb at hK;by_cases hg:od h
 ·rw[ai hg] at hK;rw[av hg];simp only[nz,ae,af];refine jq hs λp w hs=>?_;have hs:St W w (buf p []::pt r (cr h)::L):=by
   have h2:=(hs.push (A:=own none 0 0 1 (([]:List UInt8).map vZ)) (sm 1)).perm (bZ.swap _ _ _);exact u3 (k:=0) (L:=buf p []::pt r (cr h)::L) (A:=buf p []) rfl rfl h2
  refine db (k:=1) hs rfl rfl ?_;simp only[nz,ae,af];refine db (k:=1) hs rfl rfl ?_;simp only[nz,ae,af];refine db (k:=1) hs rfl rfl ?_;simp only[nz,ae,af];refine db (k:=1) hs rfl rfl ?_;simp only[nz,ae,af];refine⟨λus w'=>∃j:Nat,us=[.s .empty,.i 0,.p (ah p),.agg ⟨cr h⟩,.i j]/\j<=4/\St W w' (buf p ((kz h).take (8* j))::pt r (cr h)::L),
   λus _=>match us with|[_,_,_,_,.int _ j]=>4-j.toNat|_=>0,⟨0,rfl,aE _,hs⟩,?_⟩
  rintro s1 n5 a1 Dx n6 w2 ⟨j,he,hj,hs⟩;cases he
  refine uf (λh0=>?_) (λh0=>?_)
  ·have hj4:j<4:=by have:=aR h0;omega
   have e5:=nK j;obtain⟨n,hn,gM⟩:∃n,(cr h)[(j:Int).toNat]?=some (.i n)/\(kz h).take (8* j)++le .i64 8 n=(kz h).take (8* (j+1)):=by
    have yw:kz h=le .i64 8 h.bC++(le .i64 8 h.number++(le .i64 8 h.size++le .i64 8 h.seq)):=by simp only[kz,aI]
    have ll:∀n,(le .i64 8 n).length=8:=λn=>aO _ _ _
    match j,hj4 with
    |0,_=>exact⟨h.bC,rfl,by rw[yw,List.take_append_of_le_length (by rw[ll];omega),List.take_append_of_le_length (by rw[ll];omega),bS (l:=le .i64 8 h.bC) (i:=8* (0+1)) (by rw[ll];omega)];simp⟩
    |1,_=>exact⟨h.number,rfl,by simp only[kz,List.take_append,ll,aw];simp[bS,ll]⟩
    |2,_=>exact⟨h.size,rfl,by simp only[kz,List.take_append,ll,aw];simp[bS,ll]⟩
    |3,_=>exact⟨h.seq,rfl,by simp only[kz,List.take_append,ll,aw];simp[bS,ll]⟩
   refine⟨.i n,⟨by omega,by omega,hn⟩,?_⟩;simp only[nz,ae,af];refine kK (k:=0) hs rfl (by rw[aD];omega) λw hs=>?_;rw[show(min2 (max2 8 1) 8).toNat=8 from rfl,gM] at hs;simp only[nz,ae,af] at hs⊢;rw[e5];exact⟨⟨j+1,rfl,by omega,hs⟩,by omega⟩
  ·have hj4:j=4:=by have:=bn h0;omega
   subst hj4;rw[bS (by rw[qJ];omega)] at hs;refine np (k:=0) hs rfl ?_;simp only[nz,ae,af];exact hK w2 hs.drop.drop
 ·rw[ag hg] at hK;rw[ar hg];simp only[nz,ae,af];exact hK w hs.drop
end
def DR{l:List UInt8}{n j:Int}{d:BA}(h:mw l=some (n,j,d)):d.size<=104:=by
 unfold mw at h;split at h
 ·cases h
 split at h
 ·cases h
 split at h
 ·cases h
 split at h
 ·cases h
 split at h
 ·cases h
 split at h
 ·cases h
 rename_i h6;cases h
 exact(bm.1 h6).2.2.2.2
def nx(x:List UInt8×Bool):List UInt8×Bool:=if x.2=true\/x.1.length<8 then(x.1,true) else(x.1.drop 8,false)
def nv(x:List UInt8×Bool):Int:=if x.2=true\/x.1.length<8 then 0 else nE (x.1.take 8)
section
variable {W w:World} {L:LH} {k d:Nat} {D:aX}
def Ay{r:Nat}{x:List UInt8×Bool}{K:VK}(h:St W w L)(hk:L[k]?=some (EC r (bs x.1) x.2))(hl:x.1.length<1099511627776)
 (hK:∀w',St W w' (L.set k (EC r (bs (nx x).1) (nx x).2))->K (.i (nv x)) w'):aN (ah r) 8 K w:=by
 refine CJ h hk ?_;have em:min2 (max2 8 1) 8=((8:Nat):Int):=rfl;rw[em];obtain⟨l,t⟩:=x;unfold nx nv at hK;dsimp only at hK hl⊢;by_cases hc:t=true\/l.length<8
 ·rw[ai hc,ai hc] at hK;have et:sP (bs l) t ((8:Nat):Int)=true:=by
   unfold sP;rcases hc with h1|h1
   ·rw[h1];rfl
   ·rw[cj,av (by omega)];simp
  unfold ED zB;rw[et,ai rfl,ai rfl];exact hK
 ·rw[ag hc,ag hc] at hK;have ht:t=false:=by cases t<;>simp_all
  have et:sP (bs l) t ((8:Nat):Int)=false:=by
   unfold sP;rw[ht,cj,ar (by omega)];rfl
  unfold ED zB;rw[et,ak,pc,o9];exact hK
def NL{r:Nat}{x:List UInt8×Bool}{K:VK}(h:St W w L)(hk:L[k]?=some (EC r (bs x.1) x.2))(hK:K (.b (!x.2&&decide (x.1=[]))) w):ml (ah r) K w:=by
 unfold EC at hk;unfold ml;simp only[nz,ae,af];refine db h hk rfl ?_;simp only[nz,ae,af];obtain⟨l,t⟩:=x;cases t with
 |true=>exact hK
 |false=>
  simp only[nz,ae,af];refine db h hk rfl ?_;simp only[nz,ae,af];have hem:(⟨#[]⟩:BA)=bs []:=rfl;have e:decide (bs l=bs [])=decide (l=[]):=by rw[decide_eq_decide];exact BC
  rw[s7,hem,e];exact hK
def E0{x:List UInt8×Bool}(h:(nx x).2=false):x.2=false/\8<=x.1.length/\(nx x).1.length+8=x.1.length:=by
 unfold nx at h⊢;by_cases hc:x.2=true\/x.1.length<8
 ·rw[ai hc] at h;cases h
 ·rw[ag hc];have h1:x.2=false:=by cases hx:x.2 with
   |true=>exact aQ (.inl hx) hc
   |false=>rfl
  have h2:8<=x.1.length:=by
   by_cases hh:8<=x.1.length
   ·exact hh
   ·exact aQ (.inr (by omega)) hc
  refine⟨h1,h2,?_⟩;show(x.1.drop 8).length+8=x.1.length;rw[aT];omega
def Yl{l:List UInt8}(h:l.length≠32):(!(nx (nx (nx (nx (l,false))))).2&&decide ((nx (nx (nx (nx (l,false))))).1=[]))=false:=by
 cases h4:(nx (nx (nx (nx (l,false))))).2 with
 |true=>rfl
 |false=>
  obtain⟨b3,c3,d3⟩:=E0 h4;obtain⟨b2,c2,d2⟩:=E0 b3;obtain⟨b1,c1,d1⟩:=E0 b2;obtain⟨b0,c0,d0⟩:=E0 b1;have kN:(nx (nx (nx (nx (l,false))))).1≠[]:=λhe=>by
   rw[he,cO] at d3;dsimp only at d0;omega
  rw[ar kN];rfl
def abr{l:List UInt8}(h:l.length=32):nx (l,false)=(l.drop 8,false)/\nx (l.drop 8,false)=((l.drop 8).drop 8,false)/\nx ((l.drop 8).drop 8,false)=(((l.drop 8).drop 8).drop 8,false)/\nx (((l.drop 8).drop 8).drop 8,false)=([],false)/\
 nv (l,false)=nE (l.take 8)/\nv (l.drop 8,false)=nE ((l.drop 8).take 8)/\nv ((l.drop 8).drop 8,false)=nE (((l.drop 8).drop 8).take 8)/\nv (((l.drop 8).drop 8).drop 8,false)=nE ((((l.drop 8).drop 8).drop 8).take 8):=by
 have l1:(l.drop 8).length=24:=by rw[aT];omega
 have l2:((l.drop 8).drop 8).length=16:=by rw[aT,l1]
 have l3:(((l.drop 8).drop 8).drop 8).length=8:=by rw[aT,l2]
 have l4:(((l.drop 8).drop 8).drop 8).drop 8=[]:=List.drop_eq_nil_iff.2 (by omega);unfold nx nv;refine⟨?_,?_,?_,?_,?_,?_,?_,?_⟩
 ·rw[ag (by simp;omega)]
 ·rw[ag (by simp only[cJ,false_or];omega)]
 ·rw[ag (by simp only[cJ,false_or];omega)]
 ·rw[ag (by simp only[cJ,false_or];omega),l4]
 ·rw[ag (by simp;omega)]
 ·rw[ag (by simp only[cJ,false_or];omega)]
 ·rw[ag (by simp only[cJ,false_or];omega)]
 ·rw[ag (by simp only[cJ,false_or];omega)]
def OM(x:List UInt8×Bool):(nx x).1.length<=x.1.length:=by unfold nx;split<;>simp
def PB{l:List UInt8}{K:VK}(hs:St W w L)(hl:l.length<1099511627776)(hK:∀w',St W w' L->K (qI (IN l)) w'):yH (bs l) K w:=by
 unfold yH;refine jq hs λr1 w hs=>?_;refine sY hs λq w hs=>?_;simp only[nz,ae,af];have n1:=OM (l,false);have n2:=OM (nx (l,false));have n3:=OM (nx (nx (l,false)));dsimp only at n1;refine Ay (k:=0) (x:=(l,false)) hs rfl hl λw hs=>?_;simp only[nz,ae,af] at hs⊢;refine Ay (k:=0) (x:=nx (l,false)) hs rfl (by omega) λw hs=>?_;simp only[nz,ae,af] at hs⊢;refine Ay (k:=0) (x:=nx (nx (l,false))) hs rfl (by omega) λw hs=>?_;simp only[nz,ae,af] at hs⊢;refine Ay (k:=0) (x:=nx (nx (nx (l,false)))) hs rfl (by omega) λw hs=>?_;simp only[nz,ae,af] at hs⊢;refine jq hs λr2 w hs=>?_;refine⟨by simp,?_⟩;refine ko (k:=0) hs rfl (aK rfl) (by simp[Value.oneCell']) λw hs=>?_;rw[ja (by simp)] at hs;simp only[nz,ae,af] at hs;refine NL (k:=1) (x:=nx (nx (nx (nx (l,false))))) hs rfl ?_;simp only[nz,ae,af];have fail:∀w A B,(∀w',St W w' L->K (qI none) w')->St W w (A::B::pt r1 [.i 0,.i 0,.i 0,.i 0]::L)->kj ⟨r1,0,none⟩ [.i 0,.i 0,.i 0,.i 0] (aJ ⟨r1,0,none⟩ 4 λcs=>K (.tuple ⟨[.agg ⟨cs⟩,.b false]⟩)) w:=λw A B hK hs=>by
  refine ko (k:=2) hs rfl (aK rfl) (by simp[Value.oneCell']) λw hs=>?_;rw[ja (by simp)] at hs;refine kx (k:=2) (xs:=[.i 0,.i 0,.i 0,.i 0]) hs rfl rfl (λj v hj=>by rw[aC];exact hj) ?_;exact hK w hs.drop.drop.drop
 unfold IN at hK;by_cases h32:l.length=32
 ·obtain⟨a1,a2,a3,a4,b1,b2,b3,b4⟩:=abr h32;rw[a1,a2,a3,a4] at hs⊢;rw[b1,b2,b3,b4] at hs;have ee:(!((([]:List UInt8),false):List UInt8×Bool).2&&decide ((((([]:List UInt8),false):List UInt8×Bool)).1=[]))=true:=by decide
  rw[ee];simp only[nz,ae,af];have hs:St W w (pt r2 (cr (yz l))::EC q (bs []) false::pt r1 [.i 0,.i 0,.i 0,.i 0]::L):=hs;refine kx (k:=0) (xs:=cr (yz l)) hs rfl rfl (λj v hj=>by rw[aC];exact hj) ?_;refine G9 hs λw hs=>?_;simp only[nz,ae,af];by_cases hg:od (yz l)
  ·rw[ai ⟨h32,hg⟩] at hK;rw[av hg];simp only[nz,ae,af];refine kx (k:=0) (xs:=cr (yz l)) hs rfl rfl (λj v hj=>by rw[aC];exact hj) ?_;refine⟨rfl,?_⟩;refine ko (k:=2) hs rfl (aK rfl) (by simp[Value.oneCell',cr]) λw hs=>?_;rw[ja (by simp[cr])] at hs;simp only[nz,ae,af] at hs;refine kx (k:=2) (xs:=cr (yz l)) hs rfl rfl (λj v hj=>by rw[aC];exact hj) ?_;exact hK w hs.drop.drop.drop
  ·rw[ag (λhh=>hg hh.2)] at hK;rw[ar hg];simp only[nz,ae,af];exact fail w _ _ hK hs
 ·rw[ag (λhh=>h32 hh.1)] at hK;rw[Yl h32];simp only[nz,ae,af];exact fail w _ _ hK hs
def BD(D:aX)(i:Nat):Option gF:=
 match mw (D.read (i:Int)).1.data.toList with
 |none=>none
 |some (_,j,d)=>if(D.read (i:Int)).2≠0\/j≠0 then none else match IN d.data.toList with
  |none=>none
  |some h=>if low h.bC≠i then none else some h
def RB{i:Nat}{K:VK}(hs:St W w L)(hk:L[k]?=some (gU d D))(iH:D.Ok)(hK:∀w',St W w' L->K (qI (BD D i)) w'):pN (ah d) i K w:=by
 unfold pN;refine jq hs λr1 w hs=>?_;have TN:(pt r1 [.i 0,.i 0,.i 0,.i 0]::L)[k+1]?=some (gU d D):=by rw[bT];exact hk
 refine sG (k:=k+1) hs TN iH ?_;simp only[nz,ae,af];have fail:∀w A,(∀w',St W w' L->K (qI none) w')->St W w (A::pt r1 [.i 0,.i 0,.i 0,.i 0]::L)->kj ⟨r1,0,none⟩ [.i 0,.i 0,.i 0,.i 0] (aJ ⟨r1,0,none⟩ 4 λcs=>K (.tuple ⟨[.agg ⟨cs⟩,.b false]⟩)) w:=λw A hK hs=>by
  refine ko (k:=1) hs rfl (aK rfl) (by simp[Value.oneCell']) λw hs=>?_;rw[ja (by simp)] at hs;refine kx (k:=1) (xs:=[.i 0,.i 0,.i 0,.i 0]) hs rfl rfl (λj v hj=>by rw[aC];exact hj) ?_;exact hK w hs.drop.drop
 have Rp:∀w r2 A,(∀w',St W w' L->K (qI none) w')->St W w (A::pt r1 [.i 0,.i 0,.i 0,.i 0]::L)->pN.j1 K r1 r2 i true w:=λw r2 A hK hs=>by
  unfold pN.j1;simp only[nz,ae,af];exact fail w A hK hs
 have hxs:(D.read (i:Int)).1.size<1099511627776:=by
  by_cases hi:D.is (i:Int)
  ·have:=Af iH hi;omega
  ·unfold aX.read;rw[ag hi];decide
 unfold BD at hK;generalize hx:(D.read (i:Int)).1=x at *;generalize he:(D.read (i:Int)).2=e at *;rw[show x=bs x.data.toList from rfl];refine DE hs (by rw[fe];exact hxs) λw hs=>?_;cases hv:mw x.data.toList with
 |none=>
  rw[hv] at hK;unfold uL;simp only[nz,ae,af];simp only[yQ,bE,cO,aC,ae,true_and];simp only[nz,ae,af];refine jq hs λr2 w hs=>?_;refine⟨trivial,ko (k:=0) hs rfl (aK rfl) (by simp[Value.oneCell']) λw hs=>?_⟩;simp only[nz,ae,af] at hs;refine vN (λ_=>Rp w r2 _ hK hs) (λ_=>?_);exact Rp w r2 _ hK hs
 |some y=>
  obtain⟨m,j,dd⟩:=y;rw[hv] at hK;dsimp only at hK;unfold uL;simp only[nz,ae,af];simp only[yQ,bE,cO,aC,ae,true_and];simp only[nz,ae,af];refine jq hs λr2 w hs=>?_;refine⟨trivial,ko (k:=0) hs rfl (aK rfl) (by simp[Value.oneCell']) λw hs=>?_⟩;rw[ja (by simp)] at hs;simp only[nz,ae,af] at hs;refine vN (λkN=>?_) (λh0=>?_)
  ·rw[ai (.inl kN)] at hK;exact Rp w r2 _ hK hs
  refine db (k:=0) hs rfl rfl ?_;simp only[nz,ae,af];by_cases hj:j=0
  ·rw[ag (by rintro(h|h);exact h h0;exact h hj)] at hK;have ej:(j !=0)=false:=by simp[hj]
   rw[ej];unfold pN.j1;simp only[nz,ae,af];refine db (k:=0) hs rfl rfl ?_;simp only[nz,ae,af];rw[show dd=bs dd.data.toList from rfl];refine PB hs (by
    rw[fe]
    have:=(DR hv)
    omega) λw hs=>?_
   cases hh:IN dd.data.toList with
   |none=>
    rw[hh] at hK;unfold qI;simp only[nz,ae,af];simp only[yQ];refine⟨rfl,?_⟩;simp only[nz,ae,af];refine jq hs λr3 w hs=>?_;refine⟨by simp[cr],ko (k:=0) hs rfl (aK rfl) (by simp[Value.oneCell',cr]) λw hs=>?_⟩;rw[ja (by simp[cr])] at hs;simp only[nz,ae,af] at hs;refine⟨trivial,by simp,?_⟩;refine ko (k:=2) hs rfl (aK rfl) (by simp[Value.oneCell']) λw hs=>?_;rw[ja (by simp)] at hs;simp only[nz,ae,af] at hs;refine kx (k:=2) (xs:=[.i 0,.i 0,.i 0,.i 0]) hs rfl rfl (λj v hj=>by rw[aC];exact hj) ?_;exact hK w hs.drop.drop.drop
   |some hd=>
    rw[hh] at hK;dsimp only at hK;unfold qI;simp only[nz,ae,af];simp only[yQ];refine⟨rfl,?_⟩;simp only[nz,ae,af];refine jq hs λr3 w hs=>?_;refine⟨by simp[cr],ko (k:=0) hs rfl (aK rfl) (by simp[Value.oneCell',cr]) λw hs=>?_⟩;rw[ja (by simp[cr])] at hs;simp only[nz,ae,af] at hs;refine db (k:=0) hs rfl rfl ?_;simp only[nz,ae,af];refine vN (λkN=>?_) (λheq=>?_)
    ·rw[ai (show low hd.bC≠(i:Int) from kN)] at hK;refine⟨trivial,by simp,?_⟩;refine ko (k:=2) hs rfl (aK rfl) (by simp[Value.oneCell']) λw hs=>?_;rw[ja (by simp)] at hs;simp only[nz,ae,af] at hs;refine kx (k:=2) (xs:=[.i 0,.i 0,.i 0,.i 0]) hs rfl rfl (λj v hj=>by rw[aC];exact hj) ?_;exact hK w hs.drop.drop.drop
    ·rw[ag (show ¬low hd.bC≠(i:Int) from λhh=>hh heq)] at hK;refine kx (k:=0) (xs:=cr hd) hs rfl rfl (λj v hj=>by rw[aC];exact hj) ?_;refine⟨rfl,?_⟩;refine ko (k:=2) hs rfl (aK rfl) (by simp[Value.oneCell',cr]) λw hs=>?_;rw[ja (by simp[cr])] at hs;simp only[nz,ae,af] at hs;refine kx (k:=2) (xs:=cr hd) hs rfl rfl (λj v hj=>by rw[aC];exact hj) ?_;exact hK w hs.drop.drop.drop
  ·rw[ai (.inr hj)] at hK;have ej:(j !=0)=true:=by simp[hj]
   rw[ej];exact Rp w r2 _ hK hs
end
def gh(n:Nat)(x:List UInt8×Bool):List UInt8×Bool:=if x.2=true\/x.1.length<n then(x.1,true) else(x.1.drop n,false)
def lF(n:Nat)(x:List UInt8×Bool):Int:=if x.2=true\/x.1.length<n then 0 else nE (x.1.take n)
def Ki(x:List UInt8×Bool):0<=lF 4 x/\lF 4 x<4294967296:=by
 unfold lF;split
 ·omega
 ·have h1:=rX (x.1.take 4);have h2:(x.1.take 4).length<=4:=by rw[aD];omega
  have h3:256^(x.1.take 4).length<=256^4:=gS (by decide) h2;have h4:(256:Nat)^4=4294967296:=rfl;rw[ou (by omega)];omega
def dv(seq:Int)(s:BA):List UInt8:=le .i64 8 seq++le .i64 4 s.size++s.data.toList
def AZ(seq:Int)(s:BA):(dv seq s).length=12+s.size:=by
 simp only[dv,aw,aO];rfl
def my(D:aX)(at' toX seq:Int):Option (List UInt8×Int):=
 if toX<=at' then none else match mw (D.read at').1.data.toList with
 |none=>none
 |some (m,j,d)=>
  if j≠0\/lF 8 (d.data.toList,false)≠seq then none
  else if(gh 4 (gh 8 (d.data.toList,false))).2=true\/32768<lF 4 (gh 8 (d.data.toList,false)) then none
  else match take D at' toX m (12+lF 4 (gh 8 (d.data.toList,false))) with
  |none=>none
  |some t=>some (t.drop 12,at'+(gN (12+lF 4 (gh 8 (d.data.toList,false))).toNat:Int))
def Ck:Option (List UInt8×Int)->Value
 |none=>.tuple ⟨[.s .empty,.i 0,.b false]⟩
 |some (l,a)=>.tuple ⟨[.s (bs l),.i a,.b true]⟩
def BU{D:aX}{at' number:Int}{size:Nat}:∀(n i:Nat) {t:List UInt8},nD D at' number size i n=some t->104* i<=size->size<=104* (i+n)->t.length=size-104* i
 |0,i,t,h,h1,h2=>by
  simp only[nD,aY.injEq] at h;subst h;simp;omega
 |n+1,i,t,h,h1,h2=>by
  rw[pg] at h;split at h
  ·cases h
  ·rename_i m j d hv;split at h
   ·rename_i hc;cases ht:nD D at' number size (i+1) n with
    |none=>rw[ht] at h;cases h
    |some u=>
     rw[ht] at h;simp only[fw,aY.injEq] at h;subst h;have hd:d.data.toList.length=d.size:=rfl;by_cases h3:104* (i+1)<=size
     ·have:=BU n (i+1) ht h3 (by omega);rw[aw,this,hd,hc.2.2];omega
     ·
      have hz:∀(n i:Nat) {u:List UInt8},nD D at' number size i n=some u->size<=104* i->u.length=0:=by
       intro n
       induction n with
       |zero=>intro i u h _;simp only[nD,aY.injEq] at h;subst h;rfl
       |succ n ih=>
        intro i u h hle;rw[pg] at h;split at h
        ·cases h
        ·rename_i m j d hv;split at h
         ·rename_i hc;cases ht:nD D at' number size (i+1) n with
          |none=>rw[ht] at h;cases h
          |some v=>
           rw[ht] at h;simp only[fw,aY.injEq] at h;subst h;have:=ih (i+1) ht (by omega);have hd:d.data.toList.length=d.size:=rfl;rw[aw,this,hd,hc.2.2];omega
         ·cases h
      have:=hz n (i+1) ht (by omega);rw[aw,this,hd,hc.2.2];omega
   ·cases h
def take_length{D:aX}{at' toX number size:Int}{t:List UInt8}(h:take D at' toX number size=some t):(t.length:Int)=size/\0<=at'/\at'+(gN size.toNat:Int)<=toX/\toX<=(D.safe.length:Int)/\0<=size:=by
 unfold take at h;split at h
 ·cases h
 ·rename_i hc;have hs:size.toNat<=104* gN size.toNat:=by unfold gN;split<;>omega
  have:=BU (gN size.toNat) 0 h (by omega) (by omega);omega
section
variable {W w:World} {L:LH} {k d:Nat} {D:aX}
def Ax{r n:Nat}{x:List UInt8×Bool}{K:VK}(h:St W w L)(hk:L[k]?=some (EC r (bs x.1) x.2))(hl:x.1.length<1099511627776)(hn:1<=n/\n<=8)
 (hK:∀w',St W w' (L.set k (EC r (bs (gh n x).1) (gh n x).2))->K (.i (lF n x)) w'):aN (ah r) (n:Int) K w:=by
 refine CJ h hk ?_;have em:min2 (max2 (n:Int) 1) 8=((n:Nat):Int):=by unfold min2 max2;split<;>split<;>omega
 rw[em];obtain⟨l,t⟩:=x;unfold gh lF at hK;dsimp only at hK hl⊢;by_cases hc:t=true\/l.length<n
 ·rw[ai hc,ai hc] at hK;have et:sP (bs l) t ((n:Nat):Int)=true:=by
   unfold sP;rcases hc with h1|h1
   ·rw[h1];rfl
   ·rw[cj,av (by omega)];simp
  unfold ED zB;rw[et,ai rfl,ai rfl];exact hK
 ·rw[ag hc,ag hc] at hK;have ht:t=false:=by cases t<;>simp_all
  have et:sP (bs l) t ((n:Nat):Int)=false:=by
   unfold sP;rw[ht,cj,ar (by omega)];rfl
  unfold ED zB;rw[et,ak,pc,o9];exact hK
def GF{r:Nat}{s:BA}{t:Bool}{K:VK}(h:St W w L)(hk:L[k]?=some (EC r s t))(hK:K (.b t) w):df (ah r) K w:=by
 unfold EC at hk;unfold df;simp only[nz,ae,af];refine db h hk rfl ?_;simp only[nz,ae,af];exact hK
def wj(n:Nat)(x:List UInt8×Bool):(gh n x).1.length<=x.1.length:=by unfold gh;split<;>simp
def Sz{at' toX seq:Int}{K:VK}(h:St W w L)(hk:L[k]?=some (gU d D))(iH:D.Ok)(CQ:0<=at')(Xl:toX<=(D.safe.length:Int))
 (hK:∀w',St W w' L->K (Ck (my D at' toX seq)) w'):gu (ah d) at' toX seq K w:=by
 have xy:=iH.og;unfold my at hK;unfold gu;refine gj (λh1=>?_) (λh1=>?_)
 ·rw[ai (by omega)] at hK;exact hK w h
 rw[ag (by omega)] at hK;refine sG h hk iH ?_;simp only[nz,ae,af];have pE:=Af iH (i:=at') ⟨by omega,by omega⟩;generalize hx:(D.read at').1=X at *;rw[show X=bs X.data.toList from rfl];refine DE h (by rw[fe];omega) λw h=>?_;cases hv:mw X.data.toList with
 |none=>
  rw[hv] at hK;unfold uL;simp only[nz,ae,af];simp only[yQ,bE,cO,aC,ae,true_and];simp only[nz,ae,af];refine jq h λr1 w h=>?_;refine⟨trivial,ko (k:=0) h rfl (aK rfl) (by simp[Value.oneCell']) λw h=>?_⟩;rw[ja (by simp)] at h;simp only[nz,ae,af] at h;refine db (k:=0) h rfl rfl ?_;simp only[nz,ae,af];refine sY h λq w h=>?_;simp only[nz,ae,af];refine Ax (k:=0) (n:=8) (x:=([],false)) h rfl (by decide) (by decide) λw h=>?_;simp only[nz,ae,af] at h⊢;unfold gu.j1;simp only[nz,ae,af];exact hK w h.drop.drop
 |some y=>
  obtain⟨m,j,dd⟩:=y;rw[hv] at hK;dsimp only at hK;have hdd:=DR hv;have AW:dd.data.toList.length=dd.size:=rfl;unfold uL;simp only[nz,ae,af];simp only[yQ,bE,cO,aC,ae,true_and];simp only[nz,ae,af];refine jq h λr1 w h=>?_;refine⟨trivial,ko (k:=0) h rfl (aK rfl) (by simp[Value.oneCell']) λw h=>?_⟩;rw[ja (by simp)] at h;simp only[nz,ae,af] at h;refine db (k:=0) h rfl rfl ?_;simp only[nz,ae,af];rw[show dd=bs dd.data.toList from rfl];refine sY h λq w h=>?_;simp only[nz,ae,af];have n1:=wj 8 (dd.data.toList,false);dsimp only at n1;refine Ax (k:=0) (n:=8) (x:=(dd.data.toList,false)) h rfl (by dsimp only;omega) (by decide) λw h=>?_;simp only[nz,ae,af] at h⊢;refine db (k:=1) h rfl (v:=.i j) rfl ?_;simp only[nz,ae,af];have stop:∀w,(∀w',St W w' L->K (Ck none) w')->St W w (EC q (bs (gh 8 (dd.data.toList,false)).1) (gh 8 (dd.data.toList,false)).2::pt r1 [.i m,.i j,.s (bs dd.data.toList)]::L)->gu.j1 K (ah q) r1 (ah d) at' toX true w:=λw hK h=>by
   unfold gu.j1;simp only[nz,ae,af];exact hK w h.drop.drop
  refine vN (λhj=>?_) (λhj=>?_)
  ·rw[ai (.inl hj)] at hK;exact stop w hK h
  by_cases hq:lF 8 (dd.data.toList,false)=seq
  ·rw[ag (by rintro(hh|hh);exact hh hj;exact hh hq)] at hK;have eb:(lF 8 (dd.data.toList,false)!=seq)=false:=by rw[hq];exact bne_self_eq_false seq
   rw[eb];unfold gu.j1;simp only[nz,ae,af];refine Ax (k:=0) (n:=4) (x:=gh 8 (dd.data.toList,false)) h rfl (by omega) (by decide) λw h=>?_;simp only[nz,ae,af] at h⊢;refine GF (k:=0) h rfl ?_;simp only[nz,ae,af];have tG:=Ki (gh 8 (dd.data.toList,false));generalize hz:gh 4 (gh 8 (dd.data.toList,false))=z at *;generalize hn6:lF 4 (gh 8 (dd.data.toList,false))=n6 at *;have Z7:∀w,(∀w',St W w' L->K (Ck none) w')->St W w (EC q (bs z.1) z.2::pt r1 [.i m,.i j,.s (bs dd.data.toList)]::L)->gu.j2 K r1 (ah d) at' toX n6 true w:=λw hK h=>by
    unfold gu.j2;simp only[nz,ae,af];exact hK w h.drop.drop
   refine uf (λht=>?_) (λht=>?_)
   ·rw[ai (.inl ht)] at hK;exact Z7 w hK h
   by_cases hm:32768<n6
   ·rw[ai (.inr hm)] at hK;rw[av hm];exact Z7 w hK h
   ·rw[ag (by rintro(hh|hh);(rw[ht] at hh;cases hh);exact hm hh)] at hK;rw[ar hm];unfold gu.j2;simp only[nz,ae,af];refine db (k:=1) h rfl (v:=.i m) rfl ?_;simp only[nz,ae,af];have ew:aa.wrap (12+n6)=12+n6:=aW (by omega);rw[ew];refine JK (k:=k+2) h (by rw[bT,bT];exact hk) iH λw h=>?_;cases ht:take D at' toX m (12+n6) with
    |none=>
     rw[ht] at hK;unfold tB;simp only[nz,ae,af];exact hK w h.drop.drop
    |some t=>
     rw[ht] at hK;dsimp only at hK;obtain⟨l1,l2,l3,l4,l5⟩:=take_length ht;unfold tB;simp only[nz,ae,af];refine mF h λw h=>?_;unfold mR;refine⟨⟨by omega,by rw[cj];omega⟩,?_⟩;rw[show(12:Int).toNat=12 from rfl,o9];obtain⟨p,hp⟩:=bt (show 0<=12+n6 by omega);rw[hp] at hK⊢l3;refine rM (by omega) ?_;simp only[nz,ae,af];rw[ak] at hK l3;have ew2:aa.wrap (at'+(gN p:Int))=at'+(gN p:Int):=aW (by omega);rw[ew2];exact hK w h.drop.drop
  ·rw[ai (.inr hq)] at hK;have eb:(lF 8 (dd.data.toList,false)!=seq)=true:=by simp[hq]
   rw[eb];exact stop w hK h
def Pg{seq:Int}{s:BA}{K:VK}(h:St W w L)(hs:s.size<=1000000)(hK:∀w',St W w' L->K (.s (bs (dv seq s))) w'):tF seq s K w:=by
 have hd:s.data.toList.length=s.size:=rfl;unfold tF;refine⟨trivial,?_⟩;refine jq h λp w hs=>?_;have hs:St W w (buf p []::L):=by
  have h2:=(hs.push (A:=own none 0 0 1 (([]:List UInt8).map vZ)) (sm 1)).perm (bZ.swap _ _ _);exact u3 (k:=0) (L:=buf p []::L) (A:=buf p []) rfl rfl h2
 refine kK (k:=0) hs rfl (by simp) λw hs=>?_;rw[show(min2 (max2 8 1) 8).toNat=8 from rfl] at hs;simp only[nz,ae,af] at hs⊢;refine kK (k:=0) hs rfl (by simp only[aw,aO,cO];omega) λw hs=>?_;rw[show(min2 (max2 4 1) 8).toNat=4 from rfl] at hs;simp only[nz,ae,af] at hs⊢;refine rC (k:=0) hs rfl (by simp only[aw,aO,cO];omega) λw hs=>?_;simp only[nz,ae,af] at hs⊢;refine np (k:=0) hs rfl ?_;simp only[nz,ae,af];rw[cw];exact hK w hs.drop
structure PJ where
 lo:Int
 hi:Int
 at':Int
 seq:Int
 dJ:Bool
def sr(d:Nat)(J:PJ):LV:=[.p (ah d),.i J.lo,.i J.hi,.i J.at',.i J.seq,.b J.dJ]
structure PJ.Ok(J:PJ)(D:aX):Prop where
 lo:0<=J.lo
 KP:J.lo<=J.at'
 RC:J.at'<=J.hi
 hi:J.hi<=(D.safe.length:Int)
 seq:0<=J.seq/\J.seq<=1152921504606850000
def room(J:PJ)(n:Int):Prop:=0<=n/\n<=32768/\(gN (12+n.toNat):Int)<=J.hi-J.at'
instance(J:PJ)(n:Int):Decidable (room J n):=by unfold room;infer_instance
def DA(J:PJ)(s:BA)(R:aX×Int):aX×PJ×Int:=
 if R.2≠0 then(R.1,{J with dJ:=true},R.2) else(R.1,{J with at':=J.at'+(gN (12+s.size):Int),seq:=J.seq+1},0)
def uy(D:aX)(J:PJ)(number:Int)(s:BA):aX×PJ×Int:=
 if J.dJ=true then(D,J,9)
 else if number<1\/1152921504606846976<number then(D,J,1)
 else if ¬room J s.size\/1152921504606846976<=J.seq then(D,J,6)
 else DA J s (fj D J.at' J.hi number (bs (dv (J.seq+1) s)))
section
variable {r:Nat} {J:PJ}
def WS{K:VK}(h:St W w L)(hk:L[k]?=some (pt r (sr d J)))(hK:K (.i J.seq) w):kG (ah r) K w:=by
 unfold kG;simp only[nz,ae,af];refine db h hk rfl ?_;simp only[nz,ae,af];exact hK
def KZ{K:VK}(h:St W w L)(hk:L[k]?=some (pt r (sr d J)))(hK:∀w',St W w' (L.set k (pt r (sr d {J with at':=J.lo})))->K (.tuple ⟨[]⟩) w'):jZ (ah r) K w:=by
 unfold jZ;simp only[nz,ae,af];refine db h hk rfl ?_;simp only[nz,ae,af];refine oZ h hk (aK rfl) rfl λw h=>?_;exact hK w h
def GG{n:Int}{K:VK}(h:St W w L)(hk:L[k]?=some (pt r (sr d J)))(hJ:J.Ok D)(iH:D.Ok)(hK:∀w',St W w' L->K (.b (decide (room J n))) w'):jY (ah r) n K w:=by
 have xy:=iH.og;obtain⟨j1,j2,j3,j4,j5⟩:=hJ;unfold jY;refine mF h λw h=>?_;have hh:=hK w h;have no: ¬room J n->K (.b false) w:=λhn=>by rw[ar hn] at hh;exact hh
 simp only[nz,ae,af];refine gj (λh1=>?_) (λh1=>no (λhr=>by have:=hr.1;omega));refine gj (λh2=>?_) (λh2=>no (λhr=>by have:=hr.2.1;omega));refine db h hk rfl ?_;simp only[nz,ae,af];refine db h hk rfl ?_;simp only[nz,ae,af];obtain⟨m,rfl⟩:=bt (show 0<=n by omega);have ew:aa.wrap (12+(m:Int))=((12+m:Nat):Int):=by rw[aW (by omega)];omega
 rw[ew];refine rM (by omega) ?_;simp only[nz,ae,af];refine kM h hk rfl ?_;refine kM h hk rfl ?_;have ew2:aa.wrap (J.hi-J.at')=J.hi-J.at':=aW (by omega);rw[ew2];have:decide ((gN (12+m):Int)<=J.hi-J.at')=decide (room J m):=by
  rw[decide_eq_decide];unfold room;rw[ak];omega
 rw[this];exact hh
def SI{k2:Nat}{number:Int}{s:BA}{K:VK}(h:St W w L)(hk:L[k]?=some (pt r (sr d J)))(q8:L[k2]?=some (gU d D))(kN:k≠k2)(hJ:J.Ok D)(iH:D.Ok)(hl:D.later.length<1000000)(hs:s.size<=reachBytes)
 (hK:∀w',St W w' ((L.set k2 (gU d (uy D J number s).1)).set k (pt r (sr d (uy D J number s).2.1)))->K (.i (uy D J number s).2.2) w'):cx (ah r) number s K w:=by
 have fM:s.size<=140737488351232:=hs;have xy:=iH.og;obtain⟨j1,j2,j3,j4,j5⟩:=hJ;have hJ:J.Ok D:=⟨j1,j2,j3,j4,j5⟩;have same:∀e,uy D J number s=(D,J,e)->∀w,St W w L->K (.i e) w:=λe he w h=>by
  have:=hK w;rw[he] at this;refine this ?_;rw[nT q8,nT hk];exact h
 unfold cx;simp only[nz,ae,af];refine db h hk rfl ?_;simp only[nz,ae,af];refine uf (λYF=>same 9 (by unfold uy;rw[ai YF]) w h) (λYF=>?_);have abE: ¬J.dJ=true:=by rw[YF];exact rN
 have bad:(number<1\/1152921504606846976<number)->cx.j1 K (ah r) s number true w:=λhb=>by
  unfold cx.j1;simp only[nz,ae,af];exact same 1 (by unfold uy;rw[ag abE,ai hb]) w h
 refine gj (λh1=>bad (.inl h1)) (λh1=>?_);by_cases h2:1152921504606846976<number
 ·rw[av h2];exact bad (.inr h2)
 rw[ar h2];have hnb: ¬(number<1\/1152921504606846976<number):=by omega
 unfold cx.j1;simp only[nz,ae,af];refine GG h hk hJ iH λw h=>?_;have full:(¬room J s.size\/1152921504606846976<=J.seq)->∀w,St W w L->cx.j2 K (ah r) s number true w:=λhb w h=>by
  unfold cx.j2;simp only[nz,ae,af];exact same 6 (by unfold uy;rw[ag abE,ag hnb,ai hb]) w h
 simp only[nz,ae,af];by_cases hr:room J s.size
 case neg=>
  rw[ar hr];simp only[nz,ae,af];exact full (.inl hr) w h
 rw[av hr];simp only[nz,ae,af];refine db h hk rfl ?_;simp only[nz,ae,af];by_cases EG:1152921504606846976<=J.seq
 ·have:decide (J.seq>=1152921504606846976)=true:=av EG;rw[this];exact full (.inr EG) w h
 have e0:decide (J.seq>=1152921504606846976)=false:=ar EG;rw[e0];unfold uy at hK;rw[ag abE,ag hnb,ag (by rintro(hh|hh);exact hh hr;exact EG hh)] at hK;unfold cx.j2;simp only[nz,ae,af];refine mF h λw h=>?_;refine db h hk rfl ?_;simp only[nz,ae,af];refine db h hk rfl ?_;simp only[nz,ae,af];refine db h hk rfl ?_;simp only[nz,ae,af];refine db h hk rfl ?_;simp only[nz,ae,af];have ew:aa.wrap (J.seq+1)=J.seq+1:=aW (by omega);rw[ew];refine Pg h (by have:=hr.2.1;omega) λw h=>?_;simp only[nz,ae,af];refine kM h hk rfl ?_;refine kM h hk rfl ?_;refine kM h hk rfl ?_;refine kM h hk rfl ?_;have Cv:(bs (dv (J.seq+1) s)).size=12+s.size:=by rw[cj,AZ]
 have O3:=hr.2.1;refine Ho (k:=k2) h q8 iH (by omega) (by rw[Cv];show _<=140737488351232;omega) λw h=>?_;simp only[nz,ae,af];have hcn:gN (12+s.size)<=400:=by unfold gN;split<;>omega
 have SU:=(Kl (at':=J.at') (toX:=J.hi) (number:=number) (s:=bs (dv (J.seq+1) s)) iH (by rw[Cv];omega)).1;have BM:(L.set k2 (gU d (lay D J.at' J.hi number (bs (dv (J.seq+1) s))).1))[k]?=some (pt r (sr d J)):=by rw[P7 (λhh=>kN hh.symm)];exact hk
 refine kM h BM rfl ?_;unfold fj at hK;generalize hL:lay D J.at' J.hi number (bs (dv (J.seq+1) s))=R at *;obtain⟨D1,e1⟩:=R;dsimp only at h SU BM hK⊢;have fin:∀(R:aX×Int) w,(∀w',St W w' ((L.set k2 (gU d (DA J s R).1)).set k (pt r (sr d (DA J s R).2.1)))->K (.i (DA J s R).2.2) w')->
  St W w (L.set k2 (gU d R.1))->cx.j3 K (ah r) s R.2 w:=λR w hK h=>by
  unfold DA at hK;obtain⟨D2,e2⟩:=R;dsimp only at hK h⊢;have hk3:(L.set k2 (gU d D2))[k]?=some (pt r (sr d J)):=by rw[P7 (λhh=>kN hh.symm)];exact hk
  unfold cx.j3;refine vN (λhe=>?_) (λhe=>?_)
  ·rw[ai he] at hK;simp only[nz,ae,af];refine oZ h hk3 (aK rfl) rfl λw h=>?_;exact hK w h
  ·rw[ag (λhh=>hh he)] at hK;refine mF h λw h=>?_;simp only[nz,ae,af];refine db h hk3 rfl ?_;simp only[nz,ae,af];have ew2:aa.wrap (12+(s.size:Int))=((12+s.size:Nat):Int):=by rw[aW (by omega)];omega
   rw[ew2];refine rM (by omega) ?_;simp only[nz,ae,af];refine kM h hk3 rfl ?_;have ew3:aa.wrap (J.at'+(gN (12+s.size):Int))=J.at'+(gN (12+s.size):Int):=aW (by omega);rw[ew3];refine oZ h hk3 (aK rfl) rfl λw h=>?_;refine db h (kr hk3) rfl ?_;simp only[nz,ae,af];rw[ew];refine oZ h (kr hk3) (aK rfl) rfl λw h=>?_;rw[jM] at h;exact hK w h
 have eqb:∀e:Int,(e==0)=decide (e=0):=λe=>by by_cases he:e=0<;>simp[he]
 by_cases he:e1=0
 ·rw[ag (λhh=>hh he: ¬e1≠0)] at hK;have:(e1==0)=true:=by rw[eqb];exact av he
  rw[this];simp only[nz,ae,af];refine db h BM rfl ?_;simp only[nz,ae,af];refine vT (k:=k2) h (kr q8) SU λw h=>?_;rw[jM] at h;simp only[nz,ae,af];exact fin D1.sync w hK h
 ·rw[ai he] at hK;have:(e1==0)=false:=by rw[eqb];exact ar he
  rw[this];simp only[nz,ae,af];exact fin (D1,e1) w hK h
end
end
end Go.Sep
namespace Go.Up
open Go.Sep Go.Den Go.RowKit Go.Prog Go.Md Go.cF
def nb(n:Nat):List UInt8:=(pZ 16).map λi=>UInt8.ofNat (n/256^i%256)
def sn(n:Nat):(nb n).length=16:=by simp[nb]
def Lu(m i:Nat)(hi:i<8):Value.int .u8 (IntKind.u8.wrap (shr .u64 (m:Int) (aa.wrap (8* (i:Int)))))=vZ (UInt8.ofNat (m/256^i%256)):=by
 rw[aW (by omega)];unfold vZ shr;rw[UInt8.toNat_ofNat_of_lt' (by show _<256;omega),HH _ (Int.le_of_lt (Int.pow_pos (by decide)))]
 congr 1
 have e8:∀x:Int,IntKind.u8.wrap x=x%256:=λx=>by simp[IntKind.wrap,IntKind.bits,IntKind.signed]
 have e2:(8* (i:Int)).toNat=8* i:=by omega
 have e4:min (8* i) IntKind.u64.bits=8* i:=by show min (8* i) 64=_;omega
 have e3:(2:Int)^(8* i)=((256^i:Nat):Int):=by rw[Int.pow_mul];norm_cast
 rw[e8,e2,e4,e3];omega
def adm(n i:Nat)(hi:i<8):n%18446744073709551616/256^i%256=n/256^i%256:=by
 match i,hi with
 |0,_|1,_|2,_|3,_|4,_|5,_|6,_|7,_=>omega
def adn(n i:Nat)(hi:i<8):n/18446744073709551616/256^i%256=n/256^(8+i)%256:=by
 match i,hi with
 |0,_|1,_|2,_|3,_|4,_|5,_|6,_|7,_=>omega
section
variable {W:World} {L:LH} {K:VK} {X:WK}
def DO{r o:Nat}{cs:LV}{v:Value}{f:LV->LH}[i:Lc (pt r) L cs f](ho:o<cs.length)(h1:v.oneCell'=true)(h:T W (f (cs.set o v)) X):T W L (st ⟨r,o,none⟩ v X):=λw hs=>by
 obtain⟨k,hk,e⟩:=i.at_;exact oZ hs hk ho h1 λw' h'=>h w' (by rw[e];exact h')
def Us{r:Nat}{l:List UInt8}{f:LV->LH}{K:BA->WK}[i:Lc (pt r) L (l.map vZ) f](h:T W L (K (bs l))):T W L (WB (ah r) l.length K):=λw hs=>
 let⟨_,hk,_⟩:=i.at_;PK hs hk rfl (h w hs)
def Z9(b:OA)(c e:Nat):zw b c 0 e=b:=by
 unfold zw;split
 ·rfl
 ·cases b with
  |none=>rfl
  |some a=>simp[Addr.add]
def XP{b:OA}{n c e:Nat}{K:OA->Nat->Nat->WK}(h:T W L (K b n c)):T W L (sO b n c e none none K):=by
 unfold sO;rw[Z9];exact h
def ON(n i:Nat):LV:=(pZ 16).map λj=>if j<i\/8<=j/\j<8+i then vZ (UInt8.ofNat (n/256^j%256)) else .int .u8 0
def ZP{n:Nat}(h:T W L (K (.s (bs (nb n))))):T W L (ya (nm n) K):=by
 unfold ya;apply ws;intros;rename_i r1 r2;intro w hs;refine⟨λvs w=>∃i:Nat,i<=8/\vs=[.p (some (ad r1 0)),.s .empty,.p (some (ad r2 0)),.i (i:Int)]/\St W w (pt r2 (ON n i)::pt r1 (nm n)::L),
  λvs _=>match vs with|[_,_,_,.int _ j]=>8-j.toNat|_=>0,⟨0,aE _,rfl,hs⟩,?_⟩
 rintro a1 s1 a2 n1 w2 ⟨i,hi,e,hs⟩;cases e
 refine T.at ?_ hs;apply ga<;>intro h1
 ·have bX:i<8:=by omega
  have e8:aa.wrap (8* (i:Int))=8* (i:Int):=aW (by omega);have e9:aa.wrap (8+(i:Int))=((8+i:Nat):Int):=by rw[aW (by omega)];omega
  have e5:=nK i;simp only[ig,aC,e8,e9,e5,ak,mz]
  repeat' first|apply ws;intros|apply wb|with_reducible first|refine dO (by omega) ?_|refine DO (by simp[ON];omega) rfl ?_|fail
  rw[<-e8,Lu _ _ bX,Lu _ _ bX,adm _ _ bX,adn _ _ bX];have e:((ON n i).set i (vZ (UInt8.ofNat (n/256^i%256)))).set (8+i) (vZ (UInt8.ofNat (n/256^(8+i)%256)))=ON n (i+1):=by
   apply qN;intro j;rw[da,da];simp only[ON,jm,bU,List.length_range,eo];by_cases h1:8+i=j
   ·subst h1;rw[ai rfl,ai (by omega),rD (by omega),fw,ai (by omega)]
   ·rw[ag h1];by_cases h2:i=j
    ·subst h2;rw[ai rfl,ai (by omega),rD (by omega),fw,ai (by omega)]
    ·rw[ag h2];by_cases h3:j<16
     ·rw[rD h3,fw,fw];by_cases h4:j<i\/8<=j/\j<8+i
      ·rw[ai h4,ai (by omega)]
      ·rw[ag h4,ag (by omega)]
     ·rw[qh (by simpa using h3)];rfl
  rw[e];exact λw3 h3=>⟨⟨i+1,bX,rfl,h3⟩,by show 8-((i+1:Nat):Int).toNat<8-(i:Int).toNat;omega⟩
 ·have he:i=8:=by omega
  subst he;have e:ON n 8=(nb n).map vZ:=by
   unfold ON nb;rw[pD];apply eg;intro j hj;rw[ai (by have:=List.mem_range.1 hj;omega)];rfl
  rw[e];refine XP ?_;have:=Us (W:=W) (L:=Sep.pt r2 ((nb n).map vZ)::Sep.pt r1 (nm n)::L) (r:=r2) (l:=nb n) (K:=λs2=>K (.s s2)) (by exact T.dp h);rw[sn] at this;exact this
def adb{A j:Nat}{c:UInt8}(hj:j<8)(hA:A<256^j):dm .u64 .or (A:Int) (shl .u64 (IntKind.u64.wrap (c.toNat:Int)) (8* (j:Int)))=((A+c.toNat* 256^j:Nat):Int):=by
 have hc:=c.toNat_lt;have SQ:256^j=2^(8* j):=by rw[show(256:Nat)=2^8 from rfl,<-Nat.pow_mul]
 have afo:c.toNat* 2^(8* j)+2^(8* j)<=2^64:=by
  have h1:(c.toNat+1)* 2^(8* j)<=2^8* 2^(8* j):=iI _ hc;rw[<-Nat.pow_add,mA,Nat.one_mul] at h1;exact AD h1 (gS (by decide) (by omega))
 rw[SQ] at hA;have ew:IntKind.u64.wrap (c.toNat:Int)=(c.toNat:Int):=sL (by omega);have esh:shl .u64 (c.toNat:Int) (8* (j:Int))=((c.toNat* 2^(8* j):Nat):Int):=by
  unfold shl;have h1:(8* (j:Int)).toNat=8* j:=by omega
  have h2:min (8* j) IntKind.u64.bits=8* j:=by show min (8* j) 64=_;omega
  rw[h1,h2];have:((c.toNat:Int)* 2^(8* j))=((c.toNat* 2^(8* j):Nat):Int):=by norm_cast
  rw[this];exact sL (by omega)
 rw[ew,esh,SQ];show IntKind.u64.wrap (((BitVec.ofInt 64 (A:Int)|||BitVec.ofInt 64 ((c.toNat* 2^(8* j):Nat):Int)).toNat:Nat):Int)=_;rw[BitVec.toNat_or];have t1:(BitVec.ofInt 64 (A:Int)).toNat=A:=by simp only[BitVec.toNat_ofInt];omega
 have t2:(BitVec.ofInt 64 ((c.toNat* 2^(8* j):Nat):Int)).toNat=c.toNat* 2^(8* j):=by simp only[BitVec.toNat_ofInt];omega
 rw[t1,t2,Nat.or_comm,<-Nat.shiftLeft_eq,<-Nat.shiftLeft_add_eq_or_of_lt hA,Nat.add_comm,Nat.shiftLeft_eq];exact sL (by omega)
def JX{l:List UInt8}{i:Nat}{K:UInt8->WK}{c:UInt8}(hc:l[i]?=some c)(h:T W L (K c)):T W L (AR (bs l) (i:Int) K):=λw hs=>⟨c,⟨by omega,by rw[ak];exact hc⟩,h w hs⟩
def FG:∀(l m:List UInt8),om (l++m)=om l+256^l.length* om m
 |[],m=>by simp[om]
 |c::l,m=>by simp only[lV,om,FG l m,bE,AB];rw[Nat.mul_add,Nat.add_assoc,wN (256^l.length) 256,Nat.mul_assoc]
def Mk(l:List UInt8):Nat:=if l.length<16 then 0 else om (l.take 16)
def NJ{l:List UInt8}(hl:l.length<1099511627776)(h:T W L (K (.tuple ⟨[.agg ⟨nm (Mk l)⟩,.b (decide (16<=l.length))]⟩))):T W L (rW (bs l) K):=by
 unfold rW Mk at *;rw[cj];apply ws;intros;rename_i r1 r2;apply ga<;>intro h1
 ·have h2:l.length<16:=by omega
  rw[ai h2,ar (by omega)] at h;apply ws;intros;exact T.dp h
 have h2: ¬l.length<16:=by omega
 rw[ag h2,av (by omega)] at h;intro w hs;refine⟨λvs w=>∃i:Nat,i<=8/\vs=[.p (some (ad r1 0)),.b false,.p (some (ad r2 0)),.i (i:Int)]/\St W w (Sep.pt r2 [.u (om ((l.drop 8).take i):Int),.u (om (l.take i):Int)]::Sep.pt r1 [.u 0,.u 0]::L),
  λvs _=>match vs with|[_,_,_,.int _ j]=>8-j.toNat|_=>0,⟨0,aE _,rfl,hs⟩,?_⟩
 rintro a1 b1 a2 n1 w2 ⟨i,hi,e,hs⟩;cases e
 refine T.at ?_ hs;apply ga<;>intro h1
 ·have bX:i<8:=by omega
  have e8:aa.wrap (8* (i:Int))=8* (i:Int):=aW (by omega);have e9:aa.wrap (8+(i:Int))=((8+i:Nat):Int):=by rw[aW (by omega)];omega
  have e5:=nK i;have g1:i<l.length:=by omega
  have g2:8+i<l.length:=by omega
  have v1:=rX (l.take i);have v2:=rX ((l.drop 8).take i);rw[aD,rr (by omega)] at v1;rw[aD,aT,rr (by omega)] at v2;have c1:=aj g1;have c2:=aj g2;simp only[ig,aC,e8,e9,e5];apply ws;intros;refine JX c1 ?_
  repeat' first|apply ws;intros|apply wb|with_reducible first|refine dO (by omega) ?_|refine JX c1 ?_|refine JX c2 ?_|fail
  rw[adb bX v1,adb bX v2];have t1:om (l.take i)+l[i].toNat* 256^i=om (l.take (i+1)):=by rw[qL g1,tL,aD,rr (by omega)]
  have t2:om ((l.drop 8).take i)+l[8+i].toNat* 256^i=om ((l.drop 8).take (i+1)):=by
   have hd:min i (l.drop 8).length=i:=by rw[aT];omega
   rw[qL (by rw[aT];omega),tL,aD,hd,List.getElem_drop]
  rw[t1,t2];exact λw3 h3=>⟨⟨i+1,bX,rfl,h3⟩,by show 8-((i+1:Nat):Int).toNat<8-(i:Int).toNat;omega⟩
 ·have he:i=8:=by omega
  subst he;have v1:=rX (l.take 8);rw[aD,rr (by omega)] at v1;have e:l.take 16=l.take 8++(l.drop 8).take 8:=by rw[<-List.take_add]
  have ev:om (l.take 16)=om (l.take 8)+18446744073709551616* om ((l.drop 8).take 8):=by
   rw[e,FG,aD,rr (by omega)]
  have e3:(256:Nat)^8=18446744073709551616:=rfl;rw[U' (om (l.take 16)) (by omega) (by omega)];apply ws;intros;exact T.dp h
end
class u9(b:OA)(n c:outParam Nat)(L:LH)(e:outParam Nat)(xs:outParam (LV))(f:outParam (HP->LH)):Prop where
 at_:∃k:Nat,L[k]?=some (own b n c e xs)/\∀A,f A=L.set k A
instance u9.head{b:OA}{n c e:Nat}{xs:LV}{L:LH}:u9 b n c (own b n c e xs::L) e xs (λA=>A::L):=⟨0,rfl,λ_=>rfl⟩
instance u9.tail{b:OA}{n c e:Nat}{xs:LV}{L:LH}{A:HP}{f:HP->LH}[h:u9 b n c L e xs f]:u9 b n c (A::L) e xs (λB=>A::f B):=by
 obtain⟨k,h1,h2⟩:=h.at_;exact⟨k+1,h1,λy=>by rw[h2];rfl⟩
section
variable {W:World} {L:LH} {K:VK} {X:WK} {b:OA} {n c e:Nat} {xs ys:LV} {f:HP->LH}
def Ut{s:BA}{K:OA->Nat->Nat->WK}[i:u9 b n c L 1 xs f](hb:n+s.size<=140737488355328)(h:∀b' c',T W (f (own b' (n+s.size) c' 1 (xs++strCells s))) (K b' (n+s.size) c')):T W L (Hg b n c s K):=λw hs=>by
 obtain⟨k,hk,e⟩:=i.at_;exact Hf hs hk hb λb' c' w' h'=>h b' c' w' (by rw[e];exact h')
def Uu{r bytes:Nat}{zero:LV}{g:LV->LH}{K:OA->Nat->Nat->WK}[i:u9 b n c L e xs f][j:Lc (Sep.pt r) L ys g](hy:ys.length=e)(hz:zero.length=e)(hb:(n+1)* bytes<=140737488355328)(h1:∀v∈ys,v.oneCell'=true)
 (h:∀b' c',T W (f (own b' (n+1) c' e (xs++ys))) (K b' (n+1) c'))(hm:n+1<=9223372036854775807:=by omega):T W L (iz e bytes zero b n c (ah r) 1 K):=λw hs=>by
 obtain⟨k,hk,e1⟩:=i.at_;obtain⟨k2,q8,_⟩:=j.at_;refine u6 hs hk (ys:=ys) (Hk (o:=0) hs q8 (by omega) λj v hv=>by rw[aC];exact hv) (λhh=>by cases hh) hz hb hm h1 λb' c' w' h'=>h b' c' w' (by rw[e1];exact h')
def dL{i:Int}{K:Addr->WK}[l:u9 b n c L e xs f](hi:0<=i/\i<n)(h:∀r,b=ah r->T W L (K ⟨r,i.toNat* e,none⟩)):T W L (iV b n i e K):=λw hs=>by
 obtain⟨k,hk,_⟩:=l.at_;exact ss hs hk hi λr hr=>h r hr w hs
def rd(r:Nat)(x:List UInt8×Bool):HP:=EC r (bs x.1) x.2
variable {r:Nat} {x:List UInt8×Bool} {g:List UInt8×Bool->LH}
def K1[i:Lc (rd r) L x g](hl:x.1.length<1099511627776)(m:Nat)(hm:1<=m/\m<=8)(h:T W (g (gh m x)) (K (.i (lF m x)))):T W L (aN (ah r) (m:Int) K):=λw hs=>by
 obtain⟨k,hk,e⟩:=i.at_;exact Ax hs hk hl hm λw' h'=>h w' (by rw[e];exact h')
def wL[i:Lc (rd r) L x g](hl:x.1.length<1099511627776)(h:T W (g (gh 1 x)) (K (.i (lF 1 x)))):T W L (aN (ah r) 1 K):=K1 hl 1 (by decide) h
def Fm[i:Lc (rd r) L x g](hl:x.1.length<1099511627776)(h:T W (g (gh 2 x)) (K (.i (lF 2 x)))):T W L (aN (ah r) 2 K):=K1 hl 2 (by decide) h
def RJ[i:Lc (rd r) L x g](hl:x.1.length<1099511627776)(h:T W (g (gh 4 x)) (K (.i (lF 4 x)))):T W L (aN (ah r) 4 K):=K1 hl 4 (by decide) h
def yM[i:Lc (rd r) L x g](hl:x.1.length<1099511627776)(h:T W (g (gh 8 x)) (K (.i (lF 8 x)))):T W L (aN (ah r) 8 K):=K1 hl 8 (by decide) h
def AQ(x:List UInt8×Bool):Nat:=if x.2=true then 0 else Mk x.1
def wj(m:Nat)(x:List UInt8×Bool):(gh m x).1.length<=x.1.length:=by
 unfold gh;split
 ·exact aH _
 ·simp
def rvw(m:Nat)(x:List UInt8×Bool):List UInt8:=if x.2=true\/x.1.length<m then[] else x.1.take m
def acA[i:Lc (rd r) L x g](m:Nat)(h:T W (g (gh m x)) (K (.s (bs (rvw m x))))):T W L (fB (ah r) (m:Int) K):=λw hs=>by
 obtain⟨k,hk,e⟩:=i.at_;refine Hn hs (show L[k]?=some (EC r (bs x.1) x.2) from hk) λw' h'=>?_;obtain⟨l,t⟩:=x;unfold gh rvw at h;dsimp only at h h'⊢;by_cases hc:t=true\/l.length<m
 ·rw[ai hc,ai hc] at h;have et:sP (bs l) t m=true:=by
   unfold sP;rcases hc with h1|h1
   ·rw[h1];rfl
   ·rw[cj,av (by omega)];simp
  unfold ED zB at *;rw[et] at h'⊢;exact h w' (by rw[e];exact h')
 ·rw[ag hc,ag hc] at h;have ht:t=false:=by cases t<;>simp_all
  have et:sP (bs l) t m=false:=by
   unfold sP;rw[ht,cj,ar (by omega)];rfl
  unfold ED zB at *;rw[et,ak,o9] at h';rw[et,ak,pc];exact h w' (by rw[e];exact h')
def Yn(x:List UInt8×Bool):Mk (rvw 16 x)=AQ x:=by
 unfold AQ rvw Mk;obtain⟨l,t⟩:=x;cases t with
 |true=>rfl
 |false=>
  dsimp only;by_cases h2:l.length<16
  ·have e:(if false=true\/l.length<16 then([]:List UInt8) else l.take 16)=[]:=ai (Or.inr h2);rw[e];simp[h2]
  ·have e:(if false=true\/l.length<16 then([]:List UInt8) else l.take 16)=l.take 16:=ag (by simp;omega);rw[e,yO,aD,ag (by omega),ag (by decide),ag h2];rfl
def K0[i:Lc (rd r) L x g](hl:x.1.length<1099511627776)(h:T W (g (gh 16 x)) (K (.agg ⟨nm (AQ x)⟩))):T W L (cZ (ah r) K):=by
 unfold cZ;apply ws;intros;refine acA 16 ?_;have hr:(rvw 16 x).length<1099511627776:=by unfold rvw;split<;>simp;omega
 repeat' first|apply ws;intros|apply wb|with_reducible refine NJ hr ?_|fail
 rw[Yn];exact T.dp h
def Aw[i:Lc (rd r) L x g](h:T W L (K (.b x.2))):T W L (df (ah r) K):=λw hs=>by
 obtain⟨k,hk,e⟩:=i.at_;exact GF hs (show L[k]?=some (EC r (bs x.1) x.2) from hk) (h w hs)
def W2[i:Lc (rd r) L x g](h:T W L (K (.b (!x.2&&decide (x.1=[]))))):T W L (ml (ah r) K):=λw hs=>by
 obtain⟨k,hk,e⟩:=i.at_;exact NL hs (show L[k]?=some (EC r (bs x.1) x.2) from hk) (h w hs)
def Uk{α:Type}{P:α->HP}{a:α}{f:α->LH}[i:Lc P L a f](h:∀R,(∀y Y,T W (f y) Y->T W (P y::R) Y)->T W (P a::R) X):T W L X:=λw hs=>by
 obtain⟨k,hk,e⟩:=i.at_;refine h (L.eraseIdx k) (λy Y hy w' h'=>hy w' ?_) w (hs.focus hk);rw[e];exact St.rZ h' hk
def ZH[i:Lc (rd r) L x g](h:T W L (K (.i (if x.2=true then 0 else(x.1.length:Int))))):T W L (qC (ah r) K):=by
 unfold qC;simp only[E1,ig,aC,Option.isNone_some,eK];intro w hs;obtain⟨k,hk,e⟩:=i.at_;refine db hs (show L[k]?=some (Sep.pt r [.s (bs x.1),.b x.2]) from hk) rfl ?_;rw[T4];cases hx:x.2 with
 |true=>rw[lz];rw[hx,ai rfl] at h;exact h w hs
 |false=>
  rw[eK];refine db hs (show L[k]?=some (Sep.pt r [.s (bs x.1),.b x.2]) from hk) rfl ?_;rw[T3];rw[hx,ag (by decide)] at h;exact h w hs
variable {p:Nat} {l:List UInt8} {q:List UInt8->LH}
def KU[i:Lc (buf p) L l q](hl:l.length<1099511627776)(m:Nat)(hm:1<=m/\m<=8){n:Int}(h:T W (q (l++le .i64 m n)) (K (.tuple ⟨[]⟩))):T W L (bq (ah p) (m:Int) n K):=λw hs=>by
 obtain⟨k,hk,e⟩:=i.at_;refine kK hs hk hl λw' h'=>h w' ?_;have em:min2 (max2 (m:Int) 1) 8=((m:Nat):Int):=by unfold min2 max2;split<;>split<;>omega
 rw[em,ak] at h';rw[e];exact h'
def sB[i:Lc (buf p) L l q](hl:l.length<1099511627776){n:Int}(h:T W (q (l++le .i64 1 n)) (K (.tuple ⟨[]⟩))):T W L (bq (ah p) 1 n K):=KU hl 1 (by decide) h
def Fk[i:Lc (buf p) L l q](hl:l.length<1099511627776){n:Int}(h:T W (q (l++le .i64 2 n)) (K (.tuple ⟨[]⟩))):T W L (bq (ah p) 2 n K):=KU hl 2 (by decide) h
def RF[i:Lc (buf p) L l q](hl:l.length<1099511627776){n:Int}(h:T W (q (l++le .i64 4 n)) (K (.tuple ⟨[]⟩))):T W L (bq (ah p) 4 n K):=KU hl 4 (by decide) h
def Au[i:Lc (buf p) L l q](hl:l.length<1099511627776){n:Int}(h:T W (q (l++le .i64 8 n)) (K (.tuple ⟨[]⟩))):T W L (bq (ah p) 8 n K):=KU hl 8 (by decide) h
def tu[i:Lc (buf p) L l q](h:T W L (K (.s (bs l)))):T W L (dK (ah p) K):=λw hs=>by
 obtain⟨k,hk,e⟩:=i.at_;exact np hs hk (h w hs)
def ac4[i:Lc (buf p) L l q](h:∀b c R,(∀l' b n c Y,n=l'.length->T W (q l') Y->T W (Sep.pt p [.l b n c]::own b n c 1 (l'.map vZ)::R) Y)->T W (Sep.pt p [.l b l.length c]::own b l.length c 1 (l.map vZ)::R) X):T W L X:=
 Uk (P:=buf p) λR hc w hs=>by
  obtain⟨⟨b,c⟩,hs⟩:=hs.ex;exact h b c R (λl' b n c Y hn hy w h'=>hc l' Y hy w (by subst hn;exact St.rh (b,c) (St.join h'))) w hs.split
def KT[i:Lc (buf p) L l q](hl:l.length<1099511627776){n:Nat}(h:T W (q (l++nb n)) (K (.tuple ⟨[]⟩))):T W L (mj (ah p) (nm n) K):=by
 unfold mj;refine ac4 (p:=p) λb c R hc=>?_;simp only[E1]
 repeat' first|apply ws;intros|apply wb|with_reducible first|refine ZP ?_|refine Ut (by rw[cj,sn];omega) λ_ _=>?_|fail
 have e:l.map vZ++strCells (bs (nb n))=(l++nb n).map vZ:=by rw[cY];rfl
 rw[e];exact T.drop (hc _ _ _ _ _ (by rw[aw,cj]) h)
def ZF[i:Lc (buf p) L l q](hl:l.length<1099511627776){b:Bool}(h:T W (q (l++[if b then 1 else 0])) (K (.tuple ⟨[]⟩))):T W L (qB (ah p) b K):=by
 unfold qB;cases b with
 |true=>rw[lz];refine sB hl (BV ?_);exact h
 |false=>rw[eK];refine sB hl (BV ?_);exact h
end
end Go.Up
namespace Go.Up
open Go.Sep Go.Den Go.Md
def IC{p:Int->Prop}(n:Nat)(h:∀f:Fin n,p (f.val:Int)){f:Int}(h0:0<=f)(h1:f<n):p f:=by
 have:=h ⟨f.toNat,by omega⟩;simp only[Int.toNat_of_nonneg h0] at this;exact this
section
variable {f:Int}
def Ns(h0:0<=f)(h1:f<256):dm .i64 .and f 2=0↔ ¬(has f 2):=IC (p:=λf=>dm .i64 .and f 2=0↔ ¬(has f 2)) 256 (by decide+kernel) h0 h1
def Nr(h0:0<=f)(h1:f<256):dm .i64 .and f 4=0↔ ¬(has f 4):=IC (p:=λf=>dm .i64 .and f 4=0↔ ¬(has f 4)) 256 (by decide+kernel) h0 h1
def Wz(h0:0<=f)(h1:f<256):dm .i64 .and f 8=0↔ ¬(has f 8):=IC (p:=λf=>dm .i64 .and f 8=0↔ ¬(has f 8)) 256 (by decide+kernel) h0 h1
def acs(h0:0<=f)(h1:f<256):dm .i64 .and f 16=0↔ ¬(has f 16):=IC (p:=λf=>dm .i64 .and f 16=0↔ ¬(has f 16)) 256 (by decide+kernel) h0 h1
def acr(h0:0<=f)(h1:f<256):dm .i64 .and f 32=0↔ ¬(has f 32):=IC (p:=λf=>dm .i64 .and f 32=0↔ ¬(has f 32)) 256 (by decide+kernel) h0 h1
def WA(h0:0<=f)(h1:f<256):dm .i64 .and f 64=0↔ ¬(has f 64):=IC (p:=λf=>dm .i64 .and f 64=0↔ ¬(has f 64)) 256 (by decide+kernel) h0 h1
def RA(h0:0<=f)(h1:f<256):dm .i64 .and f 128=0↔ ¬(has f 128):=IC (p:=λf=>dm .i64 .and f 128=0↔ ¬(has f 128)) 256 (by decide+kernel) h0 h1
def aaA(h0:0<=f)(h1:f<256):dm .i64 .and f 12=0↔ ¬(ke f):=IC (p:=λf=>dm .i64 .and f 12=0↔ ¬(ke f)) 256 (by decide+kernel) h0 h1
def ae2(h0:0<=f)(h1:f<256):dm .i64 .and f 48=0↔ ¬(has f 16\/has f 32):=IC (p:=λf=>dm .i64 .and f 48=0↔ ¬(has f 16\/has f 32)) 256 (by decide+kernel) h0 h1
def ae3(h0:0<=f)(h1:f<256):dm .i64 .and f 6=6↔(has f 2/\has f 4):=IC (p:=λf=>dm .i64 .and f 6=6↔(has f 2/\has f 4)) 256 (by decide+kernel) h0 h1
def ah8(h0:0<=f)(h1:f<256):dm .i64 .and f 240=0↔ ¬(16<=f):=IC (p:=λf=>dm .i64 .and f 240=0↔ ¬(16<=f)) 256 (by decide+kernel) h0 h1
def ah9(h0:0<=f)(h1:f<256):dm .i64 .and f 192=0↔(f<64):=IC (p:=λf=>dm .i64 .and f 192=0↔(f<64)) 256 (by decide+kernel) h0 h1
def aaz(h0:0<=f)(h1:f<256):dm .i64 .andNot f 1=f/2* 2:=IC (p:=λf=>dm .i64 .andNot f 1=f/2* 2) 256 (by decide+kernel) h0 h1
def aay(h0:0<=f)(h1:f<16):dm .i64 .andNot f 8=f%8:=IC (p:=λf=>dm .i64 .andNot f 8=f%8) 16 (by decide+kernel) h0 h1
def ae0(h0:0<=f)(h1:f<16):dm .i64 .or f 8=f%8+8:=IC (p:=λf=>dm .i64 .or f 8=f%8+8) 16 (by decide+kernel) h0 h1
def aaB(h0:0<=f)(h1:f<256):dm .i64 .and f 6=f/2%4* 2:=IC (p:=λf=>dm .i64 .and f 6=f/2%4* 2) 256 (by decide+kernel) h0 h1
def vS(n:Int):Prop:= -9223372036854775808<=n/\n<=9223372036854775807
def acq(h:vS f):(dm .i64 .andNot f 7!=0)=decide (f<0\/7<f):=by
 have key:∀x:BitVec 64,(x&&&~~~(BitVec.ofInt 64 7))=0#64↔x.toNat<8:=λx=>by
  constructor
  ·intro hx;refine Nat.lt_pow_two_of_testBit (n:=3) _ λi hi=>?_;have:=congrArg (λy=>y.getLsbD i) hx;by_cases afA:i<64
   ·simp only[BitVec.getLsbD_and,BitVec.getLsbD_not,BitVec.getLsbD_zero,afA,decide_true,eG] at this;have h7:(BitVec.ofInt 64 7).getLsbD i=false:=by
     have:(BitVec.ofInt 64 7).toNat=7:=rfl;show Nat.testBit (BitVec.ofInt 64 7).toNat i=false;rw[this];exact Nat.testBit_lt_two_pow (Nat.lt_of_lt_of_le (by decide:7<2^3) (gS (by decide) hi))
    rw[h7] at this;simpa [BitVec.getLsbD] using this
   ·exact Nat.testBit_lt_two_pow (Nat.lt_of_lt_of_le x.isLt (gS (by decide) (by omega)))
  ·intro hx;have hx':x=BitVec.ofNat 64 x.toNat:=by simp
   rw[hx'];generalize x.toNat=m at hx
   match m,hx with
   |0,_|1,_|2,_|3,_|4,_|5,_|6,_|7,_=>rfl
 unfold vS at h;unfold dm;dsimp only;show(aa.wrap (((BitVec.ofInt 64 f&&&~~~(BitVec.ofInt 64 7)).toNat:Nat):Int)!=0)=_;have hw:∀y:BitVec 64,(aa.wrap ((y.toNat:Nat):Int)!=0)=decide (y≠0#64):=λy=>by
  have hy:=y.isLt;have:aa.wrap ((y.toNat:Nat):Int)=0↔y=0#64:=by
   constructor
   ·intro h0;apply BitVec.eq_of_toNat_eq;simp[IntKind.wrap,IntKind.bits,IntKind.signed] at h0;simp;split at h0<;>omega
   ·intro h0;subst h0;rfl
  by_cases h0:y=0#64
  ·rw[ar (by simpa using h0)];simp[this.2 h0]
  ·rw[av h0];have: ¬aa.wrap ((y.toNat:Nat):Int)=0:=λhh=>h0 (this.1 hh);simpa using this
 rw[hw,decide_eq_decide,ne_eq,key];simp only[BitVec.toNat_ofInt];omega
def ae1(h:vS f):dm .i64 .andNot f 7=0↔ ¬(f<0\/7<f):=by
 have:=acq h;by_cases h1:f<0\/7<f
 ·rw[av h1] at this;simpa [h1] using this
 ·rw[ar h1] at this;simpa [h1] using this
end
end Go.Up
namespace Go.Up
open Go.Sep Go.Den Go.RowKit Go.Prog Go.Md
abbrev cM:=Go.Md.cM
abbrev bJ:=Go.Md.bJ
abbrev ch:=Go.Md.ch
def aL(a:bJ):LV:=nm a.id++(nm a.dp++(nm a.dq++(nm a.cp++(nm a.cq++[.i a.ba,.i a.code,.i a.aq,.i a.ay]))))
def aM(t:cM):LV:=nm t.id++(nm t.bw++(nm t.aP++(nm t.aU++(nm t.pending++[.i t.cn,.i t.ba,.i t.code,.i t.aq,.i t.ay,.i t.jh]))))
def bF(k:ch):LV:=aM k.asked++(aM k.move++[.i k.fate])
def AE{cs:LV}{o n:Nat}(h0:cs[o+0]?=(nm n)[0]?)(h1:cs[o+1]?=(nm n)[1]?):(nm n).length=2/\∀j v,(nm n)[j]?=some v->cs[o+j]?=some v:=⟨rfl,λj v h=>by
 match j with
 |0=>rw[h0];exact h
 |1=>rw[h1];exact h
 |j+2=>simp[nm] at h⟩
section
variable {a b:bJ} {t u:cM} {k:ch} {n:Nat} {i:Int}
instance:Sub (aL a) 0 2 (nm a.id):=⟨AE rfl rfl⟩
instance:Sub (aL a) 2 2 (nm a.dp):=⟨AE rfl rfl⟩
instance:Sub (aL a) 4 2 (nm a.dq):=⟨AE rfl rfl⟩
instance:Sub (aL a) 6 2 (nm a.cp):=⟨AE rfl rfl⟩
instance:Sub (aL a) 8 2 (nm a.cq):=⟨AE rfl rfl⟩
instance:Sub (aL a) 0 14 (aL a):=⟨rfl,λj v h=>by rw[aC];exact h⟩
instance:Sub (aM t) 0 2 (nm t.id):=⟨AE rfl rfl⟩
instance:Sub (aM t) 2 2 (nm t.bw):=⟨AE rfl rfl⟩
instance:Sub (aM t) 4 2 (nm t.aP):=⟨AE rfl rfl⟩
instance:Sub (aM t) 6 2 (nm t.aU):=⟨AE rfl rfl⟩
instance:Sub (aM t) 8 2 (nm t.pending):=⟨AE rfl rfl⟩
instance:Sub (aM t) 0 16 (aM t):=⟨rfl,λj v h=>by rw[aC];exact h⟩
instance:Sub (bF k) 0 33 (bF k):=⟨rfl,λj v h=>by rw[aC];exact h⟩
instance:Sub (bF k) 0 16 (aM k.asked):=⟨rfl,λj v h=>by rw[aC];unfold bF;rw[bh (ao.1 h).1];exact h⟩
instance:Sub (bF k) 16 16 (aM k.move):=⟨rfl,λj v h=>by
 have hl:(aM k.asked).length=16:=rfl
 unfold bF
 rw[iW (by omega),hl,show 16+j-16=j by omega,bh (ao.1 h).1];exact h⟩
def pv{xs ys:LV}(h1:∀v∈xs,v.oneCell'=true)(h2:∀v∈ys,v.oneCell'=true):∀v∈xs++ys,v.oneCell'=true:=λv h=>(dF.1 h).elim (h1 v) (h2 v)
def iT(a:bJ):∀v∈aL a,v.oneCell'=true:=pv (mI _) (pv (mI _) (pv (mI _) (pv (mI _) (pv (mI _) λv h=>by simp at h;rcases h with rfl|rfl|rfl|rfl<;>rfl))))
def pK(t:cM):∀v∈aM t,v.oneCell'=true:=pv (mI _) (pv (mI _) (pv (mI _) (pv (mI _) (pv (mI _) λv h=>by simp at h;rcases h with rfl|rfl|rfl|rfl|rfl|rfl<;>rfl))))
def ni(k:ch):∀v∈bF k,v.oneCell'=true:=pv (pK _) (pv (pK _) λv h=>by simp at h;subst h;rfl)
instance:Wr (aL a) 2 (nm n) (aL {a with dp:=n}):=⟨rfl,by show 4<=14;decide,mI n⟩
instance:Wr (aL a) 4 (nm n) (aL {a with dq:=n}):=⟨rfl,by show 6<=14;decide,mI n⟩
instance:Wr (aL a) 6 (nm n) (aL {a with cp:=n}):=⟨rfl,by show 8<=14;decide,mI n⟩
instance:Wr (aL a) 8 (nm n) (aL {a with cq:=n}):=⟨rfl,by show 10<=14;decide,mI n⟩
instance:Wr (aL a) 12 [.i i] (aL {a with aq:=i}):=⟨rfl,by show 13<=14;decide,λv h=>by simp at h;subst h;rfl⟩
instance:Wr (aL a) 13 [.i i] (aL {a with ay:=i}):=⟨rfl,by show 14<=14;decide,λv h=>by simp at h;subst h;rfl⟩
instance:Wr (aL a) 0 (aL b) (aL b):=⟨rfl,aH _,iT b⟩
instance{x1 x2 x3 x4 x5 x6 x7 x8 x9 Fz Fy Fx Fw JN:Value}:Wr [x1,x2,x3,x4,x5,x6,x7,x8,x9,Fz,Fy,Fx,Fw,JN] 0 (aL b) (aL b):=⟨rfl,aH _,iT b⟩
instance:Wr (aM t) 6 (nm n) (aM {t with aU:=n}):=⟨rfl,by show 8<=16;decide,mI n⟩
instance:Wr (aM t) 11 [.i i] (aM {t with ba:=i}):=⟨rfl,by show 12<=16;decide,λv h=>by simp at h;subst h;rfl⟩
instance:Wr (aM t) 12 [.i i] (aM {t with code:=i}):=⟨rfl,by show 13<=16;decide,λv h=>by simp at h;subst h;rfl⟩
instance:Wr (aM t) 13 [.i i] (aM {t with aq:=i}):=⟨rfl,by show 14<=16;decide,λv h=>by simp at h;subst h;rfl⟩
instance:Wr (aM t) 14 [.i i] (aM {t with ay:=i}):=⟨rfl,by show 15<=16;decide,λv h=>by simp at h;subst h;rfl⟩
instance:Wr (aM t) 15 [.i i] (aM {t with jh:=i}):=⟨rfl,by show 16<=16;decide,λv h=>by simp at h;subst h;rfl⟩
instance{x1 x2 x3 x4 x5 x6 x7 x8 x9 Fz Fy Fx Fw JN N8 N7:Value}:Wr [x1,x2,x3,x4,x5,x6,x7,x8,x9,Fz,Fy,Fx,Fw,JN,N8,N7] 0 (aM u) (aM u):=⟨rfl,aH _,pK u⟩
end
section
variable {x1 x2 x3 x4 x5 x6 x7 x8 x9 Fz Fy Fx Fw JN N8 N7:Value} {i d e c p:Nat} {l o f s b m:Int}
instance:Wr [x1,x2,x3,x4,x5,x6,x7,x8,x9,Fz,Fy,Fx,Fw,JN] 0 (nm i++(nm d++(nm e++(nm c++(nm p++[.i l,.i o,.i f,.i s]))))) (aL ⟨i,d,e,c,p,l,o,f,s⟩):=⟨rfl,aH _,iT ⟨i,d,e,c,p,l,o,f,s⟩⟩
instance:Wr [x1,x2,x3,x4,x5,x6,x7,x8,x9,Fz,Fy,Fx,Fw,JN,N8,N7] 0 (nm i++(nm d++(nm e++(nm c++(nm p++[.i l,.i o,.i f,.i s,.i b,.i m]))))) (aM ⟨i,d,e,c,p,l,o,f,s,b,m⟩):=⟨rfl,aH _,pK ⟨i,d,e,c,p,l,o,f,s,b,m⟩⟩
end
def zA:bJ:=⟨0,0,0,0,0,0,0,0,0⟩
def zT:cM:=⟨0,0,0,0,0,0,0,0,0,0,0⟩
section
variable {x1 x2 x3 x4 x5 x6 x7 x8 x9 Fz Fy Fx Fw JN N8 N7:Value} {a:bJ} {t:cM}
instance:Wr [x1,x2,x3,x4,x5,x6,x7,x8,x9,Fz,Fy,Fx,Fw,JN] 0 [.u 0,.u 0,.u 0,.u 0,.u 0,.u 0,.u 0,.u 0,.u 0,.u 0,.i 0,.i 0,.i 0,.i 0] (aL zA):=⟨rfl,aH _,iT zA⟩
instance:Wr [x1,x2,x3,x4,x5,x6,x7,x8,x9,Fz,Fy,Fx,Fw,JN,N8,N7] 0 [.u 0,.u 0,.u 0,.u 0,.u 0,.u 0,.u 0,.u 0,.u 0,.u 0,.i 0,.i 0,.i 0,.i 0,.i 0,.i 0] (aM zT):=⟨rfl,aH _,pK zT⟩
end
def acX{W:World}{L:LH}{X:WK}{r o:Nat}{a:bJ}{cs:LV}{f:LV->LH}[i:Lc (Sep.pt r) L cs f][s:Sub cs o 14 (aL a)](h:T W L X):T W L (kp ⟨r,o,none⟩ (aL a) X):=Un (n:=14) h
def acV{W:World}{L:LH}{X:WK}{r o:Nat}{a:cM}{cs:LV}{f:LV->LH}[i:Lc (Sep.pt r) L cs f][s:Sub cs o 16 (aM a)](h:T W L X):T W L (kp ⟨r,o,none⟩ (aM a) X):=Un (n:=16) h
section
variable {L:LH} {X:WK} {r o:Nat} {a:bJ} {b:cM} {k:ch} {cs:LV} {f:LV->LH}
instance[i:Lc (Sep.pt r) L cs f][s:Sub cs o 14 (aL a)]:Wk L (kp ⟨r,o,none⟩ (aL a) X) L X:=⟨λ_ h=>acX h⟩
instance[i:Lc (Sep.pt r) L cs f][s:Sub cs o 16 (aM b)]:Wk L (kp ⟨r,o,none⟩ (aM b) X) L X:=⟨λ_ h=>acV h⟩
instance:Ln (aL a) 14:=⟨rfl⟩
instance:Ln (aM b) 16:=⟨rfl⟩
instance:Ln (bF k) 33:=⟨rfl⟩
instance:Gt (aL a) 10 (.i a.ba):=⟨rfl⟩
instance:Gt (aL a) 11 (.i a.code):=⟨rfl⟩
instance:Gt (aL a) 12 (.i a.aq):=⟨rfl⟩
instance:Gt (aL a) 13 (.i a.ay):=⟨rfl⟩
instance:Gt (aM b) 10 (.i b.cn):=⟨rfl⟩
instance:Gt (aM b) 11 (.i b.ba):=⟨rfl⟩
instance:Gt (aM b) 12 (.i b.code):=⟨rfl⟩
instance:Gt (aM b) 13 (.i b.aq):=⟨rfl⟩
instance:Gt (aM b) 14 (.i b.ay):=⟨rfl⟩
instance:Gt (aM b) 15 (.i b.jh):=⟨rfl⟩
instance:Gt (bF k) 26 (.i k.move.cn):=⟨rfl⟩
instance:Gt (bF k) 30 (.i k.move.ay):=⟨rfl⟩
instance:Gt (bF k) 31 (.i k.move.jh):=⟨rfl⟩
instance:Gt (bF k) 32 (.i k.fate):=⟨rfl⟩
end
structure mY(W:World):Prop where
 Yr:∀j v,(nm (bG-1))[j]?=some v->W.cell? ((ad N.tZ 0).add j)=some v
 told:∀j v,([.i 0,.i 0,.i 27,.i 28,.i 29]:LV)[j]?=some v->W.cell? ((ad N.zQ 0).add j)=some v
structure xR(a:bJ):Prop where
 id:a.id<bG
 dp:a.dp<bG
 dq:a.dq<bG
 cp:a.cp<bG
 cq:a.cq<bG
 ba:vS a.ba
 code:vS a.code
 aq:vS a.aq
 ay:vS a.ay
structure Ab(t:cM):Prop where
 id:t.id<bG
 bw:t.bw<bG
 aP:t.aP<bG
 aU:t.aU<bG
 pending:t.pending<bG
 cn:vS t.cn
 ba:vS t.ba
 code:vS t.code
 aq:vS t.aq
 ay:vS t.ay
 jh:vS t.jh
section
variable {W:World} {L:LH} {K:VK} {a b:bJ} {t u:cM}
def Y5(h:T W L (K (.b (decide (a.dp=0/\a.dq=0/\a.cp=0/\a.cq=0/\a.ay=0))))):T W L (mu (aL a) K):=by
 unfold mu mu.j1 mu.j2
 repeat' first|apply ws;intros|apply wb|with_reducible first|refine vR ?_|refine dj (λh1=>?_) (λh1=>?_)|fail
 all_goals (refine T.fin (T.dp h) ?_;congr 1;first|rfl|(simp only[decide_eq_true_eq,decide_eq_false_iff_not,cJ] at * <;>simp[*]<;>rfl))
def WM(G:mY W)(ha:xR a)(h:T W L (K (.i (uw a)))):T W L (qu (aL a) K):=by
 unfold qu qu.j1;have hf:=ha.aq
 repeat' first|apply ws;intros|apply wb|with_reducible first|refine vR ?_|refine Y5 ?_|refine Qj ⟨zE _,G.Yr⟩ ?_|refine dj (λh1=>?_) (λh1=>?_)|fail
 all_goals try simp only[ae1 hf,bz] at *
 all_goals (refine T.fin (T.dp h) ?_;congr 1)
 ·rw[uw,ai h1]
 all_goals
  all_goals try simp only[ae3 (show 0<=a.aq by omega) (show a.aq<256 by omega),bz] at *
  unfold uw has at *
  repeat' split
  all_goals first|rfl|omega
end
def nq(a:bJ):Prop:=(0<=a.ba/\a.ba<=4294967295)/\(0<=a.code/\a.code<=65535)/\0<=a.aq/\a.aq<=65535
instance(a:bJ):Decidable (nq a):=by unfold nq;infer_instance
def kL(t:cM):Prop:=(0<=t.cn/\t.cn<=4294967295)/\(0<=t.ba/\t.ba<=4294967295)/\(0<=t.code/\t.code<=65535)/\0<=t.aq/\t.aq<=65535
instance(t:cM):Decidable (kL t):=by unfold kL;infer_instance
def jQ(a:bJ):List UInt8:=[a.id,a.dp,a.dq,a.cp,a.cq].flatMap nb++le .i64 4 a.ba++le .i64 2 a.code++le .i64 2 a.aq++le .i64 8 a.ay
def o0(t:cM):List UInt8:=[t.id,t.bw,t.aP,t.aU,t.pending].flatMap nb++le .i64 4 t.cn++le .i64 4 t.ba++le .i64 2 t.code++le .i64 2 t.aq++le .i64 8 t.ay++le .i64 8 t.jh
def yk:∀l:List Nat,(l.flatMap nb).length=16* l.length
 |[]=>rfl
 |x::l=>by rw[iY,aw,sn,yk l,bE];omega
def oT(a:bJ):(jQ a).length=96:=by simp only[jQ,aw,yk,aO];rfl
def pT(t:cM):(o0 t).length=108:=by simp only[o0,aw,yk,aO];rfl
section
variable {W:World} {L:LH} {K:VK} {a b:bJ} {t u:cM} {p:Nat} {l:List UInt8} {q:List UInt8->LH}
def KS(h:T W L (K (.b (decide (nq a))))):T W L (jB (aL a) K):=by
 unfold jB jB.j1 jB.j2 jB.j3
 repeat' first|apply ws;intros|apply wb|with_reducible refine dj (λh1=>?_) (λh1=>?_)|fail
 all_goals (refine T.fin (T.dp h) ?_;congr 1;(rw[cf];(try simp only[bz,false_iff,true_iff] at *)<;>(try simp only[nq,bm] at *)<;>omega))
def JY(h:T W L (K (.b (decide (kL t))))):T W L (gv (aM t) K):=by
 unfold gv gv.j1 gv.j2 gv.j3 gv.j4 gv.j5
 repeat' first|apply ws;intros|apply wb|with_reducible refine dj (λh1=>?_) (λh1=>?_)|fail
 all_goals (refine T.fin (T.dp h) ?_;congr 1;(rw[cf];(try simp only[bz,false_iff,true_iff] at *)<;>(try simp only[kL,bm] at *)<;>omega))
def ad4(x:List Nat)(i:Nat)(y:Nat)(h:x[i]?=some y):((x.flatMap nm).drop (i* 2)).take 2=nm y:=by
 apply qN;intro j;rw[sH];split
 ·rename_i hj;rw[sJ];cases hv:(nm y)[j]? with
  |none=>have:=List.getElem?_eq_none_iff.1 hv;rw[zE] at this;omega
  |some v=>exact ra zE x i y h j v hv
 ·exact(qh (by rw[zE];omega)).symm
def WJ[i:Lc (buf p) L l q](hg:nq a)(hl:l.length<549755813888)(h:T W (q (l++jQ a)) (K (.tuple ⟨[]⟩))):T W L (sA (ah p) (aL a) K):=by
 unfold sA sA.j1
 repeat' first|apply ws;intros|apply wb|with_reducible refine KS ?_|fail
 rw[av hg,Bool.not_true,eK];apply ws;intros;rename_i r;intro w hs;refine⟨λvs w=>∃i:Nat,i<=5/\vs=[.p (some (ad r 0)),.agg ⟨[a.id,a.dp,a.dq,a.cp,a.cq].flatMap nm⟩,.i (i:Int)]/\St W w (Sep.pt r (aL a)::q (l++([a.id,a.dp,a.dq,a.cp,a.cq].take i).flatMap nb)),
  λvs _=>match vs with|[_,_,.int _ j]=>5-j.toNat|_=>0,⟨0,aE _,rfl,by rw[ox,List.flatMap_nil,bO,i.same];exact hs⟩,?_⟩
 rintro a1 Pt n1 w2 ⟨j,hj,e,hs⟩;cases e
 refine T.at ?_ hs;have hq:=i.next;have hlen:(l++([a.id,a.dp,a.dq,a.cp,a.cq].take j).flatMap nb).length<1099511627776:=by rw[aw,yk,aD];simp;omega
 apply ga<;>intro h1
 ·have bX:j<5:=by omega
  have hx:[a.id,a.dp,a.dq,a.cp,a.cq][j]?=some ([a.id,a.dp,a.dq,a.cp,a.cq][j]'(by simpa using bX)):=aj _;have e5:=nK j;have et:([a.id,a.dp,a.dq,a.cp,a.cq].take j).flatMap nb++nb ([a.id,a.dp,a.dq,a.cp,a.cq][j]'(by simpa using bX))=([a.id,a.dp,a.dq,a.cp,a.cq].take (j+1)).flatMap nb:=by
   rw[qL (by simpa using bX),gA];simp
  rw[ak,ad4 _ _ _ hx,e5]
  repeat' first|apply ws;intros|apply wb|with_reducible first|refine dO (by omega) ?_|refine KT hlen ?_|fail
  rw[aI,et];refine T.drop λw3 h3=>⟨⟨j+1,bX,rfl,?_⟩,by show 5-((j+1:Nat):Int).toNat<5-(j:Int).toNat;omega⟩;exact h3
 ·have he:j=5:=by omega
  subst he;simp only[ig,aC];have e1:∀m:List UInt8,(l++m).length=l.length+m.length:=λm=>aw;have e2:(([a.id,a.dp,a.dq,a.cp,a.cq].take 5).flatMap nb).length=80:=by rw[yk];rfl
  repeat' first|apply ws;intros|apply wb|with_reducible first|refine RF (by simp only[aw,aO,e2];omega) ?_|refine Fk (by simp only[aw,aO,e2];omega) ?_|refine Au (by simp only[aw,aO,e2];omega) ?_|fail
  have e3:l++jQ a=l++([a.id,a.dp,a.dq,a.cp,a.cq].take 5).flatMap nb++le .i64 4 a.ba++le .i64 2 a.code++le .i64 2 a.aq++le .i64 8 a.ay:=by
   unfold jQ;simp only[aI];rfl
  rw[<-e3];exact T.dp h
def Ol[i:Lc (buf p) L l q](hg:kL t)(hl:l.length<549755813888)(h:T W (q (l++o0 t)) (K (.tuple ⟨[]⟩))):T W L (qV (ah p) (aM t) K):=by
 unfold qV qV.j1
 repeat' first|apply ws;intros|apply wb|with_reducible refine JY ?_|fail
 rw[av hg,Bool.not_true,eK];apply ws;intros;rename_i r;intro w hs;refine⟨λvs w=>∃i:Nat,i<=5/\vs=[.p (some (ad r 0)),.agg ⟨[t.id,t.bw,t.aP,t.aU,t.pending].flatMap nm⟩,.i (i:Int)]/\St W w (Sep.pt r (aM t)::q (l++([t.id,t.bw,t.aP,t.aU,t.pending].take i).flatMap nb)),
  λvs _=>match vs with|[_,_,.int _ j]=>5-j.toNat|_=>0,⟨0,aE _,rfl,by rw[ox,List.flatMap_nil,bO,i.same];exact hs⟩,?_⟩
 rintro a1 Pt n1 w2 ⟨j,hj,e,hs⟩;cases e
 refine T.at ?_ hs;have hq:=i.next;have hlen:(l++([t.id,t.bw,t.aP,t.aU,t.pending].take j).flatMap nb).length<1099511627776:=by rw[aw,yk,aD];simp;omega
 apply ga<;>intro h1
 ·have bX:j<5:=by omega
  have hx:[t.id,t.bw,t.aP,t.aU,t.pending][j]?=some ([t.id,t.bw,t.aP,t.aU,t.pending][j]'(by simpa using bX)):=aj _;have e5:=nK j;have et:([t.id,t.bw,t.aP,t.aU,t.pending].take j).flatMap nb++nb ([t.id,t.bw,t.aP,t.aU,t.pending][j]'(by simpa using bX))=([t.id,t.bw,t.aP,t.aU,t.pending].take (j+1)).flatMap nb:=by
   rw[qL (by simpa using bX),gA];simp
  rw[ak,ad4 _ _ _ hx,e5]
  repeat' first|apply ws;intros|apply wb|with_reducible first|refine dO (by omega) ?_|refine KT hlen ?_|fail
  rw[aI,et];refine T.drop λw3 h3=>⟨⟨j+1,bX,rfl,?_⟩,by show 5-((j+1:Nat):Int).toNat<5-(j:Int).toNat;omega⟩;exact h3
 ·have he:j=5:=by omega
  subst he;simp only[ig,aC];have e2:(([t.id,t.bw,t.aP,t.aU,t.pending].take 5).flatMap nb).length=80:=by rw[yk];rfl
  repeat' first|apply ws;intros|apply wb|with_reducible first|refine RF (by simp only[aw,aO,e2];omega) ?_|refine Fk (by simp only[aw,aO,e2];omega) ?_|refine Au (by simp only[aw,aO,e2];omega) ?_|fail
  have e3:l++o0 t=l++([t.id,t.bw,t.aP,t.aU,t.pending].take 5).flatMap nb++le .i64 4 t.cn++le .i64 4 t.ba++le .i64 2 t.code++le .i64 2 t.aq++le .i64 8 t.ay++le .i64 8 t.jh:=by
   unfold o0;simp only[aI];rfl
  rw[<-e3];exact T.dp h
abbrev RS:=List UInt8×Bool
def zH(n:Nat)(x:RS):RS:=match n with|0=>x|n+1=>gh 16 (zH n x)
def Hx(x:RS):RS:=gh 8 (gh 2 (gh 2 (gh 4 (zH 5 x))))
def Hz(x:RS):bJ:=if(Hx x).2=true then zA else
 ⟨AQ x,AQ (zH 1 x),AQ (zH 2 x),AQ (zH 3 x),AQ (zH 4 x),lF 4 (zH 5 x),lF 2 (gh 4 (zH 5 x)),lF 2 (gh 2 (gh 4 (zH 5 x))),lF 8 (gh 2 (gh 2 (gh 4 (zH 5 x))))⟩
def Hw(x:RS):RS:=gh 8 (gh 8 (gh 2 (gh 2 (gh 4 (gh 4 (zH 5 x))))))
def Hy(x:RS):cM:=if(Hw x).2=true then zT else
 ⟨AQ x,AQ (zH 1 x),AQ (zH 2 x),AQ (zH 3 x),AQ (zH 4 x),lF 4 (zH 5 x),lF 4 (gh 4 (zH 5 x)),lF 2 (gh 4 (gh 4 (zH 5 x))),lF 2 (gh 2 (gh 4 (gh 4 (zH 5 x)))),
  lF 8 (gh 2 (gh 2 (gh 4 (gh 4 (zH 5 x))))),lF 8 (gh 8 (gh 2 (gh 2 (gh 4 (gh 4 (zH 5 x))))))⟩
variable {r:Nat} {x:RS} {g:RS->LH}
def rH{m:Nat}{x:RS}{B:Nat}(h:x.1.length<B):(gh m x).1.length<B:=HG (wj m x) h
def WL[i:Lc (rd r) L x g](hl:x.1.length<1099511627776)(h:T W (g (Hx x)) (K (.agg ⟨aL (Hz x)⟩))):T W L (oS (ah r) K):=by
 unfold oS;have hq:=i.next
 repeat' first|apply ws;intros|apply wb|with_reducible first|refine K0 (by repeat (first|exact hl|apply rH)) ?_|refine RJ (by repeat (first|exact hl|apply rH)) ?_|refine Fm (by repeat (first|exact hl|apply rH)) ?_|refine yM (by repeat (first|exact hl|apply rH)) ?_|refine Aw ?_|fail
 have e:gh 8 (gh 2 (gh 2 (gh 4 (gh 16 (gh 16 (gh 16 (gh 16 (gh 16 x))))))))=Hx x:=rfl;rw[e];unfold Hz at h;apply dj<;>intro h1
 ·rw[ai h1] at h;apply ws;intros;exact T.dp h
 ·rw[ag (by rw[h1];decide)] at h;apply ws;intros;exact T.dp h
def Om[i:Lc (rd r) L x g](hl:x.1.length<1099511627776)(h:T W (g (Hw x)) (K (.agg ⟨aM (Hy x)⟩))):T W L (nO (ah r) K):=by
 unfold nO;have hq:=i.next
 repeat' first|apply ws;intros|apply wb|with_reducible first|refine K0 (by repeat (first|exact hl|apply rH)) ?_|refine RJ (by repeat (first|exact hl|apply rH)) ?_|refine Fm (by repeat (first|exact hl|apply rH)) ?_|refine yM (by repeat (first|exact hl|apply rH)) ?_|refine Aw ?_|fail
 have e:gh 8 (gh 8 (gh 2 (gh 2 (gh 4 (gh 4 (gh 16 (gh 16 (gh 16 (gh 16 (gh 16 x))))))))))=Hw x:=rfl;rw[e];unfold Hy at h;apply dj<;>intro h1
 ·rw[ai h1] at h;apply ws;intros;exact T.dp h
 ·rw[ag (by rw[h1];decide)] at h;apply ws;intros;exact T.dp h
end
end Go.Up
namespace Go.Den
open Go.RowKit
def tf(P:Program)(fT:TypeId->Option (LV)):Nat->List Field->Option (LV)
 |_,[]=>some []
 |o,f::r=>bif (f.name != "_")&&iJ f.offset o then
           match fT f.type with
           |some z=>bif (match P.info? f.type with|some i=>iJ i.size z.length|none=>false) then
                     match tf P fT (o+z.length) r with
                     |some zr=>some (z++zr)
                     |none=>none
            else none
           |none=>none
  else none
def A1(P:Program):Nat->TypeId->Option (LV)
 |0,_=>none
 |n+1,t=>match P.underlying t with
  |some (.int k)=>some [.int k 0]
  |some .bool=>some [.bool false]
  |some .string=>some [.string .empty]
  |some (.struct fs)=>bif P.stoodInHeld t then none else tf P (A1 P n) 0 fs.toList
  |_=>none
def toV(P:Program)(t:TypeId)(xs:LV):Value:=match P.underlying t with
 |some (.struct _)=>.agg ⟨xs⟩
 |_=>xs.headD undef
def pV:∀{zs xs:LV},o8 zs xs=true->xs.length=zs.length
 |[],[],_=>rfl
 |[],_::_,h=>by simp[o8] at h
 |_::_,[],h=>by simp[o8] at h
 |z::zs,x::xs,h=>by simp only[o8,dI] at h;simp[pV h.2]
def zR:∀{z zr xs:LV},o8 (z++zr) xs=true->∃a b,xs=a++b/\o8 z a=true/\o8 zr b=true
 |[],zr,xs,h=>⟨[],xs,rfl,rfl,h⟩
 |y::z,zr,[],h=>by simp[o8] at h
 |y::z,zr,x::xs,h=>by
  simp only[lV,o8,dI] at h;obtain⟨a,b,rfl,h1,h2⟩:=zR h.2;exact⟨x::a,b,rfl,by simp[o8,h.1,h1],h2⟩
def ud:∀{a b c d:LV},a.length=b.length->jt (a++c) (b++d)=(jt a b&&jt c d)
 |[],[],c,d,_=>by simp[jt]
 |[],_::_,_,_,h=>by simp at h
 |_::_,[],_,_,h=>by simp at h
 |x::a,y::b,c,d,h=>by
  simp only[lV,jt];rw[ud (by simpa using h),Bool.and_assoc]
def Rn{P:Program}:∀(n:Nat)(t:TypeId)(zs:LV),A1 P n t=some zs->∀(xs ys:LV),o8 zs xs=true->o8 zs ys=true->∀(d:Nat)(w:World),(Op.equalIn (d+2* n) t (toV P t xs) (toV P t ys)).run P w=.ok (jt xs ys) w
 |0,_,_,h=>by simp[A1] at h
 |n+1,t,zs,h=>λxs ys hx hy d w=>by
  have hd:d+2* (n+1)=(d+2* n+1)+1:=by omega
  rw[hd];unfold A1 at h;unfold toV;generalize hu:P.underlying t=u at h;split at h
  ·cases h
   obtain⟨x,rfl⟩:=List.length_eq_one_iff.1 (pV hx);obtain⟨y,rfl⟩:=List.length_eq_one_iff.1 (pV hy)
   ·simp only[o8,Bool.and_true] at hx hy;cases x<;>simp[fits] at hx
    cases y<;>simp[fits] at hy
    subst hx hy;simp[run_equalIn_int w _ t _ _ _ _ hu,jt,Bu]
  ·cases h
   obtain⟨x,rfl⟩:=List.length_eq_one_iff.1 (pV hx);obtain⟨y,rfl⟩:=List.length_eq_one_iff.1 (pV hy)
   ·simp only[o8,Bool.and_true] at hx hy;cases x<;>simp[fits] at hx
    cases y<;>simp[fits] at hy
    simp[run_equalIn_bool w _ t _ _ hu,jt,Bu]
  ·cases h
   obtain⟨x,rfl⟩:=List.length_eq_one_iff.1 (pV hx);obtain⟨y,rfl⟩:=List.length_eq_one_iff.1 (pV hy)
   ·simp only[o8,Bool.and_true] at hx hy;cases x<;>simp[fits] at hx
    cases y<;>simp[fits] at hy
    simp[run_equalIn_string w _ t _ _ hu,jt,Bu,pG]
  ·rename_i fs;cases hs:P.stoodInHeld t with
   |true=>rw[hs] at h;cases h
   |false=>
    rw[hs] at h;have Cv:P.fieldsOf t=fs:=by simp[Program.fieldsOf,hu]
    show(Op.equalIn _ t (.agg ⟨xs⟩) (.agg ⟨ys⟩)).run P w=_;rw[run_equalIn_struct w _ t ⟨xs⟩ ⟨ys⟩ (by rw[Cv];exact hu) hs,Cv];have key:∀(l:List Field)(o:Nat)(zs:LV)(pre Sr xs ys:LV),pre.length=o->Sr.length=o->tf P (A1 P n) o l=some zs->o8 zs xs=true->o8 zs ys=true->
                                                              (Op.eqFields (d+2* n+1) ⟨pre++xs⟩ ⟨Sr++ys⟩ l).run P w=.ok (jt xs ys) w:=by
     intro l
     induction l with
     |nil=>
      intro o zs pre Sr xs ys h1 h2 h3 hx hy;simp only[tf,aY.injEq] at h3;subst h3;cases xs<;>cases ys<;>simp[o8] at hx hy
      simp[Op.eqFields,jt]
     |cons f l ih=>
      intro o zs pre Sr xs ys h1 h2 h3 hx hy;unfold tf at h3;cases hc:((f.name != "_")&&iJ f.offset o) with
      |false=>rw[hc] at h3;cases h3
      |true=>
       rw[hc] at h3;simp only[dI] at hc;have hn':f.name≠ "_":=by simpa using hc.1
       have ho':f.offset=o:=fa hc.2;simp only[cond_true] at h3;cases hz:A1 P n f.type with
       |none=>rw[hz] at h3;cases h3
       |some z=>
        rw[hz] at h3;dsimp only at h3;cases hi:P.info? f.type with
        |none=>rw[hi] at h3;cases h3
        |some i=>
         rw[hi] at h3;dsimp only at h3;cases pE:iJ i.size z.length with
         |false=>rw[pE] at h3;cases h3
         |true=>
          rw[pE] at h3;have pE:=fa pE;simp only[cond_true] at h3;cases hr:tf P (A1 P n) (o+z.length) l with
          |none=>rw[hr] at h3;cases h3
          |some zr=>
           rw[hr] at h3;simp only[aY.injEq] at h3;subst h3;obtain⟨x1,x2,rfl,a1,a2⟩:=zR hx;obtain⟨y1,y2,rfl,b1,b2⟩:=zR hy;have lx:=pV a1;have ly:=pV b1;have Ra:∀(p x1 x2:LV),p.length=o->o8 z x1=true->(part f.type (⟨p++(x1++x2)⟩:Array Value) f.offset).run P w=.ok (toV P f.type x1) w:=by
            intro p x1 x2 hp a1;have lx:=pV a1;cases n with
            |zero=>simp[A1] at hz
            |succ m=>
             unfold A1 at hz;unfold toV;generalize TP:P.underlying f.type=fu at hz;have Li:∀v:Value,x1=[v]->uq (fu.getD (.int .i64))=false->fu.isSome=true->(part f.type (⟨p++(x1++x2)⟩:Array Value) f.offset).run P w=.ok v w:=by
              intro v hv hg adt;subst hv;cases fu with
              |none=>cases adt
              |some fd=>
               simp only[dE] at hg;cases fd<;>simp[uq] at hg<;>simp[part,isAgg,underlying,TP,ho',hp]
             split at hz
             ·cases hz
              match x1,a1,lx,Li with
              |[v],_,_,Li=>exact Li v rfl rfl rfl
             ·cases hz
              match x1,a1,lx,Li with
              |[v],_,_,Li=>exact Li v rfl rfl rfl
             ·cases hz
              match x1,a1,lx,Li with
              |[v],_,_,Li=>exact Li v rfl rfl rfl
             ·simp only[part,isAgg,underlying,sizeOf,typeInfo,Sem.run_bind,run_program,Result.andThen_ok,TP,hi,Sem.run_pure,if_true,ho'];have:(⟨p++(x1++x2)⟩:Array Value).extract o (o+i.size)=⟨x1⟩:=by
               apply va;rw[Array.toList_extract];show List.extract (p++(x1++x2)) o (o+i.size)=x1;rw[List.extract_eq_take_drop,<-hp,List.drop_left' rfl,pE,show p.length+z.length-p.length=x1.length by omega,List.take_left' rfl]
              rw[this]
             ·cases hz
           have ihn:=Rn n f.type z hz x1 y1 a1 b1 (d+1) w;have Xj:=ih (o+z.length) zr (pre++x1) (Sr++y1) x2 y2 (by rw[aw,h1,lx]) (by rw[aw,h2,ly]) hr a2 b2;rw[show d+1+2* n=d+2* n+1 by omega] at ihn;rw[aI,aI] at Xj;rw[Op.eqFields];simp only[ai hn',Sem.run_bind,Ra pre x1 x2 h1 a1,Ra Sr y1 y2 h2 b1,ihn,Result.andThen_ok];rw[ud (by rw[lx,ly])];cases jt x1 y1
           ·simp
           ·simpa using Xj
    have:=key fs.toList 0 zs [] [] xs ys rfl rfl (by simpa using h) hx hy;simpa using this
  ·cases h
def sF.nil{P:Program}:sF P []:=λt zs h=>by simp[Jx] at h
def sF.cons{P:Program}{E:Xc}{t:Nat}{z:LV}{fs:Array Field}(h1:P.eqGuardType P.depth t=false)(h2:A1 P 4 t=some z)(h3:P.underlying t=some (.struct fs))(h:sF P E):sF P ((t,z)::E):=λu zs hu=>by
 unfold Jx at hu;cases hb:iJ t u with
 |true=>
  rw[hb] at hu;have:=fa hb;subst this;cases hu
  refine⟨h1,λxs ys hx hy w=>?_⟩;have:=Rn 4 t z h2 xs ys hx hy (Op.maxDepth-8) w;have e:Op.maxDepth-8+2* 4=Op.maxDepth:=by decide
  rw[e] at this;unfold toV at this;rw[h3] at this;exact this
 |false=>
  rw[hb] at hu;exact h u zs hu
end Go.Den
