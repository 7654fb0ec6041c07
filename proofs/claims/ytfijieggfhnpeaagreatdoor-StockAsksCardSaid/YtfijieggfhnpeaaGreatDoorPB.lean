/- Part of the proof: see the last text. -/
import Derived.Test.YtfijieggfhnpeaaGreatDoorPA
import Derived.ProofKit
import Derived.OpenShut
import Derived.ChangeOld
import Derived.SizedLaws
import Derived.Carry
import Derived.Deep.Slices
import Derived.Laws.StructEq
set_option linter.all false
set_option maxRecDepth 100000
set_option synthInstance.maxSize 100000
open Array renaming ext'→rv,replicate→gw,toList_map→AB
open Bool renaming and_eq_true→cY,false_ne_true→py,true_and→dX,false_eq_true→cn,eq_iff_iff→ec
open ByteArray renaming empty→xG
open Decidable renaming not_not→bh
open Go.IntKind renaming i64→ag
open Int renaming toNat_natCast→aq,eq_ofNat_of_zero_le→bD,fdiv_eq_ediv_of_nonneg→CR,le_refl→u0
open List renaming mem_cons→gK,set_cons_succ→kf,foldl_cons→FB,mem_append→dG,mem_singleton→fO,length_replicate→gi,mem_cons_self→mE,mem_cons_of_mem→qN,mem_or_eq_of_mem_set→ru,take_of_length_le→bg,getElem?_append_left→bM,append_nil→bN,flatMap_cons→eP,map_cons→fq,flatMap_append→fC,getElem?_eq_none→gj,getElem?_append_right→jo,ext_getElem?→jq,getElem?_drop→px,nil_append→dm,drop_of_length_le→eH,take_zero→qM,reverse_cons→uL,length_append→ak,append_assoc→aI,length_map→cu,map_append→cS,mem_map→dK,range→mD,take_succ_eq_append_getElem→nD,map_congr_left→od,map_map→y6,replicate→aM,Perm→bA,length_nil→dH,length_take→aG,length_drop→aV,set_set→gW,drop_zero→oC,drop_drop→Jv,getElem?_eq_getElem→ao,length_cons→bw,getElem_mem→bT,getElem?_map→dC,cons_append→fE,mem_of_find?_eq_some→jW,take_length→bF,take_left→zX,getElem?_eq_some_iff→ar,drop_eq_getElem_cons→jX,getElem?_cons_succ→aW,getElem?_set→cA,length_set→jC,getElem?_range→lz,getElem?_take→pw
open Nat renaming le_refl→aC,zero_add→az,add_mul→lq,zero_le→aL,reduceAdd→ae,reduceMul→af,le_of_ble_eq_true→aH,mul_one→mQ,sub_self→sH,pow_le_pow_right→ja,add_zero→iL,mod_eq_of_lt→eX,mul_le_mul_right→fS,lt_of_le_of_lt→ni,eq_of_beq_eq_true→df,beq→fe
open Option renaming some→bj,map_some→dN,getD_none→eV,getD_some→dk
namespace Go.Prog
open Go.Den
def mS(e:BA)(K:VK):WK:=mk [.u 0,.u 0] λf=>mk [.u 0,.u 0] λj=>br (decide ((e.size:Int)<16)) (aD (ad j 0) 2 λl=>aT 2 (ad f 0) l (aD (ad f 0) 2 λm=>K (.tuple ⟨[.agg ⟨m⟩,.b false]⟩))) ((lp [.p (some (ad f 0)),.b false,.p (some (ad j 0)),.i 0] λk n=>∀d g c a h,k [.p (some d),.b g,.p (some c),.i a] h->(br (decide (a<8)) (tick (lU (c.add 1) λo=>ss e a λq=>aY ((0:Int)<=(ag.wrap (8* a))) (st (c.add 1) (.u (ch .u64 .or o (shl .u64 (IntKind.u64.wrap (q.toNat:Int)) (ag.wrap (8* a))))) (tick (lU c λr=>ss e (ag.wrap (8+a)) λs=>aY ((0:Int)<=(ag.wrap (8* a))) (st c (.u (ch .u64 .or r (shl .u64 (IntKind.u64.wrap (s.toNat:Int)) (ag.wrap (8* a))))) ((ct k n [.p (some d),.b g,.p (some c),.i (ag.wrap (a+1))] [.p (some d),.b g,.p (some c),.i a] h)))))))) (aD c 2 λt=>aT 2 d t (aD d 2 λv=>K (.tuple ⟨[.agg ⟨v⟩,.b true]⟩)))) h))
def bY(c:OA)(K:VK):WK:=mk [.u 0,.u 0] λa=>dy c 16 (xS λd=>mS d (x2 λe f=>(xA 2 λg=>(xB λj=>mk [.u 0,.u 0] λb=>aT 2 (ad b 0) g (aD (ad b 0) 2 λh=>aT 2 (ad a 0) h (aD (ad a 0) 2 λi=>K (.agg ⟨i⟩)))) f) e))
def bY.u:WP|[.pointer a],K=>bY a K|_,_=>no
def kE(a:OA)(K:VK):WK:=mk cN λb=>bY a (xA 2 λc=>bY a (xA 2 λd=>bY a (xA 2 λe=>bY a (xA 2 λf=>bY a (xA 2 λg=>aF a 4 (xI .i64 λh=>aF a 2 (xI .i64 λj=>aF a 2 (xI .i64 λk=>aF a 8 (xI .i64 λl=>aY (c.length=2/\(d.length=2/\(e.length=2/\(f.length=2/\(g.length=2/\(1=1/\(1=1/\(1=1/\(1=1/\True))))))))) (mk cN λm=>aY ((c++(d++(e++(f++(g++([.i h,.i j,.i k,.i l]:LV)))))).length=14) (fH (ad m 0) (c++(d++(e++(f++(g++([.i h,.i j,.i k,.i l]:LV)))))) (bK a (xB λn=>br n (aY True (aY (14=14) (fH (ad b 0) cN (aD (ad b 0) 14 λo=>K (.agg ⟨o⟩))))) (aD (ad m 0) 14 λp=>aT 14 (ad b 0) p (aD (ad b 0) 14 λq=>K (.agg ⟨q⟩))))))))))))))))
def kE.u:WP|[.pointer a],K=>kE a K|_,_=>no
def jD(a:OA)(K:VK):WK:=mk bZ λb=>bY a (xA 2 λc=>bY a (xA 2 λd=>bY a (xA 2 λe=>bY a (xA 2 λf=>bY a (xA 2 λg=>aF a 4 (xI .i64 λh=>aF a 4 (xI .i64 λj=>aF a 2 (xI .i64 λk=>aF a 2 (xI .i64 λl=>aF a 8 (xI .i64 λm=>aF a 8 (xI .i64 λn=>aY (c.length=2/\(d.length=2/\(e.length=2/\(f.length=2/\(g.length=2/\(1=1/\(1=1/\(1=1/\(1=1/\(1=1/\(1=1/\True))))))))))) (mk bZ λo=>aY ((c++(d++(e++(f++(g++([.i h,.i j,.i k,.i l,.i m,.i n]:LV)))))).length=16) (fH (ad o 0) (c++(d++(e++(f++(g++([.i h,.i j,.i k,.i l,.i m,.i n]:LV)))))) (bK a (xB λp=>br p (aY True (aY (16=16) (fH (ad b 0) bZ (aD (ad b 0) 16 λq=>K (.agg ⟨q⟩))))) (aD (ad o 0) 16 λr=>aT 16 (ad b 0) r (aD (ad b 0) 16 λs=>K (.agg ⟨s⟩))))))))))))))))))
def jD.u:WP|[.pointer a],K=>jD a K|_,_=>no
def np(a:OA)(K:VK):WK:=br (a.isNone) (K (.i 0)) (nn a λb=>lT (b.add 1) λc=>br c (K (.i 0)) (nn a λd=>lS d λe=>K (.i (e.size:Int))))
def tr(K:VK):WK:=Gx 32 Jw 8 8 λa b c=>aY (1=1/\True) (mk [.l a b c,.i 0,.i 0] λd=>K (.p (some (ad d 0))))
def nF(a:OA)(K:VK):WK:=aY (1=1/\True) (mk [.l none 0 0,.p a] λb=>K (.p (some (ad b 0))))
def pJ(a:OA)(K:VK):WK:=aY (1=1/\True) (mk [.l none 0 0,.p a] λb=>K (.p (some (ad b 0))))
def rm(K:VK):WK:=tr (xP λb=>tr (xP λc=>aY (1=1/\(1=1/\True)) (mk [.l none 0 0,.p none,.p none,.p b,.p c,.l none 0 0,.l none 0 0,.i 0,.i 0] λa=>tick (nF (some (ad a 0)) (xP λd=>pJ (some (ad a 0)) (xP λe=>st (ad a 1) (.p d) (st (ad a 2) (.p e) (K (.p (some (ad a 0)))))))))))
def jG(a:OA)(K:VK):WK:=br (!(a.isNone)) (nn a λc=>lL c λd b n=>SQ (Builtin.zeroCells ⟨[.nilFunc]⟩ b).toList d b (nn a λe=>lL e λf g h=>oW f g h 1 none (some 0) λi j k=>nn a λm=>st m (.l i j k) (K (.tuple ⟨[]⟩)))) (K (.tuple ⟨[]⟩))
def qX(e:LV)(K:VK):WK:=mk e λa=>lU (ad a 1) λb=>lU (ad a 0) λc=>aY ((0:Int)<=31) (lU (ad a 0) λd=>aY ((0:Int)<=33) (aY ((0:Int)<=29) (K (.u (ch .u64 .xor (IntKind.u64.wrap ((ch .u64 .xor (ch .u64 .xor b (shl .u64 c 31)) (shr .u64 d 33))* 11400714819323198485)) (shr .u64 (IntKind.u64.wrap ((ch .u64 .xor (ch .u64 .xor b (shl .u64 c 31)) (shr .u64 d 33))* 11400714819323198485)) 29))))))
def cz.j3(K:VK)(a:Int)(h:LI)(d:Addr)(e:Int)(f:Bool)(c g:Int)(j:LM)(k:World)(l:Bool):WK:=br l (K (.tuple ⟨[.i (ag.wrap a),.b true]⟩)) ((ct h j [.p (some d),.i e,.b f,.u c,.i g,.u (ch .u64 .and (IntKind.u64.wrap (a+1)) c)] [.p (some d),.i e,.b f,.u c,.i g,.u a] k))
def cz.j2(K:VK)(g:LI)(a:Addr)(e:Int)(f:Bool)(c d:Int)(h:LM)(j:Int)(k:World)(l:Nat)(m:Bool):WK:=br m ((ct g h [.p (some a),.i e,.b f,.u c,.i (ag.wrap d),.u (ch .u64 .and (IntKind.u64.wrap (d+1)) c)] [.p (some a),.i e,.b f,.u c,.i j,.u d] k)) (lB (ad l 3) λn=>br (n==1) (aD (ad l 0) 2 λo=>aD a 2 λq=>lK [.u 0,.u 0] o q λr=>cz.j3 K d g a e f c j h k r) (cz.j3 K d g a e f c j h k false))
def cz.j1(K:VK)(d:Int)(a:Nat)(c:Int)(e:LI)(f:Addr)(g:Int)(h:Bool)(j:Int)(k:LM)(l:World)(m:Bool):WK:=br m (K (.tuple ⟨[.i (ag.wrap d),.b false]⟩)) (lB (ad a 3) λn=>br (n==0) (K (.tuple ⟨[.i c,.b false]⟩)) (lB (ad a 3) λo=>br (o==2) (cz.j2 K e f g h j d k c l a (decide (c<0))) (cz.j2 K e f g h j d k c l a false)))
def cz(l:OA)(q:LV)(K:VK):WK:=mk q λm=>nn l λr=>lL r λB n C=>aD (ad m 0) 2 λs=>qX s (xI .u64 λt=>(lp [.p (some (ad m 0)),.i 0,.b false,.u (IntKind.u64.wrap (ag.wrap ((n:Int) -1))),.i (-1),.u (ch .u64 .and t (IntKind.u64.wrap (ag.wrap ((n:Int) -1))))] λf o=>∀g h j k a c d,f [.p (some g),.i h,.b j,.u k,.i a,.u c] d->(nn l λv=>lL v λw x D=>gp w x c 4 λy=>aD y 4 λz=>mk Jw λe=>aT 4 (ad e 0) z (lB (ad e 3) λA=>br (A==0) (cz.j1 K c e a f g h j k o d (decide (a<0))) (cz.j1 K c e a f g h j k o d false))) d))
def fk(a:OA)(c:LV)(K:VK):WK:=mk c λd=>br (a.isNone) (K (.tuple ⟨[.i 0,.b false]⟩)) (aD (ad d 0) 2 λe=>cz a e (x2 λf g=>(xI .i64 λh=>(xB λj=>br (!j) (K (.tuple ⟨[.i 0,.b false]⟩)) (nn a λk=>lL k λl m p=>gp l m h 4 λn=>lI (n.add 2) λo=>K (.tuple ⟨[.i o,.b true]⟩))) g) f))
def nt(b:OA)(K:VK):WK:=nn b λs=>lL s λt u v=>(lp [.l t u v,.i 8] λq w=>∀j g k c o,q [.l j g k,.i c] o->(nn b λx=>lI (x.add 1) λy=>br (decide (c<(ag.wrap (3* (ag.wrap (y+1)))))) ((ct q w [.l j g k,.i (ag.wrap (c* 2))] [.l j g k,.i c] o)) (Gx 32 Jw c c λz A B=>nn b λC=>st C (.l z A B) (nn b λD=>st (D.add 2) (.i 0) ((lp [.l j g k,.i (g:Int),.i 0] λp r=>∀d e h f a m,p [.l d e h,.i f,.i a] m->(br (decide (a<f)) (gp d e a 4 λE=>aD E 4 λF=>mk Jw λn=>aT 4 (ad n 0) F (lB (ad n 3) λG=>br (G==1) (aD (ad n 0) 2 λH=>cz b H (x2 λI J=>(xI .i64 λM=>(xB λT=>tick (nn b λO=>lL O λP Q V=>aD (ad n 0) 4 λR=>gp P Q M 4 λS=>aT 4 S R ((ct p r [.l d e h,.i f,.i (ag.wrap (a+1))] [.l d e h,.i f,.i a] m)))) J) I)) ((ct p r [.l d e h,.i f,.i (ag.wrap (a+1))] [.l d e h,.i f,.i a] m)))) (K (.tuple ⟨[]⟩))) m))))) o)
def cX.j2(K:VK)(a:OA)(e:Nat)(f d:Int):WK:=tick (nn a λg=>lL g λh j o=>aD (ad e 0) 2 λc=>aY (c.length=2/\(1=1/\(1=1/\True))) (gp h j f 4 λk=>aY ((c++([.i d,.int .u8 1]:LV)).length=4) (fH k (c++([.i d,.int .u8 1]:LV)) (nn a λl=>lI (l.add 1) λm=>nn a λn=>st (n.add 1) (.i (ag.wrap (m+1))) (K (.b true))))))
def cX.j1(K:VK)(d:Nat)(a:OA)(e:Int):WK:=aD (ad d 0) 2 λf=>cz a f (x2 λg h=>(xI .i64 λc=>(xB λj=>br j (nn a λk=>lL k λl m w=>gp l m c 4 λn=>st (n.add 2) (.i e) (K (.b false))) (nn a λo=>lL o λp q x=>gp p q c 4 λr=>lB (r.add 3) λs=>br (s==2) (nn a λt=>lI (t.add 2) λu=>nn a λv=>st (v.add 2) (.i (ag.wrap (u-1))) (cX.j2 K a d c e)) (cX.j2 K a d c e))) h) g)
def cX(a:OA)(e:LV)(c:Int)(K:VK):WK:=mk e λd=>br (a.isNone) (K (.b false)) (tick (nn a λf=>lI (f.add 1) λg=>nn a λh=>lI (h.add 2) λi=>nn a λj=>lL j λl k m=>br (decide ((ag.wrap (4* (ag.wrap ((ag.wrap (g+i))+1))))>(ag.wrap (3* (k:Int))))) (nt a (x0 (cX.j1 K d a c))) (cX.j1 K d a c)))
def fr(a:OA)(b:Value)(K:VK):WK:=br (!(a.isNone)) (nn a λc=>lL c λd e f=>aY ((dJ b).length=1/\True) (mk ((dJ b)++[]) λg=>jO 1 8 [.nilFunc] d e f (ai g) 1 λh i j=>nn a λk=>st k (.l h i j) (K (.tuple ⟨[]⟩)))) (K (.tuple ⟨[]⟩))
def bJ(a b:Addr)(K:VK):WK:=tick (lP a λc=>lP a λd=>nn d λe=>lL e λf g h=>lI b λi=>oW f g h 14 none (some i) λj k m=>nn c λn=>st n (.l j k m) (K (.tuple ⟨[]⟩)))
def bJ.u:WP|[.pointer (some a),.pointer (some b)],K=>bJ a b K|_,_=>no
def fP(j:OA)(k:LV)(K:VK):WK:=mk [.p j] λa=>mk k λm=>lP (ad a 0) λn=>br (n.isNone) (K (.i (-1))) (lP (ad a 0) λo=>nn o λq=>lL q λC r D=>mk [.i 0] λb=>st (ad b 0) (.i (r:Int)) (tick (lP (ad a 0) λc=>lP (ad a 0) λd=>nn d λe=>lL e λf g h=>aD (ad m 0) 14 λs=>Je 14 s λt=>kp e [.l f g h] (kp (ad a 0) [.p d] (kp (ad a 0) [.p c] (jO 14 112 cN f g h (ai t) 1 λu v w=>kp (ad a 0) [.p d] (kp (ad a 0) [.p c] (nn c λx=>st x (.l u v w) (lP (ad a 0) λy=>nn y λz=>lP (z.add 1) λA=>fr A (.func (.func N.bJ) ⟨[]⟩ ⟨[.p (some (ad a 0)),.p (some (ad b 0))]⟩) (x0 (lI (ad b 0) λB=>K (.i B))))))))))))
def dS(a:Int)(c d:Addr)(K:VK):WK:=tick (lP c λe=>nn e λf=>lL f λg h l=>gp g h a 2 λi=>lI i λj=>lI d λk=>K (.b (decide (j>=k))))
def dS.u:WP|[.int .i64 a,.pointer (some b),.pointer (some c)],K=>dS a b c K|_,_=>no
def sq(g:Int)(h:Value)(K:VK):WK:=(lp [.i 0,.i 0,.i g] λe f=>∀c a b d,e [.i c,.i a,.i b] d->(br (decide (a<b)) (aY ((0:Int)<=1) (tL [(N.dS,dS.u)] h [.i (ag.wrap (shr .u64 (IntKind.u64.wrap (ag.wrap (a+b))) 1))] (xB λj=>br (!j) ((ct e f [.i c,.i (ag.wrap ((ag.wrap (shr .u64 (IntKind.u64.wrap (ag.wrap (a+b))) 1))+1)),.i b] [.i c,.i a,.i b] d)) ((ct e f [.i c,.i a,.i (ag.wrap (shr .u64 (IntKind.u64.wrap (ag.wrap (a+b))) 1))] [.i c,.i a,.i b] d))))) (K (.i a))) d)
def iS(b:OA)(c:Int)(K:VK):WK:=mk [.p b] λa=>mk [.i c] λd=>lP (ad a 0) λe=>nn e λf=>lL f λj g k=>sq (g:Int) (.func (.func N.dS) ⟨[]⟩ ⟨[.p (some (ad a 0)),.p (some (ad d 0))]⟩) (xI .i64 λh=>K (.i h))
def gg.j1(K:VK)(a:OA)(c d o:Int)(p:Bool):WK:=br p (nn a λq=>lL q λr s O=>gp r s c 2 λt=>st (t.add 1) (.i d) (K (.b false))) (nn a λu=>lL u λv w x=>aY True (aY (2=2/\True) (mk [.i 0,.i 0] λy=>jO 2 16 [.i 0,.i 0] v w x (ai y) 1 λz A B=>nn a λC=>st C (.l z A B) (tick (nn a λe=>lL e λf g h=>oW f g h 2 (some (ag.wrap (c+1))) none λD E P=>nn a λj=>lL j λk m n=>oW k m n 2 (some c) none λF G Q=>PS 2 D E F G λm1=>kp j [.l k m n] (kp e [.l f g h] (nn a λH=>lL H λI J R=>aY (1=1/\(1=1/\True)) (gp I J c 2 λM=>aY (2=2) (fH M [.i o,.i d] (K (.b true)))))))))))
def gg(a:OA)(c e:Int)(K:VK):WK:=br (a.isNone) (K (.b false)) (iS a c (xI .i64 λd=>nn a λf=>lL f λm g n=>br (decide (d<(g:Int))) (nn a λh=>lL h λi j o=>gp i j d 2 λk=>lI k λl=>gg.j1 K a d e c (l==c)) (gg.j1 K a d e c false)))
def eB(a:OA)(K:VK):WK:=br (a.isNone) (K (.i 0)) (nn a λb=>lL b λd c e=>K (.i (c:Int)))
def cf(a b:Addr)(K:VK):WK:=tick (lP a λc=>lP a λd=>nn d λe=>lL e λf g h=>lI b λi=>oW f g h 33 none (some i) λj k m=>nn c λn=>st n (.l j k m) (K (.tuple ⟨[]⟩)))
def cf.u:WP|[.pointer (some a),.pointer (some b)],K=>cf a b K|_,_=>no
def gN(j:OA)(k:LV)(K:VK):WK:=mk [.p j] λa=>mk k λm=>lP (ad a 0) λn=>br (n.isNone) (K (.i (-1))) (lP (ad a 0) λo=>nn o λq=>lL q λC r D=>mk [.i 0] λb=>st (ad b 0) (.i (r:Int)) (tick (lP (ad a 0) λc=>lP (ad a 0) λd=>nn d λe=>lL e λf g h=>aD (ad m 0) 33 λs=>Je 33 s λt=>kp e [.l f g h] (kp (ad a 0) [.p d] (kp (ad a 0) [.p c] (jO 33 264 cV f g h (ai t) 1 λu v w=>kp (ad a 0) [.p d] (kp (ad a 0) [.p c] (nn c λx=>st x (.l u v w) (lP (ad a 0) λy=>nn y λz=>lP (z.add 1) λA=>fr A (.func (.func N.cf) ⟨[]⟩ ⟨[.p (some (ad a 0)),.p (some (ad b 0))]⟩) (x0 (lI (ad b 0) λB=>K (.i B))))))))))))
def rl(k:LV)(K:VK):WK:=mk k λa=>mk u4 λd=>tick (lI (ad a 31) λe=>lI (ad a 26) λf=>lI (ad a 30) λg=>aD (ad a 16) 2 λc=>aY (1=1/\(1=1/\(c.length=2/\True))) (lI (ad a 32) λh=>br (h==1) (lI (ad a 26) λj=>aY ((([.i (ag.wrap (e+f)),.i g]:LV)++(c++[])).length=4) (fH (ad d 0) (([.i (ag.wrap (e+f)),.i g]:LV)++(c++[])) (kp (ad a 26) [.i j] (kp (ad a 32) [.i h] (aD (ad d 0) 4 λl=>K (.tuple ⟨[.agg ⟨l⟩,.b (decide (j>0))]⟩)))))) (aY ((([.i (ag.wrap (e+f)),.i g]:LV)++(c++[])).length=4) (fH (ad d 0) (([.i (ag.wrap (e+f)),.i g]:LV)++(c++[])) (kp (ad a 32) [.i h] (aD (ad d 0) 4 λm=>K (.tuple ⟨[.agg ⟨m⟩,.b false]⟩)))))))
def oZ(d e:LV)(K:VK):WK:=mk d λa=>mk e λc=>lI (ad a 0) λf=>lI (ad c 0) λg=>br (decide (f<g)) (K (.b true)) (lI (ad a 0) λh=>lI (ad c 0) λi=>br (h==i) (lI (ad a 1) λj=>lI (ad c 1) λk=>K (.b (decide (j<k)))) (K (.b false)))
def gb.j1(K:VK)(b:OA)(a:Int)(c:LI)(d:LM)(e:World)(f:Bool):WK:=br f (tick (nn b λg=>lL g λh j z=>nn b λk=>lL k λl m A=>aY ((2:Int)≠0) (nn b λn=>lL n λo p B=>aY ((2:Int)≠0) (gp o p (ag.wrap ((ag.wrap (a-1)).tdiv (2:Int))) 4 λq=>aD q 4 λr=>nn b λs=>lL s λt u C=>gp t u a 4 λv=>aD v 4 λw=>gp h j a 4 λx=>aT 4 x r (gp l m (ag.wrap ((ag.wrap (a-1)).tdiv (2:Int))) 4 λy=>aT 4 y w (aY ((2:Int)≠0) ((ct c d [.i (ag.wrap ((ag.wrap (a-1)).tdiv (2:Int)))] [.i a] e)))))))) (K (.tuple ⟨[]⟩))
def gb(b:OA)(n:Int)(K:VK):WK:=(lp [.i n] λd e=>∀a c,d [.i a] c->(tick (br (decide (a>0)) (nn b λf=>lL f λg h o=>gp g h a 4 λp=>aD p 4 λq=>nn b λj=>lL j λk m r=>aY ((2:Int)≠0) (gp k m (ag.wrap ((ag.wrap (a-1)).tdiv (2:Int))) 4 λs=>aD s 4 λt=>oZ q t (xB λu=>kp j [.l k m r] (kp f [.l g h o] (gb.j1 K b a d e c u))))) (gb.j1 K b a d e c false))) c)
def iR(a:OA)(f:LV)(K:VK):WK:=mk f λg=>br (!(a.isNone)) (tick (nn a λb=>lL b λc d e=>aD (ad g 0) 4 λh=>Je 4 h λi=>kp b [.l c d e] (jO 4 32 u4 c d e (ai i) 1 λj k m=>nn a λn=>st n (.l j k m) (nn a λo=>lL o λq p r=>gb a (ag.wrap ((p:Int) -1)) (x0 (K (.tuple ⟨[]⟩))))))) (K (.tuple ⟨[]⟩))
def de.j2(K:VK)(a:OA)(b:Nat)(k:LI)(c:OA)(d:Int)(e:OA)(f g:Nat)(h j:Int)(m:LM)(n:World)(t:Bool):WK:=br t (K (.tuple ⟨[.p none,.i 1]⟩)) (tick (nn a λo=>lP (o.add 4) λq=>aD (ad b 16) 2 λr=>nn a λu=>lP (u.add 2) λv=>aD (ad b 0) 33 λw=>gN v w (xI .i64 λx=>kp (ad b 16) r (kp (o.add 4) [.p q] (cX q r x (xB λF=>aD (ad b 0) 33 λy=>rl y (x2 λz A=>(xA 4 λB=>(xB λC=>mk u4 λs=>aT 4 (ad s 0) B (br C (tick (nn a λD=>aD (ad s 0) 4 λE=>iR (some (D.add 6)) E (x0 ((ct k m [.p c,.i d,.p a,.l e f g,.i h,.i (ag.wrap (j+1))] [.p c,.i d,.p a,.l e f g,.i h,.i j] n))))) ((ct k m [.p c,.i d,.p a,.l e f g,.i h,.i (ag.wrap (j+1))] [.p c,.i d,.p a,.l e f g,.i h,.i j] n)))) A) z)))))))
def de.j1(K:VK)(I J:OA)(B M:Nat)(O:OA)(C P:Nat)(Q R:Int)(S:Bool):WK:=br S (K (.tuple ⟨[.p none,.i 1]⟩)) ((lp [.p none,.i 0,.p I,.l J B M,.i (B:Int),.i 0] λD T=>∀r s c t u x v j y,D [.p r,.i s,.p c,.l t u x,.i v,.i j] y->(br (decide (j<v)) (gp t u j 14 λV=>aD V 14 λW=>mk cN λk=>aT 14 (ad k 0) W (tick (nn c λX=>lP (X.add 3) λY=>aD (ad k 0) 2 λZ=>fk Y Z (x2 λv1 v2=>(xI .i64 λn6=>(xB λb2=>br b2 (K (.tuple ⟨[.p none,.i 1]⟩)) (tick (nn c λE=>lP (E.add 3) λF=>aD (ad k 0) 2 λG=>nn c λa4=>lP (a4.add 1) λp6=>aD (ad k 0) 14 λqL=>fP p6 qL (xI .i64 λn7=>kp (ad k 0) G (kp (E.add 3) [.p F] (cX F G n7 (xB λb3=>(ct D T [.p r,.i s,.p c,.l t u x,.i v,.i (ag.wrap (j+1))] [.p r,.i s,.p c,.l t u x,.i v,.i j] y)))))))) v2) v1)))) ((lp [.p r,.i s,.p c,.l O C P,.i (C:Int),.i 0] λm w=>∀n o b e f q g d h,m [.p n,.i o,.p b,.l e f q,.i g,.i d] h->(br (decide (d<g)) (gp e f d 33 λa5=>aD a5 33 λs7=>mk cV λa=>aT 33 (ad a 0) s7 (tick (nn b λa6=>lP (a6.add 4) λp9=>aD (ad a 16) 2 λsY=>fk p9 sY (x2 λv3 v4=>(xI .i64 λRJ=>(xB λb4=>tick (br b4 (de.j2 K b a m n o e f q g d w h true) (lI (ad a 32) λz=>br (decide (z<0)) (de.j2 K b a m n o e f q g d w h true) (lI (ad a 32) λA=>br (decide (A>4)) (de.j2 K b a m n o e f q g d w h true) (nn b λXV=>lI (ad a 30) λH=>nn b λTb=>lP (Tb.add 2) λp12=>eB p12 (xI .i64 λvD=>kp (ad a 30) [.i H] (kp (ad a 32) [.i A] (kp (ad a 32) [.i z] (gg (some (XV.add 5)) H vD (xB λb8=>kp (ad a 32) [.i A] (kp (ad a 32) [.i z] (de.j2 K b a m n o e f q g d w h (!b8))))))))))))) v4) v3)))) (nn b λa12=>st (a12.add 7) (.i Q) (nn b λa13=>st (a13.add 8) (.i R) (nn b λa14=>jG (some a14) (x0 (K (.tuple ⟨[.p b,.i 0]⟩))))))) h))) y))
def de.j5(K:VK)(b c:OA)(d e:Nat)(f:OA)(g h:Nat)(i a:Int)(j:Bool):WK:=br j (de.j1 K b c d e f g h i a true) (br (decide (a<0)) (de.j1 K b c d e f g h i a true) (de.j1 K b c d e f g h i a (decide (a>1099511627776))))
def de.j4(K:VK)(b c:OA)(d e:Nat)(f:OA)(g h:Nat)(a i:Int)(j:Bool):WK:=br j (de.j5 K b c d e f g h a i true) (de.j5 K b c d e f g h a i (decide (a>1099511627776)))
def de.j3(K:VK)(b c:OA)(d e:Nat)(f:OA)(g h:Nat)(a i:Int)(j:Bool):WK:=br j (de.j4 K b c d e f g h a i true) (de.j4 K b c d e f g h a i (decide (a<0)))
def de(c:OA)(a d:Nat)(e:OA)(b f:Nat)(g h:Int)(K:VK):WK:=rm (xP λi=>br (decide ((a:Int)>32)) (de.j3 K i c a d e b f g h true) (de.j3 K i c a d e b f g h (decide ((b:Int)>96))))
def lQ.j1(K:VK)(J:OA)(M O P Q:Int)(R:Bool):WK:=br R (K (.tuple ⟨[.p none,.i 4]⟩)) ((lp [.p none,.i 0,.p J,.i M,.i O,.i P,.l none 0 0,.i Q,.i 0] λF S=>∀c d b e f g h j k m n z,F [.p c,.i d,.p b,.i e,.i f,.i g,.l h j k,.i m,.i n] z->(br (decide (n<m)) (kE b (xA 14 λT=>Je 14 T λV=>jO 14 112 cN h j k (ai V) 1 λW X Y=>(ct F S [.p c,.i d,.p b,.i e,.i f,.i g,.l W X Y,.i m,.i (ag.wrap (n+1))] [.p c,.i d,.p b,.i e,.i f,.i g,.l h j k,.i m,.i n] z))) ((lp [.p c,.i d,.p b,.i e,.i f,.l h j k,.l none 0 0,.i g,.i 0] λG Z=>∀A B a o q r s t u v w x y C,G [.p A,.i B,.p a,.i o,.i q,.l r s t,.l u v w,.i x,.i y] C->(br (decide (y<x)) (jD a (xA 16 λD=>jD a (xA 16 λE=>aF a 1 (xI .i64 λH=>aY (D.length=16/\(E.length=16/\(1=1/\True))) (aY ((D++(E++([.i H]:LV))).length=33/\True) (mk ((D++(E++([.i H]:LV)))++[]) λr2=>jO 33 264 cV u v w (ai r2) 1 λJV K8 Lf=>(ct G Z [.p A,.i B,.p a,.i o,.i q,.l r s t,.l JV K8 Lf,.i x,.i (ag.wrap (y+1))] [.p A,.i B,.p a,.i o,.i q,.l r s t,.l u v w,.i x,.i y] C))))))) (de r s t u v w o q (x2 λv1 v2=>(xP λp6=>(xI .i64 λI=>br (I !=0) (K (.tuple ⟨[.p none,.i 4]⟩)) (gZ a (xB λb2=>br (!b2) (K (.tuple ⟨[.p none,.i 4]⟩)) (K (.tuple ⟨[.p p6,.i I]⟩))))) v2) v1))) C))) z))
def lQ(f:BA)(K:VK):WK:=kY f (xP λa=>aF a 1 (xI .i64 λg=>br (g !=1) (K (.tuple ⟨[.p none,.i 4]⟩)) (aF a 8 (xI .i64 λd=>aF a 8 (xI .i64 λe=>aF a 2 (xI .i64 λb=>aF a 2 (xI .i64 λc=>bK a (xB λh=>br h (lQ.j1 K a d e c b true) (np a (xI .i64 λj=>lQ.j1 K a d e c b (j !=(ag.wrap ((ag.wrap (b* 96))+(ag.wrap (c* 217)))))))))))))))
def tU(c:OA)(e:LV)(K:VK):WK:=mk e λf=>mk zi4 λb=>pg c (x2 λg h=>(xA 4 λj=>(xB λk=>mk zi4 λa=>aT 4 (ad a 0) j (br (!k) (tick (aD (ad a 0) 4 λd=>rm (xP λl=>kp (ad a 0) d (aT 4 (ad b 0) d (aD (ad b 0) 4 λm=>K (.tuple ⟨[.p l,.agg ⟨m⟩,.i 0]⟩)))))) (aD (ad f 0) 5 λn=>lI (ad a 0) λo=>lI (ad a 1) λq=>lI (ad a 2) λr=>nO n c o q r (x2 λs t=>(xS λu=>(xB λv=>br (!v) (tick (aD (ad a 0) 4 λw=>aT 4 (ad b 0) w (aD (ad b 0) 4 λx=>K (.tuple ⟨[.p none,.agg ⟨x⟩,.i 4]⟩)))) (lQ u (x2 λy z=>(xP λA=>(xI .i64 λB=>tick (aD (ad a 0) 4 λC=>aT 4 (ad b 0) C (aD (ad b 0) 4 λD=>K (.tuple ⟨[.p A,.agg ⟨D⟩,.i B]⟩)))) z) y))) t) s)))) h) g)
def im(f:OA)(n:Value)(K:VK):WK:=aF f 1 (xI .i64 λo=>(lp [.l none 0 0,.l none 0 0,.i o,.i 0] λm q=>∀g h j a b c d e k,m [.l g h j,.l a b c,.i d,.i e] k->(br (decide (e<d)) (bK f (xB λr=>br r (K (.l a b c)) (tL [(N.kE,kE.u),(N.aF,aF.u),(N.bK,bK.u)] n [.p f] (xA 14 λs=>Je 14 s λt=>jO 14 112 cN a b c (ai t) 1 λv w x=>(ct m q [.l g h j,.l v w x,.i d,.i (ag.wrap (e+1))] [.l g h j,.l a b c,.i d,.i e] k))))) (K (.l a b c))) k))
def gM(f:OA)(n:Value)(K:VK):WK:=aF f 1 (xI .i64 λo=>(lp [.l none 0 0,.l none 0 0,.i o,.i 0] λm q=>∀g h j a b c d e k,m [.l g h j,.l a b c,.i d,.i e] k->(br (decide (e<d)) (bK f (xB λr=>br r (K (.l a b c)) (tL [(N.aF,aF.u),(N.bK,bK.u),(N.jD,jD.u)] n [.p f] (xA 16 λs=>Je 16 s λt=>jO 16 128 bZ a b c (ai t) 1 λv w x=>(ct m q [.l g h j,.l v w x,.i d,.i (ag.wrap (e+1))] [.l g h j,.l a b c,.i d,.i e] k))))) (K (.l a b c))) k))
def jx(c:OA)(K:VK):WK:=aF c 1 (xI .i64 λa=>br (!(c.isNone)) (br (decide (a>1)) (nn c λd=>st (d.add 1) (.b true) (K (.b (a==1)))) (K (.b (a==1)))) (K (.b (a==1))))
def mF(f:OA)(n:Value)(K:VK):WK:=aF f 1 (xI .i64 λo=>(lp [.l none 0 0,.l none 0 0,.i o,.i 0] λm q=>∀g h j a b c d e k,m [.l g h j,.l a b c,.i d,.i e] k->(br (decide (e<d)) (bK f (xB λr=>br r (K (.l a b c)) (tL [(N.aF,aF.u),(N.bY,bY.u),(N.bK,bK.u)] n [.p f] (xA 2 λs=>Je 2 s λt=>jO 2 16 [.u 0,.u 0] a b c (ai t) 1 λv w x=>(ct m q [.l g h j,.l v w x,.i d,.i (ag.wrap (e+1))] [.l g h j,.l a b c,.i d,.i e] k))))) (K (.l a b c))) k))
def qB(d:LV)(K:VK):WK:=mk d λa=>lI (ad a 0) λc=>br (c==1) (lL (ad a 1) λk e l=>br (decide ((e:Int)>=1)) (lL (ad a 1) λm f n=>K (.b (decide ((f:Int)<=8)))) (K (.b false))) (br (c==2) (lL (ad a 2) λo g p=>br (decide ((g:Int)>=1)) (lL (ad a 2) λq h r=>K (.b (decide ((h:Int)<=8)))) (K (.b false))) (br (c==3) (lI (ad a 3) λi=>br (decide (i>=0)) (lI (ad a 3) λj=>K (.b (decide (j<=1099511627776)))) (K (.b false))) (K (.b false))))
def fp.j4(K:VK)(a:Nat)(c:Bool):WK:=br c (lT (ad a 4) λd=>br d (K (.b true)) (lT (ad a 5) λe=>K (.b e))) (K (.b false))
def fp.j3(K:VK)(a:Nat)(b:Bool):WK:=br b (lI (ad a 7) λc=>fp.j4 K a (decide (c<=16))) (fp.j4 K a false)
def fp.j2(K:VK)(a:Nat)(b:Bool):WK:=br b (lI (ad a 7) λc=>fp.j3 K a (decide (c>=1))) (fp.j3 K a false)
def fp.j1(K:VK)(c:Nat)(d:Int)(e:Bool):WK:=br e (lL (ad c 4) λk f l=>br (decide ((f:Int)>=1)) (lL (ad c 4) λm g n=>K (.b (decide ((g:Int)<=16)))) (K (.b false))) (br (d==6) (aD (ad c 5) 8 λh=>mk FC λa=>aT 8 (ad a 0) h (lI (ad a 2) λi=>br (decide (i>=0)) (lI (ad a 3) λj=>fp.j2 K a (decide (j>=0))) (fp.j2 K a false))) (K (.b false)))
def fp(c:LV)(K:VK):WK:=mk c λb=>lI (ad b 0) λa=>br (a==4) (fp.j1 K b a (a==4)) (fp.j1 K b a (a==5))
def fZ.j3(K:VK)(a:Nat)(c:Bool):WK:=br c (lI (ad a 12) λd=>br (decide (d>=0)) (lI (ad a 12) λe=>K (.b (decide (e<=65535)))) (K (.b false))) (K (.b false))
def fZ.j2(K:VK)(a:Nat)(b:Bool):WK:=br b (lI (ad a 11) λc=>fZ.j3 K a (decide (c<=65535))) (fZ.j3 K a false)
def fZ.j1(K:VK)(a:Nat)(b:Bool):WK:=br b (lI (ad a 11) λc=>fZ.j2 K a (decide (c>=0))) (fZ.j2 K a false)
def fZ(b:LV)(K:VK):WK:=mk b λa=>lI (ad a 10) λc=>br (decide (c>=0)) (lI (ad a 10) λd=>fZ.j1 K a (decide (d<=4294967295))) (fZ.j1 K a false)
def dW.j5(K:VK)(a:Nat)(c:Bool):WK:=br c (lI (ad a 13) λd=>br (decide (d>=0)) (lI (ad a 13) λe=>K (.b (decide (e<=65535)))) (K (.b false))) (K (.b false))
def dW.j4(K:VK)(a:Nat)(b:Bool):WK:=br b (lI (ad a 12) λc=>dW.j5 K a (decide (c<=65535))) (dW.j5 K a false)
def dW.j3(K:VK)(a:Nat)(b:Bool):WK:=br b (lI (ad a 12) λc=>dW.j4 K a (decide (c>=0))) (dW.j4 K a false)
def dW.j2(K:VK)(a:Nat)(b:Bool):WK:=br b (lI (ad a 11) λc=>dW.j3 K a (decide (c<=4294967295))) (dW.j3 K a false)
def dW.j1(K:VK)(a:Nat)(b:Bool):WK:=br b (lI (ad a 11) λc=>dW.j2 K a (decide (c>=0))) (dW.j2 K a false)
def dW(b:LV)(K:VK):WK:=mk b λa=>lI (ad a 10) λc=>br (decide (c>=0)) (lI (ad a 10) λd=>dW.j1 K a (decide (d<=4294967295))) (dW.j1 K a false)
def mn.j1(K:VK)(k:Nat)(z:Bool):WK:=br z (K (.b false)) (lI (ad k 0) λs=>br (s==1) (lL (ad k 1) λA t B=>(lp [.b false,.l A t B,.i (t:Int),.i 0] λu C=>∀m d e n f a o,u [.b m,.l d e n,.i f,.i a] o->(br (decide (a<f)) (gp d e a 14 λD=>aD D 14 λE=>mk cN λv=>aT 14 (ad v 0) E (aD (ad v 0) 14 λF=>fZ F (xB λG=>br (!G) (K (.b false)) ((ct u C [.b m,.l d e n,.i f,.i (ag.wrap (a+1))] [.b m,.l d e n,.i f,.i a] o))))) (K (.b true))) o)) (br (s==2) (lL (ad k 2) λH w I=>(lp [.b false,.l H w I,.i (w:Int),.i 0] λx J=>∀p g h q j c r,x [.b p,.l g h q,.i j,.i c] r->(br (decide (c<j)) (gp g h c 16 λM=>aD M 16 λO=>mk bZ λy=>aT 16 (ad y 0) O (aD (ad y 0) 16 λP=>dW P (xB λQ=>br (!Q) (K (.b false)) ((ct x J [.b p,.l g h q,.i j,.i (ag.wrap (c+1))] [.b p,.l g h q,.i j,.i c] r))))) (K (.b true))) r)) (K (.b true))))
def mn(b:LV)(K:VK):WK:=mk b λa=>aD (ad a 0) 13 λc=>qB c (xB λd=>br (!d) (aD (ad a 0) 13 λe=>fp e (xB λf=>mn.j1 K a (!f))) (mn.j1 K a false))
def iG.j1(K:VK)(c:OA)(a b:Nat):WK:=gZ c (xB λd=>br (!d) (aY True (aY (13=13) (fH (ad a 0) bR (aD (ad a 0) 13 λe=>K (.tuple ⟨[.agg ⟨e⟩,.i 4]⟩))))) (aD (ad b 0) 13 λf=>mn f (xB λg=>br (!g) (aY True (aY (13=13) (fH (ad a 0) bR (aD (ad a 0) 13 λh=>K (.tuple ⟨[.agg ⟨h⟩,.i 4]⟩))))) (aD (ad b 0) 13 λj=>aT 13 (ad a 0) j (aD (ad a 0) 13 λk=>K (.tuple ⟨[.agg ⟨k⟩,.i 0]⟩))))))
def iG(o:BA)(K:VK):WK:=mk bR λd=>kY o (xP λa=>aF a 1 (xI .i64 λp=>aY (1=1/\True) (mk bR λc=>aY (13=13) (fH (ad c 0) [.i p,.l none 0 0,.l none 0 0,.i 0,.l none 0 0,.u 0,.u 0,.i 0,.i 0,.b false,.b false,.b false,.i 0] (lI (ad c 0) λe=>br (e==1) (im a (.func (.func N.kE) ⟨[]⟩ ⟨[]⟩) (xL λq r s=>st (ad c 1) (.l q r s) (iG.j1 K a d c))) (br (e==2) (gM a (.func (.func N.jD) ⟨[]⟩ ⟨[]⟩) (xL λt v w=>st (ad c 2) (.l t v w) (iG.j1 K a d c))) (br (e==3) (aF a 8 (xI .i64 λx=>st (ad c 3) (.i x) (iG.j1 K a d c))) (br (e==6) (bY a (xA 2 λf=>aF a 8 (xI .i64 λg=>aF a 8 (xI .i64 λh=>jx a (xB λj=>jx a (xB λk=>jx a (xB λm=>aF a 1 (xI .i64 λn=>aY (f.length=2/\(1=1/\(1=1/\(1=1/\(1=1/\(1=1/\(1=1/\True))))))) (aY ((f++([.i g,.i h,.b j,.b k,.b m,.i n]:LV)).length=8) (fH (ad c 5) (f++([.i g,.i h,.b j,.b k,.b m,.i n]:LV)) (iG.j1 K a d c))))))))))) (mF a (.func (.func N.bY) ⟨[]⟩ ⟨[]⟩) (xL λy z A=>st (ad c 4) (.l y z A) (iG.j1 K a d c)))))))))))
def nU(c:LV)(K:VK):WK:=mk c λa=>lI (ad a 0) λd=>br (d==1) (K (.b true)) (lI (ad a 0) λe=>br (e==2) (K (.b true)) (lI (ad a 0) λf=>K (.b (f==3))))
def eY(a:LV)(K:VK):WK:=mk a λc=>lI (ad c 12) λd=>K (.b ((ch .i64 .and d 1)!=0))
def eY.u:WP|[.agg ⟨a⟩],K=>eY a K|_,_=>no
def jl(o:OA)(f p:Nat)(q:Value)(K:VK):WK:=(lp [.i 0,.b false,.l o f p,.i (f:Int),.i 0] λm r=>∀g h c d j e a k,m [.i g,.b h,.l c d j,.i e,.i a] k->(br (decide (a<e)) (gp c d a 14 λs=>aD s 14 λt=>mk cN λn=>aT 14 (ad n 0) t (aD (ad n 0) 14 λv=>tL [(N.eY,eY.u)] q [.agg ⟨v⟩] (xB λw=>br (!w) (K (.tuple ⟨[.i (ag.wrap (a+1)),.b true]⟩)) ((ct m r [.i g,.b h,.l c d j,.i e,.i (ag.wrap (a+1))] [.i g,.b h,.l c d j,.i e,.i a] k))))) (K (.tuple ⟨[.i (f:Int),.b false]⟩))) k)
def gv(e:OA)(c m:Nat)(g h:Int)(K:VK):WK:=(lp [.i (c:Int),.i 0] λf j=>∀b a d,f [.i b,.i a] d->(br (decide (a<b)) (gp e c a 1 λk=>st k (.i 1) ((ct f j [.i b,.i (ag.wrap (a+1))] [.i b,.i a] d))) (gp e c g 1 λl=>st l (.i h) (K (.tuple ⟨[]⟩)))) d)
def gv.u:WP|[.slice a b c,.int .i64 d,.int .i64 e],K=>gv a b c d e K|_,_=>no
def ef(a:OA)(K:VK):WK:=br (a.isNone) (K (.i 0)) (nn a λb=>lL b λd c e=>K (.i (c:Int)))
def cM.j1(K:VK)(c a:Nat)(d:OA)(e:Int)(f:Bool):WK:=br f (aD (ad c 0) 14 λg=>aT 14 (ad a 0) g (aD (ad a 0) 14 λh=>K (.tuple ⟨[.agg ⟨h⟩,.b false]⟩))) (nn d λi=>lL i λj k o=>gp j k e 14 λl=>aD l 14 λm=>aT 14 (ad a 0) m (aD (ad a 0) 14 λn=>K (.tuple ⟨[.agg ⟨n⟩,.b true]⟩)))
def cM(b:OA)(a:Int)(K:VK):WK:=mk cN λc=>mk cN λd=>br (decide (a<0)) (cM.j1 K d c b a true) (ef b (xI .i64 λe=>cM.j1 K d c b a (decide (a>=e))))
def cT(c:OA)(d:LV)(K:VK):WK:=mk d λe=>mk cN λa=>br (c.isNone) (aY True (aY (14=14) (fH (ad a 0) cN (aD (ad a 0) 14 λf=>K (.tuple ⟨[.agg ⟨f⟩,.b false]⟩))))) (tick (nn c λg=>lP (g.add 3) λh=>aD (ad e 0) 2 λi=>fk h i (x2 λj k=>(xI .i64 λl=>(xB λm=>br (!m) (aY True (aY (14=14) (fH (ad a 0) cN (aD (ad a 0) 14 λn=>K (.tuple ⟨[.agg ⟨n⟩,.b false]⟩))))) (nn c λo=>lP (o.add 1) λp=>cM p l (x2 λq r=>(xA 14 λs=>(xB λt=>aT 14 (ad a 0) s (aD (ad a 0) 14 λu=>K (.tuple ⟨[.agg ⟨u⟩,.b t]⟩))) r) q))) k) j)))
def fF(a:LV)(K:VK):WK:=mk a λc=>aD (ad c 0) 2 λd=>aY True (lK [.u 0,.u 0] d [.u 0,.u 0] λe=>K (.b e))
def iU.j2(K:VK)(a:Nat)(c:Bool):WK:=br c (aD (ad a 8) 2 λd=>fF d (xB λe=>br e (lI (ad a 13) λf=>K (.b (f==0))) (K (.b false)))) (K (.b false))
def iU.j1(K:VK)(a:Nat)(b:Bool):WK:=br b (aD (ad a 6) 2 λc=>fF c (xB λd=>iU.j2 K a d)) (iU.j2 K a false)
def iU(b:LV)(K:VK):WK:=mk b λa=>aD (ad a 2) 2 λc=>fF c (xB λd=>br d (aD (ad a 4) 2 λe=>fF e (xB λf=>iU.j1 K a f)) (iU.j1 K a false))
def nd.j1(K:VK)(a:Nat)(b:Bool):WK:=br b (K (.i 8)) (lI (ad a 11) λc=>br (decide (c<1)) (K (.i 9)) (lI (ad a 11) λd=>br (decide (d>65535)) (K (.i 9)) (K (.i 0))))
def nd(b:LV)(K:VK):WK:=mk b λa=>lI (ad a 12) λc=>br ((ch .i64 .andNot c 7)!=0) (K (.i 3)) (aD (ad a 0) 2 λd=>fF d (xB λe=>br e (K (.i 4)) (aD (ad a 0) 2 λf=>aD (ad N.qz 0) 2 λg=>lK [.u 0,.u 0] f g λh=>br h (K (.i 5)) (lI (ad a 12) λj=>br ((ch .i64 .and j 6)==6) (K (.i 6)) (aD (ad a 0) 14 λk=>iU k (xB λl=>br (!l) (K (.i 7)) (lI (ad a 10) λm=>br (decide (m<1)) (nd.j1 K a true) (lI (ad a 10) λn=>nd.j1 K a (decide (n>4294967295))))))))))
def ng.j1(K:VK)(a b:Nat)(c:Bool):WK:=br c (lI (ad a 12) λd=>lI (ad b 12) λe=>br ((ch .i64 .and d 6)==(ch .i64 .and e 6)) (K (.i 10)) (K (.i 11))) (K (.i 11))
def ng(c d:LV)(K:VK):WK:=mk c λa=>mk d λb=>lI (ad a 10) λe=>lI (ad b 10) λf=>br (e==f) (lI (ad a 11) λg=>lI (ad b 11) λh=>ng.j1 K a b (g==h)) (ng.j1 K a b false)
def c7(b:Addr)(K:VK):WK:=lP b λa=>nn a λc=>lI (c.add 8) λd=>nn a λe=>st (e.add 8) (.i (ag.wrap (d-1))) (K (.tuple ⟨[]⟩))
def c7.u:WP|[.pointer (some a)],K=>c7 a K|_,_=>no
def lh(c:OA)(K:VK):WK:=mk [.p c] λa=>lP (ad a 0) λb=>nn b λd=>lI (d.add 8) λe=>nn b λf=>st (f.add 8) (.i (ag.wrap (e+1))) (lP (ad a 0) λg=>nn g λh=>fr (some h) (.func (.func N.c7) ⟨[]⟩ ⟨[.p (some (ad a 0))]⟩) (x0 (lP (ad a 0) λj=>nn j λk=>lI (k.add 8) λl=>K (.i l))))
def k6(a:OA)(c:LV)(K:VK):WK:=mk c λd=>br (a.isNone) (K (.b false)) (aD (ad d 0) 2 λe=>cz a e (x2 λf g=>(xI .i64 λh=>(xB λj=>br (!j) (K (.b false)) (nn a λk=>lL k λl m v=>aY (1=1/\True) (gp l m h 4 λn=>aY (4=4) (fH n [.u 0,.u 0,.i 0,.int .u8 2] (nn a λo=>lI (o.add 1) λp=>nn a λq=>st (q.add 1) (.i (ag.wrap (p-1))) (nn a λr=>lI (r.add 2) λs=>nn a λt=>st (t.add 2) (.i (ag.wrap (s+1))) (K (.b true)))))))) g) f))
def da(a c:Addr)(K:VK):WK:=tick (lP a λb=>nn b λd=>lP (d.add 3) λe=>aD c 2 λf=>k6 e f (xB λg=>kp a [.p b] (K (.tuple ⟨[]⟩))))
def da.u:WP|[.pointer (some a),.pointer (some b)],K=>da a b K|_,_=>no
def jB(k:OA)(l:LV)(K:VK):WK:=mk [.p k] λa=>mk l λb=>lP (ad a 0) λm=>br (m.isNone) (K (.i 2)) (lP (ad a 0) λn=>nn n λo=>lP (o.add 1) λq=>ef q (xI .i64 λr=>br (decide (r>=32)) (K (.i 6)) (tick (lP (ad a 0) λe=>nn e λs=>lP (s.add 3) λt=>aD (ad b 0) 2 λu=>fk t u (x2 λv w=>(xI .i64 λI=>(xB λx=>kp (ad a 0) [.p e] (br x (K (.i 1)) (lP (ad a 0) λy=>lh y (xI .i64 λz=>st (ad b 13) (.i z) (tick (lP (ad a 0) λc=>nn c λf=>lP (f.add 3) λg=>aD (ad b 0) 2 λh=>lP (ad a 0) λd=>nn d λA=>lP (A.add 1) λB=>ef B (xI .i64 λC=>kp (ad a 0) [.p d] (kp (ad b 0) h (kp (f.add 3) [.p g] (kp (ad a 0) [.p c] (cX g h C (xB λJ=>kp (ad a 0) [.p d] (kp (ad a 0) [.p c] (lP (ad a 0) λD=>nn D λE=>fr (some E) (.func (.func N.da) ⟨[]⟩ ⟨[.p (some (ad a 0)),.p (some (ad b 0))]⟩) (x0 (tick (lP (ad a 0) λj=>nn j λF=>lP (F.add 1) λG=>aD (ad b 0) 14 λH=>fP G H (xI .i64 λM=>kp (ad a 0) [.p j] (K (.i 0)))))))))))))))))))) w) v)))))
def iT(b:OA)(e:LV)(K:VK):WK:=mk e λa=>aD (ad a 0) 14 λf=>nd f (xI .i64 λc=>br (c !=0) (K (.i c)) (aD (ad a 0) 2 λg=>cT b g (x2 λh j=>(xA 14 λk=>(xB λl=>mk cN λd=>aT 14 (ad d 0) k (br l (aD (ad a 0) 14 λm=>aD (ad d 0) 14 λn=>ng m n (xI .i64 λo=>K (.i o))) (lI (ad a 12) λp=>st (ad a 12) (.i (ch .i64 .andNot p 1)) (aD (ad a 0) 14 λq=>jB b q (xI .i64 λr=>br (r !=0) (K (.i 35)) (K (.i 0))))))) j) h)))
def iT.u:WP|[.pointer a,.agg ⟨b⟩],K=>iT a b K|_,_=>no
def qb(a:OA)(K:VK):WK:=br (a.isNone) (K (.i 0)) (nn a λb=>lL b λd c e=>K (.i (c:Int)))
def dP(a:OA)(K:VK):WK:=br (a.isNone) (K (.i 0)) (nn a λb=>qb (some b) (xI .i64 λc=>K (.i c)))
def dP.u:WP|[.pointer a],K=>dP a K|_,_=>no
def c8(a b:Addr)(K:VK):WK:=lP b λc=>lI a λd=>nn c λe=>st (e.add 7) (.i d) (K (.tuple ⟨[]⟩))
def c8.u:WP|[.pointer (some a),.pointer (some b)],K=>c8 a b K|_,_=>no
def dx(a c:Addr)(K:VK):WK:=tick (lP a λb=>nn b λd=>aD c 4 λe=>iR (some (d.add 6)) e (x0 (kp a [.p b] (K (.tuple ⟨[]⟩)))))
def dx.u:WP|[.pointer (some a),.pointer (some b)],K=>dx a b K|_,_=>no
def gn.j1(K:VK)(a:OA)(c:Int)(n:Bool):WK:=br n (K (.b false)) (tick (nn a λd=>lL d λe f g=>oW e f g 2 none (some c) λo p q=>nn a λh=>lL h λj k m=>oW j k m 2 (some (ag.wrap (c+1))) none λr s x=>jO 2 16 [.i 0,.i 0] o p q r s λt u v=>kp h [.l j k m] (kp d [.l e f g] (nn a λw=>st w (.l t u v) (K (.b true))))))
def gn(a:OA)(d:Int)(K:VK):WK:=br (a.isNone) (K (.b false)) (iS a d (xI .i64 λc=>nn a λe=>lL e λl f m=>br (c==(f:Int)) (gn.j1 K a c true) (nn a λg=>lL g λh i n=>gp h i c 2 λj=>lI j λk=>gn.j1 K a c (k !=d))))
def dc(a d e:Addr)(K:VK):WK:=tick (lP a λb=>nn b λf=>lP (f.add 4) λg=>aD d 2 λh=>k6 g h (xB λk=>kp a [.p b] (tick (lP a λc=>nn c λi=>lI (e.add 30) λj=>gn (some (i.add 5)) j (xB λl=>kp a [.p c] (K (.tuple ⟨[]⟩)))))))
def dc.u:WP|[.pointer (some a),.pointer (some b),.pointer (some c)],K=>dc a b c K|_,_=>no
def dO.j1(K:VK)(a:OA)(d:LI)(e:LM)(f:Int)(g:World)(c b:Int):WK:=br (b==c) (K (.tuple ⟨[]⟩)) (tick (nn a λh=>lL h λj k A=>nn a λl=>lL l λm n B=>nn a λo=>lL o λp q C=>gp p q b 4 λr=>aD r 4 λs=>nn a λt=>lL t λu v D=>gp u v c 4 λw=>aD w 4 λx=>gp j k c 4 λy=>aT 4 y s (gp m n b 4 λz=>aT 4 z x ((ct d e [.i b] [.i f] g)))))
def dO.j2(K:VK)(d:OA)(a b:Int)(e:LI)(c:Int)(f:LM)(g:World)(p:LI)(q:LM)(r:Int)(s:World)(t:Bool):WK:=br t (tick (nn d λh=>lL h λj k u=>gp j k a 4 λv=>aD v 4 λw=>nn d λm=>lL m λn o x=>gp n o b 4 λy=>aD y 4 λz=>oZ w z (xB λA=>kp m [.l n o x] (kp h [.l j k u] (br A ((ct e f [.i c,.i a,.i (ag.wrap (a+1))] [.i c,.i b,.i a] g)) ((ct e f [.i c,.i b,.i (ag.wrap (a+1))] [.i c,.i b,.i a] g))))))) (dO.j1 K d p q r s c b)
def dO(f:OA)(m:Int)(K:VK):WK:=(lp [.i m] λg k=>∀a c,g [.i a] c->((lp [.i a,.i a,.i (ag.wrap ((ag.wrap (2* a))+1))] λh l=>∀d j b e,h [.i d,.i j,.i b] e->(br (decide (b<=(ag.wrap ((ag.wrap (2* d))+2)))) (nn f λn=>lL n λp o q=>dO.j2 K f b j h d l e g k a c (decide (b<(o:Int)))) (dO.j2 K f b j h d l e g k a c false)) e)) c)
def nr(a:OA)(b:Int)(K:VK):WK:=mk u4 λd=>tick (nn a λg=>lL g λh i o=>gp h i b 4 λj=>aD j 4 λk=>nn a λe=>lL e λm c n=>mk u4 λf=>kp e [.l m c n] (kp j k (kp g [.l h i o] (aT 4 (ad f 0) k (kp e [.l m c n] (tick (nn a λp=>lL p λq r M=>nn a λs=>lL s λt u O=>gp t u (ag.wrap ((c:Int) -1)) 4 λv=>aD v 4 λw=>gp q r b 4 λx=>aT 4 x w (nn a λy=>lL y λz A B=>oW z A B 4 none (some (ag.wrap ((c:Int) -1))) λC D E=>nn a λF=>st F (.l C D E) (br (decide (b<(ag.wrap ((c:Int) -1)))) (dO a b (x0 (gb a b (x0 (aD (ad f 0) 4 λG=>aT 4 (ad d 0) G (aD (ad d 0) 4 λH=>K (.agg ⟨H⟩))))))) (aD (ad f 0) 4 λI=>aT 4 (ad d 0) I (aD (ad d 0) 4 λJ=>K (.agg ⟨J⟩))))))))))))
def jz(f:OA)(o:Int)(K:VK):WK:=br (f.isNone) (K (.b false)) (nn f λp=>lL p λq k r=>(lp [.b false,.l q k r,.i (k:Int),.i 0] λm s=>∀g c d h e a j,m [.b g,.l c d h,.i e,.i a] j->(br (decide (a<e)) (gp c d a 4 λt=>aD t 4 λu=>mk u4 λn=>aT 4 (ad n 0) u (lI (ad n 1) λv=>br (v==o) (nr f a (xA 4 λw=>K (.b true))) ((ct m s [.b g,.l c d h,.i e,.i (ag.wrap (a+1))] [.b g,.l c d h,.i e,.i a] j)))) (K (.b false))) j))
def db(a c:Addr)(K:VK):WK:=tick (lP a λb=>nn b λd=>lI (c.add 1) λe=>jz (some (d.add 6)) e (xB λf=>kp a [.p b] (K (.tuple ⟨[]⟩))))
def db.u:WP|[.pointer (some a),.pointer (some b)],K=>db a b K|_,_=>no
def bI(a b c:Addr)(K:VK):WK:=tick (lP b λd=>nn d λe=>lL e λf g k=>lI c λh=>aD a 14 λi=>gp f g h 14 λj=>aT 14 j i (K (.tuple ⟨[]⟩)))
def bI.u:WP|[.pointer (some a),.pointer (some b),.pointer (some c)],K=>bI a b c K|_,_=>no
def cb(a b c:Addr)(K:VK):WK:=tick (lP b λd=>nn d λe=>lL e λf g k=>lI c λh=>aD a 33 λi=>gp f g h 33 λj=>aT 33 j i (K (.tuple ⟨[]⟩)))
def cb.u:WP|[.pointer (some a),.pointer (some b),.pointer (some c)],K=>cb a b c K|_,_=>no
def qc(a:OA)(e:Int)(K:VK):WK:=br (a.isNone) (K (.tuple ⟨[]⟩)) ((lp [] λc f=>∀b,c [] b->(nn a λg=>lL g λy h z=>br (decide ((h:Int)>(max2 e 0))) (nn a λi=>lL i λA d B=>nn a λj=>lL j λk m C=>gp k m (ag.wrap ((d:Int) -1)) 1 λn=>ld n λo=>tL [(N.dx,dx.u),(N.dc,dc.u),(N.db,db.u),(N.da,da.u),(N.c8,c8.u),(N.c7,c7.u),(N.bJ,bJ.u),(N.bI,bI.u),(N.cf,cf.u),(N.cb,cb.u)] o [] (x0 (nn a λp=>lL p λq r s=>oW q r s 1 none (some (ag.wrap ((d:Int) -1))) λt v w=>nn a λx=>st x (.l t v w) ((ct c f [] [] b))))) (K (.tuple ⟨[]⟩))) b))
def dQ(a:OA)(b:Int)(K:VK):WK:=br (!(a.isNone)) (nn a λc=>qc (some c) b (x0 (K (.tuple ⟨[]⟩)))) (K (.tuple ⟨[]⟩))
def dQ.u:WP|[.pointer a,.int .i64 b],K=>dQ a b K|_,_=>no
def jV(f o:OA)(j q:Nat)(r:OA)(s t:Nat)(v:Value)(K:VK):WK:=dP f (xI .i64 λw=>(lp [.i w,.l o j q,.i (j:Int),.i 0] λk x=>∀b c d g e a h,k [.i b,.l c d g,.i e,.i a] h->(br (decide (a<e)) (gp c d a 14 λy=>aD y 14 λz=>mk cN λm=>aT 14 (ad m 0) z (aD (ad m 0) 14 λA=>tL [(N.dQ,dQ.u),(N.dP,dP.u),(N.iT,iT.u),(N.gv,gv.u)] v [.p f,.agg ⟨A⟩] (xI .i64 λn=>br (n !=0) (dQ f b (x0 (gv r s t a n (x0 (K (.tuple ⟨[]⟩)))))) ((ct k x [.i b,.l c d g,.i e,.i (ag.wrap (a+1))] [.i b,.l c d g,.i e,.i a] h))))) (K (.tuple ⟨[]⟩))) h))
def mA(t n:OA)(e o:Nat)(u v:Value)(K:VK):WK:=Gx 8 [.i 0] (e:Int) (e:Int) λw x y=>(lp [.l none 0 0,.l w x y,.i 0] λm p=>∀f g h b c d a k,m [.l f g h,.l b c d,.i a] k->(br (decide (a<(e:Int))) (oW n e o 14 (some a) none λz A B=>jl z A B (u) (x2 λC D=>(xI .i64 λj=>(xB λE=>oW b c d 1 (some a) (some (ag.wrap (a+j))) λq r s=>br (!E) (gv q r s (ag.wrap (j-1)) 2 (x0 ((ct m p [.l f g h,.l b c d,.i (ag.wrap (a+j))] [.l f g h,.l b c d,.i a] k)))) (oW n e o 14 (some a) (some (ag.wrap (a+j))) λF G H=>jV t F G H q r s (v) (x0 ((ct m p [.l f g h,.l b c d,.i (ag.wrap (a+j))] [.l f g h,.l b c d,.i a] k))))) D) C)) (K (.l b c d))) k)
def ph(a b:OA)(c d:Nat)(K:VK):WK:=mA a b c d (.func (.func N.eY) ⟨[]⟩ ⟨[]⟩) (.func (.func N.iT) ⟨[]⟩ ⟨[]⟩) (xL λe f g=>K (.l e f g))
def eG(a:LV)(K:VK):WK:=mk a λc=>lI (ad c 13) λd=>K (.b ((ch .i64 .and d 1)!=0))
def eG.u:WP|[.agg ⟨a⟩],K=>eG a K|_,_=>no
def iJ(o:OA)(f p:Nat)(q:Value)(K:VK):WK:=(lp [.i 0,.b false,.l o f p,.i (f:Int),.i 0] λm r=>∀g h c d j e a k,m [.i g,.b h,.l c d j,.i e,.i a] k->(br (decide (a<e)) (gp c d a 16 λs=>aD s 16 λt=>mk bZ λn=>aT 16 (ad n 0) t (aD (ad n 0) 16 λv=>tL [(N.eG,eG.u)] q [.agg ⟨v⟩] (xB λw=>br (!w) (K (.tuple ⟨[.i (ag.wrap (a+1)),.b true]⟩)) ((ct m r [.i g,.b h,.l c d j,.i e,.i (ag.wrap (a+1))] [.i g,.b h,.l c d j,.i e,.i a] k))))) (K (.tuple ⟨[.i (f:Int),.b false]⟩))) k)
def pI(a:LV)(K:VK):WK:=mk a λc=>lI (ad c 13) λd=>K (.b ((ch .i64 .and d 12)!=0))
def jb(a:LV)(K:VK):WK:=mk a λc=>lI (ad c 13) λd=>K (.b ((ch .i64 .and d 2)!=0))
def ix.j1(K:VK)(a:Addr)(c:Bool):WK:=br c (lI (a.add 13) λd=>br ((ch .i64 .and d 192)==0) (K (.b true)) (aD a 16 λe=>jb e (xB λf=>K (.b f)))) (K (.b false))
def ix(k:LV)(K:VK):WK:=mk k λl=>aY (1=1/\(1=1/\(1=1/\True))) ((lp [.p (some (ad l 0)),.b false,.i 0,.agg ⟨[.i 2,.i 4,.i 8]⟩,.i 0] λh j=>∀a f d e c g,h [.p (some a),.b f,.i d,.agg ⟨e⟩,.i c] g->(br (decide (c<3)) (yF e 3 c (xI .i64 λm=>lI (a.add 13) λn=>br ((ch .i64 .and n m)!=0) ((ct h j [.p (some a),.b f,.i (ag.wrap (d+1)),.agg ⟨e⟩,.i (ag.wrap (c+1))] [.p (some a),.b f,.i d,.agg ⟨e⟩,.i c] g)) ((ct h j [.p (some a),.b f,.i d,.agg ⟨e⟩,.i (ag.wrap (c+1))] [.p (some a),.b f,.i d,.agg ⟨e⟩,.i c] g)))) (br (decide (d<=1)) (aD a 16 λo=>pI o (xB λq=>br q (lI (a.add 13) λr=>ix.j1 K a (!((ch .i64 .and r 240)!=0))) (ix.j1 K a true))) (ix.j1 K a false))) g))
def lC.j1(K:VK)(a:Nat)(b:Bool):WK:=br b (K (.i 8)) (lI (ad a 12) λc=>br (decide (c<0)) (K (.i 9)) (lI (ad a 12) λd=>br (decide (d>65535)) (K (.i 9)) (K (.i 0))))
def lC(b:LV)(K:VK):WK:=mk b λa=>aD (ad a 8) 2 λc=>fF c (xB λd=>br d (K (.i 16)) (lI (ad a 11) λe=>br (decide (e<0)) (lC.j1 K a true) (lI (ad a 11) λf=>lC.j1 K a (decide (f>4294967295)))))
def nL(a:LV)(K:VK):WK:=mk a λc=>lI (ad c 13) λd=>K (.b ((ch .i64 .and d 48)!=0))
def gY.j2(K:VK)(a:Nat)(b:Bool):WK:=br b (K (.i 8)) (lI (ad a 12) λc=>br (decide (c<1)) (K (.i 9)) (lI (ad a 12) λd=>br (decide (d>65535)) (K (.i 9)) (K (.i 0))))
def gY.j1(K:VK)(a:Nat)(b:Bool):WK:=br b (K (.i 18)) (lI (ad a 11) λc=>br (decide (c<1)) (gY.j2 K a true) (lI (ad a 11) λd=>gY.j2 K a (decide (d>4294967295))))
def gY(b:LV)(K:VK):WK:=mk b λa=>aD (ad a 2) 2 λc=>fF c (xB λd=>br d (K (.i 12)) (aD (ad a 4) 2 λe=>fF e (xB λf=>br f (K (.i 13)) (aD (ad a 2) 2 λg=>aD (ad a 4) 2 λh=>lK [.u 0,.u 0] g h λj=>br j (K (.i 14)) (aD (ad a 8) 2 λk=>fF k (xB λl=>br (!l) (K (.i 15)) (aD (ad a 6) 2 λm=>fF m (xB λn=>br n (aD (ad a 0) 16 λo=>nL o (xB λp=>gY.j1 K a (!p))) (gY.j1 K a false)))))))))
def dI.j3(K:VK)(a:Nat)(b:Bool):WK:=br b (K (.i 17)) (aD (ad a 0) 16 λc=>pI c (xB λd=>br d (aD (ad a 0) 16 λe=>lC e (xI .i64 λf=>K (.i f))) (aD (ad a 0) 16 λg=>gY g (xI .i64 λh=>K (.i h)))))
def dI.j4(K:VK)(a:Nat)(b:Bool):WK:=br b (dI.j3 K a true) (lI (ad a 10) λc=>br (c !=0) (aD (ad a 0) 16 λd=>jb d (xB λe=>dI.j3 K a (!e))) (dI.j3 K a false))
def dI.j2(K:VK)(a:Nat)(b:Bool):WK:=br b (K (.i 7)) (lI (ad a 10) λc=>br (decide (c<0)) (dI.j4 K a true) (lI (ad a 10) λd=>dI.j4 K a (decide (d>1073741824))))
def dI.j1(K:VK)(a:Nat)(b:Bool):WK:=br b (K (.i 3)) (aD (ad a 0) 2 λc=>fF c (xB λd=>br d (K (.i 4)) (aD (ad a 0) 2 λe=>aD (ad N.qz 0) 2 λf=>lK [.u 0,.u 0] e f λg=>br g (K (.i 5)) (aD (ad a 0) 16 λh=>ix h (xB λj=>br (!j) (K (.i 6)) (lI (ad a 14) λk=>br (k !=0) (dI.j2 K a true) (lI (ad a 15) λl=>dI.j2 K a (l !=0))))))))
def dI(b:LV)(K:VK):WK:=mk b λa=>lI (ad a 13) λc=>br (decide (c<0)) (dI.j1 K a true) (lI (ad a 13) λd=>dI.j1 K a (decide (d>255)))
def cK.j1(K:VK)(c a:Nat)(d:OA)(e:Int)(f:Bool):WK:=br f (aD (ad c 0) 33 λg=>aT 33 (ad a 0) g (aD (ad a 0) 33 λh=>K (.tuple ⟨[.agg ⟨h⟩,.b false]⟩))) (nn d λi=>lL i λj k o=>gp j k e 33 λl=>aD l 33 λm=>aT 33 (ad a 0) m (aD (ad a 0) 33 λn=>K (.tuple ⟨[.agg ⟨n⟩,.b true]⟩)))
def cK(b:OA)(a:Int)(K:VK):WK:=mk cV λc=>mk cV λd=>br (decide (a<0)) (cK.j1 K d c b a true) (eB b (xI .i64 λe=>cK.j1 K d c b a (decide (a>=e))))
def fw(c:OA)(d:LV)(K:VK):WK:=mk d λe=>mk cV λa=>br (c.isNone) (aY True (aY (33=33) (fH (ad a 0) cV (aD (ad a 0) 33 λf=>K (.tuple ⟨[.agg ⟨f⟩,.b false]⟩))))) (tick (nn c λg=>lP (g.add 4) λh=>aD (ad e 0) 2 λi=>fk h i (x2 λj k=>(xI .i64 λl=>(xB λm=>br (!m) (aY True (aY (33=33) (fH (ad a 0) cV (aD (ad a 0) 33 λn=>K (.tuple ⟨[.agg ⟨n⟩,.b false]⟩))))) (nn c λo=>lP (o.add 2) λp=>cK p l (x2 λq r=>(xA 33 λs=>(xB λt=>aT 33 (ad a 0) s (aD (ad a 0) 33 λu=>K (.tuple ⟨[.agg ⟨u⟩,.b t]⟩))) r) q))) k) j)))
def ij(e:OA)(f:Int)(g:LV)(K:VK):WK:=mk [.p e] λa=>mk [.i f] λc=>mk g λh=>lP (ad a 0) λj=>lI (ad c 0) λk=>cM j k (x2 λl m=>(xA 14 λn=>(xB λo=>mk cN λd=>aT 14 (ad d 0) n (br (!o) (K (.b false)) (tick (lP (ad a 0) λq=>nn q λr=>lL r λs t A=>lI (ad c 0) λu=>aD (ad h 0) 14 λv=>gp s t u 14 λw=>aT 14 w v (lP (ad a 0) λx=>nn x λy=>lP (y.add 1) λz=>fr z (.func (.func N.bI) ⟨[]⟩ ⟨[.p (some (ad d 0)),.p (some (ad a 0)),.p (some (ad c 0))]⟩) (x0 (K (.b true)))))))) m) l)
def iv(a:OA)(d:LV)(K:VK):WK:=mk d λb=>aD (ad b 0) 2 λe=>cT a e (x2 λf g=>(xA 14 λh=>(xB λj=>mk cN λc=>aT 14 (ad c 0) h (br (a.isNone) (K (.i 2)) (br (!j) (K (.i 5)) (tick (nn a λk=>lP (k.add 3) λl=>aD (ad b 0) 2 λm=>fk l m (x2 λn o=>(xI .i64 λp=>(xB λu=>lI (ad c 13) λq=>st (ad b 13) (.i q) (tick (nn a λr=>lP (r.add 1) λs=>aD (ad b 0) 14 λt=>ij s p t (xB λv=>K (.i 0))))) o) n)))))) g) f)
def rz(d e:LV)(K:VK):WK:=mk d λb=>mk e λa=>tick (lI (ad b 13) λf=>lI (ad a 13) λc=>st (ad b 13) (.i (ch .i64 .andNot f 1)) (kp (ad a 13) [.i c] (st (ad a 13) (.i (ch .i64 .andNot c 1)) (aD (ad b 0) 16 λg=>aD (ad a 0) 16 λh=>lK bZ g h λj=>br j (K (.i 10)) (K (.i 11))))))
def wk(g:OA)(h:LV)(K:VK):WK:=mk h λd=>mk lA λa=>aD (ad d 2) 2 λj=>cT g j (x2 λk l=>(xA 14 λm=>(xB λn=>mk cN λb=>aT 14 (ad b 0) m (aD (ad d 4) 2 λo=>cT g o (x2 λp q=>(xA 14 λr=>(xB λs=>mk cN λc=>aT 14 (ad c 0) r (br (!n) (aY True (aY (28=28) (fH (ad a 0) lA (aD (ad a 0) 28 λt=>K (.tuple ⟨[.agg ⟨t⟩,.i 19]⟩))))) (br (!s) (aY True (aY (28=28) (fH (ad a 0) lA (aD (ad a 0) 28 λu=>K (.tuple ⟨[.agg ⟨u⟩,.i 20]⟩))))) (lI (ad b 10) λv=>lI (ad c 10) λw=>br (v !=w) (aY True (aY (28=28) (fH (ad a 0) lA (aD (ad a 0) 28 λx=>K (.tuple ⟨[.agg ⟨x⟩,.i 21]⟩))))) (lI (ad b 10) λy=>lI (ad d 11) λz=>br (y !=z) (aY True (aY (28=28) (fH (ad a 0) lA (aD (ad a 0) 28 λA=>K (.tuple ⟨[.agg ⟨A⟩,.i 22]⟩))))) (lI (ad b 12) λB=>br ((ch .i64 .and B 8)!=0) (aY True (aY (28=28) (fH (ad a 0) lA (aD (ad a 0) 28 λC=>K (.tuple ⟨[.agg ⟨C⟩,.i 30]⟩))))) (lI (ad c 12) λD=>br ((ch .i64 .and D 8)!=0) (aY True (aY (28=28) (fH (ad a 0) lA (aD (ad a 0) 28 λE=>K (.tuple ⟨[.agg ⟨E⟩,.i 31]⟩))))) (aD (ad b 0) 14 λe=>aD (ad c 0) 14 λf=>aY (e.length=14/\(f.length=14/\True)) (aY ((e++(f++[])).length=28) (fH (ad a 0) (e++(f++[])) (aD (ad a 0) 28 λF=>K (.tuple ⟨[.agg ⟨F⟩,.i 0]⟩)))))))))))) q) p))) l) k)
def lj(a:OA)(K:VK):WK:=br (!(a.isNone)) (nn a λc=>lP (c.add 2) λd=>eB d (xI .i64 λe=>K (.b (decide (e<96))))) (K (.b false))
def qT(c d:LV)(K:VK):WK:=mk c λa=>mk d λb=>aD (ad a 0) 2 λe=>aD (ad b 0) 2 λf=>lK [.u 0,.u 0] e f λg=>br g (K (.i 0)) (lU (ad a 0) λh=>lU (ad b 0) λj=>br (decide (h<j)) (K (.i (-1))) (lU (ad a 0) λk=>lU (ad b 0) λl=>br (k==l) (lU (ad a 1) λm=>lU (ad b 1) λn=>br (decide (m<n)) (K (.i (-1))) (K (.i 1))) (K (.i 1))))
def oD(a c:LV)(K:VK):WK:=mk a λd=>mk c λe=>aD (ad d 0) 2 λf=>aD (ad e 0) 2 λg=>qT f g (xI .i64 λh=>K (.b (decide (h<0))))
def u6(d e:LV)(K:VK):WK:=mk d λb=>mk e λc=>mk [.u 0,.u 0] λa=>aD (ad c 0) 2 λf=>aD (ad b 0) 2 λg=>oD f g (xB λh=>br h (aD (ad c 0) 2 λi=>aT 2 (ad a 0) i (aD (ad a 0) 2 λj=>K (.agg ⟨j⟩))) (aD (ad b 0) 2 λk=>aT 2 (ad a 0) k (aD (ad a 0) 2 λl=>K (.agg ⟨l⟩))))
def kX(e f:LV)(K:VK):WK:=mk e λc=>mk f λd=>mk [.u 0,.u 0] λa=>aD (ad c 0) 2 λg=>aD (ad d 0) 2 λh=>oD g h (xB λi=>br i (aY True (aY (2=2) (fH (ad a 0) [.u 0,.u 0] (aD (ad a 0) 2 λj=>K (.tuple ⟨[.agg ⟨j⟩,.b false]⟩))))) (lU (ad c 1) λk=>lU (ad d 1) λl=>ou k l 0 (x2 λm n=>(xI .u64 λo=>(xI .u64 λp=>lU (ad c 0) λq=>lU (ad d 0) λr=>ou q r p (x2 λs t=>(xI .u64 λv=>(xI .u64 λx=>aY (1=1/\(1=1/\True)) (aY (2=2) (fH (ad a 0) [.u v,.u o] (aD (ad a 0) 2 λw=>K (.tuple ⟨[.agg ⟨w⟩,.b true]⟩))))) t) s)) n) m)))
def kk(e f:LV)(K:VK):WK:=mk e λc=>mk f λd=>mk [.u 0,.u 0] λa=>lU (ad c 1) λg=>lU (ad d 1) λh=>ov g h 0 (x2 λi j=>(xI .u64 λk=>(xI .u64 λl=>lU (ad c 0) λm=>lU (ad d 0) λn=>ov m n l (x2 λo p=>(xI .u64 λq=>(xI .u64 λr=>br (r !=0) (aY True (aY (2=2) (fH (ad a 0) [.u 0,.u 0] (aD (ad a 0) 2 λs=>K (.tuple ⟨[.agg ⟨s⟩,.b false]⟩))))) (aY (1=1/\(1=1/\True)) (aY (2=2) (fH (ad a 0) [.u q,.u k] (aD (ad a 0) 2 λt=>K (.tuple ⟨[.agg ⟨t⟩,.b true]⟩)))))) p) o)) j) i)
def fW(c d:LV)(K:VK):WK:=mk c λe=>mk d λf=>mk [.u 0,.u 0] λa=>aD (ad e 0) 2 λg=>aD (ad f 0) 2 λh=>kk g h (x2 λi j=>(xA 2 λk=>(xB λl=>mk [.u 0,.u 0] λb=>aT 2 (ad b 0) k (br (!l) (aD (ad N.qz 0) 2 λm=>aT 2 (ad a 0) m (aD (ad a 0) 2 λn=>K (.agg ⟨n⟩))) (aD (ad b 0) 2 λo=>aT 2 (ad a 0) o (aD (ad a 0) 2 λp=>K (.agg ⟨p⟩))))) j) i)
def cG.j1(K:VK)(c d a:Nat):WK:=aD (ad c 0) 2 λe=>aD (ad d 0) 2 λf=>kX e f (x2 λg h=>(xA 2 λi=>(xB λl=>mk [.u 0,.u 0] λb=>aT 2 (ad b 0) i (aD (ad b 0) 2 λj=>aT 2 (ad a 0) j (aD (ad a 0) 2 λk=>K (.agg ⟨k⟩)))) h) g)
def cG.j2(K:VK)(c d a:Nat):WK:=aD (ad c 0) 2 λe=>aD (ad d 0) 2 λf=>kX e f (x2 λg h=>(xA 2 λi=>(xB λl=>mk [.u 0,.u 0] λb=>aT 2 (ad b 0) i (aD (ad b 0) 2 λj=>aT 2 (ad a 0) j (aD (ad a 0) 2 λk=>K (.agg ⟨k⟩)))) h) g)
def cG.j3(K:VK)(c d a:Nat):WK:=aD (ad c 0) 2 λe=>aD (ad d 0) 2 λf=>kX e f (x2 λg h=>(xA 2 λi=>(xB λl=>mk [.u 0,.u 0] λb=>aT 2 (ad b 0) i (aD (ad b 0) 2 λj=>aT 2 (ad a 0) j (aD (ad a 0) 2 λk=>K (.agg ⟨k⟩)))) h) g)
def cG.j4(K:VK)(c d a:Nat):WK:=aD (ad c 0) 2 λe=>aD (ad d 0) 2 λf=>kX e f (x2 λg h=>(xA 2 λi=>(xB λl=>mk [.u 0,.u 0] λb=>aT 2 (ad b 0) i (aD (ad b 0) 2 λj=>aT 2 (ad a 0) j (aD (ad a 0) 2 λk=>K (.agg ⟨k⟩)))) h) g)
def cG.j5(K:VK)(c d a:Nat):WK:=aD (ad c 0) 2 λe=>aD (ad d 0) 2 λf=>kX e f (x2 λg h=>(xA 2 λi=>(xB λl=>mk [.u 0,.u 0] λb=>aT 2 (ad b 0) i (aD (ad b 0) 2 λj=>aT 2 (ad a 0) j (aD (ad a 0) 2 λk=>K (.agg ⟨k⟩)))) h) g)
def cG.j6(K:VK)(c d a:Nat):WK:=aD (ad c 0) 2 λe=>aD (ad d 0) 2 λf=>kX e f (x2 λg h=>(xA 2 λi=>(xB λl=>mk [.u 0,.u 0] λb=>aT 2 (ad b 0) i (aD (ad b 0) 2 λj=>aT 2 (ad a 0) j (aD (ad a 0) 2 λk=>K (.agg ⟨k⟩)))) h) g)
def cG(y:LV)(h:Bool)(K:VK):WK:=mk y λa=>mk [.u 0,.u 0] λc=>tick (aD (ad a 4) 2 λb=>aD (ad a 6) 2 λd=>aD (ad a 8) 2 λe=>both (fW d e (xA 2 λq=>kp (ad a 4) b (both (mk [.u 0,.u 0] λi=>kp (ad a 4) b (mk [.u 0,.u 0] λj=>kp (ad a 4) b (aT 2 (ad i 0) b (aT 2 (ad j 0) q (br h (tick (aD (ad a 8) 2 λr=>aD (ad a 2) 2 λz=>aD (ad a 4) 2 λA=>fW z A (xA 2 λB=>kp (ad a 8) r (aT 2 (ad i 0) r (aT 2 (ad j 0) B (cG.j1 K i j c)))))) (cG.j1 K i j c)))))) (mk [.u 0,.u 0] λk=>kp (ad a 4) b (mk [.u 0,.u 0] λl=>kp (ad a 4) b (aT 2 (ad l 0) b (aT 2 (ad k 0) q (br h (tick (aD (ad a 8) 2 λs=>aD (ad a 2) 2 λC=>aD (ad a 4) 2 λD=>fW C D (xA 2 λE=>kp (ad a 8) s (aT 2 (ad l 0) s (aT 2 (ad k 0) E (cG.j2 K l k c)))))) (cG.j2 K l k c))))))))) (both (mk [.u 0,.u 0] λf=>kp (ad a 8) e (kp (ad a 6) d (kp (ad a 4) b (both (fW d e (xA 2 λF=>kp (ad a 4) b (mk [.u 0,.u 0] λm=>kp (ad a 4) b (aT 2 (ad f 0) b (aT 2 (ad m 0) F (br h (tick (aD (ad a 8) 2 λt=>aD (ad a 2) 2 λG=>aD (ad a 4) 2 λH=>fW G H (xA 2 λI=>kp (ad a 8) t (aT 2 (ad f 0) t (aT 2 (ad m 0) I (cG.j3 K f m c)))))) (cG.j3 K f m c))))))) (mk [.u 0,.u 0] λn=>kp (ad a 8) e (kp (ad a 6) d (kp (ad a 4) b (fW d e (xA 2 λJ=>kp (ad a 4) b (aT 2 (ad f 0) b (aT 2 (ad n 0) J (br h (tick (aD (ad a 8) 2 λv=>aD (ad a 2) 2 λM=>aD (ad a 4) 2 λO=>fW M O (xA 2 λP=>kp (ad a 8) v (aT 2 (ad f 0) v (aT 2 (ad n 0) P (cG.j4 K f n c)))))) (cG.j4 K f n c))))))))))))) (mk [.u 0,.u 0] λg=>kp (ad a 8) e (kp (ad a 6) d (kp (ad a 4) b (both (fW d e (xA 2 λQ=>kp (ad a 4) b (mk [.u 0,.u 0] λo=>kp (ad a 4) b (aT 2 (ad o 0) b (aT 2 (ad g 0) Q (br h (tick (aD (ad a 8) 2 λw=>aD (ad a 2) 2 λR=>aD (ad a 4) 2 λS=>fW R S (xA 2 λT=>kp (ad a 8) w (aT 2 (ad o 0) w (aT 2 (ad g 0) T (cG.j5 K o g c)))))) (cG.j5 K o g c))))))) (mk [.u 0,.u 0] λp=>kp (ad a 8) e (kp (ad a 6) d (kp (ad a 4) b (fW d e (xA 2 λV=>kp (ad a 4) b (aT 2 (ad p 0) b (aT 2 (ad g 0) V (br h (tick (aD (ad a 8) 2 λx=>aD (ad a 2) 2 λW=>aD (ad a 4) 2 λX=>fW W X (xA 2 λY=>kp (ad a 8) x (aT 2 (ad p 0) x (aT 2 (ad g 0) Y (cG.j6 K p g c)))))) (cG.j6 K p g c)))))))))))))))
def eE.j3(K:VK)(d a e b:Nat):WK:=lI (ad d 13) λf=>br ((ch .i64 .and f 32)!=0) (tick (aD (ad a 0) 2 λc=>aD (ad e 14) 14 λg=>cG g false (xA 2 λh=>kp (ad a 0) c (u6 c h (xA 2 λj=>aT 2 (ad a 0) j (aD (ad a 0) 2 λk=>fF k (xB λl=>br l (aD (ad a 0) 2 λm=>aT 2 (ad b 0) m (aD (ad b 0) 2 λn=>K (.tuple ⟨[.agg ⟨n⟩,.i 34]⟩))) (aD (ad a 0) 2 λo=>aT 2 (ad b 0) o (aD (ad b 0) 2 λp=>K (.tuple ⟨[.agg ⟨p⟩,.i 0]⟩)))))))))) (aD (ad a 0) 2 λq=>aT 2 (ad b 0) q (aD (ad b 0) 2 λr=>K (.tuple ⟨[.agg ⟨r⟩,.i 0]⟩)))
def eE.j2(K:VK)(c a d b:Nat):WK:=lI (ad c 13) λf=>br ((ch .i64 .and f 16)!=0) (tick (aD (ad a 0) 2 λe=>aD (ad d 0) 14 λg=>cG g true (xA 2 λh=>kp (ad a 0) e (u6 e h (xA 2 λj=>aT 2 (ad a 0) j (aD (ad a 0) 2 λk=>fF k (xB λl=>br l (aD (ad a 0) 2 λm=>aT 2 (ad b 0) m (aD (ad b 0) 2 λn=>K (.tuple ⟨[.agg ⟨n⟩,.i 33]⟩))) (eE.j3 K c a d b)))))))) (eE.j3 K c a d b)
def eE.j1(K:VK)(a b c d:Nat)(e:Bool):WK:=br e (aD (ad N.qz 0) 2 λf=>aT 2 (ad a 0) f (eE.j2 K b a c d)) (eE.j2 K b a c d)
def eE(e f:LV)(K:VK):WK:=mk e λc=>mk f λa=>mk [.u 0,.u 0] λd=>aD (ad a 6) 2 λg=>mk [.u 0,.u 0] λb=>aT 2 (ad b 0) g (aD (ad a 0) 16 λh=>nL h (xB λi=>br i (aD (ad b 0) 2 λj=>fF j (xB λk=>eE.j1 K b a c d k)) (eE.j1 K b a c d false)))
def u5(q:OA)(m r:Nat)(K:VK):WK:=mk [.u 0,.u 0] λs=>mk [.u 0,.u 0] λt=>(lp [.p (some (ad s 0)),.b false,.p (some (ad t 0)),.l q m r,.i (m:Int),.i 0] λn v=>∀a h c e f j g d k,n [.p (some a),.b h,.p (some c),.l e f j,.i g,.i d] k->(br (decide (d<g)) (gp e f d 2 λw=>aD w 2 λx=>mk [.u 0,.u 0] λo=>aT 2 (ad o 0) x (aD c 2 λy=>aD (ad o 0) 2 λz=>kk y z (x2 λA B=>(xA 2 λC=>(xB λD=>aT 2 c C (br (!D) (aY True (aY (2=2) (fH a [.u 0,.u 0] (aD a 2 λE=>K (.tuple ⟨[.agg ⟨E⟩,.b false]⟩))))) ((ct n v [.p (some a),.b h,.p (some c),.l e f j,.i g,.i (ag.wrap (d+1))] [.p (some a),.b h,.p (some c),.l e f j,.i g,.i d] k)))) B) A))) (aD c 2 λF=>aT 2 a F (aD a 2 λG=>K (.tuple ⟨[.agg ⟨G⟩,.b true]⟩)))) k)
def kB.j1(K:VK)(a b:Nat)(d:Bool)(c:Nat)(e:Bool):WK:=br e (aD (ad a 0) 14 λf=>aT 14 (ad b 0) f (aD (ad b 0) 14 λg=>K (.tuple ⟨[.agg ⟨g⟩,.i 33]⟩))) (br d (aD (ad a 2) 2 λh=>aD (ad c 0) 2 λj=>kk h j (x2 λk l=>(xA 2 λm=>(xB λw=>aT 2 (ad a 2) m (aD (ad a 0) 14 λn=>aT 14 (ad b 0) n (aD (ad b 0) 14 λo=>K (.tuple ⟨[.agg ⟨o⟩,.i 0]⟩)))) l) k)) (aD (ad a 4) 2 λp=>aD (ad c 0) 2 λq=>kk p q (x2 λr s=>(xA 2 λt=>(xB λx=>aT 2 (ad a 4) t (aD (ad a 0) 14 λu=>aT 14 (ad b 0) u (aD (ad b 0) 14 λv=>K (.tuple ⟨[.agg ⟨v⟩,.i 0]⟩)))) s) r)))
def kB(k l:LV)(e:Bool)(K:VK):WK:=mk k λa=>mk l λb=>mk cN λc=>aD (ad a 2) 2 λf=>aD (ad a 4) 2 λg=>aD (ad b 0) 2 λh=>aY (f.length=2/\(g.length=2/\(h.length=2/\True))) (mk (f++(g++(h++[]))) λm=>u5 (ai m) 3 3 (x2 λn o=>(xA 2 λp=>(xB λq=>mk [.u 0,.u 0] λr=>aT 2 (ad r 0) p (br (!q) (aD (ad a 0) 14 λs=>aT 14 (ad c 0) s (aD (ad c 0) 14 λt=>K (.tuple ⟨[.agg ⟨t⟩,.i 32]⟩))) (tick (lI (ad a 12) λd=>br ((ch .i64 .and d 2)!=0) (aD (ad a 0) 14 λv=>aD (ad b 0) 2 λj=>cG v true (xA 2 λw=>kp (ad b 0) j (kp (ad a 12) [.i d] (oD w j (xB λx=>kp (ad a 12) [.i d] (kB.j1 K a c e b x)))))) (kB.j1 K a c e b false))))) o) n))
def jn.j1(K:VK)(a b:Nat)(d:Bool)(c:Nat)(e:Bool):WK:=br e (aD (ad a 0) 14 λf=>aT 14 (ad b 0) f (aD (ad b 0) 14 λg=>K (.tuple ⟨[.agg ⟨g⟩,.i 34]⟩))) (br d (aD (ad a 6) 2 λh=>aD (ad c 0) 2 λj=>kk h j (x2 λk l=>(xA 2 λm=>(xB λw=>aT 2 (ad a 6) m (aD (ad a 0) 14 λn=>aT 14 (ad b 0) n (aD (ad b 0) 14 λo=>K (.tuple ⟨[.agg ⟨o⟩,.i 0]⟩)))) l) k)) (aD (ad a 8) 2 λp=>aD (ad c 0) 2 λq=>kk p q (x2 λr s=>(xA 2 λt=>(xB λx=>aT 2 (ad a 8) t (aD (ad a 0) 14 λu=>aT 14 (ad b 0) u (aD (ad b 0) 14 λv=>K (.tuple ⟨[.agg ⟨v⟩,.i 0]⟩)))) s) r)))
def jn(k l:LV)(e:Bool)(K:VK):WK:=mk k λa=>mk l λb=>mk cN λc=>aD (ad a 6) 2 λf=>aD (ad a 8) 2 λg=>aD (ad b 0) 2 λh=>aY (f.length=2/\(g.length=2/\(h.length=2/\True))) (mk (f++(g++(h++[]))) λm=>u5 (ai m) 3 3 (x2 λn o=>(xA 2 λp=>(xB λq=>mk [.u 0,.u 0] λr=>aT 2 (ad r 0) p (br (!q) (aD (ad a 0) 14 λs=>aT 14 (ad c 0) s (aD (ad c 0) 14 λt=>K (.tuple ⟨[.agg ⟨t⟩,.i 32]⟩))) (tick (lI (ad a 12) λd=>br ((ch .i64 .and d 4)!=0) (aD (ad a 0) 14 λv=>aD (ad b 0) 2 λj=>cG v false (xA 2 λw=>kp (ad b 0) j (kp (ad a 12) [.i d] (oD w j (xB λx=>kp (ad a 12) [.i d] (jn.j1 K a c e b x)))))) (jn.j1 K a c e b false))))) o) n))
def fx.j1(K:VK)(a b g:Nat):WK:=tick (lP (ad a 0) λn=>lP (ad a 0) λc=>nn c λd=>lI (d.add 7) λe=>lh n (xI .i64 λo=>kp (d.add 7) [.i e] (kp (ad a 0) [.p c] (st (ad b 30) (.i o) (kp (d.add 7) [.i e] (kp (ad a 0) [.p c] (st (ad b 31) (.i e) (tick (lP (ad a 0) λh=>nn h λq=>lP (q.add 2) λr=>aD (ad b 0) 33 λs=>gN r s (xI .i64 λj=>kp (ad a 0) [.p h] (tick (lP (ad a 0) λk=>nn k λt=>lP (t.add 4) λu=>aD (ad g 0) 2 λv=>cX u v j (xB λJ=>kp (ad a 0) [.p k] (tick (lP (ad a 0) λl=>nn l λw=>lI (ad b 30) λx=>gg (some (w.add 5)) x j (xB λM=>kp (ad a 0) [.p l] (lP (ad a 0) λy=>nn y λz=>fr (some z) (.func (.func N.dc) ⟨[]⟩ ⟨[.p (some (ad a 0)),.p (some (ad g 0)),.p (some (ad b 0))]⟩) (x0 (aD (ad b 0) 33 λA=>rl A (x2 λB C=>(xA 4 λD=>(xB λE=>mk u4 λf=>aT 4 (ad f 0) D (br E (tick (lP (ad a 0) λm=>nn m λF=>aD (ad f 0) 4 λG=>iR (some (F.add 6)) G (x0 (kp (ad a 0) [.p m] (lP (ad a 0) λH=>nn H λI=>fr (some I) (.func (.func N.db) ⟨[]⟩ ⟨[.p (some (ad a 0)),.p (some (ad f 0))]⟩) (x0 (K (.i 0)))))))) (K (.i 0)))) C) B))))))))))))))))))))
def fx(g:OA)(h j:LV)(k:Bool)(K:VK):WK:=mk [.p g] λa=>mk h λl=>mk j λb=>lP (ad a 0) λm=>br (m.isNone) (K (.i 2)) (lP (ad a 0) λn=>nn n λo=>lP (o.add 2) λq=>eB q (xI .i64 λr=>br (decide (r>=96)) (K (.i 6)) (tick (lP (ad a 0) λf=>nn f λs=>lP (s.add 4) λt=>aD (ad b 0) 2 λu=>fk t u (x2 λv w=>(xI .i64 λy=>(xB λx=>kp (ad a 0) [.p f] (br x (K (.i 1)) (aD (ad l 0) 16 λd=>aD (ad b 0) 16 λe=>aY (d.length=16/\(e.length=16/\True)) (mk cV λc=>aY ((d++(e++([.i 0]:LV))).length=33) (fH (ad c 0) (d++(e++([.i 0]:LV))) (br k (st (ad c 32) (.i 1) (fx.j1 K a c b)) (fx.j1 K a c b))))))) w) v)))))
def mI.j2(K:VK)(d:Nat)(c:OA)(a g:Nat):WK:=aD (ad d 0) 14 λh=>iv c h (xI .i64 λo=>aD (ad d 14) 14 λj=>iv c j (xI .i64 λp=>aD (ad a 0) 16 λk=>mk bZ λb=>aT 16 (ad b 0) k (aD (ad g 0) 2 λl=>aT 2 (ad b 6) l (tick (aD (ad a 0) 16 λe=>aD (ad b 0) 16 λf=>aD (ad a 0) 16 λm=>jb m (xB λn=>kp (ad b 0) f (kp (ad a 0) e (fx c e f n (xI .i64 λq=>K (.i 0))))))))))
def mI.j1(K:VK)(b a:Nat)(c:OA)(d:Nat):WK:=lI (ad b 13) λe=>br ((ch .i64 .and e 128)!=0) (lI (ad a 26) λf=>st (ad a 26) (.i (ch .i64 .or f 8)) (mI.j2 K a c b d)) (mI.j2 K a c b d)
def mI(d:OA)(p:LV)(K:VK):WK:=mk p λb=>aD (ad b 0) 16 λq=>dI q (xI .i64 λe=>br (e !=0) (K (.i e)) (aD (ad b 0) 16 λr=>pI r (xB λs=>br s (K (.i 6)) (aD (ad b 0) 2 λt=>fw d t (x2 λv w=>(xA 33 λx=>(xB λy=>mk cV λf=>aT 33 (ad f 0) x (br y (aD (ad b 0) 16 λz=>aD (ad f 0) 16 λA=>rz z A (xI .i64 λB=>K (.i B))) (aD (ad b 0) 16 λC=>wk d C (x2 λD E=>(xA 28 λF=>(xI .i64 λg=>mk lA λa=>aT 28 (ad a 0) F (br (g !=0) (K (.i g)) (lj d (xB λG=>br (!G) (K (.i 35)) (aD (ad a 0) 28 λH=>aD (ad b 0) 16 λI=>eE H I (x2 λJ M=>(xA 2 λO=>(xI .i64 λh=>mk [.u 0,.u 0] λc=>aT 2 (ad c 0) O (br (h !=0) (K (.i h)) (tick (aD (ad a 0) 14 λj=>aD (ad c 0) 2 λk=>aD (ad b 0) 16 λP=>jb P (xB λQ=>kp (ad c 0) k (kp (ad a 0) j (kB j k Q (x2 λR S=>(xA 14 λT=>(xI .i64 λl=>aT 14 (ad a 0) T (br (l !=0) (K (.i l)) (tick (aD (ad a 14) 14 λm=>aD (ad c 0) 2 λn=>aD (ad b 0) 16 λV=>jb V (xB λW=>kp (ad c 0) n (kp (ad a 14) m (jn m n W (x2 λX Y=>(xA 14 λZ=>(xI .i64 λo=>aT 14 (ad a 14) Z (br (o !=0) (K (.i o)) (lI (ad b 13) λn7=>br ((ch .i64 .and n7 64)!=0) (lI (ad a 12) λWm=>st (ad a 12) (.i (ch .i64 .or Wm 8)) (mI.j1 K b a d c)) (mI.j1 K b a d c)))) Y) X)))))))) S) R)))))))) M) J)))))) E) D)))) w) v)))))
def jc(e:OA)(f:Int)(g:LV)(K:VK):WK:=mk [.p e] λa=>mk [.i f] λc=>mk g λh=>lP (ad a 0) λj=>lI (ad c 0) λk=>cK j k (x2 λl m=>(xA 33 λn=>(xB λo=>mk cV λd=>aT 33 (ad d 0) n (br (!o) (K (.b false)) (tick (lP (ad a 0) λq=>nn q λr=>lL r λs t A=>lI (ad c 0) λu=>aD (ad h 0) 33 λv=>gp s t u 33 λw=>aT 33 w v (lP (ad a 0) λx=>nn x λy=>lP (y.add 1) λz=>fr z (.func (.func N.cb) ⟨[]⟩ ⟨[.p (some (ad d 0)),.p (some (ad a 0)),.p (some (ad c 0))]⟩) (x0 (K (.b true)))))))) m) l)
def cr.j4(K:VK)(a e b:Nat)(f:Int):WK:=tick (lP (ad a 0) λc=>nn c λg=>lP (g.add 4) λh=>aD (ad e 0) 2 λj=>fk h j (x2 λk l=>(xI .i64 λm=>(xB λr=>kp (ad a 0) [.p c] (st (ad b 32) (.i f) (tick (lP (ad a 0) λd=>nn d λn=>lP (n.add 2) λo=>aD (ad b 0) 33 λq=>jc o m q (xB λs=>kp (ad a 0) [.p d] (K (.i 0))))))) l) k))
def cr.j3(K:VK)(a e b c:Nat)(d:Int)(f:Bool):WK:=br f (lP (ad a 0) λg=>nn g λh=>fr (some h) (.func (.func N.dx) ⟨[]⟩ ⟨[.p (some (ad a 0)),.p (some (ad e 0))]⟩) (x0 (cr.j4 K a b c d))) (cr.j4 K a b c d)
def cr.j2(K:VK)(c a d:Nat)(e:Int)(g:Bool):WK:=br g (K (.i 1)) (aD (ad c 0) 33 λh=>rl h (x2 λj k=>(xA 4 λl=>(xB λm=>mk u4 λb=>aT 4 (ad b 0) l (tick (br m (lP (ad a 0) λf=>nn f λn=>lI (ad b 1) λo=>jz (some (n.add 6)) o (xB λq=>kp (ad a 0) [.p f] (cr.j3 K a b d c e q))) (cr.j3 K a b d c e false)))) k) j))
def cr.j1(K:VK)(a:Int)(b c d:Nat)(e:Bool):WK:=br e (K (.i 5)) (br (decide (a<=1)) (cr.j2 K b c d a true) (cr.j2 K b c d a (decide (a>4))))
def cr(e:OA)(f:LV)(d:Int)(K:VK):WK:=mk [.p e] λa=>mk f λc=>lP (ad a 0) λg=>aD (ad c 0) 2 λh=>fw g h (x2 λj k=>(xA 33 λl=>(xB λm=>mk cV λb=>aT 33 (ad b 0) l (lP (ad a 0) λn=>br (n.isNone) (K (.i 2)) (br (!m) (cr.j1 K d b a c true) (lI (ad b 32) λo=>cr.j1 K d b a c (o !=1))))) k) j)
def cZ.j1(K:VK)(b:Nat)(a:OA)(c d:Nat)(e:Int):WK:=aD (ad b 0) 14 λf=>iv a f (xI .i64 λi=>aD (ad c 0) 14 λg=>iv a g (xI .i64 λj=>aD (ad d 0) 2 λh=>cr a h e (xI .i64 λk=>K (.tuple ⟨[]⟩))))
def cZ.j2(K:VK)(b a c:Nat)(d:OA)(e:Int):WK:=lI (ad b 13) λf=>br ((ch .i64 .and f 128)!=0) (lI (ad a 12) λg=>st (ad a 12) (.i (ch .i64 .andNot g 8)) (cZ.j1 K c d a b e)) (cZ.j1 K c d a b e)
def cZ(d:OA)(g h:LV)(e:Int)(K:VK):WK:=mk g λb=>mk h λf=>aD (ad b 2) 2 λj=>cT d j (x2 λk l=>(xA 14 λm=>(xB λQ=>mk cN λa=>aT 14 (ad a 0) m (aD (ad b 4) 2 λn=>cT d n (x2 λo p=>(xA 14 λq=>(xB λR=>mk cN λc=>aT 14 (ad c 0) q (aD (ad a 2) 2 λr=>aD (ad b 6) 2 λs=>kX r s (x2 λt u=>(xA 2 λv=>(xB λS=>aT 2 (ad a 2) v (aD (ad c 6) 2 λw=>aD (ad b 6) 2 λx=>kX w x (x2 λy z=>(xA 2 λA=>(xB λT=>aT 2 (ad c 6) A (br (e==2) (aD (ad a 4) 2 λB=>aD (ad f 0) 2 λC=>kk B C (x2 λD E=>(xA 2 λF=>(xB λV=>aT 2 (ad a 4) F (aD (ad c 8) 2 λG=>aD (ad f 0) 2 λH=>kk G H (x2 λI J=>(xA 2 λM=>(xB λW=>aT 2 (ad c 8) M (cZ.j1 K a d c b e)) J) I))) E) D)) (lI (ad b 13) λO=>br ((ch .i64 .and O 64)!=0) (lI (ad a 12) λP=>st (ad a 12) (.i (ch .i64 .andNot P 8)) (cZ.j2 K b c a d e)) (cZ.j2 K b c a d e)))) z) y))) u) t))) p) o))) l) k)
def cZ.u:WP|[.pointer a,.agg ⟨b⟩,.agg ⟨c⟩,.int .i64 d],K=>cZ a b c d K|_,_=>no
def eJ.j3(K:VK)(a c:Nat)(d:Bool):WK:=br d (lI (ad a 12) λe=>br (e==0) (K (.b true)) (lI (ad a 12) λf=>lI (ad c 12) λg=>K (.b (f==g)))) (K (.b false))
def eJ.j2(K:VK)(a b:Nat)(c:Bool):WK:=br c (lI (ad a 11) λd=>br (d==0) (eJ.j3 K a b true) (lI (ad a 11) λe=>lI (ad b 11) λf=>eJ.j3 K a b (e==f))) (eJ.j3 K a b false)
def eJ.j1(K:VK)(a b:Nat)(c:Bool):WK:=br c (aD (ad a 4) 2 λd=>fF d (xB λe=>br e (eJ.j2 K a b true) (aD (ad a 4) 2 λf=>aD (ad b 4) 2 λg=>lK [.u 0,.u 0] f g λh=>eJ.j2 K a b h))) (eJ.j2 K a b false)
def eJ(c d:LV)(K:VK):WK:=mk c λa=>mk d λb=>aD (ad a 2) 2 λe=>fF e (xB λf=>br f (eJ.j1 K a b true) (aD (ad a 2) 2 λg=>aD (ad b 2) 2 λh=>lK [.u 0,.u 0] g h λi=>eJ.j1 K a b i))
def wq(f:OA)(g:LV)(K:VK):WK:=mk g λd=>mk bZ λa=>aD (ad d 8) 2 λh=>fw f h (x2 λj k=>(xA 33 λl=>(xB λm=>mk cV λb=>aT 33 (ad b 0) l (br (!m) (aY True (aY (16=16) (fH (ad a 0) bZ (aD (ad a 0) 16 λn=>K (.tuple ⟨[.agg ⟨n⟩,.i 23]⟩))))) (aD (ad b 16) 16 λo=>jb o (xB λp=>br (!p) (aY True (aY (16=16) (fH (ad a 0) bZ (aD (ad a 0) 16 λq=>K (.tuple ⟨[.agg ⟨q⟩,.i 24]⟩))))) (aD (ad d 0) 16 λr=>aD (ad b 16) 16 λs=>eJ r s (xB λt=>br (!t) (aY True (aY (16=16) (fH (ad a 0) bZ (aD (ad a 0) 16 λu=>K (.tuple ⟨[.agg ⟨u⟩,.i 25]⟩))))) (tick (aD (ad b 16) 16 λv=>lI (ad b 32) λc=>aY ((0:Int)<=c/\c<5) (lI ((ad N.vG 0).add (c.toNat* 1)) λe=>aT 16 (ad a 0) v (kp ((ad N.vG 0).add (c.toNat* 1)) [.i e] (kp (ad b 32) [.i c] (aD (ad a 0) 16 λw=>K (.tuple ⟨[.agg ⟨w⟩,.i e]⟩))))))))))))) k) j)
def lG.j1(K:VK)(a b d:Nat)(c:Bool):WK:=br c (br c (aY True (aY (2=2) (fH (ad a 0) [.u 0,.u 0] (aD (ad a 0) 2 λe=>K (.tuple ⟨[.agg ⟨e⟩,.i 26]⟩))))) (aD (ad b 6) 2 λf=>aT 2 (ad a 0) f (aD (ad a 0) 2 λg=>K (.tuple ⟨[.agg ⟨g⟩,.i 0]⟩)))) (aD (ad d 6) 2 λh=>aD (ad b 6) 2 λj=>oD h j (xB λk=>br k (aY True (aY (2=2) (fH (ad a 0) [.u 0,.u 0] (aD (ad a 0) 2 λl=>K (.tuple ⟨[.agg ⟨l⟩,.i 26]⟩))))) (aD (ad b 6) 2 λm=>aT 2 (ad a 0) m (aD (ad a 0) 2 λn=>K (.tuple ⟨[.agg ⟨n⟩,.i 0]⟩)))))
def lG(d e:LV)(K:VK):WK:=mk d λa=>mk e λb=>mk [.u 0,.u 0] λc=>aD (ad a 6) 2 λf=>fF f (xB λg=>br g (aD (ad b 6) 2 λh=>aT 2 (ad c 0) h (aD (ad c 0) 2 λj=>K (.tuple ⟨[.agg ⟨j⟩,.i 0]⟩))) (lI (ad a 13) λk=>br ((ch .i64 .and k 8)!=0) (aD (ad a 6) 2 λl=>aD (ad b 6) 2 λm=>lK [.u 0,.u 0] l m λn=>lG.j1 K c a b (!n)) (lG.j1 K c a b false)))
def kx.j1(K:VK)(a b:Nat)(c:Bool):WK:=br c (K (.i 30)) (lI (ad a 12) λd=>br ((ch .i64 .and d 8)!=0) (lI (ad b 13) λe=>br ((ch .i64 .and e 128)==0) (K (.i 31)) (K (.i 0))) (K (.i 0)))
def kx(c:OA)(e:LV)(K:VK):WK:=mk e λa=>aD (ad a 2) 2 λf=>cT c f (x2 λg h=>(xA 14 λi=>(xB λp=>mk cN λd=>aT 14 (ad d 0) i (aD (ad a 4) 2 λj=>cT c j (x2 λk l=>(xA 14 λm=>(xB λq=>mk cN λb=>aT 14 (ad b 0) m (lI (ad d 12) λn=>br ((ch .i64 .and n 8)!=0) (lI (ad a 13) λo=>kx.j1 K b a ((ch .i64 .and o 64)==0)) (kx.j1 K b a false))) l) k))) h) g)
def pa.j1(K:VK)(f:OA)(a d h:Nat)(k:Int):WK:=lj f (xB λl=>br (!l) (K (.i 35)) (aD (ad a 0) 16 λm=>aD (ad d 0) 2 λn=>cZ f m n k (x0 (aD (ad h 0) 16 λo=>mk bZ λb=>aT 16 (ad b 0) o (tick (aD (ad a 2) 2 λp=>aD (ad a 4) 2 λj=>aD (ad d 0) 2 λg=>lI (ad a 11) λe=>lI (ad a 12) λc=>aT 2 (ad b 2) p (kp (ad a 12) [.i c] (kp (ad a 11) [.i e] (kp (ad d 0) g (kp (ad a 4) j (aT 2 (ad b 4) j (kp (ad a 12) [.i c] (kp (ad a 11) [.i e] (kp (ad d 0) g (aT 2 (ad b 6) g (kp (ad a 12) [.i c] (kp (ad a 11) [.i e] (st (ad b 11) (.i e) (kp (ad a 12) [.i c] (st (ad b 12) (.i c) (aD (ad h 0) 16 λq=>aD (ad b 0) 16 λr=>fx f q r false (xI .i64 λs=>K (.i 0)))))))))))))))))))))))
def pa(b:OA)(j:LV)(K:VK):WK:=mk j λa=>aD (ad a 0) 2 λk=>fw b k (x2 λl m=>(xA 33 λn=>(xB λo=>mk cV λe=>aT 33 (ad e 0) n (br o (aD (ad a 0) 16 λp=>aD (ad e 0) 16 λq=>rz p q (xI .i64 λr=>K (.i r))) (aD (ad a 0) 16 λs=>wq b s (x2 λt v=>(xA 16 λw=>(xI .i64 λf=>mk bZ λc=>aT 16 (ad c 0) w (br (f !=0) (K (.i f)) (aD (ad a 0) 16 λx=>aD (ad c 0) 16 λy=>lG x y (x2 λz A=>(xA 2 λB=>(xI .i64 λg=>mk [.u 0,.u 0] λd=>aT 2 (ad d 0) B (br (g !=0) (K (.i g)) (lI (ad a 13) λC=>br ((ch .i64 .and C 4)!=0) (aD (ad c 0) 16 λD=>kx b D (xI .i64 λh=>br (h !=0) (K (.i h)) (pa.j1 K b c d a 2))) (pa.j1 K b c d a 3)))) A) z)))) v) t)))) m) l)
def kS.j1(K:VK)(a:Nat)(b:OA)(c:Bool):WK:=br c (aD (ad a 0) 16 λd=>mI b d (xI .i64 λe=>K (.i e))) (aD (ad a 0) 16 λf=>pa b f (xI .i64 λg=>K (.i g)))
def kS(b:OA)(c:LV)(K:VK):WK:=mk c λa=>aD (ad a 0) 16 λd=>dI d (xI .i64 λe=>br (e !=0) (kS.j1 K a b true) (aD (ad a 0) 16 λf=>pI f (xB λg=>kS.j1 K a b (!g))))
def kS.u:WP|[.pointer a,.agg ⟨b⟩],K=>kS a b K|_,_=>no
def jk(f o:OA)(j q:Nat)(r:OA)(s t:Nat)(v:Value)(K:VK):WK:=dP f (xI .i64 λw=>(lp [.i w,.l o j q,.i (j:Int),.i 0] λk x=>∀b c d g e a h,k [.i b,.l c d g,.i e,.i a] h->(br (decide (a<e)) (gp c d a 16 λy=>aD y 16 λz=>mk bZ λm=>aT 16 (ad m 0) z (aD (ad m 0) 16 λA=>tL [(N.dQ,dQ.u),(N.dP,dP.u),(N.gv,gv.u),(N.kS,kS.u)] v [.p f,.agg ⟨A⟩] (xI .i64 λn=>br (n !=0) (dQ f b (x0 (gv r s t a n (x0 (K (.tuple ⟨[]⟩)))))) ((ct k x [.i b,.l c d g,.i e,.i (ag.wrap (a+1))] [.i b,.l c d g,.i e,.i a] h))))) (K (.tuple ⟨[]⟩))) h))
def lY(t n:OA)(e o:Nat)(u v:Value)(K:VK):WK:=Gx 8 [.i 0] (e:Int) (e:Int) λw x y=>(lp [.l none 0 0,.l w x y,.i 0] λm p=>∀f g h b c d a k,m [.l f g h,.l b c d,.i a] k->(br (decide (a<(e:Int))) (oW n e o 16 (some a) none λz A B=>iJ z A B (u) (x2 λC D=>(xI .i64 λj=>(xB λE=>oW b c d 1 (some a) (some (ag.wrap (a+j))) λq r s=>br (!E) (gv q r s (ag.wrap (j-1)) 2 (x0 ((ct m p [.l f g h,.l b c d,.i (ag.wrap (a+j))] [.l f g h,.l b c d,.i a] k)))) (oW n e o 16 (some a) (some (ag.wrap (a+j))) λF G H=>jk t F G H q r s (v) (x0 ((ct m p [.l f g h,.l b c d,.i (ag.wrap (a+j))] [.l f g h,.l b c d,.i a] k))))) D) C)) (K (.l b c d))) k)
def nZ(a b:OA)(c d:Nat)(K:VK):WK:=lY a b c d (.func (.func N.eG) ⟨[]⟩ ⟨[]⟩) (.func (.func N.kS) ⟨[]⟩ ⟨[]⟩) (xL λe f g=>K (.l e f g))
def c9.j1(K:VK)(a:Nat)(c:Int)(d:Bool):WK:=br d (K (.tuple ⟨[]⟩)) (lP (ad a 0) λe=>nn e λf=>lI (f.add 7) λg=>mk [.i 0] λb=>st (ad b 0) (.i g) (lP (ad a 0) λh=>nn h λj=>st (j.add 7) (.i c) (lP (ad a 0) λk=>nn k λl=>fr (some l) (.func (.func N.c8) ⟨[]⟩ ⟨[.p (some (ad b 0)),.p (some (ad a 0))]⟩) (x0 (K (.tuple ⟨[]⟩))))))
def c9(c:OA)(a:Int)(K:VK):WK:=mk [.p c] λb=>lP (ad b 0) λd=>br (d.isNone) (c9.j1 K b a true) (lP (ad b 0) λe=>nn e λf=>lI (f.add 7) λg=>br (decide (a<=g)) (c9.j1 K b a true) (c9.j1 K b a (decide (a>1099511627776))))
def c9.u:WP|[.pointer a,.int .i64 b],K=>c9 a b K|_,_=>no
def qH(a:OA)(K:VK):WK:=br (a.isNone) (K (.i 0)) (nn a λb=>lL b λd c e=>K (.i (c:Int)))
def ku(c:OA)(K:VK):WK:=mk u4 λa=>qH c (xI .i64 λd=>br (d==0) (aY True (aY (4=4) (fH (ad a 0) u4 (aD (ad a 0) 4 λe=>K (.tuple ⟨[.agg ⟨e⟩,.b false]⟩))))) (nn c λf=>lL f λg h l=>gp g h 0 4 λi=>aD i 4 λj=>aT 4 (ad a 0) j (aD (ad a 0) 4 λk=>K (.tuple ⟨[.agg ⟨k⟩,.b true]⟩))))
def dB.j1(K:VK)(c:Nat)(d:OA)(a:Nat)(e:Bool):WK:=br e (aD (ad c 2) 2 λf=>fw d f (x2 λg h=>(xA 33 λi=>(xB λj=>aT 33 (ad a 0) i (aD (ad a 0) 33 λk=>K (.tuple ⟨[.agg ⟨k⟩,.b j]⟩))) h) g)) (aY True (aY (33=33) (fH (ad a 0) cV (aD (ad a 0) 33 λl=>K (.tuple ⟨[.agg ⟨l⟩,.b false]⟩)))))
def dB(a:OA)(K:VK):WK:=mk cV λc=>br (a.isNone) (aY True (aY (33=33) (fH (ad c 0) cV (aD (ad c 0) 33 λe=>K (.tuple ⟨[.agg ⟨e⟩,.b false]⟩))))) (nn a λf=>ku (some (f.add 6)) (x2 λg h=>(xA 4 λi=>(xB λj=>mk u4 λd=>aT 4 (ad d 0) i (tick (br j (lI (ad d 0) λk=>nn a λl=>lI (l.add 7) λm=>dB.j1 K d a c (decide (k<=m))) (dB.j1 K d a c false)))) h) g))
def dB.u:WP|[.pointer a],K=>dB a K|_,_=>no
def qx(a:OA)(K:VK):WK:=mk [.p a] λb=>K (.func (.func N.II) ⟨[]⟩ ⟨[.p (some (ad b 0))]⟩)
def qx.u:WP|[.pointer a],K=>qx a K|_,_=>no
def iK(a:OA)(K:VK):WK:=br (!(a.isNone)) (nn a λb=>jG (some b) (x0 (K (.tuple ⟨[]⟩)))) (K (.tuple ⟨[]⟩))
def q8(t v:OA)(p w:Nat)(K:VK):WK:=(lp [.l none 0 0,.l none 0 0,.l v p w,.i (p:Int),.i 0] λo q=>∀h j k b c d e f m g a n,o [.l h j k,.l b c d,.l e f m,.i g,.i a] n->(br (decide (a<g)) (gp e f a 2 λx=>aD x 2 λy=>mk [.u 0,.u 0] λr=>aT 2 (ad r 0) y (aD (ad r 0) 2 λz=>cT t z (x2 λA B=>(xA 14 λC=>(xB λD=>mk cN λs=>aT 14 (ad s 0) C (br D (aD (ad s 0) 14 λE=>Je 14 E λF=>jO 14 112 cN b c d (ai F) 1 λG H I=>(ct o q [.l h j k,.l G H I,.l e f m,.i g,.i (ag.wrap (a+1))] [.l h j k,.l b c d,.l e f m,.i g,.i a] n)) ((ct o q [.l h j k,.l b c d,.l e f m,.i g,.i (ag.wrap (a+1))] [.l h j k,.l b c d,.l e f m,.i g,.i a] n)))) B) A))) (K (.l b c d))) n)
def qn(t v:OA)(p w:Nat)(K:VK):WK:=(lp [.l none 0 0,.l none 0 0,.l v p w,.i (p:Int),.i 0] λo q=>∀h j k b c d e f m g a n,o [.l h j k,.l b c d,.l e f m,.i g,.i a] n->(br (decide (a<g)) (gp e f a 2 λx=>aD x 2 λy=>mk [.u 0,.u 0] λr=>aT 2 (ad r 0) y (aD (ad r 0) 2 λz=>fw t z (x2 λA B=>(xA 33 λC=>(xB λD=>mk cV λs=>aT 33 (ad s 0) C (br D (aD (ad s 16) 16 λE=>Je 16 E λF=>jO 16 128 bZ b c d (ai F) 1 λG H I=>(ct o q [.l h j k,.l G H I,.l e f m,.i g,.i (ag.wrap (a+1))] [.l h j k,.l b c d,.l e f m,.i g,.i a] n)) ((ct o q [.l h j k,.l b c d,.l e f m,.i g,.i (ag.wrap (a+1))] [.l h j k,.l b c d,.l e f m,.i g,.i a] n)))) B) A))) (K (.l b c d))) n)
def eu.j1(K:VK)(w:Int)(x:OA)(y:Bool)(z:Int):WK:=(lp [.l none 0 0,.i w,.i z,.l none 0 0] λu A=>∀j k m f n g c h p,u [.l j k m,.i f,.i n,.l g c h] p->(br (decide (f<n)) (nn x λB=>lL B λC D V=>gp C D f 2 λE=>aD E 2 λF=>Je 2 F λG=>jO 2 16 [.i 0,.i 0] g c h (ai G) 1 λH I J=>(ct u A [.l j k m,.i (ag.wrap (f+1)),.i n,.l H I J] [.l j k m,.i f,.i n,.l g c h] p)) (br y ((lp [.l j k m,.l g c h,.i 0,.i (ag.wrap ((c:Int) -1))] λv M=>∀q r s a b o d e t,v [.l q r s,.l a b o,.i d,.i e] t->(br (decide (d<e)) (tick (gp a b e 2 λO=>aD O 2 λP=>gp a b d 2 λQ=>aD Q 2 λR=>gp a b d 2 λS=>aT 2 S P (gp a b e 2 λT=>aT 2 T R ((ct v M [.l q r s,.l a b o,.i (ag.wrap (d+1)),.i (ag.wrap (e-1))] [.l q r s,.l a b o,.i d,.i e] t))))) (K (.l a b o))) t)) (K (.l g c h)))) p)
def eu(a:OA)(h e:Int)(c:Bool)(K:VK):WK:=br (a.isNone) (K (.l none 0 0)) (tick (nn a λf=>lL f λi g j=>iS a h (xI .i64 λd=>kp f [.l i g j] (br (e !=0) (iS a e (xI .i64 λb=>nn a λk=>lL k λs m t=>br (decide (b<(m:Int))) (nn a λn=>lL n λo p u=>gp o p b 2 λq=>lI q λr=>br (r==e) (eu.j1 K d a c (ag.wrap (b+1))) (eu.j1 K d a c b)) (eu.j1 K d a c b))) (eu.j1 K d a c (g:Int))))))
def kT(o:OA)(z A:Int)(B:Bool)(K:VK):WK:=br (o.isNone) (K (.l none 0 0)) (nn o λC=>eu (some (C.add 5)) z A B (xL λD u E=>(lp [.l none 0 0,.l none 0 0,.l D u E,.i (u:Int),.i 0] λq v=>∀h j k b c d e f m g a n,q [.l h j k,.l b c d,.l e f m,.i g,.i a] n->(br (decide (a<g)) (gp e f a 2 λF=>aD F 2 λG=>mk [.i 0,.i 0] λr=>aT 2 (ad r 0) G (tick (nn o λw=>lP (w.add 2) λs=>lI (ad r 1) λt=>both (cK s t (x2 λH I=>(xA 33 λJ=>(xB λb2=>mk cV λx=>aT 33 (ad x 0) J (aD (ad x 0) 33 λM=>Je 33 M λO=>jO 33 264 cV b c d (ai O) 1 λP Q R=>(ct q v [.l h j k,.l P Q R,.l e f m,.i g,.i (ag.wrap (a+1))] [.l h j k,.l b c d,.l e f m,.i g,.i a] n))) I) H)) (mk cV λy=>kp (ad r 1) [.i t] (kp (w.add 2) [.p s] (cK s t (x2 λS T=>(xA 33 λV=>(xB λb3=>aT 33 (ad y 0) V (aD (ad y 0) 33 λW=>Je 33 W λX=>jO 33 264 cV b c d (ai X) 1 λY Z sc6=>(ct q v [.l h j k,.l Y Z sc6,.l e f m,.i g,.i (ag.wrap (a+1))] [.l h j k,.l b c d,.l e f m,.i g,.i a] n))) T) S))))))) (K (.l b c d))) n)))
def ke.j3(K:VK)(s:Nat)(a:OA)(b c:Nat)(o:LI)(d:Addr)(e:OA)(f g:Nat)(h:OA)(j k:Nat)(m n:Int)(q:LM)(r:World)(t:Bool):WK:=br t (aD (ad s 16) 16 λu=>Je 16 u λv=>jO 16 128 bZ a b c (ai v) 1 λw x y=>(ct o q [.p (some d),.l e f g,.l w x y,.l h j k,.i m,.i (ag.wrap (n+1))] [.p (some d),.l e f g,.l a b c,.l h j k,.i m,.i n] r)) ((ct o q [.p (some d),.l e f g,.l a b c,.l h j k,.i m,.i (ag.wrap (n+1))] [.p (some d),.l e f g,.l a b c,.l h j k,.i m,.i n] r))
def ke.j2(K:VK)(a:Addr)(b:Nat)(q:Bool)(c:Nat)(d:OA)(e:Nat)(f:LI)(g:OA)(h i:Nat)(j:OA)(k l:Nat)(m n:Int)(o:LM)(p:World)(r:Bool):WK:=lI (a.add 7) λs=>br (decide ((b:Int)<s)) (br q (ke.j3 K c d b e f a g h i j k l m n o p true) (ke.j3 K c d b e f a g h i j k l m n o p r)) (ke.j3 K c d b e f a g h i j k l m n o p false)
def ke.j1(K:VK)(a:Addr)(b c:Nat)(d:OA)(e:Nat)(f:LI)(g:OA)(h i:Nat)(j:OA)(k l:Nat)(m n:Int)(o:LM)(p:World)(q:Bool):WK:=lT (a.add 5) λr=>br r (aD (ad b 20) 2 λs=>aD a 2 λt=>lK [.u 0,.u 0] s t λv=>ke.j2 K a c q b d e f g h i j k l m n o p v) (ke.j2 K a c q b d e f g h i j k l m n o p false)
def ke(w:OA)(x:LV)(K:VK):WK:=mk x λc=>lI (ad c 2) λy=>lI (ad c 3) λz=>lT (ad c 6) λA=>kT w y z A (xL λB t C=>(lp [.p (some (ad c 0)),.l none 0 0,.l none 0 0,.l B t C,.i (t:Int),.i 0] λn v=>∀a o q r d e f g h s j b k,n [.p (some a),.l o q r,.l d e f,.l g h s,.i j,.i b] k->(br (decide (b<j)) (gp g h b 33 λD=>aD D 33 λE=>mk cV λm=>aT 33 (ad m 0) E (lT (a.add 4) λF=>br F (aD (ad m 18) 2 λG=>aD a 2 λH=>lK [.u 0,.u 0] G H λI=>ke.j1 K a m e d f n o q r g h s j b v k I) (ke.j1 K a m e d f n o q r g h s j b v k false))) (K (.l d e f))) k))
def E8(c:OA)(e:LV)(K:VK):WK:=mk e λb=>mk CS λa=>br (c.isNone) (aY (1=1/\True) (aY (4=4) (fH (ad a 0) [.i 2,.l none 0 0,.l none 0 0,.l none 0 0] (aD (ad a 0) 4 λf=>K (.agg ⟨f⟩))))) (aD (ad b 0) 13 λg=>fp g (xB λh=>br (!h) (aY (1=1/\True) (aY (4=4) (fH (ad a 0) [.i 1,.l none 0 0,.l none 0 0,.l none 0 0] (aD (ad a 0) 4 λj=>K (.agg ⟨j⟩))))) (lI (ad b 0) λd=>br (d==4) (lL (ad b 4) λk m n=>q8 c k m n (xL λo p q=>aY (1=1/\True) (aY (4=4) (fH (ad a 0) [.i 0,.l none 0 0,.l o p q,.l none 0 0] (aD (ad a 0) 4 λr=>K (.agg ⟨r⟩)))))) (br (d==5) (lL (ad b 4) λs t u=>qn c s t u (xL λv w x=>aY (1=1/\True) (aY (4=4) (fH (ad a 0) [.i 0,.l none 0 0,.l none 0 0,.l v w x] (aD (ad a 0) 4 λy=>K (.agg ⟨y⟩)))))) (aD (ad b 5) 8 λz=>ke c z (xL λA B C=>aY (1=1/\True) (aY (4=4) (fH (ad a 0) [.i 0,.l none 0 0,.l none 0 0,.l A B C] (aD (ad a 0) 4 λD=>K (.agg ⟨D⟩))))))))))
def tS(h:LV)(K:VK):WK:=mk h λj=>mk YC λk=>(lp [.p (some (ad j 0)),.s .empty,.p (some (ad k 0)),.i 0] λf l=>∀b d c a e,f [.p (some b),.s d,.p (some c),.i a] e->(br (decide (a<8)) (tick (lU (b.add 1) λm=>aY ((0:Int)<=(ag.wrap (8* a))) (lU b λg=>aY ((0:Int)<=(ag.wrap (8* a))) (aY ((0:Int)<=a/\a<16) (st (c.add (a.toNat* 1)) (.int .u8 (IntKind.u8.wrap (shr .u64 m (ag.wrap (8* a))))) (kp b [.u g] (aY ((0:Int)<=(ag.wrap (8+a))/\(ag.wrap (8+a))<16) (st (c.add ((ag.wrap (8+a)).toNat* 1)) (.int .u8 (IntKind.u8.wrap (shr .u64 g (ag.wrap (8* a))))) ((ct f l [.p (some b),.s d,.p (some c),.i (ag.wrap (a+1))] [.p (some b),.s d,.p (some c),.i a] e)))))))))) (oW (some c) 16 16 1 none none λn o r=>Np n o λq=>K (.s q))) e)
def iN(a:OA)(f:LV)(K:VK):WK:=mk f λg=>tick (nn a λb=>lL b λc d e=>aD (ad g 0) 2 λh=>tS h (xS λi=>kp b [.l c d e] (CA c d e i λj k m=>nn a λn=>st n (.l j k m) (K (.tuple ⟨[]⟩)))))
def pn.j1(K:VK)(c:Nat)(d:OA):WK:=aD (ad c 0) 2 λg=>aD (ad c 2) 2 λh=>aD (ad c 4) 2 λj=>aD (ad c 6) 2 λk=>aD (ad c 8) 2 λl=>aY (g.length=2/\(h.length=2/\(j.length=2/\(k.length=2/\(l.length=2/\True))))) ((lp [.p (some (ad c 0)),.agg ⟨(g++(h++(j++(k++(l++[])))))⟩,.i 0] λm o=>∀b e a f,m [.p (some b),.agg ⟨e⟩,.i a] f->(br (decide (a<5)) (aY ((0:Int)<=a/\a<5) (mk [.u 0,.u 0] λn=>aY (((e.drop ((a:Int).toNat* 2)).take 2).length=2) (fH (ad n 0) ((e.drop ((a:Int).toNat* 2)).take 2) (aD (ad n 0) 2 λq=>iN d q (x0 ((ct m o [.p (some b),.agg ⟨e⟩,.i (ag.wrap (a+1))] [.p (some b),.agg ⟨e⟩,.i a] f))))))) (lI (b.add 10) λr=>aQ d 4 r (x0 (lI (b.add 11) λs=>aQ d 2 s (x0 (lI (b.add 12) λt=>aQ d 2 t (x0 (lI (b.add 13) λv=>aQ d 8 v (x0 (K (.tuple ⟨[]⟩))))))))))) f))
def pn(b:OA)(c:LV)(K:VK):WK:=mk c λa=>aD (ad a 0) 14 λd=>fZ d (xB λe=>br (!e) (aY True (aY (14=14) (fH (ad a 0) cN (pn.j1 K a b)))) (pn.j1 K a b))
def iB(h m:OA)(e n:Nat)(K:VK):WK:=nn h λo=>aQ (some o) 1 (e:Int) (x0 ((lp [.l m e n,.i (e:Int),.i 0] λj p=>∀b c f d a g,j [.l b c f,.i d,.i a] g->(br (decide (a<d)) (gp b c a 14 λq=>aD q 14 λr=>mk cN λk=>aT 14 (ad k 0) r (tick (nn h λs=>aD (ad k 0) 14 λt=>pn (some s) t (x0 ((ct j p [.l b c f,.i d,.i (ag.wrap (a+1))] [.l b c f,.i d,.i a] g)))))) (K (.tuple ⟨[]⟩))) g)))
def nK.j1(K:VK)(d:Nat)(c:OA):WK:=aD (ad d 0) 2 λg=>aD (ad d 2) 2 λh=>aD (ad d 4) 2 λj=>aD (ad d 6) 2 λk=>aD (ad d 8) 2 λl=>aY (g.length=2/\(h.length=2/\(j.length=2/\(k.length=2/\(l.length=2/\True))))) ((lp [.p (some (ad d 0)),.agg ⟨(g++(h++(j++(k++(l++[])))))⟩,.i 0] λm o=>∀a e b f,m [.p (some a),.agg ⟨e⟩,.i b] f->(br (decide (b<5)) (aY ((0:Int)<=b/\b<5) (mk [.u 0,.u 0] λn=>aY (((e.drop ((b:Int).toNat* 2)).take 2).length=2) (fH (ad n 0) ((e.drop ((b:Int).toNat* 2)).take 2) (aD (ad n 0) 2 λq=>iN c q (x0 ((ct m o [.p (some a),.agg ⟨e⟩,.i (ag.wrap (b+1))] [.p (some a),.agg ⟨e⟩,.i b] f))))))) (lI (a.add 10) λr=>aQ c 4 r (x0 (lI (a.add 11) λs=>aQ c 4 s (x0 (lI (a.add 12) λt=>aQ c 2 t (x0 (lI (a.add 13) λv=>aQ c 2 v (x0 (lI (a.add 14) λw=>aQ c 8 w (x0 (lI (a.add 15) λx=>aQ c 8 x (x0 (K (.tuple ⟨[]⟩))))))))))))))) f))
def nK(b:OA)(c:LV)(K:VK):WK:=mk c λa=>aD (ad a 0) 16 λd=>dW d (xB λe=>br (!e) (aY True (aY (16=16) (fH (ad a 0) bZ (nK.j1 K a b)))) (nK.j1 K a b))
def il(h m:OA)(e n:Nat)(K:VK):WK:=nn h λo=>aQ (some o) 1 (e:Int) (x0 ((lp [.l m e n,.i (e:Int),.i 0] λj p=>∀b c f d a g,j [.l b c f,.i d,.i a] g->(br (decide (a<d)) (gp b c a 16 λq=>aD q 16 λr=>mk bZ λk=>aT 16 (ad k 0) r (tick (nn h λs=>aD (ad k 0) 16 λt=>nK (some s) t (x0 ((ct j p [.l b c f,.i d,.i (ag.wrap (a+1))] [.l b c f,.i d,.i a] g)))))) (K (.tuple ⟨[]⟩))) g)))
def nj(a:OA)(b:Bool)(K:VK):WK:=br b (aQ a 1 1 (x0 (K (.tuple ⟨[]⟩)))) (aQ a 1 0 (x0 (K (.tuple ⟨[]⟩))))
def lN(c:OA)(j:LV)(K:VK):WK:=mk j λa=>tick (nn c λk=>aD (ad a 0) 2 λl=>iN (some k) l (x0 (tick (nn c λm=>lI (ad a 2) λn=>aQ (some m) 8 n (x0 (tick (nn c λo=>lI (ad a 3) λq=>aQ (some o) 8 q (x0 (lT (ad a 4) λr=>lT (ad a 5) λs=>lT (ad a 6) λt=>aY (1=1/\(1=1/\(1=1/\True))) ((lp [.p (some (ad a 0)),.agg ⟨[.b r,.b s,.b t]⟩,.i 0] λh u=>∀e f d g,h [.p (some e),.agg ⟨f⟩,.i d] g->(br (decide (d<3)) (yF f 3 d (xB λv=>nn c λw=>nj (some w) v (x0 ((ct h u [.p (some e),.agg ⟨f⟩,.i (ag.wrap (d+1))] [.p (some e),.agg ⟨f⟩,.i d] g))))) (tick (nn c λx=>lI (e.add 7) λy=>aQ (some x) 1 y (x0 (K (.tuple ⟨[]⟩)))))) g)))))))))))
def tR(v:LV)(K:VK):WK:=mk v λb=>aD (ad b 0) 13 λw=>mn w (xB λx=>br (!x) (K (.tuple ⟨[.s .empty,.i 1]⟩)) (aY True (mk [.l none 0 0] λa=>tick (lI (ad b 0) λy=>aQ (some (ad a 0)) 1 y (x0 (lI (ad b 0) λe=>br (e==1) (lL (ad b 1) λz A B=>iB (some (ad a 0)) z A B (x0 (cF (some (ad a 0)) (xS λC=>K (.tuple ⟨[.s C,.i 0]⟩))))) (br (e==2) (lL (ad b 2) λD E F=>il (some (ad a 0)) D E F (x0 (cF (some (ad a 0)) (xS λG=>K (.tuple ⟨[.s G,.i 0]⟩))))) (br (e==3) (tick (lI (ad b 3) λH=>aQ (some (ad a 0)) 8 H (x0 (cF (some (ad a 0)) (xS λI=>K (.tuple ⟨[.s I,.i 0]⟩)))))) (br (e==6) (aD (ad b 5) 8 λJ=>lN (some (ad a 0)) J (x0 (cF (some (ad a 0)) (xS λM=>K (.tuple ⟨[.s M,.i 0]⟩))))) (tick (lL (ad b 4) λO o P=>aQ (some (ad a 0)) 1 (o:Int) (x0 (kp (ad b 4) [.l O o P] (lL (ad b 4) λQ q R=>(lp [.s .empty,.i 0,.p (some (ad a 0)),.l Q q R,.i (q:Int),.i 0] λr S=>∀j k c f g m h d n,r [.s j,.i k,.p (some c),.l f g m,.i h,.i d] n->(br (decide (d<h)) (gp f g d 2 λT=>aD T 2 λV=>mk [.u 0,.u 0] λt=>aT 2 (ad t 0) V (tick (aD (ad t 0) 2 λW=>iN (some c) W (x0 ((ct r S [.s j,.i k,.p (some c),.l f g m,.i h,.i (ag.wrap (d+1))] [.s j,.i k,.p (some c),.l f g m,.i h,.i d] n)))))) (cF (some c) (xS λX=>K (.tuple ⟨[.s X,.i 0]⟩)))) n)))))))))))))))
def mM(a:OA)(K:VK):WK:=br (a.isNone) (K (.i 0)) (nn a λb=>lI (b.add 7) λc=>K (.i c))
def ik(a:OA)(K:VK):WK:=br (a.isNone) (K (.l none 0 0)) (nn a λb=>lL b λc d h=>jO 14 112 cN none 0 0 c d λe f g=>K (.l e f g))
def fJ(a:OA)(K:VK):WK:=br (a.isNone) (K (.l none 0 0)) (nn a λb=>lP (b.add 1) λc=>ik c (xL λd e f=>K (.l d e f)))
def jd(a:OA)(K:VK):WK:=br (a.isNone) (K (.l none 0 0)) (nn a λb=>lL b λc d h=>jO 33 264 cV none 0 0 c d λe f g=>K (.l e f g))
def kA(a:OA)(K:VK):WK:=br (a.isNone) (K (.l none 0 0)) (nn a λb=>lP (b.add 2) λc=>jd c (xL λd e f=>K (.l d e f)))
def mL(a:OA)(K:VK):WK:=br (a.isNone) (K (.i 0)) (nn a λb=>lI (b.add 8) λc=>K (.i c))
def qp(b:OA)(K:VK):WK:=aY True (mk [.l none 0 0] λc=>aQ (some (ad c 0)) 1 1 (x0 (mM b (xI .i64 λC=>aQ (some (ad c 0)) 8 C (x0 (mL b (xI .i64 λD=>aQ (some (ad c 0)) 8 D (x0 (fJ b (xL λZ E tq=>aQ (some (ad c 0)) 2 (E:Int) (x0 (kA b (xL λmg F mP=>aQ (some (ad c 0)) 2 (F:Int) (x0 (fJ b (xL λG x H=>(lp [.s .empty,.p (some (ad c 0)),.l G x H,.i (x:Int),.i 0] λy I=>∀g d h j r k e t,y [.s g,.p (some d),.l h j r,.i k,.i e] t->(br (decide (e<k)) (gp h j e 14 λJ=>aD J 14 λM=>mk cN λz=>aT 14 (ad z 0) M (aD (ad z 0) 14 λO=>pn (some d) O (x0 ((ct y I [.s g,.p (some d),.l h j r,.i k,.i (ag.wrap (e+1))] [.s g,.p (some d),.l h j r,.i k,.i e] t))))) (kA b (xL λP A Q=>(lp [.s g,.p (some d),.l P A Q,.i (A:Int),.i 0] λB R=>∀u a m n v o f w,B [.s u,.p (some a),.l m n v,.i o,.i f] w->(br (decide (f<o)) (gp m n f 33 λS=>aD S 33 λT=>mk cV λq=>aT 33 (ad q 0) T (aD (ad q 0) 16 λV=>nK (some a) V (x0 (aD (ad q 16) 16 λW=>nK (some a) W (x0 (lI (ad q 32) λX=>aQ (some a) 1 X (x0 ((ct B R [.s u,.p (some a),.l m n v,.i o,.i (ag.wrap (f+1))] [.s u,.p (some a),.l m n v,.i o,.i f] w))))))))) (cF (some a) (xS λY=>K (.s Y)))) w)))) t)))))))))))))))))
def fL.j1(K:VK)(a:OA)(c:Int):WK:=br (c !=0) (nn a λd=>st (d.add 9) (.b true) (K (.i c))) (nn a λe=>lI (e.add 8) λf=>nn a λg=>st (g.add 8) (.i (ag.wrap (f+1))) (nn a λh=>lP (h.add 7) λj=>gB j (x0 (K (.i 0)))))
def fL(a:OA)(K:VK):WK:=br (a.isNone) (K (.i 2)) (nn a λl=>lT (l.add 9) λm=>br m (K (.i 9)) (nn a λn=>lP (n.add 6) λo=>qp o (xS λb=>nn a λq=>aD (q.add 1) 5 λr=>mW r (b.size:Int) (xB λs=>br (!s) (K (.i 3)) (nn a λt=>lP t λu=>kZ u (xI .i64 λc=>tick (nn a λv=>aD (v.add 1) 5 λw=>nn a λx=>lP x λy=>nn a λf=>lI (f.add 8) λg=>nN w y (ag.wrap (g+1)) (ag.wrap (c+1)) b (xI .i64 λh=>kp (f.add 8) [.i g] (br (h==0) (tick (nn a λj=>lP j λk=>nn a λd=>lI (d.add 8) λe=>nn a λz=>lP (z.add 7) λA=>iY A (xI .i64 λB=>kp (d.add 8) [.i e] (kp j [.p k] (aY (1=1/\(1=1/\(1=1/\(1=1/\True)))) (rj k (ag.wrap ((ag.wrap (c+1))+1)) [.i (ag.wrap (e+1)),.i (ag.wrap (c+1)),.i (b.size:Int),.i B] (xI .i64 λC=>kp (d.add 8) [.i e] (fL.j1 K a C)))))))) (fL.j1 K a h))))))))))
def gl.j1(K:VK)(a:OA)(f:BA):WK:=tick (nn a λd=>lP (d.add 7) λe=>nn a λg=>lP g λh=>kZ h (xI .i64 λj=>kp (d.add 7) [.p e] (bu e (ag.wrap (j+1)) f (xI .i64 λc=>nn a λk=>lT (k.add 9) λl=>br l (nn a λm=>st (m.add 9) (.b true) (K (.i c))) (nn a λn=>st (n.add 9) (.b (c==8)) (K (.i c)))))))
def gl(a:OA)(b:BA)(K:VK):WK:=nn a λd=>lP (d.add 7) λe=>gA e (b.size:Int) (xB λf=>br (!f) (fL a (xI .i64 λc=>br (c !=0) (K (.i c)) (gl.j1 K a b))) (gl.j1 K a b))
def mG(a:OA)(K:VK):WK:=br (a.isNone) (K (.p none)) (nn a λb=>lP (b.add 6) λc=>qp c (xS λd=>lQ d (x2 λe f=>(xP λg=>(xI .i64 λh=>K (.p g)) f) e)))
end Go.Prog
namespace Go.Md
def bV:Nat:=340282366920938463463374607431768211456
structure bp where
 id:Nat
 dp:Nat
 dq:Nat
 cp:Nat
 cq:Nat
 bt:Int
 code:Int
 au:Int
 aw:Int
deriving DecidableEq
structure cj where
 id:Nat
 bq:Nat
 aU:Nat
 aZ:Nat
 pending:Nat
 cL:Int
 bt:Int
 code:Int
 au:Int
 aw:Int
 kQ:Int
deriving DecidableEq
structure bS where
 asked:cj
 move:cj
 fate:Int
deriving DecidableEq
structure aO where
 aB:List bp
 ax:List bS
 clock:Int
 aw:Int
structure aK where
 eS:List bp
 ax:List bS
 clock:Int
 aw:Int
def has(f b:Int):Prop:=f/b%2=1
instance(f b:Int):Decidable (has f b):=by unfold has;infer_instance
def tJ(a:bp):Int:=
 if a.au<0\/7<a.au then 3 else if a.id=0 then 4 else if a.id=bV-1 then 5 else if has a.au 2/\has a.au 4 then 6
 else if a.dp≠0\/a.dq≠0\/a.cp≠0\/a.cq≠0\/a.aw≠0 then 7 else if a.bt<=0\/4294967296<=a.bt then 8 else if a.code<=0\/65536<=a.code then 9 else 0
def ow(a b:bp):Int:=if a.bt=b.bt/\a.code=b.code/\a.au/2%4=b.au/2%4 then 10 else 11
def lM(f:Int):Prop:=has f 4\/has f 8
instance(f:Int):Decidable (lM f):=by unfold lM;infer_instance
def jv(f:Int):Prop:= ¬(has f 2/\has f 4\/has f 2/\has f 8\/has f 4/\has f 8)/\ ¬(lM f/\16<=f)/\(f<64\/has f 2)
instance(f:Int):Decidable (jv f):=by unfold jv;infer_instance
def pC(t:cj):Int:=
 if t.au<0\/255<t.au then 3 else if t.id=0 then 4 else if t.id=bV-1 then 5 else if ¬jv t.au then 6
 else if t.aw≠0\/t.kQ≠0 then 7 else if t.cL<0\/1073741824<t.cL\/0<t.cL/\ ¬has t.au 2 then 17
 else if lM t.au then
  (if t.pending=0 then 16 else if t.bt<0\/4294967296<=t.bt then 8 else if t.code<0\/65536<=t.code then 9 else 0)
 else if t.bq=0 then 12 else if t.aU=0 then 13 else if t.bq=t.aU then 14 else if t.pending≠0 then 15 else if t.aZ=0/\ ¬has t.au 16/\ ¬has t.au 32 then 18
 else if t.bt<1\/4294967296<=t.bt then 8 else if t.code<1\/65536<=t.code then 9 else 0
def rW(t b:cj):Int:=if{t with au:=t.au/2}={b with au:=b.au/2} then 10 else 11
def S(f:bS->Nat)(l:List bS):Nat:=(l.map f).sum
def vT(f:bS->Nat):S f []=0:=rfl
def pq(f:bS->Nat)(k:bS)(l:List bS):S f (k::l)=f k+S f l:=by simp[S]
def Ql(f:bS->Nat)(l m:List bS):S f (l++m)=S f l+S f m:=by simp[S]
def sU(f:bS->Nat)(l:List bS)(k:bS):S f (l++[k])=S f l+f k:=by simp[S]
def Eh(f:bS->Nat):∀(l:List bS)(i:Nat)(k:bS)(h:i<l.length),S f (l.set i k)+f l[i]=S f l+f k
 |[],i,k,h=>by simp at h
 |x::l,0,k,h=>by simp[S];omega
 |x::l,i+1,k,h=>by
  have ih:=Eh f l i k (by simpa using h);simp only[kf,pq,List.getElem_cons_succ];omega
def Qk(f:bS->Nat):∀(l:List bS)(k:bS),k∈l->f k<=S f l
 |[],k,h=>by simp at h
 |x::l,k,h=>by
  rw[pq];rcases gK.1 h with h|h
  ·subst h;omega
  ·have:=Qk f l k h;omega
def xD(id:Nat)(k:bS):Nat:=if k.fate=1/\k.move.bq=id then k.move.aZ else 0
def xE(id:Nat)(k:bS):Nat:=if k.fate=1/\k.move.aU=id then k.move.aZ else 0
def lV(k:bS):Prop:= ¬has k.move.au 2/\ ¬has k.move.au 8
instance(k:bS):Decidable (lV k):=by unfold lV;infer_instance
def zH(id:Nat)(k:bS):Nat:=if lV k/\k.move.bq=id then k.move.aZ else 0
def zJ(id:Nat)(k:bS):Nat:=if lV k/\k.move.aU=id then k.move.aZ else 0
def nC(id:Nat)(k:bS):Prop:=(has k.move.au 64/\k.move.bq=id\/has k.move.au 128/\k.move.aU=id)/\(k.fate=1\/k.fate=2)
instance(id:Nat)(k:bS):Decidable (nC id k):=by unfold nC;infer_instance
def sf(id:Nat)(k:bS):Nat:=if nC id k then 1 else 0
def add(a b:Nat):Nat:=if a+b<bV then a+b else 0
def Oy(a:bp)(k:bS):bp:=
 {a with dq:=if lV k/\k.move.bq=a.id then add a.dq k.move.aZ else a.dq,cq:=if lV k/\k.move.aU=a.id then add a.cq k.move.aZ else a.cq,dp:=if k.fate=1/\k.move.bq=a.id then add a.dp k.move.aZ else a.dp,cp:=if k.fate=1/\k.move.aU=a.id then add a.cp k.move.aZ else a.cp,au:=if nC a.id k then a.au%8+8 else a.au}
def full(l:List bS)(a:bp):bp:=
 {a with dp:=a.dp+S (xD a.id) l,dq:=a.dq+S (zH a.id) l,cp:=a.cp+S (xE a.id) l,cq:=a.cq+S (zJ a.id) l,au:=if S (sf a.id) l=0 then a.au else a.au%8+8}
def Mf(a:bp)(k:bS)(h1:a.dp+xD a.id k<bV)(h2:a.dq+zH a.id k<bV)(h3:a.cp+xE a.id k<bV)(h4:a.cq+zJ a.id k<bV):Oy a k=full [k] a:=by
 have e1:(if k.fate=1/\k.move.bq=a.id then add a.dp k.move.aZ else a.dp)=a.dp+S (xD a.id) [k]:=by
  rw[pq,vT];unfold xD at h1⊢;by_cases h:k.fate=1/\k.move.bq=a.id
  ·rw[aj h] at h1⊢;rw[aj h];unfold add;rw[aj h1];omega
  ·rw[ah h,ah h];rfl
 have e2:(if lV k/\k.move.bq=a.id then add a.dq k.move.aZ else a.dq)=a.dq+S (zH a.id) [k]:=by
  rw[pq,vT];unfold zH at h2⊢;by_cases h:lV k/\k.move.bq=a.id
  ·rw[aj h] at h2⊢;rw[aj h];unfold add;rw[aj h2];omega
  ·rw[ah h,ah h];rfl
 have e3:(if k.fate=1/\k.move.aU=a.id then add a.cp k.move.aZ else a.cp)=a.cp+S (xE a.id) [k]:=by
  rw[pq,vT];unfold xE at h3⊢;by_cases h:k.fate=1/\k.move.aU=a.id
  ·rw[aj h] at h3⊢;rw[aj h];unfold add;rw[aj h3];omega
  ·rw[ah h,ah h];rfl
 have e4:(if lV k/\k.move.aU=a.id then add a.cq k.move.aZ else a.cq)=a.cq+S (zJ a.id) [k]:=by
  rw[pq,vT];unfold zJ at h4⊢;by_cases h:lV k/\k.move.aU=a.id
  ·rw[aj h] at h4⊢;rw[aj h];unfold add;rw[aj h4];omega
  ·rw[ah h,ah h];rfl
 have e5:(if nC a.id k then a.au%8+8 else a.au)=if S (sf a.id) [k]=0 then a.au else a.au%8+8:=by
  rw[pq,vT];unfold sf;by_cases h:nC a.id k
  ·rw[aj h,aj h,ah (by omega)]
  ·rw[ah h,ah h,aj (by omega)]
 unfold Oy full;rw[e1,e2,e3,e4,e5]
def Am(a:bp)(l m:List bS):full m (full l a)=full (l++m) a:=by
 unfold full;dsimp only;simp only[Ql,Nat.add_assoc]
 congr 1
 by_cases h1:S (sf a.id) l=0
 ·rw[aj h1];by_cases h2:S (sf a.id) m=0
  ·rw[aj h2,aj (by omega)]
  ·rw[ah h2,ah (by omega)]
 ·rw[ah h1];by_cases h2:S (sf a.id) m=0
  ·rw[aj h2,ah (by omega)]
  ·rw[ah h2,ah (by omega)];omega
def IS(a:bp):∀(l:List bS),a.dp+S (xD a.id) l<bV->a.dq+S (zH a.id) l<bV->a.cp+S (xE a.id) l<bV->a.cq+S (zJ a.id) l<bV->l.foldl Oy a=full l a:=by
 intro l
 induction l generalizing a with
 |nil=>intros;unfold full;simp[vT]
 |cons k l ih=>
  intro h1 h2 h3 h4;rw[pq] at h1 h2 h3 h4;rw[FB,Mf a k (by omega) (by omega) (by omega) (by omega)];have Cd:(full [k] a).id=a.id:=rfl;have:=ih (full [k] a) (by rw[Cd];show a.dp+S (xD a.id) [k]+_<_;rw[pq,vT];omega) (by rw[Cd];show a.dq+S (zH a.id) [k]+_<_;rw[pq,vT];omega)
   (by rw[Cd];show a.cp+S (xE a.id) [k]+_<_;rw[pq,vT];omega) (by rw[Cd];show a.cq+S (zJ a.id) [k]+_<_;rw[pq,vT];omega)
  rw[this,Am];rfl
end Go.Md
namespace Go.Up
open Go.Sep Go.Den Go.RowKit Go.Prog Go.Md
instance{a b:Value}{n:Nat}:Wr [a,b] 0 (nm n) (nm n):=⟨rfl,aC _,λv h=>by simp[nm] at h;rcases h with rfl|rfl<;>rfl⟩
instance{m n:Nat}:Wr (nm m) 0 (nm n) (nm n):=⟨rfl,aC _,λv h=>by simp[nm] at h;rcases h with rfl|rfl<;>rfl⟩
instance{a b:Value}{k k':IntKind}{x y:Int}:Wr [a,b] 0 [.int k x,.int k' y] [.int k x,.int k' y]:=⟨rfl,aC _,λv h=>by simp at h;rcases h with rfl|rfl<;>rfl⟩
instance{n:Nat}{k k':IntKind}{x y:Int}:Wr (nm n) 0 [.int k x,.int k' y] [.int k x,.int k' y]:=⟨rfl,aC _,λv h=>by simp at h;rcases h with rfl|rfl<;>rfl⟩
section
variable {W:World} {L:LH} {K:VK} {a b n:Nat}
def rX(h:T W L (K (.b (decide (n=0))))):T W L (fF (nm n) K):=by
 unfold fF;apply ws;intros;exact T.dp h
def VO{x y c:Int}(h1:(0<=x/\0<=y)/\0<=c/\c<=1)(h:T W L (K (.tuple ⟨[.u ((x+y+c)%18446744073709551616),.u ((x+y+c)/18446744073709551616)]⟩))):T W L (ov x y c K):=dv h1 h
def NZ{x y c:Int}(h1:(0<=x/\0<=y/\y<18446744073709551616)/\0<=c/\c<=1)(h:T W L (K (.tuple ⟨[.u ((x-y-c)%18446744073709551616),.u (if x<y+c then 1 else 0)]⟩))):T W L (ou x y c K):=dv h1 h
def MT(h:T W L (K (.i (if a=b then 0 else if a<b then-1 else 1)))):T W L (qT (nm a) (nm b) K):=by
 unfold qT
 repeat' first|apply ws;intros|apply wb|apply dz<;>intro h1
 all_goals (apply T.fin (T.dp h);simp only[decide_eq_true_eq,decide_eq_false_iff_not,beq_iff_eq,beq_eq_false_iff_ne,ne_eq] at *;congr 1;split<;>(try split)<;>omega)
def zW(h:T W L (K (.b (decide (a<b))))):T W L (oD (nm a) (nm b) K):=by
 unfold oD
 repeat' first|apply ws;intros|apply wb|refine MT ?_
 apply T.fin (T.dp h)
 congr 1
 simp only[decide_eq_decide];split<;>(try split)<;>omega
def Vh(h:T W L (K (.agg ⟨nm (min a b)⟩))):T W L (u6 (nm a) (nm b) K):=by
 unfold u6
 repeat' first|apply ws;intros|apply wb|first|refine zW ?_|apply dz<;>intro h1
 all_goals (apply T.fin (T.dp h);simp only[decide_eq_true_eq,decide_eq_false_iff_not] at h1;congr 3;omega)
def OR{x y:Int}(n:Nat)(h1:x=((n/18446744073709551616:Nat):Int))(h2:y=((n%18446744073709551616:Nat):Int)):[Value.int .u64 x,Value.int .u64 y]=nm n:=by rw[h1,h2];rfl
abbrev Fa(a b:Nat):Value:=.tuple ⟨[.agg ⟨nm (if a+b<bV then a+b else 0)⟩,.b (decide (a+b<bV))]⟩
abbrev VQ(a b:Nat):Value:=.tuple ⟨[.agg ⟨nm (if a<b then 0 else a-b)⟩,.b (decide (b<=a))]⟩
def vV(ha:a<bV)(hb:b<bV)(h:T W L (K (Fa a b))):T W L (kk (nm a) (nm b) K):=by
 unfold bV at ha hb;unfold kk
 repeat' first|apply ws;intros|apply wb|first|refine VO (by omega) ?_|apply dz<;>intro h1
 all_goals
  apply T.fin (T.dp h);simp only[mz,ne_eq,bne_eq_false_iff_eq] at h1;unfold Fa bV
 ·rw[ah (by omega),ay (by omega)];rfl
 ·rw[aj (by omega),aA (by omega),OR (a+b) (by omega) (by omega)]
def KR(ha:a<bV)(hb:b<bV)(h:T W L (K (VQ a b))):T W L (kX (nm a) (nm b) K):=by
 unfold bV at ha hb;unfold kX
 repeat' first|apply ws;intros|apply wb|first|refine zW ?_|refine NZ (by omega) ?_|refine NZ (by split<;>omega) ?_|apply dz<;>intro h1
 all_goals
  apply T.fin (T.dp h);simp only[decide_eq_true_eq,decide_eq_false_iff_not] at h1;unfold VQ
 ·rw[aj h1,ay (by omega)];rfl
 ·rw[ah h1,aA (by omega),OR (a-b) (by split<;>omega) (by omega)]
end
end Go.Up
namespace Go.Sep
open Go.Den Go.RowKit Go.Prog Go.bE
def OH{s:BA}(h:s.size<=128):(ba.pad s).size=128:=by
 unfold ba.pad;rw[ByteArray.size_append,ry];omega
def Wj(n:Int):(ba.new n).Ok:=by
 have hn:0<=min2 (max2 n 0) 4096/\min2 (max2 n 0) 4096<=4096:=by unfold min2 max2;split<;>split<;>omega
 refine⟨λs hs=>?_,λp hp=>?_,?_,?_⟩
 ·simp only[ba.new,List.mem_replicate] at hs;rw[hs.2];exact ry 128
 ·simp[ba.new] at hp
 ·simp only[ba.new,gi];omega
 ·simp[ba.new]
def s8(D:ba)(i:Int)(s:BA):(D.write i s).1.safe=D.safe/\(D.write i s).1.later.length<=D.later.length+1:=by
 unfold ba.write;split
 ·exact⟨rfl,by simp⟩
 ·split
  ·exact⟨rfl,by simp[ba.tick]⟩
  ·exact⟨rfl,by simp⟩
def FD{D:ba}(h:D.Ok)(i:Int)(s:BA)(hl:D.later.length+1<1099511627776):(D.write i s).1.Ok:=by
 have h2:=s8 D i s;refine⟨by rw[h2.1];exact h.safe,?_,by rw[h2.1];exact h.oK,by omega⟩;rw[h2.1];unfold ba.write;split
 ·exact h.later
 ·rename_i hg;split
  ·exact h.later
  ·intro p hp;simp only[dG,fO] at hp;rcases hp with hp|hp
   ·exact h.later p hp
   ·subst hp;have L8:D.is i:=by
     by_cases hh:D.is i
     ·exact hh
     ·exact aR (.inl hh) hg
    have QQ: ¬128<s.size:=λhh=>hg (.inr hh);exact⟨OH (by omega),L8.1,L8.2⟩
def Da{later:List (Int×BA)}:∀{safe:List BA},(∀s∈safe,s.size=128)->(∀p∈later,p.2.size=128)->∀s∈later.foldl ba.put safe,s.size=128:=by
 induction later with
 |nil=>exact λhs _=>hs
 |cons p l ih=>
  intro safe hs hp;rw[FB];refine ih (λs hm=>?_) (λq hq=>hp q (qN _ hq));rcases ru hm with hm|hm
  ·exact hs s hm
  ·rw[hm];exact hp p (mE)
def JK{D:ba}(h:D.Ok):D.sync.1.Ok:=by
 unfold ba.sync;split
 ·exact⟨h.safe,h.later,h.oK,h.less⟩
 ·refine⟨Da h.safe λp hp=>(h.later p hp).1,λp hp=>by simp at hp,?_,by simp⟩;show(D.later.foldl ba.put D.safe).length<=4096;rw[nB];exact h.oK
def Ls{D:ba}(h:D.later=[]){i:Nat}(hi:i<D.safe.length):D.read (i:Int)=(D.safe[i],0):=by
 unfold ba.read;rw[aj ⟨by omega,by omega⟩];simp[ba.now,ba.last,h,hi]
section
variable {W w:World} {L:LH}
end
end Go.Sep
namespace Go.Sep
open Go.Den Go.RowKit Go.ChangeShapes Go.WideShapes
inductive CK where
 |i(k:IntKind)
 |b
 |s
deriving DecidableEq
def CK.is:CK->Value->Prop
 | .i k,v=>∃n,v=.int k n/\(Lit.int k n).wf=true
 | .b,v=>∃x,v=.bool x
 | .s,v=>∃x,v=.string x/\x.size<=reachBytes
def Typed(ks:List CK)(cs:LV)(o:Nat):Prop:=∀j k,ks[j]?=some k->∃v,cs[o+j]?=some v/\k.is v
def pT(P:Program)(f:TypeId->Option (List CK)):Nat->List Field->Option (List CK)
 |_,[]=>some []
 |o,fd::r=>match f fd.type with
  |some a=>if fd.offset=o/\P.cellsOf fd.type=a.length then(pT P f (o+a.length) r).map (a++·) else none
  |none=>none
def flat(P:Program):Nat->TypeId->Option (List CK)
 |0,_=>none
 |n+1,t=>match P.underlying t with
  |some (.int k)=>some [.i k]
  |some .bool=>some [.b]
  |some .string=>some [.s]
  |some (.struct fs)=>pT P (flat P n) 0 fs.toList
  |_=>none
section
variable {H:Type} {enc:TypeId×Value->H} {P:Program} {w:World} {base:Nat} {spare:Nat->Bool} {held:Bool}
def yM{f:TypeId->Option (List CK)}{m:Nat}{cs:LV}
 (hf:∀t ks cs x,f t=some ks->DataW.trod enc P w base spare held m t cs=some x->(∀n∈x.1.weights P t,n<=reachBytes)->Typed ks cs 0):
 ∀(fs:List Field)(o:Nat)(ks:List CK)(xs:List (DataW H×List MemPlace)),pT P f o fs=some ks->
  (∀(i:Nat)(fd:Field),fs[i]?=some fd->DataW.trod enc P w base spare held m fd.type ((cs.drop fd.offset).take (P.cellsOf fd.type))=xs[i]?)->xs.length=fs.length->
  (∀n∈DataW.weightsEach P (fs.map (·.type)) (xs.map (·.1)),n<=reachBytes)->Typed ks cs o
 |[],o,ks,xs,h,_,_,_=>by
  simp only[pT,bj.injEq] at h;subst h;intro j k hj;simp at hj
 |fd::r,o,ks,[],h,hx,hl,hw=>by simp at hl
 |fd::r,o,ks,x::xs,h,hx,hl,hw=>by
  simp only[pT] at h;cases ha:f fd.type with
  |none=>simp[ha] at h
  |some a=>
   simp only[ha] at h;split at h
   ·rename_i hc;cases hb:pT P f (o+a.length) r with
    |none=>simp[hb] at h
    |some b=>
     simp only[hb,dN,bj.injEq] at h;subst h;simp only[fq,DataW.weightsEach,dG] at hw;have h1:=hf fd.type a _ x ha (by have:=hx 0 fd rfl;simpa using this) (λn hn=>hw n (.inl hn));have h2:=yM hf r (o+a.length) b xs hb (λi g hg=>by have:=hx (i+1) g (by simpa using hg);simpa using this) (by simpa using hl) (λn hn=>hw n (.inr hn));intro j k hj;by_cases WT:j<a.length
     ·rw[bM WT] at hj;obtain⟨v,hv,hk⟩:=h1 j k hj;refine⟨v,?_,hk⟩;rw[hc.1,hc.2,az,List.getElem?_take_of_lt WT,px] at hv;exact hv
     ·rw[jo (by omega)] at hj;obtain⟨v,hv,hk⟩:=h2 (j-a.length) k hj;refine⟨v,?_,hk⟩;rw[show o+j=o+a.length+(j-a.length) from by omega];exact hv
   ·cases h
def xm:∀(f:Nat)(m:Nat)(t:TypeId)(ks:List CK)(cs:LV)(x:DataW H×List MemPlace),flat P f t=some ks->DataW.trod enc P w base spare held m t cs=some x->
 (∀n∈x.1.weights P t,n<=reachBytes)->Typed ks cs 0
 |0,_,_,_,_,_,h,_,_=>by simp[flat] at h
 |f+1,m,t,ks,cs,x,h,hx,hw=>by
  unfold flat at h;split at h
  ·rename_i k ht;cases h
   obtain⟨n,rfl,rfl,hwf⟩:=DataW.trod_int ht hx;intro j k' hj;cases j with
   |zero=>simp at hj;subst hj;exact⟨_,rfl,n,rfl,hwf⟩
   |succ j=>simp at hj
  ·rename_i ht;cases h
   obtain⟨n,rfl,rfl⟩:=DataW.trod_bool ht hx;intro j k' hj;cases j with
   |zero=>simp at hj;subst hj;exact⟨_,rfl,n,rfl⟩
   |succ j=>simp at hj
  ·rename_i ht;cases h
   obtain⟨n,rfl,rfl,_⟩:=DataW.trod_string ht hx;intro j k' hj;cases j with
   |zero=>simp at hj;subst hj;exact⟨_,rfl,n,rfl,by have:=hw n.data.toList.length (by simp[DataW.weights]);simpa using this⟩
   |succ j=>simp at hj
  ·rename_i fs ht;obtain⟨xs,n,rfl,rfl,hl,hlen,hf⟩:=DataW.trod_struct ht hx;refine yM (m:=n) (λt ks cs x h1 h2 h3=>xm f n t ks cs x h1 h2 h3) fs.toList 0 ks xs h (λi fd hi=>hf i fd (by simpa using hi)) (by simpa using hlen) (λn hn=>hw n ?_);simp only[DataW.weights,ht];exact hn
  ·cases h
def Qx(ks:List CK)(n:Nat)(xs:LV):Prop:=∀i,i<n->Typed ks xs (i* ks.length)
def u7{e:TypeId}:∀{ds:List (DataW H)} {d:DataW H},d∈ds->∀n∈d.weights P e,n∈DataW.weightsAll P e ds
 |[],d,h,_,_=>by simp at h
 |d0::ds,d,h,n,hn=>by
  simp only[DataW.weightsAll,dG];rcases gK.1 h with h|h
  ·subst h;exact .inl hn
  ·exact .inr (u7 h n hn)
def DF{t:TypeId}{fs:Array Field}{f:Nat}{ks:List CK}{v:Value}{r:Reach}{b0:Nat}{d:DataW H}{ps:List MemPlace}(ht:P.underlying t=some (.struct fs))(he:flat P f t=some ks)(hc:P.cellsOf t=ks.length)
 (uW:Value.okWide P w r b0 t v)(hd:DataW.Trod enc P w base spare held t v d ps)(hw:∀n∈d.weights P t,n<=reachBytes):
 ∃cs:LV,v=.agg ⟨cs⟩/\cs.length=ks.length/\Typed ks cs 0:=by
 obtain⟨cs,rfl,hl⟩:=okWide_struct ht uW;obtain⟨m,hm⟩:=hd;refine⟨cs.toList,rfl,by simp[hl,hc],?_⟩;exact xm f m t ks cs.toList _ he (by simpa [Value.cells] using hm) hw
def IY{α:Type}{ks:List CK}{n:Nat}{xs:LV}(f:α->LV)(q:α->Prop)(hf:∀a,(f a).length=ks.length)
 (dec:∀o,Typed ks xs o->∃a,q a/\∀j,j<ks.length->xs[o+j]?=(f a)[j]?)(he:Qx ks n xs)(hl:xs.length=n* ks.length):∃l:List α,l.length=n/\xs=l.flatMap f/\∀a∈l,q a:=by
 have key:∀m,m<=n->∃l:List α,l.length=m/\xs.take (m* ks.length)=l.flatMap f/\∀a∈l,q a:=by
  intro m
  induction m with
  |zero=>exact λ_=>⟨[],rfl,by simp,by simp⟩
  |succ m ih=>
   intro hm;obtain⟨l,h1,h2,h3⟩:=ih (by omega);obtain⟨a,ha,hc⟩:=dec _ (he m (by omega));refine⟨l++[a],by simp[h1],?_,λb hb=>?_⟩
   ·rw[fC,<-h2,lq,Nat.one_mul,List.take_add]
    congr 1
    simp only[eP,List.flatMap_nil,bN];apply jq;intro j;by_cases hj:j<ks.length
    ·rw[List.getElem?_take_of_lt hj,px];exact hc j hj
    ·have h5:ks.length<=j:=by omega
     rw[gj (by simp;omega),gj (by rw[hf];exact h5)]
   ·rcases dG.1 hb with hb|hb
    ·exact h3 b hb
    ·simp at hb;subst hb;exact ha
 obtain⟨l,h1,h2,h3⟩:=key n (aC n);rw[bg (by omega)] at h2;exact⟨l,h1,h2,h3⟩
def Below.trodAll(hl:laidOutB P=true){W W':World}(hb:Below W.heap.size W W'):
 ∀{ts:List TypeId} {vs:LV} {ds:List (DataW H)} {ps:List MemPlace},ts.all (λt=>P.readableRec t&&decide (t<P.types.size))=true->
 DataW.TrodAll enc P W 0 (λ_=>true) true ts vs ds ps->DataW.TrodAll enc P W' 0 (λb=>decide (b<W.heap.size)) true ts vs ds ps
 |[],vs,ds,ps,_,h=>by
  cases vs<;>cases ds<;>simp[DataW.TrodAll] at h⊢
  exact h
 |t::ts,vs,ds,ps,hr,h=>by
  simp only[List.all_cons,cY,decide_eq_true_eq] at hr;have bW:=DataW.TrodAll.lt h;obtain⟨v,CN,d,ds',p,q,rfl,rfl,rfl,h1,h2⟩:=trodAll_cons h;exact⟨p,q,Go.RowKit.Below.trod hl hr.1.1 hr.1.2 h1 hb (λx hx=>bW x (by simp[hx])),Below.trodAll hl hb hr.2 h2,rfl⟩
end
end Go.Sep
namespace Go.Sep
open Go.Den Go.RowKit Go.Prog Go.bE
def fI{z ys:LV}(h:ys.length=z.length):over z 0 ys=ys:=by
 unfold over;rw[qM,dm,az,eH (by omega),bN]
section
variable {W w:World} {L:LH} {b:OA} {n e:Nat} {xs:LV}
end
section
variable {W w:World} {L:LH}
end
namespace Dk
variable {D:Go.bE.ba}
open Go.bE.ba (last put pad)
def Pw(h:D.arm=0):D.yO=false:=by simp[Go.bE.ba.yO,h]
def TB(h:D.arm=0):D.tick.arm=0:=by simp[Go.bE.ba.tick,h]
def Ek(h:D.arm=0)(i:Int)(s:BA):D.write i s=if ¬D.is i\/128<s.size then(D,1) else({Go.bE.ba.tick D with later:=D.later++[(i,pad s)]},0):=by
 unfold Go.bE.ba.write;rw[Pw h];rfl
def Bo(h:D.arm=0)(i:Int)(s:BA):(D.write i s).1.arm=0:=by
 rw[Ek h];split
 ·exact h
 ·exact TB h
def JL(h:D.arm=0):D.sync=({D.tick with safe:=D.later.foldl put D.safe,later:=[]},0):=by
 unfold Go.bE.ba.sync;rw[Pw h];rfl
def sr(l:List (Int×BA))(p:Int×BA)(i:Int):last (l++[p]) i=if p.1=i then some p.2 else last l i:=by
 unfold last;rw[List.reverse_append];simp only[uL,List.reverse_nil,dm,List.singleton_append,List.find?_cons];by_cases h:p.1=i
 ·simp[h]
 ·have:(p.1==i)=false:=by simp[h]
  rw[this,ah h]
def BX(h:D.arm=0)(n i:Int)(s:BA):(D.write n s).1.now i=if(D.is n/\s.size<=128)/\n=i then pad s else D.now i:=by
 rw[Ek h];by_cases hw: ¬D.is n\/128<s.size
 ·rw[aj hw,ah];rintro⟨⟨h1,h2⟩,_⟩;rcases hw with hw|hw
  ·exact hw h1
  ·omega
 ·rw[ah hw];have h1:D.is n:=by
   by_cases hh:D.is n
   ·exact hh
   ·exact aR (.inl hh) hw
  have h2:s.size<=128:=by
   by_cases hh:s.size<=128
   ·exact hh
   ·exact aR (.inr (by omega)) hw
  simp only[Go.bE.ba.now,Go.bE.ba.tick,sr];by_cases hni:n=i
  ·rw[aj hni,aj ⟨⟨h1,h2⟩,hni⟩];rfl
  ·rw[ah hni,ah (λhh=>hni hh.2)]
def wo(l:List (Int×BA))(p:Int×BA)(i:Int):last (p::l) i=(last l i).or (if p.1=i then some p.2 else none):=by
 unfold last;rw[uL,List.find?_append];by_cases h:p.1=i
 ·cases List.find? (λp=>p.1==i) l.reverse<;>simp[h]
 ·have:(p.1==i)=false:=by simp[h]
  cases List.find? (λp=>p.1==i) l.reverse<;>simp[h,this]
def Db{i:Int}(hi:0<=i):∀(l:List (Int×BA))(safe:List BA),i<safe.length->(∀p∈l,0<=p.1)->(l.foldl put safe).getD i.toNat .empty=(last l i).getD (safe.getD i.toNat .empty):=by
 intro l
 induction l with
 |nil=>intro safe _ _;rfl
 |cons p l ih=>
  intro safe hs hp;rw[FB,wo,ih _ (by simp[put];exact hs) (λq hq=>hp q (qN _ hq))];have hp0:=hp p (by simp);have hlen:i.toNat<safe.length:=by omega
  have e:(put safe p).getD i.toNat .empty=if p.1=i then p.2 else safe.getD i.toNat .empty:=by
   unfold put;by_cases R4:p.1=i
   ·rw[aj R4,R4,List.getD_eq_getElem?_getD,List.getElem?_set_self hlen];rfl
   ·rw[ah R4,List.getD_eq_getElem?_getD,List.getElem?_set_ne (by omega),<-List.getD_eq_getElem?_getD]
  rw[e];cases last l i with
  |some x=>rfl
  |none=>by_cases R4:p.1=i<;>simp[R4]
def LJ(h:D.arm=0)(iw:D.Ok){i:Int}(hi:D.is i):D.sync.1.now i=D.now i:=by
 rw[JL h];have:=Db hi.1 D.later D.safe hi.2 (λp hp=>(iw.later p hp).2.1);simp only[Go.bE.ba.now,last,List.reverse_nil,List.find?_nil,Option.map_none,eV];exact this
def FX:D.sync.1.safe.length=D.safe.length/\D.sync.1.later.length<=D.later.length:=by
 unfold Go.bE.ba.sync;split
 ·exact⟨rfl,aC _⟩
 ·exact⟨nB _ _,aL _⟩
def K3(h:D.arm=0):D.sync.1.arm=0:=by rw[JL h];exact TB h
end Dk
end Go.Sep
namespace Go.Sep
open Go.Den Go.RowKit Go.Prog Go.bE
def bs(l:List UInt8):BA:=⟨l.toArray⟩
def bn(l:List UInt8):(bs l).size=l.length:=rfl
def KE(s:BA):bs s.data.toList=s:=rfl
def og(x:UInt8):Value:=.int .u8 (x.toNat:Int)
def byteOf(k:IntKind)(n:Int)(i:Nat):UInt8:=UInt8.ofNat (IntKind.u8.wrap (shr k n (8* (i:Int)))).toNat
def le(k:IntKind)(w:Nat)(n:Int):List UInt8:=(mD w).map (byteOf k n)
def aJ(k:IntKind)(w:Nat)(n:Int):(le k w n).length=w:=by simp[le]
def tV(n:Int):0<=IntKind.u8.wrap n/\IntKind.u8.wrap n<256:=by
 simp[IntKind.wrap,IntKind.bits,IntKind.signed];omega
def td{n:Int}(h:0<=n/\n<256):og (UInt8.ofNat n.toNat)=.int .u8 n:=by
 unfold og
 congr 1
 have:n.toNat<256:=by omega
 rw[UInt8.toNat_ofNat_of_lt' (by exact this)];omega
def Av(l:List UInt8):bytesOf (l.map og)=l:=by
 unfold bytesOf;rw[y6]
 conv=>rhs;rw[<-List.map_id l]
 refine od λx _=>?_;simp[og]
def strCells_eq(s:BA):strCells s=s.data.toList.map og:=rfl
def buf(p:Nat)(l:List UInt8):HP:=Py λ(v:OA×Nat)=>sep (pt p [.l v.1 l.length v.2]) (own v.1 l.length v.2 1 (l.map og))
section
variable {W w:World} {L:LH} {k p:Nat} {l:List UInt8}
def Cw(h:St W w L)(hk:L[k]?=some (buf p l)):∃b c,St W w (pt p [.l b l.length c]::own b l.length c 1 (l.map og)::L.eraseIdx k):=by
 obtain⟨⟨b,c⟩,h1⟩:=(h.focus hk).ex;exact⟨b,c,h1.split⟩
def rk{b:OA}{c n:Nat}{A:HP}(hk:L[k]?=some A)(hn:n=l.length)(h:St W w (pt p [.l b n c]::own b n c 1 (l.map og)::L.eraseIdx k)):St W w (L.set k (buf p l)):=by
 subst hn;refine St.oS (A:=A) ?_ hk;exact St.nT (b,c) (St.join h)
def SX{b:OA}{n c:Nat}{K:BA->WK}(h:St W w L)(hk:L[k]?=some (own b n c 1 (l.map og)))(hK:K (bs l) w):Np b n K w:=by
 have hl:=(h.k8 hk).1;rw[cu,mQ] at hl;have xj:=KS h hk;refine⟨λhb=>?_,λa ha=>⟨l.map og,by rw[cu];exact hl,xj.1.2 a ha,λv hv=>?_,?_⟩⟩
 ·have:n=0:=xj.2 hb;have hl0:l=[]:=List.length_eq_zero_iff.1 (by omega);subst hl0;exact hK
 ·obtain⟨x,_,rfl⟩:=dK.1 hv;exact⟨_,rfl⟩
 ·rw[Av];exact hK
def Jj{r n:Nat}{K:BA->WK}(h:St W w L)(hk:L[k]?=some (pt r (l.map og)))(hn:n=l.length)(hK:K (bs l) w):Np (ai r) n K w:=by
 refine⟨λhb=>(by cases hb),λa ha=>⟨l.map og,by rw[cu,hn],?_,λv hv=>?_,?_⟩⟩
 ·cases ha
  exact tO h hk λj v hj=>by rw[az];exact hj
 ·obtain⟨x,_,rfl⟩:=dK.1 hv;exact⟨_,rfl⟩
 ·rw[Av];exact hK
def ia{m n:Int}{K:VK}(h:St W w L)(hk:L[k]?=some (buf p l))(hl:l.length<1099511627776)
 (hK:∀w',St W w' (L.set k (buf p (l++le .i64 (min2 (max2 m 1) 8).toNat n)))->K (.tuple ⟨[]⟩) w'):aQ (ai p) m n K w:=by
 have hm:1<=min2 (max2 m 1) 8/\min2 (max2 m 1) 8<=8:=by unfold min2 max2;split<;>split<;>omega
 unfold aQ;generalize min2 (max2 m 1) 8=q at *;obtain⟨b,c,hs⟩:=Cw h hk;refine⟨λus w'=>∃(j:Nat)(b:OA)(c:Nat),us=[.i q,.i j]/\(j:Int)<=q/\St W w' (pt p [.l b (l++le .i64 j n).length c]::own b (l++le .i64 j n).length c 1 ((l++le .i64 j n).map og)::L.eraseIdx k),
  λus _=>match us with|[_,.int _ j]=>(q-j).toNat|_=>0,⟨0,b,c,rfl,by omega,?_⟩,?_⟩
 ·have e:l++le .i64 0 n=l:=by simp[le]
  rw[e];exact hs
 rintro n3 n4 w2 ⟨j,b,c,he,hj,hs⟩;cases he
 refine dY (λh0=>?_) (λh0=>?_)
 ·refine km hs λw hs=>?_;simp only[nz,ae,af];apply cy (k:=0) hs rfl rfl;simp only[nz,ae,af];have e8:ag.wrap (8* (j:Int))=8* (j:Int):=aS (by omega);rw[e8];refine⟨by omega,?_⟩;have hb8:Value.int .u8 (IntKind.u8.wrap (shr .i64 n (8* (j:Int))))=og (byteOf .i64 n j):=by
   unfold byteOf;rw[td (tV _)]
  rw[hb8];refine gh hs λr w hs=>?_;apply ig (k:=1) hs rfl rfl;have hlen:(l++le .i64 j n).length=l.length+j:=by rw[ak,aJ]
  refine rq (k:=2) (ys:=[og (byteOf .i64 n j)]) hs rfl (CD (k':=0) hs rfl rfl λj v hj=>by rw[az];exact hj) (by simp) rfl (by omega) (by omega) (by simp[Value.oneCell',og]) λb' c' w hs=>?_;simp only[nz,ae,af] at hs⊢;refine mV (k:=1) hs rfl (aH rfl) rfl λw hs=>?_;simp only[nz,ae,af] at hs;have e5:=oe j;rw[e5];refine⟨⟨j+1,b',c',rfl,by omega,?_⟩,by omega⟩;have e6:l++le .i64 (j+1) n=(l++le .i64 j n)++[byteOf .i64 n j]:=by
   unfold le;rw[List.range_succ,cS,aI];rfl
  rw[e6,ak,cS];exact hs.drop
 ·have QP:(j:Int)=q:=by omega
  apply hK _;have:q.toNat=j:=by omega
  rw[this];exact rk hk rfl hs
def oa{s:BA}{K:VK}(h:St W w L)(hk:L[k]?=some (buf p l))(hl:l.length+s.size<1099511627776)
 (hK:∀w',St W w' (L.set k (buf p (l++s.data.toList)))->K (.tuple ⟨[]⟩) w'):iM (ai p) s K w:=by
 unfold iM;obtain⟨b,c,hs⟩:=Cw h hk;simp only[nz,ae,af];apply cy (k:=0) hs rfl rfl;simp only[nz,ae,af];refine Cz (k:=1) hs rfl (by omega) λb' c' w hs=>?_;simp only[nz,ae,af] at hs⊢;refine mV (k:=0) hs rfl (aH rfl) rfl λw hs=>?_;simp only[nz,ae,af] at hs;refine hK w (rk (b:=b') (c:=c') (n:=l.length+s.size) hk (by rw[ak];rfl) ?_);rw[cS,<-strCells_eq];exact hs
def jQ{K:VK}(h:St W w L)(hk:L[k]?=some (buf p l))(hK:K (.s (bs l)) w):cF (ai p) K w:=by
 unfold cF;obtain⟨b,c,hs⟩:=Cw h hk;simp only[nz,ae,af];apply cy (k:=0) hs rfl rfl;simp only[nz,ae,af];exact SX (k:=1) hs rfl hK
def PQ(n:Int):Nat->Int
 |0=>n
 |j+1=>ch .u32 .xor (shr .u32 (PQ n j) 1) (ch .u32 .and 2197175160 (IntKind.u32.wrap (0-(ch .u32 .and (PQ n j) 1))))
def SM(n:Int)(c:UInt8):Int:=PQ (ch .u32 .xor n (IntKind.u32.wrap (c.toNat:Int))) 8
def PO(n:Int)(l:List UInt8):Int:=l.foldl SM n
def qP(n:Int)(l:List UInt8):Int:=ch .u32 .xor 4294967295 (PO (ch .u32 .xor 4294967295 n) l)
def Zh(w w':World):Prop:=w'=w
def Ht{n:Int}{s:BA}{K:VK}(hs:s.size<1099511627776)(hK:K (.int .u32 (qP n s.data.toList)) w):rT n s K w:=by
 unfold rT;refine⟨λus w'=>∃j:Nat,us=[.int .u32 0,.int .u32 (PO (ch .u32 .xor 4294967295 n) (s.data.toList.take j)),.i s.size,.i j]/\j<=s.size/\Zh w w',
  λus _=>match us with|[_,_,_,.int _ j]=>s.size-j.toNat|_=>0,⟨0,rfl,aL _,rfl⟩,?_⟩
 rintro n2 n3 n4 n5 w2 ⟨j,he,hj,hw⟩;obtain rfl:w2=w:=hw;cases he
 have hlen:s.data.toList.length=s.size:=rfl;generalize hb:decide ((j:Int)<(s.size:Int))=b;cases b
 ·have kP:=cD hb;rw[fo];have:j=s.size:=by omega
  subst this;rw[bg (by omega)];exact hK
 ·have bW:=bG hb;rw[jm];have QO:j<s.data.toList.length:=by omega
  refine⟨s.data.toList[j],⟨by omega,by simp[QO]⟩,?_⟩;generalize hc:s.data.toList[j]=c;generalize hx:PO (ch .u32 .xor 4294967295 n) (s.data.toList.take j)=x;refine⟨λus w'=>∃i:Nat,us=[.int .u32 0,.int .u32 (PQ (ch .u32 .xor x (IntKind.u32.wrap (c.toNat:Int))) i),.i j,.i s.size,.i j,.b true,.i j,.int .u32 x,.s s,.i j,.int .u8 (c.toNat:Int),.int .u32 (IntKind.u32.wrap (c.toNat:Int)),.int .u32 (ch .u32 .xor x (IntKind.u32.wrap (c.toNat:Int))),.i i]/\i<=8/\Zh w2 w',
   λus _=>match us with|[_,_,_,_,_,_,_,_,_,_,_,_,_,.int _ i]=>8-i.toNat|_=>0,⟨0,rfl,aL _,rfl⟩,?_⟩
  rintro n6 n7 n8 n9 Wn b1 RJ RI s2 Wm Za Wl vD n17 w4 ⟨i,he,hi,hw⟩;obtain rfl:w4=w2:=hw;cases he
  generalize Kw:decide ((i:Int)<8)=b2;cases b2
  ·have kP:=cD Kw;rw[fo];have hi8:i=8:=by omega
   subst hi8;have e5:=oe j;rw[e5];refine⟨⟨j+1,?_,by omega,rfl⟩,by dsimp only;omega⟩;have e6:PO (ch .u32 .xor 4294967295 n) (s.data.toList.take (j+1))=PQ (ch .u32 .xor x (IntKind.u32.wrap (c.toNat:Int))) 8:=by
    rw[nD QO];unfold PO at hx⊢;rw[List.foldl_append,hx,hc];rfl
   rw[e6]
  ·have ZE:=bG Kw;rw[jm];refine⟨by decide,?_⟩;have e5:=oe i;rw[e5];exact⟨⟨i+1,rfl,by omega,rfl⟩,by dsimp only;omega⟩
def tA(n:Int):List UInt8:=le .u32 4 n
def vR{n:Int}{K:VK}(h:St W w L)(hn:0<=n/\n<4294967296)(hK:∀w',St W w' L->K (.s (bs (tA n))) w'):pk n K w:=by
 unfold pk;refine⟨by decide,by decide,by decide,⟨rfl,rfl,rfl,rfl,trivial⟩,gh h λr w hs=>?_⟩;have e0:Value.int .u8 (IntKind.u8.wrap n)=og (byteOf .u32 n 0):=by
  unfold byteOf;rw[td (tV _)];have:shr .u32 n (8* ((0:Nat):Int))=n:=by simp[shr]
  rw[this]
 have e:∀i:Nat,Value.int .u8 (IntKind.u8.wrap (shr .u32 n (8* (i:Int))))=og (byteOf .u32 n i):=λi=>by
  unfold byteOf;rw[td (tV _)]
 have e1:=e 1;have e2:=e 2;have e3:=e 3;have wT:[Value.int .u8 (IntKind.u8.wrap n),.int .u8 (IntKind.u8.wrap (shr .u32 n 8)),.int .u8 (IntKind.u8.wrap (shr .u32 n 16)),.int .u8 (IntKind.u8.wrap (shr .u32 n 24))]=(tA n).map og:=by
  rw[e0,show(8:Int)=8* ((1:Nat):Int) from rfl,show(16:Int)=8* ((2:Nat):Int) from rfl,show(24:Int)=8* ((3:Nat):Int) from rfl,e1,e2,e3]
  rfl
 rw[wT] at hs;exact Jj (k:=0) hs rfl rfl (hK w hs.drop)
end
def eL(n i:Int)(s:BA):Prop:=1<=n/\n<=1152921504606846976/\0<=i/\i<4096/\s.size<=104
instance(n i:Int)(s:BA):Decidable (eL n i s):=by unfold eL;infer_instance
def pre(n i:Int)(s:BA):List UInt8:=le .i64 8 n++le .i64 2 i++le .i64 2 s.size++s.data.toList++aM (104-s.size) 0
def kL(n i:Int)(s:BA):List UInt8:=pre n i s++tA (qP 0 (pre n i s))++le .i64 8 n
def leaf(n i:Int)(s:BA):BA:=if eL n i s then bs (kL n i s) else .empty
def pO{n i:Int}{s:BA}(h:s.size<=104):(pre n i s).length=116:=by
 have:s.data.toList.length=s.size:=rfl;simp only[pre,ak,aJ,gi];omega
def yE{n i:Int}{s:BA}(h:s.size<=104):(kL n i s).length=128:=by
 simp only[kL,ak,aJ,pO h,tA]
def zy{n i:Int}{s:BA}(h:eL n i s):(leaf n i s).size=128:=by
 unfold leaf;rw[aj h,bn,yE h.2.2.2.2]
def zZ(n:Int):0<=IntKind.u32.wrap n/\IntKind.u32.wrap n<4294967296:=by
 simp[IntKind.wrap,IntKind.bits,IntKind.signed];omega
section
variable {W w:World} {L:LH} {k d:Nat} {D:ba}
def DW{n i:Int}{s:BA}{K:VK}(h:St W w L)(hK:∀w',St W w' L->K (.b (decide (eL n i s))) w'):rE [.i n,.i i,.s s] K w:=by
 unfold rE;refine gh h λr w hs=>?_;have hh:=hK w hs.drop;simp only[nz,ae,af];apply cy (k:=0) hs rfl rfl;simp only[nz,ae,af];refine dY (λh1=>?_) (λh1=>?_)
 ·apply cy (k:=0) hs rfl rfl;simp only[nz,ae,af];refine dY (λh2=>?_) (λh2=>?_)
  ·apply cy (k:=0) hs rfl rfl;simp only[nz,ae,af];refine dY (λh3=>?_) (λh3=>?_)
   ·apply cy (k:=0) hs rfl rfl;simp only[nz,ae,af];refine dY (λh4=>?_) (λh4=>?_)
    ·apply cy (k:=0) hs rfl rfl;simp only[nz,ae,af];have:decide ((s.size:Int)<=104)=decide (eL n i s):=by
      rw[decide_eq_decide];unfold eL;omega
     rw[this];exact hh
    ·have:decide (eL n i s)=false:=ay (by unfold eL;omega);rw[this] at hh;exact hh
   ·have:decide (eL n i s)=false:=ay (by unfold eL;omega);rw[this] at hh;exact hh
  ·have:decide (eL n i s)=false:=ay (by unfold eL;omega);rw[this] at hh;exact hh
 ·have:decide (eL n i s)=false:=ay (by unfold eL;omega);rw[this] at hh;exact hh
def Jt{n i:Int}{s:BA}{K:VK}(h:St W w L)(hK:∀w',St W w' L->K (.tuple ⟨[.s (leaf n i s),.i (if eL n i s then 0 else 1)]⟩) w'):
 oE [.i n,.i i,.s s] K w:=by
 unfold oE;refine gh h λr w hs=>?_;refine gU (k:=0) (xs:=[.i n,.i i,.s s]) hs rfl rfl (λj v hj=>by rw[az];exact hj) ?_;refine DW hs λw hs=>?_;simp only[nz,ae,af];by_cases hg:eL n i s
 ·have oI:=hg.2.2.2.2;have e0:decide (eL n i s)=true:=aA hg;unfold leaf at hK;rw[aj hg,aj hg] at hK;rw[e0];simp only[nz,ae,af];refine gh hs λp w hs=>?_;have hs:St W w (buf p []::pt r [.i n,.i i,.s s]::L):=by
   have h2:=(hs.push (A:=own none 0 0 1 (([]:List UInt8).map og)) (qh 1)).perm (bA.swap _ _ _);exact rk (k:=0) (L:=buf p []::pt r [.i n,.i i,.s s]::L) (A:=buf p []) rfl rfl h2
  have hd:s.data.toList.length=s.size:=rfl;apply cy (k:=1) hs rfl rfl;simp only[nz,ae,af];refine ia (k:=0) hs rfl (by simp) λw hs=>?_;rw[show(min2 (max2 8 1) 8).toNat=8 from rfl] at hs;simp only[nz,ae,af] at hs⊢;apply cy (k:=1) hs rfl rfl;simp only[nz,ae,af];refine ia (k:=0) hs rfl (by simp only[ak,aJ,dH];omega) λw hs=>?_;rw[show(min2 (max2 2 1) 8).toNat=2 from rfl] at hs;simp only[nz,ae,af] at hs⊢;apply cy (k:=1) hs rfl rfl;simp only[nz,ae,af];refine ia (k:=0) hs rfl (by simp only[ak,aJ,dH];omega) λw hs=>?_;rw[show(min2 (max2 2 1) 8).toNat=2 from rfl] at hs;simp only[nz,ae,af] at hs⊢;apply cy (k:=1) hs rfl rfl;simp only[nz,ae,af];refine oa (k:=0) hs rfl (by simp only[ak,aJ,dH];omega) λw hs=>?_;simp only[nz,ae,af] at hs⊢;apply cy (k:=1) hs rfl rfl;simp only[nz,ae,af];have ew:ag.wrap (104-(s.size:Int))=((104-s.size:Nat):Int):=by rw[aS (by omega)];omega
  rw[ew];refine Ax hs (by omega) (by rw[aq];have:(⟨#[0]⟩:BA).size=1:=rfl;rw[this];omega) (by omega) λw hs=>?_;have er:(⟨(BK (⟨#[0]⟩:BA).data.toList (((104-s.size:Nat):Int).toNat)).toArray⟩:BA)=bs (aM (104-s.size) 0):=by
   rw[aq];show bs (BK [0] (104-s.size))=_;rw[BJ]
  rw[er];simp only[nz,ae,af];refine oa (k:=0) hs rfl (by rw[bn];simp only[ak,aJ,dH,gi];omega) λw hs=>?_;simp only[nz,ae,af] at hs⊢;have ep:[]++le .i64 8 n++le .i64 2 i++le .i64 2 s.size++s.data.toList++(bs (aM (104-s.size) 0)).data.toList=pre n i s:=rfl;rw[ep] at hs;apply jQ (k:=0) hs rfl;simp only[nz,ae,af];refine Ht (by rw[bn,pO oI];omega) ?_;simp only[nz,ae,af];refine vR hs (zZ _) λw hs=>?_;simp only[nz,ae,af];refine oa (k:=0) hs rfl (by rw[bn,pO oI];simp only[tA,aJ];omega) λw hs=>?_;simp only[nz,ae,af] at hs⊢;apply cy (k:=1) hs rfl rfl;simp only[nz,ae,af];have ep2:pre n i s++(bs (tA (qP 0 (bs (pre n i s)).data.toList))).data.toList=pre n i s++tA (qP 0 (pre n i s)):=rfl;rw[ep2] at hs;refine ia (k:=0) hs rfl (by simp only[ak,tA,aJ,pO oI];omega) λw hs=>?_;rw[show(min2 (max2 8 1) 8).toNat=8 from rfl] at hs;simp only[nz,ae,af] at hs⊢;apply jQ (k:=0) hs rfl;simp only[nz,ae,af];exact hK w hs.drop.drop
 ·have e0:decide (eL n i s)=false:=ay hg;unfold leaf at hK;rw[ah hg,ah hg] at hK;rw[e0];simp only[nz,ae,af];exact hK w hs.drop
def fX(n:Nat):Nat:=if n=0 then 1 else(n+103)/104
def A8(n:Nat):1<=fX n:=by unfold fX;split<;>omega
def I9{n j:Nat}(hj:1<=j):104* j<n↔j<fX n:=by unfold fX;split<;>omega
def ox{n:Nat}{K:VK}(hn:n<1099511627776000)(hK:K (.i (fX n)) w):jt n K w:=by
 unfold jt;refine⟨by decide,by decide,?_⟩;have e0:max2 (n:Int) 0=n:=by unfold max2;split<;>omega
 have e1:(n:Int).tdiv 104=((n/104:Nat):Int):=by rw[Int.tdiv_eq_ediv_of_nonneg (by omega)];rfl
 have e2:(n:Int).tmod 104=((n%104:Nat):Int):=by rw[Int.tmod_eq_emod_of_nonneg (by omega)];rfl
 rw[e0,e1,e2];have e3:max2 (ag.wrap (ag.wrap ((n/104:Nat):Int)+min2 ((n%104:Nat):Int) 1)) 1=(fX n:Int):=by
  have h1:ag.wrap ((n/104:Nat):Int)=((n/104:Nat):Int):=aS (by omega);rw[h1];have h2:min2 ((n%104:Nat):Int) 1=((min (n%104) 1:Nat):Int):=by unfold min2;split<;>omega
  rw[h2,aS (by omega)];unfold max2 fX;split<;>split<;>omega
 rw[e3];exact hK
end
def oM{x y:BA}(h:x.data.toList=y.data.toList):x=y:=ByteArray.ext (rv h)
def extract_toList(s:BA)(a b:Nat):(s.extract a b).data.toList=(s.data.toList.drop a).take (b-a):=by
 rw[ByteArray.data_extract,Array.toList_extract,List.extract_eq_take_drop]
def fa(s:BA):s.data.toList.length=s.size:=rfl
def part(s:BA)(i:Nat):BA:=s.extract (104* i) (104* (i+1))
def tu(s:BA)(i:Nat):(part s i).size<=104:=by unfold part;rw[vj];omega
def Lp(s:BA)(i m:Nat)(hm:m=min (s.size-104* i) 104):(s.extract (104* i) s.size).extract 0 m=part s i:=by
 apply oM;unfold part;rw[extract_toList,extract_toList,extract_toList,oC,List.take_take,List.take_eq_take_iff,aV,fa];omega
def Lo(s:BA)(i m:Nat)(hm:m=min (s.size-104* i) 104):(s.extract (104* i) s.size).extract m (s.extract (104* i) s.size).size=s.extract (104* (i+1)) s.size:=by
 apply oM;rw[extract_toList,extract_toList,extract_toList,vj];rw[bg (by rw[aV,aG,aV,fa];omega),bg (by rw[aV,fa];omega),bg (by rw[aV,fa];omega),Jv];by_cases h:104<=s.size-104* i
 ·congr 1;omega
 ·rw[eH (by rw[fa];omega),eH (by rw[fa];omega)]
def pP(at' number:Int)(s:BA):ba->Nat->Nat->ba×Int
 |D,_,0=>(D,0)
 |D,i,n+1=>if(D.write (at'+i) (leaf number i (part s i))).2≠0 then D.write (at'+i) (leaf number i (part s i)) else pP at' number s (D.write (at'+i) (leaf number i (part s i))).1 (i+1) n
def lay(D:ba)(at' toX number:Int)(s:BA):ba×Int:=
 if number<1\/1152921504606846976<number\/at'<0\/(D.safe.length:Int)<toX\/toX<at' then(D,1)
 else if toX-at'<(fX s.size:Int) then(D,3) else pP at' number s D 0 (fX s.size)
def A2{at' number:Int}{s:BA}:∀(n i:Nat) {D:ba},D.Ok->D.later.length+n<1099511627776->(pP at' number s D i n).1.Ok/\(pP at' number s D i n).1.safe=D.safe/\(pP at' number s D i n).1.later.length<=D.later.length+n
 |0,i,D,h,hl=>⟨h,rfl,aC _⟩
 |n+1,i,D,h,hl=>by
  have h1:=s8 D (at'+i) (leaf number i (part s i));have h2:=FD h (at'+i) (leaf number i (part s i)) (by omega);unfold pP;split
  ·exact⟨h2,h1.1,by omega⟩
  ·have:=A2 (at':=at') (number:=number) (s:=s) n (i+1) h2 (by omega);exact⟨this.1,this.2.1.trans h1.1,by omega⟩
def EO{D:ba}{at' toX number:Int}{s:BA}(h:D.Ok)(hl:D.later.length+fX s.size<1099511627776):(lay D at' toX number s).1.Ok/\(lay D at' toX number s).1.safe=D.safe:=by
 unfold lay;split
 ·exact⟨h,rfl⟩
 ·split
  ·exact⟨h,rfl⟩
  ·have:=A2 (at':=at') (number:=number) (s:=s) (fX s.size) 0 h hl;exact⟨this.1,this.2.1⟩
section
variable {W w:World} {L:LH} {k d:Nat} {D:ba}
def qF{at' toX number:Int}{s:BA}{b:Bool}{K:VK}(h:St W w L)(hk:L[k]?=some (ft d D))(iw:D.Ok)(hl:D.later.length+4097<1099511627776)(hs:s.size<=reachBytes)
 (hb:b=decide (number<1\/1152921504606846976<number\/at'<0\/(D.safe.length:Int)<toX\/toX<at'))
 (hK:∀w',St W w' (L.set k (ft d (lay D at' toX number s).1))->K (.i (lay D at' toX number s).2) w'):iH.j1 K s toX at' number (ai d) b w:=by
 have oI:s.size<=140737488351232:=hs;have C8:=iw.oK;unfold iH.j1;unfold lay at hK;refine qS (λh1=>?_) (λh1=>?_)
 ·rw[hb] at h1;rw[aj (bG h1)] at hK;apply hK w;rw[kr hk];exact h
 rw[hb] at h1;have zE:=cD h1;rw[ah zE] at hK;apply ox (by omega);simp only[nz,ae,af];have ew:ag.wrap (toX-at')=toX-at':=aS (by omega);rw[ew];refine dY (λh2=>?_) (λh2=>?_)
 ·rw[aj (by omega)] at hK;apply hK w;rw[kr hk];exact h
 rw[ah (by omega)] at hK;have ZZ:fX s.size<=4096:=by omega
 refine⟨λus w'=>∃(j:Nat)(Dj:ba),us=[.s (s.extract (104* j) s.size),.i 0,.i j]/\j<=fX s.size/\Dj.Ok/\Dj.later.length<=D.later.length+j/\pP at' number s D 0 (fX s.size)=pP at' number s Dj j (fX s.size-j)/\St W w' (L.set k (ft d Dj)),
  λus _=>match us with|[_,_,.int _ j]=>fX s.size-j.toNat|_=>0,⟨0,D,?_,aL _,iw,by omega,rfl,by rw[kr hk];exact h⟩,?_⟩
 ·have:s.extract (104* 0) s.size=s:=by rw[Nat.mul_zero];exact ByteArray.extract_zero_size
  rw[this];rfl
 rintro s2 n5 n6 w2 ⟨j,Dj,he,hj,iw,hlj,WQ,hs⟩;cases he
 have wI:(L.set k (ft d Dj))[k]?=some (ft d Dj):=gR hk;have wH:min2 ((s.extract (104* j) s.size).size:Int) 104=((min (s.size-104* j) 104:Nat):Int):=by
  rw[vj];unfold min2;split<;>omega
 have e5:=oe j;have ea:ag.wrap (at'+(j:Int))=at'+j:=aS (by omega);rw[wH,e5,ea,vj];have hex:∀X:WK,X w2->aY (0<=((min (s.size-104* j) 104:Nat):Int)/\((min (s.size-104* j) 104:Nat):Int)<=((min s.size s.size-104* j:Nat):Int)) X w2:=λX hX=>⟨by omega,hX⟩;have step:j<fX s.size->∀w,St W w (L.set k (ft d (Dj.write (at'+j) (leaf number j (part s j))).1))->(Dj.write (at'+j) (leaf number j (part s j))).2≠0->K (.i (Dj.write (at'+j) (leaf number j (part s j))).2) w:=λYp w hs hZ=>by
  have e:pP at' number s Dj j (fX s.size-j)=Dj.write (at'+j) (leaf number j (part s j)):=by
   obtain⟨q,hq⟩:∃q,fX s.size-j=q+1:=⟨fX s.size-j-1,by omega⟩;rw[hq,pP,aj hZ]
  rw[WQ,e] at hK;exact hK w hs
 have fin:j<fX s.size->∀w,St W w (L.set k (ft d (Dj.write (at'+j) (leaf number j (part s j))).1))->(Dj.write (at'+j) (leaf number j (part s j))).2=0->
  ∃(j':Nat)(Tk:ba),[Value.string (s.extract (104* (j+1)) s.size),.i 0,.i ((j+1:Nat):Int)]=[.s (s.extract (104* j') s.size),.i 0,.i j']/\j'<=fX s.size/\Tk.Ok/\Tk.later.length<=D.later.length+j'/\pP at' number s D 0 (fX s.size)=pP at' number s Tk j' (fX s.size-j')/\St W w (L.set k (ft d Tk)):=λYp w hs hz=>by
  have hw:=s8 Dj (at'+j) (leaf number j (part s j));refine⟨j+1,_,rfl,by omega,FD iw _ _ (by omega),by omega,?_,hs⟩;rw[WQ];obtain⟨q,hq⟩:∃q,fX s.size-j=q+1:=⟨fX s.size-j-1,by omega⟩;have hq2:fX s.size-(j+1)=q:=by omega
  rw[hq,hq2,pP,ah (by rw[hz];exact λhh=>hh rfl)]
 have Ca:=A8 s.size;have body:j<fX s.size->iW (s.extract (104* j) s.size) none (some ((min (s.size-104* j) 104:Nat):Int)) (λs3=>
  aY True (
  oE [.i number,.i j,.s s3] (x2 λv1 v2=>(xS λs4=>
  (xI .i64 λn7=>
  dA (ai d) (at'+j) s4 (xI .i64 λn8=>
  br (n8 !=0) (
  K (.i n8)) (
  iW (s.extract (104* j) s.size) (some ((min (s.size-104* j) 104:Nat):Int)) none (λs5=>λw3=>
   (∃(j':Nat)(Tk:ba),[Value.string s5,.i 0,.i ((j+1:Nat):Int)]=[.s (s.extract (104* j') s.size),.i 0,.i j']/\j'<=fX s.size/\Tk.Ok/\Tk.later.length<=D.later.length+j'/\pP at' number s D 0 (fX s.size)=pP at' number s Tk j' (fX s.size-j')/\St W w3 (L.set k (ft d Tk)))/\
   fX s.size-((j+1:Nat):Int).toNat<fX s.size-((j:Nat):Int).toNat)))) v2) v1))) w2:=λYp=>by
  unfold iW;dsimp only;refine⟨⟨by omega,by rw[vj];omega⟩,trivial,?_⟩;rw[aq,Lp s j _ rfl];refine Jt hs λw hs=>?_;simp only[nz,ae,af];refine AP hs wI iw λw hs=>?_;rw[gW] at hs;simp only[nz,ae,af];refine rU (λhZ=>?_) (λhz=>?_)
  ·exact step Yp w hs hZ
  ·refine⟨⟨by omega,by rw[vj];omega⟩,?_⟩;rw[Lo s j _ rfl];exact⟨fin Yp w hs hz,by omega⟩
 refine Hj (λhj0=>body (by omega)) (λhj0=>?_);refine dY (λKt=>?_) (λhle=>?_)
 ·have hc:=I9 (n:=s.size) (j:=j) (by omega);exact body (by omega)
 ·have hc:=I9 (n:=s.size) (j:=j) (by omega);have Yp:j=fX s.size:=by omega
  have e:pP at' number s Dj j (fX s.size-j)=(Dj,0):=by rw[Yp,sH];rfl
  rw[WQ,e] at hK;exact hK _ hs
def CI{at' toX number:Int}{s:BA}{K:VK}(h:St W w L)(hk:L[k]?=some (ft d D))(iw:D.Ok)(hl:D.later.length+4097<1099511627776)(hs:s.size<=reachBytes)
 (hK:∀w',St W w' (L.set k (ft d (lay D at' toX number s).1))->K (.i (lay D at' toX number s).2) w'):iH (ai d) at' toX number s K w:=by
 unfold iH;refine dY (λh1=>?_) (λh1=>?_)
 ·exact qF h hk iw hl hs (by symm;rw[decide_eq_true_eq];exact .inl h1) hK
 refine dY (λh2=>?_) (λh2=>?_)
 ·exact qF h hk iw hl hs (by symm;rw[decide_eq_true_eq];exact .inr (.inl h2)) hK
 refine dY (λh3=>?_) (λh3=>?_)
 ·exact qF h hk iw hl hs (by symm;rw[decide_eq_true_eq];exact .inr (.inr (.inl h3))) hK
 apply kG h hk;simp only[nz,ae,af];refine dY (λh4=>?_) (λh4=>?_)
 ·exact qF h hk iw hl hs (by symm;rw[decide_eq_true_eq];exact .inr (.inr (.inr (.inl h4)))) hK
 ·refine qF h hk iw hl hs ?_ hK;rw[decide_eq_decide];omega
end
section
variable {W w:World} {L:LH} {k:Nat}
def Ak(w:World)(a:Addr)(n j:Nat)(hj:j≠a.block):(w.freeze a n).heap[j]?=w.heap[j]?:=by
 unfold World.freeze;split
 ·rfl
 ·simp only[Array.getElem?_modify];rw[ah (λh=>hj h.symm)]
def VY{s:BA}{K:Nat->Nat->WK}(h:St W w L)(hK:∀r c w',St W w' (own (ai r) s.size c 1 (s.data.toList.map og)::L)->K r c w'):s2b s K w:=by
 intro c t hc;have h1:=h.drew.new ((s.data.toList.map og)++aM (c-s.size) (.int .u8 0)) t;have oI:s.data.toList.length=s.size:=rfl;have Xf:((strCells s).toArray++gw (c-s.size) (.int .u8 0):Array Value)=⟨(s.data.toList.map og)++aM (c-s.size) (.int .u8 0)⟩:=by
  apply rv;rw[Array.toList_append,Array.toList_replicate]
  rfl
 rw[Xf];generalize QR:(s.data.toList.map og)++aM (c-s.size) (Value.int .u8 0)=cs at *;have hlen:cs.length=c:=by rw[<-QR];simp;omega
 have hhp:(w.drew.alloc (.cells ⟨cs⟩ t)).heap[w.heap.size]?=some (.cells ⟨cs⟩ t):=by
  show(w.heap.push (.cells ⟨cs⟩ t))[w.heap.size]?=_;rw[Array.getElem?_push_size]
 have Ah:view ((w.drew.alloc (.cells ⟨cs⟩ t)).freeze ⟨w.heap.size,c,none⟩ 1) w.heap.size=some (.cells cs):=by
  unfold view World.freeze;rw[ah (by decide)];simp only[Array.getElem?_modify,hhp];simp[hlen]
 have hb:=h1.1;have h2:=h1.bB (k:=0) rfl (w':=(w.drew.alloc (.cells ⟨cs⟩ t)).freeze ⟨w.heap.size,c,none⟩ 1) ?_ Ah (λj hj _=>Ak _ _ _ _ hj)
 ·apply hK _ _ _;refine St.mono (A:=pt w.heap.size cs) h2 λg hp=>⟨by rw[cu];omega,.inr ⟨_,aM (c-s.size) (.int .u8 0),rfl,hc,by simp,?_⟩⟩;rw[QR];exact hp
 ·refine⟨?_,?_,?_,?_,λj hj=>?_⟩
  ·unfold World.freeze;rw[ah (by decide)];exact hb.os
  ·unfold World.freeze;rw[ah (by decide)];exact hb.tape
  ·unfold World.freeze;rw[ah (by decide)];exact hb.output
  ·unfold World.freeze;rw[ah (by decide)];simp only[Array.size_modify];exact hb.size
  ·rw[Ak _ _ _ _ (by have:=h.1.size;simp only;omega)];exact hb.block j hj
def AD(r:Nat)(s:BA)(t:Bool):HP:=pt r [.s s,.b t]
def pB(s:BA)(t:Bool)(n:Int):Bool:=t||decide (n<0\/(s.size:Int)<n)
def vy(s:BA)(t:Bool)(n:Int):BA:=if pB s t n then .empty else s.extract 0 n.toNat
def AE(s:BA)(t:Bool)(n:Int):BA:=if pB s t n then s else s.extract n.toNat s.size
def pK{s:BA}{K:VK}(h:St W w L)(hK:∀r w',St W w' (AD r s false::L)->K (.p (ai r)) w'):kY s K w:=by
 unfold kY;exact⟨⟨rfl,trivial⟩,gh h λr w hs=>hK r w hs⟩
def CF{r:Nat}{s:BA}{t:Bool}{n:Int}{K:VK}(h:St W w L)(hk:L[k]?=some (AD r s t))(hK:∀w',St W w' (L.set k (AD r (AE s t n) (pB s t n)))->K (.s (vy s t n)) w'):dy (ai r) n K w:=by
 unfold dy;unfold AD at hk;simp only[nz,ae,af];apply cy hk (h:=h) rfl;simp only[nz,ae,af];have bad:pB s t n=true->∀w',St W w' (L.set k (pt r [.s s,.b true]))->K (.s .empty) w':=λhb w' hs=>by
  have:=hK w';unfold AE vy at this;rw[aj hb,aj hb,hb] at this;exact this hs
 refine qS (λht=>?_) (λht=>?_)
 ·refine mV h hk (aH rfl) rfl λw hs=>?_;apply cy hs (gR hk) rfl;simp only[nz,ae,af] at hs⊢;exact bad (by simp[pB,ht]) w hs
 refine dY (λhn=>?_) (λhn=>?_)
 ·refine mV h hk (aH rfl) rfl λw hs=>?_;apply cy hs (gR hk) rfl;simp only[nz,ae,af] at hs⊢;exact bad (by simp[pB,hn]) w hs
 apply cy h hk rfl;simp only[nz,ae,af];refine mV h hk (aH rfl) rfl λw hs=>?_;apply cy hs (gR hk) rfl;simp only[nz,ae,af] at hs⊢;refine dY (λKt=>?_) (λKt=>?_)
 ·have:decide (n>(s.size:Int))=true:=aA Kt;rw[this] at hs;exact bad (by simp[pB];omega) w hs
 ·have e:decide (n>(s.size:Int))=false:=ay Kt;rw[e] at hs;have hb:pB s t n=false:=by
   unfold pB;rw[ht,ay (by omega)];rfl
  have:=hK;unfold AE vy at this;rw[ah (by rw[hb];exact py),ah (by rw[hb];exact py),hb] at this;unfold dy.j1;simp only[nz,ae,af];apply cy hs (gR hk) rfl;unfold iW;simp only[nz,ae,af];refine⟨by omega,?_⟩;apply cy hs (gR hk) rfl;simp only[nz,ae,af];refine⟨by omega,?_⟩;refine mV hs (gR hk) (aH rfl) rfl λw hs=>?_;rw[gW] at hs;exact this w hs
def ka:List UInt8->Nat
 |[]=>0
 |c::r=>c.toNat+256* ka r
def pZ:∀l:List UInt8,ka l<256^l.length
 |[]=>by simp[ka]
 |c::r=>by
  have:=pZ r;have hc:=c.toNat_lt;simp only[ka,bw,Nat.pow_succ];omega
def mT:∀(l:List UInt8)(c:UInt8),ka (l++[c])=ka l+c.toNat* 256^l.length
 |[],c=>by simp[ka]
 |d::r,c=>by
  simp only[fE,ka,mT r c,bw,Nat.pow_succ];rw[Nat.mul_add,Nat.add_assoc]
  congr 2
  rw[Nat.mul_comm 256,Nat.mul_assoc]
def yw(z:Int):BitVec.ofInt 64 (ag.wrap z)=BitVec.ofInt 64 z:=by
 apply BitVec.eq_of_toNat_eq;simp only[BitVec.toNat_ofInt];simp[IntKind.wrap,IntKind.bits,IntKind.signed];split<;>omega
def Ry{A j:Nat}{c:UInt8}(hj:j<8)(hA:A<256^j):ch .i64 .or (ag.wrap A) (shl .i64 (ag.wrap (c.toNat:Int)) (8* (j:Int)))=ag.wrap ((A+c.toNat* 256^j:Nat):Int):=by
 have hc:=c.toNat_lt;have L1:256^j=2^(8* j):=by rw[show(256:Nat)=2^8 from rfl,<-Nat.pow_mul]
 have adm:c.toNat* 2^(8* j)<2^64:=by
  have h1:c.toNat* 2^(8* j)<2^8* 2^(8* j):=Nat.mul_lt_mul_of_pos_right (by exact hc) (Nat.pow_pos (by decide));rw[<-Nat.pow_add] at h1;exact Nat.lt_of_lt_of_le h1 (ja (by decide) (by omega))
 have agD:A<2^64:=by
  rw[L1] at hA;exact Nat.lt_of_lt_of_le hA (ja (by decide) (by omega))
 have ew:ag.wrap (c.toNat:Int)=(c.toNat:Int):=aS (by omega);have esh:shl .i64 (c.toNat:Int) (8* (j:Int))=ag.wrap ((c.toNat* 2^(8* j):Nat):Int):=by
  unfold shl;have h1:(8* (j:Int)).toNat=8* j:=by omega
  have h2:min (8* j) ag.bits=8* j:=by show min (8* j) 64=_;omega
  rw[h1,h2]
  congr 1
 rw[ew,esh];show ag.wrap (((BitVec.ofInt 64 (ag.wrap A)|||BitVec.ofInt 64 (ag.wrap ((c.toNat* 2^(8* j):Nat):Int))).toNat:Nat):Int)=_;rw[yw,yw,BitVec.toNat_or];have t1:(BitVec.ofInt 64 (A:Int)).toNat=A:=by simp only[BitVec.toNat_ofInt];omega
 have t2:(BitVec.ofInt 64 ((c.toNat* 2^(8* j):Nat):Int)).toNat=c.toNat* 2^(8* j):=by
  generalize c.toNat* 2^(8* j)=z at *;simp only[BitVec.toNat_ofInt];omega
 rw[t1,t2,L1]
 congr 2
 rw[Nat.or_comm,<-Nat.shiftLeft_eq,<-Nat.shiftLeft_add_eq_or_of_lt (by rw[<-L1];exact hA),Nat.add_comm]
def lu(l:List UInt8):Int:=ag.wrap (ka l:Int)
def yZ{r:Nat}{s:BA}{t:Bool}{n:Int}{K:VK}(h:St W w L)(hk:L[k]?=some (AD r s t))
 (hK:∀w',St W w' (L.set k (AD r (AE s t (min2 (max2 n 1) 8)) (pB s t (min2 (max2 n 1) 8))))->K (.i (lu (vy s t (min2 (max2 n 1) 8)).data.toList)) w'):aF (ai r) n K w:=by
 have hm:1<=min2 (max2 n 1) 8/\min2 (max2 n 1) 8<=8:=by unfold min2 max2;split<;>split<;>omega
 unfold aF;generalize min2 (max2 n 1) 8=m at *;refine CF h hk λw hs=>?_;simp only[nz,ae,af];have hv8:(vy s t m).size<=8:=by
  unfold vy;split
  ·exact aL _
  ·rw[vj];omega
 have hK':=hK;generalize vy s t m=v at *;refine VY hs λq c w hs=>?_;have hlen:v.data.toList.length=v.size:=rfl;refine⟨λus w'=>∃j:Nat,us=[.i 0,.i (lu (v.data.toList.take j)),.l (ai q) v.size c,.i v.size,.i j]/\j<=v.size/\Zh w w',
  λus _=>match us with|[_,_,_,_,.int _ j]=>v.size-j.toNat|_=>0,⟨0,rfl,aL _,rfl⟩,?_⟩
 rintro n2 n3 sL qG tq n4 n5 w2 ⟨j,he,hj,hw⟩;obtain rfl:w2=w:=hw;cases he
 generalize hb:decide ((j:Int)<(v.size:Int))=b;cases b
 ·have kP:=cD hb;rw[fo];rw[bg (by omega)];exact hK' _ hs.drop
 ·have bW:=bG hb;rw[jm];have QO:j<v.data.toList.length:=by omega
  refine uv (k:=0) hs rfl (by omega) λr' hr=>?_;cases hr
  refine zz (k:=0) hs rfl (v:=og (v.data.toList[j])) (by rw[aq,mQ,dC,ao QO];rfl) ?_;unfold og;simp only[nz,ae,af];have e8:ag.wrap (8* (j:Int))=8* (j:Int):=aS (by omega);have e5:=oe j;rw[e8,e5];refine⟨by omega,?_⟩;have Ko:=pZ (v.data.toList.take j);have ER:(v.data.toList.take j).length=j:=by rw[aG];omega
  rw[ER] at Ko;have e6:ch .i64 .or (lu (v.data.toList.take j)) (shl .i64 (ag.wrap ((v.data.toList[j]).toNat:Int)) (8* (j:Int)))=lu (v.data.toList.take (j+1)):=by
   unfold lu;rw[Ry (by omega) Ko,nD QO,mT,ER]
  rw[e6];exact⟨⟨j+1,rfl,by omega,rfl⟩,by omega⟩
def numOf(s:BA):Int:=if 1<=lu s.data.toList/\lu s.data.toList<=1152921504606846976 then lu s.data.toList else 0
def Bv{n:Int}(h:0<=n/\n<18446744073709551616):IntKind.u64.wrap n=n:=by
 simp[IntKind.wrap,IntKind.bits,IntKind.signed];omega
def Ce(s:BA):BA:=s.extract 0 8
def AQ(s:BA):BA:=s.extract (s.size-8) s.size
def Mj{s:BA}{K:VK}(h:St W w L)(hs8:8<=s.size)(oI:s.size<1099511627776)(hK:∀w',St W w' L->K (.agg ⟨[.i (numOf (Ce s)),.i (numOf (AQ s))]⟩) w'):ud s K w:=by
 unfold ud;refine gh h λr1 w hs=>?_;refine gh hs λr2 w hs=>?_;refine km hs λw hs=>?_;unfold iW;simp only[nz,ae,af];have e1:ag.wrap ((s.size:Int) -8)=(s.size:Int) -8:=aS (by omega);rw[e1];refine⟨by omega,by omega,?_⟩;have eh:s.extract 0 (8:Int).toNat=Ce s:=rfl;have et:s.extract ((s.size:Int) -8).toNat s.size=AQ s:=by unfold AQ;congr 1;omega
 rw[eh,et];have h8:(Ce s).size=8:=by unfold Ce;rw[vj];omega
 have t8:(AQ s).size=8:=by unfold AQ;rw[vj];omega
 refine⟨λus w'=>∃j:Nat,us=[.p (some ⟨r1,0,none⟩),.p (some ⟨r2,0,none⟩),.agg ⟨[.s (Ce s),.s (AQ s)]⟩,.i j]/\j<=2/\
  St W w' (pt r2 [.i (if 0<j then numOf (Ce s) else 0),.i (if 1<j then numOf (AQ s) else 0)]::pt r1 [.i 0,.i 0]::L),
  λus _=>match us with|[_,_,_,.int _ j]=>2-j.toNat|_=>0,⟨0,rfl,aL _,hs⟩,?_⟩
 rintro a1 a2 pA n1 w2 ⟨j,he,hj,hs⟩;cases he
 refine qS (λh0=>?_) (λh0=>?_)
 ·have QP:j<2:=by have:=bG h0;omega
  have e5:=oe j;rw[e5];obtain⟨p,hp,WJ⟩:∃p,([Value.string (Ce s),.s (AQ s)]:LV)[(j:Int).toNat]?=some (.s p)/\p.size=8/\(j=0->p=Ce s)/\(j=1->p=AQ s):=by
   match j,QP with
   |0,_=>exact⟨Ce s,rfl,h8,λ_=>rfl,λhh=>by omega⟩
   |1,_=>exact⟨AQ s,rfl,t8,λhh=>by omega,λ_=>rfl⟩
  refine⟨.s p,⟨by omega,by omega,hp⟩,?_⟩;simp only[nz,ae,af];refine pK hs λq w hs=>?_;simp only[nz,ae,af];refine yZ (k:=0) hs rfl λw hs=>?_;have em:min2 (max2 8 1) 8=8:=rfl;have ev:vy p false (min2 (max2 8 1) 8)=p:=by
   rw[em];unfold vy;have:pB p false 8=false:=by unfold pB;rw[WJ.1];rfl
   rw[ah (by rw[this];exact py)];have:(8:Int).toNat=p.size:=by rw[WJ.1];rfl
   rw[this];exact ByteArray.extract_zero_size
  rw[ev];simp only[nz,ae,af] at hs⊢;have hs:=hs.drop;have fin:∀x w',x=numOf p->St W w' (pt r2 ([.i (if 0<j then numOf (Ce s) else 0),.i (if 1<j then numOf (AQ s) else 0)].set j (.i x))::pt r1 [.i 0,.i 0]::L)->
     St W w' (pt r2 [.i (if 0<j+1 then numOf (Ce s) else 0),.i (if 1<j+1 then numOf (AQ s) else 0)]::pt r1 [.i 0,.i 0]::L):=λx w' hx hs=>by
   subst hx
   match j,QP,WJ,hs with
   |0,_,WJ,hs=>rw[WJ.2.1 rfl] at hs;simpa using hs
   |1,_,WJ,hs=>rw[WJ.2.2 rfl] at hs;simpa using hs
  have zero:numOf p=0->∀w',St W w' (pt r2 [.i (if 0<j then numOf (Ce s) else 0),.i (if 1<j then numOf (AQ s) else 0)]::pt r1 [.i 0,.i 0]::L)->
   St W w' (pt r2 [.i (if 0<j+1 then numOf (Ce s) else 0),.i (if 1<j+1 then numOf (AQ s) else 0)]::pt r1 [.i 0,.i 0]::L):=λhz w' hs=>by
   apply fin 0 w' hz.symm
   match j,QP,hs with
   |0,_,hs=>simpa using hs
   |1,_,hs=>simpa using hs
  refine dY (λh1=>?_) (λh1=>?_)
  ·refine dY (λh2=>?_) (λh2=>?_)
   ·refine⟨by omega,?_⟩;refine mV (k:=0) hs rfl (by simp;omega) rfl λw hs=>?_;simp only[nz,ae,af] at hs;rw[aq,mQ] at hs;refine⟨⟨j+1,rfl,by omega,fin _ w ?_ hs⟩,by omega⟩;unfold numOf;rw[aj (by omega)]
   ·exact⟨⟨j+1,rfl,by omega,zero (by unfold numOf;rw[ah (by omega)]) w hs⟩,by omega⟩
  ·exact⟨⟨j+1,rfl,by omega,zero (by unfold numOf;rw[ah (by omega)]) w hs⟩,by omega⟩
 ·have QP:j=2:=by have:=cD h0;omega
  subst QP;have hs:St W w2 (pt r2 [.i (numOf (Ce s)),.i (numOf (AQ s))]::pt r1 [.i 0,.i 0]::L):=hs;refine gU (k:=0) (xs:=[.i (numOf (Ce s)),.i (numOf (AQ s))]) hs rfl rfl (λi v hi=>by rw[az];exact hi) ?_;refine⟨rfl,ic (k:=1) hs rfl (aH rfl) (by simp[Value.oneCell']) λw hs=>?_⟩;rw[fI (by simp)] at hs;simp only[nz,ae,af] at hs;refine gU (k:=1) (xs:=[.i (numOf (Ce s)),.i (numOf (AQ s))]) hs rfl rfl (λi v hi=>by rw[az];exact hi) ?_;exact hK w hs.drop.drop
def gL(D:ba):Nat->Int
 |0=>0
 |j+1=>max2 (max2 (gL D j) (numOf (Ce (D.read (j:Int)).1))) (numOf (AQ (D.read (j:Int)).1))
def we{D:ba}(h:D.Ok){i:Int}(hi:D.is i):(D.read i).1.size=128:=by
 unfold ba.read;rw[aj hi];unfold ba.now;have bW:i.toNat<D.safe.length:=by have:=hi.1;have:=hi.2;omega
 cases hl:ba.last D.later i with
 |none=>
  rw[eV,List.getD_eq_getElem?_getD,ao bW,dk];exact h.safe _ (bT bW)
 |some x=>
  unfold ba.last at hl;rw[Option.map_eq_some_iff] at hl;obtain⟨p,hp,rfl⟩:=hl;exact(h.later p (List.mem_reverse.1 (jW hp))).1
def Df{d:Nat}{D:ba}{K:VK}(h:St W w L)(hk:L[k]?=some (ft d D))(iw:D.Ok)(hK:∀w',St W w' L->K (.i (gL D D.safe.length)) w'):kZ (ai d) K w:=by
 have C8:=iw.oK;unfold kZ;apply kG h hk;simp only[nz,ae,af];refine⟨λus w'=>∃j:Nat,us=[.i 0,.i (gL D j),.i D.safe.length,.i j]/\j<=D.safe.length/\St W w' L,
  λus _=>match us with|[_,_,_,.int _ j]=>D.safe.length-j.toNat|_=>0,⟨0,rfl,aL _,h⟩,?_⟩
 rintro n2 n3 n4 n5 w2 ⟨j,he,hj,hs⟩;cases he
 refine dY (λbW=>?_) (λkP=>?_)
 ·have hi:D.is (j:Int):=⟨by omega,bW⟩;have oI:=we iw hi;have e5:=oe j;apply pv hs hk iw;simp only[nz,ae,af];refine Mj hs (by omega) (by omega) λw hs=>?_;simp only[uM,bw,dH,az,ae,true_and];refine gh hs λr w hs=>?_;refine⟨trivial,ic (k:=0) hs rfl (aH rfl) (by simp[Value.oneCell']) λw hs=>?_⟩;rw[fI (by simp)] at hs;simp only[nz,ae,af] at hs⊢;refine⟨by decide,?_⟩;apply cy (k:=0) hs rfl rfl;simp only[nz,ae,af];refine⟨by decide,?_⟩;apply cy (k:=0) hs rfl rfl;simp only[nz,ae,af];rw[e5];exact⟨⟨j+1,rfl,by omega,hs.drop⟩,by omega⟩
 ·have:j=D.safe.length:=by omega
  subst this;exact hK _ hs
end
def ju(l:List UInt8)(n:Nat):(bs l).extract 0 n=bs (l.take n):=by
 apply oM;rw[extract_toList,oC,Nat.sub_zero];rfl
def kz(l:List UInt8)(n:Nat):(bs l).extract n (bs l).size=bs (l.drop n):=by
 apply oM;rw[extract_toList,bn];show(l.drop n).take (l.length-n)=l.drop n;rw[bg (by rw[aV];omega)]
def my(a b:List UInt8):bs a++bs b=bs (a++b):=by
 apply oM;rw[ByteArray.data_append,Array.toList_append];rfl
def zP{a b:List UInt8}:bs a=bs b↔a=b:=by
 constructor
 ·intro h;have:=congrArg (λx=>x.data.toList) h;exact this
 ·intro h;rw[h]
def G1:xG=bs []:=rfl
section
variable {W w:World} {L:LH} {k:Nat}
def Bw{l:List UInt8}{K:VK}(hl:l.length<1099511627776)(hK:∀m,m<=l.length->(∀j(h:j<l.length),m<=j->l[j]=0)->(m=0\/∃h:m-1<l.length,l[m-1]≠0)->K (.s (bs (l.take m))) w):jS (bs l) 0 K w:=by
 unfold jS;refine⟨λus w'=>∃m:Nat,us=[.s (bs (l.take m)),.s .empty]/\m<=l.length/\(∀j(h:j<l.length),m<=j->l[j]=0)/\Zh w w',λus _=>match us with|[.string s,_]=>s.size|_=>0,
  ⟨l.length,by rw[bF],aC _,λj h hj=>by omega,rfl⟩,?_⟩
 rintro s2 s3 w2 ⟨m,he,hm,hz,hw⟩;obtain rfl:w2=w:=hw;cases he
 have oI:(bs (l.take m)).size=m:=by rw[bn,aG];omega
 rw[oI];refine dY (λCa=>?_) (λPg=>?_)
 ·have DP:m-1<l.length:=by omega
  have ew:ag.wrap ((m:Int) -1)=((m-1:Nat):Int):=by rw[aS (by omega)];omega
  rw[ew];refine⟨l[m-1],⟨by omega,?_⟩,?_⟩
  ·rw[aq];show(l.take m)[m-1]?=_;rw[List.getElem?_take_of_lt (by omega),ao DP]
  refine Hj (λh0=>?_) (λh0=>?_)
  ·have hc:l[m-1]=0:=by
    apply UInt8.toNat_inj.1;show _=0;omega
   unfold iW;refine⟨⟨by omega,by rw[oI];omega⟩,?_⟩;rw[aq,ju,List.take_take,show min (m-1) m=m-1 from by omega];refine⟨⟨m-1,rfl,by omega,λj hj hmj=>?_,rfl⟩,?_⟩
   ·by_cases hjm:m<=j
    ·exact hz j hj hjm
    ·have:j=m-1:=by omega
     subst this;exact hc
   ·dsimp only;rw[bn,aG,bn,aG];omega
  ·exact hK m hm hz (.inr ⟨DP,λhc=>h0 (by rw[hc];rfl)⟩)
 ·exact hK m hm hz (.inl (by omega))
def CU{l:List UInt8}{K:VK}(hl:l.length<1099511627776)(hK:∀m,m<=l.length->(∀j(h:j<l.length),j<m->l[j]=0)->(m=l.length\/∃h:m<l.length,l[m]≠0)->K (.s (bs (l.drop m))) w):kn (bs l) 0 K w:=by
 unfold kn;refine⟨λus w'=>∃m:Nat,us=[.s (bs (l.drop m)),.s .empty]/\m<=l.length/\(∀j(h:j<l.length),j<m->l[j]=0)/\Zh w w',λus _=>match us with|[.string s,_]=>s.size|_=>0,
  ⟨0,rfl,aL _,λj h hj=>by omega,rfl⟩,?_⟩
 rintro s2 s3 w2 ⟨m,he,hm,hz,hw⟩;obtain rfl:w2=w:=hw;cases he
 have oI:(bs (l.drop m)).size=l.length-m:=by rw[bn,aV]
 refine dY (λCa=>?_) (λPg=>?_)
 ·rw[oI] at Ca;have DP:m<l.length:=by omega
  refine⟨l[m],⟨by omega,?_⟩,?_⟩
  ·show(l.drop m)[0]?=_;rw[px,iL,ao DP]
  refine Hj (λh0=>?_) (λh0=>?_)
  ·have hc:l[m]=0:=by
    apply UInt8.toNat_inj.1;show _=0;omega
   unfold iW;refine⟨⟨by omega,by rw[oI];omega⟩,?_⟩;rw[show(1:Int).toNat=1 from rfl,kz,Jv];refine⟨⟨m+1,rfl,by omega,λj hj hmj=>?_,rfl⟩,?_⟩
   ·by_cases hjm:j<m
    ·exact hz j hj hjm
    ·have:j=m:=by omega
     subst this;exact hc
   ·dsimp only;rw[bn,aV,bn,aV];omega
  ·exact hK m hm hz (.inr ⟨DP,λhc=>h0 (by rw[hc];rfl)⟩)
 ·rw[oI] at Pg;exact hK m hm hz (.inl (by omega))
def MN{l:List UInt8}{K:VK}(h:St W w L)(hl:l.length<1099511627776)(hK:∀r w',(r=.empty↔l=aM l.length 0)->St W w' L->K (.s r) w'):cI (bs l) ⟨#[0]⟩ K w:=by
 unfold cI;have e0:me (⟨#[0]⟩:BA) (⟨#[]⟩:BA)=false:=by rw[q9];exact ay (λh=>aR (congrArg ByteArray.size h) (by decide))
 rw[e0,q9];refine dY (λhem=>?_) (λhZ=>?_)
 ·unfold cI.j1;rw[jm];have:l=[]:=zP.1 hem;subst this;exact hK _ w (by simp[G1]) h
 ·unfold cI.j1;rw[fo];have e1:((((⟨#[0]⟩:BA).size:Nat):Int)==1)=true:=by decide
  rw[e1,jm];refine⟨0,⟨by decide,rfl⟩,?_⟩;have e2:decide (((0:UInt8).toNat:Int)<128)=true:=by decide
  dsimp only;rw[e2];unfold cI.j3;rw[jm];refine km h λw h=>?_;refine⟨0,⟨by decide,rfl⟩,?_⟩;refine⟨0,⟨by decide,rfl⟩,?_⟩;refine Bw hl λm hm hz DQ=>?_;simp only[nz,ae,af];refine CU (by rw[aG];omega) λq hq Yl zD=>?_;simp only[nz,ae,af];refine hK _ w ?_ h;have bW:(l.take m).length=m:=by rw[aG];omega
  rw[G1,zP]
  constructor
  ·intro hd;have hqm:q=m:=by have:=congrArg List.length hd;rw[aV,dH] at this;omega
   subst hqm;rcases DQ with h0|⟨h1,h2⟩
   ·subst h0;exact List.eq_replicate_iff.2 ⟨rfl,λx hx=>by
     obtain⟨j,hj,rfl⟩:=List.mem_iff_getElem.1 hx
     exact hz j hj (aL _)⟩
   ·exfalso;have hq0:0<q:=by
     rcases Nat.eq_zero_or_pos q with h0|h0
     ·subst h0;exact aR (hz _ h1 (by omega)) h2
     ·exact h0
    have:=Yl (q-1) (by omega) (by omega);rw[List.getElem_take] at this;exact h2 this
  ·intro gV;have hz0:∀j(hj:j<l.length),l[j]=0:=λj hj=>(List.eq_replicate_iff.1 gV).2 _ (bT hj);rcases zD with h0|⟨h1,h2⟩
   ·rw[eH (by omega)]
   ·exfalso;rw[List.getElem_take] at h2;exact h2 (hz0 q _)
def uB(l:List UInt8):Bool:=decide (4<=l.length)&&(tA (qP 0 (l.take (l.length-4)))==l.drop (l.length-4))
def Js{l:List UInt8}{K:VK}(h:St W w L)(hl:l.length<1099511627776)(hK:∀w',St W w' L->K (.b (uB l)) w'):q6 (bs l) K w:=by
 unfold q6;refine km h λw h=>?_;have ew:ag.wrap (((bs l).size:Int) -4)=(l.length:Int) -4:=by rw[bn,aS (by omega)]
 rw[ew];refine dY (λh0=>?_) (λh0=>?_)
 ·have e1:((l.length:Int) -4).toNat=l.length-4:=by omega
  unfold iW;dsimp only;refine⟨⟨h0,by rw[bn];omega⟩,?_⟩;refine⟨⟨h0,by rw[bn];omega⟩,?_⟩;rw[e1,ju,kz];refine Ht (by rw[bn,aG];omega) ?_;simp only[nz,ae,af];refine vR h (zZ _) λw h=>?_;simp only[nz,ae,af];have e2:me (bs (tA (qP 0 (bs (l.take (l.length-4))).data.toList))) (bs (l.drop (l.length-4)))=uB l:=by
   rw[q9];unfold uB;rw[aA (by omega:4<=l.length),dX];show decide (bs (tA (qP 0 (l.take (l.length-4))))=bs (l.drop (l.length-4)))=_;by_cases hh:tA (qP 0 (l.take (l.length-4)))=l.drop (l.length-4)
   ·rw[aA (zP.2 hh),hh,beq_self_eq_true]
   ·rw[ay (λh=>hh (zP.1 h))]
    symm;simp[hh]
  rw[e2];exact hK w h
 ·have e2:uB l=false:=by unfold uB;rw[ay (by omega: ¬4<=l.length)];rfl
  rw[<-e2];exact hK w h
def Fs{r:Nat}{l:List UInt8}{n:Nat}{K:VK}(h:St W w L)(hk:L[k]?=some (AD r (bs l) false))(h1:1<=n)(h8:n<=8)(hn:n<=l.length)
 (hK:∀w',St W w' (L.set k (AD r (bs (l.drop n)) false))->K (.i (lu (l.take n))) w'):aF (ai r) n K w:=by
 apply yZ h hk;have em:min2 (max2 (n:Int) 1) 8=n:=by unfold min2 max2;split<;>split<;>omega
 rw[em];have et:pB (bs l) false n=false:=by unfold pB;rw[bn,ay (by omega)];rfl
 unfold AE vy;rw[et,aq,ju,kz];exact hK
def Jp{r:Nat}{l:List UInt8}{n:Nat}{K:VK}(h:St W w L)(hk:L[k]?=some (AD r (bs l) false))(hn:n<=l.length)
 (hK:∀w',St W w' (L.set k (AD r (bs (l.drop n)) false))->K (.s (bs (l.take n))) w'):dy (ai r) n K w:=by
 apply CF h hk;have et:pB (bs l) false n=false:=by unfold pB;rw[bn,ay (by omega)];rfl
 unfold AE vy;rw[et,aq,ju,kz];exact hK
end
def mZ{l:List UInt8}(h:l.length<=7):lu l=(ka l:Int):=by
 have h1:=pZ l;have h2:256^l.length<=256^7:=ja (by decide) h;have h3:(256:Nat)^7=72057594037927936:=rfl;unfold lu;rw[aS (by omega)]
def sN(l:List UInt8):Int:=lu (l.take 8)
def sI(l:List UInt8):Int:=lu ((l.drop 8).take 2)
def sM(l:List UInt8):Nat:=ka (((l.drop 8).drop 2).take 2)
def rH(l:List UInt8):List UInt8:=((l.drop 8).drop 2).drop 2
def sD(l:List UInt8):List UInt8:=(rH l).take (sM l)
def sZ(l:List UInt8):List UInt8:=((rH l).drop (sM l)).take (104-sM l)
def JW(l:List UInt8):Int:=lu (((((rH l).drop (sM l)).drop (104-sM l)).drop 4).take 8)
def oY(l:List UInt8):Option (Int×Int×BA):=
 if ¬l.length=128 then none
 else if uB (l.take 120)=false then none
 else if 104<sM l then none
 else if ¬JW l=sN l then none
 else if ¬sZ l=aM (sZ l).length 0 then none
 else if ¬eL (sN l) (sI l) (bs (sD l)) then none
 else some (sN l,sI l,bs (sD l))
def qW:Option (Int×Int×BA)->Value
 |none=>.tuple ⟨[.agg ⟨[.i 0,.i 0,.s .empty]⟩,.b false]⟩
 |some (n,i,d)=>.tuple ⟨[.agg ⟨[.i n,.i i,.s d]⟩,.b true]⟩
section
variable {W w:World} {L:LH}
def zV{l:List UInt8}{K:VK}(h:St W w L)(hl:l.length<1099511627776)(hK:∀w',St W w' L->K (qW (oY l)) w'):iP (bs l) K w:=by
 unfold oY at hK;unfold iP;refine gh h λr1 w hs=>?_;rw[bn];have Uf:(∀w',St W w' L->K (qW none) w')->∀w,St W w (pt r1 [.i 0,.i 0,.s .empty]::L)->iP.j1 K r1 (bs l) true w:=λhK w hs=>by
  unfold iP.j1;simp only[nz,ae,af];refine ic (k:=0) hs rfl (aH rfl) (by simp[Value.oneCell']) λw hs=>?_;rw[fI (by simp)] at hs;refine gU (k:=0) (xs:=[.i 0,.i 0,.s .empty]) hs rfl rfl (λj v hj=>by rw[az];exact hj) ?_;exact hK w hs.drop
 refine rU (λhZ=>?_) (λhe=>?_)
 ·rw[aj (by omega)] at hK;exact Uf hK w hs
 have IN:l.length=128:=by omega
 rw[ah (by omega)] at hK;unfold iW;dsimp only;refine⟨⟨by omega,by rw[bn];omega⟩,?_⟩;rw[show(120:Int).toNat=120 from rfl,ju];refine Js hs (by rw[aG];omega) λw hs=>?_;simp only[nz,ae,af];cases hh:uB (l.take 120) with
 |false=>
  rw[aj hh] at hK;exact Uf hK w hs
 |true=>
 rw[ah (by rw[hh];exact Bool.noConfusion)] at hK;unfold iP.j1;simp only[nz,ae,af];refine pK hs λq w hs=>?_;simp only[nz,ae,af];refine Fs (k:=0) (n:=8) hs rfl (by decide) (by decide) (by omega) λw hs=>?_;simp only[nz,ae,af] at hs⊢;have l8:(l.drop 8).length=120:=by rw[aV];omega
 refine Fs (k:=0) (n:=2) hs rfl (by decide) (by decide) (by omega) λw hs=>?_;simp only[nz,ae,af] at hs⊢;have l10:((l.drop 8).drop 2).length=118:=by rw[aV];omega
 refine gh hs λr2 w hs=>?_;refine⟨by simp,?_⟩;refine ic (k:=0) hs rfl (aH rfl) (by simp[Value.oneCell']) λw hs=>?_;rw[fI (by simp)] at hs;simp only[nz,ae,af] at hs;refine Fs (k:=1) (n:=2) hs rfl (by decide) (by decide) (by omega) λw hs=>?_;simp only[nz,ae,af] at hs⊢;have em:lu (((l.drop 8).drop 2).take 2)=(sM l:Int):=mZ (by rw[aG];omega);have en:lu (l.take 8)=sN l:=rfl;have ei:lu ((l.drop 8).take 2)=sI l:=rfl;have er:((l.drop 8).drop 2).drop 2=rH l:=rfl;have lr:(rH l).length=116:=by unfold rH;rw[aV];omega
 rw[em];rw[en,ei,er] at hs;have KA:(∀w',St W w' L->K (qW none) w')->∀w A B,St W w (A::B::pt r1 [.i 0,.i 0,.s .empty]::L)->aY True (aY True (fH ⟨r1,0,none⟩ [.i 0,.i 0,.s .empty] (aD ⟨r1,0,none⟩ 3 λcs=>K (.tuple ⟨[.agg ⟨cs⟩,.b false]⟩)))) w:=λhK w A B hs=>by
  refine⟨trivial,trivial,?_⟩;refine ic (k:=2) hs rfl (aH rfl) (by simp[Value.oneCell']) λw hs=>?_;rw[fI (by simp)] at hs;refine gU (k:=2) (xs:=[.i 0,.i 0,.s .empty]) hs rfl rfl (λj v hj=>by rw[az];exact hj) ?_;exact hK w hs.drop.drop.drop
 refine qS (λKt=>?_) (λhle=>?_)
 ·have Kt:=bG Kt;rw[aj (by omega)] at hK;exact KA hK w _ _ hs
 have hle:=cD hle;rw[ah (by omega)] at hK;refine Jp (k:=1) (n:=sM l) hs rfl (by omega) λw hs=>?_;simp only[nz,ae,af] at hs⊢;have ed:(rH l).take (sM l)=sD l:=rfl;rw[ed];refine mV (k:=0) hs rfl (aH rfl) rfl λw hs=>?_;simp only[nz,ae,af] at hs;have ew:ag.wrap (104-(sM l:Int))=((104-sM l:Nat):Int):=by rw[aS (by omega)];omega
 rw[ew];have lrm:((rH l).drop (sM l)).length=116-sM l:=by rw[aV,lr]
 refine Jp (k:=1) (n:=104-sM l) hs rfl (by omega) λw hs=>?_;simp only[nz,ae,af] at hs⊢;have ez:((rH l).drop (sM l)).take (104-sM l)=sZ l:=rfl;rw[ez];have lrz:(((rH l).drop (sM l)).drop (104-sM l)).length=12:=by rw[aV,lrm];omega
 refine Jp (k:=1) (n:=4) hs rfl (by omega) λw hs=>?_;simp only[nz,ae,af] at hs⊢;have lrc:((((rH l).drop (sM l)).drop (104-sM l)).drop 4).length=8:=by rw[aV,lrz]
 refine km hs λw hs=>?_;apply cy (k:=0) hs rfl rfl;simp only[nz,ae,af];refine Fs (k:=1) (n:=8) hs rfl (by decide) (by decide) (by omega) λw hs=>?_;simp only[nz,ae,af] at hs⊢;apply ig (k:=0) hs rfl rfl;have et:lu (((((rH l).drop (sM l)).drop (104-sM l)).drop 4).take 8)=JW l:=rfl;rw[et];refine rU (λhZ=>?_) (λheq=>?_)
 ·rw[aj hZ] at hK;exact KA hK w _ _ hs
 rw[ah (λhh=>hh heq)] at hK;refine MN hs (by unfold sZ;rw[aG];omega) λs5 w hr hs=>?_;simp only[nz,ae,af];apply ig (k:=0) hs rfl rfl;have ady:(⟨#[]⟩:BA)=.empty:=rfl;rw[q9,ady];by_cases hz:sZ l=aM (sZ l).length 0
 ·rw[ah (λhh=>hh hz)] at hK;rw[aA (hr.2 hz)];simp only[nz,ae,af];refine gU (k:=0) (xs:=[.i (sN l),.i (sI l),.s (bs (sD l))]) hs rfl rfl (λj v hj=>by rw[az];exact hj) ?_;refine DW hs λw hs=>?_;simp only[nz,ae,af];apply ig (k:=0) hs rfl rfl;by_cases hg:eL (sN l) (sI l) (bs (sD l))
  ·rw[ah (λhh=>hh hg)] at hK;rw[aA hg];simp only[nz,ae,af];refine gU (k:=0) (xs:=[.i (sN l),.i (sI l),.s (bs (sD l))]) hs rfl rfl (λj v hj=>by rw[az];exact hj) ?_;refine⟨rfl,?_⟩;refine ic (k:=2) hs rfl (aH rfl) (by simp[Value.oneCell']) λw hs=>?_;rw[fI (by simp)] at hs;simp only[nz,ae,af] at hs;refine gU (k:=2) (xs:=[.i (sN l),.i (sI l),.s (bs (sD l))]) hs rfl rfl (λj v hj=>by rw[az];exact hj) ?_;exact hK w hs.drop.drop.drop
  ·rw[aj hg] at hK;rw[ay hg];simp only[nz,ae,af];exact(KA hK w _ _ hs).2.2
 ·rw[aj hz] at hK;rw[ay (λhh=>hz (hr.1 hh))];simp only[nz,ae,af];exact(KA hK w _ _ hs).2.2
end
def oT(D:ba)(at' number:Int)(size:Nat):Nat->Nat->Option (List UInt8)
 |_,0=>some []
 |i,n+1=>match oY (D.read (at'+i)).1.data.toList with
  |none=>none
  |some (m,j,d)=>if m=number/\j=i/\d.size=min (size-104* i) 104 then(oT D at' number size (i+1) n).map (d.data.toList++·) else none
def take(D:ba)(at' toX number size:Int):Option (List UInt8):=
 if at'<0\/(D.safe.length:Int)<toX\/toX<at'\/size<0\/425984<size\/toX-at'<(fX size.toNat:Int) then none else oT D at' number size.toNat 0 (fX size.toNat)
def qd:Option (List UInt8)->Value
 |none=>.tuple ⟨[.s .empty,.b false]⟩
 |some l=>.tuple ⟨[.s (bs l),.b true]⟩
def tW(D:ba)(at' number:Int)(size i n:Nat):oT D at' number size i (n+1)=match oY (D.read (at'+i)).1.data.toList with
 |none=>none
 |some (m,j,d)=>if m=number/\j=i/\d.size=min (size-104* i) 104 then(oT D at' number size (i+1) n).map (d.data.toList++·) else none:=rfl
def LZ{B b:Nat}{l:List UInt8}{w w':World}(h:TY B b l w)(hb:Below w.heap.size w w'):TY B b l w':=by
 have key:∀p,Go.Lib.BuilderAt Tz VA B b p (Go.Lib.byteCells l) w->Go.Lib.BuilderAt Tz VA B b p (Go.Lib.byteCells l) w':=by
  intro p h;have bW:=h.lt;obtain⟨hB,v,hbk,Zy,hZ⟩:=h;refine⟨hB,v,by rw[hb.block b bW];exact hbk,?_,hZ⟩;refine⟨Zy.1,?_⟩;rcases Zy.2 with h0|⟨g,cap,cur,h1,h2,h3,h4⟩
  ·exact .inl h0
  ·refine .inr ⟨g,cap,cur,h1,h2,?_,h4⟩;have hg:g<w.heap.size:=(Array.getElem?_eq_some_iff.1 h3).1;rw[hb.block g hg];exact h3
 rcases h with h|h
 ·exact .inl (key _ h)
 ·exact .inr (key _ h)
def RZ{w:World}:TY w.heap.size w.heap.size [] (w.alloc (.cells ⟨[.p none,.l none 0 0]⟩ Tz)):=by
 refine .inl ⟨aC _,.l none 0 0,?_,?_,by intro h;cases h⟩
 ·show(w.heap.push _)[w.heap.size]?=_;rw[Array.getElem?_push_size]
 ·exact⟨rfl,.inl ⟨rfl,rfl⟩⟩
section
variable {W w:World} {L:LH} {k d:Nat} {D:ba}
def Fg{at' number:Int}{size:Nat}{b:Bool}{K:VK}(h:St W w L)(hk:L[k]?=some (ft d D))(iw:D.Ok)(QU:b=false->0<=at'/\at'+(fX size:Int)<=D.safe.length)(oI:size<=425984)
 (hK:∀w',St W w' L->K (qd (if b then none else oT D at' number size 0 (fX size))) w'):fU.j1 K size (ai d) at' number b w:=by
 have C8:=iw.oK;unfold fU.j1;refine qS (λhb=>?_) (λhb=>?_)
 ·rw[aj hb] at hK;exact hK w h
 rw[ah (by rw[hb];exact Bool.noConfusion)] at hK;obtain⟨h0,QJ⟩:=QU hb;generalize T1:w=w0 at *;show Zc Tz [.p none,.l none 0 0] _ w0;unfold Zc;have hB0:=RZ (w:=w0);have Ud:Below w0.heap.size w0 (w0.alloc (.cells ⟨[.p none,.l none 0 0]⟩ Tz)):=Below.alloc (Below.refl _ _) (aC _) _;generalize hw1:w0.alloc (.cells ⟨[.p none,.l none 0 0]⟩ Tz)=w1 at *;generalize hq:w0.heap.size=q at *;apply ox (by omega);simp only[nz,ae,af];refine⟨λus w'=>∃(j:Nat)(l:List UInt8),us=[.s .empty,.b false,.p (ai q),.i (fX size),.i j]/\j<=fX size/\l.length<=104* j/\TY q q l w'/\Below q w0 w'/\q<=w'.heap.size/\
    oT D at' number size 0 (fX size)=(oT D at' number size j (fX size-j)).map (l++·),
  λus _=>match us with|[_,_,_,_,.int _ j]=>fX size-j.toNat|_=>0,⟨0,[],rfl,aL _,aC _,hB0,Ud,?_,?_⟩,?_⟩
 ·have:=Ud.size;omega
 ·cases oT D at' number size 0 (fX size)<;>simp
 rintro s1 b2 a1 n6 n7 w2 ⟨j,l,he,hj,L7,hB,W3,hqs,rM⟩;cases he
 have hs:St W w2 L:=h.qD (by rw[hq];exact W3);have QR:fX size<=4096:=by unfold fX;split<;>omega
 refine dY (λbW=>?_) (λkP=>?_)
 ·have ea:ag.wrap (at'+(j:Int))=at'+j:=aS (by omega);rw[ea];apply pv hs hk iw;simp only[nz,ae,af];have ags:=we iw (i:=at'+j) ⟨by omega,by omega⟩;obtain⟨p,hp⟩:∃p,fX size-j=p+1:=⟨fX size-j-1,by omega⟩;rw[hp,tW] at rM;generalize hx:(D.read (at'+(j:Int))).1=x at *;rw[show x=bs x.data.toList from rfl];refine zV (St.start w2) (by rw[fa];omega) λw3 y8=>?_;have W4:=y8.below;have Po:Below q w0 w3:=W3.trans (W4.mono hqs);have dM:St W w3 L:=h.qD (by rw[hq];exact Po);have no:oT D at' number size 0 (fX size)=none->∀w',Below q w0 w'->K (.tuple ⟨[.s .empty,.b false]⟩) w':=λhn w' hb=>by
   have:=hK w' (h.qD (by rw[hq];exact hb));rw[hn] at this;exact this
  cases hv:oY x.data.toList with
  |none=>
   rw[hv] at rM;unfold qW;simp only[nz,ae,af];simp only[uM,bw,dH,az,ae,true_and];simp only[nz,ae,af];refine gh (St.start w3) λr w4 A3=>?_;refine⟨trivial,ic (k:=0) A3 rfl (aH rfl) (by simp[Value.oneCell']) λw4 A3=>?_⟩;exact no (by rw[rM];rfl) w4 (Po.trans (A3.below.mono (by have:=W4.size;omega)))
  |some y=>
   obtain⟨m,i,dd⟩:=y;rw[hv] at rM;dsimp only at rM;unfold qW;simp only[nz,ae,af];simp only[uM,bw,dH,az,ae,true_and];simp only[nz,ae,af];refine gh (St.start w3) λr w4 A3=>?_;refine⟨trivial,ic (k:=0) A3 rfl (aH rfl) (by simp[Value.oneCell']) λw4 A3=>?_⟩;rw[fI (by simp)] at A3;simp only[nz,ae,af] at A3;have DU:Below q w0 w4:=Po.trans (A3.below.mono (by have:=W4.size;omega));apply cy (k:=0) A3 rfl rfl;simp only[nz,ae,af];refine rU (λhZ=>?_) (λhmn=>?_)
   ·exact no (by rw[rM,ah (λhh=>hZ hh.1)];rfl) w4 DU
   apply cy (k:=0) A3 rfl rfl;simp only[nz,ae,af];refine rU (λhZ=>?_) (λKs=>?_)
   ·exact no (by rw[rM,ah (λhh=>hZ hh.2.1)];rfl) w4 DU
   apply cy (k:=0) A3 rfl rfl;simp only[nz,ae,af];have e1:ag.wrap ((j:Int)* 104)=(j:Int)* 104:=aS (by omega);have e2:ag.wrap ((size:Int) -(j:Int)* 104)=(size:Int) -(j:Int)* 104:=aS (by omega);have hjs:104* j<=size:=by
    rcases Nat.eq_zero_or_pos j with h0|h0
    ·omega
    ·have:=(I9 (n:=size) h0).2 (by omega);omega
   have e3:min2 ((size:Int) -(j:Int)* 104) 104=((min (size-104* j) 104:Nat):Int):=by unfold min2;split<;>omega
   rw[e1,e2,e3];refine rU (λhZ=>?_) (λhds=>?_)
   ·exact no (by rw[rM,ah (λhh=>hZ (by rw[hh.2.2]))];rfl) w4 DU
   have adz:dd.size=min (size-104* j) 104:=by omega
   apply cy (k:=0) A3 rfl rfl;simp only[nz,ae,af];rw[aj ⟨hmn,Ks,adz⟩] at rM;have hB4:TY q q l w4:=LZ hB (W4.trans (A3.below.mono W4.size));refine⟨q,q,l,rfl,hB4,by omega,(by have:=DU.size;omega),λw5 hB5 Uc=>?_⟩;simp only[nz,ae,af];have e5:=oe j;rw[e5];have AK:fX size-(j+1)=p:=by omega
   refine⟨⟨j+1,_,rfl,by omega,?_,hB5,DU.trans Uc,?_,?_⟩,by omega⟩
   ·rw[ak,fa];omega
   ·have:=Uc.size;have:=DU.size;omega
   ·rw[rM,AK];cases oT D at' number size (j+1) p<;>simp[aI]
 ·have hje:j=fX size:=by omega
  refine⟨q,q,l,rfl,hB,hqs,λw' hb=>?_⟩;simp only[nz,ae,af];have:=hK w' (h.qD (by rw[hq];exact W3.trans hb));rw[rM,hje,sH] at this;simp only[oT,dN,bN,qd] at this;exact this
def Ef{at' toX number size:Int}{K:VK}(h:St W w L)(hk:L[k]?=some (ft d D))(iw:D.Ok)(hK:∀w',St W w' L->K (qd (take D at' toX number size)) w'):fU (ai d) at' toX number size K w:=by
 have C8:=iw.oK;have bad:(at'<0\/(D.safe.length:Int)<toX\/toX<at'\/size<0\/425984<size\/toX-at'<(fX size.toNat:Int))->fU.j1 K size (ai d) at' number true w:=λhb=>by
  unfold fU.j1;rw[jm];have:=hK w h;unfold take at this;rw[aj hb] at this;exact this
 unfold fU;refine dY (λh1=>bad (.inl h1)) (λh1=>?_);apply kG h hk;simp only[nz,ae,af];refine dY (λh2=>bad (.inr (.inl h2))) (λh2=>?_);refine dY (λh3=>bad (.inr (.inr (.inl h3)))) (λh3=>?_);refine dY (λh4=>bad (.inr (.inr (.inr (.inl h4))))) (λh4=>?_);refine qS (λh5=>bad (.inr (.inr (.inr (.inr (.inl (bG h5))))))) (λh5=>?_);have h5:=cD h5;obtain⟨m,rfl⟩:=bD (show 0<=size by omega);apply ox (by omega);simp only[nz,ae,af];have ew:ag.wrap (toX-at')=toX-at':=aS (by omega);rw[ew];refine Fg h hk iw (λhb=>?_) (by omega) λw' hs=>?_
 ·have:=cD hb;omega
 ·have:=hK w' hs;unfold take at this;rw[aq] at this;by_cases h6:toX-at'<(fX m:Int)
  ·rw[aj (by omega)] at this;have e:decide ((fX m:Int)>toX-at')=true:=aA (by omega);rw[e,aj rfl];exact this
  ·rw[ah (by omega)] at this;have e:decide ((fX m:Int)>toX-at')=false:=ay (by omega);rw[e,ah Bool.noConfusion];exact this
end
def Kj{at' number:Int}{s:BA}(sQ:1<=number/\number<=1152921504606846976)(QU:0<=at'):∀(n i:Nat) {D:ba},D.arm=0->at'+i+n<=D.safe.length->i+n<=4096->
 (pP at' number s D i n).2=0/\(pP at' number s D i n).1.arm=0/\(pP at' number s D i n).1.safe=D.safe/\(pP at' number s D i n).1.later.length=D.later.length+n/\
 ∀j:Int,(j<at'+i\/at'+i+n<=j)->(pP at' number s D i n).1.now j=D.now j
 |0,i,D,ha,hr,hi=>⟨rfl,ha,rfl,rfl,λ_ _=>rfl⟩
 |n+1,i,D,ha,hr,hi=>by
  have hg:eL number i (part s i):=⟨sQ.1,sQ.2,by omega,by omega,tu s i⟩;have oI:=zy hg;have hi:D.is (at'+i):=⟨by omega,by omega⟩;have zE: ¬(¬D.is (at'+i)\/128<(leaf number i (part s i)).size):=by
   rintro(hh|hh)
   ·exact hh hi
   ·omega
  have hw:D.write (at'+i) (leaf number i (part s i))=({Go.bE.ba.tick D with later:=D.later++[(at'+i,ba.pad (leaf number i (part s i)))]},0):=by
   rw[Dk.Ek ha,ah zE]
  have hn:=λj=>Dk.BX ha (at'+i) j (leaf number i (part s i));unfold pP;have h0:(D.write (at'+i) (leaf number i (part s i))).2=0:=by rw[hw]
  rw[ah (by rw[h0];exact λhh=>hh rfl)];have hlen:(D.write (at'+i) (leaf number i (part s i))).1.later.length=D.later.length+1:=by rw[hw];simp
  have GH:=(s8 D (at'+i) (leaf number i (part s i))).1;have Sh:=Dk.Bo ha (at'+i) (leaf number i (part s i));have ih:=Kj sQ QU (s:=s) n (i+1) (D:=(D.write (at'+i) (leaf number i (part s i))).1) Sh (by rw[GH];omega) (by omega);refine⟨ih.1,ih.2.1,ih.2.2.1.trans GH,by rw[ih.2.2.2.1,hlen];omega,λj hj=>?_⟩;rw[ih.2.2.2.2 j (by omega),hn j,ah (λhh=>by have:=hh.2;omega)]
section
variable {W w:World} {L:LH}
end
def Jd(m i:Nat)(hi:i<8):(byteOf .i64 (m:Int) i).toNat=m/256^i%256:=by
 have hp:(256:Nat)^i=2^(8* i):=by rw[show(256:Nat)=2^8 from rfl,<-Nat.pow_mul]
 have e1:shr .i64 (m:Int) (8* (i:Int))=((m/256^i:Nat):Int):=by
  unfold shr;have h1:(8* (i:Int)).toNat=8* i:=by omega
  have h2:min (8* i) ag.bits=8* i:=by show min (8* i) 64=_;omega
  rw[h1,h2,hp,CR _ (Int.le_of_lt (Int.pow_pos (by decide)))]
  push_cast
  rfl
 have e2:IntKind.u8.wrap ((m/256^i:Nat):Int)=((m/256^i%256:Nat):Int):=by
  generalize m/256^i=z;simp[IntKind.wrap,IntKind.bits,IntKind.signed]
 unfold byteOf;rw[e1,e2,aq,UInt8.toNat_ofNat_of_lt' (Nat.mod_lt _ (by decide))]
def le_succ(k:IntKind)(w:Nat)(n:Int):le k (w+1) n=le k w n++[byteOf k n w]:=by
 unfold le;rw[List.range_succ,cS];rfl
def qa(m:Nat):∀w,w<=8->ka (le .i64 w (m:Int))=m%256^w
 |0,_=>by simp[le,ka,Nat.mod_one]
 |w+1,h=>by
  rw[le_succ,mT,qa m w (by omega),Jd m w (by omega),aJ,Nat.mod_pow_succ,Nat.mul_comm]
def qu{n:Int}(h:0<=n/\n<=1152921504606846976):lu (le .i64 8 n)=n:=by
 obtain⟨m,rfl⟩:=bD h.1;unfold lu;rw[qa m 8 (by omega)];have h8:(256:Nat)^8=18446744073709551616:=rfl;rw[h8,eX (by omega),aS (by omega)]
def FJ{m:Nat}(h:m<65536):ka (le .i64 2 (m:Int))=m:=by
 rw[qa m 2 (by omega)];exact eX h
def ui{n i:Int}{s:BA}(h:eL n i s):oY (kL n i s)=some (n,i,s):=by
 obtain⟨h1,h2,h3,h4,h5⟩:=h;have hl:(kL n i s).length=128:=yE h5;have Pf:(pre n i s).length=116:=pO h5;have hd:s.data.toList.length=s.size:=rfl;have hc:(tA (qP 0 (pre n i s))).length=4:=aJ _ _ _;have uA:kL n i s=le .i64 8 n++(le .i64 2 i++(le .i64 2 s.size++(s.data.toList++(aM (104-s.size) 0++(tA (qP 0 (pre n i s))++le .i64 8 n))))):=by
  simp only[kL,pre,aI]
 have t120:(kL n i s).take 120=pre n i s++tA (qP 0 (pre n i s)):=by
  unfold kL;rw[List.take_append_of_le_length (by rw[ak,Pf,hc];omega),bg (by rw[ak,Pf,hc];omega)]
 have hh:uB ((kL n i s).take 120)=true:=by
  rw[t120];unfold uB;have hlen:(pre n i s++tA (qP 0 (pre n i s))).length=120:=by rw[ak,Pf,hc]
  rw[hlen,show 120-4=(pre n i s).length from by rw[Pf],zX,List.drop_left,beq_self_eq_true]
  rfl
 have tl:∀(a b:List UInt8)(m:Nat),a.length=m->(a++b).take m=a:=λa b m hm=>by subst hm;exact zX
 have dl:∀(a b:List UInt8)(m:Nat),a.length=m->(a++b).drop m=b:=λa b m hm=>by subst hm;exact List.drop_left
 have d8:(kL n i s).drop 8=le .i64 2 i++(le .i64 2 s.size++(s.data.toList++(aM (104-s.size) 0++(tA (qP 0 (pre n i s))++le .i64 8 n)))):=by rw[uA,dl _ _ _ (aJ _ _ _)]
 have d10:((kL n i s).drop 8).drop 2=le .i64 2 s.size++(s.data.toList++(aM (104-s.size) 0++(tA (qP 0 (pre n i s))++le .i64 8 n))):=by rw[d8,dl _ _ _ (aJ _ _ _)]
 have hr:rH (kL n i s)=s.data.toList++(aM (104-s.size) 0++(tA (qP 0 (pre n i s))++le .i64 8 n)):=by unfold rH;rw[d10,dl _ _ _ (aJ _ _ _)]
 have eN:sN (kL n i s)=n:=by unfold sN;rw[uA,tl _ _ _ (aJ _ _ _),qu ⟨by omega,h2⟩]
 have eI:sI (kL n i s)=i:=by
  unfold sI;rw[d8,tl _ _ _ (aJ _ _ _),mZ (by rw[aJ];omega)];obtain⟨m,rfl⟩:=bD h3;rw[FJ (by omega)]
 have eM:sM (kL n i s)=s.size:=by
  unfold sM;rw[d10,tl _ _ _ (aJ _ _ _),FJ (by omega)]
 have eD:sD (kL n i s)=s.data.toList:=by unfold sD;rw[eM,hr,tl _ _ _ hd]
 have dr:(rH (kL n i s)).drop s.size=aM (104-s.size) 0++(tA (qP 0 (pre n i s))++le .i64 8 n):=by rw[hr,dl _ _ _ hd]
 have eZ:sZ (kL n i s)=aM (104-s.size) 0:=by unfold sZ;rw[eM,dr,tl _ _ _ (by simp)]
 have eT:JW (kL n i s)=n:=by
  unfold JW;rw[eM,dr,dl _ _ _ (by simp),dl _ _ _ hc,bg (by rw[aJ];omega),qu ⟨by omega,h2⟩]
 have hg:eL (sN (kL n i s)) (sI (kL n i s)) (bs (sD (kL n i s))):=by
  rw[eN,eI,eD,KE];exact⟨h1,h2,h3,h4,h5⟩
 unfold oY;rw[ah (λhx=>hx hl),ah (by rw[hh];exact Bool.noConfusion),ah (by rw[eM];omega),ah (λhx=>hx (by rw[eT,eN])),ah (λhx=>hx (by rw[eZ];simp)),ah (λhx=>hx hg),eN,eI,eD,KE]
def vr:oY (jY 128).data.toList=none:=by decide+kernel
def Rx{s:BA}(h:s.size=128):ba.pad s=s:=by
 unfold ba.pad;rw[h];apply oM;rw[ByteArray.data_append,Array.toList_append];simp[jY]
def Ki{at' number:Int}{s:BA}(sQ:1<=number/\number<=1152921504606846976)(QU:0<=at'):∀(n i:Nat) {D:ba},D.arm=0->at'+i+n<=D.safe.length->i+n<=4096->
 ∀q,i<=q->q<i+n->(pP at' number s D i n).1.now (at'+q)=leaf number q (part s q)
 |0,i,D,ha,hr,hi,q,h1,h2=>by omega
 |n+1,i,D,ha,hr,hi,q,h1,h2=>by
  have hg:eL number i (part s i):=⟨sQ.1,sQ.2,by omega,by omega,tu s i⟩;have oI:=zy hg;have sj:D.is (at'+i):=⟨by omega,by omega⟩;have zE: ¬(¬D.is (at'+i)\/128<(leaf number i (part s i)).size):=by
   rintro(hh|hh)
   ·exact hh sj
   ·omega
  have hw:D.write (at'+i) (leaf number i (part s i))=({Go.bE.ba.tick D with later:=D.later++[(at'+i,ba.pad (leaf number i (part s i)))]},0):=by
   rw[Dk.Ek ha,ah zE]
  have h0:(D.write (at'+i) (leaf number i (part s i))).2=0:=by rw[hw]
  have GH:=(s8 D (at'+i) (leaf number i (part s i))).1;have Sh:=Dk.Bo ha (at'+i) (leaf number i (part s i));unfold pP;rw[ah (by rw[h0];exact λhh=>hh rfl)];by_cases hq:q=i
  ·subst hq;have:=(Kj sQ QU (s:=s) n (q+1) (D:=(D.write (at'+q) (leaf number q (part s q))).1) Sh (by rw[GH];omega) (by omega)).2.2.2.2 (at'+q) (by omega);rw[this,Dk.BX ha,aj ⟨⟨sj,by omega⟩,rfl⟩,Rx oI]
  ·exact Ki sQ QU (s:=s) n (i+1) Sh (by rw[GH];omega) (by omega) q (by omega) (by omega)
def y9{D:ba}{at' number:Int}{size:Nat}{s:BA}:∀(n i:Nat),(∀q,i<=q->q<i+n->oY (D.read (at'+q)).1.data.toList=some (number,(q:Int),part s q)/\(part s q).size=min (size-104* q) 104)->
 oT D at' number size i n=some ((s.data.toList.drop (104* i)).take (104* n))
 |0,i,_=>by simp[oT]
 |n+1,i,h=>by
  obtain⟨h1,h2⟩:=h i (aC _) (by omega);rw[tW,h1];dsimp only;rw[aj ⟨rfl,rfl,h2⟩,y9 n (i+1) (λq hq hq2=>h q (by omega) (by omega))];have e:(part s i).data.toList=(s.data.toList.drop (104* i)).take 104:=by
   unfold part;rw[extract_toList];congr 1;omega
  rw[e,dN]
  congr 1
  rw[show 104* (n+1)=104+104* n from by omega,List.take_add,Jv,show 104* i+104=104* (i+1) from by omega]
section
variable {W w:World} {L:LH}
end
def zY(n:Int):0<=IntKind.u64.wrap n/\IntKind.u64.wrap n<18446744073709551616:=by
 simp[IntKind.wrap,IntKind.bits,IntKind.signed];omega
def P0(n:Int)(i:Nat)(hi:i<8):IntKind.u8.wrap (shr .i64 n (8* (i:Int)))=IntKind.u8.wrap ((((IntKind.u64.wrap n).toNat/256^i:Nat):Int)):=by
 have hu:(((IntKind.u64.wrap n).toNat:Nat):Int)=n%18446744073709551616:=by
  have:=zY n;rw[Int.toNat_of_nonneg this.1];simp[IntKind.wrap,IntKind.bits,IntKind.signed]
 generalize (IntKind.u64.wrap n).toNat=U at *;have e8:∀x:Int,IntKind.u8.wrap x=x%256:=λx=>by simp[IntKind.wrap,IntKind.bits,IntKind.signed]
 rw[e8,e8];unfold shr;rw[CR _ (Int.le_of_lt (Int.pow_pos (by decide)))]
 match i,hi with
 |0,_=>show(n/1)%256=(((U/1:Nat):Int))%256;omega
 |1,_=>show(n/256)%256=(((U/256:Nat):Int))%256;omega
 |2,_=>show(n/65536)%256=(((U/65536:Nat):Int))%256;omega
 |3,_=>show(n/16777216)%256=(((U/16777216:Nat):Int))%256;omega
 |4,_=>show(n/4294967296)%256=(((U/4294967296:Nat):Int))%256;omega
 |5,_=>show(n/1099511627776)%256=(((U/1099511627776:Nat):Int))%256;omega
 |6,_=>show(n/281474976710656)%256=(((U/281474976710656:Nat):Int))%256;omega
 |7,_=>show(n/72057594037927936)%256=(((U/72057594037927936:Nat):Int))%256;omega
section
variable {W w:World} {L:LH}
def wg{m n:Int}{K:VK}(h:St W w L)(hK:∀w',St W w' L->K (.s (bs (le .i64 (min2 (max2 m 1) 8).toNat n))) w'):bl m n K w:=by
 have hm:1<=min2 (max2 m 1) 8/\min2 (max2 m 1) 8<=8:=by unfold min2 max2;split<;>split<;>omega
 unfold bl;generalize min2 (max2 m 1) 8=q at *;have hu:=zY n;refine⟨λus w'=>∃j:Nat,us=[.s .empty,.i q,.u (((IntKind.u64.wrap n).toNat/256^j:Nat):Int),.s (bs (le .i64 j n)),.i j]/\(j:Int)<=q/\St W w' L,
  λus _=>match us with|[_,_,_,_,.int _ j]=>(q-j).toNat|_=>0,⟨0,?_,by omega,h⟩,?_⟩
 ·rw[Nat.pow_zero,Nat.div_one,Int.toNat_of_nonneg hu.1];rfl
 rintro s1 n3 n4 s2 n5 w2 ⟨j,he,hj,hs⟩;cases he
 refine dY (λh0=>?_) (λh0=>?_)
 ·have hj8:j<8:=by omega
  have hb:=P0 n j hj8;have agC:(IntKind.u64.wrap n).toNat<18446744073709551616:=by omega
  generalize hU:(IntKind.u64.wrap n).toNat=U at *;have hle:U/256^j<=U:=Nat.div_le_self _ _;have sw:U/256^(j+1)=U/256^j/256:=by rw[Nat.div_div_eq_div_mul,<-Nat.pow_succ]
  generalize U/256^j=V at *;have et:((V:Nat):Int).tmod 256=((V%256:Nat):Int):=by rw[Int.tmod_eq_emod_of_nonneg (by omega)];rfl
  have ed:((V:Nat):Int).tdiv 256=((V/256:Nat):Int):=by rw[Int.tdiv_eq_ediv_of_nonneg (by omega)];rfl
  have ew:IntKind.u64.wrap ((V/256:Nat):Int)=((V/256:Nat):Int):=Bv (by omega);have e5:=oe j;have w8:∀z:Nat,IntKind.u8.wrap ((z%256:Nat):Int)=IntKind.u8.wrap ((z:Nat):Int):=λz=>by simp[IntKind.wrap,IntKind.bits,IntKind.signed]
  have wT:Value.int .u8 (IntKind.u8.wrap (((V:Nat):Int).tmod 256))=og (byteOf .i64 n j):=by
   unfold byteOf;rw[td (tV _),hb,et,w8]
  rw[wT,ed,ew,e5];refine⟨by decide,⟨rfl,trivial⟩,gh hs λr w hs=>?_⟩;refine Jj (k:=0) (l:=[byteOf .i64 n j]) hs rfl rfl ?_;rw[my,<-le_succ];refine⟨by rw[bn,bn,aJ];simp;omega,by decide,?_⟩;exact⟨⟨j+1,by rw[sw],by omega,hs.drop⟩,by dsimp only;omega⟩
 ·have:q.toNat=j:=by omega
  rw[this] at hK;exact hK _ hs
end
end Go.Sep
namespace Go.Up
open Go.Sep Go.Den Go.RowKit Go.Prog Go.Md
def yL{α:Type}{f:α->LV}{e:Nat}(hf:∀x,(f x).length=e):∀l:List α,(l.flatMap f).length=l.length* e
 |[]=>by simp
 |x::l=>by rw[eP,ak,hf,yL hf l,bw,lq];omega
def pd{α:Type}{f:α->LV}{e:Nat}(hf:∀x,(f x).length=e):∀(l:List α)(i:Nat)(x:α),l[i]?=some x->∀j v,(f x)[j]?=some v->(l.flatMap f)[i* e+j]?=some v
 |[],i,x,h,j,v,hj=>by simp at h
 |y::l,0,x,h,j,v,hj=>by
  simp at h;subst h;rw[eP,Nat.zero_mul,az,bM (ar.1 hj).1];exact hj
 |y::l,i+1,x,h,j,v,hj=>by
  rw[eP,jo (by rw[hf,lq];omega),hf,show(i+1)* e+j-e=i* e+j by rw[lq];omega];exact pd hf l i x (by simpa using h) j v hj
def Cj{α:Type}{f:α->LV}{e:Nat}(hf:∀x,(f x).length=e):∀(l:List α)(i:Nat)(x:α),i<l.length->over (l.flatMap f) (i* e) (f x)=(l.set i x).flatMap f
 |[],i,x,h=>by simp at h
 |y::l,0,x,h=>by
  unfold over;rw[eP,Nat.zero_mul,qM,dm,hf,az,List.drop_left' (hf y)];rfl
 |y::l,i+1,x,h=>by
  have ih:=Cj hf l i x (by simpa using h);unfold over at ih⊢;rw[eP,kf,eP,<-ih,hf,show(i+1)* e=(f y).length+i* e by rw[hf,lq];omega,List.take_append,bg (by omega),
   show(f y).length+i* e-(f y).length=i* e by omega,Nat.add_assoc,List.drop_append,eH (by omega),show(f y).length+(i* e+e) -(f y).length=i* e+e by omega]
  simp
def vB(n:Nat):(nm n).length=2:=rfl
def jL(n:Nat):∀v∈nm n,v.oneCell'=true:=λv h=>by simp[nm] at h;rcases h with rfl|rfl<;>rfl
section
variable {W:World} {L:LH} {K:VK} {a b n:Nat}
def nM{r m e:Nat}{i:Int}{K:Addr->WK}(hi:0<=i/\i<m)(h:T W L (K ⟨r,i.toNat* e,none⟩)):T W L (gp (ai r) m i e K):=λw hs=>
 ⟨_,rfl,hi,by rw[dh,az];exact h w hs⟩
def YJ{α:Type}{r o e:Nat}{l:List α}{x:α}{g:α->LV}{f:LV->LH}{K:LV->WK}[i:Lc (pt r) L (l.flatMap g) f](hf:∀x,(g x).length=e)(hx:l[o]?=some x)(h:T W L (K (g x))):T W L (aD ⟨r,o* e,none⟩ e K):=λw hs=>
 let⟨_,hk,_⟩:=i.at_;gU hs hk (hf x) (pd hf l o x hx) (h w hs)
def z6:Nat->List Nat->Option Nat
 |s,[]=>some s
 |s,x::l=>if s+x<bV then z6 (s+x) l else none
abbrev ach(o:Option Nat):Value:=.tuple ⟨[.agg ⟨nm (o.getD 0)⟩,.b o.isSome]⟩
def Ve{r c:Nat}{l:List Nat}{f:LV->LH}(hl:∀x∈l,x<bV)(hlen:l.length<1000)[i:Lc (pt r) L (l.flatMap nm) f](h:T W L (K (ach (z6 0 l)))):T W L (u5 (ai r) l.length c K):=by
 unfold u5;apply ws;intros;rename_i r1 r2;intro w hs;refine⟨λvs w=>∃i s:Nat,i<=l.length/\s<bV/\z6 0 l=z6 s (l.drop i)/\vs=[.p (some (ad r1 0)),.b false,.p (some (ad r2 0)),.l (ai r) l.length c,.i (l.length:Int),.i (i:Int)]/\St W w (pt r2 (nm s)::pt r1 (nm 0)::L),
  λvs _=>match vs with|[_,_,_,_,_,.int _ j]=>l.length-j.toNat|_=>0,⟨0,0,aL _,by decide,rfl,rfl,hs⟩,?_⟩
 rintro a1 b1 a2 mg jJ mP n1 n2 w2 ⟨i,s,hi,hsM,he,e,hs⟩;cases e
 refine T.at ?_ hs;apply gO<;>intro h1
 ·have bW:i<l.length:=by simpa using h1
  apply nM (by omega);rw[aq];refine YJ vB (ao bW) ?_;have hx:=hl _ (bT bW);have hd:l.drop i=l[i]::l.drop (i+1):=jX bW;rw[hd] at he;generalize l[i]=x at *;have uy:z6 s (x::l.drop (i+1))=if s+x<bV then z6 (s+x) (l.drop (i+1)) else none:=rfl
  rw[uy] at he
  repeat' first|apply ws;intros|apply wb|first|refine vV hsM hx ?_|apply dz<;>intro h1
  ·have h2: ¬s+x<bV:=by simpa using h1
   rw[ah h2] at he;rw[he] at h;exact T.dp h
  ·have h2:s+x<bV:=by simpa using h1
   rw[aj h2] at he;rw[aj h2];have e5:=oe i;rw[e5];refine T.drop λw3 h3=>⟨⟨i+1,s+x,bW,h2,he,rfl,h3⟩,?_⟩;show l.length-((i+1:Nat):Int).toNat<l.length-(i:Int).toNat;omega
 ·have kP:i=l.length:=by omega
  subst kP;rw[eH (aC _)] at he;rw[he] at h;apply ws;exact T.dp h
end
end Go.Up
namespace Go.Sep
open Go.Den Go.RowKit Go.Prog Go.bE
section
variable {W w:World} {L:LH}
end
def Gm(s:BA):0<=numOf s/\numOf s<=1152921504606846976:=by unfold numOf;split<;>omega
def yJ(D:ba):∀j,0<=gL D j/\gL D j<=1152921504606846976
 |0=>by simp[gL]
 |j+1=>by
  have h1:=yJ D j;have h2:=Gm (Ce (D.read (j:Int)).1);have h3:=Gm (AQ (D.read (j:Int)).1);simp only[gL];unfold max2;split<;>split<;>omega
def low(w:Int):Int:=ch .i64 .and w 1
def RR(w:Int):low w=(((BitVec.ofInt 64 w).toNat%2:Nat):Int):=by
 have e2:(BitVec.ofInt 64 1).toNat=1:=rfl;show ag.wrap (((BitVec.ofInt 64 w&&&BitVec.ofInt 64 1).toNat:Nat):Int)=_;rw[BitVec.toNat_and,e2,Nat.and_one_is_mod,aS (by omega)]
def EN(w:Int):low w=0\/low w=1:=by rw[RR];omega
def cQ(n:Nat):Nat:=(n-2)* 2/5
def dF(n:Nat):LV:=[.i 2,.i (2+cQ n:Nat),.i (cQ n:Nat),.i (2+2* cQ n:Nat),.i n]
def fV(n:Nat)(which:Int):Nat:=if low which=0 then 2 else 2+cQ n
def vY{n:Nat}(h:12<=n)(w:Int):2<=fV n w/\fV n w+cQ n<=n/\4<=cQ n:=by
 unfold fV cQ;split<;>omega
def put(D:ba)(n:Nat)(which number:Int)(s:BA):ba×Int:=
 if(lay D (fV n which) ((fV n which+cQ n:Nat):Int) number s).2≠0 then lay D (fV n which) ((fV n which+cQ n:Nat):Int) number s
 else(lay D (fV n which) ((fV n which+cQ n:Nat):Int) number s).1.sync
def get(D:ba)(n:Nat)(which number size:Int):Option (List UInt8):=take D (fV n which) ((fV n which+cQ n:Nat):Int) number size
section
variable {W w:World} {L:LH} {k d:Nat} {D:ba}
def Th{n:Nat}{K:VK}(h:St W w L)(sm:12<=n)(eQ:n<=4096)(hK:∀w',St W w' L->K (.tuple ⟨[.agg ⟨dF n⟩,.i 0]⟩) w'):qU n K w:=by
 unfold qU;refine gh h λr w hs=>?_;have e1:decide ((n:Int)<12)=false:=ay (by omega);have e2:decide ((n:Int)>4096)=false:=ay (by omega);rw[e1,e2];unfold qU.j1;have a1:ag.wrap ((n:Int) -2)=((n-2:Nat):Int):=by rw[aS (by omega)];omega
 have a2:ag.wrap (((n-2:Nat):Int)* 2)=(((n-2)* 2:Nat):Int):=by rw[aS (by omega)];omega
 have a3:(((n-2)* 2:Nat):Int).tdiv 5=((cQ n:Nat):Int):=by rw[Int.tdiv_eq_ediv_of_nonneg (by omega)];rfl
 have hp:cQ n<=4096:=by unfold cQ;omega
 have a4:ag.wrap ((cQ n:Nat):Int)=((cQ n:Nat):Int):=aS (by omega);have a5:ag.wrap (2+((cQ n:Nat):Int))=((2+cQ n:Nat):Int):=by rw[aS (by omega)];omega
 have a6:ag.wrap (2* ((cQ n:Nat):Int))=((2* cQ n:Nat):Int):=by rw[aS (by omega)];omega
 have a7:ag.wrap (2+((2* cQ n:Nat):Int))=((2+2* cQ n:Nat):Int):=by rw[aS (by omega)];omega
 rw[a1,a2,a3,a4,a5,a6,a7];simp only[nz,ae,af];refine⟨by decide,?_⟩;refine ic (k:=0) hs rfl (aH rfl) (by simp[Value.oneCell']) λw hs=>?_;rw[fI (by simp)] at hs;refine gU (k:=0) (xs:=dF n) hs rfl rfl (λj v hj=>by rw[az];exact hj) ?_;exact hK w hs.drop
def Bg{n:Nat}{which:Int}{K:VK}(h:St W w L)(hK:∀w',St W w' L->K (.i (fV n which:Nat)) w'):lR (dF n) which K w:=by
 unfold lR;refine gh h λr w hs=>?_;simp only[nz,ae,af];apply cy (k:=0) hs rfl rfl;simp only[nz,ae,af];apply cy (k:=0) hs rfl rfl;simp only[nz,ae,af];have hl:=EN which;have hh:=hK w hs.drop;unfold fV at hh;show yF _ 2 (low which) _ w;rcases hl with h0|h0
 ·rw[aj h0] at hh;rw[h0];refine⟨_,⟨by decide,by decide,rfl⟩,?_⟩;simp only[nz,ae,af];exact hh
 ·rw[ah (by omega)] at hh;rw[h0];refine⟨_,⟨by decide,by decide,rfl⟩,?_⟩;simp only[nz,ae,af];exact hh
def Qp{n:Nat}{which number:Int}{s:BA}{K:VK}(h:St W w L)(hk:L[k]?=some (ft d D))(iw:D.Ok)(sm:12<=n)(eQ:n<=4096)(hl:D.later.length+5000<1099511627776)(hs:s.size<=reachBytes)
 (hK:∀w',St W w' (L.set k (ft d (put D n which number s).1))->K (.i (put D n which number s).2) w'):nN (dF n) (ai d) which number s K w:=by
 have Kr:=vY sm which;unfold nN;refine gh h λr w dM=>?_;have oI:=hs;simp only[nz,ae,af];refine km dM λw hs=>?_;refine gU (k:=0) (xs:=dF n) hs rfl rfl (λj v hj=>by rw[az];exact hj) ?_;refine gU (k:=0) (xs:=dF n) hs rfl rfl (λj v hj=>by rw[az];exact hj) ?_;apply cy (k:=0) hs rfl rfl;simp only[nz,ae,af];refine Bg hs λw hs=>?_;simp only[nz,ae,af];apply ig (k:=0) hs rfl rfl;refine Kk (k:=0) hs rfl (λj v hj=>by rw[az];exact hj) ?_;refine Bg hs λw hs=>?_;simp only[nz,ae,af];apply ig (k:=0) hs rfl rfl;have ew:ag.wrap (((fV n which:Nat):Int)+((cQ n:Nat):Int))=((fV n which+cQ n:Nat):Int):=by rw[aS (by omega)];omega
 rw[ew];have wI:(pt r (dF n)::L)[k+1]?=some (ft d D):=by rw[aW];exact hk
 refine CI (k:=k+1) hs wI iw (by omega) oI λw hs=>?_;rw[kf] at hs;simp only[nz,ae,af];apply ig (k:=0) hs rfl rfl;unfold put at hK;have L6:(lay D (fV n which) ((fV n which+cQ n:Nat):Int) number s).1.Ok\/(lay D (fV n which) ((fV n which+cQ n:Nat):Int) number s).2≠0:=by
  by_cases hc:fX s.size<=4097
  ·exact .inl (EO iw (by omega)).1
  ·refine .inr ?_;unfold lay;split
   ·simp
   ·rw[aj (by omega)];simp
 refine rU (λhZ=>?_) (λh0=>?_)
 ·rw[aj hZ] at hK;exact hK w hs.drop
 ·rw[ah (λhh=>hh h0)] at hK;refine se (k:=k+1) hs (by rw[aW];exact gR hk) (L6.resolve_right (λhh=>hh h0)) λw hs=>?_;rw[kf,gW] at hs;simp only[nz,ae,af];exact hK w hs.drop
def Qv{n:Nat}{which number size:Int}{K:VK}(h:St W w L)(hk:L[k]?=some (ft d D))(iw:D.Ok)(sm:12<=n)(eQ:n<=4096)
 (hK:∀w',St W w' L->K (qd (get D n which number size)) w'):nO (dF n) (ai d) which number size K w:=by
 have Kr:=vY sm which;unfold nO;refine gh h λr w dM=>?_;simp only[nz,ae,af];refine km dM λw hs=>?_;refine gU (k:=0) (xs:=dF n) hs rfl rfl (λj v hj=>by rw[az];exact hj) ?_;refine gU (k:=0) (xs:=dF n) hs rfl rfl (λj v hj=>by rw[az];exact hj) ?_;apply cy (k:=0) hs rfl rfl;simp only[nz,ae,af];refine Bg hs λw hs=>?_;simp only[nz,ae,af];apply ig (k:=0) hs rfl rfl;refine Kk (k:=0) hs rfl (λj v hj=>by rw[az];exact hj) ?_;refine Bg hs λw hs=>?_;simp only[nz,ae,af];apply ig (k:=0) hs rfl rfl;have ew:ag.wrap (((fV n which:Nat):Int)+((cQ n:Nat):Int))=((fV n which+cQ n:Nat):Int):=by rw[aS (by omega)];omega
 rw[ew];refine Ef (k:=k+1) hs (by rw[aW];exact hk) iw λw hs=>?_;unfold get at hK;cases hg:take D (fV n which) ((fV n which+cQ n:Nat):Int) number size with
 |none=>
  rw[hg] at hK;unfold qd at hK⊢;simp only[nz,ae,af];apply ig (k:=0) hs rfl rfl;exact hK w hs.drop
 |some l=>
  rw[hg] at hK;unfold qd at hK⊢;simp only[nz,ae,af];apply ig (k:=0) hs rfl rfl;exact hK w hs.drop
end
structure Calm(n:Nat)(D:ba):Prop where
 ok:D.Ok
 arm:D.arm=0
 later:D.later.length<=1000
 len:D.safe.length=n
def Ct{n:Nat}(h:n<=4096):Calm n (ba.new n):=by
 refine⟨Wj n,rfl,aL _,?_⟩;simp only[ba.new,gi];have:min2 (max2 (n:Int) 0) 4096=n:=by unfold min2 max2;split<;>split<;>omega
 rw[this];omega
def yB{n:Nat}(h:n<=4096){j:Nat}(hj:j<n):((ba.new n).read (j:Int)).1=jY 128:=by
 have hc:=Ct h;rw[Ls (D:=ba.new n) rfl (i:=j) (by rw[hc.len];exact hj)];simp[ba.new]
def Sk{n:Nat}{D:ba}{which number:Int}{s:BA}(hlen:D.safe.length=n)(sm:12<=n)(eQ:n<=4096)(sQ:1<=number/\number<=1152921504606846976)(hl:fX s.size<=cQ n)
 (hr:∀q:Nat,q<fX s.size->(D.read (((fV n which:Nat):Int)+q)).1=leaf number q (part s q)):get D n which number s.size=some s.data.toList:=by
 have Kr:=vY sm which;have hb:s.size<=104* fX s.size:=by unfold fX;split<;>omega
 have Zw:∀q:Nat,(part s q).size=min (104* (q+1)) s.size-104* q:=λq=>by unfold part;rw[vj]
 unfold get take;rw[ah (by rw[hlen,aq];omega),aq,y9 (s:=s) (fX s.size) 0 (λq _ hq=>by
  rw[hr q (by omega)]
  have hg:eL number q (part s q):=⟨sQ.1,sQ.2,by omega,by omega,tu s q⟩
  unfold leaf
  rw[aj hg]
  exact⟨ui hg,by rw[Zw];omega⟩)]
 congr 1
 rw[Nat.mul_zero,oC,bg (by rw[fa];exact hb)]
section
variable {W w:World} {L:LH}
end
section
variable {W w:World} {L:LH}
def MS{n m:Nat}{K:VK}(h:St W w L)(hm:m<1099511627776000)(hK:∀w',St W w' L->K (.b (decide (fX m<=cQ n))) w'):mW (dF n) m K w:=by
 unfold mW;refine gh h λr w hs=>?_;refine km hs λw hs=>?_;refine dY (λ_=>?_) (λhh=>by omega);apply cy (k:=0) hs rfl rfl;simp only[nz,ae,af];apply ox (by omega);simp only[nz,ae,af];apply ig (k:=0) hs rfl rfl;have e:decide (((fX m:Nat):Int)<=((cQ n:Nat):Int))=decide (fX m<=cQ n):=by rw[decide_eq_decide];omega
 rw[e];exact hK w hs.drop
end
def Pm(x:BA):(Ce x).data.toList=x.data.toList.take 8:=by unfold Ce;rw[extract_toList];rfl
def NO{x:BA}(h:x.size=128):(AQ x).data.toList=x.data.toList.drop 120:=by
 unfold AQ;rw[h,extract_toList,bg (by rw[aV,fa,h];omega)]
def vc{α:Type}(a b:List α)(m:Nat)(h:a.length=m):(a++b).take m=a:=by subst h;exact zX
def vN{α:Type}(a b:List α)(m:Nat)(h:a.length=m):(a++b).drop m=b:=by subst h;exact List.drop_left
def Gz{n i:Int}{s:BA}:(kL n i s).take 8=le .i64 8 n:=by
 unfold kL pre;simp only[aI];exact vc _ _ 8 (aJ _ _ _)
def C6{n i:Int}{s:BA}(hs:s.size<=104):(kL n i s).drop 120=le .i64 8 n:=by
 unfold kL;exact vN _ _ 120 (by rw[ak,pO hs];rfl)
def Bh(n:Nat):(jY n).data.toList=aM n 0:=by unfold jY;rfl
def Kx{D:ba}{b:Int}(hb:0<=b):∀j,(∀i:Nat,i<j->numOf (Ce (D.read (i:Int)).1)<=b/\numOf (AQ (D.read (i:Int)).1)<=b)->gL D j<=b
 |0,_=>hb
 |j+1,h=>by
  have h1:=Kx hb j (λi hi=>h i (by omega));have h2:=h j (by omega);simp only[gL];unfold max2;split<;>split<;>omega
section
variable {W w:World} {L:LH}
end
def oH(D:ba)(at' toX number:Int)(s:BA):ba×Int:=if(lay D at' toX number s).2≠0 then lay D at' toX number s else(lay D at' toX number s).1.sync
def Zd{D:ba}{at' toX number:Int}{s:BA}(h:D.Ok)(hl:D.later.length+fX s.size<1099511627776):(oH D at' toX number s).1.Ok:=by
 have:=(EO (at':=at') (number:=number) (s:=s) (toX:=toX) h hl).1;unfold oH;split
 ·exact this
 ·exact JK this
def O5{n a t:Nat}{D:ba}{number:Int}{s:BA}(h:Calm n D)(eQ:n<=4096)(sQ:1<=number/\number<=1152921504606846976)(hl:a+fX s.size<=t)(htn:t<=n):(oH D a t number s).1.later=[]:=by
 have hcp:=A8 s.size;have e:lay D (a:Nat) ((t:Nat):Int) number s=pP (a:Nat) number s D 0 (fX s.size):=by
  unfold lay;rw[ah (by rw[h.len];omega),ah (by omega)]
 obtain⟨l1,l2,_,_,_⟩:=Kj (at':=((a:Nat):Int)) (number:=number) (s:=s) sQ (by omega) (fX s.size) 0 (D:=D) h.arm (by rw[h.len];omega) (by omega);unfold oH;rw[e,ah (λhh=>hh l1),Dk.JL l2]
def Ke{n a t:Nat}{D:ba}{number:Int}{s:BA}(h:Calm n D)(eQ:n<=4096)(sQ:1<=number/\number<=1152921504606846976)(hl:a+fX s.size<=t)(htn:t<=n):
 (oH D a t number s).2=0/\Calm n (oH D a t number s).1/\(∀q:Nat,q<fX s.size->((oH D a t number s).1.read (((a:Nat):Int)+q)).1=leaf number q (part s q))/\
 ∀j:Nat,j<n->(j<a\/a+fX s.size<=j)->((oH D a t number s).1.read (j:Int)).1=(D.read (j:Int)).1:=by
 have e:lay D (a) ((t:Nat):Int) number s=pP (a) number s D 0 (fX s.size):=by
  unfold lay;rw[ah (by rw[h.len];omega),ah (by omega)]
 have hl0:=Kj (at':=((a:Nat):Int)) (number:=number) (s:=s) sQ (by omega) (fX s.size) 0 (D:=D) h.arm (by rw[h.len];omega) (by omega);have hli:=Ki (at':=((a:Nat):Int)) (number:=number) (s:=s) sQ (by omega) (fX s.size) 0 (D:=D) h.arm (by rw[h.len];omega) (by omega);have iw:=A2 (at':=((a:Nat):Int)) (number:=number) (s:=s) (fX s.size) 0 h.ok (by have:=h.later;omega);unfold oH;rw[e];obtain⟨l1,l2,l3,l4,l5⟩:=hl0;rw[ah (λhh=>hh l1)];generalize (pP ((a:Nat):Int) number s D 0 (fX s.size)).1=D1 at *;have T7:D1.safe.length=n:=by rw[l3];exact h.len
 have l7:=Dk.JL l2;have Ub:Calm n D1.sync.1:=⟨JK iw.1,Dk.K3 l2,by rw[l7];exact aL _,by rw[Dk.FX.1];exact T7⟩;have Zu:∀j:Nat,j<n->(D1.sync.1.read (j:Int)).1=D1.now (j:Int):=λj hj=>by
  have h1:D1.sync.1.is (j:Int):=⟨by omega,by rw[Ub.len];omega⟩;have h2:D1.is (j:Int):=⟨by omega,by rw[T7];omega⟩;unfold ba.read;rw[aj h1];exact Dk.LJ l2 iw.1 h2
 refine⟨by rw[l7],Ub,λq hq=>?_,λj hj QP=>?_⟩
 ·have:=Zu (a+q) (by omega);rw[show(((a:Nat):Int)+(q:Int))=((a+q:Nat):Int) from by omega,this,show((a+q:Nat):Int)=((a:Nat):Int)+(q:Int) from by omega];exact hli q (aL _) (by omega)
 ·rw[Zu j hj,l5 (j:Int) (by omega)];have h2:D.is (j:Int):=⟨by omega,by rw[h.len];omega⟩;unfold ba.read;rw[aj h2]
structure Ends(g:Nat)(X:BA):Prop where
 size:X.size=128
 hd:∃a,a<=g/\X.data.toList.take 8=le .i64 8 ((a:Nat):Int)
 tl:∃b,b<=g/\X.data.toList.drop 120=le .i64 8 ((b:Nat):Int)
def Ends.mono{g g':Nat}{X:BA}(h:Ends g X)(hg:g<=g'):Ends g' X:=by
 obtain⟨h1,⟨a,h2,h3⟩,b,h4,h5⟩:=h;exact⟨h1,⟨a,by omega,h3⟩,b,by omega,h5⟩
def Cl:Ends 0 (jY 128):=⟨ry 128,⟨0,aC _,by rw[Bh];decide+kernel⟩,0,aC _,by rw[Bh];decide+kernel⟩
def tz{n i:Int}{s:BA}(h:eL n i s):(leaf n i s).data.toList=kL n i s:=by unfold leaf;rw[aj h];rfl
def D5{n:Nat}{i:Int}{s:BA}(h:eL n i s):Ends n (leaf n i s):=
 ⟨zy h,⟨n,aC _,by rw[tz h,Gz]⟩,n,aC _,by rw[tz h,C6 h.2.2.2.2]⟩
def Ad{n:Nat}(h:n<256):numOf (bs (le .i64 8 ((n:Nat):Int)))=n:=by
 unfold numOf;show(if 1<=lu (le .i64 8 (n:Int))/\lu (le .i64 8 (n:Int))<=1152921504606846976 then _ else _)=_;rw[qu ⟨by omega,by omega⟩];by_cases h0:n=0
 ·subst h0;rfl
 ·rw[aj ⟨by omega,by omega⟩];show lu (le .i64 8 (n:Int))=_;rw[qu ⟨by omega,by omega⟩]
def Ends.num{g:Nat}{X:BA}(h:Ends g X)(hg:g<256):numOf (Ce X)<=g/\numOf (AQ X)<=g:=by
 obtain⟨h1,⟨a,h2,h3⟩,b,h4,h5⟩:=h;have e1:Ce X=bs (le .i64 8 ((a:Nat):Int)):=oM (by rw[Pm,h3];rfl);have e2:AQ X=bs (le .i64 8 ((b:Nat):Int)):=oM (by rw[NO h1,h5];rfl);rw[e1,e2,Ad (by omega),Ad (by omega)];omega
def DV{D:ba}{g:Nat}(hg:g<256)(j:Nat)(h:∀i:Nat,i<j->Ends g (D.read (i:Int)).1):gL D j<=g:=Kx (by omega) j (λi hi=>(h i hi).num hg)
structure fB where
 bB:Int
 number:Int
 size:Int
 seq:Int
deriving DecidableEq
def bm(h:fB):LV:=[.i h.bB,.i h.number,.i h.size,.i h.seq]
def mN(h:fB):Prop:=1<=h.bB/\h.bB<=1152921504606846976/\1<=h.number/\h.number<=1152921504606846976/\0<=h.size/\h.size<=425984/\0<=h.seq/\h.seq<=1152921504606846976
instance(h:fB):Decidable (mN h):=by unfold mN;infer_instance
def j0(h:fB):List UInt8:=le .i64 8 h.bB++le .i64 8 h.number++le .i64 8 h.size++le .i64 8 h.seq
def qY(h:fB):(j0 h).length=32:=by simp only[j0,ak,aJ]
def Bi:fB:=⟨0,0,0,0⟩
def uC(l:List UInt8):fB:=⟨lu (l.take 8),lu ((l.drop 8).take 8),lu (((l.drop 8).drop 8).take 8),lu ((((l.drop 8).drop 8).drop 8).take 8)⟩
def DA(l:List UInt8):Option fB:=if l.length=32/\mN (uC l) then some (uC l) else none
def Dh:∀(a b:List UInt8),a.length=b.length->ka a=ka b->a=b
 |[],[],_,_=>rfl
 |[],_::_,h,_=>by simp at h
 |_::_,[],h,_=>by simp at h
 |c::a,d::b,h,hv=>by
  have hc:=c.toNat_lt;have hd:=d.toNat_lt;simp only[ka] at hv;have h1:c.toNat=d.toNat:=by omega
  rw[Dh a b (by simpa using h) (by omega),UInt8.toNat_inj.1 h1]
def GM{h:fB}(hg:mN h):DA (j0 h)=some h:=by
 obtain⟨h1,h2,h3,h4,h5,h6,h7,h8⟩:=hg;have uA:j0 h=le .i64 8 h.bB++(le .i64 8 h.number++(le .i64 8 h.size++le .i64 8 h.seq)):=by simp only[j0,aI]
 have tl:∀(a b:List UInt8)(m:Nat),a.length=m->(a++b).take m=a:=λa b m hm=>by subst hm;exact zX
 have dl:∀(a b:List UInt8)(m:Nat),a.length=m->(a++b).drop m=b:=λa b m hm=>by subst hm;exact List.drop_left
 have e:uC (j0 h)=h:=by
  unfold uC;rw[uA,tl _ _ _ (aJ _ _ _),dl _ _ _ (aJ _ _ _),tl _ _ _ (aJ _ _ _),dl _ _ _ (aJ _ _ _),tl _ _ _ (aJ _ _ _),dl _ _ _ (aJ _ _ _),bg (by rw[aJ];omega)];rw[qu ⟨by omega,h2⟩,qu ⟨by omega,h4⟩,qu ⟨h5,by omega⟩,qu ⟨h7,h8⟩]
 unfold DA;rw[e,aj ⟨qY h,h1,h2,h3,h4,h5,h6,h7,h8⟩]
def nA:Option fB->Value
 |none=>.tuple ⟨[.agg ⟨bm Bi⟩,.b false]⟩
 |some h=>.tuple ⟨[.agg ⟨bm h⟩,.b true]⟩
section
variable {W w:World} {L:LH} {k:Nat}
def Cu{h:fB}{K:VK}(hs:St W w L)(hK:∀w',St W w' L->K (.b (decide (mN h))) w'):rQ (bm h) K w:=by
 unfold rQ;refine gh hs λr w hs=>?_;have hh:=hK w hs.drop;have no: ¬mN h->K (.b false) w:=λhn=>by rw[ay hn] at hh;exact hh
 apply cy (k:=0) hs rfl rfl;simp only[nz,ae,af];refine dY (λh1=>?_) (λh1=>no (by unfold mN;omega));apply cy (k:=0) hs rfl rfl;simp only[nz,ae,af];refine dY (λh2=>?_) (λh1=>no (by unfold mN;omega));apply cy (k:=0) hs rfl rfl;simp only[nz,ae,af];refine dY (λh3=>?_) (λh1=>no (by unfold mN;omega));apply cy (k:=0) hs rfl rfl;simp only[nz,ae,af];refine dY (λh4=>?_) (λh1=>no (by unfold mN;omega));apply cy (k:=0) hs rfl rfl;simp only[nz,ae,af];refine dY (λh5=>?_) (λh1=>no (by unfold mN;omega));apply cy (k:=0) hs rfl rfl;simp only[nz,ae,af];refine dY (λh6=>?_) (λh1=>no (by unfold mN;omega));apply cy (k:=0) hs rfl rfl;simp only[nz,ae,af];refine dY (λh7=>?_) (λh1=>no (by unfold mN;omega));apply cy (k:=0) hs rfl rfl;simp only[nz,ae,af];have:decide (h.seq<=1152921504606846976)=decide (mN h):=by rw[decide_eq_decide];unfold mN;omega
 rw[this];exact hh
def A5(h:fB):List UInt8×Int:=if mN h then(j0 h,0) else([],1)
def Hh{h:fB}{K:VK}(hs:St W w L)(hK:∀w',St W w' L->K (.tuple ⟨[.s (bs (A5 h).1),.i (A5 h).2]⟩) w'):sB (bm h) K w:=by
 unfold sB;refine gh hs λr w hs=>?_;refine gU (k:=0) (xs:=bm h) hs rfl rfl (λj v hj=>by rw[az];exact hj) ?_;refine Cu hs λw hs=>?_;simp only[nz,ae,af];unfold A5 at hK;by_cases hg:mN h
 ·rw[aj hg] at hK;rw[aA hg];simp only[nz,ae,af];refine gh hs λp w hs=>?_;have hs:St W w (buf p []::pt r (bm h)::L):=by
   have h2:=(hs.push (A:=own none 0 0 1 (([]:List UInt8).map og)) (qh 1)).perm (bA.swap _ _ _);exact rk (k:=0) (L:=buf p []::pt r (bm h)::L) (A:=buf p []) rfl rfl h2
  apply cy (k:=1) hs rfl rfl;simp only[nz,ae,af];apply cy (k:=1) hs rfl rfl;simp only[nz,ae,af];apply cy (k:=1) hs rfl rfl;simp only[nz,ae,af];apply cy (k:=1) hs rfl rfl;simp only[nz,ae,af];refine⟨λus w'=>∃j:Nat,us=[.s .empty,.i 0,.p (ai p),.agg ⟨bm h⟩,.i j]/\j<=4/\St W w' (buf p ((j0 h).take (8* j))::pt r (bm h)::L),
   λus _=>match us with|[_,_,_,_,.int _ j]=>4-j.toNat|_=>0,⟨0,rfl,aL _,hs⟩,?_⟩
  rintro s1 n5 a1 sR n6 w2 ⟨j,he,hj,hs⟩;cases he
  refine qS (λh0=>?_) (λh0=>?_)
  ·have hj4:j<4:=by have:=bG h0;omega
   have e5:=oe j;obtain⟨n,hn,jZ⟩:∃n,(bm h)[(j:Int).toNat]?=some (.i n)/\(j0 h).take (8* j)++le .i64 8 n=(j0 h).take (8* (j+1)):=by
    have uA:j0 h=le .i64 8 h.bB++(le .i64 8 h.number++(le .i64 8 h.size++le .i64 8 h.seq)):=by simp only[j0,aI]
    have ll:∀n,(le .i64 8 n).length=8:=λn=>aJ _ _ _
    match j,hj4 with
    |0,_=>exact⟨h.bB,rfl,by rw[uA,List.take_append_of_le_length (by rw[ll];omega),List.take_append_of_le_length (by rw[ll];omega),bg (l:=le .i64 8 h.bB) (i:=8* (0+1)) (by rw[ll];omega)];simp⟩
    |1,_=>exact⟨h.number,rfl,by simp only[j0,List.take_append,ll,ak];simp[bg,ll]⟩
    |2,_=>exact⟨h.size,rfl,by simp only[j0,List.take_append,ll,ak];simp[bg,ll]⟩
    |3,_=>exact⟨h.seq,rfl,by simp only[j0,List.take_append,ll,ak];simp[bg,ll]⟩
   refine⟨.i n,⟨by omega,by omega,hn⟩,?_⟩;simp only[nz,ae,af];refine ia (k:=0) hs rfl (by rw[aG];omega) λw hs=>?_;rw[show(min2 (max2 8 1) 8).toNat=8 from rfl,jZ] at hs;simp only[nz,ae,af] at hs⊢;rw[e5];exact⟨⟨j+1,rfl,by omega,hs⟩,by omega⟩
  ·have hj4:j=4:=by have:=cD h0;omega
   subst hj4;rw[bg (by rw[qY];omega)] at hs;apply jQ (k:=0) hs rfl;simp only[nz,ae,af];exact hK w2 hs.drop.drop
 ·rw[ah hg] at hK;rw[ay hg];simp only[nz,ae,af];exact hK w hs.drop
end
def Aa{l:List UInt8}{n j:Int}{d:BA}(h:oY l=some (n,j,d)):d.size<=104:=by
 unfold oY at h;split at h
 ·cases h
 split at h
 ·cases h
 split at h
 ·cases h
 split at h
 ·cases h
 split at h
 ·cases h
 split at h
 ·cases h
 rename_i h6;cases h
 exact(bh.1 h6).2.2.2.2
def nx(x:List UInt8×Bool):List UInt8×Bool:=if x.2=true\/x.1.length<8 then(x.1,true) else(x.1.drop 8,false)
def nv(x:List UInt8×Bool):Int:=if x.2=true\/x.1.length<8 then 0 else lu (x.1.take 8)
section
variable {W w:World} {L:LH} {k d:Nat} {D:ba}
def wB{r:Nat}{x:List UInt8×Bool}{K:VK}(h:St W w L)(hk:L[k]?=some (AD r (bs x.1) x.2))(hl:x.1.length<1099511627776)
 (hK:∀w',St W w' (L.set k (AD r (bs (nx x).1) (nx x).2))->K (.i (nv x)) w'):aF (ai r) 8 K w:=by
 apply yZ h hk;have em:min2 (max2 8 1) 8=((8:Nat):Int):=rfl;rw[em];obtain⟨l,t⟩:=x;unfold nx nv at hK;dsimp only at hK hl⊢;by_cases hc:t=true\/l.length<8
 ·rw[aj hc,aj hc] at hK;have et:pB (bs l) t ((8:Nat):Int)=true:=by
   unfold pB;rcases hc with h1|h1
   ·rw[h1];rfl
   ·rw[bn,aA (by omega)];simp
  unfold AE vy;rw[et,aj rfl,aj rfl];exact hK
 ·rw[ah hc,ah hc] at hK;have ht:t=false:=by cases t<;>simp_all
  have et:pB (bs l) t ((8:Nat):Int)=false:=by
   unfold pB;rw[ht,bn,ay (by omega)];rfl
  unfold AE vy;rw[et,aq,ju,kz];exact hK
def Hx{r:Nat}{x:List UInt8×Bool}{K:VK}(h:St W w L)(hk:L[k]?=some (AD r (bs x.1) x.2))(hK:K (.b (!x.2&&decide (x.1=[]))) w):gZ (ai r) K w:=by
 unfold AD at hk;unfold gZ;simp only[nz,ae,af];apply cy h hk rfl;simp only[nz,ae,af];obtain⟨l,t⟩:=x;cases t with
 |true=>exact hK
 |false=>
  simp only[nz,ae,af];apply cy h hk rfl;simp only[nz,ae,af];have hem:(⟨#[]⟩:BA)=bs []:=rfl;have e:decide (bs l=bs [])=decide (l=[]):=by rw[decide_eq_decide];exact zP
  rw[q9,hem,e];exact hK
def AX{x:List UInt8×Bool}(h:(nx x).2=false):x.2=false/\8<=x.1.length/\(nx x).1.length+8=x.1.length:=by
 unfold nx at h⊢;by_cases hc:x.2=true\/x.1.length<8
 ·rw[aj hc] at h;cases h
 ·rw[ah hc];have h1:x.2=false:=by cases hx:x.2 with
   |true=>exact aR (.inl hx) hc
   |false=>rfl
  have h2:8<=x.1.length:=by
   by_cases hh:8<=x.1.length
   ·exact hh
   ·exact aR (.inr (by omega)) hc
  refine⟨h1,h2,?_⟩;show(x.1.drop 8).length+8=x.1.length;rw[aV];omega
def RB{l:List UInt8}(h:l.length≠32):(!(nx (nx (nx (nx (l,false))))).2&&decide ((nx (nx (nx (nx (l,false))))).1=[]))=false:=by
 cases h4:(nx (nx (nx (nx (l,false))))).2 with
 |true=>rfl
 |false=>
  obtain⟨b3,c3,d3⟩:=AX h4;obtain⟨b2,c2,d2⟩:=AX b3;obtain⟨b1,c1,d1⟩:=AX b2;obtain⟨b0,c0,d0⟩:=AX b1;have hZ:(nx (nx (nx (nx (l,false))))).1≠[]:=λhe=>by
   rw[he,dH] at d3;dsimp only at d0;omega
  rw[ay hZ];rfl
def Wg{l:List UInt8}(h:l.length=32):nx (l,false)=(l.drop 8,false)/\nx (l.drop 8,false)=((l.drop 8).drop 8,false)/\nx ((l.drop 8).drop 8,false)=(((l.drop 8).drop 8).drop 8,false)/\nx (((l.drop 8).drop 8).drop 8,false)=([],false)/\
 nv (l,false)=lu (l.take 8)/\nv (l.drop 8,false)=lu ((l.drop 8).take 8)/\nv ((l.drop 8).drop 8,false)=lu (((l.drop 8).drop 8).take 8)/\nv (((l.drop 8).drop 8).drop 8,false)=lu ((((l.drop 8).drop 8).drop 8).take 8):=by
 have l1:(l.drop 8).length=24:=by rw[aV];omega
 have l2:((l.drop 8).drop 8).length=16:=by rw[aV,l1]
 have l3:(((l.drop 8).drop 8).drop 8).length=8:=by rw[aV,l2]
 have l4:(((l.drop 8).drop 8).drop 8).drop 8=[]:=List.drop_eq_nil_iff.2 (by omega);unfold nx nv;refine⟨?_,?_,?_,?_,?_,?_,?_,?_⟩
 ·rw[ah (by simp;omega)]
 ·rw[ah (by simp only[cn,false_or];omega)]
 ·rw[ah (by simp only[cn,false_or];omega)]
 ·rw[ah (by simp only[cn,false_or];omega),l4]
 ·rw[ah (by simp;omega)]
 ·rw[ah (by simp only[cn,false_or];omega)]
 ·rw[ah (by simp only[cn,false_or];omega)]
 ·rw[ah (by simp only[cn,false_or];omega)]
def Iz(x:List UInt8×Bool):(nx x).1.length<=x.1.length:=by unfold nx;split<;>simp
def Jb{l:List UInt8}{K:VK}(hs:St W w L)(hl:l.length<1099511627776)(hK:∀w',St W w' L->K (nA (DA l)) w'):uF (bs l) K w:=by
 unfold uF;refine gh hs λr1 w hs=>?_;refine pK hs λq w hs=>?_;simp only[nz,ae,af];have n1:=Iz (l,false);have n2:=Iz (nx (l,false));have n3:=Iz (nx (nx (l,false)));dsimp only at n1;refine wB (k:=0) (x:=(l,false)) hs rfl hl λw hs=>?_;simp only[nz,ae,af] at hs⊢;refine wB (k:=0) (x:=nx (l,false)) hs rfl (by omega) λw hs=>?_;simp only[nz,ae,af] at hs⊢;refine wB (k:=0) (x:=nx (nx (l,false))) hs rfl (by omega) λw hs=>?_;simp only[nz,ae,af] at hs⊢;refine wB (k:=0) (x:=nx (nx (nx (l,false)))) hs rfl (by omega) λw hs=>?_;simp only[nz,ae,af] at hs⊢;refine gh hs λr2 w hs=>?_;refine⟨by simp,?_⟩;refine ic (k:=0) hs rfl (aH rfl) (by simp[Value.oneCell']) λw hs=>?_;rw[fI (by simp)] at hs;simp only[nz,ae,af] at hs;apply Hx (k:=1) (x:=nx (nx (nx (nx (l,false))))) hs rfl;simp only[nz,ae,af];have fail:∀w A B,(∀w',St W w' L->K (nA none) w')->St W w (A::B::pt r1 [.i 0,.i 0,.i 0,.i 0]::L)->fH ⟨r1,0,none⟩ [.i 0,.i 0,.i 0,.i 0] (aD ⟨r1,0,none⟩ 4 λcs=>K (.tuple ⟨[.agg ⟨cs⟩,.b false]⟩)) w:=λw A B hK hs=>by
  refine ic (k:=2) hs rfl (aH rfl) (by simp[Value.oneCell']) λw hs=>?_;rw[fI (by simp)] at hs;refine gU (k:=2) (xs:=[.i 0,.i 0,.i 0,.i 0]) hs rfl rfl (λj v hj=>by rw[az];exact hj) ?_;exact hK w hs.drop.drop.drop
 unfold DA at hK;by_cases h32:l.length=32
 ·obtain⟨a1,a2,a3,a4,b1,b2,b3,b4⟩:=Wg h32;rw[a1,a2,a3,a4] at hs⊢;rw[b1,b2,b3,b4] at hs;have ee:(!((([]:List UInt8),false):List UInt8×Bool).2&&decide ((((([]:List UInt8),false):List UInt8×Bool)).1=[]))=true:=by decide
  rw[ee];simp only[nz,ae,af];have hs:St W w (pt r2 (bm (uC l))::AD q (bs []) false::pt r1 [.i 0,.i 0,.i 0,.i 0]::L):=hs;refine gU (k:=0) (xs:=bm (uC l)) hs rfl rfl (λj v hj=>by rw[az];exact hj) ?_;refine Cu hs λw hs=>?_;simp only[nz,ae,af];by_cases hg:mN (uC l)
  ·rw[aj ⟨h32,hg⟩] at hK;rw[aA hg];simp only[nz,ae,af];refine gU (k:=0) (xs:=bm (uC l)) hs rfl rfl (λj v hj=>by rw[az];exact hj) ?_;refine⟨rfl,?_⟩;refine ic (k:=2) hs rfl (aH rfl) (by simp[Value.oneCell',bm]) λw hs=>?_;rw[fI (by simp[bm])] at hs;simp only[nz,ae,af] at hs;refine gU (k:=2) (xs:=bm (uC l)) hs rfl rfl (λj v hj=>by rw[az];exact hj) ?_;exact hK w hs.drop.drop.drop
  ·rw[ah (λhh=>hg hh.2)] at hK;rw[ay hg];simp only[nz,ae,af];exact fail w _ _ hK hs
 ·rw[ah (λhh=>h32 hh.1)] at hK;rw[RB h32];simp only[nz,ae,af];exact fail w _ _ hK hs
def CP(D:ba)(i:Nat):Option fB:=
 match oY (D.read (i:Int)).1.data.toList with
 |none=>none
 |some (_,j,d)=>if(D.read (i:Int)).2≠0\/j≠0 then none else match DA d.data.toList with
  |none=>none
  |some h=>if low h.bB≠i then none else some h
def KM{i:Nat}{K:VK}(hs:St W w L)(hk:L[k]?=some (ft d D))(iw:D.Ok)(hK:∀w',St W w' L->K (nA (CP D i)) w'):ml (ai d) i K w:=by
 unfold ml;refine gh hs λr1 w hs=>?_;have hk1:(pt r1 [.i 0,.i 0,.i 0,.i 0]::L)[k+1]?=some (ft d D):=by rw[aW];exact hk
 apply pv (k:=k+1) hs hk1 iw;simp only[nz,ae,af];have fail:∀w A,(∀w',St W w' L->K (nA none) w')->St W w (A::pt r1 [.i 0,.i 0,.i 0,.i 0]::L)->fH ⟨r1,0,none⟩ [.i 0,.i 0,.i 0,.i 0] (aD ⟨r1,0,none⟩ 4 λcs=>K (.tuple ⟨[.agg ⟨cs⟩,.b false]⟩)) w:=λw A hK hs=>by
  refine ic (k:=1) hs rfl (aH rfl) (by simp[Value.oneCell']) λw hs=>?_;rw[fI (by simp)] at hs;refine gU (k:=1) (xs:=[.i 0,.i 0,.i 0,.i 0]) hs rfl rfl (λj v hj=>by rw[az];exact hj) ?_;exact hK w hs.drop.drop
 have Kz:∀w r2 A,(∀w',St W w' L->K (nA none) w')->St W w (A::pt r1 [.i 0,.i 0,.i 0,.i 0]::L)->ml.j1 K r1 r2 i true w:=λw r2 A hK hs=>by
  unfold ml.j1;simp only[nz,ae,af];exact fail w A hK hs
 have Ym:(D.read (i:Int)).1.size<1099511627776:=by
  by_cases hi:D.is (i:Int)
  ·have:=we iw hi;omega
  ·unfold ba.read;rw[ah hi];decide
 unfold CP at hK;generalize hx:(D.read (i:Int)).1=x at *;generalize he:(D.read (i:Int)).2=e at *;rw[show x=bs x.data.toList from rfl];refine zV hs (by rw[fa];exact Ym) λw hs=>?_;cases hv:oY x.data.toList with
 |none=>
  rw[hv] at hK;unfold qW;simp only[nz,ae,af];simp only[uM,bw,dH,az,ae,true_and];simp only[nz,ae,af];refine gh hs λr2 w hs=>?_;refine⟨trivial,ic (k:=0) hs rfl (aH rfl) (by simp[Value.oneCell']) λw hs=>?_⟩;simp only[nz,ae,af] at hs;refine rU (λ_=>Kz w r2 _ hK hs) (λ_=>?_);exact Kz w r2 _ hK hs
 |some y=>
  obtain⟨m,j,dd⟩:=y;rw[hv] at hK;dsimp only at hK;unfold qW;simp only[nz,ae,af];simp only[uM,bw,dH,az,ae,true_and];simp only[nz,ae,af];refine gh hs λr2 w hs=>?_;refine⟨trivial,ic (k:=0) hs rfl (aH rfl) (by simp[Value.oneCell']) λw hs=>?_⟩;rw[fI (by simp)] at hs;simp only[nz,ae,af] at hs;refine rU (λhZ=>?_) (λh0=>?_)
  ·rw[aj (.inl hZ)] at hK;exact Kz w r2 _ hK hs
  apply cy (k:=0) hs rfl rfl;simp only[nz,ae,af];by_cases hj:j=0
  ·rw[ah (by rintro(h|h);exact h h0;exact h hj)] at hK;have ej:(j !=0)=false:=by simp[hj]
   rw[ej];unfold ml.j1;simp only[nz,ae,af];apply cy (k:=0) hs rfl rfl;simp only[nz,ae,af];rw[show dd=bs dd.data.toList from rfl];refine Jb hs (by
    rw[fa]
    have:=(Aa hv)
    omega) λw hs=>?_
   cases hh:DA dd.data.toList with
   |none=>
    rw[hh] at hK;unfold nA;simp only[nz,ae,af];simp only[uM];refine⟨rfl,?_⟩;simp only[nz,ae,af];refine gh hs λr3 w hs=>?_;refine⟨by simp[bm],ic (k:=0) hs rfl (aH rfl) (by simp[Value.oneCell',bm]) λw hs=>?_⟩;rw[fI (by simp[bm])] at hs;simp only[nz,ae,af] at hs;refine⟨trivial,by simp,?_⟩;refine ic (k:=2) hs rfl (aH rfl) (by simp[Value.oneCell']) λw hs=>?_;rw[fI (by simp)] at hs;simp only[nz,ae,af] at hs;refine gU (k:=2) (xs:=[.i 0,.i 0,.i 0,.i 0]) hs rfl rfl (λj v hj=>by rw[az];exact hj) ?_;exact hK w hs.drop.drop.drop
   |some hd=>
    rw[hh] at hK;dsimp only at hK;unfold nA;simp only[nz,ae,af];simp only[uM];refine⟨rfl,?_⟩;simp only[nz,ae,af];refine gh hs λr3 w hs=>?_;refine⟨by simp[bm],ic (k:=0) hs rfl (aH rfl) (by simp[Value.oneCell',bm]) λw hs=>?_⟩;rw[fI (by simp[bm])] at hs;simp only[nz,ae,af] at hs;apply cy (k:=0) hs rfl rfl;simp only[nz,ae,af];refine rU (λhZ=>?_) (λheq=>?_)
    ·rw[aj (show low hd.bB≠(i:Int) from hZ)] at hK;refine⟨trivial,by simp,?_⟩;refine ic (k:=2) hs rfl (aH rfl) (by simp[Value.oneCell']) λw hs=>?_;rw[fI (by simp)] at hs;simp only[nz,ae,af] at hs;refine gU (k:=2) (xs:=[.i 0,.i 0,.i 0,.i 0]) hs rfl rfl (λj v hj=>by rw[az];exact hj) ?_;exact hK w hs.drop.drop.drop
    ·rw[ah (show ¬low hd.bB≠(i:Int) from λhh=>hh heq)] at hK;refine gU (k:=0) (xs:=bm hd) hs rfl rfl (λj v hj=>by rw[az];exact hj) ?_;refine⟨rfl,?_⟩;refine ic (k:=2) hs rfl (aH rfl) (by simp[Value.oneCell',bm]) λw hs=>?_;rw[fI (by simp[bm])] at hs;simp only[nz,ae,af] at hs;refine gU (k:=2) (xs:=bm hd) hs rfl rfl (λj v hj=>by rw[az];exact hj) ?_;exact hK w hs.drop.drop.drop
  ·rw[aj (.inr hj)] at hK;have ej:(j !=0)=true:=by simp[hj]
   rw[ej];exact Kz w r2 _ hK hs
end
def dw(n:Nat)(x:List UInt8×Bool):List UInt8×Bool:=if x.2=true\/x.1.length<n then(x.1,true) else(x.1.drop n,false)
def gH(n:Nat)(x:List UInt8×Bool):Int:=if x.2=true\/x.1.length<n then 0 else lu (x.1.take n)
def J9(x:List UInt8×Bool):0<=gH 4 x/\gH 4 x<4294967296:=by
 unfold gH;split
 ·omega
 ·have h1:=pZ (x.1.take 4);have h2:(x.1.take 4).length<=4:=by rw[aG];omega
  have h3:256^(x.1.take 4).length<=256^4:=ja (by decide) h2;have h4:(256:Nat)^4=4294967296:=rfl;rw[mZ (by omega)];omega
def iE(seq:Int)(s:BA):List UInt8:=le .i64 8 seq++le .i64 4 s.size++s.data.toList
def wV(seq:Int)(s:BA):(iE seq s).length=12+s.size:=by
 simp only[iE,ak,aJ];rfl
def oG(D:ba)(at' toX seq:Int):Option (List UInt8×Int):=
 if toX<=at' then none else match oY (D.read at').1.data.toList with
 |none=>none
 |some (m,j,d)=>
  if j≠0\/gH 8 (d.data.toList,false)≠seq then none
  else if(dw 4 (dw 8 (d.data.toList,false))).2=true\/32768<gH 4 (dw 8 (d.data.toList,false)) then none
  else match take D at' toX m (12+gH 4 (dw 8 (d.data.toList,false))) with
  |none=>none
  |some t=>some (t.drop 12,at'+(fX (12+gH 4 (dw 8 (d.data.toList,false))).toNat:Int))
def yz:Option (List UInt8×Int)->Value
 |none=>.tuple ⟨[.s .empty,.i 0,.b false]⟩
 |some (l,a)=>.tuple ⟨[.s (bs l),.i a,.b true]⟩
def xO{D:ba}{at' number:Int}{size:Nat}:∀(n i:Nat) {t:List UInt8},oT D at' number size i n=some t->104* i<=size->size<=104* (i+n)->t.length=size-104* i
 |0,i,t,h,h1,h2=>by
  simp only[oT,bj.injEq] at h;subst h;simp;omega
 |n+1,i,t,h,h1,h2=>by
  rw[tW] at h;split at h
  ·cases h
  ·rename_i m j d hv;split at h
   ·rename_i hc;cases ht:oT D at' number size (i+1) n with
    |none=>rw[ht] at h;cases h
    |some u=>
     rw[ht] at h;simp only[dN,bj.injEq] at h;subst h;have hd:d.data.toList.length=d.size:=rfl;by_cases h3:104* (i+1)<=size
     ·have:=xO n (i+1) ht h3 (by omega);rw[ak,this,hd,hc.2.2];omega
     ·
      have hz:∀(n i:Nat) {u:List UInt8},oT D at' number size i n=some u->size<=104* i->u.length=0:=by
       intro n
       induction n with
       |zero=>intro i u h _;simp only[oT,bj.injEq] at h;subst h;rfl
       |succ n ih=>
        intro i u h hle;rw[tW] at h;split at h
        ·cases h
        ·rename_i m j d hv;split at h
         ·rename_i hc;cases ht:oT D at' number size (i+1) n with
          |none=>rw[ht] at h;cases h
          |some v=>
           rw[ht] at h;simp only[dN,bj.injEq] at h;subst h;have:=ih (i+1) ht (by omega);have hd:d.data.toList.length=d.size:=rfl;rw[ak,this,hd,hc.2.2];omega
         ·cases h
      have:=hz n (i+1) ht (by omega);rw[ak,this,hd,hc.2.2];omega
   ·cases h
def take_length{D:ba}{at' toX number size:Int}{t:List UInt8}(h:take D at' toX number size=some t):(t.length:Int)=size/\0<=at'/\at'+(fX size.toNat:Int)<=toX/\toX<=(D.safe.length:Int)/\0<=size:=by
 unfold take at h;split at h
 ·cases h
 ·rename_i hc;have hs:size.toNat<=104* fX size.toNat:=by unfold fX;split<;>omega
  have:=xO (fX size.toNat) 0 h (by omega) (by omega);omega
section
variable {W w:World} {L:LH} {k d:Nat} {D:ba}
def wA{r n:Nat}{x:List UInt8×Bool}{K:VK}(h:St W w L)(hk:L[k]?=some (AD r (bs x.1) x.2))(hl:x.1.length<1099511627776)(hn:1<=n/\n<=8)
 (hK:∀w',St W w' (L.set k (AD r (bs (dw n x).1) (dw n x).2))->K (.i (gH n x)) w'):aF (ai r) (n:Int) K w:=by
 refine yZ h hk ?_;have em:min2 (max2 (n:Int) 1) 8=((n:Nat):Int):=by unfold min2 max2;split<;>split<;>omega
 rw[em];obtain⟨l,t⟩:=x;unfold dw gH at hK;dsimp only at hK hl⊢;by_cases hc:t=true\/l.length<n
 ·rw[aj hc,aj hc] at hK;have et:pB (bs l) t ((n:Nat):Int)=true:=by
   unfold pB;rcases hc with h1|h1
   ·rw[h1];rfl
   ·rw[bn,aA (by omega)];simp
  unfold AE vy;rw[et,aj rfl,aj rfl];exact hK
 ·rw[ah hc,ah hc] at hK;have ht:t=false:=by cases t<;>simp_all
  have et:pB (bs l) t ((n:Nat):Int)=false:=by
   unfold pB;rw[ht,bn,ay (by omega)];rfl
  unfold AE vy;rw[et,aq,ju,kz];exact hK
def B4{r:Nat}{s:BA}{t:Bool}{K:VK}(h:St W w L)(hk:L[k]?=some (AD r s t))(hK:K (.b t) w):bK (ai r) K w:=by
 unfold AD at hk;unfold bK;simp only[nz,ae,af];refine cy h hk rfl ?_;simp only[nz,ae,af];exact hK
def qi(n:Nat)(x:List UInt8×Bool):(dw n x).1.length<=x.1.length:=by unfold dw;split<;>simp
def LL{at' toX seq:Int}{K:VK}(h:St W w L)(hk:L[k]?=some (ft d D))(iw:D.Ok)(QU:0<=at')(QJ:toX<=(D.safe.length:Int))
 (hK:∀w',St W w' L->K (yz (oG D at' toX seq)) w'):dU (ai d) at' toX seq K w:=by
 have C8:=iw.oK;unfold oG at hK;unfold dU;refine dY (λh1=>?_) (λh1=>?_)
 ·rw[aj (by omega)] at hK;exact hK w h
 rw[ah (by omega)] at hK;refine pv h hk iw ?_;simp only[nz,ae,af];have oI:=we iw (i:=at') ⟨by omega,by omega⟩;generalize hx:(D.read at').1=X at *;rw[show X=bs X.data.toList from rfl];refine zV h (by rw[fa];omega) λw h=>?_;cases hv:oY X.data.toList with
 |none=>
  rw[hv] at hK;unfold qW;simp only[nz,ae,af];simp only[uM,bw,dH,az,ae,true_and];simp only[nz,ae,af];refine gh h λr1 w h=>?_;refine⟨trivial,ic (k:=0) h rfl (aH rfl) (by simp[Value.oneCell']) λw h=>?_⟩;rw[fI (by simp)] at h;simp only[nz,ae,af] at h;refine cy (k:=0) h rfl rfl ?_;simp only[nz,ae,af];refine pK h λq w h=>?_;simp only[nz,ae,af];refine wA (k:=0) (n:=8) (x:=([],false)) h rfl (by decide) (by decide) λw h=>?_;simp only[nz,ae,af] at h⊢;unfold dU.j1;simp only[nz,ae,af];exact hK w h.drop.drop
 |some y=>
  obtain⟨m,j,dd⟩:=y;rw[hv] at hK;dsimp only at hK;have hdd:=Aa hv;have Ku:dd.data.toList.length=dd.size:=rfl;unfold qW;simp only[nz,ae,af];simp only[uM,bw,dH,az,ae,true_and];simp only[nz,ae,af];refine gh h λr1 w h=>?_;refine⟨trivial,ic (k:=0) h rfl (aH rfl) (by simp[Value.oneCell']) λw h=>?_⟩;rw[fI (by simp)] at h;simp only[nz,ae,af] at h;refine cy (k:=0) h rfl rfl ?_;simp only[nz,ae,af];rw[show dd=bs dd.data.toList from rfl];refine pK h λq w h=>?_;simp only[nz,ae,af];have n1:=qi 8 (dd.data.toList,false);dsimp only at n1;refine wA (k:=0) (n:=8) (x:=(dd.data.toList,false)) h rfl (by dsimp only;omega) (by decide) λw h=>?_;simp only[nz,ae,af] at h⊢;refine cy (k:=1) h rfl (v:=.i j) rfl ?_;simp only[nz,ae,af];have stop:∀w,(∀w',St W w' L->K (yz none) w')->St W w (AD q (bs (dw 8 (dd.data.toList,false)).1) (dw 8 (dd.data.toList,false)).2::pt r1 [.i m,.i j,.s (bs dd.data.toList)]::L)->dU.j1 K (ai q) r1 (ai d) at' toX true w:=λw hK h=>by
   unfold dU.j1;simp only[nz,ae,af];exact hK w h.drop.drop
  refine rU (λhj=>?_) (λhj=>?_)
  ·rw[aj (.inl hj)] at hK;exact stop w hK h
  by_cases hq:gH 8 (dd.data.toList,false)=seq
  ·rw[ah (by rintro(hh|hh);exact hh hj;exact hh hq)] at hK;have eb:(gH 8 (dd.data.toList,false)!=seq)=false:=by rw[hq];exact bne_self_eq_false seq
   rw[eb];unfold dU.j1;simp only[nz,ae,af];refine wA (k:=0) (n:=4) (x:=dw 8 (dd.data.toList,false)) h rfl (by omega) (by decide) λw h=>?_;simp only[nz,ae,af] at h⊢;refine B4 (k:=0) h rfl ?_;simp only[nz,ae,af];have Kr:=J9 (dw 8 (dd.data.toList,false));generalize hz:dw 4 (dw 8 (dd.data.toList,false))=z at *;generalize hn6:gH 4 (dw 8 (dd.data.toList,false))=n6 at *;have TD:∀w,(∀w',St W w' L->K (yz none) w')->St W w (AD q (bs z.1) z.2::pt r1 [.i m,.i j,.s (bs dd.data.toList)]::L)->dU.j2 K r1 (ai d) at' toX n6 true w:=λw hK h=>by
    unfold dU.j2;simp only[nz,ae,af];exact hK w h.drop.drop
   refine qS (λht=>?_) (λht=>?_)
   ·rw[aj (.inl ht)] at hK;exact TD w hK h
   by_cases hm:32768<n6
   ·rw[aj (.inr hm)] at hK;rw[aA hm];exact TD w hK h
   ·rw[ah (by rintro(hh|hh);(rw[ht] at hh;cases hh);exact hm hh)] at hK;rw[ay hm];unfold dU.j2;simp only[nz,ae,af];refine cy (k:=1) h rfl (v:=.i m) rfl ?_;simp only[nz,ae,af];have ew:ag.wrap (12+n6)=12+n6:=aS (by omega);rw[ew];refine Ef (k:=k+2) h (by rw[aW,aW];exact hk) iw λw h=>?_;cases ht:take D at' toX m (12+n6) with
    |none=>
     rw[ht] at hK;unfold qd;simp only[nz,ae,af];exact hK w h.drop.drop
    |some t=>
     rw[ht] at hK;dsimp only at hK;obtain⟨l1,l2,l3,l4,l5⟩:=take_length ht;unfold qd;simp only[nz,ae,af];refine km h λw h=>?_;unfold iW;refine⟨⟨by omega,by rw[bn];omega⟩,?_⟩;rw[show(12:Int).toNat=12 from rfl,kz];obtain⟨p,hp⟩:=bD (show 0<=12+n6 by omega);rw[hp] at hK⊢l3;refine ox (by omega) ?_;simp only[nz,ae,af];rw[aq] at hK l3;have ew2:ag.wrap (at'+(fX p:Int))=at'+(fX p:Int):=aS (by omega);rw[ew2];exact hK w h.drop.drop
  ·rw[aj (.inr hq)] at hK;have eb:(gH 8 (dd.data.toList,false)!=seq)=true:=by simp[hq]
   rw[eb];exact stop w hK h
def IQ{seq:Int}{s:BA}{K:VK}(h:St W w L)(hs:s.size<=1000000)(hK:∀w',St W w' L->K (.s (bs (iE seq s))) w'):qk seq s K w:=by
 have hd:s.data.toList.length=s.size:=rfl;unfold qk;refine⟨trivial,?_⟩;refine gh h λp w hs=>?_;have hs:St W w (buf p []::L):=by
  have h2:=(hs.push (A:=own none 0 0 1 (([]:List UInt8).map og)) (qh 1)).perm (bA.swap _ _ _);exact rk (k:=0) (L:=buf p []::L) (A:=buf p []) rfl rfl h2
 refine ia (k:=0) hs rfl (by simp) λw hs=>?_;rw[show(min2 (max2 8 1) 8).toNat=8 from rfl] at hs;simp only[nz,ae,af] at hs⊢;refine ia (k:=0) hs rfl (by simp only[ak,aJ,dH];omega) λw hs=>?_;rw[show(min2 (max2 4 1) 8).toNat=4 from rfl] at hs;simp only[nz,ae,af] at hs⊢;refine oa (k:=0) hs rfl (by simp only[ak,aJ,dH];omega) λw hs=>?_;simp only[nz,ae,af] at hs⊢;refine jQ (k:=0) hs rfl ?_;simp only[nz,ae,af];rw[dm];exact hK w hs.drop
structure PJ where
 lo:Int
 hi:Int
 at':Int
 seq:Int
 iD:Bool
def o9(d:Nat)(J:PJ):LV:=[.p (ai d),.i J.lo,.i J.hi,.i J.at',.i J.seq,.b J.iD]
structure PJ.Ok(J:PJ)(D:ba):Prop where
 lo:0<=J.lo
 XN:J.lo<=J.at'
 YA:J.at'<=J.hi
 hi:J.hi<=(D.safe.length:Int)
 seq:0<=J.seq/\J.seq<=1152921504606850000
def room(J:PJ)(n:Int):Prop:=0<=n/\n<=32768/\(fX (12+n.toNat):Int)<=J.hi-J.at'
instance(J:PJ)(n:Int):Decidable (room J n):=by unfold room;infer_instance
def Fa(J:PJ)(s:BA)(R:ba×Int):ba×PJ×Int:=
 if R.2≠0 then(R.1,{J with iD:=true},R.2) else(R.1,{J with at':=J.at'+(fX (12+s.size):Int),seq:=J.seq+1},0)
def uZ(D:ba)(J:PJ)(number:Int)(s:BA):ba×PJ×Int:=
 if J.iD=true then(D,J,9)
 else if number<1\/1152921504606846976<number then(D,J,1)
 else if ¬room J s.size\/1152921504606846976<=J.seq then(D,J,6)
 else Fa J s (oH D J.at' J.hi number (bs (iE (J.seq+1) s)))
section
variable {r:Nat} {J:PJ}
def Qi{K:VK}(h:St W w L)(hk:L[k]?=some (pt r (o9 d J)))(hK:K (.i J.seq) w):iY (ai r) K w:=by
 unfold iY;simp only[nz,ae,af];refine cy h hk rfl ?_;simp only[nz,ae,af];exact hK
def Fj{K:VK}(h:St W w L)(hk:L[k]?=some (pt r (o9 d J)))(hK:∀w',St W w' (L.set k (pt r (o9 d {J with at':=J.lo})))->K (.tuple ⟨[]⟩) w'):gB (ai r) K w:=by
 unfold gB;simp only[nz,ae,af];refine cy h hk rfl ?_;simp only[nz,ae,af];refine mV h hk (aH rfl) rfl λw h=>?_;exact hK w h
def B5{n:Int}{K:VK}(h:St W w L)(hk:L[k]?=some (pt r (o9 d J)))(hJ:J.Ok D)(iw:D.Ok)(hK:∀w',St W w' L->K (.b (decide (room J n))) w'):gA (ai r) n K w:=by
 have C8:=iw.oK;obtain⟨j1,j2,j3,j4,j5⟩:=hJ;unfold gA;refine km h λw h=>?_;have hh:=hK w h;have no: ¬room J n->K (.b false) w:=λhn=>by rw[ay hn] at hh;exact hh
 simp only[nz,ae,af];refine dY (λh1=>?_) (λh1=>no (λhr=>by have:=hr.1;omega));refine dY (λh2=>?_) (λh2=>no (λhr=>by have:=hr.2.1;omega));refine cy h hk rfl ?_;simp only[nz,ae,af];refine cy h hk rfl ?_;simp only[nz,ae,af];obtain⟨m,rfl⟩:=bD (show 0<=n by omega);have ew:ag.wrap (12+(m:Int))=((12+m:Nat):Int):=by rw[aS (by omega)];omega
 rw[ew];refine ox (by omega) ?_;simp only[nz,ae,af];refine ig h hk rfl ?_;refine ig h hk rfl ?_;have ew2:ag.wrap (J.hi-J.at')=J.hi-J.at':=aS (by omega);rw[ew2];have:decide ((fX (12+m):Int)<=J.hi-J.at')=decide (room J m):=by
  rw[decide_eq_decide];unfold room;rw[aq];omega
 rw[this];exact hh
def LU{k2:Nat}{number:Int}{s:BA}{K:VK}(h:St W w L)(hk:L[k]?=some (pt r (o9 d J)))(wI:L[k2]?=some (ft d D))(hZ:k≠k2)(hJ:J.Ok D)(iw:D.Ok)(hl:D.later.length<1000000)(hs:s.size<=reachBytes)
 (hK:∀w',St W w' ((L.set k2 (ft d (uZ D J number s).1)).set k (pt r (o9 d (uZ D J number s).2.1)))->K (.i (uZ D J number s).2.2) w'):bu (ai r) number s K w:=by
 have dM:s.size<=140737488351232:=hs;have C8:=iw.oK;obtain⟨j1,j2,j3,j4,j5⟩:=hJ;have hJ:J.Ok D:=⟨j1,j2,j3,j4,j5⟩;have same:∀e,uZ D J number s=(D,J,e)->∀w,St W w L->K (.i e) w:=λe he w h=>by
  have:=hK w;rw[he] at this;refine this ?_;rw[kr wI,kr hk];exact h
 unfold bu;simp only[nz,ae,af];refine cy h hk rfl ?_;simp only[nz,ae,af];refine qS (λWC=>same 9 (by unfold uZ;rw[aj WC]) w h) (λWC=>?_);have WB: ¬J.iD=true:=by rw[WC];exact Bool.noConfusion
 have bad:(number<1\/1152921504606846976<number)->bu.j1 K (ai r) s number true w:=λhb=>by
  unfold bu.j1;simp only[nz,ae,af];exact same 1 (by unfold uZ;rw[ah WB,aj hb]) w h
 refine dY (λh1=>bad (.inl h1)) (λh1=>?_);by_cases h2:1152921504606846976<number
 ·rw[aA h2];exact bad (.inr h2)
 rw[ay h2];have hnb: ¬(number<1\/1152921504606846976<number):=by omega
 unfold bu.j1;simp only[nz,ae,af];refine B5 h hk hJ iw λw h=>?_;have full:(¬room J s.size\/1152921504606846976<=J.seq)->∀w,St W w L->bu.j2 K (ai r) s number true w:=λhb w h=>by
  unfold bu.j2;simp only[nz,ae,af];exact same 6 (by unfold uZ;rw[ah WB,ah hnb,aj hb]) w h
 simp only[nz,ae,af];by_cases hr:room J s.size
 case neg=>
  rw[ay hr];simp only[nz,ae,af];exact full (.inl hr) w h
 rw[aA hr];simp only[nz,ae,af];refine cy h hk rfl ?_;simp only[nz,ae,af];by_cases HF:1152921504606846976<=J.seq
 ·have:decide (J.seq>=1152921504606846976)=true:=aA HF;rw[this];exact full (.inr HF) w h
 have e0:decide (J.seq>=1152921504606846976)=false:=ay HF;rw[e0];unfold uZ at hK;rw[ah WB,ah hnb,ah (by rintro(hh|hh);exact hh hr;exact HF hh)] at hK;unfold bu.j2;simp only[nz,ae,af];refine km h λw h=>?_;refine cy h hk rfl ?_;simp only[nz,ae,af];refine cy h hk rfl ?_;simp only[nz,ae,af];refine cy h hk rfl ?_;simp only[nz,ae,af];refine cy h hk rfl ?_;simp only[nz,ae,af];have ew:ag.wrap (J.seq+1)=J.seq+1:=aS (by omega);rw[ew];refine IQ h (by have:=hr.2.1;omega) λw h=>?_;simp only[nz,ae,af];refine ig h hk rfl ?_;refine ig h hk rfl ?_;refine ig h hk rfl ?_;refine ig h hk rfl ?_;have DR:(bs (iE (J.seq+1) s)).size=12+s.size:=by rw[bn,wV]
 have QL:=hr.2.1;refine CI (k:=k2) h wI iw (by omega) (by rw[DR];show _<=140737488351232;omega) λw h=>?_;simp only[nz,ae,af];have hcn:fX (12+s.size)<=400:=by unfold fX;split<;>omega
 have L6:=(EO (at':=J.at') (toX:=J.hi) (number:=number) (s:=bs (iE (J.seq+1) s)) iw (by rw[DR];omega)).1;have Aj:(L.set k2 (ft d (lay D J.at' J.hi number (bs (iE (J.seq+1) s))).1))[k]?=some (pt r (o9 d J)):=by rw[List.getElem?_set_ne (λhh=>hZ hh.symm)];exact hk
 refine ig h Aj rfl ?_;unfold oH at hK;generalize hL:lay D J.at' J.hi number (bs (iE (J.seq+1) s))=R at *;obtain⟨D1,e1⟩:=R;dsimp only at h L6 Aj hK⊢;have fin:∀(R:ba×Int) w,(∀w',St W w' ((L.set k2 (ft d (Fa J s R).1)).set k (pt r (o9 d (Fa J s R).2.1)))->K (.i (Fa J s R).2.2) w')->
  St W w (L.set k2 (ft d R.1))->bu.j3 K (ai r) s R.2 w:=λR w hK h=>by
  unfold Fa at hK;obtain⟨D2,e2⟩:=R;dsimp only at hK h⊢;have T9:(L.set k2 (ft d D2))[k]?=some (pt r (o9 d J)):=by rw[List.getElem?_set_ne (λhh=>hZ hh.symm)];exact hk
  unfold bu.j3;refine rU (λhe=>?_) (λhe=>?_)
  ·rw[aj he] at hK;simp only[nz,ae,af];refine mV h T9 (aH rfl) rfl λw h=>?_;exact hK w h
  ·rw[ah (λhh=>hh he)] at hK;refine km h λw h=>?_;simp only[nz,ae,af];refine cy h T9 rfl ?_;simp only[nz,ae,af];have ew2:ag.wrap (12+(s.size:Int))=((12+s.size:Nat):Int):=by rw[aS (by omega)];omega
   rw[ew2];refine ox (by omega) ?_;simp only[nz,ae,af];refine ig h T9 rfl ?_;have ew3:ag.wrap (J.at'+(fX (12+s.size):Int))=J.at'+(fX (12+s.size):Int):=aS (by omega);rw[ew3];refine mV h T9 (aH rfl) rfl λw h=>?_;refine cy h (gR T9) rfl ?_;simp only[nz,ae,af];rw[ew];refine mV h (gR T9) (aH rfl) rfl λw h=>?_;rw[gW] at h;exact hK w h
 have eqb:∀e:Int,(e==0)=decide (e=0):=λe=>by by_cases he:e=0<;>simp[he]
 by_cases he:e1=0
 ·rw[ah (λhh=>hh he: ¬e1≠0)] at hK;have:(e1==0)=true:=by rw[eqb];exact aA he
  rw[this];simp only[nz,ae,af];refine cy h Aj rfl ?_;simp only[nz,ae,af];refine se (k:=k2) h (gR wI) L6 λw h=>?_;rw[gW] at h;simp only[nz,ae,af];exact fin D1.sync w hK h
 ·rw[aj he] at hK;have:(e1==0)=false:=by rw[eqb];exact ay he
  rw[this];simp only[nz,ae,af];exact fin (D1,e1) w hK h
end
end
end Go.Sep
namespace Go.Up
open Go.Sep Go.Den Go.RowKit Go.Prog Go.Md Go.bE
def nb(n:Nat):List UInt8:=(mD 16).map λi=>UInt8.ofNat (n/256^i%256)
def o0(n:Nat):(nb n).length=16:=by simp[nb]
def FL(m i:Nat)(hi:i<8):Value.int .u8 (IntKind.u8.wrap (shr .u64 (m:Int) (ag.wrap (8* (i:Int)))))=og (UInt8.ofNat (m/256^i%256)):=by
 rw[aS (by omega)];unfold og shr;rw[UInt8.toNat_ofNat_of_lt' (by show _<256;omega),CR _ (Int.le_of_lt (Int.pow_pos (by decide)))]
 congr 1
 have e8:∀x:Int,IntKind.u8.wrap x=x%256:=λx=>by simp[IntKind.wrap,IntKind.bits,IntKind.signed]
 have e2:(8* (i:Int)).toNat=8* i:=by omega
 have e4:min (8* i) IntKind.u64.bits=8* i:=by show min (8* i) 64=_;omega
 have e3:(2:Int)^(8* i)=((256^i:Nat):Int):=by rw[Int.pow_mul];norm_cast
 rw[e8,e2,e4,e3];omega
def Y9(n i:Nat)(hi:i<8):n%18446744073709551616/256^i%256=n/256^i%256:=by
 match i,hi with
 |0,_|1,_|2,_|3,_|4,_|5,_|6,_|7,_=>omega
def Y'(n i:Nat)(hi:i<8):n/18446744073709551616/256^i%256=n/256^(8+i)%256:=by
 match i,hi with
 |0,_|1,_|2,_|3,_|4,_|5,_|6,_|7,_=>omega
section
variable {W:World} {L:LH} {K:VK} {X:WK}
def vf{r o:Nat}{cs:LV}{v:Value}{f:LV->LH}[i:Lc (pt r) L cs f](ho:o<cs.length)(h1:v.oneCell'=true)(h:T W (f (cs.set o v)) X):T W L (st ⟨r,o,none⟩ v X):=λw hs=>by
 obtain⟨k,hk,e⟩:=i.at_;exact mV hs hk ho h1 λw' h'=>h w' (by rw[e];exact h')
def N0{r:Nat}{l:List UInt8}{f:LV->LH}{K:BA->WK}[i:Lc (pt r) L (l.map og) f](h:T W L (K (bs l))):T W L (Np (ai r) l.length K):=λw hs=>
 let⟨_,hk,_⟩:=i.at_;Jj hs hk rfl (h w hs)
def Oc(b:OA)(c e:Nat):rF b c 0 e=b:=by
 unfold rF;split
 ·rfl
 ·cases b with
  |none=>rfl
  |some a=>simp[Addr.add]
def JF{b:OA}{n c e:Nat}{K:OA->Nat->Nat->WK}(h:T W L (K b n c)):T W L (oW b n c e none none K):=by
 unfold oW;rw[Oc];exact h
def IA(n i:Nat):LV:=(mD 16).map λj=>if j<i\/8<=j/\j<8+i then og (UInt8.ofNat (n/256^j%256)) else .int .u8 0
def Tp{n:Nat}(h:T W L (K (.s (bs (nb n))))):T W L (tS (nm n) K):=by
 unfold tS;apply ws;intros;rename_i r1 r2;intro w hs;refine⟨λvs w=>∃i:Nat,i<=8/\vs=[.p (some (ad r1 0)),.s .empty,.p (some (ad r2 0)),.i (i:Int)]/\St W w (pt r2 (IA n i)::pt r1 (nm n)::L),
  λvs _=>match vs with|[_,_,_,.int _ j]=>8-j.toNat|_=>0,⟨0,aL _,rfl,hs⟩,?_⟩
 rintro a1 s1 a2 n1 w2 ⟨i,hi,e,hs⟩;cases e
 refine T.at ?_ hs;apply gO<;>intro h1
 ·have bW:i<8:=by omega
  have e8:ag.wrap (8* (i:Int))=8* (i:Int):=aS (by omega);have e9:ag.wrap (8+(i:Int))=((8+i:Nat):Int):=by rw[aS (by omega)];omega
  have e5:=oe i;simp only[dh,az,e8,e9,e5,aq,mQ]
  repeat' first|apply ws|apply wb|first|refine dv (by omega) ?_|refine vf (by simp[IA];omega) rfl ?_
  rw[<-e8,FL _ _ bW,FL _ _ bW,Y9 _ _ bW,Y' _ _ bW];have e:((IA n i).set i (og (UInt8.ofNat (n/256^i%256)))).set (8+i) (og (UInt8.ofNat (n/256^(8+i)%256)))=IA n (i+1):=by
   apply jq;intro j;rw[cA,cA];simp only[IA,jC,cu,List.length_range,dC];by_cases h1:8+i=j
   ·subst h1;rw[aj rfl,aj (by omega),lz (by omega),dN,aj (by omega)]
   ·rw[ah h1];by_cases h2:i=j
    ·subst h2;rw[aj rfl,aj (by omega),lz (by omega),dN,aj (by omega)]
    ·rw[ah h2];by_cases h3:j<16
     ·rw[lz h3,dN,dN];by_cases h4:j<i\/8<=j/\j<8+i
      ·rw[aj h4,aj (by omega)]
      ·rw[ah h4,ah (by omega)]
     ·rw[gj (by simpa using h3)];rfl
  rw[e];exact λw3 h3=>⟨⟨i+1,bW,rfl,h3⟩,dn (by omega)⟩
 ·have he:i=8:=by omega
  subst he;have e:IA n 8=(nb n).map og:=by
   unfold IA nb;rw[y6];apply od;intro j hj;rw[aj (by have:=List.mem_range.1 hj;omega)];rfl
  rw[e];apply JF;have:=N0 (W:=W) (L:=Sep.pt r2 ((nb n).map og)::Sep.pt r1 (nm n)::L) (r:=r2) (l:=nb n) (K:=λs2=>K (.s s2)) (by exact T.dp h);rw[o0] at this;exact this
def Y3{A j:Nat}{c:UInt8}(hj:j<8)(hA:A<256^j):ch .u64 .or (A:Int) (shl .u64 (IntKind.u64.wrap (c.toNat:Int)) (8* (j:Int)))=((A+c.toNat* 256^j:Nat):Int):=by
 have hc:=c.toNat_lt;have L1:256^j=2^(8* j):=by rw[show(256:Nat)=2^8 from rfl,<-Nat.pow_mul]
 have adm:c.toNat* 2^(8* j)+2^(8* j)<=2^64:=by
  have h1:(c.toNat+1)* 2^(8* j)<=2^8* 2^(8* j):=fS _ hc;rw[<-Nat.pow_add,lq,Nat.one_mul] at h1;exact Nat.le_trans h1 (ja (by decide) (by omega))
 rw[L1] at hA;have ew:IntKind.u64.wrap (c.toNat:Int)=(c.toNat:Int):=Bv (by omega);have esh:shl .u64 (c.toNat:Int) (8* (j:Int))=((c.toNat* 2^(8* j):Nat):Int):=by
  unfold shl;have h1:(8* (j:Int)).toNat=8* j:=by omega
  have h2:min (8* j) IntKind.u64.bits=8* j:=by show min (8* j) 64=_;omega
  rw[h1,h2];have:((c.toNat:Int)* 2^(8* j))=((c.toNat* 2^(8* j):Nat):Int):=by norm_cast
  rw[this];exact Bv (by omega)
 rw[ew,esh,L1];show IntKind.u64.wrap (((BitVec.ofInt 64 (A:Int)|||BitVec.ofInt 64 ((c.toNat* 2^(8* j):Nat):Int)).toNat:Nat):Int)=_;rw[BitVec.toNat_or];have t1:(BitVec.ofInt 64 (A:Int)).toNat=A:=by simp only[BitVec.toNat_ofInt];omega
 have t2:(BitVec.ofInt 64 ((c.toNat* 2^(8* j):Nat):Int)).toNat=c.toNat* 2^(8* j):=by simp only[BitVec.toNat_ofInt];omega
 rw[t1,t2,Nat.or_comm,<-Nat.shiftLeft_eq,<-Nat.shiftLeft_add_eq_or_of_lt hA,Nat.add_comm,Nat.shiftLeft_eq];exact Bv (by omega)
def tY{l:List UInt8}{i:Nat}{K:UInt8->WK}{c:UInt8}(hc:l[i]?=some c)(h:T W L (K c)):T W L (ss (bs l) (i:Int) K):=λw hs=>⟨c,⟨by omega,by rw[aq];exact hc⟩,h w hs⟩
def Bs:∀(l m:List UInt8),ka (l++m)=ka l+256^l.length* ka m
 |[],m=>by simp[ka]
 |c::l,m=>by simp only[fE,ka,Bs l m,bw,Nat.pow_succ];rw[Nat.mul_add,Nat.add_assoc,Nat.mul_comm (256^l.length) 256,Nat.mul_assoc]
def C5(l:List UInt8):Nat:=if l.length<16 then 0 else ka (l.take 16)
def Az{l:List UInt8}(hl:l.length<1099511627776)(h:T W L (K (.tuple ⟨[.agg ⟨nm (C5 l)⟩,.b (decide (16<=l.length))]⟩))):T W L (mS (bs l) K):=by
 unfold mS C5 at *;rw[bn];apply ws;intros;rename_i r1 r2;apply gO<;>intro h1
 ·have h2:l.length<16:=by omega
  rw[aj h2,ay (by omega)] at h;apply ws;exact T.dp h
 have h2: ¬l.length<16:=by omega
 rw[ah h2,aA (by omega)] at h;intro w hs;refine⟨λvs w=>∃i:Nat,i<=8/\vs=[.p (some (ad r1 0)),.b false,.p (some (ad r2 0)),.i (i:Int)]/\St W w (Sep.pt r2 [.u (ka ((l.drop 8).take i):Int),.u (ka (l.take i):Int)]::Sep.pt r1 [.u 0,.u 0]::L),
  λvs _=>match vs with|[_,_,_,.int _ j]=>8-j.toNat|_=>0,⟨0,aL _,rfl,hs⟩,?_⟩
 rintro a1 b1 a2 n1 w2 ⟨i,hi,e,hs⟩;cases e
 refine T.at ?_ hs;apply gO<;>intro h1
 ·have bW:i<8:=by omega
  have e8:ag.wrap (8* (i:Int))=8* (i:Int):=aS (by omega);have e9:ag.wrap (8+(i:Int))=((8+i:Nat):Int):=by rw[aS (by omega)];omega
  have e5:=oe i;have g1:i<l.length:=by omega
  have g2:8+i<l.length:=by omega
  have v1:=pZ (l.take i);have v2:=pZ ((l.drop 8).take i);rw[aG,Nat.min_eq_left (by omega)] at v1;rw[aG,aV,Nat.min_eq_left (by omega)] at v2;have c1:=ao g1;have c2:=ao g2;simp only[dh,az,e8,e9,e5];apply ws;apply tY c1
  repeat' first|apply ws|apply wb|first|refine dv (by omega) ?_|refine tY c1 ?_|refine tY c2 ?_
  rw[Y3 bW v1,Y3 bW v2];have t1:ka (l.take i)+l[i].toNat* 256^i=ka (l.take (i+1)):=by rw[nD g1,mT,aG,Nat.min_eq_left (by omega)]
  have t2:ka ((l.drop 8).take i)+l[8+i].toNat* 256^i=ka ((l.drop 8).take (i+1)):=by
   have hd:min i (l.drop 8).length=i:=by rw[aV];omega
   rw[nD (by rw[aV];omega),mT,aG,hd,List.getElem_drop]
  rw[t1,t2];exact λw3 h3=>⟨⟨i+1,bW,rfl,h3⟩,dn (by omega)⟩
 ·have he:i=8:=by omega
  subst he;have v1:=pZ (l.take 8);rw[aG,Nat.min_eq_left (by omega)] at v1;have e:l.take 16=l.take 8++(l.drop 8).take 8:=by rw[<-List.take_add]
  have ev:ka (l.take 16)=ka (l.take 8)+18446744073709551616* ka ((l.drop 8).take 8):=by
   rw[e,Bs,aG,Nat.min_eq_left (by omega)]
  have e3:(256:Nat)^8=18446744073709551616:=rfl;rw[OR (ka (l.take 16)) (by omega) (by omega)];apply ws;exact T.dp h
end
class xF(b:OA)(n c:outParam Nat)(L:LH)(e:outParam Nat)(xs:outParam (LV))(f:outParam (HP->LH)):Prop where
 at_:∃k:Nat,L[k]?=some (own b n c e xs)/\∀A,f A=L.set k A
instance xF.head{b:OA}{n c e:Nat}{xs:LV}{L:LH}:xF b n c (own b n c e xs::L) e xs (λA=>A::L):=⟨0,rfl,λ_=>rfl⟩
instance xF.tail{b:OA}{n c e:Nat}{xs:LV}{L:LH}{A:HP}{f:HP->LH}[h:xF b n c L e xs f]:xF b n c (A::L) e xs (λB=>A::f B):=by
 obtain⟨k,h1,h2⟩:=h.at_;exact⟨k+1,h1,λy=>by rw[h2];rfl⟩
section
variable {W:World} {L:LH} {K:VK} {X:WK} {b:OA} {n c e:Nat} {xs ys:LV} {f:HP->LH}
def N1{s:BA}{K:OA->Nat->Nat->WK}[i:xF b n c L 1 xs f](hb:n+s.size<=140737488355328)(h:∀b' c',T W (f (own b' (n+s.size) c' 1 (xs++strCells s))) (K b' (n+s.size) c')):T W L (CA b n c s K):=λw hs=>by
 obtain⟨k,hk,e⟩:=i.at_;exact Cz hs hk hb λb' c' w' h'=>h b' c' w' (by rw[e];exact h')
def N2{r bytes:Nat}{zero:LV}{g:LV->LH}{K:OA->Nat->Nat->WK}[i:xF b n c L e xs f][j:Lc (Sep.pt r) L ys g](hy:ys.length=e)(hz:zero.length=e)(hb:(n+1)* bytes<=140737488355328)(h1:∀v∈ys,v.oneCell'=true)
 (h:∀b' c',T W (f (own b' (n+1) c' e (xs++ys))) (K b' (n+1) c'))(hm:n+1<=9223372036854775807:=by omega):T W L (jO e bytes zero b n c (ai r) 1 K):=λw hs=>by
 obtain⟨k,hk,e1⟩:=i.at_;obtain⟨k2,wI,_⟩:=j.at_;refine rq hs hk (ys:=ys) (CD (o:=0) hs wI (by omega) λj v hv=>by rw[az];exact hv) (λhh=>by cases hh) hz hb hm h1 λb' c' w' h'=>h b' c' w' (by rw[e1];exact h')
def gu{i:Int}{K:Addr->WK}[l:xF b n c L e xs f](hi:0<=i/\i<n)(h:∀r,b=ai r->T W L (K ⟨r,i.toNat* e,none⟩)):T W L (gp b n i e K):=λw hs=>by
 obtain⟨k,hk,_⟩:=l.at_;exact uv hs hk hi λr hr=>h r hr w hs
def rd(r:Nat)(x:List UInt8×Bool):HP:=AD r (bs x.1) x.2
variable {r:Nat} {x:List UInt8×Bool} {g:List UInt8×Bool->LH}
def Fl[i:Lc (rd r) L x g](hl:x.1.length<1099511627776)(m:Nat)(hm:1<=m/\m<=8)(h:T W (g (dw m x)) (K (.i (gH m x)))):T W L (aF (ai r) (m:Int) K):=λw hs=>by
 obtain⟨k,hk,e⟩:=i.at_;exact wA hs hk hl hm λw' h'=>h w' (by rw[e];exact h')
def pr[i:Lc (rd r) L x g](hl:x.1.length<1099511627776)(h:T W (g (dw 1 x)) (K (.i (gH 1 x)))):T W L (aF (ai r) 1 K):=Fl hl 1 (by decide) h
def Be[i:Lc (rd r) L x g](hl:x.1.length<1099511627776)(h:T W (g (dw 2 x)) (K (.i (gH 2 x)))):T W L (aF (ai r) 2 K):=Fl hl 2 (by decide) h
def KV[i:Lc (rd r) L x g](hl:x.1.length<1099511627776)(h:T W (g (dw 4 x)) (K (.i (gH 4 x)))):T W L (aF (ai r) 4 K):=Fl hl 4 (by decide) h
def uK[i:Lc (rd r) L x g](hl:x.1.length<1099511627776)(h:T W (g (dw 8 x)) (K (.i (gH 8 x)))):T W L (aF (ai r) 8 K):=Fl hl 8 (by decide) h
def wP(x:List UInt8×Bool):Nat:=if x.2=true then 0 else C5 x.1
def qi(m:Nat)(x:List UInt8×Bool):(dw m x).1.length<=x.1.length:=by
 unfold dw;split
 ·exact aC _
 ·simp
def Yf(m:Nat)(x:List UInt8×Bool):List UInt8:=if x.2=true\/x.1.length<m then[] else x.1.take m
def X0[i:Lc (rd r) L x g](m:Nat)(h:T W (g (dw m x)) (K (.s (bs (Yf m x))))):T W L (dy (ai r) (m:Int) K):=λw hs=>by
 obtain⟨k,hk,e⟩:=i.at_;refine CF hs (show L[k]?=some (AD r (bs x.1) x.2) from hk) λw' h'=>?_;obtain⟨l,t⟩:=x;unfold dw Yf at h;dsimp only at h h'⊢;by_cases hc:t=true\/l.length<m
 ·rw[aj hc,aj hc] at h;have et:pB (bs l) t m=true:=by
   unfold pB;rcases hc with h1|h1
   ·rw[h1];rfl
   ·rw[bn,aA (by omega)];simp
  unfold AE vy at *;rw[et] at h'⊢;exact h w' (by rw[e];exact h')
 ·rw[ah hc,ah hc] at h;have ht:t=false:=by cases t<;>simp_all
  have et:pB (bs l) t m=false:=by
   unfold pB;rw[ht,bn,ay (by omega)];rfl
  unfold AE vy at *;rw[et,aq,kz] at h';rw[et,aq,ju];exact h w' (by rw[e];exact h')
def RE(x:List UInt8×Bool):C5 (Yf 16 x)=wP x:=by
 unfold wP Yf C5;obtain⟨l,t⟩:=x;cases t with
 |true=>rfl
 |false=>
  dsimp only;by_cases h2:l.length<16
  ·have e:(if false=true\/l.length<16 then([]:List UInt8) else l.take 16)=[]:=aj (Or.inr h2);rw[e];simp[h2]
  ·have e:(if false=true\/l.length<16 then([]:List UInt8) else l.take 16)=l.take 16:=ah (by simp;omega);rw[e,List.take_take,aG,ah (by omega),ah (by decide),ah h2];rfl
def Fk[i:Lc (rd r) L x g](hl:x.1.length<1099511627776)(h:T W (g (dw 16 x)) (K (.agg ⟨nm (wP x)⟩))):T W L (bY (ai r) K):=by
 unfold bY;apply ws;intros;apply X0 16;have hr:(Yf 16 x).length<1099511627776:=by unfold Yf;split<;>simp;omega
 repeat' first|apply ws;intros|apply wb|refine Az hr ?_
 rw[RE];exact T.dp h
def uJ[i:Lc (rd r) L x g](h:T W L (K (.b x.2))):T W L (bK (ai r) K):=λw hs=>by
 obtain⟨k,hk,e⟩:=i.at_;exact B4 hs (show L[k]?=some (AD r (bs x.1) x.2) from hk) (h w hs)
def Jq[i:Lc (rd r) L x g](h:T W L (K (.b (!x.2&&decide (x.1=[]))))):T W L (gZ (ai r) K):=λw hs=>by
 obtain⟨k,hk,e⟩:=i.at_;exact Hx hs (show L[k]?=some (AD r (bs x.1) x.2) from hk) (h w hs)
def NS{α:Type}{P:α->HP}{a:α}{f:α->LH}[i:Lc P L a f](h:∀R,(∀y Y,T W (f y) Y->T W (P y::R) Y)->T W (P a::R) X):T W L X:=λw hs=>by
 obtain⟨k,hk,e⟩:=i.at_;refine h (L.eraseIdx k) (λy Y hy w' h'=>hy w' ?_) w (hs.focus hk);rw[e];exact St.oS h' hk
def Tg[i:Lc (rd r) L x g](h:T W L (K (.i (if x.2=true then 0 else(x.1.length:Int))))):T W L (np (ai r) K):=by
 unfold np;simp only[A0,dh,az,Option.isNone_some,fo];intro w hs;obtain⟨k,hk,e⟩:=i.at_;apply cy hs (show L[k]?=some (Sep.pt r [.s (bs x.1),.b x.2]) from hk) rfl;rw[Nv];cases hx:x.2 with
 |true=>rw[jm];rw[hx,aj rfl] at h;exact h w hs
 |false=>
  rw[fo];apply cy hs (show L[k]?=some (Sep.pt r [.s (bs x.1),.b x.2]) from hk) rfl;rw[Nu];rw[hx,ah (by decide)] at h;exact h w hs
variable {p:Nat} {l:List UInt8} {q:List UInt8->LH}
def Fe[i:Lc (buf p) L l q](hl:l.length<1099511627776)(m:Nat)(hm:1<=m/\m<=8){n:Int}(h:T W (q (l++le .i64 m n)) (K (.tuple ⟨[]⟩))):T W L (aQ (ai p) (m:Int) n K):=λw hs=>by
 obtain⟨k,hk,e⟩:=i.at_;refine ia hs hk hl λw' h'=>h w' ?_;have em:min2 (max2 (m:Int) 1) 8=((m:Nat):Int):=by unfold min2 max2;split<;>split<;>omega
 rw[em,aq] at h';rw[e];exact h'
def po[i:Lc (buf p) L l q](hl:l.length<1099511627776){n:Int}(h:T W (q (l++le .i64 1 n)) (K (.tuple ⟨[]⟩))):T W L (aQ (ai p) 1 n K):=Fe hl 1 (by decide) h
def Bd[i:Lc (buf p) L l q](hl:l.length<1099511627776){n:Int}(h:T W (q (l++le .i64 2 n)) (K (.tuple ⟨[]⟩))):T W L (aQ (ai p) 2 n K):=Fe hl 2 (by decide) h
def KQ[i:Lc (buf p) L l q](hl:l.length<1099511627776){n:Int}(h:T W (q (l++le .i64 4 n)) (K (.tuple ⟨[]⟩))):T W L (aQ (ai p) 4 n K):=Fe hl 4 (by decide) h
def wz[i:Lc (buf p) L l q](hl:l.length<1099511627776){n:Int}(h:T W (q (l++le .i64 8 n)) (K (.tuple ⟨[]⟩))):T W L (aQ (ai p) 8 n K):=Fe hl 8 (by decide) h
def pW[i:Lc (buf p) L l q](h:T W L (K (.s (bs l)))):T W L (cF (ai p) K):=λw hs=>by
 obtain⟨k,hk,e⟩:=i.at_;exact jQ hs hk (h w hs)
def YT[i:Lc (buf p) L l q](h:∀b c R,(∀l' b n c Y,n=l'.length->T W (q l') Y->T W (Sep.pt p [.l b n c]::own b n c 1 (l'.map og)::R) Y)->T W (Sep.pt p [.l b l.length c]::own b l.length c 1 (l.map og)::R) X):T W L X:=
 NS (P:=buf p) λR hc w hs=>by
  obtain⟨⟨b,c⟩,hs⟩:=hs.ex;exact h b c R (λl' b n c Y hn hy w h'=>hc l' Y hy w (by subst hn;exact St.nT (b,c) (St.join h'))) w hs.split
def Fc[i:Lc (buf p) L l q](hl:l.length<1099511627776){n:Nat}(h:T W (q (l++nb n)) (K (.tuple ⟨[]⟩))):T W L (iN (ai p) (nm n) K):=by
 unfold iN;refine YT (p:=p) λb c R hc=>?_;simp only[A0]
 repeat' first|apply ws;intros|apply wb|first|refine Tp ?_|refine N1 (by rw[bn,o0];omega) λ_ _=>?_
 have e:l.map og++strCells (bs (nb n))=(l++nb n).map og:=by rw[cS];rfl
 rw[e];exact T.drop (hc _ _ _ _ _ (by rw[ak,bn]) h)
def Tc[i:Lc (buf p) L l q](hl:l.length<1099511627776){b:Bool}(h:T W (q (l++[if b then 1 else 0])) (K (.tuple ⟨[]⟩))):T W L (nj (ai p) b K):=by
 unfold nj;cases b with
 |true=>rw[jm];refine po hl (za ?_);exact h
 |false=>rw[fo];refine po hl (za ?_);exact h
end
end Go.Up
namespace Go.Up
open Go.Sep Go.Den Go.Md
def Dn{p:Int->Prop}(n:Nat)(h:∀f:Fin n,p (f.val:Int)){f:Int}(h0:0<=f)(h1:f<n):p f:=by
 have:=h ⟨f.toNat,by omega⟩;simp only[Int.toNat_of_nonneg h0] at this;exact this
section
variable {f:Int}
def KJ(h0:0<=f)(h1:f<256):ch .i64 .and f 2=0↔ ¬(has f 2):=Dn (p:=λf=>ch .i64 .and f 2=0↔ ¬(has f 2)) 256 (by decide+kernel) h0 h1
def KI(h0:0<=f)(h1:f<256):ch .i64 .and f 4=0↔ ¬(has f 4):=Dn (p:=λf=>ch .i64 .and f 4=0↔ ¬(has f 4)) 256 (by decide+kernel) h0 h1
def P6(h0:0<=f)(h1:f<256):ch .i64 .and f 8=0↔ ¬(has f 8):=Dn (p:=λf=>ch .i64 .and f 8=0↔ ¬(has f 8)) 256 (by decide+kernel) h0 h1
def XL(h0:0<=f)(h1:f<256):ch .i64 .and f 16=0↔ ¬(has f 16):=Dn (p:=λf=>ch .i64 .and f 16=0↔ ¬(has f 16)) 256 (by decide+kernel) h0 h1
def XK(h0:0<=f)(h1:f<256):ch .i64 .and f 32=0↔ ¬(has f 32):=Dn (p:=λf=>ch .i64 .and f 32=0↔ ¬(has f 32)) 256 (by decide+kernel) h0 h1
def P7(h0:0<=f)(h1:f<256):ch .i64 .and f 64=0↔ ¬(has f 64):=Dn (p:=λf=>ch .i64 .and f 64=0↔ ¬(has f 64)) 256 (by decide+kernel) h0 h1
def KL(h0:0<=f)(h1:f<256):ch .i64 .and f 128=0↔ ¬(has f 128):=Dn (p:=λf=>ch .i64 .and f 128=0↔ ¬(has f 128)) 256 (by decide+kernel) h0 h1
def Vb(h0:0<=f)(h1:f<256):ch .i64 .and f 12=0↔ ¬(lM f):=Dn (p:=λf=>ch .i64 .and f 12=0↔ ¬(lM f)) 256 (by decide+kernel) h0 h1
def ab5(h0:0<=f)(h1:f<256):ch .i64 .and f 48=0↔ ¬(has f 16\/has f 32):=Dn (p:=λf=>ch .i64 .and f 48=0↔ ¬(has f 16\/has f 32)) 256 (by decide+kernel) h0 h1
def ab6(h0:0<=f)(h1:f<256):ch .i64 .and f 6=6↔(has f 2/\has f 4):=Dn (p:=λf=>ch .i64 .and f 6=6↔(has f 2/\has f 4)) 256 (by decide+kernel) h0 h1
def afJ(h0:0<=f)(h1:f<256):ch .i64 .and f 240=0↔ ¬(16<=f):=Dn (p:=λf=>ch .i64 .and f 240=0↔ ¬(16<=f)) 256 (by decide+kernel) h0 h1
def afK(h0:0<=f)(h1:f<256):ch .i64 .and f 192=0↔(f<64):=Dn (p:=λf=>ch .i64 .and f 192=0↔(f<64)) 256 (by decide+kernel) h0 h1
def Va(h0:0<=f)(h1:f<256):ch .i64 .andNot f 1=f/2* 2:=Dn (p:=λf=>ch .i64 .andNot f 1=f/2* 2) 256 (by decide+kernel) h0 h1
def U'(h0:0<=f)(h1:f<16):ch .i64 .andNot f 8=f%8:=Dn (p:=λf=>ch .i64 .andNot f 8=f%8) 16 (by decide+kernel) h0 h1
def ab1(h0:0<=f)(h1:f<16):ch .i64 .or f 8=f%8+8:=Dn (p:=λf=>ch .i64 .or f 8=f%8+8) 16 (by decide+kernel) h0 h1
def Vc(h0:0<=f)(h1:f<256):ch .i64 .and f 6=f/2%4* 2:=Dn (p:=λf=>ch .i64 .and f 6=f/2%4* 2) 256 (by decide+kernel) h0 h1
def oc(n:Int):Prop:= -9223372036854775808<=n/\n<=9223372036854775807
def XJ(h:oc f):(ch .i64 .andNot f 7!=0)=decide (f<0\/7<f):=by
 have key:∀x:BitVec 64,(x&&&~~~(BitVec.ofInt 64 7))=0#64↔x.toNat<8:=λx=>by
  constructor
  ·intro hx;refine Nat.lt_pow_two_of_testBit (n:=3) _ λi hi=>?_;have:=congrArg (λy=>y.getLsbD i) hx;by_cases adv:i<64
   ·simp only[BitVec.getLsbD_and,BitVec.getLsbD_not,BitVec.getLsbD_zero,adv,decide_true,dX] at this;have h7:(BitVec.ofInt 64 7).getLsbD i=false:=by
     have:(BitVec.ofInt 64 7).toNat=7:=rfl;show Nat.testBit (BitVec.ofInt 64 7).toNat i=false;rw[this];exact Nat.testBit_lt_two_pow (Nat.lt_of_lt_of_le (by decide:7<2^3) (ja (by decide) hi))
    rw[h7] at this;simpa [BitVec.getLsbD] using this
   ·exact Nat.testBit_lt_two_pow (Nat.lt_of_lt_of_le x.isLt (ja (by decide) (by omega)))
  ·intro hx;have hx':x=BitVec.ofNat 64 x.toNat:=by simp
   rw[hx'];generalize x.toNat=m at hx
   match m,hx with
   |0,_|1,_|2,_|3,_|4,_|5,_|6,_|7,_=>rfl
 unfold oc at h;unfold ch;dsimp only;show(ag.wrap (((BitVec.ofInt 64 f&&&~~~(BitVec.ofInt 64 7)).toNat:Nat):Int)!=0)=_;have hw:∀y:BitVec 64,(ag.wrap ((y.toNat:Nat):Int)!=0)=decide (y≠0#64):=λy=>by
  have hy:=y.isLt;have:ag.wrap ((y.toNat:Nat):Int)=0↔y=0#64:=by
   constructor
   ·intro h0;apply BitVec.eq_of_toNat_eq;simp[IntKind.wrap,IntKind.bits,IntKind.signed] at h0;simp;split at h0<;>omega
   ·intro h0;subst h0;rfl
  by_cases h0:y=0#64
  ·rw[ay (by simpa using h0)];simp[this.2 h0]
  ·rw[aA h0];have: ¬ag.wrap ((y.toNat:Nat):Int)=0:=λhh=>h0 (this.1 hh);simpa using this
 rw[hw,decide_eq_decide,ne_eq,key];simp only[BitVec.toNat_ofInt];omega
def ab4(h:oc f):ch .i64 .andNot f 7=0↔ ¬(f<0\/7<f):=by
 have:=XJ h;by_cases h1:f<0\/7<f
 ·rw[aA h1] at this;simpa [h1] using this
 ·rw[ay h1] at this;simpa [h1] using this
end
end Go.Up
namespace Go.Up
open Go.Sep Go.Den Go.RowKit Go.Prog Go.Md
abbrev cj:=Go.Md.cj
abbrev bp:=Go.Md.bp
abbrev bS:=Go.Md.bS
def aP(a:bp):LV:=nm a.id++(nm a.dp++(nm a.dq++(nm a.cp++(nm a.cq++[.i a.bt,.i a.code,.i a.au,.i a.aw]))))
def aX(t:cj):LV:=nm t.id++(nm t.bq++(nm t.aU++(nm t.aZ++(nm t.pending++[.i t.cL,.i t.bt,.i t.code,.i t.au,.i t.aw,.i t.kQ]))))
def bU(k:bS):LV:=aX k.asked++(aX k.move++[.i k.fate])
def sJ{cs:LV}{o n:Nat}(h0:cs[o+0]?=(nm n)[0]?)(h1:cs[o+1]?=(nm n)[1]?):(nm n).length=2/\∀j v,(nm n)[j]?=some v->cs[o+j]?=some v:=⟨rfl,λj v h=>by
 match j with
 |0=>rw[h0];exact h
 |1=>rw[h1];exact h
 |j+2=>simp[nm] at h⟩
section
variable {a b:bp} {t u:cj} {k:bS} {n:Nat} {i:Int}
instance:Sub (aP a) 0 2 (nm a.id):=⟨sJ rfl rfl⟩
instance:Sub (aP a) 2 2 (nm a.dp):=⟨sJ rfl rfl⟩
instance:Sub (aP a) 4 2 (nm a.dq):=⟨sJ rfl rfl⟩
instance:Sub (aP a) 6 2 (nm a.cp):=⟨sJ rfl rfl⟩
instance:Sub (aP a) 8 2 (nm a.cq):=⟨sJ rfl rfl⟩
instance:Sub (aP a) 0 14 (aP a):=⟨rfl,λj v h=>by rw[az];exact h⟩
instance:Sub (aX t) 0 2 (nm t.id):=⟨sJ rfl rfl⟩
instance:Sub (aX t) 2 2 (nm t.bq):=⟨sJ rfl rfl⟩
instance:Sub (aX t) 4 2 (nm t.aU):=⟨sJ rfl rfl⟩
instance:Sub (aX t) 6 2 (nm t.aZ):=⟨sJ rfl rfl⟩
instance:Sub (aX t) 8 2 (nm t.pending):=⟨sJ rfl rfl⟩
instance:Sub (aX t) 0 16 (aX t):=⟨rfl,λj v h=>by rw[az];exact h⟩
instance:Sub (bU k) 0 33 (bU k):=⟨rfl,λj v h=>by rw[az];exact h⟩
instance:Sub (bU k) 0 16 (aX k.asked):=⟨rfl,λj v h=>by rw[az];unfold bU;rw[bM (ar.1 h).1];exact h⟩
instance:Sub (bU k) 16 16 (aX k.move):=⟨rfl,λj v h=>by
 have hl:(aX k.asked).length=16:=rfl
 unfold bU
 rw[jo (by omega),hl,show 16+j-16=j by omega,bM (ar.1 h).1];exact h⟩
def lW{xs ys:LV}(h1:∀v∈xs,v.oneCell'=true)(h2:∀v∈ys,v.oneCell'=true):∀v∈xs++ys,v.oneCell'=true:=λv h=>(dG.1 h).elim (h1 v) (h2 v)
def iZ(a:bp):∀v∈aP a,v.oneCell'=true:=lW (jL _) (lW (jL _) (lW (jL _) (lW (jL _) (lW (jL _) λv h=>by simp at h;rcases h with rfl|rfl|rfl|rfl<;>rfl))))
def qv(t:cj):∀v∈aX t,v.oneCell'=true:=lW (jL _) (lW (jL _) (lW (jL _) (lW (jL _) (lW (jL _) λv h=>by simp at h;rcases h with rfl|rfl|rfl|rfl|rfl|rfl<;>rfl))))
def m8(k:bS):∀v∈bU k,v.oneCell'=true:=lW (qv _) (lW (qv _) λv h=>by simp at h;subst h;rfl)
instance:Wr (aP a) 2 (nm n) (aP {a with dp:=n}):=⟨rfl,by show 4<=14;decide,jL n⟩
instance:Wr (aP a) 4 (nm n) (aP {a with dq:=n}):=⟨rfl,by show 6<=14;decide,jL n⟩
instance:Wr (aP a) 6 (nm n) (aP {a with cp:=n}):=⟨rfl,by show 8<=14;decide,jL n⟩
instance:Wr (aP a) 8 (nm n) (aP {a with cq:=n}):=⟨rfl,by show 10<=14;decide,jL n⟩
instance:Wr (aP a) 12 [.i i] (aP {a with au:=i}):=⟨rfl,by show 13<=14;decide,λv h=>by simp at h;subst h;rfl⟩
instance:Wr (aP a) 13 [.i i] (aP {a with aw:=i}):=⟨rfl,by show 14<=14;decide,λv h=>by simp at h;subst h;rfl⟩
instance:Wr (aP a) 0 (aP b) (aP b):=⟨rfl,aC _,iZ b⟩
instance{x1 x2 x3 x4 x5 x6 x7 x8 x9 Bn Bm Bl Bk Ej:Value}:Wr [x1,x2,x3,x4,x5,x6,x7,x8,x9,Bn,Bm,Bl,Bk,Ej] 0 (aP b) (aP b):=⟨rfl,aC _,iZ b⟩
instance:Wr (aX t) 6 (nm n) (aX {t with aZ:=n}):=⟨rfl,by show 8<=16;decide,jL n⟩
instance:Wr (aX t) 11 [.i i] (aX {t with bt:=i}):=⟨rfl,by show 12<=16;decide,λv h=>by simp at h;subst h;rfl⟩
instance:Wr (aX t) 12 [.i i] (aX {t with code:=i}):=⟨rfl,by show 13<=16;decide,λv h=>by simp at h;subst h;rfl⟩
instance:Wr (aX t) 13 [.i i] (aX {t with au:=i}):=⟨rfl,by show 14<=16;decide,λv h=>by simp at h;subst h;rfl⟩
instance{x1 x2 x3 x4 x5 x6 x7 x8 x9 Bn Bm Bl Bk Ej HM HL:Value}:Wr [x1,x2,x3,x4,x5,x6,x7,x8,x9,Bn,Bm,Bl,Bk,Ej,HM,HL] 0 (aX u) (aX u):=⟨rfl,aC _,qv u⟩
end
section
variable {x1 x2 x3 x4 x5 x6 x7 x8 x9 Bn Bm Bl Bk Ej HM HL:Value} {i d e c p:Nat} {l o f s b m:Int}
instance:Wr [x1,x2,x3,x4,x5,x6,x7,x8,x9,Bn,Bm,Bl,Bk,Ej] 0 (nm i++(nm d++(nm e++(nm c++(nm p++[.i l,.i o,.i f,.i s]))))) (aP ⟨i,d,e,c,p,l,o,f,s⟩):=⟨rfl,aC _,iZ ⟨i,d,e,c,p,l,o,f,s⟩⟩
instance:Wr [x1,x2,x3,x4,x5,x6,x7,x8,x9,Bn,Bm,Bl,Bk,Ej,HM,HL] 0 (nm i++(nm d++(nm e++(nm c++(nm p++[.i l,.i o,.i f,.i s,.i b,.i m]))))) (aX ⟨i,d,e,c,p,l,o,f,s,b,m⟩):=⟨rfl,aC _,qv ⟨i,d,e,c,p,l,o,f,s,b,m⟩⟩
end
def zA:bp:=⟨0,0,0,0,0,0,0,0,0⟩
def zT:cj:=⟨0,0,0,0,0,0,0,0,0,0,0⟩
section
variable {x1 x2 x3 x4 x5 x6 x7 x8 x9 Bn Bm Bl Bk Ej HM HL:Value} {a:bp} {t:cj}
instance:Wr [x1,x2,x3,x4,x5,x6,x7,x8,x9,Bn,Bm,Bl,Bk,Ej] 0 [.u 0,.u 0,.u 0,.u 0,.u 0,.u 0,.u 0,.u 0,.u 0,.u 0,.i 0,.i 0,.i 0,.i 0] (aP zA):=⟨rfl,aC _,iZ zA⟩
instance:Wr [x1,x2,x3,x4,x5,x6,x7,x8,x9,Bn,Bm,Bl,Bk,Ej,HM,HL] 0 [.u 0,.u 0,.u 0,.u 0,.u 0,.u 0,.u 0,.u 0,.u 0,.u 0,.i 0,.i 0,.i 0,.i 0,.i 0,.i 0] (aX zT):=⟨rfl,aC _,qv zT⟩
end
def YN{W:World}{L:LH}{X:WK}{r o:Nat}{a:bp}{cs:LV}{f:LV->LH}[i:Lc (Sep.pt r) L cs f][s:Sub cs o 14 (aP a)](h:T W L X):T W L (kp ⟨r,o,none⟩ (aP a) X):=Q7 (n:=14) h
def YL{W:World}{L:LH}{X:WK}{r o:Nat}{a:cj}{cs:LV}{f:LV->LH}[i:Lc (Sep.pt r) L cs f][s:Sub cs o 16 (aX a)](h:T W L X):T W L (kp ⟨r,o,none⟩ (aX a) X):=Q7 (n:=16) h
section
variable {L:LH} {X:WK} {r o:Nat} {a:bp} {b:cj} {k:bS} {cs:LV} {f:LV->LH}
instance[i:Lc (Sep.pt r) L cs f][s:Sub cs o 14 (aP a)]:Wk L (kp ⟨r,o,none⟩ (aP a) X) L X:=⟨λ_ h=>YN h⟩
instance[i:Lc (Sep.pt r) L cs f][s:Sub cs o 16 (aX b)]:Wk L (kp ⟨r,o,none⟩ (aX b) X) L X:=⟨λ_ h=>YL h⟩
instance:Ln (aP a) 14:=⟨rfl⟩
instance:Ln (aX b) 16:=⟨rfl⟩
instance:Ln (bU k) 33:=⟨rfl⟩
instance:Gt (aP a) 10 (.i a.bt):=⟨rfl⟩
instance:Gt (aP a) 11 (.i a.code):=⟨rfl⟩
instance:Gt (aP a) 12 (.i a.au):=⟨rfl⟩
instance:Gt (aP a) 13 (.i a.aw):=⟨rfl⟩
instance:Gt (aX b) 10 (.i b.cL):=⟨rfl⟩
instance:Gt (aX b) 11 (.i b.bt):=⟨rfl⟩
instance:Gt (aX b) 12 (.i b.code):=⟨rfl⟩
instance:Gt (aX b) 13 (.i b.au):=⟨rfl⟩
instance:Gt (aX b) 14 (.i b.aw):=⟨rfl⟩
instance:Gt (aX b) 15 (.i b.kQ):=⟨rfl⟩
instance:Gt (bU k) 26 (.i k.move.cL):=⟨rfl⟩
instance:Gt (bU k) 30 (.i k.move.aw):=⟨rfl⟩
instance:Gt (bU k) 31 (.i k.move.kQ):=⟨rfl⟩
instance:Gt (bU k) 32 (.i k.fate):=⟨rfl⟩
end
structure nX(W:World):Prop where
 LR:∀j v,(nm (bV-1))[j]?=some v->W.cell? ((ad N.qz 0).add j)=some v
 told:∀j v,([.i 0,.i 0,.i 27,.i 28,.i 29]:LV)[j]?=some v->W.cell? ((ad N.vG 0).add j)=some v
structure wD(a:bp):Prop where
 id:a.id<bV
 dp:a.dp<bV
 dq:a.dq<bV
 cp:a.cp<bV
 cq:a.cq<bV
 bt:oc a.bt
 code:oc a.code
 au:oc a.au
 aw:oc a.aw
structure Bf(t:cj):Prop where
 id:t.id<bV
 bq:t.bq<bV
 aU:t.aU<bV
 aZ:t.aZ<bV
 pending:t.pending<bV
 cL:oc t.cL
 bt:oc t.bt
 code:oc t.code
 au:oc t.au
 aw:oc t.aw
 kQ:oc t.kQ
section
variable {W:World} {L:LH} {K:VK} {a b:bp} {t u:cj}
def Sm(h:T W L (K (.b (decide (a.dp=0/\a.dq=0/\a.cp=0/\a.cq=0/\a.aw=0))))):T W L (iU (aP a) K):=by
 unfold iU iU.j1 iU.j2
 repeat' first|apply ws;intros|apply wb|first|refine rX ?_|apply dz<;>intro h1
 all_goals (refine T.fin (T.dp h) ?_;congr 1;first|rfl|(simp only[decide_eq_true_eq,decide_eq_false_iff_not,cn] at * <;>simp[*]<;>rfl))
def Qe(G:nX W)(ha:wD a)(h:T W L (K (.i (tJ a)))):T W L (nd (aP a) K):=by
 unfold nd nd.j1;have hf:=ha.au
 repeat' first|apply ws;intros|apply wb|first|refine rX ?_|refine Sm ?_|refine JH ⟨vB _,G.LR⟩ ?_|apply dz<;>intro h1
 all_goals try simp only[ab4 hf,bz] at *
 all_goals (apply T.fin (T.dp h);congr 1)
 ·rw[tJ,aj h1]
 all_goals
  all_goals try simp only[ab6 (show 0<=a.au by omega) (show a.au<256 by omega),bz] at *
  unfold tJ has at *
  repeat' split
  all_goals first|rfl|omega
end
def oO(a:bp):Prop:=(0<=a.bt/\a.bt<=4294967295)/\(0<=a.code/\a.code<=65535)/\0<=a.au/\a.au<=65535
instance(a:bp):Decidable (oO a):=by unfold oO;infer_instance
def jR(t:cj):Prop:=(0<=t.cL/\t.cL<=4294967295)/\(0<=t.bt/\t.bt<=4294967295)/\(0<=t.code/\t.code<=65535)/\0<=t.au/\t.au<=65535
instance(t:cj):Decidable (jR t):=by unfold jR;infer_instance
def gr(a:bp):List UInt8:=[a.id,a.dp,a.dq,a.cp,a.cq].flatMap nb++le .i64 4 a.bt++le .i64 2 a.code++le .i64 2 a.au++le .i64 8 a.aw
def lF(t:cj):List UInt8:=[t.id,t.bq,t.aU,t.aZ,t.pending].flatMap nb++le .i64 4 t.cL++le .i64 4 t.bt++le .i64 2 t.code++le .i64 2 t.au++le .i64 8 t.aw++le .i64 8 t.kQ
def uk:∀l:List Nat,(l.flatMap nb).length=16* l.length
 |[]=>rfl
 |x::l=>by rw[eP,ak,o0,uk l,bw];omega
def ln(a:bp):(gr a).length=96:=by simp only[gr,ak,uk,aJ];rfl
def mr(t:cj):(lF t).length=108:=by simp only[lF,ak,uk,aJ];rfl
section
variable {W:World} {L:LH} {K:VK} {a b:bp} {t u:cj} {p:Nat} {l:List UInt8} {q:List UInt8->LH}
def Fb(h:T W L (K (.b (decide (oO a))))):T W L (fZ (aP a) K):=by
 unfold fZ fZ.j1 fZ.j2 fZ.j3
 repeat' first|apply ws;intros|apply wb|apply dz<;>intro h1
 all_goals (apply T.fin (T.dp h);congr 1;(rw[ec];(try simp only[bz,false_iff,true_iff] at *)<;>(try simp only[oO,bh] at *)<;>omega))
def Et(h:T W L (K (.b (decide (jR t))))):T W L (dW (aX t) K):=by
 unfold dW dW.j1 dW.j2 dW.j3 dW.j4 dW.j5
 repeat' first|apply ws;intros|apply wb|apply dz<;>intro h1
 all_goals (apply T.fin (T.dp h);congr 1;(rw[ec];(try simp only[bz,false_iff,true_iff] at *)<;>(try simp only[jR,bh] at *)<;>omega))
def aaa(x:List Nat)(i:Nat)(y:Nat)(h:x[i]?=some y):((x.flatMap nm).drop (i* 2)).take 2=nm y:=by
 apply jq;intro j;rw[pw];split
 ·rename_i hj;rw[px];cases hv:(nm y)[j]? with
  |none=>have:=List.getElem?_eq_none_iff.1 hv;rw[vB] at this;omega
  |some v=>exact pd vB x i y h j v hv
 ·exact(gj (by rw[vB];omega)).symm
def Qc[i:Lc (buf p) L l q](hg:oO a)(hl:l.length<549755813888)(h:T W (q (l++gr a)) (K (.tuple ⟨[]⟩))):T W L (pn (ai p) (aP a) K):=by
 unfold pn pn.j1
 repeat' first|apply ws;intros|apply wb|refine Fb ?_
 rw[aA hg,Bool.not_true,fo];apply ws;rename_i r;intro w hs;refine⟨λvs w=>∃i:Nat,i<=5/\vs=[.p (some (ad r 0)),.agg ⟨[a.id,a.dp,a.dq,a.cp,a.cq].flatMap nm⟩,.i (i:Int)]/\St W w (Sep.pt r (aP a)::q (l++([a.id,a.dp,a.dq,a.cp,a.cq].take i).flatMap nb)),
  λvs _=>match vs with|[_,_,.int _ j]=>5-j.toNat|_=>0,⟨0,aL _,rfl,by rw[qM,List.flatMap_nil,bN,i.same];exact hs⟩,?_⟩
 rintro a1 Cn n1 w2 ⟨j,hj,e,hs⟩;cases e
 refine T.at ?_ hs;have hq:=i.next;have hlen:(l++([a.id,a.dp,a.dq,a.cp,a.cq].take j).flatMap nb).length<1099511627776:=by rw[ak,uk,aG];simp;omega
 apply gO<;>intro h1
 ·have bW:j<5:=by omega
  have hx:[a.id,a.dp,a.dq,a.cp,a.cq][j]?=some ([a.id,a.dp,a.dq,a.cp,a.cq][j]'(by simpa using bW)):=ao _;have e5:=oe j;have et:([a.id,a.dp,a.dq,a.cp,a.cq].take j).flatMap nb++nb ([a.id,a.dp,a.dq,a.cp,a.cq][j]'(by simpa using bW))=([a.id,a.dp,a.dq,a.cp,a.cq].take (j+1)).flatMap nb:=by
   rw[nD (by simpa using bW),fC];simp
  rw[aq,aaa _ _ _ hx,e5]
  repeat' first|apply ws;intros|apply wb|first|refine dv (by omega) ?_|refine Fc hlen ?_
  rw[aI,et];refine T.drop λw3 h3=>⟨⟨j+1,bW,rfl,?_⟩,dn (by omega)⟩;exact h3
 ·have he:j=5:=by omega
  subst he;simp only[dh,az];have e1:∀m:List UInt8,(l++m).length=l.length+m.length:=λm=>ak;have e2:(([a.id,a.dp,a.dq,a.cp,a.cq].take 5).flatMap nb).length=80:=by rw[uk];rfl
  repeat' first|apply ws|apply wb|first|refine KQ (by simp only[ak,aJ,e2];omega) ?_|refine Bd (by simp only[ak,aJ,e2];omega) ?_|refine wz (by simp only[ak,aJ,e2];omega) ?_
  have e3:l++gr a=l++([a.id,a.dp,a.dq,a.cp,a.cq].take 5).flatMap nb++le .i64 4 a.bt++le .i64 2 a.code++le .i64 2 a.au++le .i64 8 a.aw:=by
   unfold gr;simp only[aI];rfl
  rw[<-e3];exact T.dp h
def HZ[i:Lc (buf p) L l q](hg:jR t)(hl:l.length<549755813888)(h:T W (q (l++lF t)) (K (.tuple ⟨[]⟩))):T W L (nK (ai p) (aX t) K):=by
 unfold nK nK.j1
 repeat' first|apply ws;intros|apply wb|refine Et ?_
 rw[aA hg,Bool.not_true,fo];apply ws;rename_i r;intro w hs;refine⟨λvs w=>∃i:Nat,i<=5/\vs=[.p (some (ad r 0)),.agg ⟨[t.id,t.bq,t.aU,t.aZ,t.pending].flatMap nm⟩,.i (i:Int)]/\St W w (Sep.pt r (aX t)::q (l++([t.id,t.bq,t.aU,t.aZ,t.pending].take i).flatMap nb)),
  λvs _=>match vs with|[_,_,.int _ j]=>5-j.toNat|_=>0,⟨0,aL _,rfl,by rw[qM,List.flatMap_nil,bN,i.same];exact hs⟩,?_⟩
 rintro a1 Cn n1 w2 ⟨j,hj,e,hs⟩;cases e
 refine T.at ?_ hs;have hq:=i.next;have hlen:(l++([t.id,t.bq,t.aU,t.aZ,t.pending].take j).flatMap nb).length<1099511627776:=by rw[ak,uk,aG];simp;omega
 apply gO<;>intro h1
 ·have bW:j<5:=by omega
  have hx:[t.id,t.bq,t.aU,t.aZ,t.pending][j]?=some ([t.id,t.bq,t.aU,t.aZ,t.pending][j]'(by simpa using bW)):=ao _;have e5:=oe j;have et:([t.id,t.bq,t.aU,t.aZ,t.pending].take j).flatMap nb++nb ([t.id,t.bq,t.aU,t.aZ,t.pending][j]'(by simpa using bW))=([t.id,t.bq,t.aU,t.aZ,t.pending].take (j+1)).flatMap nb:=by
   rw[nD (by simpa using bW),fC];simp
  rw[aq,aaa _ _ _ hx,e5]
  repeat' first|apply ws;intros|apply wb|first|refine dv (by omega) ?_|refine Fc hlen ?_
  rw[aI,et];refine T.drop λw3 h3=>⟨⟨j+1,bW,rfl,?_⟩,dn (by omega)⟩;exact h3
 ·have he:j=5:=by omega
  subst he;simp only[dh,az];have e2:(([t.id,t.bq,t.aU,t.aZ,t.pending].take 5).flatMap nb).length=80:=by rw[uk];rfl
  repeat' first|apply ws|apply wb|first|refine KQ (by simp only[ak,aJ,e2];omega) ?_|refine Bd (by simp only[ak,aJ,e2];omega) ?_|refine wz (by simp only[ak,aJ,e2];omega) ?_
  have e3:l++lF t=l++([t.id,t.bq,t.aU,t.aZ,t.pending].take 5).flatMap nb++le .i64 4 t.cL++le .i64 4 t.bt++le .i64 2 t.code++le .i64 2 t.au++le .i64 8 t.aw++le .i64 8 t.kQ:=by
   unfold lF;simp only[aI];rfl
  rw[<-e3];exact T.dp h
abbrev RS:=List UInt8×Bool
def vD(n:Nat)(x:RS):RS:=match n with|0=>x|n+1=>dw 16 (vD n x)
def AF(x:RS):RS:=dw 8 (dw 2 (dw 2 (dw 4 (vD 5 x))))
def AH(x:RS):bp:=if(AF x).2=true then zA else
 ⟨wP x,wP (vD 1 x),wP (vD 2 x),wP (vD 3 x),wP (vD 4 x),gH 4 (vD 5 x),gH 2 (dw 4 (vD 5 x)),gH 2 (dw 2 (dw 4 (vD 5 x))),gH 8 (dw 2 (dw 2 (dw 4 (vD 5 x))))⟩
def AY(x:RS):RS:=dw 8 (dw 8 (dw 2 (dw 2 (dw 4 (dw 4 (vD 5 x))))))
def AZ(x:RS):cj:=if(AY x).2=true then zT else
 ⟨wP x,wP (vD 1 x),wP (vD 2 x),wP (vD 3 x),wP (vD 4 x),gH 4 (vD 5 x),gH 4 (dw 4 (vD 5 x)),gH 2 (dw 4 (dw 4 (vD 5 x))),gH 2 (dw 2 (dw 4 (dw 4 (vD 5 x)))),
  gH 8 (dw 2 (dw 2 (dw 4 (dw 4 (vD 5 x))))),gH 8 (dw 8 (dw 2 (dw 2 (dw 4 (dw 4 (vD 5 x))))))⟩
variable {r:Nat} {x:RS} {g:RS->LH}
def lX{m:Nat}{x:RS}{B:Nat}(h:x.1.length<B):(dw m x).1.length<B:=ni (qi m x) h
def Qd[i:Lc (rd r) L x g](hl:x.1.length<1099511627776)(h:T W (g (AF x)) (K (.agg ⟨aP (AH x)⟩))):T W L (kE (ai r) K):=by
 unfold kE;have hq:=i.next
 repeat' first|apply ws;intros|apply wb|first|refine Fk (by repeat (first|exact hl|apply lX)) ?_|refine KV (by repeat (first|exact hl|apply lX)) ?_|refine Be (by repeat (first|exact hl|apply lX)) ?_|refine uK (by repeat (first|exact hl|apply lX)) ?_|refine uJ ?_
 have e:dw 8 (dw 2 (dw 2 (dw 4 (dw 16 (dw 16 (dw 16 (dw 16 (dw 16 x))))))))=AF x:=rfl;rw[e];unfold AH at h;apply dz<;>intro h1
 ·rw[aj h1] at h;apply ws;exact T.dp h
 ·rw[ah (by rw[h1];decide)] at h;apply ws;exact T.dp h
def H0[i:Lc (rd r) L x g](hl:x.1.length<1099511627776)(h:T W (g (AY x)) (K (.agg ⟨aX (AZ x)⟩))):T W L (jD (ai r) K):=by
 unfold jD;have hq:=i.next
 repeat' first|apply ws;intros|apply wb|first|refine Fk (by repeat (first|exact hl|apply lX)) ?_|refine KV (by repeat (first|exact hl|apply lX)) ?_|refine Be (by repeat (first|exact hl|apply lX)) ?_|refine uK (by repeat (first|exact hl|apply lX)) ?_|refine uJ ?_
 have e:dw 8 (dw 8 (dw 2 (dw 2 (dw 4 (dw 4 (dw 16 (dw 16 (dw 16 (dw 16 (dw 16 x))))))))))=AY x:=rfl;rw[e];unfold AZ at h;apply dz<;>intro h1
 ·rw[aj h1] at h;apply ws;exact T.dp h
 ·rw[ah (by rw[h1];decide)] at h;apply ws;exact T.dp h
end
end Go.Up
namespace Go.Den
open Go.RowKit
def pT(P:Program)(fT:TypeId->Option (LV)):Nat->List Field->Option (LV)
 |_,[]=>some []
 |o,f::r=>bif (f.name != "_")&&fe f.offset o then
           match fT f.type with
           |some z=>bif (match P.info? f.type with|some i=>fe i.size z.length|none=>false) then
                     match pT P fT (o+z.length) r with
                     |some zr=>some (z++zr)
                     |none=>none
            else none
           |none=>none
  else none
def wW(P:Program):Nat->TypeId->Option (LV)
 |0,_=>none
 |n+1,t=>match P.underlying t with
  |some (.int k)=>some [.int k 0]
  |some .bool=>some [.bool false]
  |some .string=>some [.string .empty]
  |some (.struct fs)=>bif P.stoodInHeld t then none else pT P (wW P n) 0 fs.toList
  |_=>none
def Ye(P:Program)(t:TypeId)(xs:LV):Value:=match P.underlying t with
 |some (.struct _)=>.agg ⟨xs⟩
 |_=>xs.headD undef
def mw:∀{zs xs:LV},lJ zs xs=true->xs.length=zs.length
 |[],[],_=>rfl
 |[],_::_,h=>by simp[lJ] at h
 |_::_,[],h=>by simp[lJ] at h
 |z::zs,x::xs,h=>by simp only[lJ,cY] at h;simp[mw h.2]
def vH:∀{z zr xs:LV},lJ (z++zr) xs=true->∃a b,xs=a++b/\lJ z a=true/\lJ zr b=true
 |[],zr,xs,h=>⟨[],xs,rfl,rfl,h⟩
 |y::z,zr,[],h=>by simp[lJ] at h
 |y::z,zr,x::xs,h=>by
  simp only[fE,lJ,cY] at h;obtain⟨a,b,rfl,h1,h2⟩:=vH h.2;exact⟨x::a,b,rfl,by simp[lJ,h.1,h1],h2⟩
def vM:∀{a b c d:LV},a.length=b.length->gG (a++c) (b++d)=(gG a b&&gG c d)
 |[],[],c,d,_=>by simp[gG]
 |[],_::_,_,_,h=>by simp at h
 |_::_,[],_,_,h=>by simp at h
 |x::a,y::b,c,d,h=>by
  simp only[fE,gG];rw[vM (by simpa using h),Bool.and_assoc]
def Ky{P:Program}:∀(n:Nat)(t:TypeId)(zs:LV),wW P n t=some zs->∀(xs ys:LV),lJ zs xs=true->lJ zs ys=true->∀(d:Nat)(w:World),(Op.equalIn (d+2* n) t (Ye P t xs) (Ye P t ys)).run P w=.ok (gG xs ys) w
 |0,_,_,h=>by simp[wW] at h
 |n+1,t,zs,h=>λxs ys hx hy d w=>by
  have hd:d+2* (n+1)=(d+2* n+1)+1:=by omega
  rw[hd];unfold wW at h;unfold Ye;generalize hu:P.underlying t=u at h;split at h
  ·cases h
   obtain⟨x,rfl⟩:=List.length_eq_one_iff.1 (mw hx);obtain⟨y,rfl⟩:=List.length_eq_one_iff.1 (mw hy)
   ·simp only[lJ,Bool.and_true] at hx hy;cases x<;>simp[fits] at hx
    cases y<;>simp[fits] at hy
    subst hx hy;simp[run_equalIn_int w _ t _ _ _ _ hu,gG,zL]
  ·cases h
   obtain⟨x,rfl⟩:=List.length_eq_one_iff.1 (mw hx);obtain⟨y,rfl⟩:=List.length_eq_one_iff.1 (mw hy)
   ·simp only[lJ,Bool.and_true] at hx hy;cases x<;>simp[fits] at hx
    cases y<;>simp[fits] at hy
    simp[run_equalIn_bool w _ t _ _ hu,gG,zL]
  ·cases h
   obtain⟨x,rfl⟩:=List.length_eq_one_iff.1 (mw hx);obtain⟨y,rfl⟩:=List.length_eq_one_iff.1 (mw hy)
   ·simp only[lJ,Bool.and_true] at hx hy;cases x<;>simp[fits] at hx
    cases y<;>simp[fits] at hy
    simp[run_equalIn_string w _ t _ _ hu,gG,zL,me]
  ·rename_i fs;cases hs:P.stoodInHeld t with
   |true=>rw[hs] at h;cases h
   |false=>
    rw[hs] at h;have DR:P.fieldsOf t=fs:=by simp[Program.fieldsOf,hu]
    show(Op.equalIn _ t (.agg ⟨xs⟩) (.agg ⟨ys⟩)).run P w=_;rw[run_equalIn_struct w _ t ⟨xs⟩ ⟨ys⟩ (by rw[DR];exact hu) hs,DR];have key:∀(l:List Field)(o:Nat)(zs:LV)(pre Lx xs ys:LV),pre.length=o->Lx.length=o->pT P (wW P n) o l=some zs->lJ zs xs=true->lJ zs ys=true->
                                                              (Op.eqFields (d+2* n+1) ⟨pre++xs⟩ ⟨Lx++ys⟩ l).run P w=.ok (gG xs ys) w:=by
     intro l
     induction l with
     |nil=>
      intro o zs pre Lx xs ys h1 h2 h3 hx hy;simp only[pT,bj.injEq] at h3;subst h3;cases xs<;>cases ys<;>simp[lJ] at hx hy
      simp[Op.eqFields,gG]
     |cons f l ih=>
      intro o zs pre Lx xs ys h1 h2 h3 hx hy;unfold pT at h3;cases hc:((f.name != "_")&&fe f.offset o) with
      |false=>rw[hc] at h3;cases h3
      |true=>
       rw[hc] at h3;simp only[cY] at hc;have hn':f.name≠ "_":=by simpa using hc.1
       have ho':f.offset=o:=df hc.2;simp only[cond_true] at h3;cases hz:wW P n f.type with
       |none=>rw[hz] at h3;cases h3
       |some z=>
        rw[hz] at h3;dsimp only at h3;cases hi:P.info? f.type with
        |none=>rw[hi] at h3;cases h3
        |some i=>
         rw[hi] at h3;dsimp only at h3;cases oI:fe i.size z.length with
         |false=>rw[oI] at h3;cases h3
         |true=>
          rw[oI] at h3;have oI:=df oI;simp only[cond_true] at h3;cases hr:pT P (wW P n) (o+z.length) l with
          |none=>rw[hr] at h3;cases h3
          |some zr=>
           rw[hr] at h3;simp only[bj.injEq] at h3;subst h3;obtain⟨x1,x2,rfl,a1,a2⟩:=vH hx;obtain⟨y1,y2,rfl,b1,b2⟩:=vH hy;have lx:=mw a1;have ly:=mw b1;have T4:∀(p x1 x2:LV),p.length=o->lJ z x1=true->(part f.type (⟨p++(x1++x2)⟩:Array Value) f.offset).run P w=.ok (Ye P f.type x1) w:=by
            intro p x1 x2 hp a1;have lx:=mw a1;cases n with
            |zero=>simp[wW] at hz
            |succ m=>
             unfold wW at hz;unfold Ye;generalize hfu:P.underlying f.type=fu at hz;have Fz:∀v:Value,x1=[v]->qI (fu.getD (.int .i64))=false->fu.isSome=true->(part f.type (⟨p++(x1++x2)⟩:Array Value) f.offset).run P w=.ok v w:=by
              intro v hv hg Zp;subst hv;cases fu with
              |none=>cases Zp
              |some fd=>
               simp only[dk] at hg;cases fd<;>simp[qI] at hg<;>simp[part,isAgg,underlying,hfu,ho',hp]
             split at hz
             ·cases hz
              match x1,a1,lx,Fz with
              |[v],_,_,Fz=>exact Fz v rfl rfl rfl
             ·cases hz
              match x1,a1,lx,Fz with
              |[v],_,_,Fz=>exact Fz v rfl rfl rfl
             ·cases hz
              match x1,a1,lx,Fz with
              |[v],_,_,Fz=>exact Fz v rfl rfl rfl
             ·simp only[part,isAgg,underlying,sizeOf,typeInfo,Sem.run_bind,run_program,Result.andThen_ok,hfu,hi,Sem.run_pure,if_true,ho'];have:(⟨p++(x1++x2)⟩:Array Value).extract o (o+i.size)=⟨x1⟩:=by
               apply rv;rw[Array.toList_extract];show List.extract (p++(x1++x2)) o (o+i.size)=x1;rw[List.extract_eq_take_drop,<-hp,List.drop_left' rfl,oI,show p.length+z.length-p.length=x1.length by omega,List.take_left' rfl]
              rw[this]
             ·cases hz
           have ihn:=Ky n f.type z hz x1 y1 a1 b1 (d+1) w;have TZ:=ih (o+z.length) zr (pre++x1) (Lx++y1) x2 y2 (by rw[ak,h1,lx]) (by rw[ak,h2,ly]) hr a2 b2;rw[show d+1+2* n=d+2* n+1 by omega] at ihn;rw[aI,aI] at TZ;rw[Op.eqFields];simp only[aj hn',Sem.run_bind,T4 pre x1 x2 h1 a1,T4 Lx y1 y2 h2 b1,ihn,Result.andThen_ok];rw[vM (by rw[lx,ly])];cases gG x1 y1
           ·simp
           ·simpa using TZ
    have:=key fs.toList 0 zs [] [] xs ys rfl rfl (by simpa using h) hx hy;simpa using this
  ·cases h
def pH.nil{P:Program}:pH P []:=λt zs h=>by simp[D4] at h
def pH.cons{P:Program}{E:Qw}{t:Nat}{z:LV}{fs:Array Field}(h1:P.eqGuardType P.depth t=false)(h2:wW P 4 t=some z)(h3:P.underlying t=some (.struct fs))(h:pH P E):pH P ((t,z)::E):=λu zs hu=>by
 unfold D4 at hu;cases hb:fe t u with
 |true=>
  rw[hb] at hu;have:=df hb;subst this;cases hu
  refine⟨h1,λxs ys hx hy w=>?_⟩;have:=Ky 4 t z h2 xs ys hx hy (Op.maxDepth-8) w;have e:Op.maxDepth-8+2* 4=Op.maxDepth:=by decide
  rw[e] at this;unfold Ye at this;rw[h3] at this;exact this
 |false=>
  rw[hb] at hu;exact h u zs hu
end Go.Den
namespace Go.Up
open Go.Sep Go.Den Go.RowKit Go.Prog Go.Md
def KB:∀(xs ys:List Int),xs.length=ys.length->gG (xs.map (.int .i64)) (ys.map (.int .i64))=decide (xs=ys)
 |[],[],_=>rfl
 |[],_::_,h=>by simp at h
 |_::_,[],h=>by simp at h
 |x::xs,y::ys,h=>by
  simp only[fq,gG,zL];rw[KB xs ys (by simpa using h),ec];simp
def oq{a b:Nat}{xs ys:LV}:gG (nm a++xs) (nm b++ys)=(decide (a=b)&&gG xs ys):=by rw[vM (show(nm a).length=(nm b).length from rfl),Pz]
def So(t u:cj):gG (aX t) (aX u)=decide (t=u):=by
 have e:=KB [t.cL,t.bt,t.code,t.au,t.aw,t.kQ] [u.cL,u.bt,u.code,u.au,u.aw,u.kQ] rfl;simp only[fq,List.map_nil] at e;unfold aX;rw[oq,oq,oq,oq,oq,e];rw[ec];obtain⟨a,b,c,d,e,f,g,h,i,j,k⟩:=t;obtain⟨a',b',c',d',e',f',g',h',i',j',k'⟩:=u;simp[and_assoc]
section
variable {W:World} {L:LH} {K:VK} {a b:bp} {t u:cj} {k j:bS}
def NU{K:Bool->WK}(h:T W L (K (decide (t=u)))):T W L (lK [.u 0,.u 0,.u 0,.u 0,.u 0,.u 0,.u 0,.u 0,.u 0,.u 0,.i 0,.i 0,.i 0,.i 0,.i 0,.i 0] (aX t) (aX u) K):=NV rfl rfl (by rw[So];exact h)
def JI{cs:LV}{n j:Nat}{v:Value}{K:VK}(hj:j<n)(hv:cs[j]?=some v)(h:T W L (K v)):T W L (yF cs n (j:Int) K):=λw hs=>⟨v,⟨by omega,by omega,by rw[aq];exact hv⟩,h w hs⟩
def Qf(ha:0<=a.au/\a.au<256)(hb:0<=b.au/\b.au<256)(h:T W L (K (.i (ow a b)))):T W L (ng (aP a) (aP b) K):=by
 unfold ng ng.j1
 repeat' first|apply ws;intros|apply wb|apply dz<;>intro h1
 all_goals
  apply T.fin (T.dp h)
  congr 1
  unfold ow
  all_goals try simp only[Vc ha.1 ha.2,Vc hb.1 hb.2,bz] at *
  all_goals (split<;>omega)
def Fw(hf:0<=t.au/\t.au<256)(h:T W L (K (.b (decide (lM t.au))))):T W L (pI (aX t) K):=by
 unfold pI;apply ws;intros;apply T.fin (T.dp h);congr 1;(rw[ec];(try simp only[bz,false_iff,true_iff] at *)<;>(try simp only[Vb hf.1 hf.2,bh] at *)<;>omega)
def rr(hf:0<=t.au/\t.au<256)(h:T W L (K (.b (decide (has t.au 2))))):T W L (jb (aX t) K):=by
 unfold jb;apply ws;intros;apply T.fin (T.dp h);congr 1;(rw[ec];(try simp only[bz,false_iff,true_iff] at *)<;>(try simp only[KJ hf.1 hf.2,bh] at *)<;>omega)
def CL(hf:0<=t.au/\t.au<256)(h:T W L (K (.b (decide (has t.au 16\/has t.au 32))))):T W L (nL (aX t) K):=by
 unfold nL;apply ws;intros;apply T.fin (T.dp h);congr 1;(rw[ec];(try simp only[bz,false_iff,true_iff] at *)<;>(try simp only[ab5 hf.1 hf.2,bh] at *)<;>omega)
def FW(ht:0<=t.au/\t.au<256)(hu:0<=u.au/\u.au<256)(h:T W L (K (.i (rW t u)))):T W L (rz (aX t) (aX u) K):=by
 unfold rz
 repeat' first|apply ws;intros|apply wb|refine NU ?_
 rw[Va ht.1 ht.2,Va hu.1 hu.2];unfold rW at h;have e:({t with au:=t.au/2* 2}:cj)={u with au:=u.au/2* 2}↔({t with au:=t.au/2}:cj)={u with au:=u.au/2}:=by
  have WV:t.au/2* 2=u.au/2* 2↔t.au/2=u.au/2:=by omega
  simp only[Md.cj.mk.injEq,WV]
 apply gO<;>intro h1
 ·rw[aj (e.1 (h1))] at h;exact T.dp h
 ·rw[ah (λhh=>h1 (e.2 hh))] at h;exact T.dp h
def AN(f:Int)(i:Nat):Int:=(([2,4,8]:List Int).take i).foldl (λn b=>if has f b then n+1 else n) 0
def HR(hf:0<=t.au/\t.au<256)(h:T W L (K (.b (decide (jv t.au))))):T W L (ix (aX t) K):=by
 unfold ix;apply ws;intros;rename_i r;intro w hs;refine⟨λvs w=>∃i:Nat,i<=3/\vs=[.p (some (ad r 0)),.b false,.i (AN t.au i),.agg ⟨[.i 2,.i 4,.i 8]⟩,.i (i:Int)]/\St W w (Sep.pt r (aX t)::L),
  λvs _=>match vs with|[_,_,_,_,.int _ j]=>3-j.toNat|_=>0,⟨0,aL _,rfl,hs⟩,?_⟩
 rintro a1 b1 n1 uE n2 w2 ⟨j,hj,e,hs⟩;cases e
 refine T.at ?_ hs;simp only[dh,az];apply gO<;>intro h1
 ·have bW:j<3:=by omega
  have e5:=oe j;have key:∃m:Int,([.i 2,.i 4,.i 8]:LV)[j]?=some (.i m)/\(ch .i64 .and t.au m=0↔ ¬has t.au m)/\AN t.au (j+1)=(if has t.au m then AN t.au j+1 else AN t.au j)/\0<=AN t.au j/\AN t.au j<=j:=by
   match j,bW with
   |0,_=>exact⟨2,rfl,KJ hf.1 hf.2,rfl,u0 0,u0 0⟩
   |1,_=>exact⟨4,rfl,KI hf.1 hf.2,rfl,by simp only[AN,List.take,List.foldl];split<;>decide,by simp only[AN,List.take,List.foldl];split<;>decide⟩
   |2,_=>exact⟨8,rfl,P6 hf.1 hf.2,rfl,by simp only[AN,List.take,List.foldl];split<;>split<;>decide,by simp only[AN,List.take,List.foldl];split<;>split<;>decide⟩
  obtain⟨m,k1,k2,k3,k4,k5⟩:=key;apply JI (by omega) k1
  repeat' first|apply ws|apply wb|apply dz<;>intro h1
  all_goals rw[e5]
  ·have h2:has t.au m:=by
    have:=(mz.1 h1);rw[ne_eq,k2,bh] at this;exact this
   rw[aj h2] at k3;rw[aS (by omega),<-k3];exact λw3 h3=>⟨⟨j+1,bW,rfl,h3⟩,dn (by omega)⟩
  ·have h2: ¬has t.au m:=k2.1 (bne_eq_false_iff_eq.1 h1);rw[ah h2] at k3;rw[<-k3];exact λw3 h3=>⟨⟨j+1,bW,rfl,h3⟩,dn (by omega)⟩
 ·have he:j=3:=by omega
  subst he;have hc:AN t.au 3<=1↔ ¬(has t.au 2/\has t.au 4\/has t.au 2/\has t.au 8\/has t.au 4/\has t.au 8):=by
   simp only[AN,List.take,List.foldl];by_cases h2:has t.au 2<;>by_cases h4:has t.au 4<;>by_cases h8:has t.au 8<;>simp[h2,h4,h8]
  simp only[ix.j1,dh,az]
  repeat' first|apply ws|apply wb|first|refine Fw hf ?_|refine rr hf ?_|apply dz<;>intro h1
  all_goals
   apply T.fin (T.dp h)
   congr 1
   rw[ec]
   all_goals try simp only[Vb hf.1 hf.2,afJ hf.1 hf.2,afK hf.1 hf.2,hc,true_iff,false_iff,bz] at *
   all_goals (unfold jv;simp_all<;>(intros;omega))
def Xz(t:cj):Int:=if t.pending=0 then 16 else if t.bt<0\/4294967296<=t.bt then 8 else if t.code<0\/65536<=t.code then 9 else 0
def Xy(t:cj):Int:=if t.bq=0 then 12 else if t.aU=0 then 13 else if t.bq=t.aU then 14 else if t.pending≠0 then 15 else if t.aZ=0/\ ¬has t.au 16/\ ¬has t.au 32 then 18
 else if t.bt<1\/4294967296<=t.bt then 8 else if t.code<1\/65536<=t.code then 9 else 0
def PC(h:T W L (K (.i (Xz t)))):T W L (lC (aX t) K):=by
 unfold lC lC.j1
 repeat' first|apply ws;intros|apply wb|first|refine rX ?_|apply dz<;>intro h1
 all_goals try simp only[bz] at *
 all_goals (apply T.fin (T.dp h);congr 1;unfold Xz;repeat' split)
 all_goals omega
def OY(hf:0<=t.au/\t.au<256)(h:T W L (K (.i (Xy t)))):T W L (gY (aX t) K):=by
 unfold gY gY.j1 gY.j2
 repeat' first|apply ws;intros|apply wb|first|refine rX ?_|refine CL hf ?_|apply dz<;>intro h1
 all_goals try simp only[bz] at *
 all_goals (apply T.fin (T.dp h);congr 1;unfold Xy has at *;repeat' split)
 all_goals first|rfl|omega
def FV(G:nX W)(ht:Bf t)(h:T W L (K (.i (pC t)))):T W L (dI (aX t) K):=by
 by_cases hf:0<=t.au/\t.au<256
 ·unfold dI dI.j1 dI.j2 dI.j4 dI.j3;rw[show pC t=if t.au<0\/255<t.au then 3 else if t.id=0 then 4 else if t.id=bV-1 then 5 else if ¬jv t.au then 6
   else if t.aw≠0\/t.kQ≠0 then 7 else if t.cL<0\/1073741824<t.cL\/0<t.cL/\ ¬has t.au 2 then 17
   else if lM t.au then Xz t else Xy t from rfl] at h
  repeat' first|apply ws;intros|apply wb|first|refine rX ?_|refine JH ⟨vB _,G.LR⟩ ?_|refine HR hf ?_|refine Fw hf ?_|refine rr hf ?_|refine PC ?_|refine OY hf ?_|apply dz<;>intro h1
  all_goals try simp only[bz] at *
  all_goals (apply T.fin (T.dp h);congr 1;repeat' split)
  all_goals first|rfl|omega|(simp_all;done)|(simp_all;omega)
 ·unfold dI dI.j1;rw[show pC t=3 from aj (by omega)] at h;apply ws;intros;apply gO<;>intro h1
  ·rw[jm];exact T.dp h
  apply ws;rw[aA (by omega),jm];exact T.dp h
end
end Go.Up
namespace Go.Md
def ky(a:bp)(bq:Bool):Nat:=if bq then a.cq-(a.dp+a.dq) else a.dq-(a.cp+a.cq)
def more(a:bp)(bq:Bool)(n:Nat)(pending:Bool):bp×Int:=
 if bq then
  (if bV<=a.dp+a.dq+n then(a,32) else if has a.au 2/\ky a true<n then(a,33) else(if pending then{a with dp:=a.dp+n} else{a with dq:=a.dq+n},0))
 else
  (if bV<=a.cp+a.cq+n then(a,32) else if has a.au 4/\ky a false<n then(a,34) else(if pending then{a with cp:=a.cp+n} else{a with cq:=a.cq+n},0))
def aK.full(m:aK)(a:bp):bp:=m.ax.foldl Oy a
def aK.find(m:aK)(id:Nat):Option bp:=m.eS.find? λa=>a.id=id
def aK.name(m:aK)(id:Nat):Option Nat:=m.ax.findIdx? λk=>k.move.id=id
def aK.make(m:aK)(a:bp):Int×aK:=
 if tJ a≠0 then(tJ a,m) else match m.find a.id with
 |some x=>(ow a x,m)
 |none=>if 32<=m.eS.length then(35,m) else(0,{m with aw:=m.aw+1,eS:=m.eS++[{a with aw:=m.aw+1,au:=a.au/2* 2}]})
def aK.pQ(m:aK)(asked t:cj)(fate:Int):aK:=
 {m with aw:=m.aw+1,ax:=m.ax++[⟨asked,{t with aw:=m.aw+1,kQ:=m.clock},fate⟩]}
def dV(t:cj)(d c:bp):Nat×Int:=
 let n0:=if t.aZ=0 then bV-1 else t.aZ
 let n1:=if has t.au 16 then min n0 (ky d true) else n0
 if has t.au 16/\n1=0 then(0,33) else
 let n2:=if has t.au 32 then min n1 (ky c false) else n1
 if has t.au 32/\n2=0 then(0,34) else(n2,0)
def kd(t:cj)(named:Option bS)(d c:Option bp)(many:Nat):Int×Nat:=
 if pC t≠0 then(pC t,0) else if lM t.au then(6,0) else match named with
 |some k=>(rW t k.asked,0)
 |none=>match d with
  |none=>(19,0)
  |some d=>match c with
   |none=>(20,0)
   |some c=>
    if d.bt≠c.bt then(21,0) else if d.bt≠t.bt then(22,0) else if 8<=d.au then(30,0) else if 8<=c.au then(31,0)
    else if 96<=many then(35,0)
    else if(dV t d c).2≠0 then((dV t d c).2,0)
    else if(more d true (dV t d c).1 (decide (has t.au 2))).2≠0 then((more d true (dV t d c).1 (decide (has t.au 2))).2,0)
    else if(more c false (dV t d c).1 (decide (has t.au 2))).2≠0 then((more c false (dV t d c).1 (decide (has t.au 2))).2,0)
    else(0,(dV t d c).1)
def waits(t:cj):Int:=if has t.au 2 then 1 else 0
def aK.named(m:aK)(id:Nat):Option bS:=m.ax.find? λk=>k.move.id=id
def aK.move(m:aK)(t:cj):Int×aK:=
 let r:=kd t (m.named t.id) ((m.find t.bq).map m.full) ((m.find t.aU).map m.full) m.ax.length
 if r.1≠0 then(r.1,m) else(0,m.pQ t {t with aZ:=r.2} (waits t))
def aK.closed(m:aK)(id:Nat)(but:Nat):Bool:=
 match m.find id with
 |some a=>decide (8<=((m.ax.modify but λk=>{k with fate:=3}).foldl Oy a).au)
 |none=>false
def gT(t p:cj):Prop:=(t.bq≠0/\t.bq≠p.bq)\/(t.aU≠0/\t.aU≠p.aU)\/(t.bt≠0/\t.bt≠p.bt)\/(t.code≠0/\t.code≠p.code)
instance(t p:cj):Decidable (gT t p):=by unfold gT;infer_instance
def eO(t p:cj):Nat:=if t.aZ=0 then p.aZ else t.aZ
def ot(t p:cj):Prop:=(has t.au 4/\p.aZ<eO t p)\/(¬has t.au 4/\eO t p≠p.aZ)
instance(t p:cj):Decidable (ot t p):=by unfold ot;infer_instance
def nV(t:cj)(named pend:Option bS)(SB SS:Bool)(many:Nat):Int:=
 if pC t≠0 then pC t else if ¬lM t.au then 6 else match named with
 |some k=>rW t k.asked
 |none=>match pend with
  |none=>23
  |some k=>
   if ¬has k.move.au 2 then 24 else if gT t k.move then 25 else if 1<k.fate then 25+k.fate else if ot t k.move then 26
   else if has t.au 4/\SB=true then 30 else if has t.au 4/\SS=true then 31 else if 96<=many then 35 else 0
def di(t:cj):Int:=if has t.au 4 then 2 else 3
def mK(t p:cj):cj:={t with bq:=p.bq,aU:=p.aU,aZ:=eO t p,bt:=p.bt,code:=p.code}
def aK.fA(m:aK)(i:Nat)(fate:Int):aK:={m with ax:=m.ax.modify i λk=>{k with fate:=fate}}
def aK.qZ(m:aK)(t:cj):Int×aK:=
 match m.name t.pending with
 |none=>(nV t (m.named t.id) none false false m.ax.length,m)
 |some i=>match m.ax[i]? with
  |none=>(nV t (m.named t.id) none false false m.ax.length,m)
  |some k=>
   let r:=nV t (m.named t.id) (some k) (m.closed k.move.bq i) (m.closed k.move.aU i) m.ax.length
   if r≠0 then(r,m) else(0,(m.fA i (di t)).pQ t (mK t k.move) 0)
def lE(clock:Int)(k:bS):Prop:=k.fate=1/\0<k.move.cL/\k.move.kQ+k.move.cL<=clock
instance(clock:Int)(k:bS):Decidable (lE clock k):=by unfold lE;infer_instance
def aK.time(m:aK)(now:Int):aK:=
 let clock:=if m.clock<now/\now<=1099511627776 then now else m.clock
 {m with clock:=clock,ax:=m.ax.map λk=>if lE clock k then{k with fate:=4} else k}
def aK.qC(m:aK)(t:cj):Int×aK:=if pC t=0/\lM t.au then m.qZ t else m.move t
def aO.find(b:aO)(id:Nat):Option bp:=b.aB.find? λa=>a.id=id
def aO.bB(b:aO)(a:bp):aO:={b with aB:=b.aB.map λx=>if x.id=a.id then{a with aw:=x.aw} else x}
def aO.pQ(b:aO)(asked t:cj)(fate:Int):aO:=
 {b with aw:=b.aw+1,ax:=b.ax++[⟨asked,{t with aw:=b.aw+1,kQ:=b.clock},fate⟩]}
def aO.fate(b:aO)(id:Nat)(fate:Int):aO:={b with ax:=b.ax.map λk=>if k.move.id=id/\k.fate=1 then{k with fate:=fate} else k}
def aO.make(b:aO)(a:bp):Int×aO:=
 if tJ a≠0 then(tJ a,b) else match b.find a.id with
 |some x=>(ow a x,b)
 |none=>if 32<=b.aB.length then(35,b) else(0,{b with aw:=b.aw+1,aB:=b.aB++[{a with aw:=b.aw+1,au:=a.au/2* 2}]})
def close(a:bp)(yes:Prop)[Decidable yes]:bp:=if yes then{a with au:=a.au%8+8} else a
def open_(a:bp)(yes:Prop)[Decidable yes]:bp:=if yes then{a with au:=a.au%8} else a
def aO.named(b:aO)(id:Nat):Option bS:=b.ax.find? λk=>k.move.id=id
def aO.Af(b:aO)(t:cj)(n:Nat):aO:=
 match b.find t.bq,b.find t.aU with
 |some d,some c=>((b.bB (close (more d true n (decide (has t.au 2))).1 (has t.au 64))).bB (close (more c false n (decide (has t.au 2))).1 (has t.au 128))).pQ t {t with aZ:=n} (waits t)
 |_,_=>b
def aO.move(b:aO)(t:cj):Int×aO:=
 let r:=kd t (b.named t.id) (b.find t.bq) (b.find t.aU) b.ax.length
 if r.1≠0 then(r.1,b) else(0,b.Af t r.2)
def xe(d:bp)(p:cj)(n:Nat)(fate:Int):bp:=if fate=2 then{d with dp:=d.dp-p.aZ,dq:=d.dq+n} else open_ {d with dp:=d.dp-p.aZ} (has p.au 64)
def yl(c:bp)(p:cj)(n:Nat)(fate:Int):bp:=if fate=2 then{c with cp:=c.cp-p.aZ,cq:=c.cq+n} else open_ {c with cp:=c.cp-p.aZ} (has p.au 128)
def aO.release(b:aO)(p:cj)(n:Nat)(fate:Int):aO:=
 match b.find p.bq,b.find p.aU with
 |some d,some c=>((b.bB (xe d p n fate)).bB (yl c p n fate)).fate p.id fate
 |_,_=>b
def aO.jA(b:aO)(id:Nat)(by_:Prop)[Decidable by_]:Bool:=match b.find id with|some d=>decide (8<=d.au/\ ¬by_)|none=>false
def aO.qZ(b:aO)(t:cj):Int×aO:=
 match b.named t.pending with
 |none=>(nV t (b.named t.id) none false false b.ax.length,b)
 |some k=>
  let r:=nV t (b.named t.id) (some k) (b.jA k.move.bq (has k.move.au 64)) (b.jA k.move.aU (has k.move.au 128)) b.ax.length
  if r≠0 then(r,b) else(0,(b.release k.move (eO t k.move) (di t)).pQ t (mK t k.move) 0)
def aO.qC(b:aO)(t:cj):Int×aO:=if pC t=0/\lM t.au then b.qZ t else b.move t
end Go.Md
namespace Go.Up
open Go.Sep Go.Den Go.RowKit Go.Prog Go.Md
section
variable {W:World} {L:LH} {K:VK} {a:bp} {n m:Nat} {p:Bool}
def VR{a b:Nat}:(if a+b<bV then a+b else bV-1)<bV:=by unfold bV;split<;>omega
def JC(G:nX W)(hn:n<bV)(hm:m<bV)(h:T W L (K (.agg ⟨nm (if n+m<bV then n+m else bV-1)⟩))):T W L (fW (nm n) (nm m) K):=by
 unfold fW
 repeat' first|apply ws;intros|apply wb|first|refine vV hn hm ?_|refine JH ⟨vB _,G.LR⟩ ?_|apply dz<;>intro h1
 all_goals (apply T.fin (T.dp h);try simp only[bz] at *)
 ·rw[ah (by omega)]
 ·rw[aj h1,aj h1]
def Ft(G:nX W)(ha:wD a)(h:T W L (K (.agg ⟨nm (ky a p)⟩))):T W L (cG (aP a) p K):=by
 obtain⟨-,d1,d2,c1,c2,-,-,-,-⟩:=ha;unfold cG;have k1:∀x y z:Nat,x<bV->y<bV->z<bV->(if x<(if y+z<bV then y+z else bV-1) then 0 else x-(if y+z<bV then y+z else bV-1))=x-(y+z):=λx y z hx hy hz=>by
  by_cases hh:y+z<bV
  ·rw[aj hh];split<;>omega
  ·rw[ah hh];split<;>omega
 have e1:p=true->ky a p=a.cq-(a.dp+a.dq):=λe=>by rw[e];rfl
 have e2:p=false->ky a p=a.dq-(a.cp+a.cq):=λe=>by rw[e];rfl
 repeat' first|apply ws;intros|apply wb|first|refine JC G d1 d2 ?_|refine JC G c1 c2 ?_|apply dz<;>intro h1
 all_goals simp only[cG.j1,cG.j2,cG.j3,cG.j4,cG.j5,cG.j6]
 all_goals repeat' first|apply ws;intros|apply wb|refine KR (by assumption) VR ?_
 all_goals (refine T.fin (T.dp h) ?_;first|rw[e1 (by assumption),k1 _ _ _ (by assumption) (by assumption) (by assumption)]|rw[e2 (by assumption),k1 _ _ _ (by assumption) (by assumption) (by assumption)])
def Cf(ha:wD a):ky a p<bV:=by
 have:=ha.dq;have:=ha.cq;unfold ky;split<;>omega
def N3(x y z:Nat):z6 0 [x,y,z]=if x+y+z<bV then some (x+y+z) else none:=by
 simp only[z6,az]
 repeat' split
 all_goals first|rfl|omega
def Tl(G:nX W)(ha:wD a)(hn:n<bV)(hf:0<=a.au/\a.au<256)(h:T W L (K (.tuple ⟨[.agg ⟨aP (more a true n p).1⟩,.i (more a true n p).2]⟩))):T W L (kB (aP a) (nm n) p K):=by
 unfold kB;apply ws;intros;rename_i r4;refine Ve (l:=[a.dp,a.dq,n]) (by simp;exact⟨ha.dp,ha.dq,hn⟩) (by show 3<1000;decide) ?_;rw[N3];apply ws;intros;unfold more at h;apply dz<;>intro h1
 ·have hh: ¬a.dp+a.dq+n<bV:=λhh=>by rw[aj hh] at h1;cases h1
  rw[aj rfl,aj (by omega)] at h;apply ws;exact T.dp h
 have hh:a.dp+a.dq+n<bV:=by
  by_cases hh:a.dp+a.dq+n<bV
  ·exact hh
  ·rw[ah hh] at h1;cases h1
 rw[aj rfl,ah (by omega)] at h;have j1:∀r5 r4 r3 r2 r1:Nat,∀c4 c5:LV,T W (Sep.pt r5 c5::Sep.pt r4 c4::Sep.pt r3 (aP zA)::Sep.pt r2 (nm n)::Sep.pt r1 (aP a)::L) (kB.j1 K r1 r3 p r2 (decide (has a.au 2/\ky a true<n))):=λr5 r4 r3 r2 r1 c4 c5=>by
  unfold kB.j1;apply gO<;>intro h1
  ·rw[aj (h1)] at h;apply ws;exact T.dp h
  rw[ah (h1)] at h;apply dz<;>intro h1
  ·rw[aj h1] at h;have hx:a.dp+n<bV:=by omega
   repeat' first|apply ws|apply wb|refine vV ha.dp hn ?_
   rw[aj hx];exact T.dp h
  ·rw[ah (by rw[h1];decide)] at h;have hx:a.dq+n<bV:=by omega
   repeat' first|apply ws|apply wb|refine vV ha.dq hn ?_
   rw[aj hx];exact T.dp h
 apply ws;apply dz<;>intro h1
 ·have h2:has a.au 2:=by
   have:=mz.1 h1;rw[ne_eq,KJ hf.1 hf.2,bh] at this;exact this
  repeat' first|apply ws|apply wb|first|refine Ft G ha ?_|refine zW ?_
  have e:decide (ky a true<n)=decide (has a.au 2/\ky a true<n):=by simp[h2]
  rw[e];exact j1 _ _ _ _ _ _ _
 ·have h2: ¬has a.au 2:=(KJ hf.1 hf.2).1 (bne_eq_false_iff_eq.1 h1);have e:false=decide (has a.au 2/\ky a true<n):=by simp[h2]
  rw[e];exact j1 _ _ _ _ _ _ _
def Qz(G:nX W)(ha:wD a)(hn:n<bV)(hf:0<=a.au/\a.au<256)(h:T W L (K (.tuple ⟨[.agg ⟨aP (more a false n p).1⟩,.i (more a false n p).2]⟩))):T W L (jn (aP a) (nm n) p K):=by
 unfold jn;apply ws;intros;rename_i r4;refine Ve (l:=[a.cp,a.cq,n]) (by simp;exact⟨ha.cp,ha.cq,hn⟩) (by show 3<1000;decide) ?_;rw[N3];apply ws;intros;unfold more at h;apply dz<;>intro h1
 ·have hh: ¬a.cp+a.cq+n<bV:=λhh=>by rw[aj hh] at h1;cases h1
  rw[ah (by decide),aj (by omega)] at h;apply ws;exact T.dp h
 have hh:a.cp+a.cq+n<bV:=by
  by_cases hh:a.cp+a.cq+n<bV
  ·exact hh
  ·rw[ah hh] at h1;cases h1
 rw[ah (by decide),ah (by omega)] at h;have j1:∀r5 r4 r3 r2 r1:Nat,∀c4 c5:LV,T W (Sep.pt r5 c5::Sep.pt r4 c4::Sep.pt r3 (aP zA)::Sep.pt r2 (nm n)::Sep.pt r1 (aP a)::L) (jn.j1 K r1 r3 p r2 (decide (has a.au 4/\ky a false<n))):=λr5 r4 r3 r2 r1 c4 c5=>by
  unfold jn.j1;apply gO<;>intro h1
  ·rw[aj (h1)] at h;apply ws;exact T.dp h
  rw[ah (h1)] at h;apply dz<;>intro h1
  ·rw[aj h1] at h;have hx:a.cp+n<bV:=by omega
   repeat' first|apply ws|apply wb|refine vV ha.cp hn ?_
   rw[aj hx];exact T.dp h
  ·rw[ah (by rw[h1];decide)] at h;have hx:a.cq+n<bV:=by omega
   repeat' first|apply ws|apply wb|refine vV ha.cq hn ?_
   rw[aj hx];exact T.dp h
 apply ws;apply dz<;>intro h1
 ·have h2:has a.au 4:=by
   have:=mz.1 h1;rw[ne_eq,KI hf.1 hf.2,bh] at this;exact this
  repeat' first|apply ws|apply wb|first|refine Ft G ha ?_|refine zW ?_
  have e:decide (ky a false<n)=decide (has a.au 4/\ky a false<n):=by simp[h2]
  rw[e];exact j1 _ _ _ _ _ _ _
 ·have h2: ¬has a.au 4:=(KI hf.1 hf.2).1 (bne_eq_false_iff_eq.1 h1);have e:false=decide (has a.au 4/\ky a false<n):=by simp[h2]
  rw[e];exact j1 _ _ _ _ _ _ _
end
end Go.Up
namespace Go.Up
open Go.Sep Go.Den Go.RowKit Go.Prog Go.Md Go.bE
section
variable {W:World} {L:LH} {K:VK} {X:WK} {α:Type} {r n c e o j:Nat} {l:List α} {x y:α} {g:α->LV} {f:HP->LH}
def jH{K:LV->WK}[i:xF (ai r) n c L e (l.flatMap g) f](hf:∀x,(g x).length=e)(hx:l[o]?=some x)(h:T W L (K (g x))):T W L (aD ⟨r,o* e,none⟩ e K):=λw hs=>by
 obtain⟨k,hk,_⟩:=i.at_;exact Kg hs hk (hf x) (pd hf l o x hx) (h w hs)
def Er{v:Value}[i:xF (ai r) n c L e (l.flatMap g) f](hf:∀x,(g x).length=e)(hx:l[o]?=some x)(hv:(g x)[j]?=some v)(h:T W L (K v)):T W L (ld ⟨r,o* e+j,none⟩ K):=λw hs=>by
 obtain⟨k,hk,_⟩:=i.at_;exact zz hs hk (pd hf l o x hx j v hv) (h w hs)
def HT{v:Value}[i:xF (ai r) n c L e (l.flatMap g) f](hf:∀x,(g x).length=e)(hx:l[o]?=some x)(hv:(g x)[0]?=some v)(h:T W L (K v)):T W L (ld ⟨r,o* e,none⟩ K):=Er (j:=0) hf hx hv h
def EW(hf:∀x,(g x).length=e)(ho:o<l.length):o* e+e<=(l.flatMap g).length:=by
 rw[yL hf,<-Nat.succ_mul];exact fS e ho
def oh[i:xF (ai r) n c L e (l.flatMap g) f](hf:∀x,(g x).length=e)(ho:o<l.length)(h1:∀v∈g x,v.oneCell'=true)
 (h:T W (f (own (ai r) n c e ((l.set o x).flatMap g))) X):T W L (fH ⟨r,o* e,none⟩ (g x) X):=λw hs=>by
 obtain⟨k,hk,e1⟩:=i.at_;refine Q9 hs hk (by rw[hf];exact EW hf ho) h1 λw' h'=>h w' ?_;rw[e1,<-Cj hf l o x ho];exact h'
def zF{v:Value}(hf:∀x,(g x).length=e)(hx:l[o]?=some x)(hy:g y=(g x).set j v)(hj:j<e):(l.flatMap g).set (o* e+j) v=(l.set o y).flatMap g:=by
 have ho:=(ar.1 hx).1;have hle:=EW hf ho;rw[<-Cj hf l o y ho];apply jq;intro i;rw[yt (by rw[hf];exact hle),cA];by_cases h1:i<o* e
 ·rw[aj h1,ah (by omega)]
 ·rw[ah h1];by_cases h2:i<o* e+(g y).length
  ·rw[aj h2,hy,cA];rw[hf] at h2;obtain⟨m,rfl⟩:∃m,i=o* e+m:=⟨i-o* e,by omega⟩;rw[Nat.add_sub_cancel_left];by_cases h3:j=m
   ·subst h3;rw[aj rfl,aj rfl,aj (by omega),aj (by rw[hf];omega)]
   ·rw[ah (by omega),ah h3];have hm:m<(g x).length:=by rw[hf];omega
    rw[ao hm];exact pd hf l o x hx m _ (ao hm)
  ·rw[ah h2,ah (by rw[hf] at h2;omega)]
def VD{v:Value}[i:xF (ai r) n c L e (l.flatMap g) f](hf:∀x,(g x).length=e)(hx:l[o]?=some x)(hy:g y=(g x).set j v)(hj:j<e)(h1:v.oneCell'=true)
 (h:T W (f (own (ai r) n c e ((l.set o y).flatMap g))) X):T W L (st ⟨r,o* e+j,none⟩ v X):=λw hs=>by
 obtain⟨k,hk,e1⟩:=i.at_;have ho:=(ar.1 hx).1;have hle:=EW (g:=g) hf ho;refine Ey hs hk (by omega) h1 λw' h'=>h w' ?_;rw[e1,<-zF hf hx hy hj];exact h'
def Ep{bytes:Nat}{zero:LV}{len cap:Int}{K:OA->Nat->Nat->WK}(h0:0<=len/\len<=cap/\cap<=9223372036854775807/\cap* bytes<=281474976710656)
 (hK:∀r,T W (own (ai r) len.toNat cap.toNat zero.length (Builtin.zeroCells ⟨zero⟩ len.toNat).toList::L) (K (ai r) len.toNat cap.toNat)):T W L (Gx bytes zero len cap K):=λw hs=>
 OZ hs h0 λr w' h'=>hK r w' h'
def oR{z:α}{zs:LV}(hz:g z=zs)(m:Nat):(Builtin.zeroCells ⟨zs⟩ m).toList=(aM m z).flatMap g:=by
 subst hz
 induction m with
 |zero=>simp[Builtin.zeroCells]
 |succ m ih=>
  rw[List.replicate_succ',fC,<-ih];simp only[Builtin.zeroCells,AB,Array.toList_range,eP,List.flatMap_nil,bN];rw[lq,Nat.one_mul,List.range_add,cS,y6]
  congr 1
  show(mD (g z).length).map _=g z;apply jq;intro j;rw[dC];by_cases hj:j<(g z).length
  ·rw[lz hj,ao hj];show some _=some _
   congr 1
   simp only[Function.comp];show(⟨g z⟩:Array Value)[(m* (g z).length+j)%(g z).length]! =_;rw[Nat.mul_comm,Nat.mul_add_mod,eX hj];simp[hj]
  ·rw[gj (by simpa using hj),gj (by omega)];rfl
end
end Go.Up
