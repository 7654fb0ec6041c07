/- Part of the proof: see the last text. -/
import Derived.Test.YtibneekkkdnmgaaGreatDoorPA
import Derived.ProofKit
import Derived.OpenShut
import Derived.ChangeOld
import Derived.SizedLaws
import Derived.Carry
import Derived.Deep.Slices
import Derived.Laws.StructEq
set_option linter.all false
set_option maxRecDepth 100000
set_option synthInstance.maxSize 100000
open Array renaming ext'→uy,replicate→jt
open Bool renaming false_ne_true→cG,true_and→dV,noConfusion→q8,false_eq_true→cB,eq_iff_iff→bV,and_eq_true→dW
open Decidable renaming not_not→bh
open Go.IntKind renaming i64→aa
open Int renaming toNat_natCast→ao,tmod_eq_emod_of_nonneg→dN,eq_ofNat_of_zero_le→bm,fdiv_eq_ediv_of_nonneg→F3,le_refl→sH
open List renaming mem_cons→jB,set_cons_succ→mV,getElem?_eq_getElem→aj,getElem_mem→bR,mem_of_getElem?→cb,mem_append→dF,mem_or_eq_of_mem_set→eY,mem_cons_of_mem→gW,drop_zero→iQ,getD_eq_getElem?_getD→jy,length_replicate→mO,mem_cons_self→pv,mem_singleton→Cd,getElem?_eq_some_iff→aw,length_map→bP,mem_map→cw,map_cons→cN,getElem?_append_left→dB,getElem?_map→eK,getElem?_append_right→iz,range→pr,getElem?_range→qO,getElem?_drop→rW,append_nil→bI,nil_append→de,drop_of_length_le→ga,take_zero→nG,reverse_cons→xC,getElem?_set_ne→NH,length_append→au,append_assoc→aH,take_of_length_le→bM,map_append→cR,map_congr_left→dS,map_map→oU,take_succ_eq_append_getElem→qi,replicate→bn,Perm→bU,length_nil→cH,length_take→aD,length_drop→aS,set_set→jk,drop_drop→jz,take_take→xz,length_cons→bt,cons_append→kV,mem_of_find?_eq_some→mM,take_length→aR,take_left→Cc,drop_eq_getElem_cons→gO,flatMap_cons→iB,getElem?_cons_succ→bO,getElem?_eq_none→pE,map_nil→ud,take_append_drop→dj,getElem?_set→dc,length_set→iP,ext_getElem?→qk,flatMap_append→fQ,getElem?_take→rV
open Nat renaming le_refl→aG,zero_add→aC,mul_le_mul_right→ie,add_mul→lO,mul_comm→vB,le_trans→y9,zero_le→aE,reduceAdd→ae,reduceMul→af,le_of_ble_eq_true→aJ,mul_one→lN,sub_self→lu,pow_le_pow_right→gv,pow_succ→y8,add_zero→dZ,mod_eq_of_lt→fw,min_eq_left→qG,lt_of_le_of_lt→F2,eq_of_beq_eq_true→eH,beq→ig
open Option renaming getD_some→dx,some→bE,map_some→eW,getD_none→gw
namespace Go.Prog
open Go.Den
def rv(e:BA)(K:VK):WK:=mk [.u 0,.u 0] λf=>mk [.u 0,.u 0] λj=>br (decide ((e.size:Int)<16)) (aI (ad j 0) 2 λl=>bw 2 (ad f 0) l (aI (ad f 0) 2 λm=>K (.tuple ⟨[.agg ⟨m⟩,.b false]⟩))) ((lp [.p (some (ad f 0)),.b false,.p (some (ad j 0)),.i 0] λk n=>∀d g c a h,k [.p (some d),.b g,.p (some c),.i a] h->(br (decide (a<8)) (tick (lU (c.add 1) λo=>zo e a λq=>ch ((0:Int)<=(aa.wrap (8* a))) (st (c.add 1) (.u (db .u64 .or o (shl .u64 (IntKind.u64.wrap (q.toNat:Int)) (aa.wrap (8* a))))) (tick (lU c λr=>zo e (aa.wrap (8+a)) λs=>ch ((0:Int)<=(aa.wrap (8* a))) (st c (.u (db .u64 .or r (shl .u64 (IntKind.u64.wrap (s.toNat:Int)) (aa.wrap (8* a))))) ((ct k n [.p (some d),.b g,.p (some c),.i (aa.wrap (a+1))] [.p (some d),.b g,.p (some c),.i a] h)))))))) (aI c 2 λt=>bw 2 d t (aI d 2 λv=>K (.tuple ⟨[.agg ⟨v⟩,.b true]⟩)))) h))
def cS(c:OA)(K:VK):WK:=mk [.u 0,.u 0] λa=>fa c 16 (xS λd=>rv d (x2 λe f=>(xA 2 λg=>(xB λj=>mk [.u 0,.u 0] λb=>bw 2 (ad b 0) g (aI (ad b 0) 2 λh=>bw 2 (ad a 0) h (aI (ad a 0) 2 λi=>K (.agg ⟨i⟩)))) f) e))
def cS.u:WP|[.pointer a],K=>cS a K|_,_=>no
def oo(a:OA)(K:VK):WK:=mk dR λb=>cS a (xA 2 λc=>cS a (xA 2 λd=>cS a (xA 2 λe=>cS a (xA 2 λf=>cS a (xA 2 λg=>aN a 4 (xI .i64 λh=>aN a 2 (xI .i64 λj=>aN a 2 (xI .i64 λk=>aN a 8 (xI .i64 λl=>ch (c.length=2/\(d.length=2/\(e.length=2/\(f.length=2/\(g.length=2/\(1=1/\(1=1/\(1=1/\(1=1/\True))))))))) (mk dR λm=>ch ((c++(d++(e++(f++(g++([.i h,.i j,.i k,.i l]:LV)))))).length=14) (jC (ad m 0) (c++(d++(e++(f++(g++([.i h,.i j,.i k,.i l]:LV)))))) (cW a (xB λn=>br n (ch True (ch (14=14) (jC (ad b 0) dR (aI (ad b 0) 14 λo=>K (.agg ⟨o⟩))))) (aI (ad m 0) 14 λp=>bw 14 (ad b 0) p (aI (ad b 0) 14 λq=>K (.agg ⟨q⟩))))))))))))))))
def oo.u:WP|[.pointer a],K=>oo a K|_,_=>no
def mZ(a:OA)(K:VK):WK:=mk iw λb=>cS a (xA 2 λc=>cS a (xA 2 λd=>cS a (xA 2 λe=>cS a (xA 2 λf=>cS a (xA 2 λg=>aN a 4 (xI .i64 λh=>aN a 4 (xI .i64 λj=>aN a 2 (xI .i64 λk=>aN a 2 (xI .i64 λl=>aN a 8 (xI .i64 λm=>aN a 8 (xI .i64 λn=>ch (c.length=2/\(d.length=2/\(e.length=2/\(f.length=2/\(g.length=2/\(1=1/\(1=1/\(1=1/\(1=1/\(1=1/\(1=1/\True))))))))))) (mk iw λo=>ch ((c++(d++(e++(f++(g++([.i h,.i j,.i k,.i l,.i m,.i n]:LV)))))).length=16) (jC (ad o 0) (c++(d++(e++(f++(g++([.i h,.i j,.i k,.i l,.i m,.i n]:LV)))))) (cW a (xB λp=>br p (ch True (ch (16=16) (jC (ad b 0) iw (aI (ad b 0) 16 λq=>K (.agg ⟨q⟩))))) (aI (ad o 0) 16 λr=>bw 16 (ad b 0) r (aI (ad b 0) 16 λs=>K (.agg ⟨s⟩))))))))))))))))))
def mZ.u:WP|[.pointer a],K=>mZ a K|_,_=>no
def pY(a:OA)(K:VK):WK:=br (a.isNone) (K (.i 0)) (nn a λb=>lT (b.add 1) λc=>br c (K (.i 0)) (nn a λd=>lS d λe=>K (.i (e.size:Int))))
def vZ(K:VK):WK:=Kl 32 NJ 8 8 λa b c=>ch (1=1/\True) (mk [.l a b c,.i 0,.i 0] λd=>K (.p (some (ad d 0))))
def ql(a:OA)(K:VK):WK:=ch (1=1/\True) (mk [.l none 0 0,.p a] λb=>K (.p (some (ad b 0))))
def so(a:OA)(K:VK):WK:=ch (1=1/\True) (mk [.l none 0 0,.p a] λb=>K (.p (some (ad b 0))))
def uu(K:VK):WK:=vZ (xP λb=>vZ (xP λc=>ch (1=1/\(1=1/\True)) (mk [.l none 0 0,.p none,.p none,.p b,.p c,.l none 0 0,.l none 0 0,.i 0,.i 0] λa=>tick (ql (some (ad a 0)) (xP λd=>so (some (ad a 0)) (xP λe=>st (ad a 1) (.p d) (st (ad a 2) (.p e) (K (.p (some (ad a 0)))))))))))
def mw(a:OA)(K:VK):WK:=br (!(a.isNone)) (nn a λc=>lL c λd b n=>W6 (Builtin.zeroCells ⟨[.nilFunc]⟩ b).toList d b (nn a λe=>lL e λf g h=>rY f g h 1 none (some 0) λi j k=>nn a λm=>st m (.l i j k) (K (.tuple ⟨[]⟩)))) (K (.tuple ⟨[]⟩))
def tV(e:LV)(K:VK):WK:=mk e λa=>lU (ad a 1) λb=>lU (ad a 0) λc=>ch ((0:Int)<=31) (lU (ad a 0) λd=>ch ((0:Int)<=33) (ch ((0:Int)<=29) (K (.u (db .u64 .xor (IntKind.u64.wrap ((db .u64 .xor (db .u64 .xor b (shl .u64 c 31)) (shr .u64 d 33))* 11400714819323198485)) (shr .u64 (IntKind.u64.wrap ((db .u64 .xor (db .u64 .xor b (shl .u64 c 31)) (shr .u64 d 33))* 11400714819323198485)) 29))))))
def dk.j3(K:VK)(a:Int)(h:LI)(d:Addr)(e:Int)(f:Bool)(c g:Int)(j:LM)(k:World)(l:Bool):WK:=br l (K (.tuple ⟨[.i (aa.wrap a),.b true]⟩)) ((ct h j [.p (some d),.i e,.b f,.u c,.i g,.u (db .u64 .and (IntKind.u64.wrap (a+1)) c)] [.p (some d),.i e,.b f,.u c,.i g,.u a] k))
def dk.j2(K:VK)(g:LI)(a:Addr)(e:Int)(f:Bool)(c d:Int)(h:LM)(j:Int)(k:World)(l:Nat)(m:Bool):WK:=br m ((ct g h [.p (some a),.i e,.b f,.u c,.i (aa.wrap d),.u (db .u64 .and (IntKind.u64.wrap (d+1)) c)] [.p (some a),.i e,.b f,.u c,.i j,.u d] k)) (lB (ad l 3) λn=>br (n==1) (aI (ad l 0) 2 λo=>aI a 2 λq=>rl [.u 0,.u 0] o q λr=>dk.j3 K d g a e f c j h k r) (dk.j3 K d g a e f c j h k false))
def dk.j1(K:VK)(d:Int)(a:Nat)(c:Int)(e:LI)(f:Addr)(g:Int)(h:Bool)(j:Int)(k:LM)(l:World)(m:Bool):WK:=br m (K (.tuple ⟨[.i (aa.wrap d),.b false]⟩)) (lB (ad a 3) λn=>br (n==0) (K (.tuple ⟨[.i c,.b false]⟩)) (lB (ad a 3) λo=>br (o==2) (dk.j2 K e f g h j d k c l a (decide (c<0))) (dk.j2 K e f g h j d k c l a false)))
def dk(l:OA)(q:LV)(K:VK):WK:=mk q λm=>nn l λr=>lL r λB n C=>aI (ad m 0) 2 λs=>tV s (xI .u64 λt=>(lp [.p (some (ad m 0)),.i 0,.b false,.u (IntKind.u64.wrap (aa.wrap ((n:Int) -1))),.i (-1),.u (db .u64 .and t (IntKind.u64.wrap (aa.wrap ((n:Int) -1))))] λf o=>∀g h j k a c d,f [.p (some g),.i h,.b j,.u k,.i a,.u c] d->(nn l λv=>lL v λw x D=>iX w x c 4 λy=>aI y 4 λz=>mk NJ λe=>bw 4 (ad e 0) z (lB (ad e 3) λA=>br (A==0) (dk.j1 K c e a f g h j k o d (decide (a<0))) (dk.j1 K c e a f g h j k o d false))) d))
def hO(a:OA)(c:LV)(K:VK):WK:=mk c λd=>br (a.isNone) (K (.tuple ⟨[.i 0,.b false]⟩)) (aI (ad d 0) 2 λe=>dk a e (x2 λf g=>(xI .i64 λh=>(xB λj=>br (!j) (K (.tuple ⟨[.i 0,.b false]⟩)) (nn a λk=>lL k λl m p=>iX l m h 4 λn=>lI (n.add 2) λo=>K (.tuple ⟨[.i o,.b true]⟩))) g) f))
def qd(b:OA)(K:VK):WK:=nn b λs=>lL s λt u v=>(lp [.l t u v,.i 8] λq w=>∀j g k c o,q [.l j g k,.i c] o->(nn b λx=>lI (x.add 1) λy=>br (decide (c<(aa.wrap (3* (aa.wrap (y+1)))))) ((ct q w [.l j g k,.i (aa.wrap (c* 2))] [.l j g k,.i c] o)) (Kl 32 NJ c c λz A B=>nn b λC=>st C (.l z A B) (nn b λD=>st (D.add 2) (.i 0) ((lp [.l j g k,.i (g:Int),.i 0] λp r=>∀d e h f a m,p [.l d e h,.i f,.i a] m->(br (decide (a<f)) (iX d e a 4 λE=>aI E 4 λF=>mk NJ λn=>bw 4 (ad n 0) F (lB (ad n 3) λG=>br (G==1) (aI (ad n 0) 2 λH=>dk b H (x2 λI J=>(xI .i64 λM=>(xB λT=>tick (nn b λO=>lL O λP Q V=>aI (ad n 0) 4 λR=>iX P Q M 4 λS=>bw 4 S R ((ct p r [.l d e h,.i f,.i (aa.wrap (a+1))] [.l d e h,.i f,.i a] m)))) J) I)) ((ct p r [.l d e h,.i f,.i (aa.wrap (a+1))] [.l d e h,.i f,.i a] m)))) (K (.tuple ⟨[]⟩))) m))))) o)
def dT.j2(K:VK)(a:OA)(e:Nat)(f d:Int):WK:=tick (nn a λg=>lL g λh j o=>aI (ad e 0) 2 λc=>ch (c.length=2/\(1=1/\(1=1/\True))) (iX h j f 4 λk=>ch ((c++([.i d,.int .u8 1]:LV)).length=4) (jC k (c++([.i d,.int .u8 1]:LV)) (nn a λl=>lI (l.add 1) λm=>nn a λn=>st (n.add 1) (.i (aa.wrap (m+1))) (K (.b true))))))
def dT.j1(K:VK)(d:Nat)(a:OA)(e:Int):WK:=aI (ad d 0) 2 λf=>dk a f (x2 λg h=>(xI .i64 λc=>(xB λj=>br j (nn a λk=>lL k λl m w=>iX l m c 4 λn=>st (n.add 2) (.i e) (K (.b false))) (nn a λo=>lL o λp q x=>iX p q c 4 λr=>lB (r.add 3) λs=>br (s==2) (nn a λt=>lI (t.add 2) λu=>nn a λv=>st (v.add 2) (.i (aa.wrap (u-1))) (dT.j2 K a d c e)) (dT.j2 K a d c e))) h) g)
def dT(a:OA)(e:LV)(c:Int)(K:VK):WK:=mk e λd=>br (a.isNone) (K (.b false)) (tick (nn a λf=>lI (f.add 1) λg=>nn a λh=>lI (h.add 2) λi=>nn a λj=>lL j λl k m=>br (decide ((aa.wrap (4* (aa.wrap ((aa.wrap (g+i))+1))))>(aa.wrap (3* (k:Int))))) (qd a (x0 (dT.j1 K d a c))) (dT.j1 K d a c)))
def ik(a:OA)(b:Value)(K:VK):WK:=br (!(a.isNone)) (nn a λc=>lL c λd e f=>ch ((fr b).length=1/\True) (mk ((fr b)++[]) λg=>gY 1 8 [.nilFunc] d e f (ah g) 1 λh i j=>nn a λk=>st k (.l h i j) (K (.tuple ⟨[]⟩)))) (K (.tuple ⟨[]⟩))
def cA(a b:Addr)(K:VK):WK:=tick (lP a λc=>lP a λd=>nn d λe=>lL e λf g h=>lI b λi=>rY f g h 14 none (some i) λj k m=>nn c λn=>st n (.l j k m) (K (.tuple ⟨[]⟩)))
def cA.u:WP|[.pointer (some a),.pointer (some b)],K=>cA a b K|_,_=>no
def iK(j:OA)(k:LV)(K:VK):WK:=mk [.p j] λa=>mk k λm=>lP (ad a 0) λn=>br (n.isNone) (K (.i (-1))) (lP (ad a 0) λo=>nn o λq=>lL q λC r D=>mk [.i 0] λb=>st (ad b 0) (.i (r:Int)) (tick (lP (ad a 0) λc=>lP (ad a 0) λd=>nn d λe=>lL e λf g h=>aI (ad m 0) 14 λs=>F0 14 s λt=>kp e [.l f g h] (kp (ad a 0) [.p d] (kp (ad a 0) [.p c] (gY 14 112 dR f g h (ah t) 1 λu v w=>kp (ad a 0) [.p d] (kp (ad a 0) [.p c] (nn c λx=>st x (.l u v w) (lP (ad a 0) λy=>nn y λz=>lP (z.add 1) λA=>ik A (.func (.func N.cA) ⟨[]⟩ ⟨[.p (some (ad a 0)),.p (some (ad b 0))]⟩) (x0 (lI (ad b 0) λB=>K (.i B))))))))))))
def fE(a:Int)(c d:Addr)(K:VK):WK:=tick (lP c λe=>nn e λf=>lL f λg h l=>iX g h a 2 λi=>lI i λj=>lI d λk=>K (.b (decide (j>=k))))
def fE.u:WP|[.int .i64 a,.pointer (some b),.pointer (some c)],K=>fE a b c K|_,_=>no
def u5(g:Int)(h:Value)(K:VK):WK:=(lp [.i 0,.i 0,.i g] λe f=>∀c a b d,e [.i c,.i a,.i b] d->(br (decide (a<b)) (ch ((0:Int)<=1) (xN [(N.fE,fE.u)] h [.i (aa.wrap (shr .u64 (IntKind.u64.wrap (aa.wrap (a+b))) 1))] (xB λj=>br (!j) ((ct e f [.i c,.i (aa.wrap ((aa.wrap (shr .u64 (IntKind.u64.wrap (aa.wrap (a+b))) 1))+1)),.i b] [.i c,.i a,.i b] d)) ((ct e f [.i c,.i a,.i (aa.wrap (shr .u64 (IntKind.u64.wrap (aa.wrap (a+b))) 1))] [.i c,.i a,.i b] d))))) (K (.i a))) d)
def lE(b:OA)(c:Int)(K:VK):WK:=mk [.p b] λa=>mk [.i c] λd=>lP (ad a 0) λe=>nn e λf=>lL f λj g k=>u5 (g:Int) (.func (.func N.fE) ⟨[]⟩ ⟨[.p (some (ad a 0)),.p (some (ad d 0))]⟩) (xI .i64 λh=>K (.i h))
def jd.j1(K:VK)(a:OA)(c d o:Int)(p:Bool):WK:=br p (nn a λq=>lL q λr s O=>iX r s c 2 λt=>st (t.add 1) (.i d) (K (.b false))) (nn a λu=>lL u λv w x=>ch True (ch (2=2/\True) (mk [.i 0,.i 0] λy=>gY 2 16 [.i 0,.i 0] v w x (ah y) 1 λz A B=>nn a λC=>st C (.l z A B) (tick (nn a λe=>lL e λf g h=>rY f g h 2 (some (aa.wrap (c+1))) none λD E P=>nn a λj=>lL j λk m n=>rY k m n 2 (some c) none λF G Q=>TC 2 D E F G λm1=>kp j [.l k m n] (kp e [.l f g h] (nn a λH=>lL H λI J R=>ch (1=1/\(1=1/\True)) (iX I J c 2 λM=>ch (2=2) (jC M [.i o,.i d] (K (.b true)))))))))))
def jd(a:OA)(c e:Int)(K:VK):WK:=br (a.isNone) (K (.b false)) (lE a c (xI .i64 λd=>nn a λf=>lL f λm g n=>br (decide (d<(g:Int))) (nn a λh=>lL h λi j o=>iX i j d 2 λk=>lI k λl=>jd.j1 K a d e c (l==c)) (jd.j1 K a d e c false)))
def fW(a:OA)(K:VK):WK:=br (a.isNone) (K (.i 0)) (nn a λb=>lL b λd c e=>K (.i (c:Int)))
def cV(a b:Addr)(K:VK):WK:=tick (lP a λc=>lP a λd=>nn d λe=>lL e λf g h=>lI b λi=>rY f g h 33 none (some i) λj k m=>nn c λn=>st n (.l j k m) (K (.tuple ⟨[]⟩)))
def cV.u:WP|[.pointer (some a),.pointer (some b)],K=>cV a b K|_,_=>no
def jG(j:OA)(k:LV)(K:VK):WK:=mk [.p j] λa=>mk k λm=>lP (ad a 0) λn=>br (n.isNone) (K (.i (-1))) (lP (ad a 0) λo=>nn o λq=>lL q λC r D=>mk [.i 0] λb=>st (ad b 0) (.i (r:Int)) (tick (lP (ad a 0) λc=>lP (ad a 0) λd=>nn d λe=>lL e λf g h=>aI (ad m 0) 33 λs=>F0 33 s λt=>kp e [.l f g h] (kp (ad a 0) [.p d] (kp (ad a 0) [.p c] (gY 33 264 cF f g h (ah t) 1 λu v w=>kp (ad a 0) [.p d] (kp (ad a 0) [.p c] (nn c λx=>st x (.l u v w) (lP (ad a 0) λy=>nn y λz=>lP (z.add 1) λA=>ik A (.func (.func N.cV) ⟨[]⟩ ⟨[.p (some (ad a 0)),.p (some (ad b 0))]⟩) (x0 (lI (ad b 0) λB=>K (.i B))))))))))))
def ur(k:LV)(K:VK):WK:=mk k λa=>mk yc λd=>tick (lI (ad a 31) λe=>lI (ad a 26) λf=>lI (ad a 30) λg=>aI (ad a 16) 2 λc=>ch (1=1/\(1=1/\(c.length=2/\True))) (lI (ad a 32) λh=>br (h==1) (lI (ad a 26) λj=>ch ((([.i (aa.wrap (e+f)),.i g]:LV)++(c++[])).length=4) (jC (ad d 0) (([.i (aa.wrap (e+f)),.i g]:LV)++(c++[])) (kp (ad a 26) [.i j] (kp (ad a 32) [.i h] (aI (ad d 0) 4 λl=>K (.tuple ⟨[.agg ⟨l⟩,.b (decide (j>0))]⟩)))))) (ch ((([.i (aa.wrap (e+f)),.i g]:LV)++(c++[])).length=4) (jC (ad d 0) (([.i (aa.wrap (e+f)),.i g]:LV)++(c++[])) (kp (ad a 32) [.i h] (aI (ad d 0) 4 λm=>K (.tuple ⟨[.agg ⟨m⟩,.b false]⟩)))))))
def rF(d e:LV)(K:VK):WK:=mk d λa=>mk e λc=>lI (ad a 0) λf=>lI (ad c 0) λg=>br (decide (f<g)) (K (.b true)) (lI (ad a 0) λh=>lI (ad c 0) λi=>br (h==i) (lI (ad a 1) λj=>lI (ad c 1) λk=>K (.b (decide (j<k)))) (K (.b false)))
def jc.j1(K:VK)(b:OA)(a:Int)(c:LI)(d:LM)(e:World)(f:Bool):WK:=br f (tick (nn b λg=>lL g λh j z=>nn b λk=>lL k λl m A=>ch ((2:Int)≠0) (nn b λn=>lL n λo p B=>ch ((2:Int)≠0) (iX o p (aa.wrap ((aa.wrap (a-1)).tdiv (2:Int))) 4 λq=>aI q 4 λr=>nn b λs=>lL s λt u C=>iX t u a 4 λv=>aI v 4 λw=>iX h j a 4 λx=>bw 4 x r (iX l m (aa.wrap ((aa.wrap (a-1)).tdiv (2:Int))) 4 λy=>bw 4 y w (ch ((2:Int)≠0) ((ct c d [.i (aa.wrap ((aa.wrap (a-1)).tdiv (2:Int)))] [.i a] e)))))))) (K (.tuple ⟨[]⟩))
def jc(b:OA)(n:Int)(K:VK):WK:=(lp [.i n] λd e=>∀a c,d [.i a] c->(tick (br (decide (a>0)) (nn b λf=>lL f λg h o=>iX g h a 4 λp=>aI p 4 λq=>nn b λj=>lL j λk m r=>ch ((2:Int)≠0) (iX k m (aa.wrap ((aa.wrap (a-1)).tdiv (2:Int))) 4 λs=>aI s 4 λt=>rF q t (xB λu=>kp j [.l k m r] (kp f [.l g h o] (jc.j1 K b a d e c u))))) (jc.j1 K b a d e c false))) c)
def lD(a:OA)(f:LV)(K:VK):WK:=mk f λg=>br (!(a.isNone)) (tick (nn a λb=>lL b λc d e=>aI (ad g 0) 4 λh=>F0 4 h λi=>kp b [.l c d e] (gY 4 32 yc c d e (ah i) 1 λj k m=>nn a λn=>st n (.l j k m) (nn a λo=>lL o λq p r=>jc a (aa.wrap ((p:Int) -1)) (x0 (K (.tuple ⟨[]⟩))))))) (K (.tuple ⟨[]⟩))
def eG.j2(K:VK)(a:OA)(b:Nat)(k:LI)(c:OA)(d:Int)(e:OA)(f g:Nat)(h j:Int)(m:LM)(n:World)(t:Bool):WK:=br t (K (.tuple ⟨[.p none,.i 1]⟩)) (tick (nn a λo=>lP (o.add 4) λq=>aI (ad b 16) 2 λr=>nn a λu=>lP (u.add 2) λv=>aI (ad b 0) 33 λw=>jG v w (xI .i64 λx=>kp (ad b 16) r (kp (o.add 4) [.p q] (dT q r x (xB λF=>aI (ad b 0) 33 λy=>ur y (x2 λz A=>(xA 4 λB=>(xB λC=>mk yc λs=>bw 4 (ad s 0) B (br C (tick (nn a λD=>aI (ad s 0) 4 λE=>lD (some (D.add 6)) E (x0 ((ct k m [.p c,.i d,.p a,.l e f g,.i h,.i (aa.wrap (j+1))] [.p c,.i d,.p a,.l e f g,.i h,.i j] n))))) ((ct k m [.p c,.i d,.p a,.l e f g,.i h,.i (aa.wrap (j+1))] [.p c,.i d,.p a,.l e f g,.i h,.i j] n)))) A) z)))))))
def eG.j1(K:VK)(I J:OA)(B M:Nat)(O:OA)(C P:Nat)(Q R:Int)(S:Bool):WK:=br S (K (.tuple ⟨[.p none,.i 1]⟩)) ((lp [.p none,.i 0,.p I,.l J B M,.i (B:Int),.i 0] λD T=>∀r s c t u x v j y,D [.p r,.i s,.p c,.l t u x,.i v,.i j] y->(br (decide (j<v)) (iX t u j 14 λV=>aI V 14 λW=>mk dR λk=>bw 14 (ad k 0) W (tick (nn c λX=>lP (X.add 3) λY=>aI (ad k 0) 2 λZ=>hO Y Z (x2 λv1 v2=>(xI .i64 λn6=>(xB λb2=>br b2 (K (.tuple ⟨[.p none,.i 1]⟩)) (tick (nn c λE=>lP (E.add 3) λF=>aI (ad k 0) 2 λG=>nn c λa4=>lP (a4.add 1) λp6=>aI (ad k 0) 14 λC6=>iK p6 C6 (xI .i64 λn7=>kp (ad k 0) G (kp (E.add 3) [.p F] (dT F G n7 (xB λb3=>(ct D T [.p r,.i s,.p c,.l t u x,.i v,.i (aa.wrap (j+1))] [.p r,.i s,.p c,.l t u x,.i v,.i j] y)))))))) v2) v1)))) ((lp [.p r,.i s,.p c,.l O C P,.i (C:Int),.i 0] λm w=>∀n o b e f q g d h,m [.p n,.i o,.p b,.l e f q,.i g,.i d] h->(br (decide (d<g)) (iX e f d 33 λa5=>aI a5 33 λIX=>mk cF λa=>bw 33 (ad a 0) IX (tick (nn b λa6=>lP (a6.add 4) λp9=>aI (ad a 16) 2 λQH=>hO p9 QH (x2 λv3 v4=>(xI .i64 λVU=>(xB λb4=>tick (br b4 (eG.j2 K b a m n o e f q g d w h true) (lI (ad a 32) λz=>br (decide (z<0)) (eG.j2 K b a m n o e f q g d w h true) (lI (ad a 32) λA=>br (decide (A>4)) (eG.j2 K b a m n o e f q g d w h true) (nn b λa10=>lI (ad a 30) λH=>nn b λa11=>lP (a11.add 2) λp12=>fW p12 (xI .i64 λzn=>kp (ad a 30) [.i H] (kp (ad a 32) [.i A] (kp (ad a 32) [.i z] (jd (some (a10.add 5)) H zn (xB λb8=>kp (ad a 32) [.i A] (kp (ad a 32) [.i z] (eG.j2 K b a m n o e f q g d w h (!b8))))))))))))) v4) v3)))) (nn b λa12=>st (a12.add 7) (.i Q) (nn b λa13=>st (a13.add 8) (.i R) (nn b λa14=>mw (some a14) (x0 (K (.tuple ⟨[.p b,.i 0]⟩))))))) h))) y))
def eG.j5(K:VK)(b c:OA)(d e:Nat)(f:OA)(g h:Nat)(i a:Int)(j:Bool):WK:=br j (eG.j1 K b c d e f g h i a true) (br (decide (a<0)) (eG.j1 K b c d e f g h i a true) (eG.j1 K b c d e f g h i a (decide (a>1099511627776))))
def eG.j4(K:VK)(b c:OA)(d e:Nat)(f:OA)(g h:Nat)(a i:Int)(j:Bool):WK:=br j (eG.j5 K b c d e f g h a i true) (eG.j5 K b c d e f g h a i (decide (a>1099511627776)))
def eG.j3(K:VK)(b c:OA)(d e:Nat)(f:OA)(g h:Nat)(a i:Int)(j:Bool):WK:=br j (eG.j4 K b c d e f g h a i true) (eG.j4 K b c d e f g h a i (decide (a<0)))
def eG(c:OA)(a d:Nat)(e:OA)(b f:Nat)(g h:Int)(K:VK):WK:=uu (xP λi=>br (decide ((a:Int)>32)) (eG.j3 K i c a d e b f g h true) (eG.j3 K i c a d e b f g h (decide ((b:Int)>96))))
def oI.j1(K:VK)(J:OA)(M O P Q:Int)(R:Bool):WK:=br R (K (.tuple ⟨[.p none,.i 4]⟩)) ((lp [.p none,.i 0,.p J,.i M,.i O,.i P,.l none 0 0,.i Q,.i 0] λF S=>∀c d b e f g h j k m n z,F [.p c,.i d,.p b,.i e,.i f,.i g,.l h j k,.i m,.i n] z->(br (decide (n<m)) (oo b (xA 14 λT=>F0 14 T λV=>gY 14 112 dR h j k (ah V) 1 λW X Y=>(ct F S [.p c,.i d,.p b,.i e,.i f,.i g,.l W X Y,.i m,.i (aa.wrap (n+1))] [.p c,.i d,.p b,.i e,.i f,.i g,.l h j k,.i m,.i n] z))) ((lp [.p c,.i d,.p b,.i e,.i f,.l h j k,.l none 0 0,.i g,.i 0] λG Z=>∀A B a o q r s t u v w x y C,G [.p A,.i B,.p a,.i o,.i q,.l r s t,.l u v w,.i x,.i y] C->(br (decide (y<x)) (mZ a (xA 16 λD=>mZ a (xA 16 λE=>aN a 1 (xI .i64 λH=>ch (D.length=16/\(E.length=16/\(1=1/\True))) (ch ((D++(E++([.i H]:LV))).length=33/\True) (mk ((D++(E++([.i H]:LV)))++[]) λr2=>gY 33 264 cF u v w (ah r2) 1 λGb FP FQ=>(ct G Z [.p A,.i B,.p a,.i o,.i q,.l r s t,.l Gb FP FQ,.i x,.i (aa.wrap (y+1))] [.p A,.i B,.p a,.i o,.i q,.l r s t,.l u v w,.i x,.i y] C))))))) (eG r s t u v w o q (x2 λv1 v2=>(xP λp6=>(xI .i64 λI=>br (I !=0) (K (.tuple ⟨[.p none,.i 4]⟩)) (lA a (xB λb2=>br (!b2) (K (.tuple ⟨[.p none,.i 4]⟩)) (K (.tuple ⟨[.p p6,.i I]⟩))))) v2) v1))) C))) z))
def oI(f:BA)(K:VK):WK:=pc f (xP λa=>aN a 1 (xI .i64 λg=>br (g !=1) (K (.tuple ⟨[.p none,.i 4]⟩)) (aN a 8 (xI .i64 λd=>aN a 8 (xI .i64 λe=>aN a 2 (xI .i64 λb=>aN a 2 (xI .i64 λc=>cW a (xB λh=>br h (oI.j1 K a d e c b true) (pY a (xI .i64 λj=>oI.j1 K a d e c b (j !=(aa.wrap ((aa.wrap (b* 96))+(aa.wrap (c* 217)))))))))))))))
def wJ(c:OA)(e:LV)(K:VK):WK:=mk e λf=>mk zi4 λb=>rN c (x2 λg h=>(xA 4 λj=>(xB λk=>mk zi4 λa=>bw 4 (ad a 0) j (br (!k) (tick (aI (ad a 0) 4 λd=>uu (xP λl=>kp (ad a 0) d (bw 4 (ad b 0) d (aI (ad b 0) 4 λm=>K (.tuple ⟨[.p l,.agg ⟨m⟩,.i 0]⟩)))))) (aI (ad f 0) 5 λn=>lI (ad a 0) λo=>lI (ad a 1) λq=>lI (ad a 2) λr=>qu n c o q r (x2 λs t=>(xS λu=>(xB λv=>br (!v) (tick (aI (ad a 0) 4 λw=>bw 4 (ad b 0) w (aI (ad b 0) 4 λx=>K (.tuple ⟨[.p none,.agg ⟨x⟩,.i 4]⟩)))) (oI u (x2 λy z=>(xP λA=>(xI .i64 λB=>tick (aI (ad a 0) 4 λC=>bw 4 (ad b 0) C (aI (ad b 0) 4 λD=>K (.tuple ⟨[.p A,.agg ⟨D⟩,.i B]⟩)))) z) y))) t) s)))) h) g)
def mH(f:OA)(n:Value)(K:VK):WK:=aN f 1 (xI .i64 λo=>(lp [.l none 0 0,.l none 0 0,.i o,.i 0] λm q=>∀g h j a b c d e k,m [.l g h j,.l a b c,.i d,.i e] k->(br (decide (e<d)) (cW f (xB λr=>br r (K (.l a b c)) (xN [(N.oo,oo.u),(N.aN,aN.u),(N.cW,cW.u)] n [.p f] (xA 14 λs=>F0 14 s λt=>gY 14 112 dR a b c (ah t) 1 λv w x=>(ct m q [.l g h j,.l v w x,.i d,.i (aa.wrap (e+1))] [.l g h j,.l a b c,.i d,.i e] k))))) (K (.l a b c))) k))
def lR(f:OA)(n:Value)(K:VK):WK:=aN f 1 (xI .i64 λo=>(lp [.l none 0 0,.l none 0 0,.i o,.i 0] λm q=>∀g h j a b c d e k,m [.l g h j,.l a b c,.i d,.i e] k->(br (decide (e<d)) (cW f (xB λr=>br r (K (.l a b c)) (xN [(N.aN,aN.u),(N.cW,cW.u),(N.mZ,mZ.u)] n [.p f] (xA 16 λs=>F0 16 s λt=>gY 16 128 iw a b c (ah t) 1 λv w x=>(ct m q [.l g h j,.l v w x,.i d,.i (aa.wrap (e+1))] [.l g h j,.l a b c,.i d,.i e] k))))) (K (.l a b c))) k))
def mm(c:OA)(K:VK):WK:=aN c 1 (xI .i64 λa=>br (!(c.isNone)) (br (decide (a>1)) (nn c λd=>st (d.add 1) (.b true) (K (.b (a==1)))) (K (.b (a==1)))) (K (.b (a==1))))
def pw(f:OA)(n:Value)(K:VK):WK:=aN f 1 (xI .i64 λo=>(lp [.l none 0 0,.l none 0 0,.i o,.i 0] λm q=>∀g h j a b c d e k,m [.l g h j,.l a b c,.i d,.i e] k->(br (decide (e<d)) (cW f (xB λr=>br r (K (.l a b c)) (xN [(N.aN,aN.u),(N.cS,cS.u),(N.cW,cW.u)] n [.p f] (xA 2 λs=>F0 2 s λt=>gY 2 16 [.u 0,.u 0] a b c (ah t) 1 λv w x=>(ct m q [.l g h j,.l v w x,.i d,.i (aa.wrap (e+1))] [.l g h j,.l a b c,.i d,.i e] k))))) (K (.l a b c))) k))
def tu(d:LV)(K:VK):WK:=mk d λa=>lI (ad a 0) λc=>br (c==1) (lL (ad a 1) λk e l=>br (decide ((e:Int)>=1)) (lL (ad a 1) λm f n=>K (.b (decide ((f:Int)<=8)))) (K (.b false))) (br (c==2) (lL (ad a 2) λo g p=>br (decide ((g:Int)>=1)) (lL (ad a 2) λq h r=>K (.b (decide ((h:Int)<=8)))) (K (.b false))) (br (c==3) (lI (ad a 3) λi=>br (decide (i>=0)) (lI (ad a 3) λj=>K (.b (decide (j<=1099511627776)))) (K (.b false))) (K (.b false))))
def ic.j4(K:VK)(a:Nat)(c:Bool):WK:=br c (lT (ad a 4) λd=>br d (K (.b true)) (lT (ad a 5) λe=>K (.b e))) (K (.b false))
def ic.j3(K:VK)(a:Nat)(b:Bool):WK:=br b (lI (ad a 7) λc=>ic.j4 K a (decide (c<=16))) (ic.j4 K a false)
def ic.j2(K:VK)(a:Nat)(b:Bool):WK:=br b (lI (ad a 7) λc=>ic.j3 K a (decide (c>=1))) (ic.j3 K a false)
def ic.j1(K:VK)(c:Nat)(d:Int)(e:Bool):WK:=br e (lL (ad c 4) λk f l=>br (decide ((f:Int)>=1)) (lL (ad c 4) λm g n=>K (.b (decide ((g:Int)<=16)))) (K (.b false))) (br (d==6) (aI (ad c 5) 8 λh=>mk DH λa=>bw 8 (ad a 0) h (lI (ad a 2) λi=>br (decide (i>=0)) (lI (ad a 3) λj=>ic.j2 K a (decide (j>=0))) (ic.j2 K a false))) (K (.b false)))
def ic(c:LV)(K:VK):WK:=mk c λb=>lI (ad b 0) λa=>br (a==4) (ic.j1 K b a (a==4)) (ic.j1 K b a (a==5))
def ja.j3(K:VK)(a:Nat)(c:Bool):WK:=br c (lI (ad a 12) λd=>br (decide (d>=0)) (lI (ad a 12) λe=>K (.b (decide (e<=65535)))) (K (.b false))) (K (.b false))
def ja.j2(K:VK)(a:Nat)(b:Bool):WK:=br b (lI (ad a 11) λc=>ja.j3 K a (decide (c<=65535))) (ja.j3 K a false)
def ja.j1(K:VK)(a:Nat)(b:Bool):WK:=br b (lI (ad a 11) λc=>ja.j2 K a (decide (c>=0))) (ja.j2 K a false)
def ja(b:LV)(K:VK):WK:=mk b λa=>lI (ad a 10) λc=>br (decide (c>=0)) (lI (ad a 10) λd=>ja.j1 K a (decide (d<=4294967295))) (ja.j1 K a false)
def fN.j5(K:VK)(a:Nat)(c:Bool):WK:=br c (lI (ad a 13) λd=>br (decide (d>=0)) (lI (ad a 13) λe=>K (.b (decide (e<=65535)))) (K (.b false))) (K (.b false))
def fN.j4(K:VK)(a:Nat)(b:Bool):WK:=br b (lI (ad a 12) λc=>fN.j5 K a (decide (c<=65535))) (fN.j5 K a false)
def fN.j3(K:VK)(a:Nat)(b:Bool):WK:=br b (lI (ad a 12) λc=>fN.j4 K a (decide (c>=0))) (fN.j4 K a false)
def fN.j2(K:VK)(a:Nat)(b:Bool):WK:=br b (lI (ad a 11) λc=>fN.j3 K a (decide (c<=4294967295))) (fN.j3 K a false)
def fN.j1(K:VK)(a:Nat)(b:Bool):WK:=br b (lI (ad a 11) λc=>fN.j2 K a (decide (c>=0))) (fN.j2 K a false)
def fN(b:LV)(K:VK):WK:=mk b λa=>lI (ad a 10) λc=>br (decide (c>=0)) (lI (ad a 10) λd=>fN.j1 K a (decide (d<=4294967295))) (fN.j1 K a false)
def pa.j1(K:VK)(k:Nat)(z:Bool):WK:=br z (K (.b false)) (lI (ad k 0) λs=>br (s==1) (lL (ad k 1) λA t B=>(lp [.b false,.l A t B,.i (t:Int),.i 0] λu C=>∀m d e n f a o,u [.b m,.l d e n,.i f,.i a] o->(br (decide (a<f)) (iX d e a 14 λD=>aI D 14 λE=>mk dR λv=>bw 14 (ad v 0) E (aI (ad v 0) 14 λF=>ja F (xB λG=>br (!G) (K (.b false)) ((ct u C [.b m,.l d e n,.i f,.i (aa.wrap (a+1))] [.b m,.l d e n,.i f,.i a] o))))) (K (.b true))) o)) (br (s==2) (lL (ad k 2) λH w I=>(lp [.b false,.l H w I,.i (w:Int),.i 0] λx J=>∀p g h q j c r,x [.b p,.l g h q,.i j,.i c] r->(br (decide (c<j)) (iX g h c 16 λM=>aI M 16 λO=>mk iw λy=>bw 16 (ad y 0) O (aI (ad y 0) 16 λP=>fN P (xB λQ=>br (!Q) (K (.b false)) ((ct x J [.b p,.l g h q,.i j,.i (aa.wrap (c+1))] [.b p,.l g h q,.i j,.i c] r))))) (K (.b true))) r)) (K (.b true))))
def pa(b:LV)(K:VK):WK:=mk b λa=>aI (ad a 0) 13 λc=>tu c (xB λd=>br (!d) (aI (ad a 0) 13 λe=>ic e (xB λf=>pa.j1 K a (!f))) (pa.j1 K a false))
def ku.j1(K:VK)(c:OA)(a b:Nat):WK:=lA c (xB λd=>br (!d) (ch True (ch (13=13) (jC (ad a 0) nA (aI (ad a 0) 13 λe=>K (.tuple ⟨[.agg ⟨e⟩,.i 4]⟩))))) (aI (ad b 0) 13 λf=>pa f (xB λg=>br (!g) (ch True (ch (13=13) (jC (ad a 0) nA (aI (ad a 0) 13 λh=>K (.tuple ⟨[.agg ⟨h⟩,.i 4]⟩))))) (aI (ad b 0) 13 λj=>bw 13 (ad a 0) j (aI (ad a 0) 13 λk=>K (.tuple ⟨[.agg ⟨k⟩,.i 0]⟩))))))
def ku(o:BA)(K:VK):WK:=mk nA λd=>pc o (xP λa=>aN a 1 (xI .i64 λp=>ch (1=1/\True) (mk nA λc=>ch (13=13) (jC (ad c 0) [.i p,.l none 0 0,.l none 0 0,.i 0,.l none 0 0,.u 0,.u 0,.i 0,.i 0,.b false,.b false,.b false,.i 0] (lI (ad c 0) λe=>br (e==1) (mH a (.func (.func N.oo) ⟨[]⟩ ⟨[]⟩) (xL λq r s=>st (ad c 1) (.l q r s) (ku.j1 K a d c))) (br (e==2) (lR a (.func (.func N.mZ) ⟨[]⟩ ⟨[]⟩) (xL λt v w=>st (ad c 2) (.l t v w) (ku.j1 K a d c))) (br (e==3) (aN a 8 (xI .i64 λx=>st (ad c 3) (.i x) (ku.j1 K a d c))) (br (e==6) (cS a (xA 2 λf=>aN a 8 (xI .i64 λg=>aN a 8 (xI .i64 λh=>mm a (xB λj=>mm a (xB λk=>mm a (xB λm=>aN a 1 (xI .i64 λn=>ch (f.length=2/\(1=1/\(1=1/\(1=1/\(1=1/\(1=1/\(1=1/\True))))))) (ch ((f++([.i g,.i h,.b j,.b k,.b m,.i n]:LV)).length=8) (jC (ad c 5) (f++([.i g,.i h,.b j,.b k,.b m,.i n]:LV)) (ku.j1 K a d c))))))))))) (pw a (.func (.func N.cS) ⟨[]⟩ ⟨[]⟩) (xL λy z A=>st (ad c 4) (.l y z A) (ku.j1 K a d c)))))))))))
def qC(c:LV)(K:VK):WK:=mk c λa=>lI (ad a 0) λd=>br (d==1) (K (.b true)) (lI (ad a 0) λe=>br (e==2) (K (.b true)) (lI (ad a 0) λf=>K (.b (f==3))))
def gK(a:LV)(K:VK):WK:=mk a λc=>lI (ad c 12) λd=>K (.b ((db .i64 .and d 1)!=0))
def gK.u:WP|[.agg ⟨a⟩],K=>gK a K|_,_=>no
def ma(o:OA)(f p:Nat)(q:Value)(K:VK):WK:=(lp [.i 0,.b false,.l o f p,.i (f:Int),.i 0] λm r=>∀g h c d j e a k,m [.i g,.b h,.l c d j,.i e,.i a] k->(br (decide (a<e)) (iX c d a 14 λs=>aI s 14 λt=>mk dR λn=>bw 14 (ad n 0) t (aI (ad n 0) 14 λv=>xN [(N.gK,gK.u)] q [.agg ⟨v⟩] (xB λw=>br (!w) (K (.tuple ⟨[.i (aa.wrap (a+1)),.b true]⟩)) ((ct m r [.i g,.b h,.l c d j,.i e,.i (aa.wrap (a+1))] [.i g,.b h,.l c d j,.i e,.i a] k))))) (K (.tuple ⟨[.i (f:Int),.b false]⟩))) k)
def jo(e:OA)(c m:Nat)(g h:Int)(K:VK):WK:=(lp [.i (c:Int),.i 0] λf j=>∀b a d,f [.i b,.i a] d->(br (decide (a<b)) (iX e c a 1 λk=>st k (.i 1) ((ct f j [.i b,.i (aa.wrap (a+1))] [.i b,.i a] d))) (iX e c g 1 λl=>st l (.i h) (K (.tuple ⟨[]⟩)))) d)
def jo.u:WP|[.slice a b c,.int .i64 d,.int .i64 e],K=>jo a b c d e K|_,_=>no
def fP(a:OA)(K:VK):WK:=br (a.isNone) (K (.i 0)) (nn a λb=>lL b λd c e=>K (.i (c:Int)))
def dL.j1(K:VK)(c a:Nat)(d:OA)(e:Int)(f:Bool):WK:=br f (aI (ad c 0) 14 λg=>bw 14 (ad a 0) g (aI (ad a 0) 14 λh=>K (.tuple ⟨[.agg ⟨h⟩,.b false]⟩))) (nn d λi=>lL i λj k o=>iX j k e 14 λl=>aI l 14 λm=>bw 14 (ad a 0) m (aI (ad a 0) 14 λn=>K (.tuple ⟨[.agg ⟨n⟩,.b true]⟩)))
def dL(b:OA)(a:Int)(K:VK):WK:=mk dR λc=>mk dR λd=>br (decide (a<0)) (dL.j1 K d c b a true) (fP b (xI .i64 λe=>dL.j1 K d c b a (decide (a>=e))))
def dO(c:OA)(d:LV)(K:VK):WK:=mk d λe=>mk dR λa=>br (c.isNone) (ch True (ch (14=14) (jC (ad a 0) dR (aI (ad a 0) 14 λf=>K (.tuple ⟨[.agg ⟨f⟩,.b false]⟩))))) (tick (nn c λg=>lP (g.add 3) λh=>aI (ad e 0) 2 λi=>hO h i (x2 λj k=>(xI .i64 λl=>(xB λm=>br (!m) (ch True (ch (14=14) (jC (ad a 0) dR (aI (ad a 0) 14 λn=>K (.tuple ⟨[.agg ⟨n⟩,.b false]⟩))))) (nn c λo=>lP (o.add 1) λp=>dL p l (x2 λq r=>(xA 14 λs=>(xB λt=>bw 14 (ad a 0) s (aI (ad a 0) 14 λu=>K (.tuple ⟨[.agg ⟨u⟩,.b t]⟩))) r) q))) k) j)))
def iA(a:LV)(K:VK):WK:=mk a λc=>aI (ad c 0) 2 λd=>ch True (rl [.u 0,.u 0] d [.u 0,.u 0] λe=>K (.b e))
def lH.j2(K:VK)(a:Nat)(c:Bool):WK:=br c (aI (ad a 8) 2 λd=>iA d (xB λe=>br e (lI (ad a 13) λf=>K (.b (f==0))) (K (.b false)))) (K (.b false))
def lH.j1(K:VK)(a:Nat)(b:Bool):WK:=br b (aI (ad a 6) 2 λc=>iA c (xB λd=>lH.j2 K a d)) (lH.j2 K a false)
def lH(b:LV)(K:VK):WK:=mk b λa=>aI (ad a 2) 2 λc=>iA c (xB λd=>br d (aI (ad a 4) 2 λe=>iA e (xB λf=>lH.j1 K a f)) (lH.j1 K a false))
def pQ.j1(K:VK)(a:Nat)(b:Bool):WK:=br b (K (.i 8)) (lI (ad a 11) λc=>br (decide (c<1)) (K (.i 9)) (lI (ad a 11) λd=>br (decide (d>65535)) (K (.i 9)) (K (.i 0))))
def pQ(b:LV)(K:VK):WK:=mk b λa=>lI (ad a 12) λc=>br ((db .i64 .andNot c 7)!=0) (K (.i 3)) (aI (ad a 0) 2 λd=>iA d (xB λe=>br e (K (.i 4)) (aI (ad a 0) 2 λf=>aI (ad N.tr 0) 2 λg=>rl [.u 0,.u 0] f g λh=>br h (K (.i 5)) (lI (ad a 12) λj=>br ((db .i64 .and j 6)==6) (K (.i 6)) (aI (ad a 0) 14 λk=>lH k (xB λl=>br (!l) (K (.i 7)) (lI (ad a 10) λm=>br (decide (m<1)) (pQ.j1 K a true) (lI (ad a 10) λn=>pQ.j1 K a (decide (n>4294967295))))))))))
def pR.j1(K:VK)(a b:Nat)(c:Bool):WK:=br c (lI (ad a 12) λd=>lI (ad b 12) λe=>br ((db .i64 .and d 6)==(db .i64 .and e 6)) (K (.i 10)) (K (.i 11))) (K (.i 11))
def pR(c d:LV)(K:VK):WK:=mk c λa=>mk d λb=>lI (ad a 10) λe=>lI (ad b 10) λf=>br (e==f) (lI (ad a 11) λg=>lI (ad b 11) λh=>pR.j1 K a b (g==h)) (pR.j1 K a b false)
def ef(b:Addr)(K:VK):WK:=lP b λa=>nn a λc=>lI (c.add 8) λd=>nn a λe=>st (e.add 8) (.i (aa.wrap (d-1))) (K (.tuple ⟨[]⟩))
def ef.u:WP|[.pointer (some a)],K=>ef a K|_,_=>no
def og(c:OA)(K:VK):WK:=mk [.p c] λa=>lP (ad a 0) λb=>nn b λd=>lI (d.add 8) λe=>nn b λf=>st (f.add 8) (.i (aa.wrap (e+1))) (lP (ad a 0) λg=>nn g λh=>ik (some h) (.func (.func N.ef) ⟨[]⟩ ⟨[.p (some (ad a 0))]⟩) (x0 (lP (ad a 0) λj=>nn j λk=>lI (k.add 8) λl=>K (.i l))))
def nV(a:OA)(c:LV)(K:VK):WK:=mk c λd=>br (a.isNone) (K (.b false)) (aI (ad d 0) 2 λe=>dk a e (x2 λf g=>(xI .i64 λh=>(xB λj=>br (!j) (K (.b false)) (nn a λk=>lL k λl m v=>ch (1=1/\True) (iX l m h 4 λn=>ch (4=4) (jC n [.u 0,.u 0,.i 0,.int .u8 2] (nn a λo=>lI (o.add 1) λp=>nn a λq=>st (q.add 1) (.i (aa.wrap (p-1))) (nn a λr=>lI (r.add 2) λs=>nn a λt=>st (t.add 2) (.i (aa.wrap (s+1))) (K (.b true)))))))) g) f))
def eu(a c:Addr)(K:VK):WK:=tick (lP a λb=>nn b λd=>lP (d.add 3) λe=>aI c 2 λf=>nV e f (xB λg=>kp a [.p b] (K (.tuple ⟨[]⟩))))
def eu.u:WP|[.pointer (some a),.pointer (some b)],K=>eu a b K|_,_=>no
def mq(k:OA)(l:LV)(K:VK):WK:=mk [.p k] λa=>mk l λb=>lP (ad a 0) λm=>br (m.isNone) (K (.i 2)) (lP (ad a 0) λn=>nn n λo=>lP (o.add 1) λq=>fP q (xI .i64 λr=>br (decide (r>=32)) (K (.i 6)) (tick (lP (ad a 0) λe=>nn e λs=>lP (s.add 3) λt=>aI (ad b 0) 2 λu=>hO t u (x2 λv w=>(xI .i64 λI=>(xB λx=>kp (ad a 0) [.p e] (br x (K (.i 1)) (lP (ad a 0) λy=>og y (xI .i64 λz=>st (ad b 13) (.i z) (tick (lP (ad a 0) λc=>nn c λf=>lP (f.add 3) λg=>aI (ad b 0) 2 λh=>lP (ad a 0) λd=>nn d λA=>lP (A.add 1) λB=>fP B (xI .i64 λC=>kp (ad a 0) [.p d] (kp (ad b 0) h (kp (f.add 3) [.p g] (kp (ad a 0) [.p c] (dT g h C (xB λJ=>kp (ad a 0) [.p d] (kp (ad a 0) [.p c] (lP (ad a 0) λD=>nn D λE=>ik (some E) (.func (.func N.eu) ⟨[]⟩ ⟨[.p (some (ad a 0)),.p (some (ad b 0))]⟩) (x0 (tick (lP (ad a 0) λj=>nn j λF=>lP (F.add 1) λG=>aI (ad b 0) 14 λH=>iK G H (xI .i64 λM=>kp (ad a 0) [.p j] (K (.i 0)))))))))))))))))))) w) v)))))
def lG(b:OA)(e:LV)(K:VK):WK:=mk e λa=>aI (ad a 0) 14 λf=>pQ f (xI .i64 λc=>br (c !=0) (K (.i c)) (aI (ad a 0) 2 λg=>dO b g (x2 λh j=>(xA 14 λk=>(xB λl=>mk dR λd=>bw 14 (ad d 0) k (br l (aI (ad a 0) 14 λm=>aI (ad d 0) 14 λn=>pR m n (xI .i64 λo=>K (.i o))) (lI (ad a 12) λp=>st (ad a 12) (.i (db .i64 .andNot p 1)) (aI (ad a 0) 14 λq=>mq b q (xI .i64 λr=>br (r !=0) (K (.i 35)) (K (.i 0))))))) j) h)))
def lG.u:WP|[.pointer a,.agg ⟨b⟩],K=>lG a b K|_,_=>no
def sJ(a:OA)(K:VK):WK:=br (a.isNone) (K (.i 0)) (nn a λb=>lL b λd c e=>K (.i (c:Int)))
def fB(a:OA)(K:VK):WK:=br (a.isNone) (K (.i 0)) (nn a λb=>sJ (some b) (xI .i64 λc=>K (.i c)))
def fB.u:WP|[.pointer a],K=>fB a K|_,_=>no
def eg(a b:Addr)(K:VK):WK:=lP b λc=>lI a λd=>nn c λe=>st (e.add 7) (.i d) (K (.tuple ⟨[]⟩))
def eg.u:WP|[.pointer (some a),.pointer (some b)],K=>eg a b K|_,_=>no
def eX(a c:Addr)(K:VK):WK:=tick (lP a λb=>nn b λd=>aI c 4 λe=>lD (some (d.add 6)) e (x0 (kp a [.p b] (K (.tuple ⟨[]⟩)))))
def eX.u:WP|[.pointer (some a),.pointer (some b)],K=>eX a b K|_,_=>no
def ji.j1(K:VK)(a:OA)(c:Int)(n:Bool):WK:=br n (K (.b false)) (tick (nn a λd=>lL d λe f g=>rY e f g 2 none (some c) λo p q=>nn a λh=>lL h λj k m=>rY j k m 2 (some (aa.wrap (c+1))) none λr s x=>gY 2 16 [.i 0,.i 0] o p q r s λt u v=>kp h [.l j k m] (kp d [.l e f g] (nn a λw=>st w (.l t u v) (K (.b true))))))
def ji(a:OA)(d:Int)(K:VK):WK:=br (a.isNone) (K (.b false)) (lE a d (xI .i64 λc=>nn a λe=>lL e λl f m=>br (c==(f:Int)) (ji.j1 K a c true) (nn a λg=>lL g λh i n=>iX h i c 2 λj=>lI j λk=>ji.j1 K a c (k !=d))))
def eE(a d e:Addr)(K:VK):WK:=tick (lP a λb=>nn b λf=>lP (f.add 4) λg=>aI d 2 λh=>nV g h (xB λk=>kp a [.p b] (tick (lP a λc=>nn c λi=>lI (e.add 30) λj=>ji (some (i.add 5)) j (xB λl=>kp a [.p c] (K (.tuple ⟨[]⟩)))))))
def eE.u:WP|[.pointer (some a),.pointer (some b),.pointer (some c)],K=>eE a b c K|_,_=>no
def fA.j1(K:VK)(a:OA)(d:LI)(e:LM)(f:Int)(g:World)(c b:Int):WK:=br (b==c) (K (.tuple ⟨[]⟩)) (tick (nn a λh=>lL h λj k A=>nn a λl=>lL l λm n B=>nn a λo=>lL o λp q C=>iX p q b 4 λr=>aI r 4 λs=>nn a λt=>lL t λu v D=>iX u v c 4 λw=>aI w 4 λx=>iX j k c 4 λy=>bw 4 y s (iX m n b 4 λz=>bw 4 z x ((ct d e [.i b] [.i f] g)))))
def fA.j2(K:VK)(d:OA)(a b:Int)(e:LI)(c:Int)(f:LM)(g:World)(p:LI)(q:LM)(r:Int)(s:World)(t:Bool):WK:=br t (tick (nn d λh=>lL h λj k u=>iX j k a 4 λv=>aI v 4 λw=>nn d λm=>lL m λn o x=>iX n o b 4 λy=>aI y 4 λz=>rF w z (xB λA=>kp m [.l n o x] (kp h [.l j k u] (br A ((ct e f [.i c,.i a,.i (aa.wrap (a+1))] [.i c,.i b,.i a] g)) ((ct e f [.i c,.i b,.i (aa.wrap (a+1))] [.i c,.i b,.i a] g))))))) (fA.j1 K d p q r s c b)
def fA(f:OA)(m:Int)(K:VK):WK:=(lp [.i m] λg k=>∀a c,g [.i a] c->((lp [.i a,.i a,.i (aa.wrap ((aa.wrap (2* a))+1))] λh l=>∀d j b e,h [.i d,.i j,.i b] e->(br (decide (b<=(aa.wrap ((aa.wrap (2* d))+2)))) (nn f λn=>lL n λp o q=>fA.j2 K f b j h d l e g k a c (decide (b<(o:Int)))) (fA.j2 K f b j h d l e g k a c false)) e)) c)
def qc(a:OA)(b:Int)(K:VK):WK:=mk yc λd=>tick (nn a λg=>lL g λh i o=>iX h i b 4 λj=>aI j 4 λk=>nn a λe=>lL e λm c n=>mk yc λf=>kp e [.l m c n] (kp j k (kp g [.l h i o] (bw 4 (ad f 0) k (kp e [.l m c n] (tick (nn a λp=>lL p λq r M=>nn a λs=>lL s λt u O=>iX t u (aa.wrap ((c:Int) -1)) 4 λv=>aI v 4 λw=>iX q r b 4 λx=>bw 4 x w (nn a λy=>lL y λz A B=>rY z A B 4 none (some (aa.wrap ((c:Int) -1))) λC D E=>nn a λF=>st F (.l C D E) (br (decide (b<(aa.wrap ((c:Int) -1)))) (fA a b (x0 (jc a b (x0 (aI (ad f 0) 4 λG=>bw 4 (ad d 0) G (aI (ad d 0) 4 λH=>K (.agg ⟨H⟩))))))) (aI (ad f 0) 4 λI=>bw 4 (ad d 0) I (aI (ad d 0) 4 λJ=>K (.agg ⟨J⟩))))))))))))
def mn(f:OA)(o:Int)(K:VK):WK:=br (f.isNone) (K (.b false)) (nn f λp=>lL p λq k r=>(lp [.b false,.l q k r,.i (k:Int),.i 0] λm s=>∀g c d h e a j,m [.b g,.l c d h,.i e,.i a] j->(br (decide (a<e)) (iX c d a 4 λt=>aI t 4 λu=>mk yc λn=>bw 4 (ad n 0) u (lI (ad n 1) λv=>br (v==o) (qc f a (xA 4 λw=>K (.b true))) ((ct m s [.b g,.l c d h,.i e,.i (aa.wrap (a+1))] [.b g,.l c d h,.i e,.i a] j)))) (K (.b false))) j))
def eB(a c:Addr)(K:VK):WK:=tick (lP a λb=>nn b λd=>lI (c.add 1) λe=>mn (some (d.add 6)) e (xB λf=>kp a [.p b] (K (.tuple ⟨[]⟩))))
def eB.u:WP|[.pointer (some a),.pointer (some b)],K=>eB a b K|_,_=>no
def cz(a b c:Addr)(K:VK):WK:=tick (lP b λd=>nn d λe=>lL e λf g k=>lI c λh=>aI a 14 λi=>iX f g h 14 λj=>bw 14 j i (K (.tuple ⟨[]⟩)))
def cz.u:WP|[.pointer (some a),.pointer (some b),.pointer (some c)],K=>cz a b c K|_,_=>no
def cU(a b c:Addr)(K:VK):WK:=tick (lP b λd=>nn d λe=>lL e λf g k=>lI c λh=>aI a 33 λi=>iX f g h 33 λj=>bw 33 j i (K (.tuple ⟨[]⟩)))
def cU.u:WP|[.pointer (some a),.pointer (some b),.pointer (some c)],K=>cU a b c K|_,_=>no
def sK(a:OA)(e:Int)(K:VK):WK:=br (a.isNone) (K (.tuple ⟨[]⟩)) ((lp [] λc f=>∀b,c [] b->(nn a λg=>lL g λy h z=>br (decide ((h:Int)>(max2 e 0))) (nn a λi=>lL i λA d B=>nn a λj=>lL j λk m C=>iX k m (aa.wrap ((d:Int) -1)) 1 λn=>ld n λo=>xN [(N.eX,eX.u),(N.eE,eE.u),(N.eB,eB.u),(N.eu,eu.u),(N.eg,eg.u),(N.ef,ef.u),(N.cA,cA.u),(N.cz,cz.u),(N.cV,cV.u),(N.cU,cU.u)] o [] (x0 (nn a λp=>lL p λq r s=>rY q r s 1 none (some (aa.wrap ((d:Int) -1))) λt v w=>nn a λx=>st x (.l t v w) ((ct c f [] [] b))))) (K (.tuple ⟨[]⟩))) b))
def fC(a:OA)(b:Int)(K:VK):WK:=br (!(a.isNone)) (nn a λc=>sK (some c) b (x0 (K (.tuple ⟨[]⟩)))) (K (.tuple ⟨[]⟩))
def fC.u:WP|[.pointer a,.int .i64 b],K=>fC a b K|_,_=>no
def mJ(f o:OA)(j q:Nat)(r:OA)(s t:Nat)(v:Value)(K:VK):WK:=fB f (xI .i64 λw=>(lp [.i w,.l o j q,.i (j:Int),.i 0] λk x=>∀b c d g e a h,k [.i b,.l c d g,.i e,.i a] h->(br (decide (a<e)) (iX c d a 14 λy=>aI y 14 λz=>mk dR λm=>bw 14 (ad m 0) z (aI (ad m 0) 14 λA=>xN [(N.fC,fC.u),(N.fB,fB.u),(N.lG,lG.u),(N.jo,jo.u)] v [.p f,.agg ⟨A⟩] (xI .i64 λn=>br (n !=0) (fC f b (x0 (jo r s t a n (x0 (K (.tuple ⟨[]⟩)))))) ((ct k x [.i b,.l c d g,.i e,.i (aa.wrap (a+1))] [.i b,.l c d g,.i e,.i a] h))))) (K (.tuple ⟨[]⟩))) h))
def pn(t n:OA)(e o:Nat)(u v:Value)(K:VK):WK:=Kl 8 [.i 0] (e:Int) (e:Int) λw x y=>(lp [.l none 0 0,.l w x y,.i 0] λm p=>∀f g h b c d a k,m [.l f g h,.l b c d,.i a] k->(br (decide (a<(e:Int))) (rY n e o 14 (some a) none λz A B=>ma z A B (u) (x2 λC D=>(xI .i64 λj=>(xB λE=>rY b c d 1 (some a) (some (aa.wrap (a+j))) λq r s=>br (!E) (jo q r s (aa.wrap (j-1)) 2 (x0 ((ct m p [.l f g h,.l b c d,.i (aa.wrap (a+j))] [.l f g h,.l b c d,.i a] k)))) (rY n e o 14 (some a) (some (aa.wrap (a+j))) λF G H=>mJ t F G H q r s (v) (x0 ((ct m p [.l f g h,.l b c d,.i (aa.wrap (a+j))] [.l f g h,.l b c d,.i a] k))))) D) C)) (K (.l b c d))) k)
def rP(a b:OA)(c d:Nat)(K:VK):WK:=pn a b c d (.func (.func N.gK) ⟨[]⟩ ⟨[]⟩) (.func (.func N.lG) ⟨[]⟩ ⟨[]⟩) (xL λe f g=>K (.l e f g))
def fZ(a:LV)(K:VK):WK:=mk a λc=>lI (ad c 13) λd=>K (.b ((db .i64 .and d 1)!=0))
def fZ.u:WP|[.agg ⟨a⟩],K=>fZ a K|_,_=>no
def k9(o:OA)(f p:Nat)(q:Value)(K:VK):WK:=(lp [.i 0,.b false,.l o f p,.i (f:Int),.i 0] λm r=>∀g h c d j e a k,m [.i g,.b h,.l c d j,.i e,.i a] k->(br (decide (a<e)) (iX c d a 16 λs=>aI s 16 λt=>mk iw λn=>bw 16 (ad n 0) t (aI (ad n 0) 16 λv=>xN [(N.fZ,fZ.u)] q [.agg ⟨v⟩] (xB λw=>br (!w) (K (.tuple ⟨[.i (aa.wrap (a+1)),.b true]⟩)) ((ct m r [.i g,.b h,.l c d j,.i e,.i (aa.wrap (a+1))] [.i g,.b h,.l c d j,.i e,.i a] k))))) (K (.tuple ⟨[.i (f:Int),.b false]⟩))) k)
def sm(a:LV)(K:VK):WK:=mk a λc=>lI (ad c 13) λd=>K (.b ((db .i64 .and d 12)!=0))
def lQ(a:LV)(K:VK):WK:=mk a λc=>lI (ad c 13) λd=>K (.b ((db .i64 .and d 2)!=0))
def kC.j1(K:VK)(a:Addr)(c:Bool):WK:=br c (lI (a.add 13) λd=>br ((db .i64 .and d 192)==0) (K (.b true)) (aI a 16 λe=>lQ e (xB λf=>K (.b f)))) (K (.b false))
def kC(k:LV)(K:VK):WK:=mk k λl=>ch (1=1/\(1=1/\(1=1/\True))) ((lp [.p (some (ad l 0)),.b false,.i 0,.agg ⟨[.i 2,.i 4,.i 8]⟩,.i 0] λh j=>∀a f d e c g,h [.p (some a),.b f,.i d,.agg ⟨e⟩,.i c] g->(br (decide (c<3)) (Cy e 3 c (xI .i64 λm=>lI (a.add 13) λn=>br ((db .i64 .and n m)!=0) ((ct h j [.p (some a),.b f,.i (aa.wrap (d+1)),.agg ⟨e⟩,.i (aa.wrap (c+1))] [.p (some a),.b f,.i d,.agg ⟨e⟩,.i c] g)) ((ct h j [.p (some a),.b f,.i d,.agg ⟨e⟩,.i (aa.wrap (c+1))] [.p (some a),.b f,.i d,.agg ⟨e⟩,.i c] g)))) (br (decide (d<=1)) (aI a 16 λo=>sm o (xB λq=>br q (lI (a.add 13) λr=>kC.j1 K a (!((db .i64 .and r 240)!=0))) (kC.j1 K a true))) (kC.j1 K a false))) g))
def ox.j1(K:VK)(a:Nat)(b:Bool):WK:=br b (K (.i 8)) (lI (ad a 12) λc=>br (decide (c<0)) (K (.i 9)) (lI (ad a 12) λd=>br (decide (d>65535)) (K (.i 9)) (K (.i 0))))
def ox(b:LV)(K:VK):WK:=mk b λa=>aI (ad a 8) 2 λc=>iA c (xB λd=>br d (K (.i 16)) (lI (ad a 11) λe=>br (decide (e<0)) (ox.j1 K a true) (lI (ad a 11) λf=>ox.j1 K a (decide (f>4294967295)))))
def qq(a:LV)(K:VK):WK:=mk a λc=>lI (ad c 13) λd=>K (.b ((db .i64 .and d 48)!=0))
def jY.j2(K:VK)(a:Nat)(b:Bool):WK:=br b (K (.i 8)) (lI (ad a 12) λc=>br (decide (c<1)) (K (.i 9)) (lI (ad a 12) λd=>br (decide (d>65535)) (K (.i 9)) (K (.i 0))))
def jY.j1(K:VK)(a:Nat)(b:Bool):WK:=br b (K (.i 18)) (lI (ad a 11) λc=>br (decide (c<1)) (jY.j2 K a true) (lI (ad a 11) λd=>jY.j2 K a (decide (d>4294967295))))
def jY(b:LV)(K:VK):WK:=mk b λa=>aI (ad a 2) 2 λc=>iA c (xB λd=>br d (K (.i 12)) (aI (ad a 4) 2 λe=>iA e (xB λf=>br f (K (.i 13)) (aI (ad a 2) 2 λg=>aI (ad a 4) 2 λh=>rl [.u 0,.u 0] g h λj=>br j (K (.i 14)) (aI (ad a 8) 2 λk=>iA k (xB λl=>br (!l) (K (.i 15)) (aI (ad a 6) 2 λm=>iA m (xB λn=>br n (aI (ad a 0) 16 λo=>qq o (xB λp=>jY.j1 K a (!p))) (jY.j1 K a false)))))))))
def fq.j3(K:VK)(a:Nat)(b:Bool):WK:=br b (K (.i 17)) (aI (ad a 0) 16 λc=>sm c (xB λd=>br d (aI (ad a 0) 16 λe=>ox e (xI .i64 λf=>K (.i f))) (aI (ad a 0) 16 λg=>jY g (xI .i64 λh=>K (.i h)))))
def fq.j4(K:VK)(a:Nat)(b:Bool):WK:=br b (fq.j3 K a true) (lI (ad a 10) λc=>br (c !=0) (aI (ad a 0) 16 λd=>lQ d (xB λe=>fq.j3 K a (!e))) (fq.j3 K a false))
def fq.j2(K:VK)(a:Nat)(b:Bool):WK:=br b (K (.i 7)) (lI (ad a 10) λc=>br (decide (c<0)) (fq.j4 K a true) (lI (ad a 10) λd=>fq.j4 K a (decide (d>1073741824))))
def fq.j1(K:VK)(a:Nat)(b:Bool):WK:=br b (K (.i 3)) (aI (ad a 0) 2 λc=>iA c (xB λd=>br d (K (.i 4)) (aI (ad a 0) 2 λe=>aI (ad N.tr 0) 2 λf=>rl [.u 0,.u 0] e f λg=>br g (K (.i 5)) (aI (ad a 0) 16 λh=>kC h (xB λj=>br (!j) (K (.i 6)) (lI (ad a 14) λk=>br (k !=0) (fq.j2 K a true) (lI (ad a 15) λl=>fq.j2 K a (l !=0))))))))
def fq(b:LV)(K:VK):WK:=mk b λa=>lI (ad a 13) λc=>br (decide (c<0)) (fq.j1 K a true) (lI (ad a 13) λd=>fq.j1 K a (decide (d>255)))
def dJ.j1(K:VK)(c a:Nat)(d:OA)(e:Int)(f:Bool):WK:=br f (aI (ad c 0) 33 λg=>bw 33 (ad a 0) g (aI (ad a 0) 33 λh=>K (.tuple ⟨[.agg ⟨h⟩,.b false]⟩))) (nn d λi=>lL i λj k o=>iX j k e 33 λl=>aI l 33 λm=>bw 33 (ad a 0) m (aI (ad a 0) 33 λn=>K (.tuple ⟨[.agg ⟨n⟩,.b true]⟩)))
def dJ(b:OA)(a:Int)(K:VK):WK:=mk cF λc=>mk cF λd=>br (decide (a<0)) (dJ.j1 K d c b a true) (fW b (xI .i64 λe=>dJ.j1 K d c b a (decide (a>=e))))
def il(c:OA)(d:LV)(K:VK):WK:=mk d λe=>mk cF λa=>br (c.isNone) (ch True (ch (33=33) (jC (ad a 0) cF (aI (ad a 0) 33 λf=>K (.tuple ⟨[.agg ⟨f⟩,.b false]⟩))))) (tick (nn c λg=>lP (g.add 4) λh=>aI (ad e 0) 2 λi=>hO h i (x2 λj k=>(xI .i64 λl=>(xB λm=>br (!m) (ch True (ch (33=33) (jC (ad a 0) cF (aI (ad a 0) 33 λn=>K (.tuple ⟨[.agg ⟨n⟩,.b false]⟩))))) (nn c λo=>lP (o.add 2) λp=>dJ p l (x2 λq r=>(xA 33 λs=>(xB λt=>bw 33 (ad a 0) s (aI (ad a 0) 33 λu=>K (.tuple ⟨[.agg ⟨u⟩,.b t]⟩))) r) q))) k) j)))
def ke(e:OA)(f:Int)(g:LV)(K:VK):WK:=mk [.p e] λa=>mk [.i f] λc=>mk g λh=>lP (ad a 0) λj=>lI (ad c 0) λk=>dL j k (x2 λl m=>(xA 14 λn=>(xB λo=>mk dR λd=>bw 14 (ad d 0) n (br (!o) (K (.b false)) (tick (lP (ad a 0) λq=>nn q λr=>lL r λs t A=>lI (ad c 0) λu=>aI (ad h 0) 14 λv=>iX s t u 14 λw=>bw 14 w v (lP (ad a 0) λx=>nn x λy=>lP (y.add 1) λz=>ik z (.func (.func N.cz) ⟨[]⟩ ⟨[.p (some (ad d 0)),.p (some (ad a 0)),.p (some (ad c 0))]⟩) (x0 (K (.b true)))))))) m) l)
def ky(a:OA)(d:LV)(K:VK):WK:=mk d λb=>aI (ad b 0) 2 λe=>dO a e (x2 λf g=>(xA 14 λh=>(xB λj=>mk dR λc=>bw 14 (ad c 0) h (br (a.isNone) (K (.i 2)) (br (!j) (K (.i 5)) (tick (nn a λk=>lP (k.add 3) λl=>aI (ad b 0) 2 λm=>hO l m (x2 λn o=>(xI .i64 λp=>(xB λu=>lI (ad c 13) λq=>st (ad b 13) (.i q) (tick (nn a λr=>lP (r.add 1) λs=>aI (ad b 0) 14 λt=>ke s p t (xB λv=>K (.i 0))))) o) n)))))) g) f)
def uA(d e:LV)(K:VK):WK:=mk d λb=>mk e λa=>tick (lI (ad b 13) λf=>lI (ad a 13) λc=>st (ad b 13) (.i (db .i64 .andNot f 1)) (kp (ad a 13) [.i c] (st (ad a 13) (.i (db .i64 .andNot c 1)) (aI (ad b 0) 16 λg=>aI (ad a 0) 16 λh=>rl iw g h λj=>br j (K (.i 10)) (K (.i 11))))))
def yT(g:OA)(h:LV)(K:VK):WK:=mk h λd=>mk ow λa=>aI (ad d 2) 2 λj=>dO g j (x2 λk l=>(xA 14 λm=>(xB λn=>mk dR λb=>bw 14 (ad b 0) m (aI (ad d 4) 2 λo=>dO g o (x2 λp q=>(xA 14 λr=>(xB λs=>mk dR λc=>bw 14 (ad c 0) r (br (!n) (ch True (ch (28=28) (jC (ad a 0) ow (aI (ad a 0) 28 λt=>K (.tuple ⟨[.agg ⟨t⟩,.i 19]⟩))))) (br (!s) (ch True (ch (28=28) (jC (ad a 0) ow (aI (ad a 0) 28 λu=>K (.tuple ⟨[.agg ⟨u⟩,.i 20]⟩))))) (lI (ad b 10) λv=>lI (ad c 10) λw=>br (v !=w) (ch True (ch (28=28) (jC (ad a 0) ow (aI (ad a 0) 28 λx=>K (.tuple ⟨[.agg ⟨x⟩,.i 21]⟩))))) (lI (ad b 10) λy=>lI (ad d 11) λz=>br (y !=z) (ch True (ch (28=28) (jC (ad a 0) ow (aI (ad a 0) 28 λA=>K (.tuple ⟨[.agg ⟨A⟩,.i 22]⟩))))) (lI (ad b 12) λB=>br ((db .i64 .and B 8)!=0) (ch True (ch (28=28) (jC (ad a 0) ow (aI (ad a 0) 28 λC=>K (.tuple ⟨[.agg ⟨C⟩,.i 30]⟩))))) (lI (ad c 12) λD=>br ((db .i64 .and D 8)!=0) (ch True (ch (28=28) (jC (ad a 0) ow (aI (ad a 0) 28 λE=>K (.tuple ⟨[.agg ⟨E⟩,.i 31]⟩))))) (aI (ad b 0) 14 λe=>aI (ad c 0) 14 λf=>ch (e.length=14/\(f.length=14/\True)) (ch ((e++(f++[])).length=28) (jC (ad a 0) (e++(f++[])) (aI (ad a 0) 28 λF=>K (.tuple ⟨[.agg ⟨F⟩,.i 0]⟩)))))))))))) q) p))) l) k)
def om(a:OA)(K:VK):WK:=br (!(a.isNone)) (nn a λc=>lP (c.add 2) λd=>fW d (xI .i64 λe=>K (.b (decide (e<96))))) (K (.b false))
def tR(c d:LV)(K:VK):WK:=mk c λa=>mk d λb=>aI (ad a 0) 2 λe=>aI (ad b 0) 2 λf=>rl [.u 0,.u 0] e f λg=>br g (K (.i 0)) (lU (ad a 0) λh=>lU (ad b 0) λj=>br (decide (h<j)) (K (.i (-1))) (lU (ad a 0) λk=>lU (ad b 0) λl=>br (k==l) (lU (ad a 1) λm=>lU (ad b 1) λn=>br (decide (m<n)) (K (.i (-1))) (K (.i 1))) (K (.i 1))))
def q9(a c:LV)(K:VK):WK:=mk a λd=>mk c λe=>aI (ad d 0) 2 λf=>aI (ad e 0) 2 λg=>tR f g (xI .i64 λh=>K (.b (decide (h<0))))
def ye(d e:LV)(K:VK):WK:=mk d λb=>mk e λc=>mk [.u 0,.u 0] λa=>aI (ad c 0) 2 λf=>aI (ad b 0) 2 λg=>q9 f g (xB λh=>br h (aI (ad c 0) 2 λi=>bw 2 (ad a 0) i (aI (ad a 0) 2 λj=>K (.agg ⟨j⟩))) (aI (ad b 0) 2 λk=>bw 2 (ad a 0) k (aI (ad a 0) 2 λl=>K (.agg ⟨l⟩))))
def pJ(e f:LV)(K:VK):WK:=mk e λc=>mk f λd=>mk [.u 0,.u 0] λa=>aI (ad c 0) 2 λg=>aI (ad d 0) 2 λh=>q9 g h (xB λi=>br i (ch True (ch (2=2) (jC (ad a 0) [.u 0,.u 0] (aI (ad a 0) 2 λj=>K (.tuple ⟨[.agg ⟨j⟩,.b false]⟩))))) (lU (ad c 1) λk=>lU (ad d 1) λl=>qX k l 0 (x2 λm n=>(xI .u64 λo=>(xI .u64 λp=>lU (ad c 0) λq=>lU (ad d 0) λr=>qX q r p (x2 λs t=>(xI .u64 λv=>(xI .u64 λx=>ch (1=1/\(1=1/\True)) (ch (2=2) (jC (ad a 0) [.u v,.u o] (aI (ad a 0) 2 λw=>K (.tuple ⟨[.agg ⟨w⟩,.b true]⟩))))) t) s)) n) m)))
def pK(e f:LV)(K:VK):WK:=mk e λc=>mk f λd=>mk [.u 0,.u 0] λa=>lU (ad c 1) λg=>lU (ad d 1) λh=>qY g h 0 (x2 λi j=>(xI .u64 λk=>(xI .u64 λl=>lU (ad c 0) λm=>lU (ad d 0) λn=>qY m n l (x2 λo p=>(xI .u64 λq=>(xI .u64 λr=>br (r !=0) (ch True (ch (2=2) (jC (ad a 0) [.u 0,.u 0] (aI (ad a 0) 2 λs=>K (.tuple ⟨[.agg ⟨s⟩,.b false]⟩))))) (ch (1=1/\(1=1/\True)) (ch (2=2) (jC (ad a 0) [.u q,.u k] (aI (ad a 0) 2 λt=>K (.tuple ⟨[.agg ⟨t⟩,.b true]⟩)))))) p) o)) j) i)
def iU(c d:LV)(K:VK):WK:=mk c λe=>mk d λf=>mk [.u 0,.u 0] λa=>aI (ad e 0) 2 λg=>aI (ad f 0) 2 λh=>pK g h (x2 λi j=>(xA 2 λk=>(xB λl=>mk [.u 0,.u 0] λb=>bw 2 (ad b 0) k (br (!l) (aI (ad N.tr 0) 2 λm=>bw 2 (ad a 0) m (aI (ad a 0) 2 λn=>K (.agg ⟨n⟩))) (aI (ad b 0) 2 λo=>bw 2 (ad a 0) o (aI (ad a 0) 2 λp=>K (.agg ⟨p⟩))))) j) i)
def dA.j1(K:VK)(c d a:Nat):WK:=aI (ad c 0) 2 λe=>aI (ad d 0) 2 λf=>pJ e f (x2 λg h=>(xA 2 λi=>(xB λl=>mk [.u 0,.u 0] λb=>bw 2 (ad b 0) i (aI (ad b 0) 2 λj=>bw 2 (ad a 0) j (aI (ad a 0) 2 λk=>K (.agg ⟨k⟩)))) h) g)
def dA.j2(K:VK)(c d a:Nat):WK:=aI (ad c 0) 2 λe=>aI (ad d 0) 2 λf=>pJ e f (x2 λg h=>(xA 2 λi=>(xB λl=>mk [.u 0,.u 0] λb=>bw 2 (ad b 0) i (aI (ad b 0) 2 λj=>bw 2 (ad a 0) j (aI (ad a 0) 2 λk=>K (.agg ⟨k⟩)))) h) g)
def dA.j3(K:VK)(c d a:Nat):WK:=aI (ad c 0) 2 λe=>aI (ad d 0) 2 λf=>pJ e f (x2 λg h=>(xA 2 λi=>(xB λl=>mk [.u 0,.u 0] λb=>bw 2 (ad b 0) i (aI (ad b 0) 2 λj=>bw 2 (ad a 0) j (aI (ad a 0) 2 λk=>K (.agg ⟨k⟩)))) h) g)
def dA.j4(K:VK)(c d a:Nat):WK:=aI (ad c 0) 2 λe=>aI (ad d 0) 2 λf=>pJ e f (x2 λg h=>(xA 2 λi=>(xB λl=>mk [.u 0,.u 0] λb=>bw 2 (ad b 0) i (aI (ad b 0) 2 λj=>bw 2 (ad a 0) j (aI (ad a 0) 2 λk=>K (.agg ⟨k⟩)))) h) g)
def dA.j5(K:VK)(c d a:Nat):WK:=aI (ad c 0) 2 λe=>aI (ad d 0) 2 λf=>pJ e f (x2 λg h=>(xA 2 λi=>(xB λl=>mk [.u 0,.u 0] λb=>bw 2 (ad b 0) i (aI (ad b 0) 2 λj=>bw 2 (ad a 0) j (aI (ad a 0) 2 λk=>K (.agg ⟨k⟩)))) h) g)
def dA.j6(K:VK)(c d a:Nat):WK:=aI (ad c 0) 2 λe=>aI (ad d 0) 2 λf=>pJ e f (x2 λg h=>(xA 2 λi=>(xB λl=>mk [.u 0,.u 0] λb=>bw 2 (ad b 0) i (aI (ad b 0) 2 λj=>bw 2 (ad a 0) j (aI (ad a 0) 2 λk=>K (.agg ⟨k⟩)))) h) g)
def dA(y:LV)(h:Bool)(K:VK):WK:=mk y λa=>mk [.u 0,.u 0] λc=>tick (aI (ad a 4) 2 λb=>aI (ad a 6) 2 λd=>aI (ad a 8) 2 λe=>both (iU d e (xA 2 λq=>kp (ad a 4) b (both (mk [.u 0,.u 0] λi=>kp (ad a 4) b (mk [.u 0,.u 0] λj=>kp (ad a 4) b (bw 2 (ad i 0) b (bw 2 (ad j 0) q (br h (tick (aI (ad a 8) 2 λr=>aI (ad a 2) 2 λz=>aI (ad a 4) 2 λA=>iU z A (xA 2 λB=>kp (ad a 8) r (bw 2 (ad i 0) r (bw 2 (ad j 0) B (dA.j1 K i j c)))))) (dA.j1 K i j c)))))) (mk [.u 0,.u 0] λk=>kp (ad a 4) b (mk [.u 0,.u 0] λl=>kp (ad a 4) b (bw 2 (ad l 0) b (bw 2 (ad k 0) q (br h (tick (aI (ad a 8) 2 λs=>aI (ad a 2) 2 λC=>aI (ad a 4) 2 λD=>iU C D (xA 2 λE=>kp (ad a 8) s (bw 2 (ad l 0) s (bw 2 (ad k 0) E (dA.j2 K l k c)))))) (dA.j2 K l k c))))))))) (both (mk [.u 0,.u 0] λf=>kp (ad a 8) e (kp (ad a 6) d (kp (ad a 4) b (both (iU d e (xA 2 λF=>kp (ad a 4) b (mk [.u 0,.u 0] λm=>kp (ad a 4) b (bw 2 (ad f 0) b (bw 2 (ad m 0) F (br h (tick (aI (ad a 8) 2 λt=>aI (ad a 2) 2 λG=>aI (ad a 4) 2 λH=>iU G H (xA 2 λI=>kp (ad a 8) t (bw 2 (ad f 0) t (bw 2 (ad m 0) I (dA.j3 K f m c)))))) (dA.j3 K f m c))))))) (mk [.u 0,.u 0] λn=>kp (ad a 8) e (kp (ad a 6) d (kp (ad a 4) b (iU d e (xA 2 λJ=>kp (ad a 4) b (bw 2 (ad f 0) b (bw 2 (ad n 0) J (br h (tick (aI (ad a 8) 2 λv=>aI (ad a 2) 2 λM=>aI (ad a 4) 2 λO=>iU M O (xA 2 λP=>kp (ad a 8) v (bw 2 (ad f 0) v (bw 2 (ad n 0) P (dA.j4 K f n c)))))) (dA.j4 K f n c))))))))))))) (mk [.u 0,.u 0] λg=>kp (ad a 8) e (kp (ad a 6) d (kp (ad a 4) b (both (iU d e (xA 2 λQ=>kp (ad a 4) b (mk [.u 0,.u 0] λo=>kp (ad a 4) b (bw 2 (ad o 0) b (bw 2 (ad g 0) Q (br h (tick (aI (ad a 8) 2 λw=>aI (ad a 2) 2 λR=>aI (ad a 4) 2 λS=>iU R S (xA 2 λT=>kp (ad a 8) w (bw 2 (ad o 0) w (bw 2 (ad g 0) T (dA.j5 K o g c)))))) (dA.j5 K o g c))))))) (mk [.u 0,.u 0] λp=>kp (ad a 8) e (kp (ad a 6) d (kp (ad a 4) b (iU d e (xA 2 λV=>kp (ad a 4) b (bw 2 (ad p 0) b (bw 2 (ad g 0) V (br h (tick (aI (ad a 8) 2 λx=>aI (ad a 2) 2 λW=>aI (ad a 4) 2 λX=>iU W X (xA 2 λY=>kp (ad a 8) x (bw 2 (ad p 0) x (bw 2 (ad g 0) Y (dA.j6 K p g c)))))) (dA.j6 K p g c)))))))))))))))
def fX.j3(K:VK)(d a e b:Nat):WK:=lI (ad d 13) λf=>br ((db .i64 .and f 32)!=0) (tick (aI (ad a 0) 2 λc=>aI (ad e 14) 14 λg=>dA g false (xA 2 λh=>kp (ad a 0) c (ye c h (xA 2 λj=>bw 2 (ad a 0) j (aI (ad a 0) 2 λk=>iA k (xB λl=>br l (aI (ad a 0) 2 λm=>bw 2 (ad b 0) m (aI (ad b 0) 2 λn=>K (.tuple ⟨[.agg ⟨n⟩,.i 34]⟩))) (aI (ad a 0) 2 λo=>bw 2 (ad b 0) o (aI (ad b 0) 2 λp=>K (.tuple ⟨[.agg ⟨p⟩,.i 0]⟩)))))))))) (aI (ad a 0) 2 λq=>bw 2 (ad b 0) q (aI (ad b 0) 2 λr=>K (.tuple ⟨[.agg ⟨r⟩,.i 0]⟩)))
def fX.j2(K:VK)(c a d b:Nat):WK:=lI (ad c 13) λf=>br ((db .i64 .and f 16)!=0) (tick (aI (ad a 0) 2 λe=>aI (ad d 0) 14 λg=>dA g true (xA 2 λh=>kp (ad a 0) e (ye e h (xA 2 λj=>bw 2 (ad a 0) j (aI (ad a 0) 2 λk=>iA k (xB λl=>br l (aI (ad a 0) 2 λm=>bw 2 (ad b 0) m (aI (ad b 0) 2 λn=>K (.tuple ⟨[.agg ⟨n⟩,.i 33]⟩))) (fX.j3 K c a d b)))))))) (fX.j3 K c a d b)
def fX.j1(K:VK)(a b c d:Nat)(e:Bool):WK:=br e (aI (ad N.tr 0) 2 λf=>bw 2 (ad a 0) f (fX.j2 K b a c d)) (fX.j2 K b a c d)
def fX(e f:LV)(K:VK):WK:=mk e λc=>mk f λa=>mk [.u 0,.u 0] λd=>aI (ad a 6) 2 λg=>mk [.u 0,.u 0] λb=>bw 2 (ad b 0) g (aI (ad a 0) 16 λh=>qq h (xB λi=>br i (aI (ad b 0) 2 λj=>iA j (xB λk=>fX.j1 K b a c d k)) (fX.j1 K b a c d false)))
def yd(q:OA)(m r:Nat)(K:VK):WK:=mk [.u 0,.u 0] λs=>mk [.u 0,.u 0] λt=>(lp [.p (some (ad s 0)),.b false,.p (some (ad t 0)),.l q m r,.i (m:Int),.i 0] λn v=>∀a h c e f j g d k,n [.p (some a),.b h,.p (some c),.l e f j,.i g,.i d] k->(br (decide (d<g)) (iX e f d 2 λw=>aI w 2 λx=>mk [.u 0,.u 0] λo=>bw 2 (ad o 0) x (aI c 2 λy=>aI (ad o 0) 2 λz=>pK y z (x2 λA B=>(xA 2 λC=>(xB λD=>bw 2 c C (br (!D) (ch True (ch (2=2) (jC a [.u 0,.u 0] (aI a 2 λE=>K (.tuple ⟨[.agg ⟨E⟩,.b false]⟩))))) ((ct n v [.p (some a),.b h,.p (some c),.l e f j,.i g,.i (aa.wrap (d+1))] [.p (some a),.b h,.p (some c),.l e f j,.i g,.i d] k)))) B) A))) (aI c 2 λF=>bw 2 a F (aI a 2 λG=>K (.tuple ⟨[.agg ⟨G⟩,.b true]⟩)))) k)
def np.j1(K:VK)(a b:Nat)(d:Bool)(c:Nat)(e:Bool):WK:=br e (aI (ad a 0) 14 λf=>bw 14 (ad b 0) f (aI (ad b 0) 14 λg=>K (.tuple ⟨[.agg ⟨g⟩,.i 33]⟩))) (br d (aI (ad a 2) 2 λh=>aI (ad c 0) 2 λj=>pK h j (x2 λk l=>(xA 2 λm=>(xB λw=>bw 2 (ad a 2) m (aI (ad a 0) 14 λn=>bw 14 (ad b 0) n (aI (ad b 0) 14 λo=>K (.tuple ⟨[.agg ⟨o⟩,.i 0]⟩)))) l) k)) (aI (ad a 4) 2 λp=>aI (ad c 0) 2 λq=>pK p q (x2 λr s=>(xA 2 λt=>(xB λx=>bw 2 (ad a 4) t (aI (ad a 0) 14 λu=>bw 14 (ad b 0) u (aI (ad b 0) 14 λv=>K (.tuple ⟨[.agg ⟨v⟩,.i 0]⟩)))) s) r)))
def np(k l:LV)(e:Bool)(K:VK):WK:=mk k λa=>mk l λb=>mk dR λc=>aI (ad a 2) 2 λf=>aI (ad a 4) 2 λg=>aI (ad b 0) 2 λh=>ch (f.length=2/\(g.length=2/\(h.length=2/\True))) (mk (f++(g++(h++[]))) λm=>yd (ah m) 3 3 (x2 λn o=>(xA 2 λp=>(xB λq=>mk [.u 0,.u 0] λr=>bw 2 (ad r 0) p (br (!q) (aI (ad a 0) 14 λs=>bw 14 (ad c 0) s (aI (ad c 0) 14 λt=>K (.tuple ⟨[.agg ⟨t⟩,.i 32]⟩))) (tick (lI (ad a 12) λd=>br ((db .i64 .and d 2)!=0) (aI (ad a 0) 14 λv=>aI (ad b 0) 2 λj=>dA v true (xA 2 λw=>kp (ad b 0) j (kp (ad a 12) [.i d] (q9 w j (xB λx=>kp (ad a 12) [.i d] (np.j1 K a c e b x)))))) (np.j1 K a c e b false))))) o) n))
def me.j1(K:VK)(a b:Nat)(d:Bool)(c:Nat)(e:Bool):WK:=br e (aI (ad a 0) 14 λf=>bw 14 (ad b 0) f (aI (ad b 0) 14 λg=>K (.tuple ⟨[.agg ⟨g⟩,.i 34]⟩))) (br d (aI (ad a 6) 2 λh=>aI (ad c 0) 2 λj=>pK h j (x2 λk l=>(xA 2 λm=>(xB λw=>bw 2 (ad a 6) m (aI (ad a 0) 14 λn=>bw 14 (ad b 0) n (aI (ad b 0) 14 λo=>K (.tuple ⟨[.agg ⟨o⟩,.i 0]⟩)))) l) k)) (aI (ad a 8) 2 λp=>aI (ad c 0) 2 λq=>pK p q (x2 λr s=>(xA 2 λt=>(xB λx=>bw 2 (ad a 8) t (aI (ad a 0) 14 λu=>bw 14 (ad b 0) u (aI (ad b 0) 14 λv=>K (.tuple ⟨[.agg ⟨v⟩,.i 0]⟩)))) s) r)))
def me(k l:LV)(e:Bool)(K:VK):WK:=mk k λa=>mk l λb=>mk dR λc=>aI (ad a 6) 2 λf=>aI (ad a 8) 2 λg=>aI (ad b 0) 2 λh=>ch (f.length=2/\(g.length=2/\(h.length=2/\True))) (mk (f++(g++(h++[]))) λm=>yd (ah m) 3 3 (x2 λn o=>(xA 2 λp=>(xB λq=>mk [.u 0,.u 0] λr=>bw 2 (ad r 0) p (br (!q) (aI (ad a 0) 14 λs=>bw 14 (ad c 0) s (aI (ad c 0) 14 λt=>K (.tuple ⟨[.agg ⟨t⟩,.i 32]⟩))) (tick (lI (ad a 12) λd=>br ((db .i64 .and d 4)!=0) (aI (ad a 0) 14 λv=>aI (ad b 0) 2 λj=>dA v false (xA 2 λw=>kp (ad b 0) j (kp (ad a 12) [.i d] (q9 w j (xB λx=>kp (ad a 12) [.i d] (me.j1 K a c e b x)))))) (me.j1 K a c e b false))))) o) n))
def im.j1(K:VK)(a b g:Nat):WK:=tick (lP (ad a 0) λn=>lP (ad a 0) λc=>nn c λd=>lI (d.add 7) λe=>og n (xI .i64 λo=>kp (d.add 7) [.i e] (kp (ad a 0) [.p c] (st (ad b 30) (.i o) (kp (d.add 7) [.i e] (kp (ad a 0) [.p c] (st (ad b 31) (.i e) (tick (lP (ad a 0) λh=>nn h λq=>lP (q.add 2) λr=>aI (ad b 0) 33 λs=>jG r s (xI .i64 λj=>kp (ad a 0) [.p h] (tick (lP (ad a 0) λk=>nn k λt=>lP (t.add 4) λu=>aI (ad g 0) 2 λv=>dT u v j (xB λJ=>kp (ad a 0) [.p k] (tick (lP (ad a 0) λl=>nn l λw=>lI (ad b 30) λx=>jd (some (w.add 5)) x j (xB λM=>kp (ad a 0) [.p l] (lP (ad a 0) λy=>nn y λz=>ik (some z) (.func (.func N.eE) ⟨[]⟩ ⟨[.p (some (ad a 0)),.p (some (ad g 0)),.p (some (ad b 0))]⟩) (x0 (aI (ad b 0) 33 λA=>ur A (x2 λB C=>(xA 4 λD=>(xB λE=>mk yc λf=>bw 4 (ad f 0) D (br E (tick (lP (ad a 0) λm=>nn m λF=>aI (ad f 0) 4 λG=>lD (some (F.add 6)) G (x0 (kp (ad a 0) [.p m] (lP (ad a 0) λH=>nn H λI=>ik (some I) (.func (.func N.eB) ⟨[]⟩ ⟨[.p (some (ad a 0)),.p (some (ad f 0))]⟩) (x0 (K (.i 0)))))))) (K (.i 0)))) C) B))))))))))))))))))))
def im(g:OA)(h j:LV)(k:Bool)(K:VK):WK:=mk [.p g] λa=>mk h λl=>mk j λb=>lP (ad a 0) λm=>br (m.isNone) (K (.i 2)) (lP (ad a 0) λn=>nn n λo=>lP (o.add 2) λq=>fW q (xI .i64 λr=>br (decide (r>=96)) (K (.i 6)) (tick (lP (ad a 0) λf=>nn f λs=>lP (s.add 4) λt=>aI (ad b 0) 2 λu=>hO t u (x2 λv w=>(xI .i64 λy=>(xB λx=>kp (ad a 0) [.p f] (br x (K (.i 1)) (aI (ad l 0) 16 λd=>aI (ad b 0) 16 λe=>ch (d.length=16/\(e.length=16/\True)) (mk cF λc=>ch ((d++(e++([.i 0]:LV))).length=33) (jC (ad c 0) (d++(e++([.i 0]:LV))) (br k (st (ad c 32) (.i 1) (im.j1 K a c b)) (im.j1 K a c b))))))) w) v)))))
def pA.j2(K:VK)(d:Nat)(c:OA)(a g:Nat):WK:=aI (ad d 0) 14 λh=>ky c h (xI .i64 λo=>aI (ad d 14) 14 λj=>ky c j (xI .i64 λp=>aI (ad a 0) 16 λk=>mk iw λb=>bw 16 (ad b 0) k (aI (ad g 0) 2 λl=>bw 2 (ad b 6) l (tick (aI (ad a 0) 16 λe=>aI (ad b 0) 16 λf=>aI (ad a 0) 16 λm=>lQ m (xB λn=>kp (ad b 0) f (kp (ad a 0) e (im c e f n (xI .i64 λq=>K (.i 0))))))))))
def pA.j1(K:VK)(b a:Nat)(c:OA)(d:Nat):WK:=lI (ad b 13) λe=>br ((db .i64 .and e 128)!=0) (lI (ad a 26) λf=>st (ad a 26) (.i (db .i64 .or f 8)) (pA.j2 K a c b d)) (pA.j2 K a c b d)
def pA(d:OA)(p:LV)(K:VK):WK:=mk p λb=>aI (ad b 0) 16 λq=>fq q (xI .i64 λe=>br (e !=0) (K (.i e)) (aI (ad b 0) 16 λr=>sm r (xB λs=>br s (K (.i 6)) (aI (ad b 0) 2 λt=>il d t (x2 λv w=>(xA 33 λx=>(xB λy=>mk cF λf=>bw 33 (ad f 0) x (br y (aI (ad b 0) 16 λz=>aI (ad f 0) 16 λA=>uA z A (xI .i64 λB=>K (.i B))) (aI (ad b 0) 16 λC=>yT d C (x2 λD E=>(xA 28 λF=>(xI .i64 λg=>mk ow λa=>bw 28 (ad a 0) F (br (g !=0) (K (.i g)) (om d (xB λG=>br (!G) (K (.i 35)) (aI (ad a 0) 28 λH=>aI (ad b 0) 16 λI=>fX H I (x2 λJ M=>(xA 2 λO=>(xI .i64 λh=>mk [.u 0,.u 0] λc=>bw 2 (ad c 0) O (br (h !=0) (K (.i h)) (tick (aI (ad a 0) 14 λj=>aI (ad c 0) 2 λk=>aI (ad b 0) 16 λP=>lQ P (xB λQ=>kp (ad c 0) k (kp (ad a 0) j (np j k Q (x2 λR S=>(xA 14 λT=>(xI .i64 λl=>bw 14 (ad a 0) T (br (l !=0) (K (.i l)) (tick (aI (ad a 14) 14 λm=>aI (ad c 0) 2 λn=>aI (ad b 0) 16 λV=>lQ V (xB λW=>kp (ad c 0) n (kp (ad a 14) m (me m n W (x2 λX Y=>(xA 14 λZ=>(xI .i64 λo=>bw 14 (ad a 14) Z (br (o !=0) (K (.i o)) (lI (ad b 13) λn7=>br ((db .i64 .and n7 64)!=0) (lI (ad a 12) λVR=>st (ad a 12) (.i (db .i64 .or VR 8)) (pA.j1 K b a d c)) (pA.j1 K b a d c)))) Y) X)))))))) S) R)))))))) M) J)))))) E) D)))) w) v)))))
def lV(e:OA)(f:Int)(g:LV)(K:VK):WK:=mk [.p e] λa=>mk [.i f] λc=>mk g λh=>lP (ad a 0) λj=>lI (ad c 0) λk=>dJ j k (x2 λl m=>(xA 33 λn=>(xB λo=>mk cF λd=>bw 33 (ad d 0) n (br (!o) (K (.b false)) (tick (lP (ad a 0) λq=>nn q λr=>lL r λs t A=>lI (ad c 0) λu=>aI (ad h 0) 33 λv=>iX s t u 33 λw=>bw 33 w v (lP (ad a 0) λx=>nn x λy=>lP (y.add 1) λz=>ik z (.func (.func N.cU) ⟨[]⟩ ⟨[.p (some (ad d 0)),.p (some (ad a 0)),.p (some (ad c 0))]⟩) (x0 (K (.b true)))))))) m) l)
def da.j4(K:VK)(a e b:Nat)(f:Int):WK:=tick (lP (ad a 0) λc=>nn c λg=>lP (g.add 4) λh=>aI (ad e 0) 2 λj=>hO h j (x2 λk l=>(xI .i64 λm=>(xB λr=>kp (ad a 0) [.p c] (st (ad b 32) (.i f) (tick (lP (ad a 0) λd=>nn d λn=>lP (n.add 2) λo=>aI (ad b 0) 33 λq=>lV o m q (xB λs=>kp (ad a 0) [.p d] (K (.i 0))))))) l) k))
def da.j3(K:VK)(a e b c:Nat)(d:Int)(f:Bool):WK:=br f (lP (ad a 0) λg=>nn g λh=>ik (some h) (.func (.func N.eX) ⟨[]⟩ ⟨[.p (some (ad a 0)),.p (some (ad e 0))]⟩) (x0 (da.j4 K a b c d))) (da.j4 K a b c d)
def da.j2(K:VK)(c a d:Nat)(e:Int)(g:Bool):WK:=br g (K (.i 1)) (aI (ad c 0) 33 λh=>ur h (x2 λj k=>(xA 4 λl=>(xB λm=>mk yc λb=>bw 4 (ad b 0) l (tick (br m (lP (ad a 0) λf=>nn f λn=>lI (ad b 1) λo=>mn (some (n.add 6)) o (xB λq=>kp (ad a 0) [.p f] (da.j3 K a b d c e q))) (da.j3 K a b d c e false)))) k) j))
def da.j1(K:VK)(a:Int)(b c d:Nat)(e:Bool):WK:=br e (K (.i 5)) (br (decide (a<=1)) (da.j2 K b c d a true) (da.j2 K b c d a (decide (a>4))))
def da(e:OA)(f:LV)(d:Int)(K:VK):WK:=mk [.p e] λa=>mk f λc=>lP (ad a 0) λg=>aI (ad c 0) 2 λh=>il g h (x2 λj k=>(xA 33 λl=>(xB λm=>mk cF λb=>bw 33 (ad b 0) l (lP (ad a 0) λn=>br (n.isNone) (K (.i 2)) (br (!m) (da.j1 K d b a c true) (lI (ad b 32) λo=>da.j1 K d b a c (o !=1))))) k) j)
def dX.j1(K:VK)(b:Nat)(a:OA)(c d:Nat)(e:Int):WK:=aI (ad b 0) 14 λf=>ky a f (xI .i64 λi=>aI (ad c 0) 14 λg=>ky a g (xI .i64 λj=>aI (ad d 0) 2 λh=>da a h e (xI .i64 λk=>K (.tuple ⟨[]⟩))))
def dX.j2(K:VK)(b a c:Nat)(d:OA)(e:Int):WK:=lI (ad b 13) λf=>br ((db .i64 .and f 128)!=0) (lI (ad a 12) λg=>st (ad a 12) (.i (db .i64 .andNot g 8)) (dX.j1 K c d a b e)) (dX.j1 K c d a b e)
def dX(d:OA)(g h:LV)(e:Int)(K:VK):WK:=mk g λb=>mk h λf=>aI (ad b 2) 2 λj=>dO d j (x2 λk l=>(xA 14 λm=>(xB λQ=>mk dR λa=>bw 14 (ad a 0) m (aI (ad b 4) 2 λn=>dO d n (x2 λo p=>(xA 14 λq=>(xB λR=>mk dR λc=>bw 14 (ad c 0) q (aI (ad a 2) 2 λr=>aI (ad b 6) 2 λs=>pJ r s (x2 λt u=>(xA 2 λv=>(xB λS=>bw 2 (ad a 2) v (aI (ad c 6) 2 λw=>aI (ad b 6) 2 λx=>pJ w x (x2 λy z=>(xA 2 λA=>(xB λT=>bw 2 (ad c 6) A (br (e==2) (aI (ad a 4) 2 λB=>aI (ad f 0) 2 λC=>pK B C (x2 λD E=>(xA 2 λF=>(xB λV=>bw 2 (ad a 4) F (aI (ad c 8) 2 λG=>aI (ad f 0) 2 λH=>pK G H (x2 λI J=>(xA 2 λM=>(xB λW=>bw 2 (ad c 8) M (dX.j1 K a d c b e)) J) I))) E) D)) (lI (ad b 13) λO=>br ((db .i64 .and O 64)!=0) (lI (ad a 12) λP=>st (ad a 12) (.i (db .i64 .andNot P 8)) (dX.j2 K b c a d e)) (dX.j2 K b c a d e)))) z) y))) u) t))) p) o))) l) k)
def dX.u:WP|[.pointer a,.agg ⟨b⟩,.agg ⟨c⟩,.int .i64 d],K=>dX a b c d K|_,_=>no
def gn.j3(K:VK)(a c:Nat)(d:Bool):WK:=br d (lI (ad a 12) λe=>br (e==0) (K (.b true)) (lI (ad a 12) λf=>lI (ad c 12) λg=>K (.b (f==g)))) (K (.b false))
def gn.j2(K:VK)(a b:Nat)(c:Bool):WK:=br c (lI (ad a 11) λd=>br (d==0) (gn.j3 K a b true) (lI (ad a 11) λe=>lI (ad b 11) λf=>gn.j3 K a b (e==f))) (gn.j3 K a b false)
def gn.j1(K:VK)(a b:Nat)(c:Bool):WK:=br c (aI (ad a 4) 2 λd=>iA d (xB λe=>br e (gn.j2 K a b true) (aI (ad a 4) 2 λf=>aI (ad b 4) 2 λg=>rl [.u 0,.u 0] f g λh=>gn.j2 K a b h))) (gn.j2 K a b false)
def gn(c d:LV)(K:VK):WK:=mk c λa=>mk d λb=>aI (ad a 2) 2 λe=>iA e (xB λf=>br f (gn.j1 K a b true) (aI (ad a 2) 2 λg=>aI (ad b 2) 2 λh=>rl [.u 0,.u 0] g h λi=>gn.j1 K a b i))
def yW(f:OA)(g:LV)(K:VK):WK:=mk g λd=>mk iw λa=>aI (ad d 8) 2 λh=>il f h (x2 λj k=>(xA 33 λl=>(xB λm=>mk cF λb=>bw 33 (ad b 0) l (br (!m) (ch True (ch (16=16) (jC (ad a 0) iw (aI (ad a 0) 16 λn=>K (.tuple ⟨[.agg ⟨n⟩,.i 23]⟩))))) (aI (ad b 16) 16 λo=>lQ o (xB λp=>br (!p) (ch True (ch (16=16) (jC (ad a 0) iw (aI (ad a 0) 16 λq=>K (.tuple ⟨[.agg ⟨q⟩,.i 24]⟩))))) (aI (ad d 0) 16 λr=>aI (ad b 16) 16 λs=>gn r s (xB λt=>br (!t) (ch True (ch (16=16) (jC (ad a 0) iw (aI (ad a 0) 16 λu=>K (.tuple ⟨[.agg ⟨u⟩,.i 25]⟩))))) (tick (aI (ad b 16) 16 λv=>lI (ad b 32) λc=>ch ((0:Int)<=c/\c<5) (lI ((ad N.yC 0).add (c.toNat* 1)) λe=>bw 16 (ad a 0) v (kp ((ad N.yC 0).add (c.toNat* 1)) [.i e] (kp (ad b 32) [.i c] (aI (ad a 0) 16 λw=>K (.tuple ⟨[.agg ⟨w⟩,.i e]⟩))))))))))))) k) j)
def oB.j1(K:VK)(a b d:Nat)(c:Bool):WK:=br c (br c (ch True (ch (2=2) (jC (ad a 0) [.u 0,.u 0] (aI (ad a 0) 2 λe=>K (.tuple ⟨[.agg ⟨e⟩,.i 26]⟩))))) (aI (ad b 6) 2 λf=>bw 2 (ad a 0) f (aI (ad a 0) 2 λg=>K (.tuple ⟨[.agg ⟨g⟩,.i 0]⟩)))) (aI (ad d 6) 2 λh=>aI (ad b 6) 2 λj=>q9 h j (xB λk=>br k (ch True (ch (2=2) (jC (ad a 0) [.u 0,.u 0] (aI (ad a 0) 2 λl=>K (.tuple ⟨[.agg ⟨l⟩,.i 26]⟩))))) (aI (ad b 6) 2 λm=>bw 2 (ad a 0) m (aI (ad a 0) 2 λn=>K (.tuple ⟨[.agg ⟨n⟩,.i 0]⟩)))))
def oB(d e:LV)(K:VK):WK:=mk d λa=>mk e λb=>mk [.u 0,.u 0] λc=>aI (ad a 6) 2 λf=>iA f (xB λg=>br g (aI (ad b 6) 2 λh=>bw 2 (ad c 0) h (aI (ad c 0) 2 λj=>K (.tuple ⟨[.agg ⟨j⟩,.i 0]⟩))) (lI (ad a 13) λk=>br ((db .i64 .and k 8)!=0) (aI (ad a 6) 2 λl=>aI (ad b 6) 2 λm=>rl [.u 0,.u 0] l m λn=>oB.j1 K c a b (!n)) (oB.j1 K c a b false)))
def nh.j1(K:VK)(a b:Nat)(c:Bool):WK:=br c (K (.i 30)) (lI (ad a 12) λd=>br ((db .i64 .and d 8)!=0) (lI (ad b 13) λe=>br ((db .i64 .and e 128)==0) (K (.i 31)) (K (.i 0))) (K (.i 0)))
def nh(c:OA)(e:LV)(K:VK):WK:=mk e λa=>aI (ad a 2) 2 λf=>dO c f (x2 λg h=>(xA 14 λi=>(xB λp=>mk dR λd=>bw 14 (ad d 0) i (aI (ad a 4) 2 λj=>dO c j (x2 λk l=>(xA 14 λm=>(xB λq=>mk dR λb=>bw 14 (ad b 0) m (lI (ad d 12) λn=>br ((db .i64 .and n 8)!=0) (lI (ad a 13) λo=>nh.j1 K b a ((db .i64 .and o 64)==0)) (nh.j1 K b a false))) l) k))) h) g)
def rM.j1(K:VK)(f:OA)(a d h:Nat)(k:Int):WK:=om f (xB λl=>br (!l) (K (.i 35)) (aI (ad a 0) 16 λm=>aI (ad d 0) 2 λn=>dX f m n k (x0 (aI (ad h 0) 16 λo=>mk iw λb=>bw 16 (ad b 0) o (tick (aI (ad a 2) 2 λp=>aI (ad a 4) 2 λj=>aI (ad d 0) 2 λg=>lI (ad a 11) λe=>lI (ad a 12) λc=>bw 2 (ad b 2) p (kp (ad a 12) [.i c] (kp (ad a 11) [.i e] (kp (ad d 0) g (kp (ad a 4) j (bw 2 (ad b 4) j (kp (ad a 12) [.i c] (kp (ad a 11) [.i e] (kp (ad d 0) g (bw 2 (ad b 6) g (kp (ad a 12) [.i c] (kp (ad a 11) [.i e] (st (ad b 11) (.i e) (kp (ad a 12) [.i c] (st (ad b 12) (.i c) (aI (ad h 0) 16 λq=>aI (ad b 0) 16 λr=>im f q r false (xI .i64 λs=>K (.i 0)))))))))))))))))))))))
def rM(b:OA)(j:LV)(K:VK):WK:=mk j λa=>aI (ad a 0) 2 λk=>il b k (x2 λl m=>(xA 33 λn=>(xB λo=>mk cF λe=>bw 33 (ad e 0) n (br o (aI (ad a 0) 16 λp=>aI (ad e 0) 16 λq=>uA p q (xI .i64 λr=>K (.i r))) (aI (ad a 0) 16 λs=>yW b s (x2 λt v=>(xA 16 λw=>(xI .i64 λf=>mk iw λc=>bw 16 (ad c 0) w (br (f !=0) (K (.i f)) (aI (ad a 0) 16 λx=>aI (ad c 0) 16 λy=>oB x y (x2 λz A=>(xA 2 λB=>(xI .i64 λg=>mk [.u 0,.u 0] λd=>bw 2 (ad d 0) B (br (g !=0) (K (.i g)) (lI (ad a 13) λC=>br ((db .i64 .and C 4)!=0) (aI (ad c 0) 16 λD=>nh b D (xI .i64 λh=>br (h !=0) (K (.i h)) (rM.j1 K b c d a 2))) (rM.j1 K b c d a 3)))) A) z)))) v) t)))) m) l)
def nO.j1(K:VK)(a:Nat)(b:OA)(c:Bool):WK:=br c (aI (ad a 0) 16 λd=>pA b d (xI .i64 λe=>K (.i e))) (aI (ad a 0) 16 λf=>rM b f (xI .i64 λg=>K (.i g)))
def nO(b:OA)(c:LV)(K:VK):WK:=mk c λa=>aI (ad a 0) 16 λd=>fq d (xI .i64 λe=>br (e !=0) (nO.j1 K a b true) (aI (ad a 0) 16 λf=>sm f (xB λg=>nO.j1 K a b (!g))))
def nO.u:WP|[.pointer a,.agg ⟨b⟩],K=>nO a b K|_,_=>no
def l9(f o:OA)(j q:Nat)(r:OA)(s t:Nat)(v:Value)(K:VK):WK:=fB f (xI .i64 λw=>(lp [.i w,.l o j q,.i (j:Int),.i 0] λk x=>∀b c d g e a h,k [.i b,.l c d g,.i e,.i a] h->(br (decide (a<e)) (iX c d a 16 λy=>aI y 16 λz=>mk iw λm=>bw 16 (ad m 0) z (aI (ad m 0) 16 λA=>xN [(N.fC,fC.u),(N.fB,fB.u),(N.jo,jo.u),(N.nO,nO.u)] v [.p f,.agg ⟨A⟩] (xI .i64 λn=>br (n !=0) (fC f b (x0 (jo r s t a n (x0 (K (.tuple ⟨[]⟩)))))) ((ct k x [.i b,.l c d g,.i e,.i (aa.wrap (a+1))] [.i b,.l c d g,.i e,.i a] h))))) (K (.tuple ⟨[]⟩))) h))
def oO(t n:OA)(e o:Nat)(u v:Value)(K:VK):WK:=Kl 8 [.i 0] (e:Int) (e:Int) λw x y=>(lp [.l none 0 0,.l w x y,.i 0] λm p=>∀f g h b c d a k,m [.l f g h,.l b c d,.i a] k->(br (decide (a<(e:Int))) (rY n e o 16 (some a) none λz A B=>k9 z A B (u) (x2 λC D=>(xI .i64 λj=>(xB λE=>rY b c d 1 (some a) (some (aa.wrap (a+j))) λq r s=>br (!E) (jo q r s (aa.wrap (j-1)) 2 (x0 ((ct m p [.l f g h,.l b c d,.i (aa.wrap (a+j))] [.l f g h,.l b c d,.i a] k)))) (rY n e o 16 (some a) (some (aa.wrap (a+j))) λF G H=>l9 t F G H q r s (v) (x0 ((ct m p [.l f g h,.l b c d,.i (aa.wrap (a+j))] [.l f g h,.l b c d,.i a] k))))) D) C)) (K (.l b c d))) k)
def qM(a b:OA)(c d:Nat)(K:VK):WK:=oO a b c d (.func (.func N.fZ) ⟨[]⟩ ⟨[]⟩) (.func (.func N.nO) ⟨[]⟩ ⟨[]⟩) (xL λe f g=>K (.l e f g))
def eo.j1(K:VK)(a:Nat)(c:Int)(d:Bool):WK:=br d (K (.tuple ⟨[]⟩)) (lP (ad a 0) λe=>nn e λf=>lI (f.add 7) λg=>mk [.i 0] λb=>st (ad b 0) (.i g) (lP (ad a 0) λh=>nn h λj=>st (j.add 7) (.i c) (lP (ad a 0) λk=>nn k λl=>ik (some l) (.func (.func N.eg) ⟨[]⟩ ⟨[.p (some (ad b 0)),.p (some (ad a 0))]⟩) (x0 (K (.tuple ⟨[]⟩))))))
def eo(c:OA)(a:Int)(K:VK):WK:=mk [.p c] λb=>lP (ad b 0) λd=>br (d.isNone) (eo.j1 K b a true) (lP (ad b 0) λe=>nn e λf=>lI (f.add 7) λg=>br (decide (a<=g)) (eo.j1 K b a true) (eo.j1 K b a (decide (a>1099511627776))))
def eo.u:WP|[.pointer a,.int .i64 b],K=>eo a b K|_,_=>no
def tD(a:OA)(K:VK):WK:=br (a.isNone) (K (.i 0)) (nn a λb=>lL b λd c e=>K (.i (c:Int)))
def ng(c:OA)(K:VK):WK:=mk yc λa=>tD c (xI .i64 λd=>br (d==0) (ch True (ch (4=4) (jC (ad a 0) yc (aI (ad a 0) 4 λe=>K (.tuple ⟨[.agg ⟨e⟩,.b false]⟩))))) (nn c λf=>lL f λg h l=>iX g h 0 4 λi=>aI i 4 λj=>bw 4 (ad a 0) j (aI (ad a 0) 4 λk=>K (.tuple ⟨[.agg ⟨k⟩,.b true]⟩))))
def fh.j1(K:VK)(c:Nat)(d:OA)(a:Nat)(e:Bool):WK:=br e (aI (ad c 2) 2 λf=>il d f (x2 λg h=>(xA 33 λi=>(xB λj=>bw 33 (ad a 0) i (aI (ad a 0) 33 λk=>K (.tuple ⟨[.agg ⟨k⟩,.b j]⟩))) h) g)) (ch True (ch (33=33) (jC (ad a 0) cF (aI (ad a 0) 33 λl=>K (.tuple ⟨[.agg ⟨l⟩,.b false]⟩)))))
def fh(a:OA)(K:VK):WK:=mk cF λc=>br (a.isNone) (ch True (ch (33=33) (jC (ad c 0) cF (aI (ad c 0) 33 λe=>K (.tuple ⟨[.agg ⟨e⟩,.b false]⟩))))) (nn a λf=>ng (some (f.add 6)) (x2 λg h=>(xA 4 λi=>(xB λj=>mk yc λd=>bw 4 (ad d 0) i (tick (br j (lI (ad d 0) λk=>nn a λl=>lI (l.add 7) λm=>fh.j1 K d a c (decide (k<=m))) (fh.j1 K d a c false)))) h) g))
def fh.u:WP|[.pointer a],K=>fh a K|_,_=>no
def tj(a:OA)(K:VK):WK:=mk [.p a] λb=>K (.func (.func N.MS) ⟨[]⟩ ⟨[.p (some (ad b 0))]⟩)
def tj.u:WP|[.pointer a],K=>tj a K|_,_=>no
def lj(a:OA)(K:VK):WK:=br (!(a.isNone)) (nn a λb=>mw (some b) (x0 (K (.tuple ⟨[]⟩)))) (K (.tuple ⟨[]⟩))
def tZ(t v:OA)(p w:Nat)(K:VK):WK:=(lp [.l none 0 0,.l none 0 0,.l v p w,.i (p:Int),.i 0] λo q=>∀h j k b c d e f m g a n,o [.l h j k,.l b c d,.l e f m,.i g,.i a] n->(br (decide (a<g)) (iX e f a 2 λx=>aI x 2 λy=>mk [.u 0,.u 0] λr=>bw 2 (ad r 0) y (aI (ad r 0) 2 λz=>dO t z (x2 λA B=>(xA 14 λC=>(xB λD=>mk dR λs=>bw 14 (ad s 0) C (br D (aI (ad s 0) 14 λE=>F0 14 E λF=>gY 14 112 dR b c d (ah F) 1 λG H I=>(ct o q [.l h j k,.l G H I,.l e f m,.i g,.i (aa.wrap (a+1))] [.l h j k,.l b c d,.l e f m,.i g,.i a] n)) ((ct o q [.l h j k,.l b c d,.l e f m,.i g,.i (aa.wrap (a+1))] [.l h j k,.l b c d,.l e f m,.i g,.i a] n)))) B) A))) (K (.l b c d))) n)
def sT(t v:OA)(p w:Nat)(K:VK):WK:=(lp [.l none 0 0,.l none 0 0,.l v p w,.i (p:Int),.i 0] λo q=>∀h j k b c d e f m g a n,o [.l h j k,.l b c d,.l e f m,.i g,.i a] n->(br (decide (a<g)) (iX e f a 2 λx=>aI x 2 λy=>mk [.u 0,.u 0] λr=>bw 2 (ad r 0) y (aI (ad r 0) 2 λz=>il t z (x2 λA B=>(xA 33 λC=>(xB λD=>mk cF λs=>bw 33 (ad s 0) C (br D (aI (ad s 16) 16 λE=>F0 16 E λF=>gY 16 128 iw b c d (ah F) 1 λG H I=>(ct o q [.l h j k,.l G H I,.l e f m,.i g,.i (aa.wrap (a+1))] [.l h j k,.l b c d,.l e f m,.i g,.i a] n)) ((ct o q [.l h j k,.l b c d,.l e f m,.i g,.i (aa.wrap (a+1))] [.l h j k,.l b c d,.l e f m,.i g,.i a] n)))) B) A))) (K (.l b c d))) n)
def fU.j1(K:VK)(w:Int)(x:OA)(y:Bool)(z:Int):WK:=(lp [.l none 0 0,.i w,.i z,.l none 0 0] λu A=>∀j k m f n g c h p,u [.l j k m,.i f,.i n,.l g c h] p->(br (decide (f<n)) (nn x λB=>lL B λC D V=>iX C D f 2 λE=>aI E 2 λF=>F0 2 F λG=>gY 2 16 [.i 0,.i 0] g c h (ah G) 1 λH I J=>(ct u A [.l j k m,.i (aa.wrap (f+1)),.i n,.l H I J] [.l j k m,.i f,.i n,.l g c h] p)) (br y ((lp [.l j k m,.l g c h,.i 0,.i (aa.wrap ((c:Int) -1))] λv M=>∀q r s a b o d e t,v [.l q r s,.l a b o,.i d,.i e] t->(br (decide (d<e)) (tick (iX a b e 2 λO=>aI O 2 λP=>iX a b d 2 λQ=>aI Q 2 λR=>iX a b d 2 λS=>bw 2 S P (iX a b e 2 λT=>bw 2 T R ((ct v M [.l q r s,.l a b o,.i (aa.wrap (d+1)),.i (aa.wrap (e-1))] [.l q r s,.l a b o,.i d,.i e] t))))) (K (.l a b o))) t)) (K (.l g c h)))) p)
def fU(a:OA)(h e:Int)(c:Bool)(K:VK):WK:=br (a.isNone) (K (.l none 0 0)) (tick (nn a λf=>lL f λi g j=>lE a h (xI .i64 λd=>kp f [.l i g j] (br (e !=0) (lE a e (xI .i64 λb=>nn a λk=>lL k λs m t=>br (decide (b<(m:Int))) (nn a λn=>lL n λo p u=>iX o p b 2 λq=>lI q λr=>br (r==e) (fU.j1 K d a c (aa.wrap (b+1))) (fU.j1 K d a c b)) (fU.j1 K d a c b))) (fU.j1 K d a c (g:Int))))))
def nP(o:OA)(z A:Int)(B:Bool)(K:VK):WK:=br (o.isNone) (K (.l none 0 0)) (nn o λC=>fU (some (C.add 5)) z A B (xL λD u E=>(lp [.l none 0 0,.l none 0 0,.l D u E,.i (u:Int),.i 0] λq v=>∀h j k b c d e f m g a n,q [.l h j k,.l b c d,.l e f m,.i g,.i a] n->(br (decide (a<g)) (iX e f a 2 λF=>aI F 2 λG=>mk [.i 0,.i 0] λr=>bw 2 (ad r 0) G (tick (nn o λw=>lP (w.add 2) λs=>lI (ad r 1) λt=>both (dJ s t (x2 λH I=>(xA 33 λJ=>(xB λb2=>mk cF λx=>bw 33 (ad x 0) J (aI (ad x 0) 33 λM=>F0 33 M λO=>gY 33 264 cF b c d (ah O) 1 λP Q R=>(ct q v [.l h j k,.l P Q R,.l e f m,.i g,.i (aa.wrap (a+1))] [.l h j k,.l b c d,.l e f m,.i g,.i a] n))) I) H)) (mk cF λy=>kp (ad r 1) [.i t] (kp (w.add 2) [.p s] (dJ s t (x2 λS T=>(xA 33 λV=>(xB λb3=>bw 33 (ad y 0) V (aI (ad y 0) 33 λW=>F0 33 W λX=>gY 33 264 cF b c d (ah X) 1 λY Z Ig=>(ct q v [.l h j k,.l Y Z Ig,.l e f m,.i g,.i (aa.wrap (a+1))] [.l h j k,.l b c d,.l e f m,.i g,.i a] n))) T) S))))))) (K (.l b c d))) n)))
def mU.j3(K:VK)(s:Nat)(a:OA)(b c:Nat)(o:LI)(d:Addr)(e:OA)(f g:Nat)(h:OA)(j k:Nat)(m n:Int)(q:LM)(r:World)(t:Bool):WK:=br t (aI (ad s 16) 16 λu=>F0 16 u λv=>gY 16 128 iw a b c (ah v) 1 λw x y=>(ct o q [.p (some d),.l e f g,.l w x y,.l h j k,.i m,.i (aa.wrap (n+1))] [.p (some d),.l e f g,.l a b c,.l h j k,.i m,.i n] r)) ((ct o q [.p (some d),.l e f g,.l a b c,.l h j k,.i m,.i (aa.wrap (n+1))] [.p (some d),.l e f g,.l a b c,.l h j k,.i m,.i n] r))
def mU.j2(K:VK)(a:Addr)(b:Nat)(q:Bool)(c:Nat)(d:OA)(e:Nat)(f:LI)(g:OA)(h i:Nat)(j:OA)(k l:Nat)(m n:Int)(o:LM)(p:World)(r:Bool):WK:=lI (a.add 7) λs=>br (decide ((b:Int)<s)) (br q (mU.j3 K c d b e f a g h i j k l m n o p true) (mU.j3 K c d b e f a g h i j k l m n o p r)) (mU.j3 K c d b e f a g h i j k l m n o p false)
def mU.j1(K:VK)(a:Addr)(b c:Nat)(d:OA)(e:Nat)(f:LI)(g:OA)(h i:Nat)(j:OA)(k l:Nat)(m n:Int)(o:LM)(p:World)(q:Bool):WK:=lT (a.add 5) λr=>br r (aI (ad b 20) 2 λs=>aI a 2 λt=>rl [.u 0,.u 0] s t λv=>mU.j2 K a c q b d e f g h i j k l m n o p v) (mU.j2 K a c q b d e f g h i j k l m n o p false)
def mU(w:OA)(x:LV)(K:VK):WK:=mk x λc=>lI (ad c 2) λy=>lI (ad c 3) λz=>lT (ad c 6) λA=>nP w y z A (xL λB t C=>(lp [.p (some (ad c 0)),.l none 0 0,.l none 0 0,.l B t C,.i (t:Int),.i 0] λn v=>∀a o q r d e f g h s j b k,n [.p (some a),.l o q r,.l d e f,.l g h s,.i j,.i b] k->(br (decide (b<j)) (iX g h b 33 λD=>aI D 33 λE=>mk cF λm=>bw 33 (ad m 0) E (lT (a.add 4) λF=>br F (aI (ad m 18) 2 λG=>aI a 2 λH=>rl [.u 0,.u 0] G H λI=>mU.j1 K a m e d f n o q r g h s j b v k I) (mU.j1 K a m e d f n o q r g h s j b v k false))) (K (.l d e f))) k))
def I0(c:OA)(e:LV)(K:VK):WK:=mk e λb=>mk UU λa=>br (c.isNone) (ch (1=1/\True) (ch (4=4) (jC (ad a 0) [.i 2,.l none 0 0,.l none 0 0,.l none 0 0] (aI (ad a 0) 4 λf=>K (.agg ⟨f⟩))))) (aI (ad b 0) 13 λg=>ic g (xB λh=>br (!h) (ch (1=1/\True) (ch (4=4) (jC (ad a 0) [.i 1,.l none 0 0,.l none 0 0,.l none 0 0] (aI (ad a 0) 4 λj=>K (.agg ⟨j⟩))))) (lI (ad b 0) λd=>br (d==4) (lL (ad b 4) λk m n=>tZ c k m n (xL λo p q=>ch (1=1/\True) (ch (4=4) (jC (ad a 0) [.i 0,.l none 0 0,.l o p q,.l none 0 0] (aI (ad a 0) 4 λr=>K (.agg ⟨r⟩)))))) (br (d==5) (lL (ad b 4) λs t u=>sT c s t u (xL λv w x=>ch (1=1/\True) (ch (4=4) (jC (ad a 0) [.i 0,.l none 0 0,.l none 0 0,.l v w x] (aI (ad a 0) 4 λy=>K (.agg ⟨y⟩)))))) (aI (ad b 5) 8 λz=>mU c z (xL λA B C=>ch (1=1/\True) (ch (4=4) (jC (ad a 0) [.i 0,.l none 0 0,.l none 0 0,.l A B C] (aI (ad a 0) 4 λD=>K (.agg ⟨D⟩))))))))))
def wH(h:LV)(K:VK):WK:=mk h λj=>mk adK λk=>(lp [.p (some (ad j 0)),.s .empty,.p (some (ad k 0)),.i 0] λf l=>∀b d c a e,f [.p (some b),.s d,.p (some c),.i a] e->(br (decide (a<8)) (tick (lU (b.add 1) λm=>ch ((0:Int)<=(aa.wrap (8* a))) (lU b λg=>ch ((0:Int)<=(aa.wrap (8* a))) (ch ((0:Int)<=a/\a<16) (st (c.add (a.toNat* 1)) (.int .u8 (IntKind.u8.wrap (shr .u64 m (aa.wrap (8* a))))) (kp b [.u g] (ch ((0:Int)<=(aa.wrap (8+a))/\(aa.wrap (8+a))<16) (st (c.add ((aa.wrap (8+a)).toNat* 1)) (.int .u8 (IntKind.u8.wrap (shr .u64 g (aa.wrap (8* a))))) ((ct f l [.p (some b),.s d,.p (some c),.i (aa.wrap (a+1))] [.p (some b),.s d,.p (some c),.i a] e)))))))))) (rY (some c) 16 16 1 none none λn o r=>TT n o λq=>K (.s q))) e)
def lz(a:OA)(f:LV)(K:VK):WK:=mk f λg=>tick (nn a λb=>lL b λc d e=>aI (ad g 0) 2 λh=>wH h (xS λi=>kp b [.l c d e] (FB c d e i λj k m=>nn a λn=>st n (.l j k m) (K (.tuple ⟨[]⟩)))))
def rR.j1(K:VK)(c:Nat)(d:OA):WK:=aI (ad c 0) 2 λg=>aI (ad c 2) 2 λh=>aI (ad c 4) 2 λj=>aI (ad c 6) 2 λk=>aI (ad c 8) 2 λl=>ch (g.length=2/\(h.length=2/\(j.length=2/\(k.length=2/\(l.length=2/\True))))) ((lp [.p (some (ad c 0)),.agg ⟨(g++(h++(j++(k++(l++[])))))⟩,.i 0] λm o=>∀b e a f,m [.p (some b),.agg ⟨e⟩,.i a] f->(br (decide (a<5)) (ch ((0:Int)<=a/\a<5) (mk [.u 0,.u 0] λn=>ch (((e.drop ((a:Int).toNat* 2)).take 2).length=2) (jC (ad n 0) ((e.drop ((a:Int).toNat* 2)).take 2) (aI (ad n 0) 2 λq=>lz d q (x0 ((ct m o [.p (some b),.agg ⟨e⟩,.i (aa.wrap (a+1))] [.p (some b),.agg ⟨e⟩,.i a] f))))))) (lI (b.add 10) λr=>bl d 4 r (x0 (lI (b.add 11) λs=>bl d 2 s (x0 (lI (b.add 12) λt=>bl d 2 t (x0 (lI (b.add 13) λv=>bl d 8 v (x0 (K (.tuple ⟨[]⟩))))))))))) f))
def rR(b:OA)(c:LV)(K:VK):WK:=mk c λa=>aI (ad a 0) 14 λd=>ja d (xB λe=>br (!e) (ch True (ch (14=14) (jC (ad a 0) dR (rR.j1 K a b)))) (rR.j1 K a b))
def kJ(h m:OA)(e n:Nat)(K:VK):WK:=nn h λo=>bl (some o) 1 (e:Int) (x0 ((lp [.l m e n,.i (e:Int),.i 0] λj p=>∀b c f d a g,j [.l b c f,.i d,.i a] g->(br (decide (a<d)) (iX b c a 14 λq=>aI q 14 λr=>mk dR λk=>bw 14 (ad k 0) r (tick (nn h λs=>aI (ad k 0) 14 λt=>rR (some s) t (x0 ((ct j p [.l b c f,.i d,.i (aa.wrap (a+1))] [.l b c f,.i d,.i a] g)))))) (K (.tuple ⟨[]⟩))) g)))
def qp.j1(K:VK)(d:Nat)(c:OA):WK:=aI (ad d 0) 2 λg=>aI (ad d 2) 2 λh=>aI (ad d 4) 2 λj=>aI (ad d 6) 2 λk=>aI (ad d 8) 2 λl=>ch (g.length=2/\(h.length=2/\(j.length=2/\(k.length=2/\(l.length=2/\True))))) ((lp [.p (some (ad d 0)),.agg ⟨(g++(h++(j++(k++(l++[])))))⟩,.i 0] λm o=>∀a e b f,m [.p (some a),.agg ⟨e⟩,.i b] f->(br (decide (b<5)) (ch ((0:Int)<=b/\b<5) (mk [.u 0,.u 0] λn=>ch (((e.drop ((b:Int).toNat* 2)).take 2).length=2) (jC (ad n 0) ((e.drop ((b:Int).toNat* 2)).take 2) (aI (ad n 0) 2 λq=>lz c q (x0 ((ct m o [.p (some a),.agg ⟨e⟩,.i (aa.wrap (b+1))] [.p (some a),.agg ⟨e⟩,.i b] f))))))) (lI (a.add 10) λr=>bl c 4 r (x0 (lI (a.add 11) λs=>bl c 4 s (x0 (lI (a.add 12) λt=>bl c 2 t (x0 (lI (a.add 13) λv=>bl c 2 v (x0 (lI (a.add 14) λw=>bl c 8 w (x0 (lI (a.add 15) λx=>bl c 8 x (x0 (K (.tuple ⟨[]⟩))))))))))))))) f))
def qp(b:OA)(c:LV)(K:VK):WK:=mk c λa=>aI (ad a 0) 16 λd=>fN d (xB λe=>br (!e) (ch True (ch (16=16) (jC (ad a 0) iw (qp.j1 K a b)))) (qp.j1 K a b))
def kn(h m:OA)(e n:Nat)(K:VK):WK:=nn h λo=>bl (some o) 1 (e:Int) (x0 ((lp [.l m e n,.i (e:Int),.i 0] λj p=>∀b c f d a g,j [.l b c f,.i d,.i a] g->(br (decide (a<d)) (iX b c a 16 λq=>aI q 16 λr=>mk iw λk=>bw 16 (ad k 0) r (tick (nn h λs=>aI (ad k 0) 16 λt=>qp (some s) t (x0 ((ct j p [.l b c f,.i d,.i (aa.wrap (a+1))] [.l b c f,.i d,.i a] g)))))) (K (.tuple ⟨[]⟩))) g)))
def pX(a:OA)(b:Bool)(K:VK):WK:=br b (bl a 1 1 (x0 (K (.tuple ⟨[]⟩)))) (bl a 1 0 (x0 (K (.tuple ⟨[]⟩))))
def oG(c:OA)(j:LV)(K:VK):WK:=mk j λa=>tick (nn c λk=>aI (ad a 0) 2 λl=>lz (some k) l (x0 (tick (nn c λm=>lI (ad a 2) λn=>bl (some m) 8 n (x0 (tick (nn c λo=>lI (ad a 3) λq=>bl (some o) 8 q (x0 (lT (ad a 4) λr=>lT (ad a 5) λs=>lT (ad a 6) λt=>ch (1=1/\(1=1/\(1=1/\True))) ((lp [.p (some (ad a 0)),.agg ⟨[.b r,.b s,.b t]⟩,.i 0] λh u=>∀e f d g,h [.p (some e),.agg ⟨f⟩,.i d] g->(br (decide (d<3)) (Cy f 3 d (xB λv=>nn c λw=>pX (some w) v (x0 ((ct h u [.p (some e),.agg ⟨f⟩,.i (aa.wrap (d+1))] [.p (some e),.agg ⟨f⟩,.i d] g))))) (tick (nn c λx=>lI (e.add 7) λy=>bl (some x) 1 y (x0 (K (.tuple ⟨[]⟩)))))) g)))))))))))
def wG(v:LV)(K:VK):WK:=mk v λb=>aI (ad b 0) 13 λw=>pa w (xB λx=>br (!x) (K (.tuple ⟨[.s .empty,.i 1]⟩)) (ch True (mk [.l none 0 0] λa=>tick (lI (ad b 0) λy=>bl (some (ad a 0)) 1 y (x0 (lI (ad b 0) λe=>br (e==1) (lL (ad b 1) λz A B=>kJ (some (ad a 0)) z A B (x0 (dz (some (ad a 0)) (xS λC=>K (.tuple ⟨[.s C,.i 0]⟩))))) (br (e==2) (lL (ad b 2) λD E F=>kn (some (ad a 0)) D E F (x0 (dz (some (ad a 0)) (xS λG=>K (.tuple ⟨[.s G,.i 0]⟩))))) (br (e==3) (tick (lI (ad b 3) λH=>bl (some (ad a 0)) 8 H (x0 (dz (some (ad a 0)) (xS λI=>K (.tuple ⟨[.s I,.i 0]⟩)))))) (br (e==6) (aI (ad b 5) 8 λJ=>oG (some (ad a 0)) J (x0 (dz (some (ad a 0)) (xS λM=>K (.tuple ⟨[.s M,.i 0]⟩))))) (tick (lL (ad b 4) λO o P=>bl (some (ad a 0)) 1 (o:Int) (x0 (kp (ad b 4) [.l O o P] (lL (ad b 4) λQ q R=>(lp [.s .empty,.i 0,.p (some (ad a 0)),.l Q q R,.i (q:Int),.i 0] λr S=>∀j k c f g m h d n,r [.s j,.i k,.p (some c),.l f g m,.i h,.i d] n->(br (decide (d<h)) (iX f g d 2 λT=>aI T 2 λV=>mk [.u 0,.u 0] λt=>bw 2 (ad t 0) V (tick (aI (ad t 0) 2 λW=>lz (some c) W (x0 ((ct r S [.s j,.i k,.p (some c),.l f g m,.i h,.i (aa.wrap (d+1))] [.s j,.i k,.p (some c),.l f g m,.i h,.i d] n)))))) (dz (some c) (xS λX=>K (.tuple ⟨[.s X,.i 0]⟩)))) n)))))))))))))))
def lh(a:OA)(K:VK):WK:=br (a.isNone) (K (.i 0)) (nn a λb=>lI (b.add 7) λc=>K (.i c))
def kf(a:OA)(K:VK):WK:=br (a.isNone) (K (.l none 0 0)) (nn a λb=>lL b λc d h=>gY 14 112 dR none 0 0 c d λe f g=>K (.l e f g))
def iD(a:OA)(K:VK):WK:=br (a.isNone) (K (.l none 0 0)) (nn a λb=>lP (b.add 1) λc=>kf c (xL λd e f=>K (.l d e f)))
def lW(a:OA)(K:VK):WK:=br (a.isNone) (K (.l none 0 0)) (nn a λb=>lL b λc d h=>gY 33 264 cF none 0 0 c d λe f g=>K (.l e f g))
def jU(a:OA)(K:VK):WK:=br (a.isNone) (K (.l none 0 0)) (nn a λb=>lP (b.add 2) λc=>lW c (xL λd e f=>K (.l d e f)))
def nj(a:OA)(K:VK):WK:=br (a.isNone) (K (.i 0)) (nn a λb=>lI (b.add 8) λc=>K (.i c))
def s8(b:OA)(K:VK):WK:=ch True (mk [.l none 0 0] λc=>bl (some (ad c 0)) 1 1 (x0 (lh b (xI .i64 λC=>bl (some (ad c 0)) 8 C (x0 (nj b (xI .i64 λD=>bl (some (ad c 0)) 8 D (x0 (iD b (xL λZ E GV=>bl (some (ad c 0)) 2 (E:Int) (x0 (jU b (xL λqI F re=>bl (some (ad c 0)) 2 (F:Int) (x0 (iD b (xL λG x H=>(lp [.s .empty,.p (some (ad c 0)),.l G x H,.i (x:Int),.i 0] λy I=>∀g d h j r k e t,y [.s g,.p (some d),.l h j r,.i k,.i e] t->(br (decide (e<k)) (iX h j e 14 λJ=>aI J 14 λM=>mk dR λz=>bw 14 (ad z 0) M (aI (ad z 0) 14 λO=>rR (some d) O (x0 ((ct y I [.s g,.p (some d),.l h j r,.i k,.i (aa.wrap (e+1))] [.s g,.p (some d),.l h j r,.i k,.i e] t))))) (jU b (xL λP A Q=>(lp [.s g,.p (some d),.l P A Q,.i (A:Int),.i 0] λB R=>∀u a m n v o f w,B [.s u,.p (some a),.l m n v,.i o,.i f] w->(br (decide (f<o)) (iX m n f 33 λS=>aI S 33 λT=>mk cF λq=>bw 33 (ad q 0) T (aI (ad q 0) 16 λV=>qp (some a) V (x0 (aI (ad q 16) 16 λW=>qp (some a) W (x0 (lI (ad q 32) λX=>bl (some a) 1 X (x0 ((ct B R [.s u,.p (some a),.l m n v,.i o,.i (aa.wrap (f+1))] [.s u,.p (some a),.l m n v,.i o,.i f] w))))))))) (dz (some a) (xS λY=>K (.s Y)))) w)))) t)))))))))))))))))
def ij.j1(K:VK)(a:OA)(c:Int):WK:=br (c !=0) (nn a λd=>st (d.add 9) (.b true) (K (.i c))) (nn a λe=>lI (e.add 8) λf=>nn a λg=>st (g.add 8) (.i (aa.wrap (f+1))) (nn a λh=>lP (h.add 7) λj=>jv j (x0 (K (.i 0)))))
def ij(a:OA)(K:VK):WK:=br (a.isNone) (K (.i 2)) (nn a λl=>lT (l.add 9) λm=>br m (K (.i 9)) (nn a λn=>lP (n.add 6) λo=>s8 o (xS λb=>nn a λq=>aI (q.add 1) 5 λr=>pL r (b.size:Int) (xB λs=>br (!s) (K (.i 3)) (nn a λt=>lP t λu=>nU u (xI .i64 λc=>tick (nn a λv=>aI (v.add 1) 5 λw=>nn a λx=>lP x λy=>nn a λf=>lI (f.add 8) λg=>qt w y (aa.wrap (g+1)) (aa.wrap (c+1)) b (xI .i64 λh=>kp (f.add 8) [.i g] (br (h==0) (tick (nn a λj=>lP j λk=>nn a λd=>lI (d.add 8) λe=>nn a λz=>lP (z.add 7) λA=>lM A (xI .i64 λB=>kp (d.add 8) [.i e] (kp j [.p k] (ch (1=1/\(1=1/\(1=1/\(1=1/\True)))) (um k (aa.wrap ((aa.wrap (c+1))+1)) [.i (aa.wrap (e+1)),.i (aa.wrap (c+1)),.i (b.size:Int),.i B] (xI .i64 λC=>kp (d.add 8) [.i e] (ij.j1 K a C)))))))) (ij.j1 K a h))))))))))
def jh.j1(K:VK)(a:OA)(f:BA):WK:=tick (nn a λd=>lP (d.add 7) λe=>nn a λg=>lP g λh=>nU h (xI .i64 λj=>kp (d.add 7) [.p e] (cj e (aa.wrap (j+1)) f (xI .i64 λc=>nn a λk=>lT (k.add 9) λl=>br l (nn a λm=>st (m.add 9) (.b true) (K (.i c))) (nn a λn=>st (n.add 9) (.b (c==8)) (K (.i c)))))))
def jh(a:OA)(b:BA)(K:VK):WK:=nn a λd=>lP (d.add 7) λe=>ju e (b.size:Int) (xB λf=>br (!f) (ij a (xI .i64 λc=>br (c !=0) (K (.i c)) (jh.j1 K a b))) (jh.j1 K a b))
def px(a:OA)(K:VK):WK:=br (a.isNone) (K (.p none)) (nn a λb=>lP (b.add 6) λc=>s8 c (xS λd=>oI d (x2 λe f=>(xP λg=>(xI .i64 λh=>K (.p g)) f) e)))
def pW(a:OA)(K:VK):WK:=br (!(a.isNone)) (nn a λc=>lT (c.add 9) λd=>K (.b d)) (K (.b false))
end Go.Prog
namespace Go.Md
def bB:Nat:=340282366920938463463374607431768211456
structure bC where
 id:Nat
 dp:Nat
 dq:Nat
 cp:Nat
 cq:Nat
 aZ:Int
 code:Int
 ak:Int
 ay:Int
deriving DecidableEq
structure cE where
 id:Nat
 bp:Nat
 aP:Nat
 aU:Nat
 pending:Nat
 cu:Int
 aZ:Int
 code:Int
 ak:Int
 ay:Int
 jj:Int
deriving DecidableEq
structure bW where
 asked:cE
 move:cE
 fate:Int
deriving DecidableEq
structure aY where
 aB:List bC
 ax:List bW
 clock:Int
 ay:Int
structure aA where
 cy:List bC
 ax:List bW
 clock:Int
 ay:Int
def has(f b:Int):Prop:=f/b%2=1
instance(f b:Int):Decidable (has f b):=by unfold has;infer_instance
def tI(a:bC):Int:=
 if a.ak<0\/7<a.ak then 3 else if a.id=0 then 4 else if a.id=bB-1 then 5 else if has a.ak 2/\has a.ak 4 then 6
 else if a.dp≠0\/a.dq≠0\/a.cp≠0\/a.cq≠0\/a.ay≠0 then 7 else if a.aZ<=0\/4294967296<=a.aZ then 8 else if a.code<=0\/65536<=a.code then 9 else 0
def tJ(a b:bC):Int:=if a.aZ=b.aZ/\a.code=b.code/\a.ak/2%4=b.ak/2%4 then 10 else 11
def jA(f:Int):Prop:=has f 4\/has f 8
instance(f:Int):Decidable (jA f):=by unfold jA;infer_instance
def iY(f:Int):Prop:= ¬(has f 2/\has f 4\/has f 2/\has f 8\/has f 4/\has f 8)/\ ¬(jA f/\16<=f)/\(f<64\/has f 2)
instance(f:Int):Decidable (iY f):=by unfold iY;infer_instance
def mT(t:cE):Int:=
 if t.ak<0\/255<t.ak then 3 else if t.id=0 then 4 else if t.id=bB-1 then 5 else if ¬iY t.ak then 6
 else if t.ay≠0\/t.jj≠0 then 7 else if t.cu<0\/1073741824<t.cu\/0<t.cu/\ ¬has t.ak 2 then 17
 else if jA t.ak then
  (if t.pending=0 then 16 else if t.aZ<0\/4294967296<=t.aZ then 8 else if t.code<0\/65536<=t.code then 9 else 0)
 else if t.bp=0 then 12 else if t.aP=0 then 13 else if t.bp=t.aP then 14 else if t.pending≠0 then 15 else if t.aU=0/\ ¬has t.ak 16/\ ¬has t.ak 32 then 18
 else if t.aZ<1\/4294967296<=t.aZ then 8 else if t.code<1\/65536<=t.code then 9 else 0
def sE(t b:cE):Int:=if{t with ak:=t.ak/2}={b with ak:=b.ak/2} then 10 else 11
def S(f:bW->Nat)(l:List bW):Nat:=(l.map f).sum
def xO(f:bW->Nat):S f []=0:=rfl
def pq(f:bW->Nat)(k:bW)(l:List bW):S f (k::l)=f k+S f l:=by simp[S]
def Ua(f:bW->Nat)(l m:List bW):S f (l++m)=S f l+S f m:=by simp[S]
def tL(f:bW->Nat)(l:List bW)(k:bW):S f (l++[k])=S f l+f k:=by simp[S]
def HS(f:bW->Nat):∀(l:List bW)(i:Nat)(k:bW)(h:i<l.length),S f (l.set i k)+f l[i]=S f l+f k
 |[],i,k,h=>by simp at h
 |x::l,0,k,h=>by simp[S];omega
 |x::l,i+1,k,h=>by
  have ih:=HS f l i k (by simpa using h);simp only[mV,pq,List.getElem_cons_succ];omega
def T'(f:bW->Nat):∀(l:List bW)(k:bW),k∈l->f k<=S f l
 |[],k,h=>by simp at h
 |x::l,k,h=>by
  rw[pq];rcases jB.1 h with h|h
  ·subst h;omega
  ·have:=T' f l k h;omega
def tN(id:Nat)(k:bW):Nat:=if k.fate=1/\k.move.bp=id then k.move.aU else 0
def tP(id:Nat)(k:bW):Nat:=if k.fate=1/\k.move.aP=id then k.move.aU else 0
def iR(k:bW):Prop:= ¬has k.move.ak 2/\ ¬has k.move.ak 8
instance(k:bW):Decidable (iR k):=by unfold iR;infer_instance
def tB(id:Nat)(k:bW):Nat:=if iR k/\k.move.bp=id then k.move.aU else 0
def tC(id:Nat)(k:bW):Nat:=if iR k/\k.move.aP=id then k.move.aU else 0
def kh(id:Nat)(k:bW):Prop:=(has k.move.ak 64/\k.move.bp=id\/has k.move.ak 128/\k.move.aP=id)/\(k.fate=1\/k.fate=2)
instance(id:Nat)(k:bW):Decidable (kh id k):=by unfold kh;infer_instance
def uk(id:Nat)(k:bW):Nat:=if kh id k then 1 else 0
def add(a b:Nat):Nat:=if a+b<bB then a+b else 0
def vX(a:bC)(k:bW):bC:=
 {a with dq:=if iR k/\k.move.bp=a.id then add a.dq k.move.aU else a.dq,cq:=if iR k/\k.move.aP=a.id then add a.cq k.move.aU else a.cq,dp:=if k.fate=1/\k.move.bp=a.id then add a.dp k.move.aU else a.dp,cp:=if k.fate=1/\k.move.aP=a.id then add a.cp k.move.aU else a.cp,ak:=if kh a.id k then a.ak%8+8 else a.ak}
def full(l:List bW)(a:bC):bC:=
 {a with dp:=a.dp+S (tN a.id) l,dq:=a.dq+S (tB a.id) l,cp:=a.cp+S (tP a.id) l,cq:=a.cq+S (tC a.id) l,ak:=if S (uk a.id) l=0 then a.ak else a.ak%8+8}
def Qx(a:bC)(k:bW)(h1:a.dp+tN a.id k<bB)(h2:a.dq+tB a.id k<bB)(h3:a.cp+tP a.id k<bB)(h4:a.cq+tC a.id k<bB):vX a k=full [k] a:=by
 have e1:(if k.fate=1/\k.move.bp=a.id then add a.dp k.move.aU else a.dp)=a.dp+S (tN a.id) [k]:=by
  rw[pq,xO];unfold tN at h1⊢;by_cases h:k.fate=1/\k.move.bp=a.id
  ·rw[ai h] at h1⊢;rw[ai h];unfold add;rw[ai h1];omega
  ·rw[ag h,ag h];rfl
 have e2:(if iR k/\k.move.bp=a.id then add a.dq k.move.aU else a.dq)=a.dq+S (tB a.id) [k]:=by
  rw[pq,xO];unfold tB at h2⊢;by_cases h:iR k/\k.move.bp=a.id
  ·rw[ai h] at h2⊢;rw[ai h];unfold add;rw[ai h2];omega
  ·rw[ag h,ag h];rfl
 have e3:(if k.fate=1/\k.move.aP=a.id then add a.cp k.move.aU else a.cp)=a.cp+S (tP a.id) [k]:=by
  rw[pq,xO];unfold tP at h3⊢;by_cases h:k.fate=1/\k.move.aP=a.id
  ·rw[ai h] at h3⊢;rw[ai h];unfold add;rw[ai h3];omega
  ·rw[ag h,ag h];rfl
 have e4:(if iR k/\k.move.aP=a.id then add a.cq k.move.aU else a.cq)=a.cq+S (tC a.id) [k]:=by
  rw[pq,xO];unfold tC at h4⊢;by_cases h:iR k/\k.move.aP=a.id
  ·rw[ai h] at h4⊢;rw[ai h];unfold add;rw[ai h4];omega
  ·rw[ag h,ag h];rfl
 have e5:(if kh a.id k then a.ak%8+8 else a.ak)=if S (uk a.id) [k]=0 then a.ak else a.ak%8+8:=by
  rw[pq,xO];unfold uk;by_cases h:kh a.id k
  ·rw[ai h,ai h,ag (by omega)]
  ·rw[ag h,ag h,ai (by omega)]
 unfold vX full;rw[e1,e2,e3,e4,e5]
def CI(a:bC)(l m:List bW):full m (full l a)=full (l++m) a:=by
 unfold full;dsimp only;simp only[Ua,Nat.add_assoc]
 congr 1
 by_cases h1:S (uk a.id) l=0
 ·rw[ai h1];by_cases h2:S (uk a.id) m=0
  ·rw[ai h2,ai (by omega)]
  ·rw[ag h2,ag (by omega)]
 ·rw[ag h1];by_cases h2:S (uk a.id) m=0
  ·rw[ai h2,ag (by omega)]
  ·rw[ag h2,ag (by omega)];omega
def M0(a:bC):∀(l:List bW),a.dp+S (tN a.id) l<bB->a.dq+S (tB a.id) l<bB->a.cp+S (tP a.id) l<bB->a.cq+S (tC a.id) l<bB->l.foldl vX a=full l a:=by
 intro l
 induction l generalizing a with
 |nil=>intros;unfold full;simp[xO]
 |cons k l ih=>
  intro h1 h2 h3 h4;rw[pq] at h1 h2 h3 h4;rw[List.foldl_cons,Qx a k (by omega) (by omega) (by omega) (by omega)];have LX:(full [k] a).id=a.id:=rfl;have:=ih (full [k] a) (by rw[LX];show a.dp+S (tN a.id) [k]+_<_;rw[pq,xO];omega) (by rw[LX];show a.dq+S (tB a.id) [k]+_<_;rw[pq,xO];omega)
   (by rw[LX];show a.cp+S (tP a.id) [k]+_<_;rw[pq,xO];omega) (by rw[LX];show a.cq+S (tC a.id) [k]+_<_;rw[pq,xO];omega)
  rw[this,CI];rfl
end Go.Md
namespace Go.Up
open Go.Sep Go.Den Go.RowKit Go.Prog Go.Md
instance{a b:Value}{n:Nat}:Wr [a,b] 0 (nm n) (nm n):=⟨rfl,aG _,λv h=>by simp[nm] at h;rcases h with rfl|rfl<;>rfl⟩
instance{m n:Nat}:Wr (nm m) 0 (nm n) (nm n):=⟨rfl,aG _,λv h=>by simp[nm] at h;rcases h with rfl|rfl<;>rfl⟩
instance{a b:Value}{k k':IntKind}{x y:Int}:Wr [a,b] 0 [.int k x,.int k' y] [.int k x,.int k' y]:=⟨rfl,aG _,λv h=>by simp at h;rcases h with rfl|rfl<;>rfl⟩
instance{n:Nat}{k k':IntKind}{x y:Int}:Wr (nm n) 0 [.int k x,.int k' y] [.int k x,.int k' y]:=⟨rfl,aG _,λv h=>by simp at h;rcases h with rfl|rfl<;>rfl⟩
section
variable {W:World} {L:LH} {K:VK} {a b n:Nat}
def uT(h:T W L (K (.b (decide (n=0))))):T W L (iA (nm n) K):=by
 unfold iA;apply ws;intros;exact T.dp h
def Zd{x y c:Int}(h1:(0<=x/\0<=y)/\0<=c/\c<=1)(h:T W L (K (.tuple ⟨[.u ((x+y+c)%18446744073709551616),.u ((x+y+c)/18446744073709551616)]⟩))):T W L (qY x y c K):=dD h1 h
def RL{x y c:Int}(h1:(0<=x/\0<=y/\y<18446744073709551616)/\0<=c/\c<=1)(h:T W L (K (.tuple ⟨[.u ((x-y-c)%18446744073709551616),.u (if x<y+c then 1 else 0)]⟩))):T W L (qX x y c K):=dD h1 h
def Q0(h:T W L (K (.i (if a=b then 0 else if a<b then-1 else 1)))):T W L (tR (nm a) (nm b) K):=by
 unfold tR
 repeat' first|apply ws;intros|apply wb|apply dh<;>intro h1
 all_goals (refine T.fin (T.dp h) ?_;simp only[decide_eq_true_eq,decide_eq_false_iff_not,vD,beq_eq_false_iff_ne,ne_eq] at *;congr 1;split<;>(try split)<;>omega)
def Cb(h:T W L (K (.b (decide (a<b))))):T W L (q9 (nm a) (nm b) K):=by
 unfold q9
 repeat' first|apply ws;intros|apply wb|refine Q0 ?_
 refine T.fin (T.dp h) ?_
 congr 1
 simp only[decide_eq_decide];split<;>(try split)<;>omega
def YH(h:T W L (K (.agg ⟨nm (min a b)⟩))):T W L (ye (nm a) (nm b) K):=by
 unfold ye
 repeat' first|apply ws;intros|apply wb|first|refine Cb ?_|apply dh<;>intro h1
 all_goals (refine T.fin (T.dp h) ?_;simp only[decide_eq_true_eq,decide_eq_false_iff_not] at h1;congr 3;omega)
def Sy{x y:Int}(n:Nat)(h1:x=((n/18446744073709551616:Nat):Int))(h2:y=((n%18446744073709551616:Nat):Int)):[Value.int .u64 x,Value.int .u64 y]=nm n:=by rw[h1,h2];rfl
abbrev B6(a b:Nat):Value:=.tuple ⟨[.agg ⟨nm (if a+b<bB then a+b else 0)⟩,.b (decide (a+b<bB))]⟩
abbrev abu(a b:Nat):Value:=.tuple ⟨[.agg ⟨nm (if a<b then 0 else a-b)⟩,.b (decide (b<=a))]⟩
def CW(ha:a<bB)(hb:b<bB)(h:T W L (K (B6 a b))):T W L (pK (nm a) (nm b) K):=by
 unfold bB at ha hb;unfold pK
 repeat' first|apply ws;intros|apply wb|first|refine Zd (by omega) ?_|apply dh<;>intro h1
 all_goals
  refine T.fin (T.dp h) ?_;simp only[fy,ne_eq,bne_eq_false_iff_eq] at h1;unfold B6 bB
 ·rw[ag (by omega),aq (by omega)];rfl
 ·rw[ai (by omega),av (by omega),Sy (a+b) (by omega) (by omega)]
def T6(ha:a<bB)(hb:b<bB)(h:T W L (K (abu a b))):T W L (pJ (nm a) (nm b) K):=by
 unfold bB at ha hb;unfold pJ
 repeat' first|apply ws;intros|apply wb|first|refine Cb ?_|refine RL (by omega) ?_|refine RL (by split<;>omega) ?_|apply dh<;>intro h1
 all_goals
  refine T.fin (T.dp h) ?_;simp only[decide_eq_true_eq,decide_eq_false_iff_not] at h1;unfold abu
 ·rw[ai h1,aq (by omega)];rfl
 ·rw[ag h1,av (by omega),Sy (a-b) (by split<;>omega) (by omega)]
end
end Go.Up
namespace Go.Sep
open Go.Den Go.RowKit Go.Prog Go.cD
def Sn{s:BA}(h:s.size<=128):(aX.pad s).size=128:=by
 unfold aX.pad;rw[ByteArray.size_append,uz];omega
def ZH(n:Int):(aX.new n).Ok:=by
 have hn:0<=min2 (max2 n 0) 4096/\min2 (max2 n 0) 4096<=4096:=by unfold min2 max2;split<;>split<;>omega
 refine⟨λs hs=>?_,λp hp=>?_,?_,?_⟩
 ·simp only[aX.new,List.mem_replicate] at hs;rw[hs.2];exact uz 128
 ·simp[aX.new] at hp
 ·simp only[aX.new,mO];omega
 ·simp[aX.new]
def od(D:aX)(mask torn cut:Int):D.fI mask torn cut=⟨eP mask torn (min2 (max2 cut 0) 128) D.safe D.later D.later.length,[],D.ops,0⟩:=by
 unfold aX.fI;have:=xt mask torn (min2 (max2 cut 0) 128) D.later D.safe D.later.length 0 (by omega);simp only[iQ,eP] at this;rw[this]
def sn(D:aX)(i:Int)(s:BA):(D.write i s).1.safe=D.safe/\(D.write i s).1.later.length<=D.later.length+1:=by
 unfold aX.write;split
 ·exact⟨rfl,by simp⟩
 ·split
  ·exact⟨rfl,by simp[aX.tick]⟩
  ·exact⟨rfl,by simp⟩
def Jr{D:aX}(h:D.Ok)(i:Int)(s:BA)(hl:D.later.length+1<1099511627776):(D.write i s).1.Ok:=by
 have h2:=sn D i s;refine⟨by rw[h2.1];exact h.safe,?_,by rw[h2.1];exact h.ou,by omega⟩;rw[h2.1];unfold aX.write;split
 ·exact h.later
 ·rename_i hg;split
  ·exact h.later
  ·intro p hp;simp only[dF,Cd] at hp;rcases hp with hp|hp
   ·exact h.later p hp
   ·subst hp;have LY:D.is i:=by
     by_cases hh:D.is i
     ·exact hh
     ·exact aT (.inl hh) hg
    have KL: ¬128<s.size:=λhh=>hg (.inr hh);exact⟨Sn (by omega),LY.1,LY.2⟩
def K9{mask torn c:Int}(hc:0<=c/\c<=128){safe:List BA}{k:Nat}{p:Int×BA}(hs:∀s∈safe,s.size=128)(hp:p.2.size=128/\0<=p.1/\p.1<safe.length):
 ∀s∈aX.ni mask torn c safe k p,s.size=128:=by
 intro s hm;have A0:p.1.toNat<safe.length:=by omega
 unfold aX.ni at hm;split at hm
 ·rcases eY hm with hm|hm
  ·exact hs s hm
  ·rw[hm];have:=hs _ (bR A0);rw[jy,aj A0,dx,ByteArray.size_append,s7,s7,this,hp.1];omega
 ·split at hm
  ·rcases eY hm with hm|hm
   ·exact hs s hm
   ·rw[hm];exact hp.1
  ·exact hs s hm
def yF{mask torn c:Int}(hc:0<=c/\c<=128){safe:List BA}{later:List (Int×BA)}(hs:∀s∈safe,s.size=128)(hp:∀p∈later,p.2.size=128/\0<=p.1/\p.1<safe.length):
 ∀j,∀s∈eP mask torn c safe later j,s.size=128
 |0=>hs
 |j+1=>by
  simp only[eP];cases hl:later[j]? with
  |none=>exact yF hc hs hp j
  |some p=>
   refine K9 hc (yF hc hs hp j) ?_;rw[jf];exact hp p (cb hl)
def Tz(cut:Int):0<=min2 (max2 cut 0) 128/\min2 (max2 cut 0) 128<=128:=by unfold min2 max2;split<;>split<;>omega
def A8{D:aX}(h:D.Ok)(mask torn cut:Int):(D.fI mask torn cut).Ok:=by
 rw[od];refine⟨yF (Tz cut) h.safe h.later _,λp hp=>by simp at hp,by simp only[jf];exact h.ou,by simp⟩
def Gv{later:List (Int×BA)}:∀{safe:List BA},(∀s∈safe,s.size=128)->(∀p∈later,p.2.size=128)->∀s∈later.foldl aX.put safe,s.size=128:=by
 induction later with
 |nil=>exact λhs _=>hs
 |cons p l ih=>
  intro safe hs hp;rw[List.foldl_cons];refine ih (λs hm=>?_) (λq hq=>hp q (gW _ hq));rcases eY hm with hm|hm
  ·exact hs s hm
  ·rw[hm];exact hp p (pv)
def Ia{D:aX}(h:D.Ok):D.sync.1.Ok:=by
 unfold aX.sync;split
 ·exact⟨h.safe,h.later,h.ou,h.less⟩
 ·refine⟨Gv h.safe λp hp=>(h.later p hp).1,λp hp=>by simp at hp,?_,by simp⟩;show(D.later.foldl aX.put D.safe).length<=4096;rw[oa];exact h.ou
def yP{D:aX}(h:D.later=[]){i:Nat}(hi:i<D.safe.length):D.read (i:Int)=(D.safe[i],0):=by
 unfold aX.read;rw[ai ⟨by omega,by omega⟩];simp[aX.now,aX.last,h,hi]
section
variable {W w:World} {L:LH}
end
end Go.Sep
namespace Go.Sep
open Go.Den Go.RowKit Go.ChangeShapes Go.WideShapes
inductive CK where
 |i(k:IntKind)
 |b
 |s
deriving DecidableEq
def CK.is:CK->Value->Prop
 | .i k,v=>∃n,v=.int k n/\(Lit.int k n).wf=true
 | .b,v=>∃x,v=.bool x
 | .s,v=>∃x,v=.string x/\x.size<=reachBytes
def Typed(ks:List CK)(cs:LV)(o:Nat):Prop:=∀j k,ks[j]?=some k->∃v,cs[o+j]?=some v/\k.is v
def sx(P:Program)(f:TypeId->Option (List CK)):Nat->List Field->Option (List CK)
 |_,[]=>some []
 |o,fd::r=>match f fd.type with
  |some a=>if fd.offset=o/\P.cellsOf fd.type=a.length then(sx P f (o+a.length) r).map (a++·) else none
  |none=>none
def flat(P:Program):Nat->TypeId->Option (List CK)
 |0,_=>none
 |n+1,t=>match P.underlying t with
  |some (.int k)=>some [.i k]
  |some .bool=>some [.b]
  |some .string=>some [.s]
  |some (.struct fs)=>sx P (flat P n) 0 fs.toList
  |_=>none
section
variable {H:Type} {enc:TypeId×Value->H} {P:Program} {w:World} {base:Nat} {spare:Nat->Bool} {held:Bool}
def A5{f:TypeId->Option (List CK)}{m:Nat}{cs:LV}
 (hf:∀t ks cs x,f t=some ks->DataW.trod enc P w base spare held m t cs=some x->(∀n∈x.1.weights P t,n<=reachBytes)->Typed ks cs 0):
 ∀(fs:List Field)(o:Nat)(ks:List CK)(xs:List (DataW H×List MemPlace)),sx P f o fs=some ks->
  (∀(i:Nat)(fd:Field),fs[i]?=some fd->DataW.trod enc P w base spare held m fd.type ((cs.drop fd.offset).take (P.cellsOf fd.type))=xs[i]?)->xs.length=fs.length->
  (∀n∈DataW.weightsEach P (fs.map (·.type)) (xs.map (·.1)),n<=reachBytes)->Typed ks cs o
 |[],o,ks,xs,h,_,_,_=>by
  simp only[sx,bE.injEq] at h;subst h;intro j k hj;simp at hj
 |fd::r,o,ks,[],h,hx,hl,hw=>by simp at hl
 |fd::r,o,ks,x::xs,h,hx,hl,hw=>by
  simp only[sx] at h;cases ha:f fd.type with
  |none=>simp[ha] at h
  |some a=>
   simp only[ha] at h;split at h
   ·rename_i hc;cases hb:sx P f (o+a.length) r with
    |none=>simp[hb] at h
    |some b=>
     simp only[hb,eW,bE.injEq] at h;subst h;simp only[cN,DataW.weightsEach,dF] at hw;have h1:=hf fd.type a _ x ha (by have:=hx 0 fd rfl;simpa using this) (λn hn=>hw n (.inl hn));have h2:=A5 hf r (o+a.length) b xs hb (λi g hg=>by have:=hx (i+1) g (by simpa using hg);simpa using this) (by simpa using hl) (λn hn=>hw n (.inr hn));intro j k hj;by_cases hja:j<a.length
     ·rw[dB hja] at hj;obtain⟨v,hv,hk⟩:=h1 j k hj;refine⟨v,?_,hk⟩;rw[hc.1,hc.2,aC,List.getElem?_take_of_lt hja,rW] at hv;exact hv
     ·rw[iz (by omega)] at hj;obtain⟨v,hv,hk⟩:=h2 (j-a.length) k hj;refine⟨v,?_,hk⟩;rw[show o+j=o+a.length+(j-a.length) from by omega];exact hv
   ·cases h
def E':∀(f:Nat)(m:Nat)(t:TypeId)(ks:List CK)(cs:LV)(x:DataW H×List MemPlace),flat P f t=some ks->DataW.trod enc P w base spare held m t cs=some x->
 (∀n∈x.1.weights P t,n<=reachBytes)->Typed ks cs 0
 |0,_,_,_,_,_,h,_,_=>by simp[flat] at h
 |f+1,m,t,ks,cs,x,h,hx,hw=>by
  unfold flat at h;split at h
  ·rename_i k ht;cases h
   obtain⟨n,rfl,rfl,hwf⟩:=DataW.trod_int ht hx;intro j k' hj;cases j with
   |zero=>simp at hj;subst hj;exact⟨_,rfl,n,rfl,hwf⟩
   |succ j=>simp at hj
  ·rename_i ht;cases h
   obtain⟨n,rfl,rfl⟩:=DataW.trod_bool ht hx;intro j k' hj;cases j with
   |zero=>simp at hj;subst hj;exact⟨_,rfl,n,rfl⟩
   |succ j=>simp at hj
  ·rename_i ht;cases h
   obtain⟨n,rfl,rfl,_⟩:=DataW.trod_string ht hx;intro j k' hj;cases j with
   |zero=>simp at hj;subst hj;exact⟨_,rfl,n,rfl,by have:=hw n.data.toList.length (by simp[DataW.weights]);simpa using this⟩
   |succ j=>simp at hj
  ·rename_i fs ht;obtain⟨xs,n,rfl,rfl,hl,hlen,hf⟩:=DataW.trod_struct ht hx;refine A5 (m:=n) (λt ks cs x h1 h2 h3=>E' f n t ks cs x h1 h2 h3) fs.toList 0 ks xs h (λi fd hi=>hf i fd (by simpa using hi)) (by simpa using hlen) (λn hn=>hw n ?_);simp only[DataW.weights,ht];exact hn
  ·cases h
def Uo(ks:List CK)(n:Nat)(xs:LV):Prop:=∀i,i<n->Typed ks xs (i* ks.length)
def yf{e:TypeId}:∀{ds:List (DataW H)} {d:DataW H},d∈ds->∀n∈d.weights P e,n∈DataW.weightsAll P e ds
 |[],d,h,_,_=>by simp at h
 |d0::ds,d,h,n,hn=>by
  simp only[DataW.weightsAll,dF];rcases jB.1 h with h|h
  ·subst h;exact .inl hn
  ·exact .inr (yf h n hn)
def MB{t e:TypeId}{f:Nat}{ks:List CK}{v:Value}{r:Reach}{b0:Nat}{d:DataW H}{ps:List MemPlace}(ht:P.underlying t=some (.slice e))(he:flat P f e=some ks)(hc:P.cellsOf e=ks.length)
 (Gn:Value.okWide P w r b0 t v)(hd:DataW.Trod enc P w base spare held t v d ps)(hw:∀n∈d.weights P t,n<=reachBytes):
 ∃b n c xs,v=.slice b n c/\Ro w b n ks.length xs/\Uo ks n xs/\n* P.bytesOf e<=reachBytes/\n<=maxLen:=by
 obtain⟨b,n,c,rfl⟩:=okWide_slice ht Gn;obtain⟨m,hm⟩:=hd;rcases Go.Deep.open_slice ht hm with⟨LZ,hx⟩|⟨a,len,cap,k,n',D,Pl,LZ,hb,hl,hmx,hk,hx,zw⟩
 ·simp[Value.cells] at LZ;obtain⟨rfl,rfl,rfl⟩:=LZ;refine⟨none,0,0,[],rfl,⟨by simp,λ_=>rfl,λa h=>by cases h⟩,λi h=>by omega,by simp,by decide⟩
 ·simp[Value.cells] at LZ;obtain⟨rfl,rfl,rfl⟩:=LZ;obtain⟨hx,_⟩:=Prod.mk.inj hx;subst hx;have hlk:n<=k:=by rw[hk];split<;>omega
  simp only[DataW.weights,ht] at hw;have pG:∀i,i<n->∀j,j<ks.length->∃v,w.cell? (a.add (i* ks.length+j))=some v:=λi hi j hj=>by
   obtain⟨vR,h1,h2⟩:=zw i (by omega);obtain⟨_,h3,h4⟩:=World.cells?_some h1;rw[hc] at h3 h4;refine⟨vR[j],?_⟩;rw[<-add_add,h4 j hj];simp[h3,hj]
  have A1:∀j,j<n* ks.length->∃v,w.cell? (a.add j)=some v:=λj hj=>by
   have KC:0<ks.length:=by
    cases hks:ks.length with
    |zero=>rw[hks] at hj;omega
    |succ x=>omega
   have h1:j/ks.length<n:=by rw[Nat.div_lt_iff_lt_mul KC];exact hj
   have h2:j%ks.length<ks.length:=Nat.mod_lt _ KC;obtain⟨v,hv⟩:=pG _ h1 _ h2;refine⟨v,?_⟩;rw[<-hv];congr 2;have:=Nat.div_add_mod j ks.length;rw[vB] at this;omega
  refine⟨some a,n,c,(pr (n* ks.length)).map λj=>(w.cell? (a.add j)).getD (.bool false),rfl,⟨by simp,λh=>(by cases h),λa' ha' j v hv=>?_⟩,λi hi j k' Al=>?_,?_,by omega⟩
  ·cases ha'
   rw[eK,Option.map_eq_some_iff] at hv;obtain⟨j',LU,rfl⟩:=hv;obtain⟨cf,rfl⟩:=aw.1 LU;simp only[List.length_range] at cf;simp only[List.getElem_range];obtain⟨v,hv⟩:=A1 j cf;rw[hv];rfl
  ·obtain⟨vR,h1,h2⟩:=zw i (by omega);obtain⟨_,h3,h4⟩:=World.cells?_some h1;rw[hc] at h3 h4;have hj:j<ks.length:=(aw.1 Al).1;have h5:=E' f n' e ks vR (D i,Pl i) he h2 (λx hx=>hw x (by
    simp only[jB,dF]
    refine .inr (.inl (yf ?_ x hx))
    exact cw.2 ⟨i,List.mem_range.2 hi,rfl⟩))
   obtain⟨v,hv,hkv⟩:=h5 j k' Al;refine⟨v,?_,hkv⟩;have cf:i* ks.length+j<n* ks.length:=by
    have:(i+1)* ks.length<=n* ks.length:=ie _ hi;rw[lO] at this;omega
   rw[eK,qO cf,eW,<-add_add,hc] at *;rw[aC] at hv;rw[h4 j hj,hv];rfl
  ·have:=hw _ (pv);simp only[bP,List.length_range] at this;exact y9 (ie _ (by omega)) this
end
end Go.Sep
namespace Go.Sep
open Go.Den Go.RowKit Go.Prog Go.cD
def iC{z ys:LV}(h:ys.length=z.length):over z 0 ys=ys:=by
 unfold over;rw[nG,de,aC,ga (by omega),bI]
section
variable {W w:World} {L:LH} {b:OA} {n e:Nat} {xs:LV}
end
section
variable {W w:World} {L:LH}
end
namespace Dk
variable {D:Go.cD.aX}
open Go.cD.aX (last put pad)
def Tk(h:D.arm=0):D.vh=false:=by simp[Go.cD.aX.vh,h]
def XN(h:D.arm=0):D.tick.arm=0:=by simp[Go.cD.aX.tick,h]
def HV(h:D.arm=0)(i:Int)(s:BA):D.write i s=if ¬D.is i\/128<s.size then(D,1) else({Go.cD.aX.tick D with later:=D.later++[(i,pad s)]},0):=by
 unfold Go.cD.aX.write;rw[Tk h];rfl
def DP(h:D.arm=0)(i:Int)(s:BA):(D.write i s).1.arm=0:=by
 rw[HV h];split
 ·exact h
 ·exact XN h
def NU(h:D.arm=0):D.sync=({D.tick with safe:=D.later.foldl put D.safe,later:=[]},0):=by
 unfold Go.cD.aX.sync;rw[Tk h];rfl
def tf(l:List (Int×BA))(p:Int×BA)(i:Int):last (l++[p]) i=if p.1=i then some p.2 else last l i:=by
 unfold last;rw[List.reverse_append];simp only[xC,List.reverse_nil,de,List.singleton_append,List.find?_cons];by_cases h:p.1=i
 ·simp[h]
 ·have:(p.1==i)=false:=by simp[h]
  rw[this,ag h]
def EM(h:D.arm=0)(n i:Int)(s:BA):(D.write n s).1.now i=if(D.is n/\s.size<=128)/\n=i then pad s else D.now i:=by
 rw[HV h];by_cases hw: ¬D.is n\/128<s.size
 ·rw[ai hw,ag];rintro⟨⟨h1,h2⟩,_⟩;rcases hw with hw|hw
  ·exact hw h1
  ·omega
 ·rw[ag hw];have h1:D.is n:=by
   by_cases hh:D.is n
   ·exact hh
   ·exact aT (.inl hh) hw
  have h2:s.size<=128:=by
   by_cases hh:s.size<=128
   ·exact hh
   ·exact aT (.inr (by omega)) hw
  simp only[Go.cD.aX.now,Go.cD.aX.tick,tf];by_cases hni:n=i
  ·rw[ai hni,ai ⟨⟨h1,h2⟩,hni⟩];rfl
  ·rw[ag hni,ag (λhh=>hni hh.2)]
def yV(l:List (Int×BA))(p:Int×BA)(i:Int):last (p::l) i=(last l i).or (if p.1=i then some p.2 else none):=by
 unfold last;rw[xC,List.find?_append];by_cases h:p.1=i
 ·cases List.find? (λp=>p.1==i) l.reverse<;>simp[h]
 ·have:(p.1==i)=false:=by simp[h]
  cases List.find? (λp=>p.1==i) l.reverse<;>simp[h,this]
def zy{i:Int}(hi:0<=i):∀(l:List (Int×BA))(safe:List BA),i<safe.length->(∀p∈l,0<=p.1)->(l.foldl put safe).getD i.toNat .empty=(last l i).getD (safe.getD i.toNat .empty):=by
 intro l
 induction l with
 |nil=>intro safe _ _;rfl
 |cons p l ih=>
  intro safe hs hp;rw[List.foldl_cons,yV,ih _ (by simp[put];exact hs) (λq hq=>hp q (gW _ hq))];have hp0:=hp p (by simp);have hlen:i.toNat<safe.length:=by omega
  have e:(put safe p).getD i.toNat .empty=if p.1=i then p.2 else safe.getD i.toNat .empty:=by
   unfold put;by_cases LO:p.1=i
   ·rw[ai LO,LO,jy,List.getElem?_set_self hlen];rfl
   ·rw[ag LO,jy,NH (by omega),<-jy]
  rw[e];cases last l i with
  |some x=>rfl
  |none=>by_cases LO:p.1=i<;>simp[LO]
def P6(h:D.arm=0)(ix:D.Ok){i:Int}(hi:D.is i):D.sync.1.now i=D.now i:=by
 rw[NU h];have:=zy hi.1 D.later D.safe hi.2 (λp hp=>(ix.later p hp).2.1);simp only[Go.cD.aX.now,last,List.reverse_nil,List.find?_nil,Option.map_none,gw];exact this
def JM:D.sync.1.safe.length=D.safe.length/\D.sync.1.later.length<=D.later.length:=by
 unfold Go.cD.aX.sync;split
 ·exact⟨rfl,aG _⟩
 ·exact⟨oa _ _,aE _⟩
def Pq(h:D.arm=0):D.sync.1.arm=0:=by rw[NU h];exact XN h
end Dk
end Go.Sep
namespace Go.Sep
open Go.Den Go.RowKit Go.Prog Go.cD
def bs(l:List UInt8):BA:=⟨l.toArray⟩
def bY(l:List UInt8):(bs l).size=l.length:=rfl
def O6(s:BA):bs s.data.toList=s:=rfl
def u4(x:UInt8):Value:=.int .u8 (x.toNat:Int)
def byteOf(k:IntKind)(n:Int)(i:Nat):UInt8:=UInt8.ofNat (IntKind.u8.wrap (shr k n (8* (i:Int)))).toNat
def le(k:IntKind)(w:Nat)(n:Int):List UInt8:=(pr w).map (byteOf k n)
def aO(k:IntKind)(w:Nat)(n:Int):(le k w n).length=w:=by simp[le]
def wK(n:Int):0<=IntKind.u8.wrap n/\IntKind.u8.wrap n<256:=by
 simp[IntKind.wrap,IntKind.bits,IntKind.signed];omega
def ue{n:Int}(h:0<=n/\n<256):u4 (UInt8.ofNat n.toNat)=.int .u8 n:=by
 unfold u4
 congr 1
 have:n.toNat<256:=by omega
 rw[UInt8.toNat_ofNat_of_lt' (by exact this)];omega
def CQ(l:List UInt8):bytesOf (l.map u4)=l:=by
 unfold bytesOf;rw[oU]
 conv=>rhs;rw[<-List.map_id l]
 refine dS λx _=>?_;simp[u4]
def strCells_eq(s:BA):strCells s=s.data.toList.map u4:=rfl
def buf(p:Nat)(l:List UInt8):HP:=Ra λ(v:OA×Nat)=>sep (pt p [.l v.1 l.length v.2]) (own v.1 l.length v.2 1 (l.map u4))
section
variable {W w:World} {L:LH} {k p:Nat} {l:List UInt8}
def Fw(h:St W w L)(hk:L[k]?=some (buf p l)):∃b c,St W w (pt p [.l b l.length c]::own b l.length c 1 (l.map u4)::L.eraseIdx k):=by
 obtain⟨⟨b,c⟩,h1⟩:=(h.focus hk).ex;exact⟨b,c,h1.split⟩
def uq{b:OA}{c n:Nat}{A:HP}(hk:L[k]?=some A)(hn:n=l.length)(h:St W w (pt p [.l b n c]::own b n c 1 (l.map u4)::L.eraseIdx k)):St W w (L.set k (buf p l)):=by
 subst hn;refine St.rA (A:=A) ?_ hk;exact St.qB (b,c) (St.join h)
def Xh{b:OA}{n c:Nat}{K:BA->WK}(h:St W w L)(hk:L[k]?=some (own b n c 1 (l.map u4)))(hK:K (bs l) w):TT b n K w:=by
 have hl:=(h.nY hk).1;rw[bP,lN] at hl;have zS:=Pe h hk;refine⟨λhb=>?_,λa ha=>⟨l.map u4,by rw[bP];exact hl,zS.1.2 a ha,λv hv=>?_,?_⟩⟩
 ·have:n=0:=zS.2 hb;have Q6:l=[]:=List.length_eq_zero_iff.1 (by omega);subst Q6;exact hK
 ·obtain⟨x,_,rfl⟩:=cw.1 hv;exact⟨_,rfl⟩
 ·rw[CQ];exact hK
def Np{r n:Nat}{K:BA->WK}(h:St W w L)(hk:L[k]?=some (pt r (l.map u4)))(hn:n=l.length)(hK:K (bs l) w):TT (ah r) n K w:=by
 refine⟨λhb=>(by cases hb),λa ha=>⟨l.map u4,by rw[bP,hn],?_,λv hv=>?_,?_⟩⟩
 ·cases ha
  exact wA h hk λj v hj=>by rw[aC];exact hj
 ·obtain⟨x,_,rfl⟩:=cw.1 hv;exact⟨_,rfl⟩
 ·rw[CQ];exact hK
def jZ{m n:Int}{K:VK}(h:St W w L)(hk:L[k]?=some (buf p l))(hl:l.length<1099511627776)
 (hK:∀w',St W w' (L.set k (buf p (l++le .i64 (min2 (max2 m 1) 8).toNat n)))->K (.tuple ⟨[]⟩) w'):bl (ah p) m n K w:=by
 have hm:1<=min2 (max2 m 1) 8/\min2 (max2 m 1) 8<=8:=by unfold min2 max2;split<;>split<;>omega
 unfold bl;generalize min2 (max2 m 1) 8=q at *;obtain⟨b,c,hs⟩:=Fw h hk;refine⟨λus w'=>∃(j:Nat)(b:OA)(c:Nat),us=[.i q,.i j]/\(j:Int)<=q/\St W w' (pt p [.l b (l++le .i64 j n).length c]::own b (l++le .i64 j n).length c 1 ((l++le .i64 j n).map u4)::L.eraseIdx k),
  λus _=>match us with|[_,.int _ j]=>(q-j).toNat|_=>0,⟨0,b,c,rfl,by omega,?_⟩,?_⟩
 ·have e:l++le .i64 0 n=l:=by simp[le]
  rw[e];exact hs
 rintro n3 n4 w2 ⟨j,b,c,he,hj,hs⟩;cases he
 refine fJ (λh0=>?_) (λh0=>?_)
 ·refine lX hs λw hs=>?_;simp only[nz,ae,af];refine cT (k:=0) hs rfl rfl ?_;simp only[nz,ae,af];have e8:aa.wrap (8* (j:Int))=8* (j:Int):=aW (by omega);rw[e8];refine⟨by omega,?_⟩;have hb8:Value.int .u8 (IntKind.u8.wrap (shr .i64 n (8* (j:Int))))=u4 (byteOf .i64 n j):=by
   unfold byteOf;rw[ue (wK _)]
  rw[hb8];refine iS hs λr w hs=>?_;refine ka (k:=1) hs rfl rfl ?_;have hlen:(l++le .i64 j n).length=l.length+j:=by rw[au,aO]
  refine uv (k:=2) (ys:=[u4 (byteOf .i64 n j)]) hs rfl (FH (k':=0) hs rfl rfl λj v hj=>by rw[aC];exact hj) (by simp) rfl (by omega) (by omega) (by simp[Value.oneCell',u4]) λb' c' w hs=>?_;simp only[nz,ae,af] at hs⊢;refine oz (k:=1) hs rfl (aJ rfl) rfl λw hs=>?_;simp only[nz,ae,af] at hs;have e5:=nL j;rw[e5];refine⟨⟨j+1,b',c',rfl,by omega,?_⟩,by omega⟩;have e6:l++le .i64 (j+1) n=(l++le .i64 j n)++[byteOf .i64 n j]:=by
   unfold le;rw[List.range_succ,cR,aH];rfl
  rw[e6,au,cR];exact hs.drop
 ·have IH:(j:Int)=q:=by omega
  refine hK _ ?_;have:q.toNat=j:=by omega
  rw[this];exact uq hk rfl hs
def qN{s:BA}{K:VK}(h:St W w L)(hk:L[k]?=some (buf p l))(hl:l.length+s.size<1099511627776)
 (hK:∀w',St W w' (L.set k (buf p (l++s.data.toList)))->K (.tuple ⟨[]⟩) w'):lv (ah p) s K w:=by
 unfold lv;obtain⟨b,c,hs⟩:=Fw h hk;simp only[nz,ae,af];refine cT (k:=0) hs rfl rfl ?_;simp only[nz,ae,af];refine FA (k:=1) hs rfl (by omega) λb' c' w hs=>?_;simp only[nz,ae,af] at hs⊢;refine oz (k:=0) hs rfl (aJ rfl) rfl λw hs=>?_;simp only[nz,ae,af] at hs;refine hK w (uq (b:=b') (c:=c') (n:=l.length+s.size) hk (by rw[au];rfl) ?_);rw[cR,<-strCells_eq];exact hs
def mF{K:VK}(h:St W w L)(hk:L[k]?=some (buf p l))(hK:K (.s (bs l)) w):dz (ah p) K w:=by
 unfold dz;obtain⟨b,c,hs⟩:=Fw h hk;simp only[nz,ae,af];refine cT (k:=0) hs rfl rfl ?_;simp only[nz,ae,af];exact Xh (k:=1) hs rfl hK
def TB(n:Int):Nat->Int
 |0=>n
 |j+1=>db .u32 .xor (shr .u32 (TB n j) 1) (db .u32 .and 2197175160 (IntKind.u32.wrap (0-(db .u32 .and (TB n j) 1))))
def W3(n:Int)(c:UInt8):Int:=TB (db .u32 .xor n (IntKind.u32.wrap (c.toNat:Int))) 8
def TA(n:Int)(l:List UInt8):Int:=l.foldl W3 n
def sY(n:Int)(l:List UInt8):Int:=db .u32 .xor 4294967295 (TA (db .u32 .xor 4294967295 n) l)
def isW(w w':World):Prop:=w'=w
def LC{n:Int}{s:BA}{K:VK}(hs:s.size<1099511627776)(hK:K (.int .u32 (sY n s.data.toList)) w):uO n s K w:=by
 unfold uO;refine⟨λus w'=>∃j:Nat,us=[.int .u32 0,.int .u32 (TA (db .u32 .xor 4294967295 n) (s.data.toList.take j)),.i s.size,.i j]/\j<=s.size/\isW w w',
  λus _=>match us with|[_,_,_,.int _ j]=>s.size-j.toNat|_=>0,⟨0,rfl,aE _,rfl⟩,?_⟩
 rintro n2 n3 n4 n5 w2 ⟨j,he,hj,hw⟩;obtain rfl:w2=w:=hw;cases he
 have hlen:s.data.toList.length=s.size:=rfl;generalize hb:decide ((j:Int)<(s.size:Int))=b;cases b
 ·have iM:=bj hb;rw[dY];have:j=s.size:=by omega
  subst this;rw[bM (by omega)];exact hK
 ·have cf:=aQ hb;rw[kG];have SX:j<s.data.toList.length:=by omega
  refine⟨s.data.toList[j],⟨by omega,by simp[SX]⟩,?_⟩;generalize hc:s.data.toList[j]=c;generalize hx:TA (db .u32 .xor 4294967295 n) (s.data.toList.take j)=x;refine⟨λus w'=>∃i:Nat,us=[.int .u32 0,.int .u32 (TB (db .u32 .xor x (IntKind.u32.wrap (c.toNat:Int))) i),.i j,.i s.size,.i j,.b true,.i j,.int .u32 x,.s s,.i j,.int .u8 (c.toNat:Int),.int .u32 (IntKind.u32.wrap (c.toNat:Int)),.int .u32 (db .u32 .xor x (IntKind.u32.wrap (c.toNat:Int))),.i i]/\i<=8/\isW w2 w',
   λus _=>match us with|[_,_,_,_,_,_,_,_,_,_,_,_,_,.int _ i]=>8-i.toNat|_=>0,⟨0,rfl,aE _,rfl⟩,?_⟩
  rintro n6 n7 n8 n9 X4 b1 VU VT s2 VR VQ n15 zn n17 w4 ⟨i,he,hi,hw⟩;obtain rfl:w4=w2:=hw;cases he
  generalize wm:decide ((i:Int)<8)=b2;cases b2
  ·have iM:=bj wm;rw[dY];have hi8:i=8:=by omega
   subst hi8;have e5:=nL j;rw[e5];refine⟨⟨j+1,?_,by omega,rfl⟩,by dsimp only;omega⟩;have e6:TA (db .u32 .xor 4294967295 n) (s.data.toList.take (j+1))=TB (db .u32 .xor x (IntKind.u32.wrap (c.toNat:Int))) 8:=by
    rw[qi SX];unfold TA at hx⊢;rw[List.foldl_append,hx,hc];rfl
   rw[e6]
  ·have xh:=aQ wm;rw[kG];refine⟨by decide,?_⟩;have e5:=nL i;rw[e5];exact⟨⟨i+1,rfl,by omega,rfl⟩,by dsimp only;omega⟩
def vL(n:Int):List UInt8:=le .u32 4 n
def yI{n:Int}{K:VK}(h:St W w L)(hn:0<=n/\n<4294967296)(hK:∀w',St W w' L->K (.s (bs (vL n))) w'):rQ n K w:=by
 unfold rQ;refine⟨by decide,by decide,by decide,⟨rfl,rfl,rfl,rfl,trivial⟩,iS h λr w hs=>?_⟩;have e0:Value.int .u8 (IntKind.u8.wrap n)=u4 (byteOf .u32 n 0):=by
  unfold byteOf;rw[ue (wK _)];have:shr .u32 n (8* ((0:Nat):Int))=n:=by simp[shr]
  rw[this]
 have e:∀i:Nat,Value.int .u8 (IntKind.u8.wrap (shr .u32 n (8* (i:Int))))=u4 (byteOf .u32 n i):=λi=>by
  unfold byteOf;rw[ue (wK _)]
 have e1:=e 1;have e2:=e 2;have e3:=e 3;have zw:[Value.int .u8 (IntKind.u8.wrap n),.int .u8 (IntKind.u8.wrap (shr .u32 n 8)),.int .u8 (IntKind.u8.wrap (shr .u32 n 16)),.int .u8 (IntKind.u8.wrap (shr .u32 n 24))]=(vL n).map u4:=by
  rw[e0,show(8:Int)=8* ((1:Nat):Int) from rfl,show(16:Int)=8* ((2:Nat):Int) from rfl,show(24:Int)=8* ((3:Nat):Int) from rfl,e1,e2,e3]
  rfl
 rw[zw] at hs;exact Np (k:=0) hs rfl rfl (hK w hs.drop)
end
def fk(n i:Int)(s:BA):Prop:=1<=n/\n<=1152921504606846976/\0<=i/\i<4096/\s.size<=104
instance(n i:Int)(s:BA):Decidable (fk n i s):=by unfold fk;infer_instance
def pre(n i:Int)(s:BA):List UInt8:=le .i64 8 n++le .i64 2 i++le .i64 2 s.size++s.data.toList++bn (104-s.size) 0
def ml(n i:Int)(s:BA):List UInt8:=pre n i s++vL (sY 0 (pre n i s))++le .i64 8 n
def leaf(n i:Int)(s:BA):BA:=if fk n i s then bs (ml n i s) else .empty
def qS{n i:Int}{s:BA}(h:s.size<=104):(pre n i s).length=116:=by
 have:s.data.toList.length=s.size:=rfl;simp only[pre,au,aO,mO];omega
def wY{n i:Int}{s:BA}(h:s.size<=104):(ml n i s).length=128:=by
 simp only[ml,au,aO,qS h,vL]
def ui{n i:Int}{s:BA}(h:fk n i s):(leaf n i s).size=128:=by
 unfold leaf;rw[ai h,bY,wY h.2.2.2.2]
def Cf(n:Int):0<=IntKind.u32.wrap n/\IntKind.u32.wrap n<4294967296:=by
 simp[IntKind.wrap,IntKind.bits,IntKind.signed];omega
section
variable {W w:World} {L:LH} {k d:Nat} {D:aX}
def Hw{n i:Int}{s:BA}{K:VK}(h:St W w L)(hK:∀w',St W w' L->K (.b (decide (fk n i s))) w'):uC [.i n,.i i,.s s] K w:=by
 unfold uC;refine iS h λr w hs=>?_;have hh:=hK w hs.drop;simp only[nz,ae,af];refine cT (k:=0) hs rfl rfl ?_;simp only[nz,ae,af];refine fJ (λh1=>?_) (λh1=>?_)
 ·refine cT (k:=0) hs rfl rfl ?_;simp only[nz,ae,af];refine fJ (λh2=>?_) (λh2=>?_)
  ·refine cT (k:=0) hs rfl rfl ?_;simp only[nz,ae,af];refine fJ (λh3=>?_) (λh3=>?_)
   ·refine cT (k:=0) hs rfl rfl ?_;simp only[nz,ae,af];refine fJ (λh4=>?_) (λh4=>?_)
    ·refine cT (k:=0) hs rfl rfl ?_;simp only[nz,ae,af];have:decide ((s.size:Int)<=104)=decide (fk n i s):=by
      rw[decide_eq_decide];unfold fk;omega
     rw[this];exact hh
    ·have:decide (fk n i s)=false:=aq (by unfold fk;omega);rw[this] at hh;exact hh
   ·have:decide (fk n i s)=false:=aq (by unfold fk;omega);rw[this] at hh;exact hh
  ·have:decide (fk n i s)=false:=aq (by unfold fk;omega);rw[this] at hh;exact hh
 ·have:decide (fk n i s)=false:=aq (by unfold fk;omega);rw[this] at hh;exact hh
def ND{n i:Int}{s:BA}{K:VK}(h:St W w L)(hK:∀w',St W w' L->K (.tuple ⟨[.s (leaf n i s),.i (if fk n i s then 0 else 1)]⟩) w'):
 ra [.i n,.i i,.s s] K w:=by
 unfold ra;refine iS h λr w hs=>?_;refine jQ (k:=0) (xs:=[.i n,.i i,.s s]) hs rfl rfl (λj v hj=>by rw[aC];exact hj) ?_;refine Hw hs λw hs=>?_;simp only[nz,ae,af];by_cases hg:fk n i s
 ·have se:=hg.2.2.2.2;have e0:decide (fk n i s)=true:=av hg;unfold leaf at hK;rw[ai hg,ai hg] at hK;rw[e0];simp only[nz,ae,af];refine iS hs λp w hs=>?_;have hs:St W w (buf p []::pt r [.i n,.i i,.s s]::L):=by
   have h2:=(hs.push (A:=own none 0 0 1 (([]:List UInt8).map u4)) (rG 1)).perm (bU.swap _ _ _);exact uq (k:=0) (L:=buf p []::pt r [.i n,.i i,.s s]::L) (A:=buf p []) rfl rfl h2
  have hd:s.data.toList.length=s.size:=rfl;refine cT (k:=1) hs rfl rfl ?_;simp only[nz,ae,af];refine jZ (k:=0) hs rfl (by simp) λw hs=>?_;rw[show(min2 (max2 8 1) 8).toNat=8 from rfl] at hs;simp only[nz,ae,af] at hs⊢;refine cT (k:=1) hs rfl rfl ?_;simp only[nz,ae,af];refine jZ (k:=0) hs rfl (by simp only[au,aO,cH];omega) λw hs=>?_;rw[show(min2 (max2 2 1) 8).toNat=2 from rfl] at hs;simp only[nz,ae,af] at hs⊢;refine cT (k:=1) hs rfl rfl ?_;simp only[nz,ae,af];refine jZ (k:=0) hs rfl (by simp only[au,aO,cH];omega) λw hs=>?_;rw[show(min2 (max2 2 1) 8).toNat=2 from rfl] at hs;simp only[nz,ae,af] at hs⊢;refine cT (k:=1) hs rfl rfl ?_;simp only[nz,ae,af];refine qN (k:=0) hs rfl (by simp only[au,aO,cH];omega) λw hs=>?_;simp only[nz,ae,af] at hs⊢;refine cT (k:=1) hs rfl rfl ?_;simp only[nz,ae,af];have ew:aa.wrap (104-(s.size:Int))=((104-s.size:Nat):Int):=by rw[aW (by omega)];omega
  rw[ew];refine CS hs (by omega) (by rw[ao];have:(⟨#[0]⟩:BA).size=1:=rfl;rw[this];omega) (by omega) λw hs=>?_;have er:(⟨(El (⟨#[0]⟩:BA).data.toList (((104-s.size:Nat):Int).toNat)).toArray⟩:BA)=bs (bn (104-s.size) 0):=by
   rw[ao];show bs (El [0] (104-s.size))=_;rw[Ek]
  rw[er];simp only[nz,ae,af];refine qN (k:=0) hs rfl (by rw[bY];simp only[au,aO,cH,mO];omega) λw hs=>?_;simp only[nz,ae,af] at hs⊢;have ep:[]++le .i64 8 n++le .i64 2 i++le .i64 2 s.size++s.data.toList++(bs (bn (104-s.size) 0)).data.toList=pre n i s:=rfl;rw[ep] at hs;refine mF (k:=0) hs rfl ?_;simp only[nz,ae,af];refine LC (by rw[bY,qS se];omega) ?_;simp only[nz,ae,af];refine yI hs (Cf _) λw hs=>?_;simp only[nz,ae,af];refine qN (k:=0) hs rfl (by rw[bY,qS se];simp only[vL,aO];omega) λw hs=>?_;simp only[nz,ae,af] at hs⊢;refine cT (k:=1) hs rfl rfl ?_;simp only[nz,ae,af];have ep2:pre n i s++(bs (vL (sY 0 (bs (pre n i s)).data.toList))).data.toList=pre n i s++vL (sY 0 (pre n i s)):=rfl;rw[ep2] at hs;refine jZ (k:=0) hs rfl (by simp only[au,vL,aO,qS se];omega) λw hs=>?_;rw[show(min2 (max2 8 1) 8).toNat=8 from rfl] at hs;simp only[nz,ae,af] at hs⊢;refine mF (k:=0) hs rfl ?_;simp only[nz,ae,af];exact hK w hs.drop.drop
 ·have e0:decide (fk n i s)=false:=aq hg;unfold leaf at hK;rw[ag hg,ag hg] at hK;rw[e0];simp only[nz,ae,af];exact hK w hs.drop
def gj(n:Nat):Nat:=if n=0 then 1 else(n+103)/104
def rO(n:Nat):1<=gj n:=by unfold gj;split<;>omega
def Nb{n j:Nat}(hj:1<=j):104* j<n↔j<gj n:=by unfold gj;split<;>omega
def q6{n:Nat}{K:VK}(hn:n<1099511627776000)(hK:K (.i (gj n)) w):mh n K w:=by
 unfold mh;refine⟨by decide,by decide,?_⟩;have e0:max2 (n:Int) 0=n:=by unfold max2;split<;>omega
 have e1:(n:Int).tdiv 104=((n/104:Nat):Int):=by rw[Int.tdiv_eq_ediv_of_nonneg (by omega)];rfl
 have e2:(n:Int).tmod 104=((n%104:Nat):Int):=by rw[dN (by omega)];rfl
 rw[e0,e1,e2];have e3:max2 (aa.wrap (aa.wrap ((n/104:Nat):Int)+min2 ((n%104:Nat):Int) 1)) 1=(gj n:Int):=by
  have h1:aa.wrap ((n/104:Nat):Int)=((n/104:Nat):Int):=aW (by omega);rw[h1];have h2:min2 ((n%104:Nat):Int) 1=((min (n%104) 1:Nat):Int):=by unfold min2;split<;>omega
  rw[h2,aW (by omega)];unfold max2 gj;split<;>split<;>omega
 rw[e3];exact hK
end
def kx{x y:BA}(h:x.data.toList=y.data.toList):x=y:=ByteArray.ext (uy h)
def extract_toList(s:BA)(a b:Nat):(s.extract a b).data.toList=(s.data.toList.drop a).take (b-a):=by
 rw[ByteArray.data_extract,Array.toList_extract,List.extract_eq_take_drop]
def eJ(s:BA):s.data.toList.length=s.size:=rfl
def part(s:BA)(i:Nat):BA:=s.extract (104* i) (104* (i+1))
def mX(s:BA)(i:Nat):(part s i).size<=104:=by unfold part;rw[s7];omega
def PH(s:BA)(i m:Nat)(hm:m=min (s.size-104* i) 104):(s.extract (104* i) s.size).extract 0 m=part s i:=by
 apply kx;unfold part;rw[extract_toList,extract_toList,extract_toList,iQ,xz,List.take_eq_take_iff,aS,eJ];omega
def PG(s:BA)(i m:Nat)(hm:m=min (s.size-104* i) 104):(s.extract (104* i) s.size).extract m (s.extract (104* i) s.size).size=s.extract (104* (i+1)) s.size:=by
 apply kx;rw[extract_toList,extract_toList,extract_toList,s7];rw[bM (by rw[aS,aD,aS,eJ];omega),bM (by rw[aS,eJ];omega),bM (by rw[aS,eJ];omega),jz];by_cases h:104<=s.size-104* i
 ·congr 1;omega
 ·rw[ga (by rw[eJ];omega),ga (by rw[eJ];omega)]
def o5(at' number:Int)(s:BA):aX->Nat->Nat->aX×Int
 |D,_,0=>(D,0)
 |D,i,n+1=>if(D.write (at'+i) (leaf number i (part s i))).2≠0 then D.write (at'+i) (leaf number i (part s i)) else o5 at' number s (D.write (at'+i) (leaf number i (part s i))).1 (i+1) n
def lay(D:aX)(at' toX number:Int)(s:BA):aX×Int:=
 if number<1\/1152921504606846976<number\/at'<0\/(D.safe.length:Int)<toX\/toX<at' then(D,1)
 else if toX-at'<(gj s.size:Int) then(D,3) else o5 at' number s D 0 (gj s.size)
def AW{at' number:Int}{s:BA}:∀(n i:Nat) {D:aX},D.Ok->D.later.length+n<1099511627776->(o5 at' number s D i n).1.Ok/\(o5 at' number s D i n).1.safe=D.safe/\(o5 at' number s D i n).1.later.length<=D.later.length+n
 |0,i,D,h,hl=>⟨h,rfl,aG _⟩
 |n+1,i,D,h,hl=>by
  have h1:=sn D (at'+i) (leaf number i (part s i));have h2:=Jr h (at'+i) (leaf number i (part s i)) (by omega);unfold o5;split
  ·exact⟨h2,h1.1,by omega⟩
  ·have:=AW (at':=at') (number:=number) (s:=s) n (i+1) h2 (by omega);exact⟨this.1,this.2.1.trans h1.1,by omega⟩
def IA{D:aX}{at' toX number:Int}{s:BA}(h:D.Ok)(hl:D.later.length+gj s.size<1099511627776):(lay D at' toX number s).1.Ok/\(lay D at' toX number s).1.safe=D.safe:=by
 unfold lay;split
 ·exact⟨h,rfl⟩
 ·split
  ·exact⟨h,rfl⟩
  ·have:=AW (at':=at') (number:=number) (s:=s) (gj s.size) 0 h hl;exact⟨this.1,this.2.1⟩
section
variable {W w:World} {L:LH} {k d:Nat} {D:aX}
def tA{at' toX number:Int}{s:BA}{b:Bool}{K:VK}(h:St W w L)(hk:L[k]?=some (gJ d D))(ix:D.Ok)(hl:D.later.length+4097<1099511627776)(hs:s.size<=reachBytes)
 (hb:b=decide (number<1\/1152921504606846976<number\/at'<0\/(D.safe.length:Int)<toX\/toX<at'))
 (hK:∀w',St W w' (L.set k (gJ d (lay D at' toX number s).1))->K (.i (lay D at' toX number s).2) w'):kW.j1 K s toX at' number (ah d) b w:=by
 have se:s.size<=140737488351232:=hs;have wj:=ix.ou;unfold kW.j1;unfold lay at hK;refine tv (λh1=>?_) (λh1=>?_)
 ·rw[hb] at h1;rw[ai (aQ h1)] at hK;refine hK w ?_;rw[nd hk];exact h
 rw[hb] at h1;have zg:=bj h1;rw[ag zg] at hK;refine q6 (by omega) ?_;simp only[nz,ae,af];have ew:aa.wrap (toX-at')=toX-at':=aW (by omega);rw[ew];refine fJ (λh2=>?_) (λh2=>?_)
 ·rw[ai (by omega)] at hK;refine hK w ?_;rw[nd hk];exact h
 rw[ag (by omega)] at hK;have MU:gj s.size<=4096:=by omega
 refine⟨λus w'=>∃(j:Nat)(Dj:aX),us=[.s (s.extract (104* j) s.size),.i 0,.i j]/\j<=gj s.size/\Dj.Ok/\Dj.later.length<=D.later.length+j/\o5 at' number s D 0 (gj s.size)=o5 at' number s Dj j (gj s.size-j)/\St W w' (L.set k (gJ d Dj)),
  λus _=>match us with|[_,_,.int _ j]=>gj s.size-j.toNat|_=>0,⟨0,D,?_,aE _,ix,by omega,rfl,by rw[nd hk];exact h⟩,?_⟩
 ·have:s.extract (104* 0) s.size=s:=by rw[Nat.mul_zero];exact ByteArray.extract_zero_size
  rw[this];rfl
 rintro s2 n5 n6 w2 ⟨j,Dj,he,hj,ix,hlj,Z',hs⟩;cases he
 have rq:(L.set k (gJ d Dj))[k]?=some (gJ d Dj):=jM hk;have zf:min2 ((s.extract (104* j) s.size).size:Int) 104=((min (s.size-104* j) 104:Nat):Int):=by
  rw[s7];unfold min2;split<;>omega
 have e5:=nL j;have ea:aa.wrap (at'+(j:Int))=at'+j:=aW (by omega);rw[zf,e5,ea,s7];have hex:∀X:WK,X w2->ch (0<=((min (s.size-104* j) 104:Nat):Int)/\((min (s.size-104* j) 104:Nat):Int)<=((min s.size s.size-104* j:Nat):Int)) X w2:=λX hX=>⟨by omega,hX⟩;have step:j<gj s.size->∀w,St W w (L.set k (gJ d (Dj.write (at'+j) (leaf number j (part s j))).1))->(Dj.write (at'+j) (leaf number j (part s j))).2≠0->K (.i (Dj.write (at'+j) (leaf number j (part s j))).2) w:=λQ7 w hs kd=>by
  have e:o5 at' number s Dj j (gj s.size-j)=Dj.write (at'+j) (leaf number j (part s j)):=by
   obtain⟨q,hq⟩:∃q,gj s.size-j=q+1:=⟨gj s.size-j-1,by omega⟩;rw[hq,o5,ai kd]
  rw[Z',e] at hK;exact hK w hs
 have fin:j<gj s.size->∀w,St W w (L.set k (gJ d (Dj.write (at'+j) (leaf number j (part s j))).1))->(Dj.write (at'+j) (leaf number j (part s j))).2=0->
  ∃(j':Nat)(Xv:aX),[Value.string (s.extract (104* (j+1)) s.size),.i 0,.i ((j+1:Nat):Int)]=[.s (s.extract (104* j') s.size),.i 0,.i j']/\j'<=gj s.size/\Xv.Ok/\Xv.later.length<=D.later.length+j'/\o5 at' number s D 0 (gj s.size)=o5 at' number s Xv j' (gj s.size-j')/\St W w (L.set k (gJ d Xv)):=λQ7 w hs hz=>by
  have hw:=sn Dj (at'+j) (leaf number j (part s j));refine⟨j+1,_,rfl,by omega,Jr ix _ _ (by omega),by omega,?_,hs⟩;rw[Z'];obtain⟨q,hq⟩:∃q,gj s.size-j=q+1:=⟨gj s.size-j-1,by omega⟩;have Wg:gj s.size-(j+1)=q:=by omega
  rw[hq,Wg,o5,ag (by rw[hz];exact λhh=>hh rfl)]
 have KC:=rO s.size;have body:j<gj s.size->mj (s.extract (104* j) s.size) none (some ((min (s.size-104* j) 104:Nat):Int)) (λs3=>
  ch True (
  ra [.i number,.i j,.s s3] (x2 λv1 v2=>(xS λs4=>
  (xI .i64 λn7=>
  fe (ah d) (at'+j) s4 (xI .i64 λn8=>
  br (n8 !=0) (
  K (.i n8)) (
  mj (s.extract (104* j) s.size) (some ((min (s.size-104* j) 104:Nat):Int)) none (λs5=>λw3=>
   (∃(j':Nat)(Xv:aX),[Value.string s5,.i 0,.i ((j+1:Nat):Int)]=[.s (s.extract (104* j') s.size),.i 0,.i j']/\j'<=gj s.size/\Xv.Ok/\Xv.later.length<=D.later.length+j'/\o5 at' number s D 0 (gj s.size)=o5 at' number s Xv j' (gj s.size-j')/\St W w3 (L.set k (gJ d Xv)))/\
   gj s.size-((j+1:Nat):Int).toNat<gj s.size-((j:Nat):Int).toNat)))) v2) v1))) w2:=λQ7=>by
  unfold mj;dsimp only;refine⟨⟨by omega,by rw[s7];omega⟩,trivial,?_⟩;rw[ao,PH s j _ rfl];refine ND hs λw hs=>?_;simp only[nz,ae,af];refine C9 hs rq ix λw hs=>?_;rw[jk] at hs;simp only[nz,ae,af];refine uP (λkd=>?_) (λhz=>?_)
  ·exact step Q7 w hs kd
  ·refine⟨⟨by omega,by rw[s7];omega⟩,?_⟩;rw[PG s j _ rfl];exact⟨fin Q7 w hs hz,by omega⟩
 refine HN (λhj0=>body (by omega)) (λhj0=>?_);refine fJ (λOL=>?_) (λhle=>?_)
 ·have hc:=Nb (n:=s.size) (j:=j) (by omega);exact body (by omega)
 ·have hc:=Nb (n:=s.size) (j:=j) (by omega);have Q7:j=gj s.size:=by omega
  have e:o5 at' number s Dj j (gj s.size-j)=(Dj,0):=by rw[Q7,lu];rfl
  rw[Z',e] at hK;exact hK _ hs
def FL{at' toX number:Int}{s:BA}{K:VK}(h:St W w L)(hk:L[k]?=some (gJ d D))(ix:D.Ok)(hl:D.later.length+4097<1099511627776)(hs:s.size<=reachBytes)
 (hK:∀w',St W w' (L.set k (gJ d (lay D at' toX number s).1))->K (.i (lay D at' toX number s).2) w'):kW (ah d) at' toX number s K w:=by
 unfold kW;refine fJ (λh1=>?_) (λh1=>?_)
 ·exact tA h hk ix hl hs (by symm;rw[decide_eq_true_eq];exact .inl h1) hK
 refine fJ (λh2=>?_) (λh2=>?_)
 ·exact tA h hk ix hl hs (by symm;rw[decide_eq_true_eq];exact .inr (.inl h2)) hK
 refine fJ (λh3=>?_) (λh3=>?_)
 ·exact tA h hk ix hl hs (by symm;rw[decide_eq_true_eq];exact .inr (.inr (.inl h3))) hK
 refine nu h hk ?_;simp only[nz,ae,af];refine fJ (λh4=>?_) (λh4=>?_)
 ·exact tA h hk ix hl hs (by symm;rw[decide_eq_true_eq];exact .inr (.inr (.inr (.inl h4)))) hK
 ·refine tA h hk ix hl hs ?_ hK;rw[decide_eq_decide];omega
end
section
variable {W w:World} {L:LH} {k:Nat}
def CD(w:World)(a:Addr)(n j:Nat)(hj:j≠a.block):(w.freeze a n).heap[j]?=w.heap[j]?:=by
 unfold World.freeze;split
 ·rfl
 ·simp only[Array.getElem?_modify];rw[ag (λh=>hj h.symm)]
def Zl{s:BA}{K:Nat->Nat->WK}(h:St W w L)(hK:∀r c w',St W w' (own (ah r) s.size c 1 (s.data.toList.map u4)::L)->K r c w'):s2b s K w:=by
 intro c t hc;have h1:=h.drew.new ((s.data.toList.map u4)++bn (c-s.size) (.int .u8 0)) t;have se:s.data.toList.length=s.size:=rfl;have aal:((strCells s).toArray++jt (c-s.size) (.int .u8 0):Array Value)=⟨(s.data.toList.map u4)++bn (c-s.size) (.int .u8 0)⟩:=by
  apply uy;rw[Array.toList_append,Array.toList_replicate]
  rfl
 rw[aal];generalize LZ:(s.data.toList.map u4)++bn (c-s.size) (Value.int .u8 0)=cs at *;have hlen:cs.length=c:=by rw[<-LZ];simp;omega
 have hhp:(w.drew.alloc (.cells ⟨cs⟩ t)).heap[w.heap.size]?=some (.cells ⟨cs⟩ t):=by
  show(w.heap.push (.cells ⟨cs⟩ t))[w.heap.size]?=_;rw[Array.getElem?_push_size]
 have Cz:view ((w.drew.alloc (.cells ⟨cs⟩ t)).freeze ⟨w.heap.size,c,none⟩ 1) w.heap.size=some (.cells cs):=by
  unfold view World.freeze;rw[ag (by decide)];simp only[Array.getElem?_modify,hhp];simp[hlen]
 have hb:=h1.1;have h2:=h1.bA (k:=0) rfl (w':=(w.drew.alloc (.cells ⟨cs⟩ t)).freeze ⟨w.heap.size,c,none⟩ 1) ?_ Cz (λj hj _=>CD _ _ _ _ hj)
 ·refine hK _ _ _ ?_;refine St.mono (A:=pt w.heap.size cs) h2 λg hp=>⟨by rw[bP];omega,.inr ⟨_,bn (c-s.size) (.int .u8 0),rfl,hc,by simp,?_⟩⟩;rw[LZ];exact hp
 ·refine⟨?_,?_,?_,?_,λj hj=>?_⟩
  ·unfold World.freeze;rw[ag (by decide)];exact hb.os
  ·unfold World.freeze;rw[ag (by decide)];exact hb.tape
  ·unfold World.freeze;rw[ag (by decide)];exact hb.output
  ·unfold World.freeze;rw[ag (by decide)];simp only[Array.size_modify];exact hb.size
  ·rw[CD _ _ _ _ (by have:=h.1.size;simp only;omega)];exact hb.block j hj
def C0(r:Nat)(s:BA)(t:Bool):HP:=pt r [.s s,.b t]
def rZ(s:BA)(t:Bool)(n:Int):Bool:=t||decide (n<0\/(s.size:Int)<n)
def yr(s:BA)(t:Bool)(n:Int):BA:=if rZ s t n then .empty else s.extract 0 n.toNat
def C1(s:BA)(t:Bool)(n:Int):BA:=if rZ s t n then s else s.extract n.toNat s.size
def sq{s:BA}{K:VK}(h:St W w L)(hK:∀r w',St W w' (C0 r s false::L)->K (.p (ah r)) w'):pc s K w:=by
 unfold pc;exact⟨⟨rfl,trivial⟩,iS h λr w hs=>hK r w hs⟩
def FK{r:Nat}{s:BA}{t:Bool}{n:Int}{K:VK}(h:St W w L)(hk:L[k]?=some (C0 r s t))(hK:∀w',St W w' (L.set k (C0 r (C1 s t n) (rZ s t n)))->K (.s (yr s t n)) w'):fa (ah r) n K w:=by
 unfold fa;unfold C0 at hk;simp only[nz,ae,af];refine cT hk (h:=h) rfl ?_;simp only[nz,ae,af];have bad:rZ s t n=true->∀w',St W w' (L.set k (pt r [.s s,.b true]))->K (.s .empty) w':=λhb w' hs=>by
  have:=hK w';unfold C1 yr at this;rw[ai hb,ai hb,hb] at this;exact this hs
 refine tv (λht=>?_) (λht=>?_)
 ·refine oz h hk (aJ rfl) rfl λw hs=>?_;refine cT hs (jM hk) rfl ?_;simp only[nz,ae,af] at hs⊢;exact bad (by simp[rZ,ht]) w hs
 refine fJ (λhn=>?_) (λhn=>?_)
 ·refine oz h hk (aJ rfl) rfl λw hs=>?_;refine cT hs (jM hk) rfl ?_;simp only[nz,ae,af] at hs⊢;exact bad (by simp[rZ,hn]) w hs
 refine cT h hk rfl ?_;simp only[nz,ae,af];refine oz h hk (aJ rfl) rfl λw hs=>?_;refine cT hs (jM hk) rfl ?_;simp only[nz,ae,af] at hs⊢;refine fJ (λOL=>?_) (λOL=>?_)
 ·have:decide (n>(s.size:Int))=true:=av OL;rw[this] at hs;exact bad (by simp[rZ];omega) w hs
 ·have e:decide (n>(s.size:Int))=false:=aq OL;rw[e] at hs;have hb:rZ s t n=false:=by
   unfold rZ;rw[ht,aq (by omega)];rfl
  have:=hK;unfold C1 yr at this;rw[ag (by rw[hb];exact cG),ag (by rw[hb];exact cG),hb] at this;unfold fa.j1;simp only[nz,ae,af];refine cT hs (jM hk) rfl ?_;unfold mj;simp only[nz,ae,af];refine⟨by omega,?_⟩;refine cT hs (jM hk) rfl ?_;simp only[nz,ae,af];refine⟨by omega,?_⟩;refine oz hs (jM hk) (aJ rfl) rfl λw hs=>?_;rw[jk] at hs;exact this w hs
def nB:List UInt8->Nat
 |[]=>0
 |c::r=>c.toNat+256* nB r
def ry:∀l:List UInt8,nB l<256^l.length
 |[]=>by simp[nB]
 |c::r=>by
  have:=ry r;have hc:=c.toNat_lt;simp only[nB,bt,y8];omega
def sV:∀(l:List UInt8)(c:UInt8),nB (l++[c])=nB l+c.toNat* 256^l.length
 |[],c=>by simp[nB]
 |d::r,c=>by
  simp only[kV,nB,sV r c,bt,y8];rw[Nat.mul_add,Nat.add_assoc]
  congr 2
  rw[vB 256,Nat.mul_assoc]
def AQ(z:Int):BitVec.ofInt 64 (aa.wrap z)=BitVec.ofInt 64 z:=by
 apply BitVec.eq_of_toNat_eq;simp only[BitVec.toNat_ofInt];simp[IntKind.wrap,IntKind.bits,IntKind.signed];split<;>omega
def VB{A j:Nat}{c:UInt8}(hj:j<8)(hA:A<256^j):db .i64 .or (aa.wrap A) (shl .i64 (aa.wrap (c.toNat:Int)) (8* (j:Int)))=aa.wrap ((A+c.toNat* 256^j:Nat):Int):=by
 have hc:=c.toNat_lt;have Qk:256^j=2^(8* j):=by rw[show(256:Nat)=2^8 from rfl,<-Nat.pow_mul]
 have ad0:c.toNat* 2^(8* j)<2^64:=by
  have h1:c.toNat* 2^(8* j)<2^8* 2^(8* j):=Nat.mul_lt_mul_of_pos_right (by exact hc) (Nat.pow_pos (by decide));rw[<-Nat.pow_add] at h1;exact Nat.lt_of_lt_of_le h1 (gv (by decide) (by omega))
 have ahA:A<2^64:=by
  rw[Qk] at hA;exact Nat.lt_of_lt_of_le hA (gv (by decide) (by omega))
 have ew:aa.wrap (c.toNat:Int)=(c.toNat:Int):=aW (by omega);have esh:shl .i64 (c.toNat:Int) (8* (j:Int))=aa.wrap ((c.toNat* 2^(8* j):Nat):Int):=by
  unfold shl;have h1:(8* (j:Int)).toNat=8* j:=by omega
  have h2:min (8* j) aa.bits=8* j:=by show min (8* j) 64=_;omega
  rw[h1,h2]
  congr 1
 rw[ew,esh];show aa.wrap (((BitVec.ofInt 64 (aa.wrap A)|||BitVec.ofInt 64 (aa.wrap ((c.toNat* 2^(8* j):Nat):Int))).toNat:Nat):Int)=_;rw[AQ,AQ,BitVec.toNat_or];have t1:(BitVec.ofInt 64 (A:Int)).toNat=A:=by simp only[BitVec.toNat_ofInt];omega
 have t2:(BitVec.ofInt 64 ((c.toNat* 2^(8* j):Nat):Int)).toNat=c.toNat* 2^(8* j):=by
  generalize c.toNat* 2^(8* j)=z at *;simp only[BitVec.toNat_ofInt];omega
 rw[t1,t2,Qk]
 congr 2
 rw[Nat.or_comm,<-Nat.shiftLeft_eq,<-Nat.shiftLeft_add_eq_or_of_lt (by rw[<-Qk];exact hA),Nat.add_comm]
def mS(l:List UInt8):Int:=aa.wrap (nB l:Int)
def Bh{r:Nat}{s:BA}{t:Bool}{n:Int}{K:VK}(h:St W w L)(hk:L[k]?=some (C0 r s t))
 (hK:∀w',St W w' (L.set k (C0 r (C1 s t (min2 (max2 n 1) 8)) (rZ s t (min2 (max2 n 1) 8))))->K (.i (mS (yr s t (min2 (max2 n 1) 8)).data.toList)) w'):aN (ah r) n K w:=by
 have hm:1<=min2 (max2 n 1) 8/\min2 (max2 n 1) 8<=8:=by unfold min2 max2;split<;>split<;>omega
 unfold aN;generalize min2 (max2 n 1) 8=m at *;refine FK h hk λw hs=>?_;simp only[nz,ae,af];have hv8:(yr s t m).size<=8:=by
  unfold yr;split
  ·exact aE _
  ·rw[s7];omega
 have hK':=hK;generalize yr s t m=v at *;refine Zl hs λq c w hs=>?_;have hlen:v.data.toList.length=v.size:=rfl;refine⟨λus w'=>∃j:Nat,us=[.i 0,.i (mS (v.data.toList.take j)),.l (ah q) v.size c,.i v.size,.i j]/\j<=v.size/\isW w w',
  λus _=>match us with|[_,_,_,_,.int _ j]=>v.size-j.toNat|_=>0,⟨0,rfl,aE _,rfl⟩,?_⟩
 rintro n2 n3 Ge GQ GV n4 n5 w2 ⟨j,he,hj,hw⟩;obtain rfl:w2=w:=hw;cases he
 generalize hb:decide ((j:Int)<(v.size:Int))=b;cases b
 ·have iM:=bj hb;rw[dY];rw[bM (by omega)];exact hK' _ hs.drop
 ·have cf:=aQ hb;rw[kG];have SX:j<v.data.toList.length:=by omega
  refine rL (k:=0) hs rfl (by omega) λr' hr=>?_;cases hr
  refine zR (k:=0) hs rfl (v:=u4 (v.data.toList[j])) (by rw[ao,lN,eK,aj SX];rfl) ?_;unfold u4;simp only[nz,ae,af];have e8:aa.wrap (8* (j:Int))=8* (j:Int):=aW (by omega);have e5:=nL j;rw[e8,e5];refine⟨by omega,?_⟩;have OF:=ry (v.data.toList.take j);have C3:(v.data.toList.take j).length=j:=by rw[aD];omega
  rw[C3] at OF;have e6:db .i64 .or (mS (v.data.toList.take j)) (shl .i64 (aa.wrap ((v.data.toList[j]).toNat:Int)) (8* (j:Int)))=mS (v.data.toList.take (j+1)):=by
   unfold mS;rw[VB (by omega) OF,qi SX,sV,C3]
  rw[e6];exact⟨⟨j+1,rfl,by omega,rfl⟩,by omega⟩
def numOf(s:BA):Int:=if 1<=mS s.data.toList/\mS s.data.toList<=1152921504606846976 then mS s.data.toList else 0
def rX{n:Int}(h:0<=n/\n<18446744073709551616):IntKind.u64.wrap n=n:=by
 simp[IntKind.wrap,IntKind.bits,IntKind.signed];omega
def BW(s:BA):BA:=s.extract 0 8
def Br(s:BA):BA:=s.extract (s.size-8) s.size
def QA{s:BA}{K:VK}(h:St W w L)(hs8:8<=s.size)(se:s.size<1099511627776)(hK:∀w',St W w' L->K (.agg ⟨[.i (numOf (BW s)),.i (numOf (Br s))]⟩) w'):wN s K w:=by
 unfold wN;refine iS h λr1 w hs=>?_;refine iS hs λr2 w hs=>?_;refine lX hs λw hs=>?_;unfold mj;simp only[nz,ae,af];have e1:aa.wrap ((s.size:Int) -8)=(s.size:Int) -8:=aW (by omega);rw[e1];refine⟨by omega,by omega,?_⟩;have eh:s.extract 0 (8:Int).toNat=BW s:=rfl;have et:s.extract ((s.size:Int) -8).toNat s.size=Br s:=by unfold Br;congr 1;omega
 rw[eh,et];have h8:(BW s).size=8:=by unfold BW;rw[s7];omega
 have t8:(Br s).size=8:=by unfold Br;rw[s7];omega
 refine⟨λus w'=>∃j:Nat,us=[.p (some ⟨r1,0,none⟩),.p (some ⟨r2,0,none⟩),.agg ⟨[.s (BW s),.s (Br s)]⟩,.i j]/\j<=2/\
  St W w' (pt r2 [.i (if 0<j then numOf (BW s) else 0),.i (if 1<j then numOf (Br s) else 0)]::pt r1 [.i 0,.i 0]::L),
  λus _=>match us with|[_,_,_,.int _ j]=>2-j.toNat|_=>0,⟨0,rfl,aE _,hs⟩,?_⟩
 rintro a1 a2 O0 n1 w2 ⟨j,he,hj,hs⟩;cases he
 refine tv (λh0=>?_) (λh0=>?_)
 ·have IH:j<2:=by have:=aQ h0;omega
  have e5:=nL j;rw[e5];obtain⟨p,hp,Z5⟩:∃p,([Value.string (BW s),.s (Br s)]:LV)[(j:Int).toNat]?=some (.s p)/\p.size=8/\(j=0->p=BW s)/\(j=1->p=Br s):=by
   match j,IH with
   |0,_=>exact⟨BW s,rfl,h8,λ_=>rfl,λhh=>by omega⟩
   |1,_=>exact⟨Br s,rfl,t8,λhh=>by omega,λ_=>rfl⟩
  refine⟨.s p,⟨by omega,by omega,hp⟩,?_⟩;simp only[nz,ae,af];refine sq hs λq w hs=>?_;simp only[nz,ae,af];refine Bh (k:=0) hs rfl λw hs=>?_;have em:min2 (max2 8 1) 8=8:=rfl;have ev:yr p false (min2 (max2 8 1) 8)=p:=by
   rw[em];unfold yr;have:rZ p false 8=false:=by unfold rZ;rw[Z5.1];rfl
   rw[ag (by rw[this];exact cG)];have:(8:Int).toNat=p.size:=by rw[Z5.1];rfl
   rw[this];exact ByteArray.extract_zero_size
  rw[ev];simp only[nz,ae,af] at hs⊢;have hs:=hs.drop;have fin:∀x w',x=numOf p->St W w' (pt r2 ([.i (if 0<j then numOf (BW s) else 0),.i (if 1<j then numOf (Br s) else 0)].set j (.i x))::pt r1 [.i 0,.i 0]::L)->
     St W w' (pt r2 [.i (if 0<j+1 then numOf (BW s) else 0),.i (if 1<j+1 then numOf (Br s) else 0)]::pt r1 [.i 0,.i 0]::L):=λx w' hx hs=>by
   subst hx
   match j,IH,Z5,hs with
   |0,_,Z5,hs=>rw[Z5.2.1 rfl] at hs;simpa using hs
   |1,_,Z5,hs=>rw[Z5.2.2 rfl] at hs;simpa using hs
  have zero:numOf p=0->∀w',St W w' (pt r2 [.i (if 0<j then numOf (BW s) else 0),.i (if 1<j then numOf (Br s) else 0)]::pt r1 [.i 0,.i 0]::L)->
   St W w' (pt r2 [.i (if 0<j+1 then numOf (BW s) else 0),.i (if 1<j+1 then numOf (Br s) else 0)]::pt r1 [.i 0,.i 0]::L):=λhz w' hs=>by
   refine fin 0 w' hz.symm ?_
   match j,IH,hs with
   |0,_,hs=>simpa using hs
   |1,_,hs=>simpa using hs
  refine fJ (λh1=>?_) (λh1=>?_)
  ·refine fJ (λh2=>?_) (λh2=>?_)
   ·refine⟨by omega,?_⟩;refine oz (k:=0) hs rfl (by simp;omega) rfl λw hs=>?_;simp only[nz,ae,af] at hs;rw[ao,lN] at hs;refine⟨⟨j+1,rfl,by omega,fin _ w ?_ hs⟩,by omega⟩;unfold numOf;rw[ai (by omega)]
   ·exact⟨⟨j+1,rfl,by omega,zero (by unfold numOf;rw[ag (by omega)]) w hs⟩,by omega⟩
  ·exact⟨⟨j+1,rfl,by omega,zero (by unfold numOf;rw[ag (by omega)]) w hs⟩,by omega⟩
 ·have IH:j=2:=by have:=bj h0;omega
  subst IH;have hs:St W w2 (pt r2 [.i (numOf (BW s)),.i (numOf (Br s))]::pt r1 [.i 0,.i 0]::L):=hs;refine jQ (k:=0) (xs:=[.i (numOf (BW s)),.i (numOf (Br s))]) hs rfl rfl (λi v hi=>by rw[aC];exact hi) ?_;refine⟨rfl,jK (k:=1) hs rfl (aJ rfl) (by simp[Value.oneCell']) λw hs=>?_⟩;rw[iC (by simp)] at hs;simp only[nz,ae,af] at hs;refine jQ (k:=1) (xs:=[.i (numOf (BW s)),.i (numOf (Br s))]) hs rfl rfl (λi v hi=>by rw[aC];exact hi) ?_;exact hK w hs.drop.drop
def eV(D:aX):Nat->Int
 |0=>0
 |j+1=>max2 (max2 (eV D j) (numOf (BW (D.read (j:Int)).1))) (numOf (Br (D.read (j:Int)).1))
def yO{D:aX}(h:D.Ok){i:Int}(hi:D.is i):(D.read i).1.size=128:=by
 unfold aX.read;rw[ai hi];unfold aX.now;have cf:i.toNat<D.safe.length:=by have:=hi.1;have:=hi.2;omega
 cases hl:aX.last D.later i with
 |none=>
  rw[gw,jy,aj cf,dx];exact h.safe _ (bR cf)
 |some x=>
  unfold aX.last at hl;rw[Option.map_eq_some_iff] at hl;obtain⟨p,hp,rfl⟩:=hl;exact(h.later p (List.mem_reverse.1 (mM hp))).1
def GA{d:Nat}{D:aX}{K:VK}(h:St W w L)(hk:L[k]?=some (gJ d D))(ix:D.Ok)(hK:∀w',St W w' L->K (.i (eV D D.safe.length)) w'):nU (ah d) K w:=by
 have wj:=ix.ou;unfold nU;refine nu h hk ?_;simp only[nz,ae,af];refine⟨λus w'=>∃j:Nat,us=[.i 0,.i (eV D j),.i D.safe.length,.i j]/\j<=D.safe.length/\St W w' L,
  λus _=>match us with|[_,_,_,.int _ j]=>D.safe.length-j.toNat|_=>0,⟨0,rfl,aE _,h⟩,?_⟩
 rintro n2 n3 n4 n5 w2 ⟨j,he,hj,hs⟩;cases he
 refine fJ (λcf=>?_) (λiM=>?_)
 ·have hi:D.is (j:Int):=⟨by omega,cf⟩;have se:=yO ix hi;have e5:=nL j;refine rU hs hk ix ?_;simp only[nz,ae,af];refine QA hs (by omega) (by omega) λw hs=>?_;simp only[xD,bt,cH,aC,ae,true_and];refine iS hs λr w hs=>?_;refine⟨trivial,jK (k:=0) hs rfl (aJ rfl) (by simp[Value.oneCell']) λw hs=>?_⟩;rw[iC (by simp)] at hs;simp only[nz,ae,af] at hs⊢;refine⟨by decide,?_⟩;refine cT (k:=0) hs rfl rfl ?_;simp only[nz,ae,af];refine⟨by decide,?_⟩;refine cT (k:=0) hs rfl rfl ?_;simp only[nz,ae,af];rw[e5];exact⟨⟨j+1,rfl,by omega,hs.drop⟩,by omega⟩
 ·have:j=D.safe.length:=by omega
  subst this;exact hK _ hs
end
def oF(l:List UInt8)(n:Nat):(bs l).extract 0 n=bs (l.take n):=by
 apply kx;rw[extract_toList,iQ,Nat.sub_zero];rfl
def oE(l:List UInt8)(n:Nat):(bs l).extract n (bs l).size=bs (l.drop n):=by
 apply kx;rw[extract_toList,bY];show(l.drop n).take (l.length-n)=l.drop n;rw[bM (by rw[aS];omega)]
def lg(a b:List UInt8):bs a++bs b=bs (a++b):=by
 apply kx;rw[ByteArray.data_append,Array.toList_append];rfl
def Ae{a b:List UInt8}:bs a=bs b↔a=b:=by
 constructor
 ·intro h;have:=congrArg (λx=>x.data.toList) h;exact this
 ·intro h;rw[h]
def K6:ByteArray.empty=bs []:=rfl
section
variable {W w:World} {L:LH} {k:Nat}
def DW{l:List UInt8}{K:VK}(hl:l.length<1099511627776)(hK:∀m,m<=l.length->(∀j(h:j<l.length),m<=j->l[j]=0)->(m=0\/∃h:m-1<l.length,l[m-1]≠0)->K (.s (bs (l.take m))) w):mI (bs l) 0 K w:=by
 unfold mI;refine⟨λus w'=>∃m:Nat,us=[.s (bs (l.take m)),.s .empty]/\m<=l.length/\(∀j(h:j<l.length),m<=j->l[j]=0)/\isW w w',λus _=>match us with|[.string s,_]=>s.size|_=>0,
  ⟨l.length,by rw[aR],aG _,λj h hj=>by omega,rfl⟩,?_⟩
 rintro s2 s3 w2 ⟨m,he,hm,hz,hw⟩;obtain rfl:w2=w:=hw;cases he
 have se:(bs (l.take m)).size=m:=by rw[bY,aD];omega
 rw[se];refine fJ (λKC=>?_) (λab5=>?_)
 ·have hm1:m-1<l.length:=by omega
  have ew:aa.wrap ((m:Int) -1)=((m-1:Nat):Int):=by rw[aW (by omega)];omega
  rw[ew];refine⟨l[m-1],⟨by omega,?_⟩,?_⟩
  ·rw[ao];show(l.take m)[m-1]?=_;rw[List.getElem?_take_of_lt (by omega),aj hm1]
  refine HN (λh0=>?_) (λh0=>?_)
  ·have hc:l[m-1]=0:=by
    apply UInt8.toNat_inj.1;show _=0;omega
   unfold mj;refine⟨⟨by omega,by rw[se];omega⟩,?_⟩;rw[ao,oF,xz,show min (m-1) m=m-1 from by omega];refine⟨⟨m-1,rfl,by omega,λj hj hmj=>?_,rfl⟩,?_⟩
   ·by_cases hjm:m<=j
    ·exact hz j hj hjm
    ·have:j=m-1:=by omega
     subst this;exact hc
   ·dsimp only;rw[bY,aD,bY,aD];omega
  ·exact hK m hm hz (.inr ⟨hm1,λhc=>h0 (by rw[hc];rfl)⟩)
 ·exact hK m hm hz (.inl (by omega))
def F6{l:List UInt8}{K:VK}(hl:l.length<1099511627776)(hK:∀m,m<=l.length->(∀j(h:j<l.length),j<m->l[j]=0)->(m=l.length\/∃h:m<l.length,l[m]≠0)->K (.s (bs (l.drop m))) w):na (bs l) 0 K w:=by
 unfold na;refine⟨λus w'=>∃m:Nat,us=[.s (bs (l.drop m)),.s .empty]/\m<=l.length/\(∀j(h:j<l.length),j<m->l[j]=0)/\isW w w',λus _=>match us with|[.string s,_]=>s.size|_=>0,
  ⟨0,rfl,aE _,λj h hj=>by omega,rfl⟩,?_⟩
 rintro s2 s3 w2 ⟨m,he,hm,hz,hw⟩;obtain rfl:w2=w:=hw;cases he
 have se:(bs (l.drop m)).size=l.length-m:=by rw[bY,aS]
 refine fJ (λKC=>?_) (λab5=>?_)
 ·rw[se] at KC;have hm1:m<l.length:=by omega
  refine⟨l[m],⟨by omega,?_⟩,?_⟩
  ·show(l.drop m)[0]?=_;rw[rW,dZ,aj hm1]
  refine HN (λh0=>?_) (λh0=>?_)
  ·have hc:l[m]=0:=by
    apply UInt8.toNat_inj.1;show _=0;omega
   unfold mj;refine⟨⟨by omega,by rw[se];omega⟩,?_⟩;rw[show(1:Int).toNat=1 from rfl,oE,jz];refine⟨⟨m+1,rfl,by omega,λj hj hmj=>?_,rfl⟩,?_⟩
   ·by_cases hjm:j<m
    ·exact hz j hj hjm
    ·have:j=m:=by omega
     subst this;exact hc
   ·dsimp only;rw[bY,aS,bY,aS];omega
  ·exact hK m hm hz (.inr ⟨hm1,λhc=>h0 (by rw[hc];rfl)⟩)
 ·rw[se] at ab5;exact hK m hm hz (.inl (by omega))
def QV{l:List UInt8}{K:VK}(h:St W w L)(hl:l.length<1099511627776)(hK:∀r w',(r=.empty↔l=bn l.length 0)->St W w' L->K (.s r) w'):gV (bs l) ⟨#[0]⟩ K w:=by
 unfold gV;have e0:py (⟨#[0]⟩:BA) (⟨#[]⟩:BA)=false:=by rw[sr];exact aq (λh=>aT (congrArg ByteArray.size h) (by decide))
 rw[e0,sr];refine fJ (λhem=>?_) (λkd=>?_)
 ·unfold gV.j1;rw[kG];have:l=[]:=Ae.1 hem;subst this;exact hK _ w (by simp[K6]) h
 ·unfold gV.j1;rw[dY];have e1:((((⟨#[0]⟩:BA).size:Nat):Int)==1)=true:=by decide
  rw[e1,kG];refine⟨0,⟨by decide,rfl⟩,?_⟩;have e2:decide (((0:UInt8).toNat:Int)<128)=true:=by decide
  dsimp only;rw[e2];unfold gV.j3;rw[kG];refine lX h λw h=>?_;refine⟨0,⟨by decide,rfl⟩,?_⟩;refine⟨0,⟨by decide,rfl⟩,?_⟩;refine DW hl λm hm hz Hp=>?_;simp only[nz,ae,af];refine F6 (by rw[aD];omega) λq hq hz2 yz=>?_;simp only[nz,ae,af];refine hK _ w ?_ h;have cf:(l.take m).length=m:=by rw[aD];omega
  rw[K6,Ae]
  constructor
  ·intro hd;have hqm:q=m:=by have:=congrArg List.length hd;rw[aS,cH] at this;omega
   subst hqm;rcases Hp with h0|⟨h1,h2⟩
   ·subst h0;exact List.eq_replicate_iff.2 ⟨rfl,λx hx=>by
     obtain⟨j,hj,rfl⟩:=List.mem_iff_getElem.1 hx
     exact hz j hj (aE _)⟩
   ·exfalso;have hq0:0<q:=by
     rcases Nat.eq_zero_or_pos q with h0|h0
     ·subst h0;exact aT (hz _ h1 (by omega)) h2
     ·exact h0
    have:=hz2 (q-1) (by omega) (by omega);rw[List.getElem_take] at this;exact h2 this
  ·intro gh;have hz0:∀j(hj:j<l.length),l[j]=0:=λj hj=>(List.eq_replicate_iff.1 gh).2 _ (bR hj);rcases yz with h0|⟨h1,h2⟩
   ·rw[ga (by omega)]
   ·exfalso;rw[List.getElem_take] at h2;exact h2 (hz0 q _)
def tF(l:List UInt8):Bool:=decide (4<=l.length)&&(vL (sY 0 (l.take (l.length-4)))==l.drop (l.length-4))
def NA{l:List UInt8}{K:VK}(h:St W w L)(hl:l.length<1099511627776)(hK:∀w',St W w' L->K (.b (tF l)) w'):tY (bs l) K w:=by
 unfold tY;refine lX h λw h=>?_;have ew:aa.wrap (((bs l).size:Int) -4)=(l.length:Int) -4:=by rw[bY,aW (by omega)]
 rw[ew];refine fJ (λh0=>?_) (λh0=>?_)
 ·have e1:((l.length:Int) -4).toNat=l.length-4:=by omega
  unfold mj;dsimp only;refine⟨⟨h0,by rw[bY];omega⟩,?_⟩;refine⟨⟨h0,by rw[bY];omega⟩,?_⟩;rw[e1,oF,oE];refine LC (by rw[bY,aD];omega) ?_;simp only[nz,ae,af];refine yI h (Cf _) λw h=>?_;simp only[nz,ae,af];have e2:py (bs (vL (sY 0 (bs (l.take (l.length-4))).data.toList))) (bs (l.drop (l.length-4)))=tF l:=by
   rw[sr];unfold tF;rw[av (by omega:4<=l.length),dV];show decide (bs (vL (sY 0 (l.take (l.length-4))))=bs (l.drop (l.length-4)))=_;by_cases hh:vL (sY 0 (l.take (l.length-4)))=l.drop (l.length-4)
   ·rw[av (Ae.2 hh),hh,beq_self_eq_true]
   ·rw[aq (λh=>hh (Ae.1 h))]
    symm;simp[hh]
  rw[e2];exact hK w h
 ·have e2:tF l=false:=by unfold tF;rw[aq (by omega: ¬4<=l.length)];rfl
  rw[<-e2];exact hK w h
def Jg{r:Nat}{l:List UInt8}{n:Nat}{K:VK}(h:St W w L)(hk:L[k]?=some (C0 r (bs l) false))(h1:1<=n)(h8:n<=8)(hn:n<=l.length)
 (hK:∀w',St W w' (L.set k (C0 r (bs (l.drop n)) false))->K (.i (mS (l.take n))) w'):aN (ah r) n K w:=by
 refine Bh h hk ?_;have em:min2 (max2 (n:Int) 1) 8=n:=by unfold min2 max2;split<;>split<;>omega
 rw[em];have et:rZ (bs l) false n=false:=by unfold rZ;rw[bY,aq (by omega)];rfl
 unfold C1 yr;rw[et,ao,oF,oE];exact hK
def Nv{r:Nat}{l:List UInt8}{n:Nat}{K:VK}(h:St W w L)(hk:L[k]?=some (C0 r (bs l) false))(hn:n<=l.length)
 (hK:∀w',St W w' (L.set k (C0 r (bs (l.drop n)) false))->K (.s (bs (l.take n))) w'):fa (ah r) n K w:=by
 refine FK h hk ?_;have et:rZ (bs l) false n=false:=by unfold rZ;rw[bY,aq (by omega)];rfl
 unfold C1 yr;rw[et,ao,oF,oE];exact hK
end
def nD{l:List UInt8}(h:l.length<=7):mS l=(nB l:Int):=by
 have h1:=ry l;have h2:256^l.length<=256^7:=gv (by decide) h;have h3:(256:Nat)^7=72057594037927936:=rfl;unfold mS;rw[aW (by omega)]
def sN(l:List UInt8):Int:=mS (l.take 8)
def sI(l:List UInt8):Int:=mS ((l.drop 8).take 2)
def sM(l:List UInt8):Nat:=nB (((l.drop 8).drop 2).take 2)
def mz(l:List UInt8):List UInt8:=((l.drop 8).drop 2).drop 2
def sD(l:List UInt8):List UInt8:=(mz l).take (sM l)
def sZ(l:List UInt8):List UInt8:=((mz l).drop (sM l)).take (104-sM l)
def Cn(l:List UInt8):Int:=mS (((((mz l).drop (sM l)).drop (104-sM l)).drop 4).take 8)
def lJ(l:List UInt8):Option (Int×Int×BA):=
 if ¬l.length=128 then none
 else if tF (l.take 120)=false then none
 else if 104<sM l then none
 else if ¬Cn l=sN l then none
 else if ¬sZ l=bn (sZ l).length 0 then none
 else if ¬fk (sN l) (sI l) (bs (sD l)) then none
 else some (sN l,sI l,bs (sD l))
def tU:Option (Int×Int×BA)->Value
 |none=>.tuple ⟨[.agg ⟨[.i 0,.i 0,.s .empty]⟩,.b false]⟩
 |some (n,i,d)=>.tuple ⟨[.agg ⟨[.i n,.i i,.s d]⟩,.b true]⟩
section
variable {W w:World} {L:LH}
def Ca{l:List UInt8}{K:VK}(h:St W w L)(hl:l.length<1099511627776)(hK:∀w',St W w' L->K (tU (lJ l)) w'):lC (bs l) K w:=by
 unfold lJ at hK;unfold lC;refine iS h λr1 w hs=>?_;rw[bY];have Yw:(∀w',St W w' L->K (tU none) w')->∀w,St W w (pt r1 [.i 0,.i 0,.s .empty]::L)->lC.j1 K r1 (bs l) true w:=λhK w hs=>by
  unfold lC.j1;simp only[nz,ae,af];refine jK (k:=0) hs rfl (aJ rfl) (by simp[Value.oneCell']) λw hs=>?_;rw[iC (by simp)] at hs;refine jQ (k:=0) (xs:=[.i 0,.i 0,.s .empty]) hs rfl rfl (λj v hj=>by rw[aC];exact hj) ?_;exact hK w hs.drop
 refine uP (λkd=>?_) (λhe=>?_)
 ·rw[ai (by omega)] at hK;exact Yw hK w hs
 have BX:l.length=128:=by omega
 rw[ag (by omega)] at hK;unfold mj;dsimp only;refine⟨⟨by omega,by rw[bY];omega⟩,?_⟩;rw[show(120:Int).toNat=120 from rfl,oF];refine NA hs (by rw[aD];omega) λw hs=>?_;simp only[nz,ae,af];cases hh:tF (l.take 120) with
 |false=>
  rw[ai hh] at hK;exact Yw hK w hs
 |true=>
 rw[ag (by rw[hh];exact q8)] at hK;unfold lC.j1;simp only[nz,ae,af];refine sq hs λq w hs=>?_;simp only[nz,ae,af];refine Jg (k:=0) (n:=8) hs rfl (by decide) (by decide) (by omega) λw hs=>?_;simp only[nz,ae,af] at hs⊢;have l8:(l.drop 8).length=120:=by rw[aS];omega
 refine Jg (k:=0) (n:=2) hs rfl (by decide) (by decide) (by omega) λw hs=>?_;simp only[nz,ae,af] at hs⊢;have l10:((l.drop 8).drop 2).length=118:=by rw[aS];omega
 refine iS hs λr2 w hs=>?_;refine⟨by simp,?_⟩;refine jK (k:=0) hs rfl (aJ rfl) (by simp[Value.oneCell']) λw hs=>?_;rw[iC (by simp)] at hs;simp only[nz,ae,af] at hs;refine Jg (k:=1) (n:=2) hs rfl (by decide) (by decide) (by omega) λw hs=>?_;simp only[nz,ae,af] at hs⊢;have em:mS (((l.drop 8).drop 2).take 2)=(sM l:Int):=nD (by rw[aD];omega);have en:mS (l.take 8)=sN l:=rfl;have ei:mS ((l.drop 8).take 2)=sI l:=rfl;have er:((l.drop 8).drop 2).drop 2=mz l:=rfl;have lr:(mz l).length=116:=by unfold mz;rw[aS];omega
 rw[em];rw[en,ei,er] at hs;have OX:(∀w',St W w' L->K (tU none) w')->∀w A B,St W w (A::B::pt r1 [.i 0,.i 0,.s .empty]::L)->ch True (ch True (jC ⟨r1,0,none⟩ [.i 0,.i 0,.s .empty] (aI ⟨r1,0,none⟩ 3 λcs=>K (.tuple ⟨[.agg ⟨cs⟩,.b false]⟩)))) w:=λhK w A B hs=>by
  refine⟨trivial,trivial,?_⟩;refine jK (k:=2) hs rfl (aJ rfl) (by simp[Value.oneCell']) λw hs=>?_;rw[iC (by simp)] at hs;refine jQ (k:=2) (xs:=[.i 0,.i 0,.s .empty]) hs rfl rfl (λj v hj=>by rw[aC];exact hj) ?_;exact hK w hs.drop.drop.drop
 refine tv (λOL=>?_) (λhle=>?_)
 ·have OL:=aQ OL;rw[ai (by omega)] at hK;exact OX hK w _ _ hs
 have hle:=bj hle;rw[ag (by omega)] at hK;refine Nv (k:=1) (n:=sM l) hs rfl (by omega) λw hs=>?_;simp only[nz,ae,af] at hs⊢;have ed:(mz l).take (sM l)=sD l:=rfl;rw[ed];refine oz (k:=0) hs rfl (aJ rfl) rfl λw hs=>?_;simp only[nz,ae,af] at hs;have ew:aa.wrap (104-(sM l:Int))=((104-sM l:Nat):Int):=by rw[aW (by omega)];omega
 rw[ew];have lrm:((mz l).drop (sM l)).length=116-sM l:=by rw[aS,lr]
 refine Nv (k:=1) (n:=104-sM l) hs rfl (by omega) λw hs=>?_;simp only[nz,ae,af] at hs⊢;have ez:((mz l).drop (sM l)).take (104-sM l)=sZ l:=rfl;rw[ez];have lrz:(((mz l).drop (sM l)).drop (104-sM l)).length=12:=by rw[aS,lrm];omega
 refine Nv (k:=1) (n:=4) hs rfl (by omega) λw hs=>?_;simp only[nz,ae,af] at hs⊢;have lrc:((((mz l).drop (sM l)).drop (104-sM l)).drop 4).length=8:=by rw[aS,lrz]
 refine lX hs λw hs=>?_;refine cT (k:=0) hs rfl rfl ?_;simp only[nz,ae,af];refine Jg (k:=1) (n:=8) hs rfl (by decide) (by decide) (by omega) λw hs=>?_;simp only[nz,ae,af] at hs⊢;refine ka (k:=0) hs rfl rfl ?_;have et:mS (((((mz l).drop (sM l)).drop (104-sM l)).drop 4).take 8)=Cn l:=rfl;rw[et];refine uP (λkd=>?_) (λheq=>?_)
 ·rw[ai kd] at hK;exact OX hK w _ _ hs
 rw[ag (λhh=>hh heq)] at hK;refine QV hs (by unfold sZ;rw[aD];omega) λs5 w hr hs=>?_;simp only[nz,ae,af];refine ka (k:=0) hs rfl rfl ?_;have aeg:(⟨#[]⟩:BA)=.empty:=rfl;rw[sr,aeg];by_cases hz:sZ l=bn (sZ l).length 0
 ·rw[ag (λhh=>hh hz)] at hK;rw[av (hr.2 hz)];simp only[nz,ae,af];refine jQ (k:=0) (xs:=[.i (sN l),.i (sI l),.s (bs (sD l))]) hs rfl rfl (λj v hj=>by rw[aC];exact hj) ?_;refine Hw hs λw hs=>?_;simp only[nz,ae,af];refine ka (k:=0) hs rfl rfl ?_;by_cases hg:fk (sN l) (sI l) (bs (sD l))
  ·rw[ag (λhh=>hh hg)] at hK;rw[av hg];simp only[nz,ae,af];refine jQ (k:=0) (xs:=[.i (sN l),.i (sI l),.s (bs (sD l))]) hs rfl rfl (λj v hj=>by rw[aC];exact hj) ?_;refine⟨rfl,?_⟩;refine jK (k:=2) hs rfl (aJ rfl) (by simp[Value.oneCell']) λw hs=>?_;rw[iC (by simp)] at hs;simp only[nz,ae,af] at hs;refine jQ (k:=2) (xs:=[.i (sN l),.i (sI l),.s (bs (sD l))]) hs rfl rfl (λj v hj=>by rw[aC];exact hj) ?_;exact hK w hs.drop.drop.drop
  ·rw[ai hg] at hK;rw[aq hg];simp only[nz,ae,af];exact(OX hK w _ _ hs).2.2
 ·rw[ai hz] at hK;rw[aq (λhh=>hz (hr.1 hh))];simp only[nz,ae,af];exact(OX hK w _ _ hs).2.2
end
def mQ(D:aX)(at' number:Int)(size:Nat):Nat->Nat->Option (List UInt8)
 |_,0=>some []
 |i,n+1=>match lJ (D.read (at'+i)).1.data.toList with
  |none=>none
  |some (m,j,d)=>if m=number/\j=i/\d.size=min (size-104* i) 104 then(mQ D at' number size (i+1) n).map (d.data.toList++·) else none
def take(D:aX)(at' toX number size:Int):Option (List UInt8):=
 if at'<0\/(D.safe.length:Int)<toX\/toX<at'\/size<0\/425984<size\/toX-at'<(gj size.toNat:Int) then none else mQ D at' number size.toNat 0 (gj size.toNat)
def sL:Option (List UInt8)->Value
 |none=>.tuple ⟨[.s .empty,.b false]⟩
 |some l=>.tuple ⟨[.s (bs l),.b true]⟩
def oH(D:aX)(at' number:Int)(size i n:Nat):mQ D at' number size i (n+1)=match lJ (D.read (at'+i)).1.data.toList with
 |none=>none
 |some (m,j,d)=>if m=number/\j=i/\d.size=min (size-104* i) 104 then(mQ D at' number size (i+1) n).map (d.data.toList++·) else none:=rfl
def Qh{B b:Nat}{l:List UInt8}{w w':World}(h:X7 B b l w)(hb:Below w.heap.size w w'):X7 B b l w':=by
 have key:∀p,Go.Lib.BuilderAt XL Y1 B b p (Go.Lib.byteCells l) w->Go.Lib.BuilderAt XL Y1 B b p (Go.Lib.byteCells l) w':=by
  intro p h;have cf:=h.lt;obtain⟨hB,v,Bo,ab1,kd⟩:=h;refine⟨hB,v,by rw[hb.block b cf];exact Bo,?_,kd⟩;refine⟨ab1.1,?_⟩;rcases ab1.2 with h0|⟨g,cap,cur,h1,h2,h3,h4⟩
  ·exact .inl h0
  ·refine .inr ⟨g,cap,cur,h1,h2,?_,h4⟩;have hg:g<w.heap.size:=(Array.getElem?_eq_some_iff.1 h3).1;rw[hb.block g hg];exact h3
 rcases h with h|h
 ·exact .inl (key _ h)
 ·exact .inr (key _ h)
def V'{w:World}:X7 w.heap.size w.heap.size [] (w.alloc (.cells ⟨[.p none,.l none 0 0]⟩ XL)):=by
 refine .inl ⟨aG _,.l none 0 0,?_,?_,by intro h;cases h⟩
 ·show(w.heap.push _)[w.heap.size]?=_;rw[Array.getElem?_push_size]
 ·exact⟨rfl,.inl ⟨rfl,rfl⟩⟩
section
variable {W w:World} {L:LH} {k d:Nat} {D:aX}
def I9{at' number:Int}{size:Nat}{b:Bool}{K:VK}(h:St W w L)(hk:L[k]?=some (gJ d D))(ix:D.Ok)(Bp:b=false->0<=at'/\at'+(gj size:Int)<=D.safe.length)(se:size<=425984)
 (hK:∀w',St W w' L->K (sL (if b then none else mQ D at' number size 0 (gj size))) w'):iO.j1 K size (ah d) at' number b w:=by
 have wj:=ix.ou;unfold iO.j1;refine tv (λhb=>?_) (λhb=>?_)
 ·rw[ai hb] at hK;exact hK w h
 rw[ag (by rw[hb];exact q8)] at hK;obtain⟨h0,UB⟩:=Bp hb;generalize X9:w=w0 at *;show mkT XL [.p none,.l none 0 0] _ w0;unfold mkT;have hB0:=V' (w:=w0);have Yt:Below w0.heap.size w0 (w0.alloc (.cells ⟨[.p none,.l none 0 0]⟩ XL)):=Below.alloc (Below.refl _ _) (aG _) _;generalize ZU:w0.alloc (.cells ⟨[.p none,.l none 0 0]⟩ XL)=w1 at *;generalize hq:w0.heap.size=q at *;refine q6 (by omega) ?_;simp only[nz,ae,af];refine⟨λus w'=>∃(j:Nat)(l:List UInt8),us=[.s .empty,.b false,.p (ah q),.i (gj size),.i j]/\j<=gj size/\l.length<=104* j/\X7 q q l w'/\Below q w0 w'/\q<=w'.heap.size/\
    mQ D at' number size 0 (gj size)=(mQ D at' number size j (gj size-j)).map (l++·),
  λus _=>match us with|[_,_,_,_,.int _ j]=>gj size-j.toNat|_=>0,⟨0,[],rfl,aE _,aG _,hB0,Yt,?_,?_⟩,?_⟩
 ·have:=Yt.size;omega
 ·cases mQ D at' number size 0 (gj size)<;>simp
 rintro s1 b2 a1 n6 n7 w2 ⟨j,l,he,hj,Ho,hB,aag,hqs,qV⟩;cases he
 have hs:St W w2 L:=h.tw (by rw[hq];exact aag);have LZ:gj size<=4096:=by unfold gj;split<;>omega
 refine fJ (λcf=>?_) (λiM=>?_)
 ·have ea:aa.wrap (at'+(j:Int))=at'+j:=aW (by omega);rw[ea];refine rU hs hk ix ?_;simp only[nz,ae,af];have ahk:=yO ix (i:=at'+j) ⟨by omega,by omega⟩;obtain⟨p,hp⟩:∃p,gj size-j=p+1:=⟨gj size-j-1,by omega⟩;rw[hp,oH] at qV;generalize hx:(D.read (at'+(j:Int))).1=x at *;rw[show x=bs x.data.toList from rfl];refine Ca (St.start w2) (by rw[eJ];omega) λw3 vQ=>?_;have hb3:=vQ.below;have Ta:Below q w0 w3:=aag.trans (hb3.mono hqs);have ft:St W w3 L:=h.tw (by rw[hq];exact Ta);have no:mQ D at' number size 0 (gj size)=none->∀w',Below q w0 w'->K (.tuple ⟨[.s .empty,.b false]⟩) w':=λhn w' hb=>by
   have:=hK w' (h.tw (by rw[hq];exact hb));rw[hn] at this;exact this
  cases hv:lJ x.data.toList with
  |none=>
   rw[hv] at qV;unfold tU;simp only[nz,ae,af];simp only[xD,bt,cH,aC,ae,true_and];simp only[nz,ae,af];refine iS (St.start w3) λr w4 yb=>?_;refine⟨trivial,jK (k:=0) yb rfl (aJ rfl) (by simp[Value.oneCell']) λw4 yb=>?_⟩;exact no (by rw[qV];rfl) w4 (Ta.trans (yb.below.mono (by have:=hb3.size;omega)))
  |some y=>
   obtain⟨m,i,dd⟩:=y;rw[hv] at qV;dsimp only at qV;unfold tU;simp only[nz,ae,af];simp only[xD,bt,cH,aC,ae,true_and];simp only[nz,ae,af];refine iS (St.start w3) λr w4 yb=>?_;refine⟨trivial,jK (k:=0) yb rfl (aJ rfl) (by simp[Value.oneCell']) λw4 yb=>?_⟩;rw[iC (by simp)] at yb;simp only[nz,ae,af] at yb;have Hs:Below q w0 w4:=Ta.trans (yb.below.mono (by have:=hb3.size;omega));refine cT (k:=0) yb rfl rfl ?_;simp only[nz,ae,af];refine uP (λkd=>?_) (λhmn=>?_)
   ·exact no (by rw[qV,ag (λhh=>kd hh.1)];rfl) w4 Hs
   refine cT (k:=0) yb rfl rfl ?_;simp only[nz,ae,af];refine uP (λkd=>?_) (λLW=>?_)
   ·exact no (by rw[qV,ag (λhh=>kd hh.2.1)];rfl) w4 Hs
   refine cT (k:=0) yb rfl rfl ?_;simp only[nz,ae,af];have e1:aa.wrap ((j:Int)* 104)=(j:Int)* 104:=aW (by omega);have e2:aa.wrap ((size:Int) -(j:Int)* 104)=(size:Int) -(j:Int)* 104:=aW (by omega);have Wt:104* j<=size:=by
    rcases Nat.eq_zero_or_pos j with h0|h0
    ·omega
    ·have:=(Nb (n:=size) h0).2 (by omega);omega
   have e3:min2 ((size:Int) -(j:Int)* 104) 104=((min (size-104* j) 104:Nat):Int):=by unfold min2;split<;>omega
   rw[e1,e2,e3];refine uP (λkd=>?_) (λhds=>?_)
   ·exact no (by rw[qV,ag (λhh=>kd (by rw[hh.2.2]))];rfl) w4 Hs
   have aeh:dd.size=min (size-104* j) 104:=by omega
   refine cT (k:=0) yb rfl rfl ?_;simp only[nz,ae,af];rw[ai ⟨hmn,LW,aeh⟩] at qV;have hB4:X7 q q l w4:=Qh hB (hb3.trans (yb.below.mono hb3.size));refine⟨q,q,l,rfl,hB4,by omega,(by have:=Hs.size;omega),λw5 hB5 Ys=>?_⟩;simp only[nz,ae,af];have e5:=nL j;rw[e5];have E2:gj size-(j+1)=p:=by omega
   refine⟨⟨j+1,_,rfl,by omega,?_,hB5,Hs.trans Ys,?_,?_⟩,by omega⟩
   ·rw[au,eJ];omega
   ·have:=Ys.size;have:=Hs.size;omega
   ·rw[qV,E2];cases mQ D at' number size (j+1) p<;>simp[aH]
 ·have hje:j=gj size:=by omega
  refine⟨q,q,l,rfl,hB,hqs,λw' hb=>?_⟩;simp only[nz,ae,af];have:=hK w' (h.tw (by rw[hq];exact aag.trans hb));rw[qV,hje,lu] at this;simp only[mQ,eW,bI,sL] at this;exact this
def HQ{at' toX number size:Int}{K:VK}(h:St W w L)(hk:L[k]?=some (gJ d D))(ix:D.Ok)(hK:∀w',St W w' L->K (sL (take D at' toX number size)) w'):iO (ah d) at' toX number size K w:=by
 have wj:=ix.ou;have bad:(at'<0\/(D.safe.length:Int)<toX\/toX<at'\/size<0\/425984<size\/toX-at'<(gj size.toNat:Int))->iO.j1 K size (ah d) at' number true w:=λhb=>by
  unfold iO.j1;rw[kG];have:=hK w h;unfold take at this;rw[ai hb] at this;exact this
 unfold iO;refine fJ (λh1=>bad (.inl h1)) (λh1=>?_);refine nu h hk ?_;simp only[nz,ae,af];refine fJ (λh2=>bad (.inr (.inl h2))) (λh2=>?_);refine fJ (λh3=>bad (.inr (.inr (.inl h3)))) (λh3=>?_);refine fJ (λh4=>bad (.inr (.inr (.inr (.inl h4))))) (λh4=>?_);refine tv (λh5=>bad (.inr (.inr (.inr (.inr (.inl (aQ h5))))))) (λh5=>?_);have h5:=bj h5;obtain⟨m,rfl⟩:=bm (show 0<=size by omega);refine q6 (by omega) ?_;simp only[nz,ae,af];have ew:aa.wrap (toX-at')=toX-at':=aW (by omega);rw[ew];refine I9 h hk ix (λhb=>?_) (by omega) λw' hs=>?_
 ·have:=bj hb;omega
 ·have:=hK w' hs;unfold take at this;rw[ao] at this;by_cases h6:toX-at'<(gj m:Int)
  ·rw[ai (by omega)] at this;have e:decide ((gj m:Int)>toX-at')=true:=av (by omega);rw[e,ai rfl];exact this
  ·rw[ag (by omega)] at this;have e:decide ((gj m:Int)>toX-at')=false:=aq (by omega);rw[e,ag q8];exact this
end
def Ow{at' number:Int}{s:BA}(pO:1<=number/\number<=1152921504606846976)(Bp:0<=at'):∀(n i:Nat) {D:aX},D.arm=0->at'+i+n<=D.safe.length->i+n<=4096->
 (o5 at' number s D i n).2=0/\(o5 at' number s D i n).1.arm=0/\(o5 at' number s D i n).1.safe=D.safe/\(o5 at' number s D i n).1.later.length=D.later.length+n/\
 ∀j:Int,(j<at'+i\/at'+i+n<=j)->(o5 at' number s D i n).1.now j=D.now j
 |0,i,D,ha,hr,hi=>⟨rfl,ha,rfl,rfl,λ_ _=>rfl⟩
 |n+1,i,D,ha,hr,hi=>by
  have hg:fk number i (part s i):=⟨pO.1,pO.2,by omega,by omega,mX s i⟩;have se:=ui hg;have hi:D.is (at'+i):=⟨by omega,by omega⟩;have zg: ¬(¬D.is (at'+i)\/128<(leaf number i (part s i)).size):=by
   rintro(hh|hh)
   ·exact hh hi
   ·omega
  have hw:D.write (at'+i) (leaf number i (part s i))=({Go.cD.aX.tick D with later:=D.later++[(at'+i,aX.pad (leaf number i (part s i)))]},0):=by
   rw[Dk.HV ha,ag zg]
  have hn:=λj=>Dk.EM ha (at'+i) j (leaf number i (part s i));unfold o5;have h0:(D.write (at'+i) (leaf number i (part s i))).2=0:=by rw[hw]
  rw[ag (by rw[h0];exact λhh=>hh rfl)];have hlen:(D.write (at'+i) (leaf number i (part s i))).1.later.length=D.later.length+1:=by rw[hw];simp
  have th:=(sn D (at'+i) (leaf number i (part s i))).1;have WA:=Dk.DP ha (at'+i) (leaf number i (part s i));have ih:=Ow pO Bp (s:=s) n (i+1) (D:=(D.write (at'+i) (leaf number i (part s i))).1) WA (by rw[th];omega) (by omega);refine⟨ih.1,ih.2.1,ih.2.2.1.trans th,by rw[ih.2.2.2.1,hlen];omega,λj hj=>?_⟩;rw[ih.2.2.2.2 j (by omega),hn j,ag (λhh=>by have:=hh.2;omega)]
section
variable {W w:World} {L:LH}
end
def Ni(m i:Nat)(hi:i<8):(byteOf .i64 (m:Int) i).toNat=m/256^i%256:=by
 have hp:(256:Nat)^i=2^(8* i):=by rw[show(256:Nat)=2^8 from rfl,<-Nat.pow_mul]
 have e1:shr .i64 (m:Int) (8* (i:Int))=((m/256^i:Nat):Int):=by
  unfold shr;have h1:(8* (i:Int)).toNat=8* i:=by omega
  have h2:min (8* i) aa.bits=8* i:=by show min (8* i) 64=_;omega
  rw[h1,h2,hp,F3 _ (Int.le_of_lt (Int.pow_pos (by decide)))]
  push_cast
  rfl
 have e2:IntKind.u8.wrap ((m/256^i:Nat):Int)=((m/256^i%256:Nat):Int):=by
  generalize m/256^i=z;simp[IntKind.wrap,IntKind.bits,IntKind.signed]
 unfold byteOf;rw[e1,e2,ao,UInt8.toNat_ofNat_of_lt' (Nat.mod_lt _ (by decide))]
def le_succ(k:IntKind)(w:Nat)(n:Int):le k (w+1) n=le k w n++[byteOf k n w]:=by
 unfold le;rw[List.range_succ,cR];rfl
def rz(m:Nat):∀w,w<=8->nB (le .i64 w (m:Int))=m%256^w
 |0,_=>by simp[le,nB,Nat.mod_one]
 |w+1,h=>by
  rw[le_succ,sV,rz m w (by omega),Ni m w (by omega),aO,Nat.mod_pow_succ,vB]
def oZ{n:Int}(h:0<=n/\n<=1152921504606846976):mS (le .i64 8 n)=n:=by
 obtain⟨m,rfl⟩:=bm h.1;unfold mS;rw[rz m 8 (by omega)];have h8:(256:Nat)^8=18446744073709551616:=rfl;rw[h8,fw (by omega),aW (by omega)]
def Jw{m:Nat}(h:m<65536):nB (le .i64 2 (m:Int))=m:=by
 rw[rz m 2 (by omega)];exact fw h
def oK{n i:Int}{s:BA}(h:fk n i s):lJ (ml n i s)=some (n,i,s):=by
 obtain⟨h1,h2,h3,h4,h5⟩:=h;have hl:(ml n i s).length=128:=wY h5;have Q5:(pre n i s).length=116:=qS h5;have hd:s.data.toList.length=s.size:=rfl;have hc:(vL (sY 0 (pre n i s))).length=4:=aO _ _ _;have xg:ml n i s=le .i64 8 n++(le .i64 2 i++(le .i64 2 s.size++(s.data.toList++(bn (104-s.size) 0++(vL (sY 0 (pre n i s))++le .i64 8 n))))):=by
  simp only[ml,pre,aH]
 have t120:(ml n i s).take 120=pre n i s++vL (sY 0 (pre n i s)):=by
  unfold ml;rw[List.take_append_of_le_length (by rw[au,Q5,hc];omega),bM (by rw[au,Q5,hc];omega)]
 have hh:tF ((ml n i s).take 120)=true:=by
  rw[t120];unfold tF;have hlen:(pre n i s++vL (sY 0 (pre n i s))).length=120:=by rw[au,Q5,hc]
  rw[hlen,show 120-4=(pre n i s).length from by rw[Q5],Cc,List.drop_left,beq_self_eq_true]
  rfl
 have tl:∀(a b:List UInt8)(m:Nat),a.length=m->(a++b).take m=a:=λa b m hm=>by subst hm;exact Cc
 have dl:∀(a b:List UInt8)(m:Nat),a.length=m->(a++b).drop m=b:=λa b m hm=>by subst hm;exact List.drop_left
 have d8:(ml n i s).drop 8=le .i64 2 i++(le .i64 2 s.size++(s.data.toList++(bn (104-s.size) 0++(vL (sY 0 (pre n i s))++le .i64 8 n)))):=by rw[xg,dl _ _ _ (aO _ _ _)]
 have d10:((ml n i s).drop 8).drop 2=le .i64 2 s.size++(s.data.toList++(bn (104-s.size) 0++(vL (sY 0 (pre n i s))++le .i64 8 n))):=by rw[d8,dl _ _ _ (aO _ _ _)]
 have hr:mz (ml n i s)=s.data.toList++(bn (104-s.size) 0++(vL (sY 0 (pre n i s))++le .i64 8 n)):=by unfold mz;rw[d10,dl _ _ _ (aO _ _ _)]
 have eN:sN (ml n i s)=n:=by unfold sN;rw[xg,tl _ _ _ (aO _ _ _),oZ ⟨by omega,h2⟩]
 have eI:sI (ml n i s)=i:=by
  unfold sI;rw[d8,tl _ _ _ (aO _ _ _),nD (by rw[aO];omega)];obtain⟨m,rfl⟩:=bm h3;rw[Jw (by omega)]
 have eM:sM (ml n i s)=s.size:=by
  unfold sM;rw[d10,tl _ _ _ (aO _ _ _),Jw (by omega)]
 have eD:sD (ml n i s)=s.data.toList:=by unfold sD;rw[eM,hr,tl _ _ _ hd]
 have dr:(mz (ml n i s)).drop s.size=bn (104-s.size) 0++(vL (sY 0 (pre n i s))++le .i64 8 n):=by rw[hr,dl _ _ _ hd]
 have eZ:sZ (ml n i s)=bn (104-s.size) 0:=by unfold sZ;rw[eM,dr,tl _ _ _ (by simp)]
 have eT:Cn (ml n i s)=n:=by
  unfold Cn;rw[eM,dr,dl _ _ _ (by simp),dl _ _ _ hc,bM (by rw[aO];omega),oZ ⟨by omega,h2⟩]
 have hg:fk (sN (ml n i s)) (sI (ml n i s)) (bs (sD (ml n i s))):=by
  rw[eN,eI,eD,O6];exact⟨h1,h2,h3,h4,h5⟩
 unfold lJ;rw[ag (λhx=>hx hl),ag (by rw[hh];exact q8),ag (by rw[eM];omega),ag (λhx=>hx (by rw[eT,eN])),ag (λhx=>hx (by rw[eZ];simp)),ag (λhx=>hx hg),eN,eI,eD,O6]
def yp:lJ (mP 128).data.toList=none:=by decide+kernel
def Oj{s:BA}(h:s.size=128):aX.pad s=s:=by
 unfold aX.pad;rw[h];apply kx;rw[ByteArray.data_append,Array.toList_append];simp[mP]
def Ov{at' number:Int}{s:BA}(pO:1<=number/\number<=1152921504606846976)(Bp:0<=at'):∀(n i:Nat) {D:aX},D.arm=0->at'+i+n<=D.safe.length->i+n<=4096->
 ∀q,i<=q->q<i+n->(o5 at' number s D i n).1.now (at'+q)=leaf number q (part s q)
 |0,i,D,ha,hr,hi,q,h1,h2=>by omega
 |n+1,i,D,ha,hr,hi,q,h1,h2=>by
  have hg:fk number i (part s i):=⟨pO.1,pO.2,by omega,by omega,mX s i⟩;have se:=ui hg;have uY:D.is (at'+i):=⟨by omega,by omega⟩;have zg: ¬(¬D.is (at'+i)\/128<(leaf number i (part s i)).size):=by
   rintro(hh|hh)
   ·exact hh uY
   ·omega
  have hw:D.write (at'+i) (leaf number i (part s i))=({Go.cD.aX.tick D with later:=D.later++[(at'+i,aX.pad (leaf number i (part s i)))]},0):=by
   rw[Dk.HV ha,ag zg]
  have h0:(D.write (at'+i) (leaf number i (part s i))).2=0:=by rw[hw]
  have th:=(sn D (at'+i) (leaf number i (part s i))).1;have WA:=Dk.DP ha (at'+i) (leaf number i (part s i));unfold o5;rw[ag (by rw[h0];exact λhh=>hh rfl)];by_cases hq:q=i
  ·subst hq;have:=(Ow pO Bp (s:=s) n (q+1) (D:=(D.write (at'+q) (leaf number q (part s q))).1) WA (by rw[th];omega) (by omega)).2.2.2.2 (at'+q) (by omega);rw[this,Dk.EM ha,ai ⟨⟨uY,by omega⟩,rfl⟩,Oj se]
  ·exact Ov pO Bp (s:=s) n (i+1) WA (by rw[th];omega) (by omega) q (by omega) (by omega)
def Bs{D:aX}{at' number:Int}{size:Nat}{s:BA}:∀(n i:Nat),(∀q,i<=q->q<i+n->lJ (D.read (at'+q)).1.data.toList=some (number,(q:Int),part s q)/\(part s q).size=min (size-104* q) 104)->
 mQ D at' number size i n=some ((s.data.toList.drop (104* i)).take (104* n))
 |0,i,_=>by simp[mQ]
 |n+1,i,h=>by
  obtain⟨h1,h2⟩:=h i (aG _) (by omega);rw[oH,h1];dsimp only;rw[ai ⟨rfl,rfl,h2⟩,Bs n (i+1) (λq hq Wg=>h q (by omega) (by omega))];have e:(part s i).data.toList=(s.data.toList.drop (104* i)).take 104:=by
   unfold part;rw[extract_toList];congr 1;omega
  rw[e,eW]
  congr 1
  rw[show 104* (n+1)=104+104* n from by omega,List.take_add,jz,show 104* i+104=104* (i+1) from by omega]
section
variable {W w:World} {L:LH}
end
def Ce(n:Int):0<=IntKind.u64.wrap n/\IntKind.u64.wrap n<18446744073709551616:=by
 simp[IntKind.wrap,IntKind.bits,IntKind.signed];omega
def TM(n:Int)(i:Nat)(hi:i<8):IntKind.u8.wrap (shr .i64 n (8* (i:Int)))=IntKind.u8.wrap ((((IntKind.u64.wrap n).toNat/256^i:Nat):Int)):=by
 have hu:(((IntKind.u64.wrap n).toNat:Nat):Int)=n%18446744073709551616:=by
  have:=Ce n;rw[Int.toNat_of_nonneg this.1];simp[IntKind.wrap,IntKind.bits,IntKind.signed]
 generalize (IntKind.u64.wrap n).toNat=U at *;have e8:∀x:Int,IntKind.u8.wrap x=x%256:=λx=>by simp[IntKind.wrap,IntKind.bits,IntKind.signed]
 rw[e8,e8];unfold shr;rw[F3 _ (Int.le_of_lt (Int.pow_pos (by decide)))]
 match i,hi with
 |0,_=>show(n/1)%256=(((U/1:Nat):Int))%256;omega
 |1,_=>show(n/256)%256=(((U/256:Nat):Int))%256;omega
 |2,_=>show(n/65536)%256=(((U/65536:Nat):Int))%256;omega
 |3,_=>show(n/16777216)%256=(((U/16777216:Nat):Int))%256;omega
 |4,_=>show(n/4294967296)%256=(((U/4294967296:Nat):Int))%256;omega
 |5,_=>show(n/1099511627776)%256=(((U/1099511627776:Nat):Int))%256;omega
 |6,_=>show(n/281474976710656)%256=(((U/281474976710656:Nat):Int))%256;omega
 |7,_=>show(n/72057594037927936)%256=(((U/72057594037927936:Nat):Int))%256;omega
section
variable {W w:World} {L:LH}
def yR{m n:Int}{K:VK}(h:St W w L)(hK:∀w',St W w' L->K (.s (bs (le .i64 (min2 (max2 m 1) 8).toNat n))) w'):bF m n K w:=by
 have hm:1<=min2 (max2 m 1) 8/\min2 (max2 m 1) 8<=8:=by unfold min2 max2;split<;>split<;>omega
 unfold bF;generalize min2 (max2 m 1) 8=q at *;have hu:=Ce n;refine⟨λus w'=>∃j:Nat,us=[.s .empty,.i q,.u (((IntKind.u64.wrap n).toNat/256^j:Nat):Int),.s (bs (le .i64 j n)),.i j]/\(j:Int)<=q/\St W w' L,
  λus _=>match us with|[_,_,_,_,.int _ j]=>(q-j).toNat|_=>0,⟨0,?_,by omega,h⟩,?_⟩
 ·rw[Nat.pow_zero,Nat.div_one,Int.toNat_of_nonneg hu.1];rfl
 rintro s1 n3 n4 s2 n5 w2 ⟨j,he,hj,hs⟩;cases he
 refine fJ (λh0=>?_) (λh0=>?_)
 ·have hj8:j<8:=by omega
  have hb:=TM n j hj8;have ahz:(IntKind.u64.wrap n).toNat<18446744073709551616:=by omega
  generalize hU:(IntKind.u64.wrap n).toNat=U at *;have hle:U/256^j<=U:=Nat.div_le_self _ _;have ve:U/256^(j+1)=U/256^j/256:=by rw[Nat.div_div_eq_div_mul,<-y8]
  generalize U/256^j=V at *;have et:((V:Nat):Int).tmod 256=((V%256:Nat):Int):=by rw[dN (by omega)];rfl
  have ed:((V:Nat):Int).tdiv 256=((V/256:Nat):Int):=by rw[Int.tdiv_eq_ediv_of_nonneg (by omega)];rfl
  have ew:IntKind.u64.wrap ((V/256:Nat):Int)=((V/256:Nat):Int):=rX (by omega);have e5:=nL j;have w8:∀z:Nat,IntKind.u8.wrap ((z%256:Nat):Int)=IntKind.u8.wrap ((z:Nat):Int):=λz=>by simp[IntKind.wrap,IntKind.bits,IntKind.signed]
  have zw:Value.int .u8 (IntKind.u8.wrap (((V:Nat):Int).tmod 256))=u4 (byteOf .i64 n j):=by
   unfold byteOf;rw[ue (wK _),hb,et,w8]
  rw[zw,ed,ew,e5];refine⟨by decide,⟨rfl,trivial⟩,iS hs λr w hs=>?_⟩;refine Np (k:=0) (l:=[byteOf .i64 n j]) hs rfl rfl ?_;rw[lg,<-le_succ];refine⟨by rw[bY,bY,aO];simp;omega,by decide,?_⟩;exact⟨⟨j+1,by rw[ve],by omega,hs.drop⟩,by dsimp only;omega⟩
 ·have:q.toNat=j:=by omega
  rw[this] at hK;exact hK _ hs
end
end Go.Sep
namespace Go.Up
open Go.Sep Go.Den Go.RowKit Go.Prog Go.Md
def A4{α:Type}{f:α->LV}{e:Nat}(hf:∀x,(f x).length=e):∀l:List α,(l.flatMap f).length=l.length* e
 |[]=>by simp
 |x::l=>by rw[iB,au,hf,A4 hf l,bt,lO];omega
def qz{α:Type}{f:α->LV}{e:Nat}(hf:∀x,(f x).length=e):∀(l:List α)(i:Nat)(x:α),l[i]?=some x->∀j v,(f x)[j]?=some v->(l.flatMap f)[i* e+j]?=some v
 |[],i,x,h,j,v,hj=>by simp at h
 |y::l,0,x,h,j,v,hj=>by
  simp at h;subst h;rw[iB,Nat.zero_mul,aC,dB (aw.1 hj).1];exact hj
 |y::l,i+1,x,h,j,v,hj=>by
  rw[iB,iz (by rw[hf,lO];omega),hf,show(i+1)* e+j-e=i* e+j by rw[lO];omega];exact qz hf l i x (by simpa using h) j v hj
def Fa{α:Type}{f:α->LV}{e:Nat}(hf:∀x,(f x).length=e):∀(l:List α)(i:Nat)(x:α),i<l.length->over (l.flatMap f) (i* e) (f x)=(l.set i x).flatMap f
 |[],i,x,h=>by simp at h
 |y::l,0,x,h=>by
  unfold over;rw[iB,Nat.zero_mul,nG,de,hf,aC,List.drop_left' (hf y)];rfl
 |y::l,i+1,x,h=>by
  have ih:=Fa hf l i x (by simpa using h);unfold over at ih⊢;rw[iB,mV,iB,<-ih,hf,show(i+1)* e=(f y).length+i* e by rw[hf,lO];omega,List.take_append,bM (by omega),
   show(f y).length+i* e-(f y).length=i* e by omega,Nat.add_assoc,List.drop_append,ga (by omega),show(f y).length+(i* e+e) -(f y).length=i* e+e by omega]
  simp
def yu(n:Nat):(nm n).length=2:=rfl
def l6(n:Nat):∀v∈nm n,v.oneCell'=true:=λv h=>by simp[nm] at h;rcases h with rfl|rfl<;>rfl
section
variable {W:World} {L:LH} {K:VK} {a b n:Nat}
def sX{r m e:Nat}{i:Int}{K:Addr->WK}(hi:0<=i/\i<m)(h:T W L (K ⟨r,i.toNat* e,none⟩)):T W L (iX (ah r) m i e K):=λw hs=>
 ⟨_,rfl,hi,by rw[gN,aC];exact h w hs⟩
def abi{α:Type}{r o e:Nat}{l:List α}{x:α}{g:α->LV}{f:LV->LH}{K:LV->WK}[i:Lc (pt r) L (l.flatMap g) f](hf:∀x,(g x).length=e)(hx:l[o]?=some x)(h:T W L (K (g x))):T W L (aI ⟨r,o* e,none⟩ e K):=λw hs=>
 let⟨_,hk,_⟩:=i.at_;jQ hs hk (hf x) (qz hf l o x hx) (h w hs)
def Cm:Nat->List Nat->Option Nat
 |s,[]=>some s
 |s,x::l=>if s+x<bB then Cm (s+x) l else none
abbrev adM(o:Option Nat):Value:=.tuple ⟨[.agg ⟨nm (o.getD 0)⟩,.b o.isSome]⟩
def YE{r c:Nat}{l:List Nat}{f:LV->LH}(hl:∀x∈l,x<bB)(hlen:l.length<1000)[i:Lc (pt r) L (l.flatMap nm) f](h:T W L (K (adM (Cm 0 l)))):T W L (yd (ah r) l.length c K):=by
 unfold yd;apply ws;intros;rename_i r1 r2;intro w hs;refine⟨λvs w=>∃i s:Nat,i<=l.length/\s<bB/\Cm 0 l=Cm s (l.drop i)/\vs=[.p (some (ad r1 0)),.b false,.p (some (ad r2 0)),.l (ah r) l.length c,.i (l.length:Int),.i (i:Int)]/\St W w (pt r2 (nm s)::pt r1 (nm 0)::L),
  λvs _=>match vs with|[_,_,_,_,_,.int _ j]=>l.length-j.toNat|_=>0,⟨0,0,aE _,by decide,rfl,rfl,hs⟩,?_⟩
 rintro a1 b1 a2 qI oW re n1 n2 w2 ⟨i,s,hi,hsM,he,e,hs⟩;cases e
 refine T.at ?_ hs;apply fV<;>intro h1
 ·have cf:i<l.length:=by simpa using h1
  refine sX (by omega) ?_;rw[ao];refine abi yu (aj cf) ?_;have hx:=hl _ (bR cf);have hd:l.drop i=l[i]::l.drop (i+1):=gO cf;rw[hd] at he;generalize l[i]=x at *;have uX:Cm s (x::l.drop (i+1))=if s+x<bB then Cm (s+x) (l.drop (i+1)) else none:=rfl
  rw[uX] at he
  repeat' first|apply ws;intros|apply wb|first|refine CW hsM hx ?_|apply dh<;>intro h1
  ·have h2: ¬s+x<bB:=by simpa using h1
   rw[ag h2] at he;rw[he] at h;exact T.dp h
  ·have h2:s+x<bB:=by simpa using h1
   rw[ai h2] at he;rw[ai h2];have e5:=nL i;rw[e5];refine T.drop λw3 h3=>⟨⟨i+1,s+x,cf,h2,he,rfl,h3⟩,?_⟩;show l.length-((i+1:Nat):Int).toNat<l.length-(i:Int).toNat;omega
 ·have iM:i=l.length:=by omega
  subst iM;rw[ga (aG _)] at he;rw[he] at h;apply ws;exact T.dp h
end
end Go.Up
namespace Go.Sep
open Go.Den Go.RowKit Go.Prog Go.cD
section
variable {W w:World} {L:LH}
end
def Jx:∀(a b:List UInt8),a.length=b.length->nB a=nB b->a=b
 |[],[],_,_=>rfl
 |[],_::_,h,_=>by simp at h
 |_::_,[],h,_=>by simp at h
 |c::a,d::b,h,hv=>by
  have hc:=c.toNat_lt;have hd:=d.toNat_lt;simp only[nB] at hv;have h1:c.toNat=d.toNat:=by omega
  rw[Jx a b (by simpa using h) (by omega),UInt8.toNat_inj.1 h1]
def Ms{l:List UInt8}{n j:Int}{d:BA}(h:lJ l=some (n,j,d)):l.length=128/\sM l<=104/\Cn l=sN l/\n=sN l/\j=sI l/\fk (sN l) (sI l) (bs (sD l)):=by
 unfold lJ at h;split at h
 ·cases h
 rename_i h1;split at h
 ·cases h
 split at h
 ·cases h
 rename_i h3;split at h
 ·cases h
 rename_i h4;split at h
 ·cases h
 split at h
 ·cases h
 rename_i h6;cases h
 exact⟨bh.1 h1,by omega,bh.1 h4,rfl,rfl,bh.1 h6⟩
def R1{l:List UInt8}(h:sM l<=104)(hl:l.length=128):Cn l=mS (l.drop 120):=by
 unfold Cn mz;rw[jz,jz,jz,jz,jz,bM (by rw[aS];omega)]
 congr 2
 omega
def Kf{D:aX}:∀j i:Nat,i<j->numOf (BW (D.read (i:Int)).1)<=eV D j/\numOf (Br (D.read (i:Int)).1)<=eV D j
 |0,i,h=>by omega
 |j+1,i,h=>by
  have hm:∀a b:Int,a<=max2 a b/\b<=max2 a b:=λa b=>by unfold max2;split<;>omega
  simp only[eV];have h1:=hm (max2 (eV D j) (numOf (BW (D.read (j:Int)).1))) (numOf (Br (D.read (j:Int)).1));have h2:=hm (eV D j) (numOf (BW (D.read (j:Int)).1));by_cases LW:i=j
  ·subst LW;exact⟨by omega,by omega⟩
  ·have:=Kf (D:=D) j i (by omega);exact⟨by omega,by omega⟩
def Kg(s:BA):0<=numOf s/\numOf s<=1152921504606846976:=by unfold numOf;split<;>omega
def xk(D:aX):∀j,0<=eV D j/\eV D j<=1152921504606846976
 |0=>by simp[eV]
 |j+1=>by
  have h1:=xk D j;have h2:=Kg (BW (D.read (j:Int)).1);have h3:=Kg (Br (D.read (j:Int)).1);simp only[eV];unfold max2;split<;>split<;>omega
def low(w:Int):Int:=db .i64 .and w 1
def Oq(w:Int):low w=(((BitVec.ofInt 64 w).toNat%2:Nat):Int):=by
 have e2:(BitVec.ofInt 64 1).toNat=1:=rfl;show aa.wrap (((BitVec.ofInt 64 w&&&BitVec.ofInt 64 1).toNat:Nat):Int)=_;rw[BitVec.toNat_and,e2,Nat.and_one_is_mod,aW (by omega)]
def vJ(w:Int):low w=0\/low w=1:=by rw[Oq];omega
def dv(n:Nat):Nat:=(n-2)* 2/5
def fp(n:Nat):LV:=[.i 2,.i (2+dv n:Nat),.i (dv n:Nat),.i (2+2* dv n:Nat),.i n]
def eS(n:Nat)(which:Int):Nat:=if low which=0 then 2 else 2+dv n
def pe{n:Nat}(h:12<=n)(w:Int):2<=eS n w/\eS n w+dv n<=n/\4<=dv n:=by
 unfold eS dv;split<;>omega
def Mm{n:Nat}(w v:Int)(h:low w≠low v):eS n w+dv n<=eS n v\/eS n v+dv n<=eS n w:=by
 unfold eS;rcases vJ w with a|a<;>rcases vJ v with b|b<;>rw[a,b] at h⊢<;>simp at h⊢
def put(D:aX)(n:Nat)(which number:Int)(s:BA):aX×Int:=
 if(lay D (eS n which) ((eS n which+dv n:Nat):Int) number s).2≠0 then lay D (eS n which) ((eS n which+dv n:Nat):Int) number s
 else(lay D (eS n which) ((eS n which+dv n:Nat):Int) number s).1.sync
def get(D:aX)(n:Nat)(which number size:Int):Option (List UInt8):=take D (eS n which) ((eS n which+dv n:Nat):Int) number size
section
variable {W w:World} {L:LH} {k d:Nat} {D:aX}
def Xr{n:Nat}{K:VK}(h:St W w L)(ny:12<=n)(cQ:n<=4096)(hK:∀w',St W w' L->K (.tuple ⟨[.agg ⟨fp n⟩,.i 0]⟩) w'):tT n K w:=by
 unfold tT;refine iS h λr w hs=>?_;have e1:decide ((n:Int)<12)=false:=aq (by omega);have e2:decide ((n:Int)>4096)=false:=aq (by omega);rw[e1,e2];unfold tT.j1;have a1:aa.wrap ((n:Int) -2)=((n-2:Nat):Int):=by rw[aW (by omega)];omega
 have a2:aa.wrap (((n-2:Nat):Int)* 2)=(((n-2)* 2:Nat):Int):=by rw[aW (by omega)];omega
 have a3:(((n-2)* 2:Nat):Int).tdiv 5=((dv n:Nat):Int):=by rw[Int.tdiv_eq_ediv_of_nonneg (by omega)];rfl
 have hp:dv n<=4096:=by unfold dv;omega
 have a4:aa.wrap ((dv n:Nat):Int)=((dv n:Nat):Int):=aW (by omega);have a5:aa.wrap (2+((dv n:Nat):Int))=((2+dv n:Nat):Int):=by rw[aW (by omega)];omega
 have a6:aa.wrap (2* ((dv n:Nat):Int))=((2* dv n:Nat):Int):=by rw[aW (by omega)];omega
 have a7:aa.wrap (2+((2* dv n:Nat):Int))=((2+2* dv n:Nat):Int):=by rw[aW (by omega)];omega
 rw[a1,a2,a3,a4,a5,a6,a7];simp only[nz,ae,af];refine⟨by decide,?_⟩;refine jK (k:=0) hs rfl (aJ rfl) (by simp[Value.oneCell']) λw hs=>?_;rw[iC (by simp)] at hs;refine jQ (k:=0) (xs:=fp n) hs rfl rfl (λj v hj=>by rw[aC];exact hj) ?_;exact hK w hs.drop
def DG{n:Nat}{which:Int}{K:VK}(h:St W w L)(hK:∀w',St W w' L->K (.i (eS n which:Nat)) w'):oJ (fp n) which K w:=by
 unfold oJ;refine iS h λr w hs=>?_;simp only[nz,ae,af];refine cT (k:=0) hs rfl rfl ?_;simp only[nz,ae,af];refine cT (k:=0) hs rfl rfl ?_;simp only[nz,ae,af];have hl:=vJ which;have hh:=hK w hs.drop;unfold eS at hh;show Cy _ 2 (low which) _ w;rcases hl with h0|h0
 ·rw[ai h0] at hh;rw[h0];refine⟨_,⟨by decide,by decide,rfl⟩,?_⟩;simp only[nz,ae,af];exact hh
 ·rw[ag (by omega)] at hh;rw[h0];refine⟨_,⟨by decide,by decide,rfl⟩,?_⟩;simp only[nz,ae,af];exact hh
def Uf{n:Nat}{which number:Int}{s:BA}{K:VK}(h:St W w L)(hk:L[k]?=some (gJ d D))(ix:D.Ok)(ny:12<=n)(cQ:n<=4096)(hl:D.later.length+5000<1099511627776)(hs:s.size<=reachBytes)
 (hK:∀w',St W w' (L.set k (gJ d (put D n which number s).1))->K (.i (put D n which number s).2) w'):qt (fp n) (ah d) which number s K w:=by
 have CC:=pe ny which;unfold qt;refine iS h λr w ft=>?_;have se:=hs;simp only[nz,ae,af];refine lX ft λw hs=>?_;refine jQ (k:=0) (xs:=fp n) hs rfl rfl (λj v hj=>by rw[aC];exact hj) ?_;refine jQ (k:=0) (xs:=fp n) hs rfl rfl (λj v hj=>by rw[aC];exact hj) ?_;refine cT (k:=0) hs rfl rfl ?_;simp only[nz,ae,af];refine DG hs λw hs=>?_;simp only[nz,ae,af];refine ka (k:=0) hs rfl rfl ?_;refine Ox (k:=0) hs rfl (λj v hj=>by rw[aC];exact hj) ?_;refine DG hs λw hs=>?_;simp only[nz,ae,af];refine ka (k:=0) hs rfl rfl ?_;have ew:aa.wrap (((eS n which:Nat):Int)+((dv n:Nat):Int))=((eS n which+dv n:Nat):Int):=by rw[aW (by omega)];omega
 rw[ew];have rq:(pt r (fp n)::L)[k+1]?=some (gJ d D):=by rw[bO];exact hk
 refine FL (k:=k+1) hs rq ix (by omega) se λw hs=>?_;rw[mV] at hs;simp only[nz,ae,af];refine ka (k:=0) hs rfl rfl ?_;unfold put at hK;have Qn:(lay D (eS n which) ((eS n which+dv n:Nat):Int) number s).1.Ok\/(lay D (eS n which) ((eS n which+dv n:Nat):Int) number s).2≠0:=by
  by_cases hc:gj s.size<=4097
  ·exact .inl (IA ix (by omega)).1
  ·refine .inr ?_;unfold lay;split
   ·simp
   ·rw[ai (by omega)];simp
 refine uP (λkd=>?_) (λh0=>?_)
 ·rw[ai kd] at hK;exact hK w hs.drop
 ·rw[ag (λhh=>hh h0)] at hK;refine uW (k:=k+1) hs (by rw[bO];exact jM hk) (Qn.resolve_right (λhh=>hh h0)) λw hs=>?_;rw[mV,jk] at hs;simp only[nz,ae,af];exact hK w hs.drop
def Um{n:Nat}{which number size:Int}{K:VK}(h:St W w L)(hk:L[k]?=some (gJ d D))(ix:D.Ok)(ny:12<=n)(cQ:n<=4096)
 (hK:∀w',St W w' L->K (sL (get D n which number size)) w'):qu (fp n) (ah d) which number size K w:=by
 have CC:=pe ny which;unfold qu;refine iS h λr w ft=>?_;simp only[nz,ae,af];refine lX ft λw hs=>?_;refine jQ (k:=0) (xs:=fp n) hs rfl rfl (λj v hj=>by rw[aC];exact hj) ?_;refine jQ (k:=0) (xs:=fp n) hs rfl rfl (λj v hj=>by rw[aC];exact hj) ?_;refine cT (k:=0) hs rfl rfl ?_;simp only[nz,ae,af];refine DG hs λw hs=>?_;simp only[nz,ae,af];refine ka (k:=0) hs rfl rfl ?_;refine Ox (k:=0) hs rfl (λj v hj=>by rw[aC];exact hj) ?_;refine DG hs λw hs=>?_;simp only[nz,ae,af];refine ka (k:=0) hs rfl rfl ?_;have ew:aa.wrap (((eS n which:Nat):Int)+((dv n:Nat):Int))=((eS n which+dv n:Nat):Int):=by rw[aW (by omega)];omega
 rw[ew];refine HQ (k:=k+1) hs (by rw[bO];exact hk) ix λw hs=>?_;unfold get at hK;cases hg:take D (eS n which) ((eS n which+dv n:Nat):Int) number size with
 |none=>
  rw[hg] at hK;unfold sL at hK⊢;simp only[nz,ae,af];refine ka (k:=0) hs rfl rfl ?_;exact hK w hs.drop
 |some l=>
  rw[hg] at hK;unfold sL at hK⊢;simp only[nz,ae,af];refine ka (k:=0) hs rfl rfl ?_;exact hK w hs.drop
end
structure Calm(n:Nat)(D:aX):Prop where
 ok:D.Ok
 arm:D.arm=0
 later:D.later.length<=1000
 len:D.safe.length=n
def Fs{n:Nat}(h:n<=4096):Calm n (aX.new n):=by
 refine⟨ZH n,rfl,aE _,?_⟩;simp only[aX.new,mO];have:min2 (max2 (n:Int) 0) 4096=n:=by unfold min2 max2;split<;>split<;>omega
 rw[this];omega
def AU{n:Nat}(h:n<=4096){j:Nat}(hj:j<n):((aX.new n).read (j:Int)).1=mP 128:=by
 have hc:=Fs h;rw[yP (D:=aX.new n) rfl (i:=j) (by rw[hc.len];exact hj)];simp[aX.new]
def WG{n:Nat}{D:aX}{which number:Int}{s:BA}(hlen:D.safe.length=n)(ny:12<=n)(cQ:n<=4096)(pO:1<=number/\number<=1152921504606846976)(hl:gj s.size<=dv n)
 (hr:∀q:Nat,q<gj s.size->(D.read (((eS n which:Nat):Int)+q)).1=leaf number q (part s q)):get D n which number s.size=some s.data.toList:=by
 have CC:=pe ny which;have hb:s.size<=104* gj s.size:=by unfold gj;split<;>omega
 have SS:∀q:Nat,(part s q).size=min (104* (q+1)) s.size-104* q:=λq=>by unfold part;rw[s7]
 unfold get take;rw[ag (by rw[hlen,ao];omega),ao,Bs (s:=s) (gj s.size) 0 (λq _ hq=>by
  rw[hr q (by omega)]
  have hg:fk number q (part s q):=⟨pO.1,pO.2,by omega,by omega,mX s q⟩
  unfold leaf
  rw[ai hg]
  exact⟨oK hg,by rw[SS];omega⟩)]
 congr 1
 rw[Nat.mul_zero,iQ,bM (by rw[eJ];exact hb)]
section
variable {W w:World} {L:LH}
end
section
variable {W w:World} {L:LH}
def QZ{n m:Nat}{K:VK}(h:St W w L)(hm:m<1099511627776000)(hK:∀w',St W w' L->K (.b (decide (gj m<=dv n))) w'):pL (fp n) m K w:=by
 unfold pL;refine iS h λr w hs=>?_;refine lX hs λw hs=>?_;refine fJ (λ_=>?_) (λhh=>by omega);refine cT (k:=0) hs rfl rfl ?_;simp only[nz,ae,af];refine q6 (by omega) ?_;simp only[nz,ae,af];refine ka (k:=0) hs rfl rfl ?_;have e:decide (((gj m:Nat):Int)<=((dv n:Nat):Int))=decide (gj m<=dv n):=by rw[decide_eq_decide];omega
 rw[e];exact hK w hs.drop
end
def Mix(old new X:BA):Prop:=X=old\/X=new\/∃c,c<=128/\X=new.extract 0 c++old.extract c old.size
def CM(mask torn x:Int)(hx:0<=x/\x<=128)(safe:List BA)(later:List (Int×BA))(hn:(later.map (·.1.toNat)).Nodup)(hp:∀p∈later,0<=p.1/\p.1<safe.length)(i:Nat)(hi:i<safe.length):
 ∀j,j<=later.length->((∀k,k<j->∀p,later[k]?=some p->p.1.toNat≠i)/\(eP mask torn x safe later j)[i]?=safe[i]?)\/
  ∃k p,k<j/\later[k]?=some p/\p.1.toNat=i/\∃X,(eP mask torn x safe later j)[i]?=some X/\Mix (safe.getD i .empty) p.2 X
 |0,_=>.inl ⟨λk hk=>by omega,rfl⟩
 |j+1,hj=>by
  have cf:j<later.length:=by omega
  have A1:later[j]?=some later[j]:=aj cf;have ih:=CM mask torn x hx safe later hn hp i hi j (by omega);simp only[eP,A1];have hlen:i<(eP mask torn x safe later j).length:=by rw[jf];exact hi
  by_cases LO:(later[j]).1.toNat=i
  ·
   have yz:(eP mask torn x safe later j)[i]?=safe[i]?:=by
    rcases ih with⟨_,h⟩|⟨k,p,hk,UH,Wh,_⟩
    ·exact h
    ·exfalso;have rq:k<later.length:=by omega
     have e1:(later.map (·.1.toNat))[k]?=some i:=by rw[eK,UH];simp[Wh]
     have e2:(later.map (·.1.toNat))[j]?=some i:=by rw[eK,A1];simp[LO]
     have:=(List.getElem?_inj (by simpa using rq) hn).1 (e1.trans e2.symm);omega
   have zW:(eP mask torn x safe later j).getD i .empty=safe.getD i .empty:=by
    rw[jy,yz,<-jy]
   refine .inr ⟨j,later[j],by omega,A1,LO,?_⟩;unfold aX.ni;rw[LO];split
   ·refine⟨_,List.getElem?_set_self hlen,.inr (.inr ⟨x.toNat,by omega,?_⟩)⟩;rw[zW]
   ·split
    ·exact⟨_,List.getElem?_set_self hlen,.inr (.inl rfl)⟩
    ·refine⟨safe[i],by rw[yz];exact aj hi,.inl ?_⟩;simp[hi]
  ·have E0:(aX.ni mask torn x (eP mask torn x safe later j) j later[j])[i]?=(eP mask torn x safe later j)[i]?:=by
    unfold aX.ni;split
    ·rw[NH LO]
    ·split
     ·rw[NH LO]
     ·rfl
   rw[E0];rcases ih with⟨h1,h2⟩|⟨k,p,hk,UH,Wh,X,hX⟩
   ·refine .inl ⟨λk hk p UH=>?_,h2⟩;by_cases hkj:k=j
    ·subst hkj;rw[A1] at UH;cases UH
     exact LO
    ·exact h1 k (by omega) p UH
   ·exact .inr ⟨k,p,by omega,UH,Wh,X,hX⟩
def Kt{at' number:Int}{s:BA}(pO:1<=number/\number<=1152921504606846976)(Bp:0<=at'):∀(n i:Nat) {D:aX},at'+i+n<=D.safe.length->i+n<=4096->
 ∃m,m<=n/\(o5 at' number s D i n).1.later=D.later++((List.range' i m).map λq:Nat=>(at'+(q:Int),aX.pad (leaf number q (part s q))))/\(o5 at' number s D i n).1.safe=D.safe/\((o5 at' number s D i n).2=0->m=n)
 |0,i,D,hr,hi=>⟨0,aG _,by simp[o5],rfl,λ_=>rfl⟩
 |n+1,i,D,hr,hi=>by
  have hg:fk number i (part s i):=⟨pO.1,pO.2,by omega,by omega,mX s i⟩;have se:=ui hg;have uY:D.is (at'+i):=⟨by omega,by omega⟩;have zg: ¬(¬D.is (at'+i)\/128<(leaf number i (part s i)).size):=by
   rintro(hh|hh)
   ·exact hh uY
   ·omega
  have th:=(sn D (at'+i) (leaf number i (part s i))).1;have hw:D.write (at'+i) (leaf number i (part s i))=if D.vh then(D.tick,8) else({Go.cD.aX.tick D with later:=D.later++[(at'+i,aX.pad (leaf number i (part s i)))]},0):=by
   unfold aX.write;rw[ag zg]
  unfold o5;cases hf:D.vh with
  |true=>
   rw[hf,ai rfl] at hw;rw[hw,ai (by simp)];exact⟨0,aE _,by simp[aX.tick],rfl,λh=>by simp at h⟩
  |false=>
   rw[hf,ag q8] at hw;have h0:(D.write (at'+i) (leaf number i (part s i))).2=0:=by rw[hw]
   have zV:(D.write (at'+i) (leaf number i (part s i))).1.later=D.later++[(at'+i,aX.pad (leaf number i (part s i)))]:=by rw[hw]
   rw[ag (by rw[h0];exact λhh=>hh rfl)];obtain⟨m,h1,h2,h3,h4⟩:=Kt pO Bp (s:=s) n (i+1) (D:=(D.write (at'+i) (leaf number i (part s i))).1) (by rw[th];omega) (by omega);refine⟨m+1,by omega,?_,by rw[h3,th],λh=>by rw[h4 h]⟩;rw[h2,zV,List.range'_succ,cN,aH]
   rfl
def ES(at':Nat)(f:Nat->BA)(i:Int):∀m:Nat,aX.last ((pr m).map λq:Nat=>(((at':Nat):Int)+(q:Int),f q)) i=if(at':Int)<=i/\i<(at':Int)+m then some (f (i-at').toNat) else none
 |0=>by rw[ag (by omega)];rfl
 |m+1=>by
  rw[List.range_succ,cR,cN,ud,Dk.tf,ES at' f i m];dsimp only;by_cases h:((at':Nat):Int)+(m:Int)=i
  ·rw[ai h,ai (by omega)]
   congr 2
   omega
  ·rw[ag h];by_cases h2:(at':Int)<=i/\i<(at':Int)+m
   ·rw[ai h2,ai (by omega)]
   ·rw[ag h2,ag (by omega)]
def Il(at' i m q:Nat)(n:Int)(s:BA)(k:Nat)(p:Int×BA)(h:((List.range' 0 m).map λq:Nat=>(((at':Nat):Int)+(q:Int),aX.pad (leaf n q (part s q))))[k]?=some p):
 k<m/\p.1.toNat=at'+k/\p.2=aX.pad (leaf n k (part s k)):=by
 rw[<-List.range_eq_range',eK] at h;have hk:k<m:=by
  by_cases hh:k<m
  ·exact hh
  ·rw[pE (by simpa using hh)] at h;cases h
 rw[qO hk] at h;cases h
 exact⟨hk,by dsimp only;omega,rfl⟩
def KP(x:BA):(BW x).data.toList=x.data.toList.take 8:=by unfold BW;rw[extract_toList];rfl
def JF{x:BA}(h:x.size=128):(Br x).data.toList=x.data.toList.drop 120:=by
 unfold Br;rw[h,extract_toList,bM (by rw[aS,eJ,h];omega)]
def sW{α:Type}(a b:List α)(m:Nat)(h:a.length=m):(a++b).take m=a:=by subst h;exact Cc
def uK{α:Type}(a b:List α)(m:Nat)(h:a.length=m):(a++b).drop m=b:=by subst h;exact List.drop_left
def yx{n i:Int}{s:BA}:(ml n i s).take 8=le .i64 8 n:=by
 unfold ml pre;simp only[aH];exact sW _ _ 8 (aO _ _ _)
def vK{n i:Int}{s:BA}(hs:s.size<=104):(ml n i s).drop 120=le .i64 8 n:=by
 unfold ml;exact uK _ _ 120 (by rw[au,qS hs];rfl)
def DI(n:Nat):(mP n).data.toList=bn n 0:=by unfold mP;rfl
def OT{D:aX}{b:Int}(hb:0<=b):∀j,(∀i:Nat,i<j->numOf (BW (D.read (i:Int)).1)<=b/\numOf (Br (D.read (i:Int)).1)<=b)->eV D j<=b
 |0,_=>hb
 |j+1,h=>by
  have h1:=OT hb j (λi hi=>h i (by omega));have h2:=h j (by omega);simp only[eV];unfold max2;split<;>split<;>omega
section
variable {W w:World} {L:LH}
end
def eO(D:aX)(at' toX number:Int)(s:BA):aX×Int:=if(lay D at' toX number s).2≠0 then lay D at' toX number s else(lay D at' toX number s).1.sync
def Km{D:aX}{at' toX number:Int}{s:BA}(h:D.Ok)(hl:D.later.length+gj s.size<1099511627776):(eO D at' toX number s).1.Ok:=by
 have:=(IA (at':=at') (number:=number) (s:=s) (toX:=toX) h hl).1;unfold eO;split
 ·exact this
 ·exact Ia this
def SH{n a t:Nat}{D:aX}{number:Int}{s:BA}(h:Calm n D)(cQ:n<=4096)(pO:1<=number/\number<=1152921504606846976)(hl:a+gj s.size<=t)(ZV:t<=n):(eO D a t number s).1.later=[]:=by
 have hcp:=rO s.size;have e:lay D (a:Nat) ((t:Nat):Int) number s=o5 (a:Nat) number s D 0 (gj s.size):=by
  unfold lay;rw[ag (by rw[h.len];omega),ag (by omega)]
 obtain⟨l1,l2,_,_,_⟩:=Ow (at':=((a:Nat):Int)) (number:=number) (s:=s) pO (by omega) (gj s.size) 0 (D:=D) h.arm (by rw[h.len];omega) (by omega);unfold eO;rw[e,ag (λhh=>hh l1),Dk.NU l2]
def Oo{n a t:Nat}{D:aX}{number:Int}{s:BA}(h:Calm n D)(cQ:n<=4096)(pO:1<=number/\number<=1152921504606846976)(hl:a+gj s.size<=t)(ZV:t<=n):
 (eO D a t number s).2=0/\Calm n (eO D a t number s).1/\(∀q:Nat,q<gj s.size->((eO D a t number s).1.read (((a:Nat):Int)+q)).1=leaf number q (part s q))/\
 ∀j:Nat,j<n->(j<a\/a+gj s.size<=j)->((eO D a t number s).1.read (j:Int)).1=(D.read (j:Int)).1:=by
 have e:lay D (a) ((t:Nat):Int) number s=o5 (a) number s D 0 (gj s.size):=by
  unfold lay;rw[ag (by rw[h.len];omega),ag (by omega)]
 have Q6:=Ow (at':=((a:Nat):Int)) (number:=number) (s:=s) pO (by omega) (gj s.size) 0 (D:=D) h.arm (by rw[h.len];omega) (by omega);have hli:=Ov (at':=((a:Nat):Int)) (number:=number) (s:=s) pO (by omega) (gj s.size) 0 (D:=D) h.arm (by rw[h.len];omega) (by omega);have ix:=AW (at':=((a:Nat):Int)) (number:=number) (s:=s) (gj s.size) 0 h.ok (by have:=h.later;omega);unfold eO;rw[e];obtain⟨l1,l2,l3,l4,l5⟩:=Q6;rw[ag (λhh=>hh l1)];generalize (o5 ((a:Nat):Int) number s D 0 (gj s.size)).1=D1 at *;have Yh:D1.safe.length=n:=by rw[l3];exact h.len
 have jW:=Dk.NU l2;have Yr:Calm n D1.sync.1:=⟨Ia ix.1,Dk.Pq l2,by rw[jW];exact aE _,by rw[Dk.JM.1];exact Yh⟩;have UE:∀j:Nat,j<n->(D1.sync.1.read (j:Int)).1=D1.now (j:Int):=λj hj=>by
  have h1:D1.sync.1.is (j:Int):=⟨by omega,by rw[Yr.len];omega⟩;have h2:D1.is (j:Int):=⟨by omega,by rw[Yh];omega⟩;unfold aX.read;rw[ai h1];exact Dk.P6 l2 ix.1 h2
 refine⟨by rw[jW],Yr,λq hq=>?_,λj hj IH=>?_⟩
 ·have:=UE (a+q) (by omega);rw[show(((a:Nat):Int)+(q:Int))=((a+q:Nat):Int) from by omega,this,show((a+q:Nat):Int)=((a:Nat):Int)+(q:Int) from by omega];exact hli q (aE _) (by omega)
 ·rw[UE j hj,l5 (j:Int) (by omega)];have h2:D.is (j:Int):=⟨by omega,by rw[h.len];omega⟩;unfold aX.read;rw[ai h2]
def Kn{n a t:Nat}{D:aX}{number mask torn cut:Int}{s:BA}(ix:D.Ok)(zV:D.later=[])(hlen:D.safe.length=n)(cQ:n<=4096)(pO:1<=number/\number<=1152921504606846976)(hl:a+gj s.size<=t)(ZV:t<=n):
 (∀j:Nat,j<n->(((eO D a t number s).1.fI mask torn cut).read (j:Int)).1=(D.read (j:Int)).1\/
  ∃q,q<gj s.size/\j=a+q/\Mix (D.read (j:Int)).1 (leaf number q (part s q)) (((eO D a t number s).1.fI mask torn cut).read (j:Int)).1)/\
 ((eO D a t number s).2=0->∀q:Nat,q<gj s.size->(((eO D a t number s).1.fI mask torn cut).read ((a+q:Nat):Int)).1=leaf number q (part s q))/\
 ((eO D a t number s).1.fI mask torn cut).Ok/\((eO D a t number s).1.fI mask torn cut).safe.length=n:=by
 have hcp:=rO s.size;have Z3:∀q:Nat,q<gj s.size->aX.pad (leaf number q (part s q))=leaf number q (part s q):=λq hq=>Oj (ui ⟨pO.1,pO.2,by omega,by omega,mX s q⟩);have aez:lay D (a:Nat) ((t:Nat):Int) number s=o5 (a) number s D 0 (gj s.size):=by
  unfold lay;rw[ag (by rw[hlen];omega),ag (by omega)]
 obtain⟨m,hm,E4,th,gh⟩:=Kt (at':=((a:Nat):Int)) (number:=number) (s:=s) pO (by omega) (gj s.size) 0 (D:=D) (by rw[hlen];omega) (by omega);rw[zV,de] at E4;have IJ:=(AW (at':=((a:Nat):Int)) (number:=number) (s:=s) (gj s.size) 0 ix (by rw[zV];simp;omega)).1;unfold eO;rw[aez];generalize hF:o5 ((a:Nat):Int) number s D 0 (gj s.size)=F at *;obtain⟨D1,e⟩:=F;dsimp only at E4 th gh IJ⊢;have hold:∀j(hj:j<n),(D.read (j:Int)).1=D.safe[j]'(by omega):=λj hj=>by rw[yP zV (by omega)]
 have key:∀D2:aX,D2.safe=D.safe->D2.later=D1.later->∀j:Nat,j<n->((D2.fI mask torn cut).read (j:Int)).1=(D.read (j:Int)).1\/
  ∃q,q<gj s.size/\j=a+q/\Mix (D.read (j:Int)).1 (leaf number q (part s q)) ((D2.fI mask torn cut).read (j:Int)).1:=λD2 h1 h2 j hj=>by
  have Wt:j<D.safe.length:=by omega
  have hce:(D2.fI mask torn cut).safe=eP mask torn (min2 (max2 cut 0) 128) D.safe D1.later D1.later.length:=by rw[od,h1,h2]
  have Q7:j<(D2.fI mask torn cut).safe.length:=by rw[hce,jf];exact Wt
  have hr:((D2.fI mask torn cut).read (j:Int)).1=(D2.fI mask torn cut).safe[j]:=by rw[yP (by rw[od]) Q7]
  have hx:(D2.fI mask torn cut).safe[j]?=some ((D2.fI mask torn cut).safe[j]):=aj Q7;have KD:(D1.later.map (·.1.toNat)).Nodup:=by
   rw[E4,oU];have:((λp:Int×BA=>p.1.toNat)∘λq:Nat=>(((a:Nat):Int)+(q:Int),aX.pad (leaf number q (part s q))))=λq:Nat=>a+q:=by
    funext q;simp only[Function.comp];omega
   rw[this];exact List.Pairwise.map (λq=>a+q) (λx y(UO:x≠y)=>by show a+x≠a+y;omega) (List.nodup_range' 1 (by decide))
  have ab7:=CM mask torn (min2 (max2 cut 0) 128) (Tz cut) D.safe D1.later KD (λp hp=>by
   have:=IJ.later p hp
   rw[th] at this
   exact this.2) j Wt D1.later.length (aG _)
  rw[<-hce,hx] at ab7;rw[hr];generalize (D2.fI mask torn cut).safe[j]=X at *;rcases ab7 with⟨_,h⟩|⟨k,p,hk,UH,Wh,Y,hY,hM⟩
  ·left
   rw[hold j hj];rw[aj Wt] at h;exact bE.inj h
  ·right
   cases hY
   rw[E4] at UH;obtain⟨r1,r2,r3⟩:=Il (a) 0 m 0 number s k p UH;refine⟨k,by omega,by omega,?_⟩;rw[hold j hj,<-Z3 k (by omega),<-r3];have:D.safe.getD j .empty=D.safe[j]:=by simp[Wt]
   rw[<-this];exact hM
 have pG:∀D2:aX,D2.safe.length=n->(D2.fI mask torn cut).safe.length=n:=λD2 h=>by rw[od];simp only[jf];exact h
 have acw:D1.safe.length=n:=by rw[th];exact hlen
 by_cases he:e=0
 ·subst he;rw[ag (by simp)];unfold aX.sync;cases hf:D1.vh with
  |true=>
   rw[ai rfl];exact⟨key D1.tick th rfl,λh=>by simp at h,A8 (D:=D1.tick) ⟨IJ.safe,IJ.later,IJ.ou,IJ.less⟩ mask torn cut,pG D1.tick acw⟩
  |false=>
   rw[ag q8];have LQ:=gh rfl;subst LQ;have Ql:=Ia IJ;unfold aX.sync at Ql;rw[hf,ag q8] at Ql;generalize hD3:({Go.cD.aX.tick D1 with safe:=D1.later.foldl aX.put D1.safe,later:=[]}:aX)=D3 at *;have h3s:D3.safe=D1.later.foldl aX.put D.safe:=by rw[<-hD3,<-th]
   have h3l:D3.later=[]:=by rw[<-hD3]
   have h3n:D3.safe.length=n:=by rw[h3s,oa];exact hlen
   have LZ:(D3.fI mask torn cut).safe=D3.safe:=by rw[od,h3l];rfl
   have UE:∀j(hj:j<n),((D3.fI mask torn cut).read (j:Int)).1=(aX.last D1.later (j:Int)).getD (D.read (j:Int)).1:=λj hj=>by
    have Q7:j<(D3.fI mask torn cut).safe.length:=by rw[pG D3 h3n];exact hj
    have Wt:j<D.safe.length:=by omega
    rw[yP (by rw[od]) Q7,hold j hj];have h1:=Dk.zy (i:=(j:Int)) (by omega) D1.later D.safe (by omega) (λp hp=>(IJ.later p hp).2.1);rw[ao,<-h3s,<-LZ,jy,aj Q7,jy,aj Wt] at h1;exact h1
   have Hp:∀j:Nat,aX.last D1.later (j:Int)=if a<=j/\j<a+gj s.size then some (aX.pad (leaf number ((j-a:Nat):Int) (part s (j-a)))) else none:=λj=>by
    rw[E4,<-List.range_eq_range',ES (a) (λq=>aX.pad (leaf number q (part s q))) (j:Int) (gj s.size)];by_cases hj:a<=j/\j<a+gj s.size
    ·rw[ai hj,ai (by omega)];have:((j:Int) -((a:Nat):Int)).toNat=j-a:=by omega
     rw[this]
    ·rw[ag hj,ag (by omega)]
   refine⟨λj hj=>?_,λ_ q hq=>?_,A8 Ql mask torn cut,pG D3 h3n⟩
   ·rw[UE j hj,Hp j];by_cases hjr:a<=j/\j<a+gj s.size
    ·right
     refine⟨j-a,by omega,by omega,.inr (.inl ?_)⟩;rw[ai hjr,dx,Z3 _ (by omega)]
    ·left;rw[ag hjr];rfl
   ·rw[UE _ (by omega),Hp,ai (by omega),dx,show a+q-a=q from by omega,Z3 q hq]
 ·rw[ai he];exact⟨key D1 th rfl,λh=>aT h he,A8 IJ mask torn cut,pG D1 acw⟩
def Qd:∀n:Fin 256,le .i64 8 (n.val:Int)=UInt8.ofNat n.val::bn 7 0:=by decide+kernel
def Kr{n:Nat}(h:n<256):le .i64 8 (n:Int)=UInt8.ofNat n::bn 7 0:=Qd ⟨n,h⟩
structure Ends(g:Nat)(X:BA):Prop where
 size:X.size=128
 hd:∃a,a<=g/\X.data.toList.take 8=le .i64 8 ((a:Nat):Int)
 tl:∃b,b<=g/\X.data.toList.drop 120=le .i64 8 ((b:Nat):Int)
def Ends.mono{g g':Nat}{X:BA}(h:Ends g X)(hg:g<=g'):Ends g' X:=by
 obtain⟨h1,⟨a,h2,h3⟩,b,h4,h5⟩:=h;exact⟨h1,⟨a,by omega,h3⟩,b,by omega,h5⟩
def Ff:Ends 0 (mP 128):=⟨uz 128,⟨0,aG _,by rw[DI];decide+kernel⟩,0,aG _,by rw[DI];decide+kernel⟩
def mY{n i:Int}{s:BA}(h:fk n i s):(leaf n i s).data.toList=ml n i s:=by unfold leaf;rw[ai h];rfl
def B0{n:Nat}{i:Int}{s:BA}(h:fk n i s):Ends n (leaf n i s):=
 ⟨ui h,⟨n,aG _,by rw[mY h,yx]⟩,n,aG _,by rw[mY h,vK h.2.2.2.2]⟩
def va{n:Nat}(h:n<256):numOf (bs (le .i64 8 ((n:Nat):Int)))=n:=by
 unfold numOf;show(if 1<=mS (le .i64 8 (n:Int))/\mS (le .i64 8 (n:Int))<=1152921504606846976 then _ else _)=_;rw[oZ ⟨by omega,by omega⟩];by_cases h0:n=0
 ·subst h0;rfl
 ·rw[ai ⟨by omega,by omega⟩];show mS (le .i64 8 (n:Int))=_;rw[oZ ⟨by omega,by omega⟩]
def Ends.num{g:Nat}{X:BA}(h:Ends g X)(hg:g<256):numOf (BW X)<=g/\numOf (Br X)<=g:=by
 obtain⟨h1,⟨a,h2,h3⟩,b,h4,h5⟩:=h;have e1:BW X=bs (le .i64 8 ((a:Nat):Int)):=kx (by rw[KP,h3];rfl);have e2:Br X=bs (le .i64 8 ((b:Nat):Int)):=kx (by rw[JF h1,h5];rfl);rw[e1,e2,va (by omega),va (by omega)];omega
def yX{D:aX}{g:Nat}(hg:g<256)(j:Nat)(h:∀i:Nat,i<j->Ends g (D.read (i:Int)).1):eV D j<=g:=OT (by omega) j (λi hi=>(h i hi).num hg)
def Ml{n a:Nat}(hn:n<256)(ha:a<256)(k:Nat)(hk:k<=8):(le .i64 8 ((n:Nat):Int)).take k++(le .i64 8 ((a:Nat):Int)).drop k=if k=0 then le .i64 8 ((a:Nat):Int) else le .i64 8 ((n:Nat):Int):=by
 rw[Kr hn,Kr ha];cases k with
 |zero=>rfl
 |succ k=>
  rw[ag (by omega),List.take_succ_cons,List.drop_succ_cons,kV]
  congr 1
  exact dj k _
def BO{n:Nat}{g:Nat}{i:Int}{s old X:BA}(hn:g<n)(hn2:n<256)(zW:fk n i s)(ho:Ends g old)(hm:Mix old (leaf n i s) X):
 Ends n X/\(X=old\/X=leaf n i s\/lJ X.data.toList=none):=by
 rcases hm with h|h|⟨c,hc,h⟩
 ·rw[h];exact⟨ho.mono (by omega),.inl rfl⟩
 ·rw[h];exact⟨B0 zW,.inr (.inl rfl)⟩
 ·obtain⟨o1,⟨a,ha,oh⟩,b,hb,ot⟩:=ho;have hl:=mY zW;have Ho:(ml n i s).length=128:=wY zW.2.2.2.2;have hol:old.data.toList.length=128:=by rw[eJ];exact o1
  have hX:X.data.toList=(ml n i s).take c++old.data.toList.drop c:=by
   have e2:(old.extract c old.size).data.toList=old.data.toList.drop c:=by
    rw[extract_toList,bM (by rw[aS,eJ];exact aG _)]
   rw[h,ByteArray.data_append,Array.toList_append,e2,extract_toList,iQ,Nat.sub_zero,hl]
  have hXs:X.size=128:=by
   rw[<-eJ,hX,au,aD,aS,Ho,hol];omega
  have h8:X.data.toList.take 8=(le .i64 8 ((n:Nat):Int)).take (min c 8)++(le .i64 8 ((a:Nat):Int)).drop (min c 8):=by
   rw[hX,<-oh,<-yx (n:=n) (i:=i) (s:=s),List.take_append,xz,xz,aD,Ho,List.drop_take,show min (min c 8) 8=min 8 c from by omega,show min c 128=c from by omega]
   congr 1
   by_cases h8:c<=8
   ·rw[show min c 8=c from by omega]
   ·rw[show 8-c=0 from by omega,show 8-min c 8=0 from by omega,nG,nG]
  have IK:X.data.toList.drop 120=(le .i64 8 ((n:Nat):Int)).take (c-120)++(le .i64 8 ((b:Nat):Int)).drop (c-120):=by
   rw[hX,<-ot,<-vK (n:=n) (i:=i) zW.2.2.2.2,List.drop_append,List.drop_take,aD,Ho,jz,jz,show min c 128=c from by omega]
   congr 2
   omega
  rw[Ml hn2 (by omega) _ (by omega)] at h8 IK;by_cases hc0:c=0
  ·have:X=old:=kx (by rw[hX,hc0,nG,de,iQ]);rw[this];exact⟨⟨o1,⟨a,by omega,oh⟩,b,by omega,ot⟩,.inl rfl⟩
  ·rw[ag (by omega)] at h8;by_cases hc1:c<=120
   ·rw[ai (by omega)] at IK;refine⟨⟨hXs,⟨n,aG _,h8⟩,b,by omega,IK⟩,.inr (.inr ?_)⟩;cases hv:lJ X.data.toList with
    |none=>rfl
    |some y=>
     exfalso;obtain⟨m,j,d⟩:=y;obtain⟨v1,v2,v3,v4,_,_⟩:=Ms hv;rw[R1 v2 v1,IK] at v3;unfold sN at v3;rw[h8,oZ ⟨by omega,by omega⟩,oZ ⟨by omega,by omega⟩] at v3;omega
   ·rw[ag (by omega)] at IK;refine⟨⟨hXs,⟨n,aG _,h8⟩,n,aG _,IK⟩,.inr (.inl ?_)⟩;apply kx;rw[hl];refine(dj 120 _).symm.trans (Eq.trans ?_ (dj 120 _));rw[IK,vK zW.2.2.2.2,hX,List.take_append_of_le_length (by rw[aD,Ho];omega),xz,show min 120 c=120 from by omega]
structure fS where
 bA:Int
 number:Int
 size:Int
 seq:Int
deriving DecidableEq
def bZ(h:fS):LV:=[.i h.bA,.i h.number,.i h.size,.i h.seq]
def nt(h:fS):Prop:=1<=h.bA/\h.bA<=1152921504606846976/\1<=h.number/\h.number<=1152921504606846976/\0<=h.size/\h.size<=425984/\0<=h.seq/\h.seq<=1152921504606846976
instance(h:fS):Decidable (nt h):=by unfold nt;infer_instance
def jS(h:fS):List UInt8:=le .i64 8 h.bA++le .i64 8 h.number++le .i64 8 h.size++le .i64 8 h.seq
def qg(h:fS):(jS h).length=32:=by simp only[jS,au,aO]
def DJ:fS:=⟨0,0,0,0⟩
def xj(l:List UInt8):fS:=⟨mS (l.take 8),mS ((l.drop 8).take 8),mS (((l.drop 8).drop 8).take 8),mS ((((l.drop 8).drop 8).drop 8).take 8)⟩
def G1(l:List UInt8):Option fS:=if l.length=32/\nt (xj l) then some (xj l) else none
def KN{h:fS}(hg:nt h):G1 (jS h)=some h:=by
 obtain⟨h1,h2,h3,h4,h5,h6,h7,h8⟩:=hg;have xg:jS h=le .i64 8 h.bA++(le .i64 8 h.number++(le .i64 8 h.size++le .i64 8 h.seq)):=by simp only[jS,aH]
 have tl:∀(a b:List UInt8)(m:Nat),a.length=m->(a++b).take m=a:=λa b m hm=>by subst hm;exact Cc
 have dl:∀(a b:List UInt8)(m:Nat),a.length=m->(a++b).drop m=b:=λa b m hm=>by subst hm;exact List.drop_left
 have e:xj (jS h)=h:=by
  unfold xj;rw[xg,tl _ _ _ (aO _ _ _),dl _ _ _ (aO _ _ _),tl _ _ _ (aO _ _ _),dl _ _ _ (aO _ _ _),tl _ _ _ (aO _ _ _),dl _ _ _ (aO _ _ _),bM (by rw[aO];omega)];rw[oZ ⟨by omega,h2⟩,oZ ⟨by omega,h4⟩,oZ ⟨h5,by omega⟩,oZ ⟨h7,h8⟩]
 unfold G1;rw[e,ai ⟨qg h,h1,h2,h3,h4,h5,h6,h7,h8⟩]
def qf:Option fS->Value
 |none=>.tuple ⟨[.agg ⟨bZ DJ⟩,.b false]⟩
 |some h=>.tuple ⟨[.agg ⟨bZ h⟩,.b true]⟩
section
variable {W w:World} {L:LH} {k:Nat}
def Ft{h:fS}{K:VK}(hs:St W w L)(hK:∀w',St W w' L->K (.b (decide (nt h))) w'):uL (bZ h) K w:=by
 unfold uL;refine iS hs λr w hs=>?_;have hh:=hK w hs.drop;have no: ¬nt h->K (.b false) w:=λhn=>by rw[aq hn] at hh;exact hh
 refine cT (k:=0) hs rfl rfl ?_;simp only[nz,ae,af];refine fJ (λh1=>?_) (λh1=>no (by unfold nt;omega));refine cT (k:=0) hs rfl rfl ?_;simp only[nz,ae,af];refine fJ (λh2=>?_) (λh1=>no (by unfold nt;omega));refine cT (k:=0) hs rfl rfl ?_;simp only[nz,ae,af];refine fJ (λh3=>?_) (λh1=>no (by unfold nt;omega));refine cT (k:=0) hs rfl rfl ?_;simp only[nz,ae,af];refine fJ (λh4=>?_) (λh1=>no (by unfold nt;omega));refine cT (k:=0) hs rfl rfl ?_;simp only[nz,ae,af];refine fJ (λh5=>?_) (λh1=>no (by unfold nt;omega));refine cT (k:=0) hs rfl rfl ?_;simp only[nz,ae,af];refine fJ (λh6=>?_) (λh1=>no (by unfold nt;omega));refine cT (k:=0) hs rfl rfl ?_;simp only[nz,ae,af];refine fJ (λh7=>?_) (λh1=>no (by unfold nt;omega));refine cT (k:=0) hs rfl rfl ?_;simp only[nz,ae,af];have:decide (h.seq<=1152921504606846976)=decide (nt h):=by rw[decide_eq_decide];unfold nt;omega
 rw[this];exact hh
def Du(h:fS):List UInt8×Int:=if nt h then(jS h,0) else([],1)
def Lj{h:fS}{K:VK}(hs:St W w L)(hK:∀w',St W w' L->K (.tuple ⟨[.s (bs (Du h).1),.i (Du h).2]⟩) w'):vm (bZ h) K w:=by
 unfold vm;refine iS hs λr w hs=>?_;refine jQ (k:=0) (xs:=bZ h) hs rfl rfl (λj v hj=>by rw[aC];exact hj) ?_;refine Ft hs λw hs=>?_;simp only[nz,ae,af];unfold Du at hK;by_cases hg:nt h
 ·rw[ai hg] at hK;rw[av hg];simp only[nz,ae,af];refine iS hs λp w hs=>?_;have hs:St W w (buf p []::pt r (bZ h)::L):=by
   have h2:=(hs.push (A:=own none 0 0 1 (([]:List UInt8).map u4)) (rG 1)).perm (bU.swap _ _ _);exact uq (k:=0) (L:=buf p []::pt r (bZ h)::L) (A:=buf p []) rfl rfl h2
  refine cT (k:=1) hs rfl rfl ?_;simp only[nz,ae,af];refine cT (k:=1) hs rfl rfl ?_;simp only[nz,ae,af];refine cT (k:=1) hs rfl rfl ?_;simp only[nz,ae,af];refine cT (k:=1) hs rfl rfl ?_;simp only[nz,ae,af];refine⟨λus w'=>∃j:Nat,us=[.s .empty,.i 0,.p (ah p),.agg ⟨bZ h⟩,.i j]/\j<=4/\St W w' (buf p ((jS h).take (8* j))::pt r (bZ h)::L),
   λus _=>match us with|[_,_,_,_,.int _ j]=>4-j.toNat|_=>0,⟨0,rfl,aE _,hs⟩,?_⟩
  rintro s1 n5 a1 Gy n6 w2 ⟨j,he,hj,hs⟩;cases he
  refine tv (λh0=>?_) (λh0=>?_)
  ·have hj4:j<4:=by have:=aQ h0;omega
   have e5:=nL j;obtain⟨n,hn,gi⟩:∃n,(bZ h)[(j:Int).toNat]?=some (.i n)/\(jS h).take (8* j)++le .i64 8 n=(jS h).take (8* (j+1)):=by
    have xg:jS h=le .i64 8 h.bA++(le .i64 8 h.number++(le .i64 8 h.size++le .i64 8 h.seq)):=by simp only[jS,aH]
    have ll:∀n,(le .i64 8 n).length=8:=λn=>aO _ _ _
    match j,hj4 with
    |0,_=>exact⟨h.bA,rfl,by rw[xg,List.take_append_of_le_length (by rw[ll];omega),List.take_append_of_le_length (by rw[ll];omega),bM (l:=le .i64 8 h.bA) (i:=8* (0+1)) (by rw[ll];omega)];simp⟩
    |1,_=>exact⟨h.number,rfl,by simp only[jS,List.take_append,ll,au];simp[bM,ll]⟩
    |2,_=>exact⟨h.size,rfl,by simp only[jS,List.take_append,ll,au];simp[bM,ll]⟩
    |3,_=>exact⟨h.seq,rfl,by simp only[jS,List.take_append,ll,au];simp[bM,ll]⟩
   refine⟨.i n,⟨by omega,by omega,hn⟩,?_⟩;simp only[nz,ae,af];refine jZ (k:=0) hs rfl (by rw[aD];omega) λw hs=>?_;rw[show(min2 (max2 8 1) 8).toNat=8 from rfl,gi] at hs;simp only[nz,ae,af] at hs⊢;rw[e5];exact⟨⟨j+1,rfl,by omega,hs⟩,by omega⟩
  ·have hj4:j=4:=by have:=bj h0;omega
   subst hj4;rw[bM (by rw[qg];omega)] at hs;refine mF (k:=0) hs rfl ?_;simp only[nz,ae,af];exact hK w2 hs.drop.drop
 ·rw[ag hg] at hK;rw[aq hg];simp only[nz,ae,af];exact hK w hs.drop
end
def Co{l:List UInt8}{n j:Int}{d:BA}(h:lJ l=some (n,j,d)):d.size<=104:=by
 unfold lJ at h;split at h
 ·cases h
 split at h
 ·cases h
 split at h
 ·cases h
 split at h
 ·cases h
 split at h
 ·cases h
 split at h
 ·cases h
 rename_i h6;cases h
 exact(bh.1 h6).2.2.2.2
def nx(x:List UInt8×Bool):List UInt8×Bool:=if x.2=true\/x.1.length<8 then(x.1,true) else(x.1.drop 8,false)
def nv(x:List UInt8×Bool):Int:=if x.2=true\/x.1.length<8 then 0 else mS (x.1.take 8)
section
variable {W w:World} {L:LH} {k d:Nat} {D:aX}
def y6{r:Nat}{x:List UInt8×Bool}{K:VK}(h:St W w L)(hk:L[k]?=some (C0 r (bs x.1) x.2))(hl:x.1.length<1099511627776)
 (hK:∀w',St W w' (L.set k (C0 r (bs (nx x).1) (nx x).2))->K (.i (nv x)) w'):aN (ah r) 8 K w:=by
 refine Bh h hk ?_;have em:min2 (max2 8 1) 8=((8:Nat):Int):=rfl;rw[em];obtain⟨l,t⟩:=x;unfold nx nv at hK;dsimp only at hK hl⊢;by_cases hc:t=true\/l.length<8
 ·rw[ai hc,ai hc] at hK;have et:rZ (bs l) t ((8:Nat):Int)=true:=by
   unfold rZ;rcases hc with h1|h1
   ·rw[h1];rfl
   ·rw[bY,av (by omega)];simp
  unfold C1 yr;rw[et,ai rfl,ai rfl];exact hK
 ·rw[ag hc,ag hc] at hK;have ht:t=false:=by cases t<;>simp_all
  have et:rZ (bs l) t ((8:Nat):Int)=false:=by
   unfold rZ;rw[ht,bY,aq (by omega)];rfl
  unfold C1 yr;rw[et,ao,oF,oE];exact hK
def LJ{r:Nat}{x:List UInt8×Bool}{K:VK}(h:St W w L)(hk:L[k]?=some (C0 r (bs x.1) x.2))(hK:K (.b (!x.2&&decide (x.1=[]))) w):lA (ah r) K w:=by
 unfold C0 at hk;unfold lA;simp only[nz,ae,af];refine cT h hk rfl ?_;simp only[nz,ae,af];obtain⟨l,t⟩:=x;cases t with
 |true=>exact hK
 |false=>
  simp only[nz,ae,af];refine cT h hk rfl ?_;simp only[nz,ae,af];have hem:(⟨#[]⟩:BA)=bs []:=rfl;have e:decide (bs l=bs [])=decide (l=[]):=by rw[decide_eq_decide];exact Ae
  rw[sr,hem,e];exact hK
def Dh{x:List UInt8×Bool}(h:(nx x).2=false):x.2=false/\8<=x.1.length/\(nx x).1.length+8=x.1.length:=by
 unfold nx at h⊢;by_cases hc:x.2=true\/x.1.length<8
 ·rw[ai hc] at h;cases h
 ·rw[ag hc];have h1:x.2=false:=by cases hx:x.2 with
   |true=>exact aT (.inl hx) hc
   |false=>rfl
  have h2:8<=x.1.length:=by
   by_cases hh:8<=x.1.length
   ·exact hh
   ·exact aT (.inr (by omega)) hc
  refine⟨h1,h2,?_⟩;show(x.1.drop 8).length+8=x.1.length;rw[aS];omega
def VI{l:List UInt8}(h:l.length≠32):(!(nx (nx (nx (nx (l,false))))).2&&decide ((nx (nx (nx (nx (l,false))))).1=[]))=false:=by
 cases h4:(nx (nx (nx (nx (l,false))))).2 with
 |true=>rfl
 |false=>
  obtain⟨b3,c3,d3⟩:=Dh h4;obtain⟨b2,c2,d2⟩:=Dh b3;obtain⟨b1,c1,d1⟩:=Dh b2;obtain⟨b0,c0,d0⟩:=Dh b1;have kd:(nx (nx (nx (nx (l,false))))).1≠[]:=λhe=>by
   rw[he,cH] at d3;dsimp only at d0;omega
  rw[aq kd];rfl
def ZD{l:List UInt8}(h:l.length=32):nx (l,false)=(l.drop 8,false)/\nx (l.drop 8,false)=((l.drop 8).drop 8,false)/\nx ((l.drop 8).drop 8,false)=(((l.drop 8).drop 8).drop 8,false)/\nx (((l.drop 8).drop 8).drop 8,false)=([],false)/\
 nv (l,false)=mS (l.take 8)/\nv (l.drop 8,false)=mS ((l.drop 8).take 8)/\nv ((l.drop 8).drop 8,false)=mS (((l.drop 8).drop 8).take 8)/\nv (((l.drop 8).drop 8).drop 8,false)=mS ((((l.drop 8).drop 8).drop 8).take 8):=by
 have l1:(l.drop 8).length=24:=by rw[aS];omega
 have l2:((l.drop 8).drop 8).length=16:=by rw[aS,l1]
 have l3:(((l.drop 8).drop 8).drop 8).length=8:=by rw[aS,l2]
 have l4:(((l.drop 8).drop 8).drop 8).drop 8=[]:=List.drop_eq_nil_iff.2 (by omega);unfold nx nv;refine⟨?_,?_,?_,?_,?_,?_,?_,?_⟩
 ·rw[ag (by simp;omega)]
 ·rw[ag (by simp only[cB,false_or];omega)]
 ·rw[ag (by simp only[cB,false_or];omega)]
 ·rw[ag (by simp only[cB,false_or];omega),l4]
 ·rw[ag (by simp;omega)]
 ·rw[ag (by simp only[cB,false_or];omega)]
 ·rw[ag (by simp only[cB,false_or];omega)]
 ·rw[ag (by simp only[cB,false_or];omega)]
def MD(x:List UInt8×Bool):(nx x).1.length<=x.1.length:=by unfold nx;split<;>simp
def Ng{l:List UInt8}{K:VK}(hs:St W w L)(hl:l.length<1099511627776)(hK:∀w',St W w' L->K (qf (G1 l)) w'):xr (bs l) K w:=by
 unfold xr;refine iS hs λr1 w hs=>?_;refine sq hs λq w hs=>?_;simp only[nz,ae,af];have n1:=MD (l,false);have n2:=MD (nx (l,false));have n3:=MD (nx (nx (l,false)));dsimp only at n1;refine y6 (k:=0) (x:=(l,false)) hs rfl hl λw hs=>?_;simp only[nz,ae,af] at hs⊢;refine y6 (k:=0) (x:=nx (l,false)) hs rfl (by omega) λw hs=>?_;simp only[nz,ae,af] at hs⊢;refine y6 (k:=0) (x:=nx (nx (l,false))) hs rfl (by omega) λw hs=>?_;simp only[nz,ae,af] at hs⊢;refine y6 (k:=0) (x:=nx (nx (nx (l,false)))) hs rfl (by omega) λw hs=>?_;simp only[nz,ae,af] at hs⊢;refine iS hs λr2 w hs=>?_;refine⟨by simp,?_⟩;refine jK (k:=0) hs rfl (aJ rfl) (by simp[Value.oneCell']) λw hs=>?_;rw[iC (by simp)] at hs;simp only[nz,ae,af] at hs;refine LJ (k:=1) (x:=nx (nx (nx (nx (l,false))))) hs rfl ?_;simp only[nz,ae,af];have fail:∀w A B,(∀w',St W w' L->K (qf none) w')->St W w (A::B::pt r1 [.i 0,.i 0,.i 0,.i 0]::L)->jC ⟨r1,0,none⟩ [.i 0,.i 0,.i 0,.i 0] (aI ⟨r1,0,none⟩ 4 λcs=>K (.tuple ⟨[.agg ⟨cs⟩,.b false]⟩)) w:=λw A B hK hs=>by
  refine jK (k:=2) hs rfl (aJ rfl) (by simp[Value.oneCell']) λw hs=>?_;rw[iC (by simp)] at hs;refine jQ (k:=2) (xs:=[.i 0,.i 0,.i 0,.i 0]) hs rfl rfl (λj v hj=>by rw[aC];exact hj) ?_;exact hK w hs.drop.drop.drop
 unfold G1 at hK;by_cases h32:l.length=32
 ·obtain⟨a1,a2,a3,a4,b1,b2,b3,b4⟩:=ZD h32;rw[a1,a2,a3,a4] at hs⊢;rw[b1,b2,b3,b4] at hs;have ee:(!((([]:List UInt8),false):List UInt8×Bool).2&&decide ((((([]:List UInt8),false):List UInt8×Bool)).1=[]))=true:=by decide
  rw[ee];simp only[nz,ae,af];have hs:St W w (pt r2 (bZ (xj l))::C0 q (bs []) false::pt r1 [.i 0,.i 0,.i 0,.i 0]::L):=hs;refine jQ (k:=0) (xs:=bZ (xj l)) hs rfl rfl (λj v hj=>by rw[aC];exact hj) ?_;refine Ft hs λw hs=>?_;simp only[nz,ae,af];by_cases hg:nt (xj l)
  ·rw[ai ⟨h32,hg⟩] at hK;rw[av hg];simp only[nz,ae,af];refine jQ (k:=0) (xs:=bZ (xj l)) hs rfl rfl (λj v hj=>by rw[aC];exact hj) ?_;refine⟨rfl,?_⟩;refine jK (k:=2) hs rfl (aJ rfl) (by simp[Value.oneCell',bZ]) λw hs=>?_;rw[iC (by simp[bZ])] at hs;simp only[nz,ae,af] at hs;refine jQ (k:=2) (xs:=bZ (xj l)) hs rfl rfl (λj v hj=>by rw[aC];exact hj) ?_;exact hK w hs.drop.drop.drop
  ·rw[ag (λhh=>hg hh.2)] at hK;rw[aq hg];simp only[nz,ae,af];exact fail w _ _ hK hs
 ·rw[ag (λhh=>h32 hh.1)] at hK;rw[VI h32];simp only[nz,ae,af];exact fail w _ _ hK hs
def Af(D:aX)(i:Nat):Option fS:=
 match lJ (D.read (i:Int)).1.data.toList with
 |none=>none
 |some (_,j,d)=>if(D.read (i:Int)).2≠0\/j≠0 then none else match G1 d.data.toList with
  |none=>none
  |some h=>if low h.bA≠i then none else some h
def O'{i:Nat}{K:VK}(hs:St W w L)(hk:L[k]?=some (gJ d D))(ix:D.Ok)(hK:∀w',St W w' L->K (qf (Af D i)) w'):o8 (ah d) i K w:=by
 unfold o8;refine iS hs λr1 w hs=>?_;have UI:(pt r1 [.i 0,.i 0,.i 0,.i 0]::L)[k+1]?=some (gJ d D):=by rw[bO];exact hk
 refine rU (k:=k+1) hs UI ix ?_;simp only[nz,ae,af];have fail:∀w A,(∀w',St W w' L->K (qf none) w')->St W w (A::pt r1 [.i 0,.i 0,.i 0,.i 0]::L)->jC ⟨r1,0,none⟩ [.i 0,.i 0,.i 0,.i 0] (aI ⟨r1,0,none⟩ 4 λcs=>K (.tuple ⟨[.agg ⟨cs⟩,.b false]⟩)) w:=λw A hK hs=>by
  refine jK (k:=1) hs rfl (aJ rfl) (by simp[Value.oneCell']) λw hs=>?_;rw[iC (by simp)] at hs;refine jQ (k:=1) (xs:=[.i 0,.i 0,.i 0,.i 0]) hs rfl rfl (λj v hj=>by rw[aC];exact hj) ?_;exact hK w hs.drop.drop
 have OW:∀w r2 A,(∀w',St W w' L->K (qf none) w')->St W w (A::pt r1 [.i 0,.i 0,.i 0,.i 0]::L)->o8.j1 K r1 r2 i true w:=λw r2 A hK hs=>by
  unfold o8.j1;simp only[nz,ae,af];exact fail w A hK hs
 have hxs:(D.read (i:Int)).1.size<1099511627776:=by
  by_cases hi:D.is (i:Int)
  ·have:=yO ix hi;omega
  ·unfold aX.read;rw[ag hi];decide
 unfold Af at hK;generalize hx:(D.read (i:Int)).1=x at *;generalize he:(D.read (i:Int)).2=e at *;rw[show x=bs x.data.toList from rfl];refine Ca hs (by rw[eJ];exact hxs) λw hs=>?_;cases hv:lJ x.data.toList with
 |none=>
  rw[hv] at hK;unfold tU;simp only[nz,ae,af];simp only[xD,bt,cH,aC,ae,true_and];simp only[nz,ae,af];refine iS hs λr2 w hs=>?_;refine⟨trivial,jK (k:=0) hs rfl (aJ rfl) (by simp[Value.oneCell']) λw hs=>?_⟩;simp only[nz,ae,af] at hs;refine uP (λ_=>OW w r2 _ hK hs) (λ_=>?_);exact OW w r2 _ hK hs
 |some y=>
  obtain⟨m,j,dd⟩:=y;rw[hv] at hK;dsimp only at hK;unfold tU;simp only[nz,ae,af];simp only[xD,bt,cH,aC,ae,true_and];simp only[nz,ae,af];refine iS hs λr2 w hs=>?_;refine⟨trivial,jK (k:=0) hs rfl (aJ rfl) (by simp[Value.oneCell']) λw hs=>?_⟩;rw[iC (by simp)] at hs;simp only[nz,ae,af] at hs;refine uP (λkd=>?_) (λh0=>?_)
  ·rw[ai (.inl kd)] at hK;exact OW w r2 _ hK hs
  refine cT (k:=0) hs rfl rfl ?_;simp only[nz,ae,af];by_cases hj:j=0
  ·rw[ag (by rintro(h|h);exact h h0;exact h hj)] at hK;have ej:(j !=0)=false:=by simp[hj]
   rw[ej];unfold o8.j1;simp only[nz,ae,af];refine cT (k:=0) hs rfl rfl ?_;simp only[nz,ae,af];rw[show dd=bs dd.data.toList from rfl];refine Ng hs (by
    rw[eJ]
    have:=(Co hv)
    omega) λw hs=>?_
   cases hh:G1 dd.data.toList with
   |none=>
    rw[hh] at hK;unfold qf;simp only[nz,ae,af];simp only[xD];refine⟨rfl,?_⟩;simp only[nz,ae,af];refine iS hs λr3 w hs=>?_;refine⟨by simp[bZ],jK (k:=0) hs rfl (aJ rfl) (by simp[Value.oneCell',bZ]) λw hs=>?_⟩;rw[iC (by simp[bZ])] at hs;simp only[nz,ae,af] at hs;refine⟨trivial,by simp,?_⟩;refine jK (k:=2) hs rfl (aJ rfl) (by simp[Value.oneCell']) λw hs=>?_;rw[iC (by simp)] at hs;simp only[nz,ae,af] at hs;refine jQ (k:=2) (xs:=[.i 0,.i 0,.i 0,.i 0]) hs rfl rfl (λj v hj=>by rw[aC];exact hj) ?_;exact hK w hs.drop.drop.drop
   |some hd=>
    rw[hh] at hK;dsimp only at hK;unfold qf;simp only[nz,ae,af];simp only[xD];refine⟨rfl,?_⟩;simp only[nz,ae,af];refine iS hs λr3 w hs=>?_;refine⟨by simp[bZ],jK (k:=0) hs rfl (aJ rfl) (by simp[Value.oneCell',bZ]) λw hs=>?_⟩;rw[iC (by simp[bZ])] at hs;simp only[nz,ae,af] at hs;refine cT (k:=0) hs rfl rfl ?_;simp only[nz,ae,af];refine uP (λkd=>?_) (λheq=>?_)
    ·rw[ai (show low hd.bA≠(i:Int) from kd)] at hK;refine⟨trivial,by simp,?_⟩;refine jK (k:=2) hs rfl (aJ rfl) (by simp[Value.oneCell']) λw hs=>?_;rw[iC (by simp)] at hs;simp only[nz,ae,af] at hs;refine jQ (k:=2) (xs:=[.i 0,.i 0,.i 0,.i 0]) hs rfl rfl (λj v hj=>by rw[aC];exact hj) ?_;exact hK w hs.drop.drop.drop
    ·rw[ag (show ¬low hd.bA≠(i:Int) from λhh=>hh heq)] at hK;refine jQ (k:=0) (xs:=bZ hd) hs rfl rfl (λj v hj=>by rw[aC];exact hj) ?_;refine⟨rfl,?_⟩;refine jK (k:=2) hs rfl (aJ rfl) (by simp[Value.oneCell',bZ]) λw hs=>?_;rw[iC (by simp[bZ])] at hs;simp only[nz,ae,af] at hs;refine jQ (k:=2) (xs:=bZ hd) hs rfl rfl (λj v hj=>by rw[aC];exact hj) ?_;exact hK w hs.drop.drop.drop
  ·rw[ai (.inr hj)] at hK;have ej:(j !=0)=true:=by simp[hj]
   rw[ej];exact OW w r2 _ hK hs
end
def fG(n:Nat)(x:List UInt8×Bool):List UInt8×Bool:=if x.2=true\/x.1.length<n then(x.1,true) else(x.1.drop n,false)
def kL(n:Nat)(x:List UInt8×Bool):Int:=if x.2=true\/x.1.length<n then 0 else mS (x.1.take n)
def Ix(x:List UInt8×Bool):0<=kL 4 x/\kL 4 x<4294967296:=by
 unfold kL;split
 ·omega
 ·have h1:=ry (x.1.take 4);have h2:(x.1.take 4).length<=4:=by rw[aD];omega
  have h3:256^(x.1.take 4).length<=256^4:=gv (by decide) h2;have h4:(256:Nat)^4=4294967296:=rfl;rw[nD (by omega)];omega
def df(seq:Int)(s:BA):List UInt8:=le .i64 8 seq++le .i64 4 s.size++s.data.toList
def zx(seq:Int)(s:BA):(df seq s).length=12+s.size:=by
 simp only[df,au,aO];rfl
def lK(D:aX)(at' toX seq:Int):Option (List UInt8×Int):=
 if toX<=at' then none else match lJ (D.read at').1.data.toList with
 |none=>none
 |some (m,j,d)=>
  if j≠0\/kL 8 (d.data.toList,false)≠seq then none
  else if(fG 4 (fG 8 (d.data.toList,false))).2=true\/32768<kL 4 (fG 8 (d.data.toList,false)) then none
  else match take D at' toX m (12+kL 4 (fG 8 (d.data.toList,false))) with
  |none=>none
  |some t=>some (t.drop 12,at'+(gj (12+kL 4 (fG 8 (d.data.toList,false))).toNat:Int))
def AS:Option (List UInt8×Int)->Value
 |none=>.tuple ⟨[.s .empty,.i 0,.b false]⟩
 |some (l,a)=>.tuple ⟨[.s (bs l),.i a,.b true]⟩
def At{D:aX}{at' number:Int}{size:Nat}:∀(n i:Nat) {t:List UInt8},mQ D at' number size i n=some t->104* i<=size->size<=104* (i+n)->t.length=size-104* i
 |0,i,t,h,h1,h2=>by
  simp only[mQ,bE.injEq] at h;subst h;simp;omega
 |n+1,i,t,h,h1,h2=>by
  rw[oH] at h;split at h
  ·cases h
  ·rename_i m j d hv;split at h
   ·rename_i hc;cases ht:mQ D at' number size (i+1) n with
    |none=>rw[ht] at h;cases h
    |some u=>
     rw[ht] at h;simp only[eW,bE.injEq] at h;subst h;have hd:d.data.toList.length=d.size:=rfl;by_cases h3:104* (i+1)<=size
     ·have:=At n (i+1) ht h3 (by omega);rw[au,this,hd,hc.2.2];omega
     ·
      have hz:∀(n i:Nat) {u:List UInt8},mQ D at' number size i n=some u->size<=104* i->u.length=0:=by
       intro n
       induction n with
       |zero=>intro i u h _;simp only[mQ,bE.injEq] at h;subst h;rfl
       |succ n ih=>
        intro i u h hle;rw[oH] at h;split at h
        ·cases h
        ·rename_i m j d hv;split at h
         ·rename_i hc;cases ht:mQ D at' number size (i+1) n with
          |none=>rw[ht] at h;cases h
          |some v=>
           rw[ht] at h;simp only[eW,bE.injEq] at h;subst h;have:=ih (i+1) ht (by omega);have hd:d.data.toList.length=d.size:=rfl;rw[au,this,hd,hc.2.2];omega
         ·cases h
      have:=hz n (i+1) ht (by omega);rw[au,this,hd,hc.2.2];omega
   ·cases h
def take_length{D:aX}{at' toX number size:Int}{t:List UInt8}(h:take D at' toX number size=some t):(t.length:Int)=size/\0<=at'/\at'+(gj size.toNat:Int)<=toX/\toX<=(D.safe.length:Int)/\0<=size:=by
 unfold take at h;split at h
 ·cases h
 ·rename_i hc;have hs:size.toNat<=104* gj size.toNat:=by unfold gj;split<;>omega
  have:=At (gj size.toNat) 0 h (by omega) (by omega);omega
section
variable {W w:World} {L:LH} {k d:Nat} {D:aX}
def y5{r n:Nat}{x:List UInt8×Bool}{K:VK}(h:St W w L)(hk:L[k]?=some (C0 r (bs x.1) x.2))(hl:x.1.length<1099511627776)(hn:1<=n/\n<=8)
 (hK:∀w',St W w' (L.set k (C0 r (bs (fG n x).1) (fG n x).2))->K (.i (kL n x)) w'):aN (ah r) (n:Int) K w:=by
 refine Bh h hk ?_;have em:min2 (max2 (n:Int) 1) 8=((n:Nat):Int):=by unfold min2 max2;split<;>split<;>omega
 rw[em];obtain⟨l,t⟩:=x;unfold fG kL at hK;dsimp only at hK hl⊢;by_cases hc:t=true\/l.length<n
 ·rw[ai hc,ai hc] at hK;have et:rZ (bs l) t ((n:Nat):Int)=true:=by
   unfold rZ;rcases hc with h1|h1
   ·rw[h1];rfl
   ·rw[bY,av (by omega)];simp
  unfold C1 yr;rw[et,ai rfl,ai rfl];exact hK
 ·rw[ag hc,ag hc] at hK;have ht:t=false:=by cases t<;>simp_all
  have et:rZ (bs l) t ((n:Nat):Int)=false:=by
   unfold rZ;rw[ht,bY,aq (by omega)];rfl
  unfold C1 yr;rw[et,ao,oF,oE];exact hK
def EU{r:Nat}{s:BA}{t:Bool}{K:VK}(h:St W w L)(hk:L[k]?=some (C0 r s t))(hK:K (.b t) w):cW (ah r) K w:=by
 unfold C0 at hk;unfold cW;simp only[nz,ae,af];refine cT h hk rfl ?_;simp only[nz,ae,af];exact hK
def u9(n:Nat)(x:List UInt8×Bool):(fG n x).1.length<=x.1.length:=by unfold fG;split<;>simp
def P7{at' toX seq:Int}{K:VK}(h:St W w L)(hk:L[k]?=some (gJ d D))(ix:D.Ok)(Bp:0<=at')(UB:toX<=(D.safe.length:Int))
 (hK:∀w',St W w' L->K (AS (lK D at' toX seq)) w'):fM (ah d) at' toX seq K w:=by
 have wj:=ix.ou;unfold lK at hK;unfold fM;refine fJ (λh1=>?_) (λh1=>?_)
 ·rw[ai (by omega)] at hK;exact hK w h
 rw[ag (by omega)] at hK;refine rU h hk ix ?_;simp only[nz,ae,af];have se:=yO ix (i:=at') ⟨by omega,by omega⟩;generalize hx:(D.read at').1=X at *;rw[show X=bs X.data.toList from rfl];refine Ca h (by rw[eJ];omega) λw h=>?_;cases hv:lJ X.data.toList with
 |none=>
  rw[hv] at hK;unfold tU;simp only[nz,ae,af];simp only[xD,bt,cH,aC,ae,true_and];simp only[nz,ae,af];refine iS h λr1 w h=>?_;refine⟨trivial,jK (k:=0) h rfl (aJ rfl) (by simp[Value.oneCell']) λw h=>?_⟩;rw[iC (by simp)] at h;simp only[nz,ae,af] at h;refine cT (k:=0) h rfl rfl ?_;simp only[nz,ae,af];refine sq h λq w h=>?_;simp only[nz,ae,af];refine y5 (k:=0) (n:=8) (x:=([],false)) h rfl (by decide) (by decide) λw h=>?_;simp only[nz,ae,af] at h⊢;unfold fM.j1;simp only[nz,ae,af];exact hK w h.drop.drop
 |some y=>
  obtain⟨m,j,dd⟩:=y;rw[hv] at hK;dsimp only at hK;have hdd:=Co hv;have zv:dd.data.toList.length=dd.size:=rfl;unfold tU;simp only[nz,ae,af];simp only[xD,bt,cH,aC,ae,true_and];simp only[nz,ae,af];refine iS h λr1 w h=>?_;refine⟨trivial,jK (k:=0) h rfl (aJ rfl) (by simp[Value.oneCell']) λw h=>?_⟩;rw[iC (by simp)] at h;simp only[nz,ae,af] at h;refine cT (k:=0) h rfl rfl ?_;simp only[nz,ae,af];rw[show dd=bs dd.data.toList from rfl];refine sq h λq w h=>?_;simp only[nz,ae,af];have n1:=u9 8 (dd.data.toList,false);dsimp only at n1;refine y5 (k:=0) (n:=8) (x:=(dd.data.toList,false)) h rfl (by dsimp only;omega) (by decide) λw h=>?_;simp only[nz,ae,af] at h⊢;refine cT (k:=1) h rfl (v:=.i j) rfl ?_;simp only[nz,ae,af];have stop:∀w,(∀w',St W w' L->K (AS none) w')->St W w (C0 q (bs (fG 8 (dd.data.toList,false)).1) (fG 8 (dd.data.toList,false)).2::pt r1 [.i m,.i j,.s (bs dd.data.toList)]::L)->fM.j1 K (ah q) r1 (ah d) at' toX true w:=λw hK h=>by
   unfold fM.j1;simp only[nz,ae,af];exact hK w h.drop.drop
  refine uP (λhj=>?_) (λhj=>?_)
  ·rw[ai (.inl hj)] at hK;exact stop w hK h
  by_cases hq:kL 8 (dd.data.toList,false)=seq
  ·rw[ag (by rintro(hh|hh);exact hh hj;exact hh hq)] at hK;have eb:(kL 8 (dd.data.toList,false)!=seq)=false:=by rw[hq];exact bne_self_eq_false seq
   rw[eb];unfold fM.j1;simp only[nz,ae,af];refine y5 (k:=0) (n:=4) (x:=fG 8 (dd.data.toList,false)) h rfl (by omega) (by decide) λw h=>?_;simp only[nz,ae,af] at h⊢;refine EU (k:=0) h rfl ?_;simp only[nz,ae,af];have CC:=Ix (fG 8 (dd.data.toList,false));generalize hz:fG 4 (fG 8 (dd.data.toList,false))=z at *;generalize hn6:kL 4 (fG 8 (dd.data.toList,false))=n6 at *;have XR:∀w,(∀w',St W w' L->K (AS none) w')->St W w (C0 q (bs z.1) z.2::pt r1 [.i m,.i j,.s (bs dd.data.toList)]::L)->fM.j2 K r1 (ah d) at' toX n6 true w:=λw hK h=>by
    unfold fM.j2;simp only[nz,ae,af];exact hK w h.drop.drop
   refine tv (λht=>?_) (λht=>?_)
   ·rw[ai (.inl ht)] at hK;exact XR w hK h
   by_cases hm:32768<n6
   ·rw[ai (.inr hm)] at hK;rw[av hm];exact XR w hK h
   ·rw[ag (by rintro(hh|hh);(rw[ht] at hh;cases hh);exact hm hh)] at hK;rw[aq hm];unfold fM.j2;simp only[nz,ae,af];refine cT (k:=1) h rfl (v:=.i m) rfl ?_;simp only[nz,ae,af];have ew:aa.wrap (12+n6)=12+n6:=aW (by omega);rw[ew];refine HQ (k:=k+2) h (by rw[bO,bO];exact hk) ix λw h=>?_;cases ht:take D at' toX m (12+n6) with
    |none=>
     rw[ht] at hK;unfold sL;simp only[nz,ae,af];exact hK w h.drop.drop
    |some t=>
     rw[ht] at hK;dsimp only at hK;obtain⟨l1,l2,l3,l4,l5⟩:=take_length ht;unfold sL;simp only[nz,ae,af];refine lX h λw h=>?_;unfold mj;refine⟨⟨by omega,by rw[bY];omega⟩,?_⟩;rw[show(12:Int).toNat=12 from rfl,oE];obtain⟨p,hp⟩:=bm (show 0<=12+n6 by omega);rw[hp] at hK⊢l3;refine q6 (by omega) ?_;simp only[nz,ae,af];rw[ao] at hK l3;have ew2:aa.wrap (at'+(gj p:Int))=at'+(gj p:Int):=aW (by omega);rw[ew2];exact hK w h.drop.drop
  ·rw[ai (.inr hq)] at hK;have eb:(kL 8 (dd.data.toList,false)!=seq)=true:=by simp[hq]
   rw[eb];exact stop w hK h
def MZ{seq:Int}{s:BA}{K:VK}(h:St W w L)(hs:s.size<=1000000)(hK:∀w',St W w' L->K (.s (bs (df seq s))) w'):sQ seq s K w:=by
 have hd:s.data.toList.length=s.size:=rfl;unfold sQ;refine⟨trivial,?_⟩;refine iS h λp w hs=>?_;have hs:St W w (buf p []::L):=by
  have h2:=(hs.push (A:=own none 0 0 1 (([]:List UInt8).map u4)) (rG 1)).perm (bU.swap _ _ _);exact uq (k:=0) (L:=buf p []::L) (A:=buf p []) rfl rfl h2
 refine jZ (k:=0) hs rfl (by simp) λw hs=>?_;rw[show(min2 (max2 8 1) 8).toNat=8 from rfl] at hs;simp only[nz,ae,af] at hs⊢;refine jZ (k:=0) hs rfl (by simp only[au,aO,cH];omega) λw hs=>?_;rw[show(min2 (max2 4 1) 8).toNat=4 from rfl] at hs;simp only[nz,ae,af] at hs⊢;refine qN (k:=0) hs rfl (by simp only[au,aO,cH];omega) λw hs=>?_;simp only[nz,ae,af] at hs⊢;refine mF (k:=0) hs rfl ?_;simp only[nz,ae,af];rw[de];exact hK w hs.drop
structure PJ where
 lo:Int
 hi:Int
 at':Int
 seq:Int
 dK:Bool
def rK(d:Nat)(J:PJ):LV:=[.p (ah d),.i J.lo,.i J.hi,.i J.at',.i J.seq,.b J.dK]
structure PJ.Ok(J:PJ)(D:aX):Prop where
 lo:0<=J.lo
 Lr:J.lo<=J.at'
 Rf:J.at'<=J.hi
 hi:J.hi<=(D.safe.length:Int)
 seq:0<=J.seq/\J.seq<=1152921504606850000
def room(J:PJ)(n:Int):Prop:=0<=n/\n<=32768/\(gj (12+n.toNat):Int)<=J.hi-J.at'
instance(J:PJ)(n:Int):Decidable (room J n):=by unfold room;infer_instance
def B6(J:PJ)(s:BA)(R:aX×Int):aX×PJ×Int:=
 if R.2≠0 then(R.1,{J with dK:=true},R.2) else(R.1,{J with at':=J.at'+(gj (12+s.size):Int),seq:=J.seq+1},0)
def tK(D:aX)(J:PJ)(number:Int)(s:BA):aX×PJ×Int:=
 if J.dK=true then(D,J,9)
 else if number<1\/1152921504606846976<number then(D,J,1)
 else if ¬room J s.size\/1152921504606846976<=J.seq then(D,J,6)
 else B6 J s (eO D J.at' J.hi number (bs (df (J.seq+1) s)))
section
variable {r:Nat} {J:PJ}
def T7{K:VK}(h:St W w L)(hk:L[k]?=some (pt r (rK d J)))(hK:K (.i J.seq) w):lM (ah r) K w:=by
 unfold lM;simp only[nz,ae,af];refine cT h hk rfl ?_;simp only[nz,ae,af];exact hK
def Ja{K:VK}(h:St W w L)(hk:L[k]?=some (pt r (rK d J)))(hK:∀w',St W w' (L.set k (pt r (rK d {J with at':=J.lo})))->K (.tuple ⟨[]⟩) w'):jv (ah r) K w:=by
 unfold jv;simp only[nz,ae,af];refine cT h hk rfl ?_;simp only[nz,ae,af];refine oz h hk (aJ rfl) rfl λw h=>?_;exact hK w h
def EV{n:Int}{K:VK}(h:St W w L)(hk:L[k]?=some (pt r (rK d J)))(hJ:J.Ok D)(ix:D.Ok)(hK:∀w',St W w' L->K (.b (decide (room J n))) w'):ju (ah r) n K w:=by
 have wj:=ix.ou;obtain⟨j1,j2,j3,j4,j5⟩:=hJ;unfold ju;refine lX h λw h=>?_;have hh:=hK w h;have no: ¬room J n->K (.b false) w:=λhn=>by rw[aq hn] at hh;exact hh
 simp only[nz,ae,af];refine fJ (λh1=>?_) (λh1=>no (λhr=>by have:=hr.1;omega));refine fJ (λh2=>?_) (λh2=>no (λhr=>by have:=hr.2.1;omega));refine cT h hk rfl ?_;simp only[nz,ae,af];refine cT h hk rfl ?_;simp only[nz,ae,af];obtain⟨m,rfl⟩:=bm (show 0<=n by omega);have ew:aa.wrap (12+(m:Int))=((12+m:Nat):Int):=by rw[aW (by omega)];omega
 rw[ew];refine q6 (by omega) ?_;simp only[nz,ae,af];refine ka h hk rfl ?_;refine ka h hk rfl ?_;have ew2:aa.wrap (J.hi-J.at')=J.hi-J.at':=aW (by omega);rw[ew2];have:decide ((gj (12+m):Int)<=J.hi-J.at')=decide (room J m):=by
  rw[decide_eq_decide];unfold room;rw[ao];omega
 rw[this];exact hh
def Qe{k2:Nat}{number:Int}{s:BA}{K:VK}(h:St W w L)(hk:L[k]?=some (pt r (rK d J)))(rq:L[k2]?=some (gJ d D))(kd:k≠k2)(hJ:J.Ok D)(ix:D.Ok)(hl:D.later.length<1000000)(hs:s.size<=reachBytes)
 (hK:∀w',St W w' ((L.set k2 (gJ d (tK D J number s).1)).set k (pt r (rK d (tK D J number s).2.1)))->K (.i (tK D J number s).2.2) w'):cj (ah r) number s K w:=by
 have ft:s.size<=140737488351232:=hs;have wj:=ix.ou;obtain⟨j1,j2,j3,j4,j5⟩:=hJ;have hJ:J.Ok D:=⟨j1,j2,j3,j4,j5⟩;have same:∀e,tK D J number s=(D,J,e)->∀w,St W w L->K (.i e) w:=λe he w h=>by
  have:=hK w;rw[he] at this;refine this ?_;rw[nd rq,nd hk];exact h
 unfold cj;simp only[nz,ae,af];refine cT h hk rfl ?_;simp only[nz,ae,af];refine tv (λWc=>same 9 (by unfold tK;rw[ai Wc]) w h) (λWc=>?_);have ZZ: ¬J.dK=true:=by rw[Wc];exact q8
 have bad:(number<1\/1152921504606846976<number)->cj.j1 K (ah r) s number true w:=λhb=>by
  unfold cj.j1;simp only[nz,ae,af];exact same 1 (by unfold tK;rw[ag ZZ,ai hb]) w h
 refine fJ (λh1=>bad (.inl h1)) (λh1=>?_);by_cases h2:1152921504606846976<number
 ·rw[av h2];exact bad (.inr h2)
 rw[aq h2];have hnb: ¬(number<1\/1152921504606846976<number):=by omega
 unfold cj.j1;simp only[nz,ae,af];refine EV h hk hJ ix λw h=>?_;have full:(¬room J s.size\/1152921504606846976<=J.seq)->∀w,St W w L->cj.j2 K (ah r) s number true w:=λhb w h=>by
  unfold cj.j2;simp only[nz,ae,af];exact same 6 (by unfold tK;rw[ag ZZ,ag hnb,ai hb]) w h
 simp only[nz,ae,af];by_cases hr:room J s.size
 case neg=>
  rw[aq hr];simp only[nz,ae,af];exact full (.inl hr) w h
 rw[av hr];simp only[nz,ae,af];refine cT h hk rfl ?_;simp only[nz,ae,af];by_cases Ky:1152921504606846976<=J.seq
 ·have:decide (J.seq>=1152921504606846976)=true:=av Ky;rw[this];exact full (.inr Ky) w h
 have e0:decide (J.seq>=1152921504606846976)=false:=aq Ky;rw[e0];unfold tK at hK;rw[ag ZZ,ag hnb,ag (by rintro(hh|hh);exact hh hr;exact Ky hh)] at hK;unfold cj.j2;simp only[nz,ae,af];refine lX h λw h=>?_;refine cT h hk rfl ?_;simp only[nz,ae,af];refine cT h hk rfl ?_;simp only[nz,ae,af];refine cT h hk rfl ?_;simp only[nz,ae,af];refine cT h hk rfl ?_;simp only[nz,ae,af];have ew:aa.wrap (J.seq+1)=J.seq+1:=aW (by omega);rw[ew];refine MZ h (by have:=hr.2.1;omega) λw h=>?_;simp only[nz,ae,af];refine ka h hk rfl ?_;refine ka h hk rfl ?_;refine ka h hk rfl ?_;refine ka h hk rfl ?_;have A2:(bs (df (J.seq+1) s)).size=12+s.size:=by rw[bY,zx]
 have UF:=hr.2.1;refine FL (k:=k2) h rq ix (by omega) (by rw[A2];show _<=140737488351232;omega) λw h=>?_;simp only[nz,ae,af];have hcn:gj (12+s.size)<=400:=by unfold gj;split<;>omega
 have Qn:=(IA (at':=J.at') (toX:=J.hi) (number:=number) (s:=bs (df (J.seq+1) s)) ix (by rw[A2];omega)).1;have Al:(L.set k2 (gJ d (lay D J.at' J.hi number (bs (df (J.seq+1) s))).1))[k]?=some (pt r (rK d J)):=by rw[NH (λhh=>kd hh.symm)];exact hk
 refine ka h Al rfl ?_;unfold eO at hK;generalize hL:lay D J.at' J.hi number (bs (df (J.seq+1) s))=R at *;obtain⟨D1,e1⟩:=R;dsimp only at h Qn Al hK⊢;have fin:∀(R:aX×Int) w,(∀w',St W w' ((L.set k2 (gJ d (B6 J s R).1)).set k (pt r (rK d (B6 J s R).2.1)))->K (.i (B6 J s R).2.2) w')->
  St W w (L.set k2 (gJ d R.1))->cj.j3 K (ah r) s R.2 w:=λR w hK h=>by
  unfold B6 at hK;obtain⟨D2,e2⟩:=R;dsimp only at hK h⊢;have Yj:(L.set k2 (gJ d D2))[k]?=some (pt r (rK d J)):=by rw[NH (λhh=>kd hh.symm)];exact hk
  unfold cj.j3;refine uP (λhe=>?_) (λhe=>?_)
  ·rw[ai he] at hK;simp only[nz,ae,af];refine oz h Yj (aJ rfl) rfl λw h=>?_;exact hK w h
  ·rw[ag (λhh=>hh he)] at hK;refine lX h λw h=>?_;simp only[nz,ae,af];refine cT h Yj rfl ?_;simp only[nz,ae,af];have ew2:aa.wrap (12+(s.size:Int))=((12+s.size:Nat):Int):=by rw[aW (by omega)];omega
   rw[ew2];refine q6 (by omega) ?_;simp only[nz,ae,af];refine ka h Yj rfl ?_;have ew3:aa.wrap (J.at'+(gj (12+s.size):Int))=J.at'+(gj (12+s.size):Int):=aW (by omega);rw[ew3];refine oz h Yj (aJ rfl) rfl λw h=>?_;refine cT h (jM Yj) rfl ?_;simp only[nz,ae,af];rw[ew];refine oz h (jM Yj) (aJ rfl) rfl λw h=>?_;rw[jk] at h;exact hK w h
 have eqb:∀e:Int,(e==0)=decide (e=0):=λe=>by by_cases he:e=0<;>simp[he]
 by_cases he:e1=0
 ·rw[ag (λhh=>hh he: ¬e1≠0)] at hK;have:(e1==0)=true:=by rw[eqb];exact av he
  rw[this];simp only[nz,ae,af];refine cT h Al rfl ?_;simp only[nz,ae,af];refine uW (k:=k2) h (jM rq) Qn λw h=>?_;rw[jk] at h;simp only[nz,ae,af];exact fin D1.sync w hK h
 ·rw[ai he] at hK;have:(e1==0)=false:=by rw[eqb];exact aq he
  rw[this];simp only[nz,ae,af];exact fin (D1,e1) w hK h
end
end
end Go.Sep
namespace Go.Up
open Go.Sep Go.Den Go.RowKit Go.Prog Go.Md Go.cD
def nb(n:Nat):List UInt8:=(pr 16).map λi=>UInt8.ofNat (n/256^i%256)
def rH(n:Nat):(nb n).length=16:=by simp[nb]
def JC(m i:Nat)(hi:i<8):Value.int .u8 (IntKind.u8.wrap (shr .u64 (m:Int) (aa.wrap (8* (i:Int)))))=u4 (UInt8.ofNat (m/256^i%256)):=by
 rw[aW (by omega)];unfold u4 shr;rw[UInt8.toNat_ofNat_of_lt' (by show _<256;omega),F3 _ (Int.le_of_lt (Int.pow_pos (by decide)))]
 congr 1
 have e8:∀x:Int,IntKind.u8.wrap x=x%256:=λx=>by simp[IntKind.wrap,IntKind.bits,IntKind.signed]
 have e2:(8* (i:Int)).toNat=8* i:=by omega
 have e4:min (8* i) IntKind.u64.bits=8* i:=by show min (8* i) 64=_;omega
 have e3:(2:Int)^(8* i)=((256^i:Nat):Int):=by rw[Int.pow_mul];norm_cast
 rw[e8,e2,e4,e3];omega
def abM(n i:Nat)(hi:i<8):n%18446744073709551616/256^i%256=n/256^i%256:=by
 match i,hi with
 |0,_|1,_|2,_|3,_|4,_|5,_|6,_|7,_=>omega
def abN(n i:Nat)(hi:i<8):n/18446744073709551616/256^i%256=n/256^(8+i)%256:=by
 match i,hi with
 |0,_|1,_|2,_|3,_|4,_|5,_|6,_|7,_=>omega
section
variable {W:World} {L:LH} {K:VK} {X:WK}
def Cl{r o:Nat}{cs:LV}{v:Value}{f:LV->LH}[i:Lc (pt r) L cs f](ho:o<cs.length)(h1:v.oneCell'=true)(h:T W (f (cs.set o v)) X):T W L (st ⟨r,o,none⟩ v X):=λw hs=>by
 obtain⟨k,hk,e⟩:=i.at_;exact oz hs hk ho h1 λw' h'=>h w' (by rw[e];exact h')
def RN{r:Nat}{l:List UInt8}{f:LV->LH}{K:BA->WK}[i:Lc (pt r) L (l.map u4) f](h:T W L (K (bs l))):T W L (TT (ah r) l.length K):=λw hs=>
 let⟨_,hk,_⟩:=i.at_;Np hs hk rfl (h w hs)
def XT(b:OA)(c e:Nat):ym b c 0 e=b:=by
 unfold ym;split
 ·rfl
 ·cases b with
  |none=>rfl
  |some a=>simp[Addr.add]
def U6{b:OA}{n c e:Nat}{K:OA->Nat->Nat->WK}(h:T W L (K b n c)):T W L (rY b n c e none none K):=by
 unfold rY;rw[XT];exact h
def ME(n i:Nat):LV:=(pr 16).map λj=>if j<i\/8<=j/\j<8+i then u4 (UInt8.ofNat (n/256^j%256)) else .int .u8 0
def Xz{n:Nat}(h:T W L (K (.s (bs (nb n))))):T W L (wH (nm n) K):=by
 unfold wH;apply ws;intros;rename_i r1 r2;intro w hs;refine⟨λvs w=>∃i:Nat,i<=8/\vs=[.p (some (ad r1 0)),.s .empty,.p (some (ad r2 0)),.i (i:Int)]/\St W w (pt r2 (ME n i)::pt r1 (nm n)::L),
  λvs _=>match vs with|[_,_,_,.int _ j]=>8-j.toNat|_=>0,⟨0,aE _,rfl,hs⟩,?_⟩
 rintro a1 s1 a2 n1 w2 ⟨i,hi,e,hs⟩;cases e
 refine T.at ?_ hs;apply fV<;>intro h1
 ·have cf:i<8:=by omega
  have e8:aa.wrap (8* (i:Int))=8* (i:Int):=aW (by omega);have e9:aa.wrap (8+(i:Int))=((8+i:Nat):Int):=by rw[aW (by omega)];omega
  have e5:=nL i;simp only[gN,aC,e8,e9,e5,ao,lN]
  repeat' first|apply ws|apply wb|first|refine dD (by omega) ?_|refine Cl (by simp[ME];omega) rfl ?_
  rw[<-e8,JC _ _ cf,JC _ _ cf,abM _ _ cf,abN _ _ cf];have e:((ME n i).set i (u4 (UInt8.ofNat (n/256^i%256)))).set (8+i) (u4 (UInt8.ofNat (n/256^(8+i)%256)))=ME n (i+1):=by
   apply qk;intro j;rw[dc,dc];simp only[ME,iP,bP,List.length_range,eK];by_cases h1:8+i=j
   ·subst h1;rw[ai rfl,ai (by omega),qO (by omega),eW,ai (by omega)]
   ·rw[ag h1];by_cases h2:i=j
    ·subst h2;rw[ai rfl,ai (by omega),qO (by omega),eW,ai (by omega)]
    ·rw[ag h2];by_cases h3:j<16
     ·rw[qO h3,eW,eW];by_cases h4:j<i\/8<=j/\j<8+i
      ·rw[ai h4,ai (by omega)]
      ·rw[ag h4,ag (by omega)]
     ·rw[pE (by simpa using h3)];rfl
  rw[e];exact λw3 h3=>⟨⟨i+1,cf,rfl,h3⟩,by show 8-((i+1:Nat):Int).toNat<8-(i:Int).toNat;omega⟩
 ·have he:i=8:=by omega
  subst he;have e:ME n 8=(nb n).map u4:=by
   unfold ME nb;rw[oU];apply dS;intro j hj;rw[ai (by have:=List.mem_range.1 hj;omega)];rfl
  rw[e];refine U6 ?_;have:=RN (W:=W) (L:=Sep.pt r2 ((nb n).map u4)::Sep.pt r1 (nm n)::L) (r:=r2) (l:=nb n) (K:=λs2=>K (.s s2)) (by exact T.dp h);rw[rH] at this;exact this
def abE{A j:Nat}{c:UInt8}(hj:j<8)(hA:A<256^j):db .u64 .or (A:Int) (shl .u64 (IntKind.u64.wrap (c.toNat:Int)) (8* (j:Int)))=((A+c.toNat* 256^j:Nat):Int):=by
 have hc:=c.toNat_lt;have Qk:256^j=2^(8* j):=by rw[show(256:Nat)=2^8 from rfl,<-Nat.pow_mul]
 have ad0:c.toNat* 2^(8* j)+2^(8* j)<=2^64:=by
  have h1:(c.toNat+1)* 2^(8* j)<=2^8* 2^(8* j):=ie _ hc;rw[<-Nat.pow_add,lO,Nat.one_mul] at h1;exact y9 h1 (gv (by decide) (by omega))
 rw[Qk] at hA;have ew:IntKind.u64.wrap (c.toNat:Int)=(c.toNat:Int):=rX (by omega);have esh:shl .u64 (c.toNat:Int) (8* (j:Int))=((c.toNat* 2^(8* j):Nat):Int):=by
  unfold shl;have h1:(8* (j:Int)).toNat=8* j:=by omega
  have h2:min (8* j) IntKind.u64.bits=8* j:=by show min (8* j) 64=_;omega
  rw[h1,h2];have:((c.toNat:Int)* 2^(8* j))=((c.toNat* 2^(8* j):Nat):Int):=by norm_cast
  rw[this];exact rX (by omega)
 rw[ew,esh,Qk];show IntKind.u64.wrap (((BitVec.ofInt 64 (A:Int)|||BitVec.ofInt 64 ((c.toNat* 2^(8* j):Nat):Int)).toNat:Nat):Int)=_;rw[BitVec.toNat_or];have t1:(BitVec.ofInt 64 (A:Int)).toNat=A:=by simp only[BitVec.toNat_ofInt];omega
 have t2:(BitVec.ofInt 64 ((c.toNat* 2^(8* j):Nat):Int)).toNat=c.toNat* 2^(8* j):=by simp only[BitVec.toNat_ofInt];omega
 rw[t1,t2,Nat.or_comm,<-Nat.shiftLeft_eq,<-Nat.shiftLeft_add_eq_or_of_lt hA,Nat.add_comm,Nat.shiftLeft_eq];exact rX (by omega)
def H7{l:List UInt8}{i:Nat}{K:UInt8->WK}{c:UInt8}(hc:l[i]?=some c)(h:T W L (K c)):T W L (zo (bs l) (i:Int) K):=λw hs=>⟨c,⟨by omega,by rw[ao];exact hc⟩,h w hs⟩
def DS:∀(l m:List UInt8),nB (l++m)=nB l+256^l.length* nB m
 |[],m=>by simp[nB]
 |c::l,m=>by simp only[kV,nB,DS l m,bt,y8];rw[Nat.mul_add,Nat.add_assoc,vB (256^l.length) 256,Nat.mul_assoc]
def Kh(l:List UInt8):Nat:=if l.length<16 then 0 else nB (l.take 16)
def LG{l:List UInt8}(hl:l.length<1099511627776)(h:T W L (K (.tuple ⟨[.agg ⟨nm (Kh l)⟩,.b (decide (16<=l.length))]⟩))):T W L (rv (bs l) K):=by
 unfold rv Kh at *;rw[bY];apply ws;intros;rename_i r1 r2;apply fV<;>intro h1
 ·have h2:l.length<16:=by omega
  rw[ai h2,aq (by omega)] at h;apply ws;exact T.dp h
 have h2: ¬l.length<16:=by omega
 rw[ag h2,av (by omega)] at h;intro w hs;refine⟨λvs w=>∃i:Nat,i<=8/\vs=[.p (some (ad r1 0)),.b false,.p (some (ad r2 0)),.i (i:Int)]/\St W w (Sep.pt r2 [.u (nB ((l.drop 8).take i):Int),.u (nB (l.take i):Int)]::Sep.pt r1 [.u 0,.u 0]::L),
  λvs _=>match vs with|[_,_,_,.int _ j]=>8-j.toNat|_=>0,⟨0,aE _,rfl,hs⟩,?_⟩
 rintro a1 b1 a2 n1 w2 ⟨i,hi,e,hs⟩;cases e
 refine T.at ?_ hs;apply fV<;>intro h1
 ·have cf:i<8:=by omega
  have e8:aa.wrap (8* (i:Int))=8* (i:Int):=aW (by omega);have e9:aa.wrap (8+(i:Int))=((8+i:Nat):Int):=by rw[aW (by omega)];omega
  have e5:=nL i;have g1:i<l.length:=by omega
  have g2:8+i<l.length:=by omega
  have v1:=ry (l.take i);have v2:=ry ((l.drop 8).take i);rw[aD,qG (by omega)] at v1;rw[aD,aS,qG (by omega)] at v2;have c1:=aj g1;have c2:=aj g2;simp only[gN,aC,e8,e9,e5];apply ws;refine H7 c1 ?_
  repeat' first|apply ws|apply wb|first|refine dD (by omega) ?_|refine H7 c1 ?_|refine H7 c2 ?_
  rw[abE cf v1,abE cf v2];have t1:nB (l.take i)+l[i].toNat* 256^i=nB (l.take (i+1)):=by rw[qi g1,sV,aD,qG (by omega)]
  have t2:nB ((l.drop 8).take i)+l[8+i].toNat* 256^i=nB ((l.drop 8).take (i+1)):=by
   have hd:min i (l.drop 8).length=i:=by rw[aS];omega
   rw[qi (by rw[aS];omega),sV,aD,hd,List.getElem_drop]
  rw[t1,t2];exact λw3 h3=>⟨⟨i+1,cf,rfl,h3⟩,by show 8-((i+1:Nat):Int).toNat<8-(i:Int).toNat;omega⟩
 ·have he:i=8:=by omega
  subst he;have v1:=ry (l.take 8);rw[aD,qG (by omega)] at v1;have e:l.take 16=l.take 8++(l.drop 8).take 8:=by rw[<-List.take_add]
  have ev:nB (l.take 16)=nB (l.take 8)+18446744073709551616* nB ((l.drop 8).take 8):=by
   rw[e,DS,aD,qG (by omega)]
  have e3:(256:Nat)^8=18446744073709551616:=rfl;rw[Sy (nB (l.take 16)) (by omega) (by omega)];apply ws;exact T.dp h
end
class ux(b:OA)(n c:outParam Nat)(L:LH)(e:outParam Nat)(xs:outParam (LV))(f:outParam (HP->LH)):Prop where
 at_:∃k:Nat,L[k]?=some (own b n c e xs)/\∀A,f A=L.set k A
instance ux.head{b:OA}{n c e:Nat}{xs:LV}{L:LH}:ux b n c (own b n c e xs::L) e xs (λA=>A::L):=⟨0,rfl,λ_=>rfl⟩
instance ux.tail{b:OA}{n c e:Nat}{xs:LV}{L:LH}{A:HP}{f:HP->LH}[h:ux b n c L e xs f]:ux b n c (A::L) e xs (λB=>A::f B):=by
 obtain⟨k,h1,h2⟩:=h.at_;exact⟨k+1,h1,λy=>by rw[h2];rfl⟩
section
variable {W:World} {L:LH} {K:VK} {X:WK} {b:OA} {n c e:Nat} {xs ys:LV} {f:HP->LH}
def RO{s:BA}{K:OA->Nat->Nat->WK}[i:ux b n c L 1 xs f](hb:n+s.size<=140737488355328)(h:∀b' c',T W (f (own b' (n+s.size) c' 1 (xs++strCells s))) (K b' (n+s.size) c')):T W L (FB b n c s K):=λw hs=>by
 obtain⟨k,hk,e⟩:=i.at_;exact FA hs hk hb λb' c' w' h'=>h b' c' w' (by rw[e];exact h')
def RP{r bytes:Nat}{zero:LV}{g:LV->LH}{K:OA->Nat->Nat->WK}[i:ux b n c L e xs f][j:Lc (Sep.pt r) L ys g](hy:ys.length=e)(hz:zero.length=e)(hb:(n+1)* bytes<=140737488355328)(h1:∀v∈ys,v.oneCell'=true)
 (h:∀b' c',T W (f (own b' (n+1) c' e (xs++ys))) (K b' (n+1) c'))(hm:n+1<=9223372036854775807:=by omega):T W L (gY e bytes zero b n c (ah r) 1 K):=λw hs=>by
 obtain⟨k,hk,e1⟩:=i.at_;obtain⟨k2,rq,_⟩:=j.at_;refine uv hs hk (ys:=ys) (FH (o:=0) hs rq (by omega) λj v hv=>by rw[aC];exact hv) (λhh=>by cases hh) hz hb hm h1 λb' c' w' h'=>h b' c' w' (by rw[e1];exact h')
def dM{i:Int}{K:Addr->WK}[l:ux b n c L e xs f](hi:0<=i/\i<n)(h:∀r,b=ah r->T W L (K ⟨r,i.toNat* e,none⟩)):T W L (iX b n i e K):=λw hs=>by
 obtain⟨k,hk,_⟩:=l.at_;exact rL hs hk hi λr hr=>h r hr w hs
def rd(r:Nat)(x:List UInt8×Bool):HP:=C0 r (bs x.1) x.2
variable {r:Nat} {x:List UInt8×Bool} {g:List UInt8×Bool->LH}
def Jc[i:Lc (rd r) L x g](hl:x.1.length<1099511627776)(m:Nat)(hm:1<=m/\m<=8)(h:T W (g (fG m x)) (K (.i (kL m x)))):T W L (aN (ah r) (m:Int) K):=λw hs=>by
 obtain⟨k,hk,e⟩:=i.at_;exact y5 hs hk hl hm λw' h'=>h w' (by rw[e];exact h')
def vy[i:Lc (rd r) L x g](hl:x.1.length<1099511627776)(h:T W (g (fG 1 x)) (K (.i (kL 1 x)))):T W L (aN (ah r) 1 K):=Jc hl 1 (by decide) h
def DE[i:Lc (rd r) L x g](hl:x.1.length<1099511627776)(h:T W (g (fG 2 x)) (K (.i (kL 2 x)))):T W L (aN (ah r) 2 K):=Jc hl 2 (by decide) h
def Ph[i:Lc (rd r) L x g](hl:x.1.length<1099511627776)(h:T W (g (fG 4 x)) (K (.i (kL 4 x)))):T W L (aN (ah r) 4 K):=Jc hl 4 (by decide) h
def xw[i:Lc (rd r) L x g](hl:x.1.length<1099511627776)(h:T W (g (fG 8 x)) (K (.i (kL 8 x)))):T W L (aN (ah r) 8 K):=Jc hl 8 (by decide) h
def zm(x:List UInt8×Bool):Nat:=if x.2=true then 0 else Kh x.1
def u9(m:Nat)(x:List UInt8×Bool):(fG m x).1.length<=x.1.length:=by
 unfold fG;split
 ·exact aG _
 ·simp
def rvw(m:Nat)(x:List UInt8×Bool):List UInt8:=if x.2=true\/x.1.length<m then[] else x.1.take m
def aaX[i:Lc (rd r) L x g](m:Nat)(h:T W (g (fG m x)) (K (.s (bs (rvw m x))))):T W L (fa (ah r) (m:Int) K):=λw hs=>by
 obtain⟨k,hk,e⟩:=i.at_;refine FK hs (show L[k]?=some (C0 r (bs x.1) x.2) from hk) λw' h'=>?_;obtain⟨l,t⟩:=x;unfold fG rvw at h;dsimp only at h h'⊢;by_cases hc:t=true\/l.length<m
 ·rw[ai hc,ai hc] at h;have et:rZ (bs l) t m=true:=by
   unfold rZ;rcases hc with h1|h1
   ·rw[h1];rfl
   ·rw[bY,av (by omega)];simp
  unfold C1 yr at *;rw[et] at h'⊢;exact h w' (by rw[e];exact h')
 ·rw[ag hc,ag hc] at h;have ht:t=false:=by cases t<;>simp_all
  have et:rZ (bs l) t m=false:=by
   unfold rZ;rw[ht,bY,aq (by omega)];rfl
  unfold C1 yr at *;rw[et,ao,oE] at h';rw[et,ao,oF];exact h w' (by rw[e];exact h')
def VM(x:List UInt8×Bool):Kh (rvw 16 x)=zm x:=by
 unfold zm rvw Kh;obtain⟨l,t⟩:=x;cases t with
 |true=>rfl
 |false=>
  dsimp only;by_cases h2:l.length<16
  ·have e:(if false=true\/l.length<16 then([]:List UInt8) else l.take 16)=[]:=ai (Or.inr h2);rw[e];simp[h2]
  ·have e:(if false=true\/l.length<16 then([]:List UInt8) else l.take 16)=l.take 16:=ag (by simp;omega);rw[e,xz,aD,ag (by omega),ag (by decide),ag h2];rfl
def Jb[i:Lc (rd r) L x g](hl:x.1.length<1099511627776)(h:T W (g (fG 16 x)) (K (.agg ⟨nm (zm x)⟩))):T W L (cS (ah r) K):=by
 unfold cS;apply ws;intros;refine aaX 16 ?_;have hr:(rvw 16 x).length<1099511627776:=by unfold rvw;split<;>simp;omega
 repeat' first|apply ws;intros|apply wb|refine LG hr ?_
 rw[VM];exact T.dp h
def y4[i:Lc (rd r) L x g](h:T W L (K (.b x.2))):T W L (cW (ah r) K):=λw hs=>by
 obtain⟨k,hk,e⟩:=i.at_;exact EU hs (show L[k]?=some (C0 r (bs x.1) x.2) from hk) (h w hs)
def Ud[i:Lc (rd r) L x g](h:T W L (K (.b (!x.2&&decide (x.1=[]))))):T W L (lA (ah r) K):=λw hs=>by
 obtain⟨k,hk,e⟩:=i.at_;exact LJ hs (show L[k]?=some (C0 r (bs x.1) x.2) from hk) (h w hs)
def RD{α:Type}{P:α->HP}{a:α}{f:α->LH}[i:Lc P L a f](h:∀R,(∀y Y,T W (f y) Y->T W (P y::R) Y)->T W (P a::R) X):T W L X:=λw hs=>by
 obtain⟨k,hk,e⟩:=i.at_;refine h (L.eraseIdx k) (λy Y hy w' h'=>hy w' ?_) w (hs.focus hk);rw[e];exact St.rA h' hk
def Xq[i:Lc (rd r) L x g](h:T W L (K (.i (if x.2=true then 0 else(x.1.length:Int))))):T W L (pY (ah r) K):=by
 unfold pY;simp only[Di,gN,aC,Option.isNone_some,dY];intro w hs;obtain⟨k,hk,e⟩:=i.at_;refine cT hs (show L[k]?=some (Sep.pt r [.s (bs x.1),.b x.2]) from hk) rfl ?_;rw[Rk];cases hx:x.2 with
 |true=>rw[kG];rw[hx,ai rfl] at h;exact h w hs
 |false=>
  rw[dY];refine cT hs (show L[k]?=some (Sep.pt r [.s (bs x.1),.b x.2]) from hk) rfl ?_;rw[Rj];rw[hx,ag (by decide)] at h;exact h w hs
variable {p:Nat} {l:List UInt8} {q:List UInt8->LH}
def I7[i:Lc (buf p) L l q](hl:l.length<1099511627776)(m:Nat)(hm:1<=m/\m<=8){n:Int}(h:T W (q (l++le .i64 m n)) (K (.tuple ⟨[]⟩))):T W L (bl (ah p) (m:Int) n K):=λw hs=>by
 obtain⟨k,hk,e⟩:=i.at_;refine jZ hs hk hl λw' h'=>h w' ?_;have em:min2 (max2 (m:Int) 1) 8=((m:Nat):Int):=by unfold min2 max2;split<;>split<;>omega
 rw[em,ao] at h';rw[e];exact h'
def rS[i:Lc (buf p) L l q](hl:l.length<1099511627776){n:Int}(h:T W (q (l++le .i64 1 n)) (K (.tuple ⟨[]⟩))):T W L (bl (ah p) 1 n K):=I7 hl 1 (by decide) h
def DD[i:Lc (buf p) L l q](hl:l.length<1099511627776){n:Int}(h:T W (q (l++le .i64 2 n)) (K (.tuple ⟨[]⟩))):T W L (bl (ah p) 2 n K):=I7 hl 2 (by decide) h
def Pc[i:Lc (buf p) L l q](hl:l.length<1099511627776){n:Int}(h:T W (q (l++le .i64 4 n)) (K (.tuple ⟨[]⟩))):T W L (bl (ah p) 4 n K):=I7 hl 4 (by decide) h
def y3[i:Lc (buf p) L l q](hl:l.length<1099511627776){n:Int}(h:T W (q (l++le .i64 8 n)) (K (.tuple ⟨[]⟩))):T W L (bl (ah p) 8 n K):=I7 hl 8 (by decide) h
def sF[i:Lc (buf p) L l q](h:T W L (K (.s (bs l)))):T W L (dz (ah p) K):=λw hs=>by
 obtain⟨k,hk,e⟩:=i.at_;exact mF hs hk (h w hs)
def abt[i:Lc (buf p) L l q](h:∀b c R,(∀l' b n c Y,n=l'.length->T W (q l') Y->T W (Sep.pt p [.l b n c]::own b n c 1 (l'.map u4)::R) Y)->T W (Sep.pt p [.l b l.length c]::own b l.length c 1 (l.map u4)::R) X):T W L X:=
 RD (P:=buf p) λR hc w hs=>by
  obtain⟨⟨b,c⟩,hs⟩:=hs.ex;exact h b c R (λl' b n c Y hn hy w h'=>hc l' Y hy w (by subst hn;exact St.qB (b,c) (St.join h'))) w hs.split
def I6[i:Lc (buf p) L l q](hl:l.length<1099511627776){n:Nat}(h:T W (q (l++nb n)) (K (.tuple ⟨[]⟩))):T W L (lz (ah p) (nm n) K):=by
 unfold lz;refine abt (p:=p) λb c R hc=>?_;simp only[Di]
 repeat' first|apply ws;intros|apply wb|first|refine Xz ?_|refine RO (by rw[bY,rH];omega) λ_ _=>?_
 have e:l.map u4++strCells (bs (nb n))=(l++nb n).map u4:=by rw[cR];rfl
 rw[e];exact T.drop (hc _ _ _ _ _ (by rw[au,bY]) h)
def Xo[i:Lc (buf p) L l q](hl:l.length<1099511627776){b:Bool}(h:T W (q (l++[if b then 1 else 0])) (K (.tuple ⟨[]⟩))):T W L (pX (ah p) b K):=by
 unfold pX;cases b with
 |true=>rw[kG];refine rS hl (Bt ?_);exact h
 |false=>rw[dY];refine rS hl (Bt ?_);exact h
end
end Go.Up
namespace Go.Up
open Go.Sep Go.Den Go.Md
def GM{p:Int->Prop}(n:Nat)(h:∀f:Fin n,p (f.val:Int)){f:Int}(h0:0<=f)(h1:f<n):p f:=by
 have:=h ⟨f.toNat,by omega⟩;simp only[Int.toNat_of_nonneg h0] at this;exact this
section
variable {f:Int}
def Lp(h0:0<=f)(h1:f<256):db .i64 .and f 2=0↔ ¬(has f 2):=GM (p:=λf=>db .i64 .and f 2=0↔ ¬(has f 2)) 256 (by decide+kernel) h0 h1
def Lo(h0:0<=f)(h1:f<256):db .i64 .and f 4=0↔ ¬(has f 4):=GM (p:=λf=>db .i64 .and f 4=0↔ ¬(has f 4)) 256 (by decide+kernel) h0 h1
def TQ(h0:0<=f)(h1:f<256):db .i64 .and f 8=0↔ ¬(has f 8):=GM (p:=λf=>db .i64 .and f 8=0↔ ¬(has f 8)) 256 (by decide+kernel) h0 h1
def aaO(h0:0<=f)(h1:f<256):db .i64 .and f 16=0↔ ¬(has f 16):=GM (p:=λf=>db .i64 .and f 16=0↔ ¬(has f 16)) 256 (by decide+kernel) h0 h1
def aaN(h0:0<=f)(h1:f<256):db .i64 .and f 32=0↔ ¬(has f 32):=GM (p:=λf=>db .i64 .and f 32=0↔ ¬(has f 32)) 256 (by decide+kernel) h0 h1
def TR(h0:0<=f)(h1:f<256):db .i64 .and f 64=0↔ ¬(has f 64):=GM (p:=λf=>db .i64 .and f 64=0↔ ¬(has f 64)) 256 (by decide+kernel) h0 h1
def O9(h0:0<=f)(h1:f<256):db .i64 .and f 128=0↔ ¬(has f 128):=GM (p:=λf=>db .i64 .and f 128=0↔ ¬(has f 128)) 256 (by decide+kernel) h0 h1
def YB(h0:0<=f)(h1:f<256):db .i64 .and f 12=0↔ ¬(jA f):=GM (p:=λf=>db .i64 .and f 12=0↔ ¬(jA f)) 256 (by decide+kernel) h0 h1
def adC(h0:0<=f)(h1:f<256):db .i64 .and f 48=0↔ ¬(has f 16\/has f 32):=GM (p:=λf=>db .i64 .and f 48=0↔ ¬(has f 16\/has f 32)) 256 (by decide+kernel) h0 h1
def adD(h0:0<=f)(h1:f<256):db .i64 .and f 6=6↔(has f 2/\has f 4):=GM (p:=λf=>db .i64 .and f 6=6↔(has f 2/\has f 4)) 256 (by decide+kernel) h0 h1
def agN(h0:0<=f)(h1:f<256):db .i64 .and f 240=0↔ ¬(16<=f):=GM (p:=λf=>db .i64 .and f 240=0↔ ¬(16<=f)) 256 (by decide+kernel) h0 h1
def agO(h0:0<=f)(h1:f<256):db .i64 .and f 192=0↔(f<64):=GM (p:=λf=>db .i64 .and f 192=0↔(f<64)) 256 (by decide+kernel) h0 h1
def YA(h0:0<=f)(h1:f<256):db .i64 .andNot f 1=f/2* 2:=GM (p:=λf=>db .i64 .andNot f 1=f/2* 2) 256 (by decide+kernel) h0 h1
def Yz(h0:0<=f)(h1:f<16):db .i64 .andNot f 8=f%8:=GM (p:=λf=>db .i64 .andNot f 8=f%8) 16 (by decide+kernel) h0 h1
def adA(h0:0<=f)(h1:f<16):db .i64 .or f 8=f%8+8:=GM (p:=λf=>db .i64 .or f 8=f%8+8) 16 (by decide+kernel) h0 h1
def YC(h0:0<=f)(h1:f<256):db .i64 .and f 6=f/2%4* 2:=GM (p:=λf=>db .i64 .and f 6=f/2%4* 2) 256 (by decide+kernel) h0 h1
def uU(n:Int):Prop:= -9223372036854775808<=n/\n<=9223372036854775807
def aaM(h:uU f):(db .i64 .andNot f 7!=0)=decide (f<0\/7<f):=by
 have key:∀x:BitVec 64,(x&&&~~~(BitVec.ofInt 64 7))=0#64↔x.toNat<8:=λx=>by
  constructor
  ·intro hx;refine Nat.lt_pow_two_of_testBit (n:=3) _ λi hi=>?_;have:=congrArg (λy=>y.getLsbD i) hx;by_cases ad':i<64
   ·simp only[BitVec.getLsbD_and,BitVec.getLsbD_not,BitVec.getLsbD_zero,ad',decide_true,dV] at this;have h7:(BitVec.ofInt 64 7).getLsbD i=false:=by
     have:(BitVec.ofInt 64 7).toNat=7:=rfl;show Nat.testBit (BitVec.ofInt 64 7).toNat i=false;rw[this];exact Nat.testBit_lt_two_pow (Nat.lt_of_lt_of_le (by decide:7<2^3) (gv (by decide) hi))
    rw[h7] at this;simpa [BitVec.getLsbD] using this
   ·exact Nat.testBit_lt_two_pow (Nat.lt_of_lt_of_le x.isLt (gv (by decide) (by omega)))
  ·intro hx;have ZT:x=BitVec.ofNat 64 x.toNat:=by simp
   rw[ZT];generalize x.toNat=m at hx
   match m,hx with
   |0,_|1,_|2,_|3,_|4,_|5,_|6,_|7,_=>rfl
 unfold uU at h;unfold db;dsimp only;show(aa.wrap (((BitVec.ofInt 64 f&&&~~~(BitVec.ofInt 64 7)).toNat:Nat):Int)!=0)=_;have hw:∀y:BitVec 64,(aa.wrap ((y.toNat:Nat):Int)!=0)=decide (y≠0#64):=λy=>by
  have hy:=y.isLt;have:aa.wrap ((y.toNat:Nat):Int)=0↔y=0#64:=by
   constructor
   ·intro h0;apply BitVec.eq_of_toNat_eq;simp[IntKind.wrap,IntKind.bits,IntKind.signed] at h0;simp;split at h0<;>omega
   ·intro h0;subst h0;rfl
  by_cases h0:y=0#64
  ·rw[aq (by simpa using h0)];simp[this.2 h0]
  ·rw[av h0];have: ¬aa.wrap ((y.toNat:Nat):Int)=0:=λhh=>h0 (this.1 hh);simpa using this
 rw[hw,decide_eq_decide,ne_eq,key];simp only[BitVec.toNat_ofInt];omega
def adB(h:uU f):db .i64 .andNot f 7=0↔ ¬(f<0\/7<f):=by
 have:=aaM h;by_cases h1:f<0\/7<f
 ·rw[av h1] at this;simpa [h1] using this
 ·rw[aq h1] at this;simpa [h1] using this
end
end Go.Up
namespace Go.Up
open Go.Sep Go.Den Go.RowKit Go.Prog Go.Md
abbrev cE:=Go.Md.cE
abbrev bC:=Go.Md.bC
abbrev bW:=Go.Md.bW
def aK(a:bC):LV:=nm a.id++(nm a.dp++(nm a.dq++(nm a.cp++(nm a.cq++[.i a.aZ,.i a.code,.i a.ak,.i a.ay]))))
def aL(t:cE):LV:=nm t.id++(nm t.bp++(nm t.aP++(nm t.aU++(nm t.pending++[.i t.cu,.i t.aZ,.i t.code,.i t.ak,.i t.ay,.i t.jj]))))
def bG(k:bW):LV:=aL k.asked++(aL k.move++[.i k.fate])
def zb{cs:LV}{o n:Nat}(h0:cs[o+0]?=(nm n)[0]?)(h1:cs[o+1]?=(nm n)[1]?):(nm n).length=2/\∀j v,(nm n)[j]?=some v->cs[o+j]?=some v:=⟨rfl,λj v h=>by
 match j with
 |0=>rw[h0];exact h
 |1=>rw[h1];exact h
 |j+2=>simp[nm] at h⟩
section
variable {a b:bC} {t u:cE} {k:bW} {n:Nat} {i:Int}
instance:Sub (aK a) 0 2 (nm a.id):=⟨zb rfl rfl⟩
instance:Sub (aK a) 2 2 (nm a.dp):=⟨zb rfl rfl⟩
instance:Sub (aK a) 4 2 (nm a.dq):=⟨zb rfl rfl⟩
instance:Sub (aK a) 6 2 (nm a.cp):=⟨zb rfl rfl⟩
instance:Sub (aK a) 8 2 (nm a.cq):=⟨zb rfl rfl⟩
instance:Sub (aK a) 0 14 (aK a):=⟨rfl,λj v h=>by rw[aC];exact h⟩
instance:Sub (aL t) 0 2 (nm t.id):=⟨zb rfl rfl⟩
instance:Sub (aL t) 2 2 (nm t.bp):=⟨zb rfl rfl⟩
instance:Sub (aL t) 4 2 (nm t.aP):=⟨zb rfl rfl⟩
instance:Sub (aL t) 6 2 (nm t.aU):=⟨zb rfl rfl⟩
instance:Sub (aL t) 8 2 (nm t.pending):=⟨zb rfl rfl⟩
instance:Sub (aL t) 0 16 (aL t):=⟨rfl,λj v h=>by rw[aC];exact h⟩
instance:Sub (bG k) 0 33 (bG k):=⟨rfl,λj v h=>by rw[aC];exact h⟩
instance:Sub (bG k) 0 16 (aL k.asked):=⟨rfl,λj v h=>by rw[aC];unfold bG;rw[dB (aw.1 h).1];exact h⟩
instance:Sub (bG k) 16 16 (aL k.move):=⟨rfl,λj v h=>by
 have hl:(aL k.asked).length=16:=rfl
 unfold bG
 rw[iz (by omega),hl,show 16+j-16=j by omega,dB (aw.1 h).1];exact h⟩
def oL{xs ys:LV}(h1:∀v∈xs,v.oneCell'=true)(h2:∀v∈ys,v.oneCell'=true):∀v∈xs++ys,v.oneCell'=true:=λv h=>(dF.1 h).elim (h1 v) (h2 v)
def iv(a:bC):∀v∈aK a,v.oneCell'=true:=oL (l6 _) (oL (l6 _) (oL (l6 _) (oL (l6 _) (oL (l6 _) λv h=>by simp at h;rcases h with rfl|rfl|rfl|rfl<;>rfl))))
def o0(t:cE):∀v∈aL t,v.oneCell'=true:=oL (l6 _) (oL (l6 _) (oL (l6 _) (oL (l6 _) (oL (l6 _) λv h=>by simp at h;rcases h with rfl|rfl|rfl|rfl|rfl|rfl<;>rfl))))
def mC(k:bW):∀v∈bG k,v.oneCell'=true:=oL (o0 _) (oL (o0 _) λv h=>by simp at h;subst h;rfl)
instance:Wr (aK a) 2 (nm n) (aK {a with dp:=n}):=⟨rfl,by show 4<=14;decide,l6 n⟩
instance:Wr (aK a) 4 (nm n) (aK {a with dq:=n}):=⟨rfl,by show 6<=14;decide,l6 n⟩
instance:Wr (aK a) 6 (nm n) (aK {a with cp:=n}):=⟨rfl,by show 8<=14;decide,l6 n⟩
instance:Wr (aK a) 8 (nm n) (aK {a with cq:=n}):=⟨rfl,by show 10<=14;decide,l6 n⟩
instance:Wr (aK a) 12 [.i i] (aK {a with ak:=i}):=⟨rfl,by show 13<=14;decide,λv h=>by simp at h;subst h;rfl⟩
instance:Wr (aK a) 13 [.i i] (aK {a with ay:=i}):=⟨rfl,by show 14<=14;decide,λv h=>by simp at h;subst h;rfl⟩
instance:Wr (aK a) 0 (aK b) (aK b):=⟨rfl,aG _,iv b⟩
instance{x1 x2 x3 x4 x5 x6 x7 x8 x9 DO DN DM DL HT:Value}:Wr [x1,x2,x3,x4,x5,x6,x7,x8,x9,DO,DN,DM,DL,HT] 0 (aK b) (aK b):=⟨rfl,aG _,iv b⟩
instance:Wr (aL t) 6 (nm n) (aL {t with aU:=n}):=⟨rfl,by show 8<=16;decide,l6 n⟩
instance:Wr (aL t) 11 [.i i] (aL {t with aZ:=i}):=⟨rfl,by show 12<=16;decide,λv h=>by simp at h;subst h;rfl⟩
instance:Wr (aL t) 12 [.i i] (aL {t with code:=i}):=⟨rfl,by show 13<=16;decide,λv h=>by simp at h;subst h;rfl⟩
instance:Wr (aL t) 13 [.i i] (aL {t with ak:=i}):=⟨rfl,by show 14<=16;decide,λv h=>by simp at h;subst h;rfl⟩
instance:Wr (aL t) 14 [.i i] (aL {t with ay:=i}):=⟨rfl,by show 15<=16;decide,λv h=>by simp at h;subst h;rfl⟩
instance:Wr (aL t) 15 [.i i] (aL {t with jj:=i}):=⟨rfl,by show 16<=16;decide,λv h=>by simp at h;subst h;rfl⟩
instance{x1 x2 x3 x4 x5 x6 x7 x8 x9 DO DN DM DL HT L5 L4:Value}:Wr [x1,x2,x3,x4,x5,x6,x7,x8,x9,DO,DN,DM,DL,HT,L5,L4] 0 (aL u) (aL u):=⟨rfl,aG _,o0 u⟩
end
section
variable {x1 x2 x3 x4 x5 x6 x7 x8 x9 DO DN DM DL HT L5 L4:Value} {i d e c p:Nat} {l o f s b m:Int}
instance:Wr [x1,x2,x3,x4,x5,x6,x7,x8,x9,DO,DN,DM,DL,HT] 0 (nm i++(nm d++(nm e++(nm c++(nm p++[.i l,.i o,.i f,.i s]))))) (aK ⟨i,d,e,c,p,l,o,f,s⟩):=⟨rfl,aG _,iv ⟨i,d,e,c,p,l,o,f,s⟩⟩
instance:Wr [x1,x2,x3,x4,x5,x6,x7,x8,x9,DO,DN,DM,DL,HT,L5,L4] 0 (nm i++(nm d++(nm e++(nm c++(nm p++[.i l,.i o,.i f,.i s,.i b,.i m]))))) (aL ⟨i,d,e,c,p,l,o,f,s,b,m⟩):=⟨rfl,aG _,o0 ⟨i,d,e,c,p,l,o,f,s,b,m⟩⟩
end
def zA:bC:=⟨0,0,0,0,0,0,0,0,0⟩
def zT:cE:=⟨0,0,0,0,0,0,0,0,0,0,0⟩
section
variable {x1 x2 x3 x4 x5 x6 x7 x8 x9 DO DN DM DL HT L5 L4:Value} {a:bC} {t:cE}
instance:Wr [x1,x2,x3,x4,x5,x6,x7,x8,x9,DO,DN,DM,DL,HT] 0 [.u 0,.u 0,.u 0,.u 0,.u 0,.u 0,.u 0,.u 0,.u 0,.u 0,.i 0,.i 0,.i 0,.i 0] (aK zA):=⟨rfl,aG _,iv zA⟩
instance:Wr [x1,x2,x3,x4,x5,x6,x7,x8,x9,DO,DN,DM,DL,HT,L5,L4] 0 [.u 0,.u 0,.u 0,.u 0,.u 0,.u 0,.u 0,.u 0,.u 0,.u 0,.i 0,.i 0,.i 0,.i 0,.i 0,.i 0] (aL zT):=⟨rfl,aG _,o0 zT⟩
end
def abl{W:World}{L:LH}{X:WK}{r o:Nat}{a:bC}{cs:LV}{f:LV->LH}[i:Lc (Sep.pt r) L cs f][s:Sub cs o 14 (aK a)](h:T W L X):T W L (kp ⟨r,o,none⟩ (aK a) X):=RI (n:=14) h
def abj{W:World}{L:LH}{X:WK}{r o:Nat}{a:cE}{cs:LV}{f:LV->LH}[i:Lc (Sep.pt r) L cs f][s:Sub cs o 16 (aL a)](h:T W L X):T W L (kp ⟨r,o,none⟩ (aL a) X):=RI (n:=16) h
section
variable {L:LH} {X:WK} {r o:Nat} {a:bC} {b:cE} {k:bW} {cs:LV} {f:LV->LH}
instance[i:Lc (Sep.pt r) L cs f][s:Sub cs o 14 (aK a)]:Wk L (kp ⟨r,o,none⟩ (aK a) X) L X:=⟨λ_ h=>abl h⟩
instance[i:Lc (Sep.pt r) L cs f][s:Sub cs o 16 (aL b)]:Wk L (kp ⟨r,o,none⟩ (aL b) X) L X:=⟨λ_ h=>abj h⟩
instance:Ln (aK a) 14:=⟨rfl⟩
instance:Ln (aL b) 16:=⟨rfl⟩
instance:Ln (bG k) 33:=⟨rfl⟩
instance:Gt (aK a) 10 (.i a.aZ):=⟨rfl⟩
instance:Gt (aK a) 11 (.i a.code):=⟨rfl⟩
instance:Gt (aK a) 12 (.i a.ak):=⟨rfl⟩
instance:Gt (aK a) 13 (.i a.ay):=⟨rfl⟩
instance:Gt (aL b) 10 (.i b.cu):=⟨rfl⟩
instance:Gt (aL b) 11 (.i b.aZ):=⟨rfl⟩
instance:Gt (aL b) 12 (.i b.code):=⟨rfl⟩
instance:Gt (aL b) 13 (.i b.ak):=⟨rfl⟩
instance:Gt (aL b) 14 (.i b.ay):=⟨rfl⟩
instance:Gt (aL b) 15 (.i b.jj):=⟨rfl⟩
instance:Gt (bG k) 26 (.i k.move.cu):=⟨rfl⟩
instance:Gt (bG k) 30 (.i k.move.ay):=⟨rfl⟩
instance:Gt (bG k) 31 (.i k.move.jj):=⟨rfl⟩
instance:Gt (bG k) 32 (.i k.fate):=⟨rfl⟩
end
structure qF(W:World):Prop where
 VV:∀j v,(nm (bB-1))[j]?=some v->W.cell? ((ad N.tr 0).add j)=some v
 told:∀j v,([.i 0,.i 0,.i 27,.i 28,.i 29]:LV)[j]?=some v->W.cell? ((ad N.yC 0).add j)=some v
structure wD(a:bC):Prop where
 id:a.id<bB
 dp:a.dp<bB
 dq:a.dq<bB
 cp:a.cp<bB
 cq:a.cq<bB
 aZ:uU a.aZ
 code:uU a.code
 ak:uU a.ak
 ay:uU a.ay
structure yJ(t:cE):Prop where
 id:t.id<bB
 bp:t.bp<bB
 aP:t.aP<bB
 aU:t.aU<bB
 pending:t.pending<bB
 cu:uU t.cu
 aZ:uU t.aZ
 code:uU t.code
 ak:uU t.ak
 ay:uU t.ay
 jj:uU t.jj
section
variable {W:World} {L:LH} {K:VK} {a b:bC} {t u:cE}
def WI(h:T W L (K (.b (decide (a.dp=0/\a.dq=0/\a.cp=0/\a.cq=0/\a.ay=0))))):T W L (lH (aK a) K):=by
 unfold lH lH.j1 lH.j2
 repeat' first|apply ws;intros|apply wb|first|refine uT ?_|apply dh<;>intro h1
 all_goals (refine T.fin (T.dp h) ?_;congr 1;first|rfl|(simp only[decide_eq_true_eq,decide_eq_false_iff_not,cB] at * <;>simp[*]<;>rfl))
def T2(G:qF W)(ha:wD a)(h:T W L (K (.i (tI a)))):T W L (pQ (aK a) K):=by
 unfold pQ pQ.j1;have hf:=ha.ak
 repeat' first|apply ws;intros|apply wb|first|refine uT ?_|refine WI ?_|refine NS ⟨yu _,G.VV⟩ ?_|apply dh<;>intro h1
 all_goals try simp only[adB hf,bz] at *
 all_goals (refine T.fin (T.dp h) ?_;congr 1)
 ·rw[tI,ai h1]
 all_goals
  all_goals try simp only[adD (show 0<=a.ak by omega) (show a.ak<256 by omega),bz] at *
  unfold tI has at *
  repeat' split
  all_goals first|rfl|omega
end
def mG(a:bC):Prop:=(0<=a.aZ/\a.aZ<=4294967295)/\(0<=a.code/\a.code<=65535)/\0<=a.ak/\a.ak<=65535
instance(a:bC):Decidable (mG a):=by unfold mG;infer_instance
def j0(t:cE):Prop:=(0<=t.cu/\t.cu<=4294967295)/\(0<=t.aZ/\t.aZ<=4294967295)/\(0<=t.code/\t.code<=65535)/\0<=t.ak/\t.ak<=65535
instance(t:cE):Decidable (j0 t):=by unfold j0;infer_instance
def jl(a:bC):List UInt8:=[a.id,a.dp,a.dq,a.cp,a.cq].flatMap nb++le .i64 4 a.aZ++le .i64 2 a.code++le .i64 2 a.ak++le .i64 8 a.ay
def oA(t:cE):List UInt8:=[t.id,t.bp,t.aP,t.aU,t.pending].flatMap nb++le .i64 4 t.cu++le .i64 4 t.aZ++le .i64 2 t.code++le .i64 2 t.ak++le .i64 8 t.ay++le .i64 8 t.jj
def wU:∀l:List Nat,(l.flatMap nb).length=16* l.length
 |[]=>rfl
 |x::l=>by rw[iB,au,rH,wU l,bt];omega
def oq(a:bC):(jl a).length=96:=by simp only[jl,au,wU,aO];rfl
def pg(t:cE):(oA t).length=108:=by simp only[oA,au,wU,aO];rfl
section
variable {W:World} {L:LH} {K:VK} {a b:bC} {t u:cE} {p:Nat} {l:List UInt8} {q:List UInt8->LH}
def I5(h:T W L (K (.b (decide (mG a))))):T W L (ja (aK a) K):=by
 unfold ja ja.j1 ja.j2 ja.j3
 repeat' first|apply ws;intros|apply wb|apply dh<;>intro h1
 all_goals (refine T.fin (T.dp h) ?_;congr 1;(rw[bV];(try simp only[bz,false_iff,true_iff] at *)<;>(try simp only[mG,bh] at *)<;>omega))
def H'(h:T W L (K (.b (decide (j0 t))))):T W L (fN (aL t) K):=by
 unfold fN fN.j1 fN.j2 fN.j3 fN.j4 fN.j5
 repeat' first|apply ws;intros|apply wb|apply dh<;>intro h1
 all_goals (refine T.fin (T.dp h) ?_;congr 1;(rw[bV];(try simp only[bz,false_iff,true_iff] at *)<;>(try simp only[j0,bh] at *)<;>omega))
def acy(x:List Nat)(i:Nat)(y:Nat)(h:x[i]?=some y):((x.flatMap nm).drop (i* 2)).take 2=nm y:=by
 apply qk;intro j;rw[rV];split
 ·rename_i hj;rw[rW];cases hv:(nm y)[j]? with
  |none=>have:=List.getElem?_eq_none_iff.1 hv;rw[yu] at this;omega
  |some v=>exact qz yu x i y h j v hv
 ·exact(pE (by rw[yu];omega)).symm
def T0[i:Lc (buf p) L l q](hg:mG a)(hl:l.length<549755813888)(h:T W (q (l++jl a)) (K (.tuple ⟨[]⟩))):T W L (rR (ah p) (aK a) K):=by
 unfold rR rR.j1
 repeat' first|apply ws;intros|apply wb|refine I5 ?_
 rw[av hg,Bool.not_true,dY];apply ws;rename_i r;intro w hs;refine⟨λvs w=>∃i:Nat,i<=5/\vs=[.p (some (ad r 0)),.agg ⟨[a.id,a.dp,a.dq,a.cp,a.cq].flatMap nm⟩,.i (i:Int)]/\St W w (Sep.pt r (aK a)::q (l++([a.id,a.dp,a.dq,a.cp,a.cq].take i).flatMap nb)),
  λvs _=>match vs with|[_,_,.int _ j]=>5-j.toNat|_=>0,⟨0,aE _,rfl,by rw[nG,List.flatMap_nil,bI,i.same];exact hs⟩,?_⟩
 rintro a1 QG n1 w2 ⟨j,hj,e,hs⟩;cases e
 refine T.at ?_ hs;have hq:=i.next;have hlen:(l++([a.id,a.dp,a.dq,a.cp,a.cq].take j).flatMap nb).length<1099511627776:=by rw[au,wU,aD];simp;omega
 apply fV<;>intro h1
 ·have cf:j<5:=by omega
  have hx:[a.id,a.dp,a.dq,a.cp,a.cq][j]?=some ([a.id,a.dp,a.dq,a.cp,a.cq][j]'(by simpa using cf)):=aj _;have e5:=nL j;have et:([a.id,a.dp,a.dq,a.cp,a.cq].take j).flatMap nb++nb ([a.id,a.dp,a.dq,a.cp,a.cq][j]'(by simpa using cf))=([a.id,a.dp,a.dq,a.cp,a.cq].take (j+1)).flatMap nb:=by
   rw[qi (by simpa using cf),fQ];simp
  rw[ao,acy _ _ _ hx,e5]
  repeat' first|apply ws;intros|apply wb|first|refine dD (by omega) ?_|refine I6 hlen ?_
  rw[aH,et];refine T.drop λw3 h3=>⟨⟨j+1,cf,rfl,?_⟩,by show 5-((j+1:Nat):Int).toNat<5-(j:Int).toNat;omega⟩;exact h3
 ·have he:j=5:=by omega
  subst he;simp only[gN,aC];have e1:∀m:List UInt8,(l++m).length=l.length+m.length:=λm=>au;have e2:(([a.id,a.dp,a.dq,a.cp,a.cq].take 5).flatMap nb).length=80:=by rw[wU];rfl
  repeat' first|apply ws|apply wb|first|refine Pc (by simp only[au,aO,e2];omega) ?_|refine DD (by simp only[au,aO,e2];omega) ?_|refine y3 (by simp only[au,aO,e2];omega) ?_
  have e3:l++jl a=l++([a.id,a.dp,a.dq,a.cp,a.cq].take 5).flatMap nb++le .i64 4 a.aZ++le .i64 2 a.code++le .i64 2 a.ak++le .i64 8 a.ay:=by
   unfold jl;simp only[aH];rfl
  rw[<-e3];exact T.dp h
def Mg[i:Lc (buf p) L l q](hg:j0 t)(hl:l.length<549755813888)(h:T W (q (l++oA t)) (K (.tuple ⟨[]⟩))):T W L (qp (ah p) (aL t) K):=by
 unfold qp qp.j1
 repeat' first|apply ws;intros|apply wb|refine H' ?_
 rw[av hg,Bool.not_true,dY];apply ws;rename_i r;intro w hs;refine⟨λvs w=>∃i:Nat,i<=5/\vs=[.p (some (ad r 0)),.agg ⟨[t.id,t.bp,t.aP,t.aU,t.pending].flatMap nm⟩,.i (i:Int)]/\St W w (Sep.pt r (aL t)::q (l++([t.id,t.bp,t.aP,t.aU,t.pending].take i).flatMap nb)),
  λvs _=>match vs with|[_,_,.int _ j]=>5-j.toNat|_=>0,⟨0,aE _,rfl,by rw[nG,List.flatMap_nil,bI,i.same];exact hs⟩,?_⟩
 rintro a1 QG n1 w2 ⟨j,hj,e,hs⟩;cases e
 refine T.at ?_ hs;have hq:=i.next;have hlen:(l++([t.id,t.bp,t.aP,t.aU,t.pending].take j).flatMap nb).length<1099511627776:=by rw[au,wU,aD];simp;omega
 apply fV<;>intro h1
 ·have cf:j<5:=by omega
  have hx:[t.id,t.bp,t.aP,t.aU,t.pending][j]?=some ([t.id,t.bp,t.aP,t.aU,t.pending][j]'(by simpa using cf)):=aj _;have e5:=nL j;have et:([t.id,t.bp,t.aP,t.aU,t.pending].take j).flatMap nb++nb ([t.id,t.bp,t.aP,t.aU,t.pending][j]'(by simpa using cf))=([t.id,t.bp,t.aP,t.aU,t.pending].take (j+1)).flatMap nb:=by
   rw[qi (by simpa using cf),fQ];simp
  rw[ao,acy _ _ _ hx,e5]
  repeat' first|apply ws;intros|apply wb|first|refine dD (by omega) ?_|refine I6 hlen ?_
  rw[aH,et];refine T.drop λw3 h3=>⟨⟨j+1,cf,rfl,?_⟩,by show 5-((j+1:Nat):Int).toNat<5-(j:Int).toNat;omega⟩;exact h3
 ·have he:j=5:=by omega
  subst he;simp only[gN,aC];have e2:(([t.id,t.bp,t.aP,t.aU,t.pending].take 5).flatMap nb).length=80:=by rw[wU];rfl
  repeat' first|apply ws|apply wb|first|refine Pc (by simp only[au,aO,e2];omega) ?_|refine DD (by simp only[au,aO,e2];omega) ?_|refine y3 (by simp only[au,aO,e2];omega) ?_
  have e3:l++oA t=l++([t.id,t.bp,t.aP,t.aU,t.pending].take 5).flatMap nb++le .i64 4 t.cu++le .i64 4 t.aZ++le .i64 2 t.code++le .i64 2 t.ak++le .i64 8 t.ay++le .i64 8 t.jj:=by
   unfold oA;simp only[aH];rfl
  rw[<-e3];exact T.dp h
abbrev RS:=List UInt8×Bool
def zn(n:Nat)(x:RS):RS:=match n with|0=>x|n+1=>fG 16 (zn n x)
def FU(x:RS):RS:=fG 8 (fG 2 (fG 2 (fG 4 (zn 5 x))))
def FW(x:RS):bC:=if(FU x).2=true then zA else
 ⟨zm x,zm (zn 1 x),zm (zn 2 x),zm (zn 3 x),zm (zn 4 x),kL 4 (zn 5 x),kL 2 (fG 4 (zn 5 x)),kL 2 (fG 2 (fG 4 (zn 5 x))),kL 8 (fG 2 (fG 2 (fG 4 (zn 5 x))))⟩
def FT(x:RS):RS:=fG 8 (fG 8 (fG 2 (fG 2 (fG 4 (fG 4 (zn 5 x))))))
def FV(x:RS):cE:=if(FT x).2=true then zT else
 ⟨zm x,zm (zn 1 x),zm (zn 2 x),zm (zn 3 x),zm (zn 4 x),kL 4 (zn 5 x),kL 4 (fG 4 (zn 5 x)),kL 2 (fG 4 (fG 4 (zn 5 x))),kL 2 (fG 2 (fG 4 (fG 4 (zn 5 x)))),
  kL 8 (fG 2 (fG 2 (fG 4 (fG 4 (zn 5 x))))),kL 8 (fG 8 (fG 2 (fG 2 (fG 4 (fG 4 (zn 5 x))))))⟩
variable {r:Nat} {x:RS} {g:RS->LH}
def qU{m:Nat}{x:RS}{B:Nat}(h:x.1.length<B):(fG m x).1.length<B:=F2 (u9 m x) h
def T1[i:Lc (rd r) L x g](hl:x.1.length<1099511627776)(h:T W (g (FU x)) (K (.agg ⟨aK (FW x)⟩))):T W L (oo (ah r) K):=by
 unfold oo;have hq:=i.next
 repeat' first|apply ws;intros|apply wb|first|refine Jb (by repeat (first|exact hl|apply qU)) ?_|refine Ph (by repeat (first|exact hl|apply qU)) ?_|refine DE (by repeat (first|exact hl|apply qU)) ?_|refine xw (by repeat (first|exact hl|apply qU)) ?_|refine y4 ?_
 have e:fG 8 (fG 2 (fG 2 (fG 4 (fG 16 (fG 16 (fG 16 (fG 16 (fG 16 x))))))))=FU x:=rfl;rw[e];unfold FW at h;apply dh<;>intro h1
 ·rw[ai h1] at h;apply ws;exact T.dp h
 ·rw[ag (by rw[h1];decide)] at h;apply ws;exact T.dp h
def Mh[i:Lc (rd r) L x g](hl:x.1.length<1099511627776)(h:T W (g (FT x)) (K (.agg ⟨aL (FV x)⟩))):T W L (mZ (ah r) K):=by
 unfold mZ;have hq:=i.next
 repeat' first|apply ws;intros|apply wb|first|refine Jb (by repeat (first|exact hl|apply qU)) ?_|refine Ph (by repeat (first|exact hl|apply qU)) ?_|refine DE (by repeat (first|exact hl|apply qU)) ?_|refine xw (by repeat (first|exact hl|apply qU)) ?_|refine y4 ?_
 have e:fG 8 (fG 8 (fG 2 (fG 2 (fG 4 (fG 4 (fG 16 (fG 16 (fG 16 (fG 16 (fG 16 x))))))))))=FT x:=rfl;rw[e];unfold FV at h;apply dh<;>intro h1
 ·rw[ai h1] at h;apply ws;exact T.dp h
 ·rw[ag (by rw[h1];decide)] at h;apply ws;exact T.dp h
end
end Go.Up
namespace Go.Den
open Go.RowKit
def sx(P:Program)(fT:TypeId->Option (LV)):Nat->List Field->Option (LV)
 |_,[]=>some []
 |o,f::r=>bif (f.name != "_")&&ig f.offset o then
           match fT f.type with
           |some z=>bif (match P.info? f.type with|some i=>ig i.size z.length|none=>false) then
                     match sx P fT (o+z.length) r with
                     |some zr=>some (z++zr)
                     |none=>none
            else none
           |none=>none
  else none
def zz(P:Program):Nat->TypeId->Option (LV)
 |0,_=>none
 |n+1,t=>match P.underlying t with
  |some (.int k)=>some [.int k 0]
  |some .bool=>some [.bool false]
  |some .string=>some [.string .empty]
  |some (.struct fs)=>bif P.stoodInHeld t then none else sx P (zz P n) 0 fs.toList
  |_=>none
def toV(P:Program)(t:TypeId)(xs:LV):Value:=match P.underlying t with
 |some (.struct _)=>.agg ⟨xs⟩
 |_=>xs.headD undef
def pk:∀{zs xs:LV},oD zs xs=true->xs.length=zs.length
 |[],[],_=>rfl
 |[],_::_,h=>by simp[oD] at h
 |_::_,[],h=>by simp[oD] at h
 |z::zs,x::xs,h=>by simp only[oD,dW] at h;simp[pk h.2]
def yD:∀{z zr xs:LV},oD (z++zr) xs=true->∃a b,xs=a++b/\oD z a=true/\oD zr b=true
 |[],zr,xs,h=>⟨[],xs,rfl,rfl,h⟩
 |y::z,zr,[],h=>by simp[oD] at h
 |y::z,zr,x::xs,h=>by
  simp only[kV,oD,dW] at h;obtain⟨a,b,rfl,h1,h2⟩:=yD h.2;exact⟨x::a,b,rfl,by simp[oD,h.1,h1],h2⟩
def tt:∀{a b c d:LV},a.length=b.length->iT (a++c) (b++d)=(iT a b&&iT c d)
 |[],[],c,d,_=>by simp[iT]
 |[],_::_,_,_,h=>by simp at h
 |_::_,[],_,_,h=>by simp at h
 |x::a,y::b,c,d,h=>by
  simp only[kV,iT];rw[tt (by simpa using h),Bool.and_assoc]
def OV{P:Program}:∀(n:Nat)(t:TypeId)(zs:LV),zz P n t=some zs->∀(xs ys:LV),oD zs xs=true->oD zs ys=true->∀(d:Nat)(w:World),(Op.equalIn (d+2* n) t (toV P t xs) (toV P t ys)).run P w=.ok (iT xs ys) w
 |0,_,_,h=>by simp[zz] at h
 |n+1,t,zs,h=>λxs ys hx hy d w=>by
  have hd:d+2* (n+1)=(d+2* n+1)+1:=by omega
  rw[hd];unfold zz at h;unfold toV;generalize hu:P.underlying t=u at h;split at h
  ·cases h
   obtain⟨x,rfl⟩:=List.length_eq_one_iff.1 (pk hx);obtain⟨y,rfl⟩:=List.length_eq_one_iff.1 (pk hy)
   ·simp only[oD,Bool.and_true] at hx hy;cases x<;>simp[fits] at hx
    cases y<;>simp[fits] at hy
    subst hx hy;simp[run_equalIn_int w _ t _ _ _ _ hu,iT,zZ]
  ·cases h
   obtain⟨x,rfl⟩:=List.length_eq_one_iff.1 (pk hx);obtain⟨y,rfl⟩:=List.length_eq_one_iff.1 (pk hy)
   ·simp only[oD,Bool.and_true] at hx hy;cases x<;>simp[fits] at hx
    cases y<;>simp[fits] at hy
    simp[run_equalIn_bool w _ t _ _ hu,iT,zZ]
  ·cases h
   obtain⟨x,rfl⟩:=List.length_eq_one_iff.1 (pk hx);obtain⟨y,rfl⟩:=List.length_eq_one_iff.1 (pk hy)
   ·simp only[oD,Bool.and_true] at hx hy;cases x<;>simp[fits] at hx
    cases y<;>simp[fits] at hy
    simp[run_equalIn_string w _ t _ _ hu,iT,zZ,py]
  ·rename_i fs;cases hs:P.stoodInHeld t with
   |true=>rw[hs] at h;cases h
   |false=>
    rw[hs] at h;have A2:P.fieldsOf t=fs:=by simp[Program.fieldsOf,hu]
    show(Op.equalIn _ t (.agg ⟨xs⟩) (.agg ⟨ys⟩)).run P w=_;rw[run_equalIn_struct w _ t ⟨xs⟩ ⟨ys⟩ (by rw[A2];exact hu) hs,A2];have key:∀(l:List Field)(o:Nat)(zs:LV)(pre PX xs ys:LV),pre.length=o->PX.length=o->sx P (zz P n) o l=some zs->oD zs xs=true->oD zs ys=true->
                                                              (Op.eqFields (d+2* n+1) ⟨pre++xs⟩ ⟨PX++ys⟩ l).run P w=.ok (iT xs ys) w:=by
     intro l
     induction l with
     |nil=>
      intro o zs pre PX xs ys h1 h2 h3 hx hy;simp only[sx,bE.injEq] at h3;subst h3;cases xs<;>cases ys<;>simp[oD] at hx hy
      simp[Op.eqFields,iT]
     |cons f l ih=>
      intro o zs pre PX xs ys h1 h2 h3 hx hy;unfold sx at h3;cases hc:((f.name != "_")&&ig f.offset o) with
      |false=>rw[hc] at h3;cases h3
      |true=>
       rw[hc] at h3;simp only[dW] at hc;have hn':f.name≠ "_":=by simpa using hc.1
       have ho':f.offset=o:=eH hc.2;simp only[cond_true] at h3;cases hz:zz P n f.type with
       |none=>rw[hz] at h3;cases h3
       |some z=>
        rw[hz] at h3;dsimp only at h3;cases hi:P.info? f.type with
        |none=>rw[hi] at h3;cases h3
        |some i=>
         rw[hi] at h3;dsimp only at h3;cases se:ig i.size z.length with
         |false=>rw[se] at h3;cases h3
         |true=>
          rw[se] at h3;have se:=eH se;simp only[cond_true] at h3;cases hr:sx P (zz P n) (o+z.length) l with
          |none=>rw[hr] at h3;cases h3
          |some zr=>
           rw[hr] at h3;simp only[bE.injEq] at h3;subst h3;obtain⟨x1,x2,rfl,a1,a2⟩:=yD hx;obtain⟨y1,y2,rfl,b1,b2⟩:=yD hy;have lx:=pk a1;have ly:=pk b1;have OH:∀(p x1 x2:LV),p.length=o->oD z x1=true->(part f.type (⟨p++(x1++x2)⟩:Array Value) f.offset).run P w=.ok (toV P f.type x1) w:=by
            intro p x1 x2 hp a1;have lx:=pk a1;cases n with
            |zero=>simp[zz] at hz
            |succ m=>
             unfold zz at hz;unfold toV;generalize Q9:P.underlying f.type=fu at hz;have Jq:∀v:Value,x1=[v]->tE (fu.getD (.int .i64))=false->fu.isSome=true->(part f.type (⟨p++(x1++x2)⟩:Array Value) f.offset).run P w=.ok v w:=by
              intro v hv hg abV;subst hv;cases fu with
              |none=>cases abV
              |some fd=>
               simp only[dx] at hg;cases fd<;>simp[tE] at hg<;>simp[part,isAgg,underlying,Q9,ho',hp]
             split at hz
             ·cases hz
              match x1,a1,lx,Jq with
              |[v],_,_,Jq=>exact Jq v rfl rfl rfl
             ·cases hz
              match x1,a1,lx,Jq with
              |[v],_,_,Jq=>exact Jq v rfl rfl rfl
             ·cases hz
              match x1,a1,lx,Jq with
              |[v],_,_,Jq=>exact Jq v rfl rfl rfl
             ·simp only[part,isAgg,underlying,sizeOf,typeInfo,Sem.run_bind,run_program,Result.andThen_ok,Q9,hi,Sem.run_pure,if_true,ho'];have:(⟨p++(x1++x2)⟩:Array Value).extract o (o+i.size)=⟨x1⟩:=by
               apply uy;rw[Array.toList_extract];show List.extract (p++(x1++x2)) o (o+i.size)=x1;rw[List.extract_eq_take_drop,<-hp,List.drop_left' rfl,se,show p.length+z.length-p.length=x1.length by omega,List.take_left' rfl]
              rw[this]
             ·cases hz
           have ihn:=OV n f.type z hz x1 y1 a1 b1 (d+1) w;have Uz:=ih (o+z.length) zr (pre++x1) (PX++y1) x2 y2 (by rw[au,h1,lx]) (by rw[au,h2,ly]) hr a2 b2;rw[show d+1+2* n=d+2* n+1 by omega] at ihn;rw[aH,aH] at Uz;rw[Op.eqFields];simp only[ai hn',Sem.run_bind,OH pre x1 x2 h1 a1,OH PX y1 y2 h2 b1,ihn,Result.andThen_ok];rw[tt (by rw[lx,ly])];cases iT x1 y1
           ·simp
           ·simpa using Uz
    have:=key fs.toList 0 zs [] [] xs ys rfl rfl (by simpa using h) hx hy;simpa using this
  ·cases h
def rT.nil{P:Program}:rT P []:=λt zs h=>by simp[HB] at h
def rT.cons{P:Program}{E:Un}{t:Nat}{z:LV}{fs:Array Field}(h1:P.eqGuardType P.depth t=false)(h2:zz P 4 t=some z)(h3:P.underlying t=some (.struct fs))(h:rT P E):rT P ((t,z)::E):=λu zs hu=>by
 unfold HB at hu;cases hb:ig t u with
 |true=>
  rw[hb] at hu;have:=eH hb;subst this;cases hu
  refine⟨h1,λxs ys hx hy w=>?_⟩;have:=OV 4 t z h2 xs ys hx hy (Op.maxDepth-8) w;have e:Op.maxDepth-8+2* 4=Op.maxDepth:=by decide
  rw[e] at this;unfold toV at this;rw[h3] at this;exact this
 |false=>
  rw[hb] at hu;exact h u zs hu
end Go.Den
namespace Go.Up
open Go.Sep Go.Den Go.RowKit Go.Prog Go.Md
def IT:∀(xs ys:List Int),xs.length=ys.length->iT (xs.map (.int .i64)) (ys.map (.int .i64))=decide (xs=ys)
 |[],[],_=>rfl
 |[],_::_,h=>by simp at h
 |_::_,[],h=>by simp at h
 |x::xs,y::ys,h=>by
  simp only[cN,iT,zZ];rw[IT xs ys (by simpa using h),bV];simp
def nF{a b:Nat}{xs ys:LV}:iT (nm a++xs) (nm b++ys)=(decide (a=b)&&iT xs ys):=by rw[tt (show(nm a).length=(nm b).length from rfl),Yy]
def IS(t u:cE):iT (aL t) (aL u)=decide (t=u):=by
 have e:=IT [t.cu,t.aZ,t.code,t.ak,t.ay,t.jj] [u.cu,u.aZ,u.code,u.ak,u.ay,u.jj] rfl;simp only[cN,ud] at e;unfold aL;rw[nF,nF,nF,nF,nF,e];rw[bV];obtain⟨a,b,c,d,e,f,g,h,i,j,k⟩:=t;obtain⟨a',b',c',d',e',f',g',h',i',j',k'⟩:=u;simp[and_assoc]
def OY(t u:bC):iT (aK t) (aK u)=decide (t=u):=by
 have e:=IT [t.aZ,t.code,t.ak,t.ay] [u.aZ,u.code,u.ak,u.ay] rfl;simp only[cN,ud] at e;unfold aK;rw[nF,nF,nF,nF,nF,e];rw[bV];obtain⟨a,b,c,d,e,f,g,h,i⟩:=t;obtain⟨a',b',c',d',e',f',g',h',i'⟩:=u;simp[and_assoc]
def WL(t u:bW):iT (bG t) (bG u)=decide (t=u):=by
 unfold bG;rw[tt (show(aL t.asked).length=(aL u.asked).length from rfl),tt (show(aL t.move).length=(aL u.move).length from rfl),IS,IS,bV];obtain⟨a,b,c⟩:=t;obtain⟨a',b',c'⟩:=u;simp[iT,zZ]
section
variable {W:World} {L:LH} {K:VK} {a b:bC} {t u:cE} {k j:bW}
def XP{K:Bool->WK}(h:T W L (K (decide (t=u)))):T W L (rl [.u 0,.u 0,.u 0,.u 0,.u 0,.u 0,.u 0,.u 0,.u 0,.u 0,.i 0,.i 0,.i 0,.i 0,.i 0,.i 0] (aL t) (aL u) K):=JJ rfl rfl (by rw[IS];exact h)
def abo{K:Bool->WK}(h:T W L (K (decide (a=b)))):T W L (rl [.u 0,.u 0,.u 0,.u 0,.u 0,.u 0,.u 0,.u 0,.u 0,.u 0,.i 0,.i 0,.i 0,.i 0] (aK a) (aK b) K):=JJ rfl rfl (by rw[OY];exact h)
def abn{K:Bool->WK}(h:T W L (K (decide (k=j)))):T W L (rl [.u 0,.u 0,.u 0,.u 0,.u 0,.u 0,.u 0,.u 0,.u 0,.u 0,.i 0,.i 0,.i 0,.i 0,.i 0,.i 0,.u 0,.u 0,.u 0,.u 0,.u 0,.u 0,.u 0,.u 0,.u 0,.u 0,.i 0,.i 0,.i 0,.i 0,.i 0,.i 0,.i 0] (bG k) (bG j) K):=JJ rfl rfl (by rw[WL];exact h)
def NT{cs:LV}{n j:Nat}{v:Value}{K:VK}(hj:j<n)(hv:cs[j]?=some v)(h:T W L (K v)):T W L (Cy cs n (j:Int) K):=λw hs=>⟨v,⟨by omega,by omega,by rw[ao];exact hv⟩,h w hs⟩
def T3(ha:0<=a.ak/\a.ak<256)(hb:0<=b.ak/\b.ak<256)(h:T W L (K (.i (tJ a b)))):T W L (pR (aK a) (aK b) K):=by
 unfold pR pR.j1
 repeat' first|apply ws;intros|apply wb|apply dh<;>intro h1
 all_goals
  refine T.fin (T.dp h) ?_
  congr 1
  unfold tJ
  all_goals try simp only[YC ha.1 ha.2,YC hb.1 hb.2,bz] at *
  all_goals (split<;>omega)
def Jk(hf:0<=t.ak/\t.ak<256)(h:T W L (K (.b (decide (jA t.ak))))):T W L (sm (aL t) K):=by
 unfold sm;apply ws;intros;refine T.fin (T.dp h) ?_;congr 1;(rw[bV];(try simp only[bz,false_iff,true_iff] at *)<;>(try simp only[YB hf.1 hf.2,bh] at *)<;>omega)
def uw(hf:0<=t.ak/\t.ak<256)(h:T W L (K (.b (decide (has t.ak 2))))):T W L (lQ (aL t) K):=by
 unfold lQ;apply ws;intros;refine T.fin (T.dp h) ?_;congr 1;(rw[bV];(try simp only[bz,false_iff,true_iff] at *)<;>(try simp only[Lp hf.1 hf.2,bh] at *)<;>omega)
def FN(hf:0<=t.ak/\t.ak<256)(h:T W L (K (.b (decide (has t.ak 16\/has t.ak 32))))):T W L (qq (aL t) K):=by
 unfold qq;apply ws;intros;refine T.fin (T.dp h) ?_;congr 1;(rw[bV];(try simp only[bz,false_iff,true_iff] at *)<;>(try simp only[adC hf.1 hf.2,bh] at *)<;>omega)
def JL(ht:0<=t.ak/\t.ak<256)(hu:0<=u.ak/\u.ak<256)(h:T W L (K (.i (sE t u)))):T W L (uA (aL t) (aL u) K):=by
 unfold uA
 repeat' first|apply ws;intros|apply wb|refine XP ?_
 rw[YA ht.1 ht.2,YA hu.1 hu.2];unfold sE at h;have e:({t with ak:=t.ak/2* 2}:cE)={u with ak:=u.ak/2* 2}↔({t with ak:=t.ak/2}:cE)={u with ak:=u.ak/2}:=by
  have OM:t.ak/2* 2=u.ak/2* 2↔t.ak/2=u.ak/2:=by omega
  simp only[Md.cE.mk.injEq,OM]
 apply fV<;>intro h1
 ·rw[ai (e.1 (h1))] at h;exact T.dp h
 ·rw[ag (λhh=>h1 (e.2 hh))] at h;exact T.dp h
def C7(f:Int)(i:Nat):Int:=(([2,4,8]:List Int).take i).foldl (λn b=>if has f b then n+1 else n) 0
def Mb(hf:0<=t.ak/\t.ak<256)(h:T W L (K (.b (decide (iY t.ak))))):T W L (kC (aL t) K):=by
 unfold kC;apply ws;intros;rename_i r;intro w hs;refine⟨λvs w=>∃i:Nat,i<=3/\vs=[.p (some (ad r 0)),.b false,.i (C7 t.ak i),.agg ⟨[.i 2,.i 4,.i 8]⟩,.i (i:Int)]/\St W w (Sep.pt r (aL t)::L),
  λvs _=>match vs with|[_,_,_,_,.int _ j]=>3-j.toNat|_=>0,⟨0,aE _,rfl,hs⟩,?_⟩
 rintro a1 b1 n1 Fh n2 w2 ⟨j,hj,e,hs⟩;cases e
 refine T.at ?_ hs;simp only[gN,aC];apply fV<;>intro h1
 ·have cf:j<3:=by omega
  have e5:=nL j;have key:∃m:Int,([.i 2,.i 4,.i 8]:LV)[j]?=some (.i m)/\(db .i64 .and t.ak m=0↔ ¬has t.ak m)/\C7 t.ak (j+1)=(if has t.ak m then C7 t.ak j+1 else C7 t.ak j)/\0<=C7 t.ak j/\C7 t.ak j<=j:=by
   match j,cf with
   |0,_=>exact⟨2,rfl,Lp hf.1 hf.2,rfl,sH 0,sH 0⟩
   |1,_=>exact⟨4,rfl,Lo hf.1 hf.2,rfl,by simp only[C7,List.take,List.foldl];split<;>decide,by simp only[C7,List.take,List.foldl];split<;>decide⟩
   |2,_=>exact⟨8,rfl,TQ hf.1 hf.2,rfl,by simp only[C7,List.take,List.foldl];split<;>split<;>decide,by simp only[C7,List.take,List.foldl];split<;>split<;>decide⟩
  obtain⟨m,k1,k2,k3,k4,k5⟩:=key;refine NT (by omega) k1 ?_
  repeat' first|apply ws|apply wb|apply dh<;>intro h1
  all_goals rw[e5]
  ·have h2:has t.ak m:=by
    have:=(fy.1 h1);rw[ne_eq,k2,bh] at this;exact this
   rw[ai h2] at k3;rw[aW (by omega),<-k3];exact λw3 h3=>⟨⟨j+1,cf,rfl,h3⟩,by show 3-((j+1:Nat):Int).toNat<3-(j:Int).toNat;omega⟩
  ·have h2: ¬has t.ak m:=k2.1 (bne_eq_false_iff_eq.1 h1);rw[ag h2] at k3;rw[<-k3];exact λw3 h3=>⟨⟨j+1,cf,rfl,h3⟩,by show 3-((j+1:Nat):Int).toNat<3-(j:Int).toNat;omega⟩
 ·have he:j=3:=by omega
  subst he;have hc:C7 t.ak 3<=1↔ ¬(has t.ak 2/\has t.ak 4\/has t.ak 2/\has t.ak 8\/has t.ak 4/\has t.ak 8):=by
   simp only[C7,List.take,List.foldl];by_cases h2:has t.ak 2<;>by_cases h4:has t.ak 4<;>by_cases h8:has t.ak 8<;>simp[h2,h4,h8]
  simp only[kC.j1,gN,aC]
  repeat' first|apply ws|apply wb|first|refine Jk hf ?_|refine uw hf ?_|apply dh<;>intro h1
  all_goals
   refine T.fin (T.dp h) ?_
   congr 1
   rw[bV]
   all_goals try simp only[YB hf.1 hf.2,agN hf.1 hf.2,agO hf.1 hf.2,hc,true_iff,false_iff,bz] at *
   all_goals (unfold iY;simp_all<;>(intros;omega))
def QO(t:cE):Int:=if t.pending=0 then 16 else if t.aZ<0\/4294967296<=t.aZ then 8 else if t.code<0\/65536<=t.code then 9 else 0
def QN(t:cE):Int:=if t.bp=0 then 12 else if t.aP=0 then 13 else if t.bp=t.aP then 14 else if t.pending≠0 then 15 else if t.aU=0/\ ¬has t.ak 16/\ ¬has t.ak 32 then 18
 else if t.aZ<1\/4294967296<=t.aZ then 8 else if t.code<1\/65536<=t.code then 9 else 0
def Tn(h:T W L (K (.i (QO t)))):T W L (ox (aL t) K):=by
 unfold ox ox.j1
 repeat' first|apply ws;intros|apply wb|first|refine uT ?_|apply dh<;>intro h1
 all_goals try simp only[bz] at *
 all_goals (refine T.fin (T.dp h) ?_;congr 1;unfold QO;repeat' split)
 all_goals omega
def SE(hf:0<=t.ak/\t.ak<256)(h:T W L (K (.i (QN t)))):T W L (jY (aL t) K):=by
 unfold jY jY.j1 jY.j2
 repeat' first|apply ws;intros|apply wb|first|refine uT ?_|refine FN hf ?_|apply dh<;>intro h1
 all_goals try simp only[bz] at *
 all_goals (refine T.fin (T.dp h) ?_;congr 1;unfold QN has at *;repeat' split)
 all_goals first|rfl|omega
def JK(G:qF W)(ht:yJ t)(h:T W L (K (.i (mT t)))):T W L (fq (aL t) K):=by
 by_cases hf:0<=t.ak/\t.ak<256
 ·unfold fq fq.j1 fq.j2 fq.j4 fq.j3;rw[show mT t=if t.ak<0\/255<t.ak then 3 else if t.id=0 then 4 else if t.id=bB-1 then 5 else if ¬iY t.ak then 6
   else if t.ay≠0\/t.jj≠0 then 7 else if t.cu<0\/1073741824<t.cu\/0<t.cu/\ ¬has t.ak 2 then 17
   else if jA t.ak then QO t else QN t from rfl] at h
  repeat' first|apply ws;intros|apply wb|first|refine uT ?_|refine NS ⟨yu _,G.VV⟩ ?_|refine Mb hf ?_|refine Jk hf ?_|refine uw hf ?_|refine Tn ?_|refine SE hf ?_|apply dh<;>intro h1
  all_goals try simp only[bz] at *
  all_goals (refine T.fin (T.dp h) ?_;congr 1;repeat' split)
  all_goals first|rfl|omega|(simp_all;done)|(simp_all;omega)
 ·unfold fq fq.j1;rw[show mT t=3 from ai (by omega)] at h;apply ws;intros;apply fV<;>intro h1
  ·rw[kG];exact T.dp h
  apply ws;rw[av (by omega),kG];exact T.dp h
end
end Go.Up
