/- Part of the proof: see the last text. -/
import Derived.Test.YtibneekkkdnmgaaGreatDoorPA
import Derived.ProofKit
import Derived.OpenShut
import Derived.ChangeOld
import Derived.SizedLaws
import Derived.Carry
import Derived.Deep.Slices
import Derived.Laws.StructEq
set_option linter.all false
set_option maxRecDepth 100000
set_option synthInstance.maxSize 100000
open Array renaming ext'→uF,replicate→jH
open Bool renaming and_eq_true→dh,false_ne_true→cJ,true_and→dI,noConfusion→rq,false_eq_true→cG,eq_iff_iff→bZ
open Decidable renaming not_not→bp
open Go.IntKind renaming i64→aa
open Int renaming toNat_natCast→ak,tmod_eq_emod_of_nonneg→dB,eq_ofNat_of_zero_le→bw,fdiv_eq_ediv_of_nonneg→GI,le_refl→sS
open List renaming mem_cons→jX,set_cons_succ→lA,getElem?_eq_getElem→aj,getElem_mem→cb,mem_of_getElem?→cn,mem_append→dY,mem_or_eq_of_mem_set→fm,mem_cons_of_mem→fJ,length_replicate→iF,drop_zero→iK,getD_eq_getElem?_getD→jT,mem_cons_self→pL,mem_singleton→CX,getElem?_eq_some_iff→av,length_map→bY,getElem?_append_left→cO,map_cons→dA,mem_map→dF,getElem?_map→dU,getElem?_append_right→iJ,getElem?_drop→lC,range→pK,getElem?_range→q8,append_nil→bO,nil_append→cT,drop_of_length_le→fB,take_zero→og,reverse_cons→xW,getElem?_set_ne→OP,length_append→au,append_assoc→aH,take_of_length_le→bG,map_append→cU,map_congr_left→mI,take_succ_eq_append_getElem→qA,map_map→um,replicate→bj,Perm→bX,length_nil→cK,length_take→aC,length_drop→aR,drop_drop→iL,set_set→jC,take_take→xV,length_cons→aW,cons_append→lH,mem_of_find?_eq_some→ni,take_length→aV,take_append_of_le_length→zJ,take_left→CW,drop_eq_getElem_cons→gZ,flatMap_cons→iP,getElem?_cons_succ→bT,getElem?_eq_none→pU,map_nil→uk,take_append_drop→dk,getElem?_set→cW,length_set→iH,ext_getElem?→oz,flatMap_append→gi,getElem?_take→sj
open Nat renaming le_refl→aF,zero_add→aD,mul_le_mul_right→iw,add_mul→mn,mul_comm→vK,le_trans→zy,zero_le→aE,reduceAdd→ae,reduceMul→ag,le_of_ble_eq_true→aI,mul_one→mm,sub_self→jS,pow_le_pow_right→gM,pow_succ→zx,add_zero→gK,mod_eq_of_lt→fD,min_eq_left→nA,lt_of_le_of_lt→qk,eq_of_beq_eq_true→eH,beq→ix
open Option renaming getD_some→dz,some→bE,map_some→fF,getD_none→gN
namespace Go.Prog
open Go.Den
def rE(e:BA)(K:VK):WK:=mk [.u 0,.u 0] λf=>mk [.u 0,.u 0] λj=>br (decide ((e.size:Int)<16)) (aJ (ad j 0) 2 λl=>bD 2 (ad f 0) l (aJ (ad f 0) 2 λm=>K (.tuple ⟨[.agg ⟨m⟩,.b false]⟩))) ((lp [.p (some (ad f 0)),.b false,.p (some (ad j 0)),.i 0] λk n=>∀d g c a h,k [.p (some d),.b g,.p (some c),.i a] h->(br (decide (a<8)) (tick (lU (c.add 1) λo=>zQ e a λq=>cu ((0:Int)<=(aa.wrap (8* a))) (st (c.add 1) (.u (de .u64 .or o (shl .u64 (IntKind.u64.wrap (q.toNat:Int)) (aa.wrap (8* a))))) (tick (lU c λr=>zQ e (aa.wrap (8+a)) λs=>cu ((0:Int)<=(aa.wrap (8* a))) (st c (.u (de .u64 .or r (shl .u64 (IntKind.u64.wrap (s.toNat:Int)) (aa.wrap (8* a))))) ((ct k n [.p (some d),.b g,.p (some c),.i (aa.wrap (a+1))] [.p (some d),.b g,.p (some c),.i a] h)))))))) (aJ c 2 λt=>bD 2 d t (aJ d 2 λv=>K (.tuple ⟨[.agg ⟨v⟩,.b true]⟩)))) h))
def cV(c:OA)(K:VK):WK:=mk [.u 0,.u 0] λa=>fo c 16 (xS λd=>rE d (x2 λe f=>(xA 2 λg=>(xB λj=>mk [.u 0,.u 0] λb=>bD 2 (ad b 0) g (aJ (ad b 0) 2 λh=>bD 2 (ad a 0) h (aJ (ad a 0) 2 λi=>K (.agg ⟨i⟩)))) f) e))
def cV.u:WP|[.pointer a],K=>cV a K|_,_=>no
def nR(a:OA)(K:VK):WK:=mk eK λb=>cV a (xA 2 λc=>cV a (xA 2 λd=>cV a (xA 2 λe=>cV a (xA 2 λf=>cV a (xA 2 λg=>aL a 4 (xI .i64 λh=>aL a 2 (xI .i64 λj=>aL a 2 (xI .i64 λk=>aL a 8 (xI .i64 λl=>cu (c.length=2/\(d.length=2/\(e.length=2/\(f.length=2/\(g.length=2/\(1=1/\(1=1/\(1=1/\(1=1/\True))))))))) (mk eK λm=>cu ((c++(d++(e++(f++(g++([.i h,.i j,.i k,.i l]:LV)))))).length=14) (jU (ad m 0) (c++(d++(e++(f++(g++([.i h,.i j,.i k,.i l]:LV)))))) (cF a (xB λn=>br n (cu True (cu (14=14) (jU (ad b 0) eK (aJ (ad b 0) 14 λo=>K (.agg ⟨o⟩))))) (aJ (ad m 0) 14 λp=>bD 14 (ad b 0) p (aJ (ad b 0) 14 λq=>K (.agg ⟨q⟩))))))))))))))))
def nR.u:WP|[.pointer a],K=>nR a K|_,_=>no
def mP(a:OA)(K:VK):WK:=mk iD λb=>cV a (xA 2 λc=>cV a (xA 2 λd=>cV a (xA 2 λe=>cV a (xA 2 λf=>cV a (xA 2 λg=>aL a 4 (xI .i64 λh=>aL a 4 (xI .i64 λj=>aL a 2 (xI .i64 λk=>aL a 2 (xI .i64 λl=>aL a 8 (xI .i64 λm=>aL a 8 (xI .i64 λn=>cu (c.length=2/\(d.length=2/\(e.length=2/\(f.length=2/\(g.length=2/\(1=1/\(1=1/\(1=1/\(1=1/\(1=1/\(1=1/\True))))))))))) (mk iD λo=>cu ((c++(d++(e++(f++(g++([.i h,.i j,.i k,.i l,.i m,.i n]:LV)))))).length=16) (jU (ad o 0) (c++(d++(e++(f++(g++([.i h,.i j,.i k,.i l,.i m,.i n]:LV)))))) (cF a (xB λp=>br p (cu True (cu (16=16) (jU (ad b 0) iD (aJ (ad b 0) 16 λq=>K (.agg ⟨q⟩))))) (aJ (ad o 0) 16 λr=>bD 16 (ad b 0) r (aJ (ad b 0) 16 λs=>K (.agg ⟨s⟩))))))))))))))))))
def mP.u:WP|[.pointer a],K=>mP a K|_,_=>no
def qn(a:OA)(K:VK):WK:=br (a.isNone) (K (.i 0)) (nn a λb=>lT (b.add 1) λc=>br c (K (.i 0)) (nn a λd=>lS d λe=>K (.i (e.size:Int))))
def wo(K:VK):WK:=Lh 32 OR 8 8 λa b c=>cu (1=1/\True) (mk [.l a b c,.i 0,.i 0] λd=>K (.p (some (ad d 0))))
def qC(a:OA)(K:VK):WK:=cu (1=1/\True) (mk [.l none 0 0,.p a] λb=>K (.p (some (ad b 0))))
def sz(a:OA)(K:VK):WK:=cu (1=1/\True) (mk [.l none 0 0,.p a] λb=>K (.p (some (ad b 0))))
def uC(K:VK):WK:=wo (xP λb=>wo (xP λc=>cu (1=1/\(1=1/\True)) (mk [.l none 0 0,.p none,.p none,.p b,.p c,.l none 0 0,.l none 0 0,.i 0,.i 0] λa=>tick (qC (some (ad a 0)) (xP λd=>sz (some (ad a 0)) (xP λe=>st (ad a 1) (.p d) (st (ad a 2) (.p e) (K (.p (some (ad a 0)))))))))))
def mS(a:OA)(K:VK):WK:=br (!(a.isNone)) (nn a λc=>lL c λd b n=>Yg (Builtin.zeroCells ⟨[.nilFunc]⟩ b).toList d b (nn a λe=>lL e λf g h=>rJ f g h 1 none (some 0) λi j k=>nn a λm=>st m (.l i j k) (K (.tuple ⟨[]⟩)))) (K (.tuple ⟨[]⟩))
def uf(e:LV)(K:VK):WK:=mk e λa=>lU (ad a 1) λb=>lU (ad a 0) λc=>cu ((0:Int)<=31) (lU (ad a 0) λd=>cu ((0:Int)<=33) (cu ((0:Int)<=29) (K (.u (de .u64 .xor (IntKind.u64.wrap ((de .u64 .xor (de .u64 .xor b (shl .u64 c 31)) (shr .u64 d 33))* 11400714819323198485)) (shr .u64 (IntKind.u64.wrap ((de .u64 .xor (de .u64 .xor b (shl .u64 c 31)) (shr .u64 d 33))* 11400714819323198485)) 29))))))
def dm.j3(K:VK)(a:Int)(h:LI)(d:Addr)(e:Int)(f:Bool)(c g:Int)(j:LM)(k:World)(l:Bool):WK:=br l (K (.tuple ⟨[.i (aa.wrap a),.b true]⟩)) ((ct h j [.p (some d),.i e,.b f,.u c,.i g,.u (de .u64 .and (IntKind.u64.wrap (a+1)) c)] [.p (some d),.i e,.b f,.u c,.i g,.u a] k))
def dm.j2(K:VK)(g:LI)(a:Addr)(e:Int)(f:Bool)(c d:Int)(h:LM)(j:Int)(k:World)(l:Nat)(m:Bool):WK:=br m ((ct g h [.p (some a),.i e,.b f,.u c,.i (aa.wrap d),.u (de .u64 .and (IntKind.u64.wrap (d+1)) c)] [.p (some a),.i e,.b f,.u c,.i j,.u d] k)) (lB (ad l 3) λn=>br (n==1) (aJ (ad l 0) 2 λo=>aJ a 2 λq=>rT [.u 0,.u 0] o q λr=>dm.j3 K d g a e f c j h k r) (dm.j3 K d g a e f c j h k false))
def dm.j1(K:VK)(d:Int)(a:Nat)(c:Int)(e:LI)(f:Addr)(g:Int)(h:Bool)(j:Int)(k:LM)(l:World)(m:Bool):WK:=br m (K (.tuple ⟨[.i (aa.wrap d),.b false]⟩)) (lB (ad a 3) λn=>br (n==0) (K (.tuple ⟨[.i c,.b false]⟩)) (lB (ad a 3) λo=>br (o==2) (dm.j2 K e f g h j d k c l a (decide (c<0))) (dm.j2 K e f g h j d k c l a false)))
def dm(l:OA)(q:LV)(K:VK):WK:=mk q λm=>nn l λr=>lL r λB n C=>aJ (ad m 0) 2 λs=>uf s (xI .u64 λt=>(lp [.p (some (ad m 0)),.i 0,.b false,.u (IntKind.u64.wrap (aa.wrap ((n:Int) -1))),.i (-1),.u (de .u64 .and t (IntKind.u64.wrap (aa.wrap ((n:Int) -1))))] λf o=>∀g h j k a c d,f [.p (some g),.i h,.b j,.u k,.i a,.u c] d->(nn l λv=>lL v λw x D=>iY w x c 4 λy=>aJ y 4 λz=>mk OR λe=>bD 4 (ad e 0) z (lB (ad e 3) λA=>br (A==0) (dm.j1 K c e a f g h j k o d (decide (a<0))) (dm.j1 K c e a f g h j k o d false))) d))
def ir(a:OA)(c:LV)(K:VK):WK:=mk c λd=>br (a.isNone) (K (.tuple ⟨[.i 0,.b false]⟩)) (aJ (ad d 0) 2 λe=>dm a e (x2 λf g=>(xI .i64 λh=>(xB λj=>br (!j) (K (.tuple ⟨[.i 0,.b false]⟩)) (nn a λk=>lL k λl m p=>iY l m h 4 λn=>lI (n.add 2) λo=>K (.tuple ⟨[.i o,.b true]⟩))) g) f))
def qu(b:OA)(K:VK):WK:=nn b λs=>lL s λt u v=>(lp [.l t u v,.i 8] λq w=>∀j g k c o,q [.l j g k,.i c] o->(nn b λx=>lI (x.add 1) λy=>br (decide (c<(aa.wrap (3* (aa.wrap (y+1)))))) ((ct q w [.l j g k,.i (aa.wrap (c* 2))] [.l j g k,.i c] o)) (Lh 32 OR c c λz A B=>nn b λC=>st C (.l z A B) (nn b λD=>st (D.add 2) (.i 0) ((lp [.l j g k,.i (g:Int),.i 0] λp r=>∀d e h f a m,p [.l d e h,.i f,.i a] m->(br (decide (a<f)) (iY d e a 4 λE=>aJ E 4 λF=>mk OR λn=>bD 4 (ad n 0) F (lB (ad n 3) λG=>br (G==1) (aJ (ad n 0) 2 λH=>dm b H (x2 λI J=>(xI .i64 λM=>(xB λT=>tick (nn b λO=>lL O λP Q V=>aJ (ad n 0) 4 λR=>iY P Q M 4 λS=>bD 4 S R ((ct p r [.l d e h,.i f,.i (aa.wrap (a+1))] [.l d e h,.i f,.i a] m)))) J) I)) ((ct p r [.l d e h,.i f,.i (aa.wrap (a+1))] [.l d e h,.i f,.i a] m)))) (K (.tuple ⟨[]⟩))) m))))) o)
def dV.j2(K:VK)(a:OA)(e:Nat)(f d:Int):WK:=tick (nn a λg=>lL g λh j o=>aJ (ad e 0) 2 λc=>cu (c.length=2/\(1=1/\(1=1/\True))) (iY h j f 4 λk=>cu ((c++([.i d,.int .u8 1]:LV)).length=4) (jU k (c++([.i d,.int .u8 1]:LV)) (nn a λl=>lI (l.add 1) λm=>nn a λn=>st (n.add 1) (.i (aa.wrap (m+1))) (K (.b true))))))
def dV.j1(K:VK)(d:Nat)(a:OA)(e:Int):WK:=aJ (ad d 0) 2 λf=>dm a f (x2 λg h=>(xI .i64 λc=>(xB λj=>br j (nn a λk=>lL k λl m w=>iY l m c 4 λn=>st (n.add 2) (.i e) (K (.b false))) (nn a λo=>lL o λp q x=>iY p q c 4 λr=>lB (r.add 3) λs=>br (s==2) (nn a λt=>lI (t.add 2) λu=>nn a λv=>st (v.add 2) (.i (aa.wrap (u-1))) (dV.j2 K a d c e)) (dV.j2 K a d c e))) h) g)
def dV(a:OA)(e:LV)(c:Int)(K:VK):WK:=mk e λd=>br (a.isNone) (K (.b false)) (tick (nn a λf=>lI (f.add 1) λg=>nn a λh=>lI (h.add 2) λi=>nn a λj=>lL j λl k m=>br (decide ((aa.wrap (4* (aa.wrap ((aa.wrap (g+i))+1))))>(aa.wrap (3* (k:Int))))) (qu a (x0 (dV.j1 K d a c))) (dV.j1 K d a c)))
def iz(a:OA)(b:Value)(K:VK):WK:=br (!(a.isNone)) (nn a λc=>lL c λd e f=>cu ((fA b).length=1/\True) (mk ((fA b)++[]) λg=>iN 1 8 [.nilFunc] d e f (ah g) 1 λh i j=>nn a λk=>st k (.l h i j) (K (.tuple ⟨[]⟩)))) (K (.tuple ⟨[]⟩))
def cE(a b:Addr)(K:VK):WK:=tick (lP a λc=>lP a λd=>nn d λe=>lL e λf g h=>lI b λi=>rJ f g h 14 none (some i) λj k m=>nn c λn=>st n (.l j k m) (K (.tuple ⟨[]⟩)))
def cE.u:WP|[.pointer (some a),.pointer (some b)],K=>cE a b K|_,_=>no
def jb(j:OA)(k:LV)(K:VK):WK:=mk [.p j] λa=>mk k λm=>lP (ad a 0) λn=>br (n.isNone) (K (.i (-1))) (lP (ad a 0) λo=>nn o λq=>lL q λC r D=>mk [.i 0] λb=>st (ad b 0) (.i (r:Int)) (tick (lP (ad a 0) λc=>lP (ad a 0) λd=>nn d λe=>lL e λf g h=>aJ (ad m 0) 14 λs=>Kf 14 s λt=>kp e [.l f g h] (kp (ad a 0) [.p d] (kp (ad a 0) [.p c] (iN 14 112 eK f g h (ah t) 1 λu v w=>kp (ad a 0) [.p d] (kp (ad a 0) [.p c] (nn c λx=>st x (.l u v w) (lP (ad a 0) λy=>nn y λz=>lP (z.add 1) λA=>iz A (.func (.func N.cE) ⟨[]⟩ ⟨[.p (some (ad a 0)),.p (some (ad b 0))]⟩) (x0 (lI (ad b 0) λB=>K (.i B))))))))))))
def fL(a:Int)(c d:Addr)(K:VK):WK:=tick (lP c λe=>nn e λf=>lL f λg h l=>iY g h a 2 λi=>lI i λj=>lI d λk=>K (.b (decide (j>=k))))
def fL.u:WP|[.int .i64 a,.pointer (some b),.pointer (some c)],K=>fL a b c K|_,_=>no
def vg(g:Int)(h:Value)(K:VK):WK:=(lp [.i 0,.i 0,.i g] λe f=>∀c a b d,e [.i c,.i a,.i b] d->(br (decide (a<b)) (cu ((0:Int)<=1) (wN [(N.fL,fL.u)] h [.i (aa.wrap (shr .u64 (IntKind.u64.wrap (aa.wrap (a+b))) 1))] (xB λj=>br (!j) ((ct e f [.i c,.i (aa.wrap ((aa.wrap (shr .u64 (IntKind.u64.wrap (aa.wrap (a+b))) 1))+1)),.i b] [.i c,.i a,.i b] d)) ((ct e f [.i c,.i a,.i (aa.wrap (shr .u64 (IntKind.u64.wrap (aa.wrap (a+b))) 1))] [.i c,.i a,.i b] d))))) (K (.i a))) d)
def l9(b:OA)(c:Int)(K:VK):WK:=mk [.p b] λa=>mk [.i c] λd=>lP (ad a 0) λe=>nn e λf=>lL f λj g k=>vg (g:Int) (.func (.func N.fL) ⟨[]⟩ ⟨[.p (some (ad a 0)),.p (some (ad d 0))]⟩) (xI .i64 λh=>K (.i h))
def jx.j1(K:VK)(a:OA)(c d o:Int)(p:Bool):WK:=br p (nn a λq=>lL q λr s O=>iY r s c 2 λt=>st (t.add 1) (.i d) (K (.b false))) (nn a λu=>lL u λv w x=>cu True (cu (2=2/\True) (mk [.i 0,.i 0] λy=>iN 2 16 [.i 0,.i 0] v w x (ah y) 1 λz A B=>nn a λC=>st C (.l z A B) (tick (nn a λe=>lL e λf g h=>rJ f g h 2 (some (aa.wrap (c+1))) none λD E P=>nn a λj=>lL j λk m n=>rJ k m n 2 (some c) none λF G Q=>UJ 2 D E F G λm1=>kp j [.l k m n] (kp e [.l f g h] (nn a λH=>lL H λI J R=>cu (1=1/\(1=1/\True)) (iY I J c 2 λM=>cu (2=2) (jU M [.i o,.i d] (K (.b true)))))))))))
def jx(a:OA)(c e:Int)(K:VK):WK:=br (a.isNone) (K (.b false)) (l9 a c (xI .i64 λd=>nn a λf=>lL f λm g n=>br (decide (d<(g:Int))) (nn a λh=>lL h λi j o=>iY i j d 2 λk=>lI k λl=>jx.j1 K a d e c (l==c)) (jx.j1 K a d e c false)))
def gu(a:OA)(K:VK):WK:=br (a.isNone) (K (.i 0)) (nn a λb=>lL b λd c e=>K (.i (c:Int)))
def cZ(a b:Addr)(K:VK):WK:=tick (lP a λc=>lP a λd=>nn d λe=>lL e λf g h=>lI b λi=>rJ f g h 33 none (some i) λj k m=>nn c λn=>st n (.l j k m) (K (.tuple ⟨[]⟩)))
def cZ.u:WP|[.pointer (some a),.pointer (some b)],K=>cZ a b K|_,_=>no
def ka(j:OA)(k:LV)(K:VK):WK:=mk [.p j] λa=>mk k λm=>lP (ad a 0) λn=>br (n.isNone) (K (.i (-1))) (lP (ad a 0) λo=>nn o λq=>lL q λC r D=>mk [.i 0] λb=>st (ad b 0) (.i (r:Int)) (tick (lP (ad a 0) λc=>lP (ad a 0) λd=>nn d λe=>lL e λf g h=>aJ (ad m 0) 33 λs=>Kf 33 s λt=>kp e [.l f g h] (kp (ad a 0) [.p d] (kp (ad a 0) [.p c] (iN 33 264 cI f g h (ah t) 1 λu v w=>kp (ad a 0) [.p d] (kp (ad a 0) [.p c] (nn c λx=>st x (.l u v w) (lP (ad a 0) λy=>nn y λz=>lP (z.add 1) λA=>iz A (.func (.func N.cZ) ⟨[]⟩ ⟨[.p (some (ad a 0)),.p (some (ad b 0))]⟩) (x0 (lI (ad b 0) λB=>K (.i B))))))))))))
def uB(k:LV)(K:VK):WK:=mk k λa=>mk yu λd=>tick (lI (ad a 31) λe=>lI (ad a 26) λf=>lI (ad a 30) λg=>aJ (ad a 16) 2 λc=>cu (1=1/\(1=1/\(c.length=2/\True))) (lI (ad a 32) λh=>br (h==1) (lI (ad a 26) λj=>cu ((([.i (aa.wrap (e+f)),.i g]:LV)++(c++[])).length=4) (jU (ad d 0) (([.i (aa.wrap (e+f)),.i g]:LV)++(c++[])) (kp (ad a 26) [.i j] (kp (ad a 32) [.i h] (aJ (ad d 0) 4 λl=>K (.tuple ⟨[.agg ⟨l⟩,.b (decide (j>0))]⟩)))))) (cu ((([.i (aa.wrap (e+f)),.i g]:LV)++(c++[])).length=4) (jU (ad d 0) (([.i (aa.wrap (e+f)),.i g]:LV)++(c++[])) (kp (ad a 32) [.i h] (aJ (ad d 0) 4 λm=>K (.tuple ⟨[.agg ⟨m⟩,.b false]⟩)))))))
def rL(d e:LV)(K:VK):WK:=mk d λa=>mk e λc=>lI (ad a 0) λf=>lI (ad c 0) λg=>br (decide (f<g)) (K (.b true)) (lI (ad a 0) λh=>lI (ad c 0) λi=>br (h==i) (lI (ad a 1) λj=>lI (ad c 1) λk=>K (.b (decide (j<k)))) (K (.b false)))
def jv.j1(K:VK)(b:OA)(a:Int)(c:LI)(d:LM)(e:World)(f:Bool):WK:=br f (tick (nn b λg=>lL g λh j z=>nn b λk=>lL k λl m A=>cu ((2:Int)≠0) (nn b λn=>lL n λo p B=>cu ((2:Int)≠0) (iY o p (aa.wrap ((aa.wrap (a-1)).tdiv (2:Int))) 4 λq=>aJ q 4 λr=>nn b λs=>lL s λt u C=>iY t u a 4 λv=>aJ v 4 λw=>iY h j a 4 λx=>bD 4 x r (iY l m (aa.wrap ((aa.wrap (a-1)).tdiv (2:Int))) 4 λy=>bD 4 y w (cu ((2:Int)≠0) ((ct c d [.i (aa.wrap ((aa.wrap (a-1)).tdiv (2:Int)))] [.i a] e)))))))) (K (.tuple ⟨[]⟩))
def jv(b:OA)(n:Int)(K:VK):WK:=(lp [.i n] λd e=>∀a c,d [.i a] c->(tick (br (decide (a>0)) (nn b λf=>lL f λg h o=>iY g h a 4 λp=>aJ p 4 λq=>nn b λj=>lL j λk m r=>cu ((2:Int)≠0) (iY k m (aa.wrap ((aa.wrap (a-1)).tdiv (2:Int))) 4 λs=>aJ s 4 λt=>rL q t (xB λu=>kp j [.l k m r] (kp f [.l g h o] (jv.j1 K b a d e c u))))) (jv.j1 K b a d e c false))) c)
def l7(a:OA)(f:LV)(K:VK):WK:=mk f λg=>br (!(a.isNone)) (tick (nn a λb=>lL b λc d e=>aJ (ad g 0) 4 λh=>Kf 4 h λi=>kp b [.l c d e] (iN 4 32 yu c d e (ah i) 1 λj k m=>nn a λn=>st n (.l j k m) (nn a λo=>lL o λq p r=>jv a (aa.wrap ((p:Int) -1)) (x0 (K (.tuple ⟨[]⟩))))))) (K (.tuple ⟨[]⟩))
def eG.j2(K:VK)(a:OA)(b:Nat)(k:LI)(c:OA)(d:Int)(e:OA)(f g:Nat)(h j:Int)(m:LM)(n:World)(t:Bool):WK:=br t (K (.tuple ⟨[.p none,.i 1]⟩)) (tick (nn a λo=>lP (o.add 4) λq=>aJ (ad b 16) 2 λr=>nn a λu=>lP (u.add 2) λv=>aJ (ad b 0) 33 λw=>ka v w (xI .i64 λx=>kp (ad b 16) r (kp (o.add 4) [.p q] (dV q r x (xB λF=>aJ (ad b 0) 33 λy=>uB y (x2 λz A=>(xA 4 λB=>(xB λC=>mk yu λs=>bD 4 (ad s 0) B (br C (tick (nn a λD=>aJ (ad s 0) 4 λE=>l7 (some (D.add 6)) E (x0 ((ct k m [.p c,.i d,.p a,.l e f g,.i h,.i (aa.wrap (j+1))] [.p c,.i d,.p a,.l e f g,.i h,.i j] n))))) ((ct k m [.p c,.i d,.p a,.l e f g,.i h,.i (aa.wrap (j+1))] [.p c,.i d,.p a,.l e f g,.i h,.i j] n)))) A) z)))))))
def eG.j1(K:VK)(I J:OA)(B M:Nat)(O:OA)(C P:Nat)(Q R:Int)(S:Bool):WK:=br S (K (.tuple ⟨[.p none,.i 1]⟩)) ((lp [.p none,.i 0,.p I,.l J B M,.i (B:Int),.i 0] λD T=>∀r s c t u x v j y,D [.p r,.i s,.p c,.l t u x,.i v,.i j] y->(br (decide (j<v)) (iY t u j 14 λV=>aJ V 14 λW=>mk eK λk=>bD 14 (ad k 0) W (tick (nn c λX=>lP (X.add 3) λY=>aJ (ad k 0) 2 λZ=>ir Y Z (x2 λv1 v2=>(xI .i64 λn6=>(xB λb2=>br b2 (K (.tuple ⟨[.p none,.i 1]⟩)) (tick (nn c λE=>lP (E.add 3) λF=>aJ (ad k 0) 2 λG=>nn c λa4=>lP (a4.add 1) λp6=>aJ (ad k 0) 14 λJK=>jb p6 JK (xI .i64 λn7=>kp (ad k 0) G (kp (E.add 3) [.p F] (dV F G n7 (xB λb3=>(ct D T [.p r,.i s,.p c,.l t u x,.i v,.i (aa.wrap (j+1))] [.p r,.i s,.p c,.l t u x,.i v,.i j] y)))))))) v2) v1)))) ((lp [.p r,.i s,.p c,.l O C P,.i (C:Int),.i 0] λm w=>∀n o b e f q g d h,m [.p n,.i o,.p b,.l e f q,.i g,.i d] h->(br (decide (d<g)) (iY e f d 33 λa5=>aJ a5 33 λL8=>mk cI λa=>bD 33 (ad a 0) L8 (tick (nn b λa6=>lP (a6.add 4) λp9=>aJ (ad a 16) 2 λYc=>ir p9 Yc (x2 λv3 v4=>(xI .i64 λMK=>(xB λb4=>tick (br b4 (eG.j2 K b a m n o e f q g d w h true) (lI (ad a 32) λz=>br (decide (z<0)) (eG.j2 K b a m n o e f q g d w h true) (lI (ad a 32) λA=>br (decide (A>4)) (eG.j2 K b a m n o e f q g d w h true) (nn b λa10=>lI (ad a 30) λH=>nn b λa11=>lP (a11.add 2) λZi=>gu Zi (xI .i64 λyb=>kp (ad a 30) [.i H] (kp (ad a 32) [.i A] (kp (ad a 32) [.i z] (jx (some (a10.add 5)) H yb (xB λb8=>kp (ad a 32) [.i A] (kp (ad a 32) [.i z] (eG.j2 K b a m n o e f q g d w h (!b8))))))))))))) v4) v3)))) (nn b λa12=>st (a12.add 7) (.i Q) (nn b λa13=>st (a13.add 8) (.i R) (nn b λa14=>mS (some a14) (x0 (K (.tuple ⟨[.p b,.i 0]⟩))))))) h))) y))
def eG.j5(K:VK)(b c:OA)(d e:Nat)(f:OA)(g h:Nat)(i a:Int)(j:Bool):WK:=br j (eG.j1 K b c d e f g h i a true) (br (decide (a<0)) (eG.j1 K b c d e f g h i a true) (eG.j1 K b c d e f g h i a (decide (a>1099511627776))))
def eG.j4(K:VK)(b c:OA)(d e:Nat)(f:OA)(g h:Nat)(a i:Int)(j:Bool):WK:=br j (eG.j5 K b c d e f g h a i true) (eG.j5 K b c d e f g h a i (decide (a>1099511627776)))
def eG.j3(K:VK)(b c:OA)(d e:Nat)(f:OA)(g h:Nat)(a i:Int)(j:Bool):WK:=br j (eG.j4 K b c d e f g h a i true) (eG.j4 K b c d e f g h a i (decide (a<0)))
def eG(c:OA)(a d:Nat)(e:OA)(b f:Nat)(g h:Int)(K:VK):WK:=uC (xP λi=>br (decide ((a:Int)>32)) (eG.j3 K i c a d e b f g h true) (eG.j3 K i c a d e b f g h (decide ((b:Int)>96))))
def pa.j1(K:VK)(J:OA)(M O P Q:Int)(R:Bool):WK:=br R (K (.tuple ⟨[.p none,.i 4]⟩)) ((lp [.p none,.i 0,.p J,.i M,.i O,.i P,.l none 0 0,.i Q,.i 0] λF S=>∀c d b e f g h j k m n z,F [.p c,.i d,.p b,.i e,.i f,.i g,.l h j k,.i m,.i n] z->(br (decide (n<m)) (nR b (xA 14 λT=>Kf 14 T λV=>iN 14 112 eK h j k (ah V) 1 λW X Y=>(ct F S [.p c,.i d,.p b,.i e,.i f,.i g,.l W X Y,.i m,.i (aa.wrap (n+1))] [.p c,.i d,.p b,.i e,.i f,.i g,.l h j k,.i m,.i n] z))) ((lp [.p c,.i d,.p b,.i e,.i f,.l h j k,.l none 0 0,.i g,.i 0] λG Z=>∀A B a o q r s t u v w x y C,G [.p A,.i B,.p a,.i o,.i q,.l r s t,.l u v w,.i x,.i y] C->(br (decide (y<x)) (mP a (xA 16 λD=>mP a (xA 16 λE=>aL a 1 (xI .i64 λH=>cu (D.length=16/\(E.length=16/\(1=1/\True))) (cu ((D++(E++([.i H]:LV))).length=33/\True) (mk ((D++(E++([.i H]:LV)))++[]) λr2=>iN 33 264 cI u v w (ah r2) 1 λGC GB GP=>(ct G Z [.p A,.i B,.p a,.i o,.i q,.l r s t,.l GC GB GP,.i x,.i (aa.wrap (y+1))] [.p A,.i B,.p a,.i o,.i q,.l r s t,.l u v w,.i x,.i y] C))))))) (eG r s t u v w o q (x2 λv1 v2=>(xP λp6=>(xI .i64 λI=>br (I !=0) (K (.tuple ⟨[.p none,.i 4]⟩)) (ky a (xB λb2=>br (!b2) (K (.tuple ⟨[.p none,.i 4]⟩)) (K (.tuple ⟨[.p p6,.i I]⟩))))) v2) v1))) C))) z))
def pa(f:BA)(K:VK):WK:=oB f (xP λa=>aL a 1 (xI .i64 λg=>br (g !=1) (K (.tuple ⟨[.p none,.i 4]⟩)) (aL a 8 (xI .i64 λd=>aL a 8 (xI .i64 λe=>aL a 2 (xI .i64 λb=>aL a 2 (xI .i64 λc=>cF a (xB λh=>br h (pa.j1 K a d e c b true) (qn a (xI .i64 λj=>pa.j1 K a d e c b (j !=(aa.wrap ((aa.wrap (b* 96))+(aa.wrap (c* 217)))))))))))))))
def wX(c:OA)(e:LV)(K:VK):WK:=mk e λf=>mk zi4 λb=>rU c (x2 λg h=>(xA 4 λj=>(xB λk=>mk zi4 λa=>bD 4 (ad a 0) j (br (!k) (tick (aJ (ad a 0) 4 λd=>uC (xP λl=>kp (ad a 0) d (bD 4 (ad b 0) d (aJ (ad b 0) 4 λm=>K (.tuple ⟨[.p l,.agg ⟨m⟩,.i 0]⟩)))))) (aJ (ad f 0) 5 λn=>lI (ad a 0) λo=>lI (ad a 1) λq=>lI (ad a 2) λr=>qL n c o q r (x2 λs t=>(xS λu=>(xB λv=>br (!v) (tick (aJ (ad a 0) 4 λw=>bD 4 (ad b 0) w (aJ (ad b 0) 4 λx=>K (.tuple ⟨[.p none,.agg ⟨x⟩,.i 4]⟩)))) (pa u (x2 λy z=>(xP λA=>(xI .i64 λB=>tick (aJ (ad a 0) 4 λC=>bD 4 (ad b 0) C (aJ (ad b 0) 4 λD=>K (.tuple ⟨[.p A,.agg ⟨D⟩,.i B]⟩)))) z) y))) t) s)))) h) g)
def kK(f:OA)(n:Value)(K:VK):WK:=aL f 1 (xI .i64 λo=>(lp [.l none 0 0,.l none 0 0,.i o,.i 0] λm q=>∀g h j a b c d e k,m [.l g h j,.l a b c,.i d,.i e] k->(br (decide (e<d)) (cF f (xB λr=>br r (K (.l a b c)) (wN [(N.nR,nR.u),(N.aL,aL.u),(N.cF,cF.u)] n [.p f] (xA 14 λs=>Kf 14 s λt=>iN 14 112 eK a b c (ah t) 1 λv w x=>(ct m q [.l g h j,.l v w x,.i d,.i (aa.wrap (e+1))] [.l g h j,.l a b c,.i d,.i e] k))))) (K (.l a b c))) k))
def jZ(f:OA)(n:Value)(K:VK):WK:=aL f 1 (xI .i64 λo=>(lp [.l none 0 0,.l none 0 0,.i o,.i 0] λm q=>∀g h j a b c d e k,m [.l g h j,.l a b c,.i d,.i e] k->(br (decide (e<d)) (cF f (xB λr=>br r (K (.l a b c)) (wN [(N.aL,aL.u),(N.cF,cF.u),(N.mP,mP.u)] n [.p f] (xA 16 λs=>Kf 16 s λt=>iN 16 128 iD a b c (ah t) 1 λv w x=>(ct m q [.l g h j,.l v w x,.i d,.i (aa.wrap (e+1))] [.l g h j,.l a b c,.i d,.i e] k))))) (K (.l a b c))) k))
def mJ(c:OA)(K:VK):WK:=aL c 1 (xI .i64 λa=>br (!(c.isNone)) (br (decide (a>1)) (nn c λd=>st (d.add 1) (.b true) (K (.b (a==1)))) (K (.b (a==1)))) (K (.b (a==1))))
def pN(f:OA)(n:Value)(K:VK):WK:=aL f 1 (xI .i64 λo=>(lp [.l none 0 0,.l none 0 0,.i o,.i 0] λm q=>∀g h j a b c d e k,m [.l g h j,.l a b c,.i d,.i e] k->(br (decide (e<d)) (cF f (xB λr=>br r (K (.l a b c)) (wN [(N.aL,aL.u),(N.cV,cV.u),(N.cF,cF.u)] n [.p f] (xA 2 λs=>Kf 2 s λt=>iN 2 16 [.u 0,.u 0] a b c (ah t) 1 λv w x=>(ct m q [.l g h j,.l v w x,.i d,.i (aa.wrap (e+1))] [.l g h j,.l a b c,.i d,.i e] k))))) (K (.l a b c))) k))
def tG(d:LV)(K:VK):WK:=mk d λa=>lI (ad a 0) λc=>br (c==1) (lL (ad a 1) λk e l=>br (decide ((e:Int)>=1)) (lL (ad a 1) λm f n=>K (.b (decide ((f:Int)<=8)))) (K (.b false))) (br (c==2) (lL (ad a 2) λo g p=>br (decide ((g:Int)>=1)) (lL (ad a 2) λq h r=>K (.b (decide ((h:Int)<=8)))) (K (.b false))) (br (c==3) (lI (ad a 3) λi=>br (decide (i>=0)) (lI (ad a 3) λj=>K (.b (decide (j<=1099511627776)))) (K (.b false))) (K (.b false))))
def iv.j4(K:VK)(a:Nat)(c:Bool):WK:=br c (lT (ad a 4) λd=>br d (K (.b true)) (lT (ad a 5) λe=>K (.b e))) (K (.b false))
def iv.j3(K:VK)(a:Nat)(b:Bool):WK:=br b (lI (ad a 7) λc=>iv.j4 K a (decide (c<=16))) (iv.j4 K a false)
def iv.j2(K:VK)(a:Nat)(b:Bool):WK:=br b (lI (ad a 7) λc=>iv.j3 K a (decide (c>=1))) (iv.j3 K a false)
def iv.j1(K:VK)(c:Nat)(d:Int)(e:Bool):WK:=br e (lL (ad c 4) λk f l=>br (decide ((f:Int)>=1)) (lL (ad c 4) λm g n=>K (.b (decide ((g:Int)<=16)))) (K (.b false))) (br (d==6) (aJ (ad c 5) 8 λh=>mk Es λa=>bD 8 (ad a 0) h (lI (ad a 2) λi=>br (decide (i>=0)) (lI (ad a 3) λj=>iv.j2 K a (decide (j>=0))) (iv.j2 K a false))) (K (.b false)))
def iv(c:LV)(K:VK):WK:=mk c λb=>lI (ad b 0) λa=>br (a==4) (iv.j1 K b a (a==4)) (iv.j1 K b a (a==5))
def jt.j3(K:VK)(a:Nat)(c:Bool):WK:=br c (lI (ad a 12) λd=>br (decide (d>=0)) (lI (ad a 12) λe=>K (.b (decide (e<=65535)))) (K (.b false))) (K (.b false))
def jt.j2(K:VK)(a:Nat)(b:Bool):WK:=br b (lI (ad a 11) λc=>jt.j3 K a (decide (c<=65535))) (jt.j3 K a false)
def jt.j1(K:VK)(a:Nat)(b:Bool):WK:=br b (lI (ad a 11) λc=>jt.j2 K a (decide (c>=0))) (jt.j2 K a false)
def jt(b:LV)(K:VK):WK:=mk b λa=>lI (ad a 10) λc=>br (decide (c>=0)) (lI (ad a 10) λd=>jt.j1 K a (decide (d<=4294967295))) (jt.j1 K a false)
def fX.j5(K:VK)(a:Nat)(c:Bool):WK:=br c (lI (ad a 13) λd=>br (decide (d>=0)) (lI (ad a 13) λe=>K (.b (decide (e<=65535)))) (K (.b false))) (K (.b false))
def fX.j4(K:VK)(a:Nat)(b:Bool):WK:=br b (lI (ad a 12) λc=>fX.j5 K a (decide (c<=65535))) (fX.j5 K a false)
def fX.j3(K:VK)(a:Nat)(b:Bool):WK:=br b (lI (ad a 12) λc=>fX.j4 K a (decide (c>=0))) (fX.j4 K a false)
def fX.j2(K:VK)(a:Nat)(b:Bool):WK:=br b (lI (ad a 11) λc=>fX.j3 K a (decide (c<=4294967295))) (fX.j3 K a false)
def fX.j1(K:VK)(a:Nat)(b:Bool):WK:=br b (lI (ad a 11) λc=>fX.j2 K a (decide (c>=0))) (fX.j2 K a false)
def fX(b:LV)(K:VK):WK:=mk b λa=>lI (ad a 10) λc=>br (decide (c>=0)) (lI (ad a 10) λd=>fX.j1 K a (decide (d<=4294967295))) (fX.j1 K a false)
def pC.j1(K:VK)(k:Nat)(z:Bool):WK:=br z (K (.b false)) (lI (ad k 0) λs=>br (s==1) (lL (ad k 1) λA t B=>(lp [.b false,.l A t B,.i (t:Int),.i 0] λu C=>∀m d e n f a o,u [.b m,.l d e n,.i f,.i a] o->(br (decide (a<f)) (iY d e a 14 λD=>aJ D 14 λE=>mk eK λv=>bD 14 (ad v 0) E (aJ (ad v 0) 14 λF=>jt F (xB λG=>br (!G) (K (.b false)) ((ct u C [.b m,.l d e n,.i f,.i (aa.wrap (a+1))] [.b m,.l d e n,.i f,.i a] o))))) (K (.b true))) o)) (br (s==2) (lL (ad k 2) λH w I=>(lp [.b false,.l H w I,.i (w:Int),.i 0] λx J=>∀p g h q j c r,x [.b p,.l g h q,.i j,.i c] r->(br (decide (c<j)) (iY g h c 16 λM=>aJ M 16 λO=>mk iD λy=>bD 16 (ad y 0) O (aJ (ad y 0) 16 λP=>fX P (xB λQ=>br (!Q) (K (.b false)) ((ct x J [.b p,.l g h q,.i j,.i (aa.wrap (c+1))] [.b p,.l g h q,.i j,.i c] r))))) (K (.b true))) r)) (K (.b true))))
def pC(b:LV)(K:VK):WK:=mk b λa=>aJ (ad a 0) 13 λc=>tG c (xB λd=>br (!d) (aJ (ad a 0) 13 λe=>iv e (xB λf=>pC.j1 K a (!f))) (pC.j1 K a false))
def jI.j1(K:VK)(c:OA)(a b:Nat):WK:=ky c (xB λd=>br (!d) (cu True (cu (13=13) (jU (ad a 0) kU (aJ (ad a 0) 13 λe=>K (.tuple ⟨[.agg ⟨e⟩,.i 4]⟩))))) (aJ (ad b 0) 13 λf=>pC f (xB λg=>br (!g) (cu True (cu (13=13) (jU (ad a 0) kU (aJ (ad a 0) 13 λh=>K (.tuple ⟨[.agg ⟨h⟩,.i 4]⟩))))) (aJ (ad b 0) 13 λj=>bD 13 (ad a 0) j (aJ (ad a 0) 13 λk=>K (.tuple ⟨[.agg ⟨k⟩,.i 0]⟩))))))
def jI(o:BA)(K:VK):WK:=mk kU λd=>oB o (xP λa=>aL a 1 (xI .i64 λp=>cu (1=1/\True) (mk kU λc=>cu (13=13) (jU (ad c 0) [.i p,.l none 0 0,.l none 0 0,.i 0,.l none 0 0,.u 0,.u 0,.i 0,.i 0,.b false,.b false,.b false,.i 0] (lI (ad c 0) λe=>br (e==1) (kK a (.func (.func N.nR) ⟨[]⟩ ⟨[]⟩) (xL λq r s=>st (ad c 1) (.l q r s) (jI.j1 K a d c))) (br (e==2) (jZ a (.func (.func N.mP) ⟨[]⟩ ⟨[]⟩) (xL λt v w=>st (ad c 2) (.l t v w) (jI.j1 K a d c))) (br (e==3) (aL a 8 (xI .i64 λx=>st (ad c 3) (.i x) (jI.j1 K a d c))) (br (e==6) (cV a (xA 2 λf=>aL a 8 (xI .i64 λg=>aL a 8 (xI .i64 λh=>mJ a (xB λj=>mJ a (xB λk=>mJ a (xB λm=>aL a 1 (xI .i64 λn=>cu (f.length=2/\(1=1/\(1=1/\(1=1/\(1=1/\(1=1/\(1=1/\True))))))) (cu ((f++([.i g,.i h,.b j,.b k,.b m,.i n]:LV)).length=8) (jU (ad c 5) (f++([.i g,.i h,.b j,.b k,.b m,.i n]:LV)) (jI.j1 K a d c))))))))))) (pN a (.func (.func N.cV) ⟨[]⟩ ⟨[]⟩) (xL λy z A=>st (ad c 4) (.l y z A) (jI.j1 K a d c)))))))))))
def qS(c:LV)(K:VK):WK:=mk c λa=>lI (ad a 0) λd=>br (d==1) (K (.b true)) (lI (ad a 0) λe=>br (e==2) (K (.b true)) (lI (ad a 0) λf=>K (.b (f==3))))
def gU(a:LV)(K:VK):WK:=mk a λc=>lI (ad c 12) λd=>K (.b ((de .i64 .and d 1)!=0))
def gU.u:WP|[.agg ⟨a⟩],K=>gU a K|_,_=>no
def mC(o:OA)(f p:Nat)(q:Value)(K:VK):WK:=(lp [.i 0,.b false,.l o f p,.i (f:Int),.i 0] λm r=>∀g h c d j e a k,m [.i g,.b h,.l c d j,.i e,.i a] k->(br (decide (a<e)) (iY c d a 14 λs=>aJ s 14 λt=>mk eK λn=>bD 14 (ad n 0) t (aJ (ad n 0) 14 λv=>wN [(N.gU,gU.u)] q [.agg ⟨v⟩] (xB λw=>br (!w) (K (.tuple ⟨[.i (aa.wrap (a+1)),.b true]⟩)) ((ct m r [.i g,.b h,.l c d j,.i e,.i (aa.wrap (a+1))] [.i g,.b h,.l c d j,.i e,.i a] k))))) (K (.tuple ⟨[.i (f:Int),.b false]⟩))) k)
def jF(e:OA)(c m:Nat)(g h:Int)(K:VK):WK:=(lp [.i (c:Int),.i 0] λf j=>∀b a d,f [.i b,.i a] d->(br (decide (a<b)) (iY e c a 1 λk=>st k (.i 1) ((ct f j [.i b,.i (aa.wrap (a+1))] [.i b,.i a] d))) (iY e c g 1 λl=>st l (.i h) (K (.tuple ⟨[]⟩)))) d)
def jF.u:WP|[.slice a b c,.int .i64 d,.int .i64 e],K=>jF a b c d e K|_,_=>no
def gh(a:OA)(K:VK):WK:=br (a.isNone) (K (.i 0)) (nn a λb=>lL b λd c e=>K (.i (c:Int)))
def dQ.j1(K:VK)(c a:Nat)(d:OA)(e:Int)(f:Bool):WK:=br f (aJ (ad c 0) 14 λg=>bD 14 (ad a 0) g (aJ (ad a 0) 14 λh=>K (.tuple ⟨[.agg ⟨h⟩,.b false]⟩))) (nn d λi=>lL i λj k o=>iY j k e 14 λl=>aJ l 14 λm=>bD 14 (ad a 0) m (aJ (ad a 0) 14 λn=>K (.tuple ⟨[.agg ⟨n⟩,.b true]⟩)))
def dQ(b:OA)(a:Int)(K:VK):WK:=mk eK λc=>mk eK λd=>br (decide (a<0)) (dQ.j1 K d c b a true) (gh b (xI .i64 λe=>dQ.j1 K d c b a (decide (a>=e))))
def dR(c:OA)(d:LV)(K:VK):WK:=mk d λe=>mk eK λa=>br (c.isNone) (cu True (cu (14=14) (jU (ad a 0) eK (aJ (ad a 0) 14 λf=>K (.tuple ⟨[.agg ⟨f⟩,.b false]⟩))))) (tick (nn c λg=>lP (g.add 3) λh=>aJ (ad e 0) 2 λi=>ir h i (x2 λj k=>(xI .i64 λl=>(xB λm=>br (!m) (cu True (cu (14=14) (jU (ad a 0) eK (aJ (ad a 0) 14 λn=>K (.tuple ⟨[.agg ⟨n⟩,.b false]⟩))))) (nn c λo=>lP (o.add 1) λp=>dQ p l (x2 λq r=>(xA 14 λs=>(xB λt=>bD 14 (ad a 0) s (aJ (ad a 0) 14 λu=>K (.tuple ⟨[.agg ⟨u⟩,.b t]⟩))) r) q))) k) j)))
def iM(a:LV)(K:VK):WK:=mk a λc=>aJ (ad c 0) 2 λd=>cu True (rT [.u 0,.u 0] d [.u 0,.u 0] λe=>K (.b e))
def me.j2(K:VK)(a:Nat)(c:Bool):WK:=br c (aJ (ad a 8) 2 λd=>iM d (xB λe=>br e (lI (ad a 13) λf=>K (.b (f==0))) (K (.b false)))) (K (.b false))
def me.j1(K:VK)(a:Nat)(b:Bool):WK:=br b (aJ (ad a 6) 2 λc=>iM c (xB λd=>me.j2 K a d)) (me.j2 K a false)
def me(b:LV)(K:VK):WK:=mk b λa=>aJ (ad a 2) 2 λc=>iM c (xB λd=>br d (aJ (ad a 4) 2 λe=>iM e (xB λf=>me.j1 K a f)) (me.j1 K a false))
def qg.j1(K:VK)(a:Nat)(b:Bool):WK:=br b (K (.i 8)) (lI (ad a 11) λc=>br (decide (c<1)) (K (.i 9)) (lI (ad a 11) λd=>br (decide (d>65535)) (K (.i 9)) (K (.i 0))))
def qg(b:LV)(K:VK):WK:=mk b λa=>lI (ad a 12) λc=>br ((de .i64 .andNot c 7)!=0) (K (.i 3)) (aJ (ad a 0) 2 λd=>iM d (xB λe=>br e (K (.i 4)) (aJ (ad a 0) 2 λf=>aJ (ad N.tE 0) 2 λg=>rT [.u 0,.u 0] f g λh=>br h (K (.i 5)) (lI (ad a 12) λj=>br ((de .i64 .and j 6)==6) (K (.i 6)) (aJ (ad a 0) 14 λk=>me k (xB λl=>br (!l) (K (.i 7)) (lI (ad a 10) λm=>br (decide (m<1)) (qg.j1 K a true) (lI (ad a 10) λn=>qg.j1 K a (decide (n>4294967295))))))))))
def qh.j1(K:VK)(a b:Nat)(c:Bool):WK:=br c (lI (ad a 12) λd=>lI (ad b 12) λe=>br ((de .i64 .and d 6)==(de .i64 .and e 6)) (K (.i 10)) (K (.i 11))) (K (.i 11))
def qh(c d:LV)(K:VK):WK:=mk c λa=>mk d λb=>lI (ad a 10) λe=>lI (ad b 10) λf=>br (e==f) (lI (ad a 11) λg=>lI (ad b 11) λh=>qh.j1 K a b (g==h)) (qh.j1 K a b false)
def dZ(b:Addr)(K:VK):WK:=lP b λa=>nn a λc=>lI (c.add 8) λd=>nn a λe=>st (e.add 8) (.i (aa.wrap (d-1))) (K (.tuple ⟨[]⟩))
def dZ.u:WP|[.pointer (some a)],K=>dZ a K|_,_=>no
def oP(c:OA)(K:VK):WK:=mk [.p c] λa=>lP (ad a 0) λb=>nn b λd=>lI (d.add 8) λe=>nn b λf=>st (f.add 8) (.i (aa.wrap (e+1))) (lP (ad a 0) λg=>nn g λh=>iz (some h) (.func (.func N.dZ) ⟨[]⟩ ⟨[.p (some (ad a 0))]⟩) (x0 (lP (ad a 0) λj=>nn j λk=>lI (k.add 8) λl=>K (.i l))))
def oF(a:OA)(c:LV)(K:VK):WK:=mk c λd=>br (a.isNone) (K (.b false)) (aJ (ad d 0) 2 λe=>dm a e (x2 λf g=>(xI .i64 λh=>(xB λj=>br (!j) (K (.b false)) (nn a λk=>lL k λl m v=>cu (1=1/\True) (iY l m h 4 λn=>cu (4=4) (jU n [.u 0,.u 0,.i 0,.int .u8 2] (nn a λo=>lI (o.add 1) λp=>nn a λq=>st (q.add 1) (.i (aa.wrap (p-1))) (nn a λr=>lI (r.add 2) λs=>nn a λt=>st (t.add 2) (.i (aa.wrap (s+1))) (K (.b true)))))))) g) f))
def eo(a c:Addr)(K:VK):WK:=tick (lP a λb=>nn b λd=>lP (d.add 3) λe=>aJ c 2 λf=>oF e f (xB λg=>kp a [.p b] (K (.tuple ⟨[]⟩))))
def eo.u:WP|[.pointer (some a),.pointer (some b)],K=>eo a b K|_,_=>no
def mO(k:OA)(l:LV)(K:VK):WK:=mk [.p k] λa=>mk l λb=>lP (ad a 0) λm=>br (m.isNone) (K (.i 2)) (lP (ad a 0) λn=>nn n λo=>lP (o.add 1) λq=>gh q (xI .i64 λr=>br (decide (r>=32)) (K (.i 6)) (tick (lP (ad a 0) λe=>nn e λs=>lP (s.add 3) λt=>aJ (ad b 0) 2 λu=>ir t u (x2 λv w=>(xI .i64 λI=>(xB λx=>kp (ad a 0) [.p e] (br x (K (.i 1)) (lP (ad a 0) λy=>oP y (xI .i64 λz=>st (ad b 13) (.i z) (tick (lP (ad a 0) λc=>nn c λf=>lP (f.add 3) λg=>aJ (ad b 0) 2 λh=>lP (ad a 0) λd=>nn d λA=>lP (A.add 1) λB=>gh B (xI .i64 λC=>kp (ad a 0) [.p d] (kp (ad b 0) h (kp (f.add 3) [.p g] (kp (ad a 0) [.p c] (dV g h C (xB λJ=>kp (ad a 0) [.p d] (kp (ad a 0) [.p c] (lP (ad a 0) λD=>nn D λE=>iz (some E) (.func (.func N.eo) ⟨[]⟩ ⟨[.p (some (ad a 0)),.p (some (ad b 0))]⟩) (x0 (tick (lP (ad a 0) λj=>nn j λF=>lP (F.add 1) λG=>aJ (ad b 0) 14 λH=>jb G H (xI .i64 λM=>kp (ad a 0) [.p j] (K (.i 0)))))))))))))))))))) w) v)))))
def ma(b:OA)(e:LV)(K:VK):WK:=mk e λa=>aJ (ad a 0) 14 λf=>qg f (xI .i64 λc=>br (c !=0) (K (.i c)) (aJ (ad a 0) 2 λg=>dR b g (x2 λh j=>(xA 14 λk=>(xB λl=>mk eK λd=>bD 14 (ad d 0) k (br l (aJ (ad a 0) 14 λm=>aJ (ad d 0) 14 λn=>qh m n (xI .i64 λo=>K (.i o))) (lI (ad a 12) λp=>st (ad a 12) (.i (de .i64 .andNot p 1)) (aJ (ad a 0) 14 λq=>mO b q (xI .i64 λr=>br (r !=0) (K (.i 35)) (K (.i 0))))))) j) h)))
def ma.u:WP|[.pointer a,.agg ⟨b⟩],K=>ma a b K|_,_=>no
def sT(a:OA)(K:VK):WK:=br (a.isNone) (K (.i 0)) (nn a λb=>lL b λd c e=>K (.i (c:Int)))
def fH(a:OA)(K:VK):WK:=br (a.isNone) (K (.i 0)) (nn a λb=>sT (some b) (xI .i64 λc=>K (.i c)))
def fH.u:WP|[.pointer a],K=>fH a K|_,_=>no
def ef(a b:Addr)(K:VK):WK:=lP b λc=>lI a λd=>nn c λe=>st (e.add 7) (.i d) (K (.tuple ⟨[]⟩))
def ef.u:WP|[.pointer (some a),.pointer (some b)],K=>ef a b K|_,_=>no
def fj(a c:Addr)(K:VK):WK:=tick (lP a λb=>nn b λd=>aJ c 4 λe=>l7 (some (d.add 6)) e (x0 (kp a [.p b] (K (.tuple ⟨[]⟩)))))
def fj.u:WP|[.pointer (some a),.pointer (some b)],K=>fj a b K|_,_=>no
def jB.j1(K:VK)(a:OA)(c:Int)(n:Bool):WK:=br n (K (.b false)) (tick (nn a λd=>lL d λe f g=>rJ e f g 2 none (some c) λo p q=>nn a λh=>lL h λj k m=>rJ j k m 2 (some (aa.wrap (c+1))) none λr s x=>iN 2 16 [.i 0,.i 0] o p q r s λt u v=>kp h [.l j k m] (kp d [.l e f g] (nn a λw=>st w (.l t u v) (K (.b true))))))
def jB(a:OA)(d:Int)(K:VK):WK:=br (a.isNone) (K (.b false)) (l9 a d (xI .i64 λc=>nn a λe=>lL e λl f m=>br (c==(f:Int)) (jB.j1 K a c true) (nn a λg=>lL g λh i n=>iY h i c 2 λj=>lI j λk=>jB.j1 K a c (k !=d))))
def eE(a d e:Addr)(K:VK):WK:=tick (lP a λb=>nn b λf=>lP (f.add 4) λg=>aJ d 2 λh=>oF g h (xB λk=>kp a [.p b] (tick (lP a λc=>nn c λi=>lI (e.add 30) λj=>jB (some (i.add 5)) j (xB λl=>kp a [.p c] (K (.tuple ⟨[]⟩)))))))
def eE.u:WP|[.pointer (some a),.pointer (some b),.pointer (some c)],K=>eE a b c K|_,_=>no
def fG.j1(K:VK)(a:OA)(d:LI)(e:LM)(f:Int)(g:World)(c b:Int):WK:=br (b==c) (K (.tuple ⟨[]⟩)) (tick (nn a λh=>lL h λj k A=>nn a λl=>lL l λm n B=>nn a λo=>lL o λp q C=>iY p q b 4 λr=>aJ r 4 λs=>nn a λt=>lL t λu v D=>iY u v c 4 λw=>aJ w 4 λx=>iY j k c 4 λy=>bD 4 y s (iY m n b 4 λz=>bD 4 z x ((ct d e [.i b] [.i f] g)))))
def fG.j2(K:VK)(d:OA)(a b:Int)(e:LI)(c:Int)(f:LM)(g:World)(p:LI)(q:LM)(r:Int)(s:World)(t:Bool):WK:=br t (tick (nn d λh=>lL h λj k u=>iY j k a 4 λv=>aJ v 4 λw=>nn d λm=>lL m λn o x=>iY n o b 4 λy=>aJ y 4 λz=>rL w z (xB λA=>kp m [.l n o x] (kp h [.l j k u] (br A ((ct e f [.i c,.i a,.i (aa.wrap (a+1))] [.i c,.i b,.i a] g)) ((ct e f [.i c,.i b,.i (aa.wrap (a+1))] [.i c,.i b,.i a] g))))))) (fG.j1 K d p q r s c b)
def fG(f:OA)(m:Int)(K:VK):WK:=(lp [.i m] λg k=>∀a c,g [.i a] c->((lp [.i a,.i a,.i (aa.wrap ((aa.wrap (2* a))+1))] λh l=>∀d j b e,h [.i d,.i j,.i b] e->(br (decide (b<=(aa.wrap ((aa.wrap (2* d))+2)))) (nn f λn=>lL n λp o q=>fG.j2 K f b j h d l e g k a c (decide (b<(o:Int)))) (fG.j2 K f b j h d l e g k a c false)) e)) c)
def qt(a:OA)(b:Int)(K:VK):WK:=mk yu λd=>tick (nn a λg=>lL g λh i o=>iY h i b 4 λj=>aJ j 4 λk=>nn a λe=>lL e λm c n=>mk yu λf=>kp e [.l m c n] (kp j k (kp g [.l h i o] (bD 4 (ad f 0) k (kp e [.l m c n] (tick (nn a λp=>lL p λq r M=>nn a λs=>lL s λt u O=>iY t u (aa.wrap ((c:Int) -1)) 4 λv=>aJ v 4 λw=>iY q r b 4 λx=>bD 4 x w (nn a λy=>lL y λz A B=>rJ z A B 4 none (some (aa.wrap ((c:Int) -1))) λC D E=>nn a λF=>st F (.l C D E) (br (decide (b<(aa.wrap ((c:Int) -1)))) (fG a b (x0 (jv a b (x0 (aJ (ad f 0) 4 λG=>bD 4 (ad d 0) G (aJ (ad d 0) 4 λH=>K (.agg ⟨H⟩))))))) (aJ (ad f 0) 4 λI=>bD 4 (ad d 0) I (aJ (ad d 0) 4 λJ=>K (.agg ⟨J⟩))))))))))))
def mK(f:OA)(o:Int)(K:VK):WK:=br (f.isNone) (K (.b false)) (nn f λp=>lL p λq k r=>(lp [.b false,.l q k r,.i (k:Int),.i 0] λm s=>∀g c d h e a j,m [.b g,.l c d h,.i e,.i a] j->(br (decide (a<e)) (iY c d a 4 λt=>aJ t 4 λu=>mk yu λn=>bD 4 (ad n 0) u (lI (ad n 1) λv=>br (v==o) (qt f a (xA 4 λw=>K (.b true))) ((ct m s [.b g,.l c d h,.i e,.i (aa.wrap (a+1))] [.b g,.l c d h,.i e,.i a] j)))) (K (.b false))) j))
def eu(a c:Addr)(K:VK):WK:=tick (lP a λb=>nn b λd=>lI (c.add 1) λe=>mK (some (d.add 6)) e (xB λf=>kp a [.p b] (K (.tuple ⟨[]⟩))))
def eu.u:WP|[.pointer (some a),.pointer (some b)],K=>eu a b K|_,_=>no
def cD(a b c:Addr)(K:VK):WK:=tick (lP b λd=>nn d λe=>lL e λf g k=>lI c λh=>aJ a 14 λi=>iY f g h 14 λj=>bD 14 j i (K (.tuple ⟨[]⟩)))
def cD.u:WP|[.pointer (some a),.pointer (some b),.pointer (some c)],K=>cD a b c K|_,_=>no
def cY(a b c:Addr)(K:VK):WK:=tick (lP b λd=>nn d λe=>lL e λf g k=>lI c λh=>aJ a 33 λi=>iY f g h 33 λj=>bD 33 j i (K (.tuple ⟨[]⟩)))
def cY.u:WP|[.pointer (some a),.pointer (some b),.pointer (some c)],K=>cY a b c K|_,_=>no
def sU(a:OA)(e:Int)(K:VK):WK:=br (a.isNone) (K (.tuple ⟨[]⟩)) ((lp [] λc f=>∀b,c [] b->(nn a λg=>lL g λy h z=>br (decide ((h:Int)>(max2 e 0))) (nn a λi=>lL i λA d B=>nn a λj=>lL j λk m C=>iY k m (aa.wrap ((d:Int) -1)) 1 λn=>ld n λo=>wN [(N.fj,fj.u),(N.eE,eE.u),(N.eu,eu.u),(N.eo,eo.u),(N.ef,ef.u),(N.dZ,dZ.u),(N.cE,cE.u),(N.cD,cD.u),(N.cZ,cZ.u),(N.cY,cY.u)] o [] (x0 (nn a λp=>lL p λq r s=>rJ q r s 1 none (some (aa.wrap ((d:Int) -1))) λt v w=>nn a λx=>st x (.l t v w) ((ct c f [] [] b))))) (K (.tuple ⟨[]⟩))) b))
def fI(a:OA)(b:Int)(K:VK):WK:=br (!(a.isNone)) (nn a λc=>sU (some c) b (x0 (K (.tuple ⟨[]⟩)))) (K (.tuple ⟨[]⟩))
def fI.u:WP|[.pointer a,.int .i64 b],K=>fI a b K|_,_=>no
def nd(f o:OA)(j q:Nat)(r:OA)(s t:Nat)(v:Value)(K:VK):WK:=fH f (xI .i64 λw=>(lp [.i w,.l o j q,.i (j:Int),.i 0] λk x=>∀b c d g e a h,k [.i b,.l c d g,.i e,.i a] h->(br (decide (a<e)) (iY c d a 14 λy=>aJ y 14 λz=>mk eK λm=>bD 14 (ad m 0) z (aJ (ad m 0) 14 λA=>wN [(N.fI,fI.u),(N.fH,fH.u),(N.ma,ma.u),(N.jF,jF.u)] v [.p f,.agg ⟨A⟩] (xI .i64 λn=>br (n !=0) (fI f b (x0 (jF r s t a n (x0 (K (.tuple ⟨[]⟩)))))) ((ct k x [.i b,.l c d g,.i e,.i (aa.wrap (a+1))] [.i b,.l c d g,.i e,.i a] h))))) (K (.tuple ⟨[]⟩))) h))
def pH(t n:OA)(e o:Nat)(u v:Value)(K:VK):WK:=Lh 8 [.i 0] (e:Int) (e:Int) λw x y=>(lp [.l none 0 0,.l w x y,.i 0] λm p=>∀f g h b c d a k,m [.l f g h,.l b c d,.i a] k->(br (decide (a<(e:Int))) (rJ n e o 14 (some a) none λz A B=>mC z A B (u) (x2 λC D=>(xI .i64 λj=>(xB λE=>rJ b c d 1 (some a) (some (aa.wrap (a+j))) λq r s=>br (!E) (jF q r s (aa.wrap (j-1)) 2 (x0 ((ct m p [.l f g h,.l b c d,.i (aa.wrap (a+j))] [.l f g h,.l b c d,.i a] k)))) (rJ n e o 14 (some a) (some (aa.wrap (a+j))) λF G H=>nd t F G H q r s (v) (x0 ((ct m p [.l f g h,.l b c d,.i (aa.wrap (a+j))] [.l f g h,.l b c d,.i a] k))))) D) C)) (K (.l b c d))) k)
def rW(a b:OA)(c d:Nat)(K:VK):WK:=pH a b c d (.func (.func N.gU) ⟨[]⟩ ⟨[]⟩) (.func (.func N.ma) ⟨[]⟩ ⟨[]⟩) (xL λe f g=>K (.l e f g))
def gw(a:LV)(K:VK):WK:=mk a λc=>lI (ad c 13) λd=>K (.b ((de .i64 .and d 1)!=0))
def gw.u:WP|[.agg ⟨a⟩],K=>gw a K|_,_=>no
def lQ(o:OA)(f p:Nat)(q:Value)(K:VK):WK:=(lp [.i 0,.b false,.l o f p,.i (f:Int),.i 0] λm r=>∀g h c d j e a k,m [.i g,.b h,.l c d j,.i e,.i a] k->(br (decide (a<e)) (iY c d a 16 λs=>aJ s 16 λt=>mk iD λn=>bD 16 (ad n 0) t (aJ (ad n 0) 16 λv=>wN [(N.gw,gw.u)] q [.agg ⟨v⟩] (xB λw=>br (!w) (K (.tuple ⟨[.i (aa.wrap (a+1)),.b true]⟩)) ((ct m r [.i g,.b h,.l c d j,.i e,.i (aa.wrap (a+1))] [.i g,.b h,.l c d j,.i e,.i a] k))))) (K (.tuple ⟨[.i (f:Int),.b false]⟩))) k)
def sx(a:LV)(K:VK):WK:=mk a λc=>lI (ad c 13) λd=>K (.b ((de .i64 .and d 12)!=0))
def mo(a:LV)(K:VK):WK:=mk a λc=>lI (ad c 13) λd=>K (.b ((de .i64 .and d 2)!=0))
def kV.j1(K:VK)(a:Addr)(c:Bool):WK:=br c (lI (a.add 13) λd=>br ((de .i64 .and d 192)==0) (K (.b true)) (aJ a 16 λe=>mo e (xB λf=>K (.b f)))) (K (.b false))
def kV(k:LV)(K:VK):WK:=mk k λl=>cu (1=1/\(1=1/\(1=1/\True))) ((lp [.p (some (ad l 0)),.b false,.i 0,.agg ⟨[.i 2,.i 4,.i 8]⟩,.i 0] λh j=>∀a f d e c g,h [.p (some a),.b f,.i d,.agg ⟨e⟩,.i c] g->(br (decide (c<3)) (Dg e 3 c (xI .i64 λm=>lI (a.add 13) λn=>br ((de .i64 .and n m)!=0) ((ct h j [.p (some a),.b f,.i (aa.wrap (d+1)),.agg ⟨e⟩,.i (aa.wrap (c+1))] [.p (some a),.b f,.i d,.agg ⟨e⟩,.i c] g)) ((ct h j [.p (some a),.b f,.i d,.agg ⟨e⟩,.i (aa.wrap (c+1))] [.p (some a),.b f,.i d,.agg ⟨e⟩,.i c] g)))) (br (decide (d<=1)) (aJ a 16 λo=>sx o (xB λq=>br q (lI (a.add 13) λr=>kV.j1 K a (!((de .i64 .and r 240)!=0))) (kV.j1 K a true))) (kV.j1 K a false))) g))
def oV.j1(K:VK)(a:Nat)(b:Bool):WK:=br b (K (.i 8)) (lI (ad a 12) λc=>br (decide (c<0)) (K (.i 9)) (lI (ad a 12) λd=>br (decide (d>65535)) (K (.i 9)) (K (.i 0))))
def oV(b:LV)(K:VK):WK:=mk b λa=>aJ (ad a 8) 2 λc=>iM c (xB λd=>br d (K (.i 16)) (lI (ad a 11) λe=>br (decide (e<0)) (oV.j1 K a true) (lI (ad a 11) λf=>oV.j1 K a (decide (f>4294967295)))))
def qJ(a:LV)(K:VK):WK:=mk a λc=>lI (ad c 13) λd=>K (.b ((de .i64 .and d 48)!=0))
def kx.j2(K:VK)(a:Nat)(b:Bool):WK:=br b (K (.i 8)) (lI (ad a 12) λc=>br (decide (c<1)) (K (.i 9)) (lI (ad a 12) λd=>br (decide (d>65535)) (K (.i 9)) (K (.i 0))))
def kx.j1(K:VK)(a:Nat)(b:Bool):WK:=br b (K (.i 18)) (lI (ad a 11) λc=>br (decide (c<1)) (kx.j2 K a true) (lI (ad a 11) λd=>kx.j2 K a (decide (d>4294967295))))
def kx(b:LV)(K:VK):WK:=mk b λa=>aJ (ad a 2) 2 λc=>iM c (xB λd=>br d (K (.i 12)) (aJ (ad a 4) 2 λe=>iM e (xB λf=>br f (K (.i 13)) (aJ (ad a 2) 2 λg=>aJ (ad a 4) 2 λh=>rT [.u 0,.u 0] g h λj=>br j (K (.i 14)) (aJ (ad a 8) 2 λk=>iM k (xB λl=>br (!l) (K (.i 15)) (aJ (ad a 6) 2 λm=>iM m (xB λn=>br n (aJ (ad a 0) 16 λo=>qJ o (xB λp=>kx.j1 K a (!p))) (kx.j1 K a false)))))))))
def fy.j3(K:VK)(a:Nat)(b:Bool):WK:=br b (K (.i 17)) (aJ (ad a 0) 16 λc=>sx c (xB λd=>br d (aJ (ad a 0) 16 λe=>oV e (xI .i64 λf=>K (.i f))) (aJ (ad a 0) 16 λg=>kx g (xI .i64 λh=>K (.i h)))))
def fy.j4(K:VK)(a:Nat)(b:Bool):WK:=br b (fy.j3 K a true) (lI (ad a 10) λc=>br (c !=0) (aJ (ad a 0) 16 λd=>mo d (xB λe=>fy.j3 K a (!e))) (fy.j3 K a false))
def fy.j2(K:VK)(a:Nat)(b:Bool):WK:=br b (K (.i 7)) (lI (ad a 10) λc=>br (decide (c<0)) (fy.j4 K a true) (lI (ad a 10) λd=>fy.j4 K a (decide (d>1073741824))))
def fy.j1(K:VK)(a:Nat)(b:Bool):WK:=br b (K (.i 3)) (aJ (ad a 0) 2 λc=>iM c (xB λd=>br d (K (.i 4)) (aJ (ad a 0) 2 λe=>aJ (ad N.tE 0) 2 λf=>rT [.u 0,.u 0] e f λg=>br g (K (.i 5)) (aJ (ad a 0) 16 λh=>kV h (xB λj=>br (!j) (K (.i 6)) (lI (ad a 14) λk=>br (k !=0) (fy.j2 K a true) (lI (ad a 15) λl=>fy.j2 K a (l !=0))))))))
def fy(b:LV)(K:VK):WK:=mk b λa=>lI (ad a 13) λc=>br (decide (c<0)) (fy.j1 K a true) (lI (ad a 13) λd=>fy.j1 K a (decide (d>255)))
def dO.j1(K:VK)(c a:Nat)(d:OA)(e:Int)(f:Bool):WK:=br f (aJ (ad c 0) 33 λg=>bD 33 (ad a 0) g (aJ (ad a 0) 33 λh=>K (.tuple ⟨[.agg ⟨h⟩,.b false]⟩))) (nn d λi=>lL i λj k o=>iY j k e 33 λl=>aJ l 33 λm=>bD 33 (ad a 0) m (aJ (ad a 0) 33 λn=>K (.tuple ⟨[.agg ⟨n⟩,.b true]⟩)))
def dO(b:OA)(a:Int)(K:VK):WK:=mk cI λc=>mk cI λd=>br (decide (a<0)) (dO.j1 K d c b a true) (gu b (xI .i64 λe=>dO.j1 K d c b a (decide (a>=e))))
def iB(c:OA)(d:LV)(K:VK):WK:=mk d λe=>mk cI λa=>br (c.isNone) (cu True (cu (33=33) (jU (ad a 0) cI (aJ (ad a 0) 33 λf=>K (.tuple ⟨[.agg ⟨f⟩,.b false]⟩))))) (tick (nn c λg=>lP (g.add 4) λh=>aJ (ad e 0) 2 λi=>ir h i (x2 λj k=>(xI .i64 λl=>(xB λm=>br (!m) (cu True (cu (33=33) (jU (ad a 0) cI (aJ (ad a 0) 33 λn=>K (.tuple ⟨[.agg ⟨n⟩,.b false]⟩))))) (nn c λo=>lP (o.add 2) λp=>dO p l (x2 λq r=>(xA 33 λs=>(xB λt=>bD 33 (ad a 0) s (aJ (ad a 0) 33 λu=>K (.tuple ⟨[.agg ⟨u⟩,.b t]⟩))) r) q))) k) j)))
def kD(e:OA)(f:Int)(g:LV)(K:VK):WK:=mk [.p e] λa=>mk [.i f] λc=>mk g λh=>lP (ad a 0) λj=>lI (ad c 0) λk=>dQ j k (x2 λl m=>(xA 14 λn=>(xB λo=>mk eK λd=>bD 14 (ad d 0) n (br (!o) (K (.b false)) (tick (lP (ad a 0) λq=>nn q λr=>lL r λs t A=>lI (ad c 0) λu=>aJ (ad h 0) 14 λv=>iY s t u 14 λw=>bD 14 w v (lP (ad a 0) λx=>nn x λy=>lP (y.add 1) λz=>iz z (.func (.func N.cD) ⟨[]⟩ ⟨[.p (some (ad d 0)),.p (some (ad a 0)),.p (some (ad c 0))]⟩) (x0 (K (.b true)))))))) m) l)
def kR(a:OA)(d:LV)(K:VK):WK:=mk d λb=>aJ (ad b 0) 2 λe=>dR a e (x2 λf g=>(xA 14 λh=>(xB λj=>mk eK λc=>bD 14 (ad c 0) h (br (a.isNone) (K (.i 2)) (br (!j) (K (.i 5)) (tick (nn a λk=>lP (k.add 3) λl=>aJ (ad b 0) 2 λm=>ir l m (x2 λn o=>(xI .i64 λp=>(xB λu=>lI (ad c 13) λq=>st (ad b 13) (.i q) (tick (nn a λr=>lP (r.add 1) λs=>aJ (ad b 0) 14 λt=>kD s p t (xB λv=>K (.i 0))))) o) n)))))) g) f)
def uH(d e:LV)(K:VK):WK:=mk d λb=>mk e λa=>tick (lI (ad b 13) λf=>lI (ad a 13) λc=>st (ad b 13) (.i (de .i64 .andNot f 1)) (kp (ad a 13) [.i c] (st (ad a 13) (.i (de .i64 .andNot c 1)) (aJ (ad b 0) 16 λg=>aJ (ad a 0) 16 λh=>rT iD g h λj=>br j (K (.i 10)) (K (.i 11))))))
def zi(g:OA)(h:LV)(K:VK):WK:=mk h λd=>mk oU λa=>aJ (ad d 2) 2 λj=>dR g j (x2 λk l=>(xA 14 λm=>(xB λn=>mk eK λb=>bD 14 (ad b 0) m (aJ (ad d 4) 2 λo=>dR g o (x2 λp q=>(xA 14 λr=>(xB λs=>mk eK λc=>bD 14 (ad c 0) r (br (!n) (cu True (cu (28=28) (jU (ad a 0) oU (aJ (ad a 0) 28 λt=>K (.tuple ⟨[.agg ⟨t⟩,.i 19]⟩))))) (br (!s) (cu True (cu (28=28) (jU (ad a 0) oU (aJ (ad a 0) 28 λu=>K (.tuple ⟨[.agg ⟨u⟩,.i 20]⟩))))) (lI (ad b 10) λv=>lI (ad c 10) λw=>br (v !=w) (cu True (cu (28=28) (jU (ad a 0) oU (aJ (ad a 0) 28 λx=>K (.tuple ⟨[.agg ⟨x⟩,.i 21]⟩))))) (lI (ad b 10) λy=>lI (ad d 11) λz=>br (y !=z) (cu True (cu (28=28) (jU (ad a 0) oU (aJ (ad a 0) 28 λA=>K (.tuple ⟨[.agg ⟨A⟩,.i 22]⟩))))) (lI (ad b 12) λB=>br ((de .i64 .and B 8)!=0) (cu True (cu (28=28) (jU (ad a 0) oU (aJ (ad a 0) 28 λC=>K (.tuple ⟨[.agg ⟨C⟩,.i 30]⟩))))) (lI (ad c 12) λD=>br ((de .i64 .and D 8)!=0) (cu True (cu (28=28) (jU (ad a 0) oU (aJ (ad a 0) 28 λE=>K (.tuple ⟨[.agg ⟨E⟩,.i 31]⟩))))) (aJ (ad b 0) 14 λe=>aJ (ad c 0) 14 λf=>cu (e.length=14/\(f.length=14/\True)) (cu ((e++(f++[])).length=28) (jU (ad a 0) (e++(f++[])) (aJ (ad a 0) 28 λF=>K (.tuple ⟨[.agg ⟨F⟩,.i 0]⟩)))))))))))) q) p))) l) k)
def oQ(a:OA)(K:VK):WK:=br (!(a.isNone)) (nn a λc=>lP (c.add 2) λd=>gu d (xI .i64 λe=>K (.b (decide (e<96))))) (K (.b false))
def tY(c d:LV)(K:VK):WK:=mk c λa=>mk d λb=>aJ (ad a 0) 2 λe=>aJ (ad b 0) 2 λf=>rT [.u 0,.u 0] e f λg=>br g (K (.i 0)) (lU (ad a 0) λh=>lU (ad b 0) λj=>br (decide (h<j)) (K (.i (-1))) (lU (ad a 0) λk=>lU (ad b 0) λl=>br (k==l) (lU (ad a 1) λm=>lU (ad b 1) λn=>br (decide (m<n)) (K (.i (-1))) (K (.i 1))) (K (.i 1))))
def rr(a c:LV)(K:VK):WK:=mk a λd=>mk c λe=>aJ (ad d 0) 2 λf=>aJ (ad e 0) 2 λg=>tY f g (xI .i64 λh=>K (.b (decide (h<0))))
def yx(d e:LV)(K:VK):WK:=mk d λb=>mk e λc=>mk [.u 0,.u 0] λa=>aJ (ad c 0) 2 λf=>aJ (ad b 0) 2 λg=>rr f g (xB λh=>br h (aJ (ad c 0) 2 λi=>bD 2 (ad a 0) i (aJ (ad a 0) 2 λj=>K (.agg ⟨j⟩))) (aJ (ad b 0) 2 λk=>bD 2 (ad a 0) k (aJ (ad a 0) 2 λl=>K (.agg ⟨l⟩))))
def pY(e f:LV)(K:VK):WK:=mk e λc=>mk f λd=>mk [.u 0,.u 0] λa=>aJ (ad c 0) 2 λg=>aJ (ad d 0) 2 λh=>rr g h (xB λi=>br i (cu True (cu (2=2) (jU (ad a 0) [.u 0,.u 0] (aJ (ad a 0) 2 λj=>K (.tuple ⟨[.agg ⟨j⟩,.b false]⟩))))) (lU (ad c 1) λk=>lU (ad d 1) λl=>rj k l 0 (x2 λm n=>(xI .u64 λo=>(xI .u64 λp=>lU (ad c 0) λq=>lU (ad d 0) λr=>rj q r p (x2 λs t=>(xI .u64 λv=>(xI .u64 λx=>cu (1=1/\(1=1/\True)) (cu (2=2) (jU (ad a 0) [.u v,.u o] (aJ (ad a 0) 2 λw=>K (.tuple ⟨[.agg ⟨w⟩,.b true]⟩))))) t) s)) n) m)))
def pZ(e f:LV)(K:VK):WK:=mk e λc=>mk f λd=>mk [.u 0,.u 0] λa=>lU (ad c 1) λg=>lU (ad d 1) λh=>rl g h 0 (x2 λi j=>(xI .u64 λk=>(xI .u64 λl=>lU (ad c 0) λm=>lU (ad d 0) λn=>rl m n l (x2 λo p=>(xI .u64 λq=>(xI .u64 λr=>br (r !=0) (cu True (cu (2=2) (jU (ad a 0) [.u 0,.u 0] (aJ (ad a 0) 2 λs=>K (.tuple ⟨[.agg ⟨s⟩,.b false]⟩))))) (cu (1=1/\(1=1/\True)) (cu (2=2) (jU (ad a 0) [.u q,.u k] (aJ (ad a 0) 2 λt=>K (.tuple ⟨[.agg ⟨t⟩,.b true]⟩)))))) p) o)) j) i)
def jh(c d:LV)(K:VK):WK:=mk c λe=>mk d λf=>mk [.u 0,.u 0] λa=>aJ (ad e 0) 2 λg=>aJ (ad f 0) 2 λh=>pZ g h (x2 λi j=>(xA 2 λk=>(xB λl=>mk [.u 0,.u 0] λb=>bD 2 (ad b 0) k (br (!l) (aJ (ad N.tE 0) 2 λm=>bD 2 (ad a 0) m (aJ (ad a 0) 2 λn=>K (.agg ⟨n⟩))) (aJ (ad b 0) 2 λo=>bD 2 (ad a 0) o (aJ (ad a 0) 2 λp=>K (.agg ⟨p⟩))))) j) i)
def dH.j1(K:VK)(c d a:Nat):WK:=aJ (ad c 0) 2 λe=>aJ (ad d 0) 2 λf=>pY e f (x2 λg h=>(xA 2 λi=>(xB λl=>mk [.u 0,.u 0] λb=>bD 2 (ad b 0) i (aJ (ad b 0) 2 λj=>bD 2 (ad a 0) j (aJ (ad a 0) 2 λk=>K (.agg ⟨k⟩)))) h) g)
def dH.j2(K:VK)(c d a:Nat):WK:=aJ (ad c 0) 2 λe=>aJ (ad d 0) 2 λf=>pY e f (x2 λg h=>(xA 2 λi=>(xB λl=>mk [.u 0,.u 0] λb=>bD 2 (ad b 0) i (aJ (ad b 0) 2 λj=>bD 2 (ad a 0) j (aJ (ad a 0) 2 λk=>K (.agg ⟨k⟩)))) h) g)
def dH.j3(K:VK)(c d a:Nat):WK:=aJ (ad c 0) 2 λe=>aJ (ad d 0) 2 λf=>pY e f (x2 λg h=>(xA 2 λi=>(xB λl=>mk [.u 0,.u 0] λb=>bD 2 (ad b 0) i (aJ (ad b 0) 2 λj=>bD 2 (ad a 0) j (aJ (ad a 0) 2 λk=>K (.agg ⟨k⟩)))) h) g)
def dH.j4(K:VK)(c d a:Nat):WK:=aJ (ad c 0) 2 λe=>aJ (ad d 0) 2 λf=>pY e f (x2 λg h=>(xA 2 λi=>(xB λl=>mk [.u 0,.u 0] λb=>bD 2 (ad b 0) i (aJ (ad b 0) 2 λj=>bD 2 (ad a 0) j (aJ (ad a 0) 2 λk=>K (.agg ⟨k⟩)))) h) g)
def dH.j5(K:VK)(c d a:Nat):WK:=aJ (ad c 0) 2 λe=>aJ (ad d 0) 2 λf=>pY e f (x2 λg h=>(xA 2 λi=>(xB λl=>mk [.u 0,.u 0] λb=>bD 2 (ad b 0) i (aJ (ad b 0) 2 λj=>bD 2 (ad a 0) j (aJ (ad a 0) 2 λk=>K (.agg ⟨k⟩)))) h) g)
def dH.j6(K:VK)(c d a:Nat):WK:=aJ (ad c 0) 2 λe=>aJ (ad d 0) 2 λf=>pY e f (x2 λg h=>(xA 2 λi=>(xB λl=>mk [.u 0,.u 0] λb=>bD 2 (ad b 0) i (aJ (ad b 0) 2 λj=>bD 2 (ad a 0) j (aJ (ad a 0) 2 λk=>K (.agg ⟨k⟩)))) h) g)
def dH(y:LV)(h:Bool)(K:VK):WK:=mk y λa=>mk [.u 0,.u 0] λc=>tick (aJ (ad a 4) 2 λb=>aJ (ad a 6) 2 λd=>aJ (ad a 8) 2 λe=>both (jh d e (xA 2 λq=>kp (ad a 4) b (both (mk [.u 0,.u 0] λi=>kp (ad a 4) b (mk [.u 0,.u 0] λj=>kp (ad a 4) b (bD 2 (ad i 0) b (bD 2 (ad j 0) q (br h (tick (aJ (ad a 8) 2 λr=>aJ (ad a 2) 2 λz=>aJ (ad a 4) 2 λA=>jh z A (xA 2 λB=>kp (ad a 8) r (bD 2 (ad i 0) r (bD 2 (ad j 0) B (dH.j1 K i j c)))))) (dH.j1 K i j c)))))) (mk [.u 0,.u 0] λk=>kp (ad a 4) b (mk [.u 0,.u 0] λl=>kp (ad a 4) b (bD 2 (ad l 0) b (bD 2 (ad k 0) q (br h (tick (aJ (ad a 8) 2 λs=>aJ (ad a 2) 2 λC=>aJ (ad a 4) 2 λD=>jh C D (xA 2 λE=>kp (ad a 8) s (bD 2 (ad l 0) s (bD 2 (ad k 0) E (dH.j2 K l k c)))))) (dH.j2 K l k c))))))))) (both (mk [.u 0,.u 0] λf=>kp (ad a 8) e (kp (ad a 6) d (kp (ad a 4) b (both (jh d e (xA 2 λF=>kp (ad a 4) b (mk [.u 0,.u 0] λm=>kp (ad a 4) b (bD 2 (ad f 0) b (bD 2 (ad m 0) F (br h (tick (aJ (ad a 8) 2 λt=>aJ (ad a 2) 2 λG=>aJ (ad a 4) 2 λH=>jh G H (xA 2 λI=>kp (ad a 8) t (bD 2 (ad f 0) t (bD 2 (ad m 0) I (dH.j3 K f m c)))))) (dH.j3 K f m c))))))) (mk [.u 0,.u 0] λn=>kp (ad a 8) e (kp (ad a 6) d (kp (ad a 4) b (jh d e (xA 2 λJ=>kp (ad a 4) b (bD 2 (ad f 0) b (bD 2 (ad n 0) J (br h (tick (aJ (ad a 8) 2 λv=>aJ (ad a 2) 2 λM=>aJ (ad a 4) 2 λO=>jh M O (xA 2 λP=>kp (ad a 8) v (bD 2 (ad f 0) v (bD 2 (ad n 0) P (dH.j4 K f n c)))))) (dH.j4 K f n c))))))))))))) (mk [.u 0,.u 0] λg=>kp (ad a 8) e (kp (ad a 6) d (kp (ad a 4) b (both (jh d e (xA 2 λQ=>kp (ad a 4) b (mk [.u 0,.u 0] λo=>kp (ad a 4) b (bD 2 (ad o 0) b (bD 2 (ad g 0) Q (br h (tick (aJ (ad a 8) 2 λw=>aJ (ad a 2) 2 λR=>aJ (ad a 4) 2 λS=>jh R S (xA 2 λT=>kp (ad a 8) w (bD 2 (ad o 0) w (bD 2 (ad g 0) T (dH.j5 K o g c)))))) (dH.j5 K o g c))))))) (mk [.u 0,.u 0] λp=>kp (ad a 8) e (kp (ad a 6) d (kp (ad a 4) b (jh d e (xA 2 λV=>kp (ad a 4) b (bD 2 (ad p 0) b (bD 2 (ad g 0) V (br h (tick (aJ (ad a 8) 2 λx=>aJ (ad a 2) 2 λW=>aJ (ad a 4) 2 λX=>jh W X (xA 2 λY=>kp (ad a 8) x (bD 2 (ad p 0) x (bD 2 (ad g 0) Y (dH.j6 K p g c)))))) (dH.j6 K p g c)))))))))))))))
def gv.j3(K:VK)(d a e b:Nat):WK:=lI (ad d 13) λf=>br ((de .i64 .and f 32)!=0) (tick (aJ (ad a 0) 2 λc=>aJ (ad e 14) 14 λg=>dH g false (xA 2 λh=>kp (ad a 0) c (yx c h (xA 2 λj=>bD 2 (ad a 0) j (aJ (ad a 0) 2 λk=>iM k (xB λl=>br l (aJ (ad a 0) 2 λm=>bD 2 (ad b 0) m (aJ (ad b 0) 2 λn=>K (.tuple ⟨[.agg ⟨n⟩,.i 34]⟩))) (aJ (ad a 0) 2 λo=>bD 2 (ad b 0) o (aJ (ad b 0) 2 λp=>K (.tuple ⟨[.agg ⟨p⟩,.i 0]⟩)))))))))) (aJ (ad a 0) 2 λq=>bD 2 (ad b 0) q (aJ (ad b 0) 2 λr=>K (.tuple ⟨[.agg ⟨r⟩,.i 0]⟩)))
def gv.j2(K:VK)(c a d b:Nat):WK:=lI (ad c 13) λf=>br ((de .i64 .and f 16)!=0) (tick (aJ (ad a 0) 2 λe=>aJ (ad d 0) 14 λg=>dH g true (xA 2 λh=>kp (ad a 0) e (yx e h (xA 2 λj=>bD 2 (ad a 0) j (aJ (ad a 0) 2 λk=>iM k (xB λl=>br l (aJ (ad a 0) 2 λm=>bD 2 (ad b 0) m (aJ (ad b 0) 2 λn=>K (.tuple ⟨[.agg ⟨n⟩,.i 33]⟩))) (gv.j3 K c a d b)))))))) (gv.j3 K c a d b)
def gv.j1(K:VK)(a b c d:Nat)(e:Bool):WK:=br e (aJ (ad N.tE 0) 2 λf=>bD 2 (ad a 0) f (gv.j2 K b a c d)) (gv.j2 K b a c d)
def gv(e f:LV)(K:VK):WK:=mk e λc=>mk f λa=>mk [.u 0,.u 0] λd=>aJ (ad a 6) 2 λg=>mk [.u 0,.u 0] λb=>bD 2 (ad b 0) g (aJ (ad a 0) 16 λh=>qJ h (xB λi=>br i (aJ (ad b 0) 2 λj=>iM j (xB λk=>gv.j1 K b a c d k)) (gv.j1 K b a c d false)))
def yw(q:OA)(m r:Nat)(K:VK):WK:=mk [.u 0,.u 0] λs=>mk [.u 0,.u 0] λt=>(lp [.p (some (ad s 0)),.b false,.p (some (ad t 0)),.l q m r,.i (m:Int),.i 0] λn v=>∀a h c e f j g d k,n [.p (some a),.b h,.p (some c),.l e f j,.i g,.i d] k->(br (decide (d<g)) (iY e f d 2 λw=>aJ w 2 λx=>mk [.u 0,.u 0] λo=>bD 2 (ad o 0) x (aJ c 2 λy=>aJ (ad o 0) 2 λz=>pZ y z (x2 λA B=>(xA 2 λC=>(xB λD=>bD 2 c C (br (!D) (cu True (cu (2=2) (jU a [.u 0,.u 0] (aJ a 2 λE=>K (.tuple ⟨[.agg ⟨E⟩,.b false]⟩))))) ((ct n v [.p (some a),.b h,.p (some c),.l e f j,.i g,.i (aa.wrap (d+1))] [.p (some a),.b h,.p (some c),.l e f j,.i g,.i d] k)))) B) A))) (aJ c 2 λF=>bD 2 a F (aJ a 2 λG=>K (.tuple ⟨[.agg ⟨G⟩,.b true]⟩)))) k)
def nN.j1(K:VK)(a b:Nat)(d:Bool)(c:Nat)(e:Bool):WK:=br e (aJ (ad a 0) 14 λf=>bD 14 (ad b 0) f (aJ (ad b 0) 14 λg=>K (.tuple ⟨[.agg ⟨g⟩,.i 33]⟩))) (br d (aJ (ad a 2) 2 λh=>aJ (ad c 0) 2 λj=>pZ h j (x2 λk l=>(xA 2 λm=>(xB λw=>bD 2 (ad a 2) m (aJ (ad a 0) 14 λn=>bD 14 (ad b 0) n (aJ (ad b 0) 14 λo=>K (.tuple ⟨[.agg ⟨o⟩,.i 0]⟩)))) l) k)) (aJ (ad a 4) 2 λp=>aJ (ad c 0) 2 λq=>pZ p q (x2 λr s=>(xA 2 λt=>(xB λx=>bD 2 (ad a 4) t (aJ (ad a 0) 14 λu=>bD 14 (ad b 0) u (aJ (ad b 0) 14 λv=>K (.tuple ⟨[.agg ⟨v⟩,.i 0]⟩)))) s) r)))
def nN(k l:LV)(e:Bool)(K:VK):WK:=mk k λa=>mk l λb=>mk eK λc=>aJ (ad a 2) 2 λf=>aJ (ad a 4) 2 λg=>aJ (ad b 0) 2 λh=>cu (f.length=2/\(g.length=2/\(h.length=2/\True))) (mk (f++(g++(h++[]))) λm=>yw (ah m) 3 3 (x2 λn o=>(xA 2 λp=>(xB λq=>mk [.u 0,.u 0] λr=>bD 2 (ad r 0) p (br (!q) (aJ (ad a 0) 14 λs=>bD 14 (ad c 0) s (aJ (ad c 0) 14 λt=>K (.tuple ⟨[.agg ⟨t⟩,.i 32]⟩))) (tick (lI (ad a 12) λd=>br ((de .i64 .and d 2)!=0) (aJ (ad a 0) 14 λv=>aJ (ad b 0) 2 λj=>dH v true (xA 2 λw=>kp (ad b 0) j (kp (ad a 12) [.i d] (rr w j (xB λx=>kp (ad a 12) [.i d] (nN.j1 K a c e b x)))))) (nN.j1 K a c e b false))))) o) n))
def mD.j1(K:VK)(a b:Nat)(d:Bool)(c:Nat)(e:Bool):WK:=br e (aJ (ad a 0) 14 λf=>bD 14 (ad b 0) f (aJ (ad b 0) 14 λg=>K (.tuple ⟨[.agg ⟨g⟩,.i 34]⟩))) (br d (aJ (ad a 6) 2 λh=>aJ (ad c 0) 2 λj=>pZ h j (x2 λk l=>(xA 2 λm=>(xB λw=>bD 2 (ad a 6) m (aJ (ad a 0) 14 λn=>bD 14 (ad b 0) n (aJ (ad b 0) 14 λo=>K (.tuple ⟨[.agg ⟨o⟩,.i 0]⟩)))) l) k)) (aJ (ad a 8) 2 λp=>aJ (ad c 0) 2 λq=>pZ p q (x2 λr s=>(xA 2 λt=>(xB λx=>bD 2 (ad a 8) t (aJ (ad a 0) 14 λu=>bD 14 (ad b 0) u (aJ (ad b 0) 14 λv=>K (.tuple ⟨[.agg ⟨v⟩,.i 0]⟩)))) s) r)))
def mD(k l:LV)(e:Bool)(K:VK):WK:=mk k λa=>mk l λb=>mk eK λc=>aJ (ad a 6) 2 λf=>aJ (ad a 8) 2 λg=>aJ (ad b 0) 2 λh=>cu (f.length=2/\(g.length=2/\(h.length=2/\True))) (mk (f++(g++(h++[]))) λm=>yw (ah m) 3 3 (x2 λn o=>(xA 2 λp=>(xB λq=>mk [.u 0,.u 0] λr=>bD 2 (ad r 0) p (br (!q) (aJ (ad a 0) 14 λs=>bD 14 (ad c 0) s (aJ (ad c 0) 14 λt=>K (.tuple ⟨[.agg ⟨t⟩,.i 32]⟩))) (tick (lI (ad a 12) λd=>br ((de .i64 .and d 4)!=0) (aJ (ad a 0) 14 λv=>aJ (ad b 0) 2 λj=>dH v false (xA 2 λw=>kp (ad b 0) j (kp (ad a 12) [.i d] (rr w j (xB λx=>kp (ad a 12) [.i d] (mD.j1 K a c e b x)))))) (mD.j1 K a c e b false))))) o) n))
def iC.j1(K:VK)(a b g:Nat):WK:=tick (lP (ad a 0) λn=>lP (ad a 0) λc=>nn c λd=>lI (d.add 7) λe=>oP n (xI .i64 λo=>kp (d.add 7) [.i e] (kp (ad a 0) [.p c] (st (ad b 30) (.i o) (kp (d.add 7) [.i e] (kp (ad a 0) [.p c] (st (ad b 31) (.i e) (tick (lP (ad a 0) λh=>nn h λq=>lP (q.add 2) λr=>aJ (ad b 0) 33 λs=>ka r s (xI .i64 λj=>kp (ad a 0) [.p h] (tick (lP (ad a 0) λk=>nn k λt=>lP (t.add 4) λu=>aJ (ad g 0) 2 λv=>dV u v j (xB λJ=>kp (ad a 0) [.p k] (tick (lP (ad a 0) λl=>nn l λw=>lI (ad b 30) λx=>jx (some (w.add 5)) x j (xB λM=>kp (ad a 0) [.p l] (lP (ad a 0) λy=>nn y λz=>iz (some z) (.func (.func N.eE) ⟨[]⟩ ⟨[.p (some (ad a 0)),.p (some (ad g 0)),.p (some (ad b 0))]⟩) (x0 (aJ (ad b 0) 33 λA=>uB A (x2 λB C=>(xA 4 λD=>(xB λE=>mk yu λf=>bD 4 (ad f 0) D (br E (tick (lP (ad a 0) λm=>nn m λF=>aJ (ad f 0) 4 λG=>l7 (some (F.add 6)) G (x0 (kp (ad a 0) [.p m] (lP (ad a 0) λH=>nn H λI=>iz (some I) (.func (.func N.eu) ⟨[]⟩ ⟨[.p (some (ad a 0)),.p (some (ad f 0))]⟩) (x0 (K (.i 0)))))))) (K (.i 0)))) C) B))))))))))))))))))))
def iC(g:OA)(h j:LV)(k:Bool)(K:VK):WK:=mk [.p g] λa=>mk h λl=>mk j λb=>lP (ad a 0) λm=>br (m.isNone) (K (.i 2)) (lP (ad a 0) λn=>nn n λo=>lP (o.add 2) λq=>gu q (xI .i64 λr=>br (decide (r>=96)) (K (.i 6)) (tick (lP (ad a 0) λf=>nn f λs=>lP (s.add 4) λt=>aJ (ad b 0) 2 λu=>ir t u (x2 λv w=>(xI .i64 λy=>(xB λx=>kp (ad a 0) [.p f] (br x (K (.i 1)) (aJ (ad l 0) 16 λd=>aJ (ad b 0) 16 λe=>cu (d.length=16/\(e.length=16/\True)) (mk cI λc=>cu ((d++(e++([.i 0]:LV))).length=33) (jU (ad c 0) (d++(e++([.i 0]:LV))) (br k (st (ad c 32) (.i 1) (iC.j1 K a c b)) (iC.j1 K a c b))))))) w) v)))))
def pQ.j2(K:VK)(d:Nat)(c:OA)(a g:Nat):WK:=aJ (ad d 0) 14 λh=>kR c h (xI .i64 λo=>aJ (ad d 14) 14 λj=>kR c j (xI .i64 λp=>aJ (ad a 0) 16 λk=>mk iD λb=>bD 16 (ad b 0) k (aJ (ad g 0) 2 λl=>bD 2 (ad b 6) l (tick (aJ (ad a 0) 16 λe=>aJ (ad b 0) 16 λf=>aJ (ad a 0) 16 λm=>mo m (xB λn=>kp (ad b 0) f (kp (ad a 0) e (iC c e f n (xI .i64 λq=>K (.i 0))))))))))
def pQ.j1(K:VK)(b a:Nat)(c:OA)(d:Nat):WK:=lI (ad b 13) λe=>br ((de .i64 .and e 128)!=0) (lI (ad a 26) λf=>st (ad a 26) (.i (de .i64 .or f 8)) (pQ.j2 K a c b d)) (pQ.j2 K a c b d)
def pQ(d:OA)(p:LV)(K:VK):WK:=mk p λb=>aJ (ad b 0) 16 λq=>fy q (xI .i64 λe=>br (e !=0) (K (.i e)) (aJ (ad b 0) 16 λr=>sx r (xB λs=>br s (K (.i 6)) (aJ (ad b 0) 2 λt=>iB d t (x2 λv w=>(xA 33 λx=>(xB λy=>mk cI λf=>bD 33 (ad f 0) x (br y (aJ (ad b 0) 16 λz=>aJ (ad f 0) 16 λA=>uH z A (xI .i64 λB=>K (.i B))) (aJ (ad b 0) 16 λC=>zi d C (x2 λD E=>(xA 28 λF=>(xI .i64 λg=>mk oU λa=>bD 28 (ad a 0) F (br (g !=0) (K (.i g)) (oQ d (xB λG=>br (!G) (K (.i 35)) (aJ (ad a 0) 28 λH=>aJ (ad b 0) 16 λI=>gv H I (x2 λJ M=>(xA 2 λO=>(xI .i64 λh=>mk [.u 0,.u 0] λc=>bD 2 (ad c 0) O (br (h !=0) (K (.i h)) (tick (aJ (ad a 0) 14 λj=>aJ (ad c 0) 2 λk=>aJ (ad b 0) 16 λP=>mo P (xB λQ=>kp (ad c 0) k (kp (ad a 0) j (nN j k Q (x2 λR S=>(xA 14 λT=>(xI .i64 λl=>bD 14 (ad a 0) T (br (l !=0) (K (.i l)) (tick (aJ (ad a 14) 14 λm=>aJ (ad c 0) 2 λn=>aJ (ad b 0) 16 λV=>mo V (xB λW=>kp (ad c 0) n (kp (ad a 14) m (mD m n W (x2 λX Y=>(xA 14 λZ=>(xI .i64 λo=>bD 14 (ad a 14) Z (br (o !=0) (K (.i o)) (lI (ad b 13) λn7=>br ((de .i64 .and n7 64)!=0) (lI (ad a 12) λVE=>st (ad a 12) (.i (de .i64 .or VE 8)) (pQ.j1 K b a d c)) (pQ.j1 K b a d c)))) Y) X)))))))) S) R)))))))) M) J)))))) E) D)))) w) v)))))
def mr(e:OA)(f:Int)(g:LV)(K:VK):WK:=mk [.p e] λa=>mk [.i f] λc=>mk g λh=>lP (ad a 0) λj=>lI (ad c 0) λk=>dO j k (x2 λl m=>(xA 33 λn=>(xB λo=>mk cI λd=>bD 33 (ad d 0) n (br (!o) (K (.b false)) (tick (lP (ad a 0) λq=>nn q λr=>lL r λs t A=>lI (ad c 0) λu=>aJ (ad h 0) 33 λv=>iY s t u 33 λw=>bD 33 w v (lP (ad a 0) λx=>nn x λy=>lP (y.add 1) λz=>iz z (.func (.func N.cY) ⟨[]⟩ ⟨[.p (some (ad d 0)),.p (some (ad a 0)),.p (some (ad c 0))]⟩) (x0 (K (.b true)))))))) m) l)
def dc.j4(K:VK)(a e b:Nat)(f:Int):WK:=tick (lP (ad a 0) λc=>nn c λg=>lP (g.add 4) λh=>aJ (ad e 0) 2 λj=>ir h j (x2 λk l=>(xI .i64 λm=>(xB λr=>kp (ad a 0) [.p c] (st (ad b 32) (.i f) (tick (lP (ad a 0) λd=>nn d λn=>lP (n.add 2) λo=>aJ (ad b 0) 33 λq=>mr o m q (xB λs=>kp (ad a 0) [.p d] (K (.i 0))))))) l) k))
def dc.j3(K:VK)(a e b c:Nat)(d:Int)(f:Bool):WK:=br f (lP (ad a 0) λg=>nn g λh=>iz (some h) (.func (.func N.fj) ⟨[]⟩ ⟨[.p (some (ad a 0)),.p (some (ad e 0))]⟩) (x0 (dc.j4 K a b c d))) (dc.j4 K a b c d)
def dc.j2(K:VK)(c a d:Nat)(e:Int)(g:Bool):WK:=br g (K (.i 1)) (aJ (ad c 0) 33 λh=>uB h (x2 λj k=>(xA 4 λl=>(xB λm=>mk yu λb=>bD 4 (ad b 0) l (tick (br m (lP (ad a 0) λf=>nn f λn=>lI (ad b 1) λo=>mK (some (n.add 6)) o (xB λq=>kp (ad a 0) [.p f] (dc.j3 K a b d c e q))) (dc.j3 K a b d c e false)))) k) j))
def dc.j1(K:VK)(a:Int)(b c d:Nat)(e:Bool):WK:=br e (K (.i 5)) (br (decide (a<=1)) (dc.j2 K b c d a true) (dc.j2 K b c d a (decide (a>4))))
def dc(e:OA)(f:LV)(d:Int)(K:VK):WK:=mk [.p e] λa=>mk f λc=>lP (ad a 0) λg=>aJ (ad c 0) 2 λh=>iB g h (x2 λj k=>(xA 33 λl=>(xB λm=>mk cI λb=>bD 33 (ad b 0) l (lP (ad a 0) λn=>br (n.isNone) (K (.i 2)) (br (!m) (dc.j1 K d b a c true) (lI (ad b 32) λo=>dc.j1 K d b a c (o !=1))))) k) j)
def dW.j1(K:VK)(b:Nat)(a:OA)(c d:Nat)(e:Int):WK:=aJ (ad b 0) 14 λf=>kR a f (xI .i64 λi=>aJ (ad c 0) 14 λg=>kR a g (xI .i64 λj=>aJ (ad d 0) 2 λh=>dc a h e (xI .i64 λk=>K (.tuple ⟨[]⟩))))
def dW.j2(K:VK)(b a c:Nat)(d:OA)(e:Int):WK:=lI (ad b 13) λf=>br ((de .i64 .and f 128)!=0) (lI (ad a 12) λg=>st (ad a 12) (.i (de .i64 .andNot g 8)) (dW.j1 K c d a b e)) (dW.j1 K c d a b e)
def dW(d:OA)(g h:LV)(e:Int)(K:VK):WK:=mk g λb=>mk h λf=>aJ (ad b 2) 2 λj=>dR d j (x2 λk l=>(xA 14 λm=>(xB λQ=>mk eK λa=>bD 14 (ad a 0) m (aJ (ad b 4) 2 λn=>dR d n (x2 λo p=>(xA 14 λq=>(xB λR=>mk eK λc=>bD 14 (ad c 0) q (aJ (ad a 2) 2 λr=>aJ (ad b 6) 2 λs=>pY r s (x2 λt u=>(xA 2 λv=>(xB λS=>bD 2 (ad a 2) v (aJ (ad c 6) 2 λw=>aJ (ad b 6) 2 λx=>pY w x (x2 λy z=>(xA 2 λA=>(xB λT=>bD 2 (ad c 6) A (br (e==2) (aJ (ad a 4) 2 λB=>aJ (ad f 0) 2 λC=>pZ B C (x2 λD E=>(xA 2 λF=>(xB λV=>bD 2 (ad a 4) F (aJ (ad c 8) 2 λG=>aJ (ad f 0) 2 λH=>pZ G H (x2 λI J=>(xA 2 λM=>(xB λW=>bD 2 (ad c 8) M (dW.j1 K a d c b e)) J) I))) E) D)) (lI (ad b 13) λO=>br ((de .i64 .and O 64)!=0) (lI (ad a 12) λP=>st (ad a 12) (.i (de .i64 .andNot P 8)) (dW.j2 K b c a d e)) (dW.j2 K b c a d e)))) z) y))) u) t))) p) o))) l) k)
def dW.u:WP|[.pointer a,.agg ⟨b⟩,.agg ⟨c⟩,.int .i64 d],K=>dW a b c d K|_,_=>no
def gF.j3(K:VK)(a c:Nat)(d:Bool):WK:=br d (lI (ad a 12) λe=>br (e==0) (K (.b true)) (lI (ad a 12) λf=>lI (ad c 12) λg=>K (.b (f==g)))) (K (.b false))
def gF.j2(K:VK)(a b:Nat)(c:Bool):WK:=br c (lI (ad a 11) λd=>br (d==0) (gF.j3 K a b true) (lI (ad a 11) λe=>lI (ad b 11) λf=>gF.j3 K a b (e==f))) (gF.j3 K a b false)
def gF.j1(K:VK)(a b:Nat)(c:Bool):WK:=br c (aJ (ad a 4) 2 λd=>iM d (xB λe=>br e (gF.j2 K a b true) (aJ (ad a 4) 2 λf=>aJ (ad b 4) 2 λg=>rT [.u 0,.u 0] f g λh=>gF.j2 K a b h))) (gF.j2 K a b false)
def gF(c d:LV)(K:VK):WK:=mk c λa=>mk d λb=>aJ (ad a 2) 2 λe=>iM e (xB λf=>br f (gF.j1 K a b true) (aJ (ad a 2) 2 λg=>aJ (ad b 2) 2 λh=>rT [.u 0,.u 0] g h λi=>gF.j1 K a b i))
def zm(f:OA)(g:LV)(K:VK):WK:=mk g λd=>mk iD λa=>aJ (ad d 8) 2 λh=>iB f h (x2 λj k=>(xA 33 λl=>(xB λm=>mk cI λb=>bD 33 (ad b 0) l (br (!m) (cu True (cu (16=16) (jU (ad a 0) iD (aJ (ad a 0) 16 λn=>K (.tuple ⟨[.agg ⟨n⟩,.i 23]⟩))))) (aJ (ad b 16) 16 λo=>mo o (xB λp=>br (!p) (cu True (cu (16=16) (jU (ad a 0) iD (aJ (ad a 0) 16 λq=>K (.tuple ⟨[.agg ⟨q⟩,.i 24]⟩))))) (aJ (ad d 0) 16 λr=>aJ (ad b 16) 16 λs=>gF r s (xB λt=>br (!t) (cu True (cu (16=16) (jU (ad a 0) iD (aJ (ad a 0) 16 λu=>K (.tuple ⟨[.agg ⟨u⟩,.i 25]⟩))))) (tick (aJ (ad b 16) 16 λv=>lI (ad b 32) λc=>cu ((0:Int)<=c/\c<5) (lI ((ad N.yW 0).add (c.toNat* 1)) λe=>bD 16 (ad a 0) v (kp ((ad N.yW 0).add (c.toNat* 1)) [.i e] (kp (ad b 32) [.i c] (aJ (ad a 0) 16 λw=>K (.tuple ⟨[.agg ⟨w⟩,.i e]⟩))))))))))))) k) j)
def oY.j1(K:VK)(a b d:Nat)(c:Bool):WK:=br c (br c (cu True (cu (2=2) (jU (ad a 0) [.u 0,.u 0] (aJ (ad a 0) 2 λe=>K (.tuple ⟨[.agg ⟨e⟩,.i 26]⟩))))) (aJ (ad b 6) 2 λf=>bD 2 (ad a 0) f (aJ (ad a 0) 2 λg=>K (.tuple ⟨[.agg ⟨g⟩,.i 0]⟩)))) (aJ (ad d 6) 2 λh=>aJ (ad b 6) 2 λj=>rr h j (xB λk=>br k (cu True (cu (2=2) (jU (ad a 0) [.u 0,.u 0] (aJ (ad a 0) 2 λl=>K (.tuple ⟨[.agg ⟨l⟩,.i 26]⟩))))) (aJ (ad b 6) 2 λm=>bD 2 (ad a 0) m (aJ (ad a 0) 2 λn=>K (.tuple ⟨[.agg ⟨n⟩,.i 0]⟩)))))
def oY(d e:LV)(K:VK):WK:=mk d λa=>mk e λb=>mk [.u 0,.u 0] λc=>aJ (ad a 6) 2 λf=>iM f (xB λg=>br g (aJ (ad b 6) 2 λh=>bD 2 (ad c 0) h (aJ (ad c 0) 2 λj=>K (.tuple ⟨[.agg ⟨j⟩,.i 0]⟩))) (lI (ad a 13) λk=>br ((de .i64 .and k 8)!=0) (aJ (ad a 6) 2 λl=>aJ (ad b 6) 2 λm=>rT [.u 0,.u 0] l m λn=>oY.j1 K c a b (!n)) (oY.j1 K c a b false)))
def nK.j1(K:VK)(a b:Nat)(c:Bool):WK:=br c (K (.i 30)) (lI (ad a 12) λd=>br ((de .i64 .and d 8)!=0) (lI (ad b 13) λe=>br ((de .i64 .and e 128)==0) (K (.i 31)) (K (.i 0))) (K (.i 0)))
def nK(c:OA)(e:LV)(K:VK):WK:=mk e λa=>aJ (ad a 2) 2 λf=>dR c f (x2 λg h=>(xA 14 λi=>(xB λp=>mk eK λd=>bD 14 (ad d 0) i (aJ (ad a 4) 2 λj=>dR c j (x2 λk l=>(xA 14 λm=>(xB λq=>mk eK λb=>bD 14 (ad b 0) m (lI (ad d 12) λn=>br ((de .i64 .and n 8)!=0) (lI (ad a 13) λo=>nK.j1 K b a ((de .i64 .and o 64)==0)) (nK.j1 K b a false))) l) k))) h) g)
def rS.j1(K:VK)(f:OA)(a d h:Nat)(k:Int):WK:=oQ f (xB λl=>br (!l) (K (.i 35)) (aJ (ad a 0) 16 λm=>aJ (ad d 0) 2 λn=>dW f m n k (x0 (aJ (ad h 0) 16 λo=>mk iD λb=>bD 16 (ad b 0) o (tick (aJ (ad a 2) 2 λp=>aJ (ad a 4) 2 λj=>aJ (ad d 0) 2 λg=>lI (ad a 11) λe=>lI (ad a 12) λc=>bD 2 (ad b 2) p (kp (ad a 12) [.i c] (kp (ad a 11) [.i e] (kp (ad d 0) g (kp (ad a 4) j (bD 2 (ad b 4) j (kp (ad a 12) [.i c] (kp (ad a 11) [.i e] (kp (ad d 0) g (bD 2 (ad b 6) g (kp (ad a 12) [.i c] (kp (ad a 11) [.i e] (st (ad b 11) (.i e) (kp (ad a 12) [.i c] (st (ad b 12) (.i c) (aJ (ad h 0) 16 λq=>aJ (ad b 0) 16 λr=>iC f q r false (xI .i64 λs=>K (.i 0)))))))))))))))))))))))
def rS(b:OA)(j:LV)(K:VK):WK:=mk j λa=>aJ (ad a 0) 2 λk=>iB b k (x2 λl m=>(xA 33 λn=>(xB λo=>mk cI λe=>bD 33 (ad e 0) n (br o (aJ (ad a 0) 16 λp=>aJ (ad e 0) 16 λq=>uH p q (xI .i64 λr=>K (.i r))) (aJ (ad a 0) 16 λs=>zm b s (x2 λt v=>(xA 16 λw=>(xI .i64 λf=>mk iD λc=>bD 16 (ad c 0) w (br (f !=0) (K (.i f)) (aJ (ad a 0) 16 λx=>aJ (ad c 0) 16 λy=>oY x y (x2 λz A=>(xA 2 λB=>(xI .i64 λg=>mk [.u 0,.u 0] λd=>bD 2 (ad d 0) B (br (g !=0) (K (.i g)) (lI (ad a 13) λC=>br ((de .i64 .and C 4)!=0) (aJ (ad c 0) 16 λD=>nK b D (xI .i64 λh=>br (h !=0) (K (.i h)) (rS.j1 K b c d a 2))) (rS.j1 K b c d a 3)))) A) z)))) v) t)))) m) l)
def ov.j1(K:VK)(a:Nat)(b:OA)(c:Bool):WK:=br c (aJ (ad a 0) 16 λd=>pQ b d (xI .i64 λe=>K (.i e))) (aJ (ad a 0) 16 λf=>rS b f (xI .i64 λg=>K (.i g)))
def ov(b:OA)(c:LV)(K:VK):WK:=mk c λa=>aJ (ad a 0) 16 λd=>fy d (xI .i64 λe=>br (e !=0) (ov.j1 K a b true) (aJ (ad a 0) 16 λf=>sx f (xB λg=>ov.j1 K a b (!g))))
def ov.u:WP|[.pointer a,.agg ⟨b⟩],K=>ov a b K|_,_=>no
def mB(f o:OA)(j q:Nat)(r:OA)(s t:Nat)(v:Value)(K:VK):WK:=fH f (xI .i64 λw=>(lp [.i w,.l o j q,.i (j:Int),.i 0] λk x=>∀b c d g e a h,k [.i b,.l c d g,.i e,.i a] h->(br (decide (a<e)) (iY c d a 16 λy=>aJ y 16 λz=>mk iD λm=>bD 16 (ad m 0) z (aJ (ad m 0) 16 λA=>wN [(N.fI,fI.u),(N.fH,fH.u),(N.jF,jF.u),(N.ov,ov.u)] v [.p f,.agg ⟨A⟩] (xI .i64 λn=>br (n !=0) (fI f b (x0 (jF r s t a n (x0 (K (.tuple ⟨[]⟩)))))) ((ct k x [.i b,.l c d g,.i e,.i (aa.wrap (a+1))] [.i b,.l c d g,.i e,.i a] h))))) (K (.tuple ⟨[]⟩))) h))
def pn(t n:OA)(e o:Nat)(u v:Value)(K:VK):WK:=Lh 8 [.i 0] (e:Int) (e:Int) λw x y=>(lp [.l none 0 0,.l w x y,.i 0] λm p=>∀f g h b c d a k,m [.l f g h,.l b c d,.i a] k->(br (decide (a<(e:Int))) (rJ n e o 16 (some a) none λz A B=>lQ z A B (u) (x2 λC D=>(xI .i64 λj=>(xB λE=>rJ b c d 1 (some a) (some (aa.wrap (a+j))) λq r s=>br (!E) (jF q r s (aa.wrap (j-1)) 2 (x0 ((ct m p [.l f g h,.l b c d,.i (aa.wrap (a+j))] [.l f g h,.l b c d,.i a] k)))) (rJ n e o 16 (some a) (some (aa.wrap (a+j))) λF G H=>mB t F G H q r s (v) (x0 ((ct m p [.l f g h,.l b c d,.i (aa.wrap (a+j))] [.l f g h,.l b c d,.i a] k))))) D) C)) (K (.l b c d))) k)
def qZ(a b:OA)(c d:Nat)(K:VK):WK:=pn a b c d (.func (.func N.gw) ⟨[]⟩ ⟨[]⟩) (.func (.func N.ov) ⟨[]⟩ ⟨[]⟩) (xL λe f g=>K (.l e f g))
def eg.j1(K:VK)(a:Nat)(c:Int)(d:Bool):WK:=br d (K (.tuple ⟨[]⟩)) (lP (ad a 0) λe=>nn e λf=>lI (f.add 7) λg=>mk [.i 0] λb=>st (ad b 0) (.i g) (lP (ad a 0) λh=>nn h λj=>st (j.add 7) (.i c) (lP (ad a 0) λk=>nn k λl=>iz (some l) (.func (.func N.ef) ⟨[]⟩ ⟨[.p (some (ad b 0)),.p (some (ad a 0))]⟩) (x0 (K (.tuple ⟨[]⟩))))))
def eg(c:OA)(a:Int)(K:VK):WK:=mk [.p c] λb=>lP (ad b 0) λd=>br (d.isNone) (eg.j1 K b a true) (lP (ad b 0) λe=>nn e λf=>lI (f.add 7) λg=>br (decide (a<=g)) (eg.j1 K b a true) (eg.j1 K b a (decide (a>1099511627776))))
def eg.u:WP|[.pointer a,.int .i64 b],K=>eg a b K|_,_=>no
def tO(a:OA)(K:VK):WK:=br (a.isNone) (K (.i 0)) (nn a λb=>lL b λd c e=>K (.i (c:Int)))
def nJ(c:OA)(K:VK):WK:=mk yu λa=>tO c (xI .i64 λd=>br (d==0) (cu True (cu (4=4) (jU (ad a 0) yu (aJ (ad a 0) 4 λe=>K (.tuple ⟨[.agg ⟨e⟩,.b false]⟩))))) (nn c λf=>lL f λg h l=>iY g h 0 4 λi=>aJ i 4 λj=>bD 4 (ad a 0) j (aJ (ad a 0) 4 λk=>K (.tuple ⟨[.agg ⟨k⟩,.b true]⟩))))
def fq.j1(K:VK)(c:Nat)(d:OA)(a:Nat)(e:Bool):WK:=br e (aJ (ad c 2) 2 λf=>iB d f (x2 λg h=>(xA 33 λi=>(xB λj=>bD 33 (ad a 0) i (aJ (ad a 0) 33 λk=>K (.tuple ⟨[.agg ⟨k⟩,.b j]⟩))) h) g)) (cu True (cu (33=33) (jU (ad a 0) cI (aJ (ad a 0) 33 λl=>K (.tuple ⟨[.agg ⟨l⟩,.b false]⟩)))))
def fq(a:OA)(K:VK):WK:=mk cI λc=>br (a.isNone) (cu True (cu (33=33) (jU (ad c 0) cI (aJ (ad c 0) 33 λe=>K (.tuple ⟨[.agg ⟨e⟩,.b false]⟩))))) (nn a λf=>nJ (some (f.add 6)) (x2 λg h=>(xA 4 λi=>(xB λj=>mk yu λd=>bD 4 (ad d 0) i (tick (br j (lI (ad d 0) λk=>nn a λl=>lI (l.add 7) λm=>fq.j1 K d a c (decide (k<=m))) (fq.j1 K d a c false)))) h) g))
def fq.u:WP|[.pointer a],K=>fq a K|_,_=>no
def tB(a:OA)(K:VK):WK:=mk [.p a] λb=>K (.func (.func N.N5) ⟨[]⟩ ⟨[.p (some (ad b 0))]⟩)
def tB.u:WP|[.pointer a],K=>tB a K|_,_=>no
def lV(a:OA)(K:VK):WK:=br (!(a.isNone)) (nn a λb=>mS (some b) (x0 (K (.tuple ⟨[]⟩)))) (K (.tuple ⟨[]⟩))
def uj(t v:OA)(p w:Nat)(K:VK):WK:=(lp [.l none 0 0,.l none 0 0,.l v p w,.i (p:Int),.i 0] λo q=>∀h j k b c d e f m g a n,o [.l h j k,.l b c d,.l e f m,.i g,.i a] n->(br (decide (a<g)) (iY e f a 2 λx=>aJ x 2 λy=>mk [.u 0,.u 0] λr=>bD 2 (ad r 0) y (aJ (ad r 0) 2 λz=>dR t z (x2 λA B=>(xA 14 λC=>(xB λD=>mk eK λs=>bD 14 (ad s 0) C (br D (aJ (ad s 0) 14 λE=>Kf 14 E λF=>iN 14 112 eK b c d (ah F) 1 λG H I=>(ct o q [.l h j k,.l G H I,.l e f m,.i g,.i (aa.wrap (a+1))] [.l h j k,.l b c d,.l e f m,.i g,.i a] n)) ((ct o q [.l h j k,.l b c d,.l e f m,.i g,.i (aa.wrap (a+1))] [.l h j k,.l b c d,.l e f m,.i g,.i a] n)))) B) A))) (K (.l b c d))) n)
def te(t v:OA)(p w:Nat)(K:VK):WK:=(lp [.l none 0 0,.l none 0 0,.l v p w,.i (p:Int),.i 0] λo q=>∀h j k b c d e f m g a n,o [.l h j k,.l b c d,.l e f m,.i g,.i a] n->(br (decide (a<g)) (iY e f a 2 λx=>aJ x 2 λy=>mk [.u 0,.u 0] λr=>bD 2 (ad r 0) y (aJ (ad r 0) 2 λz=>iB t z (x2 λA B=>(xA 33 λC=>(xB λD=>mk cI λs=>bD 33 (ad s 0) C (br D (aJ (ad s 16) 16 λE=>Kf 16 E λF=>iN 16 128 iD b c d (ah F) 1 λG H I=>(ct o q [.l h j k,.l G H I,.l e f m,.i g,.i (aa.wrap (a+1))] [.l h j k,.l b c d,.l e f m,.i g,.i a] n)) ((ct o q [.l h j k,.l b c d,.l e f m,.i g,.i (aa.wrap (a+1))] [.l h j k,.l b c d,.l e f m,.i g,.i a] n)))) B) A))) (K (.l b c d))) n)
def gp.j1(K:VK)(w:Int)(x:OA)(y:Bool)(z:Int):WK:=(lp [.l none 0 0,.i w,.i z,.l none 0 0] λu A=>∀j k m f n g c h p,u [.l j k m,.i f,.i n,.l g c h] p->(br (decide (f<n)) (nn x λB=>lL B λC D V=>iY C D f 2 λE=>aJ E 2 λF=>Kf 2 F λG=>iN 2 16 [.i 0,.i 0] g c h (ah G) 1 λH I J=>(ct u A [.l j k m,.i (aa.wrap (f+1)),.i n,.l H I J] [.l j k m,.i f,.i n,.l g c h] p)) (br y ((lp [.l j k m,.l g c h,.i 0,.i (aa.wrap ((c:Int) -1))] λv M=>∀q r s a b o d e t,v [.l q r s,.l a b o,.i d,.i e] t->(br (decide (d<e)) (tick (iY a b e 2 λO=>aJ O 2 λP=>iY a b d 2 λQ=>aJ Q 2 λR=>iY a b d 2 λS=>bD 2 S P (iY a b e 2 λT=>bD 2 T R ((ct v M [.l q r s,.l a b o,.i (aa.wrap (d+1)),.i (aa.wrap (e-1))] [.l q r s,.l a b o,.i d,.i e] t))))) (K (.l a b o))) t)) (K (.l g c h)))) p)
def gp(a:OA)(h e:Int)(c:Bool)(K:VK):WK:=br (a.isNone) (K (.l none 0 0)) (tick (nn a λf=>lL f λi g j=>l9 a h (xI .i64 λd=>kp f [.l i g j] (br (e !=0) (l9 a e (xI .i64 λb=>nn a λk=>lL k λs m t=>br (decide (b<(m:Int))) (nn a λn=>lL n λo p u=>iY o p b 2 λq=>lI q λr=>br (r==e) (gp.j1 K d a c (aa.wrap (b+1))) (gp.j1 K d a c b)) (gp.j1 K d a c b))) (gp.j1 K d a c (g:Int))))))
def ow(o:OA)(z A:Int)(B:Bool)(K:VK):WK:=br (o.isNone) (K (.l none 0 0)) (nn o λC=>gp (some (C.add 5)) z A B (xL λD u E=>(lp [.l none 0 0,.l none 0 0,.l D u E,.i (u:Int),.i 0] λq v=>∀h j k b c d e f m g a n,q [.l h j k,.l b c d,.l e f m,.i g,.i a] n->(br (decide (a<g)) (iY e f a 2 λF=>aJ F 2 λG=>mk [.i 0,.i 0] λr=>bD 2 (ad r 0) G (tick (nn o λw=>lP (w.add 2) λs=>lI (ad r 1) λt=>both (dO s t (x2 λH I=>(xA 33 λJ=>(xB λb2=>mk cI λx=>bD 33 (ad x 0) J (aJ (ad x 0) 33 λM=>Kf 33 M λO=>iN 33 264 cI b c d (ah O) 1 λP Q R=>(ct q v [.l h j k,.l P Q R,.l e f m,.i g,.i (aa.wrap (a+1))] [.l h j k,.l b c d,.l e f m,.i g,.i a] n))) I) H)) (mk cI λy=>kp (ad r 1) [.i t] (kp (w.add 2) [.p s] (dO s t (x2 λS T=>(xA 33 λV=>(xB λb3=>bD 33 (ad y 0) V (aJ (ad y 0) 33 λW=>Kf 33 W λX=>iN 33 264 cI b c d (ah X) 1 λY Z Y7=>(ct q v [.l h j k,.l Y Z Y7,.l e f m,.i g,.i (aa.wrap (a+1))] [.l h j k,.l b c d,.l e f m,.i g,.i a] n))) T) S))))))) (K (.l b c d))) n)))
def ny.j3(K:VK)(s:Nat)(a:OA)(b c:Nat)(o:LI)(d:Addr)(e:OA)(f g:Nat)(h:OA)(j k:Nat)(m n:Int)(q:LM)(r:World)(t:Bool):WK:=br t (aJ (ad s 16) 16 λu=>Kf 16 u λv=>iN 16 128 iD a b c (ah v) 1 λw x y=>(ct o q [.p (some d),.l e f g,.l w x y,.l h j k,.i m,.i (aa.wrap (n+1))] [.p (some d),.l e f g,.l a b c,.l h j k,.i m,.i n] r)) ((ct o q [.p (some d),.l e f g,.l a b c,.l h j k,.i m,.i (aa.wrap (n+1))] [.p (some d),.l e f g,.l a b c,.l h j k,.i m,.i n] r))
def ny.j2(K:VK)(a:Addr)(b:Nat)(q:Bool)(c:Nat)(d:OA)(e:Nat)(f:LI)(g:OA)(h i:Nat)(j:OA)(k l:Nat)(m n:Int)(o:LM)(p:World)(r:Bool):WK:=lI (a.add 7) λs=>br (decide ((b:Int)<s)) (br q (ny.j3 K c d b e f a g h i j k l m n o p true) (ny.j3 K c d b e f a g h i j k l m n o p r)) (ny.j3 K c d b e f a g h i j k l m n o p false)
def ny.j1(K:VK)(a:Addr)(b c:Nat)(d:OA)(e:Nat)(f:LI)(g:OA)(h i:Nat)(j:OA)(k l:Nat)(m n:Int)(o:LM)(p:World)(q:Bool):WK:=lT (a.add 5) λr=>br r (aJ (ad b 20) 2 λs=>aJ a 2 λt=>rT [.u 0,.u 0] s t λv=>ny.j2 K a c q b d e f g h i j k l m n o p v) (ny.j2 K a c q b d e f g h i j k l m n o p false)
def ny(w:OA)(x:LV)(K:VK):WK:=mk x λc=>lI (ad c 2) λy=>lI (ad c 3) λz=>lT (ad c 6) λA=>ow w y z A (xL λB t C=>(lp [.p (some (ad c 0)),.l none 0 0,.l none 0 0,.l B t C,.i (t:Int),.i 0] λn v=>∀a o q r d e f g h s j b k,n [.p (some a),.l o q r,.l d e f,.l g h s,.i j,.i b] k->(br (decide (b<j)) (iY g h b 33 λD=>aJ D 33 λE=>mk cI λm=>bD 33 (ad m 0) E (lT (a.add 4) λF=>br F (aJ (ad m 18) 2 λG=>aJ a 2 λH=>rT [.u 0,.u 0] G H λI=>ny.j1 K a m e d f n o q r g h s j b v k I) (ny.j1 K a m e d f n o q r g h s j b v k false))) (K (.l d e f))) k))
def JQ(c:OA)(e:LV)(K:VK):WK:=mk e λb=>mk Ab λa=>br (c.isNone) (cu (1=1/\True) (cu (4=4) (jU (ad a 0) [.i 2,.l none 0 0,.l none 0 0,.l none 0 0] (aJ (ad a 0) 4 λf=>K (.agg ⟨f⟩))))) (aJ (ad b 0) 13 λg=>iv g (xB λh=>br (!h) (cu (1=1/\True) (cu (4=4) (jU (ad a 0) [.i 1,.l none 0 0,.l none 0 0,.l none 0 0] (aJ (ad a 0) 4 λj=>K (.agg ⟨j⟩))))) (lI (ad b 0) λd=>br (d==4) (lL (ad b 4) λk m n=>uj c k m n (xL λo p q=>cu (1=1/\True) (cu (4=4) (jU (ad a 0) [.i 0,.l none 0 0,.l o p q,.l none 0 0] (aJ (ad a 0) 4 λr=>K (.agg ⟨r⟩)))))) (br (d==5) (lL (ad b 4) λs t u=>te c s t u (xL λv w x=>cu (1=1/\True) (cu (4=4) (jU (ad a 0) [.i 0,.l none 0 0,.l none 0 0,.l v w x] (aJ (ad a 0) 4 λy=>K (.agg ⟨y⟩)))))) (aJ (ad b 5) 8 λz=>ny c z (xL λA B C=>cu (1=1/\True) (cu (4=4) (jU (ad a 0) [.i 0,.l none 0 0,.l none 0 0,.l A B C] (aJ (ad a 0) 4 λD=>K (.agg ⟨D⟩))))))))))
def wV(h:LV)(K:VK):WK:=mk h λj=>mk aeS λk=>(lp [.p (some (ad j 0)),.s .empty,.p (some (ad k 0)),.i 0] λf l=>∀b d c a e,f [.p (some b),.s d,.p (some c),.i a] e->(br (decide (a<8)) (tick (lU (b.add 1) λm=>cu ((0:Int)<=(aa.wrap (8* a))) (lU b λg=>cu ((0:Int)<=(aa.wrap (8* a))) (cu ((0:Int)<=a/\a<16) (st (c.add (a.toNat* 1)) (.int .u8 (IntKind.u8.wrap (shr .u64 m (aa.wrap (8* a))))) (kp b [.u g] (cu ((0:Int)<=(aa.wrap (8+a))/\(aa.wrap (8+a))<16) (st (c.add ((aa.wrap (8+a)).toNat* 1)) (.int .u8 (IntKind.u8.wrap (shr .u64 g (aa.wrap (8* a))))) ((ct f l [.p (some b),.s d,.p (some c),.i (aa.wrap (a+1))] [.p (some b),.s d,.p (some c),.i a] e)))))))))) (rJ (some c) 16 16 1 none none λn o r=>U2 n o λq=>K (.s q))) e)
def lZ(a:OA)(f:LV)(K:VK):WK:=mk f λg=>tick (nn a λb=>lL b λc d e=>aJ (ad g 0) 2 λh=>wV h (xS λi=>kp b [.l c d e] (Gl c d e i λj k m=>nn a λn=>st n (.l j k m) (K (.tuple ⟨[]⟩)))))
def rZ.j1(K:VK)(c:Nat)(d:OA):WK:=aJ (ad c 0) 2 λg=>aJ (ad c 2) 2 λh=>aJ (ad c 4) 2 λj=>aJ (ad c 6) 2 λk=>aJ (ad c 8) 2 λl=>cu (g.length=2/\(h.length=2/\(j.length=2/\(k.length=2/\(l.length=2/\True))))) ((lp [.p (some (ad c 0)),.agg ⟨(g++(h++(j++(k++(l++[])))))⟩,.i 0] λm o=>∀b e a f,m [.p (some b),.agg ⟨e⟩,.i a] f->(br (decide (a<5)) (cu ((0:Int)<=a/\a<5) (mk [.u 0,.u 0] λn=>cu (((e.drop ((a:Int).toNat* 2)).take 2).length=2) (jU (ad n 0) ((e.drop ((a:Int).toNat* 2)).take 2) (aJ (ad n 0) 2 λq=>lZ d q (x0 ((ct m o [.p (some b),.agg ⟨e⟩,.i (aa.wrap (a+1))] [.p (some b),.agg ⟨e⟩,.i a] f))))))) (lI (b.add 10) λr=>bu d 4 r (x0 (lI (b.add 11) λs=>bu d 2 s (x0 (lI (b.add 12) λt=>bu d 2 t (x0 (lI (b.add 13) λv=>bu d 8 v (x0 (K (.tuple ⟨[]⟩))))))))))) f))
def rZ(b:OA)(c:LV)(K:VK):WK:=mk c λa=>aJ (ad a 0) 14 λd=>jt d (xB λe=>br (!e) (cu True (cu (14=14) (jU (ad a 0) eK (rZ.j1 K a b)))) (rZ.j1 K a b))
def lg(h m:OA)(e n:Nat)(K:VK):WK:=nn h λo=>bu (some o) 1 (e:Int) (x0 ((lp [.l m e n,.i (e:Int),.i 0] λj p=>∀b c f d a g,j [.l b c f,.i d,.i a] g->(br (decide (a<d)) (iY b c a 14 λq=>aJ q 14 λr=>mk eK λk=>bD 14 (ad k 0) r (tick (nn h λs=>aJ (ad k 0) 14 λt=>rZ (some s) t (x0 ((ct j p [.l b c f,.i d,.i (aa.wrap (a+1))] [.l b c f,.i d,.i a] g)))))) (K (.tuple ⟨[]⟩))) g)))
def qI.j1(K:VK)(d:Nat)(c:OA):WK:=aJ (ad d 0) 2 λg=>aJ (ad d 2) 2 λh=>aJ (ad d 4) 2 λj=>aJ (ad d 6) 2 λk=>aJ (ad d 8) 2 λl=>cu (g.length=2/\(h.length=2/\(j.length=2/\(k.length=2/\(l.length=2/\True))))) ((lp [.p (some (ad d 0)),.agg ⟨(g++(h++(j++(k++(l++[])))))⟩,.i 0] λm o=>∀a e b f,m [.p (some a),.agg ⟨e⟩,.i b] f->(br (decide (b<5)) (cu ((0:Int)<=b/\b<5) (mk [.u 0,.u 0] λn=>cu (((e.drop ((b:Int).toNat* 2)).take 2).length=2) (jU (ad n 0) ((e.drop ((b:Int).toNat* 2)).take 2) (aJ (ad n 0) 2 λq=>lZ c q (x0 ((ct m o [.p (some a),.agg ⟨e⟩,.i (aa.wrap (b+1))] [.p (some a),.agg ⟨e⟩,.i b] f))))))) (lI (a.add 10) λr=>bu c 4 r (x0 (lI (a.add 11) λs=>bu c 4 s (x0 (lI (a.add 12) λt=>bu c 2 t (x0 (lI (a.add 13) λv=>bu c 2 v (x0 (lI (a.add 14) λw=>bu c 8 w (x0 (lI (a.add 15) λx=>bu c 8 x (x0 (K (.tuple ⟨[]⟩))))))))))))))) f))
def qI(b:OA)(c:LV)(K:VK):WK:=mk c λa=>aJ (ad a 0) 16 λd=>fX d (xB λe=>br (!e) (cu True (cu (16=16) (jU (ad a 0) iD (qI.j1 K a b)))) (qI.j1 K a b))
def kJ(h m:OA)(e n:Nat)(K:VK):WK:=nn h λo=>bu (some o) 1 (e:Int) (x0 ((lp [.l m e n,.i (e:Int),.i 0] λj p=>∀b c f d a g,j [.l b c f,.i d,.i a] g->(br (decide (a<d)) (iY b c a 16 λq=>aJ q 16 λr=>mk iD λk=>bD 16 (ad k 0) r (tick (nn h λs=>aJ (ad k 0) 16 λt=>qI (some s) t (x0 ((ct j p [.l b c f,.i d,.i (aa.wrap (a+1))] [.l b c f,.i d,.i a] g)))))) (K (.tuple ⟨[]⟩))) g)))
def qm(a:OA)(b:Bool)(K:VK):WK:=br b (bu a 1 1 (x0 (K (.tuple ⟨[]⟩)))) (bu a 1 0 (x0 (K (.tuple ⟨[]⟩))))
def o8(c:OA)(j:LV)(K:VK):WK:=mk j λa=>tick (nn c λk=>aJ (ad a 0) 2 λl=>lZ (some k) l (x0 (tick (nn c λm=>lI (ad a 2) λn=>bu (some m) 8 n (x0 (tick (nn c λo=>lI (ad a 3) λq=>bu (some o) 8 q (x0 (lT (ad a 4) λr=>lT (ad a 5) λs=>lT (ad a 6) λt=>cu (1=1/\(1=1/\(1=1/\True))) ((lp [.p (some (ad a 0)),.agg ⟨[.b r,.b s,.b t]⟩,.i 0] λh u=>∀e f d g,h [.p (some e),.agg ⟨f⟩,.i d] g->(br (decide (d<3)) (Dg f 3 d (xB λv=>nn c λw=>qm (some w) v (x0 ((ct h u [.p (some e),.agg ⟨f⟩,.i (aa.wrap (d+1))] [.p (some e),.agg ⟨f⟩,.i d] g))))) (tick (nn c λx=>lI (e.add 7) λy=>bu (some x) 1 y (x0 (K (.tuple ⟨[]⟩)))))) g)))))))))))
def wU(v:LV)(K:VK):WK:=mk v λb=>aJ (ad b 0) 13 λw=>pC w (xB λx=>br (!x) (K (.tuple ⟨[.s .empty,.i 1]⟩)) (cu True (mk [.l none 0 0] λa=>tick (lI (ad b 0) λy=>bu (some (ad a 0)) 1 y (x0 (lI (ad b 0) λe=>br (e==1) (lL (ad b 1) λz A B=>lg (some (ad a 0)) z A B (x0 (dG (some (ad a 0)) (xS λC=>K (.tuple ⟨[.s C,.i 0]⟩))))) (br (e==2) (lL (ad b 2) λD E F=>kJ (some (ad a 0)) D E F (x0 (dG (some (ad a 0)) (xS λG=>K (.tuple ⟨[.s G,.i 0]⟩))))) (br (e==3) (tick (lI (ad b 3) λH=>bu (some (ad a 0)) 8 H (x0 (dG (some (ad a 0)) (xS λI=>K (.tuple ⟨[.s I,.i 0]⟩)))))) (br (e==6) (aJ (ad b 5) 8 λJ=>o8 (some (ad a 0)) J (x0 (dG (some (ad a 0)) (xS λM=>K (.tuple ⟨[.s M,.i 0]⟩))))) (tick (lL (ad b 4) λO o P=>bu (some (ad a 0)) 1 (o:Int) (x0 (kp (ad b 4) [.l O o P] (lL (ad b 4) λQ q R=>(lp [.s .empty,.i 0,.p (some (ad a 0)),.l Q q R,.i (q:Int),.i 0] λr S=>∀j k c f g m h d n,r [.s j,.i k,.p (some c),.l f g m,.i h,.i d] n->(br (decide (d<h)) (iY f g d 2 λT=>aJ T 2 λV=>mk [.u 0,.u 0] λt=>bD 2 (ad t 0) V (tick (aJ (ad t 0) 2 λW=>lZ (some c) W (x0 ((ct r S [.s j,.i k,.p (some c),.l f g m,.i h,.i (aa.wrap (d+1))] [.s j,.i k,.p (some c),.l f g m,.i h,.i d] n)))))) (dG (some c) (xS λX=>K (.tuple ⟨[.s X,.i 0]⟩)))) n)))))))))))))))
def ji(a:OA)(K:VK):WK:=br (a.isNone) (K (.i 0)) (nn a λb=>lI (b.add 7) λc=>K (.i c))
def kE(a:OA)(K:VK):WK:=br (a.isNone) (K (.l none 0 0)) (nn a λb=>lL b λc d h=>iN 14 112 eK none 0 0 c d λe f g=>K (.l e f g))
def hG(a:OA)(K:VK):WK:=br (a.isNone) (K (.l none 0 0)) (nn a λb=>lP (b.add 1) λc=>kE c (xL λd e f=>K (.l d e f)))
def mu(a:OA)(K:VK):WK:=br (a.isNone) (K (.l none 0 0)) (nn a λb=>lL b λc d h=>iN 33 264 cI none 0 0 c d λe f g=>K (.l e f g))
def fh(a:OA)(K:VK):WK:=br (a.isNone) (K (.l none 0 0)) (nn a λb=>lP (b.add 2) λc=>mu c (xL λd e f=>K (.l d e f)))
def kr(a:OA)(K:VK):WK:=br (a.isNone) (K (.i 0)) (nn a λb=>lI (b.add 8) λc=>K (.i c))
def tr(b:OA)(K:VK):WK:=cu True (mk [.l none 0 0] λc=>bu (some (ad c 0)) 1 1 (x0 (ji b (xI .i64 λC=>bu (some (ad c 0)) 8 C (x0 (kr b (xI .i64 λD=>bu (some (ad c 0)) 8 D (x0 (hG b (xL λZ E Ah=>bu (some (ad c 0)) 2 (E:Int) (x0 (fh b (xL λjJ F jV=>bu (some (ad c 0)) 2 (F:Int) (x0 (hG b (xL λG x H=>(lp [.s .empty,.p (some (ad c 0)),.l G x H,.i (x:Int),.i 0] λy I=>∀g d h j r k e t,y [.s g,.p (some d),.l h j r,.i k,.i e] t->(br (decide (e<k)) (iY h j e 14 λJ=>aJ J 14 λM=>mk eK λz=>bD 14 (ad z 0) M (aJ (ad z 0) 14 λO=>rZ (some d) O (x0 ((ct y I [.s g,.p (some d),.l h j r,.i k,.i (aa.wrap (e+1))] [.s g,.p (some d),.l h j r,.i k,.i e] t))))) (fh b (xL λP A Q=>(lp [.s g,.p (some d),.l P A Q,.i (A:Int),.i 0] λB R=>∀u a m n v o f w,B [.s u,.p (some a),.l m n v,.i o,.i f] w->(br (decide (f<o)) (iY m n f 33 λS=>aJ S 33 λT=>mk cI λq=>bD 33 (ad q 0) T (aJ (ad q 0) 16 λV=>qI (some a) V (x0 (aJ (ad q 16) 16 λW=>qI (some a) W (x0 (lI (ad q 32) λX=>bu (some a) 1 X (x0 ((ct B R [.s u,.p (some a),.l m n v,.i o,.i (aa.wrap (f+1))] [.s u,.p (some a),.l m n v,.i o,.i f] w))))))))) (dG (some a) (xS λY=>K (.s Y)))) w)))) t)))))))))))))))))
def iy.j1(K:VK)(a:OA)(c:Int):WK:=br (c !=0) (nn a λd=>st (d.add 9) (.b true) (K (.i c))) (nn a λe=>lI (e.add 8) λf=>nn a λg=>st (g.add 8) (.i (aa.wrap (f+1))) (nn a λh=>lP (h.add 7) λj=>jL j (x0 (K (.i 0)))))
def iy(a:OA)(K:VK):WK:=br (a.isNone) (K (.i 2)) (nn a λl=>lT (l.add 9) λm=>br m (K (.i 9)) (nn a λn=>lP (n.add 6) λo=>tr o (xS λb=>nn a λq=>aJ (q.add 1) 5 λr=>qa r (b.size:Int) (xB λs=>br (!s) (K (.i 3)) (nn a λt=>lP t λu=>oC u (xI .i64 λc=>tick (nn a λv=>aJ (v.add 1) 5 λw=>nn a λx=>lP x λy=>nn a λf=>lI (f.add 8) λg=>qK w y (aa.wrap (g+1)) (aa.wrap (c+1)) b (xI .i64 λh=>kp (f.add 8) [.i g] (br (h==0) (tick (nn a λj=>lP j λk=>nn a λd=>lI (d.add 8) λe=>nn a λz=>lP (z.add 7) λA=>ml A (xI .i64 λB=>kp (d.add 8) [.i e] (kp j [.p k] (cu (1=1/\(1=1/\(1=1/\(1=1/\True)))) (uy k (aa.wrap ((aa.wrap (c+1))+1)) [.i (aa.wrap (e+1)),.i (aa.wrap (c+1)),.i (b.size:Int),.i B] (xI .i64 λC=>kp (d.add 8) [.i e] (iy.j1 K a C)))))))) (iy.j1 K a h))))))))))
def jA.j1(K:VK)(a:OA)(f:BA):WK:=tick (nn a λd=>lP (d.add 7) λe=>nn a λg=>lP g λh=>oC h (xI .i64 λj=>kp (d.add 7) [.p e] (cy e (aa.wrap (j+1)) f (xI .i64 λc=>nn a λk=>lT (k.add 9) λl=>br l (nn a λm=>st (m.add 9) (.b true) (K (.i c))) (nn a λn=>st (n.add 9) (.b (c==8)) (K (.i c)))))))
def jA(a:OA)(b:BA)(K:VK):WK:=nn a λd=>lP (d.add 7) λe=>jK e (b.size:Int) (xB λf=>br (!f) (iy a (xI .i64 λc=>br (c !=0) (K (.i c)) (jA.j1 K a b))) (jA.j1 K a b))
def pO(a:OA)(K:VK):WK:=br (a.isNone) (K (.p none)) (nn a λb=>lP (b.add 6) λc=>tr c (xS λd=>pa d (x2 λe f=>(xP λg=>(xI .i64 λh=>K (.p g)) f) e)))
def ql(a:OA)(K:VK):WK:=br (!(a.isNone)) (nn a λc=>lT (c.add 9) λd=>K (.b d)) (K (.b false))
end Go.Prog
namespace Go.Md
def bJ:Nat:=340282366920938463463374607431768211456
structure bN where
 id:Nat
 dp:Nat
 dq:Nat
 cp:Nat
 cq:Nat
 bF:Int
 code:Int
 ao:Int
 ay:Int
deriving DecidableEq
structure cx where
 id:Nat
 bC:Nat
 aU:Nat
 aT:Nat
 pending:Nat
 cA:Int
 bF:Int
 code:Int
 ao:Int
 ay:Int
 jO:Int
deriving DecidableEq
structure cr where
 asked:cx
 move:cx
 fate:Int
deriving DecidableEq
structure bh where
 aB:List bN
 ax:List cr
 clock:Int
 ay:Int
structure aA where
 dj:List bN
 ax:List cr
 clock:Int
 ay:Int
def has(f b:Int):Prop:=f/b%2=1
instance(f b:Int):Decidable (has f b):=by unfold has;infer_instance
def tH(a:bN):Int:=
 if a.ao<0\/7<a.ao then 3 else if a.id=0 then 4 else if a.id=bJ-1 then 5 else if has a.ao 2/\has a.ao 4 then 6
 else if a.dp≠0\/a.dq≠0\/a.cp≠0\/a.cq≠0\/a.ay≠0 then 7 else if a.bF<=0\/4294967296<=a.bF then 8 else if a.code<=0\/65536<=a.code then 9 else 0
def qG(a b:bN):Int:=if a.bF=b.bF/\a.code=b.code/\a.ao/2%4=b.ao/2%4 then 10 else 11
def jM(f:Int):Prop:=has f 4\/has f 8
instance(f:Int):Decidable (jM f):=by unfold jM;infer_instance
def jn(f:Int):Prop:= ¬(has f 2/\has f 4\/has f 2/\has f 8\/has f 4/\has f 8)/\ ¬(jM f/\16<=f)/\(f<64\/has f 2)
instance(f:Int):Decidable (jn f):=by unfold jn;infer_instance
def mM(t:cx):Int:=
 if t.ao<0\/255<t.ao then 3 else if t.id=0 then 4 else if t.id=bJ-1 then 5 else if ¬jn t.ao then 6
 else if t.ay≠0\/t.jO≠0 then 7 else if t.cA<0\/1073741824<t.cA\/0<t.cA/\ ¬has t.ao 2 then 17
 else if jM t.ao then
  (if t.pending=0 then 16 else if t.bF<0\/4294967296<=t.bF then 8 else if t.code<0\/65536<=t.code then 9 else 0)
 else if t.bC=0 then 12 else if t.aU=0 then 13 else if t.bC=t.aU then 14 else if t.pending≠0 then 15 else if t.aT=0/\ ¬has t.ao 16/\ ¬has t.ao 32 then 18
 else if t.bF<1\/4294967296<=t.bF then 8 else if t.code<1\/65536<=t.code then 9 else 0
def qf(t b:cx):Int:=if{t with ao:=t.ao/2}={b with ao:=b.ao/2} then 10 else 11
def S(f:cr->Nat)(l:List cr):Nat:=(l.map f).sum
def y6(f:cr->Nat):S f []=0:=rfl
def se(f:cr->Nat)(k:cr)(l:List cr):S f (k::l)=f k+S f l:=by simp[S]
def Vk(f:cr->Nat)(l m:List cr):S f (l++m)=S f l+S f m:=by simp[S]
def vW(f:cr->Nat)(l:List cr)(k:cr):S f (l++[k])=S f l+f k:=by simp[S]
def IA(f:cr->Nat):∀(l:List cr)(i:Nat)(k:cr)(h:i<l.length),S f (l.set i k)+f l[i]=S f l+f k
 |[],i,k,h=>by simp at h
 |x::l,0,k,h=>by simp[S];omega
 |x::l,i+1,k,h=>by
  have ih:=IA f l i k (by simpa using h);simp only[lA,se,List.getElem_cons_succ];omega
def Vj(f:cr->Nat):∀(l:List cr)(k:cr),k∈l->f k<=S f l
 |[],k,h=>by simp at h
 |x::l,k,h=>by
  rw[se];rcases jX.1 h with h|h
  ·subst h;omega
  ·have:=Vj f l k h;omega
def AX(id:Nat)(k:cr):Nat:=if k.fate=1/\k.move.bC=id then k.move.aT else 0
def AY(id:Nat)(k:cr):Nat:=if k.fate=1/\k.move.aU=id then k.move.aT else 0
def lK(k:cr):Prop:= ¬has k.move.ao 2/\ ¬has k.move.ao 8
instance(k:cr):Decidable (lK k):=by unfold lK;infer_instance
def CE(id:Nat)(k:cr):Nat:=if lK k/\k.move.bC=id then k.move.aT else 0
def CF(id:Nat)(k:cr):Nat:=if lK k/\k.move.aU=id then k.move.aT else 0
def kF(id:Nat)(k:cr):Prop:=(has k.move.ao 64/\k.move.bC=id\/has k.move.ao 128/\k.move.aU=id)/\(k.fate=1\/k.fate=2)
instance(id:Nat)(k:cr):Decidable (kF id k):=by unfold kF;infer_instance
def uR(id:Nat)(k:cr):Nat:=if kF id k then 1 else 0
def add(a b:Nat):Nat:=if a+b<bJ then a+b else 0
def xg(a:bN)(k:cr):bN:=
 {a with dq:=if lK k/\k.move.bC=a.id then add a.dq k.move.aT else a.dq,cq:=if lK k/\k.move.aU=a.id then add a.cq k.move.aT else a.cq,dp:=if k.fate=1/\k.move.bC=a.id then add a.dp k.move.aT else a.dp,cp:=if k.fate=1/\k.move.aU=a.id then add a.cp k.move.aT else a.cp,ao:=if kF a.id k then a.ao%8+8 else a.ao}
def full(l:List cr)(a:bN):bN:=
 {a with dp:=a.dp+S (AX a.id) l,dq:=a.dq+S (CE a.id) l,cp:=a.cp+S (AY a.id) l,cq:=a.cq+S (CF a.id) l,ao:=if S (uR a.id) l=0 then a.ao else a.ao%8+8}
def RC(a:bN)(k:cr)(h1:a.dp+AX a.id k<bJ)(h2:a.dq+CE a.id k<bJ)(h3:a.cp+AY a.id k<bJ)(h4:a.cq+CF a.id k<bJ):xg a k=full [k] a:=by
 have e1:(if k.fate=1/\k.move.bC=a.id then add a.dp k.move.aT else a.dp)=a.dp+S (AX a.id) [k]:=by
  rw[se,y6];unfold AX at h1⊢;by_cases h:k.fate=1/\k.move.bC=a.id
  ·rw[ai h] at h1⊢;rw[ai h];unfold add;rw[ai h1];omega
  ·rw[af h,af h];rfl
 have e2:(if lK k/\k.move.bC=a.id then add a.dq k.move.aT else a.dq)=a.dq+S (CE a.id) [k]:=by
  rw[se,y6];unfold CE at h2⊢;by_cases h:lK k/\k.move.bC=a.id
  ·rw[ai h] at h2⊢;rw[ai h];unfold add;rw[ai h2];omega
  ·rw[af h,af h];rfl
 have e3:(if k.fate=1/\k.move.aU=a.id then add a.cp k.move.aT else a.cp)=a.cp+S (AY a.id) [k]:=by
  rw[se,y6];unfold AY at h3⊢;by_cases h:k.fate=1/\k.move.aU=a.id
  ·rw[ai h] at h3⊢;rw[ai h];unfold add;rw[ai h3];omega
  ·rw[af h,af h];rfl
 have e4:(if lK k/\k.move.aU=a.id then add a.cq k.move.aT else a.cq)=a.cq+S (CF a.id) [k]:=by
  rw[se,y6];unfold CF at h4⊢;by_cases h:lK k/\k.move.aU=a.id
  ·rw[ai h] at h4⊢;rw[ai h];unfold add;rw[ai h4];omega
  ·rw[af h,af h];rfl
 have e5:(if kF a.id k then a.ao%8+8 else a.ao)=if S (uR a.id) [k]=0 then a.ao else a.ao%8+8:=by
  rw[se,y6];unfold uR;by_cases h:kF a.id k
  ·rw[ai h,ai h,af (by omega)]
  ·rw[af h,af h,ai (by omega)]
 unfold xg full;rw[e1,e2,e3,e4,e5]
def Dp(a:bN)(l m:List cr):full m (full l a)=full (l++m) a:=by
 unfold full;dsimp only;simp only[Vk,Nat.add_assoc]
 congr 1
 by_cases h1:S (uR a.id) l=0
 ·rw[ai h1];by_cases h2:S (uR a.id) m=0
  ·rw[ai h2,ai (by omega)]
  ·rw[af h2,af (by omega)]
 ·rw[af h1];by_cases h2:S (uR a.id) m=0
  ·rw[ai h2,af (by omega)]
  ·rw[af h2,af (by omega)];omega
def Ob(a:bN):∀(l:List cr),a.dp+S (AX a.id) l<bJ->a.dq+S (CE a.id) l<bJ->a.cp+S (AY a.id) l<bJ->a.cq+S (CF a.id) l<bJ->l.foldl xg a=full l a:=by
 intro l
 induction l generalizing a with
 |nil=>intros;unfold full;simp[y6]
 |cons k l ih=>
  intro h1 h2 h3 h4;rw[se] at h1 h2 h3 h4;rw[List.foldl_cons,RC a k (by omega) (by omega) (by omega) (by omega)];have MT:(full [k] a).id=a.id:=rfl;have:=ih (full [k] a) (by rw[MT];show a.dp+S (AX a.id) [k]+_<_;rw[se,y6];omega) (by rw[MT];show a.dq+S (CE a.id) [k]+_<_;rw[se,y6];omega)
   (by rw[MT];show a.cp+S (AY a.id) [k]+_<_;rw[se,y6];omega) (by rw[MT];show a.cq+S (CF a.id) [k]+_<_;rw[se,y6];omega)
  rw[this,Dp];rfl
end Go.Md
namespace Go.Up
open Go.Sep Go.Den Go.RowKit Go.Prog Go.Md
instance{a b:Value}{n:Nat}:Wr [a,b] 0 (nm n) (nm n):=⟨rfl,aF _,λv h=>by simp[nm] at h;rcases h with rfl|rfl<;>rfl⟩
instance{m n:Nat}:Wr (nm m) 0 (nm n) (nm n):=⟨rfl,aF _,λv h=>by simp[nm] at h;rcases h with rfl|rfl<;>rfl⟩
instance{a b:Value}{k k':IntKind}{x y:Int}:Wr [a,b] 0 [.int k x,.int k' y] [.int k x,.int k' y]:=⟨rfl,aF _,λv h=>by simp at h;rcases h with rfl|rfl<;>rfl⟩
instance{n:Nat}{k k':IntKind}{x y:Int}:Wr (nm n) 0 [.int k x,.int k' y] [.int k x,.int k' y]:=⟨rfl,aF _,λv h=>by simp at h;rcases h with rfl|rfl<;>rfl⟩
section
variable {W:World} {L:LH} {K:VK} {a b n:Nat}
def u1(h:T W L (K (.b (decide (n=0))))):T W L (iM (nm n) K):=by
 unfold iM;apply ws;intros;exact T.dp h
def aan{x y c:Int}(h1:(0<=x/\0<=y)/\0<=c/\c<=1)(h:T W L (K (.tuple ⟨[.u ((x+y+c)%18446744073709551616),.u ((x+y+c)/18446744073709551616)]⟩))):T W L (rl x y c K):=dJ h1 h
def S7{x y c:Int}(h1:(0<=x/\0<=y/\y<18446744073709551616)/\0<=c/\c<=1)(h:T W L (K (.tuple ⟨[.u ((x-y-c)%18446744073709551616),.u (if x<y+c then 1 else 0)]⟩))):T W L (rj x y c K):=dJ h1 h
def Sd(h:T W L (K (.i (if a=b then 0 else if a<b then-1 else 1)))):T W L (tY (nm a) (nm b) K):=by
 unfold tY
 repeat' first|apply ws;intros|apply wb|apply db<;>intro h1
 all_goals (apply T.fin (T.dp h);simp only[decide_eq_true_eq,decide_eq_false_iff_not,vL,beq_eq_false_iff_ne,ne_eq] at *;congr 1;split<;>(try split)<;>omega)
def CV(h:T W L (K (.b (decide (a<b))))):T W L (rr (nm a) (nm b) K):=by
 unfold rr
 repeat' first|apply ws;intros|apply wb|refine Sd ?_
 apply T.fin (T.dp h)
 congr 1
 simp only[decide_eq_decide];split<;>(try split)<;>omega
def ZV(h:T W L (K (.agg ⟨nm (min a b)⟩))):T W L (yx (nm a) (nm b) K):=by
 unfold yx
 repeat' first|apply ws;intros|apply wb|first|refine CV ?_|apply db<;>intro h1
 all_goals (apply T.fin (T.dp h);simp only[decide_eq_true_eq,decide_eq_false_iff_not] at h1;congr 3;omega)
def TH{x y:Int}(n:Nat)(h1:x=((n/18446744073709551616:Nat):Int))(h2:y=((n%18446744073709551616:Nat):Int)):[Value.int .u64 x,Value.int .u64 y]=nm n:=by rw[h1,h2];rfl
abbrev CQ(a b:Nat):Value:=.tuple ⟨[.agg ⟨nm (if a+b<bJ then a+b else 0)⟩,.b (decide (a+b<bJ))]⟩
abbrev acx(a b:Nat):Value:=.tuple ⟨[.agg ⟨nm (if a<b then 0 else a-b)⟩,.b (decide (b<=a))]⟩
def DD(ha:a<bJ)(hb:b<bJ)(h:T W L (K (CQ a b))):T W L (pZ (nm a) (nm b) K):=by
 unfold bJ at ha hb;unfold pZ
 repeat' first|apply ws;intros|apply wb|first|refine aan (by omega) ?_|apply db<;>intro h1
 all_goals
  apply T.fin (T.dp h);simp only[eY,ne_eq,bne_eq_false_iff_eq] at h1;unfold CQ bJ
 ·rw[af (by omega),aq (by omega)];rfl
 ·rw[ai (by omega),aw (by omega),TH (a+b) (by omega) (by omega)]
def Vf(ha:a<bJ)(hb:b<bJ)(h:T W L (K (acx a b))):T W L (pY (nm a) (nm b) K):=by
 unfold bJ at ha hb;unfold pY
 repeat' first|apply ws;intros|apply wb|first|refine CV ?_|refine S7 (by omega) ?_|refine S7 (by split<;>omega) ?_|apply db<;>intro h1
 all_goals
  apply T.fin (T.dp h);simp only[decide_eq_true_eq,decide_eq_false_iff_not] at h1;unfold acx
 ·rw[ai h1,aq (by omega)];rfl
 ·rw[af h1,aw (by omega),TH (a-b) (by split<;>omega) (by omega)]
end
end Go.Up
namespace Go.Sep
open Go.Den Go.RowKit Go.Prog Go.cH
def Tz{s:BA}(h:s.size<=128):(aZ.pad s).size=128:=by
 unfold aZ.pad;rw[ByteArray.size_append,uG];omega
def aaS(n:Int):(aZ.new n).Ok:=by
 have hn:0<=min2 (max2 n 0) 4096/\min2 (max2 n 0) 4096<=4096:=by unfold min2 max2;split<;>split<;>omega
 refine⟨λs hs=>?_,λp hp=>?_,?_,?_⟩
 ·simp only[aZ.new,List.mem_replicate] at hs;rw[hs.2];exact uG 128
 ·simp[aZ.new] at hp
 ·simp only[aZ.new,iF];omega
 ·simp[aZ.new]
def oN(D:aZ)(mask torn cut:Int):D.fM mask torn cut=⟨eV mask torn (min2 (max2 cut 0) 128) D.safe D.later D.later.length,[],D.ops,0⟩:=by
 unfold aZ.fM;have:=xK mask torn (min2 (max2 cut 0) 128) D.later D.safe D.later.length 0 (by omega);simp only[iK,eV] at this;rw[this]
def sy(D:aZ)(i:Int)(s:BA):(D.write i s).1.safe=D.safe/\(D.write i s).1.later.length<=D.later.length+1:=by
 unfold aZ.write;split
 ·exact⟨rfl,by simp⟩
 ·split
  ·exact⟨rfl,by simp[aZ.tick]⟩
  ·exact⟨rfl,by simp⟩
def Kg{D:aZ}(h:D.Ok)(i:Int)(s:BA)(hl:D.later.length+1<1099511627776):(D.write i s).1.Ok:=by
 have h2:=sy D i s;refine⟨by rw[h2.1];exact h.safe,?_,by rw[h2.1];exact h.oS,by omega⟩;rw[h2.1];unfold aZ.write;split
 ·exact h.later
 ·rename_i hg;split
  ·exact h.later
  ·intro p hp;simp only[dY,CX] at hp;rcases hp with hp|hp
   ·exact h.later p hp
   ·subst hp;have MW:D.is i:=by
     by_cases hh:D.is i
     ·exact hh
     ·exact aQ (.inl hh) hg
    have GG: ¬128<s.size:=λhh=>hg (.inr hh);exact⟨Tz (by omega),MW.1,MW.2⟩
def L9{mask torn c:Int}(hc:0<=c/\c<=128){safe:List BA}{k:Nat}{p:Int×BA}(hs:∀s∈safe,s.size=128)(hp:p.2.size=128/\0<=p.1/\p.1<safe.length):
 ∀s∈aZ.nM mask torn c safe k p,s.size=128:=by
 intro s hm;have BG:p.1.toNat<safe.length:=by omega
 unfold aZ.nM at hm;split at hm
 ·rcases fm hm with hm|hm
  ·exact hs s hm
  ·rw[hm];have:=hs _ (cb BG);rw[jT,aj BG,dz,ByteArray.size_append,tq,tq,this,hp.1];omega
 ·split at hm
  ·rcases fm hm with hm|hm
   ·exact hs s hm
   ·rw[hm];exact hp.1
  ·exact hs s hm
def y3{mask torn c:Int}(hc:0<=c/\c<=128){safe:List BA}{later:List (Int×BA)}(hs:∀s∈safe,s.size=128)(hp:∀p∈later,p.2.size=128/\0<=p.1/\p.1<safe.length):
 ∀j,∀s∈eV mask torn c safe later j,s.size=128
 |0=>hs
 |j+1=>by
  simp only[eV];cases hl:later[j]? with
  |none=>exact y3 hc hs hp j
  |some p=>
   apply L9 hc (y3 hc hs hp j);rw[jz];exact hp p (cn hl)
def UG(cut:Int):0<=min2 (max2 cut 0) 128/\min2 (max2 cut 0) 128<=128:=by unfold min2 max2;split<;>split<;>omega
def BR{D:aZ}(h:D.Ok)(mask torn cut:Int):(D.fM mask torn cut).Ok:=by
 rw[oN];refine⟨y3 (UG cut) h.safe h.later _,λp hp=>by simp at hp,by simp only[jz];exact h.oS,by simp⟩
def G4{later:List (Int×BA)}:∀{safe:List BA},(∀s∈safe,s.size=128)->(∀p∈later,p.2.size=128)->∀s∈later.foldl aZ.put safe,s.size=128:=by
 induction later with
 |nil=>exact λhs _=>hs
 |cons p l ih=>
  intro safe hs hp;rw[List.foldl_cons];refine ih (λs hm=>?_) (λq hq=>hp q (fJ _ hq));rcases fm hm with hm|hm
  ·exact hs s hm
  ·rw[hm];exact hp p (pL)
def IP{D:aZ}(h:D.Ok):D.sync.1.Ok:=by
 unfold aZ.sync;split
 ·exact⟨h.safe,h.later,h.oS,h.less⟩
 ·refine⟨G4 h.safe λp hp=>(h.later p hp).1,λp hp=>by simp at hp,?_,by simp⟩;show(D.later.foldl aZ.put D.safe).length<=4096;rw[oM];exact h.oS
def zb{D:aZ}(h:D.later=[]){i:Nat}(hi:i<D.safe.length):D.read (i:Int)=(D.safe[i],0):=by
 unfold aZ.read;rw[ai ⟨by omega,by omega⟩];simp[aZ.now,aZ.last,h,hi]
section
variable {W w:World} {L:LH}
end
end Go.Sep
namespace Go.Sep
open Go.Den Go.RowKit Go.ChangeShapes Go.WideShapes
inductive CK where
 |i(k:IntKind)
 |b
 |s
deriving DecidableEq
def CK.is:CK->Value->Prop
 | .i k,v=>∃n,v=.int k n/\(Lit.int k n).wf=true
 | .b,v=>∃x,v=.bool x
 | .s,v=>∃x,v=.string x/\x.size<=reachBytes
def Typed(ks:List CK)(cs:LV)(o:Nat):Prop:=∀j k,ks[j]?=some k->∃v,cs[o+j]?=some v/\k.is v
def sH(P:Program)(f:TypeId->Option (List CK)):Nat->List Field->Option (List CK)
 |_,[]=>some []
 |o,fd::r=>match f fd.type with
  |some a=>if fd.offset=o/\P.cellsOf fd.type=a.length then(sH P f (o+a.length) r).map (a++·) else none
  |none=>none
def flat(P:Program):Nat->TypeId->Option (List CK)
 |0,_=>none
 |n+1,t=>match P.underlying t with
  |some (.int k)=>some [.i k]
  |some .bool=>some [.b]
  |some .string=>some [.s]
  |some (.struct fs)=>sH P (flat P n) 0 fs.toList
  |_=>none
section
variable {H:Type} {enc:TypeId×Value->H} {P:Program} {w:World} {base:Nat} {spare:Nat->Bool} {held:Bool}
def BN{f:TypeId->Option (List CK)}{m:Nat}{cs:LV}
 (hf:∀t ks cs x,f t=some ks->DataW.trod enc P w base spare held m t cs=some x->(∀n∈x.1.weights P t,n<=reachBytes)->Typed ks cs 0):
 ∀(fs:List Field)(o:Nat)(ks:List CK)(xs:List (DataW H×List MemPlace)),sH P f o fs=some ks->
  (∀(i:Nat)(fd:Field),fs[i]?=some fd->DataW.trod enc P w base spare held m fd.type ((cs.drop fd.offset).take (P.cellsOf fd.type))=xs[i]?)->xs.length=fs.length->
  (∀n∈DataW.weightsEach P (fs.map (·.type)) (xs.map (·.1)),n<=reachBytes)->Typed ks cs o
 |[],o,ks,xs,h,_,_,_=>by
  simp only[sH,bE.injEq] at h;subst h;intro j k hj;simp at hj
 |fd::r,o,ks,[],h,hx,hl,hw=>by simp at hl
 |fd::r,o,ks,x::xs,h,hx,hl,hw=>by
  simp only[sH] at h;cases ha:f fd.type with
  |none=>simp[ha] at h
  |some a=>
   simp only[ha] at h;split at h
   ·rename_i hc;cases hb:sH P f (o+a.length) r with
    |none=>simp[hb] at h
    |some b=>
     simp only[hb,fF,bE.injEq] at h;subst h;simp only[dA,DataW.weightsEach,dY] at hw;have h1:=hf fd.type a _ x ha (by have:=hx 0 fd rfl;simpa using this) (λn hn=>hw n (.inl hn));have h2:=BN hf r (o+a.length) b xs hb (λi g hg=>by have:=hx (i+1) g (by simpa using hg);simpa using this) (by simpa using hl) (λn hn=>hw n (.inr hn));intro j k hj;by_cases hja:j<a.length
     ·rw[cO hja] at hj;obtain⟨v,hv,hk⟩:=h1 j k hj;refine⟨v,?_,hk⟩;rw[hc.1,hc.2,aD,List.getElem?_take_of_lt hja,lC] at hv;exact hv
     ·rw[iJ (by omega)] at hj;obtain⟨v,hv,hk⟩:=h2 (j-a.length) k hj;refine⟨v,?_,hk⟩;rw[show o+j=o+a.length+(j-a.length) from by omega];exact hv
   ·cases h
def FZ:∀(f:Nat)(m:Nat)(t:TypeId)(ks:List CK)(cs:LV)(x:DataW H×List MemPlace),flat P f t=some ks->DataW.trod enc P w base spare held m t cs=some x->
 (∀n∈x.1.weights P t,n<=reachBytes)->Typed ks cs 0
 |0,_,_,_,_,_,h,_,_=>by simp[flat] at h
 |f+1,m,t,ks,cs,x,h,hx,hw=>by
  unfold flat at h;split at h
  ·rename_i k ht;cases h
   obtain⟨n,rfl,rfl,hwf⟩:=DataW.trod_int ht hx;intro j k' hj;cases j with
   |zero=>simp at hj;subst hj;exact⟨_,rfl,n,rfl,hwf⟩
   |succ j=>simp at hj
  ·rename_i ht;cases h
   obtain⟨n,rfl,rfl⟩:=DataW.trod_bool ht hx;intro j k' hj;cases j with
   |zero=>simp at hj;subst hj;exact⟨_,rfl,n,rfl⟩
   |succ j=>simp at hj
  ·rename_i ht;cases h
   obtain⟨n,rfl,rfl,_⟩:=DataW.trod_string ht hx;intro j k' hj;cases j with
   |zero=>simp at hj;subst hj;exact⟨_,rfl,n,rfl,by have:=hw n.data.toList.length (by simp[DataW.weights]);simpa using this⟩
   |succ j=>simp at hj
  ·rename_i fs ht;obtain⟨xs,n,rfl,rfl,hl,hlen,hf⟩:=DataW.trod_struct ht hx;refine BN (m:=n) (λt ks cs x h1 h2 h3=>FZ f n t ks cs x h1 h2 h3) fs.toList 0 ks xs h (λi fd hi=>hf i fd (by simpa using hi)) (by simpa using hlen) (λn hn=>hw n ?_);simp only[DataW.weights,ht];exact hn
  ·cases h
def MG(ks:List CK)(n:Nat)(xs:LV):Prop:=∀i,i<n->Typed ks xs (i* ks.length)
def yy{e:TypeId}:∀{ds:List (DataW H)} {d:DataW H},d∈ds->∀n∈d.weights P e,n∈DataW.weightsAll P e ds
 |[],d,h,_,_=>by simp at h
 |d0::ds,d,h,n,hn=>by
  simp only[DataW.weightsAll,dY];rcases jX.1 h with h|h
  ·subst h;exact .inl hn
  ·exact .inr (yy h n hn)
def As{t e:TypeId}{f:Nat}{ks:List CK}{v:Value}{r:Reach}{b0:Nat}{d:DataW H}{ps:List MemPlace}(ht:P.underlying t=some (.slice e))(he:flat P f e=some ks)(hc:P.cellsOf e=ks.length)
 (Aw:Value.okWide P w r b0 t v)(hd:DataW.Trod enc P w base spare held t v d ps)(hw:∀n∈d.weights P t,n<=reachBytes):
 ∃b n c xs,v=.slice b n c/\Ro w b n ks.length xs/\MG ks n xs/\n* P.bytesOf e<=reachBytes/\n<=maxLen:=by
 obtain⟨b,n,c,rfl⟩:=okWide_slice ht Aw;obtain⟨m,hm⟩:=hd;rcases Go.Deep.open_slice ht hm with⟨MY,hx⟩|⟨a,len,cap,k,n',D,Pl,MY,hb,hl,hmx,hk,hx,zW⟩
 ·simp[Value.cells] at MY;obtain⟨rfl,rfl,rfl⟩:=MY;refine⟨none,0,0,[],rfl,⟨by simp,λ_=>rfl,λa h=>by cases h⟩,λi h=>by omega,by simp,by decide⟩
 ·simp[Value.cells] at MY;obtain⟨rfl,rfl,rfl⟩:=MY;obtain⟨hx,_⟩:=Prod.mk.inj hx;subst hx;have XB:n<=k:=by rw[hk];split<;>omega
  simp only[DataW.weights,ht] at hw;have pV:∀i,i<n->∀j,j<ks.length->∃v,w.cell? (a.add (i* ks.length+j))=some v:=λi hi j hj=>by
   obtain⟨vZ,h1,h2⟩:=zW i (by omega);obtain⟨_,h3,h4⟩:=World.cells?_some h1;rw[hc] at h3 h4;refine⟨vZ[j],?_⟩;rw[<-add_add,h4 j hj];simp[h3,hj]
  have zE:∀j,j<n* ks.length->∃v,w.cell? (a.add j)=some v:=λj hj=>by
   have Ly:0<ks.length:=by
    cases hks:ks.length with
    |zero=>rw[hks] at hj;omega
    |succ x=>omega
   have h1:j/ks.length<n:=by rw[Nat.div_lt_iff_lt_mul Ly];exact hj
   have h2:j%ks.length<ks.length:=Nat.mod_lt _ Ly;obtain⟨v,hv⟩:=pV _ h1 _ h2;refine⟨v,?_⟩;rw[<-hv];congr 2;have:=Nat.div_add_mod j ks.length;rw[vK] at this;omega
  refine⟨some a,n,c,(pK (n* ks.length)).map λj=>(w.cell? (a.add j)).getD (.bool false),rfl,⟨by simp,λh=>(by cases h),λa' ha' j v hv=>?_⟩,λi hi j k' AU=>?_,?_,by omega⟩
  ·cases ha'
   rw[dU,Option.map_eq_some_iff] at hv;obtain⟨j',MR,rfl⟩:=hv;obtain⟨cj,rfl⟩:=av.1 MR;simp only[List.length_range] at cj;simp only[List.getElem_range];obtain⟨v,hv⟩:=zE j cj;rw[hv];rfl
  ·obtain⟨vZ,h1,h2⟩:=zW i (by omega);obtain⟨_,h3,h4⟩:=World.cells?_some h1;rw[hc] at h3 h4;have hj:j<ks.length:=(av.1 AU).1;have h5:=FZ f n' e ks vZ (D i,Pl i) he h2 (λx hx=>hw x (by
    simp only[jX,dY]
    refine .inr (.inl (yy ?_ x hx))
    exact dF.2 ⟨i,List.mem_range.2 hi,rfl⟩))
   obtain⟨v,hv,hkv⟩:=h5 j k' AU;refine⟨v,?_,hkv⟩;have cj:i* ks.length+j<n* ks.length:=by
    have:(i+1)* ks.length<=n* ks.length:=iw _ hi;rw[mn] at this;omega
   rw[dU,q8 cj,fF,<-add_add,hc] at *;rw[aD] at hv;rw[h4 j hj,hv];rfl
  ·have:=hw _ (pL);simp only[bY,List.length_range] at this;exact zy (iw _ (by omega)) this
def Below.trodAll(hl:laidOutB P=true){W W':World}(hb:Below W.heap.size W W'):
 ∀{ts:List TypeId} {vs:LV} {ds:List (DataW H)} {ps:List MemPlace},ts.all (λt=>P.readableRec t&&decide (t<P.types.size))=true->
 DataW.TrodAll enc P W 0 (λ_=>true) true ts vs ds ps->DataW.TrodAll enc P W' 0 (λb=>decide (b<W.heap.size)) true ts vs ds ps
 |[],vs,ds,ps,_,h=>by
  cases vs<;>cases ds<;>simp[DataW.TrodAll] at h⊢
  exact h
 |t::ts,vs,ds,ps,hr,h=>by
  simp only[List.all_cons,dh,decide_eq_true_eq] at hr;have cj:=DataW.TrodAll.lt h;obtain⟨v,GA,d,ds',p,q,rfl,rfl,rfl,h1,h2⟩:=trodAll_cons h;exact⟨p,q,Go.RowKit.Below.trod hl hr.1.1 hr.1.2 h1 hb (λx hx=>cj x (by simp[hx])),Below.trodAll hl hb hr.2 h2,rfl⟩
end
end Go.Sep
namespace Go.Sep
open Go.Den Go.RowKit Go.Prog Go.cH
def iS{z ys:LV}(h:ys.length=z.length):over z 0 ys=ys:=by
 unfold over;rw[og,cT,aD,fB (by omega),bO]
section
variable {W w:World} {L:LH} {b:OA} {n e:Nat} {xs:LV}
end
section
variable {W w:World} {L:LH}
end
namespace Dk
variable {D:Go.cH.aZ}
open Go.cH.aZ (last put pad)
def Us(h:D.arm=0):D.vt=false:=by simp[Go.cH.aZ.vt,h]
def YX(h:D.arm=0):D.tick.arm=0:=by simp[Go.cH.aZ.tick,h]
def IE(h:D.arm=0)(i:Int)(s:BA):D.write i s=if ¬D.is i\/128<s.size then(D,1) else({Go.cH.aZ.tick D with later:=D.later++[(i,pad s)]},0):=by
 unfold Go.cH.aZ.write;rw[Us h];rfl
def ED(h:D.arm=0)(i:Int)(s:BA):(D.write i s).1.arm=0:=by
 rw[IE h];split
 ·exact h
 ·exact YX h
def O7(h:D.arm=0):D.sync=({D.tick with safe:=D.later.foldl put D.safe,later:=[]},0):=by
 unfold Go.cH.aZ.sync;rw[Us h];rfl
def tw(l:List (Int×BA))(p:Int×BA)(i:Int):last (l++[p]) i=if p.1=i then some p.2 else last l i:=by
 unfold last;rw[List.reverse_append];simp only[xW,List.reverse_nil,cT,List.singleton_append,List.find?_cons];by_cases h:p.1=i
 ·simp[h]
 ·have:(p.1==i)=false:=by simp[h]
  rw[this,af h]
def FA(h:D.arm=0)(n i:Int)(s:BA):(D.write n s).1.now i=if(D.is n/\s.size<=128)/\n=i then pad s else D.now i:=by
 rw[IE h];by_cases hw: ¬D.is n\/128<s.size
 ·rw[ai hw,af];rintro⟨⟨h1,h2⟩,_⟩;rcases hw with hw|hw
  ·exact hw h1
  ·omega
 ·rw[af hw];have h1:D.is n:=by
   by_cases hh:D.is n
   ·exact hh
   ·exact aQ (.inl hh) hw
  have h2:s.size<=128:=by
   by_cases hh:s.size<=128
   ·exact hh
   ·exact aQ (.inr (by omega)) hw
  simp only[Go.cH.aZ.now,Go.cH.aZ.tick,tw];by_cases hni:n=i
  ·rw[ai hni,ai ⟨⟨h1,h2⟩,hni⟩];rfl
  ·rw[af hni,af (λhh=>hni hh.2)]
def zl(l:List (Int×BA))(p:Int×BA)(i:Int):last (p::l) i=(last l i).or (if p.1=i then some p.2 else none):=by
 unfold last;rw[xW,List.find?_append];by_cases h:p.1=i
 ·cases List.find? (λp=>p.1==i) l.reverse<;>simp[h]
 ·have:(p.1==i)=false:=by simp[h]
  cases List.find? (λp=>p.1==i) l.reverse<;>simp[h,this]
def zY{i:Int}(hi:0<=i):∀(l:List (Int×BA))(safe:List BA),i<safe.length->(∀p∈l,0<=p.1)->(l.foldl put safe).getD i.toNat .empty=(last l i).getD (safe.getD i.toNat .empty):=by
 intro l
 induction l with
 |nil=>intro safe _ _;rfl
 |cons p l ih=>
  intro safe hs hp;rw[List.foldl_cons,zl,ih _ (by simp[put];exact hs) (λq hq=>hp q (fJ _ hq))];have hp0:=hp p (by simp);have hlen:i.toNat<safe.length:=by omega
  have e:(put safe p).getD i.toNat .empty=if p.1=i then p.2 else safe.getD i.toNat .empty:=by
   unfold put;by_cases MN:p.1=i
   ·rw[ai MN,MN,jT,List.getElem?_set_self hlen];rfl
   ·rw[af MN,jT,OP (by omega),<-jT]
  rw[e];cases last l i with
  |some x=>rfl
  |none=>by_cases MN:p.1=i<;>simp[MN]
def Q8(h:D.arm=0)(iE:D.Ok){i:Int}(hi:D.is i):D.sync.1.now i=D.now i:=by
 rw[O7 h];have:=zY hi.1 D.later D.safe hi.2 (λp hp=>(iE.later p hp).2.1);simp only[Go.cH.aZ.now,last,List.reverse_nil,List.find?_nil,Option.map_none,gN];exact this
def Kz:D.sync.1.safe.length=D.safe.length/\D.sync.1.later.length<=D.later.length:=by
 unfold Go.cH.aZ.sync;split
 ·exact⟨rfl,aF _⟩
 ·exact⟨oM _ _,aE _⟩
def QE(h:D.arm=0):D.sync.1.arm=0:=by rw[O7 h];exact YX h
end Dk
end Go.Sep
namespace Go.Sep
open Go.Den Go.RowKit Go.Prog Go.cH
def bs(l:List UInt8):BA:=⟨l.toArray⟩
def cf(l:List UInt8):(bs l).size=l.length:=rfl
def Qk(s:BA):bs s.data.toList=s:=rfl
def vf(x:UInt8):Value:=.int .u8 (x.toNat:Int)
def byteOf(k:IntKind)(n:Int)(i:Nat):UInt8:=UInt8.ofNat (IntKind.u8.wrap (shr k n (8* (i:Int)))).toNat
def le(k:IntKind)(w:Nat)(n:Int):List UInt8:=(pK w).map (byteOf k n)
def aP(k:IntKind)(w:Nat)(n:Int):(le k w n).length=w:=by simp[le]
def wY(n:Int):0<=IntKind.u8.wrap n/\IntKind.u8.wrap n<256:=by
 simp[IntKind.wrap,IntKind.bits,IntKind.signed];omega
def uo{n:Int}(h:0<=n/\n<256):vf (UInt8.ofNat n.toNat)=.int .u8 n:=by
 unfold vf
 congr 1
 have:n.toNat<256:=by omega
 rw[UInt8.toNat_ofNat_of_lt' (by exact this)];omega
def Dw(l:List UInt8):bytesOf (l.map vf)=l:=by
 unfold bytesOf;rw[um]
 conv=>rhs;rw[<-List.map_id l]
 refine mI λx _=>?_;simp[vf]
def strCells_eq(s:BA):strCells s=s.data.toList.map vf:=rfl
def buf(p:Nat)(l:List UInt8):HP:=So λ(v:OA×Nat)=>sep (pt p [.l v.1 l.length v.2]) (own v.1 l.length v.2 1 (l.map vf))
section
variable {W w:World} {L:LH} {k p:Nat} {l:List UInt8}
def Gg(h:St W w L)(hk:L[k]?=some (buf p l)):∃b c,St W w (pt p [.l b l.length c]::own b l.length c 1 (l.map vf)::L.eraseIdx k):=by
 obtain⟨⟨b,c⟩,h1⟩:=(h.focus hk).ex;exact⟨b,c,h1.split⟩
def uA{b:OA}{c n:Nat}{A:HP}(hk:L[k]?=some A)(hn:n=l.length)(h:St W w (pt p [.l b n c]::own b n c 1 (l.map vf)::L.eraseIdx k)):St W w (L.set k (buf p l)):=by
 subst hn;refine St.rH (A:=A) ?_ hk;exact St.qR (b,c) (St.join h)
def Yr{b:OA}{n c:Nat}{K:BA->WK}(h:St W w L)(hk:L[k]?=some (own b n c 1 (l.map vf)))(hK:K (bs l) w):U2 b n K w:=by
 have hl:=(h.oI hk).1;rw[bY,mm] at hl;have Ax:=Qt h hk;refine⟨λhb=>?_,λa ha=>⟨l.map vf,by rw[bY];exact hl,Ax.1.2 a ha,λv hv=>?_,?_⟩⟩
 ·have:n=0:=Ax.2 hb;have Sk:l=[]:=List.length_eq_zero_iff.1 (by omega);subst Sk;exact hK
 ·obtain⟨x,_,rfl⟩:=dF.1 hv;exact⟨_,rfl⟩
 ·rw[Dw];exact hK
def OB{r n:Nat}{K:BA->WK}(h:St W w L)(hk:L[k]?=some (pt r (l.map vf)))(hn:n=l.length)(hK:K (bs l) w):U2 (ah r) n K w:=by
 refine⟨λhb=>(by cases hb),λa ha=>⟨l.map vf,by rw[bY,hn],?_,λv hv=>?_,?_⟩⟩
 ·cases ha
  exact wP h hk λj v hj=>by rw[aD];exact hj
 ·obtain⟨x,_,rfl⟩:=dF.1 hv;exact⟨_,rfl⟩
 ·rw[Dw];exact hK
def kA{m n:Int}{K:VK}(h:St W w L)(hk:L[k]?=some (buf p l))(hl:l.length<1099511627776)
 (hK:∀w',St W w' (L.set k (buf p (l++le .i64 (min2 (max2 m 1) 8).toNat n)))->K (.tuple ⟨[]⟩) w'):bu (ah p) m n K w:=by
 have hm:1<=min2 (max2 m 1) 8/\min2 (max2 m 1) 8<=8:=by unfold min2 max2;split<;>split<;>omega
 unfold bu;generalize min2 (max2 m 1) 8=q at *;obtain⟨b,c,hs⟩:=Gg h hk;refine⟨λus w'=>∃(j:Nat)(b:OA)(c:Nat),us=[.i q,.i j]/\(j:Int)<=q/\St W w' (pt p [.l b (l++le .i64 j n).length c]::own b (l++le .i64 j n).length c 1 ((l++le .i64 j n).map vf)::L.eraseIdx k),
  λus _=>match us with|[_,.int _ j]=>(q-j).toNat|_=>0,⟨0,b,c,rfl,by omega,?_⟩,?_⟩
 ·have e:l++le .i64 0 n=l:=by simp[le]
  rw[e];exact hs
 rintro n3 n4 w2 ⟨j,b,c,he,hj,hs⟩;cases he
 refine fQ (λh0=>?_) (λh0=>?_)
 ·refine mw hs λw hs=>?_;simp only[nz,ae,ag];apply cX (k:=0) hs rfl rfl;simp only[nz,ae,ag];have e8:aa.wrap (8* (j:Int))=8* (j:Int):=aX (by omega);rw[e8];refine⟨by omega,?_⟩;have hb8:Value.int .u8 (IntKind.u8.wrap (shr .i64 n (8* (j:Int))))=vf (byteOf .i64 n j):=by
   unfold byteOf;rw[uo (wY _)]
  rw[hb8];refine je hs λr w hs=>?_;apply kC (k:=1) hs rfl rfl;have hlen:(l++le .i64 j n).length=l.length+j:=by rw[au,aP]
  refine uD (k:=2) (ys:=[vf (byteOf .i64 n j)]) hs rfl (Gr (k':=0) hs rfl rfl λj v hj=>by rw[aD];exact hj) (by simp) rfl (by omega) (by omega) (by simp[Value.oneCell',vf]) λb' c' w hs=>?_;simp only[nz,ae,ag] at hs⊢;refine oX (k:=1) hs rfl (aI rfl) rfl λw hs=>?_;simp only[nz,ae,ag] at hs;have e5:=m9 j;rw[e5];refine⟨⟨j+1,b',c',rfl,by omega,?_⟩,by omega⟩;have e6:l++le .i64 (j+1) n=(l++le .i64 j n)++[byteOf .i64 n j]:=by
   unfold le;rw[List.range_succ,cU,aH];rfl
  rw[e6,au,cU];exact hs.drop
 ·have Jp:(j:Int)=q:=by omega
  apply hK _;have:q.toNat=j:=by omega
  rw[this];exact uA hk rfl hs
def q6{s:BA}{K:VK}(h:St W w L)(hk:L[k]?=some (buf p l))(hl:l.length+s.size<1099511627776)
 (hK:∀w',St W w' (L.set k (buf p (l++s.data.toList)))->K (.tuple ⟨[]⟩) w'):lY (ah p) s K w:=by
 unfold lY;obtain⟨b,c,hs⟩:=Gg h hk;simp only[nz,ae,ag];apply cX (k:=0) hs rfl rfl;simp only[nz,ae,ag];refine Gk (k:=1) hs rfl (by omega) λb' c' w hs=>?_;simp only[nz,ae,ag] at hs⊢;refine oX (k:=0) hs rfl (aI rfl) rfl λw hs=>?_;simp only[nz,ae,ag] at hs;refine hK w (uA (b:=b') (c:=c') (n:=l.length+s.size) hk (by rw[au];rfl) ?_);rw[cU,<-strCells_eq];exact hs
def mZ{K:VK}(h:St W w L)(hk:L[k]?=some (buf p l))(hK:K (.s (bs l)) w):dG (ah p) K w:=by
 unfold dG;obtain⟨b,c,hs⟩:=Gg h hk;simp only[nz,ae,ag];apply cX (k:=0) hs rfl rfl;simp only[nz,ae,ag];exact Yr (k:=1) hs rfl hK
def UI(n:Int):Nat->Int
 |0=>n
 |j+1=>de .u32 .xor (shr .u32 (UI n j) 1) (de .u32 .and 2197175160 (IntKind.u32.wrap (0-(de .u32 .and (UI n j) 1))))
def Yd(n:Int)(c:UInt8):Int:=UI (de .u32 .xor n (IntKind.u32.wrap (c.toNat:Int))) 8
def UH(n:Int)(l:List UInt8):Int:=l.foldl Yd n
def tp(n:Int)(l:List UInt8):Int:=de .u32 .xor 4294967295 (UH (de .u32 .xor 4294967295 n) l)
def isW(w w':World):Prop:=w'=w
def MB{n:Int}{s:BA}{K:VK}(hs:s.size<1099511627776)(hK:K (.int .u32 (tp n s.data.toList)) w):uW n s K w:=by
 unfold uW;refine⟨λus w'=>∃j:Nat,us=[.int .u32 0,.int .u32 (UH (de .u32 .xor 4294967295 n) (s.data.toList.take j)),.i s.size,.i j]/\j<=s.size/\isW w w',
  λus _=>match us with|[_,_,_,.int _ j]=>s.size-j.toNat|_=>0,⟨0,rfl,aE _,rfl⟩,?_⟩
 rintro n2 n3 n4 n5 w2 ⟨j,he,hj,hw⟩;obtain rfl:w2=w:=hw;cases he
 have hlen:s.data.toList.length=s.size:=rfl;generalize hb:decide ((j:Int)<(s.size:Int))=b;cases b
 ·have iO:=bq hb;rw[dX];have:j=s.size:=by omega
  subst this;rw[bG (by omega)];exact hK
 ·have cj:=aS hb;rw[kZ];have T9:j<s.data.toList.length:=by omega
  refine⟨s.data.toList[j],⟨by omega,by simp[T9]⟩,?_⟩;generalize hc:s.data.toList[j]=c;generalize hx:UH (de .u32 .xor 4294967295 n) (s.data.toList.take j)=x;refine⟨λus w'=>∃i:Nat,us=[.int .u32 0,.int .u32 (UI (de .u32 .xor x (IntKind.u32.wrap (c.toNat:Int))) i),.i j,.i s.size,.i j,.b true,.i j,.int .u32 x,.s s,.i j,.int .u8 (c.toNat:Int),.int .u32 (IntKind.u32.wrap (c.toNat:Int)),.int .u32 (de .u32 .xor x (IntKind.u32.wrap (c.toNat:Int))),.i i]/\i<=8/\isW w2 w',
   λus _=>match us with|[_,_,_,_,_,_,_,_,_,_,_,_,_,.int _ i]=>8-i.toNat|_=>0,⟨0,rfl,aE _,rfl⟩,?_⟩
  rintro n6 n7 n8 n9 Zl b1 MK Ld s2 VE Rb NP yb n17 w4 ⟨i,he,hi,hw⟩;obtain rfl:w4=w2:=hw;cases he
  generalize wE:decide ((i:Int)<8)=b2;cases b2
  ·have iO:=bq wE;rw[dX];have hi8:i=8:=by omega
   subst hi8;have e5:=m9 j;rw[e5];refine⟨⟨j+1,?_,by omega,rfl⟩,by dsimp only;omega⟩;have e6:UH (de .u32 .xor 4294967295 n) (s.data.toList.take (j+1))=UI (de .u32 .xor x (IntKind.u32.wrap (c.toNat:Int))) 8:=by
    rw[qA T9];unfold UH at hx⊢;rw[List.foldl_append,hx,hc];rfl
   rw[e6]
  ·have xx:=aS wE;rw[kZ];refine⟨by decide,?_⟩;have e5:=m9 i;rw[e5];exact⟨⟨i+1,rfl,by omega,rfl⟩,by dsimp only;omega⟩
def vT(n:Int):List UInt8:=le .u32 4 n
def y5{n:Int}{K:VK}(h:St W w L)(hn:0<=n/\n<4294967296)(hK:∀w',St W w' L->K (.s (bs (vT n))) w'):rX n K w:=by
 unfold rX;refine⟨by decide,by decide,by decide,⟨rfl,rfl,rfl,rfl,trivial⟩,je h λr w hs=>?_⟩;have e0:Value.int .u8 (IntKind.u8.wrap n)=vf (byteOf .u32 n 0):=by
  unfold byteOf;rw[uo (wY _)];have:shr .u32 n (8* ((0:Nat):Int))=n:=by simp[shr]
  rw[this]
 have e:∀i:Nat,Value.int .u8 (IntKind.u8.wrap (shr .u32 n (8* (i:Int))))=vf (byteOf .u32 n i):=λi=>by
  unfold byteOf;rw[uo (wY _)]
 have e1:=e 1;have e2:=e 2;have e3:=e 3;have zW:[Value.int .u8 (IntKind.u8.wrap n),.int .u8 (IntKind.u8.wrap (shr .u32 n 8)),.int .u8 (IntKind.u8.wrap (shr .u32 n 16)),.int .u8 (IntKind.u8.wrap (shr .u32 n 24))]=(vT n).map vf:=by
  rw[e0,show(8:Int)=8* ((1:Nat):Int) from rfl,show(16:Int)=8* ((2:Nat):Int) from rfl,show(24:Int)=8* ((3:Nat):Int) from rfl,e1,e2,e3]
  rfl
 rw[zW] at hs;exact OB (k:=0) hs rfl rfl (hK w hs.drop)
end
def fk(n i:Int)(s:BA):Prop:=1<=n/\n<=1152921504606846976/\0<=i/\i<4096/\s.size<=104
instance(n i:Int)(s:BA):Decidable (fk n i s):=by unfold fk;infer_instance
def pre(n i:Int)(s:BA):List UInt8:=le .i64 8 n++le .i64 2 i++le .i64 2 s.size++s.data.toList++bj (104-s.size) 0
def mH(n i:Int)(s:BA):List UInt8:=pre n i s++vT (tp 0 (pre n i s))++le .i64 8 n
def leaf(n i:Int)(s:BA):BA:=if fk n i s then bs (mH n i s) else .empty
def re{n i:Int}{s:BA}(h:s.size<=104):(pre n i s).length=116:=by
 have:s.data.toList.length=s.size:=rfl;simp only[pre,au,aP,iF];omega
def xp{n i:Int}{s:BA}(h:s.size<=104):(mH n i s).length=128:=by
 simp only[mH,au,aP,re h,vT]
def uv{n i:Int}{s:BA}(h:fk n i s):(leaf n i s).size=128:=by
 unfold leaf;rw[ai h,cf,xp h.2.2.2.2]
def CZ(n:Int):0<=IntKind.u32.wrap n/\IntKind.u32.wrap n<4294967296:=by
 simp[IntKind.wrap,IntKind.bits,IntKind.signed];omega
section
variable {W w:World} {L:LH} {k d:Nat} {D:aZ}
def Ic{n i:Int}{s:BA}{K:VK}(h:St W w L)(hK:∀w',St W w' L->K (.b (decide (fk n i s))) w'):uJ [.i n,.i i,.s s] K w:=by
 unfold uJ;refine je h λr w hs=>?_;have hh:=hK w hs.drop;simp only[nz,ae,ag];apply cX (k:=0) hs rfl rfl;simp only[nz,ae,ag];refine fQ (λh1=>?_) (λh1=>?_)
 ·apply cX (k:=0) hs rfl rfl;simp only[nz,ae,ag];refine fQ (λh2=>?_) (λh2=>?_)
  ·apply cX (k:=0) hs rfl rfl;simp only[nz,ae,ag];refine fQ (λh3=>?_) (λh3=>?_)
   ·apply cX (k:=0) hs rfl rfl;simp only[nz,ae,ag];refine fQ (λh4=>?_) (λh4=>?_)
    ·apply cX (k:=0) hs rfl rfl;simp only[nz,ae,ag];have:decide ((s.size:Int)<=104)=decide (fk n i s):=by
      rw[decide_eq_decide];unfold fk;omega
     rw[this];exact hh
    ·have:decide (fk n i s)=false:=aq (by unfold fk;omega);rw[this] at hh;exact hh
   ·have:decide (fk n i s)=false:=aq (by unfold fk;omega);rw[this] at hh;exact hh
  ·have:decide (fk n i s)=false:=aq (by unfold fk;omega);rw[this] at hh;exact hh
 ·have:decide (fk n i s)=false:=aq (by unfold fk;omega);rw[this] at hh;exact hh
def ON{n i:Int}{s:BA}{K:VK}(h:St W w L)(hK:∀w',St W w' L->K (.tuple ⟨[.s (leaf n i s),.i (if fk n i s then 0 else 1)]⟩) w'):
 ru [.i n,.i i,.s s] K w:=by
 unfold ru;refine je h λr w hs=>?_;refine km (k:=0) (xs:=[.i n,.i i,.s s]) hs rfl rfl (λj v hj=>by rw[aD];exact hj) ?_;refine Ic hs λw hs=>?_;simp only[nz,ae,ag];by_cases hg:fk n i s
 ·have qX:=hg.2.2.2.2;have e0:decide (fk n i s)=true:=aw hg;unfold leaf at hK;rw[ai hg,ai hg] at hK;rw[e0];simp only[nz,ae,ag];refine je hs λp w hs=>?_;have hs:St W w (buf p []::pt r [.i n,.i i,.s s]::L):=by
   have h2:=(hs.push (A:=own none 0 0 1 (([]:List UInt8).map vf)) (rM 1)).perm (bX.swap _ _ _);exact uA (k:=0) (L:=buf p []::pt r [.i n,.i i,.s s]::L) (A:=buf p []) rfl rfl h2
  have hd:s.data.toList.length=s.size:=rfl;apply cX (k:=1) hs rfl rfl;simp only[nz,ae,ag];refine kA (k:=0) hs rfl (by simp) λw hs=>?_;rw[show(min2 (max2 8 1) 8).toNat=8 from rfl] at hs;simp only[nz,ae,ag] at hs⊢;apply cX (k:=1) hs rfl rfl;simp only[nz,ae,ag];refine kA (k:=0) hs rfl (by simp only[au,aP,cK];omega) λw hs=>?_;rw[show(min2 (max2 2 1) 8).toNat=2 from rfl] at hs;simp only[nz,ae,ag] at hs⊢;apply cX (k:=1) hs rfl rfl;simp only[nz,ae,ag];refine kA (k:=0) hs rfl (by simp only[au,aP,cK];omega) λw hs=>?_;rw[show(min2 (max2 2 1) 8).toNat=2 from rfl] at hs;simp only[nz,ae,ag] at hs⊢;apply cX (k:=1) hs rfl rfl;simp only[nz,ae,ag];refine q6 (k:=0) hs rfl (by simp only[au,aP,cK];omega) λw hs=>?_;simp only[nz,ae,ag] at hs⊢;apply cX (k:=1) hs rfl rfl;simp only[nz,ae,ag];have ew:aa.wrap (104-(s.size:Int))=((104-s.size:Nat):Int):=by rw[aX (by omega)];omega
  rw[ew];refine Dz hs (by omega) (by rw[ak];have:(⟨#[0]⟩:BA).size=1:=rfl;rw[this];omega) (by omega) λw hs=>?_;have er:(⟨(E8 (⟨#[0]⟩:BA).data.toList (((104-s.size:Nat):Int).toNat)).toArray⟩:BA)=bs (bj (104-s.size) 0):=by
   rw[ak];show bs (E8 [0] (104-s.size))=_;rw[E7]
  rw[er];simp only[nz,ae,ag];refine q6 (k:=0) hs rfl (by rw[cf];simp only[au,aP,cK,iF];omega) λw hs=>?_;simp only[nz,ae,ag] at hs⊢;have ep:[]++le .i64 8 n++le .i64 2 i++le .i64 2 s.size++s.data.toList++(bs (bj (104-s.size) 0)).data.toList=pre n i s:=rfl;rw[ep] at hs;apply mZ (k:=0) hs rfl;simp only[nz,ae,ag];refine MB (by rw[cf,re qX];omega) ?_;simp only[nz,ae,ag];refine y5 hs (CZ _) λw hs=>?_;simp only[nz,ae,ag];refine q6 (k:=0) hs rfl (by rw[cf,re qX];simp only[vT,aP];omega) λw hs=>?_;simp only[nz,ae,ag] at hs⊢;apply cX (k:=1) hs rfl rfl;simp only[nz,ae,ag];have ep2:pre n i s++(bs (vT (tp 0 (bs (pre n i s)).data.toList))).data.toList=pre n i s++vT (tp 0 (pre n i s)):=rfl;rw[ep2] at hs;refine kA (k:=0) hs rfl (by simp only[au,vT,aP,re qX];omega) λw hs=>?_;rw[show(min2 (max2 8 1) 8).toNat=8 from rfl] at hs;simp only[nz,ae,ag] at hs⊢;apply mZ (k:=0) hs rfl;simp only[nz,ae,ag];exact hK w hs.drop.drop
 ·have e0:decide (fk n i s)=false:=aq hg;unfold leaf at hK;rw[af hg,af hg] at hK;rw[e0];simp only[nz,ae,ag];exact hK w hs.drop
def gB(n:Nat):Nat:=if n=0 then 1 else(n+103)/104
def rV(n:Nat):1<=gB n:=by unfold gB;split<;>omega
def Om{n j:Nat}(hj:1<=j):104* j<n↔j<gB n:=by unfold gB;split<;>omega
def rm{n:Nat}{K:VK}(hn:n<1099511627776000)(hK:K (.i (gB n)) w):mF n K w:=by
 unfold mF;refine⟨by decide,by decide,?_⟩;have e0:max2 (n:Int) 0=n:=by unfold max2;split<;>omega
 have e1:(n:Int).tdiv 104=((n/104:Nat):Int):=by rw[Int.tdiv_eq_ediv_of_nonneg (by omega)];rfl
 have e2:(n:Int).tmod 104=((n%104:Nat):Int):=by rw[dB (by omega)];rfl
 rw[e0,e1,e2];have e3:max2 (aa.wrap (aa.wrap ((n/104:Nat):Int)+min2 ((n%104:Nat):Int) 1)) 1=(gB n:Int):=by
  have h1:aa.wrap ((n/104:Nat):Int)=((n/104:Nat):Int):=aX (by omega);rw[h1];have h2:min2 ((n%104:Nat):Int) 1=((min (n%104) 1:Nat):Int):=by unfold min2;split<;>omega
  rw[h2,aX (by omega)];unfold max2 gB;split<;>split<;>omega
 rw[e3];exact hK
end
def kQ{x y:BA}(h:x.data.toList=y.data.toList):x=y:=ByteArray.ext (uF h)
def extract_toList(s:BA)(a b:Nat):(s.extract a b).data.toList=(s.data.toList.drop a).take (b-a):=by
 rw[ByteArray.data_extract,Array.toList_extract,List.extract_eq_take_drop]
def eL(s:BA):s.data.toList.length=s.size:=rfl
def part(s:BA)(i:Nat):BA:=s.extract (104* i) (104* (i+1))
def nB(s:BA)(i:Nat):(part s i).size<=104:=by unfold part;rw[tq];omega
def QT(s:BA)(i m:Nat)(hm:m=min (s.size-104* i) 104):(s.extract (104* i) s.size).extract 0 m=part s i:=by
 apply kQ;unfold part;rw[extract_toList,extract_toList,extract_toList,iK,xV,List.take_eq_take_iff,aR,eL];omega
def QR(s:BA)(i m:Nat)(hm:m=min (s.size-104* i) 104):(s.extract (104* i) s.size).extract m (s.extract (104* i) s.size).size=s.extract (104* (i+1)) s.size:=by
 apply kQ;rw[extract_toList,extract_toList,extract_toList,tq];rw[bG (by rw[aR,aC,aR,eL];omega),bG (by rw[aR,eL];omega),bG (by rw[aR,eL];omega),iL];by_cases h:104<=s.size-104* i
 ·congr 1;omega
 ·rw[fB (by rw[eL];omega),fB (by rw[eL];omega)]
def pz(at' number:Int)(s:BA):aZ->Nat->Nat->aZ×Int
 |D,_,0=>(D,0)
 |D,i,n+1=>if(D.write (at'+i) (leaf number i (part s i))).2≠0 then D.write (at'+i) (leaf number i (part s i)) else pz at' number s (D.write (at'+i) (leaf number i (part s i))).1 (i+1) n
def lay(D:aZ)(at' toX number:Int)(s:BA):aZ×Int:=
 if number<1\/1152921504606846976<number\/at'<0\/(D.safe.length:Int)<toX\/toX<at' then(D,1)
 else if toX-at'<(gB s.size:Int) then(D,3) else pz at' number s D 0 (gB s.size)
def BB{at' number:Int}{s:BA}:∀(n i:Nat) {D:aZ},D.Ok->D.later.length+n<1099511627776->(pz at' number s D i n).1.Ok/\(pz at' number s D i n).1.safe=D.safe/\(pz at' number s D i n).1.later.length<=D.later.length+n
 |0,i,D,h,hl=>⟨h,rfl,aF _⟩
 |n+1,i,D,h,hl=>by
  have h1:=sy D (at'+i) (leaf number i (part s i));have h2:=Kg h (at'+i) (leaf number i (part s i)) (by omega);unfold pz;split
  ·exact⟨h2,h1.1,by omega⟩
  ·have:=BB (at':=at') (number:=number) (s:=s) n (i+1) h2 (by omega);exact⟨this.1,this.2.1.trans h1.1,by omega⟩
def Jf{D:aZ}{at' toX number:Int}{s:BA}(h:D.Ok)(hl:D.later.length+gB s.size<1099511627776):(lay D at' toX number s).1.Ok/\(lay D at' toX number s).1.safe=D.safe:=by
 unfold lay;split
 ·exact⟨h,rfl⟩
 ·split
  ·exact⟨h,rfl⟩
  ·have:=BB (at':=at') (number:=number) (s:=s) (gB s.size) 0 h hl;exact⟨this.1,this.2.1⟩
section
variable {W w:World} {L:LH} {k d:Nat} {D:aZ}
def tM{at' toX number:Int}{s:BA}{b:Bool}{K:VK}(h:St W w L)(hk:L[k]?=some (gT d D))(iE:D.Ok)(hl:D.later.length+4097<1099511627776)(hs:s.size<=reachBytes)
 (hb:b=decide (number<1\/1152921504606846976<number\/at'<0\/(D.safe.length:Int)<toX\/toX<at'))
 (hK:∀w',St W w' (L.set k (gT d (lay D at' toX number s).1))->K (.i (lay D at' toX number s).2) w'):lJ.j1 K s toX at' number (ah d) b w:=by
 have qX:s.size<=140737488351232:=hs;have wB:=iE.oS;unfold lJ.j1;unfold lay at hK;refine tJ (λh1=>?_) (λh1=>?_)
 ·rw[hb] at h1;rw[ai (aS h1)] at hK;apply hK w;rw[nI hk];exact h
 rw[hb] at h1;have zG:=bq h1;rw[af zG] at hK;apply rm (by omega);simp only[nz,ae,ag];have ew:aa.wrap (toX-at')=toX-at':=aX (by omega);rw[ew];refine fQ (λh2=>?_) (λh2=>?_)
 ·rw[ai (by omega)] at hK;apply hK w;rw[nI hk];exact h
 rw[af (by omega)] at hK;have N7:gB s.size<=4096:=by omega
 refine⟨λus w'=>∃(j:Nat)(Dj:aZ),us=[.s (s.extract (104* j) s.size),.i 0,.i j]/\j<=gB s.size/\Dj.Ok/\Dj.later.length<=D.later.length+j/\pz at' number s D 0 (gB s.size)=pz at' number s Dj j (gB s.size-j)/\St W w' (L.set k (gT d Dj)),
  λus _=>match us with|[_,_,.int _ j]=>gB s.size-j.toNat|_=>0,⟨0,D,?_,aE _,iE,by omega,rfl,by rw[nI hk];exact h⟩,?_⟩
 ·have:s.extract (104* 0) s.size=s:=by rw[Nat.mul_zero];exact ByteArray.extract_zero_size
  rw[this];rfl
 rintro s2 n5 n6 w2 ⟨j,Dj,he,hj,iE,hlj,abc,hs⟩;cases he
 have ux:(L.set k (gT d Dj))[k]?=some (gT d Dj):=kj hk;have zD:min2 ((s.extract (104* j) s.size).size:Int) 104=((min (s.size-104* j) 104:Nat):Int):=by
  rw[tq];unfold min2;split<;>omega
 have e5:=m9 j;have ea:aa.wrap (at'+(j:Int))=at'+j:=aX (by omega);rw[zD,e5,ea,tq];have hex:∀X:WK,X w2->cu (0<=((min (s.size-104* j) 104:Nat):Int)/\((min (s.size-104* j) 104:Nat):Int)<=((min s.size s.size-104* j:Nat):Int)) X w2:=λX hX=>⟨by omega,hX⟩;have step:j<gB s.size->∀w,St W w (L.set k (gT d (Dj.write (at'+j) (leaf number j (part s j))).1))->(Dj.write (at'+j) (leaf number j (part s j))).2≠0->K (.i (Dj.write (at'+j) (leaf number j (part s j))).2) w:=λP7 w hs jW=>by
  have e:pz at' number s Dj j (gB s.size-j)=Dj.write (at'+j) (leaf number j (part s j)):=by
   obtain⟨q,hq⟩:∃q,gB s.size-j=q+1:=⟨gB s.size-j-1,by omega⟩;rw[hq,pz,ai jW]
  rw[abc,e] at hK;exact hK w hs
 have fin:j<gB s.size->∀w,St W w (L.set k (gT d (Dj.write (at'+j) (leaf number j (part s j))).1))->(Dj.write (at'+j) (leaf number j (part s j))).2=0->
  ∃(j':Nat)(YD:aZ),[Value.string (s.extract (104* (j+1)) s.size),.i 0,.i ((j+1:Nat):Int)]=[.s (s.extract (104* j') s.size),.i 0,.i j']/\j'<=gB s.size/\YD.Ok/\YD.later.length<=D.later.length+j'/\pz at' number s D 0 (gB s.size)=pz at' number s YD j' (gB s.size-j')/\St W w (L.set k (gT d YD)):=λP7 w hs hz=>by
  have hw:=sy Dj (at'+j) (leaf number j (part s j));refine⟨j+1,_,rfl,by omega,Kg iE _ _ (by omega),by omega,?_,hs⟩;rw[abc];obtain⟨q,hq⟩:∃q,gB s.size-j=q+1:=⟨gB s.size-j-1,by omega⟩;have Xw:gB s.size-(j+1)=q:=by omega
  rw[hq,Xw,pz,af (by rw[hz];exact λhh=>hh rfl)]
 have Ly:=rV s.size;have body:j<gB s.size->mG (s.extract (104* j) s.size) none (some ((min (s.size-104* j) 104:Nat):Int)) (λs3=>
  cu True (
  ru [.i number,.i j,.s s3] (x2 λv1 v2=>(xS λs4=>
  (xI .i64 λn7=>
  fp (ah d) (at'+j) s4 (xI .i64 λn8=>
  br (n8 !=0) (
  K (.i n8)) (
  mG (s.extract (104* j) s.size) (some ((min (s.size-104* j) 104:Nat):Int)) none (λs5=>λw3=>
   (∃(j':Nat)(YD:aZ),[Value.string s5,.i 0,.i ((j+1:Nat):Int)]=[.s (s.extract (104* j') s.size),.i 0,.i j']/\j'<=gB s.size/\YD.Ok/\YD.later.length<=D.later.length+j'/\pz at' number s D 0 (gB s.size)=pz at' number s YD j' (gB s.size-j')/\St W w3 (L.set k (gT d YD)))/\
   gB s.size-((j+1:Nat):Int).toNat<gB s.size-((j:Nat):Int).toNat)))) v2) v1))) w2:=λP7=>by
  unfold mG;dsimp only;refine⟨⟨by omega,by rw[tq];omega⟩,trivial,?_⟩;rw[ak,QT s j _ rfl];refine ON hs λw hs=>?_;simp only[nz,ae,ag];refine DS hs ux iE λw hs=>?_;rw[jC] at hs;simp only[nz,ae,ag];refine uX (λjW=>?_) (λhz=>?_)
  ·exact step P7 w hs jW
  ·refine⟨⟨by omega,by rw[tq];omega⟩,?_⟩;rw[QR s j _ rfl];exact⟨fin P7 w hs hz,by omega⟩
 refine Iv (λhj0=>body (by omega)) (λhj0=>?_);refine fQ (λP8=>?_) (λhle=>?_)
 ·have hc:=Om (n:=s.size) (j:=j) (by omega);exact body (by omega)
 ·have hc:=Om (n:=s.size) (j:=j) (by omega);have P7:j=gB s.size:=by omega
  have e:pz at' number s Dj j (gB s.size-j)=(Dj,0):=by rw[P7,jS];rfl
  rw[abc,e] at hK;exact hK _ hs
def Gw{at' toX number:Int}{s:BA}{K:VK}(h:St W w L)(hk:L[k]?=some (gT d D))(iE:D.Ok)(hl:D.later.length+4097<1099511627776)(hs:s.size<=reachBytes)
 (hK:∀w',St W w' (L.set k (gT d (lay D at' toX number s).1))->K (.i (lay D at' toX number s).2) w'):lJ (ah d) at' toX number s K w:=by
 unfold lJ;refine fQ (λh1=>?_) (λh1=>?_)
 ·exact tM h hk iE hl hs (by symm;rw[decide_eq_true_eq];exact .inl h1) hK
 refine fQ (λh2=>?_) (λh2=>?_)
 ·exact tM h hk iE hl hs (by symm;rw[decide_eq_true_eq];exact .inr (.inl h2)) hK
 refine fQ (λh3=>?_) (λh3=>?_)
 ·exact tM h hk iE hl hs (by symm;rw[decide_eq_true_eq];exact .inr (.inr (.inl h3))) hK
 apply nT h hk;simp only[nz,ae,ag];refine fQ (λh4=>?_) (λh4=>?_)
 ·exact tM h hk iE hl hs (by symm;rw[decide_eq_true_eq];exact .inr (.inr (.inr (.inl h4)))) hK
 ·refine tM h hk iE hl hs ?_ hK;rw[decide_eq_decide];omega
end
section
variable {W w:World} {L:LH} {k:Nat}
def Dl(w:World)(a:Addr)(n j:Nat)(hj:j≠a.block):(w.freeze a n).heap[j]?=w.heap[j]?:=by
 unfold World.freeze;split
 ·rfl
 ·simp only[Array.getElem?_modify];rw[af (λh=>hj h.symm)]
def aaB{s:BA}{K:Nat->Nat->WK}(h:St W w L)(hK:∀r c w',St W w' (own (ah r) s.size c 1 (s.data.toList.map vf)::L)->K r c w'):s2b s K w:=by
 intro c t hc;have h1:=h.drew.new ((s.data.toList.map vf)++bj (c-s.size) (.int .u8 0)) t;have qX:s.data.toList.length=s.size:=rfl;have abp:((strCells s).toArray++jH (c-s.size) (.int .u8 0):Array Value)=⟨(s.data.toList.map vf)++bj (c-s.size) (.int .u8 0)⟩:=by
  apply uF;rw[Array.toList_append,Array.toList_replicate]
  rfl
 rw[abp];generalize MY:(s.data.toList.map vf)++bj (c-s.size) (Value.int .u8 0)=cs at *;have hlen:cs.length=c:=by rw[<-MY];simp;omega
 have hhp:(w.drew.alloc (.cells ⟨cs⟩ t)).heap[w.heap.size]?=some (.cells ⟨cs⟩ t):=by
  show(w.heap.push (.cells ⟨cs⟩ t))[w.heap.size]?=_;rw[Array.getElem?_push_size]
 have Dh:view ((w.drew.alloc (.cells ⟨cs⟩ t)).freeze ⟨w.heap.size,c,none⟩ 1) w.heap.size=some (.cells cs):=by
  unfold view World.freeze;rw[af (by decide)];simp only[Array.getElem?_modify,hhp];simp[hlen]
 have hb:=h1.1;have h2:=h1.bB (k:=0) rfl (w':=(w.drew.alloc (.cells ⟨cs⟩ t)).freeze ⟨w.heap.size,c,none⟩ 1) ?_ Dh (λj hj _=>Dl _ _ _ _ hj)
 ·apply hK _ _ _;refine St.mono (A:=pt w.heap.size cs) h2 λg hp=>⟨by rw[bY];omega,.inr ⟨_,bj (c-s.size) (.int .u8 0),rfl,hc,by simp,?_⟩⟩;rw[MY];exact hp
 ·refine⟨?_,?_,?_,?_,λj hj=>?_⟩
  ·unfold World.freeze;rw[af (by decide)];exact hb.os
  ·unfold World.freeze;rw[af (by decide)];exact hb.tape
  ·unfold World.freeze;rw[af (by decide)];exact hb.output
  ·unfold World.freeze;rw[af (by decide)];simp only[Array.size_modify];exact hb.size
  ·rw[Dl _ _ _ _ (by have:=h.1.size;simp only;omega)];exact hb.block j hj
def DH(r:Nat)(s:BA)(t:Bool):HP:=pt r [.s s,.b t]
def sn(s:BA)(t:Bool)(n:Int):Bool:=t||decide (n<0\/(s.size:Int)<n)
def yM(s:BA)(t:Bool)(n:Int):BA:=if sn s t n then .empty else s.extract 0 n.toNat
def DI(s:BA)(t:Bool)(n:Int):BA:=if sn s t n then s else s.extract n.toNat s.size
def sC{s:BA}{K:VK}(h:St W w L)(hK:∀r w',St W w' (DH r s false::L)->K (.p (ah r)) w'):oB s K w:=by
 unfold oB;exact⟨⟨rfl,trivial⟩,je h λr w hs=>hK r w hs⟩
def Gv{r:Nat}{s:BA}{t:Bool}{n:Int}{K:VK}(h:St W w L)(hk:L[k]?=some (DH r s t))(hK:∀w',St W w' (L.set k (DH r (DI s t n) (sn s t n)))->K (.s (yM s t n)) w'):fo (ah r) n K w:=by
 unfold fo;unfold DH at hk;simp only[nz,ae,ag];apply cX hk (h:=h) rfl;simp only[nz,ae,ag];have bad:sn s t n=true->∀w',St W w' (L.set k (pt r [.s s,.b true]))->K (.s .empty) w':=λhb w' hs=>by
  have:=hK w';unfold DI yM at this;rw[ai hb,ai hb,hb] at this;exact this hs
 refine tJ (λht=>?_) (λht=>?_)
 ·refine oX h hk (aI rfl) rfl λw hs=>?_;apply cX hs (kj hk) rfl;simp only[nz,ae,ag] at hs⊢;exact bad (by simp[sn,ht]) w hs
 refine fQ (λhn=>?_) (λhn=>?_)
 ·refine oX h hk (aI rfl) rfl λw hs=>?_;apply cX hs (kj hk) rfl;simp only[nz,ae,ag] at hs⊢;exact bad (by simp[sn,hn]) w hs
 apply cX h hk rfl;simp only[nz,ae,ag];refine oX h hk (aI rfl) rfl λw hs=>?_;apply cX hs (kj hk) rfl;simp only[nz,ae,ag] at hs⊢;refine fQ (λP8=>?_) (λP8=>?_)
 ·have:decide (n>(s.size:Int))=true:=aw P8;rw[this] at hs;exact bad (by simp[sn];omega) w hs
 ·have e:decide (n>(s.size:Int))=false:=aq P8;rw[e] at hs;have hb:sn s t n=false:=by
   unfold sn;rw[ht,aq (by omega)];rfl
  have:=hK;unfold DI yM at this;rw[af (by rw[hb];exact cJ),af (by rw[hb];exact cJ),hb] at this;unfold fo.j1;simp only[nz,ae,ag];apply cX hs (kj hk) rfl;unfold mG;simp only[nz,ae,ag];refine⟨by omega,?_⟩;apply cX hs (kj hk) rfl;simp only[nz,ae,ag];refine⟨by omega,?_⟩;refine oX hs (kj hk) (aI rfl) rfl λw hs=>?_;rw[jC] at hs;exact this w hs
def nV:List UInt8->Nat
 |[]=>0
 |c::r=>c.toNat+256* nV r
def rF:∀l:List UInt8,nV l<256^l.length
 |[]=>by simp[nV]
 |c::r=>by
  have:=rF r;have hc:=c.toNat_lt;simp only[nV,aW,zx];omega
def tg:∀(l:List UInt8)(c:UInt8),nV (l++[c])=nV l+c.toNat* 256^l.length
 |[],c=>by simp[nV]
 |d::r,c=>by
  simp only[lH,nV,tg r c,aW,zx];rw[Nat.mul_add,Nat.add_assoc]
  congr 2
  rw[vK 256,Nat.mul_assoc]
def Bt(z:Int):BitVec.ofInt 64 (aa.wrap z)=BitVec.ofInt 64 z:=by
 apply BitVec.eq_of_toNat_eq;simp only[BitVec.toNat_ofInt];simp[IntKind.wrap,IntKind.bits,IntKind.signed];split<;>omega
def W2{A j:Nat}{c:UInt8}(hj:j<8)(hA:A<256^j):de .i64 .or (aa.wrap A) (shl .i64 (aa.wrap (c.toNat:Int)) (8* (j:Int)))=aa.wrap ((A+c.toNat* 256^j:Nat):Int):=by
 have hc:=c.toNat_lt;have Rp:256^j=2^(8* j):=by rw[show(256:Nat)=2^8 from rfl,<-Nat.pow_mul]
 have afd:c.toNat* 2^(8* j)<2^64:=by
  have h1:c.toNat* 2^(8* j)<2^8* 2^(8* j):=Nat.mul_lt_mul_of_pos_right (by exact hc) (Nat.pow_pos (by decide));rw[<-Nat.pow_add] at h1;exact Nat.lt_of_lt_of_le h1 (gM (by decide) (by omega))
 have aiF:A<2^64:=by
  rw[Rp] at hA;exact Nat.lt_of_lt_of_le hA (gM (by decide) (by omega))
 have ew:aa.wrap (c.toNat:Int)=(c.toNat:Int):=aX (by omega);have esh:shl .i64 (c.toNat:Int) (8* (j:Int))=aa.wrap ((c.toNat* 2^(8* j):Nat):Int):=by
  unfold shl;have h1:(8* (j:Int)).toNat=8* j:=by omega
  have h2:min (8* j) aa.bits=8* j:=by show min (8* j) 64=_;omega
  rw[h1,h2]
  congr 1
 rw[ew,esh];show aa.wrap (((BitVec.ofInt 64 (aa.wrap A)|||BitVec.ofInt 64 (aa.wrap ((c.toNat* 2^(8* j):Nat):Int))).toNat:Nat):Int)=_;rw[Bt,Bt,BitVec.toNat_or];have t1:(BitVec.ofInt 64 (A:Int)).toNat=A:=by simp only[BitVec.toNat_ofInt];omega
 have t2:(BitVec.ofInt 64 ((c.toNat* 2^(8* j):Nat):Int)).toNat=c.toNat* 2^(8* j):=by
  generalize c.toNat* 2^(8* j)=z at *;simp only[BitVec.toNat_ofInt];omega
 rw[t1,t2,Rp]
 congr 2
 rw[Nat.or_comm,<-Nat.shiftLeft_eq,<-Nat.shiftLeft_add_eq_or_of_lt (by rw[<-Rp];exact hA),Nat.add_comm]
def nt(l:List UInt8):Int:=aa.wrap (nV l:Int)
def B0{r:Nat}{s:BA}{t:Bool}{n:Int}{K:VK}(h:St W w L)(hk:L[k]?=some (DH r s t))
 (hK:∀w',St W w' (L.set k (DH r (DI s t (min2 (max2 n 1) 8)) (sn s t (min2 (max2 n 1) 8))))->K (.i (nt (yM s t (min2 (max2 n 1) 8)).data.toList)) w'):aL (ah r) n K w:=by
 have hm:1<=min2 (max2 n 1) 8/\min2 (max2 n 1) 8<=8:=by unfold min2 max2;split<;>split<;>omega
 unfold aL;generalize min2 (max2 n 1) 8=m at *;refine Gv h hk λw hs=>?_;simp only[nz,ae,ag];have hv8:(yM s t m).size<=8:=by
  unfold yM;split
  ·exact aE _
  ·rw[tq];omega
 have hK':=hK;generalize yM s t m=v at *;refine aaB hs λq c w hs=>?_;have hlen:v.data.toList.length=v.size:=rfl;refine⟨λus w'=>∃j:Nat,us=[.i 0,.i (nt (v.data.toList.take j)),.l (ah q) v.size c,.i v.size,.i j]/\j<=v.size/\isW w w',
  λus _=>match us with|[_,_,_,_,.int _ j]=>v.size-j.toNat|_=>0,⟨0,rfl,aE _,rfl⟩,?_⟩
 rintro n2 n3 yn ya Ah n4 n5 w2 ⟨j,he,hj,hw⟩;obtain rfl:w2=w:=hw;cases he
 generalize hb:decide ((j:Int)<(v.size:Int))=b;cases b
 ·have iO:=bq hb;rw[dX];rw[bG (by omega)];exact hK' _ hs.drop
 ·have cj:=aS hb;rw[kZ];have T9:j<v.data.toList.length:=by omega
  refine rR (k:=0) hs rfl (by omega) λr' hr=>?_;cases hr
  refine Av (k:=0) hs rfl (v:=vf (v.data.toList[j])) (by rw[ak,mm,dU,aj T9];rfl) ?_;unfold vf;simp only[nz,ae,ag];have e8:aa.wrap (8* (j:Int))=8* (j:Int):=aX (by omega);have e5:=m9 j;rw[e8,e5];refine⟨by omega,?_⟩;have PZ:=rF (v.data.toList.take j);have DM:(v.data.toList.take j).length=j:=by rw[aC];omega
  rw[DM] at PZ;have e6:de .i64 .or (nt (v.data.toList.take j)) (shl .i64 (aa.wrap ((v.data.toList[j]).toNat:Int)) (8* (j:Int)))=nt (v.data.toList.take (j+1)):=by
   unfold nt;rw[W2 (by omega) PZ,qA T9,tg,DM]
  rw[e6];exact⟨⟨j+1,rfl,by omega,rfl⟩,by omega⟩
def numOf(s:BA):Int:=if 1<=nt s.data.toList/\nt s.data.toList<=1152921504606846976 then nt s.data.toList else 0
def sm{n:Int}(h:0<=n/\n<18446744073709551616):IntKind.u64.wrap n=n:=by
 simp[IntKind.wrap,IntKind.bits,IntKind.signed];omega
def CB(s:BA):BA:=s.extract 0 8
def B7(s:BA):BA:=s.extract (s.size-8) s.size
def RF{s:BA}{K:VK}(h:St W w L)(hs8:8<=s.size)(qX:s.size<1099511627776)(hK:∀w',St W w' L->K (.agg ⟨[.i (numOf (CB s)),.i (numOf (B7 s))]⟩) w'):xd s K w:=by
 unfold xd;refine je h λr1 w hs=>?_;refine je hs λr2 w hs=>?_;refine mw hs λw hs=>?_;unfold mG;simp only[nz,ae,ag];have e1:aa.wrap ((s.size:Int) -8)=(s.size:Int) -8:=aX (by omega);rw[e1];refine⟨by omega,by omega,?_⟩;have eh:s.extract 0 (8:Int).toNat=CB s:=rfl;have et:s.extract ((s.size:Int) -8).toNat s.size=B7 s:=by unfold B7;congr 1;omega
 rw[eh,et];have h8:(CB s).size=8:=by unfold CB;rw[tq];omega
 have t8:(B7 s).size=8:=by unfold B7;rw[tq];omega
 refine⟨λus w'=>∃j:Nat,us=[.p (some ⟨r1,0,none⟩),.p (some ⟨r2,0,none⟩),.agg ⟨[.s (CB s),.s (B7 s)]⟩,.i j]/\j<=2/\
  St W w' (pt r2 [.i (if 0<j then numOf (CB s) else 0),.i (if 1<j then numOf (B7 s) else 0)]::pt r1 [.i 0,.i 0]::L),
  λus _=>match us with|[_,_,_,.int _ j]=>2-j.toNat|_=>0,⟨0,rfl,aE _,hs⟩,?_⟩
 rintro a1 a2 V6 n1 w2 ⟨j,he,hj,hs⟩;cases he
 refine tJ (λh0=>?_) (λh0=>?_)
 ·have Jp:j<2:=by have:=aS h0;omega
  have e5:=m9 j;rw[e5];obtain⟨p,hp,hp8⟩:∃p,([Value.string (CB s),.s (B7 s)]:LV)[(j:Int).toNat]?=some (.s p)/\p.size=8/\(j=0->p=CB s)/\(j=1->p=B7 s):=by
   match j,Jp with
   |0,_=>exact⟨CB s,rfl,h8,λ_=>rfl,λhh=>by omega⟩
   |1,_=>exact⟨B7 s,rfl,t8,λhh=>by omega,λ_=>rfl⟩
  refine⟨.s p,⟨by omega,by omega,hp⟩,?_⟩;simp only[nz,ae,ag];refine sC hs λq w hs=>?_;simp only[nz,ae,ag];refine B0 (k:=0) hs rfl λw hs=>?_;have em:min2 (max2 8 1) 8=8:=rfl;have ev:yM p false (min2 (max2 8 1) 8)=p:=by
   rw[em];unfold yM;have:sn p false 8=false:=by unfold sn;rw[hp8.1];rfl
   rw[af (by rw[this];exact cJ)];have:(8:Int).toNat=p.size:=by rw[hp8.1];rfl
   rw[this];exact ByteArray.extract_zero_size
  rw[ev];simp only[nz,ae,ag] at hs⊢;have hs:=hs.drop;have fin:∀x w',x=numOf p->St W w' (pt r2 ([.i (if 0<j then numOf (CB s) else 0),.i (if 1<j then numOf (B7 s) else 0)].set j (.i x))::pt r1 [.i 0,.i 0]::L)->
     St W w' (pt r2 [.i (if 0<j+1 then numOf (CB s) else 0),.i (if 1<j+1 then numOf (B7 s) else 0)]::pt r1 [.i 0,.i 0]::L):=λx w' hx hs=>by
   subst hx
   match j,Jp,hp8,hs with
   |0,_,hp8,hs=>rw[hp8.2.1 rfl] at hs;simpa using hs
   |1,_,hp8,hs=>rw[hp8.2.2 rfl] at hs;simpa using hs
  have zero:numOf p=0->∀w',St W w' (pt r2 [.i (if 0<j then numOf (CB s) else 0),.i (if 1<j then numOf (B7 s) else 0)]::pt r1 [.i 0,.i 0]::L)->
   St W w' (pt r2 [.i (if 0<j+1 then numOf (CB s) else 0),.i (if 1<j+1 then numOf (B7 s) else 0)]::pt r1 [.i 0,.i 0]::L):=λhz w' hs=>by
   apply fin 0 w' hz.symm
   match j,Jp,hs with
   |0,_,hs=>simpa using hs
   |1,_,hs=>simpa using hs
  refine fQ (λh1=>?_) (λh1=>?_)
  ·refine fQ (λh2=>?_) (λh2=>?_)
   ·refine⟨by omega,?_⟩;refine oX (k:=0) hs rfl (by simp;omega) rfl λw hs=>?_;simp only[nz,ae,ag] at hs;rw[ak,mm] at hs;refine⟨⟨j+1,rfl,by omega,fin _ w ?_ hs⟩,by omega⟩;unfold numOf;rw[ai (by omega)]
   ·exact⟨⟨j+1,rfl,by omega,zero (by unfold numOf;rw[af (by omega)]) w hs⟩,by omega⟩
  ·exact⟨⟨j+1,rfl,by omega,zero (by unfold numOf;rw[af (by omega)]) w hs⟩,by omega⟩
 ·have Jp:j=2:=by have:=bq h0;omega
  subst Jp;have hs:St W w2 (pt r2 [.i (numOf (CB s)),.i (numOf (B7 s))]::pt r1 [.i 0,.i 0]::L):=hs;refine km (k:=0) (xs:=[.i (numOf (CB s)),.i (numOf (B7 s))]) hs rfl rfl (λi v hi=>by rw[aD];exact hi) ?_;refine⟨rfl,kf (k:=1) hs rfl (aI rfl) (by simp[Value.oneCell']) λw hs=>?_⟩;rw[iS (by simp)] at hs;simp only[nz,ae,ag] at hs;refine km (k:=1) (xs:=[.i (numOf (CB s)),.i (numOf (B7 s))]) hs rfl rfl (λi v hi=>by rw[aD];exact hi) ?_;exact hK w hs.drop.drop
def fe(D:aZ):Nat->Int
 |0=>0
 |j+1=>max2 (max2 (fe D j) (numOf (CB (D.read (j:Int)).1))) (numOf (B7 (D.read (j:Int)).1))
def za{D:aZ}(h:D.Ok){i:Int}(hi:D.is i):(D.read i).1.size=128:=by
 unfold aZ.read;rw[ai hi];unfold aZ.now;have cj:i.toNat<D.safe.length:=by have:=hi.1;have:=hi.2;omega
 cases hl:aZ.last D.later i with
 |none=>
  rw[gN,jT,aj cj,dz];exact h.safe _ (cb cj)
 |some x=>
  unfold aZ.last at hl;rw[Option.map_eq_some_iff] at hl;obtain⟨p,hp,rfl⟩:=hl;exact(h.later p (List.mem_reverse.1 (ni hp))).1
def G9{d:Nat}{D:aZ}{K:VK}(h:St W w L)(hk:L[k]?=some (gT d D))(iE:D.Ok)(hK:∀w',St W w' L->K (.i (fe D D.safe.length)) w'):oC (ah d) K w:=by
 have wB:=iE.oS;unfold oC;apply nT h hk;simp only[nz,ae,ag];refine⟨λus w'=>∃j:Nat,us=[.i 0,.i (fe D j),.i D.safe.length,.i j]/\j<=D.safe.length/\St W w' L,
  λus _=>match us with|[_,_,_,.int _ j]=>D.safe.length-j.toNat|_=>0,⟨0,rfl,aE _,h⟩,?_⟩
 rintro n2 n3 n4 n5 w2 ⟨j,he,hj,hs⟩;cases he
 refine fQ (λcj=>?_) (λiO=>?_)
 ·have hi:D.is (j:Int):=⟨by omega,cj⟩;have qX:=za iE hi;have e5:=m9 j;apply sh hs hk iE;simp only[nz,ae,ag];refine RF hs (by omega) (by omega) λw hs=>?_;simp only[xX,aW,cK,aD,ae,true_and];refine je hs λr w hs=>?_;refine⟨trivial,kf (k:=0) hs rfl (aI rfl) (by simp[Value.oneCell']) λw hs=>?_⟩;rw[iS (by simp)] at hs;simp only[nz,ae,ag] at hs⊢;refine⟨by decide,?_⟩;apply cX (k:=0) hs rfl rfl;simp only[nz,ae,ag];refine⟨by decide,?_⟩;apply cX (k:=0) hs rfl rfl;simp only[nz,ae,ag];rw[e5];exact⟨⟨j+1,rfl,by omega,hs.drop⟩,by omega⟩
 ·have:j=D.safe.length:=by omega
  subst this;exact hK _ hs
end
def o7(l:List UInt8)(n:Nat):(bs l).extract 0 n=bs (l.take n):=by
 apply kQ;rw[extract_toList,iK,Nat.sub_zero];rfl
def o5(l:List UInt8)(n:Nat):(bs l).extract n (bs l).size=bs (l.drop n):=by
 apply kQ;rw[extract_toList,cf];show(l.drop n).take (l.length-n)=l.drop n;rw[bG (by rw[aR];omega)]
def lR(a b:List UInt8):bs a++bs b=bs (a++b):=by
 apply kQ;rw[ByteArray.data_append,Array.toList_append];rfl
def AM{a b:List UInt8}:bs a=bs b↔a=b:=by
 constructor
 ·intro h;have:=congrArg (λx=>x.data.toList) h;exact this
 ·intro h;rw[h]
def L4:ByteArray.empty=bs []:=rfl
section
variable {W w:World} {L:LH} {k:Nat}
def EL{l:List UInt8}{K:VK}(hl:l.length<1099511627776)(hK:∀m,m<=l.length->(∀j(h:j<l.length),m<=j->l[j]=0)->(m=0\/∃h:m-1<l.length,l[m-1]≠0)->K (.s (bs (l.take m))) w):na (bs l) 0 K w:=by
 unfold na;refine⟨λus w'=>∃m:Nat,us=[.s (bs (l.take m)),.s .empty]/\m<=l.length/\(∀j(h:j<l.length),m<=j->l[j]=0)/\isW w w',λus _=>match us with|[.string s,_]=>s.size|_=>0,
  ⟨l.length,by rw[aV],aF _,λj h hj=>by omega,rfl⟩,?_⟩
 rintro s2 s3 w2 ⟨m,he,hm,hz,hw⟩;obtain rfl:w2=w:=hw;cases he
 have qX:(bs (l.take m)).size=m:=by rw[cf,aC];omega
 rw[qX];refine fQ (λLy=>?_) (λadh=>?_)
 ·have hm1:m-1<l.length:=by omega
  have ew:aa.wrap ((m:Int) -1)=((m-1:Nat):Int):=by rw[aX (by omega)];omega
  rw[ew];refine⟨l[m-1],⟨by omega,?_⟩,?_⟩
  ·rw[ak];show(l.take m)[m-1]?=_;rw[List.getElem?_take_of_lt (by omega),aj hm1]
  refine Iv (λh0=>?_) (λh0=>?_)
  ·have hc:l[m-1]=0:=by
    apply UInt8.toNat_inj.1;show _=0;omega
   unfold mG;refine⟨⟨by omega,by rw[qX];omega⟩,?_⟩;rw[ak,o7,xV,show min (m-1) m=m-1 from by omega];refine⟨⟨m-1,rfl,by omega,λj hj hmj=>?_,rfl⟩,?_⟩
   ·by_cases hjm:m<=j
    ·exact hz j hj hjm
    ·have:j=m-1:=by omega
     subst this;exact hc
   ·dsimp only;rw[cf,aC,cf,aC];omega
  ·exact hK m hm hz (.inr ⟨hm1,λhc=>h0 (by rw[hc];rfl)⟩)
 ·exact hK m hm hz (.inl (by omega))
def GK{l:List UInt8}{K:VK}(hl:l.length<1099511627776)(hK:∀m,m<=l.length->(∀j(h:j<l.length),j<m->l[j]=0)->(m=l.length\/∃h:m<l.length,l[m]≠0)->K (.s (bs (l.drop m))) w):nG (bs l) 0 K w:=by
 unfold nG;refine⟨λus w'=>∃m:Nat,us=[.s (bs (l.drop m)),.s .empty]/\m<=l.length/\(∀j(h:j<l.length),j<m->l[j]=0)/\isW w w',λus _=>match us with|[.string s,_]=>s.size|_=>0,
  ⟨0,rfl,aE _,λj h hj=>by omega,rfl⟩,?_⟩
 rintro s2 s3 w2 ⟨m,he,hm,hz,hw⟩;obtain rfl:w2=w:=hw;cases he
 have qX:(bs (l.drop m)).size=l.length-m:=by rw[cf,aR]
 refine fQ (λLy=>?_) (λadh=>?_)
 ·rw[qX] at Ly;have hm1:m<l.length:=by omega
  refine⟨l[m],⟨by omega,?_⟩,?_⟩
  ·show(l.drop m)[0]?=_;rw[lC,gK,aj hm1]
  refine Iv (λh0=>?_) (λh0=>?_)
  ·have hc:l[m]=0:=by
    apply UInt8.toNat_inj.1;show _=0;omega
   unfold mG;refine⟨⟨by omega,by rw[qX];omega⟩,?_⟩;rw[show(1:Int).toNat=1 from rfl,o5,iL];refine⟨⟨m+1,rfl,by omega,λj hj hmj=>?_,rfl⟩,?_⟩
   ·by_cases hjm:j<m
    ·exact hz j hj hjm
    ·have:j=m:=by omega
     subst this;exact hc
   ·dsimp only;rw[cf,aR,cf,aR];omega
  ·exact hK m hm hz (.inr ⟨hm1,λhc=>h0 (by rw[hc];rfl)⟩)
 ·rw[qX] at adh;exact hK m hm hz (.inl (by omega))
def R8{l:List UInt8}{K:VK}(h:St W w L)(hl:l.length<1099511627776)(hK:∀r w',(r=.empty↔l=bj l.length 0)->St W w' L->K (.s r) w'):ik (bs l) ⟨#[0]⟩ K w:=by
 unfold ik;have e0:pP (⟨#[0]⟩:BA) (⟨#[]⟩:BA)=false:=by rw[sE];exact aq (λh=>aQ (congrArg ByteArray.size h) (by decide))
 rw[e0,sE];refine fQ (λhem=>?_) (λjW=>?_)
 ·unfold ik.j1;rw[kZ];have:l=[]:=AM.1 hem;subst this;exact hK _ w (by simp[L4]) h
 ·unfold ik.j1;rw[dX];have e1:((((⟨#[0]⟩:BA).size:Nat):Int)==1)=true:=by decide
  rw[e1,kZ];refine⟨0,⟨by decide,rfl⟩,?_⟩;have e2:decide (((0:UInt8).toNat:Int)<128)=true:=by decide
  dsimp only;rw[e2];unfold ik.j3;rw[kZ];refine mw h λw h=>?_;refine⟨0,⟨by decide,rfl⟩,?_⟩;refine⟨0,⟨by decide,rfl⟩,?_⟩;refine EL hl λm hm hz H5=>?_;simp only[nz,ae,ag];refine GK (by rw[aC];omega) λq hq hz2 yT=>?_;simp only[nz,ae,ag];refine hK _ w ?_ h;have cj:(l.take m).length=m:=by rw[aC];omega
  rw[L4,AM]
  constructor
  ·intro hd;have hqm:q=m:=by have:=congrArg List.length hd;rw[aR,cK] at this;omega
   subst hqm;rcases H5 with h0|⟨h1,h2⟩
   ·subst h0;exact List.eq_replicate_iff.2 ⟨rfl,λx hx=>by
     obtain⟨j,hj,rfl⟩:=List.mem_iff_getElem.1 hx
     exact hz j hj (aE _)⟩
   ·exfalso;have hq0:0<q:=by
     rcases Nat.eq_zero_or_pos q with h0|h0
     ·subst h0;exact aQ (hz _ h1 (by omega)) h2
     ·exact h0
    have:=hz2 (q-1) (by omega) (by omega);rw[List.getElem_take] at this;exact h2 this
  ·intro fx;have hz0:∀j(hj:j<l.length),l[j]=0:=λj hj=>(List.eq_replicate_iff.1 fx).2 _ (cb hj);rcases yT with h0|⟨h1,h2⟩
   ·rw[fB (by omega)]
   ·exfalso;rw[List.getElem_take] at h2;exact h2 (hz0 q _)
def tQ(l:List UInt8):Bool:=decide (4<=l.length)&&(vT (tp 0 (l.take (l.length-4)))==l.drop (l.length-4))
def OM{l:List UInt8}{K:VK}(h:St W w L)(hl:l.length<1099511627776)(hK:∀w',St W w' L->K (.b (tQ l)) w'):ui (bs l) K w:=by
 unfold ui;refine mw h λw h=>?_;have ew:aa.wrap (((bs l).size:Int) -4)=(l.length:Int) -4:=by rw[cf,aX (by omega)]
 rw[ew];refine fQ (λh0=>?_) (λh0=>?_)
 ·have e1:((l.length:Int) -4).toNat=l.length-4:=by omega
  unfold mG;dsimp only;refine⟨⟨h0,by rw[cf];omega⟩,?_⟩;refine⟨⟨h0,by rw[cf];omega⟩,?_⟩;rw[e1,o7,o5];refine MB (by rw[cf,aC];omega) ?_;simp only[nz,ae,ag];refine y5 h (CZ _) λw h=>?_;simp only[nz,ae,ag];have e2:pP (bs (vT (tp 0 (bs (l.take (l.length-4))).data.toList))) (bs (l.drop (l.length-4)))=tQ l:=by
   rw[sE];unfold tQ;rw[aw (by omega:4<=l.length),dI];show decide (bs (vT (tp 0 (l.take (l.length-4))))=bs (l.drop (l.length-4)))=_;by_cases hh:vT (tp 0 (l.take (l.length-4)))=l.drop (l.length-4)
   ·rw[aw (AM.2 hh),hh,beq_self_eq_true]
   ·rw[aq (λh=>hh (AM.1 h))]
    symm;simp[hh]
  rw[e2];exact hK w h
 ·have e2:tQ l=false:=by unfold tQ;rw[aq (by omega: ¬4<=l.length)];rfl
  rw[<-e2];exact hK w h
def J5{r:Nat}{l:List UInt8}{n:Nat}{K:VK}(h:St W w L)(hk:L[k]?=some (DH r (bs l) false))(h1:1<=n)(h8:n<=8)(hn:n<=l.length)
 (hK:∀w',St W w' (L.set k (DH r (bs (l.drop n)) false))->K (.i (nt (l.take n))) w'):aL (ah r) n K w:=by
 apply B0 h hk;have em:min2 (max2 (n:Int) 1) 8=n:=by unfold min2 max2;split<;>split<;>omega
 rw[em];have et:sn (bs l) false n=false:=by unfold sn;rw[cf,aq (by omega)];rfl
 unfold DI yM;rw[et,ak,o7,o5];exact hK
def OI{r:Nat}{l:List UInt8}{n:Nat}{K:VK}(h:St W w L)(hk:L[k]?=some (DH r (bs l) false))(hn:n<=l.length)
 (hK:∀w',St W w' (L.set k (DH r (bs (l.drop n)) false))->K (.s (bs (l.take n))) w'):fo (ah r) n K w:=by
 apply Gv h hk;have et:sn (bs l) false n=false:=by unfold sn;rw[cf,aq (by omega)];rfl
 unfold DI yM;rw[et,ak,o7,o5];exact hK
end
def nY{l:List UInt8}(h:l.length<=7):nt l=(nV l:Int):=by
 have h1:=rF l;have h2:256^l.length<=256^7:=gM (by decide) h;have h3:(256:Nat)^7=72057594037927936:=rfl;unfold nt;rw[aX (by omega)]
def sN(l:List UInt8):Int:=nt (l.take 8)
def sI(l:List UInt8):Int:=nt ((l.drop 8).take 2)
def sM(l:List UInt8):Nat:=nV (((l.drop 8).drop 2).take 2)
def mT(l:List UInt8):List UInt8:=((l.drop 8).drop 2).drop 2
def sD(l:List UInt8):List UInt8:=(mT l).take (sM l)
def sZ(l:List UInt8):List UInt8:=((mT l).drop (sM l)).take (104-sM l)
def C5(l:List UInt8):Int:=nt (((((mT l).drop (sM l)).drop (104-sM l)).drop 4).take 8)
def mh(l:List UInt8):Option (Int×Int×BA):=
 if ¬l.length=128 then none
 else if tQ (l.take 120)=false then none
 else if 104<sM l then none
 else if ¬C5 l=sN l then none
 else if ¬sZ l=bj (sZ l).length 0 then none
 else if ¬fk (sN l) (sI l) (bs (sD l)) then none
 else some (sN l,sI l,bs (sD l))
def ue:Option (Int×Int×BA)->Value
 |none=>.tuple ⟨[.agg ⟨[.i 0,.i 0,.s .empty]⟩,.b false]⟩
 |some (n,i,d)=>.tuple ⟨[.agg ⟨[.i n,.i i,.s d]⟩,.b true]⟩
section
variable {W w:World} {L:LH}
def CU{l:List UInt8}{K:VK}(h:St W w L)(hl:l.length<1099511627776)(hK:∀w',St W w' L->K (ue (mh l)) w'):l6 (bs l) K w:=by
 unfold mh at hK;unfold l6;refine je h λr1 w hs=>?_;rw[cf];have ZL:(∀w',St W w' L->K (ue none) w')->∀w,St W w (pt r1 [.i 0,.i 0,.s .empty]::L)->l6.j1 K r1 (bs l) true w:=λhK w hs=>by
  unfold l6.j1;simp only[nz,ae,ag];refine kf (k:=0) hs rfl (aI rfl) (by simp[Value.oneCell']) λw hs=>?_;rw[iS (by simp)] at hs;refine km (k:=0) (xs:=[.i 0,.i 0,.s .empty]) hs rfl rfl (λj v hj=>by rw[aD];exact hj) ?_;exact hK w hs.drop
 refine uX (λjW=>?_) (λhe=>?_)
 ·rw[ai (by omega)] at hK;exact ZL hK w hs
 have CC:l.length=128:=by omega
 rw[af (by omega)] at hK;unfold mG;dsimp only;refine⟨⟨by omega,by rw[cf];omega⟩,?_⟩;rw[show(120:Int).toNat=120 from rfl,o7];refine OM hs (by rw[aC];omega) λw hs=>?_;simp only[nz,ae,ag];cases hh:tQ (l.take 120) with
 |false=>
  rw[ai hh] at hK;exact ZL hK w hs
 |true=>
 rw[af (by rw[hh];exact rq)] at hK;unfold l6.j1;simp only[nz,ae,ag];refine sC hs λq w hs=>?_;simp only[nz,ae,ag];refine J5 (k:=0) (n:=8) hs rfl (by decide) (by decide) (by omega) λw hs=>?_;simp only[nz,ae,ag] at hs⊢;have l8:(l.drop 8).length=120:=by rw[aR];omega
 refine J5 (k:=0) (n:=2) hs rfl (by decide) (by decide) (by omega) λw hs=>?_;simp only[nz,ae,ag] at hs⊢;have l10:((l.drop 8).drop 2).length=118:=by rw[aR];omega
 refine je hs λr2 w hs=>?_;refine⟨by simp,?_⟩;refine kf (k:=0) hs rfl (aI rfl) (by simp[Value.oneCell']) λw hs=>?_;rw[iS (by simp)] at hs;simp only[nz,ae,ag] at hs;refine J5 (k:=1) (n:=2) hs rfl (by decide) (by decide) (by omega) λw hs=>?_;simp only[nz,ae,ag] at hs⊢;have em:nt (((l.drop 8).drop 2).take 2)=(sM l:Int):=nY (by rw[aC];omega);have en:nt (l.take 8)=sN l:=rfl;have ei:nt ((l.drop 8).take 2)=sI l:=rfl;have er:((l.drop 8).drop 2).drop 2=mT l:=rfl;have lr:(mT l).length=116:=by unfold mT;rw[aR];omega
 rw[em];rw[en,ei,er] at hs;have Qe:(∀w',St W w' L->K (ue none) w')->∀w A B,St W w (A::B::pt r1 [.i 0,.i 0,.s .empty]::L)->cu True (cu True (jU ⟨r1,0,none⟩ [.i 0,.i 0,.s .empty] (aJ ⟨r1,0,none⟩ 3 λcs=>K (.tuple ⟨[.agg ⟨cs⟩,.b false]⟩)))) w:=λhK w A B hs=>by
  refine⟨trivial,trivial,?_⟩;refine kf (k:=2) hs rfl (aI rfl) (by simp[Value.oneCell']) λw hs=>?_;rw[iS (by simp)] at hs;refine km (k:=2) (xs:=[.i 0,.i 0,.s .empty]) hs rfl rfl (λj v hj=>by rw[aD];exact hj) ?_;exact hK w hs.drop.drop.drop
 refine tJ (λP8=>?_) (λhle=>?_)
 ·have P8:=aS P8;rw[ai (by omega)] at hK;exact Qe hK w _ _ hs
 have hle:=bq hle;rw[af (by omega)] at hK;refine OI (k:=1) (n:=sM l) hs rfl (by omega) λw hs=>?_;simp only[nz,ae,ag] at hs⊢;have ed:(mT l).take (sM l)=sD l:=rfl;rw[ed];refine oX (k:=0) hs rfl (aI rfl) rfl λw hs=>?_;simp only[nz,ae,ag] at hs;have ew:aa.wrap (104-(sM l:Int))=((104-sM l:Nat):Int):=by rw[aX (by omega)];omega
 rw[ew];have lrm:((mT l).drop (sM l)).length=116-sM l:=by rw[aR,lr]
 refine OI (k:=1) (n:=104-sM l) hs rfl (by omega) λw hs=>?_;simp only[nz,ae,ag] at hs⊢;have ez:((mT l).drop (sM l)).take (104-sM l)=sZ l:=rfl;rw[ez];have lrz:(((mT l).drop (sM l)).drop (104-sM l)).length=12:=by rw[aR,lrm];omega
 refine OI (k:=1) (n:=4) hs rfl (by omega) λw hs=>?_;simp only[nz,ae,ag] at hs⊢;have lrc:((((mT l).drop (sM l)).drop (104-sM l)).drop 4).length=8:=by rw[aR,lrz]
 refine mw hs λw hs=>?_;apply cX (k:=0) hs rfl rfl;simp only[nz,ae,ag];refine J5 (k:=1) (n:=8) hs rfl (by decide) (by decide) (by omega) λw hs=>?_;simp only[nz,ae,ag] at hs⊢;apply kC (k:=0) hs rfl rfl;have et:nt (((((mT l).drop (sM l)).drop (104-sM l)).drop 4).take 8)=C5 l:=rfl;rw[et];refine uX (λjW=>?_) (λheq=>?_)
 ·rw[ai jW] at hK;exact Qe hK w _ _ hs
 rw[af (λhh=>hh heq)] at hK;refine R8 hs (by unfold sZ;rw[aC];omega) λs5 w hr hs=>?_;simp only[nz,ae,ag];apply kC (k:=0) hs rfl rfl;have aft:(⟨#[]⟩:BA)=.empty:=rfl;rw[sE,aft];by_cases hz:sZ l=bj (sZ l).length 0
 ·rw[af (λhh=>hh hz)] at hK;rw[aw (hr.2 hz)];simp only[nz,ae,ag];refine km (k:=0) (xs:=[.i (sN l),.i (sI l),.s (bs (sD l))]) hs rfl rfl (λj v hj=>by rw[aD];exact hj) ?_;refine Ic hs λw hs=>?_;simp only[nz,ae,ag];apply kC (k:=0) hs rfl rfl;by_cases hg:fk (sN l) (sI l) (bs (sD l))
  ·rw[af (λhh=>hh hg)] at hK;rw[aw hg];simp only[nz,ae,ag];refine km (k:=0) (xs:=[.i (sN l),.i (sI l),.s (bs (sD l))]) hs rfl rfl (λj v hj=>by rw[aD];exact hj) ?_;refine⟨rfl,?_⟩;refine kf (k:=2) hs rfl (aI rfl) (by simp[Value.oneCell']) λw hs=>?_;rw[iS (by simp)] at hs;simp only[nz,ae,ag] at hs;refine km (k:=2) (xs:=[.i (sN l),.i (sI l),.s (bs (sD l))]) hs rfl rfl (λj v hj=>by rw[aD];exact hj) ?_;exact hK w hs.drop.drop.drop
  ·rw[ai hg] at hK;rw[aq hg];simp only[nz,ae,ag];exact(Qe hK w _ _ hs).2.2
 ·rw[ai hz] at hK;rw[aq (λhh=>hz (hr.1 hh))];simp only[nz,ae,ag];exact(Qe hK w _ _ hs).2.2
end
def nq(D:aZ)(at' number:Int)(size:Nat):Nat->Nat->Option (List UInt8)
 |_,0=>some []
 |i,n+1=>match mh (D.read (at'+i)).1.data.toList with
  |none=>none
  |some (m,j,d)=>if m=number/\j=i/\d.size=min (size-104* i) 104 then(nq D at' number size (i+1) n).map (d.data.toList++·) else none
def take(D:aZ)(at' toX number size:Int):Option (List UInt8):=
 if at'<0\/(D.safe.length:Int)<toX\/toX<at'\/size<0\/425984<size\/toX-at'<(gB size.toNat:Int) then none else nq D at' number size.toNat 0 (gB size.toNat)
def sV:Option (List UInt8)->Value
 |none=>.tuple ⟨[.s .empty,.b false]⟩
 |some l=>.tuple ⟨[.s (bs l),.b true]⟩
def o9(D:aZ)(at' number:Int)(size i n:Nat):nq D at' number size i (n+1)=match mh (D.read (at'+i)).1.data.toList with
 |none=>none
 |some (m,j,d)=>if m=number/\j=i/\d.size=min (size-104* i) 104 then(nq D at' number size (i+1) n).map (d.data.toList++·) else none:=rfl
def Rj{B b:Nat}{l:List UInt8}{w w':World}(h:Zp B b l w)(hb:Below w.heap.size w w'):Zp B b l w':=by
 have key:∀p,Go.Lib.BuilderAt YV aac B b p (Go.Lib.byteCells l) w->Go.Lib.BuilderAt YV aac B b p (Go.Lib.byteCells l) w':=by
  intro p h;have cj:=h.lt;obtain⟨hB,v,FU,adb,jW⟩:=h;refine⟨hB,v,by rw[hb.block b cj];exact FU,?_,jW⟩;refine⟨adb.1,?_⟩;rcases adb.2 with h0|⟨g,cap,cur,h1,h2,h3,h4⟩
  ·exact .inl h0
  ·refine .inr ⟨g,cap,cur,h1,h2,?_,h4⟩;have hg:g<w.heap.size:=(Array.getElem?_eq_some_iff.1 h3).1;rw[hb.block g hg];exact h3
 rcases h with h|h
 ·exact .inl (key _ h)
 ·exact .inr (key _ h)
def Xq{w:World}:Zp w.heap.size w.heap.size [] (w.alloc (.cells ⟨[.p none,.l none 0 0]⟩ YV)):=by
 refine .inl ⟨aF _,.l none 0 0,?_,?_,by intro h;cases h⟩
 ·show(w.heap.push _)[w.heap.size]?=_;rw[Array.getElem?_push_size]
 ·exact⟨rfl,.inl ⟨rfl,rfl⟩⟩
section
variable {W w:World} {L:LH} {k d:Nat} {D:aZ}
def JX{at' number:Int}{size:Nat}{b:Bool}{K:VK}(h:St W w L)(hk:L[k]?=some (gT d D))(iE:D.Ok)(BJ:b=false->0<=at'/\at'+(gB size:Int)<=D.safe.length)(qX:size<=425984)
 (hK:∀w',St W w' L->K (sV (if b then none else nq D at' number size 0 (gB size))) w'):jc.j1 K size (ah d) at' number b w:=by
 have wB:=iE.oS;unfold jc.j1;refine tJ (λhb=>?_) (λhb=>?_)
 ·rw[ai hb] at hK;exact hK w h
 rw[af (by rw[hb];exact rq)] at hK;obtain⟨h0,VJ⟩:=BJ hb;generalize HY:w=w0 at *;show mkT YV [.p none,.l none 0 0] _ w0;unfold mkT;have hB0:=Xq (w:=w0);have ZI:Below w0.heap.size w0 (w0.alloc (.cells ⟨[.p none,.l none 0 0]⟩ YV)):=Below.alloc (Below.refl _ _) (aF _) _;generalize hw1:w0.alloc (.cells ⟨[.p none,.l none 0 0]⟩ YV)=w1 at *;generalize hq:w0.heap.size=q at *;apply rm (by omega);simp only[nz,ae,ag];refine⟨λus w'=>∃(j:Nat)(l:List UInt8),us=[.s .empty,.b false,.p (ah q),.i (gB size),.i j]/\j<=gB size/\l.length<=104* j/\Zp q q l w'/\Below q w0 w'/\q<=w'.heap.size/\
    nq D at' number size 0 (gB size)=(nq D at' number size j (gB size-j)).map (l++·),
  λus _=>match us with|[_,_,_,_,.int _ j]=>gB size-j.toNat|_=>0,⟨0,[],rfl,aE _,aF _,hB0,ZI,?_,?_⟩,?_⟩
 ·have:=ZI.size;omega
 ·cases nq D at' number size 0 (gB size)<;>simp
 rintro s1 b2 a1 n6 n7 w2 ⟨j,l,he,hj,H3,hB,abl,hqs,rB⟩;cases he
 have hs:St W w2 L:=h.tK (by rw[hq];exact abl);have MY:gB size<=4096:=by unfold gB;split<;>omega
 refine fQ (λcj=>?_) (λiO=>?_)
 ·have ea:aa.wrap (at'+(j:Int))=at'+j:=aX (by omega);rw[ea];apply sh hs hk iE;simp only[nz,ae,ag];have aiq:=za iE (i:=at'+j) ⟨by omega,by omega⟩;obtain⟨p,hp⟩:∃p,gB size-j=p+1:=⟨gB size-j-1,by omega⟩;rw[hp,o9] at rB;generalize hx:(D.read (at'+(j:Int))).1=x at *;rw[show x=bs x.data.toList from rfl];refine CU (St.start w2) (by rw[eL];omega) λw3 vY=>?_;have hb3:=vY.below;have Ug:Below q w0 w3:=abl.trans (hb3.mono hqs);have fC:St W w3 L:=h.tK (by rw[hq];exact Ug);have no:nq D at' number size 0 (gB size)=none->∀w',Below q w0 w'->K (.tuple ⟨[.s .empty,.b false]⟩) w':=λhn w' hb=>by
   have:=hK w' (h.tK (by rw[hq];exact hb));rw[hn] at this;exact this
  cases hv:mh x.data.toList with
  |none=>
   rw[hv] at rB;unfold ue;simp only[nz,ae,ag];simp only[xX,aW,cK,aD,ae,true_and];simp only[nz,ae,ag];refine je (St.start w3) λr w4 yt=>?_;refine⟨trivial,kf (k:=0) yt rfl (aI rfl) (by simp[Value.oneCell']) λw4 yt=>?_⟩;exact no (by rw[rB];rfl) w4 (Ug.trans (yt.below.mono (by have:=hb3.size;omega)))
  |some y=>
   obtain⟨m,i,dd⟩:=y;rw[hv] at rB;dsimp only at rB;unfold ue;simp only[nz,ae,ag];simp only[xX,aW,cK,aD,ae,true_and];simp only[nz,ae,ag];refine je (St.start w3) λr w4 yt=>?_;refine⟨trivial,kf (k:=0) yt rfl (aI rfl) (by simp[Value.oneCell']) λw4 yt=>?_⟩;rw[iS (by simp)] at yt;simp only[nz,ae,ag] at yt;have H9:Below q w0 w4:=Ug.trans (yt.below.mono (by have:=hb3.size;omega));apply cX (k:=0) yt rfl rfl;simp only[nz,ae,ag];refine uX (λjW=>?_) (λhmn=>?_)
   ·exact no (by rw[rB,af (λhh=>jW hh.1)];rfl) w4 H9
   apply cX (k:=0) yt rfl rfl;simp only[nz,ae,ag];refine uX (λjW=>?_) (λMS=>?_)
   ·exact no (by rw[rB,af (λhh=>jW hh.2.1)];rfl) w4 H9
   apply cX (k:=0) yt rfl rfl;simp only[nz,ae,ag];have e1:aa.wrap ((j:Int)* 104)=(j:Int)* 104:=aX (by omega);have e2:aa.wrap ((size:Int) -(j:Int)* 104)=(size:Int) -(j:Int)* 104:=aX (by omega);have XE:104* j<=size:=by
    rcases Nat.eq_zero_or_pos j with h0|h0
    ·omega
    ·have:=(Om (n:=size) h0).2 (by omega);omega
   have e3:min2 ((size:Int) -(j:Int)* 104) 104=((min (size-104* j) 104:Nat):Int):=by unfold min2;split<;>omega
   rw[e1,e2,e3];refine uX (λjW=>?_) (λhds=>?_)
   ·exact no (by rw[rB,af (λhh=>jW (by rw[hh.2.2]))];rfl) w4 H9
   have afu:dd.size=min (size-104* j) 104:=by omega
   apply cX (k:=0) yt rfl rfl;simp only[nz,ae,ag];rw[ai ⟨hmn,MS,afu⟩] at rB;have hB4:Zp q q l w4:=Rj hB (hb3.trans (yt.below.mono hb3.size));refine⟨q,q,l,rfl,hB4,by omega,(by have:=H9.size;omega),λw5 hB5 ZH=>?_⟩;simp only[nz,ae,ag];have e5:=m9 j;rw[e5];have Jk:gB size-(j+1)=p:=by omega
   refine⟨⟨j+1,_,rfl,by omega,?_,hB5,H9.trans ZH,?_,?_⟩,by omega⟩
   ·rw[au,eL];omega
   ·have:=ZH.size;have:=H9.size;omega
   ·rw[rB,Jk];cases nq D at' number size (j+1) p<;>simp[aH]
 ·have hje:j=gB size:=by omega
  refine⟨q,q,l,rfl,hB,hqs,λw' hb=>?_⟩;simp only[nz,ae,ag];have:=hK w' (h.tK (by rw[hq];exact abl.trans hb));rw[rB,hje,jS] at this;simp only[nq,fF,bO,sV] at this;exact this
def Iy{at' toX number size:Int}{K:VK}(h:St W w L)(hk:L[k]?=some (gT d D))(iE:D.Ok)(hK:∀w',St W w' L->K (sV (take D at' toX number size)) w'):jc (ah d) at' toX number size K w:=by
 have wB:=iE.oS;have bad:(at'<0\/(D.safe.length:Int)<toX\/toX<at'\/size<0\/425984<size\/toX-at'<(gB size.toNat:Int))->jc.j1 K size (ah d) at' number true w:=λhb=>by
  unfold jc.j1;rw[kZ];have:=hK w h;unfold take at this;rw[ai hb] at this;exact this
 unfold jc;refine fQ (λh1=>bad (.inl h1)) (λh1=>?_);apply nT h hk;simp only[nz,ae,ag];refine fQ (λh2=>bad (.inr (.inl h2))) (λh2=>?_);refine fQ (λh3=>bad (.inr (.inr (.inl h3)))) (λh3=>?_);refine fQ (λh4=>bad (.inr (.inr (.inr (.inl h4))))) (λh4=>?_);refine tJ (λh5=>bad (.inr (.inr (.inr (.inr (.inl (aS h5))))))) (λh5=>?_);have h5:=bq h5;obtain⟨m,rfl⟩:=bw (show 0<=size by omega);apply rm (by omega);simp only[nz,ae,ag];have ew:aa.wrap (toX-at')=toX-at':=aX (by omega);rw[ew];refine JX h hk iE (λhb=>?_) (by omega) λw' hs=>?_
 ·have:=bq hb;omega
 ·have:=hK w' hs;unfold take at this;rw[ak] at this;by_cases h6:toX-at'<(gB m:Int)
  ·rw[ai (by omega)] at this;have e:decide ((gB m:Int)>toX-at')=true:=aw (by omega);rw[e,ai rfl];exact this
  ·rw[af (by omega)] at this;have e:decide ((gB m:Int)>toX-at')=false:=aq (by omega);rw[e,af rq];exact this
end
def PO{at' number:Int}{s:BA}(qd:1<=number/\number<=1152921504606846976)(BJ:0<=at'):∀(n i:Nat) {D:aZ},D.arm=0->at'+i+n<=D.safe.length->i+n<=4096->
 (pz at' number s D i n).2=0/\(pz at' number s D i n).1.arm=0/\(pz at' number s D i n).1.safe=D.safe/\(pz at' number s D i n).1.later.length=D.later.length+n/\
 ∀j:Int,(j<at'+i\/at'+i+n<=j)->(pz at' number s D i n).1.now j=D.now j
 |0,i,D,ha,hr,hi=>⟨rfl,ha,rfl,rfl,λ_ _=>rfl⟩
 |n+1,i,D,ha,hr,hi=>by
  have hg:fk number i (part s i):=⟨qd.1,qd.2,by omega,by omega,nB s i⟩;have qX:=uv hg;have hi:D.is (at'+i):=⟨by omega,by omega⟩;have zG: ¬(¬D.is (at'+i)\/128<(leaf number i (part s i)).size):=by
   rintro(hh|hh)
   ·exact hh hi
   ·omega
  have hw:D.write (at'+i) (leaf number i (part s i))=({Go.cH.aZ.tick D with later:=D.later++[(at'+i,aZ.pad (leaf number i (part s i)))]},0):=by
   rw[Dk.IE ha,af zG]
  have hn:=λj=>Dk.FA ha (at'+i) j (leaf number i (part s i));unfold pz;have h0:(D.write (at'+i) (leaf number i (part s i))).2=0:=by rw[hw]
  rw[af (by rw[h0];exact λhh=>hh rfl)];have hlen:(D.write (at'+i) (leaf number i (part s i))).1.later.length=D.later.length+1:=by rw[hw];simp
  have tA:=(sy D (at'+i) (leaf number i (part s i))).1;have XM:=Dk.ED ha (at'+i) (leaf number i (part s i));have ih:=PO qd BJ (s:=s) n (i+1) (D:=(D.write (at'+i) (leaf number i (part s i))).1) XM (by rw[tA];omega) (by omega);refine⟨ih.1,ih.2.1,ih.2.2.1.trans tA,by rw[ih.2.2.2.1,hlen];omega,λj hj=>?_⟩;rw[ih.2.2.2.2 j (by omega),hn j,af (λhh=>by have:=hh.2;omega)]
section
variable {W w:World} {L:LH}
end
def Ov(m i:Nat)(hi:i<8):(byteOf .i64 (m:Int) i).toNat=m/256^i%256:=by
 have hp:(256:Nat)^i=2^(8* i):=by rw[show(256:Nat)=2^8 from rfl,<-Nat.pow_mul]
 have e1:shr .i64 (m:Int) (8* (i:Int))=((m/256^i:Nat):Int):=by
  unfold shr;have h1:(8* (i:Int)).toNat=8* i:=by omega
  have h2:min (8* i) aa.bits=8* i:=by show min (8* i) 64=_;omega
  rw[h1,h2,hp,GI _ (Int.le_of_lt (Int.pow_pos (by decide)))]
  push_cast
  rfl
 have e2:IntKind.u8.wrap ((m/256^i:Nat):Int)=((m/256^i%256:Nat):Int):=by
  generalize m/256^i=z;simp[IntKind.wrap,IntKind.bits,IntKind.signed]
 unfold byteOf;rw[e1,e2,ak,UInt8.toNat_ofNat_of_lt' (Nat.mod_lt _ (by decide))]
def le_succ(k:IntKind)(w:Nat)(n:Int):le k (w+1) n=le k w n++[byteOf k n w]:=by
 unfold le;rw[List.range_succ,cU];rfl
def rG(m:Nat):∀w,w<=8->nV (le .i64 w (m:Int))=m%256^w
 |0,_=>by simp[le,nV,Nat.mod_one]
 |w+1,h=>by
  rw[le_succ,tg,rG m w (by omega),Ov m w (by omega),aP,Nat.mod_pow_succ,vK]
def px{n:Int}(h:0<=n/\n<=1152921504606846976):nt (le .i64 8 n)=n:=by
 obtain⟨m,rfl⟩:=bw h.1;unfold nt;rw[rG m 8 (by omega)];have h8:(256:Nat)^8=18446744073709551616:=rfl;rw[h8,fD (by omega),aX (by omega)]
def Kl{m:Nat}(h:m<65536):nV (le .i64 2 (m:Int))=m:=by
 rw[rG m 2 (by omega)];exact fD h
def pg{n i:Int}{s:BA}(h:fk n i s):mh (mH n i s)=some (n,i,s):=by
 obtain⟨h1,h2,h3,h4,h5⟩:=h;have hl:(mH n i s).length=128:=xp h5;have Sj:(pre n i s).length=116:=re h5;have hd:s.data.toList.length=s.size:=rfl;have hc:(vT (tp 0 (pre n i s))).length=4:=aP _ _ _;have xw:mH n i s=le .i64 8 n++(le .i64 2 i++(le .i64 2 s.size++(s.data.toList++(bj (104-s.size) 0++(vT (tp 0 (pre n i s))++le .i64 8 n))))):=by
  simp only[mH,pre,aH]
 have t120:(mH n i s).take 120=pre n i s++vT (tp 0 (pre n i s)):=by
  unfold mH;rw[zJ (by rw[au,Sj,hc];omega),bG (by rw[au,Sj,hc];omega)]
 have hh:tQ ((mH n i s).take 120)=true:=by
  rw[t120];unfold tQ;have hlen:(pre n i s++vT (tp 0 (pre n i s))).length=120:=by rw[au,Sj,hc]
  rw[hlen,show 120-4=(pre n i s).length from by rw[Sj],CW,List.drop_left,beq_self_eq_true]
  rfl
 have tl:∀(a b:List UInt8)(m:Nat),a.length=m->(a++b).take m=a:=λa b m hm=>by subst hm;exact CW
 have dl:∀(a b:List UInt8)(m:Nat),a.length=m->(a++b).drop m=b:=λa b m hm=>by subst hm;exact List.drop_left
 have d8:(mH n i s).drop 8=le .i64 2 i++(le .i64 2 s.size++(s.data.toList++(bj (104-s.size) 0++(vT (tp 0 (pre n i s))++le .i64 8 n)))):=by rw[xw,dl _ _ _ (aP _ _ _)]
 have d10:((mH n i s).drop 8).drop 2=le .i64 2 s.size++(s.data.toList++(bj (104-s.size) 0++(vT (tp 0 (pre n i s))++le .i64 8 n))):=by rw[d8,dl _ _ _ (aP _ _ _)]
 have hr:mT (mH n i s)=s.data.toList++(bj (104-s.size) 0++(vT (tp 0 (pre n i s))++le .i64 8 n)):=by unfold mT;rw[d10,dl _ _ _ (aP _ _ _)]
 have eN:sN (mH n i s)=n:=by unfold sN;rw[xw,tl _ _ _ (aP _ _ _),px ⟨by omega,h2⟩]
 have eI:sI (mH n i s)=i:=by
  unfold sI;rw[d8,tl _ _ _ (aP _ _ _),nY (by rw[aP];omega)];obtain⟨m,rfl⟩:=bw h3;rw[Kl (by omega)]
 have eM:sM (mH n i s)=s.size:=by
  unfold sM;rw[d10,tl _ _ _ (aP _ _ _),Kl (by omega)]
 have eD:sD (mH n i s)=s.data.toList:=by unfold sD;rw[eM,hr,tl _ _ _ hd]
 have dr:(mT (mH n i s)).drop s.size=bj (104-s.size) 0++(vT (tp 0 (pre n i s))++le .i64 8 n):=by rw[hr,dl _ _ _ hd]
 have eZ:sZ (mH n i s)=bj (104-s.size) 0:=by unfold sZ;rw[eM,dr,tl _ _ _ (by simp)]
 have eT:C5 (mH n i s)=n:=by
  unfold C5;rw[eM,dr,dl _ _ _ (by simp),dl _ _ _ hc,bG (by rw[aP];omega),px ⟨by omega,h2⟩]
 have hg:fk (sN (mH n i s)) (sI (mH n i s)) (bs (sD (mH n i s))):=by
  rw[eN,eI,eD,Qk];exact⟨h1,h2,h3,h4,h5⟩
 unfold mh;rw[af (λhx=>hx hl),af (by rw[hh];exact rq),af (by rw[eM];omega),af (λhx=>hx (by rw[eT,eN])),af (λhx=>hx (by rw[eZ];simp)),af (λhx=>hx hg),eN,eI,eD,Qk]
def yJ:mh (fO 128).data.toList=none:=by decide+kernel
def PA{s:BA}(h:s.size=128):aZ.pad s=s:=by
 unfold aZ.pad;rw[h];apply kQ;rw[ByteArray.data_append,Array.toList_append];simp[fO]
def PN{at' number:Int}{s:BA}(qd:1<=number/\number<=1152921504606846976)(BJ:0<=at'):∀(n i:Nat) {D:aZ},D.arm=0->at'+i+n<=D.safe.length->i+n<=4096->
 ∀q,i<=q->q<i+n->(pz at' number s D i n).1.now (at'+q)=leaf number q (part s q)
 |0,i,D,ha,hr,hi,q,h1,h2=>by omega
 |n+1,i,D,ha,hr,hi,q,h1,h2=>by
  have hg:fk number i (part s i):=⟨qd.1,qd.2,by omega,by omega,nB s i⟩;have qX:=uv hg;have u9:D.is (at'+i):=⟨by omega,by omega⟩;have zG: ¬(¬D.is (at'+i)\/128<(leaf number i (part s i)).size):=by
   rintro(hh|hh)
   ·exact hh u9
   ·omega
  have hw:D.write (at'+i) (leaf number i (part s i))=({Go.cH.aZ.tick D with later:=D.later++[(at'+i,aZ.pad (leaf number i (part s i)))]},0):=by
   rw[Dk.IE ha,af zG]
  have h0:(D.write (at'+i) (leaf number i (part s i))).2=0:=by rw[hw]
  have tA:=(sy D (at'+i) (leaf number i (part s i))).1;have XM:=Dk.ED ha (at'+i) (leaf number i (part s i));unfold pz;rw[af (by rw[h0];exact λhh=>hh rfl)];by_cases hq:q=i
  ·subst hq;have:=(PO qd BJ (s:=s) n (q+1) (D:=(D.write (at'+q) (leaf number q (part s q))).1) XM (by rw[tA];omega) (by omega)).2.2.2.2 (at'+q) (by omega);rw[this,Dk.FA ha,ai ⟨⟨u9,by omega⟩,rfl⟩,PA qX]
  ·exact PN qd BJ (s:=s) n (i+1) XM (by rw[tA];omega) (by omega) q (by omega) (by omega)
def B8{D:aZ}{at' number:Int}{size:Nat}{s:BA}:∀(n i:Nat),(∀q,i<=q->q<i+n->mh (D.read (at'+q)).1.data.toList=some (number,(q:Int),part s q)/\(part s q).size=min (size-104* q) 104)->
 nq D at' number size i n=some ((s.data.toList.drop (104* i)).take (104* n))
 |0,i,_=>by simp[nq]
 |n+1,i,h=>by
  obtain⟨h1,h2⟩:=h i (aF _) (by omega);rw[o9,h1];dsimp only;rw[ai ⟨rfl,rfl,h2⟩,B8 n (i+1) (λq hq Xw=>h q (by omega) (by omega))];have e:(part s i).data.toList=(s.data.toList.drop (104* i)).take 104:=by
   unfold part;rw[extract_toList];congr 1;omega
  rw[e,fF]
  congr 1
  rw[show 104* (n+1)=104+104* n from by omega,List.take_add,iL,show 104* i+104=104* (i+1) from by omega]
section
variable {W w:World} {L:LH}
end
def CY(n:Int):0<=IntKind.u64.wrap n/\IntKind.u64.wrap n<18446744073709551616:=by
 simp[IntKind.wrap,IntKind.bits,IntKind.signed];omega
def UU(n:Int)(i:Nat)(hi:i<8):IntKind.u8.wrap (shr .i64 n (8* (i:Int)))=IntKind.u8.wrap ((((IntKind.u64.wrap n).toNat/256^i:Nat):Int)):=by
 have hu:(((IntKind.u64.wrap n).toNat:Nat):Int)=n%18446744073709551616:=by
  have:=CY n;rw[Int.toNat_of_nonneg this.1];simp[IntKind.wrap,IntKind.bits,IntKind.signed]
 generalize (IntKind.u64.wrap n).toNat=U at *;have e8:∀x:Int,IntKind.u8.wrap x=x%256:=λx=>by simp[IntKind.wrap,IntKind.bits,IntKind.signed]
 rw[e8,e8];unfold shr;rw[GI _ (Int.le_of_lt (Int.pow_pos (by decide)))]
 match i,hi with
 |0,_=>show(n/1)%256=(((U/1:Nat):Int))%256;omega
 |1,_=>show(n/256)%256=(((U/256:Nat):Int))%256;omega
 |2,_=>show(n/65536)%256=(((U/65536:Nat):Int))%256;omega
 |3,_=>show(n/16777216)%256=(((U/16777216:Nat):Int))%256;omega
 |4,_=>show(n/4294967296)%256=(((U/4294967296:Nat):Int))%256;omega
 |5,_=>show(n/1099511627776)%256=(((U/1099511627776:Nat):Int))%256;omega
 |6,_=>show(n/281474976710656)%256=(((U/281474976710656:Nat):Int))%256;omega
 |7,_=>show(n/72057594037927936)%256=(((U/72057594037927936:Nat):Int))%256;omega
section
variable {W w:World} {L:LH}
def zf{m n:Int}{K:VK}(h:St W w L)(hK:∀w',St W w' L->K (.s (bs (le .i64 (min2 (max2 m 1) 8).toNat n))) w'):bK m n K w:=by
 have hm:1<=min2 (max2 m 1) 8/\min2 (max2 m 1) 8<=8:=by unfold min2 max2;split<;>split<;>omega
 unfold bK;generalize min2 (max2 m 1) 8=q at *;have hu:=CY n;refine⟨λus w'=>∃j:Nat,us=[.s .empty,.i q,.u (((IntKind.u64.wrap n).toNat/256^j:Nat):Int),.s (bs (le .i64 j n)),.i j]/\(j:Int)<=q/\St W w' L,
  λus _=>match us with|[_,_,_,_,.int _ j]=>(q-j).toNat|_=>0,⟨0,?_,by omega,h⟩,?_⟩
 ·rw[Nat.pow_zero,Nat.div_one,Int.toNat_of_nonneg hu.1];rfl
 rintro s1 n3 n4 s2 n5 w2 ⟨j,he,hj,hs⟩;cases he
 refine fQ (λh0=>?_) (λh0=>?_)
 ·have hj8:j<8:=by omega
  have hb:=UU n j hj8;have aiE:(IntKind.u64.wrap n).toNat<18446744073709551616:=by omega
  generalize hU:(IntKind.u64.wrap n).toNat=U at *;have hle:U/256^j<=U:=Nat.div_le_self _ _;have tU:U/256^(j+1)=U/256^j/256:=by rw[Nat.div_div_eq_div_mul,<-zx]
  generalize U/256^j=V at *;have et:((V:Nat):Int).tmod 256=((V%256:Nat):Int):=by rw[dB (by omega)];rfl
  have ed:((V:Nat):Int).tdiv 256=((V/256:Nat):Int):=by rw[Int.tdiv_eq_ediv_of_nonneg (by omega)];rfl
  have ew:IntKind.u64.wrap ((V/256:Nat):Int)=((V/256:Nat):Int):=sm (by omega);have e5:=m9 j;have w8:∀z:Nat,IntKind.u8.wrap ((z%256:Nat):Int)=IntKind.u8.wrap ((z:Nat):Int):=λz=>by simp[IntKind.wrap,IntKind.bits,IntKind.signed]
  have zW:Value.int .u8 (IntKind.u8.wrap (((V:Nat):Int).tmod 256))=vf (byteOf .i64 n j):=by
   unfold byteOf;rw[uo (wY _),hb,et,w8]
  rw[zW,ed,ew,e5];refine⟨by decide,⟨rfl,trivial⟩,je hs λr w hs=>?_⟩;refine OB (k:=0) (l:=[byteOf .i64 n j]) hs rfl rfl ?_;rw[lR,<-le_succ];refine⟨by rw[cf,cf,aP];simp;omega,by decide,?_⟩;exact⟨⟨j+1,by rw[tU],by omega,hs.drop⟩,by dsimp only;omega⟩
 ·have:q.toNat=j:=by omega
  rw[this] at hK;exact hK _ hs
end
end Go.Sep
namespace Go.Up
open Go.Sep Go.Den Go.RowKit Go.Prog Go.Md
def BM{α:Type}{f:α->LV}{e:Nat}(hf:∀x,(f x).length=e):∀l:List α,(l.flatMap f).length=l.length* e
 |[]=>by simp
 |x::l=>by rw[iP,au,hf,BM hf l,aW,mn];omega
def qP{α:Type}{f:α->LV}{e:Nat}(hf:∀x,(f x).length=e):∀(l:List α)(i:Nat)(x:α),l[i]?=some x->∀j v,(f x)[j]?=some v->(l.flatMap f)[i* e+j]?=some v
 |[],i,x,h,j,v,hj=>by simp at h
 |y::l,0,x,h,j,v,hj=>by
  simp at h;subst h;rw[iP,Nat.zero_mul,aD,cO (av.1 hj).1];exact hj
 |y::l,i+1,x,h,j,v,hj=>by
  rw[iP,iJ (by rw[hf,mn];omega),hf,show(i+1)* e+j-e=i* e+j by rw[mn];omega];exact qP hf l i x (by simpa using h) j v hj
def F0{α:Type}{f:α->LV}{e:Nat}(hf:∀x,(f x).length=e):∀(l:List α)(i:Nat)(x:α),i<l.length->over (l.flatMap f) (i* e) (f x)=(l.set i x).flatMap f
 |[],i,x,h=>by simp at h
 |y::l,0,x,h=>by
  unfold over;rw[iP,Nat.zero_mul,og,cT,hf,aD,List.drop_left' (hf y)];rfl
 |y::l,i+1,x,h=>by
  have ih:=F0 hf l i x (by simpa using h);unfold over at ih⊢;rw[iP,lA,iP,<-ih,hf,show(i+1)* e=(f y).length+i* e by rw[hf,mn];omega,List.take_append,bG (by omega),
   show(f y).length+i* e-(f y).length=i* e by omega,Nat.add_assoc,List.drop_append,fB (by omega),show(f y).length+(i* e+e) -(f y).length=i* e+e by omega]
  simp
def yP(n:Nat):(nm n).length=2:=rfl
def oJ(n:Nat):∀v∈nm n,v.oneCell'=true:=λv h=>by simp[nm] at h;rcases h with rfl|rfl<;>rfl
section
variable {W:World} {L:LH} {K:VK} {a b n:Nat}
def tj{r m e:Nat}{i:Int}{K:Addr->WK}(hi:0<=i/\i<m)(h:T W L (K ⟨r,i.toNat* e,none⟩)):T W L (iY (ah r) m i e K):=λw hs=>
 ⟨_,rfl,hi,by rw[gY,aD];exact h w hs⟩
def ack{α:Type}{r o e:Nat}{l:List α}{x:α}{g:α->LV}{f:LV->LH}{K:LV->WK}[i:Lc (pt r) L (l.flatMap g) f](hf:∀x,(g x).length=e)(hx:l[o]?=some x)(h:T W L (K (g x))):T W L (aJ ⟨r,o* e,none⟩ e K):=λw hs=>
 let⟨_,hk,_⟩:=i.at_;km hs hk (hf x) (qP hf l o x hx) (h w hs)
def C4:Nat->List Nat->Option Nat
 |s,[]=>some s
 |s,x::l=>if s+x<bJ then C4 (s+x) l else none
abbrev aeU(o:Option Nat):Value:=.tuple ⟨[.agg ⟨nm (o.getD 0)⟩,.b o.isSome]⟩
def ZT{r c:Nat}{l:List Nat}{f:LV->LH}(hl:∀x∈l,x<bJ)(hlen:l.length<1000)[i:Lc (pt r) L (l.flatMap nm) f](h:T W L (K (aeU (C4 0 l)))):T W L (yw (ah r) l.length c K):=by
 unfold yw;apply ws;intros;rename_i r1 r2;intro w hs;refine⟨λvs w=>∃i s:Nat,i<=l.length/\s<bJ/\C4 0 l=C4 s (l.drop i)/\vs=[.p (some (ad r1 0)),.b false,.p (some (ad r2 0)),.l (ah r) l.length c,.i (l.length:Int),.i (i:Int)]/\St W w (pt r2 (nm s)::pt r1 (nm 0)::L),
  λvs _=>match vs with|[_,_,_,_,_,.int _ j]=>l.length-j.toNat|_=>0,⟨0,0,aE _,by decide,rfl,rfl,hs⟩,?_⟩
 rintro a1 b1 a2 jJ iX jV n1 n2 w2 ⟨i,s,hi,hsM,he,e,hs⟩;cases e
 refine T.at ?_ hs;apply fZ<;>intro h1
 ·have cj:i<l.length:=by simpa using h1
  apply tj (by omega);rw[ak];refine ack yP (aj cj) ?_;have hx:=hl _ (cb cj);have hd:l.drop i=l[i]::l.drop (i+1):=gZ cj;rw[hd] at he;generalize l[i]=x at *;have u7:C4 s (x::l.drop (i+1))=if s+x<bJ then C4 (s+x) (l.drop (i+1)) else none:=rfl
  rw[u7] at he
  repeat' first|apply ws;intros|apply wb|first|refine DD hsM hx ?_|apply db<;>intro h1
  ·have h2: ¬s+x<bJ:=by simpa using h1
   rw[af h2] at he;rw[he] at h;exact T.dp h
  ·have h2:s+x<bJ:=by simpa using h1
   rw[ai h2] at he;rw[ai h2];have e5:=m9 i;rw[e5];refine T.drop λw3 h3=>⟨⟨i+1,s+x,cj,h2,he,rfl,h3⟩,?_⟩;show l.length-((i+1:Nat):Int).toNat<l.length-(i:Int).toNat;omega
 ·have iO:i=l.length:=by omega
  subst iO;rw[fB (aF _)] at he;rw[he] at h;apply ws;exact T.dp h
end
end Go.Up
namespace Go.Sep
open Go.Den Go.RowKit Go.Prog Go.cH
section
variable {W w:World} {L:LH}
end
def Km:∀(a b:List UInt8),a.length=b.length->nV a=nV b->a=b
 |[],[],_,_=>rfl
 |[],_::_,h,_=>by simp at h
 |_::_,[],h,_=>by simp at h
 |c::a,d::b,h,hv=>by
  have hc:=c.toNat_lt;have hd:=d.toNat_lt;simp only[nV] at hv;have h1:c.toNat=d.toNat:=by omega
  rw[Km a b (by simpa using h) (by omega),UInt8.toNat_inj.1 h1]
def Nw{l:List UInt8}{n j:Int}{d:BA}(h:mh l=some (n,j,d)):l.length=128/\sM l<=104/\C5 l=sN l/\n=sN l/\j=sI l/\fk (sN l) (sI l) (bs (sD l)):=by
 unfold mh at h;split at h
 ·cases h
 rename_i h1;split at h
 ·cases h
 split at h
 ·cases h
 rename_i h3;split at h
 ·cases h
 rename_i h4;split at h
 ·cases h
 split at h
 ·cases h
 rename_i h6;cases h
 exact⟨bp.1 h1,by omega,bp.1 h4,rfl,rfl,bp.1 h6⟩
def Ti{l:List UInt8}(h:sM l<=104)(hl:l.length=128):C5 l=nt (l.drop 120):=by
 unfold C5 mT;rw[iL,iL,iL,iL,iL,bG (by rw[aR];omega)]
 congr 2
 omega
def K8{D:aZ}:∀j i:Nat,i<j->numOf (CB (D.read (i:Int)).1)<=fe D j/\numOf (B7 (D.read (i:Int)).1)<=fe D j
 |0,i,h=>by omega
 |j+1,i,h=>by
  have hm:∀a b:Int,a<=max2 a b/\b<=max2 a b:=λa b=>by unfold max2;split<;>omega
  simp only[fe];have h1:=hm (max2 (fe D j) (numOf (CB (D.read (j:Int)).1))) (numOf (B7 (D.read (j:Int)).1));have h2:=hm (fe D j) (numOf (CB (D.read (j:Int)).1));by_cases MS:i=j
  ·subst MS;exact⟨by omega,by omega⟩
  ·have:=K8 (D:=D) j i (by omega);exact⟨by omega,by omega⟩
def K9(s:BA):0<=numOf s/\numOf s<=1152921504606846976:=by unfold numOf;split<;>omega
def xC(D:aZ):∀j,0<=fe D j/\fe D j<=1152921504606846976
 |0=>by simp[fe]
 |j+1=>by
  have h1:=xC D j;have h2:=K9 (CB (D.read (j:Int)).1);have h3:=K9 (B7 (D.read (j:Int)).1);simp only[fe];unfold max2;split<;>split<;>omega
def low(w:Int):Int:=de .i64 .and w 1
def PI(w:Int):low w=(((BitVec.ofInt 64 w).toNat%2:Nat):Int):=by
 have e2:(BitVec.ofInt 64 1).toNat=1:=rfl;show aa.wrap (((BitVec.ofInt 64 w&&&BitVec.ofInt 64 1).toNat:Nat):Int)=_;rw[BitVec.toNat_and,e2,Nat.and_one_is_mod,aX (by omega)]
def vR(w:Int):low w=0\/low w=1:=by rw[PI];omega
def dv(n:Nat):Nat:=(n-2)* 2/5
def fw(n:Nat):LV:=[.i 2,.i (2+dv n:Nat),.i (dv n:Nat),.i (2+2* dv n:Nat),.i n]
def fa(n:Nat)(which:Int):Nat:=if low which=0 then 2 else 2+dv n
def pD{n:Nat}(h:12<=n)(w:Int):2<=fa n w/\fa n w+dv n<=n/\4<=dv n:=by
 unfold fa dv;split<;>omega
def Np{n:Nat}(w v:Int)(h:low w≠low v):fa n w+dv n<=fa n v\/fa n v+dv n<=fa n w:=by
 unfold fa;rcases vR w with a|a<;>rcases vR v with b|b<;>rw[a,b] at h⊢<;>simp at h⊢
def put(D:aZ)(n:Nat)(which number:Int)(s:BA):aZ×Int:=
 if(lay D (fa n which) ((fa n which+dv n:Nat):Int) number s).2≠0 then lay D (fa n which) ((fa n which+dv n:Nat):Int) number s
 else(lay D (fa n which) ((fa n which+dv n:Nat):Int) number s).1.sync
def get(D:aZ)(n:Nat)(which number size:Int):Option (List UInt8):=take D (fa n which) ((fa n which+dv n:Nat):Int) number size
section
variable {W w:World} {L:LH} {k d:Nat} {D:aZ}
def YA{n:Nat}{K:VK}(h:St W w L)(nU:12<=n)(cS:n<=4096)(hK:∀w',St W w' L->K (.tuple ⟨[.agg ⟨fw n⟩,.i 0]⟩) w'):ud n K w:=by
 unfold ud;refine je h λr w hs=>?_;have e1:decide ((n:Int)<12)=false:=aq (by omega);have e2:decide ((n:Int)>4096)=false:=aq (by omega);rw[e1,e2];unfold ud.j1;have a1:aa.wrap ((n:Int) -2)=((n-2:Nat):Int):=by rw[aX (by omega)];omega
 have a2:aa.wrap (((n-2:Nat):Int)* 2)=(((n-2)* 2:Nat):Int):=by rw[aX (by omega)];omega
 have a3:(((n-2)* 2:Nat):Int).tdiv 5=((dv n:Nat):Int):=by rw[Int.tdiv_eq_ediv_of_nonneg (by omega)];rfl
 have hp:dv n<=4096:=by unfold dv;omega
 have a4:aa.wrap ((dv n:Nat):Int)=((dv n:Nat):Int):=aX (by omega);have a5:aa.wrap (2+((dv n:Nat):Int))=((2+dv n:Nat):Int):=by rw[aX (by omega)];omega
 have a6:aa.wrap (2* ((dv n:Nat):Int))=((2* dv n:Nat):Int):=by rw[aX (by omega)];omega
 have a7:aa.wrap (2+((2* dv n:Nat):Int))=((2+2* dv n:Nat):Int):=by rw[aX (by omega)];omega
 rw[a1,a2,a3,a4,a5,a6,a7];simp only[nz,ae,ag];refine⟨by decide,?_⟩;refine kf (k:=0) hs rfl (aI rfl) (by simp[Value.oneCell']) λw hs=>?_;rw[iS (by simp)] at hs;refine km (k:=0) (xs:=fw n) hs rfl rfl (λj v hj=>by rw[aD];exact hj) ?_;exact hK w hs.drop
def Er{n:Nat}{which:Int}{K:VK}(h:St W w L)(hK:∀w',St W w' L->K (.i (fa n which:Nat)) w'):pe (fw n) which K w:=by
 unfold pe;refine je h λr w hs=>?_;simp only[nz,ae,ag];apply cX (k:=0) hs rfl rfl;simp only[nz,ae,ag];apply cX (k:=0) hs rfl rfl;simp only[nz,ae,ag];have hl:=vR which;have hh:=hK w hs.drop;unfold fa at hh;show Dg _ 2 (low which) _ w;rcases hl with h0|h0
 ·rw[ai h0] at hh;rw[h0];refine⟨_,⟨by decide,by decide,rfl⟩,?_⟩;simp only[nz,ae,ag];exact hh
 ·rw[af (by omega)] at hh;rw[h0];refine⟨_,⟨by decide,by decide,rfl⟩,?_⟩;simp only[nz,ae,ag];exact hh
def Vo{n:Nat}{which number:Int}{s:BA}{K:VK}(h:St W w L)(hk:L[k]?=some (gT d D))(iE:D.Ok)(nU:12<=n)(cS:n<=4096)(hl:D.later.length+5000<1099511627776)(hs:s.size<=reachBytes)
 (hK:∀w',St W w' (L.set k (gT d (put D n which number s).1))->K (.i (put D n which number s).2) w'):qK (fw n) (ah d) which number s K w:=by
 have AV:=pD nU which;unfold qK;refine je h λr w fC=>?_;have qX:=hs;simp only[nz,ae,ag];refine mw fC λw hs=>?_;refine km (k:=0) (xs:=fw n) hs rfl rfl (λj v hj=>by rw[aD];exact hj) ?_;refine km (k:=0) (xs:=fw n) hs rfl rfl (λj v hj=>by rw[aD];exact hj) ?_;apply cX (k:=0) hs rfl rfl;simp only[nz,ae,ag];refine Er hs λw hs=>?_;simp only[nz,ae,ag];apply kC (k:=0) hs rfl rfl;refine PQ (k:=0) hs rfl (λj v hj=>by rw[aD];exact hj) ?_;refine Er hs λw hs=>?_;simp only[nz,ae,ag];apply kC (k:=0) hs rfl rfl;have ew:aa.wrap (((fa n which:Nat):Int)+((dv n:Nat):Int))=((fa n which+dv n:Nat):Int):=by rw[aX (by omega)];omega
 rw[ew];have ux:(pt r (fw n)::L)[k+1]?=some (gT d D):=by rw[bT];exact hk
 refine Gw (k:=k+1) hs ux iE (by omega) qX λw hs=>?_;rw[lA] at hs;simp only[nz,ae,ag];apply kC (k:=0) hs rfl rfl;unfold put at hK;have Rr:(lay D (fa n which) ((fa n which+dv n:Nat):Int) number s).1.Ok\/(lay D (fa n which) ((fa n which+dv n:Nat):Int) number s).2≠0:=by
  by_cases hc:gB s.size<=4097
  ·exact .inl (Jf iE (by omega)).1
  ·refine .inr ?_;unfold lay;split
   ·simp
   ·rw[ai (by omega)];simp
 refine uX (λjW=>?_) (λh0=>?_)
 ·rw[ai jW] at hK;exact hK w hs.drop
 ·rw[af (λhh=>hh h0)] at hK;refine u4 (k:=k+1) hs (by rw[bT];exact kj hk) (Rr.resolve_right (λhh=>hh h0)) λw hs=>?_;rw[lA,jC] at hs;simp only[nz,ae,ag];exact hK w hs.drop
def Vv{n:Nat}{which number size:Int}{K:VK}(h:St W w L)(hk:L[k]?=some (gT d D))(iE:D.Ok)(nU:12<=n)(cS:n<=4096)
 (hK:∀w',St W w' L->K (sV (get D n which number size)) w'):qL (fw n) (ah d) which number size K w:=by
 have AV:=pD nU which;unfold qL;refine je h λr w fC=>?_;simp only[nz,ae,ag];refine mw fC λw hs=>?_;refine km (k:=0) (xs:=fw n) hs rfl rfl (λj v hj=>by rw[aD];exact hj) ?_;refine km (k:=0) (xs:=fw n) hs rfl rfl (λj v hj=>by rw[aD];exact hj) ?_;apply cX (k:=0) hs rfl rfl;simp only[nz,ae,ag];refine Er hs λw hs=>?_;simp only[nz,ae,ag];apply kC (k:=0) hs rfl rfl;refine PQ (k:=0) hs rfl (λj v hj=>by rw[aD];exact hj) ?_;refine Er hs λw hs=>?_;simp only[nz,ae,ag];apply kC (k:=0) hs rfl rfl;have ew:aa.wrap (((fa n which:Nat):Int)+((dv n:Nat):Int))=((fa n which+dv n:Nat):Int):=by rw[aX (by omega)];omega
 rw[ew];refine Iy (k:=k+1) hs (by rw[bT];exact hk) iE λw hs=>?_;unfold get at hK;cases hg:take D (fa n which) ((fa n which+dv n:Nat):Int) number size with
 |none=>
  rw[hg] at hK;unfold sV at hK⊢;simp only[nz,ae,ag];apply kC (k:=0) hs rfl rfl;exact hK w hs.drop
 |some l=>
  rw[hg] at hK;unfold sV at hK⊢;simp only[nz,ae,ag];apply kC (k:=0) hs rfl rfl;exact hK w hs.drop
end
structure Calm(n:Nat)(D:aZ):Prop where
 ok:D.Ok
 arm:D.arm=0
 later:D.later.length<=1000
 len:D.safe.length=n
def Gd{n:Nat}(h:n<=4096):Calm n (aZ.new n):=by
 refine⟨aaS n,rfl,aE _,?_⟩;simp only[aZ.new,iF];have:min2 (max2 (n:Int) 0) 4096=n:=by unfold min2 max2;split<;>split<;>omega
 rw[this];omega
def By{n:Nat}(h:n<=4096){j:Nat}(hj:j<n):((aZ.new n).read (j:Int)).1=fO 128:=by
 have hc:=Gd h;rw[zb (D:=aZ.new n) rfl (i:=j) (by rw[hc.len];exact hj)];simp[aZ.new]
def XS{n:Nat}{D:aZ}{which number:Int}{s:BA}(hlen:D.safe.length=n)(nU:12<=n)(cS:n<=4096)(qd:1<=number/\number<=1152921504606846976)(hl:gB s.size<=dv n)
 (hr:∀q:Nat,q<gB s.size->(D.read (((fa n which:Nat):Int)+q)).1=leaf number q (part s q)):get D n which number s.size=some s.data.toList:=by
 have AV:=pD nU which;have hb:s.size<=104* gB s.size:=by unfold gB;split<;>omega
 have T5:∀q:Nat,(part s q).size=min (104* (q+1)) s.size-104* q:=λq=>by unfold part;rw[tq]
 unfold get take;rw[af (by rw[hlen,ak];omega),ak,B8 (s:=s) (gB s.size) 0 (λq _ hq=>by
  rw[hr q (by omega)]
  have hg:fk number q (part s q):=⟨qd.1,qd.2,by omega,by omega,nB s q⟩
  unfold leaf
  rw[ai hg]
  exact⟨pg hg,by rw[T5];omega⟩)]
 congr 1
 rw[Nat.mul_zero,iK,bG (by rw[eL];exact hb)]
section
variable {W w:World} {L:LH}
end
section
variable {W w:World} {L:LH}
def Sc{n m:Nat}{K:VK}(h:St W w L)(hm:m<1099511627776000)(hK:∀w',St W w' L->K (.b (decide (gB m<=dv n))) w'):qa (fw n) m K w:=by
 unfold qa;refine je h λr w hs=>?_;refine mw hs λw hs=>?_;refine fQ (λ_=>?_) (λhh=>by omega);apply cX (k:=0) hs rfl rfl;simp only[nz,ae,ag];apply rm (by omega);simp only[nz,ae,ag];apply kC (k:=0) hs rfl rfl;have e:decide (((gB m:Nat):Int)<=((dv n:Nat):Int))=decide (gB m<=dv n):=by rw[decide_eq_decide];omega
 rw[e];exact hK w hs.drop
end
def Mix(old new X:BA):Prop:=X=old\/X=new\/∃c,c<=128/\X=new.extract 0 c++old.extract c old.size
def Ds(mask torn x:Int)(hx:0<=x/\x<=128)(safe:List BA)(later:List (Int×BA))(hn:(later.map (·.1.toNat)).Nodup)(hp:∀p∈later,0<=p.1/\p.1<safe.length)(i:Nat)(hi:i<safe.length):
 ∀j,j<=later.length->((∀k,k<j->∀p,later[k]?=some p->p.1.toNat≠i)/\(eV mask torn x safe later j)[i]?=safe[i]?)\/
  ∃k p,k<j/\later[k]?=some p/\p.1.toNat=i/\∃X,(eV mask torn x safe later j)[i]?=some X/\Mix (safe.getD i .empty) p.2 X
 |0,_=>.inl ⟨λk hk=>by omega,rfl⟩
 |j+1,hj=>by
  have cj:j<later.length:=by omega
  have zE:later[j]?=some later[j]:=aj cj;have ih:=Ds mask torn x hx safe later hn hp i hi j (by omega);simp only[eV,zE];have hlen:i<(eV mask torn x safe later j).length:=by rw[jz];exact hi
  by_cases MN:(later[j]).1.toNat=i
  ·
   have yT:(eV mask torn x safe later j)[i]?=safe[i]?:=by
    rcases ih with⟨_,h⟩|⟨k,p,hk,VT,Xx,_⟩
    ·exact h
    ·exfalso;have ux:k<later.length:=by omega
     have e1:(later.map (·.1.toNat))[k]?=some i:=by rw[dU,VT];simp[Xx]
     have e2:(later.map (·.1.toNat))[j]?=some i:=by rw[dU,zE];simp[MN]
     have:=(List.getElem?_inj (by simpa using ux) hn).1 (e1.trans e2.symm);omega
   have AA:(eV mask torn x safe later j).getD i .empty=safe.getD i .empty:=by
    rw[jT,yT,<-jT]
   refine .inr ⟨j,later[j],by omega,zE,MN,?_⟩;unfold aZ.nM;rw[MN];split
   ·refine⟨_,List.getElem?_set_self hlen,.inr (.inr ⟨x.toNat,by omega,?_⟩)⟩;rw[AA]
   ·split
    ·exact⟨_,List.getElem?_set_self hlen,.inr (.inl rfl)⟩
    ·refine⟨safe[i],by rw[yT];exact aj hi,.inl ?_⟩;simp[hi]
  ·have FN:(aZ.nM mask torn x (eV mask torn x safe later j) j later[j])[i]?=(eV mask torn x safe later j)[i]?:=by
    unfold aZ.nM;split
    ·rw[OP MN]
    ·split
     ·rw[OP MN]
     ·rfl
   rw[FN];rcases ih with⟨h1,h2⟩|⟨k,p,hk,VT,Xx,X,hX⟩
   ·refine .inl ⟨λk hk p VT=>?_,h2⟩;by_cases hkj:k=j
    ·subst hkj;rw[zE] at VT;cases VT
     exact MN
    ·exact h1 k (by omega) p VT
   ·exact .inr ⟨k,p,by omega,VT,Xx,X,hX⟩
def Lq{at' number:Int}{s:BA}(qd:1<=number/\number<=1152921504606846976)(BJ:0<=at'):∀(n i:Nat) {D:aZ},at'+i+n<=D.safe.length->i+n<=4096->
 ∃m,m<=n/\(pz at' number s D i n).1.later=D.later++((List.range' i m).map λq:Nat=>(at'+(q:Int),aZ.pad (leaf number q (part s q))))/\(pz at' number s D i n).1.safe=D.safe/\((pz at' number s D i n).2=0->m=n)
 |0,i,D,hr,hi=>⟨0,aF _,by simp[pz],rfl,λ_=>rfl⟩
 |n+1,i,D,hr,hi=>by
  have hg:fk number i (part s i):=⟨qd.1,qd.2,by omega,by omega,nB s i⟩;have qX:=uv hg;have u9:D.is (at'+i):=⟨by omega,by omega⟩;have zG: ¬(¬D.is (at'+i)\/128<(leaf number i (part s i)).size):=by
   rintro(hh|hh)
   ·exact hh u9
   ·omega
  have tA:=(sy D (at'+i) (leaf number i (part s i))).1;have hw:D.write (at'+i) (leaf number i (part s i))=if D.vt then(D.tick,8) else({Go.cH.aZ.tick D with later:=D.later++[(at'+i,aZ.pad (leaf number i (part s i)))]},0):=by
   unfold aZ.write;rw[af zG]
  unfold pz;cases hf:D.vt with
  |true=>
   rw[hf,ai rfl] at hw;rw[hw,ai (by simp)];exact⟨0,aE _,by simp[aZ.tick],rfl,λh=>by simp at h⟩
  |false=>
   rw[hf,af rq] at hw;have h0:(D.write (at'+i) (leaf number i (part s i))).2=0:=by rw[hw]
   have Az:(D.write (at'+i) (leaf number i (part s i))).1.later=D.later++[(at'+i,aZ.pad (leaf number i (part s i)))]:=by rw[hw]
   rw[af (by rw[h0];exact λhh=>hh rfl)];obtain⟨m,h1,h2,h3,h4⟩:=Lq qd BJ (s:=s) n (i+1) (D:=(D.write (at'+i) (leaf number i (part s i))).1) (by rw[tA];omega) (by omega);refine⟨m+1,by omega,?_,by rw[h3,tA],λh=>by rw[h4 h]⟩;rw[h2,Az,List.range'_succ,dA,aH]
   rfl
def FE(at':Nat)(f:Nat->BA)(i:Int):∀m:Nat,aZ.last ((pK m).map λq:Nat=>(((at':Nat):Int)+(q:Int),f q)) i=if(at':Int)<=i/\i<(at':Int)+m then some (f (i-at').toNat) else none
 |0=>by rw[af (by omega)];rfl
 |m+1=>by
  rw[List.range_succ,cU,dA,uk,Dk.tw,FE at' f i m];dsimp only;by_cases h:((at':Nat):Int)+(m:Int)=i
  ·rw[ai h,ai (by omega)]
   congr 2
   omega
  ·rw[af h];by_cases h2:(at':Int)<=i/\i<(at':Int)+m
   ·rw[ai h2,ai (by omega)]
   ·rw[af h2,af (by omega)]
def I6(at' i m q:Nat)(n:Int)(s:BA)(k:Nat)(p:Int×BA)(h:((List.range' 0 m).map λq:Nat=>(((at':Nat):Int)+(q:Int),aZ.pad (leaf n q (part s q))))[k]?=some p):
 k<m/\p.1.toNat=at'+k/\p.2=aZ.pad (leaf n k (part s k)):=by
 rw[<-List.range_eq_range',dU] at h;have hk:k<m:=by
  by_cases hh:k<m
  ·exact hh
  ·rw[pU (by simpa using hh)] at h;cases h
 rw[q8 hk] at h;cases h
 exact⟨hk,by dsimp only;omega,rfl⟩
def LN(x:BA):(CB x).data.toList=x.data.toList.take 8:=by unfold CB;rw[extract_toList];rfl
def Ku{x:BA}(h:x.size=128):(B7 x).data.toList=x.data.toList.drop 120:=by
 unfold B7;rw[h,extract_toList,bG (by rw[aR,eL,h];omega)]
def th{α:Type}(a b:List α)(m:Nat)(h:a.length=m):(a++b).take m=a:=by subst h;exact CW
def uS{α:Type}(a b:List α)(m:Nat)(h:a.length=m):(a++b).drop m=b:=by subst h;exact List.drop_left
def yR{n i:Int}{s:BA}:(mH n i s).take 8=le .i64 8 n:=by
 unfold mH pre;simp only[aH];exact th _ _ 8 (aP _ _ _)
def vS{n i:Int}{s:BA}(hs:s.size<=104):(mH n i s).drop 120=le .i64 8 n:=by
 unfold mH;exact uS _ _ 120 (by rw[au,re hs];rfl)
def Ev(n:Nat):(fO n).data.toList=bj n 0:=by unfold fO;rfl
def Qb{D:aZ}{b:Int}(hb:0<=b):∀j,(∀i:Nat,i<j->numOf (CB (D.read (i:Int)).1)<=b/\numOf (B7 (D.read (i:Int)).1)<=b)->fe D j<=b
 |0,_=>hb
 |j+1,h=>by
  have h1:=Qb hb j (λi hi=>h i (by omega));have h2:=h j (by omega);simp only[fe];unfold max2;split<;>split<;>omega
section
variable {W w:World} {L:LH}
end
def eQ(D:aZ)(at' toX number:Int)(s:BA):aZ×Int:=if(lay D at' toX number s).2≠0 then lay D at' toX number s else(lay D at' toX number s).1.sync
def Li{D:aZ}{at' toX number:Int}{s:BA}(h:D.Ok)(hl:D.later.length+gB s.size<1099511627776):(eQ D at' toX number s).1.Ok:=by
 have:=(Jf (at':=at') (number:=number) (s:=s) (toX:=toX) h hl).1;unfold eQ;split
 ·exact this
 ·exact IP this
def TR{n a t:Nat}{D:aZ}{number:Int}{s:BA}(h:Calm n D)(cS:n<=4096)(qd:1<=number/\number<=1152921504606846976)(hl:a+gB s.size<=t)(htn:t<=n):(eQ D a t number s).1.later=[]:=by
 have hcp:=rV s.size;have e:lay D (a:Nat) ((t:Nat):Int) number s=pz (a:Nat) number s D 0 (gB s.size):=by
  unfold lay;rw[af (by rw[h.len];omega),af (by omega)]
 obtain⟨l1,l2,_,_,_⟩:=PO (at':=((a:Nat):Int)) (number:=number) (s:=s) qd (by omega) (gB s.size) 0 (D:=D) h.arm (by rw[h.len];omega) (by omega);unfold eQ;rw[e,af (λhh=>hh l1),Dk.O7 l2]
def PH{n a t:Nat}{D:aZ}{number:Int}{s:BA}(h:Calm n D)(cS:n<=4096)(qd:1<=number/\number<=1152921504606846976)(hl:a+gB s.size<=t)(htn:t<=n):
 (eQ D a t number s).2=0/\Calm n (eQ D a t number s).1/\(∀q:Nat,q<gB s.size->((eQ D a t number s).1.read (((a:Nat):Int)+q)).1=leaf number q (part s q))/\
 ∀j:Nat,j<n->(j<a\/a+gB s.size<=j)->((eQ D a t number s).1.read (j:Int)).1=(D.read (j:Int)).1:=by
 have e:lay D (a) ((t:Nat):Int) number s=pz (a) number s D 0 (gB s.size):=by
  unfold lay;rw[af (by rw[h.len];omega),af (by omega)]
 have Sk:=PO (at':=((a:Nat):Int)) (number:=number) (s:=s) qd (by omega) (gB s.size) 0 (D:=D) h.arm (by rw[h.len];omega) (by omega);have hli:=PN (at':=((a:Nat):Int)) (number:=number) (s:=s) qd (by omega) (gB s.size) 0 (D:=D) h.arm (by rw[h.len];omega) (by omega);have iE:=BB (at':=((a:Nat):Int)) (number:=number) (s:=s) (gB s.size) 0 h.ok (by have:=h.later;omega);unfold eQ;rw[e];obtain⟨l1,l2,l3,l4,l5⟩:=Sk;rw[af (λhh=>hh l1)];generalize (pz ((a:Nat):Int) number s D 0 (gB s.size)).1=D1 at *;have Zx:D1.safe.length=n:=by rw[l3];exact h.len
 have jo:=Dk.O7 l2;have ZG:Calm n D1.sync.1:=⟨IP iE.1,Dk.QE l2,by rw[jo];exact aE _,by rw[Dk.Kz.1];exact Zx⟩;have VP:∀j:Nat,j<n->(D1.sync.1.read (j:Int)).1=D1.now (j:Int):=λj hj=>by
  have h1:D1.sync.1.is (j:Int):=⟨by omega,by rw[ZG.len];omega⟩;have h2:D1.is (j:Int):=⟨by omega,by rw[Zx];omega⟩;unfold aZ.read;rw[ai h1];exact Dk.Q8 l2 iE.1 h2
 refine⟨by rw[jo],ZG,λq hq=>?_,λj hj Jp=>?_⟩
 ·have:=VP (a+q) (by omega);rw[show(((a:Nat):Int)+(q:Int))=((a+q:Nat):Int) from by omega,this,show((a+q:Nat):Int)=((a:Nat):Int)+(q:Int) from by omega];exact hli q (aE _) (by omega)
 ·rw[VP j hj,l5 (j:Int) (by omega)];have h2:D.is (j:Int):=⟨by omega,by rw[h.len];omega⟩;unfold aZ.read;rw[ai h2]
def Lj{n a t:Nat}{D:aZ}{number mask torn cut:Int}{s:BA}(iE:D.Ok)(Az:D.later=[])(hlen:D.safe.length=n)(cS:n<=4096)(qd:1<=number/\number<=1152921504606846976)(hl:a+gB s.size<=t)(htn:t<=n):
 (∀j:Nat,j<n->(((eQ D a t number s).1.fM mask torn cut).read (j:Int)).1=(D.read (j:Int)).1\/
  ∃q,q<gB s.size/\j=a+q/\Mix (D.read (j:Int)).1 (leaf number q (part s q)) (((eQ D a t number s).1.fM mask torn cut).read (j:Int)).1)/\
 ((eQ D a t number s).2=0->∀q:Nat,q<gB s.size->(((eQ D a t number s).1.fM mask torn cut).read ((a+q:Nat):Int)).1=leaf number q (part s q))/\
 ((eQ D a t number s).1.fM mask torn cut).Ok/\((eQ D a t number s).1.fM mask torn cut).safe.length=n:=by
 have hcp:=rV s.size;have aa9:∀q:Nat,q<gB s.size->aZ.pad (leaf number q (part s q))=leaf number q (part s q):=λq hq=>PA (uv ⟨qd.1,qd.2,by omega,by omega,nB s q⟩);have afN:lay D (a:Nat) ((t:Nat):Int) number s=pz (a) number s D 0 (gB s.size):=by
  unfold lay;rw[af (by rw[hlen];omega),af (by omega)]
 obtain⟨m,hm,FQ,tA,fx⟩:=Lq (at':=((a:Nat):Int)) (number:=number) (s:=s) qd (by omega) (gB s.size) 0 (D:=D) (by rw[hlen];omega) (by omega);rw[Az,cT] at FQ;have Ju:=(BB (at':=((a:Nat):Int)) (number:=number) (s:=s) (gB s.size) 0 iE (by rw[Az];simp;omega)).1;unfold eQ;rw[afN];generalize hF:pz ((a:Nat):Int) number s D 0 (gB s.size)=F at *;obtain⟨D1,e⟩:=F;dsimp only at FQ tA fx Ju⊢;have hold:∀j(hj:j<n),(D.read (j:Int)).1=D.safe[j]'(by omega):=λj hj=>by rw[zb Az (by omega)]
 have key:∀D2:aZ,D2.safe=D.safe->D2.later=D1.later->∀j:Nat,j<n->((D2.fM mask torn cut).read (j:Int)).1=(D.read (j:Int)).1\/
  ∃q,q<gB s.size/\j=a+q/\Mix (D.read (j:Int)).1 (leaf number q (part s q)) ((D2.fM mask torn cut).read (j:Int)).1:=λD2 h1 h2 j hj=>by
  have XE:j<D.safe.length:=by omega
  have hce:(D2.fM mask torn cut).safe=eV mask torn (min2 (max2 cut 0) 128) D.safe D1.later D1.later.length:=by rw[oN,h1,h2]
  have P7:j<(D2.fM mask torn cut).safe.length:=by rw[hce,jz];exact XE
  have hr:((D2.fM mask torn cut).read (j:Int)).1=(D2.fM mask torn cut).safe[j]:=by rw[zb (by rw[oN]) P7]
  have hx:(D2.fM mask torn cut).safe[j]?=some ((D2.fM mask torn cut).safe[j]):=aj P7;have Kb:(D1.later.map (·.1.toNat)).Nodup:=by
   rw[FQ,um];have:((λp:Int×BA=>p.1.toNat)∘λq:Nat=>(((a:Nat):Int)+(q:Int),aZ.pad (leaf number q (part s q))))=λq:Nat=>a+q:=by
    funext q;simp only[Function.comp];omega
   rw[this];exact List.Pairwise.map (λq=>a+q) (λx y(V2:x≠y)=>by show a+x≠a+y;omega) (List.nodup_range' 1 (by decide))
  have adk:=Ds mask torn (min2 (max2 cut 0) 128) (UG cut) D.safe D1.later Kb (λp hp=>by
   have:=Ju.later p hp
   rw[tA] at this
   exact this.2) j XE D1.later.length (aF _)
  rw[<-hce,hx] at adk;rw[hr];generalize (D2.fM mask torn cut).safe[j]=X at *;rcases adk with⟨_,h⟩|⟨k,p,hk,VT,Xx,Y,hY,hM⟩
  ·left
   rw[hold j hj];rw[aj XE] at h;exact bE.inj h
  ·right
   cases hY
   rw[FQ] at VT;obtain⟨r1,r2,r3⟩:=I6 (a) 0 m 0 number s k p VT;refine⟨k,by omega,by omega,?_⟩;rw[hold j hj,<-aa9 k (by omega),<-r3];have:D.safe.getD j .empty=D.safe[j]:=by simp[XE]
   rw[<-this];exact hM
 have pV:∀D2:aZ,D2.safe.length=n->(D2.fM mask torn cut).safe.length=n:=λD2 h=>by rw[oN];simp only[jz];exact h
 have adI:D1.safe.length=n:=by rw[tA];exact hlen
 by_cases he:e=0
 ·subst he;rw[af (by simp)];unfold aZ.sync;cases hf:D1.vt with
  |true=>
   rw[ai rfl];exact⟨key D1.tick tA rfl,λh=>by simp at h,BR (D:=D1.tick) ⟨Ju.safe,Ju.later,Ju.oS,Ju.less⟩ mask torn cut,pV D1.tick adI⟩
  |false=>
   rw[af rq];have Jn:=fx rfl;subst Jn;have LA:=IP Ju;unfold aZ.sync at LA;rw[hf,af rq] at LA;generalize hD3:({Go.cH.aZ.tick D1 with safe:=D1.later.foldl aZ.put D1.safe,later:=[]}:aZ)=D3 at *;have h3s:D3.safe=D1.later.foldl aZ.put D.safe:=by rw[<-hD3,<-tA]
   have h3l:D3.later=[]:=by rw[<-hD3]
   have h3n:D3.safe.length=n:=by rw[h3s,oM];exact hlen
   have MY:(D3.fM mask torn cut).safe=D3.safe:=by rw[oN,h3l];rfl
   have VP:∀j(hj:j<n),((D3.fM mask torn cut).read (j:Int)).1=(aZ.last D1.later (j:Int)).getD (D.read (j:Int)).1:=λj hj=>by
    have P7:j<(D3.fM mask torn cut).safe.length:=by rw[pV D3 h3n];exact hj
    have XE:j<D.safe.length:=by omega
    rw[zb (by rw[oN]) P7,hold j hj];have h1:=Dk.zY (i:=(j:Int)) (by omega) D1.later D.safe (by omega) (λp hp=>(Ju.later p hp).2.1);rw[ak,<-h3s,<-MY,jT,aj P7,jT,aj XE] at h1;exact h1
   have H5:∀j:Nat,aZ.last D1.later (j:Int)=if a<=j/\j<a+gB s.size then some (aZ.pad (leaf number ((j-a:Nat):Int) (part s (j-a)))) else none:=λj=>by
    rw[FQ,<-List.range_eq_range',FE (a) (λq=>aZ.pad (leaf number q (part s q))) (j:Int) (gB s.size)];by_cases hj:a<=j/\j<a+gB s.size
    ·rw[ai hj,ai (by omega)];have:((j:Int) -((a:Nat):Int)).toNat=j-a:=by omega
     rw[this]
    ·rw[af hj,af (by omega)]
   refine⟨λj hj=>?_,λ_ q hq=>?_,BR LA mask torn cut,pV D3 h3n⟩
   ·rw[VP j hj,H5 j];by_cases hjr:a<=j/\j<a+gB s.size
    ·right
     refine⟨j-a,by omega,by omega,.inr (.inl ?_)⟩;rw[ai hjr,dz,aa9 _ (by omega)]
    ·left;rw[af hjr];rfl
   ·rw[VP _ (by omega),H5,ai (by omega),dz,show a+q-a=q from by omega,aa9 q hq]
 ·rw[ai he];exact⟨key D1 tA rfl,λh=>aQ h he,BR Ju mask torn cut,pV D1 adI⟩
def Rf:∀n:Fin 256,le .i64 8 (n.val:Int)=UInt8.ofNat n.val::bj 7 0:=by decide+kernel
def Lo{n:Nat}(h:n<256):le .i64 8 (n:Int)=UInt8.ofNat n::bj 7 0:=Rf ⟨n,h⟩
structure Ends(g:Nat)(X:BA):Prop where
 size:X.size=128
 hd:∃a,a<=g/\X.data.toList.take 8=le .i64 8 ((a:Nat):Int)
 tl:∃b,b<=g/\X.data.toList.drop 120=le .i64 8 ((b:Nat):Int)
def Ends.mono{g g':Nat}{X:BA}(h:Ends g X)(hg:g<=g'):Ends g' X:=by
 obtain⟨h1,⟨a,h2,h3⟩,b,h4,h5⟩:=h;exact⟨h1,⟨a,by omega,h3⟩,b,by omega,h5⟩
def F3:Ends 0 (fO 128):=⟨uG 128,⟨0,aF _,by rw[Ev];decide+kernel⟩,0,aF _,by rw[Ev];decide+kernel⟩
def nC{n i:Int}{s:BA}(h:fk n i s):(leaf n i s).data.toList=mH n i s:=by unfold leaf;rw[ai h];rfl
def CH{n:Nat}{i:Int}{s:BA}(h:fk n i s):Ends n (leaf n i s):=
 ⟨uv h,⟨n,aF _,by rw[nC h,yR]⟩,n,aF _,by rw[nC h,vS h.2.2.2.2]⟩
def vk{n:Nat}(h:n<256):numOf (bs (le .i64 8 ((n:Nat):Int)))=n:=by
 unfold numOf;show(if 1<=nt (le .i64 8 (n:Int))/\nt (le .i64 8 (n:Int))<=1152921504606846976 then _ else _)=_;rw[px ⟨by omega,by omega⟩];by_cases h0:n=0
 ·subst h0;rfl
 ·rw[ai ⟨by omega,by omega⟩];show nt (le .i64 8 (n:Int))=_;rw[px ⟨by omega,by omega⟩]
def Ends.num{g:Nat}{X:BA}(h:Ends g X)(hg:g<256):numOf (CB X)<=g/\numOf (B7 X)<=g:=by
 obtain⟨h1,⟨a,h2,h3⟩,b,h4,h5⟩:=h;have e1:CB X=bs (le .i64 8 ((a:Nat):Int)):=kQ (by rw[LN,h3];rfl);have e2:B7 X=bs (le .i64 8 ((b:Nat):Int)):=kQ (by rw[Ku h1,h5];rfl);rw[e1,e2,vk (by omega),vk (by omega)];omega
def zn{D:aZ}{g:Nat}(hg:g<256)(j:Nat)(h:∀i:Nat,i<j->Ends g (D.read (i:Int)).1):fe D j<=g:=Qb (by omega) j (λi hi=>(h i hi).num hg)
def No{n a:Nat}(hn:n<256)(ha:a<256)(k:Nat)(hk:k<=8):(le .i64 8 ((n:Nat):Int)).take k++(le .i64 8 ((a:Nat):Int)).drop k=if k=0 then le .i64 8 ((a:Nat):Int) else le .i64 8 ((n:Nat):Int):=by
 rw[Lo hn,Lo ha];cases k with
 |zero=>rfl
 |succ k=>
  rw[af (by omega),List.take_succ_cons,List.drop_succ_cons,lH]
  congr 1
  exact dk k _
def Cv{n:Nat}{g:Nat}{i:Int}{s old X:BA}(hn:g<n)(hn2:n<256)(AA:fk n i s)(ho:Ends g old)(hm:Mix old (leaf n i s) X):
 Ends n X/\(X=old\/X=leaf n i s\/mh X.data.toList=none):=by
 rcases hm with h|h|⟨c,hc,h⟩
 ·rw[h];exact⟨ho.mono (by omega),.inl rfl⟩
 ·rw[h];exact⟨CH AA,.inr (.inl rfl)⟩
 ·obtain⟨o1,⟨a,ha,oh⟩,b,hb,ot⟩:=ho;have hl:=nC AA;have H3:(mH n i s).length=128:=xp AA.2.2.2.2;have hol:old.data.toList.length=128:=by rw[eL];exact o1
  have hX:X.data.toList=(mH n i s).take c++old.data.toList.drop c:=by
   have e2:(old.extract c old.size).data.toList=old.data.toList.drop c:=by
    rw[extract_toList,bG (by rw[aR,eL];exact aF _)]
   rw[h,ByteArray.data_append,Array.toList_append,e2,extract_toList,iK,Nat.sub_zero,hl]
  have hXs:X.size=128:=by
   rw[<-eL,hX,au,aC,aR,H3,hol];omega
  have h8:X.data.toList.take 8=(le .i64 8 ((n:Nat):Int)).take (min c 8)++(le .i64 8 ((a:Nat):Int)).drop (min c 8):=by
   rw[hX,<-oh,<-yR (n:=n) (i:=i) (s:=s),List.take_append,xV,xV,aC,H3,List.drop_take,show min (min c 8) 8=min 8 c from by omega,show min c 128=c from by omega]
   congr 1
   by_cases h8:c<=8
   ·rw[show min c 8=c from by omega]
   ·rw[show 8-c=0 from by omega,show 8-min c 8=0 from by omega,og,og]
  have Jv:X.data.toList.drop 120=(le .i64 8 ((n:Nat):Int)).take (c-120)++(le .i64 8 ((b:Nat):Int)).drop (c-120):=by
   rw[hX,<-ot,<-vS (n:=n) (i:=i) AA.2.2.2.2,List.drop_append,List.drop_take,aC,H3,iL,iL,show min c 128=c from by omega]
   congr 2
   omega
  rw[No hn2 (by omega) _ (by omega)] at h8 Jv;by_cases hc0:c=0
  ·have:X=old:=kQ (by rw[hX,hc0,og,cT,iK]);rw[this];exact⟨⟨o1,⟨a,by omega,oh⟩,b,by omega,ot⟩,.inl rfl⟩
  ·rw[af (by omega)] at h8;by_cases hc1:c<=120
   ·rw[ai (by omega)] at Jv;refine⟨⟨hXs,⟨n,aF _,h8⟩,b,by omega,Jv⟩,.inr (.inr ?_)⟩;cases hv:mh X.data.toList with
    |none=>rfl
    |some y=>
     exfalso;obtain⟨m,j,d⟩:=y;obtain⟨v1,v2,v3,v4,_,_⟩:=Nw hv;rw[Ti v2 v1,Jv] at v3;unfold sN at v3;rw[h8,px ⟨by omega,by omega⟩,px ⟨by omega,by omega⟩] at v3;omega
   ·rw[af (by omega)] at Jv;refine⟨⟨hXs,⟨n,aF _,h8⟩,n,aF _,Jv⟩,.inr (.inl ?_)⟩;apply kQ;rw[hl];refine(dk 120 _).symm.trans (Eq.trans ?_ (dk 120 _));rw[Jv,vS AA.2.2.2.2,hX,zJ (by rw[aC,H3];omega),xV,show min 120 c=120 from by omega]
structure gn where
 bB:Int
 number:Int
 size:Int
 seq:Int
deriving DecidableEq
def cm(h:gn):LV:=[.i h.bB,.i h.number,.i h.size,.i h.seq]
def nS(h:gn):Prop:=1<=h.bB/\h.bB<=1152921504606846976/\1<=h.number/\h.number<=1152921504606846976/\0<=h.size/\h.size<=425984/\0<=h.seq/\h.seq<=1152921504606846976
instance(h:gn):Decidable (nS h):=by unfold nS;infer_instance
def ko(h:gn):List UInt8:=le .i64 8 h.bB++le .i64 8 h.number++le .i64 8 h.size++le .i64 8 h.seq
def qy(h:gn):(ko h).length=32:=by simp only[ko,au,aP]
def Ew:gn:=⟨0,0,0,0⟩
def xz(l:List UInt8):gn:=⟨nt (l.take 8),nt ((l.drop 8).take 8),nt (((l.drop 8).drop 8).take 8),nt ((((l.drop 8).drop 8).drop 8).take 8)⟩
def Hw(l:List UInt8):Option gn:=if l.length=32/\nS (xz l) then some (xz l) else none
def LK{h:gn}(hg:nS h):Hw (ko h)=some h:=by
 obtain⟨h1,h2,h3,h4,h5,h6,h7,h8⟩:=hg;have xw:ko h=le .i64 8 h.bB++(le .i64 8 h.number++(le .i64 8 h.size++le .i64 8 h.seq)):=by simp only[ko,aH]
 have tl:∀(a b:List UInt8)(m:Nat),a.length=m->(a++b).take m=a:=λa b m hm=>by subst hm;exact CW
 have dl:∀(a b:List UInt8)(m:Nat),a.length=m->(a++b).drop m=b:=λa b m hm=>by subst hm;exact List.drop_left
 have e:xz (ko h)=h:=by
  unfold xz;rw[xw,tl _ _ _ (aP _ _ _),dl _ _ _ (aP _ _ _),tl _ _ _ (aP _ _ _),dl _ _ _ (aP _ _ _),tl _ _ _ (aP _ _ _),dl _ _ _ (aP _ _ _),bG (by rw[aP];omega)];rw[px ⟨by omega,h2⟩,px ⟨by omega,h4⟩,px ⟨h5,by omega⟩,px ⟨h7,h8⟩]
 unfold Hw;rw[e,ai ⟨qy h,h1,h2,h3,h4,h5,h6,h7,h8⟩]
def qx:Option gn->Value
 |none=>.tuple ⟨[.agg ⟨cm Ew⟩,.b false]⟩
 |some h=>.tuple ⟨[.agg ⟨cm h⟩,.b true]⟩
section
variable {W w:World} {L:LH} {k:Nat}
def Ge{h:gn}{K:VK}(hs:St W w L)(hK:∀w',St W w' L->K (.b (decide (nS h))) w'):uT (cm h) K w:=by
 unfold uT;refine je hs λr w hs=>?_;have hh:=hK w hs.drop;have no: ¬nS h->K (.b false) w:=λhn=>by rw[aq hn] at hh;exact hh
 apply cX (k:=0) hs rfl rfl;simp only[nz,ae,ag];refine fQ (λh1=>?_) (λh1=>no (by unfold nS;omega));apply cX (k:=0) hs rfl rfl;simp only[nz,ae,ag];refine fQ (λh2=>?_) (λh1=>no (by unfold nS;omega));apply cX (k:=0) hs rfl rfl;simp only[nz,ae,ag];refine fQ (λh3=>?_) (λh1=>no (by unfold nS;omega));apply cX (k:=0) hs rfl rfl;simp only[nz,ae,ag];refine fQ (λh4=>?_) (λh1=>no (by unfold nS;omega));apply cX (k:=0) hs rfl rfl;simp only[nz,ae,ag];refine fQ (λh5=>?_) (λh1=>no (by unfold nS;omega));apply cX (k:=0) hs rfl rfl;simp only[nz,ae,ag];refine fQ (λh6=>?_) (λh1=>no (by unfold nS;omega));apply cX (k:=0) hs rfl rfl;simp only[nz,ae,ag];refine fQ (λh7=>?_) (λh1=>no (by unfold nS;omega));apply cX (k:=0) hs rfl rfl;simp only[nz,ae,ag];have:decide (h.seq<=1152921504606846976)=decide (nS h):=by rw[decide_eq_decide];unfold nS;omega
 rw[this];exact hh
def Eg(h:gn):List UInt8×Int:=if nS h then(ko h,0) else([],1)
def Ml{h:gn}{K:VK}(hs:St W w L)(hK:∀w',St W w' L->K (.tuple ⟨[.s (bs (Eg h).1),.i (Eg h).2]⟩) w'):vy (cm h) K w:=by
 unfold vy;refine je hs λr w hs=>?_;refine km (k:=0) (xs:=cm h) hs rfl rfl (λj v hj=>by rw[aD];exact hj) ?_;refine Ge hs λw hs=>?_;simp only[nz,ae,ag];unfold Eg at hK;by_cases hg:nS h
 ·rw[ai hg] at hK;rw[aw hg];simp only[nz,ae,ag];refine je hs λp w hs=>?_;have hs:St W w (buf p []::pt r (cm h)::L):=by
   have h2:=(hs.push (A:=own none 0 0 1 (([]:List UInt8).map vf)) (rM 1)).perm (bX.swap _ _ _);exact uA (k:=0) (L:=buf p []::pt r (cm h)::L) (A:=buf p []) rfl rfl h2
  apply cX (k:=1) hs rfl rfl;simp only[nz,ae,ag];apply cX (k:=1) hs rfl rfl;simp only[nz,ae,ag];apply cX (k:=1) hs rfl rfl;simp only[nz,ae,ag];apply cX (k:=1) hs rfl rfl;simp only[nz,ae,ag];refine⟨λus w'=>∃j:Nat,us=[.s .empty,.i 0,.p (ah p),.agg ⟨cm h⟩,.i j]/\j<=4/\St W w' (buf p ((ko h).take (8* j))::pt r (cm h)::L),
   λus _=>match us with|[_,_,_,_,.int _ j]=>4-j.toNat|_=>0,⟨0,rfl,aE _,hs⟩,?_⟩
  rintro s1 n5 a1 JL n6 w2 ⟨j,he,hj,hs⟩;cases he
  refine tJ (λh0=>?_) (λh0=>?_)
  ·have hj4:j<4:=by have:=aS h0;omega
   have e5:=m9 j;obtain⟨n,hn,gA⟩:∃n,(cm h)[(j:Int).toNat]?=some (.i n)/\(ko h).take (8* j)++le .i64 8 n=(ko h).take (8* (j+1)):=by
    have xw:ko h=le .i64 8 h.bB++(le .i64 8 h.number++(le .i64 8 h.size++le .i64 8 h.seq)):=by simp only[ko,aH]
    have ll:∀n,(le .i64 8 n).length=8:=λn=>aP _ _ _
    match j,hj4 with
    |0,_=>exact⟨h.bB,rfl,by rw[xw,zJ (by rw[ll];omega),zJ (by rw[ll];omega),bG (l:=le .i64 8 h.bB) (i:=8* (0+1)) (by rw[ll];omega)];simp⟩
    |1,_=>exact⟨h.number,rfl,by simp only[ko,List.take_append,ll,au];simp[bG,ll]⟩
    |2,_=>exact⟨h.size,rfl,by simp only[ko,List.take_append,ll,au];simp[bG,ll]⟩
    |3,_=>exact⟨h.seq,rfl,by simp only[ko,List.take_append,ll,au];simp[bG,ll]⟩
   refine⟨.i n,⟨by omega,by omega,hn⟩,?_⟩;simp only[nz,ae,ag];refine kA (k:=0) hs rfl (by rw[aC];omega) λw hs=>?_;rw[show(min2 (max2 8 1) 8).toNat=8 from rfl,gA] at hs;simp only[nz,ae,ag] at hs⊢;rw[e5];exact⟨⟨j+1,rfl,by omega,hs⟩,by omega⟩
  ·have hj4:j=4:=by have:=bq h0;omega
   subst hj4;rw[bG (by rw[qy];omega)] at hs;apply mZ (k:=0) hs rfl;simp only[nz,ae,ag];exact hK w2 hs.drop.drop
 ·rw[af hg] at hK;rw[aq hg];simp only[nz,ae,ag];exact hK w hs.drop
end
def C6{l:List UInt8}{n j:Int}{d:BA}(h:mh l=some (n,j,d)):d.size<=104:=by
 unfold mh at h;split at h
 ·cases h
 split at h
 ·cases h
 split at h
 ·cases h
 split at h
 ·cases h
 split at h
 ·cases h
 split at h
 ·cases h
 rename_i h6;cases h
 exact(bp.1 h6).2.2.2.2
def nx(x:List UInt8×Bool):List UInt8×Bool:=if x.2=true\/x.1.length<8 then(x.1,true) else(x.1.drop 8,false)
def nv(x:List UInt8×Bool):Int:=if x.2=true\/x.1.length<8 then 0 else nt (x.1.take 8)
section
variable {W w:World} {L:LH} {k d:Nat} {D:aZ}
def zv{r:Nat}{x:List UInt8×Bool}{K:VK}(h:St W w L)(hk:L[k]?=some (DH r (bs x.1) x.2))(hl:x.1.length<1099511627776)
 (hK:∀w',St W w' (L.set k (DH r (bs (nx x).1) (nx x).2))->K (.i (nv x)) w'):aL (ah r) 8 K w:=by
 apply B0 h hk;have em:min2 (max2 8 1) 8=((8:Nat):Int):=rfl;rw[em];obtain⟨l,t⟩:=x;unfold nx nv at hK;dsimp only at hK hl⊢;by_cases hc:t=true\/l.length<8
 ·rw[ai hc,ai hc] at hK;have et:sn (bs l) t ((8:Nat):Int)=true:=by
   unfold sn;rcases hc with h1|h1
   ·rw[h1];rfl
   ·rw[cf,aw (by omega)];simp
  unfold DI yM;rw[et,ai rfl,ai rfl];exact hK
 ·rw[af hc,af hc] at hK;have ht:t=false:=by cases t<;>simp_all
  have et:sn (bs l) t ((8:Nat):Int)=false:=by
   unfold sn;rw[ht,cf,aq (by omega)];rfl
  unfold DI yM;rw[et,ak,o7,o5];exact hK
def MF{r:Nat}{x:List UInt8×Bool}{K:VK}(h:St W w L)(hk:L[k]?=some (DH r (bs x.1) x.2))(hK:K (.b (!x.2&&decide (x.1=[]))) w):ky (ah r) K w:=by
 unfold DH at hk;unfold ky;simp only[nz,ae,ag];apply cX h hk rfl;simp only[nz,ae,ag];obtain⟨l,t⟩:=x;cases t with
 |true=>exact hK
 |false=>
  simp only[nz,ae,ag];apply cX h hk rfl;simp only[nz,ae,ag];have hem:(⟨#[]⟩:BA)=bs []:=rfl;have e:decide (bs l=bs [])=decide (l=[]):=by rw[decide_eq_decide];exact AM
  rw[sE,hem,e];exact hK
def D4{x:List UInt8×Bool}(h:(nx x).2=false):x.2=false/\8<=x.1.length/\(nx x).1.length+8=x.1.length:=by
 unfold nx at h⊢;by_cases hc:x.2=true\/x.1.length<8
 ·rw[ai hc] at h;cases h
 ·rw[af hc];have h1:x.2=false:=by cases hx:x.2 with
   |true=>exact aQ (.inl hx) hc
   |false=>rfl
  have h2:8<=x.1.length:=by
   by_cases hh:8<=x.1.length
   ·exact hh
   ·exact aQ (.inr (by omega)) hc
  refine⟨h1,h2,?_⟩;show(x.1.drop 8).length+8=x.1.length;rw[aR];omega
def W7{l:List UInt8}(h:l.length≠32):(!(nx (nx (nx (nx (l,false))))).2&&decide ((nx (nx (nx (nx (l,false))))).1=[]))=false:=by
 cases h4:(nx (nx (nx (nx (l,false))))).2 with
 |true=>rfl
 |false=>
  obtain⟨b3,c3,d3⟩:=D4 h4;obtain⟨b2,c2,d2⟩:=D4 b3;obtain⟨b1,c1,d1⟩:=D4 b2;obtain⟨b0,c0,d0⟩:=D4 b1;have jW:(nx (nx (nx (nx (l,false))))).1≠[]:=λhe=>by
   rw[he,cK] at d3;dsimp only at d0;omega
  rw[aq jW];rfl
def aaP{l:List UInt8}(h:l.length=32):nx (l,false)=(l.drop 8,false)/\nx (l.drop 8,false)=((l.drop 8).drop 8,false)/\nx ((l.drop 8).drop 8,false)=(((l.drop 8).drop 8).drop 8,false)/\nx (((l.drop 8).drop 8).drop 8,false)=([],false)/\
 nv (l,false)=nt (l.take 8)/\nv (l.drop 8,false)=nt ((l.drop 8).take 8)/\nv ((l.drop 8).drop 8,false)=nt (((l.drop 8).drop 8).take 8)/\nv (((l.drop 8).drop 8).drop 8,false)=nt ((((l.drop 8).drop 8).drop 8).take 8):=by
 have l1:(l.drop 8).length=24:=by rw[aR];omega
 have l2:((l.drop 8).drop 8).length=16:=by rw[aR,l1]
 have l3:(((l.drop 8).drop 8).drop 8).length=8:=by rw[aR,l2]
 have l4:(((l.drop 8).drop 8).drop 8).drop 8=[]:=List.drop_eq_nil_iff.2 (by omega);unfold nx nv;refine⟨?_,?_,?_,?_,?_,?_,?_,?_⟩
 ·rw[af (by simp;omega)]
 ·rw[af (by simp only[cG,false_or];omega)]
 ·rw[af (by simp only[cG,false_or];omega)]
 ·rw[af (by simp only[cG,false_or];omega),l4]
 ·rw[af (by simp;omega)]
 ·rw[af (by simp only[cG,false_or];omega)]
 ·rw[af (by simp only[cG,false_or];omega)]
 ·rw[af (by simp only[cG,false_or];omega)]
def NM(x:List UInt8×Bool):(nx x).1.length<=x.1.length:=by unfold nx;split<;>simp
def Ot{l:List UInt8}{K:VK}(hs:St W w L)(hl:l.length<1099511627776)(hK:∀w',St W w' L->K (qx (Hw l)) w'):xJ (bs l) K w:=by
 unfold xJ;refine je hs λr1 w hs=>?_;refine sC hs λq w hs=>?_;simp only[nz,ae,ag];have n1:=NM (l,false);have n2:=NM (nx (l,false));have n3:=NM (nx (nx (l,false)));dsimp only at n1;refine zv (k:=0) (x:=(l,false)) hs rfl hl λw hs=>?_;simp only[nz,ae,ag] at hs⊢;refine zv (k:=0) (x:=nx (l,false)) hs rfl (by omega) λw hs=>?_;simp only[nz,ae,ag] at hs⊢;refine zv (k:=0) (x:=nx (nx (l,false))) hs rfl (by omega) λw hs=>?_;simp only[nz,ae,ag] at hs⊢;refine zv (k:=0) (x:=nx (nx (nx (l,false)))) hs rfl (by omega) λw hs=>?_;simp only[nz,ae,ag] at hs⊢;refine je hs λr2 w hs=>?_;refine⟨by simp,?_⟩;refine kf (k:=0) hs rfl (aI rfl) (by simp[Value.oneCell']) λw hs=>?_;rw[iS (by simp)] at hs;simp only[nz,ae,ag] at hs;apply MF (k:=1) (x:=nx (nx (nx (nx (l,false))))) hs rfl;simp only[nz,ae,ag];have fail:∀w A B,(∀w',St W w' L->K (qx none) w')->St W w (A::B::pt r1 [.i 0,.i 0,.i 0,.i 0]::L)->jU ⟨r1,0,none⟩ [.i 0,.i 0,.i 0,.i 0] (aJ ⟨r1,0,none⟩ 4 λcs=>K (.tuple ⟨[.agg ⟨cs⟩,.b false]⟩)) w:=λw A B hK hs=>by
  refine kf (k:=2) hs rfl (aI rfl) (by simp[Value.oneCell']) λw hs=>?_;rw[iS (by simp)] at hs;refine km (k:=2) (xs:=[.i 0,.i 0,.i 0,.i 0]) hs rfl rfl (λj v hj=>by rw[aD];exact hj) ?_;exact hK w hs.drop.drop.drop
 unfold Hw at hK;by_cases h32:l.length=32
 ·obtain⟨a1,a2,a3,a4,b1,b2,b3,b4⟩:=aaP h32;rw[a1,a2,a3,a4] at hs⊢;rw[b1,b2,b3,b4] at hs;have ee:(!((([]:List UInt8),false):List UInt8×Bool).2&&decide ((((([]:List UInt8),false):List UInt8×Bool)).1=[]))=true:=by decide
  rw[ee];simp only[nz,ae,ag];have hs:St W w (pt r2 (cm (xz l))::DH q (bs []) false::pt r1 [.i 0,.i 0,.i 0,.i 0]::L):=hs;refine km (k:=0) (xs:=cm (xz l)) hs rfl rfl (λj v hj=>by rw[aD];exact hj) ?_;refine Ge hs λw hs=>?_;simp only[nz,ae,ag];by_cases hg:nS (xz l)
  ·rw[ai ⟨h32,hg⟩] at hK;rw[aw hg];simp only[nz,ae,ag];refine km (k:=0) (xs:=cm (xz l)) hs rfl rfl (λj v hj=>by rw[aD];exact hj) ?_;refine⟨rfl,?_⟩;refine kf (k:=2) hs rfl (aI rfl) (by simp[Value.oneCell',cm]) λw hs=>?_;rw[iS (by simp[cm])] at hs;simp only[nz,ae,ag] at hs;refine km (k:=2) (xs:=cm (xz l)) hs rfl rfl (λj v hj=>by rw[aD];exact hj) ?_;exact hK w hs.drop.drop.drop
  ·rw[af (λhh=>hg hh.2)] at hK;rw[aq hg];simp only[nz,ae,ag];exact fail w _ _ hK hs
 ·rw[af (λhh=>h32 hh.1)] at hK;rw[W7 h32];simp only[nz,ae,ag];exact fail w _ _ hK hs
def AN(D:aZ)(i:Nat):Option gn:=
 match mh (D.read (i:Int)).1.data.toList with
 |none=>none
 |some (_,j,d)=>if(D.read (i:Int)).2≠0\/j≠0 then none else match Hw d.data.toList with
  |none=>none
  |some h=>if low h.bB≠i then none else some h
def Qo{i:Nat}{K:VK}(hs:St W w L)(hk:L[k]?=some (gT d D))(iE:D.Ok)(hK:∀w',St W w' L->K (qx (AN D i)) w'):pA (ah d) i K w:=by
 unfold pA;refine je hs λr1 w hs=>?_;have VU:(pt r1 [.i 0,.i 0,.i 0,.i 0]::L)[k+1]?=some (gT d D):=by rw[bT];exact hk
 apply sh (k:=k+1) hs VU iE;simp only[nz,ae,ag];have fail:∀w A,(∀w',St W w' L->K (qx none) w')->St W w (A::pt r1 [.i 0,.i 0,.i 0,.i 0]::L)->jU ⟨r1,0,none⟩ [.i 0,.i 0,.i 0,.i 0] (aJ ⟨r1,0,none⟩ 4 λcs=>K (.tuple ⟨[.agg ⟨cs⟩,.b false]⟩)) w:=λw A hK hs=>by
  refine kf (k:=1) hs rfl (aI rfl) (by simp[Value.oneCell']) λw hs=>?_;rw[iS (by simp)] at hs;refine km (k:=1) (xs:=[.i 0,.i 0,.i 0,.i 0]) hs rfl rfl (λj v hj=>by rw[aD];exact hj) ?_;exact hK w hs.drop.drop
 have Qd:∀w r2 A,(∀w',St W w' L->K (qx none) w')->St W w (A::pt r1 [.i 0,.i 0,.i 0,.i 0]::L)->pA.j1 K r1 r2 i true w:=λw r2 A hK hs=>by
  unfold pA.j1;simp only[nz,ae,ag];exact fail w A hK hs
 have hxs:(D.read (i:Int)).1.size<1099511627776:=by
  by_cases hi:D.is (i:Int)
  ·have:=za iE hi;omega
  ·unfold aZ.read;rw[af hi];decide
 unfold AN at hK;generalize hx:(D.read (i:Int)).1=x at *;generalize he:(D.read (i:Int)).2=e at *;rw[show x=bs x.data.toList from rfl];refine CU hs (by rw[eL];exact hxs) λw hs=>?_;cases hv:mh x.data.toList with
 |none=>
  rw[hv] at hK;unfold ue;simp only[nz,ae,ag];simp only[xX,aW,cK,aD,ae,true_and];simp only[nz,ae,ag];refine je hs λr2 w hs=>?_;refine⟨trivial,kf (k:=0) hs rfl (aI rfl) (by simp[Value.oneCell']) λw hs=>?_⟩;simp only[nz,ae,ag] at hs;refine uX (λ_=>Qd w r2 _ hK hs) (λ_=>?_);exact Qd w r2 _ hK hs
 |some y=>
  obtain⟨m,j,dd⟩:=y;rw[hv] at hK;dsimp only at hK;unfold ue;simp only[nz,ae,ag];simp only[xX,aW,cK,aD,ae,true_and];simp only[nz,ae,ag];refine je hs λr2 w hs=>?_;refine⟨trivial,kf (k:=0) hs rfl (aI rfl) (by simp[Value.oneCell']) λw hs=>?_⟩;rw[iS (by simp)] at hs;simp only[nz,ae,ag] at hs;refine uX (λjW=>?_) (λh0=>?_)
  ·rw[ai (.inl jW)] at hK;exact Qd w r2 _ hK hs
  apply cX (k:=0) hs rfl rfl;simp only[nz,ae,ag];by_cases hj:j=0
  ·rw[af (by rintro(h|h);exact h h0;exact h hj)] at hK;have ej:(j !=0)=false:=by simp[hj]
   rw[ej];unfold pA.j1;simp only[nz,ae,ag];apply cX (k:=0) hs rfl rfl;simp only[nz,ae,ag];rw[show dd=bs dd.data.toList from rfl];refine Ot hs (by
    rw[eL]
    have:=(C6 hv)
    omega) λw hs=>?_
   cases hh:Hw dd.data.toList with
   |none=>
    rw[hh] at hK;unfold qx;simp only[nz,ae,ag];simp only[xX];refine⟨rfl,?_⟩;simp only[nz,ae,ag];refine je hs λr3 w hs=>?_;refine⟨by simp[cm],kf (k:=0) hs rfl (aI rfl) (by simp[Value.oneCell',cm]) λw hs=>?_⟩;rw[iS (by simp[cm])] at hs;simp only[nz,ae,ag] at hs;refine⟨trivial,by simp,?_⟩;refine kf (k:=2) hs rfl (aI rfl) (by simp[Value.oneCell']) λw hs=>?_;rw[iS (by simp)] at hs;simp only[nz,ae,ag] at hs;refine km (k:=2) (xs:=[.i 0,.i 0,.i 0,.i 0]) hs rfl rfl (λj v hj=>by rw[aD];exact hj) ?_;exact hK w hs.drop.drop.drop
   |some hd=>
    rw[hh] at hK;dsimp only at hK;unfold qx;simp only[nz,ae,ag];simp only[xX];refine⟨rfl,?_⟩;simp only[nz,ae,ag];refine je hs λr3 w hs=>?_;refine⟨by simp[cm],kf (k:=0) hs rfl (aI rfl) (by simp[Value.oneCell',cm]) λw hs=>?_⟩;rw[iS (by simp[cm])] at hs;simp only[nz,ae,ag] at hs;apply cX (k:=0) hs rfl rfl;simp only[nz,ae,ag];refine uX (λjW=>?_) (λheq=>?_)
    ·rw[ai (show low hd.bB≠(i:Int) from jW)] at hK;refine⟨trivial,by simp,?_⟩;refine kf (k:=2) hs rfl (aI rfl) (by simp[Value.oneCell']) λw hs=>?_;rw[iS (by simp)] at hs;simp only[nz,ae,ag] at hs;refine km (k:=2) (xs:=[.i 0,.i 0,.i 0,.i 0]) hs rfl rfl (λj v hj=>by rw[aD];exact hj) ?_;exact hK w hs.drop.drop.drop
    ·rw[af (show ¬low hd.bB≠(i:Int) from λhh=>hh heq)] at hK;refine km (k:=0) (xs:=cm hd) hs rfl rfl (λj v hj=>by rw[aD];exact hj) ?_;refine⟨rfl,?_⟩;refine kf (k:=2) hs rfl (aI rfl) (by simp[Value.oneCell',cm]) λw hs=>?_;rw[iS (by simp[cm])] at hs;simp only[nz,ae,ag] at hs;refine km (k:=2) (xs:=cm hd) hs rfl rfl (λj v hj=>by rw[aD];exact hj) ?_;exact hK w hs.drop.drop.drop
  ·rw[ai (.inr hj)] at hK;have ej:(j !=0)=true:=by simp[hj]
   rw[ej];exact Qd w r2 _ hK hs
end
def eJ(n:Nat)(x:List UInt8×Bool):List UInt8×Bool:=if x.2=true\/x.1.length<n then(x.1,true) else(x.1.drop n,false)
def jm(n:Nat)(x:List UInt8×Bool):Int:=if x.2=true\/x.1.length<n then 0 else nt (x.1.take n)
def Jc(x:List UInt8×Bool):0<=jm 4 x/\jm 4 x<4294967296:=by
 unfold jm;split
 ·omega
 ·have h1:=rF (x.1.take 4);have h2:(x.1.take 4).length<=4:=by rw[aC];omega
  have h3:256^(x.1.take 4).length<=256^4:=gM (by decide) h2;have h4:(256:Nat)^4=4294967296:=rfl;rw[nY (by omega)];omega
def df(seq:Int)(s:BA):List UInt8:=le .i64 8 seq++le .i64 4 s.size++s.data.toList
def zX(seq:Int)(s:BA):(df seq s).length=12+s.size:=by
 simp only[df,au,aP];rfl
def mj(D:aZ)(at' toX seq:Int):Option (List UInt8×Int):=
 if toX<=at' then none else match mh (D.read at').1.data.toList with
 |none=>none
 |some (m,j,d)=>
  if j≠0\/jm 8 (d.data.toList,false)≠seq then none
  else if(eJ 4 (eJ 8 (d.data.toList,false))).2=true\/32768<jm 4 (eJ 8 (d.data.toList,false)) then none
  else match take D at' toX m (12+jm 4 (eJ 8 (d.data.toList,false))) with
  |none=>none
  |some t=>some (t.drop 12,at'+(gB (12+jm 4 (eJ 8 (d.data.toList,false))).toNat:Int))
def Bw:Option (List UInt8×Int)->Value
 |none=>.tuple ⟨[.s .empty,.i 0,.b false]⟩
 |some (l,a)=>.tuple ⟨[.s (bs l),.i a,.b true]⟩
def A8{D:aZ}{at' number:Int}{size:Nat}:∀(n i:Nat) {t:List UInt8},nq D at' number size i n=some t->104* i<=size->size<=104* (i+n)->t.length=size-104* i
 |0,i,t,h,h1,h2=>by
  simp only[nq,bE.injEq] at h;subst h;simp;omega
 |n+1,i,t,h,h1,h2=>by
  rw[o9] at h;split at h
  ·cases h
  ·rename_i m j d hv;split at h
   ·rename_i hc;cases ht:nq D at' number size (i+1) n with
    |none=>rw[ht] at h;cases h
    |some u=>
     rw[ht] at h;simp only[fF,bE.injEq] at h;subst h;have hd:d.data.toList.length=d.size:=rfl;by_cases h3:104* (i+1)<=size
     ·have:=A8 n (i+1) ht h3 (by omega);rw[au,this,hd,hc.2.2];omega
     ·
      have hz:∀(n i:Nat) {u:List UInt8},nq D at' number size i n=some u->size<=104* i->u.length=0:=by
       intro n
       induction n with
       |zero=>intro i u h _;simp only[nq,bE.injEq] at h;subst h;rfl
       |succ n ih=>
        intro i u h hle;rw[o9] at h;split at h
        ·cases h
        ·rename_i m j d hv;split at h
         ·rename_i hc;cases ht:nq D at' number size (i+1) n with
          |none=>rw[ht] at h;cases h
          |some v=>
           rw[ht] at h;simp only[fF,bE.injEq] at h;subst h;have:=ih (i+1) ht (by omega);have hd:d.data.toList.length=d.size:=rfl;rw[au,this,hd,hc.2.2];omega
         ·cases h
      have:=hz n (i+1) ht (by omega);rw[au,this,hd,hc.2.2];omega
   ·cases h
def take_length{D:aZ}{at' toX number size:Int}{t:List UInt8}(h:take D at' toX number size=some t):(t.length:Int)=size/\0<=at'/\at'+(gB size.toNat:Int)<=toX/\toX<=(D.safe.length:Int)/\0<=size:=by
 unfold take at h;split at h
 ·cases h
 ·rename_i hc;have hs:size.toNat<=104* gB size.toNat:=by unfold gB;split<;>omega
  have:=A8 (gB size.toNat) 0 h (by omega) (by omega);omega
section
variable {W w:World} {L:LH} {k d:Nat} {D:aZ}
def zu{r n:Nat}{x:List UInt8×Bool}{K:VK}(h:St W w L)(hk:L[k]?=some (DH r (bs x.1) x.2))(hl:x.1.length<1099511627776)(hn:1<=n/\n<=8)
 (hK:∀w',St W w' (L.set k (DH r (bs (eJ n x).1) (eJ n x).2))->K (.i (jm n x)) w'):aL (ah r) (n:Int) K w:=by
 refine B0 h hk ?_;have em:min2 (max2 (n:Int) 1) 8=((n:Nat):Int):=by unfold min2 max2;split<;>split<;>omega
 rw[em];obtain⟨l,t⟩:=x;unfold eJ jm at hK;dsimp only at hK hl⊢;by_cases hc:t=true\/l.length<n
 ·rw[ai hc,ai hc] at hK;have et:sn (bs l) t ((n:Nat):Int)=true:=by
   unfold sn;rcases hc with h1|h1
   ·rw[h1];rfl
   ·rw[cf,aw (by omega)];simp
  unfold DI yM;rw[et,ai rfl,ai rfl];exact hK
 ·rw[af hc,af hc] at hK;have ht:t=false:=by cases t<;>simp_all
  have et:sn (bs l) t ((n:Nat):Int)=false:=by
   unfold sn;rw[ht,cf,aq (by omega)];rfl
  unfold DI yM;rw[et,ak,o7,o5];exact hK
def FH{r:Nat}{s:BA}{t:Bool}{K:VK}(h:St W w L)(hk:L[k]?=some (DH r s t))(hK:K (.b t) w):cF (ah r) K w:=by
 unfold DH at hk;unfold cF;simp only[nz,ae,ag];refine cX h hk rfl ?_;simp only[nz,ae,ag];exact hK
def sW(n:Nat)(x:List UInt8×Bool):(eJ n x).1.length<=x.1.length:=by unfold eJ;split<;>simp
def Q9{at' toX seq:Int}{K:VK}(h:St W w L)(hk:L[k]?=some (gT d D))(iE:D.Ok)(BJ:0<=at')(VJ:toX<=(D.safe.length:Int))
 (hK:∀w',St W w' L->K (Bw (mj D at' toX seq)) w'):fV (ah d) at' toX seq K w:=by
 have wB:=iE.oS;unfold mj at hK;unfold fV;refine fQ (λh1=>?_) (λh1=>?_)
 ·rw[ai (by omega)] at hK;exact hK w h
 rw[af (by omega)] at hK;refine sh h hk iE ?_;simp only[nz,ae,ag];have qX:=za iE (i:=at') ⟨by omega,by omega⟩;generalize hx:(D.read at').1=X at *;rw[show X=bs X.data.toList from rfl];refine CU h (by rw[eL];omega) λw h=>?_;cases hv:mh X.data.toList with
 |none=>
  rw[hv] at hK;unfold ue;simp only[nz,ae,ag];simp only[xX,aW,cK,aD,ae,true_and];simp only[nz,ae,ag];refine je h λr1 w h=>?_;refine⟨trivial,kf (k:=0) h rfl (aI rfl) (by simp[Value.oneCell']) λw h=>?_⟩;rw[iS (by simp)] at h;simp only[nz,ae,ag] at h;refine cX (k:=0) h rfl rfl ?_;simp only[nz,ae,ag];refine sC h λq w h=>?_;simp only[nz,ae,ag];refine zu (k:=0) (n:=8) (x:=([],false)) h rfl (by decide) (by decide) λw h=>?_;simp only[nz,ae,ag] at h⊢;unfold fV.j1;simp only[nz,ae,ag];exact hK w h.drop.drop
 |some y=>
  obtain⟨m,j,dd⟩:=y;rw[hv] at hK;dsimp only at hK;have hdd:=C6 hv;have zF:dd.data.toList.length=dd.size:=rfl;unfold ue;simp only[nz,ae,ag];simp only[xX,aW,cK,aD,ae,true_and];simp only[nz,ae,ag];refine je h λr1 w h=>?_;refine⟨trivial,kf (k:=0) h rfl (aI rfl) (by simp[Value.oneCell']) λw h=>?_⟩;rw[iS (by simp)] at h;simp only[nz,ae,ag] at h;refine cX (k:=0) h rfl rfl ?_;simp only[nz,ae,ag];rw[show dd=bs dd.data.toList from rfl];refine sC h λq w h=>?_;simp only[nz,ae,ag];have n1:=sW 8 (dd.data.toList,false);dsimp only at n1;refine zu (k:=0) (n:=8) (x:=(dd.data.toList,false)) h rfl (by dsimp only;omega) (by decide) λw h=>?_;simp only[nz,ae,ag] at h⊢;refine cX (k:=1) h rfl (v:=.i j) rfl ?_;simp only[nz,ae,ag];have stop:∀w,(∀w',St W w' L->K (Bw none) w')->St W w (DH q (bs (eJ 8 (dd.data.toList,false)).1) (eJ 8 (dd.data.toList,false)).2::pt r1 [.i m,.i j,.s (bs dd.data.toList)]::L)->fV.j1 K (ah q) r1 (ah d) at' toX true w:=λw hK h=>by
   unfold fV.j1;simp only[nz,ae,ag];exact hK w h.drop.drop
  refine uX (λhj=>?_) (λhj=>?_)
  ·rw[ai (.inl hj)] at hK;exact stop w hK h
  by_cases hq:jm 8 (dd.data.toList,false)=seq
  ·rw[af (by rintro(hh|hh);exact hh hj;exact hh hq)] at hK;have eb:(jm 8 (dd.data.toList,false)!=seq)=false:=by rw[hq];exact bne_self_eq_false seq
   rw[eb];unfold fV.j1;simp only[nz,ae,ag];refine zu (k:=0) (n:=4) (x:=eJ 8 (dd.data.toList,false)) h rfl (by omega) (by decide) λw h=>?_;simp only[nz,ae,ag] at h⊢;refine FH (k:=0) h rfl ?_;simp only[nz,ae,ag];have AV:=Jc (eJ 8 (dd.data.toList,false));generalize hz:eJ 4 (eJ 8 (dd.data.toList,false))=z at *;generalize hn6:jm 4 (eJ 8 (dd.data.toList,false))=n6 at *;have Y3:∀w,(∀w',St W w' L->K (Bw none) w')->St W w (DH q (bs z.1) z.2::pt r1 [.i m,.i j,.s (bs dd.data.toList)]::L)->fV.j2 K r1 (ah d) at' toX n6 true w:=λw hK h=>by
    unfold fV.j2;simp only[nz,ae,ag];exact hK w h.drop.drop
   refine tJ (λht=>?_) (λht=>?_)
   ·rw[ai (.inl ht)] at hK;exact Y3 w hK h
   by_cases hm:32768<n6
   ·rw[ai (.inr hm)] at hK;rw[aw hm];exact Y3 w hK h
   ·rw[af (by rintro(hh|hh);(rw[ht] at hh;cases hh);exact hm hh)] at hK;rw[aq hm];unfold fV.j2;simp only[nz,ae,ag];refine cX (k:=1) h rfl (v:=.i m) rfl ?_;simp only[nz,ae,ag];have ew:aa.wrap (12+n6)=12+n6:=aX (by omega);rw[ew];refine Iy (k:=k+2) h (by rw[bT,bT];exact hk) iE λw h=>?_;cases ht:take D at' toX m (12+n6) with
    |none=>
     rw[ht] at hK;unfold sV;simp only[nz,ae,ag];exact hK w h.drop.drop
    |some t=>
     rw[ht] at hK;dsimp only at hK;obtain⟨l1,l2,l3,l4,l5⟩:=take_length ht;unfold sV;simp only[nz,ae,ag];refine mw h λw h=>?_;unfold mG;refine⟨⟨by omega,by rw[cf];omega⟩,?_⟩;rw[show(12:Int).toNat=12 from rfl,o5];obtain⟨p,hp⟩:=bw (show 0<=12+n6 by omega);rw[hp] at hK⊢l3;refine rm (by omega) ?_;simp only[nz,ae,ag];rw[ak] at hK l3;have ew2:aa.wrap (at'+(gB p:Int))=at'+(gB p:Int):=aX (by omega);rw[ew2];exact hK w h.drop.drop
  ·rw[ai (.inr hq)] at hK;have eb:(jm 8 (dd.data.toList,false)!=seq)=true:=by simp[hq]
   rw[eb];exact stop w hK h
def Oa{seq:Int}{s:BA}{K:VK}(h:St W w L)(hs:s.size<=1000000)(hK:∀w',St W w' L->K (.s (bs (df seq s))) w'):s7 seq s K w:=by
 have hd:s.data.toList.length=s.size:=rfl;unfold s7;refine⟨trivial,?_⟩;refine je h λp w hs=>?_;have hs:St W w (buf p []::L):=by
  have h2:=(hs.push (A:=own none 0 0 1 (([]:List UInt8).map vf)) (rM 1)).perm (bX.swap _ _ _);exact uA (k:=0) (L:=buf p []::L) (A:=buf p []) rfl rfl h2
 refine kA (k:=0) hs rfl (by simp) λw hs=>?_;rw[show(min2 (max2 8 1) 8).toNat=8 from rfl] at hs;simp only[nz,ae,ag] at hs⊢;refine kA (k:=0) hs rfl (by simp only[au,aP,cK];omega) λw hs=>?_;rw[show(min2 (max2 4 1) 8).toNat=4 from rfl] at hs;simp only[nz,ae,ag] at hs⊢;refine q6 (k:=0) hs rfl (by simp only[au,aP,cK];omega) λw hs=>?_;simp only[nz,ae,ag] at hs⊢;refine mZ (k:=0) hs rfl ?_;simp only[nz,ae,ag];rw[cT];exact hK w hs.drop
structure PJ where
 lo:Int
 hi:Int
 at':Int
 seq:Int
 dL:Bool
def rQ(d:Nat)(J:PJ):LV:=[.p (ah d),.i J.lo,.i J.hi,.i J.at',.i J.seq,.b J.dL]
structure PJ.Ok(J:PJ)(D:aZ):Prop where
 lo:0<=J.lo
 Ms:J.lo<=J.at'
 Ss:J.at'<=J.hi
 hi:J.hi<=(D.safe.length:Int)
 seq:0<=J.seq/\J.seq<=1152921504606850000
def room(J:PJ)(n:Int):Prop:=0<=n/\n<=32768/\(gB (12+n.toNat):Int)<=J.hi-J.at'
instance(J:PJ)(n:Int):Decidable (room J n):=by unfold room;infer_instance
def CQ(J:PJ)(s:BA)(R:aZ×Int):aZ×PJ×Int:=
 if R.2≠0 then(R.1,{J with dL:=true},R.2) else(R.1,{J with at':=J.at'+(gB (12+s.size):Int),seq:=J.seq+1},0)
def tT(D:aZ)(J:PJ)(number:Int)(s:BA):aZ×PJ×Int:=
 if J.dL=true then(D,J,9)
 else if number<1\/1152921504606846976<number then(D,J,1)
 else if ¬room J s.size\/1152921504606846976<=J.seq then(D,J,6)
 else CQ J s (eQ D J.at' J.hi number (bs (df (J.seq+1) s)))
section
variable {r:Nat} {J:PJ}
def Vg{K:VK}(h:St W w L)(hk:L[k]?=some (pt r (rQ d J)))(hK:K (.i J.seq) w):ml (ah r) K w:=by
 unfold ml;simp only[nz,ae,ag];refine cX h hk rfl ?_;simp only[nz,ae,ag];exact hK
def JY{K:VK}(h:St W w L)(hk:L[k]?=some (pt r (rQ d J)))(hK:∀w',St W w' (L.set k (pt r (rQ d {J with at':=J.lo})))->K (.tuple ⟨[]⟩) w'):jL (ah r) K w:=by
 unfold jL;simp only[nz,ae,ag];refine cX h hk rfl ?_;simp only[nz,ae,ag];refine oX h hk (aI rfl) rfl λw h=>?_;exact hK w h
def FI{n:Int}{K:VK}(h:St W w L)(hk:L[k]?=some (pt r (rQ d J)))(hJ:J.Ok D)(iE:D.Ok)(hK:∀w',St W w' L->K (.b (decide (room J n))) w'):jK (ah r) n K w:=by
 have wB:=iE.oS;obtain⟨j1,j2,j3,j4,j5⟩:=hJ;unfold jK;refine mw h λw h=>?_;have hh:=hK w h;have no: ¬room J n->K (.b false) w:=λhn=>by rw[aq hn] at hh;exact hh
 simp only[nz,ae,ag];refine fQ (λh1=>?_) (λh1=>no (λhr=>by have:=hr.1;omega));refine fQ (λh2=>?_) (λh2=>no (λhr=>by have:=hr.2.1;omega));refine cX h hk rfl ?_;simp only[nz,ae,ag];refine cX h hk rfl ?_;simp only[nz,ae,ag];obtain⟨m,rfl⟩:=bw (show 0<=n by omega);have ew:aa.wrap (12+(m:Int))=((12+m:Nat):Int):=by rw[aX (by omega)];omega
 rw[ew];refine rm (by omega) ?_;simp only[nz,ae,ag];refine kC h hk rfl ?_;refine kC h hk rfl ?_;have ew2:aa.wrap (J.hi-J.at')=J.hi-J.at':=aX (by omega);rw[ew2];have:decide ((gB (12+m):Int)<=J.hi-J.at')=decide (room J m):=by
  rw[decide_eq_decide];unfold room;rw[ak];omega
 rw[this];exact hh
def Rg{k2:Nat}{number:Int}{s:BA}{K:VK}(h:St W w L)(hk:L[k]?=some (pt r (rQ d J)))(ux:L[k2]?=some (gT d D))(jW:k≠k2)(hJ:J.Ok D)(iE:D.Ok)(hl:D.later.length<1000000)(hs:s.size<=reachBytes)
 (hK:∀w',St W w' ((L.set k2 (gT d (tT D J number s).1)).set k (pt r (rQ d (tT D J number s).2.1)))->K (.i (tT D J number s).2.2) w'):cy (ah r) number s K w:=by
 have fC:s.size<=140737488351232:=hs;have wB:=iE.oS;obtain⟨j1,j2,j3,j4,j5⟩:=hJ;have hJ:J.Ok D:=⟨j1,j2,j3,j4,j5⟩;have same:∀e,tT D J number s=(D,J,e)->∀w,St W w L->K (.i e) w:=λe he w h=>by
  have:=hK w;rw[he] at this;refine this ?_;rw[nI ux,nI hk];exact h
 unfold cy;simp only[nz,ae,ag];refine cX h hk rfl ?_;simp only[nz,ae,ag];refine tJ (λXt=>same 9 (by unfold tT;rw[ai Xt]) w h) (λXt=>?_);have aa5: ¬J.dL=true:=by rw[Xt];exact rq
 have bad:(number<1\/1152921504606846976<number)->cy.j1 K (ah r) s number true w:=λhb=>by
  unfold cy.j1;simp only[nz,ae,ag];exact same 1 (by unfold tT;rw[af aa5,ai hb]) w h
 refine fQ (λh1=>bad (.inl h1)) (λh1=>?_);by_cases h2:1152921504606846976<number
 ·rw[aw h2];exact bad (.inr h2)
 rw[aq h2];have hnb: ¬(number<1\/1152921504606846976<number):=by omega
 unfold cy.j1;simp only[nz,ae,ag];refine FI h hk hJ iE λw h=>?_;have full:(¬room J s.size\/1152921504606846976<=J.seq)->∀w,St W w L->cy.j2 K (ah r) s number true w:=λhb w h=>by
  unfold cy.j2;simp only[nz,ae,ag];exact same 6 (by unfold tT;rw[af aa5,af hnb,ai hb]) w h
 simp only[nz,ae,ag];by_cases hr:room J s.size
 case neg=>
  rw[aq hr];simp only[nz,ae,ag];exact full (.inl hr) w h
 rw[aw hr];simp only[nz,ae,ag];refine cX h hk rfl ?_;simp only[nz,ae,ag];by_cases Lu:1152921504606846976<=J.seq
 ·have:decide (J.seq>=1152921504606846976)=true:=aw Lu;rw[this];exact full (.inr Lu) w h
 have e0:decide (J.seq>=1152921504606846976)=false:=aq Lu;rw[e0];unfold tT at hK;rw[af aa5,af hnb,af (by rintro(hh|hh);exact hh hr;exact Lu hh)] at hK;unfold cy.j2;simp only[nz,ae,ag];refine mw h λw h=>?_;refine cX h hk rfl ?_;simp only[nz,ae,ag];refine cX h hk rfl ?_;simp only[nz,ae,ag];refine cX h hk rfl ?_;simp only[nz,ae,ag];refine cX h hk rfl ?_;simp only[nz,ae,ag];have ew:aa.wrap (J.seq+1)=J.seq+1:=aX (by omega);rw[ew];refine Oa h (by have:=hr.2.1;omega) λw h=>?_;simp only[nz,ae,ag];refine kC h hk rfl ?_;refine kC h hk rfl ?_;refine kC h hk rfl ?_;refine kC h hk rfl ?_;have BH:(bs (df (J.seq+1) s)).size=12+s.size:=by rw[cf,zX]
 have G1:=hr.2.1;refine Gw (k:=k2) h ux iE (by omega) (by rw[BH];show _<=140737488351232;omega) λw h=>?_;simp only[nz,ae,ag];have hcn:gB (12+s.size)<=400:=by unfold gB;split<;>omega
 have Rr:=(Jf (at':=J.at') (toX:=J.hi) (number:=number) (s:=bs (df (J.seq+1) s)) iE (by rw[BH];omega)).1;have AU:(L.set k2 (gT d (lay D J.at' J.hi number (bs (df (J.seq+1) s))).1))[k]?=some (pt r (rQ d J)):=by rw[OP (λhh=>jW hh.symm)];exact hk
 refine kC h AU rfl ?_;unfold eQ at hK;generalize hL:lay D J.at' J.hi number (bs (df (J.seq+1) s))=R at *;obtain⟨D1,e1⟩:=R;dsimp only at h Rr AU hK⊢;have fin:∀(R:aZ×Int) w,(∀w',St W w' ((L.set k2 (gT d (CQ J s R).1)).set k (pt r (rQ d (CQ J s R).2.1)))->K (.i (CQ J s R).2.2) w')->
  St W w (L.set k2 (gT d R.1))->cy.j3 K (ah r) s R.2 w:=λR w hK h=>by
  unfold CQ at hK;obtain⟨D2,e2⟩:=R;dsimp only at hK h⊢;have Zz:(L.set k2 (gT d D2))[k]?=some (pt r (rQ d J)):=by rw[OP (λhh=>jW hh.symm)];exact hk
  unfold cy.j3;refine uX (λhe=>?_) (λhe=>?_)
  ·rw[ai he] at hK;simp only[nz,ae,ag];refine oX h Zz (aI rfl) rfl λw h=>?_;exact hK w h
  ·rw[af (λhh=>hh he)] at hK;refine mw h λw h=>?_;simp only[nz,ae,ag];refine cX h Zz rfl ?_;simp only[nz,ae,ag];have ew2:aa.wrap (12+(s.size:Int))=((12+s.size:Nat):Int):=by rw[aX (by omega)];omega
   rw[ew2];refine rm (by omega) ?_;simp only[nz,ae,ag];refine kC h Zz rfl ?_;have ew3:aa.wrap (J.at'+(gB (12+s.size):Int))=J.at'+(gB (12+s.size):Int):=aX (by omega);rw[ew3];refine oX h Zz (aI rfl) rfl λw h=>?_;refine cX h (kj Zz) rfl ?_;simp only[nz,ae,ag];rw[ew];refine oX h (kj Zz) (aI rfl) rfl λw h=>?_;rw[jC] at h;exact hK w h
 have eqb:∀e:Int,(e==0)=decide (e=0):=λe=>by by_cases he:e=0<;>simp[he]
 by_cases he:e1=0
 ·rw[af (λhh=>hh he: ¬e1≠0)] at hK;have:(e1==0)=true:=by rw[eqb];exact aw he
  rw[this];simp only[nz,ae,ag];refine cX h AU rfl ?_;simp only[nz,ae,ag];refine u4 (k:=k2) h (kj ux) Rr λw h=>?_;rw[jC] at h;simp only[nz,ae,ag];exact fin D1.sync w hK h
 ·rw[ai he] at hK;have:(e1==0)=false:=by rw[eqb];exact aq he
  rw[this];simp only[nz,ae,ag];exact fin (D1,e1) w hK h
end
end
end Go.Sep
namespace Go.Up
open Go.Sep Go.Den Go.RowKit Go.Prog Go.Md Go.cH
def nb(n:Nat):List UInt8:=(pK 16).map λi=>UInt8.ofNat (n/256^i%256)
def rN(n:Nat):(nb n).length=16:=by simp[nb]
def Kr(m i:Nat)(hi:i<8):Value.int .u8 (IntKind.u8.wrap (shr .u64 (m:Int) (aa.wrap (8* (i:Int)))))=vf (UInt8.ofNat (m/256^i%256)):=by
 rw[aX (by omega)];unfold vf shr;rw[UInt8.toNat_ofNat_of_lt' (by show _<256;omega),GI _ (Int.le_of_lt (Int.pow_pos (by decide)))]
 congr 1
 have e8:∀x:Int,IntKind.u8.wrap x=x%256:=λx=>by simp[IntKind.wrap,IntKind.bits,IntKind.signed]
 have e2:(8* (i:Int)).toNat=8* i:=by omega
 have e4:min (8* i) IntKind.u64.bits=8* i:=by show min (8* i) 64=_;omega
 have e3:(2:Int)^(8* i)=((256^i:Nat):Int):=by rw[Int.pow_mul];norm_cast
 rw[e8,e2,e4,e3];omega
def acV(n i:Nat)(hi:i<8):n%18446744073709551616/256^i%256=n/256^i%256:=by
 match i,hi with
 |0,_|1,_|2,_|3,_|4,_|5,_|6,_|7,_=>omega
def acW(n i:Nat)(hi:i<8):n/18446744073709551616/256^i%256=n/256^(8+i)%256:=by
 match i,hi with
 |0,_|1,_|2,_|3,_|4,_|5,_|6,_|7,_=>omega
section
variable {W:World} {L:LH} {K:VK} {X:WK}
def C3{r o:Nat}{cs:LV}{v:Value}{f:LV->LH}[i:Lc (pt r) L cs f](ho:o<cs.length)(h1:v.oneCell'=true)(h:T W (f (cs.set o v)) X):T W L (st ⟨r,o,none⟩ v X):=λw hs=>by
 obtain⟨k,hk,e⟩:=i.at_;exact oX hs hk ho h1 λw' h'=>h w' (by rw[e];exact h')
def S8{r:Nat}{l:List UInt8}{f:LV->LH}{K:BA->WK}[i:Lc (pt r) L (l.map vf) f](h:T W L (K (bs l))):T W L (U2 (ah r) l.length K):=λw hs=>
 let⟨_,hk,_⟩:=i.at_;OB hs hk rfl (h w hs)
def Y6(b:OA)(c e:Nat):ym b c 0 e=b:=by
 unfold ym;split
 ·rfl
 ·cases b with
  |none=>rfl
  |some a=>simp[Addr.add]
def Wj{b:OA}{n c e:Nat}{K:OA->Nat->Nat->WK}(h:T W L (K b n c)):T W L (rJ b n c e none none K):=by
 unfold rJ;rw[Y6];exact h
def NO(n i:Nat):LV:=(pK 16).map λj=>if j<i\/8<=j/\j<8+i then vf (UInt8.ofNat (n/256^j%256)) else .int .u8 0
def YH{n:Nat}(h:T W L (K (.s (bs (nb n))))):T W L (wV (nm n) K):=by
 unfold wV;apply ws;intros;rename_i r1 r2;intro w hs;refine⟨λvs w=>∃i:Nat,i<=8/\vs=[.p (some (ad r1 0)),.s .empty,.p (some (ad r2 0)),.i (i:Int)]/\St W w (pt r2 (NO n i)::pt r1 (nm n)::L),
  λvs _=>match vs with|[_,_,_,.int _ j]=>8-j.toNat|_=>0,⟨0,aE _,rfl,hs⟩,?_⟩
 rintro a1 s1 a2 n1 w2 ⟨i,hi,e,hs⟩;cases e
 refine T.at ?_ hs;apply fZ<;>intro h1
 ·have cj:i<8:=by omega
  have e8:aa.wrap (8* (i:Int))=8* (i:Int):=aX (by omega);have e9:aa.wrap (8+(i:Int))=((8+i:Nat):Int):=by rw[aX (by omega)];omega
  have e5:=m9 i;simp only[gY,aD,e8,e9,e5,ak,mm]
  repeat' first|apply ws|apply wb|first|refine dJ (by omega) ?_|refine C3 (by simp[NO];omega) rfl ?_
  rw[<-e8,Kr _ _ cj,Kr _ _ cj,acV _ _ cj,acW _ _ cj];have e:((NO n i).set i (vf (UInt8.ofNat (n/256^i%256)))).set (8+i) (vf (UInt8.ofNat (n/256^(8+i)%256)))=NO n (i+1):=by
   apply oz;intro j;rw[cW,cW];simp only[NO,iH,bY,List.length_range,dU];by_cases h1:8+i=j
   ·subst h1;rw[ai rfl,ai (by omega),q8 (by omega),fF,ai (by omega)]
   ·rw[af h1];by_cases h2:i=j
    ·subst h2;rw[ai rfl,ai (by omega),q8 (by omega),fF,ai (by omega)]
    ·rw[af h2];by_cases h3:j<16
     ·rw[q8 h3,fF,fF];by_cases h4:j<i\/8<=j/\j<8+i
      ·rw[ai h4,ai (by omega)]
      ·rw[af h4,af (by omega)]
     ·rw[pU (by simpa using h3)];rfl
  rw[e];exact λw3 h3=>⟨⟨i+1,cj,rfl,h3⟩,dn (by omega)⟩
 ·have he:i=8:=by omega
  subst he;have e:NO n 8=(nb n).map vf:=by
   unfold NO nb;rw[um];apply mI;intro j hj;rw[ai (by have:=List.mem_range.1 hj;omega)];rfl
  rw[e];apply Wj;have:=S8 (W:=W) (L:=Sep.pt r2 ((nb n).map vf)::Sep.pt r1 (nm n)::L) (r:=r2) (l:=nb n) (K:=λs2=>K (.s s2)) (by exact T.dp h);rw[rN] at this;exact this
def acN{A j:Nat}{c:UInt8}(hj:j<8)(hA:A<256^j):de .u64 .or (A:Int) (shl .u64 (IntKind.u64.wrap (c.toNat:Int)) (8* (j:Int)))=((A+c.toNat* 256^j:Nat):Int):=by
 have hc:=c.toNat_lt;have Rp:256^j=2^(8* j):=by rw[show(256:Nat)=2^8 from rfl,<-Nat.pow_mul]
 have afd:c.toNat* 2^(8* j)+2^(8* j)<=2^64:=by
  have h1:(c.toNat+1)* 2^(8* j)<=2^8* 2^(8* j):=iw _ hc;rw[<-Nat.pow_add,mn,Nat.one_mul] at h1;exact zy h1 (gM (by decide) (by omega))
 rw[Rp] at hA;have ew:IntKind.u64.wrap (c.toNat:Int)=(c.toNat:Int):=sm (by omega);have esh:shl .u64 (c.toNat:Int) (8* (j:Int))=((c.toNat* 2^(8* j):Nat):Int):=by
  unfold shl;have h1:(8* (j:Int)).toNat=8* j:=by omega
  have h2:min (8* j) IntKind.u64.bits=8* j:=by show min (8* j) 64=_;omega
  rw[h1,h2];have:((c.toNat:Int)* 2^(8* j))=((c.toNat* 2^(8* j):Nat):Int):=by norm_cast
  rw[this];exact sm (by omega)
 rw[ew,esh,Rp];show IntKind.u64.wrap (((BitVec.ofInt 64 (A:Int)|||BitVec.ofInt 64 ((c.toNat* 2^(8* j):Nat):Int)).toNat:Nat):Int)=_;rw[BitVec.toNat_or];have t1:(BitVec.ofInt 64 (A:Int)).toNat=A:=by simp only[BitVec.toNat_ofInt];omega
 have t2:(BitVec.ofInt 64 ((c.toNat* 2^(8* j):Nat):Int)).toNat=c.toNat* 2^(8* j):=by simp only[BitVec.toNat_ofInt];omega
 rw[t1,t2,Nat.or_comm,<-Nat.shiftLeft_eq,<-Nat.shiftLeft_add_eq_or_of_lt hA,Nat.add_comm,Nat.shiftLeft_eq];exact sm (by omega)
def IM{l:List UInt8}{i:Nat}{K:UInt8->WK}{c:UInt8}(hc:l[i]?=some c)(h:T W L (K c)):T W L (zQ (bs l) (i:Int) K):=λw hs=>⟨c,⟨by omega,by rw[ak];exact hc⟩,h w hs⟩
def EG:∀(l m:List UInt8),nV (l++m)=nV l+256^l.length* nV m
 |[],m=>by simp[nV]
 |c::l,m=>by simp only[lH,nV,EG l m,aW,zx];rw[Nat.mul_add,Nat.add_assoc,vK (256^l.length) 256,Nat.mul_assoc]
def La(l:List UInt8):Nat:=if l.length<16 then 0 else nV (l.take 16)
def ME{l:List UInt8}(hl:l.length<1099511627776)(h:T W L (K (.tuple ⟨[.agg ⟨nm (La l)⟩,.b (decide (16<=l.length))]⟩))):T W L (rE (bs l) K):=by
 unfold rE La at *;rw[cf];apply ws;intros;rename_i r1 r2;apply fZ<;>intro h1
 ·have h2:l.length<16:=by omega
  rw[ai h2,aq (by omega)] at h;apply ws;exact T.dp h
 have h2: ¬l.length<16:=by omega
 rw[af h2,aw (by omega)] at h;intro w hs;refine⟨λvs w=>∃i:Nat,i<=8/\vs=[.p (some (ad r1 0)),.b false,.p (some (ad r2 0)),.i (i:Int)]/\St W w (Sep.pt r2 [.u (nV ((l.drop 8).take i):Int),.u (nV (l.take i):Int)]::Sep.pt r1 [.u 0,.u 0]::L),
  λvs _=>match vs with|[_,_,_,.int _ j]=>8-j.toNat|_=>0,⟨0,aE _,rfl,hs⟩,?_⟩
 rintro a1 b1 a2 n1 w2 ⟨i,hi,e,hs⟩;cases e
 refine T.at ?_ hs;apply fZ<;>intro h1
 ·have cj:i<8:=by omega
  have e8:aa.wrap (8* (i:Int))=8* (i:Int):=aX (by omega);have e9:aa.wrap (8+(i:Int))=((8+i:Nat):Int):=by rw[aX (by omega)];omega
  have e5:=m9 i;have g1:i<l.length:=by omega
  have g2:8+i<l.length:=by omega
  have v1:=rF (l.take i);have v2:=rF ((l.drop 8).take i);rw[aC,nA (by omega)] at v1;rw[aC,aR,nA (by omega)] at v2;have c1:=aj g1;have c2:=aj g2;simp only[gY,aD,e8,e9,e5];apply ws;apply IM c1
  repeat' first|apply ws|apply wb|first|refine dJ (by omega) ?_|refine IM c1 ?_|refine IM c2 ?_
  rw[acN cj v1,acN cj v2];have t1:nV (l.take i)+l[i].toNat* 256^i=nV (l.take (i+1)):=by rw[qA g1,tg,aC,nA (by omega)]
  have t2:nV ((l.drop 8).take i)+l[8+i].toNat* 256^i=nV ((l.drop 8).take (i+1)):=by
   have hd:min i (l.drop 8).length=i:=by rw[aR];omega
   rw[qA (by rw[aR];omega),tg,aC,hd,List.getElem_drop]
  rw[t1,t2];exact λw3 h3=>⟨⟨i+1,cj,rfl,h3⟩,dn (by omega)⟩
 ·have he:i=8:=by omega
  subst he;have v1:=rF (l.take 8);rw[aC,nA (by omega)] at v1;have e:l.take 16=l.take 8++(l.drop 8).take 8:=by rw[<-List.take_add]
  have ev:nV (l.take 16)=nV (l.take 8)+18446744073709551616* nV ((l.drop 8).take 8):=by
   rw[e,EG,aC,nA (by omega)]
  have e3:(256:Nat)^8=18446744073709551616:=rfl;rw[TH (nV (l.take 16)) (by omega) (by omega)];apply ws;exact T.dp h
end
class vI(b:OA)(n c:outParam Nat)(L:LH)(e:outParam Nat)(xs:outParam (LV))(f:outParam (HP->LH)):Prop where
 at_:∃k:Nat,L[k]?=some (own b n c e xs)/\∀A,f A=L.set k A
instance vI.head{b:OA}{n c e:Nat}{xs:LV}{L:LH}:vI b n c (own b n c e xs::L) e xs (λA=>A::L):=⟨0,rfl,λ_=>rfl⟩
instance vI.tail{b:OA}{n c e:Nat}{xs:LV}{L:LH}{A:HP}{f:HP->LH}[h:vI b n c L e xs f]:vI b n c (A::L) e xs (λB=>A::f B):=by
 obtain⟨k,h1,h2⟩:=h.at_;exact⟨k+1,h1,λy=>by rw[h2];rfl⟩
section
variable {W:World} {L:LH} {K:VK} {X:WK} {b:OA} {n c e:Nat} {xs ys:LV} {f:HP->LH}
def S9{s:BA}{K:OA->Nat->Nat->WK}[i:vI b n c L 1 xs f](hb:n+s.size<=140737488355328)(h:∀b' c',T W (f (own b' (n+s.size) c' 1 (xs++strCells s))) (K b' (n+s.size) c')):T W L (Gl b n c s K):=λw hs=>by
 obtain⟨k,hk,e⟩:=i.at_;exact Gk hs hk hb λb' c' w' h'=>h b' c' w' (by rw[e];exact h')
def Ta{r bytes:Nat}{zero:LV}{g:LV->LH}{K:OA->Nat->Nat->WK}[i:vI b n c L e xs f][j:Lc (Sep.pt r) L ys g](hy:ys.length=e)(hz:zero.length=e)(hb:(n+1)* bytes<=140737488355328)(h1:∀v∈ys,v.oneCell'=true)
 (h:∀b' c',T W (f (own b' (n+1) c' e (xs++ys))) (K b' (n+1) c'))(hm:n+1<=9223372036854775807:=by omega):T W L (iN e bytes zero b n c (ah r) 1 K):=λw hs=>by
 obtain⟨k,hk,e1⟩:=i.at_;obtain⟨k2,ux,_⟩:=j.at_;refine uD hs hk (ys:=ys) (Gr (o:=0) hs ux (by omega) λj v hv=>by rw[aD];exact hv) (λhh=>by cases hh) hz hb hm h1 λb' c' w' h'=>h b' c' w' (by rw[e1];exact h')
def dT{i:Int}{K:Addr->WK}[l:vI b n c L e xs f](hi:0<=i/\i<n)(h:∀r,b=ah r->T W L (K ⟨r,i.toNat* e,none⟩)):T W L (iY b n i e K):=λw hs=>by
 obtain⟨k,hk,_⟩:=l.at_;exact rR hs hk hi λr hr=>h r hr w hs
def rd(r:Nat)(x:List UInt8×Bool):HP:=DH r (bs x.1) x.2
variable {r:Nat} {x:List UInt8×Bool} {g:List UInt8×Bool->LH}
def J0[i:Lc (rd r) L x g](hl:x.1.length<1099511627776)(m:Nat)(hm:1<=m/\m<=8)(h:T W (g (eJ m x)) (K (.i (jm m x)))):T W L (aL (ah r) (m:Int) K):=λw hs=>by
 obtain⟨k,hk,e⟩:=i.at_;exact zu hs hk hl hm λw' h'=>h w' (by rw[e];exact h')
def sf[i:Lc (rd r) L x g](hl:x.1.length<1099511627776)(h:T W (g (eJ 1 x)) (K (.i (jm 1 x)))):T W L (aL (ah r) 1 K):=J0 hl 1 (by decide) h
def Ep[i:Lc (rd r) L x g](hl:x.1.length<1099511627776)(h:T W (g (eJ 2 x)) (K (.i (jm 2 x)))):T W L (aL (ah r) 2 K):=J0 hl 2 (by decide) h
def Qw[i:Lc (rd r) L x g](hl:x.1.length<1099511627776)(h:T W (g (eJ 4 x)) (K (.i (jm 4 x)))):T W L (aL (ah r) 4 K):=J0 hl 4 (by decide) h
def xQ[i:Lc (rd r) L x g](hl:x.1.length<1099511627776)(h:T W (g (eJ 8 x)) (K (.i (jm 8 x)))):T W L (aL (ah r) 8 K):=J0 hl 8 (by decide) h
def zP(x:List UInt8×Bool):Nat:=if x.2=true then 0 else La x.1
def sW(m:Nat)(x:List UInt8×Bool):(eJ m x).1.length<=x.1.length:=by
 unfold eJ;split
 ·exact aF _
 ·simp
def rvw(m:Nat)(x:List UInt8×Bool):List UInt8:=if x.2=true\/x.1.length<m then[] else x.1.take m
def abZ[i:Lc (rd r) L x g](m:Nat)(h:T W (g (eJ m x)) (K (.s (bs (rvw m x))))):T W L (fo (ah r) (m:Int) K):=λw hs=>by
 obtain⟨k,hk,e⟩:=i.at_;refine Gv hs (show L[k]?=some (DH r (bs x.1) x.2) from hk) λw' h'=>?_;obtain⟨l,t⟩:=x;unfold eJ rvw at h;dsimp only at h h'⊢;by_cases hc:t=true\/l.length<m
 ·rw[ai hc,ai hc] at h;have et:sn (bs l) t m=true:=by
   unfold sn;rcases hc with h1|h1
   ·rw[h1];rfl
   ·rw[cf,aw (by omega)];simp
  unfold DI yM at *;rw[et] at h'⊢;exact h w' (by rw[e];exact h')
 ·rw[af hc,af hc] at h;have ht:t=false:=by cases t<;>simp_all
  have et:sn (bs l) t m=false:=by
   unfold sn;rw[ht,cf,aq (by omega)];rfl
  unfold DI yM at *;rw[et,ak,o5] at h';rw[et,ak,o7];exact h w' (by rw[e];exact h')
def Xa(x:List UInt8×Bool):La (rvw 16 x)=zP x:=by
 unfold zP rvw La;obtain⟨l,t⟩:=x;cases t with
 |true=>rfl
 |false=>
  dsimp only;by_cases h2:l.length<16
  ·have e:(if false=true\/l.length<16 then([]:List UInt8) else l.take 16)=[]:=ai (Or.inr h2);rw[e];simp[h2]
  ·have e:(if false=true\/l.length<16 then([]:List UInt8) else l.take 16)=l.take 16:=af (by simp;omega);rw[e,xV,aC,af (by omega),af (by decide),af h2];rfl
def JZ[i:Lc (rd r) L x g](hl:x.1.length<1099511627776)(h:T W (g (eJ 16 x)) (K (.agg ⟨nm (zP x)⟩))):T W L (cV (ah r) K):=by
 unfold cV;apply ws;intros;apply abZ 16;have hr:(rvw 16 x).length<1099511627776:=by unfold rvw;split<;>simp;omega
 repeat' first|apply ws;intros|apply wb|refine ME hr ?_
 rw[Xa];exact T.dp h
def xO[i:Lc (rd r) L x g](h:T W L (K (.b x.2))):T W L (cF (ah r) K):=λw hs=>by
 obtain⟨k,hk,e⟩:=i.at_;exact FH hs (show L[k]?=some (DH r (bs x.1) x.2) from hk) (h w hs)
def OJ[i:Lc (rd r) L x g](h:T W L (K (.b (!x.2&&decide (x.1=[]))))):T W L (ky (ah r) K):=λw hs=>by
 obtain⟨k,hk,e⟩:=i.at_;exact MF hs (show L[k]?=some (DH r (bs x.1) x.2) from hk) (h w hs)
def SR{α:Type}{P:α->HP}{a:α}{f:α->LH}[i:Lc P L a f](h:∀R,(∀y Y,T W (f y) Y->T W (P y::R) Y)->T W (P a::R) X):T W L X:=λw hs=>by
 obtain⟨k,hk,e⟩:=i.at_;refine h (L.eraseIdx k) (λy Y hy w' h'=>hy w' ?_) w (hs.focus hk);rw[e];exact St.rH h' hk
def Yz[i:Lc (rd r) L x g](h:T W L (K (.i (if x.2=true then 0 else(x.1.length:Int))))):T W L (qn (ah r) K):=by
 unfold qn;simp only[D7,gY,aD,Option.isNone_some,dX];intro w hs;obtain⟨k,hk,e⟩:=i.at_;apply cX hs (show L[k]?=some (Sep.pt r [.s (bs x.1),.b x.2]) from hk) rfl;rw[Sy];cases hx:x.2 with
 |true=>rw[kZ];rw[hx,ai rfl] at h;exact h w hs
 |false=>
  rw[dX];apply cX hs (show L[k]?=some (Sep.pt r [.s (bs x.1),.b x.2]) from hk) rfl;rw[Sx];rw[hx,af (by decide)] at h;exact h w hs
variable {p:Nat} {l:List UInt8} {q:List UInt8->LH}
def JU[i:Lc (buf p) L l q](hl:l.length<1099511627776)(m:Nat)(hm:1<=m/\m<=8){n:Int}(h:T W (q (l++le .i64 m n)) (K (.tuple ⟨[]⟩))):T W L (bu (ah p) (m:Int) n K):=λw hs=>by
 obtain⟨k,hk,e⟩:=i.at_;refine kA hs hk hl λw' h'=>h w' ?_;have em:min2 (max2 (m:Int) 1) 8=((m:Nat):Int):=by unfold min2 max2;split<;>split<;>omega
 rw[em,ak] at h';rw[e];exact h'
def r9[i:Lc (buf p) L l q](hl:l.length<1099511627776){n:Int}(h:T W (q (l++le .i64 1 n)) (K (.tuple ⟨[]⟩))):T W L (bu (ah p) 1 n K):=JU hl 1 (by decide) h
def En[i:Lc (buf p) L l q](hl:l.length<1099511627776){n:Int}(h:T W (q (l++le .i64 2 n)) (K (.tuple ⟨[]⟩))):T W L (bu (ah p) 2 n K):=JU hl 2 (by decide) h
def Qs[i:Lc (buf p) L l q](hl:l.length<1099511627776){n:Int}(h:T W (q (l++le .i64 4 n)) (K (.tuple ⟨[]⟩))):T W L (bu (ah p) 4 n K):=JU hl 4 (by decide) h
def zt[i:Lc (buf p) L l q](hl:l.length<1099511627776){n:Int}(h:T W (q (l++le .i64 8 n)) (K (.tuple ⟨[]⟩))):T W L (bu (ah p) 8 n K):=JU hl 8 (by decide) h
def sQ[i:Lc (buf p) L l q](h:T W L (K (.s (bs l)))):T W L (dG (ah p) K):=λw hs=>by
 obtain⟨k,hk,e⟩:=i.at_;exact mZ hs hk (h w hs)
def acw[i:Lc (buf p) L l q](h:∀b c R,(∀l' b n c Y,n=l'.length->T W (q l') Y->T W (Sep.pt p [.l b n c]::own b n c 1 (l'.map vf)::R) Y)->T W (Sep.pt p [.l b l.length c]::own b l.length c 1 (l.map vf)::R) X):T W L X:=
 SR (P:=buf p) λR hc w hs=>by
  obtain⟨⟨b,c⟩,hs⟩:=hs.ex;exact h b c R (λl' b n c Y hn hy w h'=>hc l' Y hy w (by subst hn;exact St.qR (b,c) (St.join h'))) w hs.split
def JT[i:Lc (buf p) L l q](hl:l.length<1099511627776){n:Nat}(h:T W (q (l++nb n)) (K (.tuple ⟨[]⟩))):T W L (lZ (ah p) (nm n) K):=by
 unfold lZ;refine acw (p:=p) λb c R hc=>?_;simp only[D7]
 repeat' first|apply ws;intros|apply wb|first|refine YH ?_|refine S9 (by rw[cf,rN];omega) λ_ _=>?_
 have e:l.map vf++strCells (bs (nb n))=(l++nb n).map vf:=by rw[cU];rfl
 rw[e];exact T.drop (hc _ _ _ _ _ (by rw[au,cf]) h)
def Yx[i:Lc (buf p) L l q](hl:l.length<1099511627776){b:Bool}(h:T W (q (l++[if b then 1 else 0])) (K (.tuple ⟨[]⟩))):T W L (qm (ah p) b K):=by
 unfold qm;cases b with
 |true=>rw[kZ];refine r9 hl (B9 ?_);exact h
 |false=>rw[dX];refine r9 hl (B9 ?_);exact h
end
end Go.Up
namespace Go.Up
open Go.Sep Go.Den Go.Md
def Hj{p:Int->Prop}(n:Nat)(h:∀f:Fin n,p (f.val:Int)){f:Int}(h0:0<=f)(h1:f<n):p f:=by
 have:=h ⟨f.toNat,by omega⟩;simp only[Int.toNat_of_nonneg h0] at this;exact this
section
variable {f:Int}
def Mq(h0:0<=f)(h1:f<256):de .i64 .and f 2=0↔ ¬(has f 2):=Hj (p:=λf=>de .i64 .and f 2=0↔ ¬(has f 2)) 256 (by decide+kernel) h0 h1
def Mp(h0:0<=f)(h1:f<256):de .i64 .and f 4=0↔ ¬(has f 4):=Hj (p:=λf=>de .i64 .and f 4=0↔ ¬(has f 4)) 256 (by decide+kernel) h0 h1
def U0(h0:0<=f)(h1:f<256):de .i64 .and f 8=0↔ ¬(has f 8):=Hj (p:=λf=>de .i64 .and f 8=0↔ ¬(has f 8)) 256 (by decide+kernel) h0 h1
def abR(h0:0<=f)(h1:f<256):de .i64 .and f 16=0↔ ¬(has f 16):=Hj (p:=λf=>de .i64 .and f 16=0↔ ¬(has f 16)) 256 (by decide+kernel) h0 h1
def abQ(h0:0<=f)(h1:f<256):de .i64 .and f 32=0↔ ¬(has f 32):=Hj (p:=λf=>de .i64 .and f 32=0↔ ¬(has f 32)) 256 (by decide+kernel) h0 h1
def U1(h0:0<=f)(h1:f<256):de .i64 .and f 64=0↔ ¬(has f 64):=Hj (p:=λf=>de .i64 .and f 64=0↔ ¬(has f 64)) 256 (by decide+kernel) h0 h1
def Qn(h0:0<=f)(h1:f<256):de .i64 .and f 128=0↔ ¬(has f 128):=Hj (p:=λf=>de .i64 .and f 128=0↔ ¬(has f 128)) 256 (by decide+kernel) h0 h1
def ZQ(h0:0<=f)(h1:f<256):de .i64 .and f 12=0↔ ¬(jM f):=Hj (p:=λf=>de .i64 .and f 12=0↔ ¬(jM f)) 256 (by decide+kernel) h0 h1
def aeJ(h0:0<=f)(h1:f<256):de .i64 .and f 48=0↔ ¬(has f 16\/has f 32):=Hj (p:=λf=>de .i64 .and f 48=0↔ ¬(has f 16\/has f 32)) 256 (by decide+kernel) h0 h1
def aeK(h0:0<=f)(h1:f<256):de .i64 .and f 6=6↔(has f 2/\has f 4):=Hj (p:=λf=>de .i64 .and f 6=6↔(has f 2/\has f 4)) 256 (by decide+kernel) h0 h1
def ahZ(h0:0<=f)(h1:f<256):de .i64 .and f 240=0↔ ¬(16<=f):=Hj (p:=λf=>de .i64 .and f 240=0↔ ¬(16<=f)) 256 (by decide+kernel) h0 h1
def ah0(h0:0<=f)(h1:f<256):de .i64 .and f 192=0↔(f<64):=Hj (p:=λf=>de .i64 .and f 192=0↔(f<64)) 256 (by decide+kernel) h0 h1
def ZP(h0:0<=f)(h1:f<256):de .i64 .andNot f 1=f/2* 2:=Hj (p:=λf=>de .i64 .andNot f 1=f/2* 2) 256 (by decide+kernel) h0 h1
def ZO(h0:0<=f)(h1:f<16):de .i64 .andNot f 8=f%8:=Hj (p:=λf=>de .i64 .andNot f 8=f%8) 16 (by decide+kernel) h0 h1
def aeH(h0:0<=f)(h1:f<16):de .i64 .or f 8=f%8+8:=Hj (p:=λf=>de .i64 .or f 8=f%8+8) 16 (by decide+kernel) h0 h1
def ZR(h0:0<=f)(h1:f<256):de .i64 .and f 6=f/2%4* 2:=Hj (p:=λf=>de .i64 .and f 6=f/2%4* 2) 256 (by decide+kernel) h0 h1
def u2(n:Int):Prop:= -9223372036854775808<=n/\n<=9223372036854775807
def abP(h:u2 f):(de .i64 .andNot f 7!=0)=decide (f<0\/7<f):=by
 have key:∀x:BitVec 64,(x&&&~~~(BitVec.ofInt 64 7))=0#64↔x.toNat<8:=λx=>by
  constructor
  ·intro hx;refine Nat.lt_pow_two_of_testBit (n:=3) _ λi hi=>?_;have:=congrArg (λy=>y.getLsbD i) hx;by_cases afn:i<64
   ·simp only[BitVec.getLsbD_and,BitVec.getLsbD_not,BitVec.getLsbD_zero,afn,decide_true,dI] at this;have h7:(BitVec.ofInt 64 7).getLsbD i=false:=by
     have:(BitVec.ofInt 64 7).toNat=7:=rfl;show Nat.testBit (BitVec.ofInt 64 7).toNat i=false;rw[this];exact Nat.testBit_lt_two_pow (Nat.lt_of_lt_of_le (by decide:7<2^3) (gM (by decide) hi))
    rw[h7] at this;simpa [BitVec.getLsbD] using this
   ·exact Nat.testBit_lt_two_pow (Nat.lt_of_lt_of_le x.isLt (gM (by decide) (by omega)))
  ·intro hx;have hx':x=BitVec.ofNat 64 x.toNat:=by simp
   rw[hx'];generalize x.toNat=m at hx
   match m,hx with
   |0,_|1,_|2,_|3,_|4,_|5,_|6,_|7,_=>rfl
 unfold u2 at h;unfold de;dsimp only;show(aa.wrap (((BitVec.ofInt 64 f&&&~~~(BitVec.ofInt 64 7)).toNat:Nat):Int)!=0)=_;have hw:∀y:BitVec 64,(aa.wrap ((y.toNat:Nat):Int)!=0)=decide (y≠0#64):=λy=>by
  have hy:=y.isLt;have:aa.wrap ((y.toNat:Nat):Int)=0↔y=0#64:=by
   constructor
   ·intro h0;apply BitVec.eq_of_toNat_eq;simp[IntKind.wrap,IntKind.bits,IntKind.signed] at h0;simp;split at h0<;>omega
   ·intro h0;subst h0;rfl
  by_cases h0:y=0#64
  ·rw[aq (by simpa using h0)];simp[this.2 h0]
  ·rw[aw h0];have: ¬aa.wrap ((y.toNat:Nat):Int)=0:=λhh=>h0 (this.1 hh);simpa using this
 rw[hw,decide_eq_decide,ne_eq,key];simp only[BitVec.toNat_ofInt];omega
def aeI(h:u2 f):de .i64 .andNot f 7=0↔ ¬(f<0\/7<f):=by
 have:=abP h;by_cases h1:f<0\/7<f
 ·rw[aw h1] at this;simpa [h1] using this
 ·rw[aq h1] at this;simpa [h1] using this
end
end Go.Up
namespace Go.Up
open Go.Sep Go.Den Go.RowKit Go.Prog Go.Md
abbrev cx:=Go.Md.cx
abbrev bN:=Go.Md.bN
abbrev cr:=Go.Md.cr
def aO(a:bN):LV:=nm a.id++(nm a.dp++(nm a.dq++(nm a.cp++(nm a.cq++[.i a.bF,.i a.code,.i a.ao,.i a.ay]))))
def aM(t:cx):LV:=nm t.id++(nm t.bC++(nm t.aU++(nm t.aT++(nm t.pending++[.i t.cA,.i t.bF,.i t.code,.i t.ao,.i t.ay,.i t.jO]))))
def bM(k:cr):LV:=aM k.asked++(aM k.move++[.i k.fate])
def zz{cs:LV}{o n:Nat}(h0:cs[o+0]?=(nm n)[0]?)(h1:cs[o+1]?=(nm n)[1]?):(nm n).length=2/\∀j v,(nm n)[j]?=some v->cs[o+j]?=some v:=⟨rfl,λj v h=>by
 match j with
 |0=>rw[h0];exact h
 |1=>rw[h1];exact h
 |j+2=>simp[nm] at h⟩
section
variable {a b:bN} {t u:cx} {k:cr} {n:Nat} {i:Int}
instance:Sub (aO a) 0 2 (nm a.id):=⟨zz rfl rfl⟩
instance:Sub (aO a) 2 2 (nm a.dp):=⟨zz rfl rfl⟩
instance:Sub (aO a) 4 2 (nm a.dq):=⟨zz rfl rfl⟩
instance:Sub (aO a) 6 2 (nm a.cp):=⟨zz rfl rfl⟩
instance:Sub (aO a) 8 2 (nm a.cq):=⟨zz rfl rfl⟩
instance:Sub (aO a) 0 14 (aO a):=⟨rfl,λj v h=>by rw[aD];exact h⟩
instance:Sub (aM t) 0 2 (nm t.id):=⟨zz rfl rfl⟩
instance:Sub (aM t) 2 2 (nm t.bC):=⟨zz rfl rfl⟩
instance:Sub (aM t) 4 2 (nm t.aU):=⟨zz rfl rfl⟩
instance:Sub (aM t) 6 2 (nm t.aT):=⟨zz rfl rfl⟩
instance:Sub (aM t) 8 2 (nm t.pending):=⟨zz rfl rfl⟩
instance:Sub (aM t) 0 16 (aM t):=⟨rfl,λj v h=>by rw[aD];exact h⟩
instance:Sub (bM k) 0 33 (bM k):=⟨rfl,λj v h=>by rw[aD];exact h⟩
instance:Sub (bM k) 0 16 (aM k.asked):=⟨rfl,λj v h=>by rw[aD];unfold bM;rw[cO (av.1 h).1];exact h⟩
instance:Sub (bM k) 16 16 (aM k.move):=⟨rfl,λj v h=>by
 have hl:(aM k.asked).length=16:=rfl
 unfold bM
 rw[iJ (by omega),hl,show 16+j-16=j by omega,cO (av.1 h).1];exact h⟩
def ph{xs ys:LV}(h1:∀v∈xs,v.oneCell'=true)(h2:∀v∈ys,v.oneCell'=true):∀v∈xs++ys,v.oneCell'=true:=λv h=>(dY.1 h).elim (h1 v) (h2 v)
def iW(a:bN):∀v∈aO a,v.oneCell'=true:=ph (oJ _) (ph (oJ _) (ph (oJ _) (ph (oJ _) (ph (oJ _) λv h=>by simp at h;rcases h with rfl|rfl|rfl|rfl<;>rfl))))
def py(t:cx):∀v∈aM t,v.oneCell'=true:=ph (oJ _) (ph (oJ _) (ph (oJ _) (ph (oJ _) (ph (oJ _) λv h=>by simp at h;rcases h with rfl|rfl|rfl|rfl|rfl|rfl<;>rfl))))
def mW(k:cr):∀v∈bM k,v.oneCell'=true:=ph (py _) (ph (py _) λv h=>by simp at h;subst h;rfl)
instance:Wr (aO a) 2 (nm n) (aO {a with dp:=n}):=⟨rfl,by show 4<=14;decide,oJ n⟩
instance:Wr (aO a) 4 (nm n) (aO {a with dq:=n}):=⟨rfl,by show 6<=14;decide,oJ n⟩
instance:Wr (aO a) 6 (nm n) (aO {a with cp:=n}):=⟨rfl,by show 8<=14;decide,oJ n⟩
instance:Wr (aO a) 8 (nm n) (aO {a with cq:=n}):=⟨rfl,by show 10<=14;decide,oJ n⟩
instance:Wr (aO a) 12 [.i i] (aO {a with ao:=i}):=⟨rfl,by show 13<=14;decide,λv h=>by simp at h;subst h;rfl⟩
instance:Wr (aO a) 13 [.i i] (aO {a with ay:=i}):=⟨rfl,by show 14<=14;decide,λv h=>by simp at h;subst h;rfl⟩
instance:Wr (aO a) 0 (aO b) (aO b):=⟨rfl,aF _,iW b⟩
instance{x1 x2 x3 x4 x5 x6 x7 x8 x9 EC EB EA Ez ID:Value}:Wr [x1,x2,x3,x4,x5,x6,x7,x8,x9,EC,EB,EA,Ez,ID] 0 (aO b) (aO b):=⟨rfl,aF _,iW b⟩
instance:Wr (aM t) 6 (nm n) (aM {t with aT:=n}):=⟨rfl,by show 8<=16;decide,oJ n⟩
instance:Wr (aM t) 11 [.i i] (aM {t with bF:=i}):=⟨rfl,by show 12<=16;decide,λv h=>by simp at h;subst h;rfl⟩
instance:Wr (aM t) 12 [.i i] (aM {t with code:=i}):=⟨rfl,by show 13<=16;decide,λv h=>by simp at h;subst h;rfl⟩
instance:Wr (aM t) 13 [.i i] (aM {t with ao:=i}):=⟨rfl,by show 14<=16;decide,λv h=>by simp at h;subst h;rfl⟩
instance:Wr (aM t) 14 [.i i] (aM {t with ay:=i}):=⟨rfl,by show 15<=16;decide,λv h=>by simp at h;subst h;rfl⟩
instance:Wr (aM t) 15 [.i i] (aM {t with jO:=i}):=⟨rfl,by show 16<=16;decide,λv h=>by simp at h;subst h;rfl⟩
instance{x1 x2 x3 x4 x5 x6 x7 x8 x9 EC EB EA Ez ID M5 M4:Value}:Wr [x1,x2,x3,x4,x5,x6,x7,x8,x9,EC,EB,EA,Ez,ID,M5,M4] 0 (aM u) (aM u):=⟨rfl,aF _,py u⟩
end
section
variable {x1 x2 x3 x4 x5 x6 x7 x8 x9 EC EB EA Ez ID M5 M4:Value} {i d e c p:Nat} {l o f s b m:Int}
instance:Wr [x1,x2,x3,x4,x5,x6,x7,x8,x9,EC,EB,EA,Ez,ID] 0 (nm i++(nm d++(nm e++(nm c++(nm p++[.i l,.i o,.i f,.i s]))))) (aO ⟨i,d,e,c,p,l,o,f,s⟩):=⟨rfl,aF _,iW ⟨i,d,e,c,p,l,o,f,s⟩⟩
instance:Wr [x1,x2,x3,x4,x5,x6,x7,x8,x9,EC,EB,EA,Ez,ID,M5,M4] 0 (nm i++(nm d++(nm e++(nm c++(nm p++[.i l,.i o,.i f,.i s,.i b,.i m]))))) (aM ⟨i,d,e,c,p,l,o,f,s,b,m⟩):=⟨rfl,aF _,py ⟨i,d,e,c,p,l,o,f,s,b,m⟩⟩
end
def zA:bN:=⟨0,0,0,0,0,0,0,0,0⟩
def zT:cx:=⟨0,0,0,0,0,0,0,0,0,0,0⟩
section
variable {x1 x2 x3 x4 x5 x6 x7 x8 x9 EC EB EA Ez ID M5 M4:Value} {a:bN} {t:cx}
instance:Wr [x1,x2,x3,x4,x5,x6,x7,x8,x9,EC,EB,EA,Ez,ID] 0 [.u 0,.u 0,.u 0,.u 0,.u 0,.u 0,.u 0,.u 0,.u 0,.u 0,.i 0,.i 0,.i 0,.i 0] (aO zA):=⟨rfl,aF _,iW zA⟩
instance:Wr [x1,x2,x3,x4,x5,x6,x7,x8,x9,EC,EB,EA,Ez,ID,M5,M4] 0 [.u 0,.u 0,.u 0,.u 0,.u 0,.u 0,.u 0,.u 0,.u 0,.u 0,.i 0,.i 0,.i 0,.i 0,.i 0,.i 0] (aM zT):=⟨rfl,aF _,py zT⟩
end
def aco{W:World}{L:LH}{X:WK}{r o:Nat}{a:bN}{cs:LV}{f:LV->LH}[i:Lc (Sep.pt r) L cs f][s:Sub cs o 14 (aO a)](h:T W L X):T W L (kp ⟨r,o,none⟩ (aO a) X):=S4 (n:=14) h
def acm{W:World}{L:LH}{X:WK}{r o:Nat}{a:cx}{cs:LV}{f:LV->LH}[i:Lc (Sep.pt r) L cs f][s:Sub cs o 16 (aM a)](h:T W L X):T W L (kp ⟨r,o,none⟩ (aM a) X):=S4 (n:=16) h
section
variable {L:LH} {X:WK} {r o:Nat} {a:bN} {b:cx} {k:cr} {cs:LV} {f:LV->LH}
instance[i:Lc (Sep.pt r) L cs f][s:Sub cs o 14 (aO a)]:Wk L (kp ⟨r,o,none⟩ (aO a) X) L X:=⟨λ_ h=>aco h⟩
instance[i:Lc (Sep.pt r) L cs f][s:Sub cs o 16 (aM b)]:Wk L (kp ⟨r,o,none⟩ (aM b) X) L X:=⟨λ_ h=>acm h⟩
instance:Ln (aO a) 14:=⟨rfl⟩
instance:Ln (aM b) 16:=⟨rfl⟩
instance:Ln (bM k) 33:=⟨rfl⟩
instance:Gt (aO a) 10 (.i a.bF):=⟨rfl⟩
instance:Gt (aO a) 11 (.i a.code):=⟨rfl⟩
instance:Gt (aO a) 12 (.i a.ao):=⟨rfl⟩
instance:Gt (aO a) 13 (.i a.ay):=⟨rfl⟩
instance:Gt (aM b) 10 (.i b.cA):=⟨rfl⟩
instance:Gt (aM b) 11 (.i b.bF):=⟨rfl⟩
instance:Gt (aM b) 12 (.i b.code):=⟨rfl⟩
instance:Gt (aM b) 13 (.i b.ao):=⟨rfl⟩
instance:Gt (aM b) 14 (.i b.ay):=⟨rfl⟩
instance:Gt (aM b) 15 (.i b.jO):=⟨rfl⟩
instance:Gt (bM k) 26 (.i k.move.cA):=⟨rfl⟩
instance:Gt (bM k) 30 (.i k.move.ay):=⟨rfl⟩
instance:Gt (bM k) 31 (.i k.move.jO):=⟨rfl⟩
instance:Gt (bM k) 32 (.i k.fate):=⟨rfl⟩
end
structure qi(W:World):Prop where
 Xe:∀j v,(nm (bJ-1))[j]?=some v->W.cell? ((ad N.tE 0).add j)=some v
 told:∀j v,([.i 0,.i 0,.i 27,.i 28,.i 29]:LV)[j]?=some v->W.cell? ((ad N.yW 0).add j)=some v
structure yi(a:bN):Prop where
 id:a.id<bJ
 dp:a.dp<bJ
 dq:a.dq<bJ
 cp:a.cp<bJ
 cq:a.cq<bJ
 bF:u2 a.bF
 code:u2 a.code
 ao:u2 a.ao
 ay:u2 a.ay
structure yf(t:cx):Prop where
 id:t.id<bJ
 bC:t.bC<bJ
 aU:t.aU<bJ
 aT:t.aT<bJ
 pending:t.pending<bJ
 cA:u2 t.cA
 bF:u2 t.bF
 code:u2 t.code
 ao:u2 t.ao
 ay:u2 t.ay
 jO:u2 t.jO
section
variable {W:World} {L:LH} {K:VK} {a b:bN} {t u:cx}
def XV(h:T W L (K (.b (decide (a.dp=0/\a.dq=0/\a.cp=0/\a.cq=0/\a.ay=0))))):T W L (me (aO a) K):=by
 unfold me me.j1 me.j2
 repeat' first|apply ws;intros|apply wb|first|refine u1 ?_|apply db<;>intro h1
 all_goals (refine T.fin (T.dp h) ?_;congr 1;first|rfl|(simp only[decide_eq_true_eq,decide_eq_false_iff_not,cG] at * <;>simp[*]<;>rfl))
def Va(G:qi W)(ha:yi a)(h:T W L (K (.i (tH a)))):T W L (qg (aO a) K):=by
 unfold qg qg.j1;have hf:=ha.ao
 repeat' first|apply ws;intros|apply wb|first|refine u1 ?_|refine XV ?_|refine O4 ⟨yP _,G.Xe⟩ ?_|apply db<;>intro h1
 all_goals try simp only[aeI hf,bz] at *
 all_goals (apply T.fin (T.dp h);congr 1)
 ·rw[tH,ai h1]
 all_goals
  all_goals try simp only[aeK (show 0<=a.ao by omega) (show a.ao<256 by omega),bz] at *
  unfold tH has at *
  repeat' split
  all_goals first|rfl|omega
end
def m8(a:bN):Prop:=(0<=a.bF/\a.bF<=4294967295)/\(0<=a.code/\a.code<=65535)/\0<=a.ao/\a.ao<=65535
instance(a:bN):Decidable (m8 a):=by unfold m8;infer_instance
def kB(t:cx):Prop:=(0<=t.cA/\t.cA<=4294967295)/\(0<=t.bF/\t.bF<=4294967295)/\(0<=t.code/\t.code<=65535)/\0<=t.ao/\t.ao<=65535
instance(t:cx):Decidable (kB t):=by unfold kB;infer_instance
def jl(a:bN):List UInt8:=[a.id,a.dp,a.dq,a.cp,a.cq].flatMap nb++le .i64 4 a.bF++le .i64 2 a.code++le .i64 2 a.ao++le .i64 8 a.ay
def oL(t:cx):List UInt8:=[t.id,t.bC,t.aU,t.aT,t.pending].flatMap nb++le .i64 4 t.cA++le .i64 4 t.bF++le .i64 2 t.code++le .i64 2 t.ao++le .i64 8 t.ay++le .i64 8 t.jO
def xk:∀l:List Nat,(l.flatMap nb).length=16* l.length
 |[]=>rfl
 |x::l=>by rw[iP,au,rN,xk l,aW];omega
def nD(a:bN):(jl a).length=96:=by simp only[jl,au,xk,aP];rfl
def oK(t:cx):(oL t).length=108:=by simp only[oL,au,xk,aP];rfl
section
variable {W:World} {L:LH} {K:VK} {a b:bN} {t u:cx} {p:Nat} {l:List UInt8} {q:List UInt8->LH}
def JS(h:T W L (K (.b (decide (m8 a))))):T W L (jt (aO a) K):=by
 unfold jt jt.j1 jt.j2 jt.j3
 repeat' first|apply ws;intros|apply wb|apply db<;>intro h1
 all_goals (apply T.fin (T.dp h);congr 1;(rw[bZ];(try simp only[bz,false_iff,true_iff] at *)<;>(try simp only[m8,bp] at *)<;>omega))
def IN(h:T W L (K (.b (decide (kB t))))):T W L (fX (aM t) K):=by
 unfold fX fX.j1 fX.j2 fX.j3 fX.j4 fX.j5
 repeat' first|apply ws;intros|apply wb|apply db<;>intro h1
 all_goals (apply T.fin (T.dp h);congr 1;(rw[bZ];(try simp only[bz,false_iff,true_iff] at *)<;>(try simp only[kB,bp] at *)<;>omega))
def adL(x:List Nat)(i:Nat)(y:Nat)(h:x[i]?=some y):((x.flatMap nm).drop (i* 2)).take 2=nm y:=by
 apply oz;intro j;rw[sj];split
 ·rename_i hj;rw[lC];cases hv:(nm y)[j]? with
  |none=>have:=List.getElem?_eq_none_iff.1 hv;rw[yP] at this;omega
  |some v=>exact qP yP x i y h j v hv
 ·exact(pU (by rw[yP];omega)).symm
def U9[i:Lc (buf p) L l q](hg:m8 a)(hl:l.length<549755813888)(h:T W (q (l++jl a)) (K (.tuple ⟨[]⟩))):T W L (rZ (ah p) (aO a) K):=by
 unfold rZ rZ.j1
 repeat' first|apply ws;intros|apply wb|refine JS ?_
 rw[aw hg,Bool.not_true,dX];apply ws;rename_i r;intro w hs;refine⟨λvs w=>∃i:Nat,i<=5/\vs=[.p (some (ad r 0)),.agg ⟨[a.id,a.dp,a.dq,a.cp,a.cq].flatMap nm⟩,.i (i:Int)]/\St W w (Sep.pt r (aO a)::q (l++([a.id,a.dp,a.dq,a.cp,a.cq].take i).flatMap nb)),
  λvs _=>match vs with|[_,_,.int _ j]=>5-j.toNat|_=>0,⟨0,aE _,rfl,by rw[og,List.flatMap_nil,bO,i.same];exact hs⟩,?_⟩
 rintro a1 cs8 n1 w2 ⟨j,hj,e,hs⟩;cases e
 refine T.at ?_ hs;have hq:=i.next;have hlen:(l++([a.id,a.dp,a.dq,a.cp,a.cq].take j).flatMap nb).length<1099511627776:=by rw[au,xk,aC];simp;omega
 apply fZ<;>intro h1
 ·have cj:j<5:=by omega
  have hx:[a.id,a.dp,a.dq,a.cp,a.cq][j]?=some ([a.id,a.dp,a.dq,a.cp,a.cq][j]'(by simpa using cj)):=aj _;have e5:=m9 j;have et:([a.id,a.dp,a.dq,a.cp,a.cq].take j).flatMap nb++nb ([a.id,a.dp,a.dq,a.cp,a.cq][j]'(by simpa using cj))=([a.id,a.dp,a.dq,a.cp,a.cq].take (j+1)).flatMap nb:=by
   rw[qA (by simpa using cj),gi];simp
  rw[ak,adL _ _ _ hx,e5]
  repeat' first|apply ws;intros|apply wb|first|refine dJ (by omega) ?_|refine JT hlen ?_
  rw[aH,et];refine T.drop λw3 h3=>⟨⟨j+1,cj,rfl,?_⟩,dn (by omega)⟩;exact h3
 ·have he:j=5:=by omega
  subst he;simp only[gY,aD];have e1:∀m:List UInt8,(l++m).length=l.length+m.length:=λm=>au;have e2:(([a.id,a.dp,a.dq,a.cp,a.cq].take 5).flatMap nb).length=80:=by rw[xk];rfl
  repeat' first|apply ws|apply wb|first|refine Qs (by simp only[au,aP,e2];omega) ?_|refine En (by simp only[au,aP,e2];omega) ?_|refine zt (by simp only[au,aP,e2];omega) ?_
  have e3:l++jl a=l++([a.id,a.dp,a.dq,a.cp,a.cq].take 5).flatMap nb++le .i64 4 a.bF++le .i64 2 a.code++le .i64 2 a.ao++le .i64 8 a.ay:=by
   unfold jl;simp only[aH];rfl
  rw[<-e3];exact T.dp h
def Nh[i:Lc (buf p) L l q](hg:kB t)(hl:l.length<549755813888)(h:T W (q (l++oL t)) (K (.tuple ⟨[]⟩))):T W L (qI (ah p) (aM t) K):=by
 unfold qI qI.j1
 repeat' first|apply ws;intros|apply wb|refine IN ?_
 rw[aw hg,Bool.not_true,dX];apply ws;rename_i r;intro w hs;refine⟨λvs w=>∃i:Nat,i<=5/\vs=[.p (some (ad r 0)),.agg ⟨[t.id,t.bC,t.aU,t.aT,t.pending].flatMap nm⟩,.i (i:Int)]/\St W w (Sep.pt r (aM t)::q (l++([t.id,t.bC,t.aU,t.aT,t.pending].take i).flatMap nb)),
  λvs _=>match vs with|[_,_,.int _ j]=>5-j.toNat|_=>0,⟨0,aE _,rfl,by rw[og,List.flatMap_nil,bO,i.same];exact hs⟩,?_⟩
 rintro a1 cs8 n1 w2 ⟨j,hj,e,hs⟩;cases e
 refine T.at ?_ hs;have hq:=i.next;have hlen:(l++([t.id,t.bC,t.aU,t.aT,t.pending].take j).flatMap nb).length<1099511627776:=by rw[au,xk,aC];simp;omega
 apply fZ<;>intro h1
 ·have cj:j<5:=by omega
  have hx:[t.id,t.bC,t.aU,t.aT,t.pending][j]?=some ([t.id,t.bC,t.aU,t.aT,t.pending][j]'(by simpa using cj)):=aj _;have e5:=m9 j;have et:([t.id,t.bC,t.aU,t.aT,t.pending].take j).flatMap nb++nb ([t.id,t.bC,t.aU,t.aT,t.pending][j]'(by simpa using cj))=([t.id,t.bC,t.aU,t.aT,t.pending].take (j+1)).flatMap nb:=by
   rw[qA (by simpa using cj),gi];simp
  rw[ak,adL _ _ _ hx,e5]
  repeat' first|apply ws;intros|apply wb|first|refine dJ (by omega) ?_|refine JT hlen ?_
  rw[aH,et];refine T.drop λw3 h3=>⟨⟨j+1,cj,rfl,?_⟩,dn (by omega)⟩;exact h3
 ·have he:j=5:=by omega
  subst he;simp only[gY,aD];have e2:(([t.id,t.bC,t.aU,t.aT,t.pending].take 5).flatMap nb).length=80:=by rw[xk];rfl
  repeat' first|apply ws|apply wb|first|refine Qs (by simp only[au,aP,e2];omega) ?_|refine En (by simp only[au,aP,e2];omega) ?_|refine zt (by simp only[au,aP,e2];omega) ?_
  have e3:l++oL t=l++([t.id,t.bC,t.aU,t.aT,t.pending].take 5).flatMap nb++le .i64 4 t.cA++le .i64 4 t.bF++le .i64 2 t.code++le .i64 2 t.ao++le .i64 8 t.ay++le .i64 8 t.jO:=by
   unfold oL;simp only[aH];rfl
  rw[<-e3];exact T.dp h
abbrev RS:=List UInt8×Bool
def yb(n:Nat)(x:RS):RS:=match n with|0=>x|n+1=>eJ 16 (yb n x)
def DJ(x:RS):RS:=eJ 8 (eJ 2 (eJ 2 (eJ 4 (yb 5 x))))
def DK(x:RS):bN:=if(DJ x).2=true then zA else
 ⟨zP x,zP (yb 1 x),zP (yb 2 x),zP (yb 3 x),zP (yb 4 x),jm 4 (yb 5 x),jm 2 (eJ 4 (yb 5 x)),jm 2 (eJ 2 (eJ 4 (yb 5 x))),jm 8 (eJ 2 (eJ 2 (eJ 4 (yb 5 x))))⟩
def D5(x:RS):RS:=eJ 8 (eJ 8 (eJ 2 (eJ 2 (eJ 4 (eJ 4 (yb 5 x))))))
def D6(x:RS):cx:=if(D5 x).2=true then zT else
 ⟨zP x,zP (yb 1 x),zP (yb 2 x),zP (yb 3 x),zP (yb 4 x),jm 4 (yb 5 x),jm 4 (eJ 4 (yb 5 x)),jm 2 (eJ 4 (eJ 4 (yb 5 x))),jm 2 (eJ 2 (eJ 4 (eJ 4 (yb 5 x)))),
  jm 8 (eJ 2 (eJ 2 (eJ 4 (eJ 4 (yb 5 x))))),jm 8 (eJ 8 (eJ 2 (eJ 2 (eJ 4 (eJ 4 (yb 5 x))))))⟩
variable {r:Nat} {x:RS} {g:RS->LH}
def pk{m:Nat}{x:RS}{B:Nat}(h:x.1.length<B):(eJ m x).1.length<B:=qk (sW m x) h
def U'[i:Lc (rd r) L x g](hl:x.1.length<1099511627776)(h:T W (g (DJ x)) (K (.agg ⟨aO (DK x)⟩))):T W L (nR (ah r) K):=by
 unfold nR;have hq:=i.next
 repeat' first|apply ws;intros|apply wb|first|refine JZ (by repeat (first|exact hl|apply pk)) ?_|refine Qw (by repeat (first|exact hl|apply pk)) ?_|refine Ep (by repeat (first|exact hl|apply pk)) ?_|refine xQ (by repeat (first|exact hl|apply pk)) ?_|refine xO ?_
 have e:eJ 8 (eJ 2 (eJ 2 (eJ 4 (eJ 16 (eJ 16 (eJ 16 (eJ 16 (eJ 16 x))))))))=DJ x:=rfl;rw[e];unfold DK at h;apply db<;>intro h1
 ·rw[ai h1] at h;apply ws;exact T.dp h
 ·rw[af (by rw[h1];decide)] at h;apply ws;exact T.dp h
def Ni[i:Lc (rd r) L x g](hl:x.1.length<1099511627776)(h:T W (g (D5 x)) (K (.agg ⟨aM (D6 x)⟩))):T W L (mP (ah r) K):=by
 unfold mP;have hq:=i.next
 repeat' first|apply ws;intros|apply wb|first|refine JZ (by repeat (first|exact hl|apply pk)) ?_|refine Qw (by repeat (first|exact hl|apply pk)) ?_|refine Ep (by repeat (first|exact hl|apply pk)) ?_|refine xQ (by repeat (first|exact hl|apply pk)) ?_|refine xO ?_
 have e:eJ 8 (eJ 8 (eJ 2 (eJ 2 (eJ 4 (eJ 4 (eJ 16 (eJ 16 (eJ 16 (eJ 16 (eJ 16 x))))))))))=D5 x:=rfl;rw[e];unfold D6 at h;apply db<;>intro h1
 ·rw[ai h1] at h;apply ws;exact T.dp h
 ·rw[af (by rw[h1];decide)] at h;apply ws;exact T.dp h
end
end Go.Up
namespace Go.Den
open Go.RowKit
def sH(P:Program)(fT:TypeId->Option (LV)):Nat->List Field->Option (LV)
 |_,[]=>some []
 |o,f::r=>bif (f.name != "_")&&ix f.offset o then
           match fT f.type with
           |some z=>bif (match P.info? f.type with|some i=>ix i.size z.length|none=>false) then
                     match sH P fT (o+z.length) r with
                     |some zr=>some (z++zr)
                     |none=>none
            else none
           |none=>none
  else none
def zZ(P:Program):Nat->TypeId->Option (LV)
 |0,_=>none
 |n+1,t=>match P.underlying t with
  |some (.int k)=>some [.int k 0]
  |some .bool=>some [.bool false]
  |some .string=>some [.string .empty]
  |some (.struct fs)=>bif P.stoodInHeld t then none else sH P (zZ P n) 0 fs.toList
  |_=>none
def toV(P:Program)(t:TypeId)(xs:LV):Value:=match P.underlying t with
 |some (.struct _)=>.agg ⟨xs⟩
 |_=>xs.headD undef
def pG:∀{zs xs:LV},o0 zs xs=true->xs.length=zs.length
 |[],[],_=>rfl
 |[],_::_,h=>by simp[o0] at h
 |_::_,[],h=>by simp[o0] at h
 |z::zs,x::xs,h=>by simp only[o0,dh] at h;simp[pG h.2]
def yX:∀{z zr xs:LV},o0 (z++zr) xs=true->∃a b,xs=a++b/\o0 z a=true/\o0 zr b=true
 |[],zr,xs,h=>⟨[],xs,rfl,rfl,h⟩
 |y::z,zr,[],h=>by simp[o0] at h
 |y::z,zr,x::xs,h=>by
  simp only[lH,o0,dh] at h;obtain⟨a,b,rfl,h1,h2⟩:=yX h.2;exact⟨x::a,b,rfl,by simp[o0,h.1,h1],h2⟩
def tF:∀{a b c d:LV},a.length=b.length->jf (a++c) (b++d)=(jf a b&&jf c d)
 |[],[],c,d,_=>by simp[jf]
 |[],_::_,_,_,h=>by simp at h
 |_::_,[],_,_,h=>by simp at h
 |x::a,y::b,c,d,h=>by
  simp only[lH,jf];rw[tF (by simpa using h),Bool.and_assoc]
def Qc{P:Program}:∀(n:Nat)(t:TypeId)(zs:LV),zZ P n t=some zs->∀(xs ys:LV),o0 zs xs=true->o0 zs ys=true->∀(d:Nat)(w:World),(Op.equalIn (d+2* n) t (toV P t xs) (toV P t ys)).run P w=.ok (jf xs ys) w
 |0,_,_,h=>by simp[zZ] at h
 |n+1,t,zs,h=>λxs ys hx hy d w=>by
  have hd:d+2* (n+1)=(d+2* n+1)+1:=by omega
  rw[hd];unfold zZ at h;unfold toV;generalize hu:P.underlying t=u at h;split at h
  ·cases h
   obtain⟨x,rfl⟩:=List.length_eq_one_iff.1 (pG hx);obtain⟨y,rfl⟩:=List.length_eq_one_iff.1 (pG hy)
   ·simp only[o0,Bool.and_true] at hx hy;cases x<;>simp[fits] at hx
    cases y<;>simp[fits] at hy
    subst hx hy;simp[run_equalIn_int w _ t _ _ _ _ hu,jf,AF]
  ·cases h
   obtain⟨x,rfl⟩:=List.length_eq_one_iff.1 (pG hx);obtain⟨y,rfl⟩:=List.length_eq_one_iff.1 (pG hy)
   ·simp only[o0,Bool.and_true] at hx hy;cases x<;>simp[fits] at hx
    cases y<;>simp[fits] at hy
    simp[run_equalIn_bool w _ t _ _ hu,jf,AF]
  ·cases h
   obtain⟨x,rfl⟩:=List.length_eq_one_iff.1 (pG hx);obtain⟨y,rfl⟩:=List.length_eq_one_iff.1 (pG hy)
   ·simp only[o0,Bool.and_true] at hx hy;cases x<;>simp[fits] at hx
    cases y<;>simp[fits] at hy
    simp[run_equalIn_string w _ t _ _ hu,jf,AF,pP]
  ·rename_i fs;cases hs:P.stoodInHeld t with
   |true=>rw[hs] at h;cases h
   |false=>
    rw[hs] at h;have BH:P.fieldsOf t=fs:=by simp[Program.fieldsOf,hu]
    show(Op.equalIn _ t (.agg ⟨xs⟩) (.agg ⟨ys⟩)).run P w=_;rw[run_equalIn_struct w _ t ⟨xs⟩ ⟨ys⟩ (by rw[BH];exact hu) hs,BH];have key:∀(l:List Field)(o:Nat)(zs:LV)(pre Q2 xs ys:LV),pre.length=o->Q2.length=o->sH P (zZ P n) o l=some zs->o0 zs xs=true->o0 zs ys=true->
                                                              (Op.eqFields (d+2* n+1) ⟨pre++xs⟩ ⟨Q2++ys⟩ l).run P w=.ok (jf xs ys) w:=by
     intro l
     induction l with
     |nil=>
      intro o zs pre Q2 xs ys h1 h2 h3 hx hy;simp only[sH,bE.injEq] at h3;subst h3;cases xs<;>cases ys<;>simp[o0] at hx hy
      simp[Op.eqFields,jf]
     |cons f l ih=>
      intro o zs pre Q2 xs ys h1 h2 h3 hx hy;unfold sH at h3;cases hc:((f.name != "_")&&ix f.offset o) with
      |false=>rw[hc] at h3;cases h3
      |true=>
       rw[hc] at h3;simp only[dh] at hc;have hn':f.name≠ "_":=by simpa using hc.1
       have ho':f.offset=o:=eH hc.2;simp only[cond_true] at h3;cases hz:zZ P n f.type with
       |none=>rw[hz] at h3;cases h3
       |some z=>
        rw[hz] at h3;dsimp only at h3;cases hi:P.info? f.type with
        |none=>rw[hi] at h3;cases h3
        |some i=>
         rw[hi] at h3;dsimp only at h3;cases qX:ix i.size z.length with
         |false=>rw[qX] at h3;cases h3
         |true=>
          rw[qX] at h3;have qX:=eH qX;simp only[cond_true] at h3;cases hr:sH P (zZ P n) (o+z.length) l with
          |none=>rw[hr] at h3;cases h3
          |some zr=>
           rw[hr] at h3;simp only[bE.injEq] at h3;subst h3;obtain⟨x1,x2,rfl,a1,a2⟩:=yX hx;obtain⟨y1,y2,rfl,b1,b2⟩:=yX hy;have lx:=pG a1;have ly:=pG b1;have HZ:∀(p x1 x2:LV),p.length=o->o0 z x1=true->(part f.type (⟨p++(x1++x2)⟩:Array Value) f.offset).run P w=.ok (toV P f.type x1) w:=by
            intro p x1 x2 hp a1;have lx:=pG a1;cases n with
            |zero=>simp[zZ] at hz
            |succ m=>
             unfold zZ at hz;unfold toV;generalize Sl:P.underlying f.type=fu at hz;have Ke:∀v:Value,x1=[v]->tP (fu.getD (.int .i64))=false->fu.isSome=true->(part f.type (⟨p++(x1++x2)⟩:Array Value) f.offset).run P w=.ok v w:=by
              intro v hv hg ac4;subst hv;cases fu with
              |none=>cases ac4
              |some fd=>
               simp only[dz] at hg;cases fd<;>simp[tP] at hg<;>simp[part,isAgg,underlying,Sl,ho',hp]
             split at hz
             ·cases hz
              match x1,a1,lx,Ke with
              |[v],_,_,Ke=>exact Ke v rfl rfl rfl
             ·cases hz
              match x1,a1,lx,Ke with
              |[v],_,_,Ke=>exact Ke v rfl rfl rfl
             ·cases hz
              match x1,a1,lx,Ke with
              |[v],_,_,Ke=>exact Ke v rfl rfl rfl
             ·simp only[part,isAgg,underlying,sizeOf,typeInfo,Sem.run_bind,run_program,Result.andThen_ok,Sl,hi,Sem.run_pure,if_true,ho'];have:(⟨p++(x1++x2)⟩:Array Value).extract o (o+i.size)=⟨x1⟩:=by
               apply uF;rw[Array.toList_extract];show List.extract (p++(x1++x2)) o (o+i.size)=x1;rw[List.extract_eq_take_drop,<-hp,List.drop_left' rfl,qX,show p.length+z.length-p.length=x1.length by omega,List.take_left' rfl]
              rw[this]
             ·cases hz
           have ihn:=Qc n f.type z hz x1 y1 a1 b1 (d+1) w;have VH:=ih (o+z.length) zr (pre++x1) (Q2++y1) x2 y2 (by rw[au,h1,lx]) (by rw[au,h2,ly]) hr a2 b2;rw[show d+1+2* n=d+2* n+1 by omega] at ihn;rw[aH,aH] at VH;rw[Op.eqFields];simp only[ai hn',Sem.run_bind,HZ pre x1 x2 h1 a1,HZ Q2 y1 y2 h2 b1,ihn,Result.andThen_ok];rw[tF (by rw[lx,ly])];cases jf x1 y1
           ·simp
           ·simpa using VH
    have:=key fs.toList 0 zs [] [] xs ys rfl rfl (by simpa using h) hx hy;simpa using this
  ·cases h
def sg.nil{P:Program}:sg P []:=λt zs h=>by simp[Ij] at h
def sg.cons{P:Program}{E:Vw}{t:Nat}{z:LV}{fs:Array Field}(h1:P.eqGuardType P.depth t=false)(h2:zZ P 4 t=some z)(h3:P.underlying t=some (.struct fs))(h:sg P E):sg P ((t,z)::E):=λu zs hu=>by
 unfold Ij at hu;cases hb:ix t u with
 |true=>
  rw[hb] at hu;have:=eH hb;subst this;cases hu
  refine⟨h1,λxs ys hx hy w=>?_⟩;have:=Qc 4 t z h2 xs ys hx hy (Op.maxDepth-8) w;have e:Op.maxDepth-8+2* 4=Op.maxDepth:=by decide
  rw[e] at this;unfold toV at this;rw[h3] at this;exact this
 |false=>
  rw[hb] at hu;exact h u zs hu
end Go.Den
namespace Go.Up
open Go.Sep Go.Den Go.RowKit Go.Prog Go.Md
def JE:∀(xs ys:List Int),xs.length=ys.length->jf (xs.map (.int .i64)) (ys.map (.int .i64))=decide (xs=ys)
 |[],[],_=>rfl
 |[],_::_,h=>by simp at h
 |_::_,[],h=>by simp at h
 |x::xs,y::ys,h=>by
  simp only[dA,jf,AF];rw[JE xs ys (by simpa using h),bZ];simp
def oe{a b:Nat}{xs ys:LV}:jf (nm a++xs) (nm b++ys)=(decide (a=b)&&jf xs ys):=by rw[tF (show(nm a).length=(nm b).length from rfl),ZN]
def JD(t u:cx):jf (aM t) (aM u)=decide (t=u):=by
 have e:=JE [t.cA,t.bF,t.code,t.ao,t.ay,t.jO] [u.cA,u.bF,u.code,u.ao,u.ay,u.jO] rfl;simp only[dA,uk] at e;unfold aM;rw[oe,oe,oe,oe,oe,e];rw[bZ];obtain⟨a,b,c,d,e,f,g,h,i,j,k⟩:=t;obtain⟨a',b',c',d',e',f',g',h',i',j',k'⟩:=u;simp[and_assoc]
def XY(t u:bN):jf (aO t) (aO u)=decide (t=u):=by
 have e:=JE [t.bF,t.code,t.ao,t.ay] [u.bF,u.code,u.ao,u.ay] rfl;simp only[dA,uk] at e;unfold aO;rw[oe,oe,oe,oe,oe,e];rw[bZ];obtain⟨a,b,c,d,e,f,g,h,i⟩:=t;obtain⟨a',b',c',d',e',f',g',h',i'⟩:=u;simp[and_assoc]
def XX(t u:cr):jf (bM t) (bM u)=decide (t=u):=by
 unfold bM;rw[tF (show(aM t.asked).length=(aM u.asked).length from rfl),tF (show(aM t.move).length=(aM u.move).length from rfl),JD,JD,bZ];obtain⟨a,b,c⟩:=t;obtain⟨a',b',c'⟩:=u;simp[jf,AF]
section
variable {W:World} {L:LH} {K:VK} {a b:bN} {t u:cx} {k j:cr}
def Y1{K:Bool->WK}(h:T W L (K (decide (t=u)))):T W L (rT [.u 0,.u 0,.u 0,.u 0,.u 0,.u 0,.u 0,.u 0,.u 0,.u 0,.i 0,.i 0,.i 0,.i 0,.i 0,.i 0] (aM t) (aM u) K):=O6 rfl rfl (by rw[JD];exact h)
def acr{K:Bool->WK}(h:T W L (K (decide (a=b)))):T W L (rT [.u 0,.u 0,.u 0,.u 0,.u 0,.u 0,.u 0,.u 0,.u 0,.u 0,.i 0,.i 0,.i 0,.i 0] (aO a) (aO b) K):=O6 rfl rfl (by rw[XY];exact h)
def acq{K:Bool->WK}(h:T W L (K (decide (k=j)))):T W L (rT [.u 0,.u 0,.u 0,.u 0,.u 0,.u 0,.u 0,.u 0,.u 0,.u 0,.i 0,.i 0,.i 0,.i 0,.i 0,.i 0,.u 0,.u 0,.u 0,.u 0,.u 0,.u 0,.u 0,.u 0,.u 0,.u 0,.i 0,.i 0,.i 0,.i 0,.i 0,.i 0,.i 0] (bM k) (bM j) K):=O6 rfl rfl (by rw[XX];exact h)
def O5{cs:LV}{n j:Nat}{v:Value}{K:VK}(hj:j<n)(hv:cs[j]?=some v)(h:T W L (K v)):T W L (Dg cs n (j:Int) K):=λw hs=>⟨v,⟨by omega,by omega,by rw[ak];exact hv⟩,h w hs⟩
def Vb(ha:0<=a.ao/\a.ao<256)(hb:0<=b.ao/\b.ao<256)(h:T W L (K (.i (qG a b)))):T W L (qh (aO a) (aO b) K):=by
 unfold qh qh.j1
 repeat' first|apply ws;intros|apply wb|apply db<;>intro h1
 all_goals
  apply T.fin (T.dp h)
  congr 1
  unfold qG
  all_goals try simp only[ZR ha.1 ha.2,ZR hb.1 hb.2,bz] at *
  all_goals (split<;>omega)
def J9(hf:0<=t.ao/\t.ao<256)(h:T W L (K (.b (decide (jM t.ao))))):T W L (sx (aM t) K):=by
 unfold sx;apply ws;intros;apply T.fin (T.dp h);congr 1;(rw[bZ];(try simp only[bz,false_iff,true_iff] at *)<;>(try simp only[ZQ hf.1 hf.2,bp] at *)<;>omega)
def uE(hf:0<=t.ao/\t.ao<256)(h:T W L (K (.b (decide (has t.ao 2))))):T W L (mo (aM t) K):=by
 unfold mo;apply ws;intros;apply T.fin (T.dp h);congr 1;(rw[bZ];(try simp only[bz,false_iff,true_iff] at *)<;>(try simp only[Mq hf.1 hf.2,bp] at *)<;>omega)
def Gy(hf:0<=t.ao/\t.ao<256)(h:T W L (K (.b (decide (has t.ao 16\/has t.ao 32))))):T W L (qJ (aM t) K):=by
 unfold qJ;apply ws;intros;apply T.fin (T.dp h);congr 1;(rw[bZ];(try simp only[bz,false_iff,true_iff] at *)<;>(try simp only[aeJ hf.1 hf.2,bp] at *)<;>omega)
def Ky(ht:0<=t.ao/\t.ao<256)(hu:0<=u.ao/\u.ao<256)(h:T W L (K (.i (qf t u)))):T W L (uH (aM t) (aM u) K):=by
 unfold uH
 repeat' first|apply ws;intros|apply wb|refine Y1 ?_
 rw[ZP ht.1 ht.2,ZP hu.1 hu.2];unfold qf at h;have e:({t with ao:=t.ao/2* 2}:cx)={u with ao:=u.ao/2* 2}↔({t with ao:=t.ao/2}:cx)={u with ao:=u.ao/2}:=by
  have Jq:t.ao/2* 2=u.ao/2* 2↔t.ao/2=u.ao/2:=by omega
  simp only[Md.cx.mk.injEq,Jq]
 apply fZ<;>intro h1
 ·rw[ai (e.1 (h1))] at h;exact T.dp h
 ·rw[af (λhh=>h1 (e.2 hh))] at h;exact T.dp h
def DP(f:Int)(i:Nat):Int:=(([2,4,8]:List Int).take i).foldl (λn b=>if has f b then n+1 else n) 0
def Na(hf:0<=t.ao/\t.ao<256)(h:T W L (K (.b (decide (jn t.ao))))):T W L (kV (aM t) K):=by
 unfold kV;apply ws;intros;rename_i r;intro w hs;refine⟨λvs w=>∃i:Nat,i<=3/\vs=[.p (some (ad r 0)),.b false,.i (DP t.ao i),.agg ⟨[.i 2,.i 4,.i 8]⟩,.i (i:Int)]/\St W w (Sep.pt r (aM t)::L),
  λvs _=>match vs with|[_,_,_,_,.int _ j]=>3-j.toNat|_=>0,⟨0,aE _,rfl,hs⟩,?_⟩
 rintro a1 b1 n1 JM n2 w2 ⟨j,hj,e,hs⟩;cases e
 refine T.at ?_ hs;simp only[gY,aD];apply fZ<;>intro h1
 ·have cj:j<3:=by omega
  have e5:=m9 j;have key:∃m:Int,([.i 2,.i 4,.i 8]:LV)[j]?=some (.i m)/\(de .i64 .and t.ao m=0↔ ¬has t.ao m)/\DP t.ao (j+1)=(if has t.ao m then DP t.ao j+1 else DP t.ao j)/\0<=DP t.ao j/\DP t.ao j<=j:=by
   match j,cj with
   |0,_=>exact⟨2,rfl,Mq hf.1 hf.2,rfl,sS 0,sS 0⟩
   |1,_=>exact⟨4,rfl,Mp hf.1 hf.2,rfl,by simp only[DP,List.take,List.foldl];split<;>decide,by simp only[DP,List.take,List.foldl];split<;>decide⟩
   |2,_=>exact⟨8,rfl,U0 hf.1 hf.2,rfl,by simp only[DP,List.take,List.foldl];split<;>split<;>decide,by simp only[DP,List.take,List.foldl];split<;>split<;>decide⟩
  obtain⟨m,k1,k2,k3,k4,k5⟩:=key;apply O5 (by omega) k1
  repeat' first|apply ws|apply wb|apply db<;>intro h1
  all_goals rw[e5]
  ·have h2:has t.ao m:=by
    have:=(eY.1 h1);rw[ne_eq,k2,bp] at this;exact this
   rw[ai h2] at k3;rw[aX (by omega),<-k3];exact λw3 h3=>⟨⟨j+1,cj,rfl,h3⟩,dn (by omega)⟩
  ·have h2: ¬has t.ao m:=k2.1 (bne_eq_false_iff_eq.1 h1);rw[af h2] at k3;rw[<-k3];exact λw3 h3=>⟨⟨j+1,cj,rfl,h3⟩,dn (by omega)⟩
 ·have he:j=3:=by omega
  subst he;have hc:DP t.ao 3<=1↔ ¬(has t.ao 2/\has t.ao 4\/has t.ao 2/\has t.ao 8\/has t.ao 4/\has t.ao 8):=by
   simp only[DP,List.take,List.foldl];by_cases h2:has t.ao 2<;>by_cases h4:has t.ao 4<;>by_cases h8:has t.ao 8<;>simp[h2,h4,h8]
  simp only[kV.j1,gY,aD]
  repeat' first|apply ws|apply wb|first|refine J9 hf ?_|refine uE hf ?_|apply db<;>intro h1
  all_goals
   apply T.fin (T.dp h)
   congr 1
   rw[bZ]
   all_goals try simp only[ZQ hf.1 hf.2,ahZ hf.1 hf.2,ah0 hf.1 hf.2,hc,true_iff,false_iff,bz] at *
   all_goals (unfold jn;simp_all<;>(intros;omega))
def RV(t:cx):Int:=if t.pending=0 then 16 else if t.bF<0\/4294967296<=t.bF then 8 else if t.code<0\/65536<=t.code then 9 else 0
def RU(t:cx):Int:=if t.bC=0 then 12 else if t.aU=0 then 13 else if t.bC=t.aU then 14 else if t.pending≠0 then 15 else if t.aT=0/\ ¬has t.ao 16/\ ¬has t.ao 32 then 18
 else if t.bF<1\/4294967296<=t.bF then 8 else if t.code<1\/65536<=t.code then 9 else 0
def Uv(h:T W L (K (.i (RV t)))):T W L (oV (aM t) K):=by
 unfold oV oV.j1
 repeat' first|apply ws;intros|apply wb|first|refine u1 ?_|apply db<;>intro h1
 all_goals try simp only[bz] at *
 all_goals (apply T.fin (T.dp h);congr 1;unfold RV;repeat' split)
 all_goals omega
def TO(hf:0<=t.ao/\t.ao<256)(h:T W L (K (.i (RU t)))):T W L (kx (aM t) K):=by
 unfold kx kx.j1 kx.j2
 repeat' first|apply ws;intros|apply wb|first|refine u1 ?_|refine Gy hf ?_|apply db<;>intro h1
 all_goals try simp only[bz] at *
 all_goals (apply T.fin (T.dp h);congr 1;unfold RU has at *;repeat' split)
 all_goals first|rfl|omega
def Kx(G:qi W)(ht:yf t)(h:T W L (K (.i (mM t)))):T W L (fy (aM t) K):=by
 by_cases hf:0<=t.ao/\t.ao<256
 ·unfold fy fy.j1 fy.j2 fy.j4 fy.j3;rw[show mM t=if t.ao<0\/255<t.ao then 3 else if t.id=0 then 4 else if t.id=bJ-1 then 5 else if ¬jn t.ao then 6
   else if t.ay≠0\/t.jO≠0 then 7 else if t.cA<0\/1073741824<t.cA\/0<t.cA/\ ¬has t.ao 2 then 17
   else if jM t.ao then RV t else RU t from rfl] at h
  repeat' first|apply ws;intros|apply wb|first|refine u1 ?_|refine O4 ⟨yP _,G.Xe⟩ ?_|refine Na hf ?_|refine J9 hf ?_|refine uE hf ?_|refine Uv ?_|refine TO hf ?_|apply db<;>intro h1
  all_goals try simp only[bz] at *
  all_goals (apply T.fin (T.dp h);congr 1;repeat' split)
  all_goals first|rfl|omega|(simp_all;done)|(simp_all;omega)
 ·unfold fy fy.j1;rw[show mM t=3 from ai (by omega)] at h;apply ws;intros;apply fZ<;>intro h1
  ·rw[kZ];exact T.dp h
  apply ws;rw[aw (by omega),kZ];exact T.dp h
end
end Go.Up
