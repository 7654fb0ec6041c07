/- Part of the proof: see the last text. -/
import Derived.Test.YtdeklijinefhkaaGreatDoorPA
import Derived.ProofKit
import Derived.OpenShut
import Derived.ChangeOld
import Derived.SizedLaws
import Derived.Carry
import Derived.Deep.Slices
import Derived.Laws.StructEq
set_option linter.all false
set_option maxRecDepth 100000
set_option synthInstance.maxSize 100000
open Array renaming ext'→tt,replicate→jL
open Bool renaming and_eq_true→df,false_ne_true→cO,true_and→dQ,noConfusion→rY,false_eq_true→cM,eq_iff_iff→cj
open Decidable renaming not_not→bp
open Go.IntKind renaming i64→aa
open Int renaming toNat_natCast→ak,tmod_eq_emod_of_nonneg→gX,eq_ofNat_of_zero_le→bh,fdiv_eq_ediv_of_nonneg→Hs
open List renaming mem_cons→ka,set_cons_succ→nN,getElem?_eq_getElem→aj,getElem_mem→bF,mem_of_getElem?→cD,mem_append→dB,mem_or_eq_of_mem_set→fq,drop_zero→jf,mem_cons_of_mem→jV,getD_eq_getElem?_getD→jW,length_replicate→kV,mem_cons_self→sX,mem_singleton→Dw,getElem?_eq_some_iff→ar,length_map→bQ,getElem?_append_left→ch,mem_map→cV,map_cons→dx,getElem?_map→fy,getElem?_append_right→iN,range→qk,getElem?_range→rL,getElem?_drop→ta,append_nil→bR,nil_append→cQ,drop_of_length_le→gG,take_zero→mR,reverse_cons→yL,getElem?_set_ne→Pc,length_append→av,append_assoc→aH,take_of_length_le→bU,map_append→cF,map_congr_left→jv,take_succ_eq_append_getElem→qV,map_map→sY,replicate→bw,Perm→cf,length_nil→cR,length_take→aD,length_drop→aS,set_set→jH,drop_drop→jX,take_take→yK,length_cons→bE,cons_append→lY,mem_of_find?_eq_some→nD,take_length→aV,take_left→Dv,drop_eq_getElem_cons→gh,flatMap_cons→iQ,getElem?_cons_succ→bX,map_nil→ou,getElem?_eq_none→qu,take_append_drop→dy,getElem?_set→dk,length_set→je,ext_getElem?→qX,flatMap_append→gj,getElem?_take→s8
open Nat renaming le_refl→aI,zero_add→aB,mul_le_mul_right→iA,add_mul→mG,mul_comm→wI,le_trans→wJ,zero_le→aF,reduceAdd→ae,reduceMul→af,le_of_ble_eq_true→aK,mul_one→mF,sub_self→kR,pow_le_pow_right→gO,pow_succ→Av,add_zero→gM,mod_eq_of_lt→fG,min_eq_left→rE,lt_of_le_of_lt→qJ,eq_of_beq_eq_true→eS,beq→iB
open Option renaming getD_some→dI,some→bA,map_some→fm,getD_none→gQ
namespace Go.Prog
open Go.Den
def so(e:BA)(K:VK):WK:=mk [.u 0,.u 0] λf=>mk [.u 0,.u 0] λj=>br (decide ((e.size:Int)<16)) (aJ (ad j 0) 2 λl=>bK 2 (ad f 0) l (aJ (ad f 0) 2 λm=>K (.tuple ⟨[.agg ⟨m⟩,.b false]⟩))) ((lp [.p (some (ad f 0)),.b false,.p (some (ad j 0)),.i 0] λk n=>∀d g c a h,k [.p (some d),.b g,.p (some c),.i a] h->(br (decide (a<8)) (tick (lU (c.add 1) λo=>AH e a λq=>cw ((0:Int)<=(aa.wrap (8* a))) (st (c.add 1) (.u (dj .u64 .or o (shl .u64 (IntKind.u64.wrap (q.toNat:Int)) (aa.wrap (8* a))))) (tick (lU c λr=>AH e (aa.wrap (8+a)) λs=>cw ((0:Int)<=(aa.wrap (8* a))) (st c (.u (dj .u64 .or r (shl .u64 (IntKind.u64.wrap (s.toNat:Int)) (aa.wrap (8* a))))) ((ct k n [.p (some d),.b g,.p (some c),.i (aa.wrap (a+1))] [.p (some d),.b g,.p (some c),.i a] h)))))))) (aJ c 2 λt=>bK 2 d t (aJ d 2 λv=>K (.tuple ⟨[.agg ⟨v⟩,.b true]⟩)))) h))
def cX(c:OA)(K:VK):WK:=mk [.u 0,.u 0] λa=>fr c 16 (xS λd=>so d (x2 λe f=>(xA 2 λg=>(xB λj=>mk [.u 0,.u 0] λb=>bK 2 (ad b 0) g (aJ (ad b 0) 2 λh=>bK 2 (ad a 0) h (aJ (ad a 0) 2 λi=>K (.agg ⟨i⟩)))) f) e))
def cX.u:WP|[.pointer a],K=>cX a K|_,_=>no
def om(a:OA)(K:VK):WK:=mk eG λb=>cX a (xA 2 λc=>cX a (xA 2 λd=>cX a (xA 2 λe=>cX a (xA 2 λf=>cX a (xA 2 λg=>aM a 4 (xI .i64 λh=>aM a 2 (xI .i64 λj=>aM a 2 (xI .i64 λk=>aM a 8 (xI .i64 λl=>cw (c.length=2/\(d.length=2/\(e.length=2/\(f.length=2/\(g.length=2/\(1=1/\(1=1/\(1=1/\(1=1/\True))))))))) (mk eG λm=>cw ((c++(d++(e++(f++(g++([.i h,.i j,.i k,.i l]:LV)))))).length=14) (jY (ad m 0) (c++(d++(e++(f++(g++([.i h,.i j,.i k,.i l]:LV)))))) (cK a (xB λn=>br n (cw True (cw (14=14) (jY (ad b 0) eG (aJ (ad b 0) 14 λo=>K (.agg ⟨o⟩))))) (aJ (ad m 0) 14 λp=>bK 14 (ad b 0) p (aJ (ad b 0) 14 λq=>K (.agg ⟨q⟩))))))))))))))))
def om.u:WP|[.pointer a],K=>om a K|_,_=>no
def m9(a:OA)(K:VK):WK:=mk iL λb=>cX a (xA 2 λc=>cX a (xA 2 λd=>cX a (xA 2 λe=>cX a (xA 2 λf=>cX a (xA 2 λg=>aM a 4 (xI .i64 λh=>aM a 4 (xI .i64 λj=>aM a 2 (xI .i64 λk=>aM a 2 (xI .i64 λl=>aM a 8 (xI .i64 λm=>aM a 8 (xI .i64 λn=>cw (c.length=2/\(d.length=2/\(e.length=2/\(f.length=2/\(g.length=2/\(1=1/\(1=1/\(1=1/\(1=1/\(1=1/\(1=1/\True))))))))))) (mk iL λo=>cw ((c++(d++(e++(f++(g++([.i h,.i j,.i k,.i l,.i m,.i n]:LV)))))).length=16) (jY (ad o 0) (c++(d++(e++(f++(g++([.i h,.i j,.i k,.i l,.i m,.i n]:LV)))))) (cK a (xB λp=>br p (cw True (cw (16=16) (jY (ad b 0) iL (aJ (ad b 0) 16 λq=>K (.agg ⟨q⟩))))) (aJ (ad o 0) 16 λr=>bK 16 (ad b 0) r (aJ (ad b 0) 16 λs=>K (.agg ⟨s⟩))))))))))))))))))
def m9.u:WP|[.pointer a],K=>m9 a K|_,_=>no
def qN(a:OA)(K:VK):WK:=br (a.isNone) (K (.i 0)) (nn a λb=>lT (b.add 1) λc=>br c (K (.i 0)) (nn a λd=>lS d λe=>K (.i (e.size:Int))))
def xj(K:VK):WK:=L3 32 Pe 8 8 λa b c=>cw (1=1/\True) (mk [.l a b c,.i 0,.i 0] λd=>K (.p (some (ad d 0))))
def qY(a:OA)(K:VK):WK:=cw (1=1/\True) (mk [.l none 0 0,.p a] λb=>K (.p (some (ad b 0))))
def tw(a:OA)(K:VK):WK:=cw (1=1/\True) (mk [.l none 0 0,.p a] λb=>K (.p (some (ad b 0))))
def vg(K:VK):WK:=xj (xP λb=>xj (xP λc=>cw (1=1/\(1=1/\True)) (mk [.l none 0 0,.p none,.p none,.p b,.p c,.l none 0 0,.l none 0 0,.i 0,.i 0] λa=>tick (qY (some (ad a 0)) (xP λd=>tw (some (ad a 0)) (xP λe=>st (ad a 1) (.p d) (st (ad a 2) (.p e) (K (.p (some (ad a 0)))))))))))
def nd(a:OA)(K:VK):WK:=br (!(a.isNone)) (nn a λc=>lL c λd b n=>Y4 (Builtin.zeroCells ⟨[.nilFunc]⟩ b).toList d b (nn a λe=>lL e λf g h=>tf f g h 1 none (some 0) λi j k=>nn a λm=>st m (.l i j k) (K (.tuple ⟨[]⟩)))) (K (.tuple ⟨[]⟩))
def uW(e:LV)(K:VK):WK:=mk e λa=>lU (ad a 1) λb=>lU (ad a 0) λc=>cw ((0:Int)<=31) (lU (ad a 0) λd=>cw ((0:Int)<=33) (cw ((0:Int)<=29) (K (.u (dj .u64 .xor (IntKind.u64.wrap ((dj .u64 .xor (dj .u64 .xor b (shl .u64 c 31)) (shr .u64 d 33))* 11400714819323198485)) (shr .u64 (IntKind.u64.wrap ((dj .u64 .xor (dj .u64 .xor b (shl .u64 c 31)) (shr .u64 d 33))* 11400714819323198485)) 29))))))
def dA.j3(K:VK)(a:Int)(h:LI)(d:Addr)(e:Int)(f:Bool)(c g:Int)(j:LM)(k:World)(l:Bool):WK:=br l (K (.tuple ⟨[.i (aa.wrap a),.b true]⟩)) ((ct h j [.p (some d),.i e,.b f,.u c,.i g,.u (dj .u64 .and (IntKind.u64.wrap (a+1)) c)] [.p (some d),.i e,.b f,.u c,.i g,.u a] k))
def dA.j2(K:VK)(g:LI)(a:Addr)(e:Int)(f:Bool)(c d:Int)(h:LM)(j:Int)(k:World)(l:Nat)(m:Bool):WK:=br m ((ct g h [.p (some a),.i e,.b f,.u c,.i (aa.wrap d),.u (dj .u64 .and (IntKind.u64.wrap (d+1)) c)] [.p (some a),.i e,.b f,.u c,.i j,.u d] k)) (lB (ad l 3) λn=>br (n==1) (aJ (ad l 0) 2 λo=>aJ a 2 λq=>sm [.u 0,.u 0] o q λr=>dA.j3 K d g a e f c j h k r) (dA.j3 K d g a e f c j h k false))
def dA.j1(K:VK)(d:Int)(a:Nat)(c:Int)(e:LI)(f:Addr)(g:Int)(h:Bool)(j:Int)(k:LM)(l:World)(m:Bool):WK:=br m (K (.tuple ⟨[.i (aa.wrap d),.b false]⟩)) (lB (ad a 3) λn=>br (n==0) (K (.tuple ⟨[.i c,.b false]⟩)) (lB (ad a 3) λo=>br (o==2) (dA.j2 K e f g h j d k c l a (decide (c<0))) (dA.j2 K e f g h j d k c l a false)))
def dA(l:OA)(q:LV)(K:VK):WK:=mk q λm=>nn l λr=>lL r λB n C=>aJ (ad m 0) 2 λs=>uW s (xI .u64 λt=>(lp [.p (some (ad m 0)),.i 0,.b false,.u (IntKind.u64.wrap (aa.wrap ((n:Int) -1))),.i (-1),.u (dj .u64 .and t (IntKind.u64.wrap (aa.wrap ((n:Int) -1))))] λf o=>∀g h j k a c d,f [.p (some g),.i h,.b j,.u k,.i a,.u c] d->(nn l λv=>lL v λw x D=>iW w x c 4 λy=>aJ y 4 λz=>mk Pe λe=>bK 4 (ad e 0) z (lB (ad e 3) λA=>br (A==0) (dA.j1 K c e a f g h j k o d (decide (a<0))) (dA.j1 K c e a f g h j k o d false))) d))
def iv(a:OA)(c:LV)(K:VK):WK:=mk c λd=>br (a.isNone) (K (.tuple ⟨[.i 0,.b false]⟩)) (aJ (ad d 0) 2 λe=>dA a e (x2 λf g=>(xI .i64 λh=>(xB λj=>br (!j) (K (.tuple ⟨[.i 0,.b false]⟩)) (nn a λk=>lL k λl m p=>iW l m h 4 λn=>lI (n.add 2) λo=>K (.tuple ⟨[.i o,.b true]⟩))) g) f))
def qP(b:OA)(K:VK):WK:=nn b λs=>lL s λt u v=>(lp [.l t u v,.i 8] λq w=>∀j g k c o,q [.l j g k,.i c] o->(nn b λx=>lI (x.add 1) λy=>br (decide (c<(aa.wrap (3* (aa.wrap (y+1)))))) ((ct q w [.l j g k,.i (aa.wrap (c* 2))] [.l j g k,.i c] o)) (L3 32 Pe c c λz A B=>nn b λC=>st C (.l z A B) (nn b λD=>st (D.add 2) (.i 0) ((lp [.l j g k,.i (g:Int),.i 0] λp r=>∀d e h f a m,p [.l d e h,.i f,.i a] m->(br (decide (a<f)) (iW d e a 4 λE=>aJ E 4 λF=>mk Pe λn=>bK 4 (ad n 0) F (lB (ad n 3) λG=>br (G==1) (aJ (ad n 0) 2 λH=>dA b H (x2 λI J=>(xI .i64 λM=>(xB λT=>tick (nn b λO=>lL O λP Q V=>aJ (ad n 0) 4 λR=>iW P Q M 4 λS=>bK 4 S R ((ct p r [.l d e h,.i f,.i (aa.wrap (a+1))] [.l d e h,.i f,.i a] m)))) J) I)) ((ct p r [.l d e h,.i f,.i (aa.wrap (a+1))] [.l d e h,.i f,.i a] m)))) (K (.tuple ⟨[]⟩))) m))))) o)
def dZ.j2(K:VK)(a:OA)(e:Nat)(f d:Int):WK:=tick (nn a λg=>lL g λh j o=>aJ (ad e 0) 2 λc=>cw (c.length=2/\(1=1/\(1=1/\True))) (iW h j f 4 λk=>cw ((c++([.i d,.int .u8 1]:LV)).length=4) (jY k (c++([.i d,.int .u8 1]:LV)) (nn a λl=>lI (l.add 1) λm=>nn a λn=>st (n.add 1) (.i (aa.wrap (m+1))) (K (.b true))))))
def dZ.j1(K:VK)(d:Nat)(a:OA)(e:Int):WK:=aJ (ad d 0) 2 λf=>dA a f (x2 λg h=>(xI .i64 λc=>(xB λj=>br j (nn a λk=>lL k λl m w=>iW l m c 4 λn=>st (n.add 2) (.i e) (K (.b false))) (nn a λo=>lL o λp q x=>iW p q c 4 λr=>lB (r.add 3) λs=>br (s==2) (nn a λt=>lI (t.add 2) λu=>nn a λv=>st (v.add 2) (.i (aa.wrap (u-1))) (dZ.j2 K a d c e)) (dZ.j2 K a d c e))) h) g)
def dZ(a:OA)(e:LV)(c:Int)(K:VK):WK:=mk e λd=>br (a.isNone) (K (.b false)) (tick (nn a λf=>lI (f.add 1) λg=>nn a λh=>lI (h.add 2) λi=>nn a λj=>lL j λl k m=>br (decide ((aa.wrap (4* (aa.wrap ((aa.wrap (g+i))+1))))>(aa.wrap (3* (k:Int))))) (qP a (x0 (dZ.j1 K d a c))) (dZ.j1 K d a c)))
def iD(a:OA)(b:Value)(K:VK):WK:=br (!(a.isNone)) (nn a λc=>lL c λd e f=>cw ((fE b).length=1/\True) (mk ((fE b)++[]) λg=>iP 1 8 [.nilFunc] d e f (ah g) 1 λh i j=>nn a λk=>st k (.l h i j) (K (.tuple ⟨[]⟩)))) (K (.tuple ⟨[]⟩))
def cJ(a b:Addr)(K:VK):WK:=tick (lP a λc=>lP a λd=>nn d λe=>lL e λf g h=>lI b λi=>tf f g h 14 none (some i) λj k m=>nn c λn=>st n (.l j k m) (K (.tuple ⟨[]⟩)))
def cJ.u:WP|[.pointer (some a),.pointer (some b)],K=>cJ a b K|_,_=>no
def iY(j:OA)(k:LV)(K:VK):WK:=mk [.p j] λa=>mk k λm=>lP (ad a 0) λn=>br (n.isNone) (K (.i (-1))) (lP (ad a 0) λo=>nn o λq=>lL q λC r D=>mk [.i 0] λb=>st (ad b 0) (.i (r:Int)) (tick (lP (ad a 0) λc=>lP (ad a 0) λd=>nn d λe=>lL e λf g h=>aJ (ad m 0) 14 λs=>KZ 14 s λt=>kp e [.l f g h] (kp (ad a 0) [.p d] (kp (ad a 0) [.p c] (iP 14 112 eG f g h (ah t) 1 λu v w=>kp (ad a 0) [.p d] (kp (ad a 0) [.p c] (nn c λx=>st x (.l u v w) (lP (ad a 0) λy=>nn y λz=>lP (z.add 1) λA=>iD A (.func (.func N.cJ) ⟨[]⟩ ⟨[.p (some (ad a 0)),.p (some (ad b 0))]⟩) (x0 (lI (ad b 0) λB=>K (.i B))))))))))))
def fR(a:Int)(c d:Addr)(K:VK):WK:=tick (lP c λe=>nn e λf=>lL f λg h l=>iW g h a 2 λi=>lI i λj=>lI d λk=>K (.b (decide (j>=k))))
def fR.u:WP|[.int .i64 a,.pointer (some b),.pointer (some c)],K=>fR a b c K|_,_=>no
def wa(g:Int)(h:Value)(K:VK):WK:=(lp [.i 0,.i 0,.i g] λe f=>∀c a b d,e [.i c,.i a,.i b] d->(br (decide (a<b)) (cw ((0:Int)<=1) (xF [(N.fR,fR.u)] h [.i (aa.wrap (shr .u64 (IntKind.u64.wrap (aa.wrap (a+b))) 1))] (xB λj=>br (!j) ((ct e f [.i c,.i (aa.wrap ((aa.wrap (shr .u64 (IntKind.u64.wrap (aa.wrap (a+b))) 1))+1)),.i b] [.i c,.i a,.i b] d)) ((ct e f [.i c,.i a,.i (aa.wrap (shr .u64 (IntKind.u64.wrap (aa.wrap (a+b))) 1))] [.i c,.i a,.i b] d))))) (K (.i a))) d)
def mu(b:OA)(c:Int)(K:VK):WK:=mk [.p b] λa=>mk [.i c] λd=>lP (ad a 0) λe=>nn e λf=>lL f λj g k=>wa (g:Int) (.func (.func N.fR) ⟨[]⟩ ⟨[.p (some (ad a 0)),.p (some (ad d 0))]⟩) (xI .i64 λh=>K (.i h))
def jA.j1(K:VK)(a:OA)(c d o:Int)(p:Bool):WK:=br p (nn a λq=>lL q λr s O=>iW r s c 2 λt=>st (t.add 1) (.i d) (K (.b false))) (nn a λu=>lL u λv w x=>cw True (cw (2=2/\True) (mk [.i 0,.i 0] λy=>iP 2 16 [.i 0,.i 0] v w x (ah y) 1 λz A B=>nn a λC=>st C (.l z A B) (tick (nn a λe=>lL e λf g h=>tf f g h 2 (some (aa.wrap (c+1))) none λD E P=>nn a λj=>lL j λk m n=>tf k m n 2 (some c) none λF G Q=>Vy 2 D E F G λm1=>kp j [.l k m n] (kp e [.l f g h] (nn a λH=>lL H λI J R=>cw (1=1/\(1=1/\True)) (iW I J c 2 λM=>cw (2=2) (jY M [.i o,.i d] (K (.b true)))))))))))
def jA(a:OA)(c e:Int)(K:VK):WK:=br (a.isNone) (K (.b false)) (mu a c (xI .i64 λd=>nn a λf=>lL f λm g n=>br (decide (d<(g:Int))) (nn a λh=>lL h λi j o=>iW i j d 2 λk=>lI k λl=>jA.j1 K a d e c (l==c)) (jA.j1 K a d e c false)))
def gv(a:OA)(K:VK):WK:=br (a.isNone) (K (.i 0)) (nn a λb=>lL b λd c e=>K (.i (c:Int)))
def da(a b:Addr)(K:VK):WK:=tick (lP a λc=>lP a λd=>nn d λe=>lL e λf g h=>lI b λi=>tf f g h 33 none (some i) λj k m=>nn c λn=>st n (.l j k m) (K (.tuple ⟨[]⟩)))
def da.u:WP|[.pointer (some a),.pointer (some b)],K=>da a b K|_,_=>no
def kh(j:OA)(k:LV)(K:VK):WK:=mk [.p j] λa=>mk k λm=>lP (ad a 0) λn=>br (n.isNone) (K (.i (-1))) (lP (ad a 0) λo=>nn o λq=>lL q λC r D=>mk [.i 0] λb=>st (ad b 0) (.i (r:Int)) (tick (lP (ad a 0) λc=>lP (ad a 0) λd=>nn d λe=>lL e λf g h=>aJ (ad m 0) 33 λs=>KZ 33 s λt=>kp e [.l f g h] (kp (ad a 0) [.p d] (kp (ad a 0) [.p c] (iP 33 264 cN f g h (ah t) 1 λu v w=>kp (ad a 0) [.p d] (kp (ad a 0) [.p c] (nn c λx=>st x (.l u v w) (lP (ad a 0) λy=>nn y λz=>lP (z.add 1) λA=>iD A (.func (.func N.da) ⟨[]⟩ ⟨[.p (some (ad a 0)),.p (some (ad b 0))]⟩) (x0 (lI (ad b 0) λB=>K (.i B))))))))))))
def vf(k:LV)(K:VK):WK:=mk k λa=>mk y4 λd=>tick (lI (ad a 31) λe=>lI (ad a 26) λf=>lI (ad a 30) λg=>aJ (ad a 16) 2 λc=>cw (1=1/\(1=1/\(c.length=2/\True))) (lI (ad a 32) λh=>br (h==1) (lI (ad a 26) λj=>cw ((([.i (aa.wrap (e+f)),.i g]:LV)++(c++[])).length=4) (jY (ad d 0) (([.i (aa.wrap (e+f)),.i g]:LV)++(c++[])) (kp (ad a 26) [.i j] (kp (ad a 32) [.i h] (aJ (ad d 0) 4 λl=>K (.tuple ⟨[.agg ⟨l⟩,.b (decide (j>0))]⟩)))))) (cw ((([.i (aa.wrap (e+f)),.i g]:LV)++(c++[])).length=4) (jY (ad d 0) (([.i (aa.wrap (e+f)),.i g]:LV)++(c++[])) (kp (ad a 32) [.i h] (aJ (ad d 0) 4 λm=>K (.tuple ⟨[.agg ⟨m⟩,.b false]⟩)))))))
def sz(d e:LV)(K:VK):WK:=mk d λa=>mk e λc=>lI (ad a 0) λf=>lI (ad c 0) λg=>br (decide (f<g)) (K (.b true)) (lI (ad a 0) λh=>lI (ad c 0) λi=>br (h==i) (lI (ad a 1) λj=>lI (ad c 1) λk=>K (.b (decide (j<k)))) (K (.b false)))
def jz.j1(K:VK)(b:OA)(a:Int)(c:LI)(d:LM)(e:World)(f:Bool):WK:=br f (tick (nn b λg=>lL g λh j z=>nn b λk=>lL k λl m A=>cw ((2:Int)≠0) (nn b λn=>lL n λo p B=>cw ((2:Int)≠0) (iW o p (aa.wrap ((aa.wrap (a-1)).tdiv (2:Int))) 4 λq=>aJ q 4 λr=>nn b λs=>lL s λt u C=>iW t u a 4 λv=>aJ v 4 λw=>iW h j a 4 λx=>bK 4 x r (iW l m (aa.wrap ((aa.wrap (a-1)).tdiv (2:Int))) 4 λy=>bK 4 y w (cw ((2:Int)≠0) ((ct c d [.i (aa.wrap ((aa.wrap (a-1)).tdiv (2:Int)))] [.i a] e)))))))) (K (.tuple ⟨[]⟩))
def jz(b:OA)(n:Int)(K:VK):WK:=(lp [.i n] λd e=>∀a c,d [.i a] c->(tick (br (decide (a>0)) (nn b λf=>lL f λg h o=>iW g h a 4 λp=>aJ p 4 λq=>nn b λj=>lL j λk m r=>cw ((2:Int)≠0) (iW k m (aa.wrap ((aa.wrap (a-1)).tdiv (2:Int))) 4 λs=>aJ s 4 λt=>sz q t (xB λu=>kp j [.l k m r] (kp f [.l g h o] (jz.j1 K b a d e c u))))) (jz.j1 K b a d e c false))) c)
def mr(a:OA)(f:LV)(K:VK):WK:=mk f λg=>br (!(a.isNone)) (tick (nn a λb=>lL b λc d e=>aJ (ad g 0) 4 λh=>KZ 4 h λi=>kp b [.l c d e] (iP 4 32 y4 c d e (ah i) 1 λj k m=>nn a λn=>st n (.l j k m) (nn a λo=>lL o λq p r=>jz a (aa.wrap ((p:Int) -1)) (x0 (K (.tuple ⟨[]⟩))))))) (K (.tuple ⟨[]⟩))
def eQ.j2(K:VK)(a:OA)(b:Nat)(k:LI)(c:OA)(d:Int)(e:OA)(f g:Nat)(h j:Int)(m:LM)(n:World)(t:Bool):WK:=br t (K (.tuple ⟨[.p none,.i 1]⟩)) (tick (nn a λo=>lP (o.add 4) λq=>aJ (ad b 16) 2 λr=>nn a λu=>lP (u.add 2) λv=>aJ (ad b 0) 33 λw=>kh v w (xI .i64 λx=>kp (ad b 16) r (kp (o.add 4) [.p q] (dZ q r x (xB λF=>aJ (ad b 0) 33 λy=>vf y (x2 λz A=>(xA 4 λB=>(xB λC=>mk y4 λs=>bK 4 (ad s 0) B (br C (tick (nn a λD=>aJ (ad s 0) 4 λE=>mr (some (D.add 6)) E (x0 ((ct k m [.p c,.i d,.p a,.l e f g,.i h,.i (aa.wrap (j+1))] [.p c,.i d,.p a,.l e f g,.i h,.i j] n))))) ((ct k m [.p c,.i d,.p a,.l e f g,.i h,.i (aa.wrap (j+1))] [.p c,.i d,.p a,.l e f g,.i h,.i j] n)))) A) z)))))))
def eQ.j1(K:VK)(I J:OA)(B M:Nat)(O:OA)(C P:Nat)(Q R:Int)(S:Bool):WK:=br S (K (.tuple ⟨[.p none,.i 1]⟩)) ((lp [.p none,.i 0,.p I,.l J B M,.i (B:Int),.i 0] λD T=>∀r s c t u x v j y,D [.p r,.i s,.p c,.l t u x,.i v,.i j] y->(br (decide (j<v)) (iW t u j 14 λV=>aJ V 14 λW=>mk eG λk=>bK 14 (ad k 0) W (tick (nn c λX=>lP (X.add 3) λY=>aJ (ad k 0) 2 λZ=>iv Y Z (x2 λv1 v2=>(xI .i64 λn6=>(xB λb2=>br b2 (K (.tuple ⟨[.p none,.i 1]⟩)) (tick (nn c λE=>lP (E.add 3) λF=>aJ (ad k 0) 2 λG=>nn c λa4=>lP (a4.add 1) λp6=>aJ (ad k 0) 14 λMJ=>iY p6 MJ (xI .i64 λn7=>kp (ad k 0) G (kp (E.add 3) [.p F] (dZ F G n7 (xB λb3=>(ct D T [.p r,.i s,.p c,.l t u x,.i v,.i (aa.wrap (j+1))] [.p r,.i s,.p c,.l t u x,.i v,.i j] y)))))))) v2) v1)))) ((lp [.p r,.i s,.p c,.l O C P,.i (C:Int),.i 0] λm w=>∀n o b e f q g d h,m [.p n,.i o,.p b,.l e f q,.i g,.i d] h->(br (decide (d<g)) (iW e f d 33 λa5=>aJ a5 33 λOK=>mk cN λa=>bK 33 (ad a 0) OK (tick (nn b λa6=>lP (a6.add 4) λp9=>aJ (ad a 16) 2 λcs6=>iv p9 cs6 (x2 λv3 v4=>(xI .i64 λB9=>(xB λb4=>tick (br b4 (eQ.j2 K b a m n o e f q g d w h true) (lI (ad a 32) λz=>br (decide (z<0)) (eQ.j2 K b a m n o e f q g d w h true) (lI (ad a 32) λA=>br (decide (A>4)) (eQ.j2 K b a m n o e f q g d w h true) (nn b λa10=>lI (ad a 30) λH=>nn b λa11=>lP (a11.add 2) λp12=>gv p12 (xI .i64 λwP=>kp (ad a 30) [.i H] (kp (ad a 32) [.i A] (kp (ad a 32) [.i z] (jA (some (a10.add 5)) H wP (xB λb8=>kp (ad a 32) [.i A] (kp (ad a 32) [.i z] (eQ.j2 K b a m n o e f q g d w h (!b8))))))))))))) v4) v3)))) (nn b λa12=>st (a12.add 7) (.i Q) (nn b λa13=>st (a13.add 8) (.i R) (nn b λa14=>nd (some a14) (x0 (K (.tuple ⟨[.p b,.i 0]⟩))))))) h))) y))
def eQ.j5(K:VK)(b c:OA)(d e:Nat)(f:OA)(g h:Nat)(i a:Int)(j:Bool):WK:=br j (eQ.j1 K b c d e f g h i a true) (br (decide (a<0)) (eQ.j1 K b c d e f g h i a true) (eQ.j1 K b c d e f g h i a (decide (a>1099511627776))))
def eQ.j4(K:VK)(b c:OA)(d e:Nat)(f:OA)(g h:Nat)(a i:Int)(j:Bool):WK:=br j (eQ.j5 K b c d e f g h a i true) (eQ.j5 K b c d e f g h a i (decide (a>1099511627776)))
def eQ.j3(K:VK)(b c:OA)(d e:Nat)(f:OA)(g h:Nat)(a i:Int)(j:Bool):WK:=br j (eQ.j4 K b c d e f g h a i true) (eQ.j4 K b c d e f g h a i (decide (a<0)))
def eQ(c:OA)(a d:Nat)(e:OA)(b f:Nat)(g h:Int)(K:VK):WK:=vg (xP λi=>br (decide ((a:Int)>32)) (eQ.j3 K i c a d e b f g h true) (eQ.j3 K i c a d e b f g h (decide ((b:Int)>96))))
def pz.j1(K:VK)(J:OA)(M O P Q:Int)(R:Bool):WK:=br R (K (.tuple ⟨[.p none,.i 4]⟩)) ((lp [.p none,.i 0,.p J,.i M,.i O,.i P,.l none 0 0,.i Q,.i 0] λF S=>∀c d b e f g h j k m n z,F [.p c,.i d,.p b,.i e,.i f,.i g,.l h j k,.i m,.i n] z->(br (decide (n<m)) (om b (xA 14 λT=>KZ 14 T λV=>iP 14 112 eG h j k (ah V) 1 λW X Y=>(ct F S [.p c,.i d,.p b,.i e,.i f,.i g,.l W X Y,.i m,.i (aa.wrap (n+1))] [.p c,.i d,.p b,.i e,.i f,.i g,.l h j k,.i m,.i n] z))) ((lp [.p c,.i d,.p b,.i e,.i f,.l h j k,.l none 0 0,.i g,.i 0] λG Z=>∀A B a o q r s t u v w x y C,G [.p A,.i B,.p a,.i o,.i q,.l r s t,.l u v w,.i x,.i y] C->(br (decide (y<x)) (m9 a (xA 16 λD=>m9 a (xA 16 λE=>aM a 1 (xI .i64 λH=>cw (D.length=16/\(E.length=16/\(1=1/\True))) (cw ((D++(E++([.i H]:LV))).length=33/\True) (mk ((D++(E++([.i H]:LV)))++[]) λr2=>iP 33 264 cN u v w (ah r2) 1 λBM Bo BL=>(ct G Z [.p A,.i B,.p a,.i o,.i q,.l r s t,.l BM Bo BL,.i x,.i (aa.wrap (y+1))] [.p A,.i B,.p a,.i o,.i q,.l r s t,.l u v w,.i x,.i y] C))))))) (eQ r s t u v w o q (x2 λv1 v2=>(xP λp6=>(xI .i64 λI=>br (I !=0) (K (.tuple ⟨[.p none,.i 4]⟩)) (kE a (xB λb2=>br (!b2) (K (.tuple ⟨[.p none,.i 4]⟩)) (K (.tuple ⟨[.p p6,.i I]⟩))))) v2) v1))) C))) z))
def pz(f:BA)(K:VK):WK:=oO f (xP λa=>aM a 1 (xI .i64 λg=>br (g !=1) (K (.tuple ⟨[.p none,.i 4]⟩)) (aM a 8 (xI .i64 λd=>aM a 8 (xI .i64 λe=>aM a 2 (xI .i64 λb=>aM a 2 (xI .i64 λc=>cK a (xB λh=>br h (pz.j1 K a d e c b true) (qN a (xI .i64 λj=>pz.j1 K a d e c b (j !=(aa.wrap ((aa.wrap (b* 96))+(aa.wrap (c* 217)))))))))))))))
def xR(c:OA)(e:LV)(K:VK):WK:=mk e λf=>mk zi4 λb=>sO c (x2 λg h=>(xA 4 λj=>(xB λk=>mk zi4 λa=>bK 4 (ad a 0) j (br (!k) (tick (aJ (ad a 0) 4 λd=>vg (xP λl=>kp (ad a 0) d (bK 4 (ad b 0) d (aJ (ad b 0) 4 λm=>K (.tuple ⟨[.p l,.agg ⟨m⟩,.i 0]⟩)))))) (aJ (ad f 0) 5 λn=>lI (ad a 0) λo=>lI (ad a 1) λq=>lI (ad a 2) λr=>rq n c o q r (x2 λs t=>(xS λu=>(xB λv=>br (!v) (tick (aJ (ad a 0) 4 λw=>bK 4 (ad b 0) w (aJ (ad b 0) 4 λx=>K (.tuple ⟨[.p none,.agg ⟨x⟩,.i 4]⟩)))) (pz u (x2 λy z=>(xP λA=>(xI .i64 λB=>tick (aJ (ad a 0) 4 λC=>bK 4 (ad b 0) C (aJ (ad b 0) 4 λD=>K (.tuple ⟨[.p A,.agg ⟨D⟩,.i B]⟩)))) z) y))) t) s)))) h) g)
def kU(f:OA)(n:Value)(K:VK):WK:=aM f 1 (xI .i64 λo=>(lp [.l none 0 0,.l none 0 0,.i o,.i 0] λm q=>∀g h j a b c d e k,m [.l g h j,.l a b c,.i d,.i e] k->(br (decide (e<d)) (cK f (xB λr=>br r (K (.l a b c)) (xF [(N.om,om.u),(N.aM,aM.u),(N.cK,cK.u)] n [.p f] (xA 14 λs=>KZ 14 s λt=>iP 14 112 eG a b c (ah t) 1 λv w x=>(ct m q [.l g h j,.l v w x,.i d,.i (aa.wrap (e+1))] [.l g h j,.l a b c,.i d,.i e] k))))) (K (.l a b c))) k))
def kf(f:OA)(n:Value)(K:VK):WK:=aM f 1 (xI .i64 λo=>(lp [.l none 0 0,.l none 0 0,.i o,.i 0] λm q=>∀g h j a b c d e k,m [.l g h j,.l a b c,.i d,.i e] k->(br (decide (e<d)) (cK f (xB λr=>br r (K (.l a b c)) (xF [(N.aM,aM.u),(N.cK,cK.u),(N.m9,m9.u)] n [.p f] (xA 16 λs=>KZ 16 s λt=>iP 16 128 iL a b c (ah t) 1 λv w x=>(ct m q [.l g h j,.l v w x,.i d,.i (aa.wrap (e+1))] [.l g h j,.l a b c,.i d,.i e] k))))) (K (.l a b c))) k))
def mV(c:OA)(K:VK):WK:=aM c 1 (xI .i64 λa=>br (!(c.isNone)) (br (decide (a>1)) (nn c λd=>st (d.add 1) (.b true) (K (.b (a==1)))) (K (.b (a==1)))) (K (.b (a==1))))
def qm(f:OA)(n:Value)(K:VK):WK:=aM f 1 (xI .i64 λo=>(lp [.l none 0 0,.l none 0 0,.i o,.i 0] λm q=>∀g h j a b c d e k,m [.l g h j,.l a b c,.i d,.i e] k->(br (decide (e<d)) (cK f (xB λr=>br r (K (.l a b c)) (xF [(N.aM,aM.u),(N.cX,cX.u),(N.cK,cK.u)] n [.p f] (xA 2 λs=>KZ 2 s λt=>iP 2 16 [.u 0,.u 0] a b c (ah t) 1 λv w x=>(ct m q [.l g h j,.l v w x,.i d,.i (aa.wrap (e+1))] [.l g h j,.l a b c,.i d,.i e] k))))) (K (.l a b c))) k))
def uz(d:LV)(K:VK):WK:=mk d λa=>lI (ad a 0) λc=>br (c==1) (lL (ad a 1) λk e l=>br (decide ((e:Int)>=1)) (lL (ad a 1) λm f n=>K (.b (decide ((f:Int)<=8)))) (K (.b false))) (br (c==2) (lL (ad a 2) λo g p=>br (decide ((g:Int)>=1)) (lL (ad a 2) λq h r=>K (.b (decide ((h:Int)<=8)))) (K (.b false))) (br (c==3) (lI (ad a 3) λi=>br (decide (i>=0)) (lI (ad a 3) λj=>K (.b (decide (j<=1099511627776)))) (K (.b false))) (K (.b false))))
def iy.j4(K:VK)(a:Nat)(c:Bool):WK:=br c (lT (ad a 4) λd=>br d (K (.b true)) (lT (ad a 5) λe=>K (.b e))) (K (.b false))
def iy.j3(K:VK)(a:Nat)(b:Bool):WK:=br b (lI (ad a 7) λc=>iy.j4 K a (decide (c<=16))) (iy.j4 K a false)
def iy.j2(K:VK)(a:Nat)(b:Bool):WK:=br b (lI (ad a 7) λc=>iy.j3 K a (decide (c>=1))) (iy.j3 K a false)
def iy.j1(K:VK)(c:Nat)(d:Int)(e:Bool):WK:=br e (lL (ad c 4) λk f l=>br (decide ((f:Int)>=1)) (lL (ad c 4) λm g n=>K (.b (decide ((g:Int)<=16)))) (K (.b false))) (br (d==6) (aJ (ad c 5) 8 λh=>mk Fa λa=>bK 8 (ad a 0) h (lI (ad a 2) λi=>br (decide (i>=0)) (lI (ad a 3) λj=>iy.j2 K a (decide (j>=0))) (iy.j2 K a false))) (K (.b false)))
def iy(c:LV)(K:VK):WK:=mk c λb=>lI (ad b 0) λa=>br (a==4) (iy.j1 K b a (a==4)) (iy.j1 K b a (a==5))
def ju.j3(K:VK)(a:Nat)(c:Bool):WK:=br c (lI (ad a 12) λd=>br (decide (d>=0)) (lI (ad a 12) λe=>K (.b (decide (e<=65535)))) (K (.b false))) (K (.b false))
def ju.j2(K:VK)(a:Nat)(b:Bool):WK:=br b (lI (ad a 11) λc=>ju.j3 K a (decide (c<=65535))) (ju.j3 K a false)
def ju.j1(K:VK)(a:Nat)(b:Bool):WK:=br b (lI (ad a 11) λc=>ju.j2 K a (decide (c>=0))) (ju.j2 K a false)
def ju(b:LV)(K:VK):WK:=mk b λa=>lI (ad a 10) λc=>br (decide (c>=0)) (lI (ad a 10) λd=>ju.j1 K a (decide (d<=4294967295))) (ju.j1 K a false)
def fZ.j5(K:VK)(a:Nat)(c:Bool):WK:=br c (lI (ad a 13) λd=>br (decide (d>=0)) (lI (ad a 13) λe=>K (.b (decide (e<=65535)))) (K (.b false))) (K (.b false))
def fZ.j4(K:VK)(a:Nat)(b:Bool):WK:=br b (lI (ad a 12) λc=>fZ.j5 K a (decide (c<=65535))) (fZ.j5 K a false)
def fZ.j3(K:VK)(a:Nat)(b:Bool):WK:=br b (lI (ad a 12) λc=>fZ.j4 K a (decide (c>=0))) (fZ.j4 K a false)
def fZ.j2(K:VK)(a:Nat)(b:Bool):WK:=br b (lI (ad a 11) λc=>fZ.j3 K a (decide (c<=4294967295))) (fZ.j3 K a false)
def fZ.j1(K:VK)(a:Nat)(b:Bool):WK:=br b (lI (ad a 11) λc=>fZ.j2 K a (decide (c>=0))) (fZ.j2 K a false)
def fZ(b:LV)(K:VK):WK:=mk b λa=>lI (ad a 10) λc=>br (decide (c>=0)) (lI (ad a 10) λd=>fZ.j1 K a (decide (d<=4294967295))) (fZ.j1 K a false)
def pY.j1(K:VK)(k:Nat)(z:Bool):WK:=br z (K (.b false)) (lI (ad k 0) λs=>br (s==1) (lL (ad k 1) λA t B=>(lp [.b false,.l A t B,.i (t:Int),.i 0] λu C=>∀m d e n f a o,u [.b m,.l d e n,.i f,.i a] o->(br (decide (a<f)) (iW d e a 14 λD=>aJ D 14 λE=>mk eG λv=>bK 14 (ad v 0) E (aJ (ad v 0) 14 λF=>ju F (xB λG=>br (!G) (K (.b false)) ((ct u C [.b m,.l d e n,.i f,.i (aa.wrap (a+1))] [.b m,.l d e n,.i f,.i a] o))))) (K (.b true))) o)) (br (s==2) (lL (ad k 2) λH w I=>(lp [.b false,.l H w I,.i (w:Int),.i 0] λx J=>∀p g h q j c r,x [.b p,.l g h q,.i j,.i c] r->(br (decide (c<j)) (iW g h c 16 λM=>aJ M 16 λO=>mk iL λy=>bK 16 (ad y 0) O (aJ (ad y 0) 16 λP=>fZ P (xB λQ=>br (!Q) (K (.b false)) ((ct x J [.b p,.l g h q,.i j,.i (aa.wrap (c+1))] [.b p,.l g h q,.i j,.i c] r))))) (K (.b true))) r)) (K (.b true))))
def pY(b:LV)(K:VK):WK:=mk b λa=>aJ (ad a 0) 13 λc=>uz c (xB λd=>br (!d) (aJ (ad a 0) 13 λe=>iy e (xB λf=>pY.j1 K a (!f))) (pY.j1 K a false))
def jn.j1(K:VK)(c:OA)(a b:Nat):WK:=kE c (xB λd=>br (!d) (cw True (cw (13=13) (jY (ad a 0) ke (aJ (ad a 0) 13 λe=>K (.tuple ⟨[.agg ⟨e⟩,.i 4]⟩))))) (aJ (ad b 0) 13 λf=>pY f (xB λg=>br (!g) (cw True (cw (13=13) (jY (ad a 0) ke (aJ (ad a 0) 13 λh=>K (.tuple ⟨[.agg ⟨h⟩,.i 4]⟩))))) (aJ (ad b 0) 13 λj=>bK 13 (ad a 0) j (aJ (ad a 0) 13 λk=>K (.tuple ⟨[.agg ⟨k⟩,.i 0]⟩))))))
def jn(o:BA)(K:VK):WK:=mk ke λd=>oO o (xP λa=>aM a 1 (xI .i64 λp=>cw (1=1/\True) (mk ke λc=>cw (13=13) (jY (ad c 0) [.i p,.l none 0 0,.l none 0 0,.i 0,.l none 0 0,.u 0,.u 0,.i 0,.i 0,.b false,.b false,.b false,.i 0] (lI (ad c 0) λe=>br (e==1) (kU a (.func (.func N.om) ⟨[]⟩ ⟨[]⟩) (xL λq r s=>st (ad c 1) (.l q r s) (jn.j1 K a d c))) (br (e==2) (kf a (.func (.func N.m9) ⟨[]⟩ ⟨[]⟩) (xL λt v w=>st (ad c 2) (.l t v w) (jn.j1 K a d c))) (br (e==3) (aM a 8 (xI .i64 λx=>st (ad c 3) (.i x) (jn.j1 K a d c))) (br (e==6) (cX a (xA 2 λf=>aM a 8 (xI .i64 λg=>aM a 8 (xI .i64 λh=>mV a (xB λj=>mV a (xB λk=>mV a (xB λm=>aM a 1 (xI .i64 λn=>cw (f.length=2/\(1=1/\(1=1/\(1=1/\(1=1/\(1=1/\(1=1/\True))))))) (cw ((f++([.i g,.i h,.b j,.b k,.b m,.i n]:LV)).length=8) (jY (ad c 5) (f++([.i g,.i h,.b j,.b k,.b m,.i n]:LV)) (jn.j1 K a d c))))))))))) (qm a (.func (.func N.cX) ⟨[]⟩ ⟨[]⟩) (xL λy z A=>st (ad c 4) (.l y z A) (jn.j1 K a d c)))))))))))
def rB(c:LV)(K:VK):WK:=mk c λa=>lI (ad a 0) λd=>br (d==1) (K (.b true)) (lI (ad a 0) λe=>br (e==2) (K (.b true)) (lI (ad a 0) λf=>K (.b (f==3))))
def gW(a:LV)(K:VK):WK:=mk a λc=>lI (ad c 12) λd=>K (.b ((dj .i64 .and d 1)!=0))
def gW.u:WP|[.agg ⟨a⟩],K=>gW a K|_,_=>no
def mP(o:OA)(f p:Nat)(q:Value)(K:VK):WK:=(lp [.i 0,.b false,.l o f p,.i (f:Int),.i 0] λm r=>∀g h c d j e a k,m [.i g,.b h,.l c d j,.i e,.i a] k->(br (decide (a<e)) (iW c d a 14 λs=>aJ s 14 λt=>mk eG λn=>bK 14 (ad n 0) t (aJ (ad n 0) 14 λv=>xF [(N.gW,gW.u)] q [.agg ⟨v⟩] (xB λw=>br (!w) (K (.tuple ⟨[.i (aa.wrap (a+1)),.b true]⟩)) ((ct m r [.i g,.b h,.l c d j,.i e,.i (aa.wrap (a+1))] [.i g,.b h,.l c d j,.i e,.i a] k))))) (K (.tuple ⟨[.i (f:Int),.b false]⟩))) k)
def jJ(e:OA)(c m:Nat)(g h:Int)(K:VK):WK:=(lp [.i (c:Int),.i 0] λf j=>∀b a d,f [.i b,.i a] d->(br (decide (a<b)) (iW e c a 1 λk=>st k (.i 1) ((ct f j [.i b,.i (aa.wrap (a+1))] [.i b,.i a] d))) (iW e c g 1 λl=>st l (.i h) (K (.tuple ⟨[]⟩)))) d)
def jJ.u:WP|[.slice a b c,.int .i64 d,.int .i64 e],K=>jJ a b c d e K|_,_=>no
def gi(a:OA)(K:VK):WK:=br (a.isNone) (K (.i 0)) (nn a λb=>lL b λd c e=>K (.i (c:Int)))
def dV.j1(K:VK)(c a:Nat)(d:OA)(e:Int)(f:Bool):WK:=br f (aJ (ad c 0) 14 λg=>bK 14 (ad a 0) g (aJ (ad a 0) 14 λh=>K (.tuple ⟨[.agg ⟨h⟩,.b false]⟩))) (nn d λi=>lL i λj k o=>iW j k e 14 λl=>aJ l 14 λm=>bK 14 (ad a 0) m (aJ (ad a 0) 14 λn=>K (.tuple ⟨[.agg ⟨n⟩,.b true]⟩)))
def dV(b:OA)(a:Int)(K:VK):WK:=mk eG λc=>mk eG λd=>br (decide (a<0)) (dV.j1 K d c b a true) (gi b (xI .i64 λe=>dV.j1 K d c b a (decide (a>=e))))
def dW(c:OA)(d:LV)(K:VK):WK:=mk d λe=>mk eG λa=>br (c.isNone) (cw True (cw (14=14) (jY (ad a 0) eG (aJ (ad a 0) 14 λf=>K (.tuple ⟨[.agg ⟨f⟩,.b false]⟩))))) (tick (nn c λg=>lP (g.add 3) λh=>aJ (ad e 0) 2 λi=>iv h i (x2 λj k=>(xI .i64 λl=>(xB λm=>br (!m) (cw True (cw (14=14) (jY (ad a 0) eG (aJ (ad a 0) 14 λn=>K (.tuple ⟨[.agg ⟨n⟩,.b false]⟩))))) (nn c λo=>lP (o.add 1) λp=>dV p l (x2 λq r=>(xA 14 λs=>(xB λt=>bK 14 (ad a 0) s (aJ (ad a 0) 14 λu=>K (.tuple ⟨[.agg ⟨u⟩,.b t]⟩))) r) q))) k) j)))
def iO(a:LV)(K:VK):WK:=mk a λc=>aJ (ad c 0) 2 λd=>cw True (sm [.u 0,.u 0] d [.u 0,.u 0] λe=>K (.b e))
def mA.j2(K:VK)(a:Nat)(c:Bool):WK:=br c (aJ (ad a 8) 2 λd=>iO d (xB λe=>br e (lI (ad a 13) λf=>K (.b (f==0))) (K (.b false)))) (K (.b false))
def mA.j1(K:VK)(a:Nat)(b:Bool):WK:=br b (aJ (ad a 6) 2 λc=>iO c (xB λd=>mA.j2 K a d)) (mA.j2 K a false)
def mA(b:LV)(K:VK):WK:=mk b λa=>aJ (ad a 2) 2 λc=>iO c (xB λd=>br d (aJ (ad a 4) 2 λe=>iO e (xB λf=>mA.j1 K a f)) (mA.j1 K a false))
def qH.j1(K:VK)(a:Nat)(b:Bool):WK:=br b (K (.i 8)) (lI (ad a 11) λc=>br (decide (c<1)) (K (.i 9)) (lI (ad a 11) λd=>br (decide (d>65535)) (K (.i 9)) (K (.i 0))))
def qH(b:LV)(K:VK):WK:=mk b λa=>lI (ad a 12) λc=>br ((dj .i64 .andNot c 7)!=0) (K (.i 3)) (aJ (ad a 0) 2 λd=>iO d (xB λe=>br e (K (.i 4)) (aJ (ad a 0) 2 λf=>aJ (ad N.ux 0) 2 λg=>sm [.u 0,.u 0] f g λh=>br h (K (.i 5)) (lI (ad a 12) λj=>br ((dj .i64 .and j 6)==6) (K (.i 6)) (aJ (ad a 0) 14 λk=>mA k (xB λl=>br (!l) (K (.i 7)) (lI (ad a 10) λm=>br (decide (m<1)) (qH.j1 K a true) (lI (ad a 10) λn=>qH.j1 K a (decide (n>4294967295))))))))))
def qI.j1(K:VK)(a b:Nat)(c:Bool):WK:=br c (lI (ad a 12) λd=>lI (ad b 12) λe=>br ((dj .i64 .and d 6)==(dj .i64 .and e 6)) (K (.i 10)) (K (.i 11))) (K (.i 11))
def qI(c d:LV)(K:VK):WK:=mk c λa=>mk d λb=>lI (ad a 10) λe=>lI (ad b 10) λf=>br (e==f) (lI (ad a 11) λg=>lI (ad b 11) λh=>qI.j1 K a b (g==h)) (qI.j1 K a b false)
def eH(b:Addr)(K:VK):WK:=lP b λa=>nn a λc=>lI (c.add 8) λd=>nn a λe=>st (e.add 8) (.i (aa.wrap (d-1))) (K (.tuple ⟨[]⟩))
def eH.u:WP|[.pointer (some a)],K=>eH a K|_,_=>no
def o5(c:OA)(K:VK):WK:=mk [.p c] λa=>lP (ad a 0) λb=>nn b λd=>lI (d.add 8) λe=>nn b λf=>st (f.add 8) (.i (aa.wrap (e+1))) (lP (ad a 0) λg=>nn g λh=>iD (some h) (.func (.func N.eH) ⟨[]⟩ ⟨[.p (some (ad a 0))]⟩) (x0 (lP (ad a 0) λj=>nn j λk=>lI (k.add 8) λl=>K (.i l))))
def oR(a:OA)(c:LV)(K:VK):WK:=mk c λd=>br (a.isNone) (K (.b false)) (aJ (ad d 0) 2 λe=>dA a e (x2 λf g=>(xI .i64 λh=>(xB λj=>br (!j) (K (.b false)) (nn a λk=>lL k λl m v=>cw (1=1/\True) (iW l m h 4 λn=>cw (4=4) (jY n [.u 0,.u 0,.i 0,.int .u8 2] (nn a λo=>lI (o.add 1) λp=>nn a λq=>st (q.add 1) (.i (aa.wrap (p-1))) (nn a λr=>lI (r.add 2) λs=>nn a λt=>st (t.add 2) (.i (aa.wrap (s+1))) (K (.b true)))))))) g) f))
def eL(a c:Addr)(K:VK):WK:=tick (lP a λb=>nn b λd=>lP (d.add 3) λe=>aJ c 2 λf=>oR e f (xB λg=>kp a [.p b] (K (.tuple ⟨[]⟩))))
def eL.u:WP|[.pointer (some a),.pointer (some b)],K=>eL a b K|_,_=>no
def m8(k:OA)(l:LV)(K:VK):WK:=mk [.p k] λa=>mk l λb=>lP (ad a 0) λm=>br (m.isNone) (K (.i 2)) (lP (ad a 0) λn=>nn n λo=>lP (o.add 1) λq=>gi q (xI .i64 λr=>br (decide (r>=32)) (K (.i 6)) (tick (lP (ad a 0) λe=>nn e λs=>lP (s.add 3) λt=>aJ (ad b 0) 2 λu=>iv t u (x2 λv w=>(xI .i64 λI=>(xB λx=>kp (ad a 0) [.p e] (br x (K (.i 1)) (lP (ad a 0) λy=>o5 y (xI .i64 λz=>st (ad b 13) (.i z) (tick (lP (ad a 0) λc=>nn c λf=>lP (f.add 3) λg=>aJ (ad b 0) 2 λh=>lP (ad a 0) λd=>nn d λA=>lP (A.add 1) λB=>gi B (xI .i64 λC=>kp (ad a 0) [.p d] (kp (ad b 0) h (kp (f.add 3) [.p g] (kp (ad a 0) [.p c] (dZ g h C (xB λJ=>kp (ad a 0) [.p d] (kp (ad a 0) [.p c] (lP (ad a 0) λD=>nn D λE=>iD (some E) (.func (.func N.eL) ⟨[]⟩ ⟨[.p (some (ad a 0)),.p (some (ad b 0))]⟩) (x0 (tick (lP (ad a 0) λj=>nn j λF=>lP (F.add 1) λG=>aJ (ad b 0) 14 λH=>iY G H (xI .i64 λM=>kp (ad a 0) [.p j] (K (.i 0)))))))))))))))))))) w) v)))))
def mz(b:OA)(e:LV)(K:VK):WK:=mk e λa=>aJ (ad a 0) 14 λf=>qH f (xI .i64 λc=>br (c !=0) (K (.i c)) (aJ (ad a 0) 2 λg=>dW b g (x2 λh j=>(xA 14 λk=>(xB λl=>mk eG λd=>bK 14 (ad d 0) k (br l (aJ (ad a 0) 14 λm=>aJ (ad d 0) 14 λn=>qI m n (xI .i64 λo=>K (.i o))) (lI (ad a 12) λp=>st (ad a 12) (.i (dj .i64 .andNot p 1)) (aJ (ad a 0) 14 λq=>m8 b q (xI .i64 λr=>br (r !=0) (K (.i 35)) (K (.i 0))))))) j) h)))
def mz.u:WP|[.pointer a,.agg ⟨b⟩],K=>mz a b K|_,_=>no
def tP(a:OA)(K:VK):WK:=br (a.isNone) (K (.i 0)) (nn a λb=>lL b λd c e=>K (.i (c:Int)))
def fO(a:OA)(K:VK):WK:=br (a.isNone) (K (.i 0)) (nn a λb=>tP (some b) (xI .i64 λc=>K (.i c)))
def fO.u:WP|[.pointer a],K=>fO a K|_,_=>no
def eJ(a b:Addr)(K:VK):WK:=lP b λc=>lI a λd=>nn c λe=>st (e.add 7) (.i d) (K (.tuple ⟨[]⟩))
def eJ.u:WP|[.pointer (some a),.pointer (some b)],K=>eJ a b K|_,_=>no
def fp(a c:Addr)(K:VK):WK:=tick (lP a λb=>nn b λd=>aJ c 4 λe=>mr (some (d.add 6)) e (x0 (kp a [.p b] (K (.tuple ⟨[]⟩)))))
def fp.u:WP|[.pointer (some a),.pointer (some b)],K=>fp a b K|_,_=>no
def jG.j1(K:VK)(a:OA)(c:Int)(n:Bool):WK:=br n (K (.b false)) (tick (nn a λd=>lL d λe f g=>tf e f g 2 none (some c) λo p q=>nn a λh=>lL h λj k m=>tf j k m 2 (some (aa.wrap (c+1))) none λr s x=>iP 2 16 [.i 0,.i 0] o p q r s λt u v=>kp h [.l j k m] (kp d [.l e f g] (nn a λw=>st w (.l t u v) (K (.b true))))))
def jG(a:OA)(d:Int)(K:VK):WK:=br (a.isNone) (K (.b false)) (mu a d (xI .i64 λc=>nn a λe=>lL e λl f m=>br (c==(f:Int)) (jG.j1 K a c true) (nn a λg=>lL g λh i n=>iW h i c 2 λj=>lI j λk=>jG.j1 K a c (k !=d))))
def eP(a d e:Addr)(K:VK):WK:=tick (lP a λb=>nn b λf=>lP (f.add 4) λg=>aJ d 2 λh=>oR g h (xB λk=>kp a [.p b] (tick (lP a λc=>nn c λi=>lI (e.add 30) λj=>jG (some (i.add 5)) j (xB λl=>kp a [.p c] (K (.tuple ⟨[]⟩)))))))
def eP.u:WP|[.pointer (some a),.pointer (some b),.pointer (some c)],K=>eP a b c K|_,_=>no
def fN.j1(K:VK)(a:OA)(d:LI)(e:LM)(f:Int)(g:World)(c b:Int):WK:=br (b==c) (K (.tuple ⟨[]⟩)) (tick (nn a λh=>lL h λj k A=>nn a λl=>lL l λm n B=>nn a λo=>lL o λp q C=>iW p q b 4 λr=>aJ r 4 λs=>nn a λt=>lL t λu v D=>iW u v c 4 λw=>aJ w 4 λx=>iW j k c 4 λy=>bK 4 y s (iW m n b 4 λz=>bK 4 z x ((ct d e [.i b] [.i f] g)))))
def fN.j2(K:VK)(d:OA)(a b:Int)(e:LI)(c:Int)(f:LM)(g:World)(p:LI)(q:LM)(r:Int)(s:World)(t:Bool):WK:=br t (tick (nn d λh=>lL h λj k u=>iW j k a 4 λv=>aJ v 4 λw=>nn d λm=>lL m λn o x=>iW n o b 4 λy=>aJ y 4 λz=>sz w z (xB λA=>kp m [.l n o x] (kp h [.l j k u] (br A ((ct e f [.i c,.i a,.i (aa.wrap (a+1))] [.i c,.i b,.i a] g)) ((ct e f [.i c,.i b,.i (aa.wrap (a+1))] [.i c,.i b,.i a] g))))))) (fN.j1 K d p q r s c b)
def fN(f:OA)(m:Int)(K:VK):WK:=(lp [.i m] λg k=>∀a c,g [.i a] c->((lp [.i a,.i a,.i (aa.wrap ((aa.wrap (2* a))+1))] λh l=>∀d j b e,h [.i d,.i j,.i b] e->(br (decide (b<=(aa.wrap ((aa.wrap (2* d))+2)))) (nn f λn=>lL n λp o q=>fN.j2 K f b j h d l e g k a c (decide (b<(o:Int)))) (fN.j2 K f b j h d l e g k a c false)) e)) c)
def qO(a:OA)(b:Int)(K:VK):WK:=mk y4 λd=>tick (nn a λg=>lL g λh i o=>iW h i b 4 λj=>aJ j 4 λk=>nn a λe=>lL e λm c n=>mk y4 λf=>kp e [.l m c n] (kp j k (kp g [.l h i o] (bK 4 (ad f 0) k (kp e [.l m c n] (tick (nn a λp=>lL p λq r M=>nn a λs=>lL s λt u O=>iW t u (aa.wrap ((c:Int) -1)) 4 λv=>aJ v 4 λw=>iW q r b 4 λx=>bK 4 x w (nn a λy=>lL y λz A B=>tf z A B 4 none (some (aa.wrap ((c:Int) -1))) λC D E=>nn a λF=>st F (.l C D E) (br (decide (b<(aa.wrap ((c:Int) -1)))) (fN a b (x0 (jz a b (x0 (aJ (ad f 0) 4 λG=>bK 4 (ad d 0) G (aJ (ad d 0) 4 λH=>K (.agg ⟨H⟩))))))) (aJ (ad f 0) 4 λI=>bK 4 (ad d 0) I (aJ (ad d 0) 4 λJ=>K (.agg ⟨J⟩))))))))))))
def mX(f:OA)(o:Int)(K:VK):WK:=br (f.isNone) (K (.b false)) (nn f λp=>lL p λq k r=>(lp [.b false,.l q k r,.i (k:Int),.i 0] λm s=>∀g c d h e a j,m [.b g,.l c d h,.i e,.i a] j->(br (decide (a<e)) (iW c d a 4 λt=>aJ t 4 λu=>mk y4 λn=>bK 4 (ad n 0) u (lI (ad n 1) λv=>br (v==o) (qO f a (xA 4 λw=>K (.b true))) ((ct m s [.b g,.l c d h,.i e,.i (aa.wrap (a+1))] [.b g,.l c d h,.i e,.i a] j)))) (K (.b false))) j))
def eO(a c:Addr)(K:VK):WK:=tick (lP a λb=>nn b λd=>lI (c.add 1) λe=>mX (some (d.add 6)) e (xB λf=>kp a [.p b] (K (.tuple ⟨[]⟩))))
def eO.u:WP|[.pointer (some a),.pointer (some b)],K=>eO a b K|_,_=>no
def cI(a b c:Addr)(K:VK):WK:=tick (lP b λd=>nn d λe=>lL e λf g k=>lI c λh=>aJ a 14 λi=>iW f g h 14 λj=>bK 14 j i (K (.tuple ⟨[]⟩)))
def cI.u:WP|[.pointer (some a),.pointer (some b),.pointer (some c)],K=>cI a b c K|_,_=>no
def c9(a b c:Addr)(K:VK):WK:=tick (lP b λd=>nn d λe=>lL e λf g k=>lI c λh=>aJ a 33 λi=>iW f g h 33 λj=>bK 33 j i (K (.tuple ⟨[]⟩)))
def c9.u:WP|[.pointer (some a),.pointer (some b),.pointer (some c)],K=>c9 a b c K|_,_=>no
def tQ(a:OA)(e:Int)(K:VK):WK:=br (a.isNone) (K (.tuple ⟨[]⟩)) ((lp [] λc f=>∀b,c [] b->(nn a λg=>lL g λy h z=>br (decide ((h:Int)>(max2 e 0))) (nn a λi=>lL i λA d B=>nn a λj=>lL j λk m C=>iW k m (aa.wrap ((d:Int) -1)) 1 λn=>ld n λo=>xF [(N.fp,fp.u),(N.eP,eP.u),(N.eO,eO.u),(N.eL,eL.u),(N.eJ,eJ.u),(N.eH,eH.u),(N.cJ,cJ.u),(N.cI,cI.u),(N.da,da.u),(N.c9,c9.u)] o [] (x0 (nn a λp=>lL p λq r s=>tf q r s 1 none (some (aa.wrap ((d:Int) -1))) λt v w=>nn a λx=>st x (.l t v w) ((ct c f [] [] b))))) (K (.tuple ⟨[]⟩))) b))
def fP(a:OA)(b:Int)(K:VK):WK:=br (!(a.isNone)) (nn a λc=>tQ (some c) b (x0 (K (.tuple ⟨[]⟩)))) (K (.tuple ⟨[]⟩))
def fP.u:WP|[.pointer a,.int .i64 b],K=>fP a b K|_,_=>no
def nA(f o:OA)(j q:Nat)(r:OA)(s t:Nat)(v:Value)(K:VK):WK:=fO f (xI .i64 λw=>(lp [.i w,.l o j q,.i (j:Int),.i 0] λk x=>∀b c d g e a h,k [.i b,.l c d g,.i e,.i a] h->(br (decide (a<e)) (iW c d a 14 λy=>aJ y 14 λz=>mk eG λm=>bK 14 (ad m 0) z (aJ (ad m 0) 14 λA=>xF [(N.fP,fP.u),(N.fO,fO.u),(N.mz,mz.u),(N.jJ,jJ.u)] v [.p f,.agg ⟨A⟩] (xI .i64 λn=>br (n !=0) (fP f b (x0 (jJ r s t a n (x0 (K (.tuple ⟨[]⟩)))))) ((ct k x [.i b,.l c d g,.i e,.i (aa.wrap (a+1))] [.i b,.l c d g,.i e,.i a] h))))) (K (.tuple ⟨[]⟩))) h))
def qi(t n:OA)(e o:Nat)(u v:Value)(K:VK):WK:=L3 8 [.i 0] (e:Int) (e:Int) λw x y=>(lp [.l none 0 0,.l w x y,.i 0] λm p=>∀f g h b c d a k,m [.l f g h,.l b c d,.i a] k->(br (decide (a<(e:Int))) (tf n e o 14 (some a) none λz A B=>mP z A B (u) (x2 λC D=>(xI .i64 λj=>(xB λE=>tf b c d 1 (some a) (some (aa.wrap (a+j))) λq r s=>br (!E) (jJ q r s (aa.wrap (j-1)) 2 (x0 ((ct m p [.l f g h,.l b c d,.i (aa.wrap (a+j))] [.l f g h,.l b c d,.i a] k)))) (tf n e o 14 (some a) (some (aa.wrap (a+j))) λF G H=>nA t F G H q r s (v) (x0 ((ct m p [.l f g h,.l b c d,.i (aa.wrap (a+j))] [.l f g h,.l b c d,.i a] k))))) D) C)) (K (.l b c d))) k)
def sQ(a b:OA)(c d:Nat)(K:VK):WK:=qi a b c d (.func (.func N.gW) ⟨[]⟩ ⟨[]⟩) (.func (.func N.mz) ⟨[]⟩ ⟨[]⟩) (xL λe f g=>K (.l e f g))
def gB(a:LV)(K:VK):WK:=mk a λc=>lI (ad c 13) λd=>K (.b ((dj .i64 .and d 1)!=0))
def gB.u:WP|[.agg ⟨a⟩],K=>gB a K|_,_=>no
def ma(o:OA)(f p:Nat)(q:Value)(K:VK):WK:=(lp [.i 0,.b false,.l o f p,.i (f:Int),.i 0] λm r=>∀g h c d j e a k,m [.i g,.b h,.l c d j,.i e,.i a] k->(br (decide (a<e)) (iW c d a 16 λs=>aJ s 16 λt=>mk iL λn=>bK 16 (ad n 0) t (aJ (ad n 0) 16 λv=>xF [(N.gB,gB.u)] q [.agg ⟨v⟩] (xB λw=>br (!w) (K (.tuple ⟨[.i (aa.wrap (a+1)),.b true]⟩)) ((ct m r [.i g,.b h,.l c d j,.i e,.i (aa.wrap (a+1))] [.i g,.b h,.l c d j,.i e,.i a] k))))) (K (.tuple ⟨[.i (f:Int),.b false]⟩))) k)
def tu(a:LV)(K:VK):WK:=mk a λc=>lI (ad c 13) λd=>K (.b ((dj .i64 .and d 12)!=0))
def mH(a:LV)(K:VK):WK:=mk a λc=>lI (ad c 13) λd=>K (.b ((dj .i64 .and d 2)!=0))
def lu.j1(K:VK)(a:Addr)(c:Bool):WK:=br c (lI (a.add 13) λd=>br ((dj .i64 .and d 192)==0) (K (.b true)) (aJ a 16 λe=>mH e (xB λf=>K (.b f)))) (K (.b false))
def lu(k:LV)(K:VK):WK:=mk k λl=>cw (1=1/\(1=1/\(1=1/\True))) ((lp [.p (some (ad l 0)),.b false,.i 0,.agg ⟨[.i 2,.i 4,.i 8]⟩,.i 0] λh j=>∀a f d e c g,h [.p (some a),.b f,.i d,.agg ⟨e⟩,.i c] g->(br (decide (c<3)) (DQ e 3 c (xI .i64 λm=>lI (a.add 13) λn=>br ((dj .i64 .and n m)!=0) ((ct h j [.p (some a),.b f,.i (aa.wrap (d+1)),.agg ⟨e⟩,.i (aa.wrap (c+1))] [.p (some a),.b f,.i d,.agg ⟨e⟩,.i c] g)) ((ct h j [.p (some a),.b f,.i d,.agg ⟨e⟩,.i (aa.wrap (c+1))] [.p (some a),.b f,.i d,.agg ⟨e⟩,.i c] g)))) (br (decide (d<=1)) (aJ a 16 λo=>tu o (xB λq=>br q (lI (a.add 13) λr=>lu.j1 K a (!((dj .i64 .and r 240)!=0))) (lu.j1 K a true))) (lu.j1 K a false))) g))
def pg.j1(K:VK)(a:Nat)(b:Bool):WK:=br b (K (.i 8)) (lI (ad a 12) λc=>br (decide (c<0)) (K (.i 9)) (lI (ad a 12) λd=>br (decide (d>65535)) (K (.i 9)) (K (.i 0))))
def pg(b:LV)(K:VK):WK:=mk b λa=>aJ (ad a 8) 2 λc=>iO c (xB λd=>br d (K (.i 16)) (lI (ad a 11) λe=>br (decide (e<0)) (pg.j1 K a true) (lI (ad a 11) λf=>pg.j1 K a (decide (f>4294967295)))))
def rj(a:LV)(K:VK):WK:=mk a λc=>lI (ad c 13) λd=>K (.b ((dj .i64 .and d 48)!=0))
def kD.j2(K:VK)(a:Nat)(b:Bool):WK:=br b (K (.i 8)) (lI (ad a 12) λc=>br (decide (c<1)) (K (.i 9)) (lI (ad a 12) λd=>br (decide (d>65535)) (K (.i 9)) (K (.i 0))))
def kD.j1(K:VK)(a:Nat)(b:Bool):WK:=br b (K (.i 18)) (lI (ad a 11) λc=>br (decide (c<1)) (kD.j2 K a true) (lI (ad a 11) λd=>kD.j2 K a (decide (d>4294967295))))
def kD(b:LV)(K:VK):WK:=mk b λa=>aJ (ad a 2) 2 λc=>iO c (xB λd=>br d (K (.i 12)) (aJ (ad a 4) 2 λe=>iO e (xB λf=>br f (K (.i 13)) (aJ (ad a 2) 2 λg=>aJ (ad a 4) 2 λh=>sm [.u 0,.u 0] g h λj=>br j (K (.i 14)) (aJ (ad a 8) 2 λk=>iO k (xB λl=>br (!l) (K (.i 15)) (aJ (ad a 6) 2 λm=>iO m (xB λn=>br n (aJ (ad a 0) 16 λo=>rj o (xB λp=>kD.j1 K a (!p))) (kD.j1 K a false)))))))))
def fD.j3(K:VK)(a:Nat)(b:Bool):WK:=br b (K (.i 17)) (aJ (ad a 0) 16 λc=>tu c (xB λd=>br d (aJ (ad a 0) 16 λe=>pg e (xI .i64 λf=>K (.i f))) (aJ (ad a 0) 16 λg=>kD g (xI .i64 λh=>K (.i h)))))
def fD.j4(K:VK)(a:Nat)(b:Bool):WK:=br b (fD.j3 K a true) (lI (ad a 10) λc=>br (c !=0) (aJ (ad a 0) 16 λd=>mH d (xB λe=>fD.j3 K a (!e))) (fD.j3 K a false))
def fD.j2(K:VK)(a:Nat)(b:Bool):WK:=br b (K (.i 7)) (lI (ad a 10) λc=>br (decide (c<0)) (fD.j4 K a true) (lI (ad a 10) λd=>fD.j4 K a (decide (d>1073741824))))
def fD.j1(K:VK)(a:Nat)(b:Bool):WK:=br b (K (.i 3)) (aJ (ad a 0) 2 λc=>iO c (xB λd=>br d (K (.i 4)) (aJ (ad a 0) 2 λe=>aJ (ad N.ux 0) 2 λf=>sm [.u 0,.u 0] e f λg=>br g (K (.i 5)) (aJ (ad a 0) 16 λh=>lu h (xB λj=>br (!j) (K (.i 6)) (lI (ad a 14) λk=>br (k !=0) (fD.j2 K a true) (lI (ad a 15) λl=>fD.j2 K a (l !=0))))))))
def fD(b:LV)(K:VK):WK:=mk b λa=>lI (ad a 13) λc=>br (decide (c<0)) (fD.j1 K a true) (lI (ad a 13) λd=>fD.j1 K a (decide (d>255)))
def dT.j1(K:VK)(c a:Nat)(d:OA)(e:Int)(f:Bool):WK:=br f (aJ (ad c 0) 33 λg=>bK 33 (ad a 0) g (aJ (ad a 0) 33 λh=>K (.tuple ⟨[.agg ⟨h⟩,.b false]⟩))) (nn d λi=>lL i λj k o=>iW j k e 33 λl=>aJ l 33 λm=>bK 33 (ad a 0) m (aJ (ad a 0) 33 λn=>K (.tuple ⟨[.agg ⟨n⟩,.b true]⟩)))
def dT(b:OA)(a:Int)(K:VK):WK:=mk cN λc=>mk cN λd=>br (decide (a<0)) (dT.j1 K d c b a true) (gv b (xI .i64 λe=>dT.j1 K d c b a (decide (a>=e))))
def iF(c:OA)(d:LV)(K:VK):WK:=mk d λe=>mk cN λa=>br (c.isNone) (cw True (cw (33=33) (jY (ad a 0) cN (aJ (ad a 0) 33 λf=>K (.tuple ⟨[.agg ⟨f⟩,.b false]⟩))))) (tick (nn c λg=>lP (g.add 4) λh=>aJ (ad e 0) 2 λi=>iv h i (x2 λj k=>(xI .i64 λl=>(xB λm=>br (!m) (cw True (cw (33=33) (jY (ad a 0) cN (aJ (ad a 0) 33 λn=>K (.tuple ⟨[.agg ⟨n⟩,.b false]⟩))))) (nn c λo=>lP (o.add 2) λp=>dT p l (x2 λq r=>(xA 33 λs=>(xB λt=>bK 33 (ad a 0) s (aJ (ad a 0) 33 λu=>K (.tuple ⟨[.agg ⟨u⟩,.b t]⟩))) r) q))) k) j)))
def kK(e:OA)(f:Int)(g:LV)(K:VK):WK:=mk [.p e] λa=>mk [.i f] λc=>mk g λh=>lP (ad a 0) λj=>lI (ad c 0) λk=>dV j k (x2 λl m=>(xA 14 λn=>(xB λo=>mk eG λd=>bK 14 (ad d 0) n (br (!o) (K (.b false)) (tick (lP (ad a 0) λq=>nn q λr=>lL r λs t A=>lI (ad c 0) λu=>aJ (ad h 0) 14 λv=>iW s t u 14 λw=>bK 14 w v (lP (ad a 0) λx=>nn x λy=>lP (y.add 1) λz=>iD z (.func (.func N.cI) ⟨[]⟩ ⟨[.p (some (ad d 0)),.p (some (ad a 0)),.p (some (ad c 0))]⟩) (x0 (K (.b true)))))))) m) l)
def lj(a:OA)(d:LV)(K:VK):WK:=mk d λb=>aJ (ad b 0) 2 λe=>dW a e (x2 λf g=>(xA 14 λh=>(xB λj=>mk eG λc=>bK 14 (ad c 0) h (br (a.isNone) (K (.i 2)) (br (!j) (K (.i 5)) (tick (nn a λk=>lP (k.add 3) λl=>aJ (ad b 0) 2 λm=>iv l m (x2 λn o=>(xI .i64 λp=>(xB λu=>lI (ad c 13) λq=>st (ad b 13) (.i q) (tick (nn a λr=>lP (r.add 1) λs=>aJ (ad b 0) 14 λt=>kK s p t (xB λv=>K (.i 0))))) o) n)))))) g) f)
def vm(d e:LV)(K:VK):WK:=mk d λb=>mk e λa=>tick (lI (ad b 13) λf=>lI (ad a 13) λc=>st (ad b 13) (.i (dj .i64 .andNot f 1)) (kp (ad a 13) [.i c] (st (ad a 13) (.i (dj .i64 .andNot c 1)) (aJ (ad b 0) 16 λg=>aJ (ad a 0) 16 λh=>sm iL g h λj=>br j (K (.i 10)) (K (.i 11))))))
def Ae(g:OA)(h:LV)(K:VK):WK:=mk h λd=>mk pe λa=>aJ (ad d 2) 2 λj=>dW g j (x2 λk l=>(xA 14 λm=>(xB λn=>mk eG λb=>bK 14 (ad b 0) m (aJ (ad d 4) 2 λo=>dW g o (x2 λp q=>(xA 14 λr=>(xB λs=>mk eG λc=>bK 14 (ad c 0) r (br (!n) (cw True (cw (28=28) (jY (ad a 0) pe (aJ (ad a 0) 28 λt=>K (.tuple ⟨[.agg ⟨t⟩,.i 19]⟩))))) (br (!s) (cw True (cw (28=28) (jY (ad a 0) pe (aJ (ad a 0) 28 λu=>K (.tuple ⟨[.agg ⟨u⟩,.i 20]⟩))))) (lI (ad b 10) λv=>lI (ad c 10) λw=>br (v !=w) (cw True (cw (28=28) (jY (ad a 0) pe (aJ (ad a 0) 28 λx=>K (.tuple ⟨[.agg ⟨x⟩,.i 21]⟩))))) (lI (ad b 10) λy=>lI (ad d 11) λz=>br (y !=z) (cw True (cw (28=28) (jY (ad a 0) pe (aJ (ad a 0) 28 λA=>K (.tuple ⟨[.agg ⟨A⟩,.i 22]⟩))))) (lI (ad b 12) λB=>br ((dj .i64 .and B 8)!=0) (cw True (cw (28=28) (jY (ad a 0) pe (aJ (ad a 0) 28 λC=>K (.tuple ⟨[.agg ⟨C⟩,.i 30]⟩))))) (lI (ad c 12) λD=>br ((dj .i64 .and D 8)!=0) (cw True (cw (28=28) (jY (ad a 0) pe (aJ (ad a 0) 28 λE=>K (.tuple ⟨[.agg ⟨E⟩,.i 31]⟩))))) (aJ (ad b 0) 14 λe=>aJ (ad c 0) 14 λf=>cw (e.length=14/\(f.length=14/\True)) (cw ((e++(f++[])).length=28) (jY (ad a 0) (e++(f++[])) (aJ (ad a 0) 28 λF=>K (.tuple ⟨[.agg ⟨F⟩,.i 0]⟩)))))))))))) q) p))) l) k)
def o7(a:OA)(K:VK):WK:=br (!(a.isNone)) (nn a λc=>lP (c.add 2) λd=>gv d (xI .i64 λe=>K (.b (decide (e<96))))) (K (.b false))
def uS(c d:LV)(K:VK):WK:=mk c λa=>mk d λb=>aJ (ad a 0) 2 λe=>aJ (ad b 0) 2 λf=>sm [.u 0,.u 0] e f λg=>br g (K (.i 0)) (lU (ad a 0) λh=>lU (ad b 0) λj=>br (decide (h<j)) (K (.i (-1))) (lU (ad a 0) λk=>lU (ad b 0) λl=>br (k==l) (lU (ad a 1) λm=>lU (ad b 1) λn=>br (decide (m<n)) (K (.i (-1))) (K (.i 1))) (K (.i 1))))
def rZ(a c:LV)(K:VK):WK:=mk a λd=>mk c λe=>aJ (ad d 0) 2 λf=>aJ (ad e 0) 2 λg=>uS f g (xI .i64 λh=>K (.b (decide (h<0))))
def y6(d e:LV)(K:VK):WK:=mk d λb=>mk e λc=>mk [.u 0,.u 0] λa=>aJ (ad c 0) 2 λf=>aJ (ad b 0) 2 λg=>rZ f g (xB λh=>br h (aJ (ad c 0) 2 λi=>bK 2 (ad a 0) i (aJ (ad a 0) 2 λj=>K (.agg ⟨j⟩))) (aJ (ad b 0) 2 λk=>bK 2 (ad a 0) k (aJ (ad a 0) 2 λl=>K (.agg ⟨l⟩))))
def qx(e f:LV)(K:VK):WK:=mk e λc=>mk f λd=>mk [.u 0,.u 0] λa=>aJ (ad c 0) 2 λg=>aJ (ad d 0) 2 λh=>rZ g h (xB λi=>br i (cw True (cw (2=2) (jY (ad a 0) [.u 0,.u 0] (aJ (ad a 0) 2 λj=>K (.tuple ⟨[.agg ⟨j⟩,.b false]⟩))))) (lU (ad c 1) λk=>lU (ad d 1) λl=>rU k l 0 (x2 λm n=>(xI .u64 λo=>(xI .u64 λp=>lU (ad c 0) λq=>lU (ad d 0) λr=>rU q r p (x2 λs t=>(xI .u64 λv=>(xI .u64 λx=>cw (1=1/\(1=1/\True)) (cw (2=2) (jY (ad a 0) [.u v,.u o] (aJ (ad a 0) 2 λw=>K (.tuple ⟨[.agg ⟨w⟩,.b true]⟩))))) t) s)) n) m)))
def qy(e f:LV)(K:VK):WK:=mk e λc=>mk f λd=>mk [.u 0,.u 0] λa=>lU (ad c 1) λg=>lU (ad d 1) λh=>rV g h 0 (x2 λi j=>(xI .u64 λk=>(xI .u64 λl=>lU (ad c 0) λm=>lU (ad d 0) λn=>rV m n l (x2 λo p=>(xI .u64 λq=>(xI .u64 λr=>br (r !=0) (cw True (cw (2=2) (jY (ad a 0) [.u 0,.u 0] (aJ (ad a 0) 2 λs=>K (.tuple ⟨[.agg ⟨s⟩,.b false]⟩))))) (cw (1=1/\(1=1/\True)) (cw (2=2) (jY (ad a 0) [.u q,.u k] (aJ (ad a 0) 2 λt=>K (.tuple ⟨[.agg ⟨t⟩,.b true]⟩)))))) p) o)) j) i)
def ji(c d:LV)(K:VK):WK:=mk c λe=>mk d λf=>mk [.u 0,.u 0] λa=>aJ (ad e 0) 2 λg=>aJ (ad f 0) 2 λh=>qy g h (x2 λi j=>(xA 2 λk=>(xB λl=>mk [.u 0,.u 0] λb=>bK 2 (ad b 0) k (br (!l) (aJ (ad N.ux 0) 2 λm=>bK 2 (ad a 0) m (aJ (ad a 0) 2 λn=>K (.agg ⟨n⟩))) (aJ (ad b 0) 2 λo=>bK 2 (ad a 0) o (aJ (ad a 0) 2 λp=>K (.agg ⟨p⟩))))) j) i)
def dO.j1(K:VK)(c d a:Nat):WK:=aJ (ad c 0) 2 λe=>aJ (ad d 0) 2 λf=>qx e f (x2 λg h=>(xA 2 λi=>(xB λl=>mk [.u 0,.u 0] λb=>bK 2 (ad b 0) i (aJ (ad b 0) 2 λj=>bK 2 (ad a 0) j (aJ (ad a 0) 2 λk=>K (.agg ⟨k⟩)))) h) g)
def dO.j2(K:VK)(c d a:Nat):WK:=aJ (ad c 0) 2 λe=>aJ (ad d 0) 2 λf=>qx e f (x2 λg h=>(xA 2 λi=>(xB λl=>mk [.u 0,.u 0] λb=>bK 2 (ad b 0) i (aJ (ad b 0) 2 λj=>bK 2 (ad a 0) j (aJ (ad a 0) 2 λk=>K (.agg ⟨k⟩)))) h) g)
def dO.j3(K:VK)(c d a:Nat):WK:=aJ (ad c 0) 2 λe=>aJ (ad d 0) 2 λf=>qx e f (x2 λg h=>(xA 2 λi=>(xB λl=>mk [.u 0,.u 0] λb=>bK 2 (ad b 0) i (aJ (ad b 0) 2 λj=>bK 2 (ad a 0) j (aJ (ad a 0) 2 λk=>K (.agg ⟨k⟩)))) h) g)
def dO.j4(K:VK)(c d a:Nat):WK:=aJ (ad c 0) 2 λe=>aJ (ad d 0) 2 λf=>qx e f (x2 λg h=>(xA 2 λi=>(xB λl=>mk [.u 0,.u 0] λb=>bK 2 (ad b 0) i (aJ (ad b 0) 2 λj=>bK 2 (ad a 0) j (aJ (ad a 0) 2 λk=>K (.agg ⟨k⟩)))) h) g)
def dO.j5(K:VK)(c d a:Nat):WK:=aJ (ad c 0) 2 λe=>aJ (ad d 0) 2 λf=>qx e f (x2 λg h=>(xA 2 λi=>(xB λl=>mk [.u 0,.u 0] λb=>bK 2 (ad b 0) i (aJ (ad b 0) 2 λj=>bK 2 (ad a 0) j (aJ (ad a 0) 2 λk=>K (.agg ⟨k⟩)))) h) g)
def dO.j6(K:VK)(c d a:Nat):WK:=aJ (ad c 0) 2 λe=>aJ (ad d 0) 2 λf=>qx e f (x2 λg h=>(xA 2 λi=>(xB λl=>mk [.u 0,.u 0] λb=>bK 2 (ad b 0) i (aJ (ad b 0) 2 λj=>bK 2 (ad a 0) j (aJ (ad a 0) 2 λk=>K (.agg ⟨k⟩)))) h) g)
def dO(y:LV)(h:Bool)(K:VK):WK:=mk y λa=>mk [.u 0,.u 0] λc=>tick (aJ (ad a 4) 2 λb=>aJ (ad a 6) 2 λd=>aJ (ad a 8) 2 λe=>both (ji d e (xA 2 λq=>kp (ad a 4) b (both (mk [.u 0,.u 0] λi=>kp (ad a 4) b (mk [.u 0,.u 0] λj=>kp (ad a 4) b (bK 2 (ad i 0) b (bK 2 (ad j 0) q (br h (tick (aJ (ad a 8) 2 λr=>aJ (ad a 2) 2 λz=>aJ (ad a 4) 2 λA=>ji z A (xA 2 λB=>kp (ad a 8) r (bK 2 (ad i 0) r (bK 2 (ad j 0) B (dO.j1 K i j c)))))) (dO.j1 K i j c)))))) (mk [.u 0,.u 0] λk=>kp (ad a 4) b (mk [.u 0,.u 0] λl=>kp (ad a 4) b (bK 2 (ad l 0) b (bK 2 (ad k 0) q (br h (tick (aJ (ad a 8) 2 λs=>aJ (ad a 2) 2 λC=>aJ (ad a 4) 2 λD=>ji C D (xA 2 λE=>kp (ad a 8) s (bK 2 (ad l 0) s (bK 2 (ad k 0) E (dO.j2 K l k c)))))) (dO.j2 K l k c))))))))) (both (mk [.u 0,.u 0] λf=>kp (ad a 8) e (kp (ad a 6) d (kp (ad a 4) b (both (ji d e (xA 2 λF=>kp (ad a 4) b (mk [.u 0,.u 0] λm=>kp (ad a 4) b (bK 2 (ad f 0) b (bK 2 (ad m 0) F (br h (tick (aJ (ad a 8) 2 λt=>aJ (ad a 2) 2 λG=>aJ (ad a 4) 2 λH=>ji G H (xA 2 λI=>kp (ad a 8) t (bK 2 (ad f 0) t (bK 2 (ad m 0) I (dO.j3 K f m c)))))) (dO.j3 K f m c))))))) (mk [.u 0,.u 0] λn=>kp (ad a 8) e (kp (ad a 6) d (kp (ad a 4) b (ji d e (xA 2 λJ=>kp (ad a 4) b (bK 2 (ad f 0) b (bK 2 (ad n 0) J (br h (tick (aJ (ad a 8) 2 λv=>aJ (ad a 2) 2 λM=>aJ (ad a 4) 2 λO=>ji M O (xA 2 λP=>kp (ad a 8) v (bK 2 (ad f 0) v (bK 2 (ad n 0) P (dO.j4 K f n c)))))) (dO.j4 K f n c))))))))))))) (mk [.u 0,.u 0] λg=>kp (ad a 8) e (kp (ad a 6) d (kp (ad a 4) b (both (ji d e (xA 2 λQ=>kp (ad a 4) b (mk [.u 0,.u 0] λo=>kp (ad a 4) b (bK 2 (ad o 0) b (bK 2 (ad g 0) Q (br h (tick (aJ (ad a 8) 2 λw=>aJ (ad a 2) 2 λR=>aJ (ad a 4) 2 λS=>ji R S (xA 2 λT=>kp (ad a 8) w (bK 2 (ad o 0) w (bK 2 (ad g 0) T (dO.j5 K o g c)))))) (dO.j5 K o g c))))))) (mk [.u 0,.u 0] λp=>kp (ad a 8) e (kp (ad a 6) d (kp (ad a 4) b (ji d e (xA 2 λV=>kp (ad a 4) b (bK 2 (ad p 0) b (bK 2 (ad g 0) V (br h (tick (aJ (ad a 8) 2 λx=>aJ (ad a 2) 2 λW=>aJ (ad a 4) 2 λX=>ji W X (xA 2 λY=>kp (ad a 8) x (bK 2 (ad p 0) x (bK 2 (ad g 0) Y (dO.j6 K p g c)))))) (dO.j6 K p g c)))))))))))))))
def gA.j3(K:VK)(d a e b:Nat):WK:=lI (ad d 13) λf=>br ((dj .i64 .and f 32)!=0) (tick (aJ (ad a 0) 2 λc=>aJ (ad e 14) 14 λg=>dO g false (xA 2 λh=>kp (ad a 0) c (y6 c h (xA 2 λj=>bK 2 (ad a 0) j (aJ (ad a 0) 2 λk=>iO k (xB λl=>br l (aJ (ad a 0) 2 λm=>bK 2 (ad b 0) m (aJ (ad b 0) 2 λn=>K (.tuple ⟨[.agg ⟨n⟩,.i 34]⟩))) (aJ (ad a 0) 2 λo=>bK 2 (ad b 0) o (aJ (ad b 0) 2 λp=>K (.tuple ⟨[.agg ⟨p⟩,.i 0]⟩)))))))))) (aJ (ad a 0) 2 λq=>bK 2 (ad b 0) q (aJ (ad b 0) 2 λr=>K (.tuple ⟨[.agg ⟨r⟩,.i 0]⟩)))
def gA.j2(K:VK)(c a d b:Nat):WK:=lI (ad c 13) λf=>br ((dj .i64 .and f 16)!=0) (tick (aJ (ad a 0) 2 λe=>aJ (ad d 0) 14 λg=>dO g true (xA 2 λh=>kp (ad a 0) e (y6 e h (xA 2 λj=>bK 2 (ad a 0) j (aJ (ad a 0) 2 λk=>iO k (xB λl=>br l (aJ (ad a 0) 2 λm=>bK 2 (ad b 0) m (aJ (ad b 0) 2 λn=>K (.tuple ⟨[.agg ⟨n⟩,.i 33]⟩))) (gA.j3 K c a d b)))))))) (gA.j3 K c a d b)
def gA.j1(K:VK)(a b c d:Nat)(e:Bool):WK:=br e (aJ (ad N.ux 0) 2 λf=>bK 2 (ad a 0) f (gA.j2 K b a c d)) (gA.j2 K b a c d)
def gA(e f:LV)(K:VK):WK:=mk e λc=>mk f λa=>mk [.u 0,.u 0] λd=>aJ (ad a 6) 2 λg=>mk [.u 0,.u 0] λb=>bK 2 (ad b 0) g (aJ (ad a 0) 16 λh=>rj h (xB λi=>br i (aJ (ad b 0) 2 λj=>iO j (xB λk=>gA.j1 K b a c d k)) (gA.j1 K b a c d false)))
def y5(q:OA)(m r:Nat)(K:VK):WK:=mk [.u 0,.u 0] λs=>mk [.u 0,.u 0] λt=>(lp [.p (some (ad s 0)),.b false,.p (some (ad t 0)),.l q m r,.i (m:Int),.i 0] λn v=>∀a h c e f j g d k,n [.p (some a),.b h,.p (some c),.l e f j,.i g,.i d] k->(br (decide (d<g)) (iW e f d 2 λw=>aJ w 2 λx=>mk [.u 0,.u 0] λo=>bK 2 (ad o 0) x (aJ c 2 λy=>aJ (ad o 0) 2 λz=>qy y z (x2 λA B=>(xA 2 λC=>(xB λD=>bK 2 c C (br (!D) (cw True (cw (2=2) (jY a [.u 0,.u 0] (aJ a 2 λE=>K (.tuple ⟨[.agg ⟨E⟩,.b false]⟩))))) ((ct n v [.p (some a),.b h,.p (some c),.l e f j,.i g,.i (aa.wrap (d+1))] [.p (some a),.b h,.p (some c),.l e f j,.i g,.i d] k)))) B) A))) (aJ c 2 λF=>bK 2 a F (aJ a 2 λG=>K (.tuple ⟨[.agg ⟨G⟩,.b true]⟩)))) k)
def oe.j1(K:VK)(a b:Nat)(d:Bool)(c:Nat)(e:Bool):WK:=br e (aJ (ad a 0) 14 λf=>bK 14 (ad b 0) f (aJ (ad b 0) 14 λg=>K (.tuple ⟨[.agg ⟨g⟩,.i 33]⟩))) (br d (aJ (ad a 2) 2 λh=>aJ (ad c 0) 2 λj=>qy h j (x2 λk l=>(xA 2 λm=>(xB λw=>bK 2 (ad a 2) m (aJ (ad a 0) 14 λn=>bK 14 (ad b 0) n (aJ (ad b 0) 14 λo=>K (.tuple ⟨[.agg ⟨o⟩,.i 0]⟩)))) l) k)) (aJ (ad a 4) 2 λp=>aJ (ad c 0) 2 λq=>qy p q (x2 λr s=>(xA 2 λt=>(xB λx=>bK 2 (ad a 4) t (aJ (ad a 0) 14 λu=>bK 14 (ad b 0) u (aJ (ad b 0) 14 λv=>K (.tuple ⟨[.agg ⟨v⟩,.i 0]⟩)))) s) r)))
def oe(k l:LV)(e:Bool)(K:VK):WK:=mk k λa=>mk l λb=>mk eG λc=>aJ (ad a 2) 2 λf=>aJ (ad a 4) 2 λg=>aJ (ad b 0) 2 λh=>cw (f.length=2/\(g.length=2/\(h.length=2/\True))) (mk (f++(g++(h++[]))) λm=>y5 (ah m) 3 3 (x2 λn o=>(xA 2 λp=>(xB λq=>mk [.u 0,.u 0] λr=>bK 2 (ad r 0) p (br (!q) (aJ (ad a 0) 14 λs=>bK 14 (ad c 0) s (aJ (ad c 0) 14 λt=>K (.tuple ⟨[.agg ⟨t⟩,.i 32]⟩))) (tick (lI (ad a 12) λd=>br ((dj .i64 .and d 2)!=0) (aJ (ad a 0) 14 λv=>aJ (ad b 0) 2 λj=>dO v true (xA 2 λw=>kp (ad b 0) j (kp (ad a 12) [.i d] (rZ w j (xB λx=>kp (ad a 12) [.i d] (oe.j1 K a c e b x)))))) (oe.j1 K a c e b false))))) o) n))
def mQ.j1(K:VK)(a b:Nat)(d:Bool)(c:Nat)(e:Bool):WK:=br e (aJ (ad a 0) 14 λf=>bK 14 (ad b 0) f (aJ (ad b 0) 14 λg=>K (.tuple ⟨[.agg ⟨g⟩,.i 34]⟩))) (br d (aJ (ad a 6) 2 λh=>aJ (ad c 0) 2 λj=>qy h j (x2 λk l=>(xA 2 λm=>(xB λw=>bK 2 (ad a 6) m (aJ (ad a 0) 14 λn=>bK 14 (ad b 0) n (aJ (ad b 0) 14 λo=>K (.tuple ⟨[.agg ⟨o⟩,.i 0]⟩)))) l) k)) (aJ (ad a 8) 2 λp=>aJ (ad c 0) 2 λq=>qy p q (x2 λr s=>(xA 2 λt=>(xB λx=>bK 2 (ad a 8) t (aJ (ad a 0) 14 λu=>bK 14 (ad b 0) u (aJ (ad b 0) 14 λv=>K (.tuple ⟨[.agg ⟨v⟩,.i 0]⟩)))) s) r)))
def mQ(k l:LV)(e:Bool)(K:VK):WK:=mk k λa=>mk l λb=>mk eG λc=>aJ (ad a 6) 2 λf=>aJ (ad a 8) 2 λg=>aJ (ad b 0) 2 λh=>cw (f.length=2/\(g.length=2/\(h.length=2/\True))) (mk (f++(g++(h++[]))) λm=>y5 (ah m) 3 3 (x2 λn o=>(xA 2 λp=>(xB λq=>mk [.u 0,.u 0] λr=>bK 2 (ad r 0) p (br (!q) (aJ (ad a 0) 14 λs=>bK 14 (ad c 0) s (aJ (ad c 0) 14 λt=>K (.tuple ⟨[.agg ⟨t⟩,.i 32]⟩))) (tick (lI (ad a 12) λd=>br ((dj .i64 .and d 4)!=0) (aJ (ad a 0) 14 λv=>aJ (ad b 0) 2 λj=>dO v false (xA 2 λw=>kp (ad b 0) j (kp (ad a 12) [.i d] (rZ w j (xB λx=>kp (ad a 12) [.i d] (mQ.j1 K a c e b x)))))) (mQ.j1 K a c e b false))))) o) n))
def iG.j1(K:VK)(a b g:Nat):WK:=tick (lP (ad a 0) λn=>lP (ad a 0) λc=>nn c λd=>lI (d.add 7) λe=>o5 n (xI .i64 λo=>kp (d.add 7) [.i e] (kp (ad a 0) [.p c] (st (ad b 30) (.i o) (kp (d.add 7) [.i e] (kp (ad a 0) [.p c] (st (ad b 31) (.i e) (tick (lP (ad a 0) λh=>nn h λq=>lP (q.add 2) λr=>aJ (ad b 0) 33 λs=>kh r s (xI .i64 λj=>kp (ad a 0) [.p h] (tick (lP (ad a 0) λk=>nn k λt=>lP (t.add 4) λu=>aJ (ad g 0) 2 λv=>dZ u v j (xB λJ=>kp (ad a 0) [.p k] (tick (lP (ad a 0) λl=>nn l λw=>lI (ad b 30) λx=>jA (some (w.add 5)) x j (xB λM=>kp (ad a 0) [.p l] (lP (ad a 0) λy=>nn y λz=>iD (some z) (.func (.func N.eP) ⟨[]⟩ ⟨[.p (some (ad a 0)),.p (some (ad g 0)),.p (some (ad b 0))]⟩) (x0 (aJ (ad b 0) 33 λA=>vf A (x2 λB C=>(xA 4 λD=>(xB λE=>mk y4 λf=>bK 4 (ad f 0) D (br E (tick (lP (ad a 0) λm=>nn m λF=>aJ (ad f 0) 4 λG=>mr (some (F.add 6)) G (x0 (kp (ad a 0) [.p m] (lP (ad a 0) λH=>nn H λI=>iD (some I) (.func (.func N.eO) ⟨[]⟩ ⟨[.p (some (ad a 0)),.p (some (ad f 0))]⟩) (x0 (K (.i 0)))))))) (K (.i 0)))) C) B))))))))))))))))))))
def iG(g:OA)(h j:LV)(k:Bool)(K:VK):WK:=mk [.p g] λa=>mk h λl=>mk j λb=>lP (ad a 0) λm=>br (m.isNone) (K (.i 2)) (lP (ad a 0) λn=>nn n λo=>lP (o.add 2) λq=>gv q (xI .i64 λr=>br (decide (r>=96)) (K (.i 6)) (tick (lP (ad a 0) λf=>nn f λs=>lP (s.add 4) λt=>aJ (ad b 0) 2 λu=>iv t u (x2 λv w=>(xI .i64 λy=>(xB λx=>kp (ad a 0) [.p f] (br x (K (.i 1)) (aJ (ad l 0) 16 λd=>aJ (ad b 0) 16 λe=>cw (d.length=16/\(e.length=16/\True)) (mk cN λc=>cw ((d++(e++([.i 0]:LV))).length=33) (jY (ad c 0) (d++(e++([.i 0]:LV))) (br k (st (ad c 32) (.i 1) (iG.j1 K a c b)) (iG.j1 K a c b))))))) w) v)))))
def qp.j2(K:VK)(d:Nat)(c:OA)(a g:Nat):WK:=aJ (ad d 0) 14 λh=>lj c h (xI .i64 λo=>aJ (ad d 14) 14 λj=>lj c j (xI .i64 λp=>aJ (ad a 0) 16 λk=>mk iL λb=>bK 16 (ad b 0) k (aJ (ad g 0) 2 λl=>bK 2 (ad b 6) l (tick (aJ (ad a 0) 16 λe=>aJ (ad b 0) 16 λf=>aJ (ad a 0) 16 λm=>mH m (xB λn=>kp (ad b 0) f (kp (ad a 0) e (iG c e f n (xI .i64 λq=>K (.i 0))))))))))
def qp.j1(K:VK)(b a:Nat)(c:OA)(d:Nat):WK:=lI (ad b 13) λe=>br ((dj .i64 .and e 128)!=0) (lI (ad a 26) λf=>st (ad a 26) (.i (dj .i64 .or f 8)) (qp.j2 K a c b d)) (qp.j2 K a c b d)
def qp(d:OA)(p:LV)(K:VK):WK:=mk p λb=>aJ (ad b 0) 16 λq=>fD q (xI .i64 λe=>br (e !=0) (K (.i e)) (aJ (ad b 0) 16 λr=>tu r (xB λs=>br s (K (.i 6)) (aJ (ad b 0) 2 λt=>iF d t (x2 λv w=>(xA 33 λx=>(xB λy=>mk cN λf=>bK 33 (ad f 0) x (br y (aJ (ad b 0) 16 λz=>aJ (ad f 0) 16 λA=>vm z A (xI .i64 λB=>K (.i B))) (aJ (ad b 0) 16 λC=>Ae d C (x2 λD E=>(xA 28 λF=>(xI .i64 λg=>mk pe λa=>bK 28 (ad a 0) F (br (g !=0) (K (.i g)) (o7 d (xB λG=>br (!G) (K (.i 35)) (aJ (ad a 0) 28 λH=>aJ (ad b 0) 16 λI=>gA H I (x2 λJ M=>(xA 2 λO=>(xI .i64 λh=>mk [.u 0,.u 0] λc=>bK 2 (ad c 0) O (br (h !=0) (K (.i h)) (tick (aJ (ad a 0) 14 λj=>aJ (ad c 0) 2 λk=>aJ (ad b 0) 16 λP=>mH P (xB λQ=>kp (ad c 0) k (kp (ad a 0) j (oe j k Q (x2 λR S=>(xA 14 λT=>(xI .i64 λl=>bK 14 (ad a 0) T (br (l !=0) (K (.i l)) (tick (aJ (ad a 14) 14 λm=>aJ (ad c 0) 2 λn=>aJ (ad b 0) 16 λV=>mH V (xB λW=>kp (ad c 0) n (kp (ad a 14) m (mQ m n W (x2 λX Y=>(xA 14 λZ=>(xI .i64 λo=>bK 14 (ad a 14) Z (br (o !=0) (K (.i o)) (lI (ad b 13) λn7=>br ((dj .i64 .and n7 64)!=0) (lI (ad a 12) λWz=>st (ad a 12) (.i (dj .i64 .or Wz 8)) (qp.j1 K b a d c)) (qp.j1 K b a d c)))) Y) X)))))))) S) R)))))))) M) J)))))) E) D)))) w) v)))))
def mI(e:OA)(f:Int)(g:LV)(K:VK):WK:=mk [.p e] λa=>mk [.i f] λc=>mk g λh=>lP (ad a 0) λj=>lI (ad c 0) λk=>dT j k (x2 λl m=>(xA 33 λn=>(xB λo=>mk cN λd=>bK 33 (ad d 0) n (br (!o) (K (.b false)) (tick (lP (ad a 0) λq=>nn q λr=>lL r λs t A=>lI (ad c 0) λu=>aJ (ad h 0) 33 λv=>iW s t u 33 λw=>bK 33 w v (lP (ad a 0) λx=>nn x λy=>lP (y.add 1) λz=>iD z (.func (.func N.c9) ⟨[]⟩ ⟨[.p (some (ad d 0)),.p (some (ad a 0)),.p (some (ad c 0))]⟩) (x0 (K (.b true)))))))) m) l)
def dh.j4(K:VK)(a e b:Nat)(f:Int):WK:=tick (lP (ad a 0) λc=>nn c λg=>lP (g.add 4) λh=>aJ (ad e 0) 2 λj=>iv h j (x2 λk l=>(xI .i64 λm=>(xB λr=>kp (ad a 0) [.p c] (st (ad b 32) (.i f) (tick (lP (ad a 0) λd=>nn d λn=>lP (n.add 2) λo=>aJ (ad b 0) 33 λq=>mI o m q (xB λs=>kp (ad a 0) [.p d] (K (.i 0))))))) l) k))
def dh.j3(K:VK)(a e b c:Nat)(d:Int)(f:Bool):WK:=br f (lP (ad a 0) λg=>nn g λh=>iD (some h) (.func (.func N.fp) ⟨[]⟩ ⟨[.p (some (ad a 0)),.p (some (ad e 0))]⟩) (x0 (dh.j4 K a b c d))) (dh.j4 K a b c d)
def dh.j2(K:VK)(c a d:Nat)(e:Int)(g:Bool):WK:=br g (K (.i 1)) (aJ (ad c 0) 33 λh=>vf h (x2 λj k=>(xA 4 λl=>(xB λm=>mk y4 λb=>bK 4 (ad b 0) l (tick (br m (lP (ad a 0) λf=>nn f λn=>lI (ad b 1) λo=>mX (some (n.add 6)) o (xB λq=>kp (ad a 0) [.p f] (dh.j3 K a b d c e q))) (dh.j3 K a b d c e false)))) k) j))
def dh.j1(K:VK)(a:Int)(b c d:Nat)(e:Bool):WK:=br e (K (.i 5)) (br (decide (a<=1)) (dh.j2 K b c d a true) (dh.j2 K b c d a (decide (a>4))))
def dh(e:OA)(f:LV)(d:Int)(K:VK):WK:=mk [.p e] λa=>mk f λc=>lP (ad a 0) λg=>aJ (ad c 0) 2 λh=>iF g h (x2 λj k=>(xA 33 λl=>(xB λm=>mk cN λb=>bK 33 (ad b 0) l (lP (ad a 0) λn=>br (n.isNone) (K (.i 2)) (br (!m) (dh.j1 K d b a c true) (lI (ad b 32) λo=>dh.j1 K d b a c (o !=1))))) k) j)
def eo.j1(K:VK)(b:Nat)(a:OA)(c d:Nat)(e:Int):WK:=aJ (ad b 0) 14 λf=>lj a f (xI .i64 λi=>aJ (ad c 0) 14 λg=>lj a g (xI .i64 λj=>aJ (ad d 0) 2 λh=>dh a h e (xI .i64 λk=>K (.tuple ⟨[]⟩))))
def eo.j2(K:VK)(b a c:Nat)(d:OA)(e:Int):WK:=lI (ad b 13) λf=>br ((dj .i64 .and f 128)!=0) (lI (ad a 12) λg=>st (ad a 12) (.i (dj .i64 .andNot g 8)) (eo.j1 K c d a b e)) (eo.j1 K c d a b e)
def eo(d:OA)(g h:LV)(e:Int)(K:VK):WK:=mk g λb=>mk h λf=>aJ (ad b 2) 2 λj=>dW d j (x2 λk l=>(xA 14 λm=>(xB λQ=>mk eG λa=>bK 14 (ad a 0) m (aJ (ad b 4) 2 λn=>dW d n (x2 λo p=>(xA 14 λq=>(xB λR=>mk eG λc=>bK 14 (ad c 0) q (aJ (ad a 2) 2 λr=>aJ (ad b 6) 2 λs=>qx r s (x2 λt u=>(xA 2 λv=>(xB λS=>bK 2 (ad a 2) v (aJ (ad c 6) 2 λw=>aJ (ad b 6) 2 λx=>qx w x (x2 λy z=>(xA 2 λA=>(xB λT=>bK 2 (ad c 6) A (br (e==2) (aJ (ad a 4) 2 λB=>aJ (ad f 0) 2 λC=>qy B C (x2 λD E=>(xA 2 λF=>(xB λV=>bK 2 (ad a 4) F (aJ (ad c 8) 2 λG=>aJ (ad f 0) 2 λH=>qy G H (x2 λI J=>(xA 2 λM=>(xB λW=>bK 2 (ad c 8) M (eo.j1 K a d c b e)) J) I))) E) D)) (lI (ad b 13) λO=>br ((dj .i64 .and O 64)!=0) (lI (ad a 12) λP=>st (ad a 12) (.i (dj .i64 .andNot P 8)) (eo.j2 K b c a d e)) (eo.j2 K b c a d e)))) z) y))) u) t))) p) o))) l) k)
def eo.u:WP|[.pointer a,.agg ⟨b⟩,.agg ⟨c⟩,.int .i64 d],K=>eo a b c d K|_,_=>no
def gJ.j3(K:VK)(a c:Nat)(d:Bool):WK:=br d (lI (ad a 12) λe=>br (e==0) (K (.b true)) (lI (ad a 12) λf=>lI (ad c 12) λg=>K (.b (f==g)))) (K (.b false))
def gJ.j2(K:VK)(a b:Nat)(c:Bool):WK:=br c (lI (ad a 11) λd=>br (d==0) (gJ.j3 K a b true) (lI (ad a 11) λe=>lI (ad b 11) λf=>gJ.j3 K a b (e==f))) (gJ.j3 K a b false)
def gJ.j1(K:VK)(a b:Nat)(c:Bool):WK:=br c (aJ (ad a 4) 2 λd=>iO d (xB λe=>br e (gJ.j2 K a b true) (aJ (ad a 4) 2 λf=>aJ (ad b 4) 2 λg=>sm [.u 0,.u 0] f g λh=>gJ.j2 K a b h))) (gJ.j2 K a b false)
def gJ(c d:LV)(K:VK):WK:=mk c λa=>mk d λb=>aJ (ad a 2) 2 λe=>iO e (xB λf=>br f (gJ.j1 K a b true) (aJ (ad a 2) 2 λg=>aJ (ad b 2) 2 λh=>sm [.u 0,.u 0] g h λi=>gJ.j1 K a b i))
def Ai(f:OA)(g:LV)(K:VK):WK:=mk g λd=>mk iL λa=>aJ (ad d 8) 2 λh=>iF f h (x2 λj k=>(xA 33 λl=>(xB λm=>mk cN λb=>bK 33 (ad b 0) l (br (!m) (cw True (cw (16=16) (jY (ad a 0) iL (aJ (ad a 0) 16 λn=>K (.tuple ⟨[.agg ⟨n⟩,.i 23]⟩))))) (aJ (ad b 16) 16 λo=>mH o (xB λp=>br (!p) (cw True (cw (16=16) (jY (ad a 0) iL (aJ (ad a 0) 16 λq=>K (.tuple ⟨[.agg ⟨q⟩,.i 24]⟩))))) (aJ (ad d 0) 16 λr=>aJ (ad b 16) 16 λs=>gJ r s (xB λt=>br (!t) (cw True (cw (16=16) (jY (ad a 0) iL (aJ (ad a 0) 16 λu=>K (.tuple ⟨[.agg ⟨u⟩,.i 25]⟩))))) (tick (aJ (ad b 16) 16 λv=>lI (ad b 32) λc=>cw ((0:Int)<=c/\c<5) (lI ((ad N.zF 0).add (c.toNat* 1)) λe=>bK 16 (ad a 0) v (kp ((ad N.zF 0).add (c.toNat* 1)) [.i e] (kp (ad b 32) [.i c] (aJ (ad a 0) 16 λw=>K (.tuple ⟨[.agg ⟨w⟩,.i e]⟩))))))))))))) k) j)
def po.j1(K:VK)(a b d:Nat)(c:Bool):WK:=br c (br c (cw True (cw (2=2) (jY (ad a 0) [.u 0,.u 0] (aJ (ad a 0) 2 λe=>K (.tuple ⟨[.agg ⟨e⟩,.i 26]⟩))))) (aJ (ad b 6) 2 λf=>bK 2 (ad a 0) f (aJ (ad a 0) 2 λg=>K (.tuple ⟨[.agg ⟨g⟩,.i 0]⟩)))) (aJ (ad d 6) 2 λh=>aJ (ad b 6) 2 λj=>rZ h j (xB λk=>br k (cw True (cw (2=2) (jY (ad a 0) [.u 0,.u 0] (aJ (ad a 0) 2 λl=>K (.tuple ⟨[.agg ⟨l⟩,.i 26]⟩))))) (aJ (ad b 6) 2 λm=>bK 2 (ad a 0) m (aJ (ad a 0) 2 λn=>K (.tuple ⟨[.agg ⟨n⟩,.i 0]⟩)))))
def po(d e:LV)(K:VK):WK:=mk d λa=>mk e λb=>mk [.u 0,.u 0] λc=>aJ (ad a 6) 2 λf=>iO f (xB λg=>br g (aJ (ad b 6) 2 λh=>bK 2 (ad c 0) h (aJ (ad c 0) 2 λj=>K (.tuple ⟨[.agg ⟨j⟩,.i 0]⟩))) (lI (ad a 13) λk=>br ((dj .i64 .and k 8)!=0) (aJ (ad a 6) 2 λl=>aJ (ad b 6) 2 λm=>sm [.u 0,.u 0] l m λn=>po.j1 K c a b (!n)) (po.j1 K c a b false)))
def nZ.j1(K:VK)(a b:Nat)(c:Bool):WK:=br c (K (.i 30)) (lI (ad a 12) λd=>br ((dj .i64 .and d 8)!=0) (lI (ad b 13) λe=>br ((dj .i64 .and e 128)==0) (K (.i 31)) (K (.i 0))) (K (.i 0)))
def nZ(c:OA)(e:LV)(K:VK):WK:=mk e λa=>aJ (ad a 2) 2 λf=>dW c f (x2 λg h=>(xA 14 λi=>(xB λp=>mk eG λd=>bK 14 (ad d 0) i (aJ (ad a 4) 2 λj=>dW c j (x2 λk l=>(xA 14 λm=>(xB λq=>mk eG λb=>bK 14 (ad b 0) m (lI (ad d 12) λn=>br ((dj .i64 .and n 8)!=0) (lI (ad a 13) λo=>nZ.j1 K b a ((dj .i64 .and o 64)==0)) (nZ.j1 K b a false))) l) k))) h) g)
def sK.j1(K:VK)(f:OA)(a d h:Nat)(k:Int):WK:=o7 f (xB λl=>br (!l) (K (.i 35)) (aJ (ad a 0) 16 λm=>aJ (ad d 0) 2 λn=>eo f m n k (x0 (aJ (ad h 0) 16 λo=>mk iL λb=>bK 16 (ad b 0) o (tick (aJ (ad a 2) 2 λp=>aJ (ad a 4) 2 λj=>aJ (ad d 0) 2 λg=>lI (ad a 11) λe=>lI (ad a 12) λc=>bK 2 (ad b 2) p (kp (ad a 12) [.i c] (kp (ad a 11) [.i e] (kp (ad d 0) g (kp (ad a 4) j (bK 2 (ad b 4) j (kp (ad a 12) [.i c] (kp (ad a 11) [.i e] (kp (ad d 0) g (bK 2 (ad b 6) g (kp (ad a 12) [.i c] (kp (ad a 11) [.i e] (st (ad b 11) (.i e) (kp (ad a 12) [.i c] (st (ad b 12) (.i c) (aJ (ad h 0) 16 λq=>aJ (ad b 0) 16 λr=>iG f q r false (xI .i64 λs=>K (.i 0)))))))))))))))))))))))
def sK(b:OA)(j:LV)(K:VK):WK:=mk j λa=>aJ (ad a 0) 2 λk=>iF b k (x2 λl m=>(xA 33 λn=>(xB λo=>mk cN λe=>bK 33 (ad e 0) n (br o (aJ (ad a 0) 16 λp=>aJ (ad e 0) 16 λq=>vm p q (xI .i64 λr=>K (.i r))) (aJ (ad a 0) 16 λs=>Ai b s (x2 λt v=>(xA 16 λw=>(xI .i64 λf=>mk iL λc=>bK 16 (ad c 0) w (br (f !=0) (K (.i f)) (aJ (ad a 0) 16 λx=>aJ (ad c 0) 16 λy=>po x y (x2 λz A=>(xA 2 λB=>(xI .i64 λg=>mk [.u 0,.u 0] λd=>bK 2 (ad d 0) B (br (g !=0) (K (.i g)) (lI (ad a 13) λC=>br ((dj .i64 .and C 4)!=0) (aJ (ad c 0) 16 λD=>nZ b D (xI .i64 λh=>br (h !=0) (K (.i h)) (sK.j1 K b c d a 2))) (sK.j1 K b c d a 3)))) A) z)))) v) t)))) m) l)
def oI.j1(K:VK)(a:Nat)(b:OA)(c:Bool):WK:=br c (aJ (ad a 0) 16 λd=>qp b d (xI .i64 λe=>K (.i e))) (aJ (ad a 0) 16 λf=>sK b f (xI .i64 λg=>K (.i g)))
def oI(b:OA)(c:LV)(K:VK):WK:=mk c λa=>aJ (ad a 0) 16 λd=>fD d (xI .i64 λe=>br (e !=0) (oI.j1 K a b true) (aJ (ad a 0) 16 λf=>tu f (xB λg=>oI.j1 K a b (!g))))
def oI.u:WP|[.pointer a,.agg ⟨b⟩],K=>oI a b K|_,_=>no
def mO(f o:OA)(j q:Nat)(r:OA)(s t:Nat)(v:Value)(K:VK):WK:=fO f (xI .i64 λw=>(lp [.i w,.l o j q,.i (j:Int),.i 0] λk x=>∀b c d g e a h,k [.i b,.l c d g,.i e,.i a] h->(br (decide (a<e)) (iW c d a 16 λy=>aJ y 16 λz=>mk iL λm=>bK 16 (ad m 0) z (aJ (ad m 0) 16 λA=>xF [(N.fP,fP.u),(N.fO,fO.u),(N.jJ,jJ.u),(N.oI,oI.u)] v [.p f,.agg ⟨A⟩] (xI .i64 λn=>br (n !=0) (fP f b (x0 (jJ r s t a n (x0 (K (.tuple ⟨[]⟩)))))) ((ct k x [.i b,.l c d g,.i e,.i (aa.wrap (a+1))] [.i b,.l c d g,.i e,.i a] h))))) (K (.tuple ⟨[]⟩))) h))
def pF(t n:OA)(e o:Nat)(u v:Value)(K:VK):WK:=L3 8 [.i 0] (e:Int) (e:Int) λw x y=>(lp [.l none 0 0,.l w x y,.i 0] λm p=>∀f g h b c d a k,m [.l f g h,.l b c d,.i a] k->(br (decide (a<(e:Int))) (tf n e o 16 (some a) none λz A B=>ma z A B (u) (x2 λC D=>(xI .i64 λj=>(xB λE=>tf b c d 1 (some a) (some (aa.wrap (a+j))) λq r s=>br (!E) (jJ q r s (aa.wrap (j-1)) 2 (x0 ((ct m p [.l f g h,.l b c d,.i (aa.wrap (a+j))] [.l f g h,.l b c d,.i a] k)))) (tf n e o 16 (some a) (some (aa.wrap (a+j))) λF G H=>mO t F G H q r s (v) (x0 ((ct m p [.l f g h,.l b c d,.i (aa.wrap (a+j))] [.l f g h,.l b c d,.i a] k))))) D) C)) (K (.l b c d))) k)
def rJ(a b:OA)(c d:Nat)(K:VK):WK:=pF a b c d (.func (.func N.gB) ⟨[]⟩ ⟨[]⟩) (.func (.func N.oI) ⟨[]⟩ ⟨[]⟩) (xL λe f g=>K (.l e f g))
def eK.j1(K:VK)(a:Nat)(c:Int)(d:Bool):WK:=br d (K (.tuple ⟨[]⟩)) (lP (ad a 0) λe=>nn e λf=>lI (f.add 7) λg=>mk [.i 0] λb=>st (ad b 0) (.i g) (lP (ad a 0) λh=>nn h λj=>st (j.add 7) (.i c) (lP (ad a 0) λk=>nn k λl=>iD (some l) (.func (.func N.eJ) ⟨[]⟩ ⟨[.p (some (ad b 0)),.p (some (ad a 0))]⟩) (x0 (K (.tuple ⟨[]⟩))))))
def eK(c:OA)(a:Int)(K:VK):WK:=mk [.p c] λb=>lP (ad b 0) λd=>br (d.isNone) (eK.j1 K b a true) (lP (ad b 0) λe=>nn e λf=>lI (f.add 7) λg=>br (decide (a<=g)) (eK.j1 K b a true) (eK.j1 K b a (decide (a>1099511627776))))
def eK.u:WP|[.pointer a,.int .i64 b],K=>eK a b K|_,_=>no
def uH(a:OA)(K:VK):WK:=br (a.isNone) (K (.i 0)) (nn a λb=>lL b λd c e=>K (.i (c:Int)))
def nY(c:OA)(K:VK):WK:=mk y4 λa=>uH c (xI .i64 λd=>br (d==0) (cw True (cw (4=4) (jY (ad a 0) y4 (aJ (ad a 0) 4 λe=>K (.tuple ⟨[.agg ⟨e⟩,.b false]⟩))))) (nn c λf=>lL f λg h l=>iW g h 0 4 λi=>aJ i 4 λj=>bK 4 (ad a 0) j (aJ (ad a 0) 4 λk=>K (.tuple ⟨[.agg ⟨k⟩,.b true]⟩))))
def fw.j1(K:VK)(c:Nat)(d:OA)(a:Nat)(e:Bool):WK:=br e (aJ (ad c 2) 2 λf=>iF d f (x2 λg h=>(xA 33 λi=>(xB λj=>bK 33 (ad a 0) i (aJ (ad a 0) 33 λk=>K (.tuple ⟨[.agg ⟨k⟩,.b j]⟩))) h) g)) (cw True (cw (33=33) (jY (ad a 0) cN (aJ (ad a 0) 33 λl=>K (.tuple ⟨[.agg ⟨l⟩,.b false]⟩)))))
def fw(a:OA)(K:VK):WK:=mk cN λc=>br (a.isNone) (cw True (cw (33=33) (jY (ad c 0) cN (aJ (ad c 0) 33 λe=>K (.tuple ⟨[.agg ⟨e⟩,.b false]⟩))))) (nn a λf=>nY (some (f.add 6)) (x2 λg h=>(xA 4 λi=>(xB λj=>mk y4 λd=>bK 4 (ad d 0) i (tick (br j (lI (ad d 0) λk=>nn a λl=>lI (l.add 7) λm=>fw.j1 K d a c (decide (k<=m))) (fw.j1 K d a c false)))) h) g))
def fw.u:WP|[.pointer a],K=>fw a K|_,_=>no
def uu(a:OA)(K:VK):WK:=mk [.p a] λb=>K (.func (.func N.Oq) ⟨[]⟩ ⟨[.p (some (ad b 0))]⟩)
def uu.u:WP|[.pointer a],K=>uu a K|_,_=>no
def mg(a:OA)(K:VK):WK:=br (!(a.isNone)) (nn a λb=>nd (some b) (x0 (K (.tuple ⟨[]⟩)))) (K (.tuple ⟨[]⟩))
def uZ(t v:OA)(p w:Nat)(K:VK):WK:=(lp [.l none 0 0,.l none 0 0,.l v p w,.i (p:Int),.i 0] λo q=>∀h j k b c d e f m g a n,o [.l h j k,.l b c d,.l e f m,.i g,.i a] n->(br (decide (a<g)) (iW e f a 2 λx=>aJ x 2 λy=>mk [.u 0,.u 0] λr=>bK 2 (ad r 0) y (aJ (ad r 0) 2 λz=>dW t z (x2 λA B=>(xA 14 λC=>(xB λD=>mk eG λs=>bK 14 (ad s 0) C (br D (aJ (ad s 0) 14 λE=>KZ 14 E λF=>iP 14 112 eG b c d (ah F) 1 λG H I=>(ct o q [.l h j k,.l G H I,.l e f m,.i g,.i (aa.wrap (a+1))] [.l h j k,.l b c d,.l e f m,.i g,.i a] n)) ((ct o q [.l h j k,.l b c d,.l e f m,.i g,.i (aa.wrap (a+1))] [.l h j k,.l b c d,.l e f m,.i g,.i a] n)))) B) A))) (K (.l b c d))) n)
def tX(t v:OA)(p w:Nat)(K:VK):WK:=(lp [.l none 0 0,.l none 0 0,.l v p w,.i (p:Int),.i 0] λo q=>∀h j k b c d e f m g a n,o [.l h j k,.l b c d,.l e f m,.i g,.i a] n->(br (decide (a<g)) (iW e f a 2 λx=>aJ x 2 λy=>mk [.u 0,.u 0] λr=>bK 2 (ad r 0) y (aJ (ad r 0) 2 λz=>iF t z (x2 λA B=>(xA 33 λC=>(xB λD=>mk cN λs=>bK 33 (ad s 0) C (br D (aJ (ad s 16) 16 λE=>KZ 16 E λF=>iP 16 128 iL b c d (ah F) 1 λG H I=>(ct o q [.l h j k,.l G H I,.l e f m,.i g,.i (aa.wrap (a+1))] [.l h j k,.l b c d,.l e f m,.i g,.i a] n)) ((ct o q [.l h j k,.l b c d,.l e f m,.i g,.i (aa.wrap (a+1))] [.l h j k,.l b c d,.l e f m,.i g,.i a] n)))) B) A))) (K (.l b c d))) n)
def gu.j1(K:VK)(w:Int)(x:OA)(y:Bool)(z:Int):WK:=(lp [.l none 0 0,.i w,.i z,.l none 0 0] λu A=>∀j k m f n g c h p,u [.l j k m,.i f,.i n,.l g c h] p->(br (decide (f<n)) (nn x λB=>lL B λC D V=>iW C D f 2 λE=>aJ E 2 λF=>KZ 2 F λG=>iP 2 16 [.i 0,.i 0] g c h (ah G) 1 λH I J=>(ct u A [.l j k m,.i (aa.wrap (f+1)),.i n,.l H I J] [.l j k m,.i f,.i n,.l g c h] p)) (br y ((lp [.l j k m,.l g c h,.i 0,.i (aa.wrap ((c:Int) -1))] λv M=>∀q r s a b o d e t,v [.l q r s,.l a b o,.i d,.i e] t->(br (decide (d<e)) (tick (iW a b e 2 λO=>aJ O 2 λP=>iW a b d 2 λQ=>aJ Q 2 λR=>iW a b d 2 λS=>bK 2 S P (iW a b e 2 λT=>bK 2 T R ((ct v M [.l q r s,.l a b o,.i (aa.wrap (d+1)),.i (aa.wrap (e-1))] [.l q r s,.l a b o,.i d,.i e] t))))) (K (.l a b o))) t)) (K (.l g c h)))) p)
def gu(a:OA)(h e:Int)(c:Bool)(K:VK):WK:=br (a.isNone) (K (.l none 0 0)) (tick (nn a λf=>lL f λi g j=>mu a h (xI .i64 λd=>kp f [.l i g j] (br (e !=0) (mu a e (xI .i64 λb=>nn a λk=>lL k λs m t=>br (decide (b<(m:Int))) (nn a λn=>lL n λo p u=>iW o p b 2 λq=>lI q λr=>br (r==e) (gu.j1 K d a c (aa.wrap (b+1))) (gu.j1 K d a c b)) (gu.j1 K d a c b))) (gu.j1 K d a c (g:Int))))))
def oK(o:OA)(z A:Int)(B:Bool)(K:VK):WK:=br (o.isNone) (K (.l none 0 0)) (nn o λC=>gu (some (C.add 5)) z A B (xL λD u E=>(lp [.l none 0 0,.l none 0 0,.l D u E,.i (u:Int),.i 0] λq v=>∀h j k b c d e f m g a n,q [.l h j k,.l b c d,.l e f m,.i g,.i a] n->(br (decide (a<g)) (iW e f a 2 λF=>aJ F 2 λG=>mk [.i 0,.i 0] λr=>bK 2 (ad r 0) G (tick (nn o λw=>lP (w.add 2) λs=>lI (ad r 1) λt=>both (dT s t (x2 λH I=>(xA 33 λJ=>(xB λb2=>mk cN λx=>bK 33 (ad x 0) J (aJ (ad x 0) 33 λM=>KZ 33 M λO=>iP 33 264 cN b c d (ah O) 1 λP Q R=>(ct q v [.l h j k,.l P Q R,.l e f m,.i g,.i (aa.wrap (a+1))] [.l h j k,.l b c d,.l e f m,.i g,.i a] n))) I) H)) (mk cN λy=>kp (ad r 1) [.i t] (kp (w.add 2) [.p s] (dT s t (x2 λS T=>(xA 33 λV=>(xB λb3=>bK 33 (ad y 0) V (aJ (ad y 0) 33 λW=>KZ 33 W λX=>iP 33 264 cN b c d (ah X) 1 λY Z SN=>(ct q v [.l h j k,.l Y Z SN,.l e f m,.i g,.i (aa.wrap (a+1))] [.l h j k,.l b c d,.l e f m,.i g,.i a] n))) T) S))))))) (K (.l b c d))) n)))
def nM.j3(K:VK)(s:Nat)(a:OA)(b c:Nat)(o:LI)(d:Addr)(e:OA)(f g:Nat)(h:OA)(j k:Nat)(m n:Int)(q:LM)(r:World)(t:Bool):WK:=br t (aJ (ad s 16) 16 λu=>KZ 16 u λv=>iP 16 128 iL a b c (ah v) 1 λw x y=>(ct o q [.p (some d),.l e f g,.l w x y,.l h j k,.i m,.i (aa.wrap (n+1))] [.p (some d),.l e f g,.l a b c,.l h j k,.i m,.i n] r)) ((ct o q [.p (some d),.l e f g,.l a b c,.l h j k,.i m,.i (aa.wrap (n+1))] [.p (some d),.l e f g,.l a b c,.l h j k,.i m,.i n] r))
def nM.j2(K:VK)(a:Addr)(b:Nat)(q:Bool)(c:Nat)(d:OA)(e:Nat)(f:LI)(g:OA)(h i:Nat)(j:OA)(k l:Nat)(m n:Int)(o:LM)(p:World)(r:Bool):WK:=lI (a.add 7) λs=>br (decide ((b:Int)<s)) (br q (nM.j3 K c d b e f a g h i j k l m n o p true) (nM.j3 K c d b e f a g h i j k l m n o p r)) (nM.j3 K c d b e f a g h i j k l m n o p false)
def nM.j1(K:VK)(a:Addr)(b c:Nat)(d:OA)(e:Nat)(f:LI)(g:OA)(h i:Nat)(j:OA)(k l:Nat)(m n:Int)(o:LM)(p:World)(q:Bool):WK:=lT (a.add 5) λr=>br r (aJ (ad b 20) 2 λs=>aJ a 2 λt=>sm [.u 0,.u 0] s t λv=>nM.j2 K a c q b d e f g h i j k l m n o p v) (nM.j2 K a c q b d e f g h i j k l m n o p false)
def nM(w:OA)(x:LV)(K:VK):WK:=mk x λc=>lI (ad c 2) λy=>lI (ad c 3) λz=>lT (ad c 6) λA=>oK w y z A (xL λB t C=>(lp [.p (some (ad c 0)),.l none 0 0,.l none 0 0,.l B t C,.i (t:Int),.i 0] λn v=>∀a o q r d e f g h s j b k,n [.p (some a),.l o q r,.l d e f,.l g h s,.i j,.i b] k->(br (decide (b<j)) (iW g h b 33 λD=>aJ D 33 λE=>mk cN λm=>bK 33 (ad m 0) E (lT (a.add 4) λF=>br F (aJ (ad m 18) 2 λG=>aJ a 2 λH=>sm [.u 0,.u 0] G H λI=>nM.j1 K a m e d f n o q r g h s j b v k I) (nM.j1 K a m e d f n o q r g h s j b v k false))) (K (.l d e f))) k))
def Ku(c:OA)(e:LV)(K:VK):WK:=mk e λb=>mk Jw λa=>br (c.isNone) (cw (1=1/\True) (cw (4=4) (jY (ad a 0) [.i 2,.l none 0 0,.l none 0 0,.l none 0 0] (aJ (ad a 0) 4 λf=>K (.agg ⟨f⟩))))) (aJ (ad b 0) 13 λg=>iy g (xB λh=>br (!h) (cw (1=1/\True) (cw (4=4) (jY (ad a 0) [.i 1,.l none 0 0,.l none 0 0,.l none 0 0] (aJ (ad a 0) 4 λj=>K (.agg ⟨j⟩))))) (lI (ad b 0) λd=>br (d==4) (lL (ad b 4) λk m n=>uZ c k m n (xL λo p q=>cw (1=1/\True) (cw (4=4) (jY (ad a 0) [.i 0,.l none 0 0,.l o p q,.l none 0 0] (aJ (ad a 0) 4 λr=>K (.agg ⟨r⟩)))))) (br (d==5) (lL (ad b 4) λs t u=>tX c s t u (xL λv w x=>cw (1=1/\True) (cw (4=4) (jY (ad a 0) [.i 0,.l none 0 0,.l none 0 0,.l v w x] (aJ (ad a 0) 4 λy=>K (.agg ⟨y⟩)))))) (aJ (ad b 5) 8 λz=>nM c z (xL λA B C=>cw (1=1/\True) (cw (4=4) (jY (ad a 0) [.i 0,.l none 0 0,.l none 0 0,.l A B C] (aJ (ad a 0) 4 λD=>K (.agg ⟨D⟩))))))))))
def xO(h:LV)(K:VK):WK:=mk h λj=>mk aeX λk=>(lp [.p (some (ad j 0)),.s .empty,.p (some (ad k 0)),.i 0] λf l=>∀b d c a e,f [.p (some b),.s d,.p (some c),.i a] e->(br (decide (a<8)) (tick (lU (b.add 1) λm=>cw ((0:Int)<=(aa.wrap (8* a))) (lU b λg=>cw ((0:Int)<=(aa.wrap (8* a))) (cw ((0:Int)<=a/\a<16) (st (c.add (a.toNat* 1)) (.int .u8 (IntKind.u8.wrap (shr .u64 m (aa.wrap (8* a))))) (kp b [.u g] (cw ((0:Int)<=(aa.wrap (8+a))/\(aa.wrap (8+a))<16) (st (c.add ((aa.wrap (8+a)).toNat* 1)) (.int .u8 (IntKind.u8.wrap (shr .u64 g (aa.wrap (8* a))))) ((ct f l [.p (some b),.s d,.p (some c),.i (aa.wrap (a+1))] [.p (some b),.s d,.p (some c),.i a] e)))))))))) (tf (some c) 16 16 1 none none λn o r=>VQ n o λq=>K (.s q))) e)
def mm(a:OA)(f:LV)(K:VK):WK:=mk f λg=>tick (nn a λb=>lL b λc d e=>aJ (ad g 0) 2 λh=>xO h (xS λi=>kp b [.l c d e] (G8 c d e i λj k m=>nn a λn=>st n (.l j k m) (K (.tuple ⟨[]⟩)))))
def sS.j1(K:VK)(c:Nat)(d:OA):WK:=aJ (ad c 0) 2 λg=>aJ (ad c 2) 2 λh=>aJ (ad c 4) 2 λj=>aJ (ad c 6) 2 λk=>aJ (ad c 8) 2 λl=>cw (g.length=2/\(h.length=2/\(j.length=2/\(k.length=2/\(l.length=2/\True))))) ((lp [.p (some (ad c 0)),.agg ⟨(g++(h++(j++(k++(l++[])))))⟩,.i 0] λm o=>∀b e a f,m [.p (some b),.agg ⟨e⟩,.i a] f->(br (decide (a<5)) (cw ((0:Int)<=a/\a<5) (mk [.u 0,.u 0] λn=>cw (((e.drop ((a:Int).toNat* 2)).take 2).length=2) (jY (ad n 0) ((e.drop ((a:Int).toNat* 2)).take 2) (aJ (ad n 0) 2 λq=>mm d q (x0 ((ct m o [.p (some b),.agg ⟨e⟩,.i (aa.wrap (a+1))] [.p (some b),.agg ⟨e⟩,.i a] f))))))) (lI (b.add 10) λr=>bt d 4 r (x0 (lI (b.add 11) λs=>bt d 2 s (x0 (lI (b.add 12) λt=>bt d 2 t (x0 (lI (b.add 13) λv=>bt d 8 v (x0 (K (.tuple ⟨[]⟩))))))))))) f))
def sS(b:OA)(c:LV)(K:VK):WK:=mk c λa=>aJ (ad a 0) 14 λd=>ju d (xB λe=>br (!e) (cw True (cw (14=14) (jY (ad a 0) eG (sS.j1 K a b)))) (sS.j1 K a b))
def lF(h m:OA)(e n:Nat)(K:VK):WK:=nn h λo=>bt (some o) 1 (e:Int) (x0 ((lp [.l m e n,.i (e:Int),.i 0] λj p=>∀b c f d a g,j [.l b c f,.i d,.i a] g->(br (decide (a<d)) (iW b c a 14 λq=>aJ q 14 λr=>mk eG λk=>bK 14 (ad k 0) r (tick (nn h λs=>aJ (ad k 0) 14 λt=>sS (some s) t (x0 ((ct j p [.l b c f,.i d,.i (aa.wrap (a+1))] [.l b c f,.i d,.i a] g)))))) (K (.tuple ⟨[]⟩))) g)))
def ri.j1(K:VK)(d:Nat)(c:OA):WK:=aJ (ad d 0) 2 λg=>aJ (ad d 2) 2 λh=>aJ (ad d 4) 2 λj=>aJ (ad d 6) 2 λk=>aJ (ad d 8) 2 λl=>cw (g.length=2/\(h.length=2/\(j.length=2/\(k.length=2/\(l.length=2/\True))))) ((lp [.p (some (ad d 0)),.agg ⟨(g++(h++(j++(k++(l++[])))))⟩,.i 0] λm o=>∀a e b f,m [.p (some a),.agg ⟨e⟩,.i b] f->(br (decide (b<5)) (cw ((0:Int)<=b/\b<5) (mk [.u 0,.u 0] λn=>cw (((e.drop ((b:Int).toNat* 2)).take 2).length=2) (jY (ad n 0) ((e.drop ((b:Int).toNat* 2)).take 2) (aJ (ad n 0) 2 λq=>mm c q (x0 ((ct m o [.p (some a),.agg ⟨e⟩,.i (aa.wrap (b+1))] [.p (some a),.agg ⟨e⟩,.i b] f))))))) (lI (a.add 10) λr=>bt c 4 r (x0 (lI (a.add 11) λs=>bt c 4 s (x0 (lI (a.add 12) λt=>bt c 2 t (x0 (lI (a.add 13) λv=>bt c 2 v (x0 (lI (a.add 14) λw=>bt c 8 w (x0 (lI (a.add 15) λx=>bt c 8 x (x0 (K (.tuple ⟨[]⟩))))))))))))))) f))
def ri(b:OA)(c:LV)(K:VK):WK:=mk c λa=>aJ (ad a 0) 16 λd=>fZ d (xB λe=>br (!e) (cw True (cw (16=16) (jY (ad a 0) iL (ri.j1 K a b)))) (ri.j1 K a b))
def kT(h m:OA)(e n:Nat)(K:VK):WK:=nn h λo=>bt (some o) 1 (e:Int) (x0 ((lp [.l m e n,.i (e:Int),.i 0] λj p=>∀b c f d a g,j [.l b c f,.i d,.i a] g->(br (decide (a<d)) (iW b c a 16 λq=>aJ q 16 λr=>mk iL λk=>bK 16 (ad k 0) r (tick (nn h λs=>aJ (ad k 0) 16 λt=>ri (some s) t (x0 ((ct j p [.l b c f,.i d,.i (aa.wrap (a+1))] [.l b c f,.i d,.i a] g)))))) (K (.tuple ⟨[]⟩))) g)))
def qM(a:OA)(b:Bool)(K:VK):WK:=br b (bt a 1 1 (x0 (K (.tuple ⟨[]⟩)))) (bt a 1 0 (x0 (K (.tuple ⟨[]⟩))))
def px(c:OA)(j:LV)(K:VK):WK:=mk j λa=>tick (nn c λk=>aJ (ad a 0) 2 λl=>mm (some k) l (x0 (tick (nn c λm=>lI (ad a 2) λn=>bt (some m) 8 n (x0 (tick (nn c λo=>lI (ad a 3) λq=>bt (some o) 8 q (x0 (lT (ad a 4) λr=>lT (ad a 5) λs=>lT (ad a 6) λt=>cw (1=1/\(1=1/\(1=1/\True))) ((lp [.p (some (ad a 0)),.agg ⟨[.b r,.b s,.b t]⟩,.i 0] λh u=>∀e f d g,h [.p (some e),.agg ⟨f⟩,.i d] g->(br (decide (d<3)) (DQ f 3 d (xB λv=>nn c λw=>qM (some w) v (x0 ((ct h u [.p (some e),.agg ⟨f⟩,.i (aa.wrap (d+1))] [.p (some e),.agg ⟨f⟩,.i d] g))))) (tick (nn c λx=>lI (e.add 7) λy=>bt (some x) 1 y (x0 (K (.tuple ⟨[]⟩)))))) g)))))))))))
def xN(v:LV)(K:VK):WK:=mk v λb=>aJ (ad b 0) 13 λw=>pY w (xB λx=>br (!x) (K (.tuple ⟨[.s .empty,.i 1]⟩)) (cw True (mk [.l none 0 0] λa=>tick (lI (ad b 0) λy=>bt (some (ad a 0)) 1 y (x0 (lI (ad b 0) λe=>br (e==1) (lL (ad b 1) λz A B=>lF (some (ad a 0)) z A B (x0 (dN (some (ad a 0)) (xS λC=>K (.tuple ⟨[.s C,.i 0]⟩))))) (br (e==2) (lL (ad b 2) λD E F=>kT (some (ad a 0)) D E F (x0 (dN (some (ad a 0)) (xS λG=>K (.tuple ⟨[.s G,.i 0]⟩))))) (br (e==3) (tick (lI (ad b 3) λH=>bt (some (ad a 0)) 8 H (x0 (dN (some (ad a 0)) (xS λI=>K (.tuple ⟨[.s I,.i 0]⟩)))))) (br (e==6) (aJ (ad b 5) 8 λJ=>px (some (ad a 0)) J (x0 (dN (some (ad a 0)) (xS λM=>K (.tuple ⟨[.s M,.i 0]⟩))))) (tick (lL (ad b 4) λO o P=>bt (some (ad a 0)) 1 (o:Int) (x0 (kp (ad b 4) [.l O o P] (lL (ad b 4) λQ q R=>(lp [.s .empty,.i 0,.p (some (ad a 0)),.l Q q R,.i (q:Int),.i 0] λr S=>∀j k c f g m h d n,r [.s j,.i k,.p (some c),.l f g m,.i h,.i d] n->(br (decide (d<h)) (iW f g d 2 λT=>aJ T 2 λV=>mk [.u 0,.u 0] λt=>bK 2 (ad t 0) V (tick (aJ (ad t 0) 2 λW=>mm (some c) W (x0 ((ct r S [.s j,.i k,.p (some c),.l f g m,.i h,.i (aa.wrap (d+1))] [.s j,.i k,.p (some c),.l f g m,.i h,.i d] n)))))) (dN (some c) (xS λX=>K (.tuple ⟨[.s X,.i 0]⟩)))) n)))))))))))))))
def hO(a:OA)(K:VK):WK:=br (a.isNone) (K (.i 0)) (nn a λb=>lI (b.add 7) λc=>K (.i c))
def kL(a:OA)(K:VK):WK:=br (a.isNone) (K (.l none 0 0)) (nn a λb=>lL b λc d h=>iP 14 112 eG none 0 0 c d λe f g=>K (.l e f g))
def fK(a:OA)(K:VK):WK:=br (a.isNone) (K (.l none 0 0)) (nn a λb=>lP (b.add 1) λc=>kL c (xL λd e f=>K (.l d e f)))
def mJ(a:OA)(K:VK):WK:=br (a.isNone) (K (.l none 0 0)) (nn a λb=>lL b λc d h=>iP 33 264 cN none 0 0 c d λe f g=>K (.l e f g))
def hG(a:OA)(K:VK):WK:=br (a.isNone) (K (.l none 0 0)) (nn a λb=>lP (b.add 2) λc=>mJ c (xL λd e f=>K (.l d e f)))
def gZ(a:OA)(K:VK):WK:=br (a.isNone) (K (.i 0)) (nn a λb=>lI (b.add 8) λc=>K (.i c))
def uj(b:OA)(K:VK):WK:=cw True (mk [.l none 0 0] λc=>bt (some (ad c 0)) 1 1 (x0 (hO b (xI .i64 λC=>bt (some (ad c 0)) 8 C (x0 (gZ b (xI .i64 λD=>bt (some (ad c 0)) 8 D (x0 (fK b (xL λZ E wN=>bt (some (ad c 0)) 2 (E:Int) (x0 (hG b (xL λov F qf=>bt (some (ad c 0)) 2 (F:Int) (x0 (fK b (xL λG x H=>(lp [.s .empty,.p (some (ad c 0)),.l G x H,.i (x:Int),.i 0] λy I=>∀g d h j r k e t,y [.s g,.p (some d),.l h j r,.i k,.i e] t->(br (decide (e<k)) (iW h j e 14 λJ=>aJ J 14 λM=>mk eG λz=>bK 14 (ad z 0) M (aJ (ad z 0) 14 λO=>sS (some d) O (x0 ((ct y I [.s g,.p (some d),.l h j r,.i k,.i (aa.wrap (e+1))] [.s g,.p (some d),.l h j r,.i k,.i e] t))))) (hG b (xL λP A Q=>(lp [.s g,.p (some d),.l P A Q,.i (A:Int),.i 0] λB R=>∀u a m n v o f w,B [.s u,.p (some a),.l m n v,.i o,.i f] w->(br (decide (f<o)) (iW m n f 33 λS=>aJ S 33 λT=>mk cN λq=>bK 33 (ad q 0) T (aJ (ad q 0) 16 λV=>ri (some a) V (x0 (aJ (ad q 16) 16 λW=>ri (some a) W (x0 (lI (ad q 32) λX=>bt (some a) 1 X (x0 ((ct B R [.s u,.p (some a),.l m n v,.i o,.i (aa.wrap (f+1))] [.s u,.p (some a),.l m n v,.i o,.i f] w))))))))) (dN (some a) (xS λY=>K (.s Y)))) w)))) t)))))))))))))))))
def iC.j1(K:VK)(a:OA)(c:Int):WK:=br (c !=0) (nn a λd=>st (d.add 9) (.b true) (K (.i c))) (nn a λe=>lI (e.add 8) λf=>nn a λg=>st (g.add 8) (.i (aa.wrap (f+1))) (nn a λh=>lP (h.add 7) λj=>jR j (x0 (K (.i 0)))))
def iC(a:OA)(K:VK):WK:=br (a.isNone) (K (.i 2)) (nn a λl=>lT (l.add 9) λm=>br m (K (.i 9)) (nn a λn=>lP (n.add 6) λo=>uj o (xS λb=>nn a λq=>aJ (q.add 1) 5 λr=>qB r (b.size:Int) (xB λs=>br (!s) (K (.i 3)) (nn a λt=>lP t λu=>oP u (xI .i64 λc=>tick (nn a λv=>aJ (v.add 1) 5 λw=>nn a λx=>lP x λy=>nn a λf=>lI (f.add 8) λg=>rl w y (aa.wrap (g+1)) (aa.wrap (c+1)) b (xI .i64 λh=>kp (f.add 8) [.i g] (br (h==0) (tick (nn a λj=>lP j λk=>nn a λd=>lI (d.add 8) λe=>nn a λz=>lP (z.add 7) λA=>kA A (xI .i64 λB=>kp (d.add 8) [.i e] (kp j [.p k] (cw (1=1/\(1=1/\(1=1/\(1=1/\True)))) (vc k (aa.wrap ((aa.wrap (c+1))+1)) [.i (aa.wrap (e+1)),.i (aa.wrap (c+1)),.i (b.size:Int),.i B] (xI .i64 λC=>kp (d.add 8) [.i e] (iC.j1 K a C)))))))) (iC.j1 K a h))))))))))
def jF.j1(K:VK)(a:OA)(f:BA):WK:=tick (nn a λd=>lP (d.add 7) λe=>nn a λg=>lP g λh=>oP h (xI .i64 λj=>kp (d.add 7) [.p e] (cx e (aa.wrap (j+1)) f (xI .i64 λc=>nn a λk=>lT (k.add 9) λl=>br l (nn a λm=>st (m.add 9) (.b true) (K (.i c))) (nn a λn=>st (n.add 9) (.b (c==8)) (K (.i c)))))))
def jF(a:OA)(b:BA)(K:VK):WK:=nn a λd=>lP (d.add 7) λe=>jQ e (b.size:Int) (xB λf=>br (!f) (iC a (xI .i64 λc=>br (c !=0) (K (.i c)) (jF.j1 K a b))) (jF.j1 K a b))
def rF(a:OA)(K:VK):WK:=br (a.isNone) (K (.i 0)) (nn a λb=>lP (b.add 7) λc=>kA c (xI .i64 λd=>K (.i d)))
def qn(a:OA)(K:VK):WK:=br (a.isNone) (K (.p none)) (nn a λb=>lP (b.add 6) λc=>uj c (xS λd=>pz d (x2 λe f=>(xP λg=>(xI .i64 λh=>K (.p g)) f) e)))
def qK(a:OA)(K:VK):WK:=br (a.isNone) (K (.i 0)) (nn a λb=>lI (b.add 8) λc=>K (.i c))
def qL(a:OA)(K:VK):WK:=br (!(a.isNone)) (nn a λc=>lT (c.add 9) λd=>K (.b d)) (K (.b false))
end Go.Prog
namespace Go.Md
def bO:Nat:=340282366920938463463374607431768211456
structure bP where
 id:Nat
 dp:Nat
 dq:Nat
 cp:Nat
 cq:Nat
 bJ:Int
 code:Int
 aq:Int
 ay:Int
deriving DecidableEq
structure cH where
 id:Nat
 bI:Nat
 aU:Nat
 a8:Nat
 pending:Nat
 cB:Int
 bJ:Int
 code:Int
 aq:Int
 ay:Int
 iE:Int
deriving DecidableEq
structure cr where
 asked:cH
 move:cH
 fate:Int
deriving DecidableEq
structure ba where
 aC:List bP
 ax:List cr
 clock:Int
 ay:Int
structure aA where
 cW:List bP
 ax:List cr
 clock:Int
 ay:Int
def has(f b:Int):Prop:=f/b%2=1
instance(f b:Int):Decidable (has f b):=by unfold has;infer_instance
def uM(a:bP):Int:=
 if a.aq<0\/7<a.aq then 3 else if a.id=0 then 4 else if a.id=bO-1 then 5 else if has a.aq 2/\has a.aq 4 then 6
 else if a.dp≠0\/a.dq≠0\/a.cp≠0\/a.cq≠0\/a.ay≠0 then 7 else if a.bJ<=0\/4294967296<=a.bJ then 8 else if a.code<=0\/65536<=a.code then 9 else 0
def uN(a b:bP):Int:=if a.bJ=b.bJ/\a.code=b.code/\a.aq/2%4=b.aq/2%4 then 10 else 11
def jZ(f:Int):Prop:=has f 4\/has f 8
instance(f:Int):Decidable (jZ f):=by unfold jZ;infer_instance
def jo(f:Int):Prop:= ¬(has f 2/\has f 4\/has f 2/\has f 8\/has f 4/\has f 8)/\ ¬(jZ f/\16<=f)/\(f<64\/has f 2)
instance(f:Int):Decidable (jo f):=by unfold jo;infer_instance
def nL(t:cH):Int:=
 if t.aq<0\/255<t.aq then 3 else if t.id=0 then 4 else if t.id=bO-1 then 5 else if ¬jo t.aq then 6
 else if t.ay≠0\/t.iE≠0 then 7 else if t.cB<0\/1073741824<t.cB\/0<t.cB/\ ¬has t.aq 2 then 17
 else if jZ t.aq then
  (if t.pending=0 then 16 else if t.bJ<0\/4294967296<=t.bJ then 8 else if t.code<0\/65536<=t.code then 9 else 0)
 else if t.bI=0 then 12 else if t.aU=0 then 13 else if t.bI=t.aU then 14 else if t.pending≠0 then 15 else if t.a8=0/\ ¬has t.aq 16/\ ¬has t.aq 32 then 18
 else if t.bJ<1\/4294967296<=t.bJ then 8 else if t.code<1\/65536<=t.code then 9 else 0
def tK(t b:cH):Int:=if{t with aq:=t.aq/2}={b with aq:=b.aq/2} then 10 else 11
def S(f:cr->Nat)(l:List cr):Nat:=(l.map f).sum
def zP(f:cr->Nat):S f []=0:=rfl
def sU(f:cr->Nat)(k:cr)(l:List cr):S f (k::l)=f k+S f l:=by simp[S]
def Wa(f:cr->Nat)(l m:List cr):S f (l++m)=S f l+S f m:=by simp[S]
def wW(f:cr->Nat)(l:List cr)(k:cr):S f (l++[k])=S f l+f k:=by simp[S]
def Ju(f:cr->Nat):∀(l:List cr)(i:Nat)(k:cr)(h:i<l.length),S f (l.set i k)+f l[i]=S f l+f k
 |[],i,k,h=>by simp at h
 |x::l,0,k,h=>by simp[S];omega
 |x::l,i+1,k,h=>by
  have ih:=Ju f l i k (by simpa using h);simp only[nN,sU,List.getElem_cons_succ];omega
def V'(f:cr->Nat):∀(l:List cr)(k:cr),k∈l->f k<=S f l
 |[],k,h=>by simp at h
 |x::l,k,h=>by
  rw[sU];rcases ka.1 h with h|h
  ·subst h;omega
  ·have:=V' f l k h;omega
def Bv(id:Nat)(k:cr):Nat:=if k.fate=1/\k.move.bI=id then k.move.a8 else 0
def Bw(id:Nat)(k:cr):Nat:=if k.fate=1/\k.move.aU=id then k.move.a8 else 0
def l6(k:cr):Prop:= ¬has k.move.aq 2/\ ¬has k.move.aq 8
instance(k:cr):Decidable (l6 k):=by unfold l6;infer_instance
def Dd(id:Nat)(k:cr):Nat:=if l6 k/\k.move.bI=id then k.move.a8 else 0
def De(id:Nat)(k:cr):Nat:=if l6 k/\k.move.aU=id then k.move.a8 else 0
def kO(id:Nat)(k:cr):Prop:=(has k.move.aq 64/\k.move.bI=id\/has k.move.aq 128/\k.move.aU=id)/\(k.fate=1\/k.fate=2)
instance(id:Nat)(k:cr):Decidable (kO id k):=by unfold kO;infer_instance
def vG(id:Nat)(k:cr):Nat:=if kO id k then 1 else 0
def add(a b:Nat):Nat:=if a+b<bO then a+b else 0
def ya(a:bP)(k:cr):bP:=
 {a with dq:=if l6 k/\k.move.bI=a.id then add a.dq k.move.a8 else a.dq,cq:=if l6 k/\k.move.aU=a.id then add a.cq k.move.a8 else a.cq,dp:=if k.fate=1/\k.move.bI=a.id then add a.dp k.move.a8 else a.dp,cp:=if k.fate=1/\k.move.aU=a.id then add a.cp k.move.a8 else a.cp,aq:=if kO a.id k then a.aq%8+8 else a.aq}
def full(l:List cr)(a:bP):bP:=
 {a with dp:=a.dp+S (Bv a.id) l,dq:=a.dq+S (Dd a.id) l,cp:=a.cp+S (Bw a.id) l,cq:=a.cq+S (De a.id) l,aq:=if S (vG a.id) l=0 then a.aq else a.aq%8+8}
def Se(a:bP)(k:cr)(h1:a.dp+Bv a.id k<bO)(h2:a.dq+Dd a.id k<bO)(h3:a.cp+Bw a.id k<bO)(h4:a.cq+De a.id k<bO):ya a k=full [k] a:=by
 have e1:(if k.fate=1/\k.move.bI=a.id then add a.dp k.move.a8 else a.dp)=a.dp+S (Bv a.id) [k]:=by
  rw[sU,zP];unfold Bv at h1⊢;by_cases h:k.fate=1/\k.move.bI=a.id
  ·rw[ai h] at h1⊢;rw[ai h];unfold add;rw[ai h1];omega
  ·rw[ag h,ag h];rfl
 have e2:(if l6 k/\k.move.bI=a.id then add a.dq k.move.a8 else a.dq)=a.dq+S (Dd a.id) [k]:=by
  rw[sU,zP];unfold Dd at h2⊢;by_cases h:l6 k/\k.move.bI=a.id
  ·rw[ai h] at h2⊢;rw[ai h];unfold add;rw[ai h2];omega
  ·rw[ag h,ag h];rfl
 have e3:(if k.fate=1/\k.move.aU=a.id then add a.cp k.move.a8 else a.cp)=a.cp+S (Bw a.id) [k]:=by
  rw[sU,zP];unfold Bw at h3⊢;by_cases h:k.fate=1/\k.move.aU=a.id
  ·rw[ai h] at h3⊢;rw[ai h];unfold add;rw[ai h3];omega
  ·rw[ag h,ag h];rfl
 have e4:(if l6 k/\k.move.aU=a.id then add a.cq k.move.a8 else a.cq)=a.cq+S (De a.id) [k]:=by
  rw[sU,zP];unfold De at h4⊢;by_cases h:l6 k/\k.move.aU=a.id
  ·rw[ai h] at h4⊢;rw[ai h];unfold add;rw[ai h4];omega
  ·rw[ag h,ag h];rfl
 have e5:(if kO a.id k then a.aq%8+8 else a.aq)=if S (vG a.id) [k]=0 then a.aq else a.aq%8+8:=by
  rw[sU,zP];unfold vG;by_cases h:kO a.id k
  ·rw[ai h,ai h,ag (by omega)]
  ·rw[ag h,ag h,ai (by omega)]
 unfold ya full;rw[e1,e2,e3,e4,e5]
def DY(a:bP)(l m:List cr):full m (full l a)=full (l++m) a:=by
 unfold full;dsimp only;simp only[Wa,Nat.add_assoc]
 congr 1
 by_cases h1:S (vG a.id) l=0
 ·rw[ai h1];by_cases h2:S (vG a.id) m=0
  ·rw[ai h2,ai (by omega)]
  ·rw[ag h2,ag (by omega)]
 ·rw[ag h1];by_cases h2:S (vG a.id) m=0
  ·rw[ai h2,ag (by omega)]
  ·rw[ag h2,ag (by omega)];omega
def OC(a:bP):∀(l:List cr),a.dp+S (Bv a.id) l<bO->a.dq+S (Dd a.id) l<bO->a.cp+S (Bw a.id) l<bO->a.cq+S (De a.id) l<bO->l.foldl ya a=full l a:=by
 intro l
 induction l generalizing a with
 |nil=>intros;unfold full;simp[zP]
 |cons k l ih=>
  intro h1 h2 h3 h4;rw[sU] at h1 h2 h3 h4;rw[List.foldl_cons,Se a k (by omega) (by omega) (by omega) (by omega)];have Ns:(full [k] a).id=a.id:=rfl;have:=ih (full [k] a) (by rw[Ns];show a.dp+S (Bv a.id) [k]+_<_;rw[sU,zP];omega) (by rw[Ns];show a.dq+S (Dd a.id) [k]+_<_;rw[sU,zP];omega)
   (by rw[Ns];show a.cp+S (Bw a.id) [k]+_<_;rw[sU,zP];omega) (by rw[Ns];show a.cq+S (De a.id) [k]+_<_;rw[sU,zP];omega)
  rw[this,DY];rfl
end Go.Md
namespace Go.Up
open Go.Sep Go.Den Go.RowKit Go.Prog Go.Md
instance{a b:Value}{n:Nat}:Wr [a,b] 0 (nm n) (nm n):=⟨rfl,aI _,λv h=>by simp[nm] at h;rcases h with rfl|rfl<;>rfl⟩
instance{m n:Nat}:Wr (nm m) 0 (nm n) (nm n):=⟨rfl,aI _,λv h=>by simp[nm] at h;rcases h with rfl|rfl<;>rfl⟩
instance{a b:Value}{k k':IntKind}{x y:Int}:Wr [a,b] 0 [.int k x,.int k' y] [.int k x,.int k' y]:=⟨rfl,aI _,λv h=>by simp at h;rcases h with rfl|rfl<;>rfl⟩
instance{n:Nat}{k k':IntKind}{x y:Int}:Wr (nm n) 0 [.int k x,.int k' y] [.int k x,.int k' y]:=⟨rfl,aI _,λv h=>by simp at h;rcases h with rfl|rfl<;>rfl⟩
section
variable {W:World} {L:LH} {K:VK} {a b n:Nat}
def vR(h:T W L (K (.b (decide (n=0))))):T W L (iO (nm n) K):=by
 unfold iO;apply ws;intros;exact T.dp h
def aaQ{x y c:Int}(h1:(0<=x/\0<=y)/\0<=c/\c<=1)(h:T W L (K (.tuple ⟨[.u ((x+y+c)%18446744073709551616),.u ((x+y+c)/18446744073709551616)]⟩))):T W L (rV x y c K):=dU h1 h
def TM{x y c:Int}(h1:(0<=x/\0<=y/\y<18446744073709551616)/\0<=c/\c<=1)(h:T W L (K (.tuple ⟨[.u ((x-y-c)%18446744073709551616),.u (if x<y+c then 1 else 0)]⟩))):T W L (rU x y c K):=dU h1 h
def SH(h:T W L (K (.i (if a=b then 0 else if a<b then-1 else 1)))):T W L (uS (nm a) (nm b) K):=by
 unfold uS
 repeat' first|apply ws;intros|apply wb|apply dz<;>intro h1
 all_goals (apply T.fin (T.dp h);simp only[decide_eq_true_eq,decide_eq_false_iff_not,wK,beq_eq_false_iff_ne,ne_eq] at *;congr 1;split<;>(try split)<;>omega)
def Du(h:T W L (K (.b (decide (a<b))))):T W L (rZ (nm a) (nm b) K):=by
 unfold rZ
 repeat' first|apply ws;intros|apply wb|refine SH ?_
 apply T.fin (T.dp h)
 congr 1
 simp only[decide_eq_decide];split<;>(try split)<;>omega
def aas(h:T W L (K (.agg ⟨nm (min a b)⟩))):T W L (y6 (nm a) (nm b) K):=by
 unfold y6
 repeat' first|apply ws;intros|apply wb|first|refine Du ?_|apply dz<;>intro h1
 all_goals (apply T.fin (T.dp h);simp only[decide_eq_true_eq,decide_eq_false_iff_not] at h1;congr 3;omega)
def Ut{x y:Int}(n:Nat)(h1:x=((n/18446744073709551616:Nat):Int))(h2:y=((n%18446744073709551616:Nat):Int)):[Value.int .u64 x,Value.int .u64 y]=nm n:=by rw[h1,h2];rfl
abbrev Dn(a b:Nat):Value:=.tuple ⟨[.agg ⟨nm (if a+b<bO then a+b else 0)⟩,.b (decide (a+b<bO))]⟩
abbrev acQ(a b:Nat):Value:=.tuple ⟨[.agg ⟨nm (if a<b then 0 else a-b)⟩,.b (decide (b<=a))]⟩
def Ef(ha:a<bO)(hb:b<bO)(h:T W L (K (Dn a b))):T W L (qy (nm a) (nm b) K):=by
 unfold bO at ha hb;unfold qy
 repeat' first|apply ws;intros|apply wb|first|refine aaQ (by omega) ?_|apply dz<;>intro h1
 all_goals
  apply T.fin (T.dp h);simp only[fM,ne_eq,bne_eq_false_iff_eq] at h1;unfold Dn bO
 ·rw[ag (by omega),ao (by omega)];rfl
 ·rw[ai (by omega),aw (by omega),Ut (a+b) (by omega) (by omega)]
def V6(ha:a<bO)(hb:b<bO)(h:T W L (K (acQ a b))):T W L (qx (nm a) (nm b) K):=by
 unfold bO at ha hb;unfold qx
 repeat' first|apply ws;intros|apply wb|first|refine Du ?_|refine TM (by omega) ?_|refine TM (by split<;>omega) ?_|apply dz<;>intro h1
 all_goals
  apply T.fin (T.dp h);simp only[decide_eq_true_eq,decide_eq_false_iff_not] at h1;unfold acQ
 ·rw[ai h1,ao (by omega)];rfl
 ·rw[ag h1,aw (by omega),Ut (a-b) (by split<;>omega) (by omega)]
end
end Go.Up
namespace Go.Sep
open Go.Den Go.RowKit Go.Prog Go.cG
def Uh{s:BA}(h:s.size<=128):(aY.pad s).size=128:=by
 unfold aY.pad;rw[ByteArray.size_append,vk];omega
def abf(n:Int):(aY.new n).Ok:=by
 have hn:0<=min2 (max2 n 0) 4096/\min2 (max2 n 0) 4096<=4096:=by unfold min2 max2;split<;>split<;>omega
 refine⟨λs hs=>?_,λp hp=>?_,?_,?_⟩
 ·simp only[aY.new,List.mem_replicate] at hs;rw[hs.2];exact vk 128
 ·simp[aY.new] at hp
 ·simp only[aY.new,kV];omega
 ·simp[aY.new]
def oa(D:aY)(mask torn cut:Int):D.fJ mask torn cut=⟨fe mask torn (min2 (max2 cut 0) 128) D.safe D.later D.later.length,[],D.ops,0⟩:=by
 unfold aY.fJ;have:=yz mask torn (min2 (max2 cut 0) 128) D.later D.safe D.later.length 0 (by omega);simp only[jf,fe] at this;rw[this]
def tv(D:aY)(i:Int)(s:BA):(D.write i s).1.safe=D.safe/\(D.write i s).1.later.length<=D.later.length+1:=by
 unfold aY.write;split
 ·exact⟨rfl,by simp⟩
 ·split
  ·exact⟨rfl,by simp[aY.tick]⟩
  ·exact⟨rfl,by simp⟩
def K0{D:aY}(h:D.Ok)(i:Int)(s:BA)(hl:D.later.length+1<1099511627776):(D.write i s).1.Ok:=by
 have h2:=tv D i s;refine⟨by rw[h2.1];exact h.safe,?_,by rw[h2.1];exact h.oJ,by omega⟩;rw[h2.1];unfold aY.write;split
 ·exact h.later
 ·rename_i hg;split
  ·exact h.later
  ·intro p hp;simp only[dB,Dw] at hp;rcases hp with hp|hp
   ·exact h.later p hp
   ·subst hp;have Nu:D.is i:=by
     by_cases hh:D.is i
     ·exact hh
     ·exact aT (.inl hh) hg
    have Nt: ¬128<s.size:=λhh=>hg (.inr hh);exact⟨Uh (by omega),Nu.1,Nu.2⟩
def MK{mask torn c:Int}(hc:0<=c/\c<=128){safe:List BA}{k:Nat}{p:Int×BA}(hs:∀s∈safe,s.size=128)(hp:p.2.size=128/\0<=p.1/\p.1<safe.length):
 ∀s∈aY.od mask torn c safe k p,s.size=128:=by
 intro s hm;have Cg:p.1.toNat<safe.length:=by omega
 unfold aY.od at hm;split at hm
 ·rcases fq hm with hm|hm
  ·exact hs s hm
  ·rw[hm];have:=hs _ (bF Cg);rw[jW,aj Cg,dI,ByteArray.size_append,ug,ug,this,hp.1];omega
 ·split at hm
  ·rcases fq hm with hm|hm
   ·exact hs s hm
   ·rw[hm];exact hp.1
  ·exact hs s hm
def zL{mask torn c:Int}(hc:0<=c/\c<=128){safe:List BA}{later:List (Int×BA)}(hs:∀s∈safe,s.size=128)(hp:∀p∈later,p.2.size=128/\0<=p.1/\p.1<safe.length):
 ∀j,∀s∈fe mask torn c safe later j,s.size=128
 |0=>hs
 |j+1=>by
  simp only[fe];cases hl:later[j]? with
  |none=>exact zL hc hs hp j
  |some p=>
   apply MK hc (zL hc hs hp j);rw[jC];exact hp p (cD hl)
def Vv(cut:Int):0<=min2 (max2 cut 0) 128/\min2 (max2 cut 0) 128<=128:=by unfold min2 max2;split<;>split<;>omega
def Cq{D:aY}(h:D.Ok)(mask torn cut:Int):(D.fJ mask torn cut).Ok:=by
 rw[oa];refine⟨zL (Vv cut) h.safe h.later _,λp hp=>by simp at hp,by simp only[jC];exact h.oJ,by simp⟩
def HS{later:List (Int×BA)}:∀{safe:List BA},(∀s∈safe,s.size=128)->(∀p∈later,p.2.size=128)->∀s∈later.foldl aY.put safe,s.size=128:=by
 induction later with
 |nil=>exact λhs _=>hs
 |cons p l ih=>
  intro safe hs hp;rw[List.foldl_cons];refine ih (λs hm=>?_) (λq hq=>hp q (jV _ hq));rcases fq hm with hm|hm
  ·exact hs s hm
  ·rw[hm];exact hp p (sX)
def JK{D:aY}(h:D.Ok):D.sync.1.Ok:=by
 unfold aY.sync;split
 ·exact⟨h.safe,h.later,h.oJ,h.less⟩
 ·refine⟨HS h.safe λp hp=>(h.later p hp).1,λp hp=>by simp at hp,?_,by simp⟩;show(D.later.foldl aY.put D.safe).length<=4096;rw[oY];exact h.oJ
def z7{D:aY}(h:D.later=[]){i:Nat}(hi:i<D.safe.length):D.read (i:Int)=(D.safe[i],0):=by
 unfold aY.read;rw[ai ⟨by omega,by omega⟩];simp[aY.now,aY.last,h,hi]
section
variable {W w:World} {L:LH}
end
end Go.Sep
namespace Go.Sep
open Go.Den Go.RowKit Go.ChangeShapes Go.WideShapes
inductive CK where
 |i(k:IntKind)
 |b
 |s
deriving DecidableEq
def CK.is:CK->Value->Prop
 | .i k,v=>∃n,v=.int k n/\(Lit.int k n).wf=true
 | .b,v=>∃x,v=.bool x
 | .s,v=>∃x,v=.string x/\x.size<=reachBytes
def Typed(ks:List CK)(cs:LV)(o:Nat):Prop:=∀j k,ks[j]?=some k->∃v,cs[o+j]?=some v/\k.is v
def tE(P:Program)(f:TypeId->Option (List CK)):Nat->List Field->Option (List CK)
 |_,[]=>some []
 |o,fd::r=>match f fd.type with
  |some a=>if fd.offset=o/\P.cellsOf fd.type=a.length then(tE P f (o+a.length) r).map (a++·) else none
  |none=>none
def flat(P:Program):Nat->TypeId->Option (List CK)
 |0,_=>none
 |n+1,t=>match P.underlying t with
  |some (.int k)=>some [.i k]
  |some .bool=>some [.b]
  |some .string=>some [.s]
  |some (.struct fs)=>tE P (flat P n) 0 fs.toList
  |_=>none
section
variable {H:Type} {enc:TypeId×Value->H} {P:Program} {w:World} {base:Nat} {spare:Nat->Bool} {held:Bool}
def Cn{f:TypeId->Option (List CK)}{m:Nat}{cs:LV}
 (hf:∀t ks cs x,f t=some ks->DataW.trod enc P w base spare held m t cs=some x->(∀n∈x.1.weights P t,n<=reachBytes)->Typed ks cs 0):
 ∀(fs:List Field)(o:Nat)(ks:List CK)(xs:List (DataW H×List MemPlace)),tE P f o fs=some ks->
  (∀(i:Nat)(fd:Field),fs[i]?=some fd->DataW.trod enc P w base spare held m fd.type ((cs.drop fd.offset).take (P.cellsOf fd.type))=xs[i]?)->xs.length=fs.length->
  (∀n∈DataW.weightsEach P (fs.map (·.type)) (xs.map (·.1)),n<=reachBytes)->Typed ks cs o
 |[],o,ks,xs,h,_,_,_=>by
  simp only[tE,bA.injEq] at h;subst h;intro j k hj;simp at hj
 |fd::r,o,ks,[],h,hx,hl,hw=>by simp at hl
 |fd::r,o,ks,x::xs,h,hx,hl,hw=>by
  simp only[tE] at h;cases ha:f fd.type with
  |none=>simp[ha] at h
  |some a=>
   simp only[ha] at h;split at h
   ·rename_i hc;cases hb:tE P f (o+a.length) r with
    |none=>simp[hb] at h
    |some b=>
     simp only[hb,fm,bA.injEq] at h;subst h;simp only[dx,DataW.weightsEach,dB] at hw;have h1:=hf fd.type a _ x ha (by have:=hx 0 fd rfl;simpa using this) (λn hn=>hw n (.inl hn));have h2:=Cn hf r (o+a.length) b xs hb (λi g hg=>by have:=hx (i+1) g (by simpa using hg);simpa using this) (by simpa using hl) (λn hn=>hw n (.inr hn));intro j k hj;by_cases hja:j<a.length
     ·rw[ch hja] at hj;obtain⟨v,hv,hk⟩:=h1 j k hj;refine⟨v,?_,hk⟩;rw[hc.1,hc.2,aB,List.getElem?_take_of_lt hja,ta] at hv;exact hv
     ·rw[iN (by omega)] at hj;obtain⟨v,hv,hk⟩:=h2 (j-a.length) k hj;refine⟨v,?_,hk⟩;rw[show o+j=o+a.length+(j-a.length) from by omega];exact hv
   ·cases h
def GK:∀(f:Nat)(m:Nat)(t:TypeId)(ks:List CK)(cs:LV)(x:DataW H×List MemPlace),flat P f t=some ks->DataW.trod enc P w base spare held m t cs=some x->
 (∀n∈x.1.weights P t,n<=reachBytes)->Typed ks cs 0
 |0,_,_,_,_,_,h,_,_=>by simp[flat] at h
 |f+1,m,t,ks,cs,x,h,hx,hw=>by
  unfold flat at h;split at h
  ·rename_i k ht;cases h
   obtain⟨n,rfl,rfl,hwf⟩:=DataW.trod_int ht hx;intro j k' hj;cases j with
   |zero=>simp at hj;subst hj;exact⟨_,rfl,n,rfl,hwf⟩
   |succ j=>simp at hj
  ·rename_i ht;cases h
   obtain⟨n,rfl,rfl⟩:=DataW.trod_bool ht hx;intro j k' hj;cases j with
   |zero=>simp at hj;subst hj;exact⟨_,rfl,n,rfl⟩
   |succ j=>simp at hj
  ·rename_i ht;cases h
   obtain⟨n,rfl,rfl,_⟩:=DataW.trod_string ht hx;intro j k' hj;cases j with
   |zero=>simp at hj;subst hj;exact⟨_,rfl,n,rfl,by have:=hw n.data.toList.length (by simp[DataW.weights]);simpa using this⟩
   |succ j=>simp at hj
  ·rename_i fs ht;obtain⟨xs,n,rfl,rfl,hl,hlen,hf⟩:=DataW.trod_struct ht hx;refine Cn (m:=n) (λt ks cs x h1 h2 h3=>GK f n t ks cs x h1 h2 h3) fs.toList 0 ks xs h (λi fd hi=>hf i fd (by simpa using hi)) (by simpa using hlen) (λn hn=>hw n ?_);simp only[DataW.weights,ht];exact hn
  ·cases h
def zR(ks:List CK)(n:Nat)(xs:LV):Prop:=∀i,i<n->Typed ks xs (i* ks.length)
def y7{e:TypeId}:∀{ds:List (DataW H)} {d:DataW H},d∈ds->∀n∈d.weights P e,n∈DataW.weightsAll P e ds
 |[],d,h,_,_=>by simp at h
 |d0::ds,d,h,n,hn=>by
  simp only[DataW.weightsAll,dB];rcases ka.1 h with h|h
  ·subst h;exact .inl hn
  ·exact .inr (y7 h n hn)
def rR{t e:TypeId}{f:Nat}{ks:List CK}{v:Value}{r:Reach}{b0:Nat}{d:DataW H}{ps:List MemPlace}(ht:P.underlying t=some (.slice e))(he:flat P f e=some ks)(hc:P.cellsOf e=ks.length)
 (sJ:Value.okWide P w r b0 t v)(hd:DataW.Trod enc P w base spare held t v d ps)(hw:∀n∈d.weights P t,n<=reachBytes):
 ∃b n c xs,v=.slice b n c/\Ro w b n ks.length xs/\zR ks n xs/\n* P.bytesOf e<=reachBytes/\n<=maxLen:=by
 obtain⟨b,n,c,rfl⟩:=okWide_slice ht sJ;obtain⟨m,hm⟩:=hd;rcases Go.Deep.open_slice ht hm with⟨Nv,hx⟩|⟨a,len,cap,k,n',D,Pl,Nv,hb,hl,hmx,hk,hx,AM⟩
 ·simp[Value.cells] at Nv;obtain⟨rfl,rfl,rfl⟩:=Nv;refine⟨none,0,0,[],rfl,⟨by simp,λ_=>rfl,λa h=>by cases h⟩,λi h=>by omega,by simp,by decide⟩
 ·simp[Value.cells] at Nv;obtain⟨rfl,rfl,rfl⟩:=Nv;obtain⟨hx,_⟩:=Prod.mk.inj hx;subst hx;have hlk:n<=k:=by rw[hk];split<;>omega
  simp only[DataW.weights,ht] at hw;have qh:∀i,i<n->∀j,j<ks.length->∃v,w.cell? (a.add (i* ks.length+j))=some v:=λi hi j hj=>by
   obtain⟨xd,h1,h2⟩:=AM i (by omega);obtain⟨_,h3,h4⟩:=World.cells?_some h1;rw[hc] at h3 h4;refine⟨xd[j],?_⟩;rw[<-add_add,h4 j hj];simp[h3,hj]
  have Ci:∀j,j<n* ks.length->∃v,w.cell? (a.add j)=some v:=λj hj=>by
   have Mj:0<ks.length:=by
    cases hks:ks.length with
    |zero=>rw[hks] at hj;omega
    |succ x=>omega
   have h1:j/ks.length<n:=by rw[Nat.div_lt_iff_lt_mul Mj];exact hj
   have h2:j%ks.length<ks.length:=Nat.mod_lt _ Mj;obtain⟨v,hv⟩:=qh _ h1 _ h2;refine⟨v,?_⟩;rw[<-hv];congr 2;have:=Nat.div_add_mod j ks.length;rw[wI] at this;omega
  refine⟨some a,n,c,(qk (n* ks.length)).map λj=>(w.cell? (a.add j)).getD (.bool false),rfl,⟨by simp,λh=>(by cases h),λa' ha' j v hv=>?_⟩,λi hi j k' Bt=>?_,?_,by omega⟩
  ·cases ha'
   rw[fy,Option.map_eq_some_iff] at hv;obtain⟨j',Nq,rfl⟩:=hv;obtain⟨cn,rfl⟩:=ar.1 Nq;simp only[List.length_range] at cn;simp only[List.getElem_range];obtain⟨v,hv⟩:=Ci j cn;rw[hv];rfl
  ·obtain⟨xd,h1,h2⟩:=AM i (by omega);obtain⟨_,h3,h4⟩:=World.cells?_some h1;rw[hc] at h3 h4;have hj:j<ks.length:=(ar.1 Bt).1;have h5:=GK f n' e ks xd (D i,Pl i) he h2 (λx hx=>hw x (by
    simp only[ka,dB]
    refine .inr (.inl (y7 ?_ x hx))
    exact cV.2 ⟨i,List.mem_range.2 hi,rfl⟩))
   obtain⟨v,hv,hkv⟩:=h5 j k' Bt;refine⟨v,?_,hkv⟩;have cn:i* ks.length+j<n* ks.length:=by
    have:(i+1)* ks.length<=n* ks.length:=iA _ hi;rw[mG] at this;omega
   rw[fy,rL cn,fm,<-add_add,hc] at *;rw[aB] at hv;rw[h4 j hj,hv];rfl
  ·have:=hw _ (sX);simp only[bQ,List.length_range] at this;exact wJ (iA _ (by omega)) this
def Below.trodAll(hl:laidOutB P=true){W W':World}(hb:Below W.heap.size W W'):
 ∀{ts:List TypeId} {vs:LV} {ds:List (DataW H)} {ps:List MemPlace},ts.all (λt=>P.readableRec t&&decide (t<P.types.size))=true->
 DataW.TrodAll enc P W 0 (λ_=>true) true ts vs ds ps->DataW.TrodAll enc P W' 0 (λb=>decide (b<W.heap.size)) true ts vs ds ps
 |[],vs,ds,ps,_,h=>by
  cases vs<;>cases ds<;>simp[DataW.TrodAll] at h⊢
  exact h
 |t::ts,vs,ds,ps,hr,h=>by
  simp only[List.all_cons,df,decide_eq_true_eq] at hr;have cn:=DataW.TrodAll.lt h;obtain⟨v,Hm,d,ds',p,q,rfl,rfl,rfl,h1,h2⟩:=trodAll_cons h;exact⟨p,q,Go.RowKit.Below.trod hl hr.1.1 hr.1.2 h1 hb (λx hx=>cn x (by simp[hx])),Below.trodAll hl hb hr.2 h2,rfl⟩
end
end Go.Sep
namespace Go.Sep
open Go.Den Go.RowKit Go.Prog Go.cG
def iR{z ys:LV}(h:ys.length=z.length):over z 0 ys=ys:=by
 unfold over;rw[mR,cQ,aB,gG (by omega),bR]
section
variable {W w:World} {L:LH} {b:OA} {n e:Nat} {xs:LV}
end
section
variable {W w:World} {L:LH}
end
namespace Dk
variable {D:Go.cG.aY}
open Go.cG.aY (last put pad)
def Vf(h:D.arm=0):D.wu=false:=by simp[Go.cG.aY.wu,h]
def ZI(h:D.arm=0):D.tick.arm=0:=by simp[Go.cG.aY.tick,h]
def Jy(h:D.arm=0)(i:Int)(s:BA):D.write i s=if ¬D.is i\/128<s.size then(D,1) else({Go.cG.aY.tick D with later:=D.later++[(i,pad s)]},0):=by
 unfold Go.cG.aY.write;rw[Vf h];rfl
def Fj(h:D.arm=0)(i:Int)(s:BA):(D.write i s).1.arm=0:=by
 rw[Jy h];split
 ·exact h
 ·exact ZI h
def Pu(h:D.arm=0):D.sync=({D.tick with safe:=D.later.foldl put D.safe,later:=[]},0):=by
 unfold Go.cG.aY.sync;rw[Vf h];rfl
def uo(l:List (Int×BA))(p:Int×BA)(i:Int):last (l++[p]) i=if p.1=i then some p.2 else last l i:=by
 unfold last;rw[List.reverse_append];simp only[yL,List.reverse_nil,cQ,List.singleton_append,List.find?_cons];by_cases h:p.1=i
 ·simp[h]
 ·have:(p.1==i)=false:=by simp[h]
  rw[this,ag h]
def Gj(h:D.arm=0)(n i:Int)(s:BA):(D.write n s).1.now i=if(D.is n/\s.size<=128)/\n=i then pad s else D.now i:=by
 rw[Jy h];by_cases hw: ¬D.is n\/128<s.size
 ·rw[ai hw,ag];rintro⟨⟨h1,h2⟩,_⟩;rcases hw with hw|hw
  ·exact hw h1
  ·omega
 ·rw[ag hw];have h1:D.is n:=by
   by_cases hh:D.is n
   ·exact hh
   ·exact aT (.inl hh) hw
  have h2:s.size<=128:=by
   by_cases hh:s.size<=128
   ·exact hh
   ·exact aT (.inr (by omega)) hw
  simp only[Go.cG.aY.now,Go.cG.aY.tick,uo];by_cases hni:n=i
  ·rw[ai hni,ai ⟨⟨h1,h2⟩,hni⟩];rfl
  ·rw[ag hni,ag (λhh=>hni hh.2)]
def Ah(l:List (Int×BA))(p:Int×BA)(i:Int):last (p::l) i=(last l i).or (if p.1=i then some p.2 else none):=by
 unfold last;rw[yL,List.find?_append];by_cases h:p.1=i
 ·cases List.find? (λp=>p.1==i) l.reverse<;>simp[h]
 ·have:(p.1==i)=false:=by simp[h]
  cases List.find? (λp=>p.1==i) l.reverse<;>simp[h,this]
def AO{i:Int}(hi:0<=i):∀(l:List (Int×BA))(safe:List BA),i<safe.length->(∀p∈l,0<=p.1)->(l.foldl put safe).getD i.toNat .empty=(last l i).getD (safe.getD i.toNat .empty):=by
 intro l
 induction l with
 |nil=>intro safe _ _;rfl
 |cons p l ih=>
  intro safe hs hp;rw[List.foldl_cons,Ah,ih _ (by simp[put];exact hs) (λq hq=>hp q (jV _ hq))];have hp0:=hp p (by simp);have hlen:i.toNat<safe.length:=by omega
  have e:(put safe p).getD i.toNat .empty=if p.1=i then p.2 else safe.getD i.toNat .empty:=by
   unfold put;by_cases Nl:p.1=i
   ·rw[ai Nl,Nl,jW,List.getElem?_set_self hlen];rfl
   ·rw[ag Nl,jW,Pc (by omega),<-jW]
  rw[e];cases last l i with
  |some x=>rfl
  |none=>by_cases Nl:p.1=i<;>simp[Nl]
def RC(h:D.arm=0)(iz:D.Ok){i:Int}(hi:D.is i):D.sync.1.now i=D.now i:=by
 rw[Pu h];have:=AO hi.1 D.later D.safe hi.2 (λp hp=>(iz.later p hp).2.1);simp only[Go.cG.aY.now,last,List.reverse_nil,List.find?_nil,Option.map_none,gQ];exact this
def Lj:D.sync.1.safe.length=D.safe.length/\D.sync.1.later.length<=D.later.length:=by
 unfold Go.cG.aY.sync;split
 ·exact⟨rfl,aI _⟩
 ·exact⟨oY _ _,aF _⟩
def Q6(h:D.arm=0):D.sync.1.arm=0:=by rw[Pu h];exact ZI h
end Dk
end Go.Sep
namespace Go.Sep
open Go.Den Go.RowKit Go.Prog Go.cG
def bs(l:List UInt8):BA:=⟨l.toArray⟩
def bV(l:List UInt8):(bs l).size=l.length:=rfl
def QK(s:BA):bs s.data.toList=s:=rfl
def vZ(x:UInt8):Value:=.int .u8 (x.toNat:Int)
def byteOf(k:IntKind)(n:Int)(i:Nat):UInt8:=UInt8.ofNat (IntKind.u8.wrap (shr k n (8* (i:Int)))).toNat
def le(k:IntKind)(w:Nat)(n:Int):List UInt8:=(qk w).map (byteOf k n)
def aQ(k:IntKind)(w:Nat)(n:Int):(le k w n).length=w:=by simp[le]
def xU(n:Int):0<=IntKind.u8.wrap n/\IntKind.u8.wrap n<256:=by
 simp[IntKind.wrap,IntKind.bits,IntKind.signed];omega
def u2{n:Int}(h:0<=n/\n<256):vZ (UInt8.ofNat n.toNat)=.int .u8 n:=by
 unfold vZ
 congr 1
 have:n.toNat<256:=by omega
 rw[UInt8.toNat_ofNat_of_lt' (by exact this)];omega
def D9(l:List UInt8):bytesOf (l.map vZ)=l:=by
 unfold bytesOf;rw[sY]
 conv=>rhs;rw[<-List.map_id l]
 refine jv λx _=>?_;simp[vZ]
def strCells_eq(s:BA):strCells s=s.data.toList.map vZ:=rfl
def buf(p:Nat)(l:List UInt8):HP:=S8 λ(v:OA×Nat)=>sep (pt p [.l v.1 l.length v.2]) (own v.1 l.length v.2 1 (l.map vZ))
section
variable {W w:World} {L:LH} {k p:Nat} {l:List UInt8}
def G3(h:St W w L)(hk:L[k]?=some (buf p l)):∃b c,St W w (pt p [.l b l.length c]::own b l.length c 1 (l.map vZ)::L.eraseIdx k):=by
 obtain⟨⟨b,c⟩,h1⟩:=(h.focus hk).ex;exact⟨b,c,h1.split⟩
def ve{b:OA}{c n:Nat}{A:HP}(hk:L[k]?=some A)(hn:n=l.length)(h:St W w (pt p [.l b n c]::own b n c 1 (l.map vZ)::L.eraseIdx k)):St W w (L.set k (buf p l)):=by
 subst hn;refine St.ss (A:=A) ?_ hk;exact St.rA (b,c) (St.join h)
def Ze{b:OA}{n c:Nat}{K:BA->WK}(h:St W w L)(hk:L[k]?=some (own b n c 1 (l.map vZ)))(hK:K (bs l) w):VQ b n K w:=by
 have hl:=(h.oU hk).1;rw[bQ,mF] at hl;have A4:=QW h hk;refine⟨λhb=>?_,λa ha=>⟨l.map vZ,by rw[bQ];exact hl,A4.1.2 a ha,λv hv=>?_,?_⟩⟩
 ·have:n=0:=A4.2 hb;have SX:l=[]:=List.length_eq_zero_iff.1 (by omega);subst SX;exact hK
 ·obtain⟨x,_,rfl⟩:=cV.1 hv;exact⟨_,rfl⟩
 ·rw[D9];exact hK
def OY{r n:Nat}{K:BA->WK}(h:St W w L)(hk:L[k]?=some (pt r (l.map vZ)))(hn:n=l.length)(hK:K (bs l) w):VQ (ah r) n K w:=by
 refine⟨λhb=>(by cases hb),λa ha=>⟨l.map vZ,by rw[bQ,hn],?_,λv hv=>?_,?_⟩⟩
 ·cases ha
  exact xH h hk λj v hj=>by rw[aB];exact hj
 ·obtain⟨x,_,rfl⟩:=cV.1 hv;exact⟨_,rfl⟩
 ·rw[D9];exact hK
def kG{m n:Int}{K:VK}(h:St W w L)(hk:L[k]?=some (buf p l))(hl:l.length<1099511627776)
 (hK:∀w',St W w' (L.set k (buf p (l++le .i64 (min2 (max2 m 1) 8).toNat n)))->K (.tuple ⟨[]⟩) w'):bt (ah p) m n K w:=by
 have hm:1<=min2 (max2 m 1) 8/\min2 (max2 m 1) 8<=8:=by unfold min2 max2;split<;>split<;>omega
 unfold bt;generalize min2 (max2 m 1) 8=q at *;obtain⟨b,c,hs⟩:=G3 h hk;refine⟨λus w'=>∃(j:Nat)(b:OA)(c:Nat),us=[.i q,.i j]/\(j:Int)<=q/\St W w' (pt p [.l b (l++le .i64 j n).length c]::own b (l++le .i64 j n).length c 1 ((l++le .i64 j n).map vZ)::L.eraseIdx k),
  λus _=>match us with|[_,.int _ j]=>(q-j).toNat|_=>0,⟨0,b,c,rfl,by omega,?_⟩,?_⟩
 ·have e:l++le .i64 0 n=l:=by simp[le]
  rw[e];exact hs
 rintro n3 n4 w2 ⟨j,b,c,he,hj,hs⟩;cases he
 refine fV (λh0=>?_) (λh0=>?_)
 ·refine mK hs λw hs=>?_;simp only[nz,ae,af];apply cZ (k:=0) hs rfl rfl;simp only[nz,ae,af];have e8:aa.wrap (8* (j:Int))=8* (j:Int):=aX (by omega);rw[e8];refine⟨by omega,?_⟩;have hb8:Value.int .u8 (IntKind.u8.wrap (shr .i64 n (8* (j:Int))))=vZ (byteOf .i64 n j):=by
   unfold byteOf;rw[u2 (xU _)]
  rw[hb8];refine jh hs λr w hs=>?_;apply kI (k:=1) hs rfl rfl;have hlen:(l++le .i64 j n).length=l.length+j:=by rw[av,aQ]
  refine vh (k:=2) (ys:=[vZ (byteOf .i64 n j)]) hs rfl (He (k':=0) hs rfl rfl λj v hj=>by rw[aB];exact hj) (by simp) rfl (by omega) (by omega) (by simp[Value.oneCell',vZ]) λb' c' w hs=>?_;simp only[nz,ae,af] at hs⊢;refine pn (k:=1) hs rfl (aK rfl) rfl λw hs=>?_;simp only[nz,ae,af] at hs;have e5:=nI j;rw[e5];refine⟨⟨j+1,b',c',rfl,by omega,?_⟩,by omega⟩;have e6:l++le .i64 (j+1) n=(l++le .i64 j n)++[byteOf .i64 n j]:=by
   unfold le;rw[List.range_succ,cF,aH];rfl
  rw[e6,av,cF];exact hs.drop
 ·have HN:(j:Int)=q:=by omega
  apply hK _;have:q.toNat=j:=by omega
  rw[this];exact ve hk rfl hs
def rK{s:BA}{K:VK}(h:St W w L)(hk:L[k]?=some (buf p l))(hl:l.length+s.size<1099511627776)
 (hK:∀w',St W w' (L.set k (buf p (l++s.data.toList)))->K (.tuple ⟨[]⟩) w'):ml (ah p) s K w:=by
 unfold ml;obtain⟨b,c,hs⟩:=G3 h hk;simp only[nz,ae,af];apply cZ (k:=0) hs rfl rfl;simp only[nz,ae,af];refine G7 (k:=1) hs rfl (by omega) λb' c' w hs=>?_;simp only[nz,ae,af] at hs⊢;refine pn (k:=0) hs rfl (aK rfl) rfl λw hs=>?_;simp only[nz,ae,af] at hs;refine hK w (ve (b:=b') (c:=c') (n:=l.length+s.size) hk (by rw[av];rfl) ?_);rw[cF,<-strCells_eq];exact hs
def nq{K:VK}(h:St W w L)(hk:L[k]?=some (buf p l))(hK:K (.s (bs l)) w):dN (ah p) K w:=by
 unfold dN;obtain⟨b,c,hs⟩:=G3 h hk;simp only[nz,ae,af];apply cZ (k:=0) hs rfl rfl;simp only[nz,ae,af];exact Ze (k:=1) hs rfl hK
def Vx(n:Int):Nat->Int
 |0=>n
 |j+1=>dj .u32 .xor (shr .u32 (Vx n j) 1) (dj .u32 .and 2197175160 (IntKind.u32.wrap (0-(dj .u32 .and (Vx n j) 1))))
def Y1(n:Int)(c:UInt8):Int:=Vx (dj .u32 .xor n (IntKind.u32.wrap (c.toNat:Int))) 8
def Vw(n:Int)(l:List UInt8):Int:=l.foldl Y1 n
def uf(n:Int)(l:List UInt8):Int:=dj .u32 .xor 4294967295 (Vw (dj .u32 .xor 4294967295 n) l)
def isW(w w':World):Prop:=w'=w
def Na{n:Int}{s:BA}{K:VK}(hs:s.size<1099511627776)(hK:K (.int .u32 (uf n s.data.toList)) w):vN n s K w:=by
 unfold vN;refine⟨λus w'=>∃j:Nat,us=[.int .u32 0,.int .u32 (Vw (dj .u32 .xor 4294967295 n) (s.data.toList.take j)),.i s.size,.i j]/\j<=s.size/\isW w w',
  λus _=>match us with|[_,_,_,.int _ j]=>s.size-j.toNat|_=>0,⟨0,rfl,aF _,rfl⟩,?_⟩
 rintro n2 n3 n4 n5 w2 ⟨j,he,hj,hw⟩;obtain rfl:w2=w:=hw;cases he
 have hlen:s.data.toList.length=s.size:=rfl;generalize hb:decide ((j:Int)<(s.size:Int))=b;cases b
 ·have iZ:=bj hb;rw[eu];have:j=s.size:=by omega
  subst this;rw[bU (by omega)];exact hK
 ·have cn:=aR hb;rw[lC];have UX:j<s.data.toList.length:=by omega
  refine⟨s.data.toList[j],⟨by omega,by simp[UX]⟩,?_⟩;generalize hc:s.data.toList[j]=c;generalize hx:Vw (dj .u32 .xor 4294967295 n) (s.data.toList.take j)=x;refine⟨λus w'=>∃i:Nat,us=[.int .u32 0,.int .u32 (Vx (dj .u32 .xor x (IntKind.u32.wrap (c.toNat:Int))) i),.i j,.i s.size,.i j,.b true,.i j,.int .u32 x,.s s,.i j,.int .u8 (c.toNat:Int),.int .u32 (IntKind.u32.wrap (c.toNat:Int)),.int .u32 (dj .u32 .xor x (IntKind.u32.wrap (c.toNat:Int))),.i i]/\i<=8/\isW w2 w',
   λus _=>match us with|[_,_,_,_,_,_,_,_,_,_,_,_,_,.int _ i]=>8-i.toNat|_=>0,⟨0,rfl,aF _,rfl⟩,?_⟩
  rintro n6 n7 n8 n9 C3 b1 B9 RG s2 Wz n14 n15 wP SQ w4 ⟨i,he,hi,hw⟩;obtain rfl:w4=w2:=hw;cases he
  generalize xa:decide ((i:Int)<8)=b2;cases b2
  ·have iZ:=bj xa;rw[eu];have hi8:i=8:=by omega
   subst hi8;have e5:=nI j;rw[e5];refine⟨⟨j+1,?_,by omega,rfl⟩,by dsimp only;omega⟩;have e6:Vw (dj .u32 .xor 4294967295 n) (s.data.toList.take (j+1))=Vx (dj .u32 .xor x (IntKind.u32.wrap (c.toNat:Int))) 8:=by
    rw[qV UX];unfold Vw at hx⊢;rw[List.foldl_append,hx,hc];rfl
   rw[e6]
  ·have vE:=aR xa;rw[lC];refine⟨by decide,?_⟩;have e5:=nI i;rw[e5];exact⟨⟨i+1,rfl,by omega,rfl⟩,by dsimp only;omega⟩
def wS(n:Int):List UInt8:=le .u32 4 n
def zN{n:Int}{K:VK}(h:St W w L)(hn:0<=n/\n<4294967296)(hK:∀w',St W w' L->K (.s (bs (wS n))) w'):sR n K w:=by
 unfold sR;refine⟨by decide,by decide,by decide,⟨rfl,rfl,rfl,rfl,trivial⟩,jh h λr w hs=>?_⟩;have e0:Value.int .u8 (IntKind.u8.wrap n)=vZ (byteOf .u32 n 0):=by
  unfold byteOf;rw[u2 (xU _)];have:shr .u32 n (8* ((0:Nat):Int))=n:=by simp[shr]
  rw[this]
 have e:∀i:Nat,Value.int .u8 (IntKind.u8.wrap (shr .u32 n (8* (i:Int))))=vZ (byteOf .u32 n i):=λi=>by
  unfold byteOf;rw[u2 (xU _)]
 have e1:=e 1;have e2:=e 2;have e3:=e 3;have AM:[Value.int .u8 (IntKind.u8.wrap n),.int .u8 (IntKind.u8.wrap (shr .u32 n 8)),.int .u8 (IntKind.u8.wrap (shr .u32 n 16)),.int .u8 (IntKind.u8.wrap (shr .u32 n 24))]=(wS n).map vZ:=by
  rw[e0,show(8:Int)=8* ((1:Nat):Int) from rfl,show(16:Int)=8* ((2:Nat):Int) from rfl,show(24:Int)=8* ((3:Nat):Int) from rfl,e1,e2,e3]
  rfl
 rw[AM] at hs;exact OY (k:=0) hs rfl rfl (hK w hs.drop)
end
def eB(n i:Int)(s:BA):Prop:=1<=n/\n<=1152921504606846976/\0<=i/\i<4096/\s.size<=104
instance(n i:Int)(s:BA):Decidable (eB n i s):=by unfold eB;infer_instance
def pre(n i:Int)(s:BA):List UInt8:=le .i64 8 n++le .i64 2 i++le .i64 2 s.size++s.data.toList++bw (104-s.size) 0
def mU(n i:Int)(s:BA):List UInt8:=pre n i s++wS (uf 0 (pre n i s))++le .i64 8 n
def leaf(n i:Int)(s:BA):BA:=if eB n i s then bs (mU n i s) else .empty
def rQ{n i:Int}{s:BA}(h:s.size<=104):(pre n i s).length=116:=by
 have:s.data.toList.length=s.size:=rfl;simp only[pre,av,aQ,kV];omega
def yi{n i:Int}{s:BA}(h:s.size<=104):(mU n i s).length=128:=by
 simp only[mU,av,aQ,rQ h,wS]
def u9{n i:Int}{s:BA}(h:eB n i s):(leaf n i s).size=128:=by
 unfold leaf;rw[ai h,bV,yi h.2.2.2.2]
def Dy(n:Int):0<=IntKind.u32.wrap n/\IntKind.u32.wrap n<4294967296:=by
 simp[IntKind.wrap,IntKind.bits,IntKind.signed];omega
section
variable {W w:World} {L:LH} {k d:Nat} {D:aY}
def Je{n i:Int}{s:BA}{K:VK}(h:St W w L)(hK:∀w',St W w' L->K (.b (decide (eB n i s))) w'):vr [.i n,.i i,.s s] K w:=by
 unfold vr;refine jh h λr w hs=>?_;have hh:=hK w hs.drop;simp only[nz,ae,af];apply cZ (k:=0) hs rfl rfl;simp only[nz,ae,af];refine fV (λh1=>?_) (λh1=>?_)
 ·apply cZ (k:=0) hs rfl rfl;simp only[nz,ae,af];refine fV (λh2=>?_) (λh2=>?_)
  ·apply cZ (k:=0) hs rfl rfl;simp only[nz,ae,af];refine fV (λh3=>?_) (λh3=>?_)
   ·apply cZ (k:=0) hs rfl rfl;simp only[nz,ae,af];refine fV (λh4=>?_) (λh4=>?_)
    ·apply cZ (k:=0) hs rfl rfl;simp only[nz,ae,af];have:decide ((s.size:Int)<=104)=decide (eB n i s):=by
      rw[decide_eq_decide];unfold eB;omega
     rw[this];exact hh
    ·have:decide (eB n i s)=false:=ao (by unfold eB;omega);rw[this] at hh;exact hh
   ·have:decide (eB n i s)=false:=ao (by unfold eB;omega);rw[this] at hh;exact hh
  ·have:decide (eB n i s)=false:=ao (by unfold eB;omega);rw[this] at hh;exact hh
 ·have:decide (eB n i s)=false:=ao (by unfold eB;omega);rw[this] at hh;exact hh
def Pa{n i:Int}{s:BA}{K:VK}(h:St W w L)(hK:∀w',St W w' L->K (.tuple ⟨[.s (leaf n i s),.i (if eB n i s then 0 else 1)]⟩) w'):
 r9 [.i n,.i i,.s s] K w:=by
 unfold r9;refine jh h λr w hs=>?_;refine kq (k:=0) (xs:=[.i n,.i i,.s s]) hs rfl rfl (λj v hj=>by rw[aB];exact hj) ?_;refine Je hs λw hs=>?_;simp only[nz,ae,af];by_cases hg:eB n i s
 ·have qc:=hg.2.2.2.2;have e0:decide (eB n i s)=true:=aw hg;unfold leaf at hK;rw[ai hg,ai hg] at hK;rw[e0];simp only[nz,ae,af];refine jh hs λp w hs=>?_;have hs:St W w (buf p []::pt r [.i n,.i i,.s s]::L):=by
   have h2:=(hs.push (A:=own none 0 0 1 (([]:List UInt8).map vZ)) (sA 1)).perm (cf.swap _ _ _);exact ve (k:=0) (L:=buf p []::pt r [.i n,.i i,.s s]::L) (A:=buf p []) rfl rfl h2
  have hd:s.data.toList.length=s.size:=rfl;apply cZ (k:=1) hs rfl rfl;simp only[nz,ae,af];refine kG (k:=0) hs rfl (by simp) λw hs=>?_;rw[show(min2 (max2 8 1) 8).toNat=8 from rfl] at hs;simp only[nz,ae,af] at hs⊢;apply cZ (k:=1) hs rfl rfl;simp only[nz,ae,af];refine kG (k:=0) hs rfl (by simp only[av,aQ,cR];omega) λw hs=>?_;rw[show(min2 (max2 2 1) 8).toNat=2 from rfl] at hs;simp only[nz,ae,af] at hs⊢;apply cZ (k:=1) hs rfl rfl;simp only[nz,ae,af];refine kG (k:=0) hs rfl (by simp only[av,aQ,cR];omega) λw hs=>?_;rw[show(min2 (max2 2 1) 8).toNat=2 from rfl] at hs;simp only[nz,ae,af] at hs⊢;apply cZ (k:=1) hs rfl rfl;simp only[nz,ae,af];refine rK (k:=0) hs rfl (by simp only[av,aQ,cR];omega) λw hs=>?_;simp only[nz,ae,af] at hs⊢;apply cZ (k:=1) hs rfl rfl;simp only[nz,ae,af];have ew:aa.wrap (104-(s.size:Int))=((104-s.size:Nat):Int):=by rw[aX (by omega)];omega
  rw[ew];refine Eb hs (by omega) (by rw[ak];have:(⟨#[0]⟩:BA).size=1:=rfl;rw[this];omega) (by omega) λw hs=>?_;have er:(⟨(FU (⟨#[0]⟩:BA).data.toList (((104-s.size:Nat):Int).toNat)).toArray⟩:BA)=bs (bw (104-s.size) 0):=by
   rw[ak];show bs (FU [0] (104-s.size))=_;rw[FT]
  rw[er];simp only[nz,ae,af];refine rK (k:=0) hs rfl (by rw[bV];simp only[av,aQ,cR,kV];omega) λw hs=>?_;simp only[nz,ae,af] at hs⊢;have ep:[]++le .i64 8 n++le .i64 2 i++le .i64 2 s.size++s.data.toList++(bs (bw (104-s.size) 0)).data.toList=pre n i s:=rfl;rw[ep] at hs;apply nq (k:=0) hs rfl;simp only[nz,ae,af];refine Na (by rw[bV,rQ qc];omega) ?_;simp only[nz,ae,af];refine zN hs (Dy _) λw hs=>?_;simp only[nz,ae,af];refine rK (k:=0) hs rfl (by rw[bV,rQ qc];simp only[wS,aQ];omega) λw hs=>?_;simp only[nz,ae,af] at hs⊢;apply cZ (k:=1) hs rfl rfl;simp only[nz,ae,af];have ep2:pre n i s++(bs (wS (uf 0 (bs (pre n i s)).data.toList))).data.toList=pre n i s++wS (uf 0 (pre n i s)):=rfl;rw[ep2] at hs;refine kG (k:=0) hs rfl (by simp only[av,wS,aQ,rQ qc];omega) λw hs=>?_;rw[show(min2 (max2 8 1) 8).toNat=8 from rfl] at hs;simp only[nz,ae,af] at hs⊢;apply nq (k:=0) hs rfl;simp only[nz,ae,af];exact hK w hs.drop.drop
 ·have e0:decide (eB n i s)=false:=ao hg;unfold leaf at hK;rw[ag hg,ag hg] at hK;rw[e0];simp only[nz,ae,af];exact hK w hs.drop
def gH(n:Nat):Nat:=if n=0 then 1 else(n+103)/104
def sP(n:Nat):1<=gH n:=by unfold gH;split<;>omega
def ON{n j:Nat}(hj:1<=j):104* j<n↔j<gH n:=by unfold gH;split<;>omega
def rW{n:Nat}{K:VK}(hn:n<1099511627776000)(hK:K (.i (gH n)) w):mS n K w:=by
 unfold mS;refine⟨by decide,by decide,?_⟩;have e0:max2 (n:Int) 0=n:=by unfold max2;split<;>omega
 have e1:(n:Int).tdiv 104=((n/104:Nat):Int):=by rw[Int.tdiv_eq_ediv_of_nonneg (by omega)];rfl
 have e2:(n:Int).tmod 104=((n%104:Nat):Int):=by rw[gX (by omega)];rfl
 rw[e0,e1,e2];have e3:max2 (aa.wrap (aa.wrap ((n/104:Nat):Int)+min2 ((n%104:Nat):Int) 1)) 1=(gH n:Int):=by
  have h1:aa.wrap ((n/104:Nat):Int)=((n/104:Nat):Int):=aX (by omega);rw[h1];have h2:min2 ((n%104:Nat):Int) 1=((min (n%104) 1:Nat):Int):=by unfold min2;split<;>omega
  rw[h2,aX (by omega)];unfold max2 gH;split<;>split<;>omega
 rw[e3];exact hK
end
def lh{x y:BA}(h:x.data.toList=y.data.toList):x=y:=ByteArray.ext (tt h)
def extract_toList(s:BA)(a b:Nat):(s.extract a b).data.toList=(s.data.toList.drop a).take (b-a):=by
 rw[ByteArray.data_extract,Array.toList_extract,List.extract_eq_take_drop]
def eW(s:BA):s.data.toList.length=s.size:=rfl
def part(s:BA)(i:Nat):BA:=s.extract (104* i) (104* (i+1))
def nP(s:BA)(i:Nat):(part s i).size<=104:=by unfold part;rw[ug];omega
def Rk(s:BA)(i m:Nat)(hm:m=min (s.size-104* i) 104):(s.extract (104* i) s.size).extract 0 m=part s i:=by
 apply lh;unfold part;rw[extract_toList,extract_toList,extract_toList,jf,yK,List.take_eq_take_iff,aS,eW];omega
def Rj(s:BA)(i m:Nat)(hm:m=min (s.size-104* i) 104):(s.extract (104* i) s.size).extract m (s.extract (104* i) s.size).size=s.extract (104* (i+1)) s.size:=by
 apply lh;rw[extract_toList,extract_toList,extract_toList,ug];rw[bU (by rw[aS,aD,aS,eW];omega),bU (by rw[aS,eW];omega),bU (by rw[aS,eW];omega),jX];by_cases h:104<=s.size-104* i
 ·congr 1;omega
 ·rw[gG (by rw[eW];omega),gG (by rw[eW];omega)]
def pR(at' number:Int)(s:BA):aY->Nat->Nat->aY×Int
 |D,_,0=>(D,0)
 |D,i,n+1=>if(D.write (at'+i) (leaf number i (part s i))).2≠0 then D.write (at'+i) (leaf number i (part s i)) else pR at' number s (D.write (at'+i) (leaf number i (part s i))).1 (i+1) n
def lay(D:aY)(at' toX number:Int)(s:BA):aY×Int:=
 if number<1\/1152921504606846976<number\/at'<0\/(D.safe.length:Int)<toX\/toX<at' then(D,1)
 else if toX-at'<(gH s.size:Int) then(D,3) else pR at' number s D 0 (gH s.size)
def Cb{at' number:Int}{s:BA}:∀(n i:Nat) {D:aY},D.Ok->D.later.length+n<1099511627776->(pR at' number s D i n).1.Ok/\(pR at' number s D i n).1.safe=D.safe/\(pR at' number s D i n).1.later.length<=D.later.length+n
 |0,i,D,h,hl=>⟨h,rfl,aI _⟩
 |n+1,i,D,h,hl=>by
  have h1:=tv D (at'+i) (leaf number i (part s i));have h2:=K0 h (at'+i) (leaf number i (part s i)) (by omega);unfold pR;split
  ·exact⟨h2,h1.1,by omega⟩
  ·have:=Cb (at':=at') (number:=number) (s:=s) n (i+1) h2 (by omega);exact⟨this.1,this.2.1.trans h1.1,by omega⟩
def J6{D:aY}{at' toX number:Int}{s:BA}(h:D.Ok)(hl:D.later.length+gH s.size<1099511627776):(lay D at' toX number s).1.Ok/\(lay D at' toX number s).1.safe=D.safe:=by
 unfold lay;split
 ·exact⟨h,rfl⟩
 ·split
  ·exact⟨h,rfl⟩
  ·have:=Cb (at':=at') (number:=number) (s:=s) (gH s.size) 0 h hl;exact⟨this.1,this.2.1⟩
section
variable {W w:World} {L:LH} {k d:Nat} {D:aY}
def uD{at' toX number:Int}{s:BA}{b:Bool}{K:VK}(h:St W w L)(hk:L[k]?=some (gN d D))(iz:D.Ok)(hl:D.later.length+4097<1099511627776)(hs:s.size<=reachBytes)
 (hb:b=decide (number<1\/1152921504606846976<number\/at'<0\/(D.safe.length:Int)<toX\/toX<at'))
 (hK:∀w',St W w' (L.set k (gN d (lay D at' toX number s).1))->K (.i (lay D at' toX number s).2) w'):lZ.j1 K s toX at' number (ah d) b w:=by
 have qc:s.size<=140737488351232:=hs;have xu:=iz.oJ;unfold lZ.j1;unfold lay at hK;refine uA (λh1=>?_) (λh1=>?_)
 ·rw[hb] at h1;rw[ai (aR h1)] at hK;apply hK w;rw[nW hk];exact h
 rw[hb] at h1;have Ay:=bj h1;rw[ag Ay] at hK;apply rW (by omega);simp only[nz,ae,af];have ew:aa.wrap (toX-at')=toX-at':=aX (by omega);rw[ew];refine fV (λh2=>?_) (λh2=>?_)
 ·rw[ai (by omega)] at hK;apply hK w;rw[nW hk];exact h
 rw[ag (by omega)] at hK;have Ov:gH s.size<=4096:=by omega
 refine⟨λus w'=>∃(j:Nat)(Dj:aY),us=[.s (s.extract (104* j) s.size),.i 0,.i j]/\j<=gH s.size/\Dj.Ok/\Dj.later.length<=D.later.length+j/\pR at' number s D 0 (gH s.size)=pR at' number s Dj j (gH s.size-j)/\St W w' (L.set k (gN d Dj)),
  λus _=>match us with|[_,_,.int _ j]=>gH s.size-j.toNat|_=>0,⟨0,D,?_,aF _,iz,by omega,rfl,by rw[nW hk];exact h⟩,?_⟩
 ·have:s.extract (104* 0) s.size=s:=by rw[Nat.mul_zero];exact ByteArray.extract_zero_size
  rw[this];rfl
 rintro s2 n5 n6 w2 ⟨j,Dj,he,hj,iz,Yi,abx,hs⟩;cases he
 have td:(L.set k (gN d Dj))[k]?=some (gN d Dj):=kn hk;have Ax:min2 ((s.extract (104* j) s.size).size:Int) 104=((min (s.size-104* j) 104:Nat):Int):=by
  rw[ug];unfold min2;split<;>omega
 have e5:=nI j;have ea:aa.wrap (at'+(j:Int))=at'+j:=aX (by omega);rw[Ax,e5,ea,ug];have hex:∀X:WK,X w2->cw (0<=((min (s.size-104* j) 104:Nat):Int)/\((min (s.size-104* j) 104:Nat):Int)<=((min s.size s.size-104* j:Nat):Int)) X w2:=λX hX=>⟨by omega,hX⟩;have step:j<gH s.size->∀w,St W w (L.set k (gN d (Dj.write (at'+j) (leaf number j (part s j))).1))->(Dj.write (at'+j) (leaf number j (part s j))).2≠0->K (.i (Dj.write (at'+j) (leaf number j (part s j))).2) w:=λSY w hs kJ=>by
  have e:pR at' number s Dj j (gH s.size-j)=Dj.write (at'+j) (leaf number j (part s j)):=by
   obtain⟨q,hq⟩:∃q,gH s.size-j=q+1:=⟨gH s.size-j-1,by omega⟩;rw[hq,pR,ai kJ]
  rw[abx,e] at hK;exact hK w hs
 have fin:j<gH s.size->∀w,St W w (L.set k (gN d (Dj.write (at'+j) (leaf number j (part s j))).1))->(Dj.write (at'+j) (leaf number j (part s j))).2=0->
  ∃(j':Nat)(Zr:aY),[Value.string (s.extract (104* (j+1)) s.size),.i 0,.i ((j+1:Nat):Int)]=[.s (s.extract (104* j') s.size),.i 0,.i j']/\j'<=gH s.size/\Zr.Ok/\Zr.later.length<=D.later.length+j'/\pR at' number s D 0 (gH s.size)=pR at' number s Zr j' (gH s.size-j')/\St W w (L.set k (gN d Zr)):=λSY w hs hz=>by
  have hw:=tv Dj (at'+j) (leaf number j (part s j));refine⟨j+1,_,rfl,by omega,K0 iz _ _ (by omega),by omega,?_,hs⟩;rw[abx];obtain⟨q,hq⟩:∃q,gH s.size-j=q+1:=⟨gH s.size-j-1,by omega⟩;have Yd:gH s.size-(j+1)=q:=by omega
  rw[hq,Yd,pR,ag (by rw[hz];exact λhh=>hh rfl)]
 have Mj:=sP s.size;have body:j<gH s.size->mT (s.extract (104* j) s.size) none (some ((min (s.size-104* j) 104:Nat):Int)) (λs3=>
  cw True (
  r9 [.i number,.i j,.s s3] (x2 λv1 v2=>(xS λs4=>
  (xI .i64 λn7=>
  ft (ah d) (at'+j) s4 (xI .i64 λn8=>
  br (n8 !=0) (
  K (.i n8)) (
  mT (s.extract (104* j) s.size) (some ((min (s.size-104* j) 104:Nat):Int)) none (λs5=>λw3=>
   (∃(j':Nat)(Zr:aY),[Value.string s5,.i 0,.i ((j+1:Nat):Int)]=[.s (s.extract (104* j') s.size),.i 0,.i j']/\j'<=gH s.size/\Zr.Ok/\Zr.later.length<=D.later.length+j'/\pR at' number s D 0 (gH s.size)=pR at' number s Zr j' (gH s.size-j')/\St W w3 (L.set k (gN d Zr)))/\
   gH s.size-((j+1:Nat):Int).toNat<gH s.size-((j:Nat):Int).toNat)))) v2) v1))) w2:=λSY=>by
  unfold mT;dsimp only;refine⟨⟨by omega,by rw[ug];omega⟩,trivial,?_⟩;rw[ak,Rk s j _ rfl];refine Pa hs λw hs=>?_;simp only[nz,ae,af];refine EA hs td iz λw hs=>?_;rw[jH] at hs;simp only[nz,ae,af];refine vO (λkJ=>?_) (λhz=>?_)
  ·exact step SY w hs kJ
  ·refine⟨⟨by omega,by rw[ug];omega⟩,?_⟩;rw[Rj s j _ rfl];exact⟨fin SY w hs hz,by omega⟩
 refine Jr (λhj0=>body (by omega)) (λhj0=>?_);refine fV (λQv=>?_) (λhle=>?_)
 ·have hc:=ON (n:=s.size) (j:=j) (by omega);exact body (by omega)
 ·have hc:=ON (n:=s.size) (j:=j) (by omega);have SY:j=gH s.size:=by omega
  have e:pR at' number s Dj j (gH s.size-j)=(Dj,0):=by rw[SY,kR];rfl
  rw[abx,e] at hK;exact hK _ hs
def Hi{at' toX number:Int}{s:BA}{K:VK}(h:St W w L)(hk:L[k]?=some (gN d D))(iz:D.Ok)(hl:D.later.length+4097<1099511627776)(hs:s.size<=reachBytes)
 (hK:∀w',St W w' (L.set k (gN d (lay D at' toX number s).1))->K (.i (lay D at' toX number s).2) w'):lZ (ah d) at' toX number s K w:=by
 unfold lZ;refine fV (λh1=>?_) (λh1=>?_)
 ·exact uD h hk iz hl hs (by symm;rw[decide_eq_true_eq];exact .inl h1) hK
 refine fV (λh2=>?_) (λh2=>?_)
 ·exact uD h hk iz hl hs (by symm;rw[decide_eq_true_eq];exact .inr (.inl h2)) hK
 refine fV (λh3=>?_) (λh3=>?_)
 ·exact uD h hk iz hl hs (by symm;rw[decide_eq_true_eq];exact .inr (.inr (.inl h3))) hK
 apply oq h hk;simp only[nz,ae,af];refine fV (λh4=>?_) (λh4=>?_)
 ·exact uD h hk iz hl hs (by symm;rw[decide_eq_true_eq];exact .inr (.inr (.inr (.inl h4)))) hK
 ·refine uD h hk iz hl hs ?_ hK;rw[decide_eq_decide];omega
end
section
variable {W w:World} {L:LH} {k:Nat}
def DV(w:World)(a:Addr)(n j:Nat)(hj:j≠a.block):(w.freeze a n).heap[j]?=w.heap[j]?:=by
 unfold World.freeze;split
 ·rfl
 ·simp only[Array.getElem?_modify];rw[ag (λh=>hj h.symm)]
def aaZ{s:BA}{K:Nat->Nat->WK}(h:St W w L)(hK:∀r c w',St W w' (own (ah r) s.size c 1 (s.data.toList.map vZ)::L)->K r c w'):s2b s K w:=by
 intro c t hc;have h1:=h.drew.new ((s.data.toList.map vZ)++bw (c-s.size) (.int .u8 0)) t;have qc:s.data.toList.length=s.size:=rfl;have abJ:((strCells s).toArray++jL (c-s.size) (.int .u8 0):Array Value)=⟨(s.data.toList.map vZ)++bw (c-s.size) (.int .u8 0)⟩:=by
  apply tt;rw[Array.toList_append,Array.toList_replicate]
  rfl
 rw[abJ];generalize Nv:(s.data.toList.map vZ)++bw (c-s.size) (Value.int .u8 0)=cs at *;have hlen:cs.length=c:=by rw[<-Nv];simp;omega
 have hhp:(w.drew.alloc (.cells ⟨cs⟩ t)).heap[w.heap.size]?=some (.cells ⟨cs⟩ t):=by
  show(w.heap.push (.cells ⟨cs⟩ t))[w.heap.size]?=_;rw[Array.getElem?_push_size]
 have DR:view ((w.drew.alloc (.cells ⟨cs⟩ t)).freeze ⟨w.heap.size,c,none⟩ 1) w.heap.size=some (.cells cs):=by
  unfold view World.freeze;rw[ag (by decide)];simp only[Array.getElem?_modify,hhp];simp[hlen]
 have hb:=h1.1;have h2:=h1.bu (k:=0) rfl (w':=(w.drew.alloc (.cells ⟨cs⟩ t)).freeze ⟨w.heap.size,c,none⟩ 1) ?_ DR (λj hj _=>DV _ _ _ _ hj)
 ·apply hK _ _ _;refine St.mono (A:=pt w.heap.size cs) h2 λg hp=>⟨by rw[bQ];omega,.inr ⟨_,bw (c-s.size) (.int .u8 0),rfl,hc,by simp,?_⟩⟩;rw[Nv];exact hp
 ·refine⟨?_,?_,?_,?_,λj hj=>?_⟩
  ·unfold World.freeze;rw[ag (by decide)];exact hb.os
  ·unfold World.freeze;rw[ag (by decide)];exact hb.tape
  ·unfold World.freeze;rw[ag (by decide)];exact hb.output
  ·unfold World.freeze;rw[ag (by decide)];simp only[Array.size_modify];exact hb.size
  ·rw[DV _ _ _ _ (by have:=h.1.size;simp only;omega)];exact hb.block j hj
def Ej(r:Nat)(s:BA)(t:Bool):HP:=pt r [.s s,.b t]
def tg(s:BA)(t:Bool)(n:Int):Bool:=t||decide (n<0\/(s.size:Int)<n)
def zt(s:BA)(t:Bool)(n:Int):BA:=if tg s t n then .empty else s.extract 0 n.toNat
def Ek(s:BA)(t:Bool)(n:Int):BA:=if tg s t n then s else s.extract n.toNat s.size
def tA{s:BA}{K:VK}(h:St W w L)(hK:∀r w',St W w' (Ej r s false::L)->K (.p (ah r)) w'):oO s K w:=by
 unfold oO;exact⟨⟨rfl,trivial⟩,jh h λr w hs=>hK r w hs⟩
def Hh{r:Nat}{s:BA}{t:Bool}{n:Int}{K:VK}(h:St W w L)(hk:L[k]?=some (Ej r s t))(hK:∀w',St W w' (L.set k (Ej r (Ek s t n) (tg s t n)))->K (.s (zt s t n)) w'):fr (ah r) n K w:=by
 unfold fr;unfold Ej at hk;simp only[nz,ae,af];apply cZ hk (h:=h) rfl;simp only[nz,ae,af];have bad:tg s t n=true->∀w',St W w' (L.set k (pt r [.s s,.b true]))->K (.s .empty) w':=λhb w' hs=>by
  have:=hK w';unfold Ek zt at this;rw[ai hb,ai hb,hb] at this;exact this hs
 refine uA (λht=>?_) (λht=>?_)
 ·refine pn h hk (aK rfl) rfl λw hs=>?_;apply cZ hs (kn hk) rfl;simp only[nz,ae,af] at hs⊢;exact bad (by simp[tg,ht]) w hs
 refine fV (λhn=>?_) (λhn=>?_)
 ·refine pn h hk (aK rfl) rfl λw hs=>?_;apply cZ hs (kn hk) rfl;simp only[nz,ae,af] at hs⊢;exact bad (by simp[tg,hn]) w hs
 apply cZ h hk rfl;simp only[nz,ae,af];refine pn h hk (aK rfl) rfl λw hs=>?_;apply cZ hs (kn hk) rfl;simp only[nz,ae,af] at hs⊢;refine fV (λQv=>?_) (λQv=>?_)
 ·have:decide (n>(s.size:Int))=true:=aw Qv;rw[this] at hs;exact bad (by simp[tg];omega) w hs
 ·have e:decide (n>(s.size:Int))=false:=ao Qv;rw[e] at hs;have hb:tg s t n=false:=by
   unfold tg;rw[ht,ao (by omega)];rfl
  have:=hK;unfold Ek zt at this;rw[ag (by rw[hb];exact cO),ag (by rw[hb];exact cO),hb] at this;unfold fr.j1;simp only[nz,ae,af];apply cZ hs (kn hk) rfl;unfold mT;simp only[nz,ae,af];refine⟨by omega,?_⟩;apply cZ hs (kn hk) rfl;simp only[nz,ae,af];refine⟨by omega,?_⟩;refine pn hs (kn hk) (aK rfl) rfl λw hs=>?_;rw[jH] at hs;exact this w hs
def ow:List UInt8->Nat
 |[]=>0
 |c::r=>c.toNat+256* ow r
def sq:∀l:List UInt8,ow l<256^l.length
 |[]=>by simp[ow]
 |c::r=>by
  have:=sq r;have hc:=c.toNat_lt;simp only[ow,bE,Av];omega
def tZ:∀(l:List UInt8)(c:UInt8),ow (l++[c])=ow l+c.toNat* 256^l.length
 |[],c=>by simp[ow]
 |d::r,c=>by
  simp only[lY,ow,tZ r c,bE,Av];rw[Nat.mul_add,Nat.add_assoc]
  congr 2
  rw[wI 256,Nat.mul_assoc]
def B4(z:Int):BitVec.ofInt 64 (aa.wrap z)=BitVec.ofInt 64 z:=by
 apply BitVec.eq_of_toNat_eq;simp only[BitVec.toNat_ofInt];simp[IntKind.wrap,IntKind.bits,IntKind.signed];split<;>omega
def XL{A j:Nat}{c:UInt8}(hj:j<8)(hA:A<256^j):dj .i64 .or (aa.wrap A) (shl .i64 (aa.wrap (c.toNat:Int)) (8* (j:Int)))=aa.wrap ((A+c.toNat* 256^j:Nat):Int):=by
 have hc:=c.toNat_lt;have RW:256^j=2^(8* j):=by rw[show(256:Nat)=2^8 from rfl,<-Nat.pow_mul]
 have afg:c.toNat* 2^(8* j)<2^64:=by
  have h1:c.toNat* 2^(8* j)<2^8* 2^(8* j):=Nat.mul_lt_mul_of_pos_right (by exact hc) (Nat.pow_pos (by decide));rw[<-Nat.pow_add] at h1;exact Nat.lt_of_lt_of_le h1 (gO (by decide) (by omega))
 have aiH:A<2^64:=by
  rw[RW] at hA;exact Nat.lt_of_lt_of_le hA (gO (by decide) (by omega))
 have ew:aa.wrap (c.toNat:Int)=(c.toNat:Int):=aX (by omega);have esh:shl .i64 (c.toNat:Int) (8* (j:Int))=aa.wrap ((c.toNat* 2^(8* j):Nat):Int):=by
  unfold shl;have h1:(8* (j:Int)).toNat=8* j:=by omega
  have h2:min (8* j) aa.bits=8* j:=by show min (8* j) 64=_;omega
  rw[h1,h2]
  congr 1
 rw[ew,esh];show aa.wrap (((BitVec.ofInt 64 (aa.wrap A)|||BitVec.ofInt 64 (aa.wrap ((c.toNat* 2^(8* j):Nat):Int))).toNat:Nat):Int)=_;rw[B4,B4,BitVec.toNat_or];have t1:(BitVec.ofInt 64 (A:Int)).toNat=A:=by simp only[BitVec.toNat_ofInt];omega
 have t2:(BitVec.ofInt 64 ((c.toNat* 2^(8* j):Nat):Int)).toNat=c.toNat* 2^(8* j):=by
  generalize c.toNat* 2^(8* j)=z at *;simp only[BitVec.toNat_ofInt];omega
 rw[t1,t2,RW]
 congr 2
 rw[Nat.or_comm,<-Nat.shiftLeft_eq,<-Nat.shiftLeft_add_eq_or_of_lt (by rw[<-RW];exact hA),Nat.add_comm]
def nK(l:List UInt8):Int:=aa.wrap (ow l:Int)
def CD{r:Nat}{s:BA}{t:Bool}{n:Int}{K:VK}(h:St W w L)(hk:L[k]?=some (Ej r s t))
 (hK:∀w',St W w' (L.set k (Ej r (Ek s t (min2 (max2 n 1) 8)) (tg s t (min2 (max2 n 1) 8))))->K (.i (nK (zt s t (min2 (max2 n 1) 8)).data.toList)) w'):aM (ah r) n K w:=by
 have hm:1<=min2 (max2 n 1) 8/\min2 (max2 n 1) 8<=8:=by unfold min2 max2;split<;>split<;>omega
 unfold aM;generalize min2 (max2 n 1) 8=m at *;refine Hh h hk λw hs=>?_;simp only[nz,ae,af];have hv8:(zt s t m).size<=8:=by
  unfold zt;split
  ·exact aF _
  ·rw[ug];omega
 have hK':=hK;generalize zt s t m=v at *;refine aaZ hs λq c w hs=>?_;have hlen:v.data.toList.length=v.size:=rfl;refine⟨λus w'=>∃j:Nat,us=[.i 0,.i (nK (v.data.toList.take j)),.l (ah q) v.size c,.i v.size,.i j]/\j<=v.size/\isW w w',
  λus _=>match us with|[_,_,_,_,.int _ j]=>v.size-j.toNat|_=>0,⟨0,rfl,aF _,rfl⟩,?_⟩
 rintro n2 n3 wc vw wN n4 n5 w2 ⟨j,he,hj,hw⟩;obtain rfl:w2=w:=hw;cases he
 generalize hb:decide ((j:Int)<(v.size:Int))=b;cases b
 ·have iZ:=bj hb;rw[eu];rw[bU (by omega)];exact hK' _ hs.drop
 ·have cn:=aR hb;rw[lC];have UX:j<v.data.toList.length:=by omega
  refine sH (k:=0) hs rfl (by omega) λr' hr=>?_;cases hr
  refine A3 (k:=0) hs rfl (v:=vZ (v.data.toList[j])) (by rw[ak,mF,fy,aj UX];rfl) ?_;unfold vZ;simp only[nz,ae,af];have e8:aa.wrap (8* (j:Int))=8* (j:Int):=aX (by omega);have e5:=nI j;rw[e8,e5];refine⟨by omega,?_⟩;have Qo:=sq (v.data.toList.take j);have Es:(v.data.toList.take j).length=j:=by rw[aD];omega
  rw[Es] at Qo;have e6:dj .i64 .or (nK (v.data.toList.take j)) (shl .i64 (aa.wrap ((v.data.toList[j]).toNat:Int)) (8* (j:Int)))=nK (v.data.toList.take (j+1)):=by
   unfold nK;rw[XL (by omega) Qo,qV UX,tZ,Es]
  rw[e6];exact⟨⟨j+1,rfl,by omega,rfl⟩,by omega⟩
def numOf(s:BA):Int:=if 1<=nK s.data.toList/\nK s.data.toList<=1152921504606846976 then nK s.data.toList else 0
def te{n:Int}(h:0<=n/\n<18446744073709551616):IntKind.u64.wrap n=n:=by
 simp[IntKind.wrap,IntKind.bits,IntKind.signed];omega
def Da(s:BA):BA:=s.extract 0 8
def CJ(s:BA):BA:=s.extract (s.size-8) s.size
def Sh{s:BA}{K:VK}(h:St W w L)(hs8:8<=s.size)(qc:s.size<1099511627776)(hK:∀w',St W w' L->K (.agg ⟨[.i (numOf (Da s)),.i (numOf (CJ s))]⟩) w'):xW s K w:=by
 unfold xW;refine jh h λr1 w hs=>?_;refine jh hs λr2 w hs=>?_;refine mK hs λw hs=>?_;unfold mT;simp only[nz,ae,af];have e1:aa.wrap ((s.size:Int) -8)=(s.size:Int) -8:=aX (by omega);rw[e1];refine⟨by omega,by omega,?_⟩;have eh:s.extract 0 (8:Int).toNat=Da s:=rfl;have et:s.extract ((s.size:Int) -8).toNat s.size=CJ s:=by unfold CJ;congr 1;omega
 rw[eh,et];have h8:(Da s).size=8:=by unfold Da;rw[ug];omega
 have t8:(CJ s).size=8:=by unfold CJ;rw[ug];omega
 refine⟨λus w'=>∃j:Nat,us=[.p (some ⟨r1,0,none⟩),.p (some ⟨r2,0,none⟩),.agg ⟨[.s (Da s),.s (CJ s)]⟩,.i j]/\j<=2/\
  St W w' (pt r2 [.i (if 0<j then numOf (Da s) else 0),.i (if 1<j then numOf (CJ s) else 0)]::pt r1 [.i 0,.i 0]::L),
  λus _=>match us with|[_,_,_,.int _ j]=>2-j.toNat|_=>0,⟨0,rfl,aF _,hs⟩,?_⟩
 rintro a1 a2 QG n1 w2 ⟨j,he,hj,hs⟩;cases he
 refine uA (λh0=>?_) (λh0=>?_)
 ·have HN:j<2:=by have:=aR h0;omega
  have e5:=nI j;rw[e5];obtain⟨p,hp,hp8⟩:∃p,([Value.string (Da s),.s (CJ s)]:LV)[(j:Int).toNat]?=some (.s p)/\p.size=8/\(j=0->p=Da s)/\(j=1->p=CJ s):=by
   match j,HN with
   |0,_=>exact⟨Da s,rfl,h8,λ_=>rfl,λhh=>by omega⟩
   |1,_=>exact⟨CJ s,rfl,t8,λhh=>by omega,λ_=>rfl⟩
  refine⟨.s p,⟨by omega,by omega,hp⟩,?_⟩;simp only[nz,ae,af];refine tA hs λq w hs=>?_;simp only[nz,ae,af];refine CD (k:=0) hs rfl λw hs=>?_;have em:min2 (max2 8 1) 8=8:=rfl;have ev:zt p false (min2 (max2 8 1) 8)=p:=by
   rw[em];unfold zt;have:tg p false 8=false:=by unfold tg;rw[hp8.1];rfl
   rw[ag (by rw[this];exact cO)];have:(8:Int).toNat=p.size:=by rw[hp8.1];rfl
   rw[this];exact ByteArray.extract_zero_size
  rw[ev];simp only[nz,ae,af] at hs⊢;have hs:=hs.drop;have fin:∀x w',x=numOf p->St W w' (pt r2 ([.i (if 0<j then numOf (Da s) else 0),.i (if 1<j then numOf (CJ s) else 0)].set j (.i x))::pt r1 [.i 0,.i 0]::L)->
     St W w' (pt r2 [.i (if 0<j+1 then numOf (Da s) else 0),.i (if 1<j+1 then numOf (CJ s) else 0)]::pt r1 [.i 0,.i 0]::L):=λx w' hx hs=>by
   subst hx
   match j,HN,hp8,hs with
   |0,_,hp8,hs=>rw[hp8.2.1 rfl] at hs;simpa using hs
   |1,_,hp8,hs=>rw[hp8.2.2 rfl] at hs;simpa using hs
  have zero:numOf p=0->∀w',St W w' (pt r2 [.i (if 0<j then numOf (Da s) else 0),.i (if 1<j then numOf (CJ s) else 0)]::pt r1 [.i 0,.i 0]::L)->
   St W w' (pt r2 [.i (if 0<j+1 then numOf (Da s) else 0),.i (if 1<j+1 then numOf (CJ s) else 0)]::pt r1 [.i 0,.i 0]::L):=λhz w' hs=>by
   apply fin 0 w' hz.symm
   match j,HN,hs with
   |0,_,hs=>simpa using hs
   |1,_,hs=>simpa using hs
  refine fV (λh1=>?_) (λh1=>?_)
  ·refine fV (λh2=>?_) (λh2=>?_)
   ·refine⟨by omega,?_⟩;refine pn (k:=0) hs rfl (by simp;omega) rfl λw hs=>?_;simp only[nz,ae,af] at hs;rw[ak,mF] at hs;refine⟨⟨j+1,rfl,by omega,fin _ w ?_ hs⟩,by omega⟩;unfold numOf;rw[ai (by omega)]
   ·exact⟨⟨j+1,rfl,by omega,zero (by unfold numOf;rw[ag (by omega)]) w hs⟩,by omega⟩
  ·exact⟨⟨j+1,rfl,by omega,zero (by unfold numOf;rw[ag (by omega)]) w hs⟩,by omega⟩
 ·have HN:j=2:=by have:=bj h0;omega
  subst HN;have hs:St W w2 (pt r2 [.i (numOf (Da s)),.i (numOf (CJ s))]::pt r1 [.i 0,.i 0]::L):=hs;refine kq (k:=0) (xs:=[.i (numOf (Da s)),.i (numOf (CJ s))]) hs rfl rfl (λi v hi=>by rw[aB];exact hi) ?_;refine⟨rfl,kk (k:=1) hs rfl (aK rfl) (by simp[Value.oneCell']) λw hs=>?_⟩;rw[iR (by simp)] at hs;simp only[nz,ae,af] at hs;refine kq (k:=1) (xs:=[.i (numOf (Da s)),.i (numOf (CJ s))]) hs rfl rfl (λi v hi=>by rw[aB];exact hi) ?_;exact hK w hs.drop.drop
def fk(D:aY):Nat->Int
 |0=>0
 |j+1=>max2 (max2 (fk D j) (numOf (Da (D.read (j:Int)).1))) (numOf (CJ (D.read (j:Int)).1))
def zZ{D:aY}(h:D.Ok){i:Int}(hi:D.is i):(D.read i).1.size=128:=by
 unfold aY.read;rw[ai hi];unfold aY.now;have cn:i.toNat<D.safe.length:=by have:=hi.1;have:=hi.2;omega
 cases hl:aY.last D.later i with
 |none=>
  rw[gQ,jW,aj cn,dI];exact h.safe _ (bF cn)
 |some x=>
  unfold aY.last at hl;rw[Option.map_eq_some_iff] at hl;obtain⟨p,hp,rfl⟩:=hl;exact(h.later p (List.mem_reverse.1 (nD hp))).1
def H5{d:Nat}{D:aY}{K:VK}(h:St W w L)(hk:L[k]?=some (gN d D))(iz:D.Ok)(hK:∀w',St W w' L->K (.i (fk D D.safe.length)) w'):oP (ah d) K w:=by
 have xu:=iz.oJ;unfold oP;apply oq h hk;simp only[nz,ae,af];refine⟨λus w'=>∃j:Nat,us=[.i 0,.i (fk D j),.i D.safe.length,.i j]/\j<=D.safe.length/\St W w' L,
  λus _=>match us with|[_,_,_,.int _ j]=>D.safe.length-j.toNat|_=>0,⟨0,rfl,aF _,h⟩,?_⟩
 rintro n2 n3 n4 n5 w2 ⟨j,he,hj,hs⟩;cases he
 refine fV (λcn=>?_) (λiZ=>?_)
 ·have hi:D.is (j:Int):=⟨by omega,cn⟩;have qc:=zZ iz hi;have e5:=nI j;apply sW hs hk iz;simp only[nz,ae,af];refine Sh hs (by omega) (by omega) λw hs=>?_;simp only[yM,bE,cR,aB,ae,true_and];refine jh hs λr w hs=>?_;refine⟨trivial,kk (k:=0) hs rfl (aK rfl) (by simp[Value.oneCell']) λw hs=>?_⟩;rw[iR (by simp)] at hs;simp only[nz,ae,af] at hs⊢;refine⟨by decide,?_⟩;apply cZ (k:=0) hs rfl rfl;simp only[nz,ae,af];refine⟨by decide,?_⟩;apply cZ (k:=0) hs rfl rfl;simp only[nz,ae,af];rw[e5];exact⟨⟨j+1,rfl,by omega,hs.drop⟩,by omega⟩
 ·have:j=D.safe.length:=by omega
  subst this;exact hK _ hs
end
def pv(l:List UInt8)(n:Nat):(bs l).extract 0 n=bs (l.take n):=by
 apply lh;rw[extract_toList,jf,Nat.sub_zero];rfl
def pr(l:List UInt8)(n:Nat):(bs l).extract n (bs l).size=bs (l.drop n):=by
 apply lh;rw[extract_toList,bV];show(l.drop n).take (l.length-n)=l.drop n;rw[bU (by rw[aS];omega)]
def me(a b:List UInt8):bs a++bs b=bs (a++b):=by
 apply lh;rw[ByteArray.data_append,Array.toList_append];rfl
def Bj{a b:List UInt8}:bs a=bs b↔a=b:=by
 constructor
 ·intro h;have:=congrArg (λx=>x.data.toList) h;exact this
 ·intro h;rw[h]
def MG:ByteArray.empty=bs []:=rfl
section
variable {W w:World} {L:LH} {k:Nat}
def Fv{l:List UInt8}{K:VK}(hl:l.length<1099511627776)(hK:∀m,m<=l.length->(∀j(h:j<l.length),m<=j->l[j]=0)->(m=0\/∃h:m-1<l.length,l[m-1]≠0)->K (.s (bs (l.take m))) w):nt (bs l) 0 K w:=by
 unfold nt;refine⟨λus w'=>∃m:Nat,us=[.s (bs (l.take m)),.s .empty]/\m<=l.length/\(∀j(h:j<l.length),m<=j->l[j]=0)/\isW w w',λus _=>match us with|[.string s,_]=>s.size|_=>0,
  ⟨l.length,by rw[aV],aI _,λj h hj=>by omega,rfl⟩,?_⟩
 rintro s2 s3 w2 ⟨m,he,hm,hz,hw⟩;obtain rfl:w2=w:=hw;cases he
 have qc:(bs (l.take m)).size=m:=by rw[bV,aD];omega
 rw[qc];refine fV (λMj=>?_) (λadt=>?_)
 ·have hm1:m-1<l.length:=by omega
  have ew:aa.wrap ((m:Int) -1)=((m-1:Nat):Int):=by rw[aX (by omega)];omega
  rw[ew];refine⟨l[m-1],⟨by omega,?_⟩,?_⟩
  ·rw[ak];show(l.take m)[m-1]?=_;rw[List.getElem?_take_of_lt (by omega),aj hm1]
  refine Jr (λh0=>?_) (λh0=>?_)
  ·have hc:l[m-1]=0:=by
    apply UInt8.toNat_inj.1;show _=0;omega
   unfold mT;refine⟨⟨by omega,by rw[qc];omega⟩,?_⟩;rw[ak,pv,yK,show min (m-1) m=m-1 from by omega];refine⟨⟨m-1,rfl,by omega,λj hj hmj=>?_,rfl⟩,?_⟩
   ·by_cases hjm:m<=j
    ·exact hz j hj hjm
    ·have:j=m-1:=by omega
     subst this;exact hc
   ·dsimp only;rw[bV,aD,bV,aD];omega
  ·exact hK m hm hz (.inr ⟨hm1,λhc=>h0 (by rw[hc];rfl)⟩)
 ·exact hK m hm hz (.inl (by omega))
def Hu{l:List UInt8}{K:VK}(hl:l.length<1099511627776)(hK:∀m,m<=l.length->(∀j(h:j<l.length),j<m->l[j]=0)->(m=l.length\/∃h:m<l.length,l[m]≠0)->K (.s (bs (l.drop m))) w):nV (bs l) 0 K w:=by
 unfold nV;refine⟨λus w'=>∃m:Nat,us=[.s (bs (l.drop m)),.s .empty]/\m<=l.length/\(∀j(h:j<l.length),j<m->l[j]=0)/\isW w w',λus _=>match us with|[.string s,_]=>s.size|_=>0,
  ⟨0,rfl,aF _,λj h hj=>by omega,rfl⟩,?_⟩
 rintro s2 s3 w2 ⟨m,he,hm,hz,hw⟩;obtain rfl:w2=w:=hw;cases he
 have qc:(bs (l.drop m)).size=l.length-m:=by rw[bV,aS]
 refine fV (λMj=>?_) (λadt=>?_)
 ·rw[qc] at Mj;have hm1:m<l.length:=by omega
  refine⟨l[m],⟨by omega,?_⟩,?_⟩
  ·show(l.drop m)[0]?=_;rw[ta,gM,aj hm1]
  refine Jr (λh0=>?_) (λh0=>?_)
  ·have hc:l[m]=0:=by
    apply UInt8.toNat_inj.1;show _=0;omega
   unfold mT;refine⟨⟨by omega,by rw[qc];omega⟩,?_⟩;rw[show(1:Int).toNat=1 from rfl,pr,jX];refine⟨⟨m+1,rfl,by omega,λj hj hmj=>?_,rfl⟩,?_⟩
   ·by_cases hjm:j<m
    ·exact hz j hj hjm
    ·have:j=m:=by omega
     subst this;exact hc
   ·dsimp only;rw[bV,aS,bV,aS];omega
  ·exact hK m hm hz (.inr ⟨hm1,λhc=>h0 (by rw[hc];rfl)⟩)
 ·rw[qc] at adt;exact hK m hm hz (.inl (by omega))
def SC{l:List UInt8}{K:VK}(h:St W w L)(hl:l.length<1099511627776)(hK:∀r w',(r=.empty↔l=bw l.length 0)->St W w' L->K (.s r) w'):il (bs l) ⟨#[0]⟩ K w:=by
 unfold il;have e0:nG (⟨#[0]⟩:BA) (⟨#[]⟩:BA)=false:=by rw[tB];exact ao (λh=>aT (congrArg ByteArray.size h) (by decide))
 rw[e0,tB];refine fV (λhem=>?_) (λkJ=>?_)
 ·unfold il.j1;rw[lC];have:l=[]:=Bj.1 hem;subst this;exact hK _ w (by simp[MG]) h
 ·unfold il.j1;rw[eu];have e1:((((⟨#[0]⟩:BA).size:Nat):Int)==1)=true:=by decide
  rw[e1,lC];refine⟨0,⟨by decide,rfl⟩,?_⟩;have e2:decide (((0:UInt8).toNat:Int)<128)=true:=by decide
  dsimp only;rw[e2];unfold il.j3;rw[lC];refine mK h λw h=>?_;refine⟨0,⟨by decide,rfl⟩,?_⟩;refine⟨0,⟨by decide,rfl⟩,?_⟩;refine Fv hl λm hm hz DT=>?_;simp only[nz,ae,af];refine Hu (by rw[aD];omega) λq hq hz2 zC=>?_;simp only[nz,ae,af];refine hK _ w ?_ h;have cn:(l.take m).length=m:=by rw[aD];omega
  rw[MG,Bj]
  constructor
  ·intro hd;have hqm:q=m:=by have:=congrArg List.length hd;rw[aS,cR] at this;omega
   subst hqm;rcases DT with h0|⟨h1,h2⟩
   ·subst h0;exact List.eq_replicate_iff.2 ⟨rfl,λx hx=>by
     obtain⟨j,hj,rfl⟩:=List.mem_iff_getElem.1 hx
     exact hz j hj (aF _)⟩
   ·exfalso;have hq0:0<q:=by
     rcases Nat.eq_zero_or_pos q with h0|h0
     ·subst h0;exact aT (hz _ h1 (by omega)) h2
     ·exact h0
    have:=hz2 (q-1) (by omega) (by omega);rw[List.getElem_take] at this;exact h2 this
  ·intro fI;have hz0:∀j(hj:j<l.length),l[j]=0:=λj hj=>(List.eq_replicate_iff.1 fI).2 _ (bF hj);rcases zC with h0|⟨h1,h2⟩
   ·rw[gG (by omega)]
   ·exfalso;rw[List.getElem_take] at h2;exact h2 (hz0 q _)
def uJ(l:List UInt8):Bool:=decide (4<=l.length)&&(wS (uf 0 (l.take (l.length-4)))==l.drop (l.length-4))
def O'{l:List UInt8}{K:VK}(h:St W w L)(hl:l.length<1099511627776)(hK:∀w',St W w' L->K (.b (uJ l)) w'):uY (bs l) K w:=by
 unfold uY;refine mK h λw h=>?_;have ew:aa.wrap (((bs l).size:Int) -4)=(l.length:Int) -4:=by rw[bV,aX (by omega)]
 rw[ew];refine fV (λh0=>?_) (λh0=>?_)
 ·have e1:((l.length:Int) -4).toNat=l.length-4:=by omega
  unfold mT;dsimp only;refine⟨⟨h0,by rw[bV];omega⟩,?_⟩;refine⟨⟨h0,by rw[bV];omega⟩,?_⟩;rw[e1,pv,pr];refine Na (by rw[bV,aD];omega) ?_;simp only[nz,ae,af];refine zN h (Dy _) λw h=>?_;simp only[nz,ae,af];have e2:nG (bs (wS (uf 0 (bs (l.take (l.length-4))).data.toList))) (bs (l.drop (l.length-4)))=uJ l:=by
   rw[tB];unfold uJ;rw[aw (by omega:4<=l.length),dQ];show decide (bs (wS (uf 0 (l.take (l.length-4))))=bs (l.drop (l.length-4)))=_;by_cases hh:wS (uf 0 (l.take (l.length-4)))=l.drop (l.length-4)
   ·rw[aw (Bj.2 hh),hh,beq_self_eq_true]
   ·rw[ao (λh=>hh (Bj.1 h))]
    symm;simp[hh]
  rw[e2];exact hK w h
 ·have e2:uJ l=false:=by unfold uJ;rw[ao (by omega: ¬4<=l.length)];rfl
  rw[<-e2];exact hK w h
def KK{r:Nat}{l:List UInt8}{n:Nat}{K:VK}(h:St W w L)(hk:L[k]?=some (Ej r (bs l) false))(h1:1<=n)(h8:n<=8)(hn:n<=l.length)
 (hK:∀w',St W w' (L.set k (Ej r (bs (l.drop n)) false))->K (.i (nK (l.take n))) w'):aM (ah r) n K w:=by
 apply CD h hk;have em:min2 (max2 (n:Int) 1) 8=n:=by unfold min2 max2;split<;>split<;>omega
 rw[em];have et:tg (bs l) false n=false:=by unfold tg;rw[bV,ao (by omega)];rfl
 unfold Ek zt;rw[et,ak,pv,pr];exact hK
def O5{r:Nat}{l:List UInt8}{n:Nat}{K:VK}(h:St W w L)(hk:L[k]?=some (Ej r (bs l) false))(hn:n<=l.length)
 (hK:∀w',St W w' (L.set k (Ej r (bs (l.drop n)) false))->K (.s (bs (l.take n))) w'):fr (ah r) n K w:=by
 apply Hh h hk;have et:tg (bs l) false n=false:=by unfold tg;rw[bV,ao (by omega)];rfl
 unfold Ek zt;rw[et,ak,pv,pr];exact hK
end
def oy{l:List UInt8}(h:l.length<=7):nK l=(ow l:Int):=by
 have h1:=sq l;have h2:256^l.length<=256^7:=gO (by decide) h;have h3:(256:Nat)^7=72057594037927936:=rfl;unfold nK;rw[aX (by omega)]
def sN(l:List UInt8):Int:=nK (l.take 8)
def sI(l:List UInt8):Int:=nK ((l.drop 8).take 2)
def sM(l:List UInt8):Nat:=ow (((l.drop 8).drop 2).take 2)
def ng(l:List UInt8):List UInt8:=((l.drop 8).drop 2).drop 2
def sD(l:List UInt8):List UInt8:=(ng l).take (sM l)
def sZ(l:List UInt8):List UInt8:=((ng l).drop (sM l)).take (104-sM l)
def DF(l:List UInt8):Int:=nK (((((ng l).drop (sM l)).drop (104-sM l)).drop 4).take 8)
def mB(l:List UInt8):Option (Int×Int×BA):=
 if ¬l.length=128 then none
 else if uJ (l.take 120)=false then none
 else if 104<sM l then none
 else if ¬DF l=sN l then none
 else if ¬sZ l=bw (sZ l).length 0 then none
 else if ¬eB (sN l) (sI l) (bs (sD l)) then none
 else some (sN l,sI l,bs (sD l))
def uV:Option (Int×Int×BA)->Value
 |none=>.tuple ⟨[.agg ⟨[.i 0,.i 0,.s .empty]⟩,.b false]⟩
 |some (n,i,d)=>.tuple ⟨[.agg ⟨[.i n,.i i,.s d]⟩,.b true]⟩
section
variable {W w:World} {L:LH}
def Dt{l:List UInt8}{K:VK}(h:St W w L)(hl:l.length<1099511627776)(hK:∀w',St W w' L->K (uV (mB l)) w'):mn (bs l) K w:=by
 unfold mB at hK;unfold mn;refine jh h λr1 w hs=>?_;rw[bV];have aai:(∀w',St W w' L->K (uV none) w')->∀w,St W w (pt r1 [.i 0,.i 0,.s .empty]::L)->mn.j1 K r1 (bs l) true w:=λhK w hs=>by
  unfold mn.j1;simp only[nz,ae,af];refine kk (k:=0) hs rfl (aK rfl) (by simp[Value.oneCell']) λw hs=>?_;rw[iR (by simp)] at hs;refine kq (k:=0) (xs:=[.i 0,.i 0,.s .empty]) hs rfl rfl (λj v hj=>by rw[aB];exact hj) ?_;exact hK w hs.drop
 refine vO (λkJ=>?_) (λhe=>?_)
 ·rw[ai (by omega)] at hK;exact aai hK w hs
 have Db:l.length=128:=by omega
 rw[ag (by omega)] at hK;unfold mT;dsimp only;refine⟨⟨by omega,by rw[bV];omega⟩,?_⟩;rw[show(120:Int).toNat=120 from rfl,pv];refine O' hs (by rw[aD];omega) λw hs=>?_;simp only[nz,ae,af];cases hh:uJ (l.take 120) with
 |false=>
  rw[ai hh] at hK;exact aai hK w hs
 |true=>
 rw[ag (by rw[hh];exact rY)] at hK;unfold mn.j1;simp only[nz,ae,af];refine tA hs λq w hs=>?_;simp only[nz,ae,af];refine KK (k:=0) (n:=8) hs rfl (by decide) (by decide) (by omega) λw hs=>?_;simp only[nz,ae,af] at hs⊢;have l8:(l.drop 8).length=120:=by rw[aS];omega
 refine KK (k:=0) (n:=2) hs rfl (by decide) (by decide) (by omega) λw hs=>?_;simp only[nz,ae,af] at hs⊢;have l10:((l.drop 8).drop 2).length=118:=by rw[aS];omega
 refine jh hs λr2 w hs=>?_;refine⟨by simp,?_⟩;refine kk (k:=0) hs rfl (aK rfl) (by simp[Value.oneCell']) λw hs=>?_;rw[iR (by simp)] at hs;simp only[nz,ae,af] at hs;refine KK (k:=1) (n:=2) hs rfl (by decide) (by decide) (by omega) λw hs=>?_;simp only[nz,ae,af] at hs⊢;have em:nK (((l.drop 8).drop 2).take 2)=(sM l:Int):=oy (by rw[aD];omega);have en:nK (l.take 8)=sN l:=rfl;have ei:nK ((l.drop 8).take 2)=sI l:=rfl;have er:((l.drop 8).drop 2).drop 2=ng l:=rfl;have lr:(ng l).length=116:=by unfold ng;rw[aS];omega
 rw[em];rw[en,ei,er] at hs;have QE:(∀w',St W w' L->K (uV none) w')->∀w A B,St W w (A::B::pt r1 [.i 0,.i 0,.s .empty]::L)->cw True (cw True (jY ⟨r1,0,none⟩ [.i 0,.i 0,.s .empty] (aJ ⟨r1,0,none⟩ 3 λcs=>K (.tuple ⟨[.agg ⟨cs⟩,.b false]⟩)))) w:=λhK w A B hs=>by
  refine⟨trivial,trivial,?_⟩;refine kk (k:=2) hs rfl (aK rfl) (by simp[Value.oneCell']) λw hs=>?_;rw[iR (by simp)] at hs;refine kq (k:=2) (xs:=[.i 0,.i 0,.s .empty]) hs rfl rfl (λj v hj=>by rw[aB];exact hj) ?_;exact hK w hs.drop.drop.drop
 refine uA (λQv=>?_) (λhle=>?_)
 ·have Qv:=aR Qv;rw[ai (by omega)] at hK;exact QE hK w _ _ hs
 have hle:=bj hle;rw[ag (by omega)] at hK;refine O5 (k:=1) (n:=sM l) hs rfl (by omega) λw hs=>?_;simp only[nz,ae,af] at hs⊢;have ed:(ng l).take (sM l)=sD l:=rfl;rw[ed];refine pn (k:=0) hs rfl (aK rfl) rfl λw hs=>?_;simp only[nz,ae,af] at hs;have ew:aa.wrap (104-(sM l:Int))=((104-sM l:Nat):Int):=by rw[aX (by omega)];omega
 rw[ew];have lrm:((ng l).drop (sM l)).length=116-sM l:=by rw[aS,lr]
 refine O5 (k:=1) (n:=104-sM l) hs rfl (by omega) λw hs=>?_;simp only[nz,ae,af] at hs⊢;have ez:((ng l).drop (sM l)).take (104-sM l)=sZ l:=rfl;rw[ez];have lrz:(((ng l).drop (sM l)).drop (104-sM l)).length=12:=by rw[aS,lrm];omega
 refine O5 (k:=1) (n:=4) hs rfl (by omega) λw hs=>?_;simp only[nz,ae,af] at hs⊢;have lrc:((((ng l).drop (sM l)).drop (104-sM l)).drop 4).length=8:=by rw[aS,lrz]
 refine mK hs λw hs=>?_;apply cZ (k:=0) hs rfl rfl;simp only[nz,ae,af];refine KK (k:=1) (n:=8) hs rfl (by decide) (by decide) (by omega) λw hs=>?_;simp only[nz,ae,af] at hs⊢;apply kI (k:=0) hs rfl rfl;have et:nK (((((ng l).drop (sM l)).drop (104-sM l)).drop 4).take 8)=DF l:=rfl;rw[et];refine vO (λkJ=>?_) (λheq=>?_)
 ·rw[ai kJ] at hK;exact QE hK w _ _ hs
 rw[ag (λhh=>hh heq)] at hK;refine SC hs (by unfold sZ;rw[aD];omega) λs5 w hr hs=>?_;simp only[nz,ae,af];apply kI (k:=0) hs rfl rfl;have afx:(⟨#[]⟩:BA)=.empty:=rfl;rw[tB,afx];by_cases hz:sZ l=bw (sZ l).length 0
 ·rw[ag (λhh=>hh hz)] at hK;rw[aw (hr.2 hz)];simp only[nz,ae,af];refine kq (k:=0) (xs:=[.i (sN l),.i (sI l),.s (bs (sD l))]) hs rfl rfl (λj v hj=>by rw[aB];exact hj) ?_;refine Je hs λw hs=>?_;simp only[nz,ae,af];apply kI (k:=0) hs rfl rfl;by_cases hg:eB (sN l) (sI l) (bs (sD l))
  ·rw[ag (λhh=>hh hg)] at hK;rw[aw hg];simp only[nz,ae,af];refine kq (k:=0) (xs:=[.i (sN l),.i (sI l),.s (bs (sD l))]) hs rfl rfl (λj v hj=>by rw[aB];exact hj) ?_;refine⟨rfl,?_⟩;refine kk (k:=2) hs rfl (aK rfl) (by simp[Value.oneCell']) λw hs=>?_;rw[iR (by simp)] at hs;simp only[nz,ae,af] at hs;refine kq (k:=2) (xs:=[.i (sN l),.i (sI l),.s (bs (sD l))]) hs rfl rfl (λj v hj=>by rw[aB];exact hj) ?_;exact hK w hs.drop.drop.drop
  ·rw[ai hg] at hK;rw[ao hg];simp only[nz,ae,af];exact(QE hK w _ _ hs).2.2
 ·rw[ai hz] at hK;rw[ao (λhh=>hz (hr.1 hh))];simp only[nz,ae,af];exact(QE hK w _ _ hs).2.2
end
def nF(D:aY)(at' number:Int)(size:Nat):Nat->Nat->Option (List UInt8)
 |_,0=>some []
 |i,n+1=>match mB (D.read (at'+i)).1.data.toList with
  |none=>none
  |some (m,j,d)=>if m=number/\j=i/\d.size=min (size-104* i) 104 then(nF D at' number size (i+1) n).map (d.data.toList++·) else none
def take(D:aY)(at' toX number size:Int):Option (List UInt8):=
 if at'<0\/(D.safe.length:Int)<toX\/toX<at'\/size<0\/425984<size\/toX-at'<(gH size.toNat:Int) then none else nF D at' number size.toNat 0 (gH size.toNat)
def tR:Option (List UInt8)->Value
 |none=>.tuple ⟨[.s .empty,.b false]⟩
 |some l=>.tuple ⟨[.s (bs l),.b true]⟩
def py(D:aY)(at' number:Int)(size i n:Nat):nF D at' number size i (n+1)=match mB (D.read (at'+i)).1.data.toList with
 |none=>none
 |some (m,j,d)=>if m=number/\j=i/\d.size=min (size-104* i) 104 then(nF D at' number size (i+1) n).map (d.data.toList++·) else none:=rfl
def RR{B b:Nat}{l:List UInt8}{w w':World}(h:Z4 B b l w)(hb:Below w.heap.size w w'):Z4 B b l w':=by
 have key:∀p,Go.Lib.BuilderAt ZG aaB B b p (Go.Lib.byteCells l) w->Go.Lib.BuilderAt ZG aaB B b p (Go.Lib.byteCells l) w':=by
  intro p h;have cn:=h.lt;obtain⟨hB,v,Ck,adp,kJ⟩:=h;refine⟨hB,v,by rw[hb.block b cn];exact Ck,?_,kJ⟩;refine⟨adp.1,?_⟩;rcases adp.2 with h0|⟨g,cap,cur,h1,h2,h3,h4⟩
  ·exact .inl h0
  ·refine .inr ⟨g,cap,cur,h1,h2,?_,h4⟩;have hg:g<w.heap.size:=(Array.getElem?_eq_some_iff.1 h3).1;rw[hb.block g hg];exact h3
 rcases h with h|h
 ·exact .inl (key _ h)
 ·exact .inr (key _ h)
def Ya{w:World}:Z4 w.heap.size w.heap.size [] (w.alloc (.cells ⟨[.p none,.l none 0 0]⟩ ZG)):=by
 refine .inl ⟨aI _,.l none 0 0,?_,?_,by intro h;cases h⟩
 ·show(w.heap.push _)[w.heap.size]?=_;rw[Array.getElem?_push_size]
 ·exact⟨rfl,.inl ⟨rfl,rfl⟩⟩
section
variable {W w:World} {L:LH} {k d:Nat} {D:aY}
def KA{at' number:Int}{size:Nat}{b:Bool}{K:VK}(h:St W w L)(hk:L[k]?=some (gN d D))(iz:D.Ok)(Ak:b=false->0<=at'/\at'+(gH size:Int)<=D.safe.length)(qc:size<=425984)
 (hK:∀w',St W w' L->K (tR (if b then none else nF D at' number size 0 (gH size))) w'):jc.j1 K size (ah d) at' number b w:=by
 have xu:=iz.oJ;unfold jc.j1;refine uA (λhb=>?_) (λhb=>?_)
 ·rw[ai hb] at hK;exact hK w h
 rw[ag (by rw[hb];exact rY)] at hK;obtain⟨h0,WC⟩:=Ak hb;generalize Z7:w=w0 at *;show mkT ZG [.p none,.l none 0 0] _ w0;unfold mkT;have hB0:=Ya (w:=w0);have aag:Below w0.heap.size w0 (w0.alloc (.cells ⟨[.p none,.l none 0 0]⟩ ZG)):=Below.alloc (Below.refl _ _) (aI _) _;generalize hw1:w0.alloc (.cells ⟨[.p none,.l none 0 0]⟩ ZG)=w1 at *;generalize hq:w0.heap.size=q at *;apply rW (by omega);simp only[nz,ae,af];refine⟨λus w'=>∃(j:Nat)(l:List UInt8),us=[.s .empty,.b false,.p (ah q),.i (gH size),.i j]/\j<=gH size/\l.length<=104* j/\Z4 q q l w'/\Below q w0 w'/\q<=w'.heap.size/\
    nF D at' number size 0 (gH size)=(nF D at' number size j (gH size-j)).map (l++·),
  λus _=>match us with|[_,_,_,_,.int _ j]=>gH size-j.toNat|_=>0,⟨0,[],rfl,aF _,aI _,hB0,aag,?_,?_⟩,?_⟩
 ·have:=aag.size;omega
 ·cases nF D at' number size 0 (gH size)<;>simp
 rintro s1 b2 a1 n6 n7 w2 ⟨j,l,he,hj,I7,hB,abE,hqs,tj⟩;cases he
 have hs:St W w2 L:=h.uB (by rw[hq];exact abE);have Nv:gH size<=4096:=by unfold gH;split<;>omega
 refine fV (λcn=>?_) (λiZ=>?_)
 ·have ea:aa.wrap (at'+(j:Int))=at'+j:=aX (by omega);rw[ea];apply sW hs hk iz;simp only[nz,ae,af];have air:=zZ iz (i:=at'+j) ⟨by omega,by omega⟩;obtain⟨p,hp⟩:∃p,gH size-j=p+1:=⟨gH size-j-1,by omega⟩;rw[hp,py] at tj;generalize hx:(D.read (at'+(j:Int))).1=x at *;rw[show x=bs x.data.toList from rfl];refine Dt (St.start w2) (by rw[eW];omega) λw3 vU=>?_;have hb3:=vU.below;have U5:Below q w0 w3:=abE.trans (hb3.mono hqs);have fF:St W w3 L:=h.uB (by rw[hq];exact U5);have no:nF D at' number size 0 (gH size)=none->∀w',Below q w0 w'->K (.tuple ⟨[.s .empty,.b false]⟩) w':=λhn w' hb=>by
   have:=hK w' (h.uB (by rw[hq];exact hb));rw[hn] at this;exact this
  cases hv:mB x.data.toList with
  |none=>
   rw[hv] at tj;unfold uV;simp only[nz,ae,af];simp only[yM,bE,cR,aB,ae,true_and];simp only[nz,ae,af];refine jh (St.start w3) λr w4 yR=>?_;refine⟨trivial,kk (k:=0) yR rfl (aK rfl) (by simp[Value.oneCell']) λw4 yR=>?_⟩;exact no (by rw[tj];rfl) w4 (U5.trans (yR.below.mono (by have:=hb3.size;omega)))
  |some y=>
   obtain⟨m,i,dd⟩:=y;rw[hv] at tj;dsimp only at tj;unfold uV;simp only[nz,ae,af];simp only[yM,bE,cR,aB,ae,true_and];simp only[nz,ae,af];refine jh (St.start w3) λr w4 yR=>?_;refine⟨trivial,kk (k:=0) yR rfl (aK rfl) (by simp[Value.oneCell']) λw4 yR=>?_⟩;rw[iR (by simp)] at yR;simp only[nz,ae,af] at yR;have I':Below q w0 w4:=U5.trans (yR.below.mono (by have:=hb3.size;omega));apply cZ (k:=0) yR rfl rfl;simp only[nz,ae,af];refine vO (λkJ=>?_) (λhmn=>?_)
   ·exact no (by rw[tj,ag (λhh=>kJ hh.1)];rfl) w4 I'
   apply cZ (k:=0) yR rfl rfl;simp only[nz,ae,af];refine vO (λkJ=>?_) (λNr=>?_)
   ·exact no (by rw[tj,ag (λhh=>kJ hh.2.1)];rfl) w4 I'
   apply cZ (k:=0) yR rfl rfl;simp only[nz,ae,af];have e1:aa.wrap ((j:Int)* 104)=(j:Int)* 104:=aX (by omega);have e2:aa.wrap ((size:Int) -(j:Int)* 104)=(size:Int) -(j:Int)* 104:=aX (by omega);have Yl:104* j<=size:=by
    rcases Nat.eq_zero_or_pos j with h0|h0
    ·omega
    ·have:=(ON (n:=size) h0).2 (by omega);omega
   have e3:min2 ((size:Int) -(j:Int)* 104) 104=((min (size-104* j) 104:Nat):Int):=by unfold min2;split<;>omega
   rw[e1,e2,e3];refine vO (λkJ=>?_) (λhds=>?_)
   ·exact no (by rw[tj,ag (λhh=>kJ (by rw[hh.2.2]))];rfl) w4 I'
   have afy:dd.size=min (size-104* j) 104:=by omega
   apply cZ (k:=0) yR rfl rfl;simp only[nz,ae,af];rw[ai ⟨hmn,Nr,afy⟩] at tj;have hB4:Z4 q q l w4:=RR hB (hb3.trans (yR.below.mono hb3.size));refine⟨q,q,l,rfl,hB4,by omega,(by have:=I'.size;omega),λw5 hB5 aaf=>?_⟩;simp only[nz,ae,af];have e5:=nI j;rw[e5];have GB:gH size-(j+1)=p:=by omega
   refine⟨⟨j+1,_,rfl,by omega,?_,hB5,I'.trans aaf,?_,?_⟩,by omega⟩
   ·rw[av,eW];omega
   ·have:=aaf.size;have:=I'.size;omega
   ·rw[tj,GB];cases nF D at' number size (j+1) p<;>simp[aH]
 ·have hje:j=gH size:=by omega
  refine⟨q,q,l,rfl,hB,hqs,λw' hb=>?_⟩;simp only[nz,ae,af];have:=hK w' (h.uB (by rw[hq];exact abE.trans hb));rw[tj,hje,kR] at this;simp only[nF,fm,bR,tR] at this;exact this
def Jt{at' toX number size:Int}{K:VK}(h:St W w L)(hk:L[k]?=some (gN d D))(iz:D.Ok)(hK:∀w',St W w' L->K (tR (take D at' toX number size)) w'):jc (ah d) at' toX number size K w:=by
 have xu:=iz.oJ;have bad:(at'<0\/(D.safe.length:Int)<toX\/toX<at'\/size<0\/425984<size\/toX-at'<(gH size.toNat:Int))->jc.j1 K size (ah d) at' number true w:=λhb=>by
  unfold jc.j1;rw[lC];have:=hK w h;unfold take at this;rw[ai hb] at this;exact this
 unfold jc;refine fV (λh1=>bad (.inl h1)) (λh1=>?_);apply oq h hk;simp only[nz,ae,af];refine fV (λh2=>bad (.inr (.inl h2))) (λh2=>?_);refine fV (λh3=>bad (.inr (.inr (.inl h3)))) (λh3=>?_);refine fV (λh4=>bad (.inr (.inr (.inr (.inl h4))))) (λh4=>?_);refine uA (λh5=>bad (.inr (.inr (.inr (.inr (.inl (aR h5))))))) (λh5=>?_);have h5:=bj h5;obtain⟨m,rfl⟩:=bh (show 0<=size by omega);apply rW (by omega);simp only[nz,ae,af];have ew:aa.wrap (toX-at')=toX-at':=aX (by omega);rw[ew];refine KA h hk iz (λhb=>?_) (by omega) λw' hs=>?_
 ·have:=bj hb;omega
 ·have:=hK w' hs;unfold take at this;rw[ak] at this;by_cases h6:toX-at'<(gH m:Int)
  ·rw[ai (by omega)] at this;have e:decide ((gH m:Int)>toX-at')=true:=aw (by omega);rw[e,ai rfl];exact this
  ·rw[ag (by omega)] at this;have e:decide ((gH m:Int)>toX-at')=false:=ao (by omega);rw[e,ag rY];exact this
end
def Qe{at' number:Int}{s:BA}(qG:1<=number/\number<=1152921504606846976)(Ak:0<=at'):∀(n i:Nat) {D:aY},D.arm=0->at'+i+n<=D.safe.length->i+n<=4096->
 (pR at' number s D i n).2=0/\(pR at' number s D i n).1.arm=0/\(pR at' number s D i n).1.safe=D.safe/\(pR at' number s D i n).1.later.length=D.later.length+n/\
 ∀j:Int,(j<at'+i\/at'+i+n<=j)->(pR at' number s D i n).1.now j=D.now j
 |0,i,D,ha,hr,hi=>⟨rfl,ha,rfl,rfl,λ_ _=>rfl⟩
 |n+1,i,D,ha,hr,hi=>by
  have hg:eB number i (part s i):=⟨qG.1,qG.2,by omega,by omega,nP s i⟩;have qc:=u9 hg;have hi:D.is (at'+i):=⟨by omega,by omega⟩;have Ay: ¬(¬D.is (at'+i)\/128<(leaf number i (part s i)).size):=by
   rintro(hh|hh)
   ·exact hh hi
   ·omega
  have hw:D.write (at'+i) (leaf number i (part s i))=({Go.cG.aY.tick D with later:=D.later++[(at'+i,aY.pad (leaf number i (part s i)))]},0):=by
   rw[Dk.Jy ha,ag Ay]
  have hn:=λj=>Dk.Gj ha (at'+i) j (leaf number i (part s i));unfold pR;have h0:(D.write (at'+i) (leaf number i (part s i))).2=0:=by rw[hw]
  rw[ag (by rw[h0];exact λhh=>hh rfl)];have hlen:(D.write (at'+i) (leaf number i (part s i))).1.later.length=D.later.length+1:=by rw[hw];simp
  have ur:=(tv D (at'+i) (leaf number i (part s i))).1;have Yv:=Dk.Fj ha (at'+i) (leaf number i (part s i));have ih:=Qe qG Ak (s:=s) n (i+1) (D:=(D.write (at'+i) (leaf number i (part s i))).1) Yv (by rw[ur];omega) (by omega);refine⟨ih.1,ih.2.1,ih.2.2.1.trans ur,by rw[ih.2.2.2.1,hlen];omega,λj hj=>?_⟩;rw[ih.2.2.2.2 j (by omega),hn j,ag (λhh=>by have:=hh.2;omega)]
section
variable {W w:World} {L:LH}
end
def OT(m i:Nat)(hi:i<8):(byteOf .i64 (m:Int) i).toNat=m/256^i%256:=by
 have hp:(256:Nat)^i=2^(8* i):=by rw[show(256:Nat)=2^8 from rfl,<-Nat.pow_mul]
 have e1:shr .i64 (m:Int) (8* (i:Int))=((m/256^i:Nat):Int):=by
  unfold shr;have h1:(8* (i:Int)).toNat=8* i:=by omega
  have h2:min (8* i) aa.bits=8* i:=by show min (8* i) 64=_;omega
  rw[h1,h2,hp,Hs _ (Int.le_of_lt (Int.pow_pos (by decide)))]
  push_cast
  rfl
 have e2:IntKind.u8.wrap ((m/256^i:Nat):Int)=((m/256^i%256:Nat):Int):=by
  generalize m/256^i=z;simp[IntKind.wrap,IntKind.bits,IntKind.signed]
 unfold byteOf;rw[e1,e2,ak,UInt8.toNat_ofNat_of_lt' (Nat.mod_lt _ (by decide))]
def le_succ(k:IntKind)(w:Nat)(n:Int):le k (w+1) n=le k w n++[byteOf k n w]:=by
 unfold le;rw[List.range_succ,cF];rfl
def sr(m:Nat):∀w,w<=8->ow (le .i64 w (m:Int))=m%256^w
 |0,_=>by simp[le,ow,Nat.mod_one]
 |w+1,h=>by
  rw[le_succ,tZ,sr m w (by omega),OT m w (by omega),aQ,Nat.mod_pow_succ,wI]
def pP{n:Int}(h:0<=n/\n<=1152921504606846976):nK (le .i64 8 n)=n:=by
 obtain⟨m,rfl⟩:=bh h.1;unfold nK;rw[sr m 8 (by omega)];have h8:(256:Nat)^8=18446744073709551616:=rfl;rw[h8,fG (by omega),aX (by omega)]
def K5{m:Nat}(h:m<65536):ow (le .i64 2 (m:Int))=m:=by
 rw[sr m 2 (by omega)];exact fG h
def pB{n i:Int}{s:BA}(h:eB n i s):mB (mU n i s)=some (n,i,s):=by
 obtain⟨h1,h2,h3,h4,h5⟩:=h;have hl:(mU n i s).length=128:=yi h5;have SW:(pre n i s).length=116:=rQ h5;have hd:s.data.toList.length=s.size:=rfl;have hc:(wS (uf 0 (pre n i s))).length=4:=aQ _ _ _;have yp:mU n i s=le .i64 8 n++(le .i64 2 i++(le .i64 2 s.size++(s.data.toList++(bw (104-s.size) 0++(wS (uf 0 (pre n i s))++le .i64 8 n))))):=by
  simp only[mU,pre,aH]
 have t120:(mU n i s).take 120=pre n i s++wS (uf 0 (pre n i s)):=by
  unfold mU;rw[List.take_append_of_le_length (by rw[av,SW,hc];omega),bU (by rw[av,SW,hc];omega)]
 have hh:uJ ((mU n i s).take 120)=true:=by
  rw[t120];unfold uJ;have hlen:(pre n i s++wS (uf 0 (pre n i s))).length=120:=by rw[av,SW,hc]
  rw[hlen,show 120-4=(pre n i s).length from by rw[SW],Dv,List.drop_left,beq_self_eq_true]
  rfl
 have tl:∀(a b:List UInt8)(m:Nat),a.length=m->(a++b).take m=a:=λa b m hm=>by subst hm;exact Dv
 have dl:∀(a b:List UInt8)(m:Nat),a.length=m->(a++b).drop m=b:=λa b m hm=>by subst hm;exact List.drop_left
 have d8:(mU n i s).drop 8=le .i64 2 i++(le .i64 2 s.size++(s.data.toList++(bw (104-s.size) 0++(wS (uf 0 (pre n i s))++le .i64 8 n)))):=by rw[yp,dl _ _ _ (aQ _ _ _)]
 have d10:((mU n i s).drop 8).drop 2=le .i64 2 s.size++(s.data.toList++(bw (104-s.size) 0++(wS (uf 0 (pre n i s))++le .i64 8 n))):=by rw[d8,dl _ _ _ (aQ _ _ _)]
 have hr:ng (mU n i s)=s.data.toList++(bw (104-s.size) 0++(wS (uf 0 (pre n i s))++le .i64 8 n)):=by unfold ng;rw[d10,dl _ _ _ (aQ _ _ _)]
 have eN:sN (mU n i s)=n:=by unfold sN;rw[yp,tl _ _ _ (aQ _ _ _),pP ⟨by omega,h2⟩]
 have eI:sI (mU n i s)=i:=by
  unfold sI;rw[d8,tl _ _ _ (aQ _ _ _),oy (by rw[aQ];omega)];obtain⟨m,rfl⟩:=bh h3;rw[K5 (by omega)]
 have eM:sM (mU n i s)=s.size:=by
  unfold sM;rw[d10,tl _ _ _ (aQ _ _ _),K5 (by omega)]
 have eD:sD (mU n i s)=s.data.toList:=by unfold sD;rw[eM,hr,tl _ _ _ hd]
 have dr:(ng (mU n i s)).drop s.size=bw (104-s.size) 0++(wS (uf 0 (pre n i s))++le .i64 8 n):=by rw[hr,dl _ _ _ hd]
 have eZ:sZ (mU n i s)=bw (104-s.size) 0:=by unfold sZ;rw[eM,dr,tl _ _ _ (by simp)]
 have eT:DF (mU n i s)=n:=by
  unfold DF;rw[eM,dr,dl _ _ _ (by simp),dl _ _ _ hc,bU (by rw[aQ];omega),pP ⟨by omega,h2⟩]
 have hg:eB (sN (mU n i s)) (sI (mU n i s)) (bs (sD (mU n i s))):=by
  rw[eN,eI,eD,QK];exact⟨h1,h2,h3,h4,h5⟩
 unfold mB;rw[ag (λhx=>hx hl),ag (by rw[hh];exact rY),ag (by rw[eM];omega),ag (λhx=>hx (by rw[eT,eN])),ag (λhx=>hx (by rw[eZ];simp)),ag (λhx=>hx hg),eN,eI,eD,QK]
def zp:mB (nE 128).data.toList=none:=by decide+kernel
def P0{s:BA}(h:s.size=128):aY.pad s=s:=by
 unfold aY.pad;rw[h];apply lh;rw[ByteArray.data_append,Array.toList_append];simp[nE]
def Qd{at' number:Int}{s:BA}(qG:1<=number/\number<=1152921504606846976)(Ak:0<=at'):∀(n i:Nat) {D:aY},D.arm=0->at'+i+n<=D.safe.length->i+n<=4096->
 ∀q,i<=q->q<i+n->(pR at' number s D i n).1.now (at'+q)=leaf number q (part s q)
 |0,i,D,ha,hr,hi,q,h1,h2=>by omega
 |n+1,i,D,ha,hr,hi,q,h1,h2=>by
  have hg:eB number i (part s i):=⟨qG.1,qG.2,by omega,by omega,nP s i⟩;have qc:=u9 hg;have vV:D.is (at'+i):=⟨by omega,by omega⟩;have Ay: ¬(¬D.is (at'+i)\/128<(leaf number i (part s i)).size):=by
   rintro(hh|hh)
   ·exact hh vV
   ·omega
  have hw:D.write (at'+i) (leaf number i (part s i))=({Go.cG.aY.tick D with later:=D.later++[(at'+i,aY.pad (leaf number i (part s i)))]},0):=by
   rw[Dk.Jy ha,ag Ay]
  have h0:(D.write (at'+i) (leaf number i (part s i))).2=0:=by rw[hw]
  have ur:=(tv D (at'+i) (leaf number i (part s i))).1;have Yv:=Dk.Fj ha (at'+i) (leaf number i (part s i));unfold pR;rw[ag (by rw[h0];exact λhh=>hh rfl)];by_cases hq:q=i
  ·subst hq;have:=(Qe qG Ak (s:=s) n (q+1) (D:=(D.write (at'+q) (leaf number q (part s q))).1) Yv (by rw[ur];omega) (by omega)).2.2.2.2 (at'+q) (by omega);rw[this,Dk.Gj ha,ai ⟨⟨vV,by omega⟩,rfl⟩,P0 qc]
  ·exact Qd qG Ak (s:=s) n (i+1) Yv (by rw[ur];omega) (by omega) q (by omega) (by omega)
def CL{D:aY}{at' number:Int}{size:Nat}{s:BA}:∀(n i:Nat),(∀q,i<=q->q<i+n->mB (D.read (at'+q)).1.data.toList=some (number,(q:Int),part s q)/\(part s q).size=min (size-104* q) 104)->
 nF D at' number size i n=some ((s.data.toList.drop (104* i)).take (104* n))
 |0,i,_=>by simp[nF]
 |n+1,i,h=>by
  obtain⟨h1,h2⟩:=h i (aI _) (by omega);rw[py,h1];dsimp only;rw[ai ⟨rfl,rfl,h2⟩,CL n (i+1) (λq hq Yd=>h q (by omega) (by omega))];have e:(part s i).data.toList=(s.data.toList.drop (104* i)).take 104:=by
   unfold part;rw[extract_toList];congr 1;omega
  rw[e,fm]
  congr 1
  rw[show 104* (n+1)=104+104* n from by omega,List.take_add,jX,show 104* i+104=104* (i+1) from by omega]
section
variable {W w:World} {L:LH}
end
def Dx(n:Int):0<=IntKind.u64.wrap n/\IntKind.u64.wrap n<18446744073709551616:=by
 simp[IntKind.wrap,IntKind.bits,IntKind.signed];omega
def VH(n:Int)(i:Nat)(hi:i<8):IntKind.u8.wrap (shr .i64 n (8* (i:Int)))=IntKind.u8.wrap ((((IntKind.u64.wrap n).toNat/256^i:Nat):Int)):=by
 have hu:(((IntKind.u64.wrap n).toNat:Nat):Int)=n%18446744073709551616:=by
  have:=Dx n;rw[Int.toNat_of_nonneg this.1];simp[IntKind.wrap,IntKind.bits,IntKind.signed]
 generalize (IntKind.u64.wrap n).toNat=U at *;have e8:∀x:Int,IntKind.u8.wrap x=x%256:=λx=>by simp[IntKind.wrap,IntKind.bits,IntKind.signed]
 rw[e8,e8];unfold shr;rw[Hs _ (Int.le_of_lt (Int.pow_pos (by decide)))]
 match i,hi with
 |0,_=>show(n/1)%256=(((U/1:Nat):Int))%256;omega
 |1,_=>show(n/256)%256=(((U/256:Nat):Int))%256;omega
 |2,_=>show(n/65536)%256=(((U/65536:Nat):Int))%256;omega
 |3,_=>show(n/16777216)%256=(((U/16777216:Nat):Int))%256;omega
 |4,_=>show(n/4294967296)%256=(((U/4294967296:Nat):Int))%256;omega
 |5,_=>show(n/1099511627776)%256=(((U/1099511627776:Nat):Int))%256;omega
 |6,_=>show(n/281474976710656)%256=(((U/281474976710656:Nat):Int))%256;omega
 |7,_=>show(n/72057594037927936)%256=(((U/72057594037927936:Nat):Int))%256;omega
section
variable {W w:World} {L:LH}
def Ab{m n:Int}{K:VK}(h:St W w L)(hK:∀w',St W w' L->K (.s (bs (le .i64 (min2 (max2 m 1) 8).toNat n))) w'):bN m n K w:=by
 have hm:1<=min2 (max2 m 1) 8/\min2 (max2 m 1) 8<=8:=by unfold min2 max2;split<;>split<;>omega
 unfold bN;generalize min2 (max2 m 1) 8=q at *;have hu:=Dx n;refine⟨λus w'=>∃j:Nat,us=[.s .empty,.i q,.u (((IntKind.u64.wrap n).toNat/256^j:Nat):Int),.s (bs (le .i64 j n)),.i j]/\(j:Int)<=q/\St W w' L,
  λus _=>match us with|[_,_,_,_,.int _ j]=>(q-j).toNat|_=>0,⟨0,?_,by omega,h⟩,?_⟩
 ·rw[Nat.pow_zero,Nat.div_one,Int.toNat_of_nonneg hu.1];rfl
 rintro s1 n3 n4 s2 n5 w2 ⟨j,he,hj,hs⟩;cases he
 refine fV (λh0=>?_) (λh0=>?_)
 ·have hj8:j<8:=by omega
  have hb:=VH n j hj8;have aiG:(IntKind.u64.wrap n).toNat<18446744073709551616:=by omega
  generalize hU:(IntKind.u64.wrap n).toNat=U at *;have hle:U/256^j<=U:=Nat.div_le_self _ _;have wm:U/256^(j+1)=U/256^j/256:=by rw[Nat.div_div_eq_div_mul,<-Av]
  generalize U/256^j=V at *;have et:((V:Nat):Int).tmod 256=((V%256:Nat):Int):=by rw[gX (by omega)];rfl
  have ed:((V:Nat):Int).tdiv 256=((V/256:Nat):Int):=by rw[Int.tdiv_eq_ediv_of_nonneg (by omega)];rfl
  have ew:IntKind.u64.wrap ((V/256:Nat):Int)=((V/256:Nat):Int):=te (by omega);have e5:=nI j;have w8:∀z:Nat,IntKind.u8.wrap ((z%256:Nat):Int)=IntKind.u8.wrap ((z:Nat):Int):=λz=>by simp[IntKind.wrap,IntKind.bits,IntKind.signed]
  have AM:Value.int .u8 (IntKind.u8.wrap (((V:Nat):Int).tmod 256))=vZ (byteOf .i64 n j):=by
   unfold byteOf;rw[u2 (xU _),hb,et,w8]
  rw[AM,ed,ew,e5];refine⟨by decide,⟨rfl,trivial⟩,jh hs λr w hs=>?_⟩;refine OY (k:=0) (l:=[byteOf .i64 n j]) hs rfl rfl ?_;rw[me,<-le_succ];refine⟨by rw[bV,bV,aQ];simp;omega,by decide,?_⟩;exact⟨⟨j+1,by rw[wm],by omega,hs.drop⟩,by dsimp only;omega⟩
 ·have:q.toNat=j:=by omega
  rw[this] at hK;exact hK _ hs
end
end Go.Sep
namespace Go.Up
open Go.Sep Go.Den Go.RowKit Go.Prog Go.Md
def Cm{α:Type}{f:α->LV}{e:Nat}(hf:∀x,(f x).length=e):∀l:List α,(l.flatMap f).length=l.length* e
 |[]=>by simp
 |x::l=>by rw[iQ,av,hf,Cm hf l,bE,mG];omega
def ry{α:Type}{f:α->LV}{e:Nat}(hf:∀x,(f x).length=e):∀(l:List α)(i:Nat)(x:α),l[i]?=some x->∀j v,(f x)[j]?=some v->(l.flatMap f)[i* e+j]?=some v
 |[],i,x,h,j,v,hj=>by simp at h
 |y::l,0,x,h,j,v,hj=>by
  simp at h;subst h;rw[iQ,Nat.zero_mul,aB,ch (ar.1 hj).1];exact hj
 |y::l,i+1,x,h,j,v,hj=>by
  rw[iQ,iN (by rw[hf,mG];omega),hf,show(i+1)* e+j-e=i* e+j by rw[mG];omega];exact ry hf l i x (by simpa using h) j v hj
def GL{α:Type}{f:α->LV}{e:Nat}(hf:∀x,(f x).length=e):∀(l:List α)(i:Nat)(x:α),i<l.length->over (l.flatMap f) (i* e) (f x)=(l.set i x).flatMap f
 |[],i,x,h=>by simp at h
 |y::l,0,x,h=>by
  unfold over;rw[iQ,Nat.zero_mul,mR,cQ,hf,aB,List.drop_left' (hf y)];rfl
 |y::l,i+1,x,h=>by
  have ih:=GL hf l i x (by simpa using h);unfold over at ih⊢;rw[iQ,nN,iQ,<-ih,hf,show(i+1)* e=(f y).length+i* e by rw[hf,mG];omega,List.take_append,bU (by omega),
   show(f y).length+i* e-(f y).length=i* e by omega,Nat.add_assoc,List.drop_append,gG (by omega),show(f y).length+(i* e+e) -(f y).length=i* e+e by omega]
  simp
def zx(n:Nat):(nm n).length=2:=rfl
def oV(n:Nat):∀v∈nm n,v.oneCell'=true:=λv h=>by simp[nm] at h;rcases h with rfl|rfl<;>rfl
section
variable {W:World} {L:LH} {K:VK} {a b n:Nat}
def ue{r m e:Nat}{i:Int}{K:Addr->WK}(hi:0<=i/\i<m)(h:T W L (K ⟨r,i.toNat* e,none⟩)):T W L (iW (ah r) m i e K):=λw hs=>
 ⟨_,rfl,hi,by rw[ia,aB];exact h w hs⟩
def acG{α:Type}{r o e:Nat}{l:List α}{x:α}{g:α->LV}{f:LV->LH}{K:LV->WK}[i:Lc (pt r) L (l.flatMap g) f](hf:∀x,(g x).length=e)(hx:l[o]?=some x)(h:T W L (K (g x))):T W L (aJ ⟨r,o* e,none⟩ e K):=λw hs=>
 let⟨_,hk,_⟩:=i.at_;kq hs hk (hf x) (ry hf l o x hx) (h w hs)
def DE:Nat->List Nat->Option Nat
 |s,[]=>some s
 |s,x::l=>if s+x<bO then DE (s+x) l else none
abbrev aeZ(o:Option Nat):Value:=.tuple ⟨[.agg ⟨nm (o.getD 0)⟩,.b o.isSome]⟩
def aaq{r c:Nat}{l:List Nat}{f:LV->LH}(hl:∀x∈l,x<bO)(hlen:l.length<1000)[i:Lc (pt r) L (l.flatMap nm) f](h:T W L (K (aeZ (DE 0 l)))):T W L (y5 (ah r) l.length c K):=by
 unfold y5;apply ws;intros;rename_i r1 r2;intro w hs;refine⟨λvs w=>∃i s:Nat,i<=l.length/\s<bO/\DE 0 l=DE s (l.drop i)/\vs=[.p (some (ad r1 0)),.b false,.p (some (ad r2 0)),.l (ah r) l.length c,.i (l.length:Int),.i (i:Int)]/\St W w (pt r2 (nm s)::pt r1 (nm 0)::L),
  λvs _=>match vs with|[_,_,_,_,_,.int _ j]=>l.length-j.toNat|_=>0,⟨0,0,aF _,by decide,rfl,rfl,hs⟩,?_⟩
 rintro a1 b1 a2 ov mo qf n1 n2 w2 ⟨i,s,hi,hsM,he,e,hs⟩;cases e
 refine T.at ?_ hs;apply ga<;>intro h1
 ·have cn:i<l.length:=by simpa using h1
  apply ue (by omega);rw[ak];refine acG zx (aj cn) ?_;have hx:=hl _ (bF cn);have hd:l.drop i=l[i]::l.drop (i+1):=gh cn;rw[hd] at he;generalize l[i]=x at *;have tr:DE s (x::l.drop (i+1))=if s+x<bO then DE (s+x) (l.drop (i+1)) else none:=rfl
  rw[tr] at he
  repeat' first|apply ws;intros|apply wb|first|refine Ef hsM hx ?_|apply dz<;>intro h1
  ·have h2: ¬s+x<bO:=by simpa using h1
   rw[ag h2] at he;rw[he] at h;exact T.dp h
  ·have h2:s+x<bO:=by simpa using h1
   rw[ai h2] at he;rw[ai h2];have e5:=nI i;rw[e5];refine T.drop λw3 h3=>⟨⟨i+1,s+x,cn,h2,he,rfl,h3⟩,?_⟩;show l.length-((i+1:Nat):Int).toNat<l.length-(i:Int).toNat;omega
 ·have iZ:i=l.length:=by omega
  subst iZ;rw[gG (aI _)] at he;rw[he] at h;apply ws;exact T.dp h
end
end Go.Up
namespace Go.Sep
open Go.Den Go.RowKit Go.Prog Go.cG
section
variable {W w:World} {L:LH}
end
def K6:∀(a b:List UInt8),a.length=b.length->ow a=ow b->a=b
 |[],[],_,_=>rfl
 |[],_::_,h,_=>by simp at h
 |_::_,[],h,_=>by simp at h
 |c::a,d::b,h,hv=>by
  have hc:=c.toNat_lt;have hd:=d.toNat_lt;simp only[ow] at hv;have h1:c.toNat=d.toNat:=by omega
  rw[K6 a b (by simpa using h) (by omega),UInt8.toNat_inj.1 h1]
def N3{l:List UInt8}{n j:Int}{d:BA}(h:mB l=some (n,j,d)):l.length=128/\sM l<=104/\DF l=sN l/\n=sN l/\j=sI l/\eB (sN l) (sI l) (bs (sD l)):=by
 unfold mB at h;split at h
 ·cases h
 rename_i h1;split at h
 ·cases h
 split at h
 ·cases h
 rename_i h3;split at h
 ·cases h
 rename_i h4;split at h
 ·cases h
 split at h
 ·cases h
 rename_i h6;cases h
 exact⟨bp.1 h1,by omega,bp.1 h4,rfl,rfl,bp.1 h6⟩
def TZ{l:List UInt8}(h:sM l<=104)(hl:l.length=128):DF l=nK (l.drop 120):=by
 unfold DF ng;rw[jX,jX,jX,jX,jX,bU (by rw[aS];omega)]
 congr 2
 omega
def LX{D:aY}:∀j i:Nat,i<j->numOf (Da (D.read (i:Int)).1)<=fk D j/\numOf (CJ (D.read (i:Int)).1)<=fk D j
 |0,i,h=>by omega
 |j+1,i,h=>by
  have hm:∀a b:Int,a<=max2 a b/\b<=max2 a b:=λa b=>by unfold max2;split<;>omega
  simp only[fk];have h1:=hm (max2 (fk D j) (numOf (Da (D.read (j:Int)).1))) (numOf (CJ (D.read (j:Int)).1));have h2:=hm (fk D j) (numOf (Da (D.read (j:Int)).1));by_cases Nr:i=j
  ·subst Nr;exact⟨by omega,by omega⟩
  ·have:=LX (D:=D) j i (by omega);exact⟨by omega,by omega⟩
def LY(s:BA):0<=numOf s/\numOf s<=1152921504606846976:=by unfold numOf;split<;>omega
def yt(D:aY):∀j,0<=fk D j/\fk D j<=1152921504606846976
 |0=>by simp[fk]
 |j+1=>by
  have h1:=yt D j;have h2:=LY (Da (D.read (j:Int)).1);have h3:=LY (CJ (D.read (j:Int)).1);simp only[fk];unfold max2;split<;>split<;>omega
def low(w:Int):Int:=dj .i64 .and w 1
def Qa(w:Int):low w=(((BitVec.ofInt 64 w).toNat%2:Nat):Int):=by
 have e2:(BitVec.ofInt 64 1).toNat=1:=rfl;show aa.wrap (((BitVec.ofInt 64 w&&&BitVec.ofInt 64 1).toNat:Nat):Int)=_;rw[BitVec.toNat_and,e2,Nat.and_one_is_mod,aX (by omega)]
def wQ(w:Int):low w=0\/low w=1:=by rw[Qa];omega
def dm(n:Nat):Nat:=(n-2)* 2/5
def fC(n:Nat):LV:=[.i 2,.i (2+dm n:Nat),.i (dm n:Nat),.i (2+2* dm n:Nat),.i n]
def fj(n:Nat)(which:Int):Nat:=if low which=0 then 2 else 2+dm n
def pZ{n:Nat}(h:12<=n)(w:Int):2<=fj n w/\fj n w+dm n<=n/\4<=dm n:=by
 unfold fj dm;split<;>omega
def NX{n:Nat}(w v:Int)(h:low w≠low v):fj n w+dm n<=fj n v\/fj n v+dm n<=fj n w:=by
 unfold fj;rcases wQ w with a|a<;>rcases wQ v with b|b<;>rw[a,b] at h⊢<;>simp at h⊢
def put(D:aY)(n:Nat)(which number:Int)(s:BA):aY×Int:=
 if(lay D (fj n which) ((fj n which+dm n:Nat):Int) number s).2≠0 then lay D (fj n which) ((fj n which+dm n:Nat):Int) number s
 else(lay D (fj n which) ((fj n which+dm n:Nat):Int) number s).1.sync
def get(D:aY)(n:Nat)(which number size:Int):Option (List UInt8):=take D (fj n which) ((fj n which+dm n:Nat):Int) number size
section
variable {W w:World} {L:LH} {k d:Nat} {D:aY}
def Zn{n:Nat}{K:VK}(h:St W w L)(nu:12<=n)(cS:n<=4096)(hK:∀w',St W w' L->K (.tuple ⟨[.agg ⟨fC n⟩,.i 0]⟩) w'):sy n K w:=by
 unfold sy;refine jh h λr w hs=>?_;have e1:decide ((n:Int)<12)=false:=ao (by omega);have e2:decide ((n:Int)>4096)=false:=ao (by omega);rw[e1,e2];unfold sy.j1;have a1:aa.wrap ((n:Int) -2)=((n-2:Nat):Int):=by rw[aX (by omega)];omega
 have a2:aa.wrap (((n-2:Nat):Int)* 2)=(((n-2)* 2:Nat):Int):=by rw[aX (by omega)];omega
 have a3:(((n-2)* 2:Nat):Int).tdiv 5=((dm n:Nat):Int):=by rw[Int.tdiv_eq_ediv_of_nonneg (by omega)];rfl
 have hp:dm n<=4096:=by unfold dm;omega
 have a4:aa.wrap ((dm n:Nat):Int)=((dm n:Nat):Int):=aX (by omega);have a5:aa.wrap (2+((dm n:Nat):Int))=((2+dm n:Nat):Int):=by rw[aX (by omega)];omega
 have a6:aa.wrap (2* ((dm n:Nat):Int))=((2* dm n:Nat):Int):=by rw[aX (by omega)];omega
 have a7:aa.wrap (2+((2* dm n:Nat):Int))=((2+2* dm n:Nat):Int):=by rw[aX (by omega)];omega
 rw[a1,a2,a3,a4,a5,a6,a7];simp only[nz,ae,af];refine⟨by decide,?_⟩;refine kk (k:=0) hs rfl (aK rfl) (by simp[Value.oneCell']) λw hs=>?_;rw[iR (by simp)] at hs;refine kq (k:=0) (xs:=fC n) hs rfl rfl (λj v hj=>by rw[aB];exact hj) ?_;exact hK w hs.drop
def E'{n:Nat}{which:Int}{K:VK}(h:St W w L)(hK:∀w',St W w' L->K (.i (fj n which:Nat)) w'):pA (fC n) which K w:=by
 unfold pA;refine jh h λr w hs=>?_;simp only[nz,ae,af];apply cZ (k:=0) hs rfl rfl;simp only[nz,ae,af];apply cZ (k:=0) hs rfl rfl;simp only[nz,ae,af];have hl:=wQ which;have hh:=hK w hs.drop;unfold fj at hh;show DQ _ 2 (low which) _ w;rcases hl with h0|h0
 ·rw[ai h0] at hh;rw[h0];refine⟨_,⟨by decide,by decide,rfl⟩,?_⟩;simp only[nz,ae,af];exact hh
 ·rw[ag (by omega)] at hh;rw[h0];refine⟨_,⟨by decide,by decide,rfl⟩,?_⟩;simp only[nz,ae,af];exact hh
def Wf{n:Nat}{which number:Int}{s:BA}{K:VK}(h:St W w L)(hk:L[k]?=some (gN d D))(iz:D.Ok)(nu:12<=n)(cS:n<=4096)(hl:D.later.length+5000<1099511627776)(hs:s.size<=reachBytes)
 (hK:∀w',St W w' (L.set k (gN d (put D n which number s).1))->K (.i (put D n which number s).2) w'):rl (fC n) (ah d) which number s K w:=by
 have xt:=pZ nu which;unfold rl;refine jh h λr w fF=>?_;have qc:=hs;simp only[nz,ae,af];refine mK fF λw hs=>?_;refine kq (k:=0) (xs:=fC n) hs rfl rfl (λj v hj=>by rw[aB];exact hj) ?_;refine kq (k:=0) (xs:=fC n) hs rfl rfl (λj v hj=>by rw[aB];exact hj) ?_;apply cZ (k:=0) hs rfl rfl;simp only[nz,ae,af];refine E' hs λw hs=>?_;simp only[nz,ae,af];apply kI (k:=0) hs rfl rfl;refine Qf (k:=0) hs rfl (λj v hj=>by rw[aB];exact hj) ?_;refine E' hs λw hs=>?_;simp only[nz,ae,af];apply kI (k:=0) hs rfl rfl;have ew:aa.wrap (((fj n which:Nat):Int)+((dm n:Nat):Int))=((fj n which+dm n:Nat):Int):=by rw[aX (by omega)];omega
 rw[ew];have td:(pt r (fC n)::L)[k+1]?=some (gN d D):=by rw[bX];exact hk
 refine Hi (k:=k+1) hs td iz (by omega) qc λw hs=>?_;rw[nN] at hs;simp only[nz,ae,af];apply kI (k:=0) hs rfl rfl;unfold put at hK;have R1:(lay D (fj n which) ((fj n which+dm n:Nat):Int) number s).1.Ok\/(lay D (fj n which) ((fj n which+dm n:Nat):Int) number s).2≠0:=by
  by_cases hc:gH s.size<=4097
  ·exact .inl (J6 iz (by omega)).1
  ·refine .inr ?_;unfold lay;split
   ·simp
   ·rw[ai (by omega)];simp
 refine vO (λkJ=>?_) (λh0=>?_)
 ·rw[ai kJ] at hK;exact hK w hs.drop
 ·rw[ag (λhh=>hh h0)] at hK;refine vT (k:=k+1) hs (by rw[bX];exact kn hk) (R1.resolve_right (λhh=>hh h0)) λw hs=>?_;rw[nN,jH] at hs;simp only[nz,ae,af];exact hK w hs.drop
def Wn{n:Nat}{which number size:Int}{K:VK}(h:St W w L)(hk:L[k]?=some (gN d D))(iz:D.Ok)(nu:12<=n)(cS:n<=4096)
 (hK:∀w',St W w' L->K (tR (get D n which number size)) w'):rq (fC n) (ah d) which number size K w:=by
 have xt:=pZ nu which;unfold rq;refine jh h λr w fF=>?_;simp only[nz,ae,af];refine mK fF λw hs=>?_;refine kq (k:=0) (xs:=fC n) hs rfl rfl (λj v hj=>by rw[aB];exact hj) ?_;refine kq (k:=0) (xs:=fC n) hs rfl rfl (λj v hj=>by rw[aB];exact hj) ?_;apply cZ (k:=0) hs rfl rfl;simp only[nz,ae,af];refine E' hs λw hs=>?_;simp only[nz,ae,af];apply kI (k:=0) hs rfl rfl;refine Qf (k:=0) hs rfl (λj v hj=>by rw[aB];exact hj) ?_;refine E' hs λw hs=>?_;simp only[nz,ae,af];apply kI (k:=0) hs rfl rfl;have ew:aa.wrap (((fj n which:Nat):Int)+((dm n:Nat):Int))=((fj n which+dm n:Nat):Int):=by rw[aX (by omega)];omega
 rw[ew];refine Jt (k:=k+1) hs (by rw[bX];exact hk) iz λw hs=>?_;unfold get at hK;cases hg:take D (fj n which) ((fj n which+dm n:Nat):Int) number size with
 |none=>
  rw[hg] at hK;unfold tR at hK⊢;simp only[nz,ae,af];apply kI (k:=0) hs rfl rfl;exact hK w hs.drop
 |some l=>
  rw[hg] at hK;unfold tR at hK⊢;simp only[nz,ae,af];apply kI (k:=0) hs rfl rfl;exact hK w hs.drop
end
structure Calm(n:Nat)(D:aY):Prop where
 ok:D.Ok
 arm:D.arm=0
 later:D.later.length<=1000
 len:D.safe.length=n
def Cz{n:Nat}(h:n<=4096):Calm n (aY.new n):=by
 refine⟨abf n,rfl,aF _,?_⟩;simp only[aY.new,kV];have:min2 (max2 (n:Int) 0) 4096=n:=by unfold min2 max2;split<;>split<;>omega
 rw[this];omega
def zy{n:Nat}(h:n<=4096){j:Nat}(hj:j<n):((aY.new n).read (j:Int)).1=nE 128:=by
 have hc:=Cz h;rw[z7 (D:=aY.new n) rfl (i:=j) (by rw[hc.len];exact hj)];simp[aY.new]
def YD{n:Nat}{D:aY}{which number:Int}{s:BA}(hlen:D.safe.length=n)(nu:12<=n)(cS:n<=4096)(qG:1<=number/\number<=1152921504606846976)(hl:gH s.size<=dm n)
 (hr:∀q:Nat,q<gH s.size->(D.read (((fj n which:Nat):Int)+q)).1=leaf number q (part s q)):get D n which number s.size=some s.data.toList:=by
 have xt:=pZ nu which;have hb:s.size<=104* gH s.size:=by unfold gH;split<;>omega
 have UT:∀q:Nat,(part s q).size=min (104* (q+1)) s.size-104* q:=λq=>by unfold part;rw[ug]
 unfold get take;rw[ag (by rw[hlen,ak];omega),ak,CL (s:=s) (gH s.size) 0 (λq _ hq=>by
  rw[hr q (by omega)]
  have hg:eB number q (part s q):=⟨qG.1,qG.2,by omega,by omega,nP s q⟩
  unfold leaf
  rw[ai hg]
  exact⟨pB hg,by rw[UT];omega⟩)]
 congr 1
 rw[Nat.mul_zero,jf,bU (by rw[eW];exact hb)]
section
variable {W w:World} {L:LH}
end
section
variable {W w:World} {L:LH}
def SG{n m:Nat}{K:VK}(h:St W w L)(hm:m<1099511627776000)(hK:∀w',St W w' L->K (.b (decide (gH m<=dm n))) w'):qB (fC n) m K w:=by
 unfold qB;refine jh h λr w hs=>?_;refine mK hs λw hs=>?_;refine fV (λ_=>?_) (λhh=>by omega);apply cZ (k:=0) hs rfl rfl;simp only[nz,ae,af];apply rW (by omega);simp only[nz,ae,af];apply kI (k:=0) hs rfl rfl;have e:decide (((gH m:Nat):Int)<=((dm n:Nat):Int))=decide (gH m<=dm n):=by rw[decide_eq_decide];omega
 rw[e];exact hK w hs.drop
end
def Mix(old new X:BA):Prop:=X=old\/X=new\/∃c,c<=128/\X=new.extract 0 c++old.extract c old.size
def D5(mask torn x:Int)(hx:0<=x/\x<=128)(safe:List BA)(later:List (Int×BA))(hn:(later.map (·.1.toNat)).Nodup)(hp:∀p∈later,0<=p.1/\p.1<safe.length)(i:Nat)(hi:i<safe.length):
 ∀j,j<=later.length->((∀k,k<j->∀p,later[k]?=some p->p.1.toNat≠i)/\(fe mask torn x safe later j)[i]?=safe[i]?)\/
  ∃k p,k<j/\later[k]?=some p/\p.1.toNat=i/\∃X,(fe mask torn x safe later j)[i]?=some X/\Mix (safe.getD i .empty) p.2 X
 |0,_=>.inl ⟨λk hk=>by omega,rfl⟩
 |j+1,hj=>by
  have cn:j<later.length:=by omega
  have Ci:later[j]?=some later[j]:=aj cn;have ih:=D5 mask torn x hx safe later hn hp i hi j (by omega);simp only[fe,Ci];have hlen:i<(fe mask torn x safe later j).length:=by rw[jC];exact hi
  by_cases Nl:(later[j]).1.toNat=i
  ·
   have zC:(fe mask torn x safe later j)[i]?=safe[i]?:=by
    rcases ih with⟨_,h⟩|⟨k,p,hk,WJ,Ye,_⟩
    ·exact h
    ·exfalso;have td:k<later.length:=by omega
     have e1:(later.map (·.1.toNat))[k]?=some i:=by rw[fy,WJ];simp[Ye]
     have e2:(later.map (·.1.toNat))[j]?=some i:=by rw[fy,Ci];simp[Nl]
     have:=(List.getElem?_inj (by simpa using td) hn).1 (e1.trans e2.symm);omega
   have A8:(fe mask torn x safe later j).getD i .empty=safe.getD i .empty:=by
    rw[jW,zC,<-jW]
   refine .inr ⟨j,later[j],by omega,Ci,Nl,?_⟩;unfold aY.od;rw[Nl];split
   ·refine⟨_,List.getElem?_set_self hlen,.inr (.inr ⟨x.toNat,by omega,?_⟩)⟩;rw[A8]
   ·split
    ·exact⟨_,List.getElem?_set_self hlen,.inr (.inl rfl)⟩
    ·refine⟨safe[i],by rw[zC];exact aj hi,.inl ?_⟩;simp[hi]
  ·have Gy:(aY.od mask torn x (fe mask torn x safe later j) j later[j])[i]?=(fe mask torn x safe later j)[i]?:=by
    unfold aY.od;split
    ·rw[Pc Nl]
    ·split
     ·rw[Pc Nl]
     ·rfl
   rw[Gy];rcases ih with⟨h1,h2⟩|⟨k,p,hk,WJ,Ye,X,hX⟩
   ·refine .inl ⟨λk hk p WJ=>?_,h2⟩;by_cases hkj:k=j
    ·subst hkj;rw[Ci] at WJ;cases WJ
     exact Nl
    ·exact h1 k (by omega) p WJ
   ·exact .inr ⟨k,p,by omega,WJ,Ye,X,hX⟩
def Mb{at' number:Int}{s:BA}(qG:1<=number/\number<=1152921504606846976)(Ak:0<=at'):∀(n i:Nat) {D:aY},at'+i+n<=D.safe.length->i+n<=4096->
 ∃m,m<=n/\(pR at' number s D i n).1.later=D.later++((List.range' i m).map λq:Nat=>(at'+(q:Int),aY.pad (leaf number q (part s q))))/\(pR at' number s D i n).1.safe=D.safe/\((pR at' number s D i n).2=0->m=n)
 |0,i,D,hr,hi=>⟨0,aI _,by simp[pR],rfl,λ_=>rfl⟩
 |n+1,i,D,hr,hi=>by
  have hg:eB number i (part s i):=⟨qG.1,qG.2,by omega,by omega,nP s i⟩;have qc:=u9 hg;have vV:D.is (at'+i):=⟨by omega,by omega⟩;have Ay: ¬(¬D.is (at'+i)\/128<(leaf number i (part s i)).size):=by
   rintro(hh|hh)
   ·exact hh vV
   ·omega
  have ur:=(tv D (at'+i) (leaf number i (part s i))).1;have hw:D.write (at'+i) (leaf number i (part s i))=if D.wu then(D.tick,8) else({Go.cG.aY.tick D with later:=D.later++[(at'+i,aY.pad (leaf number i (part s i)))]},0):=by
   unfold aY.write;rw[ag Ay]
  unfold pR;cases hf:D.wu with
  |true=>
   rw[hf,ai rfl] at hw;rw[hw,ai (by simp)];exact⟨0,aF _,by simp[aY.tick],rfl,λh=>by simp at h⟩
  |false=>
   rw[hf,ag rY] at hw;have h0:(D.write (at'+i) (leaf number i (part s i))).2=0:=by rw[hw]
   have A7:(D.write (at'+i) (leaf number i (part s i))).1.later=D.later++[(at'+i,aY.pad (leaf number i (part s i)))]:=by rw[hw]
   rw[ag (by rw[h0];exact λhh=>hh rfl)];obtain⟨m,h1,h2,h3,h4⟩:=Mb qG Ak (s:=s) n (i+1) (D:=(D.write (at'+i) (leaf number i (part s i))).1) (by rw[ur];omega) (by omega);refine⟨m+1,by omega,?_,by rw[h3,ur],λh=>by rw[h4 h]⟩;rw[h2,A7,List.range'_succ,dx,aH]
   rfl
def Gp(at':Nat)(f:Nat->BA)(i:Int):∀m:Nat,aY.last ((qk m).map λq:Nat=>(((at':Nat):Int)+(q:Int),f q)) i=if(at':Int)<=i/\i<(at':Int)+m then some (f (i-at').toNat) else none
 |0=>by rw[ag (by omega)];rfl
 |m+1=>by
  rw[List.range_succ,cF,dx,ou,Dk.uo,Gp at' f i m];dsimp only;by_cases h:((at':Nat):Int)+(m:Int)=i
  ·rw[ai h,ai (by omega)]
   congr 2
   omega
  ·rw[ag h];by_cases h2:(at':Int)<=i/\i<(at':Int)+m
   ·rw[ai h2,ai (by omega)]
   ·rw[ag h2,ag (by omega)]
def JV(at' i m q:Nat)(n:Int)(s:BA)(k:Nat)(p:Int×BA)(h:((List.range' 0 m).map λq:Nat=>(((at':Nat):Int)+(q:Int),aY.pad (leaf n q (part s q))))[k]?=some p):
 k<m/\p.1.toNat=at'+k/\p.2=aY.pad (leaf n k (part s k)):=by
 rw[<-List.range_eq_range',fy] at h;have hk:k<m:=by
  by_cases hh:k<m
  ·exact hh
  ·rw[qu (by simpa using hh)] at h;cases h
 rw[rL hk] at h;cases h
 exact⟨hk,by dsimp only;omega,rfl⟩
def Mt(x:BA):(Da x).data.toList=x.data.toList.take 8:=by unfold Da;rw[extract_toList];rfl
def Le{x:BA}(h:x.size=128):(CJ x).data.toList=x.data.toList.drop 120:=by
 unfold CJ;rw[h,extract_toList,bU (by rw[aS,eW,h];omega)]
def ud{α:Type}(a b:List α)(m:Nat)(h:a.length=m):(a++b).take m=a:=by subst h;exact Dv
def vI{α:Type}(a b:List α)(m:Nat)(h:a.length=m):(a++b).drop m=b:=by subst h;exact List.drop_left
def zz{n i:Int}{s:BA}:(mU n i s).take 8=le .i64 8 n:=by
 unfold mU pre;simp only[aH];exact ud _ _ 8 (aQ _ _ _)
def wR{n i:Int}{s:BA}(hs:s.size<=104):(mU n i s).drop 120=le .i64 8 n:=by
 unfold mU;exact vI _ _ 120 (by rw[av,rQ hs];rfl)
def Fb(n:Nat):(nE n).data.toList=bw n 0:=by unfold nE;rfl
def QA{D:aY}{b:Int}(hb:0<=b):∀j,(∀i:Nat,i<j->numOf (Da (D.read (i:Int)).1)<=b/\numOf (CJ (D.read (i:Int)).1)<=b)->fk D j<=b
 |0,_=>hb
 |j+1,h=>by
  have h1:=QA hb j (λi hi=>h i (by omega));have h2:=h j (by omega);simp only[fk];unfold max2;split<;>split<;>omega
section
variable {W w:World} {L:LH}
end
def eY(D:aY)(at' toX number:Int)(s:BA):aY×Int:=if(lay D at' toX number s).2≠0 then lay D at' toX number s else(lay D at' toX number s).1.sync
def L4{D:aY}{at' toX number:Int}{s:BA}(h:D.Ok)(hl:D.later.length+gH s.size<1099511627776):(eY D at' toX number s).1.Ok:=by
 have:=(J6 (at':=at') (number:=number) (s:=s) (toX:=toX) h hl).1;unfold eY;split
 ·exact this
 ·exact JK this
def UD{n a t:Nat}{D:aY}{number:Int}{s:BA}(h:Calm n D)(cS:n<=4096)(qG:1<=number/\number<=1152921504606846976)(hl:a+gH s.size<=t)(htn:t<=n):(eY D a t number s).1.later=[]:=by
 have hcp:=sP s.size;have e:lay D (a:Nat) ((t:Nat):Int) number s=pR (a:Nat) number s D 0 (gH s.size):=by
  unfold lay;rw[ag (by rw[h.len];omega),ag (by omega)]
 obtain⟨l1,l2,_,_,_⟩:=Qe (at':=((a:Nat):Int)) (number:=number) (s:=s) qG (by omega) (gH s.size) 0 (D:=D) h.arm (by rw[h.len];omega) (by omega);unfold eY;rw[e,ag (λhh=>hh l1),Dk.Pu l2]
def P'{n a t:Nat}{D:aY}{number:Int}{s:BA}(h:Calm n D)(cS:n<=4096)(qG:1<=number/\number<=1152921504606846976)(hl:a+gH s.size<=t)(htn:t<=n):
 (eY D a t number s).2=0/\Calm n (eY D a t number s).1/\(∀q:Nat,q<gH s.size->((eY D a t number s).1.read (((a:Nat):Int)+q)).1=leaf number q (part s q))/\
 ∀j:Nat,j<n->(j<a\/a+gH s.size<=j)->((eY D a t number s).1.read (j:Int)).1=(D.read (j:Int)).1:=by
 have e:lay D (a) ((t:Nat):Int) number s=pR (a) number s D 0 (gH s.size):=by
  unfold lay;rw[ag (by rw[h.len];omega),ag (by omega)]
 have SX:=Qe (at':=((a:Nat):Int)) (number:=number) (s:=s) qG (by omega) (gH s.size) 0 (D:=D) h.arm (by rw[h.len];omega) (by omega);have hli:=Qd (at':=((a:Nat):Int)) (number:=number) (s:=s) qG (by omega) (gH s.size) 0 (D:=D) h.arm (by rw[h.len];omega) (by omega);have iz:=Cb (at':=((a:Nat):Int)) (number:=number) (s:=s) (gH s.size) 0 h.ok (by have:=h.later;omega);unfold eY;rw[e];obtain⟨l1,l2,l3,l4,l5⟩:=SX;rw[ag (λhh=>hh l1)];generalize (pR ((a:Nat):Int) number s D 0 (gH s.size)).1=D1 at *;have aab:D1.safe.length=n:=by rw[l3];exact h.len
 have jS:=Dk.Pu l2;have aae:Calm n D1.sync.1:=⟨JK iz.1,Dk.Q6 l2,by rw[jS];exact aF _,by rw[Dk.Lj.1];exact aab⟩;have WE:∀j:Nat,j<n->(D1.sync.1.read (j:Int)).1=D1.now (j:Int):=λj hj=>by
  have h1:D1.sync.1.is (j:Int):=⟨by omega,by rw[aae.len];omega⟩;have h2:D1.is (j:Int):=⟨by omega,by rw[aab];omega⟩;unfold aY.read;rw[ai h1];exact Dk.RC l2 iz.1 h2
 refine⟨by rw[jS],aae,λq hq=>?_,λj hj HN=>?_⟩
 ·have:=WE (a+q) (by omega);rw[show(((a:Nat):Int)+(q:Int))=((a+q:Nat):Int) from by omega,this,show((a+q:Nat):Int)=((a:Nat):Int)+(q:Int) from by omega];exact hli q (aF _) (by omega)
 ·rw[WE j hj,l5 (j:Int) (by omega)];have h2:D.is (j:Int):=⟨by omega,by rw[h.len];omega⟩;unfold aY.read;rw[ai h2]
def L5{n a t:Nat}{D:aY}{number mask torn cut:Int}{s:BA}(iz:D.Ok)(A7:D.later=[])(hlen:D.safe.length=n)(cS:n<=4096)(qG:1<=number/\number<=1152921504606846976)(hl:a+gH s.size<=t)(htn:t<=n):
 (∀j:Nat,j<n->(((eY D a t number s).1.fJ mask torn cut).read (j:Int)).1=(D.read (j:Int)).1\/
  ∃q,q<gH s.size/\j=a+q/\Mix (D.read (j:Int)).1 (leaf number q (part s q)) (((eY D a t number s).1.fJ mask torn cut).read (j:Int)).1)/\
 ((eY D a t number s).2=0->∀q:Nat,q<gH s.size->(((eY D a t number s).1.fJ mask torn cut).read ((a+q:Nat):Int)).1=leaf number q (part s q))/\
 ((eY D a t number s).1.fJ mask torn cut).Ok/\((eY D a t number s).1.fJ mask torn cut).safe.length=n:=by
 have hcp:=sP s.size;have abt:∀q:Nat,q<gH s.size->aY.pad (leaf number q (part s q))=leaf number q (part s q):=λq hq=>P0 (u9 ⟨qG.1,qG.2,by omega,by omega,nP s q⟩);have afP:lay D (a:Nat) ((t:Nat):Int) number s=pR (a) number s D 0 (gH s.size):=by
  unfold lay;rw[ag (by rw[hlen];omega),ag (by omega)]
 obtain⟨m,hm,GD,ur,fI⟩:=Mb (at':=((a:Nat):Int)) (number:=number) (s:=s) qG (by omega) (gH s.size) 0 (D:=D) (by rw[hlen];omega) (by omega);rw[A7,cQ] at GD;have Kf:=(Cb (at':=((a:Nat):Int)) (number:=number) (s:=s) (gH s.size) 0 iz (by rw[A7];simp;omega)).1;unfold eY;rw[afP];generalize hF:pR ((a:Nat):Int) number s D 0 (gH s.size)=F at *;obtain⟨D1,e⟩:=F;dsimp only at GD ur fI Kf⊢;have hold:∀j(hj:j<n),(D.read (j:Int)).1=D.safe[j]'(by omega):=λj hj=>by rw[z7 A7 (by omega)]
 have key:∀D2:aY,D2.safe=D.safe->D2.later=D1.later->∀j:Nat,j<n->((D2.fJ mask torn cut).read (j:Int)).1=(D.read (j:Int)).1\/
  ∃q,q<gH s.size/\j=a+q/\Mix (D.read (j:Int)).1 (leaf number q (part s q)) ((D2.fJ mask torn cut).read (j:Int)).1:=λD2 h1 h2 j hj=>by
  have Yl:j<D.safe.length:=by omega
  have hce:(D2.fJ mask torn cut).safe=fe mask torn (min2 (max2 cut 0) 128) D.safe D1.later D1.later.length:=by rw[oa,h1,h2]
  have SY:j<(D2.fJ mask torn cut).safe.length:=by rw[hce,jC];exact Yl
  have hr:((D2.fJ mask torn cut).read (j:Int)).1=(D2.fJ mask torn cut).safe[j]:=by rw[z7 (by rw[oa]) SY]
  have hx:(D2.fJ mask torn cut).safe[j]?=some ((D2.fJ mask torn cut).safe[j]):=aj SY;have HM:(D1.later.map (·.1.toNat)).Nodup:=by
   rw[GD,sY];have:((λp:Int×BA=>p.1.toNat)∘λq:Nat=>(((a:Nat):Int)+(q:Int),aY.pad (leaf number q (part s q))))=λq:Nat=>a+q:=by
    funext q;simp only[Function.comp];omega
   rw[this];exact List.Pairwise.map (λq=>a+q) (λx y(WS:x≠y)=>by show a+x≠a+y;omega) (List.nodup_range' 1 (by decide))
  have adv:=D5 mask torn (min2 (max2 cut 0) 128) (Vv cut) D.safe D1.later HM (λp hp=>by
   have:=Kf.later p hp
   rw[ur] at this
   exact this.2) j Yl D1.later.length (aI _)
  rw[<-hce,hx] at adv;rw[hr];generalize (D2.fJ mask torn cut).safe[j]=X at *;rcases adv with⟨_,h⟩|⟨k,p,hk,WJ,Ye,Y,hY,hM⟩
  ·left
   rw[hold j hj];rw[aj Yl] at h;exact bA.inj h
  ·right
   cases hY
   rw[GD] at WJ;obtain⟨r1,r2,r3⟩:=JV (a) 0 m 0 number s k p WJ;refine⟨k,by omega,by omega,?_⟩;rw[hold j hj,<-abt k (by omega),<-r3];have:D.safe.getD j .empty=D.safe[j]:=by simp[Yl]
   rw[<-this];exact hM
 have qh:∀D2:aY,D2.safe.length=n->(D2.fJ mask torn cut).safe.length=n:=λD2 h=>by rw[oa];simp only[jC];exact h
 have adS:D1.safe.length=n:=by rw[ur];exact hlen
 by_cases he:e=0
 ·subst he;rw[ag (by simp)];unfold aY.sync;cases hf:D1.wu with
  |true=>
   rw[ai rfl];exact⟨key D1.tick ur rfl,λh=>by simp at h,Cq (D:=D1.tick) ⟨Kf.safe,Kf.later,Kf.oJ,Kf.less⟩ mask torn cut,qh D1.tick adS⟩
  |false=>
   rw[ag rY];have KX:=fI rfl;subst KX;have RX:=JK Kf;unfold aY.sync at RX;rw[hf,ag rY] at RX;generalize hD3:({Go.cG.aY.tick D1 with safe:=D1.later.foldl aY.put D1.safe,later:=[]}:aY)=D3 at *;have h3s:D3.safe=D1.later.foldl aY.put D.safe:=by rw[<-hD3,<-ur]
   have h3l:D3.later=[]:=by rw[<-hD3]
   have h3n:D3.safe.length=n:=by rw[h3s,oY];exact hlen
   have Nv:(D3.fJ mask torn cut).safe=D3.safe:=by rw[oa,h3l];rfl
   have WE:∀j(hj:j<n),((D3.fJ mask torn cut).read (j:Int)).1=(aY.last D1.later (j:Int)).getD (D.read (j:Int)).1:=λj hj=>by
    have SY:j<(D3.fJ mask torn cut).safe.length:=by rw[qh D3 h3n];exact hj
    have Yl:j<D.safe.length:=by omega
    rw[z7 (by rw[oa]) SY,hold j hj];have h1:=Dk.AO (i:=(j:Int)) (by omega) D1.later D.safe (by omega) (λp hp=>(Kf.later p hp).2.1);rw[ak,<-h3s,<-Nv,jW,aj SY,jW,aj Yl] at h1;exact h1
   have DT:∀j:Nat,aY.last D1.later (j:Int)=if a<=j/\j<a+gH s.size then some (aY.pad (leaf number ((j-a:Nat):Int) (part s (j-a)))) else none:=λj=>by
    rw[GD,<-List.range_eq_range',Gp (a) (λq=>aY.pad (leaf number q (part s q))) (j:Int) (gH s.size)];by_cases hj:a<=j/\j<a+gH s.size
    ·rw[ai hj,ai (by omega)];have:((j:Int) -((a:Nat):Int)).toNat=j-a:=by omega
     rw[this]
    ·rw[ag hj,ag (by omega)]
   refine⟨λj hj=>?_,λ_ q hq=>?_,Cq RX mask torn cut,qh D3 h3n⟩
   ·rw[WE j hj,DT j];by_cases hjr:a<=j/\j<a+gH s.size
    ·right
     refine⟨j-a,by omega,by omega,.inr (.inl ?_)⟩;rw[ai hjr,dI,abt _ (by omega)]
    ·left;rw[ag hjr];rfl
   ·rw[WE _ (by omega),DT,ai (by omega),dI,show a+q-a=q from by omega,abt q hq]
 ·rw[ai he];exact⟨key D1 ur rfl,λh=>aT h he,Cq Kf mask torn cut,qh D1 adS⟩
def RN:∀n:Fin 256,le .i64 8 (n.val:Int)=UInt8.ofNat n.val::bw 7 0:=by decide+kernel
def L9{n:Nat}(h:n<256):le .i64 8 (n:Int)=UInt8.ofNat n::bw 7 0:=RN ⟨n,h⟩
structure Ends(g:Nat)(X:BA):Prop where
 size:X.size=128
 hd:∃a,a<=g/\X.data.toList.take 8=le .i64 8 ((a:Nat):Int)
 tl:∃b,b<=g/\X.data.toList.drop 120=le .i64 8 ((b:Nat):Int)
def Ends.mono{g g':Nat}{X:BA}(h:Ends g X)(hg:g<=g'):Ends g' X:=by
 obtain⟨h1,⟨a,h2,h3⟩,b,h4,h5⟩:=h;exact⟨h1,⟨a,by omega,h3⟩,b,by omega,h5⟩
def Bd:Ends 0 (nE 128):=⟨vk 128,⟨0,aI _,by rw[Fb];decide+kernel⟩,0,aI _,by rw[Fb];decide+kernel⟩
def nQ{n i:Int}{s:BA}(h:eB n i s):(leaf n i s).data.toList=mU n i s:=by unfold leaf;rw[ai h];rfl
def Df{n:Nat}{i:Int}{s:BA}(h:eB n i s):Ends n (leaf n i s):=
 ⟨u9 h,⟨n,aI _,by rw[nQ h,zz]⟩,n,aI _,by rw[nQ h,wR h.2.2.2.2]⟩
def wi{n:Nat}(h:n<256):numOf (bs (le .i64 8 ((n:Nat):Int)))=n:=by
 unfold numOf;show(if 1<=nK (le .i64 8 (n:Int))/\nK (le .i64 8 (n:Int))<=1152921504606846976 then _ else _)=_;rw[pP ⟨by omega,by omega⟩];by_cases h0:n=0
 ·subst h0;rfl
 ·rw[ai ⟨by omega,by omega⟩];show nK (le .i64 8 (n:Int))=_;rw[pP ⟨by omega,by omega⟩]
def Ends.num{g:Nat}{X:BA}(h:Ends g X)(hg:g<256):numOf (Da X)<=g/\numOf (CJ X)<=g:=by
 obtain⟨h1,⟨a,h2,h3⟩,b,h4,h5⟩:=h;have e1:Da X=bs (le .i64 8 ((a:Nat):Int)):=lh (by rw[Mt,h3];rfl);have e2:CJ X=bs (le .i64 8 ((b:Nat):Int)):=lh (by rw[Le h1,h5];rfl);rw[e1,e2,wi (by omega),wi (by omega)];omega
def Am{D:aY}{g:Nat}(hg:g<256)(j:Nat)(h:∀i:Nat,i<j->Ends g (D.read (i:Int)).1):fk D j<=g:=QA (by omega) j (λi hi=>(h i hi).num hg)
def NW{n a:Nat}(hn:n<256)(ha:a<256)(k:Nat)(hk:k<=8):(le .i64 8 ((n:Nat):Int)).take k++(le .i64 8 ((a:Nat):Int)).drop k=if k=0 then le .i64 8 ((a:Nat):Int) else le .i64 8 ((n:Nat):Int):=by
 rw[L9 hn,L9 ha];cases k with
 |zero=>rfl
 |succ k=>
  rw[ag (by omega),List.take_succ_cons,List.drop_succ_cons,lY]
  congr 1
  exact dy k _
def C5{n:Nat}{g:Nat}{i:Int}{s old X:BA}(hn:g<n)(hn2:n<256)(A8:eB n i s)(ho:Ends g old)(hm:Mix old (leaf n i s) X):
 Ends n X/\(X=old\/X=leaf n i s\/mB X.data.toList=none):=by
 rcases hm with h|h|⟨c,hc,h⟩
 ·rw[h];exact⟨ho.mono (by omega),.inl rfl⟩
 ·rw[h];exact⟨Df A8,.inr (.inl rfl)⟩
 ·obtain⟨o1,⟨a,ha,oh⟩,b,hb,ot⟩:=ho;have hl:=nQ A8;have I7:(mU n i s).length=128:=yi A8.2.2.2.2;have hol:old.data.toList.length=128:=by rw[eW];exact o1
  have hX:X.data.toList=(mU n i s).take c++old.data.toList.drop c:=by
   have e2:(old.extract c old.size).data.toList=old.data.toList.drop c:=by
    rw[extract_toList,bU (by rw[aS,eW];exact aI _)]
   rw[h,ByteArray.data_append,Array.toList_append,e2,extract_toList,jf,Nat.sub_zero,hl]
  have hXs:X.size=128:=by
   rw[<-eW,hX,av,aD,aS,I7,hol];omega
  have h8:X.data.toList.take 8=(le .i64 8 ((n:Nat):Int)).take (min c 8)++(le .i64 8 ((a:Nat):Int)).drop (min c 8):=by
   rw[hX,<-oh,<-zz (n:=n) (i:=i) (s:=s),List.take_append,yK,yK,aD,I7,List.drop_take,show min (min c 8) 8=min 8 c from by omega,show min c 128=c from by omega]
   congr 1
   by_cases h8:c<=8
   ·rw[show min c 8=c from by omega]
   ·rw[show 8-c=0 from by omega,show 8-min c 8=0 from by omega,mR,mR]
  have Kg:X.data.toList.drop 120=(le .i64 8 ((n:Nat):Int)).take (c-120)++(le .i64 8 ((b:Nat):Int)).drop (c-120):=by
   rw[hX,<-ot,<-wR (n:=n) (i:=i) A8.2.2.2.2,List.drop_append,List.drop_take,aD,I7,jX,jX,show min c 128=c from by omega]
   congr 2
   omega
  rw[NW hn2 (by omega) _ (by omega)] at h8 Kg;by_cases hc0:c=0
  ·have:X=old:=lh (by rw[hX,hc0,mR,cQ,jf]);rw[this];exact⟨⟨o1,⟨a,by omega,oh⟩,b,by omega,ot⟩,.inl rfl⟩
  ·rw[ag (by omega)] at h8;by_cases hc1:c<=120
   ·rw[ai (by omega)] at Kg;refine⟨⟨hXs,⟨n,aI _,h8⟩,b,by omega,Kg⟩,.inr (.inr ?_)⟩;cases hv:mB X.data.toList with
    |none=>rfl
    |some y=>
     exfalso;obtain⟨m,j,d⟩:=y;obtain⟨v1,v2,v3,v4,_,_⟩:=N3 hv;rw[TZ v2 v1,Kg] at v3;unfold sN at v3;rw[h8,pP ⟨by omega,by omega⟩,pP ⟨by omega,by omega⟩] at v3;omega
   ·rw[ag (by omega)] at Kg;refine⟨⟨hXs,⟨n,aI _,h8⟩,n,aI _,Kg⟩,.inr (.inl ?_)⟩;apply lh;rw[hl];refine(dy 120 _).symm.trans (Eq.trans ?_ (dy 120 _));rw[Kg,wR A8.2.2.2.2,hX,List.take_append_of_le_length (by rw[aD,I7];omega),yK,show min 120 c=120 from by omega]
structure gp where
 bu:Int
 number:Int
 size:Int
 seq:Int
deriving DecidableEq
def cu(h:gp):LV:=[.i h.bu,.i h.number,.i h.size,.i h.seq]
def oo(h:gp):Prop:=1<=h.bu/\h.bu<=1152921504606846976/\1<=h.number/\h.number<=1152921504606846976/\0<=h.size/\h.size<=425984/\0<=h.seq/\h.seq<=1152921504606846976
instance(h:gp):Decidable (oo h):=by unfold oo;infer_instance
def ku(h:gp):List UInt8:=le .i64 8 h.bu++le .i64 8 h.number++le .i64 8 h.size++le .i64 8 h.seq
def qS(h:gp):(ku h).length=32:=by simp only[ku,av,aQ]
def Fc:gp:=⟨0,0,0,0⟩
def yr(l:List UInt8):gp:=⟨nK (l.take 8),nK ((l.drop 8).take 8),nK (((l.drop 8).drop 8).take 8),nK ((((l.drop 8).drop 8).drop 8).take 8)⟩
def Iy(l:List UInt8):Option gp:=if l.length=32/\oo (yr l) then some (yr l) else none
def Mq{h:gp}(hg:oo h):Iy (ku h)=some h:=by
 obtain⟨h1,h2,h3,h4,h5,h6,h7,h8⟩:=hg;have yp:ku h=le .i64 8 h.bu++(le .i64 8 h.number++(le .i64 8 h.size++le .i64 8 h.seq)):=by simp only[ku,aH]
 have tl:∀(a b:List UInt8)(m:Nat),a.length=m->(a++b).take m=a:=λa b m hm=>by subst hm;exact Dv
 have dl:∀(a b:List UInt8)(m:Nat),a.length=m->(a++b).drop m=b:=λa b m hm=>by subst hm;exact List.drop_left
 have e:yr (ku h)=h:=by
  unfold yr;rw[yp,tl _ _ _ (aQ _ _ _),dl _ _ _ (aQ _ _ _),tl _ _ _ (aQ _ _ _),dl _ _ _ (aQ _ _ _),tl _ _ _ (aQ _ _ _),dl _ _ _ (aQ _ _ _),bU (by rw[aQ];omega)];rw[pP ⟨by omega,h2⟩,pP ⟨by omega,h4⟩,pP ⟨h5,by omega⟩,pP ⟨h7,h8⟩]
 unfold Iy;rw[e,ai ⟨qS h,h1,h2,h3,h4,h5,h6,h7,h8⟩]
def qR:Option gp->Value
 |none=>.tuple ⟨[.agg ⟨cu Fc⟩,.b false]⟩
 |some h=>.tuple ⟨[.agg ⟨cu h⟩,.b true]⟩
section
variable {W w:World} {L:LH} {k:Nat}
def G1{h:gp}{K:VK}(hs:St W w L)(hK:∀w',St W w' L->K (.b (decide (oo h))) w'):vJ (cu h) K w:=by
 unfold vJ;refine jh hs λr w hs=>?_;have hh:=hK w hs.drop;have no: ¬oo h->K (.b false) w:=λhn=>by rw[ao hn] at hh;exact hh
 apply cZ (k:=0) hs rfl rfl;simp only[nz,ae,af];refine fV (λh1=>?_) (λh1=>no (by unfold oo;omega));apply cZ (k:=0) hs rfl rfl;simp only[nz,ae,af];refine fV (λh2=>?_) (λh1=>no (by unfold oo;omega));apply cZ (k:=0) hs rfl rfl;simp only[nz,ae,af];refine fV (λh3=>?_) (λh1=>no (by unfold oo;omega));apply cZ (k:=0) hs rfl rfl;simp only[nz,ae,af];refine fV (λh4=>?_) (λh1=>no (by unfold oo;omega));apply cZ (k:=0) hs rfl rfl;simp only[nz,ae,af];refine fV (λh5=>?_) (λh1=>no (by unfold oo;omega));apply cZ (k:=0) hs rfl rfl;simp only[nz,ae,af];refine fV (λh6=>?_) (λh1=>no (by unfold oo;omega));apply cZ (k:=0) hs rfl rfl;simp only[nz,ae,af];refine fV (λh7=>?_) (λh1=>no (by unfold oo;omega));apply cZ (k:=0) hs rfl rfl;simp only[nz,ae,af];have:decide (h.seq<=1152921504606846976)=decide (oo h):=by rw[decide_eq_decide];unfold oo;omega
 rw[this];exact hh
def E1(h:gp):List UInt8×Int:=if oo h then(ku h,0) else([],1)
def MU{h:gp}{K:VK}(hs:St W w L)(hK:∀w',St W w' L->K (.tuple ⟨[.s (bs (E1 h).1),.i (E1 h).2]⟩) w'):wy (cu h) K w:=by
 unfold wy;refine jh hs λr w hs=>?_;refine kq (k:=0) (xs:=cu h) hs rfl rfl (λj v hj=>by rw[aB];exact hj) ?_;refine G1 hs λw hs=>?_;simp only[nz,ae,af];unfold E1 at hK;by_cases hg:oo h
 ·rw[ai hg] at hK;rw[aw hg];simp only[nz,ae,af];refine jh hs λp w hs=>?_;have hs:St W w (buf p []::pt r (cu h)::L):=by
   have h2:=(hs.push (A:=own none 0 0 1 (([]:List UInt8).map vZ)) (sA 1)).perm (cf.swap _ _ _);exact ve (k:=0) (L:=buf p []::pt r (cu h)::L) (A:=buf p []) rfl rfl h2
  apply cZ (k:=1) hs rfl rfl;simp only[nz,ae,af];apply cZ (k:=1) hs rfl rfl;simp only[nz,ae,af];apply cZ (k:=1) hs rfl rfl;simp only[nz,ae,af];apply cZ (k:=1) hs rfl rfl;simp only[nz,ae,af];refine⟨λus w'=>∃j:Nat,us=[.s .empty,.i 0,.p (ah p),.agg ⟨cu h⟩,.i j]/\j<=4/\St W w' (buf p ((ku h).take (8* j))::pt r (cu h)::L),
   λus _=>match us with|[_,_,_,_,.int _ j]=>4-j.toNat|_=>0,⟨0,rfl,aF _,hs⟩,?_⟩
  rintro s1 n5 a1 HW n6 w2 ⟨j,he,hj,hs⟩;cases he
  refine uA (λh0=>?_) (λh0=>?_)
  ·have hj4:j<4:=by have:=aR h0;omega
   have e5:=nI j;obtain⟨n,hn,gS⟩:∃n,(cu h)[(j:Int).toNat]?=some (.i n)/\(ku h).take (8* j)++le .i64 8 n=(ku h).take (8* (j+1)):=by
    have yp:ku h=le .i64 8 h.bu++(le .i64 8 h.number++(le .i64 8 h.size++le .i64 8 h.seq)):=by simp only[ku,aH]
    have ll:∀n,(le .i64 8 n).length=8:=λn=>aQ _ _ _
    match j,hj4 with
    |0,_=>exact⟨h.bu,rfl,by rw[yp,List.take_append_of_le_length (by rw[ll];omega),List.take_append_of_le_length (by rw[ll];omega),bU (l:=le .i64 8 h.bu) (i:=8* (0+1)) (by rw[ll];omega)];simp⟩
    |1,_=>exact⟨h.number,rfl,by simp only[ku,List.take_append,ll,av];simp[bU,ll]⟩
    |2,_=>exact⟨h.size,rfl,by simp only[ku,List.take_append,ll,av];simp[bU,ll]⟩
    |3,_=>exact⟨h.seq,rfl,by simp only[ku,List.take_append,ll,av];simp[bU,ll]⟩
   refine⟨.i n,⟨by omega,by omega,hn⟩,?_⟩;simp only[nz,ae,af];refine kG (k:=0) hs rfl (by rw[aD];omega) λw hs=>?_;rw[show(min2 (max2 8 1) 8).toNat=8 from rfl,gS] at hs;simp only[nz,ae,af] at hs⊢;rw[e5];exact⟨⟨j+1,rfl,by omega,hs⟩,by omega⟩
  ·have hj4:j=4:=by have:=bj h0;omega
   subst hj4;rw[bU (by rw[qS];omega)] at hs;apply nq (k:=0) hs rfl;simp only[nz,ae,af];exact hK w2 hs.drop.drop
 ·rw[ag hg] at hK;rw[ao hg];simp only[nz,ae,af];exact hK w hs.drop
end
def DG{l:List UInt8}{n j:Int}{d:BA}(h:mB l=some (n,j,d)):d.size<=104:=by
 unfold mB at h;split at h
 ·cases h
 split at h
 ·cases h
 split at h
 ·cases h
 split at h
 ·cases h
 split at h
 ·cases h
 split at h
 ·cases h
 rename_i h6;cases h
 exact(bp.1 h6).2.2.2.2
def nx(x:List UInt8×Bool):List UInt8×Bool:=if x.2=true\/x.1.length<8 then(x.1,true) else(x.1.drop 8,false)
def nv(x:List UInt8×Bool):Int:=if x.2=true\/x.1.length<8 then 0 else nK (x.1.take 8)
section
variable {W w:World} {L:LH} {k d:Nat} {D:aY}
def At{r:Nat}{x:List UInt8×Bool}{K:VK}(h:St W w L)(hk:L[k]?=some (Ej r (bs x.1) x.2))(hl:x.1.length<1099511627776)
 (hK:∀w',St W w' (L.set k (Ej r (bs (nx x).1) (nx x).2))->K (.i (nv x)) w'):aM (ah r) 8 K w:=by
 apply CD h hk;have em:min2 (max2 8 1) 8=((8:Nat):Int):=rfl;rw[em];obtain⟨l,t⟩:=x;unfold nx nv at hK;dsimp only at hK hl⊢;by_cases hc:t=true\/l.length<8
 ·rw[ai hc,ai hc] at hK;have et:tg (bs l) t ((8:Nat):Int)=true:=by
   unfold tg;rcases hc with h1|h1
   ·rw[h1];rfl
   ·rw[bV,aw (by omega)];simp
  unfold Ek zt;rw[et,ai rfl,ai rfl];exact hK
 ·rw[ag hc,ag hc] at hK;have ht:t=false:=by cases t<;>simp_all
  have et:tg (bs l) t ((8:Nat):Int)=false:=by
   unfold tg;rw[ht,bV,ao (by omega)];rfl
  unfold Ek zt;rw[et,ak,pv,pr];exact hK
def Nf{r:Nat}{x:List UInt8×Bool}{K:VK}(h:St W w L)(hk:L[k]?=some (Ej r (bs x.1) x.2))(hK:K (.b (!x.2&&decide (x.1=[]))) w):kE (ah r) K w:=by
 unfold Ej at hk;unfold kE;simp only[nz,ae,af];apply cZ h hk rfl;simp only[nz,ae,af];obtain⟨l,t⟩:=x;cases t with
 |true=>exact hK
 |false=>
  simp only[nz,ae,af];apply cZ h hk rfl;simp only[nz,ae,af];have hem:(⟨#[]⟩:BA)=bs []:=rfl;have e:decide (bs l=bs [])=decide (l=[]):=by rw[decide_eq_decide];exact Bj
  rw[tB,hem,e];exact hK
def EM{x:List UInt8×Bool}(h:(nx x).2=false):x.2=false/\8<=x.1.length/\(nx x).1.length+8=x.1.length:=by
 unfold nx at h⊢;by_cases hc:x.2=true\/x.1.length<8
 ·rw[ai hc] at h;cases h
 ·rw[ag hc];have h1:x.2=false:=by cases hx:x.2 with
   |true=>exact aT (.inl hx) hc
   |false=>rfl
  have h2:8<=x.1.length:=by
   by_cases hh:8<=x.1.length
   ·exact hh
   ·exact aT (.inr (by omega)) hc
  refine⟨h1,h2,?_⟩;show(x.1.drop 8).length+8=x.1.length;rw[aS];omega
def XQ{l:List UInt8}(h:l.length≠32):(!(nx (nx (nx (nx (l,false))))).2&&decide ((nx (nx (nx (nx (l,false))))).1=[]))=false:=by
 cases h4:(nx (nx (nx (nx (l,false))))).2 with
 |true=>rfl
 |false=>
  obtain⟨b3,c3,d3⟩:=EM h4;obtain⟨b2,c2,d2⟩:=EM b3;obtain⟨b1,c1,d1⟩:=EM b2;obtain⟨b0,c0,d0⟩:=EM b1;have kJ:(nx (nx (nx (nx (l,false))))).1≠[]:=λhe=>by
   rw[he,cR] at d3;dsimp only at d0;omega
  rw[ao kJ];rfl
def abb{l:List UInt8}(h:l.length=32):nx (l,false)=(l.drop 8,false)/\nx (l.drop 8,false)=((l.drop 8).drop 8,false)/\nx ((l.drop 8).drop 8,false)=(((l.drop 8).drop 8).drop 8,false)/\nx (((l.drop 8).drop 8).drop 8,false)=([],false)/\
 nv (l,false)=nK (l.take 8)/\nv (l.drop 8,false)=nK ((l.drop 8).take 8)/\nv ((l.drop 8).drop 8,false)=nK (((l.drop 8).drop 8).take 8)/\nv (((l.drop 8).drop 8).drop 8,false)=nK ((((l.drop 8).drop 8).drop 8).take 8):=by
 have l1:(l.drop 8).length=24:=by rw[aS];omega
 have l2:((l.drop 8).drop 8).length=16:=by rw[aS,l1]
 have l3:(((l.drop 8).drop 8).drop 8).length=8:=by rw[aS,l2]
 have l4:(((l.drop 8).drop 8).drop 8).drop 8=[]:=List.drop_eq_nil_iff.2 (by omega);unfold nx nv;refine⟨?_,?_,?_,?_,?_,?_,?_,?_⟩
 ·rw[ag (by simp;omega)]
 ·rw[ag (by simp only[cM,false_or];omega)]
 ·rw[ag (by simp only[cM,false_or];omega)]
 ·rw[ag (by simp only[cM,false_or];omega),l4]
 ·rw[ag (by simp;omega)]
 ·rw[ag (by simp only[cM,false_or];omega)]
 ·rw[ag (by simp only[cM,false_or];omega)]
 ·rw[ag (by simp only[cM,false_or];omega)]
def Ob(x:List UInt8×Bool):(nx x).1.length<=x.1.length:=by unfold nx;split<;>simp
def OR{l:List UInt8}{K:VK}(hs:St W w L)(hl:l.length<1099511627776)(hK:∀w',St W w' L->K (qR (Iy l)) w'):yy (bs l) K w:=by
 unfold yy;refine jh hs λr1 w hs=>?_;refine tA hs λq w hs=>?_;simp only[nz,ae,af];have n1:=Ob (l,false);have n2:=Ob (nx (l,false));have n3:=Ob (nx (nx (l,false)));dsimp only at n1;refine At (k:=0) (x:=(l,false)) hs rfl hl λw hs=>?_;simp only[nz,ae,af] at hs⊢;refine At (k:=0) (x:=nx (l,false)) hs rfl (by omega) λw hs=>?_;simp only[nz,ae,af] at hs⊢;refine At (k:=0) (x:=nx (nx (l,false))) hs rfl (by omega) λw hs=>?_;simp only[nz,ae,af] at hs⊢;refine At (k:=0) (x:=nx (nx (nx (l,false)))) hs rfl (by omega) λw hs=>?_;simp only[nz,ae,af] at hs⊢;refine jh hs λr2 w hs=>?_;refine⟨by simp,?_⟩;refine kk (k:=0) hs rfl (aK rfl) (by simp[Value.oneCell']) λw hs=>?_;rw[iR (by simp)] at hs;simp only[nz,ae,af] at hs;apply Nf (k:=1) (x:=nx (nx (nx (nx (l,false))))) hs rfl;simp only[nz,ae,af];have fail:∀w A B,(∀w',St W w' L->K (qR none) w')->St W w (A::B::pt r1 [.i 0,.i 0,.i 0,.i 0]::L)->jY ⟨r1,0,none⟩ [.i 0,.i 0,.i 0,.i 0] (aJ ⟨r1,0,none⟩ 4 λcs=>K (.tuple ⟨[.agg ⟨cs⟩,.b false]⟩)) w:=λw A B hK hs=>by
  refine kk (k:=2) hs rfl (aK rfl) (by simp[Value.oneCell']) λw hs=>?_;rw[iR (by simp)] at hs;refine kq (k:=2) (xs:=[.i 0,.i 0,.i 0,.i 0]) hs rfl rfl (λj v hj=>by rw[aB];exact hj) ?_;exact hK w hs.drop.drop.drop
 unfold Iy at hK;by_cases h32:l.length=32
 ·obtain⟨a1,a2,a3,a4,b1,b2,b3,b4⟩:=abb h32;rw[a1,a2,a3,a4] at hs⊢;rw[b1,b2,b3,b4] at hs;have ee:(!((([]:List UInt8),false):List UInt8×Bool).2&&decide ((((([]:List UInt8),false):List UInt8×Bool)).1=[]))=true:=by decide
  rw[ee];simp only[nz,ae,af];have hs:St W w (pt r2 (cu (yr l))::Ej q (bs []) false::pt r1 [.i 0,.i 0,.i 0,.i 0]::L):=hs;refine kq (k:=0) (xs:=cu (yr l)) hs rfl rfl (λj v hj=>by rw[aB];exact hj) ?_;refine G1 hs λw hs=>?_;simp only[nz,ae,af];by_cases hg:oo (yr l)
  ·rw[ai ⟨h32,hg⟩] at hK;rw[aw hg];simp only[nz,ae,af];refine kq (k:=0) (xs:=cu (yr l)) hs rfl rfl (λj v hj=>by rw[aB];exact hj) ?_;refine⟨rfl,?_⟩;refine kk (k:=2) hs rfl (aK rfl) (by simp[Value.oneCell',cu]) λw hs=>?_;rw[iR (by simp[cu])] at hs;simp only[nz,ae,af] at hs;refine kq (k:=2) (xs:=cu (yr l)) hs rfl rfl (λj v hj=>by rw[aB];exact hj) ?_;exact hK w hs.drop.drop.drop
  ·rw[ag (λhh=>hg hh.2)] at hK;rw[ao hg];simp only[nz,ae,af];exact fail w _ _ hK hs
 ·rw[ag (λhh=>h32 hh.1)] at hK;rw[XQ h32];simp only[nz,ae,af];exact fail w _ _ hK hs
def Bl(D:aY)(i:Nat):Option gp:=
 match mB (D.read (i:Int)).1.data.toList with
 |none=>none
 |some (_,j,d)=>if(D.read (i:Int)).2≠0\/j≠0 then none else match Iy d.data.toList with
  |none=>none
  |some h=>if low h.bu≠i then none else some h
def QP{i:Nat}{K:VK}(hs:St W w L)(hk:L[k]?=some (gN d D))(iz:D.Ok)(hK:∀w',St W w' L->K (qR (Bl D i)) w'):pV (ah d) i K w:=by
 unfold pV;refine jh hs λr1 w hs=>?_;have WL:(pt r1 [.i 0,.i 0,.i 0,.i 0]::L)[k+1]?=some (gN d D):=by rw[bX];exact hk
 apply sW (k:=k+1) hs WL iz;simp only[nz,ae,af];have fail:∀w A,(∀w',St W w' L->K (qR none) w')->St W w (A::pt r1 [.i 0,.i 0,.i 0,.i 0]::L)->jY ⟨r1,0,none⟩ [.i 0,.i 0,.i 0,.i 0] (aJ ⟨r1,0,none⟩ 4 λcs=>K (.tuple ⟨[.agg ⟨cs⟩,.b false]⟩)) w:=λw A hK hs=>by
  refine kk (k:=1) hs rfl (aK rfl) (by simp[Value.oneCell']) λw hs=>?_;rw[iR (by simp)] at hs;refine kq (k:=1) (xs:=[.i 0,.i 0,.i 0,.i 0]) hs rfl rfl (λj v hj=>by rw[aB];exact hj) ?_;exact hK w hs.drop.drop
 have QD:∀w r2 A,(∀w',St W w' L->K (qR none) w')->St W w (A::pt r1 [.i 0,.i 0,.i 0,.i 0]::L)->pV.j1 K r1 r2 i true w:=λw r2 A hK hs=>by
  unfold pV.j1;simp only[nz,ae,af];exact fail w A hK hs
 have hxs:(D.read (i:Int)).1.size<1099511627776:=by
  by_cases hi:D.is (i:Int)
  ·have:=zZ iz hi;omega
  ·unfold aY.read;rw[ag hi];decide
 unfold Bl at hK;generalize hx:(D.read (i:Int)).1=x at *;generalize he:(D.read (i:Int)).2=e at *;rw[show x=bs x.data.toList from rfl];refine Dt hs (by rw[eW];exact hxs) λw hs=>?_;cases hv:mB x.data.toList with
 |none=>
  rw[hv] at hK;unfold uV;simp only[nz,ae,af];simp only[yM,bE,cR,aB,ae,true_and];simp only[nz,ae,af];refine jh hs λr2 w hs=>?_;refine⟨trivial,kk (k:=0) hs rfl (aK rfl) (by simp[Value.oneCell']) λw hs=>?_⟩;simp only[nz,ae,af] at hs;refine vO (λ_=>QD w r2 _ hK hs) (λ_=>?_);exact QD w r2 _ hK hs
 |some y=>
  obtain⟨m,j,dd⟩:=y;rw[hv] at hK;dsimp only at hK;unfold uV;simp only[nz,ae,af];simp only[yM,bE,cR,aB,ae,true_and];simp only[nz,ae,af];refine jh hs λr2 w hs=>?_;refine⟨trivial,kk (k:=0) hs rfl (aK rfl) (by simp[Value.oneCell']) λw hs=>?_⟩;rw[iR (by simp)] at hs;simp only[nz,ae,af] at hs;refine vO (λkJ=>?_) (λh0=>?_)
  ·rw[ai (.inl kJ)] at hK;exact QD w r2 _ hK hs
  apply cZ (k:=0) hs rfl rfl;simp only[nz,ae,af];by_cases hj:j=0
  ·rw[ag (by rintro(h|h);exact h h0;exact h hj)] at hK;have ej:(j !=0)=false:=by simp[hj]
   rw[ej];unfold pV.j1;simp only[nz,ae,af];apply cZ (k:=0) hs rfl rfl;simp only[nz,ae,af];rw[show dd=bs dd.data.toList from rfl];refine OR hs (by
    rw[eW]
    have:=(DG hv)
    omega) λw hs=>?_
   cases hh:Iy dd.data.toList with
   |none=>
    rw[hh] at hK;unfold qR;simp only[nz,ae,af];simp only[yM];refine⟨rfl,?_⟩;simp only[nz,ae,af];refine jh hs λr3 w hs=>?_;refine⟨by simp[cu],kk (k:=0) hs rfl (aK rfl) (by simp[Value.oneCell',cu]) λw hs=>?_⟩;rw[iR (by simp[cu])] at hs;simp only[nz,ae,af] at hs;refine⟨trivial,by simp,?_⟩;refine kk (k:=2) hs rfl (aK rfl) (by simp[Value.oneCell']) λw hs=>?_;rw[iR (by simp)] at hs;simp only[nz,ae,af] at hs;refine kq (k:=2) (xs:=[.i 0,.i 0,.i 0,.i 0]) hs rfl rfl (λj v hj=>by rw[aB];exact hj) ?_;exact hK w hs.drop.drop.drop
   |some hd=>
    rw[hh] at hK;dsimp only at hK;unfold qR;simp only[nz,ae,af];simp only[yM];refine⟨rfl,?_⟩;simp only[nz,ae,af];refine jh hs λr3 w hs=>?_;refine⟨by simp[cu],kk (k:=0) hs rfl (aK rfl) (by simp[Value.oneCell',cu]) λw hs=>?_⟩;rw[iR (by simp[cu])] at hs;simp only[nz,ae,af] at hs;apply cZ (k:=0) hs rfl rfl;simp only[nz,ae,af];refine vO (λkJ=>?_) (λheq=>?_)
    ·rw[ai (show low hd.bu≠(i:Int) from kJ)] at hK;refine⟨trivial,by simp,?_⟩;refine kk (k:=2) hs rfl (aK rfl) (by simp[Value.oneCell']) λw hs=>?_;rw[iR (by simp)] at hs;simp only[nz,ae,af] at hs;refine kq (k:=2) (xs:=[.i 0,.i 0,.i 0,.i 0]) hs rfl rfl (λj v hj=>by rw[aB];exact hj) ?_;exact hK w hs.drop.drop.drop
    ·rw[ag (show ¬low hd.bu≠(i:Int) from λhh=>hh heq)] at hK;refine kq (k:=0) (xs:=cu hd) hs rfl rfl (λj v hj=>by rw[aB];exact hj) ?_;refine⟨rfl,?_⟩;refine kk (k:=2) hs rfl (aK rfl) (by simp[Value.oneCell',cu]) λw hs=>?_;rw[iR (by simp[cu])] at hs;simp only[nz,ae,af] at hs;refine kq (k:=2) (xs:=cu hd) hs rfl rfl (λj v hj=>by rw[aB];exact hj) ?_;exact hK w hs.drop.drop.drop
  ·rw[ai (.inr hj)] at hK;have ej:(j !=0)=true:=by simp[hj]
   rw[ej];exact QD w r2 _ hK hs
end
def eV(n:Nat)(x:List UInt8×Bool):List UInt8×Bool:=if x.2=true\/x.1.length<n then(x.1,true) else(x.1.drop n,false)
def jm(n:Nat)(x:List UInt8×Bool):Int:=if x.2=true\/x.1.length<n then 0 else nK (x.1.take n)
def J3(x:List UInt8×Bool):0<=jm 4 x/\jm 4 x<4294967296:=by
 unfold jm;split
 ·omega
 ·have h1:=sq (x.1.take 4);have h2:(x.1.take 4).length<=4:=by rw[aD];omega
  have h3:256^(x.1.take 4).length<=256^4:=gO (by decide) h2;have h4:(256:Nat)^4=4294967296:=rfl;rw[oy (by omega)];omega
def dv(seq:Int)(s:BA):List UInt8:=le .i64 8 seq++le .i64 4 s.size++s.data.toList
def AN(seq:Int)(s:BA):(dv seq s).length=12+s.size:=by
 simp only[dv,av,aQ];rfl
def mC(D:aY)(at' toX seq:Int):Option (List UInt8×Int):=
 if toX<=at' then none else match mB (D.read at').1.data.toList with
 |none=>none
 |some (m,j,d)=>
  if j≠0\/jm 8 (d.data.toList,false)≠seq then none
  else if(eV 4 (eV 8 (d.data.toList,false))).2=true\/32768<jm 4 (eV 8 (d.data.toList,false)) then none
  else match take D at' toX m (12+jm 4 (eV 8 (d.data.toList,false))) with
  |none=>none
  |some t=>some (t.drop 12,at'+(gH (12+jm 4 (eV 8 (d.data.toList,false))).toNat:Int))
def B7:Option (List UInt8×Int)->Value
 |none=>.tuple ⟨[.s .empty,.i 0,.b false]⟩
 |some (l,a)=>.tuple ⟨[.s (bs l),.i a,.b true]⟩
def BE{D:aY}{at' number:Int}{size:Nat}:∀(n i:Nat) {t:List UInt8},nF D at' number size i n=some t->104* i<=size->size<=104* (i+n)->t.length=size-104* i
 |0,i,t,h,h1,h2=>by
  simp only[nF,bA.injEq] at h;subst h;simp;omega
 |n+1,i,t,h,h1,h2=>by
  rw[py] at h;split at h
  ·cases h
  ·rename_i m j d hv;split at h
   ·rename_i hc;cases ht:nF D at' number size (i+1) n with
    |none=>rw[ht] at h;cases h
    |some u=>
     rw[ht] at h;simp only[fm,bA.injEq] at h;subst h;have hd:d.data.toList.length=d.size:=rfl;by_cases h3:104* (i+1)<=size
     ·have:=BE n (i+1) ht h3 (by omega);rw[av,this,hd,hc.2.2];omega
     ·
      have hz:∀(n i:Nat) {u:List UInt8},nF D at' number size i n=some u->size<=104* i->u.length=0:=by
       intro n
       induction n with
       |zero=>intro i u h _;simp only[nF,bA.injEq] at h;subst h;rfl
       |succ n ih=>
        intro i u h hle;rw[py] at h;split at h
        ·cases h
        ·rename_i m j d hv;split at h
         ·rename_i hc;cases ht:nF D at' number size (i+1) n with
          |none=>rw[ht] at h;cases h
          |some v=>
           rw[ht] at h;simp only[fm,bA.injEq] at h;subst h;have:=ih (i+1) ht (by omega);have hd:d.data.toList.length=d.size:=rfl;rw[av,this,hd,hc.2.2];omega
         ·cases h
      have:=hz n (i+1) ht (by omega);rw[av,this,hd,hc.2.2];omega
   ·cases h
def take_length{D:aY}{at' toX number size:Int}{t:List UInt8}(h:take D at' toX number size=some t):(t.length:Int)=size/\0<=at'/\at'+(gH size.toNat:Int)<=toX/\toX<=(D.safe.length:Int)/\0<=size:=by
 unfold take at h;split at h
 ·cases h
 ·rename_i hc;have hs:size.toNat<=104* gH size.toNat:=by unfold gH;split<;>omega
  have:=BE (gH size.toNat) 0 h (by omega) (by omega);omega
section
variable {W w:World} {L:LH} {k d:Nat} {D:aY}
def As{r n:Nat}{x:List UInt8×Bool}{K:VK}(h:St W w L)(hk:L[k]?=some (Ej r (bs x.1) x.2))(hl:x.1.length<1099511627776)(hn:1<=n/\n<=8)
 (hK:∀w',St W w' (L.set k (Ej r (bs (eV n x).1) (eV n x).2))->K (.i (jm n x)) w'):aM (ah r) (n:Int) K w:=by
 refine CD h hk ?_;have em:min2 (max2 (n:Int) 1) 8=((n:Nat):Int):=by unfold min2 max2;split<;>split<;>omega
 rw[em];obtain⟨l,t⟩:=x;unfold eV jm at hK;dsimp only at hK hl⊢;by_cases hc:t=true\/l.length<n
 ·rw[ai hc,ai hc] at hK;have et:tg (bs l) t ((n:Nat):Int)=true:=by
   unfold tg;rcases hc with h1|h1
   ·rw[h1];rfl
   ·rw[bV,aw (by omega)];simp
  unfold Ek zt;rw[et,ai rfl,ai rfl];exact hK
 ·rw[ag hc,ag hc] at hK;have ht:t=false:=by cases t<;>simp_all
  have et:tg (bs l) t ((n:Nat):Int)=false:=by
   unfold tg;rw[ht,bV,ao (by omega)];rfl
  unfold Ek zt;rw[et,ak,pv,pr];exact hK
def Gr{r:Nat}{s:BA}{t:Bool}{K:VK}(h:St W w L)(hk:L[k]?=some (Ej r s t))(hK:K (.b t) w):cK (ah r) K w:=by
 unfold Ej at hk;unfold cK;simp only[nz,ae,af];refine cZ h hk rfl ?_;simp only[nz,ae,af];exact hK
def tS(n:Nat)(x:List UInt8×Bool):(eV n x).1.length<=x.1.length:=by unfold eV;split<;>simp
def RD{at' toX seq:Int}{K:VK}(h:St W w L)(hk:L[k]?=some (gN d D))(iz:D.Ok)(Ak:0<=at')(WC:toX<=(D.safe.length:Int))
 (hK:∀w',St W w' L->K (B7 (mC D at' toX seq)) w'):fY (ah d) at' toX seq K w:=by
 have xu:=iz.oJ;unfold mC at hK;unfold fY;refine fV (λh1=>?_) (λh1=>?_)
 ·rw[ai (by omega)] at hK;exact hK w h
 rw[ag (by omega)] at hK;refine sW h hk iz ?_;simp only[nz,ae,af];have qc:=zZ iz (i:=at') ⟨by omega,by omega⟩;generalize hx:(D.read at').1=X at *;rw[show X=bs X.data.toList from rfl];refine Dt h (by rw[eW];omega) λw h=>?_;cases hv:mB X.data.toList with
 |none=>
  rw[hv] at hK;unfold uV;simp only[nz,ae,af];simp only[yM,bE,cR,aB,ae,true_and];simp only[nz,ae,af];refine jh h λr1 w h=>?_;refine⟨trivial,kk (k:=0) h rfl (aK rfl) (by simp[Value.oneCell']) λw h=>?_⟩;rw[iR (by simp)] at h;simp only[nz,ae,af] at h;refine cZ (k:=0) h rfl rfl ?_;simp only[nz,ae,af];refine tA h λq w h=>?_;simp only[nz,ae,af];refine As (k:=0) (n:=8) (x:=([],false)) h rfl (by decide) (by decide) λw h=>?_;simp only[nz,ae,af] at h⊢;unfold fY.j1;simp only[nz,ae,af];exact hK w h.drop.drop
 |some y=>
  obtain⟨m,j,dd⟩:=y;rw[hv] at hK;dsimp only at hK;have hdd:=DG hv;have Bu:dd.data.toList.length=dd.size:=rfl;unfold uV;simp only[nz,ae,af];simp only[yM,bE,cR,aB,ae,true_and];simp only[nz,ae,af];refine jh h λr1 w h=>?_;refine⟨trivial,kk (k:=0) h rfl (aK rfl) (by simp[Value.oneCell']) λw h=>?_⟩;rw[iR (by simp)] at h;simp only[nz,ae,af] at h;refine cZ (k:=0) h rfl rfl ?_;simp only[nz,ae,af];rw[show dd=bs dd.data.toList from rfl];refine tA h λq w h=>?_;simp only[nz,ae,af];have n1:=tS 8 (dd.data.toList,false);dsimp only at n1;refine As (k:=0) (n:=8) (x:=(dd.data.toList,false)) h rfl (by dsimp only;omega) (by decide) λw h=>?_;simp only[nz,ae,af] at h⊢;refine cZ (k:=1) h rfl (v:=.i j) rfl ?_;simp only[nz,ae,af];have stop:∀w,(∀w',St W w' L->K (B7 none) w')->St W w (Ej q (bs (eV 8 (dd.data.toList,false)).1) (eV 8 (dd.data.toList,false)).2::pt r1 [.i m,.i j,.s (bs dd.data.toList)]::L)->fY.j1 K (ah q) r1 (ah d) at' toX true w:=λw hK h=>by
   unfold fY.j1;simp only[nz,ae,af];exact hK w h.drop.drop
  refine vO (λhj=>?_) (λhj=>?_)
  ·rw[ai (.inl hj)] at hK;exact stop w hK h
  by_cases hq:jm 8 (dd.data.toList,false)=seq
  ·rw[ag (by rintro(hh|hh);exact hh hj;exact hh hq)] at hK;have eb:(jm 8 (dd.data.toList,false)!=seq)=false:=by rw[hq];exact bne_self_eq_false seq
   rw[eb];unfold fY.j1;simp only[nz,ae,af];refine As (k:=0) (n:=4) (x:=eV 8 (dd.data.toList,false)) h rfl (by omega) (by decide) λw h=>?_;simp only[nz,ae,af] at h⊢;refine Gr (k:=0) h rfl ?_;simp only[nz,ae,af];have xt:=J3 (eV 8 (dd.data.toList,false));generalize hz:eV 4 (eV 8 (dd.data.toList,false))=z at *;generalize hn6:jm 4 (eV 8 (dd.data.toList,false))=n6 at *;have ZN:∀w,(∀w',St W w' L->K (B7 none) w')->St W w (Ej q (bs z.1) z.2::pt r1 [.i m,.i j,.s (bs dd.data.toList)]::L)->fY.j2 K r1 (ah d) at' toX n6 true w:=λw hK h=>by
    unfold fY.j2;simp only[nz,ae,af];exact hK w h.drop.drop
   refine uA (λht=>?_) (λht=>?_)
   ·rw[ai (.inl ht)] at hK;exact ZN w hK h
   by_cases hm:32768<n6
   ·rw[ai (.inr hm)] at hK;rw[aw hm];exact ZN w hK h
   ·rw[ag (by rintro(hh|hh);(rw[ht] at hh;cases hh);exact hm hh)] at hK;rw[ao hm];unfold fY.j2;simp only[nz,ae,af];refine cZ (k:=1) h rfl (v:=.i m) rfl ?_;simp only[nz,ae,af];have ew:aa.wrap (12+n6)=12+n6:=aX (by omega);rw[ew];refine Jt (k:=k+2) h (by rw[bX,bX];exact hk) iz λw h=>?_;cases ht:take D at' toX m (12+n6) with
    |none=>
     rw[ht] at hK;unfold tR;simp only[nz,ae,af];exact hK w h.drop.drop
    |some t=>
     rw[ht] at hK;dsimp only at hK;obtain⟨l1,l2,l3,l4,l5⟩:=take_length ht;unfold tR;simp only[nz,ae,af];refine mK h λw h=>?_;unfold mT;refine⟨⟨by omega,by rw[bV];omega⟩,?_⟩;rw[show(12:Int).toNat=12 from rfl,pr];obtain⟨p,hp⟩:=bh (show 0<=12+n6 by omega);rw[hp] at hK⊢l3;refine rW (by omega) ?_;simp only[nz,ae,af];rw[ak] at hK l3;have ew2:aa.wrap (at'+(gH p:Int))=at'+(gH p:Int):=aX (by omega);rw[ew2];exact hK w h.drop.drop
  ·rw[ai (.inr hq)] at hK;have eb:(jm 8 (dd.data.toList,false)!=seq)=true:=by simp[hq]
   rw[eb];exact stop w hK h
def OB{seq:Int}{s:BA}{K:VK}(h:St W w L)(hs:s.size<=1000000)(hK:∀w',St W w' L->K (.s (bs (dv seq s))) w'):tU seq s K w:=by
 have hd:s.data.toList.length=s.size:=rfl;unfold tU;refine⟨trivial,?_⟩;refine jh h λp w hs=>?_;have hs:St W w (buf p []::L):=by
  have h2:=(hs.push (A:=own none 0 0 1 (([]:List UInt8).map vZ)) (sA 1)).perm (cf.swap _ _ _);exact ve (k:=0) (L:=buf p []::L) (A:=buf p []) rfl rfl h2
 refine kG (k:=0) hs rfl (by simp) λw hs=>?_;rw[show(min2 (max2 8 1) 8).toNat=8 from rfl] at hs;simp only[nz,ae,af] at hs⊢;refine kG (k:=0) hs rfl (by simp only[av,aQ,cR];omega) λw hs=>?_;rw[show(min2 (max2 4 1) 8).toNat=4 from rfl] at hs;simp only[nz,ae,af] at hs⊢;refine rK (k:=0) hs rfl (by simp only[av,aQ,cR];omega) λw hs=>?_;simp only[nz,ae,af] at hs⊢;refine nq (k:=0) hs rfl ?_;simp only[nz,ae,af];rw[cQ];exact hK w hs.drop
structure PJ where
 lo:Int
 hi:Int
 at':Int
 seq:Int
 dK:Bool
def sG(d:Nat)(J:PJ):LV:=[.p (ah d),.i J.lo,.i J.hi,.i J.at',.i J.seq,.b J.dK]
structure PJ.Ok(J:PJ)(D:aY):Prop where
 lo:0<=J.lo
 Ey:J.lo<=J.at'
 QQ:J.at'<=J.hi
 hi:J.hi<=(D.safe.length:Int)
 seq:0<=J.seq/\J.seq<=1152921504606850000
def room(J:PJ)(n:Int):Prop:=0<=n/\n<=32768/\(gH (12+n.toNat):Int)<=J.hi-J.at'
instance(J:PJ)(n:Int):Decidable (room J n):=by unfold room;infer_instance
def Dn(J:PJ)(s:BA)(R:aY×Int):aY×PJ×Int:=
 if R.2≠0 then(R.1,{J with dK:=true},R.2) else(R.1,{J with at':=J.at'+(gH (12+s.size):Int),seq:=J.seq+1},0)
def uO(D:aY)(J:PJ)(number:Int)(s:BA):aY×PJ×Int:=
 if J.dK=true then(D,J,9)
 else if number<1\/1152921504606846976<number then(D,J,1)
 else if ¬room J s.size\/1152921504606846976<=J.seq then(D,J,6)
 else Dn J s (eY D J.at' J.hi number (bs (dv (J.seq+1) s)))
section
variable {r:Nat} {J:PJ}
def V7{K:VK}(h:St W w L)(hk:L[k]?=some (pt r (sG d J)))(hK:K (.i J.seq) w):kA (ah r) K w:=by
 unfold kA;simp only[nz,ae,af];refine cZ h hk rfl ?_;simp only[nz,ae,af];exact hK
def KC{K:VK}(h:St W w L)(hk:L[k]?=some (pt r (sG d J)))(hK:∀w',St W w' (L.set k (pt r (sG d {J with at':=J.lo})))->K (.tuple ⟨[]⟩) w'):jR (ah r) K w:=by
 unfold jR;simp only[nz,ae,af];refine cZ h hk rfl ?_;simp only[nz,ae,af];refine pn h hk (aK rfl) rfl λw h=>?_;exact hK w h
def Gs{n:Int}{K:VK}(h:St W w L)(hk:L[k]?=some (pt r (sG d J)))(hJ:J.Ok D)(iz:D.Ok)(hK:∀w',St W w' L->K (.b (decide (room J n))) w'):jQ (ah r) n K w:=by
 have xu:=iz.oJ;obtain⟨j1,j2,j3,j4,j5⟩:=hJ;unfold jQ;refine mK h λw h=>?_;have hh:=hK w h;have no: ¬room J n->K (.b false) w:=λhn=>by rw[ao hn] at hh;exact hh
 simp only[nz,ae,af];refine fV (λh1=>?_) (λh1=>no (λhr=>by have:=hr.1;omega));refine fV (λh2=>?_) (λh2=>no (λhr=>by have:=hr.2.1;omega));refine cZ h hk rfl ?_;simp only[nz,ae,af];refine cZ h hk rfl ?_;simp only[nz,ae,af];obtain⟨m,rfl⟩:=bh (show 0<=n by omega);have ew:aa.wrap (12+(m:Int))=((12+m:Nat):Int):=by rw[aX (by omega)];omega
 rw[ew];refine rW (by omega) ?_;simp only[nz,ae,af];refine kI h hk rfl ?_;refine kI h hk rfl ?_;have ew2:aa.wrap (J.hi-J.at')=J.hi-J.at':=aX (by omega);rw[ew2];have:decide ((gH (12+m):Int)<=J.hi-J.at')=decide (room J m):=by
  rw[decide_eq_decide];unfold room;rw[ak];omega
 rw[this];exact hh
def RO{k2:Nat}{number:Int}{s:BA}{K:VK}(h:St W w L)(hk:L[k]?=some (pt r (sG d J)))(td:L[k2]?=some (gN d D))(kJ:k≠k2)(hJ:J.Ok D)(iz:D.Ok)(hl:D.later.length<1000000)(hs:s.size<=reachBytes)
 (hK:∀w',St W w' ((L.set k2 (gN d (uO D J number s).1)).set k (pt r (sG d (uO D J number s).2.1)))->K (.i (uO D J number s).2.2) w'):cx (ah r) number s K w:=by
 have fF:s.size<=140737488351232:=hs;have xu:=iz.oJ;obtain⟨j1,j2,j3,j4,j5⟩:=hJ;have hJ:J.Ok D:=⟨j1,j2,j3,j4,j5⟩;have same:∀e,uO D J number s=(D,J,e)->∀w,St W w L->K (.i e) w:=λe he w h=>by
  have:=hK w;rw[he] at this;refine this ?_;rw[nW td,nW hk];exact h
 unfold cx;simp only[nz,ae,af];refine cZ h hk rfl ?_;simp only[nz,ae,af];refine uA (λYb=>same 9 (by unfold uO;rw[ai Yb]) w h) (λYb=>?_);have abp: ¬J.dK=true:=by rw[Yb];exact rY
 have bad:(number<1\/1152921504606846976<number)->cx.j1 K (ah r) s number true w:=λhb=>by
  unfold cx.j1;simp only[nz,ae,af];exact same 1 (by unfold uO;rw[ag abp,ai hb]) w h
 refine fV (λh1=>bad (.inl h1)) (λh1=>?_);by_cases h2:1152921504606846976<number
 ·rw[aw h2];exact bad (.inr h2)
 rw[ao h2];have hnb: ¬(number<1\/1152921504606846976<number):=by omega
 unfold cx.j1;simp only[nz,ae,af];refine Gs h hk hJ iz λw h=>?_;have full:(¬room J s.size\/1152921504606846976<=J.seq)->∀w,St W w L->cx.j2 K (ah r) s number true w:=λhb w h=>by
  unfold cx.j2;simp only[nz,ae,af];exact same 6 (by unfold uO;rw[ag abp,ag hnb,ai hb]) w h
 simp only[nz,ae,af];by_cases hr:room J s.size
 case neg=>
  rw[ao hr];simp only[nz,ae,af];exact full (.inl hr) w h
 rw[aw hr];simp only[nz,ae,af];refine cZ h hk rfl ?_;simp only[nz,ae,af];by_cases Et:1152921504606846976<=J.seq
 ·have:decide (J.seq>=1152921504606846976)=true:=aw Et;rw[this];exact full (.inr Et) w h
 have e0:decide (J.seq>=1152921504606846976)=false:=ao Et;rw[e0];unfold uO at hK;rw[ag abp,ag hnb,ag (by rintro(hh|hh);exact hh hr;exact Et hh)] at hK;unfold cx.j2;simp only[nz,ae,af];refine mK h λw h=>?_;refine cZ h hk rfl ?_;simp only[nz,ae,af];refine cZ h hk rfl ?_;simp only[nz,ae,af];refine cZ h hk rfl ?_;simp only[nz,ae,af];refine cZ h hk rfl ?_;simp only[nz,ae,af];have ew:aa.wrap (J.seq+1)=J.seq+1:=aX (by omega);rw[ew];refine OB h (by have:=hr.2.1;omega) λw h=>?_;simp only[nz,ae,af];refine kI h hk rfl ?_;refine kI h hk rfl ?_;refine kI h hk rfl ?_;refine kI h hk rfl ?_;have Cj:(bs (dv (J.seq+1) s)).size=12+s.size:=by rw[bV,AN]
 have Nk:=hr.2.1;refine Hi (k:=k2) h td iz (by omega) (by rw[Cj];show _<=140737488351232;omega) λw h=>?_;simp only[nz,ae,af];have hcn:gH (12+s.size)<=400:=by unfold gH;split<;>omega
 have R1:=(J6 (at':=J.at') (toX:=J.hi) (number:=number) (s:=bs (dv (J.seq+1) s)) iz (by rw[Cj];omega)).1;have Bt:(L.set k2 (gN d (lay D J.at' J.hi number (bs (dv (J.seq+1) s))).1))[k]?=some (pt r (sG d J)):=by rw[Pc (λhh=>kJ hh.symm)];exact hk
 refine kI h Bt rfl ?_;unfold eY at hK;generalize hL:lay D J.at' J.hi number (bs (dv (J.seq+1) s))=R at *;obtain⟨D1,e1⟩:=R;dsimp only at h R1 Bt hK⊢;have fin:∀(R:aY×Int) w,(∀w',St W w' ((L.set k2 (gN d (Dn J s R).1)).set k (pt r (sG d (Dn J s R).2.1)))->K (.i (Dn J s R).2.2) w')->
  St W w (L.set k2 (gN d R.1))->cx.j3 K (ah r) s R.2 w:=λR w hK h=>by
  unfold Dn at hK;obtain⟨D2,e2⟩:=R;dsimp only at hK h⊢;have hk3:(L.set k2 (gN d D2))[k]?=some (pt r (sG d J)):=by rw[Pc (λhh=>kJ hh.symm)];exact hk
  unfold cx.j3;refine vO (λhe=>?_) (λhe=>?_)
  ·rw[ai he] at hK;simp only[nz,ae,af];refine pn h hk3 (aK rfl) rfl λw h=>?_;exact hK w h
  ·rw[ag (λhh=>hh he)] at hK;refine mK h λw h=>?_;simp only[nz,ae,af];refine cZ h hk3 rfl ?_;simp only[nz,ae,af];have ew2:aa.wrap (12+(s.size:Int))=((12+s.size:Nat):Int):=by rw[aX (by omega)];omega
   rw[ew2];refine rW (by omega) ?_;simp only[nz,ae,af];refine kI h hk3 rfl ?_;have ew3:aa.wrap (J.at'+(gH (12+s.size):Int))=J.at'+(gH (12+s.size):Int):=aX (by omega);rw[ew3];refine pn h hk3 (aK rfl) rfl λw h=>?_;refine cZ h (kn hk3) rfl ?_;simp only[nz,ae,af];rw[ew];refine pn h (kn hk3) (aK rfl) rfl λw h=>?_;rw[jH] at h;exact hK w h
 have eqb:∀e:Int,(e==0)=decide (e=0):=λe=>by by_cases he:e=0<;>simp[he]
 by_cases he:e1=0
 ·rw[ag (λhh=>hh he: ¬e1≠0)] at hK;have:(e1==0)=true:=by rw[eqb];exact aw he
  rw[this];simp only[nz,ae,af];refine cZ h Bt rfl ?_;simp only[nz,ae,af];refine vT (k:=k2) h (kn td) R1 λw h=>?_;rw[jH] at h;simp only[nz,ae,af];exact fin D1.sync w hK h
 ·rw[ai he] at hK;have:(e1==0)=false:=by rw[eqb];exact ao he
  rw[this];simp only[nz,ae,af];exact fin (D1,e1) w hK h
end
end
end Go.Sep
namespace Go.Up
open Go.Sep Go.Den Go.RowKit Go.Prog Go.Md Go.cG
def nb(n:Nat):List UInt8:=(qk 16).map λi=>UInt8.ofNat (n/256^i%256)
def sB(n:Nat):(nb n).length=16:=by simp[nb]
def La(m i:Nat)(hi:i<8):Value.int .u8 (IntKind.u8.wrap (shr .u64 (m:Int) (aa.wrap (8* (i:Int)))))=vZ (UInt8.ofNat (m/256^i%256)):=by
 rw[aX (by omega)];unfold vZ shr;rw[UInt8.toNat_ofNat_of_lt' (by show _<256;omega),Hs _ (Int.le_of_lt (Int.pow_pos (by decide)))]
 congr 1
 have e8:∀x:Int,IntKind.u8.wrap x=x%256:=λx=>by simp[IntKind.wrap,IntKind.bits,IntKind.signed]
 have e2:(8* (i:Int)).toNat=8* i:=by omega
 have e4:min (8* i) IntKind.u64.bits=8* i:=by show min (8* i) 64=_;omega
 have e3:(2:Int)^(8* i)=((256^i:Nat):Int):=by rw[Int.pow_mul];norm_cast
 rw[e8,e2,e4,e3];omega
def ac5(n i:Nat)(hi:i<8):n%18446744073709551616/256^i%256=n/256^i%256:=by
 match i,hi with
 |0,_|1,_|2,_|3,_|4,_|5,_|6,_|7,_=>omega
def ac6(n i:Nat)(hi:i<8):n/18446744073709551616/256^i%256=n/256^(8+i)%256:=by
 match i,hi with
 |0,_|1,_|2,_|3,_|4,_|5,_|6,_|7,_=>omega
section
variable {W:World} {L:LH} {K:VK} {X:WK}
def DD{r o:Nat}{cs:LV}{v:Value}{f:LV->LH}[i:Lc (pt r) L cs f](ho:o<cs.length)(h1:v.oneCell'=true)(h:T W (f (cs.set o v)) X):T W L (st ⟨r,o,none⟩ v X):=λw hs=>by
 obtain⟨k,hk,e⟩:=i.at_;exact pn hs hk ho h1 λw' h'=>h w' (by rw[e];exact h')
def TN{r:Nat}{l:List UInt8}{f:LV->LH}{K:BA->WK}[i:Lc (pt r) L (l.map vZ) f](h:T W L (K (bs l))):T W L (VQ (ah r) l.length K):=λw hs=>
 let⟨_,hk,_⟩:=i.at_;OY hs hk rfl (h w hs)
def ZP(b:OA)(c e:Nat):zi b c 0 e=b:=by
 unfold zi;split
 ·rfl
 ·cases b with
  |none=>rfl
  |some a=>simp[Addr.add]
def Xe{b:OA}{n c e:Nat}{K:OA->Nat->Nat->WK}(h:T W L (K b n c)):T W L (tf b n c e none none K):=by
 unfold tf;rw[ZP];exact h
def Oc(n i:Nat):LV:=(qk 16).map λj=>if j<i\/8<=j/\j<8+i then vZ (UInt8.ofNat (n/256^j%256)) else .int .u8 0
def Zu{n:Nat}(h:T W L (K (.s (bs (nb n))))):T W L (xO (nm n) K):=by
 unfold xO;apply ws;intros;rename_i r1 r2;intro w hs;refine⟨λvs w=>∃i:Nat,i<=8/\vs=[.p (some (ad r1 0)),.s .empty,.p (some (ad r2 0)),.i (i:Int)]/\St W w (pt r2 (Oc n i)::pt r1 (nm n)::L),
  λvs _=>match vs with|[_,_,_,.int _ j]=>8-j.toNat|_=>0,⟨0,aF _,rfl,hs⟩,?_⟩
 rintro a1 s1 a2 n1 w2 ⟨i,hi,e,hs⟩;cases e
 refine T.at ?_ hs;apply ga<;>intro h1
 ·have cn:i<8:=by omega
  have e8:aa.wrap (8* (i:Int))=8* (i:Int):=aX (by omega);have e9:aa.wrap (8+(i:Int))=((8+i:Nat):Int):=by rw[aX (by omega)];omega
  have e5:=nI i;simp only[ia,aB,e8,e9,e5,ak,mF]
  repeat' first|apply ws|apply wb|first|refine dU (by omega) ?_|refine DD (by simp[Oc];omega) rfl ?_
  rw[<-e8,La _ _ cn,La _ _ cn,ac5 _ _ cn,ac6 _ _ cn];have e:((Oc n i).set i (vZ (UInt8.ofNat (n/256^i%256)))).set (8+i) (vZ (UInt8.ofNat (n/256^(8+i)%256)))=Oc n (i+1):=by
   apply qX;intro j;rw[dk,dk];simp only[Oc,je,bQ,List.length_range,fy];by_cases h1:8+i=j
   ·subst h1;rw[ai rfl,ai (by omega),rL (by omega),fm,ai (by omega)]
   ·rw[ag h1];by_cases h2:i=j
    ·subst h2;rw[ai rfl,ai (by omega),rL (by omega),fm,ai (by omega)]
    ·rw[ag h2];by_cases h3:j<16
     ·rw[rL h3,fm,fm];by_cases h4:j<i\/8<=j/\j<8+i
      ·rw[ai h4,ai (by omega)]
      ·rw[ag h4,ag (by omega)]
     ·rw[qu (by simpa using h3)];rfl
  rw[e];exact λw3 h3=>⟨⟨i+1,cn,rfl,h3⟩,dn (by omega)⟩
 ·have he:i=8:=by omega
  subst he;have e:Oc n 8=(nb n).map vZ:=by
   unfold Oc nb;rw[sY];apply jv;intro j hj;rw[ai (by have:=List.mem_range.1 hj;omega)];rfl
  rw[e];apply Xe;have:=TN (W:=W) (L:=Sep.pt r2 ((nb n).map vZ)::Sep.pt r1 (nm n)::L) (r:=r2) (l:=nb n) (K:=λs2=>K (.s s2)) (by exact T.dp h);rw[sB] at this;exact this
def acY{A j:Nat}{c:UInt8}(hj:j<8)(hA:A<256^j):dj .u64 .or (A:Int) (shl .u64 (IntKind.u64.wrap (c.toNat:Int)) (8* (j:Int)))=((A+c.toNat* 256^j:Nat):Int):=by
 have hc:=c.toNat_lt;have RW:256^j=2^(8* j):=by rw[show(256:Nat)=2^8 from rfl,<-Nat.pow_mul]
 have afg:c.toNat* 2^(8* j)+2^(8* j)<=2^64:=by
  have h1:(c.toNat+1)* 2^(8* j)<=2^8* 2^(8* j):=iA _ hc;rw[<-Nat.pow_add,mG,Nat.one_mul] at h1;exact wJ h1 (gO (by decide) (by omega))
 rw[RW] at hA;have ew:IntKind.u64.wrap (c.toNat:Int)=(c.toNat:Int):=te (by omega);have esh:shl .u64 (c.toNat:Int) (8* (j:Int))=((c.toNat* 2^(8* j):Nat):Int):=by
  unfold shl;have h1:(8* (j:Int)).toNat=8* j:=by omega
  have h2:min (8* j) IntKind.u64.bits=8* j:=by show min (8* j) 64=_;omega
  rw[h1,h2];have:((c.toNat:Int)* 2^(8* j))=((c.toNat* 2^(8* j):Nat):Int):=by norm_cast
  rw[this];exact te (by omega)
 rw[ew,esh,RW];show IntKind.u64.wrap (((BitVec.ofInt 64 (A:Int)|||BitVec.ofInt 64 ((c.toNat* 2^(8* j):Nat):Int)).toNat:Nat):Int)=_;rw[BitVec.toNat_or];have t1:(BitVec.ofInt 64 (A:Int)).toNat=A:=by simp only[BitVec.toNat_ofInt];omega
 have t2:(BitVec.ofInt 64 ((c.toNat* 2^(8* j):Nat):Int)).toNat=c.toNat* 2^(8* j):=by simp only[BitVec.toNat_ofInt];omega
 rw[t1,t2,Nat.or_comm,<-Nat.shiftLeft_eq,<-Nat.shiftLeft_add_eq_or_of_lt hA,Nat.add_comm,Nat.shiftLeft_eq];exact te (by omega)
def JI{l:List UInt8}{i:Nat}{K:UInt8->WK}{c:UInt8}(hc:l[i]?=some c)(h:T W L (K c)):T W L (AH (bs l) (i:Int) K):=λw hs=>⟨c,⟨by omega,by rw[ak];exact hc⟩,h w hs⟩
def Fo:∀(l m:List UInt8),ow (l++m)=ow l+256^l.length* ow m
 |[],m=>by simp[ow]
 |c::l,m=>by simp only[lY,ow,Fo l m,bE,Av];rw[Nat.mul_add,Nat.add_assoc,wI (256^l.length) 256,Nat.mul_assoc]
def LZ(l:List UInt8):Nat:=if l.length<16 then 0 else ow (l.take 16)
def Nd{l:List UInt8}(hl:l.length<1099511627776)(h:T W L (K (.tuple ⟨[.agg ⟨nm (LZ l)⟩,.b (decide (16<=l.length))]⟩))):T W L (so (bs l) K):=by
 unfold so LZ at *;rw[bV];apply ws;intros;rename_i r1 r2;apply ga<;>intro h1
 ·have h2:l.length<16:=by omega
  rw[ai h2,ao (by omega)] at h;apply ws;exact T.dp h
 have h2: ¬l.length<16:=by omega
 rw[ag h2,aw (by omega)] at h;intro w hs;refine⟨λvs w=>∃i:Nat,i<=8/\vs=[.p (some (ad r1 0)),.b false,.p (some (ad r2 0)),.i (i:Int)]/\St W w (Sep.pt r2 [.u (ow ((l.drop 8).take i):Int),.u (ow (l.take i):Int)]::Sep.pt r1 [.u 0,.u 0]::L),
  λvs _=>match vs with|[_,_,_,.int _ j]=>8-j.toNat|_=>0,⟨0,aF _,rfl,hs⟩,?_⟩
 rintro a1 b1 a2 n1 w2 ⟨i,hi,e,hs⟩;cases e
 refine T.at ?_ hs;apply ga<;>intro h1
 ·have cn:i<8:=by omega
  have e8:aa.wrap (8* (i:Int))=8* (i:Int):=aX (by omega);have e9:aa.wrap (8+(i:Int))=((8+i:Nat):Int):=by rw[aX (by omega)];omega
  have e5:=nI i;have g1:i<l.length:=by omega
  have g2:8+i<l.length:=by omega
  have v1:=sq (l.take i);have v2:=sq ((l.drop 8).take i);rw[aD,rE (by omega)] at v1;rw[aD,aS,rE (by omega)] at v2;have c1:=aj g1;have c2:=aj g2;simp only[ia,aB,e8,e9,e5];apply ws;apply JI c1
  repeat' first|apply ws|apply wb|first|refine dU (by omega) ?_|refine JI c1 ?_|refine JI c2 ?_
  rw[acY cn v1,acY cn v2];have t1:ow (l.take i)+l[i].toNat* 256^i=ow (l.take (i+1)):=by rw[qV g1,tZ,aD,rE (by omega)]
  have t2:ow ((l.drop 8).take i)+l[8+i].toNat* 256^i=ow ((l.drop 8).take (i+1)):=by
   have hd:min i (l.drop 8).length=i:=by rw[aS];omega
   rw[qV (by rw[aS];omega),tZ,aD,hd,List.getElem_drop]
  rw[t1,t2];exact λw3 h3=>⟨⟨i+1,cn,rfl,h3⟩,dn (by omega)⟩
 ·have he:i=8:=by omega
  subst he;have v1:=sq (l.take 8);rw[aD,rE (by omega)] at v1;have e:l.take 16=l.take 8++(l.drop 8).take 8:=by rw[<-List.take_add]
  have ev:ow (l.take 16)=ow (l.take 8)+18446744073709551616* ow ((l.drop 8).take 8):=by
   rw[e,Fo,aD,rE (by omega)]
  have e3:(256:Nat)^8=18446744073709551616:=rfl;rw[Ut (ow (l.take 16)) (by omega) (by omega)];apply ws;exact T.dp h
end
class wX(b:OA)(n c:outParam Nat)(L:LH)(e:outParam Nat)(xs:outParam (LV))(f:outParam (HP->LH)):Prop where
 at_:∃k:Nat,L[k]?=some (own b n c e xs)/\∀A,f A=L.set k A
instance wX.head{b:OA}{n c e:Nat}{xs:LV}{L:LH}:wX b n c (own b n c e xs::L) e xs (λA=>A::L):=⟨0,rfl,λ_=>rfl⟩
instance wX.tail{b:OA}{n c e:Nat}{xs:LV}{L:LH}{A:HP}{f:HP->LH}[h:wX b n c L e xs f]:wX b n c (A::L) e xs (λB=>A::f B):=by
 obtain⟨k,h1,h2⟩:=h.at_;exact⟨k+1,h1,λy=>by rw[h2];rfl⟩
section
variable {W:World} {L:LH} {K:VK} {X:WK} {b:OA} {n c e:Nat} {xs ys:LV} {f:HP->LH}
def TO{s:BA}{K:OA->Nat->Nat->WK}[i:wX b n c L 1 xs f](hb:n+s.size<=140737488355328)(h:∀b' c',T W (f (own b' (n+s.size) c' 1 (xs++strCells s))) (K b' (n+s.size) c')):T W L (G8 b n c s K):=λw hs=>by
 obtain⟨k,hk,e⟩:=i.at_;exact G7 hs hk hb λb' c' w' h'=>h b' c' w' (by rw[e];exact h')
def TP{r bytes:Nat}{zero:LV}{g:LV->LH}{K:OA->Nat->Nat->WK}[i:wX b n c L e xs f][j:Lc (Sep.pt r) L ys g](hy:ys.length=e)(hz:zero.length=e)(hb:(n+1)* bytes<=140737488355328)(h1:∀v∈ys,v.oneCell'=true)
 (h:∀b' c',T W (f (own b' (n+1) c' e (xs++ys))) (K b' (n+1) c'))(hm:n+1<=9223372036854775807:=by omega):T W L (iP e bytes zero b n c (ah r) 1 K):=λw hs=>by
 obtain⟨k,hk,e1⟩:=i.at_;obtain⟨k2,td,_⟩:=j.at_;refine vh hs hk (ys:=ys) (He (o:=0) hs td (by omega) λj v hv=>by rw[aB];exact hv) (λhh=>by cases hh) hz hb hm h1 λb' c' w' h'=>h b' c' w' (by rw[e1];exact h')
def dS{i:Int}{K:Addr->WK}[l:wX b n c L e xs f](hi:0<=i/\i<n)(h:∀r,b=ah r->T W L (K ⟨r,i.toNat* e,none⟩)):T W L (iW b n i e K):=λw hs=>by
 obtain⟨k,hk,_⟩:=l.at_;exact sH hs hk hi λr hr=>h r hr w hs
def rd(r:Nat)(x:List UInt8×Bool):HP:=Ej r (bs x.1) x.2
variable {r:Nat} {x:List UInt8×Bool} {g:List UInt8×Bool->LH}
def KE[i:Lc (rd r) L x g](hl:x.1.length<1099511627776)(m:Nat)(hm:1<=m/\m<=8)(h:T W (g (eV m x)) (K (.i (jm m x)))):T W L (aM (ah r) (m:Int) K):=λw hs=>by
 obtain⟨k,hk,e⟩:=i.at_;exact As hs hk hl hm λw' h'=>h w' (by rw[e];exact h')
def sV[i:Lc (rd r) L x g](hl:x.1.length<1099511627776)(h:T W (g (eV 1 x)) (K (.i (jm 1 x)))):T W L (aM (ah r) 1 K):=KE hl 1 (by decide) h
def E9[i:Lc (rd r) L x g](hl:x.1.length<1099511627776)(h:T W (g (eV 2 x)) (K (.i (jm 2 x)))):T W L (aM (ah r) 2 K):=KE hl 2 (by decide) h
def QZ[i:Lc (rd r) L x g](hl:x.1.length<1099511627776)(h:T W (g (eV 4 x)) (K (.i (jm 4 x)))):T W L (aM (ah r) 4 K):=KE hl 4 (by decide) h
def yE[i:Lc (rd r) L x g](hl:x.1.length<1099511627776)(h:T W (g (eV 8 x)) (K (.i (jm 8 x)))):T W L (aM (ah r) 8 K):=KE hl 8 (by decide) h
def AF(x:List UInt8×Bool):Nat:=if x.2=true then 0 else LZ x.1
def tS(m:Nat)(x:List UInt8×Bool):(eV m x).1.length<=x.1.length:=by
 unfold eV;split
 ·exact aI _
 ·simp
def rvw(m:Nat)(x:List UInt8×Bool):List UInt8:=if x.2=true\/x.1.length<m then[] else x.1.take m
def ack[i:Lc (rd r) L x g](m:Nat)(h:T W (g (eV m x)) (K (.s (bs (rvw m x))))):T W L (fr (ah r) (m:Int) K):=λw hs=>by
 obtain⟨k,hk,e⟩:=i.at_;refine Hh hs (show L[k]?=some (Ej r (bs x.1) x.2) from hk) λw' h'=>?_;obtain⟨l,t⟩:=x;unfold eV rvw at h;dsimp only at h h'⊢;by_cases hc:t=true\/l.length<m
 ·rw[ai hc,ai hc] at h;have et:tg (bs l) t m=true:=by
   unfold tg;rcases hc with h1|h1
   ·rw[h1];rfl
   ·rw[bV,aw (by omega)];simp
  unfold Ek zt at *;rw[et] at h'⊢;exact h w' (by rw[e];exact h')
 ·rw[ag hc,ag hc] at h;have ht:t=false:=by cases t<;>simp_all
  have et:tg (bs l) t m=false:=by
   unfold tg;rw[ht,bV,ao (by omega)];rfl
  unfold Ek zt at *;rw[et,ak,pr] at h';rw[et,ak,pv];exact h w' (by rw[e];exact h')
def XT(x:List UInt8×Bool):LZ (rvw 16 x)=AF x:=by
 unfold AF rvw LZ;obtain⟨l,t⟩:=x;cases t with
 |true=>rfl
 |false=>
  dsimp only;by_cases h2:l.length<16
  ·have e:(if false=true\/l.length<16 then([]:List UInt8) else l.take 16)=[]:=ai (Or.inr h2);rw[e];simp[h2]
  ·have e:(if false=true\/l.length<16 then([]:List UInt8) else l.take 16)=l.take 16:=ag (by simp;omega);rw[e,yK,aD,ag (by omega),ag (by decide),ag h2];rfl
def KD[i:Lc (rd r) L x g](hl:x.1.length<1099511627776)(h:T W (g (eV 16 x)) (K (.agg ⟨nm (AF x)⟩))):T W L (cX (ah r) K):=by
 unfold cX;apply ws;intros;apply ack 16;have hr:(rvw 16 x).length<1099511627776:=by unfold rvw;split<;>simp;omega
 repeat' first|apply ws;intros|apply wb|refine Nd hr ?_
 rw[XT];exact T.dp h
def yD[i:Lc (rd r) L x g](h:T W L (K (.b x.2))):T W L (cK (ah r) K):=λw hs=>by
 obtain⟨k,hk,e⟩:=i.at_;exact Gr hs (show L[k]?=some (Ej r (bs x.1) x.2) from hk) (h w hs)
def O7[i:Lc (rd r) L x g](h:T W L (K (.b (!x.2&&decide (x.1=[]))))):T W L (kE (ah r) K):=λw hs=>by
 obtain⟨k,hk,e⟩:=i.at_;exact Nf hs (show L[k]?=some (Ej r (bs x.1) x.2) from hk) (h w hs)
def TB{α:Type}{P:α->HP}{a:α}{f:α->LH}[i:Lc P L a f](h:∀R,(∀y Y,T W (f y) Y->T W (P y::R) Y)->T W (P a::R) X):T W L X:=λw hs=>by
 obtain⟨k,hk,e⟩:=i.at_;refine h (L.eraseIdx k) (λy Y hy w' h'=>hy w' ?_) w (hs.focus hk);rw[e];exact St.ss h' hk
def Zm[i:Lc (rd r) L x g](h:T W L (K (.i (if x.2=true then 0 else(x.1.length:Int))))):T W L (qN (ah r) K):=by
 unfold qN;simp only[EP,ia,aB,Option.isNone_some,eu];intro w hs;obtain⟨k,hk,e⟩:=i.at_;apply cZ hs (show L[k]?=some (Sep.pt r [.s (bs x.1),.b x.2]) from hk) rfl;rw[Ti];cases hx:x.2 with
 |true=>rw[lC];rw[hx,ai rfl] at h;exact h w hs
 |false=>
  rw[eu];apply cZ hs (show L[k]?=some (Sep.pt r [.s (bs x.1),.b x.2]) from hk) rfl;rw[Th];rw[hx,ag (by decide)] at h;exact h w hs
variable {p:Nat} {l:List UInt8} {q:List UInt8->LH}
def Ky[i:Lc (buf p) L l q](hl:l.length<1099511627776)(m:Nat)(hm:1<=m/\m<=8){n:Int}(h:T W (q (l++le .i64 m n)) (K (.tuple ⟨[]⟩))):T W L (bt (ah p) (m:Int) n K):=λw hs=>by
 obtain⟨k,hk,e⟩:=i.at_;refine kG hs hk hl λw' h'=>h w' ?_;have em:min2 (max2 (m:Int) 1) 8=((m:Nat):Int):=by unfold min2 max2;split<;>split<;>omega
 rw[em,ak] at h';rw[e];exact h'
def sT[i:Lc (buf p) L l q](hl:l.length<1099511627776){n:Int}(h:T W (q (l++le .i64 1 n)) (K (.tuple ⟨[]⟩))):T W L (bt (ah p) 1 n K):=Ky hl 1 (by decide) h
def E8[i:Lc (buf p) L l q](hl:l.length<1099511627776){n:Int}(h:T W (q (l++le .i64 2 n)) (K (.tuple ⟨[]⟩))):T W L (bt (ah p) 2 n K):=Ky hl 2 (by decide) h
def QV[i:Lc (buf p) L l q](hl:l.length<1099511627776){n:Int}(h:T W (q (l++le .i64 4 n)) (K (.tuple ⟨[]⟩))):T W L (bt (ah p) 4 n K):=Ky hl 4 (by decide) h
def Ar[i:Lc (buf p) L l q](hl:l.length<1099511627776){n:Int}(h:T W (q (l++le .i64 8 n)) (K (.tuple ⟨[]⟩))):T W L (bt (ah p) 8 n K):=Ky hl 8 (by decide) h
def tL[i:Lc (buf p) L l q](h:T W L (K (.s (bs l)))):T W L (dN (ah p) K):=λw hs=>by
 obtain⟨k,hk,e⟩:=i.at_;exact nq hs hk (h w hs)
def acP[i:Lc (buf p) L l q](h:∀b c R,(∀l' b n c Y,n=l'.length->T W (q l') Y->T W (Sep.pt p [.l b n c]::own b n c 1 (l'.map vZ)::R) Y)->T W (Sep.pt p [.l b l.length c]::own b l.length c 1 (l.map vZ)::R) X):T W L X:=
 TB (P:=buf p) λR hc w hs=>by
  obtain⟨⟨b,c⟩,hs⟩:=hs.ex;exact h b c R (λl' b n c Y hn hy w h'=>hc l' Y hy w (by subst hn;exact St.rA (b,c) (St.join h'))) w hs.split
def Kx[i:Lc (buf p) L l q](hl:l.length<1099511627776){n:Nat}(h:T W (q (l++nb n)) (K (.tuple ⟨[]⟩))):T W L (mm (ah p) (nm n) K):=by
 unfold mm;refine acP (p:=p) λb c R hc=>?_;simp only[EP]
 repeat' first|apply ws;intros|apply wb|first|refine Zu ?_|refine TO (by rw[bV,sB];omega) λ_ _=>?_
 have e:l.map vZ++strCells (bs (nb n))=(l++nb n).map vZ:=by rw[cF];rfl
 rw[e];exact T.drop (hc _ _ _ _ _ (by rw[av,bV]) h)
def Zk[i:Lc (buf p) L l q](hl:l.length<1099511627776){b:Bool}(h:T W (q (l++[if b then 1 else 0])) (K (.tuple ⟨[]⟩))):T W L (qM (ah p) b K):=by
 unfold qM;cases b with
 |true=>rw[lC];refine sT hl (BF ?_);exact h
 |false=>rw[eu];refine sT hl (BF ?_);exact h
end
end Go.Up
namespace Go.Up
open Go.Sep Go.Den Go.Md
def Ij{p:Int->Prop}(n:Nat)(h:∀f:Fin n,p (f.val:Int)){f:Int}(h0:0<=f)(h1:f<n):p f:=by
 have:=h ⟨f.toNat,by omega⟩;simp only[Int.toNat_of_nonneg h0] at this;exact this
section
variable {f:Int}
def MZ(h0:0<=f)(h1:f<256):dj .i64 .and f 2=0↔ ¬(has f 2):=Ij (p:=λf=>dj .i64 .and f 2=0↔ ¬(has f 2)) 256 (by decide+kernel) h0 h1
def MY(h0:0<=f)(h1:f<256):dj .i64 .and f 4=0↔ ¬(has f 4):=Ij (p:=λf=>dj .i64 .and f 4=0↔ ¬(has f 4)) 256 (by decide+kernel) h0 h1
def VO(h0:0<=f)(h1:f<256):dj .i64 .and f 8=0↔ ¬(has f 8):=Ij (p:=λf=>dj .i64 .and f 8=0↔ ¬(has f 8)) 256 (by decide+kernel) h0 h1
def aca(h0:0<=f)(h1:f<256):dj .i64 .and f 16=0↔ ¬(has f 16):=Ij (p:=λf=>dj .i64 .and f 16=0↔ ¬(has f 16)) 256 (by decide+kernel) h0 h1
def ab'(h0:0<=f)(h1:f<256):dj .i64 .and f 32=0↔ ¬(has f 32):=Ij (p:=λf=>dj .i64 .and f 32=0↔ ¬(has f 32)) 256 (by decide+kernel) h0 h1
def VP(h0:0<=f)(h1:f<256):dj .i64 .and f 64=0↔ ¬(has f 64):=Ij (p:=λf=>dj .i64 .and f 64=0↔ ¬(has f 64)) 256 (by decide+kernel) h0 h1
def QO(h0:0<=f)(h1:f<256):dj .i64 .and f 128=0↔ ¬(has f 128):=Ij (p:=λf=>dj .i64 .and f 128=0↔ ¬(has f 128)) 256 (by decide+kernel) h0 h1
def aan(h0:0<=f)(h1:f<256):dj .i64 .and f 12=0↔ ¬(jZ f):=Ij (p:=λf=>dj .i64 .and f 12=0↔ ¬(jZ f)) 256 (by decide+kernel) h0 h1
def aeO(h0:0<=f)(h1:f<256):dj .i64 .and f 48=0↔ ¬(has f 16\/has f 32):=Ij (p:=λf=>dj .i64 .and f 48=0↔ ¬(has f 16\/has f 32)) 256 (by decide+kernel) h0 h1
def aeP(h0:0<=f)(h1:f<256):dj .i64 .and f 6=6↔(has f 2/\has f 4):=Ij (p:=λf=>dj .i64 .and f 6=6↔(has f 2/\has f 4)) 256 (by decide+kernel) h0 h1
def ahS(h0:0<=f)(h1:f<256):dj .i64 .and f 240=0↔ ¬(16<=f):=Ij (p:=λf=>dj .i64 .and f 240=0↔ ¬(16<=f)) 256 (by decide+kernel) h0 h1
def ahT(h0:0<=f)(h1:f<256):dj .i64 .and f 192=0↔(f<64):=Ij (p:=λf=>dj .i64 .and f 192=0↔(f<64)) 256 (by decide+kernel) h0 h1
def aam(h0:0<=f)(h1:f<256):dj .i64 .andNot f 1=f/2* 2:=Ij (p:=λf=>dj .i64 .andNot f 1=f/2* 2) 256 (by decide+kernel) h0 h1
def aal(h0:0<=f)(h1:f<16):dj .i64 .andNot f 8=f%8:=Ij (p:=λf=>dj .i64 .andNot f 8=f%8) 16 (by decide+kernel) h0 h1
def aeM(h0:0<=f)(h1:f<16):dj .i64 .or f 8=f%8+8:=Ij (p:=λf=>dj .i64 .or f 8=f%8+8) 16 (by decide+kernel) h0 h1
def aao(h0:0<=f)(h1:f<256):dj .i64 .and f 6=f/2%4* 2:=Ij (p:=λf=>dj .i64 .and f 6=f/2%4* 2) 256 (by decide+kernel) h0 h1
def vS(n:Int):Prop:= -9223372036854775808<=n/\n<=9223372036854775807
def ab9(h:vS f):(dj .i64 .andNot f 7!=0)=decide (f<0\/7<f):=by
 have key:∀x:BitVec 64,(x&&&~~~(BitVec.ofInt 64 7))=0#64↔x.toNat<8:=λx=>by
  constructor
  ·intro hx;refine Nat.lt_pow_two_of_testBit (n:=3) _ λi hi=>?_;have:=congrArg (λy=>y.getLsbD i) hx;by_cases afq:i<64
   ·simp only[BitVec.getLsbD_and,BitVec.getLsbD_not,BitVec.getLsbD_zero,afq,decide_true,dQ] at this;have h7:(BitVec.ofInt 64 7).getLsbD i=false:=by
     have:(BitVec.ofInt 64 7).toNat=7:=rfl;show Nat.testBit (BitVec.ofInt 64 7).toNat i=false;rw[this];exact Nat.testBit_lt_two_pow (Nat.lt_of_lt_of_le (by decide:7<2^3) (gO (by decide) hi))
    rw[h7] at this;simpa [BitVec.getLsbD] using this
   ·exact Nat.testBit_lt_two_pow (Nat.lt_of_lt_of_le x.isLt (gO (by decide) (by omega)))
  ·intro hx;have hx':x=BitVec.ofNat 64 x.toNat:=by simp
   rw[hx'];generalize x.toNat=m at hx
   match m,hx with
   |0,_|1,_|2,_|3,_|4,_|5,_|6,_|7,_=>rfl
 unfold vS at h;unfold dj;dsimp only;show(aa.wrap (((BitVec.ofInt 64 f&&&~~~(BitVec.ofInt 64 7)).toNat:Nat):Int)!=0)=_;have hw:∀y:BitVec 64,(aa.wrap ((y.toNat:Nat):Int)!=0)=decide (y≠0#64):=λy=>by
  have hy:=y.isLt;have:aa.wrap ((y.toNat:Nat):Int)=0↔y=0#64:=by
   constructor
   ·intro h0;apply BitVec.eq_of_toNat_eq;simp[IntKind.wrap,IntKind.bits,IntKind.signed] at h0;simp;split at h0<;>omega
   ·intro h0;subst h0;rfl
  by_cases h0:y=0#64
  ·rw[ao (by simpa using h0)];simp[this.2 h0]
  ·rw[aw h0];have: ¬aa.wrap ((y.toNat:Nat):Int)=0:=λhh=>h0 (this.1 hh);simpa using this
 rw[hw,decide_eq_decide,ne_eq,key];simp only[BitVec.toNat_ofInt];omega
def aeN(h:vS f):dj .i64 .andNot f 7=0↔ ¬(f<0\/7<f):=by
 have:=ab9 h;by_cases h1:f<0\/7<f
 ·rw[aw h1] at this;simpa [h1] using this
 ·rw[ao h1] at this;simpa [h1] using this
end
end Go.Up
namespace Go.Up
open Go.Sep Go.Den Go.RowKit Go.Prog Go.Md
abbrev cH:=Go.Md.cH
abbrev bP:=Go.Md.bP
abbrev cr:=Go.Md.cr
def aO(a:bP):LV:=nm a.id++(nm a.dp++(nm a.dq++(nm a.cp++(nm a.cq++[.i a.bJ,.i a.code,.i a.aq,.i a.ay]))))
def aN(t:cH):LV:=nm t.id++(nm t.bI++(nm t.aU++(nm t.a8++(nm t.pending++[.i t.cB,.i t.bJ,.i t.code,.i t.aq,.i t.ay,.i t.iE]))))
def bM(k:cr):LV:=aN k.asked++(aN k.move++[.i k.fate])
def zh{cs:LV}{o n:Nat}(h0:cs[o+0]?=(nm n)[0]?)(h1:cs[o+1]?=(nm n)[1]?):(nm n).length=2/\∀j v,(nm n)[j]?=some v->cs[o+j]?=some v:=⟨rfl,λj v h=>by
 match j with
 |0=>rw[h0];exact h
 |1=>rw[h1];exact h
 |j+2=>simp[nm] at h⟩
section
variable {a b:bP} {t u:cH} {k:cr} {n:Nat} {i:Int}
instance:Sub (aO a) 0 2 (nm a.id):=⟨zh rfl rfl⟩
instance:Sub (aO a) 2 2 (nm a.dp):=⟨zh rfl rfl⟩
instance:Sub (aO a) 4 2 (nm a.dq):=⟨zh rfl rfl⟩
instance:Sub (aO a) 6 2 (nm a.cp):=⟨zh rfl rfl⟩
instance:Sub (aO a) 8 2 (nm a.cq):=⟨zh rfl rfl⟩
instance:Sub (aO a) 0 14 (aO a):=⟨rfl,λj v h=>by rw[aB];exact h⟩
instance:Sub (aN t) 0 2 (nm t.id):=⟨zh rfl rfl⟩
instance:Sub (aN t) 2 2 (nm t.bI):=⟨zh rfl rfl⟩
instance:Sub (aN t) 4 2 (nm t.aU):=⟨zh rfl rfl⟩
instance:Sub (aN t) 6 2 (nm t.a8):=⟨zh rfl rfl⟩
instance:Sub (aN t) 8 2 (nm t.pending):=⟨zh rfl rfl⟩
instance:Sub (aN t) 0 16 (aN t):=⟨rfl,λj v h=>by rw[aB];exact h⟩
instance:Sub (bM k) 0 33 (bM k):=⟨rfl,λj v h=>by rw[aB];exact h⟩
instance:Sub (bM k) 0 16 (aN k.asked):=⟨rfl,λj v h=>by rw[aB];unfold bM;rw[ch (ar.1 h).1];exact h⟩
instance:Sub (bM k) 16 16 (aN k.move):=⟨rfl,λj v h=>by
 have hl:(aN k.asked).length=16:=rfl
 unfold bM
 rw[iN (by omega),hl,show 16+j-16=j by omega,ch (ar.1 h).1];exact h⟩
def pC{xs ys:LV}(h1:∀v∈xs,v.oneCell'=true)(h2:∀v∈ys,v.oneCell'=true):∀v∈xs++ys,v.oneCell'=true:=λv h=>(dB.1 h).elim (h1 v) (h2 v)
def iV(a:bP):∀v∈aO a,v.oneCell'=true:=pC (oV _) (pC (oV _) (pC (oV _) (pC (oV _) (pC (oV _) λv h=>by simp at h;rcases h with rfl|rfl|rfl|rfl<;>rfl))))
def pQ(t:cH):∀v∈aN t,v.oneCell'=true:=pC (oV _) (pC (oV _) (pC (oV _) (pC (oV _) (pC (oV _) λv h=>by simp at h;rcases h with rfl|rfl|rfl|rfl|rfl|rfl<;>rfl))))
def nj(k:cr):∀v∈bM k,v.oneCell'=true:=pC (pQ _) (pC (pQ _) λv h=>by simp at h;subst h;rfl)
instance:Wr (aO a) 2 (nm n) (aO {a with dp:=n}):=⟨rfl,by show 4<=14;decide,oV n⟩
instance:Wr (aO a) 4 (nm n) (aO {a with dq:=n}):=⟨rfl,by show 6<=14;decide,oV n⟩
instance:Wr (aO a) 6 (nm n) (aO {a with cp:=n}):=⟨rfl,by show 8<=14;decide,oV n⟩
instance:Wr (aO a) 8 (nm n) (aO {a with cq:=n}):=⟨rfl,by show 10<=14;decide,oV n⟩
instance:Wr (aO a) 12 [.i i] (aO {a with aq:=i}):=⟨rfl,by show 13<=14;decide,λv h=>by simp at h;subst h;rfl⟩
instance:Wr (aO a) 13 [.i i] (aO {a with ay:=i}):=⟨rfl,by show 14<=14;decide,λv h=>by simp at h;subst h;rfl⟩
instance:Wr (aO a) 0 (aO b) (aO b):=⟨rfl,aI _,iV b⟩
instance{x1 x2 x3 x4 x5 x6 x7 x8 x9 Fi Fh Fg Ff Jx:Value}:Wr [x1,x2,x3,x4,x5,x6,x7,x8,x9,Fi,Fh,Fg,Ff,Jx] 0 (aO b) (aO b):=⟨rfl,aI _,iV b⟩
instance:Wr (aN t) 6 (nm n) (aN {t with a8:=n}):=⟨rfl,by show 8<=16;decide,oV n⟩
instance:Wr (aN t) 11 [.i i] (aN {t with bJ:=i}):=⟨rfl,by show 12<=16;decide,λv h=>by simp at h;subst h;rfl⟩
instance:Wr (aN t) 12 [.i i] (aN {t with code:=i}):=⟨rfl,by show 13<=16;decide,λv h=>by simp at h;subst h;rfl⟩
instance:Wr (aN t) 13 [.i i] (aN {t with aq:=i}):=⟨rfl,by show 14<=16;decide,λv h=>by simp at h;subst h;rfl⟩
instance:Wr (aN t) 14 [.i i] (aN {t with ay:=i}):=⟨rfl,by show 15<=16;decide,λv h=>by simp at h;subst h;rfl⟩
instance:Wr (aN t) 15 [.i i] (aN {t with iE:=i}):=⟨rfl,by show 16<=16;decide,λv h=>by simp at h;subst h;rfl⟩
instance{x1 x2 x3 x4 x5 x6 x7 x8 x9 Fi Fh Fg Ff Jx NC NA:Value}:Wr [x1,x2,x3,x4,x5,x6,x7,x8,x9,Fi,Fh,Fg,Ff,Jx,NC,NA] 0 (aN u) (aN u):=⟨rfl,aI _,pQ u⟩
end
section
variable {x1 x2 x3 x4 x5 x6 x7 x8 x9 Fi Fh Fg Ff Jx NC NA:Value} {i d e c p:Nat} {l o f s b m:Int}
instance:Wr [x1,x2,x3,x4,x5,x6,x7,x8,x9,Fi,Fh,Fg,Ff,Jx] 0 (nm i++(nm d++(nm e++(nm c++(nm p++[.i l,.i o,.i f,.i s]))))) (aO ⟨i,d,e,c,p,l,o,f,s⟩):=⟨rfl,aI _,iV ⟨i,d,e,c,p,l,o,f,s⟩⟩
instance:Wr [x1,x2,x3,x4,x5,x6,x7,x8,x9,Fi,Fh,Fg,Ff,Jx,NC,NA] 0 (nm i++(nm d++(nm e++(nm c++(nm p++[.i l,.i o,.i f,.i s,.i b,.i m]))))) (aN ⟨i,d,e,c,p,l,o,f,s,b,m⟩):=⟨rfl,aI _,pQ ⟨i,d,e,c,p,l,o,f,s,b,m⟩⟩
end
def zA:bP:=⟨0,0,0,0,0,0,0,0,0⟩
def zT:cH:=⟨0,0,0,0,0,0,0,0,0,0,0⟩
section
variable {x1 x2 x3 x4 x5 x6 x7 x8 x9 Fi Fh Fg Ff Jx NC NA:Value} {a:bP} {t:cH}
instance:Wr [x1,x2,x3,x4,x5,x6,x7,x8,x9,Fi,Fh,Fg,Ff,Jx] 0 [.u 0,.u 0,.u 0,.u 0,.u 0,.u 0,.u 0,.u 0,.u 0,.u 0,.i 0,.i 0,.i 0,.i 0] (aO zA):=⟨rfl,aI _,iV zA⟩
instance:Wr [x1,x2,x3,x4,x5,x6,x7,x8,x9,Fi,Fh,Fg,Ff,Jx,NC,NA] 0 [.u 0,.u 0,.u 0,.u 0,.u 0,.u 0,.u 0,.u 0,.u 0,.u 0,.i 0,.i 0,.i 0,.i 0,.i 0,.i 0] (aN zT):=⟨rfl,aI _,pQ zT⟩
end
def acJ{W:World}{L:LH}{X:WK}{r o:Nat}{a:bP}{cs:LV}{f:LV->LH}[i:Lc (Sep.pt r) L cs f][s:Sub cs o 14 (aO a)](h:T W L X):T W L (kp ⟨r,o,none⟩ (aO a) X):=TJ (n:=14) h
def acH{W:World}{L:LH}{X:WK}{r o:Nat}{a:cH}{cs:LV}{f:LV->LH}[i:Lc (Sep.pt r) L cs f][s:Sub cs o 16 (aN a)](h:T W L X):T W L (kp ⟨r,o,none⟩ (aN a) X):=TJ (n:=16) h
section
variable {L:LH} {X:WK} {r o:Nat} {a:bP} {b:cH} {k:cr} {cs:LV} {f:LV->LH}
instance[i:Lc (Sep.pt r) L cs f][s:Sub cs o 14 (aO a)]:Wk L (kp ⟨r,o,none⟩ (aO a) X) L X:=⟨λ_ h=>acJ h⟩
instance[i:Lc (Sep.pt r) L cs f][s:Sub cs o 16 (aN b)]:Wk L (kp ⟨r,o,none⟩ (aN b) X) L X:=⟨λ_ h=>acH h⟩
instance:Ln (aO a) 14:=⟨rfl⟩
instance:Ln (aN b) 16:=⟨rfl⟩
instance:Ln (bM k) 33:=⟨rfl⟩
instance:Gt (aO a) 10 (.i a.bJ):=⟨rfl⟩
instance:Gt (aO a) 11 (.i a.code):=⟨rfl⟩
instance:Gt (aO a) 12 (.i a.aq):=⟨rfl⟩
instance:Gt (aO a) 13 (.i a.ay):=⟨rfl⟩
instance:Gt (aN b) 10 (.i b.cB):=⟨rfl⟩
instance:Gt (aN b) 11 (.i b.bJ):=⟨rfl⟩
instance:Gt (aN b) 12 (.i b.code):=⟨rfl⟩
instance:Gt (aN b) 13 (.i b.aq):=⟨rfl⟩
instance:Gt (aN b) 14 (.i b.ay):=⟨rfl⟩
instance:Gt (aN b) 15 (.i b.iE):=⟨rfl⟩
instance:Gt (bM k) 26 (.i k.move.cB):=⟨rfl⟩
instance:Gt (bM k) 30 (.i k.move.ay):=⟨rfl⟩
instance:Gt (bM k) 31 (.i k.move.iE):=⟨rfl⟩
instance:Gt (bM k) 32 (.i k.fate):=⟨rfl⟩
end
structure oH(W:World):Prop where
 XY:∀j v,(nm (bO-1))[j]?=some v->W.cell? ((ad N.ux 0).add j)=some v
 told:∀j v,([.i 0,.i 0,.i 27,.i 28,.i 29]:LV)[j]?=some v->W.cell? ((ad N.zF 0).add j)=some v
structure yJ(a:bP):Prop where
 id:a.id<bO
 dp:a.dp<bO
 dq:a.dq<bO
 cp:a.cp<bO
 cq:a.cq<bO
 bJ:vS a.bJ
 code:vS a.code
 aq:vS a.aq
 ay:vS a.ay
structure yF(t:cH):Prop where
 id:t.id<bO
 bI:t.bI<bO
 aU:t.aU<bO
 a8:t.a8<bO
 pending:t.pending<bO
 cB:vS t.cB
 bJ:vS t.bJ
 code:vS t.code
 aq:vS t.aq
 ay:vS t.ay
 iE:vS t.iE
section
variable {W:World} {L:LH} {K:VK} {a b:bP} {t u:cH}
def YF(h:T W L (K (.b (decide (a.dp=0/\a.dq=0/\a.cp=0/\a.cq=0/\a.ay=0))))):T W L (mA (aO a) K):=by
 unfold mA mA.j1 mA.j2
 repeat' first|apply ws;intros|apply wb|first|refine vR ?_|apply dz<;>intro h1
 all_goals (refine T.fin (T.dp h) ?_;congr 1;first|rfl|(simp only[decide_eq_true_eq,decide_eq_false_iff_not,cM] at * <;>simp[*]<;>rfl))
def V2(G:oH W)(ha:yJ a)(h:T W L (K (.i (uM a)))):T W L (qH (aO a) K):=by
 unfold qH qH.j1;have hf:=ha.aq
 repeat' first|apply ws;intros|apply wb|first|refine vR ?_|refine YF ?_|refine Pr ⟨zx _,G.XY⟩ ?_|apply dz<;>intro h1
 all_goals try simp only[aeN hf,bz] at *
 all_goals (apply T.fin (T.dp h);congr 1)
 ·rw[uM,ai h1]
 all_goals
  all_goals try simp only[aeP (show 0<=a.aq by omega) (show a.aq<256 by omega),bz] at *
  unfold uM has at *
  repeat' split
  all_goals first|rfl|omega
end
def nr(a:bP):Prop:=(0<=a.bJ/\a.bJ<=4294967295)/\(0<=a.code/\a.code<=65535)/\0<=a.aq/\a.aq<=65535
instance(a:bP):Decidable (nr a):=by unfold nr;infer_instance
def kH(t:cH):Prop:=(0<=t.cB/\t.cB<=4294967295)/\(0<=t.bJ/\t.bJ<=4294967295)/\(0<=t.code/\t.code<=65535)/\0<=t.aq/\t.aq<=65535
instance(t:cH):Decidable (kH t):=by unfold kH;infer_instance
def jl(a:bP):List UInt8:=[a.id,a.dp,a.dq,a.cp,a.cq].flatMap nb++le .i64 4 a.bJ++le .i64 2 a.code++le .i64 2 a.aq++le .i64 8 a.ay
def oX(t:cH):List UInt8:=[t.id,t.bI,t.aU,t.a8,t.pending].flatMap nb++le .i64 4 t.cB++le .i64 4 t.bJ++le .i64 2 t.code++le .i64 2 t.aq++le .i64 8 t.ay++le .i64 8 t.iE
def ye:∀l:List Nat,(l.flatMap nb).length=16* l.length
 |[]=>rfl
 |x::l=>by rw[iQ,av,sB,ye l,bE];omega
def nR(a:bP):(jl a).length=96:=by simp only[jl,av,ye,aQ];rfl
def oW(t:cH):(oX t).length=108:=by simp only[oX,av,ye,aQ];rfl
section
variable {W:World} {L:LH} {K:VK} {a b:bP} {t u:cH} {p:Nat} {l:List UInt8} {q:List UInt8->LH}
def Kw(h:T W L (K (.b (decide (nr a))))):T W L (ju (aO a) K):=by
 unfold ju ju.j1 ju.j2 ju.j3
 repeat' first|apply ws;intros|apply wb|apply dz<;>intro h1
 all_goals (apply T.fin (T.dp h);congr 1;(rw[cj];(try simp only[bz,false_iff,true_iff] at *)<;>(try simp only[nr,bp] at *)<;>omega))
def JJ(h:T W L (K (.b (decide (kH t))))):T W L (fZ (aN t) K):=by
 unfold fZ fZ.j1 fZ.j2 fZ.j3 fZ.j4 fZ.j5
 repeat' first|apply ws;intros|apply wb|apply dz<;>intro h1
 all_goals (apply T.fin (T.dp h);congr 1;(rw[cj];(try simp only[bz,false_iff,true_iff] at *)<;>(try simp only[kH,bp] at *)<;>omega))
def adU(x:List Nat)(i:Nat)(y:Nat)(h:x[i]?=some y):((x.flatMap nm).drop (i* 2)).take 2=nm y:=by
 apply qX;intro j;rw[s8];split
 ·rename_i hj;rw[ta];cases hv:(nm y)[j]? with
  |none=>have:=List.getElem?_eq_none_iff.1 hv;rw[zx] at this;omega
  |some v=>exact ry zx x i y h j v hv
 ·exact(qu (by rw[zx];omega)).symm
def V0[i:Lc (buf p) L l q](hg:nr a)(hl:l.length<549755813888)(h:T W (q (l++jl a)) (K (.tuple ⟨[]⟩))):T W L (sS (ah p) (aO a) K):=by
 unfold sS sS.j1
 repeat' first|apply ws;intros|apply wb|refine Kw ?_
 rw[aw hg,Bool.not_true,eu];apply ws;rename_i r;intro w hs;refine⟨λvs w=>∃i:Nat,i<=5/\vs=[.p (some (ad r 0)),.agg ⟨[a.id,a.dp,a.dq,a.cp,a.cq].flatMap nm⟩,.i (i:Int)]/\St W w (Sep.pt r (aO a)::q (l++([a.id,a.dp,a.dq,a.cp,a.cq].take i).flatMap nb)),
  λvs _=>match vs with|[_,_,.int _ j]=>5-j.toNat|_=>0,⟨0,aF _,rfl,by rw[mR,List.flatMap_nil,bR,i.same];exact hs⟩,?_⟩
 rintro a1 cs8 n1 w2 ⟨j,hj,e,hs⟩;cases e
 refine T.at ?_ hs;have hq:=i.next;have hlen:(l++([a.id,a.dp,a.dq,a.cp,a.cq].take j).flatMap nb).length<1099511627776:=by rw[av,ye,aD];simp;omega
 apply ga<;>intro h1
 ·have cn:j<5:=by omega
  have hx:[a.id,a.dp,a.dq,a.cp,a.cq][j]?=some ([a.id,a.dp,a.dq,a.cp,a.cq][j]'(by simpa using cn)):=aj _;have e5:=nI j;have et:([a.id,a.dp,a.dq,a.cp,a.cq].take j).flatMap nb++nb ([a.id,a.dp,a.dq,a.cp,a.cq][j]'(by simpa using cn))=([a.id,a.dp,a.dq,a.cp,a.cq].take (j+1)).flatMap nb:=by
   rw[qV (by simpa using cn),gj];simp
  rw[ak,adU _ _ _ hx,e5]
  repeat' first|apply ws;intros|apply wb|first|refine dU (by omega) ?_|refine Kx hlen ?_
  rw[aH,et];refine T.drop λw3 h3=>⟨⟨j+1,cn,rfl,?_⟩,dn (by omega)⟩;exact h3
 ·have he:j=5:=by omega
  subst he;simp only[ia,aB];have e1:∀m:List UInt8,(l++m).length=l.length+m.length:=λm=>av;have e2:(([a.id,a.dp,a.dq,a.cp,a.cq].take 5).flatMap nb).length=80:=by rw[ye];rfl
  repeat' first|apply ws|apply wb|first|refine QV (by simp only[av,aQ,e2];omega) ?_|refine E8 (by simp only[av,aQ,e2];omega) ?_|refine Ar (by simp only[av,aQ,e2];omega) ?_
  have e3:l++jl a=l++([a.id,a.dp,a.dq,a.cp,a.cq].take 5).flatMap nb++le .i64 4 a.bJ++le .i64 2 a.code++le .i64 2 a.aq++le .i64 8 a.ay:=by
   unfold jl;simp only[aH];rfl
  rw[<-e3];exact T.dp h
def NQ[i:Lc (buf p) L l q](hg:kH t)(hl:l.length<549755813888)(h:T W (q (l++oX t)) (K (.tuple ⟨[]⟩))):T W L (ri (ah p) (aN t) K):=by
 unfold ri ri.j1
 repeat' first|apply ws;intros|apply wb|refine JJ ?_
 rw[aw hg,Bool.not_true,eu];apply ws;rename_i r;intro w hs;refine⟨λvs w=>∃i:Nat,i<=5/\vs=[.p (some (ad r 0)),.agg ⟨[t.id,t.bI,t.aU,t.a8,t.pending].flatMap nm⟩,.i (i:Int)]/\St W w (Sep.pt r (aN t)::q (l++([t.id,t.bI,t.aU,t.a8,t.pending].take i).flatMap nb)),
  λvs _=>match vs with|[_,_,.int _ j]=>5-j.toNat|_=>0,⟨0,aF _,rfl,by rw[mR,List.flatMap_nil,bR,i.same];exact hs⟩,?_⟩
 rintro a1 cs8 n1 w2 ⟨j,hj,e,hs⟩;cases e
 refine T.at ?_ hs;have hq:=i.next;have hlen:(l++([t.id,t.bI,t.aU,t.a8,t.pending].take j).flatMap nb).length<1099511627776:=by rw[av,ye,aD];simp;omega
 apply ga<;>intro h1
 ·have cn:j<5:=by omega
  have hx:[t.id,t.bI,t.aU,t.a8,t.pending][j]?=some ([t.id,t.bI,t.aU,t.a8,t.pending][j]'(by simpa using cn)):=aj _;have e5:=nI j;have et:([t.id,t.bI,t.aU,t.a8,t.pending].take j).flatMap nb++nb ([t.id,t.bI,t.aU,t.a8,t.pending][j]'(by simpa using cn))=([t.id,t.bI,t.aU,t.a8,t.pending].take (j+1)).flatMap nb:=by
   rw[qV (by simpa using cn),gj];simp
  rw[ak,adU _ _ _ hx,e5]
  repeat' first|apply ws;intros|apply wb|first|refine dU (by omega) ?_|refine Kx hlen ?_
  rw[aH,et];refine T.drop λw3 h3=>⟨⟨j+1,cn,rfl,?_⟩,dn (by omega)⟩;exact h3
 ·have he:j=5:=by omega
  subst he;simp only[ia,aB];have e2:(([t.id,t.bI,t.aU,t.a8,t.pending].take 5).flatMap nb).length=80:=by rw[ye];rfl
  repeat' first|apply ws|apply wb|first|refine QV (by simp only[av,aQ,e2];omega) ?_|refine E8 (by simp only[av,aQ,e2];omega) ?_|refine Ar (by simp only[av,aQ,e2];omega) ?_
  have e3:l++oX t=l++([t.id,t.bI,t.aU,t.a8,t.pending].take 5).flatMap nb++le .i64 4 t.cB++le .i64 4 t.bJ++le .i64 2 t.code++le .i64 2 t.aq++le .i64 8 t.ay++le .i64 8 t.iE:=by
   unfold oX;simp only[aH];rfl
  rw[<-e3];exact T.dp h
abbrev RS:=List UInt8×Bool
def wP(n:Nat)(x:RS):RS:=match n with|0=>x|n+1=>eV 16 (wP n x)
def El(x:RS):RS:=eV 8 (eV 2 (eV 2 (eV 4 (wP 5 x))))
def Em(x:RS):bP:=if(El x).2=true then zA else
 ⟨AF x,AF (wP 1 x),AF (wP 2 x),AF (wP 3 x),AF (wP 4 x),jm 4 (wP 5 x),jm 2 (eV 4 (wP 5 x)),jm 2 (eV 2 (eV 4 (wP 5 x))),jm 8 (eV 2 (eV 2 (eV 4 (wP 5 x))))⟩
def EN(x:RS):RS:=eV 8 (eV 8 (eV 2 (eV 2 (eV 4 (eV 4 (wP 5 x))))))
def EO(x:RS):cH:=if(EN x).2=true then zT else
 ⟨AF x,AF (wP 1 x),AF (wP 2 x),AF (wP 3 x),AF (wP 4 x),jm 4 (wP 5 x),jm 4 (eV 4 (wP 5 x)),jm 2 (eV 4 (eV 4 (wP 5 x))),jm 2 (eV 2 (eV 4 (eV 4 (wP 5 x)))),
  jm 8 (eV 2 (eV 2 (eV 4 (eV 4 (wP 5 x))))),jm 8 (eV 8 (eV 2 (eV 2 (eV 4 (eV 4 (wP 5 x))))))⟩
variable {r:Nat} {x:RS} {g:RS->LH}
def pD{m:Nat}{x:RS}{B:Nat}(h:x.1.length<B):(eV m x).1.length<B:=qJ (tS m x) h
def V1[i:Lc (rd r) L x g](hl:x.1.length<1099511627776)(h:T W (g (El x)) (K (.agg ⟨aO (Em x)⟩))):T W L (om (ah r) K):=by
 unfold om;have hq:=i.next
 repeat' first|apply ws;intros|apply wb|first|refine KD (by repeat (first|exact hl|apply pD)) ?_|refine QZ (by repeat (first|exact hl|apply pD)) ?_|refine E9 (by repeat (first|exact hl|apply pD)) ?_|refine yE (by repeat (first|exact hl|apply pD)) ?_|refine yD ?_
 have e:eV 8 (eV 2 (eV 2 (eV 4 (eV 16 (eV 16 (eV 16 (eV 16 (eV 16 x))))))))=El x:=rfl;rw[e];unfold Em at h;apply dz<;>intro h1
 ·rw[ai h1] at h;apply ws;exact T.dp h
 ·rw[ag (by rw[h1];decide)] at h;apply ws;exact T.dp h
def NR[i:Lc (rd r) L x g](hl:x.1.length<1099511627776)(h:T W (g (EN x)) (K (.agg ⟨aN (EO x)⟩))):T W L (m9 (ah r) K):=by
 unfold m9;have hq:=i.next
 repeat' first|apply ws;intros|apply wb|first|refine KD (by repeat (first|exact hl|apply pD)) ?_|refine QZ (by repeat (first|exact hl|apply pD)) ?_|refine E9 (by repeat (first|exact hl|apply pD)) ?_|refine yE (by repeat (first|exact hl|apply pD)) ?_|refine yD ?_
 have e:eV 8 (eV 8 (eV 2 (eV 2 (eV 4 (eV 4 (eV 16 (eV 16 (eV 16 (eV 16 (eV 16 x))))))))))=EN x:=rfl;rw[e];unfold EO at h;apply dz<;>intro h1
 ·rw[ai h1] at h;apply ws;exact T.dp h
 ·rw[ag (by rw[h1];decide)] at h;apply ws;exact T.dp h
end
end Go.Up
namespace Go.Den
open Go.RowKit
def tE(P:Program)(fT:TypeId->Option (LV)):Nat->List Field->Option (LV)
 |_,[]=>some []
 |o,f::r=>bif (f.name != "_")&&iB f.offset o then
           match fT f.type with
           |some z=>bif (match P.info? f.type with|some i=>iB i.size z.length|none=>false) then
                     match tE P fT (o+z.length) r with
                     |some zr=>some (z++zr)
                     |none=>none
            else none
           |none=>none
  else none
def AP(P:Program):Nat->TypeId->Option (LV)
 |0,_=>none
 |n+1,t=>match P.underlying t with
  |some (.int k)=>some [.int k 0]
  |some .bool=>some [.bool false]
  |some .string=>some [.string .empty]
  |some (.struct fs)=>bif P.stoodInHeld t then none else tE P (AP P n) 0 fs.toList
  |_=>none
def toV(P:Program)(t:TypeId)(xs:LV):Value:=match P.underlying t with
 |some (.struct _)=>.agg ⟨xs⟩
 |_=>xs.headD undef
def qd:∀{zs xs:LV},oZ zs xs=true->xs.length=zs.length
 |[],[],_=>rfl
 |[],_::_,h=>by simp[oZ] at h
 |_::_,[],h=>by simp[oZ] at h
 |z::zs,x::xs,h=>by simp only[oZ,df] at h;simp[qd h.2]
def zG:∀{z zr xs:LV},oZ (z++zr) xs=true->∃a b,xs=a++b/\oZ z a=true/\oZ zr b=true
 |[],zr,xs,h=>⟨[],xs,rfl,rfl,h⟩
 |y::z,zr,[],h=>by simp[oZ] at h
 |y::z,zr,x::xs,h=>by
  simp only[lY,oZ,df] at h;obtain⟨a,b,rfl,h1,h2⟩:=zG h.2;exact⟨x::a,b,rfl,by simp[oZ,h.1,h1],h2⟩
def uy:∀{a b c d:LV},a.length=b.length->iK (a++c) (b++d)=(iK a b&&iK c d)
 |[],[],c,d,_=>by simp[iK]
 |[],_::_,_,_,h=>by simp at h
 |_::_,[],_,_,h=>by simp at h
 |x::a,y::b,c,d,h=>by
  simp only[lY,iK];rw[uy (by simpa using h),Bool.and_assoc]
def QC{P:Program}:∀(n:Nat)(t:TypeId)(zs:LV),AP P n t=some zs->∀(xs ys:LV),oZ zs xs=true->oZ zs ys=true->∀(d:Nat)(w:World),(Op.equalIn (d+2* n) t (toV P t xs) (toV P t ys)).run P w=.ok (iK xs ys) w
 |0,_,_,h=>by simp[AP] at h
 |n+1,t,zs,h=>λxs ys hx hy d w=>by
  have hd:d+2* (n+1)=(d+2* n+1)+1:=by omega
  rw[hd];unfold AP at h;unfold toV;generalize hu:P.underlying t=u at h;split at h
  ·cases h
   obtain⟨x,rfl⟩:=List.length_eq_one_iff.1 (qd hx);obtain⟨y,rfl⟩:=List.length_eq_one_iff.1 (qd hy)
   ·simp only[oZ,Bool.and_true] at hx hy;cases x<;>simp[fits] at hx
    cases y<;>simp[fits] at hy
    subst hx hy;simp[run_equalIn_int w _ t _ _ _ _ hu,iK,Bc]
  ·cases h
   obtain⟨x,rfl⟩:=List.length_eq_one_iff.1 (qd hx);obtain⟨y,rfl⟩:=List.length_eq_one_iff.1 (qd hy)
   ·simp only[oZ,Bool.and_true] at hx hy;cases x<;>simp[fits] at hx
    cases y<;>simp[fits] at hy
    simp[run_equalIn_bool w _ t _ _ hu,iK,Bc]
  ·cases h
   obtain⟨x,rfl⟩:=List.length_eq_one_iff.1 (qd hx);obtain⟨y,rfl⟩:=List.length_eq_one_iff.1 (qd hy)
   ·simp only[oZ,Bool.and_true] at hx hy;cases x<;>simp[fits] at hx
    cases y<;>simp[fits] at hy
    simp[run_equalIn_string w _ t _ _ hu,iK,Bc,nG]
  ·rename_i fs;cases hs:P.stoodInHeld t with
   |true=>rw[hs] at h;cases h
   |false=>
    rw[hs] at h;have Cj:P.fieldsOf t=fs:=by simp[Program.fieldsOf,hu]
    show(Op.equalIn _ t (.agg ⟨xs⟩) (.agg ⟨ys⟩)).run P w=_;rw[run_equalIn_struct w _ t ⟨xs⟩ ⟨ys⟩ (by rw[Cj];exact hu) hs,Cj];have key:∀(l:List Field)(o:Nat)(zs:LV)(pre Rw xs ys:LV),pre.length=o->Rw.length=o->tE P (AP P n) o l=some zs->oZ zs xs=true->oZ zs ys=true->
                                                              (Op.eqFields (d+2* n+1) ⟨pre++xs⟩ ⟨Rw++ys⟩ l).run P w=.ok (iK xs ys) w:=by
     intro l
     induction l with
     |nil=>
      intro o zs pre Rw xs ys h1 h2 h3 hx hy;simp only[tE,bA.injEq] at h3;subst h3;cases xs<;>cases ys<;>simp[oZ] at hx hy
      simp[Op.eqFields,iK]
     |cons f l ih=>
      intro o zs pre Rw xs ys h1 h2 h3 hx hy;unfold tE at h3;cases hc:((f.name != "_")&&iB f.offset o) with
      |false=>rw[hc] at h3;cases h3
      |true=>
       rw[hc] at h3;simp only[df] at hc;have hn':f.name≠ "_":=by simpa using hc.1
       have ho':f.offset=o:=eS hc.2;simp only[cond_true] at h3;cases hz:AP P n f.type with
       |none=>rw[hz] at h3;cases h3
       |some z=>
        rw[hz] at h3;dsimp only at h3;cases hi:P.info? f.type with
        |none=>rw[hi] at h3;cases h3
        |some i=>
         rw[hi] at h3;dsimp only at h3;cases qc:iB i.size z.length with
         |false=>rw[qc] at h3;cases h3
         |true=>
          rw[qc] at h3;have qc:=eS qc;simp only[cond_true] at h3;cases hr:tE P (AP P n) (o+z.length) l with
          |none=>rw[hr] at h3;cases h3
          |some zr=>
           rw[hr] at h3;simp only[bA.injEq] at h3;subst h3;obtain⟨x1,x2,rfl,a1,a2⟩:=zG hx;obtain⟨y1,y2,rfl,b1,b2⟩:=zG hy;have lx:=qd a1;have ly:=qd b1;have Qr:∀(p x1 x2:LV),p.length=o->oZ z x1=true->(part f.type (⟨p++(x1++x2)⟩:Array Value) f.offset).run P w=.ok (toV P f.type x1) w:=by
            intro p x1 x2 hp a1;have lx:=qd a1;cases n with
            |zero=>simp[AP] at hz
            |succ m=>
             unfold AP at hz;unfold toV;generalize S4:P.underlying f.type=fu at hz;have KY:∀v:Value,x1=[v]->uI (fu.getD (.int .i64))=false->fu.isSome=true->(part f.type (⟨p++(x1++x2)⟩:Array Value) f.offset).run P w=.ok v w:=by
              intro v hv hg adh;subst hv;cases fu with
              |none=>cases adh
              |some fd=>
               simp only[dI] at hg;cases fd<;>simp[uI] at hg<;>simp[part,isAgg,underlying,S4,ho',hp]
             split at hz
             ·cases hz
              match x1,a1,lx,KY with
              |[v],_,_,KY=>exact KY v rfl rfl rfl
             ·cases hz
              match x1,a1,lx,KY with
              |[v],_,_,KY=>exact KY v rfl rfl rfl
             ·cases hz
              match x1,a1,lx,KY with
              |[v],_,_,KY=>exact KY v rfl rfl rfl
             ·simp only[part,isAgg,underlying,sizeOf,typeInfo,Sem.run_bind,run_program,Result.andThen_ok,S4,hi,Sem.run_pure,if_true,ho'];have:(⟨p++(x1++x2)⟩:Array Value).extract o (o+i.size)=⟨x1⟩:=by
               apply tt;rw[Array.toList_extract];show List.extract (p++(x1++x2)) o (o+i.size)=x1;rw[List.extract_eq_take_drop,<-hp,List.drop_left' rfl,qc,show p.length+z.length-p.length=x1.length by omega,List.take_left' rfl]
              rw[this]
             ·cases hz
           have ihn:=QC n f.type z hz x1 y1 a1 b1 (d+1) w;have WA:=ih (o+z.length) zr (pre++x1) (Rw++y1) x2 y2 (by rw[av,h1,lx]) (by rw[av,h2,ly]) hr a2 b2;rw[show d+1+2* n=d+2* n+1 by omega] at ihn;rw[aH,aH] at WA;rw[Op.eqFields];simp only[ai hn',Sem.run_bind,Qr pre x1 x2 h1 a1,Qr Rw y1 y2 h2 b1,ihn,Result.andThen_ok];rw[uy (by rw[lx,ly])];cases iK x1 y1
           ·simp
           ·simpa using WA
    have:=key fs.toList 0 zs [] [] xs ys rfl rfl (by simpa using h) hx hy;simpa using this
  ·cases h
def sj.nil{P:Program}:sj P []:=λt zs h=>by simp[GO] at h
def sj.cons{P:Program}{E:Td}{t:Nat}{z:LV}{fs:Array Field}(h1:P.eqGuardType P.depth t=false)(h2:AP P 4 t=some z)(h3:P.underlying t=some (.struct fs))(h:sj P E):sj P ((t,z)::E):=λu zs hu=>by
 unfold GO at hu;cases hb:iB t u with
 |true=>
  rw[hb] at hu;have:=eS hb;subst this;cases hu
  refine⟨h1,λxs ys hx hy w=>?_⟩;have:=QC 4 t z h2 xs ys hx hy (Op.maxDepth-8) w;have e:Op.maxDepth-8+2* 4=Op.maxDepth:=by decide
  rw[e] at this;unfold toV at this;rw[h3] at this;exact this
 |false=>
  rw[hb] at hu;exact h u zs hu
end Go.Den
