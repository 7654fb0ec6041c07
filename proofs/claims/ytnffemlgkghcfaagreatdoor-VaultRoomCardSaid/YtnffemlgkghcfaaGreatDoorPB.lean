/- Part of the proof: see the last text. -/
import Derived.Test.YtnffemlgkghcfaaGreatDoorPA
import Derived.ProofKit
import Derived.OpenShut
import Derived.ChangeOld
import Derived.SizedLaws
import Derived.Carry
import Derived.Deep.Slices
set_option linter.all false
set_option maxRecDepth 100000
set_option synthInstance.maxSize 100000
open Array renaming ext'→afc,replicate→aeI
open Bool renaming and_eq_true→aet,false_ne_true→ad4,true_and→aeC,noConfusion→ae4,false_eq_true→ad0
open Decidable renaming not_not→adO
open Go.IntKind renaming i64→adx
open Int renaming toNat_natCast→adB,tmod_eq_emod_of_nonneg→aei,eq_ofNat_of_zero_le→adL
open List renaming set_cons_succ→aeP,mem_cons→aeS,getElem?_eq_getElem→adA,getElem_mem→adZ,mem_of_getElem?→ad3,mem_append→aee,mem_or_eq_of_mem_set→aeq,getD_eq_getElem?_getD→aeD,mem_cons_of_mem→aeE,length_replicate→aeH,drop_zero→aeJ,take_of_length_le→adS,append_nil→adV,getElem?_append_left→adY,getElem?_append_right→aea,map_cons→aeb,flatMap_cons→aeo,flatMap_append→aex,getElem?_eq_none→aeB,getElem?_drop→aeQ,ext_getElem?→aeV,nil_append→aed,drop_of_length_le→aeh,take_zero→ae0,reverse_cons→ae6,length_append→adD,append_assoc→adI,length_map→ad1,map_append→ad8,mem_map→aek,take_succ_eq_append_getElem→aeu,map_congr_left→aeR,range→ae7,map_map→afb,replicate→adQ,Perm→ad2,length_nil→ad6,length_take→adF,length_drop→adM,drop_drop→aeK,set_set→aeO,take_take→ae9,length_cons→adW,getElem?_map→aen,mem_of_find?_eq_some→aey,cons_append→aeN,take_length→adN,getElem?_eq_some_iff→adC,drop_eq_getElem_cons→aef,getElem?_cons_succ→adR,getElem?_range→ae3,map_nil→afa,take_append_drop→ad5,getElem?_set→ad7,length_set→aeF
open Nat renaming le_refl→adG,zero_add→adE,add_mul→aeU,zero_le→adK,reduceAdd→ady,reduceMul→adz,le_of_ble_eq_true→adH,mul_one→ae8,sub_self→aeY,pow_le_pow_right→aer,mul_comm→ae',add_zero→aev,mod_eq_of_lt→aej,mul_le_mul_right→aem,min_eq_left→ae2
open Option renaming getD_some→aec,some→adU,map_some→ael,getD_none→aes
namespace Go.Prog
open Go.Den
def jX(d:BA)(K:VK):WK:=mk [.u 0,.u 0] fun e=>mk [.u 0,.u 0] fun h=>br (decide ((d.size:Int)<16)) (aj (ad h 0) 2 fun k=>aN 2 (ad e 0) k (aj (ad e 0) 2 fun l=>K (.tuple ⟨[.agg ⟨l⟩,.bool false]⟩))) ((lp [.p (some (ad e 0)),.bool false,.p (some (ad h 0)),.i 0] fun j m=>∀c f b a g,j [.p (some c),.bool f,.p (some b),.i a] g→(br (decide (a<8)) (tick (lU (b.add 1) fun n=>uQ d a fun o=>bl ((0:Int)≤(adx.wrap (8* a))) (st (b.add 1) (.u (bG .u64 .or n (shl .u64 (IntKind.u64.wrap (o.toNat:Int)) (adx.wrap (8* a))))) (tick (lU b fun q=>uQ d (adx.wrap (8+a)) fun r=>bl ((0:Int)≤(adx.wrap (8* a))) (st b (.u (bG .u64 .or q (shl .u64 (IntKind.u64.wrap (r.toNat:Int)) (adx.wrap (8* a))))) ((ct j m [.p (some c),.bool f,.p (some b),.i (adx.wrap (a+1))] [.p (some c),.bool f,.p (some b),.i a] g)))))))) (aj b 2 fun s=>aN 2 c s (aj c 2 fun t=>K (.tuple ⟨[.agg ⟨t⟩,.bool true]⟩)))) g))
def jX.u:WP|[.string a],K=>jX a K|_,_=>no
def bw(c:OA)(K:VK):WK:=mk [.u 0,.u 0] fun a=>cb c 16 (xS fun d=>jX d (x2 fun e f=>(xA 2 fun g=>(xB fun j=>mk [.u 0,.u 0] fun b=>aN 2 (ad b 0) g (aj (ad b 0) 2 fun h=>aN 2 (ad a 0) h (aj (ad a 0) 2 fun i=>K (.agg ⟨i⟩)))) f) e))
def bw.u:WP|[.pointer a],K=>bw a K|_,_=>no
def lG(a:OA)(K:VK):WK:=mk c8 fun b=>bw a (xA 2 fun c=>bw a (xA 2 fun d=>bw a (xA 2 fun e=>bw a (xA 2 fun f=>bw a (xA 2 fun g=>ao a 4 (xI .i64 fun h=>ao a 2 (xI .i64 fun j=>ao a 2 (xI .i64 fun k=>ao a 8 (xI .i64 fun l=>bl (c.length=2∧(d.length=2∧(e.length=2∧(f.length=2∧(g.length=2∧(1=1∧(1=1∧(1=1∧(1=1∧True))))))))) (mk c8 fun m=>bl ((c++(d++(e++(f++(g++([.i h,.i j,.i k,.i l]:LV)))))).length=14) (iN (ad m 0) (c++(d++(e++(f++(g++([.i h,.i j,.i k,.i l]:LV)))))) (bD a (xB fun n=>br n (bl True (bl (14=14) (iN (ad b 0) c8 (aj (ad b 0) 14 fun o=>K (.agg ⟨o⟩))))) (aj (ad m 0) 14 fun p=>aN 14 (ad b 0) p (aj (ad b 0) 14 fun q=>K (.agg ⟨q⟩))))))))))))))))
def lG.u:WP|[.pointer a],K=>lG a K|_,_=>no
def kx(a:OA)(K:VK):WK:=mk gM fun b=>bw a (xA 2 fun c=>bw a (xA 2 fun d=>bw a (xA 2 fun e=>bw a (xA 2 fun f=>bw a (xA 2 fun g=>ao a 4 (xI .i64 fun h=>ao a 4 (xI .i64 fun j=>ao a 2 (xI .i64 fun k=>ao a 2 (xI .i64 fun l=>ao a 8 (xI .i64 fun m=>ao a 8 (xI .i64 fun n=>bl (c.length=2∧(d.length=2∧(e.length=2∧(f.length=2∧(g.length=2∧(1=1∧(1=1∧(1=1∧(1=1∧(1=1∧(1=1∧True))))))))))) (mk gM fun o=>bl ((c++(d++(e++(f++(g++([.i h,.i j,.i k,.i l,.i m,.i n]:LV)))))).length=16) (iN (ad o 0) (c++(d++(e++(f++(g++([.i h,.i j,.i k,.i l,.i m,.i n]:LV)))))) (bD a (xB fun p=>br p (bl True (bl (16=16) (iN (ad b 0) gM (aj (ad b 0) 16 fun q=>K (.agg ⟨q⟩))))) (aj (ad o 0) 16 fun r=>aN 16 (ad b 0) r (aj (ad b 0) 16 fun s=>K (.agg ⟨s⟩))))))))))))))))))
def kx.u:WP|[.pointer a],K=>kx a K|_,_=>no
def iY(a:OA)(K:VK):WK:=br (a.isNone) (K (.i 0)) (nn a fun b=>lT (b.add 1) fun c=>br c (K (.i 0)) (nn a fun d=>lS d fun e=>K (.i (e.size:Int))))
def iY.u:WP|[.pointer a],K=>iY a K|_,_=>no
def nR(K:VK):WK:=Fx 32 Ix 8 8 fun a b c=>bl (1=1∧True) (mk [.l a b c,.i 0,.i 0] fun d=>K (.p (some (ad d 0))))
def nR.u:WP|[],K=>nR K|_,_=>no
def iL(a:OA)(K:VK):WK:=bl (1=1∧True) (mk [.l none 0 0,.p a] fun b=>K (.p (some (ad b 0))))
def iL.u:WP|[.pointer a],K=>iL a K|_,_=>no
def jU(a:OA)(K:VK):WK:=bl (1=1∧True) (mk [.l none 0 0,.p a] fun b=>K (.p (some (ad b 0))))
def jU.u:WP|[.pointer a],K=>jU a K|_,_=>no
def m8(K:VK):WK:=nR (xP fun b=>nR (xP fun c=>bl (1=1∧(1=1∧True)) (mk [.l none 0 0,.p none,.p none,.p b,.p c,.l none 0 0,.l none 0 0,.i 0,.i 0] fun a=>tick (iL (some (ad a 0)) (xP fun d=>jU (some (ad a 0)) (xP fun e=>st (ad a 1) (.p d) (st (ad a 2) (.p e) (K (.p (some (ad a 0)))))))))))
def m8.u:WP|[],K=>m8 K|_,_=>no
def gZ(a:OA)(K:VK):WK:=br (!(a.isNone)) (nn a fun c=>lL c fun d b n=>Q5 (Builtin.zeroCells ⟨[.nilFunc]⟩ b).toList d b (nn a fun e=>lL e fun f g h=>oC f g h 1 none (some 0) fun i j k=>nn a fun m=>st m (.l i j k) (K (.tuple ⟨[]⟩)))) (K (.tuple ⟨[]⟩))
def gZ.u:WP|[.pointer a],K=>gZ a K|_,_=>no
def lZ(e:LV)(K:VK):WK:=mk e fun a=>lU (ad a 1) fun b=>lU (ad a 0) fun c=>bl ((0:Int)≤31) (lU (ad a 0) fun d=>bl ((0:Int)≤33) (bl ((0:Int)≤29) (K (.u (bG .u64 .xor (IntKind.u64.wrap ((bG .u64 .xor (bG .u64 .xor b (shl .u64 c 31)) (shr .u64 d 33))* 11400714819323198485)) (shr .u64 (IntKind.u64.wrap ((bG .u64 .xor (bG .u64 .xor b (shl .u64 c 31)) (shr .u64 d 33))* 11400714819323198485)) 29))))))
def lZ.u:WP|[.agg ⟨a⟩],K=>lZ a K|_,_=>no
def bt.j3(K:VK)(a:Int)(g:LI)(c:Addr)(d:Int)(e:Bool)(b f:Int)(h:LM)(j:World)(k:Bool):WK:=br k (K (.tuple ⟨[.i (adx.wrap a),.bool true]⟩)) ((ct g h [.p (some c),.i d,.bool e,.u b,.i f,.u (bG .u64 .and (IntKind.u64.wrap (a+1)) b)] [.p (some c),.i d,.bool e,.u b,.i f,.u a] j))
def bt.j2(K:VK)(f:LI)(a:Addr)(d:Int)(e:Bool)(b c:Int)(g:LM)(h:Int)(j:World)(k:Nat)(l:Bool):WK:=br l ((ct f g [.p (some a),.i d,.bool e,.u b,.i (adx.wrap c),.u (bG .u64 .and (IntKind.u64.wrap (c+1)) b)] [.p (some a),.i d,.bool e,.u b,.i h,.u c] j)) (lB (ad k 3) fun m=>br (m==1) (aj (ad k 0) 2 fun n=>aj a 2 fun o=>oa [.u 0,.u 0] n o fun q=>bt.j3 K c f a d e b h g j q) (bt.j3 K c f a d e b h g j false))
def bt.j1(K:VK)(c:Int)(a:Nat)(b:Int)(d:LI)(e:Addr)(f:Int)(g:Bool)(h:Int)(j:LM)(k:World)(l:Bool):WK:=br l (K (.tuple ⟨[.i (adx.wrap c),.bool false]⟩)) (lB (ad a 3) fun m=>br (m==0) (K (.tuple ⟨[.i b,.bool false]⟩)) (lB (ad a 3) fun n=>br (n==2) (bt.j2 K d e f g h c j b k a (decide (b<0))) (bt.j2 K d e f g h c j b k a false)))
def bt(k:OA)(o:LV)(K:VK):WK:=mk o fun l=>nn k fun q=>lL q fun A m B=>aj (ad l 0) 2 fun r=>lZ r (xI .u64 fun s=>(lp [.p (some (ad l 0)),.i 0,.bool false,.u (IntKind.u64.wrap (adx.wrap ((m:Int) -1))),.i (-1),.u (bG .u64 .and s (IntKind.u64.wrap (adx.wrap ((m:Int) -1))))] fun e n=>∀f g h j a b c,e [.p (some f),.i g,.bool h,.u j,.i a,.u b] c→(nn k fun t=>lL t fun v w C=>iO v w b 4 fun x=>aj x 4 fun y=>mk Ix fun d=>aN 4 (ad d 0) y (lB (ad d 3) fun z=>br (z==0) (bt.j1 K b d a e f g h j n c (decide (a<0))) (bt.j1 K b d a e f g h j n c false))) c))
def bt.u:WP|[.pointer a,.agg ⟨b⟩],K=>bt a b K|_,_=>no
def dx(a:OA)(b:LV)(K:VK):WK:=mk b fun c=>br (a.isNone) (K (.tuple ⟨[.i 0,.bool false]⟩)) (aj (ad c 0) 2 fun d=>bt a d (x2 fun e f=>(xI .i64 fun g=>(xB fun h=>br (!h) (K (.tuple ⟨[.i 0,.bool false]⟩)) (nn a fun j=>lL j fun k l o=>iO k l g 4 fun m=>lI (m.add 2) fun n=>K (.tuple ⟨[.i n,.bool true]⟩))) f) e))
def dx.u:WP|[.pointer a,.agg ⟨b⟩],K=>dx a b K|_,_=>no
def ja(b:OA)(K:VK):WK:=nn b fun s=>lL s fun t u v=>(lp [.l t u v,.i 8] fun q w=>∀j g k c o,q [.l j g k,.i c] o→(nn b fun x=>lI (x.add 1) fun y=>br (decide (c<(adx.wrap (3* (adx.wrap (y+1)))))) ((ct q w [.l j g k,.i (adx.wrap (c* 2))] [.l j g k,.i c] o)) (Fx 32 Ix c c fun z A B=>nn b fun C=>st C (.l z A B) (nn b fun D=>st (D.add 2) (.i 0) ((lp [.l j g k,.i (g:Int),.i 0] fun p r=>∀d e h f a m,p [.l d e h,.i f,.i a] m→(br (decide (a<f)) (iO d e a 4 fun E=>aj E 4 fun F=>mk Ix fun n=>aN 4 (ad n 0) F (lB (ad n 3) fun G=>br (G==1) (aj (ad n 0) 2 fun H=>bt b H (x2 fun I J=>(xI .i64 fun M=>(xB fun T=>tick (nn b fun O=>lL O fun P Q V=>aj (ad n 0) 4 fun R=>iO P Q M 4 fun S=>aN 4 S R ((ct p r [.l d e h,.i f,.i (adx.wrap (a+1))] [.l d e h,.i f,.i a] m)))) J) I)) ((ct p r [.l d e h,.i f,.i (adx.wrap (a+1))] [.l d e h,.i f,.i a] m)))) (K (.tuple ⟨[]⟩))) m))))) o)
def ja.u:WP|[.pointer a],K=>ja a K|_,_=>no
def bT.j2(K:VK)(a:OA)(d:Nat)(e c:Int):WK:=tick (nn a fun f=>lL f fun g h n=>aj (ad d 0) 2 fun b=>bl (b.length=2∧(1=1∧(1=1∧True))) (iO g h e 4 fun j=>bl ((b++([.i c,.int .u8 1]:LV)).length=4) (iN j (b++([.i c,.int .u8 1]:LV)) (nn a fun k=>lI (k.add 1) fun l=>nn a fun m=>st (m.add 1) (.i (adx.wrap (l+1))) (K (.bool true))))))
def bT.j1(K:VK)(c:Nat)(a:OA)(d:Int):WK:=aj (ad c 0) 2 fun e=>bt a e (x2 fun f g=>(xI .i64 fun b=>(xB fun h=>br h (nn a fun j=>lL j fun k l v=>iO k l b 4 fun m=>st (m.add 2) (.i d) (K (.bool false))) (nn a fun n=>lL n fun o p w=>iO o p b 4 fun q=>lB (q.add 3) fun r=>br (r==2) (nn a fun s=>lI (s.add 2) fun t=>nn a fun u=>st (u.add 2) (.i (adx.wrap (t-1))) (bT.j2 K a c b d)) (bT.j2 K a c b d))) g) f)
def bT(a:OA)(d:LV)(b:Int)(K:VK):WK:=mk d fun c=>br (a.isNone) (K (.bool false)) (tick (nn a fun e=>lI (e.add 1) fun f=>nn a fun g=>lI (g.add 2) fun h=>nn a fun i=>lL i fun k j l=>br (decide ((adx.wrap (4* (adx.wrap ((adx.wrap (f+h))+1))))>(adx.wrap (3* (j:Int))))) (ja a (x0 (bT.j1 K c a b))) (bT.j1 K c a b)))
def bT.u:WP|[.pointer a,.agg ⟨b⟩,.int .i64 c],K=>bT a b c K|_,_=>no
def dE(a:OA)(b:Value)(K:VK):WK:=br (!(a.isNone)) (nn a fun c=>lL c fun d e f=>bl ((dg b).length=1∧True) (mk ((dg b)++[]) fun g=>gj 1 8 [.nilFunc] d e f (some ⟨g,0,none⟩) 1 fun h i j=>nn a fun k=>st k (.l h i j) (K (.tuple ⟨[]⟩)))) (K (.tuple ⟨[]⟩))
def dE.u:WP|[.pointer a,b],K=>dE a b K|_,_=>no
def aZ(a b:Addr)(K:VK):WK:=tick (lP a fun c=>lP a fun d=>nn d fun e=>lL e fun f g h=>lI b fun i=>oC f g h 14 none (some i) fun j k m=>nn c fun n=>st n (.l j k m) (K (.tuple ⟨[]⟩)))
def aZ.u:WP|[.pointer (some a),.pointer (some b)],K=>aZ a b K|_,_=>no
def cY(j:OA)(k:LV)(K:VK):WK:=mk [.p j] fun a=>mk k fun m=>lP (ad a 0) fun n=>br (n.isNone) (K (.i (-1))) (lP (ad a 0) fun o=>nn o fun q=>lL q fun C r D=>mk [.i 0] fun b=>st (ad b 0) (.i (r:Int)) (tick (lP (ad a 0) fun c=>lP (ad a 0) fun d=>nn d fun e=>lL e fun f g h=>aj (ad m 0) 14 fun s=>EA 14 s fun t=>kp e [.l f g h] (kp (ad a 0) [.p d] (kp (ad a 0) [.p c] (gj 14 112 c8 f g h (some ⟨t,0,none⟩) 1 fun u v w=>kp (ad a 0) [.p d] (kp (ad a 0) [.p c] (nn c fun x=>st x (.l u v w) (lP (ad a 0) fun y=>nn y fun z=>lP (z.add 1) fun A=>dE A (.func (.func N.aZ) ⟨[]⟩ ⟨[.p (some (ad a 0)),.p (some (ad b 0))]⟩) (x0 (lI (ad b 0) fun B=>K (.i B))))))))))))
def cY.u:WP|[.pointer a,.agg ⟨b⟩],K=>cY a b K|_,_=>no
def dy(a:Int)(b c:Addr)(K:VK):WK:=tick (lP b fun d=>nn d fun e=>lL e fun f g k=>iO f g a 2 fun h=>lI h fun i=>lI c fun j=>K (.bool (decide (i≥j))))
def dy.u:WP|[.int .i64 a,.pointer (some b),.pointer (some c)],K=>dy a b c K|_,_=>no
def mM(g:Int)(h:Value)(K:VK):WK:=(lp [.i 0,.i 0,.i g] fun e f=>∀c a b d,e [.i c,.i a,.i b] d→(br (decide (a<b)) (bl ((0:Int)≤1) (s9 [(N.dy,dy.u)] h [.i (adx.wrap (shr .u64 (IntKind.u64.wrap (adx.wrap (a+b))) 1))] (xB fun j=>br (!j) ((ct e f [.i c,.i (adx.wrap ((adx.wrap (shr .u64 (IntKind.u64.wrap (adx.wrap (a+b))) 1))+1)),.i b] [.i c,.i a,.i b] d)) ((ct e f [.i c,.i a,.i (adx.wrap (shr .u64 (IntKind.u64.wrap (adx.wrap (a+b))) 1))] [.i c,.i a,.i b] d))))) (K (.i a))) d)
def mM.u:WP|[.int .i64 a,b],K=>mM a b K|_,_=>no
def gA(b:OA)(c:Int)(K:VK):WK:=mk [.p b] fun a=>mk [.i c] fun d=>lP (ad a 0) fun e=>nn e fun f=>lL f fun j g k=>mM (g:Int) (.func (.func N.dy) ⟨[]⟩ ⟨[.p (some (ad a 0)),.p (some (ad d 0))]⟩) (xI .i64 fun h=>K (.i h))
def gA.u:WP|[.pointer a,.int .i64 b],K=>gA a b K|_,_=>no
def eO.j1(K:VK)(a:OA)(b c n:Int)(o:Bool):WK:=br o (nn a fun p=>lL p fun q r M=>iO q r b 2 fun s=>st (s.add 1) (.i c) (K (.bool false))) (nn a fun t=>lL t fun u v w=>bl True (bl (2=2∧True) (mk [.i 0,.i 0] fun x=>gj 2 16 [.i 0,.i 0] u v w (some ⟨x,0,none⟩) 1 fun y z A=>nn a fun B=>st B (.l y z A) (tick (nn a fun d=>lL d fun e f g=>oC e f g 2 (some (adx.wrap (b+1))) none fun C D O=>nn a fun h=>lL h fun j k m=>oC j k m 2 (some b) none fun E F P=>NV 2 C D E F fun m1=>kp h [.l j k m] (kp d [.l e f g] (nn a fun G=>lL G fun H I Q=>bl (1=1∧(1=1∧True)) (iO H I b 2 fun J=>bl (2=2) (iN J [.i n,.i c] (K (.bool true)))))))))))
def eO(a:OA)(b d:Int)(K:VK):WK:=br (a.isNone) (K (.bool false)) (gA a b (xI .i64 fun c=>nn a fun e=>lL e fun l f m=>br (decide (c<(f:Int))) (nn a fun g=>lL g fun h i n=>iO h i c 2 fun j=>lI j fun k=>eO.j1 K a c d b (k==b)) (eO.j1 K a c d b false)))
def eO.u:WP|[.pointer a,.int .i64 b,.int .i64 c],K=>eO a b c K|_,_=>no
def cj(a:OA)(K:VK):WK:=br (a.isNone) (K (.i 0)) (nn a fun b=>lL b fun d c e=>K (.i (c:Int)))
def cj.u:WP|[.pointer a],K=>cj a K|_,_=>no
def bB(a b:Addr)(K:VK):WK:=tick (lP a fun c=>lP a fun d=>nn d fun e=>lL e fun f g h=>lI b fun i=>oC f g h 33 none (some i) fun j k m=>nn c fun n=>st n (.l j k m) (K (.tuple ⟨[]⟩)))
def bB.u:WP|[.pointer (some a),.pointer (some b)],K=>bB a b K|_,_=>no
def dO(j:OA)(k:LV)(K:VK):WK:=mk [.p j] fun a=>mk k fun m=>lP (ad a 0) fun n=>br (n.isNone) (K (.i (-1))) (lP (ad a 0) fun o=>nn o fun q=>lL q fun C r D=>mk [.i 0] fun b=>st (ad b 0) (.i (r:Int)) (tick (lP (ad a 0) fun c=>lP (ad a 0) fun d=>nn d fun e=>lL e fun f g h=>aj (ad m 0) 33 fun s=>EA 33 s fun t=>kp e [.l f g h] (kp (ad a 0) [.p d] (kp (ad a 0) [.p c] (gj 33 264 bj f g h (some ⟨t,0,none⟩) 1 fun u v w=>kp (ad a 0) [.p d] (kp (ad a 0) [.p c] (nn c fun x=>st x (.l u v w) (lP (ad a 0) fun y=>nn y fun z=>lP (z.add 1) fun A=>dE A (.func (.func N.bB) ⟨[]⟩ ⟨[.p (some (ad a 0)),.p (some (ad b 0))]⟩) (x0 (lI (ad b 0) fun B=>K (.i B))))))))))))
def dO.u:WP|[.pointer a,.agg ⟨b⟩],K=>dO a b K|_,_=>no
def mZ(j:LV)(K:VK):WK:=mk j fun a=>mk tj fun c=>tick (lI (ad a 31) fun d=>lI (ad a 26) fun e=>lI (ad a 30) fun f=>aj (ad a 16) 2 fun b=>bl (1=1∧(1=1∧(b.length=2∧True))) (lI (ad a 32) fun g=>br (g==1) (lI (ad a 26) fun h=>bl ((([.i (adx.wrap (d+e)),.i f]:LV)++(b++[])).length=4) (iN (ad c 0) (([.i (adx.wrap (d+e)),.i f]:LV)++(b++[])) (kp (ad a 26) [.i h] (kp (ad a 32) [.i g] (aj (ad c 0) 4 fun k=>K (.tuple ⟨[.agg ⟨k⟩,.bool (decide (h>0))]⟩)))))) (bl ((([.i (adx.wrap (d+e)),.i f]:LV)++(b++[])).length=4) (iN (ad c 0) (([.i (adx.wrap (d+e)),.i f]:LV)++(b++[])) (kp (ad a 32) [.i g] (aj (ad c 0) 4 fun l=>K (.tuple ⟨[.agg ⟨l⟩,.bool false]⟩)))))))
def mZ.u:WP|[.agg ⟨a⟩],K=>mZ a K|_,_=>no
def kF(c d:LV)(K:VK):WK:=mk c fun a=>mk d fun b=>lI (ad a 0) fun e=>lI (ad b 0) fun f=>br (decide (e<f)) (K (.bool true)) (lI (ad a 0) fun g=>lI (ad b 0) fun h=>br (g==h) (lI (ad a 1) fun i=>lI (ad b 1) fun j=>K (.bool (decide (i<j)))) (K (.bool false)))
def kF.u:WP|[.agg ⟨a⟩,.agg ⟨b⟩],K=>kF a b K|_,_=>no
def eL.j1(K:VK)(b:OA)(a:Int)(c:LI)(d:LM)(e:World)(f:Bool):WK:=br f (tick (nn b fun g=>lL g fun h j z=>nn b fun k=>lL k fun l m A=>bl ((2:Int)≠0) (nn b fun n=>lL n fun o p B=>bl ((2:Int)≠0) (iO o p (adx.wrap ((adx.wrap (a-1)).tdiv (2:Int))) 4 fun q=>aj q 4 fun r=>nn b fun s=>lL s fun t u C=>iO t u a 4 fun v=>aj v 4 fun w=>iO h j a 4 fun x=>aN 4 x r (iO l m (adx.wrap ((adx.wrap (a-1)).tdiv (2:Int))) 4 fun y=>aN 4 y w (bl ((2:Int)≠0) ((ct c d [.i (adx.wrap ((adx.wrap (a-1)).tdiv (2:Int)))] [.i a] e)))))))) (K (.tuple ⟨[]⟩))
def eL(b:OA)(n:Int)(K:VK):WK:=(lp [.i n] fun d e=>∀a c,d [.i a] c→(tick (br (decide (a>0)) (nn b fun f=>lL f fun g h o=>iO g h a 4 fun p=>aj p 4 fun q=>nn b fun j=>lL j fun k m r=>bl ((2:Int)≠0) (iO k m (adx.wrap ((adx.wrap (a-1)).tdiv (2:Int))) 4 fun s=>aj s 4 fun t=>kF q t (xB fun u=>kp j [.l k m r] (kp f [.l g h o] (eL.j1 K b a d e c u))))) (eL.j1 K b a d e c false))) c)
def eL.u:WP|[.pointer a,.int .i64 b],K=>eL a b K|_,_=>no
def gw(a:OA)(f:LV)(K:VK):WK:=mk f fun g=>br (!(a.isNone)) (tick (nn a fun b=>lL b fun c d e=>aj (ad g 0) 4 fun h=>EA 4 h fun i=>kp b [.l c d e] (gj 4 32 tj c d e (some ⟨i,0,none⟩) 1 fun j k m=>nn a fun n=>st n (.l j k m) (nn a fun o=>lL o fun q p r=>eL a (adx.wrap ((p:Int) -1)) (x0 (K (.tuple ⟨[]⟩))))))) (K (.tuple ⟨[]⟩))
def gw.u:WP|[.pointer a,.agg ⟨b⟩],K=>gw a b K|_,_=>no
def b9.j2(K:VK)(a:OA)(b:Nat)(k:LI)(c:OA)(d:Int)(e:OA)(f g:Nat)(h j:Int)(m:LM)(n:World)(t:Bool):WK:=br t (K (.tuple ⟨[.p none,.i 1]⟩)) (tick (nn a fun o=>lP (o.add 4) fun q=>aj (ad b 16) 2 fun r=>nn a fun u=>lP (u.add 2) fun v=>aj (ad b 0) 33 fun w=>dO v w (xI .i64 fun x=>kp (ad b 16) r (kp (o.add 4) [.p q] (bT q r x (xB fun F=>aj (ad b 0) 33 fun y=>mZ y (x2 fun z A=>(xA 4 fun B=>(xB fun C=>mk tj fun s=>aN 4 (ad s 0) B (br C (tick (nn a fun D=>aj (ad s 0) 4 fun E=>gw (some (D.add 6)) E (x0 ((ct k m [.p c,.i d,.p a,.l e f g,.i h,.i (adx.wrap (j+1))] [.p c,.i d,.p a,.l e f g,.i h,.i j] n))))) ((ct k m [.p c,.i d,.p a,.l e f g,.i h,.i (adx.wrap (j+1))] [.p c,.i d,.p a,.l e f g,.i h,.i j] n)))) A) z)))))))
def b9.j1(K:VK)(I J:OA)(B M:Nat)(O:OA)(C P:Nat)(Q R:Int)(S:Bool):WK:=br S (K (.tuple ⟨[.p none,.i 1]⟩)) ((lp [.p none,.i 0,.p I,.l J B M,.i (B:Int),.i 0] fun D T=>∀r s c t u x v j y,D [.p r,.i s,.p c,.l t u x,.i v,.i j] y→(br (decide (j<v)) (iO t u j 14 fun V=>aj V 14 fun W=>mk c8 fun k=>aN 14 (ad k 0) W (tick (nn c fun X=>lP (X.add 3) fun Y=>aj (ad k 0) 2 fun Z=>dx Y Z (x2 fun v1 v2=>(xI .i64 fun n6=>(xB fun b2=>br b2 (K (.tuple ⟨[.p none,.i 1]⟩)) (tick (nn c fun E=>lP (E.add 3) fun F=>aj (ad k 0) 2 fun G=>nn c fun a4=>lP (a4.add 1) fun p6=>aj (ad k 0) 14 fun Yw=>cY p6 Yw (xI .i64 fun n7=>kp (ad k 0) G (kp (E.add 3) [.p F] (bT F G n7 (xB fun b3=>(ct D T [.p r,.i s,.p c,.l t u x,.i v,.i (adx.wrap (j+1))] [.p r,.i s,.p c,.l t u x,.i v,.i j] y)))))))) v2) v1)))) ((lp [.p r,.i s,.p c,.l O C P,.i (C:Int),.i 0] fun m w=>∀n o b e f q g d h,m [.p n,.i o,.p b,.l e f q,.i g,.i d] h→(br (decide (d<g)) (iO e f d 33 fun a5=>aj a5 33 fun UR=>mk bj fun a=>aN 33 (ad a 0) UR (tick (nn b fun a6=>lP (a6.add 4) fun p9=>aj (ad a 16) 2 fun cs6=>dx p9 cs6 (x2 fun v3 v4=>(xI .i64 fun Vu=>(xB fun b4=>tick (br b4 (b9.j2 K b a m n o e f q g d w h true) (lI (ad a 32) fun z=>br (decide (z<0)) (b9.j2 K b a m n o e f q g d w h true) (lI (ad a 32) fun A=>br (decide (A>4)) (b9.j2 K b a m n o e f q g d w h true) (nn b fun a10=>lI (ad a 30) fun H=>nn b fun a11=>lP (a11.add 2) fun p12=>cj p12 (xI .i64 fun uP=>kp (ad a 30) [.i H] (kp (ad a 32) [.i A] (kp (ad a 32) [.i z] (eO (some (a10.add 5)) H uP (xB fun b8=>kp (ad a 32) [.i A] (kp (ad a 32) [.i z] (b9.j2 K b a m n o e f q g d w h (!b8))))))))))))) v4) v3)))) (nn b fun a12=>st (a12.add 7) (.i Q) (nn b fun a13=>st (a13.add 8) (.i R) (nn b fun a14=>gZ (some a14) (x0 (K (.tuple ⟨[.p b,.i 0]⟩))))))) h))) y))
def b9.j5(K:VK)(b c:OA)(d e:Nat)(f:OA)(g h:Nat)(i a:Int)(j:Bool):WK:=br j (b9.j1 K b c d e f g h i a true) (br (decide (a<0)) (b9.j1 K b c d e f g h i a true) (b9.j1 K b c d e f g h i a (decide (a>1099511627776))))
def b9.j4(K:VK)(b c:OA)(d e:Nat)(f:OA)(g h:Nat)(a i:Int)(j:Bool):WK:=br j (b9.j5 K b c d e f g h a i true) (b9.j5 K b c d e f g h a i (decide (a>1099511627776)))
def b9.j3(K:VK)(b c:OA)(d e:Nat)(f:OA)(g h:Nat)(a i:Int)(j:Bool):WK:=br j (b9.j4 K b c d e f g h a i true) (b9.j4 K b c d e f g h a i (decide (a<0)))
def b9(c:OA)(a d:Nat)(e:OA)(b f:Nat)(g h:Int)(K:VK):WK:=m8 (xP fun i=>br (decide ((a:Int)>32)) (b9.j3 K i c a d e b f g h true) (b9.j3 K i c a d e b f g h (decide ((b:Int)>96))))
def b9.u:WP|[.slice a b c,.slice d e f,.int .i64 g,.int .i64 h],K=>b9 a b c d e f g h K|_,_=>no
def jB.j1(K:VK)(J:OA)(M O P Q:Int)(R:Bool):WK:=br R (K (.tuple ⟨[.p none,.i 4]⟩)) ((lp [.p none,.i 0,.p J,.i M,.i O,.i P,.l none 0 0,.i Q,.i 0] fun F S=>∀c d b e f g h j k m n z,F [.p c,.i d,.p b,.i e,.i f,.i g,.l h j k,.i m,.i n] z→(br (decide (n<m)) (lG b (xA 14 fun T=>EA 14 T fun V=>gj 14 112 c8 h j k (some ⟨V,0,none⟩) 1 fun W X Y=>(ct F S [.p c,.i d,.p b,.i e,.i f,.i g,.l W X Y,.i m,.i (adx.wrap (n+1))] [.p c,.i d,.p b,.i e,.i f,.i g,.l h j k,.i m,.i n] z))) ((lp [.p c,.i d,.p b,.i e,.i f,.l h j k,.l none 0 0,.i g,.i 0] fun G Z=>∀A B a o q r s t u v w x y C,G [.p A,.i B,.p a,.i o,.i q,.l r s t,.l u v w,.i x,.i y] C→(br (decide (y<x)) (kx a (xA 16 fun D=>kx a (xA 16 fun E=>ao a 1 (xI .i64 fun H=>bl (D.length=16∧(E.length=16∧(1=1∧True))) (bl ((D++(E++([.i H]:LV))).length=33∧True) (mk ((D++(E++([.i H]:LV)))++[]) fun r2=>gj 33 264 bj u v w (some ⟨r2,0,none⟩) 1 fun sb5 sn5 sc5=>(ct G Z [.p A,.i B,.p a,.i o,.i q,.l r s t,.l sb5 sn5 sc5,.i x,.i (adx.wrap (y+1))] [.p A,.i B,.p a,.i o,.i q,.l r s t,.l u v w,.i x,.i y] C))))))) (b9 r s t u v w o q (x2 fun v1 v2=>(xP fun p6=>(xI .i64 fun I=>br (I !=0) (K (.tuple ⟨[.p none,.i 4]⟩)) (gv a (xB fun b2=>br (!b2) (K (.tuple ⟨[.p none,.i 4]⟩)) (K (.tuple ⟨[.p p6,.i I]⟩))))) v2) v1))) C))) z))
def jB(f:BA)(K:VK):WK:=jV f (xP fun a=>ao a 1 (xI .i64 fun g=>br (g !=1) (K (.tuple ⟨[.p none,.i 4]⟩)) (ao a 8 (xI .i64 fun d=>ao a 8 (xI .i64 fun e=>ao a 2 (xI .i64 fun b=>ao a 2 (xI .i64 fun c=>bD a (xB fun h=>br h (jB.j1 K a d e c b true) (iY a (xI .i64 fun j=>jB.j1 K a d e c b (j !=(adx.wrap ((adx.wrap (b* 96))+(adx.wrap (c* 217)))))))))))))))
def jB.u:WP|[.string a],K=>jB a K|_,_=>no
def nE(c:OA)(e:LV)(K:VK):WK:=mk e fun f=>mk Zm fun b=>kL c (x2 fun g h=>(xA 4 fun j=>(xB fun k=>mk Zm fun a=>aN 4 (ad a 0) j (br (!k) (tick (aj (ad a 0) 4 fun d=>m8 (xP fun l=>kp (ad a 0) d (aN 4 (ad b 0) d (aj (ad b 0) 4 fun m=>K (.tuple ⟨[.p l,.agg ⟨m⟩,.i 0]⟩)))))) (aj (ad f 0) 5 fun n=>lI (ad a 0) fun o=>lI (ad a 1) fun q=>lI (ad a 2) fun r=>jO n c o q r (x2 fun s t=>(xS fun u=>(xB fun v=>br (!v) (tick (aj (ad a 0) 4 fun w=>aN 4 (ad b 0) w (aj (ad b 0) 4 fun x=>K (.tuple ⟨[.p none,.agg ⟨x⟩,.i 4]⟩)))) (jB u (x2 fun y z=>(xP fun A=>(xI .i64 fun B=>tick (aj (ad a 0) 4 fun C=>aN 4 (ad b 0) C (aj (ad b 0) 4 fun D=>K (.tuple ⟨[.p A,.agg ⟨D⟩,.i B]⟩)))) z) y))) t) s)))) h) g)
def nE.u:WP|[.pointer a,.agg ⟨b⟩],K=>nE a b K|_,_=>no
def fH(f:OA)(n:Value)(K:VK):WK:=ao f 1 (xI .i64 fun o=>(lp [.l none 0 0,.l none 0 0,.i o,.i 0] fun m q=>∀g h j a b c d e k,m [.l g h j,.l a b c,.i d,.i e] k→(br (decide (e<d)) (bD f (xB fun r=>br r (K (.l a b c)) (s9 [(N.lG,lG.u),(N.ao,ao.u),(N.bD,bD.u)] n [.p f] (xA 14 fun s=>EA 14 s fun t=>gj 14 112 c8 a b c (some ⟨t,0,none⟩) 1 fun v w x=>(ct m q [.l g h j,.l v w x,.i d,.i (adx.wrap (e+1))] [.l g h j,.l a b c,.i d,.i e] k))))) (K (.l a b c))) k))
def fH.u:WP|[.pointer a,b],K=>fH a b K|_,_=>no
def fj(f:OA)(n:Value)(K:VK):WK:=ao f 1 (xI .i64 fun o=>(lp [.l none 0 0,.l none 0 0,.i o,.i 0] fun m q=>∀g h j a b c d e k,m [.l g h j,.l a b c,.i d,.i e] k→(br (decide (e<d)) (bD f (xB fun r=>br r (K (.l a b c)) (s9 [(N.ao,ao.u),(N.bD,bD.u),(N.kx,kx.u)] n [.p f] (xA 16 fun s=>EA 16 s fun t=>gj 16 128 gM a b c (some ⟨t,0,none⟩) 1 fun v w x=>(ct m q [.l g h j,.l v w x,.i d,.i (adx.wrap (e+1))] [.l g h j,.l a b c,.i d,.i e] k))))) (K (.l a b c))) k))
def fj.u:WP|[.pointer a,b],K=>fj a b K|_,_=>no
def gF(b:OA)(K:VK):WK:=ao b 1 (xI .i64 fun a=>br (!(b.isNone)) (br (decide (a>1)) (nn b fun c=>st (c.add 1) (.bool true) (K (.bool (a==1)))) (K (.bool (a==1)))) (K (.bool (a==1))))
def gF.u:WP|[.pointer a],K=>gF a K|_,_=>no
def iz(f:OA)(n:Value)(K:VK):WK:=ao f 1 (xI .i64 fun o=>(lp [.l none 0 0,.l none 0 0,.i o,.i 0] fun m q=>∀g h j a b c d e k,m [.l g h j,.l a b c,.i d,.i e] k→(br (decide (e<d)) (bD f (xB fun r=>br r (K (.l a b c)) (s9 [(N.ao,ao.u),(N.bw,bw.u),(N.bD,bD.u)] n [.p f] (xA 2 fun s=>EA 2 s fun t=>gj 2 16 [.u 0,.u 0] a b c (some ⟨t,0,none⟩) 1 fun v w x=>(ct m q [.l g h j,.l v w x,.i d,.i (adx.wrap (e+1))] [.l g h j,.l a b c,.i d,.i e] k))))) (K (.l a b c))) k))
def iz.u:WP|[.pointer a,b],K=>iz a b K|_,_=>no
def lN(c:LV)(K:VK):WK:=mk c fun a=>lI (ad a 0) fun b=>br (b==1) (lL (ad a 1) fun j d k=>br (decide ((d:Int)≥1)) (lL (ad a 1) fun l e m=>K (.bool (decide ((e:Int)≤8)))) (K (.bool false))) (br (b==2) (lL (ad a 2) fun n f o=>br (decide ((f:Int)≥1)) (lL (ad a 2) fun p g q=>K (.bool (decide ((g:Int)≤8)))) (K (.bool false))) (br (b==3) (lI (ad a 3) fun h=>br (decide (h≥0)) (lI (ad a 3) fun i=>K (.bool (decide (i≤1099511627776)))) (K (.bool false))) (K (.bool false))))
def lN.u:WP|[.agg ⟨a⟩],K=>lN a K|_,_=>no
def eo.j4(K:VK)(a:Nat)(b:Bool):WK:=br b (lT (ad a 4) fun c=>br c (K (.bool true)) (lT (ad a 5) fun d=>K (.bool d))) (K (.bool false))
def eo.j3(K:VK)(a:Nat)(b:Bool):WK:=br b (lI (ad a 7) fun c=>eo.j4 K a (decide (c≤16))) (eo.j4 K a false)
def eo.j2(K:VK)(a:Nat)(b:Bool):WK:=br b (lI (ad a 7) fun c=>eo.j3 K a (decide (c≥1))) (eo.j3 K a false)
def eo.j1(K:VK)(b:Nat)(c:Int)(d:Bool):WK:=br d (lL (ad b 4) fun j e k=>br (decide ((e:Int)≥1)) (lL (ad b 4) fun l f m=>K (.bool (decide ((f:Int)≤16)))) (K (.bool false))) (br (c==6) (aj (ad b 5) 8 fun g=>mk EC fun a=>aN 8 (ad a 0) g (lI (ad a 2) fun h=>br (decide (h≥0)) (lI (ad a 3) fun i=>eo.j2 K a (decide (i≥0))) (eo.j2 K a false))) (K (.bool false)))
def eo(c:LV)(K:VK):WK:=mk c fun b=>lI (ad b 0) fun a=>br (a==4) (eo.j1 K b a (a==4)) (eo.j1 K b a (a==5))
def eo.u:WP|[.agg ⟨a⟩],K=>eo a K|_,_=>no
def fS.j3(K:VK)(a:Nat)(b:Bool):WK:=br b (lI (ad a 12) fun c=>br (decide (c≥0)) (lI (ad a 12) fun d=>K (.bool (decide (d≤65535)))) (K (.bool false))) (K (.bool false))
def fS.j2(K:VK)(a:Nat)(b:Bool):WK:=br b (lI (ad a 11) fun c=>fS.j3 K a (decide (c≤65535))) (fS.j3 K a false)
def fS.j1(K:VK)(a:Nat)(b:Bool):WK:=br b (lI (ad a 11) fun c=>fS.j2 K a (decide (c≥0))) (fS.j2 K a false)
def fS(b:LV)(K:VK):WK:=mk b fun a=>lI (ad a 10) fun c=>br (decide (c≥0)) (lI (ad a 10) fun d=>fS.j1 K a (decide (d≤4294967295))) (fS.j1 K a false)
def fS.u:WP|[.agg ⟨a⟩],K=>fS a K|_,_=>no
def dc.j5(K:VK)(a:Nat)(b:Bool):WK:=br b (lI (ad a 13) fun c=>br (decide (c≥0)) (lI (ad a 13) fun d=>K (.bool (decide (d≤65535)))) (K (.bool false))) (K (.bool false))
def dc.j4(K:VK)(a:Nat)(b:Bool):WK:=br b (lI (ad a 12) fun c=>dc.j5 K a (decide (c≤65535))) (dc.j5 K a false)
def dc.j3(K:VK)(a:Nat)(b:Bool):WK:=br b (lI (ad a 12) fun c=>dc.j4 K a (decide (c≥0))) (dc.j4 K a false)
def dc.j2(K:VK)(a:Nat)(b:Bool):WK:=br b (lI (ad a 11) fun c=>dc.j3 K a (decide (c≤4294967295))) (dc.j3 K a false)
def dc.j1(K:VK)(a:Nat)(b:Bool):WK:=br b (lI (ad a 11) fun c=>dc.j2 K a (decide (c≥0))) (dc.j2 K a false)
def dc(b:LV)(K:VK):WK:=mk b fun a=>lI (ad a 10) fun c=>br (decide (c≥0)) (lI (ad a 10) fun d=>dc.j1 K a (decide (d≤4294967295))) (dc.j1 K a false)
def dc.u:WP|[.agg ⟨a⟩],K=>dc a K|_,_=>no
def jT.j1(K:VK)(j:Nat)(y:Bool):WK:=br y (K (.bool false)) (lI (ad j 0) fun r=>br (r==1) (lL (ad j 1) fun z s A=>(lp [.bool false,.l z s A,.i (s:Int),.i 0] fun t B=>∀k c d m e a n,t [.bool k,.l c d m,.i e,.i a] n→(br (decide (a<e)) (iO c d a 14 fun C=>aj C 14 fun D=>mk c8 fun u=>aN 14 (ad u 0) D (aj (ad u 0) 14 fun E=>fS E (xB fun F=>br (!F) (K (.bool false)) ((ct t B [.bool k,.l c d m,.i e,.i (adx.wrap (a+1))] [.bool k,.l c d m,.i e,.i a] n))))) (K (.bool true))) n)) (br (r==2) (lL (ad j 2) fun G v H=>(lp [.bool false,.l G v H,.i (v:Int),.i 0] fun w I=>∀o f g p h b q,w [.bool o,.l f g p,.i h,.i b] q→(br (decide (b<h)) (iO f g b 16 fun J=>aj J 16 fun M=>mk gM fun x=>aN 16 (ad x 0) M (aj (ad x 0) 16 fun O=>dc O (xB fun P=>br (!P) (K (.bool false)) ((ct w I [.bool o,.l f g p,.i h,.i (adx.wrap (b+1))] [.bool o,.l f g p,.i h,.i b] q))))) (K (.bool true))) q)) (K (.bool true))))
def jT(b:LV)(K:VK):WK:=mk b fun a=>aj (ad a 0) 13 fun c=>lN c (xB fun d=>br (!d) (aj (ad a 0) 13 fun e=>eo e (xB fun f=>jT.j1 K a (!f))) (jT.j1 K a false))
def jT.u:WP|[.agg ⟨a⟩],K=>jT a K|_,_=>no
def iK.j1(K:VK)(c:OA)(a b:Nat):WK:=gv c (xB fun d=>br (!d) (bl True (bl (13=13) (iN (ad a 0) ni (aj (ad a 0) 13 fun e=>K (.tuple ⟨[.agg ⟨e⟩,.i 4]⟩))))) (aj (ad b 0) 13 fun f=>jT f (xB fun g=>br (!g) (bl True (bl (13=13) (iN (ad a 0) ni (aj (ad a 0) 13 fun h=>K (.tuple ⟨[.agg ⟨h⟩,.i 4]⟩))))) (aj (ad b 0) 13 fun j=>aN 13 (ad a 0) j (aj (ad a 0) 13 fun k=>K (.tuple ⟨[.agg ⟨k⟩,.i 0]⟩))))))
def iK(n:BA)(K:VK):WK:=mk ni fun c=>jV n (xP fun a=>ao a 1 (xI .i64 fun o=>bl (1=1∧True) (mk ni fun b=>bl (13=13) (iN (ad b 0) [.i o,.l none 0 0,.l none 0 0,.i 0,.l none 0 0,.u 0,.u 0,.i 0,.i 0,.bool false,.bool false,.bool false,.i 0] (lI (ad b 0) fun d=>br (d==1) (fH a (.func (.func N.lG) ⟨[]⟩ ⟨[]⟩) (xL fun p q r=>st (ad b 1) (.l p q r) (iK.j1 K a c b))) (br (d==2) (fj a (.func (.func N.kx) ⟨[]⟩ ⟨[]⟩) (xL fun s t v=>st (ad b 2) (.l s t v) (iK.j1 K a c b))) (br (d==3) (ao a 8 (xI .i64 fun w=>st (ad b 3) (.i w) (iK.j1 K a c b))) (br (d==6) (bw a (xA 2 fun e=>ao a 8 (xI .i64 fun f=>ao a 8 (xI .i64 fun g=>gF a (xB fun h=>gF a (xB fun j=>gF a (xB fun k=>ao a 1 (xI .i64 fun m=>bl (e.length=2∧(1=1∧(1=1∧(1=1∧(1=1∧(1=1∧(1=1∧True))))))) (bl ((e++([.i f,.i g,.bool h,.bool j,.bool k,.i m]:LV)).length=8) (iN (ad b 5) (e++([.i f,.i g,.bool h,.bool j,.bool k,.i m]:LV)) (iK.j1 K a c b))))))))))) (iz a (.func (.func N.bw) ⟨[]⟩ ⟨[]⟩) (xL fun x y z=>st (ad b 4) (.l x y z) (iK.j1 K a c b)))))))))))
def iK.u:WP|[.string a],K=>iK a K|_,_=>no
def jS(b:LV)(K:VK):WK:=mk b fun a=>lI (ad a 0) fun c=>br (c==1) (K (.bool true)) (lI (ad a 0) fun d=>br (d==2) (K (.bool true)) (lI (ad a 0) fun e=>K (.bool (e==3))))
def jS.u:WP|[.agg ⟨a⟩],K=>jS a K|_,_=>no
def eQ(a:LV)(K:VK):WK:=mk a fun b=>lI (ad b 12) fun c=>K (.bool ((bG .i64 .and c 1)!=0))
def eQ.u:WP|[.agg ⟨a⟩],K=>eQ a K|_,_=>no
def fr(n:OA)(e o:Nat)(p:Value)(K:VK):WK:=(lp [.i 0,.bool false,.l n e o,.i (e:Int),.i 0] fun k q=>∀f g b c h d a j,k [.i f,.bool g,.l b c h,.i d,.i a] j→(br (decide (a<d)) (iO b c a 14 fun r=>aj r 14 fun s=>mk c8 fun m=>aN 14 (ad m 0) s (aj (ad m 0) 14 fun t=>s9 [(N.eQ,eQ.u)] p [.agg ⟨t⟩] (xB fun v=>br (!v) (K (.tuple ⟨[.i (adx.wrap (a+1)),.bool true]⟩)) ((ct k q [.i f,.bool g,.l b c h,.i d,.i (adx.wrap (a+1))] [.i f,.bool g,.l b c h,.i d,.i a] j))))) (K (.tuple ⟨[.i (e:Int),.bool false]⟩))) j)
def fr.u:WP|[.slice a b c,d],K=>fr a b c d K|_,_=>no
def il(e:OA)(c m:Nat)(g h:Int)(K:VK):WK:=(lp [.i (c:Int),.i 0] fun f j=>∀b a d,f [.i b,.i a] d→(br (decide (a<b)) (iO e c a 1 fun k=>st k (.i 1) ((ct f j [.i b,.i (adx.wrap (a+1))] [.i b,.i a] d))) (iO e c g 1 fun l=>st l (.i h) (K (.tuple ⟨[]⟩)))) d)
def il.u:WP|[.slice a b c,.int .i64 d,.int .i64 e],K=>il a b c d e K|_,_=>no
def bX(a:OA)(K:VK):WK:=br (a.isNone) (K (.i 0)) (nn a fun b=>lL b fun d c e=>K (.i (c:Int)))
def bX.u:WP|[.pointer a],K=>bX a K|_,_=>no
def bC.j1(K:VK)(b a:Nat)(c:OA)(d:Int)(e:Bool):WK:=br e (aj (ad b 0) 14 fun f=>aN 14 (ad a 0) f (aj (ad a 0) 14 fun g=>K (.tuple ⟨[.agg ⟨g⟩,.bool false]⟩))) (nn c fun h=>lL h fun i j n=>iO i j d 14 fun k=>aj k 14 fun l=>aN 14 (ad a 0) l (aj (ad a 0) 14 fun m=>K (.tuple ⟨[.agg ⟨m⟩,.bool true]⟩)))
def bC(b:OA)(a:Int)(K:VK):WK:=mk c8 fun c=>mk c8 fun d=>br (decide (a<0)) (bC.j1 K d c b a true) (bX b (xI .i64 fun e=>bC.j1 K d c b a (decide (a≥e))))
def bC.u:WP|[.pointer a,.int .i64 b],K=>bC a b K|_,_=>no
def bJ(b:OA)(c:LV)(K:VK):WK:=mk c fun d=>mk c8 fun a=>br (b.isNone) (bl True (bl (14=14) (iN (ad a 0) c8 (aj (ad a 0) 14 fun e=>K (.tuple ⟨[.agg ⟨e⟩,.bool false]⟩))))) (tick (nn b fun f=>lP (f.add 3) fun g=>aj (ad d 0) 2 fun h=>dx g h (x2 fun i j=>(xI .i64 fun k=>(xB fun l=>br (!l) (bl True (bl (14=14) (iN (ad a 0) c8 (aj (ad a 0) 14 fun m=>K (.tuple ⟨[.agg ⟨m⟩,.bool false]⟩))))) (nn b fun n=>lP (n.add 1) fun o=>bC o k (x2 fun p q=>(xA 14 fun r=>(xB fun s=>aN 14 (ad a 0) r (aj (ad a 0) 14 fun t=>K (.tuple ⟨[.agg ⟨t⟩,.bool s]⟩))) q) p))) j) i)))
def bJ.u:WP|[.pointer a,.agg ⟨b⟩],K=>bJ a b K|_,_=>no
def eK(a:LV)(K:VK):WK:=mk a fun b=>aj (ad b 0) 2 fun c=>bl True (oa [.u 0,.u 0] c [.u 0,.u 0] fun d=>K (.bool d))
def eK.u:WP|[.agg ⟨a⟩],K=>eK a K|_,_=>no
def iq.j2(K:VK)(a:Nat)(b:Bool):WK:=br b (aj (ad a 8) 2 fun c=>eK c (xB fun d=>br d (lI (ad a 13) fun e=>K (.bool (e==0))) (K (.bool false)))) (K (.bool false))
def iq.j1(K:VK)(a:Nat)(b:Bool):WK:=br b (aj (ad a 6) 2 fun c=>eK c (xB fun d=>iq.j2 K a d)) (iq.j2 K a false)
def iq(b:LV)(K:VK):WK:=mk b fun a=>aj (ad a 2) 2 fun c=>eK c (xB fun d=>br d (aj (ad a 4) 2 fun e=>eK e (xB fun f=>iq.j1 K a f)) (iq.j1 K a false))
def iq.u:WP|[.agg ⟨a⟩],K=>iq a K|_,_=>no
def kf.j1(K:VK)(a:Nat)(b:Bool):WK:=br b (K (.i 8)) (lI (ad a 11) fun c=>br (decide (c<1)) (K (.i 9)) (lI (ad a 11) fun d=>br (decide (d>65535)) (K (.i 9)) (K (.i 0))))
def kf(b:LV)(K:VK):WK:=mk b fun a=>lI (ad a 12) fun c=>br ((bG .i64 .andNot c 7)!=0) (K (.i 3)) (aj (ad a 0) 2 fun d=>eK d (xB fun e=>br e (K (.i 4)) (aj (ad a 0) 2 fun f=>aj (ad N.pA 0) 2 fun g=>oa [.u 0,.u 0] f g fun h=>br h (K (.i 5)) (lI (ad a 12) fun j=>br ((bG .i64 .and j 6)==6) (K (.i 6)) (aj (ad a 0) 14 fun k=>iq k (xB fun l=>br (!l) (K (.i 7)) (lI (ad a 10) fun m=>br (decide (m<1)) (kf.j1 K a true) (lI (ad a 10) fun n=>kf.j1 K a (decide (n>4294967295))))))))))
def kf.u:WP|[.agg ⟨a⟩],K=>kf a K|_,_=>no
def kh.j1(K:VK)(a b:Nat)(c:Bool):WK:=br c (lI (ad a 12) fun d=>lI (ad b 12) fun e=>br ((bG .i64 .and d 6)==(bG .i64 .and e 6)) (K (.i 10)) (K (.i 11))) (K (.i 11))
def kh(c d:LV)(K:VK):WK:=mk c fun a=>mk d fun b=>lI (ad a 10) fun e=>lI (ad b 10) fun f=>br (e==f) (lI (ad a 11) fun g=>lI (ad b 11) fun h=>kh.j1 K a b (g==h)) (kh.j1 K a b false)
def kh.u:WP|[.agg ⟨a⟩,.agg ⟨b⟩],K=>kh a b K|_,_=>no
def cE(b:Addr)(K:VK):WK:=lP b fun a=>nn a fun c=>lI (c.add 8) fun d=>nn a fun e=>st (e.add 8) (.i (adx.wrap (d-1))) (K (.tuple ⟨[]⟩))
def cE.u:WP|[.pointer (some a)],K=>cE a K|_,_=>no
def ix(c:OA)(K:VK):WK:=mk [.p c] fun a=>lP (ad a 0) fun b=>nn b fun d=>lI (d.add 8) fun e=>nn b fun f=>st (f.add 8) (.i (adx.wrap (e+1))) (lP (ad a 0) fun g=>nn g fun h=>dE (some h) (.func (.func N.cE) ⟨[]⟩ ⟨[.p (some (ad a 0))]⟩) (x0 (lP (ad a 0) fun j=>nn j fun k=>lI (k.add 8) fun l=>K (.i l))))
def ix.u:WP|[.pointer a],K=>ix a K|_,_=>no
def iv(a:OA)(b:LV)(K:VK):WK:=mk b fun c=>br (a.isNone) (K (.bool false)) (aj (ad c 0) 2 fun d=>bt a d (x2 fun e f=>(xI .i64 fun g=>(xB fun h=>br (!h) (K (.bool false)) (nn a fun j=>lL j fun k l t=>bl (1=1∧True) (iO k l g 4 fun m=>bl (4=4) (iN m [.u 0,.u 0,.i 0,.int .u8 2] (nn a fun n=>lI (n.add 1) fun o=>nn a fun p=>st (p.add 1) (.i (adx.wrap (o-1))) (nn a fun q=>lI (q.add 2) fun r=>nn a fun s=>st (s.add 2) (.i (adx.wrap (r+1))) (K (.bool true)))))))) f) e))
def iv.u:WP|[.pointer a,.agg ⟨b⟩],K=>iv a b K|_,_=>no
def cH(a c:Addr)(K:VK):WK:=tick (lP a fun b=>nn b fun d=>lP (d.add 3) fun e=>aj c 2 fun f=>iv e f (xB fun g=>kp a [.p b] (K (.tuple ⟨[]⟩))))
def cH.u:WP|[.pointer (some a),.pointer (some b)],K=>cH a b K|_,_=>no
def gK(k:OA)(l:LV)(K:VK):WK:=mk [.p k] fun a=>mk l fun b=>lP (ad a 0) fun m=>br (m.isNone) (K (.i 2)) (lP (ad a 0) fun n=>nn n fun o=>lP (o.add 1) fun q=>bX q (xI .i64 fun r=>br (decide (r≥32)) (K (.i 6)) (tick (lP (ad a 0) fun e=>nn e fun s=>lP (s.add 3) fun t=>aj (ad b 0) 2 fun u=>dx t u (x2 fun v w=>(xI .i64 fun I=>(xB fun x=>kp (ad a 0) [.p e] (br x (K (.i 1)) (lP (ad a 0) fun y=>ix y (xI .i64 fun z=>st (ad b 13) (.i z) (tick (lP (ad a 0) fun c=>nn c fun f=>lP (f.add 3) fun g=>aj (ad b 0) 2 fun h=>lP (ad a 0) fun d=>nn d fun A=>lP (A.add 1) fun B=>bX B (xI .i64 fun C=>kp (ad a 0) [.p d] (kp (ad b 0) h (kp (f.add 3) [.p g] (kp (ad a 0) [.p c] (bT g h C (xB fun J=>kp (ad a 0) [.p d] (kp (ad a 0) [.p c] (lP (ad a 0) fun D=>nn D fun E=>dE (some E) (.func (.func N.cH) ⟨[]⟩ ⟨[.p (some (ad a 0)),.p (some (ad b 0))]⟩) (x0 (tick (lP (ad a 0) fun j=>nn j fun F=>lP (F.add 1) fun G=>aj (ad b 0) 14 fun H=>cY G H (xI .i64 fun M=>kp (ad a 0) [.p j] (K (.i 0)))))))))))))))))))) w) v)))))
def gK.u:WP|[.pointer a,.agg ⟨b⟩],K=>gK a b K|_,_=>no
def jD(b:OA)(e:LV)(K:VK):WK:=mk e fun a=>aj (ad a 0) 14 fun f=>kf f (xI .i64 fun c=>br (c !=0) (K (.i c)) (aj (ad a 0) 2 fun g=>bJ b g (x2 fun h j=>(xA 14 fun k=>(xB fun l=>mk c8 fun d=>aN 14 (ad d 0) k (br l (aj (ad a 0) 14 fun m=>aj (ad d 0) 14 fun n=>kh m n (xI .i64 fun o=>K (.i o))) (lI (ad a 12) fun p=>st (ad a 12) (.i (bG .i64 .andNot p 1)) (aj (ad a 0) 14 fun q=>gK b q (xI .i64 fun r=>br (r !=0) (K (.i 35)) (K (.i 0))))))) j) h)))
def jD.u:WP|[.pointer a,.agg ⟨b⟩],K=>jD a b K|_,_=>no
def kR(a:OA)(K:VK):WK:=br (a.isNone) (K (.i 0)) (nn a fun b=>lL b fun d c e=>K (.i (c:Int)))
def kR.u:WP|[.pointer a],K=>kR a K|_,_=>no
def dk(a:OA)(K:VK):WK:=br (a.isNone) (K (.i 0)) (nn a fun b=>kR (some b) (xI .i64 fun c=>K (.i c)))
def dk.u:WP|[.pointer a],K=>dk a K|_,_=>no
def cF(a b:Addr)(K:VK):WK:=lP b fun c=>lI a fun d=>nn c fun e=>st (e.add 7) (.i d) (K (.tuple ⟨[]⟩))
def cF.u:WP|[.pointer (some a),.pointer (some b)],K=>cF a b K|_,_=>no
def cW(a c:Addr)(K:VK):WK:=tick (lP a fun b=>nn b fun d=>aj c 4 fun e=>gw (some (d.add 6)) e (x0 (kp a [.p b] (K (.tuple ⟨[]⟩)))))
def cW.u:WP|[.pointer (some a),.pointer (some b)],K=>cW a b K|_,_=>no
def eJ.j1(K:VK)(a:OA)(b:Int)(m:Bool):WK:=br m (K (.bool false)) (tick (nn a fun c=>lL c fun d e f=>oC d e f 2 none (some b) fun n o p=>nn a fun g=>lL g fun h j k=>oC h j k 2 (some (adx.wrap (b+1))) none fun q r w=>gj 2 16 [.i 0,.i 0] n o p q r fun s t u=>kp g [.l h j k] (kp c [.l d e f] (nn a fun v=>st v (.l s t u) (K (.bool true))))))
def eJ(a:OA)(c:Int)(K:VK):WK:=br (a.isNone) (K (.bool false)) (gA a c (xI .i64 fun b=>nn a fun d=>lL d fun k e l=>br (b==(e:Int)) (eJ.j1 K a b true) (nn a fun f=>lL f fun g h m=>iO g h b 2 fun i=>lI i fun j=>eJ.j1 K a b (j !=c))))
def eJ.u:WP|[.pointer a,.int .i64 b],K=>eJ a b K|_,_=>no
def cJ(a d e:Addr)(K:VK):WK:=tick (lP a fun b=>nn b fun f=>lP (f.add 4) fun g=>aj d 2 fun h=>iv g h (xB fun k=>kp a [.p b] (tick (lP a fun c=>nn c fun i=>lI (e.add 30) fun j=>eJ (some (i.add 5)) j (xB fun l=>kp a [.p c] (K (.tuple ⟨[]⟩)))))))
def cJ.u:WP|[.pointer (some a),.pointer (some b),.pointer (some c)],K=>cJ a b c K|_,_=>no
def cn.j1(K:VK)(a:OA)(d:LI)(e:LM)(f:Int)(g:World)(c b:Int):WK:=br (b==c) (K (.tuple ⟨[]⟩)) (tick (nn a fun h=>lL h fun j k A=>nn a fun l=>lL l fun m n B=>nn a fun o=>lL o fun p q C=>iO p q b 4 fun r=>aj r 4 fun s=>nn a fun t=>lL t fun u v D=>iO u v c 4 fun w=>aj w 4 fun x=>iO j k c 4 fun y=>aN 4 y s (iO m n b 4 fun z=>aN 4 z x ((ct d e [.i b] [.i f] g)))))
def cn.j2(K:VK)(d:OA)(a b:Int)(e:LI)(c:Int)(f:LM)(g:World)(p:LI)(q:LM)(r:Int)(s:World)(t:Bool):WK:=br t (tick (nn d fun h=>lL h fun j k u=>iO j k a 4 fun v=>aj v 4 fun w=>nn d fun m=>lL m fun n o x=>iO n o b 4 fun y=>aj y 4 fun z=>kF w z (xB fun A=>kp m [.l n o x] (kp h [.l j k u] (br A ((ct e f [.i c,.i a,.i (adx.wrap (a+1))] [.i c,.i b,.i a] g)) ((ct e f [.i c,.i b,.i (adx.wrap (a+1))] [.i c,.i b,.i a] g))))))) (cn.j1 K d p q r s c b)
def cn(f:OA)(m:Int)(K:VK):WK:=(lp [.i m] fun g k=>∀a c,g [.i a] c→((lp [.i a,.i a,.i (adx.wrap ((adx.wrap (2* a))+1))] fun h l=>∀d j b e,h [.i d,.i j,.i b] e→(br (decide (b≤(adx.wrap ((adx.wrap (2* d))+2)))) (nn f fun n=>lL n fun p o q=>cn.j2 K f b j h d l e g k a c (decide (b<(o:Int)))) (cn.j2 K f b j h d l e g k a c false)) e)) c)
def cn.u:WP|[.pointer a,.int .i64 b],K=>cn a b K|_,_=>no
def iZ(a:OA)(b:Int)(K:VK):WK:=mk tj fun d=>tick (nn a fun g=>lL g fun h i o=>iO h i b 4 fun j=>aj j 4 fun k=>nn a fun e=>lL e fun m c n=>mk tj fun f=>kp e [.l m c n] (kp j k (kp g [.l h i o] (aN 4 (ad f 0) k (kp e [.l m c n] (tick (nn a fun p=>lL p fun q r M=>nn a fun s=>lL s fun t u O=>iO t u (adx.wrap ((c:Int) -1)) 4 fun v=>aj v 4 fun w=>iO q r b 4 fun x=>aN 4 x w (nn a fun y=>lL y fun z A B=>oC z A B 4 none (some (adx.wrap ((c:Int) -1))) fun C D E=>nn a fun F=>st F (.l C D E) (br (decide (b<(adx.wrap ((c:Int) -1)))) (cn a b (x0 (eL a b (x0 (aj (ad f 0) 4 fun G=>aN 4 (ad d 0) G (aj (ad d 0) 4 fun H=>K (.agg ⟨H⟩))))))) (aj (ad f 0) 4 fun I=>aN 4 (ad d 0) I (aj (ad d 0) 4 fun J=>K (.agg ⟨J⟩))))))))))))
def iZ.u:WP|[.pointer a,.int .i64 b],K=>iZ a b K|_,_=>no
def gG(e:OA)(n:Int)(K:VK):WK:=br (e.isNone) (K (.bool false)) (nn e fun o=>lL o fun p j q=>(lp [.bool false,.l p j q,.i (j:Int),.i 0] fun k r=>∀f b c g d a h,k [.bool f,.l b c g,.i d,.i a] h→(br (decide (a<d)) (iO b c a 4 fun s=>aj s 4 fun t=>mk tj fun m=>aN 4 (ad m 0) t (lI (ad m 1) fun u=>br (u==n) (iZ e a (xA 4 fun v=>K (.bool true))) ((ct k r [.bool f,.l b c g,.i d,.i (adx.wrap (a+1))] [.bool f,.l b c g,.i d,.i a] h)))) (K (.bool false))) h))
def gG.u:WP|[.pointer a,.int .i64 b],K=>gG a b K|_,_=>no
def cI(a c:Addr)(K:VK):WK:=tick (lP a fun b=>nn b fun d=>lI (c.add 1) fun e=>gG (some (d.add 6)) e (xB fun f=>kp a [.p b] (K (.tuple ⟨[]⟩))))
def cI.u:WP|[.pointer (some a),.pointer (some b)],K=>cI a b K|_,_=>no
def aY(a b c:Addr)(K:VK):WK:=tick (lP b fun d=>nn d fun e=>lL e fun f g k=>lI c fun h=>aj a 14 fun i=>iO f g h 14 fun j=>aN 14 j i (K (.tuple ⟨[]⟩)))
def aY.u:WP|[.pointer (some a),.pointer (some b),.pointer (some c)],K=>aY a b c K|_,_=>no
def bA(a b c:Addr)(K:VK):WK:=tick (lP b fun d=>nn d fun e=>lL e fun f g k=>lI c fun h=>aj a 33 fun i=>iO f g h 33 fun j=>aN 33 j i (K (.tuple ⟨[]⟩)))
def bA.u:WP|[.pointer (some a),.pointer (some b),.pointer (some c)],K=>bA a b c K|_,_=>no
def kS(a:OA)(e:Int)(K:VK):WK:=br (a.isNone) (K (.tuple ⟨[]⟩)) ((lp [] fun c f=>∀b,c [] b→(nn a fun g=>lL g fun y h z=>br (decide ((h:Int)>(max2 e 0))) (nn a fun i=>lL i fun A d B=>nn a fun j=>lL j fun k m C=>iO k m (adx.wrap ((d:Int) -1)) 1 fun n=>ld n fun o=>s9 [(N.cW,cW.u),(N.cJ,cJ.u),(N.cI,cI.u),(N.cH,cH.u),(N.cF,cF.u),(N.cE,cE.u),(N.aZ,aZ.u),(N.aY,aY.u),(N.bB,bB.u),(N.bA,bA.u)] o [] (x0 (nn a fun p=>lL p fun q r s=>oC q r s 1 none (some (adx.wrap ((d:Int) -1))) fun t v w=>nn a fun x=>st x (.l t v w) ((ct c f [] [] b))))) (K (.tuple ⟨[]⟩))) b))
def kS.u:WP|[.pointer a,.int .i64 b],K=>kS a b K|_,_=>no
def dw(a:OA)(b:Int)(K:VK):WK:=br (!(a.isNone)) (nn a fun c=>kS (some c) b (x0 (K (.tuple ⟨[]⟩)))) (K (.tuple ⟨[]⟩))
def dw.u:WP|[.pointer a,.int .i64 b],K=>dw a b K|_,_=>no
def fK(f o:OA)(j q:Nat)(r:OA)(s t:Nat)(v:Value)(K:VK):WK:=dk f (xI .i64 fun w=>(lp [.i w,.l o j q,.i (j:Int),.i 0] fun k x=>∀b c d g e a h,k [.i b,.l c d g,.i e,.i a] h→(br (decide (a<e)) (iO c d a 14 fun y=>aj y 14 fun z=>mk c8 fun m=>aN 14 (ad m 0) z (aj (ad m 0) 14 fun A=>s9 [(N.dw,dw.u),(N.dk,dk.u),(N.jD,jD.u),(N.il,il.u)] v [.p f,.agg ⟨A⟩] (xI .i64 fun n=>br (n !=0) (dw f b (x0 (il r s t a n (x0 (K (.tuple ⟨[]⟩)))))) ((ct k x [.i b,.l c d g,.i e,.i (adx.wrap (a+1))] [.i b,.l c d g,.i e,.i a] h))))) (K (.tuple ⟨[]⟩))) h))
def fK.u:WP|[.pointer a,.slice b c d,.slice e f g,h],K=>fK a b c d e f g h K|_,_=>no
def gY(t n:OA)(e o:Nat)(u v:Value)(K:VK):WK:=Fx 8 [.i 0] (e:Int) (e:Int) fun w x y=>(lp [.l none 0 0,.l w x y,.i 0] fun m p=>∀f g h b c d a k,m [.l f g h,.l b c d,.i a] k→(br (decide (a<(e:Int))) (oC n e o 14 (some a) none fun z A B=>fr z A B (u) (x2 fun C D=>(xI .i64 fun j=>(xB fun E=>oC b c d 1 (some a) (some (adx.wrap (a+j))) fun q r s=>br (!E) (il q r s (adx.wrap (j-1)) 2 (x0 ((ct m p [.l f g h,.l b c d,.i (adx.wrap (a+j))] [.l f g h,.l b c d,.i a] k)))) (oC n e o 14 (some a) (some (adx.wrap (a+j))) fun F G H=>fK t F G H q r s (v) (x0 ((ct m p [.l f g h,.l b c d,.i (adx.wrap (a+j))] [.l f g h,.l b c d,.i a] k))))) D) C)) (K (.l b c d))) k)
def gY.u:WP|[.pointer a,.slice b c d,e,f],K=>gY a b c d e f K|_,_=>no
def ke(a b:OA)(c d:Nat)(K:VK):WK:=gY a b c d (.func (.func N.eQ) ⟨[]⟩ ⟨[]⟩) (.func (.func N.jD) ⟨[]⟩ ⟨[]⟩) (xL fun e f g=>K (.l e f g))
def ke.u:WP|[.pointer a,.slice b c d],K=>ke a b c d K|_,_=>no
def dQ(a:LV)(K:VK):WK:=mk a fun b=>lI (ad b 13) fun c=>K (.bool ((bG .i64 .and c 1)!=0))
def dQ.u:WP|[.agg ⟨a⟩],K=>dQ a K|_,_=>no
def eP(n:OA)(e o:Nat)(p:Value)(K:VK):WK:=(lp [.i 0,.bool false,.l n e o,.i (e:Int),.i 0] fun k q=>∀f g b c h d a j,k [.i f,.bool g,.l b c h,.i d,.i a] j→(br (decide (a<d)) (iO b c a 16 fun r=>aj r 16 fun s=>mk gM fun m=>aN 16 (ad m 0) s (aj (ad m 0) 16 fun t=>s9 [(N.dQ,dQ.u)] p [.agg ⟨t⟩] (xB fun v=>br (!v) (K (.tuple ⟨[.i (adx.wrap (a+1)),.bool true]⟩)) ((ct k q [.i f,.bool g,.l b c h,.i d,.i (adx.wrap (a+1))] [.i f,.bool g,.l b c h,.i d,.i a] j))))) (K (.tuple ⟨[.i (e:Int),.bool false]⟩))) j)
def eP.u:WP|[.slice a b c,d],K=>eP a b c d K|_,_=>no
def mw(a:LV)(K:VK):WK:=mk a fun b=>lI (ad b 13) fun c=>K (.bool ((bG .i64 .and c 12)!=0))
def mw.u:WP|[.agg ⟨a⟩],K=>mw a K|_,_=>no
def hI(a:LV)(K:VK):WK:=mk a fun b=>lI (ad b 13) fun c=>K (.bool ((bG .i64 .and c 2)!=0))
def hI.u:WP|[.agg ⟨a⟩],K=>hI a K|_,_=>no
def gp.j1(K:VK)(a:Addr)(b:Bool):WK:=br b (lI (a.add 13) fun c=>br ((bG .i64 .and c 192)==0) (K (.bool true)) (aj a 16 fun d=>hI d (xB fun e=>K (.bool e)))) (K (.bool false))
def gp(j:LV)(K:VK):WK:=mk j fun k=>bl (1=1∧(1=1∧(1=1∧True))) ((lp [.p (some (ad k 0)),.bool false,.i 0,.agg ⟨[.i 2,.i 4,.i 8]⟩,.i 0] fun g h=>∀a e c d b f,g [.p (some a),.bool e,.i c,.agg ⟨d⟩,.i b] f→(br (decide (b<3)) (yq d 3 b (xI .i64 fun l=>lI (a.add 13) fun m=>br ((bG .i64 .and m l)!=0) ((ct g h [.p (some a),.bool e,.i (adx.wrap (c+1)),.agg ⟨d⟩,.i (adx.wrap (b+1))] [.p (some a),.bool e,.i c,.agg ⟨d⟩,.i b] f)) ((ct g h [.p (some a),.bool e,.i c,.agg ⟨d⟩,.i (adx.wrap (b+1))] [.p (some a),.bool e,.i c,.agg ⟨d⟩,.i b] f)))) (br (decide (c≤1)) (aj a 16 fun n=>mw n (xB fun o=>br o (lI (a.add 13) fun q=>gp.j1 K a (!((bG .i64 .and q 240)!=0))) (gp.j1 K a true))) (gp.j1 K a false))) f))
def gp.u:WP|[.agg ⟨a⟩],K=>gp a K|_,_=>no
def jl.j1(K:VK)(a:Nat)(b:Bool):WK:=br b (K (.i 8)) (lI (ad a 12) fun c=>br (decide (c<0)) (K (.i 9)) (lI (ad a 12) fun d=>br (decide (d>65535)) (K (.i 9)) (K (.i 0))))
def jl(b:LV)(K:VK):WK:=mk b fun a=>aj (ad a 8) 2 fun c=>eK c (xB fun d=>br d (K (.i 16)) (lI (ad a 11) fun e=>br (decide (e<0)) (jl.j1 K a true) (lI (ad a 11) fun f=>jl.j1 K a (decide (f>4294967295)))))
def jl.u:WP|[.agg ⟨a⟩],K=>jl a K|_,_=>no
def jM(a:LV)(K:VK):WK:=mk a fun b=>lI (ad b 13) fun c=>K (.bool ((bG .i64 .and c 48)!=0))
def jM.u:WP|[.agg ⟨a⟩],K=>jM a K|_,_=>no
def fU.j2(K:VK)(a:Nat)(b:Bool):WK:=br b (K (.i 8)) (lI (ad a 12) fun c=>br (decide (c<1)) (K (.i 9)) (lI (ad a 12) fun d=>br (decide (d>65535)) (K (.i 9)) (K (.i 0))))
def fU.j1(K:VK)(a:Nat)(b:Bool):WK:=br b (K (.i 18)) (lI (ad a 11) fun c=>br (decide (c<1)) (fU.j2 K a true) (lI (ad a 11) fun d=>fU.j2 K a (decide (d>4294967295))))
def fU(b:LV)(K:VK):WK:=mk b fun a=>aj (ad a 2) 2 fun c=>eK c (xB fun d=>br d (K (.i 12)) (aj (ad a 4) 2 fun e=>eK e (xB fun f=>br f (K (.i 13)) (aj (ad a 2) 2 fun g=>aj (ad a 4) 2 fun h=>oa [.u 0,.u 0] g h fun j=>br j (K (.i 14)) (aj (ad a 8) 2 fun k=>eK k (xB fun l=>br (!l) (K (.i 15)) (aj (ad a 6) 2 fun m=>eK m (xB fun n=>br n (aj (ad a 0) 16 fun o=>jM o (xB fun p=>fU.j1 K a (!p))) (fU.j1 K a false)))))))))
def fU.u:WP|[.agg ⟨a⟩],K=>fU a K|_,_=>no
def cB.j3(K:VK)(a:Nat)(b:Bool):WK:=br b (K (.i 17)) (aj (ad a 0) 16 fun c=>mw c (xB fun d=>br d (aj (ad a 0) 16 fun e=>jl e (xI .i64 fun f=>K (.i f))) (aj (ad a 0) 16 fun g=>fU g (xI .i64 fun h=>K (.i h)))))
def cB.j4(K:VK)(a:Nat)(b:Bool):WK:=br b (cB.j3 K a true) (lI (ad a 10) fun c=>br (c !=0) (aj (ad a 0) 16 fun d=>hI d (xB fun e=>cB.j3 K a (!e))) (cB.j3 K a false))
def cB.j2(K:VK)(a:Nat)(b:Bool):WK:=br b (K (.i 7)) (lI (ad a 10) fun c=>br (decide (c<0)) (cB.j4 K a true) (lI (ad a 10) fun d=>cB.j4 K a (decide (d>1073741824))))
def cB.j1(K:VK)(a:Nat)(b:Bool):WK:=br b (K (.i 3)) (aj (ad a 0) 2 fun c=>eK c (xB fun d=>br d (K (.i 4)) (aj (ad a 0) 2 fun e=>aj (ad N.pA 0) 2 fun f=>oa [.u 0,.u 0] e f fun g=>br g (K (.i 5)) (aj (ad a 0) 16 fun h=>gp h (xB fun j=>br (!j) (K (.i 6)) (lI (ad a 14) fun k=>br (k !=0) (cB.j2 K a true) (lI (ad a 15) fun l=>cB.j2 K a (l !=0))))))))
def cB(b:LV)(K:VK):WK:=mk b fun a=>lI (ad a 13) fun c=>br (decide (c<0)) (cB.j1 K a true) (lI (ad a 13) fun d=>cB.j1 K a (decide (d>255)))
def cB.u:WP|[.agg ⟨a⟩],K=>cB a K|_,_=>no
def bE.j1(K:VK)(b a:Nat)(c:OA)(d:Int)(e:Bool):WK:=br e (aj (ad b 0) 33 fun f=>aN 33 (ad a 0) f (aj (ad a 0) 33 fun g=>K (.tuple ⟨[.agg ⟨g⟩,.bool false]⟩))) (nn c fun h=>lL h fun i j n=>iO i j d 33 fun k=>aj k 33 fun l=>aN 33 (ad a 0) l (aj (ad a 0) 33 fun m=>K (.tuple ⟨[.agg ⟨m⟩,.bool true]⟩)))
def bE(b:OA)(a:Int)(K:VK):WK:=mk bj fun c=>mk bj fun d=>br (decide (a<0)) (bE.j1 K d c b a true) (cj b (xI .i64 fun e=>bE.j1 K d c b a (decide (a≥e))))
def bE.u:WP|[.pointer a,.int .i64 b],K=>bE a b K|_,_=>no
def dm(b:OA)(c:LV)(K:VK):WK:=mk c fun d=>mk bj fun a=>br (b.isNone) (bl True (bl (33=33) (iN (ad a 0) bj (aj (ad a 0) 33 fun e=>K (.tuple ⟨[.agg ⟨e⟩,.bool false]⟩))))) (tick (nn b fun f=>lP (f.add 4) fun g=>aj (ad d 0) 2 fun h=>dx g h (x2 fun i j=>(xI .i64 fun k=>(xB fun l=>br (!l) (bl True (bl (33=33) (iN (ad a 0) bj (aj (ad a 0) 33 fun m=>K (.tuple ⟨[.agg ⟨m⟩,.bool false]⟩))))) (nn b fun n=>lP (n.add 2) fun o=>bE o k (x2 fun p q=>(xA 33 fun r=>(xB fun s=>aN 33 (ad a 0) r (aj (ad a 0) 33 fun t=>K (.tuple ⟨[.agg ⟨t⟩,.bool s]⟩))) q) p))) j) i)))
def dm.u:WP|[.pointer a,.agg ⟨b⟩],K=>dm a b K|_,_=>no
def dH(d:OA)(e:Int)(f:LV)(K:VK):WK:=mk [.p d] fun a=>mk [.i e] fun b=>mk f fun g=>lP (ad a 0) fun h=>lI (ad b 0) fun j=>bC h j (x2 fun k l=>(xA 14 fun m=>(xB fun n=>mk c8 fun c=>aN 14 (ad c 0) m (br (!n) (K (.bool false)) (tick (lP (ad a 0) fun o=>nn o fun q=>lL q fun r s z=>lI (ad b 0) fun t=>aj (ad g 0) 14 fun u=>iO r s t 14 fun v=>aN 14 v u (lP (ad a 0) fun w=>nn w fun x=>lP (x.add 1) fun y=>dE y (.func (.func N.aY) ⟨[]⟩ ⟨[.p (some (ad c 0)),.p (some (ad a 0)),.p (some (ad b 0))]⟩) (x0 (K (.bool true)))))))) l) k)
def dH.u:WP|[.pointer a,.int .i64 b,.agg ⟨c⟩],K=>dH a b c K|_,_=>no
def fE(a:OA)(d:LV)(K:VK):WK:=mk d fun b=>aj (ad b 0) 2 fun e=>bJ a e (x2 fun f g=>(xA 14 fun h=>(xB fun j=>mk c8 fun c=>aN 14 (ad c 0) h (br (a.isNone) (K (.i 2)) (br (!j) (K (.i 5)) (tick (nn a fun k=>lP (k.add 3) fun l=>aj (ad b 0) 2 fun m=>dx l m (x2 fun n o=>(xI .i64 fun p=>(xB fun u=>lI (ad c 13) fun q=>st (ad b 13) (.i q) (tick (nn a fun r=>lP (r.add 1) fun s=>aj (ad b 0) 14 fun t=>dH s p t (xB fun v=>K (.i 0))))) o) n)))))) g) f)
def fE.u:WP|[.pointer a,.agg ⟨b⟩],K=>fE a b K|_,_=>no
def mJ(d e:LV)(K:VK):WK:=mk d fun b=>mk e fun a=>tick (lI (ad b 13) fun f=>lI (ad a 13) fun c=>st (ad b 13) (.i (bG .i64 .andNot f 1)) (kp (ad a 13) [.i c] (st (ad a 13) (.i (bG .i64 .andNot c 1)) (aj (ad b 0) 16 fun g=>aj (ad a 0) 16 fun h=>oa gM g h fun j=>br j (K (.i 10)) (K (.i 11))))))
def mJ.u:WP|[.agg ⟨a⟩,.agg ⟨b⟩],K=>mJ a b K|_,_=>no
def oN(g:OA)(h:LV)(K:VK):WK:=mk h fun d=>mk lH fun a=>aj (ad d 2) 2 fun j=>bJ g j (x2 fun k l=>(xA 14 fun m=>(xB fun n=>mk c8 fun b=>aN 14 (ad b 0) m (aj (ad d 4) 2 fun o=>bJ g o (x2 fun p q=>(xA 14 fun r=>(xB fun s=>mk c8 fun c=>aN 14 (ad c 0) r (br (!n) (bl True (bl (28=28) (iN (ad a 0) lH (aj (ad a 0) 28 fun t=>K (.tuple ⟨[.agg ⟨t⟩,.i 19]⟩))))) (br (!s) (bl True (bl (28=28) (iN (ad a 0) lH (aj (ad a 0) 28 fun u=>K (.tuple ⟨[.agg ⟨u⟩,.i 20]⟩))))) (lI (ad b 10) fun v=>lI (ad c 10) fun w=>br (v !=w) (bl True (bl (28=28) (iN (ad a 0) lH (aj (ad a 0) 28 fun x=>K (.tuple ⟨[.agg ⟨x⟩,.i 21]⟩))))) (lI (ad b 10) fun y=>lI (ad d 11) fun z=>br (y !=z) (bl True (bl (28=28) (iN (ad a 0) lH (aj (ad a 0) 28 fun A=>K (.tuple ⟨[.agg ⟨A⟩,.i 22]⟩))))) (lI (ad b 12) fun B=>br ((bG .i64 .and B 8)!=0) (bl True (bl (28=28) (iN (ad a 0) lH (aj (ad a 0) 28 fun C=>K (.tuple ⟨[.agg ⟨C⟩,.i 30]⟩))))) (lI (ad c 12) fun D=>br ((bG .i64 .and D 8)!=0) (bl True (bl (28=28) (iN (ad a 0) lH (aj (ad a 0) 28 fun E=>K (.tuple ⟨[.agg ⟨E⟩,.i 31]⟩))))) (aj (ad b 0) 14 fun e=>aj (ad c 0) 14 fun f=>bl (e.length=14∧(f.length=14∧True)) (bl ((e++(f++[])).length=28) (iN (ad a 0) (e++(f++[])) (aj (ad a 0) 28 fun F=>K (.tuple ⟨[.agg ⟨F⟩,.i 0]⟩)))))))))))) q) p))) l) k)
def oN.u:WP|[.pointer a,.agg ⟨b⟩],K=>oN a b K|_,_=>no
def iy(a:OA)(K:VK):WK:=br (!(a.isNone)) (nn a fun b=>lP (b.add 2) fun c=>cj c (xI .i64 fun d=>K (.bool (decide (d<96))))) (K (.bool false))
def iy.u:WP|[.pointer a],K=>iy a K|_,_=>no
def lW(c d:LV)(K:VK):WK:=mk c fun a=>mk d fun b=>aj (ad a 0) 2 fun e=>aj (ad b 0) 2 fun f=>oa [.u 0,.u 0] e f fun g=>br g (K (.i 0)) (lU (ad a 0) fun h=>lU (ad b 0) fun j=>br (decide (h<j)) (K (.i (-1))) (lU (ad a 0) fun k=>lU (ad b 0) fun l=>br (k==l) (lU (ad a 1) fun m=>lU (ad b 1) fun n=>br (decide (m<n)) (K (.i (-1))) (K (.i 1))) (K (.i 1))))
def lW.u:WP|[.agg ⟨a⟩,.agg ⟨b⟩],K=>lW a b K|_,_=>no
def lz(a b:LV)(K:VK):WK:=mk a fun c=>mk b fun d=>aj (ad c 0) 2 fun e=>aj (ad d 0) 2 fun f=>lW e f (xI .i64 fun g=>K (.bool (decide (g<0))))
def lz.u:WP|[.agg ⟨a⟩,.agg ⟨b⟩],K=>lz a b K|_,_=>no
def pg(d e:LV)(K:VK):WK:=mk d fun b=>mk e fun c=>mk [.u 0,.u 0] fun a=>aj (ad c 0) 2 fun f=>aj (ad b 0) 2 fun g=>lz f g (xB fun h=>br h (aj (ad c 0) 2 fun i=>aN 2 (ad a 0) i (aj (ad a 0) 2 fun j=>K (.agg ⟨j⟩))) (aj (ad b 0) 2 fun k=>aN 2 (ad a 0) k (aj (ad a 0) 2 fun l=>K (.agg ⟨l⟩))))
def pg.u:WP|[.agg ⟨a⟩,.agg ⟨b⟩],K=>pg a b K|_,_=>no
def ky(d e:LV)(K:VK):WK:=mk d fun b=>mk e fun c=>mk [.u 0,.u 0] fun a=>aj (ad b 0) 2 fun f=>aj (ad c 0) 2 fun g=>lz f g (xB fun h=>br h (bl True (bl (2=2) (iN (ad a 0) [.u 0,.u 0] (aj (ad a 0) 2 fun i=>K (.tuple ⟨[.agg ⟨i⟩,.bool false]⟩))))) (lU (ad b 1) fun j=>lU (ad c 1) fun k=>nM j k 0 (x2 fun l m=>(xI .u64 fun n=>(xI .u64 fun o=>lU (ad b 0) fun p=>lU (ad c 0) fun q=>nM p q o (x2 fun r s=>(xI .u64 fun t=>(xI .u64 fun w=>bl (1=1∧(1=1∧True)) (bl (2=2) (iN (ad a 0) [.u t,.u n] (aj (ad a 0) 2 fun v=>K (.tuple ⟨[.agg ⟨v⟩,.bool true]⟩))))) s) r)) m) l)))
def ky.u:WP|[.agg ⟨a⟩,.agg ⟨b⟩],K=>ky a b K|_,_=>no
def kz(d e:LV)(K:VK):WK:=mk d fun b=>mk e fun c=>mk [.u 0,.u 0] fun a=>lU (ad b 1) fun f=>lU (ad c 1) fun g=>nN f g 0 (x2 fun h i=>(xI .u64 fun j=>(xI .u64 fun k=>lU (ad b 0) fun l=>lU (ad c 0) fun m=>nN l m k (x2 fun n o=>(xI .u64 fun p=>(xI .u64 fun q=>br (q !=0) (bl True (bl (2=2) (iN (ad a 0) [.u 0,.u 0] (aj (ad a 0) 2 fun r=>K (.tuple ⟨[.agg ⟨r⟩,.bool false]⟩))))) (bl (1=1∧(1=1∧True)) (bl (2=2) (iN (ad a 0) [.u p,.u j] (aj (ad a 0) 2 fun s=>K (.tuple ⟨[.agg ⟨s⟩,.bool true]⟩)))))) o) n)) i) h)
def kz.u:WP|[.agg ⟨a⟩,.agg ⟨b⟩],K=>kz a b K|_,_=>no
def fe(c d:LV)(K:VK):WK:=mk c fun e=>mk d fun f=>mk [.u 0,.u 0] fun a=>aj (ad e 0) 2 fun g=>aj (ad f 0) 2 fun h=>kz g h (x2 fun i j=>(xA 2 fun k=>(xB fun l=>mk [.u 0,.u 0] fun b=>aN 2 (ad b 0) k (br (!l) (aj (ad N.pA 0) 2 fun m=>aN 2 (ad a 0) m (aj (ad a 0) 2 fun n=>K (.agg ⟨n⟩))) (aj (ad b 0) 2 fun o=>aN 2 (ad a 0) o (aj (ad a 0) 2 fun p=>K (.agg ⟨p⟩))))) j) i)
def fe.u:WP|[.agg ⟨a⟩,.agg ⟨b⟩],K=>fe a b K|_,_=>no
def bS.j1(K:VK)(c d a:Nat):WK:=aj (ad c 0) 2 fun e=>aj (ad d 0) 2 fun f=>ky e f (x2 fun g h=>(xA 2 fun i=>(xB fun l=>mk [.u 0,.u 0] fun b=>aN 2 (ad b 0) i (aj (ad b 0) 2 fun j=>aN 2 (ad a 0) j (aj (ad a 0) 2 fun k=>K (.agg ⟨k⟩)))) h) g)
def bS.j2(K:VK)(c d a:Nat):WK:=aj (ad c 0) 2 fun e=>aj (ad d 0) 2 fun f=>ky e f (x2 fun g h=>(xA 2 fun i=>(xB fun l=>mk [.u 0,.u 0] fun b=>aN 2 (ad b 0) i (aj (ad b 0) 2 fun j=>aN 2 (ad a 0) j (aj (ad a 0) 2 fun k=>K (.agg ⟨k⟩)))) h) g)
def bS.j3(K:VK)(c d a:Nat):WK:=aj (ad c 0) 2 fun e=>aj (ad d 0) 2 fun f=>ky e f (x2 fun g h=>(xA 2 fun i=>(xB fun l=>mk [.u 0,.u 0] fun b=>aN 2 (ad b 0) i (aj (ad b 0) 2 fun j=>aN 2 (ad a 0) j (aj (ad a 0) 2 fun k=>K (.agg ⟨k⟩)))) h) g)
def bS.j4(K:VK)(c d a:Nat):WK:=aj (ad c 0) 2 fun e=>aj (ad d 0) 2 fun f=>ky e f (x2 fun g h=>(xA 2 fun i=>(xB fun l=>mk [.u 0,.u 0] fun b=>aN 2 (ad b 0) i (aj (ad b 0) 2 fun j=>aN 2 (ad a 0) j (aj (ad a 0) 2 fun k=>K (.agg ⟨k⟩)))) h) g)
def bS.j5(K:VK)(c d a:Nat):WK:=aj (ad c 0) 2 fun e=>aj (ad d 0) 2 fun f=>ky e f (x2 fun g h=>(xA 2 fun i=>(xB fun l=>mk [.u 0,.u 0] fun b=>aN 2 (ad b 0) i (aj (ad b 0) 2 fun j=>aN 2 (ad a 0) j (aj (ad a 0) 2 fun k=>K (.agg ⟨k⟩)))) h) g)
def bS.j6(K:VK)(c d a:Nat):WK:=aj (ad c 0) 2 fun e=>aj (ad d 0) 2 fun f=>ky e f (x2 fun g h=>(xA 2 fun i=>(xB fun l=>mk [.u 0,.u 0] fun b=>aN 2 (ad b 0) i (aj (ad b 0) 2 fun j=>aN 2 (ad a 0) j (aj (ad a 0) 2 fun k=>K (.agg ⟨k⟩)))) h) g)
def bS(y:LV)(h:Bool)(K:VK):WK:=mk y fun a=>mk [.u 0,.u 0] fun c=>tick (aj (ad a 4) 2 fun b=>aj (ad a 6) 2 fun d=>aj (ad a 8) 2 fun e=>both (fe d e (xA 2 fun q=>kp (ad a 4) b (both (mk [.u 0,.u 0] fun i=>kp (ad a 4) b (mk [.u 0,.u 0] fun j=>kp (ad a 4) b (aN 2 (ad i 0) b (aN 2 (ad j 0) q (br h (tick (aj (ad a 8) 2 fun r=>aj (ad a 2) 2 fun z=>aj (ad a 4) 2 fun A=>fe z A (xA 2 fun B=>kp (ad a 8) r (aN 2 (ad i 0) r (aN 2 (ad j 0) B (bS.j1 K i j c)))))) (bS.j1 K i j c)))))) (mk [.u 0,.u 0] fun k=>kp (ad a 4) b (mk [.u 0,.u 0] fun l=>kp (ad a 4) b (aN 2 (ad l 0) b (aN 2 (ad k 0) q (br h (tick (aj (ad a 8) 2 fun s=>aj (ad a 2) 2 fun C=>aj (ad a 4) 2 fun D=>fe C D (xA 2 fun E=>kp (ad a 8) s (aN 2 (ad l 0) s (aN 2 (ad k 0) E (bS.j2 K l k c)))))) (bS.j2 K l k c))))))))) (both (mk [.u 0,.u 0] fun f=>kp (ad a 8) e (kp (ad a 6) d (kp (ad a 4) b (both (fe d e (xA 2 fun F=>kp (ad a 4) b (mk [.u 0,.u 0] fun m=>kp (ad a 4) b (aN 2 (ad f 0) b (aN 2 (ad m 0) F (br h (tick (aj (ad a 8) 2 fun t=>aj (ad a 2) 2 fun G=>aj (ad a 4) 2 fun H=>fe G H (xA 2 fun I=>kp (ad a 8) t (aN 2 (ad f 0) t (aN 2 (ad m 0) I (bS.j3 K f m c)))))) (bS.j3 K f m c))))))) (mk [.u 0,.u 0] fun n=>kp (ad a 8) e (kp (ad a 6) d (kp (ad a 4) b (fe d e (xA 2 fun J=>kp (ad a 4) b (aN 2 (ad f 0) b (aN 2 (ad n 0) J (br h (tick (aj (ad a 8) 2 fun v=>aj (ad a 2) 2 fun M=>aj (ad a 4) 2 fun O=>fe M O (xA 2 fun P=>kp (ad a 8) v (aN 2 (ad f 0) v (aN 2 (ad n 0) P (bS.j4 K f n c)))))) (bS.j4 K f n c))))))))))))) (mk [.u 0,.u 0] fun g=>kp (ad a 8) e (kp (ad a 6) d (kp (ad a 4) b (both (fe d e (xA 2 fun Q=>kp (ad a 4) b (mk [.u 0,.u 0] fun o=>kp (ad a 4) b (aN 2 (ad o 0) b (aN 2 (ad g 0) Q (br h (tick (aj (ad a 8) 2 fun w=>aj (ad a 2) 2 fun R=>aj (ad a 4) 2 fun S=>fe R S (xA 2 fun T=>kp (ad a 8) w (aN 2 (ad o 0) w (aN 2 (ad g 0) T (bS.j5 K o g c)))))) (bS.j5 K o g c))))))) (mk [.u 0,.u 0] fun p=>kp (ad a 8) e (kp (ad a 6) d (kp (ad a 4) b (fe d e (xA 2 fun V=>kp (ad a 4) b (aN 2 (ad p 0) b (aN 2 (ad g 0) V (br h (tick (aj (ad a 8) 2 fun x=>aj (ad a 2) 2 fun W=>aj (ad a 4) 2 fun X=>fe W X (xA 2 fun Y=>kp (ad a 8) x (aN 2 (ad p 0) x (aN 2 (ad g 0) Y (bS.j6 K p g c)))))) (bS.j6 K p g c)))))))))))))))
def bS.u:WP|[.agg ⟨a⟩,.bool b],K=>bS a b K|_,_=>no
def cZ.j3(K:VK)(d a e b:Nat):WK:=lI (ad d 13) fun f=>br ((bG .i64 .and f 32)!=0) (tick (aj (ad a 0) 2 fun c=>aj (ad e 14) 14 fun g=>bS g false (xA 2 fun h=>kp (ad a 0) c (pg c h (xA 2 fun j=>aN 2 (ad a 0) j (aj (ad a 0) 2 fun k=>eK k (xB fun l=>br l (aj (ad a 0) 2 fun m=>aN 2 (ad b 0) m (aj (ad b 0) 2 fun n=>K (.tuple ⟨[.agg ⟨n⟩,.i 34]⟩))) (aj (ad a 0) 2 fun o=>aN 2 (ad b 0) o (aj (ad b 0) 2 fun p=>K (.tuple ⟨[.agg ⟨p⟩,.i 0]⟩)))))))))) (aj (ad a 0) 2 fun q=>aN 2 (ad b 0) q (aj (ad b 0) 2 fun r=>K (.tuple ⟨[.agg ⟨r⟩,.i 0]⟩)))
def cZ.j2(K:VK)(c a d b:Nat):WK:=lI (ad c 13) fun f=>br ((bG .i64 .and f 16)!=0) (tick (aj (ad a 0) 2 fun e=>aj (ad d 0) 14 fun g=>bS g true (xA 2 fun h=>kp (ad a 0) e (pg e h (xA 2 fun j=>aN 2 (ad a 0) j (aj (ad a 0) 2 fun k=>eK k (xB fun l=>br l (aj (ad a 0) 2 fun m=>aN 2 (ad b 0) m (aj (ad b 0) 2 fun n=>K (.tuple ⟨[.agg ⟨n⟩,.i 33]⟩))) (cZ.j3 K c a d b)))))))) (cZ.j3 K c a d b)
def cZ.j1(K:VK)(a b c d:Nat)(e:Bool):WK:=br e (aj (ad N.pA 0) 2 fun f=>aN 2 (ad a 0) f (cZ.j2 K b a c d)) (cZ.j2 K b a c d)
def cZ(e f:LV)(K:VK):WK:=mk e fun c=>mk f fun a=>mk [.u 0,.u 0] fun d=>aj (ad a 6) 2 fun g=>mk [.u 0,.u 0] fun b=>aN 2 (ad b 0) g (aj (ad a 0) 16 fun h=>jM h (xB fun i=>br i (aj (ad b 0) 2 fun j=>eK j (xB fun k=>cZ.j1 K b a c d k)) (cZ.j1 K b a c d false)))
def cZ.u:WP|[.agg ⟨a⟩,.agg ⟨b⟩],K=>cZ a b K|_,_=>no
def pf(o:OA)(k q:Nat)(K:VK):WK:=mk [.u 0,.u 0] fun r=>mk [.u 0,.u 0] fun s=>(lp [.p (some (ad r 0)),.bool false,.p (some (ad s 0)),.l o k q,.i (k:Int),.i 0] fun m t=>∀a g b d e h f c j,m [.p (some a),.bool g,.p (some b),.l d e h,.i f,.i c] j→(br (decide (c<f)) (iO d e c 2 fun v=>aj v 2 fun w=>mk [.u 0,.u 0] fun n=>aN 2 (ad n 0) w (aj b 2 fun x=>aj (ad n 0) 2 fun y=>kz x y (x2 fun z A=>(xA 2 fun B=>(xB fun C=>aN 2 b B (br (!C) (bl True (bl (2=2) (iN a [.u 0,.u 0] (aj a 2 fun D=>K (.tuple ⟨[.agg ⟨D⟩,.bool false]⟩))))) ((ct m t [.p (some a),.bool g,.p (some b),.l d e h,.i f,.i (adx.wrap (c+1))] [.p (some a),.bool g,.p (some b),.l d e h,.i f,.i c] j)))) A) z))) (aj b 2 fun E=>aN 2 a E (aj a 2 fun F=>K (.tuple ⟨[.agg ⟨F⟩,.bool true]⟩)))) j)
def pf.u:WP|[.slice a b c],K=>pf a b c K|_,_=>no
def iS.j1(K:VK)(a b:Nat)(d:Bool)(c:Nat)(e:Bool):WK:=br e (aj (ad a 0) 14 fun f=>aN 14 (ad b 0) f (aj (ad b 0) 14 fun g=>K (.tuple ⟨[.agg ⟨g⟩,.i 33]⟩))) (br d (aj (ad a 2) 2 fun h=>aj (ad c 0) 2 fun j=>kz h j (x2 fun k l=>(xA 2 fun m=>(xB fun w=>aN 2 (ad a 2) m (aj (ad a 0) 14 fun n=>aN 14 (ad b 0) n (aj (ad b 0) 14 fun o=>K (.tuple ⟨[.agg ⟨o⟩,.i 0]⟩)))) l) k)) (aj (ad a 4) 2 fun p=>aj (ad c 0) 2 fun q=>kz p q (x2 fun r s=>(xA 2 fun t=>(xB fun x=>aN 2 (ad a 4) t (aj (ad a 0) 14 fun u=>aN 14 (ad b 0) u (aj (ad b 0) 14 fun v=>K (.tuple ⟨[.agg ⟨v⟩,.i 0]⟩)))) s) r)))
def iS(k l:LV)(e:Bool)(K:VK):WK:=mk k fun a=>mk l fun b=>mk c8 fun c=>aj (ad a 2) 2 fun f=>aj (ad a 4) 2 fun g=>aj (ad b 0) 2 fun h=>bl (f.length=2∧(g.length=2∧(h.length=2∧True))) (mk (f++(g++(h++[]))) fun m=>pf (some ⟨m,0,none⟩) 3 3 (x2 fun n o=>(xA 2 fun p=>(xB fun q=>mk [.u 0,.u 0] fun r=>aN 2 (ad r 0) p (br (!q) (aj (ad a 0) 14 fun s=>aN 14 (ad c 0) s (aj (ad c 0) 14 fun t=>K (.tuple ⟨[.agg ⟨t⟩,.i 32]⟩))) (tick (lI (ad a 12) fun d=>br ((bG .i64 .and d 2)!=0) (aj (ad a 0) 14 fun v=>aj (ad b 0) 2 fun j=>bS v true (xA 2 fun w=>kp (ad b 0) j (kp (ad a 12) [.i d] (lz w j (xB fun x=>kp (ad a 12) [.i d] (iS.j1 K a c e b x)))))) (iS.j1 K a c e b false))))) o) n))
def iS.u:WP|[.agg ⟨a⟩,.agg ⟨b⟩,.bool c],K=>iS a b c K|_,_=>no
def ia.j1(K:VK)(a b:Nat)(d:Bool)(c:Nat)(e:Bool):WK:=br e (aj (ad a 0) 14 fun f=>aN 14 (ad b 0) f (aj (ad b 0) 14 fun g=>K (.tuple ⟨[.agg ⟨g⟩,.i 34]⟩))) (br d (aj (ad a 6) 2 fun h=>aj (ad c 0) 2 fun j=>kz h j (x2 fun k l=>(xA 2 fun m=>(xB fun w=>aN 2 (ad a 6) m (aj (ad a 0) 14 fun n=>aN 14 (ad b 0) n (aj (ad b 0) 14 fun o=>K (.tuple ⟨[.agg ⟨o⟩,.i 0]⟩)))) l) k)) (aj (ad a 8) 2 fun p=>aj (ad c 0) 2 fun q=>kz p q (x2 fun r s=>(xA 2 fun t=>(xB fun x=>aN 2 (ad a 8) t (aj (ad a 0) 14 fun u=>aN 14 (ad b 0) u (aj (ad b 0) 14 fun v=>K (.tuple ⟨[.agg ⟨v⟩,.i 0]⟩)))) s) r)))
def ia(k l:LV)(e:Bool)(K:VK):WK:=mk k fun a=>mk l fun b=>mk c8 fun c=>aj (ad a 6) 2 fun f=>aj (ad a 8) 2 fun g=>aj (ad b 0) 2 fun h=>bl (f.length=2∧(g.length=2∧(h.length=2∧True))) (mk (f++(g++(h++[]))) fun m=>pf (some ⟨m,0,none⟩) 3 3 (x2 fun n o=>(xA 2 fun p=>(xB fun q=>mk [.u 0,.u 0] fun r=>aN 2 (ad r 0) p (br (!q) (aj (ad a 0) 14 fun s=>aN 14 (ad c 0) s (aj (ad c 0) 14 fun t=>K (.tuple ⟨[.agg ⟨t⟩,.i 32]⟩))) (tick (lI (ad a 12) fun d=>br ((bG .i64 .and d 4)!=0) (aj (ad a 0) 14 fun v=>aj (ad b 0) 2 fun j=>bS v false (xA 2 fun w=>kp (ad b 0) j (kp (ad a 12) [.i d] (lz w j (xB fun x=>kp (ad a 12) [.i d] (ia.j1 K a c e b x)))))) (ia.j1 K a c e b false))))) o) n))
def ia.u:WP|[.agg ⟨a⟩,.agg ⟨b⟩,.bool c],K=>ia a b c K|_,_=>no
def dv.j1(K:VK)(a b g:Nat):WK:=tick (lP (ad a 0) fun n=>lP (ad a 0) fun c=>nn c fun d=>lI (d.add 7) fun e=>ix n (xI .i64 fun o=>kp (d.add 7) [.i e] (kp (ad a 0) [.p c] (st (ad b 30) (.i o) (kp (d.add 7) [.i e] (kp (ad a 0) [.p c] (st (ad b 31) (.i e) (tick (lP (ad a 0) fun h=>nn h fun q=>lP (q.add 2) fun r=>aj (ad b 0) 33 fun s=>dO r s (xI .i64 fun j=>kp (ad a 0) [.p h] (tick (lP (ad a 0) fun k=>nn k fun t=>lP (t.add 4) fun u=>aj (ad g 0) 2 fun v=>bT u v j (xB fun J=>kp (ad a 0) [.p k] (tick (lP (ad a 0) fun l=>nn l fun w=>lI (ad b 30) fun x=>eO (some (w.add 5)) x j (xB fun M=>kp (ad a 0) [.p l] (lP (ad a 0) fun y=>nn y fun z=>dE (some z) (.func (.func N.cJ) ⟨[]⟩ ⟨[.p (some (ad a 0)),.p (some (ad g 0)),.p (some (ad b 0))]⟩) (x0 (aj (ad b 0) 33 fun A=>mZ A (x2 fun B C=>(xA 4 fun D=>(xB fun E=>mk tj fun f=>aN 4 (ad f 0) D (br E (tick (lP (ad a 0) fun m=>nn m fun F=>aj (ad f 0) 4 fun G=>gw (some (F.add 6)) G (x0 (kp (ad a 0) [.p m] (lP (ad a 0) fun H=>nn H fun I=>dE (some I) (.func (.func N.cI) ⟨[]⟩ ⟨[.p (some (ad a 0)),.p (some (ad f 0))]⟩) (x0 (K (.i 0)))))))) (K (.i 0)))) C) B))))))))))))))))))))
def dv(g:OA)(h j:LV)(k:Bool)(K:VK):WK:=mk [.p g] fun a=>mk h fun l=>mk j fun b=>lP (ad a 0) fun m=>br (m.isNone) (K (.i 2)) (lP (ad a 0) fun n=>nn n fun o=>lP (o.add 2) fun q=>cj q (xI .i64 fun r=>br (decide (r≥96)) (K (.i 6)) (tick (lP (ad a 0) fun f=>nn f fun s=>lP (s.add 4) fun t=>aj (ad b 0) 2 fun u=>dx t u (x2 fun v w=>(xI .i64 fun y=>(xB fun x=>kp (ad a 0) [.p f] (br x (K (.i 1)) (aj (ad l 0) 16 fun d=>aj (ad b 0) 16 fun e=>bl (d.length=16∧(e.length=16∧True)) (mk bj fun c=>bl ((d++(e++([.i 0]:LV))).length=33) (iN (ad c 0) (d++(e++([.i 0]:LV))) (br k (st (ad c 32) (.i 1) (dv.j1 K a c b)) (dv.j1 K a c b))))))) w) v)))))
def dv.u:WP|[.pointer a,.agg ⟨b⟩,.agg ⟨c⟩,.bool d],K=>dv a b c d K|_,_=>no
def kJ.j2(K:VK)(d:Nat)(c:OA)(a g:Nat):WK:=aj (ad d 0) 14 fun h=>fE c h (xI .i64 fun o=>aj (ad d 14) 14 fun j=>fE c j (xI .i64 fun p=>aj (ad a 0) 16 fun k=>mk gM fun b=>aN 16 (ad b 0) k (aj (ad g 0) 2 fun l=>aN 2 (ad b 6) l (tick (aj (ad a 0) 16 fun e=>aj (ad b 0) 16 fun f=>aj (ad a 0) 16 fun m=>hI m (xB fun n=>kp (ad b 0) f (kp (ad a 0) e (dv c e f n (xI .i64 fun q=>K (.i 0))))))))))
def kJ.j1(K:VK)(b a:Nat)(c:OA)(d:Nat):WK:=lI (ad b 13) fun e=>br ((bG .i64 .and e 128)!=0) (lI (ad a 26) fun f=>st (ad a 26) (.i (bG .i64 .or f 8)) (kJ.j2 K a c b d)) (kJ.j2 K a c b d)
def kJ(d:OA)(p:LV)(K:VK):WK:=mk p fun b=>aj (ad b 0) 16 fun q=>cB q (xI .i64 fun e=>br (e !=0) (K (.i e)) (aj (ad b 0) 16 fun r=>mw r (xB fun s=>br s (K (.i 6)) (aj (ad b 0) 2 fun t=>dm d t (x2 fun v w=>(xA 33 fun x=>(xB fun y=>mk bj fun f=>aN 33 (ad f 0) x (br y (aj (ad b 0) 16 fun z=>aj (ad f 0) 16 fun A=>mJ z A (xI .i64 fun B=>K (.i B))) (aj (ad b 0) 16 fun C=>oN d C (x2 fun D E=>(xA 28 fun F=>(xI .i64 fun g=>mk lH fun a=>aN 28 (ad a 0) F (br (g !=0) (K (.i g)) (iy d (xB fun G=>br (!G) (K (.i 35)) (aj (ad a 0) 28 fun H=>aj (ad b 0) 16 fun I=>cZ H I (x2 fun J M=>(xA 2 fun O=>(xI .i64 fun h=>mk [.u 0,.u 0] fun c=>aN 2 (ad c 0) O (br (h !=0) (K (.i h)) (tick (aj (ad a 0) 14 fun j=>aj (ad c 0) 2 fun k=>aj (ad b 0) 16 fun P=>hI P (xB fun Q=>kp (ad c 0) k (kp (ad a 0) j (iS j k Q (x2 fun R S=>(xA 14 fun T=>(xI .i64 fun l=>aN 14 (ad a 0) T (br (l !=0) (K (.i l)) (tick (aj (ad a 14) 14 fun m=>aj (ad c 0) 2 fun n=>aj (ad b 0) 16 fun V=>hI V (xB fun W=>kp (ad c 0) n (kp (ad a 14) m (ia m n W (x2 fun X Y=>(xA 14 fun Z=>(xI .i64 fun o=>aN 14 (ad a 14) Z (br (o !=0) (K (.i o)) (lI (ad b 13) fun n7=>br ((bG .i64 .and n7 64)!=0) (lI (ad a 12) fun Vs=>st (ad a 12) (.i (bG .i64 .or Vs 8)) (kJ.j1 K b a d c)) (kJ.j1 K b a d c)))) Y) X)))))))) S) R)))))))) M) J)))))) E) D)))) w) v)))))
def kJ.u:WP|[.pointer a,.agg ⟨b⟩],K=>kJ a b K|_,_=>no
def fk(d:OA)(e:Int)(f:LV)(K:VK):WK:=mk [.p d] fun a=>mk [.i e] fun b=>mk f fun g=>lP (ad a 0) fun h=>lI (ad b 0) fun j=>bE h j (x2 fun k l=>(xA 33 fun m=>(xB fun n=>mk bj fun c=>aN 33 (ad c 0) m (br (!n) (K (.bool false)) (tick (lP (ad a 0) fun o=>nn o fun q=>lL q fun r s z=>lI (ad b 0) fun t=>aj (ad g 0) 33 fun u=>iO r s t 33 fun v=>aN 33 v u (lP (ad a 0) fun w=>nn w fun x=>lP (x.add 1) fun y=>dE y (.func (.func N.bA) ⟨[]⟩ ⟨[.p (some (ad c 0)),.p (some (ad a 0)),.p (some (ad b 0))]⟩) (x0 (K (.bool true)))))))) l) k)
def fk.u:WP|[.pointer a,.int .i64 b,.agg ⟨c⟩],K=>fk a b c K|_,_=>no
def bh.j4(K:VK)(a e b:Nat)(f:Int):WK:=tick (lP (ad a 0) fun c=>nn c fun g=>lP (g.add 4) fun h=>aj (ad e 0) 2 fun j=>dx h j (x2 fun k l=>(xI .i64 fun m=>(xB fun r=>kp (ad a 0) [.p c] (st (ad b 32) (.i f) (tick (lP (ad a 0) fun d=>nn d fun n=>lP (n.add 2) fun o=>aj (ad b 0) 33 fun q=>fk o m q (xB fun s=>kp (ad a 0) [.p d] (K (.i 0))))))) l) k))
def bh.j3(K:VK)(a e b c:Nat)(d:Int)(f:Bool):WK:=br f (lP (ad a 0) fun g=>nn g fun h=>dE (some h) (.func (.func N.cW) ⟨[]⟩ ⟨[.p (some (ad a 0)),.p (some (ad e 0))]⟩) (x0 (bh.j4 K a b c d))) (bh.j4 K a b c d)
def bh.j2(K:VK)(c a d:Nat)(e:Int)(g:Bool):WK:=br g (K (.i 1)) (aj (ad c 0) 33 fun h=>mZ h (x2 fun j k=>(xA 4 fun l=>(xB fun m=>mk tj fun b=>aN 4 (ad b 0) l (tick (br m (lP (ad a 0) fun f=>nn f fun n=>lI (ad b 1) fun o=>gG (some (n.add 6)) o (xB fun q=>kp (ad a 0) [.p f] (bh.j3 K a b d c e q))) (bh.j3 K a b d c e false)))) k) j))
def bh.j1(K:VK)(a:Int)(b c d:Nat)(e:Bool):WK:=br e (K (.i 5)) (br (decide (a≤1)) (bh.j2 K b c d a true) (bh.j2 K b c d a (decide (a>4))))
def bh(e:OA)(f:LV)(d:Int)(K:VK):WK:=mk [.p e] fun a=>mk f fun c=>lP (ad a 0) fun g=>aj (ad c 0) 2 fun h=>dm g h (x2 fun j k=>(xA 33 fun l=>(xB fun m=>mk bj fun b=>aN 33 (ad b 0) l (lP (ad a 0) fun n=>br (n.isNone) (K (.i 2)) (br (!m) (bh.j1 K d b a c true) (lI (ad b 32) fun o=>bh.j1 K d b a c (o !=1))))) k) j)
def bh.u:WP|[.pointer a,.agg ⟨b⟩,.int .i64 c],K=>bh a b c K|_,_=>no
def cw.j1(K:VK)(b:Nat)(a:OA)(c d:Nat)(e:Int):WK:=aj (ad b 0) 14 fun f=>fE a f (xI .i64 fun i=>aj (ad c 0) 14 fun g=>fE a g (xI .i64 fun j=>aj (ad d 0) 2 fun h=>bh a h e (xI .i64 fun k=>K (.tuple ⟨[]⟩))))
def cw.j2(K:VK)(b a c:Nat)(d:OA)(e:Int):WK:=lI (ad b 13) fun f=>br ((bG .i64 .and f 128)!=0) (lI (ad a 12) fun g=>st (ad a 12) (.i (bG .i64 .andNot g 8)) (cw.j1 K c d a b e)) (cw.j1 K c d a b e)
def cw(d:OA)(g h:LV)(e:Int)(K:VK):WK:=mk g fun b=>mk h fun f=>aj (ad b 2) 2 fun j=>bJ d j (x2 fun k l=>(xA 14 fun m=>(xB fun Q=>mk c8 fun a=>aN 14 (ad a 0) m (aj (ad b 4) 2 fun n=>bJ d n (x2 fun o p=>(xA 14 fun q=>(xB fun R=>mk c8 fun c=>aN 14 (ad c 0) q (aj (ad a 2) 2 fun r=>aj (ad b 6) 2 fun s=>ky r s (x2 fun t u=>(xA 2 fun v=>(xB fun S=>aN 2 (ad a 2) v (aj (ad c 6) 2 fun w=>aj (ad b 6) 2 fun x=>ky w x (x2 fun y z=>(xA 2 fun A=>(xB fun T=>aN 2 (ad c 6) A (br (e==2) (aj (ad a 4) 2 fun B=>aj (ad f 0) 2 fun C=>kz B C (x2 fun D E=>(xA 2 fun F=>(xB fun V=>aN 2 (ad a 4) F (aj (ad c 8) 2 fun G=>aj (ad f 0) 2 fun H=>kz G H (x2 fun I J=>(xA 2 fun M=>(xB fun W=>aN 2 (ad c 8) M (cw.j1 K a d c b e)) J) I))) E) D)) (lI (ad b 13) fun O=>br ((bG .i64 .and O 64)!=0) (lI (ad a 12) fun P=>st (ad a 12) (.i (bG .i64 .andNot P 8)) (cw.j2 K b c a d e)) (cw.j2 K b c a d e)))) z) y))) u) t))) p) o))) l) k)
def cw.u:WP|[.pointer a,.agg ⟨b⟩,.agg ⟨c⟩,.int .i64 d],K=>cw a b c d K|_,_=>no
def df.j3(K:VK)(a b:Nat)(c:Bool):WK:=br c (lI (ad a 12) fun d=>br (d==0) (K (.bool true)) (lI (ad a 12) fun e=>lI (ad b 12) fun f=>K (.bool (e==f)))) (K (.bool false))
def df.j2(K:VK)(a b:Nat)(c:Bool):WK:=br c (lI (ad a 11) fun d=>br (d==0) (df.j3 K a b true) (lI (ad a 11) fun e=>lI (ad b 11) fun f=>df.j3 K a b (e==f))) (df.j3 K a b false)
def df.j1(K:VK)(a b:Nat)(c:Bool):WK:=br c (aj (ad a 4) 2 fun d=>eK d (xB fun e=>br e (df.j2 K a b true) (aj (ad a 4) 2 fun f=>aj (ad b 4) 2 fun g=>oa [.u 0,.u 0] f g fun h=>df.j2 K a b h))) (df.j2 K a b false)
def df(c d:LV)(K:VK):WK:=mk c fun a=>mk d fun b=>aj (ad a 2) 2 fun e=>eK e (xB fun f=>br f (df.j1 K a b true) (aj (ad a 2) 2 fun g=>aj (ad b 2) 2 fun h=>oa [.u 0,.u 0] g h fun i=>df.j1 K a b i))
def df.u:WP|[.agg ⟨a⟩,.agg ⟨b⟩],K=>df a b K|_,_=>no
def oR(f:OA)(g:LV)(K:VK):WK:=mk g fun d=>mk gM fun a=>aj (ad d 8) 2 fun h=>dm f h (x2 fun j k=>(xA 33 fun l=>(xB fun m=>mk bj fun b=>aN 33 (ad b 0) l (br (!m) (bl True (bl (16=16) (iN (ad a 0) gM (aj (ad a 0) 16 fun n=>K (.tuple ⟨[.agg ⟨n⟩,.i 23]⟩))))) (aj (ad b 16) 16 fun o=>hI o (xB fun p=>br (!p) (bl True (bl (16=16) (iN (ad a 0) gM (aj (ad a 0) 16 fun q=>K (.tuple ⟨[.agg ⟨q⟩,.i 24]⟩))))) (aj (ad d 0) 16 fun r=>aj (ad b 16) 16 fun s=>df r s (xB fun t=>br (!t) (bl True (bl (16=16) (iN (ad a 0) gM (aj (ad a 0) 16 fun u=>K (.tuple ⟨[.agg ⟨u⟩,.i 25]⟩))))) (tick (aj (ad b 16) 16 fun v=>lI (ad b 32) fun c=>bl ((0:Int)≤c∧c<5) (lI ((ad N.tS 0).add (c.toNat* 1)) fun e=>aN 16 (ad a 0) v (kp ((ad N.tS 0).add (c.toNat* 1)) [.i e] (kp (ad b 32) [.i c] (aj (ad a 0) 16 fun w=>K (.tuple ⟨[.agg ⟨w⟩,.i e]⟩))))))))))))) k) j)
def oR.u:WP|[.pointer a,.agg ⟨b⟩],K=>oR a b K|_,_=>no
def jq.j1(K:VK)(a b d:Nat)(c:Bool):WK:=br c (br c (bl True (bl (2=2) (iN (ad a 0) [.u 0,.u 0] (aj (ad a 0) 2 fun e=>K (.tuple ⟨[.agg ⟨e⟩,.i 26]⟩))))) (aj (ad b 6) 2 fun f=>aN 2 (ad a 0) f (aj (ad a 0) 2 fun g=>K (.tuple ⟨[.agg ⟨g⟩,.i 0]⟩)))) (aj (ad d 6) 2 fun h=>aj (ad b 6) 2 fun j=>lz h j (xB fun k=>br k (bl True (bl (2=2) (iN (ad a 0) [.u 0,.u 0] (aj (ad a 0) 2 fun l=>K (.tuple ⟨[.agg ⟨l⟩,.i 26]⟩))))) (aj (ad b 6) 2 fun m=>aN 2 (ad a 0) m (aj (ad a 0) 2 fun n=>K (.tuple ⟨[.agg ⟨n⟩,.i 0]⟩)))))
def jq(d e:LV)(K:VK):WK:=mk d fun a=>mk e fun b=>mk [.u 0,.u 0] fun c=>aj (ad a 6) 2 fun f=>eK f (xB fun g=>br g (aj (ad b 6) 2 fun h=>aN 2 (ad c 0) h (aj (ad c 0) 2 fun j=>K (.tuple ⟨[.agg ⟨j⟩,.i 0]⟩))) (lI (ad a 13) fun k=>br ((bG .i64 .and k 8)!=0) (aj (ad a 6) 2 fun l=>aj (ad b 6) 2 fun m=>oa [.u 0,.u 0] l m fun n=>jq.j1 K c a b (!n)) (jq.j1 K c a b false)))
def jq.u:WP|[.agg ⟨a⟩,.agg ⟨b⟩],K=>jq a b K|_,_=>no
def iQ.j1(K:VK)(a b:Nat)(c:Bool):WK:=br c (K (.i 30)) (lI (ad a 12) fun d=>br ((bG .i64 .and d 8)!=0) (lI (ad b 13) fun e=>br ((bG .i64 .and e 128)==0) (K (.i 31)) (K (.i 0))) (K (.i 0)))
def iQ(c:OA)(e:LV)(K:VK):WK:=mk e fun a=>aj (ad a 2) 2 fun f=>bJ c f (x2 fun g h=>(xA 14 fun i=>(xB fun p=>mk c8 fun d=>aN 14 (ad d 0) i (aj (ad a 4) 2 fun j=>bJ c j (x2 fun k l=>(xA 14 fun m=>(xB fun q=>mk c8 fun b=>aN 14 (ad b 0) m (lI (ad d 12) fun n=>br ((bG .i64 .and n 8)!=0) (lI (ad a 13) fun o=>iQ.j1 K b a ((bG .i64 .and o 64)==0)) (iQ.j1 K b a false))) l) k))) h) g)
def iQ.u:WP|[.pointer a,.agg ⟨b⟩],K=>iQ a b K|_,_=>no
def mo.j1(K:VK)(f:OA)(a d h:Nat)(k:Int):WK:=iy f (xB fun l=>br (!l) (K (.i 35)) (aj (ad a 0) 16 fun m=>aj (ad d 0) 2 fun n=>cw f m n k (x0 (aj (ad h 0) 16 fun o=>mk gM fun b=>aN 16 (ad b 0) o (tick (aj (ad a 2) 2 fun p=>aj (ad a 4) 2 fun j=>aj (ad d 0) 2 fun g=>lI (ad a 11) fun e=>lI (ad a 12) fun c=>aN 2 (ad b 2) p (kp (ad a 12) [.i c] (kp (ad a 11) [.i e] (kp (ad d 0) g (kp (ad a 4) j (aN 2 (ad b 4) j (kp (ad a 12) [.i c] (kp (ad a 11) [.i e] (kp (ad d 0) g (aN 2 (ad b 6) g (kp (ad a 12) [.i c] (kp (ad a 11) [.i e] (st (ad b 11) (.i e) (kp (ad a 12) [.i c] (st (ad b 12) (.i c) (aj (ad h 0) 16 fun q=>aj (ad b 0) 16 fun r=>dv f q r false (xI .i64 fun s=>K (.i 0)))))))))))))))))))))))
def mo(b:OA)(j:LV)(K:VK):WK:=mk j fun a=>aj (ad a 0) 2 fun k=>dm b k (x2 fun l m=>(xA 33 fun n=>(xB fun o=>mk bj fun e=>aN 33 (ad e 0) n (br o (aj (ad a 0) 16 fun p=>aj (ad e 0) 16 fun q=>mJ p q (xI .i64 fun r=>K (.i r))) (aj (ad a 0) 16 fun s=>oR b s (x2 fun t v=>(xA 16 fun w=>(xI .i64 fun f=>mk gM fun c=>aN 16 (ad c 0) w (br (f !=0) (K (.i f)) (aj (ad a 0) 16 fun x=>aj (ad c 0) 16 fun y=>jq x y (x2 fun z A=>(xA 2 fun B=>(xI .i64 fun g=>mk [.u 0,.u 0] fun d=>aN 2 (ad d 0) B (br (g !=0) (K (.i g)) (lI (ad a 13) fun C=>br ((bG .i64 .and C 4)!=0) (aj (ad c 0) 16 fun D=>iQ b D (xI .i64 fun h=>br (h !=0) (K (.i h)) (mo.j1 K b c d a 2))) (mo.j1 K b c d a 3)))) A) z)))) v) t)))) m) l)
def mo.u:WP|[.pointer a,.agg ⟨b⟩],K=>mo a b K|_,_=>no
def lq.j1(K:VK)(a:Nat)(b:OA)(c:Bool):WK:=br c (aj (ad a 0) 16 fun d=>kJ b d (xI .i64 fun e=>K (.i e))) (aj (ad a 0) 16 fun f=>mo b f (xI .i64 fun g=>K (.i g)))
def lq(b:OA)(c:LV)(K:VK):WK:=mk c fun a=>aj (ad a 0) 16 fun d=>cB d (xI .i64 fun e=>br (e !=0) (lq.j1 K a b true) (aj (ad a 0) 16 fun f=>mw f (xB fun g=>lq.j1 K a b (!g))))
def lq.u:WP|[.pointer a,.agg ⟨b⟩],K=>lq a b K|_,_=>no
def fq(f o:OA)(j q:Nat)(r:OA)(s t:Nat)(v:Value)(K:VK):WK:=dk f (xI .i64 fun w=>(lp [.i w,.l o j q,.i (j:Int),.i 0] fun k x=>∀b c d g e a h,k [.i b,.l c d g,.i e,.i a] h→(br (decide (a<e)) (iO c d a 16 fun y=>aj y 16 fun z=>mk gM fun m=>aN 16 (ad m 0) z (aj (ad m 0) 16 fun A=>s9 [(N.dw,dw.u),(N.dk,dk.u),(N.il,il.u),(N.lq,lq.u)] v [.p f,.agg ⟨A⟩] (xI .i64 fun n=>br (n !=0) (dw f b (x0 (il r s t a n (x0 (K (.tuple ⟨[]⟩)))))) ((ct k x [.i b,.l c d g,.i e,.i (adx.wrap (a+1))] [.i b,.l c d g,.i e,.i a] h))))) (K (.tuple ⟨[]⟩))) h))
def fq.u:WP|[.pointer a,.slice b c d,.slice e f g,h],K=>fq a b c d e f g h K|_,_=>no
def gJ(t n:OA)(e o:Nat)(u v:Value)(K:VK):WK:=Fx 8 [.i 0] (e:Int) (e:Int) fun w x y=>(lp [.l none 0 0,.l w x y,.i 0] fun m p=>∀f g h b c d a k,m [.l f g h,.l b c d,.i a] k→(br (decide (a<(e:Int))) (oC n e o 16 (some a) none fun z A B=>eP z A B (u) (x2 fun C D=>(xI .i64 fun j=>(xB fun E=>oC b c d 1 (some a) (some (adx.wrap (a+j))) fun q r s=>br (!E) (il q r s (adx.wrap (j-1)) 2 (x0 ((ct m p [.l f g h,.l b c d,.i (adx.wrap (a+j))] [.l f g h,.l b c d,.i a] k)))) (oC n e o 16 (some a) (some (adx.wrap (a+j))) fun F G H=>fq t F G H q r s (v) (x0 ((ct m p [.l f g h,.l b c d,.i (adx.wrap (a+j))] [.l f g h,.l b c d,.i a] k))))) D) C)) (K (.l b c d))) k)
def gJ.u:WP|[.pointer a,.slice b c d,e,f],K=>gJ a b c d e f K|_,_=>no
def jC(a b:OA)(c d:Nat)(K:VK):WK:=gJ a b c d (.func (.func N.dQ) ⟨[]⟩ ⟨[]⟩) (.func (.func N.lq) ⟨[]⟩ ⟨[]⟩) (xL fun e f g=>K (.l e f g))
def jC.u:WP|[.pointer a,.slice b c d],K=>jC a b c d K|_,_=>no
def cG.j1(K:VK)(a:Nat)(c:Int)(d:Bool):WK:=br d (K (.tuple ⟨[]⟩)) (lP (ad a 0) fun e=>nn e fun f=>lI (f.add 7) fun g=>mk [.i 0] fun b=>st (ad b 0) (.i g) (lP (ad a 0) fun h=>nn h fun j=>st (j.add 7) (.i c) (lP (ad a 0) fun k=>nn k fun l=>dE (some l) (.func (.func N.cF) ⟨[]⟩ ⟨[.p (some (ad b 0)),.p (some (ad a 0))]⟩) (x0 (K (.tuple ⟨[]⟩))))))
def cG(c:OA)(a:Int)(K:VK):WK:=mk [.p c] fun b=>lP (ad b 0) fun d=>br (d.isNone) (cG.j1 K b a true) (lP (ad b 0) fun e=>nn e fun f=>lI (f.add 7) fun g=>br (decide (a≤g)) (cG.j1 K b a true) (cG.j1 K b a (decide (a>1099511627776))))
def cG.u:WP|[.pointer a,.int .i64 b],K=>cG a b K|_,_=>no
def kn(a:OA)(K:VK):WK:=br (a.isNone) (K (.i 0)) (nn a fun b=>lL b fun d c e=>K (.i (c:Int)))
def kn.u:WP|[.pointer a],K=>kn a K|_,_=>no
def gS(b:OA)(K:VK):WK:=mk tj fun a=>kn b (xI .i64 fun c=>br (c==0) (bl True (bl (4=4) (iN (ad a 0) tj (aj (ad a 0) 4 fun d=>K (.tuple ⟨[.agg ⟨d⟩,.bool false]⟩))))) (nn b fun e=>lL e fun f g k=>iO f g 0 4 fun h=>aj h 4 fun i=>aN 4 (ad a 0) i (aj (ad a 0) 4 fun j=>K (.tuple ⟨[.agg ⟨j⟩,.bool true]⟩))))
def gS.u:WP|[.pointer a],K=>gS a K|_,_=>no
def cX.j1(K:VK)(b:Nat)(c:OA)(a:Nat)(d:Bool):WK:=br d (aj (ad b 2) 2 fun e=>dm c e (x2 fun f g=>(xA 33 fun h=>(xB fun i=>aN 33 (ad a 0) h (aj (ad a 0) 33 fun j=>K (.tuple ⟨[.agg ⟨j⟩,.bool i]⟩))) g) f)) (bl True (bl (33=33) (iN (ad a 0) bj (aj (ad a 0) 33 fun k=>K (.tuple ⟨[.agg ⟨k⟩,.bool false]⟩)))))
def cX(a:OA)(K:VK):WK:=mk bj fun b=>br (a.isNone) (bl True (bl (33=33) (iN (ad b 0) bj (aj (ad b 0) 33 fun d=>K (.tuple ⟨[.agg ⟨d⟩,.bool false]⟩))))) (nn a fun e=>gS (some (e.add 6)) (x2 fun f g=>(xA 4 fun h=>(xB fun i=>mk tj fun c=>aN 4 (ad c 0) h (tick (br i (lI (ad c 0) fun j=>nn a fun k=>lI (k.add 7) fun l=>cX.j1 K c a b (decide (j≤l))) (cX.j1 K c a b false)))) g) f))
def cX.u:WP|[.pointer a],K=>cX a K|_,_=>no
def px(a:OA)(K:VK):WK:=mk [.p a] fun b=>K (.func (.func N.HG) ⟨[]⟩ ⟨[.p (some (ad b 0))]⟩)
def px.u:WP|[.pointer a],K=>px a K|_,_=>no
def fR(a:OA)(K:VK):WK:=br (!(a.isNone)) (nn a fun b=>gZ (some b) (x0 (K (.tuple ⟨[]⟩)))) (K (.tuple ⟨[]⟩))
def fR.u:WP|[.pointer a],K=>fR a K|_,_=>no
def l9(t v:OA)(p w:Nat)(K:VK):WK:=(lp [.l none 0 0,.l none 0 0,.l v p w,.i (p:Int),.i 0] fun o q=>∀h j k b c d e f m g a n,o [.l h j k,.l b c d,.l e f m,.i g,.i a] n→(br (decide (a<g)) (iO e f a 2 fun x=>aj x 2 fun y=>mk [.u 0,.u 0] fun r=>aN 2 (ad r 0) y (aj (ad r 0) 2 fun z=>bJ t z (x2 fun A B=>(xA 14 fun C=>(xB fun D=>mk c8 fun s=>aN 14 (ad s 0) C (br D (aj (ad s 0) 14 fun E=>EA 14 E fun F=>gj 14 112 c8 b c d (some ⟨F,0,none⟩) 1 fun G H I=>(ct o q [.l h j k,.l G H I,.l e f m,.i g,.i (adx.wrap (a+1))] [.l h j k,.l b c d,.l e f m,.i g,.i a] n)) ((ct o q [.l h j k,.l b c d,.l e f m,.i g,.i (adx.wrap (a+1))] [.l h j k,.l b c d,.l e f m,.i g,.i a] n)))) B) A))) (K (.l b c d))) n)
def l9.u:WP|[.pointer a,.slice b c d],K=>l9 a b c d K|_,_=>no
def lg(t v:OA)(p w:Nat)(K:VK):WK:=(lp [.l none 0 0,.l none 0 0,.l v p w,.i (p:Int),.i 0] fun o q=>∀h j k b c d e f m g a n,o [.l h j k,.l b c d,.l e f m,.i g,.i a] n→(br (decide (a<g)) (iO e f a 2 fun x=>aj x 2 fun y=>mk [.u 0,.u 0] fun r=>aN 2 (ad r 0) y (aj (ad r 0) 2 fun z=>dm t z (x2 fun A B=>(xA 33 fun C=>(xB fun D=>mk bj fun s=>aN 33 (ad s 0) C (br D (aj (ad s 16) 16 fun E=>EA 16 E fun F=>gj 16 128 gM b c d (some ⟨F,0,none⟩) 1 fun G H I=>(ct o q [.l h j k,.l G H I,.l e f m,.i g,.i (adx.wrap (a+1))] [.l h j k,.l b c d,.l e f m,.i g,.i a] n)) ((ct o q [.l h j k,.l b c d,.l e f m,.i g,.i (adx.wrap (a+1))] [.l h j k,.l b c d,.l e f m,.i g,.i a] n)))) B) A))) (K (.l b c d))) n)
def lg.u:WP|[.pointer a,.slice b c d],K=>lg a b c d K|_,_=>no
def cD.j1(K:VK)(w:Int)(x:OA)(y:Bool)(z:Int):WK:=(lp [.l none 0 0,.i w,.i z,.l none 0 0] fun u A=>∀j k m f n g c h p,u [.l j k m,.i f,.i n,.l g c h] p→(br (decide (f<n)) (nn x fun B=>lL B fun C D V=>iO C D f 2 fun E=>aj E 2 fun F=>EA 2 F fun G=>gj 2 16 [.i 0,.i 0] g c h (some ⟨G,0,none⟩) 1 fun H I J=>(ct u A [.l j k m,.i (adx.wrap (f+1)),.i n,.l H I J] [.l j k m,.i f,.i n,.l g c h] p)) (br y ((lp [.l j k m,.l g c h,.i 0,.i (adx.wrap ((c:Int) -1))] fun v M=>∀q r s a b o d e t,v [.l q r s,.l a b o,.i d,.i e] t→(br (decide (d<e)) (tick (iO a b e 2 fun O=>aj O 2 fun P=>iO a b d 2 fun Q=>aj Q 2 fun R=>iO a b d 2 fun S=>aN 2 S P (iO a b e 2 fun T=>aN 2 T R ((ct v M [.l q r s,.l a b o,.i (adx.wrap (d+1)),.i (adx.wrap (e-1))] [.l q r s,.l a b o,.i d,.i e] t))))) (K (.l a b o))) t)) (K (.l g c h)))) p)
def cD(a:OA)(h e:Int)(c:Bool)(K:VK):WK:=br (a.isNone) (K (.l none 0 0)) (tick (nn a fun f=>lL f fun i g j=>gA a h (xI .i64 fun d=>kp f [.l i g j] (br (e !=0) (gA a e (xI .i64 fun b=>nn a fun k=>lL k fun s m t=>br (decide (b<(m:Int))) (nn a fun n=>lL n fun o p u=>iO o p b 2 fun q=>lI q fun r=>br (r==e) (cD.j1 K d a c (adx.wrap (b+1))) (cD.j1 K d a c b)) (cD.j1 K d a c b))) (cD.j1 K d a c (g:Int))))))
def cD.u:WP|[.pointer a,.int .i64 b,.int .i64 c,.bool d],K=>cD a b c d K|_,_=>no
def gO(o:OA)(z A:Int)(B:Bool)(K:VK):WK:=br (o.isNone) (K (.l none 0 0)) (nn o fun C=>cD (some (C.add 5)) z A B (xL fun D u E=>(lp [.l none 0 0,.l none 0 0,.l D u E,.i (u:Int),.i 0] fun q v=>∀h j k b c d e f m g a n,q [.l h j k,.l b c d,.l e f m,.i g,.i a] n→(br (decide (a<g)) (iO e f a 2 fun F=>aj F 2 fun G=>mk [.i 0,.i 0] fun r=>aN 2 (ad r 0) G (tick (nn o fun w=>lP (w.add 2) fun s=>lI (ad r 1) fun t=>both (bE s t (x2 fun H I=>(xA 33 fun J=>(xB fun b2=>mk bj fun x=>aN 33 (ad x 0) J (aj (ad x 0) 33 fun M=>EA 33 M fun O=>gj 33 264 bj b c d (some ⟨O,0,none⟩) 1 fun P Q R=>(ct q v [.l h j k,.l P Q R,.l e f m,.i g,.i (adx.wrap (a+1))] [.l h j k,.l b c d,.l e f m,.i g,.i a] n))) I) H)) (mk bj fun y=>kp (ad r 1) [.i t] (kp (w.add 2) [.p s] (bE s t (x2 fun S T=>(xA 33 fun V=>(xB fun b3=>aN 33 (ad y 0) V (aj (ad y 0) 33 fun W=>EA 33 W fun X=>gj 33 264 bj b c d (some ⟨X,0,none⟩) 1 fun Y Z Wg=>(ct q v [.l h j k,.l Y Z Wg,.l e f m,.i g,.i (adx.wrap (a+1))] [.l h j k,.l b c d,.l e f m,.i g,.i a] n))) T) S))))))) (K (.l b c d))) n)))
def gO.u:WP|[.pointer a,.int .i64 b,.int .i64 c,.bool d],K=>gO a b c d K|_,_=>no
def jE.j3(K:VK)(s:Nat)(a:OA)(b c:Nat)(o:LI)(d:Addr)(e:OA)(f g:Nat)(h:OA)(j k:Nat)(m n:Int)(q:LM)(r:World)(t:Bool):WK:=br t (aj (ad s 16) 16 fun u=>EA 16 u fun v=>gj 16 128 gM a b c (some ⟨v,0,none⟩) 1 fun w x y=>(ct o q [.p (some d),.l e f g,.l w x y,.l h j k,.i m,.i (adx.wrap (n+1))] [.p (some d),.l e f g,.l a b c,.l h j k,.i m,.i n] r)) ((ct o q [.p (some d),.l e f g,.l a b c,.l h j k,.i m,.i (adx.wrap (n+1))] [.p (some d),.l e f g,.l a b c,.l h j k,.i m,.i n] r))
def jE.j2(K:VK)(a:Addr)(b:Nat)(q:Bool)(c:Nat)(d:OA)(e:Nat)(f:LI)(g:OA)(h i:Nat)(j:OA)(k l:Nat)(m n:Int)(o:LM)(p:World)(r:Bool):WK:=lI (a.add 7) fun s=>br (decide ((b:Int)<s)) (br q (jE.j3 K c d b e f a g h i j k l m n o p true) (jE.j3 K c d b e f a g h i j k l m n o p r)) (jE.j3 K c d b e f a g h i j k l m n o p false)
def jE.j1(K:VK)(a:Addr)(b c:Nat)(d:OA)(e:Nat)(f:LI)(g:OA)(h i:Nat)(j:OA)(k l:Nat)(m n:Int)(o:LM)(p:World)(q:Bool):WK:=lT (a.add 5) fun r=>br r (aj (ad b 20) 2 fun s=>aj a 2 fun t=>oa [.u 0,.u 0] s t fun v=>jE.j2 K a c q b d e f g h i j k l m n o p v) (jE.j2 K a c q b d e f g h i j k l m n o p false)
def jE(w:OA)(x:LV)(K:VK):WK:=mk x fun c=>lI (ad c 2) fun y=>lI (ad c 3) fun z=>lT (ad c 6) fun A=>gO w y z A (xL fun B t C=>(lp [.p (some (ad c 0)),.l none 0 0,.l none 0 0,.l B t C,.i (t:Int),.i 0] fun n v=>∀a o q r d e f g h s j b k,n [.p (some a),.l o q r,.l d e f,.l g h s,.i j,.i b] k→(br (decide (b<j)) (iO g h b 33 fun D=>aj D 33 fun E=>mk bj fun m=>aN 33 (ad m 0) E (lT (a.add 4) fun F=>br F (aj (ad m 18) 2 fun G=>aj a 2 fun H=>oa [.u 0,.u 0] G H fun I=>jE.j1 K a m e d f n o q r g h s j b v k I) (jE.j1 K a m e d f n o q r g h s j b v k false))) (K (.l d e f))) k))
def jE.u:WP|[.pointer a,.agg ⟨b⟩],K=>jE a b K|_,_=>no
def vu(c:OA)(e:LV)(K:VK):WK:=mk e fun b=>mk JV fun a=>br (c.isNone) (bl (1=1∧True) (bl (4=4) (iN (ad a 0) [.i 2,.l none 0 0,.l none 0 0,.l none 0 0] (aj (ad a 0) 4 fun f=>K (.agg ⟨f⟩))))) (aj (ad b 0) 13 fun g=>eo g (xB fun h=>br (!h) (bl (1=1∧True) (bl (4=4) (iN (ad a 0) [.i 1,.l none 0 0,.l none 0 0,.l none 0 0] (aj (ad a 0) 4 fun j=>K (.agg ⟨j⟩))))) (lI (ad b 0) fun d=>br (d==4) (lL (ad b 4) fun k m n=>l9 c k m n (xL fun o p q=>bl (1=1∧True) (bl (4=4) (iN (ad a 0) [.i 0,.l none 0 0,.l o p q,.l none 0 0] (aj (ad a 0) 4 fun r=>K (.agg ⟨r⟩)))))) (br (d==5) (lL (ad b 4) fun s t u=>lg c s t u (xL fun v w x=>bl (1=1∧True) (bl (4=4) (iN (ad a 0) [.i 0,.l none 0 0,.l none 0 0,.l v w x] (aj (ad a 0) 4 fun y=>K (.agg ⟨y⟩)))))) (aj (ad b 5) 8 fun z=>jE c z (xL fun A B C=>bl (1=1∧True) (bl (4=4) (iN (ad a 0) [.i 0,.l none 0 0,.l none 0 0,.l A B C] (aj (ad a 0) 4 fun D=>K (.agg ⟨D⟩))))))))))
def vu.u:WP|[.pointer a,.agg ⟨b⟩],K=>vu a b K|_,_=>no
def nD(h:LV)(K:VK):WK:=mk h fun j=>mk Zn fun k=>(lp [.p (some (ad j 0)),.string .empty,.p (some (ad k 0)),.i 0] fun f l=>∀b d c a e,f [.p (some b),.string d,.p (some c),.i a] e→(br (decide (a<8)) (tick (lU (b.add 1) fun m=>bl ((0:Int)≤(adx.wrap (8* a))) (lU b fun g=>bl ((0:Int)≤(adx.wrap (8* a))) (bl ((0:Int)≤a∧a<16) (st (c.add (a.toNat* 1)) (.int .u8 (IntKind.u8.wrap (shr .u64 m (adx.wrap (8* a))))) (kp b [.u g] (bl ((0:Int)≤(adx.wrap (8+a))∧(adx.wrap (8+a))<16) (st (c.add ((adx.wrap (8+a)).toNat* 1)) (.int .u8 (IntKind.u8.wrap (shr .u64 g (adx.wrap (8* a))))) ((ct f l [.p (some b),.string d,.p (some c),.i (adx.wrap (a+1))] [.p (some b),.string d,.p (some c),.i a] e)))))))))) (oC (some c) 16 16 1 none none fun n o r=>Rg n o fun q=>K (.string q))) e)
def nD.u:WP|[.agg ⟨a⟩],K=>nD a K|_,_=>no
def gu(a:OA)(f:LV)(K:VK):WK:=mk f fun g=>tick (nn a fun b=>lL b fun c d e=>aj (ad g 0) 2 fun h=>nD h (xS fun i=>kp b [.l c d e] (Bx c d e i fun j k m=>nn a fun n=>st n (.l j k m) (K (.tuple ⟨[]⟩)))))
def gu.u:WP|[.pointer a,.agg ⟨b⟩],K=>gu a b K|_,_=>no
def mq.j1(K:VK)(c:Nat)(d:OA):WK:=aj (ad c 0) 2 fun g=>aj (ad c 2) 2 fun h=>aj (ad c 4) 2 fun j=>aj (ad c 6) 2 fun k=>aj (ad c 8) 2 fun l=>bl (g.length=2∧(h.length=2∧(j.length=2∧(k.length=2∧(l.length=2∧True))))) ((lp [.p (some (ad c 0)),.agg ⟨(g++(h++(j++(k++(l++[])))))⟩,.i 0] fun m o=>∀b e a f,m [.p (some b),.agg ⟨e⟩,.i a] f→(br (decide (a<5)) (bl ((0:Int)≤a∧a<5) (mk [.u 0,.u 0] fun n=>bl (((e.drop ((a:Int).toNat* 2)).take 2).length=2) (iN (ad n 0) ((e.drop ((a:Int).toNat* 2)).take 2) (aj (ad n 0) 2 fun q=>gu d q (x0 ((ct m o [.p (some b),.agg ⟨e⟩,.i (adx.wrap (a+1))] [.p (some b),.agg ⟨e⟩,.i a] f))))))) (lI (b.add 10) fun r=>aD d 4 r (x0 (lI (b.add 11) fun s=>aD d 2 s (x0 (lI (b.add 12) fun t=>aD d 2 t (x0 (lI (b.add 13) fun v=>aD d 8 v (x0 (K (.tuple ⟨[]⟩))))))))))) f))
def mq(b:OA)(c:LV)(K:VK):WK:=mk c fun a=>aj (ad a 0) 14 fun d=>fS d (xB fun e=>br (!e) (bl True (bl (14=14) (iN (ad a 0) c8 (mq.j1 K a b)))) (mq.j1 K a b))
def mq.u:WP|[.pointer a,.agg ⟨b⟩],K=>mq a b K|_,_=>no
def fV(h m:OA)(e n:Nat)(K:VK):WK:=nn h fun o=>aD (some o) 1 (e:Int) (x0 ((lp [.l m e n,.i (e:Int),.i 0] fun j p=>∀b c f d a g,j [.l b c f,.i d,.i a] g→(br (decide (a<d)) (iO b c a 14 fun q=>aj q 14 fun r=>mk c8 fun k=>aN 14 (ad k 0) r (tick (nn h fun s=>aj (ad k 0) 14 fun t=>mq (some s) t (x0 ((ct j p [.l b c f,.i d,.i (adx.wrap (a+1))] [.l b c f,.i d,.i a] g)))))) (K (.tuple ⟨[]⟩))) g)))
def fV.u:WP|[.pointer a,.slice b c d],K=>fV a b c d K|_,_=>no
def lv.j1(K:VK)(d:Nat)(c:OA):WK:=aj (ad d 0) 2 fun g=>aj (ad d 2) 2 fun h=>aj (ad d 4) 2 fun j=>aj (ad d 6) 2 fun k=>aj (ad d 8) 2 fun l=>bl (g.length=2∧(h.length=2∧(j.length=2∧(k.length=2∧(l.length=2∧True))))) ((lp [.p (some (ad d 0)),.agg ⟨(g++(h++(j++(k++(l++[])))))⟩,.i 0] fun m o=>∀a e b f,m [.p (some a),.agg ⟨e⟩,.i b] f→(br (decide (b<5)) (bl ((0:Int)≤b∧b<5) (mk [.u 0,.u 0] fun n=>bl (((e.drop ((b:Int).toNat* 2)).take 2).length=2) (iN (ad n 0) ((e.drop ((b:Int).toNat* 2)).take 2) (aj (ad n 0) 2 fun q=>gu c q (x0 ((ct m o [.p (some a),.agg ⟨e⟩,.i (adx.wrap (b+1))] [.p (some a),.agg ⟨e⟩,.i b] f))))))) (lI (a.add 10) fun r=>aD c 4 r (x0 (lI (a.add 11) fun s=>aD c 4 s (x0 (lI (a.add 12) fun t=>aD c 2 t (x0 (lI (a.add 13) fun v=>aD c 2 v (x0 (lI (a.add 14) fun w=>aD c 8 w (x0 (lI (a.add 15) fun x=>aD c 8 x (x0 (K (.tuple ⟨[]⟩))))))))))))))) f))
def lv(b:OA)(c:LV)(K:VK):WK:=mk c fun a=>aj (ad a 0) 16 fun d=>dc d (xB fun e=>br (!e) (bl True (bl (16=16) (iN (ad a 0) gM (lv.j1 K a b)))) (lv.j1 K a b))
def lv.u:WP|[.pointer a,.agg ⟨b⟩],K=>lv a b K|_,_=>no
def fG(h m:OA)(e n:Nat)(K:VK):WK:=nn h fun o=>aD (some o) 1 (e:Int) (x0 ((lp [.l m e n,.i (e:Int),.i 0] fun j p=>∀b c f d a g,j [.l b c f,.i d,.i a] g→(br (decide (a<d)) (iO b c a 16 fun q=>aj q 16 fun r=>mk gM fun k=>aN 16 (ad k 0) r (tick (nn h fun s=>aj (ad k 0) 16 fun t=>lv (some s) t (x0 ((ct j p [.l b c f,.i d,.i (adx.wrap (a+1))] [.l b c f,.i d,.i a] g)))))) (K (.tuple ⟨[]⟩))) g)))
def fG.u:WP|[.pointer a,.slice b c d],K=>fG a b c d K|_,_=>no
def iX(a:OA)(b:Bool)(K:VK):WK:=br b (aD a 1 1 (x0 (K (.tuple ⟨[]⟩)))) (aD a 1 0 (x0 (K (.tuple ⟨[]⟩))))
def iX.u:WP|[.pointer a,.bool b],K=>iX a b K|_,_=>no
def ig(b:OA)(h:LV)(K:VK):WK:=mk h fun a=>tick (nn b fun j=>aj (ad a 0) 2 fun k=>gu (some j) k (x0 (tick (nn b fun l=>lI (ad a 2) fun m=>aD (some l) 8 m (x0 (tick (nn b fun n=>lI (ad a 3) fun o=>aD (some n) 8 o (x0 (lT (ad a 4) fun q=>lT (ad a 5) fun r=>lT (ad a 6) fun s=>bl (1=1∧(1=1∧(1=1∧True))) ((lp [.p (some (ad a 0)),.agg ⟨[.bool q,.bool r,.bool s]⟩,.i 0] fun g t=>∀d e c f,g [.p (some d),.agg ⟨e⟩,.i c] f→(br (decide (c<3)) (yq e 3 c (xB fun u=>nn b fun v=>iX (some v) u (x0 ((ct g t [.p (some d),.agg ⟨e⟩,.i (adx.wrap (c+1))] [.p (some d),.agg ⟨e⟩,.i c] f))))) (tick (nn b fun w=>lI (d.add 7) fun x=>aD (some w) 1 x (x0 (K (.tuple ⟨[]⟩)))))) f)))))))))))
def ig.u:WP|[.pointer a,.agg ⟨b⟩],K=>ig a b K|_,_=>no
def nC(t:LV)(K:VK):WK:=mk t fun b=>aj (ad b 0) 13 fun v=>jT v (xB fun w=>br (!w) (K (.tuple ⟨[.string .empty,.i 1]⟩)) (bl True (mk [.l none 0 0] fun a=>tick (lI (ad b 0) fun x=>aD (some (ad a 0)) 1 x (x0 (lI (ad b 0) fun e=>br (e==1) (lL (ad b 1) fun y z A=>fV (some (ad a 0)) y z A (x0 (bM (some (ad a 0)) (xS fun B=>K (.tuple ⟨[.string B,.i 0]⟩))))) (br (e==2) (lL (ad b 2) fun C D E=>fG (some (ad a 0)) C D E (x0 (bM (some (ad a 0)) (xS fun F=>K (.tuple ⟨[.string F,.i 0]⟩))))) (br (e==3) (tick (lI (ad b 3) fun G=>aD (some (ad a 0)) 8 G (x0 (bM (some (ad a 0)) (xS fun H=>K (.tuple ⟨[.string H,.i 0]⟩)))))) (br (e==6) (aj (ad b 5) 8 fun I=>ig (some (ad a 0)) I (x0 (bM (some (ad a 0)) (xS fun J=>K (.tuple ⟨[.string J,.i 0]⟩))))) (tick (lL (ad b 4) fun M o O=>aD (some (ad a 0)) 1 (o:Int) (x0 (kp (ad b 4) [.l M o O] (lL (ad b 4) fun P q Q=>(lp [.string .empty,.i 0,.p (some (ad a 0)),.l P q Q,.i (q:Int),.i 0] fun r R=>∀j k c f g m h d n,r [.string j,.i k,.p (some c),.l f g m,.i h,.i d] n→(br (decide (d<h)) (iO f g d 2 fun S=>aj S 2 fun T=>mk [.u 0,.u 0] fun s=>aN 2 (ad s 0) T (tick (aj (ad s 0) 2 fun V=>gu (some c) V (x0 ((ct r R [.string j,.i k,.p (some c),.l f g m,.i h,.i (adx.wrap (d+1))] [.string j,.i k,.p (some c),.l f g m,.i h,.i d] n)))))) (bM (some c) (xS fun W=>K (.tuple ⟨[.string W,.i 0]⟩)))) n)))))))))))))))
def nC.u:WP|[.agg ⟨a⟩],K=>nC a K|_,_=>no
def fQ(a:OA)(K:VK):WK:=br (a.isNone) (K (.i 0)) (nn a fun b=>lI (b.add 7) fun c=>K (.i c))
def fQ.u:WP|[.pointer a],K=>fQ a K|_,_=>no
def dI(a:OA)(K:VK):WK:=br (a.isNone) (K (.l none 0 0)) (nn a fun b=>lL b fun c d h=>gj 14 112 c8 none 0 0 c d fun e f g=>K (.l e f g))
def dI.u:WP|[.pointer a],K=>dI a K|_,_=>no
def dR(a:OA)(K:VK):WK:=br (a.isNone) (K (.l none 0 0)) (nn a fun b=>lP (b.add 1) fun c=>dI c (xL fun d e f=>K (.l d e f)))
def dR.u:WP|[.pointer a],K=>dR a K|_,_=>no
def fo(a:OA)(K:VK):WK:=br (a.isNone) (K (.l none 0 0)) (nn a fun b=>lL b fun c d h=>gj 33 264 bj none 0 0 c d fun e f g=>K (.l e f g))
def fo.u:WP|[.pointer a],K=>fo a K|_,_=>no
def fP(a:OA)(K:VK):WK:=br (a.isNone) (K (.l none 0 0)) (nn a fun b=>lP (b.add 2) fun c=>fo c (xL fun d e f=>K (.l d e f)))
def fP.u:WP|[.pointer a],K=>fP a K|_,_=>no
def gV(a:OA)(K:VK):WK:=br (a.isNone) (K (.i 0)) (nn a fun b=>lI (b.add 8) fun c=>K (.i c))
def gV.u:WP|[.pointer a],K=>gV a K|_,_=>no
def lJ(b:OA)(K:VK):WK:=bl True (mk [.l none 0 0] fun c=>aD (some (ad c 0)) 1 1 (x0 (fQ b (xI .i64 fun B=>aD (some (ad c 0)) 8 B (x0 (gV b (xI .i64 fun C=>aD (some (ad c 0)) 8 C (x0 (dR b (xL fun Y D Z=>aD (some (ad c 0)) 2 (D:Int) (x0 (fP b (xL fun uF E uE=>aD (some (ad c 0)) 2 (E:Int) (x0 (dR b (xL fun F w G=>(lp [.string .empty,.p (some (ad c 0)),.l F w G,.i (w:Int),.i 0] fun x H=>∀g d h j r k e s,x [.string g,.p (some d),.l h j r,.i k,.i e] s→(br (decide (e<k)) (iO h j e 14 fun I=>aj I 14 fun J=>mk c8 fun y=>aN 14 (ad y 0) J (aj (ad y 0) 14 fun M=>mq (some d) M (x0 ((ct x H [.string g,.p (some d),.l h j r,.i k,.i (adx.wrap (e+1))] [.string g,.p (some d),.l h j r,.i k,.i e] s))))) (fP b (xL fun O z P=>(lp [.string g,.p (some d),.l O z P,.i (z:Int),.i 0] fun A Q=>∀t a m n u o f v,A [.string t,.p (some a),.l m n u,.i o,.i f] v→(br (decide (f<o)) (iO m n f 33 fun R=>aj R 33 fun S=>mk bj fun q=>aN 33 (ad q 0) S (aj (ad q 0) 16 fun T=>lv (some a) T (x0 (aj (ad q 16) 16 fun V=>lv (some a) V (x0 (lI (ad q 32) fun W=>aD (some a) 1 W (x0 ((ct A Q [.string t,.p (some a),.l m n u,.i o,.i (adx.wrap (f+1))] [.string t,.p (some a),.l m n u,.i o,.i f] v))))))))) (bM (some a) (xS fun X=>K (.string X)))) v)))) s)))))))))))))))))
def lJ.u:WP|[.pointer a],K=>lJ a K|_,_=>no
def dj.j1(K:VK)(a:OA)(b:Int):WK:=br (b !=0) (nn a fun c=>st (c.add 9) (.bool true) (K (.i b))) (nn a fun d=>lI (d.add 8) fun e=>nn a fun f=>st (f.add 8) (.i (adx.wrap (e+1))) (nn a fun g=>lP (g.add 7) fun h=>dD h (x0 (K (.i 0)))))
def dj(a:OA)(K:VK):WK:=br (a.isNone) (K (.i 2)) (nn a fun l=>lT (l.add 9) fun m=>br m (K (.i 9)) (nn a fun n=>lP (n.add 6) fun o=>lJ o (xS fun b=>nn a fun q=>aj (q.add 1) 5 fun r=>jn r (b.size:Int) (xB fun s=>br (!s) (K (.i 3)) (nn a fun t=>lP t fun u=>iD u (xI .i64 fun c=>tick (nn a fun v=>aj (v.add 1) 5 fun w=>nn a fun x=>lP x fun y=>nn a fun f=>lI (f.add 8) fun g=>jN w y (adx.wrap (g+1)) (adx.wrap (c+1)) b (xI .i64 fun h=>kp (f.add 8) [.i g] (br (h==0) (tick (nn a fun j=>lP j fun k=>nn a fun d=>lI (d.add 8) fun e=>nn a fun z=>lP (z.add 7) fun A=>eE A (xI .i64 fun B=>kp (d.add 8) [.i e] (kp j [.p k] (bl (1=1∧(1=1∧(1=1∧(1=1∧True)))) (mY k (adx.wrap ((adx.wrap (c+1))+1)) [.i (adx.wrap (e+1)),.i (adx.wrap (c+1)),.i (b.size:Int),.i B] (xI .i64 fun C=>kp (d.add 8) [.i e] (dj.j1 K a C)))))))) (dj.j1 K a h))))))))))
def dj.u:WP|[.pointer a],K=>dj a K|_,_=>no
def eH.j1(K:VK)(a:OA)(e:BA):WK:=tick (nn a fun c=>lP (c.add 7) fun d=>nn a fun f=>lP f fun g=>iD g (xI .i64 fun h=>kp (c.add 7) [.p d] (aR d (adx.wrap (h+1)) e (xI .i64 fun b=>nn a fun j=>lT (j.add 9) fun k=>br k (nn a fun l=>st (l.add 9) (.bool true) (K (.i b))) (nn a fun m=>st (m.add 9) (.bool (b==8)) (K (.i b)))))))
def eH(a:OA)(b:BA)(K:VK):WK:=nn a fun d=>lP (d.add 7) fun e=>dP e (b.size:Int) (xB fun f=>br (!f) (dj a (xI .i64 fun c=>br (c !=0) (K (.i c)) (eH.j1 K a b))) (eH.j1 K a b))
def eH.u:WP|[.pointer a,.string b],K=>eH a b K|_,_=>no
def jA(a:OA)(K:VK):WK:=br (a.isNone) (K (.i 0)) (nn a fun b=>lP (b.add 7) fun c=>eE c (xI .i64 fun d=>K (.i d)))
def jA.u:WP|[.pointer a],K=>jA a K|_,_=>no
def gR(a:OA)(K:VK):WK:=br (a.isNone) (K (.p none)) (nn a fun b=>lP (b.add 6) fun c=>lJ c (xS fun d=>jB d (x2 fun e f=>(xP fun g=>(xI .i64 fun h=>K (.p g)) f) e)))
def gR.u:WP|[.pointer a],K=>gR a K|_,_=>no
end Go.Prog
namespace Go.Md
def aO:Nat:=340282366920938463463374607431768211456
structure aS where
 id:Nat
 dp:Nat
 dq:Nat
 cp:Nat
 cq:Nat
 aJ:Int
 code:Int
 flags:Int
 af:Int
deriving DecidableEq
structure Move where
 id:Nat
 aH:Nat
 ar:Nat
 aC:Nat
 pending:Nat
 timeout:Int
 aJ:Int
 code:Int
 flags:Int
 af:Int
 born:Int
deriving DecidableEq
structure Kept where
 asked:Move
 move:Move
 fate:Int
deriving DecidableEq
structure ax where
 ag:List aS
 kept:List Kept
 clock:Int
 af:Int
structure Model where
 made:List aS
 kept:List Kept
 clock:Int
 af:Int
def has(f b:Int):Prop:=f/b%2=1
instance(f b:Int):Decidable (has f b):=by unfold has;infer_instance
def qE(a:aS):Int:=
 if a.flags<0∨7<a.flags then 3 else if a.id=0 then 4 else if a.id=aO-1 then 5 else if has a.flags 2∧has a.flags 4 then 6
 else if a.dp≠0∨a.dq≠0∨a.cp≠0∨a.cq≠0∨a.af≠0 then 7 else if a.aJ≤0∨4294967296≤a.aJ then 8 else if a.code≤0∨65536≤a.code then 9 else 0
def rr(a b:aS):Int:=if a.aJ=b.aJ∧a.code=b.code∧a.flags/2%4=b.flags/2%4 then 10 else 11
def iR(f:Int):Prop:=has f 4∨has f 8
instance(f:Int):Decidable (iR f):=by unfold iR;infer_instance
def gW(f:Int):Prop:= ¬(has f 2∧has f 4∨has f 2∧has f 8∨has f 4∧has f 8)∧¬(iR f∧16≤f)∧(f<64∨has f 2)
instance(f:Int):Decidable (gW f):=by unfold gW;infer_instance
def lE(t:Move):Int:=
 if t.flags<0∨255<t.flags then 3 else if t.id=0 then 4 else if t.id=aO-1 then 5 else if ¬gW t.flags then 6
 else if t.af≠0∨t.born≠0 then 7 else if t.timeout<0∨1073741824<t.timeout∨0<t.timeout∧¬has t.flags 2 then 17
 else if iR t.flags then
  (if t.pending=0 then 16 else if t.aJ<0∨4294967296≤t.aJ then 8 else if t.code<0∨65536≤t.code then 9 else 0)
 else if t.aH=0 then 12 else if t.ar=0 then 13 else if t.aH=t.ar then 14 else if t.pending≠0 then 15 else if t.aC=0∧¬has t.flags 16∧¬has t.flags 32 then 18
 else if t.aJ<1∨4294967296≤t.aJ then 8 else if t.code<1∨65536≤t.code then 9 else 0
def qw(t b:Move):Int:=if{t with flags:=t.flags/2}={b with flags:=b.flags/2} then 10 else 11
def S(f:Kept→Nat)(l:List Kept):Nat:=(l.map f).sum
def ua(f:Kept→Nat):S f []=0:=rfl
def oy(f:Kept→Nat)(k:Kept)(l:List Kept):S f (k::l)=f k+S f l:=by simp[S]
def Oo(f:Kept→Nat)(l m:List Kept):S f (l++m)=S f l+S f m:=by simp[S]
def ru(f:Kept→Nat)(l:List Kept)(k:Kept):S f (l++[k])=S f l+f k:=by simp[S]
def Di(f:Kept→Nat):∀(l:List Kept)(i:Nat)(k:Kept)(h:i<l.length),S f (l.set i k)+f l[i]=S f l+f k
 |[],i,k,h=>by simp at h
 |x::l,0,k,h=>by simp[S];omega
 |x::l,i+1,k,h=>by
  have ih:=Di f l i k (by simpa using h);simp only[aeP,oy,List.getElem_cons_succ];omega
def On(f:Kept→Nat):∀(l:List Kept)(k:Kept),k∈l→f k≤S f l
 |[],k,h=>by simp at h
 |x::l,k,h=>by
  rw[oy];rcases aeS.1 h with h|h
  ·subst h;omega
  ·have:=On f l k h;omega
def vF(id:Nat)(k:Kept):Nat:=if k.fate=1∧k.move.aH=id then k.move.aC else 0
def vG(id:Nat)(k:Kept):Nat:=if k.fate=1∧k.move.ar=id then k.move.aC else 0
def jx(k:Kept):Prop:= ¬has k.move.flags 2∧¬has k.move.flags 8
instance(k:Kept):Decidable (jx k):=by unfold jx;infer_instance
def xG(id:Nat)(k:Kept):Nat:=if jx k∧k.move.aH=id then k.move.aC else 0
def xH(id:Nat)(k:Kept):Nat:=if jx k∧k.move.ar=id then k.move.aC else 0
def iW(id:Nat)(k:Kept):Prop:=(has k.move.flags 64∧k.move.aH=id∨has k.move.flags 128∧k.move.ar=id)∧(k.fate=1∨k.fate=2)
instance(id:Nat)(k:Kept):Decidable (iW id k):=by unfold iW;infer_instance
def qn(id:Nat)(k:Kept):Nat:=if iW id k then 1 else 0
def add(a b:Nat):Nat:=if a+b<aO then a+b else 0
def sn(a:aS)(k:Kept):aS:=
 {a with dq:=if jx k∧k.move.aH=a.id then add a.dq k.move.aC else a.dq,cq:=if jx k∧k.move.ar=a.id then add a.cq k.move.aC else a.cq,dp:=if k.fate=1∧k.move.aH=a.id then add a.dp k.move.aC else a.dp,cp:=if k.fate=1∧k.move.ar=a.id then add a.cp k.move.aC else a.cp,flags:=if iW a.id k then a.flags%8+8 else a.flags}
def full(l:List Kept)(a:aS):aS:=
 {a with dp:=a.dp+S (vF a.id) l,dq:=a.dq+S (xG a.id) l,cp:=a.cp+S (vG a.id) l,cq:=a.cq+S (xH a.id) l,flags:=if S (qn a.id) l=0 then a.flags else a.flags%8+8}
def KZ(a:aS)(k:Kept)(h1:a.dp+vF a.id k<aO)(h2:a.dq+xG a.id k<aO)(h3:a.cp+vG a.id k<aO)(h4:a.cq+xH a.id k<aO):sn a k=full [k] a:=by
 have e1:(if k.fate=1∧k.move.aH=a.id then add a.dp k.move.aC else a.dp)=a.dp+S (vF a.id) [k]:=by
  rw[oy,ua];unfold vF at h1⊢;by_cases h:k.fate=1∧k.move.aH=a.id
  ·rw[if_pos h] at h1⊢;rw[if_pos h];unfold add;rw[if_pos h1];omega
  ·rw[if_neg h,if_neg h];rfl
 have e2:(if jx k∧k.move.aH=a.id then add a.dq k.move.aC else a.dq)=a.dq+S (xG a.id) [k]:=by
  rw[oy,ua];unfold xG at h2⊢;by_cases h:jx k∧k.move.aH=a.id
  ·rw[if_pos h] at h2⊢;rw[if_pos h];unfold add;rw[if_pos h2];omega
  ·rw[if_neg h,if_neg h];rfl
 have e3:(if k.fate=1∧k.move.ar=a.id then add a.cp k.move.aC else a.cp)=a.cp+S (vG a.id) [k]:=by
  rw[oy,ua];unfold vG at h3⊢;by_cases h:k.fate=1∧k.move.ar=a.id
  ·rw[if_pos h] at h3⊢;rw[if_pos h];unfold add;rw[if_pos h3];omega
  ·rw[if_neg h,if_neg h];rfl
 have e4:(if jx k∧k.move.ar=a.id then add a.cq k.move.aC else a.cq)=a.cq+S (xH a.id) [k]:=by
  rw[oy,ua];unfold xH at h4⊢;by_cases h:jx k∧k.move.ar=a.id
  ·rw[if_pos h] at h4⊢;rw[if_pos h];unfold add;rw[if_pos h4];omega
  ·rw[if_neg h,if_neg h];rfl
 have e5:(if iW a.id k then a.flags%8+8 else a.flags)=if S (qn a.id) [k]=0 then a.flags else a.flags%8+8:=by
  rw[oy,ua];unfold qn;by_cases h:iW a.id k
  ·rw[if_pos h,if_pos h,if_neg (by omega)]
  ·rw[if_neg h,if_neg h,if_pos (by omega)]
 unfold sn full;rw[e1,e2,e3,e4,e5]
def yC(a:aS)(l m:List Kept):full m (full l a)=full (l++m) a:=by
 unfold full;dsimp only;simp only[Oo,Nat.add_assoc]
 congr 1
 by_cases h1:S (qn a.id) l=0
 ·rw[if_pos h1];by_cases h2:S (qn a.id) m=0
  ·rw[if_pos h2,if_pos (by omega)]
  ·rw[if_neg h2,if_neg (by omega)]
 ·rw[if_neg h1];by_cases h2:S (qn a.id) m=0
  ·rw[if_pos h2,if_neg (by omega)]
  ·rw[if_neg h2,if_neg (by omega)];omega
def HQ(a:aS):∀(l:List Kept),a.dp+S (vF a.id) l<aO→a.dq+S (xG a.id) l<aO→a.cp+S (vG a.id) l<aO→a.cq+S (xH a.id) l<aO→l.foldl sn a=full l a:=by
 intro l
 induction l generalizing a with
 |nil=>intros;unfold full;simp[ua]
 |cons k l ih=>
  intro h1 h2 h3 h4;rw[oy] at h1 h2 h3 h4;rw[List.foldl_cons,KZ a k (by omega) (by omega) (by omega) (by omega)];have G0:(full [k] a).id=a.id:=rfl;have:=ih (full [k] a) (by rw[G0];show a.dp+S (vF a.id) [k]+_<_;rw[oy,ua];omega) (by rw[G0];show a.dq+S (xG a.id) [k]+_<_;rw[oy,ua];omega)
   (by rw[G0];show a.cp+S (vG a.id) [k]+_<_;rw[oy,ua];omega) (by rw[G0];show a.cq+S (xH a.id) [k]+_<_;rw[oy,ua];omega)
  rw[this,yC];rfl
end Go.Md
namespace Go.Up
open Go.Sep Go.Den Go.RowKit Go.Prog Go.Md
instance{a b:Value}{n:Nat}:Wr [a,b] 0 (nm n) (nm n):=⟨rfl,adG _,fun v h=>by simp[nm] at h;rcases h with rfl|rfl<;>rfl⟩
instance{m n:Nat}:Wr (nm m) 0 (nm n) (nm n):=⟨rfl,adG _,fun v h=>by simp[nm] at h;rcases h with rfl|rfl<;>rfl⟩
instance{a b:Value}{k k':IntKind}{x y:Int}:Wr [a,b] 0 [.int k x,.int k' y] [.int k x,.int k' y]:=⟨rfl,adG _,fun v h=>by simp at h;rcases h with rfl|rfl<;>rfl⟩
instance{n:Nat}{k k':IntKind}{x y:Int}:Wr (nm n) 0 [.int k x,.int k' y] [.int k x,.int k' y]:=⟨rfl,adG _,fun v h=>by simp at h;rcases h with rfl|rfl<;>rfl⟩
section
variable {W:World} {L:LH} {K:VK} {a b n:Nat}
def qx(h:T W L (K (.bool (decide (n=0))))):T W L (eK (nm n) K):=by
 unfold eK
 repeat' first|apply ww|apply wm;intro _|apply wb
 exact T.dp h
def Td{x y c:Int}(h1:(0≤x∧0≤y)∧0≤c∧c≤1)(h:T W L (K (.tuple ⟨[.u ((x+y+c)%18446744073709551616),.u ((x+y+c)/18446744073709551616)]⟩))):T W L (nN x y c K):=c9 h1 h
def Mp{x y c:Int}(h1:(0≤x∧0≤y∧y<18446744073709551616)∧0≤c∧c≤1)(h:T W L (K (.tuple ⟨[.u ((x-y-c)%18446744073709551616),.u (if x<y+c then 1 else 0)]⟩))):T W L (nM x y c K):=c9 h1 h
def Ly(h:T W L (K (.i (if a=b then 0 else if a<b then-1 else 1)))):T W L (lW (nm a) (nm b) K):=by
 unfold lW
 repeat' first|apply ww|apply wm;intro _|apply wb|with_reducible refine az (fun h1=>?_) (fun h1=>?_)|fail
 all_goals (refine T.fin (T.dp h) ?_;simp only[decide_eq_true_eq,decide_eq_false_iff_not,beq_iff_eq,beq_eq_false_iff_ne,ne_eq] at *;congr 1;split<;>(try split)<;>omega)
def xX(h:T W L (K (.bool (decide (a<b))))):T W L (lz (nm a) (nm b) K):=by
 unfold lz
 repeat' first|apply ww|apply wm;intro _|apply wb|with_reducible refine Ly ?_|fail
 refine T.fin (T.dp h) ?_
 congr 1
 simp only[decide_eq_decide];split<;>(try split)<;>omega
def SB(h:T W L (K (.agg ⟨nm (min a b)⟩))):T W L (pg (nm a) (nm b) K):=by
 unfold pg
 repeat' first|apply ww|apply wm;intro _|apply wb|with_reducible first|refine xX ?_|refine az (fun h1=>?_) (fun h1=>?_)|fail
 all_goals (refine T.fin (T.dp h) ?_;simp only[decide_eq_true_eq,decide_eq_false_iff_not] at h1;congr 3;omega)
def MY{x y:Int}(n:Nat)(h1:x=((n/18446744073709551616:Nat):Int))(h2:y=((n%18446744073709551616:Nat):Int)):[Value.int .u64 x,Value.int .u64 y]=nm n:=by rw[h1,h2];rfl
abbrev xQ(a b:Nat):Value:=.tuple ⟨[.agg ⟨nm (if a+b<aO then a+b else 0)⟩,.bool (decide (a+b<aO))]⟩
abbrev Wd(a b:Nat):Value:=.tuple ⟨[.agg ⟨nm (if a<b then 0 else a-b)⟩,.bool (decide (b≤a))]⟩
def yQ(ha:a<aO)(hb:b<aO)(h:T W L (K (xQ a b))):T W L (kz (nm a) (nm b) K):=by
 unfold aO at ha hb;unfold kz
 repeat' first|apply ww|apply wm;intro _|apply wb|with_reducible first|refine Td (by omega) ?_|refine az (fun h1=>?_) (fun h1=>?_)|fail
 all_goals
  refine T.fin (T.dp h) ?_;simp only[bne_iff_ne,ne_eq,bne_eq_false_iff_eq] at h1;unfold xQ aO
 ·rw[if_neg (by omega),decide_eq_false (by omega)];rfl
 ·rw[if_pos (by omega),decide_eq_true (by omega),MY (a+b) (by omega) (by omega)]
def Oi(ha:a<aO)(hb:b<aO)(h:T W L (K (Wd a b))):T W L (ky (nm a) (nm b) K):=by
 unfold aO at ha hb;unfold ky
 repeat' first|apply ww|apply wm;intro _|apply wb|with_reducible first|refine xX ?_|refine Mp (by omega) ?_|refine Mp (by split<;>omega) ?_|refine az (fun h1=>?_) (fun h1=>?_)|fail
 all_goals
  refine T.fin (T.dp h) ?_;simp only[decide_eq_true_eq,decide_eq_false_iff_not] at h1;unfold Wd
 ·rw[if_pos h1,decide_eq_false (by omega)];rfl
 ·rw[if_neg h1,decide_eq_true (by omega),MY (a-b) (by split<;>omega) (by omega)]
end
end Go.Up
namespace Go.Sep
open Go.Den Go.RowKit Go.Prog Go.bI
def MR{s:BA}(h:s.size≤128):(aA.pad s).size=128:=by
 unfold aA.pad;rw[ByteArray.size_append,qe];omega
def Tz(n:Int):(aA.new n).Ok:=by
 have hn:0≤min2 (max2 n 0) 4096∧min2 (max2 n 0) 4096≤4096:=by unfold min2 max2;split<;>split<;>omega
 refine⟨fun s hs=>?_,fun p hp=>?_,?_,?_⟩
 ·simp only[aA.new,List.mem_replicate] at hs;rw[hs.2];exact qe 128
 ·simp[aA.new] at hp
 ·simp only[aA.new,aeH];omega
 ·simp[aA.new]
def nu(D:aA)(mask torn cut:Int):D.ie mask torn cut=⟨crashed mask torn (min2 (max2 cut 0) 128) D.safe D.later D.later.length,[],D.ops,0⟩:=by
 unfold aA.ie;have:=wK mask torn (min2 (max2 cut 0) 128) D.later D.safe D.later.length 0 (by omega);simp only[aeJ,crashed] at this;rw[this]
def oI(D:aA)(i:Int)(s:BA):(D.write i s).1.safe=D.safe∧(D.write i s).1.later.length≤D.later.length+1:=by
 unfold aA.write;split
 ·exact⟨rfl,by simp⟩
 ·split
  ·exact⟨rfl,by simp[aA.tick]⟩
  ·exact⟨rfl,by simp⟩
def ED{D:aA}(h:D.Ok)(i:Int)(s:BA)(hl:D.later.length+1<1099511627776):(D.write i s).1.Ok:=by
 have h2:=oI D i s;refine⟨by rw[h2.1];exact h.safe,?_,by rw[h2.1];exact h.mC,by omega⟩;rw[h2.1];unfold aA.write;split
 ·exact h.later
 ·rename_i hg;split
  ·exact h.later
  ·intro p hp;simp only[aee,List.mem_singleton] at hp;rcases hp with hp|hp
   ·exact h.later p hp
   ·subst hp;have G1:D.is i:=by
     by_cases hh:D.is i
     ·exact hh
     ·exact absurd (.inl hh) hg
    have LK: ¬128<s.size:=fun hh=>hg (.inr hh);exact⟨MR (by omega),G1.1,G1.2⟩
def Gh{mask torn c:Int}(hc:0≤c∧c≤128){safe:List BA}{k:Nat}{p:Int×BA}(hs:∀s∈safe,s.size=128)(hp:p.2.size=128∧0≤p.1∧p.1<safe.length):
 ∀s∈aA.pR mask torn c safe k p,s.size=128:=by
 intro s hm;have KK:p.1.toNat<safe.length:=by omega
 unfold aA.pR at hm;split at hm
 ·rcases aeq hm with hm|hm
  ·exact hs s hm
  ·rw[hm];have:=hs _ (adZ KK);rw[aeD,adA KK,aec,ByteArray.size_append,rB,rB,this,hp.1];omega
 ·split at hm
  ·rcases aeq hm with hm|hm
   ·exact hs s hm
   ·rw[hm];exact hp.1
  ·exact hs s hm
def tV{mask torn c:Int}(hc:0≤c∧c≤128){safe:List BA}{later:List (Int×BA)}(hs:∀s∈safe,s.size=128)(hp:∀p∈later,p.2.size=128∧0≤p.1∧p.1<safe.length):
 ∀j,∀s∈crashed mask torn c safe later j,s.size=128
 |0=>hs
 |j+1=>by
  simp only[crashed];cases hl:later[j]? with
  |none=>exact tV hc hs hp j
  |some p=>
   refine Gh hc (tV hc hs hp j) ?_;rw[ju];exact hp p (ad3 hl)
def NS(cut:Int):0≤min2 (max2 cut 0) 128∧min2 (max2 cut 0) 128≤128:=by unfold min2 max2;split<;>split<;>omega
def Bg{D:aA}(h:D.Ok)(mask torn cut:Int):(D.ie mask torn cut).Ok:=by
 rw[nu];refine⟨tV (NS cut) h.safe h.later _,fun p hp=>by simp at hp,by simp only[ju];exact h.mC,by simp⟩
def B9{later:List (Int×BA)}:∀{safe:List BA},(∀s∈safe,s.size=128)→(∀p∈later,p.2.size=128)→∀s∈later.foldl aA.put safe,s.size=128:=by
 induction later with
 |nil=>exact fun hs _=>hs
 |cons p l ih=>
  intro safe hs hp;rw[List.foldl_cons];refine ih (fun s hm=>?_) (fun q hq=>hp q (aeE _ hq));rcases aeq hm with hm|hm
  ·exact hs s hm
  ·rw[hm];exact hp p (List.mem_cons_self)
def Dt{D:aA}(h:D.Ok):D.sync.1.Ok:=by
 unfold aA.sync;split
 ·exact⟨h.safe,h.later,h.mC,h.less⟩
 ·refine⟨B9 h.safe fun p hp=>(h.later p hp).1,fun p hp=>by simp at hp,?_,by simp⟩;show(D.later.foldl aA.put D.safe).length≤4096;rw[lD];exact h.mC
def ui{D:aA}(h:D.later=[]){i:Nat}(hi:i<D.safe.length):D.read (i:Int)=(D.safe[i],0):=by
 unfold aA.read;rw[if_pos ⟨by omega,by omega⟩];simp[aA.now,aA.last,h,hi]
section
variable {W w:World} {L:LH}
end
end Go.Sep
namespace Go.Sep
open Go.Den Go.RowKit Go.ChangeShapes Go.WideShapes
inductive CK where
 |i(k:IntKind)
 |b
 |s
deriving DecidableEq
def CK.is:CK→Value→Prop
 | .i k,v=>∃n,v=.int k n∧(Lit.int k n).wf=true
 | .b,v=>∃x,v=.bool x
 | .s,v=>∃x,v=.string x∧x.size≤reachBytes
def Typed(ks:List CK)(cs:LV)(o:Nat):Prop:=∀j k,ks[j]?=some k→∃v,cs[o+j]?=some v∧k.is v
def oT(P:Program)(f:TypeId→Option (List CK)):Nat→List Field→Option (List CK)
 |_,[]=>some []
 |o,fd::r=>match f fd.type with
  |some a=>if fd.offset=o∧P.cellsOf fd.type=a.length then(oT P f (o+a.length) r).map (a++·) else none
  |none=>none
def flat(P:Program):Nat→TypeId→Option (List CK)
 |0,_=>none
 |n+1,t=>match P.underlying t with
  |some (.int k)=>some [.i k]
  |some .bool=>some [.b]
  |some .string=>some [.s]
  |some (.struct fs)=>oT P (flat P n) 0 fs.toList
  |_=>none
section
variable {H:Type} {enc:TypeId×Value→H} {P:Program} {w:World} {base:Nat} {spare:Nat→Bool} {held:Bool}
def wG{f:TypeId→Option (List CK)}{m:Nat}{cs:LV}
 (hf:∀t ks cs x,f t=some ks→DataW.trod enc P w base spare held m t cs=some x→(∀n∈x.1.weights P t,n≤reachBytes)→Typed ks cs 0):
 ∀(fs:List Field)(o:Nat)(ks:List CK)(xs:List (DataW H×List MemPlace)),oT P f o fs=some ks→
  (∀(i:Nat)(fd:Field),fs[i]?=some fd→DataW.trod enc P w base spare held m fd.type ((cs.drop fd.offset).take (P.cellsOf fd.type))=xs[i]?)→xs.length=fs.length→
  (∀n∈DataW.weightsEach P (fs.map (·.type)) (xs.map (·.1)),n≤reachBytes)→Typed ks cs o
 |[],o,ks,xs,h,_,_,_=>by
  simp only[oT,adU.injEq] at h;subst h;intro j k hj;simp at hj
 |fd::r,o,ks,[],h,hx,hl,hw=>by simp at hl
 |fd::r,o,ks,x::xs,h,hx,hl,hw=>by
  simp only[oT] at h;cases ha:f fd.type with
  |none=>simp[ha] at h
  |some a=>
   simp only[ha] at h;split at h
   ·rename_i hc;cases hb:oT P f (o+a.length) r with
    |none=>simp[hb] at h
    |some b=>
     simp only[hb,ael,adU.injEq] at h;subst h;simp only[aeb,DataW.weightsEach,aee] at hw;have h1:=hf fd.type a _ x ha (by have:=hx 0 fd rfl;simpa using this) (fun n hn=>hw n (.inl hn));have h2:=wG hf r (o+a.length) b xs hb (fun i g hg=>by have:=hx (i+1) g (by simpa using hg);simpa using this) (by simpa using hl) (fun n hn=>hw n (.inr hn));intro j k hj;by_cases Ub:j<a.length
     ·rw[adY Ub] at hj;obtain⟨v,hv,hk⟩:=h1 j k hj;refine⟨v,?_,hk⟩;rw[hc.1,hc.2,adE,List.getElem?_take_of_lt Ub,aeQ] at hv;exact hv
     ·rw[aea (by omega)] at hj;obtain⟨v,hv,hk⟩:=h2 (j-a.length) k hj;refine⟨v,?_,hk⟩;rw[show o+j=o+a.length+(j-a.length) from by omega];exact hv
   ·cases h
def Ba:∀(f:Nat)(m:Nat)(t:TypeId)(ks:List CK)(cs:LV)(x:DataW H×List MemPlace),flat P f t=some ks→DataW.trod enc P w base spare held m t cs=some x→
 (∀n∈x.1.weights P t,n≤reachBytes)→Typed ks cs 0
 |0,_,_,_,_,_,h,_,_=>by simp[flat] at h
 |f+1,m,t,ks,cs,x,h,hx,hw=>by
  unfold flat at h;split at h
  ·rename_i k ht;cases h
   obtain⟨n,rfl,rfl,Z5⟩:=DataW.trod_int ht hx;intro j k' hj;cases j with
   |zero=>simp at hj;subst hj;exact⟨_,rfl,n,rfl,Z5⟩
   |succ j=>simp at hj
  ·rename_i ht;cases h
   obtain⟨n,rfl,rfl⟩:=DataW.trod_bool ht hx;intro j k' hj;cases j with
   |zero=>simp at hj;subst hj;exact⟨_,rfl,n,rfl⟩
   |succ j=>simp at hj
  ·rename_i ht;cases h
   obtain⟨n,rfl,rfl,_⟩:=DataW.trod_string ht hx;intro j k' hj;cases j with
   |zero=>simp at hj;subst hj;exact⟨_,rfl,n,rfl,by have:=hw n.data.toList.length (by simp[DataW.weights]);simpa using this⟩
   |succ j=>simp at hj
  ·rename_i fs ht;obtain⟨xs,n,rfl,rfl,hl,hlen,hf⟩:=DataW.trod_struct ht hx;refine wG (m:=n) (fun t ks cs x h1 h2 h3=>Ba f n t ks cs x h1 h2 h3) fs.toList 0 ks xs h (fun i fd hi=>hf i fd (by simpa using hi)) (by simpa using hlen) (fun n hn=>hw n ?_);simp only[DataW.weights,ht];exact hn
  ·cases h
def OG(ks:List CK)(n:Nat)(xs:LV):Prop:=∀i,i<n→Typed ks xs (i* ks.length)
def tp{e:TypeId}:∀{ds:List (DataW H)} {d:DataW H},d∈ds→∀n∈d.weights P e,n∈DataW.weightsAll P e ds
 |[],d,h,_,_=>by simp at h
 |d0::ds,d,h,n,hn=>by
  simp only[DataW.weightsAll,aee];rcases aeS.1 h with h|h
  ·subst h;exact .inl hn
  ·exact .inr (tp h n hn)
def HW{α:Type}{ks:List CK}{n:Nat}{xs:LV}(f:α→LV)(q:α→Prop)(hf:∀a,(f a).length=ks.length)
 (dec:∀o,Typed ks xs o→∃a,q a∧∀j,j<ks.length→xs[o+j]?=(f a)[j]?)(he:OG ks n xs)(hl:xs.length=n* ks.length):∃l:List α,l.length=n∧xs=l.flatMap f∧∀a∈l,q a:=by
 have key:∀m,m≤n→∃l:List α,l.length=m∧xs.take (m* ks.length)=l.flatMap f∧∀a∈l,q a:=by
  intro m
  induction m with
  |zero=>exact fun _=>⟨[],rfl,by simp,by simp⟩
  |succ m ih=>
   intro hm;obtain⟨l,h1,h2,h3⟩:=ih (by omega);obtain⟨a,ha,hc⟩:=dec _ (he m (by omega));refine⟨l++[a],by simp[h1],?_,fun b hb=>?_⟩
   ·rw[aex,←h2,aeU,Nat.one_mul,List.take_add]
    congr 1
    simp only[aeo,List.flatMap_nil,adV];apply aeV;intro j;by_cases hj:j<ks.length
    ·rw[List.getElem?_take_of_lt hj,aeQ];exact hc j hj
    ·have h5:ks.length≤j:=by omega
     rw[aeB (by simp;omega),aeB (by rw[hf];exact h5)]
   ·rcases aee.1 hb with hb|hb
    ·exact h3 b hb
    ·simp at hb;subst hb;exact ha
 obtain⟨l,h1,h2,h3⟩:=key n (adG n);rw[adS (by omega)] at h2;exact⟨l,h1,h2,h3⟩
def Below.trodAll(hl:laidOutB P=true){W W':World}(hb:Below W.heap.size W W'):
 ∀{ts:List TypeId} {vs:LV} {ds:List (DataW H)} {ps:List MemPlace},ts.all (fun t=>P.readableRec t&&decide (t<P.types.size))=true→
 DataW.TrodAll enc P W 0 (fun _=>true) true ts vs ds ps→DataW.TrodAll enc P W' 0 (fun b=>decide (b<W.heap.size)) true ts vs ds ps
 |[],vs,ds,ps,_,h=>by
  cases vs<;>cases ds<;>simp[DataW.TrodAll] at h⊢
  exact h
 |t::ts,vs,ds,ps,hr,h=>by
  simp only[List.all_cons,aet,decide_eq_true_eq] at hr;have a8:=DataW.TrodAll.lt h;obtain⟨v,BK,d,ds',p,q,rfl,rfl,rfl,h1,h2⟩:=trodAll_cons h;exact⟨p,q,Go.RowKit.Below.trod hl hr.1.1 hr.1.2 h1 hb (fun x hx=>a8 x (by simp[hx])),Below.trodAll hl hb hr.2 h2,rfl⟩
end
end Go.Sep
namespace Go.Sep
open Go.Den Go.RowKit Go.Prog Go.bI
def fZ{z ys:LV}(h:ys.length=z.length):over z 0 ys=ys:=by
 unfold over;rw[ae0,aed,adE,aeh (by omega),adV]
section
variable {W w:World} {L:LH} {b:OA} {n e:Nat} {xs:LV}
end
section
variable {W w:World} {L:LH}
end
namespace Dk
variable {D:Go.bI.aA}
open Go.bI.aA (last put pad)
def ND(h:D.arm=0):D.qP=false:=by simp[Go.bI.aA.qP,h]
def RK(h:D.arm=0):D.tick.arm=0:=by simp[Go.bI.aA.tick,h]
def Dm(h:D.arm=0)(i:Int)(s:BA):D.write i s=if ¬D.is i∨128<s.size then(D,1) else({Go.bI.aA.tick D with later:=D.later++[(i,pad s)]},0):=by
 unfold Go.bI.aA.write;rw[ND h];rfl
def zO(h:D.arm=0)(i:Int)(s:BA):(D.write i s).1.arm=0:=by
 rw[Dm h];split
 ·exact h
 ·exact RK h
def II(h:D.arm=0):D.sync=({D.tick with safe:=D.later.foldl put D.safe,later:=[]},0):=by
 unfold Go.bI.aA.sync;rw[ND h];rfl
def pr(l:List (Int×BA))(p:Int×BA)(i:Int):last (l++[p]) i=if p.1=i then some p.2 else last l i:=by
 unfold last;rw[List.reverse_append];simp only[ae6,List.reverse_nil,aed,List.singleton_append,List.find?_cons];by_cases h:p.1=i
 ·simp[h]
 ·have:(p.1==i)=false:=by simp[h]
  rw[this,if_neg h]
def AK(h:D.arm=0)(n i:Int)(s:BA):(D.write n s).1.now i=if(D.is n∧s.size≤128)∧n=i then pad s else D.now i:=by
 rw[Dm h];by_cases hw: ¬D.is n∨128<s.size
 ·rw[if_pos hw,if_neg];rintro⟨⟨h1,h2⟩,_⟩;rcases hw with hw|hw
  ·exact hw h1
  ·omega
 ·rw[if_neg hw];have h1:D.is n:=by
   by_cases hh:D.is n
   ·exact hh
   ·exact absurd (.inl hh) hw
  have h2:s.size≤128:=by
   by_cases hh:s.size≤128
   ·exact hh
   ·exact absurd (.inr (by omega)) hw
  simp only[Go.bI.aA.now,Go.bI.aA.tick,pr];by_cases Y3:n=i
  ·rw[if_pos Y3,if_pos ⟨⟨h1,h2⟩,Y3⟩];rfl
  ·rw[if_neg Y3,if_neg (fun hh=>Y3 hh.2)]
def uq(l:List (Int×BA))(p:Int×BA)(i:Int):last (p::l) i=(last l i).or (if p.1=i then some p.2 else none):=by
 unfold last;rw[ae6,List.find?_append];by_cases h:p.1=i
 ·cases List.find? (fun p=>p.1==i) l.reverse<;>simp[h]
 ·have:(p.1==i)=false:=by simp[h]
  cases List.find? (fun p=>p.1==i) l.reverse<;>simp[h,this]
def uU{i:Int}(hi:0≤i):∀(l:List (Int×BA))(safe:List BA),i<safe.length→(∀p∈l,0≤p.1)→(l.foldl put safe).getD i.toNat .empty=(last l i).getD (safe.getD i.toNat .empty):=by
 intro l
 induction l with
 |nil=>intro safe _ _;rfl
 |cons p l ih=>
  intro safe hs hp;rw[List.foldl_cons,uq,ih _ (by simp[put];exact hs) (fun q hq=>hp q (aeE _ hq))];have hp0:=hp p (by simp);have hlen:i.toNat<safe.length:=by omega
  have e:(put safe p).getD i.toNat .empty=if p.1=i then p.2 else safe.getD i.toNat .empty:=by
   unfold put;by_cases GU:p.1=i
   ·rw[if_pos GU,GU,aeD,List.getElem?_set_self hlen];rfl
   ·rw[if_neg GU,aeD,List.getElem?_set_ne (by omega),←aeD]
  rw[e];cases last l i with
  |some x=>rfl
  |none=>by_cases GU:p.1=i<;>simp[GU]
def Kt(h:D.arm=0)(ik:D.Ok){i:Int}(hi:D.is i):D.sync.1.now i=D.now i:=by
 rw[II h];have:=uU hi.1 D.later D.safe hi.2 (fun p hp=>(ik.later p hp).2.1);simp only[Go.bI.aA.now,last,List.reverse_nil,List.find?_nil,Option.map_none,aes];exact this
def EY:D.sync.1.safe.length=D.safe.length∧D.sync.1.later.length≤D.later.length:=by
 unfold Go.bI.aA.sync;split
 ·exact⟨rfl,adG _⟩
 ·exact⟨lD _ _,adK _⟩
def JZ(h:D.arm=0):D.sync.1.arm=0:=by rw[II h];exact RK h
end Dk
end Go.Sep
namespace Go.Sep
open Go.Den Go.RowKit Go.Prog Go.bI
def bs(l:List UInt8):BA:=⟨l.toArray⟩
def bF(l:List UInt8):(bs l).size=l.length:=rfl
def JE(s:BA):bs s.data.toList=s:=rfl
def ry(x:UInt8):Value:=.int .u8 (x.toNat:Int)
def byteOf(k:IntKind)(n:Int)(i:Nat):UInt8:=UInt8.ofNat (IntKind.u8.wrap (shr k n (8* (i:Int)))).toNat
def le(k:IntKind)(w:Nat)(n:Int):List UInt8:=(ae7 w).map (byteOf k n)
def aB(k:IntKind)(w:Nat)(n:Int):(le k w n).length=w:=by simp[le]
def u0(n:Int):0≤IntKind.u8.wrap n∧IntKind.u8.wrap n<256:=by
 simp[IntKind.wrap,IntKind.bits,IntKind.signed];omega
def ue{n:Int}(h:0≤n∧n<256):ry (UInt8.ofNat n.toNat)=.int .u8 n:=by
 unfold ry
 congr 1
 have:n.toNat<256:=by omega
 rw[UInt8.toNat_ofNat_of_lt' (by exact this)];omega
def yJ(l:List UInt8):bytesOf (l.map ry)=l:=by
 unfold bytesOf;rw[afb]
 conv=>rhs;rw[←List.map_id l]
 refine aeR fun x _=>?_;simp[ry]
def strCells_eq(s:BA):strCells s=s.data.toList.map ry:=rfl
def buf(p:Nat)(l:List UInt8):HP:=Sq fun(v:OA×Nat)=>sep (pt p [.l v.1 l.length v.2]) (own v.1 l.length v.2 1 (l.map ry))
section
variable {W w:World} {L:LH} {k p:Nat} {l:List UInt8}
def Br(h:St W w L)(hk:L[k]?=some (buf p l)):∃b c,St W w (pt p [.l b l.length c]::own b l.length c 1 (l.map ry)::L.eraseIdx k):=by
 obtain⟨⟨b,c⟩,h1⟩:=(h.focus hk).ex;exact⟨b,c,h1.split⟩
def qa{b:OA}{c n:Nat}{A:HP}(hk:L[k]?=some A)(hn:n=l.length)(h:St W w (pt p [.l b n c]::own b n c 1 (l.map ry)::L.eraseIdx k)):St W w (L.set k (buf p l)):=by
 subst hn;refine St.og (A:=A) ?_ hk;exact St.ow (b,c) (St.join h)
def Rf{b:OA}{n c:Nat}{K:BA→WK}(h:St W w L)(hk:L[k]?=some (own b n c 1 (l.map ry)))(hK:K (bs l) w):Rg b n K w:=by
 have hl:=(h.mz hk).1;rw[ad1,ae8] at hl;have vh:=JP h hk;refine⟨fun hb=>?_,fun a ha=>⟨l.map ry,by rw[ad1];exact hl,vh.1.2 a ha,fun v hv=>?_,?_⟩⟩
 ·have:n=0:=vh.2 hb;have LG:l=[]:=List.length_eq_zero_iff.1 (by omega);subst LG;exact hK
 ·obtain⟨x,_,rfl⟩:=aek.1 hv;exact⟨_,rfl⟩
 ·rw[yJ];exact hK
def N8{r n:Nat}{K:BA→WK}(h:St W w L)(hk:L[k]?=some (pt r (l.map ry)))(hn:n=l.length)(hK:K (bs l) w):Rg (some ⟨r,0,none⟩) n K w:=by
 refine⟨fun hb=>(by cases hb),fun a ha=>⟨l.map ry,by rw[ad1,hn],?_,fun v hv=>?_,?_⟩⟩
 ·cases ha
  exact rX h hk fun j v hj=>by rw[adE];exact hj
 ·obtain⟨x,_,rfl⟩:=aek.1 hv;exact⟨_,rfl⟩
 ·rw[yJ];exact hK
def iT{m n:Int}{K:VK}(h:St W w L)(hk:L[k]?=some (buf p l))(hl:l.length<1099511627776)
 (hK:∀w',St W w' (L.set k (buf p (l++le .i64 (min2 (max2 m 1) 8).toNat n)))→K (.tuple ⟨[]⟩) w'):aD (some ⟨p,0,none⟩) m n K w:=by
 have hm:1≤min2 (max2 m 1) 8∧min2 (max2 m 1) 8≤8:=by unfold min2 max2;split<;>split<;>omega
 unfold aD;generalize min2 (max2 m 1) 8=q at *;obtain⟨b,c,hs⟩:=Br h hk;refine⟨fun us w'=>∃(j:Nat)(b:OA)(c:Nat),us=[.i q,.i j]∧(j:Int)≤q∧St W w' (pt p [.l b (l++le .i64 j n).length c]::own b (l++le .i64 j n).length c 1 ((l++le .i64 j n).map ry)::L.eraseIdx k),
  fun us _=>match us with|[_,.int _ j]=>(q-j).toNat|_=>0,⟨0,b,c,rfl,by omega,?_⟩,?_⟩
 ·have e:l++le .i64 0 n=l:=by simp[le]
  rw[e];exact hs
 rintro n3 n4 w2 ⟨j,b,c,he,hj,hs⟩;cases he
 refine dJ (fun h0=>?_) (fun h0=>?_)
 ·refine kA hs fun w hs=>?_;simp only[nz,ady,adz];refine bR (k:=0) hs rfl rfl ?_;simp only[nz,ady,adz];have e8:adx.wrap (8* (j:Int))=8* (j:Int):=ah (by omega);rw[e8];refine⟨by omega,?_⟩;have hb8:Value.int .u8 (IntKind.u8.wrap (shr .i64 n (8* (j:Int))))=ry (byteOf .i64 n j):=by
   unfold byteOf;rw[ue (u0 _)]
  rw[hb8];refine ic hs fun r w hs=>?_;refine iV (k:=1) hs rfl rfl ?_;have hlen:(l++le .i64 j n).length=l.length+j:=by rw[adD,aB]
  refine qb (k:=2) (ys:=[ry (byteOf .i64 n j)]) hs rfl (BB (k':=0) hs rfl rfl fun j v hj=>by rw[adE];exact hj) (by simp) rfl (by omega) (by omega) (by simp[Value.oneCell',ry]) fun b' c' w hs=>?_;simp only[nz,ady,adz] at hs⊢;refine mL (k:=1) hs rfl (adH rfl) rfl fun w hs=>?_;simp only[nz,ady,adz] at hs;have e5:adx.wrap ((j:Int)+1)=((j+1:Nat):Int):=by rw[ah (by omega)];omega
  rw[e5];refine⟨⟨j+1,b',c',rfl,by omega,?_⟩,by omega⟩;have e6:l++le .i64 (j+1) n=(l++le .i64 j n)++[byteOf .i64 n j]:=by
   unfold le;rw[List.range_succ,ad8,adI];rfl
  rw[e6,adD,ad8];exact hs.drop
 ·have FX:(j:Int)=q:=by omega
  refine hK _ ?_;have:q.toNat=j:=by omega
  rw[this];exact qa hk rfl hs
def nB{s:BA}{K:VK}(h:St W w L)(hk:L[k]?=some (buf p l))(hl:l.length+s.size<1099511627776)
 (hK:∀w',St W w' (L.set k (buf p (l++s.data.toList)))→K (.tuple ⟨[]⟩) w'):gr (some ⟨p,0,none⟩) s K w:=by
 unfold gr;obtain⟨b,c,hs⟩:=Br h hk;simp only[nz,ady,adz];refine bR (k:=0) hs rfl rfl ?_;simp only[nz,ady,adz];refine Bw (k:=1) hs rfl (by omega) fun b' c' w hs=>?_;simp only[nz,ady,adz] at hs⊢;refine mL (k:=0) hs rfl (adH rfl) rfl fun w hs=>?_;simp only[nz,ady,adz] at hs;refine hK w (qa (b:=b') (c:=c') (n:=l.length+s.size) hk (by rw[adD];rfl) ?_);rw[ad8,←strCells_eq];exact hs
def ki{K:VK}(h:St W w L)(hk:L[k]?=some (buf p l))(hK:K (.string (bs l)) w):bM (some ⟨p,0,none⟩) K w:=by
 unfold bM;obtain⟨b,c,hs⟩:=Br h hk;simp only[nz,ady,adz];refine bR (k:=0) hs rfl rfl ?_;simp only[nz,ady,adz];exact Rf (k:=1) hs rfl hK
def NU(n:Int):Nat→Int
 |0=>n
 |j+1=>bG .u32 .xor (shr .u32 (NU n j) 1) (bG .u32 .and 2197175160 (IntKind.u32.wrap (0-(bG .u32 .and (NU n j) 1))))
def Q1(n:Int)(c:UInt8):Int:=NU (bG .u32 .xor n (IntKind.u32.wrap (c.toNat:Int))) 8
def NT(n:Int)(l:List UInt8):Int:=l.foldl Q1 n
def po(n:Int)(l:List UInt8):Int:=bG .u32 .xor 4294967295 (NT (bG .u32 .xor 4294967295 n) l)
def WH(w w':World):Prop:=w'=w
def GH{n:Int}{s:BA}{K:VK}(hs:s.size<1099511627776)(hK:K (.int .u32 (po n s.data.toList)) w):mU n s K w:=by
 unfold mU;refine⟨fun us w'=>∃j:Nat,us=[.int .u32 0,.int .u32 (NT (bG .u32 .xor 4294967295 n) (s.data.toList.take j)),.i s.size,.i j]∧j≤s.size∧WH w w',
  fun us _=>match us with|[_,_,_,.int _ j]=>s.size-j.toNat|_=>0,⟨0,rfl,adK _,rfl⟩,?_⟩
 rintro n2 n3 n4 n5 w2 ⟨j,he,hj,hw⟩;obtain rfl:w2=w:=hw;cases he
 have hlen:s.data.toList.length=s.size:=rfl;generalize hb:decide ((j:Int)<(s.size:Int))=b;cases b
 ·have iM:=of_decide_eq_false hb;rw[cA];have:j=s.size:=by omega
  subst this;rw[adS (by omega)];exact hK
 ·have a8:=of_decide_eq_true hb;rw[jk];have Nl:j<s.data.toList.length:=by omega
  refine⟨s.data.toList[j],⟨by omega,by simp[Nl]⟩,?_⟩;generalize hc:s.data.toList[j]=c;generalize hx:NT (bG .u32 .xor 4294967295 n) (s.data.toList.take j)=x;refine⟨fun us w'=>∃i:Nat,us=[.int .u32 0,.int .u32 (NU (bG .u32 .xor x (IntKind.u32.wrap (c.toNat:Int))) i),.i j,.i s.size,.i j,.bool true,.i j,.int .u32 x,.string s,.i j,.int .u8 (c.toNat:Int),.int .u32 (IntKind.u32.wrap (c.toNat:Int)),.int .u32 (bG .u32 .xor x (IntKind.u32.wrap (c.toNat:Int))),.i i]∧i≤8∧WH w2 w',
   fun us _=>match us with|[_,_,_,_,_,_,_,_,_,_,_,_,_,.int _ i]=>8-i.toNat|_=>0,⟨0,rfl,adK _,rfl⟩,?_⟩
  rintro n6 n7 n8 n9 ZO b1 Vu Vt s2 Vs n14 n15 uP n17 w4 ⟨i,he,hi,hw⟩;obtain rfl:w4=w2:=hw;cases he
  generalize tQ:decide ((i:Int)<8)=b2;cases b2
  ·have iM:=of_decide_eq_false tQ;rw[cA];have hi8:i=8:=by omega
   subst hi8;have e5:adx.wrap ((j:Int)+1)=((j+1:Nat):Int):=by rw[ah (by omega)];omega
   rw[e5];refine⟨⟨j+1,?_,by omega,rfl⟩,by dsimp only;omega⟩;have e6:NT (bG .u32 .xor 4294967295 n) (s.data.toList.take (j+1))=NU (bG .u32 .xor x (IntKind.u32.wrap (c.toNat:Int))) 8:=by
    rw[aeu Nl];unfold NT at hx⊢;rw[List.foldl_append,hx,hc];rfl
   rw[e6]
  ·have rM:=of_decide_eq_true tQ;rw[jk];refine⟨by decide,?_⟩;have e5:adx.wrap ((i:Int)+1)=((i+1:Nat):Int):=by rw[ah (by omega)];omega
   rw[e5];exact⟨⟨i+1,rfl,by omega,rfl⟩,by dsimp only;omega⟩
def ri(n:Int):List UInt8:=le .u32 4 n
def tX{n:Int}{K:VK}(h:St W w L)(hn:0≤n∧n<4294967296)(hK:∀w',St W w' L→K (.string (bs (ri n))) w'):kM n K w:=by
 unfold kM;refine⟨by decide,by decide,by decide,⟨rfl,rfl,rfl,rfl,trivial⟩,ic h fun r w hs=>?_⟩;have e0:Value.int .u8 (IntKind.u8.wrap n)=ry (byteOf .u32 n 0):=by
  unfold byteOf;rw[ue (u0 _)];have:shr .u32 n (8* ((0:Nat):Int))=n:=by simp[shr]
  rw[this]
 have e:∀i:Nat,Value.int .u8 (IntKind.u8.wrap (shr .u32 n (8* (i:Int))))=ry (byteOf .u32 n i):=fun i=>by
  unfold byteOf;rw[ue (u0 _)]
 have e1:=e 1;have e2:=e 2;have e3:=e 3;have yy:[Value.int .u8 (IntKind.u8.wrap n),.int .u8 (IntKind.u8.wrap (shr .u32 n 8)),.int .u8 (IntKind.u8.wrap (shr .u32 n 16)),.int .u8 (IntKind.u8.wrap (shr .u32 n 24))]=(ri n).map ry:=by
  rw[e0,show(8:Int)=8* ((1:Nat):Int) from rfl,show(16:Int)=8* ((2:Nat):Int) from rfl,show(24:Int)=8* ((3:Nat):Int) from rfl,e1,e2,e3]
  rfl
 rw[yy] at hs;exact N8 (k:=0) hs rfl rfl (hK w hs.drop)
end
def Good(n i:Int)(s:BA):Prop:=1≤n∧n≤1152921504606846976∧0≤i∧i<4096∧s.size≤104
instance(n i:Int)(s:BA):Decidable (Good n i s):=by unfold Good;infer_instance
def pre(n i:Int)(s:BA):List UInt8:=le .i64 8 n++le .i64 2 i++le .i64 2 s.size++s.data.toList++adQ (104-s.size) 0
def jR(n i:Int)(s:BA):List UInt8:=pre n i s++ri (po 0 (pre n i s))++le .i64 8 n
def leaf(n i:Int)(s:BA):BA:=if Good n i s then bs (jR n i s) else .empty
def nI{n i:Int}{s:BA}(h:s.size≤104):(pre n i s).length=116:=by
 have:s.data.toList.length=s.size:=rfl;simp only[pre,adD,aB,aeH];omega
def sx{n i:Int}{s:BA}(h:s.size≤104):(jR n i s).length=128:=by
 simp only[jR,adD,aB,nI h,ri]
def pY{n i:Int}{s:BA}(h:Good n i s):(leaf n i s).size=128:=by
 unfold leaf;rw[if_pos h,bF,sx h.2.2.2.2]
def ya(n:Int):0≤IntKind.u32.wrap n∧IntKind.u32.wrap n<4294967296:=by
 simp[IntKind.wrap,IntKind.bits,IntKind.signed];omega
section
variable {W w:World} {L:LH} {k d:Nat} {D:aA}
def C3{n i:Int}{s:BA}{K:VK}(h:St W w L)(hK:∀w',St W w' L→K (.bool (decide (Good n i s))) w'):mK [.i n,.i i,.string s] K w:=by
 unfold mK;refine ic h fun r w hs=>?_;have hh:=hK w hs.drop;simp only[nz,ady,adz];refine bR (k:=0) hs rfl rfl ?_;simp only[nz,ady,adz];refine dJ (fun h1=>?_) (fun h1=>?_)
 ·refine bR (k:=0) hs rfl rfl ?_;simp only[nz,ady,adz];refine dJ (fun h2=>?_) (fun h2=>?_)
  ·refine bR (k:=0) hs rfl rfl ?_;simp only[nz,ady,adz];refine dJ (fun h3=>?_) (fun h3=>?_)
   ·refine bR (k:=0) hs rfl rfl ?_;simp only[nz,ady,adz];refine dJ (fun h4=>?_) (fun h4=>?_)
    ·refine bR (k:=0) hs rfl rfl ?_;simp only[nz,ady,adz];have:decide ((s.size:Int)≤104)=decide (Good n i s):=by
      rw[decide_eq_decide];unfold Good;omega
     rw[this];exact hh
    ·have:decide (Good n i s)=false:=decide_eq_false (by unfold Good;omega);rw[this] at hh;exact hh
   ·have:decide (Good n i s)=false:=decide_eq_false (by unfold Good;omega);rw[this] at hh;exact hh
  ·have:decide (Good n i s)=false:=decide_eq_false (by unfold Good;omega);rw[this] at hh;exact hh
 ·have:decide (Good n i s)=false:=decide_eq_false (by unfold Good;omega);rw[this] at hh;exact hh
def Iv{n i:Int}{s:BA}{K:VK}(h:St W w L)(hK:∀w',St W w' L→K (.tuple ⟨[.string (leaf n i s),.i (if Good n i s then 0 else 1)]⟩) w'):
 kC [.i n,.i i,.string s] K w:=by
 unfold kC;refine ic h fun r w hs=>?_;refine iG (k:=0) (xs:=[.i n,.i i,.string s]) hs rfl rfl (fun j v hj=>by rw[adE];exact hj) ?_;refine C3 hs fun w hs=>?_;simp only[nz,ady,adz];by_cases hg:Good n i s
 ·have oE:=hg.2.2.2.2;have e0:decide (Good n i s)=true:=decide_eq_true hg;unfold leaf at hK;rw[if_pos hg,if_pos hg] at hK;rw[e0];simp only[nz,ady,adz];refine ic hs fun p w hs=>?_;have hs:St W w (buf p []::pt r [.i n,.i i,.string s]::L):=by
   have h2:=(hs.push (A:=own none 0 0 1 (([]:List UInt8).map ry)) (o5 1)).perm (ad2.swap _ _ _);exact qa (k:=0) (L:=buf p []::pt r [.i n,.i i,.string s]::L) (A:=buf p []) rfl rfl h2
  have hd:s.data.toList.length=s.size:=rfl;refine bR (k:=1) hs rfl rfl ?_;simp only[nz,ady,adz];refine iT (k:=0) hs rfl (by simp) fun w hs=>?_;rw[show(min2 (max2 8 1) 8).toNat=8 from rfl] at hs;simp only[nz,ady,adz] at hs⊢;refine bR (k:=1) hs rfl rfl ?_;simp only[nz,ady,adz];refine iT (k:=0) hs rfl (by simp only[adD,aB,ad6];omega) fun w hs=>?_;rw[show(min2 (max2 2 1) 8).toNat=2 from rfl] at hs;simp only[nz,ady,adz] at hs⊢;refine bR (k:=1) hs rfl rfl ?_;simp only[nz,ady,adz];refine iT (k:=0) hs rfl (by simp only[adD,aB,ad6];omega) fun w hs=>?_;rw[show(min2 (max2 2 1) 8).toNat=2 from rfl] at hs;simp only[nz,ady,adz] at hs⊢;refine bR (k:=1) hs rfl rfl ?_;simp only[nz,ady,adz];refine nB (k:=0) hs rfl (by simp only[adD,aB,ad6];omega) fun w hs=>?_;simp only[nz,ady,adz] at hs⊢;refine bR (k:=1) hs rfl rfl ?_;simp only[nz,ady,adz];have ew:adx.wrap (104-(s.size:Int))=((104-s.size:Nat):Int):=by rw[ah (by omega)];omega
  rw[ew];refine yM hs (by omega) (by rw[adB];have:(⟨#[0]⟩:BA).size=1:=rfl;rw[this];omega) (by omega) fun w hs=>?_;have er:(⟨(Am (⟨#[0]⟩:BA).data.toList (((104-s.size:Nat):Int).toNat)).toArray⟩:BA)=bs (adQ (104-s.size) 0):=by
   rw[adB];show bs (Am [0] (104-s.size))=_;rw[Al]
  rw[er];simp only[nz,ady,adz];refine nB (k:=0) hs rfl (by rw[bF];simp only[adD,aB,ad6,aeH];omega) fun w hs=>?_;simp only[nz,ady,adz] at hs⊢;have ep:[]++le .i64 8 n++le .i64 2 i++le .i64 2 s.size++s.data.toList++(bs (adQ (104-s.size) 0)).data.toList=pre n i s:=rfl;rw[ep] at hs;refine ki (k:=0) hs rfl ?_;simp only[nz,ady,adz];refine GH (by rw[bF,nI oE];omega) ?_;simp only[nz,ady,adz];refine tX hs (ya _) fun w hs=>?_;simp only[nz,ady,adz];refine nB (k:=0) hs rfl (by rw[bF,nI oE];simp only[ri,aB];omega) fun w hs=>?_;simp only[nz,ady,adz] at hs⊢;refine bR (k:=1) hs rfl rfl ?_;simp only[nz,ady,adz];have ep2:pre n i s++(bs (ri (po 0 (bs (pre n i s)).data.toList))).data.toList=pre n i s++ri (po 0 (pre n i s)):=rfl;rw[ep2] at hs;refine iT (k:=0) hs rfl (by simp only[adD,ri,aB,nI oE];omega) fun w hs=>?_;rw[show(min2 (max2 8 1) 8).toNat=8 from rfl] at hs;simp only[nz,ady,adz] at hs⊢;refine ki (k:=0) hs rfl ?_;simp only[nz,ady,adz];exact hK w hs.drop.drop
 ·have e0:decide (Good n i s)=false:=decide_eq_false hg;unfold leaf at hK;rw[if_neg hg,if_neg hg] at hK;rw[e0];simp only[nz,ady,adz];exact hK w hs.drop
def dX(n:Nat):Nat:=if n=0 then 1 else(n+103)/104
def ox(n:Nat):1≤dX n:=by unfold dX;split<;>omega
def H6{n j:Nat}(hj:1≤j):104* j<n↔j<dX n:=by unfold dX;split<;>omega
def nP{n:Nat}{K:VK}(hn:n<1099511627776000)(hK:K (.i (dX n)) w):iu n K w:=by
 unfold iu;refine⟨by decide,by decide,?_⟩;have e0:max2 (n:Int) 0=n:=by unfold max2;split<;>omega
 have e1:(n:Int).tdiv 104=((n/104:Nat):Int):=by rw[Int.tdiv_eq_ediv_of_nonneg (by omega)];rfl
 have e2:(n:Int).tmod 104=((n%104:Nat):Int):=by rw[aei (by omega)];rfl
 rw[e0,e1,e2];have e3:max2 (adx.wrap (adx.wrap ((n/104:Nat):Int)+min2 ((n%104:Nat):Int) 1)) 1=(dX n:Int):=by
  have h1:adx.wrap ((n/104:Nat):Int)=((n/104:Nat):Int):=ah (by omega);rw[h1];have h2:min2 ((n%104:Nat):Int) 1=((min (n%104) 1:Nat):Int):=by unfold min2;split<;>omega
  rw[h2,ah (by omega)];unfold max2 dX;split<;>split<;>omega
 rw[e3];exact hK
end
def je{x y:BA}(h:x.data.toList=y.data.toList):x=y:=ByteArray.ext (afc h)
def extract_toList(s:BA)(a b:Nat):(s.extract a b).data.toList=(s.data.toList.drop a).take (b-a):=by
 rw[ByteArray.data_extract,Array.toList_extract,List.extract_eq_take_drop]
def cN(s:BA):s.data.toList.length=s.size:=rfl
def part(s:BA)(i:Nat):BA:=s.extract (104* i) (104* (i+1))
def ko(s:BA)(i:Nat):(part s i).size≤104:=by unfold part;rw[rB];omega
def Ka(s:BA)(i m:Nat)(hm:m=min (s.size-104* i) 104):(s.extract (104* i) s.size).extract 0 m=part s i:=by
 apply je;unfold part;rw[extract_toList,extract_toList,extract_toList,aeJ,ae9,List.take_eq_take_iff,adM,cN];omega
def J'(s:BA)(i m:Nat)(hm:m=min (s.size-104* i) 104):(s.extract (104* i) s.size).extract m (s.extract (104* i) s.size).size=s.extract (104* (i+1)) s.size:=by
 apply je;rw[extract_toList,extract_toList,extract_toList,rB];rw[adS (by rw[adM,adF,adM,cN];omega),adS (by rw[adM,cN];omega),adS (by rw[adM,cN];omega),aeK];by_cases h:104≤s.size-104* i
 ·congr 1;omega
 ·rw[aeh (by rw[cN];omega),aeh (by rw[cN];omega)]
def mm(at' number:Int)(s:BA):aA→Nat→Nat→aA×Int
 |D,_,0=>(D,0)
 |D,i,n+1=>if(D.write (at'+i) (leaf number i (part s i))).2≠0 then D.write (at'+i) (leaf number i (part s i)) else mm at' number s (D.write (at'+i) (leaf number i (part s i))).1 (i+1) n
def lay(D:aA)(at' to number:Int)(s:BA):aA×Int:=
 if number<1∨1152921504606846976<number∨at'<0∨(D.safe.length:Int)<to∨to<at' then(D,1)
 else if to-at'<(dX s.size:Int) then(D,3) else mm at' number s D 0 (dX s.size)
def wv{at' number:Int}{s:BA}:∀(n i:Nat) {D:aA},D.Ok→D.later.length+n<1099511627776→(mm at' number s D i n).1.Ok∧(mm at' number s D i n).1.safe=D.safe∧(mm at' number s D i n).1.later.length≤D.later.length+n
 |0,i,D,h,hl=>⟨h,rfl,adG _⟩
 |n+1,i,D,h,hl=>by
  have h1:=oI D (at'+i) (leaf number i (part s i));have h2:=ED h (at'+i) (leaf number i (part s i)) (by omega);unfold mm;split
  ·exact⟨h2,h1.1,by omega⟩
  ·have:=wv (at':=at') (number:=number) (s:=s) n (i+1) h2 (by omega);exact⟨this.1,this.2.1.trans h1.1,by omega⟩
def DP{D:aA}{at' to number:Int}{s:BA}(h:D.Ok)(hl:D.later.length+dX s.size<1099511627776):(lay D at' to number s).1.Ok∧(lay D at' to number s).1.safe=D.safe:=by
 unfold lay;split
 ·exact⟨h,rfl⟩
 ·split
  ·exact⟨h,rfl⟩
  ·have:=wv (at':=at') (number:=number) (s:=s) (dX s.size) 0 h hl;exact⟨this.1,this.2.1⟩
section
variable {W w:World} {L:LH} {k d:Nat} {D:aA}
def pD{at' to number:Int}{s:BA}{b:Bool}{K:VK}(h:St W w L)(hk:L[k]?=some (fA d D))(ik:D.Ok)(hl:D.later.length+4097<1099511627776)(hs:s.size≤reachBytes)
 (hb:b=decide (number<1∨1152921504606846976<number∨at'<0∨(D.safe.length:Int)<to∨to<at'))
 (hK:∀w',St W w' (L.set k (fA d (lay D at' to number s).1))→K (.i (lay D at' to number s).2) w'):ir.j1 K s to at' number (some ⟨d,0,none⟩) b w:=by
 have oE:s.size≤140737488351232:=hs;have rN:=ik.mC;unfold ir.j1;unfold lay at hK;refine pO (fun h1=>?_) (fun h1=>?_)
 ·rw[hb] at h1;rw[if_pos (of_decide_eq_true h1)] at hK;refine hK w ?_;rw[kE hk];exact h
 rw[hb] at h1;have uK:=of_decide_eq_false h1;rw[if_neg uK] at hK;refine nP (by omega) ?_;simp only[nz,ady,adz];have ew:adx.wrap (to-at')=to-at':=ah (by omega);rw[ew];refine dJ (fun h2=>?_) (fun h2=>?_)
 ·rw[if_pos (by omega)] at hK;refine hK w ?_;rw[kE hk];exact h
 rw[if_neg (by omega)] at hK;have HJ:dX s.size≤4096:=by omega
 refine⟨fun us w'=>∃(j:Nat)(Dj:aA),us=[.string (s.extract (104* j) s.size),.i 0,.i j]∧j≤dX s.size∧Dj.Ok∧Dj.later.length≤D.later.length+j∧mm at' number s D 0 (dX s.size)=mm at' number s Dj j (dX s.size-j)∧St W w' (L.set k (fA d Dj)),
  fun us _=>match us with|[_,_,.int _ j]=>dX s.size-j.toNat|_=>0,⟨0,D,?_,adK _,ik,by omega,rfl,by rw[kE hk];exact h⟩,?_⟩
 ·have:s.extract (104* 0) s.size=s:=by rw[Nat.mul_zero];exact ByteArray.extract_zero_size
  rw[this];rfl
 rintro s2 n5 n6 w2 ⟨j,Dj,he,hj,ik,hlj,T9,hs⟩;cases he
 have rj:(L.set k (fA d Dj))[k]?=some (fA d Dj):=iF hk;have uJ:min2 ((s.extract (104* j) s.size).size:Int) 104=((min (s.size-104* j) 104:Nat):Int):=by
  rw[rB];unfold min2;split<;>omega
 have e5:adx.wrap ((j:Int)+1)=((j+1:Nat):Int):=by rw[ah (by omega)];omega
 have ea:adx.wrap (at'+(j:Int))=at'+j:=ah (by omega);rw[uJ,e5,ea,rB];have hex:∀X:WK,X w2→bl (0≤((min (s.size-104* j) 104:Nat):Int)∧((min (s.size-104* j) 104:Nat):Int)≤((min s.size s.size-104* j:Nat):Int)) X w2:=fun X hX=>⟨by omega,hX⟩;have step:j<dX s.size→∀w,St W w (L.set k (fA d (Dj.write (at'+j) (leaf number j (part s j))).1))→(Dj.write (at'+j) (leaf number j (part s j))).2≠0→K (.i (Dj.write (at'+j) (leaf number j (part s j))).2) w:=fun LJ w hs ji=>by
  have e:mm at' number s Dj j (dX s.size-j)=Dj.write (at'+j) (leaf number j (part s j)):=by
   obtain⟨q,hq⟩:∃q,dX s.size-j=q+1:=⟨dX s.size-j-1,by omega⟩;rw[hq,mm,if_pos ji]
  rw[T9,e] at hK;exact hK w hs
 have fin:j<dX s.size→∀w,St W w (L.set k (fA d (Dj.write (at'+j) (leaf number j (part s j))).1))→(Dj.write (at'+j) (leaf number j (part s j))).2=0→
  ∃(j':Nat)(Rv:aA),[Value.string (s.extract (104* (j+1)) s.size),.i 0,.i ((j+1:Nat):Int)]=[.string (s.extract (104* j') s.size),.i 0,.i j']∧j'≤dX s.size∧Rv.Ok∧Rv.later.length≤D.later.length+j'∧mm at' number s D 0 (dX s.size)=mm at' number s Rv j' (dX s.size-j')∧St W w (L.set k (fA d Rv)):=fun LJ w hs hz=>by
  have hw:=oI Dj (at'+j) (leaf number j (part s j));refine⟨j+1,_,rfl,by omega,ED ik _ _ (by omega),by omega,?_,hs⟩;rw[T9];obtain⟨q,hq⟩:∃q,dX s.size-j=q+1:=⟨dX s.size-j-1,by omega⟩;have Qr:dX s.size-(j+1)=q:=by omega
  rw[hq,Qr,mm,if_neg (by rw[hz];exact fun hh=>hh rfl)]
 have FM:=ox s.size;have body:j<dX s.size→kD (s.extract (104* j) s.size) none (some ((min (s.size-104* j) 104:Nat):Int)) (fun s3=>
  bl True (
  kC [.i number,.i j,.string s3] (x2 fun v1 v2=>(xS fun s4=>
  (xI .i64 fun n7=>
  bW (some ⟨d,0,none⟩) (at'+j) s4 (xI .i64 fun n8=>
  br (n8 !=0) (
  K (.i n8)) (
  kD (s.extract (104* j) s.size) (some ((min (s.size-104* j) 104:Nat):Int)) none (fun s5=>fun w3=>
   (∃(j':Nat)(Rv:aA),[Value.string s5,.i 0,.i ((j+1:Nat):Int)]=[.string (s.extract (104* j') s.size),.i 0,.i j']∧j'≤dX s.size∧Rv.Ok∧Rv.later.length≤D.later.length+j'∧mm at' number s D 0 (dX s.size)=mm at' number s Rv j' (dX s.size-j')∧St W w3 (L.set k (fA d Rv)))∧
   dX s.size-((j+1:Nat):Int).toNat<dX s.size-((j:Nat):Int).toNat)))) v2) v1))) w2:=fun LJ=>by
  unfold kD;dsimp only;refine⟨⟨by omega,by rw[rB];omega⟩,trivial,?_⟩;rw[adB,Ka s j _ rfl];refine Iv hs fun w hs=>?_;simp only[nz,ady,adz];refine za hs rj ik fun w hs=>?_;rw[aeO] at hs;simp only[nz,ady,adz];refine qt (fun ji=>?_) (fun hz=>?_)
  ·exact step LJ w hs ji
  ·refine⟨⟨by omega,by rw[rB];omega⟩,?_⟩;rw[J' s j _ rfl];exact⟨fin LJ w hs hz,by omega⟩
 refine Gs (fun Xg=>body (by omega)) (fun Xg=>?_);refine dJ (fun Ju=>?_) (fun hle=>?_)
 ·have hc:=H6 (n:=s.size) (j:=j) (by omega);exact body (by omega)
 ·have hc:=H6 (n:=s.size) (j:=j) (by omega);have LJ:j=dX s.size:=by omega
  have e:mm at' number s Dj j (dX s.size-j)=(Dj,0):=by rw[LJ,aeY];rfl
  rw[T9,e] at hK;exact hK _ hs
def BE{at' to number:Int}{s:BA}{K:VK}(h:St W w L)(hk:L[k]?=some (fA d D))(ik:D.Ok)(hl:D.later.length+4097<1099511627776)(hs:s.size≤reachBytes)
 (hK:∀w',St W w' (L.set k (fA d (lay D at' to number s).1))→K (.i (lay D at' to number s).2) w'):ir (some ⟨d,0,none⟩) at' to number s K w:=by
 unfold ir;refine dJ (fun h1=>?_) (fun h1=>?_)
 ·exact pD h hk ik hl hs (by symm;rw[decide_eq_true_eq];exact .inl h1) hK
 refine dJ (fun h2=>?_) (fun h2=>?_)
 ·exact pD h hk ik hl hs (by symm;rw[decide_eq_true_eq];exact .inr (.inl h2)) hK
 refine dJ (fun h3=>?_) (fun h3=>?_)
 ·exact pD h hk ik hl hs (by symm;rw[decide_eq_true_eq];exact .inr (.inr (.inl h3))) hK
 refine kP h hk ?_;simp only[nz,ady,adz];refine dJ (fun h4=>?_) (fun h4=>?_)
 ·exact pD h hk ik hl hs (by symm;rw[decide_eq_true_eq];exact .inr (.inr (.inr (.inl h4)))) hK
 ·refine pD h hk ik hl hs ?_ hK;rw[decide_eq_decide];omega
end
section
variable {W w:World} {L:LH} {k:Nat}
def yx(w:World)(a:Addr)(n j:Nat)(hj:j≠a.block):(w.freeze a n).heap[j]?=w.heap[j]?:=by
 unfold World.freeze;split
 ·rfl
 ·simp only[Array.getElem?_modify];rw[if_neg (fun h=>hj h.symm)]
def Tk{s:BA}{K:Nat→Nat→WK}(h:St W w L)(hK:∀r c w',St W w' (own (some ⟨r,0,none⟩) s.size c 1 (s.data.toList.map ry)::L)→K r c w'):YO s K w:=by
 intro c t hc;have h1:=h.drew.new ((s.data.toList.map ry)++adQ (c-s.size) (.int .u8 0)) t;have oE:s.data.toList.length=s.size:=rfl;have Ux:((strCells s).toArray++aeI (c-s.size) (.int .u8 0):Array Value)=⟨(s.data.toList.map ry)++adQ (c-s.size) (.int .u8 0)⟩:=by
  apply afc;rw[Array.toList_append,Array.toList_replicate]
  rfl
 rw[Ux];generalize O6:(s.data.toList.map ry)++adQ (c-s.size) (Value.int .u8 0)=cs at *;have hlen:cs.length=c:=by rw[←O6];simp;omega
 have hhp:(w.drew.alloc (.cells ⟨cs⟩ t)).heap[w.heap.size]?=some (.cells ⟨cs⟩ t):=by
  show(w.heap.push (.cells ⟨cs⟩ t))[w.heap.size]?=_;rw[Array.getElem?_push_size]
 have yr:view ((w.drew.alloc (.cells ⟨cs⟩ t)).freeze ⟨w.heap.size,c,none⟩ 1) w.heap.size=some (.cells cs):=by
  unfold view World.freeze;rw[if_neg (by decide)];simp only[Array.getElem?_modify,hhp];simp[hlen]
 have hb:=h1.1;have h2:=h1.aF (k:=0) rfl (w':=(w.drew.alloc (.cells ⟨cs⟩ t)).freeze ⟨w.heap.size,c,none⟩ 1) ?_ yr (fun j hj _=>yx _ _ _ _ hj)
 ·refine hK _ _ _ ?_;refine St.mono (A:=pt w.heap.size cs) h2 fun g hp=>⟨by rw[ad1];omega,.inr ⟨_,adQ (c-s.size) (.int .u8 0),rfl,hc,by simp,?_⟩⟩;rw[O6];exact hp
 ·refine⟨?_,?_,?_,?_,fun j hj=>?_⟩
  ·unfold World.freeze;rw[if_neg (by decide)];exact hb.os
  ·unfold World.freeze;rw[if_neg (by decide)];exact hb.tape
  ·unfold World.freeze;rw[if_neg (by decide)];exact hb.output
  ·unfold World.freeze;rw[if_neg (by decide)];simp only[Array.size_modify];exact hb.size
  ·rw[yx _ _ _ _ (by have:=h.1.size;simp only;omega)];exact hb.block j hj
def yW(r:Nat)(s:BA)(t:Bool):HP:=pt r [.string s,.bool t]
def oD(s:BA)(t:Bool)(n:Int):Bool:=t||decide (n<0∨(s.size:Int)<n)
def tG(s:BA)(t:Bool)(n:Int):BA:=if oD s t n then .empty else s.extract 0 n.toNat
def yX(s:BA)(t:Bool)(n:Int):BA:=if oD s t n then s else s.extract n.toNat s.size
def oK{s:BA}{K:VK}(h:St W w L)(hK:∀r w',St W w' (yW r s false::L)→K (.p (some ⟨r,0,none⟩)) w'):jV s K w:=by
 unfold jV;exact⟨⟨rfl,trivial⟩,ic h fun r w hs=>hK r w hs⟩
def BD{r:Nat}{s:BA}{t:Bool}{n:Int}{K:VK}(h:St W w L)(hk:L[k]?=some (yW r s t))(hK:∀w',St W w' (L.set k (yW r (yX s t n) (oD s t n)))→K (.string (tG s t n)) w'):cb (some ⟨r,0,none⟩) n K w:=by
 unfold cb;unfold yW at hk;simp only[nz,ady,adz];refine bR hk (h:=h) rfl ?_;simp only[nz,ady,adz];have bad:oD s t n=true→∀w',St W w' (L.set k (pt r [.string s,.bool true]))→K (.string .empty) w':=fun hb w' hs=>by
  have:=hK w';unfold yX tG at this;rw[if_pos hb,if_pos hb,hb] at this;exact this hs
 refine pO (fun ht=>?_) (fun ht=>?_)
 ·refine mL h hk (adH rfl) rfl fun w hs=>?_;refine bR hs (iF hk) rfl ?_;simp only[nz,ady,adz] at hs⊢;exact bad (by simp[oD,ht]) w hs
 refine dJ (fun hn=>?_) (fun hn=>?_)
 ·refine mL h hk (adH rfl) rfl fun w hs=>?_;refine bR hs (iF hk) rfl ?_;simp only[nz,ady,adz] at hs⊢;exact bad (by simp[oD,hn]) w hs
 refine bR h hk rfl ?_;simp only[nz,ady,adz];refine mL h hk (adH rfl) rfl fun w hs=>?_;refine bR hs (iF hk) rfl ?_;simp only[nz,ady,adz] at hs⊢;refine dJ (fun Ju=>?_) (fun Ju=>?_)
 ·have:decide (n>(s.size:Int))=true:=decide_eq_true Ju;rw[this] at hs;exact bad (by simp[oD];omega) w hs
 ·have e:decide (n>(s.size:Int))=false:=decide_eq_false Ju;rw[e] at hs;have hb:oD s t n=false:=by
   unfold oD;rw[ht,decide_eq_false (by omega)];rfl
  have:=hK;unfold yX tG at this;rw[if_neg (by rw[hb];exact ad4),if_neg (by rw[hb];exact ad4),hb] at this;unfold cb.j1;simp only[nz,ady,adz];refine bR hs (iF hk) rfl ?_;unfold kD;simp only[nz,ady,adz];refine⟨by omega,?_⟩;refine bR hs (iF hk) rfl ?_;simp only[nz,ady,adz];refine⟨by omega,?_⟩;refine mL hs (iF hk) (adH rfl) rfl fun w hs=>?_;rw[aeO] at hs;exact this w hs
def kQ:List UInt8→Nat
 |[]=>0
 |c::r=>c.toNat+256* kQ r
def oZ:∀l:List UInt8,kQ l<256^l.length
 |[]=>by simp[kQ]
 |c::r=>by
  have:=oZ r;have hc:=c.toNat_lt;simp only[kQ,adW,Nat.pow_succ];omega
def ph:∀(l:List UInt8)(c:UInt8),kQ (l++[c])=kQ l+c.toNat* 256^l.length
 |[],c=>by simp[kQ]
 |d::r,c=>by
  simp only[aeN,kQ,ph r c,adW,Nat.pow_succ];rw[Nat.mul_add,Nat.add_assoc]
  congr 2
  rw[ae' 256,Nat.mul_assoc]
def wg(z:Int):BitVec.ofInt 64 (adx.wrap z)=BitVec.ofInt 64 z:=by
 apply BitVec.eq_of_toNat_eq;simp only[BitVec.toNat_ofInt];simp[IntKind.wrap,IntKind.bits,IntKind.signed];split<;>omega
def PZ{A j:Nat}{c:UInt8}(hj:j<8)(hA:A<256^j):bG .i64 .or (adx.wrap A) (shl .i64 (adx.wrap (c.toNat:Int)) (8* (j:Int)))=adx.wrap ((A+c.toNat* 256^j:Nat):Int):=by
 have hc:=c.toNat_lt;have KJ:256^j=2^(8* j):=by rw[show(256:Nat)=2^8 from rfl,←Nat.pow_mul]
 have aag:c.toNat* 2^(8* j)<2^64:=by
  have h1:c.toNat* 2^(8* j)<2^8* 2^(8* j):=Nat.mul_lt_mul_of_pos_right (by exact hc) (Nat.pow_pos (by decide));rw[←Nat.pow_add] at h1;exact Nat.lt_of_lt_of_le h1 (aer (by decide) (by omega))
 have adw:A<2^64:=by
  rw[KJ] at hA;exact Nat.lt_of_lt_of_le hA (aer (by decide) (by omega))
 have ew:adx.wrap (c.toNat:Int)=(c.toNat:Int):=ah (by omega);have esh:shl .i64 (c.toNat:Int) (8* (j:Int))=adx.wrap ((c.toNat* 2^(8* j):Nat):Int):=by
  unfold shl;have h1:(8* (j:Int)).toNat=8* j:=by omega
  have h2:min (8* j) adx.bits=8* j:=by show min (8* j) 64=_;omega
  rw[h1,h2]
  congr 1
 rw[ew,esh];show adx.wrap (((BitVec.ofInt 64 (adx.wrap A)|||BitVec.ofInt 64 (adx.wrap ((c.toNat* 2^(8* j):Nat):Int))).toNat:Nat):Int)=_;rw[wg,wg,BitVec.toNat_or];have t1:(BitVec.ofInt 64 (A:Int)).toNat=A:=by simp only[BitVec.toNat_ofInt];omega
 have t2:(BitVec.ofInt 64 ((c.toNat* 2^(8* j):Nat):Int)).toNat=c.toNat* 2^(8* j):=by
  generalize c.toNat* 2^(8* j)=z at *;simp only[BitVec.toNat_ofInt];omega
 rw[t1,t2,KJ]
 congr 2
 rw[Nat.or_comm,←Nat.shiftLeft_eq,←Nat.shiftLeft_add_eq_or_of_lt (by rw[←KJ];exact hA),Nat.add_comm]
def kH(l:List UInt8):Int:=adx.wrap (kQ l:Int)
def wT{r:Nat}{s:BA}{t:Bool}{n:Int}{K:VK}(h:St W w L)(hk:L[k]?=some (yW r s t))
 (hK:∀w',St W w' (L.set k (yW r (yX s t (min2 (max2 n 1) 8)) (oD s t (min2 (max2 n 1) 8))))→K (.i (kH (tG s t (min2 (max2 n 1) 8)).data.toList)) w'):ao (some ⟨r,0,none⟩) n K w:=by
 have hm:1≤min2 (max2 n 1) 8∧min2 (max2 n 1) 8≤8:=by unfold min2 max2;split<;>split<;>omega
 unfold ao;generalize min2 (max2 n 1) 8=m at *;refine BD h hk fun w hs=>?_;simp only[nz,ady,adz];have hv8:(tG s t m).size≤8:=by
  unfold tG;split
  ·exact adK _
  ·rw[rB];omega
 have hK':=hK;generalize tG s t m=v at *;refine Tk hs fun q c w hs=>?_;have hlen:v.data.toList.length=v.size:=rfl;refine⟨fun us w'=>∃j:Nat,us=[.i 0,.i (kH (v.data.toList.take j)),.l (some ⟨q,0,none⟩) v.size c,.i v.size,.i j]∧j≤v.size∧WH w w',
  fun us _=>match us with|[_,_,_,_,.int _ j]=>v.size-j.toNat|_=>0,⟨0,rfl,adK _,rfl⟩,?_⟩
 rintro n2 n3 MD Vm PB n4 n5 w2 ⟨j,he,hj,hw⟩;obtain rfl:w2=w:=hw;cases he
 generalize hb:decide ((j:Int)<(v.size:Int))=b;cases b
 ·have iM:=of_decide_eq_false hb;rw[cA];rw[adS (by omega)];exact hK' _ hs.drop
 ·have a8:=of_decide_eq_true hb;rw[jk];have Nl:j<v.data.toList.length:=by omega
  refine sA (k:=0) hs rfl (by omega) fun r' hr=>?_;cases hr
  refine xx (k:=0) hs rfl (v:=ry (v.data.toList[j])) (by rw[adB,ae8,aen,adA Nl];rfl) ?_;unfold ry;simp only[nz,ady,adz];have e8:adx.wrap (8* (j:Int))=8* (j:Int):=ah (by omega);have e5:adx.wrap ((j:Int)+1)=((j+1:Nat):Int):=by rw[ah (by omega)];omega
  rw[e8,e5];refine⟨by omega,?_⟩;have Jn:=oZ (v.data.toList.take j);have y4:(v.data.toList.take j).length=j:=by rw[adF];omega
  rw[y4] at Jn;have e6:bG .i64 .or (kH (v.data.toList.take j)) (shl .i64 (adx.wrap ((v.data.toList[j]).toNat:Int)) (8* (j:Int)))=kH (v.data.toList.take (j+1)):=by
   unfold kH;rw[PZ (by omega) Jn,aeu Nl,ph,y4]
  rw[e6];exact⟨⟨j+1,rfl,by omega,rfl⟩,by omega⟩
def numOf(s:BA):Int:=if 1≤kH s.data.toList∧kH s.data.toList≤1152921504606846976 then kH s.data.toList else 0
def oJ{n:Int}(h:0≤n∧n<18446744073709551616):IntKind.u64.wrap n=n:=by
 simp[IntKind.wrap,IntKind.bits,IntKind.signed];omega
def xE(s:BA):BA:=s.extract 0 8
def wY(s:BA):BA:=s.extract (s.size-8) s.size
def K2{s:BA}{K:VK}(h:St W w L)(hs8:8≤s.size)(oE:s.size<1099511627776)(hK:∀w',St W w' L→K (.agg ⟨[.i (numOf (xE s)),.i (numOf (wY s))]⟩) w'):nG s K w:=by
 unfold nG;refine ic h fun r1 w hs=>?_;refine ic hs fun r2 w hs=>?_;refine kA hs fun w hs=>?_;unfold kD;simp only[nz,ady,adz];have e1:adx.wrap ((s.size:Int) -8)=(s.size:Int) -8:=ah (by omega);rw[e1];refine⟨by omega,by omega,?_⟩;have eh:s.extract 0 (8:Int).toNat=xE s:=rfl;have et:s.extract ((s.size:Int) -8).toNat s.size=wY s:=by unfold wY;congr 1;omega
 rw[eh,et];have h8:(xE s).size=8:=by unfold xE;rw[rB];omega
 have t8:(wY s).size=8:=by unfold wY;rw[rB];omega
 refine⟨fun us w'=>∃j:Nat,us=[.p (some ⟨r1,0,none⟩),.p (some ⟨r2,0,none⟩),.agg ⟨[.string (xE s),.string (wY s)]⟩,.i j]∧j≤2∧
  St W w' (pt r2 [.i (if 0<j then numOf (xE s) else 0),.i (if 1<j then numOf (wY s) else 0)]::pt r1 [.i 0,.i 0]::L),
  fun us _=>match us with|[_,_,_,.int _ j]=>2-j.toNat|_=>0,⟨0,rfl,adK _,hs⟩,?_⟩
 rintro a1 a2 cs1 n1 w2 ⟨j,he,hj,hs⟩;cases he
 refine pO (fun h0=>?_) (fun h0=>?_)
 ·have FX:j<2:=by have:=of_decide_eq_true h0;omega
  have e5:adx.wrap ((j:Int)+1)=((j+1:Nat):Int):=by rw[ah (by omega)];omega
  rw[e5];obtain⟨p,hp,T0⟩:∃p,([Value.string (xE s),.string (wY s)]:LV)[(j:Int).toNat]?=some (.string p)∧p.size=8∧(j=0→p=xE s)∧(j=1→p=wY s):=by
   match j,FX with
   |0,_=>exact⟨xE s,rfl,h8,fun _=>rfl,fun hh=>by omega⟩
   |1,_=>exact⟨wY s,rfl,t8,fun hh=>by omega,fun _=>rfl⟩
  refine⟨.string p,⟨by omega,by omega,hp⟩,?_⟩;simp only[nz,ady,adz];refine oK hs fun q w hs=>?_;simp only[nz,ady,adz];refine wT (k:=0) hs rfl fun w hs=>?_;have em:min2 (max2 8 1) 8=8:=rfl;have ev:tG p false (min2 (max2 8 1) 8)=p:=by
   rw[em];unfold tG;have:oD p false 8=false:=by unfold oD;rw[T0.1];rfl
   rw[if_neg (by rw[this];exact ad4)];have:(8:Int).toNat=p.size:=by rw[T0.1];rfl
   rw[this];exact ByteArray.extract_zero_size
  rw[ev];simp only[nz,ady,adz] at hs⊢;have hs:=hs.drop;have fin:∀x w',x=numOf p→St W w' (pt r2 ([.i (if 0<j then numOf (xE s) else 0),.i (if 1<j then numOf (wY s) else 0)].set j (.i x))::pt r1 [.i 0,.i 0]::L)→
     St W w' (pt r2 [.i (if 0<j+1 then numOf (xE s) else 0),.i (if 1<j+1 then numOf (wY s) else 0)]::pt r1 [.i 0,.i 0]::L):=fun x w' hx hs=>by
   subst hx
   match j,FX,T0,hs with
   |0,_,T0,hs=>rw[T0.2.1 rfl] at hs;simpa using hs
   |1,_,T0,hs=>rw[T0.2.2 rfl] at hs;simpa using hs
  have zero:numOf p=0→∀w',St W w' (pt r2 [.i (if 0<j then numOf (xE s) else 0),.i (if 1<j then numOf (wY s) else 0)]::pt r1 [.i 0,.i 0]::L)→
   St W w' (pt r2 [.i (if 0<j+1 then numOf (xE s) else 0),.i (if 1<j+1 then numOf (wY s) else 0)]::pt r1 [.i 0,.i 0]::L):=fun hz w' hs=>by
   refine fin 0 w' hz.symm ?_
   match j,FX,hs with
   |0,_,hs=>simpa using hs
   |1,_,hs=>simpa using hs
  refine dJ (fun h1=>?_) (fun h1=>?_)
  ·refine dJ (fun h2=>?_) (fun h2=>?_)
   ·refine⟨by omega,?_⟩;refine mL (k:=0) hs rfl (by simp;omega) rfl fun w hs=>?_;simp only[nz,ady,adz] at hs;rw[adB,ae8] at hs;refine⟨⟨j+1,rfl,by omega,fin _ w ?_ hs⟩,by omega⟩;unfold numOf;rw[if_pos (by omega)]
   ·exact⟨⟨j+1,rfl,by omega,zero (by unfold numOf;rw[if_neg (by omega)]) w hs⟩,by omega⟩
  ·exact⟨⟨j+1,rfl,by omega,zero (by unfold numOf;rw[if_neg (by omega)]) w hs⟩,by omega⟩
 ·have FX:j=2:=by have:=of_decide_eq_false h0;omega
  subst FX;have hs:St W w2 (pt r2 [.i (numOf (xE s)),.i (numOf (wY s))]::pt r1 [.i 0,.i 0]::L):=hs;refine iG (k:=0) (xs:=[.i (numOf (xE s)),.i (numOf (wY s))]) hs rfl rfl (fun i v hi=>by rw[adE];exact hi) ?_;refine⟨rfl,iU (k:=1) hs rfl (adH rfl) (by simp[Value.oneCell']) fun w hs=>?_⟩;rw[fZ (by simp)] at hs;simp only[nz,ady,adz] at hs;refine iG (k:=1) (xs:=[.i (numOf (xE s)),.i (numOf (wY s))]) hs rfl rfl (fun i v hi=>by rw[adE];exact hi) ?_;exact hK w hs.drop.drop
def cV(D:aA):Nat→Int
 |0=>0
 |j+1=>max2 (max2 (cV D j) (numOf (xE (D.read (j:Int)).1))) (numOf (wY (D.read (j:Int)).1))
def uh{D:aA}(h:D.Ok){i:Int}(hi:D.is i):(D.read i).1.size=128:=by
 unfold aA.read;rw[if_pos hi];unfold aA.now;have a8:i.toNat<D.safe.length:=by have:=hi.1;have:=hi.2;omega
 cases hl:aA.last D.later i with
 |none=>
  rw[aes,aeD,adA a8,aec];exact h.safe _ (adZ a8)
 |some x=>
  unfold aA.last at hl;rw[Option.map_eq_some_iff] at hl;obtain⟨p,hp,rfl⟩:=hl;exact(h.later p (List.mem_reverse.1 (aey hp))).1
def Cd{d:Nat}{D:aA}{K:VK}(h:St W w L)(hk:L[k]?=some (fA d D))(ik:D.Ok)(hK:∀w',St W w' L→K (.i (cV D D.safe.length)) w'):iD (some ⟨d,0,none⟩) K w:=by
 have rN:=ik.mC;unfold iD;refine kP h hk ?_;simp only[nz,ady,adz];refine⟨fun us w'=>∃j:Nat,us=[.i 0,.i (cV D j),.i D.safe.length,.i j]∧j≤D.safe.length∧St W w' L,
  fun us _=>match us with|[_,_,_,.int _ j]=>D.safe.length-j.toNat|_=>0,⟨0,rfl,adK _,h⟩,?_⟩
 rintro n2 n3 n4 n5 w2 ⟨j,he,hj,hs⟩;cases he
 refine dJ (fun a8=>?_) (fun iM=>?_)
 ·have hi:D.is (j:Int):=⟨by omega,a8⟩;have oE:=uh ik hi;have e5:adx.wrap ((j:Int)+1)=((j+1:Nat):Int):=by rw[ah (by omega)];omega
  refine oB hs hk ik ?_;simp only[nz,ady,adz];refine K2 hs (by omega) (by omega) fun w hs=>?_;simp only[sV,adW,ad6,adE,ady,true_and];refine ic hs fun r w hs=>?_;refine⟨trivial,iU (k:=0) hs rfl (adH rfl) (by simp[Value.oneCell']) fun w hs=>?_⟩;rw[fZ (by simp)] at hs;simp only[nz,ady,adz] at hs⊢;refine⟨by decide,?_⟩;refine bR (k:=0) hs rfl rfl ?_;simp only[nz,ady,adz];refine⟨by decide,?_⟩;refine bR (k:=0) hs rfl rfl ?_;simp only[nz,ady,adz];rw[e5];exact⟨⟨j+1,rfl,by omega,hs.drop⟩,by omega⟩
 ·have:j=D.safe.length:=by omega
  subst this;exact hK _ hs
end
def lR(l:List UInt8)(n:Nat):(bs l).extract 0 n=bs (l.take n):=by
 apply je;rw[extract_toList,aeJ,Nat.sub_zero];rfl
def lQ(l:List UInt8)(n:Nat):(bs l).extract n (bs l).size=bs (l.drop n):=by
 apply je;rw[extract_toList,bF];show(l.drop n).take (l.length-n)=l.drop n;rw[adS (by rw[adM];omega)]
def Li(a b:List UInt8):bs a++bs b=bs (a++b):=by
 apply je;rw[ByteArray.data_append,Array.toList_append];rfl
def xN{a b:List UInt8}:bs a=bs b↔a=b:=by
 constructor
 ·intro h;have:=congrArg (fun x=>x.data.toList) h;exact this
 ·intro h;rw[h]
def Ge:ByteArray.empty=bs []:=rfl
section
variable {W w:World} {L:LH} {k:Nat}
def zW{l:List UInt8}{K:VK}(hl:l.length<1099511627776)(hK:∀m,m≤l.length→(∀j(h:j<l.length),m≤j→l[j]=0)→(m=0∨∃h:m-1<l.length,l[m-1]≠0)→K (.string (bs (l.take m))) w):fI (bs l) 0 K w:=by
 unfold fI;refine⟨fun us w'=>∃m:Nat,us=[.string (bs (l.take m)),.string .empty]∧m≤l.length∧(∀j(h:j<l.length),m≤j→l[j]=0)∧WH w w',fun us _=>match us with|[.string s,_]=>s.size|_=>0,
  ⟨l.length,by rw[adN],adG _,fun j h hj=>by omega,rfl⟩,?_⟩
 rintro s2 s3 w2 ⟨m,he,hm,hz,hw⟩;obtain rfl:w2=w:=hw;cases he
 have oE:(bs (l.take m)).size=m:=by rw[bF,adF];omega
 rw[oE];refine dJ (fun FM=>?_) (fun W3=>?_)
 ·have W6:m-1<l.length:=by omega
  have ew:adx.wrap ((m:Int) -1)=((m-1:Nat):Int):=by rw[ah (by omega)];omega
  rw[ew];refine⟨l[m-1],⟨by omega,?_⟩,?_⟩
  ·rw[adB];show(l.take m)[m-1]?=_;rw[List.getElem?_take_of_lt (by omega),adA W6]
  refine Gs (fun h0=>?_) (fun h0=>?_)
  ·have hc:l[m-1]=0:=by
    apply UInt8.toNat_inj.1;show _=0;omega
   unfold kD;refine⟨⟨by omega,by rw[oE];omega⟩,?_⟩;rw[adB,lR,ae9,show min (m-1) m=m-1 from by omega];refine⟨⟨m-1,rfl,by omega,fun j hj hmj=>?_,rfl⟩,?_⟩
   ·by_cases hjm:m≤j
    ·exact hz j hj hjm
    ·have:j=m-1:=by omega
     subst this;exact hc
   ·dsimp only;rw[bF,adF,bF,adF];omega
  ·exact hK m hm hz (.inr ⟨W6,fun hc=>h0 (by rw[hc];rfl)⟩)
 ·exact hK m hm hz (.inl (by omega))
def BN{l:List UInt8}{K:VK}(hl:l.length<1099511627776)(hK:∀m,m≤l.length→(∀j(h:j<l.length),j<m→l[j]=0)→(m=l.length∨∃h:m<l.length,l[m]≠0)→K (.string (bs (l.drop m))) w):fW (bs l) 0 K w:=by
 unfold fW;refine⟨fun us w'=>∃m:Nat,us=[.string (bs (l.drop m)),.string .empty]∧m≤l.length∧(∀j(h:j<l.length),j<m→l[j]=0)∧WH w w',fun us _=>match us with|[.string s,_]=>s.size|_=>0,
  ⟨0,rfl,adK _,fun j h hj=>by omega,rfl⟩,?_⟩
 rintro s2 s3 w2 ⟨m,he,hm,hz,hw⟩;obtain rfl:w2=w:=hw;cases he
 have oE:(bs (l.drop m)).size=l.length-m:=by rw[bF,adM]
 refine dJ (fun FM=>?_) (fun W3=>?_)
 ·rw[oE] at FM;have W6:m<l.length:=by omega
  refine⟨l[m],⟨by omega,?_⟩,?_⟩
  ·show(l.drop m)[0]?=_;rw[aeQ,aev,adA W6]
  refine Gs (fun h0=>?_) (fun h0=>?_)
  ·have hc:l[m]=0:=by
    apply UInt8.toNat_inj.1;show _=0;omega
   unfold kD;refine⟨⟨by omega,by rw[oE];omega⟩,?_⟩;rw[show(1:Int).toNat=1 from rfl,lQ,aeK];refine⟨⟨m+1,rfl,by omega,fun j hj hmj=>?_,rfl⟩,?_⟩
   ·by_cases hjm:j<m
    ·exact hz j hj hjm
    ·have:j=m:=by omega
     subst this;exact hc
   ·dsimp only;rw[bF,adM,bF,adM];omega
  ·exact hK m hm hz (.inr ⟨W6,fun hc=>h0 (by rw[hc];rfl)⟩)
 ·rw[oE] at W3;exact hK m hm hz (.inl (by omega))
def Lr{l:List UInt8}{K:VK}(h:St W w L)(hl:l.length<1099511627776)(hK:∀r w',(r=.empty↔l=adQ l.length 0)→St W w' L→K (.string r) w'):dB (bs l) ⟨#[0]⟩ K w:=by
 unfold dB;have e0:pq (⟨#[0]⟩:BA) (⟨#[]⟩:BA)=false:=by rw[pU];exact decide_eq_false (fun h=>absurd (congrArg ByteArray.size h) (by decide))
 rw[e0,pU];refine dJ (fun hem=>?_) (fun ji=>?_)
 ·unfold dB.j1;rw[jk];have:l=[]:=xN.1 hem;subst this;exact hK _ w (by simp[Ge]) h
 ·unfold dB.j1;rw[cA];have e1:((((⟨#[0]⟩:BA).size:Nat):Int)==1)=true:=by decide
  rw[e1,jk];refine⟨0,⟨by decide,rfl⟩,?_⟩;have e2:decide (((0:UInt8).toNat:Int)<128)=true:=by decide
  dsimp only;rw[e2];unfold dB.j3;rw[jk];refine kA h fun w h=>?_;refine⟨0,⟨by decide,rfl⟩,?_⟩;refine⟨0,⟨by decide,rfl⟩,?_⟩;refine zW hl fun m hm hz CW=>?_;simp only[nz,ady,adz];refine BN (by rw[adF];omega) fun q hq ZY tP=>?_;simp only[nz,ady,adz];refine hK _ w ?_ h;have a8:(l.take m).length=m:=by rw[adF];omega
  rw[Ge,xN]
  constructor
  ·intro hd;have hqm:q=m:=by have:=congrArg List.length hd;rw[adM,ad6] at this;omega
   subst hqm;rcases CW with h0|⟨h1,h2⟩
   ·subst h0;exact List.eq_replicate_iff.2 ⟨rfl,fun x hx=>by
     obtain⟨j,hj,rfl⟩:=List.mem_iff_getElem.1 hx
     exact hz j hj (adK _)⟩
   ·exfalso;have hq0:0<q:=by
     rcases Nat.eq_zero_or_pos q with h0|h0
     ·subst h0;exact absurd (hz _ h1 (by omega)) h2
     ·exact h0
    have:=ZY (q-1) (by omega) (by omega);rw[List.getElem_take] at this;exact h2 this
  ·intro hU;have hz0:∀j(hj:j<l.length),l[j]=0:=fun j hj=>(List.eq_replicate_iff.1 hU).2 _ (adZ hj);rcases tP with h0|⟨h1,h2⟩
   ·rw[aeh (by omega)]
   ·exfalso;rw[List.getElem_take] at h2;exact h2 (hz0 q _)
def pG(l:List UInt8):Bool:=decide (4≤l.length)&&(ri (po 0 (l.take (l.length-4)))==l.drop (l.length-4))
def Iu{l:List UInt8}{K:VK}(h:St W w L)(hl:l.length<1099511627776)(hK:∀w',St W w' L→K (.bool (pG l)) w'):l7 (bs l) K w:=by
 unfold l7;refine kA h fun w h=>?_;have ew:adx.wrap (((bs l).size:Int) -4)=(l.length:Int) -4:=by rw[bF,ah (by omega)]
 rw[ew];refine dJ (fun h0=>?_) (fun h0=>?_)
 ·have e1:((l.length:Int) -4).toNat=l.length-4:=by omega
  unfold kD;dsimp only;refine⟨⟨h0,by rw[bF];omega⟩,?_⟩;refine⟨⟨h0,by rw[bF];omega⟩,?_⟩;rw[e1,lR,lQ];refine GH (by rw[bF,adF];omega) ?_;simp only[nz,ady,adz];refine tX h (ya _) fun w h=>?_;simp only[nz,ady,adz];have e2:pq (bs (ri (po 0 (bs (l.take (l.length-4))).data.toList))) (bs (l.drop (l.length-4)))=pG l:=by
   rw[pU];unfold pG;rw[decide_eq_true (by omega:4≤l.length),aeC];show decide (bs (ri (po 0 (l.take (l.length-4))))=bs (l.drop (l.length-4)))=_;by_cases hh:ri (po 0 (l.take (l.length-4)))=l.drop (l.length-4)
   ·rw[decide_eq_true (xN.2 hh),hh,beq_self_eq_true]
   ·rw[decide_eq_false (fun h=>hh (xN.1 h))]
    symm;simp[hh]
  rw[e2];exact hK w h
 ·have e2:pG l=false:=by unfold pG;rw[decide_eq_false (by omega: ¬4≤l.length)];rfl
  rw[←e2];exact hK w h
def Et{r:Nat}{l:List UInt8}{n:Nat}{K:VK}(h:St W w L)(hk:L[k]?=some (yW r (bs l) false))(h1:1≤n)(h8:n≤8)(hn:n≤l.length)
 (hK:∀w',St W w' (L.set k (yW r (bs (l.drop n)) false))→K (.i (kH (l.take n))) w'):ao (some ⟨r,0,none⟩) n K w:=by
 refine wT h hk ?_;have em:min2 (max2 (n:Int) 1) 8=n:=by unfold min2 max2;split<;>split<;>omega
 rw[em];have et:oD (bs l) false n=false:=by unfold oD;rw[bF,decide_eq_false (by omega)];rfl
 unfold yX tG;rw[et,adB,lR,lQ];exact hK
def Io{r:Nat}{l:List UInt8}{n:Nat}{K:VK}(h:St W w L)(hk:L[k]?=some (yW r (bs l) false))(hn:n≤l.length)
 (hK:∀w',St W w' (L.set k (yW r (bs (l.drop n)) false))→K (.string (bs (l.take n))) w'):cb (some ⟨r,0,none⟩) n K w:=by
 refine BD h hk ?_;have et:oD (bs l) false n=false:=by unfold oD;rw[bF,decide_eq_false (by omega)];rfl
 unfold yX tG;rw[et,adB,lR,lQ];exact hK
end
def kX{l:List UInt8}(h:l.length≤7):kH l=(kQ l:Int):=by
 have h1:=oZ l;have h2:256^l.length≤256^7:=aer (by decide) h;have h3:(256:Nat)^7=72057594037927936:=rfl;unfold kH;rw[ah (by omega)]
def sN(l:List UInt8):Int:=kH (l.take 8)
def sI(l:List UInt8):Int:=kH ((l.drop 8).take 2)
def sM(l:List UInt8):Nat:=kQ (((l.drop 8).drop 2).take 2)
def jY(l:List UInt8):List UInt8:=((l.drop 8).drop 2).drop 2
def sD(l:List UInt8):List UInt8:=(jY l).take (sM l)
def sZ(l:List UInt8):List UInt8:=((jY l).drop (sM l)).take (104-sM l)
def yh(l:List UInt8):Int:=kH (((((jY l).drop (sM l)).drop (104-sM l)).drop 4).take 8)
def jH(l:List UInt8):Option (Int×Int×BA):=
 if ¬l.length=128 then none
 else if pG (l.take 120)=false then none
 else if 104<sM l then none
 else if ¬yh l=sN l then none
 else if ¬sZ l=adQ (sZ l).length 0 then none
 else if ¬Good (sN l) (sI l) (bs (sD l)) then none
 else some (sN l,sI l,bs (sD l))
def pQ:Option (Int×Int×BA)→Value
 |none=>.tuple ⟨[.agg ⟨[.i 0,.i 0,.string .empty]⟩,.bool false]⟩
 |some (n,i,d)=>.tuple ⟨[.agg ⟨[.i n,.i i,.string d]⟩,.bool true]⟩
section
variable {W w:World} {L:LH}
def xW{l:List UInt8}{K:VK}(h:St W w L)(hl:l.length<1099511627776)(hK:∀w',St W w' L→K (pQ (jH l)) w'):ij (bs l) K w:=by
 unfold jH at hK;unfold ij;refine ic h fun r1 w hs=>?_;rw[bF];have Sp:(∀w',St W w' L→K (pQ none) w')→∀w,St W w (pt r1 [.i 0,.i 0,.string .empty]::L)→ij.j1 K r1 (bs l) true w:=fun hK w hs=>by
  unfold ij.j1;simp only[nz,ady,adz];refine iU (k:=0) hs rfl (adH rfl) (by simp[Value.oneCell']) fun w hs=>?_;rw[fZ (by simp)] at hs;refine iG (k:=0) (xs:=[.i 0,.i 0,.string .empty]) hs rfl rfl (fun j v hj=>by rw[adE];exact hj) ?_;exact hK w hs.drop
 refine qt (fun ji=>?_) (fun he=>?_)
 ·rw[if_pos (by omega)] at hK;exact Sp hK w hs
 have HM:l.length=128:=by omega
 rw[if_neg (by omega)] at hK;unfold kD;dsimp only;refine⟨⟨by omega,by rw[bF];omega⟩,?_⟩;rw[show(120:Int).toNat=120 from rfl,lR];refine Iu hs (by rw[adF];omega) fun w hs=>?_;simp only[nz,ady,adz];cases hh:pG (l.take 120) with
 |false=>
  rw[if_pos hh] at hK;exact Sp hK w hs
 |true=>
 rw[if_neg (by rw[hh];exact ae4)] at hK;unfold ij.j1;simp only[nz,ady,adz];refine oK hs fun q w hs=>?_;simp only[nz,ady,adz];refine Et (k:=0) (n:=8) hs rfl (by decide) (by decide) (by omega) fun w hs=>?_;simp only[nz,ady,adz] at hs⊢;have l8:(l.drop 8).length=120:=by rw[adM];omega
 refine Et (k:=0) (n:=2) hs rfl (by decide) (by decide) (by omega) fun w hs=>?_;simp only[nz,ady,adz] at hs⊢;have l10:((l.drop 8).drop 2).length=118:=by rw[adM];omega
 refine ic hs fun r2 w hs=>?_;refine⟨by simp,?_⟩;refine iU (k:=0) hs rfl (adH rfl) (by simp[Value.oneCell']) fun w hs=>?_;rw[fZ (by simp)] at hs;simp only[nz,ady,adz] at hs;refine Et (k:=1) (n:=2) hs rfl (by decide) (by decide) (by omega) fun w hs=>?_;simp only[nz,ady,adz] at hs⊢;have em:kH (((l.drop 8).drop 2).take 2)=(sM l:Int):=kX (by rw[adF];omega);have en:kH (l.take 8)=sN l:=rfl;have ei:kH ((l.drop 8).take 2)=sI l:=rfl;have er:((l.drop 8).drop 2).drop 2=jY l:=rfl;have lr:(jY l).length=116:=by unfold jY;rw[adM];omega
 rw[em];rw[en,ei,er] at hs;have JA:(∀w',St W w' L→K (pQ none) w')→∀w A B,St W w (A::B::pt r1 [.i 0,.i 0,.string .empty]::L)→bl True (bl True (iN ⟨r1,0,none⟩ [.i 0,.i 0,.string .empty] (aj ⟨r1,0,none⟩ 3 fun cs=>K (.tuple ⟨[.agg ⟨cs⟩,.bool false]⟩)))) w:=fun hK w A B hs=>by
  refine⟨trivial,trivial,?_⟩;refine iU (k:=2) hs rfl (adH rfl) (by simp[Value.oneCell']) fun w hs=>?_;rw[fZ (by simp)] at hs;refine iG (k:=2) (xs:=[.i 0,.i 0,.string .empty]) hs rfl rfl (fun j v hj=>by rw[adE];exact hj) ?_;exact hK w hs.drop.drop.drop
 refine pO (fun Ju=>?_) (fun hle=>?_)
 ·have Ju:=of_decide_eq_true Ju;rw[if_pos (by omega)] at hK;exact JA hK w _ _ hs
 have hle:=of_decide_eq_false hle;rw[if_neg (by omega)] at hK;refine Io (k:=1) (n:=sM l) hs rfl (by omega) fun w hs=>?_;simp only[nz,ady,adz] at hs⊢;have ed:(jY l).take (sM l)=sD l:=rfl;rw[ed];refine mL (k:=0) hs rfl (adH rfl) rfl fun w hs=>?_;simp only[nz,ady,adz] at hs;have ew:adx.wrap (104-(sM l:Int))=((104-sM l:Nat):Int):=by rw[ah (by omega)];omega
 rw[ew];have ZQ:((jY l).drop (sM l)).length=116-sM l:=by rw[adM,lr]
 refine Io (k:=1) (n:=104-sM l) hs rfl (by omega) fun w hs=>?_;simp only[nz,ady,adz] at hs⊢;have ez:((jY l).drop (sM l)).take (104-sM l)=sZ l:=rfl;rw[ez];have ZP:(((jY l).drop (sM l)).drop (104-sM l)).length=12:=by rw[adM,ZQ];omega
 refine Io (k:=1) (n:=4) hs rfl (by omega) fun w hs=>?_;simp only[nz,ady,adz] at hs⊢;have lrc:((((jY l).drop (sM l)).drop (104-sM l)).drop 4).length=8:=by rw[adM,ZP]
 refine kA hs fun w hs=>?_;refine bR (k:=0) hs rfl rfl ?_;simp only[nz,ady,adz];refine Et (k:=1) (n:=8) hs rfl (by decide) (by decide) (by omega) fun w hs=>?_;simp only[nz,ady,adz] at hs⊢;refine iV (k:=0) hs rfl rfl ?_;have et:kH (((((jY l).drop (sM l)).drop (104-sM l)).drop 4).take 8)=yh l:=rfl;rw[et];refine qt (fun ji=>?_) (fun heq=>?_)
 ·rw[if_pos ji] at hK;exact JA hK w _ _ hs
 rw[if_neg (fun hh=>hh heq)] at hK;refine Lr hs (by unfold sZ;rw[adF];omega) fun s5 w hr hs=>?_;simp only[nz,ady,adz];refine iV (k:=0) hs rfl rfl ?_;have aaw:(⟨#[]⟩:BA)=.empty:=rfl;rw[pU,aaw];by_cases hz:sZ l=adQ (sZ l).length 0
 ·rw[if_neg (fun hh=>hh hz)] at hK;rw[decide_eq_true (hr.2 hz)];simp only[nz,ady,adz];refine iG (k:=0) (xs:=[.i (sN l),.i (sI l),.string (bs (sD l))]) hs rfl rfl (fun j v hj=>by rw[adE];exact hj) ?_;refine C3 hs fun w hs=>?_;simp only[nz,ady,adz];refine iV (k:=0) hs rfl rfl ?_;by_cases hg:Good (sN l) (sI l) (bs (sD l))
  ·rw[if_neg (fun hh=>hh hg)] at hK;rw[decide_eq_true hg];simp only[nz,ady,adz];refine iG (k:=0) (xs:=[.i (sN l),.i (sI l),.string (bs (sD l))]) hs rfl rfl (fun j v hj=>by rw[adE];exact hj) ?_;refine⟨rfl,?_⟩;refine iU (k:=2) hs rfl (adH rfl) (by simp[Value.oneCell']) fun w hs=>?_;rw[fZ (by simp)] at hs;simp only[nz,ady,adz] at hs;refine iG (k:=2) (xs:=[.i (sN l),.i (sI l),.string (bs (sD l))]) hs rfl rfl (fun j v hj=>by rw[adE];exact hj) ?_;exact hK w hs.drop.drop.drop
  ·rw[if_pos hg] at hK;rw[decide_eq_false hg];simp only[nz,ady,adz];exact(JA hK w _ _ hs).2.2
 ·rw[if_pos hz] at hK;rw[decide_eq_false (fun hh=>hz (hr.1 hh))];simp only[nz,ady,adz];exact(JA hK w _ _ hs).2.2
end
def kj(D:aA)(at' number:Int)(size:Nat):Nat→Nat→Option (List UInt8)
 |_,0=>some []
 |i,n+1=>match jH (D.read (at'+i)).1.data.toList with
  |none=>none
  |some (m,j,d)=>if m=number∧j=i∧d.size=min (size-104* i) 104 then(kj D at' number size (i+1) n).map (d.data.toList++·) else none
def take(D:aA)(at' to number size:Int):Option (List UInt8):=
 if at'<0∨(D.safe.length:Int)<to∨to<at'∨size<0∨425984<size∨to-at'<(dX size.toNat:Int) then none else kj D at' number size.toNat 0 (dX size.toNat)
def o0:Option (List UInt8)→Value
 |none=>.tuple ⟨[.string .empty,.bool false]⟩
 |some l=>.tuple ⟨[.string (bs l),.bool true]⟩
def lX(D:aA)(at' number:Int)(size i n:Nat):kj D at' number size i (n+1)=match jH (D.read (at'+i)).1.data.toList with
 |none=>none
 |some (m,j,d)=>if m=number∧j=i∧d.size=min (size-104* i) 104 then(kj D at' number size (i+1) n).map (d.data.toList++·) else none:=rfl
def KE{B b:Nat}{l:List UInt8}{w w':World}(h:R5 B b l w)(hb:Below w.heap.size w w'):R5 B b l w':=by
 have key:∀p,Go.Lib.BuilderAt RH SX B b p (Go.Lib.byteCells l) w→Go.Lib.BuilderAt RH SX B b p (Go.Lib.byteCells l) w':=by
  intro p h;have a8:=h.lt;obtain⟨hB,v,zx,WY,ji⟩:=h;refine⟨hB,v,by rw[hb.block b a8];exact zx,?_,ji⟩;refine⟨WY.1,?_⟩;rcases WY.2 with h0|⟨g,cap,cur,h1,h2,h3,h4⟩
  ·exact .inl h0
  ·refine .inr ⟨g,cap,cur,h1,h2,?_,h4⟩;have hg:g<w.heap.size:=(Array.getElem?_eq_some_iff.1 h3).1;rw[hb.block g hg];exact h3
 rcases h with h|h
 ·exact .inl (key _ h)
 ·exact .inr (key _ h)
def Qo{w:World}:R5 w.heap.size w.heap.size [] (w.alloc (.cells ⟨[.p none,.l none 0 0]⟩ RH)):=by
 refine .inl ⟨adG _,.l none 0 0,?_,?_,by intro h;cases h⟩
 ·show(w.heap.push _)[w.heap.size]?=_;rw[Array.getElem?_push_size]
 ·exact⟨rfl,.inl ⟨rfl,rfl⟩⟩
section
variable {W w:World} {L:LH} {k d:Nat} {D:aA}
def Ej{at' number:Int}{size:Nat}{b:Bool}{K:VK}(h:St W w L)(hk:L[k]?=some (fA d D))(ik:D.Ok)(vE:b=false→0≤at'∧at'+(dX size:Int)≤D.safe.length)(oE:size≤425984)
 (hK:∀w',St W w' L→K (o0 (if b then none else kj D at' number size 0 (dX size))) w'):fp.j1 K size (some ⟨d,0,none⟩) at' number b w:=by
 have rN:=ik.mC;unfold fp.j1;refine pO (fun hb=>?_) (fun hb=>?_)
 ·rw[if_pos hb] at hK;exact hK w h
 rw[if_neg (by rw[hb];exact ae4)] at hK;obtain⟨h0,OQ⟩:=vE hb;generalize LC:w=w0 at *;show WC RH [.p none,.l none 0 0] _ w0;unfold WC;have hB0:=Qo (w:=w0);have Sn:Below w0.heap.size w0 (w0.alloc (.cells ⟨[.p none,.l none 0 0]⟩ RH)):=Below.alloc (Below.refl _ _) (adG _) _;generalize TM:w0.alloc (.cells ⟨[.p none,.l none 0 0]⟩ RH)=w1 at *;generalize hq:w0.heap.size=q at *;refine nP (by omega) ?_;simp only[nz,ady,adz];refine⟨fun us w'=>∃(j:Nat)(l:List UInt8),us=[.string .empty,.bool false,.p (some ⟨q,0,none⟩),.i (dX size),.i j]∧j≤dX size∧l.length≤104* j∧R5 q q l w'∧Below q w0 w'∧q≤w'.heap.size∧
    kj D at' number size 0 (dX size)=(kj D at' number size j (dX size-j)).map (l++·),
  fun us _=>match us with|[_,_,_,_,.int _ j]=>dX size-j.toNat|_=>0,⟨0,[],rfl,adK _,adG _,hB0,Sn,?_,?_⟩,?_⟩
 ·have:=Sn.size;omega
 ·cases kj D at' number size 0 (dX size)<;>simp
 rintro s1 b2 a1 n6 n7 w2 ⟨j,l,he,hj,CV,hB,Ui,Y1,oQ⟩;cases he
 have hs:St W w2 L:=h.pC (by rw[hq];exact Ui);have O6:dX size≤4096:=by unfold dX;split<;>omega
 refine dJ (fun a8=>?_) (fun iM=>?_)
 ·have ea:adx.wrap (at'+(j:Int))=at'+j:=ah (by omega);rw[ea];refine oB hs hk ik ?_;simp only[nz,ady,adz];have adf:=uh ik (i:=at'+j) ⟨by omega,by omega⟩;obtain⟨p,hp⟩:∃p,dX size-j=p+1:=⟨dX size-j-1,by omega⟩;rw[hp,lX] at oQ;generalize hx:(D.read (at'+(j:Int))).1=x at *;rw[show x=bs x.data.toList from rfl];refine xW (St.start w2) (by rw[cN];omega) fun w3 qL=>?_;have Uk:=qL.below;have Nu:Below q w0 w3:=Ui.trans (Uk.mono Y1);have dh:St W w3 L:=h.pC (by rw[hq];exact Nu);have no:kj D at' number size 0 (dX size)=none→∀w',Below q w0 w'→K (.tuple ⟨[.string .empty,.bool false]⟩) w':=fun hn w' hb=>by
   have:=hK w' (h.pC (by rw[hq];exact hb));rw[hn] at this;exact this
  cases hv:jH x.data.toList with
  |none=>
   rw[hv] at oQ;unfold pQ;simp only[nz,ady,adz];simp only[sV,adW,ad6,adE,ady,true_and];simp only[nz,ady,adz];refine ic (St.start w3) fun r w4 th=>?_;refine⟨trivial,iU (k:=0) th rfl (adH rfl) (by simp[Value.oneCell']) fun w4 th=>?_⟩;exact no (by rw[oQ];rfl) w4 (Nu.trans (th.below.mono (by have:=Uk.size;omega)))
  |some y=>
   obtain⟨m,i,dd⟩:=y;rw[hv] at oQ;dsimp only at oQ;unfold pQ;simp only[nz,ady,adz];simp only[sV,adW,ad6,adE,ady,true_and];simp only[nz,ady,adz];refine ic (St.start w3) fun r w4 th=>?_;refine⟨trivial,iU (k:=0) th rfl (adH rfl) (by simp[Value.oneCell']) fun w4 th=>?_⟩;rw[fZ (by simp)] at th;simp only[nz,ady,adz] at th;have CZ:Below q w0 w4:=Nu.trans (th.below.mono (by have:=Uk.size;omega));refine bR (k:=0) th rfl rfl ?_;simp only[nz,ady,adz];refine qt (fun ji=>?_) (fun hmn=>?_)
   ·exact no (by rw[oQ,if_neg (fun hh=>ji hh.1)];rfl) w4 CZ
   refine bR (k:=0) th rfl rfl ?_;simp only[nz,ady,adz];refine qt (fun ji=>?_) (fun GZ=>?_)
   ·exact no (by rw[oQ,if_neg (fun hh=>ji hh.2.1)];rfl) w4 CZ
   refine bR (k:=0) th rfl rfl ?_;simp only[nz,ady,adz];have e1:adx.wrap ((j:Int)* 104)=(j:Int)* 104:=ah (by omega);have e2:adx.wrap ((size:Int) -(j:Int)* 104)=(size:Int) -(j:Int)* 104:=ah (by omega);have Qx:104* j≤size:=by
    rcases Nat.eq_zero_or_pos j with h0|h0
    ·omega
    ·have:=(H6 (n:=size) h0).2 (by omega);omega
   have e3:min2 ((size:Int) -(j:Int)* 104) 104=((min (size-104* j) 104:Nat):Int):=by unfold min2;split<;>omega
   rw[e1,e2,e3];refine qt (fun ji=>?_) (fun hds=>?_)
   ·exact no (by rw[oQ,if_neg (fun hh=>ji (by rw[hh.2.2]))];rfl) w4 CZ
   have aax:dd.size=min (size-104* j) 104:=by omega
   refine bR (k:=0) th rfl rfl ?_;simp only[nz,ady,adz];rw[if_pos ⟨hmn,GZ,aax⟩] at oQ;have hB4:R5 q q l w4:=KE hB (Uk.trans (th.below.mono Uk.size));refine⟨q,q,l,rfl,hB4,by omega,(by have:=CZ.size;omega),fun w5 hB5 Sm=>?_⟩;simp only[nz,ady,adz];have e5:adx.wrap ((j:Int)+1)=((j+1:Nat):Int):=by rw[ah (by omega)];omega
   rw[e5];have FN:dX size-(j+1)=p:=by omega
   refine⟨⟨j+1,_,rfl,by omega,?_,hB5,CZ.trans Sm,?_,?_⟩,by omega⟩
   ·rw[adD,cN];omega
   ·have:=Sm.size;have:=CZ.size;omega
   ·rw[oQ,FN];cases kj D at' number size (j+1) p<;>simp[adI]
 ·have hje:j=dX size:=by omega
  refine⟨q,q,l,rfl,hB,Y1,fun w' hb=>?_⟩;simp only[nz,ady,adz];have:=hK w' (h.pC (by rw[hq];exact Ui.trans hb));rw[oQ,hje,aeY] at this;simp only[kj,ael,adV,o0] at this;exact this
def Dh{at' to number size:Int}{K:VK}(h:St W w L)(hk:L[k]?=some (fA d D))(ik:D.Ok)(hK:∀w',St W w' L→K (o0 (take D at' to number size)) w'):fp (some ⟨d,0,none⟩) at' to number size K w:=by
 have rN:=ik.mC;have bad:(at'<0∨(D.safe.length:Int)<to∨to<at'∨size<0∨425984<size∨to-at'<(dX size.toNat:Int))→fp.j1 K size (some ⟨d,0,none⟩) at' number true w:=fun hb=>by
  unfold fp.j1;rw[jk];have:=hK w h;unfold take at this;rw[if_pos hb] at this;exact this
 unfold fp;refine dJ (fun h1=>bad (.inl h1)) (fun h1=>?_);refine kP h hk ?_;simp only[nz,ady,adz];refine dJ (fun h2=>bad (.inr (.inl h2))) (fun h2=>?_);refine dJ (fun h3=>bad (.inr (.inr (.inl h3)))) (fun h3=>?_);refine dJ (fun h4=>bad (.inr (.inr (.inr (.inl h4))))) (fun h4=>?_);refine pO (fun h5=>bad (.inr (.inr (.inr (.inr (.inl (of_decide_eq_true h5))))))) (fun h5=>?_);have h5:=of_decide_eq_false h5;obtain⟨m,rfl⟩:=adL (show 0≤size by omega);refine nP (by omega) ?_;simp only[nz,ady,adz];have ew:adx.wrap (to-at')=to-at':=ah (by omega);rw[ew];refine Ej h hk ik (fun hb=>?_) (by omega) fun w' hs=>?_
 ·have:=of_decide_eq_false hb;omega
 ·have:=hK w' hs;unfold take at this;rw[adB] at this;by_cases h6:to-at'<(dX m:Int)
  ·rw[if_pos (by omega)] at this;have e:decide ((dX m:Int)>to-at')=true:=decide_eq_true (by omega);rw[e,if_pos rfl];exact this
  ·rw[if_neg (by omega)] at this;have e:decide ((dX m:Int)>to-at')=false:=decide_eq_false (by omega);rw[e,if_neg ae4];exact this
end
def Jg{at' number:Int}{s:BA}(mP:1≤number∧number≤1152921504606846976)(vE:0≤at'):∀(n i:Nat) {D:aA},D.arm=0→at'+i+n≤D.safe.length→i+n≤4096→
 (mm at' number s D i n).2=0∧(mm at' number s D i n).1.arm=0∧(mm at' number s D i n).1.safe=D.safe∧(mm at' number s D i n).1.later.length=D.later.length+n∧
 ∀j:Int,(j<at'+i∨at'+i+n≤j)→(mm at' number s D i n).1.now j=D.now j
 |0,i,D,ha,hr,hi=>⟨rfl,ha,rfl,rfl,fun _ _=>rfl⟩
 |n+1,i,D,ha,hr,hi=>by
  have hg:Good number i (part s i):=⟨mP.1,mP.2,by omega,by omega,ko s i⟩;have oE:=pY hg;have hi:D.is (at'+i):=⟨by omega,by omega⟩;have uK: ¬(¬D.is (at'+i)∨128<(leaf number i (part s i)).size):=by
   rintro(hh|hh)
   ·exact hh hi
   ·omega
  have hw:D.write (at'+i) (leaf number i (part s i))=({Go.bI.aA.tick D with later:=D.later++[(at'+i,aA.pad (leaf number i (part s i)))]},0):=by
   rw[Dk.Dm ha,if_neg uK]
  have hn:=fun j=>Dk.AK ha (at'+i) j (leaf number i (part s i));unfold mm;have h0:(D.write (at'+i) (leaf number i (part s i))).2=0:=by rw[hw]
  rw[if_neg (by rw[h0];exact fun hh=>hh rfl)];have hlen:(D.write (at'+i) (leaf number i (part s i))).1.later.length=D.later.length+1:=by rw[hw];simp
  have pw:=(oI D (at'+i) (leaf number i (part s i))).1;have QF:=Dk.zO ha (at'+i) (leaf number i (part s i));have ih:=Jg mP vE (s:=s) n (i+1) (D:=(D.write (at'+i) (leaf number i (part s i))).1) QF (by rw[pw];omega) (by omega);refine⟨ih.1,ih.2.1,ih.2.2.1.trans pw,by rw[ih.2.2.2.1,hlen];omega,fun j hj=>?_⟩;rw[ih.2.2.2.2 j (by omega),hn j,if_neg (fun hh=>by have:=hh.2;omega)]
section
variable {W w:World} {L:LH}
end
def Ic(m i:Nat)(hi:i<8):(byteOf .i64 (m:Int) i).toNat=m/256^i%256:=by
 have hp:(256:Nat)^i=2^(8* i):=by rw[show(256:Nat)=2^8 from rfl,←Nat.pow_mul]
 have e1:shr .i64 (m:Int) (8* (i:Int))=((m/256^i:Nat):Int):=by
  unfold shr;have h1:(8* (i:Int)).toNat=8* i:=by omega
  have h2:min (8* i) adx.bits=8* i:=by show min (8* i) 64=_;omega
  rw[h1,h2,hp,Int.fdiv_eq_ediv_of_nonneg _ (Int.le_of_lt (Int.pow_pos (by decide)))]
  push_cast
  rfl
 have e2:IntKind.u8.wrap ((m/256^i:Nat):Int)=((m/256^i%256:Nat):Int):=by
  generalize m/256^i=z;simp[IntKind.wrap,IntKind.bits,IntKind.signed]
 unfold byteOf;rw[e1,e2,adB,UInt8.toNat_ofNat_of_lt' (Nat.mod_lt _ (by decide))]
def le_succ(k:IntKind)(w:Nat)(n:Int):le k (w+1) n=le k w n++[byteOf k n w]:=by
 unfold le;rw[List.range_succ,ad8];rfl
def oe(m:Nat):∀w,w≤8→kQ (le .i64 w (m:Int))=m%256^w
 |0,_=>by simp[le,kQ,Nat.mod_one]
 |w+1,h=>by
  rw[le_succ,ph,oe m w (by omega),Ic m w (by omega),aB,Nat.mod_pow_succ,ae']
def mj{n:Int}(h:0≤n∧n≤1152921504606846976):kH (le .i64 8 n)=n:=by
 obtain⟨m,rfl⟩:=adL h.1;unfold kH;rw[oe m 8 (by omega)];have h8:(256:Nat)^8=18446744073709551616:=rfl;rw[h8,aej (by omega),ah (by omega)]
def EJ{m:Nat}(h:m<65536):kQ (le .i64 2 (m:Int))=m:=by
 rw[oe m 2 (by omega)];exact aej h
def lY{n i:Int}{s:BA}(h:Good n i s):jH (jR n i s)=some (n,i,s):=by
 obtain⟨h1,h2,h3,h4,h5⟩:=h;have hl:(jR n i s).length=128:=sx h5;have LF:(pre n i s).length=116:=nI h5;have hd:s.data.toList.length=s.size:=rfl;have hc:(ri (po 0 (pre n i s))).length=4:=aB _ _ _;have sF:jR n i s=le .i64 8 n++(le .i64 2 i++(le .i64 2 s.size++(s.data.toList++(adQ (104-s.size) 0++(ri (po 0 (pre n i s))++le .i64 8 n))))):=by
  simp only[jR,pre,adI]
 have t120:(jR n i s).take 120=pre n i s++ri (po 0 (pre n i s)):=by
  unfold jR;rw[List.take_append_of_le_length (by rw[adD,LF,hc];omega),adS (by rw[adD,LF,hc];omega)]
 have hh:pG ((jR n i s).take 120)=true:=by
  rw[t120];unfold pG;have hlen:(pre n i s++ri (po 0 (pre n i s))).length=120:=by rw[adD,LF,hc]
  rw[hlen,show 120-4=(pre n i s).length from by rw[LF],List.take_left,List.drop_left,beq_self_eq_true]
  rfl
 have tl:∀(a b:List UInt8)(m:Nat),a.length=m→(a++b).take m=a:=fun a b m hm=>by subst hm;exact List.take_left
 have dl:∀(a b:List UInt8)(m:Nat),a.length=m→(a++b).drop m=b:=fun a b m hm=>by subst hm;exact List.drop_left
 have d8:(jR n i s).drop 8=le .i64 2 i++(le .i64 2 s.size++(s.data.toList++(adQ (104-s.size) 0++(ri (po 0 (pre n i s))++le .i64 8 n)))):=by rw[sF,dl _ _ _ (aB _ _ _)]
 have d10:((jR n i s).drop 8).drop 2=le .i64 2 s.size++(s.data.toList++(adQ (104-s.size) 0++(ri (po 0 (pre n i s))++le .i64 8 n))):=by rw[d8,dl _ _ _ (aB _ _ _)]
 have hr:jY (jR n i s)=s.data.toList++(adQ (104-s.size) 0++(ri (po 0 (pre n i s))++le .i64 8 n)):=by unfold jY;rw[d10,dl _ _ _ (aB _ _ _)]
 have eN:sN (jR n i s)=n:=by unfold sN;rw[sF,tl _ _ _ (aB _ _ _),mj ⟨by omega,h2⟩]
 have eI:sI (jR n i s)=i:=by
  unfold sI;rw[d8,tl _ _ _ (aB _ _ _),kX (by rw[aB];omega)];obtain⟨m,rfl⟩:=adL h3;rw[EJ (by omega)]
 have eM:sM (jR n i s)=s.size:=by
  unfold sM;rw[d10,tl _ _ _ (aB _ _ _),EJ (by omega)]
 have eD:sD (jR n i s)=s.data.toList:=by unfold sD;rw[eM,hr,tl _ _ _ hd]
 have dr:(jY (jR n i s)).drop s.size=adQ (104-s.size) 0++(ri (po 0 (pre n i s))++le .i64 8 n):=by rw[hr,dl _ _ _ hd]
 have eZ:sZ (jR n i s)=adQ (104-s.size) 0:=by unfold sZ;rw[eM,dr,tl _ _ _ (by simp)]
 have eT:yh (jR n i s)=n:=by
  unfold yh;rw[eM,dr,dl _ _ _ (by simp),dl _ _ _ hc,adS (by rw[aB];omega),mj ⟨by omega,h2⟩]
 have hg:Good (sN (jR n i s)) (sI (jR n i s)) (bs (sD (jR n i s))):=by
  rw[eN,eI,eD,JE];exact⟨h1,h2,h3,h4,h5⟩
 unfold jH;rw[if_neg (fun hx=>hx hl),if_neg (by rw[hh];exact ae4),if_neg (by rw[eM];omega),if_neg (fun hx=>hx (by rw[eT,eN])),if_neg (fun hx=>hx (by rw[eZ];simp)),if_neg (fun hx=>hx hg),eN,eI,eD,JE]
def tF:jH (kv 128).data.toList=none:=by decide+kernel
def I7{s:BA}(h:s.size=128):aA.pad s=s:=by
 unfold aA.pad;rw[h];apply je;rw[ByteArray.data_append,Array.toList_append];simp[kv]
def Jf{at' number:Int}{s:BA}(mP:1≤number∧number≤1152921504606846976)(vE:0≤at'):∀(n i:Nat) {D:aA},D.arm=0→at'+i+n≤D.safe.length→i+n≤4096→
 ∀q,i≤q→q<i+n→(mm at' number s D i n).1.now (at'+q)=leaf number q (part s q)
 |0,i,D,ha,hr,hi,q,h1,h2=>by omega
 |n+1,i,D,ha,hr,hi,q,h1,h2=>by
  have hg:Good number i (part s i):=⟨mP.1,mP.2,by omega,by omega,ko s i⟩;have oE:=pY hg;have qA:D.is (at'+i):=⟨by omega,by omega⟩;have uK: ¬(¬D.is (at'+i)∨128<(leaf number i (part s i)).size):=by
   rintro(hh|hh)
   ·exact hh qA
   ·omega
  have hw:D.write (at'+i) (leaf number i (part s i))=({Go.bI.aA.tick D with later:=D.later++[(at'+i,aA.pad (leaf number i (part s i)))]},0):=by
   rw[Dk.Dm ha,if_neg uK]
  have h0:(D.write (at'+i) (leaf number i (part s i))).2=0:=by rw[hw]
  have pw:=(oI D (at'+i) (leaf number i (part s i))).1;have QF:=Dk.zO ha (at'+i) (leaf number i (part s i));unfold mm;rw[if_neg (by rw[h0];exact fun hh=>hh rfl)];by_cases hq:q=i
  ·subst hq;have:=(Jg mP vE (s:=s) n (q+1) (D:=(D.write (at'+q) (leaf number q (part s q))).1) QF (by rw[pw];omega) (by omega)).2.2.2.2 (at'+q) (by omega);rw[this,Dk.AK ha,if_pos ⟨⟨qA,by omega⟩,rfl⟩,I7 oE]
  ·exact Jf mP vE (s:=s) n (i+1) QF (by rw[pw];omega) (by omega) q (by omega) (by omega)
def wZ{D:aA}{at' number:Int}{size:Nat}{s:BA}:∀(n i:Nat),(∀q,i≤q→q<i+n→jH (D.read (at'+q)).1.data.toList=some (number,(q:Int),part s q)∧(part s q).size=min (size-104* q) 104)→
 kj D at' number size i n=some ((s.data.toList.drop (104* i)).take (104* n))
 |0,i,_=>by simp[kj]
 |n+1,i,h=>by
  obtain⟨h1,h2⟩:=h i (adG _) (by omega);rw[lX,h1];dsimp only;rw[if_pos ⟨rfl,rfl,h2⟩,wZ n (i+1) (fun q hq Qr=>h q (by omega) (by omega))];have e:(part s i).data.toList=(s.data.toList.drop (104* i)).take 104:=by
   unfold part;rw[extract_toList];congr 1;omega
  rw[e,ael]
  congr 1
  rw[show 104* (n+1)=104+104* n from by omega,List.take_add,aeK,show 104* i+104=104* (i+1) from by omega]
section
variable {W w:World} {L:LH}
end
section
variable {W w:World} {L:LH}
end
end Go.Sep
namespace Go.Up
open Go.Sep Go.Den Go.RowKit Go.Prog Go.Md
def wF{α:Type}{f:α→LV}{e:Nat}(hf:∀x,(f x).length=e):∀l:List α,(l.flatMap f).length=l.length* e
 |[]=>by simp
 |x::l=>by rw[aeo,adD,hf,wF hf l,adW,aeU];omega
def ov{α:Type}{f:α→LV}{e:Nat}(hf:∀x,(f x).length=e):∀(l:List α)(i:Nat)(x:α),l[i]?=some x→∀j v,(f x)[j]?=some v→(l.flatMap f)[i* e+j]?=some v
 |[],i,x,h,j,v,hj=>by simp at h
 |y::l,0,x,h,j,v,hj=>by
  simp at h;subst h;rw[aeo,Nat.zero_mul,adE,adY (adC.1 hj).1];exact hj
 |y::l,i+1,x,h,j,v,hj=>by
  rw[aeo,aea (by rw[hf,aeU];omega),hf,show(i+1)* e+j-e=i* e+j by rw[aeU];omega];exact ov hf l i x (by simpa using h) j v hj
def Bb{α:Type}{f:α→LV}{e:Nat}(hf:∀x,(f x).length=e):∀(l:List α)(i:Nat)(x:α),i<l.length→over (l.flatMap f) (i* e) (f x)=(l.set i x).flatMap f
 |[],i,x,h=>by simp at h
 |y::l,0,x,h=>by
  unfold over;rw[aeo,Nat.zero_mul,ae0,aed,hf,adE,List.drop_left' (hf y)];rfl
 |y::l,i+1,x,h=>by
  have ih:=Bb hf l i x (by simpa using h);unfold over at ih⊢;rw[aeo,aeP,aeo,←ih,hf,show(i+1)* e=(f y).length+i* e by rw[hf,aeU];omega,List.take_append,adS (by omega),
   show(f y).length+i* e-(f y).length=i* e by omega,Nat.add_assoc,List.drop_append,aeh (by omega),show(f y).length+(i* e+e) -(f y).length=i* e+e by omega]
  simp
def tI(n:Nat):(nm n).length=2:=rfl
def lC(n:Nat):∀v∈nm n,v.oneCell'=true:=fun v h=>by simp[nm] at h;rcases h with rfl|rfl<;>rfl
section
variable {W:World} {L:LH} {K:VK} {a b n:Nat}
def pn{r m e:Nat}{i:Int}{K:Addr→WK}(hi:0≤i∧i<m)(h:T W L (K ⟨r,i.toNat* e,none⟩)):T W L (iO (some ⟨r,0,none⟩) m i e K):=fun w hs=>
 ⟨_,rfl,hi,by rw[ft,adE];exact h w hs⟩
def V3{α:Type}{r o e:Nat}{l:List α}{x:α}{g:α→LV}{f:LV→LH}{K:LV→WK}[i:Lc (pt r) L (l.flatMap g) f](hf:∀x,(g x).length=e)(hx:l[o]?=some x)(h:T W L (K (g x))):T W L (aj ⟨r,o* e,none⟩ e K):=fun w hs=>
 let⟨_,hk,_⟩:=i.at_;iG hs hk (hf x) (ov hf l o x hx) (h w hs)
def ye:Nat→List Nat→Option Nat
 |s,[]=>some s
 |s,x::l=>if s+x<aO then ye (s+x) l else none
abbrev Zw(o:Option Nat):Value:=.tuple ⟨[.agg ⟨nm (o.getD 0)⟩,.bool o.isSome]⟩
def Sz{r c:Nat}{l:List Nat}{f:LV→LH}(hl:∀x∈l,x<aO)(hlen:l.length<1000)[i:Lc (pt r) L (l.flatMap nm) f](h:T W L (K (Zw (ye 0 l)))):T W L (pf (some ⟨r,0,none⟩) l.length c K):=by
 unfold pf
 repeat' first|apply ww|apply wm;intro _|apply wb
 rename_i r1 r2;intro w hs;refine⟨fun vs w=>∃i s:Nat,i≤l.length∧s<aO∧ye 0 l=ye s (l.drop i)∧vs=[.p (some (ad r1 0)),.bool false,.p (some (ad r2 0)),.l (some ⟨r,0,none⟩) l.length c,.i (l.length:Int),.i (i:Int)]∧St W w (pt r2 (nm s)::pt r1 (nm 0)::L),
  fun vs _=>match vs with|[_,_,_,_,_,.int _ j]=>l.length-j.toNat|_=>0,⟨0,0,adK _,by decide,rfl,rfl,hs⟩,?_⟩
 rintro a1 b1 a2 uF qg uE n1 n2 w2 ⟨i,s,hi,hsM,he,e,hs⟩;cases e
 refine T.at ?_ hs;refine az (fun h1=>?_) (fun h1=>?_)
 ·have a8:i<l.length:=by simpa using h1
  refine pn (by omega) ?_;rw[adB];refine V3 tI (adA a8) ?_;have hx:=hl _ (adZ a8);have hd:l.drop i=l[i]::l.drop (i+1):=aef a8;rw[hd] at he;generalize l[i]=x at *;have qz:ye s (x::l.drop (i+1))=if s+x<aO then ye (s+x) (l.drop (i+1)) else none:=rfl
  rw[qz] at he
  repeat' first|apply ww|apply wm;intro _|apply wb|with_reducible first|refine yQ hsM hx ?_|refine az (fun h1=>?_) (fun h1=>?_)|fail
  ·have h2: ¬s+x<aO:=by simpa using h1
   rw[if_neg h2] at he;rw[he] at h;exact T.dp h
  ·have h2:s+x<aO:=by simpa using h1
   rw[if_pos h2] at he;rw[if_pos h2];have e5:adx.wrap ((i:Int)+1)=((i+1:Nat):Int):=by rw[ah (by omega)];omega
   rw[e5];refine T.drop fun w3 h3=>⟨⟨i+1,s+x,a8,h2,he,rfl,h3⟩,?_⟩;show l.length-((i+1:Nat):Int).toNat<l.length-(i:Int).toNat;omega
 ·have iM:i=l.length:=by have:=of_decide_eq_false h1;omega
  subst iM;rw[aeh (adG _)] at he;rw[he] at h
  repeat' first|apply ww|apply wm;intro _|apply wb
  exact T.dp h
end
end Go.Up
namespace Go.Sep
open Go.Den Go.RowKit Go.Prog Go.bI
section
variable {W w:World} {L:LH}
end
def EK:∀(a b:List UInt8),a.length=b.length→kQ a=kQ b→a=b
 |[],[],_,_=>rfl
 |[],_::_,h,_=>by simp at h
 |_::_,[],h,_=>by simp at h
 |c::a,d::b,h,hv=>by
  have hc:=c.toNat_lt;have hd:=d.toNat_lt;simp only[kQ] at hv;have h1:c.toNat=d.toNat:=by omega
  rw[EK a b (by simpa using h) (by omega),UInt8.toNat_inj.1 h1]
def Hm{l:List UInt8}{n j:Int}{d:BA}(h:jH l=some (n,j,d)):l.length=128∧sM l≤104∧yh l=sN l∧n=sN l∧j=sI l∧Good (sN l) (sI l) (bs (sD l)):=by
 unfold jH at h;split at h
 ·cases h
 rename_i h1;split at h
 ·cases h
 split at h
 ·cases h
 rename_i h3;split at h
 ·cases h
 rename_i h4;split at h
 ·cases h
 split at h
 ·cases h
 rename_i h6;cases h
 exact⟨adO.1 h1,by omega,adO.1 h4,rfl,rfl,adO.1 h6⟩
def MF{l:List UInt8}(h:sM l≤104)(hl:l.length=128):yh l=kH (l.drop 120):=by
 unfold yh jY;rw[aeK,aeK,aeK,aeK,aeK,adS (by rw[adM];omega)]
 congr 2
 omega
def Fs{D:aA}:∀j i:Nat,i<j→numOf (xE (D.read (i:Int)).1)≤cV D j∧numOf (wY (D.read (i:Int)).1)≤cV D j
 |0,i,h=>by omega
 |j+1,i,h=>by
  have hm:∀a b:Int,a≤max2 a b∧b≤max2 a b:=fun a b=>by unfold max2;split<;>omega
  simp only[cV];have h1:=hm (max2 (cV D j) (numOf (xE (D.read (j:Int)).1))) (numOf (wY (D.read (j:Int)).1));have h2:=hm (cV D j) (numOf (xE (D.read (j:Int)).1));by_cases GZ:i=j
  ·subst GZ;exact⟨by omega,by omega⟩
  ·have:=Fs (D:=D) j i (by omega);exact⟨by omega,by omega⟩
def Ft(s:BA):0≤numOf s∧numOf s≤1152921504606846976:=by unfold numOf;split<;>omega
def sK(D:aA):∀j,0≤cV D j∧cV D j≤1152921504606846976
 |0=>by simp[cV]
 |j+1=>by
  have h1:=sK D j;have h2:=Ft (xE (D.read (j:Int)).1);have h3:=Ft (wY (D.read (j:Int)).1);simp only[cV];unfold max2;split<;>split<;>omega
def low(w:Int):Int:=bG .i64 .and w 1
def Jc(w:Int):low w=(((BitVec.ofInt 64 w).toNat%2:Nat):Int):=by
 have e2:(BitVec.ofInt 64 1).toNat=1:=rfl;show adx.wrap (((BitVec.ofInt 64 w&&&BitVec.ofInt 64 1).toNat:Nat):Int)=_;rw[BitVec.toNat_and,e2,Nat.and_one_is_mod,ah (by omega)]
def re(w:Int):low w=0∨low w=1:=by rw[Jc];omega
def bN(n:Nat):Nat:=(n-2)* 2/5
def de(n:Nat):LV:=[.i 2,.i (2+bN n:Nat),.i (bN n:Nat),.i (2+2* bN n:Nat),.i n]
def cU(n:Nat)(which:Int):Nat:=if low which=0 then 2 else 2+bN n
def my{n:Nat}(h:12≤n)(w:Int):2≤cU n w∧cU n w+bN n≤n∧4≤bN n:=by
 unfold cU bN;split<;>omega
def Hf{n:Nat}(w v:Int)(h:low w≠low v):cU n w+bN n≤cU n v∨cU n v+bN n≤cU n w:=by
 unfold cU;rcases re w with a|a<;>rcases re v with b|b<;>rw[a,b] at h⊢<;>simp at h⊢
def put(D:aA)(n:Nat)(which number:Int)(s:BA):aA×Int:=
 if(lay D (cU n which) ((cU n which+bN n:Nat):Int) number s).2≠0 then lay D (cU n which) ((cU n which+bN n:Nat):Int) number s
 else(lay D (cU n which) ((cU n which+bN n:Nat):Int) number s).1.sync
def get(D:aA)(n:Nat)(which number size:Int):Option (List UInt8):=take D (cU n which) ((cU n which+bN n:Nat):Int) number size
section
variable {W w:World} {L:LH} {k d:Nat} {D:aA}
def Rs{n:Nat}{K:VK}(h:St W w L)(nA:12≤n)(bZ:n≤4096)(hK:∀w',St W w' L→K (.tuple ⟨[.agg ⟨de n⟩,.i 0]⟩) w'):nw n K w:=by
 unfold nw;refine ic h fun r w hs=>?_;have e1:decide ((n:Int)<12)=false:=decide_eq_false (by omega);have e2:decide ((n:Int)>4096)=false:=decide_eq_false (by omega);rw[e1,e2];unfold nw.j1;have a1:adx.wrap ((n:Int) -2)=((n-2:Nat):Int):=by rw[ah (by omega)];omega
 have a2:adx.wrap (((n-2:Nat):Int)* 2)=(((n-2)* 2:Nat):Int):=by rw[ah (by omega)];omega
 have a3:(((n-2)* 2:Nat):Int).tdiv 5=((bN n:Nat):Int):=by rw[Int.tdiv_eq_ediv_of_nonneg (by omega)];rfl
 have hp:bN n≤4096:=by unfold bN;omega
 have a4:adx.wrap ((bN n:Nat):Int)=((bN n:Nat):Int):=ah (by omega);have a5:adx.wrap (2+((bN n:Nat):Int))=((2+bN n:Nat):Int):=by rw[ah (by omega)];omega
 have a6:adx.wrap (2* ((bN n:Nat):Int))=((2* bN n:Nat):Int):=by rw[ah (by omega)];omega
 have a7:adx.wrap (2+((2* bN n:Nat):Int))=((2+2* bN n:Nat):Int):=by rw[ah (by omega)];omega
 rw[a1,a2,a3,a4,a5,a6,a7];simp only[nz,ady,adz];refine⟨by decide,?_⟩;refine iU (k:=0) hs rfl (adH rfl) (by simp[Value.oneCell']) fun w hs=>?_;rw[fZ (by simp)] at hs;refine iG (k:=0) (xs:=de n) hs rfl rfl (fun j v hj=>by rw[adE];exact hj) ?_;exact hK w hs.drop
def zJ{n:Nat}{which:Int}{K:VK}(h:St W w L)(hK:∀w',St W w' L→K (.i (cU n which:Nat)) w'):jh (de n) which K w:=by
 unfold jh;refine ic h fun r w hs=>?_;simp only[nz,ady,adz];refine bR (k:=0) hs rfl rfl ?_;simp only[nz,ady,adz];refine bR (k:=0) hs rfl rfl ?_;simp only[nz,ady,adz];have hl:=re which;have hh:=hK w hs.drop;unfold cU at hh;show yq _ 2 (low which) _ w;rcases hl with h0|h0
 ·rw[if_pos h0] at hh;rw[h0];refine⟨_,⟨by decide,by decide,rfl⟩,?_⟩;simp only[nz,ady,adz];exact hh
 ·rw[if_neg (by omega)] at hh;rw[h0];refine⟨_,⟨by decide,by decide,rfl⟩,?_⟩;simp only[nz,ady,adz];exact hh
def Ow{n:Nat}{which number:Int}{s:BA}{K:VK}(h:St W w L)(hk:L[k]?=some (fA d D))(ik:D.Ok)(nA:12≤n)(bZ:n≤4096)(hl:D.later.length+5000<1099511627776)(hs:s.size≤reachBytes)
 (hK:∀w',St W w' (L.set k (fA d (put D n which number s).1))→K (.i (put D n which number s).2) w'):jN (de n) (some ⟨d,0,none⟩) which number s K w:=by
 have A5:=my nA which;unfold jN;refine ic h fun r w dh=>?_;have oE:=hs;simp only[nz,ady,adz];refine kA dh fun w hs=>?_;refine iG (k:=0) (xs:=de n) hs rfl rfl (fun j v hj=>by rw[adE];exact hj) ?_;refine iG (k:=0) (xs:=de n) hs rfl rfl (fun j v hj=>by rw[adE];exact hj) ?_;refine bR (k:=0) hs rfl rfl ?_;simp only[nz,ady,adz];refine zJ hs fun w hs=>?_;simp only[nz,ady,adz];refine iV (k:=0) hs rfl rfl ?_;refine Jh (k:=0) hs rfl (fun j v hj=>by rw[adE];exact hj) ?_;refine zJ hs fun w hs=>?_;simp only[nz,ady,adz];refine iV (k:=0) hs rfl rfl ?_;have ew:adx.wrap (((cU n which:Nat):Int)+((bN n:Nat):Int))=((cU n which+bN n:Nat):Int):=by rw[ah (by omega)];omega
 rw[ew];have rj:(pt r (de n)::L)[k+1]?=some (fA d D):=by rw[adR];exact hk
 refine BE (k:=k+1) hs rj ik (by omega) oE fun w hs=>?_;rw[aeP] at hs;simp only[nz,ady,adz];refine iV (k:=0) hs rfl rfl ?_;unfold put at hK;have KO:(lay D (cU n which) ((cU n which+bN n:Nat):Int) number s).1.Ok∨(lay D (cU n which) ((cU n which+bN n:Nat):Int) number s).2≠0:=by
  by_cases hc:dX s.size≤4097
  ·exact .inl (DP ik (by omega)).1
  ·refine .inr ?_;unfold lay;split
   ·simp
   ·rw[if_pos (by omega)];simp
 refine qt (fun ji=>?_) (fun h0=>?_)
 ·rw[if_pos ji] at hK;exact hK w hs.drop
 ·rw[if_neg (fun hh=>hh h0)] at hK;refine qy (k:=k+1) hs (by rw[adR];exact iF hk) (KO.resolve_right (fun hh=>hh h0)) fun w hs=>?_;rw[aeP,aeO] at hs;simp only[nz,ady,adz];exact hK w hs.drop
def OE{n:Nat}{which number size:Int}{K:VK}(h:St W w L)(hk:L[k]?=some (fA d D))(ik:D.Ok)(nA:12≤n)(bZ:n≤4096)
 (hK:∀w',St W w' L→K (o0 (get D n which number size)) w'):jO (de n) (some ⟨d,0,none⟩) which number size K w:=by
 have A5:=my nA which;unfold jO;refine ic h fun r w dh=>?_;simp only[nz,ady,adz];refine kA dh fun w hs=>?_;refine iG (k:=0) (xs:=de n) hs rfl rfl (fun j v hj=>by rw[adE];exact hj) ?_;refine iG (k:=0) (xs:=de n) hs rfl rfl (fun j v hj=>by rw[adE];exact hj) ?_;refine bR (k:=0) hs rfl rfl ?_;simp only[nz,ady,adz];refine zJ hs fun w hs=>?_;simp only[nz,ady,adz];refine iV (k:=0) hs rfl rfl ?_;refine Jh (k:=0) hs rfl (fun j v hj=>by rw[adE];exact hj) ?_;refine zJ hs fun w hs=>?_;simp only[nz,ady,adz];refine iV (k:=0) hs rfl rfl ?_;have ew:adx.wrap (((cU n which:Nat):Int)+((bN n:Nat):Int))=((cU n which+bN n:Nat):Int):=by rw[ah (by omega)];omega
 rw[ew];refine Dh (k:=k+1) hs (by rw[adR];exact hk) ik fun w hs=>?_;unfold get at hK;cases hg:take D (cU n which) ((cU n which+bN n:Nat):Int) number size with
 |none=>
  rw[hg] at hK;unfold o0 at hK⊢;simp only[nz,ady,adz];refine iV (k:=0) hs rfl rfl ?_;exact hK w hs.drop
 |some l=>
  rw[hg] at hK;unfold o0 at hK⊢;simp only[nz,ady,adz];refine iV (k:=0) hs rfl rfl ?_;exact hK w hs.drop
end
structure Calm(n:Nat)(D:aA):Prop where
 ok:D.Ok
 arm:D.arm=0
 later:D.later.length≤1000
 len:D.safe.length=n
def wP{n:Nat}(h:n≤4096):Calm n (aA.new n):=by
 refine⟨Tz n,rfl,adK _,?_⟩;simp only[aA.new,aeH];have:min2 (max2 (n:Int) 0) 4096=n:=by unfold min2 max2;split<;>split<;>omega
 rw[this];omega
def tJ{n:Nat}(h:n≤4096){j:Nat}(hj:j<n):((aA.new n).read (j:Int)).1=kv 128:=by
 have hc:=wP h;rw[ui (D:=aA.new n) rfl (i:=j) (by rw[hc.len];exact hj)];simp[aA.new]
def QJ{n:Nat}{D:aA}{which number:Int}{s:BA}(hlen:D.safe.length=n)(nA:12≤n)(bZ:n≤4096)(mP:1≤number∧number≤1152921504606846976)(hl:dX s.size≤bN n)
 (hr:∀q:Nat,q<dX s.size→(D.read (((cU n which:Nat):Int)+q)).1=leaf number q (part s q)):get D n which number s.size=some s.data.toList:=by
 have A5:=my nA which;have hb:s.size≤104* dX s.size:=by unfold dX;split<;>omega
 have OW:∀q:Nat,(part s q).size=min (104* (q+1)) s.size-104* q:=fun q=>by unfold part;rw[rB]
 unfold get take;rw[if_neg (by rw[hlen,adB];omega),adB,wZ (s:=s) (dX s.size) 0 (fun q _ hq=>by
  rw[hr q (by omega)]
  have hg:Good number q (part s q):=⟨mP.1,mP.2,by omega,by omega,ko s q⟩
  unfold leaf
  rw[if_pos hg]
  exact⟨lY hg,by rw[OW];omega⟩)]
 congr 1
 rw[Nat.mul_zero,aeJ,adS (by rw[cN];exact hb)]
section
variable {W w:World} {L:LH}
end
section
variable {W w:World} {L:LH}
def Lx{n m:Nat}{K:VK}(h:St W w L)(hm:m<1099511627776000)(hK:∀w',St W w' L→K (.bool (decide (dX m≤bN n))) w'):jn (de n) m K w:=by
 unfold jn;refine ic h fun r w hs=>?_;refine kA hs fun w hs=>?_;refine dJ (fun _=>?_) (fun hh=>by omega);refine bR (k:=0) hs rfl rfl ?_;simp only[nz,ady,adz];refine nP (by omega) ?_;simp only[nz,ady,adz];refine iV (k:=0) hs rfl rfl ?_;have e:decide (((dX m:Nat):Int)≤((bN n:Nat):Int))=decide (dX m≤bN n):=by rw[decide_eq_decide];omega
 rw[e];exact hK w hs.drop
end
def Zl(old new X:BA):Prop:=X=old∨X=new∨∃c,c≤128∧X=new.extract 0 c++old.extract c old.size
def yF(mask torn x:Int)(hx:0≤x∧x≤128)(safe:List BA)(later:List (Int×BA))(hn:(later.map (·.1.toNat)).Nodup)(hp:∀p∈later,0≤p.1∧p.1<safe.length)(i:Nat)(hi:i<safe.length):
 ∀j,j≤later.length→((∀k,k<j→∀p,later[k]?=some p→p.1.toNat≠i)∧(crashed mask torn x safe later j)[i]?=safe[i]?)∨
  ∃k p,k<j∧later[k]?=some p∧p.1.toNat=i∧∃X,(crashed mask torn x safe later j)[i]?=some X∧Zl (safe.getD i .empty) p.2 X
 |0,_=>.inl ⟨fun k hk=>by omega,rfl⟩
 |j+1,hj=>by
  have a8:j<later.length:=by omega
  have wA:later[j]?=some later[j]:=adA a8;have ih:=yF mask torn x hx safe later hn hp i hi j (by omega);simp only[crashed,wA];have hlen:i<(crashed mask torn x safe later j).length:=by rw[ju];exact hi
  by_cases GU:(later[j]).1.toNat=i
  ·
   have tP:(crashed mask torn x safe later j)[i]?=safe[i]?:=by
    rcases ih with⟨_,h⟩|⟨k,p,hk,OZ,Qs,_⟩
    ·exact h
    ·exfalso;have rj:k<later.length:=by omega
     have e1:(later.map (·.1.toNat))[k]?=some i:=by rw[aen,OZ];simp[Qs]
     have e2:(later.map (·.1.toNat))[j]?=some i:=by rw[aen,wA];simp[GU]
     have:=(List.getElem?_inj (by simpa using rj) hn).1 (e1.trans e2.symm);omega
   have vj:(crashed mask torn x safe later j).getD i .empty=safe.getD i .empty:=by
    rw[aeD,tP,←aeD]
   refine .inr ⟨j,later[j],by omega,wA,GU,?_⟩;unfold aA.pR;rw[GU];split
   ·refine⟨_,List.getElem?_set_self hlen,.inr (.inr ⟨x.toNat,by omega,?_⟩)⟩;rw[vj]
   ·split
    ·exact⟨_,List.getElem?_set_self hlen,.inr (.inl rfl)⟩
    ·refine⟨safe[i],by rw[tP];exact adA hi,.inl ?_⟩;simp[hi]
  ·have AX:(aA.pR mask torn x (crashed mask torn x safe later j) j later[j])[i]?=(crashed mask torn x safe later j)[i]?:=by
    unfold aA.pR;split
    ·rw[List.getElem?_set_ne GU]
    ·split
     ·rw[List.getElem?_set_ne GU]
     ·rfl
   rw[AX];rcases ih with⟨h1,h2⟩|⟨k,p,hk,OZ,Qs,X,hX⟩
   ·refine .inl ⟨fun k hk p OZ=>?_,h2⟩;by_cases hkj:k=j
    ·subst hkj;rw[wA] at OZ;cases OZ
     exact GU
    ·exact h1 k (by omega) p OZ
   ·exact .inr ⟨k,p,by omega,OZ,Qs,X,hX⟩
def FG{at' number:Int}{s:BA}(mP:1≤number∧number≤1152921504606846976)(vE:0≤at'):∀(n i:Nat) {D:aA},at'+i+n≤D.safe.length→i+n≤4096→
 ∃m,m≤n∧(mm at' number s D i n).1.later=D.later++((List.range' i m).map fun q:Nat=>(at'+(q:Int),aA.pad (leaf number q (part s q))))∧(mm at' number s D i n).1.safe=D.safe∧((mm at' number s D i n).2=0→m=n)
 |0,i,D,hr,hi=>⟨0,adG _,by simp[mm],rfl,fun _=>rfl⟩
 |n+1,i,D,hr,hi=>by
  have hg:Good number i (part s i):=⟨mP.1,mP.2,by omega,by omega,ko s i⟩;have oE:=pY hg;have qA:D.is (at'+i):=⟨by omega,by omega⟩;have uK: ¬(¬D.is (at'+i)∨128<(leaf number i (part s i)).size):=by
   rintro(hh|hh)
   ·exact hh qA
   ·omega
  have pw:=(oI D (at'+i) (leaf number i (part s i))).1;have hw:D.write (at'+i) (leaf number i (part s i))=if D.qP then(D.tick,8) else({Go.bI.aA.tick D with later:=D.later++[(at'+i,aA.pad (leaf number i (part s i)))]},0):=by
   unfold aA.write;rw[if_neg uK]
  unfold mm;cases hf:D.qP with
  |true=>
   rw[hf,if_pos rfl] at hw;rw[hw,if_pos (by simp)];exact⟨0,adK _,by simp[aA.tick],rfl,fun h=>by simp at h⟩
  |false=>
   rw[hf,if_neg ae4] at hw;have h0:(D.write (at'+i) (leaf number i (part s i))).2=0:=by rw[hw]
   have xC:(D.write (at'+i) (leaf number i (part s i))).1.later=D.later++[(at'+i,aA.pad (leaf number i (part s i)))]:=by rw[hw]
   rw[if_neg (by rw[h0];exact fun hh=>hh rfl)];obtain⟨m,h1,h2,h3,h4⟩:=FG mP vE (s:=s) n (i+1) (D:=(D.write (at'+i) (leaf number i (part s i))).1) (by rw[pw];omega) (by omega);refine⟨m+1,by omega,?_,by rw[h3,pw],fun h=>by rw[h4 h]⟩;rw[h2,xC,List.range'_succ,aeb,adI]
   rfl
def AP(at':Nat)(f:Nat→BA)(i:Int):∀m:Nat,aA.last ((ae7 m).map fun q:Nat=>(((at':Nat):Int)+(q:Int),f q)) i=if(at':Int)≤i∧i<(at':Int)+m then some (f (i-at').toNat) else none
 |0=>by rw[if_neg (by omega)];rfl
 |m+1=>by
  rw[List.range_succ,ad8,aeb,afa,Dk.pr,AP at' f i m];dsimp only;by_cases h:((at':Nat):Int)+(m:Int)=i
  ·rw[if_pos h,if_pos (by omega)]
   congr 2
   omega
  ·rw[if_neg h];by_cases h2:(at':Int)≤i∧i<(at':Int)+m
   ·rw[if_pos h2,if_pos (by omega)]
   ·rw[if_neg h2,if_neg (by omega)]
def DC(at' i m q:Nat)(n:Int)(s:BA)(k:Nat)(p:Int×BA)(h:((List.range' 0 m).map fun q:Nat=>(((at':Nat):Int)+(q:Int),aA.pad (leaf n q (part s q))))[k]?=some p):
 k<m∧p.1.toNat=at'+k∧p.2=aA.pad (leaf n k (part s k)):=by
 rw[←List.range_eq_range',aen] at h;have hk:k<m:=by
  by_cases hh:k<m
  ·exact hh
  ·rw[aeB (by simpa using hh)] at h;cases h
 rw[ae3 hk] at h;cases h
 exact⟨hk,by dsimp only;omega,rfl⟩
def F0(x:BA):(xE x).data.toList=x.data.toList.take 8:=by unfold xE;rw[extract_toList];rfl
def ES{x:BA}(h:x.size=128):(wY x).data.toList=x.data.toList.drop 120:=by
 unfold wY;rw[h,extract_toList,adS (by rw[adM,cN,h];omega)]
def pk{α:Type}(a b:List α)(m:Nat)(h:a.length=m):(a++b).take m=a:=by subst h;exact List.take_left
def qo{α:Type}(a b:List α)(m:Nat)(h:a.length=m):(a++b).drop m=b:=by subst h;exact List.drop_left
def tL{n i:Int}{s:BA}:(jR n i s).take 8=le .i64 8 n:=by
 unfold jR pre;simp only[adI];exact pk _ _ 8 (aB _ _ _)
def rh{n i:Int}{s:BA}(hs:s.size≤104):(jR n i s).drop 120=le .i64 8 n:=by
 unfold jR;exact qo _ _ 120 (by rw[adD,nI hs];rfl)
def zL(n:Nat):(kv n).data.toList=adQ n 0:=by unfold kv;rfl
def Jx{D:aA}{b:Int}(hb:0≤b):∀j,(∀i:Nat,i<j→numOf (xE (D.read (i:Int)).1)≤b∧numOf (wY (D.read (i:Int)).1)≤b)→cV D j≤b
 |0,_=>hb
 |j+1,h=>by
  have h1:=Jx hb j (fun i hi=>h i (by omega));have h2:=h j (by omega);simp only[cV];unfold max2;split<;>split<;>omega
section
variable {W w:World} {L:LH}
end
def cR(D:aA)(at' to number:Int)(s:BA):aA×Int:=if(lay D at' to number s).2≠0 then lay D at' to number s else(lay D at' to number s).1.sync
def Fy{D:aA}{at' to number:Int}{s:BA}(h:D.Ok)(hl:D.later.length+dX s.size<1099511627776):(cR D at' to number s).1.Ok:=by
 have:=(DP (at':=at') (number:=number) (s:=s) (to:=to) h hl).1;unfold cR;split
 ·exact this
 ·exact Dt this
def M9{n a t:Nat}{D:aA}{number:Int}{s:BA}(h:Calm n D)(bZ:n≤4096)(mP:1≤number∧number≤1152921504606846976)(hl:a+dX s.size≤t)(TN:t≤n):(cR D a t number s).1.later=[]:=by
 have Xq:=ox s.size;have e:lay D (a:Nat) ((t:Nat):Int) number s=mm (a:Nat) number s D 0 (dX s.size):=by
  unfold lay;rw[if_neg (by rw[h.len];omega),if_neg (by omega)]
 obtain⟨l1,l2,_,_,_⟩:=Jg (at':=((a:Nat):Int)) (number:=number) (s:=s) mP (by omega) (dX s.size) 0 (D:=D) h.arm (by rw[h.len];omega) (by omega);unfold cR;rw[e,if_neg (fun hh=>hh l1),Dk.II l2]
def Jb{n a t:Nat}{D:aA}{number:Int}{s:BA}(h:Calm n D)(bZ:n≤4096)(mP:1≤number∧number≤1152921504606846976)(hl:a+dX s.size≤t)(TN:t≤n):
 (cR D a t number s).2=0∧Calm n (cR D a t number s).1∧(∀q:Nat,q<dX s.size→((cR D a t number s).1.read (((a:Nat):Int)+q)).1=leaf number q (part s q))∧
 ∀j:Nat,j<n→(j<a∨a+dX s.size≤j)→((cR D a t number s).1.read (j:Int)).1=(D.read (j:Int)).1:=by
 have e:lay D (a) ((t:Nat):Int) number s=mm (a) number s D 0 (dX s.size):=by
  unfold lay;rw[if_neg (by rw[h.len];omega),if_neg (by omega)]
 have LG:=Jg (at':=((a:Nat):Int)) (number:=number) (s:=s) mP (by omega) (dX s.size) 0 (D:=D) h.arm (by rw[h.len];omega) (by omega);have hli:=Jf (at':=((a:Nat):Int)) (number:=number) (s:=s) mP (by omega) (dX s.size) 0 (D:=D) h.arm (by rw[h.len];omega) (by omega);have ik:=wv (at':=((a:Nat):Int)) (number:=number) (s:=s) (dX s.size) 0 h.ok (by have:=h.later;omega);unfold cR;rw[e];obtain⟨l1,l2,l3,l4,l5⟩:=LG;rw[if_neg (fun hh=>hh l1)];generalize (mm ((a:Nat):Int) number s D 0 (dX s.size)).1=D1 at *;have Sc:D1.safe.length=n:=by rw[l3];exact h.len
 have ku:=Dk.II l2;have Sl:Calm n D1.sync.1:=⟨Dt ik.1,Dk.JZ l2,by rw[ku];exact adK _,by rw[Dk.EY.1];exact Sc⟩;have OU:∀j:Nat,j<n→(D1.sync.1.read (j:Int)).1=D1.now (j:Int):=fun j hj=>by
  have h1:D1.sync.1.is (j:Int):=⟨by omega,by rw[Sl.len];omega⟩;have h2:D1.is (j:Int):=⟨by omega,by rw[Sc];omega⟩;unfold aA.read;rw[if_pos h1];exact Dk.Kt l2 ik.1 h2
 refine⟨by rw[ku],Sl,fun q hq=>?_,fun j hj FX=>?_⟩
 ·have:=OU (a+q) (by omega);rw[show(((a:Nat):Int)+(q:Int))=((a+q:Nat):Int) from by omega,this,show((a+q:Nat):Int)=((a:Nat):Int)+(q:Int) from by omega];exact hli q (adK _) (by omega)
 ·rw[OU j hj,l5 (j:Int) (by omega)];have h2:D.is (j:Int):=⟨by omega,by rw[h.len];omega⟩;unfold aA.read;rw[if_pos h2]
def Fz{n a t:Nat}{D:aA}{number mask torn cut:Int}{s:BA}(ik:D.Ok)(xC:D.later=[])(hlen:D.safe.length=n)(bZ:n≤4096)(mP:1≤number∧number≤1152921504606846976)(hl:a+dX s.size≤t)(TN:t≤n):
 (∀j:Nat,j<n→(((cR D a t number s).1.ie mask torn cut).read (j:Int)).1=(D.read (j:Int)).1∨
  ∃q,q<dX s.size∧j=a+q∧Zl (D.read (j:Int)).1 (leaf number q (part s q)) (((cR D a t number s).1.ie mask torn cut).read (j:Int)).1)∧
 ((cR D a t number s).2=0→∀q:Nat,q<dX s.size→(((cR D a t number s).1.ie mask torn cut).read ((a+q:Nat):Int)).1=leaf number q (part s q))∧
 ((cR D a t number s).1.ie mask torn cut).Ok∧((cR D a t number s).1.ie mask torn cut).safe.length=n:=by
 have Xq:=ox s.size;have TZ:∀q:Nat,q<dX s.size→aA.pad (leaf number q (part s q))=leaf number q (part s q):=fun q hq=>I7 (pY ⟨mP.1,mP.2,by omega,by omega,ko s q⟩);have aaT:lay D (a:Nat) ((t:Nat):Int) number s=mm (a) number s D 0 (dX s.size):=by
  unfold lay;rw[if_neg (by rw[hlen];omega),if_neg (by omega)]
 obtain⟨m,hm,A0,pw,hU⟩:=FG (at':=((a:Nat):Int)) (number:=number) (s:=s) mP (by omega) (dX s.size) 0 (D:=D) (by rw[hlen];omega) (by omega);rw[xC,aed] at A0;have DZ:=(wv (at':=((a:Nat):Int)) (number:=number) (s:=s) (dX s.size) 0 ik (by rw[xC];simp;omega)).1;unfold cR;rw[aaT];generalize hF:mm ((a:Nat):Int) number s D 0 (dX s.size)=F at *;obtain⟨D1,e⟩:=F;dsimp only at A0 pw hU DZ⊢;have hold:∀j(hj:j<n),(D.read (j:Int)).1=D.safe[j]'(by omega):=fun j hj=>by rw[ui xC (by omega)]
 have key:∀D2:aA,D2.safe=D.safe→D2.later=D1.later→∀j:Nat,j<n→((D2.ie mask torn cut).read (j:Int)).1=(D.read (j:Int)).1∨
  ∃q,q<dX s.size∧j=a+q∧Zl (D.read (j:Int)).1 (leaf number q (part s q)) ((D2.ie mask torn cut).read (j:Int)).1:=fun D2 h1 h2 j hj=>by
  have Qx:j<D.safe.length:=by omega
  have hce:(D2.ie mask torn cut).safe=crashed mask torn (min2 (max2 cut 0) 128) D.safe D1.later D1.later.length:=by rw[nu,h1,h2]
  have LJ:j<(D2.ie mask torn cut).safe.length:=by rw[hce,ju];exact Qx
  have hr:((D2.ie mask torn cut).read (j:Int)).1=(D2.ie mask torn cut).safe[j]:=by rw[ui (by rw[nu]) LJ]
  have hx:(D2.ie mask torn cut).safe[j]?=some ((D2.ie mask torn cut).safe[j]):=adA LJ;have FO:(D1.later.map (·.1.toNat)).Nodup:=by
   rw[A0,afb];have:((fun p:Int×BA=>p.1.toNat)∘fun q:Nat=>(((a:Nat):Int)+(q:Int),aA.pad (leaf number q (part s q))))=fun q:Nat=>a+q:=by
    funext q;simp only[Function.comp];omega
   rw[this];exact List.Pairwise.map (fun q=>a+q) (fun x y(O9:x≠y)=>by show a+x≠a+y;omega) (List.nodup_range' 1 (by decide))
  have W5:=yF mask torn (min2 (max2 cut 0) 128) (NS cut) D.safe D1.later FO (fun p hp=>by
   have:=DZ.later p hp
   rw[pw] at this
   exact this.2) j Qx D1.later.length (adG _)
  rw[←hce,hx] at W5;rw[hr];generalize (D2.ie mask torn cut).safe[j]=X at *;rcases W5 with⟨_,h⟩|⟨k,p,hk,OZ,Qs,Y,hY,hM⟩
  ·left
   rw[hold j hj];rw[adA Qx] at h;exact adU.inj h
  ·right
   cases hY
   rw[A0] at OZ;obtain⟨r1,r2,r3⟩:=DC (a) 0 m 0 number s k p OZ;refine⟨k,by omega,by omega,?_⟩;rw[hold j hj,←TZ k (by omega),←r3];have:D.safe.getD j .empty=D.safe[j]:=by simp[Qx]
   rw[←this];exact hM
 have mF:∀D2:aA,D2.safe.length=n→(D2.ie mask torn cut).safe.length=n:=fun D2 h=>by rw[nu];simp only[ju];exact h
 have XJ:D1.safe.length=n:=by rw[pw];exact hlen
 by_cases he:e=0
 ·subst he;rw[if_neg (by simp)];unfold aA.sync;cases hf:D1.qP with
  |true=>
   rw[if_pos rfl];exact⟨key D1.tick pw rfl,fun h=>by simp at h,Bg (D:=D1.tick) ⟨DZ.safe,DZ.later,DZ.mC,DZ.less⟩ mask torn cut,mF D1.tick XJ⟩
  |false=>
   rw[if_neg ae4];have Js:=hU rfl;subst Js;have T3:=Dt DZ;unfold aA.sync at T3;rw[hf,if_neg ae4] at T3;generalize hD3:({Go.bI.aA.tick D1 with safe:=D1.later.foldl aA.put D1.safe,later:=[]}:aA)=D3 at *;have h3s:D3.safe=D1.later.foldl aA.put D.safe:=by rw[←hD3,←pw]
   have h3l:D3.later=[]:=by rw[←hD3]
   have h3n:D3.safe.length=n:=by rw[h3s,lD];exact hlen
   have O6:(D3.ie mask torn cut).safe=D3.safe:=by rw[nu,h3l];rfl
   have OU:∀j(hj:j<n),((D3.ie mask torn cut).read (j:Int)).1=(aA.last D1.later (j:Int)).getD (D.read (j:Int)).1:=fun j hj=>by
    have LJ:j<(D3.ie mask torn cut).safe.length:=by rw[mF D3 h3n];exact hj
    have Qx:j<D.safe.length:=by omega
    rw[ui (by rw[nu]) LJ,hold j hj];have h1:=Dk.uU (i:=(j:Int)) (by omega) D1.later D.safe (by omega) (fun p hp=>(DZ.later p hp).2.1);rw[adB,←h3s,←O6,aeD,adA LJ,aeD,adA Qx] at h1;exact h1
   have CW:∀j:Nat,aA.last D1.later (j:Int)=if a≤j∧j<a+dX s.size then some (aA.pad (leaf number ((j-a:Nat):Int) (part s (j-a)))) else none:=fun j=>by
    rw[A0,←List.range_eq_range',AP (a) (fun q=>aA.pad (leaf number q (part s q))) (j:Int) (dX s.size)];by_cases hj:a≤j∧j<a+dX s.size
    ·rw[if_pos hj,if_pos (by omega)];have:((j:Int) -((a:Nat):Int)).toNat=j-a:=by omega
     rw[this]
    ·rw[if_neg hj,if_neg (by omega)]
   refine⟨fun j hj=>?_,fun _ q hq=>?_,Bg T3 mask torn cut,mF D3 h3n⟩
   ·rw[OU j hj,CW j];by_cases hjr:a≤j∧j<a+dX s.size
    ·right
     refine⟨j-a,by omega,by omega,.inr (.inl ?_)⟩;rw[if_pos hjr,aec,TZ _ (by omega)]
    ·left;rw[if_neg hjr];rfl
   ·rw[OU _ (by omega),CW,if_pos (by omega),aec,show a+q-a=q from by omega,TZ q hq]
 ·rw[if_pos he];exact⟨key D1 pw rfl,fun h=>absurd h he,Bg DZ mask torn cut,mF D1 XJ⟩
def KA:∀n:Fin 256,le .i64 8 (n.val:Int)=UInt8.ofNat n.val::adQ 7 0:=by decide+kernel
def FD{n:Nat}(h:n<256):le .i64 8 (n:Int)=UInt8.ofNat n::adQ 7 0:=KA ⟨n,h⟩
structure Ends(g:Nat)(X:BA):Prop where
 size:X.size=128
 hd:∃a,a≤g∧X.data.toList.take 8=le .i64 8 ((a:Nat):Int)
 tl:∃b,b≤g∧X.data.toList.drop 120=le .i64 8 ((b:Nat):Int)
def Ends.mono{g g':Nat}{X:BA}(h:Ends g X)(hg:g≤g'):Ends g' X:=by
 obtain⟨h1,⟨a,h2,h3⟩,b,h4,h5⟩:=h;exact⟨h1,⟨a,by omega,h3⟩,b,by omega,h5⟩
def vn:Ends 0 (kv 128):=⟨qe 128,⟨0,adG _,by rw[zL];decide+kernel⟩,0,adG _,by rw[zL];decide+kernel⟩
def kr{n i:Int}{s:BA}(h:Good n i s):(leaf n i s).data.toList=jR n i s:=by unfold leaf;rw[if_pos h];rfl
def xJ{n:Nat}{i:Int}{s:BA}(h:Good n i s):Ends n (leaf n i s):=
 ⟨pY h,⟨n,adG _,by rw[kr h,tL]⟩,n,adG _,by rw[kr h,rh h.2.2.2.2]⟩
def qJ{n:Nat}(h:n<256):numOf (bs (le .i64 8 ((n:Nat):Int)))=n:=by
 unfold numOf;show(if 1≤kH (le .i64 8 (n:Int))∧kH (le .i64 8 (n:Int))≤1152921504606846976 then _ else _)=_;rw[mj ⟨by omega,by omega⟩];by_cases h0:n=0
 ·subst h0;rfl
 ·rw[if_pos ⟨by omega,by omega⟩];show kH (le .i64 8 (n:Int))=_;rw[mj ⟨by omega,by omega⟩]
def Ends.num{g:Nat}{X:BA}(h:Ends g X)(hg:g<256):numOf (xE X)≤g∧numOf (wY X)≤g:=by
 obtain⟨h1,⟨a,h2,h3⟩,b,h4,h5⟩:=h;have e1:xE X=bs (le .i64 8 ((a:Nat):Int)):=je (by rw[F0,h3];rfl);have e2:wY X=bs (le .i64 8 ((b:Nat):Int)):=je (by rw[ES h1,h5];rfl);rw[e1,e2,qJ (by omega),qJ (by omega)];omega
def ur{D:aA}{g:Nat}(hg:g<256)(j:Nat)(h:∀i:Nat,i<j→Ends g (D.read (i:Int)).1):cV D j≤g:=Jx (by omega) j (fun i hi=>(h i hi).num hg)
def He{n a:Nat}(hn:n<256)(ha:a<256)(k:Nat)(hk:k≤8):(le .i64 8 ((n:Nat):Int)).take k++(le .i64 8 ((a:Nat):Int)).drop k=if k=0 then le .i64 8 ((a:Nat):Int) else le .i64 8 ((n:Nat):Int):=by
 rw[FD hn,FD ha];cases k with
 |zero=>rfl
 |succ k=>
  rw[if_neg (by omega),List.take_succ_cons,List.drop_succ_cons,aeN]
  congr 1
  exact ad5 k _
def xr{n:Nat}{g:Nat}{i:Int}{s old X:BA}(hn:g<n)(VC:n<256)(vj:Good n i s)(ho:Ends g old)(hm:Zl old (leaf n i s) X):
 Ends n X∧(X=old∨X=leaf n i s∨jH X.data.toList=none):=by
 rcases hm with h|h|⟨c,hc,h⟩
 ·rw[h];exact⟨ho.mono (by omega),.inl rfl⟩
 ·rw[h];exact⟨xJ vj,.inr (.inl rfl)⟩
 ·obtain⟨o1,⟨a,ha,oh⟩,b,hb,ot⟩:=ho;have hl:=kr vj;have CV:(jR n i s).length=128:=sx vj.2.2.2.2;have hol:old.data.toList.length=128:=by rw[cN];exact o1
  have hX:X.data.toList=(jR n i s).take c++old.data.toList.drop c:=by
   have e2:(old.extract c old.size).data.toList=old.data.toList.drop c:=by
    rw[extract_toList,adS (by rw[adM,cN];exact adG _)]
   rw[h,ByteArray.data_append,Array.toList_append,e2,extract_toList,aeJ,Nat.sub_zero,hl]
  have hXs:X.size=128:=by
   rw[←cN,hX,adD,adF,adM,CV,hol];omega
  have h8:X.data.toList.take 8=(le .i64 8 ((n:Nat):Int)).take (min c 8)++(le .i64 8 ((a:Nat):Int)).drop (min c 8):=by
   rw[hX,←oh,←tL (n:=n) (i:=i) (s:=s),List.take_append,ae9,ae9,adF,CV,List.drop_take,show min (min c 8) 8=min 8 c from by omega,show min c 128=c from by omega]
   congr 1
   by_cases h8:c≤8
   ·rw[show min c 8=c from by omega]
   ·rw[show 8-c=0 from by omega,show 8-min c 8=0 from by omega,ae0,ae0]
  have D0:X.data.toList.drop 120=(le .i64 8 ((n:Nat):Int)).take (c-120)++(le .i64 8 ((b:Nat):Int)).drop (c-120):=by
   rw[hX,←ot,←rh (n:=n) (i:=i) vj.2.2.2.2,List.drop_append,List.drop_take,adF,CV,aeK,aeK,show min c 128=c from by omega]
   congr 2
   omega
  rw[He VC (by omega) _ (by omega)] at h8 D0;by_cases hc0:c=0
  ·have:X=old:=je (by rw[hX,hc0,ae0,aed,aeJ]);rw[this];exact⟨⟨o1,⟨a,by omega,oh⟩,b,by omega,ot⟩,.inl rfl⟩
  ·rw[if_neg (by omega)] at h8;by_cases hc1:c≤120
   ·rw[if_pos (by omega)] at D0;refine⟨⟨hXs,⟨n,adG _,h8⟩,b,by omega,D0⟩,.inr (.inr ?_)⟩;cases hv:jH X.data.toList with
    |none=>rfl
    |some y=>
     exfalso;obtain⟨m,j,d⟩:=y;obtain⟨v1,v2,v3,v4,_,_⟩:=Hm hv;rw[MF v2 v1,D0] at v3;unfold sN at v3;rw[h8,mj ⟨by omega,by omega⟩,mj ⟨by omega,by omega⟩] at v3;omega
   ·rw[if_neg (by omega)] at D0;refine⟨⟨hXs,⟨n,adG _,h8⟩,n,adG _,D0⟩,.inr (.inl ?_)⟩;apply je;rw[hl];refine(ad5 120 _).symm.trans (Eq.trans ?_ (ad5 120 _));rw[D0,rh vj.2.2.2.2,hX,List.take_append_of_le_length (by rw[adF,CV];omega),ae9,show min 120 c=120 from by omega]
structure dU where
 aF:Int
 number:Int
 size:Int
 seq:Int
deriving DecidableEq
def aU(h:dU):LV:=[.i h.aF,.i h.number,.i h.size,.i h.seq]
def kO(h:dU):Prop:=1≤h.aF∧h.aF≤1152921504606846976∧1≤h.number∧h.number≤1152921504606846976∧0≤h.size∧h.size≤425984∧0≤h.seq∧h.seq≤1152921504606846976
instance(h:dU):Decidable (kO h):=by unfold kO;infer_instance
def iH(h:dU):List UInt8:=le .i64 8 h.aF++le .i64 8 h.number++le .i64 8 h.size++le .i64 8 h.seq
def mX(h:dU):(iH h).length=32:=by simp only[iH,adD,aB]
def zM:dU:=⟨0,0,0,0⟩
def sJ(l:List UInt8):dU:=⟨kH (l.take 8),kH ((l.drop 8).take 8),kH (((l.drop 8).drop 8).take 8),kH ((((l.drop 8).drop 8).drop 8).take 8)⟩
def Cy(l:List UInt8):Option dU:=if l.length=32∧kO (sJ l) then some (sJ l) else none
def FY{h:dU}(hg:kO h):Cy (iH h)=some h:=by
 obtain⟨h1,h2,h3,h4,h5,h6,h7,h8⟩:=hg;have sF:iH h=le .i64 8 h.aF++(le .i64 8 h.number++(le .i64 8 h.size++le .i64 8 h.seq)):=by simp only[iH,adI]
 have tl:∀(a b:List UInt8)(m:Nat),a.length=m→(a++b).take m=a:=fun a b m hm=>by subst hm;exact List.take_left
 have dl:∀(a b:List UInt8)(m:Nat),a.length=m→(a++b).drop m=b:=fun a b m hm=>by subst hm;exact List.drop_left
 have e:sJ (iH h)=h:=by
  unfold sJ;rw[sF,tl _ _ _ (aB _ _ _),dl _ _ _ (aB _ _ _),tl _ _ _ (aB _ _ _),dl _ _ _ (aB _ _ _),tl _ _ _ (aB _ _ _),dl _ _ _ (aB _ _ _),adS (by rw[aB];omega)];rw[mj ⟨by omega,h2⟩,mj ⟨by omega,h4⟩,mj ⟨h5,by omega⟩,mj ⟨h7,h8⟩]
 unfold Cy;rw[e,if_pos ⟨mX h,h1,h2,h3,h4,h5,h6,h7,h8⟩]
def mW:Option dU→Value
 |none=>.tuple ⟨[.agg ⟨aU zM⟩,.bool false]⟩
 |some h=>.tuple ⟨[.agg ⟨aU h⟩,.bool true]⟩
section
variable {W w:World} {L:LH} {k:Nat}
def Bp{h:dU}{K:VK}(hs:St W w L)(hK:∀w',St W w' L→K (.bool (decide (kO h))) w'):mS (aU h) K w:=by
 unfold mS;refine ic hs fun r w hs=>?_;have hh:=hK w hs.drop;have no: ¬kO h→K (.bool false) w:=fun hn=>by rw[decide_eq_false hn] at hh;exact hh
 refine bR (k:=0) hs rfl rfl ?_;simp only[nz,ady,adz];refine dJ (fun h1=>?_) (fun h1=>no (by unfold kO;omega));refine bR (k:=0) hs rfl rfl ?_;simp only[nz,ady,adz];refine dJ (fun h2=>?_) (fun h1=>no (by unfold kO;omega));refine bR (k:=0) hs rfl rfl ?_;simp only[nz,ady,adz];refine dJ (fun h3=>?_) (fun h1=>no (by unfold kO;omega));refine bR (k:=0) hs rfl rfl ?_;simp only[nz,ady,adz];refine dJ (fun h4=>?_) (fun h1=>no (by unfold kO;omega));refine bR (k:=0) hs rfl rfl ?_;simp only[nz,ady,adz];refine dJ (fun h5=>?_) (fun h1=>no (by unfold kO;omega));refine bR (k:=0) hs rfl rfl ?_;simp only[nz,ady,adz];refine dJ (fun h6=>?_) (fun h1=>no (by unfold kO;omega));refine bR (k:=0) hs rfl rfl ?_;simp only[nz,ady,adz];refine dJ (fun h7=>?_) (fun h1=>no (by unfold kO;omega));refine bR (k:=0) hs rfl rfl ?_;simp only[nz,ady,adz];have:decide (h.seq≤1152921504606846976)=decide (kO h):=by rw[decide_eq_decide];unfold kO;omega
 rw[this];exact hh
def zw(h:dU):List UInt8×Int:=if kO h then(iH h,0) else([],1)
def Gq{h:dU}{K:VK}(hs:St W w L)(hK:∀w',St W w' L→K (.tuple ⟨[.string (bs (zw h).1),.i (zw h).2]⟩) w'):mT (aU h) K w:=by
 unfold mT;refine ic hs fun r w hs=>?_;refine iG (k:=0) (xs:=aU h) hs rfl rfl (fun j v hj=>by rw[adE];exact hj) ?_;refine Bp hs fun w hs=>?_;simp only[nz,ady,adz];unfold zw at hK;by_cases hg:kO h
 ·rw[if_pos hg] at hK;rw[decide_eq_true hg];simp only[nz,ady,adz];refine ic hs fun p w hs=>?_;have hs:St W w (buf p []::pt r (aU h)::L):=by
   have h2:=(hs.push (A:=own none 0 0 1 (([]:List UInt8).map ry)) (o5 1)).perm (ad2.swap _ _ _);exact qa (k:=0) (L:=buf p []::pt r (aU h)::L) (A:=buf p []) rfl rfl h2
  refine bR (k:=1) hs rfl rfl ?_;simp only[nz,ady,adz];refine bR (k:=1) hs rfl rfl ?_;simp only[nz,ady,adz];refine bR (k:=1) hs rfl rfl ?_;simp only[nz,ady,adz];refine bR (k:=1) hs rfl rfl ?_;simp only[nz,ady,adz];refine⟨fun us w'=>∃j:Nat,us=[.string .empty,.i 0,.p (some ⟨p,0,none⟩),.agg ⟨aU h⟩,.i j]∧j≤4∧St W w' (buf p ((iH h).take (8* j))::pt r (aU h)::L),
   fun us _=>match us with|[_,_,_,_,.int _ j]=>4-j.toNat|_=>0,⟨0,rfl,adK _,hs⟩,?_⟩
  rintro s1 n5 a1 Yx n6 w2 ⟨j,he,hj,hs⟩;cases he
  refine pO (fun h0=>?_) (fun h0=>?_)
  ·have hj4:j<4:=by have:=of_decide_eq_true h0;omega
   have e5:adx.wrap ((j:Int)+1)=((j+1:Nat):Int):=by rw[ah (by omega)];omega
   obtain⟨n,hn,fy⟩:∃n,(aU h)[(j:Int).toNat]?=some (.i n)∧(iH h).take (8* j)++le .i64 8 n=(iH h).take (8* (j+1)):=by
    have sF:iH h=le .i64 8 h.aF++(le .i64 8 h.number++(le .i64 8 h.size++le .i64 8 h.seq)):=by simp only[iH,adI]
    have ll:∀n,(le .i64 8 n).length=8:=fun n=>aB _ _ _
    match j,hj4 with
    |0,_=>exact⟨h.aF,rfl,by rw[sF,List.take_append_of_le_length (by rw[ll];omega),List.take_append_of_le_length (by rw[ll];omega),adS (l:=le .i64 8 h.aF) (i:=8* (0+1)) (by rw[ll];omega)];simp⟩
    |1,_=>exact⟨h.number,rfl,by simp only[iH,List.take_append,ll,adD];simp[adS,ll]⟩
    |2,_=>exact⟨h.size,rfl,by simp only[iH,List.take_append,ll,adD];simp[adS,ll]⟩
    |3,_=>exact⟨h.seq,rfl,by simp only[iH,List.take_append,ll,adD];simp[adS,ll]⟩
   refine⟨.i n,⟨by omega,by omega,hn⟩,?_⟩;simp only[nz,ady,adz];refine iT (k:=0) hs rfl (by rw[adF];omega) fun w hs=>?_;rw[show(min2 (max2 8 1) 8).toNat=8 from rfl,fy] at hs;simp only[nz,ady,adz] at hs⊢;rw[e5];exact⟨⟨j+1,rfl,by omega,hs⟩,by omega⟩
  ·have hj4:j=4:=by have:=of_decide_eq_false h0;omega
   subst hj4;rw[adS (by rw[mX];omega)] at hs;refine ki (k:=0) hs rfl ?_;simp only[nz,ady,adz];exact hK w2 hs.drop.drop
 ·rw[if_neg hg] at hK;rw[decide_eq_false hg];simp only[nz,ady,adz];exact hK w hs.drop
end
def yi{l:List UInt8}{n j:Int}{d:BA}(h:jH l=some (n,j,d)):d.size≤104:=by
 unfold jH at h;split at h
 ·cases h
 split at h
 ·cases h
 split at h
 ·cases h
 split at h
 ·cases h
 split at h
 ·cases h
 split at h
 ·cases h
 rename_i h6;cases h
 exact(adO.1 h6).2.2.2.2
def nx(x:List UInt8×Bool):List UInt8×Bool:=if x.2=true∨x.1.length<8 then(x.1,true) else(x.1.drop 8,false)
def nv(x:List UInt8×Bool):Int:=if x.2=true∨x.1.length<8 then 0 else kH (x.1.take 8)
section
variable {W w:World} {L:LH} {k d:Nat} {D:aA}
def uB{r:Nat}{x:List UInt8×Bool}{K:VK}(h:St W w L)(hk:L[k]?=some (yW r (bs x.1) x.2))(hl:x.1.length<1099511627776)
 (hK:∀w',St W w' (L.set k (yW r (bs (nx x).1) (nx x).2))→K (.i (nv x)) w'):ao (some ⟨r,0,none⟩) 8 K w:=by
 refine wT h hk ?_;have em:min2 (max2 8 1) 8=((8:Nat):Int):=rfl;rw[em];obtain⟨l,t⟩:=x;unfold nx nv at hK;dsimp only at hK hl⊢;by_cases hc:t=true∨l.length<8
 ·rw[if_pos hc,if_pos hc] at hK;have et:oD (bs l) t ((8:Nat):Int)=true:=by
   unfold oD;rcases hc with h1|h1
   ·rw[h1];rfl
   ·rw[bF,decide_eq_true (by omega)];simp
  unfold yX tG;rw[et,if_pos rfl,if_pos rfl];exact hK
 ·rw[if_neg hc,if_neg hc] at hK;have ht:t=false:=by cases t<;>simp_all
  have et:oD (bs l) t ((8:Nat):Int)=false:=by
   unfold oD;rw[ht,bF,decide_eq_false (by omega)];rfl
  unfold yX tG;rw[et,adB,lR,lQ];exact hK
def GM{r:Nat}{x:List UInt8×Bool}{K:VK}(h:St W w L)(hk:L[k]?=some (yW r (bs x.1) x.2))(hK:K (.bool (!x.2&&decide (x.1=[]))) w):gv (some ⟨r,0,none⟩) K w:=by
 unfold yW at hk;unfold gv;simp only[nz,ady,adz];refine bR h hk rfl ?_;simp only[nz,ady,adz];obtain⟨l,t⟩:=x;cases t with
 |true=>exact hK
 |false=>
  simp only[nz,ady,adz];refine bR h hk rfl ?_;simp only[nz,ady,adz];have hem:(⟨#[]⟩:BA)=bs []:=rfl;have e:decide (bs l=bs [])=decide (l=[]):=by rw[decide_eq_decide];exact xN
  rw[pU,hem,e];exact hK
def zp{x:List UInt8×Bool}(h:(nx x).2=false):x.2=false∧8≤x.1.length∧(nx x).1.length+8=x.1.length:=by
 unfold nx at h⊢;by_cases hc:x.2=true∨x.1.length<8
 ·rw[if_pos hc] at h;cases h
 ·rw[if_neg hc];have h1:x.2=false:=by cases hx:x.2 with
   |true=>exact absurd (.inl hx) hc
   |false=>rfl
  have h2:8≤x.1.length:=by
   by_cases hh:8≤x.1.length
   ·exact hh
   ·exact absurd (.inr (by omega)) hc
  refine⟨h1,h2,?_⟩;show(x.1.drop 8).length+8=x.1.length;rw[adM];omega
def P6{l:List UInt8}(h:l.length≠32):(!(nx (nx (nx (nx (l,false))))).2&&decide ((nx (nx (nx (nx (l,false))))).1=[]))=false:=by
 cases h4:(nx (nx (nx (nx (l,false))))).2 with
 |true=>rfl
 |false=>
  obtain⟨b3,c3,d3⟩:=zp h4;obtain⟨b2,c2,d2⟩:=zp b3;obtain⟨b1,c1,d1⟩:=zp b2;obtain⟨b0,c0,d0⟩:=zp b1;have ji:(nx (nx (nx (nx (l,false))))).1≠[]:=fun he=>by
   rw[he,ad6] at d3;dsimp only at d0;omega
  rw[decide_eq_false ji];rfl
def Ty{l:List UInt8}(h:l.length=32):nx (l,false)=(l.drop 8,false)∧nx (l.drop 8,false)=((l.drop 8).drop 8,false)∧nx ((l.drop 8).drop 8,false)=(((l.drop 8).drop 8).drop 8,false)∧nx (((l.drop 8).drop 8).drop 8,false)=([],false)∧
 nv (l,false)=kH (l.take 8)∧nv (l.drop 8,false)=kH ((l.drop 8).take 8)∧nv ((l.drop 8).drop 8,false)=kH (((l.drop 8).drop 8).take 8)∧nv (((l.drop 8).drop 8).drop 8,false)=kH ((((l.drop 8).drop 8).drop 8).take 8):=by
 have l1:(l.drop 8).length=24:=by rw[adM];omega
 have l2:((l.drop 8).drop 8).length=16:=by rw[adM,l1]
 have l3:(((l.drop 8).drop 8).drop 8).length=8:=by rw[adM,l2]
 have l4:(((l.drop 8).drop 8).drop 8).drop 8=[]:=List.drop_eq_nil_iff.2 (by omega);unfold nx nv;refine⟨?_,?_,?_,?_,?_,?_,?_,?_⟩
 ·rw[if_neg (by simp;omega)]
 ·rw[if_neg (by simp only[ad0,false_or];omega)]
 ·rw[if_neg (by simp only[ad0,false_or];omega)]
 ·rw[if_neg (by simp only[ad0,false_or];omega),l4]
 ·rw[if_neg (by simp;omega)]
 ·rw[if_neg (by simp only[ad0,false_or];omega)]
 ·rw[if_neg (by simp only[ad0,false_or];omega)]
 ·rw[if_neg (by simp only[ad0,false_or];omega)]
def Ht(x:List UInt8×Bool):(nx x).1.length≤x.1.length:=by unfold nx;split<;>simp
def Ia{l:List UInt8}{K:VK}(hs:St W w L)(hl:l.length<1099511627776)(hK:∀w',St W w' L→K (mW (Cy l)) w'):nL (bs l) K w:=by
 unfold nL;refine ic hs fun r1 w hs=>?_;refine oK hs fun q w hs=>?_;simp only[nz,ady,adz];have n1:=Ht (l,false);have n2:=Ht (nx (l,false));have n3:=Ht (nx (nx (l,false)));dsimp only at n1;refine uB (k:=0) (x:=(l,false)) hs rfl hl fun w hs=>?_;simp only[nz,ady,adz] at hs⊢;refine uB (k:=0) (x:=nx (l,false)) hs rfl (by omega) fun w hs=>?_;simp only[nz,ady,adz] at hs⊢;refine uB (k:=0) (x:=nx (nx (l,false))) hs rfl (by omega) fun w hs=>?_;simp only[nz,ady,adz] at hs⊢;refine uB (k:=0) (x:=nx (nx (nx (l,false)))) hs rfl (by omega) fun w hs=>?_;simp only[nz,ady,adz] at hs⊢;refine ic hs fun r2 w hs=>?_;refine⟨by simp,?_⟩;refine iU (k:=0) hs rfl (adH rfl) (by simp[Value.oneCell']) fun w hs=>?_;rw[fZ (by simp)] at hs;simp only[nz,ady,adz] at hs;refine GM (k:=1) (x:=nx (nx (nx (nx (l,false))))) hs rfl ?_;simp only[nz,ady,adz];have fail:∀w A B,(∀w',St W w' L→K (mW none) w')→St W w (A::B::pt r1 [.i 0,.i 0,.i 0,.i 0]::L)→iN ⟨r1,0,none⟩ [.i 0,.i 0,.i 0,.i 0] (aj ⟨r1,0,none⟩ 4 fun cs=>K (.tuple ⟨[.agg ⟨cs⟩,.bool false]⟩)) w:=fun w A B hK hs=>by
  refine iU (k:=2) hs rfl (adH rfl) (by simp[Value.oneCell']) fun w hs=>?_;rw[fZ (by simp)] at hs;refine iG (k:=2) (xs:=[.i 0,.i 0,.i 0,.i 0]) hs rfl rfl (fun j v hj=>by rw[adE];exact hj) ?_;exact hK w hs.drop.drop.drop
 unfold Cy at hK;by_cases Ze:l.length=32
 ·obtain⟨a1,a2,a3,a4,b1,b2,b3,b4⟩:=Ty Ze;rw[a1,a2,a3,a4] at hs⊢;rw[b1,b2,b3,b4] at hs;have ee:(!((([]:List UInt8),false):List UInt8×Bool).2&&decide ((((([]:List UInt8),false):List UInt8×Bool)).1=[]))=true:=by decide
  rw[ee];simp only[nz,ady,adz];have hs:St W w (pt r2 (aU (sJ l))::yW q (bs []) false::pt r1 [.i 0,.i 0,.i 0,.i 0]::L):=hs;refine iG (k:=0) (xs:=aU (sJ l)) hs rfl rfl (fun j v hj=>by rw[adE];exact hj) ?_;refine Bp hs fun w hs=>?_;simp only[nz,ady,adz];by_cases hg:kO (sJ l)
  ·rw[if_pos ⟨Ze,hg⟩] at hK;rw[decide_eq_true hg];simp only[nz,ady,adz];refine iG (k:=0) (xs:=aU (sJ l)) hs rfl rfl (fun j v hj=>by rw[adE];exact hj) ?_;refine⟨rfl,?_⟩;refine iU (k:=2) hs rfl (adH rfl) (by simp[Value.oneCell',aU]) fun w hs=>?_;rw[fZ (by simp[aU])] at hs;simp only[nz,ady,adz] at hs;refine iG (k:=2) (xs:=aU (sJ l)) hs rfl rfl (fun j v hj=>by rw[adE];exact hj) ?_;exact hK w hs.drop.drop.drop
  ·rw[if_neg (fun hh=>hg hh.2)] at hK;rw[decide_eq_false hg];simp only[nz,ady,adz];exact fail w _ _ hK hs
 ·rw[if_neg (fun hh=>Ze hh.1)] at hK;rw[P6 Ze];simp only[nz,ady,adz];exact fail w _ _ hK hs
def vt(D:aA)(i:Nat):Option dU:=
 match jH (D.read (i:Int)).1.data.toList with
 |none=>none
 |some (_,j,d)=>if(D.read (i:Int)).2≠0∨j≠0 then none else match Cy d.data.toList with
  |none=>none
  |some h=>if low h.aF≠i then none else some h
def JJ{i:Nat}{K:VK}(hs:St W w L)(hk:L[k]?=some (fA d D))(ik:D.Ok)(hK:∀w',St W w' L→K (mW (vt D i)) w'):kd (some ⟨d,0,none⟩) i K w:=by
 unfold kd;refine ic hs fun r1 w hs=>?_;have O0:(pt r1 [.i 0,.i 0,.i 0,.i 0]::L)[k+1]?=some (fA d D):=by rw[adR];exact hk
 refine oB (k:=k+1) hs O0 ik ?_;simp only[nz,ady,adz];have fail:∀w A,(∀w',St W w' L→K (mW none) w')→St W w (A::pt r1 [.i 0,.i 0,.i 0,.i 0]::L)→iN ⟨r1,0,none⟩ [.i 0,.i 0,.i 0,.i 0] (aj ⟨r1,0,none⟩ 4 fun cs=>K (.tuple ⟨[.agg ⟨cs⟩,.bool false]⟩)) w:=fun w A hK hs=>by
  refine iU (k:=1) hs rfl (adH rfl) (by simp[Value.oneCell']) fun w hs=>?_;rw[fZ (by simp)] at hs;refine iG (k:=1) (xs:=[.i 0,.i 0,.i 0,.i 0]) hs rfl rfl (fun j v hj=>by rw[adE];exact hj) ?_;exact hK w hs.drop.drop
 have Jz:∀w r2 A,(∀w',St W w' L→K (mW none) w')→St W w (A::pt r1 [.i 0,.i 0,.i 0,.i 0]::L)→kd.j1 K r1 r2 i true w:=fun w r2 A hK hs=>by
  unfold kd.j1;simp only[nz,ady,adz];exact fail w A hK hs
 have hxs:(D.read (i:Int)).1.size<1099511627776:=by
  by_cases hi:D.is (i:Int)
  ·have:=uh ik hi;omega
  ·unfold aA.read;rw[if_neg hi];decide
 unfold vt at hK;generalize hx:(D.read (i:Int)).1=x at *;generalize he:(D.read (i:Int)).2=e at *;rw[show x=bs x.data.toList from rfl];refine xW hs (by rw[cN];exact hxs) fun w hs=>?_;cases hv:jH x.data.toList with
 |none=>
  rw[hv] at hK;unfold pQ;simp only[nz,ady,adz];simp only[sV,adW,ad6,adE,ady,true_and];simp only[nz,ady,adz];refine ic hs fun r2 w hs=>?_;refine⟨trivial,iU (k:=0) hs rfl (adH rfl) (by simp[Value.oneCell']) fun w hs=>?_⟩;simp only[nz,ady,adz] at hs;refine qt (fun _=>Jz w r2 _ hK hs) (fun _=>?_);exact Jz w r2 _ hK hs
 |some y=>
  obtain⟨m,j,dd⟩:=y;rw[hv] at hK;dsimp only at hK;unfold pQ;simp only[nz,ady,adz];simp only[sV,adW,ad6,adE,ady,true_and];simp only[nz,ady,adz];refine ic hs fun r2 w hs=>?_;refine⟨trivial,iU (k:=0) hs rfl (adH rfl) (by simp[Value.oneCell']) fun w hs=>?_⟩;rw[fZ (by simp)] at hs;simp only[nz,ady,adz] at hs;refine qt (fun ji=>?_) (fun h0=>?_)
  ·rw[if_pos (.inl ji)] at hK;exact Jz w r2 _ hK hs
  refine bR (k:=0) hs rfl rfl ?_;simp only[nz,ady,adz];by_cases hj:j=0
  ·rw[if_neg (by rintro(h|h);exact h h0;exact h hj)] at hK;have ej:(j !=0)=false:=by simp[hj]
   rw[ej];unfold kd.j1;simp only[nz,ady,adz];refine bR (k:=0) hs rfl rfl ?_;simp only[nz,ady,adz];rw[show dd=bs dd.data.toList from rfl];refine Ia hs (by
    rw[cN]
    have:=(yi hv)
    omega) fun w hs=>?_
   cases hh:Cy dd.data.toList with
   |none=>
    rw[hh] at hK;unfold mW;simp only[nz,ady,adz];simp only[sV];refine⟨rfl,?_⟩;simp only[nz,ady,adz];refine ic hs fun r3 w hs=>?_;refine⟨by simp[aU],iU (k:=0) hs rfl (adH rfl) (by simp[Value.oneCell',aU]) fun w hs=>?_⟩;rw[fZ (by simp[aU])] at hs;simp only[nz,ady,adz] at hs;refine⟨trivial,by simp,?_⟩;refine iU (k:=2) hs rfl (adH rfl) (by simp[Value.oneCell']) fun w hs=>?_;rw[fZ (by simp)] at hs;simp only[nz,ady,adz] at hs;refine iG (k:=2) (xs:=[.i 0,.i 0,.i 0,.i 0]) hs rfl rfl (fun j v hj=>by rw[adE];exact hj) ?_;exact hK w hs.drop.drop.drop
   |some hd=>
    rw[hh] at hK;dsimp only at hK;unfold mW;simp only[nz,ady,adz];simp only[sV];refine⟨rfl,?_⟩;simp only[nz,ady,adz];refine ic hs fun r3 w hs=>?_;refine⟨by simp[aU],iU (k:=0) hs rfl (adH rfl) (by simp[Value.oneCell',aU]) fun w hs=>?_⟩;rw[fZ (by simp[aU])] at hs;simp only[nz,ady,adz] at hs;refine bR (k:=0) hs rfl rfl ?_;simp only[nz,ady,adz];refine qt (fun ji=>?_) (fun heq=>?_)
    ·rw[if_pos (show low hd.aF≠(i:Int) from ji)] at hK;refine⟨trivial,by simp,?_⟩;refine iU (k:=2) hs rfl (adH rfl) (by simp[Value.oneCell']) fun w hs=>?_;rw[fZ (by simp)] at hs;simp only[nz,ady,adz] at hs;refine iG (k:=2) (xs:=[.i 0,.i 0,.i 0,.i 0]) hs rfl rfl (fun j v hj=>by rw[adE];exact hj) ?_;exact hK w hs.drop.drop.drop
    ·rw[if_neg (show ¬low hd.aF≠(i:Int) from fun hh=>hh heq)] at hK;refine iG (k:=0) (xs:=aU hd) hs rfl rfl (fun j v hj=>by rw[adE];exact hj) ?_;refine⟨rfl,?_⟩;refine iU (k:=2) hs rfl (adH rfl) (by simp[Value.oneCell',aU]) fun w hs=>?_;rw[fZ (by simp[aU])] at hs;simp only[nz,ady,adz] at hs;refine iG (k:=2) (xs:=aU hd) hs rfl rfl (fun j v hj=>by rw[adE];exact hj) ?_;exact hK w hs.drop.drop.drop
  ·rw[if_pos (.inr hj)] at hK;have ej:(j !=0)=true:=by simp[hj]
   rw[ej];exact Jz w r2 _ hK hs
end
def dG(n:Nat)(x:List UInt8×Bool):List UInt8×Bool:=if x.2=true∨x.1.length<n then(x.1,true) else(x.1.drop n,false)
def jF(n:Nat)(x:List UInt8×Bool):Int:=if x.2=true∨x.1.length<n then 0 else kH (x.1.take n)
def DJ(x:List UInt8×Bool):0≤jF 4 x∧jF 4 x<4294967296:=by
 unfold jF;split
 ·omega
 ·have h1:=oZ (x.1.take 4);have h2:(x.1.take 4).length≤4:=by rw[adF];omega
  have h3:256^(x.1.take 4).length≤256^4:=aer (by decide) h2;have h4:(256:Nat)^4=4294967296:=rfl;rw[kX (by omega)];omega
def bO(seq:Int)(s:BA):List UInt8:=le .i64 8 seq++le .i64 4 s.size++s.data.toList
def uT(seq:Int)(s:BA):(bO seq s).length=12+s.size:=by
 simp only[bO,adD,aB];rfl
def jI(D:aA)(at' to seq:Int):Option (List UInt8×Int):=
 if to≤at' then none else match jH (D.read at').1.data.toList with
 |none=>none
 |some (m,j,d)=>
  if j≠0∨jF 8 (d.data.toList,false)≠seq then none
  else if(dG 4 (dG 8 (d.data.toList,false))).2=true∨32768<jF 4 (dG 8 (d.data.toList,false)) then none
  else match take D at' to m (12+jF 4 (dG 8 (d.data.toList,false))) with
  |none=>none
  |some t=>some (t.drop 12,at'+(dX (12+jF 4 (dG 8 (d.data.toList,false))).toNat:Int))
def wi:Option (List UInt8×Int)→Value
 |none=>.tuple ⟨[.string .empty,.i 0,.bool false]⟩
 |some (l,a)=>.tuple ⟨[.string (bs l),.i a,.bool true]⟩
def vM{D:aA}{at' number:Int}{size:Nat}:∀(n i:Nat) {t:List UInt8},kj D at' number size i n=some t→104* i≤size→size≤104* (i+n)→t.length=size-104* i
 |0,i,t,h,h1,h2=>by
  simp only[kj,adU.injEq] at h;subst h;simp;omega
 |n+1,i,t,h,h1,h2=>by
  rw[lX] at h;split at h
  ·cases h
  ·rename_i m j d hv;split at h
   ·rename_i hc;cases ht:kj D at' number size (i+1) n with
    |none=>rw[ht] at h;cases h
    |some u=>
     rw[ht] at h;simp only[ael,adU.injEq] at h;subst h;have hd:d.data.toList.length=d.size:=rfl;by_cases h3:104* (i+1)≤size
     ·have:=vM n (i+1) ht h3 (by omega);rw[adD,this,hd,hc.2.2];omega
     ·
      have hz:∀(n i:Nat) {u:List UInt8},kj D at' number size i n=some u→size≤104* i→u.length=0:=by
       intro n
       induction n with
       |zero=>intro i u h _;simp only[kj,adU.injEq] at h;subst h;rfl
       |succ n ih=>
        intro i u h hle;rw[lX] at h;split at h
        ·cases h
        ·rename_i m j d hv;split at h
         ·rename_i hc;cases ht:kj D at' number size (i+1) n with
          |none=>rw[ht] at h;cases h
          |some v=>
           rw[ht] at h;simp only[ael,adU.injEq] at h;subst h;have:=ih (i+1) ht (by omega);have hd:d.data.toList.length=d.size:=rfl;rw[adD,this,hd,hc.2.2];omega
         ·cases h
      have:=hz n (i+1) ht (by omega);rw[adD,this,hd,hc.2.2];omega
   ·cases h
def take_length{D:aA}{at' to number size:Int}{t:List UInt8}(h:take D at' to number size=some t):(t.length:Int)=size∧0≤at'∧at'+(dX size.toNat:Int)≤to∧to≤(D.safe.length:Int)∧0≤size:=by
 unfold take at h;split at h
 ·cases h
 ·rename_i hc;have hs:size.toNat≤104* dX size.toNat:=by unfold dX;split<;>omega
  have:=vM (dX size.toNat) 0 h (by omega) (by omega);omega
section
variable {W w:World} {L:LH} {k d:Nat} {D:aA}
def uA{r n:Nat}{x:List UInt8×Bool}{K:VK}(h:St W w L)(hk:L[k]?=some (yW r (bs x.1) x.2))(hl:x.1.length<1099511627776)(hn:1≤n∧n≤8)
 (hK:∀w',St W w' (L.set k (yW r (bs (dG n x).1) (dG n x).2))→K (.i (jF n x)) w'):ao (some ⟨r,0,none⟩) (n:Int) K w:=by
 refine wT h hk ?_;have em:min2 (max2 (n:Int) 1) 8=((n:Nat):Int):=by unfold min2 max2;split<;>split<;>omega
 rw[em];obtain⟨l,t⟩:=x;unfold dG jF at hK;dsimp only at hK hl⊢;by_cases hc:t=true∨l.length<n
 ·rw[if_pos hc,if_pos hc] at hK;have et:oD (bs l) t ((n:Nat):Int)=true:=by
   unfold oD;rcases hc with h1|h1
   ·rw[h1];rfl
   ·rw[bF,decide_eq_true (by omega)];simp
  unfold yX tG;rw[et,if_pos rfl,if_pos rfl];exact hK
 ·rw[if_neg hc,if_neg hc] at hK;have ht:t=false:=by cases t<;>simp_all
  have et:oD (bs l) t ((n:Nat):Int)=false:=by
   unfold oD;rw[ht,bF,decide_eq_false (by omega)];rfl
  unfold yX tG;rw[et,adB,lR,lQ];exact hK
def AR{r:Nat}{s:BA}{t:Bool}{K:VK}(h:St W w L)(hk:L[k]?=some (yW r s t))(hK:K (.bool t) w):bD (some ⟨r,0,none⟩) K w:=by
 unfold yW at hk;unfold bD;simp only[nz,ady,adz];refine bR h hk rfl ?_;simp only[nz,ady,adz];exact hK
def qI(n:Nat)(x:List UInt8×Bool):(dG n x).1.length≤x.1.length:=by unfold dG;split<;>simp
def Kv{at' to seq:Int}{K:VK}(h:St W w L)(hk:L[k]?=some (fA d D))(ik:D.Ok)(vE:0≤at')(OQ:to≤(D.safe.length:Int))
 (hK:∀w',St W w' L→K (wi (jI D at' to seq)) w'):cO (some ⟨d,0,none⟩) at' to seq K w:=by
 have rN:=ik.mC;unfold jI at hK;unfold cO;refine dJ (fun h1=>?_) (fun h1=>?_)
 ·rw[if_pos (by omega)] at hK;exact hK w h
 rw[if_neg (by omega)] at hK;refine oB h hk ik ?_;simp only[nz,ady,adz];have oE:=uh ik (i:=at') ⟨by omega,by omega⟩;generalize hx:(D.read at').1=X at *;rw[show X=bs X.data.toList from rfl];refine xW h (by rw[cN];omega) fun w h=>?_;cases hv:jH X.data.toList with
 |none=>
  rw[hv] at hK;unfold pQ;simp only[nz,ady,adz];simp only[sV,adW,ad6,adE,ady,true_and];simp only[nz,ady,adz];refine ic h fun r1 w h=>?_;refine⟨trivial,iU (k:=0) h rfl (adH rfl) (by simp[Value.oneCell']) fun w h=>?_⟩;rw[fZ (by simp)] at h;simp only[nz,ady,adz] at h;refine bR (k:=0) h rfl rfl ?_;simp only[nz,ady,adz];refine oK h fun q w h=>?_;simp only[nz,ady,adz];refine uA (k:=0) (n:=8) (x:=([],false)) h rfl (by decide) (by decide) fun w h=>?_;simp only[nz,ady,adz] at h⊢;unfold cO.j1;simp only[nz,ady,adz];exact hK w h.drop.drop
 |some y=>
  obtain⟨m,j,dd⟩:=y;rw[hv] at hK;dsimp only at hK;have VH:=yi hv;have wC:dd.data.toList.length=dd.size:=rfl;unfold pQ;simp only[nz,ady,adz];simp only[sV,adW,ad6,adE,ady,true_and];simp only[nz,ady,adz];refine ic h fun r1 w h=>?_;refine⟨trivial,iU (k:=0) h rfl (adH rfl) (by simp[Value.oneCell']) fun w h=>?_⟩;rw[fZ (by simp)] at h;simp only[nz,ady,adz] at h;refine bR (k:=0) h rfl rfl ?_;simp only[nz,ady,adz];rw[show dd=bs dd.data.toList from rfl];refine oK h fun q w h=>?_;simp only[nz,ady,adz];have n1:=qI 8 (dd.data.toList,false);dsimp only at n1;refine uA (k:=0) (n:=8) (x:=(dd.data.toList,false)) h rfl (by dsimp only;omega) (by decide) fun w h=>?_;simp only[nz,ady,adz] at h⊢;refine bR (k:=1) h rfl (v:=.i j) rfl ?_;simp only[nz,ady,adz];have stop:∀w,(∀w',St W w' L→K (wi none) w')→St W w (yW q (bs (dG 8 (dd.data.toList,false)).1) (dG 8 (dd.data.toList,false)).2::pt r1 [.i m,.i j,.string (bs dd.data.toList)]::L)→cO.j1 K (some ⟨q,0,none⟩) r1 (some ⟨d,0,none⟩) at' to true w:=fun w hK h=>by
   unfold cO.j1;simp only[nz,ady,adz];exact hK w h.drop.drop
  refine qt (fun hj=>?_) (fun hj=>?_)
  ·rw[if_pos (.inl hj)] at hK;exact stop w hK h
  by_cases hq:jF 8 (dd.data.toList,false)=seq
  ·rw[if_neg (by rintro(hh|hh);exact hh hj;exact hh hq)] at hK;have eb:(jF 8 (dd.data.toList,false)!=seq)=false:=by rw[hq];exact bne_self_eq_false seq
   rw[eb];unfold cO.j1;simp only[nz,ady,adz];refine uA (k:=0) (n:=4) (x:=dG 8 (dd.data.toList,false)) h rfl (by omega) (by decide) fun w h=>?_;simp only[nz,ady,adz] at h⊢;refine AR (k:=0) h rfl ?_;simp only[nz,ady,adz];have A5:=DJ (dG 8 (dd.data.toList,false));generalize hz:dG 4 (dG 8 (dd.data.toList,false))=z at *;generalize T8:jF 4 (dG 8 (dd.data.toList,false))=n6 at *;have RP:∀w,(∀w',St W w' L→K (wi none) w')→St W w (yW q (bs z.1) z.2::pt r1 [.i m,.i j,.string (bs dd.data.toList)]::L)→cO.j2 K r1 (some ⟨d,0,none⟩) at' to n6 true w:=fun w hK h=>by
    unfold cO.j2;simp only[nz,ady,adz];exact hK w h.drop.drop
   refine pO (fun ht=>?_) (fun ht=>?_)
   ·rw[if_pos (.inl ht)] at hK;exact RP w hK h
   by_cases hm:32768<n6
   ·rw[if_pos (.inr hm)] at hK;rw[decide_eq_true hm];exact RP w hK h
   ·rw[if_neg (by rintro(hh|hh);(rw[ht] at hh;cases hh);exact hm hh)] at hK;rw[decide_eq_false hm];unfold cO.j2;simp only[nz,ady,adz];refine bR (k:=1) h rfl (v:=.i m) rfl ?_;simp only[nz,ady,adz];have ew:adx.wrap (12+n6)=12+n6:=ah (by omega);rw[ew];refine Dh (k:=k+2) h (by rw[adR,adR];exact hk) ik fun w h=>?_;cases ht:take D at' to m (12+n6) with
    |none=>
     rw[ht] at hK;unfold o0;simp only[nz,ady,adz];exact hK w h.drop.drop
    |some t=>
     rw[ht] at hK;dsimp only at hK;obtain⟨l1,l2,l3,l4,l5⟩:=take_length ht;unfold o0;simp only[nz,ady,adz];refine kA h fun w h=>?_;unfold kD;refine⟨⟨by omega,by rw[bF];omega⟩,?_⟩;rw[show(12:Int).toNat=12 from rfl,lQ];obtain⟨p,hp⟩:=adL (show 0≤12+n6 by omega);rw[hp] at hK⊢l3;refine nP (by omega) ?_;simp only[nz,ady,adz];rw[adB] at hK l3;have XN:adx.wrap (at'+(dX p:Int))=at'+(dX p:Int):=ah (by omega);rw[XN];exact hK w h.drop.drop
  ·rw[if_pos (.inr hq)] at hK;have eb:(jF 8 (dd.data.toList,false)!=seq)=true:=by simp[hq]
   rw[eb];exact stop w hK h
def HO{seq:Int}{s:BA}{K:VK}(h:St W w L)(hs:s.size≤1000000)(hK:∀w',St W w' L→K (.string (bs (bO seq s))) w'):kZ seq s K w:=by
 have hd:s.data.toList.length=s.size:=rfl;unfold kZ;refine⟨trivial,?_⟩;refine ic h fun p w hs=>?_;have hs:St W w (buf p []::L):=by
  have h2:=(hs.push (A:=own none 0 0 1 (([]:List UInt8).map ry)) (o5 1)).perm (ad2.swap _ _ _);exact qa (k:=0) (L:=buf p []::L) (A:=buf p []) rfl rfl h2
 refine iT (k:=0) hs rfl (by simp) fun w hs=>?_;rw[show(min2 (max2 8 1) 8).toNat=8 from rfl] at hs;simp only[nz,ady,adz] at hs⊢;refine iT (k:=0) hs rfl (by simp only[adD,aB,ad6];omega) fun w hs=>?_;rw[show(min2 (max2 4 1) 8).toNat=4 from rfl] at hs;simp only[nz,ady,adz] at hs⊢;refine nB (k:=0) hs rfl (by simp only[adD,aB,ad6];omega) fun w hs=>?_;simp only[nz,ady,adz] at hs⊢;refine ki (k:=0) hs rfl ?_;simp only[nz,ady,adz];rw[aed];exact hK w hs.drop
structure PJ where
 lo:Int
 hi:Int
 at':Int
 seq:Int
 fJ:Bool
def ou(d:Nat)(J:PJ):LV:=[.p (some ⟨d,0,none⟩),.i J.lo,.i J.hi,.i J.at',.i J.seq,.bool J.fJ]
structure PJ.Ok(J:PJ)(D:aA):Prop where
 lo:0≤J.lo
 EB:J.lo≤J.at'
 N9:J.at'≤J.hi
 hi:J.hi≤(D.safe.length:Int)
 seq:0≤J.seq∧J.seq≤1152921504606850000
def room(J:PJ)(n:Int):Prop:=0≤n∧n≤32768∧(dX (12+n.toNat):Int)≤J.hi-J.at'
instance(J:PJ)(n:Int):Decidable (room J n):=by unfold room;infer_instance
def xQ(J:PJ)(s:BA)(R:aA×Int):aA×PJ×Int:=
 if R.2≠0 then(R.1,{J with fJ:=true},R.2) else(R.1,{J with at':=J.at'+(dX (12+s.size):Int),seq:=J.seq+1},0)
def pJ(D:aA)(J:PJ)(number:Int)(s:BA):aA×PJ×Int:=
 if J.fJ=true then(D,J,9)
 else if number<1∨1152921504606846976<number then(D,J,1)
 else if ¬room J s.size∨1152921504606846976≤J.seq then(D,J,6)
 else xQ J s (cR D J.at' J.hi number (bs (bO (J.seq+1) s)))
section
variable {r:Nat} {J:PJ}
def Oj{K:VK}(h:St W w L)(hk:L[k]?=some (pt r (ou d J)))(hK:K (.i J.seq) w):eE (some ⟨r,0,none⟩) K w:=by
 unfold eE;simp only[nz,ady,adz];refine bR h hk rfl ?_;simp only[nz,ady,adz];exact hK
def El{K:VK}(h:St W w L)(hk:L[k]?=some (pt r (ou d J)))(hK:∀w',St W w' (L.set k (pt r (ou d {J with at':=J.lo})))→K (.tuple ⟨[]⟩) w'):dD (some ⟨r,0,none⟩) K w:=by
 unfold dD;simp only[nz,ady,adz];refine bR h hk rfl ?_;simp only[nz,ady,adz];refine mL h hk (adH rfl) rfl fun w h=>?_;exact hK w h
def AS{n:Int}{K:VK}(h:St W w L)(hk:L[k]?=some (pt r (ou d J)))(hJ:J.Ok D)(ik:D.Ok)(hK:∀w',St W w' L→K (.bool (decide (room J n))) w'):dP (some ⟨r,0,none⟩) n K w:=by
 have rN:=ik.mC;obtain⟨j1,j2,j3,j4,j5⟩:=hJ;unfold dP;refine kA h fun w h=>?_;have hh:=hK w h;have no: ¬room J n→K (.bool false) w:=fun hn=>by rw[decide_eq_false hn] at hh;exact hh
 simp only[nz,ady,adz];refine dJ (fun h1=>?_) (fun h1=>no (fun hr=>by have:=hr.1;omega));refine dJ (fun h2=>?_) (fun h2=>no (fun hr=>by have:=hr.2.1;omega));refine bR h hk rfl ?_;simp only[nz,ady,adz];refine bR h hk rfl ?_;simp only[nz,ady,adz];obtain⟨m,rfl⟩:=adL (show 0≤n by omega);have ew:adx.wrap (12+(m:Int))=((12+m:Nat):Int):=by rw[ah (by omega)];omega
 rw[ew];refine nP (by omega) ?_;simp only[nz,ady,adz];refine iV h hk rfl ?_;refine iV h hk rfl ?_;have XN:adx.wrap (J.hi-J.at')=J.hi-J.at':=ah (by omega);rw[XN];have:decide ((dX (12+m):Int)≤J.hi-J.at')=decide (room J m):=by
  rw[decide_eq_decide];unfold room;rw[adB];omega
 rw[this];exact hh
def KB{k2:Nat}{number:Int}{s:BA}{K:VK}(h:St W w L)(hk:L[k]?=some (pt r (ou d J)))(rj:L[k2]?=some (fA d D))(ji:k≠k2)(hJ:J.Ok D)(ik:D.Ok)(hl:D.later.length<1000000)(hs:s.size≤reachBytes)
 (hK:∀w',St W w' ((L.set k2 (fA d (pJ D J number s).1)).set k (pt r (ou d (pJ D J number s).2.1)))→K (.i (pJ D J number s).2.2) w'):aR (some ⟨r,0,none⟩) number s K w:=by
 have dh:s.size≤140737488351232:=hs;have rN:=ik.mC;obtain⟨j1,j2,j3,j4,j5⟩:=hJ;have hJ:J.Ok D:=⟨j1,j2,j3,j4,j5⟩;have same:∀e,pJ D J number s=(D,J,e)→∀w,St W w L→K (.i e) w:=fun e he w h=>by
  have:=hK w;rw[he] at this;refine this ?_;rw[kE rj,kE hk];exact h
 unfold aR;simp only[nz,ady,adz];refine bR h hk rfl ?_;simp only[nz,ady,adz];refine pO (fun OR=>same 9 (by unfold pJ;rw[if_pos OR]) w h) (fun OR=>?_);have TR: ¬J.fJ=true:=by rw[OR];exact ae4
 have bad:(number<1∨1152921504606846976<number)→aR.j1 K (some ⟨r,0,none⟩) s number true w:=fun hb=>by
  unfold aR.j1;simp only[nz,ady,adz];exact same 1 (by unfold pJ;rw[if_neg TR,if_pos hb]) w h
 refine dJ (fun h1=>bad (.inl h1)) (fun h1=>?_);by_cases h2:1152921504606846976<number
 ·rw[decide_eq_true h2];exact bad (.inr h2)
 rw[decide_eq_false h2];have hnb: ¬(number<1∨1152921504606846976<number):=by omega
 unfold aR.j1;simp only[nz,ady,adz];refine AS h hk hJ ik fun w h=>?_;have full:(¬room J s.size∨1152921504606846976≤J.seq)→∀w,St W w L→aR.j2 K (some ⟨r,0,none⟩) s number true w:=fun hb w h=>by
  unfold aR.j2;simp only[nz,ady,adz];exact same 6 (by unfold pJ;rw[if_neg TR,if_neg hnb,if_pos hb]) w h
 simp only[nz,ady,adz];by_cases hr:room J s.size
 case neg=>
  rw[decide_eq_false hr];simp only[nz,ady,adz];exact full (.inl hr) w h
 rw[decide_eq_true hr];simp only[nz,ady,adz];refine bR h hk rfl ?_;simp only[nz,ady,adz];by_cases HC:1152921504606846976≤J.seq
 ·have:decide (J.seq≥1152921504606846976)=true:=decide_eq_true HC;rw[this];exact full (.inr HC) w h
 have e0:decide (J.seq≥1152921504606846976)=false:=decide_eq_false HC;rw[e0];unfold pJ at hK;rw[if_neg TR,if_neg hnb,if_neg (by rintro(hh|hh);exact hh hr;exact HC hh)] at hK;unfold aR.j2;simp only[nz,ady,adz];refine kA h fun w h=>?_;refine bR h hk rfl ?_;simp only[nz,ady,adz];refine bR h hk rfl ?_;simp only[nz,ady,adz];refine bR h hk rfl ?_;simp only[nz,ady,adz];refine bR h hk rfl ?_;simp only[nz,ady,adz];have ew:adx.wrap (J.seq+1)=J.seq+1:=ah (by omega);rw[ew];refine HO h (by have:=hr.2.1;omega) fun w h=>?_;simp only[nz,ady,adz];refine iV h hk rfl ?_;refine iV h hk rfl ?_;refine iV h hk rfl ?_;refine iV h hk rfl ?_;have wB:(bs (bO (J.seq+1) s)).size=12+s.size:=by rw[bF,uT]
 have OV:=hr.2.1;refine BE (k:=k2) h rj ik (by omega) (by rw[wB];show _≤140737488351232;omega) fun w h=>?_;simp only[nz,ady,adz];have VJ:dX (12+s.size)≤400:=by unfold dX;split<;>omega
 have KO:=(DP (at':=J.at') (to:=J.hi) (number:=number) (s:=bs (bO (J.seq+1) s)) ik (by rw[wB];omega)).1;have xD:(L.set k2 (fA d (lay D J.at' J.hi number (bs (bO (J.seq+1) s))).1))[k]?=some (pt r (ou d J)):=by rw[List.getElem?_set_ne (fun hh=>ji hh.symm)];exact hk
 refine iV h xD rfl ?_;unfold cR at hK;generalize hL:lay D J.at' J.hi number (bs (bO (J.seq+1) s))=R at *;obtain⟨D1,e1⟩:=R;dsimp only at h KO xD hK⊢;have fin:∀(R:aA×Int) w,(∀w',St W w' ((L.set k2 (fA d (xQ J s R).1)).set k (pt r (ou d (xQ J s R).2.1)))→K (.i (xQ J s R).2.2) w')→
  St W w (L.set k2 (fA d R.1))→aR.j3 K (some ⟨r,0,none⟩) s R.2 w:=fun R w hK h=>by
  unfold xQ at hK;obtain⟨D2,e2⟩:=R;dsimp only at hK h⊢;have Se:(L.set k2 (fA d D2))[k]?=some (pt r (ou d J)):=by rw[List.getElem?_set_ne (fun hh=>ji hh.symm)];exact hk
  unfold aR.j3;refine qt (fun he=>?_) (fun he=>?_)
  ·rw[if_pos he] at hK;simp only[nz,ady,adz];refine mL h Se (adH rfl) rfl fun w h=>?_;exact hK w h
  ·rw[if_neg (fun hh=>hh he)] at hK;refine kA h fun w h=>?_;simp only[nz,ady,adz];refine bR h Se rfl ?_;simp only[nz,ady,adz];have XN:adx.wrap (12+(s.size:Int))=((12+s.size:Nat):Int):=by rw[ah (by omega)];omega
   rw[XN];refine nP (by omega) ?_;simp only[nz,ady,adz];refine iV h Se rfl ?_;have ew3:adx.wrap (J.at'+(dX (12+s.size):Int))=J.at'+(dX (12+s.size):Int):=ah (by omega);rw[ew3];refine mL h Se (adH rfl) rfl fun w h=>?_;refine bR h (iF Se) rfl ?_;simp only[nz,ady,adz];rw[ew];refine mL h (iF Se) (adH rfl) rfl fun w h=>?_;rw[aeO] at h;exact hK w h
 have eqb:∀e:Int,(e==0)=decide (e=0):=fun e=>by by_cases he:e=0<;>simp[he]
 by_cases he:e1=0
 ·rw[if_neg (fun hh=>hh he: ¬e1≠0)] at hK;have:(e1==0)=true:=by rw[eqb];exact decide_eq_true he
  rw[this];simp only[nz,ady,adz];refine bR h xD rfl ?_;simp only[nz,ady,adz];refine qy (k:=k2) h (iF rj) KO fun w h=>?_;rw[aeO] at h;simp only[nz,ady,adz];exact fin D1.sync w hK h
 ·rw[if_pos he] at hK;have:(e1==0)=false:=by rw[eqb];exact decide_eq_false he
  rw[this];simp only[nz,ady,adz];exact fin (D1,e1) w hK h
end
end
end Go.Sep
namespace Go.Up
open Go.Sep Go.Den Go.RowKit Go.Prog Go.Md Go.bI
def nb(n:Nat):List UInt8:=(ae7 16).map fun i=>UInt8.ofNat (n/256^i%256)
def ra(n:Nat):(nb n).length=16:=by simp[nb]
def EO(m i:Nat)(hi:i<8):Value.int .u8 (IntKind.u8.wrap (shr .u64 (m:Int) (adx.wrap (8* (i:Int)))))=ry (UInt8.ofNat (m/256^i%256)):=by
 rw[ah (by omega)];unfold ry shr;rw[UInt8.toNat_ofNat_of_lt' (by show _<256;omega),Int.fdiv_eq_ediv_of_nonneg _ (Int.le_of_lt (Int.pow_pos (by decide)))]
 congr 1
 have e8:∀x:Int,IntKind.u8.wrap x=x%256:=fun x=>by simp[IntKind.wrap,IntKind.bits,IntKind.signed]
 have e2:(8* (i:Int)).toNat=8* i:=by omega
 have e4:min (8* i) IntKind.u64.bits=8* i:=by show min (8* i) 64=_;omega
 have e3:(2:Int)^(8* i)=((256^i:Nat):Int):=by rw[Int.pow_mul];norm_cast
 rw[e8,e2,e4,e3];omega
def Wx(n i:Nat)(hi:i<8):n%18446744073709551616/256^i%256=n/256^i%256:=by
 match i,hi with
 |0,_|1,_|2,_|3,_|4,_|5,_|6,_|7,_=>omega
def Wy(n i:Nat)(hi:i<8):n/18446744073709551616/256^i%256=n/256^(8+i)%256:=by
 match i,hi with
 |0,_|1,_|2,_|3,_|4,_|5,_|6,_|7,_=>omega
section
variable {W:World} {L:LH} {K:VK} {X:WK}
def yd{r o:Nat}{cs:LV}{v:Value}{f:LV→LH}[i:Lc (pt r) L cs f](ho:o<cs.length)(h1:v.oneCell'=true)(h:T W (f (cs.set o v)) X):T W L (st ⟨r,o,none⟩ v X):=fun w hs=>by
 obtain⟨k,hk,e⟩:=i.at_;exact mL hs hk ho h1 fun w' h'=>h w' (by rw[e];exact h')
def RO{r:Nat}{l:List UInt8}{f:LV→LH}{K:BA→WK}[i:Lc (pt r) L (l.map ry) f](h:T W L (K (bs l))):T W L (Rg (some ⟨r,0,none⟩) l.length K):=fun w hs=>
 let⟨_,hk,_⟩:=i.at_;N8 hs hk rfl (h w hs)
def RR(b:OA)(c e:Nat):tA b c 0 e=b:=by
 unfold tA;split
 ·rfl
 ·cases b with
  |none=>rfl
  |some a=>simp[Addr.add]
def Pu{b:OA}{n c e:Nat}{K:OA→Nat→Nat→WK}(h:T W L (K b n c)):T W L (oC b n c e none none K):=by
 unfold oC;rw[RR];exact h
def Hu(n i:Nat):LV:=(ae7 16).map fun j=>if j<i∨8≤j∧j<8+i then ry (UInt8.ofNat (n/256^j%256)) else .int .u8 0
def Ry{n:Nat}(h:T W L (K (.string (bs (nb n))))):T W L (nD (nm n) K):=by
 unfold nD
 repeat' first|apply ww|apply wm;intro _|apply wb
 rename_i r1 r2;intro w hs;refine⟨fun vs w=>∃i:Nat,i≤8∧vs=[.p (some (ad r1 0)),.string .empty,.p (some (ad r2 0)),.i (i:Int)]∧St W w (pt r2 (Hu n i)::pt r1 (nm n)::L),
  fun vs _=>match vs with|[_,_,_,.int _ j]=>8-j.toNat|_=>0,⟨0,adK _,rfl,hs⟩,?_⟩
 rintro a1 s1 a2 n1 w2 ⟨i,hi,e,hs⟩;cases e
 refine T.at ?_ hs;refine az (fun h1=>?_) (fun h1=>?_)
 ·have a8:i<8:=by have:=of_decide_eq_true h1;omega
  have e8:adx.wrap (8* (i:Int))=8* (i:Int):=ah (by omega);have e9:adx.wrap (8+(i:Int))=((8+i:Nat):Int):=by rw[ah (by omega)];omega
  have e5:adx.wrap ((i:Int)+1)=((i+1:Nat):Int):=by rw[ah (by omega)];omega
  simp only[ft,adE,e8,e9,e5,adB,ae8]
  repeat' first|apply ww|apply wm;intro _|apply wb|with_reducible first|refine c9 (by omega) ?_|refine yd (by simp[Hu];omega) rfl ?_|fail
  rw[←e8,EO _ _ a8,EO _ _ a8,Wx _ _ a8,Wy _ _ a8];have e:((Hu n i).set i (ry (UInt8.ofNat (n/256^i%256)))).set (8+i) (ry (UInt8.ofNat (n/256^(8+i)%256)))=Hu n (i+1):=by
   apply aeV;intro j;rw[ad7,ad7];simp only[Hu,aeF,ad1,List.length_range,aen];by_cases h1:8+i=j
   ·subst h1;rw[if_pos rfl,if_pos (by omega),ae3 (by omega),ael,if_pos (by omega)]
   ·rw[if_neg h1];by_cases h2:i=j
    ·subst h2;rw[if_pos rfl,if_pos (by omega),ae3 (by omega),ael,if_pos (by omega)]
    ·rw[if_neg h2];by_cases h3:j<16
     ·rw[ae3 h3,ael,ael];by_cases h4:j<i∨8≤j∧j<8+i
      ·rw[if_pos h4,if_pos (by omega)]
      ·rw[if_neg h4,if_neg (by omega)]
     ·rw[aeB (by simpa using h3)];rfl
  rw[e];exact fun w3 h3=>⟨⟨i+1,a8,rfl,h3⟩,by show 8-((i+1:Nat):Int).toNat<8-(i:Int).toNat;omega⟩
 ·have he:i=8:=by have:=of_decide_eq_false h1;omega
  subst he;have e:Hu n 8=(nb n).map ry:=by
   unfold Hu nb;rw[afb];apply aeR;intro j hj;rw[if_pos (by have:=List.mem_range.1 hj;omega)];rfl
  rw[e];refine Pu ?_;have:=RO (W:=W) (L:=Sep.pt r2 ((nb n).map ry)::Sep.pt r1 (nm n)::L) (r:=r2) (l:=nb n) (K:=fun s2=>K (.string s2)) (by exact T.dp h);rw[ra] at this;exact this
def Wn{A j:Nat}{c:UInt8}(hj:j<8)(hA:A<256^j):bG .u64 .or (A:Int) (shl .u64 (IntKind.u64.wrap (c.toNat:Int)) (8* (j:Int)))=((A+c.toNat* 256^j:Nat):Int):=by
 have hc:=c.toNat_lt;have KJ:256^j=2^(8* j):=by rw[show(256:Nat)=2^8 from rfl,←Nat.pow_mul]
 have aag:c.toNat* 2^(8* j)+2^(8* j)≤2^64:=by
  have h1:(c.toNat+1)* 2^(8* j)≤2^8* 2^(8* j):=aem _ hc;rw[←Nat.pow_add,aeU,Nat.one_mul] at h1;exact Nat.le_trans h1 (aer (by decide) (by omega))
 rw[KJ] at hA;have ew:IntKind.u64.wrap (c.toNat:Int)=(c.toNat:Int):=oJ (by omega);have esh:shl .u64 (c.toNat:Int) (8* (j:Int))=((c.toNat* 2^(8* j):Nat):Int):=by
  unfold shl;have h1:(8* (j:Int)).toNat=8* j:=by omega
  have h2:min (8* j) IntKind.u64.bits=8* j:=by show min (8* j) 64=_;omega
  rw[h1,h2];have:((c.toNat:Int)* 2^(8* j))=((c.toNat* 2^(8* j):Nat):Int):=by norm_cast
  rw[this];exact oJ (by omega)
 rw[ew,esh,KJ];show IntKind.u64.wrap (((BitVec.ofInt 64 (A:Int)|||BitVec.ofInt 64 ((c.toNat* 2^(8* j):Nat):Int)).toNat:Nat):Int)=_;rw[BitVec.toNat_or];have t1:(BitVec.ofInt 64 (A:Int)).toNat=A:=by simp only[BitVec.toNat_ofInt];omega
 have t2:(BitVec.ofInt 64 ((c.toNat* 2^(8* j):Nat):Int)).toNat=c.toNat* 2^(8* j):=by simp only[BitVec.toNat_ofInt];omega
 rw[t1,t2,Nat.or_comm,←Nat.shiftLeft_eq,←Nat.shiftLeft_add_eq_or_of_lt hA,Nat.add_comm,Nat.shiftLeft_eq];exact oJ (by omega)
def Ds{l:List UInt8}{i:Nat}{K:UInt8→WK}{c:UInt8}(hc:l[i]?=some c)(h:T W L (K c)):T W L (uQ (bs l) (i:Int) K):=fun w hs=>⟨c,⟨by omega,by rw[adB];exact hc⟩,h w hs⟩
def zS:∀(l m:List UInt8),kQ (l++m)=kQ l+256^l.length* kQ m
 |[],m=>by simp[kQ]
 |c::l,m=>by simp only[aeN,kQ,zS l m,adW,Nat.pow_succ];rw[Nat.mul_add,Nat.add_assoc,ae' (256^l.length) 256,Nat.mul_assoc]
def Kq(l:List UInt8):Nat:=if l.length<16 then 0 else kQ (l.take 16)
def GL{l:List UInt8}(hl:l.length<1099511627776)(h:T W L (K (.tuple ⟨[.agg ⟨nm (Kq l)⟩,.bool (decide (16≤l.length))]⟩))):T W L (jX (bs l) K):=by
 unfold jX Kq at *;rw[bF]
 repeat' first|apply ww|apply wm;intro _|apply wb
 rename_i r1 r2;refine az (fun h1=>?_) (fun h1=>?_)
 ·have h2:l.length<16:=by have:=of_decide_eq_true h1;omega
  rw[if_pos h2,decide_eq_false (by omega)] at h
  repeat' first|apply ww|apply wm;intro _|apply wb
  exact T.dp h
 have h2: ¬l.length<16:=by have:=of_decide_eq_false h1;omega
 rw[if_neg h2,decide_eq_true (by omega)] at h;intro w hs;refine⟨fun vs w=>∃i:Nat,i≤8∧vs=[.p (some (ad r1 0)),.bool false,.p (some (ad r2 0)),.i (i:Int)]∧St W w (Sep.pt r2 [.u (kQ ((l.drop 8).take i):Int),.u (kQ (l.take i):Int)]::Sep.pt r1 [.u 0,.u 0]::L),
  fun vs _=>match vs with|[_,_,_,.int _ j]=>8-j.toNat|_=>0,⟨0,adK _,rfl,hs⟩,?_⟩
 rintro a1 b1 a2 n1 w2 ⟨i,hi,e,hs⟩;cases e
 refine T.at ?_ hs;refine az (fun h1=>?_) (fun h1=>?_)
 ·have a8:i<8:=by have:=of_decide_eq_true h1;omega
  have e8:adx.wrap (8* (i:Int))=8* (i:Int):=ah (by omega);have e9:adx.wrap (8+(i:Int))=((8+i:Nat):Int):=by rw[ah (by omega)];omega
  have e5:adx.wrap ((i:Int)+1)=((i+1:Nat):Int):=by rw[ah (by omega)];omega
  have g1:i<l.length:=by omega
  have g2:8+i<l.length:=by omega
  have v1:=oZ (l.take i);have v2:=oZ ((l.drop 8).take i);rw[adF,ae2 (by omega)] at v1;rw[adF,adM,ae2 (by omega)] at v2;have c1:=adA g1;have c2:=adA g2;simp only[ft,adE,e8,e9,e5]
  repeat' first|apply ww|apply wm;intro _|apply wb
  refine Ds c1 ?_
  repeat' first|apply ww|apply wm;intro _|apply wb|with_reducible first|refine c9 (by omega) ?_|refine Ds c1 ?_|refine Ds c2 ?_|fail
  rw[Wn a8 v1,Wn a8 v2];have t1:kQ (l.take i)+l[i].toNat* 256^i=kQ (l.take (i+1)):=by rw[aeu g1,ph,adF,ae2 (by omega)]
  have t2:kQ ((l.drop 8).take i)+l[8+i].toNat* 256^i=kQ ((l.drop 8).take (i+1)):=by
   have hd:min i (l.drop 8).length=i:=by rw[adM];omega
   rw[aeu (by rw[adM];omega),ph,adF,hd,List.getElem_drop]
  rw[t1,t2];exact fun w3 h3=>⟨⟨i+1,a8,rfl,h3⟩,by show 8-((i+1:Nat):Int).toNat<8-(i:Int).toNat;omega⟩
 ·have he:i=8:=by have:=of_decide_eq_false h1;omega
  subst he;have v1:=oZ (l.take 8);rw[adF,ae2 (by omega)] at v1;have e:l.take 16=l.take 8++(l.drop 8).take 8:=by rw[←List.take_add]
  have ev:kQ (l.take 16)=kQ (l.take 8)+18446744073709551616* kQ ((l.drop 8).take 8):=by
   rw[e,zS,adF,ae2 (by omega)]
  have e3:(256:Nat)^8=18446744073709551616:=rfl;rw[MY (kQ (l.take 16)) (by omega) (by omega)]
  repeat' first|apply ww|apply wm;intro _|apply wb
  exact T.dp h
end
class pa(b:OA)(n c:outParam Nat)(L:LH)(e:outParam Nat)(xs:outParam (LV))(f:outParam (HP→LH)):Prop where
 at_:∃k:Nat,L[k]?=some (own b n c e xs)∧∀A,f A=L.set k A
instance pa.head{b:OA}{n c e:Nat}{xs:LV}{L:LH}:pa b n c (own b n c e xs::L) e xs (fun A=>A::L):=⟨0,rfl,fun _=>rfl⟩
instance pa.tail{b:OA}{n c e:Nat}{xs:LV}{L:LH}{A:HP}{f:HP→LH}[h:pa b n c L e xs f]:pa b n c (A::L) e xs (fun B=>A::f B):=by
 obtain⟨k,h1,h2⟩:=h.at_;exact⟨k+1,h1,fun y=>by rw[h2];rfl⟩
section
variable {W:World} {L:LH} {K:VK} {X:WK} {b:OA} {n c e:Nat} {xs ys:LV} {f:HP→LH}
def Mq{s:BA}{K:OA→Nat→Nat→WK}[i:pa b n c L 1 xs f](hb:n+s.size≤140737488355328)(h:∀b' c',T W (f (own b' (n+s.size) c' 1 (xs++strCells s))) (K b' (n+s.size) c')):T W L (Bx b n c s K):=fun w hs=>by
 obtain⟨k,hk,e⟩:=i.at_;exact Bw hs hk hb fun b' c' w' h'=>h b' c' w' (by rw[e];exact h')
def Mr{r bytes:Nat}{zero:LV}{g:LV→LH}{K:OA→Nat→Nat→WK}[i:pa b n c L e xs f][j:Lc (Sep.pt r) L ys g](hy:ys.length=e)(hz:zero.length=e)(hb:(n+1)* bytes≤140737488355328)(h1:∀v∈ys,v.oneCell'=true)
 (h:∀b' c',T W (f (own b' (n+1) c' e (xs++ys))) (K b' (n+1) c'))(hm:n+1≤9223372036854775807:=by omega):T W L (gj e bytes zero b n c (some ⟨r,0,none⟩) 1 K):=fun w hs=>by
 obtain⟨k,hk,e1⟩:=i.at_;obtain⟨k2,rj,_⟩:=j.at_;refine qb hs hk (ys:=ys) (BB (o:=0) hs rj (by omega) fun j v hv=>by rw[adE];exact hv) (fun hh=>by cases hh) hz hb hm h1 fun b' c' w' h'=>h b' c' w' (by rw[e1];exact h')
def bV{i:Int}{K:Addr→WK}[l:pa b n c L e xs f](hi:0≤i∧i<n)(h:∀r,b=some ⟨r,0,none⟩→T W L (K ⟨r,i.toNat* e,none⟩)):T W L (iO b n i e K):=fun w hs=>by
 obtain⟨k,hk,_⟩:=l.at_;exact sA hs hk hi fun r hr=>h r hr w hs
def rd(r:Nat)(x:List UInt8×Bool):HP:=yW r (bs x.1) x.2
variable {r:Nat} {x:List UInt8×Bool} {g:List UInt8×Bool→LH}
def En[i:Lc (rd r) L x g](hl:x.1.length<1099511627776)(m:Nat)(hm:1≤m∧m≤8)(h:T W (g (dG m x)) (K (.i (jF m x)))):T W L (ao (some ⟨r,0,none⟩) (m:Int) K):=fun w hs=>by
 obtain⟨k,hk,e⟩:=i.at_;exact uA hs hk hl hm fun w' h'=>h w' (by rw[e];exact h')
def qY[i:Lc (rd r) L x g](hl:x.1.length<1099511627776)(h:T W (g (dG 1 x)) (K (.i (jF 1 x)))):T W L (ao (some ⟨r,0,none⟩) 1 K):=En hl 1 (by decide) h
def zH[i:Lc (rd r) L x g](hl:x.1.length<1099511627776)(h:T W (g (dG 2 x)) (K (.i (jF 2 x)))):T W L (ao (some ⟨r,0,none⟩) 2 K):=En hl 2 (by decide) h
def JS[i:Lc (rd r) L x g](hl:x.1.length<1099511627776)(h:T W (g (dG 4 x)) (K (.i (jF 4 x)))):T W L (ao (some ⟨r,0,none⟩) 4 K):=En hl 4 (by decide) h
def sS[i:Lc (rd r) L x g](hl:x.1.length<1099511627776)(h:T W (g (dG 8 x)) (K (.i (jF 8 x)))):T W L (ao (some ⟨r,0,none⟩) 8 K):=En hl 8 (by decide) h
def vA(x:List UInt8×Bool):Nat:=if x.2=true then 0 else Kq x.1
def qI(m:Nat)(x:List UInt8×Bool):(dG m x).1.length≤x.1.length:=by
 unfold dG;split
 ·exact adG _
 ·simp
def Vn(m:Nat)(x:List UInt8×Bool):List UInt8:=if x.2=true∨x.1.length<m then[] else x.1.take m
def U9[i:Lc (rd r) L x g](m:Nat)(h:T W (g (dG m x)) (K (.string (bs (Vn m x))))):T W L (cb (some ⟨r,0,none⟩) (m:Int) K):=fun w hs=>by
 obtain⟨k,hk,e⟩:=i.at_;refine BD hs (show L[k]?=some (yW r (bs x.1) x.2) from hk) fun w' h'=>?_;obtain⟨l,t⟩:=x;unfold dG Vn at h;dsimp only at h h'⊢;by_cases hc:t=true∨l.length<m
 ·rw[if_pos hc,if_pos hc] at h;have et:oD (bs l) t m=true:=by
   unfold oD;rcases hc with h1|h1
   ·rw[h1];rfl
   ·rw[bF,decide_eq_true (by omega)];simp
  unfold yX tG at *;rw[et] at h'⊢;exact h w' (by rw[e];exact h')
 ·rw[if_neg hc,if_neg hc] at h;have ht:t=false:=by cases t<;>simp_all
  have et:oD (bs l) t m=false:=by
   unfold oD;rw[ht,bF,decide_eq_false (by omega)];rfl
  unfold yX tG at *;rw[et,adB,lQ] at h';rw[et,adB,lR];exact h w' (by rw[e];exact h')
def P9(x:List UInt8×Bool):Kq (Vn 16 x)=vA x:=by
 unfold vA Vn Kq;obtain⟨l,t⟩:=x;cases t with
 |true=>rfl
 |false=>
  dsimp only;by_cases h2:l.length<16
  ·have e:(if false=true∨l.length<16 then([]:List UInt8) else l.take 16)=[]:=if_pos (Or.inr h2);rw[e];simp[h2]
  ·have e:(if false=true∨l.length<16 then([]:List UInt8) else l.take 16)=l.take 16:=if_neg (by simp;omega);rw[e,ae9,adF,if_neg (by omega),if_neg (by decide),if_neg h2];rfl
def Em[i:Lc (rd r) L x g](hl:x.1.length<1099511627776)(h:T W (g (dG 16 x)) (K (.agg ⟨nm (vA x)⟩))):T W L (bw (some ⟨r,0,none⟩) K):=by
 unfold bw
 repeat' first|apply ww|apply wm;intro _|apply wb
 refine U9 16 ?_;have hr:(Vn 16 x).length<1099511627776:=by unfold Vn;split<;>simp;omega
 repeat' first|apply ww|apply wm;intro _|apply wb|with_reducible refine GL hr ?_|fail
 rw[P9];exact T.dp h
def uz[i:Lc (rd r) L x g](h:T W L (K (.bool x.2))):T W L (bD (some ⟨r,0,none⟩) K):=fun w hs=>by
 obtain⟨k,hk,e⟩:=i.at_;exact AR hs (show L[k]?=some (yW r (bs x.1) x.2) from hk) (h w hs)
def Ou[i:Lc (rd r) L x g](h:T W L (K (.bool (!x.2&&decide (x.1=[]))))):T W L (gv (some ⟨r,0,none⟩) K):=fun w hs=>by
 obtain⟨k,hk,e⟩:=i.at_;exact GM hs (show L[k]?=some (yW r (bs x.1) x.2) from hk) (h w hs)
def Mf{α:Type}{P:α→HP}{a:α}{f:α→LH}[i:Lc P L a f](h:∀R,(∀y Y,T W (f y) Y→T W (P y::R) Y)→T W (P a::R) X):T W L X:=fun w hs=>by
 obtain⟨k,hk,e⟩:=i.at_;refine h (L.eraseIdx k) (fun y Y hy w' h'=>hy w' ?_) w (hs.focus hk);rw[e];exact St.og h' hk
def Rr[i:Lc (rd r) L x g](h:T W L (K (.i (if x.2=true then 0 else(x.1.length:Int))))):T W L (iY (some ⟨r,0,none⟩) K):=by
 unfold iY;simp only[zq,ft,adE,Option.isNone_some,cA];intro w hs;obtain⟨k,hk,e⟩:=i.at_;refine bR hs (show L[k]?=some (Sep.pt r [.string (bs x.1),.bool x.2]) from hk) rfl ?_;rw[L1];cases hx:x.2 with
 |true=>rw[jk];rw[hx,if_pos rfl] at h;exact h w hs
 |false=>
  rw[cA];refine bR hs (show L[k]?=some (Sep.pt r [.string (bs x.1),.bool x.2]) from hk) rfl ?_;rw[L0];rw[hx,if_neg (by decide)] at h;exact h w hs
variable {p:Nat} {l:List UInt8} {q:List UInt8→LH}
def Eh[i:Lc (buf p) L l q](hl:l.length<1099511627776)(m:Nat)(hm:1≤m∧m≤8){n:Int}(h:T W (q (l++le .i64 m n)) (K (.tuple ⟨[]⟩))):T W L (aD (some ⟨p,0,none⟩) (m:Int) n K):=fun w hs=>by
 obtain⟨k,hk,e⟩:=i.at_;refine iT hs hk hl fun w' h'=>h w' ?_;have em:min2 (max2 (m:Int) 1) 8=((m:Nat):Int):=by unfold min2 max2;split<;>split<;>omega
 rw[em,adB] at h';rw[e];exact h'
def pS[i:Lc (buf p) L l q](hl:l.length<1099511627776){n:Int}(h:T W (q (l++le .i64 1 n)) (K (.tuple ⟨[]⟩))):T W L (aD (some ⟨p,0,none⟩) 1 n K):=Eh hl 1 (by decide) h
def zG[i:Lc (buf p) L l q](hl:l.length<1099511627776){n:Int}(h:T W (q (l++le .i64 2 n)) (K (.tuple ⟨[]⟩))):T W L (aD (some ⟨p,0,none⟩) 2 n K):=Eh hl 2 (by decide) h
def JN[i:Lc (buf p) L l q](hl:l.length<1099511627776){n:Int}(h:T W (q (l++le .i64 4 n)) (K (.tuple ⟨[]⟩))):T W L (aD (some ⟨p,0,none⟩) 4 n K):=Eh hl 4 (by decide) h
def uy[i:Lc (buf p) L l q](hl:l.length<1099511627776){n:Int}(h:T W (q (l++le .i64 8 n)) (K (.tuple ⟨[]⟩))):T W L (aD (some ⟨p,0,none⟩) 8 n K):=Eh hl 8 (by decide) h
def qc[i:Lc (buf p) L l q](h:T W L (K (.string (bs l)))):T W L (bM (some ⟨p,0,none⟩) K):=fun w hs=>by
 obtain⟨k,hk,e⟩:=i.at_;exact ki hs hk (h w hs)
def Wc[i:Lc (buf p) L l q](h:∀b c R,(∀l' b n c Y,n=l'.length→T W (q l') Y→T W (Sep.pt p [.l b n c]::own b n c 1 (l'.map ry)::R) Y)→T W (Sep.pt p [.l b l.length c]::own b l.length c 1 (l.map ry)::R) X):T W L X:=
 Mf (P:=buf p) fun R hc w hs=>by
  obtain⟨⟨b,c⟩,hs⟩:=hs.ex;exact h b c R (fun l' b n c Y hn hy w h'=>hc l' Y hy w (by subst hn;exact St.ow (b,c) (St.join h'))) w hs.split
def Eg[i:Lc (buf p) L l q](hl:l.length<1099511627776){n:Nat}(h:T W (q (l++nb n)) (K (.tuple ⟨[]⟩))):T W L (gu (some ⟨p,0,none⟩) (nm n) K):=by
 unfold gu;refine Wc (p:=p) fun b c R hc=>?_;simp only[zq]
 repeat' first|apply ww|apply wm;intro _|apply wb|with_reducible first|refine Ry ?_|refine Mq (by rw[bF,ra];omega) fun _ _=>?_|fail
 have e:l.map ry++strCells (bs (nb n))=(l++nb n).map ry:=by rw[ad8];rfl
 rw[e];exact T.drop (hc _ _ _ _ _ (by rw[adD,bF]) h)
def Rp[i:Lc (buf p) L l q](hl:l.length<1099511627776){b:Bool}(h:T W (q (l++[if b then 1 else 0])) (K (.tuple ⟨[]⟩))):T W L (iX (some ⟨p,0,none⟩) b K):=by
 unfold iX;cases b with
 |true=>rw[jk];refine pS hl (yR ?_);exact h
 |false=>rw[cA];refine pS hl (yR ?_);exact h
end
end Go.Up
namespace Go.Up
open Go.Sep Go.Den Go.Md
def Cl{p:Int→Prop}(n:Nat)(h:∀f:Fin n,p (f.val:Int)){f:Int}(h0:0≤f)(h1:f<n):p f:=by
 have:=h ⟨f.toNat,by omega⟩;simp only[Int.toNat_of_nonneg h0] at this;exact this
section
variable {f:Int}
def Gx(h0:0≤f)(h1:f<256):bG .i64 .and f 2=0↔ ¬(has f 2):=Cl (p:=fun f=>bG .i64 .and f 2=0↔ ¬(has f 2)) 256 (by decide+kernel) h0 h1
def Gw(h0:0≤f)(h1:f<256):bG .i64 .and f 4=0↔ ¬(has f 4):=Cl (p:=fun f=>bG .i64 .and f 4=0↔ ¬(has f 4)) 256 (by decide+kernel) h0 h1
def N6(h0:0≤f)(h1:f<256):bG .i64 .and f 8=0↔ ¬(has f 8):=Cl (p:=fun f=>bG .i64 .and f 8=0↔ ¬(has f 8)) 256 (by decide+kernel) h0 h1
def U0(h0:0≤f)(h1:f<256):bG .i64 .and f 16=0↔ ¬(has f 16):=Cl (p:=fun f=>bG .i64 .and f 16=0↔ ¬(has f 16)) 256 (by decide+kernel) h0 h1
def UZ(h0:0≤f)(h1:f<256):bG .i64 .and f 32=0↔ ¬(has f 32):=Cl (p:=fun f=>bG .i64 .and f 32=0↔ ¬(has f 32)) 256 (by decide+kernel) h0 h1
def N7(h0:0≤f)(h1:f<256):bG .i64 .and f 64=0↔ ¬(has f 64):=Cl (p:=fun f=>bG .i64 .and f 64=0↔ ¬(has f 64)) 256 (by decide+kernel) h0 h1
def JI(h0:0≤f)(h1:f<256):bG .i64 .and f 128=0↔ ¬(has f 128):=Cl (p:=fun f=>bG .i64 .and f 128=0↔ ¬(has f 128)) 256 (by decide+kernel) h0 h1
def Sw(h0:0≤f)(h1:f<256):bG .i64 .and f 12=0↔ ¬(iR f):=Cl (p:=fun f=>bG .i64 .and f 12=0↔ ¬(iR f)) 256 (by decide+kernel) h0 h1
def YF(h0:0≤f)(h1:f<256):bG .i64 .and f 48=0↔ ¬(has f 16∨has f 32):=Cl (p:=fun f=>bG .i64 .and f 48=0↔ ¬(has f 16∨has f 32)) 256 (by decide+kernel) h0 h1
def YG(h0:0≤f)(h1:f<256):bG .i64 .and f 6=6↔(has f 2∧has f 4):=Cl (p:=fun f=>bG .i64 .and f 6=6↔(has f 2∧has f 4)) 256 (by decide+kernel) h0 h1
def acH(h0:0≤f)(h1:f<256):bG .i64 .and f 240=0↔ ¬(16≤f):=Cl (p:=fun f=>bG .i64 .and f 240=0↔ ¬(16≤f)) 256 (by decide+kernel) h0 h1
def acI(h0:0≤f)(h1:f<256):bG .i64 .and f 192=0↔(f<64):=Cl (p:=fun f=>bG .i64 .and f 192=0↔(f<64)) 256 (by decide+kernel) h0 h1
def Sv(h0:0≤f)(h1:f<256):bG .i64 .andNot f 1=f/2* 2:=Cl (p:=fun f=>bG .i64 .andNot f 1=f/2* 2) 256 (by decide+kernel) h0 h1
def Su(h0:0≤f)(h1:f<16):bG .i64 .andNot f 8=f%8:=Cl (p:=fun f=>bG .i64 .andNot f 8=f%8) 16 (by decide+kernel) h0 h1
def YD(h0:0≤f)(h1:f<16):bG .i64 .or f 8=f%8+8:=Cl (p:=fun f=>bG .i64 .or f 8=f%8+8) 16 (by decide+kernel) h0 h1
def Sx(h0:0≤f)(h1:f<256):bG .i64 .and f 6=f/2%4* 2:=Cl (p:=fun f=>bG .i64 .and f 6=f/2%4* 2) 256 (by decide+kernel) h0 h1
def qZ(n:Int):Prop:= -9223372036854775808≤n∧n≤9223372036854775807
def UY(h:qZ f):(bG .i64 .andNot f 7!=0)=decide (f<0∨7<f):=by
 have key:∀x:BitVec 64,(x&&&~~~(BitVec.ofInt 64 7))=0#64↔x.toNat<8:=fun x=>by
  constructor
  ·intro hx;refine Nat.lt_pow_two_of_testBit (n:=3) _ fun i hi=>?_;have:=congrArg (fun y=>y.getLsbD i) hx;by_cases aar:i<64
   ·simp only[BitVec.getLsbD_and,BitVec.getLsbD_not,BitVec.getLsbD_zero,aar,decide_true,aeC] at this;have h7:(BitVec.ofInt 64 7).getLsbD i=false:=by
     have:(BitVec.ofInt 64 7).toNat=7:=rfl;show Nat.testBit (BitVec.ofInt 64 7).toNat i=false;rw[this];exact Nat.testBit_lt_two_pow (Nat.lt_of_lt_of_le (by decide:7<2^3) (aer (by decide) hi))
    rw[h7] at this;simpa [BitVec.getLsbD] using this
   ·exact Nat.testBit_lt_two_pow (Nat.lt_of_lt_of_le x.isLt (aer (by decide) (by omega)))
  ·intro hx;have TK:x=BitVec.ofNat 64 x.toNat:=by simp
   rw[TK];generalize x.toNat=m at hx
   match m,hx with
   |0,_|1,_|2,_|3,_|4,_|5,_|6,_|7,_=>rfl
 unfold qZ at h;unfold bG;dsimp only;show(adx.wrap (((BitVec.ofInt 64 f&&&~~~(BitVec.ofInt 64 7)).toNat:Nat):Int)!=0)=_;have hw:∀y:BitVec 64,(adx.wrap ((y.toNat:Nat):Int)!=0)=decide (y≠0#64):=fun y=>by
  have hy:=y.isLt;have:adx.wrap ((y.toNat:Nat):Int)=0↔y=0#64:=by
   constructor
   ·intro h0;apply BitVec.eq_of_toNat_eq;simp[IntKind.wrap,IntKind.bits,IntKind.signed] at h0;simp;split at h0<;>omega
   ·intro h0;subst h0;rfl
  by_cases h0:y=0#64
  ·rw[decide_eq_false (by simpa using h0)];simp[this.2 h0]
  ·rw[decide_eq_true h0];have: ¬adx.wrap ((y.toNat:Nat):Int)=0:=fun hh=>h0 (this.1 hh);simpa using this
 rw[hw,decide_eq_decide,ne_eq,key];simp only[BitVec.toNat_ofInt];omega
def YE(h:qZ f):bG .i64 .andNot f 7=0↔ ¬(f<0∨7<f):=by
 have:=UY h;by_cases h1:f<0∨7<f
 ·rw[decide_eq_true h1] at this;simpa [h1] using this
 ·rw[decide_eq_false h1] at this;simpa [h1] using this
end
end Go.Up
namespace Go.Up
open Go.Sep Go.Den Go.RowKit Go.Prog Go.Md
abbrev Move:=Go.Md.Move
abbrev aS:=Go.Md.aS
abbrev Kept:=Go.Md.Kept
def ak(a:aS):LV:=nm a.id++(nm a.dp++(nm a.dq++(nm a.cp++(nm a.cq++[.i a.aJ,.i a.code,.i a.flags,.i a.af]))))
def ai(t:Move):LV:=nm t.id++(nm t.aH++(nm t.ar++(nm t.aC++(nm t.pending++[.i t.timeout,.i t.aJ,.i t.code,.i t.flags,.i t.af,.i t.born]))))
def aM(k:Kept):LV:=ai k.asked++(ai k.move++[.i k.fate])
def uC{cs:LV}{o n:Nat}(h0:cs[o+0]?=(nm n)[0]?)(h1:cs[o+1]?=(nm n)[1]?):(nm n).length=2∧∀j v,(nm n)[j]?=some v→cs[o+j]?=some v:=⟨rfl,fun j v h=>by
 match j with
 |0=>rw[h0];exact h
 |1=>rw[h1];exact h
 |j+2=>simp[nm] at h⟩
section
variable {a b:aS} {t u:Move} {k:Kept} {n:Nat} {i:Int}
instance:Sub (ak a) 0 2 (nm a.id):=⟨uC rfl rfl⟩
instance:Sub (ak a) 2 2 (nm a.dp):=⟨uC rfl rfl⟩
instance:Sub (ak a) 4 2 (nm a.dq):=⟨uC rfl rfl⟩
instance:Sub (ak a) 6 2 (nm a.cp):=⟨uC rfl rfl⟩
instance:Sub (ak a) 8 2 (nm a.cq):=⟨uC rfl rfl⟩
instance:Sub (ak a) 0 14 (ak a):=⟨rfl,fun j v h=>by rw[adE];exact h⟩
instance:Sub (ai t) 0 2 (nm t.id):=⟨uC rfl rfl⟩
instance:Sub (ai t) 2 2 (nm t.aH):=⟨uC rfl rfl⟩
instance:Sub (ai t) 4 2 (nm t.ar):=⟨uC rfl rfl⟩
instance:Sub (ai t) 6 2 (nm t.aC):=⟨uC rfl rfl⟩
instance:Sub (ai t) 8 2 (nm t.pending):=⟨uC rfl rfl⟩
instance:Sub (ai t) 0 16 (ai t):=⟨rfl,fun j v h=>by rw[adE];exact h⟩
instance:Sub (aM k) 0 33 (aM k):=⟨rfl,fun j v h=>by rw[adE];exact h⟩
instance:Sub (aM k) 0 16 (ai k.asked):=⟨rfl,fun j v h=>by rw[adE];unfold aM;rw[adY (adC.1 h).1];exact h⟩
instance:Sub (aM k) 16 16 (ai k.move):=⟨rfl,fun j v h=>by
 have hl:(ai k.asked).length=16:=rfl
 unfold aM
 rw[aea (by omega),hl,show 16+j-16=j by omega,adY (adC.1 h).1];exact h⟩
def l6{xs ys:LV}(h1:∀v∈xs,v.oneCell'=true)(h2:∀v∈ys,v.oneCell'=true):∀v∈xs++ys,v.oneCell'=true:=fun v h=>(aee.1 h).elim (h1 v) (h2 v)
def gn(a:aS):∀v∈ak a,v.oneCell'=true:=l6 (lC _) (l6 (lC _) (l6 (lC _) (l6 (lC _) (l6 (lC _) fun v h=>by simp at h;rcases h with rfl|rfl|rfl|rfl<;>rfl))))
def ml(t:Move):∀v∈ai t,v.oneCell'=true:=l6 (lC _) (l6 (lC _) (l6 (lC _) (l6 (lC _) (l6 (lC _) fun v h=>by simp at h;rcases h with rfl|rfl|rfl|rfl|rfl|rfl<;>rfl))))
def j0(k:Kept):∀v∈aM k,v.oneCell'=true:=l6 (ml _) (l6 (ml _) fun v h=>by simp at h;subst h;rfl)
instance:Wr (ak a) 2 (nm n) (ak {a with dp:=n}):=⟨rfl,by show 4≤14;decide,lC n⟩
instance:Wr (ak a) 4 (nm n) (ak {a with dq:=n}):=⟨rfl,by show 6≤14;decide,lC n⟩
instance:Wr (ak a) 6 (nm n) (ak {a with cp:=n}):=⟨rfl,by show 8≤14;decide,lC n⟩
instance:Wr (ak a) 8 (nm n) (ak {a with cq:=n}):=⟨rfl,by show 10≤14;decide,lC n⟩
instance:Wr (ak a) 12 [.i i] (ak {a with flags:=i}):=⟨rfl,by show 13≤14;decide,fun v h=>by simp at h;subst h;rfl⟩
instance:Wr (ak a) 13 [.i i] (ak {a with af:=i}):=⟨rfl,by show 14≤14;decide,fun v h=>by simp at h;subst h;rfl⟩
instance:Wr (ak a) 0 (ak b) (ak b):=⟨rfl,adG _,gn b⟩
instance{x1 x2 x3 x4 x5 x6 x7 x8 x9 zg zf ze zb Cf:Value}:Wr [x1,x2,x3,x4,x5,x6,x7,x8,x9,zg,zf,ze,zb,Cf] 0 (ak b) (ak b):=⟨rfl,adG _,gn b⟩
instance:Wr (ai t) 6 (nm n) (ai {t with aC:=n}):=⟨rfl,by show 8≤16;decide,lC n⟩
instance:Wr (ai t) 11 [.i i] (ai {t with aJ:=i}):=⟨rfl,by show 12≤16;decide,fun v h=>by simp at h;subst h;rfl⟩
instance:Wr (ai t) 12 [.i i] (ai {t with code:=i}):=⟨rfl,by show 13≤16;decide,fun v h=>by simp at h;subst h;rfl⟩
instance:Wr (ai t) 13 [.i i] (ai {t with flags:=i}):=⟨rfl,by show 14≤16;decide,fun v h=>by simp at h;subst h;rfl⟩
instance:Wr (ai t) 14 [.i i] (ai {t with af:=i}):=⟨rfl,by show 15≤16;decide,fun v h=>by simp at h;subst h;rfl⟩
instance:Wr (ai t) 15 [.i i] (ai {t with born:=i}):=⟨rfl,by show 16≤16;decide,fun v h=>by simp at h;subst h;rfl⟩
instance{x1 x2 x3 x4 x5 x6 x7 x8 x9 zg zf ze zb Cf GO GN:Value}:Wr [x1,x2,x3,x4,x5,x6,x7,x8,x9,zg,zf,ze,zb,Cf,GO,GN] 0 (ai u) (ai u):=⟨rfl,adG _,ml u⟩
end
section
variable {x1 x2 x3 x4 x5 x6 x7 x8 x9 zg zf ze zb Cf GO GN:Value} {i d e c p:Nat} {l o f s b m:Int}
instance:Wr [x1,x2,x3,x4,x5,x6,x7,x8,x9,zg,zf,ze,zb,Cf] 0 (nm i++(nm d++(nm e++(nm c++(nm p++[.i l,.i o,.i f,.i s]))))) (ak ⟨i,d,e,c,p,l,o,f,s⟩):=⟨rfl,adG _,gn ⟨i,d,e,c,p,l,o,f,s⟩⟩
instance:Wr [x1,x2,x3,x4,x5,x6,x7,x8,x9,zg,zf,ze,zb,Cf,GO,GN] 0 (nm i++(nm d++(nm e++(nm c++(nm p++[.i l,.i o,.i f,.i s,.i b,.i m]))))) (ai ⟨i,d,e,c,p,l,o,f,s,b,m⟩):=⟨rfl,adG _,ml ⟨i,d,e,c,p,l,o,f,s,b,m⟩⟩
end
def zA:aS:=⟨0,0,0,0,0,0,0,0,0⟩
def zT:Move:=⟨0,0,0,0,0,0,0,0,0,0,0⟩
section
variable {x1 x2 x3 x4 x5 x6 x7 x8 x9 zg zf ze zb Cf GO GN:Value} {a:aS} {t:Move}
instance:Wr [x1,x2,x3,x4,x5,x6,x7,x8,x9,zg,zf,ze,zb,Cf] 0 [.u 0,.u 0,.u 0,.u 0,.u 0,.u 0,.u 0,.u 0,.u 0,.u 0,.i 0,.i 0,.i 0,.i 0] (ak zA):=⟨rfl,adG _,gn zA⟩
instance:Wr [x1,x2,x3,x4,x5,x6,x7,x8,x9,zg,zf,ze,zb,Cf,GO,GN] 0 [.u 0,.u 0,.u 0,.u 0,.u 0,.u 0,.u 0,.u 0,.u 0,.u 0,.i 0,.i 0,.i 0,.i 0,.i 0,.i 0] (ai zT):=⟨rfl,adG _,ml zT⟩
end
def V6{W:World}{L:LH}{X:WK}{r o:Nat}{a:aS}{cs:LV}{f:LV→LH}[i:Lc (Sep.pt r) L cs f][s:Sub cs o 14 (ak a)](h:T W L X):T W L (kp ⟨r,o,none⟩ (ak a) X):=Mk (n:=14) h
def V4{W:World}{L:LH}{X:WK}{r o:Nat}{a:Move}{cs:LV}{f:LV→LH}[i:Lc (Sep.pt r) L cs f][s:Sub cs o 16 (ai a)](h:T W L X):T W L (kp ⟨r,o,none⟩ (ai a) X):=Mk (n:=16) h
section
variable {L:LH} {X:WK} {r o:Nat} {a:aS} {b:Move} {k:Kept} {cs:LV} {f:LV→LH}
instance[i:Lc (Sep.pt r) L cs f][s:Sub cs o 14 (ak a)]:Wk L (kp ⟨r,o,none⟩ (ak a) X) L X:=⟨fun _ h=>V6 h⟩
instance[i:Lc (Sep.pt r) L cs f][s:Sub cs o 16 (ai b)]:Wk L (kp ⟨r,o,none⟩ (ai b) X) L X:=⟨fun _ h=>V4 h⟩
instance:Ln (ak a) 14:=⟨rfl⟩
instance:Ln (ai b) 16:=⟨rfl⟩
instance:Ln (aM k) 33:=⟨rfl⟩
instance:Gt (ak a) 10 (.i a.aJ):=⟨rfl⟩
instance:Gt (ak a) 11 (.i a.code):=⟨rfl⟩
instance:Gt (ak a) 12 (.i a.flags):=⟨rfl⟩
instance:Gt (ak a) 13 (.i a.af):=⟨rfl⟩
instance:Gt (ai b) 10 (.i b.timeout):=⟨rfl⟩
instance:Gt (ai b) 11 (.i b.aJ):=⟨rfl⟩
instance:Gt (ai b) 12 (.i b.code):=⟨rfl⟩
instance:Gt (ai b) 13 (.i b.flags):=⟨rfl⟩
instance:Gt (ai b) 14 (.i b.af):=⟨rfl⟩
instance:Gt (ai b) 15 (.i b.born):=⟨rfl⟩
instance:Gt (aM k) 26 (.i k.move.timeout):=⟨rfl⟩
instance:Gt (aM k) 30 (.i k.move.af):=⟨rfl⟩
instance:Gt (aM k) 31 (.i k.move.born):=⟨rfl⟩
instance:Gt (aM k) 32 (.i k.fate):=⟨rfl⟩
end
structure pK(W:World):Prop where
 Qc:∀j v,(nm (aO-1))[j]?=some v→W.cell? ((ad N.pA 0).add j)=some v
 told:∀j v,([.i 0,.i 0,.i 27,.i 28,.i 29]:LV)[j]?=some v→W.cell? ((ad N.tS 0).add j)=some v
structure vy(a:aS):Prop where
 id:a.id<aO
 dp:a.dp<aO
 dq:a.dq<aO
 cp:a.cp<aO
 cq:a.cq<aO
 aJ:qZ a.aJ
 code:qZ a.code
 flags:qZ a.flags
 af:qZ a.af
structure uY(t:Move):Prop where
 id:t.id<aO
 aH:t.aH<aO
 ar:t.ar<aO
 aC:t.aC<aO
 pending:t.pending<aO
 timeout:qZ t.timeout
 aJ:qZ t.aJ
 code:qZ t.code
 flags:qZ t.flags
 af:qZ t.af
 born:qZ t.born
section
variable {W:World} {L:LH} {K:VK} {a b:aS} {t u:Move}
def QL(h:T W L (K (.bool (decide (a.dp=0∧a.dq=0∧a.cp=0∧a.cq=0∧a.af=0))))):T W L (iq (ak a) K):=by
 unfold iq iq.j1 iq.j2
 repeat' first|apply ww|apply wm;intro _|apply wb|with_reducible first|refine qx ?_|refine az (fun h1=>?_) (fun h1=>?_)|fail
 all_goals (refine T.fin (T.dp h) ?_;congr 1;first|rfl|(simp only[decide_eq_true_eq,decide_eq_false_iff_not,ad0] at * <;>simp[*]<;>rfl))
def Of(G:pK W)(ha:vy a)(h:T W L (K (.i (qE a)))):T W L (kf (ak a) K):=by
 unfold kf kf.j1;have hf:=ha.flags
 repeat' first|apply ww|apply wm;intro _|apply wb|with_reducible first|refine qx ?_|refine QL ?_|refine IE ⟨tI _,G.Qc⟩ ?_|refine az (fun h1=>?_) (fun h1=>?_)|fail
 all_goals try simp only[YE hf,bz] at *
 all_goals (refine T.fin (T.dp h) ?_;congr 1)
 ·rw[qE,if_pos h1]
 all_goals
  all_goals try simp only[YG (show 0≤a.flags by omega) (show a.flags<256 by omega),bz] at *
  unfold qE has at *
  repeat' split
  all_goals first|rfl|omega
end
end Go.Up
