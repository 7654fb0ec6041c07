/- Part of the proof: see the last text. -/
import Derived.Test.YtnffemlgkghcfaaGreatDoorPA
import Derived.ProofKit
import Derived.OpenShut
import Derived.ChangeOld
import Derived.SizedLaws
import Derived.Carry
import Derived.Deep.Slices
import Derived.Laws.StructEq
set_option linter.all false
set_option maxRecDepth 100000
set_option synthInstance.maxSize 100000
open Array renaming ext'→afs,replicate→aeY
open Bool renaming and_eq_true→aeJ,false_ne_true→aej,true_and→aeS,noConfusion→afj,false_eq_true→aef,eq_iff_iff→aed
open Decidable renaming not_not→ad4
open Go.IntKind renaming i64→adN
open Int renaming toNat_natCast→adR,tmod_eq_emod_of_nonneg→aey,eq_ofNat_of_zero_le→ad1
open List renaming set_cons_succ→ae5,mem_cons→ae9,getElem?_eq_getElem→adQ,getElem_mem→aee,mem_of_getElem?→aei,mem_append→aeu,mem_or_eq_of_mem_set→aeG,getD_eq_getElem?_getD→aeT,mem_cons_of_mem→aeU,length_replicate→aeX,drop_zero→aeZ,take_of_length_le→ad9,append_nil→aeb,getElem?_append_left→aec,getElem?_append_right→aeo,map_cons→aer,flatMap_cons→aeE,flatMap_append→aeN,getElem?_eq_none→aeR,getElem?_drop→ae6,ext_getElem?→afa,nil_append→aet,drop_of_length_le→aex,take_zero→aff,reverse_cons→afk,length_append→adT,append_assoc→adZ,length_map→aeg,map_append→aen,mem_map→aeA,take_succ_eq_append_getElem→aeK,map_congr_left→ae7,range→afl,map_map→afr,replicate→ad6,Perm→aeh,length_nil→ael,length_take→adV,length_drop→ad2,drop_drop→ae0,set_set→ae4,take_take→afn,length_cons→ad8,getElem?_map→aeD,mem_of_find?_eq_some→aeO,cons_append→ae3,take_length→ad3,getElem?_eq_some_iff→adS,drop_eq_getElem_cons→aev,getElem?_cons_succ→ad7,getElem?_range→afi,map_nil→afp,take_append_drop→aek,getElem?_set→aem,length_set→aeV,getElem?_take→afg
open Nat renaming le_refl→adW,zero_add→adU,add_mul→afe,zero_le→ad0,reduceAdd→adO,reduceMul→adP,le_of_ble_eq_true→adX,mul_one→afm,sub_self→ae8,pow_le_pow_right→aeH,mul_comm→afo,add_zero→aeL,mod_eq_of_lt→aez,mul_le_mul_right→aeC,min_eq_left→afh,eq_of_beq_eq_true→aeq,beq→afc
open Option renaming getD_some→aes,some→aea,map_some→aeB,getD_none→aeI
namespace Go.Prog
open Go.Den
def nC(d:BA)(K:VK):WK:=mk [.u 0,.u 0] λe=>mk [.u 0,.u 0] λh=>br (decide ((d.size:Int)<16)) (ah (ad h 0) 2 λk=>aG 2 (ad e 0) k (ah (ad e 0) 2 λl=>K (.tuple ⟨[.agg ⟨l⟩,.bool false]⟩))) ((lp [.p (some (ad e 0)),.bool false,.p (some (ad h 0)),.i 0] λj m=>∀c f b a g,j [.p (some c),.bool f,.p (some b),.i a] g->(br (decide (a<8)) (tick (lU (b.add 1) λn=>u3 d a λo=>a8 ((0:Int)<=(adN.wrap (8* a))) (st (b.add 1) (.u (bA .u64 .or n (shl .u64 (IntKind.u64.wrap (o.toNat:Int)) (adN.wrap (8* a))))) (tick (lU b λq=>u3 d (adN.wrap (8+a)) λr=>a8 ((0:Int)<=(adN.wrap (8* a))) (st b (.u (bA .u64 .or q (shl .u64 (IntKind.u64.wrap (r.toNat:Int)) (adN.wrap (8* a))))) ((ct j m [.p (some c),.bool f,.p (some b),.i (adN.wrap (a+1))] [.p (some c),.bool f,.p (some b),.i a] g)))))))) (ah b 2 λs=>aG 2 c s (ah c 2 λt=>K (.tuple ⟨[.agg ⟨t⟩,.bool true]⟩)))) g))
def bm(c:OA)(K:VK):WK:=mk [.u 0,.u 0] λa=>cE c 16 (xS λd=>nC d (x2 λe f=>(xA 2 λg=>(xB λj=>mk [.u 0,.u 0] λb=>aG 2 (ad b 0) g (ah (ad b 0) 2 λh=>aG 2 (ad a 0) h (ah (ad a 0) 2 λi=>K (.agg ⟨i⟩)))) f) e))
def bm.u:WP|[.pointer a],K=>bm a K|_,_=>no
def kG(a:OA)(K:VK):WK:=mk cJ λb=>bm a (xA 2 λc=>bm a (xA 2 λd=>bm a (xA 2 λe=>bm a (xA 2 λf=>bm a (xA 2 λg=>aq a 4 (xI .i64 λh=>aq a 2 (xI .i64 λj=>aq a 2 (xI .i64 λk=>aq a 8 (xI .i64 λl=>a8 (c.length=2/\(d.length=2/\(e.length=2/\(f.length=2/\(g.length=2/\(1=1/\(1=1/\(1=1/\(1=1/\True))))))))) (mk cJ λm=>a8 ((c++(d++(e++(f++(g++([.i h,.i j,.i k,.i l]:LV)))))).length=14) (ga (ad m 0) (c++(d++(e++(f++(g++([.i h,.i j,.i k,.i l]:LV)))))) (bq a (xB λn=>br n (a8 True (a8 (14=14) (ga (ad b 0) cJ (ah (ad b 0) 14 λo=>K (.agg ⟨o⟩))))) (ah (ad m 0) 14 λp=>aG 14 (ad b 0) p (ah (ad b 0) 14 λq=>K (.agg ⟨q⟩))))))))))))))))
def kG.u:WP|[.pointer a],K=>kG a K|_,_=>no
def jI(a:OA)(K:VK):WK:=mk fe λb=>bm a (xA 2 λc=>bm a (xA 2 λd=>bm a (xA 2 λe=>bm a (xA 2 λf=>bm a (xA 2 λg=>aq a 4 (xI .i64 λh=>aq a 4 (xI .i64 λj=>aq a 2 (xI .i64 λk=>aq a 2 (xI .i64 λl=>aq a 8 (xI .i64 λm=>aq a 8 (xI .i64 λn=>a8 (c.length=2/\(d.length=2/\(e.length=2/\(f.length=2/\(g.length=2/\(1=1/\(1=1/\(1=1/\(1=1/\(1=1/\(1=1/\True))))))))))) (mk fe λo=>a8 ((c++(d++(e++(f++(g++([.i h,.i j,.i k,.i l,.i m,.i n]:LV)))))).length=16) (ga (ad o 0) (c++(d++(e++(f++(g++([.i h,.i j,.i k,.i l,.i m,.i n]:LV)))))) (bq a (xB λp=>br p (a8 True (a8 (16=16) (ga (ad b 0) fe (ah (ad b 0) 16 λq=>K (.agg ⟨q⟩))))) (ah (ad o 0) 16 λr=>aG 16 (ad b 0) r (ah (ad b 0) 16 λs=>K (.agg ⟨s⟩))))))))))))))))))
def jI.u:WP|[.pointer a],K=>jI a K|_,_=>no
def mq(a:OA)(K:VK):WK:=br (a.isNone) (K (.i 0)) (nn a λb=>lT (b.add 1) λc=>br c (K (.i 0)) (nn a λd=>lS d λe=>K (.i (e.size:Int))))
def rM(K:VK):WK:=FW 32 IV 8 8 λa b c=>a8 (1=1/\True) (mk [.l a b c,.i 0,.i 0] λd=>K (.p (some (ad d 0))))
def mC(a:OA)(K:VK):WK:=a8 (1=1/\True) (mk [.l none 0 0,.p a] λb=>K (.p (some (ad b 0))))
def om(a:OA)(K:VK):WK:=a8 (1=1/\True) (mk [.l none 0 0,.p a] λb=>K (.p (some (ad b 0))))
def pY(K:VK):WK:=rM (xP λb=>rM (xP λc=>a8 (1=1/\(1=1/\True)) (mk [.l none 0 0,.p none,.p none,.p b,.p c,.l none 0 0,.l none 0 0,.i 0,.i 0] λa=>tick (mC (some (ad a 0)) (xP λd=>om (some (ad a 0)) (xP λe=>st (ad a 1) (.p d) (st (ad a 2) (.p e) (K (.p (some (ad a 0)))))))))))
def jc(a:OA)(K:VK):WK:=br (!(a.isNone)) (nn a λc=>lL c λd b n=>RA (Builtin.zeroCells ⟨[.nilFunc]⟩ b).toList d b (nn a λe=>lL e λf g h=>nV f g h 1 none (some 0) λi j k=>nn a λm=>st m (.l i j k) (K (.tuple ⟨[]⟩)))) (K (.tuple ⟨[]⟩))
def pH(e:LV)(K:VK):WK:=mk e λa=>lU (ad a 1) λb=>lU (ad a 0) λc=>a8 ((0:Int)<=31) (lU (ad a 0) λd=>a8 ((0:Int)<=33) (a8 ((0:Int)<=29) (K (.u (bA .u64 .xor (IntKind.u64.wrap ((bA .u64 .xor (bA .u64 .xor b (shl .u64 c 31)) (shr .u64 d 33))* 11400714819323198485)) (shr .u64 (IntKind.u64.wrap ((bA .u64 .xor (bA .u64 .xor b (shl .u64 c 31)) (shr .u64 d 33))* 11400714819323198485)) 29))))))
def bI.j3(K:VK)(a:Int)(g:LI)(c:Addr)(d:Int)(e:Bool)(b f:Int)(h:LM)(j:World)(k:Bool):WK:=br k (K (.tuple ⟨[.i (adN.wrap a),.bool true]⟩)) ((ct g h [.p (some c),.i d,.bool e,.u b,.i f,.u (bA .u64 .and (IntKind.u64.wrap (a+1)) b)] [.p (some c),.i d,.bool e,.u b,.i f,.u a] j))
def bI.j2(K:VK)(f:LI)(a:Addr)(d:Int)(e:Bool)(b c:Int)(g:LM)(h:Int)(j:World)(k:Nat)(l:Bool):WK:=br l ((ct f g [.p (some a),.i d,.bool e,.u b,.i (adN.wrap c),.u (bA .u64 .and (IntKind.u64.wrap (c+1)) b)] [.p (some a),.i d,.bool e,.u b,.i h,.u c] j)) (lB (ad k 3) λm=>br (m==1) (ah (ad k 0) 2 λn=>ah a 2 λo=>ny [.u 0,.u 0] n o λq=>bI.j3 K c f a d e b h g j q) (bI.j3 K c f a d e b h g j false))
def bI.j1(K:VK)(c:Int)(a:Nat)(b:Int)(d:LI)(e:Addr)(f:Int)(g:Bool)(h:Int)(j:LM)(k:World)(l:Bool):WK:=br l (K (.tuple ⟨[.i (adN.wrap c),.bool false]⟩)) (lB (ad a 3) λm=>br (m==0) (K (.tuple ⟨[.i b,.bool false]⟩)) (lB (ad a 3) λn=>br (n==2) (bI.j2 K d e f g h c j b k a (decide (b<0))) (bI.j2 K d e f g h c j b k a false)))
def bI(k:OA)(o:LV)(K:VK):WK:=mk o λl=>nn k λq=>lL q λA m B=>ah (ad l 0) 2 λr=>pH r (xI .u64 λs=>(lp [.p (some (ad l 0)),.i 0,.bool false,.u (IntKind.u64.wrap (adN.wrap ((m:Int) -1))),.i (-1),.u (bA .u64 .and s (IntKind.u64.wrap (adN.wrap ((m:Int) -1))))] λe n=>∀f g h j a b c,e [.p (some f),.i g,.bool h,.u j,.i a,.u b] c->(nn k λt=>lL t λv w C=>fO v w b 4 λx=>ah x 4 λy=>mk IV λd=>aG 4 (ad d 0) y (lB (ad d 3) λz=>br (z==0) (bI.j1 K b d a e f g h j n c (decide (a<0))) (bI.j1 K b d a e f g h j n c false))) c))
def dY(a:OA)(b:LV)(K:VK):WK:=mk b λc=>br (a.isNone) (K (.tuple ⟨[.i 0,.bool false]⟩)) (ah (ad c 0) 2 λd=>bI a d (x2 λe f=>(xI .i64 λg=>(xB λh=>br (!h) (K (.tuple ⟨[.i 0,.bool false]⟩)) (nn a λj=>lL j λk l o=>fO k l g 4 λm=>lI (m.add 2) λn=>K (.tuple ⟨[.i n,.bool true]⟩))) f) e))
def mw(b:OA)(K:VK):WK:=nn b λs=>lL s λt u v=>(lp [.l t u v,.i 8] λq w=>∀j g k c o,q [.l j g k,.i c] o->(nn b λx=>lI (x.add 1) λy=>br (decide (c<(adN.wrap (3* (adN.wrap (y+1)))))) ((ct q w [.l j g k,.i (adN.wrap (c* 2))] [.l j g k,.i c] o)) (FW 32 IV c c λz A B=>nn b λC=>st C (.l z A B) (nn b λD=>st (D.add 2) (.i 0) ((lp [.l j g k,.i (g:Int),.i 0] λp r=>∀d e h f a m,p [.l d e h,.i f,.i a] m->(br (decide (a<f)) (fO d e a 4 λE=>ah E 4 λF=>mk IV λn=>aG 4 (ad n 0) F (lB (ad n 3) λG=>br (G==1) (ah (ad n 0) 2 λH=>bI b H (x2 λI J=>(xI .i64 λM=>(xB λT=>tick (nn b λO=>lL O λP Q V=>ah (ad n 0) 4 λR=>fO P Q M 4 λS=>aG 4 S R ((ct p r [.l d e h,.i f,.i (adN.wrap (a+1))] [.l d e h,.i f,.i a] m)))) J) I)) ((ct p r [.l d e h,.i f,.i (adN.wrap (a+1))] [.l d e h,.i f,.i a] m)))) (K (.tuple ⟨[]⟩))) m))))) o)
def bZ.j2(K:VK)(a:OA)(d:Nat)(e c:Int):WK:=tick (nn a λf=>lL f λg h n=>ah (ad d 0) 2 λb=>a8 (b.length=2/\(1=1/\(1=1/\True))) (fO g h e 4 λj=>a8 ((b++([.i c,.int .u8 1]:LV)).length=4) (ga j (b++([.i c,.int .u8 1]:LV)) (nn a λk=>lI (k.add 1) λl=>nn a λm=>st (m.add 1) (.i (adN.wrap (l+1))) (K (.bool true))))))
def bZ.j1(K:VK)(c:Nat)(a:OA)(d:Int):WK:=ah (ad c 0) 2 λe=>bI a e (x2 λf g=>(xI .i64 λb=>(xB λh=>br h (nn a λj=>lL j λk l v=>fO k l b 4 λm=>st (m.add 2) (.i d) (K (.bool false))) (nn a λn=>lL n λo p w=>fO o p b 4 λq=>lB (q.add 3) λr=>br (r==2) (nn a λs=>lI (s.add 2) λt=>nn a λu=>st (u.add 2) (.i (adN.wrap (t-1))) (bZ.j2 K a c b d)) (bZ.j2 K a c b d))) g) f)
def bZ(a:OA)(d:LV)(b:Int)(K:VK):WK:=mk d λc=>br (a.isNone) (K (.bool false)) (tick (nn a λe=>lI (e.add 1) λf=>nn a λg=>lI (g.add 2) λh=>nn a λi=>lL i λk j l=>br (decide ((adN.wrap (4* (adN.wrap ((adN.wrap (f+h))+1))))>(adN.wrap (3* (j:Int))))) (mw a (x0 (bZ.j1 K c a b))) (bZ.j1 K c a b)))
def eo(a:OA)(b:Value)(K:VK):WK:=br (!(a.isNone)) (nn a λc=>lL c λd e f=>a8 ((cS b).length=1/\True) (mk ((cS b)++[]) λg=>eS 1 8 [.nilFunc] d e f (some ⟨g,0,none⟩) 1 λh i j=>nn a λk=>st k (.l h i j) (K (.tuple ⟨[]⟩)))) (K (.tuple ⟨[]⟩))
def aY(a b:Addr)(K:VK):WK:=tick (lP a λc=>lP a λd=>nn d λe=>lL e λf g h=>lI b λi=>nV f g h 14 none (some i) λj k m=>nn c λn=>st n (.l j k m) (K (.tuple ⟨[]⟩)))
def aY.u:WP|[.pointer (some a),.pointer (some b)],K=>aY a b K|_,_=>no
def fb(j:OA)(k:LV)(K:VK):WK:=mk [.p j] λa=>mk k λm=>lP (ad a 0) λn=>br (n.isNone) (K (.i (-1))) (lP (ad a 0) λo=>nn o λq=>lL q λC r D=>mk [.i 0] λb=>st (ad b 0) (.i (r:Int)) (tick (lP (ad a 0) λc=>lP (ad a 0) λd=>nn d λe=>lL e λf g h=>ah (ad m 0) 14 λs=>EX 14 s λt=>kp e [.l f g h] (kp (ad a 0) [.p d] (kp (ad a 0) [.p c] (eS 14 112 cJ f g h (some ⟨t,0,none⟩) 1 λu v w=>kp (ad a 0) [.p d] (kp (ad a 0) [.p c] (nn c λx=>st x (.l u v w) (lP (ad a 0) λy=>nn y λz=>lP (z.add 1) λA=>eo A (.func (.func N.aY) ⟨[]⟩ ⟨[.p (some (ad a 0)),.p (some (ad b 0))]⟩) (x0 (lI (ad b 0) λB=>K (.i B))))))))))))
def cX(a:Int)(b c:Addr)(K:VK):WK:=tick (lP b λd=>nn d λe=>lL e λf g k=>fO f g a 2 λh=>lI h λi=>lI c λj=>K (.bool (decide (i>=j))))
def cX.u:WP|[.int .i64 a,.pointer (some b),.pointer (some c)],K=>cX a b c K|_,_=>no
def qI(g:Int)(h:Value)(K:VK):WK:=(lp [.i 0,.i 0,.i g] λe f=>∀c a b d,e [.i c,.i a,.i b] d->(br (decide (a<b)) (a8 ((0:Int)<=1) (tr [(N.cX,cX.u)] h [.i (adN.wrap (shr .u64 (IntKind.u64.wrap (adN.wrap (a+b))) 1))] (xB λj=>br (!j) ((ct e f [.i c,.i (adN.wrap ((adN.wrap (shr .u64 (IntKind.u64.wrap (adN.wrap (a+b))) 1))+1)),.i b] [.i c,.i a,.i b] d)) ((ct e f [.i c,.i a,.i (adN.wrap (shr .u64 (IntKind.u64.wrap (adN.wrap (a+b))) 1))] [.i c,.i a,.i b] d))))) (K (.i a))) d)
def iD(b:OA)(c:Int)(K:VK):WK:=mk [.p b] λa=>mk [.i c] λd=>lP (ad a 0) λe=>nn e λf=>lL f λj g k=>qI (g:Int) (.func (.func N.cX) ⟨[]⟩ ⟨[.p (some (ad a 0)),.p (some (ad d 0))]⟩) (xI .i64 λh=>K (.i h))
def fA.j1(K:VK)(a:OA)(b c n:Int)(o:Bool):WK:=br o (nn a λp=>lL p λq r M=>fO q r b 2 λs=>st (s.add 1) (.i c) (K (.bool false))) (nn a λt=>lL t λu v w=>a8 True (a8 (2=2/\True) (mk [.i 0,.i 0] λx=>eS 2 16 [.i 0,.i 0] u v w (some ⟨x,0,none⟩) 1 λy z A=>nn a λB=>st B (.l y z A) (tick (nn a λd=>lL d λe f g=>nV e f g 2 (some (adN.wrap (b+1))) none λC D O=>nn a λh=>lL h λj k m=>nV j k m 2 (some b) none λE F P=>Ov 2 C D E F λm1=>kp h [.l j k m] (kp d [.l e f g] (nn a λG=>lL G λH I Q=>a8 (1=1/\(1=1/\True)) (fO H I b 2 λJ=>a8 (2=2) (ga J [.i n,.i c] (K (.bool true)))))))))))
def fA(a:OA)(b d:Int)(K:VK):WK:=br (a.isNone) (K (.bool false)) (iD a b (xI .i64 λc=>nn a λe=>lL e λl f m=>br (decide (c<(f:Int))) (nn a λg=>lL g λh i n=>fO h i c 2 λj=>lI j λk=>fA.j1 K a c d b (k==b)) (fA.j1 K a c d b false)))
def dj(a:OA)(K:VK):WK:=br (a.isNone) (K (.i 0)) (nn a λb=>lL b λd c e=>K (.i (c:Int)))
def bp(a b:Addr)(K:VK):WK:=tick (lP a λc=>lP a λd=>nn d λe=>lL e λf g h=>lI b λi=>nV f g h 33 none (some i) λj k m=>nn c λn=>st n (.l j k m) (K (.tuple ⟨[]⟩)))
def bp.u:WP|[.pointer (some a),.pointer (some b)],K=>bp a b K|_,_=>no
def fR(j:OA)(k:LV)(K:VK):WK:=mk [.p j] λa=>mk k λm=>lP (ad a 0) λn=>br (n.isNone) (K (.i (-1))) (lP (ad a 0) λo=>nn o λq=>lL q λC r D=>mk [.i 0] λb=>st (ad b 0) (.i (r:Int)) (tick (lP (ad a 0) λc=>lP (ad a 0) λd=>nn d λe=>lL e λf g h=>ah (ad m 0) 33 λs=>EX 33 s λt=>kp e [.l f g h] (kp (ad a 0) [.p d] (kp (ad a 0) [.p c] (eS 33 264 bg f g h (some ⟨t,0,none⟩) 1 λu v w=>kp (ad a 0) [.p d] (kp (ad a 0) [.p c] (nn c λx=>st x (.l u v w) (lP (ad a 0) λy=>nn y λz=>lP (z.add 1) λA=>eo A (.func (.func N.bp) ⟨[]⟩ ⟨[.p (some (ad a 0)),.p (some (ad b 0))]⟩) (x0 (lI (ad b 0) λB=>K (.i B))))))))))))
def pX(j:LV)(K:VK):WK:=mk j λa=>mk tC λc=>tick (lI (ad a 31) λd=>lI (ad a 26) λe=>lI (ad a 30) λf=>ah (ad a 16) 2 λb=>a8 (1=1/\(1=1/\(b.length=2/\True))) (lI (ad a 32) λg=>br (g==1) (lI (ad a 26) λh=>a8 ((([.i (adN.wrap (d+e)),.i f]:LV)++(b++[])).length=4) (ga (ad c 0) (([.i (adN.wrap (d+e)),.i f]:LV)++(b++[])) (kp (ad a 26) [.i h] (kp (ad a 32) [.i g] (ah (ad c 0) 4 λk=>K (.tuple ⟨[.agg ⟨k⟩,.bool (decide (h>0))]⟩)))))) (a8 ((([.i (adN.wrap (d+e)),.i f]:LV)++(b++[])).length=4) (ga (ad c 0) (([.i (adN.wrap (d+e)),.i f]:LV)++(b++[])) (kp (ad a 32) [.i g] (ah (ad c 0) 4 λl=>K (.tuple ⟨[.agg ⟨l⟩,.bool false]⟩)))))))
def nG(c d:LV)(K:VK):WK:=mk c λa=>mk d λb=>lI (ad a 0) λe=>lI (ad b 0) λf=>br (decide (e<f)) (K (.bool true)) (lI (ad a 0) λg=>lI (ad b 0) λh=>br (g==h) (lI (ad a 1) λi=>lI (ad b 1) λj=>K (.bool (decide (i<j)))) (K (.bool false)))
def fy.j1(K:VK)(b:OA)(a:Int)(c:LI)(d:LM)(e:World)(f:Bool):WK:=br f (tick (nn b λg=>lL g λh j z=>nn b λk=>lL k λl m A=>a8 ((2:Int)≠0) (nn b λn=>lL n λo p B=>a8 ((2:Int)≠0) (fO o p (adN.wrap ((adN.wrap (a-1)).tdiv (2:Int))) 4 λq=>ah q 4 λr=>nn b λs=>lL s λt u C=>fO t u a 4 λv=>ah v 4 λw=>fO h j a 4 λx=>aG 4 x r (fO l m (adN.wrap ((adN.wrap (a-1)).tdiv (2:Int))) 4 λy=>aG 4 y w (a8 ((2:Int)≠0) ((ct c d [.i (adN.wrap ((adN.wrap (a-1)).tdiv (2:Int)))] [.i a] e)))))))) (K (.tuple ⟨[]⟩))
def fy(b:OA)(n:Int)(K:VK):WK:=(lp [.i n] λd e=>∀a c,d [.i a] c->(tick (br (decide (a>0)) (nn b λf=>lL f λg h o=>fO g h a 4 λp=>ah p 4 λq=>nn b λj=>lL j λk m r=>a8 ((2:Int)≠0) (fO k m (adN.wrap ((adN.wrap (a-1)).tdiv (2:Int))) 4 λs=>ah s 4 λt=>nG q t (xB λu=>kp j [.l k m r] (kp f [.l g h o] (fy.j1 K b a d e c u))))) (fy.j1 K b a d e c false))) c)
def iC(a:OA)(f:LV)(K:VK):WK:=mk f λg=>br (!(a.isNone)) (tick (nn a λb=>lL b λc d e=>ah (ad g 0) 4 λh=>EX 4 h λi=>kp b [.l c d e] (eS 4 32 tC c d e (some ⟨i,0,none⟩) 1 λj k m=>nn a λn=>st n (.l j k m) (nn a λo=>lL o λq p r=>fy a (adN.wrap ((p:Int) -1)) (x0 (K (.tuple ⟨[]⟩))))))) (K (.tuple ⟨[]⟩))
def cx.j2(K:VK)(a:OA)(b:Nat)(k:LI)(c:OA)(d:Int)(e:OA)(f g:Nat)(h j:Int)(m:LM)(n:World)(t:Bool):WK:=br t (K (.tuple ⟨[.p none,.i 1]⟩)) (tick (nn a λo=>lP (o.add 4) λq=>ah (ad b 16) 2 λr=>nn a λu=>lP (u.add 2) λv=>ah (ad b 0) 33 λw=>fR v w (xI .i64 λx=>kp (ad b 16) r (kp (o.add 4) [.p q] (bZ q r x (xB λF=>ah (ad b 0) 33 λy=>pX y (x2 λz A=>(xA 4 λB=>(xB λC=>mk tC λs=>aG 4 (ad s 0) B (br C (tick (nn a λD=>ah (ad s 0) 4 λE=>iC (some (D.add 6)) E (x0 ((ct k m [.p c,.i d,.p a,.l e f g,.i h,.i (adN.wrap (j+1))] [.p c,.i d,.p a,.l e f g,.i h,.i j] n))))) ((ct k m [.p c,.i d,.p a,.l e f g,.i h,.i (adN.wrap (j+1))] [.p c,.i d,.p a,.l e f g,.i h,.i j] n)))) A) z)))))))
def cx.j1(K:VK)(I J:OA)(B M:Nat)(O:OA)(C P:Nat)(Q R:Int)(S:Bool):WK:=br S (K (.tuple ⟨[.p none,.i 1]⟩)) ((lp [.p none,.i 0,.p I,.l J B M,.i (B:Int),.i 0] λD T=>∀r s c t u x v j y,D [.p r,.i s,.p c,.l t u x,.i v,.i j] y->(br (decide (j<v)) (fO t u j 14 λV=>ah V 14 λW=>mk cJ λk=>aG 14 (ad k 0) W (tick (nn c λX=>lP (X.add 3) λY=>ah (ad k 0) 2 λZ=>dY Y Z (x2 λv1 v2=>(xI .i64 λn6=>(xB λb2=>br b2 (K (.tuple ⟨[.p none,.i 1]⟩)) (tick (nn c λE=>lP (E.add 3) λF=>ah (ad k 0) 2 λG=>nn c λa4=>lP (a4.add 1) λp6=>ah (ad k 0) 14 λVi=>fb p6 Vi (xI .i64 λn7=>kp (ad k 0) G (kp (E.add 3) [.p F] (bZ F G n7 (xB λb3=>(ct D T [.p r,.i s,.p c,.l t u x,.i v,.i (adN.wrap (j+1))] [.p r,.i s,.p c,.l t u x,.i v,.i j] y)))))))) v2) v1)))) ((lp [.p r,.i s,.p c,.l O C P,.i (C:Int),.i 0] λm w=>∀n o b e f q g d h,m [.p n,.i o,.p b,.l e f q,.i g,.i d] h->(br (decide (d<g)) (fO e f d 33 λa5=>ah a5 33 λRw=>mk bg λa=>aG 33 (ad a 0) Rw (tick (nn b λa6=>lP (a6.add 4) λp9=>ah (ad a 16) 2 λY7=>dY p9 Y7 (x2 λv3 v4=>(xI .i64 λT4=>(xB λb4=>tick (br b4 (cx.j2 K b a m n o e f q g d w h true) (lI (ad a 32) λz=>br (decide (z<0)) (cx.j2 K b a m n o e f q g d w h true) (lI (ad a 32) λA=>br (decide (A>4)) (cx.j2 K b a m n o e f q g d w h true) (nn b λa10=>lI (ad a 30) λH=>nn b λa11=>lP (a11.add 2) λp12=>dj p12 (xI .i64 λuF=>kp (ad a 30) [.i H] (kp (ad a 32) [.i A] (kp (ad a 32) [.i z] (fA (some (a10.add 5)) H uF (xB λb8=>kp (ad a 32) [.i A] (kp (ad a 32) [.i z] (cx.j2 K b a m n o e f q g d w h (!b8))))))))))))) v4) v3)))) (nn b λa12=>st (a12.add 7) (.i Q) (nn b λa13=>st (a13.add 8) (.i R) (nn b λa14=>jc (some a14) (x0 (K (.tuple ⟨[.p b,.i 0]⟩))))))) h))) y))
def cx.j5(K:VK)(b c:OA)(d e:Nat)(f:OA)(g h:Nat)(i a:Int)(j:Bool):WK:=br j (cx.j1 K b c d e f g h i a true) (br (decide (a<0)) (cx.j1 K b c d e f g h i a true) (cx.j1 K b c d e f g h i a (decide (a>1099511627776))))
def cx.j4(K:VK)(b c:OA)(d e:Nat)(f:OA)(g h:Nat)(a i:Int)(j:Bool):WK:=br j (cx.j5 K b c d e f g h a i true) (cx.j5 K b c d e f g h a i (decide (a>1099511627776)))
def cx.j3(K:VK)(b c:OA)(d e:Nat)(f:OA)(g h:Nat)(a i:Int)(j:Bool):WK:=br j (cx.j4 K b c d e f g h a i true) (cx.j4 K b c d e f g h a i (decide (a<0)))
def cx(c:OA)(a d:Nat)(e:OA)(b f:Nat)(g h:Int)(K:VK):WK:=pY (xP λi=>br (decide ((a:Int)>32)) (cx.j3 K i c a d e b f g h true) (cx.j3 K i c a d e b f g h (decide ((b:Int)>96))))
def kW.j1(K:VK)(J:OA)(M O P Q:Int)(R:Bool):WK:=br R (K (.tuple ⟨[.p none,.i 4]⟩)) ((lp [.p none,.i 0,.p J,.i M,.i O,.i P,.l none 0 0,.i Q,.i 0] λF S=>∀c d b e f g h j k m n z,F [.p c,.i d,.p b,.i e,.i f,.i g,.l h j k,.i m,.i n] z->(br (decide (n<m)) (kG b (xA 14 λT=>EX 14 T λV=>eS 14 112 cJ h j k (some ⟨V,0,none⟩) 1 λW X Y=>(ct F S [.p c,.i d,.p b,.i e,.i f,.i g,.l W X Y,.i m,.i (adN.wrap (n+1))] [.p c,.i d,.p b,.i e,.i f,.i g,.l h j k,.i m,.i n] z))) ((lp [.p c,.i d,.p b,.i e,.i f,.l h j k,.l none 0 0,.i g,.i 0] λG Z=>∀A B a o q r s t u v w x y C,G [.p A,.i B,.p a,.i o,.i q,.l r s t,.l u v w,.i x,.i y] C->(br (decide (y<x)) (jI a (xA 16 λD=>jI a (xA 16 λE=>aq a 1 (xI .i64 λH=>a8 (D.length=16/\(E.length=16/\(1=1/\True))) (a8 ((D++(E++([.i H]:LV))).length=33/\True) (mk ((D++(E++([.i H]:LV)))++[]) λr2=>eS 33 264 bg u v w (some ⟨r2,0,none⟩) 1 λsb5 Zr Zs=>(ct G Z [.p A,.i B,.p a,.i o,.i q,.l r s t,.l sb5 Zr Zs,.i x,.i (adN.wrap (y+1))] [.p A,.i B,.p a,.i o,.i q,.l r s t,.l u v w,.i x,.i y] C))))))) (cx r s t u v w o q (x2 λv1 v2=>(xP λp6=>(xI .i64 λI=>br (I !=0) (K (.tuple ⟨[.p none,.i 4]⟩)) (iA a (xB λb2=>br (!b2) (K (.tuple ⟨[.p none,.i 4]⟩)) (K (.tuple ⟨[.p p6,.i I]⟩))))) v2) v1))) C))) z))
def kW(f:BA)(K:VK):WK:=lH f (xP λa=>aq a 1 (xI .i64 λg=>br (g !=1) (K (.tuple ⟨[.p none,.i 4]⟩)) (aq a 8 (xI .i64 λd=>aq a 8 (xI .i64 λe=>aq a 2 (xI .i64 λb=>aq a 2 (xI .i64 λc=>bq a (xB λh=>br h (kW.j1 K a d e c b true) (mq a (xI .i64 λj=>kW.j1 K a d e c b (j !=(adN.wrap ((adN.wrap (b* 96))+(adN.wrap (c* 217)))))))))))))))
def ss(c:OA)(e:LV)(K:VK):WK:=mk e λf=>mk Z8 λb=>nN c (x2 λg h=>(xA 4 λj=>(xB λk=>mk Z8 λa=>aG 4 (ad a 0) j (br (!k) (tick (ah (ad a 0) 4 λd=>pY (xP λl=>kp (ad a 0) d (aG 4 (ad b 0) d (ah (ad b 0) 4 λm=>K (.tuple ⟨[.p l,.agg ⟨m⟩,.i 0]⟩)))))) (ah (ad f 0) 5 λn=>lI (ad a 0) λo=>lI (ad a 1) λq=>lI (ad a 2) λr=>mI n c o q r (x2 λs t=>(xS λu=>(xB λv=>br (!v) (tick (ah (ad a 0) 4 λw=>aG 4 (ad b 0) w (ah (ad b 0) 4 λx=>K (.tuple ⟨[.p none,.agg ⟨x⟩,.i 4]⟩)))) (kW u (x2 λy z=>(xP λA=>(xI .i64 λB=>tick (ah (ad a 0) 4 λC=>aG 4 (ad b 0) C (ah (ad b 0) 4 λD=>K (.tuple ⟨[.p A,.agg ⟨D⟩,.i B]⟩)))) z) y))) t) s)))) h) g)
def jm(f:OA)(n:Value)(K:VK):WK:=aq f 1 (xI .i64 λo=>(lp [.l none 0 0,.l none 0 0,.i o,.i 0] λm q=>∀g h j a b c d e k,m [.l g h j,.l a b c,.i d,.i e] k->(br (decide (e<d)) (bq f (xB λr=>br r (K (.l a b c)) (tr [(N.kG,kG.u),(N.aq,aq.u),(N.bq,bq.u)] n [.p f] (xA 14 λs=>EX 14 s λt=>eS 14 112 cJ a b c (some ⟨t,0,none⟩) 1 λv w x=>(ct m q [.l g h j,.l v w x,.i d,.i (adN.wrap (e+1))] [.l g h j,.l a b c,.i d,.i e] k))))) (K (.l a b c))) k))
def iK(f:OA)(n:Value)(K:VK):WK:=aq f 1 (xI .i64 λo=>(lp [.l none 0 0,.l none 0 0,.i o,.i 0] λm q=>∀g h j a b c d e k,m [.l g h j,.l a b c,.i d,.i e] k->(br (decide (e<d)) (bq f (xB λr=>br r (K (.l a b c)) (tr [(N.aq,aq.u),(N.bq,bq.u),(N.jI,jI.u)] n [.p f] (xA 16 λs=>EX 16 s λt=>eS 16 128 fe a b c (some ⟨t,0,none⟩) 1 λv w x=>(ct m q [.l g h j,.l v w x,.i d,.i (adN.wrap (e+1))] [.l g h j,.l a b c,.i d,.i e] k))))) (K (.l a b c))) k))
def iW(b:OA)(K:VK):WK:=aq b 1 (xI .i64 λa=>br (!(b.isNone)) (br (decide (a>1)) (nn b λc=>st (c.add 1) (.bool true) (K (.bool (a==1)))) (K (.bool (a==1)))) (K (.bool (a==1))))
def lQ(f:OA)(n:Value)(K:VK):WK:=aq f 1 (xI .i64 λo=>(lp [.l none 0 0,.l none 0 0,.i o,.i 0] λm q=>∀g h j a b c d e k,m [.l g h j,.l a b c,.i d,.i e] k->(br (decide (e<d)) (bq f (xB λr=>br r (K (.l a b c)) (tr [(N.aq,aq.u),(N.bm,bm.u),(N.bq,bq.u)] n [.p f] (xA 2 λs=>EX 2 s λt=>eS 2 16 [.u 0,.u 0] a b c (some ⟨t,0,none⟩) 1 λv w x=>(ct m q [.l g h j,.l v w x,.i d,.i (adN.wrap (e+1))] [.l g h j,.l a b c,.i d,.i e] k))))) (K (.l a b c))) k))
def pg(c:LV)(K:VK):WK:=mk c λa=>lI (ad a 0) λb=>br (b==1) (lL (ad a 1) λj d k=>br (decide ((d:Int)>=1)) (lL (ad a 1) λl e m=>K (.bool (decide ((e:Int)<=8)))) (K (.bool false))) (br (b==2) (lL (ad a 2) λn f o=>br (decide ((f:Int)>=1)) (lL (ad a 2) λp g q=>K (.bool (decide ((g:Int)<=8)))) (K (.bool false))) (br (b==3) (lI (ad a 3) λh=>br (decide (h>=0)) (lI (ad a 3) λi=>K (.bool (decide (i<=1099511627776)))) (K (.bool false))) (K (.bool false))))
def eg.j4(K:VK)(a:Nat)(b:Bool):WK:=br b (lT (ad a 4) λc=>br c (K (.bool true)) (lT (ad a 5) λd=>K (.bool d))) (K (.bool false))
def eg.j3(K:VK)(a:Nat)(b:Bool):WK:=br b (lI (ad a 7) λc=>eg.j4 K a (decide (c<=16))) (eg.j4 K a false)
def eg.j2(K:VK)(a:Nat)(b:Bool):WK:=br b (lI (ad a 7) λc=>eg.j3 K a (decide (c>=1))) (eg.j3 K a false)
def eg.j1(K:VK)(b:Nat)(c:Int)(d:Bool):WK:=br d (lL (ad b 4) λj e k=>br (decide ((e:Int)>=1)) (lL (ad b 4) λl f m=>K (.bool (decide ((f:Int)<=16)))) (K (.bool false))) (br (c==6) (ah (ad b 5) 8 λg=>mk EY λa=>aG 8 (ad a 0) g (lI (ad a 2) λh=>br (decide (h>=0)) (lI (ad a 3) λi=>eg.j2 K a (decide (i>=0))) (eg.j2 K a false))) (K (.bool false)))
def eg(c:LV)(K:VK):WK:=mk c λb=>lI (ad b 0) λa=>br (a==4) (eg.j1 K b a (a==4)) (eg.j1 K b a (a==5))
def fQ.j3(K:VK)(a:Nat)(b:Bool):WK:=br b (lI (ad a 12) λc=>br (decide (c>=0)) (lI (ad a 12) λd=>K (.bool (decide (d<=65535)))) (K (.bool false))) (K (.bool false))
def fQ.j2(K:VK)(a:Nat)(b:Bool):WK:=br b (lI (ad a 11) λc=>fQ.j3 K a (decide (c<=65535))) (fQ.j3 K a false)
def fQ.j1(K:VK)(a:Nat)(b:Bool):WK:=br b (lI (ad a 11) λc=>fQ.j2 K a (decide (c>=0))) (fQ.j2 K a false)
def fQ(b:LV)(K:VK):WK:=mk b λa=>lI (ad a 10) λc=>br (decide (c>=0)) (lI (ad a 10) λd=>fQ.j1 K a (decide (d<=4294967295))) (fQ.j1 K a false)
def dg.j5(K:VK)(a:Nat)(b:Bool):WK:=br b (lI (ad a 13) λc=>br (decide (c>=0)) (lI (ad a 13) λd=>K (.bool (decide (d<=65535)))) (K (.bool false))) (K (.bool false))
def dg.j4(K:VK)(a:Nat)(b:Bool):WK:=br b (lI (ad a 12) λc=>dg.j5 K a (decide (c<=65535))) (dg.j5 K a false)
def dg.j3(K:VK)(a:Nat)(b:Bool):WK:=br b (lI (ad a 12) λc=>dg.j4 K a (decide (c>=0))) (dg.j4 K a false)
def dg.j2(K:VK)(a:Nat)(b:Bool):WK:=br b (lI (ad a 11) λc=>dg.j3 K a (decide (c<=4294967295))) (dg.j3 K a false)
def dg.j1(K:VK)(a:Nat)(b:Bool):WK:=br b (lI (ad a 11) λc=>dg.j2 K a (decide (c>=0))) (dg.j2 K a false)
def dg(b:LV)(K:VK):WK:=mk b λa=>lI (ad a 10) λc=>br (decide (c>=0)) (lI (ad a 10) λd=>dg.j1 K a (decide (d<=4294967295))) (dg.j1 K a false)
def lG.j1(K:VK)(j:Nat)(y:Bool):WK:=br y (K (.bool false)) (lI (ad j 0) λr=>br (r==1) (lL (ad j 1) λz s A=>(lp [.bool false,.l z s A,.i (s:Int),.i 0] λt B=>∀k c d m e a n,t [.bool k,.l c d m,.i e,.i a] n->(br (decide (a<e)) (fO c d a 14 λC=>ah C 14 λD=>mk cJ λu=>aG 14 (ad u 0) D (ah (ad u 0) 14 λE=>fQ E (xB λF=>br (!F) (K (.bool false)) ((ct t B [.bool k,.l c d m,.i e,.i (adN.wrap (a+1))] [.bool k,.l c d m,.i e,.i a] n))))) (K (.bool true))) n)) (br (r==2) (lL (ad j 2) λG v H=>(lp [.bool false,.l G v H,.i (v:Int),.i 0] λw I=>∀o f g p h b q,w [.bool o,.l f g p,.i h,.i b] q->(br (decide (b<h)) (fO f g b 16 λJ=>ah J 16 λM=>mk fe λx=>aG 16 (ad x 0) M (ah (ad x 0) 16 λO=>dg O (xB λP=>br (!P) (K (.bool false)) ((ct w I [.bool o,.l f g p,.i h,.i (adN.wrap (b+1))] [.bool o,.l f g p,.i h,.i b] q))))) (K (.bool true))) q)) (K (.bool true))))
def lG(b:LV)(K:VK):WK:=mk b λa=>ah (ad a 0) 13 λc=>pg c (xB λd=>br (!d) (ah (ad a 0) 13 λe=>eg e (xB λf=>lG.j1 K a (!f))) (lG.j1 K a false))
def iV.j1(K:VK)(c:OA)(a b:Nat):WK:=iA c (xB λd=>br (!d) (a8 True (a8 (13=13) (ga (ad a 0) lF (ah (ad a 0) 13 λe=>K (.tuple ⟨[.agg ⟨e⟩,.i 4]⟩))))) (ah (ad b 0) 13 λf=>lG f (xB λg=>br (!g) (a8 True (a8 (13=13) (ga (ad a 0) lF (ah (ad a 0) 13 λh=>K (.tuple ⟨[.agg ⟨h⟩,.i 4]⟩))))) (ah (ad b 0) 13 λj=>aG 13 (ad a 0) j (ah (ad a 0) 13 λk=>K (.tuple ⟨[.agg ⟨k⟩,.i 0]⟩))))))
def iV(n:BA)(K:VK):WK:=mk lF λc=>lH n (xP λa=>aq a 1 (xI .i64 λo=>a8 (1=1/\True) (mk lF λb=>a8 (13=13) (ga (ad b 0) [.i o,.l none 0 0,.l none 0 0,.i 0,.l none 0 0,.u 0,.u 0,.i 0,.i 0,.bool false,.bool false,.bool false,.i 0] (lI (ad b 0) λd=>br (d==1) (jm a (.func (.func N.kG) ⟨[]⟩ ⟨[]⟩) (xL λp q r=>st (ad b 1) (.l p q r) (iV.j1 K a c b))) (br (d==2) (iK a (.func (.func N.jI) ⟨[]⟩ ⟨[]⟩) (xL λs t v=>st (ad b 2) (.l s t v) (iV.j1 K a c b))) (br (d==3) (aq a 8 (xI .i64 λw=>st (ad b 3) (.i w) (iV.j1 K a c b))) (br (d==6) (bm a (xA 2 λe=>aq a 8 (xI .i64 λf=>aq a 8 (xI .i64 λg=>iW a (xB λh=>iW a (xB λj=>iW a (xB λk=>aq a 1 (xI .i64 λm=>a8 (e.length=2/\(1=1/\(1=1/\(1=1/\(1=1/\(1=1/\(1=1/\True))))))) (a8 ((e++([.i f,.i g,.bool h,.bool j,.bool k,.i m]:LV)).length=8) (ga (ad b 5) (e++([.i f,.i g,.bool h,.bool j,.bool k,.i m]:LV)) (iV.j1 K a c b))))))))))) (lQ a (.func (.func N.bm) ⟨[]⟩ ⟨[]⟩) (xL λx y z=>st (ad b 4) (.l x y z) (iV.j1 K a c b)))))))))))
def mP(b:LV)(K:VK):WK:=mk b λa=>lI (ad a 0) λc=>br (c==1) (K (.bool true)) (lI (ad a 0) λd=>br (d==2) (K (.bool true)) (lI (ad a 0) λe=>K (.bool (e==3))))
def dK(a:LV)(K:VK):WK:=mk a λb=>lI (ad b 12) λc=>K (.bool ((bA .i64 .and c 1)!=0))
def dK.u:WP|[.agg ⟨a⟩],K=>dK a K|_,_=>no
def iR(n:OA)(e o:Nat)(p:Value)(K:VK):WK:=(lp [.i 0,.bool false,.l n e o,.i (e:Int),.i 0] λk q=>∀f g b c h d a j,k [.i f,.bool g,.l b c h,.i d,.i a] j->(br (decide (a<d)) (fO b c a 14 λr=>ah r 14 λs=>mk cJ λm=>aG 14 (ad m 0) s (ah (ad m 0) 14 λt=>tr [(N.dK,dK.u)] p [.agg ⟨t⟩] (xB λv=>br (!v) (K (.tuple ⟨[.i (adN.wrap (a+1)),.bool true]⟩)) ((ct k q [.i f,.bool g,.l b c h,.i d,.i (adN.wrap (a+1))] [.i f,.bool g,.l b c h,.i d,.i a] j))))) (K (.tuple ⟨[.i (e:Int),.bool false]⟩))) j)
def fJ(e:OA)(c m:Nat)(g h:Int)(K:VK):WK:=(lp [.i (c:Int),.i 0] λf j=>∀b a d,f [.i b,.i a] d->(br (decide (a<b)) (fO e c a 1 λk=>st k (.i 1) ((ct f j [.i b,.i (adN.wrap (a+1))] [.i b,.i a] d))) (fO e c g 1 λl=>st l (.i h) (K (.tuple ⟨[]⟩)))) d)
def fJ.u:WP|[.slice a b c,.int .i64 d,.int .i64 e],K=>fJ a b c d e K|_,_=>no
def dc(a:OA)(K:VK):WK:=br (a.isNone) (K (.i 0)) (nn a λb=>lL b λd c e=>K (.i (c:Int)))
def bV.j1(K:VK)(b a:Nat)(c:OA)(d:Int)(e:Bool):WK:=br e (ah (ad b 0) 14 λf=>aG 14 (ad a 0) f (ah (ad a 0) 14 λg=>K (.tuple ⟨[.agg ⟨g⟩,.bool false]⟩))) (nn c λh=>lL h λi j n=>fO i j d 14 λk=>ah k 14 λl=>aG 14 (ad a 0) l (ah (ad a 0) 14 λm=>K (.tuple ⟨[.agg ⟨m⟩,.bool true]⟩)))
def bV(b:OA)(a:Int)(K:VK):WK:=mk cJ λc=>mk cJ λd=>br (decide (a<0)) (bV.j1 K d c b a true) (dc b (xI .i64 λe=>bV.j1 K d c b a (decide (a>=e))))
def bX(b:OA)(c:LV)(K:VK):WK:=mk c λd=>mk cJ λa=>br (b.isNone) (a8 True (a8 (14=14) (ga (ad a 0) cJ (ah (ad a 0) 14 λe=>K (.tuple ⟨[.agg ⟨e⟩,.bool false]⟩))))) (tick (nn b λf=>lP (f.add 3) λg=>ah (ad d 0) 2 λh=>dY g h (x2 λi j=>(xI .i64 λk=>(xB λl=>br (!l) (a8 True (a8 (14=14) (ga (ad a 0) cJ (ah (ad a 0) 14 λm=>K (.tuple ⟨[.agg ⟨m⟩,.bool false]⟩))))) (nn b λn=>lP (n.add 1) λo=>bV o k (x2 λp q=>(xA 14 λr=>(xB λs=>aG 14 (ad a 0) r (ah (ad a 0) 14 λt=>K (.tuple ⟨[.agg ⟨t⟩,.bool s]⟩))) q) p))) j) i)))
def eK(a:LV)(K:VK):WK:=mk a λb=>ah (ad b 0) 2 λc=>a8 True (ny [.u 0,.u 0] c [.u 0,.u 0] λd=>K (.bool d))
def iF.j2(K:VK)(a:Nat)(b:Bool):WK:=br b (ah (ad a 8) 2 λc=>eK c (xB λd=>br d (lI (ad a 13) λe=>K (.bool (e==0))) (K (.bool false)))) (K (.bool false))
def iF.j1(K:VK)(a:Nat)(b:Bool):WK:=br b (ah (ad a 6) 2 λc=>eK c (xB λd=>iF.j2 K a d)) (iF.j2 K a false)
def iF(b:LV)(K:VK):WK:=mk b λa=>ah (ad a 2) 2 λc=>eK c (xB λd=>br d (ah (ad a 4) 2 λe=>eK e (xB λf=>iF.j1 K a f)) (iF.j1 K a false))
def mm.j1(K:VK)(a:Nat)(b:Bool):WK:=br b (K (.i 8)) (lI (ad a 11) λc=>br (decide (c<1)) (K (.i 9)) (lI (ad a 11) λd=>br (decide (d>65535)) (K (.i 9)) (K (.i 0))))
def mm(b:LV)(K:VK):WK:=mk b λa=>lI (ad a 12) λc=>br ((bA .i64 .andNot c 7)!=0) (K (.i 3)) (ah (ad a 0) 2 λd=>eK d (xB λe=>br e (K (.i 4)) (ah (ad a 0) 2 λf=>ah (ad N.pe 0) 2 λg=>ny [.u 0,.u 0] f g λh=>br h (K (.i 5)) (lI (ad a 12) λj=>br ((bA .i64 .and j 6)==6) (K (.i 6)) (ah (ad a 0) 14 λk=>iF k (xB λl=>br (!l) (K (.i 7)) (lI (ad a 10) λm=>br (decide (m<1)) (mm.j1 K a true) (lI (ad a 10) λn=>mm.j1 K a (decide (n>4294967295))))))))))
def mn.j1(K:VK)(a b:Nat)(c:Bool):WK:=br c (lI (ad a 12) λd=>lI (ad b 12) λe=>br ((bA .i64 .and d 6)==(bA .i64 .and e 6)) (K (.i 10)) (K (.i 11))) (K (.i 11))
def mn(c d:LV)(K:VK):WK:=mk c λa=>mk d λb=>lI (ad a 10) λe=>lI (ad b 10) λf=>br (e==f) (lI (ad a 11) λg=>lI (ad b 11) λh=>mn.j1 K a b (g==h)) (mn.j1 K a b false)
def cj(b:Addr)(K:VK):WK:=lP b λa=>nn a λc=>lI (c.add 8) λd=>nn a λe=>st (e.add 8) (.i (adN.wrap (d-1))) (K (.tuple ⟨[]⟩))
def cj.u:WP|[.pointer (some a)],K=>cj a K|_,_=>no
def kE(c:OA)(K:VK):WK:=mk [.p c] λa=>lP (ad a 0) λb=>nn b λd=>lI (d.add 8) λe=>nn b λf=>st (f.add 8) (.i (adN.wrap (e+1))) (lP (ad a 0) λg=>nn g λh=>eo (some h) (.func (.func N.cj) ⟨[]⟩ ⟨[.p (some (ad a 0))]⟩) (x0 (lP (ad a 0) λj=>nn j λk=>lI (k.add 8) λl=>K (.i l))))
def ky(a:OA)(b:LV)(K:VK):WK:=mk b λc=>br (a.isNone) (K (.bool false)) (ah (ad c 0) 2 λd=>bI a d (x2 λe f=>(xI .i64 λg=>(xB λh=>br (!h) (K (.bool false)) (nn a λj=>lL j λk l t=>a8 (1=1/\True) (fO k l g 4 λm=>a8 (4=4) (ga m [.u 0,.u 0,.i 0,.int .u8 2] (nn a λn=>lI (n.add 1) λo=>nn a λp=>st (p.add 1) (.i (adN.wrap (o-1))) (nn a λq=>lI (q.add 2) λr=>nn a λs=>st (s.add 2) (.i (adN.wrap (r+1))) (K (.bool true)))))))) f) e))
def cr(a c:Addr)(K:VK):WK:=tick (lP a λb=>nn b λd=>lP (d.add 3) λe=>ah c 2 λf=>ky e f (xB λg=>kp a [.p b] (K (.tuple ⟨[]⟩))))
def cr.u:WP|[.pointer (some a),.pointer (some b)],K=>cr a b K|_,_=>no
def jb(k:OA)(l:LV)(K:VK):WK:=mk [.p k] λa=>mk l λb=>lP (ad a 0) λm=>br (m.isNone) (K (.i 2)) (lP (ad a 0) λn=>nn n λo=>lP (o.add 1) λq=>dc q (xI .i64 λr=>br (decide (r>=32)) (K (.i 6)) (tick (lP (ad a 0) λe=>nn e λs=>lP (s.add 3) λt=>ah (ad b 0) 2 λu=>dY t u (x2 λv w=>(xI .i64 λI=>(xB λx=>kp (ad a 0) [.p e] (br x (K (.i 1)) (lP (ad a 0) λy=>kE y (xI .i64 λz=>st (ad b 13) (.i z) (tick (lP (ad a 0) λc=>nn c λf=>lP (f.add 3) λg=>ah (ad b 0) 2 λh=>lP (ad a 0) λd=>nn d λA=>lP (A.add 1) λB=>dc B (xI .i64 λC=>kp (ad a 0) [.p d] (kp (ad b 0) h (kp (f.add 3) [.p g] (kp (ad a 0) [.p c] (bZ g h C (xB λJ=>kp (ad a 0) [.p d] (kp (ad a 0) [.p c] (lP (ad a 0) λD=>nn D λE=>eo (some E) (.func (.func N.cr) ⟨[]⟩ ⟨[.p (some (ad a 0)),.p (some (ad b 0))]⟩) (x0 (tick (lP (ad a 0) λj=>nn j λF=>lP (F.add 1) λG=>ah (ad b 0) 14 λH=>fb G H (xI .i64 λM=>kp (ad a 0) [.p j] (K (.i 0)))))))))))))))))))) w) v)))))
def iE(b:OA)(e:LV)(K:VK):WK:=mk e λa=>ah (ad a 0) 14 λf=>mm f (xI .i64 λc=>br (c !=0) (K (.i c)) (ah (ad a 0) 2 λg=>bX b g (x2 λh j=>(xA 14 λk=>(xB λl=>mk cJ λd=>aG 14 (ad d 0) k (br l (ah (ad a 0) 14 λm=>ah (ad d 0) 14 λn=>mn m n (xI .i64 λo=>K (.i o))) (lI (ad a 12) λp=>st (ad a 12) (.i (bA .i64 .andNot p 1)) (ah (ad a 0) 14 λq=>jb b q (xI .i64 λr=>br (r !=0) (K (.i 35)) (K (.i 0))))))) j) h)))
def iE.u:WP|[.pointer a,.agg ⟨b⟩],K=>iE a b K|_,_=>no
def oJ(a:OA)(K:VK):WK:=br (a.isNone) (K (.i 0)) (nn a λb=>lL b λd c e=>K (.i (c:Int)))
def cV(a:OA)(K:VK):WK:=br (a.isNone) (K (.i 0)) (nn a λb=>oJ (some b) (xI .i64 λc=>K (.i c)))
def cV.u:WP|[.pointer a],K=>cV a K|_,_=>no
def cm(a b:Addr)(K:VK):WK:=lP b λc=>lI a λd=>nn c λe=>st (e.add 7) (.i d) (K (.tuple ⟨[]⟩))
def cm.u:WP|[.pointer (some a),.pointer (some b)],K=>cm a b K|_,_=>no
def cD(a c:Addr)(K:VK):WK:=tick (lP a λb=>nn b λd=>ah c 4 λe=>iC (some (d.add 6)) e (x0 (kp a [.p b] (K (.tuple ⟨[]⟩)))))
def cD.u:WP|[.pointer (some a),.pointer (some b)],K=>cD a b K|_,_=>no
def fG.j1(K:VK)(a:OA)(b:Int)(m:Bool):WK:=br m (K (.bool false)) (tick (nn a λc=>lL c λd e f=>nV d e f 2 none (some b) λn o p=>nn a λg=>lL g λh j k=>nV h j k 2 (some (adN.wrap (b+1))) none λq r w=>eS 2 16 [.i 0,.i 0] n o p q r λs t u=>kp g [.l h j k] (kp c [.l d e f] (nn a λv=>st v (.l s t u) (K (.bool true))))))
def fG(a:OA)(c:Int)(K:VK):WK:=br (a.isNone) (K (.bool false)) (iD a c (xI .i64 λb=>nn a λd=>lL d λk e l=>br (b==(e:Int)) (fG.j1 K a b true) (nn a λf=>lL f λg h m=>fO g h b 2 λi=>lI i λj=>fG.j1 K a b (j !=c))))
def cw(a d e:Addr)(K:VK):WK:=tick (lP a λb=>nn b λf=>lP (f.add 4) λg=>ah d 2 λh=>ky g h (xB λk=>kp a [.p b] (tick (lP a λc=>nn c λi=>lI (e.add 30) λj=>fG (some (i.add 5)) j (xB λl=>kp a [.p c] (K (.tuple ⟨[]⟩)))))))
def cw.u:WP|[.pointer (some a),.pointer (some b),.pointer (some c)],K=>cw a b c K|_,_=>no
def cU.j1(K:VK)(a:OA)(d:LI)(e:LM)(f:Int)(g:World)(c b:Int):WK:=br (b==c) (K (.tuple ⟨[]⟩)) (tick (nn a λh=>lL h λj k A=>nn a λl=>lL l λm n B=>nn a λo=>lL o λp q C=>fO p q b 4 λr=>ah r 4 λs=>nn a λt=>lL t λu v D=>fO u v c 4 λw=>ah w 4 λx=>fO j k c 4 λy=>aG 4 y s (fO m n b 4 λz=>aG 4 z x ((ct d e [.i b] [.i f] g)))))
def cU.j2(K:VK)(d:OA)(a b:Int)(e:LI)(c:Int)(f:LM)(g:World)(p:LI)(q:LM)(r:Int)(s:World)(t:Bool):WK:=br t (tick (nn d λh=>lL h λj k u=>fO j k a 4 λv=>ah v 4 λw=>nn d λm=>lL m λn o x=>fO n o b 4 λy=>ah y 4 λz=>nG w z (xB λA=>kp m [.l n o x] (kp h [.l j k u] (br A ((ct e f [.i c,.i a,.i (adN.wrap (a+1))] [.i c,.i b,.i a] g)) ((ct e f [.i c,.i b,.i (adN.wrap (a+1))] [.i c,.i b,.i a] g))))))) (cU.j1 K d p q r s c b)
def cU(f:OA)(m:Int)(K:VK):WK:=(lp [.i m] λg k=>∀a c,g [.i a] c->((lp [.i a,.i a,.i (adN.wrap ((adN.wrap (2* a))+1))] λh l=>∀d j b e,h [.i d,.i j,.i b] e->(br (decide (b<=(adN.wrap ((adN.wrap (2* d))+2)))) (nn f λn=>lL n λp o q=>cU.j2 K f b j h d l e g k a c (decide (b<(o:Int)))) (cU.j2 K f b j h d l e g k a c false)) e)) c)
def mu(a:OA)(b:Int)(K:VK):WK:=mk tC λd=>tick (nn a λg=>lL g λh i o=>fO h i b 4 λj=>ah j 4 λk=>nn a λe=>lL e λm c n=>mk tC λf=>kp e [.l m c n] (kp j k (kp g [.l h i o] (aG 4 (ad f 0) k (kp e [.l m c n] (tick (nn a λp=>lL p λq r M=>nn a λs=>lL s λt u O=>fO t u (adN.wrap ((c:Int) -1)) 4 λv=>ah v 4 λw=>fO q r b 4 λx=>aG 4 x w (nn a λy=>lL y λz A B=>nV z A B 4 none (some (adN.wrap ((c:Int) -1))) λC D E=>nn a λF=>st F (.l C D E) (br (decide (b<(adN.wrap ((c:Int) -1)))) (cU a b (x0 (fy a b (x0 (ah (ad f 0) 4 λG=>aG 4 (ad d 0) G (ah (ad d 0) 4 λH=>K (.agg ⟨H⟩))))))) (ah (ad f 0) 4 λI=>aG 4 (ad d 0) I (ah (ad d 0) 4 λJ=>K (.agg ⟨J⟩))))))))))))
def iX(e:OA)(n:Int)(K:VK):WK:=br (e.isNone) (K (.bool false)) (nn e λo=>lL o λp j q=>(lp [.bool false,.l p j q,.i (j:Int),.i 0] λk r=>∀f b c g d a h,k [.bool f,.l b c g,.i d,.i a] h->(br (decide (a<d)) (fO b c a 4 λs=>ah s 4 λt=>mk tC λm=>aG 4 (ad m 0) t (lI (ad m 1) λu=>br (u==n) (mu e a (xA 4 λv=>K (.bool true))) ((ct k r [.bool f,.l b c g,.i d,.i (adN.wrap (a+1))] [.bool f,.l b c g,.i d,.i a] h)))) (K (.bool false))) h))
def cu(a c:Addr)(K:VK):WK:=tick (lP a λb=>nn b λd=>lI (c.add 1) λe=>iX (some (d.add 6)) e (xB λf=>kp a [.p b] (K (.tuple ⟨[]⟩))))
def cu.u:WP|[.pointer (some a),.pointer (some b)],K=>cu a b K|_,_=>no
def aX(a b c:Addr)(K:VK):WK:=tick (lP b λd=>nn d λe=>lL e λf g k=>lI c λh=>ah a 14 λi=>fO f g h 14 λj=>aG 14 j i (K (.tuple ⟨[]⟩)))
def aX.u:WP|[.pointer (some a),.pointer (some b),.pointer (some c)],K=>aX a b c K|_,_=>no
def bn(a b c:Addr)(K:VK):WK:=tick (lP b λd=>nn d λe=>lL e λf g k=>lI c λh=>ah a 33 λi=>fO f g h 33 λj=>aG 33 j i (K (.tuple ⟨[]⟩)))
def bn.u:WP|[.pointer (some a),.pointer (some b),.pointer (some c)],K=>bn a b c K|_,_=>no
def oK(a:OA)(e:Int)(K:VK):WK:=br (a.isNone) (K (.tuple ⟨[]⟩)) ((lp [] λc f=>∀b,c [] b->(nn a λg=>lL g λy h z=>br (decide ((h:Int)>(max2 e 0))) (nn a λi=>lL i λA d B=>nn a λj=>lL j λk m C=>fO k m (adN.wrap ((d:Int) -1)) 1 λn=>ld n λo=>tr [(N.cD,cD.u),(N.cw,cw.u),(N.cu,cu.u),(N.cr,cr.u),(N.cm,cm.u),(N.cj,cj.u),(N.aY,aY.u),(N.aX,aX.u),(N.bp,bp.u),(N.bn,bn.u)] o [] (x0 (nn a λp=>lL p λq r s=>nV q r s 1 none (some (adN.wrap ((d:Int) -1))) λt v w=>nn a λx=>st x (.l t v w) ((ct c f [] [] b))))) (K (.tuple ⟨[]⟩))) b))
def cW(a:OA)(b:Int)(K:VK):WK:=br (!(a.isNone)) (nn a λc=>oK (some c) b (x0 (K (.tuple ⟨[]⟩)))) (K (.tuple ⟨[]⟩))
def cW.u:WP|[.pointer a,.int .i64 b],K=>cW a b K|_,_=>no
def jo(f o:OA)(j q:Nat)(r:OA)(s t:Nat)(v:Value)(K:VK):WK:=cV f (xI .i64 λw=>(lp [.i w,.l o j q,.i (j:Int),.i 0] λk x=>∀b c d g e a h,k [.i b,.l c d g,.i e,.i a] h->(br (decide (a<e)) (fO c d a 14 λy=>ah y 14 λz=>mk cJ λm=>aG 14 (ad m 0) z (ah (ad m 0) 14 λA=>tr [(N.cW,cW.u),(N.cV,cV.u),(N.iE,iE.u),(N.fJ,fJ.u)] v [.p f,.agg ⟨A⟩] (xI .i64 λn=>br (n !=0) (cW f b (x0 (fJ r s t a n (x0 (K (.tuple ⟨[]⟩)))))) ((ct k x [.i b,.l c d g,.i e,.i (adN.wrap (a+1))] [.i b,.l c d g,.i e,.i a] h))))) (K (.tuple ⟨[]⟩))) h))
def lN(t n:OA)(e o:Nat)(u v:Value)(K:VK):WK:=FW 8 [.i 0] (e:Int) (e:Int) λw x y=>(lp [.l none 0 0,.l w x y,.i 0] λm p=>∀f g h b c d a k,m [.l f g h,.l b c d,.i a] k->(br (decide (a<(e:Int))) (nV n e o 14 (some a) none λz A B=>iR z A B (u) (x2 λC D=>(xI .i64 λj=>(xB λE=>nV b c d 1 (some a) (some (adN.wrap (a+j))) λq r s=>br (!E) (fJ q r s (adN.wrap (j-1)) 2 (x0 ((ct m p [.l f g h,.l b c d,.i (adN.wrap (a+j))] [.l f g h,.l b c d,.i a] k)))) (nV n e o 14 (some a) (some (adN.wrap (a+j))) λF G H=>jo t F G H q r s (v) (x0 ((ct m p [.l f g h,.l b c d,.i (adN.wrap (a+j))] [.l f g h,.l b c d,.i a] k))))) D) C)) (K (.l b c d))) k)
def nP(a b:OA)(c d:Nat)(K:VK):WK:=lN a b c d (.func (.func N.dK) ⟨[]⟩ ⟨[]⟩) (.func (.func N.iE) ⟨[]⟩ ⟨[]⟩) (xL λe f g=>K (.l e f g))
def dw(a:LV)(K:VK):WK:=mk a λb=>lI (ad b 13) λc=>K (.bool ((bA .i64 .and c 1)!=0))
def dw.u:WP|[.agg ⟨a⟩],K=>dw a K|_,_=>no
def iq(n:OA)(e o:Nat)(p:Value)(K:VK):WK:=(lp [.i 0,.bool false,.l n e o,.i (e:Int),.i 0] λk q=>∀f g b c h d a j,k [.i f,.bool g,.l b c h,.i d,.i a] j->(br (decide (a<d)) (fO b c a 16 λr=>ah r 16 λs=>mk fe λm=>aG 16 (ad m 0) s (ah (ad m 0) 16 λt=>tr [(N.dw,dw.u)] p [.agg ⟨t⟩] (xB λv=>br (!v) (K (.tuple ⟨[.i (adN.wrap (a+1)),.bool true]⟩)) ((ct k q [.i f,.bool g,.l b c h,.i d,.i (adN.wrap (a+1))] [.i f,.bool g,.l b c h,.i d,.i a] j))))) (K (.tuple ⟨[.i (e:Int),.bool false]⟩))) j)
def oe(a:LV)(K:VK):WK:=mk a λb=>lI (ad b 13) λc=>K (.bool ((bA .i64 .and c 12)!=0))
def iJ(a:LV)(K:VK):WK:=mk a λb=>lI (ad b 13) λc=>K (.bool ((bA .i64 .and c 2)!=0))
def gQ.j1(K:VK)(a:Addr)(b:Bool):WK:=br b (lI (a.add 13) λc=>br ((bA .i64 .and c 192)==0) (K (.bool true)) (ah a 16 λd=>iJ d (xB λe=>K (.bool e)))) (K (.bool false))
def gQ(j:LV)(K:VK):WK:=mk j λk=>a8 (1=1/\(1=1/\(1=1/\True))) ((lp [.p (some (ad k 0)),.bool false,.i 0,.agg ⟨[.i 2,.i 4,.i 8]⟩,.i 0] λg h=>∀a e c d b f,g [.p (some a),.bool e,.i c,.agg ⟨d⟩,.i b] f->(br (decide (b<3)) (yO d 3 b (xI .i64 λl=>lI (a.add 13) λm=>br ((bA .i64 .and m l)!=0) ((ct g h [.p (some a),.bool e,.i (adN.wrap (c+1)),.agg ⟨d⟩,.i (adN.wrap (b+1))] [.p (some a),.bool e,.i c,.agg ⟨d⟩,.i b] f)) ((ct g h [.p (some a),.bool e,.i c,.agg ⟨d⟩,.i (adN.wrap (b+1))] [.p (some a),.bool e,.i c,.agg ⟨d⟩,.i b] f)))) (br (decide (c<=1)) (ah a 16 λn=>oe n (xB λo=>br o (lI (a.add 13) λq=>gQ.j1 K a (!((bA .i64 .and q 240)!=0))) (gQ.j1 K a true))) (gQ.j1 K a false))) f))
def kK.j1(K:VK)(a:Nat)(b:Bool):WK:=br b (K (.i 8)) (lI (ad a 12) λc=>br (decide (c<0)) (K (.i 9)) (lI (ad a 12) λd=>br (decide (d>65535)) (K (.i 9)) (K (.i 0))))
def kK(b:LV)(K:VK):WK:=mk b λa=>ah (ad a 8) 2 λc=>eK c (xB λd=>br d (K (.i 16)) (lI (ad a 11) λe=>br (decide (e<0)) (kK.j1 K a true) (lI (ad a 11) λf=>kK.j1 K a (decide (f>4294967295)))))
def mG(a:LV)(K:VK):WK:=mk a λb=>lI (ad b 13) λc=>K (.bool ((bA .i64 .and c 48)!=0))
def gn.j2(K:VK)(a:Nat)(b:Bool):WK:=br b (K (.i 8)) (lI (ad a 12) λc=>br (decide (c<1)) (K (.i 9)) (lI (ad a 12) λd=>br (decide (d>65535)) (K (.i 9)) (K (.i 0))))
def gn.j1(K:VK)(a:Nat)(b:Bool):WK:=br b (K (.i 18)) (lI (ad a 11) λc=>br (decide (c<1)) (gn.j2 K a true) (lI (ad a 11) λd=>gn.j2 K a (decide (d>4294967295))))
def gn(b:LV)(K:VK):WK:=mk b λa=>ah (ad a 2) 2 λc=>eK c (xB λd=>br d (K (.i 12)) (ah (ad a 4) 2 λe=>eK e (xB λf=>br f (K (.i 13)) (ah (ad a 2) 2 λg=>ah (ad a 4) 2 λh=>ny [.u 0,.u 0] g h λj=>br j (K (.i 14)) (ah (ad a 8) 2 λk=>eK k (xB λl=>br (!l) (K (.i 15)) (ah (ad a 6) 2 λm=>eK m (xB λn=>br n (ah (ad a 0) 16 λo=>mG o (xB λp=>gn.j1 K a (!p))) (gn.j1 K a false)))))))))
def cR.j3(K:VK)(a:Nat)(b:Bool):WK:=br b (K (.i 17)) (ah (ad a 0) 16 λc=>oe c (xB λd=>br d (ah (ad a 0) 16 λe=>kK e (xI .i64 λf=>K (.i f))) (ah (ad a 0) 16 λg=>gn g (xI .i64 λh=>K (.i h)))))
def cR.j4(K:VK)(a:Nat)(b:Bool):WK:=br b (cR.j3 K a true) (lI (ad a 10) λc=>br (c !=0) (ah (ad a 0) 16 λd=>iJ d (xB λe=>cR.j3 K a (!e))) (cR.j3 K a false))
def cR.j2(K:VK)(a:Nat)(b:Bool):WK:=br b (K (.i 7)) (lI (ad a 10) λc=>br (decide (c<0)) (cR.j4 K a true) (lI (ad a 10) λd=>cR.j4 K a (decide (d>1073741824))))
def cR.j1(K:VK)(a:Nat)(b:Bool):WK:=br b (K (.i 3)) (ah (ad a 0) 2 λc=>eK c (xB λd=>br d (K (.i 4)) (ah (ad a 0) 2 λe=>ah (ad N.pe 0) 2 λf=>ny [.u 0,.u 0] e f λg=>br g (K (.i 5)) (ah (ad a 0) 16 λh=>gQ h (xB λj=>br (!j) (K (.i 6)) (lI (ad a 14) λk=>br (k !=0) (cR.j2 K a true) (lI (ad a 15) λl=>cR.j2 K a (l !=0))))))))
def cR(b:LV)(K:VK):WK:=mk b λa=>lI (ad a 13) λc=>br (decide (c<0)) (cR.j1 K a true) (lI (ad a 13) λd=>cR.j1 K a (decide (d>255)))
def bT.j1(K:VK)(b a:Nat)(c:OA)(d:Int)(e:Bool):WK:=br e (ah (ad b 0) 33 λf=>aG 33 (ad a 0) f (ah (ad a 0) 33 λg=>K (.tuple ⟨[.agg ⟨g⟩,.bool false]⟩))) (nn c λh=>lL h λi j n=>fO i j d 33 λk=>ah k 33 λl=>aG 33 (ad a 0) l (ah (ad a 0) 33 λm=>K (.tuple ⟨[.agg ⟨m⟩,.bool true]⟩)))
def bT(b:OA)(a:Int)(K:VK):WK:=mk bg λc=>mk bg λd=>br (decide (a<0)) (bT.j1 K d c b a true) (dj b (xI .i64 λe=>bT.j1 K d c b a (decide (a>=e))))
def eu(b:OA)(c:LV)(K:VK):WK:=mk c λd=>mk bg λa=>br (b.isNone) (a8 True (a8 (33=33) (ga (ad a 0) bg (ah (ad a 0) 33 λe=>K (.tuple ⟨[.agg ⟨e⟩,.bool false]⟩))))) (tick (nn b λf=>lP (f.add 4) λg=>ah (ad d 0) 2 λh=>dY g h (x2 λi j=>(xI .i64 λk=>(xB λl=>br (!l) (a8 True (a8 (33=33) (ga (ad a 0) bg (ah (ad a 0) 33 λm=>K (.tuple ⟨[.agg ⟨m⟩,.bool false]⟩))))) (nn b λn=>lP (n.add 2) λo=>bT o k (x2 λp q=>(xA 33 λr=>(xB λs=>aG 33 (ad a 0) r (ah (ad a 0) 33 λt=>K (.tuple ⟨[.agg ⟨t⟩,.bool s]⟩))) q) p))) j) i)))
def gA(d:OA)(e:Int)(f:LV)(K:VK):WK:=mk [.p d] λa=>mk [.i e] λb=>mk f λg=>lP (ad a 0) λh=>lI (ad b 0) λj=>bV h j (x2 λk l=>(xA 14 λm=>(xB λn=>mk cJ λc=>aG 14 (ad c 0) m (br (!n) (K (.bool false)) (tick (lP (ad a 0) λo=>nn o λq=>lL q λr s z=>lI (ad b 0) λt=>ah (ad g 0) 14 λu=>fO r s t 14 λv=>aG 14 v u (lP (ad a 0) λw=>nn w λx=>lP (x.add 1) λy=>eo y (.func (.func N.aX) ⟨[]⟩ ⟨[.p (some (ad c 0)),.p (some (ad a 0)),.p (some (ad b 0))]⟩) (x0 (K (.bool true)))))))) l) k)
def gN(a:OA)(d:LV)(K:VK):WK:=mk d λb=>ah (ad b 0) 2 λe=>bX a e (x2 λf g=>(xA 14 λh=>(xB λj=>mk cJ λc=>aG 14 (ad c 0) h (br (a.isNone) (K (.i 2)) (br (!j) (K (.i 5)) (tick (nn a λk=>lP (k.add 3) λl=>ah (ad b 0) 2 λm=>dY l m (x2 λn o=>(xI .i64 λp=>(xB λu=>lI (ad c 13) λq=>st (ad b 13) (.i q) (tick (nn a λr=>lP (r.add 1) λs=>ah (ad b 0) 14 λt=>gA s p t (xB λv=>K (.i 0))))) o) n)))))) g) f)
def qd(d e:LV)(K:VK):WK:=mk d λb=>mk e λa=>tick (lI (ad b 13) λf=>lI (ad a 13) λc=>st (ad b 13) (.i (bA .i64 .andNot f 1)) (kp (ad a 13) [.i c] (st (ad a 13) (.i (bA .i64 .andNot c 1)) (ah (ad b 0) 16 λg=>ah (ad a 0) 16 λh=>ny fe g h λj=>br j (K (.i 10)) (K (.i 11))))))
def uG(g:OA)(h:LV)(K:VK):WK:=mk h λd=>mk kJ λa=>ah (ad d 2) 2 λj=>bX g j (x2 λk l=>(xA 14 λm=>(xB λn=>mk cJ λb=>aG 14 (ad b 0) m (ah (ad d 4) 2 λo=>bX g o (x2 λp q=>(xA 14 λr=>(xB λs=>mk cJ λc=>aG 14 (ad c 0) r (br (!n) (a8 True (a8 (28=28) (ga (ad a 0) kJ (ah (ad a 0) 28 λt=>K (.tuple ⟨[.agg ⟨t⟩,.i 19]⟩))))) (br (!s) (a8 True (a8 (28=28) (ga (ad a 0) kJ (ah (ad a 0) 28 λu=>K (.tuple ⟨[.agg ⟨u⟩,.i 20]⟩))))) (lI (ad b 10) λv=>lI (ad c 10) λw=>br (v !=w) (a8 True (a8 (28=28) (ga (ad a 0) kJ (ah (ad a 0) 28 λx=>K (.tuple ⟨[.agg ⟨x⟩,.i 21]⟩))))) (lI (ad b 10) λy=>lI (ad d 11) λz=>br (y !=z) (a8 True (a8 (28=28) (ga (ad a 0) kJ (ah (ad a 0) 28 λA=>K (.tuple ⟨[.agg ⟨A⟩,.i 22]⟩))))) (lI (ad b 12) λB=>br ((bA .i64 .and B 8)!=0) (a8 True (a8 (28=28) (ga (ad a 0) kJ (ah (ad a 0) 28 λC=>K (.tuple ⟨[.agg ⟨C⟩,.i 30]⟩))))) (lI (ad c 12) λD=>br ((bA .i64 .and D 8)!=0) (a8 True (a8 (28=28) (ga (ad a 0) kJ (ah (ad a 0) 28 λE=>K (.tuple ⟨[.agg ⟨E⟩,.i 31]⟩))))) (ah (ad b 0) 14 λe=>ah (ad c 0) 14 λf=>a8 (e.length=14/\(f.length=14/\True)) (a8 ((e++(f++[])).length=28) (ga (ad a 0) (e++(f++[])) (ah (ad a 0) 28 λF=>K (.tuple ⟨[.agg ⟨F⟩,.i 0]⟩)))))))))))) q) p))) l) k)
def kF(a:OA)(K:VK):WK:=br (!(a.isNone)) (nn a λb=>lP (b.add 2) λc=>dj c (xI .i64 λd=>K (.bool (decide (d<96))))) (K (.bool false))
def pD(c d:LV)(K:VK):WK:=mk c λa=>mk d λb=>ah (ad a 0) 2 λe=>ah (ad b 0) 2 λf=>ny [.u 0,.u 0] e f λg=>br g (K (.i 0)) (lU (ad a 0) λh=>lU (ad b 0) λj=>br (decide (h<j)) (K (.i (-1))) (lU (ad a 0) λk=>lU (ad b 0) λl=>br (k==l) (lU (ad a 1) λm=>lU (ad b 1) λn=>br (decide (m<n)) (K (.i (-1))) (K (.i 1))) (K (.i 1))))
def nj(a b:LV)(K:VK):WK:=mk a λc=>mk b λd=>ah (ad c 0) 2 λe=>ah (ad d 0) 2 λf=>pD e f (xI .i64 λg=>K (.bool (decide (g<0))))
def tE(d e:LV)(K:VK):WK:=mk d λb=>mk e λc=>mk [.u 0,.u 0] λa=>ah (ad c 0) 2 λf=>ah (ad b 0) 2 λg=>nj f g (xB λh=>br h (ah (ad c 0) 2 λi=>aG 2 (ad a 0) i (ah (ad a 0) 2 λj=>K (.agg ⟨j⟩))) (ah (ad b 0) 2 λk=>aG 2 (ad a 0) k (ah (ad a 0) 2 λl=>K (.agg ⟨l⟩))))
def ma(d e:LV)(K:VK):WK:=mk d λb=>mk e λc=>mk [.u 0,.u 0] λa=>ah (ad b 0) 2 λf=>ah (ad c 0) 2 λg=>nj f g (xB λh=>br h (a8 True (a8 (2=2) (ga (ad a 0) [.u 0,.u 0] (ah (ad a 0) 2 λi=>K (.tuple ⟨[.agg ⟨i⟩,.bool false]⟩))))) (lU (ad b 1) λj=>lU (ad c 1) λk=>nd j k 0 (x2 λl m=>(xI .u64 λn=>(xI .u64 λo=>lU (ad b 0) λp=>lU (ad c 0) λq=>nd p q o (x2 λr s=>(xI .u64 λt=>(xI .u64 λw=>a8 (1=1/\(1=1/\True)) (a8 (2=2) (ga (ad a 0) [.u t,.u n] (ah (ad a 0) 2 λv=>K (.tuple ⟨[.agg ⟨v⟩,.bool true]⟩))))) s) r)) m) l)))
def me(d e:LV)(K:VK):WK:=mk d λb=>mk e λc=>mk [.u 0,.u 0] λa=>lU (ad b 1) λf=>lU (ad c 1) λg=>ng f g 0 (x2 λh i=>(xI .u64 λj=>(xI .u64 λk=>lU (ad b 0) λl=>lU (ad c 0) λm=>ng l m k (x2 λn o=>(xI .u64 λp=>(xI .u64 λq=>br (q !=0) (a8 True (a8 (2=2) (ga (ad a 0) [.u 0,.u 0] (ah (ad a 0) 2 λr=>K (.tuple ⟨[.agg ⟨r⟩,.bool false]⟩))))) (a8 (1=1/\(1=1/\True)) (a8 (2=2) (ga (ad a 0) [.u p,.u j] (ah (ad a 0) 2 λs=>K (.tuple ⟨[.agg ⟨s⟩,.bool true]⟩)))))) o) n)) i) h)
def fq(c d:LV)(K:VK):WK:=mk c λe=>mk d λf=>mk [.u 0,.u 0] λa=>ah (ad e 0) 2 λg=>ah (ad f 0) 2 λh=>me g h (x2 λi j=>(xA 2 λk=>(xB λl=>mk [.u 0,.u 0] λb=>aG 2 (ad b 0) k (br (!l) (ah (ad N.pe 0) 2 λm=>aG 2 (ad a 0) m (ah (ad a 0) 2 λn=>K (.agg ⟨n⟩))) (ah (ad b 0) 2 λo=>aG 2 (ad a 0) o (ah (ad a 0) 2 λp=>K (.agg ⟨p⟩))))) j) i)
def bS.j1(K:VK)(c d a:Nat):WK:=ah (ad c 0) 2 λe=>ah (ad d 0) 2 λf=>ma e f (x2 λg h=>(xA 2 λi=>(xB λl=>mk [.u 0,.u 0] λb=>aG 2 (ad b 0) i (ah (ad b 0) 2 λj=>aG 2 (ad a 0) j (ah (ad a 0) 2 λk=>K (.agg ⟨k⟩)))) h) g)
def bS.j2(K:VK)(c d a:Nat):WK:=ah (ad c 0) 2 λe=>ah (ad d 0) 2 λf=>ma e f (x2 λg h=>(xA 2 λi=>(xB λl=>mk [.u 0,.u 0] λb=>aG 2 (ad b 0) i (ah (ad b 0) 2 λj=>aG 2 (ad a 0) j (ah (ad a 0) 2 λk=>K (.agg ⟨k⟩)))) h) g)
def bS.j3(K:VK)(c d a:Nat):WK:=ah (ad c 0) 2 λe=>ah (ad d 0) 2 λf=>ma e f (x2 λg h=>(xA 2 λi=>(xB λl=>mk [.u 0,.u 0] λb=>aG 2 (ad b 0) i (ah (ad b 0) 2 λj=>aG 2 (ad a 0) j (ah (ad a 0) 2 λk=>K (.agg ⟨k⟩)))) h) g)
def bS.j4(K:VK)(c d a:Nat):WK:=ah (ad c 0) 2 λe=>ah (ad d 0) 2 λf=>ma e f (x2 λg h=>(xA 2 λi=>(xB λl=>mk [.u 0,.u 0] λb=>aG 2 (ad b 0) i (ah (ad b 0) 2 λj=>aG 2 (ad a 0) j (ah (ad a 0) 2 λk=>K (.agg ⟨k⟩)))) h) g)
def bS.j5(K:VK)(c d a:Nat):WK:=ah (ad c 0) 2 λe=>ah (ad d 0) 2 λf=>ma e f (x2 λg h=>(xA 2 λi=>(xB λl=>mk [.u 0,.u 0] λb=>aG 2 (ad b 0) i (ah (ad b 0) 2 λj=>aG 2 (ad a 0) j (ah (ad a 0) 2 λk=>K (.agg ⟨k⟩)))) h) g)
def bS.j6(K:VK)(c d a:Nat):WK:=ah (ad c 0) 2 λe=>ah (ad d 0) 2 λf=>ma e f (x2 λg h=>(xA 2 λi=>(xB λl=>mk [.u 0,.u 0] λb=>aG 2 (ad b 0) i (ah (ad b 0) 2 λj=>aG 2 (ad a 0) j (ah (ad a 0) 2 λk=>K (.agg ⟨k⟩)))) h) g)
def bS(y:LV)(h:Bool)(K:VK):WK:=mk y λa=>mk [.u 0,.u 0] λc=>tick (ah (ad a 4) 2 λb=>ah (ad a 6) 2 λd=>ah (ad a 8) 2 λe=>both (fq d e (xA 2 λq=>kp (ad a 4) b (both (mk [.u 0,.u 0] λi=>kp (ad a 4) b (mk [.u 0,.u 0] λj=>kp (ad a 4) b (aG 2 (ad i 0) b (aG 2 (ad j 0) q (br h (tick (ah (ad a 8) 2 λr=>ah (ad a 2) 2 λz=>ah (ad a 4) 2 λA=>fq z A (xA 2 λB=>kp (ad a 8) r (aG 2 (ad i 0) r (aG 2 (ad j 0) B (bS.j1 K i j c)))))) (bS.j1 K i j c)))))) (mk [.u 0,.u 0] λk=>kp (ad a 4) b (mk [.u 0,.u 0] λl=>kp (ad a 4) b (aG 2 (ad l 0) b (aG 2 (ad k 0) q (br h (tick (ah (ad a 8) 2 λs=>ah (ad a 2) 2 λC=>ah (ad a 4) 2 λD=>fq C D (xA 2 λE=>kp (ad a 8) s (aG 2 (ad l 0) s (aG 2 (ad k 0) E (bS.j2 K l k c)))))) (bS.j2 K l k c))))))))) (both (mk [.u 0,.u 0] λf=>kp (ad a 8) e (kp (ad a 6) d (kp (ad a 4) b (both (fq d e (xA 2 λF=>kp (ad a 4) b (mk [.u 0,.u 0] λm=>kp (ad a 4) b (aG 2 (ad f 0) b (aG 2 (ad m 0) F (br h (tick (ah (ad a 8) 2 λt=>ah (ad a 2) 2 λG=>ah (ad a 4) 2 λH=>fq G H (xA 2 λI=>kp (ad a 8) t (aG 2 (ad f 0) t (aG 2 (ad m 0) I (bS.j3 K f m c)))))) (bS.j3 K f m c))))))) (mk [.u 0,.u 0] λn=>kp (ad a 8) e (kp (ad a 6) d (kp (ad a 4) b (fq d e (xA 2 λJ=>kp (ad a 4) b (aG 2 (ad f 0) b (aG 2 (ad n 0) J (br h (tick (ah (ad a 8) 2 λv=>ah (ad a 2) 2 λM=>ah (ad a 4) 2 λO=>fq M O (xA 2 λP=>kp (ad a 8) v (aG 2 (ad f 0) v (aG 2 (ad n 0) P (bS.j4 K f n c)))))) (bS.j4 K f n c))))))))))))) (mk [.u 0,.u 0] λg=>kp (ad a 8) e (kp (ad a 6) d (kp (ad a 4) b (both (fq d e (xA 2 λQ=>kp (ad a 4) b (mk [.u 0,.u 0] λo=>kp (ad a 4) b (aG 2 (ad o 0) b (aG 2 (ad g 0) Q (br h (tick (ah (ad a 8) 2 λw=>ah (ad a 2) 2 λR=>ah (ad a 4) 2 λS=>fq R S (xA 2 λT=>kp (ad a 8) w (aG 2 (ad o 0) w (aG 2 (ad g 0) T (bS.j5 K o g c)))))) (bS.j5 K o g c))))))) (mk [.u 0,.u 0] λp=>kp (ad a 8) e (kp (ad a 6) d (kp (ad a 4) b (fq d e (xA 2 λV=>kp (ad a 4) b (aG 2 (ad p 0) b (aG 2 (ad g 0) V (br h (tick (ah (ad a 8) 2 λx=>ah (ad a 2) 2 λW=>ah (ad a 4) 2 λX=>fq W X (xA 2 λY=>kp (ad a 8) x (aG 2 (ad p 0) x (aG 2 (ad g 0) Y (bS.j6 K p g c)))))) (bS.j6 K p g c)))))))))))))))
def dm.j3(K:VK)(d a e b:Nat):WK:=lI (ad d 13) λf=>br ((bA .i64 .and f 32)!=0) (tick (ah (ad a 0) 2 λc=>ah (ad e 14) 14 λg=>bS g false (xA 2 λh=>kp (ad a 0) c (tE c h (xA 2 λj=>aG 2 (ad a 0) j (ah (ad a 0) 2 λk=>eK k (xB λl=>br l (ah (ad a 0) 2 λm=>aG 2 (ad b 0) m (ah (ad b 0) 2 λn=>K (.tuple ⟨[.agg ⟨n⟩,.i 34]⟩))) (ah (ad a 0) 2 λo=>aG 2 (ad b 0) o (ah (ad b 0) 2 λp=>K (.tuple ⟨[.agg ⟨p⟩,.i 0]⟩)))))))))) (ah (ad a 0) 2 λq=>aG 2 (ad b 0) q (ah (ad b 0) 2 λr=>K (.tuple ⟨[.agg ⟨r⟩,.i 0]⟩)))
def dm.j2(K:VK)(c a d b:Nat):WK:=lI (ad c 13) λf=>br ((bA .i64 .and f 16)!=0) (tick (ah (ad a 0) 2 λe=>ah (ad d 0) 14 λg=>bS g true (xA 2 λh=>kp (ad a 0) e (tE e h (xA 2 λj=>aG 2 (ad a 0) j (ah (ad a 0) 2 λk=>eK k (xB λl=>br l (ah (ad a 0) 2 λm=>aG 2 (ad b 0) m (ah (ad b 0) 2 λn=>K (.tuple ⟨[.agg ⟨n⟩,.i 33]⟩))) (dm.j3 K c a d b)))))))) (dm.j3 K c a d b)
def dm.j1(K:VK)(a b c d:Nat)(e:Bool):WK:=br e (ah (ad N.pe 0) 2 λf=>aG 2 (ad a 0) f (dm.j2 K b a c d)) (dm.j2 K b a c d)
def dm(e f:LV)(K:VK):WK:=mk e λc=>mk f λa=>mk [.u 0,.u 0] λd=>ah (ad a 6) 2 λg=>mk [.u 0,.u 0] λb=>aG 2 (ad b 0) g (ah (ad a 0) 16 λh=>mG h (xB λi=>br i (ah (ad b 0) 2 λj=>eK j (xB λk=>dm.j1 K b a c d k)) (dm.j1 K b a c d false)))
def tD(o:OA)(k q:Nat)(K:VK):WK:=mk [.u 0,.u 0] λr=>mk [.u 0,.u 0] λs=>(lp [.p (some (ad r 0)),.bool false,.p (some (ad s 0)),.l o k q,.i (k:Int),.i 0] λm t=>∀a g b d e h f c j,m [.p (some a),.bool g,.p (some b),.l d e h,.i f,.i c] j->(br (decide (c<f)) (fO d e c 2 λv=>ah v 2 λw=>mk [.u 0,.u 0] λn=>aG 2 (ad n 0) w (ah b 2 λx=>ah (ad n 0) 2 λy=>me x y (x2 λz A=>(xA 2 λB=>(xB λC=>aG 2 b B (br (!C) (a8 True (a8 (2=2) (ga a [.u 0,.u 0] (ah a 2 λD=>K (.tuple ⟨[.agg ⟨D⟩,.bool false]⟩))))) ((ct m t [.p (some a),.bool g,.p (some b),.l d e h,.i f,.i (adN.wrap (c+1))] [.p (some a),.bool g,.p (some b),.l d e h,.i f,.i c] j)))) A) z))) (ah b 2 λE=>aG 2 a E (ah a 2 λF=>K (.tuple ⟨[.agg ⟨F⟩,.bool true]⟩)))) j)
def jX.j1(K:VK)(a b:Nat)(d:Bool)(c:Nat)(e:Bool):WK:=br e (ah (ad a 0) 14 λf=>aG 14 (ad b 0) f (ah (ad b 0) 14 λg=>K (.tuple ⟨[.agg ⟨g⟩,.i 33]⟩))) (br d (ah (ad a 2) 2 λh=>ah (ad c 0) 2 λj=>me h j (x2 λk l=>(xA 2 λm=>(xB λw=>aG 2 (ad a 2) m (ah (ad a 0) 14 λn=>aG 14 (ad b 0) n (ah (ad b 0) 14 λo=>K (.tuple ⟨[.agg ⟨o⟩,.i 0]⟩)))) l) k)) (ah (ad a 4) 2 λp=>ah (ad c 0) 2 λq=>me p q (x2 λr s=>(xA 2 λt=>(xB λx=>aG 2 (ad a 4) t (ah (ad a 0) 14 λu=>aG 14 (ad b 0) u (ah (ad b 0) 14 λv=>K (.tuple ⟨[.agg ⟨v⟩,.i 0]⟩)))) s) r)))
def jX(k l:LV)(e:Bool)(K:VK):WK:=mk k λa=>mk l λb=>mk cJ λc=>ah (ad a 2) 2 λf=>ah (ad a 4) 2 λg=>ah (ad b 0) 2 λh=>a8 (f.length=2/\(g.length=2/\(h.length=2/\True))) (mk (f++(g++(h++[]))) λm=>tD (some ⟨m,0,none⟩) 3 3 (x2 λn o=>(xA 2 λp=>(xB λq=>mk [.u 0,.u 0] λr=>aG 2 (ad r 0) p (br (!q) (ah (ad a 0) 14 λs=>aG 14 (ad c 0) s (ah (ad c 0) 14 λt=>K (.tuple ⟨[.agg ⟨t⟩,.i 32]⟩))) (tick (lI (ad a 12) λd=>br ((bA .i64 .and d 2)!=0) (ah (ad a 0) 14 λv=>ah (ad b 0) 2 λj=>bS v true (xA 2 λw=>kp (ad b 0) j (kp (ad a 12) [.i d] (nj w j (xB λx=>kp (ad a 12) [.i d] (jX.j1 K a c e b x)))))) (jX.j1 K a c e b false))))) o) n))
def iS.j1(K:VK)(a b:Nat)(d:Bool)(c:Nat)(e:Bool):WK:=br e (ah (ad a 0) 14 λf=>aG 14 (ad b 0) f (ah (ad b 0) 14 λg=>K (.tuple ⟨[.agg ⟨g⟩,.i 34]⟩))) (br d (ah (ad a 6) 2 λh=>ah (ad c 0) 2 λj=>me h j (x2 λk l=>(xA 2 λm=>(xB λw=>aG 2 (ad a 6) m (ah (ad a 0) 14 λn=>aG 14 (ad b 0) n (ah (ad b 0) 14 λo=>K (.tuple ⟨[.agg ⟨o⟩,.i 0]⟩)))) l) k)) (ah (ad a 8) 2 λp=>ah (ad c 0) 2 λq=>me p q (x2 λr s=>(xA 2 λt=>(xB λx=>aG 2 (ad a 8) t (ah (ad a 0) 14 λu=>aG 14 (ad b 0) u (ah (ad b 0) 14 λv=>K (.tuple ⟨[.agg ⟨v⟩,.i 0]⟩)))) s) r)))
def iS(k l:LV)(e:Bool)(K:VK):WK:=mk k λa=>mk l λb=>mk cJ λc=>ah (ad a 6) 2 λf=>ah (ad a 8) 2 λg=>ah (ad b 0) 2 λh=>a8 (f.length=2/\(g.length=2/\(h.length=2/\True))) (mk (f++(g++(h++[]))) λm=>tD (some ⟨m,0,none⟩) 3 3 (x2 λn o=>(xA 2 λp=>(xB λq=>mk [.u 0,.u 0] λr=>aG 2 (ad r 0) p (br (!q) (ah (ad a 0) 14 λs=>aG 14 (ad c 0) s (ah (ad c 0) 14 λt=>K (.tuple ⟨[.agg ⟨t⟩,.i 32]⟩))) (tick (lI (ad a 12) λd=>br ((bA .i64 .and d 4)!=0) (ah (ad a 0) 14 λv=>ah (ad b 0) 2 λj=>bS v false (xA 2 λw=>kp (ad b 0) j (kp (ad a 12) [.i d] (nj w j (xB λx=>kp (ad a 12) [.i d] (iS.j1 K a c e b x)))))) (iS.j1 K a c e b false))))) o) n))
def eB.j1(K:VK)(a b g:Nat):WK:=tick (lP (ad a 0) λn=>lP (ad a 0) λc=>nn c λd=>lI (d.add 7) λe=>kE n (xI .i64 λo=>kp (d.add 7) [.i e] (kp (ad a 0) [.p c] (st (ad b 30) (.i o) (kp (d.add 7) [.i e] (kp (ad a 0) [.p c] (st (ad b 31) (.i e) (tick (lP (ad a 0) λh=>nn h λq=>lP (q.add 2) λr=>ah (ad b 0) 33 λs=>fR r s (xI .i64 λj=>kp (ad a 0) [.p h] (tick (lP (ad a 0) λk=>nn k λt=>lP (t.add 4) λu=>ah (ad g 0) 2 λv=>bZ u v j (xB λJ=>kp (ad a 0) [.p k] (tick (lP (ad a 0) λl=>nn l λw=>lI (ad b 30) λx=>fA (some (w.add 5)) x j (xB λM=>kp (ad a 0) [.p l] (lP (ad a 0) λy=>nn y λz=>eo (some z) (.func (.func N.cw) ⟨[]⟩ ⟨[.p (some (ad a 0)),.p (some (ad g 0)),.p (some (ad b 0))]⟩) (x0 (ah (ad b 0) 33 λA=>pX A (x2 λB C=>(xA 4 λD=>(xB λE=>mk tC λf=>aG 4 (ad f 0) D (br E (tick (lP (ad a 0) λm=>nn m λF=>ah (ad f 0) 4 λG=>iC (some (F.add 6)) G (x0 (kp (ad a 0) [.p m] (lP (ad a 0) λH=>nn H λI=>eo (some I) (.func (.func N.cu) ⟨[]⟩ ⟨[.p (some (ad a 0)),.p (some (ad f 0))]⟩) (x0 (K (.i 0)))))))) (K (.i 0)))) C) B))))))))))))))))))))
def eB(g:OA)(h j:LV)(k:Bool)(K:VK):WK:=mk [.p g] λa=>mk h λl=>mk j λb=>lP (ad a 0) λm=>br (m.isNone) (K (.i 2)) (lP (ad a 0) λn=>nn n λo=>lP (o.add 2) λq=>dj q (xI .i64 λr=>br (decide (r>=96)) (K (.i 6)) (tick (lP (ad a 0) λf=>nn f λs=>lP (s.add 4) λt=>ah (ad b 0) 2 λu=>dY t u (x2 λv w=>(xI .i64 λy=>(xB λx=>kp (ad a 0) [.p f] (br x (K (.i 1)) (ah (ad l 0) 16 λd=>ah (ad b 0) 16 λe=>a8 (d.length=16/\(e.length=16/\True)) (mk bg λc=>a8 ((d++(e++([.i 0]:LV))).length=33) (ga (ad c 0) (d++(e++([.i 0]:LV))) (br k (st (ad c 32) (.i 1) (eB.j1 K a c b)) (eB.j1 K a c b))))))) w) v)))))
def lV.j2(K:VK)(d:Nat)(c:OA)(a g:Nat):WK:=ah (ad d 0) 14 λh=>gN c h (xI .i64 λo=>ah (ad d 14) 14 λj=>gN c j (xI .i64 λp=>ah (ad a 0) 16 λk=>mk fe λb=>aG 16 (ad b 0) k (ah (ad g 0) 2 λl=>aG 2 (ad b 6) l (tick (ah (ad a 0) 16 λe=>ah (ad b 0) 16 λf=>ah (ad a 0) 16 λm=>iJ m (xB λn=>kp (ad b 0) f (kp (ad a 0) e (eB c e f n (xI .i64 λq=>K (.i 0))))))))))
def lV.j1(K:VK)(b a:Nat)(c:OA)(d:Nat):WK:=lI (ad b 13) λe=>br ((bA .i64 .and e 128)!=0) (lI (ad a 26) λf=>st (ad a 26) (.i (bA .i64 .or f 8)) (lV.j2 K a c b d)) (lV.j2 K a c b d)
def lV(d:OA)(p:LV)(K:VK):WK:=mk p λb=>ah (ad b 0) 16 λq=>cR q (xI .i64 λe=>br (e !=0) (K (.i e)) (ah (ad b 0) 16 λr=>oe r (xB λs=>br s (K (.i 6)) (ah (ad b 0) 2 λt=>eu d t (x2 λv w=>(xA 33 λx=>(xB λy=>mk bg λf=>aG 33 (ad f 0) x (br y (ah (ad b 0) 16 λz=>ah (ad f 0) 16 λA=>qd z A (xI .i64 λB=>K (.i B))) (ah (ad b 0) 16 λC=>uG d C (x2 λD E=>(xA 28 λF=>(xI .i64 λg=>mk kJ λa=>aG 28 (ad a 0) F (br (g !=0) (K (.i g)) (kF d (xB λG=>br (!G) (K (.i 35)) (ah (ad a 0) 28 λH=>ah (ad b 0) 16 λI=>dm H I (x2 λJ M=>(xA 2 λO=>(xI .i64 λh=>mk [.u 0,.u 0] λc=>aG 2 (ad c 0) O (br (h !=0) (K (.i h)) (tick (ah (ad a 0) 14 λj=>ah (ad c 0) 2 λk=>ah (ad b 0) 16 λP=>iJ P (xB λQ=>kp (ad c 0) k (kp (ad a 0) j (jX j k Q (x2 λR S=>(xA 14 λT=>(xI .i64 λl=>aG 14 (ad a 0) T (br (l !=0) (K (.i l)) (tick (ah (ad a 14) 14 λm=>ah (ad c 0) 2 λn=>ah (ad b 0) 16 λV=>iJ V (xB λW=>kp (ad c 0) n (kp (ad a 14) m (iS m n W (x2 λX Y=>(xA 14 λZ=>(xI .i64 λo=>aG 14 (ad a 14) Z (br (o !=0) (K (.i o)) (lI (ad b 13) λn7=>br ((bA .i64 .and n7 64)!=0) (lI (ad a 12) λL4=>st (ad a 12) (.i (bA .i64 .or L4 8)) (lV.j1 K b a d c)) (lV.j1 K b a d c)))) Y) X)))))))) S) R)))))))) M) J)))))) E) D)))) w) v)))))
def iL(d:OA)(e:Int)(f:LV)(K:VK):WK:=mk [.p d] λa=>mk [.i e] λb=>mk f λg=>lP (ad a 0) λh=>lI (ad b 0) λj=>bT h j (x2 λk l=>(xA 33 λm=>(xB λn=>mk bg λc=>aG 33 (ad c 0) m (br (!n) (K (.bool false)) (tick (lP (ad a 0) λo=>nn o λq=>lL q λr s z=>lI (ad b 0) λt=>ah (ad g 0) 33 λu=>fO r s t 33 λv=>aG 33 v u (lP (ad a 0) λw=>nn w λx=>lP (x.add 1) λy=>eo y (.func (.func N.bn) ⟨[]⟩ ⟨[.p (some (ad c 0)),.p (some (ad a 0)),.p (some (ad b 0))]⟩) (x0 (K (.bool true)))))))) l) k)
def bw.j4(K:VK)(a e b:Nat)(f:Int):WK:=tick (lP (ad a 0) λc=>nn c λg=>lP (g.add 4) λh=>ah (ad e 0) 2 λj=>dY h j (x2 λk l=>(xI .i64 λm=>(xB λr=>kp (ad a 0) [.p c] (st (ad b 32) (.i f) (tick (lP (ad a 0) λd=>nn d λn=>lP (n.add 2) λo=>ah (ad b 0) 33 λq=>iL o m q (xB λs=>kp (ad a 0) [.p d] (K (.i 0))))))) l) k))
def bw.j3(K:VK)(a e b c:Nat)(d:Int)(f:Bool):WK:=br f (lP (ad a 0) λg=>nn g λh=>eo (some h) (.func (.func N.cD) ⟨[]⟩ ⟨[.p (some (ad a 0)),.p (some (ad e 0))]⟩) (x0 (bw.j4 K a b c d))) (bw.j4 K a b c d)
def bw.j2(K:VK)(c a d:Nat)(e:Int)(g:Bool):WK:=br g (K (.i 1)) (ah (ad c 0) 33 λh=>pX h (x2 λj k=>(xA 4 λl=>(xB λm=>mk tC λb=>aG 4 (ad b 0) l (tick (br m (lP (ad a 0) λf=>nn f λn=>lI (ad b 1) λo=>iX (some (n.add 6)) o (xB λq=>kp (ad a 0) [.p f] (bw.j3 K a b d c e q))) (bw.j3 K a b d c e false)))) k) j))
def bw.j1(K:VK)(a:Int)(b c d:Nat)(e:Bool):WK:=br e (K (.i 5)) (br (decide (a<=1)) (bw.j2 K b c d a true) (bw.j2 K b c d a (decide (a>4))))
def bw(e:OA)(f:LV)(d:Int)(K:VK):WK:=mk [.p e] λa=>mk f λc=>lP (ad a 0) λg=>ah (ad c 0) 2 λh=>eu g h (x2 λj k=>(xA 33 λl=>(xB λm=>mk bg λb=>aG 33 (ad b 0) l (lP (ad a 0) λn=>br (n.isNone) (K (.i 2)) (br (!m) (bw.j1 K d b a c true) (lI (ad b 32) λo=>bw.j1 K d b a c (o !=1))))) k) j)
def cb.j1(K:VK)(b:Nat)(a:OA)(c d:Nat)(e:Int):WK:=ah (ad b 0) 14 λf=>gN a f (xI .i64 λi=>ah (ad c 0) 14 λg=>gN a g (xI .i64 λj=>ah (ad d 0) 2 λh=>bw a h e (xI .i64 λk=>K (.tuple ⟨[]⟩))))
def cb.j2(K:VK)(b a c:Nat)(d:OA)(e:Int):WK:=lI (ad b 13) λf=>br ((bA .i64 .and f 128)!=0) (lI (ad a 12) λg=>st (ad a 12) (.i (bA .i64 .andNot g 8)) (cb.j1 K c d a b e)) (cb.j1 K c d a b e)
def cb(d:OA)(g h:LV)(e:Int)(K:VK):WK:=mk g λb=>mk h λf=>ah (ad b 2) 2 λj=>bX d j (x2 λk l=>(xA 14 λm=>(xB λQ=>mk cJ λa=>aG 14 (ad a 0) m (ah (ad b 4) 2 λn=>bX d n (x2 λo p=>(xA 14 λq=>(xB λR=>mk cJ λc=>aG 14 (ad c 0) q (ah (ad a 2) 2 λr=>ah (ad b 6) 2 λs=>ma r s (x2 λt u=>(xA 2 λv=>(xB λS=>aG 2 (ad a 2) v (ah (ad c 6) 2 λw=>ah (ad b 6) 2 λx=>ma w x (x2 λy z=>(xA 2 λA=>(xB λT=>aG 2 (ad c 6) A (br (e==2) (ah (ad a 4) 2 λB=>ah (ad f 0) 2 λC=>me B C (x2 λD E=>(xA 2 λF=>(xB λV=>aG 2 (ad a 4) F (ah (ad c 8) 2 λG=>ah (ad f 0) 2 λH=>me G H (x2 λI J=>(xA 2 λM=>(xB λW=>aG 2 (ad c 8) M (cb.j1 K a d c b e)) J) I))) E) D)) (lI (ad b 13) λO=>br ((bA .i64 .and O 64)!=0) (lI (ad a 12) λP=>st (ad a 12) (.i (bA .i64 .andNot P 8)) (cb.j2 K b c a d e)) (cb.j2 K b c a d e)))) z) y))) u) t))) p) o))) l) k)
def cb.u:WP|[.pointer a,.agg ⟨b⟩,.agg ⟨c⟩,.int .i64 d],K=>cb a b c d K|_,_=>no
def dz.j3(K:VK)(a b:Nat)(c:Bool):WK:=br c (lI (ad a 12) λd=>br (d==0) (K (.bool true)) (lI (ad a 12) λe=>lI (ad b 12) λf=>K (.bool (e==f)))) (K (.bool false))
def dz.j2(K:VK)(a b:Nat)(c:Bool):WK:=br c (lI (ad a 11) λd=>br (d==0) (dz.j3 K a b true) (lI (ad a 11) λe=>lI (ad b 11) λf=>dz.j3 K a b (e==f))) (dz.j3 K a b false)
def dz.j1(K:VK)(a b:Nat)(c:Bool):WK:=br c (ah (ad a 4) 2 λd=>eK d (xB λe=>br e (dz.j2 K a b true) (ah (ad a 4) 2 λf=>ah (ad b 4) 2 λg=>ny [.u 0,.u 0] f g λh=>dz.j2 K a b h))) (dz.j2 K a b false)
def dz(c d:LV)(K:VK):WK:=mk c λa=>mk d λb=>ah (ad a 2) 2 λe=>eK e (xB λf=>br f (dz.j1 K a b true) (ah (ad a 2) 2 λg=>ah (ad b 2) 2 λh=>ny [.u 0,.u 0] g h λi=>dz.j1 K a b i))
def uJ(f:OA)(g:LV)(K:VK):WK:=mk g λd=>mk fe λa=>ah (ad d 8) 2 λh=>eu f h (x2 λj k=>(xA 33 λl=>(xB λm=>mk bg λb=>aG 33 (ad b 0) l (br (!m) (a8 True (a8 (16=16) (ga (ad a 0) fe (ah (ad a 0) 16 λn=>K (.tuple ⟨[.agg ⟨n⟩,.i 23]⟩))))) (ah (ad b 16) 16 λo=>iJ o (xB λp=>br (!p) (a8 True (a8 (16=16) (ga (ad a 0) fe (ah (ad a 0) 16 λq=>K (.tuple ⟨[.agg ⟨q⟩,.i 24]⟩))))) (ah (ad d 0) 16 λr=>ah (ad b 16) 16 λs=>dz r s (xB λt=>br (!t) (a8 True (a8 (16=16) (ga (ad a 0) fe (ah (ad a 0) 16 λu=>K (.tuple ⟨[.agg ⟨u⟩,.i 25]⟩))))) (tick (ah (ad b 16) 16 λv=>lI (ad b 32) λc=>a8 ((0:Int)<=c/\c<5) (lI ((ad N.ug 0).add (c.toNat* 1)) λe=>aG 16 (ad a 0) v (kp ((ad N.ug 0).add (c.toNat* 1)) [.i e] (kp (ad b 32) [.i c] (ah (ad a 0) 16 λw=>K (.tuple ⟨[.agg ⟨w⟩,.i e]⟩))))))))))))) k) j)
def kL.j1(K:VK)(a b d:Nat)(c:Bool):WK:=br c (br c (a8 True (a8 (2=2) (ga (ad a 0) [.u 0,.u 0] (ah (ad a 0) 2 λe=>K (.tuple ⟨[.agg ⟨e⟩,.i 26]⟩))))) (ah (ad b 6) 2 λf=>aG 2 (ad a 0) f (ah (ad a 0) 2 λg=>K (.tuple ⟨[.agg ⟨g⟩,.i 0]⟩)))) (ah (ad d 6) 2 λh=>ah (ad b 6) 2 λj=>nj h j (xB λk=>br k (a8 True (a8 (2=2) (ga (ad a 0) [.u 0,.u 0] (ah (ad a 0) 2 λl=>K (.tuple ⟨[.agg ⟨l⟩,.i 26]⟩))))) (ah (ad b 6) 2 λm=>aG 2 (ad a 0) m (ah (ad a 0) 2 λn=>K (.tuple ⟨[.agg ⟨n⟩,.i 0]⟩)))))
def kL(d e:LV)(K:VK):WK:=mk d λa=>mk e λb=>mk [.u 0,.u 0] λc=>ah (ad a 6) 2 λf=>eK f (xB λg=>br g (ah (ad b 6) 2 λh=>aG 2 (ad c 0) h (ah (ad c 0) 2 λj=>K (.tuple ⟨[.agg ⟨j⟩,.i 0]⟩))) (lI (ad a 13) λk=>br ((bA .i64 .and k 8)!=0) (ah (ad a 6) 2 λl=>ah (ad b 6) 2 λm=>ny [.u 0,.u 0] l m λn=>kL.j1 K c a b (!n)) (kL.j1 K c a b false)))
def jU.j1(K:VK)(a b:Nat)(c:Bool):WK:=br c (K (.i 30)) (lI (ad a 12) λd=>br ((bA .i64 .and d 8)!=0) (lI (ad b 13) λe=>br ((bA .i64 .and e 128)==0) (K (.i 31)) (K (.i 0))) (K (.i 0)))
def jU(c:OA)(e:LV)(K:VK):WK:=mk e λa=>ah (ad a 2) 2 λf=>bX c f (x2 λg h=>(xA 14 λi=>(xB λp=>mk cJ λd=>aG 14 (ad d 0) i (ah (ad a 4) 2 λj=>bX c j (x2 λk l=>(xA 14 λm=>(xB λq=>mk cJ λb=>aG 14 (ad b 0) m (lI (ad d 12) λn=>br ((bA .i64 .and n 8)!=0) (lI (ad a 13) λo=>jU.j1 K b a ((bA .i64 .and o 64)==0)) (jU.j1 K b a false))) l) k))) h) g)
def nK.j1(K:VK)(f:OA)(a d h:Nat)(k:Int):WK:=kF f (xB λl=>br (!l) (K (.i 35)) (ah (ad a 0) 16 λm=>ah (ad d 0) 2 λn=>cb f m n k (x0 (ah (ad h 0) 16 λo=>mk fe λb=>aG 16 (ad b 0) o (tick (ah (ad a 2) 2 λp=>ah (ad a 4) 2 λj=>ah (ad d 0) 2 λg=>lI (ad a 11) λe=>lI (ad a 12) λc=>aG 2 (ad b 2) p (kp (ad a 12) [.i c] (kp (ad a 11) [.i e] (kp (ad d 0) g (kp (ad a 4) j (aG 2 (ad b 4) j (kp (ad a 12) [.i c] (kp (ad a 11) [.i e] (kp (ad d 0) g (aG 2 (ad b 6) g (kp (ad a 12) [.i c] (kp (ad a 11) [.i e] (st (ad b 11) (.i e) (kp (ad a 12) [.i c] (st (ad b 12) (.i c) (ah (ad h 0) 16 λq=>ah (ad b 0) 16 λr=>eB f q r false (xI .i64 λs=>K (.i 0)))))))))))))))))))))))
def nK(b:OA)(j:LV)(K:VK):WK:=mk j λa=>ah (ad a 0) 2 λk=>eu b k (x2 λl m=>(xA 33 λn=>(xB λo=>mk bg λe=>aG 33 (ad e 0) n (br o (ah (ad a 0) 16 λp=>ah (ad e 0) 16 λq=>qd p q (xI .i64 λr=>K (.i r))) (ah (ad a 0) 16 λs=>uJ b s (x2 λt v=>(xA 16 λw=>(xI .i64 λf=>mk fe λc=>aG 16 (ad c 0) w (br (f !=0) (K (.i f)) (ah (ad a 0) 16 λx=>ah (ad c 0) 16 λy=>kL x y (x2 λz A=>(xA 2 λB=>(xI .i64 λg=>mk [.u 0,.u 0] λd=>aG 2 (ad d 0) B (br (g !=0) (K (.i g)) (lI (ad a 13) λC=>br ((bA .i64 .and C 4)!=0) (ah (ad c 0) 16 λD=>jU b D (xI .i64 λh=>br (h !=0) (K (.i h)) (nK.j1 K b c d a 2))) (nK.j1 K b c d a 3)))) A) z)))) v) t)))) m) l)
def kn.j1(K:VK)(a:Nat)(b:OA)(c:Bool):WK:=br c (ah (ad a 0) 16 λd=>lV b d (xI .i64 λe=>K (.i e))) (ah (ad a 0) 16 λf=>nK b f (xI .i64 λg=>K (.i g)))
def kn(b:OA)(c:LV)(K:VK):WK:=mk c λa=>ah (ad a 0) 16 λd=>cR d (xI .i64 λe=>br (e !=0) (kn.j1 K a b true) (ah (ad a 0) 16 λf=>oe f (xB λg=>kn.j1 K a b (!g))))
def kn.u:WP|[.pointer a,.agg ⟨b⟩],K=>kn a b K|_,_=>no
def iQ(f o:OA)(j q:Nat)(r:OA)(s t:Nat)(v:Value)(K:VK):WK:=cV f (xI .i64 λw=>(lp [.i w,.l o j q,.i (j:Int),.i 0] λk x=>∀b c d g e a h,k [.i b,.l c d g,.i e,.i a] h->(br (decide (a<e)) (fO c d a 16 λy=>ah y 16 λz=>mk fe λm=>aG 16 (ad m 0) z (ah (ad m 0) 16 λA=>tr [(N.cW,cW.u),(N.cV,cV.u),(N.fJ,fJ.u),(N.kn,kn.u)] v [.p f,.agg ⟨A⟩] (xI .i64 λn=>br (n !=0) (cW f b (x0 (fJ r s t a n (x0 (K (.tuple ⟨[]⟩)))))) ((ct k x [.i b,.l c d g,.i e,.i (adN.wrap (a+1))] [.i b,.l c d g,.i e,.i a] h))))) (K (.tuple ⟨[]⟩))) h))
def k9(t n:OA)(e o:Nat)(u v:Value)(K:VK):WK:=FW 8 [.i 0] (e:Int) (e:Int) λw x y=>(lp [.l none 0 0,.l w x y,.i 0] λm p=>∀f g h b c d a k,m [.l f g h,.l b c d,.i a] k->(br (decide (a<(e:Int))) (nV n e o 16 (some a) none λz A B=>iq z A B (u) (x2 λC D=>(xI .i64 λj=>(xB λE=>nV b c d 1 (some a) (some (adN.wrap (a+j))) λq r s=>br (!E) (fJ q r s (adN.wrap (j-1)) 2 (x0 ((ct m p [.l f g h,.l b c d,.i (adN.wrap (a+j))] [.l f g h,.l b c d,.i a] k)))) (nV n e o 16 (some a) (some (adN.wrap (a+j))) λF G H=>iQ t F G H q r s (v) (x0 ((ct m p [.l f g h,.l b c d,.i (adN.wrap (a+j))] [.l f g h,.l b c d,.i a] k))))) D) C)) (K (.l b c d))) k)
def mU(a b:OA)(c d:Nat)(K:VK):WK:=k9 a b c d (.func (.func N.dw) ⟨[]⟩ ⟨[]⟩) (.func (.func N.kn) ⟨[]⟩ ⟨[]⟩) (xL λe f g=>K (.l e f g))
def cn.j1(K:VK)(a:Nat)(c:Int)(d:Bool):WK:=br d (K (.tuple ⟨[]⟩)) (lP (ad a 0) λe=>nn e λf=>lI (f.add 7) λg=>mk [.i 0] λb=>st (ad b 0) (.i g) (lP (ad a 0) λh=>nn h λj=>st (j.add 7) (.i c) (lP (ad a 0) λk=>nn k λl=>eo (some l) (.func (.func N.cm) ⟨[]⟩ ⟨[.p (some (ad b 0)),.p (some (ad a 0))]⟩) (x0 (K (.tuple ⟨[]⟩))))))
def cn(c:OA)(a:Int)(K:VK):WK:=mk [.p c] λb=>lP (ad b 0) λd=>br (d.isNone) (cn.j1 K b a true) (lP (ad b 0) λe=>nn e λf=>lI (f.add 7) λg=>br (decide (a<=g)) (cn.j1 K b a true) (cn.j1 K b a (decide (a>1099511627776))))
def cn.u:WP|[.pointer a,.int .i64 b],K=>cn a b K|_,_=>no
def po(a:OA)(K:VK):WK:=br (a.isNone) (K (.i 0)) (nn a λb=>lL b λd c e=>K (.i (c:Int)))
def jQ(b:OA)(K:VK):WK:=mk tC λa=>po b (xI .i64 λc=>br (c==0) (a8 True (a8 (4=4) (ga (ad a 0) tC (ah (ad a 0) 4 λd=>K (.tuple ⟨[.agg ⟨d⟩,.bool false]⟩))))) (nn b λe=>lL e λf g k=>fO f g 0 4 λh=>ah h 4 λi=>aG 4 (ad a 0) i (ah (ad a 0) 4 λj=>K (.tuple ⟨[.agg ⟨j⟩,.bool true]⟩))))
def cG.j1(K:VK)(b:Nat)(c:OA)(a:Nat)(d:Bool):WK:=br d (ah (ad b 2) 2 λe=>eu c e (x2 λf g=>(xA 33 λh=>(xB λi=>aG 33 (ad a 0) h (ah (ad a 0) 33 λj=>K (.tuple ⟨[.agg ⟨j⟩,.bool i]⟩))) g) f)) (a8 True (a8 (33=33) (ga (ad a 0) bg (ah (ad a 0) 33 λk=>K (.tuple ⟨[.agg ⟨k⟩,.bool false]⟩)))))
def cG(a:OA)(K:VK):WK:=mk bg λb=>br (a.isNone) (a8 True (a8 (33=33) (ga (ad b 0) bg (ah (ad b 0) 33 λd=>K (.tuple ⟨[.agg ⟨d⟩,.bool false]⟩))))) (nn a λe=>jQ (some (e.add 6)) (x2 λf g=>(xA 4 λh=>(xB λi=>mk tC λc=>aG 4 (ad c 0) h (tick (br i (lI (ad c 0) λj=>nn a λk=>lI (k.add 7) λl=>cG.j1 K c a b (decide (j<=l))) (cG.j1 K c a b false)))) g) f))
def cG.u:WP|[.pointer a],K=>cG a K|_,_=>no
def o9(a:OA)(K:VK):WK:=mk [.p a] λb=>K (.func (.func N.H6) ⟨[]⟩ ⟨[.p (some (ad b 0))]⟩)
def o9.u:WP|[.pointer a],K=>o9 a K|_,_=>no
def iv(a:OA)(K:VK):WK:=br (!(a.isNone)) (nn a λb=>jc (some b) (x0 (K (.tuple ⟨[]⟩)))) (K (.tuple ⟨[]⟩))
def pL(t v:OA)(p w:Nat)(K:VK):WK:=(lp [.l none 0 0,.l none 0 0,.l v p w,.i (p:Int),.i 0] λo q=>∀h j k b c d e f m g a n,o [.l h j k,.l b c d,.l e f m,.i g,.i a] n->(br (decide (a<g)) (fO e f a 2 λx=>ah x 2 λy=>mk [.u 0,.u 0] λr=>aG 2 (ad r 0) y (ah (ad r 0) 2 λz=>bX t z (x2 λA B=>(xA 14 λC=>(xB λD=>mk cJ λs=>aG 14 (ad s 0) C (br D (ah (ad s 0) 14 λE=>EX 14 E λF=>eS 14 112 cJ b c d (some ⟨F,0,none⟩) 1 λG H I=>(ct o q [.l h j k,.l G H I,.l e f m,.i g,.i (adN.wrap (a+1))] [.l h j k,.l b c d,.l e f m,.i g,.i a] n)) ((ct o q [.l h j k,.l b c d,.l e f m,.i g,.i (adN.wrap (a+1))] [.l h j k,.l b c d,.l e f m,.i g,.i a] n)))) B) A))) (K (.l b c d))) n)
def oR(t v:OA)(p w:Nat)(K:VK):WK:=(lp [.l none 0 0,.l none 0 0,.l v p w,.i (p:Int),.i 0] λo q=>∀h j k b c d e f m g a n,o [.l h j k,.l b c d,.l e f m,.i g,.i a] n->(br (decide (a<g)) (fO e f a 2 λx=>ah x 2 λy=>mk [.u 0,.u 0] λr=>aG 2 (ad r 0) y (ah (ad r 0) 2 λz=>eu t z (x2 λA B=>(xA 33 λC=>(xB λD=>mk bg λs=>aG 33 (ad s 0) C (br D (ah (ad s 16) 16 λE=>EX 16 E λF=>eS 16 128 fe b c d (some ⟨F,0,none⟩) 1 λG H I=>(ct o q [.l h j k,.l G H I,.l e f m,.i g,.i (adN.wrap (a+1))] [.l h j k,.l b c d,.l e f m,.i g,.i a] n)) ((ct o q [.l h j k,.l b c d,.l e f m,.i g,.i (adN.wrap (a+1))] [.l h j k,.l b c d,.l e f m,.i g,.i a] n)))) B) A))) (K (.l b c d))) n)
def dh.j1(K:VK)(w:Int)(x:OA)(y:Bool)(z:Int):WK:=(lp [.l none 0 0,.i w,.i z,.l none 0 0] λu A=>∀j k m f n g c h p,u [.l j k m,.i f,.i n,.l g c h] p->(br (decide (f<n)) (nn x λB=>lL B λC D V=>fO C D f 2 λE=>ah E 2 λF=>EX 2 F λG=>eS 2 16 [.i 0,.i 0] g c h (some ⟨G,0,none⟩) 1 λH I J=>(ct u A [.l j k m,.i (adN.wrap (f+1)),.i n,.l H I J] [.l j k m,.i f,.i n,.l g c h] p)) (br y ((lp [.l j k m,.l g c h,.i 0,.i (adN.wrap ((c:Int) -1))] λv M=>∀q r s a b o d e t,v [.l q r s,.l a b o,.i d,.i e] t->(br (decide (d<e)) (tick (fO a b e 2 λO=>ah O 2 λP=>fO a b d 2 λQ=>ah Q 2 λR=>fO a b d 2 λS=>aG 2 S P (fO a b e 2 λT=>aG 2 T R ((ct v M [.l q r s,.l a b o,.i (adN.wrap (d+1)),.i (adN.wrap (e-1))] [.l q r s,.l a b o,.i d,.i e] t))))) (K (.l a b o))) t)) (K (.l g c h)))) p)
def dh(a:OA)(h e:Int)(c:Bool)(K:VK):WK:=br (a.isNone) (K (.l none 0 0)) (tick (nn a λf=>lL f λi g j=>iD a h (xI .i64 λd=>kp f [.l i g j] (br (e !=0) (iD a e (xI .i64 λb=>nn a λk=>lL k λs m t=>br (decide (b<(m:Int))) (nn a λn=>lL n λo p u=>fO o p b 2 λq=>lI q λr=>br (r==e) (dh.j1 K d a c (adN.wrap (b+1))) (dh.j1 K d a c b)) (dh.j1 K d a c b))) (dh.j1 K d a c (g:Int))))))
def ko(o:OA)(z A:Int)(B:Bool)(K:VK):WK:=br (o.isNone) (K (.l none 0 0)) (nn o λC=>dh (some (C.add 5)) z A B (xL λD u E=>(lp [.l none 0 0,.l none 0 0,.l D u E,.i (u:Int),.i 0] λq v=>∀h j k b c d e f m g a n,q [.l h j k,.l b c d,.l e f m,.i g,.i a] n->(br (decide (a<g)) (fO e f a 2 λF=>ah F 2 λG=>mk [.i 0,.i 0] λr=>aG 2 (ad r 0) G (tick (nn o λw=>lP (w.add 2) λs=>lI (ad r 1) λt=>both (bT s t (x2 λH I=>(xA 33 λJ=>(xB λb2=>mk bg λx=>aG 33 (ad x 0) J (ah (ad x 0) 33 λM=>EX 33 M λO=>eS 33 264 bg b c d (some ⟨O,0,none⟩) 1 λP Q R=>(ct q v [.l h j k,.l P Q R,.l e f m,.i g,.i (adN.wrap (a+1))] [.l h j k,.l b c d,.l e f m,.i g,.i a] n))) I) H)) (mk bg λy=>kp (ad r 1) [.i t] (kp (w.add 2) [.p s] (bT s t (x2 λS T=>(xA 33 λV=>(xB λb3=>aG 33 (ad y 0) V (ah (ad y 0) 33 λW=>EX 33 W λX=>eS 33 264 bg b c d (some ⟨X,0,none⟩) 1 λY Z VT=>(ct q v [.l h j k,.l Y Z VT,.l e f m,.i g,.i (adN.wrap (a+1))] [.l h j k,.l b c d,.l e f m,.i g,.i a] n))) T) S))))))) (K (.l b c d))) n)))
def jA.j3(K:VK)(s:Nat)(a:OA)(b c:Nat)(o:LI)(d:Addr)(e:OA)(f g:Nat)(h:OA)(j k:Nat)(m n:Int)(q:LM)(r:World)(t:Bool):WK:=br t (ah (ad s 16) 16 λu=>EX 16 u λv=>eS 16 128 fe a b c (some ⟨v,0,none⟩) 1 λw x y=>(ct o q [.p (some d),.l e f g,.l w x y,.l h j k,.i m,.i (adN.wrap (n+1))] [.p (some d),.l e f g,.l a b c,.l h j k,.i m,.i n] r)) ((ct o q [.p (some d),.l e f g,.l a b c,.l h j k,.i m,.i (adN.wrap (n+1))] [.p (some d),.l e f g,.l a b c,.l h j k,.i m,.i n] r))
def jA.j2(K:VK)(a:Addr)(b:Nat)(q:Bool)(c:Nat)(d:OA)(e:Nat)(f:LI)(g:OA)(h i:Nat)(j:OA)(k l:Nat)(m n:Int)(o:LM)(p:World)(r:Bool):WK:=lI (a.add 7) λs=>br (decide ((b:Int)<s)) (br q (jA.j3 K c d b e f a g h i j k l m n o p true) (jA.j3 K c d b e f a g h i j k l m n o p r)) (jA.j3 K c d b e f a g h i j k l m n o p false)
def jA.j1(K:VK)(a:Addr)(b c:Nat)(d:OA)(e:Nat)(f:LI)(g:OA)(h i:Nat)(j:OA)(k l:Nat)(m n:Int)(o:LM)(p:World)(q:Bool):WK:=lT (a.add 5) λr=>br r (ah (ad b 20) 2 λs=>ah a 2 λt=>ny [.u 0,.u 0] s t λv=>jA.j2 K a c q b d e f g h i j k l m n o p v) (jA.j2 K a c q b d e f g h i j k l m n o p false)
def jA(w:OA)(x:LV)(K:VK):WK:=mk x λc=>lI (ad c 2) λy=>lI (ad c 3) λz=>lT (ad c 6) λA=>ko w y z A (xL λB t C=>(lp [.p (some (ad c 0)),.l none 0 0,.l none 0 0,.l B t C,.i (t:Int),.i 0] λn v=>∀a o q r d e f g h s j b k,n [.p (some a),.l o q r,.l d e f,.l g h s,.i j,.i b] k->(br (decide (b<j)) (fO g h b 33 λD=>ah D 33 λE=>mk bg λm=>aG 33 (ad m 0) E (lT (a.add 4) λF=>br F (ah (ad m 18) 2 λG=>ah a 2 λH=>ny [.u 0,.u 0] G H λI=>jA.j1 K a m e d f n o q r g h s j b v k I) (jA.j1 K a m e d f n o q r g h s j b v k false))) (K (.l d e f))) k))
def EA(c:OA)(e:LV)(K:VK):WK:=mk e λb=>mk EZ λa=>br (c.isNone) (a8 (1=1/\True) (a8 (4=4) (ga (ad a 0) [.i 2,.l none 0 0,.l none 0 0,.l none 0 0] (ah (ad a 0) 4 λf=>K (.agg ⟨f⟩))))) (ah (ad b 0) 13 λg=>eg g (xB λh=>br (!h) (a8 (1=1/\True) (a8 (4=4) (ga (ad a 0) [.i 1,.l none 0 0,.l none 0 0,.l none 0 0] (ah (ad a 0) 4 λj=>K (.agg ⟨j⟩))))) (lI (ad b 0) λd=>br (d==4) (lL (ad b 4) λk m n=>pL c k m n (xL λo p q=>a8 (1=1/\True) (a8 (4=4) (ga (ad a 0) [.i 0,.l none 0 0,.l o p q,.l none 0 0] (ah (ad a 0) 4 λr=>K (.agg ⟨r⟩)))))) (br (d==5) (lL (ad b 4) λs t u=>oR c s t u (xL λv w x=>a8 (1=1/\True) (a8 (4=4) (ga (ad a 0) [.i 0,.l none 0 0,.l none 0 0,.l v w x] (ah (ad a 0) 4 λy=>K (.agg ⟨y⟩)))))) (ah (ad b 5) 8 λz=>jA c z (xL λA B C=>a8 (1=1/\True) (a8 (4=4) (ga (ad a 0) [.i 0,.l none 0 0,.l none 0 0,.l A B C] (ah (ad a 0) 4 λD=>K (.agg ⟨D⟩))))))))))
def sq(h:LV)(K:VK):WK:=mk h λj=>mk Z9 λk=>(lp [.p (some (ad j 0)),.string .empty,.p (some (ad k 0)),.i 0] λf l=>∀b d c a e,f [.p (some b),.string d,.p (some c),.i a] e->(br (decide (a<8)) (tick (lU (b.add 1) λm=>a8 ((0:Int)<=(adN.wrap (8* a))) (lU b λg=>a8 ((0:Int)<=(adN.wrap (8* a))) (a8 ((0:Int)<=a/\a<16) (st (c.add (a.toNat* 1)) (.int .u8 (IntKind.u8.wrap (shr .u64 m (adN.wrap (8* a))))) (kp b [.u g] (a8 ((0:Int)<=(adN.wrap (8+a))/\(adN.wrap (8+a))<16) (st (c.add ((adN.wrap (8+a)).toNat* 1)) (.int .u8 (IntKind.u8.wrap (shr .u64 g (adN.wrap (8* a))))) ((ct f l [.p (some b),.string d,.p (some c),.i (adN.wrap (a+1))] [.p (some b),.string d,.p (some c),.i a] e)))))))))) (nV (some c) 16 16 1 none none λn o r=>RN n o λq=>K (.string q))) e)
def iz(a:OA)(f:LV)(K:VK):WK:=mk f λg=>tick (nn a λb=>lL b λc d e=>ah (ad g 0) 2 λh=>sq h (xS λi=>kp b [.l c d e] (BR c d e i λj k m=>nn a λn=>st n (.l j k m) (K (.tuple ⟨[]⟩)))))
def nR.j1(K:VK)(c:Nat)(d:OA):WK:=ah (ad c 0) 2 λg=>ah (ad c 2) 2 λh=>ah (ad c 4) 2 λj=>ah (ad c 6) 2 λk=>ah (ad c 8) 2 λl=>a8 (g.length=2/\(h.length=2/\(j.length=2/\(k.length=2/\(l.length=2/\True))))) ((lp [.p (some (ad c 0)),.agg ⟨(g++(h++(j++(k++(l++[])))))⟩,.i 0] λm o=>∀b e a f,m [.p (some b),.agg ⟨e⟩,.i a] f->(br (decide (a<5)) (a8 ((0:Int)<=a/\a<5) (mk [.u 0,.u 0] λn=>a8 (((e.drop ((a:Int).toNat* 2)).take 2).length=2) (ga (ad n 0) ((e.drop ((a:Int).toNat* 2)).take 2) (ah (ad n 0) 2 λq=>iz d q (x0 ((ct m o [.p (some b),.agg ⟨e⟩,.i (adN.wrap (a+1))] [.p (some b),.agg ⟨e⟩,.i a] f))))))) (lI (b.add 10) λr=>aD d 4 r (x0 (lI (b.add 11) λs=>aD d 2 s (x0 (lI (b.add 12) λt=>aD d 2 t (x0 (lI (b.add 13) λv=>aD d 8 v (x0 (K (.tuple ⟨[]⟩))))))))))) f))
def nR(b:OA)(c:LV)(K:VK):WK:=mk c λa=>ah (ad a 0) 14 λd=>fQ d (xB λe=>br (!e) (a8 True (a8 (14=14) (ga (ad a 0) cJ (nR.j1 K a b)))) (nR.j1 K a b))
def jJ(h m:OA)(e n:Nat)(K:VK):WK:=nn h λo=>aD (some o) 1 (e:Int) (x0 ((lp [.l m e n,.i (e:Int),.i 0] λj p=>∀b c f d a g,j [.l b c f,.i d,.i a] g->(br (decide (a<d)) (fO b c a 14 λq=>ah q 14 λr=>mk cJ λk=>aG 14 (ad k 0) r (tick (nn h λs=>ah (ad k 0) 14 λt=>nR (some s) t (x0 ((ct j p [.l b c f,.i d,.i (adN.wrap (a+1))] [.l b c f,.i d,.i a] g)))))) (K (.tuple ⟨[]⟩))) g)))
def mF.j1(K:VK)(d:Nat)(c:OA):WK:=ah (ad d 0) 2 λg=>ah (ad d 2) 2 λh=>ah (ad d 4) 2 λj=>ah (ad d 6) 2 λk=>ah (ad d 8) 2 λl=>a8 (g.length=2/\(h.length=2/\(j.length=2/\(k.length=2/\(l.length=2/\True))))) ((lp [.p (some (ad d 0)),.agg ⟨(g++(h++(j++(k++(l++[])))))⟩,.i 0] λm o=>∀a e b f,m [.p (some a),.agg ⟨e⟩,.i b] f->(br (decide (b<5)) (a8 ((0:Int)<=b/\b<5) (mk [.u 0,.u 0] λn=>a8 (((e.drop ((b:Int).toNat* 2)).take 2).length=2) (ga (ad n 0) ((e.drop ((b:Int).toNat* 2)).take 2) (ah (ad n 0) 2 λq=>iz c q (x0 ((ct m o [.p (some a),.agg ⟨e⟩,.i (adN.wrap (b+1))] [.p (some a),.agg ⟨e⟩,.i b] f))))))) (lI (a.add 10) λr=>aD c 4 r (x0 (lI (a.add 11) λs=>aD c 4 s (x0 (lI (a.add 12) λt=>aD c 2 t (x0 (lI (a.add 13) λv=>aD c 2 v (x0 (lI (a.add 14) λw=>aD c 8 w (x0 (lI (a.add 15) λx=>aD c 8 x (x0 (K (.tuple ⟨[]⟩))))))))))))))) f))
def mF(b:OA)(c:LV)(K:VK):WK:=mk c λa=>ah (ad a 0) 16 λd=>dg d (xB λe=>br (!e) (a8 True (a8 (16=16) (ga (ad a 0) fe (mF.j1 K a b)))) (mF.j1 K a b))
def jl(h m:OA)(e n:Nat)(K:VK):WK:=nn h λo=>aD (some o) 1 (e:Int) (x0 ((lp [.l m e n,.i (e:Int),.i 0] λj p=>∀b c f d a g,j [.l b c f,.i d,.i a] g->(br (decide (a<d)) (fO b c a 16 λq=>ah q 16 λr=>mk fe λk=>aG 16 (ad k 0) r (tick (nn h λs=>ah (ad k 0) 16 λt=>mF (some s) t (x0 ((ct j p [.l b c f,.i d,.i (adN.wrap (a+1))] [.l b c f,.i d,.i a] g)))))) (K (.tuple ⟨[]⟩))) g)))
def mo(a:OA)(b:Bool)(K:VK):WK:=br b (aD a 1 1 (x0 (K (.tuple ⟨[]⟩)))) (aD a 1 0 (x0 (K (.tuple ⟨[]⟩))))
def kT(b:OA)(h:LV)(K:VK):WK:=mk h λa=>tick (nn b λj=>ah (ad a 0) 2 λk=>iz (some j) k (x0 (tick (nn b λl=>lI (ad a 2) λm=>aD (some l) 8 m (x0 (tick (nn b λn=>lI (ad a 3) λo=>aD (some n) 8 o (x0 (lT (ad a 4) λq=>lT (ad a 5) λr=>lT (ad a 6) λs=>a8 (1=1/\(1=1/\(1=1/\True))) ((lp [.p (some (ad a 0)),.agg ⟨[.bool q,.bool r,.bool s]⟩,.i 0] λg t=>∀d e c f,g [.p (some d),.agg ⟨e⟩,.i c] f->(br (decide (c<3)) (yO e 3 c (xB λu=>nn b λv=>mo (some v) u (x0 ((ct g t [.p (some d),.agg ⟨e⟩,.i (adN.wrap (c+1))] [.p (some d),.agg ⟨e⟩,.i c] f))))) (tick (nn b λw=>lI (d.add 7) λx=>aD (some w) 1 x (x0 (K (.tuple ⟨[]⟩)))))) f)))))))))))
def so(t:LV)(K:VK):WK:=mk t λb=>ah (ad b 0) 13 λv=>lG v (xB λw=>br (!w) (K (.tuple ⟨[.string .empty,.i 1]⟩)) (a8 True (mk [.l none 0 0] λa=>tick (lI (ad b 0) λx=>aD (some (ad a 0)) 1 x (x0 (lI (ad b 0) λe=>br (e==1) (lL (ad b 1) λy z A=>jJ (some (ad a 0)) y z A (x0 (bW (some (ad a 0)) (xS λB=>K (.tuple ⟨[.string B,.i 0]⟩))))) (br (e==2) (lL (ad b 2) λC D E=>jl (some (ad a 0)) C D E (x0 (bW (some (ad a 0)) (xS λF=>K (.tuple ⟨[.string F,.i 0]⟩))))) (br (e==3) (tick (lI (ad b 3) λG=>aD (some (ad a 0)) 8 G (x0 (bW (some (ad a 0)) (xS λH=>K (.tuple ⟨[.string H,.i 0]⟩)))))) (br (e==6) (ah (ad b 5) 8 λI=>kT (some (ad a 0)) I (x0 (bW (some (ad a 0)) (xS λJ=>K (.tuple ⟨[.string J,.i 0]⟩))))) (tick (lL (ad b 4) λM o O=>aD (some (ad a 0)) 1 (o:Int) (x0 (kp (ad b 4) [.l M o O] (lL (ad b 4) λP q Q=>(lp [.string .empty,.i 0,.p (some (ad a 0)),.l P q Q,.i (q:Int),.i 0] λr R=>∀j k c f g m h d n,r [.string j,.i k,.p (some c),.l f g m,.i h,.i d] n->(br (decide (d<h)) (fO f g d 2 λS=>ah S 2 λT=>mk [.u 0,.u 0] λs=>aG 2 (ad s 0) T (tick (ah (ad s 0) 2 λV=>iz (some c) V (x0 ((ct r R [.string j,.i k,.p (some c),.l f g m,.i h,.i (adN.wrap (d+1))] [.string j,.i k,.p (some c),.l f g m,.i h,.i d] n)))))) (bW (some c) (xS λW=>K (.tuple ⟨[.string W,.i 0]⟩)))) n)))))))))))))))
def iu(a:OA)(K:VK):WK:=br (a.isNone) (K (.i 0)) (nn a λb=>lI (b.add 7) λc=>K (.i c))
def gB(a:OA)(K:VK):WK:=br (a.isNone) (K (.l none 0 0)) (nn a λb=>lL b λc d h=>eS 14 112 cJ none 0 0 c d λe f g=>K (.l e f g))
def fP(a:OA)(K:VK):WK:=br (a.isNone) (K (.l none 0 0)) (nn a λb=>lP (b.add 1) λc=>gB c (xL λd e f=>K (.l d e f)))
def iM(a:OA)(K:VK):WK:=br (a.isNone) (K (.l none 0 0)) (nn a λb=>lL b λc d h=>eS 33 264 bg none 0 0 c d λe f g=>K (.l e f g))
def ir(a:OA)(K:VK):WK:=br (a.isNone) (K (.l none 0 0)) (nn a λb=>lP (b.add 2) λc=>iM c (xL λd e f=>K (.l d e f)))
def jW(a:OA)(K:VK):WK:=br (a.isNone) (K (.i 0)) (nn a λb=>lI (b.add 8) λc=>K (.i c))
def o0(b:OA)(K:VK):WK:=a8 True (mk [.l none 0 0] λc=>aD (some (ad c 0)) 1 1 (x0 (iu b (xI .i64 λB=>aD (some (ad c 0)) 8 B (x0 (jW b (xI .i64 λC=>aD (some (ad c 0)) 8 C (x0 (fP b (xL λY D Z=>aD (some (ad c 0)) 2 (D:Int) (x0 (ir b (xL λsm E sw=>aD (some (ad c 0)) 2 (E:Int) (x0 (fP b (xL λF w G=>(lp [.string .empty,.p (some (ad c 0)),.l F w G,.i (w:Int),.i 0] λx H=>∀g d h j r k e s,x [.string g,.p (some d),.l h j r,.i k,.i e] s->(br (decide (e<k)) (fO h j e 14 λI=>ah I 14 λJ=>mk cJ λy=>aG 14 (ad y 0) J (ah (ad y 0) 14 λM=>nR (some d) M (x0 ((ct x H [.string g,.p (some d),.l h j r,.i k,.i (adN.wrap (e+1))] [.string g,.p (some d),.l h j r,.i k,.i e] s))))) (ir b (xL λO z P=>(lp [.string g,.p (some d),.l O z P,.i (z:Int),.i 0] λA Q=>∀t a m n u o f v,A [.string t,.p (some a),.l m n u,.i o,.i f] v->(br (decide (f<o)) (fO m n f 33 λR=>ah R 33 λS=>mk bg λq=>aG 33 (ad q 0) S (ah (ad q 0) 16 λT=>mF (some a) T (x0 (ah (ad q 16) 16 λV=>mF (some a) V (x0 (lI (ad q 32) λW=>aD (some a) 1 W (x0 ((ct A Q [.string t,.p (some a),.l m n u,.i o,.i (adN.wrap (f+1))] [.string t,.p (some a),.l m n u,.i o,.i f] v))))))))) (bW (some a) (xS λX=>K (.string X)))) v)))) s)))))))))))))))))
def cB.j1(K:VK)(a:OA)(b:Int):WK:=br (b !=0) (nn a λc=>st (c.add 9) (.bool true) (K (.i b))) (nn a λd=>lI (d.add 8) λe=>nn a λf=>st (f.add 8) (.i (adN.wrap (e+1))) (nn a λg=>lP (g.add 7) λh=>fN h (x0 (K (.i 0)))))
def cB(a:OA)(K:VK):WK:=br (a.isNone) (K (.i 2)) (nn a λl=>lT (l.add 9) λm=>br m (K (.i 9)) (nn a λn=>lP (n.add 6) λo=>o0 o (xS λb=>nn a λq=>ah (q.add 1) 5 λr=>mg r (b.size:Int) (xB λs=>br (!s) (K (.i 3)) (nn a λt=>lP t λu=>kx u (xI .i64 λc=>tick (nn a λv=>ah (v.add 1) 5 λw=>nn a λx=>lP x λy=>nn a λf=>lI (f.add 8) λg=>mH w y (adN.wrap (g+1)) (adN.wrap (c+1)) b (xI .i64 λh=>kp (f.add 8) [.i g] (br (h==0) (tick (nn a λj=>lP j λk=>nn a λd=>lI (d.add 8) λe=>nn a λz=>lP (z.add 7) λA=>gg A (xI .i64 λB=>kp (d.add 8) [.i e] (kp j [.p k] (a8 (1=1/\(1=1/\(1=1/\(1=1/\True)))) (pV k (adN.wrap ((adN.wrap (c+1))+1)) [.i (adN.wrap (e+1)),.i (adN.wrap (c+1)),.i (b.size:Int),.i B] (xI .i64 λC=>kp (d.add 8) [.i e] (cB.j1 K a C)))))))) (cB.j1 K a h))))))))))
def fF.j1(K:VK)(a:OA)(e:BA):WK:=tick (nn a λc=>lP (c.add 7) λd=>nn a λf=>lP f λg=>kx g (xI .i64 λh=>kp (c.add 7) [.p d] (aV d (adN.wrap (h+1)) e (xI .i64 λb=>nn a λj=>lT (j.add 9) λk=>br k (nn a λl=>st (l.add 9) (.bool true) (K (.i b))) (nn a λm=>st (m.add 9) (.bool (b==8)) (K (.i b)))))))
def fF(a:OA)(b:BA)(K:VK):WK:=nn a λd=>lP (d.add 7) λe=>fM e (b.size:Int) (xB λf=>br (!f) (cB a (xI .i64 λc=>br (c !=0) (K (.i c)) (fF.j1 K a b))) (fF.j1 K a b))
def jB(a:OA)(K:VK):WK:=br (a.isNone) (K (.i 0)) (nn a λb=>lP (b.add 7) λc=>gg c (xI .i64 λd=>K (.i d)))
def jK(a:OA)(K:VK):WK:=br (a.isNone) (K (.p none)) (nn a λb=>lP (b.add 6) λc=>o0 c (xS λd=>kW d (x2 λe f=>(xP λg=>(xI .i64 λh=>K (.p g)) f) e)))
def kv(a:OA)(K:VK):WK:=br (a.isNone) (K (.i 0)) (nn a λb=>lI (b.add 8) λc=>K (.i c))
def fL(a:OA)(K:VK):WK:=br (!(a.isNone)) (nn a λb=>lT (b.add 9) λc=>K (.bool c)) (K (.bool false))
end Go.Prog
namespace Go.Md
def aK:Nat:=340282366920938463463374607431768211456
structure aP where
 id:Nat
 dp:Nat
 dq:Nat
 cp:Nat
 cq:Nat
 aF:Int
 code:Int
 flags:Int
 ae:Int
deriving DecidableEq
structure Move where
 id:Nat
 aE:Nat
 ar:Nat
 aB:Nat
 pending:Nat
 timeout:Int
 aF:Int
 code:Int
 flags:Int
 ae:Int
 born:Int
deriving DecidableEq
structure Kept where
 asked:Move
 move:Move
 fate:Int
deriving DecidableEq
structure ax where
 ag:List aP
 kept:List Kept
 clock:Int
 ae:Int
structure Model where
 made:List aP
 kept:List Kept
 clock:Int
 ae:Int
def has(f b:Int):Prop:=f/b%2=1
instance(f b:Int):Decidable (has f b):=by unfold has;infer_instance
def qG(a:aP):Int:=
 if a.flags<0\/7<a.flags then 3 else if a.id=0 then 4 else if a.id=aK-1 then 5 else if has a.flags 2/\has a.flags 4 then 6
 else if a.dp≠0\/a.dq≠0\/a.cp≠0\/a.cq≠0\/a.ae≠0 then 7 else if a.aF<=0\/4294967296<=a.aF then 8 else if a.code<=0\/65536<=a.code then 9 else 0
def rB(a b:aP):Int:=if a.aF=b.aF/\a.code=b.code/\a.flags/2%4=b.flags/2%4 then 10 else 11
def gr(f:Int):Prop:=has f 4\/has f 8
instance(f:Int):Decidable (gr f):=by unfold gr;infer_instance
def fw(f:Int):Prop:= ¬(has f 2/\has f 4\/has f 2/\has f 8\/has f 4/\has f 8)/\ ¬(gr f/\16<=f)/\(f<64\/has f 2)
instance(f:Int):Decidable (fw f):=by unfold fw;infer_instance
def kC(t:Move):Int:=
 if t.flags<0\/255<t.flags then 3 else if t.id=0 then 4 else if t.id=aK-1 then 5 else if ¬fw t.flags then 6
 else if t.ae≠0\/t.born≠0 then 7 else if t.timeout<0\/1073741824<t.timeout\/0<t.timeout/\ ¬has t.flags 2 then 17
 else if gr t.flags then
  (if t.pending=0 then 16 else if t.aF<0\/4294967296<=t.aF then 8 else if t.code<0\/65536<=t.code then 9 else 0)
 else if t.aE=0 then 12 else if t.ar=0 then 13 else if t.aE=t.ar then 14 else if t.pending≠0 then 15 else if t.aB=0/\ ¬has t.flags 16/\ ¬has t.flags 32 then 18
 else if t.aF<1\/4294967296<=t.aF then 8 else if t.code<1\/65536<=t.code then 9 else 0
def qy(t b:Move):Int:=if{t with flags:=t.flags/2}={b with flags:=b.flags/2} then 10 else 11
def S(f:Kept->Nat)(l:List Kept):Nat:=(l.map f).sum
def ur(f:Kept->Nat):S f []=0:=rfl
def nS(f:Kept->Nat)(k:Kept)(l:List Kept):S f (k::l)=f k+S f l:=by simp[S]
def OX(f:Kept->Nat)(l m:List Kept):S f (l++m)=S f l+S f m:=by simp[S]
def rD(f:Kept->Nat)(l:List Kept)(k:Kept):S f (l++[k])=S f l+f k:=by simp[S]
def DF(f:Kept->Nat):∀(l:List Kept)(i:Nat)(k:Kept)(h:i<l.length),S f (l.set i k)+f l[i]=S f l+f k
 |[],i,k,h=>by simp at h
 |x::l,0,k,h=>by simp[S];omega
 |x::l,i+1,k,h=>by
  have ih:=DF f l i k (by simpa using h);simp only[ae5,nS,List.getElem_cons_succ];omega
def OW(f:Kept->Nat):∀(l:List Kept)(k:Kept),k∈l->f k<=S f l
 |[],k,h=>by simp at h
 |x::l,k,h=>by
  rw[nS];rcases ae9.1 h with h|h
  ·subst h;omega
  ·have:=OW f l k h;omega
def vU(id:Nat)(k:Kept):Nat:=if k.fate=1/\k.move.aE=id then k.move.aB else 0
def vV(id:Nat)(k:Kept):Nat:=if k.fate=1/\k.move.ar=id then k.move.aB else 0
def ig(k:Kept):Prop:= ¬has k.move.flags 2/\ ¬has k.move.flags 8
instance(k:Kept):Decidable (ig k):=by unfold ig;infer_instance
def yh(id:Nat)(k:Kept):Nat:=if ig k/\k.move.aE=id then k.move.aB else 0
def yi(id:Nat)(k:Kept):Nat:=if ig k/\k.move.ar=id then k.move.aB else 0
def gF(id:Nat)(k:Kept):Prop:=(has k.move.flags 64/\k.move.aE=id\/has k.move.flags 128/\k.move.ar=id)/\(k.fate=1\/k.fate=2)
instance(id:Nat)(k:Kept):Decidable (gF id k):=by unfold gF;infer_instance
def qo(id:Nat)(k:Kept):Nat:=if gF id k then 1 else 0
def add(a b:Nat):Nat:=if a+b<aK then a+b else 0
def sy(a:aP)(k:Kept):aP:=
 {a with dq:=if ig k/\k.move.aE=a.id then add a.dq k.move.aB else a.dq,cq:=if ig k/\k.move.ar=a.id then add a.cq k.move.aB else a.cq,dp:=if k.fate=1/\k.move.aE=a.id then add a.dp k.move.aB else a.dp,cp:=if k.fate=1/\k.move.ar=a.id then add a.cp k.move.aB else a.cp,flags:=if gF a.id k then a.flags%8+8 else a.flags}
def full(l:List Kept)(a:aP):aP:=
 {a with dp:=a.dp+S (vU a.id) l,dq:=a.dq+S (yh a.id) l,cp:=a.cp+S (vV a.id) l,cq:=a.cq+S (yi a.id) l,flags:=if S (qo a.id) l=0 then a.flags else a.flags%8+8}
def Lq(a:aP)(k:Kept)(h1:a.dp+vU a.id k<aK)(h2:a.dq+yh a.id k<aK)(h3:a.cp+vV a.id k<aK)(h4:a.cq+yi a.id k<aK):sy a k=full [k] a:=by
 have e1:(if k.fate=1/\k.move.aE=a.id then add a.dp k.move.aB else a.dp)=a.dp+S (vU a.id) [k]:=by
  rw[nS,ur];unfold vU at h1⊢;by_cases h:k.fate=1/\k.move.aE=a.id
  ·rw[if_pos h] at h1⊢;rw[if_pos h];unfold add;rw[if_pos h1];omega
  ·rw[if_neg h,if_neg h];rfl
 have e2:(if ig k/\k.move.aE=a.id then add a.dq k.move.aB else a.dq)=a.dq+S (yh a.id) [k]:=by
  rw[nS,ur];unfold yh at h2⊢;by_cases h:ig k/\k.move.aE=a.id
  ·rw[if_pos h] at h2⊢;rw[if_pos h];unfold add;rw[if_pos h2];omega
  ·rw[if_neg h,if_neg h];rfl
 have e3:(if k.fate=1/\k.move.ar=a.id then add a.cp k.move.aB else a.cp)=a.cp+S (vV a.id) [k]:=by
  rw[nS,ur];unfold vV at h3⊢;by_cases h:k.fate=1/\k.move.ar=a.id
  ·rw[if_pos h] at h3⊢;rw[if_pos h];unfold add;rw[if_pos h3];omega
  ·rw[if_neg h,if_neg h];rfl
 have e4:(if ig k/\k.move.ar=a.id then add a.cq k.move.aB else a.cq)=a.cq+S (yi a.id) [k]:=by
  rw[nS,ur];unfold yi at h4⊢;by_cases h:ig k/\k.move.ar=a.id
  ·rw[if_pos h] at h4⊢;rw[if_pos h];unfold add;rw[if_pos h4];omega
  ·rw[if_neg h,if_neg h];rfl
 have e5:(if gF a.id k then a.flags%8+8 else a.flags)=if S (qo a.id) [k]=0 then a.flags else a.flags%8+8:=by
  rw[nS,ur];unfold qo;by_cases h:gF a.id k
  ·rw[if_pos h,if_pos h,if_neg (by omega)]
  ·rw[if_neg h,if_neg h,if_pos (by omega)]
 unfold sy full;rw[e1,e2,e3,e4,e5]
def y3(a:aP)(l m:List Kept):full m (full l a)=full (l++m) a:=by
 unfold full;dsimp only;simp only[OX,Nat.add_assoc]
 congr 1
 by_cases h1:S (qo a.id) l=0
 ·rw[if_pos h1];by_cases h2:S (qo a.id) m=0
  ·rw[if_pos h2,if_pos (by omega)]
  ·rw[if_neg h2,if_neg (by omega)]
 ·rw[if_neg h1];by_cases h2:S (qo a.id) m=0
  ·rw[if_pos h2,if_neg (by omega)]
  ·rw[if_neg h2,if_neg (by omega)];omega
def Ig(a:aP):∀(l:List Kept),a.dp+S (vU a.id) l<aK->a.dq+S (yh a.id) l<aK->a.cp+S (vV a.id) l<aK->a.cq+S (yi a.id) l<aK->l.foldl sy a=full l a:=by
 intro l
 induction l generalizing a with
 |nil=>intros;unfold full;simp[ur]
 |cons k l ih=>
  intro h1 h2 h3 h4;rw[nS] at h1 h2 h3 h4;rw[List.foldl_cons,Lq a k (by omega) (by omega) (by omega) (by omega)];have Hk:(full [k] a).id=a.id:=rfl;have:=ih (full [k] a) (by rw[Hk];show a.dp+S (vU a.id) [k]+_<_;rw[nS,ur];omega) (by rw[Hk];show a.dq+S (yh a.id) [k]+_<_;rw[nS,ur];omega)
   (by rw[Hk];show a.cp+S (vV a.id) [k]+_<_;rw[nS,ur];omega) (by rw[Hk];show a.cq+S (yi a.id) [k]+_<_;rw[nS,ur];omega)
  rw[this,y3];rfl
end Go.Md
namespace Go.Up
open Go.Sep Go.Den Go.RowKit Go.Prog Go.Md
instance{a b:Value}{n:Nat}:Wr [a,b] 0 (nm n) (nm n):=⟨rfl,adW _,λv h=>by simp[nm] at h;rcases h with rfl|rfl<;>rfl⟩
instance{m n:Nat}:Wr (nm m) 0 (nm n) (nm n):=⟨rfl,adW _,λv h=>by simp[nm] at h;rcases h with rfl|rfl<;>rfl⟩
instance{a b:Value}{k k':IntKind}{x y:Int}:Wr [a,b] 0 [.int k x,.int k' y] [.int k x,.int k' y]:=⟨rfl,adW _,λv h=>by simp at h;rcases h with rfl|rfl<;>rfl⟩
instance{n:Nat}{k k':IntKind}{x y:Int}:Wr (nm n) 0 [.int k x,.int k' y] [.int k x,.int k' y]:=⟨rfl,adW _,λv h=>by simp at h;rcases h with rfl|rfl<;>rfl⟩
section
variable {W:World} {L:LH} {K:VK} {a b n:Nat}
def qz(h:T W L (K (.bool (decide (n=0))))):T W L (eK (nm n) K):=by
 unfold eK;apply ws;intros;exact T.dp h
def TG{x y c:Int}(h1:(0<=x/\0<=y)/\0<=c/\c<=1)(h:T W L (K (.tuple ⟨[.u ((x+y+c)%18446744073709551616),.u ((x+y+c)/18446744073709551616)]⟩))):T W L (ng x y c K):=cK h1 h
def MS{x y c:Int}(h1:(0<=x/\0<=y/\y<18446744073709551616)/\0<=c/\c<=1)(h:T W L (K (.tuple ⟨[.u ((x-y-c)%18446744073709551616),.u (if x<y+c then 1 else 0)]⟩))):T W L (nd x y c K):=cK h1 h
def L1(h:T W L (K (.i (if a=b then 0 else if a<b then-1 else 1)))):T W L (pD (nm a) (nm b) K):=by
 unfold pD
 repeat' first|apply ws;intros|apply wb|with_reducible refine bB (λh1=>?_) (λh1=>?_)|fail
 all_goals (refine T.fin (T.dp h) ?_;simp only[decide_eq_true_eq,decide_eq_false_iff_not,beq_iff_eq,beq_eq_false_iff_ne,ne_eq] at *;congr 1;split<;>(try split)<;>omega)
def yu(h:T W L (K (.bool (decide (a<b))))):T W L (nj (nm a) (nm b) K):=by
 unfold nj
 repeat' first|apply ws;intros|apply wb|with_reducible refine L1 ?_|fail
 refine T.fin (T.dp h) ?_
 congr 1
 simp only[decide_eq_decide];split<;>(try split)<;>omega
def Tc(h:T W L (K (.agg ⟨nm (min a b)⟩))):T W L (tE (nm a) (nm b) K):=by
 unfold tE
 repeat' first|apply ws;intros|apply wb|with_reducible first|refine yu ?_|refine bB (λh1=>?_) (λh1=>?_)|fail
 all_goals (refine T.fin (T.dp h) ?_;simp only[decide_eq_true_eq,decide_eq_false_iff_not] at h1;congr 3;omega)
def Nu{x y:Int}(n:Nat)(h1:x=((n/18446744073709551616:Nat):Int))(h2:y=((n%18446744073709551616:Nat):Int)):[Value.int .u64 x,Value.int .u64 y]=nm n:=by rw[h1,h2];rfl
abbrev yo(a b:Nat):Value:=.tuple ⟨[.agg ⟨nm (if a+b<aK then a+b else 0)⟩,.bool (decide (a+b<aK))]⟩
abbrev WL(a b:Nat):Value:=.tuple ⟨[.agg ⟨nm (if a<b then 0 else a-b)⟩,.bool (decide (b<=a))]⟩
def zj(ha:a<aK)(hb:b<aK)(h:T W L (K (yo a b))):T W L (me (nm a) (nm b) K):=by
 unfold aK at ha hb;unfold me
 repeat' first|apply ws;intros|apply wb|with_reducible first|refine TG (by omega) ?_|refine bB (λh1=>?_) (λh1=>?_)|fail
 all_goals
  refine T.fin (T.dp h) ?_;simp only[bne_iff_ne,ne_eq,bne_eq_false_iff_eq] at h1;unfold yo aK
 ·rw[if_neg (by omega),decide_eq_false (by omega)];rfl
 ·rw[if_pos (by omega),decide_eq_true (by omega),Nu (a+b) (by omega) (by omega)]
def OT(ha:a<aK)(hb:b<aK)(h:T W L (K (WL a b))):T W L (ma (nm a) (nm b) K):=by
 unfold aK at ha hb;unfold ma
 repeat' first|apply ws;intros|apply wb|with_reducible first|refine yu ?_|refine MS (by omega) ?_|refine MS (by split<;>omega) ?_|refine bB (λh1=>?_) (λh1=>?_)|fail
 all_goals
  refine T.fin (T.dp h) ?_;simp only[decide_eq_true_eq,decide_eq_false_iff_not] at h1;unfold WL
 ·rw[if_pos h1,decide_eq_false (by omega)];rfl
 ·rw[if_neg h1,decide_eq_true (by omega),Nu (a-b) (by split<;>omega) (by omega)]
end
end Go.Up
namespace Go.Sep
open Go.Den Go.RowKit Go.Prog Go.bu
def Nn{s:BA}(h:s.size<=128):(ay.pad s).size=128:=by
 unfold ay.pad;rw[ByteArray.size_append,qc];omega
def T3(n:Int):(ay.new n).Ok:=by
 have hn:0<=min2 (max2 n 0) 4096/\min2 (max2 n 0) 4096<=4096:=by unfold min2 max2;split<;>split<;>omega
 refine⟨λs hs=>?_,λp hp=>?_,?_,?_⟩
 ·simp only[ay.new,List.mem_replicate] at hs;rw[hs.2];exact qc 128
 ·simp[ay.new] at hp
 ·simp only[ay.new,aeX];omega
 ·simp[ay.new]
def lE(D:ay)(mask torn cut:Int):D.eP mask torn cut=⟨crashed mask torn (min2 (max2 cut 0) 128) D.safe D.later D.later.length,[],D.ops,0⟩:=by
 unfold ay.eP;have:=xe mask torn (min2 (max2 cut 0) 128) D.later D.safe D.later.length 0 (by omega);simp only[aeZ,crashed] at this;rw[this]
def og(D:ay)(i:Int)(s:BA):(D.write i s).1.safe=D.safe/\(D.write i s).1.later.length<=D.later.length+1:=by
 unfold ay.write;split
 ·exact⟨rfl,by simp⟩
 ·split
  ·exact⟨rfl,by simp[ay.tick]⟩
  ·exact⟨rfl,by simp⟩
def E0{D:ay}(h:D.Ok)(i:Int)(s:BA)(hl:D.later.length+1<1099511627776):(D.write i s).1.Ok:=by
 have h2:=og D i s;refine⟨by rw[h2.1];exact h.safe,?_,by rw[h2.1];exact h.lh,by omega⟩;rw[h2.1];unfold ay.write;split
 ·exact h.later
 ·rename_i hg;split
  ·exact h.later
  ·intro p hp;simp only[aeu,List.mem_singleton] at hp;rcases hp with hp|hp
   ·exact h.later p hp
   ·subst hp;have Hl:D.is i:=by
     by_cases hh:D.is i
     ·exact hh
     ·exact absurd (.inl hh) hg
    have Mf: ¬128<s.size:=λhh=>hg (.inr hh);exact⟨Nn (by omega),Hl.1,Hl.2⟩
def GG{mask torn c:Int}(hc:0<=c/\c<=128){safe:List BA}{k:Nat}{p:Int×BA}(hs:∀s∈safe,s.size=128)(hp:p.2.size=128/\0<=p.1/\p.1<safe.length):
 ∀s∈ay.pJ mask torn c safe k p,s.size=128:=by
 intro s hm;have K8:p.1.toNat<safe.length:=by omega
 unfold ay.pJ at hm;split at hm
 ·rcases aeG hm with hm|hm
  ·exact hs s hm
  ·rw[hm];have:=hs _ (aee K8);rw[aeT,adQ K8,aes,ByteArray.size_append,rH,rH,this,hp.1];omega
 ·split at hm
  ·rcases aeG hm with hm|hm
   ·exact hs s hm
   ·rw[hm];exact hp.1
  ·exact hs s hm
def uj{mask torn c:Int}(hc:0<=c/\c<=128){safe:List BA}{later:List (Int×BA)}(hs:∀s∈safe,s.size=128)(hp:∀p∈later,p.2.size=128/\0<=p.1/\p.1<safe.length):
 ∀j,∀s∈crashed mask torn c safe later j,s.size=128
 |0=>hs
 |j+1=>by
  simp only[crashed];cases hl:later[j]? with
  |none=>exact uj hc hs hp j
  |some p=>
   refine GG hc (uj hc hs hp j) ?_;rw[hO];exact hp p (aei hl)
def Oo(cut:Int):0<=min2 (max2 cut 0) 128/\min2 (max2 cut 0) 128<=128:=by unfold min2 max2;split<;>split<;>omega
def By{D:ay}(h:D.Ok)(mask torn cut:Int):(D.eP mask torn cut).Ok:=by
 rw[lE];refine⟨uj (Oo cut) h.safe h.later _,λp hp=>by simp at hp,by simp only[hO];exact h.lh,by simp⟩
def Cq{later:List (Int×BA)}:∀{safe:List BA},(∀s∈safe,s.size=128)->(∀p∈later,p.2.size=128)->∀s∈later.foldl ay.put safe,s.size=128:=by
 induction later with
 |nil=>exact λhs _=>hs
 |cons p l ih=>
  intro safe hs hp;rw[List.foldl_cons];refine ih (λs hm=>?_) (λq hq=>hp q (aeU _ hq));rcases aeG hm with hm|hm
  ·exact hs s hm
  ·rw[hm];exact hp p (List.mem_cons_self)
def DN{D:ay}(h:D.Ok):D.sync.1.Ok:=by
 unfold ay.sync;split
 ·exact⟨h.safe,h.later,h.lh,h.less⟩
 ·refine⟨Cq h.safe λp hp=>(h.later p hp).1,λp hp=>by simp at hp,?_,by simp⟩;show(D.later.foldl ay.put D.safe).length<=4096;rw[kB];exact h.lh
def uB{D:ay}(h:D.later=[]){i:Nat}(hi:i<D.safe.length):D.read (i:Int)=(D.safe[i],0):=by
 unfold ay.read;rw[if_pos ⟨by omega,by omega⟩];simp[ay.now,ay.last,h,hi]
section
variable {W w:World} {L:LH}
end
end Go.Sep
namespace Go.Sep
open Go.Den Go.RowKit Go.ChangeShapes Go.WideShapes
inductive CK where
 |i(k:IntKind)
 |b
 |s
deriving DecidableEq
def CK.is:CK->Value->Prop
 | .i k,v=>∃n,v=.int k n/\(Lit.int k n).wf=true
 | .b,v=>∃x,v=.bool x
 | .s,v=>∃x,v=.string x/\x.size<=reachBytes
def Typed(ks:List CK)(cs:LV)(o:Nat):Prop:=∀j k,ks[j]?=some k->∃v,cs[o+j]?=some v/\k.is v
def oB(P:Program)(f:TypeId->Option (List CK)):Nat->List Field->Option (List CK)
 |_,[]=>some []
 |o,fd::r=>match f fd.type with
  |some a=>if fd.offset=o/\P.cellsOf fd.type=a.length then(oB P f (o+a.length) r).map (a++·) else none
  |none=>none
def flat(P:Program):Nat->TypeId->Option (List CK)
 |0,_=>none
 |n+1,t=>match P.underlying t with
  |some (.int k)=>some [.i k]
  |some .bool=>some [.b]
  |some .string=>some [.s]
  |some (.struct fs)=>oB P (flat P n) 0 fs.toList
  |_=>none
section
variable {H:Type} {enc:TypeId×Value->H} {P:Program} {w:World} {base:Nat} {spare:Nat->Bool} {held:Bool}
def wY{f:TypeId->Option (List CK)}{m:Nat}{cs:LV}
 (hf:∀t ks cs x,f t=some ks->DataW.trod enc P w base spare held m t cs=some x->(∀n∈x.1.weights P t,n<=reachBytes)->Typed ks cs 0):
 ∀(fs:List Field)(o:Nat)(ks:List CK)(xs:List (DataW H×List MemPlace)),oB P f o fs=some ks->
  (∀(i:Nat)(fd:Field),fs[i]?=some fd->DataW.trod enc P w base spare held m fd.type ((cs.drop fd.offset).take (P.cellsOf fd.type))=xs[i]?)->xs.length=fs.length->
  (∀n∈DataW.weightsEach P (fs.map (·.type)) (xs.map (·.1)),n<=reachBytes)->Typed ks cs o
 |[],o,ks,xs,h,_,_,_=>by
  simp only[oB,aea.injEq] at h;subst h;intro j k hj;simp at hj
 |fd::r,o,ks,[],h,hx,hl,hw=>by simp at hl
 |fd::r,o,ks,x::xs,h,hx,hl,hw=>by
  simp only[oB] at h;cases ha:f fd.type with
  |none=>simp[ha] at h
  |some a=>
   simp only[ha] at h;split at h
   ·rename_i hc;cases hb:oB P f (o+a.length) r with
    |none=>simp[hb] at h
    |some b=>
     simp only[hb,aeB,aea.injEq] at h;subst h;simp only[aer,DataW.weightsEach,aeu] at hw;have h1:=hf fd.type a _ x ha (by have:=hx 0 fd rfl;simpa using this) (λn hn=>hw n (.inl hn));have h2:=wY hf r (o+a.length) b xs hb (λi g hg=>by have:=hx (i+1) g (by simpa using hg);simpa using this) (by simpa using hl) (λn hn=>hw n (.inr hn));intro j k hj;by_cases UD:j<a.length
     ·rw[aec UD] at hj;obtain⟨v,hv,hk⟩:=h1 j k hj;refine⟨v,?_,hk⟩;rw[hc.1,hc.2,adU,List.getElem?_take_of_lt UD,ae6] at hv;exact hv
     ·rw[aeo (by omega)] at hj;obtain⟨v,hv,hk⟩:=h2 (j-a.length) k hj;refine⟨v,?_,hk⟩;rw[show o+j=o+a.length+(j-a.length) from by omega];exact hv
   ·cases h
def Br:∀(f:Nat)(m:Nat)(t:TypeId)(ks:List CK)(cs:LV)(x:DataW H×List MemPlace),flat P f t=some ks->DataW.trod enc P w base spare held m t cs=some x->
 (∀n∈x.1.weights P t,n<=reachBytes)->Typed ks cs 0
 |0,_,_,_,_,_,h,_,_=>by simp[flat] at h
 |f+1,m,t,ks,cs,x,h,hx,hw=>by
  unfold flat at h;split at h
  ·rename_i k ht;cases h
   obtain⟨n,rfl,rfl,hwf⟩:=DataW.trod_int ht hx;intro j k' hj;cases j with
   |zero=>simp at hj;subst hj;exact⟨_,rfl,n,rfl,hwf⟩
   |succ j=>simp at hj
  ·rename_i ht;cases h
   obtain⟨n,rfl,rfl⟩:=DataW.trod_bool ht hx;intro j k' hj;cases j with
   |zero=>simp at hj;subst hj;exact⟨_,rfl,n,rfl⟩
   |succ j=>simp at hj
  ·rename_i ht;cases h
   obtain⟨n,rfl,rfl,_⟩:=DataW.trod_string ht hx;intro j k' hj;cases j with
   |zero=>simp at hj;subst hj;exact⟨_,rfl,n,rfl,by have:=hw n.data.toList.length (by simp[DataW.weights]);simpa using this⟩
   |succ j=>simp at hj
  ·rename_i fs ht;obtain⟨xs,n,rfl,rfl,hl,hlen,hf⟩:=DataW.trod_struct ht hx;refine wY (m:=n) (λt ks cs x h1 h2 h3=>Br f n t ks cs x h1 h2 h3) fs.toList 0 ks xs h (λi fd hi=>hf i fd (by simpa using hi)) (by simpa using hlen) (λn hn=>hw n ?_);simp only[DataW.weights,ht];exact hn
  ·cases h
def Pd(ks:List CK)(n:Nat)(xs:LV):Prop:=∀i,i<n->Typed ks xs (i* ks.length)
def tF{e:TypeId}:∀{ds:List (DataW H)} {d:DataW H},d∈ds->∀n∈d.weights P e,n∈DataW.weightsAll P e ds
 |[],d,h,_,_=>by simp at h
 |d0::ds,d,h,n,hn=>by
  simp only[DataW.weightsAll,aeu];rcases ae9.1 h with h|h
  ·subst h;exact .inl hn
  ·exact .inr (tF h n hn)
def Il{α:Type}{ks:List CK}{n:Nat}{xs:LV}(f:α->LV)(q:α->Prop)(hf:∀a,(f a).length=ks.length)
 (dec:∀o,Typed ks xs o->∃a,q a/\∀j,j<ks.length->xs[o+j]?=(f a)[j]?)(he:Pd ks n xs)(hl:xs.length=n* ks.length):∃l:List α,l.length=n/\xs=l.flatMap f/\∀a∈l,q a:=by
 have key:∀m,m<=n->∃l:List α,l.length=m/\xs.take (m* ks.length)=l.flatMap f/\∀a∈l,q a:=by
  intro m
  induction m with
  |zero=>exact λ_=>⟨[],rfl,by simp,by simp⟩
  |succ m ih=>
   intro hm;obtain⟨l,h1,h2,h3⟩:=ih (by omega);obtain⟨a,ha,hc⟩:=dec _ (he m (by omega));refine⟨l++[a],by simp[h1],?_,λb hb=>?_⟩
   ·rw[aeN,<-h2,afe,Nat.one_mul,List.take_add]
    congr 1
    simp only[aeE,List.flatMap_nil,aeb];apply afa;intro j;by_cases hj:j<ks.length
    ·rw[List.getElem?_take_of_lt hj,ae6];exact hc j hj
    ·have h5:ks.length<=j:=by omega
     rw[aeR (by simp;omega),aeR (by rw[hf];exact h5)]
   ·rcases aeu.1 hb with hb|hb
    ·exact h3 b hb
    ·simp at hb;subst hb;exact ha
 obtain⟨l,h1,h2,h3⟩:=key n (adW n);rw[ad9 (by omega)] at h2;exact⟨l,h1,h2,h3⟩
def Below.trodAll(hl:laidOutB P=true){W W':World}(hb:Below W.heap.size W W'):
 ∀{ts:List TypeId} {vs:LV} {ds:List (DataW H)} {ps:List MemPlace},ts.all (λt=>P.readableRec t&&decide (t<P.types.size))=true->
 DataW.TrodAll enc P W 0 (λ_=>true) true ts vs ds ps->DataW.TrodAll enc P W' 0 (λb=>decide (b<W.heap.size)) true ts vs ds ps
 |[],vs,ds,ps,_,h=>by
  cases vs<;>cases ds<;>simp[DataW.TrodAll] at h⊢
  exact h
 |t::ts,vs,ds,ps,hr,h=>by
  simp only[List.all_cons,aeJ,decide_eq_true_eq] at hr;have aZ:=DataW.TrodAll.lt h;obtain⟨v,B1,d,ds',p,q,rfl,rfl,rfl,h1,h2⟩:=trodAll_cons h;exact⟨p,q,Go.RowKit.Below.trod hl hr.1.1 hr.1.2 h1 hb (λx hx=>aZ x (by simp[hx])),Below.trodAll hl hb hr.2 h2,rfl⟩
end
end Go.Sep
namespace Go.Sep
open Go.Den Go.RowKit Go.Prog Go.bu
def eO{z ys:LV}(h:ys.length=z.length):over z 0 ys=ys:=by
 unfold over;rw[aff,aet,adU,aex (by omega),aeb]
section
variable {W w:World} {L:LH} {b:OA} {n e:Nat} {xs:LV}
end
section
variable {W w:World} {L:LH}
end
namespace Dk
variable {D:Go.bu.ay}
open Go.bu.ay (last put pad)
def Ob(h:D.arm=0):D.qS=false:=by simp[Go.bu.ay.qS,h]
def Sh(h:D.arm=0):D.tick.arm=0:=by simp[Go.bu.ay.tick,h]
def DH(h:D.arm=0)(i:Int)(s:BA):D.write i s=if ¬D.is i\/128<s.size then(D,1) else({Go.bu.ay.tick D with later:=D.later++[(i,pad s)]},0):=by
 unfold Go.bu.ay.write;rw[Ob h];rfl
def Af(h:D.arm=0)(i:Int)(s:BA):(D.write i s).1.arm=0:=by
 rw[DH h];split
 ·exact h
 ·exact Sh h
def I9(h:D.arm=0):D.sync=({D.tick with safe:=D.later.foldl put D.safe,later:=[]},0):=by
 unfold Go.bu.ay.sync;rw[Ob h];rfl
def o5(l:List (Int×BA))(p:Int×BA)(i:Int):last (l++[p]) i=if p.1=i then some p.2 else last l i:=by
 unfold last;rw[List.reverse_append];simp only[afk,List.reverse_nil,aet,List.singleton_append,List.find?_cons];by_cases h:p.1=i
 ·simp[h]
 ·have:(p.1==i)=false:=by simp[h]
  rw[this,if_neg h]
def A5(h:D.arm=0)(n i:Int)(s:BA):(D.write n s).1.now i=if(D.is n/\s.size<=128)/\n=i then pad s else D.now i:=by
 rw[DH h];by_cases hw: ¬D.is n\/128<s.size
 ·rw[if_pos hw,if_neg];rintro⟨⟨h1,h2⟩,_⟩;rcases hw with hw|hw
  ·exact hw h1
  ·omega
 ·rw[if_neg hw];have h1:D.is n:=by
   by_cases hh:D.is n
   ·exact hh
   ·exact absurd (.inl hh) hw
  have h2:s.size<=128:=by
   by_cases hh:s.size<=128
   ·exact hh
   ·exact absurd (.inr (by omega)) hw
  simp only[Go.bu.ay.now,Go.bu.ay.tick,o5];by_cases ZK:n=i
  ·rw[if_pos ZK,if_pos ⟨⟨h1,h2⟩,ZK⟩];rfl
  ·rw[if_neg ZK,if_neg (λhh=>ZK hh.2)]
def uI(l:List (Int×BA))(p:Int×BA)(i:Int):last (p::l) i=(last l i).or (if p.1=i then some p.2 else none):=by
 unfold last;rw[afk,List.find?_append];by_cases h:p.1=i
 ·cases List.find? (λp=>p.1==i) l.reverse<;>simp[h]
 ·have:(p.1==i)=false:=by simp[h]
  cases List.find? (λp=>p.1==i) l.reverse<;>simp[h,this]
def va{i:Int}(hi:0<=i):∀(l:List (Int×BA))(safe:List BA),i<safe.length->(∀p∈l,0<=p.1)->(l.foldl put safe).getD i.toNat .empty=(last l i).getD (safe.getD i.toNat .empty):=by
 intro l
 induction l with
 |nil=>intro safe _ _;rfl
 |cons p l ih=>
  intro safe hs hp;rw[List.foldl_cons,uI,ih _ (by simp[put];exact hs) (λq hq=>hp q (aeU _ hq))];have hp0:=hp p (by simp);have hlen:i.toNat<safe.length:=by omega
  have e:(put safe p).getD i.toNat .empty=if p.1=i then p.2 else safe.getD i.toNat .empty:=by
   unfold put;by_cases He:p.1=i
   ·rw[if_pos He,He,aeT,List.getElem?_set_self hlen];rfl
   ·rw[if_neg He,aeT,List.getElem?_set_ne (by omega),<-aeT]
  rw[e];cases last l i with
  |some x=>rfl
  |none=>by_cases He:p.1=i<;>simp[He]
def KS(h:D.arm=0)(ft:D.Ok){i:Int}(hi:D.is i):D.sync.1.now i=D.now i:=by
 rw[I9 h];have:=va hi.1 D.later D.safe hi.2 (λp hp=>(ft.later p hp).2.1);simp only[Go.bu.ay.now,last,List.reverse_nil,List.find?_nil,Option.map_none,aeI];exact this
def Fj:D.sync.1.safe.length=D.safe.length/\D.sync.1.later.length<=D.later.length:=by
 unfold Go.bu.ay.sync;split
 ·exact⟨rfl,adW _⟩
 ·exact⟨kB _ _,ad0 _⟩
def Kn(h:D.arm=0):D.sync.1.arm=0:=by rw[I9 h];exact Sh h
end Dk
end Go.Sep
namespace Go.Sep
open Go.Den Go.RowKit Go.Prog Go.bu
def bs(l:List UInt8):BA:=⟨l.toArray⟩
def bJ(l:List UInt8):(bs l).size=l.length:=rfl
def J3(s:BA):bs s.data.toList=s:=rfl
def rF(x:UInt8):Value:=.int .u8 (x.toNat:Int)
def byteOf(k:IntKind)(n:Int)(i:Nat):UInt8:=UInt8.ofNat (IntKind.u8.wrap (shr k n (8* (i:Int)))).toNat
def le(k:IntKind)(w:Nat)(n:Int):List UInt8:=(afl w).map (byteOf k n)
def az(k:IntKind)(w:Nat)(n:Int):(le k w n).length=w:=by simp[le]
def vf(n:Int):0<=IntKind.u8.wrap n/\IntKind.u8.wrap n<256:=by
 simp[IntKind.wrap,IntKind.bits,IntKind.signed];omega
def uw{n:Int}(h:0<=n/\n<256):rF (UInt8.ofNat n.toNat)=.int .u8 n:=by
 unfold rF
 congr 1
 have:n.toNat<256:=by omega
 rw[UInt8.toNat_ofNat_of_lt' (by exact this)];omega
def za(l:List UInt8):bytesOf (l.map rF)=l:=by
 unfold bytesOf;rw[afr]
 conv=>rhs;rw[<-List.map_id l]
 refine ae7 λx _=>?_;simp[rF]
def strCells_eq(s:BA):strCells s=s.data.toList.map rF:=rfl
def buf(p:Nat)(l:List UInt8):HP:=SX λ(v:OA×Nat)=>sep (pt p [.l v.1 l.length v.2]) (own v.1 l.length v.2 1 (l.map rF))
section
variable {W w:World} {L:LH} {k p:Nat} {l:List UInt8}
def BL(h:St W w L)(hk:L[k]?=some (buf p l)):∃b c,St W w (pt p [.l b l.length c]::own b l.length c 1 (l.map rF)::L.eraseIdx k):=by
 obtain⟨⟨b,c⟩,h1⟩:=(h.focus hk).ex;exact⟨b,c,h1.split⟩
def pW{b:OA}{c n:Nat}{A:HP}(hk:L[k]?=some A)(hn:n=l.length)(h:St W w (pt p [.l b n c]::own b n c 1 (l.map rF)::L.eraseIdx k)):St W w (L.set k (buf p l)):=by
 subst hn;refine St.nE (A:=A) ?_ hk;exact St.nM (b,c) (St.join h)
def RL{b:OA}{n c:Nat}{K:BA->WK}(h:St W w L)(hk:L[k]?=some (own b n c 1 (l.map rF)))(hK:K (bs l) w):RN b n K w:=by
 have hl:=(h.lJ hk).1;rw[aeg,afm] at hl;have vD:=Ke h hk;refine⟨λhb=>?_,λa ha=>⟨l.map rF,by rw[aeg];exact hl,vD.1.2 a ha,λv hv=>?_,?_⟩⟩
 ·have:n=0:=vD.2 hb;have Mc:l=[]:=List.length_eq_zero_iff.1 (by omega);subst Mc;exact hK
 ·obtain⟨x,_,rfl⟩:=aeA.1 hv;exact⟨_,rfl⟩
 ·rw[za];exact hK
def OJ{r n:Nat}{K:BA->WK}(h:St W w L)(hk:L[k]?=some (pt r (l.map rF)))(hn:n=l.length)(hK:K (bs l) w):RN (some ⟨r,0,none⟩) n K w:=by
 refine⟨λhb=>(by cases hb),λa ha=>⟨l.map rF,by rw[aeg,hn],?_,λv hv=>?_,?_⟩⟩
 ·cases ha
  exact sg h hk λj v hj=>by rw[adU];exact hj
 ·obtain⟨x,_,rfl⟩:=aeA.1 hv;exact⟨_,rfl⟩
 ·rw[za];exact hK
def gu{m n:Int}{K:VK}(h:St W w L)(hk:L[k]?=some (buf p l))(hl:l.length<1099511627776)
 (hK:∀w',St W w' (L.set k (buf p (l++le .i64 (min2 (max2 m 1) 8).toNat n)))->K (.tuple ⟨[]⟩) w'):aD (some ⟨p,0,none⟩) m n K w:=by
 have hm:1<=min2 (max2 m 1) 8/\min2 (max2 m 1) 8<=8:=by unfold min2 max2;split<;>split<;>omega
 unfold aD;generalize min2 (max2 m 1) 8=q at *;obtain⟨b,c,hs⟩:=BL h hk;refine⟨λus w'=>∃(j:Nat)(b:OA)(c:Nat),us=[.i q,.i j]/\(j:Int)<=q/\St W w' (pt p [.l b (l++le .i64 j n).length c]::own b (l++le .i64 j n).length c 1 ((l++le .i64 j n).map rF)::L.eraseIdx k),
  λus _=>match us with|[_,.int _ j]=>(q-j).toNat|_=>0,⟨0,b,c,rfl,by omega,?_⟩,?_⟩
 ·have e:l++le .i64 0 n=l:=by simp[le]
  rw[e];exact hs
 rintro n3 n4 w2 ⟨j,b,c,he,hj,hs⟩;cases he
 refine de (λh0=>?_) (λh0=>?_)
 ·refine jL hs λw hs=>?_;simp only[nz,adO,adP];refine bG (k:=0) hs rfl rfl ?_;simp only[nz,adO,adP];have e8:adN.wrap (8* (j:Int))=8* (j:Int):=aw (by omega);rw[e8];refine⟨by omega,?_⟩;have hb8:Value.int .u8 (IntKind.u8.wrap (shr .i64 n (8* (j:Int))))=rF (byteOf .i64 n j):=by
   unfold byteOf;rw[uw (vf _)]
  rw[hb8];refine fI hs λr w hs=>?_;refine gw (k:=1) hs rfl rfl ?_;have hlen:(l++le .i64 j n).length=l.length+j:=by rw[adT,az]
  refine pZ (k:=2) (ys:=[rF (byteOf .i64 n j)]) hs rfl (BU (k':=0) hs rfl rfl λj v hj=>by rw[adU];exact hj) (by simp) rfl (by omega) (by omega) (by simp[Value.oneCell',rF]) λb' c' w hs=>?_;simp only[nz,adO,adP] at hs⊢;refine lR (k:=1) hs rfl (adX rfl) rfl λw hs=>?_;simp only[nz,adO,adP] at hs;have e5:=l9 j;rw[e5];refine⟨⟨j+1,b',c',rfl,by omega,?_⟩,by omega⟩;have e6:l++le .i64 (j+1) n=(l++le .i64 j n)++[byteOf .i64 n j]:=by
   unfold le;rw[List.range_succ,aen,adZ];rfl
  rw[e6,adT,aen];exact hs.drop
 ·have Gi:(j:Int)=q:=by omega
  refine hK _ ?_;have:q.toNat=j:=by omega
  rw[this];exact pW hk rfl hs
def mV{s:BA}{K:VK}(h:St W w L)(hk:L[k]?=some (buf p l))(hl:l.length+s.size<1099511627776)
 (hK:∀w',St W w' (L.set k (buf p (l++s.data.toList)))->K (.tuple ⟨[]⟩) w'):iy (some ⟨p,0,none⟩) s K w:=by
 unfold iy;obtain⟨b,c,hs⟩:=BL h hk;simp only[nz,adO,adP];refine bG (k:=0) hs rfl rfl ?_;simp only[nz,adO,adP];refine BQ (k:=1) hs rfl (by omega) λb' c' w hs=>?_;simp only[nz,adO,adP] at hs⊢;refine lR (k:=0) hs rfl (adX rfl) rfl λw hs=>?_;simp only[nz,adO,adP] at hs;refine hK w (pW (b:=b') (c:=c') (n:=l.length+s.size) hk (by rw[adT];rfl) ?_);rw[aen,<-strCells_eq];exact hs
def jk{K:VK}(h:St W w L)(hk:L[k]?=some (buf p l))(hK:K (.string (bs l)) w):bW (some ⟨p,0,none⟩) K w:=by
 unfold bW;obtain⟨b,c,hs⟩:=BL h hk;simp only[nz,adO,adP];refine bG (k:=0) hs rfl rfl ?_;simp only[nz,adO,adP];exact RL (k:=1) hs rfl hK
def Ou(n:Int):Nat->Int
 |0=>n
 |j+1=>bA .u32 .xor (shr .u32 (Ou n j) 1) (bA .u32 .and 2197175160 (IntKind.u32.wrap (0-(bA .u32 .and (Ou n j) 1))))
def Rx(n:Int)(c:UInt8):Int:=Ou (bA .u32 .xor n (IntKind.u32.wrap (c.toNat:Int))) 8
def Ot(n:Int)(l:List UInt8):Int:=l.foldl Rx n
def oY(n:Int)(l:List UInt8):Int:=bA .u32 .xor 4294967295 (Ot (bA .u32 .xor 4294967295 n) l)
def Xd(w w':World):Prop:=w'=w
def G4{n:Int}{s:BA}{K:VK}(hs:s.size<1099511627776)(hK:K (.int .u32 (oY n s.data.toList)) w):qu n s K w:=by
 unfold qu;refine⟨λus w'=>∃j:Nat,us=[.int .u32 0,.int .u32 (Ot (bA .u32 .xor 4294967295 n) (s.data.toList.take j)),.i s.size,.i j]/\j<=s.size/\Xd w w',
  λus _=>match us with|[_,_,_,.int _ j]=>s.size-j.toNat|_=>0,⟨0,rfl,ad0 _,rfl⟩,?_⟩
 rintro n2 n3 n4 n5 w2 ⟨j,he,hj,hw⟩;obtain rfl:w2=w:=hw;cases he
 have hlen:s.data.toList.length=s.size:=rfl;generalize hb:decide ((j:Int)<(s.size:Int))=b;cases b
 ·have gj:=of_decide_eq_false hb;rw[cf];have:j=s.size:=by omega
  subst this;rw[ad9 (by omega)];exact hK
 ·have aZ:=of_decide_eq_true hb;rw[gU];have NV:j<s.data.toList.length:=by omega
  refine⟨s.data.toList[j],⟨by omega,by simp[NV]⟩,?_⟩;generalize hc:s.data.toList[j]=c;generalize hx:Ot (bA .u32 .xor 4294967295 n) (s.data.toList.take j)=x;refine⟨λus w'=>∃i:Nat,us=[.int .u32 0,.int .u32 (Ou (bA .u32 .xor x (IntKind.u32.wrap (c.toNat:Int))) i),.i j,.i s.size,.i j,.bool true,.i j,.int .u32 x,.string s,.i j,.int .u8 (c.toNat:Int),.int .u32 (IntKind.u32.wrap (c.toNat:Int)),.int .u32 (bA .u32 .xor x (IntKind.u32.wrap (c.toNat:Int))),.i i]/\i<=8/\Xd w2 w',
   λus _=>match us with|[_,_,_,_,_,_,_,_,_,_,_,_,_,.int _ i]=>8-i.toNat|_=>0,⟨0,rfl,ad0 _,rfl⟩,?_⟩
  rintro n6 n7 n8 n9 Zx b1 T4 Sv s2 L4 V5 V4 uF n17 w4 ⟨i,he,hi,hw⟩;obtain rfl:w4=w2:=hw;cases he
  generalize ue:decide ((i:Int)<8)=b2;cases b2
  ·have gj:=of_decide_eq_false ue;rw[cf];have hi8:i=8:=by omega
   subst hi8;have e5:=l9 j;rw[e5];refine⟨⟨j+1,?_,by omega,rfl⟩,by dsimp only;omega⟩;have e6:Ot (bA .u32 .xor 4294967295 n) (s.data.toList.take (j+1))=Ou (bA .u32 .xor x (IntKind.u32.wrap (c.toNat:Int))) 8:=by
    rw[aeK NV];unfold Ot at hx⊢;rw[List.foldl_append,hx,hc];rfl
   rw[e6]
  ·have rr:=of_decide_eq_true ue;rw[gU];refine⟨by decide,?_⟩;have e5:=l9 i;rw[e5];exact⟨⟨i+1,rfl,by omega,rfl⟩,by dsimp only;omega⟩
def rq(n:Int):List UInt8:=le .u32 4 n
def um{n:Int}{K:VK}(h:St W w L)(hn:0<=n/\n<4294967296)(hK:∀w',St W w' L->K (.string (bs (rq n))) w'):nQ n K w:=by
 unfold nQ;refine⟨by decide,by decide,by decide,⟨rfl,rfl,rfl,rfl,trivial⟩,fI h λr w hs=>?_⟩;have e0:Value.int .u8 (IntKind.u8.wrap n)=rF (byteOf .u32 n 0):=by
  unfold byteOf;rw[uw (vf _)];have:shr .u32 n (8* ((0:Nat):Int))=n:=by simp[shr]
  rw[this]
 have e:∀i:Nat,Value.int .u8 (IntKind.u8.wrap (shr .u32 n (8* (i:Int))))=rF (byteOf .u32 n i):=λi=>by
  unfold byteOf;rw[uw (vf _)]
 have e1:=e 1;have e2:=e 2;have e3:=e 3;have yW:[Value.int .u8 (IntKind.u8.wrap n),.int .u8 (IntKind.u8.wrap (shr .u32 n 8)),.int .u8 (IntKind.u8.wrap (shr .u32 n 16)),.int .u8 (IntKind.u8.wrap (shr .u32 n 24))]=(rq n).map rF:=by
  rw[e0,show(8:Int)=8* ((1:Nat):Int) from rfl,show(16:Int)=8* ((2:Nat):Int) from rfl,show(24:Int)=8* ((3:Nat):Int) from rfl,e1,e2,e3]
  rfl
 rw[yW] at hs;exact OJ (k:=0) hs rfl rfl (hK w hs.drop)
end
def Good(n i:Int)(s:BA):Prop:=1<=n/\n<=1152921504606846976/\0<=i/\i<4096/\s.size<=104
instance(n i:Int)(s:BA):Decidable (Good n i s):=by unfold Good;infer_instance
def pre(n i:Int)(s:BA):List UInt8:=le .i64 8 n++le .i64 2 i++le .i64 2 s.size++s.data.toList++ad6 (104-s.size) 0
def iU(n i:Int)(s:BA):List UInt8:=pre n i s++rq (oY 0 (pre n i s))++le .i64 8 n
def leaf(n i:Int)(s:BA):BA:=if Good n i s then bs (iU n i s) else .empty
def m8{n i:Int}{s:BA}(h:s.size<=104):(pre n i s).length=116:=by
 have:s.data.toList.length=s.size:=rfl;simp only[pre,adT,az,aeX];omega
def sH{n i:Int}{s:BA}(h:s.size<=104):(iU n i s).length=128:=by
 simp only[iU,adT,az,m8 h,rq]
def pS{n i:Int}{s:BA}(h:Good n i s):(leaf n i s).size=128:=by
 unfold leaf;rw[if_pos h,bJ,sH h.2.2.2.2]
def yy(n:Int):0<=IntKind.u32.wrap n/\IntKind.u32.wrap n<4294967296:=by
 simp[IntKind.wrap,IntKind.bits,IntKind.signed];omega
section
variable {W w:World} {L:LH} {k d:Nat} {D:ay}
def Dq{n i:Int}{s:BA}{K:VK}(h:St W w L)(hK:∀w',St W w' L->K (.bool (decide (Good n i s))) w'):qg [.i n,.i i,.string s] K w:=by
 unfold qg;refine fI h λr w hs=>?_;have hh:=hK w hs.drop;simp only[nz,adO,adP];refine bG (k:=0) hs rfl rfl ?_;simp only[nz,adO,adP];refine de (λh1=>?_) (λh1=>?_)
 ·refine bG (k:=0) hs rfl rfl ?_;simp only[nz,adO,adP];refine de (λh2=>?_) (λh2=>?_)
  ·refine bG (k:=0) hs rfl rfl ?_;simp only[nz,adO,adP];refine de (λh3=>?_) (λh3=>?_)
   ·refine bG (k:=0) hs rfl rfl ?_;simp only[nz,adO,adP];refine de (λh4=>?_) (λh4=>?_)
    ·refine bG (k:=0) hs rfl rfl ?_;simp only[nz,adO,adP];have:decide ((s.size:Int)<=104)=decide (Good n i s):=by
      rw[decide_eq_decide];unfold Good;omega
     rw[this];exact hh
    ·have:decide (Good n i s)=false:=decide_eq_false (by unfold Good;omega);rw[this] at hh;exact hh
   ·have:decide (Good n i s)=false:=decide_eq_false (by unfold Good;omega);rw[this] at hh;exact hh
  ·have:decide (Good n i s)=false:=decide_eq_false (by unfold Good;omega);rw[this] at hh;exact hh
 ·have:decide (Good n i s)=false:=decide_eq_false (by unfold Good;omega);rw[this] at hh;exact hh
def IT{n i:Int}{s:BA}{K:VK}(h:St W w L)(hK:∀w',St W w' L->K (.tuple ⟨[.string (leaf n i s),.i (if Good n i s then 0 else 1)]⟩) w'):
 nq [.i n,.i i,.string s] K w:=by
 unfold nq;refine fI h λr w hs=>?_;refine fX (k:=0) (xs:=[.i n,.i i,.string s]) hs rfl rfl (λj v hj=>by rw[adU];exact hj) ?_;refine Dq hs λw hs=>?_;simp only[nz,adO,adP];by_cases hg:Good n i s
 ·have nY:=hg.2.2.2.2;have e0:decide (Good n i s)=true:=decide_eq_true hg;unfold leaf at hK;rw[if_pos hg,if_pos hg] at hK;rw[e0];simp only[nz,adO,adP];refine fI hs λp w hs=>?_;have hs:St W w (buf p []::pt r [.i n,.i i,.string s]::L):=by
   have h2:=(hs.push (A:=own none 0 0 1 (([]:List UInt8).map rF)) (oM 1)).perm (aeh.swap _ _ _);exact pW (k:=0) (L:=buf p []::pt r [.i n,.i i,.string s]::L) (A:=buf p []) rfl rfl h2
  have hd:s.data.toList.length=s.size:=rfl;refine bG (k:=1) hs rfl rfl ?_;simp only[nz,adO,adP];refine gu (k:=0) hs rfl (by simp) λw hs=>?_;rw[show(min2 (max2 8 1) 8).toNat=8 from rfl] at hs;simp only[nz,adO,adP] at hs⊢;refine bG (k:=1) hs rfl rfl ?_;simp only[nz,adO,adP];refine gu (k:=0) hs rfl (by simp only[adT,az,ael];omega) λw hs=>?_;rw[show(min2 (max2 2 1) 8).toNat=2 from rfl] at hs;simp only[nz,adO,adP] at hs⊢;refine bG (k:=1) hs rfl rfl ?_;simp only[nz,adO,adP];refine gu (k:=0) hs rfl (by simp only[adT,az,ael];omega) λw hs=>?_;rw[show(min2 (max2 2 1) 8).toNat=2 from rfl] at hs;simp only[nz,adO,adP] at hs⊢;refine bG (k:=1) hs rfl rfl ?_;simp only[nz,adO,adP];refine mV (k:=0) hs rfl (by simp only[adT,az,ael];omega) λw hs=>?_;simp only[nz,adO,adP] at hs⊢;refine bG (k:=1) hs rfl rfl ?_;simp only[nz,adO,adP];have ew:adN.wrap (104-(s.size:Int))=((104-s.size:Nat):Int):=by rw[aw (by omega)];omega
  rw[ew];refine zf hs (by omega) (by rw[adR];have:(⟨#[0]⟩:BA).size=1:=rfl;rw[this];omega) (by omega) λw hs=>?_;have er:(⟨(AE (⟨#[0]⟩:BA).data.toList (((104-s.size:Nat):Int).toNat)).toArray⟩:BA)=bs (ad6 (104-s.size) 0):=by
   rw[adR];show bs (AE [0] (104-s.size))=_;rw[AD]
  rw[er];simp only[nz,adO,adP];refine mV (k:=0) hs rfl (by rw[bJ];simp only[adT,az,ael,aeX];omega) λw hs=>?_;simp only[nz,adO,adP] at hs⊢;have ep:[]++le .i64 8 n++le .i64 2 i++le .i64 2 s.size++s.data.toList++(bs (ad6 (104-s.size) 0)).data.toList=pre n i s:=rfl;rw[ep] at hs;refine jk (k:=0) hs rfl ?_;simp only[nz,adO,adP];refine G4 (by rw[bJ,m8 nY];omega) ?_;simp only[nz,adO,adP];refine um hs (yy _) λw hs=>?_;simp only[nz,adO,adP];refine mV (k:=0) hs rfl (by rw[bJ,m8 nY];simp only[rq,az];omega) λw hs=>?_;simp only[nz,adO,adP] at hs⊢;refine bG (k:=1) hs rfl rfl ?_;simp only[nz,adO,adP];have ep2:pre n i s++(bs (rq (oY 0 (bs (pre n i s)).data.toList))).data.toList=pre n i s++rq (oY 0 (pre n i s)):=rfl;rw[ep2] at hs;refine gu (k:=0) hs rfl (by simp only[adT,rq,az,m8 nY];omega) λw hs=>?_;rw[show(min2 (max2 8 1) 8).toNat=8 from rfl] at hs;simp only[nz,adO,adP] at hs⊢;refine jk (k:=0) hs rfl ?_;simp only[nz,adO,adP];exact hK w hs.drop.drop
 ·have e0:decide (Good n i s)=false:=decide_eq_false hg;unfold leaf at hK;rw[if_neg hg,if_neg hg] at hK;rw[e0];simp only[nz,adO,adP];exact hK w hs.drop
def dN(n:Nat):Nat:=if n=0 then 1 else(n+103)/104
def nO(n:Nat):1<=dN n:=by unfold dN;split<;>omega
def Iw{n j:Nat}(hj:1<=j):104* j<n↔j<dN n:=by unfold dN;split<;>omega
def ni{n:Nat}{K:VK}(hn:n<1099511627776000)(hK:K (.i (dN n)) w):iT n K w:=by
 unfold iT;refine⟨by decide,by decide,?_⟩;have e0:max2 (n:Int) 0=n:=by unfold max2;split<;>omega
 have e1:(n:Int).tdiv 104=((n/104:Nat):Int):=by rw[Int.tdiv_eq_ediv_of_nonneg (by omega)];rfl
 have e2:(n:Int).tmod 104=((n%104:Nat):Int):=by rw[aey (by omega)];rfl
 rw[e0,e1,e2];have e3:max2 (adN.wrap (adN.wrap ((n/104:Nat):Int)+min2 ((n%104:Nat):Int) 1)) 1=(dN n:Int):=by
  have h1:adN.wrap ((n/104:Nat):Int)=((n/104:Nat):Int):=aw (by omega);rw[h1];have h2:min2 ((n%104:Nat):Int) 1=((min (n%104) 1:Nat):Int):=by unfold min2;split<;>omega
  rw[h2,aw (by omega)];unfold max2 dN;split<;>split<;>omega
 rw[e3];exact hK
end
def gM{x y:BA}(h:x.data.toList=y.data.toList):x=y:=ByteArray.ext (afs h)
def extract_toList(s:BA)(a b:Nat):(s.extract a b).data.toList=(s.data.toList.drop a).take (b-a):=by
 rw[ByteArray.data_extract,Array.toList_extract,List.extract_eq_take_drop]
def cy(s:BA):s.data.toList.length=s.size:=rfl
def part(s:BA)(i:Nat):BA:=s.extract (104* i) (104* (i+1))
def jC(s:BA)(i:Nat):(part s i).size<=104:=by unfold part;rw[rH];omega
def Ky(s:BA)(i m:Nat)(hm:m=min (s.size-104* i) 104):(s.extract (104* i) s.size).extract 0 m=part s i:=by
 apply gM;unfold part;rw[extract_toList,extract_toList,extract_toList,aeZ,afn,List.take_eq_take_iff,ad2,cy];omega
def Kx(s:BA)(i m:Nat)(hm:m=min (s.size-104* i) 104):(s.extract (104* i) s.size).extract m (s.extract (104* i) s.size).size=s.extract (104* (i+1)) s.size:=by
 apply gM;rw[extract_toList,extract_toList,extract_toList,rH];rw[ad9 (by rw[ad2,adV,ad2,cy];omega),ad9 (by rw[ad2,cy];omega),ad9 (by rw[ad2,cy];omega),ae0];by_cases h:104<=s.size-104* i
 ·congr 1;omega
 ·rw[aex (by rw[cy];omega),aex (by rw[cy];omega)]
def lA(at' number:Int)(s:BA):ay->Nat->Nat->ay×Int
 |D,_,0=>(D,0)
 |D,i,n+1=>if(D.write (at'+i) (leaf number i (part s i))).2≠0 then D.write (at'+i) (leaf number i (part s i)) else lA at' number s (D.write (at'+i) (leaf number i (part s i))).1 (i+1) n
def lay(D:ay)(at' to number:Int)(s:BA):ay×Int:=
 if number<1\/1152921504606846976<number\/at'<0\/(D.safe.length:Int)<to\/to<at' then(D,1)
 else if to-at'<(dN s.size:Int) then(D,3) else lA at' number s D 0 (dN s.size)
def wM{at' number:Int}{s:BA}:∀(n i:Nat) {D:ay},D.Ok->D.later.length+n<1099511627776->(lA at' number s D i n).1.Ok/\(lA at' number s D i n).1.safe=D.safe/\(lA at' number s D i n).1.later.length<=D.later.length+n
 |0,i,D,h,hl=>⟨h,rfl,adW _⟩
 |n+1,i,D,h,hl=>by
  have h1:=og D (at'+i) (leaf number i (part s i));have h2:=E0 h (at'+i) (leaf number i (part s i)) (by omega);unfold lA;split
  ·exact⟨h2,h1.1,by omega⟩
  ·have:=wM (at':=at') (number:=number) (s:=s) n (i+1) h2 (by omega);exact⟨this.1,this.2.1.trans h1.1,by omega⟩
def Eb{D:ay}{at' to number:Int}{s:BA}(h:D.Ok)(hl:D.later.length+dN s.size<1099511627776):(lay D at' to number s).1.Ok/\(lay D at' to number s).1.safe=D.safe:=by
 unfold lay;split
 ·exact⟨h,rfl⟩
 ·split
  ·exact⟨h,rfl⟩
  ·have:=wM (at':=at') (number:=number) (s:=s) (dN s.size) 0 h hl;exact⟨this.1,this.2.1⟩
section
variable {W w:World} {L:LH} {k d:Nat} {D:ay}
def pk{at' to number:Int}{s:BA}{b:Bool}{K:VK}(h:St W w L)(hk:L[k]?=some (dL d D))(ft:D.Ok)(hl:D.later.length+4097<1099511627776)(hs:s.size<=reachBytes)
 (hb:b=decide (number<1\/1152921504606846976<number\/at'<0\/(D.safe.length:Int)<to\/to<at'))
 (hK:∀w',St W w' (L.set k (dL d (lay D at' to number s).1))->K (.i (lay D at' to number s).2) w'):ie.j1 K s to at' number (some ⟨d,0,none⟩) b w:=by
 have nY:s.size<=140737488351232:=hs;have rT:=ft.lh;unfold ie.j1;unfold lay at hK;refine pA (λh1=>?_) (λh1=>?_)
 ·rw[hb] at h1;rw[if_pos (of_decide_eq_true h1)] at hK;refine hK w ?_;rw[jO hk];exact h
 rw[hb] at h1;have uX:=of_decide_eq_false h1;rw[if_neg uX] at hK;refine ni (by omega) ?_;simp only[nz,adO,adP];have ew:adN.wrap (to-at')=to-at':=aw (by omega);rw[ew];refine de (λh2=>?_) (λh2=>?_)
 ·rw[if_pos (by omega)] at hK;refine hK w ?_;rw[jO hk];exact h
 rw[if_neg (by omega)] at hK;have H9:dN s.size<=4096:=by omega
 refine⟨λus w'=>∃(j:Nat)(Dj:ay),us=[.string (s.extract (104* j) s.size),.i 0,.i j]/\j<=dN s.size/\Dj.Ok/\Dj.later.length<=D.later.length+j/\lA at' number s D 0 (dN s.size)=lA at' number s Dj j (dN s.size-j)/\St W w' (L.set k (dL d Dj)),
  λus _=>match us with|[_,_,.int _ j]=>dN s.size-j.toNat|_=>0,⟨0,D,?_,ad0 _,ft,by omega,rfl,by rw[jO hk];exact h⟩,?_⟩
 ·have:s.extract (104* 0) s.size=s:=by rw[Nat.mul_zero];exact ByteArray.extract_zero_size
  rw[this];rfl
 rintro s2 n5 n6 w2 ⟨j,Dj,he,hj,ft,hlj,UA,hs⟩;cases he
 have ru:(L.set k (dL d Dj))[k]?=some (dL d Dj):=fV hk;have uW:min2 ((s.extract (104* j) s.size).size:Int) 104=((min (s.size-104* j) 104:Nat):Int):=by
  rw[rH];unfold min2;split<;>omega
 have e5:=l9 j;have ea:adN.wrap (at'+(j:Int))=at'+j:=aw (by omega);rw[uW,e5,ea,rH];have hex:∀X:WK,X w2->a8 (0<=((min (s.size-104* j) 104:Nat):Int)/\((min (s.size-104* j) 104:Nat):Int)<=((min s.size s.size-104* j:Nat):Int)) X w2:=λX hX=>⟨by omega,hX⟩;have step:j<dN s.size->∀w,St W w (L.set k (dL d (Dj.write (at'+j) (leaf number j (part s j))).1))->(Dj.write (at'+j) (leaf number j (part s j))).2≠0->K (.i (Dj.write (at'+j) (leaf number j (part s j))).2) w:=λMe w hs gS=>by
  have e:lA at' number s Dj j (dN s.size-j)=Dj.write (at'+j) (leaf number j (part s j)):=by
   obtain⟨q,hq⟩:∃q,dN s.size-j=q+1:=⟨dN s.size-j-1,by omega⟩;rw[hq,lA,if_pos gS]
  rw[UA,e] at hK;exact hK w hs
 have fin:j<dN s.size->∀w,St W w (L.set k (dL d (Dj.write (at'+j) (leaf number j (part s j))).1))->(Dj.write (at'+j) (leaf number j (part s j))).2=0->
  ∃(j':Nat)(R4:ay),[Value.string (s.extract (104* (j+1)) s.size),.i 0,.i ((j+1:Nat):Int)]=[.string (s.extract (104* j') s.size),.i 0,.i j']/\j'<=dN s.size/\R4.Ok/\R4.later.length<=D.later.length+j'/\lA at' number s D 0 (dN s.size)=lA at' number s R4 j' (dN s.size-j')/\St W w (L.set k (dL d R4)):=λMe w hs hz=>by
  have hw:=og Dj (at'+j) (leaf number j (part s j));refine⟨j+1,_,rfl,by omega,E0 ft _ _ (by omega),by omega,?_,hs⟩;rw[UA];obtain⟨q,hq⟩:∃q,dN s.size-j=q+1:=⟨dN s.size-j-1,by omega⟩;have QY:dN s.size-(j+1)=q:=by omega
  rw[hq,QY,lA,if_neg (by rw[hz];exact λhh=>hh rfl)]
 have F':=nO s.size;have body:j<dN s.size->jd (s.extract (104* j) s.size) none (some ((min (s.size-104* j) 104:Nat):Int)) (λs3=>
  a8 True (
  nq [.i number,.i j,.string s3] (x2 λv1 v2=>(xS λs4=>
  (xI .i64 λn7=>
  cF (some ⟨d,0,none⟩) (at'+j) s4 (xI .i64 λn8=>
  br (n8 !=0) (
  K (.i n8)) (
  jd (s.extract (104* j) s.size) (some ((min (s.size-104* j) 104:Nat):Int)) none (λs5=>λw3=>
   (∃(j':Nat)(R4:ay),[Value.string s5,.i 0,.i ((j+1:Nat):Int)]=[.string (s.extract (104* j') s.size),.i 0,.i j']/\j'<=dN s.size/\R4.Ok/\R4.later.length<=D.later.length+j'/\lA at' number s D 0 (dN s.size)=lA at' number s R4 j' (dN s.size-j')/\St W w3 (L.set k (dL d R4)))/\
   dN s.size-((j+1:Nat):Int).toNat<dN s.size-((j:Nat):Int).toNat)))) v2) v1))) w2:=λMe=>by
  unfold jd;dsimp only;refine⟨⟨by omega,by rw[rH];omega⟩,trivial,?_⟩;rw[adR,Ky s j _ rfl];refine IT hs λw hs=>?_;simp only[nz,adO,adP];refine zx hs ru ft λw hs=>?_;rw[ae4] at hs;simp only[nz,adO,adP];refine qv (λgS=>?_) (λhz=>?_)
  ·exact step Me w hs gS
  ·refine⟨⟨by omega,by rw[rH];omega⟩,?_⟩;rw[Kx s j _ rfl];exact⟨fin Me w hs hz,by omega⟩
 refine GQ (λXL=>body (by omega)) (λXL=>?_);refine de (λJS=>?_) (λhle=>?_)
 ·have hc:=Iw (n:=s.size) (j:=j) (by omega);exact body (by omega)
 ·have hc:=Iw (n:=s.size) (j:=j) (by omega);have Me:j=dN s.size:=by omega
  have e:lA at' number s Dj j (dN s.size-j)=(Dj,0):=by rw[Me,ae8];rfl
  rw[UA,e] at hK;exact hK _ hs
def BX{at' to number:Int}{s:BA}{K:VK}(h:St W w L)(hk:L[k]?=some (dL d D))(ft:D.Ok)(hl:D.later.length+4097<1099511627776)(hs:s.size<=reachBytes)
 (hK:∀w',St W w' (L.set k (dL d (lay D at' to number s).1))->K (.i (lay D at' to number s).2) w'):ie (some ⟨d,0,none⟩) at' to number s K w:=by
 unfold ie;refine de (λh1=>?_) (λh1=>?_)
 ·exact pk h hk ft hl hs (by symm;rw[decide_eq_true_eq];exact .inl h1) hK
 refine de (λh2=>?_) (λh2=>?_)
 ·exact pk h hk ft hl hs (by symm;rw[decide_eq_true_eq];exact .inr (.inl h2)) hK
 refine de (λh3=>?_) (λh3=>?_)
 ·exact pk h hk ft hl hs (by symm;rw[decide_eq_true_eq];exact .inr (.inr (.inl h3))) hK
 refine j0 h hk ?_;simp only[nz,adO,adP];refine de (λh4=>?_) (λh4=>?_)
 ·exact pk h hk ft hl hs (by symm;rw[decide_eq_true_eq];exact .inr (.inr (.inr (.inl h4)))) hK
 ·refine pk h hk ft hl hs ?_ hK;rw[decide_eq_decide];omega
end
section
variable {W w:World} {L:LH} {k:Nat}
def yV(w:World)(a:Addr)(n j:Nat)(hj:j≠a.block):(w.freeze a n).heap[j]?=w.heap[j]?:=by
 unfold World.freeze;split
 ·rfl
 ·simp only[Array.getElem?_modify];rw[if_neg (λh=>hj h.symm)]
def TP{s:BA}{K:Nat->Nat->WK}(h:St W w L)(hK:∀r c w',St W w' (own (some ⟨r,0,none⟩) s.size c 1 (s.data.toList.map rF)::L)->K r c w'):Zu s K w:=by
 intro c t hc;have h1:=h.drew.new ((s.data.toList.map rF)++ad6 (c-s.size) (.int .u8 0)) t;have nY:s.data.toList.length=s.size:=rfl;have UY:((strCells s).toArray++aeY (c-s.size) (.int .u8 0):Array Value)=⟨(s.data.toList.map rF)++ad6 (c-s.size) (.int .u8 0)⟩:=by
  apply afs;rw[Array.toList_append,Array.toList_replicate]
  rfl
 rw[UY];generalize Pz:(s.data.toList.map rF)++ad6 (c-s.size) (Value.int .u8 0)=cs at *;have hlen:cs.length=c:=by rw[<-Pz];simp;omega
 have hhp:(w.drew.alloc (.cells ⟨cs⟩ t)).heap[w.heap.size]?=some (.cells ⟨cs⟩ t):=by
  show(w.heap.push (.cells ⟨cs⟩ t))[w.heap.size]?=_;rw[Array.getElem?_push_size]
 have yP:view ((w.drew.alloc (.cells ⟨cs⟩ t)).freeze ⟨w.heap.size,c,none⟩ 1) w.heap.size=some (.cells cs):=by
  unfold view World.freeze;rw[if_neg (by decide)];simp only[Array.getElem?_modify,hhp];simp[hlen]
 have hb:=h1.1;have h2:=h1.aH (k:=0) rfl (w':=(w.drew.alloc (.cells ⟨cs⟩ t)).freeze ⟨w.heap.size,c,none⟩ 1) ?_ yP (λj hj _=>yV _ _ _ _ hj)
 ·refine hK _ _ _ ?_;refine St.mono (A:=pt w.heap.size cs) h2 λg hp=>⟨by rw[aeg];omega,.inr ⟨_,ad6 (c-s.size) (.int .u8 0),rfl,hc,by simp,?_⟩⟩;rw[Pz];exact hp
 ·refine⟨?_,?_,?_,?_,λj hj=>?_⟩
  ·unfold World.freeze;rw[if_neg (by decide)];exact hb.os
  ·unfold World.freeze;rw[if_neg (by decide)];exact hb.tape
  ·unfold World.freeze;rw[if_neg (by decide)];exact hb.output
  ·unfold World.freeze;rw[if_neg (by decide)];simp only[Array.size_modify];exact hb.size
  ·rw[yV _ _ _ _ (by have:=h.1.size;simp only;omega)];exact hb.block j hj
def zm(r:Nat)(s:BA)(t:Bool):HP:=pt r [.string s,.bool t]
def nX(s:BA)(t:Bool)(n:Int):Bool:=t||decide (n<0\/(s.size:Int)<n)
def tT(s:BA)(t:Bool)(n:Int):BA:=if nX s t n then .empty else s.extract 0 n.toNat
def zn(s:BA)(t:Bool)(n:Int):BA:=if nX s t n then s else s.extract n.toNat s.size
def oq{s:BA}{K:VK}(h:St W w L)(hK:∀r w',St W w' (zm r s false::L)->K (.p (some ⟨r,0,none⟩)) w'):lH s K w:=by
 unfold lH;exact⟨⟨rfl,trivial⟩,fI h λr w hs=>hK r w hs⟩
def BW{r:Nat}{s:BA}{t:Bool}{n:Int}{K:VK}(h:St W w L)(hk:L[k]?=some (zm r s t))(hK:∀w',St W w' (L.set k (zm r (zn s t n) (nX s t n)))->K (.string (tT s t n)) w'):cE (some ⟨r,0,none⟩) n K w:=by
 unfold cE;unfold zm at hk;simp only[nz,adO,adP];refine bG hk (h:=h) rfl ?_;simp only[nz,adO,adP];have bad:nX s t n=true->∀w',St W w' (L.set k (pt r [.string s,.bool true]))->K (.string .empty) w':=λhb w' hs=>by
  have:=hK w';unfold zn tT at this;rw[if_pos hb,if_pos hb,hb] at this;exact this hs
 refine pA (λht=>?_) (λht=>?_)
 ·refine lR h hk (adX rfl) rfl λw hs=>?_;refine bG hs (fV hk) rfl ?_;simp only[nz,adO,adP] at hs⊢;exact bad (by simp[nX,ht]) w hs
 refine de (λhn=>?_) (λhn=>?_)
 ·refine lR h hk (adX rfl) rfl λw hs=>?_;refine bG hs (fV hk) rfl ?_;simp only[nz,adO,adP] at hs⊢;exact bad (by simp[nX,hn]) w hs
 refine bG h hk rfl ?_;simp only[nz,adO,adP];refine lR h hk (adX rfl) rfl λw hs=>?_;refine bG hs (fV hk) rfl ?_;simp only[nz,adO,adP] at hs⊢;refine de (λJS=>?_) (λJS=>?_)
 ·have:decide (n>(s.size:Int))=true:=decide_eq_true JS;rw[this] at hs;exact bad (by simp[nX];omega) w hs
 ·have e:decide (n>(s.size:Int))=false:=decide_eq_false JS;rw[e] at hs;have hb:nX s t n=false:=by
   unfold nX;rw[ht,decide_eq_false (by omega)];rfl
  have:=hK;unfold zn tT at this;rw[if_neg (by rw[hb];exact aej),if_neg (by rw[hb];exact aej),hb] at this;unfold cE.j1;simp only[nz,adO,adP];refine bG hs (fV hk) rfl ?_;unfold jd;simp only[nz,adO,adP];refine⟨by omega,?_⟩;refine bG hs (fV hk) rfl ?_;simp only[nz,adO,adP];refine⟨by omega,?_⟩;refine lR hs (fV hk) (adX rfl) rfl λw hs=>?_;rw[ae4] at hs;exact this w hs
def ka:List UInt8->Nat
 |[]=>0
 |c::r=>c.toNat+256* ka r
def oI:∀l:List UInt8,ka l<256^l.length
 |[]=>by simp[ka]
 |c::r=>by
  have:=oI r;have hc:=c.toNat_lt;simp only[ka,ad8,Nat.pow_succ];omega
def oV:∀(l:List UInt8)(c:UInt8),ka (l++[c])=ka l+c.toNat* 256^l.length
 |[],c=>by simp[ka]
 |d::r,c=>by
  simp only[ae3,ka,oV r c,ad8,Nat.pow_succ];rw[Nat.mul_add,Nat.add_assoc]
  congr 2
  rw[afo 256,Nat.mul_assoc]
def wD(z:Int):BitVec.ofInt 64 (adN.wrap z)=BitVec.ofInt 64 z:=by
 apply BitVec.eq_of_toNat_eq;simp only[BitVec.toNat_ofInt];simp[IntKind.wrap,IntKind.bits,IntKind.signed];split<;>omega
def Qu{A j:Nat}{c:UInt8}(hj:j<8)(hA:A<256^j):bA .i64 .or (adN.wrap A) (shl .i64 (adN.wrap (c.toNat:Int)) (8* (j:Int)))=adN.wrap ((A+c.toNat* 256^j:Nat):Int):=by
 have hc:=c.toNat_lt;have K7:256^j=2^(8* j):=by rw[show(256:Nat)=2^8 from rfl,<-Nat.pow_mul]
 have aaw:c.toNat* 2^(8* j)<2^64:=by
  have h1:c.toNat* 2^(8* j)<2^8* 2^(8* j):=Nat.mul_lt_mul_of_pos_right (by exact hc) (Nat.pow_pos (by decide));rw[<-Nat.pow_add] at h1;exact Nat.lt_of_lt_of_le h1 (aeH (by decide) (by omega))
 have adM:A<2^64:=by
  rw[K7] at hA;exact Nat.lt_of_lt_of_le hA (aeH (by decide) (by omega))
 have ew:adN.wrap (c.toNat:Int)=(c.toNat:Int):=aw (by omega);have esh:shl .i64 (c.toNat:Int) (8* (j:Int))=adN.wrap ((c.toNat* 2^(8* j):Nat):Int):=by
  unfold shl;have h1:(8* (j:Int)).toNat=8* j:=by omega
  have h2:min (8* j) adN.bits=8* j:=by show min (8* j) 64=_;omega
  rw[h1,h2]
  congr 1
 rw[ew,esh];show adN.wrap (((BitVec.ofInt 64 (adN.wrap A)|||BitVec.ofInt 64 (adN.wrap ((c.toNat* 2^(8* j):Nat):Int))).toNat:Nat):Int)=_;rw[wD,wD,BitVec.toNat_or];have t1:(BitVec.ofInt 64 (A:Int)).toNat=A:=by simp only[BitVec.toNat_ofInt];omega
 have t2:(BitVec.ofInt 64 ((c.toNat* 2^(8* j):Nat):Int)).toNat=c.toNat* 2^(8* j):=by
  generalize c.toNat* 2^(8* j)=z at *;simp only[BitVec.toNat_ofInt];omega
 rw[t1,t2,K7]
 congr 2
 rw[Nat.or_comm,<-Nat.shiftLeft_eq,<-Nat.shiftLeft_add_eq_or_of_lt (by rw[<-K7];exact hA),Nat.add_comm]
def jS(l:List UInt8):Int:=adN.wrap (ka l:Int)
def xo{r:Nat}{s:BA}{t:Bool}{n:Int}{K:VK}(h:St W w L)(hk:L[k]?=some (zm r s t))
 (hK:∀w',St W w' (L.set k (zm r (zn s t (min2 (max2 n 1) 8)) (nX s t (min2 (max2 n 1) 8))))->K (.i (jS (tT s t (min2 (max2 n 1) 8)).data.toList)) w'):aq (some ⟨r,0,none⟩) n K w:=by
 have hm:1<=min2 (max2 n 1) 8/\min2 (max2 n 1) 8<=8:=by unfold min2 max2;split<;>split<;>omega
 unfold aq;generalize min2 (max2 n 1) 8=m at *;refine BW h hk λw hs=>?_;simp only[nz,adO,adP];have hv8:(tT s t m).size<=8:=by
  unfold tT;split
  ·exact ad0 _
  ·rw[rH];omega
 have hK':=hK;generalize tT s t m=v at *;refine TP hs λq c w hs=>?_;have hlen:v.data.toList.length=v.size:=rfl;refine⟨λus w'=>∃j:Nat,us=[.i 0,.i (jS (v.data.toList.take j)),.l (some ⟨q,0,none⟩) v.size c,.i v.size,.i j]/\j<=v.size/\Xd w w',
  λus _=>match us with|[_,_,_,_,.int _ j]=>v.size-j.toNat|_=>0,⟨0,rfl,ad0 _,rfl⟩,?_⟩
 rintro n2 n3 M9 VR P9 n4 n5 w2 ⟨j,he,hj,hw⟩;obtain rfl:w2=w:=hw;cases he
 generalize hb:decide ((j:Int)<(v.size:Int))=b;cases b
 ·have gj:=of_decide_eq_false hb;rw[cf];rw[ad9 (by omega)];exact hK' _ hs.drop
 ·have aZ:=of_decide_eq_true hb;rw[gU];have NV:j<v.data.toList.length:=by omega
  refine sL (k:=0) hs rfl (by omega) λr' hr=>?_;cases hr
  refine xX (k:=0) hs rfl (v:=rF (v.data.toList[j])) (by rw[adR,afm,aeD,adQ NV];rfl) ?_;unfold rF;simp only[nz,adO,adP];have e8:adN.wrap (8* (j:Int))=8* (j:Int):=aw (by omega);have e5:=l9 j;rw[e8,e5];refine⟨by omega,?_⟩;have JL:=oI (v.data.toList.take j);have zq:(v.data.toList.take j).length=j:=by rw[adV];omega
  rw[zq] at JL;have e6:bA .i64 .or (jS (v.data.toList.take j)) (shl .i64 (adN.wrap ((v.data.toList[j]).toNat:Int)) (8* (j:Int)))=jS (v.data.toList.take (j+1)):=by
   unfold jS;rw[Qu (by omega) JL,aeK NV,oV,zq]
  rw[e6];exact⟨⟨j+1,rfl,by omega,rfl⟩,by omega⟩
def numOf(s:BA):Int:=if 1<=jS s.data.toList/\jS s.data.toList<=1152921504606846976 then jS s.data.toList else 0
def oo{n:Int}(h:0<=n/\n<18446744073709551616):IntKind.u64.wrap n=n:=by
 simp[IntKind.wrap,IntKind.bits,IntKind.signed];omega
def yc(s:BA):BA:=s.extract 0 8
def xr(s:BA):BA:=s.extract (s.size-8) s.size
def Lt{s:BA}{K:VK}(h:St W w L)(hs8:8<=s.size)(nY:s.size<1099511627776)(hK:∀w',St W w' L->K (.agg ⟨[.i (numOf (yc s)),.i (numOf (xr s))]⟩) w'):su s K w:=by
 unfold su;refine fI h λr1 w hs=>?_;refine fI hs λr2 w hs=>?_;refine jL hs λw hs=>?_;unfold jd;simp only[nz,adO,adP];have e1:adN.wrap ((s.size:Int) -8)=(s.size:Int) -8:=aw (by omega);rw[e1];refine⟨by omega,by omega,?_⟩;have eh:s.extract 0 (8:Int).toNat=yc s:=rfl;have et:s.extract ((s.size:Int) -8).toNat s.size=xr s:=by unfold xr;congr 1;omega
 rw[eh,et];have h8:(yc s).size=8:=by unfold yc;rw[rH];omega
 have t8:(xr s).size=8:=by unfold xr;rw[rH];omega
 refine⟨λus w'=>∃j:Nat,us=[.p (some ⟨r1,0,none⟩),.p (some ⟨r2,0,none⟩),.agg ⟨[.string (yc s),.string (xr s)]⟩,.i j]/\j<=2/\
  St W w' (pt r2 [.i (if 0<j then numOf (yc s) else 0),.i (if 1<j then numOf (xr s) else 0)]::pt r1 [.i 0,.i 0]::L),
  λus _=>match us with|[_,_,_,.int _ j]=>2-j.toNat|_=>0,⟨0,rfl,ad0 _,hs⟩,?_⟩
 rintro a1 a2 cs1 n1 w2 ⟨j,he,hj,hs⟩;cases he
 refine pA (λh0=>?_) (λh0=>?_)
 ·have Gi:j<2:=by have:=of_decide_eq_true h0;omega
  have e5:=l9 j;rw[e5];obtain⟨p,hp,Ur⟩:∃p,([Value.string (yc s),.string (xr s)]:LV)[(j:Int).toNat]?=some (.string p)/\p.size=8/\(j=0->p=yc s)/\(j=1->p=xr s):=by
   match j,Gi with
   |0,_=>exact⟨yc s,rfl,h8,λ_=>rfl,λhh=>by omega⟩
   |1,_=>exact⟨xr s,rfl,t8,λhh=>by omega,λ_=>rfl⟩
  refine⟨.string p,⟨by omega,by omega,hp⟩,?_⟩;simp only[nz,adO,adP];refine oq hs λq w hs=>?_;simp only[nz,adO,adP];refine xo (k:=0) hs rfl λw hs=>?_;have em:min2 (max2 8 1) 8=8:=rfl;have ev:tT p false (min2 (max2 8 1) 8)=p:=by
   rw[em];unfold tT;have:nX p false 8=false:=by unfold nX;rw[Ur.1];rfl
   rw[if_neg (by rw[this];exact aej)];have:(8:Int).toNat=p.size:=by rw[Ur.1];rfl
   rw[this];exact ByteArray.extract_zero_size
  rw[ev];simp only[nz,adO,adP] at hs⊢;have hs:=hs.drop;have fin:∀x w',x=numOf p->St W w' (pt r2 ([.i (if 0<j then numOf (yc s) else 0),.i (if 1<j then numOf (xr s) else 0)].set j (.i x))::pt r1 [.i 0,.i 0]::L)->
     St W w' (pt r2 [.i (if 0<j+1 then numOf (yc s) else 0),.i (if 1<j+1 then numOf (xr s) else 0)]::pt r1 [.i 0,.i 0]::L):=λx w' hx hs=>by
   subst hx
   match j,Gi,Ur,hs with
   |0,_,Ur,hs=>rw[Ur.2.1 rfl] at hs;simpa using hs
   |1,_,Ur,hs=>rw[Ur.2.2 rfl] at hs;simpa using hs
  have zero:numOf p=0->∀w',St W w' (pt r2 [.i (if 0<j then numOf (yc s) else 0),.i (if 1<j then numOf (xr s) else 0)]::pt r1 [.i 0,.i 0]::L)->
   St W w' (pt r2 [.i (if 0<j+1 then numOf (yc s) else 0),.i (if 1<j+1 then numOf (xr s) else 0)]::pt r1 [.i 0,.i 0]::L):=λhz w' hs=>by
   refine fin 0 w' hz.symm ?_
   match j,Gi,hs with
   |0,_,hs=>simpa using hs
   |1,_,hs=>simpa using hs
  refine de (λh1=>?_) (λh1=>?_)
  ·refine de (λh2=>?_) (λh2=>?_)
   ·refine⟨by omega,?_⟩;refine lR (k:=0) hs rfl (by simp;omega) rfl λw hs=>?_;simp only[nz,adO,adP] at hs;rw[adR,afm] at hs;refine⟨⟨j+1,rfl,by omega,fin _ w ?_ hs⟩,by omega⟩;unfold numOf;rw[if_pos (by omega)]
   ·exact⟨⟨j+1,rfl,by omega,zero (by unfold numOf;rw[if_neg (by omega)]) w hs⟩,by omega⟩
  ·exact⟨⟨j+1,rfl,by omega,zero (by unfold numOf;rw[if_neg (by omega)]) w hs⟩,by omega⟩
 ·have Gi:j=2:=by have:=of_decide_eq_false h0;omega
  subst Gi;have hs:St W w2 (pt r2 [.i (numOf (yc s)),.i (numOf (xr s))]::pt r1 [.i 0,.i 0]::L):=hs;refine fX (k:=0) (xs:=[.i (numOf (yc s)),.i (numOf (xr s))]) hs rfl rfl (λi v hi=>by rw[adU];exact hi) ?_;refine⟨rfl,gv (k:=1) hs rfl (adX rfl) (by simp[Value.oneCell']) λw hs=>?_⟩;rw[eO (by simp)] at hs;simp only[nz,adO,adP] at hs;refine fX (k:=1) (xs:=[.i (numOf (yc s)),.i (numOf (xr s))]) hs rfl rfl (λi v hi=>by rw[adU];exact hi) ?_;exact hK w hs.drop.drop
def dv(D:ay):Nat->Int
 |0=>0
 |j+1=>max2 (max2 (dv D j) (numOf (yc (D.read (j:Int)).1))) (numOf (xr (D.read (j:Int)).1))
def uA{D:ay}(h:D.Ok){i:Int}(hi:D.is i):(D.read i).1.size=128:=by
 unfold ay.read;rw[if_pos hi];unfold ay.now;have aZ:i.toNat<D.safe.length:=by have:=hi.1;have:=hi.2;omega
 cases hl:ay.last D.later i with
 |none=>
  rw[aeI,aeT,adQ aZ,aes];exact h.safe _ (aee aZ)
 |some x=>
  unfold ay.last at hl;rw[Option.map_eq_some_iff] at hl;obtain⟨p,hp,rfl⟩:=hl;exact(h.later p (List.mem_reverse.1 (aeO hp))).1
def Cu{d:Nat}{D:ay}{K:VK}(h:St W w L)(hk:L[k]?=some (dL d D))(ft:D.Ok)(hK:∀w',St W w' L->K (.i (dv D D.safe.length)) w'):kx (some ⟨d,0,none⟩) K w:=by
 have rT:=ft.lh;unfold kx;refine j0 h hk ?_;simp only[nz,adO,adP];refine⟨λus w'=>∃j:Nat,us=[.i 0,.i (dv D j),.i D.safe.length,.i j]/\j<=D.safe.length/\St W w' L,
  λus _=>match us with|[_,_,_,.int _ j]=>D.safe.length-j.toNat|_=>0,⟨0,rfl,ad0 _,h⟩,?_⟩
 rintro n2 n3 n4 n5 w2 ⟨j,he,hj,hs⟩;cases he
 refine de (λaZ=>?_) (λgj=>?_)
 ·have hi:D.is (j:Int):=⟨by omega,aZ⟩;have nY:=uA ft hi;have e5:=l9 j;refine nU hs hk ft ?_;simp only[nz,adO,adP];refine Lt hs (by omega) (by omega) λw hs=>?_;simp only[td,ad8,ael,adU,adO,true_and];refine fI hs λr w hs=>?_;refine⟨trivial,gv (k:=0) hs rfl (adX rfl) (by simp[Value.oneCell']) λw hs=>?_⟩;rw[eO (by simp)] at hs;simp only[nz,adO,adP] at hs⊢;refine⟨by decide,?_⟩;refine bG (k:=0) hs rfl rfl ?_;simp only[nz,adO,adP];refine⟨by decide,?_⟩;refine bG (k:=0) hs rfl rfl ?_;simp only[nz,adO,adP];rw[e5];exact⟨⟨j+1,rfl,by omega,hs.drop⟩,by omega⟩
 ·have:j=D.safe.length:=by omega
  subst this;exact hK _ hs
end
def kQ(l:List UInt8)(n:Nat):(bs l).extract 0 n=bs (l.take n):=by
 apply gM;rw[extract_toList,aeZ,Nat.sub_zero];rfl
def kP(l:List UInt8)(n:Nat):(bs l).extract n (bs l).size=bs (l.drop n):=by
 apply gM;rw[extract_toList,bJ];show(l.drop n).take (l.length-n)=l.drop n;rw[ad9 (by rw[ad2];omega)]
def LN(a b:List UInt8):bs a++bs b=bs (a++b):=by
 apply gM;rw[ByteArray.data_append,Array.toList_append];rfl
def ym{a b:List UInt8}:bs a=bs b↔a=b:=by
 constructor
 ·intro h;have:=congrArg (λx=>x.data.toList) h;exact this
 ·intro h;rw[h]
def GC:ByteArray.empty=bs []:=rfl
section
variable {W w:World} {L:LH} {k:Nat}
def Am{l:List UInt8}{K:VK}(hl:l.length<1099511627776)(hK:∀m,m<=l.length->(∀j(h:j<l.length),m<=j->l[j]=0)->(m=0\/∃h:m-1<l.length,l[m-1]≠0)->K (.string (bs (l.take m))) w):jn (bs l) 0 K w:=by
 unfold jn;refine⟨λus w'=>∃m:Nat,us=[.string (bs (l.take m)),.string .empty]/\m<=l.length/\(∀j(h:j<l.length),m<=j->l[j]=0)/\Xd w w',λus _=>match us with|[.string s,_]=>s.size|_=>0,
  ⟨l.length,by rw[ad3],adW _,λj h hj=>by omega,rfl⟩,?_⟩
 rintro s2 s3 w2 ⟨m,he,hm,hz,hw⟩;obtain rfl:w2=w:=hw;cases he
 have nY:(bs (l.take m)).size=m:=by rw[bJ,adV];omega
 rw[nY];refine de (λF'=>?_) (λXz=>?_)
 ·have Uz:m-1<l.length:=by omega
  have ew:adN.wrap ((m:Int) -1)=((m-1:Nat):Int):=by rw[aw (by omega)];omega
  rw[ew];refine⟨l[m-1],⟨by omega,?_⟩,?_⟩
  ·rw[adR];show(l.take m)[m-1]?=_;rw[List.getElem?_take_of_lt (by omega),adQ Uz]
  refine GQ (λh0=>?_) (λh0=>?_)
  ·have hc:l[m-1]=0:=by
    apply UInt8.toNat_inj.1;show _=0;omega
   unfold jd;refine⟨⟨by omega,by rw[nY];omega⟩,?_⟩;rw[adR,kQ,afn,show min (m-1) m=m-1 from by omega];refine⟨⟨m-1,rfl,by omega,λj hj hmj=>?_,rfl⟩,?_⟩
   ·by_cases hjm:m<=j
    ·exact hz j hj hjm
    ·have:j=m-1:=by omega
     subst this;exact hc
   ·dsimp only;rw[bJ,adV,bJ,adV];omega
  ·exact hK m hm hz (.inr ⟨Uz,λhc=>h0 (by rw[hc];rfl)⟩)
 ·exact hK m hm hz (.inl (by omega))
def B5{l:List UInt8}{K:VK}(hl:l.length<1099511627776)(hK:∀m,m<=l.length->(∀j(h:j<l.length),j<m->l[j]=0)->(m=l.length\/∃h:m<l.length,l[m]≠0)->K (.string (bs (l.drop m))) w):jN (bs l) 0 K w:=by
 unfold jN;refine⟨λus w'=>∃m:Nat,us=[.string (bs (l.drop m)),.string .empty]/\m<=l.length/\(∀j(h:j<l.length),j<m->l[j]=0)/\Xd w w',λus _=>match us with|[.string s,_]=>s.size|_=>0,
  ⟨0,rfl,ad0 _,λj h hj=>by omega,rfl⟩,?_⟩
 rintro s2 s3 w2 ⟨m,he,hm,hz,hw⟩;obtain rfl:w2=w:=hw;cases he
 have nY:(bs (l.drop m)).size=l.length-m:=by rw[bJ,ad2]
 refine de (λF'=>?_) (λXz=>?_)
 ·rw[nY] at F';have Uz:m<l.length:=by omega
  refine⟨l[m],⟨by omega,?_⟩,?_⟩
  ·show(l.drop m)[0]?=_;rw[ae6,aeL,adQ Uz]
  refine GQ (λh0=>?_) (λh0=>?_)
  ·have hc:l[m]=0:=by
    apply UInt8.toNat_inj.1;show _=0;omega
   unfold jd;refine⟨⟨by omega,by rw[nY];omega⟩,?_⟩;rw[show(1:Int).toNat=1 from rfl,kP,ae0];refine⟨⟨m+1,rfl,by omega,λj hj hmj=>?_,rfl⟩,?_⟩
   ·by_cases hjm:j<m
    ·exact hz j hj hjm
    ·have:j=m:=by omega
     subst this;exact hc
   ·dsimp only;rw[bJ,ad2,bJ,ad2];omega
  ·exact hK m hm hz (.inr ⟨Uz,λhc=>h0 (by rw[hc];rfl)⟩)
 ·rw[nY] at Xz;exact hK m hm hz (.inl (by omega))
def LU{l:List UInt8}{K:VK}(h:St W w L)(hl:l.length<1099511627776)(hK:∀r w',(r=.empty↔l=ad6 l.length 0)->St W w' L->K (.string r) w'):dV (bs l) ⟨#[0]⟩ K w:=by
 unfold dV;have e0:oZ (⟨#[0]⟩:BA) (⟨#[]⟩:BA)=false:=by rw[pO];exact decide_eq_false (λh=>absurd (congrArg ByteArray.size h) (by decide))
 rw[e0,pO];refine de (λhem=>?_) (λgS=>?_)
 ·unfold dV.j1;rw[gU];have:l=[]:=ym.1 hem;subst this;exact hK _ w (by simp[GC]) h
 ·unfold dV.j1;rw[cf];have e1:((((⟨#[0]⟩:BA).size:Nat):Int)==1)=true:=by decide
  rw[e1,gU];refine⟨0,⟨by decide,rfl⟩,?_⟩;have e2:decide (((0:UInt8).toNat:Int)<128)=true:=by decide
  dsimp only;rw[e2];unfold dV.j3;rw[gU];refine jL h λw h=>?_;refine⟨0,⟨by decide,rfl⟩,?_⟩;refine⟨0,⟨by decide,rfl⟩,?_⟩;refine Am hl λm hm hz Df=>?_;simp only[nz,adO,adP];refine B5 (by rw[adV];omega) λq hq hz2 ud=>?_;simp only[nz,adO,adP];refine hK _ w ?_ h;have aZ:(l.take m).length=m:=by rw[adV];omega
  rw[GC,ym]
  constructor
  ·intro hd;have hqm:q=m:=by have:=congrArg List.length hd;rw[ad2,ael] at this;omega
   subst hqm;rcases Df with h0|⟨h1,h2⟩
   ·subst h0;exact List.eq_replicate_iff.2 ⟨rfl,λx hx=>by
     obtain⟨j,hj,rfl⟩:=List.mem_iff_getElem.1 hx
     exact hz j hj (ad0 _)⟩
   ·exfalso;have hq0:0<q:=by
     rcases Nat.eq_zero_or_pos q with h0|h0
     ·subst h0;exact absurd (hz _ h1 (by omega)) h2
     ·exact h0
    have:=hz2 (q-1) (by omega) (by omega);rw[List.getElem_take] at this;exact h2 this
  ·intro fH;have hz0:∀j(hj:j<l.length),l[j]=0:=λj hj=>(List.eq_replicate_iff.1 fH).2 _ (aee hj);rcases ud with h0|⟨h1,h2⟩
   ·rw[aex (by omega)]
   ·exfalso;rw[List.getElem_take] at h2;exact h2 (hz0 q _)
def pr(l:List UInt8):Bool:=decide (4<=l.length)&&(rq (oY 0 (l.take (l.length-4)))==l.drop (l.length-4))
def IS{l:List UInt8}{K:VK}(h:St W w L)(hl:l.length<1099511627776)(hK:∀w',St W w' L->K (.bool (pr l)) w'):pK (bs l) K w:=by
 unfold pK;refine jL h λw h=>?_;have ew:adN.wrap (((bs l).size:Int) -4)=(l.length:Int) -4:=by rw[bJ,aw (by omega)]
 rw[ew];refine de (λh0=>?_) (λh0=>?_)
 ·have e1:((l.length:Int) -4).toNat=l.length-4:=by omega
  unfold jd;dsimp only;refine⟨⟨h0,by rw[bJ];omega⟩,?_⟩;refine⟨⟨h0,by rw[bJ];omega⟩,?_⟩;rw[e1,kQ,kP];refine G4 (by rw[bJ,adV];omega) ?_;simp only[nz,adO,adP];refine um h (yy _) λw h=>?_;simp only[nz,adO,adP];have e2:oZ (bs (rq (oY 0 (bs (l.take (l.length-4))).data.toList))) (bs (l.drop (l.length-4)))=pr l:=by
   rw[pO];unfold pr;rw[decide_eq_true (by omega:4<=l.length),aeS];show decide (bs (rq (oY 0 (l.take (l.length-4))))=bs (l.drop (l.length-4)))=_;by_cases hh:rq (oY 0 (l.take (l.length-4)))=l.drop (l.length-4)
   ·rw[decide_eq_true (ym.2 hh),hh,beq_self_eq_true]
   ·rw[decide_eq_false (λh=>hh (ym.1 h))]
    symm;simp[hh]
  rw[e2];exact hK w h
 ·have e2:pr l=false:=by unfold pr;rw[decide_eq_false (by omega: ¬4<=l.length)];rfl
  rw[<-e2];exact hK w h
def EO{r:Nat}{l:List UInt8}{n:Nat}{K:VK}(h:St W w L)(hk:L[k]?=some (zm r (bs l) false))(h1:1<=n)(h8:n<=8)(hn:n<=l.length)
 (hK:∀w',St W w' (L.set k (zm r (bs (l.drop n)) false))->K (.i (jS (l.take n))) w'):aq (some ⟨r,0,none⟩) n K w:=by
 refine xo h hk ?_;have em:min2 (max2 (n:Int) 1) 8=n:=by unfold min2 max2;split<;>split<;>omega
 rw[em];have et:nX (bs l) false n=false:=by unfold nX;rw[bJ,decide_eq_false (by omega)];rfl
 unfold zn tT;rw[et,adR,kQ,kP];exact hK
def IL{r:Nat}{l:List UInt8}{n:Nat}{K:VK}(h:St W w L)(hk:L[k]?=some (zm r (bs l) false))(hn:n<=l.length)
 (hK:∀w',St W w' (L.set k (zm r (bs (l.drop n)) false))->K (.string (bs (l.take n))) w'):cE (some ⟨r,0,none⟩) n K w:=by
 refine BW h hk ?_;have et:nX (bs l) false n=false:=by unfold nX;rw[bJ,decide_eq_false (by omega)];rfl
 unfold zn tT;rw[et,adR,kQ,kP];exact hK
end
def ke{l:List UInt8}(h:l.length<=7):jS l=(ka l:Int):=by
 have h1:=oI l;have h2:256^l.length<=256^7:=aeH (by decide) h;have h3:(256:Nat)^7=72057594037927936:=rfl;unfold jS;rw[aw (by omega)]
def sN(l:List UInt8):Int:=jS (l.take 8)
def sI(l:List UInt8):Int:=jS ((l.drop 8).take 2)
def sM(l:List UInt8):Nat:=ka (((l.drop 8).drop 2).take 2)
def je(l:List UInt8):List UInt8:=((l.drop 8).drop 2).drop 2
def sD(l:List UInt8):List UInt8:=(je l).take (sM l)
def sZ(l:List UInt8):List UInt8:=((je l).drop (sM l)).take (104-sM l)
def yE(l:List UInt8):Int:=jS (((((je l).drop (sM l)).drop (104-sM l)).drop 4).take 8)
def iH(l:List UInt8):Option (Int×Int×BA):=
 if ¬l.length=128 then none
 else if pr (l.take 120)=false then none
 else if 104<sM l then none
 else if ¬yE l=sN l then none
 else if ¬sZ l=ad6 (sZ l).length 0 then none
 else if ¬Good (sN l) (sI l) (bs (sD l)) then none
 else some (sN l,sI l,bs (sD l))
def pG:Option (Int×Int×BA)->Value
 |none=>.tuple ⟨[.agg ⟨[.i 0,.i 0,.string .empty]⟩,.bool false]⟩
 |some (n,i,d)=>.tuple ⟨[.agg ⟨[.i n,.i i,.string d]⟩,.bool true]⟩
section
variable {W w:World} {L:LH}
def yt{l:List UInt8}{K:VK}(h:St W w L)(hl:l.length<1099511627776)(hK:∀w',St W w' L->K (pG (iH l)) w'):iB (bs l) K w:=by
 unfold iH at hK;unfold iB;refine fI h λr1 w hs=>?_;rw[bJ];have SW:(∀w',St W w' L->K (pG none) w')->∀w,St W w (pt r1 [.i 0,.i 0,.string .empty]::L)->iB.j1 K r1 (bs l) true w:=λhK w hs=>by
  unfold iB.j1;simp only[nz,adO,adP];refine gv (k:=0) hs rfl (adX rfl) (by simp[Value.oneCell']) λw hs=>?_;rw[eO (by simp)] at hs;refine fX (k:=0) (xs:=[.i 0,.i 0,.string .empty]) hs rfl rfl (λj v hj=>by rw[adU];exact hj) ?_;exact hK w hs.drop
 refine qv (λgS=>?_) (λhe=>?_)
 ·rw[if_pos (by omega)] at hK;exact SW hK w hs
 have Ib:l.length=128:=by omega
 rw[if_neg (by omega)] at hK;unfold jd;dsimp only;refine⟨⟨by omega,by rw[bJ];omega⟩,?_⟩;rw[show(120:Int).toNat=120 from rfl,kQ];refine IS hs (by rw[adV];omega) λw hs=>?_;simp only[nz,adO,adP];cases hh:pr (l.take 120) with
 |false=>
  rw[if_pos hh] at hK;exact SW hK w hs
 |true=>
 rw[if_neg (by rw[hh];exact afj)] at hK;unfold iB.j1;simp only[nz,adO,adP];refine oq hs λq w hs=>?_;simp only[nz,adO,adP];refine EO (k:=0) (n:=8) hs rfl (by decide) (by decide) (by omega) λw hs=>?_;simp only[nz,adO,adP] at hs⊢;have l8:(l.drop 8).length=120:=by rw[ad2];omega
 refine EO (k:=0) (n:=2) hs rfl (by decide) (by decide) (by omega) λw hs=>?_;simp only[nz,adO,adP] at hs⊢;have l10:((l.drop 8).drop 2).length=118:=by rw[ad2];omega
 refine fI hs λr2 w hs=>?_;refine⟨by simp,?_⟩;refine gv (k:=0) hs rfl (adX rfl) (by simp[Value.oneCell']) λw hs=>?_;rw[eO (by simp)] at hs;simp only[nz,adO,adP] at hs;refine EO (k:=1) (n:=2) hs rfl (by decide) (by decide) (by omega) λw hs=>?_;simp only[nz,adO,adP] at hs⊢;have em:jS (((l.drop 8).drop 2).take 2)=(sM l:Int):=ke (by rw[adV];omega);have en:jS (l.take 8)=sN l:=rfl;have ei:jS ((l.drop 8).take 2)=sI l:=rfl;have er:((l.drop 8).drop 2).drop 2=je l:=rfl;have lr:(je l).length=116:=by unfold je;rw[ad2];omega
 rw[em];rw[en,ei,er] at hs;have JY:(∀w',St W w' L->K (pG none) w')->∀w A B,St W w (A::B::pt r1 [.i 0,.i 0,.string .empty]::L)->a8 True (a8 True (ga ⟨r1,0,none⟩ [.i 0,.i 0,.string .empty] (ah ⟨r1,0,none⟩ 3 λcs=>K (.tuple ⟨[.agg ⟨cs⟩,.bool false]⟩)))) w:=λhK w A B hs=>by
  refine⟨trivial,trivial,?_⟩;refine gv (k:=2) hs rfl (adX rfl) (by simp[Value.oneCell']) λw hs=>?_;rw[eO (by simp)] at hs;refine fX (k:=2) (xs:=[.i 0,.i 0,.string .empty]) hs rfl rfl (λj v hj=>by rw[adU];exact hj) ?_;exact hK w hs.drop.drop.drop
 refine pA (λJS=>?_) (λhle=>?_)
 ·have JS:=of_decide_eq_true JS;rw[if_pos (by omega)] at hK;exact JY hK w _ _ hs
 have hle:=of_decide_eq_false hle;rw[if_neg (by omega)] at hK;refine IL (k:=1) (n:=sM l) hs rfl (by omega) λw hs=>?_;simp only[nz,adO,adP] at hs⊢;have ed:(je l).take (sM l)=sD l:=rfl;rw[ed];refine lR (k:=0) hs rfl (adX rfl) rfl λw hs=>?_;simp only[nz,adO,adP] at hs;have ew:adN.wrap (104-(sM l:Int))=((104-sM l:Nat):Int):=by rw[aw (by omega)];omega
 rw[ew];have lrm:((je l).drop (sM l)).length=116-sM l:=by rw[ad2,lr]
 refine IL (k:=1) (n:=104-sM l) hs rfl (by omega) λw hs=>?_;simp only[nz,adO,adP] at hs⊢;have ez:((je l).drop (sM l)).take (104-sM l)=sZ l:=rfl;rw[ez];have lrz:(((je l).drop (sM l)).drop (104-sM l)).length=12:=by rw[ad2,lrm];omega
 refine IL (k:=1) (n:=4) hs rfl (by omega) λw hs=>?_;simp only[nz,adO,adP] at hs⊢;have lrc:((((je l).drop (sM l)).drop (104-sM l)).drop 4).length=8:=by rw[ad2,lrz]
 refine jL hs λw hs=>?_;refine bG (k:=0) hs rfl rfl ?_;simp only[nz,adO,adP];refine EO (k:=1) (n:=8) hs rfl (by decide) (by decide) (by omega) λw hs=>?_;simp only[nz,adO,adP] at hs⊢;refine gw (k:=0) hs rfl rfl ?_;have et:jS (((((je l).drop (sM l)).drop (104-sM l)).drop 4).take 8)=yE l:=rfl;rw[et];refine qv (λgS=>?_) (λheq=>?_)
 ·rw[if_pos gS] at hK;exact JY hK w _ _ hs
 rw[if_neg (λhh=>hh heq)] at hK;refine LU hs (by unfold sZ;rw[adV];omega) λs5 w hr hs=>?_;simp only[nz,adO,adP];refine gw (k:=0) hs rfl rfl ?_;have aaN:(⟨#[]⟩:BA)=.empty:=rfl;rw[pO,aaN];by_cases hz:sZ l=ad6 (sZ l).length 0
 ·rw[if_neg (λhh=>hh hz)] at hK;rw[decide_eq_true (hr.2 hz)];simp only[nz,adO,adP];refine fX (k:=0) (xs:=[.i (sN l),.i (sI l),.string (bs (sD l))]) hs rfl rfl (λj v hj=>by rw[adU];exact hj) ?_;refine Dq hs λw hs=>?_;simp only[nz,adO,adP];refine gw (k:=0) hs rfl rfl ?_;by_cases hg:Good (sN l) (sI l) (bs (sD l))
  ·rw[if_neg (λhh=>hh hg)] at hK;rw[decide_eq_true hg];simp only[nz,adO,adP];refine fX (k:=0) (xs:=[.i (sN l),.i (sI l),.string (bs (sD l))]) hs rfl rfl (λj v hj=>by rw[adU];exact hj) ?_;refine⟨rfl,?_⟩;refine gv (k:=2) hs rfl (adX rfl) (by simp[Value.oneCell']) λw hs=>?_;rw[eO (by simp)] at hs;simp only[nz,adO,adP] at hs;refine fX (k:=2) (xs:=[.i (sN l),.i (sI l),.string (bs (sD l))]) hs rfl rfl (λj v hj=>by rw[adU];exact hj) ?_;exact hK w hs.drop.drop.drop
  ·rw[if_pos hg] at hK;rw[decide_eq_false hg];simp only[nz,adO,adP];exact(JY hK w _ _ hs).2.2
 ·rw[if_pos hz] at hK;rw[decide_eq_false (λhh=>hz (hr.1 hh))];simp only[nz,adO,adP];exact(JY hK w _ _ hs).2.2
end
def jt(D:ay)(at' number:Int)(size:Nat):Nat->Nat->Option (List UInt8)
 |_,0=>some []
 |i,n+1=>match iH (D.read (at'+i)).1.data.toList with
  |none=>none
  |some (m,j,d)=>if m=number/\j=i/\d.size=min (size-104* i) 104 then(jt D at' number size (i+1) n).map (d.data.toList++·) else none
def take(D:ay)(at' to number size:Int):Option (List UInt8):=
 if at'<0\/(D.safe.length:Int)<to\/to<at'\/size<0\/425984<size\/to-at'<(dN size.toNat:Int) then none else jt D at' number size.toNat 0 (dN size.toNat)
def oL:Option (List UInt8)->Value
 |none=>.tuple ⟨[.string .empty,.bool false]⟩
 |some l=>.tuple ⟨[.string (bs l),.bool true]⟩
def kV(D:ay)(at' number:Int)(size i n:Nat):jt D at' number size i (n+1)=match iH (D.read (at'+i)).1.data.toList with
 |none=>none
 |some (m,j,d)=>if m=number/\j=i/\d.size=min (size-104* i) 104 then(jt D at' number size (i+1) n).map (d.data.toList++·) else none:=rfl
def K3{B b:Nat}{l:List UInt8}{w w':World}(h:Sy B b l w)(hb:Below w.heap.size w w'):Sy B b l w':=by
 have key:∀p,Go.Lib.BuilderAt Sf Tu B b p (Go.Lib.byteCells l) w->Go.Lib.BuilderAt Sf Tu B b p (Go.Lib.byteCells l) w':=by
  intro p h;have aZ:=h.lt;obtain⟨hB,v,yd,Xv,gS⟩:=h;refine⟨hB,v,by rw[hb.block b aZ];exact yd,?_,gS⟩;refine⟨Xv.1,?_⟩;rcases Xv.2 with h0|⟨g,cap,cur,h1,h2,h3,h4⟩
  ·exact .inl h0
  ·refine .inr ⟨g,cap,cur,h1,h2,?_,h4⟩;have hg:g<w.heap.size:=(Array.getElem?_eq_some_iff.1 h3).1;rw[hb.block g hg];exact h3
 rcases h with h|h
 ·exact .inl (key _ h)
 ·exact .inr (key _ h)
def QU{w:World}:Sy w.heap.size w.heap.size [] (w.alloc (.cells ⟨[.p none,.l none 0 0]⟩ Sf)):=by
 refine .inl ⟨adW _,.l none 0 0,?_,?_,by intro h;cases h⟩
 ·show(w.heap.push _)[w.heap.size]?=_;rw[Array.getElem?_push_size]
 ·exact⟨rfl,.inl ⟨rfl,rfl⟩⟩
section
variable {W w:World} {L:LH} {k d:Nat} {D:ay}
def EG{at' number:Int}{size:Nat}{b:Bool}{K:VK}(h:St W w L)(hk:L[k]?=some (dL d D))(ft:D.Ok)(ye:b=false->0<=at'/\at'+(dN size:Int)<=D.safe.length)(nY:size<=425984)
 (hK:∀w',St W w' L->K (oL (if b then none else jt D at' number size 0 (dN size))) w'):fh.j1 K size (some ⟨d,0,none⟩) at' number b w:=by
 have rT:=ft.lh;unfold fh.j1;refine pA (λhb=>?_) (λhb=>?_)
 ·rw[if_pos hb] at hK;exact hK w h
 rw[if_neg (by rw[hb];exact afj)] at hK;obtain⟨h0,Pp⟩:=ye hb;generalize L6:w=w0 at *;show W9 Sf [.p none,.l none 0 0] _ w0;unfold W9;have hB0:=QU (w:=w0);have SR:Below w0.heap.size w0 (w0.alloc (.cells ⟨[.p none,.l none 0 0]⟩ Sf)):=Below.alloc (Below.refl _ _) (adW _) _;generalize Ue:w0.alloc (.cells ⟨[.p none,.l none 0 0]⟩ Sf)=w1 at *;generalize hq:w0.heap.size=q at *;refine ni (by omega) ?_;simp only[nz,adO,adP];refine⟨λus w'=>∃(j:Nat)(l:List UInt8),us=[.string .empty,.bool false,.p (some ⟨q,0,none⟩),.i (dN size),.i j]/\j<=dN size/\l.length<=104* j/\Sy q q l w'/\Below q w0 w'/\q<=w'.heap.size/\
    jt D at' number size 0 (dN size)=(jt D at' number size j (dN size-j)).map (l++·),
  λus _=>match us with|[_,_,_,_,.int _ j]=>dN size-j.toNat|_=>0,⟨0,[],rfl,ad0 _,adW _,hB0,SR,?_,?_⟩,?_⟩
 ·have:=SR.size;omega
 ·cases jt D at' number size 0 (dN size)<;>simp
 rintro s1 b2 a1 n6 n7 w2 ⟨j,l,he,hj,De,hB,UK,ZI,oz⟩;cases he
 have hs:St W w2 L:=h.ph (by rw[hq];exact UK);have Pz:dN size<=4096:=by unfold dN;split<;>omega
 refine de (λaZ=>?_) (λgj=>?_)
 ·have ea:adN.wrap (at'+(j:Int))=at'+j:=aw (by omega);rw[ea];refine nU hs hk ft ?_;simp only[nz,adO,adP];have adw:=uA ft (i:=at'+j) ⟨by omega,by omega⟩;obtain⟨p,hp⟩:∃p,dN size-j=p+1:=⟨dN size-j-1,by omega⟩;rw[hp,kV] at oz;generalize hx:(D.read (at'+(j:Int))).1=x at *;rw[show x=bs x.data.toList from rfl];refine yt (St.start w2) (by rw[cy];omega) λw3 qF=>?_;have UM:=qF.below;have N4:Below q w0 w3:=UK.trans (UM.mono ZI);have cT:St W w3 L:=h.ph (by rw[hq];exact N4);have no:jt D at' number size 0 (dN size)=none->∀w',Below q w0 w'->K (.tuple ⟨[.string .empty,.bool false]⟩) w':=λhn w' hb=>by
   have:=hK w' (h.ph (by rw[hq];exact hb));rw[hn] at this;exact this
  cases hv:iH x.data.toList with
  |none=>
   rw[hv] at oz;unfold pG;simp only[nz,adO,adP];simp only[td,ad8,ael,adU,adO,true_and];simp only[nz,adO,adP];refine fI (St.start w3) λr w4 tw=>?_;refine⟨trivial,gv (k:=0) tw rfl (adX rfl) (by simp[Value.oneCell']) λw4 tw=>?_⟩;exact no (by rw[oz];rfl) w4 (N4.trans (tw.below.mono (by have:=UM.size;omega)))
  |some y=>
   obtain⟨m,i,dd⟩:=y;rw[hv] at oz;dsimp only at oz;unfold pG;simp only[nz,adO,adP];simp only[td,ad8,ael,adU,adO,true_and];simp only[nz,adO,adP];refine fI (St.start w3) λr w4 tw=>?_;refine⟨trivial,gv (k:=0) tw rfl (adX rfl) (by simp[Value.oneCell']) λw4 tw=>?_⟩;rw[eO (by simp)] at tw;simp only[nz,adO,adP] at tw;have Dl:Below q w0 w4:=N4.trans (tw.below.mono (by have:=UM.size;omega));refine bG (k:=0) tw rfl rfl ?_;simp only[nz,adO,adP];refine qv (λgS=>?_) (λhmn=>?_)
   ·exact no (by rw[oz,if_neg (λhh=>gS hh.1)];rfl) w4 Dl
   refine bG (k:=0) tw rfl rfl ?_;simp only[nz,adO,adP];refine qv (λgS=>?_) (λHj=>?_)
   ·exact no (by rw[oz,if_neg (λhh=>gS hh.2.1)];rfl) w4 Dl
   refine bG (k:=0) tw rfl rfl ?_;simp only[nz,adO,adP];have e1:adN.wrap ((j:Int)* 104)=(j:Int)* 104:=aw (by omega);have e2:adN.wrap ((size:Int) -(j:Int)* 104)=(size:Int) -(j:Int)* 104:=aw (by omega);have Q3:104* j<=size:=by
    rcases Nat.eq_zero_or_pos j with h0|h0
    ·omega
    ·have:=(Iw (n:=size) h0).2 (by omega);omega
   have e3:min2 ((size:Int) -(j:Int)* 104) 104=((min (size-104* j) 104:Nat):Int):=by unfold min2;split<;>omega
   rw[e1,e2,e3];refine qv (λgS=>?_) (λhds=>?_)
   ·exact no (by rw[oz,if_neg (λhh=>gS (by rw[hh.2.2]))];rfl) w4 Dl
   have aaO:dd.size=min (size-104* j) 104:=by omega
   refine bG (k:=0) tw rfl rfl ?_;simp only[nz,adO,adP];rw[if_pos ⟨hmn,Hj,aaO⟩] at oz;have hB4:Sy q q l w4:=K3 hB (UM.trans (tw.below.mono UM.size));refine⟨q,q,l,rfl,hB4,by omega,(by have:=Dl.size;omega),λw5 hB5 SQ=>?_⟩;simp only[nz,adO,adP];have e5:=l9 j;rw[e5];have Ga:dN size-(j+1)=p:=by omega
   refine⟨⟨j+1,_,rfl,by omega,?_,hB5,Dl.trans SQ,?_,?_⟩,by omega⟩
   ·rw[adT,cy];omega
   ·have:=SQ.size;have:=Dl.size;omega
   ·rw[oz,Ga];cases jt D at' number size (j+1) p<;>simp[adZ]
 ·have hje:j=dN size:=by omega
  refine⟨q,q,l,rfl,hB,ZI,λw' hb=>?_⟩;simp only[nz,adO,adP];have:=hK w' (h.ph (by rw[hq];exact UK.trans hb));rw[oz,hje,ae8] at this;simp only[jt,aeB,aeb,oL] at this;exact this
def DE{at' to number size:Int}{K:VK}(h:St W w L)(hk:L[k]?=some (dL d D))(ft:D.Ok)(hK:∀w',St W w' L->K (oL (take D at' to number size)) w'):fh (some ⟨d,0,none⟩) at' to number size K w:=by
 have rT:=ft.lh;have bad:(at'<0\/(D.safe.length:Int)<to\/to<at'\/size<0\/425984<size\/to-at'<(dN size.toNat:Int))->fh.j1 K size (some ⟨d,0,none⟩) at' number true w:=λhb=>by
  unfold fh.j1;rw[gU];have:=hK w h;unfold take at this;rw[if_pos hb] at this;exact this
 unfold fh;refine de (λh1=>bad (.inl h1)) (λh1=>?_);refine j0 h hk ?_;simp only[nz,adO,adP];refine de (λh2=>bad (.inr (.inl h2))) (λh2=>?_);refine de (λh3=>bad (.inr (.inr (.inl h3)))) (λh3=>?_);refine de (λh4=>bad (.inr (.inr (.inr (.inl h4))))) (λh4=>?_);refine pA (λh5=>bad (.inr (.inr (.inr (.inr (.inl (of_decide_eq_true h5))))))) (λh5=>?_);have h5:=of_decide_eq_false h5;obtain⟨m,rfl⟩:=ad1 (show 0<=size by omega);refine ni (by omega) ?_;simp only[nz,adO,adP];have ew:adN.wrap (to-at')=to-at':=aw (by omega);rw[ew];refine EG h hk ft (λhb=>?_) (by omega) λw' hs=>?_
 ·have:=of_decide_eq_false hb;omega
 ·have:=hK w' hs;unfold take at this;rw[adR] at this;by_cases h6:to-at'<(dN m:Int)
  ·rw[if_pos (by omega)] at this;have e:decide ((dN m:Int)>to-at')=true:=decide_eq_true (by omega);rw[e,if_pos rfl];exact this
  ·rw[if_neg (by omega)] at this;have e:decide ((dN m:Int)>to-at')=false:=decide_eq_false (by omega);rw[e,if_neg afj];exact this
end
def JD{at' number:Int}{s:BA}(mj:1<=number/\number<=1152921504606846976)(ye:0<=at'):∀(n i:Nat) {D:ay},D.arm=0->at'+i+n<=D.safe.length->i+n<=4096->
 (lA at' number s D i n).2=0/\(lA at' number s D i n).1.arm=0/\(lA at' number s D i n).1.safe=D.safe/\(lA at' number s D i n).1.later.length=D.later.length+n/\
 ∀j:Int,(j<at'+i\/at'+i+n<=j)->(lA at' number s D i n).1.now j=D.now j
 |0,i,D,ha,hr,hi=>⟨rfl,ha,rfl,rfl,λ_ _=>rfl⟩
 |n+1,i,D,ha,hr,hi=>by
  have hg:Good number i (part s i):=⟨mj.1,mj.2,by omega,by omega,jC s i⟩;have nY:=pS hg;have hi:D.is (at'+i):=⟨by omega,by omega⟩;have uX: ¬(¬D.is (at'+i)\/128<(leaf number i (part s i)).size):=by
   rintro(hh|hh)
   ·exact hh hi
   ·omega
  have hw:D.write (at'+i) (leaf number i (part s i))=({Go.bu.ay.tick D with later:=D.later++[(at'+i,ay.pad (leaf number i (part s i)))]},0):=by
   rw[Dk.DH ha,if_neg uX]
  have hn:=λj=>Dk.A5 ha (at'+i) j (leaf number i (part s i));unfold lA;have h0:(D.write (at'+i) (leaf number i (part s i))).2=0:=by rw[hw]
  rw[if_neg (by rw[h0];exact λhh=>hh rfl)];have hlen:(D.write (at'+i) (leaf number i (part s i))).1.later.length=D.later.length+1:=by rw[hw];simp
  have o8:=(og D (at'+i) (leaf number i (part s i))).1;have Q':=Dk.Af ha (at'+i) (leaf number i (part s i));have ih:=JD mj ye (s:=s) n (i+1) (D:=(D.write (at'+i) (leaf number i (part s i))).1) Q' (by rw[o8];omega) (by omega);refine⟨ih.1,ih.2.1,ih.2.2.1.trans o8,by rw[ih.2.2.2.1,hlen];omega,λj hj=>?_⟩;rw[ih.2.2.2.2 j (by omega),hn j,if_neg (λhh=>by have:=hh.2;omega)]
section
variable {W w:World} {L:LH}
end
def IC(m i:Nat)(hi:i<8):(byteOf .i64 (m:Int) i).toNat=m/256^i%256:=by
 have hp:(256:Nat)^i=2^(8* i):=by rw[show(256:Nat)=2^8 from rfl,<-Nat.pow_mul]
 have e1:shr .i64 (m:Int) (8* (i:Int))=((m/256^i:Nat):Int):=by
  unfold shr;have h1:(8* (i:Int)).toNat=8* i:=by omega
  have h2:min (8* i) adN.bits=8* i:=by show min (8* i) 64=_;omega
  rw[h1,h2,hp,Int.fdiv_eq_ediv_of_nonneg _ (Int.le_of_lt (Int.pow_pos (by decide)))]
  push_cast
  rfl
 have e2:IntKind.u8.wrap ((m/256^i:Nat):Int)=((m/256^i%256:Nat):Int):=by
  generalize m/256^i=z;simp[IntKind.wrap,IntKind.bits,IntKind.signed]
 unfold byteOf;rw[e1,e2,adR,UInt8.toNat_ofNat_of_lt' (Nat.mod_lt _ (by decide))]
def le_succ(k:IntKind)(w:Nat)(n:Int):le k (w+1) n=le k w n++[byteOf k n w]:=by
 unfold le;rw[List.range_succ,aen];rfl
def nD(m:Nat):∀w,w<=8->ka (le .i64 w (m:Int))=m%256^w
 |0,_=>by simp[le,ka,Nat.mod_one]
 |w+1,h=>by
  rw[le_succ,oV,nD m w (by omega),IC m w (by omega),az,Nat.mod_pow_succ,afo]
def lv{n:Int}(h:0<=n/\n<=1152921504606846976):jS (le .i64 8 n)=n:=by
 obtain⟨m,rfl⟩:=ad1 h.1;unfold jS;rw[nD m 8 (by omega)];have h8:(256:Nat)^8=18446744073709551616:=rfl;rw[h8,aez (by omega),aw (by omega)]
def E5{m:Nat}(h:m<65536):ka (le .i64 2 (m:Int))=m:=by
 rw[nD m 2 (by omega)];exact aez h
def kZ{n i:Int}{s:BA}(h:Good n i s):iH (iU n i s)=some (n,i,s):=by
 obtain⟨h1,h2,h3,h4,h5⟩:=h;have hl:(iU n i s).length=128:=sH h5;have Mb:(pre n i s).length=116:=m8 h5;have hd:s.data.toList.length=s.size:=rfl;have hc:(rq (oY 0 (pre n i s))).length=4:=az _ _ _;have sR:iU n i s=le .i64 8 n++(le .i64 2 i++(le .i64 2 s.size++(s.data.toList++(ad6 (104-s.size) 0++(rq (oY 0 (pre n i s))++le .i64 8 n))))):=by
  simp only[iU,pre,adZ]
 have t120:(iU n i s).take 120=pre n i s++rq (oY 0 (pre n i s)):=by
  unfold iU;rw[List.take_append_of_le_length (by rw[adT,Mb,hc];omega),ad9 (by rw[adT,Mb,hc];omega)]
 have hh:pr ((iU n i s).take 120)=true:=by
  rw[t120];unfold pr;have hlen:(pre n i s++rq (oY 0 (pre n i s))).length=120:=by rw[adT,Mb,hc]
  rw[hlen,show 120-4=(pre n i s).length from by rw[Mb],List.take_left,List.drop_left,beq_self_eq_true]
  rfl
 have tl:∀(a b:List UInt8)(m:Nat),a.length=m->(a++b).take m=a:=λa b m hm=>by subst hm;exact List.take_left
 have dl:∀(a b:List UInt8)(m:Nat),a.length=m->(a++b).drop m=b:=λa b m hm=>by subst hm;exact List.drop_left
 have d8:(iU n i s).drop 8=le .i64 2 i++(le .i64 2 s.size++(s.data.toList++(ad6 (104-s.size) 0++(rq (oY 0 (pre n i s))++le .i64 8 n)))):=by rw[sR,dl _ _ _ (az _ _ _)]
 have d10:((iU n i s).drop 8).drop 2=le .i64 2 s.size++(s.data.toList++(ad6 (104-s.size) 0++(rq (oY 0 (pre n i s))++le .i64 8 n))):=by rw[d8,dl _ _ _ (az _ _ _)]
 have hr:je (iU n i s)=s.data.toList++(ad6 (104-s.size) 0++(rq (oY 0 (pre n i s))++le .i64 8 n)):=by unfold je;rw[d10,dl _ _ _ (az _ _ _)]
 have eN:sN (iU n i s)=n:=by unfold sN;rw[sR,tl _ _ _ (az _ _ _),lv ⟨by omega,h2⟩]
 have eI:sI (iU n i s)=i:=by
  unfold sI;rw[d8,tl _ _ _ (az _ _ _),ke (by rw[az];omega)];obtain⟨m,rfl⟩:=ad1 h3;rw[E5 (by omega)]
 have eM:sM (iU n i s)=s.size:=by
  unfold sM;rw[d10,tl _ _ _ (az _ _ _),E5 (by omega)]
 have eD:sD (iU n i s)=s.data.toList:=by unfold sD;rw[eM,hr,tl _ _ _ hd]
 have dr:(je (iU n i s)).drop s.size=ad6 (104-s.size) 0++(rq (oY 0 (pre n i s))++le .i64 8 n):=by rw[hr,dl _ _ _ hd]
 have eZ:sZ (iU n i s)=ad6 (104-s.size) 0:=by unfold sZ;rw[eM,dr,tl _ _ _ (by simp)]
 have eT:yE (iU n i s)=n:=by
  unfold yE;rw[eM,dr,dl _ _ _ (by simp),dl _ _ _ hc,ad9 (by rw[az];omega),lv ⟨by omega,h2⟩]
 have hg:Good (sN (iU n i s)) (sI (iU n i s)) (bs (sD (iU n i s))):=by
  rw[eN,eI,eD,J3];exact⟨h1,h2,h3,h4,h5⟩
 unfold iH;rw[if_neg (λhx=>hx hl),if_neg (by rw[hh];exact afj),if_neg (by rw[eM];omega),if_neg (λhx=>hx (by rw[eT,eN])),if_neg (λhx=>hx (by rw[eZ];simp)),if_neg (λhx=>hx hg),eN,eI,eD,J3]
def tS:iH (jH 128).data.toList=none:=by decide+kernel
def Ju{s:BA}(h:s.size=128):ay.pad s=s:=by
 unfold ay.pad;rw[h];apply gM;rw[ByteArray.data_append,Array.toList_append];simp[jH]
def JC{at' number:Int}{s:BA}(mj:1<=number/\number<=1152921504606846976)(ye:0<=at'):∀(n i:Nat) {D:ay},D.arm=0->at'+i+n<=D.safe.length->i+n<=4096->
 ∀q,i<=q->q<i+n->(lA at' number s D i n).1.now (at'+q)=leaf number q (part s q)
 |0,i,D,ha,hr,hi,q,h1,h2=>by omega
 |n+1,i,D,ha,hr,hi,q,h1,h2=>by
  have hg:Good number i (part s i):=⟨mj.1,mj.2,by omega,by omega,jC s i⟩;have nY:=pS hg;have qC:D.is (at'+i):=⟨by omega,by omega⟩;have uX: ¬(¬D.is (at'+i)\/128<(leaf number i (part s i)).size):=by
   rintro(hh|hh)
   ·exact hh qC
   ·omega
  have hw:D.write (at'+i) (leaf number i (part s i))=({Go.bu.ay.tick D with later:=D.later++[(at'+i,ay.pad (leaf number i (part s i)))]},0):=by
   rw[Dk.DH ha,if_neg uX]
  have h0:(D.write (at'+i) (leaf number i (part s i))).2=0:=by rw[hw]
  have o8:=(og D (at'+i) (leaf number i (part s i))).1;have Q':=Dk.Af ha (at'+i) (leaf number i (part s i));unfold lA;rw[if_neg (by rw[h0];exact λhh=>hh rfl)];by_cases hq:q=i
  ·subst hq;have:=(JD mj ye (s:=s) n (q+1) (D:=(D.write (at'+q) (leaf number q (part s q))).1) Q' (by rw[o8];omega) (by omega)).2.2.2.2 (at'+q) (by omega);rw[this,Dk.A5 ha,if_pos ⟨⟨qC,by omega⟩,rfl⟩,Ju nY]
  ·exact JC mj ye (s:=s) n (i+1) Q' (by rw[o8];omega) (by omega) q (by omega) (by omega)
def xt{D:ay}{at' number:Int}{size:Nat}{s:BA}:∀(n i:Nat),(∀q,i<=q->q<i+n->iH (D.read (at'+q)).1.data.toList=some (number,(q:Int),part s q)/\(part s q).size=min (size-104* q) 104)->
 jt D at' number size i n=some ((s.data.toList.drop (104* i)).take (104* n))
 |0,i,_=>by simp[jt]
 |n+1,i,h=>by
  obtain⟨h1,h2⟩:=h i (adW _) (by omega);rw[kV,h1];dsimp only;rw[if_pos ⟨rfl,rfl,h2⟩,xt n (i+1) (λq hq QY=>h q (by omega) (by omega))];have e:(part s i).data.toList=(s.data.toList.drop (104* i)).take 104:=by
   unfold part;rw[extract_toList];congr 1;omega
  rw[e,aeB]
  congr 1
  rw[show 104* (n+1)=104+104* n from by omega,List.take_add,ae0,show 104* i+104=104* (i+1) from by omega]
section
variable {W w:World} {L:LH}
end
section
variable {W w:World} {L:LH}
end
end Go.Sep
namespace Go.Up
open Go.Sep Go.Den Go.RowKit Go.Prog Go.Md
def wX{α:Type}{f:α->LV}{e:Nat}(hf:∀x,(f x).length=e):∀l:List α,(l.flatMap f).length=l.length* e
 |[]=>by simp
 |x::l=>by rw[aeE,adT,hf,wX hf l,ad8,afe];omega
def nL{α:Type}{f:α->LV}{e:Nat}(hf:∀x,(f x).length=e):∀(l:List α)(i:Nat)(x:α),l[i]?=some x->∀j v,(f x)[j]?=some v->(l.flatMap f)[i* e+j]?=some v
 |[],i,x,h,j,v,hj=>by simp at h
 |y::l,0,x,h,j,v,hj=>by
  simp at h;subst h;rw[aeE,Nat.zero_mul,adU,aec (adS.1 hj).1];exact hj
 |y::l,i+1,x,h,j,v,hj=>by
  rw[aeE,aeo (by rw[hf,afe];omega),hf,show(i+1)* e+j-e=i* e+j by rw[afe];omega];exact nL hf l i x (by simpa using h) j v hj
def Bs{α:Type}{f:α->LV}{e:Nat}(hf:∀x,(f x).length=e):∀(l:List α)(i:Nat)(x:α),i<l.length->over (l.flatMap f) (i* e) (f x)=(l.set i x).flatMap f
 |[],i,x,h=>by simp at h
 |y::l,0,x,h=>by
  unfold over;rw[aeE,Nat.zero_mul,aff,aet,hf,adU,List.drop_left' (hf y)];rfl
 |y::l,i+1,x,h=>by
  have ih:=Bs hf l i x (by simpa using h);unfold over at ih⊢;rw[aeE,ae5,aeE,<-ih,hf,show(i+1)* e=(f y).length+i* e by rw[hf,afe];omega,List.take_append,ad9 (by omega),
   show(f y).length+i* e-(f y).length=i* e by omega,Nat.add_assoc,List.drop_append,aex (by omega),show(f y).length+(i* e+e) -(f y).length=i* e+e by omega]
  simp
def tV(n:Nat):(nm n).length=2:=rfl
def kA(n:Nat):∀v∈nm n,v.oneCell'=true:=λv h=>by simp[nm] at h;rcases h with rfl|rfl<;>rfl
section
variable {W:World} {L:LH} {K:VK} {a b n:Nat}
def oX{r m e:Nat}{i:Int}{K:Addr->WK}(hi:0<=i/\i<m)(h:T W L (K ⟨r,i.toNat* e,none⟩)):T W L (fO (some ⟨r,0,none⟩) m i e K):=λw hs=>
 ⟨_,rfl,hi,by rw[dW,adU];exact h w hs⟩
def Wz{α:Type}{r o e:Nat}{l:List α}{x:α}{g:α->LV}{f:LV->LH}{K:LV->WK}[i:Lc (pt r) L (l.flatMap g) f](hf:∀x,(g x).length=e)(hx:l[o]?=some x)(h:T W L (K (g x))):T W L (ah ⟨r,o* e,none⟩ e K):=λw hs=>
 let⟨_,hk,_⟩:=i.at_;fX hs hk (hf x) (nL hf l o x hx) (h w hs)
def yC:Nat->List Nat->Option Nat
 |s,[]=>some s
 |s,x::l=>if s+x<aK then yC (s+x) l else none
abbrev aad(o:Option Nat):Value:=.tuple ⟨[.agg ⟨nm (o.getD 0)⟩,.bool o.isSome]⟩
def S9{r c:Nat}{l:List Nat}{f:LV->LH}(hl:∀x∈l,x<aK)(hlen:l.length<1000)[i:Lc (pt r) L (l.flatMap nm) f](h:T W L (K (aad (yC 0 l)))):T W L (tD (some ⟨r,0,none⟩) l.length c K):=by
 unfold tD;apply ws;intros;rename_i r1 r2;intro w hs;refine⟨λvs w=>∃i s:Nat,i<=l.length/\s<aK/\yC 0 l=yC s (l.drop i)/\vs=[.p (some (ad r1 0)),.bool false,.p (some (ad r2 0)),.l (some ⟨r,0,none⟩) l.length c,.i (l.length:Int),.i (i:Int)]/\St W w (pt r2 (nm s)::pt r1 (nm 0)::L),
  λvs _=>match vs with|[_,_,_,_,_,.int _ j]=>l.length-j.toNat|_=>0,⟨0,0,ad0 _,by decide,rfl,rfl,hs⟩,?_⟩
 rintro a1 b1 a2 sm qB sw n1 n2 w2 ⟨i,s,hi,hsM,he,e,hs⟩;cases e
 refine T.at ?_ hs;refine dO (λh1=>?_) (λh1=>?_)
 ·have aZ:i<l.length:=by simpa using h1
  refine oX (by omega) ?_;rw[adR];refine Wz tV (adQ aZ) ?_;have hx:=hl _ (aee aZ);have hd:l.drop i=l[i]::l.drop (i+1):=aev aZ;rw[hd] at he;generalize l[i]=x at *;have rG:yC s (x::l.drop (i+1))=if s+x<aK then yC (s+x) (l.drop (i+1)) else none:=rfl
  rw[rG] at he
  repeat' first|apply ws;intros|apply wb|with_reducible first|refine zj hsM hx ?_|refine bB (λh1=>?_) (λh1=>?_)|fail
  ·have h2: ¬s+x<aK:=by simpa using h1
   rw[if_neg h2] at he;rw[he] at h;exact T.dp h
  ·have h2:s+x<aK:=by simpa using h1
   rw[if_pos h2] at he;rw[if_pos h2];have e5:=l9 i;rw[e5];refine T.drop λw3 h3=>⟨⟨i+1,s+x,aZ,h2,he,rfl,h3⟩,?_⟩;show l.length-((i+1:Nat):Int).toNat<l.length-(i:Int).toNat;omega
 ·have gj:i=l.length:=by omega
  subst gj;rw[aex (adW _)] at he;rw[he] at h;apply ws;intros;exact T.dp h
end
end Go.Up
namespace Go.Sep
open Go.Den Go.RowKit Go.Prog Go.bu
section
variable {W w:World} {L:LH}
end
def E6:∀(a b:List UInt8),a.length=b.length->ka a=ka b->a=b
 |[],[],_,_=>rfl
 |[],_::_,h,_=>by simp at h
 |_::_,[],h,_=>by simp at h
 |c::a,d::b,h,hv=>by
  have hc:=c.toNat_lt;have hd:=d.toNat_lt;simp only[ka] at hv;have h1:c.toNat=d.toNat:=by omega
  rw[E6 a b (by simpa using h) (by omega),UInt8.toNat_inj.1 h1]
def HJ{l:List UInt8}{n j:Int}{d:BA}(h:iH l=some (n,j,d)):l.length=128/\sM l<=104/\yE l=sN l/\n=sN l/\j=sI l/\Good (sN l) (sI l) (bs (sD l)):=by
 unfold iH at h;split at h
 ·cases h
 rename_i h1;split at h
 ·cases h
 split at h
 ·cases h
 rename_i h3;split at h
 ·cases h
 rename_i h4;split at h
 ·cases h
 split at h
 ·cases h
 rename_i h6;cases h
 exact⟨ad4.1 h1,by omega,ad4.1 h4,rfl,rfl,ad4.1 h6⟩
def M'{l:List UInt8}(h:sM l<=104)(hl:l.length=128):yE l=jS (l.drop 120):=by
 unfold yE je;rw[ae0,ae0,ae0,ae0,ae0,ad9 (by rw[ad2];omega)]
 congr 2
 omega
def FP{D:ay}:∀j i:Nat,i<j->numOf (yc (D.read (i:Int)).1)<=dv D j/\numOf (xr (D.read (i:Int)).1)<=dv D j
 |0,i,h=>by omega
 |j+1,i,h=>by
  have hm:∀a b:Int,a<=max2 a b/\b<=max2 a b:=λa b=>by unfold max2;split<;>omega
  simp only[dv];have h1:=hm (max2 (dv D j) (numOf (yc (D.read (j:Int)).1))) (numOf (xr (D.read (j:Int)).1));have h2:=hm (dv D j) (numOf (yc (D.read (j:Int)).1));by_cases Hj:i=j
  ·subst Hj;exact⟨by omega,by omega⟩
  ·have:=FP (D:=D) j i (by omega);exact⟨by omega,by omega⟩
def FQ(s:BA):0<=numOf s/\numOf s<=1152921504606846976:=by unfold numOf;split<;>omega
def uK(D:ay):∀j,0<=dv D j/\dv D j<=1152921504606846976
 |0=>by simp[dv]
 |j+1=>by
  have h1:=uK D j;have h2:=FQ (yc (D.read (j:Int)).1);have h3:=FQ (xr (D.read (j:Int)).1);simp only[dv];unfold max2;split<;>split<;>omega
def low(w:Int):Int:=bA .i64 .and w 1
def Jz(w:Int):low w=(((BitVec.ofInt 64 w).toNat%2:Nat):Int):=by
 have e2:(BitVec.ofInt 64 1).toNat=1:=rfl;show adN.wrap (((BitVec.ofInt 64 w&&&BitVec.ofInt 64 1).toNat:Nat):Int)=_;rw[BitVec.toNat_and,e2,Nat.and_one_is_mod,aw (by omega)]
def sE(w:Int):low w=0\/low w=1:=by rw[Jz];omega
def bQ(n:Nat):Nat:=(n-2)* 2/5
def cO(n:Nat):LV:=[.i 2,.i (2+bQ n:Nat),.i (bQ n:Nat),.i (2+2* bQ n:Nat),.i n]
def cM(n:Nat)(which:Int):Nat:=if low which=0 then 2 else 2+bQ n
def mr{n:Nat}(h:12<=n)(w:Int):2<=cM n w/\cM n w+bQ n<=n/\4<=bQ n:=by
 unfold cM bQ;split<;>omega
def HB{n:Nat}(w v:Int)(h:low w≠low v):cM n w+bQ n<=cM n v\/cM n v+bQ n<=cM n w:=by
 unfold cM;rcases sE w with a|a<;>rcases sE v with b|b<;>rw[a,b] at h⊢<;>simp at h⊢
def put(D:ay)(n:Nat)(which number:Int)(s:BA):ay×Int:=
 if(lay D (cM n which) ((cM n which+bQ n:Nat):Int) number s).2≠0 then lay D (cM n which) ((cM n which+bQ n:Nat):Int) number s
 else(lay D (cM n which) ((cM n which+bQ n:Nat):Int) number s).1.sync
def get(D:ay)(n:Nat)(which number size:Int):Option (List UInt8):=take D (cM n which) ((cM n which+bQ n:Nat):Int) number size
section
variable {W w:World} {L:LH} {k d:Nat} {D:ay}
def RZ{n:Nat}{K:VK}(h:St W w L)(jz:12<=n)(bD:n<=4096)(hK:∀w',St W w' L->K (.tuple ⟨[.agg ⟨cO n⟩,.i 0]⟩) w'):pF n K w:=by
 unfold pF;refine fI h λr w hs=>?_;have e1:decide ((n:Int)<12)=false:=decide_eq_false (by omega);have e2:decide ((n:Int)>4096)=false:=decide_eq_false (by omega);rw[e1,e2];unfold pF.j1;have a1:adN.wrap ((n:Int) -2)=((n-2:Nat):Int):=by rw[aw (by omega)];omega
 have a2:adN.wrap (((n-2:Nat):Int)* 2)=(((n-2)* 2:Nat):Int):=by rw[aw (by omega)];omega
 have a3:(((n-2)* 2:Nat):Int).tdiv 5=((bQ n:Nat):Int):=by rw[Int.tdiv_eq_ediv_of_nonneg (by omega)];rfl
 have hp:bQ n<=4096:=by unfold bQ;omega
 have a4:adN.wrap ((bQ n:Nat):Int)=((bQ n:Nat):Int):=aw (by omega);have a5:adN.wrap (2+((bQ n:Nat):Int))=((2+bQ n:Nat):Int):=by rw[aw (by omega)];omega
 have a6:adN.wrap (2* ((bQ n:Nat):Int))=((2* bQ n:Nat):Int):=by rw[aw (by omega)];omega
 have a7:adN.wrap (2+((2* bQ n:Nat):Int))=((2+2* bQ n:Nat):Int):=by rw[aw (by omega)];omega
 rw[a1,a2,a3,a4,a5,a6,a7];simp only[nz,adO,adP];refine⟨by decide,?_⟩;refine gv (k:=0) hs rfl (adX rfl) (by simp[Value.oneCell']) λw hs=>?_;rw[eO (by simp)] at hs;refine fX (k:=0) (xs:=cO n) hs rfl rfl (λj v hj=>by rw[adU];exact hj) ?_;exact hK w hs.drop
def Ab{n:Nat}{which:Int}{K:VK}(h:St W w L)(hK:∀w',St W w' L->K (.i (cM n which:Nat)) w'):kX (cO n) which K w:=by
 unfold kX;refine fI h λr w hs=>?_;simp only[nz,adO,adP];refine bG (k:=0) hs rfl rfl ?_;simp only[nz,adO,adP];refine bG (k:=0) hs rfl rfl ?_;simp only[nz,adO,adP];have hl:=sE which;have hh:=hK w hs.drop;unfold cM at hh;show yO _ 2 (low which) _ w;rcases hl with h0|h0
 ·rw[if_pos h0] at hh;rw[h0];refine⟨_,⟨by decide,by decide,rfl⟩,?_⟩;simp only[nz,adO,adP];exact hh
 ·rw[if_neg (by omega)] at hh;rw[h0];refine⟨_,⟨by decide,by decide,rfl⟩,?_⟩;simp only[nz,adO,adP];exact hh
def O5{n:Nat}{which number:Int}{s:BA}{K:VK}(h:St W w L)(hk:L[k]?=some (dL d D))(ft:D.Ok)(jz:12<=n)(bD:n<=4096)(hl:D.later.length+5000<1099511627776)(hs:s.size<=reachBytes)
 (hK:∀w',St W w' (L.set k (dL d (put D n which number s).1))->K (.i (put D n which number s).2) w'):mH (cO n) (some ⟨d,0,none⟩) which number s K w:=by
 have Dg:=mr jz which;unfold mH;refine fI h λr w cT=>?_;have nY:=hs;simp only[nz,adO,adP];refine jL cT λw hs=>?_;refine fX (k:=0) (xs:=cO n) hs rfl rfl (λj v hj=>by rw[adU];exact hj) ?_;refine fX (k:=0) (xs:=cO n) hs rfl rfl (λj v hj=>by rw[adU];exact hj) ?_;refine bG (k:=0) hs rfl rfl ?_;simp only[nz,adO,adP];refine Ab hs λw hs=>?_;simp only[nz,adO,adP];refine gw (k:=0) hs rfl rfl ?_;refine JE (k:=0) hs rfl (λj v hj=>by rw[adU];exact hj) ?_;refine Ab hs λw hs=>?_;simp only[nz,adO,adP];refine gw (k:=0) hs rfl rfl ?_;have ew:adN.wrap (((cM n which:Nat):Int)+((bQ n:Nat):Int))=((cM n which+bQ n:Nat):Int):=by rw[aw (by omega)];omega
 rw[ew];have ru:(pt r (cO n)::L)[k+1]?=some (dL d D):=by rw[ad7];exact hk
 refine BX (k:=k+1) hs ru ft (by omega) nY λw hs=>?_;rw[ae5] at hs;simp only[nz,adO,adP];refine gw (k:=0) hs rfl rfl ?_;unfold put at hK;have Ld:(lay D (cM n which) ((cM n which+bQ n:Nat):Int) number s).1.Ok\/(lay D (cM n which) ((cM n which+bQ n:Nat):Int) number s).2≠0:=by
  by_cases hc:dN s.size<=4097
  ·exact .inl (Eb ft (by omega)).1
  ·refine .inr ?_;unfold lay;split
   ·simp
   ·rw[if_pos (by omega)];simp
 refine qv (λgS=>?_) (λh0=>?_)
 ·rw[if_pos gS] at hK;exact hK w hs.drop
 ·rw[if_neg (λhh=>hh h0)] at hK;refine qA (k:=k+1) hs (by rw[ad7];exact fV hk) (Ld.resolve_right (λhh=>hh h0)) λw hs=>?_;rw[ae5,ae4] at hs;simp only[nz,adO,adP];exact hK w hs.drop
def Pb{n:Nat}{which number size:Int}{K:VK}(h:St W w L)(hk:L[k]?=some (dL d D))(ft:D.Ok)(jz:12<=n)(bD:n<=4096)
 (hK:∀w',St W w' L->K (oL (get D n which number size)) w'):mI (cO n) (some ⟨d,0,none⟩) which number size K w:=by
 have Dg:=mr jz which;unfold mI;refine fI h λr w cT=>?_;simp only[nz,adO,adP];refine jL cT λw hs=>?_;refine fX (k:=0) (xs:=cO n) hs rfl rfl (λj v hj=>by rw[adU];exact hj) ?_;refine fX (k:=0) (xs:=cO n) hs rfl rfl (λj v hj=>by rw[adU];exact hj) ?_;refine bG (k:=0) hs rfl rfl ?_;simp only[nz,adO,adP];refine Ab hs λw hs=>?_;simp only[nz,adO,adP];refine gw (k:=0) hs rfl rfl ?_;refine JE (k:=0) hs rfl (λj v hj=>by rw[adU];exact hj) ?_;refine Ab hs λw hs=>?_;simp only[nz,adO,adP];refine gw (k:=0) hs rfl rfl ?_;have ew:adN.wrap (((cM n which:Nat):Int)+((bQ n:Nat):Int))=((cM n which+bQ n:Nat):Int):=by rw[aw (by omega)];omega
 rw[ew];refine DE (k:=k+1) hs (by rw[ad7];exact hk) ft λw hs=>?_;unfold get at hK;cases hg:take D (cM n which) ((cM n which+bQ n:Nat):Int) number size with
 |none=>
  rw[hg] at hK;unfold oL at hK⊢;simp only[nz,adO,adP];refine gw (k:=0) hs rfl rfl ?_;exact hK w hs.drop
 |some l=>
  rw[hg] at hK;unfold oL at hK⊢;simp only[nz,adO,adP];refine gw (k:=0) hs rfl rfl ?_;exact hK w hs.drop
end
structure Calm(n:Nat)(D:ay):Prop where
 ok:D.Ok
 arm:D.arm=0
 later:D.later.length<=1000
 len:D.safe.length=n
def BH{n:Nat}(h:n<=4096):Calm n (ay.new n):=by
 refine⟨T3 n,rfl,ad0 _,?_⟩;simp only[ay.new,aeX];have:min2 (max2 (n:Int) 0) 4096=n:=by unfold min2 max2;split<;>split<;>omega
 rw[this];omega
def wH{n:Nat}(h:n<=4096){j:Nat}(hj:j<n):((ay.new n).read (j:Int)).1=jH 128:=by
 have hc:=BH h;rw[uB (D:=ay.new n) rfl (i:=j) (by rw[hc.len];exact hj)];simp[ay.new]
def Rd{n:Nat}{D:ay}{which number:Int}{s:BA}(hlen:D.safe.length=n)(jz:12<=n)(bD:n<=4096)(mj:1<=number/\number<=1152921504606846976)(hl:dN s.size<=bQ n)
 (hr:∀q:Nat,q<dN s.size->(D.read (((cM n which:Nat):Int)+q)).1=leaf number q (part s q)):get D n which number s.size=some s.data.toList:=by
 have Dg:=mr jz which;have hb:s.size<=104* dN s.size:=by unfold dN;split<;>omega
 have Ps:∀q:Nat,(part s q).size=min (104* (q+1)) s.size-104* q:=λq=>by unfold part;rw[rH]
 unfold get take;rw[if_neg (by rw[hlen,adR];omega),adR,xt (s:=s) (dN s.size) 0 (λq _ hq=>by
  rw[hr q (by omega)]
  have hg:Good number q (part s q):=⟨mj.1,mj.2,by omega,by omega,jC s q⟩
  unfold leaf
  rw[if_pos hg]
  exact⟨kZ hg,by rw[Ps];omega⟩)]
 congr 1
 rw[Nat.mul_zero,aeZ,ad9 (by rw[cy];exact hb)]
section
variable {W w:World} {L:LH}
end
section
variable {W w:World} {L:LH}
def L0{n m:Nat}{K:VK}(h:St W w L)(hm:m<1099511627776000)(hK:∀w',St W w' L->K (.bool (decide (dN m<=bQ n))) w'):mg (cO n) m K w:=by
 unfold mg;refine fI h λr w hs=>?_;refine jL hs λw hs=>?_;refine de (λ_=>?_) (λhh=>by omega);refine bG (k:=0) hs rfl rfl ?_;simp only[nz,adO,adP];refine ni (by omega) ?_;simp only[nz,adO,adP];refine gw (k:=0) hs rfl rfl ?_;have e:decide (((dN m:Nat):Int)<=((bQ n:Nat):Int))=decide (dN m<=bQ n):=by rw[decide_eq_decide];omega
 rw[e];exact hK w hs.drop
end
def Z7(old new X:BA):Prop:=X=old\/X=new\/∃c,c<=128/\X=new.extract 0 c++old.extract c old.size
def y6(mask torn x:Int)(hx:0<=x/\x<=128)(safe:List BA)(later:List (Int×BA))(hn:(later.map (·.1.toNat)).Nodup)(hp:∀p∈later,0<=p.1/\p.1<safe.length)(i:Nat)(hi:i<safe.length):
 ∀j,j<=later.length->((∀k,k<j->∀p,later[k]?=some p->p.1.toNat≠i)/\(crashed mask torn x safe later j)[i]?=safe[i]?)\/
  ∃k p,k<j/\later[k]?=some p/\p.1.toNat=i/\∃X,(crashed mask torn x safe later j)[i]?=some X/\Z7 (safe.getD i .empty) p.2 X
 |0,_=>.inl ⟨λk hk=>by omega,rfl⟩
 |j+1,hj=>by
  have aZ:j<later.length:=by omega
  have wR:later[j]?=some later[j]:=adQ aZ;have ih:=y6 mask torn x hx safe later hn hp i hi j (by omega);simp only[crashed,wR];have hlen:i<(crashed mask torn x safe later j).length:=by rw[hO];exact hi
  by_cases He:(later[j]).1.toNat=i
  ·
   have ud:(crashed mask torn x safe later j)[i]?=safe[i]?:=by
    rcases ih with⟨_,h⟩|⟨k,p,hk,Pv,QZ,_⟩
    ·exact h
    ·exfalso;have ru:k<later.length:=by omega
     have e1:(later.map (·.1.toNat))[k]?=some i:=by rw[aeD,Pv];simp[QZ]
     have e2:(later.map (·.1.toNat))[j]?=some i:=by rw[aeD,wR];simp[He]
     have:=(List.getElem?_inj (by simpa using ru) hn).1 (e1.trans e2.symm);omega
   have wS:(crashed mask torn x safe later j).getD i .empty=safe.getD i .empty:=by
    rw[aeT,ud,<-aeT]
   refine .inr ⟨j,later[j],by omega,wR,He,?_⟩;unfold ay.pJ;rw[He];split
   ·refine⟨_,List.getElem?_set_self hlen,.inr (.inr ⟨x.toNat,by omega,?_⟩)⟩;rw[wS]
   ·split
    ·exact⟨_,List.getElem?_set_self hlen,.inr (.inl rfl)⟩
    ·refine⟨safe[i],by rw[ud];exact adQ hi,.inl ?_⟩;simp[hi]
  ·have Bi:(ay.pJ mask torn x (crashed mask torn x safe later j) j later[j])[i]?=(crashed mask torn x safe later j)[i]?:=by
    unfold ay.pJ;split
    ·rw[List.getElem?_set_ne He]
    ·split
     ·rw[List.getElem?_set_ne He]
     ·rfl
   rw[Bi];rcases ih with⟨h1,h2⟩|⟨k,p,hk,Pv,QZ,X,hX⟩
   ·refine .inl ⟨λk hk p Pv=>?_,h2⟩;by_cases hkj:k=j
    ·subst hkj;rw[wR] at Pv;cases Pv
     exact He
    ·exact h1 k (by omega) p Pv
   ·exact .inr ⟨k,p,by omega,Pv,QZ,X,hX⟩
def F3{at' number:Int}{s:BA}(mj:1<=number/\number<=1152921504606846976)(ye:0<=at'):∀(n i:Nat) {D:ay},at'+i+n<=D.safe.length->i+n<=4096->
 ∃m,m<=n/\(lA at' number s D i n).1.later=D.later++((List.range' i m).map λq:Nat=>(at'+(q:Int),ay.pad (leaf number q (part s q))))/\(lA at' number s D i n).1.safe=D.safe/\((lA at' number s D i n).2=0->m=n)
 |0,i,D,hr,hi=>⟨0,adW _,by simp[lA],rfl,λ_=>rfl⟩
 |n+1,i,D,hr,hi=>by
  have hg:Good number i (part s i):=⟨mj.1,mj.2,by omega,by omega,jC s i⟩;have nY:=pS hg;have qC:D.is (at'+i):=⟨by omega,by omega⟩;have uX: ¬(¬D.is (at'+i)\/128<(leaf number i (part s i)).size):=by
   rintro(hh|hh)
   ·exact hh qC
   ·omega
  have o8:=(og D (at'+i) (leaf number i (part s i))).1;have hw:D.write (at'+i) (leaf number i (part s i))=if D.qS then(D.tick,8) else({Go.bu.ay.tick D with later:=D.later++[(at'+i,ay.pad (leaf number i (part s i)))]},0):=by
   unfold ay.write;rw[if_neg uX]
  unfold lA;cases hf:D.qS with
  |true=>
   rw[hf,if_pos rfl] at hw;rw[hw,if_pos (by simp)];exact⟨0,ad0 _,by simp[ay.tick],rfl,λh=>by simp at h⟩
  |false=>
   rw[hf,if_neg afj] at hw;have h0:(D.write (at'+i) (leaf number i (part s i))).2=0:=by rw[hw]
   have vF:(D.write (at'+i) (leaf number i (part s i))).1.later=D.later++[(at'+i,ay.pad (leaf number i (part s i)))]:=by rw[hw]
   rw[if_neg (by rw[h0];exact λhh=>hh rfl)];obtain⟨m,h1,h2,h3,h4⟩:=F3 mj ye (s:=s) n (i+1) (D:=(D.write (at'+i) (leaf number i (part s i))).1) (by rw[o8];omega) (by omega);refine⟨m+1,by omega,?_,by rw[h3,o8],λh=>by rw[h4 h]⟩;rw[h2,vF,List.range'_succ,aer,adZ]
   rfl
def Ba(at':Nat)(f:Nat->BA)(i:Int):∀m:Nat,ay.last ((afl m).map λq:Nat=>(((at':Nat):Int)+(q:Int),f q)) i=if(at':Int)<=i/\i<(at':Int)+m then some (f (i-at').toNat) else none
 |0=>by rw[if_neg (by omega)];rfl
 |m+1=>by
  rw[List.range_succ,aen,aer,afp,Dk.o5,Ba at' f i m];dsimp only;by_cases h:((at':Nat):Int)+(m:Int)=i
  ·rw[if_pos h,if_pos (by omega)]
   congr 2
   omega
  ·rw[if_neg h];by_cases h2:(at':Int)<=i/\i<(at':Int)+m
   ·rw[if_pos h2,if_pos (by omega)]
   ·rw[if_neg h2,if_neg (by omega)]
def DV(at' i m q:Nat)(n:Int)(s:BA)(k:Nat)(p:Int×BA)(h:((List.range' 0 m).map λq:Nat=>(((at':Nat):Int)+(q:Int),ay.pad (leaf n q (part s q))))[k]?=some p):
 k<m/\p.1.toNat=at'+k/\p.2=ay.pad (leaf n k (part s k)):=by
 rw[<-List.range_eq_range',aeD] at h;have hk:k<m:=by
  by_cases hh:k<m
  ·exact hh
  ·rw[aeR (by simpa using hh)] at h;cases h
 rw[afi hk] at h;cases h
 exact⟨hk,by dsimp only;omega,rfl⟩
def Gm(x:BA):(yc x).data.toList=x.data.toList.take 8:=by unfold yc;rw[extract_toList];rfl
def Fc{x:BA}(h:x.size=128):(xr x).data.toList=x.data.toList.drop 120:=by
 unfold xr;rw[h,extract_toList,ad9 (by rw[ad2,cy,h];omega)]
def oW{α:Type}(a b:List α)(m:Nat)(h:a.length=m):(a++b).take m=a:=by subst h;exact List.take_left
def qp{α:Type}(a b:List α)(m:Nat)(h:a.length=m):(a++b).drop m=b:=by subst h;exact List.drop_left
def tX{n i:Int}{s:BA}:(iU n i s).take 8=le .i64 8 n:=by
 unfold iU pre;simp only[adZ];exact oW _ _ 8 (az _ _ _)
def rm{n i:Int}{s:BA}(hs:s.size<=104):(iU n i s).drop 120=le .i64 8 n:=by
 unfold iU;exact qp _ _ 120 (by rw[adT,m8 hs];rfl)
def Ac(n:Nat):(jH n).data.toList=ad6 n 0:=by unfold jH;rfl
def JV{D:ay}{b:Int}(hb:0<=b):∀j,(∀i:Nat,i<j->numOf (yc (D.read (i:Int)).1)<=b/\numOf (xr (D.read (i:Int)).1)<=b)->dv D j<=b
 |0,_=>hb
 |j+1,h=>by
  have h1:=JV hb j (λi hi=>h i (by omega));have h2:=h j (by omega);simp only[dv];unfold max2;split<;>split<;>omega
section
variable {W w:World} {L:LH}
end
def cQ(D:ay)(at' to number:Int)(s:BA):ay×Int:=if(lay D at' to number s).2≠0 then lay D at' to number s else(lay D at' to number s).1.sync
def FX{D:ay}{at' to number:Int}{s:BA}(h:D.Ok)(hl:D.later.length+dN s.size<1099511627776):(cQ D at' to number s).1.Ok:=by
 have:=(Eb (at':=at') (number:=number) (s:=s) (to:=to) h hl).1;unfold cQ;split
 ·exact this
 ·exact DN this
def ND{n a t:Nat}{D:ay}{number:Int}{s:BA}(h:Calm n D)(bD:n<=4096)(mj:1<=number/\number<=1152921504606846976)(hl:a+dN s.size<=t)(Xk:t<=n):(cQ D a t number s).1.later=[]:=by
 have XV:=nO s.size;have e:lay D (a:Nat) ((t:Nat):Int) number s=lA (a:Nat) number s D 0 (dN s.size):=by
  unfold lay;rw[if_neg (by rw[h.len];omega),if_neg (by omega)]
 obtain⟨l1,l2,_,_,_⟩:=JD (at':=((a:Nat):Int)) (number:=number) (s:=s) mj (by omega) (dN s.size) 0 (D:=D) h.arm (by rw[h.len];omega) (by omega);unfold cQ;rw[e,if_neg (λhh=>hh l1),Dk.I9 l2]
def QN{n a t:Nat}{D:ay}{number:Int}{s:BA}(h:Calm n D)(bD:n<=4096)(mj:1<=number/\number<=1152921504606846976)(hl:a+dN s.size<=t)(Xk:t<=n):
 (cQ D a t number s).2=0/\Calm n (cQ D a t number s).1/\(∀q:Nat,q<dN s.size->((cQ D a t number s).1.read (((a:Nat):Int)+q)).1=leaf number q (part s q))/\
 ∀j:Nat,j<n->(j<a\/a+dN s.size<=j)->((cQ D a t number s).1.read (j:Int)).1=(D.read (j:Int)).1:=by
 have e:lay D (a) ((t:Nat):Int) number s=lA (a) number s D 0 (dN s.size):=by
  unfold lay;rw[if_neg (by rw[h.len];omega),if_neg (by omega)]
 have Mc:=JD (at':=((a:Nat):Int)) (number:=number) (s:=s) mj (by omega) (dN s.size) 0 (D:=D) h.arm (by rw[h.len];omega) (by omega);have hli:=JC (at':=((a:Nat):Int)) (number:=number) (s:=s) mj (by omega) (dN s.size) 0 (D:=D) h.arm (by rw[h.len];omega) (by omega);have ft:=wM (at':=((a:Nat):Int)) (number:=number) (s:=s) (dN s.size) 0 h.ok (by have:=h.later;omega);unfold cQ;rw[e];obtain⟨l1,l2,l3,l4,l5⟩:=Mc;rw[if_neg (λhh=>hh l1)];generalize (lA ((a:Nat):Int) number s D 0 (dN s.size)).1=D1 at *;have SF:D1.safe.length=n:=by rw[l3];exact h.len
 have jF:=Dk.I9 l2;have SP:Calm n D1.sync.1:=⟨DN ft.1,Dk.Kn l2,by rw[jF];exact ad0 _,by rw[Dk.Fj.1];exact SF⟩;have Pr:∀j:Nat,j<n->(D1.sync.1.read (j:Int)).1=D1.now (j:Int):=λj hj=>by
  have h1:D1.sync.1.is (j:Int):=⟨by omega,by rw[SP.len];omega⟩;have h2:D1.is (j:Int):=⟨by omega,by rw[SF];omega⟩;unfold ay.read;rw[if_pos h1];exact Dk.KS l2 ft.1 h2
 refine⟨by rw[jF],SP,λq hq=>?_,λj hj Gi=>?_⟩
 ·have:=Pr (a+q) (by omega);rw[show(((a:Nat):Int)+(q:Int))=((a+q:Nat):Int) from by omega,this,show((a+q:Nat):Int)=((a:Nat):Int)+(q:Int) from by omega];exact hli q (ad0 _) (by omega)
 ·rw[Pr j hj,l5 (j:Int) (by omega)];have h2:D.is (j:Int):=⟨by omega,by rw[h.len];omega⟩;unfold ay.read;rw[if_pos h2]
def FY{n a t:Nat}{D:ay}{number mask torn cut:Int}{s:BA}(ft:D.Ok)(vF:D.later=[])(hlen:D.safe.length=n)(bD:n<=4096)(mj:1<=number/\number<=1152921504606846976)(hl:a+dN s.size<=t)(Xk:t<=n):
 (∀j:Nat,j<n->(((cQ D a t number s).1.eP mask torn cut).read (j:Int)).1=(D.read (j:Int)).1\/
  ∃q,q<dN s.size/\j=a+q/\Z7 (D.read (j:Int)).1 (leaf number q (part s q)) (((cQ D a t number s).1.eP mask torn cut).read (j:Int)).1)/\
 ((cQ D a t number s).2=0->∀q:Nat,q<dN s.size->(((cQ D a t number s).1.eP mask torn cut).read ((a+q:Nat):Int)).1=leaf number q (part s q))/\
 ((cQ D a t number s).1.eP mask torn cut).Ok/\((cQ D a t number s).1.eP mask torn cut).safe.length=n:=by
 have XV:=nO s.size;have Uq:∀q:Nat,q<dN s.size->ay.pad (leaf number q (part s q))=leaf number q (part s q):=λq hq=>Ju (pS ⟨mj.1,mj.2,by omega,by omega,jC s q⟩);have aa8:lay D (a:Nat) ((t:Nat):Int) number s=lA (a) number s D 0 (dN s.size):=by
  unfold lay;rw[if_neg (by rw[hlen];omega),if_neg (by omega)]
 obtain⟨m,hm,Bm,o8,fH⟩:=F3 (at':=((a:Nat):Int)) (number:=number) (s:=s) mj (by omega) (dN s.size) 0 (D:=D) (by rw[hlen];omega) (by omega);rw[vF,aet] at Bm;have El:=(wM (at':=((a:Nat):Int)) (number:=number) (s:=s) (dN s.size) 0 ft (by rw[vF];simp;omega)).1;unfold cQ;rw[aa8];generalize hF:lA ((a:Nat):Int) number s D 0 (dN s.size)=F at *;obtain⟨D1,e⟩:=F;dsimp only at Bm o8 fH El⊢;have hold:∀j(hj:j<n),(D.read (j:Int)).1=D.safe[j]'(by omega):=λj hj=>by rw[uB vF (by omega)]
 have key:∀D2:ay,D2.safe=D.safe->D2.later=D1.later->∀j:Nat,j<n->((D2.eP mask torn cut).read (j:Int)).1=(D.read (j:Int)).1\/
  ∃q,q<dN s.size/\j=a+q/\Z7 (D.read (j:Int)).1 (leaf number q (part s q)) ((D2.eP mask torn cut).read (j:Int)).1:=λD2 h1 h2 j hj=>by
  have Q3:j<D.safe.length:=by omega
  have hce:(D2.eP mask torn cut).safe=crashed mask torn (min2 (max2 cut 0) 128) D.safe D1.later D1.later.length:=by rw[lE,h1,h2]
  have Me:j<(D2.eP mask torn cut).safe.length:=by rw[hce,hO];exact Q3
  have hr:((D2.eP mask torn cut).read (j:Int)).1=(D2.eP mask torn cut).safe[j]:=by rw[uB (by rw[lE]) Me]
  have hx:(D2.eP mask torn cut).safe[j]?=some ((D2.eP mask torn cut).safe[j]):=adQ Me;have Gb:(D1.later.map (·.1.toNat)).Nodup:=by
   rw[Bm,afr];have:((λp:Int×BA=>p.1.toNat)∘λq:Nat=>(((a:Nat):Int)+(q:Int),ay.pad (leaf number q (part s q))))=λq:Nat=>a+q:=by
    funext q;simp only[Function.comp];omega
   rw[this];exact List.Pairwise.map (λq=>a+q) (λx y(PC:x≠y)=>by show a+x≠a+y;omega) (List.nodup_range' 1 (by decide))
  have XB:=y6 mask torn (min2 (max2 cut 0) 128) (Oo cut) D.safe D1.later Gb (λp hp=>by
   have:=El.later p hp
   rw[o8] at this
   exact this.2) j Q3 D1.later.length (adW _)
  rw[<-hce,hx] at XB;rw[hr];generalize (D2.eP mask torn cut).safe[j]=X at *;rcases XB with⟨_,h⟩|⟨k,p,hk,Pv,QZ,Y,hY,hM⟩
  ·left
   rw[hold j hj];rw[adQ Q3] at h;exact aea.inj h
  ·right
   cases hY
   rw[Bm] at Pv;obtain⟨r1,r2,r3⟩:=DV (a) 0 m 0 number s k p Pv;refine⟨k,by omega,by omega,?_⟩;rw[hold j hj,<-Uq k (by omega),<-r3];have:D.safe.getD j .empty=D.safe[j]:=by simp[Q3]
   rw[<-this];exact hM
 have lY:∀D2:ay,D2.safe.length=n->(D2.eP mask torn cut).safe.length=n:=λD2 h=>by rw[lE];simp only[hO];exact h
 have Yd:D1.safe.length=n:=by rw[o8];exact hlen
 by_cases he:e=0
 ·subst he;rw[if_neg (by simp)];unfold ay.sync;cases hf:D1.qS with
  |true=>
   rw[if_pos rfl];exact⟨key D1.tick o8 rfl,λh=>by simp at h,By (D:=D1.tick) ⟨El.safe,El.later,El.lh,El.less⟩ mask torn cut,lY D1.tick Yd⟩
  |false=>
   rw[if_neg afj];have JQ:=fH rfl;subst JQ;have Uu:=DN El;unfold ay.sync at Uu;rw[hf,if_neg afj] at Uu;generalize hD3:({Go.bu.ay.tick D1 with safe:=D1.later.foldl ay.put D1.safe,later:=[]}:ay)=D3 at *;have h3s:D3.safe=D1.later.foldl ay.put D.safe:=by rw[<-hD3,<-o8]
   have h3l:D3.later=[]:=by rw[<-hD3]
   have h3n:D3.safe.length=n:=by rw[h3s,kB];exact hlen
   have Pz:(D3.eP mask torn cut).safe=D3.safe:=by rw[lE,h3l];rfl
   have Pr:∀j(hj:j<n),((D3.eP mask torn cut).read (j:Int)).1=(ay.last D1.later (j:Int)).getD (D.read (j:Int)).1:=λj hj=>by
    have Me:j<(D3.eP mask torn cut).safe.length:=by rw[lY D3 h3n];exact hj
    have Q3:j<D.safe.length:=by omega
    rw[uB (by rw[lE]) Me,hold j hj];have h1:=Dk.va (i:=(j:Int)) (by omega) D1.later D.safe (by omega) (λp hp=>(El.later p hp).2.1);rw[adR,<-h3s,<-Pz,aeT,adQ Me,aeT,adQ Q3] at h1;exact h1
   have Df:∀j:Nat,ay.last D1.later (j:Int)=if a<=j/\j<a+dN s.size then some (ay.pad (leaf number ((j-a:Nat):Int) (part s (j-a)))) else none:=λj=>by
    rw[Bm,<-List.range_eq_range',Ba (a) (λq=>ay.pad (leaf number q (part s q))) (j:Int) (dN s.size)];by_cases hj:a<=j/\j<a+dN s.size
    ·rw[if_pos hj,if_pos (by omega)];have:((j:Int) -((a:Nat):Int)).toNat=j-a:=by omega
     rw[this]
    ·rw[if_neg hj,if_neg (by omega)]
   refine⟨λj hj=>?_,λ_ q hq=>?_,By Uu mask torn cut,lY D3 h3n⟩
   ·rw[Pr j hj,Df j];by_cases hjr:a<=j/\j<a+dN s.size
    ·right
     refine⟨j-a,by omega,by omega,.inr (.inl ?_)⟩;rw[if_pos hjr,aes,Uq _ (by omega)]
    ·left;rw[if_neg hjr];rfl
   ·rw[Pr _ (by omega),Df,if_pos (by omega),aes,show a+q-a=q from by omega,Uq q hq]
 ·rw[if_pos he];exact⟨key D1 o8 rfl,λh=>absurd h he,By El mask torn cut,lY D1 Yd⟩
def KZ:∀n:Fin 256,le .i64 8 (n.val:Int)=UInt8.ofNat n.val::ad6 7 0:=by decide+kernel
def F2{n:Nat}(h:n<256):le .i64 8 (n:Int)=UInt8.ofNat n::ad6 7 0:=KZ ⟨n,h⟩
structure Ends(g:Nat)(X:BA):Prop where
 size:X.size=128
 hd:∃a,a<=g/\X.data.toList.take 8=le .i64 8 ((a:Nat):Int)
 tl:∃b,b<=g/\X.data.toList.drop 120=le .i64 8 ((b:Nat):Int)
def Ends.mono{g g':Nat}{X:BA}(h:Ends g X)(hg:g<=g'):Ends g' X:=by
 obtain⟨h1,⟨a,h2,h3⟩,b,h4,h5⟩:=h;exact⟨h1,⟨a,by omega,h3⟩,b,by omega,h5⟩
def Bv:Ends 0 (jH 128):=⟨qc 128,⟨0,adW _,by rw[Ac];decide+kernel⟩,0,adW _,by rw[Ac];decide+kernel⟩
def jE{n i:Int}{s:BA}(h:Good n i s):(leaf n i s).data.toList=iU n i s:=by unfold leaf;rw[if_pos h];rfl
def Dw{n:Nat}{i:Int}{s:BA}(h:Good n i s):Ends n (leaf n i s):=
 ⟨pS h,⟨n,adW _,by rw[jE h,tX]⟩,n,adW _,by rw[jE h,rm h.2.2.2.2]⟩
def qN{n:Nat}(h:n<256):numOf (bs (le .i64 8 ((n:Nat):Int)))=n:=by
 unfold numOf;show(if 1<=jS (le .i64 8 (n:Int))/\jS (le .i64 8 (n:Int))<=1152921504606846976 then _ else _)=_;rw[lv ⟨by omega,by omega⟩];by_cases h0:n=0
 ·subst h0;rfl
 ·rw[if_pos ⟨by omega,by omega⟩];show jS (le .i64 8 (n:Int))=_;rw[lv ⟨by omega,by omega⟩]
def Ends.num{g:Nat}{X:BA}(h:Ends g X)(hg:g<256):numOf (yc X)<=g/\numOf (xr X)<=g:=by
 obtain⟨h1,⟨a,h2,h3⟩,b,h4,h5⟩:=h;have e1:yc X=bs (le .i64 8 ((a:Nat):Int)):=gM (by rw[Gm,h3];rfl);have e2:xr X=bs (le .i64 8 ((b:Nat):Int)):=gM (by rw[Fc h1,h5];rfl);rw[e1,e2,qN (by omega),qN (by omega)];omega
def yf{D:ay}{g:Nat}(hg:g<256)(j:Nat)(h:∀i:Nat,i<j->Ends g (D.read (i:Int)).1):dv D j<=g:=JV (by omega) j (λi hi=>(h i hi).num hg)
def HA{n a:Nat}(hn:n<256)(ha:a<256)(k:Nat)(hk:k<=8):(le .i64 8 ((n:Nat):Int)).take k++(le .i64 8 ((a:Nat):Int)).drop k=if k=0 then le .i64 8 ((a:Nat):Int) else le .i64 8 ((n:Nat):Int):=by
 rw[F2 hn,F2 ha];cases k with
 |zero=>rfl
 |succ k=>
  rw[if_neg (by omega),List.take_succ_cons,List.drop_succ_cons,ae3]
  congr 1
  exact aek k _
def xQ{n:Nat}{g:Nat}{i:Int}{s old X:BA}(hn:g<n)(Wc:n<256)(wS:Good n i s)(ho:Ends g old)(hm:Z7 old (leaf n i s) X):
 Ends n X/\(X=old\/X=leaf n i s\/iH X.data.toList=none):=by
 rcases hm with h|h|⟨c,hc,h⟩
 ·rw[h];exact⟨ho.mono (by omega),.inl rfl⟩
 ·rw[h];exact⟨Dw wS,.inr (.inl rfl)⟩
 ·obtain⟨o1,⟨a,ha,oh⟩,b,hb,ot⟩:=ho;have hl:=jE wS;have De:(iU n i s).length=128:=sH wS.2.2.2.2;have hol:old.data.toList.length=128:=by rw[cy];exact o1
  have hX:X.data.toList=(iU n i s).take c++old.data.toList.drop c:=by
   have e2:(old.extract c old.size).data.toList=old.data.toList.drop c:=by
    rw[extract_toList,ad9 (by rw[ad2,cy];exact adW _)]
   rw[h,ByteArray.data_append,Array.toList_append,e2,extract_toList,aeZ,Nat.sub_zero,hl]
  have hXs:X.size=128:=by
   rw[<-cy,hX,adT,adV,ad2,De,hol];omega
  have h8:X.data.toList.take 8=(le .i64 8 ((n:Nat):Int)).take (min c 8)++(le .i64 8 ((a:Nat):Int)).drop (min c 8):=by
   rw[hX,<-oh,<-tX (n:=n) (i:=i) (s:=s),List.take_append,afn,afn,adV,De,List.drop_take,show min (min c 8) 8=min 8 c from by omega,show min c 128=c from by omega]
   congr 1
   by_cases h8:c<=8
   ·rw[show min c 8=c from by omega]
   ·rw[show 8-c=0 from by omega,show 8-min c 8=0 from by omega,aff,aff]
  have Em:X.data.toList.drop 120=(le .i64 8 ((n:Nat):Int)).take (c-120)++(le .i64 8 ((b:Nat):Int)).drop (c-120):=by
   rw[hX,<-ot,<-rm (n:=n) (i:=i) wS.2.2.2.2,List.drop_append,List.drop_take,adV,De,ae0,ae0,show min c 128=c from by omega]
   congr 2
   omega
  rw[HA Wc (by omega) _ (by omega)] at h8 Em;by_cases hc0:c=0
  ·have:X=old:=gM (by rw[hX,hc0,aff,aet,aeZ]);rw[this];exact⟨⟨o1,⟨a,by omega,oh⟩,b,by omega,ot⟩,.inl rfl⟩
  ·rw[if_neg (by omega)] at h8;by_cases hc1:c<=120
   ·rw[if_pos (by omega)] at Em;refine⟨⟨hXs,⟨n,adW _,h8⟩,b,by omega,Em⟩,.inr (.inr ?_)⟩;cases hv:iH X.data.toList with
    |none=>rfl
    |some y=>
     exfalso;obtain⟨m,j,d⟩:=y;obtain⟨v1,v2,v3,v4,_,_⟩:=HJ hv;rw[M' v2 v1,Em] at v3;unfold sN at v3;rw[h8,lv ⟨by omega,by omega⟩,lv ⟨by omega,by omega⟩] at v3;omega
   ·rw[if_neg (by omega)] at Em;refine⟨⟨hXs,⟨n,adW _,h8⟩,n,adW _,Em⟩,.inr (.inl ?_)⟩;apply gM;rw[hl];refine(aek 120 _).symm.trans (Eq.trans ?_ (aek 120 _));rw[Em,rm wS.2.2.2.2,hX,List.take_append_of_le_length (by rw[adV,De];omega),afn,show min 120 c=120 from by omega]
structure dx where
 aH:Int
 number:Int
 size:Int
 seq:Int
deriving DecidableEq
def aU(h:dx):LV:=[.i h.aH,.i h.number,.i h.size,.i h.seq]
def kH(h:dx):Prop:=1<=h.aH/\h.aH<=1152921504606846976/\1<=h.number/\h.number<=1152921504606846976/\0<=h.size/\h.size<=425984/\0<=h.seq/\h.seq<=1152921504606846976
instance(h:dx):Decidable (kH h):=by unfold kH;infer_instance
def hG(h:dx):List UInt8:=le .i64 8 h.aH++le .i64 8 h.number++le .i64 8 h.size++le .i64 8 h.seq
def mA(h:dx):(hG h).length=32:=by simp only[hG,adT,az]
def Ad:dx:=⟨0,0,0,0⟩
def sV(l:List UInt8):dx:=⟨jS (l.take 8),jS ((l.drop 8).take 8),jS (((l.drop 8).drop 8).take 8),jS ((((l.drop 8).drop 8).drop 8).take 8)⟩
def CS(l:List UInt8):Option dx:=if l.length=32/\kH (sV l) then some (sV l) else none
def Gk{h:dx}(hg:kH h):CS (hG h)=some h:=by
 obtain⟨h1,h2,h3,h4,h5,h6,h7,h8⟩:=hg;have sR:hG h=le .i64 8 h.aH++(le .i64 8 h.number++(le .i64 8 h.size++le .i64 8 h.seq)):=by simp only[hG,adZ]
 have tl:∀(a b:List UInt8)(m:Nat),a.length=m->(a++b).take m=a:=λa b m hm=>by subst hm;exact List.take_left
 have dl:∀(a b:List UInt8)(m:Nat),a.length=m->(a++b).drop m=b:=λa b m hm=>by subst hm;exact List.drop_left
 have e:sV (hG h)=h:=by
  unfold sV;rw[sR,tl _ _ _ (az _ _ _),dl _ _ _ (az _ _ _),tl _ _ _ (az _ _ _),dl _ _ _ (az _ _ _),tl _ _ _ (az _ _ _),dl _ _ _ (az _ _ _),ad9 (by rw[az];omega)];rw[lv ⟨by omega,h2⟩,lv ⟨by omega,h4⟩,lv ⟨h5,by omega⟩,lv ⟨h7,h8⟩]
 unfold CS;rw[e,if_pos ⟨mA h,h1,h2,h3,h4,h5,h6,h7,h8⟩]
def mz:Option dx->Value
 |none=>.tuple ⟨[.agg ⟨aU Ad⟩,.bool false]⟩
 |some h=>.tuple ⟨[.agg ⟨aU h⟩,.bool true]⟩
section
variable {W w:World} {L:LH} {k:Nat}
def BJ{h:dx}{K:VK}(hs:St W w L)(hK:∀w',St W w' L->K (.bool (decide (kH h))) w'):qq (aU h) K w:=by
 unfold qq;refine fI hs λr w hs=>?_;have hh:=hK w hs.drop;have no: ¬kH h->K (.bool false) w:=λhn=>by rw[decide_eq_false hn] at hh;exact hh
 refine bG (k:=0) hs rfl rfl ?_;simp only[nz,adO,adP];refine de (λh1=>?_) (λh1=>no (by unfold kH;omega));refine bG (k:=0) hs rfl rfl ?_;simp only[nz,adO,adP];refine de (λh2=>?_) (λh1=>no (by unfold kH;omega));refine bG (k:=0) hs rfl rfl ?_;simp only[nz,adO,adP];refine de (λh3=>?_) (λh1=>no (by unfold kH;omega));refine bG (k:=0) hs rfl rfl ?_;simp only[nz,adO,adP];refine de (λh4=>?_) (λh1=>no (by unfold kH;omega));refine bG (k:=0) hs rfl rfl ?_;simp only[nz,adO,adP];refine de (λh5=>?_) (λh1=>no (by unfold kH;omega));refine bG (k:=0) hs rfl rfl ?_;simp only[nz,adO,adP];refine de (λh6=>?_) (λh1=>no (by unfold kH;omega));refine bG (k:=0) hs rfl rfl ?_;simp only[nz,adO,adP];refine de (λh7=>?_) (λh1=>no (by unfold kH;omega));refine bG (k:=0) hs rfl rfl ?_;simp only[nz,adO,adP];have:decide (h.seq<=1152921504606846976)=decide (kH h):=by rw[decide_eq_decide];unfold kH;omega
 rw[this];exact hh
def zS(h:dx):List UInt8×Int:=if kH h then(hG h,0) else([],1)
def GO{h:dx}{K:VK}(hs:St W w L)(hK:∀w',St W w' L->K (.tuple ⟨[.string (bs (zS h).1),.i (zS h).2]⟩) w'):qX (aU h) K w:=by
 unfold qX;refine fI hs λr w hs=>?_;refine fX (k:=0) (xs:=aU h) hs rfl rfl (λj v hj=>by rw[adU];exact hj) ?_;refine BJ hs λw hs=>?_;simp only[nz,adO,adP];unfold zS at hK;by_cases hg:kH h
 ·rw[if_pos hg] at hK;rw[decide_eq_true hg];simp only[nz,adO,adP];refine fI hs λp w hs=>?_;have hs:St W w (buf p []::pt r (aU h)::L):=by
   have h2:=(hs.push (A:=own none 0 0 1 (([]:List UInt8).map rF)) (oM 1)).perm (aeh.swap _ _ _);exact pW (k:=0) (L:=buf p []::pt r (aU h)::L) (A:=buf p []) rfl rfl h2
  refine bG (k:=1) hs rfl rfl ?_;simp only[nz,adO,adP];refine bG (k:=1) hs rfl rfl ?_;simp only[nz,adO,adP];refine bG (k:=1) hs rfl rfl ?_;simp only[nz,adO,adP];refine bG (k:=1) hs rfl rfl ?_;simp only[nz,adO,adP];refine⟨λus w'=>∃j:Nat,us=[.string .empty,.i 0,.p (some ⟨p,0,none⟩),.agg ⟨aU h⟩,.i j]/\j<=4/\St W w' (buf p ((hG h).take (8* j))::pt r (aU h)::L),
   λus _=>match us with|[_,_,_,_,.int _ j]=>4-j.toNat|_=>0,⟨0,rfl,ad0 _,hs⟩,?_⟩
  rintro s1 n5 a1 Y8 n6 w2 ⟨j,he,hj,hs⟩;cases he
  refine pA (λh0=>?_) (λh0=>?_)
  ·have hj4:j<4:=by have:=of_decide_eq_true h0;omega
   have e5:=l9 j;obtain⟨n,hn,dZ⟩:∃n,(aU h)[(j:Int).toNat]?=some (.i n)/\(hG h).take (8* j)++le .i64 8 n=(hG h).take (8* (j+1)):=by
    have sR:hG h=le .i64 8 h.aH++(le .i64 8 h.number++(le .i64 8 h.size++le .i64 8 h.seq)):=by simp only[hG,adZ]
    have ll:∀n,(le .i64 8 n).length=8:=λn=>az _ _ _
    match j,hj4 with
    |0,_=>exact⟨h.aH,rfl,by rw[sR,List.take_append_of_le_length (by rw[ll];omega),List.take_append_of_le_length (by rw[ll];omega),ad9 (l:=le .i64 8 h.aH) (i:=8* (0+1)) (by rw[ll];omega)];simp⟩
    |1,_=>exact⟨h.number,rfl,by simp only[hG,List.take_append,ll,adT];simp[ad9,ll]⟩
    |2,_=>exact⟨h.size,rfl,by simp only[hG,List.take_append,ll,adT];simp[ad9,ll]⟩
    |3,_=>exact⟨h.seq,rfl,by simp only[hG,List.take_append,ll,adT];simp[ad9,ll]⟩
   refine⟨.i n,⟨by omega,by omega,hn⟩,?_⟩;simp only[nz,adO,adP];refine gu (k:=0) hs rfl (by rw[adV];omega) λw hs=>?_;rw[show(min2 (max2 8 1) 8).toNat=8 from rfl,dZ] at hs;simp only[nz,adO,adP] at hs⊢;rw[e5];exact⟨⟨j+1,rfl,by omega,hs⟩,by omega⟩
  ·have hj4:j=4:=by have:=of_decide_eq_false h0;omega
   subst hj4;rw[ad9 (by rw[mA];omega)] at hs;refine jk (k:=0) hs rfl ?_;simp only[nz,adO,adP];exact hK w2 hs.drop.drop
 ·rw[if_neg hg] at hK;rw[decide_eq_false hg];simp only[nz,adO,adP];exact hK w hs.drop
end
def yF{l:List UInt8}{n j:Int}{d:BA}(h:iH l=some (n,j,d)):d.size<=104:=by
 unfold iH at h;split at h
 ·cases h
 split at h
 ·cases h
 split at h
 ·cases h
 split at h
 ·cases h
 split at h
 ·cases h
 split at h
 ·cases h
 rename_i h6;cases h
 exact(ad4.1 h6).2.2.2.2
def nx(x:List UInt8×Bool):List UInt8×Bool:=if x.2=true\/x.1.length<8 then(x.1,true) else(x.1.drop 8,false)
def nv(x:List UInt8×Bool):Int:=if x.2=true\/x.1.length<8 then 0 else jS (x.1.take 8)
section
variable {W w:World} {L:LH} {k d:Nat} {D:ay}
def uS{r:Nat}{x:List UInt8×Bool}{K:VK}(h:St W w L)(hk:L[k]?=some (zm r (bs x.1) x.2))(hl:x.1.length<1099511627776)
 (hK:∀w',St W w' (L.set k (zm r (bs (nx x).1) (nx x).2))->K (.i (nv x)) w'):aq (some ⟨r,0,none⟩) 8 K w:=by
 refine xo h hk ?_;have em:min2 (max2 8 1) 8=((8:Nat):Int):=rfl;rw[em];obtain⟨l,t⟩:=x;unfold nx nv at hK;dsimp only at hK hl⊢;by_cases hc:t=true\/l.length<8
 ·rw[if_pos hc,if_pos hc] at hK;have et:nX (bs l) t ((8:Nat):Int)=true:=by
   unfold nX;rcases hc with h1|h1
   ·rw[h1];rfl
   ·rw[bJ,decide_eq_true (by omega)];simp
  unfold zn tT;rw[et,if_pos rfl,if_pos rfl];exact hK
 ·rw[if_neg hc,if_neg hc] at hK;have ht:t=false:=by cases t<;>simp_all
  have et:nX (bs l) t ((8:Nat):Int)=false:=by
   unfold nX;rw[ht,bJ,decide_eq_false (by omega)];rfl
  unfold zn tT;rw[et,adR,kQ,kP];exact hK
def G9{r:Nat}{x:List UInt8×Bool}{K:VK}(h:St W w L)(hk:L[k]?=some (zm r (bs x.1) x.2))(hK:K (.bool (!x.2&&decide (x.1=[]))) w):iA (some ⟨r,0,none⟩) K w:=by
 unfold zm at hk;unfold iA;simp only[nz,adO,adP];refine bG h hk rfl ?_;simp only[nz,adO,adP];obtain⟨l,t⟩:=x;cases t with
 |true=>exact hK
 |false=>
  simp only[nz,adO,adP];refine bG h hk rfl ?_;simp only[nz,adO,adP];have hem:(⟨#[]⟩:BA)=bs []:=rfl;have e:decide (bs l=bs [])=decide (l=[]):=by rw[decide_eq_decide];exact ym
  rw[pO,hem,e];exact hK
def zN{x:List UInt8×Bool}(h:(nx x).2=false):x.2=false/\8<=x.1.length/\(nx x).1.length+8=x.1.length:=by
 unfold nx at h⊢;by_cases hc:x.2=true\/x.1.length<8
 ·rw[if_pos hc] at h;cases h
 ·rw[if_neg hc];have h1:x.2=false:=by cases hx:x.2 with
   |true=>exact absurd (.inl hx) hc
   |false=>rfl
  have h2:8<=x.1.length:=by
   by_cases hh:8<=x.1.length
   ·exact hh
   ·exact absurd (.inr (by omega)) hc
  refine⟨h1,h2,?_⟩;show(x.1.drop 8).length+8=x.1.length;rw[ad2];omega
def Qy{l:List UInt8}(h:l.length≠32):(!(nx (nx (nx (nx (l,false))))).2&&decide ((nx (nx (nx (nx (l,false))))).1=[]))=false:=by
 cases h4:(nx (nx (nx (nx (l,false))))).2 with
 |true=>rfl
 |false=>
  obtain⟨b3,c3,d3⟩:=zN h4;obtain⟨b2,c2,d2⟩:=zN b3;obtain⟨b1,c1,d1⟩:=zN b2;obtain⟨b0,c0,d0⟩:=zN b1;have gS:(nx (nx (nx (nx (l,false))))).1≠[]:=λhe=>by
   rw[he,ael] at d3;dsimp only at d0;omega
  rw[decide_eq_false gS];rfl
def T2{l:List UInt8}(h:l.length=32):nx (l,false)=(l.drop 8,false)/\nx (l.drop 8,false)=((l.drop 8).drop 8,false)/\nx ((l.drop 8).drop 8,false)=(((l.drop 8).drop 8).drop 8,false)/\nx (((l.drop 8).drop 8).drop 8,false)=([],false)/\
 nv (l,false)=jS (l.take 8)/\nv (l.drop 8,false)=jS ((l.drop 8).take 8)/\nv ((l.drop 8).drop 8,false)=jS (((l.drop 8).drop 8).take 8)/\nv (((l.drop 8).drop 8).drop 8,false)=jS ((((l.drop 8).drop 8).drop 8).take 8):=by
 have l1:(l.drop 8).length=24:=by rw[ad2];omega
 have l2:((l.drop 8).drop 8).length=16:=by rw[ad2,l1]
 have l3:(((l.drop 8).drop 8).drop 8).length=8:=by rw[ad2,l2]
 have l4:(((l.drop 8).drop 8).drop 8).drop 8=[]:=List.drop_eq_nil_iff.2 (by omega);unfold nx nv;refine⟨?_,?_,?_,?_,?_,?_,?_,?_⟩
 ·rw[if_neg (by simp;omega)]
 ·rw[if_neg (by simp only[aef,false_or];omega)]
 ·rw[if_neg (by simp only[aef,false_or];omega)]
 ·rw[if_neg (by simp only[aef,false_or];omega),l4]
 ·rw[if_neg (by simp;omega)]
 ·rw[if_neg (by simp only[aef,false_or];omega)]
 ·rw[if_neg (by simp only[aef,false_or];omega)]
 ·rw[if_neg (by simp only[aef,false_or];omega)]
def HR(x:List UInt8×Bool):(nx x).1.length<=x.1.length:=by unfold nx;split<;>simp
def IA{l:List UInt8}{K:VK}(hs:St W w L)(hl:l.length<1099511627776)(hK:∀w',St W w' L->K (mz (CS l)) w'):sX (bs l) K w:=by
 unfold sX;refine fI hs λr1 w hs=>?_;refine oq hs λq w hs=>?_;simp only[nz,adO,adP];have n1:=HR (l,false);have n2:=HR (nx (l,false));have n3:=HR (nx (nx (l,false)));dsimp only at n1;refine uS (k:=0) (x:=(l,false)) hs rfl hl λw hs=>?_;simp only[nz,adO,adP] at hs⊢;refine uS (k:=0) (x:=nx (l,false)) hs rfl (by omega) λw hs=>?_;simp only[nz,adO,adP] at hs⊢;refine uS (k:=0) (x:=nx (nx (l,false))) hs rfl (by omega) λw hs=>?_;simp only[nz,adO,adP] at hs⊢;refine uS (k:=0) (x:=nx (nx (nx (l,false)))) hs rfl (by omega) λw hs=>?_;simp only[nz,adO,adP] at hs⊢;refine fI hs λr2 w hs=>?_;refine⟨by simp,?_⟩;refine gv (k:=0) hs rfl (adX rfl) (by simp[Value.oneCell']) λw hs=>?_;rw[eO (by simp)] at hs;simp only[nz,adO,adP] at hs;refine G9 (k:=1) (x:=nx (nx (nx (nx (l,false))))) hs rfl ?_;simp only[nz,adO,adP];have fail:∀w A B,(∀w',St W w' L->K (mz none) w')->St W w (A::B::pt r1 [.i 0,.i 0,.i 0,.i 0]::L)->ga ⟨r1,0,none⟩ [.i 0,.i 0,.i 0,.i 0] (ah ⟨r1,0,none⟩ 4 λcs=>K (.tuple ⟨[.agg ⟨cs⟩,.bool false]⟩)) w:=λw A B hK hs=>by
  refine gv (k:=2) hs rfl (adX rfl) (by simp[Value.oneCell']) λw hs=>?_;rw[eO (by simp)] at hs;refine fX (k:=2) (xs:=[.i 0,.i 0,.i 0,.i 0]) hs rfl rfl (λj v hj=>by rw[adU];exact hj) ?_;exact hK w hs.drop.drop.drop
 unfold CS at hK;by_cases ZW:l.length=32
 ·obtain⟨a1,a2,a3,a4,b1,b2,b3,b4⟩:=T2 ZW;rw[a1,a2,a3,a4] at hs⊢;rw[b1,b2,b3,b4] at hs;have ee:(!((([]:List UInt8),false):List UInt8×Bool).2&&decide ((((([]:List UInt8),false):List UInt8×Bool)).1=[]))=true:=by decide
  rw[ee];simp only[nz,adO,adP];have hs:St W w (pt r2 (aU (sV l))::zm q (bs []) false::pt r1 [.i 0,.i 0,.i 0,.i 0]::L):=hs;refine fX (k:=0) (xs:=aU (sV l)) hs rfl rfl (λj v hj=>by rw[adU];exact hj) ?_;refine BJ hs λw hs=>?_;simp only[nz,adO,adP];by_cases hg:kH (sV l)
  ·rw[if_pos ⟨ZW,hg⟩] at hK;rw[decide_eq_true hg];simp only[nz,adO,adP];refine fX (k:=0) (xs:=aU (sV l)) hs rfl rfl (λj v hj=>by rw[adU];exact hj) ?_;refine⟨rfl,?_⟩;refine gv (k:=2) hs rfl (adX rfl) (by simp[Value.oneCell',aU]) λw hs=>?_;rw[eO (by simp[aU])] at hs;simp only[nz,adO,adP] at hs;refine fX (k:=2) (xs:=aU (sV l)) hs rfl rfl (λj v hj=>by rw[adU];exact hj) ?_;exact hK w hs.drop.drop.drop
  ·rw[if_neg (λhh=>hg hh.2)] at hK;rw[decide_eq_false hg];simp only[nz,adO,adP];exact fail w _ _ hK hs
 ·rw[if_neg (λhh=>ZW hh.1)] at hK;rw[Qy ZW];simp only[nz,adO,adP];exact fail w _ _ hK hs
def vN(D:ay)(i:Nat):Option dx:=
 match iH (D.read (i:Int)).1.data.toList with
 |none=>none
 |some (_,j,d)=>if(D.read (i:Int)).2≠0\/j≠0 then none else match CS d.data.toList with
  |none=>none
  |some h=>if low h.aH≠i then none else some h
def J7{i:Nat}{K:VK}(hs:St W w L)(hk:L[k]?=some (dL d D))(ft:D.Ok)(hK:∀w',St W w' L->K (mz (vN D i)) w'):lD (some ⟨d,0,none⟩) i K w:=by
 unfold lD;refine fI hs λr1 w hs=>?_;have Pw:(pt r1 [.i 0,.i 0,.i 0,.i 0]::L)[k+1]?=some (dL d D):=by rw[ad7];exact hk
 refine nU (k:=k+1) hs Pw ft ?_;simp only[nz,adO,adP];have fail:∀w A,(∀w',St W w' L->K (mz none) w')->St W w (A::pt r1 [.i 0,.i 0,.i 0,.i 0]::L)->ga ⟨r1,0,none⟩ [.i 0,.i 0,.i 0,.i 0] (ah ⟨r1,0,none⟩ 4 λcs=>K (.tuple ⟨[.agg ⟨cs⟩,.bool false]⟩)) w:=λw A hK hs=>by
  refine gv (k:=1) hs rfl (adX rfl) (by simp[Value.oneCell']) λw hs=>?_;rw[eO (by simp)] at hs;refine fX (k:=1) (xs:=[.i 0,.i 0,.i 0,.i 0]) hs rfl rfl (λj v hj=>by rw[adU];exact hj) ?_;exact hK w hs.drop.drop
 have JX:∀w r2 A,(∀w',St W w' L->K (mz none) w')->St W w (A::pt r1 [.i 0,.i 0,.i 0,.i 0]::L)->lD.j1 K r1 r2 i true w:=λw r2 A hK hs=>by
  unfold lD.j1;simp only[nz,adO,adP];exact fail w A hK hs
 have hxs:(D.read (i:Int)).1.size<1099511627776:=by
  by_cases hi:D.is (i:Int)
  ·have:=uA ft hi;omega
  ·unfold ay.read;rw[if_neg hi];decide
 unfold vN at hK;generalize hx:(D.read (i:Int)).1=x at *;generalize he:(D.read (i:Int)).2=e at *;rw[show x=bs x.data.toList from rfl];refine yt hs (by rw[cy];exact hxs) λw hs=>?_;cases hv:iH x.data.toList with
 |none=>
  rw[hv] at hK;unfold pG;simp only[nz,adO,adP];simp only[td,ad8,ael,adU,adO,true_and];simp only[nz,adO,adP];refine fI hs λr2 w hs=>?_;refine⟨trivial,gv (k:=0) hs rfl (adX rfl) (by simp[Value.oneCell']) λw hs=>?_⟩;simp only[nz,adO,adP] at hs;refine qv (λ_=>JX w r2 _ hK hs) (λ_=>?_);exact JX w r2 _ hK hs
 |some y=>
  obtain⟨m,j,dd⟩:=y;rw[hv] at hK;dsimp only at hK;unfold pG;simp only[nz,adO,adP];simp only[td,ad8,ael,adU,adO,true_and];simp only[nz,adO,adP];refine fI hs λr2 w hs=>?_;refine⟨trivial,gv (k:=0) hs rfl (adX rfl) (by simp[Value.oneCell']) λw hs=>?_⟩;rw[eO (by simp)] at hs;simp only[nz,adO,adP] at hs;refine qv (λgS=>?_) (λh0=>?_)
  ·rw[if_pos (.inl gS)] at hK;exact JX w r2 _ hK hs
  refine bG (k:=0) hs rfl rfl ?_;simp only[nz,adO,adP];by_cases hj:j=0
  ·rw[if_neg (by rintro(h|h);exact h h0;exact h hj)] at hK;have ej:(j !=0)=false:=by simp[hj]
   rw[ej];unfold lD.j1;simp only[nz,adO,adP];refine bG (k:=0) hs rfl rfl ?_;simp only[nz,adO,adP];rw[show dd=bs dd.data.toList from rfl];refine IA hs (by
    rw[cy]
    have:=(yF hv)
    omega) λw hs=>?_
   cases hh:CS dd.data.toList with
   |none=>
    rw[hh] at hK;unfold mz;simp only[nz,adO,adP];simp only[td];refine⟨rfl,?_⟩;simp only[nz,adO,adP];refine fI hs λr3 w hs=>?_;refine⟨by simp[aU],gv (k:=0) hs rfl (adX rfl) (by simp[Value.oneCell',aU]) λw hs=>?_⟩;rw[eO (by simp[aU])] at hs;simp only[nz,adO,adP] at hs;refine⟨trivial,by simp,?_⟩;refine gv (k:=2) hs rfl (adX rfl) (by simp[Value.oneCell']) λw hs=>?_;rw[eO (by simp)] at hs;simp only[nz,adO,adP] at hs;refine fX (k:=2) (xs:=[.i 0,.i 0,.i 0,.i 0]) hs rfl rfl (λj v hj=>by rw[adU];exact hj) ?_;exact hK w hs.drop.drop.drop
   |some hd=>
    rw[hh] at hK;dsimp only at hK;unfold mz;simp only[nz,adO,adP];simp only[td];refine⟨rfl,?_⟩;simp only[nz,adO,adP];refine fI hs λr3 w hs=>?_;refine⟨by simp[aU],gv (k:=0) hs rfl (adX rfl) (by simp[Value.oneCell',aU]) λw hs=>?_⟩;rw[eO (by simp[aU])] at hs;simp only[nz,adO,adP] at hs;refine bG (k:=0) hs rfl rfl ?_;simp only[nz,adO,adP];refine qv (λgS=>?_) (λheq=>?_)
    ·rw[if_pos (show low hd.aH≠(i:Int) from gS)] at hK;refine⟨trivial,by simp,?_⟩;refine gv (k:=2) hs rfl (adX rfl) (by simp[Value.oneCell']) λw hs=>?_;rw[eO (by simp)] at hs;simp only[nz,adO,adP] at hs;refine fX (k:=2) (xs:=[.i 0,.i 0,.i 0,.i 0]) hs rfl rfl (λj v hj=>by rw[adU];exact hj) ?_;exact hK w hs.drop.drop.drop
    ·rw[if_neg (show ¬low hd.aH≠(i:Int) from λhh=>hh heq)] at hK;refine fX (k:=0) (xs:=aU hd) hs rfl rfl (λj v hj=>by rw[adU];exact hj) ?_;refine⟨rfl,?_⟩;refine gv (k:=2) hs rfl (adX rfl) (by simp[Value.oneCell',aU]) λw hs=>?_;rw[eO (by simp[aU])] at hs;simp only[nz,adO,adP] at hs;refine fX (k:=2) (xs:=aU hd) hs rfl rfl (λj v hj=>by rw[adU];exact hj) ?_;exact hK w hs.drop.drop.drop
  ·rw[if_pos (.inr hj)] at hK;have ej:(j !=0)=true:=by simp[hj]
   rw[ej];exact JX w r2 _ hK hs
end
def da(n:Nat)(x:List UInt8×Bool):List UInt8×Bool:=if x.2=true\/x.1.length<n then(x.1,true) else(x.1.drop n,false)
def iG(n:Nat)(x:List UInt8×Bool):Int:=if x.2=true\/x.1.length<n then 0 else jS (x.1.take n)
def D5(x:List UInt8×Bool):0<=iG 4 x/\iG 4 x<4294967296:=by
 unfold iG;split
 ·omega
 ·have h1:=oI (x.1.take 4);have h2:(x.1.take 4).length<=4:=by rw[adV];omega
  have h3:256^(x.1.take 4).length<=256^4:=aeH (by decide) h2;have h4:(256:Nat)^4=4294967296:=rfl;rw[ke (by omega)];omega
def bE(seq:Int)(s:BA):List UInt8:=le .i64 8 seq++le .i64 4 s.size++s.data.toList
def u9(seq:Int)(s:BA):(bE seq s).length=12+s.size:=by
 simp only[bE,adT,az];rfl
def iI(D:ay)(at' to seq:Int):Option (List UInt8×Int):=
 if to<=at' then none else match iH (D.read at').1.data.toList with
 |none=>none
 |some (m,j,d)=>
  if j≠0\/iG 8 (d.data.toList,false)≠seq then none
  else if(da 4 (da 8 (d.data.toList,false))).2=true\/32768<iG 4 (da 8 (d.data.toList,false)) then none
  else match take D at' to m (12+iG 4 (da 8 (d.data.toList,false))) with
  |none=>none
  |some t=>some (t.drop 12,at'+(dN (12+iG 4 (da 8 (d.data.toList,false))).toNat:Int))
def wF:Option (List UInt8×Int)->Value
 |none=>.tuple ⟨[.string .empty,.i 0,.bool false]⟩
 |some (l,a)=>.tuple ⟨[.string (bs l),.i a,.bool true]⟩
def wc{D:ay}{at' number:Int}{size:Nat}:∀(n i:Nat) {t:List UInt8},jt D at' number size i n=some t->104* i<=size->size<=104* (i+n)->t.length=size-104* i
 |0,i,t,h,h1,h2=>by
  simp only[jt,aea.injEq] at h;subst h;simp;omega
 |n+1,i,t,h,h1,h2=>by
  rw[kV] at h;split at h
  ·cases h
  ·rename_i m j d hv;split at h
   ·rename_i hc;cases ht:jt D at' number size (i+1) n with
    |none=>rw[ht] at h;cases h
    |some u=>
     rw[ht] at h;simp only[aeB,aea.injEq] at h;subst h;have hd:d.data.toList.length=d.size:=rfl;by_cases h3:104* (i+1)<=size
     ·have:=wc n (i+1) ht h3 (by omega);rw[adT,this,hd,hc.2.2];omega
     ·
      have hz:∀(n i:Nat) {u:List UInt8},jt D at' number size i n=some u->size<=104* i->u.length=0:=by
       intro n
       induction n with
       |zero=>intro i u h _;simp only[jt,aea.injEq] at h;subst h;rfl
       |succ n ih=>
        intro i u h hle;rw[kV] at h;split at h
        ·cases h
        ·rename_i m j d hv;split at h
         ·rename_i hc;cases ht:jt D at' number size (i+1) n with
          |none=>rw[ht] at h;cases h
          |some v=>
           rw[ht] at h;simp only[aeB,aea.injEq] at h;subst h;have:=ih (i+1) ht (by omega);have hd:d.data.toList.length=d.size:=rfl;rw[adT,this,hd,hc.2.2];omega
         ·cases h
      have:=hz n (i+1) ht (by omega);rw[adT,this,hd,hc.2.2];omega
   ·cases h
def take_length{D:ay}{at' to number size:Int}{t:List UInt8}(h:take D at' to number size=some t):(t.length:Int)=size/\0<=at'/\at'+(dN size.toNat:Int)<=to/\to<=(D.safe.length:Int)/\0<=size:=by
 unfold take at h;split at h
 ·cases h
 ·rename_i hc;have hs:size.toNat<=104* dN size.toNat:=by unfold dN;split<;>omega
  have:=wc (dN size.toNat) 0 h (by omega) (by omega);omega
section
variable {W w:World} {L:LH} {k d:Nat} {D:ay}
def uR{r n:Nat}{x:List UInt8×Bool}{K:VK}(h:St W w L)(hk:L[k]?=some (zm r (bs x.1) x.2))(hl:x.1.length<1099511627776)(hn:1<=n/\n<=8)
 (hK:∀w',St W w' (L.set k (zm r (bs (da n x).1) (da n x).2))->K (.i (iG n x)) w'):aq (some ⟨r,0,none⟩) (n:Int) K w:=by
 refine xo h hk ?_;have em:min2 (max2 (n:Int) 1) 8=((n:Nat):Int):=by unfold min2 max2;split<;>split<;>omega
 rw[em];obtain⟨l,t⟩:=x;unfold da iG at hK;dsimp only at hK hl⊢;by_cases hc:t=true\/l.length<n
 ·rw[if_pos hc,if_pos hc] at hK;have et:nX (bs l) t ((n:Nat):Int)=true:=by
   unfold nX;rcases hc with h1|h1
   ·rw[h1];rfl
   ·rw[bJ,decide_eq_true (by omega)];simp
  unfold zn tT;rw[et,if_pos rfl,if_pos rfl];exact hK
 ·rw[if_neg hc,if_neg hc] at hK;have ht:t=false:=by cases t<;>simp_all
  have et:nX (bs l) t ((n:Nat):Int)=false:=by
   unfold nX;rw[ht,bJ,decide_eq_false (by omega)];rfl
  unfold zn tT;rw[et,adR,kQ,kP];exact hK
def Bc{r:Nat}{s:BA}{t:Bool}{K:VK}(h:St W w L)(hk:L[k]?=some (zm r s t))(hK:K (.bool t) w):bq (some ⟨r,0,none⟩) K w:=by
 unfold zm at hk;unfold bq;simp only[nz,adO,adP];refine bG h hk rfl ?_;simp only[nz,adO,adP];exact hK
def qM(n:Nat)(x:List UInt8×Bool):(da n x).1.length<=x.1.length:=by unfold da;split<;>simp
def KU{at' to seq:Int}{K:VK}(h:St W w L)(hk:L[k]?=some (dL d D))(ft:D.Ok)(ye:0<=at')(Pp:to<=(D.safe.length:Int))
 (hK:∀w',St W w' L->K (wF (iI D at' to seq)) w'):c8 (some ⟨d,0,none⟩) at' to seq K w:=by
 have rT:=ft.lh;unfold iI at hK;unfold c8;refine de (λh1=>?_) (λh1=>?_)
 ·rw[if_pos (by omega)] at hK;exact hK w h
 rw[if_neg (by omega)] at hK;refine nU h hk ft ?_;simp only[nz,adO,adP];have nY:=uA ft (i:=at') ⟨by omega,by omega⟩;generalize hx:(D.read at').1=X at *;rw[show X=bs X.data.toList from rfl];refine yt h (by rw[cy];omega) λw h=>?_;cases hv:iH X.data.toList with
 |none=>
  rw[hv] at hK;unfold pG;simp only[nz,adO,adP];simp only[td,ad8,ael,adU,adO,true_and];simp only[nz,adO,adP];refine fI h λr1 w h=>?_;refine⟨trivial,gv (k:=0) h rfl (adX rfl) (by simp[Value.oneCell']) λw h=>?_⟩;rw[eO (by simp)] at h;simp only[nz,adO,adP] at h;refine bG (k:=0) h rfl rfl ?_;simp only[nz,adO,adP];refine oq h λq w h=>?_;simp only[nz,adO,adP];refine uR (k:=0) (n:=8) (x:=([],false)) h rfl (by decide) (by decide) λw h=>?_;simp only[nz,adO,adP] at h⊢;unfold c8.j1;simp only[nz,adO,adP];exact hK w h.drop.drop
 |some y=>
  obtain⟨m,j,dd⟩:=y;rw[hv] at hK;dsimp only at hK;have Wf:=yF hv;have wU:dd.data.toList.length=dd.size:=rfl;unfold pG;simp only[nz,adO,adP];simp only[td,ad8,ael,adU,adO,true_and];simp only[nz,adO,adP];refine fI h λr1 w h=>?_;refine⟨trivial,gv (k:=0) h rfl (adX rfl) (by simp[Value.oneCell']) λw h=>?_⟩;rw[eO (by simp)] at h;simp only[nz,adO,adP] at h;refine bG (k:=0) h rfl rfl ?_;simp only[nz,adO,adP];rw[show dd=bs dd.data.toList from rfl];refine oq h λq w h=>?_;simp only[nz,adO,adP];have n1:=qM 8 (dd.data.toList,false);dsimp only at n1;refine uR (k:=0) (n:=8) (x:=(dd.data.toList,false)) h rfl (by dsimp only;omega) (by decide) λw h=>?_;simp only[nz,adO,adP] at h⊢;refine bG (k:=1) h rfl (v:=.i j) rfl ?_;simp only[nz,adO,adP];have stop:∀w,(∀w',St W w' L->K (wF none) w')->St W w (zm q (bs (da 8 (dd.data.toList,false)).1) (da 8 (dd.data.toList,false)).2::pt r1 [.i m,.i j,.string (bs dd.data.toList)]::L)->c8.j1 K (some ⟨q,0,none⟩) r1 (some ⟨d,0,none⟩) at' to true w:=λw hK h=>by
   unfold c8.j1;simp only[nz,adO,adP];exact hK w h.drop.drop
  refine qv (λhj=>?_) (λhj=>?_)
  ·rw[if_pos (.inl hj)] at hK;exact stop w hK h
  by_cases hq:iG 8 (dd.data.toList,false)=seq
  ·rw[if_neg (by rintro(hh|hh);exact hh hj;exact hh hq)] at hK;have eb:(iG 8 (dd.data.toList,false)!=seq)=false:=by rw[hq];exact bne_self_eq_false seq
   rw[eb];unfold c8.j1;simp only[nz,adO,adP];refine uR (k:=0) (n:=4) (x:=da 8 (dd.data.toList,false)) h rfl (by omega) (by decide) λw h=>?_;simp only[nz,adO,adP] at h⊢;refine Bc (k:=0) h rfl ?_;simp only[nz,adO,adP];have Dg:=D5 (da 8 (dd.data.toList,false));generalize hz:da 4 (da 8 (dd.data.toList,false))=z at *;generalize hn6:iG 4 (da 8 (dd.data.toList,false))=n6 at *;have Sl:∀w,(∀w',St W w' L->K (wF none) w')->St W w (zm q (bs z.1) z.2::pt r1 [.i m,.i j,.string (bs dd.data.toList)]::L)->c8.j2 K r1 (some ⟨d,0,none⟩) at' to n6 true w:=λw hK h=>by
    unfold c8.j2;simp only[nz,adO,adP];exact hK w h.drop.drop
   refine pA (λht=>?_) (λht=>?_)
   ·rw[if_pos (.inl ht)] at hK;exact Sl w hK h
   by_cases hm:32768<n6
   ·rw[if_pos (.inr hm)] at hK;rw[decide_eq_true hm];exact Sl w hK h
   ·rw[if_neg (by rintro(hh|hh);(rw[ht] at hh;cases hh);exact hm hh)] at hK;rw[decide_eq_false hm];unfold c8.j2;simp only[nz,adO,adP];refine bG (k:=1) h rfl (v:=.i m) rfl ?_;simp only[nz,adO,adP];have ew:adN.wrap (12+n6)=12+n6:=aw (by omega);rw[ew];refine DE (k:=k+2) h (by rw[ad7,ad7];exact hk) ft λw h=>?_;cases ht:take D at' to m (12+n6) with
    |none=>
     rw[ht] at hK;unfold oL;simp only[nz,adO,adP];exact hK w h.drop.drop
    |some t=>
     rw[ht] at hK;dsimp only at hK;obtain⟨l1,l2,l3,l4,l5⟩:=take_length ht;unfold oL;simp only[nz,adO,adP];refine jL h λw h=>?_;unfold jd;refine⟨⟨by omega,by rw[bJ];omega⟩,?_⟩;rw[show(12:Int).toNat=12 from rfl,kP];obtain⟨p,hp⟩:=ad1 (show 0<=12+n6 by omega);rw[hp] at hK⊢l3;refine ni (by omega) ?_;simp only[nz,adO,adP];rw[adR] at hK l3;have Yj:adN.wrap (at'+(dN p:Int))=at'+(dN p:Int):=aw (by omega);rw[Yj];exact hK w h.drop.drop
  ·rw[if_pos (.inr hq)] at hK;have eb:(iG 8 (dd.data.toList,false)!=seq)=true:=by simp[hq]
   rw[eb];exact stop w hK h
def Ie{seq:Int}{s:BA}{K:VK}(h:St W w L)(hs:s.size<=1000000)(hK:∀w',St W w' L->K (.string (bs (bE seq s))) w'):oN seq s K w:=by
 have hd:s.data.toList.length=s.size:=rfl;unfold oN;refine⟨trivial,?_⟩;refine fI h λp w hs=>?_;have hs:St W w (buf p []::L):=by
  have h2:=(hs.push (A:=own none 0 0 1 (([]:List UInt8).map rF)) (oM 1)).perm (aeh.swap _ _ _);exact pW (k:=0) (L:=buf p []::L) (A:=buf p []) rfl rfl h2
 refine gu (k:=0) hs rfl (by simp) λw hs=>?_;rw[show(min2 (max2 8 1) 8).toNat=8 from rfl] at hs;simp only[nz,adO,adP] at hs⊢;refine gu (k:=0) hs rfl (by simp only[adT,az,ael];omega) λw hs=>?_;rw[show(min2 (max2 4 1) 8).toNat=4 from rfl] at hs;simp only[nz,adO,adP] at hs⊢;refine mV (k:=0) hs rfl (by simp only[adT,az,ael];omega) λw hs=>?_;simp only[nz,adO,adP] at hs⊢;refine jk (k:=0) hs rfl ?_;simp only[nz,adO,adP];rw[aet];exact hK w hs.drop
structure PJ where
 lo:Int
 hi:Int
 at':Int
 seq:Int
 dH:Bool
def nJ(d:Nat)(J:PJ):LV:=[.p (some ⟨d,0,none⟩),.i J.lo,.i J.hi,.i J.at',.i J.seq,.bool J.dH]
structure PJ.Ok(J:PJ)(D:ay):Prop where
 lo:0<=J.lo
 J8:J.lo<=J.at'
 PF:J.at'<=J.hi
 hi:J.hi<=(D.safe.length:Int)
 seq:0<=J.seq/\J.seq<=1152921504606850000
def room(J:PJ)(n:Int):Prop:=0<=n/\n<=32768/\(dN (12+n.toNat):Int)<=J.hi-J.at'
instance(J:PJ)(n:Int):Decidable (room J n):=by unfold room;infer_instance
def yo(J:PJ)(s:BA)(R:ay×Int):ay×PJ×Int:=
 if R.2≠0 then(R.1,{J with dH:=true},R.2) else(R.1,{J with at':=J.at'+(dN (12+s.size):Int),seq:=J.seq+1},0)
def pw(D:ay)(J:PJ)(number:Int)(s:BA):ay×PJ×Int:=
 if J.dH=true then(D,J,9)
 else if number<1\/1152921504606846976<number then(D,J,1)
 else if ¬room J s.size\/1152921504606846976<=J.seq then(D,J,6)
 else yo J s (cQ D J.at' J.hi number (bs (bE (J.seq+1) s)))
section
variable {r:Nat} {J:PJ}
def OU{K:VK}(h:St W w L)(hk:L[k]?=some (pt r (nJ d J)))(hK:K (.i J.seq) w):gg (some ⟨r,0,none⟩) K w:=by
 unfold gg;simp only[nz,adO,adP];refine bG h hk rfl ?_;simp only[nz,adO,adP];exact hK
def EH{K:VK}(h:St W w L)(hk:L[k]?=some (pt r (nJ d J)))(hK:∀w',St W w' (L.set k (pt r (nJ d {J with at':=J.lo})))->K (.tuple ⟨[]⟩) w'):fN (some ⟨r,0,none⟩) K w:=by
 unfold fN;simp only[nz,adO,adP];refine bG h hk rfl ?_;simp only[nz,adO,adP];refine lR h hk (adX rfl) rfl λw h=>?_;exact hK w h
def Bd{n:Int}{K:VK}(h:St W w L)(hk:L[k]?=some (pt r (nJ d J)))(hJ:J.Ok D)(ft:D.Ok)(hK:∀w',St W w' L->K (.bool (decide (room J n))) w'):fM (some ⟨r,0,none⟩) n K w:=by
 have rT:=ft.lh;obtain⟨j1,j2,j3,j4,j5⟩:=hJ;unfold fM;refine jL h λw h=>?_;have hh:=hK w h;have no: ¬room J n->K (.bool false) w:=λhn=>by rw[decide_eq_false hn] at hh;exact hh
 simp only[nz,adO,adP];refine de (λh1=>?_) (λh1=>no (λhr=>by have:=hr.1;omega));refine de (λh2=>?_) (λh2=>no (λhr=>by have:=hr.2.1;omega));refine bG h hk rfl ?_;simp only[nz,adO,adP];refine bG h hk rfl ?_;simp only[nz,adO,adP];obtain⟨m,rfl⟩:=ad1 (show 0<=n by omega);have ew:adN.wrap (12+(m:Int))=((12+m:Nat):Int):=by rw[aw (by omega)];omega
 rw[ew];refine ni (by omega) ?_;simp only[nz,adO,adP];refine gw h hk rfl ?_;refine gw h hk rfl ?_;have Yj:adN.wrap (J.hi-J.at')=J.hi-J.at':=aw (by omega);rw[Yj];have:decide ((dN (12+m):Int)<=J.hi-J.at')=decide (room J m):=by
  rw[decide_eq_decide];unfold room;rw[adR];omega
 rw[this];exact hh
def K0{k2:Nat}{number:Int}{s:BA}{K:VK}(h:St W w L)(hk:L[k]?=some (pt r (nJ d J)))(ru:L[k2]?=some (dL d D))(gS:k≠k2)(hJ:J.Ok D)(ft:D.Ok)(hl:D.later.length<1000000)(hs:s.size<=reachBytes)
 (hK:∀w',St W w' ((L.set k2 (dL d (pw D J number s).1)).set k (pt r (nJ d (pw D J number s).2.1)))->K (.i (pw D J number s).2.2) w'):aV (some ⟨r,0,none⟩) number s K w:=by
 have cT:s.size<=140737488351232:=hs;have rT:=ft.lh;obtain⟨j1,j2,j3,j4,j5⟩:=hJ;have hJ:J.Ok D:=⟨j1,j2,j3,j4,j5⟩;have same:∀e,pw D J number s=(D,J,e)->∀w,St W w L->K (.i e) w:=λe he w h=>by
  have:=hK w;rw[he] at this;refine this ?_;rw[jO ru,jO hk];exact h
 unfold aV;simp only[nz,adO,adP];refine bG h hk rfl ?_;simp only[nz,adO,adP];refine pA (λEU=>same 9 (by unfold pw;rw[if_pos EU]) w h) (λEU=>?_);have Ui: ¬J.dH=true:=by rw[EU];exact afj
 have bad:(number<1\/1152921504606846976<number)->aV.j1 K (some ⟨r,0,none⟩) s number true w:=λhb=>by
  unfold aV.j1;simp only[nz,adO,adP];exact same 1 (by unfold pw;rw[if_neg Ui,if_pos hb]) w h
 refine de (λh1=>bad (.inl h1)) (λh1=>?_);by_cases h2:1152921504606846976<number
 ·rw[decide_eq_true h2];exact bad (.inr h2)
 rw[decide_eq_false h2];have hnb: ¬(number<1\/1152921504606846976<number):=by omega
 unfold aV.j1;simp only[nz,adO,adP];refine Bd h hk hJ ft λw h=>?_;have full:(¬room J s.size\/1152921504606846976<=J.seq)->∀w,St W w L->aV.j2 K (some ⟨r,0,none⟩) s number true w:=λhb w h=>by
  unfold aV.j2;simp only[nz,adO,adP];exact same 6 (by unfold pw;rw[if_neg Ui,if_neg hnb,if_pos hb]) w h
 simp only[nz,adO,adP];by_cases hr:room J s.size
 case neg=>
  rw[decide_eq_false hr];simp only[nz,adO,adP];exact full (.inl hr) w h
 rw[decide_eq_true hr];simp only[nz,adO,adP];refine bG h hk rfl ?_;simp only[nz,adO,adP];by_cases L9:1152921504606846976<=J.seq
 ·have:decide (J.seq>=1152921504606846976)=true:=decide_eq_true L9;rw[this];exact full (.inr L9) w h
 have e0:decide (J.seq>=1152921504606846976)=false:=decide_eq_false L9;rw[e0];unfold pw at hK;rw[if_neg Ui,if_neg hnb,if_neg (by rintro(hh|hh);exact hh hr;exact L9 hh)] at hK;unfold aV.j2;simp only[nz,adO,adP];refine jL h λw h=>?_;refine bG h hk rfl ?_;simp only[nz,adO,adP];refine bG h hk rfl ?_;simp only[nz,adO,adP];refine bG h hk rfl ?_;simp only[nz,adO,adP];refine bG h hk rfl ?_;simp only[nz,adO,adP];have ew:adN.wrap (J.seq+1)=J.seq+1:=aw (by omega);rw[ew];refine Ie h (by have:=hr.2.1;omega) λw h=>?_;simp only[nz,adO,adP];refine gw h hk rfl ?_;refine gw h hk rfl ?_;refine gw h hk rfl ?_;refine gw h hk rfl ?_;have wT:(bs (bE (J.seq+1) s)).size=12+s.size:=by rw[bJ,u9]
 have NQ:=hr.2.1;refine BX (k:=k2) h ru ft (by omega) (by rw[wT];show _<=140737488351232;omega) λw h=>?_;simp only[nz,adO,adP];have Wh:dN (12+s.size)<=400:=by unfold dN;split<;>omega
 have Ld:=(Eb (at':=J.at') (to:=J.hi) (number:=number) (s:=bs (bE (J.seq+1) s)) ft (by rw[wT];omega)).1;have yb:(L.set k2 (dL d (lay D J.at' J.hi number (bs (bE (J.seq+1) s))).1))[k]?=some (pt r (nJ d J)):=by rw[List.getElem?_set_ne (λhh=>gS hh.symm)];exact hk
 refine gw h yb rfl ?_;unfold cQ at hK;generalize hL:lay D J.at' J.hi number (bs (bE (J.seq+1) s))=R at *;obtain⟨D1,e1⟩:=R;dsimp only at h Ld yb hK⊢;have fin:∀(R:ay×Int) w,(∀w',St W w' ((L.set k2 (dL d (yo J s R).1)).set k (pt r (nJ d (yo J s R).2.1)))->K (.i (yo J s R).2.2) w')->
  St W w (L.set k2 (dL d R.1))->aV.j3 K (some ⟨r,0,none⟩) s R.2 w:=λR w hK h=>by
  unfold yo at hK;obtain⟨D2,e2⟩:=R;dsimp only at hK h⊢;have SH:(L.set k2 (dL d D2))[k]?=some (pt r (nJ d J)):=by rw[List.getElem?_set_ne (λhh=>gS hh.symm)];exact hk
  unfold aV.j3;refine qv (λhe=>?_) (λhe=>?_)
  ·rw[if_pos he] at hK;simp only[nz,adO,adP];refine lR h SH (adX rfl) rfl λw h=>?_;exact hK w h
  ·rw[if_neg (λhh=>hh he)] at hK;refine jL h λw h=>?_;simp only[nz,adO,adP];refine bG h SH rfl ?_;simp only[nz,adO,adP];have Yj:adN.wrap (12+(s.size:Int))=((12+s.size:Nat):Int):=by rw[aw (by omega)];omega
   rw[Yj];refine ni (by omega) ?_;simp only[nz,adO,adP];refine gw h SH rfl ?_;have ew3:adN.wrap (J.at'+(dN (12+s.size):Int))=J.at'+(dN (12+s.size):Int):=aw (by omega);rw[ew3];refine lR h SH (adX rfl) rfl λw h=>?_;refine bG h (fV SH) rfl ?_;simp only[nz,adO,adP];rw[ew];refine lR h (fV SH) (adX rfl) rfl λw h=>?_;rw[ae4] at h;exact hK w h
 have eqb:∀e:Int,(e==0)=decide (e=0):=λe=>by by_cases he:e=0<;>simp[he]
 by_cases he:e1=0
 ·rw[if_neg (λhh=>hh he: ¬e1≠0)] at hK;have:(e1==0)=true:=by rw[eqb];exact decide_eq_true he
  rw[this];simp only[nz,adO,adP];refine bG h yb rfl ?_;simp only[nz,adO,adP];refine qA (k:=k2) h (fV ru) Ld λw h=>?_;rw[ae4] at h;simp only[nz,adO,adP];exact fin D1.sync w hK h
 ·rw[if_pos he] at hK;have:(e1==0)=false:=by rw[eqb];exact decide_eq_false he
  rw[this];simp only[nz,adO,adP];exact fin (D1,e1) w hK h
end
end
end Go.Sep
namespace Go.Up
open Go.Sep Go.Den Go.RowKit Go.Prog Go.Md Go.bu
def nb(n:Nat):List UInt8:=(afl 16).map λi=>UInt8.ofNat (n/256^i%256)
def rl(n:Nat):(nb n).length=16:=by simp[nb]
def E'(m i:Nat)(hi:i<8):Value.int .u8 (IntKind.u8.wrap (shr .u64 (m:Int) (adN.wrap (8* (i:Int)))))=rF (UInt8.ofNat (m/256^i%256)):=by
 rw[aw (by omega)];unfold rF shr;rw[UInt8.toNat_ofNat_of_lt' (by show _<256;omega),Int.fdiv_eq_ediv_of_nonneg _ (Int.le_of_lt (Int.pow_pos (by decide)))]
 congr 1
 have e8:∀x:Int,IntKind.u8.wrap x=x%256:=λx=>by simp[IntKind.wrap,IntKind.bits,IntKind.signed]
 have e2:(8* (i:Int)).toNat=8* i:=by omega
 have e4:min (8* i) IntKind.u64.bits=8* i:=by show min (8* i) 64=_;omega
 have e3:(2:Int)^(8* i)=((256^i:Nat):Int):=by rw[Int.pow_mul];norm_cast
 rw[e8,e2,e4,e3];omega
def W4(n i:Nat)(hi:i<8):n%18446744073709551616/256^i%256=n/256^i%256:=by
 match i,hi with
 |0,_|1,_|2,_|3,_|4,_|5,_|6,_|7,_=>omega
def W5(n i:Nat)(hi:i<8):n/18446744073709551616/256^i%256=n/256^(8+i)%256:=by
 match i,hi with
 |0,_|1,_|2,_|3,_|4,_|5,_|6,_|7,_=>omega
section
variable {W:World} {L:LH} {K:VK} {X:WK}
def yB{r o:Nat}{cs:LV}{v:Value}{f:LV->LH}[i:Lc (pt r) L cs f](ho:o<cs.length)(h1:v.oneCell'=true)(h:T W (f (cs.set o v)) X):T W L (st ⟨r,o,none⟩ v X):=λw hs=>by
 obtain⟨k,hk,e⟩:=i.at_;exact lR hs hk ho h1 λw' h'=>h w' (by rw[e];exact h')
def Sk{r:Nat}{l:List UInt8}{f:LV->LH}{K:BA->WK}[i:Lc (pt r) L (l.map rF) f](h:T W L (K (bs l))):T W L (RN (some ⟨r,0,none⟩) l.length K):=λw hs=>
 let⟨_,hk,_⟩:=i.at_;OJ hs hk rfl (h w hs)
def Sn(b:OA)(c e:Nat):tN b c 0 e=b:=by
 unfold tN;split
 ·rfl
 ·cases b with
  |none=>rfl
  |some a=>simp[Addr.add]
def PZ{b:OA}{n c e:Nat}{K:OA->Nat->Nat->WK}(h:T W L (K b n c)):T W L (nV b n c e none none K):=by
 unfold nV;rw[Sn];exact h
def HS(n i:Nat):LV:=(afl 16).map λj=>if j<i\/8<=j/\j<8+i then rF (UInt8.ofNat (n/256^j%256)) else .int .u8 0
def R7{n:Nat}(h:T W L (K (.string (bs (nb n))))):T W L (sq (nm n) K):=by
 unfold sq;apply ws;intros;rename_i r1 r2;intro w hs;refine⟨λvs w=>∃i:Nat,i<=8/\vs=[.p (some (ad r1 0)),.string .empty,.p (some (ad r2 0)),.i (i:Int)]/\St W w (pt r2 (HS n i)::pt r1 (nm n)::L),
  λvs _=>match vs with|[_,_,_,.int _ j]=>8-j.toNat|_=>0,⟨0,ad0 _,rfl,hs⟩,?_⟩
 rintro a1 s1 a2 n1 w2 ⟨i,hi,e,hs⟩;cases e
 refine T.at ?_ hs;refine dO (λh1=>?_) (λh1=>?_)
 ·have aZ:i<8:=by omega
  have e8:adN.wrap (8* (i:Int))=8* (i:Int):=aw (by omega);have e9:adN.wrap (8+(i:Int))=((8+i:Nat):Int):=by rw[aw (by omega)];omega
  have e5:=l9 i;simp only[dW,adU,e8,e9,e5,adR,afm]
  repeat' first|apply ws;intros|apply wb|with_reducible first|refine cK (by omega) ?_|refine yB (by simp[HS];omega) rfl ?_|fail
  rw[<-e8,E' _ _ aZ,E' _ _ aZ,W4 _ _ aZ,W5 _ _ aZ];have e:((HS n i).set i (rF (UInt8.ofNat (n/256^i%256)))).set (8+i) (rF (UInt8.ofNat (n/256^(8+i)%256)))=HS n (i+1):=by
   apply afa;intro j;rw[aem,aem];simp only[HS,aeV,aeg,List.length_range,aeD];by_cases h1:8+i=j
   ·subst h1;rw[if_pos rfl,if_pos (by omega),afi (by omega),aeB,if_pos (by omega)]
   ·rw[if_neg h1];by_cases h2:i=j
    ·subst h2;rw[if_pos rfl,if_pos (by omega),afi (by omega),aeB,if_pos (by omega)]
    ·rw[if_neg h2];by_cases h3:j<16
     ·rw[afi h3,aeB,aeB];by_cases h4:j<i\/8<=j/\j<8+i
      ·rw[if_pos h4,if_pos (by omega)]
      ·rw[if_neg h4,if_neg (by omega)]
     ·rw[aeR (by simpa using h3)];rfl
  rw[e];exact λw3 h3=>⟨⟨i+1,aZ,rfl,h3⟩,by show 8-((i+1:Nat):Int).toNat<8-(i:Int).toNat;omega⟩
 ·have he:i=8:=by omega
  subst he;have e:HS n 8=(nb n).map rF:=by
   unfold HS nb;rw[afr];apply ae7;intro j hj;rw[if_pos (by have:=List.mem_range.1 hj;omega)];rfl
  rw[e];refine PZ ?_;have:=Sk (W:=W) (L:=Sep.pt r2 ((nb n).map rF)::Sep.pt r1 (nm n)::L) (r:=r2) (l:=nb n) (K:=λs2=>K (.string s2)) (by exact T.dp h);rw[rl] at this;exact this
def WU{A j:Nat}{c:UInt8}(hj:j<8)(hA:A<256^j):bA .u64 .or (A:Int) (shl .u64 (IntKind.u64.wrap (c.toNat:Int)) (8* (j:Int)))=((A+c.toNat* 256^j:Nat):Int):=by
 have hc:=c.toNat_lt;have K7:256^j=2^(8* j):=by rw[show(256:Nat)=2^8 from rfl,<-Nat.pow_mul]
 have aaw:c.toNat* 2^(8* j)+2^(8* j)<=2^64:=by
  have h1:(c.toNat+1)* 2^(8* j)<=2^8* 2^(8* j):=aeC _ hc;rw[<-Nat.pow_add,afe,Nat.one_mul] at h1;exact Nat.le_trans h1 (aeH (by decide) (by omega))
 rw[K7] at hA;have ew:IntKind.u64.wrap (c.toNat:Int)=(c.toNat:Int):=oo (by omega);have esh:shl .u64 (c.toNat:Int) (8* (j:Int))=((c.toNat* 2^(8* j):Nat):Int):=by
  unfold shl;have h1:(8* (j:Int)).toNat=8* j:=by omega
  have h2:min (8* j) IntKind.u64.bits=8* j:=by show min (8* j) 64=_;omega
  rw[h1,h2];have:((c.toNat:Int)* 2^(8* j))=((c.toNat* 2^(8* j):Nat):Int):=by norm_cast
  rw[this];exact oo (by omega)
 rw[ew,esh,K7];show IntKind.u64.wrap (((BitVec.ofInt 64 (A:Int)|||BitVec.ofInt 64 ((c.toNat* 2^(8* j):Nat):Int)).toNat:Nat):Int)=_;rw[BitVec.toNat_or];have t1:(BitVec.ofInt 64 (A:Int)).toNat=A:=by simp only[BitVec.toNat_ofInt];omega
 have t2:(BitVec.ofInt 64 ((c.toNat* 2^(8* j):Nat):Int)).toNat=c.toNat* 2^(8* j):=by simp only[BitVec.toNat_ofInt];omega
 rw[t1,t2,Nat.or_comm,<-Nat.shiftLeft_eq,<-Nat.shiftLeft_add_eq_or_of_lt hA,Nat.add_comm,Nat.shiftLeft_eq];exact oo (by omega)
def DM{l:List UInt8}{i:Nat}{K:UInt8->WK}{c:UInt8}(hc:l[i]?=some c)(h:T W L (K c)):T W L (u3 (bs l) (i:Int) K):=λw hs=>⟨c,⟨by omega,by rw[adR];exact hc⟩,h w hs⟩
def Aj:∀(l m:List UInt8),ka (l++m)=ka l+256^l.length* ka m
 |[],m=>by simp[ka]
 |c::l,m=>by simp only[ae3,ka,Aj l m,ad8,Nat.pow_succ];rw[Nat.mul_add,Nat.add_assoc,afo (256^l.length) 256,Nat.mul_assoc]
def KP(l:List UInt8):Nat:=if l.length<16 then 0 else ka (l.take 16)
def G8{l:List UInt8}(hl:l.length<1099511627776)(h:T W L (K (.tuple ⟨[.agg ⟨nm (KP l)⟩,.bool (decide (16<=l.length))]⟩))):T W L (nC (bs l) K):=by
 unfold nC KP at *;rw[bJ];apply ws;intros;rename_i r1 r2;refine dO (λh1=>?_) (λh1=>?_)
 ·have h2:l.length<16:=by omega
  rw[if_pos h2,decide_eq_false (by omega)] at h;apply ws;intros;exact T.dp h
 have h2: ¬l.length<16:=by omega
 rw[if_neg h2,decide_eq_true (by omega)] at h;intro w hs;refine⟨λvs w=>∃i:Nat,i<=8/\vs=[.p (some (ad r1 0)),.bool false,.p (some (ad r2 0)),.i (i:Int)]/\St W w (Sep.pt r2 [.u (ka ((l.drop 8).take i):Int),.u (ka (l.take i):Int)]::Sep.pt r1 [.u 0,.u 0]::L),
  λvs _=>match vs with|[_,_,_,.int _ j]=>8-j.toNat|_=>0,⟨0,ad0 _,rfl,hs⟩,?_⟩
 rintro a1 b1 a2 n1 w2 ⟨i,hi,e,hs⟩;cases e
 refine T.at ?_ hs;refine dO (λh1=>?_) (λh1=>?_)
 ·have aZ:i<8:=by omega
  have e8:adN.wrap (8* (i:Int))=8* (i:Int):=aw (by omega);have e9:adN.wrap (8+(i:Int))=((8+i:Nat):Int):=by rw[aw (by omega)];omega
  have e5:=l9 i;have g1:i<l.length:=by omega
  have g2:8+i<l.length:=by omega
  have v1:=oI (l.take i);have v2:=oI ((l.drop 8).take i);rw[adV,afh (by omega)] at v1;rw[adV,ad2,afh (by omega)] at v2;have c1:=adQ g1;have c2:=adQ g2;simp only[dW,adU,e8,e9,e5];apply ws;intros;refine DM c1 ?_
  repeat' first|apply ws;intros|apply wb|with_reducible first|refine cK (by omega) ?_|refine DM c1 ?_|refine DM c2 ?_|fail
  rw[WU aZ v1,WU aZ v2];have t1:ka (l.take i)+l[i].toNat* 256^i=ka (l.take (i+1)):=by rw[aeK g1,oV,adV,afh (by omega)]
  have t2:ka ((l.drop 8).take i)+l[8+i].toNat* 256^i=ka ((l.drop 8).take (i+1)):=by
   have hd:min i (l.drop 8).length=i:=by rw[ad2];omega
   rw[aeK (by rw[ad2];omega),oV,adV,hd,List.getElem_drop]
  rw[t1,t2];exact λw3 h3=>⟨⟨i+1,aZ,rfl,h3⟩,by show 8-((i+1:Nat):Int).toNat<8-(i:Int).toNat;omega⟩
 ·have he:i=8:=by omega
  subst he;have v1:=oI (l.take 8);rw[adV,afh (by omega)] at v1;have e:l.take 16=l.take 8++(l.drop 8).take 8:=by rw[<-List.take_add]
  have ev:ka (l.take 16)=ka (l.take 8)+18446744073709551616* ka ((l.drop 8).take 8):=by
   rw[e,Aj,adV,afh (by omega)]
  have e3:(256:Nat)^8=18446744073709551616:=rfl;rw[Nu (ka (l.take 16)) (by omega) (by omega)];apply ws;intros;exact T.dp h
end
class oS(b:OA)(n c:outParam Nat)(L:LH)(e:outParam Nat)(xs:outParam (LV))(f:outParam (HP->LH)):Prop where
 at_:∃k:Nat,L[k]?=some (own b n c e xs)/\∀A,f A=L.set k A
instance oS.head{b:OA}{n c e:Nat}{xs:LV}{L:LH}:oS b n c (own b n c e xs::L) e xs (λA=>A::L):=⟨0,rfl,λ_=>rfl⟩
instance oS.tail{b:OA}{n c e:Nat}{xs:LV}{L:LH}{A:HP}{f:HP->LH}[h:oS b n c L e xs f]:oS b n c (A::L) e xs (λB=>A::f B):=by
 obtain⟨k,h1,h2⟩:=h.at_;exact⟨k+1,h1,λy=>by rw[h2];rfl⟩
section
variable {W:World} {L:LH} {K:VK} {X:WK} {b:OA} {n c e:Nat} {xs ys:LV} {f:HP->LH}
def MT{s:BA}{K:OA->Nat->Nat->WK}[i:oS b n c L 1 xs f](hb:n+s.size<=140737488355328)(h:∀b' c',T W (f (own b' (n+s.size) c' 1 (xs++strCells s))) (K b' (n+s.size) c')):T W L (BR b n c s K):=λw hs=>by
 obtain⟨k,hk,e⟩:=i.at_;exact BQ hs hk hb λb' c' w' h'=>h b' c' w' (by rw[e];exact h')
def MU{r bytes:Nat}{zero:LV}{g:LV->LH}{K:OA->Nat->Nat->WK}[i:oS b n c L e xs f][j:Lc (Sep.pt r) L ys g](hy:ys.length=e)(hz:zero.length=e)(hb:(n+1)* bytes<=140737488355328)(h1:∀v∈ys,v.oneCell'=true)
 (h:∀b' c',T W (f (own b' (n+1) c' e (xs++ys))) (K b' (n+1) c'))(hm:n+1<=9223372036854775807:=by omega):T W L (eS e bytes zero b n c (some ⟨r,0,none⟩) 1 K):=λw hs=>by
 obtain⟨k,hk,e1⟩:=i.at_;obtain⟨k2,ru,_⟩:=j.at_;refine pZ hs hk (ys:=ys) (BU (o:=0) hs ru (by omega) λj v hv=>by rw[adU];exact hv) (λhh=>by cases hh) hz hb hm h1 λb' c' w' h'=>h b' c' w' (by rw[e1];exact h')
def bR{i:Int}{K:Addr->WK}[l:oS b n c L e xs f](hi:0<=i/\i<n)(h:∀r,b=some ⟨r,0,none⟩->T W L (K ⟨r,i.toNat* e,none⟩)):T W L (fO b n i e K):=λw hs=>by
 obtain⟨k,hk,_⟩:=l.at_;exact sL hs hk hi λr hr=>h r hr w hs
def rd(r:Nat)(x:List UInt8×Bool):HP:=zm r (bs x.1) x.2
variable {r:Nat} {x:List UInt8×Bool} {g:List UInt8×Bool->LH}
def EJ[i:Lc (rd r) L x g](hl:x.1.length<1099511627776)(m:Nat)(hm:1<=m/\m<=8)(h:T W (g (da m x)) (K (.i (iG m x)))):T W L (aq (some ⟨r,0,none⟩) (m:Int) K):=λw hs=>by
 obtain⟨k,hk,e⟩:=i.at_;exact uR hs hk hl hm λw' h'=>h w' (by rw[e];exact h')
def ra[i:Lc (rd r) L x g](hl:x.1.length<1099511627776)(h:T W (g (da 1 x)) (K (.i (iG 1 x)))):T W L (aq (some ⟨r,0,none⟩) 1 K):=EJ hl 1 (by decide) h
def Aa[i:Lc (rd r) L x g](hl:x.1.length<1099511627776)(h:T W (g (da 2 x)) (K (.i (iG 2 x)))):T W L (aq (some ⟨r,0,none⟩) 2 K):=EJ hl 2 (by decide) h
def Kh[i:Lc (rd r) L x g](hl:x.1.length<1099511627776)(h:T W (g (da 4 x)) (K (.i (iG 4 x)))):T W L (aq (some ⟨r,0,none⟩) 4 K):=EJ hl 4 (by decide) h
def s9[i:Lc (rd r) L x g](hl:x.1.length<1099511627776)(h:T W (g (da 8 x)) (K (.i (iG 8 x)))):T W L (aq (some ⟨r,0,none⟩) 8 K):=EJ hl 8 (by decide) h
def vS(x:List UInt8×Bool):Nat:=if x.2=true then 0 else KP x.1
def qM(m:Nat)(x:List UInt8×Bool):(da m x).1.length<=x.1.length:=by
 unfold da;split
 ·exact adW _
 ·simp
def VU(m:Nat)(x:List UInt8×Bool):List UInt8:=if x.2=true\/x.1.length<m then[] else x.1.take m
def VB[i:Lc (rd r) L x g](m:Nat)(h:T W (g (da m x)) (K (.string (bs (VU m x))))):T W L (cE (some ⟨r,0,none⟩) (m:Int) K):=λw hs=>by
 obtain⟨k,hk,e⟩:=i.at_;refine BW hs (show L[k]?=some (zm r (bs x.1) x.2) from hk) λw' h'=>?_;obtain⟨l,t⟩:=x;unfold da VU at h;dsimp only at h h'⊢;by_cases hc:t=true\/l.length<m
 ·rw[if_pos hc,if_pos hc] at h;have et:nX (bs l) t m=true:=by
   unfold nX;rcases hc with h1|h1
   ·rw[h1];rfl
   ·rw[bJ,decide_eq_true (by omega)];simp
  unfold zn tT at *;rw[et] at h'⊢;exact h w' (by rw[e];exact h')
 ·rw[if_neg hc,if_neg hc] at h;have ht:t=false:=by cases t<;>simp_all
  have et:nX (bs l) t m=false:=by
   unfold nX;rw[ht,bJ,decide_eq_false (by omega)];rfl
  unfold zn tT at *;rw[et,adR,kP] at h';rw[et,adR,kQ];exact h w' (by rw[e];exact h')
def QB(x:List UInt8×Bool):KP (VU 16 x)=vS x:=by
 unfold vS VU KP;obtain⟨l,t⟩:=x;cases t with
 |true=>rfl
 |false=>
  dsimp only;by_cases h2:l.length<16
  ·have e:(if false=true\/l.length<16 then([]:List UInt8) else l.take 16)=[]:=if_pos (Or.inr h2);rw[e];simp[h2]
  ·have e:(if false=true\/l.length<16 then([]:List UInt8) else l.take 16)=l.take 16:=if_neg (by simp;omega);rw[e,afn,adV,if_neg (by omega),if_neg (by decide),if_neg h2];rfl
def EI[i:Lc (rd r) L x g](hl:x.1.length<1099511627776)(h:T W (g (da 16 x)) (K (.agg ⟨nm (vS x)⟩))):T W L (bm (some ⟨r,0,none⟩) K):=by
 unfold bm;apply ws;intros;refine VB 16 ?_;have hr:(VU 16 x).length<1099511627776:=by unfold VU;split<;>simp;omega
 repeat' first|apply ws;intros|apply wb|with_reducible refine G8 hr ?_|fail
 rw[QB];exact T.dp h
def uQ[i:Lc (rd r) L x g](h:T W L (K (.bool x.2))):T W L (bq (some ⟨r,0,none⟩) K):=λw hs=>by
 obtain⟨k,hk,e⟩:=i.at_;exact Bc hs (show L[k]?=some (zm r (bs x.1) x.2) from hk) (h w hs)
def O0[i:Lc (rd r) L x g](h:T W L (K (.bool (!x.2&&decide (x.1=[]))))):T W L (iA (some ⟨r,0,none⟩) K):=λw hs=>by
 obtain⟨k,hk,e⟩:=i.at_;exact G9 hs (show L[k]?=some (zm r (bs x.1) x.2) from hk) (h w hs)
def MI{α:Type}{P:α->HP}{a:α}{f:α->LH}[i:Lc P L a f](h:∀R,(∀y Y,T W (f y) Y->T W (P y::R) Y)->T W (P a::R) X):T W L X:=λw hs=>by
 obtain⟨k,hk,e⟩:=i.at_;refine h (L.eraseIdx k) (λy Y hy w' h'=>hy w' ?_) w (hs.focus hk);rw[e];exact St.nE h' hk
def RY[i:Lc (rd r) L x g](h:T W L (K (.i (if x.2=true then 0 else(x.1.length:Int))))):T W L (mq (some ⟨r,0,none⟩) K):=by
 unfold mq;simp only[zO,dW,adU,Option.isNone_some,cf];intro w hs;obtain⟨k,hk,e⟩:=i.at_;refine bG hs (show L[k]?=some (Sep.pt r [.string (bs x.1),.bool x.2]) from hk) rfl ?_;rw[Mt];cases hx:x.2 with
 |true=>rw[gU];rw[hx,if_pos rfl] at h;exact h w hs
 |false=>
  rw[cf];refine bG hs (show L[k]?=some (Sep.pt r [.string (bs x.1),.bool x.2]) from hk) rfl ?_;rw[Ms];rw[hx,if_neg (by decide)] at h;exact h w hs
variable {p:Nat} {l:List UInt8} {q:List UInt8->LH}
def ED[i:Lc (buf p) L l q](hl:l.length<1099511627776)(m:Nat)(hm:1<=m/\m<=8){n:Int}(h:T W (q (l++le .i64 m n)) (K (.tuple ⟨[]⟩))):T W L (aD (some ⟨p,0,none⟩) (m:Int) n K):=λw hs=>by
 obtain⟨k,hk,e⟩:=i.at_;refine gu hs hk hl λw' h'=>h w' ?_;have em:min2 (max2 (m:Int) 1) 8=((m:Nat):Int):=by unfold min2 max2;split<;>split<;>omega
 rw[em,adR] at h';rw[e];exact h'
def pM[i:Lc (buf p) L l q](hl:l.length<1099511627776){n:Int}(h:T W (q (l++le .i64 1 n)) (K (.tuple ⟨[]⟩))):T W L (aD (some ⟨p,0,none⟩) 1 n K):=ED hl 1 (by decide) h
def z'[i:Lc (buf p) L l q](hl:l.length<1099511627776){n:Int}(h:T W (q (l++le .i64 2 n)) (K (.tuple ⟨[]⟩))):T W L (aD (some ⟨p,0,none⟩) 2 n K):=ED hl 2 (by decide) h
def Kb[i:Lc (buf p) L l q](hl:l.length<1099511627776){n:Int}(h:T W (q (l++le .i64 4 n)) (K (.tuple ⟨[]⟩))):T W L (aD (some ⟨p,0,none⟩) 4 n K):=ED hl 4 (by decide) h
def uP[i:Lc (buf p) L l q](hl:l.length<1099511627776){n:Int}(h:T W (q (l++le .i64 8 n)) (K (.tuple ⟨[]⟩))):T W L (aD (some ⟨p,0,none⟩) 8 n K):=ED hl 8 (by decide) h
def qa[i:Lc (buf p) L l q](h:T W L (K (.string (bs l)))):T W L (bW (some ⟨p,0,none⟩) K):=λw hs=>by
 obtain⟨k,hk,e⟩:=i.at_;exact jk hs hk (h w hs)
def WJ[i:Lc (buf p) L l q](h:∀b c R,(∀l' b n c Y,n=l'.length->T W (q l') Y->T W (Sep.pt p [.l b n c]::own b n c 1 (l'.map rF)::R) Y)->T W (Sep.pt p [.l b l.length c]::own b l.length c 1 (l.map rF)::R) X):T W L X:=
 MI (P:=buf p) λR hc w hs=>by
  obtain⟨⟨b,c⟩,hs⟩:=hs.ex;exact h b c R (λl' b n c Y hn hy w h'=>hc l' Y hy w (by subst hn;exact St.nM (b,c) (St.join h'))) w hs.split
def EC[i:Lc (buf p) L l q](hl:l.length<1099511627776){n:Nat}(h:T W (q (l++nb n)) (K (.tuple ⟨[]⟩))):T W L (iz (some ⟨p,0,none⟩) (nm n) K):=by
 unfold iz;refine WJ (p:=p) λb c R hc=>?_;simp only[zO]
 repeat' first|apply ws;intros|apply wb|with_reducible first|refine R7 ?_|refine MT (by rw[bJ,rl];omega) λ_ _=>?_|fail
 have e:l.map rF++strCells (bs (nb n))=(l++nb n).map rF:=by rw[aen];rfl
 rw[e];exact T.drop (hc _ _ _ _ _ (by rw[adT,bJ]) h)
def RV[i:Lc (buf p) L l q](hl:l.length<1099511627776){b:Bool}(h:T W (q (l++[if b then 1 else 0])) (K (.tuple ⟨[]⟩))):T W L (mo (some ⟨p,0,none⟩) b K):=by
 unfold mo;cases b with
 |true=>rw[gU];refine pM hl (xu ?_);exact h
 |false=>rw[cf];refine pM hl (xu ?_);exact h
end
end Go.Up
namespace Go.Up
open Go.Sep Go.Den Go.Md
def CE{p:Int->Prop}(n:Nat)(h:∀f:Fin n,p (f.val:Int)){f:Int}(h0:0<=f)(h1:f<n):p f:=by
 have:=h ⟨f.toNat,by omega⟩;simp only[Int.toNat_of_nonneg h0] at this;exact this
section
variable {f:Int}
def GV(h0:0<=f)(h1:f<256):bA .i64 .and f 2=0↔ ¬(has f 2):=CE (p:=λf=>bA .i64 .and f 2=0↔ ¬(has f 2)) 256 (by decide+kernel) h0 h1
def GU(h0:0<=f)(h1:f<256):bA .i64 .and f 4=0↔ ¬(has f 4):=CE (p:=λf=>bA .i64 .and f 4=0↔ ¬(has f 4)) 256 (by decide+kernel) h0 h1
def OH(h0:0<=f)(h1:f<256):bA .i64 .and f 8=0↔ ¬(has f 8):=CE (p:=λf=>bA .i64 .and f 8=0↔ ¬(has f 8)) 256 (by decide+kernel) h0 h1
def Vr(h0:0<=f)(h1:f<256):bA .i64 .and f 16=0↔ ¬(has f 16):=CE (p:=λf=>bA .i64 .and f 16=0↔ ¬(has f 16)) 256 (by decide+kernel) h0 h1
def Vq(h0:0<=f)(h1:f<256):bA .i64 .and f 32=0↔ ¬(has f 32):=CE (p:=λf=>bA .i64 .and f 32=0↔ ¬(has f 32)) 256 (by decide+kernel) h0 h1
def OI(h0:0<=f)(h1:f<256):bA .i64 .and f 64=0↔ ¬(has f 64):=CE (p:=λf=>bA .i64 .and f 64=0↔ ¬(has f 64)) 256 (by decide+kernel) h0 h1
def J6(h0:0<=f)(h1:f<256):bA .i64 .and f 128=0↔ ¬(has f 128):=CE (p:=λf=>bA .i64 .and f 128=0↔ ¬(has f 128)) 256 (by decide+kernel) h0 h1
def S6(h0:0<=f)(h1:f<256):bA .i64 .and f 12=0↔ ¬(gr f):=CE (p:=λf=>bA .i64 .and f 12=0↔ ¬(gr f)) 256 (by decide+kernel) h0 h1
def Zg(h0:0<=f)(h1:f<256):bA .i64 .and f 48=0↔ ¬(has f 16\/has f 32):=CE (p:=λf=>bA .i64 .and f 48=0↔ ¬(has f 16\/has f 32)) 256 (by decide+kernel) h0 h1
def Zh(h0:0<=f)(h1:f<256):bA .i64 .and f 6=6↔(has f 2/\has f 4):=CE (p:=λf=>bA .i64 .and f 6=6↔(has f 2/\has f 4)) 256 (by decide+kernel) h0 h1
def acX(h0:0<=f)(h1:f<256):bA .i64 .and f 240=0↔ ¬(16<=f):=CE (p:=λf=>bA .i64 .and f 240=0↔ ¬(16<=f)) 256 (by decide+kernel) h0 h1
def acY(h0:0<=f)(h1:f<256):bA .i64 .and f 192=0↔(f<64):=CE (p:=λf=>bA .i64 .and f 192=0↔(f<64)) 256 (by decide+kernel) h0 h1
def S5(h0:0<=f)(h1:f<256):bA .i64 .andNot f 1=f/2* 2:=CE (p:=λf=>bA .i64 .andNot f 1=f/2* 2) 256 (by decide+kernel) h0 h1
def S4(h0:0<=f)(h1:f<16):bA .i64 .andNot f 8=f%8:=CE (p:=λf=>bA .i64 .andNot f 8=f%8) 16 (by decide+kernel) h0 h1
def Ze(h0:0<=f)(h1:f<16):bA .i64 .or f 8=f%8+8:=CE (p:=λf=>bA .i64 .or f 8=f%8+8) 16 (by decide+kernel) h0 h1
def S7(h0:0<=f)(h1:f<256):bA .i64 .and f 6=f/2%4* 2:=CE (p:=λf=>bA .i64 .and f 6=f/2%4* 2) 256 (by decide+kernel) h0 h1
def re(n:Int):Prop:= -9223372036854775808<=n/\n<=9223372036854775807
def Vp(h:re f):(bA .i64 .andNot f 7!=0)=decide (f<0\/7<f):=by
 have key:∀x:BitVec 64,(x&&&~~~(BitVec.ofInt 64 7))=0#64↔x.toNat<8:=λx=>by
  constructor
  ·intro hx;refine Nat.lt_pow_two_of_testBit (n:=3) _ λi hi=>?_;have:=congrArg (λy=>y.getLsbD i) hx;by_cases aaI:i<64
   ·simp only[BitVec.getLsbD_and,BitVec.getLsbD_not,BitVec.getLsbD_zero,aaI,decide_true,aeS] at this;have h7:(BitVec.ofInt 64 7).getLsbD i=false:=by
     have:(BitVec.ofInt 64 7).toNat=7:=rfl;show Nat.testBit (BitVec.ofInt 64 7).toNat i=false;rw[this];exact Nat.testBit_lt_two_pow (Nat.lt_of_lt_of_le (by decide:7<2^3) (aeH (by decide) hi))
    rw[h7] at this;simpa [BitVec.getLsbD] using this
   ·exact Nat.testBit_lt_two_pow (Nat.lt_of_lt_of_le x.isLt (aeH (by decide) (by omega)))
  ·intro hx;have Ud:x=BitVec.ofNat 64 x.toNat:=by simp
   rw[Ud];generalize x.toNat=m at hx
   match m,hx with
   |0,_|1,_|2,_|3,_|4,_|5,_|6,_|7,_=>rfl
 unfold re at h;unfold bA;dsimp only;show(adN.wrap (((BitVec.ofInt 64 f&&&~~~(BitVec.ofInt 64 7)).toNat:Nat):Int)!=0)=_;have hw:∀y:BitVec 64,(adN.wrap ((y.toNat:Nat):Int)!=0)=decide (y≠0#64):=λy=>by
  have hy:=y.isLt;have:adN.wrap ((y.toNat:Nat):Int)=0↔y=0#64:=by
   constructor
   ·intro h0;apply BitVec.eq_of_toNat_eq;simp[IntKind.wrap,IntKind.bits,IntKind.signed] at h0;simp;split at h0<;>omega
   ·intro h0;subst h0;rfl
  by_cases h0:y=0#64
  ·rw[decide_eq_false (by simpa using h0)];simp[this.2 h0]
  ·rw[decide_eq_true h0];have: ¬adN.wrap ((y.toNat:Nat):Int)=0:=λhh=>h0 (this.1 hh);simpa using this
 rw[hw,decide_eq_decide,ne_eq,key];simp only[BitVec.toNat_ofInt];omega
def Zf(h:re f):bA .i64 .andNot f 7=0↔ ¬(f<0\/7<f):=by
 have:=Vp h;by_cases h1:f<0\/7<f
 ·rw[decide_eq_true h1] at this;simpa [h1] using this
 ·rw[decide_eq_false h1] at this;simpa [h1] using this
end
end Go.Up
namespace Go.Up
open Go.Sep Go.Den Go.RowKit Go.Prog Go.Md
abbrev Move:=Go.Md.Move
abbrev aP:=Go.Md.aP
abbrev Kept:=Go.Md.Kept
def ao(a:aP):LV:=nm a.id++(nm a.dp++(nm a.dq++(nm a.cp++(nm a.cq++[.i a.aF,.i a.code,.i a.flags,.i a.ae]))))
def ai(t:Move):LV:=nm t.id++(nm t.aE++(nm t.ar++(nm t.aB++(nm t.pending++[.i t.timeout,.i t.aF,.i t.code,.i t.flags,.i t.ae,.i t.born]))))
def aI(k:Kept):LV:=ai k.asked++(ai k.move++[.i k.fate])
def uT{cs:LV}{o n:Nat}(h0:cs[o+0]?=(nm n)[0]?)(h1:cs[o+1]?=(nm n)[1]?):(nm n).length=2/\∀j v,(nm n)[j]?=some v->cs[o+j]?=some v:=⟨rfl,λj v h=>by
 match j with
 |0=>rw[h0];exact h
 |1=>rw[h1];exact h
 |j+2=>simp[nm] at h⟩
section
variable {a b:aP} {t u:Move} {k:Kept} {n:Nat} {i:Int}
instance:Sub (ao a) 0 2 (nm a.id):=⟨uT rfl rfl⟩
instance:Sub (ao a) 2 2 (nm a.dp):=⟨uT rfl rfl⟩
instance:Sub (ao a) 4 2 (nm a.dq):=⟨uT rfl rfl⟩
instance:Sub (ao a) 6 2 (nm a.cp):=⟨uT rfl rfl⟩
instance:Sub (ao a) 8 2 (nm a.cq):=⟨uT rfl rfl⟩
instance:Sub (ao a) 0 14 (ao a):=⟨rfl,λj v h=>by rw[adU];exact h⟩
instance:Sub (ai t) 0 2 (nm t.id):=⟨uT rfl rfl⟩
instance:Sub (ai t) 2 2 (nm t.aE):=⟨uT rfl rfl⟩
instance:Sub (ai t) 4 2 (nm t.ar):=⟨uT rfl rfl⟩
instance:Sub (ai t) 6 2 (nm t.aB):=⟨uT rfl rfl⟩
instance:Sub (ai t) 8 2 (nm t.pending):=⟨uT rfl rfl⟩
instance:Sub (ai t) 0 16 (ai t):=⟨rfl,λj v h=>by rw[adU];exact h⟩
instance:Sub (aI k) 0 33 (aI k):=⟨rfl,λj v h=>by rw[adU];exact h⟩
instance:Sub (aI k) 0 16 (ai k.asked):=⟨rfl,λj v h=>by rw[adU];unfold aI;rw[aec (adS.1 h).1];exact h⟩
instance:Sub (aI k) 16 16 (ai k.move):=⟨rfl,λj v h=>by
 have hl:(ai k.asked).length=16:=rfl
 unfold aI
 rw[aeo (by omega),hl,show 16+j-16=j by omega,aec (adS.1 h).1];exact h⟩
def k8{xs ys:LV}(h1:∀v∈xs,v.oneCell'=true)(h2:∀v∈ys,v.oneCell'=true):∀v∈xs++ys,v.oneCell'=true:=λv h=>(aeu.1 h).elim (h1 v) (h2 v)
def eV(a:aP):∀v∈ao a,v.oneCell'=true:=k8 (kA _) (k8 (kA _) (k8 (kA _) (k8 (kA _) (k8 (kA _) λv h=>by simp at h;rcases h with rfl|rfl|rfl|rfl<;>rfl))))
def lz(t:Move):∀v∈ai t,v.oneCell'=true:=k8 (kA _) (k8 (kA _) (k8 (kA _) (k8 (kA _) (k8 (kA _) λv h=>by simp at h;rcases h with rfl|rfl|rfl|rfl|rfl|rfl<;>rfl))))
def ji(k:Kept):∀v∈aI k,v.oneCell'=true:=k8 (lz _) (k8 (lz _) λv h=>by simp at h;subst h;rfl)
instance:Wr (ao a) 2 (nm n) (ao {a with dp:=n}):=⟨rfl,by show 4<=14;decide,kA n⟩
instance:Wr (ao a) 4 (nm n) (ao {a with dq:=n}):=⟨rfl,by show 6<=14;decide,kA n⟩
instance:Wr (ao a) 6 (nm n) (ao {a with cp:=n}):=⟨rfl,by show 8<=14;decide,kA n⟩
instance:Wr (ao a) 8 (nm n) (ao {a with cq:=n}):=⟨rfl,by show 10<=14;decide,kA n⟩
instance:Wr (ao a) 12 [.i i] (ao {a with flags:=i}):=⟨rfl,by show 13<=14;decide,λv h=>by simp at h;subst h;rfl⟩
instance:Wr (ao a) 13 [.i i] (ao {a with ae:=i}):=⟨rfl,by show 14<=14;decide,λv h=>by simp at h;subst h;rfl⟩
instance:Wr (ao a) 0 (ao b) (ao b):=⟨rfl,adW _,eV b⟩
instance{x1 x2 x3 x4 x5 x6 x7 x8 x9 zC zB zz zy Cy:Value}:Wr [x1,x2,x3,x4,x5,x6,x7,x8,x9,zC,zB,zz,zy,Cy] 0 (ao b) (ao b):=⟨rfl,adW _,eV b⟩
instance:Wr (ai t) 6 (nm n) (ai {t with aB:=n}):=⟨rfl,by show 8<=16;decide,kA n⟩
instance:Wr (ai t) 11 [.i i] (ai {t with aF:=i}):=⟨rfl,by show 12<=16;decide,λv h=>by simp at h;subst h;rfl⟩
instance:Wr (ai t) 12 [.i i] (ai {t with code:=i}):=⟨rfl,by show 13<=16;decide,λv h=>by simp at h;subst h;rfl⟩
instance:Wr (ai t) 13 [.i i] (ai {t with flags:=i}):=⟨rfl,by show 14<=16;decide,λv h=>by simp at h;subst h;rfl⟩
instance:Wr (ai t) 14 [.i i] (ai {t with ae:=i}):=⟨rfl,by show 15<=16;decide,λv h=>by simp at h;subst h;rfl⟩
instance:Wr (ai t) 15 [.i i] (ai {t with born:=i}):=⟨rfl,by show 16<=16;decide,λv h=>by simp at h;subst h;rfl⟩
instance{x1 x2 x3 x4 x5 x6 x7 x8 x9 zC zB zz zy Cy Ha G':Value}:Wr [x1,x2,x3,x4,x5,x6,x7,x8,x9,zC,zB,zz,zy,Cy,Ha,G'] 0 (ai u) (ai u):=⟨rfl,adW _,lz u⟩
end
section
variable {x1 x2 x3 x4 x5 x6 x7 x8 x9 zC zB zz zy Cy Ha G':Value} {i d e c p:Nat} {l o f s b m:Int}
instance:Wr [x1,x2,x3,x4,x5,x6,x7,x8,x9,zC,zB,zz,zy,Cy] 0 (nm i++(nm d++(nm e++(nm c++(nm p++[.i l,.i o,.i f,.i s]))))) (ao ⟨i,d,e,c,p,l,o,f,s⟩):=⟨rfl,adW _,eV ⟨i,d,e,c,p,l,o,f,s⟩⟩
instance:Wr [x1,x2,x3,x4,x5,x6,x7,x8,x9,zC,zB,zz,zy,Cy,Ha,G'] 0 (nm i++(nm d++(nm e++(nm c++(nm p++[.i l,.i o,.i f,.i s,.i b,.i m]))))) (ai ⟨i,d,e,c,p,l,o,f,s,b,m⟩):=⟨rfl,adW _,lz ⟨i,d,e,c,p,l,o,f,s,b,m⟩⟩
end
def zA:aP:=⟨0,0,0,0,0,0,0,0,0⟩
def zT:Move:=⟨0,0,0,0,0,0,0,0,0,0,0⟩
section
variable {x1 x2 x3 x4 x5 x6 x7 x8 x9 zC zB zz zy Cy Ha G':Value} {a:aP} {t:Move}
instance:Wr [x1,x2,x3,x4,x5,x6,x7,x8,x9,zC,zB,zz,zy,Cy] 0 [.u 0,.u 0,.u 0,.u 0,.u 0,.u 0,.u 0,.u 0,.u 0,.u 0,.i 0,.i 0,.i 0,.i 0] (ao zA):=⟨rfl,adW _,eV zA⟩
instance:Wr [x1,x2,x3,x4,x5,x6,x7,x8,x9,zC,zB,zz,zy,Cy,Ha,G'] 0 [.u 0,.u 0,.u 0,.u 0,.u 0,.u 0,.u 0,.u 0,.u 0,.u 0,.i 0,.i 0,.i 0,.i 0,.i 0,.i 0] (ai zT):=⟨rfl,adW _,lz zT⟩
end
def WC{W:World}{L:LH}{X:WK}{r o:Nat}{a:aP}{cs:LV}{f:LV->LH}[i:Lc (Sep.pt r) L cs f][s:Sub cs o 14 (ao a)](h:T W L X):T W L (kp ⟨r,o,none⟩ (ao a) X):=Kl (n:=14) h
def WA{W:World}{L:LH}{X:WK}{r o:Nat}{a:Move}{cs:LV}{f:LV->LH}[i:Lc (Sep.pt r) L cs f][s:Sub cs o 16 (ai a)](h:T W L X):T W L (kp ⟨r,o,none⟩ (ai a) X):=Kl (n:=16) h
section
variable {L:LH} {X:WK} {r o:Nat} {a:aP} {b:Move} {k:Kept} {cs:LV} {f:LV->LH}
instance[i:Lc (Sep.pt r) L cs f][s:Sub cs o 14 (ao a)]:Wk L (kp ⟨r,o,none⟩ (ao a) X) L X:=⟨λ_ h=>WC h⟩
instance[i:Lc (Sep.pt r) L cs f][s:Sub cs o 16 (ai b)]:Wk L (kp ⟨r,o,none⟩ (ai b) X) L X:=⟨λ_ h=>WA h⟩
instance:Ln (ao a) 14:=⟨rfl⟩
instance:Ln (ai b) 16:=⟨rfl⟩
instance:Ln (aI k) 33:=⟨rfl⟩
instance:Gt (ao a) 10 (.i a.aF):=⟨rfl⟩
instance:Gt (ao a) 11 (.i a.code):=⟨rfl⟩
instance:Gt (ao a) 12 (.i a.flags):=⟨rfl⟩
instance:Gt (ao a) 13 (.i a.ae):=⟨rfl⟩
instance:Gt (ai b) 10 (.i b.timeout):=⟨rfl⟩
instance:Gt (ai b) 11 (.i b.aF):=⟨rfl⟩
instance:Gt (ai b) 12 (.i b.code):=⟨rfl⟩
instance:Gt (ai b) 13 (.i b.flags):=⟨rfl⟩
instance:Gt (ai b) 14 (.i b.ae):=⟨rfl⟩
instance:Gt (ai b) 15 (.i b.born):=⟨rfl⟩
instance:Gt (aI k) 26 (.i k.move.timeout):=⟨rfl⟩
instance:Gt (aI k) 30 (.i k.move.ae):=⟨rfl⟩
instance:Gt (aI k) 31 (.i k.move.born):=⟨rfl⟩
instance:Gt (aI k) 32 (.i k.fate):=⟨rfl⟩
end
structure px(W:World):Prop where
 QF:∀j v,(nm (aK-1))[j]?=some v->W.cell? ((ad N.pe 0).add j)=some v
 told:∀j v,([.i 0,.i 0,.i 27,.i 28,.i 29]:LV)[j]?=some v->W.cell? ((ad N.ug 0).add j)=some v
structure uu(a:aP):Prop where
 id:a.id<aK
 dp:a.dp<aK
 dq:a.dq<aK
 cp:a.cp<aK
 cq:a.cq<aK
 aF:re a.aF
 code:re a.code
 flags:re a.flags
 ae:re a.ae
structure tB(t:Move):Prop where
 id:t.id<aK
 aE:t.aE<aK
 ar:t.ar<aK
 aB:t.aB<aK
 pending:t.pending<aK
 timeout:re t.timeout
 aF:re t.aF
 code:re t.code
 flags:re t.flags
 ae:re t.ae
 born:re t.born
section
variable {W:World} {L:LH} {K:VK} {a b:aP} {t u:Move}
def Rf(h:T W L (K (.bool (decide (a.dp=0/\a.dq=0/\a.cp=0/\a.cq=0/\a.ae=0))))):T W L (iF (ao a) K):=by
 unfold iF iF.j1 iF.j2
 repeat' first|apply ws;intros|apply wb|with_reducible first|refine qz ?_|refine bB (λh1=>?_) (λh1=>?_)|fail
 all_goals (refine T.fin (T.dp h) ?_;congr 1;first|rfl|(simp only[decide_eq_true_eq,decide_eq_false_iff_not,aef] at * <;>simp[*]<;>rfl))
def OQ(G:px W)(ha:uu a)(h:T W L (K (.i (qG a)))):T W L (mm (ao a) K):=by
 unfold mm mm.j1;have hf:=ha.flags
 repeat' first|apply ws;intros|apply wb|with_reducible first|refine qz ?_|refine Rf ?_|refine I5 ⟨tV _,G.QF⟩ ?_|refine bB (λh1=>?_) (λh1=>?_)|fail
 all_goals try simp only[Zf hf,bz] at *
 all_goals (refine T.fin (T.dp h) ?_;congr 1)
 ·rw[qG,if_pos h1]
 all_goals
  all_goals try simp only[Zh (show 0<=a.flags by omega) (show a.flags<256 by omega),bz] at *
  unfold qG has at *
  repeat' split
  all_goals first|rfl|omega
end
def mB(a:aP):Prop:=(0<=a.aF/\a.aF<=4294967295)/\(0<=a.code/\a.code<=65535)/\0<=a.flags/\a.flags<=65535
instance(a:aP):Decidable (mB a):=by unfold mB;infer_instance
def jZ(t:Move):Prop:=(0<=t.timeout/\t.timeout<=4294967295)/\(0<=t.aF/\t.aF<=4294967295)/\(0<=t.code/\t.code<=65535)/\0<=t.flags/\t.flags<=65535
instance(t:Move):Decidable (jZ t):=by unfold jZ;infer_instance
def ib(a:aP):List UInt8:=[a.id,a.dp,a.dq,a.cp,a.cq].flatMap nb++le .i64 4 a.aF++le .i64 2 a.code++le .i64 2 a.flags++le .i64 8 a.ae
def mK(t:Move):List UInt8:=[t.id,t.aE,t.ar,t.aB,t.pending].flatMap nb++le .i64 4 t.timeout++le .i64 4 t.aF++le .i64 2 t.code++le .i64 2 t.flags++le .i64 8 t.ae++le .i64 8 t.born
def sB:∀l:List Nat,(l.flatMap nb).length=16* l.length
 |[]=>rfl
 |x::l=>by rw[aeE,adT,rl,sB l,ad8];omega
def oG(a:aP):(ib a).length=96:=by simp only[ib,adT,sB,az];rfl
def ow(t:Move):(mK t).length=108:=by simp only[mK,adT,sB,az];rfl
section
variable {W:World} {L:LH} {K:VK} {a b:aP} {t u:Move} {p:Nat} {l:List UInt8} {q:List UInt8->LH}
def Ka(h:T W L (K (.bool (decide (mB a))))):T W L (fQ (ao a) K):=by
 unfold fQ fQ.j1 fQ.j2 fQ.j3
 repeat' first|apply ws;intros|apply wb|with_reducible refine bB (λh1=>?_) (λh1=>?_)|fail
 all_goals (refine T.fin (T.dp h) ?_;congr 1;(rw[aed];(try simp only[bz,false_iff,true_iff] at *)<;>(try simp only[mB,ad4] at *)<;>omega))
def I8(h:T W L (K (.bool (decide (jZ t))))):T W L (dg (ai t) K):=by
 unfold dg dg.j1 dg.j2 dg.j3 dg.j4 dg.j5
 repeat' first|apply ws;intros|apply wb|with_reducible refine bB (λh1=>?_) (λh1=>?_)|fail
 all_goals (refine T.fin (T.dp h) ?_;congr 1;(rw[aed];(try simp only[bz,false_iff,true_iff] at *)<;>(try simp only[jZ,ad4] at *)<;>omega))
def Yh(x:List Nat)(i:Nat)(y:Nat)(h:x[i]?=some y):((x.flatMap nm).drop (i* 2)).take 2=nm y:=by
 apply afa;intro j;rw[afg];split
 ·rename_i hj;rw[ae6];cases hv:(nm y)[j]? with
  |none=>have:=List.getElem?_eq_none_iff.1 hv;rw[tV] at this;omega
  |some v=>exact nL tV x i y h j v hv
 ·exact(aeR (by rw[tV];omega)).symm
def OO[i:Lc (buf p) L l q](hg:mB a)(hl:l.length<549755813888)(h:T W (q (l++ib a)) (K (.tuple ⟨[]⟩))):T W L (nR (some ⟨p,0,none⟩) (ao a) K):=by
 unfold nR nR.j1
 repeat' first|apply ws;intros|apply wb|with_reducible refine Ka ?_|fail
 rw[decide_eq_true hg,Bool.not_true,cf];apply ws;intros;rename_i r;intro w hs;refine⟨λvs w=>∃i:Nat,i<=5/\vs=[.p (some (ad r 0)),.agg ⟨[a.id,a.dp,a.dq,a.cp,a.cq].flatMap nm⟩,.i (i:Int)]/\St W w (Sep.pt r (ao a)::q (l++([a.id,a.dp,a.dq,a.cp,a.cq].take i).flatMap nb)),
  λvs _=>match vs with|[_,_,.int _ j]=>5-j.toNat|_=>0,⟨0,ad0 _,rfl,by rw[aff,List.flatMap_nil,aeb,i.same];exact hs⟩,?_⟩
 rintro a1 Y6 n1 w2 ⟨j,hj,e,hs⟩;cases e
 refine T.at ?_ hs;have hq:=i.next;have hlen:(l++([a.id,a.dp,a.dq,a.cp,a.cq].take j).flatMap nb).length<1099511627776:=by rw[adT,sB,adV];simp;omega
 refine dO (λh1=>?_) (λh1=>?_)
 ·have aZ:j<5:=by omega
  have hx:[a.id,a.dp,a.dq,a.cp,a.cq][j]?=some ([a.id,a.dp,a.dq,a.cp,a.cq][j]'(by simpa using aZ)):=adQ _;have e5:=l9 j;have et:([a.id,a.dp,a.dq,a.cp,a.cq].take j).flatMap nb++nb ([a.id,a.dp,a.dq,a.cp,a.cq][j]'(by simpa using aZ))=([a.id,a.dp,a.dq,a.cp,a.cq].take (j+1)).flatMap nb:=by
   rw[aeK (by simpa using aZ),aeN];simp
  rw[adR,Yh _ _ _ hx,e5]
  repeat' first|apply ws;intros|apply wb|with_reducible first|refine cK (by omega) ?_|refine EC hlen ?_|fail
  rw[adZ,et];refine T.drop λw3 h3=>⟨⟨j+1,aZ,rfl,?_⟩,by show 5-((j+1:Nat):Int).toNat<5-(j:Int).toNat;omega⟩;exact h3
 ·have he:j=5:=by omega
  subst he;simp only[dW,adU];have e1:∀m:List UInt8,(l++m).length=l.length+m.length:=λm=>adT;have e2:(([a.id,a.dp,a.dq,a.cp,a.cq].take 5).flatMap nb).length=80:=by rw[sB];rfl
  repeat' first|apply ws;intros|apply wb|with_reducible first|refine Kb (by simp only[adT,az,e2];omega) ?_|refine z' (by simp only[adT,az,e2];omega) ?_|refine uP (by simp only[adT,az,e2];omega) ?_|fail
  have e3:l++ib a=l++([a.id,a.dp,a.dq,a.cp,a.cq].take 5).flatMap nb++le .i64 4 a.aF++le .i64 2 a.code++le .i64 2 a.flags++le .i64 8 a.ae:=by
   unfold ib;simp only[adZ];rfl
  rw[<-e3];exact T.dp h
def Hv[i:Lc (buf p) L l q](hg:jZ t)(hl:l.length<549755813888)(h:T W (q (l++mK t)) (K (.tuple ⟨[]⟩))):T W L (mF (some ⟨p,0,none⟩) (ai t) K):=by
 unfold mF mF.j1
 repeat' first|apply ws;intros|apply wb|with_reducible refine I8 ?_|fail
 rw[decide_eq_true hg,Bool.not_true,cf];apply ws;intros;rename_i r;intro w hs;refine⟨λvs w=>∃i:Nat,i<=5/\vs=[.p (some (ad r 0)),.agg ⟨[t.id,t.aE,t.ar,t.aB,t.pending].flatMap nm⟩,.i (i:Int)]/\St W w (Sep.pt r (ai t)::q (l++([t.id,t.aE,t.ar,t.aB,t.pending].take i).flatMap nb)),
  λvs _=>match vs with|[_,_,.int _ j]=>5-j.toNat|_=>0,⟨0,ad0 _,rfl,by rw[aff,List.flatMap_nil,aeb,i.same];exact hs⟩,?_⟩
 rintro a1 Y6 n1 w2 ⟨j,hj,e,hs⟩;cases e
 refine T.at ?_ hs;have hq:=i.next;have hlen:(l++([t.id,t.aE,t.ar,t.aB,t.pending].take j).flatMap nb).length<1099511627776:=by rw[adT,sB,adV];simp;omega
 refine dO (λh1=>?_) (λh1=>?_)
 ·have aZ:j<5:=by omega
  have hx:[t.id,t.aE,t.ar,t.aB,t.pending][j]?=some ([t.id,t.aE,t.ar,t.aB,t.pending][j]'(by simpa using aZ)):=adQ _;have e5:=l9 j;have et:([t.id,t.aE,t.ar,t.aB,t.pending].take j).flatMap nb++nb ([t.id,t.aE,t.ar,t.aB,t.pending][j]'(by simpa using aZ))=([t.id,t.aE,t.ar,t.aB,t.pending].take (j+1)).flatMap nb:=by
   rw[aeK (by simpa using aZ),aeN];simp
  rw[adR,Yh _ _ _ hx,e5]
  repeat' first|apply ws;intros|apply wb|with_reducible first|refine cK (by omega) ?_|refine EC hlen ?_|fail
  rw[adZ,et];refine T.drop λw3 h3=>⟨⟨j+1,aZ,rfl,?_⟩,by show 5-((j+1:Nat):Int).toNat<5-(j:Int).toNat;omega⟩;exact h3
 ·have he:j=5:=by omega
  subst he;simp only[dW,adU];have e2:(([t.id,t.aE,t.ar,t.aB,t.pending].take 5).flatMap nb).length=80:=by rw[sB];rfl
  repeat' first|apply ws;intros|apply wb|with_reducible first|refine Kb (by simp only[adT,az,e2];omega) ?_|refine z' (by simp only[adT,az,e2];omega) ?_|refine uP (by simp only[adT,az,e2];omega) ?_|fail
  have e3:l++mK t=l++([t.id,t.aE,t.ar,t.aB,t.pending].take 5).flatMap nb++le .i64 4 t.timeout++le .i64 4 t.aF++le .i64 2 t.code++le .i64 2 t.flags++le .i64 8 t.ae++le .i64 8 t.born:=by
   unfold mK;simp only[adZ];rfl
  rw[<-e3];exact T.dp h
abbrev RS:=List UInt8×Bool
def uF(n:Nat)(x:RS):RS:=match n with|0=>x|n+1=>da 16 (uF n x)
def Ci(x:RS):RS:=da 8 (da 2 (da 2 (da 4 (uF 5 x))))
def D7(x:RS):aP:=if(Ci x).2=true then zA else
 ⟨vS x,vS (uF 1 x),vS (uF 2 x),vS (uF 3 x),vS (uF 4 x),iG 4 (uF 5 x),iG 2 (da 4 (uF 5 x)),iG 2 (da 2 (da 4 (uF 5 x))),iG 8 (da 2 (da 2 (da 4 (uF 5 x))))⟩
def Ch(x:RS):RS:=da 8 (da 8 (da 2 (da 2 (da 4 (da 4 (uF 5 x))))))
def D6(x:RS):Move:=if(Ch x).2=true then zT else
 ⟨vS x,vS (uF 1 x),vS (uF 2 x),vS (uF 3 x),vS (uF 4 x),iG 4 (uF 5 x),iG 4 (da 4 (uF 5 x)),iG 2 (da 4 (da 4 (uF 5 x))),iG 2 (da 2 (da 4 (da 4 (uF 5 x)))),
  iG 8 (da 2 (da 2 (da 4 (da 4 (uF 5 x))))),iG 8 (da 8 (da 2 (da 2 (da 4 (da 4 (uF 5 x))))))⟩
variable {r:Nat} {x:RS} {g:RS->LH}
def na{m:Nat}{x:RS}{B:Nat}(h:x.1.length<B):(da m x).1.length<B:=Nat.lt_of_le_of_lt (qM m x) h
def OP[i:Lc (rd r) L x g](hl:x.1.length<1099511627776)(h:T W (g (Ci x)) (K (.agg ⟨ao (D7 x)⟩))):T W L (kG (some ⟨r,0,none⟩) K):=by
 unfold kG;have hq:=i.next
 repeat' first|apply ws;intros|apply wb|with_reducible first|refine EI (by repeat (first|exact hl|apply na)) ?_|refine Kh (by repeat (first|exact hl|apply na)) ?_|refine Aa (by repeat (first|exact hl|apply na)) ?_|refine s9 (by repeat (first|exact hl|apply na)) ?_|refine uQ ?_|fail
 have e:da 8 (da 2 (da 2 (da 4 (da 16 (da 16 (da 16 (da 16 (da 16 x))))))))=Ci x:=rfl;rw[e];unfold D7 at h;refine bB (λh1=>?_) (λh1=>?_)
 ·rw[if_pos h1] at h;apply ws;intros;exact T.dp h
 ·rw[if_neg (by rw[h1];decide)] at h;apply ws;intros;exact T.dp h
def Hw[i:Lc (rd r) L x g](hl:x.1.length<1099511627776)(h:T W (g (Ch x)) (K (.agg ⟨ai (D6 x)⟩))):T W L (jI (some ⟨r,0,none⟩) K):=by
 unfold jI;have hq:=i.next
 repeat' first|apply ws;intros|apply wb|with_reducible first|refine EI (by repeat (first|exact hl|apply na)) ?_|refine Kh (by repeat (first|exact hl|apply na)) ?_|refine Aa (by repeat (first|exact hl|apply na)) ?_|refine s9 (by repeat (first|exact hl|apply na)) ?_|refine uQ ?_|fail
 have e:da 8 (da 8 (da 2 (da 2 (da 4 (da 4 (da 16 (da 16 (da 16 (da 16 (da 16 x))))))))))=Ch x:=rfl;rw[e];unfold D6 at h;refine bB (λh1=>?_) (λh1=>?_)
 ·rw[if_pos h1] at h;apply ws;intros;exact T.dp h
 ·rw[if_neg (by rw[h1];decide)] at h;apply ws;intros;exact T.dp h
end
end Go.Up
namespace Go.Den
open Go.RowKit
def oB(P:Program)(fT:TypeId->Option (LV)):Nat->List Field->Option (LV)
 |_,[]=>some []
 |o,f::r=>bif (f.name != "_")&&afc f.offset o then
           match fT f.type with
           |some z=>bif (match P.info? f.type with|some i=>afc i.size z.length|none=>false) then
                     match oB P fT (o+z.length) r with
                     |some zr=>some (z++zr)
                     |none=>none
            else none
           |none=>none
  else none
def vc(P:Program):Nat->TypeId->Option (LV)
 |0,_=>none
 |n+1,t=>match P.underlying t with
  |some (.int k)=>some [.int k 0]
  |some .bool=>some [.bool false]
  |some .string=>some [.string .empty]
  |some (.struct fs)=>bif P.stoodInHeld t then none else oB P (vc P n) 0 fs.toList
  |_=>none
def VQ(P:Program)(t:TypeId)(xs:LV):Value:=match P.underlying t with
 |some (.struct _)=>.agg ⟨xs⟩
 |_=>xs.headD undef
def lM:∀{zs xs:LV},kN zs xs=true->xs.length=zs.length
 |[],[],_=>rfl
 |[],_::_,h=>by simp[kN] at h
 |_::_,[],h=>by simp[kN] at h
 |z::zs,x::xs,h=>by simp only[kN,aeJ] at h;simp[lM h.2]
def uh:∀{z zr xs:LV},kN (z++zr) xs=true->∃a b,xs=a++b/\kN z a=true/\kN zr b=true
 |[],zr,xs,h=>⟨[],xs,rfl,rfl,h⟩
 |y::z,zr,[],h=>by simp[kN] at h
 |y::z,zr,x::xs,h=>by
  simp only[ae3,kN,aeJ] at h;obtain⟨a,b,rfl,h1,h2⟩:=uh h.2;exact⟨x::a,b,rfl,by simp[kN,h.1,h1],h2⟩
def pf:∀{a b c d:LV},a.length=b.length->fo (a++c) (b++d)=(fo a b&&fo c d)
 |[],[],c,d,_=>by simp[fo]
 |[],_::_,_,_,h=>by simp at h
 |_::_,[],_,_,h=>by simp at h
 |x::a,y::b,c,d,h=>by
  simp only[ae3,fo];rw[pf (by simpa using h),Bool.and_assoc]
def JW{P:Program}:∀(n:Nat)(t:TypeId)(zs:LV),vc P n t=some zs->∀(xs ys:LV),kN zs xs=true->kN zs ys=true->∀(d:Nat)(w:World),(Op.equalIn (d+2* n) t (VQ P t xs) (VQ P t ys)).run P w=.ok (fo xs ys) w
 |0,_,_,h=>by simp[vc] at h
 |n+1,t,zs,h=>λxs ys hx hy d w=>by
  have hd:d+2* (n+1)=(d+2* n+1)+1:=by omega
  rw[hd];unfold vc at h;unfold VQ;generalize hu:P.underlying t=u at h;split at h
  ·cases h
   obtain⟨x,rfl⟩:=List.length_eq_one_iff.1 (lM hx);obtain⟨y,rfl⟩:=List.length_eq_one_iff.1 (lM hy)
   ·simp only[kN,Bool.and_true] at hx hy;cases x<;>simp[fits] at hx
    cases y<;>simp[fits] at hy
    subst hx hy;simp[run_equalIn_int w _ t _ _ _ _ hu,fo,vI]
  ·cases h
   obtain⟨x,rfl⟩:=List.length_eq_one_iff.1 (lM hx);obtain⟨y,rfl⟩:=List.length_eq_one_iff.1 (lM hy)
   ·simp only[kN,Bool.and_true] at hx hy;cases x<;>simp[fits] at hx
    cases y<;>simp[fits] at hy
    simp[run_equalIn_bool w _ t _ _ hu,fo,vI]
  ·cases h
   obtain⟨x,rfl⟩:=List.length_eq_one_iff.1 (lM hx);obtain⟨y,rfl⟩:=List.length_eq_one_iff.1 (lM hy)
   ·simp only[kN,Bool.and_true] at hx hy;cases x<;>simp[fits] at hx
    cases y<;>simp[fits] at hy
    simp[run_equalIn_string w _ t _ _ hu,fo,vI,oZ]
  ·rename_i fs;cases hs:P.stoodInHeld t with
   |true=>rw[hs] at h;cases h
   |false=>
    rw[hs] at h;have wT:P.fieldsOf t=fs:=by simp[Program.fieldsOf,hu]
    show(Op.equalIn _ t (.agg ⟨xs⟩) (.agg ⟨ys⟩)).run P w=_;rw[run_equalIn_struct w _ t ⟨xs⟩ ⟨ys⟩ (by rw[wT];exact hu) hs,wT];have key:∀(l:List Field)(o:Nat)(zs:LV)(pre KK xs ys:LV),pre.length=o->KK.length=o->oB P (vc P n) o l=some zs->kN zs xs=true->kN zs ys=true->
                                                              (Op.eqFields (d+2* n+1) ⟨pre++xs⟩ ⟨KK++ys⟩ l).run P w=.ok (fo xs ys) w:=by
     intro l
     induction l with
     |nil=>
      intro o zs pre KK xs ys h1 h2 h3 hx hy;simp only[oB,aea.injEq] at h3;subst h3;cases xs<;>cases ys<;>simp[kN] at hx hy
      simp[Op.eqFields,fo]
     |cons f l ih=>
      intro o zs pre KK xs ys h1 h2 h3 hx hy;unfold oB at h3;cases hc:((f.name != "_")&&afc f.offset o) with
      |false=>rw[hc] at h3;cases h3
      |true=>
       rw[hc] at h3;simp only[aeJ] at hc;have hn':f.name≠ "_":=by simpa using hc.1
       have ho':f.offset=o:=aeq hc.2;simp only[cond_true] at h3;cases hz:vc P n f.type with
       |none=>rw[hz] at h3;cases h3
       |some z=>
        rw[hz] at h3;dsimp only at h3;cases hi:P.info? f.type with
        |none=>rw[hi] at h3;cases h3
        |some i=>
         rw[hi] at h3;dsimp only at h3;cases nY:afc i.size z.length with
         |false=>rw[nY] at h3;cases h3
         |true=>
          rw[nY] at h3;have nY:=aeq nY;simp only[cond_true] at h3;cases hr:oB P (vc P n) (o+z.length) l with
          |none=>rw[hr] at h3;cases h3
          |some zr=>
           rw[hr] at h3;simp only[aea.injEq] at h3;subst h3;obtain⟨x1,x2,rfl,a1,a2⟩:=uh hx;obtain⟨y1,y2,rfl,b1,b2⟩:=uh hy;have lx:=lM a1;have ly:=lM b1;have JN:∀(p x1 x2:LV),p.length=o->kN z x1=true->(part f.type (⟨p++(x1++x2)⟩:Array Value) f.offset).run P w=.ok (VQ P f.type x1) w:=by
            intro p x1 x2 hp a1;have lx:=lM a1;cases n with
            |zero=>simp[vc] at hz
            |succ m=>
             unfold vc at hz;unfold VQ;generalize Mg:P.underlying f.type=fu at hz;have zU:∀v:Value,x1=[v]->pq (fu.getD (.int .i64))=false->fu.isSome=true->(part f.type (⟨p++(x1++x2)⟩:Array Value) f.offset).run P w=.ok v w:=by
              intro v hv hg Xn;subst hv;cases fu with
              |none=>cases Xn
              |some fd=>
               simp only[aes] at hg;cases fd<;>simp[pq] at hg<;>simp[part,isAgg,underlying,Mg,ho',hp]
             split at hz
             ·cases hz
              match x1,a1,lx,zU with
              |[v],_,_,zU=>exact zU v rfl rfl rfl
             ·cases hz
              match x1,a1,lx,zU with
              |[v],_,_,zU=>exact zU v rfl rfl rfl
             ·cases hz
              match x1,a1,lx,zU with
              |[v],_,_,zU=>exact zU v rfl rfl rfl
             ·simp only[part,isAgg,underlying,sizeOf,typeInfo,Sem.run_bind,run_program,Result.andThen_ok,Mg,hi,Sem.run_pure,if_true,ho'];have:(⟨p++(x1++x2)⟩:Array Value).extract o (o+i.size)=⟨x1⟩:=by
               apply afs;rw[Array.toList_extract];show List.extract (p++(x1++x2)) o (o+i.size)=x1;rw[List.extract_eq_take_drop,<-hp,List.drop_left' rfl,nY,show p.length+z.length-p.length=x1.length by omega,List.take_left' rfl]
              rw[this]
             ·cases hz
           have ihn:=JW n f.type z hz x1 y1 a1 b1 (d+1) w;have Pn:=ih (o+z.length) zr (pre++x1) (KK++y1) x2 y2 (by rw[adT,h1,lx]) (by rw[adT,h2,ly]) hr a2 b2;rw[show d+1+2* n=d+2* n+1 by omega] at ihn;rw[adZ,adZ] at Pn;rw[Op.eqFields];simp only[if_pos hn',Sem.run_bind,JN pre x1 x2 h1 a1,JN KK y1 y2 h2 b1,ihn,Result.andThen_ok];rw[pf (by rw[lx,ly])];cases fo x1 y1
           ·simp
           ·simpa using Pn
    have:=key fs.toList 0 zs [] [] xs ys rfl rfl (by simpa using h) hx hy;simpa using this
  ·cases h
def nT.nil{P:Program}:nT P []:=λt zs h=>by simp[Dv] at h
def nT.cons{P:Program}{E:Pc}{t:Nat}{z:LV}{fs:Array Field}(h1:P.eqGuardType P.depth t=false)(h2:vc P 4 t=some z)(h3:P.underlying t=some (.struct fs))(h:nT P E):nT P ((t,z)::E):=λu zs hu=>by
 unfold Dv at hu;cases hb:afc t u with
 |true=>
  rw[hb] at hu;have:=aeq hb;subst this;cases hu
  refine⟨h1,λxs ys hx hy w=>?_⟩;have:=JW 4 t z h2 xs ys hx hy (Op.maxDepth-8) w;have e:Op.maxDepth-8+2* 4=Op.maxDepth:=by decide
  rw[e] at this;unfold VQ at this;rw[h3] at this;exact this
 |false=>
  rw[hb] at hu;exact h u zs hu
end Go.Den
