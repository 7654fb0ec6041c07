/- Part of the proof: see the last text. -/
import Derived.Test.YtnffemlgkghcfaaGreatDoorPA
import Derived.ProofKit
import Derived.OpenShut
import Derived.ChangeOld
import Derived.SizedLaws
import Derived.Carry
import Derived.Deep.Slices
import Derived.Laws.StructEq
set_option linter.all false
set_option maxRecDepth 100000
set_option synthInstance.maxSize 100000
open Array renaming ext'→afu,replicate→ae0
open Bool renaming and_eq_true→aeL,false_ne_true→ael,true_and→aeU,noConfusion→afl,false_eq_true→aeh,eq_iff_iff→aee
open Decidable renaming not_not→ad6
open Go.IntKind renaming i64→adP
open Int renaming toNat_natCast→adT,tmod_eq_emod_of_nonneg→aeA,eq_ofNat_of_zero_le→ad3
open List renaming set_cons_succ→ae7,mem_cons→ae',getElem?_eq_getElem→adS,getElem_mem→aeg,mem_of_getElem?→aek,mem_append→aew,mem_or_eq_of_mem_set→aeI,getD_eq_getElem?_getD→aeV,mem_cons_of_mem→aeW,length_replicate→aeZ,drop_zero→ae1,take_of_length_le→aea,append_nil→aed,getElem?_append_left→aef,getElem?_append_right→aes,map_cons→aet,flatMap_cons→aeG,flatMap_append→aeP,getElem?_eq_none→aeT,getElem?_drop→ae8,ext_getElem?→afb,nil_append→aev,drop_of_length_le→aez,take_zero→afh,reverse_cons→afn,length_append→adV,append_assoc→ad0,length_map→aei,map_append→aep,mem_map→aeC,take_succ_eq_append_getElem→aeM,map_congr_left→ae9,range→afo,map_map→aft,replicate→ad8,Perm→aej,length_nil→aen,length_take→adX,length_drop→ad4,drop_drop→ae2,set_set→ae6,take_take→afq,length_cons→ad',getElem?_map→aeF,mem_of_find?_eq_some→aeQ,cons_append→ae5,take_length→ad5,getElem?_eq_some_iff→adU,drop_eq_getElem_cons→aex,getElem?_cons_succ→ad9,getElem?_range→afk,map_nil→afs,take_append_drop→aem,getElem?_set→aeo,length_set→aeX,getElem?_take→afi
open Nat renaming le_refl→adY,zero_add→adW,add_mul→afg,zero_le→ad2,reduceAdd→adQ,reduceMul→adR,le_of_ble_eq_true→adZ,mul_one→afp,sub_self→afe,pow_le_pow_right→aeJ,mul_comm→afr,add_zero→aeN,mod_eq_of_lt→aeB,mul_le_mul_right→aeE,min_eq_left→afj,eq_of_beq_eq_true→aer,beq→afd
open Option renaming getD_some→aeu,some→aec,map_some→aeD,getD_none→aeK
namespace Go.Prog
open Go.Den
def ny(d:BA)(K:VK):WK:=mk [.u 0,.u 0] λe=>mk [.u 0,.u 0] λh=>br (decide ((d.size:Int)<16)) (ah (ad h 0) 2 λk=>aI 2 (ad e 0) k (ah (ad e 0) 2 λl=>K (.tuple ⟨[.agg ⟨l⟩,.bool false]⟩))) ((lp [.p (some (ad e 0)),.bool false,.p (some (ad h 0)),.i 0] λj m=>∀c f b a g,j [.p (some c),.bool f,.p (some b),.i a] g->(br (decide (a<8)) (tick (lU (b.add 1) λn=>u3 d a λo=>a8 ((0:Int)<=(adP.wrap (8* a))) (st (b.add 1) (.u (bB .u64 .or n (shl .u64 (IntKind.u64.wrap (o.toNat:Int)) (adP.wrap (8* a))))) (tick (lU b λq=>u3 d (adP.wrap (8+a)) λr=>a8 ((0:Int)<=(adP.wrap (8* a))) (st b (.u (bB .u64 .or q (shl .u64 (IntKind.u64.wrap (r.toNat:Int)) (adP.wrap (8* a))))) ((ct j m [.p (some c),.bool f,.p (some b),.i (adP.wrap (a+1))] [.p (some c),.bool f,.p (some b),.i a] g)))))))) (ah b 2 λs=>aI 2 c s (ah c 2 λt=>K (.tuple ⟨[.agg ⟨t⟩,.bool true]⟩)))) g))
def bn(c:OA)(K:VK):WK:=mk [.u 0,.u 0] λa=>cH c 16 (xS λd=>ny d (x2 λe f=>(xA 2 λg=>(xB λj=>mk [.u 0,.u 0] λb=>aI 2 (ad b 0) g (ah (ad b 0) 2 λh=>aI 2 (ad a 0) h (ah (ad a 0) 2 λi=>K (.agg ⟨i⟩)))) f) e))
def bn.u:WP|[.pointer a],K=>bn a K|_,_=>no
def kD(a:OA)(K:VK):WK:=mk cM λb=>bn a (xA 2 λc=>bn a (xA 2 λd=>bn a (xA 2 λe=>bn a (xA 2 λf=>bn a (xA 2 λg=>aq a 4 (xI .i64 λh=>aq a 2 (xI .i64 λj=>aq a 2 (xI .i64 λk=>aq a 8 (xI .i64 λl=>a8 (c.length=2/\(d.length=2/\(e.length=2/\(f.length=2/\(g.length=2/\(1=1/\(1=1/\(1=1/\(1=1/\True))))))))) (mk cM λm=>a8 ((c++(d++(e++(f++(g++([.i h,.i j,.i k,.i l]:LV)))))).length=14) (gj (ad m 0) (c++(d++(e++(f++(g++([.i h,.i j,.i k,.i l]:LV)))))) (bt a (xB λn=>br n (a8 True (a8 (14=14) (gj (ad b 0) cM (ah (ad b 0) 14 λo=>K (.agg ⟨o⟩))))) (ah (ad m 0) 14 λp=>aI 14 (ad b 0) p (ah (ad b 0) 14 λq=>K (.agg ⟨q⟩))))))))))))))))
def kD.u:WP|[.pointer a],K=>kD a K|_,_=>no
def jD(a:OA)(K:VK):WK:=mk fe λb=>bn a (xA 2 λc=>bn a (xA 2 λd=>bn a (xA 2 λe=>bn a (xA 2 λf=>bn a (xA 2 λg=>aq a 4 (xI .i64 λh=>aq a 4 (xI .i64 λj=>aq a 2 (xI .i64 λk=>aq a 2 (xI .i64 λl=>aq a 8 (xI .i64 λm=>aq a 8 (xI .i64 λn=>a8 (c.length=2/\(d.length=2/\(e.length=2/\(f.length=2/\(g.length=2/\(1=1/\(1=1/\(1=1/\(1=1/\(1=1/\(1=1/\True))))))))))) (mk fe λo=>a8 ((c++(d++(e++(f++(g++([.i h,.i j,.i k,.i l,.i m,.i n]:LV)))))).length=16) (gj (ad o 0) (c++(d++(e++(f++(g++([.i h,.i j,.i k,.i l,.i m,.i n]:LV)))))) (bt a (xB λp=>br p (a8 True (a8 (16=16) (gj (ad b 0) fe (ah (ad b 0) 16 λq=>K (.agg ⟨q⟩))))) (ah (ad o 0) 16 λr=>aI 16 (ad b 0) r (ah (ad b 0) 16 λs=>K (.agg ⟨s⟩))))))))))))))))))
def jD.u:WP|[.pointer a],K=>jD a K|_,_=>no
def mm(a:OA)(K:VK):WK:=br (a.isNone) (K (.i 0)) (nn a λb=>lT (b.add 1) λc=>br c (K (.i 0)) (nn a λd=>lS d λe=>K (.i (e.size:Int))))
def rH(K:VK):WK:=FU 32 IP 8 8 λa b c=>a8 (1=1/\True) (mk [.l a b c,.i 0,.i 0] λd=>K (.p (some (ad d 0))))
def my(a:OA)(K:VK):WK:=a8 (1=1/\True) (mk [.l none 0 0,.p a] λb=>K (.p (some (ad b 0))))
def oe(a:OA)(K:VK):WK:=a8 (1=1/\True) (mk [.l none 0 0,.p a] λb=>K (.p (some (ad b 0))))
def pW(K:VK):WK:=rH (xP λb=>rH (xP λc=>a8 (1=1/\(1=1/\True)) (mk [.l none 0 0,.p none,.p none,.p b,.p c,.l none 0 0,.l none 0 0,.i 0,.i 0] λa=>tick (my (some (ad a 0)) (xP λd=>oe (some (ad a 0)) (xP λe=>st (ad a 1) (.p d) (st (ad a 2) (.p e) (K (.p (some (ad a 0)))))))))))
def ja(a:OA)(K:VK):WK:=br (!(a.isNone)) (nn a λc=>lL c λd b n=>Ry (Builtin.zeroCells ⟨[.nilFunc]⟩ b).toList d b (nn a λe=>lL e λf g h=>nT f g h 1 none (some 0) λi j k=>nn a λm=>st m (.l i j k) (K (.tuple ⟨[]⟩)))) (K (.tuple ⟨[]⟩))
def pH(e:LV)(K:VK):WK:=mk e λa=>lU (ad a 1) λb=>lU (ad a 0) λc=>a8 ((0:Int)<=31) (lU (ad a 0) λd=>a8 ((0:Int)<=33) (a8 ((0:Int)<=29) (K (.u (bB .u64 .xor (IntKind.u64.wrap ((bB .u64 .xor (bB .u64 .xor b (shl .u64 c 31)) (shr .u64 d 33))* 11400714819323198485)) (shr .u64 (IntKind.u64.wrap ((bB .u64 .xor (bB .u64 .xor b (shl .u64 c 31)) (shr .u64 d 33))* 11400714819323198485)) 29))))))
def bK.j3(K:VK)(a:Int)(g:LI)(c:Addr)(d:Int)(e:Bool)(b f:Int)(h:LM)(j:World)(k:Bool):WK:=br k (K (.tuple ⟨[.i (adP.wrap a),.bool true]⟩)) ((ct g h [.p (some c),.i d,.bool e,.u b,.i f,.u (bB .u64 .and (IntKind.u64.wrap (a+1)) b)] [.p (some c),.i d,.bool e,.u b,.i f,.u a] j))
def bK.j2(K:VK)(f:LI)(a:Addr)(d:Int)(e:Bool)(b c:Int)(g:LM)(h:Int)(j:World)(k:Nat)(l:Bool):WK:=br l ((ct f g [.p (some a),.i d,.bool e,.u b,.i (adP.wrap c),.u (bB .u64 .and (IntKind.u64.wrap (c+1)) b)] [.p (some a),.i d,.bool e,.u b,.i h,.u c] j)) (lB (ad k 3) λm=>br (m==1) (ah (ad k 0) 2 λn=>ah a 2 λo=>nr [.u 0,.u 0] n o λq=>bK.j3 K c f a d e b h g j q) (bK.j3 K c f a d e b h g j false))
def bK.j1(K:VK)(c:Int)(a:Nat)(b:Int)(d:LI)(e:Addr)(f:Int)(g:Bool)(h:Int)(j:LM)(k:World)(l:Bool):WK:=br l (K (.tuple ⟨[.i (adP.wrap c),.bool false]⟩)) (lB (ad a 3) λm=>br (m==0) (K (.tuple ⟨[.i b,.bool false]⟩)) (lB (ad a 3) λn=>br (n==2) (bK.j2 K d e f g h c j b k a (decide (b<0))) (bK.j2 K d e f g h c j b k a false)))
def bK(k:OA)(o:LV)(K:VK):WK:=mk o λl=>nn k λq=>lL q λA m B=>ah (ad l 0) 2 λr=>pH r (xI .u64 λs=>(lp [.p (some (ad l 0)),.i 0,.bool false,.u (IntKind.u64.wrap (adP.wrap ((m:Int) -1))),.i (-1),.u (bB .u64 .and s (IntKind.u64.wrap (adP.wrap ((m:Int) -1))))] λe n=>∀f g h j a b c,e [.p (some f),.i g,.bool h,.u j,.i a,.u b] c->(nn k λt=>lL t λv w C=>fO v w b 4 λx=>ah x 4 λy=>mk IP λd=>aI 4 (ad d 0) y (lB (ad d 3) λz=>br (z==0) (bK.j1 K b d a e f g h j n c (decide (a<0))) (bK.j1 K b d a e f g h j n c false))) c))
def dY(a:OA)(b:LV)(K:VK):WK:=mk b λc=>br (a.isNone) (K (.tuple ⟨[.i 0,.bool false]⟩)) (ah (ad c 0) 2 λd=>bK a d (x2 λe f=>(xI .i64 λg=>(xB λh=>br (!h) (K (.tuple ⟨[.i 0,.bool false]⟩)) (nn a λj=>lL j λk l o=>fO k l g 4 λm=>lI (m.add 2) λn=>K (.tuple ⟨[.i n,.bool true]⟩))) f) e))
def mo(b:OA)(K:VK):WK:=nn b λs=>lL s λt u v=>(lp [.l t u v,.i 8] λq w=>∀j g k c o,q [.l j g k,.i c] o->(nn b λx=>lI (x.add 1) λy=>br (decide (c<(adP.wrap (3* (adP.wrap (y+1)))))) ((ct q w [.l j g k,.i (adP.wrap (c* 2))] [.l j g k,.i c] o)) (FU 32 IP c c λz A B=>nn b λC=>st C (.l z A B) (nn b λD=>st (D.add 2) (.i 0) ((lp [.l j g k,.i (g:Int),.i 0] λp r=>∀d e h f a m,p [.l d e h,.i f,.i a] m->(br (decide (a<f)) (fO d e a 4 λE=>ah E 4 λF=>mk IP λn=>aI 4 (ad n 0) F (lB (ad n 3) λG=>br (G==1) (ah (ad n 0) 2 λH=>bK b H (x2 λI J=>(xI .i64 λM=>(xB λT=>tick (nn b λO=>lL O λP Q V=>ah (ad n 0) 4 λR=>fO P Q M 4 λS=>aI 4 S R ((ct p r [.l d e h,.i f,.i (adP.wrap (a+1))] [.l d e h,.i f,.i a] m)))) J) I)) ((ct p r [.l d e h,.i f,.i (adP.wrap (a+1))] [.l d e h,.i f,.i a] m)))) (K (.tuple ⟨[]⟩))) m))))) o)
def cb.j2(K:VK)(a:OA)(d:Nat)(e c:Int):WK:=tick (nn a λf=>lL f λg h n=>ah (ad d 0) 2 λb=>a8 (b.length=2/\(1=1/\(1=1/\True))) (fO g h e 4 λj=>a8 ((b++([.i c,.int .u8 1]:LV)).length=4) (gj j (b++([.i c,.int .u8 1]:LV)) (nn a λk=>lI (k.add 1) λl=>nn a λm=>st (m.add 1) (.i (adP.wrap (l+1))) (K (.bool true))))))
def cb.j1(K:VK)(c:Nat)(a:OA)(d:Int):WK:=ah (ad c 0) 2 λe=>bK a e (x2 λf g=>(xI .i64 λb=>(xB λh=>br h (nn a λj=>lL j λk l v=>fO k l b 4 λm=>st (m.add 2) (.i d) (K (.bool false))) (nn a λn=>lL n λo p w=>fO o p b 4 λq=>lB (q.add 3) λr=>br (r==2) (nn a λs=>lI (s.add 2) λt=>nn a λu=>st (u.add 2) (.i (adP.wrap (t-1))) (cb.j2 K a c b d)) (cb.j2 K a c b d))) g) f)
def cb(a:OA)(d:LV)(b:Int)(K:VK):WK:=mk d λc=>br (a.isNone) (K (.bool false)) (tick (nn a λe=>lI (e.add 1) λf=>nn a λg=>lI (g.add 2) λh=>nn a λi=>lL i λk j l=>br (decide ((adP.wrap (4* (adP.wrap ((adP.wrap (f+h))+1))))>(adP.wrap (3* (j:Int))))) (mo a (x0 (cb.j1 K c a b))) (cb.j1 K c a b)))
def eo(a:OA)(b:Value)(K:VK):WK:=br (!(a.isNone)) (nn a λc=>lL c λd e f=>a8 ((cT b).length=1/\True) (mk ((cT b)++[]) λg=>eS 1 8 [.nilFunc] d e f (some ⟨g,0,none⟩) 1 λh i j=>nn a λk=>st k (.l h i j) (K (.tuple ⟨[]⟩)))) (K (.tuple ⟨[]⟩))
def aY(a b:Addr)(K:VK):WK:=tick (lP a λc=>lP a λd=>nn d λe=>lL e λf g h=>lI b λi=>nT f g h 14 none (some i) λj k m=>nn c λn=>st n (.l j k m) (K (.tuple ⟨[]⟩)))
def aY.u:WP|[.pointer (some a),.pointer (some b)],K=>aY a b K|_,_=>no
def fb(j:OA)(k:LV)(K:VK):WK:=mk [.p j] λa=>mk k λm=>lP (ad a 0) λn=>br (n.isNone) (K (.i (-1))) (lP (ad a 0) λo=>nn o λq=>lL q λC r D=>mk [.i 0] λb=>st (ad b 0) (.i (r:Int)) (tick (lP (ad a 0) λc=>lP (ad a 0) λd=>nn d λe=>lL e λf g h=>ah (ad m 0) 14 λs=>EW 14 s λt=>kp e [.l f g h] (kp (ad a 0) [.p d] (kp (ad a 0) [.p c] (eS 14 112 cM f g h (some ⟨t,0,none⟩) 1 λu v w=>kp (ad a 0) [.p d] (kp (ad a 0) [.p c] (nn c λx=>st x (.l u v w) (lP (ad a 0) λy=>nn y λz=>lP (z.add 1) λA=>eo A (.func (.func N.aY) ⟨[]⟩ ⟨[.p (some (ad a 0)),.p (some (ad b 0))]⟩) (x0 (lI (ad b 0) λB=>K (.i B))))))))))))
def cY(a:Int)(b c:Addr)(K:VK):WK:=tick (lP b λd=>nn d λe=>lL e λf g k=>fO f g a 2 λh=>lI h λi=>lI c λj=>K (.bool (decide (i>=j))))
def cY.u:WP|[.int .i64 a,.pointer (some b),.pointer (some c)],K=>cY a b c K|_,_=>no
def qG(g:Int)(h:Value)(K:VK):WK:=(lp [.i 0,.i 0,.i g] λe f=>∀c a b d,e [.i c,.i a,.i b] d->(br (decide (a<b)) (a8 ((0:Int)<=1) (tj [(N.cY,cY.u)] h [.i (adP.wrap (shr .u64 (IntKind.u64.wrap (adP.wrap (a+b))) 1))] (xB λj=>br (!j) ((ct e f [.i c,.i (adP.wrap ((adP.wrap (shr .u64 (IntKind.u64.wrap (adP.wrap (a+b))) 1))+1)),.i b] [.i c,.i a,.i b] d)) ((ct e f [.i c,.i a,.i (adP.wrap (shr .u64 (IntKind.u64.wrap (adP.wrap (a+b))) 1))] [.i c,.i a,.i b] d))))) (K (.i a))) d)
def iC(b:OA)(c:Int)(K:VK):WK:=mk [.p b] λa=>mk [.i c] λd=>lP (ad a 0) λe=>nn e λf=>lL f λj g k=>qG (g:Int) (.func (.func N.cY) ⟨[]⟩ ⟨[.p (some (ad a 0)),.p (some (ad d 0))]⟩) (xI .i64 λh=>K (.i h))
def fy.j1(K:VK)(a:OA)(b c n:Int)(o:Bool):WK:=br o (nn a λp=>lL p λq r M=>fO q r b 2 λs=>st (s.add 1) (.i c) (K (.bool false))) (nn a λt=>lL t λu v w=>a8 True (a8 (2=2/\True) (mk [.i 0,.i 0] λx=>eS 2 16 [.i 0,.i 0] u v w (some ⟨x,0,none⟩) 1 λy z A=>nn a λB=>st B (.l y z A) (tick (nn a λd=>lL d λe f g=>nT e f g 2 (some (adP.wrap (b+1))) none λC D O=>nn a λh=>lL h λj k m=>nT j k m 2 (some b) none λE F P=>Om 2 C D E F λm1=>kp h [.l j k m] (kp d [.l e f g] (nn a λG=>lL G λH I Q=>a8 (1=1/\(1=1/\True)) (fO H I b 2 λJ=>a8 (2=2) (gj J [.i n,.i c] (K (.bool true)))))))))))
def fy(a:OA)(b d:Int)(K:VK):WK:=br (a.isNone) (K (.bool false)) (iC a b (xI .i64 λc=>nn a λe=>lL e λl f m=>br (decide (c<(f:Int))) (nn a λg=>lL g λh i n=>fO h i c 2 λj=>lI j λk=>fy.j1 K a c d b (k==b)) (fy.j1 K a c d b false)))
def dj(a:OA)(K:VK):WK:=br (a.isNone) (K (.i 0)) (nn a λb=>lL b λd c e=>K (.i (c:Int)))
def bq(a b:Addr)(K:VK):WK:=tick (lP a λc=>lP a λd=>nn d λe=>lL e λf g h=>lI b λi=>nT f g h 33 none (some i) λj k m=>nn c λn=>st n (.l j k m) (K (.tuple ⟨[]⟩)))
def bq.u:WP|[.pointer (some a),.pointer (some b)],K=>bq a b K|_,_=>no
def fU(j:OA)(k:LV)(K:VK):WK:=mk [.p j] λa=>mk k λm=>lP (ad a 0) λn=>br (n.isNone) (K (.i (-1))) (lP (ad a 0) λo=>nn o λq=>lL q λC r D=>mk [.i 0] λb=>st (ad b 0) (.i (r:Int)) (tick (lP (ad a 0) λc=>lP (ad a 0) λd=>nn d λe=>lL e λf g h=>ah (ad m 0) 33 λs=>EW 33 s λt=>kp e [.l f g h] (kp (ad a 0) [.p d] (kp (ad a 0) [.p c] (eS 33 264 bg f g h (some ⟨t,0,none⟩) 1 λu v w=>kp (ad a 0) [.p d] (kp (ad a 0) [.p c] (nn c λx=>st x (.l u v w) (lP (ad a 0) λy=>nn y λz=>lP (z.add 1) λA=>eo A (.func (.func N.bq) ⟨[]⟩ ⟨[.p (some (ad a 0)),.p (some (ad b 0))]⟩) (x0 (lI (ad b 0) λB=>K (.i B))))))))))))
def pV(j:LV)(K:VK):WK:=mk j λa=>mk tv λc=>tick (lI (ad a 31) λd=>lI (ad a 26) λe=>lI (ad a 30) λf=>ah (ad a 16) 2 λb=>a8 (1=1/\(1=1/\(b.length=2/\True))) (lI (ad a 32) λg=>br (g==1) (lI (ad a 26) λh=>a8 ((([.i (adP.wrap (d+e)),.i f]:LV)++(b++[])).length=4) (gj (ad c 0) (([.i (adP.wrap (d+e)),.i f]:LV)++(b++[])) (kp (ad a 26) [.i h] (kp (ad a 32) [.i g] (ah (ad c 0) 4 λk=>K (.tuple ⟨[.agg ⟨k⟩,.bool (decide (h>0))]⟩)))))) (a8 ((([.i (adP.wrap (d+e)),.i f]:LV)++(b++[])).length=4) (gj (ad c 0) (([.i (adP.wrap (d+e)),.i f]:LV)++(b++[])) (kp (ad a 32) [.i g] (ah (ad c 0) 4 λl=>K (.tuple ⟨[.agg ⟨l⟩,.bool false]⟩)))))))
def nD(c d:LV)(K:VK):WK:=mk c λa=>mk d λb=>lI (ad a 0) λe=>lI (ad b 0) λf=>br (decide (e<f)) (K (.bool true)) (lI (ad a 0) λg=>lI (ad b 0) λh=>br (g==h) (lI (ad a 1) λi=>lI (ad b 1) λj=>K (.bool (decide (i<j)))) (K (.bool false)))
def fx.j1(K:VK)(b:OA)(a:Int)(c:LI)(d:LM)(e:World)(f:Bool):WK:=br f (tick (nn b λg=>lL g λh j z=>nn b λk=>lL k λl m A=>a8 ((2:Int)≠0) (nn b λn=>lL n λo p B=>a8 ((2:Int)≠0) (fO o p (adP.wrap ((adP.wrap (a-1)).tdiv (2:Int))) 4 λq=>ah q 4 λr=>nn b λs=>lL s λt u C=>fO t u a 4 λv=>ah v 4 λw=>fO h j a 4 λx=>aI 4 x r (fO l m (adP.wrap ((adP.wrap (a-1)).tdiv (2:Int))) 4 λy=>aI 4 y w (a8 ((2:Int)≠0) ((ct c d [.i (adP.wrap ((adP.wrap (a-1)).tdiv (2:Int)))] [.i a] e)))))))) (K (.tuple ⟨[]⟩))
def fx(b:OA)(n:Int)(K:VK):WK:=(lp [.i n] λd e=>∀a c,d [.i a] c->(tick (br (decide (a>0)) (nn b λf=>lL f λg h o=>fO g h a 4 λp=>ah p 4 λq=>nn b λj=>lL j λk m r=>a8 ((2:Int)≠0) (fO k m (adP.wrap ((adP.wrap (a-1)).tdiv (2:Int))) 4 λs=>ah s 4 λt=>nD q t (xB λu=>kp j [.l k m r] (kp f [.l g h o] (fx.j1 K b a d e c u))))) (fx.j1 K b a d e c false))) c)
def iB(a:OA)(f:LV)(K:VK):WK:=mk f λg=>br (!(a.isNone)) (tick (nn a λb=>lL b λc d e=>ah (ad g 0) 4 λh=>EW 4 h λi=>kp b [.l c d e] (eS 4 32 tv c d e (some ⟨i,0,none⟩) 1 λj k m=>nn a λn=>st n (.l j k m) (nn a λo=>lL o λq p r=>fx a (adP.wrap ((p:Int) -1)) (x0 (K (.tuple ⟨[]⟩))))))) (K (.tuple ⟨[]⟩))
def cx.j2(K:VK)(a:OA)(b:Nat)(k:LI)(c:OA)(d:Int)(e:OA)(f g:Nat)(h j:Int)(m:LM)(n:World)(t:Bool):WK:=br t (K (.tuple ⟨[.p none,.i 1]⟩)) (tick (nn a λo=>lP (o.add 4) λq=>ah (ad b 16) 2 λr=>nn a λu=>lP (u.add 2) λv=>ah (ad b 0) 33 λw=>fU v w (xI .i64 λx=>kp (ad b 16) r (kp (o.add 4) [.p q] (cb q r x (xB λF=>ah (ad b 0) 33 λy=>pV y (x2 λz A=>(xA 4 λB=>(xB λC=>mk tv λs=>aI 4 (ad s 0) B (br C (tick (nn a λD=>ah (ad s 0) 4 λE=>iB (some (D.add 6)) E (x0 ((ct k m [.p c,.i d,.p a,.l e f g,.i h,.i (adP.wrap (j+1))] [.p c,.i d,.p a,.l e f g,.i h,.i j] n))))) ((ct k m [.p c,.i d,.p a,.l e f g,.i h,.i (adP.wrap (j+1))] [.p c,.i d,.p a,.l e f g,.i h,.i j] n)))) A) z)))))))
def cx.j1(K:VK)(I J:OA)(B M:Nat)(O:OA)(C P:Nat)(Q R:Int)(S:Bool):WK:=br S (K (.tuple ⟨[.p none,.i 1]⟩)) ((lp [.p none,.i 0,.p I,.l J B M,.i (B:Int),.i 0] λD T=>∀r s c t u x v j y,D [.p r,.i s,.p c,.l t u x,.i v,.i j] y->(br (decide (j<v)) (fO t u j 14 λV=>ah V 14 λW=>mk cM λk=>aI 14 (ad k 0) W (tick (nn c λX=>lP (X.add 3) λY=>ah (ad k 0) 2 λZ=>dY Y Z (x2 λv1 v2=>(xI .i64 λn6=>(xB λb2=>br b2 (K (.tuple ⟨[.p none,.i 1]⟩)) (tick (nn c λE=>lP (E.add 3) λF=>ah (ad k 0) 2 λG=>nn c λa4=>lP (a4.add 1) λp6=>ah (ad k 0) 14 λVj=>fb p6 Vj (xI .i64 λn7=>kp (ad k 0) G (kp (E.add 3) [.p F] (cb F G n7 (xB λb3=>(ct D T [.p r,.i s,.p c,.l t u x,.i v,.i (adP.wrap (j+1))] [.p r,.i s,.p c,.l t u x,.i v,.i j] y)))))))) v2) v1)))) ((lp [.p r,.i s,.p c,.l O C P,.i (C:Int),.i 0] λm w=>∀n o b e f q g d h,m [.p n,.i o,.p b,.l e f q,.i g,.i d] h->(br (decide (d<g)) (fO e f d 33 λa5=>ah a5 33 λRt=>mk bg λa=>aI 33 (ad a 0) Rt (tick (nn b λa6=>lP (a6.add 4) λp9=>ah (ad a 16) 2 λY3=>dY p9 Y3 (x2 λv3 v4=>(xI .i64 λT3=>(xB λb4=>tick (br b4 (cx.j2 K b a m n o e f q g d w h true) (lI (ad a 32) λz=>br (decide (z<0)) (cx.j2 K b a m n o e f q g d w h true) (lI (ad a 32) λA=>br (decide (A>4)) (cx.j2 K b a m n o e f q g d w h true) (nn b λa10=>lI (ad a 30) λH=>nn b λa11=>lP (a11.add 2) λp12=>dj p12 (xI .i64 λuA=>kp (ad a 30) [.i H] (kp (ad a 32) [.i A] (kp (ad a 32) [.i z] (fy (some (a10.add 5)) H uA (xB λb8=>kp (ad a 32) [.i A] (kp (ad a 32) [.i z] (cx.j2 K b a m n o e f q g d w h (!b8))))))))))))) v4) v3)))) (nn b λa12=>st (a12.add 7) (.i Q) (nn b λa13=>st (a13.add 8) (.i R) (nn b λa14=>ja (some a14) (x0 (K (.tuple ⟨[.p b,.i 0]⟩))))))) h))) y))
def cx.j5(K:VK)(b c:OA)(d e:Nat)(f:OA)(g h:Nat)(i a:Int)(j:Bool):WK:=br j (cx.j1 K b c d e f g h i a true) (br (decide (a<0)) (cx.j1 K b c d e f g h i a true) (cx.j1 K b c d e f g h i a (decide (a>1099511627776))))
def cx.j4(K:VK)(b c:OA)(d e:Nat)(f:OA)(g h:Nat)(a i:Int)(j:Bool):WK:=br j (cx.j5 K b c d e f g h a i true) (cx.j5 K b c d e f g h a i (decide (a>1099511627776)))
def cx.j3(K:VK)(b c:OA)(d e:Nat)(f:OA)(g h:Nat)(a i:Int)(j:Bool):WK:=br j (cx.j4 K b c d e f g h a i true) (cx.j4 K b c d e f g h a i (decide (a<0)))
def cx(c:OA)(a d:Nat)(e:OA)(b f:Nat)(g h:Int)(K:VK):WK:=pW (xP λi=>br (decide ((a:Int)>32)) (cx.j3 K i c a d e b f g h true) (cx.j3 K i c a d e b f g h (decide ((b:Int)>96))))
def kQ.j1(K:VK)(J:OA)(M O P Q:Int)(R:Bool):WK:=br R (K (.tuple ⟨[.p none,.i 4]⟩)) ((lp [.p none,.i 0,.p J,.i M,.i O,.i P,.l none 0 0,.i Q,.i 0] λF S=>∀c d b e f g h j k m n z,F [.p c,.i d,.p b,.i e,.i f,.i g,.l h j k,.i m,.i n] z->(br (decide (n<m)) (kD b (xA 14 λT=>EW 14 T λV=>eS 14 112 cM h j k (some ⟨V,0,none⟩) 1 λW X Y=>(ct F S [.p c,.i d,.p b,.i e,.i f,.i g,.l W X Y,.i m,.i (adP.wrap (n+1))] [.p c,.i d,.p b,.i e,.i f,.i g,.l h j k,.i m,.i n] z))) ((lp [.p c,.i d,.p b,.i e,.i f,.l h j k,.l none 0 0,.i g,.i 0] λG Z=>∀A B a o q r s t u v w x y C,G [.p A,.i B,.p a,.i o,.i q,.l r s t,.l u v w,.i x,.i y] C->(br (decide (y<x)) (jD a (xA 16 λD=>jD a (xA 16 λE=>aq a 1 (xI .i64 λH=>a8 (D.length=16/\(E.length=16/\(1=1/\True))) (a8 ((D++(E++([.i H]:LV))).length=33/\True) (mk ((D++(E++([.i H]:LV)))++[]) λr2=>eS 33 264 bg u v w (some ⟨r2,0,none⟩) 1 λsb5 Zl Zm=>(ct G Z [.p A,.i B,.p a,.i o,.i q,.l r s t,.l sb5 Zl Zm,.i x,.i (adP.wrap (y+1))] [.p A,.i B,.p a,.i o,.i q,.l r s t,.l u v w,.i x,.i y] C))))))) (cx r s t u v w o q (x2 λv1 v2=>(xP λp6=>(xI .i64 λI=>br (I !=0) (K (.tuple ⟨[.p none,.i 4]⟩)) (iz a (xB λb2=>br (!b2) (K (.tuple ⟨[.p none,.i 4]⟩)) (K (.tuple ⟨[.p p6,.i I]⟩))))) v2) v1))) C))) z))
def kQ(f:BA)(K:VK):WK:=lA f (xP λa=>aq a 1 (xI .i64 λg=>br (g !=1) (K (.tuple ⟨[.p none,.i 4]⟩)) (aq a 8 (xI .i64 λd=>aq a 8 (xI .i64 λe=>aq a 2 (xI .i64 λb=>aq a 2 (xI .i64 λc=>bt a (xB λh=>br h (kQ.j1 K a d e c b true) (mm a (xI .i64 λj=>kQ.j1 K a d e c b (j !=(adP.wrap ((adP.wrap (b* 96))+(adP.wrap (c* 217)))))))))))))))
def so(c:OA)(e:LV)(K:VK):WK:=mk e λf=>mk Z1 λb=>nK c (x2 λg h=>(xA 4 λj=>(xB λk=>mk Z1 λa=>aI 4 (ad a 0) j (br (!k) (tick (ah (ad a 0) 4 λd=>pW (xP λl=>kp (ad a 0) d (aI 4 (ad b 0) d (ah (ad b 0) 4 λm=>K (.tuple ⟨[.p l,.agg ⟨m⟩,.i 0]⟩)))))) (ah (ad f 0) 5 λn=>lI (ad a 0) λo=>lI (ad a 1) λq=>lI (ad a 2) λr=>mF n c o q r (x2 λs t=>(xS λu=>(xB λv=>br (!v) (tick (ah (ad a 0) 4 λw=>aI 4 (ad b 0) w (ah (ad b 0) 4 λx=>K (.tuple ⟨[.p none,.agg ⟨x⟩,.i 4]⟩)))) (kQ u (x2 λy z=>(xP λA=>(xI .i64 λB=>tick (ah (ad a 0) 4 λC=>aI 4 (ad b 0) C (ah (ad b 0) 4 λD=>K (.tuple ⟨[.p A,.agg ⟨D⟩,.i B]⟩)))) z) y))) t) s)))) h) g)
def jk(f:OA)(n:Value)(K:VK):WK:=aq f 1 (xI .i64 λo=>(lp [.l none 0 0,.l none 0 0,.i o,.i 0] λm q=>∀g h j a b c d e k,m [.l g h j,.l a b c,.i d,.i e] k->(br (decide (e<d)) (bt f (xB λr=>br r (K (.l a b c)) (tj [(N.kD,kD.u),(N.aq,aq.u),(N.bt,bt.u)] n [.p f] (xA 14 λs=>EW 14 s λt=>eS 14 112 cM a b c (some ⟨t,0,none⟩) 1 λv w x=>(ct m q [.l g h j,.l v w x,.i d,.i (adP.wrap (e+1))] [.l g h j,.l a b c,.i d,.i e] k))))) (K (.l a b c))) k))
def iJ(f:OA)(n:Value)(K:VK):WK:=aq f 1 (xI .i64 λo=>(lp [.l none 0 0,.l none 0 0,.i o,.i 0] λm q=>∀g h j a b c d e k,m [.l g h j,.l a b c,.i d,.i e] k->(br (decide (e<d)) (bt f (xB λr=>br r (K (.l a b c)) (tj [(N.aq,aq.u),(N.bt,bt.u),(N.jD,jD.u)] n [.p f] (xA 16 λs=>EW 16 s λt=>eS 16 128 fe a b c (some ⟨t,0,none⟩) 1 λv w x=>(ct m q [.l g h j,.l v w x,.i d,.i (adP.wrap (e+1))] [.l g h j,.l a b c,.i d,.i e] k))))) (K (.l a b c))) k))
def iW(b:OA)(K:VK):WK:=aq b 1 (xI .i64 λa=>br (!(b.isNone)) (br (decide (a>1)) (nn b λc=>st (c.add 1) (.bool true) (K (.bool (a==1)))) (K (.bool (a==1)))) (K (.bool (a==1))))
def lM(f:OA)(n:Value)(K:VK):WK:=aq f 1 (xI .i64 λo=>(lp [.l none 0 0,.l none 0 0,.i o,.i 0] λm q=>∀g h j a b c d e k,m [.l g h j,.l a b c,.i d,.i e] k->(br (decide (e<d)) (bt f (xB λr=>br r (K (.l a b c)) (tj [(N.aq,aq.u),(N.bn,bn.u),(N.bt,bt.u)] n [.p f] (xA 2 λs=>EW 2 s λt=>eS 2 16 [.u 0,.u 0] a b c (some ⟨t,0,none⟩) 1 λv w x=>(ct m q [.l g h j,.l v w x,.i d,.i (adP.wrap (e+1))] [.l g h j,.l a b c,.i d,.i e] k))))) (K (.l a b c))) k))
def pg(c:LV)(K:VK):WK:=mk c λa=>lI (ad a 0) λb=>br (b==1) (lL (ad a 1) λj d k=>br (decide ((d:Int)>=1)) (lL (ad a 1) λl e m=>K (.bool (decide ((e:Int)<=8)))) (K (.bool false))) (br (b==2) (lL (ad a 2) λn f o=>br (decide ((f:Int)>=1)) (lL (ad a 2) λp g q=>K (.bool (decide ((g:Int)<=8)))) (K (.bool false))) (br (b==3) (lI (ad a 3) λh=>br (decide (h>=0)) (lI (ad a 3) λi=>K (.bool (decide (i<=1099511627776)))) (K (.bool false))) (K (.bool false))))
def eg.j4(K:VK)(a:Nat)(b:Bool):WK:=br b (lT (ad a 4) λc=>br c (K (.bool true)) (lT (ad a 5) λd=>K (.bool d))) (K (.bool false))
def eg.j3(K:VK)(a:Nat)(b:Bool):WK:=br b (lI (ad a 7) λc=>eg.j4 K a (decide (c<=16))) (eg.j4 K a false)
def eg.j2(K:VK)(a:Nat)(b:Bool):WK:=br b (lI (ad a 7) λc=>eg.j3 K a (decide (c>=1))) (eg.j3 K a false)
def eg.j1(K:VK)(b:Nat)(c:Int)(d:Bool):WK:=br d (lL (ad b 4) λj e k=>br (decide ((e:Int)>=1)) (lL (ad b 4) λl f m=>K (.bool (decide ((f:Int)<=16)))) (K (.bool false))) (br (c==6) (ah (ad b 5) 8 λg=>mk EX λa=>aI 8 (ad a 0) g (lI (ad a 2) λh=>br (decide (h>=0)) (lI (ad a 3) λi=>eg.j2 K a (decide (i>=0))) (eg.j2 K a false))) (K (.bool false)))
def eg(c:LV)(K:VK):WK:=mk c λb=>lI (ad b 0) λa=>br (a==4) (eg.j1 K b a (a==4)) (eg.j1 K b a (a==5))
def fR.j3(K:VK)(a:Nat)(b:Bool):WK:=br b (lI (ad a 12) λc=>br (decide (c>=0)) (lI (ad a 12) λd=>K (.bool (decide (d<=65535)))) (K (.bool false))) (K (.bool false))
def fR.j2(K:VK)(a:Nat)(b:Bool):WK:=br b (lI (ad a 11) λc=>fR.j3 K a (decide (c<=65535))) (fR.j3 K a false)
def fR.j1(K:VK)(a:Nat)(b:Bool):WK:=br b (lI (ad a 11) λc=>fR.j2 K a (decide (c>=0))) (fR.j2 K a false)
def fR(b:LV)(K:VK):WK:=mk b λa=>lI (ad a 10) λc=>br (decide (c>=0)) (lI (ad a 10) λd=>fR.j1 K a (decide (d<=4294967295))) (fR.j1 K a false)
def dg.j5(K:VK)(a:Nat)(b:Bool):WK:=br b (lI (ad a 13) λc=>br (decide (c>=0)) (lI (ad a 13) λd=>K (.bool (decide (d<=65535)))) (K (.bool false))) (K (.bool false))
def dg.j4(K:VK)(a:Nat)(b:Bool):WK:=br b (lI (ad a 12) λc=>dg.j5 K a (decide (c<=65535))) (dg.j5 K a false)
def dg.j3(K:VK)(a:Nat)(b:Bool):WK:=br b (lI (ad a 12) λc=>dg.j4 K a (decide (c>=0))) (dg.j4 K a false)
def dg.j2(K:VK)(a:Nat)(b:Bool):WK:=br b (lI (ad a 11) λc=>dg.j3 K a (decide (c<=4294967295))) (dg.j3 K a false)
def dg.j1(K:VK)(a:Nat)(b:Bool):WK:=br b (lI (ad a 11) λc=>dg.j2 K a (decide (c>=0))) (dg.j2 K a false)
def dg(b:LV)(K:VK):WK:=mk b λa=>lI (ad a 10) λc=>br (decide (c>=0)) (lI (ad a 10) λd=>dg.j1 K a (decide (d<=4294967295))) (dg.j1 K a false)
def lz.j1(K:VK)(j:Nat)(y:Bool):WK:=br y (K (.bool false)) (lI (ad j 0) λr=>br (r==1) (lL (ad j 1) λz s A=>(lp [.bool false,.l z s A,.i (s:Int),.i 0] λt B=>∀k c d m e a n,t [.bool k,.l c d m,.i e,.i a] n->(br (decide (a<e)) (fO c d a 14 λC=>ah C 14 λD=>mk cM λu=>aI 14 (ad u 0) D (ah (ad u 0) 14 λE=>fR E (xB λF=>br (!F) (K (.bool false)) ((ct t B [.bool k,.l c d m,.i e,.i (adP.wrap (a+1))] [.bool k,.l c d m,.i e,.i a] n))))) (K (.bool true))) n)) (br (r==2) (lL (ad j 2) λG v H=>(lp [.bool false,.l G v H,.i (v:Int),.i 0] λw I=>∀o f g p h b q,w [.bool o,.l f g p,.i h,.i b] q->(br (decide (b<h)) (fO f g b 16 λJ=>ah J 16 λM=>mk fe λx=>aI 16 (ad x 0) M (ah (ad x 0) 16 λO=>dg O (xB λP=>br (!P) (K (.bool false)) ((ct w I [.bool o,.l f g p,.i h,.i (adP.wrap (b+1))] [.bool o,.l f g p,.i h,.i b] q))))) (K (.bool true))) q)) (K (.bool true))))
def lz(b:LV)(K:VK):WK:=mk b λa=>ah (ad a 0) 13 λc=>pg c (xB λd=>br (!d) (ah (ad a 0) 13 λe=>eg e (xB λf=>lz.j1 K a (!f))) (lz.j1 K a false))
def iU.j1(K:VK)(c:OA)(a b:Nat):WK:=iz c (xB λd=>br (!d) (a8 True (a8 (13=13) (gj (ad a 0) lv (ah (ad a 0) 13 λe=>K (.tuple ⟨[.agg ⟨e⟩,.i 4]⟩))))) (ah (ad b 0) 13 λf=>lz f (xB λg=>br (!g) (a8 True (a8 (13=13) (gj (ad a 0) lv (ah (ad a 0) 13 λh=>K (.tuple ⟨[.agg ⟨h⟩,.i 4]⟩))))) (ah (ad b 0) 13 λj=>aI 13 (ad a 0) j (ah (ad a 0) 13 λk=>K (.tuple ⟨[.agg ⟨k⟩,.i 0]⟩))))))
def iU(n:BA)(K:VK):WK:=mk lv λc=>lA n (xP λa=>aq a 1 (xI .i64 λo=>a8 (1=1/\True) (mk lv λb=>a8 (13=13) (gj (ad b 0) [.i o,.l none 0 0,.l none 0 0,.i 0,.l none 0 0,.u 0,.u 0,.i 0,.i 0,.bool false,.bool false,.bool false,.i 0] (lI (ad b 0) λd=>br (d==1) (jk a (.func (.func N.kD) ⟨[]⟩ ⟨[]⟩) (xL λp q r=>st (ad b 1) (.l p q r) (iU.j1 K a c b))) (br (d==2) (iJ a (.func (.func N.jD) ⟨[]⟩ ⟨[]⟩) (xL λs t v=>st (ad b 2) (.l s t v) (iU.j1 K a c b))) (br (d==3) (aq a 8 (xI .i64 λw=>st (ad b 3) (.i w) (iU.j1 K a c b))) (br (d==6) (bn a (xA 2 λe=>aq a 8 (xI .i64 λf=>aq a 8 (xI .i64 λg=>iW a (xB λh=>iW a (xB λj=>iW a (xB λk=>aq a 1 (xI .i64 λm=>a8 (e.length=2/\(1=1/\(1=1/\(1=1/\(1=1/\(1=1/\(1=1/\True))))))) (a8 ((e++([.i f,.i g,.bool h,.bool j,.bool k,.i m]:LV)).length=8) (gj (ad b 5) (e++([.i f,.i g,.bool h,.bool j,.bool k,.i m]:LV)) (iU.j1 K a c b))))))))))) (lM a (.func (.func N.bn) ⟨[]⟩ ⟨[]⟩) (xL λx y z=>st (ad b 4) (.l x y z) (iU.j1 K a c b)))))))))))
def mL(b:LV)(K:VK):WK:=mk b λa=>lI (ad a 0) λc=>br (c==1) (K (.bool true)) (lI (ad a 0) λd=>br (d==2) (K (.bool true)) (lI (ad a 0) λe=>K (.bool (e==3))))
def dK(a:LV)(K:VK):WK:=mk a λb=>lI (ad b 12) λc=>K (.bool ((bB .i64 .and c 1)!=0))
def dK.u:WP|[.agg ⟨a⟩],K=>dK a K|_,_=>no
def iQ(n:OA)(e o:Nat)(p:Value)(K:VK):WK:=(lp [.i 0,.bool false,.l n e o,.i (e:Int),.i 0] λk q=>∀f g b c h d a j,k [.i f,.bool g,.l b c h,.i d,.i a] j->(br (decide (a<d)) (fO b c a 14 λr=>ah r 14 λs=>mk cM λm=>aI 14 (ad m 0) s (ah (ad m 0) 14 λt=>tj [(N.dK,dK.u)] p [.agg ⟨t⟩] (xB λv=>br (!v) (K (.tuple ⟨[.i (adP.wrap (a+1)),.bool true]⟩)) ((ct k q [.i f,.bool g,.l b c h,.i d,.i (adP.wrap (a+1))] [.i f,.bool g,.l b c h,.i d,.i a] j))))) (K (.tuple ⟨[.i (e:Int),.bool false]⟩))) j)
def fK(e:OA)(c m:Nat)(g h:Int)(K:VK):WK:=(lp [.i (c:Int),.i 0] λf j=>∀b a d,f [.i b,.i a] d->(br (decide (a<b)) (fO e c a 1 λk=>st k (.i 1) ((ct f j [.i b,.i (adP.wrap (a+1))] [.i b,.i a] d))) (fO e c g 1 λl=>st l (.i h) (K (.tuple ⟨[]⟩)))) d)
def fK.u:WP|[.slice a b c,.int .i64 d,.int .i64 e],K=>fK a b c d e K|_,_=>no
def dc(a:OA)(K:VK):WK:=br (a.isNone) (K (.i 0)) (nn a λb=>lL b λd c e=>K (.i (c:Int)))
def bV.j1(K:VK)(b a:Nat)(c:OA)(d:Int)(e:Bool):WK:=br e (ah (ad b 0) 14 λf=>aI 14 (ad a 0) f (ah (ad a 0) 14 λg=>K (.tuple ⟨[.agg ⟨g⟩,.bool false]⟩))) (nn c λh=>lL h λi j n=>fO i j d 14 λk=>ah k 14 λl=>aI 14 (ad a 0) l (ah (ad a 0) 14 λm=>K (.tuple ⟨[.agg ⟨m⟩,.bool true]⟩)))
def bV(b:OA)(a:Int)(K:VK):WK:=mk cM λc=>mk cM λd=>br (decide (a<0)) (bV.j1 K d c b a true) (dc b (xI .i64 λe=>bV.j1 K d c b a (decide (a>=e))))
def bX(b:OA)(c:LV)(K:VK):WK:=mk c λd=>mk cM λa=>br (b.isNone) (a8 True (a8 (14=14) (gj (ad a 0) cM (ah (ad a 0) 14 λe=>K (.tuple ⟨[.agg ⟨e⟩,.bool false]⟩))))) (tick (nn b λf=>lP (f.add 3) λg=>ah (ad d 0) 2 λh=>dY g h (x2 λi j=>(xI .i64 λk=>(xB λl=>br (!l) (a8 True (a8 (14=14) (gj (ad a 0) cM (ah (ad a 0) 14 λm=>K (.tuple ⟨[.agg ⟨m⟩,.bool false]⟩))))) (nn b λn=>lP (n.add 1) λo=>bV o k (x2 λp q=>(xA 14 λr=>(xB λs=>aI 14 (ad a 0) r (ah (ad a 0) 14 λt=>K (.tuple ⟨[.agg ⟨t⟩,.bool s]⟩))) q) p))) j) i)))
def eK(a:LV)(K:VK):WK:=mk a λb=>ah (ad b 0) 2 λc=>a8 True (nr [.u 0,.u 0] c [.u 0,.u 0] λd=>K (.bool d))
def iE.j2(K:VK)(a:Nat)(b:Bool):WK:=br b (ah (ad a 8) 2 λc=>eK c (xB λd=>br d (lI (ad a 13) λe=>K (.bool (e==0))) (K (.bool false)))) (K (.bool false))
def iE.j1(K:VK)(a:Nat)(b:Bool):WK:=br b (ah (ad a 6) 2 λc=>eK c (xB λd=>iE.j2 K a d)) (iE.j2 K a false)
def iE(b:LV)(K:VK):WK:=mk b λa=>ah (ad a 2) 2 λc=>eK c (xB λd=>br d (ah (ad a 4) 2 λe=>eK e (xB λf=>iE.j1 K a f)) (iE.j1 K a false))
def mh.j1(K:VK)(a:Nat)(b:Bool):WK:=br b (K (.i 8)) (lI (ad a 11) λc=>br (decide (c<1)) (K (.i 9)) (lI (ad a 11) λd=>br (decide (d>65535)) (K (.i 9)) (K (.i 0))))
def mh(b:LV)(K:VK):WK:=mk b λa=>lI (ad a 12) λc=>br ((bB .i64 .andNot c 7)!=0) (K (.i 3)) (ah (ad a 0) 2 λd=>eK d (xB λe=>br e (K (.i 4)) (ah (ad a 0) 2 λf=>ah (ad N.pe 0) 2 λg=>nr [.u 0,.u 0] f g λh=>br h (K (.i 5)) (lI (ad a 12) λj=>br ((bB .i64 .and j 6)==6) (K (.i 6)) (ah (ad a 0) 14 λk=>iE k (xB λl=>br (!l) (K (.i 7)) (lI (ad a 10) λm=>br (decide (m<1)) (mh.j1 K a true) (lI (ad a 10) λn=>mh.j1 K a (decide (n>4294967295))))))))))
def mj.j1(K:VK)(a b:Nat)(c:Bool):WK:=br c (lI (ad a 12) λd=>lI (ad b 12) λe=>br ((bB .i64 .and d 6)==(bB .i64 .and e 6)) (K (.i 10)) (K (.i 11))) (K (.i 11))
def mj(c d:LV)(K:VK):WK:=mk c λa=>mk d λb=>lI (ad a 10) λe=>lI (ad b 10) λf=>br (e==f) (lI (ad a 11) λg=>lI (ad b 11) λh=>mj.j1 K a b (g==h)) (mj.j1 K a b false)
def cj(b:Addr)(K:VK):WK:=lP b λa=>nn a λc=>lI (c.add 8) λd=>nn a λe=>st (e.add 8) (.i (adP.wrap (d-1))) (K (.tuple ⟨[]⟩))
def cj.u:WP|[.pointer (some a)],K=>cj a K|_,_=>no
def kB(c:OA)(K:VK):WK:=mk [.p c] λa=>lP (ad a 0) λb=>nn b λd=>lI (d.add 8) λe=>nn b λf=>st (f.add 8) (.i (adP.wrap (e+1))) (lP (ad a 0) λg=>nn g λh=>eo (some h) (.func (.func N.cj) ⟨[]⟩ ⟨[.p (some (ad a 0))]⟩) (x0 (lP (ad a 0) λj=>nn j λk=>lI (k.add 8) λl=>K (.i l))))
def ku(a:OA)(b:LV)(K:VK):WK:=mk b λc=>br (a.isNone) (K (.bool false)) (ah (ad c 0) 2 λd=>bK a d (x2 λe f=>(xI .i64 λg=>(xB λh=>br (!h) (K (.bool false)) (nn a λj=>lL j λk l t=>a8 (1=1/\True) (fO k l g 4 λm=>a8 (4=4) (gj m [.u 0,.u 0,.i 0,.int .u8 2] (nn a λn=>lI (n.add 1) λo=>nn a λp=>st (p.add 1) (.i (adP.wrap (o-1))) (nn a λq=>lI (q.add 2) λr=>nn a λs=>st (s.add 2) (.i (adP.wrap (r+1))) (K (.bool true)))))))) f) e))
def cr(a c:Addr)(K:VK):WK:=tick (lP a λb=>nn b λd=>lP (d.add 3) λe=>ah c 2 λf=>ku e f (xB λg=>kp a [.p b] (K (.tuple ⟨[]⟩))))
def cr.u:WP|[.pointer (some a),.pointer (some b)],K=>cr a b K|_,_=>no
def iZ(k:OA)(l:LV)(K:VK):WK:=mk [.p k] λa=>mk l λb=>lP (ad a 0) λm=>br (m.isNone) (K (.i 2)) (lP (ad a 0) λn=>nn n λo=>lP (o.add 1) λq=>dc q (xI .i64 λr=>br (decide (r>=32)) (K (.i 6)) (tick (lP (ad a 0) λe=>nn e λs=>lP (s.add 3) λt=>ah (ad b 0) 2 λu=>dY t u (x2 λv w=>(xI .i64 λI=>(xB λx=>kp (ad a 0) [.p e] (br x (K (.i 1)) (lP (ad a 0) λy=>kB y (xI .i64 λz=>st (ad b 13) (.i z) (tick (lP (ad a 0) λc=>nn c λf=>lP (f.add 3) λg=>ah (ad b 0) 2 λh=>lP (ad a 0) λd=>nn d λA=>lP (A.add 1) λB=>dc B (xI .i64 λC=>kp (ad a 0) [.p d] (kp (ad b 0) h (kp (f.add 3) [.p g] (kp (ad a 0) [.p c] (cb g h C (xB λJ=>kp (ad a 0) [.p d] (kp (ad a 0) [.p c] (lP (ad a 0) λD=>nn D λE=>eo (some E) (.func (.func N.cr) ⟨[]⟩ ⟨[.p (some (ad a 0)),.p (some (ad b 0))]⟩) (x0 (tick (lP (ad a 0) λj=>nn j λF=>lP (F.add 1) λG=>ah (ad b 0) 14 λH=>fb G H (xI .i64 λM=>kp (ad a 0) [.p j] (K (.i 0)))))))))))))))))))) w) v)))))
def iD(b:OA)(e:LV)(K:VK):WK:=mk e λa=>ah (ad a 0) 14 λf=>mh f (xI .i64 λc=>br (c !=0) (K (.i c)) (ah (ad a 0) 2 λg=>bX b g (x2 λh j=>(xA 14 λk=>(xB λl=>mk cM λd=>aI 14 (ad d 0) k (br l (ah (ad a 0) 14 λm=>ah (ad d 0) 14 λn=>mj m n (xI .i64 λo=>K (.i o))) (lI (ad a 12) λp=>st (ad a 12) (.i (bB .i64 .andNot p 1)) (ah (ad a 0) 14 λq=>iZ b q (xI .i64 λr=>br (r !=0) (K (.i 35)) (K (.i 0))))))) j) h)))
def iD.u:WP|[.pointer a,.agg ⟨b⟩],K=>iD a b K|_,_=>no
def oH(a:OA)(K:VK):WK:=br (a.isNone) (K (.i 0)) (nn a λb=>lL b λd c e=>K (.i (c:Int)))
def cW(a:OA)(K:VK):WK:=br (a.isNone) (K (.i 0)) (nn a λb=>oH (some b) (xI .i64 λc=>K (.i c)))
def cW.u:WP|[.pointer a],K=>cW a K|_,_=>no
def cm(a b:Addr)(K:VK):WK:=lP b λc=>lI a λd=>nn c λe=>st (e.add 7) (.i d) (K (.tuple ⟨[]⟩))
def cm.u:WP|[.pointer (some a),.pointer (some b)],K=>cm a b K|_,_=>no
def cG(a c:Addr)(K:VK):WK:=tick (lP a λb=>nn b λd=>ah c 4 λe=>iB (some (d.add 6)) e (x0 (kp a [.p b] (K (.tuple ⟨[]⟩)))))
def cG.u:WP|[.pointer (some a),.pointer (some b)],K=>cG a b K|_,_=>no
def fF.j1(K:VK)(a:OA)(b:Int)(m:Bool):WK:=br m (K (.bool false)) (tick (nn a λc=>lL c λd e f=>nT d e f 2 none (some b) λn o p=>nn a λg=>lL g λh j k=>nT h j k 2 (some (adP.wrap (b+1))) none λq r w=>eS 2 16 [.i 0,.i 0] n o p q r λs t u=>kp g [.l h j k] (kp c [.l d e f] (nn a λv=>st v (.l s t u) (K (.bool true))))))
def fF(a:OA)(c:Int)(K:VK):WK:=br (a.isNone) (K (.bool false)) (iC a c (xI .i64 λb=>nn a λd=>lL d λk e l=>br (b==(e:Int)) (fF.j1 K a b true) (nn a λf=>lL f λg h m=>fO g h b 2 λi=>lI i λj=>fF.j1 K a b (j !=c))))
def cw(a d e:Addr)(K:VK):WK:=tick (lP a λb=>nn b λf=>lP (f.add 4) λg=>ah d 2 λh=>ku g h (xB λk=>kp a [.p b] (tick (lP a λc=>nn c λi=>lI (e.add 30) λj=>fF (some (i.add 5)) j (xB λl=>kp a [.p c] (K (.tuple ⟨[]⟩)))))))
def cw.u:WP|[.pointer (some a),.pointer (some b),.pointer (some c)],K=>cw a b c K|_,_=>no
def cV.j1(K:VK)(a:OA)(d:LI)(e:LM)(f:Int)(g:World)(c b:Int):WK:=br (b==c) (K (.tuple ⟨[]⟩)) (tick (nn a λh=>lL h λj k A=>nn a λl=>lL l λm n B=>nn a λo=>lL o λp q C=>fO p q b 4 λr=>ah r 4 λs=>nn a λt=>lL t λu v D=>fO u v c 4 λw=>ah w 4 λx=>fO j k c 4 λy=>aI 4 y s (fO m n b 4 λz=>aI 4 z x ((ct d e [.i b] [.i f] g)))))
def cV.j2(K:VK)(d:OA)(a b:Int)(e:LI)(c:Int)(f:LM)(g:World)(p:LI)(q:LM)(r:Int)(s:World)(t:Bool):WK:=br t (tick (nn d λh=>lL h λj k u=>fO j k a 4 λv=>ah v 4 λw=>nn d λm=>lL m λn o x=>fO n o b 4 λy=>ah y 4 λz=>nD w z (xB λA=>kp m [.l n o x] (kp h [.l j k u] (br A ((ct e f [.i c,.i a,.i (adP.wrap (a+1))] [.i c,.i b,.i a] g)) ((ct e f [.i c,.i b,.i (adP.wrap (a+1))] [.i c,.i b,.i a] g))))))) (cV.j1 K d p q r s c b)
def cV(f:OA)(m:Int)(K:VK):WK:=(lp [.i m] λg k=>∀a c,g [.i a] c->((lp [.i a,.i a,.i (adP.wrap ((adP.wrap (2* a))+1))] λh l=>∀d j b e,h [.i d,.i j,.i b] e->(br (decide (b<=(adP.wrap ((adP.wrap (2* d))+2)))) (nn f λn=>lL n λp o q=>cV.j2 K f b j h d l e g k a c (decide (b<(o:Int)))) (cV.j2 K f b j h d l e g k a c false)) e)) c)
def mn(a:OA)(b:Int)(K:VK):WK:=mk tv λd=>tick (nn a λg=>lL g λh i o=>fO h i b 4 λj=>ah j 4 λk=>nn a λe=>lL e λm c n=>mk tv λf=>kp e [.l m c n] (kp j k (kp g [.l h i o] (aI 4 (ad f 0) k (kp e [.l m c n] (tick (nn a λp=>lL p λq r M=>nn a λs=>lL s λt u O=>fO t u (adP.wrap ((c:Int) -1)) 4 λv=>ah v 4 λw=>fO q r b 4 λx=>aI 4 x w (nn a λy=>lL y λz A B=>nT z A B 4 none (some (adP.wrap ((c:Int) -1))) λC D E=>nn a λF=>st F (.l C D E) (br (decide (b<(adP.wrap ((c:Int) -1)))) (cV a b (x0 (fx a b (x0 (ah (ad f 0) 4 λG=>aI 4 (ad d 0) G (ah (ad d 0) 4 λH=>K (.agg ⟨H⟩))))))) (ah (ad f 0) 4 λI=>aI 4 (ad d 0) I (ah (ad d 0) 4 λJ=>K (.agg ⟨J⟩))))))))))))
def iX(e:OA)(n:Int)(K:VK):WK:=br (e.isNone) (K (.bool false)) (nn e λo=>lL o λp j q=>(lp [.bool false,.l p j q,.i (j:Int),.i 0] λk r=>∀f b c g d a h,k [.bool f,.l b c g,.i d,.i a] h->(br (decide (a<d)) (fO b c a 4 λs=>ah s 4 λt=>mk tv λm=>aI 4 (ad m 0) t (lI (ad m 1) λu=>br (u==n) (mn e a (xA 4 λv=>K (.bool true))) ((ct k r [.bool f,.l b c g,.i d,.i (adP.wrap (a+1))] [.bool f,.l b c g,.i d,.i a] h)))) (K (.bool false))) h))
def cu(a c:Addr)(K:VK):WK:=tick (lP a λb=>nn b λd=>lI (c.add 1) λe=>iX (some (d.add 6)) e (xB λf=>kp a [.p b] (K (.tuple ⟨[]⟩))))
def cu.u:WP|[.pointer (some a),.pointer (some b)],K=>cu a b K|_,_=>no
def aX(a b c:Addr)(K:VK):WK:=tick (lP b λd=>nn d λe=>lL e λf g k=>lI c λh=>ah a 14 λi=>fO f g h 14 λj=>aI 14 j i (K (.tuple ⟨[]⟩)))
def aX.u:WP|[.pointer (some a),.pointer (some b),.pointer (some c)],K=>aX a b c K|_,_=>no
def bp(a b c:Addr)(K:VK):WK:=tick (lP b λd=>nn d λe=>lL e λf g k=>lI c λh=>ah a 33 λi=>fO f g h 33 λj=>aI 33 j i (K (.tuple ⟨[]⟩)))
def bp.u:WP|[.pointer (some a),.pointer (some b),.pointer (some c)],K=>bp a b c K|_,_=>no
def oI(a:OA)(e:Int)(K:VK):WK:=br (a.isNone) (K (.tuple ⟨[]⟩)) ((lp [] λc f=>∀b,c [] b->(nn a λg=>lL g λy h z=>br (decide ((h:Int)>(max2 e 0))) (nn a λi=>lL i λA d B=>nn a λj=>lL j λk m C=>fO k m (adP.wrap ((d:Int) -1)) 1 λn=>ld n λo=>tj [(N.cG,cG.u),(N.cw,cw.u),(N.cu,cu.u),(N.cr,cr.u),(N.cm,cm.u),(N.cj,cj.u),(N.aY,aY.u),(N.aX,aX.u),(N.bq,bq.u),(N.bp,bp.u)] o [] (x0 (nn a λp=>lL p λq r s=>nT q r s 1 none (some (adP.wrap ((d:Int) -1))) λt v w=>nn a λx=>st x (.l t v w) ((ct c f [] [] b))))) (K (.tuple ⟨[]⟩))) b))
def cX(a:OA)(b:Int)(K:VK):WK:=br (!(a.isNone)) (nn a λc=>oI (some c) b (x0 (K (.tuple ⟨[]⟩)))) (K (.tuple ⟨[]⟩))
def cX.u:WP|[.pointer a,.int .i64 b],K=>cX a b K|_,_=>no
def jm(f o:OA)(j q:Nat)(r:OA)(s t:Nat)(v:Value)(K:VK):WK:=cW f (xI .i64 λw=>(lp [.i w,.l o j q,.i (j:Int),.i 0] λk x=>∀b c d g e a h,k [.i b,.l c d g,.i e,.i a] h->(br (decide (a<e)) (fO c d a 14 λy=>ah y 14 λz=>mk cM λm=>aI 14 (ad m 0) z (ah (ad m 0) 14 λA=>tj [(N.cX,cX.u),(N.cW,cW.u),(N.iD,iD.u),(N.fK,fK.u)] v [.p f,.agg ⟨A⟩] (xI .i64 λn=>br (n !=0) (cX f b (x0 (fK r s t a n (x0 (K (.tuple ⟨[]⟩)))))) ((ct k x [.i b,.l c d g,.i e,.i (adP.wrap (a+1))] [.i b,.l c d g,.i e,.i a] h))))) (K (.tuple ⟨[]⟩))) h))
def lJ(t n:OA)(e o:Nat)(u v:Value)(K:VK):WK:=FU 8 [.i 0] (e:Int) (e:Int) λw x y=>(lp [.l none 0 0,.l w x y,.i 0] λm p=>∀f g h b c d a k,m [.l f g h,.l b c d,.i a] k->(br (decide (a<(e:Int))) (nT n e o 14 (some a) none λz A B=>iQ z A B (u) (x2 λC D=>(xI .i64 λj=>(xB λE=>nT b c d 1 (some a) (some (adP.wrap (a+j))) λq r s=>br (!E) (fK q r s (adP.wrap (j-1)) 2 (x0 ((ct m p [.l f g h,.l b c d,.i (adP.wrap (a+j))] [.l f g h,.l b c d,.i a] k)))) (nT n e o 14 (some a) (some (adP.wrap (a+j))) λF G H=>jm t F G H q r s (v) (x0 ((ct m p [.l f g h,.l b c d,.i (adP.wrap (a+j))] [.l f g h,.l b c d,.i a] k))))) D) C)) (K (.l b c d))) k)
def nM(a b:OA)(c d:Nat)(K:VK):WK:=lJ a b c d (.func (.func N.dK) ⟨[]⟩ ⟨[]⟩) (.func (.func N.iD) ⟨[]⟩ ⟨[]⟩) (xL λe f g=>K (.l e f g))
def dv(a:LV)(K:VK):WK:=mk a λb=>lI (ad b 13) λc=>K (.bool ((bB .i64 .and c 1)!=0))
def dv.u:WP|[.agg ⟨a⟩],K=>dv a K|_,_=>no
def il(n:OA)(e o:Nat)(p:Value)(K:VK):WK:=(lp [.i 0,.bool false,.l n e o,.i (e:Int),.i 0] λk q=>∀f g b c h d a j,k [.i f,.bool g,.l b c h,.i d,.i a] j->(br (decide (a<d)) (fO b c a 16 λr=>ah r 16 λs=>mk fe λm=>aI 16 (ad m 0) s (ah (ad m 0) 16 λt=>tj [(N.dv,dv.u)] p [.agg ⟨t⟩] (xB λv=>br (!v) (K (.tuple ⟨[.i (adP.wrap (a+1)),.bool true]⟩)) ((ct k q [.i f,.bool g,.l b c h,.i d,.i (adP.wrap (a+1))] [.i f,.bool g,.l b c h,.i d,.i a] j))))) (K (.tuple ⟨[.i (e:Int),.bool false]⟩))) j)
def nZ(a:LV)(K:VK):WK:=mk a λb=>lI (ad b 13) λc=>K (.bool ((bB .i64 .and c 12)!=0))
def iI(a:LV)(K:VK):WK:=mk a λb=>lI (ad b 13) λc=>K (.bool ((bB .i64 .and c 2)!=0))
def gQ.j1(K:VK)(a:Addr)(b:Bool):WK:=br b (lI (a.add 13) λc=>br ((bB .i64 .and c 192)==0) (K (.bool true)) (ah a 16 λd=>iI d (xB λe=>K (.bool e)))) (K (.bool false))
def gQ(j:LV)(K:VK):WK:=mk j λk=>a8 (1=1/\(1=1/\(1=1/\True))) ((lp [.p (some (ad k 0)),.bool false,.i 0,.agg ⟨[.i 2,.i 4,.i 8]⟩,.i 0] λg h=>∀a e c d b f,g [.p (some a),.bool e,.i c,.agg ⟨d⟩,.i b] f->(br (decide (b<3)) (yP d 3 b (xI .i64 λl=>lI (a.add 13) λm=>br ((bB .i64 .and m l)!=0) ((ct g h [.p (some a),.bool e,.i (adP.wrap (c+1)),.agg ⟨d⟩,.i (adP.wrap (b+1))] [.p (some a),.bool e,.i c,.agg ⟨d⟩,.i b] f)) ((ct g h [.p (some a),.bool e,.i c,.agg ⟨d⟩,.i (adP.wrap (b+1))] [.p (some a),.bool e,.i c,.agg ⟨d⟩,.i b] f)))) (br (decide (c<=1)) (ah a 16 λn=>nZ n (xB λo=>br o (lI (a.add 13) λq=>gQ.j1 K a (!((bB .i64 .and q 240)!=0))) (gQ.j1 K a true))) (gQ.j1 K a false))) f))
def kF.j1(K:VK)(a:Nat)(b:Bool):WK:=br b (K (.i 8)) (lI (ad a 12) λc=>br (decide (c<0)) (K (.i 9)) (lI (ad a 12) λd=>br (decide (d>65535)) (K (.i 9)) (K (.i 0))))
def kF(b:LV)(K:VK):WK:=mk b λa=>ah (ad a 8) 2 λc=>eK c (xB λd=>br d (K (.i 16)) (lI (ad a 11) λe=>br (decide (e<0)) (kF.j1 K a true) (lI (ad a 11) λf=>kF.j1 K a (decide (f>4294967295)))))
def mD(a:LV)(K:VK):WK:=mk a λb=>lI (ad b 13) λc=>K (.bool ((bB .i64 .and c 48)!=0))
def gu.j2(K:VK)(a:Nat)(b:Bool):WK:=br b (K (.i 8)) (lI (ad a 12) λc=>br (decide (c<1)) (K (.i 9)) (lI (ad a 12) λd=>br (decide (d>65535)) (K (.i 9)) (K (.i 0))))
def gu.j1(K:VK)(a:Nat)(b:Bool):WK:=br b (K (.i 18)) (lI (ad a 11) λc=>br (decide (c<1)) (gu.j2 K a true) (lI (ad a 11) λd=>gu.j2 K a (decide (d>4294967295))))
def gu(b:LV)(K:VK):WK:=mk b λa=>ah (ad a 2) 2 λc=>eK c (xB λd=>br d (K (.i 12)) (ah (ad a 4) 2 λe=>eK e (xB λf=>br f (K (.i 13)) (ah (ad a 2) 2 λg=>ah (ad a 4) 2 λh=>nr [.u 0,.u 0] g h λj=>br j (K (.i 14)) (ah (ad a 8) 2 λk=>eK k (xB λl=>br (!l) (K (.i 15)) (ah (ad a 6) 2 λm=>eK m (xB λn=>br n (ah (ad a 0) 16 λo=>mD o (xB λp=>gu.j1 K a (!p))) (gu.j1 K a false)))))))))
def cS.j3(K:VK)(a:Nat)(b:Bool):WK:=br b (K (.i 17)) (ah (ad a 0) 16 λc=>nZ c (xB λd=>br d (ah (ad a 0) 16 λe=>kF e (xI .i64 λf=>K (.i f))) (ah (ad a 0) 16 λg=>gu g (xI .i64 λh=>K (.i h)))))
def cS.j4(K:VK)(a:Nat)(b:Bool):WK:=br b (cS.j3 K a true) (lI (ad a 10) λc=>br (c !=0) (ah (ad a 0) 16 λd=>iI d (xB λe=>cS.j3 K a (!e))) (cS.j3 K a false))
def cS.j2(K:VK)(a:Nat)(b:Bool):WK:=br b (K (.i 7)) (lI (ad a 10) λc=>br (decide (c<0)) (cS.j4 K a true) (lI (ad a 10) λd=>cS.j4 K a (decide (d>1073741824))))
def cS.j1(K:VK)(a:Nat)(b:Bool):WK:=br b (K (.i 3)) (ah (ad a 0) 2 λc=>eK c (xB λd=>br d (K (.i 4)) (ah (ad a 0) 2 λe=>ah (ad N.pe 0) 2 λf=>nr [.u 0,.u 0] e f λg=>br g (K (.i 5)) (ah (ad a 0) 16 λh=>gQ h (xB λj=>br (!j) (K (.i 6)) (lI (ad a 14) λk=>br (k !=0) (cS.j2 K a true) (lI (ad a 15) λl=>cS.j2 K a (l !=0))))))))
def cS(b:LV)(K:VK):WK:=mk b λa=>lI (ad a 13) λc=>br (decide (c<0)) (cS.j1 K a true) (lI (ad a 13) λd=>cS.j1 K a (decide (d>255)))
def bT.j1(K:VK)(b a:Nat)(c:OA)(d:Int)(e:Bool):WK:=br e (ah (ad b 0) 33 λf=>aI 33 (ad a 0) f (ah (ad a 0) 33 λg=>K (.tuple ⟨[.agg ⟨g⟩,.bool false]⟩))) (nn c λh=>lL h λi j n=>fO i j d 33 λk=>ah k 33 λl=>aI 33 (ad a 0) l (ah (ad a 0) 33 λm=>K (.tuple ⟨[.agg ⟨m⟩,.bool true]⟩)))
def bT(b:OA)(a:Int)(K:VK):WK:=mk bg λc=>mk bg λd=>br (decide (a<0)) (bT.j1 K d c b a true) (dj b (xI .i64 λe=>bT.j1 K d c b a (decide (a>=e))))
def eu(b:OA)(c:LV)(K:VK):WK:=mk c λd=>mk bg λa=>br (b.isNone) (a8 True (a8 (33=33) (gj (ad a 0) bg (ah (ad a 0) 33 λe=>K (.tuple ⟨[.agg ⟨e⟩,.bool false]⟩))))) (tick (nn b λf=>lP (f.add 4) λg=>ah (ad d 0) 2 λh=>dY g h (x2 λi j=>(xI .i64 λk=>(xB λl=>br (!l) (a8 True (a8 (33=33) (gj (ad a 0) bg (ah (ad a 0) 33 λm=>K (.tuple ⟨[.agg ⟨m⟩,.bool false]⟩))))) (nn b λn=>lP (n.add 2) λo=>bT o k (x2 λp q=>(xA 33 λr=>(xB λs=>aI 33 (ad a 0) r (ah (ad a 0) 33 λt=>K (.tuple ⟨[.agg ⟨t⟩,.bool s]⟩))) q) p))) j) i)))
def gF(d:OA)(e:Int)(f:LV)(K:VK):WK:=mk [.p d] λa=>mk [.i e] λb=>mk f λg=>lP (ad a 0) λh=>lI (ad b 0) λj=>bV h j (x2 λk l=>(xA 14 λm=>(xB λn=>mk cM λc=>aI 14 (ad c 0) m (br (!n) (K (.bool false)) (tick (lP (ad a 0) λo=>nn o λq=>lL q λr s z=>lI (ad b 0) λt=>ah (ad g 0) 14 λu=>fO r s t 14 λv=>aI 14 v u (lP (ad a 0) λw=>nn w λx=>lP (x.add 1) λy=>eo y (.func (.func N.aX) ⟨[]⟩ ⟨[.p (some (ad c 0)),.p (some (ad a 0)),.p (some (ad b 0))]⟩) (x0 (K (.bool true)))))))) l) k)
def gO(a:OA)(d:LV)(K:VK):WK:=mk d λb=>ah (ad b 0) 2 λe=>bX a e (x2 λf g=>(xA 14 λh=>(xB λj=>mk cM λc=>aI 14 (ad c 0) h (br (a.isNone) (K (.i 2)) (br (!j) (K (.i 5)) (tick (nn a λk=>lP (k.add 3) λl=>ah (ad b 0) 2 λm=>dY l m (x2 λn o=>(xI .i64 λp=>(xB λu=>lI (ad c 13) λq=>st (ad b 13) (.i q) (tick (nn a λr=>lP (r.add 1) λs=>ah (ad b 0) 14 λt=>gF s p t (xB λv=>K (.i 0))))) o) n)))))) g) f)
def qb(d e:LV)(K:VK):WK:=mk d λb=>mk e λa=>tick (lI (ad b 13) λf=>lI (ad a 13) λc=>st (ad b 13) (.i (bB .i64 .andNot f 1)) (kp (ad a 13) [.i c] (st (ad a 13) (.i (bB .i64 .andNot c 1)) (ah (ad b 0) 16 λg=>ah (ad a 0) 16 λh=>nr fe g h λj=>br j (K (.i 10)) (K (.i 11))))))
def uB(g:OA)(h:LV)(K:VK):WK:=mk h λd=>mk kE λa=>ah (ad d 2) 2 λj=>bX g j (x2 λk l=>(xA 14 λm=>(xB λn=>mk cM λb=>aI 14 (ad b 0) m (ah (ad d 4) 2 λo=>bX g o (x2 λp q=>(xA 14 λr=>(xB λs=>mk cM λc=>aI 14 (ad c 0) r (br (!n) (a8 True (a8 (28=28) (gj (ad a 0) kE (ah (ad a 0) 28 λt=>K (.tuple ⟨[.agg ⟨t⟩,.i 19]⟩))))) (br (!s) (a8 True (a8 (28=28) (gj (ad a 0) kE (ah (ad a 0) 28 λu=>K (.tuple ⟨[.agg ⟨u⟩,.i 20]⟩))))) (lI (ad b 10) λv=>lI (ad c 10) λw=>br (v !=w) (a8 True (a8 (28=28) (gj (ad a 0) kE (ah (ad a 0) 28 λx=>K (.tuple ⟨[.agg ⟨x⟩,.i 21]⟩))))) (lI (ad b 10) λy=>lI (ad d 11) λz=>br (y !=z) (a8 True (a8 (28=28) (gj (ad a 0) kE (ah (ad a 0) 28 λA=>K (.tuple ⟨[.agg ⟨A⟩,.i 22]⟩))))) (lI (ad b 12) λB=>br ((bB .i64 .and B 8)!=0) (a8 True (a8 (28=28) (gj (ad a 0) kE (ah (ad a 0) 28 λC=>K (.tuple ⟨[.agg ⟨C⟩,.i 30]⟩))))) (lI (ad c 12) λD=>br ((bB .i64 .and D 8)!=0) (a8 True (a8 (28=28) (gj (ad a 0) kE (ah (ad a 0) 28 λE=>K (.tuple ⟨[.agg ⟨E⟩,.i 31]⟩))))) (ah (ad b 0) 14 λe=>ah (ad c 0) 14 λf=>a8 (e.length=14/\(f.length=14/\True)) (a8 ((e++(f++[])).length=28) (gj (ad a 0) (e++(f++[])) (ah (ad a 0) 28 λF=>K (.tuple ⟨[.agg ⟨F⟩,.i 0]⟩)))))))))))) q) p))) l) k)
def kC(a:OA)(K:VK):WK:=br (!(a.isNone)) (nn a λb=>lP (b.add 2) λc=>dj c (xI .i64 λd=>K (.bool (decide (d<96))))) (K (.bool false))
def pE(c d:LV)(K:VK):WK:=mk c λa=>mk d λb=>ah (ad a 0) 2 λe=>ah (ad b 0) 2 λf=>nr [.u 0,.u 0] e f λg=>br g (K (.i 0)) (lU (ad a 0) λh=>lU (ad b 0) λj=>br (decide (h<j)) (K (.i (-1))) (lU (ad a 0) λk=>lU (ad b 0) λl=>br (k==l) (lU (ad a 1) λm=>lU (ad b 1) λn=>br (decide (m<n)) (K (.i (-1))) (K (.i 1))) (K (.i 1))))
def na(a b:LV)(K:VK):WK:=mk a λc=>mk b λd=>ah (ad c 0) 2 λe=>ah (ad d 0) 2 λf=>pE e f (xI .i64 λg=>K (.bool (decide (g<0))))
def tz(d e:LV)(K:VK):WK:=mk d λb=>mk e λc=>mk [.u 0,.u 0] λa=>ah (ad c 0) 2 λf=>ah (ad b 0) 2 λg=>na f g (xB λh=>br h (ah (ad c 0) 2 λi=>aI 2 (ad a 0) i (ah (ad a 0) 2 λj=>K (.agg ⟨j⟩))) (ah (ad b 0) 2 λk=>aI 2 (ad a 0) k (ah (ad a 0) 2 λl=>K (.agg ⟨l⟩))))
def lZ(d e:LV)(K:VK):WK:=mk d λb=>mk e λc=>mk [.u 0,.u 0] λa=>ah (ad b 0) 2 λf=>ah (ad c 0) 2 λg=>na f g (xB λh=>br h (a8 True (a8 (2=2) (gj (ad a 0) [.u 0,.u 0] (ah (ad a 0) 2 λi=>K (.tuple ⟨[.agg ⟨i⟩,.bool false]⟩))))) (lU (ad b 1) λj=>lU (ad c 1) λk=>mY j k 0 (x2 λl m=>(xI .u64 λn=>(xI .u64 λo=>lU (ad b 0) λp=>lU (ad c 0) λq=>mY p q o (x2 λr s=>(xI .u64 λt=>(xI .u64 λw=>a8 (1=1/\(1=1/\True)) (a8 (2=2) (gj (ad a 0) [.u t,.u n] (ah (ad a 0) 2 λv=>K (.tuple ⟨[.agg ⟨v⟩,.bool true]⟩))))) s) r)) m) l)))
def l6(d e:LV)(K:VK):WK:=mk d λb=>mk e λc=>mk [.u 0,.u 0] λa=>lU (ad b 1) λf=>lU (ad c 1) λg=>mZ f g 0 (x2 λh i=>(xI .u64 λj=>(xI .u64 λk=>lU (ad b 0) λl=>lU (ad c 0) λm=>mZ l m k (x2 λn o=>(xI .u64 λp=>(xI .u64 λq=>br (q !=0) (a8 True (a8 (2=2) (gj (ad a 0) [.u 0,.u 0] (ah (ad a 0) 2 λr=>K (.tuple ⟨[.agg ⟨r⟩,.bool false]⟩))))) (a8 (1=1/\(1=1/\True)) (a8 (2=2) (gj (ad a 0) [.u p,.u j] (ah (ad a 0) 2 λs=>K (.tuple ⟨[.agg ⟨s⟩,.bool true]⟩)))))) o) n)) i) h)
def fq(c d:LV)(K:VK):WK:=mk c λe=>mk d λf=>mk [.u 0,.u 0] λa=>ah (ad e 0) 2 λg=>ah (ad f 0) 2 λh=>l6 g h (x2 λi j=>(xA 2 λk=>(xB λl=>mk [.u 0,.u 0] λb=>aI 2 (ad b 0) k (br (!l) (ah (ad N.pe 0) 2 λm=>aI 2 (ad a 0) m (ah (ad a 0) 2 λn=>K (.agg ⟨n⟩))) (ah (ad b 0) 2 λo=>aI 2 (ad a 0) o (ah (ad a 0) 2 λp=>K (.agg ⟨p⟩))))) j) i)
def bR.j1(K:VK)(c d a:Nat):WK:=ah (ad c 0) 2 λe=>ah (ad d 0) 2 λf=>lZ e f (x2 λg h=>(xA 2 λi=>(xB λl=>mk [.u 0,.u 0] λb=>aI 2 (ad b 0) i (ah (ad b 0) 2 λj=>aI 2 (ad a 0) j (ah (ad a 0) 2 λk=>K (.agg ⟨k⟩)))) h) g)
def bR.j2(K:VK)(c d a:Nat):WK:=ah (ad c 0) 2 λe=>ah (ad d 0) 2 λf=>lZ e f (x2 λg h=>(xA 2 λi=>(xB λl=>mk [.u 0,.u 0] λb=>aI 2 (ad b 0) i (ah (ad b 0) 2 λj=>aI 2 (ad a 0) j (ah (ad a 0) 2 λk=>K (.agg ⟨k⟩)))) h) g)
def bR.j3(K:VK)(c d a:Nat):WK:=ah (ad c 0) 2 λe=>ah (ad d 0) 2 λf=>lZ e f (x2 λg h=>(xA 2 λi=>(xB λl=>mk [.u 0,.u 0] λb=>aI 2 (ad b 0) i (ah (ad b 0) 2 λj=>aI 2 (ad a 0) j (ah (ad a 0) 2 λk=>K (.agg ⟨k⟩)))) h) g)
def bR.j4(K:VK)(c d a:Nat):WK:=ah (ad c 0) 2 λe=>ah (ad d 0) 2 λf=>lZ e f (x2 λg h=>(xA 2 λi=>(xB λl=>mk [.u 0,.u 0] λb=>aI 2 (ad b 0) i (ah (ad b 0) 2 λj=>aI 2 (ad a 0) j (ah (ad a 0) 2 λk=>K (.agg ⟨k⟩)))) h) g)
def bR.j5(K:VK)(c d a:Nat):WK:=ah (ad c 0) 2 λe=>ah (ad d 0) 2 λf=>lZ e f (x2 λg h=>(xA 2 λi=>(xB λl=>mk [.u 0,.u 0] λb=>aI 2 (ad b 0) i (ah (ad b 0) 2 λj=>aI 2 (ad a 0) j (ah (ad a 0) 2 λk=>K (.agg ⟨k⟩)))) h) g)
def bR.j6(K:VK)(c d a:Nat):WK:=ah (ad c 0) 2 λe=>ah (ad d 0) 2 λf=>lZ e f (x2 λg h=>(xA 2 λi=>(xB λl=>mk [.u 0,.u 0] λb=>aI 2 (ad b 0) i (ah (ad b 0) 2 λj=>aI 2 (ad a 0) j (ah (ad a 0) 2 λk=>K (.agg ⟨k⟩)))) h) g)
def bR(y:LV)(h:Bool)(K:VK):WK:=mk y λa=>mk [.u 0,.u 0] λc=>tick (ah (ad a 4) 2 λb=>ah (ad a 6) 2 λd=>ah (ad a 8) 2 λe=>both (fq d e (xA 2 λq=>kp (ad a 4) b (both (mk [.u 0,.u 0] λi=>kp (ad a 4) b (mk [.u 0,.u 0] λj=>kp (ad a 4) b (aI 2 (ad i 0) b (aI 2 (ad j 0) q (br h (tick (ah (ad a 8) 2 λr=>ah (ad a 2) 2 λz=>ah (ad a 4) 2 λA=>fq z A (xA 2 λB=>kp (ad a 8) r (aI 2 (ad i 0) r (aI 2 (ad j 0) B (bR.j1 K i j c)))))) (bR.j1 K i j c)))))) (mk [.u 0,.u 0] λk=>kp (ad a 4) b (mk [.u 0,.u 0] λl=>kp (ad a 4) b (aI 2 (ad l 0) b (aI 2 (ad k 0) q (br h (tick (ah (ad a 8) 2 λs=>ah (ad a 2) 2 λC=>ah (ad a 4) 2 λD=>fq C D (xA 2 λE=>kp (ad a 8) s (aI 2 (ad l 0) s (aI 2 (ad k 0) E (bR.j2 K l k c)))))) (bR.j2 K l k c))))))))) (both (mk [.u 0,.u 0] λf=>kp (ad a 8) e (kp (ad a 6) d (kp (ad a 4) b (both (fq d e (xA 2 λF=>kp (ad a 4) b (mk [.u 0,.u 0] λm=>kp (ad a 4) b (aI 2 (ad f 0) b (aI 2 (ad m 0) F (br h (tick (ah (ad a 8) 2 λt=>ah (ad a 2) 2 λG=>ah (ad a 4) 2 λH=>fq G H (xA 2 λI=>kp (ad a 8) t (aI 2 (ad f 0) t (aI 2 (ad m 0) I (bR.j3 K f m c)))))) (bR.j3 K f m c))))))) (mk [.u 0,.u 0] λn=>kp (ad a 8) e (kp (ad a 6) d (kp (ad a 4) b (fq d e (xA 2 λJ=>kp (ad a 4) b (aI 2 (ad f 0) b (aI 2 (ad n 0) J (br h (tick (ah (ad a 8) 2 λv=>ah (ad a 2) 2 λM=>ah (ad a 4) 2 λO=>fq M O (xA 2 λP=>kp (ad a 8) v (aI 2 (ad f 0) v (aI 2 (ad n 0) P (bR.j4 K f n c)))))) (bR.j4 K f n c))))))))))))) (mk [.u 0,.u 0] λg=>kp (ad a 8) e (kp (ad a 6) d (kp (ad a 4) b (both (fq d e (xA 2 λQ=>kp (ad a 4) b (mk [.u 0,.u 0] λo=>kp (ad a 4) b (aI 2 (ad o 0) b (aI 2 (ad g 0) Q (br h (tick (ah (ad a 8) 2 λw=>ah (ad a 2) 2 λR=>ah (ad a 4) 2 λS=>fq R S (xA 2 λT=>kp (ad a 8) w (aI 2 (ad o 0) w (aI 2 (ad g 0) T (bR.j5 K o g c)))))) (bR.j5 K o g c))))))) (mk [.u 0,.u 0] λp=>kp (ad a 8) e (kp (ad a 6) d (kp (ad a 4) b (fq d e (xA 2 λV=>kp (ad a 4) b (aI 2 (ad p 0) b (aI 2 (ad g 0) V (br h (tick (ah (ad a 8) 2 λx=>ah (ad a 2) 2 λW=>ah (ad a 4) 2 λX=>fq W X (xA 2 λY=>kp (ad a 8) x (aI 2 (ad p 0) x (aI 2 (ad g 0) Y (bR.j6 K p g c)))))) (bR.j6 K p g c)))))))))))))))
def dm.j3(K:VK)(d a e b:Nat):WK:=lI (ad d 13) λf=>br ((bB .i64 .and f 32)!=0) (tick (ah (ad a 0) 2 λc=>ah (ad e 14) 14 λg=>bR g false (xA 2 λh=>kp (ad a 0) c (tz c h (xA 2 λj=>aI 2 (ad a 0) j (ah (ad a 0) 2 λk=>eK k (xB λl=>br l (ah (ad a 0) 2 λm=>aI 2 (ad b 0) m (ah (ad b 0) 2 λn=>K (.tuple ⟨[.agg ⟨n⟩,.i 34]⟩))) (ah (ad a 0) 2 λo=>aI 2 (ad b 0) o (ah (ad b 0) 2 λp=>K (.tuple ⟨[.agg ⟨p⟩,.i 0]⟩)))))))))) (ah (ad a 0) 2 λq=>aI 2 (ad b 0) q (ah (ad b 0) 2 λr=>K (.tuple ⟨[.agg ⟨r⟩,.i 0]⟩)))
def dm.j2(K:VK)(c a d b:Nat):WK:=lI (ad c 13) λf=>br ((bB .i64 .and f 16)!=0) (tick (ah (ad a 0) 2 λe=>ah (ad d 0) 14 λg=>bR g true (xA 2 λh=>kp (ad a 0) e (tz e h (xA 2 λj=>aI 2 (ad a 0) j (ah (ad a 0) 2 λk=>eK k (xB λl=>br l (ah (ad a 0) 2 λm=>aI 2 (ad b 0) m (ah (ad b 0) 2 λn=>K (.tuple ⟨[.agg ⟨n⟩,.i 33]⟩))) (dm.j3 K c a d b)))))))) (dm.j3 K c a d b)
def dm.j1(K:VK)(a b c d:Nat)(e:Bool):WK:=br e (ah (ad N.pe 0) 2 λf=>aI 2 (ad a 0) f (dm.j2 K b a c d)) (dm.j2 K b a c d)
def dm(e f:LV)(K:VK):WK:=mk e λc=>mk f λa=>mk [.u 0,.u 0] λd=>ah (ad a 6) 2 λg=>mk [.u 0,.u 0] λb=>aI 2 (ad b 0) g (ah (ad a 0) 16 λh=>mD h (xB λi=>br i (ah (ad b 0) 2 λj=>eK j (xB λk=>dm.j1 K b a c d k)) (dm.j1 K b a c d false)))
def tw(o:OA)(k q:Nat)(K:VK):WK:=mk [.u 0,.u 0] λr=>mk [.u 0,.u 0] λs=>(lp [.p (some (ad r 0)),.bool false,.p (some (ad s 0)),.l o k q,.i (k:Int),.i 0] λm t=>∀a g b d e h f c j,m [.p (some a),.bool g,.p (some b),.l d e h,.i f,.i c] j->(br (decide (c<f)) (fO d e c 2 λv=>ah v 2 λw=>mk [.u 0,.u 0] λn=>aI 2 (ad n 0) w (ah b 2 λx=>ah (ad n 0) 2 λy=>l6 x y (x2 λz A=>(xA 2 λB=>(xB λC=>aI 2 b B (br (!C) (a8 True (a8 (2=2) (gj a [.u 0,.u 0] (ah a 2 λD=>K (.tuple ⟨[.agg ⟨D⟩,.bool false]⟩))))) ((ct m t [.p (some a),.bool g,.p (some b),.l d e h,.i f,.i (adP.wrap (c+1))] [.p (some a),.bool g,.p (some b),.l d e h,.i f,.i c] j)))) A) z))) (ah b 2 λE=>aI 2 a E (ah a 2 λF=>K (.tuple ⟨[.agg ⟨F⟩,.bool true]⟩)))) j)
def jR.j1(K:VK)(a b:Nat)(d:Bool)(c:Nat)(e:Bool):WK:=br e (ah (ad a 0) 14 λf=>aI 14 (ad b 0) f (ah (ad b 0) 14 λg=>K (.tuple ⟨[.agg ⟨g⟩,.i 33]⟩))) (br d (ah (ad a 2) 2 λh=>ah (ad c 0) 2 λj=>l6 h j (x2 λk l=>(xA 2 λm=>(xB λw=>aI 2 (ad a 2) m (ah (ad a 0) 14 λn=>aI 14 (ad b 0) n (ah (ad b 0) 14 λo=>K (.tuple ⟨[.agg ⟨o⟩,.i 0]⟩)))) l) k)) (ah (ad a 4) 2 λp=>ah (ad c 0) 2 λq=>l6 p q (x2 λr s=>(xA 2 λt=>(xB λx=>aI 2 (ad a 4) t (ah (ad a 0) 14 λu=>aI 14 (ad b 0) u (ah (ad b 0) 14 λv=>K (.tuple ⟨[.agg ⟨v⟩,.i 0]⟩)))) s) r)))
def jR(k l:LV)(e:Bool)(K:VK):WK:=mk k λa=>mk l λb=>mk cM λc=>ah (ad a 2) 2 λf=>ah (ad a 4) 2 λg=>ah (ad b 0) 2 λh=>a8 (f.length=2/\(g.length=2/\(h.length=2/\True))) (mk (f++(g++(h++[]))) λm=>tw (some ⟨m,0,none⟩) 3 3 (x2 λn o=>(xA 2 λp=>(xB λq=>mk [.u 0,.u 0] λr=>aI 2 (ad r 0) p (br (!q) (ah (ad a 0) 14 λs=>aI 14 (ad c 0) s (ah (ad c 0) 14 λt=>K (.tuple ⟨[.agg ⟨t⟩,.i 32]⟩))) (tick (lI (ad a 12) λd=>br ((bB .i64 .and d 2)!=0) (ah (ad a 0) 14 λv=>ah (ad b 0) 2 λj=>bR v true (xA 2 λw=>kp (ad b 0) j (kp (ad a 12) [.i d] (na w j (xB λx=>kp (ad a 12) [.i d] (jR.j1 K a c e b x)))))) (jR.j1 K a c e b false))))) o) n))
def iR.j1(K:VK)(a b:Nat)(d:Bool)(c:Nat)(e:Bool):WK:=br e (ah (ad a 0) 14 λf=>aI 14 (ad b 0) f (ah (ad b 0) 14 λg=>K (.tuple ⟨[.agg ⟨g⟩,.i 34]⟩))) (br d (ah (ad a 6) 2 λh=>ah (ad c 0) 2 λj=>l6 h j (x2 λk l=>(xA 2 λm=>(xB λw=>aI 2 (ad a 6) m (ah (ad a 0) 14 λn=>aI 14 (ad b 0) n (ah (ad b 0) 14 λo=>K (.tuple ⟨[.agg ⟨o⟩,.i 0]⟩)))) l) k)) (ah (ad a 8) 2 λp=>ah (ad c 0) 2 λq=>l6 p q (x2 λr s=>(xA 2 λt=>(xB λx=>aI 2 (ad a 8) t (ah (ad a 0) 14 λu=>aI 14 (ad b 0) u (ah (ad b 0) 14 λv=>K (.tuple ⟨[.agg ⟨v⟩,.i 0]⟩)))) s) r)))
def iR(k l:LV)(e:Bool)(K:VK):WK:=mk k λa=>mk l λb=>mk cM λc=>ah (ad a 6) 2 λf=>ah (ad a 8) 2 λg=>ah (ad b 0) 2 λh=>a8 (f.length=2/\(g.length=2/\(h.length=2/\True))) (mk (f++(g++(h++[]))) λm=>tw (some ⟨m,0,none⟩) 3 3 (x2 λn o=>(xA 2 λp=>(xB λq=>mk [.u 0,.u 0] λr=>aI 2 (ad r 0) p (br (!q) (ah (ad a 0) 14 λs=>aI 14 (ad c 0) s (ah (ad c 0) 14 λt=>K (.tuple ⟨[.agg ⟨t⟩,.i 32]⟩))) (tick (lI (ad a 12) λd=>br ((bB .i64 .and d 4)!=0) (ah (ad a 0) 14 λv=>ah (ad b 0) 2 λj=>bR v false (xA 2 λw=>kp (ad b 0) j (kp (ad a 12) [.i d] (na w j (xB λx=>kp (ad a 12) [.i d] (iR.j1 K a c e b x)))))) (iR.j1 K a c e b false))))) o) n))
def eB.j1(K:VK)(a b g:Nat):WK:=tick (lP (ad a 0) λn=>lP (ad a 0) λc=>nn c λd=>lI (d.add 7) λe=>kB n (xI .i64 λo=>kp (d.add 7) [.i e] (kp (ad a 0) [.p c] (st (ad b 30) (.i o) (kp (d.add 7) [.i e] (kp (ad a 0) [.p c] (st (ad b 31) (.i e) (tick (lP (ad a 0) λh=>nn h λq=>lP (q.add 2) λr=>ah (ad b 0) 33 λs=>fU r s (xI .i64 λj=>kp (ad a 0) [.p h] (tick (lP (ad a 0) λk=>nn k λt=>lP (t.add 4) λu=>ah (ad g 0) 2 λv=>cb u v j (xB λJ=>kp (ad a 0) [.p k] (tick (lP (ad a 0) λl=>nn l λw=>lI (ad b 30) λx=>fy (some (w.add 5)) x j (xB λM=>kp (ad a 0) [.p l] (lP (ad a 0) λy=>nn y λz=>eo (some z) (.func (.func N.cw) ⟨[]⟩ ⟨[.p (some (ad a 0)),.p (some (ad g 0)),.p (some (ad b 0))]⟩) (x0 (ah (ad b 0) 33 λA=>pV A (x2 λB C=>(xA 4 λD=>(xB λE=>mk tv λf=>aI 4 (ad f 0) D (br E (tick (lP (ad a 0) λm=>nn m λF=>ah (ad f 0) 4 λG=>iB (some (F.add 6)) G (x0 (kp (ad a 0) [.p m] (lP (ad a 0) λH=>nn H λI=>eo (some I) (.func (.func N.cu) ⟨[]⟩ ⟨[.p (some (ad a 0)),.p (some (ad f 0))]⟩) (x0 (K (.i 0)))))))) (K (.i 0)))) C) B))))))))))))))))))))
def eB(g:OA)(h j:LV)(k:Bool)(K:VK):WK:=mk [.p g] λa=>mk h λl=>mk j λb=>lP (ad a 0) λm=>br (m.isNone) (K (.i 2)) (lP (ad a 0) λn=>nn n λo=>lP (o.add 2) λq=>dj q (xI .i64 λr=>br (decide (r>=96)) (K (.i 6)) (tick (lP (ad a 0) λf=>nn f λs=>lP (s.add 4) λt=>ah (ad b 0) 2 λu=>dY t u (x2 λv w=>(xI .i64 λy=>(xB λx=>kp (ad a 0) [.p f] (br x (K (.i 1)) (ah (ad l 0) 16 λd=>ah (ad b 0) 16 λe=>a8 (d.length=16/\(e.length=16/\True)) (mk bg λc=>a8 ((d++(e++([.i 0]:LV))).length=33) (gj (ad c 0) (d++(e++([.i 0]:LV))) (br k (st (ad c 32) (.i 1) (eB.j1 K a c b)) (eB.j1 K a c b))))))) w) v)))))
def lN.j2(K:VK)(d:Nat)(c:OA)(a g:Nat):WK:=ah (ad d 0) 14 λh=>gO c h (xI .i64 λo=>ah (ad d 14) 14 λj=>gO c j (xI .i64 λp=>ah (ad a 0) 16 λk=>mk fe λb=>aI 16 (ad b 0) k (ah (ad g 0) 2 λl=>aI 2 (ad b 6) l (tick (ah (ad a 0) 16 λe=>ah (ad b 0) 16 λf=>ah (ad a 0) 16 λm=>iI m (xB λn=>kp (ad b 0) f (kp (ad a 0) e (eB c e f n (xI .i64 λq=>K (.i 0))))))))))
def lN.j1(K:VK)(b a:Nat)(c:OA)(d:Nat):WK:=lI (ad b 13) λe=>br ((bB .i64 .and e 128)!=0) (lI (ad a 26) λf=>st (ad a 26) (.i (bB .i64 .or f 8)) (lN.j2 K a c b d)) (lN.j2 K a c b d)
def lN(d:OA)(p:LV)(K:VK):WK:=mk p λb=>ah (ad b 0) 16 λq=>cS q (xI .i64 λe=>br (e !=0) (K (.i e)) (ah (ad b 0) 16 λr=>nZ r (xB λs=>br s (K (.i 6)) (ah (ad b 0) 2 λt=>eu d t (x2 λv w=>(xA 33 λx=>(xB λy=>mk bg λf=>aI 33 (ad f 0) x (br y (ah (ad b 0) 16 λz=>ah (ad f 0) 16 λA=>qb z A (xI .i64 λB=>K (.i B))) (ah (ad b 0) 16 λC=>uB d C (x2 λD E=>(xA 28 λF=>(xI .i64 λg=>mk kE λa=>aI 28 (ad a 0) F (br (g !=0) (K (.i g)) (kC d (xB λG=>br (!G) (K (.i 35)) (ah (ad a 0) 28 λH=>ah (ad b 0) 16 λI=>dm H I (x2 λJ M=>(xA 2 λO=>(xI .i64 λh=>mk [.u 0,.u 0] λc=>aI 2 (ad c 0) O (br (h !=0) (K (.i h)) (tick (ah (ad a 0) 14 λj=>ah (ad c 0) 2 λk=>ah (ad b 0) 16 λP=>iI P (xB λQ=>kp (ad c 0) k (kp (ad a 0) j (jR j k Q (x2 λR S=>(xA 14 λT=>(xI .i64 λl=>aI 14 (ad a 0) T (br (l !=0) (K (.i l)) (tick (ah (ad a 14) 14 λm=>ah (ad c 0) 2 λn=>ah (ad b 0) 16 λV=>iI V (xB λW=>kp (ad c 0) n (kp (ad a 14) m (iR m n W (x2 λX Y=>(xA 14 λZ=>(xI .i64 λo=>aI 14 (ad a 14) Z (br (o !=0) (K (.i o)) (lI (ad b 13) λn7=>br ((bB .i64 .and n7 64)!=0) (lI (ad a 12) λL0=>st (ad a 12) (.i (bB .i64 .or L0 8)) (lN.j1 K b a d c)) (lN.j1 K b a d c)))) Y) X)))))))) S) R)))))))) M) J)))))) E) D)))) w) v)))))
def iK(d:OA)(e:Int)(f:LV)(K:VK):WK:=mk [.p d] λa=>mk [.i e] λb=>mk f λg=>lP (ad a 0) λh=>lI (ad b 0) λj=>bT h j (x2 λk l=>(xA 33 λm=>(xB λn=>mk bg λc=>aI 33 (ad c 0) m (br (!n) (K (.bool false)) (tick (lP (ad a 0) λo=>nn o λq=>lL q λr s z=>lI (ad b 0) λt=>ah (ad g 0) 33 λu=>fO r s t 33 λv=>aI 33 v u (lP (ad a 0) λw=>nn w λx=>lP (x.add 1) λy=>eo y (.func (.func N.bp) ⟨[]⟩ ⟨[.p (some (ad c 0)),.p (some (ad a 0)),.p (some (ad b 0))]⟩) (x0 (K (.bool true)))))))) l) k)
def bA.j4(K:VK)(a e b:Nat)(f:Int):WK:=tick (lP (ad a 0) λc=>nn c λg=>lP (g.add 4) λh=>ah (ad e 0) 2 λj=>dY h j (x2 λk l=>(xI .i64 λm=>(xB λr=>kp (ad a 0) [.p c] (st (ad b 32) (.i f) (tick (lP (ad a 0) λd=>nn d λn=>lP (n.add 2) λo=>ah (ad b 0) 33 λq=>iK o m q (xB λs=>kp (ad a 0) [.p d] (K (.i 0))))))) l) k))
def bA.j3(K:VK)(a e b c:Nat)(d:Int)(f:Bool):WK:=br f (lP (ad a 0) λg=>nn g λh=>eo (some h) (.func (.func N.cG) ⟨[]⟩ ⟨[.p (some (ad a 0)),.p (some (ad e 0))]⟩) (x0 (bA.j4 K a b c d))) (bA.j4 K a b c d)
def bA.j2(K:VK)(c a d:Nat)(e:Int)(g:Bool):WK:=br g (K (.i 1)) (ah (ad c 0) 33 λh=>pV h (x2 λj k=>(xA 4 λl=>(xB λm=>mk tv λb=>aI 4 (ad b 0) l (tick (br m (lP (ad a 0) λf=>nn f λn=>lI (ad b 1) λo=>iX (some (n.add 6)) o (xB λq=>kp (ad a 0) [.p f] (bA.j3 K a b d c e q))) (bA.j3 K a b d c e false)))) k) j))
def bA.j1(K:VK)(a:Int)(b c d:Nat)(e:Bool):WK:=br e (K (.i 5)) (br (decide (a<=1)) (bA.j2 K b c d a true) (bA.j2 K b c d a (decide (a>4))))
def bA(e:OA)(f:LV)(d:Int)(K:VK):WK:=mk [.p e] λa=>mk f λc=>lP (ad a 0) λg=>ah (ad c 0) 2 λh=>eu g h (x2 λj k=>(xA 33 λl=>(xB λm=>mk bg λb=>aI 33 (ad b 0) l (lP (ad a 0) λn=>br (n.isNone) (K (.i 2)) (br (!m) (bA.j1 K d b a c true) (lI (ad b 32) λo=>bA.j1 K d b a c (o !=1))))) k) j)
def cf.j1(K:VK)(b:Nat)(a:OA)(c d:Nat)(e:Int):WK:=ah (ad b 0) 14 λf=>gO a f (xI .i64 λi=>ah (ad c 0) 14 λg=>gO a g (xI .i64 λj=>ah (ad d 0) 2 λh=>bA a h e (xI .i64 λk=>K (.tuple ⟨[]⟩))))
def cf.j2(K:VK)(b a c:Nat)(d:OA)(e:Int):WK:=lI (ad b 13) λf=>br ((bB .i64 .and f 128)!=0) (lI (ad a 12) λg=>st (ad a 12) (.i (bB .i64 .andNot g 8)) (cf.j1 K c d a b e)) (cf.j1 K c d a b e)
def cf(d:OA)(g h:LV)(e:Int)(K:VK):WK:=mk g λb=>mk h λf=>ah (ad b 2) 2 λj=>bX d j (x2 λk l=>(xA 14 λm=>(xB λQ=>mk cM λa=>aI 14 (ad a 0) m (ah (ad b 4) 2 λn=>bX d n (x2 λo p=>(xA 14 λq=>(xB λR=>mk cM λc=>aI 14 (ad c 0) q (ah (ad a 2) 2 λr=>ah (ad b 6) 2 λs=>lZ r s (x2 λt u=>(xA 2 λv=>(xB λS=>aI 2 (ad a 2) v (ah (ad c 6) 2 λw=>ah (ad b 6) 2 λx=>lZ w x (x2 λy z=>(xA 2 λA=>(xB λT=>aI 2 (ad c 6) A (br (e==2) (ah (ad a 4) 2 λB=>ah (ad f 0) 2 λC=>l6 B C (x2 λD E=>(xA 2 λF=>(xB λV=>aI 2 (ad a 4) F (ah (ad c 8) 2 λG=>ah (ad f 0) 2 λH=>l6 G H (x2 λI J=>(xA 2 λM=>(xB λW=>aI 2 (ad c 8) M (cf.j1 K a d c b e)) J) I))) E) D)) (lI (ad b 13) λO=>br ((bB .i64 .and O 64)!=0) (lI (ad a 12) λP=>st (ad a 12) (.i (bB .i64 .andNot P 8)) (cf.j2 K b c a d e)) (cf.j2 K b c a d e)))) z) y))) u) t))) p) o))) l) k)
def cf.u:WP|[.pointer a,.agg ⟨b⟩,.agg ⟨c⟩,.int .i64 d],K=>cf a b c d K|_,_=>no
def dy.j3(K:VK)(a b:Nat)(c:Bool):WK:=br c (lI (ad a 12) λd=>br (d==0) (K (.bool true)) (lI (ad a 12) λe=>lI (ad b 12) λf=>K (.bool (e==f)))) (K (.bool false))
def dy.j2(K:VK)(a b:Nat)(c:Bool):WK:=br c (lI (ad a 11) λd=>br (d==0) (dy.j3 K a b true) (lI (ad a 11) λe=>lI (ad b 11) λf=>dy.j3 K a b (e==f))) (dy.j3 K a b false)
def dy.j1(K:VK)(a b:Nat)(c:Bool):WK:=br c (ah (ad a 4) 2 λd=>eK d (xB λe=>br e (dy.j2 K a b true) (ah (ad a 4) 2 λf=>ah (ad b 4) 2 λg=>nr [.u 0,.u 0] f g λh=>dy.j2 K a b h))) (dy.j2 K a b false)
def dy(c d:LV)(K:VK):WK:=mk c λa=>mk d λb=>ah (ad a 2) 2 λe=>eK e (xB λf=>br f (dy.j1 K a b true) (ah (ad a 2) 2 λg=>ah (ad b 2) 2 λh=>nr [.u 0,.u 0] g h λi=>dy.j1 K a b i))
def uF(f:OA)(g:LV)(K:VK):WK:=mk g λd=>mk fe λa=>ah (ad d 8) 2 λh=>eu f h (x2 λj k=>(xA 33 λl=>(xB λm=>mk bg λb=>aI 33 (ad b 0) l (br (!m) (a8 True (a8 (16=16) (gj (ad a 0) fe (ah (ad a 0) 16 λn=>K (.tuple ⟨[.agg ⟨n⟩,.i 23]⟩))))) (ah (ad b 16) 16 λo=>iI o (xB λp=>br (!p) (a8 True (a8 (16=16) (gj (ad a 0) fe (ah (ad a 0) 16 λq=>K (.tuple ⟨[.agg ⟨q⟩,.i 24]⟩))))) (ah (ad d 0) 16 λr=>ah (ad b 16) 16 λs=>dy r s (xB λt=>br (!t) (a8 True (a8 (16=16) (gj (ad a 0) fe (ah (ad a 0) 16 λu=>K (.tuple ⟨[.agg ⟨u⟩,.i 25]⟩))))) (tick (ah (ad b 16) 16 λv=>lI (ad b 32) λc=>a8 ((0:Int)<=c/\c<5) (lI ((ad N.ud 0).add (c.toNat* 1)) λe=>aI 16 (ad a 0) v (kp ((ad N.ud 0).add (c.toNat* 1)) [.i e] (kp (ad b 32) [.i c] (ah (ad a 0) 16 λw=>K (.tuple ⟨[.agg ⟨w⟩,.i e]⟩))))))))))))) k) j)
def kG.j1(K:VK)(a b d:Nat)(c:Bool):WK:=br c (br c (a8 True (a8 (2=2) (gj (ad a 0) [.u 0,.u 0] (ah (ad a 0) 2 λe=>K (.tuple ⟨[.agg ⟨e⟩,.i 26]⟩))))) (ah (ad b 6) 2 λf=>aI 2 (ad a 0) f (ah (ad a 0) 2 λg=>K (.tuple ⟨[.agg ⟨g⟩,.i 0]⟩)))) (ah (ad d 6) 2 λh=>ah (ad b 6) 2 λj=>na h j (xB λk=>br k (a8 True (a8 (2=2) (gj (ad a 0) [.u 0,.u 0] (ah (ad a 0) 2 λl=>K (.tuple ⟨[.agg ⟨l⟩,.i 26]⟩))))) (ah (ad b 6) 2 λm=>aI 2 (ad a 0) m (ah (ad a 0) 2 λn=>K (.tuple ⟨[.agg ⟨n⟩,.i 0]⟩)))))
def kG(d e:LV)(K:VK):WK:=mk d λa=>mk e λb=>mk [.u 0,.u 0] λc=>ah (ad a 6) 2 λf=>eK f (xB λg=>br g (ah (ad b 6) 2 λh=>aI 2 (ad c 0) h (ah (ad c 0) 2 λj=>K (.tuple ⟨[.agg ⟨j⟩,.i 0]⟩))) (lI (ad a 13) λk=>br ((bB .i64 .and k 8)!=0) (ah (ad a 6) 2 λl=>ah (ad b 6) 2 λm=>nr [.u 0,.u 0] l m λn=>kG.j1 K c a b (!n)) (kG.j1 K c a b false)))
def jN.j1(K:VK)(a b:Nat)(c:Bool):WK:=br c (K (.i 30)) (lI (ad a 12) λd=>br ((bB .i64 .and d 8)!=0) (lI (ad b 13) λe=>br ((bB .i64 .and e 128)==0) (K (.i 31)) (K (.i 0))) (K (.i 0)))
def jN(c:OA)(e:LV)(K:VK):WK:=mk e λa=>ah (ad a 2) 2 λf=>bX c f (x2 λg h=>(xA 14 λi=>(xB λp=>mk cM λd=>aI 14 (ad d 0) i (ah (ad a 4) 2 λj=>bX c j (x2 λk l=>(xA 14 λm=>(xB λq=>mk cM λb=>aI 14 (ad b 0) m (lI (ad d 12) λn=>br ((bB .i64 .and n 8)!=0) (lI (ad a 13) λo=>jN.j1 K b a ((bB .i64 .and o 64)==0)) (jN.j1 K b a false))) l) k))) h) g)
def nH.j1(K:VK)(f:OA)(a d h:Nat)(k:Int):WK:=kC f (xB λl=>br (!l) (K (.i 35)) (ah (ad a 0) 16 λm=>ah (ad d 0) 2 λn=>cf f m n k (x0 (ah (ad h 0) 16 λo=>mk fe λb=>aI 16 (ad b 0) o (tick (ah (ad a 2) 2 λp=>ah (ad a 4) 2 λj=>ah (ad d 0) 2 λg=>lI (ad a 11) λe=>lI (ad a 12) λc=>aI 2 (ad b 2) p (kp (ad a 12) [.i c] (kp (ad a 11) [.i e] (kp (ad d 0) g (kp (ad a 4) j (aI 2 (ad b 4) j (kp (ad a 12) [.i c] (kp (ad a 11) [.i e] (kp (ad d 0) g (aI 2 (ad b 6) g (kp (ad a 12) [.i c] (kp (ad a 11) [.i e] (st (ad b 11) (.i e) (kp (ad a 12) [.i c] (st (ad b 12) (.i c) (ah (ad h 0) 16 λq=>ah (ad b 0) 16 λr=>eB f q r false (xI .i64 λs=>K (.i 0)))))))))))))))))))))))
def nH(b:OA)(j:LV)(K:VK):WK:=mk j λa=>ah (ad a 0) 2 λk=>eu b k (x2 λl m=>(xA 33 λn=>(xB λo=>mk bg λe=>aI 33 (ad e 0) n (br o (ah (ad a 0) 16 λp=>ah (ad e 0) 16 λq=>qb p q (xI .i64 λr=>K (.i r))) (ah (ad a 0) 16 λs=>uF b s (x2 λt v=>(xA 16 λw=>(xI .i64 λf=>mk fe λc=>aI 16 (ad c 0) w (br (f !=0) (K (.i f)) (ah (ad a 0) 16 λx=>ah (ad c 0) 16 λy=>kG x y (x2 λz A=>(xA 2 λB=>(xI .i64 λg=>mk [.u 0,.u 0] λd=>aI 2 (ad d 0) B (br (g !=0) (K (.i g)) (lI (ad a 13) λC=>br ((bB .i64 .and C 4)!=0) (ah (ad c 0) 16 λD=>jN b D (xI .i64 λh=>br (h !=0) (K (.i h)) (nH.j1 K b c d a 2))) (nH.j1 K b c d a 3)))) A) z)))) v) t)))) m) l)
def kj.j1(K:VK)(a:Nat)(b:OA)(c:Bool):WK:=br c (ah (ad a 0) 16 λd=>lN b d (xI .i64 λe=>K (.i e))) (ah (ad a 0) 16 λf=>nH b f (xI .i64 λg=>K (.i g)))
def kj(b:OA)(c:LV)(K:VK):WK:=mk c λa=>ah (ad a 0) 16 λd=>cS d (xI .i64 λe=>br (e !=0) (kj.j1 K a b true) (ah (ad a 0) 16 λf=>nZ f (xB λg=>kj.j1 K a b (!g))))
def kj.u:WP|[.pointer a,.agg ⟨b⟩],K=>kj a b K|_,_=>no
def iP(f o:OA)(j q:Nat)(r:OA)(s t:Nat)(v:Value)(K:VK):WK:=cW f (xI .i64 λw=>(lp [.i w,.l o j q,.i (j:Int),.i 0] λk x=>∀b c d g e a h,k [.i b,.l c d g,.i e,.i a] h->(br (decide (a<e)) (fO c d a 16 λy=>ah y 16 λz=>mk fe λm=>aI 16 (ad m 0) z (ah (ad m 0) 16 λA=>tj [(N.cX,cX.u),(N.cW,cW.u),(N.fK,fK.u),(N.kj,kj.u)] v [.p f,.agg ⟨A⟩] (xI .i64 λn=>br (n !=0) (cX f b (x0 (fK r s t a n (x0 (K (.tuple ⟨[]⟩)))))) ((ct k x [.i b,.l c d g,.i e,.i (adP.wrap (a+1))] [.i b,.l c d g,.i e,.i a] h))))) (K (.tuple ⟨[]⟩))) h))
def kV(t n:OA)(e o:Nat)(u v:Value)(K:VK):WK:=FU 8 [.i 0] (e:Int) (e:Int) λw x y=>(lp [.l none 0 0,.l w x y,.i 0] λm p=>∀f g h b c d a k,m [.l f g h,.l b c d,.i a] k->(br (decide (a<(e:Int))) (nT n e o 16 (some a) none λz A B=>il z A B (u) (x2 λC D=>(xI .i64 λj=>(xB λE=>nT b c d 1 (some a) (some (adP.wrap (a+j))) λq r s=>br (!E) (fK q r s (adP.wrap (j-1)) 2 (x0 ((ct m p [.l f g h,.l b c d,.i (adP.wrap (a+j))] [.l f g h,.l b c d,.i a] k)))) (nT n e o 16 (some a) (some (adP.wrap (a+j))) λF G H=>iP t F G H q r s (v) (x0 ((ct m p [.l f g h,.l b c d,.i (adP.wrap (a+j))] [.l f g h,.l b c d,.i a] k))))) D) C)) (K (.l b c d))) k)
def mQ(a b:OA)(c d:Nat)(K:VK):WK:=kV a b c d (.func (.func N.dv) ⟨[]⟩ ⟨[]⟩) (.func (.func N.kj) ⟨[]⟩ ⟨[]⟩) (xL λe f g=>K (.l e f g))
def cn.j1(K:VK)(a:Nat)(c:Int)(d:Bool):WK:=br d (K (.tuple ⟨[]⟩)) (lP (ad a 0) λe=>nn e λf=>lI (f.add 7) λg=>mk [.i 0] λb=>st (ad b 0) (.i g) (lP (ad a 0) λh=>nn h λj=>st (j.add 7) (.i c) (lP (ad a 0) λk=>nn k λl=>eo (some l) (.func (.func N.cm) ⟨[]⟩ ⟨[.p (some (ad b 0)),.p (some (ad a 0))]⟩) (x0 (K (.tuple ⟨[]⟩))))))
def cn(c:OA)(a:Int)(K:VK):WK:=mk [.p c] λb=>lP (ad b 0) λd=>br (d.isNone) (cn.j1 K b a true) (lP (ad b 0) λe=>nn e λf=>lI (f.add 7) λg=>br (decide (a<=g)) (cn.j1 K b a true) (cn.j1 K b a (decide (a>1099511627776))))
def cn.u:WP|[.pointer a,.int .i64 b],K=>cn a b K|_,_=>no
def pq(a:OA)(K:VK):WK:=br (a.isNone) (K (.i 0)) (nn a λb=>lL b λd c e=>K (.i (c:Int)))
def jK(b:OA)(K:VK):WK:=mk tv λa=>pq b (xI .i64 λc=>br (c==0) (a8 True (a8 (4=4) (gj (ad a 0) tv (ah (ad a 0) 4 λd=>K (.tuple ⟨[.agg ⟨d⟩,.bool false]⟩))))) (nn b λe=>lL e λf g k=>fO f g 0 4 λh=>ah h 4 λi=>aI 4 (ad a 0) i (ah (ad a 0) 4 λj=>K (.tuple ⟨[.agg ⟨j⟩,.bool true]⟩))))
def cJ.j1(K:VK)(b:Nat)(c:OA)(a:Nat)(d:Bool):WK:=br d (ah (ad b 2) 2 λe=>eu c e (x2 λf g=>(xA 33 λh=>(xB λi=>aI 33 (ad a 0) h (ah (ad a 0) 33 λj=>K (.tuple ⟨[.agg ⟨j⟩,.bool i]⟩))) g) f)) (a8 True (a8 (33=33) (gj (ad a 0) bg (ah (ad a 0) 33 λk=>K (.tuple ⟨[.agg ⟨k⟩,.bool false]⟩)))))
def cJ(a:OA)(K:VK):WK:=mk bg λb=>br (a.isNone) (a8 True (a8 (33=33) (gj (ad b 0) bg (ah (ad b 0) 33 λd=>K (.tuple ⟨[.agg ⟨d⟩,.bool false]⟩))))) (nn a λe=>jK (some (e.add 6)) (x2 λf g=>(xA 4 λh=>(xB λi=>mk tv λc=>aI 4 (ad c 0) h (tick (br i (lI (ad c 0) λj=>nn a λk=>lI (k.add 7) λl=>cJ.j1 K c a b (decide (j<=l))) (cJ.j1 K c a b false)))) g) f))
def cJ.u:WP|[.pointer a],K=>cJ a K|_,_=>no
def o9(a:OA)(K:VK):WK:=mk [.p a] λb=>K (.func (.func N.H3) ⟨[]⟩ ⟨[.p (some (ad b 0))]⟩)
def o9.u:WP|[.pointer a],K=>o9 a K|_,_=>no
def ir(a:OA)(K:VK):WK:=br (!(a.isNone)) (nn a λb=>ja (some b) (x0 (K (.tuple ⟨[]⟩)))) (K (.tuple ⟨[]⟩))
def pL(t v:OA)(p w:Nat)(K:VK):WK:=(lp [.l none 0 0,.l none 0 0,.l v p w,.i (p:Int),.i 0] λo q=>∀h j k b c d e f m g a n,o [.l h j k,.l b c d,.l e f m,.i g,.i a] n->(br (decide (a<g)) (fO e f a 2 λx=>ah x 2 λy=>mk [.u 0,.u 0] λr=>aI 2 (ad r 0) y (ah (ad r 0) 2 λz=>bX t z (x2 λA B=>(xA 14 λC=>(xB λD=>mk cM λs=>aI 14 (ad s 0) C (br D (ah (ad s 0) 14 λE=>EW 14 E λF=>eS 14 112 cM b c d (some ⟨F,0,none⟩) 1 λG H I=>(ct o q [.l h j k,.l G H I,.l e f m,.i g,.i (adP.wrap (a+1))] [.l h j k,.l b c d,.l e f m,.i g,.i a] n)) ((ct o q [.l h j k,.l b c d,.l e f m,.i g,.i (adP.wrap (a+1))] [.l h j k,.l b c d,.l e f m,.i g,.i a] n)))) B) A))) (K (.l b c d))) n)
def oP(t v:OA)(p w:Nat)(K:VK):WK:=(lp [.l none 0 0,.l none 0 0,.l v p w,.i (p:Int),.i 0] λo q=>∀h j k b c d e f m g a n,o [.l h j k,.l b c d,.l e f m,.i g,.i a] n->(br (decide (a<g)) (fO e f a 2 λx=>ah x 2 λy=>mk [.u 0,.u 0] λr=>aI 2 (ad r 0) y (ah (ad r 0) 2 λz=>eu t z (x2 λA B=>(xA 33 λC=>(xB λD=>mk bg λs=>aI 33 (ad s 0) C (br D (ah (ad s 16) 16 λE=>EW 16 E λF=>eS 16 128 fe b c d (some ⟨F,0,none⟩) 1 λG H I=>(ct o q [.l h j k,.l G H I,.l e f m,.i g,.i (adP.wrap (a+1))] [.l h j k,.l b c d,.l e f m,.i g,.i a] n)) ((ct o q [.l h j k,.l b c d,.l e f m,.i g,.i (adP.wrap (a+1))] [.l h j k,.l b c d,.l e f m,.i g,.i a] n)))) B) A))) (K (.l b c d))) n)
def dh.j1(K:VK)(w:Int)(x:OA)(y:Bool)(z:Int):WK:=(lp [.l none 0 0,.i w,.i z,.l none 0 0] λu A=>∀j k m f n g c h p,u [.l j k m,.i f,.i n,.l g c h] p->(br (decide (f<n)) (nn x λB=>lL B λC D V=>fO C D f 2 λE=>ah E 2 λF=>EW 2 F λG=>eS 2 16 [.i 0,.i 0] g c h (some ⟨G,0,none⟩) 1 λH I J=>(ct u A [.l j k m,.i (adP.wrap (f+1)),.i n,.l H I J] [.l j k m,.i f,.i n,.l g c h] p)) (br y ((lp [.l j k m,.l g c h,.i 0,.i (adP.wrap ((c:Int) -1))] λv M=>∀q r s a b o d e t,v [.l q r s,.l a b o,.i d,.i e] t->(br (decide (d<e)) (tick (fO a b e 2 λO=>ah O 2 λP=>fO a b d 2 λQ=>ah Q 2 λR=>fO a b d 2 λS=>aI 2 S P (fO a b e 2 λT=>aI 2 T R ((ct v M [.l q r s,.l a b o,.i (adP.wrap (d+1)),.i (adP.wrap (e-1))] [.l q r s,.l a b o,.i d,.i e] t))))) (K (.l a b o))) t)) (K (.l g c h)))) p)
def dh(a:OA)(h e:Int)(c:Bool)(K:VK):WK:=br (a.isNone) (K (.l none 0 0)) (tick (nn a λf=>lL f λi g j=>iC a h (xI .i64 λd=>kp f [.l i g j] (br (e !=0) (iC a e (xI .i64 λb=>nn a λk=>lL k λs m t=>br (decide (b<(m:Int))) (nn a λn=>lL n λo p u=>fO o p b 2 λq=>lI q λr=>br (r==e) (dh.j1 K d a c (adP.wrap (b+1))) (dh.j1 K d a c b)) (dh.j1 K d a c b))) (dh.j1 K d a c (g:Int))))))
def kk(o:OA)(z A:Int)(B:Bool)(K:VK):WK:=br (o.isNone) (K (.l none 0 0)) (nn o λC=>dh (some (C.add 5)) z A B (xL λD u E=>(lp [.l none 0 0,.l none 0 0,.l D u E,.i (u:Int),.i 0] λq v=>∀h j k b c d e f m g a n,q [.l h j k,.l b c d,.l e f m,.i g,.i a] n->(br (decide (a<g)) (fO e f a 2 λF=>ah F 2 λG=>mk [.i 0,.i 0] λr=>aI 2 (ad r 0) G (tick (nn o λw=>lP (w.add 2) λs=>lI (ad r 1) λt=>both (bT s t (x2 λH I=>(xA 33 λJ=>(xB λb2=>mk bg λx=>aI 33 (ad x 0) J (ah (ad x 0) 33 λM=>EW 33 M λO=>eS 33 264 bg b c d (some ⟨O,0,none⟩) 1 λP Q R=>(ct q v [.l h j k,.l P Q R,.l e f m,.i g,.i (adP.wrap (a+1))] [.l h j k,.l b c d,.l e f m,.i g,.i a] n))) I) H)) (mk bg λy=>kp (ad r 1) [.i t] (kp (w.add 2) [.p s] (bT s t (x2 λS T=>(xA 33 λV=>(xB λb3=>aI 33 (ad y 0) V (ah (ad y 0) 33 λW=>EW 33 W λX=>eS 33 264 bg b c d (some ⟨X,0,none⟩) 1 λY Z VT=>(ct q v [.l h j k,.l Y Z VT,.l e f m,.i g,.i (adP.wrap (a+1))] [.l h j k,.l b c d,.l e f m,.i g,.i a] n))) T) S))))))) (K (.l b c d))) n)))
def jv.j3(K:VK)(s:Nat)(a:OA)(b c:Nat)(o:LI)(d:Addr)(e:OA)(f g:Nat)(h:OA)(j k:Nat)(m n:Int)(q:LM)(r:World)(t:Bool):WK:=br t (ah (ad s 16) 16 λu=>EW 16 u λv=>eS 16 128 fe a b c (some ⟨v,0,none⟩) 1 λw x y=>(ct o q [.p (some d),.l e f g,.l w x y,.l h j k,.i m,.i (adP.wrap (n+1))] [.p (some d),.l e f g,.l a b c,.l h j k,.i m,.i n] r)) ((ct o q [.p (some d),.l e f g,.l a b c,.l h j k,.i m,.i (adP.wrap (n+1))] [.p (some d),.l e f g,.l a b c,.l h j k,.i m,.i n] r))
def jv.j2(K:VK)(a:Addr)(b:Nat)(q:Bool)(c:Nat)(d:OA)(e:Nat)(f:LI)(g:OA)(h i:Nat)(j:OA)(k l:Nat)(m n:Int)(o:LM)(p:World)(r:Bool):WK:=lI (a.add 7) λs=>br (decide ((b:Int)<s)) (br q (jv.j3 K c d b e f a g h i j k l m n o p true) (jv.j3 K c d b e f a g h i j k l m n o p r)) (jv.j3 K c d b e f a g h i j k l m n o p false)
def jv.j1(K:VK)(a:Addr)(b c:Nat)(d:OA)(e:Nat)(f:LI)(g:OA)(h i:Nat)(j:OA)(k l:Nat)(m n:Int)(o:LM)(p:World)(q:Bool):WK:=lT (a.add 5) λr=>br r (ah (ad b 20) 2 λs=>ah a 2 λt=>nr [.u 0,.u 0] s t λv=>jv.j2 K a c q b d e f g h i j k l m n o p v) (jv.j2 K a c q b d e f g h i j k l m n o p false)
def jv(w:OA)(x:LV)(K:VK):WK:=mk x λc=>lI (ad c 2) λy=>lI (ad c 3) λz=>lT (ad c 6) λA=>kk w y z A (xL λB t C=>(lp [.p (some (ad c 0)),.l none 0 0,.l none 0 0,.l B t C,.i (t:Int),.i 0] λn v=>∀a o q r d e f g h s j b k,n [.p (some a),.l o q r,.l d e f,.l g h s,.i j,.i b] k->(br (decide (b<j)) (fO g h b 33 λD=>ah D 33 λE=>mk bg λm=>aI 33 (ad m 0) E (lT (a.add 4) λF=>br F (ah (ad m 18) 2 λG=>ah a 2 λH=>nr [.u 0,.u 0] G H λI=>jv.j1 K a m e d f n o q r g h s j b v k I) (jv.j1 K a m e d f n o q r g h s j b v k false))) (K (.l d e f))) k))
def Ey(c:OA)(e:LV)(K:VK):WK:=mk e λb=>mk EY λa=>br (c.isNone) (a8 (1=1/\True) (a8 (4=4) (gj (ad a 0) [.i 2,.l none 0 0,.l none 0 0,.l none 0 0] (ah (ad a 0) 4 λf=>K (.agg ⟨f⟩))))) (ah (ad b 0) 13 λg=>eg g (xB λh=>br (!h) (a8 (1=1/\True) (a8 (4=4) (gj (ad a 0) [.i 1,.l none 0 0,.l none 0 0,.l none 0 0] (ah (ad a 0) 4 λj=>K (.agg ⟨j⟩))))) (lI (ad b 0) λd=>br (d==4) (lL (ad b 4) λk m n=>pL c k m n (xL λo p q=>a8 (1=1/\True) (a8 (4=4) (gj (ad a 0) [.i 0,.l none 0 0,.l o p q,.l none 0 0] (ah (ad a 0) 4 λr=>K (.agg ⟨r⟩)))))) (br (d==5) (lL (ad b 4) λs t u=>oP c s t u (xL λv w x=>a8 (1=1/\True) (a8 (4=4) (gj (ad a 0) [.i 0,.l none 0 0,.l none 0 0,.l v w x] (ah (ad a 0) 4 λy=>K (.agg ⟨y⟩)))))) (ah (ad b 5) 8 λz=>jv c z (xL λA B C=>a8 (1=1/\True) (a8 (4=4) (gj (ad a 0) [.i 0,.l none 0 0,.l none 0 0,.l A B C] (ah (ad a 0) 4 λD=>K (.agg ⟨D⟩))))))))))
def sm(h:LV)(K:VK):WK:=mk h λj=>mk Z2 λk=>(lp [.p (some (ad j 0)),.string .empty,.p (some (ad k 0)),.i 0] λf l=>∀b d c a e,f [.p (some b),.string d,.p (some c),.i a] e->(br (decide (a<8)) (tick (lU (b.add 1) λm=>a8 ((0:Int)<=(adP.wrap (8* a))) (lU b λg=>a8 ((0:Int)<=(adP.wrap (8* a))) (a8 ((0:Int)<=a/\a<16) (st (c.add (a.toNat* 1)) (.int .u8 (IntKind.u8.wrap (shr .u64 m (adP.wrap (8* a))))) (kp b [.u g] (a8 ((0:Int)<=(adP.wrap (8+a))/\(adP.wrap (8+a))<16) (st (c.add ((adP.wrap (8+a)).toNat* 1)) (.int .u8 (IntKind.u8.wrap (shr .u64 g (adP.wrap (8* a))))) ((ct f l [.p (some b),.string d,.p (some c),.i (adP.wrap (a+1))] [.p (some b),.string d,.p (some c),.i a] e)))))))))) (nT (some c) 16 16 1 none none λn o r=>RL n o λq=>K (.string q))) e)
def iy(a:OA)(f:LV)(K:VK):WK:=mk f λg=>tick (nn a λb=>lL b λc d e=>ah (ad g 0) 2 λh=>sm h (xS λi=>kp b [.l c d e] (BP c d e i λj k m=>nn a λn=>st n (.l j k m) (K (.tuple ⟨[]⟩)))))
def nO.j1(K:VK)(c:Nat)(d:OA):WK:=ah (ad c 0) 2 λg=>ah (ad c 2) 2 λh=>ah (ad c 4) 2 λj=>ah (ad c 6) 2 λk=>ah (ad c 8) 2 λl=>a8 (g.length=2/\(h.length=2/\(j.length=2/\(k.length=2/\(l.length=2/\True))))) ((lp [.p (some (ad c 0)),.agg ⟨(g++(h++(j++(k++(l++[])))))⟩,.i 0] λm o=>∀b e a f,m [.p (some b),.agg ⟨e⟩,.i a] f->(br (decide (a<5)) (a8 ((0:Int)<=a/\a<5) (mk [.u 0,.u 0] λn=>a8 (((e.drop ((a:Int).toNat* 2)).take 2).length=2) (gj (ad n 0) ((e.drop ((a:Int).toNat* 2)).take 2) (ah (ad n 0) 2 λq=>iy d q (x0 ((ct m o [.p (some b),.agg ⟨e⟩,.i (adP.wrap (a+1))] [.p (some b),.agg ⟨e⟩,.i a] f))))))) (lI (b.add 10) λr=>aE d 4 r (x0 (lI (b.add 11) λs=>aE d 2 s (x0 (lI (b.add 12) λt=>aE d 2 t (x0 (lI (b.add 13) λv=>aE d 8 v (x0 (K (.tuple ⟨[]⟩))))))))))) f))
def nO(b:OA)(c:LV)(K:VK):WK:=mk c λa=>ah (ad a 0) 14 λd=>fR d (xB λe=>br (!e) (a8 True (a8 (14=14) (gj (ad a 0) cM (nO.j1 K a b)))) (nO.j1 K a b))
def jE(h m:OA)(e n:Nat)(K:VK):WK:=nn h λo=>aE (some o) 1 (e:Int) (x0 ((lp [.l m e n,.i (e:Int),.i 0] λj p=>∀b c f d a g,j [.l b c f,.i d,.i a] g->(br (decide (a<d)) (fO b c a 14 λq=>ah q 14 λr=>mk cM λk=>aI 14 (ad k 0) r (tick (nn h λs=>ah (ad k 0) 14 λt=>nO (some s) t (x0 ((ct j p [.l b c f,.i d,.i (adP.wrap (a+1))] [.l b c f,.i d,.i a] g)))))) (K (.tuple ⟨[]⟩))) g)))
def mC.j1(K:VK)(d:Nat)(c:OA):WK:=ah (ad d 0) 2 λg=>ah (ad d 2) 2 λh=>ah (ad d 4) 2 λj=>ah (ad d 6) 2 λk=>ah (ad d 8) 2 λl=>a8 (g.length=2/\(h.length=2/\(j.length=2/\(k.length=2/\(l.length=2/\True))))) ((lp [.p (some (ad d 0)),.agg ⟨(g++(h++(j++(k++(l++[])))))⟩,.i 0] λm o=>∀a e b f,m [.p (some a),.agg ⟨e⟩,.i b] f->(br (decide (b<5)) (a8 ((0:Int)<=b/\b<5) (mk [.u 0,.u 0] λn=>a8 (((e.drop ((b:Int).toNat* 2)).take 2).length=2) (gj (ad n 0) ((e.drop ((b:Int).toNat* 2)).take 2) (ah (ad n 0) 2 λq=>iy c q (x0 ((ct m o [.p (some a),.agg ⟨e⟩,.i (adP.wrap (b+1))] [.p (some a),.agg ⟨e⟩,.i b] f))))))) (lI (a.add 10) λr=>aE c 4 r (x0 (lI (a.add 11) λs=>aE c 4 s (x0 (lI (a.add 12) λt=>aE c 2 t (x0 (lI (a.add 13) λv=>aE c 2 v (x0 (lI (a.add 14) λw=>aE c 8 w (x0 (lI (a.add 15) λx=>aE c 8 x (x0 (K (.tuple ⟨[]⟩))))))))))))))) f))
def mC(b:OA)(c:LV)(K:VK):WK:=mk c λa=>ah (ad a 0) 16 λd=>dg d (xB λe=>br (!e) (a8 True (a8 (16=16) (gj (ad a 0) fe (mC.j1 K a b)))) (mC.j1 K a b))
def jj(h m:OA)(e n:Nat)(K:VK):WK:=nn h λo=>aE (some o) 1 (e:Int) (x0 ((lp [.l m e n,.i (e:Int),.i 0] λj p=>∀b c f d a g,j [.l b c f,.i d,.i a] g->(br (decide (a<d)) (fO b c a 16 λq=>ah q 16 λr=>mk fe λk=>aI 16 (ad k 0) r (tick (nn h λs=>ah (ad k 0) 16 λt=>mC (some s) t (x0 ((ct j p [.l b c f,.i d,.i (adP.wrap (a+1))] [.l b c f,.i d,.i a] g)))))) (K (.tuple ⟨[]⟩))) g)))
def ml(a:OA)(b:Bool)(K:VK):WK:=br b (aE a 1 1 (x0 (K (.tuple ⟨[]⟩)))) (aE a 1 0 (x0 (K (.tuple ⟨[]⟩))))
def kO(b:OA)(h:LV)(K:VK):WK:=mk h λa=>tick (nn b λj=>ah (ad a 0) 2 λk=>iy (some j) k (x0 (tick (nn b λl=>lI (ad a 2) λm=>aE (some l) 8 m (x0 (tick (nn b λn=>lI (ad a 3) λo=>aE (some n) 8 o (x0 (lT (ad a 4) λq=>lT (ad a 5) λr=>lT (ad a 6) λs=>a8 (1=1/\(1=1/\(1=1/\True))) ((lp [.p (some (ad a 0)),.agg ⟨[.bool q,.bool r,.bool s]⟩,.i 0] λg t=>∀d e c f,g [.p (some d),.agg ⟨e⟩,.i c] f->(br (decide (c<3)) (yP e 3 c (xB λu=>nn b λv=>ml (some v) u (x0 ((ct g t [.p (some d),.agg ⟨e⟩,.i (adP.wrap (c+1))] [.p (some d),.agg ⟨e⟩,.i c] f))))) (tick (nn b λw=>lI (d.add 7) λx=>aE (some w) 1 x (x0 (K (.tuple ⟨[]⟩)))))) f)))))))))))
def sj(t:LV)(K:VK):WK:=mk t λb=>ah (ad b 0) 13 λv=>lz v (xB λw=>br (!w) (K (.tuple ⟨[.string .empty,.i 1]⟩)) (a8 True (mk [.l none 0 0] λa=>tick (lI (ad b 0) λx=>aE (some (ad a 0)) 1 x (x0 (lI (ad b 0) λe=>br (e==1) (lL (ad b 1) λy z A=>jE (some (ad a 0)) y z A (x0 (bW (some (ad a 0)) (xS λB=>K (.tuple ⟨[.string B,.i 0]⟩))))) (br (e==2) (lL (ad b 2) λC D E=>jj (some (ad a 0)) C D E (x0 (bW (some (ad a 0)) (xS λF=>K (.tuple ⟨[.string F,.i 0]⟩))))) (br (e==3) (tick (lI (ad b 3) λG=>aE (some (ad a 0)) 8 G (x0 (bW (some (ad a 0)) (xS λH=>K (.tuple ⟨[.string H,.i 0]⟩)))))) (br (e==6) (ah (ad b 5) 8 λI=>kO (some (ad a 0)) I (x0 (bW (some (ad a 0)) (xS λJ=>K (.tuple ⟨[.string J,.i 0]⟩))))) (tick (lL (ad b 4) λM o O=>aE (some (ad a 0)) 1 (o:Int) (x0 (kp (ad b 4) [.l M o O] (lL (ad b 4) λP q Q=>(lp [.string .empty,.i 0,.p (some (ad a 0)),.l P q Q,.i (q:Int),.i 0] λr R=>∀j k c f g m h d n,r [.string j,.i k,.p (some c),.l f g m,.i h,.i d] n->(br (decide (d<h)) (fO f g d 2 λS=>ah S 2 λT=>mk [.u 0,.u 0] λs=>aI 2 (ad s 0) T (tick (ah (ad s 0) 2 λV=>iy (some c) V (x0 ((ct r R [.string j,.i k,.p (some c),.l f g m,.i h,.i (adP.wrap (d+1))] [.string j,.i k,.p (some c),.l f g m,.i h,.i d] n)))))) (bW (some c) (xS λW=>K (.tuple ⟨[.string W,.i 0]⟩)))) n)))))))))))))))
def iq(a:OA)(K:VK):WK:=br (a.isNone) (K (.i 0)) (nn a λb=>lI (b.add 7) λc=>K (.i c))
def gG(a:OA)(K:VK):WK:=br (a.isNone) (K (.l none 0 0)) (nn a λb=>lL b λc d h=>eS 14 112 cM none 0 0 c d λe f g=>K (.l e f g))
def fQ(a:OA)(K:VK):WK:=br (a.isNone) (K (.l none 0 0)) (nn a λb=>lP (b.add 1) λc=>gG c (xL λd e f=>K (.l d e f)))
def iL(a:OA)(K:VK):WK:=br (a.isNone) (K (.l none 0 0)) (nn a λb=>lL b λc d h=>eS 33 264 bg none 0 0 c d λe f g=>K (.l e f g))
def im(a:OA)(K:VK):WK:=br (a.isNone) (K (.l none 0 0)) (nn a λb=>lP (b.add 2) λc=>iL c (xL λd e f=>K (.l d e f)))
def jQ(a:OA)(K:VK):WK:=br (a.isNone) (K (.i 0)) (nn a λb=>lI (b.add 8) λc=>K (.i c))
def oY(b:OA)(K:VK):WK:=a8 True (mk [.l none 0 0] λc=>aE (some (ad c 0)) 1 1 (x0 (iq b (xI .i64 λB=>aE (some (ad c 0)) 8 B (x0 (jQ b (xI .i64 λC=>aE (some (ad c 0)) 8 C (x0 (fQ b (xL λY D Z=>aE (some (ad c 0)) 2 (D:Int) (x0 (im b (xL λuR E uQ=>aE (some (ad c 0)) 2 (E:Int) (x0 (fQ b (xL λF w G=>(lp [.string .empty,.p (some (ad c 0)),.l F w G,.i (w:Int),.i 0] λx H=>∀g d h j r k e s,x [.string g,.p (some d),.l h j r,.i k,.i e] s->(br (decide (e<k)) (fO h j e 14 λI=>ah I 14 λJ=>mk cM λy=>aI 14 (ad y 0) J (ah (ad y 0) 14 λM=>nO (some d) M (x0 ((ct x H [.string g,.p (some d),.l h j r,.i k,.i (adP.wrap (e+1))] [.string g,.p (some d),.l h j r,.i k,.i e] s))))) (im b (xL λO z P=>(lp [.string g,.p (some d),.l O z P,.i (z:Int),.i 0] λA Q=>∀t a m n u o f v,A [.string t,.p (some a),.l m n u,.i o,.i f] v->(br (decide (f<o)) (fO m n f 33 λR=>ah R 33 λS=>mk bg λq=>aI 33 (ad q 0) S (ah (ad q 0) 16 λT=>mC (some a) T (x0 (ah (ad q 16) 16 λV=>mC (some a) V (x0 (lI (ad q 32) λW=>aE (some a) 1 W (x0 ((ct A Q [.string t,.p (some a),.l m n u,.i o,.i (adP.wrap (f+1))] [.string t,.p (some a),.l m n u,.i o,.i f] v))))))))) (bW (some a) (xS λX=>K (.string X)))) v)))) s)))))))))))))))))
def cF.j1(K:VK)(a:OA)(b:Int):WK:=br (b !=0) (nn a λc=>st (c.add 9) (.bool true) (K (.i b))) (nn a λd=>lI (d.add 8) λe=>nn a λf=>st (f.add 8) (.i (adP.wrap (e+1))) (nn a λg=>lP (g.add 7) λh=>fN h (x0 (K (.i 0)))))
def cF(a:OA)(K:VK):WK:=br (a.isNone) (K (.i 2)) (nn a λl=>lT (l.add 9) λm=>br m (K (.i 9)) (nn a λn=>lP (n.add 6) λo=>oY o (xS λb=>nn a λq=>ah (q.add 1) 5 λr=>l9 r (b.size:Int) (xB λs=>br (!s) (K (.i 3)) (nn a λt=>lP t λu=>kr u (xI .i64 λc=>tick (nn a λv=>ah (v.add 1) 5 λw=>nn a λx=>lP x λy=>nn a λf=>lI (f.add 8) λg=>mE w y (adP.wrap (g+1)) (adP.wrap (c+1)) b (xI .i64 λh=>kp (f.add 8) [.i g] (br (h==0) (tick (nn a λj=>lP j λk=>nn a λd=>lI (d.add 8) λe=>nn a λz=>lP (z.add 7) λA=>gn A (xI .i64 λB=>kp (d.add 8) [.i e] (kp j [.p k] (a8 (1=1/\(1=1/\(1=1/\(1=1/\True)))) (pT k (adP.wrap ((adP.wrap (c+1))+1)) [.i (adP.wrap (e+1)),.i (adP.wrap (c+1)),.i (b.size:Int),.i B] (xI .i64 λC=>kp (d.add 8) [.i e] (cF.j1 K a C)))))))) (cF.j1 K a h))))))))))
def fB.j1(K:VK)(a:OA)(e:BA):WK:=tick (nn a λc=>lP (c.add 7) λd=>nn a λf=>lP f λg=>kr g (xI .i64 λh=>kp (c.add 7) [.p d] (aV d (adP.wrap (h+1)) e (xI .i64 λb=>nn a λj=>lT (j.add 9) λk=>br k (nn a λl=>st (l.add 9) (.bool true) (K (.i b))) (nn a λm=>st (m.add 9) (.bool (b==8)) (K (.i b)))))))
def fB(a:OA)(b:BA)(K:VK):WK:=nn a λd=>lP (d.add 7) λe=>fM e (b.size:Int) (xB λf=>br (!f) (cF a (xI .i64 λc=>br (c !=0) (K (.i c)) (fB.j1 K a b))) (fB.j1 K a b))
def jx(a:OA)(K:VK):WK:=br (a.isNone) (K (.i 0)) (nn a λb=>lP (b.add 7) λc=>gn c (xI .i64 λd=>K (.i d)))
def jF(a:OA)(K:VK):WK:=br (a.isNone) (K (.p none)) (nn a λb=>lP (b.add 6) λc=>oY c (xS λd=>kQ d (x2 λe f=>(xP λg=>(xI .i64 λh=>K (.p g)) f) e)))
def gL(a:OA)(K:VK):WK:=br (a.isNone) (K (.i 0)) (nn a λb=>lI (b.add 8) λc=>K (.i c))
def iV(a:OA)(K:VK):WK:=br (!(a.isNone)) (nn a λb=>lT (b.add 9) λc=>K (.bool c)) (K (.bool false))
end Go.Prog
namespace Go.Md
def aK:Nat:=340282366920938463463374607431768211456
structure aP where
 id:Nat
 dp:Nat
 dq:Nat
 cp:Nat
 cq:Nat
 aG:Int
 code:Int
 flags:Int
 ae:Int
deriving DecidableEq
structure Move where
 id:Nat
 aF:Nat
 ar:Nat
 aB:Nat
 pending:Nat
 timeout:Int
 aG:Int
 code:Int
 flags:Int
 ae:Int
 born:Int
deriving DecidableEq
structure Kept where
 asked:Move
 move:Move
 fate:Int
deriving DecidableEq
structure ax where
 ag:List aP
 kept:List Kept
 clock:Int
 ae:Int
structure Model where
 made:List aP
 kept:List Kept
 clock:Int
 ae:Int
def has(f b:Int):Prop:=f/b%2=1
instance(f b:Int):Decidable (has f b):=by unfold has;infer_instance
def qE(a:aP):Int:=
 if a.flags<0\/7<a.flags then 3 else if a.id=0 then 4 else if a.id=aK-1 then 5 else if has a.flags 2/\has a.flags 4 then 6
 else if a.dp≠0\/a.dq≠0\/a.cp≠0\/a.cq≠0\/a.ae≠0 then 7 else if a.aG<=0\/4294967296<=a.aG then 8 else if a.code<=0\/65536<=a.code then 9 else 0
def ru(a b:aP):Int:=if a.aG=b.aG/\a.code=b.code/\a.flags/2%4=b.flags/2%4 then 10 else 11
def gv(f:Int):Prop:=has f 4\/has f 8
instance(f:Int):Decidable (gv f):=by unfold gv;infer_instance
def ft(f:Int):Prop:= ¬(has f 2/\has f 4\/has f 2/\has f 8\/has f 4/\has f 8)/\ ¬(gv f/\16<=f)/\(f<64\/has f 2)
instance(f:Int):Decidable (ft f):=by unfold ft;infer_instance
def kz(t:Move):Int:=
 if t.flags<0\/255<t.flags then 3 else if t.id=0 then 4 else if t.id=aK-1 then 5 else if ¬ft t.flags then 6
 else if t.ae≠0\/t.born≠0 then 7 else if t.timeout<0\/1073741824<t.timeout\/0<t.timeout/\ ¬has t.flags 2 then 17
 else if gv t.flags then
  (if t.pending=0 then 16 else if t.aG<0\/4294967296<=t.aG then 8 else if t.code<0\/65536<=t.code then 9 else 0)
 else if t.aF=0 then 12 else if t.ar=0 then 13 else if t.aF=t.ar then 14 else if t.pending≠0 then 15 else if t.aB=0/\ ¬has t.flags 16/\ ¬has t.flags 32 then 18
 else if t.aG<1\/4294967296<=t.aG then 8 else if t.code<1\/65536<=t.code then 9 else 0
def qx(t b:Move):Int:=if{t with flags:=t.flags/2}={b with flags:=b.flags/2} then 10 else 11
def S(f:Kept->Nat)(l:List Kept):Nat:=(l.map f).sum
def um(f:Kept->Nat):S f []=0:=rfl
def nP(f:Kept->Nat)(k:Kept)(l:List Kept):S f (k::l)=f k+S f l:=by simp[S]
def OS(f:Kept->Nat)(l m:List Kept):S f (l++m)=S f l+S f m:=by simp[S]
def rv(f:Kept->Nat)(l:List Kept)(k:Kept):S f (l++[k])=S f l+f k:=by simp[S]
def DC(f:Kept->Nat):∀(l:List Kept)(i:Nat)(k:Kept)(h:i<l.length),S f (l.set i k)+f l[i]=S f l+f k
 |[],i,k,h=>by simp at h
 |x::l,0,k,h=>by simp[S];omega
 |x::l,i+1,k,h=>by
  have ih:=DC f l i k (by simpa using h);simp only[ae7,nP,List.getElem_cons_succ];omega
def OR(f:Kept->Nat):∀(l:List Kept)(k:Kept),k∈l->f k<=S f l
 |[],k,h=>by simp at h
 |x::l,k,h=>by
  rw[nP];rcases ae'.1 h with h|h
  ·subst h;omega
  ·have:=OR f l k h;omega
def vZ(id:Nat)(k:Kept):Nat:=if k.fate=1/\k.move.aF=id then k.move.aB else 0
def wa(id:Nat)(k:Kept):Nat:=if k.fate=1/\k.move.ar=id then k.move.aB else 0
def ie(k:Kept):Prop:= ¬has k.move.flags 2/\ ¬has k.move.flags 8
instance(k:Kept):Decidable (ie k):=by unfold ie;infer_instance
def yh(id:Nat)(k:Kept):Nat:=if ie k/\k.move.aF=id then k.move.aB else 0
def yi(id:Nat)(k:Kept):Nat:=if ie k/\k.move.ar=id then k.move.aB else 0
def gH(id:Nat)(k:Kept):Prop:=(has k.move.flags 64/\k.move.aF=id\/has k.move.flags 128/\k.move.ar=id)/\(k.fate=1\/k.fate=2)
instance(id:Nat)(k:Kept):Decidable (gH id k):=by unfold gH;infer_instance
def qm(id:Nat)(k:Kept):Nat:=if gH id k then 1 else 0
def add(a b:Nat):Nat:=if a+b<aK then a+b else 0
def sw(a:aP)(k:Kept):aP:=
 {a with dq:=if ie k/\k.move.aF=a.id then add a.dq k.move.aB else a.dq,cq:=if ie k/\k.move.ar=a.id then add a.cq k.move.aB else a.cq,dp:=if k.fate=1/\k.move.aF=a.id then add a.dp k.move.aB else a.dp,cp:=if k.fate=1/\k.move.ar=a.id then add a.cp k.move.aB else a.cp,flags:=if gH a.id k then a.flags%8+8 else a.flags}
def full(l:List Kept)(a:aP):aP:=
 {a with dp:=a.dp+S (vZ a.id) l,dq:=a.dq+S (yh a.id) l,cp:=a.cp+S (wa a.id) l,cq:=a.cq+S (yi a.id) l,flags:=if S (qm a.id) l=0 then a.flags else a.flags%8+8}
def Lk(a:aP)(k:Kept)(h1:a.dp+vZ a.id k<aK)(h2:a.dq+yh a.id k<aK)(h3:a.cp+wa a.id k<aK)(h4:a.cq+yi a.id k<aK):sw a k=full [k] a:=by
 have e1:(if k.fate=1/\k.move.aF=a.id then add a.dp k.move.aB else a.dp)=a.dp+S (vZ a.id) [k]:=by
  rw[nP,um];unfold vZ at h1⊢;by_cases h:k.fate=1/\k.move.aF=a.id
  ·rw[if_pos h] at h1⊢;rw[if_pos h];unfold add;rw[if_pos h1];omega
  ·rw[if_neg h,if_neg h];rfl
 have e2:(if ie k/\k.move.aF=a.id then add a.dq k.move.aB else a.dq)=a.dq+S (yh a.id) [k]:=by
  rw[nP,um];unfold yh at h2⊢;by_cases h:ie k/\k.move.aF=a.id
  ·rw[if_pos h] at h2⊢;rw[if_pos h];unfold add;rw[if_pos h2];omega
  ·rw[if_neg h,if_neg h];rfl
 have e3:(if k.fate=1/\k.move.ar=a.id then add a.cp k.move.aB else a.cp)=a.cp+S (wa a.id) [k]:=by
  rw[nP,um];unfold wa at h3⊢;by_cases h:k.fate=1/\k.move.ar=a.id
  ·rw[if_pos h] at h3⊢;rw[if_pos h];unfold add;rw[if_pos h3];omega
  ·rw[if_neg h,if_neg h];rfl
 have e4:(if ie k/\k.move.ar=a.id then add a.cq k.move.aB else a.cq)=a.cq+S (yi a.id) [k]:=by
  rw[nP,um];unfold yi at h4⊢;by_cases h:ie k/\k.move.ar=a.id
  ·rw[if_pos h] at h4⊢;rw[if_pos h];unfold add;rw[if_pos h4];omega
  ·rw[if_neg h,if_neg h];rfl
 have e5:(if gH a.id k then a.flags%8+8 else a.flags)=if S (qm a.id) [k]=0 then a.flags else a.flags%8+8:=by
  rw[nP,um];unfold qm;by_cases h:gH a.id k
  ·rw[if_pos h,if_pos h,if_neg (by omega)]
  ·rw[if_neg h,if_neg h,if_pos (by omega)]
 unfold sw full;rw[e1,e2,e3,e4,e5]
def yZ(a:aP)(l m:List Kept):full m (full l a)=full (l++m) a:=by
 unfold full;dsimp only;simp only[OS,Nat.add_assoc]
 congr 1
 by_cases h1:S (qm a.id) l=0
 ·rw[if_pos h1];by_cases h2:S (qm a.id) m=0
  ·rw[if_pos h2,if_pos (by omega)]
  ·rw[if_neg h2,if_neg (by omega)]
 ·rw[if_neg h1];by_cases h2:S (qm a.id) m=0
  ·rw[if_pos h2,if_neg (by omega)]
  ·rw[if_neg h2,if_neg (by omega)];omega
def Ic(a:aP):∀(l:List Kept),a.dp+S (vZ a.id) l<aK->a.dq+S (yh a.id) l<aK->a.cp+S (wa a.id) l<aK->a.cq+S (yi a.id) l<aK->l.foldl sw a=full l a:=by
 intro l
 induction l generalizing a with
 |nil=>intros;unfold full;simp[um]
 |cons k l ih=>
  intro h1 h2 h3 h4;rw[nP] at h1 h2 h3 h4;rw[List.foldl_cons,Lk a k (by omega) (by omega) (by omega) (by omega)];have Hi:(full [k] a).id=a.id:=rfl;have:=ih (full [k] a) (by rw[Hi];show a.dp+S (vZ a.id) [k]+_<_;rw[nP,um];omega) (by rw[Hi];show a.dq+S (yh a.id) [k]+_<_;rw[nP,um];omega)
   (by rw[Hi];show a.cp+S (wa a.id) [k]+_<_;rw[nP,um];omega) (by rw[Hi];show a.cq+S (yi a.id) [k]+_<_;rw[nP,um];omega)
  rw[this,yZ];rfl
end Go.Md
namespace Go.Up
open Go.Sep Go.Den Go.RowKit Go.Prog Go.Md
instance{a b:Value}{n:Nat}:Wr [a,b] 0 (nm n) (nm n):=⟨rfl,adY _,λv h=>by simp[nm] at h;rcases h with rfl|rfl<;>rfl⟩
instance{m n:Nat}:Wr (nm m) 0 (nm n) (nm n):=⟨rfl,adY _,λv h=>by simp[nm] at h;rcases h with rfl|rfl<;>rfl⟩
instance{a b:Value}{k k':IntKind}{x y:Int}:Wr [a,b] 0 [.int k x,.int k' y] [.int k x,.int k' y]:=⟨rfl,adY _,λv h=>by simp at h;rcases h with rfl|rfl<;>rfl⟩
instance{n:Nat}{k k':IntKind}{x y:Int}:Wr (nm n) 0 [.int k x,.int k' y] [.int k x,.int k' y]:=⟨rfl,adY _,λv h=>by simp at h;rcases h with rfl|rfl<;>rfl⟩
section
variable {W:World} {L:LH} {K:VK} {a b n:Nat}
def qy(h:T W L (K (.bool (decide (n=0))))):T W L (eK (nm n) K):=by
 unfold eK;apply ws;intros;exact T.dp h
def TF{x y c:Int}(h1:(0<=x/\0<=y)/\0<=c/\c<=1)(h:T W L (K (.tuple ⟨[.u ((x+y+c)%18446744073709551616),.u ((x+y+c)/18446744073709551616)]⟩))):T W L (mZ x y c K):=cN h1 h
def MO{x y c:Int}(h1:(0<=x/\0<=y/\y<18446744073709551616)/\0<=c/\c<=1)(h:T W L (K (.tuple ⟨[.u ((x-y-c)%18446744073709551616),.u (if x<y+c then 1 else 0)]⟩))):T W L (mY x y c K):=cN h1 h
def LX(h:T W L (K (.i (if a=b then 0 else if a<b then-1 else 1)))):T W L (pE (nm a) (nm b) K):=by
 unfold pE
 repeat' first|apply ws;intros|apply wb|with_reducible refine bE (λh1=>?_) (λh1=>?_)|fail
 all_goals (refine T.fin (T.dp h) ?_;simp only[decide_eq_true_eq,decide_eq_false_iff_not,beq_iff_eq,beq_eq_false_iff_ne,ne_eq] at *;congr 1;split<;>(try split)<;>omega)
def yw(h:T W L (K (.bool (decide (a<b))))):T W L (na (nm a) (nm b) K):=by
 unfold na
 repeat' first|apply ws;intros|apply wb|with_reducible refine LX ?_|fail
 refine T.fin (T.dp h) ?_
 congr 1
 simp only[decide_eq_decide];split<;>(try split)<;>omega
def Tc(h:T W L (K (.agg ⟨nm (min a b)⟩))):T W L (tz (nm a) (nm b) K):=by
 unfold tz
 repeat' first|apply ws;intros|apply wb|with_reducible first|refine yw ?_|refine bE (λh1=>?_) (λh1=>?_)|fail
 all_goals (refine T.fin (T.dp h) ?_;simp only[decide_eq_true_eq,decide_eq_false_iff_not] at h1;congr 3;omega)
def Nr{x y:Int}(n:Nat)(h1:x=((n/18446744073709551616:Nat):Int))(h2:y=((n%18446744073709551616:Nat):Int)):[Value.int .u64 x,Value.int .u64 y]=nm n:=by rw[h1,h2];rfl
abbrev yp(a b:Nat):Value:=.tuple ⟨[.agg ⟨nm (if a+b<aK then a+b else 0)⟩,.bool (decide (a+b<aK))]⟩
abbrev WM(a b:Nat):Value:=.tuple ⟨[.agg ⟨nm (if a<b then 0 else a-b)⟩,.bool (decide (b<=a))]⟩
def zi(ha:a<aK)(hb:b<aK)(h:T W L (K (yp a b))):T W L (l6 (nm a) (nm b) K):=by
 unfold aK at ha hb;unfold l6
 repeat' first|apply ws;intros|apply wb|with_reducible first|refine TF (by omega) ?_|refine bE (λh1=>?_) (λh1=>?_)|fail
 all_goals
  refine T.fin (T.dp h) ?_;simp only[bne_iff_ne,ne_eq,bne_eq_false_iff_eq] at h1;unfold yp aK
 ·rw[if_neg (by omega),decide_eq_false (by omega)];rfl
 ·rw[if_pos (by omega),decide_eq_true (by omega),Nr (a+b) (by omega) (by omega)]
def ON(ha:a<aK)(hb:b<aK)(h:T W L (K (WM a b))):T W L (lZ (nm a) (nm b) K):=by
 unfold aK at ha hb;unfold lZ
 repeat' first|apply ws;intros|apply wb|with_reducible first|refine yw ?_|refine MO (by omega) ?_|refine MO (by split<;>omega) ?_|refine bE (λh1=>?_) (λh1=>?_)|fail
 all_goals
  refine T.fin (T.dp h) ?_;simp only[decide_eq_true_eq,decide_eq_false_iff_not] at h1;unfold WM
 ·rw[if_pos h1,decide_eq_false (by omega)];rfl
 ·rw[if_neg h1,decide_eq_true (by omega),Nr (a-b) (by split<;>omega) (by omega)]
end
end Go.Up
namespace Go.Sep
open Go.Den Go.RowKit Go.Prog Go.bC
def Nj{s:BA}(h:s.size<=128):(ay.pad s).size=128:=by
 unfold ay.pad;rw[ByteArray.size_append,qa];omega
def T2(n:Int):(ay.new n).Ok:=by
 have hn:0<=min2 (max2 n 0) 4096/\min2 (max2 n 0) 4096<=4096:=by unfold min2 max2;split<;>split<;>omega
 refine⟨λs hs=>?_,λp hp=>?_,?_,?_⟩
 ·simp only[ay.new,List.mem_replicate] at hs;rw[hs.2];exact qa 128
 ·simp[ay.new] at hp
 ·simp only[ay.new,aeZ];omega
 ·simp[ay.new]
def mO(D:ay)(mask torn cut:Int):D.fI mask torn cut=⟨crashed mask torn (min2 (max2 cut 0) 128) D.safe D.later D.later.length,[],D.ops,0⟩:=by
 unfold ay.fI;have:=xh mask torn (min2 (max2 cut 0) 128) D.later D.safe D.later.length 0 (by omega);simp only[ae1,crashed] at this;rw[this]
def oa(D:ay)(i:Int)(s:BA):(D.write i s).1.safe=D.safe/\(D.write i s).1.later.length<=D.later.length+1:=by
 unfold ay.write;split
 ·exact⟨rfl,by simp⟩
 ·split
  ·exact⟨rfl,by simp[ay.tick]⟩
  ·exact⟨rfl,by simp⟩
def EZ{D:ay}(h:D.Ok)(i:Int)(s:BA)(hl:D.later.length+1<1099511627776):(D.write i s).1.Ok:=by
 have h2:=oa D i s;refine⟨by rw[h2.1];exact h.safe,?_,by rw[h2.1];exact h.lH,by omega⟩;rw[h2.1];unfold ay.write;split
 ·exact h.later
 ·rename_i hg;split
  ·exact h.later
  ·intro p hp;simp only[aew,List.mem_singleton] at hp;rcases hp with hp|hp
   ·exact h.later p hp
   ·subst hp;have Hj:D.is i:=by
     by_cases hh:D.is i
     ·exact hh
     ·exact absurd (.inl hh) hg
    have L8: ¬128<s.size:=λhh=>hg (.inr hh);exact⟨Nj (by omega),Hj.1,Hj.2⟩
def GC{mask torn c:Int}(hc:0<=c/\c<=128){safe:List BA}{k:Nat}{p:Int×BA}(hs:∀s∈safe,s.size=128)(hp:p.2.size=128/\0<=p.1/\p.1<safe.length):
 ∀s∈ay.pJ mask torn c safe k p,s.size=128:=by
 intro s hm;have K5:p.1.toNat<safe.length:=by omega
 unfold ay.pJ at hm;split at hm
 ·rcases aeI hm with hm|hm
  ·exact hs s hm
  ·rw[hm];have:=hs _ (aeg K5);rw[aeV,adS K5,aeu,ByteArray.size_append,rC,rC,this,hp.1];omega
 ·split at hm
  ·rcases aeI hm with hm|hm
   ·exact hs s hm
   ·rw[hm];exact hp.1
  ·exact hs s hm
def ug{mask torn c:Int}(hc:0<=c/\c<=128){safe:List BA}{later:List (Int×BA)}(hs:∀s∈safe,s.size=128)(hp:∀p∈later,p.2.size=128/\0<=p.1/\p.1<safe.length):
 ∀j,∀s∈crashed mask torn c safe later j,s.size=128
 |0=>hs
 |j+1=>by
  simp only[crashed];cases hl:later[j]? with
  |none=>exact ug hc hs hp j
  |some p=>
   refine GC hc (ug hc hs hp j) ?_;rw[hO];exact hp p (aek hl)
def Oh(cut:Int):0<=min2 (max2 cut 0) 128/\min2 (max2 cut 0) 128<=128:=by unfold min2 max2;split<;>split<;>omega
def Bx{D:ay}(h:D.Ok)(mask torn cut:Int):(D.fI mask torn cut).Ok:=by
 rw[mO];refine⟨ug (Oh cut) h.safe h.later _,λp hp=>by simp at hp,by simp only[hO];exact h.lH,by simp⟩
def Cq{later:List (Int×BA)}:∀{safe:List BA},(∀s∈safe,s.size=128)->(∀p∈later,p.2.size=128)->∀s∈later.foldl ay.put safe,s.size=128:=by
 induction later with
 |nil=>exact λhs _=>hs
 |cons p l ih=>
  intro safe hs hp;rw[List.foldl_cons];refine ih (λs hm=>?_) (λq hq=>hp q (aeW _ hq));rcases aeI hm with hm|hm
  ·exact hs s hm
  ·rw[hm];exact hp p (List.mem_cons_self)
def DJ{D:ay}(h:D.Ok):D.sync.1.Ok:=by
 unfold ay.sync;split
 ·exact⟨h.safe,h.later,h.lH,h.less⟩
 ·refine⟨Cq h.safe λp hp=>(h.later p hp).1,λp hp=>by simp at hp,?_,by simp⟩;show(D.later.foldl ay.put D.safe).length<=4096;rw[ky];exact h.lH
def uw{D:ay}(h:D.later=[]){i:Nat}(hi:i<D.safe.length):D.read (i:Int)=(D.safe[i],0):=by
 unfold ay.read;rw[if_pos ⟨by omega,by omega⟩];simp[ay.now,ay.last,h,hi]
section
variable {W w:World} {L:LH}
end
end Go.Sep
namespace Go.Sep
open Go.Den Go.RowKit Go.ChangeShapes Go.WideShapes
inductive CK where
 |i(k:IntKind)
 |b
 |s
deriving DecidableEq
def CK.is:CK->Value->Prop
 | .i k,v=>∃n,v=.int k n/\(Lit.int k n).wf=true
 | .b,v=>∃x,v=.bool x
 | .s,v=>∃x,v=.string x/\x.size<=reachBytes
def Typed(ks:List CK)(cs:LV)(o:Nat):Prop:=∀j k,ks[j]?=some k->∃v,cs[o+j]?=some v/\k.is v
def oA(P:Program)(f:TypeId->Option (List CK)):Nat->List Field->Option (List CK)
 |_,[]=>some []
 |o,fd::r=>match f fd.type with
  |some a=>if fd.offset=o/\P.cellsOf fd.type=a.length then(oA P f (o+a.length) r).map (a++·) else none
  |none=>none
def flat(P:Program):Nat->TypeId->Option (List CK)
 |0,_=>none
 |n+1,t=>match P.underlying t with
  |some (.int k)=>some [.i k]
  |some .bool=>some [.b]
  |some .string=>some [.s]
  |some (.struct fs)=>oA P (flat P n) 0 fs.toList
  |_=>none
section
variable {H:Type} {enc:TypeId×Value->H} {P:Program} {w:World} {base:Nat} {spare:Nat->Bool} {held:Bool}
def xd{f:TypeId->Option (List CK)}{m:Nat}{cs:LV}
 (hf:∀t ks cs x,f t=some ks->DataW.trod enc P w base spare held m t cs=some x->(∀n∈x.1.weights P t,n<=reachBytes)->Typed ks cs 0):
 ∀(fs:List Field)(o:Nat)(ks:List CK)(xs:List (DataW H×List MemPlace)),oA P f o fs=some ks->
  (∀(i:Nat)(fd:Field),fs[i]?=some fd->DataW.trod enc P w base spare held m fd.type ((cs.drop fd.offset).take (P.cellsOf fd.type))=xs[i]?)->xs.length=fs.length->
  (∀n∈DataW.weightsEach P (fs.map (·.type)) (xs.map (·.1)),n<=reachBytes)->Typed ks cs o
 |[],o,ks,xs,h,_,_,_=>by
  simp only[oA,aec.injEq] at h;subst h;intro j k hj;simp at hj
 |fd::r,o,ks,[],h,hx,hl,hw=>by simp at hl
 |fd::r,o,ks,x::xs,h,hx,hl,hw=>by
  simp only[oA] at h;cases ha:f fd.type with
  |none=>simp[ha] at h
  |some a=>
   simp only[ha] at h;split at h
   ·rename_i hc;cases hb:oA P f (o+a.length) r with
    |none=>simp[hb] at h
    |some b=>
     simp only[hb,aeD,aec.injEq] at h;subst h;simp only[aet,DataW.weightsEach,aew] at hw;have h1:=hf fd.type a _ x ha (by have:=hx 0 fd rfl;simpa using this) (λn hn=>hw n (.inl hn));have h2:=xd hf r (o+a.length) b xs hb (λi g hg=>by have:=hx (i+1) g (by simpa using hg);simpa using this) (by simpa using hl) (λn hn=>hw n (.inr hn));intro j k hj;by_cases UC:j<a.length
     ·rw[aef UC] at hj;obtain⟨v,hv,hk⟩:=h1 j k hj;refine⟨v,?_,hk⟩;rw[hc.1,hc.2,adW,List.getElem?_take_of_lt UC,ae8] at hv;exact hv
     ·rw[aes (by omega)] at hj;obtain⟨v,hv,hk⟩:=h2 (j-a.length) k hj;refine⟨v,?_,hk⟩;rw[show o+j=o+a.length+(j-a.length) from by omega];exact hv
   ·cases h
def Br:∀(f:Nat)(m:Nat)(t:TypeId)(ks:List CK)(cs:LV)(x:DataW H×List MemPlace),flat P f t=some ks->DataW.trod enc P w base spare held m t cs=some x->
 (∀n∈x.1.weights P t,n<=reachBytes)->Typed ks cs 0
 |0,_,_,_,_,_,h,_,_=>by simp[flat] at h
 |f+1,m,t,ks,cs,x,h,hx,hw=>by
  unfold flat at h;split at h
  ·rename_i k ht;cases h
   obtain⟨n,rfl,rfl,hwf⟩:=DataW.trod_int ht hx;intro j k' hj;cases j with
   |zero=>simp at hj;subst hj;exact⟨_,rfl,n,rfl,hwf⟩
   |succ j=>simp at hj
  ·rename_i ht;cases h
   obtain⟨n,rfl,rfl⟩:=DataW.trod_bool ht hx;intro j k' hj;cases j with
   |zero=>simp at hj;subst hj;exact⟨_,rfl,n,rfl⟩
   |succ j=>simp at hj
  ·rename_i ht;cases h
   obtain⟨n,rfl,rfl,_⟩:=DataW.trod_string ht hx;intro j k' hj;cases j with
   |zero=>simp at hj;subst hj;exact⟨_,rfl,n,rfl,by have:=hw n.data.toList.length (by simp[DataW.weights]);simpa using this⟩
   |succ j=>simp at hj
  ·rename_i fs ht;obtain⟨xs,n,rfl,rfl,hl,hlen,hf⟩:=DataW.trod_struct ht hx;refine xd (m:=n) (λt ks cs x h1 h2 h3=>Br f n t ks cs x h1 h2 h3) fs.toList 0 ks xs h (λi fd hi=>hf i fd (by simpa using hi)) (by simpa using hlen) (λn hn=>hw n ?_);simp only[DataW.weights,ht];exact hn
  ·cases h
def O9(ks:List CK)(n:Nat)(xs:LV):Prop:=∀i,i<n->Typed ks xs (i* ks.length)
def tA{e:TypeId}:∀{ds:List (DataW H)} {d:DataW H},d∈ds->∀n∈d.weights P e,n∈DataW.weightsAll P e ds
 |[],d,h,_,_=>by simp at h
 |d0::ds,d,h,n,hn=>by
  simp only[DataW.weightsAll,aew];rcases ae'.1 h with h|h
  ·subst h;exact .inl hn
  ·exact .inr (tA h n hn)
def Ij{α:Type}{ks:List CK}{n:Nat}{xs:LV}(f:α->LV)(q:α->Prop)(hf:∀a,(f a).length=ks.length)
 (dec:∀o,Typed ks xs o->∃a,q a/\∀j,j<ks.length->xs[o+j]?=(f a)[j]?)(he:O9 ks n xs)(hl:xs.length=n* ks.length):∃l:List α,l.length=n/\xs=l.flatMap f/\∀a∈l,q a:=by
 have key:∀m,m<=n->∃l:List α,l.length=m/\xs.take (m* ks.length)=l.flatMap f/\∀a∈l,q a:=by
  intro m
  induction m with
  |zero=>exact λ_=>⟨[],rfl,by simp,by simp⟩
  |succ m ih=>
   intro hm;obtain⟨l,h1,h2,h3⟩:=ih (by omega);obtain⟨a,ha,hc⟩:=dec _ (he m (by omega));refine⟨l++[a],by simp[h1],?_,λb hb=>?_⟩
   ·rw[aeP,<-h2,afg,Nat.one_mul,List.take_add]
    congr 1
    simp only[aeG,List.flatMap_nil,aed];apply afb;intro j;by_cases hj:j<ks.length
    ·rw[List.getElem?_take_of_lt hj,ae8];exact hc j hj
    ·have h5:ks.length<=j:=by omega
     rw[aeT (by simp;omega),aeT (by rw[hf];exact h5)]
   ·rcases aew.1 hb with hb|hb
    ·exact h3 b hb
    ·simp at hb;subst hb;exact ha
 obtain⟨l,h1,h2,h3⟩:=key n (adY n);rw[aea (by omega)] at h2;exact⟨l,h1,h2,h3⟩
def Below.trodAll(hl:laidOutB P=true){W W':World}(hb:Below W.heap.size W W'):
 ∀{ts:List TypeId} {vs:LV} {ds:List (DataW H)} {ps:List MemPlace},ts.all (λt=>P.readableRec t&&decide (t<P.types.size))=true->
 DataW.TrodAll enc P W 0 (λ_=>true) true ts vs ds ps->DataW.TrodAll enc P W' 0 (λb=>decide (b<W.heap.size)) true ts vs ds ps
 |[],vs,ds,ps,_,h=>by
  cases vs<;>cases ds<;>simp[DataW.TrodAll] at h⊢
  exact h
 |t::ts,vs,ds,ps,hr,h=>by
  simp only[List.all_cons,aeL,decide_eq_true_eq] at hr;have aZ:=DataW.TrodAll.lt h;obtain⟨v,B0,d,ds',p,q,rfl,rfl,rfl,h1,h2⟩:=trodAll_cons h;exact⟨p,q,Go.RowKit.Below.trod hl hr.1.1 hr.1.2 h1 hb (λx hx=>aZ x (by simp[hx])),Below.trodAll hl hb hr.2 h2,rfl⟩
end
end Go.Sep
namespace Go.Sep
open Go.Den Go.RowKit Go.Prog Go.bC
def eP{z ys:LV}(h:ys.length=z.length):over z 0 ys=ys:=by
 unfold over;rw[afh,aev,adW,aez (by omega),aed]
section
variable {W w:World} {L:LH} {b:OA} {n e:Nat} {xs:LV}
end
section
variable {W w:World} {L:LH}
end
namespace Dk
variable {D:Go.bC.ay}
open Go.bC.ay (last put pad)
def N6(h:D.arm=0):D.qP=false:=by simp[Go.bC.ay.qP,h]
def Sg(h:D.arm=0):D.tick.arm=0:=by simp[Go.bC.ay.tick,h]
def DE(h:D.arm=0)(i:Int)(s:BA):D.write i s=if ¬D.is i\/128<s.size then(D,1) else({Go.bC.ay.tick D with later:=D.later++[(i,pad s)]},0):=by
 unfold Go.bC.ay.write;rw[N6 h];rfl
def Aj(h:D.arm=0)(i:Int)(s:BA):(D.write i s).1.arm=0:=by
 rw[DE h];split
 ·exact h
 ·exact Sg h
def I4(h:D.arm=0):D.sync=({D.tick with safe:=D.later.foldl put D.safe,later:=[]},0):=by
 unfold Go.bC.ay.sync;rw[N6 h];rfl
def o5(l:List (Int×BA))(p:Int×BA)(i:Int):last (l++[p]) i=if p.1=i then some p.2 else last l i:=by
 unfold last;rw[List.reverse_append];simp only[afn,List.reverse_nil,aev,List.singleton_append,List.find?_cons];by_cases h:p.1=i
 ·simp[h]
 ·have:(p.1==i)=false:=by simp[h]
  rw[this,if_neg h]
def A4(h:D.arm=0)(n i:Int)(s:BA):(D.write n s).1.now i=if(D.is n/\s.size<=128)/\n=i then pad s else D.now i:=by
 rw[DE h];by_cases hw: ¬D.is n\/128<s.size
 ·rw[if_pos hw,if_neg];rintro⟨⟨h1,h2⟩,_⟩;rcases hw with hw|hw
  ·exact hw h1
  ·omega
 ·rw[if_neg hw];have h1:D.is n:=by
   by_cases hh:D.is n
   ·exact hh
   ·exact absurd (.inl hh) hw
  have h2:s.size<=128:=by
   by_cases hh:s.size<=128
   ·exact hh
   ·exact absurd (.inr (by omega)) hw
  simp only[Go.bC.ay.now,Go.bC.ay.tick,o5];by_cases ZD:n=i
  ·rw[if_pos ZD,if_pos ⟨⟨h1,h2⟩,ZD⟩];rfl
  ·rw[if_neg ZD,if_neg (λhh=>ZD hh.2)]
def uD(l:List (Int×BA))(p:Int×BA)(i:Int):last (p::l) i=(last l i).or (if p.1=i then some p.2 else none):=by
 unfold last;rw[afn,List.find?_append];by_cases h:p.1=i
 ·cases List.find? (λp=>p.1==i) l.reverse<;>simp[h]
 ·have:(p.1==i)=false:=by simp[h]
  cases List.find? (λp=>p.1==i) l.reverse<;>simp[h,this]
def va{i:Int}(hi:0<=i):∀(l:List (Int×BA))(safe:List BA),i<safe.length->(∀p∈l,0<=p.1)->(l.foldl put safe).getD i.toNat .empty=(last l i).getD (safe.getD i.toNat .empty):=by
 intro l
 induction l with
 |nil=>intro safe _ _;rfl
 |cons p l ih=>
  intro safe hs hp;rw[List.foldl_cons,uD,ih _ (by simp[put];exact hs) (λq hq=>hp q (aeW _ hq))];have hp0:=hp p (by simp);have hlen:i.toNat<safe.length:=by omega
  have e:(put safe p).getD i.toNat .empty=if p.1=i then p.2 else safe.getD i.toNat .empty:=by
   unfold put;by_cases Hc:p.1=i
   ·rw[if_pos Hc,Hc,aeV,List.getElem?_set_self hlen];rfl
   ·rw[if_neg Hc,aeV,List.getElem?_set_ne (by omega),<-aeV]
  rw[e];cases last l i with
  |some x=>rfl
  |none=>by_cases Hc:p.1=i<;>simp[Hc]
def KP(h:D.arm=0)(fJ:D.Ok){i:Int}(hi:D.is i):D.sync.1.now i=D.now i:=by
 rw[I4 h];have:=va hi.1 D.later D.safe hi.2 (λp hp=>(fJ.later p hp).2.1);simp only[Go.bC.ay.now,last,List.reverse_nil,List.find?_nil,Option.map_none,aeK];exact this
def Fh:D.sync.1.safe.length=D.safe.length/\D.sync.1.later.length<=D.later.length:=by
 unfold Go.bC.ay.sync;split
 ·exact⟨rfl,adY _⟩
 ·exact⟨ky _ _,ad2 _⟩
def Kj(h:D.arm=0):D.sync.1.arm=0:=by rw[I4 h];exact Sg h
end Dk
end Go.Sep
namespace Go.Sep
open Go.Den Go.RowKit Go.Prog Go.bC
def bs(l:List UInt8):BA:=⟨l.toArray⟩
def bw(l:List UInt8):(bs l).size=l.length:=rfl
def JY(s:BA):bs s.data.toList=s:=rfl
def rz(x:UInt8):Value:=.int .u8 (x.toNat:Int)
def byteOf(k:IntKind)(n:Int)(i:Nat):UInt8:=UInt8.ofNat (IntKind.u8.wrap (shr k n (8* (i:Int)))).toNat
def le(k:IntKind)(w:Nat)(n:Int):List UInt8:=(afo w).map (byteOf k n)
def az(k:IntKind)(w:Nat)(n:Int):(le k w n).length=w:=by simp[le]
def vj(n:Int):0<=IntKind.u8.wrap n/\IntKind.u8.wrap n<256:=by
 simp[IntKind.wrap,IntKind.bits,IntKind.signed];omega
def uq{n:Int}(h:0<=n/\n<256):rz (UInt8.ofNat n.toNat)=.int .u8 n:=by
 unfold rz
 congr 1
 have:n.toNat<256:=by omega
 rw[UInt8.toNat_ofNat_of_lt' (by exact this)];omega
def za(l:List UInt8):bytesOf (l.map rz)=l:=by
 unfold bytesOf;rw[aft]
 conv=>rhs;rw[<-List.map_id l]
 refine ae9 λx _=>?_;simp[rz]
def strCells_eq(s:BA):strCells s=s.data.toList.map rz:=rfl
def buf(p:Nat)(l:List UInt8):HP:=SY λ(v:OA×Nat)=>sep (pt p [.l v.1 l.length v.2]) (own v.1 l.length v.2 1 (l.map rz))
section
variable {W w:World} {L:LH} {k p:Nat} {l:List UInt8}
def BJ(h:St W w L)(hk:L[k]?=some (buf p l)):∃b c,St W w (pt p [.l b l.length c]::own b l.length c 1 (l.map rz)::L.eraseIdx k):=by
 obtain⟨⟨b,c⟩,h1⟩:=(h.focus hk).ex;exact⟨b,c,h1.split⟩
def pU{b:OA}{c n:Nat}{A:HP}(hk:L[k]?=some A)(hn:n=l.length)(h:St W w (pt p [.l b n c]::own b n c 1 (l.map rz)::L.eraseIdx k)):St W w (L.set k (buf p l)):=by
 subst hn;refine St.nB (A:=A) ?_ hk;exact St.nJ (b,c) (St.join h)
def RK{b:OA}{n c:Nat}{K:BA->WK}(h:St W w L)(hk:L[k]?=some (own b n c 1 (l.map rz)))(hK:K (bs l) w):RL b n K w:=by
 have hl:=(h.lD hk).1;rw[aei,afp] at hl;have vG:=J9 h hk;refine⟨λhb=>?_,λa ha=>⟨l.map rz,by rw[aei];exact hl,vG.1.2 a ha,λv hv=>?_,?_⟩⟩
 ·have:n=0:=vG.2 hb;have L6:l=[]:=List.length_eq_zero_iff.1 (by omega);subst L6;exact hK
 ·obtain⟨x,_,rfl⟩:=aeC.1 hv;exact⟨_,rfl⟩
 ·rw[za];exact hK
def OD{r n:Nat}{K:BA->WK}(h:St W w L)(hk:L[k]?=some (pt r (l.map rz)))(hn:n=l.length)(hK:K (bs l) w):RL (some ⟨r,0,none⟩) n K w:=by
 refine⟨λhb=>(by cases hb),λa ha=>⟨l.map rz,by rw[aei,hn],?_,λv hv=>?_,?_⟩⟩
 ·cases ha
  exact se h hk λj v hj=>by rw[adW];exact hj
 ·obtain⟨x,_,rfl⟩:=aeC.1 hv;exact⟨_,rfl⟩
 ·rw[za];exact hK
def gw{m n:Int}{K:VK}(h:St W w L)(hk:L[k]?=some (buf p l))(hl:l.length<1099511627776)
 (hK:∀w',St W w' (L.set k (buf p (l++le .i64 (min2 (max2 m 1) 8).toNat n)))->K (.tuple ⟨[]⟩) w'):aE (some ⟨p,0,none⟩) m n K w:=by
 have hm:1<=min2 (max2 m 1) 8/\min2 (max2 m 1) 8<=8:=by unfold min2 max2;split<;>split<;>omega
 unfold aE;generalize min2 (max2 m 1) 8=q at *;obtain⟨b,c,hs⟩:=BJ h hk;refine⟨λus w'=>∃(j:Nat)(b:OA)(c:Nat),us=[.i q,.i j]/\(j:Int)<=q/\St W w' (pt p [.l b (l++le .i64 j n).length c]::own b (l++le .i64 j n).length c 1 ((l++le .i64 j n).map rz)::L.eraseIdx k),
  λus _=>match us with|[_,.int _ j]=>(q-j).toNat|_=>0,⟨0,b,c,rfl,by omega,?_⟩,?_⟩
 ·have e:l++le .i64 0 n=l:=by simp[le]
  rw[e];exact hs
 rintro n3 n4 w2 ⟨j,b,c,he,hj,hs⟩;cases he
 refine de (λh0=>?_) (λh0=>?_)
 ·refine jG hs λw hs=>?_;simp only[nz,adQ,adR];refine bJ (k:=0) hs rfl rfl ?_;simp only[nz,adQ,adR];have e8:adP.wrap (8* (j:Int))=8* (j:Int):=aw (by omega);rw[e8];refine⟨by omega,?_⟩;have hb8:Value.int .u8 (IntKind.u8.wrap (shr .i64 n (8* (j:Int))))=rz (byteOf .i64 n j):=by
   unfold byteOf;rw[uq (vj _)]
  rw[hb8];refine fH hs λr w hs=>?_;refine gB (k:=1) hs rfl rfl ?_;have hlen:(l++le .i64 j n).length=l.length+j:=by rw[adV,az]
  refine pX (k:=2) (ys:=[rz (byteOf .i64 n j)]) hs rfl (BS (k':=0) hs rfl rfl λj v hj=>by rw[adW];exact hj) (by simp) rfl (by omega) (by omega) (by simp[Value.oneCell',rz]) λb' c' w hs=>?_;simp only[nz,adQ,adR] at hs⊢;refine l7 (k:=1) hs rfl (adZ rfl) rfl λw hs=>?_;simp only[nz,adQ,adR] at hs;have e5:=lY j;rw[e5];refine⟨⟨j+1,b',c',rfl,by omega,?_⟩,by omega⟩;have e6:l++le .i64 (j+1) n=(l++le .i64 j n)++[byteOf .i64 n j]:=by
   unfold le;rw[List.range_succ,aep,ad0];rfl
  rw[e6,adV,aep];exact hs.drop
 ·have Gh:(j:Int)=q:=by omega
  refine hK _ ?_;have:q.toNat=j:=by omega
  rw[this];exact pU hk rfl hs
def mR{s:BA}{K:VK}(h:St W w L)(hk:L[k]?=some (buf p l))(hl:l.length+s.size<1099511627776)
 (hK:∀w',St W w' (L.set k (buf p (l++s.data.toList)))->K (.tuple ⟨[]⟩) w'):ix (some ⟨p,0,none⟩) s K w:=by
 unfold ix;obtain⟨b,c,hs⟩:=BJ h hk;simp only[nz,adQ,adR];refine bJ (k:=0) hs rfl rfl ?_;simp only[nz,adQ,adR];refine BO (k:=1) hs rfl (by omega) λb' c' w hs=>?_;simp only[nz,adQ,adR] at hs⊢;refine l7 (k:=0) hs rfl (adZ rfl) rfl λw hs=>?_;simp only[nz,adQ,adR] at hs;refine hK w (pU (b:=b') (c:=c') (n:=l.length+s.size) hk (by rw[adV];rfl) ?_);rw[aep,<-strCells_eq];exact hs
def ji{K:VK}(h:St W w L)(hk:L[k]?=some (buf p l))(hK:K (.string (bs l)) w):bW (some ⟨p,0,none⟩) K w:=by
 unfold bW;obtain⟨b,c,hs⟩:=BJ h hk;simp only[nz,adQ,adR];refine bJ (k:=0) hs rfl rfl ?_;simp only[nz,adQ,adR];exact RK (k:=1) hs rfl hK
def Ol(n:Int):Nat->Int
 |0=>n
 |j+1=>bB .u32 .xor (shr .u32 (Ol n j) 1) (bB .u32 .and 2197175160 (IntKind.u32.wrap (0-(bB .u32 .and (Ol n j) 1))))
def Ru(n:Int)(c:UInt8):Int:=Ol (bB .u32 .xor n (IntKind.u32.wrap (c.toNat:Int))) 8
def Oj(n:Int)(l:List UInt8):Int:=l.foldl Ru n
def oW(n:Int)(l:List UInt8):Int:=bB .u32 .xor 4294967295 (Oj (bB .u32 .xor 4294967295 n) l)
def Xe(w w':World):Prop:=w'=w
def G0{n:Int}{s:BA}{K:VK}(hs:s.size<1099511627776)(hK:K (.int .u32 (oW n s.data.toList)) w):qt n s K w:=by
 unfold qt;refine⟨λus w'=>∃j:Nat,us=[.int .u32 0,.int .u32 (Oj (bB .u32 .xor 4294967295 n) (s.data.toList.take j)),.i s.size,.i j]/\j<=s.size/\Xe w w',
  λus _=>match us with|[_,_,_,.int _ j]=>s.size-j.toNat|_=>0,⟨0,rfl,ad2 _,rfl⟩,?_⟩
 rintro n2 n3 n4 n5 w2 ⟨j,he,hj,hw⟩;obtain rfl:w2=w:=hw;cases he
 have hlen:s.data.toList.length=s.size:=rfl;generalize hb:decide ((j:Int)<(s.size:Int))=b;cases b
 ·have gr:=of_decide_eq_false hb;rw[ch];have:j=s.size:=by omega
  subst this;rw[aea (by omega)];exact hK
 ·have aZ:=of_decide_eq_true hb;rw[gW];have NQ:j<s.data.toList.length:=by omega
  refine⟨s.data.toList[j],⟨by omega,by simp[NQ]⟩,?_⟩;generalize hc:s.data.toList[j]=c;generalize hx:Oj (bB .u32 .xor 4294967295 n) (s.data.toList.take j)=x;refine⟨λus w'=>∃i:Nat,us=[.int .u32 0,.int .u32 (Ol (bB .u32 .xor x (IntKind.u32.wrap (c.toNat:Int))) i),.i j,.i s.size,.i j,.bool true,.i j,.int .u32 x,.string s,.i j,.int .u8 (c.toNat:Int),.int .u32 (IntKind.u32.wrap (c.toNat:Int)),.int .u32 (bB .u32 .xor x (IntKind.u32.wrap (c.toNat:Int))),.i i]/\i<=8/\Xe w2 w',
   λus _=>match us with|[_,_,_,_,_,_,_,_,_,_,_,_,_,.int _ i]=>8-i.toNat|_=>0,⟨0,rfl,ad2 _,rfl⟩,?_⟩
  rintro n6 n7 n8 n9 Zs b1 T3 Sv s2 L0 V2 V1 uA n17 w4 ⟨i,he,hi,hw⟩;obtain rfl:w4=w2:=hw;cases he
  generalize tY:decide ((i:Int)<8)=b2;cases b2
  ·have gr:=of_decide_eq_false tY;rw[ch];have hi8:i=8:=by omega
   subst hi8;have e5:=lY j;rw[e5];refine⟨⟨j+1,?_,by omega,rfl⟩,by dsimp only;omega⟩;have e6:Oj (bB .u32 .xor 4294967295 n) (s.data.toList.take (j+1))=Ol (bB .u32 .xor x (IntKind.u32.wrap (c.toNat:Int))) 8:=by
    rw[aeM NQ];unfold Oj at hx⊢;rw[List.foldl_append,hx,hc];rfl
   rw[e6]
  ·have rO:=of_decide_eq_true tY;rw[gW];refine⟨by decide,?_⟩;have e5:=lY i;rw[e5];exact⟨⟨i+1,rfl,by omega,rfl⟩,by dsimp only;omega⟩
def rj(n:Int):List UInt8:=le .u32 4 n
def ui{n:Int}{K:VK}(h:St W w L)(hn:0<=n/\n<4294967296)(hK:∀w',St W w' L->K (.string (bs (rj n))) w'):nN n K w:=by
 unfold nN;refine⟨by decide,by decide,by decide,⟨rfl,rfl,rfl,rfl,trivial⟩,fH h λr w hs=>?_⟩;have e0:Value.int .u8 (IntKind.u8.wrap n)=rz (byteOf .u32 n 0):=by
  unfold byteOf;rw[uq (vj _)];have:shr .u32 n (8* ((0:Nat):Int))=n:=by simp[shr]
  rw[this]
 have e:∀i:Nat,Value.int .u8 (IntKind.u8.wrap (shr .u32 n (8* (i:Int))))=rz (byteOf .u32 n i):=λi=>by
  unfold byteOf;rw[uq (vj _)]
 have e1:=e 1;have e2:=e 2;have e3:=e 3;have yV:[Value.int .u8 (IntKind.u8.wrap n),.int .u8 (IntKind.u8.wrap (shr .u32 n 8)),.int .u8 (IntKind.u8.wrap (shr .u32 n 16)),.int .u8 (IntKind.u8.wrap (shr .u32 n 24))]=(rj n).map rz:=by
  rw[e0,show(8:Int)=8* ((1:Nat):Int) from rfl,show(16:Int)=8* ((2:Nat):Int) from rfl,show(24:Int)=8* ((3:Nat):Int) from rfl,e1,e2,e3]
  rfl
 rw[yV] at hs;exact OD (k:=0) hs rfl rfl (hK w hs.drop)
end
def Good(n i:Int)(s:BA):Prop:=1<=n/\n<=1152921504606846976/\0<=i/\i<4096/\s.size<=104
instance(n i:Int)(s:BA):Decidable (Good n i s):=by unfold Good;infer_instance
def pre(n i:Int)(s:BA):List UInt8:=le .i64 8 n++le .i64 2 i++le .i64 2 s.size++s.data.toList++ad8 (104-s.size) 0
def iT(n i:Int)(s:BA):List UInt8:=pre n i s++rj (oW 0 (pre n i s))++le .i64 8 n
def leaf(n i:Int)(s:BA):BA:=if Good n i s then bs (iT n i s) else .empty
def mV{n i:Int}{s:BA}(h:s.size<=104):(pre n i s).length=116:=by
 have:s.data.toList.length=s.size:=rfl;simp only[pre,adV,az,aeZ];omega
def sE{n i:Int}{s:BA}(h:s.size<=104):(iT n i s).length=128:=by
 simp only[iT,adV,az,mV h,rj]
def pR{n i:Int}{s:BA}(h:Good n i s):(leaf n i s).size=128:=by
 unfold leaf;rw[if_pos h,bw,sE h.2.2.2.2]
def yz(n:Int):0<=IntKind.u32.wrap n/\IntKind.u32.wrap n<4294967296:=by
 simp[IntKind.wrap,IntKind.bits,IntKind.signed];omega
section
variable {W w:World} {L:LH} {k d:Nat} {D:ay}
def Dl{n i:Int}{s:BA}{K:VK}(h:St W w L)(hK:∀w',St W w' L->K (.bool (decide (Good n i s))) w'):qd [.i n,.i i,.string s] K w:=by
 unfold qd;refine fH h λr w hs=>?_;have hh:=hK w hs.drop;simp only[nz,adQ,adR];refine bJ (k:=0) hs rfl rfl ?_;simp only[nz,adQ,adR];refine de (λh1=>?_) (λh1=>?_)
 ·refine bJ (k:=0) hs rfl rfl ?_;simp only[nz,adQ,adR];refine de (λh2=>?_) (λh2=>?_)
  ·refine bJ (k:=0) hs rfl rfl ?_;simp only[nz,adQ,adR];refine de (λh3=>?_) (λh3=>?_)
   ·refine bJ (k:=0) hs rfl rfl ?_;simp only[nz,adQ,adR];refine de (λh4=>?_) (λh4=>?_)
    ·refine bJ (k:=0) hs rfl rfl ?_;simp only[nz,adQ,adR];have:decide ((s.size:Int)<=104)=decide (Good n i s):=by
      rw[decide_eq_decide];unfold Good;omega
     rw[this];exact hh
    ·have:decide (Good n i s)=false:=decide_eq_false (by unfold Good;omega);rw[this] at hh;exact hh
   ·have:decide (Good n i s)=false:=decide_eq_false (by unfold Good;omega);rw[this] at hh;exact hh
  ·have:decide (Good n i s)=false:=decide_eq_false (by unfold Good;omega);rw[this] at hh;exact hh
 ·have:decide (Good n i s)=false:=decide_eq_false (by unfold Good;omega);rw[this] at hh;exact hh
def IM{n i:Int}{s:BA}{K:VK}(h:St W w L)(hK:∀w',St W w' L->K (.tuple ⟨[.string (leaf n i s),.i (if Good n i s then 0 else 1)]⟩) w'):
 ng [.i n,.i i,.string s] K w:=by
 unfold ng;refine fH h λr w hs=>?_;refine fZ (k:=0) (xs:=[.i n,.i i,.string s]) hs rfl rfl (λj v hj=>by rw[adW];exact hj) ?_;refine Dl hs λw hs=>?_;simp only[nz,adQ,adR];by_cases hg:Good n i s
 ·have nV:=hg.2.2.2.2;have e0:decide (Good n i s)=true:=decide_eq_true hg;unfold leaf at hK;rw[if_pos hg,if_pos hg] at hK;rw[e0];simp only[nz,adQ,adR];refine fH hs λp w hs=>?_;have hs:St W w (buf p []::pt r [.i n,.i i,.string s]::L):=by
   have h2:=(hs.push (A:=own none 0 0 1 (([]:List UInt8).map rz)) (oK 1)).perm (aej.swap _ _ _);exact pU (k:=0) (L:=buf p []::pt r [.i n,.i i,.string s]::L) (A:=buf p []) rfl rfl h2
  have hd:s.data.toList.length=s.size:=rfl;refine bJ (k:=1) hs rfl rfl ?_;simp only[nz,adQ,adR];refine gw (k:=0) hs rfl (by simp) λw hs=>?_;rw[show(min2 (max2 8 1) 8).toNat=8 from rfl] at hs;simp only[nz,adQ,adR] at hs⊢;refine bJ (k:=1) hs rfl rfl ?_;simp only[nz,adQ,adR];refine gw (k:=0) hs rfl (by simp only[adV,az,aen];omega) λw hs=>?_;rw[show(min2 (max2 2 1) 8).toNat=2 from rfl] at hs;simp only[nz,adQ,adR] at hs⊢;refine bJ (k:=1) hs rfl rfl ?_;simp only[nz,adQ,adR];refine gw (k:=0) hs rfl (by simp only[adV,az,aen];omega) λw hs=>?_;rw[show(min2 (max2 2 1) 8).toNat=2 from rfl] at hs;simp only[nz,adQ,adR] at hs⊢;refine bJ (k:=1) hs rfl rfl ?_;simp only[nz,adQ,adR];refine mR (k:=0) hs rfl (by simp only[adV,az,aen];omega) λw hs=>?_;simp only[nz,adQ,adR] at hs⊢;refine bJ (k:=1) hs rfl rfl ?_;simp only[nz,adQ,adR];have ew:adP.wrap (104-(s.size:Int))=((104-s.size:Nat):Int):=by rw[aw (by omega)];omega
  rw[ew];refine ze hs (by omega) (by rw[adT];have:(⟨#[0]⟩:BA).size=1:=rfl;rw[this];omega) (by omega) λw hs=>?_;have er:(⟨(AI (⟨#[0]⟩:BA).data.toList (((104-s.size:Nat):Int).toNat)).toArray⟩:BA)=bs (ad8 (104-s.size) 0):=by
   rw[adT];show bs (AI [0] (104-s.size))=_;rw[AH]
  rw[er];simp only[nz,adQ,adR];refine mR (k:=0) hs rfl (by rw[bw];simp only[adV,az,aen,aeZ];omega) λw hs=>?_;simp only[nz,adQ,adR] at hs⊢;have ep:[]++le .i64 8 n++le .i64 2 i++le .i64 2 s.size++s.data.toList++(bs (ad8 (104-s.size) 0)).data.toList=pre n i s:=rfl;rw[ep] at hs;refine ji (k:=0) hs rfl ?_;simp only[nz,adQ,adR];refine G0 (by rw[bw,mV nV];omega) ?_;simp only[nz,adQ,adR];refine ui hs (yz _) λw hs=>?_;simp only[nz,adQ,adR];refine mR (k:=0) hs rfl (by rw[bw,mV nV];simp only[rj,az];omega) λw hs=>?_;simp only[nz,adQ,adR] at hs⊢;refine bJ (k:=1) hs rfl rfl ?_;simp only[nz,adQ,adR];have ep2:pre n i s++(bs (rj (oW 0 (bs (pre n i s)).data.toList))).data.toList=pre n i s++rj (oW 0 (pre n i s)):=rfl;rw[ep2] at hs;refine gw (k:=0) hs rfl (by simp only[adV,rj,az,mV nV];omega) λw hs=>?_;rw[show(min2 (max2 8 1) 8).toNat=8 from rfl] at hs;simp only[nz,adQ,adR] at hs⊢;refine ji (k:=0) hs rfl ?_;simp only[nz,adQ,adR];exact hK w hs.drop.drop
 ·have e0:decide (Good n i s)=false:=decide_eq_false hg;unfold leaf at hK;rw[if_neg hg,if_neg hg] at hK;rw[e0];simp only[nz,adQ,adR];exact hK w hs.drop
def dA(n:Nat):Nat:=if n=0 then 1 else(n+103)/104
def nL(n:Nat):1<=dA n:=by unfold dA;split<;>omega
def Ir{n j:Nat}(hj:1<=j):104* j<n↔j<dA n:=by unfold dA;split<;>omega
def m9{n:Nat}{K:VK}(hn:n<1099511627776000)(hK:K (.i (dA n)) w):iS n K w:=by
 unfold iS;refine⟨by decide,by decide,?_⟩;have e0:max2 (n:Int) 0=n:=by unfold max2;split<;>omega
 have e1:(n:Int).tdiv 104=((n/104:Nat):Int):=by rw[Int.tdiv_eq_ediv_of_nonneg (by omega)];rfl
 have e2:(n:Int).tmod 104=((n%104:Nat):Int):=by rw[aeA (by omega)];rfl
 rw[e0,e1,e2];have e3:max2 (adP.wrap (adP.wrap ((n/104:Nat):Int)+min2 ((n%104:Nat):Int) 1)) 1=(dA n:Int):=by
  have h1:adP.wrap ((n/104:Nat):Int)=((n/104:Nat):Int):=aw (by omega);rw[h1];have h2:min2 ((n%104:Nat):Int) 1=((min (n%104) 1:Nat):Int):=by unfold min2;split<;>omega
  rw[h2,aw (by omega)];unfold max2 dA;split<;>split<;>omega
 rw[e3];exact hK
end
def gN{x y:BA}(h:x.data.toList=y.data.toList):x=y:=ByteArray.ext (afu h)
def extract_toList(s:BA)(a b:Nat):(s.extract a b).data.toList=(s.data.toList.drop a).take (b-a):=by
 rw[ByteArray.data_extract,Array.toList_extract,List.extract_eq_take_drop]
def cy(s:BA):s.data.toList.length=s.size:=rfl
def part(s:BA)(i:Nat):BA:=s.extract (104* i) (104* (i+1))
def jy(s:BA)(i:Nat):(part s i).size<=104:=by unfold part;rw[rC];omega
def Ku(s:BA)(i m:Nat)(hm:m=min (s.size-104* i) 104):(s.extract (104* i) s.size).extract 0 m=part s i:=by
 apply gN;unfold part;rw[extract_toList,extract_toList,extract_toList,ae1,afq,List.take_eq_take_iff,ad4,cy];omega
def Kt(s:BA)(i m:Nat)(hm:m=min (s.size-104* i) 104):(s.extract (104* i) s.size).extract m (s.extract (104* i) s.size).size=s.extract (104* (i+1)) s.size:=by
 apply gN;rw[extract_toList,extract_toList,extract_toList,rC];rw[aea (by rw[ad4,adX,ad4,cy];omega),aea (by rw[ad4,cy];omega),aea (by rw[ad4,cy];omega),ae2];by_cases h:104<=s.size-104* i
 ·congr 1;omega
 ·rw[aez (by rw[cy];omega),aez (by rw[cy];omega)]
def lj(at' number:Int)(s:BA):ay->Nat->Nat->ay×Int
 |D,_,0=>(D,0)
 |D,i,n+1=>if(D.write (at'+i) (leaf number i (part s i))).2≠0 then D.write (at'+i) (leaf number i (part s i)) else lj at' number s (D.write (at'+i) (leaf number i (part s i))).1 (i+1) n
def lay(D:ay)(at' to number:Int)(s:BA):ay×Int:=
 if number<1\/1152921504606846976<number\/at'<0\/(D.safe.length:Int)<to\/to<at' then(D,1)
 else if to-at'<(dA s.size:Int) then(D,3) else lj at' number s D 0 (dA s.size)
def wR{at' number:Int}{s:BA}:∀(n i:Nat) {D:ay},D.Ok->D.later.length+n<1099511627776->(lj at' number s D i n).1.Ok/\(lj at' number s D i n).1.safe=D.safe/\(lj at' number s D i n).1.later.length<=D.later.length+n
 |0,i,D,h,hl=>⟨h,rfl,adY _⟩
 |n+1,i,D,h,hl=>by
  have h1:=oa D (at'+i) (leaf number i (part s i));have h2:=EZ h (at'+i) (leaf number i (part s i)) (by omega);unfold lj;split
  ·exact⟨h2,h1.1,by omega⟩
  ·have:=wR (at':=at') (number:=number) (s:=s) n (i+1) h2 (by omega);exact⟨this.1,this.2.1.trans h1.1,by omega⟩
def D8{D:ay}{at' to number:Int}{s:BA}(h:D.Ok)(hl:D.later.length+dA s.size<1099511627776):(lay D at' to number s).1.Ok/\(lay D at' to number s).1.safe=D.safe:=by
 unfold lay;split
 ·exact⟨h,rfl⟩
 ·split
  ·exact⟨h,rfl⟩
  ·have:=wR (at':=at') (number:=number) (s:=s) (dA s.size) 0 h hl;exact⟨this.1,this.2.1⟩
section
variable {W w:World} {L:LH} {k d:Nat} {D:ay}
def pk{at' to number:Int}{s:BA}{b:Bool}{K:VK}(h:St W w L)(hk:L[k]?=some (dW d D))(fJ:D.Ok)(hl:D.later.length+4097<1099511627776)(hs:s.size<=reachBytes)
 (hb:b=decide (number<1\/1152921504606846976<number\/at'<0\/(D.safe.length:Int)<to\/to<at'))
 (hK:∀w',St W w' (L.set k (dW d (lay D at' to number s).1))->K (.i (lay D at' to number s).2) w'):ic.j1 K s to at' number (some ⟨d,0,none⟩) b w:=by
 have nV:s.size<=140737488351232:=hs;have rP:=fJ.lH;unfold ic.j1;unfold lay at hK;refine pC (λh1=>?_) (λh1=>?_)
 ·rw[hb] at h1;rw[if_pos (of_decide_eq_true h1)] at hK;refine hK w ?_;rw[jJ hk];exact h
 rw[hb] at h1;have uW:=of_decide_eq_false h1;rw[if_neg uW] at hK;refine m9 (by omega) ?_;simp only[nz,adQ,adR];have ew:adP.wrap (to-at')=to-at':=aw (by omega);rw[ew];refine de (λh2=>?_) (λh2=>?_)
 ·rw[if_pos (by omega)] at hK;refine hK w ?_;rw[jJ hk];exact h
 rw[if_neg (by omega)] at hK;have H6:dA s.size<=4096:=by omega
 refine⟨λus w'=>∃(j:Nat)(Dj:ay),us=[.string (s.extract (104* j) s.size),.i 0,.i j]/\j<=dA s.size/\Dj.Ok/\Dj.later.length<=D.later.length+j/\lj at' number s D 0 (dA s.size)=lj at' number s Dj j (dA s.size-j)/\St W w' (L.set k (dW d Dj)),
  λus _=>match us with|[_,_,.int _ j]=>dA s.size-j.toNat|_=>0,⟨0,D,?_,ad2 _,fJ,by omega,rfl,by rw[jJ hk];exact h⟩,?_⟩
 ·have:s.extract (104* 0) s.size=s:=by rw[Nat.mul_zero];exact ByteArray.extract_zero_size
  rw[this];rfl
 rintro s2 n5 n6 w2 ⟨j,Dj,he,hj,fJ,hlj,Uz,hs⟩;cases he
 have rl:(L.set k (dW d Dj))[k]?=some (dW d Dj):=fX hk;have uV:min2 ((s.extract (104* j) s.size).size:Int) 104=((min (s.size-104* j) 104:Nat):Int):=by
  rw[rC];unfold min2;split<;>omega
 have e5:=lY j;have ea:adP.wrap (at'+(j:Int))=at'+j:=aw (by omega);rw[uV,e5,ea,rC];have hex:∀X:WK,X w2->a8 (0<=((min (s.size-104* j) 104:Nat):Int)/\((min (s.size-104* j) 104:Nat):Int)<=((min s.size s.size-104* j:Nat):Int)) X w2:=λX hX=>⟨by omega,hX⟩;have step:j<dA s.size->∀w,St W w (L.set k (dW d (Dj.write (at'+j) (leaf number j (part s j))).1))->(Dj.write (at'+j) (leaf number j (part s j))).2≠0->K (.i (Dj.write (at'+j) (leaf number j (part s j))).2) w:=λL7 w hs gU=>by
  have e:lj at' number s Dj j (dA s.size-j)=Dj.write (at'+j) (leaf number j (part s j)):=by
   obtain⟨q,hq⟩:∃q,dA s.size-j=q+1:=⟨dA s.size-j-1,by omega⟩;rw[hq,lj,if_pos gU]
  rw[Uz,e] at hK;exact hK w hs
 have fin:j<dA s.size->∀w,St W w (L.set k (dW d (Dj.write (at'+j) (leaf number j (part s j))).1))->(Dj.write (at'+j) (leaf number j (part s j))).2=0->
  ∃(j':Nat)(R1:ay),[Value.string (s.extract (104* (j+1)) s.size),.i 0,.i ((j+1:Nat):Int)]=[.string (s.extract (104* j') s.size),.i 0,.i j']/\j'<=dA s.size/\R1.Ok/\R1.later.length<=D.later.length+j'/\lj at' number s D 0 (dA s.size)=lj at' number s R1 j' (dA s.size-j')/\St W w (L.set k (dW d R1)):=λL7 w hs hz=>by
  have hw:=oa Dj (at'+j) (leaf number j (part s j));refine⟨j+1,_,rfl,by omega,EZ fJ _ _ (by omega),by omega,?_,hs⟩;rw[Uz];obtain⟨q,hq⟩:∃q,dA s.size-j=q+1:=⟨dA s.size-j-1,by omega⟩;have QV:dA s.size-(j+1)=q:=by omega
  rw[hq,QV,lj,if_neg (by rw[hz];exact λhh=>hh rfl)]
 have F8:=nL s.size;have body:j<dA s.size->jb (s.extract (104* j) s.size) none (some ((min (s.size-104* j) 104:Nat):Int)) (λs3=>
  a8 True (
  ng [.i number,.i j,.string s3] (x2 λv1 v2=>(xS λs4=>
  (xI .i64 λn7=>
  cI (some ⟨d,0,none⟩) (at'+j) s4 (xI .i64 λn8=>
  br (n8 !=0) (
  K (.i n8)) (
  jb (s.extract (104* j) s.size) (some ((min (s.size-104* j) 104:Nat):Int)) none (λs5=>λw3=>
   (∃(j':Nat)(R1:ay),[Value.string s5,.i 0,.i ((j+1:Nat):Int)]=[.string (s.extract (104* j') s.size),.i 0,.i j']/\j'<=dA s.size/\R1.Ok/\R1.later.length<=D.later.length+j'/\lj at' number s D 0 (dA s.size)=lj at' number s R1 j' (dA s.size-j')/\St W w3 (L.set k (dW d R1)))/\
   dA s.size-((j+1:Nat):Int).toNat<dA s.size-((j:Nat):Int).toNat)))) v2) v1))) w2:=λL7=>by
  unfold jb;dsimp only;refine⟨⟨by omega,by rw[rC];omega⟩,trivial,?_⟩;rw[adT,Ku s j _ rfl];refine IM hs λw hs=>?_;simp only[nz,adQ,adR];refine zB hs rl fJ λw hs=>?_;rw[ae6] at hs;simp only[nz,adQ,adR];refine qu (λgU=>?_) (λhz=>?_)
  ·exact step L7 w hs gU
  ·refine⟨⟨by omega,by rw[rC];omega⟩,?_⟩;rw[Kt s j _ rfl];exact⟨fin L7 w hs hz,by omega⟩
 refine GN (λXJ=>body (by omega)) (λXJ=>?_);refine de (λJO=>?_) (λhle=>?_)
 ·have hc:=Ir (n:=s.size) (j:=j) (by omega);exact body (by omega)
 ·have hc:=Ir (n:=s.size) (j:=j) (by omega);have L7:j=dA s.size:=by omega
  have e:lj at' number s Dj j (dA s.size-j)=(Dj,0):=by rw[L7,afe];rfl
  rw[Uz,e] at hK;exact hK _ hs
def BV{at' to number:Int}{s:BA}{K:VK}(h:St W w L)(hk:L[k]?=some (dW d D))(fJ:D.Ok)(hl:D.later.length+4097<1099511627776)(hs:s.size<=reachBytes)
 (hK:∀w',St W w' (L.set k (dW d (lay D at' to number s).1))->K (.i (lay D at' to number s).2) w'):ic (some ⟨d,0,none⟩) at' to number s K w:=by
 unfold ic;refine de (λh1=>?_) (λh1=>?_)
 ·exact pk h hk fJ hl hs (by symm;rw[decide_eq_true_eq];exact .inl h1) hK
 refine de (λh2=>?_) (λh2=>?_)
 ·exact pk h hk fJ hl hs (by symm;rw[decide_eq_true_eq];exact .inr (.inl h2)) hK
 refine de (λh3=>?_) (λh3=>?_)
 ·exact pk h hk fJ hl hs (by symm;rw[decide_eq_true_eq];exact .inr (.inr (.inl h3))) hK
 refine jV h hk ?_;simp only[nz,adQ,adR];refine de (λh4=>?_) (λh4=>?_)
 ·exact pk h hk fJ hl hs (by symm;rw[decide_eq_true_eq];exact .inr (.inr (.inr (.inl h4)))) hK
 ·refine pk h hk fJ hl hs ?_ hK;rw[decide_eq_decide];omega
end
section
variable {W w:World} {L:LH} {k:Nat}
def yU(w:World)(a:Addr)(n j:Nat)(hj:j≠a.block):(w.freeze a n).heap[j]?=w.heap[j]?:=by
 unfold World.freeze;split
 ·rfl
 ·simp only[Array.getElem?_modify];rw[if_neg (λh=>hj h.symm)]
def TN{s:BA}{K:Nat->Nat->WK}(h:St W w L)(hK:∀r c w',St W w' (own (some ⟨r,0,none⟩) s.size c 1 (s.data.toList.map rz)::L)->K r c w'):Zo s K w:=by
 intro c t hc;have h1:=h.drew.new ((s.data.toList.map rz)++ad8 (c-s.size) (.int .u8 0)) t;have nV:s.data.toList.length=s.size:=rfl;have UZ:((strCells s).toArray++ae0 (c-s.size) (.int .u8 0):Array Value)=⟨(s.data.toList.map rz)++ad8 (c-s.size) (.int .u8 0)⟩:=by
  apply afu;rw[Array.toList_append,Array.toList_replicate]
  rfl
 rw[UZ];generalize Px:(s.data.toList.map rz)++ad8 (c-s.size) (Value.int .u8 0)=cs at *;have hlen:cs.length=c:=by rw[<-Px];simp;omega
 have hhp:(w.drew.alloc (.cells ⟨cs⟩ t)).heap[w.heap.size]?=some (.cells ⟨cs⟩ t):=by
  show(w.heap.push (.cells ⟨cs⟩ t))[w.heap.size]?=_;rw[Array.getElem?_push_size]
 have yQ:view ((w.drew.alloc (.cells ⟨cs⟩ t)).freeze ⟨w.heap.size,c,none⟩ 1) w.heap.size=some (.cells cs):=by
  unfold view World.freeze;rw[if_neg (by decide)];simp only[Array.getElem?_modify,hhp];simp[hlen]
 have hb:=h1.1;have h2:=h1.aD (k:=0) rfl (w':=(w.drew.alloc (.cells ⟨cs⟩ t)).freeze ⟨w.heap.size,c,none⟩ 1) ?_ yQ (λj hj _=>yU _ _ _ _ hj)
 ·refine hK _ _ _ ?_;refine St.mono (A:=pt w.heap.size cs) h2 λg hp=>⟨by rw[aei];omega,.inr ⟨_,ad8 (c-s.size) (.int .u8 0),rfl,hc,by simp,?_⟩⟩;rw[Px];exact hp
 ·refine⟨?_,?_,?_,?_,λj hj=>?_⟩
  ·unfold World.freeze;rw[if_neg (by decide)];exact hb.os
  ·unfold World.freeze;rw[if_neg (by decide)];exact hb.tape
  ·unfold World.freeze;rw[if_neg (by decide)];exact hb.output
  ·unfold World.freeze;rw[if_neg (by decide)];simp only[Array.size_modify];exact hb.size
  ·rw[yU _ _ _ _ (by have:=h.1.size;simp only;omega)];exact hb.block j hj
def zn(r:Nat)(s:BA)(t:Bool):HP:=pt r [.string s,.bool t]
def nU(s:BA)(t:Bool)(n:Int):Bool:=t||decide (n<0\/(s.size:Int)<n)
def tO(s:BA)(t:Bool)(n:Int):BA:=if nU s t n then .empty else s.extract 0 n.toNat
def zo(s:BA)(t:Bool)(n:Int):BA:=if nU s t n then s else s.extract n.toNat s.size
def om{s:BA}{K:VK}(h:St W w L)(hK:∀r w',St W w' (zn r s false::L)->K (.p (some ⟨r,0,none⟩)) w'):lA s K w:=by
 unfold lA;exact⟨⟨rfl,trivial⟩,fH h λr w hs=>hK r w hs⟩
def BU{r:Nat}{s:BA}{t:Bool}{n:Int}{K:VK}(h:St W w L)(hk:L[k]?=some (zn r s t))(hK:∀w',St W w' (L.set k (zn r (zo s t n) (nU s t n)))->K (.string (tO s t n)) w'):cH (some ⟨r,0,none⟩) n K w:=by
 unfold cH;unfold zn at hk;simp only[nz,adQ,adR];refine bJ hk (h:=h) rfl ?_;simp only[nz,adQ,adR];have bad:nU s t n=true->∀w',St W w' (L.set k (pt r [.string s,.bool true]))->K (.string .empty) w':=λhb w' hs=>by
  have:=hK w';unfold zo tO at this;rw[if_pos hb,if_pos hb,hb] at this;exact this hs
 refine pC (λht=>?_) (λht=>?_)
 ·refine l7 h hk (adZ rfl) rfl λw hs=>?_;refine bJ hs (fX hk) rfl ?_;simp only[nz,adQ,adR] at hs⊢;exact bad (by simp[nU,ht]) w hs
 refine de (λhn=>?_) (λhn=>?_)
 ·refine l7 h hk (adZ rfl) rfl λw hs=>?_;refine bJ hs (fX hk) rfl ?_;simp only[nz,adQ,adR] at hs⊢;exact bad (by simp[nU,hn]) w hs
 refine bJ h hk rfl ?_;simp only[nz,adQ,adR];refine l7 h hk (adZ rfl) rfl λw hs=>?_;refine bJ hs (fX hk) rfl ?_;simp only[nz,adQ,adR] at hs⊢;refine de (λJO=>?_) (λJO=>?_)
 ·have:decide (n>(s.size:Int))=true:=decide_eq_true JO;rw[this] at hs;exact bad (by simp[nU];omega) w hs
 ·have e:decide (n>(s.size:Int))=false:=decide_eq_false JO;rw[e] at hs;have hb:nU s t n=false:=by
   unfold nU;rw[ht,decide_eq_false (by omega)];rfl
  have:=hK;unfold zo tO at this;rw[if_neg (by rw[hb];exact ael),if_neg (by rw[hb];exact ael),hb] at this;unfold cH.j1;simp only[nz,adQ,adR];refine bJ hs (fX hk) rfl ?_;unfold jb;simp only[nz,adQ,adR];refine⟨by omega,?_⟩;refine bJ hs (fX hk) rfl ?_;simp only[nz,adQ,adR];refine⟨by omega,?_⟩;refine l7 hs (fX hk) (adZ rfl) rfl λw hs=>?_;rw[ae6] at hs;exact this w hs
def jW:List UInt8->Nat
 |[]=>0
 |c::r=>c.toNat+256* jW r
def oG:∀l:List UInt8,jW l<256^l.length
 |[]=>by simp[jW]
 |c::r=>by
  have:=oG r;have hc:=c.toNat_lt;simp only[jW,ad',Nat.pow_succ];omega
def oT:∀(l:List UInt8)(c:UInt8),jW (l++[c])=jW l+c.toNat* 256^l.length
 |[],c=>by simp[jW]
 |d::r,c=>by
  simp only[ae5,jW,oT r c,ad',Nat.pow_succ];rw[Nat.mul_add,Nat.add_assoc]
  congr 2
  rw[afr 256,Nat.mul_assoc]
def wI(z:Int):BitVec.ofInt 64 (adP.wrap z)=BitVec.ofInt 64 z:=by
 apply BitVec.eq_of_toNat_eq;simp only[BitVec.toNat_ofInt];simp[IntKind.wrap,IntKind.bits,IntKind.signed];split<;>omega
def Qr{A j:Nat}{c:UInt8}(hj:j<8)(hA:A<256^j):bB .i64 .or (adP.wrap A) (shl .i64 (adP.wrap (c.toNat:Int)) (8* (j:Int)))=adP.wrap ((A+c.toNat* 256^j:Nat):Int):=by
 have hc:=c.toNat_lt;have K4:256^j=2^(8* j):=by rw[show(256:Nat)=2^8 from rfl,<-Nat.pow_mul]
 have aax:c.toNat* 2^(8* j)<2^64:=by
  have h1:c.toNat* 2^(8* j)<2^8* 2^(8* j):=Nat.mul_lt_mul_of_pos_right (by exact hc) (Nat.pow_pos (by decide));rw[<-Nat.pow_add] at h1;exact Nat.lt_of_lt_of_le h1 (aeJ (by decide) (by omega))
 have adO:A<2^64:=by
  rw[K4] at hA;exact Nat.lt_of_lt_of_le hA (aeJ (by decide) (by omega))
 have ew:adP.wrap (c.toNat:Int)=(c.toNat:Int):=aw (by omega);have esh:shl .i64 (c.toNat:Int) (8* (j:Int))=adP.wrap ((c.toNat* 2^(8* j):Nat):Int):=by
  unfold shl;have h1:(8* (j:Int)).toNat=8* j:=by omega
  have h2:min (8* j) adP.bits=8* j:=by show min (8* j) 64=_;omega
  rw[h1,h2]
  congr 1
 rw[ew,esh];show adP.wrap (((BitVec.ofInt 64 (adP.wrap A)|||BitVec.ofInt 64 (adP.wrap ((c.toNat* 2^(8* j):Nat):Int))).toNat:Nat):Int)=_;rw[wI,wI,BitVec.toNat_or];have t1:(BitVec.ofInt 64 (A:Int)).toNat=A:=by simp only[BitVec.toNat_ofInt];omega
 have t2:(BitVec.ofInt 64 ((c.toNat* 2^(8* j):Nat):Int)).toNat=c.toNat* 2^(8* j):=by
  generalize c.toNat* 2^(8* j)=z at *;simp only[BitVec.toNat_ofInt];omega
 rw[t1,t2,K4]
 congr 2
 rw[Nat.or_comm,<-Nat.shiftLeft_eq,<-Nat.shiftLeft_add_eq_or_of_lt (by rw[<-K4];exact hA),Nat.add_comm]
def jM(l:List UInt8):Int:=adP.wrap (jW l:Int)
def xu{r:Nat}{s:BA}{t:Bool}{n:Int}{K:VK}(h:St W w L)(hk:L[k]?=some (zn r s t))
 (hK:∀w',St W w' (L.set k (zn r (zo s t (min2 (max2 n 1) 8)) (nU s t (min2 (max2 n 1) 8))))->K (.i (jM (tO s t (min2 (max2 n 1) 8)).data.toList)) w'):aq (some ⟨r,0,none⟩) n K w:=by
 have hm:1<=min2 (max2 n 1) 8/\min2 (max2 n 1) 8<=8:=by unfold min2 max2;split<;>split<;>omega
 unfold aq;generalize min2 (max2 n 1) 8=m at *;refine BU h hk λw hs=>?_;simp only[nz,adQ,adR];have hv8:(tO s t m).size<=8:=by
  unfold tO;split
  ·exact ad2 _
  ·rw[rC];omega
 have hK':=hK;generalize tO s t m=v at *;refine TN hs λq c w hs=>?_;have hlen:v.data.toList.length=v.size:=rfl;refine⟨λus w'=>∃j:Nat,us=[.i 0,.i (jM (v.data.toList.take j)),.l (some ⟨q,0,none⟩) v.size c,.i v.size,.i j]/\j<=v.size/\Xe w w',
  λus _=>match us with|[_,_,_,_,.int _ j]=>v.size-j.toNat|_=>0,⟨0,rfl,ad2 _,rfl⟩,?_⟩
 rintro n2 n3 M5 VR P7 n4 n5 w2 ⟨j,he,hj,hw⟩;obtain rfl:w2=w:=hw;cases he
 generalize hb:decide ((j:Int)<(v.size:Int))=b;cases b
 ·have gr:=of_decide_eq_false hb;rw[ch];rw[aea (by omega)];exact hK' _ hs.drop
 ·have aZ:=of_decide_eq_true hb;rw[gW];have NQ:j<v.data.toList.length:=by omega
  refine sH (k:=0) hs rfl (by omega) λr' hr=>?_;cases hr
  refine ya (k:=0) hs rfl (v:=rz (v.data.toList[j])) (by rw[adT,afp,aeF,adS NQ];rfl) ?_;unfold rz;simp only[nz,adQ,adR];have e8:adP.wrap (8* (j:Int))=8* (j:Int):=aw (by omega);have e5:=lY j;rw[e8,e5];refine⟨by omega,?_⟩;have JH:=oG (v.data.toList.take j);have zu:(v.data.toList.take j).length=j:=by rw[adX];omega
  rw[zu] at JH;have e6:bB .i64 .or (jM (v.data.toList.take j)) (shl .i64 (adP.wrap ((v.data.toList[j]).toNat:Int)) (8* (j:Int)))=jM (v.data.toList.take (j+1)):=by
   unfold jM;rw[Qr (by omega) JH,aeM NQ,oT,zu]
  rw[e6];exact⟨⟨j+1,rfl,by omega,rfl⟩,by omega⟩
def numOf(s:BA):Int:=if 1<=jM s.data.toList/\jM s.data.toList<=1152921504606846976 then jM s.data.toList else 0
def og{n:Int}(h:0<=n/\n<18446744073709551616):IntKind.u64.wrap n=n:=by
 simp[IntKind.wrap,IntKind.bits,IntKind.signed];omega
def yf(s:BA):BA:=s.extract 0 8
def xy(s:BA):BA:=s.extract (s.size-8) s.size
def Lo{s:BA}{K:VK}(h:St W w L)(hs8:8<=s.size)(nV:s.size<1099511627776)(hK:∀w',St W w' L->K (.agg ⟨[.i (numOf (yf s)),.i (numOf (xy s))]⟩) w'):sr s K w:=by
 unfold sr;refine fH h λr1 w hs=>?_;refine fH hs λr2 w hs=>?_;refine jG hs λw hs=>?_;unfold jb;simp only[nz,adQ,adR];have e1:adP.wrap ((s.size:Int) -8)=(s.size:Int) -8:=aw (by omega);rw[e1];refine⟨by omega,by omega,?_⟩;have eh:s.extract 0 (8:Int).toNat=yf s:=rfl;have et:s.extract ((s.size:Int) -8).toNat s.size=xy s:=by unfold xy;congr 1;omega
 rw[eh,et];have h8:(yf s).size=8:=by unfold yf;rw[rC];omega
 have t8:(xy s).size=8:=by unfold xy;rw[rC];omega
 refine⟨λus w'=>∃j:Nat,us=[.p (some ⟨r1,0,none⟩),.p (some ⟨r2,0,none⟩),.agg ⟨[.string (yf s),.string (xy s)]⟩,.i j]/\j<=2/\
  St W w' (pt r2 [.i (if 0<j then numOf (yf s) else 0),.i (if 1<j then numOf (xy s) else 0)]::pt r1 [.i 0,.i 0]::L),
  λus _=>match us with|[_,_,_,.int _ j]=>2-j.toNat|_=>0,⟨0,rfl,ad2 _,hs⟩,?_⟩
 rintro a1 a2 cs1 n1 w2 ⟨j,he,hj,hs⟩;cases he
 refine pC (λh0=>?_) (λh0=>?_)
 ·have Gh:j<2:=by have:=of_decide_eq_true h0;omega
  have e5:=lY j;rw[e5];obtain⟨p,hp,Uq⟩:∃p,([Value.string (yf s),.string (xy s)]:LV)[(j:Int).toNat]?=some (.string p)/\p.size=8/\(j=0->p=yf s)/\(j=1->p=xy s):=by
   match j,Gh with
   |0,_=>exact⟨yf s,rfl,h8,λ_=>rfl,λhh=>by omega⟩
   |1,_=>exact⟨xy s,rfl,t8,λhh=>by omega,λ_=>rfl⟩
  refine⟨.string p,⟨by omega,by omega,hp⟩,?_⟩;simp only[nz,adQ,adR];refine om hs λq w hs=>?_;simp only[nz,adQ,adR];refine xu (k:=0) hs rfl λw hs=>?_;have em:min2 (max2 8 1) 8=8:=rfl;have ev:tO p false (min2 (max2 8 1) 8)=p:=by
   rw[em];unfold tO;have:nU p false 8=false:=by unfold nU;rw[Uq.1];rfl
   rw[if_neg (by rw[this];exact ael)];have:(8:Int).toNat=p.size:=by rw[Uq.1];rfl
   rw[this];exact ByteArray.extract_zero_size
  rw[ev];simp only[nz,adQ,adR] at hs⊢;have hs:=hs.drop;have fin:∀x w',x=numOf p->St W w' (pt r2 ([.i (if 0<j then numOf (yf s) else 0),.i (if 1<j then numOf (xy s) else 0)].set j (.i x))::pt r1 [.i 0,.i 0]::L)->
     St W w' (pt r2 [.i (if 0<j+1 then numOf (yf s) else 0),.i (if 1<j+1 then numOf (xy s) else 0)]::pt r1 [.i 0,.i 0]::L):=λx w' hx hs=>by
   subst hx
   match j,Gh,Uq,hs with
   |0,_,Uq,hs=>rw[Uq.2.1 rfl] at hs;simpa using hs
   |1,_,Uq,hs=>rw[Uq.2.2 rfl] at hs;simpa using hs
  have zero:numOf p=0->∀w',St W w' (pt r2 [.i (if 0<j then numOf (yf s) else 0),.i (if 1<j then numOf (xy s) else 0)]::pt r1 [.i 0,.i 0]::L)->
   St W w' (pt r2 [.i (if 0<j+1 then numOf (yf s) else 0),.i (if 1<j+1 then numOf (xy s) else 0)]::pt r1 [.i 0,.i 0]::L):=λhz w' hs=>by
   refine fin 0 w' hz.symm ?_
   match j,Gh,hs with
   |0,_,hs=>simpa using hs
   |1,_,hs=>simpa using hs
  refine de (λh1=>?_) (λh1=>?_)
  ·refine de (λh2=>?_) (λh2=>?_)
   ·refine⟨by omega,?_⟩;refine l7 (k:=0) hs rfl (by simp;omega) rfl λw hs=>?_;simp only[nz,adQ,adR] at hs;rw[adT,afp] at hs;refine⟨⟨j+1,rfl,by omega,fin _ w ?_ hs⟩,by omega⟩;unfold numOf;rw[if_pos (by omega)]
   ·exact⟨⟨j+1,rfl,by omega,zero (by unfold numOf;rw[if_neg (by omega)]) w hs⟩,by omega⟩
  ·exact⟨⟨j+1,rfl,by omega,zero (by unfold numOf;rw[if_neg (by omega)]) w hs⟩,by omega⟩
 ·have Gh:j=2:=by have:=of_decide_eq_false h0;omega
  subst Gh;have hs:St W w2 (pt r2 [.i (numOf (yf s)),.i (numOf (xy s))]::pt r1 [.i 0,.i 0]::L):=hs;refine fZ (k:=0) (xs:=[.i (numOf (yf s)),.i (numOf (xy s))]) hs rfl rfl (λi v hi=>by rw[adW];exact hi) ?_;refine⟨rfl,gA (k:=1) hs rfl (adZ rfl) (by simp[Value.oneCell']) λw hs=>?_⟩;rw[eP (by simp)] at hs;simp only[nz,adQ,adR] at hs;refine fZ (k:=1) (xs:=[.i (numOf (yf s)),.i (numOf (xy s))]) hs rfl rfl (λi v hi=>by rw[adW];exact hi) ?_;exact hK w hs.drop.drop
def cE(D:ay):Nat->Int
 |0=>0
 |j+1=>max2 (max2 (cE D j) (numOf (yf (D.read (j:Int)).1))) (numOf (xy (D.read (j:Int)).1))
def uv{D:ay}(h:D.Ok){i:Int}(hi:D.is i):(D.read i).1.size=128:=by
 unfold ay.read;rw[if_pos hi];unfold ay.now;have aZ:i.toNat<D.safe.length:=by have:=hi.1;have:=hi.2;omega
 cases hl:ay.last D.later i with
 |none=>
  rw[aeK,aeV,adS aZ,aeu];exact h.safe _ (aeg aZ)
 |some x=>
  unfold ay.last at hl;rw[Option.map_eq_some_iff] at hl;obtain⟨p,hp,rfl⟩:=hl;exact(h.later p (List.mem_reverse.1 (aeQ hp))).1
def Cu{d:Nat}{D:ay}{K:VK}(h:St W w L)(hk:L[k]?=some (dW d D))(fJ:D.Ok)(hK:∀w',St W w' L->K (.i (cE D D.safe.length)) w'):kr (some ⟨d,0,none⟩) K w:=by
 have rP:=fJ.lH;unfold kr;refine jV h hk ?_;simp only[nz,adQ,adR];refine⟨λus w'=>∃j:Nat,us=[.i 0,.i (cE D j),.i D.safe.length,.i j]/\j<=D.safe.length/\St W w' L,
  λus _=>match us with|[_,_,_,.int _ j]=>D.safe.length-j.toNat|_=>0,⟨0,rfl,ad2 _,h⟩,?_⟩
 rintro n2 n3 n4 n5 w2 ⟨j,he,hj,hs⟩;cases he
 refine de (λaZ=>?_) (λgr=>?_)
 ·have hi:D.is (j:Int):=⟨by omega,aZ⟩;have nV:=uv fJ hi;have e5:=lY j;refine nS hs hk fJ ?_;simp only[nz,adQ,adR];refine Lo hs (by omega) (by omega) λw hs=>?_;simp only[s9,ad',aen,adW,adQ,true_and];refine fH hs λr w hs=>?_;refine⟨trivial,gA (k:=0) hs rfl (adZ rfl) (by simp[Value.oneCell']) λw hs=>?_⟩;rw[eP (by simp)] at hs;simp only[nz,adQ,adR] at hs⊢;refine⟨by decide,?_⟩;refine bJ (k:=0) hs rfl rfl ?_;simp only[nz,adQ,adR];refine⟨by decide,?_⟩;refine bJ (k:=0) hs rfl rfl ?_;simp only[nz,adQ,adR];rw[e5];exact⟨⟨j+1,rfl,by omega,hs.drop⟩,by omega⟩
 ·have:j=D.safe.length:=by omega
  subst this;exact hK _ hs
end
def kM(l:List UInt8)(n:Nat):(bs l).extract 0 n=bs (l.take n):=by
 apply gN;rw[extract_toList,ae1,Nat.sub_zero];rfl
def kL(l:List UInt8)(n:Nat):(bs l).extract n (bs l).size=bs (l.drop n):=by
 apply gN;rw[extract_toList,bw];show(l.drop n).take (l.length-n)=l.drop n;rw[aea (by rw[ad4];omega)]
def LF(a b:List UInt8):bs a++bs b=bs (a++b):=by
 apply gN;rw[ByteArray.data_append,Array.toList_append];rfl
def yn{a b:List UInt8}:bs a=bs b↔a=b:=by
 constructor
 ·intro h;have:=congrArg (λx=>x.data.toList) h;exact this
 ·intro h;rw[h]
def Gz:ByteArray.empty=bs []:=rfl
section
variable {W w:World} {L:LH} {k:Nat}
def Ap{l:List UInt8}{K:VK}(hl:l.length<1099511627776)(hK:∀m,m<=l.length->(∀j(h:j<l.length),m<=j->l[j]=0)->(m=0\/∃h:m-1<l.length,l[m-1]≠0)->K (.string (bs (l.take m))) w):jl (bs l) 0 K w:=by
 unfold jl;refine⟨λus w'=>∃m:Nat,us=[.string (bs (l.take m)),.string .empty]/\m<=l.length/\(∀j(h:j<l.length),m<=j->l[j]=0)/\Xe w w',λus _=>match us with|[.string s,_]=>s.size|_=>0,
  ⟨l.length,by rw[ad5],adY _,λj h hj=>by omega,rfl⟩,?_⟩
 rintro s2 s3 w2 ⟨m,he,hm,hz,hw⟩;obtain rfl:w2=w:=hw;cases he
 have nV:(bs (l.take m)).size=m:=by rw[bw,adX];omega
 rw[nV];refine de (λF8=>?_) (λXx=>?_)
 ·have Uy:m-1<l.length:=by omega
  have ew:adP.wrap ((m:Int) -1)=((m-1:Nat):Int):=by rw[aw (by omega)];omega
  rw[ew];refine⟨l[m-1],⟨by omega,?_⟩,?_⟩
  ·rw[adT];show(l.take m)[m-1]?=_;rw[List.getElem?_take_of_lt (by omega),adS Uy]
  refine GN (λh0=>?_) (λh0=>?_)
  ·have hc:l[m-1]=0:=by
    apply UInt8.toNat_inj.1;show _=0;omega
   unfold jb;refine⟨⟨by omega,by rw[nV];omega⟩,?_⟩;rw[adT,kM,afq,show min (m-1) m=m-1 from by omega];refine⟨⟨m-1,rfl,by omega,λj hj hmj=>?_,rfl⟩,?_⟩
   ·by_cases hjm:m<=j
    ·exact hz j hj hjm
    ·have:j=m-1:=by omega
     subst this;exact hc
   ·dsimp only;rw[bw,adX,bw,adX];omega
  ·exact hK m hm hz (.inr ⟨Uy,λhc=>h0 (by rw[hc];rfl)⟩)
 ·exact hK m hm hz (.inl (by omega))
def B5{l:List UInt8}{K:VK}(hl:l.length<1099511627776)(hK:∀m,m<=l.length->(∀j(h:j<l.length),j<m->l[j]=0)->(m=l.length\/∃h:m<l.length,l[m]≠0)->K (.string (bs (l.drop m))) w):jI (bs l) 0 K w:=by
 unfold jI;refine⟨λus w'=>∃m:Nat,us=[.string (bs (l.drop m)),.string .empty]/\m<=l.length/\(∀j(h:j<l.length),j<m->l[j]=0)/\Xe w w',λus _=>match us with|[.string s,_]=>s.size|_=>0,
  ⟨0,rfl,ad2 _,λj h hj=>by omega,rfl⟩,?_⟩
 rintro s2 s3 w2 ⟨m,he,hm,hz,hw⟩;obtain rfl:w2=w:=hw;cases he
 have nV:(bs (l.drop m)).size=l.length-m:=by rw[bw,ad4]
 refine de (λF8=>?_) (λXx=>?_)
 ·rw[nV] at F8;have Uy:m<l.length:=by omega
  refine⟨l[m],⟨by omega,?_⟩,?_⟩
  ·show(l.drop m)[0]?=_;rw[ae8,aeN,adS Uy]
  refine GN (λh0=>?_) (λh0=>?_)
  ·have hc:l[m]=0:=by
    apply UInt8.toNat_inj.1;show _=0;omega
   unfold jb;refine⟨⟨by omega,by rw[nV];omega⟩,?_⟩;rw[show(1:Int).toNat=1 from rfl,kL,ae2];refine⟨⟨m+1,rfl,by omega,λj hj hmj=>?_,rfl⟩,?_⟩
   ·by_cases hjm:j<m
    ·exact hz j hj hjm
    ·have:j=m:=by omega
     subst this;exact hc
   ·dsimp only;rw[bw,ad4,bw,ad4];omega
  ·exact hK m hm hz (.inr ⟨Uy,λhc=>h0 (by rw[hc];rfl)⟩)
 ·rw[nV] at Xx;exact hK m hm hz (.inl (by omega))
def LP{l:List UInt8}{K:VK}(h:St W w L)(hl:l.length<1099511627776)(hK:∀r w',(r=.empty↔l=ad8 l.length 0)->St W w' L->K (.string r) w'):dT (bs l) ⟨#[0]⟩ K w:=by
 unfold dT;have e0:oX (⟨#[0]⟩:BA) (⟨#[]⟩:BA)=false:=by rw[pN];exact decide_eq_false (λh=>absurd (congrArg ByteArray.size h) (by decide))
 rw[e0,pN];refine de (λhem=>?_) (λgU=>?_)
 ·unfold dT.j1;rw[gW];have:l=[]:=yn.1 hem;subst this;exact hK _ w (by simp[Gz]) h
 ·unfold dT.j1;rw[ch];have e1:((((⟨#[0]⟩:BA).size:Nat):Int)==1)=true:=by decide
  rw[e1,gW];refine⟨0,⟨by decide,rfl⟩,?_⟩;have e2:decide (((0:UInt8).toNat:Int)<128)=true:=by decide
  dsimp only;rw[e2];unfold dT.j3;rw[gW];refine jG h λw h=>?_;refine⟨0,⟨by decide,rfl⟩,?_⟩;refine⟨0,⟨by decide,rfl⟩,?_⟩;refine Ap hl λm hm hz Dc=>?_;simp only[nz,adQ,adR];refine B5 (by rw[adX];omega) λq hq hz2 tX=>?_;simp only[nz,adQ,adR];refine hK _ w ?_ h;have aZ:(l.take m).length=m:=by rw[adX];omega
  rw[Gz,yn]
  constructor
  ·intro hd;have hqm:q=m:=by have:=congrArg List.length hd;rw[ad4,aen] at this;omega
   subst hqm;rcases Dc with h0|⟨h1,h2⟩
   ·subst h0;exact List.eq_replicate_iff.2 ⟨rfl,λx hx=>by
     obtain⟨j,hj,rfl⟩:=List.mem_iff_getElem.1 hx
     exact hz j hj (ad2 _)⟩
   ·exfalso;have hq0:0<q:=by
     rcases Nat.eq_zero_or_pos q with h0|h0
     ·subst h0;exact absurd (hz _ h1 (by omega)) h2
     ·exact h0
    have:=hz2 (q-1) (by omega) (by omega);rw[List.getElem_take] at this;exact h2 this
  ·intro fG;have hz0:∀j(hj:j<l.length),l[j]=0:=λj hj=>(List.eq_replicate_iff.1 fG).2 _ (aeg hj);rcases tX with h0|⟨h1,h2⟩
   ·rw[aez (by omega)]
   ·exfalso;rw[List.getElem_take] at h2;exact h2 (hz0 q _)
def pv(l:List UInt8):Bool:=decide (4<=l.length)&&(rj (oW 0 (l.take (l.length-4)))==l.drop (l.length-4))
def IL{l:List UInt8}{K:VK}(h:St W w L)(hl:l.length<1099511627776)(hK:∀w',St W w' L->K (.bool (pv l)) w'):pK (bs l) K w:=by
 unfold pK;refine jG h λw h=>?_;have ew:adP.wrap (((bs l).size:Int) -4)=(l.length:Int) -4:=by rw[bw,aw (by omega)]
 rw[ew];refine de (λh0=>?_) (λh0=>?_)
 ·have e1:((l.length:Int) -4).toNat=l.length-4:=by omega
  unfold jb;dsimp only;refine⟨⟨h0,by rw[bw];omega⟩,?_⟩;refine⟨⟨h0,by rw[bw];omega⟩,?_⟩;rw[e1,kM,kL];refine G0 (by rw[bw,adX];omega) ?_;simp only[nz,adQ,adR];refine ui h (yz _) λw h=>?_;simp only[nz,adQ,adR];have e2:oX (bs (rj (oW 0 (bs (l.take (l.length-4))).data.toList))) (bs (l.drop (l.length-4)))=pv l:=by
   rw[pN];unfold pv;rw[decide_eq_true (by omega:4<=l.length),aeU];show decide (bs (rj (oW 0 (l.take (l.length-4))))=bs (l.drop (l.length-4)))=_;by_cases hh:rj (oW 0 (l.take (l.length-4)))=l.drop (l.length-4)
   ·rw[decide_eq_true (yn.2 hh),hh,beq_self_eq_true]
   ·rw[decide_eq_false (λh=>hh (yn.1 h))]
    symm;simp[hh]
  rw[e2];exact hK w h
 ·have e2:pv l=false:=by unfold pv;rw[decide_eq_false (by omega: ¬4<=l.length)];rfl
  rw[<-e2];exact hK w h
def EN{r:Nat}{l:List UInt8}{n:Nat}{K:VK}(h:St W w L)(hk:L[k]?=some (zn r (bs l) false))(h1:1<=n)(h8:n<=8)(hn:n<=l.length)
 (hK:∀w',St W w' (L.set k (zn r (bs (l.drop n)) false))->K (.i (jM (l.take n))) w'):aq (some ⟨r,0,none⟩) n K w:=by
 refine xu h hk ?_;have em:min2 (max2 (n:Int) 1) 8=n:=by unfold min2 max2;split<;>split<;>omega
 rw[em];have et:nU (bs l) false n=false:=by unfold nU;rw[bw,decide_eq_false (by omega)];rfl
 unfold zo tO;rw[et,adT,kM,kL];exact hK
def IH{r:Nat}{l:List UInt8}{n:Nat}{K:VK}(h:St W w L)(hk:L[k]?=some (zn r (bs l) false))(hn:n<=l.length)
 (hK:∀w',St W w' (L.set k (zn r (bs (l.drop n)) false))->K (.string (bs (l.take n))) w'):cH (some ⟨r,0,none⟩) n K w:=by
 refine BU h hk ?_;have et:nU (bs l) false n=false:=by unfold nU;rw[bw,decide_eq_false (by omega)];rfl
 unfold zo tO;rw[et,adT,kM,kL];exact hK
end
def j0{l:List UInt8}(h:l.length<=7):jM l=(jW l:Int):=by
 have h1:=oG l;have h2:256^l.length<=256^7:=aeJ (by decide) h;have h3:(256:Nat)^7=72057594037927936:=rfl;unfold jM;rw[aw (by omega)]
def sN(l:List UInt8):Int:=jM (l.take 8)
def sI(l:List UInt8):Int:=jM ((l.drop 8).take 2)
def sM(l:List UInt8):Nat:=jW (((l.drop 8).drop 2).take 2)
def jc(l:List UInt8):List UInt8:=((l.drop 8).drop 2).drop 2
def sD(l:List UInt8):List UInt8:=(jc l).take (sM l)
def sZ(l:List UInt8):List UInt8:=((jc l).drop (sM l)).take (104-sM l)
def yG(l:List UInt8):Int:=jM (((((jc l).drop (sM l)).drop (104-sM l)).drop 4).take 8)
def iG(l:List UInt8):Option (Int×Int×BA):=
 if ¬l.length=128 then none
 else if pv (l.take 120)=false then none
 else if 104<sM l then none
 else if ¬yG l=sN l then none
 else if ¬sZ l=ad8 (sZ l).length 0 then none
 else if ¬Good (sN l) (sI l) (bs (sD l)) then none
 else some (sN l,sI l,bs (sD l))
def pG:Option (Int×Int×BA)->Value
 |none=>.tuple ⟨[.agg ⟨[.i 0,.i 0,.string .empty]⟩,.bool false]⟩
 |some (n,i,d)=>.tuple ⟨[.agg ⟨[.i n,.i i,.string d]⟩,.bool true]⟩
section
variable {W w:World} {L:LH}
def yu{l:List UInt8}{K:VK}(h:St W w L)(hl:l.length<1099511627776)(hK:∀w',St W w' L->K (pG (iG l)) w'):iA (bs l) K w:=by
 unfold iG at hK;unfold iA;refine fH h λr1 w hs=>?_;rw[bw];have SX:(∀w',St W w' L->K (pG none) w')->∀w,St W w (pt r1 [.i 0,.i 0,.string .empty]::L)->iA.j1 K r1 (bs l) true w:=λhK w hs=>by
  unfold iA.j1;simp only[nz,adQ,adR];refine gA (k:=0) hs rfl (adZ rfl) (by simp[Value.oneCell']) λw hs=>?_;rw[eP (by simp)] at hs;refine fZ (k:=0) (xs:=[.i 0,.i 0,.string .empty]) hs rfl rfl (λj v hj=>by rw[adW];exact hj) ?_;exact hK w hs.drop
 refine qu (λgU=>?_) (λhe=>?_)
 ·rw[if_pos (by omega)] at hK;exact SX hK w hs
 have H':l.length=128:=by omega
 rw[if_neg (by omega)] at hK;unfold jb;dsimp only;refine⟨⟨by omega,by rw[bw];omega⟩,?_⟩;rw[show(120:Int).toNat=120 from rfl,kM];refine IL hs (by rw[adX];omega) λw hs=>?_;simp only[nz,adQ,adR];cases hh:pv (l.take 120) with
 |false=>
  rw[if_pos hh] at hK;exact SX hK w hs
 |true=>
 rw[if_neg (by rw[hh];exact afl)] at hK;unfold iA.j1;simp only[nz,adQ,adR];refine om hs λq w hs=>?_;simp only[nz,adQ,adR];refine EN (k:=0) (n:=8) hs rfl (by decide) (by decide) (by omega) λw hs=>?_;simp only[nz,adQ,adR] at hs⊢;have l8:(l.drop 8).length=120:=by rw[ad4];omega
 refine EN (k:=0) (n:=2) hs rfl (by decide) (by decide) (by omega) λw hs=>?_;simp only[nz,adQ,adR] at hs⊢;have l10:((l.drop 8).drop 2).length=118:=by rw[ad4];omega
 refine fH hs λr2 w hs=>?_;refine⟨by simp,?_⟩;refine gA (k:=0) hs rfl (adZ rfl) (by simp[Value.oneCell']) λw hs=>?_;rw[eP (by simp)] at hs;simp only[nz,adQ,adR] at hs;refine EN (k:=1) (n:=2) hs rfl (by decide) (by decide) (by omega) λw hs=>?_;simp only[nz,adQ,adR] at hs⊢;have em:jM (((l.drop 8).drop 2).take 2)=(sM l:Int):=j0 (by rw[adX];omega);have en:jM (l.take 8)=sN l:=rfl;have ei:jM ((l.drop 8).take 2)=sI l:=rfl;have er:((l.drop 8).drop 2).drop 2=jc l:=rfl;have lr:(jc l).length=116:=by unfold jc;rw[ad4];omega
 rw[em];rw[en,ei,er] at hs;have JU:(∀w',St W w' L->K (pG none) w')->∀w A B,St W w (A::B::pt r1 [.i 0,.i 0,.string .empty]::L)->a8 True (a8 True (gj ⟨r1,0,none⟩ [.i 0,.i 0,.string .empty] (ah ⟨r1,0,none⟩ 3 λcs=>K (.tuple ⟨[.agg ⟨cs⟩,.bool false]⟩)))) w:=λhK w A B hs=>by
  refine⟨trivial,trivial,?_⟩;refine gA (k:=2) hs rfl (adZ rfl) (by simp[Value.oneCell']) λw hs=>?_;rw[eP (by simp)] at hs;refine fZ (k:=2) (xs:=[.i 0,.i 0,.string .empty]) hs rfl rfl (λj v hj=>by rw[adW];exact hj) ?_;exact hK w hs.drop.drop.drop
 refine pC (λJO=>?_) (λhle=>?_)
 ·have JO:=of_decide_eq_true JO;rw[if_pos (by omega)] at hK;exact JU hK w _ _ hs
 have hle:=of_decide_eq_false hle;rw[if_neg (by omega)] at hK;refine IH (k:=1) (n:=sM l) hs rfl (by omega) λw hs=>?_;simp only[nz,adQ,adR] at hs⊢;have ed:(jc l).take (sM l)=sD l:=rfl;rw[ed];refine l7 (k:=0) hs rfl (adZ rfl) rfl λw hs=>?_;simp only[nz,adQ,adR] at hs;have ew:adP.wrap (104-(sM l:Int))=((104-sM l:Nat):Int):=by rw[aw (by omega)];omega
 rw[ew];have lrm:((jc l).drop (sM l)).length=116-sM l:=by rw[ad4,lr]
 refine IH (k:=1) (n:=104-sM l) hs rfl (by omega) λw hs=>?_;simp only[nz,adQ,adR] at hs⊢;have ez:((jc l).drop (sM l)).take (104-sM l)=sZ l:=rfl;rw[ez];have lrz:(((jc l).drop (sM l)).drop (104-sM l)).length=12:=by rw[ad4,lrm];omega
 refine IH (k:=1) (n:=4) hs rfl (by omega) λw hs=>?_;simp only[nz,adQ,adR] at hs⊢;have lrc:((((jc l).drop (sM l)).drop (104-sM l)).drop 4).length=8:=by rw[ad4,lrz]
 refine jG hs λw hs=>?_;refine bJ (k:=0) hs rfl rfl ?_;simp only[nz,adQ,adR];refine EN (k:=1) (n:=8) hs rfl (by decide) (by decide) (by omega) λw hs=>?_;simp only[nz,adQ,adR] at hs⊢;refine gB (k:=0) hs rfl rfl ?_;have et:jM (((((jc l).drop (sM l)).drop (104-sM l)).drop 4).take 8)=yG l:=rfl;rw[et];refine qu (λgU=>?_) (λheq=>?_)
 ·rw[if_pos gU] at hK;exact JU hK w _ _ hs
 rw[if_neg (λhh=>hh heq)] at hK;refine LP hs (by unfold sZ;rw[adX];omega) λs5 w hr hs=>?_;simp only[nz,adQ,adR];refine gB (k:=0) hs rfl rfl ?_;have aaN:(⟨#[]⟩:BA)=.empty:=rfl;rw[pN,aaN];by_cases hz:sZ l=ad8 (sZ l).length 0
 ·rw[if_neg (λhh=>hh hz)] at hK;rw[decide_eq_true (hr.2 hz)];simp only[nz,adQ,adR];refine fZ (k:=0) (xs:=[.i (sN l),.i (sI l),.string (bs (sD l))]) hs rfl rfl (λj v hj=>by rw[adW];exact hj) ?_;refine Dl hs λw hs=>?_;simp only[nz,adQ,adR];refine gB (k:=0) hs rfl rfl ?_;by_cases hg:Good (sN l) (sI l) (bs (sD l))
  ·rw[if_neg (λhh=>hh hg)] at hK;rw[decide_eq_true hg];simp only[nz,adQ,adR];refine fZ (k:=0) (xs:=[.i (sN l),.i (sI l),.string (bs (sD l))]) hs rfl rfl (λj v hj=>by rw[adW];exact hj) ?_;refine⟨rfl,?_⟩;refine gA (k:=2) hs rfl (adZ rfl) (by simp[Value.oneCell']) λw hs=>?_;rw[eP (by simp)] at hs;simp only[nz,adQ,adR] at hs;refine fZ (k:=2) (xs:=[.i (sN l),.i (sI l),.string (bs (sD l))]) hs rfl rfl (λj v hj=>by rw[adW];exact hj) ?_;exact hK w hs.drop.drop.drop
  ·rw[if_pos hg] at hK;rw[decide_eq_false hg];simp only[nz,adQ,adR];exact(JU hK w _ _ hs).2.2
 ·rw[if_pos hz] at hK;rw[decide_eq_false (λhh=>hz (hr.1 hh))];simp only[nz,adQ,adR];exact(JU hK w _ _ hs).2.2
end
def jo(D:ay)(at' number:Int)(size:Nat):Nat->Nat->Option (List UInt8)
 |_,0=>some []
 |i,n+1=>match iG (D.read (at'+i)).1.data.toList with
  |none=>none
  |some (m,j,d)=>if m=number/\j=i/\d.size=min (size-104* i) 104 then(jo D at' number size (i+1) n).map (d.data.toList++·) else none
def take(D:ay)(at' to number size:Int):Option (List UInt8):=
 if at'<0\/(D.safe.length:Int)<to\/to<at'\/size<0\/425984<size\/to-at'<(dA size.toNat:Int) then none else jo D at' number size.toNat 0 (dA size.toNat)
def oJ:Option (List UInt8)->Value
 |none=>.tuple ⟨[.string .empty,.bool false]⟩
 |some l=>.tuple ⟨[.string (bs l),.bool true]⟩
def kP(D:ay)(at' number:Int)(size i n:Nat):jo D at' number size i (n+1)=match iG (D.read (at'+i)).1.data.toList with
 |none=>none
 |some (m,j,d)=>if m=number/\j=i/\d.size=min (size-104* i) 104 then(jo D at' number size (i+1) n).map (d.data.toList++·) else none:=rfl
def K0{B b:Nat}{l:List UInt8}{w w':World}(h:Sz B b l w)(hb:Below w.heap.size w w'):Sz B b l w':=by
 have key:∀p,Go.Lib.BuilderAt Se Tt B b p (Go.Lib.byteCells l) w->Go.Lib.BuilderAt Se Tt B b p (Go.Lib.byteCells l) w':=by
  intro p h;have aZ:=h.lt;obtain⟨hB,v,zX,Xt,gU⟩:=h;refine⟨hB,v,by rw[hb.block b aZ];exact zX,?_,gU⟩;refine⟨Xt.1,?_⟩;rcases Xt.2 with h0|⟨g,cap,cur,h1,h2,h3,h4⟩
  ·exact .inl h0
  ·refine .inr ⟨g,cap,cur,h1,h2,?_,h4⟩;have hg:g<w.heap.size:=(Array.getElem?_eq_some_iff.1 h3).1;rw[hb.block g hg];exact h3
 rcases h with h|h
 ·exact .inl (key _ h)
 ·exact .inr (key _ h)
def QP{w:World}:Sz w.heap.size w.heap.size [] (w.alloc (.cells ⟨[.p none,.l none 0 0]⟩ Se)):=by
 refine .inl ⟨adY _,.l none 0 0,?_,?_,by intro h;cases h⟩
 ·show(w.heap.push _)[w.heap.size]?=_;rw[Array.getElem?_push_size]
 ·exact⟨rfl,.inl ⟨rfl,rfl⟩⟩
section
variable {W w:World} {L:LH} {k d:Nat} {D:ay}
def EF{at' number:Int}{size:Nat}{b:Bool}{K:VK}(h:St W w L)(hk:L[k]?=some (dW d D))(fJ:D.Ok)(vK:b=false->0<=at'/\at'+(dA size:Int)<=D.safe.length)(nV:size<=425984)
 (hK:∀w',St W w' L->K (oJ (if b then none else jo D at' number size 0 (dA size))) w'):ff.j1 K size (some ⟨d,0,none⟩) at' number b w:=by
 have rP:=fJ.lH;unfold ff.j1;refine pC (λhb=>?_) (λhb=>?_)
 ·rw[if_pos hb] at hK;exact hK w h
 rw[if_neg (by rw[hb];exact afl)] at hK;obtain⟨h0,Pj⟩:=vK hb;generalize L2:w=w0 at *;show Xa Se [.p none,.l none 0 0] _ w0;unfold Xa;have hB0:=QP (w:=w0);have SS:Below w0.heap.size w0 (w0.alloc (.cells ⟨[.p none,.l none 0 0]⟩ Se)):=Below.alloc (Below.refl _ _) (adY _) _;generalize Ue:w0.alloc (.cells ⟨[.p none,.l none 0 0]⟩ Se)=w1 at *;generalize hq:w0.heap.size=q at *;refine m9 (by omega) ?_;simp only[nz,adQ,adR];refine⟨λus w'=>∃(j:Nat)(l:List UInt8),us=[.string .empty,.bool false,.p (some ⟨q,0,none⟩),.i (dA size),.i j]/\j<=dA size/\l.length<=104* j/\Sz q q l w'/\Below q w0 w'/\q<=w'.heap.size/\
    jo D at' number size 0 (dA size)=(jo D at' number size j (dA size-j)).map (l++·),
  λus _=>match us with|[_,_,_,_,.int _ j]=>dA size-j.toNat|_=>0,⟨0,[],rfl,ad2 _,adY _,hB0,SS,?_,?_⟩,?_⟩
 ·have:=SS.size;omega
 ·cases jo D at' number size 0 (dA size)<;>simp
 rintro s1 b2 a1 n6 n7 w2 ⟨j,l,he,hj,Db,hB,UK,ZB,oy⟩;cases he
 have hs:St W w2 L:=h.ph (by rw[hq];exact UK);have Px:dA size<=4096:=by unfold dA;split<;>omega
 refine de (λaZ=>?_) (λgr=>?_)
 ·have ea:adP.wrap (at'+(j:Int))=at'+j:=aw (by omega);rw[ea];refine nS hs hk fJ ?_;simp only[nz,adQ,adR];have ady:=uv fJ (i:=at'+j) ⟨by omega,by omega⟩;obtain⟨p,hp⟩:∃p,dA size-j=p+1:=⟨dA size-j-1,by omega⟩;rw[hp,kP] at oy;generalize hx:(D.read (at'+(j:Int))).1=x at *;rw[show x=bs x.data.toList from rfl];refine yu (St.start w2) (by rw[cy];omega) λw3 rB=>?_;have UM:=rB.below;have NY:Below q w0 w3:=UK.trans (UM.mono ZB);have cU:St W w3 L:=h.ph (by rw[hq];exact NY);have no:jo D at' number size 0 (dA size)=none->∀w',Below q w0 w'->K (.tuple ⟨[.string .empty,.bool false]⟩) w':=λhn w' hb=>by
   have:=hK w' (h.ph (by rw[hq];exact hb));rw[hn] at this;exact this
  cases hv:iG x.data.toList with
  |none=>
   rw[hv] at oy;unfold pG;simp only[nz,adQ,adR];simp only[s9,ad',aen,adW,adQ,true_and];simp only[nz,adQ,adR];refine fH (St.start w3) λr w4 uE=>?_;refine⟨trivial,gA (k:=0) uE rfl (adZ rfl) (by simp[Value.oneCell']) λw4 uE=>?_⟩;exact no (by rw[oy];rfl) w4 (NY.trans (uE.below.mono (by have:=UM.size;omega)))
  |some y=>
   obtain⟨m,i,dd⟩:=y;rw[hv] at oy;dsimp only at oy;unfold pG;simp only[nz,adQ,adR];simp only[s9,ad',aen,adW,adQ,true_and];simp only[nz,adQ,adR];refine fH (St.start w3) λr w4 uE=>?_;refine⟨trivial,gA (k:=0) uE rfl (adZ rfl) (by simp[Value.oneCell']) λw4 uE=>?_⟩;rw[eP (by simp)] at uE;simp only[nz,adQ,adR] at uE;have Df:Below q w0 w4:=NY.trans (uE.below.mono (by have:=UM.size;omega));refine bJ (k:=0) uE rfl rfl ?_;simp only[nz,adQ,adR];refine qu (λgU=>?_) (λhmn=>?_)
   ·exact no (by rw[oy,if_neg (λhh=>gU hh.1)];rfl) w4 Df
   refine bJ (k:=0) uE rfl rfl ?_;simp only[nz,adQ,adR];refine qu (λgU=>?_) (λHh=>?_)
   ·exact no (by rw[oy,if_neg (λhh=>gU hh.2.1)];rfl) w4 Df
   refine bJ (k:=0) uE rfl rfl ?_;simp only[nz,adQ,adR];have e1:adP.wrap ((j:Int)* 104)=(j:Int)* 104:=aw (by omega);have e2:adP.wrap ((size:Int) -(j:Int)* 104)=(size:Int) -(j:Int)* 104:=aw (by omega);have Q2:104* j<=size:=by
    rcases Nat.eq_zero_or_pos j with h0|h0
    ·omega
    ·have:=(Ir (n:=size) h0).2 (by omega);omega
   have e3:min2 ((size:Int) -(j:Int)* 104) 104=((min (size-104* j) 104:Nat):Int):=by unfold min2;split<;>omega
   rw[e1,e2,e3];refine qu (λgU=>?_) (λhds=>?_)
   ·exact no (by rw[oy,if_neg (λhh=>gU (by rw[hh.2.2]))];rfl) w4 Df
   have aaO:dd.size=min (size-104* j) 104:=by omega
   refine bJ (k:=0) uE rfl rfl ?_;simp only[nz,adQ,adR];rw[if_pos ⟨hmn,Hh,aaO⟩] at oy;have hB4:Sz q q l w4:=K0 hB (UM.trans (uE.below.mono UM.size));refine⟨q,q,l,rfl,hB4,by omega,(by have:=Df.size;omega),λw5 hB5 SR=>?_⟩;simp only[nz,adQ,adR];have e5:=lY j;rw[e5];have F9:dA size-(j+1)=p:=by omega
   refine⟨⟨j+1,_,rfl,by omega,?_,hB5,Df.trans SR,?_,?_⟩,by omega⟩
   ·rw[adV,cy];omega
   ·have:=SR.size;have:=Df.size;omega
   ·rw[oy,F9];cases jo D at' number size (j+1) p<;>simp[ad0]
 ·have hje:j=dA size:=by omega
  refine⟨q,q,l,rfl,hB,ZB,λw' hb=>?_⟩;simp only[nz,adQ,adR];have:=hK w' (h.ph (by rw[hq];exact UK.trans hb));rw[oy,hje,afe] at this;simp only[jo,aeD,aed,oJ] at this;exact this
def DB{at' to number size:Int}{K:VK}(h:St W w L)(hk:L[k]?=some (dW d D))(fJ:D.Ok)(hK:∀w',St W w' L->K (oJ (take D at' to number size)) w'):ff (some ⟨d,0,none⟩) at' to number size K w:=by
 have rP:=fJ.lH;have bad:(at'<0\/(D.safe.length:Int)<to\/to<at'\/size<0\/425984<size\/to-at'<(dA size.toNat:Int))->ff.j1 K size (some ⟨d,0,none⟩) at' number true w:=λhb=>by
  unfold ff.j1;rw[gW];have:=hK w h;unfold take at this;rw[if_pos hb] at this;exact this
 unfold ff;refine de (λh1=>bad (.inl h1)) (λh1=>?_);refine jV h hk ?_;simp only[nz,adQ,adR];refine de (λh2=>bad (.inr (.inl h2))) (λh2=>?_);refine de (λh3=>bad (.inr (.inr (.inl h3)))) (λh3=>?_);refine de (λh4=>bad (.inr (.inr (.inr (.inl h4))))) (λh4=>?_);refine pC (λh5=>bad (.inr (.inr (.inr (.inr (.inl (of_decide_eq_true h5))))))) (λh5=>?_);have h5:=of_decide_eq_false h5;obtain⟨m,rfl⟩:=ad3 (show 0<=size by omega);refine m9 (by omega) ?_;simp only[nz,adQ,adR];have ew:adP.wrap (to-at')=to-at':=aw (by omega);rw[ew];refine EF h hk fJ (λhb=>?_) (by omega) λw' hs=>?_
 ·have:=of_decide_eq_false hb;omega
 ·have:=hK w' hs;unfold take at this;rw[adT] at this;by_cases h6:to-at'<(dA m:Int)
  ·rw[if_pos (by omega)] at this;have e:decide ((dA m:Int)>to-at')=true:=decide_eq_true (by omega);rw[e,if_pos rfl];exact this
  ·rw[if_neg (by omega)] at this;have e:decide ((dA m:Int)>to-at')=false:=decide_eq_false (by omega);rw[e,if_neg afl];exact this
end
def Jz{at' number:Int}{s:BA}(me:1<=number/\number<=1152921504606846976)(vK:0<=at'):∀(n i:Nat) {D:ay},D.arm=0->at'+i+n<=D.safe.length->i+n<=4096->
 (lj at' number s D i n).2=0/\(lj at' number s D i n).1.arm=0/\(lj at' number s D i n).1.safe=D.safe/\(lj at' number s D i n).1.later.length=D.later.length+n/\
 ∀j:Int,(j<at'+i\/at'+i+n<=j)->(lj at' number s D i n).1.now j=D.now j
 |0,i,D,ha,hr,hi=>⟨rfl,ha,rfl,rfl,λ_ _=>rfl⟩
 |n+1,i,D,ha,hr,hi=>by
  have hg:Good number i (part s i):=⟨me.1,me.2,by omega,by omega,jy s i⟩;have nV:=pR hg;have hi:D.is (at'+i):=⟨by omega,by omega⟩;have uW: ¬(¬D.is (at'+i)\/128<(leaf number i (part s i)).size):=by
   rintro(hh|hh)
   ·exact hh hi
   ·omega
  have hw:D.write (at'+i) (leaf number i (part s i))=({Go.bC.ay.tick D with later:=D.later++[(at'+i,ay.pad (leaf number i (part s i)))]},0):=by
   rw[Dk.DE ha,if_neg uW]
  have hn:=λj=>Dk.A4 ha (at'+i) j (leaf number i (part s i));unfold lj;have h0:(D.write (at'+i) (leaf number i (part s i))).2=0:=by rw[hw]
  rw[if_neg (by rw[h0];exact λhh=>hh rfl)];have hlen:(D.write (at'+i) (leaf number i (part s i))).1.later.length=D.later.length+1:=by rw[hw];simp
  have o8:=(oa D (at'+i) (leaf number i (part s i))).1;have Q9:=Dk.Aj ha (at'+i) (leaf number i (part s i));have ih:=Jz me vK (s:=s) n (i+1) (D:=(D.write (at'+i) (leaf number i (part s i))).1) Q9 (by rw[o8];omega) (by omega);refine⟨ih.1,ih.2.1,ih.2.2.1.trans o8,by rw[ih.2.2.2.1,hlen];omega,λj hj=>?_⟩;rw[ih.2.2.2.2 j (by omega),hn j,if_neg (λhh=>by have:=hh.2;omega)]
section
variable {W w:World} {L:LH}
end
def Iz(m i:Nat)(hi:i<8):(byteOf .i64 (m:Int) i).toNat=m/256^i%256:=by
 have hp:(256:Nat)^i=2^(8* i):=by rw[show(256:Nat)=2^8 from rfl,<-Nat.pow_mul]
 have e1:shr .i64 (m:Int) (8* (i:Int))=((m/256^i:Nat):Int):=by
  unfold shr;have h1:(8* (i:Int)).toNat=8* i:=by omega
  have h2:min (8* i) adP.bits=8* i:=by show min (8* i) 64=_;omega
  rw[h1,h2,hp,Int.fdiv_eq_ediv_of_nonneg _ (Int.le_of_lt (Int.pow_pos (by decide)))]
  push_cast
  rfl
 have e2:IntKind.u8.wrap ((m/256^i:Nat):Int)=((m/256^i%256:Nat):Int):=by
  generalize m/256^i=z;simp[IntKind.wrap,IntKind.bits,IntKind.signed]
 unfold byteOf;rw[e1,e2,adT,UInt8.toNat_ofNat_of_lt' (Nat.mod_lt _ (by decide))]
def le_succ(k:IntKind)(w:Nat)(n:Int):le k (w+1) n=le k w n++[byteOf k n w]:=by
 unfold le;rw[List.range_succ,aep];rfl
def nA(m:Nat):∀w,w<=8->jW (le .i64 w (m:Int))=m%256^w
 |0,_=>by simp[le,jW,Nat.mod_one]
 |w+1,h=>by
  rw[le_succ,oT,nA m w (by omega),Iz m w (by omega),az,Nat.mod_pow_succ,afr]
def lg{n:Int}(h:0<=n/\n<=1152921504606846976):jM (le .i64 8 n)=n:=by
 obtain⟨m,rfl⟩:=ad3 h.1;unfold jM;rw[nA m 8 (by omega)];have h8:(256:Nat)^8=18446744073709551616:=rfl;rw[h8,aeB (by omega),aw (by omega)]
def E3{m:Nat}(h:m<65536):jW (le .i64 2 (m:Int))=m:=by
 rw[nA m 2 (by omega)];exact aeB h
def kS{n i:Int}{s:BA}(h:Good n i s):iG (iT n i s)=some (n,i,s):=by
 obtain⟨h1,h2,h3,h4,h5⟩:=h;have hl:(iT n i s).length=128:=sE h5;have L5:(pre n i s).length=116:=mV h5;have hd:s.data.toList.length=s.size:=rfl;have hc:(rj (oW 0 (pre n i s))).length=4:=az _ _ _;have sO:iT n i s=le .i64 8 n++(le .i64 2 i++(le .i64 2 s.size++(s.data.toList++(ad8 (104-s.size) 0++(rj (oW 0 (pre n i s))++le .i64 8 n))))):=by
  simp only[iT,pre,ad0]
 have t120:(iT n i s).take 120=pre n i s++rj (oW 0 (pre n i s)):=by
  unfold iT;rw[List.take_append_of_le_length (by rw[adV,L5,hc];omega),aea (by rw[adV,L5,hc];omega)]
 have hh:pv ((iT n i s).take 120)=true:=by
  rw[t120];unfold pv;have hlen:(pre n i s++rj (oW 0 (pre n i s))).length=120:=by rw[adV,L5,hc]
  rw[hlen,show 120-4=(pre n i s).length from by rw[L5],List.take_left,List.drop_left,beq_self_eq_true]
  rfl
 have tl:∀(a b:List UInt8)(m:Nat),a.length=m->(a++b).take m=a:=λa b m hm=>by subst hm;exact List.take_left
 have dl:∀(a b:List UInt8)(m:Nat),a.length=m->(a++b).drop m=b:=λa b m hm=>by subst hm;exact List.drop_left
 have d8:(iT n i s).drop 8=le .i64 2 i++(le .i64 2 s.size++(s.data.toList++(ad8 (104-s.size) 0++(rj (oW 0 (pre n i s))++le .i64 8 n)))):=by rw[sO,dl _ _ _ (az _ _ _)]
 have d10:((iT n i s).drop 8).drop 2=le .i64 2 s.size++(s.data.toList++(ad8 (104-s.size) 0++(rj (oW 0 (pre n i s))++le .i64 8 n))):=by rw[d8,dl _ _ _ (az _ _ _)]
 have hr:jc (iT n i s)=s.data.toList++(ad8 (104-s.size) 0++(rj (oW 0 (pre n i s))++le .i64 8 n)):=by unfold jc;rw[d10,dl _ _ _ (az _ _ _)]
 have eN:sN (iT n i s)=n:=by unfold sN;rw[sO,tl _ _ _ (az _ _ _),lg ⟨by omega,h2⟩]
 have eI:sI (iT n i s)=i:=by
  unfold sI;rw[d8,tl _ _ _ (az _ _ _),j0 (by rw[az];omega)];obtain⟨m,rfl⟩:=ad3 h3;rw[E3 (by omega)]
 have eM:sM (iT n i s)=s.size:=by
  unfold sM;rw[d10,tl _ _ _ (az _ _ _),E3 (by omega)]
 have eD:sD (iT n i s)=s.data.toList:=by unfold sD;rw[eM,hr,tl _ _ _ hd]
 have dr:(jc (iT n i s)).drop s.size=ad8 (104-s.size) 0++(rj (oW 0 (pre n i s))++le .i64 8 n):=by rw[hr,dl _ _ _ hd]
 have eZ:sZ (iT n i s)=ad8 (104-s.size) 0:=by unfold sZ;rw[eM,dr,tl _ _ _ (by simp)]
 have eT:yG (iT n i s)=n:=by
  unfold yG;rw[eM,dr,dl _ _ _ (by simp),dl _ _ _ hc,aea (by rw[az];omega),lg ⟨by omega,h2⟩]
 have hg:Good (sN (iT n i s)) (sI (iT n i s)) (bs (sD (iT n i s))):=by
  rw[eN,eI,eD,JY];exact⟨h1,h2,h3,h4,h5⟩
 unfold iG;rw[if_neg (λhx=>hx hl),if_neg (by rw[hh];exact afl),if_neg (by rw[eM];omega),if_neg (λhx=>hx (by rw[eT,eN])),if_neg (λhx=>hx (by rw[eZ];simp)),if_neg (λhx=>hx hg),eN,eI,eD,JY]
def tN:iG (jC 128).data.toList=none:=by decide+kernel
def Jp{s:BA}(h:s.size=128):ay.pad s=s:=by
 unfold ay.pad;rw[h];apply gN;rw[ByteArray.data_append,Array.toList_append];simp[jC]
def Jy{at' number:Int}{s:BA}(me:1<=number/\number<=1152921504606846976)(vK:0<=at'):∀(n i:Nat) {D:ay},D.arm=0->at'+i+n<=D.safe.length->i+n<=4096->
 ∀q,i<=q->q<i+n->(lj at' number s D i n).1.now (at'+q)=leaf number q (part s q)
 |0,i,D,ha,hr,hi,q,h1,h2=>by omega
 |n+1,i,D,ha,hr,hi,q,h1,h2=>by
  have hg:Good number i (part s i):=⟨me.1,me.2,by omega,by omega,jy s i⟩;have nV:=pR hg;have qA:D.is (at'+i):=⟨by omega,by omega⟩;have uW: ¬(¬D.is (at'+i)\/128<(leaf number i (part s i)).size):=by
   rintro(hh|hh)
   ·exact hh qA
   ·omega
  have hw:D.write (at'+i) (leaf number i (part s i))=({Go.bC.ay.tick D with later:=D.later++[(at'+i,ay.pad (leaf number i (part s i)))]},0):=by
   rw[Dk.DE ha,if_neg uW]
  have h0:(D.write (at'+i) (leaf number i (part s i))).2=0:=by rw[hw]
  have o8:=(oa D (at'+i) (leaf number i (part s i))).1;have Q9:=Dk.Aj ha (at'+i) (leaf number i (part s i));unfold lj;rw[if_neg (by rw[h0];exact λhh=>hh rfl)];by_cases hq:q=i
  ·subst hq;have:=(Jz me vK (s:=s) n (q+1) (D:=(D.write (at'+q) (leaf number q (part s q))).1) Q9 (by rw[o8];omega) (by omega)).2.2.2.2 (at'+q) (by omega);rw[this,Dk.A4 ha,if_pos ⟨⟨qA,by omega⟩,rfl⟩,Jp nV]
  ·exact Jy me vK (s:=s) n (i+1) Q9 (by rw[o8];omega) (by omega) q (by omega) (by omega)
def xz{D:ay}{at' number:Int}{size:Nat}{s:BA}:∀(n i:Nat),(∀q,i<=q->q<i+n->iG (D.read (at'+q)).1.data.toList=some (number,(q:Int),part s q)/\(part s q).size=min (size-104* q) 104)->
 jo D at' number size i n=some ((s.data.toList.drop (104* i)).take (104* n))
 |0,i,_=>by simp[jo]
 |n+1,i,h=>by
  obtain⟨h1,h2⟩:=h i (adY _) (by omega);rw[kP,h1];dsimp only;rw[if_pos ⟨rfl,rfl,h2⟩,xz n (i+1) (λq hq QV=>h q (by omega) (by omega))];have e:(part s i).data.toList=(s.data.toList.drop (104* i)).take 104:=by
   unfold part;rw[extract_toList];congr 1;omega
  rw[e,aeD]
  congr 1
  rw[show 104* (n+1)=104+104* n from by omega,List.take_add,ae2,show 104* i+104=104* (i+1) from by omega]
section
variable {W w:World} {L:LH}
end
section
variable {W w:World} {L:LH}
end
end Go.Sep
namespace Go.Up
open Go.Sep Go.Den Go.RowKit Go.Prog Go.Md
def xa{α:Type}{f:α->LV}{e:Nat}(hf:∀x,(f x).length=e):∀l:List α,(l.flatMap f).length=l.length* e
 |[]=>by simp
 |x::l=>by rw[aeG,adV,hf,xa hf l,ad',afg];omega
def nI{α:Type}{f:α->LV}{e:Nat}(hf:∀x,(f x).length=e):∀(l:List α)(i:Nat)(x:α),l[i]?=some x->∀j v,(f x)[j]?=some v->(l.flatMap f)[i* e+j]?=some v
 |[],i,x,h,j,v,hj=>by simp at h
 |y::l,0,x,h,j,v,hj=>by
  simp at h;subst h;rw[aeG,Nat.zero_mul,adW,aef (adU.1 hj).1];exact hj
 |y::l,i+1,x,h,j,v,hj=>by
  rw[aeG,aes (by rw[hf,afg];omega),hf,show(i+1)* e+j-e=i* e+j by rw[afg];omega];exact nI hf l i x (by simpa using h) j v hj
def Bs{α:Type}{f:α->LV}{e:Nat}(hf:∀x,(f x).length=e):∀(l:List α)(i:Nat)(x:α),i<l.length->over (l.flatMap f) (i* e) (f x)=(l.set i x).flatMap f
 |[],i,x,h=>by simp at h
 |y::l,0,x,h=>by
  unfold over;rw[aeG,Nat.zero_mul,afh,aev,hf,adW,List.drop_left' (hf y)];rfl
 |y::l,i+1,x,h=>by
  have ih:=Bs hf l i x (by simpa using h);unfold over at ih⊢;rw[aeG,ae7,aeG,<-ih,hf,show(i+1)* e=(f y).length+i* e by rw[hf,afg];omega,List.take_append,aea (by omega),
   show(f y).length+i* e-(f y).length=i* e by omega,Nat.add_assoc,List.drop_append,aez (by omega),show(f y).length+(i* e+e) -(f y).length=i* e+e by omega]
  simp
def tQ(n:Nat):(nm n).length=2:=rfl
def kx(n:Nat):∀v∈nm n,v.oneCell'=true:=λv h=>by simp[nm] at h;rcases h with rfl|rfl<;>rfl
section
variable {W:World} {L:LH} {K:VK} {a b n:Nat}
def oV{r m e:Nat}{i:Int}{K:Addr->WK}(hi:0<=i/\i<m)(h:T W L (K ⟨r,i.toNat* e,none⟩)):T W L (fO (some ⟨r,0,none⟩) m i e K):=λw hs=>
 ⟨_,rfl,hi,by rw[dU,adW];exact h w hs⟩
def WA{α:Type}{r o e:Nat}{l:List α}{x:α}{g:α->LV}{f:LV->LH}{K:LV->WK}[i:Lc (pt r) L (l.flatMap g) f](hf:∀x,(g x).length=e)(hx:l[o]?=some x)(h:T W L (K (g x))):T W L (ah ⟨r,o* e,none⟩ e K):=λw hs=>
 let⟨_,hk,_⟩:=i.at_;fZ hs hk (hf x) (nI hf l o x hx) (h w hs)
def yD:Nat->List Nat->Option Nat
 |s,[]=>some s
 |s,x::l=>if s+x<aK then yD (s+x) l else none
abbrev aaa(o:Option Nat):Value:=.tuple ⟨[.agg ⟨nm (o.getD 0)⟩,.bool o.isSome]⟩
def Ta{r c:Nat}{l:List Nat}{f:LV->LH}(hl:∀x∈l,x<aK)(hlen:l.length<1000)[i:Lc (pt r) L (l.flatMap nm) f](h:T W L (K (aaa (yD 0 l)))):T W L (tw (some ⟨r,0,none⟩) l.length c K):=by
 unfold tw;apply ws;intros;rename_i r1 r2;intro w hs;refine⟨λvs w=>∃i s:Nat,i<=l.length/\s<aK/\yD 0 l=yD s (l.drop i)/\vs=[.p (some (ad r1 0)),.bool false,.p (some (ad r2 0)),.l (some ⟨r,0,none⟩) l.length c,.i (l.length:Int),.i (i:Int)]/\St W w (pt r2 (nm s)::pt r1 (nm 0)::L),
  λvs _=>match vs with|[_,_,_,_,_,.int _ j]=>l.length-j.toNat|_=>0,⟨0,0,ad2 _,by decide,rfl,rfl,hs⟩,?_⟩
 rintro a1 b1 a2 uR qe uQ n1 n2 w2 ⟨i,s,hi,hsM,he,e,hs⟩;cases e
 refine T.at ?_ hs;refine dP (λh1=>?_) (λh1=>?_)
 ·have aZ:i<l.length:=by simpa using h1
  refine oV (by omega) ?_;rw[adT];refine WA tQ (adS aZ) ?_;have hx:=hl _ (aeg aZ);have hd:l.drop i=l[i]::l.drop (i+1):=aex aZ;rw[hd] at he;generalize l[i]=x at *;have pI:yD s (x::l.drop (i+1))=if s+x<aK then yD (s+x) (l.drop (i+1)) else none:=rfl
  rw[pI] at he
  repeat' first|apply ws;intros|apply wb|with_reducible first|refine zi hsM hx ?_|refine bE (λh1=>?_) (λh1=>?_)|fail
  ·have h2: ¬s+x<aK:=by simpa using h1
   rw[if_neg h2] at he;rw[he] at h;exact T.dp h
  ·have h2:s+x<aK:=by simpa using h1
   rw[if_pos h2] at he;rw[if_pos h2];have e5:=lY i;rw[e5];refine T.drop λw3 h3=>⟨⟨i+1,s+x,aZ,h2,he,rfl,h3⟩,?_⟩;show l.length-((i+1:Nat):Int).toNat<l.length-(i:Int).toNat;omega
 ·have gr:i=l.length:=by omega
  subst gr;rw[aez (adY _)] at he;rw[he] at h;apply ws;intros;exact T.dp h
end
end Go.Up
namespace Go.Sep
open Go.Den Go.RowKit Go.Prog Go.bC
section
variable {W w:World} {L:LH}
end
def E4:∀(a b:List UInt8),a.length=b.length->jW a=jW b->a=b
 |[],[],_,_=>rfl
 |[],_::_,h,_=>by simp at h
 |_::_,[],h,_=>by simp at h
 |c::a,d::b,h,hv=>by
  have hc:=c.toNat_lt;have hd:=d.toNat_lt;simp only[jW] at hv;have h1:c.toNat=d.toNat:=by omega
  rw[E4 a b (by simpa using h) (by omega),UInt8.toNat_inj.1 h1]
def HH{l:List UInt8}{n j:Int}{d:BA}(h:iG l=some (n,j,d)):l.length=128/\sM l<=104/\yG l=sN l/\n=sN l/\j=sI l/\Good (sN l) (sI l) (bs (sD l)):=by
 unfold iG at h;split at h
 ·cases h
 rename_i h1;split at h
 ·cases h
 split at h
 ·cases h
 rename_i h3;split at h
 ·cases h
 rename_i h4;split at h
 ·cases h
 split at h
 ·cases h
 rename_i h6;cases h
 exact⟨ad6.1 h1,by omega,ad6.1 h4,rfl,rfl,ad6.1 h6⟩
def M7{l:List UInt8}(h:sM l<=104)(hl:l.length=128):yG l=jM (l.drop 120):=by
 unfold yG jc;rw[ae2,ae2,ae2,ae2,ae2,aea (by rw[ad4];omega)]
 congr 2
 omega
def FN{D:ay}:∀j i:Nat,i<j->numOf (yf (D.read (i:Int)).1)<=cE D j/\numOf (xy (D.read (i:Int)).1)<=cE D j
 |0,i,h=>by omega
 |j+1,i,h=>by
  have hm:∀a b:Int,a<=max2 a b/\b<=max2 a b:=λa b=>by unfold max2;split<;>omega
  simp only[cE];have h1:=hm (max2 (cE D j) (numOf (yf (D.read (j:Int)).1))) (numOf (xy (D.read (j:Int)).1));have h2:=hm (cE D j) (numOf (yf (D.read (j:Int)).1));by_cases Hh:i=j
  ·subst Hh;exact⟨by omega,by omega⟩
  ·have:=FN (D:=D) j i (by omega);exact⟨by omega,by omega⟩
def FO(s:BA):0<=numOf s/\numOf s<=1152921504606846976:=by unfold numOf;split<;>omega
def sS(D:ay):∀j,0<=cE D j/\cE D j<=1152921504606846976
 |0=>by simp[cE]
 |j+1=>by
  have h1:=sS D j;have h2:=FO (yf (D.read (j:Int)).1);have h3:=FO (xy (D.read (j:Int)).1);simp only[cE];unfold max2;split<;>split<;>omega
def low(w:Int):Int:=bB .i64 .and w 1
def Jv(w:Int):low w=(((BitVec.ofInt 64 w).toNat%2:Nat):Int):=by
 have e2:(BitVec.ofInt 64 1).toNat=1:=rfl;show adP.wrap (((BitVec.ofInt 64 w&&&BitVec.ofInt 64 1).toNat:Nat):Int)=_;rw[BitVec.toNat_and,e2,Nat.and_one_is_mod,aw (by omega)]
def rh(w:Int):low w=0\/low w=1:=by rw[Jv];omega
def bF(n:Nat):Nat:=(n-2)* 2/5
def cR(n:Nat):LV:=[.i 2,.i (2+bF n:Nat),.i (bF n:Nat),.i (2+2* bF n:Nat),.i n]
def cD(n:Nat)(which:Int):Nat:=if low which=0 then 2 else 2+bF n
def lC{n:Nat}(h:12<=n)(w:Int):2<=cD n w/\cD n w+bF n<=n/\4<=bF n:=by
 unfold cD bF;split<;>omega
def Hz{n:Nat}(w v:Int)(h:low w≠low v):cD n w+bF n<=cD n v\/cD n v+bF n<=cD n w:=by
 unfold cD;rcases rh w with a|a<;>rcases rh v with b|b<;>rw[a,b] at h⊢<;>simp at h⊢
def put(D:ay)(n:Nat)(which number:Int)(s:BA):ay×Int:=
 if(lay D (cD n which) ((cD n which+bF n:Nat):Int) number s).2≠0 then lay D (cD n which) ((cD n which+bF n:Nat):Int) number s
 else(lay D (cD n which) ((cD n which+bF n:Nat):Int) number s).1.sync
def get(D:ay)(n:Nat)(which number size:Int):Option (List UInt8):=take D (cD n which) ((cD n which+bF n:Nat):Int) number size
section
variable {W w:World} {L:LH} {k d:Nat} {D:ay}
def RX{n:Nat}{K:VK}(h:St W w L)(mB:12<=n)(bS:n<=4096)(hK:∀w',St W w' L->K (.tuple ⟨[.agg ⟨cR n⟩,.i 0]⟩) w'):pF n K w:=by
 unfold pF;refine fH h λr w hs=>?_;have e1:decide ((n:Int)<12)=false:=decide_eq_false (by omega);have e2:decide ((n:Int)>4096)=false:=decide_eq_false (by omega);rw[e1,e2];unfold pF.j1;have a1:adP.wrap ((n:Int) -2)=((n-2:Nat):Int):=by rw[aw (by omega)];omega
 have a2:adP.wrap (((n-2:Nat):Int)* 2)=(((n-2)* 2:Nat):Int):=by rw[aw (by omega)];omega
 have a3:(((n-2)* 2:Nat):Int).tdiv 5=((bF n:Nat):Int):=by rw[Int.tdiv_eq_ediv_of_nonneg (by omega)];rfl
 have hp:bF n<=4096:=by unfold bF;omega
 have a4:adP.wrap ((bF n:Nat):Int)=((bF n:Nat):Int):=aw (by omega);have a5:adP.wrap (2+((bF n:Nat):Int))=((2+bF n:Nat):Int):=by rw[aw (by omega)];omega
 have a6:adP.wrap (2* ((bF n:Nat):Int))=((2* bF n:Nat):Int):=by rw[aw (by omega)];omega
 have a7:adP.wrap (2+((2* bF n:Nat):Int))=((2+2* bF n:Nat):Int):=by rw[aw (by omega)];omega
 rw[a1,a2,a3,a4,a5,a6,a7];simp only[nz,adQ,adR];refine⟨by decide,?_⟩;refine gA (k:=0) hs rfl (adZ rfl) (by simp[Value.oneCell']) λw hs=>?_;rw[eP (by simp)] at hs;refine fZ (k:=0) (xs:=cR n) hs rfl rfl (λj v hj=>by rw[adW];exact hj) ?_;exact hK w hs.drop
def Af{n:Nat}{which:Int}{K:VK}(h:St W w L)(hK:∀w',St W w' L->K (.i (cD n which:Nat)) w'):kR (cR n) which K w:=by
 unfold kR;refine fH h λr w hs=>?_;simp only[nz,adQ,adR];refine bJ (k:=0) hs rfl rfl ?_;simp only[nz,adQ,adR];refine bJ (k:=0) hs rfl rfl ?_;simp only[nz,adQ,adR];have hl:=rh which;have hh:=hK w hs.drop;unfold cD at hh;show yP _ 2 (low which) _ w;rcases hl with h0|h0
 ·rw[if_pos h0] at hh;rw[h0];refine⟨_,⟨by decide,by decide,rfl⟩,?_⟩;simp only[nz,adQ,adR];exact hh
 ·rw[if_neg (by omega)] at hh;rw[h0];refine⟨_,⟨by decide,by decide,rfl⟩,?_⟩;simp only[nz,adQ,adR];exact hh
def OX{n:Nat}{which number:Int}{s:BA}{K:VK}(h:St W w L)(hk:L[k]?=some (dW d D))(fJ:D.Ok)(mB:12<=n)(bS:n<=4096)(hl:D.later.length+5000<1099511627776)(hs:s.size<=reachBytes)
 (hK:∀w',St W w' (L.set k (dW d (put D n which number s).1))->K (.i (put D n which number s).2) w'):mE (cR n) (some ⟨d,0,none⟩) which number s K w:=by
 have Bm:=lC mB which;unfold mE;refine fH h λr w cU=>?_;have nV:=hs;simp only[nz,adQ,adR];refine jG cU λw hs=>?_;refine fZ (k:=0) (xs:=cR n) hs rfl rfl (λj v hj=>by rw[adW];exact hj) ?_;refine fZ (k:=0) (xs:=cR n) hs rfl rfl (λj v hj=>by rw[adW];exact hj) ?_;refine bJ (k:=0) hs rfl rfl ?_;simp only[nz,adQ,adR];refine Af hs λw hs=>?_;simp only[nz,adQ,adR];refine gB (k:=0) hs rfl rfl ?_;refine JA (k:=0) hs rfl (λj v hj=>by rw[adW];exact hj) ?_;refine Af hs λw hs=>?_;simp only[nz,adQ,adR];refine gB (k:=0) hs rfl rfl ?_;have ew:adP.wrap (((cD n which:Nat):Int)+((bF n:Nat):Int))=((cD n which+bF n:Nat):Int):=by rw[aw (by omega)];omega
 rw[ew];have rl:(pt r (cR n)::L)[k+1]?=some (dW d D):=by rw[ad9];exact hk
 refine BV (k:=k+1) hs rl fJ (by omega) nV λw hs=>?_;rw[ae7] at hs;simp only[nz,adQ,adR];refine gB (k:=0) hs rfl rfl ?_;unfold put at hK;have K7:(lay D (cD n which) ((cD n which+bF n:Nat):Int) number s).1.Ok\/(lay D (cD n which) ((cD n which+bF n:Nat):Int) number s).2≠0:=by
  by_cases hc:dA s.size<=4097
  ·exact .inl (D8 fJ (by omega)).1
  ·refine .inr ?_;unfold lay;split
   ·simp
   ·rw[if_pos (by omega)];simp
 refine qu (λgU=>?_) (λh0=>?_)
 ·rw[if_pos gU] at hK;exact hK w hs.drop
 ·rw[if_neg (λhh=>hh h0)] at hK;refine qz (k:=k+1) hs (by rw[ad9];exact fX hk) (K7.resolve_right (λhh=>hh h0)) λw hs=>?_;rw[ae7,ae6] at hs;simp only[nz,adQ,adR];exact hK w hs.drop
def O7{n:Nat}{which number size:Int}{K:VK}(h:St W w L)(hk:L[k]?=some (dW d D))(fJ:D.Ok)(mB:12<=n)(bS:n<=4096)
 (hK:∀w',St W w' L->K (oJ (get D n which number size)) w'):mF (cR n) (some ⟨d,0,none⟩) which number size K w:=by
 have Bm:=lC mB which;unfold mF;refine fH h λr w cU=>?_;simp only[nz,adQ,adR];refine jG cU λw hs=>?_;refine fZ (k:=0) (xs:=cR n) hs rfl rfl (λj v hj=>by rw[adW];exact hj) ?_;refine fZ (k:=0) (xs:=cR n) hs rfl rfl (λj v hj=>by rw[adW];exact hj) ?_;refine bJ (k:=0) hs rfl rfl ?_;simp only[nz,adQ,adR];refine Af hs λw hs=>?_;simp only[nz,adQ,adR];refine gB (k:=0) hs rfl rfl ?_;refine JA (k:=0) hs rfl (λj v hj=>by rw[adW];exact hj) ?_;refine Af hs λw hs=>?_;simp only[nz,adQ,adR];refine gB (k:=0) hs rfl rfl ?_;have ew:adP.wrap (((cD n which:Nat):Int)+((bF n:Nat):Int))=((cD n which+bF n:Nat):Int):=by rw[aw (by omega)];omega
 rw[ew];refine DB (k:=k+1) hs (by rw[ad9];exact hk) fJ λw hs=>?_;unfold get at hK;cases hg:take D (cD n which) ((cD n which+bF n:Nat):Int) number size with
 |none=>
  rw[hg] at hK;unfold oJ at hK⊢;simp only[nz,adQ,adR];refine gB (k:=0) hs rfl rfl ?_;exact hK w hs.drop
 |some l=>
  rw[hg] at hK;unfold oJ at hK⊢;simp only[nz,adQ,adR];refine gB (k:=0) hs rfl rfl ?_;exact hK w hs.drop
end
structure Calm(n:Nat)(D:ay):Prop where
 ok:D.Ok
 arm:D.arm=0
 later:D.later.length<=1000
 len:D.safe.length=n
def xn{n:Nat}(h:n<=4096):Calm n (ay.new n):=by
 refine⟨T2 n,rfl,ad2 _,?_⟩;simp only[ay.new,aeZ];have:min2 (max2 (n:Int) 0) 4096=n:=by unfold min2 max2;split<;>split<;>omega
 rw[this];omega
def tR{n:Nat}(h:n<=4096){j:Nat}(hj:j<n):((ay.new n).read (j:Int)).1=jC 128:=by
 have hc:=xn h;rw[uw (D:=ay.new n) rfl (i:=j) (by rw[hc.len];exact hj)];simp[ay.new]
def Rb{n:Nat}{D:ay}{which number:Int}{s:BA}(hlen:D.safe.length=n)(mB:12<=n)(bS:n<=4096)(me:1<=number/\number<=1152921504606846976)(hl:dA s.size<=bF n)
 (hr:∀q:Nat,q<dA s.size->(D.read (((cD n which:Nat):Int)+q)).1=leaf number q (part s q)):get D n which number s.size=some s.data.toList:=by
 have Bm:=lC mB which;have hb:s.size<=104* dA s.size:=by unfold dA;split<;>omega
 have Pp:∀q:Nat,(part s q).size=min (104* (q+1)) s.size-104* q:=λq=>by unfold part;rw[rC]
 unfold get take;rw[if_neg (by rw[hlen,adT];omega),adT,xz (s:=s) (dA s.size) 0 (λq _ hq=>by
  rw[hr q (by omega)]
  have hg:Good number q (part s q):=⟨me.1,me.2,by omega,by omega,jy s q⟩
  unfold leaf
  rw[if_pos hg]
  exact⟨kS hg,by rw[Pp];omega⟩)]
 congr 1
 rw[Nat.mul_zero,ae1,aea (by rw[cy];exact hb)]
section
variable {W w:World} {L:LH}
end
section
variable {W w:World} {L:LH}
def LW{n m:Nat}{K:VK}(h:St W w L)(hm:m<1099511627776000)(hK:∀w',St W w' L->K (.bool (decide (dA m<=bF n))) w'):l9 (cR n) m K w:=by
 unfold l9;refine fH h λr w hs=>?_;refine jG hs λw hs=>?_;refine de (λ_=>?_) (λhh=>by omega);refine bJ (k:=0) hs rfl rfl ?_;simp only[nz,adQ,adR];refine m9 (by omega) ?_;simp only[nz,adQ,adR];refine gB (k:=0) hs rfl rfl ?_;have e:decide (((dA m:Nat):Int)<=((bF n:Nat):Int))=decide (dA m<=bF n):=by rw[decide_eq_decide];omega
 rw[e];exact hK w hs.drop
end
def Z0(old new X:BA):Prop:=X=old\/X=new\/∃c,c<=128/\X=new.extract 0 c++old.extract c old.size
def y6(mask torn x:Int)(hx:0<=x/\x<=128)(safe:List BA)(later:List (Int×BA))(hn:(later.map (·.1.toNat)).Nodup)(hp:∀p∈later,0<=p.1/\p.1<safe.length)(i:Nat)(hi:i<safe.length):
 ∀j,j<=later.length->((∀k,k<j->∀p,later[k]?=some p->p.1.toNat≠i)/\(crashed mask torn x safe later j)[i]?=safe[i]?)\/
  ∃k p,k<j/\later[k]?=some p/\p.1.toNat=i/\∃X,(crashed mask torn x safe later j)[i]?=some X/\Z0 (safe.getD i .empty) p.2 X
 |0,_=>.inl ⟨λk hk=>by omega,rfl⟩
 |j+1,hj=>by
  have aZ:j<later.length:=by omega
  have wV:later[j]?=some later[j]:=adS aZ;have ih:=y6 mask torn x hx safe later hn hp i hi j (by omega);simp only[crashed,wV];have hlen:i<(crashed mask torn x safe later j).length:=by rw[hO];exact hi
  by_cases Hc:(later[j]).1.toNat=i
  ·
   have tX:(crashed mask torn x safe later j)[i]?=safe[i]?:=by
    rcases ih with⟨_,h⟩|⟨k,p,hk,Pt,QW,_⟩
    ·exact h
    ·exfalso;have rl:k<later.length:=by omega
     have e1:(later.map (·.1.toNat))[k]?=some i:=by rw[aeF,Pt];simp[QW]
     have e2:(later.map (·.1.toNat))[j]?=some i:=by rw[aeF,wV];simp[Hc]
     have:=(List.getElem?_inj (by simpa using rl) hn).1 (e1.trans e2.symm);omega
   have vI:(crashed mask torn x safe later j).getD i .empty=safe.getD i .empty:=by
    rw[aeV,tX,<-aeV]
   refine .inr ⟨j,later[j],by omega,wV,Hc,?_⟩;unfold ay.pJ;rw[Hc];split
   ·refine⟨_,List.getElem?_set_self hlen,.inr (.inr ⟨x.toNat,by omega,?_⟩)⟩;rw[vI]
   ·split
    ·exact⟨_,List.getElem?_set_self hlen,.inr (.inl rfl)⟩
    ·refine⟨safe[i],by rw[tX];exact adS hi,.inl ?_⟩;simp[hi]
  ·have Bh:(ay.pJ mask torn x (crashed mask torn x safe later j) j later[j])[i]?=(crashed mask torn x safe later j)[i]?:=by
    unfold ay.pJ;split
    ·rw[List.getElem?_set_ne Hc]
    ·split
     ·rw[List.getElem?_set_ne Hc]
     ·rfl
   rw[Bh];rcases ih with⟨h1,h2⟩|⟨k,p,hk,Pt,QW,X,hX⟩
   ·refine .inl ⟨λk hk p Pt=>?_,h2⟩;by_cases hkj:k=j
    ·subst hkj;rw[wV] at Pt;cases Pt
     exact Hc
    ·exact h1 k (by omega) p Pt
   ·exact .inr ⟨k,p,by omega,Pt,QW,X,hX⟩
def F2{at' number:Int}{s:BA}(me:1<=number/\number<=1152921504606846976)(vK:0<=at'):∀(n i:Nat) {D:ay},at'+i+n<=D.safe.length->i+n<=4096->
 ∃m,m<=n/\(lj at' number s D i n).1.later=D.later++((List.range' i m).map λq:Nat=>(at'+(q:Int),ay.pad (leaf number q (part s q))))/\(lj at' number s D i n).1.safe=D.safe/\((lj at' number s D i n).2=0->m=n)
 |0,i,D,hr,hi=>⟨0,adY _,by simp[lj],rfl,λ_=>rfl⟩
 |n+1,i,D,hr,hi=>by
  have hg:Good number i (part s i):=⟨me.1,me.2,by omega,by omega,jy s i⟩;have nV:=pR hg;have qA:D.is (at'+i):=⟨by omega,by omega⟩;have uW: ¬(¬D.is (at'+i)\/128<(leaf number i (part s i)).size):=by
   rintro(hh|hh)
   ·exact hh qA
   ·omega
  have o8:=(oa D (at'+i) (leaf number i (part s i))).1;have hw:D.write (at'+i) (leaf number i (part s i))=if D.qP then(D.tick,8) else({Go.bC.ay.tick D with later:=D.later++[(at'+i,ay.pad (leaf number i (part s i)))]},0):=by
   unfold ay.write;rw[if_neg uW]
  unfold lj;cases hf:D.qP with
  |true=>
   rw[hf,if_pos rfl] at hw;rw[hw,if_pos (by simp)];exact⟨0,ad2 _,by simp[ay.tick],rfl,λh=>by simp at h⟩
  |false=>
   rw[hf,if_neg afl] at hw;have h0:(D.write (at'+i) (leaf number i (part s i))).2=0:=by rw[hw]
   have yd:(D.write (at'+i) (leaf number i (part s i))).1.later=D.later++[(at'+i,ay.pad (leaf number i (part s i)))]:=by rw[hw]
   rw[if_neg (by rw[h0];exact λhh=>hh rfl)];obtain⟨m,h1,h2,h3,h4⟩:=F2 me vK (s:=s) n (i+1) (D:=(D.write (at'+i) (leaf number i (part s i))).1) (by rw[o8];omega) (by omega);refine⟨m+1,by omega,?_,by rw[h3,o8],λh=>by rw[h4 h]⟩;rw[h2,yd,List.range'_succ,aet,ad0]
   rfl
def A9(at':Nat)(f:Nat->BA)(i:Int):∀m:Nat,ay.last ((afo m).map λq:Nat=>(((at':Nat):Int)+(q:Int),f q)) i=if(at':Int)<=i/\i<(at':Int)+m then some (f (i-at').toNat) else none
 |0=>by rw[if_neg (by omega)];rfl
 |m+1=>by
  rw[List.range_succ,aep,aet,afs,Dk.o5,A9 at' f i m];dsimp only;by_cases h:((at':Nat):Int)+(m:Int)=i
  ·rw[if_pos h,if_pos (by omega)]
   congr 2
   omega
  ·rw[if_neg h];by_cases h2:(at':Int)<=i/\i<(at':Int)+m
   ·rw[if_pos h2,if_pos (by omega)]
   ·rw[if_neg h2,if_neg (by omega)]
def DS(at' i m q:Nat)(n:Int)(s:BA)(k:Nat)(p:Int×BA)(h:((List.range' 0 m).map λq:Nat=>(((at':Nat):Int)+(q:Int),ay.pad (leaf n q (part s q))))[k]?=some p):
 k<m/\p.1.toNat=at'+k/\p.2=ay.pad (leaf n k (part s k)):=by
 rw[<-List.range_eq_range',aeF] at h;have hk:k<m:=by
  by_cases hh:k<m
  ·exact hh
  ·rw[aeT (by simpa using hh)] at h;cases h
 rw[afk hk] at h;cases h
 exact⟨hk,by dsimp only;omega,rfl⟩
def Gk(x:BA):(yf x).data.toList=x.data.toList.take 8:=by unfold yf;rw[extract_toList];rfl
def Fa{x:BA}(h:x.size=128):(xy x).data.toList=x.data.toList.drop 120:=by
 unfold xy;rw[h,extract_toList,aea (by rw[ad4,cy,h];omega)]
def oU{α:Type}(a b:List α)(m:Nat)(h:a.length=m):(a++b).take m=a:=by subst h;exact List.take_left
def qn{α:Type}(a b:List α)(m:Nat)(h:a.length=m):(a++b).drop m=b:=by subst h;exact List.drop_left
def tT{n i:Int}{s:BA}:(iT n i s).take 8=le .i64 8 n:=by
 unfold iT pre;simp only[ad0];exact oU _ _ 8 (az _ _ _)
def ri{n i:Int}{s:BA}(hs:s.size<=104):(iT n i s).drop 120=le .i64 8 n:=by
 unfold iT;exact qn _ _ 120 (by rw[adV,mV hs];rfl)
def Ag(n:Nat):(jC n).data.toList=ad8 n 0:=by unfold jC;rfl
def JR{D:ay}{b:Int}(hb:0<=b):∀j,(∀i:Nat,i<j->numOf (yf (D.read (i:Int)).1)<=b/\numOf (xy (D.read (i:Int)).1)<=b)->cE D j<=b
 |0,_=>hb
 |j+1,h=>by
  have h1:=JR hb j (λi hi=>h i (by omega));have h2:=h j (by omega);simp only[cE];unfold max2;split<;>split<;>omega
section
variable {W w:World} {L:LH}
end
def cA(D:ay)(at' to number:Int)(s:BA):ay×Int:=if(lay D at' to number s).2≠0 then lay D at' to number s else(lay D at' to number s).1.sync
def FV{D:ay}{at' to number:Int}{s:BA}(h:D.Ok)(hl:D.later.length+dA s.size<1099511627776):(cA D at' to number s).1.Ok:=by
 have:=(D8 (at':=at') (number:=number) (s:=s) (to:=to) h hl).1;unfold cA;split
 ·exact this
 ·exact DJ this
def Nz{n a t:Nat}{D:ay}{number:Int}{s:BA}(h:Calm n D)(bS:n<=4096)(me:1<=number/\number<=1152921504606846976)(hl:a+dA s.size<=t)(QT:t<=n):(cA D a t number s).1.later=[]:=by
 have XS:=nL s.size;have e:lay D (a:Nat) ((t:Nat):Int) number s=lj (a:Nat) number s D 0 (dA s.size):=by
  unfold lay;rw[if_neg (by rw[h.len];omega),if_neg (by omega)]
 obtain⟨l1,l2,_,_,_⟩:=Jz (at':=((a:Nat):Int)) (number:=number) (s:=s) me (by omega) (dA s.size) 0 (D:=D) h.arm (by rw[h.len];omega) (by omega);unfold cA;rw[e,if_neg (λhh=>hh l1),Dk.I4 l2]
def Ju{n a t:Nat}{D:ay}{number:Int}{s:BA}(h:Calm n D)(bS:n<=4096)(me:1<=number/\number<=1152921504606846976)(hl:a+dA s.size<=t)(QT:t<=n):
 (cA D a t number s).2=0/\Calm n (cA D a t number s).1/\(∀q:Nat,q<dA s.size->((cA D a t number s).1.read (((a:Nat):Int)+q)).1=leaf number q (part s q))/\
 ∀j:Nat,j<n->(j<a\/a+dA s.size<=j)->((cA D a t number s).1.read (j:Int)).1=(D.read (j:Int)).1:=by
 have e:lay D (a) ((t:Nat):Int) number s=lj (a) number s D 0 (dA s.size):=by
  unfold lay;rw[if_neg (by rw[h.len];omega),if_neg (by omega)]
 have L6:=Jz (at':=((a:Nat):Int)) (number:=number) (s:=s) me (by omega) (dA s.size) 0 (D:=D) h.arm (by rw[h.len];omega) (by omega);have hli:=Jy (at':=((a:Nat):Int)) (number:=number) (s:=s) me (by omega) (dA s.size) 0 (D:=D) h.arm (by rw[h.len];omega) (by omega);have fJ:=wR (at':=((a:Nat):Int)) (number:=number) (s:=s) (dA s.size) 0 h.ok (by have:=h.later;omega);unfold cA;rw[e];obtain⟨l1,l2,l3,l4,l5⟩:=L6;rw[if_neg (λhh=>hh l1)];generalize (lj ((a:Nat):Int) number s D 0 (dA s.size)).1=D1 at *;have SG:D1.safe.length=n:=by rw[l3];exact h.len
 have ju:=Dk.I4 l2;have SQ:Calm n D1.sync.1:=⟨DJ fJ.1,Dk.Kj l2,by rw[ju];exact ad2 _,by rw[Dk.Fh.1];exact SG⟩;have Pn:∀j:Nat,j<n->(D1.sync.1.read (j:Int)).1=D1.now (j:Int):=λj hj=>by
  have h1:D1.sync.1.is (j:Int):=⟨by omega,by rw[SQ.len];omega⟩;have h2:D1.is (j:Int):=⟨by omega,by rw[SG];omega⟩;unfold ay.read;rw[if_pos h1];exact Dk.KP l2 fJ.1 h2
 refine⟨by rw[ju],SQ,λq hq=>?_,λj hj Gh=>?_⟩
 ·have:=Pn (a+q) (by omega);rw[show(((a:Nat):Int)+(q:Int))=((a+q:Nat):Int) from by omega,this,show((a+q:Nat):Int)=((a:Nat):Int)+(q:Int) from by omega];exact hli q (ad2 _) (by omega)
 ·rw[Pn j hj,l5 (j:Int) (by omega)];have h2:D.is (j:Int):=⟨by omega,by rw[h.len];omega⟩;unfold ay.read;rw[if_pos h2]
def FW{n a t:Nat}{D:ay}{number mask torn cut:Int}{s:BA}(fJ:D.Ok)(yd:D.later=[])(hlen:D.safe.length=n)(bS:n<=4096)(me:1<=number/\number<=1152921504606846976)(hl:a+dA s.size<=t)(QT:t<=n):
 (∀j:Nat,j<n->(((cA D a t number s).1.fI mask torn cut).read (j:Int)).1=(D.read (j:Int)).1\/
  ∃q,q<dA s.size/\j=a+q/\Z0 (D.read (j:Int)).1 (leaf number q (part s q)) (((cA D a t number s).1.fI mask torn cut).read (j:Int)).1)/\
 ((cA D a t number s).2=0->∀q:Nat,q<dA s.size->(((cA D a t number s).1.fI mask torn cut).read ((a+q:Nat):Int)).1=leaf number q (part s q))/\
 ((cA D a t number s).1.fI mask torn cut).Ok/\((cA D a t number s).1.fI mask torn cut).safe.length=n:=by
 have XS:=nL s.size;have Uo:∀q:Nat,q<dA s.size->ay.pad (leaf number q (part s q))=leaf number q (part s q):=λq hq=>Jp (pR ⟨me.1,me.2,by omega,by omega,jy s q⟩);have aa':lay D (a:Nat) ((t:Nat):Int) number s=lj (a) number s D 0 (dA s.size):=by
  unfold lay;rw[if_neg (by rw[hlen];omega),if_neg (by omega)]
 obtain⟨m,hm,Bl,o8,fG⟩:=F2 (at':=((a:Nat):Int)) (number:=number) (s:=s) me (by omega) (dA s.size) 0 (D:=D) (by rw[hlen];omega) (by omega);rw[yd,aev] at Bl;have Ej:=(wR (at':=((a:Nat):Int)) (number:=number) (s:=s) (dA s.size) 0 fJ (by rw[yd];simp;omega)).1;unfold cA;rw[aa'];generalize hF:lj ((a:Nat):Int) number s D 0 (dA s.size)=F at *;obtain⟨D1,e⟩:=F;dsimp only at Bl o8 fG Ej⊢;have hold:∀j(hj:j<n),(D.read (j:Int)).1=D.safe[j]'(by omega):=λj hj=>by rw[uw yd (by omega)]
 have key:∀D2:ay,D2.safe=D.safe->D2.later=D1.later->∀j:Nat,j<n->((D2.fI mask torn cut).read (j:Int)).1=(D.read (j:Int)).1\/
  ∃q,q<dA s.size/\j=a+q/\Z0 (D.read (j:Int)).1 (leaf number q (part s q)) ((D2.fI mask torn cut).read (j:Int)).1:=λD2 h1 h2 j hj=>by
  have Q2:j<D.safe.length:=by omega
  have hce:(D2.fI mask torn cut).safe=crashed mask torn (min2 (max2 cut 0) 128) D.safe D1.later D1.later.length:=by rw[mO,h1,h2]
  have L7:j<(D2.fI mask torn cut).safe.length:=by rw[hce,hO];exact Q2
  have hr:((D2.fI mask torn cut).read (j:Int)).1=(D2.fI mask torn cut).safe[j]:=by rw[uw (by rw[mO]) L7]
  have hx:(D2.fI mask torn cut).safe[j]?=some ((D2.fI mask torn cut).safe[j]):=adS L7;have F':(D1.later.map (·.1.toNat)).Nodup:=by
   rw[Bl,aft];have:((λp:Int×BA=>p.1.toNat)∘λq:Nat=>(((a:Nat):Int)+(q:Int),ay.pad (leaf number q (part s q))))=λq:Nat=>a+q:=by
    funext q;simp only[Function.comp];omega
   rw[this];exact List.Pairwise.map (λq=>a+q) (λx y(PA:x≠y)=>by show a+x≠a+y;omega) (List.nodup_range' 1 (by decide))
  have Xz:=y6 mask torn (min2 (max2 cut 0) 128) (Oh cut) D.safe D1.later F' (λp hp=>by
   have:=Ej.later p hp
   rw[o8] at this
   exact this.2) j Q2 D1.later.length (adY _)
  rw[<-hce,hx] at Xz;rw[hr];generalize (D2.fI mask torn cut).safe[j]=X at *;rcases Xz with⟨_,h⟩|⟨k,p,hk,Pt,QW,Y,hY,hM⟩
  ·left
   rw[hold j hj];rw[adS Q2] at h;exact aec.inj h
  ·right
   cases hY
   rw[Bl] at Pt;obtain⟨r1,r2,r3⟩:=DS (a) 0 m 0 number s k p Pt;refine⟨k,by omega,by omega,?_⟩;rw[hold j hj,<-Uo k (by omega),<-r3];have:D.safe.getD j .empty=D.safe[j]:=by simp[Q2]
   rw[<-this];exact hM
 have lR:∀D2:ay,D2.safe.length=n->(D2.fI mask torn cut).safe.length=n:=λD2 h=>by rw[mO];simp only[hO];exact h
 have Ya:D1.safe.length=n:=by rw[o8];exact hlen
 by_cases he:e=0
 ·subst he;rw[if_neg (by simp)];unfold ay.sync;cases hf:D1.qP with
  |true=>
   rw[if_pos rfl];exact⟨key D1.tick o8 rfl,λh=>by simp at h,Bx (D:=D1.tick) ⟨Ej.safe,Ej.later,Ej.lH,Ej.less⟩ mask torn cut,lR D1.tick Ya⟩
  |false=>
   rw[if_neg afl];have JM:=fG rfl;subst JM;have Ut:=DJ Ej;unfold ay.sync at Ut;rw[hf,if_neg afl] at Ut;generalize hD3:({Go.bC.ay.tick D1 with safe:=D1.later.foldl ay.put D1.safe,later:=[]}:ay)=D3 at *;have h3s:D3.safe=D1.later.foldl ay.put D.safe:=by rw[<-hD3,<-o8]
   have h3l:D3.later=[]:=by rw[<-hD3]
   have h3n:D3.safe.length=n:=by rw[h3s,ky];exact hlen
   have Px:(D3.fI mask torn cut).safe=D3.safe:=by rw[mO,h3l];rfl
   have Pn:∀j(hj:j<n),((D3.fI mask torn cut).read (j:Int)).1=(ay.last D1.later (j:Int)).getD (D.read (j:Int)).1:=λj hj=>by
    have L7:j<(D3.fI mask torn cut).safe.length:=by rw[lR D3 h3n];exact hj
    have Q2:j<D.safe.length:=by omega
    rw[uw (by rw[mO]) L7,hold j hj];have h1:=Dk.va (i:=(j:Int)) (by omega) D1.later D.safe (by omega) (λp hp=>(Ej.later p hp).2.1);rw[adT,<-h3s,<-Px,aeV,adS L7,aeV,adS Q2] at h1;exact h1
   have Dc:∀j:Nat,ay.last D1.later (j:Int)=if a<=j/\j<a+dA s.size then some (ay.pad (leaf number ((j-a:Nat):Int) (part s (j-a)))) else none:=λj=>by
    rw[Bl,<-List.range_eq_range',A9 (a) (λq=>ay.pad (leaf number q (part s q))) (j:Int) (dA s.size)];by_cases hj:a<=j/\j<a+dA s.size
    ·rw[if_pos hj,if_pos (by omega)];have:((j:Int) -((a:Nat):Int)).toNat=j-a:=by omega
     rw[this]
    ·rw[if_neg hj,if_neg (by omega)]
   refine⟨λj hj=>?_,λ_ q hq=>?_,Bx Ut mask torn cut,lR D3 h3n⟩
   ·rw[Pn j hj,Dc j];by_cases hjr:a<=j/\j<a+dA s.size
    ·right
     refine⟨j-a,by omega,by omega,.inr (.inl ?_)⟩;rw[if_pos hjr,aeu,Uo _ (by omega)]
    ·left;rw[if_neg hjr];rfl
   ·rw[Pn _ (by omega),Dc,if_pos (by omega),aeu,show a+q-a=q from by omega,Uo q hq]
 ·rw[if_pos he];exact⟨key D1 o8 rfl,λh=>absurd h he,Bx Ej mask torn cut,lR D1 Ya⟩
def KW:∀n:Fin 256,le .i64 8 (n.val:Int)=UInt8.ofNat n.val::ad8 7 0:=by decide+kernel
def F0{n:Nat}(h:n<256):le .i64 8 (n:Int)=UInt8.ofNat n::ad8 7 0:=KW ⟨n,h⟩
structure Ends(g:Nat)(X:BA):Prop where
 size:X.size=128
 hd:∃a,a<=g/\X.data.toList.take 8=le .i64 8 ((a:Nat):Int)
 tl:∃b,b<=g/\X.data.toList.drop 120=le .i64 8 ((b:Nat):Int)
def Ends.mono{g g':Nat}{X:BA}(h:Ends g X)(hg:g<=g'):Ends g' X:=by
 obtain⟨h1,⟨a,h2,h3⟩,b,h4,h5⟩:=h;exact⟨h1,⟨a,by omega,h3⟩,b,by omega,h5⟩
def vN:Ends 0 (jC 128):=⟨qa 128,⟨0,adY _,by rw[Ag];decide+kernel⟩,0,adY _,by rw[Ag];decide+kernel⟩
def jA{n i:Int}{s:BA}(h:Good n i s):(leaf n i s).data.toList=iT n i s:=by unfold leaf;rw[if_pos h];rfl
def yj{n:Nat}{i:Int}{s:BA}(h:Good n i s):Ends n (leaf n i s):=
 ⟨pR h,⟨n,adY _,by rw[jA h,tT]⟩,n,adY _,by rw[jA h,ri h.2.2.2.2]⟩
def qJ{n:Nat}(h:n<256):numOf (bs (le .i64 8 ((n:Nat):Int)))=n:=by
 unfold numOf;show(if 1<=jM (le .i64 8 (n:Int))/\jM (le .i64 8 (n:Int))<=1152921504606846976 then _ else _)=_;rw[lg ⟨by omega,by omega⟩];by_cases h0:n=0
 ·subst h0;rfl
 ·rw[if_pos ⟨by omega,by omega⟩];show jM (le .i64 8 (n:Int))=_;rw[lg ⟨by omega,by omega⟩]
def Ends.num{g:Nat}{X:BA}(h:Ends g X)(hg:g<256):numOf (yf X)<=g/\numOf (xy X)<=g:=by
 obtain⟨h1,⟨a,h2,h3⟩,b,h4,h5⟩:=h;have e1:yf X=bs (le .i64 8 ((a:Nat):Int)):=gN (by rw[Gk,h3];rfl);have e2:xy X=bs (le .i64 8 ((b:Nat):Int)):=gN (by rw[Fa h1,h5];rfl);rw[e1,e2,qJ (by omega),qJ (by omega)];omega
def uG{D:ay}{g:Nat}(hg:g<256)(j:Nat)(h:∀i:Nat,i<j->Ends g (D.read (i:Int)).1):cE D j<=g:=JR (by omega) j (λi hi=>(h i hi).num hg)
def Hy{n a:Nat}(hn:n<256)(ha:a<256)(k:Nat)(hk:k<=8):(le .i64 8 ((n:Nat):Int)).take k++(le .i64 8 ((a:Nat):Int)).drop k=if k=0 then le .i64 8 ((a:Nat):Int) else le .i64 8 ((n:Nat):Int):=by
 rw[F0 hn,F0 ha];cases k with
 |zero=>rfl
 |succ k=>
  rw[if_neg (by omega),List.take_succ_cons,List.drop_succ_cons,ae5]
  congr 1
  exact aem k _
def xV{n:Nat}{g:Nat}{i:Int}{s old X:BA}(hn:g<n)(Wa:n<256)(vI:Good n i s)(ho:Ends g old)(hm:Z0 old (leaf n i s) X):
 Ends n X/\(X=old\/X=leaf n i s\/iG X.data.toList=none):=by
 rcases hm with h|h|⟨c,hc,h⟩
 ·rw[h];exact⟨ho.mono (by omega),.inl rfl⟩
 ·rw[h];exact⟨yj vI,.inr (.inl rfl)⟩
 ·obtain⟨o1,⟨a,ha,oh⟩,b,hb,ot⟩:=ho;have hl:=jA vI;have Db:(iT n i s).length=128:=sE vI.2.2.2.2;have hol:old.data.toList.length=128:=by rw[cy];exact o1
  have hX:X.data.toList=(iT n i s).take c++old.data.toList.drop c:=by
   have e2:(old.extract c old.size).data.toList=old.data.toList.drop c:=by
    rw[extract_toList,aea (by rw[ad4,cy];exact adY _)]
   rw[h,ByteArray.data_append,Array.toList_append,e2,extract_toList,ae1,Nat.sub_zero,hl]
  have hXs:X.size=128:=by
   rw[<-cy,hX,adV,adX,ad4,Db,hol];omega
  have h8:X.data.toList.take 8=(le .i64 8 ((n:Nat):Int)).take (min c 8)++(le .i64 8 ((a:Nat):Int)).drop (min c 8):=by
   rw[hX,<-oh,<-tT (n:=n) (i:=i) (s:=s),List.take_append,afq,afq,adX,Db,List.drop_take,show min (min c 8) 8=min 8 c from by omega,show min c 128=c from by omega]
   congr 1
   by_cases h8:c<=8
   ·rw[show min c 8=c from by omega]
   ·rw[show 8-c=0 from by omega,show 8-min c 8=0 from by omega,afh,afh]
  have Ek:X.data.toList.drop 120=(le .i64 8 ((n:Nat):Int)).take (c-120)++(le .i64 8 ((b:Nat):Int)).drop (c-120):=by
   rw[hX,<-ot,<-ri (n:=n) (i:=i) vI.2.2.2.2,List.drop_append,List.drop_take,adX,Db,ae2,ae2,show min c 128=c from by omega]
   congr 2
   omega
  rw[Hy Wa (by omega) _ (by omega)] at h8 Ek;by_cases hc0:c=0
  ·have:X=old:=gN (by rw[hX,hc0,afh,aev,ae1]);rw[this];exact⟨⟨o1,⟨a,by omega,oh⟩,b,by omega,ot⟩,.inl rfl⟩
  ·rw[if_neg (by omega)] at h8;by_cases hc1:c<=120
   ·rw[if_pos (by omega)] at Ek;refine⟨⟨hXs,⟨n,adY _,h8⟩,b,by omega,Ek⟩,.inr (.inr ?_)⟩;cases hv:iG X.data.toList with
    |none=>rfl
    |some y=>
     exfalso;obtain⟨m,j,d⟩:=y;obtain⟨v1,v2,v3,v4,_,_⟩:=HH hv;rw[M7 v2 v1,Ek] at v3;unfold sN at v3;rw[h8,lg ⟨by omega,by omega⟩,lg ⟨by omega,by omega⟩] at v3;omega
   ·rw[if_neg (by omega)] at Ek;refine⟨⟨hXs,⟨n,adY _,h8⟩,n,adY _,Ek⟩,.inr (.inl ?_)⟩;apply gN;rw[hl];refine(aem 120 _).symm.trans (Eq.trans ?_ (aem 120 _));rw[Ek,ri vI.2.2.2.2,hX,List.take_append_of_le_length (by rw[adX,Db];omega),afq,show min 120 c=120 from by omega]
structure dw where
 aD:Int
 number:Int
 size:Int
 seq:Int
deriving DecidableEq
def aS(h:dw):LV:=[.i h.aD,.i h.number,.i h.size,.i h.seq]
def jU(h:dw):Prop:=1<=h.aD/\h.aD<=1152921504606846976/\1<=h.number/\h.number<=1152921504606846976/\0<=h.size/\h.size<=425984/\0<=h.seq/\h.seq<=1152921504606846976
instance(h:dw):Decidable (jU h):=by unfold jU;infer_instance
def ga(h:dw):List UInt8:=le .i64 8 h.aD++le .i64 8 h.number++le .i64 8 h.size++le .i64 8 h.seq
def mu(h:dw):(ga h).length=32:=by simp only[ga,adV,az]
def Ah:dw:=⟨0,0,0,0⟩
def sR(l:List UInt8):dw:=⟨jM (l.take 8),jM ((l.drop 8).take 8),jM (((l.drop 8).drop 8).take 8),jM ((((l.drop 8).drop 8).drop 8).take 8)⟩
def CR(l:List UInt8):Option dw:=if l.length=32/\jU (sR l) then some (sR l) else none
def Gi{h:dw}(hg:jU h):CR (ga h)=some h:=by
 obtain⟨h1,h2,h3,h4,h5,h6,h7,h8⟩:=hg;have sO:ga h=le .i64 8 h.aD++(le .i64 8 h.number++(le .i64 8 h.size++le .i64 8 h.seq)):=by simp only[ga,ad0]
 have tl:∀(a b:List UInt8)(m:Nat),a.length=m->(a++b).take m=a:=λa b m hm=>by subst hm;exact List.take_left
 have dl:∀(a b:List UInt8)(m:Nat),a.length=m->(a++b).drop m=b:=λa b m hm=>by subst hm;exact List.drop_left
 have e:sR (ga h)=h:=by
  unfold sR;rw[sO,tl _ _ _ (az _ _ _),dl _ _ _ (az _ _ _),tl _ _ _ (az _ _ _),dl _ _ _ (az _ _ _),tl _ _ _ (az _ _ _),dl _ _ _ (az _ _ _),aea (by rw[az];omega)];rw[lg ⟨by omega,h2⟩,lg ⟨by omega,h4⟩,lg ⟨h5,by omega⟩,lg ⟨h7,h8⟩]
 unfold CR;rw[e,if_pos ⟨mu h,h1,h2,h3,h4,h5,h6,h7,h8⟩]
def mr:Option dw->Value
 |none=>.tuple ⟨[.agg ⟨aS Ah⟩,.bool false]⟩
 |some h=>.tuple ⟨[.agg ⟨aS h⟩,.bool true]⟩
section
variable {W w:World} {L:LH} {k:Nat}
def BG{h:dw}{K:VK}(hs:St W w L)(hK:∀w',St W w' L->K (.bool (decide (jU h))) w'):qp (aS h) K w:=by
 unfold qp;refine fH hs λr w hs=>?_;have hh:=hK w hs.drop;have no: ¬jU h->K (.bool false) w:=λhn=>by rw[decide_eq_false hn] at hh;exact hh
 refine bJ (k:=0) hs rfl rfl ?_;simp only[nz,adQ,adR];refine de (λh1=>?_) (λh1=>no (by unfold jU;omega));refine bJ (k:=0) hs rfl rfl ?_;simp only[nz,adQ,adR];refine de (λh2=>?_) (λh1=>no (by unfold jU;omega));refine bJ (k:=0) hs rfl rfl ?_;simp only[nz,adQ,adR];refine de (λh3=>?_) (λh1=>no (by unfold jU;omega));refine bJ (k:=0) hs rfl rfl ?_;simp only[nz,adQ,adR];refine de (λh4=>?_) (λh1=>no (by unfold jU;omega));refine bJ (k:=0) hs rfl rfl ?_;simp only[nz,adQ,adR];refine de (λh5=>?_) (λh1=>no (by unfold jU;omega));refine bJ (k:=0) hs rfl rfl ?_;simp only[nz,adQ,adR];refine de (λh6=>?_) (λh1=>no (by unfold jU;omega));refine bJ (k:=0) hs rfl rfl ?_;simp only[nz,adQ,adR];refine de (λh7=>?_) (λh1=>no (by unfold jU;omega));refine bJ (k:=0) hs rfl rfl ?_;simp only[nz,adQ,adR];have:decide (h.seq<=1152921504606846976)=decide (jU h):=by rw[decide_eq_decide];unfold jU;omega
 rw[this];exact hh
def zW(h:dw):List UInt8×Int:=if jU h then(ga h,0) else([],1)
def GL{h:dw}{K:VK}(hs:St W w L)(hK:∀w',St W w' L->K (.tuple ⟨[.string (bs (zW h).1),.i (zW h).2]⟩) w'):qS (aS h) K w:=by
 unfold qS;refine fH hs λr w hs=>?_;refine fZ (k:=0) (xs:=aS h) hs rfl rfl (λj v hj=>by rw[adW];exact hj) ?_;refine BG hs λw hs=>?_;simp only[nz,adQ,adR];unfold zW at hK;by_cases hg:jU h
 ·rw[if_pos hg] at hK;rw[decide_eq_true hg];simp only[nz,adQ,adR];refine fH hs λp w hs=>?_;have hs:St W w (buf p []::pt r (aS h)::L):=by
   have h2:=(hs.push (A:=own none 0 0 1 (([]:List UInt8).map rz)) (oK 1)).perm (aej.swap _ _ _);exact pU (k:=0) (L:=buf p []::pt r (aS h)::L) (A:=buf p []) rfl rfl h2
  refine bJ (k:=1) hs rfl rfl ?_;simp only[nz,adQ,adR];refine bJ (k:=1) hs rfl rfl ?_;simp only[nz,adQ,adR];refine bJ (k:=1) hs rfl rfl ?_;simp only[nz,adQ,adR];refine bJ (k:=1) hs rfl rfl ?_;simp only[nz,adQ,adR];refine⟨λus w'=>∃j:Nat,us=[.string .empty,.i 0,.p (some ⟨p,0,none⟩),.agg ⟨aS h⟩,.i j]/\j<=4/\St W w' (buf p ((ga h).take (8* j))::pt r (aS h)::L),
   λus _=>match us with|[_,_,_,_,.int _ j]=>4-j.toNat|_=>0,⟨0,rfl,ad2 _,hs⟩,?_⟩
  rintro s1 n5 a1 Y4 n6 w2 ⟨j,he,hj,hs⟩;cases he
  refine pC (λh0=>?_) (λh0=>?_)
  ·have hj4:j<4:=by have:=of_decide_eq_true h0;omega
   have e5:=lY j;obtain⟨n,hn,dZ⟩:∃n,(aS h)[(j:Int).toNat]?=some (.i n)/\(ga h).take (8* j)++le .i64 8 n=(ga h).take (8* (j+1)):=by
    have sO:ga h=le .i64 8 h.aD++(le .i64 8 h.number++(le .i64 8 h.size++le .i64 8 h.seq)):=by simp only[ga,ad0]
    have ll:∀n,(le .i64 8 n).length=8:=λn=>az _ _ _
    match j,hj4 with
    |0,_=>exact⟨h.aD,rfl,by rw[sO,List.take_append_of_le_length (by rw[ll];omega),List.take_append_of_le_length (by rw[ll];omega),aea (l:=le .i64 8 h.aD) (i:=8* (0+1)) (by rw[ll];omega)];simp⟩
    |1,_=>exact⟨h.number,rfl,by simp only[ga,List.take_append,ll,adV];simp[aea,ll]⟩
    |2,_=>exact⟨h.size,rfl,by simp only[ga,List.take_append,ll,adV];simp[aea,ll]⟩
    |3,_=>exact⟨h.seq,rfl,by simp only[ga,List.take_append,ll,adV];simp[aea,ll]⟩
   refine⟨.i n,⟨by omega,by omega,hn⟩,?_⟩;simp only[nz,adQ,adR];refine gw (k:=0) hs rfl (by rw[adX];omega) λw hs=>?_;rw[show(min2 (max2 8 1) 8).toNat=8 from rfl,dZ] at hs;simp only[nz,adQ,adR] at hs⊢;rw[e5];exact⟨⟨j+1,rfl,by omega,hs⟩,by omega⟩
  ·have hj4:j=4:=by have:=of_decide_eq_false h0;omega
   subst hj4;rw[aea (by rw[mu];omega)] at hs;refine ji (k:=0) hs rfl ?_;simp only[nz,adQ,adR];exact hK w2 hs.drop.drop
 ·rw[if_neg hg] at hK;rw[decide_eq_false hg];simp only[nz,adQ,adR];exact hK w hs.drop
end
def yH{l:List UInt8}{n j:Int}{d:BA}(h:iG l=some (n,j,d)):d.size<=104:=by
 unfold iG at h;split at h
 ·cases h
 split at h
 ·cases h
 split at h
 ·cases h
 split at h
 ·cases h
 split at h
 ·cases h
 split at h
 ·cases h
 rename_i h6;cases h
 exact(ad6.1 h6).2.2.2.2
def nx(x:List UInt8×Bool):List UInt8×Bool:=if x.2=true\/x.1.length<8 then(x.1,true) else(x.1.drop 8,false)
def nv(x:List UInt8×Bool):Int:=if x.2=true\/x.1.length<8 then 0 else jM (x.1.take 8)
section
variable {W w:World} {L:LH} {k d:Nat} {D:ay}
def uO{r:Nat}{x:List UInt8×Bool}{K:VK}(h:St W w L)(hk:L[k]?=some (zn r (bs x.1) x.2))(hl:x.1.length<1099511627776)
 (hK:∀w',St W w' (L.set k (zn r (bs (nx x).1) (nx x).2))->K (.i (nv x)) w'):aq (some ⟨r,0,none⟩) 8 K w:=by
 refine xu h hk ?_;have em:min2 (max2 8 1) 8=((8:Nat):Int):=rfl;rw[em];obtain⟨l,t⟩:=x;unfold nx nv at hK;dsimp only at hK hl⊢;by_cases hc:t=true\/l.length<8
 ·rw[if_pos hc,if_pos hc] at hK;have et:nU (bs l) t ((8:Nat):Int)=true:=by
   unfold nU;rcases hc with h1|h1
   ·rw[h1];rfl
   ·rw[bw,decide_eq_true (by omega)];simp
  unfold zo tO;rw[et,if_pos rfl,if_pos rfl];exact hK
 ·rw[if_neg hc,if_neg hc] at hK;have ht:t=false:=by cases t<;>simp_all
  have et:nU (bs l) t ((8:Nat):Int)=false:=by
   unfold nU;rw[ht,bw,decide_eq_false (by omega)];rfl
  unfold zo tO;rw[et,adT,kM,kL];exact hK
def G5{r:Nat}{x:List UInt8×Bool}{K:VK}(h:St W w L)(hk:L[k]?=some (zn r (bs x.1) x.2))(hK:K (.bool (!x.2&&decide (x.1=[]))) w):iz (some ⟨r,0,none⟩) K w:=by
 unfold zn at hk;unfold iz;simp only[nz,adQ,adR];refine bJ h hk rfl ?_;simp only[nz,adQ,adR];obtain⟨l,t⟩:=x;cases t with
 |true=>exact hK
 |false=>
  simp only[nz,adQ,adR];refine bJ h hk rfl ?_;simp only[nz,adQ,adR];have hem:(⟨#[]⟩:BA)=bs []:=rfl;have e:decide (bs l=bs [])=decide (l=[]):=by rw[decide_eq_decide];exact yn
  rw[pN,hem,e];exact hK
def zQ{x:List UInt8×Bool}(h:(nx x).2=false):x.2=false/\8<=x.1.length/\(nx x).1.length+8=x.1.length:=by
 unfold nx at h⊢;by_cases hc:x.2=true\/x.1.length<8
 ·rw[if_pos hc] at h;cases h
 ·rw[if_neg hc];have h1:x.2=false:=by cases hx:x.2 with
   |true=>exact absurd (.inl hx) hc
   |false=>rfl
  have h2:8<=x.1.length:=by
   by_cases hh:8<=x.1.length
   ·exact hh
   ·exact absurd (.inr (by omega)) hc
  refine⟨h1,h2,?_⟩;show(x.1.drop 8).length+8=x.1.length;rw[ad4];omega
def Qv{l:List UInt8}(h:l.length≠32):(!(nx (nx (nx (nx (l,false))))).2&&decide ((nx (nx (nx (nx (l,false))))).1=[]))=false:=by
 cases h4:(nx (nx (nx (nx (l,false))))).2 with
 |true=>rfl
 |false=>
  obtain⟨b3,c3,d3⟩:=zQ h4;obtain⟨b2,c2,d2⟩:=zQ b3;obtain⟨b1,c1,d1⟩:=zQ b2;obtain⟨b0,c0,d0⟩:=zQ b1;have gU:(nx (nx (nx (nx (l,false))))).1≠[]:=λhe=>by
   rw[he,aen] at d3;dsimp only at d0;omega
  rw[decide_eq_false gU];rfl
def T1{l:List UInt8}(h:l.length=32):nx (l,false)=(l.drop 8,false)/\nx (l.drop 8,false)=((l.drop 8).drop 8,false)/\nx ((l.drop 8).drop 8,false)=(((l.drop 8).drop 8).drop 8,false)/\nx (((l.drop 8).drop 8).drop 8,false)=([],false)/\
 nv (l,false)=jM (l.take 8)/\nv (l.drop 8,false)=jM ((l.drop 8).take 8)/\nv ((l.drop 8).drop 8,false)=jM (((l.drop 8).drop 8).take 8)/\nv (((l.drop 8).drop 8).drop 8,false)=jM ((((l.drop 8).drop 8).drop 8).take 8):=by
 have l1:(l.drop 8).length=24:=by rw[ad4];omega
 have l2:((l.drop 8).drop 8).length=16:=by rw[ad4,l1]
 have l3:(((l.drop 8).drop 8).drop 8).length=8:=by rw[ad4,l2]
 have l4:(((l.drop 8).drop 8).drop 8).drop 8=[]:=List.drop_eq_nil_iff.2 (by omega);unfold nx nv;refine⟨?_,?_,?_,?_,?_,?_,?_,?_⟩
 ·rw[if_neg (by simp;omega)]
 ·rw[if_neg (by simp only[aeh,false_or];omega)]
 ·rw[if_neg (by simp only[aeh,false_or];omega)]
 ·rw[if_neg (by simp only[aeh,false_or];omega),l4]
 ·rw[if_neg (by simp;omega)]
 ·rw[if_neg (by simp only[aeh,false_or];omega)]
 ·rw[if_neg (by simp only[aeh,false_or];omega)]
 ·rw[if_neg (by simp only[aeh,false_or];omega)]
def HO(x:List UInt8×Bool):(nx x).1.length<=x.1.length:=by unfold nx;split<;>simp
def Ix{l:List UInt8}{K:VK}(hs:St W w L)(hl:l.length<1099511627776)(hK:∀w',St W w' L->K (mr (CR l)) w'):sV (bs l) K w:=by
 unfold sV;refine fH hs λr1 w hs=>?_;refine om hs λq w hs=>?_;simp only[nz,adQ,adR];have n1:=HO (l,false);have n2:=HO (nx (l,false));have n3:=HO (nx (nx (l,false)));dsimp only at n1;refine uO (k:=0) (x:=(l,false)) hs rfl hl λw hs=>?_;simp only[nz,adQ,adR] at hs⊢;refine uO (k:=0) (x:=nx (l,false)) hs rfl (by omega) λw hs=>?_;simp only[nz,adQ,adR] at hs⊢;refine uO (k:=0) (x:=nx (nx (l,false))) hs rfl (by omega) λw hs=>?_;simp only[nz,adQ,adR] at hs⊢;refine uO (k:=0) (x:=nx (nx (nx (l,false)))) hs rfl (by omega) λw hs=>?_;simp only[nz,adQ,adR] at hs⊢;refine fH hs λr2 w hs=>?_;refine⟨by simp,?_⟩;refine gA (k:=0) hs rfl (adZ rfl) (by simp[Value.oneCell']) λw hs=>?_;rw[eP (by simp)] at hs;simp only[nz,adQ,adR] at hs;refine G5 (k:=1) (x:=nx (nx (nx (nx (l,false))))) hs rfl ?_;simp only[nz,adQ,adR];have fail:∀w A B,(∀w',St W w' L->K (mr none) w')->St W w (A::B::pt r1 [.i 0,.i 0,.i 0,.i 0]::L)->gj ⟨r1,0,none⟩ [.i 0,.i 0,.i 0,.i 0] (ah ⟨r1,0,none⟩ 4 λcs=>K (.tuple ⟨[.agg ⟨cs⟩,.bool false]⟩)) w:=λw A B hK hs=>by
  refine gA (k:=2) hs rfl (adZ rfl) (by simp[Value.oneCell']) λw hs=>?_;rw[eP (by simp)] at hs;refine fZ (k:=2) (xs:=[.i 0,.i 0,.i 0,.i 0]) hs rfl rfl (λj v hj=>by rw[adW];exact hj) ?_;exact hK w hs.drop.drop.drop
 unfold CR at hK;by_cases ZP:l.length=32
 ·obtain⟨a1,a2,a3,a4,b1,b2,b3,b4⟩:=T1 ZP;rw[a1,a2,a3,a4] at hs⊢;rw[b1,b2,b3,b4] at hs;have ee:(!((([]:List UInt8),false):List UInt8×Bool).2&&decide ((((([]:List UInt8),false):List UInt8×Bool)).1=[]))=true:=by decide
  rw[ee];simp only[nz,adQ,adR];have hs:St W w (pt r2 (aS (sR l))::zn q (bs []) false::pt r1 [.i 0,.i 0,.i 0,.i 0]::L):=hs;refine fZ (k:=0) (xs:=aS (sR l)) hs rfl rfl (λj v hj=>by rw[adW];exact hj) ?_;refine BG hs λw hs=>?_;simp only[nz,adQ,adR];by_cases hg:jU (sR l)
  ·rw[if_pos ⟨ZP,hg⟩] at hK;rw[decide_eq_true hg];simp only[nz,adQ,adR];refine fZ (k:=0) (xs:=aS (sR l)) hs rfl rfl (λj v hj=>by rw[adW];exact hj) ?_;refine⟨rfl,?_⟩;refine gA (k:=2) hs rfl (adZ rfl) (by simp[Value.oneCell',aS]) λw hs=>?_;rw[eP (by simp[aS])] at hs;simp only[nz,adQ,adR] at hs;refine fZ (k:=2) (xs:=aS (sR l)) hs rfl rfl (λj v hj=>by rw[adW];exact hj) ?_;exact hK w hs.drop.drop.drop
  ·rw[if_neg (λhh=>hg hh.2)] at hK;rw[decide_eq_false hg];simp only[nz,adQ,adR];exact fail w _ _ hK hs
 ·rw[if_neg (λhh=>ZP hh.1)] at hK;rw[Qv ZP];simp only[nz,adQ,adR];exact fail w _ _ hK hs
def vT(D:ay)(i:Nat):Option dw:=
 match iG (D.read (i:Int)).1.data.toList with
 |none=>none
 |some (_,j,d)=>if(D.read (i:Int)).2≠0\/j≠0 then none else match CR d.data.toList with
  |none=>none
  |some h=>if low h.aD≠i then none else some h
def J3{i:Nat}{K:VK}(hs:St W w L)(hk:L[k]?=some (dW d D))(fJ:D.Ok)(hK:∀w',St W w' L->K (mr (vT D i)) w'):lq (some ⟨d,0,none⟩) i K w:=by
 unfold lq;refine fH hs λr1 w hs=>?_;have Pu:(pt r1 [.i 0,.i 0,.i 0,.i 0]::L)[k+1]?=some (dW d D):=by rw[ad9];exact hk
 refine nS (k:=k+1) hs Pu fJ ?_;simp only[nz,adQ,adR];have fail:∀w A,(∀w',St W w' L->K (mr none) w')->St W w (A::pt r1 [.i 0,.i 0,.i 0,.i 0]::L)->gj ⟨r1,0,none⟩ [.i 0,.i 0,.i 0,.i 0] (ah ⟨r1,0,none⟩ 4 λcs=>K (.tuple ⟨[.agg ⟨cs⟩,.bool false]⟩)) w:=λw A hK hs=>by
  refine gA (k:=1) hs rfl (adZ rfl) (by simp[Value.oneCell']) λw hs=>?_;rw[eP (by simp)] at hs;refine fZ (k:=1) (xs:=[.i 0,.i 0,.i 0,.i 0]) hs rfl rfl (λj v hj=>by rw[adW];exact hj) ?_;exact hK w hs.drop.drop
 have JT:∀w r2 A,(∀w',St W w' L->K (mr none) w')->St W w (A::pt r1 [.i 0,.i 0,.i 0,.i 0]::L)->lq.j1 K r1 r2 i true w:=λw r2 A hK hs=>by
  unfold lq.j1;simp only[nz,adQ,adR];exact fail w A hK hs
 have hxs:(D.read (i:Int)).1.size<1099511627776:=by
  by_cases hi:D.is (i:Int)
  ·have:=uv fJ hi;omega
  ·unfold ay.read;rw[if_neg hi];decide
 unfold vT at hK;generalize hx:(D.read (i:Int)).1=x at *;generalize he:(D.read (i:Int)).2=e at *;rw[show x=bs x.data.toList from rfl];refine yu hs (by rw[cy];exact hxs) λw hs=>?_;cases hv:iG x.data.toList with
 |none=>
  rw[hv] at hK;unfold pG;simp only[nz,adQ,adR];simp only[s9,ad',aen,adW,adQ,true_and];simp only[nz,adQ,adR];refine fH hs λr2 w hs=>?_;refine⟨trivial,gA (k:=0) hs rfl (adZ rfl) (by simp[Value.oneCell']) λw hs=>?_⟩;simp only[nz,adQ,adR] at hs;refine qu (λ_=>JT w r2 _ hK hs) (λ_=>?_);exact JT w r2 _ hK hs
 |some y=>
  obtain⟨m,j,dd⟩:=y;rw[hv] at hK;dsimp only at hK;unfold pG;simp only[nz,adQ,adR];simp only[s9,ad',aen,adW,adQ,true_and];simp only[nz,adQ,adR];refine fH hs λr2 w hs=>?_;refine⟨trivial,gA (k:=0) hs rfl (adZ rfl) (by simp[Value.oneCell']) λw hs=>?_⟩;rw[eP (by simp)] at hs;simp only[nz,adQ,adR] at hs;refine qu (λgU=>?_) (λh0=>?_)
  ·rw[if_pos (.inl gU)] at hK;exact JT w r2 _ hK hs
  refine bJ (k:=0) hs rfl rfl ?_;simp only[nz,adQ,adR];by_cases hj:j=0
  ·rw[if_neg (by rintro(h|h);exact h h0;exact h hj)] at hK;have ej:(j !=0)=false:=by simp[hj]
   rw[ej];unfold lq.j1;simp only[nz,adQ,adR];refine bJ (k:=0) hs rfl rfl ?_;simp only[nz,adQ,adR];rw[show dd=bs dd.data.toList from rfl];refine Ix hs (by
    rw[cy]
    have:=(yH hv)
    omega) λw hs=>?_
   cases hh:CR dd.data.toList with
   |none=>
    rw[hh] at hK;unfold mr;simp only[nz,adQ,adR];simp only[s9];refine⟨rfl,?_⟩;simp only[nz,adQ,adR];refine fH hs λr3 w hs=>?_;refine⟨by simp[aS],gA (k:=0) hs rfl (adZ rfl) (by simp[Value.oneCell',aS]) λw hs=>?_⟩;rw[eP (by simp[aS])] at hs;simp only[nz,adQ,adR] at hs;refine⟨trivial,by simp,?_⟩;refine gA (k:=2) hs rfl (adZ rfl) (by simp[Value.oneCell']) λw hs=>?_;rw[eP (by simp)] at hs;simp only[nz,adQ,adR] at hs;refine fZ (k:=2) (xs:=[.i 0,.i 0,.i 0,.i 0]) hs rfl rfl (λj v hj=>by rw[adW];exact hj) ?_;exact hK w hs.drop.drop.drop
   |some hd=>
    rw[hh] at hK;dsimp only at hK;unfold mr;simp only[nz,adQ,adR];simp only[s9];refine⟨rfl,?_⟩;simp only[nz,adQ,adR];refine fH hs λr3 w hs=>?_;refine⟨by simp[aS],gA (k:=0) hs rfl (adZ rfl) (by simp[Value.oneCell',aS]) λw hs=>?_⟩;rw[eP (by simp[aS])] at hs;simp only[nz,adQ,adR] at hs;refine bJ (k:=0) hs rfl rfl ?_;simp only[nz,adQ,adR];refine qu (λgU=>?_) (λheq=>?_)
    ·rw[if_pos (show low hd.aD≠(i:Int) from gU)] at hK;refine⟨trivial,by simp,?_⟩;refine gA (k:=2) hs rfl (adZ rfl) (by simp[Value.oneCell']) λw hs=>?_;rw[eP (by simp)] at hs;simp only[nz,adQ,adR] at hs;refine fZ (k:=2) (xs:=[.i 0,.i 0,.i 0,.i 0]) hs rfl rfl (λj v hj=>by rw[adW];exact hj) ?_;exact hK w hs.drop.drop.drop
    ·rw[if_neg (show ¬low hd.aD≠(i:Int) from λhh=>hh heq)] at hK;refine fZ (k:=0) (xs:=aS hd) hs rfl rfl (λj v hj=>by rw[adW];exact hj) ?_;refine⟨rfl,?_⟩;refine gA (k:=2) hs rfl (adZ rfl) (by simp[Value.oneCell',aS]) λw hs=>?_;rw[eP (by simp[aS])] at hs;simp only[nz,adQ,adR] at hs;refine fZ (k:=2) (xs:=aS hd) hs rfl rfl (λj v hj=>by rw[adW];exact hj) ?_;exact hK w hs.drop.drop.drop
  ·rw[if_pos (.inr hj)] at hK;have ej:(j !=0)=true:=by simp[hj]
   rw[ej];exact JT w r2 _ hK hs
end
def db(n:Nat)(x:List UInt8×Bool):List UInt8×Bool:=if x.2=true\/x.1.length<n then(x.1,true) else(x.1.drop n,false)
def iF(n:Nat)(x:List UInt8×Bool):Int:=if x.2=true\/x.1.length<n then 0 else jM (x.1.take n)
def DZ(x:List UInt8×Bool):0<=iF 4 x/\iF 4 x<4294967296:=by
 unfold iF;split
 ·omega
 ·have h1:=oG (x.1.take 4);have h2:(x.1.take 4).length<=4:=by rw[adX];omega
  have h3:256^(x.1.take 4).length<=256^4:=aeJ (by decide) h2;have h4:(256:Nat)^4=4294967296:=rfl;rw[j0 (by omega)];omega
def bG(seq:Int)(s:BA):List UInt8:=le .i64 8 seq++le .i64 4 s.size++s.data.toList
def u9(seq:Int)(s:BA):(bG seq s).length=12+s.size:=by
 simp only[bG,adV,az];rfl
def iH(D:ay)(at' to seq:Int):Option (List UInt8×Int):=
 if to<=at' then none else match iG (D.read at').1.data.toList with
 |none=>none
 |some (m,j,d)=>
  if j≠0\/iF 8 (d.data.toList,false)≠seq then none
  else if(db 4 (db 8 (d.data.toList,false))).2=true\/32768<iF 4 (db 8 (d.data.toList,false)) then none
  else match take D at' to m (12+iF 4 (db 8 (d.data.toList,false))) with
  |none=>none
  |some t=>some (t.drop 12,at'+(dA (12+iF 4 (db 8 (d.data.toList,false))).toNat:Int))
def wK:Option (List UInt8×Int)->Value
 |none=>.tuple ⟨[.string .empty,.i 0,.bool false]⟩
 |some (l,a)=>.tuple ⟨[.string (bs l),.i a,.bool true]⟩
def wk{D:ay}{at' number:Int}{size:Nat}:∀(n i:Nat) {t:List UInt8},jo D at' number size i n=some t->104* i<=size->size<=104* (i+n)->t.length=size-104* i
 |0,i,t,h,h1,h2=>by
  simp only[jo,aec.injEq] at h;subst h;simp;omega
 |n+1,i,t,h,h1,h2=>by
  rw[kP] at h;split at h
  ·cases h
  ·rename_i m j d hv;split at h
   ·rename_i hc;cases ht:jo D at' number size (i+1) n with
    |none=>rw[ht] at h;cases h
    |some u=>
     rw[ht] at h;simp only[aeD,aec.injEq] at h;subst h;have hd:d.data.toList.length=d.size:=rfl;by_cases h3:104* (i+1)<=size
     ·have:=wk n (i+1) ht h3 (by omega);rw[adV,this,hd,hc.2.2];omega
     ·
      have hz:∀(n i:Nat) {u:List UInt8},jo D at' number size i n=some u->size<=104* i->u.length=0:=by
       intro n
       induction n with
       |zero=>intro i u h _;simp only[jo,aec.injEq] at h;subst h;rfl
       |succ n ih=>
        intro i u h hle;rw[kP] at h;split at h
        ·cases h
        ·rename_i m j d hv;split at h
         ·rename_i hc;cases ht:jo D at' number size (i+1) n with
          |none=>rw[ht] at h;cases h
          |some v=>
           rw[ht] at h;simp only[aeD,aec.injEq] at h;subst h;have:=ih (i+1) ht (by omega);have hd:d.data.toList.length=d.size:=rfl;rw[adV,this,hd,hc.2.2];omega
         ·cases h
      have:=hz n (i+1) ht (by omega);rw[adV,this,hd,hc.2.2];omega
   ·cases h
def take_length{D:ay}{at' to number size:Int}{t:List UInt8}(h:take D at' to number size=some t):(t.length:Int)=size/\0<=at'/\at'+(dA size.toNat:Int)<=to/\to<=(D.safe.length:Int)/\0<=size:=by
 unfold take at h;split at h
 ·cases h
 ·rename_i hc;have hs:size.toNat<=104* dA size.toNat:=by unfold dA;split<;>omega
  have:=wk (dA size.toNat) 0 h (by omega) (by omega);omega
section
variable {W w:World} {L:LH} {k d:Nat} {D:ay}
def uN{r n:Nat}{x:List UInt8×Bool}{K:VK}(h:St W w L)(hk:L[k]?=some (zn r (bs x.1) x.2))(hl:x.1.length<1099511627776)(hn:1<=n/\n<=8)
 (hK:∀w',St W w' (L.set k (zn r (bs (db n x).1) (db n x).2))->K (.i (iF n x)) w'):aq (some ⟨r,0,none⟩) (n:Int) K w:=by
 refine xu h hk ?_;have em:min2 (max2 (n:Int) 1) 8=((n:Nat):Int):=by unfold min2 max2;split<;>split<;>omega
 rw[em];obtain⟨l,t⟩:=x;unfold db iF at hK;dsimp only at hK hl⊢;by_cases hc:t=true\/l.length<n
 ·rw[if_pos hc,if_pos hc] at hK;have et:nU (bs l) t ((n:Nat):Int)=true:=by
   unfold nU;rcases hc with h1|h1
   ·rw[h1];rfl
   ·rw[bw,decide_eq_true (by omega)];simp
  unfold zo tO;rw[et,if_pos rfl,if_pos rfl];exact hK
 ·rw[if_neg hc,if_neg hc] at hK;have ht:t=false:=by cases t<;>simp_all
  have et:nU (bs l) t ((n:Nat):Int)=false:=by
   unfold nU;rw[ht,bw,decide_eq_false (by omega)];rfl
  unfold zo tO;rw[et,adT,kM,kL];exact hK
def Bb{r:Nat}{s:BA}{t:Bool}{K:VK}(h:St W w L)(hk:L[k]?=some (zn r s t))(hK:K (.bool t) w):bt (some ⟨r,0,none⟩) K w:=by
 unfold zn at hk;unfold bt;simp only[nz,adQ,adR];refine bJ h hk rfl ?_;simp only[nz,adQ,adR];exact hK
def qI(n:Nat)(x:List UInt8×Bool):(db n x).1.length<=x.1.length:=by unfold db;split<;>simp
def KR{at' to seq:Int}{K:VK}(h:St W w L)(hk:L[k]?=some (dW d D))(fJ:D.Ok)(vK:0<=at')(Pj:to<=(D.safe.length:Int))
 (hK:∀w',St W w' L->K (wK (iH D at' to seq)) w'):c9 (some ⟨d,0,none⟩) at' to seq K w:=by
 have rP:=fJ.lH;unfold iH at hK;unfold c9;refine de (λh1=>?_) (λh1=>?_)
 ·rw[if_pos (by omega)] at hK;exact hK w h
 rw[if_neg (by omega)] at hK;refine nS h hk fJ ?_;simp only[nz,adQ,adR];have nV:=uv fJ (i:=at') ⟨by omega,by omega⟩;generalize hx:(D.read at').1=X at *;rw[show X=bs X.data.toList from rfl];refine yu h (by rw[cy];omega) λw h=>?_;cases hv:iG X.data.toList with
 |none=>
  rw[hv] at hK;unfold pG;simp only[nz,adQ,adR];simp only[s9,ad',aen,adW,adQ,true_and];simp only[nz,adQ,adR];refine fH h λr1 w h=>?_;refine⟨trivial,gA (k:=0) h rfl (adZ rfl) (by simp[Value.oneCell']) λw h=>?_⟩;rw[eP (by simp)] at h;simp only[nz,adQ,adR] at h;refine bJ (k:=0) h rfl rfl ?_;simp only[nz,adQ,adR];refine om h λq w h=>?_;simp only[nz,adQ,adR];refine uN (k:=0) (n:=8) (x:=([],false)) h rfl (by decide) (by decide) λw h=>?_;simp only[nz,adQ,adR] at h⊢;unfold c9.j1;simp only[nz,adQ,adR];exact hK w h.drop.drop
 |some y=>
  obtain⟨m,j,dd⟩:=y;rw[hv] at hK;dsimp only at hK;have Wg:=yH hv;have wX:dd.data.toList.length=dd.size:=rfl;unfold pG;simp only[nz,adQ,adR];simp only[s9,ad',aen,adW,adQ,true_and];simp only[nz,adQ,adR];refine fH h λr1 w h=>?_;refine⟨trivial,gA (k:=0) h rfl (adZ rfl) (by simp[Value.oneCell']) λw h=>?_⟩;rw[eP (by simp)] at h;simp only[nz,adQ,adR] at h;refine bJ (k:=0) h rfl rfl ?_;simp only[nz,adQ,adR];rw[show dd=bs dd.data.toList from rfl];refine om h λq w h=>?_;simp only[nz,adQ,adR];have n1:=qI 8 (dd.data.toList,false);dsimp only at n1;refine uN (k:=0) (n:=8) (x:=(dd.data.toList,false)) h rfl (by dsimp only;omega) (by decide) λw h=>?_;simp only[nz,adQ,adR] at h⊢;refine bJ (k:=1) h rfl (v:=.i j) rfl ?_;simp only[nz,adQ,adR];have stop:∀w,(∀w',St W w' L->K (wK none) w')->St W w (zn q (bs (db 8 (dd.data.toList,false)).1) (db 8 (dd.data.toList,false)).2::pt r1 [.i m,.i j,.string (bs dd.data.toList)]::L)->c9.j1 K (some ⟨q,0,none⟩) r1 (some ⟨d,0,none⟩) at' to true w:=λw hK h=>by
   unfold c9.j1;simp only[nz,adQ,adR];exact hK w h.drop.drop
  refine qu (λhj=>?_) (λhj=>?_)
  ·rw[if_pos (.inl hj)] at hK;exact stop w hK h
  by_cases hq:iF 8 (dd.data.toList,false)=seq
  ·rw[if_neg (by rintro(hh|hh);exact hh hj;exact hh hq)] at hK;have eb:(iF 8 (dd.data.toList,false)!=seq)=false:=by rw[hq];exact bne_self_eq_false seq
   rw[eb];unfold c9.j1;simp only[nz,adQ,adR];refine uN (k:=0) (n:=4) (x:=db 8 (dd.data.toList,false)) h rfl (by omega) (by decide) λw h=>?_;simp only[nz,adQ,adR] at h⊢;refine Bb (k:=0) h rfl ?_;simp only[nz,adQ,adR];have Bm:=DZ (db 8 (dd.data.toList,false));generalize hz:db 4 (db 8 (dd.data.toList,false))=z at *;generalize Pq:iF 4 (db 8 (dd.data.toList,false))=n6 at *;have Sk:∀w,(∀w',St W w' L->K (wK none) w')->St W w (zn q (bs z.1) z.2::pt r1 [.i m,.i j,.string (bs dd.data.toList)]::L)->c9.j2 K r1 (some ⟨d,0,none⟩) at' to n6 true w:=λw hK h=>by
    unfold c9.j2;simp only[nz,adQ,adR];exact hK w h.drop.drop
   refine pC (λht=>?_) (λht=>?_)
   ·rw[if_pos (.inl ht)] at hK;exact Sk w hK h
   by_cases hm:32768<n6
   ·rw[if_pos (.inr hm)] at hK;rw[decide_eq_true hm];exact Sk w hK h
   ·rw[if_neg (by rintro(hh|hh);(rw[ht] at hh;cases hh);exact hm hh)] at hK;rw[decide_eq_false hm];unfold c9.j2;simp only[nz,adQ,adR];refine bJ (k:=1) h rfl (v:=.i m) rfl ?_;simp only[nz,adQ,adR];have ew:adP.wrap (12+n6)=12+n6:=aw (by omega);rw[ew];refine DB (k:=k+2) h (by rw[ad9,ad9];exact hk) fJ λw h=>?_;cases ht:take D at' to m (12+n6) with
    |none=>
     rw[ht] at hK;unfold oJ;simp only[nz,adQ,adR];exact hK w h.drop.drop
    |some t=>
     rw[ht] at hK;dsimp only at hK;obtain⟨l1,l2,l3,l4,l5⟩:=take_length ht;unfold oJ;simp only[nz,adQ,adR];refine jG h λw h=>?_;unfold jb;refine⟨⟨by omega,by rw[bw];omega⟩,?_⟩;rw[show(12:Int).toNat=12 from rfl,kL];obtain⟨p,hp⟩:=ad3 (show 0<=12+n6 by omega);rw[hp] at hK⊢l3;refine m9 (by omega) ?_;simp only[nz,adQ,adR];rw[adT] at hK l3;have Ye:adP.wrap (at'+(dA p:Int))=at'+(dA p:Int):=aw (by omega);rw[Ye];exact hK w h.drop.drop
  ·rw[if_pos (.inr hq)] at hK;have eb:(iF 8 (dd.data.toList,false)!=seq)=true:=by simp[hq]
   rw[eb];exact stop w hK h
def Ib{seq:Int}{s:BA}{K:VK}(h:St W w L)(hs:s.size<=1000000)(hK:∀w',St W w' L->K (.string (bs (bG seq s))) w'):oL seq s K w:=by
 have hd:s.data.toList.length=s.size:=rfl;unfold oL;refine⟨trivial,?_⟩;refine fH h λp w hs=>?_;have hs:St W w (buf p []::L):=by
  have h2:=(hs.push (A:=own none 0 0 1 (([]:List UInt8).map rz)) (oK 1)).perm (aej.swap _ _ _);exact pU (k:=0) (L:=buf p []::L) (A:=buf p []) rfl rfl h2
 refine gw (k:=0) hs rfl (by simp) λw hs=>?_;rw[show(min2 (max2 8 1) 8).toNat=8 from rfl] at hs;simp only[nz,adQ,adR] at hs⊢;refine gw (k:=0) hs rfl (by simp only[adV,az,aen];omega) λw hs=>?_;rw[show(min2 (max2 4 1) 8).toNat=4 from rfl] at hs;simp only[nz,adQ,adR] at hs⊢;refine mR (k:=0) hs rfl (by simp only[adV,az,aen];omega) λw hs=>?_;simp only[nz,adQ,adR] at hs⊢;refine ji (k:=0) hs rfl ?_;simp only[nz,adQ,adR];rw[aev];exact hK w hs.drop
structure PJ where
 lo:Int
 hi:Int
 at':Int
 seq:Int
 dX:Bool
def nG(d:Nat)(J:PJ):LV:=[.p (some ⟨d,0,none⟩),.i J.lo,.i J.hi,.i J.at',.i J.seq,.bool J.dX]
structure PJ.Ok(J:PJ)(D:ay):Prop where
 lo:0<=J.lo
 DA:J.lo<=J.at'
 Mi:J.at'<=J.hi
 hi:J.hi<=(D.safe.length:Int)
 seq:0<=J.seq/\J.seq<=1152921504606850000
def room(J:PJ)(n:Int):Prop:=0<=n/\n<=32768/\(dA (12+n.toNat):Int)<=J.hi-J.at'
instance(J:PJ)(n:Int):Decidable (room J n):=by unfold room;infer_instance
def yp(J:PJ)(s:BA)(R:ay×Int):ay×PJ×Int:=
 if R.2≠0 then(R.1,{J with dX:=true},R.2) else(R.1,{J with at':=J.at'+(dA (12+s.size):Int),seq:=J.seq+1},0)
def py(D:ay)(J:PJ)(number:Int)(s:BA):ay×PJ×Int:=
 if J.dX=true then(D,J,9)
 else if number<1\/1152921504606846976<number then(D,J,1)
 else if ¬room J s.size\/1152921504606846976<=J.seq then(D,J,6)
 else yp J s (cA D J.at' J.hi number (bs (bG (J.seq+1) s)))
section
variable {r:Nat} {J:PJ}
def OO{K:VK}(h:St W w L)(hk:L[k]?=some (pt r (nG d J)))(hK:K (.i J.seq) w):gn (some ⟨r,0,none⟩) K w:=by
 unfold gn;simp only[nz,adQ,adR];refine bJ h hk rfl ?_;simp only[nz,adQ,adR];exact hK
def EG{K:VK}(h:St W w L)(hk:L[k]?=some (pt r (nG d J)))(hK:∀w',St W w' (L.set k (pt r (nG d {J with at':=J.lo})))->K (.tuple ⟨[]⟩) w'):fN (some ⟨r,0,none⟩) K w:=by
 unfold fN;simp only[nz,adQ,adR];refine bJ h hk rfl ?_;simp only[nz,adQ,adR];refine l7 h hk (adZ rfl) rfl λw h=>?_;exact hK w h
def Bc{n:Int}{K:VK}(h:St W w L)(hk:L[k]?=some (pt r (nG d J)))(hJ:J.Ok D)(fJ:D.Ok)(hK:∀w',St W w' L->K (.bool (decide (room J n))) w'):fM (some ⟨r,0,none⟩) n K w:=by
 have rP:=fJ.lH;obtain⟨j1,j2,j3,j4,j5⟩:=hJ;unfold fM;refine jG h λw h=>?_;have hh:=hK w h;have no: ¬room J n->K (.bool false) w:=λhn=>by rw[decide_eq_false hn] at hh;exact hh
 simp only[nz,adQ,adR];refine de (λh1=>?_) (λh1=>no (λhr=>by have:=hr.1;omega));refine de (λh2=>?_) (λh2=>no (λhr=>by have:=hr.2.1;omega));refine bJ h hk rfl ?_;simp only[nz,adQ,adR];refine bJ h hk rfl ?_;simp only[nz,adQ,adR];obtain⟨m,rfl⟩:=ad3 (show 0<=n by omega);have ew:adP.wrap (12+(m:Int))=((12+m:Nat):Int):=by rw[aw (by omega)];omega
 rw[ew];refine m9 (by omega) ?_;simp only[nz,adQ,adR];refine gB h hk rfl ?_;refine gB h hk rfl ?_;have Ye:adP.wrap (J.hi-J.at')=J.hi-J.at':=aw (by omega);rw[Ye];have:decide ((dA (12+m):Int)<=J.hi-J.at')=decide (room J m):=by
  rw[decide_eq_decide];unfold room;rw[adT];omega
 rw[this];exact hh
def KX{k2:Nat}{number:Int}{s:BA}{K:VK}(h:St W w L)(hk:L[k]?=some (pt r (nG d J)))(rl:L[k2]?=some (dW d D))(gU:k≠k2)(hJ:J.Ok D)(fJ:D.Ok)(hl:D.later.length<1000000)(hs:s.size<=reachBytes)
 (hK:∀w',St W w' ((L.set k2 (dW d (py D J number s).1)).set k (pt r (nG d (py D J number s).2.1)))->K (.i (py D J number s).2.2) w'):aV (some ⟨r,0,none⟩) number s K w:=by
 have cU:s.size<=140737488351232:=hs;have rP:=fJ.lH;obtain⟨j1,j2,j3,j4,j5⟩:=hJ;have hJ:J.Ok D:=⟨j1,j2,j3,j4,j5⟩;have same:∀e,py D J number s=(D,J,e)->∀w,St W w L->K (.i e) w:=λe he w h=>by
  have:=hK w;rw[he] at this;refine this ?_;rw[jJ rl,jJ hk];exact h
 unfold aV;simp only[nz,adQ,adR];refine bJ h hk rfl ?_;simp only[nz,adQ,adR];refine pC (λPk=>same 9 (by unfold py;rw[if_pos Pk]) w h) (λPk=>?_);have Ui: ¬J.dX=true:=by rw[Pk];exact afl
 have bad:(number<1\/1152921504606846976<number)->aV.j1 K (some ⟨r,0,none⟩) s number true w:=λhb=>by
  unfold aV.j1;simp only[nz,adQ,adR];exact same 1 (by unfold py;rw[if_neg Ui,if_pos hb]) w h
 refine de (λh1=>bad (.inl h1)) (λh1=>?_);by_cases h2:1152921504606846976<number
 ·rw[decide_eq_true h2];exact bad (.inr h2)
 rw[decide_eq_false h2];have hnb: ¬(number<1\/1152921504606846976<number):=by omega
 unfold aV.j1;simp only[nz,adQ,adR];refine Bc h hk hJ fJ λw h=>?_;have full:(¬room J s.size\/1152921504606846976<=J.seq)->∀w,St W w L->aV.j2 K (some ⟨r,0,none⟩) s number true w:=λhb w h=>by
  unfold aV.j2;simp only[nz,adQ,adR];exact same 6 (by unfold py;rw[if_neg Ui,if_neg hnb,if_pos hb]) w h
 simp only[nz,adQ,adR];by_cases hr:room J s.size
 case neg=>
  rw[decide_eq_false hr];simp only[nz,adQ,adR];exact full (.inl hr) w h
 rw[decide_eq_true hr];simp only[nz,adQ,adR];refine bJ h hk rfl ?_;simp only[nz,adQ,adR];by_cases ET:1152921504606846976<=J.seq
 ·have:decide (J.seq>=1152921504606846976)=true:=decide_eq_true ET;rw[this];exact full (.inr ET) w h
 have e0:decide (J.seq>=1152921504606846976)=false:=decide_eq_false ET;rw[e0];unfold py at hK;rw[if_neg Ui,if_neg hnb,if_neg (by rintro(hh|hh);exact hh hr;exact ET hh)] at hK;unfold aV.j2;simp only[nz,adQ,adR];refine jG h λw h=>?_;refine bJ h hk rfl ?_;simp only[nz,adQ,adR];refine bJ h hk rfl ?_;simp only[nz,adQ,adR];refine bJ h hk rfl ?_;simp only[nz,adQ,adR];refine bJ h hk rfl ?_;simp only[nz,adQ,adR];have ew:adP.wrap (J.seq+1)=J.seq+1:=aw (by omega);rw[ew];refine Ib h (by have:=hr.2.1;omega) λw h=>?_;simp only[nz,adQ,adR];refine gB h hk rfl ?_;refine gB h hk rfl ?_;refine gB h hk rfl ?_;refine gB h hk rfl ?_;have wW:(bs (bG (J.seq+1) s)).size=12+s.size:=by rw[bw,u9]
 have Po:=hr.2.1;refine BV (k:=k2) h rl fJ (by omega) (by rw[wW];show _<=140737488351232;omega) λw h=>?_;simp only[nz,adQ,adR];have Wi:dA (12+s.size)<=400:=by unfold dA;split<;>omega
 have K7:=(D8 (at':=J.at') (to:=J.hi) (number:=number) (s:=bs (bG (J.seq+1) s)) fJ (by rw[wW];omega)).1;have ye:(L.set k2 (dW d (lay D J.at' J.hi number (bs (bG (J.seq+1) s))).1))[k]?=some (pt r (nG d J)):=by rw[List.getElem?_set_ne (λhh=>gU hh.symm)];exact hk
 refine gB h ye rfl ?_;unfold cA at hK;generalize hL:lay D J.at' J.hi number (bs (bG (J.seq+1) s))=R at *;obtain⟨D1,e1⟩:=R;dsimp only at h K7 ye hK⊢;have fin:∀(R:ay×Int) w,(∀w',St W w' ((L.set k2 (dW d (yp J s R).1)).set k (pt r (nG d (yp J s R).2.1)))->K (.i (yp J s R).2.2) w')->
  St W w (L.set k2 (dW d R.1))->aV.j3 K (some ⟨r,0,none⟩) s R.2 w:=λR w hK h=>by
  unfold yp at hK;obtain⟨D2,e2⟩:=R;dsimp only at hK h⊢;have SI:(L.set k2 (dW d D2))[k]?=some (pt r (nG d J)):=by rw[List.getElem?_set_ne (λhh=>gU hh.symm)];exact hk
  unfold aV.j3;refine qu (λhe=>?_) (λhe=>?_)
  ·rw[if_pos he] at hK;simp only[nz,adQ,adR];refine l7 h SI (adZ rfl) rfl λw h=>?_;exact hK w h
  ·rw[if_neg (λhh=>hh he)] at hK;refine jG h λw h=>?_;simp only[nz,adQ,adR];refine bJ h SI rfl ?_;simp only[nz,adQ,adR];have Ye:adP.wrap (12+(s.size:Int))=((12+s.size:Nat):Int):=by rw[aw (by omega)];omega
   rw[Ye];refine m9 (by omega) ?_;simp only[nz,adQ,adR];refine gB h SI rfl ?_;have ew3:adP.wrap (J.at'+(dA (12+s.size):Int))=J.at'+(dA (12+s.size):Int):=aw (by omega);rw[ew3];refine l7 h SI (adZ rfl) rfl λw h=>?_;refine bJ h (fX SI) rfl ?_;simp only[nz,adQ,adR];rw[ew];refine l7 h (fX SI) (adZ rfl) rfl λw h=>?_;rw[ae6] at h;exact hK w h
 have eqb:∀e:Int,(e==0)=decide (e=0):=λe=>by by_cases he:e=0<;>simp[he]
 by_cases he:e1=0
 ·rw[if_neg (λhh=>hh he: ¬e1≠0)] at hK;have:(e1==0)=true:=by rw[eqb];exact decide_eq_true he
  rw[this];simp only[nz,adQ,adR];refine bJ h ye rfl ?_;simp only[nz,adQ,adR];refine qz (k:=k2) h (fX rl) K7 λw h=>?_;rw[ae6] at h;simp only[nz,adQ,adR];exact fin D1.sync w hK h
 ·rw[if_pos he] at hK;have:(e1==0)=false:=by rw[eqb];exact decide_eq_false he
  rw[this];simp only[nz,adQ,adR];exact fin (D1,e1) w hK h
end
end
end Go.Sep
namespace Go.Up
open Go.Sep Go.Den Go.RowKit Go.Prog Go.Md Go.bC
def nb(n:Nat):List UInt8:=(afo 16).map λi=>UInt8.ofNat (n/256^i%256)
def re(n:Nat):(nb n).length=16:=by simp[nb]
def E8(m i:Nat)(hi:i<8):Value.int .u8 (IntKind.u8.wrap (shr .u64 (m:Int) (adP.wrap (8* (i:Int)))))=rz (UInt8.ofNat (m/256^i%256)):=by
 rw[aw (by omega)];unfold rz shr;rw[UInt8.toNat_ofNat_of_lt' (by show _<256;omega),Int.fdiv_eq_ediv_of_nonneg _ (Int.le_of_lt (Int.pow_pos (by decide)))]
 congr 1
 have e8:∀x:Int,IntKind.u8.wrap x=x%256:=λx=>by simp[IntKind.wrap,IntKind.bits,IntKind.signed]
 have e2:(8* (i:Int)).toNat=8* i:=by omega
 have e4:min (8* i) IntKind.u64.bits=8* i:=by show min (8* i) 64=_;omega
 have e3:(2:Int)^(8* i)=((256^i:Nat):Int):=by rw[Int.pow_mul];norm_cast
 rw[e8,e2,e4,e3];omega
def W5(n i:Nat)(hi:i<8):n%18446744073709551616/256^i%256=n/256^i%256:=by
 match i,hi with
 |0,_|1,_|2,_|3,_|4,_|5,_|6,_|7,_=>omega
def W6(n i:Nat)(hi:i<8):n/18446744073709551616/256^i%256=n/256^(8+i)%256:=by
 match i,hi with
 |0,_|1,_|2,_|3,_|4,_|5,_|6,_|7,_=>omega
section
variable {W:World} {L:LH} {K:VK} {X:WK}
def yC{r o:Nat}{cs:LV}{v:Value}{f:LV->LH}[i:Lc (pt r) L cs f](ho:o<cs.length)(h1:v.oneCell'=true)(h:T W (f (cs.set o v)) X):T W L (st ⟨r,o,none⟩ v X):=λw hs=>by
 obtain⟨k,hk,e⟩:=i.at_;exact l7 hs hk ho h1 λw' h'=>h w' (by rw[e];exact h')
def Sj{r:Nat}{l:List UInt8}{f:LV->LH}{K:BA->WK}[i:Lc (pt r) L (l.map rz) f](h:T W L (K (bs l))):T W L (RL (some ⟨r,0,none⟩) l.length K):=λw hs=>
 let⟨_,hk,_⟩:=i.at_;OD hs hk rfl (h w hs)
def Sm(b:OA)(c e:Nat):tI b c 0 e=b:=by
 unfold tI;split
 ·rfl
 ·cases b with
  |none=>rfl
  |some a=>simp[Addr.add]
def PX{b:OA}{n c e:Nat}{K:OA->Nat->Nat->WK}(h:T W L (K b n c)):T W L (nT b n c e none none K):=by
 unfold nT;rw[Sm];exact h
def HQ(n i:Nat):LV:=(afo 16).map λj=>if j<i\/8<=j/\j<8+i then rz (UInt8.ofNat (n/256^j%256)) else .int .u8 0
def R5{n:Nat}(h:T W L (K (.string (bs (nb n))))):T W L (sm (nm n) K):=by
 unfold sm;apply ws;intros;rename_i r1 r2;intro w hs;refine⟨λvs w=>∃i:Nat,i<=8/\vs=[.p (some (ad r1 0)),.string .empty,.p (some (ad r2 0)),.i (i:Int)]/\St W w (pt r2 (HQ n i)::pt r1 (nm n)::L),
  λvs _=>match vs with|[_,_,_,.int _ j]=>8-j.toNat|_=>0,⟨0,ad2 _,rfl,hs⟩,?_⟩
 rintro a1 s1 a2 n1 w2 ⟨i,hi,e,hs⟩;cases e
 refine T.at ?_ hs;refine dP (λh1=>?_) (λh1=>?_)
 ·have aZ:i<8:=by omega
  have e8:adP.wrap (8* (i:Int))=8* (i:Int):=aw (by omega);have e9:adP.wrap (8+(i:Int))=((8+i:Nat):Int):=by rw[aw (by omega)];omega
  have e5:=lY i;simp only[dU,adW,e8,e9,e5,adT,afp]
  repeat' first|apply ws;intros|apply wb|with_reducible first|refine cN (by omega) ?_|refine yC (by simp[HQ];omega) rfl ?_|fail
  rw[<-e8,E8 _ _ aZ,E8 _ _ aZ,W5 _ _ aZ,W6 _ _ aZ];have e:((HQ n i).set i (rz (UInt8.ofNat (n/256^i%256)))).set (8+i) (rz (UInt8.ofNat (n/256^(8+i)%256)))=HQ n (i+1):=by
   apply afb;intro j;rw[aeo,aeo];simp only[HQ,aeX,aei,List.length_range,aeF];by_cases h1:8+i=j
   ·subst h1;rw[if_pos rfl,if_pos (by omega),afk (by omega),aeD,if_pos (by omega)]
   ·rw[if_neg h1];by_cases h2:i=j
    ·subst h2;rw[if_pos rfl,if_pos (by omega),afk (by omega),aeD,if_pos (by omega)]
    ·rw[if_neg h2];by_cases h3:j<16
     ·rw[afk h3,aeD,aeD];by_cases h4:j<i\/8<=j/\j<8+i
      ·rw[if_pos h4,if_pos (by omega)]
      ·rw[if_neg h4,if_neg (by omega)]
     ·rw[aeT (by simpa using h3)];rfl
  rw[e];exact λw3 h3=>⟨⟨i+1,aZ,rfl,h3⟩,by show 8-((i+1:Nat):Int).toNat<8-(i:Int).toNat;omega⟩
 ·have he:i=8:=by omega
  subst he;have e:HQ n 8=(nb n).map rz:=by
   unfold HQ nb;rw[aft];apply ae9;intro j hj;rw[if_pos (by have:=List.mem_range.1 hj;omega)];rfl
  rw[e];refine PX ?_;have:=Sj (W:=W) (L:=Sep.pt r2 ((nb n).map rz)::Sep.pt r1 (nm n)::L) (r:=r2) (l:=nb n) (K:=λs2=>K (.string s2)) (by exact T.dp h);rw[re] at this;exact this
def WV{A j:Nat}{c:UInt8}(hj:j<8)(hA:A<256^j):bB .u64 .or (A:Int) (shl .u64 (IntKind.u64.wrap (c.toNat:Int)) (8* (j:Int)))=((A+c.toNat* 256^j:Nat):Int):=by
 have hc:=c.toNat_lt;have K4:256^j=2^(8* j):=by rw[show(256:Nat)=2^8 from rfl,<-Nat.pow_mul]
 have aax:c.toNat* 2^(8* j)+2^(8* j)<=2^64:=by
  have h1:(c.toNat+1)* 2^(8* j)<=2^8* 2^(8* j):=aeE _ hc;rw[<-Nat.pow_add,afg,Nat.one_mul] at h1;exact Nat.le_trans h1 (aeJ (by decide) (by omega))
 rw[K4] at hA;have ew:IntKind.u64.wrap (c.toNat:Int)=(c.toNat:Int):=og (by omega);have esh:shl .u64 (c.toNat:Int) (8* (j:Int))=((c.toNat* 2^(8* j):Nat):Int):=by
  unfold shl;have h1:(8* (j:Int)).toNat=8* j:=by omega
  have h2:min (8* j) IntKind.u64.bits=8* j:=by show min (8* j) 64=_;omega
  rw[h1,h2];have:((c.toNat:Int)* 2^(8* j))=((c.toNat* 2^(8* j):Nat):Int):=by norm_cast
  rw[this];exact og (by omega)
 rw[ew,esh,K4];show IntKind.u64.wrap (((BitVec.ofInt 64 (A:Int)|||BitVec.ofInt 64 ((c.toNat* 2^(8* j):Nat):Int)).toNat:Nat):Int)=_;rw[BitVec.toNat_or];have t1:(BitVec.ofInt 64 (A:Int)).toNat=A:=by simp only[BitVec.toNat_ofInt];omega
 have t2:(BitVec.ofInt 64 ((c.toNat* 2^(8* j):Nat):Int)).toNat=c.toNat* 2^(8* j):=by simp only[BitVec.toNat_ofInt];omega
 rw[t1,t2,Nat.or_comm,<-Nat.shiftLeft_eq,<-Nat.shiftLeft_add_eq_or_of_lt hA,Nat.add_comm,Nat.shiftLeft_eq];exact og (by omega)
def DI{l:List UInt8}{i:Nat}{K:UInt8->WK}{c:UInt8}(hc:l[i]?=some c)(h:T W L (K c)):T W L (u3 (bs l) (i:Int) K):=λw hs=>⟨c,⟨by omega,by rw[adT];exact hc⟩,h w hs⟩
def An:∀(l m:List UInt8),jW (l++m)=jW l+256^l.length* jW m
 |[],m=>by simp[jW]
 |c::l,m=>by simp only[ae5,jW,An l m,ad',Nat.pow_succ];rw[Nat.mul_add,Nat.add_assoc,afr (256^l.length) 256,Nat.mul_assoc]
def KL(l:List UInt8):Nat:=if l.length<16 then 0 else jW (l.take 16)
def G4{l:List UInt8}(hl:l.length<1099511627776)(h:T W L (K (.tuple ⟨[.agg ⟨nm (KL l)⟩,.bool (decide (16<=l.length))]⟩))):T W L (ny (bs l) K):=by
 unfold ny KL at *;rw[bw];apply ws;intros;rename_i r1 r2;refine dP (λh1=>?_) (λh1=>?_)
 ·have h2:l.length<16:=by omega
  rw[if_pos h2,decide_eq_false (by omega)] at h;apply ws;intros;exact T.dp h
 have h2: ¬l.length<16:=by omega
 rw[if_neg h2,decide_eq_true (by omega)] at h;intro w hs;refine⟨λvs w=>∃i:Nat,i<=8/\vs=[.p (some (ad r1 0)),.bool false,.p (some (ad r2 0)),.i (i:Int)]/\St W w (Sep.pt r2 [.u (jW ((l.drop 8).take i):Int),.u (jW (l.take i):Int)]::Sep.pt r1 [.u 0,.u 0]::L),
  λvs _=>match vs with|[_,_,_,.int _ j]=>8-j.toNat|_=>0,⟨0,ad2 _,rfl,hs⟩,?_⟩
 rintro a1 b1 a2 n1 w2 ⟨i,hi,e,hs⟩;cases e
 refine T.at ?_ hs;refine dP (λh1=>?_) (λh1=>?_)
 ·have aZ:i<8:=by omega
  have e8:adP.wrap (8* (i:Int))=8* (i:Int):=aw (by omega);have e9:adP.wrap (8+(i:Int))=((8+i:Nat):Int):=by rw[aw (by omega)];omega
  have e5:=lY i;have g1:i<l.length:=by omega
  have g2:8+i<l.length:=by omega
  have v1:=oG (l.take i);have v2:=oG ((l.drop 8).take i);rw[adX,afj (by omega)] at v1;rw[adX,ad4,afj (by omega)] at v2;have c1:=adS g1;have c2:=adS g2;simp only[dU,adW,e8,e9,e5];apply ws;intros;refine DI c1 ?_
  repeat' first|apply ws;intros|apply wb|with_reducible first|refine cN (by omega) ?_|refine DI c1 ?_|refine DI c2 ?_|fail
  rw[WV aZ v1,WV aZ v2];have t1:jW (l.take i)+l[i].toNat* 256^i=jW (l.take (i+1)):=by rw[aeM g1,oT,adX,afj (by omega)]
  have t2:jW ((l.drop 8).take i)+l[8+i].toNat* 256^i=jW ((l.drop 8).take (i+1)):=by
   have hd:min i (l.drop 8).length=i:=by rw[ad4];omega
   rw[aeM (by rw[ad4];omega),oT,adX,hd,List.getElem_drop]
  rw[t1,t2];exact λw3 h3=>⟨⟨i+1,aZ,rfl,h3⟩,by show 8-((i+1:Nat):Int).toNat<8-(i:Int).toNat;omega⟩
 ·have he:i=8:=by omega
  subst he;have v1:=oG (l.take 8);rw[adX,afj (by omega)] at v1;have e:l.take 16=l.take 8++(l.drop 8).take 8:=by rw[<-List.take_add]
  have ev:jW (l.take 16)=jW (l.take 8)+18446744073709551616* jW ((l.drop 8).take 8):=by
   rw[e,An,adX,afj (by omega)]
  have e3:(256:Nat)^8=18446744073709551616:=rfl;rw[Nr (jW (l.take 16)) (by omega) (by omega)];apply ws;intros;exact T.dp h
end
class oQ(b:OA)(n c:outParam Nat)(L:LH)(e:outParam Nat)(xs:outParam (LV))(f:outParam (HP->LH)):Prop where
 at_:∃k:Nat,L[k]?=some (own b n c e xs)/\∀A,f A=L.set k A
instance oQ.head{b:OA}{n c e:Nat}{xs:LV}{L:LH}:oQ b n c (own b n c e xs::L) e xs (λA=>A::L):=⟨0,rfl,λ_=>rfl⟩
instance oQ.tail{b:OA}{n c e:Nat}{xs:LV}{L:LH}{A:HP}{f:HP->LH}[h:oQ b n c L e xs f]:oQ b n c (A::L) e xs (λB=>A::f B):=by
 obtain⟨k,h1,h2⟩:=h.at_;exact⟨k+1,h1,λy=>by rw[h2];rfl⟩
section
variable {W:World} {L:LH} {K:VK} {X:WK} {b:OA} {n c e:Nat} {xs ys:LV} {f:HP->LH}
def MP{s:BA}{K:OA->Nat->Nat->WK}[i:oQ b n c L 1 xs f](hb:n+s.size<=140737488355328)(h:∀b' c',T W (f (own b' (n+s.size) c' 1 (xs++strCells s))) (K b' (n+s.size) c')):T W L (BP b n c s K):=λw hs=>by
 obtain⟨k,hk,e⟩:=i.at_;exact BO hs hk hb λb' c' w' h'=>h b' c' w' (by rw[e];exact h')
def MQ{r bytes:Nat}{zero:LV}{g:LV->LH}{K:OA->Nat->Nat->WK}[i:oQ b n c L e xs f][j:Lc (Sep.pt r) L ys g](hy:ys.length=e)(hz:zero.length=e)(hb:(n+1)* bytes<=140737488355328)(h1:∀v∈ys,v.oneCell'=true)
 (h:∀b' c',T W (f (own b' (n+1) c' e (xs++ys))) (K b' (n+1) c'))(hm:n+1<=9223372036854775807:=by omega):T W L (eS e bytes zero b n c (some ⟨r,0,none⟩) 1 K):=λw hs=>by
 obtain⟨k,hk,e1⟩:=i.at_;obtain⟨k2,rl,_⟩:=j.at_;refine pX hs hk (ys:=ys) (BS (o:=0) hs rl (by omega) λj v hv=>by rw[adW];exact hv) (λhh=>by cases hh) hz hb hm h1 λb' c' w' h'=>h b' c' w' (by rw[e1];exact h')
def bQ{i:Int}{K:Addr->WK}[l:oQ b n c L e xs f](hi:0<=i/\i<n)(h:∀r,b=some ⟨r,0,none⟩->T W L (K ⟨r,i.toNat* e,none⟩)):T W L (fO b n i e K):=λw hs=>by
 obtain⟨k,hk,_⟩:=l.at_;exact sH hs hk hi λr hr=>h r hr w hs
def rd(r:Nat)(x:List UInt8×Bool):HP:=zn r (bs x.1) x.2
variable {r:Nat} {x:List UInt8×Bool} {g:List UInt8×Bool->LH}
def EI[i:Lc (rd r) L x g](hl:x.1.length<1099511627776)(m:Nat)(hm:1<=m/\m<=8)(h:T W (g (db m x)) (K (.i (iF m x)))):T W L (aq (some ⟨r,0,none⟩) (m:Int) K):=λw hs=>by
 obtain⟨k,hk,e⟩:=i.at_;exact uN hs hk hl hm λw' h'=>h w' (by rw[e];exact h')
def qZ[i:Lc (rd r) L x g](hl:x.1.length<1099511627776)(h:T W (g (db 1 x)) (K (.i (iF 1 x)))):T W L (aq (some ⟨r,0,none⟩) 1 K):=EI hl 1 (by decide) h
def Ae[i:Lc (rd r) L x g](hl:x.1.length<1099511627776)(h:T W (g (db 2 x)) (K (.i (iF 2 x)))):T W L (aq (some ⟨r,0,none⟩) 2 K):=EI hl 2 (by decide) h
def Kb[i:Lc (rd r) L x g](hl:x.1.length<1099511627776)(h:T W (g (db 4 x)) (K (.i (iF 4 x)))):T W L (aq (some ⟨r,0,none⟩) 4 K):=EI hl 4 (by decide) h
def s7[i:Lc (rd r) L x g](hl:x.1.length<1099511627776)(h:T W (g (db 8 x)) (K (.i (iF 8 x)))):T W L (aq (some ⟨r,0,none⟩) 8 K):=EI hl 8 (by decide) h
def vW(x:List UInt8×Bool):Nat:=if x.2=true then 0 else KL x.1
def qI(m:Nat)(x:List UInt8×Bool):(db m x).1.length<=x.1.length:=by
 unfold db;split
 ·exact adY _
 ·simp
def VU(m:Nat)(x:List UInt8×Bool):List UInt8:=if x.2=true\/x.1.length<m then[] else x.1.take m
def VA[i:Lc (rd r) L x g](m:Nat)(h:T W (g (db m x)) (K (.string (bs (VU m x))))):T W L (cH (some ⟨r,0,none⟩) (m:Int) K):=λw hs=>by
 obtain⟨k,hk,e⟩:=i.at_;refine BU hs (show L[k]?=some (zn r (bs x.1) x.2) from hk) λw' h'=>?_;obtain⟨l,t⟩:=x;unfold db VU at h;dsimp only at h h'⊢;by_cases hc:t=true\/l.length<m
 ·rw[if_pos hc,if_pos hc] at h;have et:nU (bs l) t m=true:=by
   unfold nU;rcases hc with h1|h1
   ·rw[h1];rfl
   ·rw[bw,decide_eq_true (by omega)];simp
  unfold zo tO at *;rw[et] at h'⊢;exact h w' (by rw[e];exact h')
 ·rw[if_neg hc,if_neg hc] at h;have ht:t=false:=by cases t<;>simp_all
  have et:nU (bs l) t m=false:=by
   unfold nU;rw[ht,bw,decide_eq_false (by omega)];rfl
  unfold zo tO at *;rw[et,adT,kL] at h';rw[et,adT,kM];exact h w' (by rw[e];exact h')
def Qy(x:List UInt8×Bool):KL (VU 16 x)=vW x:=by
 unfold vW VU KL;obtain⟨l,t⟩:=x;cases t with
 |true=>rfl
 |false=>
  dsimp only;by_cases h2:l.length<16
  ·have e:(if false=true\/l.length<16 then([]:List UInt8) else l.take 16)=[]:=if_pos (Or.inr h2);rw[e];simp[h2]
  ·have e:(if false=true\/l.length<16 then([]:List UInt8) else l.take 16)=l.take 16:=if_neg (by simp;omega);rw[e,afq,adX,if_neg (by omega),if_neg (by decide),if_neg h2];rfl
def EH[i:Lc (rd r) L x g](hl:x.1.length<1099511627776)(h:T W (g (db 16 x)) (K (.agg ⟨nm (vW x)⟩))):T W L (bn (some ⟨r,0,none⟩) K):=by
 unfold bn;apply ws;intros;refine VA 16 ?_;have hr:(VU 16 x).length<1099511627776:=by unfold VU;split<;>simp;omega
 repeat' first|apply ws;intros|apply wb|with_reducible refine G4 hr ?_|fail
 rw[Qy];exact T.dp h
def uM[i:Lc (rd r) L x g](h:T W L (K (.bool x.2))):T W L (bt (some ⟨r,0,none⟩) K):=λw hs=>by
 obtain⟨k,hk,e⟩:=i.at_;exact Bb hs (show L[k]?=some (zn r (bs x.1) x.2) from hk) (h w hs)
def OV[i:Lc (rd r) L x g](h:T W L (K (.bool (!x.2&&decide (x.1=[]))))):T W L (iz (some ⟨r,0,none⟩) K):=λw hs=>by
 obtain⟨k,hk,e⟩:=i.at_;exact G5 hs (show L[k]?=some (zn r (bs x.1) x.2) from hk) (h w hs)
def ME{α:Type}{P:α->HP}{a:α}{f:α->LH}[i:Lc P L a f](h:∀R,(∀y Y,T W (f y) Y->T W (P y::R) Y)->T W (P a::R) X):T W L X:=λw hs=>by
 obtain⟨k,hk,e⟩:=i.at_;refine h (L.eraseIdx k) (λy Y hy w' h'=>hy w' ?_) w (hs.focus hk);rw[e];exact St.nB h' hk
def RW[i:Lc (rd r) L x g](h:T W L (K (.i (if x.2=true then 0 else(x.1.length:Int))))):T W L (mm (some ⟨r,0,none⟩) K):=by
 unfold mm;simp only[zR,dU,adW,Option.isNone_some,ch];intro w hs;obtain⟨k,hk,e⟩:=i.at_;refine bJ hs (show L[k]?=some (Sep.pt r [.string (bs x.1),.bool x.2]) from hk) rfl ?_;rw[Mo];cases hx:x.2 with
 |true=>rw[gW];rw[hx,if_pos rfl] at h;exact h w hs
 |false=>
  rw[ch];refine bJ hs (show L[k]?=some (Sep.pt r [.string (bs x.1),.bool x.2]) from hk) rfl ?_;rw[Mn];rw[hx,if_neg (by decide)] at h;exact h w hs
variable {p:Nat} {l:List UInt8} {q:List UInt8->LH}
def EB[i:Lc (buf p) L l q](hl:l.length<1099511627776)(m:Nat)(hm:1<=m/\m<=8){n:Int}(h:T W (q (l++le .i64 m n)) (K (.tuple ⟨[]⟩))):T W L (aE (some ⟨p,0,none⟩) (m:Int) n K):=λw hs=>by
 obtain⟨k,hk,e⟩:=i.at_;refine gw hs hk hl λw' h'=>h w' ?_;have em:min2 (max2 (m:Int) 1) 8=((m:Nat):Int):=by unfold min2 max2;split<;>split<;>omega
 rw[em,adT] at h';rw[e];exact h'
def pM[i:Lc (buf p) L l q](hl:l.length<1099511627776){n:Int}(h:T W (q (l++le .i64 1 n)) (K (.tuple ⟨[]⟩))):T W L (aE (some ⟨p,0,none⟩) 1 n K):=EB hl 1 (by decide) h
def Ad[i:Lc (buf p) L l q](hl:l.length<1099511627776){n:Int}(h:T W (q (l++le .i64 2 n)) (K (.tuple ⟨[]⟩))):T W L (aE (some ⟨p,0,none⟩) 2 n K):=EB hl 2 (by decide) h
def J7[i:Lc (buf p) L l q](hl:l.length<1099511627776){n:Int}(h:T W (q (l++le .i64 4 n)) (K (.tuple ⟨[]⟩))):T W L (aE (some ⟨p,0,none⟩) 4 n K):=EB hl 4 (by decide) h
def uL[i:Lc (buf p) L l q](hl:l.length<1099511627776){n:Int}(h:T W (q (l++le .i64 8 n)) (K (.tuple ⟨[]⟩))):T W L (aE (some ⟨p,0,none⟩) 8 n K):=EB hl 8 (by decide) h
def pY[i:Lc (buf p) L l q](h:T W L (K (.string (bs l)))):T W L (bW (some ⟨p,0,none⟩) K):=λw hs=>by
 obtain⟨k,hk,e⟩:=i.at_;exact ji hs hk (h w hs)
def WL[i:Lc (buf p) L l q](h:∀b c R,(∀l' b n c Y,n=l'.length->T W (q l') Y->T W (Sep.pt p [.l b n c]::own b n c 1 (l'.map rz)::R) Y)->T W (Sep.pt p [.l b l.length c]::own b l.length c 1 (l.map rz)::R) X):T W L X:=
 ME (P:=buf p) λR hc w hs=>by
  obtain⟨⟨b,c⟩,hs⟩:=hs.ex;exact h b c R (λl' b n c Y hn hy w h'=>hc l' Y hy w (by subst hn;exact St.nJ (b,c) (St.join h'))) w hs.split
def EA[i:Lc (buf p) L l q](hl:l.length<1099511627776){n:Nat}(h:T W (q (l++nb n)) (K (.tuple ⟨[]⟩))):T W L (iy (some ⟨p,0,none⟩) (nm n) K):=by
 unfold iy;refine WL (p:=p) λb c R hc=>?_;simp only[zR]
 repeat' first|apply ws;intros|apply wb|with_reducible first|refine R5 ?_|refine MP (by rw[bw,re];omega) λ_ _=>?_|fail
 have e:l.map rz++strCells (bs (nb n))=(l++nb n).map rz:=by rw[aep];rfl
 rw[e];exact T.drop (hc _ _ _ _ _ (by rw[adV,bw]) h)
def RU[i:Lc (buf p) L l q](hl:l.length<1099511627776){b:Bool}(h:T W (q (l++[if b then 1 else 0])) (K (.tuple ⟨[]⟩))):T W L (ml (some ⟨p,0,none⟩) b K):=by
 unfold ml;cases b with
 |true=>rw[gW];refine pM hl (zj ?_);exact h
 |false=>rw[ch];refine pM hl (zj ?_);exact h
end
end Go.Up
namespace Go.Up
open Go.Sep Go.Den Go.Md
def CC{p:Int->Prop}(n:Nat)(h:∀f:Fin n,p (f.val:Int)){f:Int}(h0:0<=f)(h1:f<n):p f:=by
 have:=h ⟨f.toNat,by omega⟩;simp only[Int.toNat_of_nonneg h0] at this;exact this
section
variable {f:Int}
def GR(h0:0<=f)(h1:f<256):bB .i64 .and f 2=0↔ ¬(has f 2):=CC (p:=λf=>bB .i64 .and f 2=0↔ ¬(has f 2)) 256 (by decide+kernel) h0 h1
def GQ(h0:0<=f)(h1:f<256):bB .i64 .and f 4=0↔ ¬(has f 4):=CC (p:=λf=>bB .i64 .and f 4=0↔ ¬(has f 4)) 256 (by decide+kernel) h0 h1
def OB(h0:0<=f)(h1:f<256):bB .i64 .and f 8=0↔ ¬(has f 8):=CC (p:=λf=>bB .i64 .and f 8=0↔ ¬(has f 8)) 256 (by decide+kernel) h0 h1
def Vr(h0:0<=f)(h1:f<256):bB .i64 .and f 16=0↔ ¬(has f 16):=CC (p:=λf=>bB .i64 .and f 16=0↔ ¬(has f 16)) 256 (by decide+kernel) h0 h1
def Vq(h0:0<=f)(h1:f<256):bB .i64 .and f 32=0↔ ¬(has f 32):=CC (p:=λf=>bB .i64 .and f 32=0↔ ¬(has f 32)) 256 (by decide+kernel) h0 h1
def OC(h0:0<=f)(h1:f<256):bB .i64 .and f 64=0↔ ¬(has f 64):=CC (p:=λf=>bB .i64 .and f 64=0↔ ¬(has f 64)) 256 (by decide+kernel) h0 h1
def J1(h0:0<=f)(h1:f<256):bB .i64 .and f 128=0↔ ¬(has f 128):=CC (p:=λf=>bB .i64 .and f 128=0↔ ¬(has f 128)) 256 (by decide+kernel) h0 h1
def S7(h0:0<=f)(h1:f<256):bB .i64 .and f 12=0↔ ¬(gv f):=CC (p:=λf=>bB .i64 .and f 12=0↔ ¬(gv f)) 256 (by decide+kernel) h0 h1
def Zb(h0:0<=f)(h1:f<256):bB .i64 .and f 48=0↔ ¬(has f 16\/has f 32):=CC (p:=λf=>bB .i64 .and f 48=0↔ ¬(has f 16\/has f 32)) 256 (by decide+kernel) h0 h1
def Zc(h0:0<=f)(h1:f<256):bB .i64 .and f 6=6↔(has f 2/\has f 4):=CC (p:=λf=>bB .i64 .and f 6=6↔(has f 2/\has f 4)) 256 (by decide+kernel) h0 h1
def acZ(h0:0<=f)(h1:f<256):bB .i64 .and f 240=0↔ ¬(16<=f):=CC (p:=λf=>bB .i64 .and f 240=0↔ ¬(16<=f)) 256 (by decide+kernel) h0 h1
def ac0(h0:0<=f)(h1:f<256):bB .i64 .and f 192=0↔(f<64):=CC (p:=λf=>bB .i64 .and f 192=0↔(f<64)) 256 (by decide+kernel) h0 h1
def S6(h0:0<=f)(h1:f<256):bB .i64 .andNot f 1=f/2* 2:=CC (p:=λf=>bB .i64 .andNot f 1=f/2* 2) 256 (by decide+kernel) h0 h1
def S5(h0:0<=f)(h1:f<16):bB .i64 .andNot f 8=f%8:=CC (p:=λf=>bB .i64 .andNot f 8=f%8) 16 (by decide+kernel) h0 h1
def Y'(h0:0<=f)(h1:f<16):bB .i64 .or f 8=f%8+8:=CC (p:=λf=>bB .i64 .or f 8=f%8+8) 16 (by decide+kernel) h0 h1
def S8(h0:0<=f)(h1:f<256):bB .i64 .and f 6=f/2%4* 2:=CC (p:=λf=>bB .i64 .and f 6=f/2%4* 2) 256 (by decide+kernel) h0 h1
def q6(n:Int):Prop:= -9223372036854775808<=n/\n<=9223372036854775807
def Vp(h:q6 f):(bB .i64 .andNot f 7!=0)=decide (f<0\/7<f):=by
 have key:∀x:BitVec 64,(x&&&~~~(BitVec.ofInt 64 7))=0#64↔x.toNat<8:=λx=>by
  constructor
  ·intro hx;refine Nat.lt_pow_two_of_testBit (n:=3) _ λi hi=>?_;have:=congrArg (λy=>y.getLsbD i) hx;by_cases aaI:i<64
   ·simp only[BitVec.getLsbD_and,BitVec.getLsbD_not,BitVec.getLsbD_zero,aaI,decide_true,aeU] at this;have h7:(BitVec.ofInt 64 7).getLsbD i=false:=by
     have:(BitVec.ofInt 64 7).toNat=7:=rfl;show Nat.testBit (BitVec.ofInt 64 7).toNat i=false;rw[this];exact Nat.testBit_lt_two_pow (Nat.lt_of_lt_of_le (by decide:7<2^3) (aeJ (by decide) hi))
    rw[h7] at this;simpa [BitVec.getLsbD] using this
   ·exact Nat.testBit_lt_two_pow (Nat.lt_of_lt_of_le x.isLt (aeJ (by decide) (by omega)))
  ·intro hx;have Uc:x=BitVec.ofNat 64 x.toNat:=by simp
   rw[Uc];generalize x.toNat=m at hx
   match m,hx with
   |0,_|1,_|2,_|3,_|4,_|5,_|6,_|7,_=>rfl
 unfold q6 at h;unfold bB;dsimp only;show(adP.wrap (((BitVec.ofInt 64 f&&&~~~(BitVec.ofInt 64 7)).toNat:Nat):Int)!=0)=_;have hw:∀y:BitVec 64,(adP.wrap ((y.toNat:Nat):Int)!=0)=decide (y≠0#64):=λy=>by
  have hy:=y.isLt;have:adP.wrap ((y.toNat:Nat):Int)=0↔y=0#64:=by
   constructor
   ·intro h0;apply BitVec.eq_of_toNat_eq;simp[IntKind.wrap,IntKind.bits,IntKind.signed] at h0;simp;split at h0<;>omega
   ·intro h0;subst h0;rfl
  by_cases h0:y=0#64
  ·rw[decide_eq_false (by simpa using h0)];simp[this.2 h0]
  ·rw[decide_eq_true h0];have: ¬adP.wrap ((y.toNat:Nat):Int)=0:=λhh=>h0 (this.1 hh);simpa using this
 rw[hw,decide_eq_decide,ne_eq,key];simp only[BitVec.toNat_ofInt];omega
def Za(h:q6 f):bB .i64 .andNot f 7=0↔ ¬(f<0\/7<f):=by
 have:=Vp h;by_cases h1:f<0\/7<f
 ·rw[decide_eq_true h1] at this;simpa [h1] using this
 ·rw[decide_eq_false h1] at this;simpa [h1] using this
end
end Go.Up
namespace Go.Up
open Go.Sep Go.Den Go.RowKit Go.Prog Go.Md
abbrev Move:=Go.Md.Move
abbrev aP:=Go.Md.aP
abbrev Kept:=Go.Md.Kept
def ak(a:aP):LV:=nm a.id++(nm a.dp++(nm a.dq++(nm a.cp++(nm a.cq++[.i a.aG,.i a.code,.i a.flags,.i a.ae]))))
def ai(t:Move):LV:=nm t.id++(nm t.aF++(nm t.ar++(nm t.aB++(nm t.pending++[.i t.timeout,.i t.aG,.i t.code,.i t.flags,.i t.ae,.i t.born]))))
def aJ(k:Kept):LV:=ai k.asked++(ai k.move++[.i k.fate])
def uP{cs:LV}{o n:Nat}(h0:cs[o+0]?=(nm n)[0]?)(h1:cs[o+1]?=(nm n)[1]?):(nm n).length=2/\∀j v,(nm n)[j]?=some v->cs[o+j]?=some v:=⟨rfl,λj v h=>by
 match j with
 |0=>rw[h0];exact h
 |1=>rw[h1];exact h
 |j+2=>simp[nm] at h⟩
section
variable {a b:aP} {t u:Move} {k:Kept} {n:Nat} {i:Int}
instance:Sub (ak a) 0 2 (nm a.id):=⟨uP rfl rfl⟩
instance:Sub (ak a) 2 2 (nm a.dp):=⟨uP rfl rfl⟩
instance:Sub (ak a) 4 2 (nm a.dq):=⟨uP rfl rfl⟩
instance:Sub (ak a) 6 2 (nm a.cp):=⟨uP rfl rfl⟩
instance:Sub (ak a) 8 2 (nm a.cq):=⟨uP rfl rfl⟩
instance:Sub (ak a) 0 14 (ak a):=⟨rfl,λj v h=>by rw[adW];exact h⟩
instance:Sub (ai t) 0 2 (nm t.id):=⟨uP rfl rfl⟩
instance:Sub (ai t) 2 2 (nm t.aF):=⟨uP rfl rfl⟩
instance:Sub (ai t) 4 2 (nm t.ar):=⟨uP rfl rfl⟩
instance:Sub (ai t) 6 2 (nm t.aB):=⟨uP rfl rfl⟩
instance:Sub (ai t) 8 2 (nm t.pending):=⟨uP rfl rfl⟩
instance:Sub (ai t) 0 16 (ai t):=⟨rfl,λj v h=>by rw[adW];exact h⟩
instance:Sub (aJ k) 0 33 (aJ k):=⟨rfl,λj v h=>by rw[adW];exact h⟩
instance:Sub (aJ k) 0 16 (ai k.asked):=⟨rfl,λj v h=>by rw[adW];unfold aJ;rw[aef (adU.1 h).1];exact h⟩
instance:Sub (aJ k) 16 16 (ai k.move):=⟨rfl,λj v h=>by
 have hl:(ai k.asked).length=16:=rfl
 unfold aJ
 rw[aes (by omega),hl,show 16+j-16=j by omega,aef (adU.1 h).1];exact h⟩
def kT{xs ys:LV}(h1:∀v∈xs,v.oneCell'=true)(h2:∀v∈ys,v.oneCell'=true):∀v∈xs++ys,v.oneCell'=true:=λv h=>(aew.1 h).elim (h1 v) (h2 v)
def eV(a:aP):∀v∈ak a,v.oneCell'=true:=kT (kx _) (kT (kx _) (kT (kx _) (kT (kx _) (kT (kx _) λv h=>by simp at h;rcases h with rfl|rfl|rfl|rfl<;>rfl))))
def lh(t:Move):∀v∈ai t,v.oneCell'=true:=kT (kx _) (kT (kx _) (kT (kx _) (kT (kx _) (kT (kx _) λv h=>by simp at h;rcases h with rfl|rfl|rfl|rfl|rfl|rfl<;>rfl))))
def jf(k:Kept):∀v∈aJ k,v.oneCell'=true:=kT (lh _) (kT (lh _) λv h=>by simp at h;subst h;rfl)
instance:Wr (ak a) 2 (nm n) (ak {a with dp:=n}):=⟨rfl,by show 4<=14;decide,kx n⟩
instance:Wr (ak a) 4 (nm n) (ak {a with dq:=n}):=⟨rfl,by show 6<=14;decide,kx n⟩
instance:Wr (ak a) 6 (nm n) (ak {a with cp:=n}):=⟨rfl,by show 8<=14;decide,kx n⟩
instance:Wr (ak a) 8 (nm n) (ak {a with cq:=n}):=⟨rfl,by show 10<=14;decide,kx n⟩
instance:Wr (ak a) 12 [.i i] (ak {a with flags:=i}):=⟨rfl,by show 13<=14;decide,λv h=>by simp at h;subst h;rfl⟩
instance:Wr (ak a) 13 [.i i] (ak {a with ae:=i}):=⟨rfl,by show 14<=14;decide,λv h=>by simp at h;subst h;rfl⟩
instance:Wr (ak a) 0 (ak b) (ak b):=⟨rfl,adY _,eV b⟩
instance{x1 x2 x3 x4 x5 x6 x7 x8 x9 zF zE zD zC Cw:Value}:Wr [x1,x2,x3,x4,x5,x6,x7,x8,x9,zF,zE,zD,zC,Cw] 0 (ak b) (ak b):=⟨rfl,adY _,eV b⟩
instance:Wr (ai t) 6 (nm n) (ai {t with aB:=n}):=⟨rfl,by show 8<=16;decide,kx n⟩
instance:Wr (ai t) 11 [.i i] (ai {t with aG:=i}):=⟨rfl,by show 12<=16;decide,λv h=>by simp at h;subst h;rfl⟩
instance:Wr (ai t) 12 [.i i] (ai {t with code:=i}):=⟨rfl,by show 13<=16;decide,λv h=>by simp at h;subst h;rfl⟩
instance:Wr (ai t) 13 [.i i] (ai {t with flags:=i}):=⟨rfl,by show 14<=16;decide,λv h=>by simp at h;subst h;rfl⟩
instance:Wr (ai t) 14 [.i i] (ai {t with ae:=i}):=⟨rfl,by show 15<=16;decide,λv h=>by simp at h;subst h;rfl⟩
instance:Wr (ai t) 15 [.i i] (ai {t with born:=i}):=⟨rfl,by show 16<=16;decide,λv h=>by simp at h;subst h;rfl⟩
instance{x1 x2 x3 x4 x5 x6 x7 x8 x9 zF zE zD zC Cw G7 G6:Value}:Wr [x1,x2,x3,x4,x5,x6,x7,x8,x9,zF,zE,zD,zC,Cw,G7,G6] 0 (ai u) (ai u):=⟨rfl,adY _,lh u⟩
end
section
variable {x1 x2 x3 x4 x5 x6 x7 x8 x9 zF zE zD zC Cw G7 G6:Value} {i d e c p:Nat} {l o f s b m:Int}
instance:Wr [x1,x2,x3,x4,x5,x6,x7,x8,x9,zF,zE,zD,zC,Cw] 0 (nm i++(nm d++(nm e++(nm c++(nm p++[.i l,.i o,.i f,.i s]))))) (ak ⟨i,d,e,c,p,l,o,f,s⟩):=⟨rfl,adY _,eV ⟨i,d,e,c,p,l,o,f,s⟩⟩
instance:Wr [x1,x2,x3,x4,x5,x6,x7,x8,x9,zF,zE,zD,zC,Cw,G7,G6] 0 (nm i++(nm d++(nm e++(nm c++(nm p++[.i l,.i o,.i f,.i s,.i b,.i m]))))) (ai ⟨i,d,e,c,p,l,o,f,s,b,m⟩):=⟨rfl,adY _,lh ⟨i,d,e,c,p,l,o,f,s,b,m⟩⟩
end
def zA:aP:=⟨0,0,0,0,0,0,0,0,0⟩
def zT:Move:=⟨0,0,0,0,0,0,0,0,0,0,0⟩
section
variable {x1 x2 x3 x4 x5 x6 x7 x8 x9 zF zE zD zC Cw G7 G6:Value} {a:aP} {t:Move}
instance:Wr [x1,x2,x3,x4,x5,x6,x7,x8,x9,zF,zE,zD,zC,Cw] 0 [.u 0,.u 0,.u 0,.u 0,.u 0,.u 0,.u 0,.u 0,.u 0,.u 0,.i 0,.i 0,.i 0,.i 0] (ak zA):=⟨rfl,adY _,eV zA⟩
instance:Wr [x1,x2,x3,x4,x5,x6,x7,x8,x9,zF,zE,zD,zC,Cw,G7,G6] 0 [.u 0,.u 0,.u 0,.u 0,.u 0,.u 0,.u 0,.u 0,.u 0,.u 0,.i 0,.i 0,.i 0,.i 0,.i 0,.i 0] (ai zT):=⟨rfl,adY _,lh zT⟩
end
def WD{W:World}{L:LH}{X:WK}{r o:Nat}{a:aP}{cs:LV}{f:LV->LH}[i:Lc (Sep.pt r) L cs f][s:Sub cs o 14 (ak a)](h:T W L X):T W L (kp ⟨r,o,none⟩ (ak a) X):=Kh (n:=14) h
def WB{W:World}{L:LH}{X:WK}{r o:Nat}{a:Move}{cs:LV}{f:LV->LH}[i:Lc (Sep.pt r) L cs f][s:Sub cs o 16 (ai a)](h:T W L X):T W L (kp ⟨r,o,none⟩ (ai a) X):=Kh (n:=16) h
section
variable {L:LH} {X:WK} {r o:Nat} {a:aP} {b:Move} {k:Kept} {cs:LV} {f:LV->LH}
instance[i:Lc (Sep.pt r) L cs f][s:Sub cs o 14 (ak a)]:Wk L (kp ⟨r,o,none⟩ (ak a) X) L X:=⟨λ_ h=>WD h⟩
instance[i:Lc (Sep.pt r) L cs f][s:Sub cs o 16 (ai b)]:Wk L (kp ⟨r,o,none⟩ (ai b) X) L X:=⟨λ_ h=>WB h⟩
instance:Ln (ak a) 14:=⟨rfl⟩
instance:Ln (ai b) 16:=⟨rfl⟩
instance:Ln (aJ k) 33:=⟨rfl⟩
instance:Gt (ak a) 10 (.i a.aG):=⟨rfl⟩
instance:Gt (ak a) 11 (.i a.code):=⟨rfl⟩
instance:Gt (ak a) 12 (.i a.flags):=⟨rfl⟩
instance:Gt (ak a) 13 (.i a.ae):=⟨rfl⟩
instance:Gt (ai b) 10 (.i b.timeout):=⟨rfl⟩
instance:Gt (ai b) 11 (.i b.aG):=⟨rfl⟩
instance:Gt (ai b) 12 (.i b.code):=⟨rfl⟩
instance:Gt (ai b) 13 (.i b.flags):=⟨rfl⟩
instance:Gt (ai b) 14 (.i b.ae):=⟨rfl⟩
instance:Gt (ai b) 15 (.i b.born):=⟨rfl⟩
instance:Gt (aJ k) 26 (.i k.move.timeout):=⟨rfl⟩
instance:Gt (aJ k) 30 (.i k.move.ae):=⟨rfl⟩
instance:Gt (aJ k) 31 (.i k.move.born):=⟨rfl⟩
instance:Gt (aJ k) 32 (.i k.fate):=⟨rfl⟩
end
structure pn(W:World):Prop where
 QC:∀j v,(nm (aK-1))[j]?=some v->W.cell? ((ad N.pe 0).add j)=some v
 told:∀j v,([.i 0,.i 0,.i 27,.i 28,.i 29]:LV)[j]?=some v->W.cell? ((ad N.ud 0).add j)=some v
structure vf(a:aP):Prop where
 id:a.id<aK
 dp:a.dp<aK
 dq:a.dq<aK
 cp:a.cp<aK
 cq:a.cq<aK
 aG:q6 a.aG
 code:q6 a.code
 flags:q6 a.flags
 ae:q6 a.ae
structure uX(t:Move):Prop where
 id:t.id<aK
 aF:t.aF<aK
 ar:t.ar<aK
 aB:t.aB<aK
 pending:t.pending<aK
 timeout:q6 t.timeout
 aG:q6 t.aG
 code:q6 t.code
 flags:q6 t.flags
 ae:q6 t.ae
 born:q6 t.born
section
variable {W:World} {L:LH} {K:VK} {a b:aP} {t u:Move}
def Rd(h:T W L (K (.bool (decide (a.dp=0/\a.dq=0/\a.cp=0/\a.cq=0/\a.ae=0))))):T W L (iE (ak a) K):=by
 unfold iE iE.j1 iE.j2
 repeat' first|apply ws;intros|apply wb|with_reducible first|refine qy ?_|refine bE (λh1=>?_) (λh1=>?_)|fail
 all_goals (refine T.fin (T.dp h) ?_;congr 1;first|rfl|(simp only[decide_eq_true_eq,decide_eq_false_iff_not,aeh] at * <;>simp[*]<;>rfl))
def OK(G:pn W)(ha:vf a)(h:T W L (K (.i (qE a)))):T W L (mh (ak a) K):=by
 unfold mh mh.j1;have hf:=ha.flags
 repeat' first|apply ws;intros|apply wb|with_reducible first|refine qy ?_|refine Rd ?_|refine IZ ⟨tQ _,G.QC⟩ ?_|refine bE (λh1=>?_) (λh1=>?_)|fail
 all_goals try simp only[Za hf,bz] at *
 all_goals (refine T.fin (T.dp h) ?_;congr 1)
 ·rw[qE,if_pos h1]
 all_goals
  all_goals try simp only[Zc (show 0<=a.flags by omega) (show a.flags<256 by omega),bz] at *
  unfold qE has at *
  repeat' split
  all_goals first|rfl|omega
end
def mw(a:aP):Prop:=(0<=a.aG/\a.aG<=4294967295)/\(0<=a.code/\a.code<=65535)/\0<=a.flags/\a.flags<=65535
instance(a:aP):Decidable (mw a):=by unfold mw;infer_instance
def jT(t:Move):Prop:=(0<=t.timeout/\t.timeout<=4294967295)/\(0<=t.aG/\t.aG<=4294967295)/\(0<=t.code/\t.code<=65535)/\0<=t.flags/\t.flags<=65535
instance(t:Move):Decidable (jT t):=by unfold jT;infer_instance
def ib(a:aP):List UInt8:=[a.id,a.dp,a.dq,a.cp,a.cq].flatMap nb++le .i64 4 a.aG++le .i64 2 a.code++le .i64 2 a.flags++le .i64 8 a.ae
def mH(t:Move):List UInt8:=[t.id,t.aF,t.ar,t.aB,t.pending].flatMap nb++le .i64 4 t.timeout++le .i64 4 t.aG++le .i64 2 t.code++le .i64 2 t.flags++le .i64 8 t.ae++le .i64 8 t.born
def sz:∀l:List Nat,(l.flatMap nb).length=16* l.length
 |[]=>rfl
 |x::l=>by rw[aeG,adV,re,sz l,ad'];omega
def oE(a:aP):(ib a).length=96:=by simp only[ib,adV,sz,az];rfl
def ow(t:Move):(mH t).length=108:=by simp only[mH,adV,sz,az];rfl
section
variable {W:World} {L:LH} {K:VK} {a b:aP} {t u:Move} {p:Nat} {l:List UInt8} {q:List UInt8->LH}
def J6(h:T W L (K (.bool (decide (mw a))))):T W L (fR (ak a) K):=by
 unfold fR fR.j1 fR.j2 fR.j3
 repeat' first|apply ws;intros|apply wb|with_reducible refine bE (λh1=>?_) (λh1=>?_)|fail
 all_goals (refine T.fin (T.dp h) ?_;congr 1;(rw[aee];(try simp only[bz,false_iff,true_iff] at *)<;>(try simp only[mw,ad6] at *)<;>omega))
def I3(h:T W L (K (.bool (decide (jT t))))):T W L (dg (ai t) K):=by
 unfold dg dg.j1 dg.j2 dg.j3 dg.j4 dg.j5
 repeat' first|apply ws;intros|apply wb|with_reducible refine bE (λh1=>?_) (λh1=>?_)|fail
 all_goals (refine T.fin (T.dp h) ?_;congr 1;(rw[aee];(try simp only[bz,false_iff,true_iff] at *)<;>(try simp only[jT,ad6] at *)<;>omega))
def Yc(x:List Nat)(i:Nat)(y:Nat)(h:x[i]?=some y):((x.flatMap nm).drop (i* 2)).take 2=nm y:=by
 apply afb;intro j;rw[afi];split
 ·rename_i hj;rw[ae8];cases hv:(nm y)[j]? with
  |none=>have:=List.getElem?_eq_none_iff.1 hv;rw[tQ] at this;omega
  |some v=>exact nI tQ x i y h j v hv
 ·exact(aeT (by rw[tQ];omega)).symm
def OI[i:Lc (buf p) L l q](hg:mw a)(hl:l.length<549755813888)(h:T W (q (l++ib a)) (K (.tuple ⟨[]⟩))):T W L (nO (some ⟨p,0,none⟩) (ak a) K):=by
 unfold nO nO.j1
 repeat' first|apply ws;intros|apply wb|with_reducible refine J6 ?_|fail
 rw[decide_eq_true hg,Bool.not_true,ch];apply ws;intros;rename_i r;intro w hs;refine⟨λvs w=>∃i:Nat,i<=5/\vs=[.p (some (ad r 0)),.agg ⟨[a.id,a.dp,a.dq,a.cp,a.cq].flatMap nm⟩,.i (i:Int)]/\St W w (Sep.pt r (ak a)::q (l++([a.id,a.dp,a.dq,a.cp,a.cq].take i).flatMap nb)),
  λvs _=>match vs with|[_,_,.int _ j]=>5-j.toNat|_=>0,⟨0,ad2 _,rfl,by rw[afh,List.flatMap_nil,aed,i.same];exact hs⟩,?_⟩
 rintro a1 Y2 n1 w2 ⟨j,hj,e,hs⟩;cases e
 refine T.at ?_ hs;have hq:=i.next;have hlen:(l++([a.id,a.dp,a.dq,a.cp,a.cq].take j).flatMap nb).length<1099511627776:=by rw[adV,sz,adX];simp;omega
 refine dP (λh1=>?_) (λh1=>?_)
 ·have aZ:j<5:=by omega
  have hx:[a.id,a.dp,a.dq,a.cp,a.cq][j]?=some ([a.id,a.dp,a.dq,a.cp,a.cq][j]'(by simpa using aZ)):=adS _;have e5:=lY j;have et:([a.id,a.dp,a.dq,a.cp,a.cq].take j).flatMap nb++nb ([a.id,a.dp,a.dq,a.cp,a.cq][j]'(by simpa using aZ))=([a.id,a.dp,a.dq,a.cp,a.cq].take (j+1)).flatMap nb:=by
   rw[aeM (by simpa using aZ),aeP];simp
  rw[adT,Yc _ _ _ hx,e5]
  repeat' first|apply ws;intros|apply wb|with_reducible first|refine cN (by omega) ?_|refine EA hlen ?_|fail
  rw[ad0,et];refine T.drop λw3 h3=>⟨⟨j+1,aZ,rfl,?_⟩,by show 5-((j+1:Nat):Int).toNat<5-(j:Int).toNat;omega⟩;exact h3
 ·have he:j=5:=by omega
  subst he;simp only[dU,adW];have e1:∀m:List UInt8,(l++m).length=l.length+m.length:=λm=>adV;have e2:(([a.id,a.dp,a.dq,a.cp,a.cq].take 5).flatMap nb).length=80:=by rw[sz];rfl
  repeat' first|apply ws;intros|apply wb|with_reducible first|refine J7 (by simp only[adV,az,e2];omega) ?_|refine Ad (by simp only[adV,az,e2];omega) ?_|refine uL (by simp only[adV,az,e2];omega) ?_|fail
  have e3:l++ib a=l++([a.id,a.dp,a.dq,a.cp,a.cq].take 5).flatMap nb++le .i64 4 a.aG++le .i64 2 a.code++le .i64 2 a.flags++le .i64 8 a.ae:=by
   unfold ib;simp only[ad0];rfl
  rw[<-e3];exact T.dp h
def Ht[i:Lc (buf p) L l q](hg:jT t)(hl:l.length<549755813888)(h:T W (q (l++mH t)) (K (.tuple ⟨[]⟩))):T W L (mC (some ⟨p,0,none⟩) (ai t) K):=by
 unfold mC mC.j1
 repeat' first|apply ws;intros|apply wb|with_reducible refine I3 ?_|fail
 rw[decide_eq_true hg,Bool.not_true,ch];apply ws;intros;rename_i r;intro w hs;refine⟨λvs w=>∃i:Nat,i<=5/\vs=[.p (some (ad r 0)),.agg ⟨[t.id,t.aF,t.ar,t.aB,t.pending].flatMap nm⟩,.i (i:Int)]/\St W w (Sep.pt r (ai t)::q (l++([t.id,t.aF,t.ar,t.aB,t.pending].take i).flatMap nb)),
  λvs _=>match vs with|[_,_,.int _ j]=>5-j.toNat|_=>0,⟨0,ad2 _,rfl,by rw[afh,List.flatMap_nil,aed,i.same];exact hs⟩,?_⟩
 rintro a1 Y2 n1 w2 ⟨j,hj,e,hs⟩;cases e
 refine T.at ?_ hs;have hq:=i.next;have hlen:(l++([t.id,t.aF,t.ar,t.aB,t.pending].take j).flatMap nb).length<1099511627776:=by rw[adV,sz,adX];simp;omega
 refine dP (λh1=>?_) (λh1=>?_)
 ·have aZ:j<5:=by omega
  have hx:[t.id,t.aF,t.ar,t.aB,t.pending][j]?=some ([t.id,t.aF,t.ar,t.aB,t.pending][j]'(by simpa using aZ)):=adS _;have e5:=lY j;have et:([t.id,t.aF,t.ar,t.aB,t.pending].take j).flatMap nb++nb ([t.id,t.aF,t.ar,t.aB,t.pending][j]'(by simpa using aZ))=([t.id,t.aF,t.ar,t.aB,t.pending].take (j+1)).flatMap nb:=by
   rw[aeM (by simpa using aZ),aeP];simp
  rw[adT,Yc _ _ _ hx,e5]
  repeat' first|apply ws;intros|apply wb|with_reducible first|refine cN (by omega) ?_|refine EA hlen ?_|fail
  rw[ad0,et];refine T.drop λw3 h3=>⟨⟨j+1,aZ,rfl,?_⟩,by show 5-((j+1:Nat):Int).toNat<5-(j:Int).toNat;omega⟩;exact h3
 ·have he:j=5:=by omega
  subst he;simp only[dU,adW];have e2:(([t.id,t.aF,t.ar,t.aB,t.pending].take 5).flatMap nb).length=80:=by rw[sz];rfl
  repeat' first|apply ws;intros|apply wb|with_reducible first|refine J7 (by simp only[adV,az,e2];omega) ?_|refine Ad (by simp only[adV,az,e2];omega) ?_|refine uL (by simp only[adV,az,e2];omega) ?_|fail
  have e3:l++mH t=l++([t.id,t.aF,t.ar,t.aB,t.pending].take 5).flatMap nb++le .i64 4 t.timeout++le .i64 4 t.aG++le .i64 2 t.code++le .i64 2 t.flags++le .i64 8 t.ae++le .i64 8 t.born:=by
   unfold mH;simp only[ad0];rfl
  rw[<-e3];exact T.dp h
abbrev RS:=List UInt8×Bool
def uA(n:Nat)(x:RS):RS:=match n with|0=>x|n+1=>db 16 (uA n x)
def Ci(x:RS):RS:=db 8 (db 2 (db 2 (db 4 (uA 5 x))))
def D4(x:RS):aP:=if(Ci x).2=true then zA else
 ⟨vW x,vW (uA 1 x),vW (uA 2 x),vW (uA 3 x),vW (uA 4 x),iF 4 (uA 5 x),iF 2 (db 4 (uA 5 x)),iF 2 (db 2 (db 4 (uA 5 x))),iF 8 (db 2 (db 2 (db 4 (uA 5 x))))⟩
def Ch(x:RS):RS:=db 8 (db 8 (db 2 (db 2 (db 4 (db 4 (uA 5 x))))))
def D0(x:RS):Move:=if(Ch x).2=true then zT else
 ⟨vW x,vW (uA 1 x),vW (uA 2 x),vW (uA 3 x),vW (uA 4 x),iF 4 (uA 5 x),iF 4 (db 4 (uA 5 x)),iF 2 (db 4 (db 4 (uA 5 x))),iF 2 (db 2 (db 4 (db 4 (uA 5 x)))),
  iF 8 (db 2 (db 2 (db 4 (db 4 (uA 5 x))))),iF 8 (db 8 (db 2 (db 2 (db 4 (db 4 (uA 5 x))))))⟩
variable {r:Nat} {x:RS} {g:RS->LH}
def mX{m:Nat}{x:RS}{B:Nat}(h:x.1.length<B):(db m x).1.length<B:=Nat.lt_of_le_of_lt (qI m x) h
def OJ[i:Lc (rd r) L x g](hl:x.1.length<1099511627776)(h:T W (g (Ci x)) (K (.agg ⟨ak (D4 x)⟩))):T W L (kD (some ⟨r,0,none⟩) K):=by
 unfold kD;have hq:=i.next
 repeat' first|apply ws;intros|apply wb|with_reducible first|refine EH (by repeat (first|exact hl|apply mX)) ?_|refine Kb (by repeat (first|exact hl|apply mX)) ?_|refine Ae (by repeat (first|exact hl|apply mX)) ?_|refine s7 (by repeat (first|exact hl|apply mX)) ?_|refine uM ?_|fail
 have e:db 8 (db 2 (db 2 (db 4 (db 16 (db 16 (db 16 (db 16 (db 16 x))))))))=Ci x:=rfl;rw[e];unfold D4 at h;refine bE (λh1=>?_) (λh1=>?_)
 ·rw[if_pos h1] at h;apply ws;intros;exact T.dp h
 ·rw[if_neg (by rw[h1];decide)] at h;apply ws;intros;exact T.dp h
def Hu[i:Lc (rd r) L x g](hl:x.1.length<1099511627776)(h:T W (g (Ch x)) (K (.agg ⟨ai (D0 x)⟩))):T W L (jD (some ⟨r,0,none⟩) K):=by
 unfold jD;have hq:=i.next
 repeat' first|apply ws;intros|apply wb|with_reducible first|refine EH (by repeat (first|exact hl|apply mX)) ?_|refine Kb (by repeat (first|exact hl|apply mX)) ?_|refine Ae (by repeat (first|exact hl|apply mX)) ?_|refine s7 (by repeat (first|exact hl|apply mX)) ?_|refine uM ?_|fail
 have e:db 8 (db 8 (db 2 (db 2 (db 4 (db 4 (db 16 (db 16 (db 16 (db 16 (db 16 x))))))))))=Ch x:=rfl;rw[e];unfold D0 at h;refine bE (λh1=>?_) (λh1=>?_)
 ·rw[if_pos h1] at h;apply ws;intros;exact T.dp h
 ·rw[if_neg (by rw[h1];decide)] at h;apply ws;intros;exact T.dp h
end
end Go.Up
namespace Go.Den
open Go.RowKit
def oA(P:Program)(fT:TypeId->Option (LV)):Nat->List Field->Option (LV)
 |_,[]=>some []
 |o,f::r=>bif (f.name != "_")&&afd f.offset o then
           match fT f.type with
           |some z=>bif (match P.info? f.type with|some i=>afd i.size z.length|none=>false) then
                     match oA P fT (o+z.length) r with
                     |some zr=>some (z++zr)
                     |none=>none
            else none
           |none=>none
  else none
def vc(P:Program):Nat->TypeId->Option (LV)
 |0,_=>none
 |n+1,t=>match P.underlying t with
  |some (.int k)=>some [.int k 0]
  |some .bool=>some [.bool false]
  |some .string=>some [.string .empty]
  |some (.struct fs)=>bif P.stoodInHeld t then none else oA P (vc P n) 0 fs.toList
  |_=>none
def VQ(P:Program)(t:TypeId)(xs:LV):Value:=match P.underlying t with
 |some (.struct _)=>.agg ⟨xs⟩
 |_=>xs.headD undef
def lF:∀{zs xs:LV},kJ zs xs=true->xs.length=zs.length
 |[],[],_=>rfl
 |[],_::_,h=>by simp[kJ] at h
 |_::_,[],h=>by simp[kJ] at h
 |z::zs,x::xs,h=>by simp only[kJ,aeL] at h;simp[lF h.2]
def ue:∀{z zr xs:LV},kJ (z++zr) xs=true->∃a b,xs=a++b/\kJ z a=true/\kJ zr b=true
 |[],zr,xs,h=>⟨[],xs,rfl,rfl,h⟩
 |y::z,zr,[],h=>by simp[kJ] at h
 |y::z,zr,x::xs,h=>by
  simp only[ae5,kJ,aeL] at h;obtain⟨a,b,rfl,h1,h2⟩:=ue h.2;exact⟨x::a,b,rfl,by simp[kJ,h.1,h1],h2⟩
def pf:∀{a b c d:LV},a.length=b.length->fo (a++c) (b++d)=(fo a b&&fo c d)
 |[],[],c,d,_=>by simp[fo]
 |[],_::_,_,_,h=>by simp at h
 |_::_,[],_,_,h=>by simp at h
 |x::a,y::b,c,d,h=>by
  simp only[ae5,fo];rw[pf (by simpa using h),Bool.and_assoc]
def JS{P:Program}:∀(n:Nat)(t:TypeId)(zs:LV),vc P n t=some zs->∀(xs ys:LV),kJ zs xs=true->kJ zs ys=true->∀(d:Nat)(w:World),(Op.equalIn (d+2* n) t (VQ P t xs) (VQ P t ys)).run P w=.ok (fo xs ys) w
 |0,_,_,h=>by simp[vc] at h
 |n+1,t,zs,h=>λxs ys hx hy d w=>by
  have hd:d+2* (n+1)=(d+2* n+1)+1:=by omega
  rw[hd];unfold vc at h;unfold VQ;generalize hu:P.underlying t=u at h;split at h
  ·cases h
   obtain⟨x,rfl⟩:=List.length_eq_one_iff.1 (lF hx);obtain⟨y,rfl⟩:=List.length_eq_one_iff.1 (lF hy)
   ·simp only[kJ,Bool.and_true] at hx hy;cases x<;>simp[fits] at hx
    cases y<;>simp[fits] at hy
    subst hx hy;simp[run_equalIn_int w _ t _ _ _ _ hu,fo,vM]
  ·cases h
   obtain⟨x,rfl⟩:=List.length_eq_one_iff.1 (lF hx);obtain⟨y,rfl⟩:=List.length_eq_one_iff.1 (lF hy)
   ·simp only[kJ,Bool.and_true] at hx hy;cases x<;>simp[fits] at hx
    cases y<;>simp[fits] at hy
    simp[run_equalIn_bool w _ t _ _ hu,fo,vM]
  ·cases h
   obtain⟨x,rfl⟩:=List.length_eq_one_iff.1 (lF hx);obtain⟨y,rfl⟩:=List.length_eq_one_iff.1 (lF hy)
   ·simp only[kJ,Bool.and_true] at hx hy;cases x<;>simp[fits] at hx
    cases y<;>simp[fits] at hy
    simp[run_equalIn_string w _ t _ _ hu,fo,vM,oX]
  ·rename_i fs;cases hs:P.stoodInHeld t with
   |true=>rw[hs] at h;cases h
   |false=>
    rw[hs] at h;have wW:P.fieldsOf t=fs:=by simp[Program.fieldsOf,hu]
    show(Op.equalIn _ t (.agg ⟨xs⟩) (.agg ⟨ys⟩)).run P w=_;rw[run_equalIn_struct w _ t ⟨xs⟩ ⟨ys⟩ (by rw[wW];exact hu) hs,wW];have key:∀(l:List Field)(o:Nat)(zs:LV)(pre KF xs ys:LV),pre.length=o->KF.length=o->oA P (vc P n) o l=some zs->kJ zs xs=true->kJ zs ys=true->
                                                              (Op.eqFields (d+2* n+1) ⟨pre++xs⟩ ⟨KF++ys⟩ l).run P w=.ok (fo xs ys) w:=by
     intro l
     induction l with
     |nil=>
      intro o zs pre KF xs ys h1 h2 h3 hx hy;simp only[oA,aec.injEq] at h3;subst h3;cases xs<;>cases ys<;>simp[kJ] at hx hy
      simp[Op.eqFields,fo]
     |cons f l ih=>
      intro o zs pre KF xs ys h1 h2 h3 hx hy;unfold oA at h3;cases hc:((f.name != "_")&&afd f.offset o) with
      |false=>rw[hc] at h3;cases h3
      |true=>
       rw[hc] at h3;simp only[aeL] at hc;have hn':f.name≠ "_":=by simpa using hc.1
       have ho':f.offset=o:=aer hc.2;simp only[cond_true] at h3;cases hz:vc P n f.type with
       |none=>rw[hz] at h3;cases h3
       |some z=>
        rw[hz] at h3;dsimp only at h3;cases hi:P.info? f.type with
        |none=>rw[hi] at h3;cases h3
        |some i=>
         rw[hi] at h3;dsimp only at h3;cases nV:afd i.size z.length with
         |false=>rw[nV] at h3;cases h3
         |true=>
          rw[nV] at h3;have nV:=aer nV;simp only[cond_true] at h3;cases hr:oA P (vc P n) (o+z.length) l with
          |none=>rw[hr] at h3;cases h3
          |some zr=>
           rw[hr] at h3;simp only[aec.injEq] at h3;subst h3;obtain⟨x1,x2,rfl,a1,a2⟩:=ue hx;obtain⟨y1,y2,rfl,b1,b2⟩:=ue hy;have lx:=lF a1;have ly:=lF b1;have JJ:∀(p x1 x2:LV),p.length=o->kJ z x1=true->(part f.type (⟨p++(x1++x2)⟩:Array Value) f.offset).run P w=.ok (VQ P f.type x1) w:=by
            intro p x1 x2 hp a1;have lx:=lF a1;cases n with
            |zero=>simp[vc] at hz
            |succ m=>
             unfold vc at hz;unfold VQ;generalize L9:P.underlying f.type=fu at hz;have zY:∀v:Value,x1=[v]->pr (fu.getD (.int .i64))=false->fu.isSome=true->(part f.type (⟨p++(x1++x2)⟩:Array Value) f.offset).run P w=.ok v w:=by
              intro v hv hg Xm;subst hv;cases fu with
              |none=>cases Xm
              |some fd=>
               simp only[aeu] at hg;cases fd<;>simp[pr] at hg<;>simp[part,isAgg,underlying,L9,ho',hp]
             split at hz
             ·cases hz
              match x1,a1,lx,zY with
              |[v],_,_,zY=>exact zY v rfl rfl rfl
             ·cases hz
              match x1,a1,lx,zY with
              |[v],_,_,zY=>exact zY v rfl rfl rfl
             ·cases hz
              match x1,a1,lx,zY with
              |[v],_,_,zY=>exact zY v rfl rfl rfl
             ·simp only[part,isAgg,underlying,sizeOf,typeInfo,Sem.run_bind,run_program,Result.andThen_ok,L9,hi,Sem.run_pure,if_true,ho'];have:(⟨p++(x1++x2)⟩:Array Value).extract o (o+i.size)=⟨x1⟩:=by
               apply afu;rw[Array.toList_extract];show List.extract (p++(x1++x2)) o (o+i.size)=x1;rw[List.extract_eq_take_drop,<-hp,List.drop_left' rfl,nV,show p.length+z.length-p.length=x1.length by omega,List.take_left' rfl]
              rw[this]
             ·cases hz
           have ihn:=JS n f.type z hz x1 y1 a1 b1 (d+1) w;have Pg:=ih (o+z.length) zr (pre++x1) (KF++y1) x2 y2 (by rw[adV,h1,lx]) (by rw[adV,h2,ly]) hr a2 b2;rw[show d+1+2* n=d+2* n+1 by omega] at ihn;rw[ad0,ad0] at Pg;rw[Op.eqFields];simp only[if_pos hn',Sem.run_bind,JJ pre x1 x2 h1 a1,JJ KF y1 y2 h2 b1,ihn,Result.andThen_ok];rw[pf (by rw[lx,ly])];cases fo x1 y1
           ·simp
           ·simpa using Pg
    have:=key fs.toList 0 zs [] [] xs ys rfl rfl (by simpa using h) hx hy;simpa using this
  ·cases h
def nR.nil{P:Program}:nR P []:=λt zs h=>by simp[Dr] at h
def nR.cons{P:Program}{E:O8}{t:Nat}{z:LV}{fs:Array Field}(h1:P.eqGuardType P.depth t=false)(h2:vc P 4 t=some z)(h3:P.underlying t=some (.struct fs))(h:nR P E):nR P ((t,z)::E):=λu zs hu=>by
 unfold Dr at hu;cases hb:afd t u with
 |true=>
  rw[hb] at hu;have:=aer hb;subst this;cases hu
  refine⟨h1,λxs ys hx hy w=>?_⟩;have:=JS 4 t z h2 xs ys hx hy (Op.maxDepth-8) w;have e:Op.maxDepth-8+2* 4=Op.maxDepth:=by decide
  rw[e] at this;unfold VQ at this;rw[h3] at this;exact this
 |false=>
  rw[hb] at hu;exact h u zs hu
end Go.Den
