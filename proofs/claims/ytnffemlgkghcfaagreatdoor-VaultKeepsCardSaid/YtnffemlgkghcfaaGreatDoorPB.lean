/- Part of the proof: see the last text. -/
import Derived.Test.YtnffemlgkghcfaaGreatDoorPA
import Derived.ProofKit
import Derived.OpenShut
import Derived.ChangeOld
import Derived.SizedLaws
import Derived.Carry
import Derived.Deep.Slices
import Derived.Laws.StructEq
set_option linter.all false
set_option maxRecDepth 100000
set_option synthInstance.maxSize 100000
open Array renaming ext'→afz,replicate→ae7
open Bool renaming and_eq_true→aeR,false_ne_true→aeq,true_and→ae0,noConfusion→afr,false_eq_true→aeo,eq_iff_iff→aek
open Decidable renaming not_not→aea
open Go.IntKind renaming i64→adU
open Int renaming toNat_natCast→adY,tmod_eq_emod_of_nonneg→aeG,eq_ofNat_of_zero_le→ad8
open List renaming set_cons_succ→afc,mem_cons→afe,getElem?_eq_getElem→adX,getElem_mem→aej,mem_of_getElem?→aep,mem_append→aeB,mem_or_eq_of_mem_set→aeC,getD_eq_getElem?_getD→aeM,mem_cons_of_mem→ae1,length_replicate→ae4,drop_zero→ae5,take_of_length_le→aef,append_nil→aei,getElem?_append_left→ael,getElem?_append_right→aey,map_cons→aez,flatMap_cons→aeN,flatMap_append→aeV,getElem?_eq_none→aeZ,getElem?_drop→afd,ext_getElem?→afg,nil_append→aeA,drop_of_length_le→aeF,take_zero→afm,reverse_cons→afs,length_append→ad0,append_assoc→ad5,length_map→aen,map_append→aeu,mem_map→aeI,take_succ_eq_append_getElem→aeS,map_congr_left→ae6,range→aft,map_map→afx,replicate→aec,Perm→aem,length_nil→aes,length_take→ad2,length_drop→ad9,drop_drop→ae8,set_set→afb,take_take→afu,length_cons→aee,getElem?_map→aeJ,mem_of_find?_eq_some→aeW,cons_append→afa,take_length→ad',getElem?_eq_some_iff→adZ,drop_eq_getElem_cons→aeD,getElem?_cons_succ→aed,getElem?_range→afq,map_nil→afw,take_append_drop→aer,getElem?_set→aet,length_set→ae2,getElem?_take→afo
open Nat renaming le_refl→ad4,zero_add→ad1,add_mul→afl,zero_le→ad6,reduceAdd→adV,reduceMul→adW,le_of_ble_eq_true→ad3,mul_one→afn,sub_self→afj,pow_le_pow_right→aeP,mul_comm→afv,add_zero→aeT,mod_eq_of_lt→aeH,mul_le_mul_right→aeL,min_eq_left→afp,eq_of_beq_eq_true→aex,beq→afi
open Option renaming getD_some→aew,some→aeh,map_some→aeK,getD_none→aeQ
namespace Go.Prog
open Go.Den
def nH(d:BA)(K:VK):WK:=mk [.u 0,.u 0] λe=>mk [.u 0,.u 0] λh=>br (decide ((d.size:Int)<16)) (ai (ad h 0) 2 λk=>aH 2 (ad e 0) k (ai (ad e 0) 2 λl=>K (.tuple ⟨[.agg ⟨l⟩,.bool false]⟩))) ((lp [.p (some (ad e 0)),.bool false,.p (some (ad h 0)),.i 0] λj m=>∀c f b a g,j [.p (some c),.bool f,.p (some b),.i a] g->(br (decide (a<8)) (tick (lU (b.add 1) λn=>vc d a λo=>a8 ((0:Int)<=(adU.wrap (8* a))) (st (b.add 1) (.u (bC .u64 .or n (shl .u64 (IntKind.u64.wrap (o.toNat:Int)) (adU.wrap (8* a))))) (tick (lU b λq=>vc d (adU.wrap (8+a)) λr=>a8 ((0:Int)<=(adU.wrap (8* a))) (st b (.u (bC .u64 .or q (shl .u64 (IntKind.u64.wrap (r.toNat:Int)) (adU.wrap (8* a))))) ((ct j m [.p (some c),.bool f,.p (some b),.i (adU.wrap (a+1))] [.p (some c),.bool f,.p (some b),.i a] g)))))))) (ai b 2 λs=>aH 2 c s (ai c 2 λt=>K (.tuple ⟨[.agg ⟨t⟩,.bool true]⟩)))) g))
def bm(c:OA)(K:VK):WK:=mk [.u 0,.u 0] λa=>cF c 16 (xS λd=>nH d (x2 λe f=>(xA 2 λg=>(xB λj=>mk [.u 0,.u 0] λb=>aH 2 (ad b 0) g (ai (ad b 0) 2 λh=>aH 2 (ad a 0) h (ai (ad a 0) 2 λi=>K (.agg ⟨i⟩)))) f) e))
def bm.u:WP|[.pointer a],K=>bm a K|_,_=>no
def kK(a:OA)(K:VK):WK:=mk cK λb=>bm a (xA 2 λc=>bm a (xA 2 λd=>bm a (xA 2 λe=>bm a (xA 2 λf=>bm a (xA 2 λg=>ao a 4 (xI .i64 λh=>ao a 2 (xI .i64 λj=>ao a 2 (xI .i64 λk=>ao a 8 (xI .i64 λl=>a8 (c.length=2/\(d.length=2/\(e.length=2/\(f.length=2/\(g.length=2/\(1=1/\(1=1/\(1=1/\(1=1/\True))))))))) (mk cK λm=>a8 ((c++(d++(e++(f++(g++([.i h,.i j,.i k,.i l]:LV)))))).length=14) (gp (ad m 0) (c++(d++(e++(f++(g++([.i h,.i j,.i k,.i l]:LV)))))) (bt a (xB λn=>br n (a8 True (a8 (14=14) (gp (ad b 0) cK (ai (ad b 0) 14 λo=>K (.agg ⟨o⟩))))) (ai (ad m 0) 14 λp=>aH 14 (ad b 0) p (ai (ad b 0) 14 λq=>K (.agg ⟨q⟩))))))))))))))))
def kK.u:WP|[.pointer a],K=>kK a K|_,_=>no
def jJ(a:OA)(K:VK):WK:=mk fj λb=>bm a (xA 2 λc=>bm a (xA 2 λd=>bm a (xA 2 λe=>bm a (xA 2 λf=>bm a (xA 2 λg=>ao a 4 (xI .i64 λh=>ao a 4 (xI .i64 λj=>ao a 2 (xI .i64 λk=>ao a 2 (xI .i64 λl=>ao a 8 (xI .i64 λm=>ao a 8 (xI .i64 λn=>a8 (c.length=2/\(d.length=2/\(e.length=2/\(f.length=2/\(g.length=2/\(1=1/\(1=1/\(1=1/\(1=1/\(1=1/\(1=1/\True))))))))))) (mk fj λo=>a8 ((c++(d++(e++(f++(g++([.i h,.i j,.i k,.i l,.i m,.i n]:LV)))))).length=16) (gp (ad o 0) (c++(d++(e++(f++(g++([.i h,.i j,.i k,.i l,.i m,.i n]:LV)))))) (bt a (xB λp=>br p (a8 True (a8 (16=16) (gp (ad b 0) fj (ai (ad b 0) 16 λq=>K (.agg ⟨q⟩))))) (ai (ad o 0) 16 λr=>aH 16 (ad b 0) r (ai (ad b 0) 16 λs=>K (.agg ⟨s⟩))))))))))))))))))
def jJ.u:WP|[.pointer a],K=>jJ a K|_,_=>no
def mA(a:OA)(K:VK):WK:=br (a.isNone) (K (.i 0)) (nn a λb=>lT (b.add 1) λc=>br c (K (.i 0)) (nn a λd=>lS d λe=>K (.i (e.size:Int))))
def rP(K:VK):WK:=Gh 32 I8 8 8 λa b c=>a8 (1=1/\True) (mk [.l a b c,.i 0,.i 0] λd=>K (.p (some (ad d 0))))
def mJ(a:OA)(K:VK):WK:=a8 (1=1/\True) (mk [.l none 0 0,.p a] λb=>K (.p (some (ad b 0))))
def oB(a:OA)(K:VK):WK:=a8 (1=1/\True) (mk [.l none 0 0,.p a] λb=>K (.p (some (ad b 0))))
def qi(K:VK):WK:=rP (xP λb=>rP (xP λc=>a8 (1=1/\(1=1/\True)) (mk [.l none 0 0,.p none,.p none,.p b,.p c,.l none 0 0,.l none 0 0,.i 0,.i 0] λa=>tick (mJ (some (ad a 0)) (xP λd=>oB (some (ad a 0)) (xP λe=>st (ad a 1) (.p d) (st (ad a 2) (.p e) (K (.p (some (ad a 0)))))))))))
def jh(a:OA)(K:VK):WK:=br (!(a.isNone)) (nn a λc=>lL c λd b n=>RH (Builtin.zeroCells ⟨[.nilFunc]⟩ b).toList d b (nn a λe=>lL e λf g h=>oo f g h 1 none (some 0) λi j k=>nn a λm=>st m (.l i j k) (K (.tuple ⟨[]⟩)))) (K (.tuple ⟨[]⟩))
def pS(e:LV)(K:VK):WK:=mk e λa=>lU (ad a 1) λb=>lU (ad a 0) λc=>a8 ((0:Int)<=31) (lU (ad a 0) λd=>a8 ((0:Int)<=33) (a8 ((0:Int)<=29) (K (.u (bC .u64 .xor (IntKind.u64.wrap ((bC .u64 .xor (bC .u64 .xor b (shl .u64 c 31)) (shr .u64 d 33))* 11400714819323198485)) (shr .u64 (IntKind.u64.wrap ((bC .u64 .xor (bC .u64 .xor b (shl .u64 c 31)) (shr .u64 d 33))* 11400714819323198485)) 29))))))
def bG.j3(K:VK)(a:Int)(g:LI)(c:Addr)(d:Int)(e:Bool)(b f:Int)(h:LM)(j:World)(k:Bool):WK:=br k (K (.tuple ⟨[.i (adU.wrap a),.bool true]⟩)) ((ct g h [.p (some c),.i d,.bool e,.u b,.i f,.u (bC .u64 .and (IntKind.u64.wrap (a+1)) b)] [.p (some c),.i d,.bool e,.u b,.i f,.u a] j))
def bG.j2(K:VK)(f:LI)(a:Addr)(d:Int)(e:Bool)(b c:Int)(g:LM)(h:Int)(j:World)(k:Nat)(l:Bool):WK:=br l ((ct f g [.p (some a),.i d,.bool e,.u b,.i (adU.wrap c),.u (bC .u64 .and (IntKind.u64.wrap (c+1)) b)] [.p (some a),.i d,.bool e,.u b,.i h,.u c] j)) (lB (ad k 3) λm=>br (m==1) (ai (ad k 0) 2 λn=>ai a 2 λo=>nF [.u 0,.u 0] n o λq=>bG.j3 K c f a d e b h g j q) (bG.j3 K c f a d e b h g j false))
def bG.j1(K:VK)(c:Int)(a:Nat)(b:Int)(d:LI)(e:Addr)(f:Int)(g:Bool)(h:Int)(j:LM)(k:World)(l:Bool):WK:=br l (K (.tuple ⟨[.i (adU.wrap c),.bool false]⟩)) (lB (ad a 3) λm=>br (m==0) (K (.tuple ⟨[.i b,.bool false]⟩)) (lB (ad a 3) λn=>br (n==2) (bG.j2 K d e f g h c j b k a (decide (b<0))) (bG.j2 K d e f g h c j b k a false)))
def bG(k:OA)(o:LV)(K:VK):WK:=mk o λl=>nn k λq=>lL q λA m B=>ai (ad l 0) 2 λr=>pS r (xI .u64 λs=>(lp [.p (some (ad l 0)),.i 0,.bool false,.u (IntKind.u64.wrap (adU.wrap ((m:Int) -1))),.i (-1),.u (bC .u64 .and s (IntKind.u64.wrap (adU.wrap ((m:Int) -1))))] λe n=>∀f g h j a b c,e [.p (some f),.i g,.bool h,.u j,.i a,.u b] c->(nn k λt=>lL t λv w C=>fP v w b 4 λx=>ai x 4 λy=>mk I8 λd=>aH 4 (ad d 0) y (lB (ad d 3) λz=>br (z==0) (bG.j1 K b d a e f g h j n c (decide (a<0))) (bG.j1 K b d a e f g h j n c false))) c))
def ef(a:OA)(b:LV)(K:VK):WK:=mk b λc=>br (a.isNone) (K (.tuple ⟨[.i 0,.bool false]⟩)) (ai (ad c 0) 2 λd=>bG a d (x2 λe f=>(xI .i64 λg=>(xB λh=>br (!h) (K (.tuple ⟨[.i 0,.bool false]⟩)) (nn a λj=>lL j λk l o=>fP k l g 4 λm=>lI (m.add 2) λn=>K (.tuple ⟨[.i n,.bool true]⟩))) f) e))
def mD(b:OA)(K:VK):WK:=nn b λs=>lL s λt u v=>(lp [.l t u v,.i 8] λq w=>∀j g k c o,q [.l j g k,.i c] o->(nn b λx=>lI (x.add 1) λy=>br (decide (c<(adU.wrap (3* (adU.wrap (y+1)))))) ((ct q w [.l j g k,.i (adU.wrap (c* 2))] [.l j g k,.i c] o)) (Gh 32 I8 c c λz A B=>nn b λC=>st C (.l z A B) (nn b λD=>st (D.add 2) (.i 0) ((lp [.l j g k,.i (g:Int),.i 0] λp r=>∀d e h f a m,p [.l d e h,.i f,.i a] m->(br (decide (a<f)) (fP d e a 4 λE=>ai E 4 λF=>mk I8 λn=>aH 4 (ad n 0) F (lB (ad n 3) λG=>br (G==1) (ai (ad n 0) 2 λH=>bG b H (x2 λI J=>(xI .i64 λM=>(xB λT=>tick (nn b λO=>lL O λP Q V=>ai (ad n 0) 4 λR=>fP P Q M 4 λS=>aH 4 S R ((ct p r [.l d e h,.i f,.i (adU.wrap (a+1))] [.l d e h,.i f,.i a] m)))) J) I)) ((ct p r [.l d e h,.i f,.i (adU.wrap (a+1))] [.l d e h,.i f,.i a] m)))) (K (.tuple ⟨[]⟩))) m))))) o)
def bZ.j2(K:VK)(a:OA)(d:Nat)(e c:Int):WK:=tick (nn a λf=>lL f λg h n=>ai (ad d 0) 2 λb=>a8 (b.length=2/\(1=1/\(1=1/\True))) (fP g h e 4 λj=>a8 ((b++([.i c,.int .u8 1]:LV)).length=4) (gp j (b++([.i c,.int .u8 1]:LV)) (nn a λk=>lI (k.add 1) λl=>nn a λm=>st (m.add 1) (.i (adU.wrap (l+1))) (K (.bool true))))))
def bZ.j1(K:VK)(c:Nat)(a:OA)(d:Int):WK:=ai (ad c 0) 2 λe=>bG a e (x2 λf g=>(xI .i64 λb=>(xB λh=>br h (nn a λj=>lL j λk l v=>fP k l b 4 λm=>st (m.add 2) (.i d) (K (.bool false))) (nn a λn=>lL n λo p w=>fP o p b 4 λq=>lB (q.add 3) λr=>br (r==2) (nn a λs=>lI (s.add 2) λt=>nn a λu=>st (u.add 2) (.i (adU.wrap (t-1))) (bZ.j2 K a c b d)) (bZ.j2 K a c b d))) g) f)
def bZ(a:OA)(d:LV)(b:Int)(K:VK):WK:=mk d λc=>br (a.isNone) (K (.bool false)) (tick (nn a λe=>lI (e.add 1) λf=>nn a λg=>lI (g.add 2) λh=>nn a λi=>lL i λk j l=>br (decide ((adU.wrap (4* (adU.wrap ((adU.wrap (f+h))+1))))>(adU.wrap (3* (j:Int))))) (mD a (x0 (bZ.j1 K c a b))) (bZ.j1 K c a b)))
def eu(a:OA)(b:Value)(K:VK):WK:=br (!(a.isNone)) (nn a λc=>lL c λd e f=>a8 ((cU b).length=1/\True) (mk ((cU b)++[]) λg=>eW 1 8 [.nilFunc] d e f (some ⟨g,0,none⟩) 1 λh i j=>nn a λk=>st k (.l h i j) (K (.tuple ⟨[]⟩)))) (K (.tuple ⟨[]⟩))
def aY(a b:Addr)(K:VK):WK:=tick (lP a λc=>lP a λd=>nn d λe=>lL e λf g h=>lI b λi=>oo f g h 14 none (some i) λj k m=>nn c λn=>st n (.l j k m) (K (.tuple ⟨[]⟩)))
def aY.u:WP|[.pointer (some a),.pointer (some b)],K=>aY a b K|_,_=>no
def fh(j:OA)(k:LV)(K:VK):WK:=mk [.p j] λa=>mk k λm=>lP (ad a 0) λn=>br (n.isNone) (K (.i (-1))) (lP (ad a 0) λo=>nn o λq=>lL q λC r D=>mk [.i 0] λb=>st (ad b 0) (.i (r:Int)) (tick (lP (ad a 0) λc=>lP (ad a 0) λd=>nn d λe=>lL e λf g h=>ai (ad m 0) 14 λs=>Fh 14 s λt=>kp e [.l f g h] (kp (ad a 0) [.p d] (kp (ad a 0) [.p c] (eW 14 112 cK f g h (some ⟨t,0,none⟩) 1 λu v w=>kp (ad a 0) [.p d] (kp (ad a 0) [.p c] (nn c λx=>st x (.l u v w) (lP (ad a 0) λy=>nn y λz=>lP (z.add 1) λA=>eu A (.func (.func N.aY) ⟨[]⟩ ⟨[.p (some (ad a 0)),.p (some (ad b 0))]⟩) (x0 (lI (ad b 0) λB=>K (.i B))))))))))))
def cZ(a:Int)(b c:Addr)(K:VK):WK:=tick (lP b λd=>nn d λe=>lL e λf g k=>fP f g a 2 λh=>lI h λi=>lI c λj=>K (.bool (decide (i>=j))))
def cZ.u:WP|[.int .i64 a,.pointer (some b),.pointer (some c)],K=>cZ a b c K|_,_=>no
def qO(g:Int)(h:Value)(K:VK):WK:=(lp [.i 0,.i 0,.i g] λe f=>∀c a b d,e [.i c,.i a,.i b] d->(br (decide (a<b)) (a8 ((0:Int)<=1) (tz [(N.cZ,cZ.u)] h [.i (adU.wrap (shr .u64 (IntKind.u64.wrap (adU.wrap (a+b))) 1))] (xB λj=>br (!j) ((ct e f [.i c,.i (adU.wrap ((adU.wrap (shr .u64 (IntKind.u64.wrap (adU.wrap (a+b))) 1))+1)),.i b] [.i c,.i a,.i b] d)) ((ct e f [.i c,.i a,.i (adU.wrap (shr .u64 (IntKind.u64.wrap (adU.wrap (a+b))) 1))] [.i c,.i a,.i b] d))))) (K (.i a))) d)
def iE(b:OA)(c:Int)(K:VK):WK:=mk [.p b] λa=>mk [.i c] λd=>lP (ad a 0) λe=>nn e λf=>lL f λj g k=>qO (g:Int) (.func (.func N.cZ) ⟨[]⟩ ⟨[.p (some (ad a 0)),.p (some (ad d 0))]⟩) (xI .i64 λh=>K (.i h))
def fB.j1(K:VK)(a:OA)(b c n:Int)(o:Bool):WK:=br o (nn a λp=>lL p λq r M=>fP q r b 2 λs=>st (s.add 1) (.i c) (K (.bool false))) (nn a λt=>lL t λu v w=>a8 True (a8 (2=2/\True) (mk [.i 0,.i 0] λx=>eW 2 16 [.i 0,.i 0] u v w (some ⟨x,0,none⟩) 1 λy z A=>nn a λB=>st B (.l y z A) (tick (nn a λd=>lL d λe f g=>oo e f g 2 (some (adU.wrap (b+1))) none λC D O=>nn a λh=>lL h λj k m=>oo j k m 2 (some b) none λE F P=>OF 2 C D E F λm1=>kp h [.l j k m] (kp d [.l e f g] (nn a λG=>lL G λH I Q=>a8 (1=1/\(1=1/\True)) (fP H I b 2 λJ=>a8 (2=2) (gp J [.i n,.i c] (K (.bool true)))))))))))
def fB(a:OA)(b d:Int)(K:VK):WK:=br (a.isNone) (K (.bool false)) (iE a b (xI .i64 λc=>nn a λe=>lL e λl f m=>br (decide (c<(f:Int))) (nn a λg=>lL g λh i n=>fP h i c 2 λj=>lI j λk=>fB.j1 K a c d b (k==b)) (fB.j1 K a c d b false)))
def dv(a:OA)(K:VK):WK:=br (a.isNone) (K (.i 0)) (nn a λb=>lL b λd c e=>K (.i (c:Int)))
def bq(a b:Addr)(K:VK):WK:=tick (lP a λc=>lP a λd=>nn d λe=>lL e λf g h=>lI b λi=>oo f g h 33 none (some i) λj k m=>nn c λn=>st n (.l j k m) (K (.tuple ⟨[]⟩)))
def bq.u:WP|[.pointer (some a),.pointer (some b)],K=>bq a b K|_,_=>no
def fV(j:OA)(k:LV)(K:VK):WK:=mk [.p j] λa=>mk k λm=>lP (ad a 0) λn=>br (n.isNone) (K (.i (-1))) (lP (ad a 0) λo=>nn o λq=>lL q λC r D=>mk [.i 0] λb=>st (ad b 0) (.i (r:Int)) (tick (lP (ad a 0) λc=>lP (ad a 0) λd=>nn d λe=>lL e λf g h=>ai (ad m 0) 33 λs=>Fh 33 s λt=>kp e [.l f g h] (kp (ad a 0) [.p d] (kp (ad a 0) [.p c] (eW 33 264 bg f g h (some ⟨t,0,none⟩) 1 λu v w=>kp (ad a 0) [.p d] (kp (ad a 0) [.p c] (nn c λx=>st x (.l u v w) (lP (ad a 0) λy=>nn y λz=>lP (z.add 1) λA=>eu A (.func (.func N.bq) ⟨[]⟩ ⟨[.p (some (ad a 0)),.p (some (ad b 0))]⟩) (x0 (lI (ad b 0) λB=>K (.i B))))))))))))
def qh(j:LV)(K:VK):WK:=mk j λa=>mk tI λc=>tick (lI (ad a 31) λd=>lI (ad a 26) λe=>lI (ad a 30) λf=>ai (ad a 16) 2 λb=>a8 (1=1/\(1=1/\(b.length=2/\True))) (lI (ad a 32) λg=>br (g==1) (lI (ad a 26) λh=>a8 ((([.i (adU.wrap (d+e)),.i f]:LV)++(b++[])).length=4) (gp (ad c 0) (([.i (adU.wrap (d+e)),.i f]:LV)++(b++[])) (kp (ad a 26) [.i h] (kp (ad a 32) [.i g] (ai (ad c 0) 4 λk=>K (.tuple ⟨[.agg ⟨k⟩,.bool (decide (h>0))]⟩)))))) (a8 ((([.i (adU.wrap (d+e)),.i f]:LV)++(b++[])).length=4) (gp (ad c 0) (([.i (adU.wrap (d+e)),.i f]:LV)++(b++[])) (kp (ad a 32) [.i g] (ai (ad c 0) 4 λl=>K (.tuple ⟨[.agg ⟨l⟩,.bool false]⟩)))))))
def nN(c d:LV)(K:VK):WK:=mk c λa=>mk d λb=>lI (ad a 0) λe=>lI (ad b 0) λf=>br (decide (e<f)) (K (.bool true)) (lI (ad a 0) λg=>lI (ad b 0) λh=>br (g==h) (lI (ad a 1) λi=>lI (ad b 1) λj=>K (.bool (decide (i<j)))) (K (.bool false)))
def fA.j1(K:VK)(b:OA)(a:Int)(c:LI)(d:LM)(e:World)(f:Bool):WK:=br f (tick (nn b λg=>lL g λh j z=>nn b λk=>lL k λl m A=>a8 ((2:Int)≠0) (nn b λn=>lL n λo p B=>a8 ((2:Int)≠0) (fP o p (adU.wrap ((adU.wrap (a-1)).tdiv (2:Int))) 4 λq=>ai q 4 λr=>nn b λs=>lL s λt u C=>fP t u a 4 λv=>ai v 4 λw=>fP h j a 4 λx=>aH 4 x r (fP l m (adU.wrap ((adU.wrap (a-1)).tdiv (2:Int))) 4 λy=>aH 4 y w (a8 ((2:Int)≠0) ((ct c d [.i (adU.wrap ((adU.wrap (a-1)).tdiv (2:Int)))] [.i a] e)))))))) (K (.tuple ⟨[]⟩))
def fA(b:OA)(n:Int)(K:VK):WK:=(lp [.i n] λd e=>∀a c,d [.i a] c->(tick (br (decide (a>0)) (nn b λf=>lL f λg h o=>fP g h a 4 λp=>ai p 4 λq=>nn b λj=>lL j λk m r=>a8 ((2:Int)≠0) (fP k m (adU.wrap ((adU.wrap (a-1)).tdiv (2:Int))) 4 λs=>ai s 4 λt=>nN q t (xB λu=>kp j [.l k m r] (kp f [.l g h o] (fA.j1 K b a d e c u))))) (fA.j1 K b a d e c false))) c)
def iD(a:OA)(f:LV)(K:VK):WK:=mk f λg=>br (!(a.isNone)) (tick (nn a λb=>lL b λc d e=>ai (ad g 0) 4 λh=>Fh 4 h λi=>kp b [.l c d e] (eW 4 32 tI c d e (some ⟨i,0,none⟩) 1 λj k m=>nn a λn=>st n (.l j k m) (nn a λo=>lL o λq p r=>fA a (adU.wrap ((p:Int) -1)) (x0 (K (.tuple ⟨[]⟩))))))) (K (.tuple ⟨[]⟩))
def cx.j2(K:VK)(a:OA)(b:Nat)(k:LI)(c:OA)(d:Int)(e:OA)(f g:Nat)(h j:Int)(m:LM)(n:World)(t:Bool):WK:=br t (K (.tuple ⟨[.p none,.i 1]⟩)) (tick (nn a λo=>lP (o.add 4) λq=>ai (ad b 16) 2 λr=>nn a λu=>lP (u.add 2) λv=>ai (ad b 0) 33 λw=>fV v w (xI .i64 λx=>kp (ad b 16) r (kp (o.add 4) [.p q] (bZ q r x (xB λF=>ai (ad b 0) 33 λy=>qh y (x2 λz A=>(xA 4 λB=>(xB λC=>mk tI λs=>aH 4 (ad s 0) B (br C (tick (nn a λD=>ai (ad s 0) 4 λE=>iD (some (D.add 6)) E (x0 ((ct k m [.p c,.i d,.p a,.l e f g,.i h,.i (adU.wrap (j+1))] [.p c,.i d,.p a,.l e f g,.i h,.i j] n))))) ((ct k m [.p c,.i d,.p a,.l e f g,.i h,.i (adU.wrap (j+1))] [.p c,.i d,.p a,.l e f g,.i h,.i j] n)))) A) z)))))))
def cx.j1(K:VK)(I J:OA)(B M:Nat)(O:OA)(C P:Nat)(Q R:Int)(S:Bool):WK:=br S (K (.tuple ⟨[.p none,.i 1]⟩)) ((lp [.p none,.i 0,.p I,.l J B M,.i (B:Int),.i 0] λD T=>∀r s c t u x v j y,D [.p r,.i s,.p c,.l t u x,.i v,.i j] y->(br (decide (j<v)) (fP t u j 14 λV=>ai V 14 λW=>mk cK λk=>aH 14 (ad k 0) W (tick (nn c λX=>lP (X.add 3) λY=>ai (ad k 0) 2 λZ=>ef Y Z (x2 λv1 v2=>(xI .i64 λn6=>(xB λb2=>br b2 (K (.tuple ⟨[.p none,.i 1]⟩)) (tick (nn c λE=>lP (E.add 3) λF=>ai (ad k 0) 2 λG=>nn c λa4=>lP (a4.add 1) λp6=>ai (ad k 0) 14 λVw=>fh p6 Vw (xI .i64 λn7=>kp (ad k 0) G (kp (E.add 3) [.p F] (bZ F G n7 (xB λb3=>(ct D T [.p r,.i s,.p c,.l t u x,.i v,.i (adU.wrap (j+1))] [.p r,.i s,.p c,.l t u x,.i v,.i j] y)))))))) v2) v1)))) ((lp [.p r,.i s,.p c,.l O C P,.i (C:Int),.i 0] λm w=>∀n o b e f q g d h,m [.p n,.i o,.p b,.l e f q,.i g,.i d] h->(br (decide (d<g)) (fP e f d 33 λa5=>ai a5 33 λRD=>mk bg λa=>aH 33 (ad a 0) RD (tick (nn b λa6=>lP (a6.add 4) λp9=>ai (ad a 16) 2 λZm=>ef p9 Zm (x2 λv3 v4=>(xI .i64 λWh=>(xB λb4=>tick (br b4 (cx.j2 K b a m n o e f q g d w h true) (lI (ad a 32) λz=>br (decide (z<0)) (cx.j2 K b a m n o e f q g d w h true) (lI (ad a 32) λA=>br (decide (A>4)) (cx.j2 K b a m n o e f q g d w h true) (nn b λa10=>lI (ad a 30) λH=>nn b λa11=>lP (a11.add 2) λp12=>dv p12 (xI .i64 λuM=>kp (ad a 30) [.i H] (kp (ad a 32) [.i A] (kp (ad a 32) [.i z] (fB (some (a10.add 5)) H uM (xB λb8=>kp (ad a 32) [.i A] (kp (ad a 32) [.i z] (cx.j2 K b a m n o e f q g d w h (!b8))))))))))))) v4) v3)))) (nn b λa12=>st (a12.add 7) (.i Q) (nn b λa13=>st (a13.add 8) (.i R) (nn b λa14=>jh (some a14) (x0 (K (.tuple ⟨[.p b,.i 0]⟩))))))) h))) y))
def cx.j5(K:VK)(b c:OA)(d e:Nat)(f:OA)(g h:Nat)(i a:Int)(j:Bool):WK:=br j (cx.j1 K b c d e f g h i a true) (br (decide (a<0)) (cx.j1 K b c d e f g h i a true) (cx.j1 K b c d e f g h i a (decide (a>1099511627776))))
def cx.j4(K:VK)(b c:OA)(d e:Nat)(f:OA)(g h:Nat)(a i:Int)(j:Bool):WK:=br j (cx.j5 K b c d e f g h a i true) (cx.j5 K b c d e f g h a i (decide (a>1099511627776)))
def cx.j3(K:VK)(b c:OA)(d e:Nat)(f:OA)(g h:Nat)(a i:Int)(j:Bool):WK:=br j (cx.j4 K b c d e f g h a i true) (cx.j4 K b c d e f g h a i (decide (a<0)))
def cx(c:OA)(a d:Nat)(e:OA)(b f:Nat)(g h:Int)(K:VK):WK:=qi (xP λi=>br (decide ((a:Int)>32)) (cx.j3 K i c a d e b f g h true) (cx.j3 K i c a d e b f g h (decide ((b:Int)>96))))
def k8.j1(K:VK)(J:OA)(M O P Q:Int)(R:Bool):WK:=br R (K (.tuple ⟨[.p none,.i 4]⟩)) ((lp [.p none,.i 0,.p J,.i M,.i O,.i P,.l none 0 0,.i Q,.i 0] λF S=>∀c d b e f g h j k m n z,F [.p c,.i d,.p b,.i e,.i f,.i g,.l h j k,.i m,.i n] z->(br (decide (n<m)) (kK b (xA 14 λT=>Fh 14 T λV=>eW 14 112 cK h j k (some ⟨V,0,none⟩) 1 λW X Y=>(ct F S [.p c,.i d,.p b,.i e,.i f,.i g,.l W X Y,.i m,.i (adU.wrap (n+1))] [.p c,.i d,.p b,.i e,.i f,.i g,.l h j k,.i m,.i n] z))) ((lp [.p c,.i d,.p b,.i e,.i f,.l h j k,.l none 0 0,.i g,.i 0] λG Z=>∀A B a o q r s t u v w x y C,G [.p A,.i B,.p a,.i o,.i q,.l r s t,.l u v w,.i x,.i y] C->(br (decide (y<x)) (jJ a (xA 16 λD=>jJ a (xA 16 λE=>ao a 1 (xI .i64 λH=>a8 (D.length=16/\(E.length=16/\(1=1/\True))) (a8 ((D++(E++([.i H]:LV))).length=33/\True) (mk ((D++(E++([.i H]:LV)))++[]) λr2=>eW 33 264 bg u v w (some ⟨r2,0,none⟩) 1 λsb5 ZG ZH=>(ct G Z [.p A,.i B,.p a,.i o,.i q,.l r s t,.l sb5 ZG ZH,.i x,.i (adU.wrap (y+1))] [.p A,.i B,.p a,.i o,.i q,.l r s t,.l u v w,.i x,.i y] C))))))) (cx r s t u v w o q (x2 λv1 v2=>(xP λp6=>(xI .i64 λI=>br (I !=0) (K (.tuple ⟨[.p none,.i 4]⟩)) (iB a (xB λb2=>br (!b2) (K (.tuple ⟨[.p none,.i 4]⟩)) (K (.tuple ⟨[.p p6,.i I]⟩))))) v2) v1))) C))) z))
def k8(f:BA)(K:VK):WK:=lO f (xP λa=>ao a 1 (xI .i64 λg=>br (g !=1) (K (.tuple ⟨[.p none,.i 4]⟩)) (ao a 8 (xI .i64 λd=>ao a 8 (xI .i64 λe=>ao a 2 (xI .i64 λb=>ao a 2 (xI .i64 λc=>bt a (xB λh=>br h (k8.j1 K a d e c b true) (mA a (xI .i64 λj=>k8.j1 K a d e c b (j !=(adU.wrap ((adU.wrap (b* 96))+(adU.wrap (c* 217)))))))))))))))
def sy(c:OA)(e:LV)(K:VK):WK:=mk e λf=>mk zi4 λb=>nW c (x2 λg h=>(xA 4 λj=>(xB λk=>mk zi4 λa=>aH 4 (ad a 0) j (br (!k) (tick (ai (ad a 0) 4 λd=>qi (xP λl=>kp (ad a 0) d (aH 4 (ad b 0) d (ai (ad b 0) 4 λm=>K (.tuple ⟨[.p l,.agg ⟨m⟩,.i 0]⟩)))))) (ai (ad f 0) 5 λn=>lI (ad a 0) λo=>lI (ad a 1) λq=>lI (ad a 2) λr=>mR n c o q r (x2 λs t=>(xS λu=>(xB λv=>br (!v) (tick (ai (ad a 0) 4 λw=>aH 4 (ad b 0) w (ai (ad b 0) 4 λx=>K (.tuple ⟨[.p none,.agg ⟨x⟩,.i 4]⟩)))) (k8 u (x2 λy z=>(xP λA=>(xI .i64 λB=>tick (ai (ad a 0) 4 λC=>aH 4 (ad b 0) C (ai (ad b 0) 4 λD=>K (.tuple ⟨[.p A,.agg ⟨D⟩,.i B]⟩)))) z) y))) t) s)))) h) g)
def jq(f:OA)(n:Value)(K:VK):WK:=ao f 1 (xI .i64 λo=>(lp [.l none 0 0,.l none 0 0,.i o,.i 0] λm q=>∀g h j a b c d e k,m [.l g h j,.l a b c,.i d,.i e] k->(br (decide (e<d)) (bt f (xB λr=>br r (K (.l a b c)) (tz [(N.kK,kK.u),(N.ao,ao.u),(N.bt,bt.u)] n [.p f] (xA 14 λs=>Fh 14 s λt=>eW 14 112 cK a b c (some ⟨t,0,none⟩) 1 λv w x=>(ct m q [.l g h j,.l v w x,.i d,.i (adU.wrap (e+1))] [.l g h j,.l a b c,.i d,.i e] k))))) (K (.l a b c))) k))
def iM(f:OA)(n:Value)(K:VK):WK:=ao f 1 (xI .i64 λo=>(lp [.l none 0 0,.l none 0 0,.i o,.i 0] λm q=>∀g h j a b c d e k,m [.l g h j,.l a b c,.i d,.i e] k->(br (decide (e<d)) (bt f (xB λr=>br r (K (.l a b c)) (tz [(N.ao,ao.u),(N.bt,bt.u),(N.jJ,jJ.u)] n [.p f] (xA 16 λs=>Fh 16 s λt=>eW 16 128 fj a b c (some ⟨t,0,none⟩) 1 λv w x=>(ct m q [.l g h j,.l v w x,.i d,.i (adU.wrap (e+1))] [.l g h j,.l a b c,.i d,.i e] k))))) (K (.l a b c))) k))
def ja(b:OA)(K:VK):WK:=ao b 1 (xI .i64 λa=>br (!(b.isNone)) (br (decide (a>1)) (nn b λc=>st (c.add 1) (.bool true) (K (.bool (a==1)))) (K (.bool (a==1)))) (K (.bool (a==1))))
def lZ(f:OA)(n:Value)(K:VK):WK:=ao f 1 (xI .i64 λo=>(lp [.l none 0 0,.l none 0 0,.i o,.i 0] λm q=>∀g h j a b c d e k,m [.l g h j,.l a b c,.i d,.i e] k->(br (decide (e<d)) (bt f (xB λr=>br r (K (.l a b c)) (tz [(N.ao,ao.u),(N.bm,bm.u),(N.bt,bt.u)] n [.p f] (xA 2 λs=>Fh 2 s λt=>eW 2 16 [.u 0,.u 0] a b c (some ⟨t,0,none⟩) 1 λv w x=>(ct m q [.l g h j,.l v w x,.i d,.i (adU.wrap (e+1))] [.l g h j,.l a b c,.i d,.i e] k))))) (K (.l a b c))) k))
def pA(c:LV)(K:VK):WK:=mk c λa=>lI (ad a 0) λb=>br (b==1) (lL (ad a 1) λj d k=>br (decide ((d:Int)>=1)) (lL (ad a 1) λl e m=>K (.bool (decide ((e:Int)<=8)))) (K (.bool false))) (br (b==2) (lL (ad a 2) λn f o=>br (decide ((f:Int)>=1)) (lL (ad a 2) λp g q=>K (.bool (decide ((g:Int)<=8)))) (K (.bool false))) (br (b==3) (lI (ad a 3) λh=>br (decide (h>=0)) (lI (ad a 3) λi=>K (.bool (decide (i<=1099511627776)))) (K (.bool false))) (K (.bool false))))
def eo.j4(K:VK)(a:Nat)(b:Bool):WK:=br b (lT (ad a 4) λc=>br c (K (.bool true)) (lT (ad a 5) λd=>K (.bool d))) (K (.bool false))
def eo.j3(K:VK)(a:Nat)(b:Bool):WK:=br b (lI (ad a 7) λc=>eo.j4 K a (decide (c<=16))) (eo.j4 K a false)
def eo.j2(K:VK)(a:Nat)(b:Bool):WK:=br b (lI (ad a 7) λc=>eo.j3 K a (decide (c>=1))) (eo.j3 K a false)
def eo.j1(K:VK)(b:Nat)(c:Int)(d:Bool):WK:=br d (lL (ad b 4) λj e k=>br (decide ((e:Int)>=1)) (lL (ad b 4) λl f m=>K (.bool (decide ((f:Int)<=16)))) (K (.bool false))) (br (c==6) (ai (ad b 5) 8 λg=>mk Fi λa=>aH 8 (ad a 0) g (lI (ad a 2) λh=>br (decide (h>=0)) (lI (ad a 3) λi=>eo.j2 K a (decide (i>=0))) (eo.j2 K a false))) (K (.bool false)))
def eo(c:LV)(K:VK):WK:=mk c λb=>lI (ad b 0) λa=>br (a==4) (eo.j1 K b a (a==4)) (eo.j1 K b a (a==5))
def fS.j3(K:VK)(a:Nat)(b:Bool):WK:=br b (lI (ad a 12) λc=>br (decide (c>=0)) (lI (ad a 12) λd=>K (.bool (decide (d<=65535)))) (K (.bool false))) (K (.bool false))
def fS.j2(K:VK)(a:Nat)(b:Bool):WK:=br b (lI (ad a 11) λc=>fS.j3 K a (decide (c<=65535))) (fS.j3 K a false)
def fS.j1(K:VK)(a:Nat)(b:Bool):WK:=br b (lI (ad a 11) λc=>fS.j2 K a (decide (c>=0))) (fS.j2 K a false)
def fS(b:LV)(K:VK):WK:=mk b λa=>lI (ad a 10) λc=>br (decide (c>=0)) (lI (ad a 10) λd=>fS.j1 K a (decide (d<=4294967295))) (fS.j1 K a false)
def dk.j5(K:VK)(a:Nat)(b:Bool):WK:=br b (lI (ad a 13) λc=>br (decide (c>=0)) (lI (ad a 13) λd=>K (.bool (decide (d<=65535)))) (K (.bool false))) (K (.bool false))
def dk.j4(K:VK)(a:Nat)(b:Bool):WK:=br b (lI (ad a 12) λc=>dk.j5 K a (decide (c<=65535))) (dk.j5 K a false)
def dk.j3(K:VK)(a:Nat)(b:Bool):WK:=br b (lI (ad a 12) λc=>dk.j4 K a (decide (c>=0))) (dk.j4 K a false)
def dk.j2(K:VK)(a:Nat)(b:Bool):WK:=br b (lI (ad a 11) λc=>dk.j3 K a (decide (c<=4294967295))) (dk.j3 K a false)
def dk.j1(K:VK)(a:Nat)(b:Bool):WK:=br b (lI (ad a 11) λc=>dk.j2 K a (decide (c>=0))) (dk.j2 K a false)
def dk(b:LV)(K:VK):WK:=mk b λa=>lI (ad a 10) λc=>br (decide (c>=0)) (lI (ad a 10) λd=>dk.j1 K a (decide (d<=4294967295))) (dk.j1 K a false)
def lN.j1(K:VK)(j:Nat)(y:Bool):WK:=br y (K (.bool false)) (lI (ad j 0) λr=>br (r==1) (lL (ad j 1) λz s A=>(lp [.bool false,.l z s A,.i (s:Int),.i 0] λt B=>∀k c d m e a n,t [.bool k,.l c d m,.i e,.i a] n->(br (decide (a<e)) (fP c d a 14 λC=>ai C 14 λD=>mk cK λu=>aH 14 (ad u 0) D (ai (ad u 0) 14 λE=>fS E (xB λF=>br (!F) (K (.bool false)) ((ct t B [.bool k,.l c d m,.i e,.i (adU.wrap (a+1))] [.bool k,.l c d m,.i e,.i a] n))))) (K (.bool true))) n)) (br (r==2) (lL (ad j 2) λG v H=>(lp [.bool false,.l G v H,.i (v:Int),.i 0] λw I=>∀o f g p h b q,w [.bool o,.l f g p,.i h,.i b] q->(br (decide (b<h)) (fP f g b 16 λJ=>ai J 16 λM=>mk fj λx=>aH 16 (ad x 0) M (ai (ad x 0) 16 λO=>dk O (xB λP=>br (!P) (K (.bool false)) ((ct w I [.bool o,.l f g p,.i h,.i (adU.wrap (b+1))] [.bool o,.l f g p,.i h,.i b] q))))) (K (.bool true))) q)) (K (.bool true))))
def lN(b:LV)(K:VK):WK:=mk b λa=>ai (ad a 0) 13 λc=>pA c (xB λd=>br (!d) (ai (ad a 0) 13 λe=>eo e (xB λf=>lN.j1 K a (!f))) (lN.j1 K a false))
def iZ.j1(K:VK)(c:OA)(a b:Nat):WK:=iB c (xB λd=>br (!d) (a8 True (a8 (13=13) (gp (ad a 0) lM (ai (ad a 0) 13 λe=>K (.tuple ⟨[.agg ⟨e⟩,.i 4]⟩))))) (ai (ad b 0) 13 λf=>lN f (xB λg=>br (!g) (a8 True (a8 (13=13) (gp (ad a 0) lM (ai (ad a 0) 13 λh=>K (.tuple ⟨[.agg ⟨h⟩,.i 4]⟩))))) (ai (ad b 0) 13 λj=>aH 13 (ad a 0) j (ai (ad a 0) 13 λk=>K (.tuple ⟨[.agg ⟨k⟩,.i 0]⟩))))))
def iZ(n:BA)(K:VK):WK:=mk lM λc=>lO n (xP λa=>ao a 1 (xI .i64 λo=>a8 (1=1/\True) (mk lM λb=>a8 (13=13) (gp (ad b 0) [.i o,.l none 0 0,.l none 0 0,.i 0,.l none 0 0,.u 0,.u 0,.i 0,.i 0,.bool false,.bool false,.bool false,.i 0] (lI (ad b 0) λd=>br (d==1) (jq a (.func (.func N.kK) ⟨[]⟩ ⟨[]⟩) (xL λp q r=>st (ad b 1) (.l p q r) (iZ.j1 K a c b))) (br (d==2) (iM a (.func (.func N.jJ) ⟨[]⟩ ⟨[]⟩) (xL λs t v=>st (ad b 2) (.l s t v) (iZ.j1 K a c b))) (br (d==3) (ao a 8 (xI .i64 λw=>st (ad b 3) (.i w) (iZ.j1 K a c b))) (br (d==6) (bm a (xA 2 λe=>ao a 8 (xI .i64 λf=>ao a 8 (xI .i64 λg=>ja a (xB λh=>ja a (xB λj=>ja a (xB λk=>ao a 1 (xI .i64 λm=>a8 (e.length=2/\(1=1/\(1=1/\(1=1/\(1=1/\(1=1/\(1=1/\True))))))) (a8 ((e++([.i f,.i g,.bool h,.bool j,.bool k,.i m]:LV)).length=8) (gp (ad b 5) (e++([.i f,.i g,.bool h,.bool j,.bool k,.i m]:LV)) (iZ.j1 K a c b))))))))))) (lZ a (.func (.func N.bm) ⟨[]⟩ ⟨[]⟩) (xL λx y z=>st (ad b 4) (.l x y z) (iZ.j1 K a c b)))))))))))
def mX(b:LV)(K:VK):WK:=mk b λa=>lI (ad a 0) λc=>br (c==1) (K (.bool true)) (lI (ad a 0) λd=>br (d==2) (K (.bool true)) (lI (ad a 0) λe=>K (.bool (e==3))))
def dN(a:LV)(K:VK):WK:=mk a λb=>lI (ad b 12) λc=>K (.bool ((bC .i64 .and c 1)!=0))
def dN.u:WP|[.agg ⟨a⟩],K=>dN a K|_,_=>no
def iU(n:OA)(e o:Nat)(p:Value)(K:VK):WK:=(lp [.i 0,.bool false,.l n e o,.i (e:Int),.i 0] λk q=>∀f g b c h d a j,k [.i f,.bool g,.l b c h,.i d,.i a] j->(br (decide (a<d)) (fP b c a 14 λr=>ai r 14 λs=>mk cK λm=>aH 14 (ad m 0) s (ai (ad m 0) 14 λt=>tz [(N.dN,dN.u)] p [.agg ⟨t⟩] (xB λv=>br (!v) (K (.tuple ⟨[.i (adU.wrap (a+1)),.bool true]⟩)) ((ct k q [.i f,.bool g,.l b c h,.i d,.i (adU.wrap (a+1))] [.i f,.bool g,.l b c h,.i d,.i a] j))))) (K (.tuple ⟨[.i (e:Int),.bool false]⟩))) j)
def fK(e:OA)(c m:Nat)(g h:Int)(K:VK):WK:=(lp [.i (c:Int),.i 0] λf j=>∀b a d,f [.i b,.i a] d->(br (decide (a<b)) (fP e c a 1 λk=>st k (.i 1) ((ct f j [.i b,.i (adU.wrap (a+1))] [.i b,.i a] d))) (fP e c g 1 λl=>st l (.i h) (K (.tuple ⟨[]⟩)))) d)
def fK.u:WP|[.slice a b c,.int .i64 d,.int .i64 e],K=>fK a b c d e K|_,_=>no
def dg(a:OA)(K:VK):WK:=br (a.isNone) (K (.i 0)) (nn a λb=>lL b λd c e=>K (.i (c:Int)))
def bV.j1(K:VK)(b a:Nat)(c:OA)(d:Int)(e:Bool):WK:=br e (ai (ad b 0) 14 λf=>aH 14 (ad a 0) f (ai (ad a 0) 14 λg=>K (.tuple ⟨[.agg ⟨g⟩,.bool false]⟩))) (nn c λh=>lL h λi j n=>fP i j d 14 λk=>ai k 14 λl=>aH 14 (ad a 0) l (ai (ad a 0) 14 λm=>K (.tuple ⟨[.agg ⟨m⟩,.bool true]⟩)))
def bV(b:OA)(a:Int)(K:VK):WK:=mk cK λc=>mk cK λd=>br (decide (a<0)) (bV.j1 K d c b a true) (dg b (xI .i64 λe=>bV.j1 K d c b a (decide (a>=e))))
def bX(b:OA)(c:LV)(K:VK):WK:=mk c λd=>mk cK λa=>br (b.isNone) (a8 True (a8 (14=14) (gp (ad a 0) cK (ai (ad a 0) 14 λe=>K (.tuple ⟨[.agg ⟨e⟩,.bool false]⟩))))) (tick (nn b λf=>lP (f.add 3) λg=>ai (ad d 0) 2 λh=>ef g h (x2 λi j=>(xI .i64 λk=>(xB λl=>br (!l) (a8 True (a8 (14=14) (gp (ad a 0) cK (ai (ad a 0) 14 λm=>K (.tuple ⟨[.agg ⟨m⟩,.bool false]⟩))))) (nn b λn=>lP (n.add 1) λo=>bV o k (x2 λp q=>(xA 14 λr=>(xB λs=>aH 14 (ad a 0) r (ai (ad a 0) 14 λt=>K (.tuple ⟨[.agg ⟨t⟩,.bool s]⟩))) q) p))) j) i)))
def eL(a:LV)(K:VK):WK:=mk a λb=>ai (ad b 0) 2 λc=>a8 True (nF [.u 0,.u 0] c [.u 0,.u 0] λd=>K (.bool d))
def iG.j2(K:VK)(a:Nat)(b:Bool):WK:=br b (ai (ad a 8) 2 λc=>eL c (xB λd=>br d (lI (ad a 13) λe=>K (.bool (e==0))) (K (.bool false)))) (K (.bool false))
def iG.j1(K:VK)(a:Nat)(b:Bool):WK:=br b (ai (ad a 6) 2 λc=>eL c (xB λd=>iG.j2 K a d)) (iG.j2 K a false)
def iG(b:LV)(K:VK):WK:=mk b λa=>ai (ad a 2) 2 λc=>eL c (xB λd=>br d (ai (ad a 4) 2 λe=>eL e (xB λf=>iG.j1 K a f)) (iG.j1 K a false))
def mw.j1(K:VK)(a:Nat)(b:Bool):WK:=br b (K (.i 8)) (lI (ad a 11) λc=>br (decide (c<1)) (K (.i 9)) (lI (ad a 11) λd=>br (decide (d>65535)) (K (.i 9)) (K (.i 0))))
def mw(b:LV)(K:VK):WK:=mk b λa=>lI (ad a 12) λc=>br ((bC .i64 .andNot c 7)!=0) (K (.i 3)) (ai (ad a 0) 2 λd=>eL d (xB λe=>br e (K (.i 4)) (ai (ad a 0) 2 λf=>ai (ad N.py 0) 2 λg=>nF [.u 0,.u 0] f g λh=>br h (K (.i 5)) (lI (ad a 12) λj=>br ((bC .i64 .and j 6)==6) (K (.i 6)) (ai (ad a 0) 14 λk=>iG k (xB λl=>br (!l) (K (.i 7)) (lI (ad a 10) λm=>br (decide (m<1)) (mw.j1 K a true) (lI (ad a 10) λn=>mw.j1 K a (decide (n>4294967295))))))))))
def my.j1(K:VK)(a b:Nat)(c:Bool):WK:=br c (lI (ad a 12) λd=>lI (ad b 12) λe=>br ((bC .i64 .and d 6)==(bC .i64 .and e 6)) (K (.i 10)) (K (.i 11))) (K (.i 11))
def my(c d:LV)(K:VK):WK:=mk c λa=>mk d λb=>lI (ad a 10) λe=>lI (ad b 10) λf=>br (e==f) (lI (ad a 11) λg=>lI (ad b 11) λh=>my.j1 K a b (g==h)) (my.j1 K a b false)
def cj(b:Addr)(K:VK):WK:=lP b λa=>nn a λc=>lI (c.add 8) λd=>nn a λe=>st (e.add 8) (.i (adU.wrap (d-1))) (K (.tuple ⟨[]⟩))
def cj.u:WP|[.pointer (some a)],K=>cj a K|_,_=>no
def kH(c:OA)(K:VK):WK:=mk [.p c] λa=>lP (ad a 0) λb=>nn b λd=>lI (d.add 8) λe=>nn b λf=>st (f.add 8) (.i (adU.wrap (e+1))) (lP (ad a 0) λg=>nn g λh=>eu (some h) (.func (.func N.cj) ⟨[]⟩ ⟨[.p (some (ad a 0))]⟩) (x0 (lP (ad a 0) λj=>nn j λk=>lI (k.add 8) λl=>K (.i l))))
def kA(a:OA)(b:LV)(K:VK):WK:=mk b λc=>br (a.isNone) (K (.bool false)) (ai (ad c 0) 2 λd=>bG a d (x2 λe f=>(xI .i64 λg=>(xB λh=>br (!h) (K (.bool false)) (nn a λj=>lL j λk l t=>a8 (1=1/\True) (fP k l g 4 λm=>a8 (4=4) (gp m [.u 0,.u 0,.i 0,.int .u8 2] (nn a λn=>lI (n.add 1) λo=>nn a λp=>st (p.add 1) (.i (adU.wrap (o-1))) (nn a λq=>lI (q.add 2) λr=>nn a λs=>st (s.add 2) (.i (adU.wrap (r+1))) (K (.bool true)))))))) f) e))
def cr(a c:Addr)(K:VK):WK:=tick (lP a λb=>nn b λd=>lP (d.add 3) λe=>ai c 2 λf=>kA e f (xB λg=>kp a [.p b] (K (.tuple ⟨[]⟩))))
def cr.u:WP|[.pointer (some a),.pointer (some b)],K=>cr a b K|_,_=>no
def jf(k:OA)(l:LV)(K:VK):WK:=mk [.p k] λa=>mk l λb=>lP (ad a 0) λm=>br (m.isNone) (K (.i 2)) (lP (ad a 0) λn=>nn n λo=>lP (o.add 1) λq=>dg q (xI .i64 λr=>br (decide (r>=32)) (K (.i 6)) (tick (lP (ad a 0) λe=>nn e λs=>lP (s.add 3) λt=>ai (ad b 0) 2 λu=>ef t u (x2 λv w=>(xI .i64 λI=>(xB λx=>kp (ad a 0) [.p e] (br x (K (.i 1)) (lP (ad a 0) λy=>kH y (xI .i64 λz=>st (ad b 13) (.i z) (tick (lP (ad a 0) λc=>nn c λf=>lP (f.add 3) λg=>ai (ad b 0) 2 λh=>lP (ad a 0) λd=>nn d λA=>lP (A.add 1) λB=>dg B (xI .i64 λC=>kp (ad a 0) [.p d] (kp (ad b 0) h (kp (f.add 3) [.p g] (kp (ad a 0) [.p c] (bZ g h C (xB λJ=>kp (ad a 0) [.p d] (kp (ad a 0) [.p c] (lP (ad a 0) λD=>nn D λE=>eu (some E) (.func (.func N.cr) ⟨[]⟩ ⟨[.p (some (ad a 0)),.p (some (ad b 0))]⟩) (x0 (tick (lP (ad a 0) λj=>nn j λF=>lP (F.add 1) λG=>ai (ad b 0) 14 λH=>fh G H (xI .i64 λM=>kp (ad a 0) [.p j] (K (.i 0)))))))))))))))))))) w) v)))))
def iF(b:OA)(e:LV)(K:VK):WK:=mk e λa=>ai (ad a 0) 14 λf=>mw f (xI .i64 λc=>br (c !=0) (K (.i c)) (ai (ad a 0) 2 λg=>bX b g (x2 λh j=>(xA 14 λk=>(xB λl=>mk cK λd=>aH 14 (ad d 0) k (br l (ai (ad a 0) 14 λm=>ai (ad d 0) 14 λn=>my m n (xI .i64 λo=>K (.i o))) (lI (ad a 12) λp=>st (ad a 12) (.i (bC .i64 .andNot p 1)) (ai (ad a 0) 14 λq=>jf b q (xI .i64 λr=>br (r !=0) (K (.i 35)) (K (.i 0))))))) j) h)))
def iF.u:WP|[.pointer a,.agg ⟨b⟩],K=>iF a b K|_,_=>no
def oV(a:OA)(K:VK):WK:=br (a.isNone) (K (.i 0)) (nn a λb=>lL b λd c e=>K (.i (c:Int)))
def cX(a:OA)(K:VK):WK:=br (a.isNone) (K (.i 0)) (nn a λb=>oV (some b) (xI .i64 λc=>K (.i c)))
def cX.u:WP|[.pointer a],K=>cX a K|_,_=>no
def cm(a b:Addr)(K:VK):WK:=lP b λc=>lI a λd=>nn c λe=>st (e.add 7) (.i d) (K (.tuple ⟨[]⟩))
def cm.u:WP|[.pointer (some a),.pointer (some b)],K=>cm a b K|_,_=>no
def cE(a c:Addr)(K:VK):WK:=tick (lP a λb=>nn b λd=>ai c 4 λe=>iD (some (d.add 6)) e (x0 (kp a [.p b] (K (.tuple ⟨[]⟩)))))
def cE.u:WP|[.pointer (some a),.pointer (some b)],K=>cE a b K|_,_=>no
def fI.j1(K:VK)(a:OA)(b:Int)(m:Bool):WK:=br m (K (.bool false)) (tick (nn a λc=>lL c λd e f=>oo d e f 2 none (some b) λn o p=>nn a λg=>lL g λh j k=>oo h j k 2 (some (adU.wrap (b+1))) none λq r w=>eW 2 16 [.i 0,.i 0] n o p q r λs t u=>kp g [.l h j k] (kp c [.l d e f] (nn a λv=>st v (.l s t u) (K (.bool true))))))
def fI(a:OA)(c:Int)(K:VK):WK:=br (a.isNone) (K (.bool false)) (iE a c (xI .i64 λb=>nn a λd=>lL d λk e l=>br (b==(e:Int)) (fI.j1 K a b true) (nn a λf=>lL f λg h m=>fP g h b 2 λi=>lI i λj=>fI.j1 K a b (j !=c))))
def cw(a d e:Addr)(K:VK):WK:=tick (lP a λb=>nn b λf=>lP (f.add 4) λg=>ai d 2 λh=>kA g h (xB λk=>kp a [.p b] (tick (lP a λc=>nn c λi=>lI (e.add 30) λj=>fI (some (i.add 5)) j (xB λl=>kp a [.p c] (K (.tuple ⟨[]⟩)))))))
def cw.u:WP|[.pointer (some a),.pointer (some b),.pointer (some c)],K=>cw a b c K|_,_=>no
def cW.j1(K:VK)(a:OA)(d:LI)(e:LM)(f:Int)(g:World)(c b:Int):WK:=br (b==c) (K (.tuple ⟨[]⟩)) (tick (nn a λh=>lL h λj k A=>nn a λl=>lL l λm n B=>nn a λo=>lL o λp q C=>fP p q b 4 λr=>ai r 4 λs=>nn a λt=>lL t λu v D=>fP u v c 4 λw=>ai w 4 λx=>fP j k c 4 λy=>aH 4 y s (fP m n b 4 λz=>aH 4 z x ((ct d e [.i b] [.i f] g)))))
def cW.j2(K:VK)(d:OA)(a b:Int)(e:LI)(c:Int)(f:LM)(g:World)(p:LI)(q:LM)(r:Int)(s:World)(t:Bool):WK:=br t (tick (nn d λh=>lL h λj k u=>fP j k a 4 λv=>ai v 4 λw=>nn d λm=>lL m λn o x=>fP n o b 4 λy=>ai y 4 λz=>nN w z (xB λA=>kp m [.l n o x] (kp h [.l j k u] (br A ((ct e f [.i c,.i a,.i (adU.wrap (a+1))] [.i c,.i b,.i a] g)) ((ct e f [.i c,.i b,.i (adU.wrap (a+1))] [.i c,.i b,.i a] g))))))) (cW.j1 K d p q r s c b)
def cW(f:OA)(m:Int)(K:VK):WK:=(lp [.i m] λg k=>∀a c,g [.i a] c->((lp [.i a,.i a,.i (adU.wrap ((adU.wrap (2* a))+1))] λh l=>∀d j b e,h [.i d,.i j,.i b] e->(br (decide (b<=(adU.wrap ((adU.wrap (2* d))+2)))) (nn f λn=>lL n λp o q=>cW.j2 K f b j h d l e g k a c (decide (b<(o:Int)))) (cW.j2 K f b j h d l e g k a c false)) e)) c)
def mC(a:OA)(b:Int)(K:VK):WK:=mk tI λd=>tick (nn a λg=>lL g λh i o=>fP h i b 4 λj=>ai j 4 λk=>nn a λe=>lL e λm c n=>mk tI λf=>kp e [.l m c n] (kp j k (kp g [.l h i o] (aH 4 (ad f 0) k (kp e [.l m c n] (tick (nn a λp=>lL p λq r M=>nn a λs=>lL s λt u O=>fP t u (adU.wrap ((c:Int) -1)) 4 λv=>ai v 4 λw=>fP q r b 4 λx=>aH 4 x w (nn a λy=>lL y λz A B=>oo z A B 4 none (some (adU.wrap ((c:Int) -1))) λC D E=>nn a λF=>st F (.l C D E) (br (decide (b<(adU.wrap ((c:Int) -1)))) (cW a b (x0 (fA a b (x0 (ai (ad f 0) 4 λG=>aH 4 (ad d 0) G (ai (ad d 0) 4 λH=>K (.agg ⟨H⟩))))))) (ai (ad f 0) 4 λI=>aH 4 (ad d 0) I (ai (ad d 0) 4 λJ=>K (.agg ⟨J⟩))))))))))))
def jc(e:OA)(n:Int)(K:VK):WK:=br (e.isNone) (K (.bool false)) (nn e λo=>lL o λp j q=>(lp [.bool false,.l p j q,.i (j:Int),.i 0] λk r=>∀f b c g d a h,k [.bool f,.l b c g,.i d,.i a] h->(br (decide (a<d)) (fP b c a 4 λs=>ai s 4 λt=>mk tI λm=>aH 4 (ad m 0) t (lI (ad m 1) λu=>br (u==n) (mC e a (xA 4 λv=>K (.bool true))) ((ct k r [.bool f,.l b c g,.i d,.i (adU.wrap (a+1))] [.bool f,.l b c g,.i d,.i a] h)))) (K (.bool false))) h))
def cu(a c:Addr)(K:VK):WK:=tick (lP a λb=>nn b λd=>lI (c.add 1) λe=>jc (some (d.add 6)) e (xB λf=>kp a [.p b] (K (.tuple ⟨[]⟩))))
def cu.u:WP|[.pointer (some a),.pointer (some b)],K=>cu a b K|_,_=>no
def aX(a b c:Addr)(K:VK):WK:=tick (lP b λd=>nn d λe=>lL e λf g k=>lI c λh=>ai a 14 λi=>fP f g h 14 λj=>aH 14 j i (K (.tuple ⟨[]⟩)))
def aX.u:WP|[.pointer (some a),.pointer (some b),.pointer (some c)],K=>aX a b c K|_,_=>no
def bp(a b c:Addr)(K:VK):WK:=tick (lP b λd=>nn d λe=>lL e λf g k=>lI c λh=>ai a 33 λi=>fP f g h 33 λj=>aH 33 j i (K (.tuple ⟨[]⟩)))
def bp.u:WP|[.pointer (some a),.pointer (some b),.pointer (some c)],K=>bp a b c K|_,_=>no
def oW(a:OA)(e:Int)(K:VK):WK:=br (a.isNone) (K (.tuple ⟨[]⟩)) ((lp [] λc f=>∀b,c [] b->(nn a λg=>lL g λy h z=>br (decide ((h:Int)>(max2 e 0))) (nn a λi=>lL i λA d B=>nn a λj=>lL j λk m C=>fP k m (adU.wrap ((d:Int) -1)) 1 λn=>ld n λo=>tz [(N.cE,cE.u),(N.cw,cw.u),(N.cu,cu.u),(N.cr,cr.u),(N.cm,cm.u),(N.cj,cj.u),(N.aY,aY.u),(N.aX,aX.u),(N.bq,bq.u),(N.bp,bp.u)] o [] (x0 (nn a λp=>lL p λq r s=>oo q r s 1 none (some (adU.wrap ((d:Int) -1))) λt v w=>nn a λx=>st x (.l t v w) ((ct c f [] [] b))))) (K (.tuple ⟨[]⟩))) b))
def cY(a:OA)(b:Int)(K:VK):WK:=br (!(a.isNone)) (nn a λc=>oW (some c) b (x0 (K (.tuple ⟨[]⟩)))) (K (.tuple ⟨[]⟩))
def cY.u:WP|[.pointer a,.int .i64 b],K=>cY a b K|_,_=>no
def ju(f o:OA)(j q:Nat)(r:OA)(s t:Nat)(v:Value)(K:VK):WK:=cX f (xI .i64 λw=>(lp [.i w,.l o j q,.i (j:Int),.i 0] λk x=>∀b c d g e a h,k [.i b,.l c d g,.i e,.i a] h->(br (decide (a<e)) (fP c d a 14 λy=>ai y 14 λz=>mk cK λm=>aH 14 (ad m 0) z (ai (ad m 0) 14 λA=>tz [(N.cY,cY.u),(N.cX,cX.u),(N.iF,iF.u),(N.fK,fK.u)] v [.p f,.agg ⟨A⟩] (xI .i64 λn=>br (n !=0) (cY f b (x0 (fK r s t a n (x0 (K (.tuple ⟨[]⟩)))))) ((ct k x [.i b,.l c d g,.i e,.i (adU.wrap (a+1))] [.i b,.l c d g,.i e,.i a] h))))) (K (.tuple ⟨[]⟩))) h))
def lX(t n:OA)(e o:Nat)(u v:Value)(K:VK):WK:=Gh 8 [.i 0] (e:Int) (e:Int) λw x y=>(lp [.l none 0 0,.l w x y,.i 0] λm p=>∀f g h b c d a k,m [.l f g h,.l b c d,.i a] k->(br (decide (a<(e:Int))) (oo n e o 14 (some a) none λz A B=>iU z A B (u) (x2 λC D=>(xI .i64 λj=>(xB λE=>oo b c d 1 (some a) (some (adU.wrap (a+j))) λq r s=>br (!E) (fK q r s (adU.wrap (j-1)) 2 (x0 ((ct m p [.l f g h,.l b c d,.i (adU.wrap (a+j))] [.l f g h,.l b c d,.i a] k)))) (oo n e o 14 (some a) (some (adU.wrap (a+j))) λF G H=>ju t F G H q r s (v) (x0 ((ct m p [.l f g h,.l b c d,.i (adU.wrap (a+j))] [.l f g h,.l b c d,.i a] k))))) D) C)) (K (.l b c d))) k)
def nY(a b:OA)(c d:Nat)(K:VK):WK:=lX a b c d (.func (.func N.dN) ⟨[]⟩ ⟨[]⟩) (.func (.func N.iF) ⟨[]⟩ ⟨[]⟩) (xL λe f g=>K (.l e f g))
def dz(a:LV)(K:VK):WK:=mk a λb=>lI (ad b 13) λc=>K (.bool ((bC .i64 .and c 1)!=0))
def dz.u:WP|[.agg ⟨a⟩],K=>dz a K|_,_=>no
def ir(n:OA)(e o:Nat)(p:Value)(K:VK):WK:=(lp [.i 0,.bool false,.l n e o,.i (e:Int),.i 0] λk q=>∀f g b c h d a j,k [.i f,.bool g,.l b c h,.i d,.i a] j->(br (decide (a<d)) (fP b c a 16 λr=>ai r 16 λs=>mk fj λm=>aH 16 (ad m 0) s (ai (ad m 0) 16 λt=>tz [(N.dz,dz.u)] p [.agg ⟨t⟩] (xB λv=>br (!v) (K (.tuple ⟨[.i (adU.wrap (a+1)),.bool true]⟩)) ((ct k q [.i f,.bool g,.l b c h,.i d,.i (adU.wrap (a+1))] [.i f,.bool g,.l b c h,.i d,.i a] j))))) (K (.tuple ⟨[.i (e:Int),.bool false]⟩))) j)
def oy(a:LV)(K:VK):WK:=mk a λb=>lI (ad b 13) λc=>K (.bool ((bC .i64 .and c 12)!=0))
def iL(a:LV)(K:VK):WK:=mk a λb=>lI (ad b 13) λc=>K (.bool ((bC .i64 .and c 2)!=0))
def gS.j1(K:VK)(a:Addr)(b:Bool):WK:=br b (lI (a.add 13) λc=>br ((bC .i64 .and c 192)==0) (K (.bool true)) (ai a 16 λd=>iL d (xB λe=>K (.bool e)))) (K (.bool false))
def gS(j:LV)(K:VK):WK:=mk j λk=>a8 (1=1/\(1=1/\(1=1/\True))) ((lp [.p (some (ad k 0)),.bool false,.i 0,.agg ⟨[.i 2,.i 4,.i 8]⟩,.i 0] λg h=>∀a e c d b f,g [.p (some a),.bool e,.i c,.agg ⟨d⟩,.i b] f->(br (decide (b<3)) (yU d 3 b (xI .i64 λl=>lI (a.add 13) λm=>br ((bC .i64 .and m l)!=0) ((ct g h [.p (some a),.bool e,.i (adU.wrap (c+1)),.agg ⟨d⟩,.i (adU.wrap (b+1))] [.p (some a),.bool e,.i c,.agg ⟨d⟩,.i b] f)) ((ct g h [.p (some a),.bool e,.i c,.agg ⟨d⟩,.i (adU.wrap (b+1))] [.p (some a),.bool e,.i c,.agg ⟨d⟩,.i b] f)))) (br (decide (c<=1)) (ai a 16 λn=>oy n (xB λo=>br o (lI (a.add 13) λq=>gS.j1 K a (!((bC .i64 .and q 240)!=0))) (gS.j1 K a true))) (gS.j1 K a false))) f))
def kO.j1(K:VK)(a:Nat)(b:Bool):WK:=br b (K (.i 8)) (lI (ad a 12) λc=>br (decide (c<0)) (K (.i 9)) (lI (ad a 12) λd=>br (decide (d>65535)) (K (.i 9)) (K (.i 0))))
def kO(b:LV)(K:VK):WK:=mk b λa=>ai (ad a 8) 2 λc=>eL c (xB λd=>br d (K (.i 16)) (lI (ad a 11) λe=>br (decide (e<0)) (kO.j1 K a true) (lI (ad a 11) λf=>kO.j1 K a (decide (f>4294967295)))))
def mP(a:LV)(K:VK):WK:=mk a λb=>lI (ad b 13) λc=>K (.bool ((bC .i64 .and c 48)!=0))
def gv.j2(K:VK)(a:Nat)(b:Bool):WK:=br b (K (.i 8)) (lI (ad a 12) λc=>br (decide (c<1)) (K (.i 9)) (lI (ad a 12) λd=>br (decide (d>65535)) (K (.i 9)) (K (.i 0))))
def gv.j1(K:VK)(a:Nat)(b:Bool):WK:=br b (K (.i 18)) (lI (ad a 11) λc=>br (decide (c<1)) (gv.j2 K a true) (lI (ad a 11) λd=>gv.j2 K a (decide (d>4294967295))))
def gv(b:LV)(K:VK):WK:=mk b λa=>ai (ad a 2) 2 λc=>eL c (xB λd=>br d (K (.i 12)) (ai (ad a 4) 2 λe=>eL e (xB λf=>br f (K (.i 13)) (ai (ad a 2) 2 λg=>ai (ad a 4) 2 λh=>nF [.u 0,.u 0] g h λj=>br j (K (.i 14)) (ai (ad a 8) 2 λk=>eL k (xB λl=>br (!l) (K (.i 15)) (ai (ad a 6) 2 λm=>eL m (xB λn=>br n (ai (ad a 0) 16 λo=>mP o (xB λp=>gv.j1 K a (!p))) (gv.j1 K a false)))))))))
def cT.j3(K:VK)(a:Nat)(b:Bool):WK:=br b (K (.i 17)) (ai (ad a 0) 16 λc=>oy c (xB λd=>br d (ai (ad a 0) 16 λe=>kO e (xI .i64 λf=>K (.i f))) (ai (ad a 0) 16 λg=>gv g (xI .i64 λh=>K (.i h)))))
def cT.j4(K:VK)(a:Nat)(b:Bool):WK:=br b (cT.j3 K a true) (lI (ad a 10) λc=>br (c !=0) (ai (ad a 0) 16 λd=>iL d (xB λe=>cT.j3 K a (!e))) (cT.j3 K a false))
def cT.j2(K:VK)(a:Nat)(b:Bool):WK:=br b (K (.i 7)) (lI (ad a 10) λc=>br (decide (c<0)) (cT.j4 K a true) (lI (ad a 10) λd=>cT.j4 K a (decide (d>1073741824))))
def cT.j1(K:VK)(a:Nat)(b:Bool):WK:=br b (K (.i 3)) (ai (ad a 0) 2 λc=>eL c (xB λd=>br d (K (.i 4)) (ai (ad a 0) 2 λe=>ai (ad N.py 0) 2 λf=>nF [.u 0,.u 0] e f λg=>br g (K (.i 5)) (ai (ad a 0) 16 λh=>gS h (xB λj=>br (!j) (K (.i 6)) (lI (ad a 14) λk=>br (k !=0) (cT.j2 K a true) (lI (ad a 15) λl=>cT.j2 K a (l !=0))))))))
def cT(b:LV)(K:VK):WK:=mk b λa=>lI (ad a 13) λc=>br (decide (c<0)) (cT.j1 K a true) (lI (ad a 13) λd=>cT.j1 K a (decide (d>255)))
def bT.j1(K:VK)(b a:Nat)(c:OA)(d:Int)(e:Bool):WK:=br e (ai (ad b 0) 33 λf=>aH 33 (ad a 0) f (ai (ad a 0) 33 λg=>K (.tuple ⟨[.agg ⟨g⟩,.bool false]⟩))) (nn c λh=>lL h λi j n=>fP i j d 33 λk=>ai k 33 λl=>aH 33 (ad a 0) l (ai (ad a 0) 33 λm=>K (.tuple ⟨[.agg ⟨m⟩,.bool true]⟩)))
def bT(b:OA)(a:Int)(K:VK):WK:=mk bg λc=>mk bg λd=>br (decide (a<0)) (bT.j1 K d c b a true) (dv b (xI .i64 λe=>bT.j1 K d c b a (decide (a>=e))))
def eB(b:OA)(c:LV)(K:VK):WK:=mk c λd=>mk bg λa=>br (b.isNone) (a8 True (a8 (33=33) (gp (ad a 0) bg (ai (ad a 0) 33 λe=>K (.tuple ⟨[.agg ⟨e⟩,.bool false]⟩))))) (tick (nn b λf=>lP (f.add 4) λg=>ai (ad d 0) 2 λh=>ef g h (x2 λi j=>(xI .i64 λk=>(xB λl=>br (!l) (a8 True (a8 (33=33) (gp (ad a 0) bg (ai (ad a 0) 33 λm=>K (.tuple ⟨[.agg ⟨m⟩,.bool false]⟩))))) (nn b λn=>lP (n.add 2) λo=>bT o k (x2 λp q=>(xA 33 λr=>(xB λs=>aH 33 (ad a 0) r (ai (ad a 0) 33 λt=>K (.tuple ⟨[.agg ⟨t⟩,.bool s]⟩))) q) p))) j) i)))
def gG(d:OA)(e:Int)(f:LV)(K:VK):WK:=mk [.p d] λa=>mk [.i e] λb=>mk f λg=>lP (ad a 0) λh=>lI (ad b 0) λj=>bV h j (x2 λk l=>(xA 14 λm=>(xB λn=>mk cK λc=>aH 14 (ad c 0) m (br (!n) (K (.bool false)) (tick (lP (ad a 0) λo=>nn o λq=>lL q λr s z=>lI (ad b 0) λt=>ai (ad g 0) 14 λu=>fP r s t 14 λv=>aH 14 v u (lP (ad a 0) λw=>nn w λx=>lP (x.add 1) λy=>eu y (.func (.func N.aX) ⟨[]⟩ ⟨[.p (some (ad c 0)),.p (some (ad a 0)),.p (some (ad b 0))]⟩) (x0 (K (.bool true)))))))) l) k)
def gP(a:OA)(d:LV)(K:VK):WK:=mk d λb=>ai (ad b 0) 2 λe=>bX a e (x2 λf g=>(xA 14 λh=>(xB λj=>mk cK λc=>aH 14 (ad c 0) h (br (a.isNone) (K (.i 2)) (br (!j) (K (.i 5)) (tick (nn a λk=>lP (k.add 3) λl=>ai (ad b 0) 2 λm=>ef l m (x2 λn o=>(xI .i64 λp=>(xB λu=>lI (ad c 13) λq=>st (ad b 13) (.i q) (tick (nn a λr=>lP (r.add 1) λs=>ai (ad b 0) 14 λt=>gG s p t (xB λv=>K (.i 0))))) o) n)))))) g) f)
def qn(d e:LV)(K:VK):WK:=mk d λb=>mk e λa=>tick (lI (ad b 13) λf=>lI (ad a 13) λc=>st (ad b 13) (.i (bC .i64 .andNot f 1)) (kp (ad a 13) [.i c] (st (ad a 13) (.i (bC .i64 .andNot c 1)) (ai (ad b 0) 16 λg=>ai (ad a 0) 16 λh=>nF fj g h λj=>br j (K (.i 10)) (K (.i 11))))))
def uN(g:OA)(h:LV)(K:VK):WK:=mk h λd=>mk kN λa=>ai (ad d 2) 2 λj=>bX g j (x2 λk l=>(xA 14 λm=>(xB λn=>mk cK λb=>aH 14 (ad b 0) m (ai (ad d 4) 2 λo=>bX g o (x2 λp q=>(xA 14 λr=>(xB λs=>mk cK λc=>aH 14 (ad c 0) r (br (!n) (a8 True (a8 (28=28) (gp (ad a 0) kN (ai (ad a 0) 28 λt=>K (.tuple ⟨[.agg ⟨t⟩,.i 19]⟩))))) (br (!s) (a8 True (a8 (28=28) (gp (ad a 0) kN (ai (ad a 0) 28 λu=>K (.tuple ⟨[.agg ⟨u⟩,.i 20]⟩))))) (lI (ad b 10) λv=>lI (ad c 10) λw=>br (v !=w) (a8 True (a8 (28=28) (gp (ad a 0) kN (ai (ad a 0) 28 λx=>K (.tuple ⟨[.agg ⟨x⟩,.i 21]⟩))))) (lI (ad b 10) λy=>lI (ad d 11) λz=>br (y !=z) (a8 True (a8 (28=28) (gp (ad a 0) kN (ai (ad a 0) 28 λA=>K (.tuple ⟨[.agg ⟨A⟩,.i 22]⟩))))) (lI (ad b 12) λB=>br ((bC .i64 .and B 8)!=0) (a8 True (a8 (28=28) (gp (ad a 0) kN (ai (ad a 0) 28 λC=>K (.tuple ⟨[.agg ⟨C⟩,.i 30]⟩))))) (lI (ad c 12) λD=>br ((bC .i64 .and D 8)!=0) (a8 True (a8 (28=28) (gp (ad a 0) kN (ai (ad a 0) 28 λE=>K (.tuple ⟨[.agg ⟨E⟩,.i 31]⟩))))) (ai (ad b 0) 14 λe=>ai (ad c 0) 14 λf=>a8 (e.length=14/\(f.length=14/\True)) (a8 ((e++(f++[])).length=28) (gp (ad a 0) (e++(f++[])) (ai (ad a 0) 28 λF=>K (.tuple ⟨[.agg ⟨F⟩,.i 0]⟩)))))))))))) q) p))) l) k)
def kJ(a:OA)(K:VK):WK:=br (!(a.isNone)) (nn a λb=>lP (b.add 2) λc=>dv c (xI .i64 λd=>K (.bool (decide (d<96))))) (K (.bool false))
def pP(c d:LV)(K:VK):WK:=mk c λa=>mk d λb=>ai (ad a 0) 2 λe=>ai (ad b 0) 2 λf=>nF [.u 0,.u 0] e f λg=>br g (K (.i 0)) (lU (ad a 0) λh=>lU (ad b 0) λj=>br (decide (h<j)) (K (.i (-1))) (lU (ad a 0) λk=>lU (ad b 0) λl=>br (k==l) (lU (ad a 1) λm=>lU (ad b 1) λn=>br (decide (m<n)) (K (.i (-1))) (K (.i 1))) (K (.i 1))))
def ny(a b:LV)(K:VK):WK:=mk a λc=>mk b λd=>ai (ad c 0) 2 λe=>ai (ad d 0) 2 λf=>pP e f (xI .i64 λg=>K (.bool (decide (g<0))))
def tK(d e:LV)(K:VK):WK:=mk d λb=>mk e λc=>mk [.u 0,.u 0] λa=>ai (ad c 0) 2 λf=>ai (ad b 0) 2 λg=>ny f g (xB λh=>br h (ai (ad c 0) 2 λi=>aH 2 (ad a 0) i (ai (ad a 0) 2 λj=>K (.agg ⟨j⟩))) (ai (ad b 0) 2 λk=>aH 2 (ad a 0) k (ai (ad a 0) 2 λl=>K (.agg ⟨l⟩))))
def mj(d e:LV)(K:VK):WK:=mk d λb=>mk e λc=>mk [.u 0,.u 0] λa=>ai (ad b 0) 2 λf=>ai (ad c 0) 2 λg=>ny f g (xB λh=>br h (a8 True (a8 (2=2) (gp (ad a 0) [.u 0,.u 0] (ai (ad a 0) 2 λi=>K (.tuple ⟨[.agg ⟨i⟩,.bool false]⟩))))) (lU (ad b 1) λj=>lU (ad c 1) λk=>nr j k 0 (x2 λl m=>(xI .u64 λn=>(xI .u64 λo=>lU (ad b 0) λp=>lU (ad c 0) λq=>nr p q o (x2 λr s=>(xI .u64 λt=>(xI .u64 λw=>a8 (1=1/\(1=1/\True)) (a8 (2=2) (gp (ad a 0) [.u t,.u n] (ai (ad a 0) 2 λv=>K (.tuple ⟨[.agg ⟨v⟩,.bool true]⟩))))) s) r)) m) l)))
def ml(d e:LV)(K:VK):WK:=mk d λb=>mk e λc=>mk [.u 0,.u 0] λa=>lU (ad b 1) λf=>lU (ad c 1) λg=>nt f g 0 (x2 λh i=>(xI .u64 λj=>(xI .u64 λk=>lU (ad b 0) λl=>lU (ad c 0) λm=>nt l m k (x2 λn o=>(xI .u64 λp=>(xI .u64 λq=>br (q !=0) (a8 True (a8 (2=2) (gp (ad a 0) [.u 0,.u 0] (ai (ad a 0) 2 λr=>K (.tuple ⟨[.agg ⟨r⟩,.bool false]⟩))))) (a8 (1=1/\(1=1/\True)) (a8 (2=2) (gp (ad a 0) [.u p,.u j] (ai (ad a 0) 2 λs=>K (.tuple ⟨[.agg ⟨s⟩,.bool true]⟩)))))) o) n)) i) h)
def ft(c d:LV)(K:VK):WK:=mk c λe=>mk d λf=>mk [.u 0,.u 0] λa=>ai (ad e 0) 2 λg=>ai (ad f 0) 2 λh=>ml g h (x2 λi j=>(xA 2 λk=>(xB λl=>mk [.u 0,.u 0] λb=>aH 2 (ad b 0) k (br (!l) (ai (ad N.py 0) 2 λm=>aH 2 (ad a 0) m (ai (ad a 0) 2 λn=>K (.agg ⟨n⟩))) (ai (ad b 0) 2 λo=>aH 2 (ad a 0) o (ai (ad a 0) 2 λp=>K (.agg ⟨p⟩))))) j) i)
def bS.j1(K:VK)(c d a:Nat):WK:=ai (ad c 0) 2 λe=>ai (ad d 0) 2 λf=>mj e f (x2 λg h=>(xA 2 λi=>(xB λl=>mk [.u 0,.u 0] λb=>aH 2 (ad b 0) i (ai (ad b 0) 2 λj=>aH 2 (ad a 0) j (ai (ad a 0) 2 λk=>K (.agg ⟨k⟩)))) h) g)
def bS.j2(K:VK)(c d a:Nat):WK:=ai (ad c 0) 2 λe=>ai (ad d 0) 2 λf=>mj e f (x2 λg h=>(xA 2 λi=>(xB λl=>mk [.u 0,.u 0] λb=>aH 2 (ad b 0) i (ai (ad b 0) 2 λj=>aH 2 (ad a 0) j (ai (ad a 0) 2 λk=>K (.agg ⟨k⟩)))) h) g)
def bS.j3(K:VK)(c d a:Nat):WK:=ai (ad c 0) 2 λe=>ai (ad d 0) 2 λf=>mj e f (x2 λg h=>(xA 2 λi=>(xB λl=>mk [.u 0,.u 0] λb=>aH 2 (ad b 0) i (ai (ad b 0) 2 λj=>aH 2 (ad a 0) j (ai (ad a 0) 2 λk=>K (.agg ⟨k⟩)))) h) g)
def bS.j4(K:VK)(c d a:Nat):WK:=ai (ad c 0) 2 λe=>ai (ad d 0) 2 λf=>mj e f (x2 λg h=>(xA 2 λi=>(xB λl=>mk [.u 0,.u 0] λb=>aH 2 (ad b 0) i (ai (ad b 0) 2 λj=>aH 2 (ad a 0) j (ai (ad a 0) 2 λk=>K (.agg ⟨k⟩)))) h) g)
def bS.j5(K:VK)(c d a:Nat):WK:=ai (ad c 0) 2 λe=>ai (ad d 0) 2 λf=>mj e f (x2 λg h=>(xA 2 λi=>(xB λl=>mk [.u 0,.u 0] λb=>aH 2 (ad b 0) i (ai (ad b 0) 2 λj=>aH 2 (ad a 0) j (ai (ad a 0) 2 λk=>K (.agg ⟨k⟩)))) h) g)
def bS.j6(K:VK)(c d a:Nat):WK:=ai (ad c 0) 2 λe=>ai (ad d 0) 2 λf=>mj e f (x2 λg h=>(xA 2 λi=>(xB λl=>mk [.u 0,.u 0] λb=>aH 2 (ad b 0) i (ai (ad b 0) 2 λj=>aH 2 (ad a 0) j (ai (ad a 0) 2 λk=>K (.agg ⟨k⟩)))) h) g)
def bS(y:LV)(h:Bool)(K:VK):WK:=mk y λa=>mk [.u 0,.u 0] λc=>tick (ai (ad a 4) 2 λb=>ai (ad a 6) 2 λd=>ai (ad a 8) 2 λe=>both (ft d e (xA 2 λq=>kp (ad a 4) b (both (mk [.u 0,.u 0] λi=>kp (ad a 4) b (mk [.u 0,.u 0] λj=>kp (ad a 4) b (aH 2 (ad i 0) b (aH 2 (ad j 0) q (br h (tick (ai (ad a 8) 2 λr=>ai (ad a 2) 2 λz=>ai (ad a 4) 2 λA=>ft z A (xA 2 λB=>kp (ad a 8) r (aH 2 (ad i 0) r (aH 2 (ad j 0) B (bS.j1 K i j c)))))) (bS.j1 K i j c)))))) (mk [.u 0,.u 0] λk=>kp (ad a 4) b (mk [.u 0,.u 0] λl=>kp (ad a 4) b (aH 2 (ad l 0) b (aH 2 (ad k 0) q (br h (tick (ai (ad a 8) 2 λs=>ai (ad a 2) 2 λC=>ai (ad a 4) 2 λD=>ft C D (xA 2 λE=>kp (ad a 8) s (aH 2 (ad l 0) s (aH 2 (ad k 0) E (bS.j2 K l k c)))))) (bS.j2 K l k c))))))))) (both (mk [.u 0,.u 0] λf=>kp (ad a 8) e (kp (ad a 6) d (kp (ad a 4) b (both (ft d e (xA 2 λF=>kp (ad a 4) b (mk [.u 0,.u 0] λm=>kp (ad a 4) b (aH 2 (ad f 0) b (aH 2 (ad m 0) F (br h (tick (ai (ad a 8) 2 λt=>ai (ad a 2) 2 λG=>ai (ad a 4) 2 λH=>ft G H (xA 2 λI=>kp (ad a 8) t (aH 2 (ad f 0) t (aH 2 (ad m 0) I (bS.j3 K f m c)))))) (bS.j3 K f m c))))))) (mk [.u 0,.u 0] λn=>kp (ad a 8) e (kp (ad a 6) d (kp (ad a 4) b (ft d e (xA 2 λJ=>kp (ad a 4) b (aH 2 (ad f 0) b (aH 2 (ad n 0) J (br h (tick (ai (ad a 8) 2 λv=>ai (ad a 2) 2 λM=>ai (ad a 4) 2 λO=>ft M O (xA 2 λP=>kp (ad a 8) v (aH 2 (ad f 0) v (aH 2 (ad n 0) P (bS.j4 K f n c)))))) (bS.j4 K f n c))))))))))))) (mk [.u 0,.u 0] λg=>kp (ad a 8) e (kp (ad a 6) d (kp (ad a 4) b (both (ft d e (xA 2 λQ=>kp (ad a 4) b (mk [.u 0,.u 0] λo=>kp (ad a 4) b (aH 2 (ad o 0) b (aH 2 (ad g 0) Q (br h (tick (ai (ad a 8) 2 λw=>ai (ad a 2) 2 λR=>ai (ad a 4) 2 λS=>ft R S (xA 2 λT=>kp (ad a 8) w (aH 2 (ad o 0) w (aH 2 (ad g 0) T (bS.j5 K o g c)))))) (bS.j5 K o g c))))))) (mk [.u 0,.u 0] λp=>kp (ad a 8) e (kp (ad a 6) d (kp (ad a 4) b (ft d e (xA 2 λV=>kp (ad a 4) b (aH 2 (ad p 0) b (aH 2 (ad g 0) V (br h (tick (ai (ad a 8) 2 λx=>ai (ad a 2) 2 λW=>ai (ad a 4) 2 λX=>ft W X (xA 2 λY=>kp (ad a 8) x (aH 2 (ad p 0) x (aH 2 (ad g 0) Y (bS.j6 K p g c)))))) (bS.j6 K p g c)))))))))))))))
def dx.j3(K:VK)(d a e b:Nat):WK:=lI (ad d 13) λf=>br ((bC .i64 .and f 32)!=0) (tick (ai (ad a 0) 2 λc=>ai (ad e 14) 14 λg=>bS g false (xA 2 λh=>kp (ad a 0) c (tK c h (xA 2 λj=>aH 2 (ad a 0) j (ai (ad a 0) 2 λk=>eL k (xB λl=>br l (ai (ad a 0) 2 λm=>aH 2 (ad b 0) m (ai (ad b 0) 2 λn=>K (.tuple ⟨[.agg ⟨n⟩,.i 34]⟩))) (ai (ad a 0) 2 λo=>aH 2 (ad b 0) o (ai (ad b 0) 2 λp=>K (.tuple ⟨[.agg ⟨p⟩,.i 0]⟩)))))))))) (ai (ad a 0) 2 λq=>aH 2 (ad b 0) q (ai (ad b 0) 2 λr=>K (.tuple ⟨[.agg ⟨r⟩,.i 0]⟩)))
def dx.j2(K:VK)(c a d b:Nat):WK:=lI (ad c 13) λf=>br ((bC .i64 .and f 16)!=0) (tick (ai (ad a 0) 2 λe=>ai (ad d 0) 14 λg=>bS g true (xA 2 λh=>kp (ad a 0) e (tK e h (xA 2 λj=>aH 2 (ad a 0) j (ai (ad a 0) 2 λk=>eL k (xB λl=>br l (ai (ad a 0) 2 λm=>aH 2 (ad b 0) m (ai (ad b 0) 2 λn=>K (.tuple ⟨[.agg ⟨n⟩,.i 33]⟩))) (dx.j3 K c a d b)))))))) (dx.j3 K c a d b)
def dx.j1(K:VK)(a b c d:Nat)(e:Bool):WK:=br e (ai (ad N.py 0) 2 λf=>aH 2 (ad a 0) f (dx.j2 K b a c d)) (dx.j2 K b a c d)
def dx(e f:LV)(K:VK):WK:=mk e λc=>mk f λa=>mk [.u 0,.u 0] λd=>ai (ad a 6) 2 λg=>mk [.u 0,.u 0] λb=>aH 2 (ad b 0) g (ai (ad a 0) 16 λh=>mP h (xB λi=>br i (ai (ad b 0) 2 λj=>eL j (xB λk=>dx.j1 K b a c d k)) (dx.j1 K b a c d false)))
def tJ(o:OA)(k q:Nat)(K:VK):WK:=mk [.u 0,.u 0] λr=>mk [.u 0,.u 0] λs=>(lp [.p (some (ad r 0)),.bool false,.p (some (ad s 0)),.l o k q,.i (k:Int),.i 0] λm t=>∀a g b d e h f c j,m [.p (some a),.bool g,.p (some b),.l d e h,.i f,.i c] j->(br (decide (c<f)) (fP d e c 2 λv=>ai v 2 λw=>mk [.u 0,.u 0] λn=>aH 2 (ad n 0) w (ai b 2 λx=>ai (ad n 0) 2 λy=>ml x y (x2 λz A=>(xA 2 λB=>(xB λC=>aH 2 b B (br (!C) (a8 True (a8 (2=2) (gp a [.u 0,.u 0] (ai a 2 λD=>K (.tuple ⟨[.agg ⟨D⟩,.bool false]⟩))))) ((ct m t [.p (some a),.bool g,.p (some b),.l d e h,.i f,.i (adU.wrap (c+1))] [.p (some a),.bool g,.p (some b),.l d e h,.i f,.i c] j)))) A) z))) (ai b 2 λE=>aH 2 a E (ai a 2 λF=>K (.tuple ⟨[.agg ⟨F⟩,.bool true]⟩)))) j)
def jY.j1(K:VK)(a b:Nat)(d:Bool)(c:Nat)(e:Bool):WK:=br e (ai (ad a 0) 14 λf=>aH 14 (ad b 0) f (ai (ad b 0) 14 λg=>K (.tuple ⟨[.agg ⟨g⟩,.i 33]⟩))) (br d (ai (ad a 2) 2 λh=>ai (ad c 0) 2 λj=>ml h j (x2 λk l=>(xA 2 λm=>(xB λw=>aH 2 (ad a 2) m (ai (ad a 0) 14 λn=>aH 14 (ad b 0) n (ai (ad b 0) 14 λo=>K (.tuple ⟨[.agg ⟨o⟩,.i 0]⟩)))) l) k)) (ai (ad a 4) 2 λp=>ai (ad c 0) 2 λq=>ml p q (x2 λr s=>(xA 2 λt=>(xB λx=>aH 2 (ad a 4) t (ai (ad a 0) 14 λu=>aH 14 (ad b 0) u (ai (ad b 0) 14 λv=>K (.tuple ⟨[.agg ⟨v⟩,.i 0]⟩)))) s) r)))
def jY(k l:LV)(e:Bool)(K:VK):WK:=mk k λa=>mk l λb=>mk cK λc=>ai (ad a 2) 2 λf=>ai (ad a 4) 2 λg=>ai (ad b 0) 2 λh=>a8 (f.length=2/\(g.length=2/\(h.length=2/\True))) (mk (f++(g++(h++[]))) λm=>tJ (some ⟨m,0,none⟩) 3 3 (x2 λn o=>(xA 2 λp=>(xB λq=>mk [.u 0,.u 0] λr=>aH 2 (ad r 0) p (br (!q) (ai (ad a 0) 14 λs=>aH 14 (ad c 0) s (ai (ad c 0) 14 λt=>K (.tuple ⟨[.agg ⟨t⟩,.i 32]⟩))) (tick (lI (ad a 12) λd=>br ((bC .i64 .and d 2)!=0) (ai (ad a 0) 14 λv=>ai (ad b 0) 2 λj=>bS v true (xA 2 λw=>kp (ad b 0) j (kp (ad a 12) [.i d] (ny w j (xB λx=>kp (ad a 12) [.i d] (jY.j1 K a c e b x)))))) (jY.j1 K a c e b false))))) o) n))
def iV.j1(K:VK)(a b:Nat)(d:Bool)(c:Nat)(e:Bool):WK:=br e (ai (ad a 0) 14 λf=>aH 14 (ad b 0) f (ai (ad b 0) 14 λg=>K (.tuple ⟨[.agg ⟨g⟩,.i 34]⟩))) (br d (ai (ad a 6) 2 λh=>ai (ad c 0) 2 λj=>ml h j (x2 λk l=>(xA 2 λm=>(xB λw=>aH 2 (ad a 6) m (ai (ad a 0) 14 λn=>aH 14 (ad b 0) n (ai (ad b 0) 14 λo=>K (.tuple ⟨[.agg ⟨o⟩,.i 0]⟩)))) l) k)) (ai (ad a 8) 2 λp=>ai (ad c 0) 2 λq=>ml p q (x2 λr s=>(xA 2 λt=>(xB λx=>aH 2 (ad a 8) t (ai (ad a 0) 14 λu=>aH 14 (ad b 0) u (ai (ad b 0) 14 λv=>K (.tuple ⟨[.agg ⟨v⟩,.i 0]⟩)))) s) r)))
def iV(k l:LV)(e:Bool)(K:VK):WK:=mk k λa=>mk l λb=>mk cK λc=>ai (ad a 6) 2 λf=>ai (ad a 8) 2 λg=>ai (ad b 0) 2 λh=>a8 (f.length=2/\(g.length=2/\(h.length=2/\True))) (mk (f++(g++(h++[]))) λm=>tJ (some ⟨m,0,none⟩) 3 3 (x2 λn o=>(xA 2 λp=>(xB λq=>mk [.u 0,.u 0] λr=>aH 2 (ad r 0) p (br (!q) (ai (ad a 0) 14 λs=>aH 14 (ad c 0) s (ai (ad c 0) 14 λt=>K (.tuple ⟨[.agg ⟨t⟩,.i 32]⟩))) (tick (lI (ad a 12) λd=>br ((bC .i64 .and d 4)!=0) (ai (ad a 0) 14 λv=>ai (ad b 0) 2 λj=>bS v false (xA 2 λw=>kp (ad b 0) j (kp (ad a 12) [.i d] (ny w j (xB λx=>kp (ad a 12) [.i d] (iV.j1 K a c e b x)))))) (iV.j1 K a c e b false))))) o) n))
def eE.j1(K:VK)(a b g:Nat):WK:=tick (lP (ad a 0) λn=>lP (ad a 0) λc=>nn c λd=>lI (d.add 7) λe=>kH n (xI .i64 λo=>kp (d.add 7) [.i e] (kp (ad a 0) [.p c] (st (ad b 30) (.i o) (kp (d.add 7) [.i e] (kp (ad a 0) [.p c] (st (ad b 31) (.i e) (tick (lP (ad a 0) λh=>nn h λq=>lP (q.add 2) λr=>ai (ad b 0) 33 λs=>fV r s (xI .i64 λj=>kp (ad a 0) [.p h] (tick (lP (ad a 0) λk=>nn k λt=>lP (t.add 4) λu=>ai (ad g 0) 2 λv=>bZ u v j (xB λJ=>kp (ad a 0) [.p k] (tick (lP (ad a 0) λl=>nn l λw=>lI (ad b 30) λx=>fB (some (w.add 5)) x j (xB λM=>kp (ad a 0) [.p l] (lP (ad a 0) λy=>nn y λz=>eu (some z) (.func (.func N.cw) ⟨[]⟩ ⟨[.p (some (ad a 0)),.p (some (ad g 0)),.p (some (ad b 0))]⟩) (x0 (ai (ad b 0) 33 λA=>qh A (x2 λB C=>(xA 4 λD=>(xB λE=>mk tI λf=>aH 4 (ad f 0) D (br E (tick (lP (ad a 0) λm=>nn m λF=>ai (ad f 0) 4 λG=>iD (some (F.add 6)) G (x0 (kp (ad a 0) [.p m] (lP (ad a 0) λH=>nn H λI=>eu (some I) (.func (.func N.cu) ⟨[]⟩ ⟨[.p (some (ad a 0)),.p (some (ad f 0))]⟩) (x0 (K (.i 0)))))))) (K (.i 0)))) C) B))))))))))))))))))))
def eE(g:OA)(h j:LV)(k:Bool)(K:VK):WK:=mk [.p g] λa=>mk h λl=>mk j λb=>lP (ad a 0) λm=>br (m.isNone) (K (.i 2)) (lP (ad a 0) λn=>nn n λo=>lP (o.add 2) λq=>dv q (xI .i64 λr=>br (decide (r>=96)) (K (.i 6)) (tick (lP (ad a 0) λf=>nn f λs=>lP (s.add 4) λt=>ai (ad b 0) 2 λu=>ef t u (x2 λv w=>(xI .i64 λy=>(xB λx=>kp (ad a 0) [.p f] (br x (K (.i 1)) (ai (ad l 0) 16 λd=>ai (ad b 0) 16 λe=>a8 (d.length=16/\(e.length=16/\True)) (mk bg λc=>a8 ((d++(e++([.i 0]:LV))).length=33) (gp (ad c 0) (d++(e++([.i 0]:LV))) (br k (st (ad c 32) (.i 1) (eE.j1 K a c b)) (eE.j1 K a c b))))))) w) v)))))
def l6.j2(K:VK)(d:Nat)(c:OA)(a g:Nat):WK:=ai (ad d 0) 14 λh=>gP c h (xI .i64 λo=>ai (ad d 14) 14 λj=>gP c j (xI .i64 λp=>ai (ad a 0) 16 λk=>mk fj λb=>aH 16 (ad b 0) k (ai (ad g 0) 2 λl=>aH 2 (ad b 6) l (tick (ai (ad a 0) 16 λe=>ai (ad b 0) 16 λf=>ai (ad a 0) 16 λm=>iL m (xB λn=>kp (ad b 0) f (kp (ad a 0) e (eE c e f n (xI .i64 λq=>K (.i 0))))))))))
def l6.j1(K:VK)(b a:Nat)(c:OA)(d:Nat):WK:=lI (ad b 13) λe=>br ((bC .i64 .and e 128)!=0) (lI (ad a 26) λf=>st (ad a 26) (.i (bC .i64 .or f 8)) (l6.j2 K a c b d)) (l6.j2 K a c b d)
def l6(d:OA)(p:LV)(K:VK):WK:=mk p λb=>ai (ad b 0) 16 λq=>cT q (xI .i64 λe=>br (e !=0) (K (.i e)) (ai (ad b 0) 16 λr=>oy r (xB λs=>br s (K (.i 6)) (ai (ad b 0) 2 λt=>eB d t (x2 λv w=>(xA 33 λx=>(xB λy=>mk bg λf=>aH 33 (ad f 0) x (br y (ai (ad b 0) 16 λz=>ai (ad f 0) 16 λA=>qn z A (xI .i64 λB=>K (.i B))) (ai (ad b 0) 16 λC=>uN d C (x2 λD E=>(xA 28 λF=>(xI .i64 λg=>mk kN λa=>aH 28 (ad a 0) F (br (g !=0) (K (.i g)) (kJ d (xB λG=>br (!G) (K (.i 35)) (ai (ad a 0) 28 λH=>ai (ad b 0) 16 λI=>dx H I (x2 λJ M=>(xA 2 λO=>(xI .i64 λh=>mk [.u 0,.u 0] λc=>aH 2 (ad c 0) O (br (h !=0) (K (.i h)) (tick (ai (ad a 0) 14 λj=>ai (ad c 0) 2 λk=>ai (ad b 0) 16 λP=>iL P (xB λQ=>kp (ad c 0) k (kp (ad a 0) j (jY j k Q (x2 λR S=>(xA 14 λT=>(xI .i64 λl=>aH 14 (ad a 0) T (br (l !=0) (K (.i l)) (tick (ai (ad a 14) 14 λm=>ai (ad c 0) 2 λn=>ai (ad b 0) 16 λV=>iL V (xB λW=>kp (ad c 0) n (kp (ad a 14) m (iV m n W (x2 λX Y=>(xA 14 λZ=>(xI .i64 λo=>aH 14 (ad a 14) Z (br (o !=0) (K (.i o)) (lI (ad b 13) λn7=>br ((bC .i64 .and n7 64)!=0) (lI (ad a 12) λMk=>st (ad a 12) (.i (bC .i64 .or Mk 8)) (l6.j1 K b a d c)) (l6.j1 K b a d c)))) Y) X)))))))) S) R)))))))) M) J)))))) E) D)))) w) v)))))
def iN(d:OA)(e:Int)(f:LV)(K:VK):WK:=mk [.p d] λa=>mk [.i e] λb=>mk f λg=>lP (ad a 0) λh=>lI (ad b 0) λj=>bT h j (x2 λk l=>(xA 33 λm=>(xB λn=>mk bg λc=>aH 33 (ad c 0) m (br (!n) (K (.bool false)) (tick (lP (ad a 0) λo=>nn o λq=>lL q λr s z=>lI (ad b 0) λt=>ai (ad g 0) 33 λu=>fP r s t 33 λv=>aH 33 v u (lP (ad a 0) λw=>nn w λx=>lP (x.add 1) λy=>eu y (.func (.func N.bp) ⟨[]⟩ ⟨[.p (some (ad c 0)),.p (some (ad a 0)),.p (some (ad b 0))]⟩) (x0 (K (.bool true)))))))) l) k)
def bB.j4(K:VK)(a e b:Nat)(f:Int):WK:=tick (lP (ad a 0) λc=>nn c λg=>lP (g.add 4) λh=>ai (ad e 0) 2 λj=>ef h j (x2 λk l=>(xI .i64 λm=>(xB λr=>kp (ad a 0) [.p c] (st (ad b 32) (.i f) (tick (lP (ad a 0) λd=>nn d λn=>lP (n.add 2) λo=>ai (ad b 0) 33 λq=>iN o m q (xB λs=>kp (ad a 0) [.p d] (K (.i 0))))))) l) k))
def bB.j3(K:VK)(a e b c:Nat)(d:Int)(f:Bool):WK:=br f (lP (ad a 0) λg=>nn g λh=>eu (some h) (.func (.func N.cE) ⟨[]⟩ ⟨[.p (some (ad a 0)),.p (some (ad e 0))]⟩) (x0 (bB.j4 K a b c d))) (bB.j4 K a b c d)
def bB.j2(K:VK)(c a d:Nat)(e:Int)(g:Bool):WK:=br g (K (.i 1)) (ai (ad c 0) 33 λh=>qh h (x2 λj k=>(xA 4 λl=>(xB λm=>mk tI λb=>aH 4 (ad b 0) l (tick (br m (lP (ad a 0) λf=>nn f λn=>lI (ad b 1) λo=>jc (some (n.add 6)) o (xB λq=>kp (ad a 0) [.p f] (bB.j3 K a b d c e q))) (bB.j3 K a b d c e false)))) k) j))
def bB.j1(K:VK)(a:Int)(b c d:Nat)(e:Bool):WK:=br e (K (.i 5)) (br (decide (a<=1)) (bB.j2 K b c d a true) (bB.j2 K b c d a (decide (a>4))))
def bB(e:OA)(f:LV)(d:Int)(K:VK):WK:=mk [.p e] λa=>mk f λc=>lP (ad a 0) λg=>ai (ad c 0) 2 λh=>eB g h (x2 λj k=>(xA 33 λl=>(xB λm=>mk bg λb=>aH 33 (ad b 0) l (lP (ad a 0) λn=>br (n.isNone) (K (.i 2)) (br (!m) (bB.j1 K d b a c true) (lI (ad b 32) λo=>bB.j1 K d b a c (o !=1))))) k) j)
def cb.j1(K:VK)(b:Nat)(a:OA)(c d:Nat)(e:Int):WK:=ai (ad b 0) 14 λf=>gP a f (xI .i64 λi=>ai (ad c 0) 14 λg=>gP a g (xI .i64 λj=>ai (ad d 0) 2 λh=>bB a h e (xI .i64 λk=>K (.tuple ⟨[]⟩))))
def cb.j2(K:VK)(b a c:Nat)(d:OA)(e:Int):WK:=lI (ad b 13) λf=>br ((bC .i64 .and f 128)!=0) (lI (ad a 12) λg=>st (ad a 12) (.i (bC .i64 .andNot g 8)) (cb.j1 K c d a b e)) (cb.j1 K c d a b e)
def cb(d:OA)(g h:LV)(e:Int)(K:VK):WK:=mk g λb=>mk h λf=>ai (ad b 2) 2 λj=>bX d j (x2 λk l=>(xA 14 λm=>(xB λQ=>mk cK λa=>aH 14 (ad a 0) m (ai (ad b 4) 2 λn=>bX d n (x2 λo p=>(xA 14 λq=>(xB λR=>mk cK λc=>aH 14 (ad c 0) q (ai (ad a 2) 2 λr=>ai (ad b 6) 2 λs=>mj r s (x2 λt u=>(xA 2 λv=>(xB λS=>aH 2 (ad a 2) v (ai (ad c 6) 2 λw=>ai (ad b 6) 2 λx=>mj w x (x2 λy z=>(xA 2 λA=>(xB λT=>aH 2 (ad c 6) A (br (e==2) (ai (ad a 4) 2 λB=>ai (ad f 0) 2 λC=>ml B C (x2 λD E=>(xA 2 λF=>(xB λV=>aH 2 (ad a 4) F (ai (ad c 8) 2 λG=>ai (ad f 0) 2 λH=>ml G H (x2 λI J=>(xA 2 λM=>(xB λW=>aH 2 (ad c 8) M (cb.j1 K a d c b e)) J) I))) E) D)) (lI (ad b 13) λO=>br ((bC .i64 .and O 64)!=0) (lI (ad a 12) λP=>st (ad a 12) (.i (bC .i64 .andNot P 8)) (cb.j2 K b c a d e)) (cb.j2 K b c a d e)))) z) y))) u) t))) p) o))) l) k)
def cb.u:WP|[.pointer a,.agg ⟨b⟩,.agg ⟨c⟩,.int .i64 d],K=>cb a b c d K|_,_=>no
def dB.j3(K:VK)(a b:Nat)(c:Bool):WK:=br c (lI (ad a 12) λd=>br (d==0) (K (.bool true)) (lI (ad a 12) λe=>lI (ad b 12) λf=>K (.bool (e==f)))) (K (.bool false))
def dB.j2(K:VK)(a b:Nat)(c:Bool):WK:=br c (lI (ad a 11) λd=>br (d==0) (dB.j3 K a b true) (lI (ad a 11) λe=>lI (ad b 11) λf=>dB.j3 K a b (e==f))) (dB.j3 K a b false)
def dB.j1(K:VK)(a b:Nat)(c:Bool):WK:=br c (ai (ad a 4) 2 λd=>eL d (xB λe=>br e (dB.j2 K a b true) (ai (ad a 4) 2 λf=>ai (ad b 4) 2 λg=>nF [.u 0,.u 0] f g λh=>dB.j2 K a b h))) (dB.j2 K a b false)
def dB(c d:LV)(K:VK):WK:=mk c λa=>mk d λb=>ai (ad a 2) 2 λe=>eL e (xB λf=>br f (dB.j1 K a b true) (ai (ad a 2) 2 λg=>ai (ad b 2) 2 λh=>nF [.u 0,.u 0] g h λi=>dB.j1 K a b i))
def uQ(f:OA)(g:LV)(K:VK):WK:=mk g λd=>mk fj λa=>ai (ad d 8) 2 λh=>eB f h (x2 λj k=>(xA 33 λl=>(xB λm=>mk bg λb=>aH 33 (ad b 0) l (br (!m) (a8 True (a8 (16=16) (gp (ad a 0) fj (ai (ad a 0) 16 λn=>K (.tuple ⟨[.agg ⟨n⟩,.i 23]⟩))))) (ai (ad b 16) 16 λo=>iL o (xB λp=>br (!p) (a8 True (a8 (16=16) (gp (ad a 0) fj (ai (ad a 0) 16 λq=>K (.tuple ⟨[.agg ⟨q⟩,.i 24]⟩))))) (ai (ad d 0) 16 λr=>ai (ad b 16) 16 λs=>dB r s (xB λt=>br (!t) (a8 True (a8 (16=16) (gp (ad a 0) fj (ai (ad a 0) 16 λu=>K (.tuple ⟨[.agg ⟨u⟩,.i 25]⟩))))) (tick (ai (ad b 16) 16 λv=>lI (ad b 32) λc=>a8 ((0:Int)<=c/\c<5) (lI ((ad N.uo 0).add (c.toNat* 1)) λe=>aH 16 (ad a 0) v (kp ((ad N.uo 0).add (c.toNat* 1)) [.i e] (kp (ad b 32) [.i c] (ai (ad a 0) 16 λw=>K (.tuple ⟨[.agg ⟨w⟩,.i e]⟩))))))))))))) k) j)
def kQ.j1(K:VK)(a b d:Nat)(c:Bool):WK:=br c (br c (a8 True (a8 (2=2) (gp (ad a 0) [.u 0,.u 0] (ai (ad a 0) 2 λe=>K (.tuple ⟨[.agg ⟨e⟩,.i 26]⟩))))) (ai (ad b 6) 2 λf=>aH 2 (ad a 0) f (ai (ad a 0) 2 λg=>K (.tuple ⟨[.agg ⟨g⟩,.i 0]⟩)))) (ai (ad d 6) 2 λh=>ai (ad b 6) 2 λj=>ny h j (xB λk=>br k (a8 True (a8 (2=2) (gp (ad a 0) [.u 0,.u 0] (ai (ad a 0) 2 λl=>K (.tuple ⟨[.agg ⟨l⟩,.i 26]⟩))))) (ai (ad b 6) 2 λm=>aH 2 (ad a 0) m (ai (ad a 0) 2 λn=>K (.tuple ⟨[.agg ⟨n⟩,.i 0]⟩)))))
def kQ(d e:LV)(K:VK):WK:=mk d λa=>mk e λb=>mk [.u 0,.u 0] λc=>ai (ad a 6) 2 λf=>eL f (xB λg=>br g (ai (ad b 6) 2 λh=>aH 2 (ad c 0) h (ai (ad c 0) 2 λj=>K (.tuple ⟨[.agg ⟨j⟩,.i 0]⟩))) (lI (ad a 13) λk=>br ((bC .i64 .and k 8)!=0) (ai (ad a 6) 2 λl=>ai (ad b 6) 2 λm=>nF [.u 0,.u 0] l m λn=>kQ.j1 K c a b (!n)) (kQ.j1 K c a b false)))
def jU.j1(K:VK)(a b:Nat)(c:Bool):WK:=br c (K (.i 30)) (lI (ad a 12) λd=>br ((bC .i64 .and d 8)!=0) (lI (ad b 13) λe=>br ((bC .i64 .and e 128)==0) (K (.i 31)) (K (.i 0))) (K (.i 0)))
def jU(c:OA)(e:LV)(K:VK):WK:=mk e λa=>ai (ad a 2) 2 λf=>bX c f (x2 λg h=>(xA 14 λi=>(xB λp=>mk cK λd=>aH 14 (ad d 0) i (ai (ad a 4) 2 λj=>bX c j (x2 λk l=>(xA 14 λm=>(xB λq=>mk cK λb=>aH 14 (ad b 0) m (lI (ad d 12) λn=>br ((bC .i64 .and n 8)!=0) (lI (ad a 13) λo=>jU.j1 K b a ((bC .i64 .and o 64)==0)) (jU.j1 K b a false))) l) k))) h) g)
def nT.j1(K:VK)(f:OA)(a d h:Nat)(k:Int):WK:=kJ f (xB λl=>br (!l) (K (.i 35)) (ai (ad a 0) 16 λm=>ai (ad d 0) 2 λn=>cb f m n k (x0 (ai (ad h 0) 16 λo=>mk fj λb=>aH 16 (ad b 0) o (tick (ai (ad a 2) 2 λp=>ai (ad a 4) 2 λj=>ai (ad d 0) 2 λg=>lI (ad a 11) λe=>lI (ad a 12) λc=>aH 2 (ad b 2) p (kp (ad a 12) [.i c] (kp (ad a 11) [.i e] (kp (ad d 0) g (kp (ad a 4) j (aH 2 (ad b 4) j (kp (ad a 12) [.i c] (kp (ad a 11) [.i e] (kp (ad d 0) g (aH 2 (ad b 6) g (kp (ad a 12) [.i c] (kp (ad a 11) [.i e] (st (ad b 11) (.i e) (kp (ad a 12) [.i c] (st (ad b 12) (.i c) (ai (ad h 0) 16 λq=>ai (ad b 0) 16 λr=>eE f q r false (xI .i64 λs=>K (.i 0)))))))))))))))))))))))
def nT(b:OA)(j:LV)(K:VK):WK:=mk j λa=>ai (ad a 0) 2 λk=>eB b k (x2 λl m=>(xA 33 λn=>(xB λo=>mk bg λe=>aH 33 (ad e 0) n (br o (ai (ad a 0) 16 λp=>ai (ad e 0) 16 λq=>qn p q (xI .i64 λr=>K (.i r))) (ai (ad a 0) 16 λs=>uQ b s (x2 λt v=>(xA 16 λw=>(xI .i64 λf=>mk fj λc=>aH 16 (ad c 0) w (br (f !=0) (K (.i f)) (ai (ad a 0) 16 λx=>ai (ad c 0) 16 λy=>kQ x y (x2 λz A=>(xA 2 λB=>(xI .i64 λg=>mk [.u 0,.u 0] λd=>aH 2 (ad d 0) B (br (g !=0) (K (.i g)) (lI (ad a 13) λC=>br ((bC .i64 .and C 4)!=0) (ai (ad c 0) 16 λD=>jU b D (xI .i64 λh=>br (h !=0) (K (.i h)) (nT.j1 K b c d a 2))) (nT.j1 K b c d a 3)))) A) z)))) v) t)))) m) l)
def kr.j1(K:VK)(a:Nat)(b:OA)(c:Bool):WK:=br c (ai (ad a 0) 16 λd=>l6 b d (xI .i64 λe=>K (.i e))) (ai (ad a 0) 16 λf=>nT b f (xI .i64 λg=>K (.i g)))
def kr(b:OA)(c:LV)(K:VK):WK:=mk c λa=>ai (ad a 0) 16 λd=>cT d (xI .i64 λe=>br (e !=0) (kr.j1 K a b true) (ai (ad a 0) 16 λf=>oy f (xB λg=>kr.j1 K a b (!g))))
def kr.u:WP|[.pointer a,.agg ⟨b⟩],K=>kr a b K|_,_=>no
def iT(f o:OA)(j q:Nat)(r:OA)(s t:Nat)(v:Value)(K:VK):WK:=cX f (xI .i64 λw=>(lp [.i w,.l o j q,.i (j:Int),.i 0] λk x=>∀b c d g e a h,k [.i b,.l c d g,.i e,.i a] h->(br (decide (a<e)) (fP c d a 16 λy=>ai y 16 λz=>mk fj λm=>aH 16 (ad m 0) z (ai (ad m 0) 16 λA=>tz [(N.cY,cY.u),(N.cX,cX.u),(N.fK,fK.u),(N.kr,kr.u)] v [.p f,.agg ⟨A⟩] (xI .i64 λn=>br (n !=0) (cY f b (x0 (fK r s t a n (x0 (K (.tuple ⟨[]⟩)))))) ((ct k x [.i b,.l c d g,.i e,.i (adU.wrap (a+1))] [.i b,.l c d g,.i e,.i a] h))))) (K (.tuple ⟨[]⟩))) h))
def lj(t n:OA)(e o:Nat)(u v:Value)(K:VK):WK:=Gh 8 [.i 0] (e:Int) (e:Int) λw x y=>(lp [.l none 0 0,.l w x y,.i 0] λm p=>∀f g h b c d a k,m [.l f g h,.l b c d,.i a] k->(br (decide (a<(e:Int))) (oo n e o 16 (some a) none λz A B=>ir z A B (u) (x2 λC D=>(xI .i64 λj=>(xB λE=>oo b c d 1 (some a) (some (adU.wrap (a+j))) λq r s=>br (!E) (fK q r s (adU.wrap (j-1)) 2 (x0 ((ct m p [.l f g h,.l b c d,.i (adU.wrap (a+j))] [.l f g h,.l b c d,.i a] k)))) (oo n e o 16 (some a) (some (adU.wrap (a+j))) λF G H=>iT t F G H q r s (v) (x0 ((ct m p [.l f g h,.l b c d,.i (adU.wrap (a+j))] [.l f g h,.l b c d,.i a] k))))) D) C)) (K (.l b c d))) k)
def m9(a b:OA)(c d:Nat)(K:VK):WK:=lj a b c d (.func (.func N.dz) ⟨[]⟩ ⟨[]⟩) (.func (.func N.kr) ⟨[]⟩ ⟨[]⟩) (xL λe f g=>K (.l e f g))
def cn.j1(K:VK)(a:Nat)(c:Int)(d:Bool):WK:=br d (K (.tuple ⟨[]⟩)) (lP (ad a 0) λe=>nn e λf=>lI (f.add 7) λg=>mk [.i 0] λb=>st (ad b 0) (.i g) (lP (ad a 0) λh=>nn h λj=>st (j.add 7) (.i c) (lP (ad a 0) λk=>nn k λl=>eu (some l) (.func (.func N.cm) ⟨[]⟩ ⟨[.p (some (ad b 0)),.p (some (ad a 0))]⟩) (x0 (K (.tuple ⟨[]⟩))))))
def cn(c:OA)(a:Int)(K:VK):WK:=mk [.p c] λb=>lP (ad b 0) λd=>br (d.isNone) (cn.j1 K b a true) (lP (ad b 0) λe=>nn e λf=>lI (f.add 7) λg=>br (decide (a<=g)) (cn.j1 K b a true) (cn.j1 K b a (decide (a>1099511627776))))
def cn.u:WP|[.pointer a,.int .i64 b],K=>cn a b K|_,_=>no
def pF(a:OA)(K:VK):WK:=br (a.isNone) (K (.i 0)) (nn a λb=>lL b λd c e=>K (.i (c:Int)))
def jR(b:OA)(K:VK):WK:=mk tI λa=>pF b (xI .i64 λc=>br (c==0) (a8 True (a8 (4=4) (gp (ad a 0) tI (ai (ad a 0) 4 λd=>K (.tuple ⟨[.agg ⟨d⟩,.bool false]⟩))))) (nn b λe=>lL e λf g k=>fP f g 0 4 λh=>ai h 4 λi=>aH 4 (ad a 0) i (ai (ad a 0) 4 λj=>K (.tuple ⟨[.agg ⟨j⟩,.bool true]⟩))))
def cH.j1(K:VK)(b:Nat)(c:OA)(a:Nat)(d:Bool):WK:=br d (ai (ad b 2) 2 λe=>eB c e (x2 λf g=>(xA 33 λh=>(xB λi=>aH 33 (ad a 0) h (ai (ad a 0) 33 λj=>K (.tuple ⟨[.agg ⟨j⟩,.bool i]⟩))) g) f)) (a8 True (a8 (33=33) (gp (ad a 0) bg (ai (ad a 0) 33 λk=>K (.tuple ⟨[.agg ⟨k⟩,.bool false]⟩)))))
def cH(a:OA)(K:VK):WK:=mk bg λb=>br (a.isNone) (a8 True (a8 (33=33) (gp (ad b 0) bg (ai (ad b 0) 33 λd=>K (.tuple ⟨[.agg ⟨d⟩,.bool false]⟩))))) (nn a λe=>jR (some (e.add 6)) (x2 λf g=>(xA 4 λh=>(xB λi=>mk tI λc=>aH 4 (ad c 0) h (tick (br i (lI (ad c 0) λj=>nn a λk=>lI (k.add 7) λl=>cH.j1 K c a b (decide (j<=l))) (cH.j1 K c a b false)))) g) f))
def cH.u:WP|[.pointer a],K=>cH a K|_,_=>no
def pv(a:OA)(K:VK):WK:=mk [.p a] λb=>K (.func (.func N.Iq) ⟨[]⟩ ⟨[.p (some (ad b 0))]⟩)
def pv.u:WP|[.pointer a],K=>pv a K|_,_=>no
def iw(a:OA)(K:VK):WK:=br (!(a.isNone)) (nn a λb=>jh (some b) (x0 (K (.tuple ⟨[]⟩)))) (K (.tuple ⟨[]⟩))
def pV(t v:OA)(p w:Nat)(K:VK):WK:=(lp [.l none 0 0,.l none 0 0,.l v p w,.i (p:Int),.i 0] λo q=>∀h j k b c d e f m g a n,o [.l h j k,.l b c d,.l e f m,.i g,.i a] n->(br (decide (a<g)) (fP e f a 2 λx=>ai x 2 λy=>mk [.u 0,.u 0] λr=>aH 2 (ad r 0) y (ai (ad r 0) 2 λz=>bX t z (x2 λA B=>(xA 14 λC=>(xB λD=>mk cK λs=>aH 14 (ad s 0) C (br D (ai (ad s 0) 14 λE=>Fh 14 E λF=>eW 14 112 cK b c d (some ⟨F,0,none⟩) 1 λG H I=>(ct o q [.l h j k,.l G H I,.l e f m,.i g,.i (adU.wrap (a+1))] [.l h j k,.l b c d,.l e f m,.i g,.i a] n)) ((ct o q [.l h j k,.l b c d,.l e f m,.i g,.i (adU.wrap (a+1))] [.l h j k,.l b c d,.l e f m,.i g,.i a] n)))) B) A))) (K (.l b c d))) n)
def o7(t v:OA)(p w:Nat)(K:VK):WK:=(lp [.l none 0 0,.l none 0 0,.l v p w,.i (p:Int),.i 0] λo q=>∀h j k b c d e f m g a n,o [.l h j k,.l b c d,.l e f m,.i g,.i a] n->(br (decide (a<g)) (fP e f a 2 λx=>ai x 2 λy=>mk [.u 0,.u 0] λr=>aH 2 (ad r 0) y (ai (ad r 0) 2 λz=>eB t z (x2 λA B=>(xA 33 λC=>(xB λD=>mk bg λs=>aH 33 (ad s 0) C (br D (ai (ad s 16) 16 λE=>Fh 16 E λF=>eW 16 128 fj b c d (some ⟨F,0,none⟩) 1 λG H I=>(ct o q [.l h j k,.l G H I,.l e f m,.i g,.i (adU.wrap (a+1))] [.l h j k,.l b c d,.l e f m,.i g,.i a] n)) ((ct o q [.l h j k,.l b c d,.l e f m,.i g,.i (adU.wrap (a+1))] [.l h j k,.l b c d,.l e f m,.i g,.i a] n)))) B) A))) (K (.l b c d))) n)
def dm.j1(K:VK)(w:Int)(x:OA)(y:Bool)(z:Int):WK:=(lp [.l none 0 0,.i w,.i z,.l none 0 0] λu A=>∀j k m f n g c h p,u [.l j k m,.i f,.i n,.l g c h] p->(br (decide (f<n)) (nn x λB=>lL B λC D V=>fP C D f 2 λE=>ai E 2 λF=>Fh 2 F λG=>eW 2 16 [.i 0,.i 0] g c h (some ⟨G,0,none⟩) 1 λH I J=>(ct u A [.l j k m,.i (adU.wrap (f+1)),.i n,.l H I J] [.l j k m,.i f,.i n,.l g c h] p)) (br y ((lp [.l j k m,.l g c h,.i 0,.i (adU.wrap ((c:Int) -1))] λv M=>∀q r s a b o d e t,v [.l q r s,.l a b o,.i d,.i e] t->(br (decide (d<e)) (tick (fP a b e 2 λO=>ai O 2 λP=>fP a b d 2 λQ=>ai Q 2 λR=>fP a b d 2 λS=>aH 2 S P (fP a b e 2 λT=>aH 2 T R ((ct v M [.l q r s,.l a b o,.i (adU.wrap (d+1)),.i (adU.wrap (e-1))] [.l q r s,.l a b o,.i d,.i e] t))))) (K (.l a b o))) t)) (K (.l g c h)))) p)
def dm(a:OA)(h e:Int)(c:Bool)(K:VK):WK:=br (a.isNone) (K (.l none 0 0)) (tick (nn a λf=>lL f λi g j=>iE a h (xI .i64 λd=>kp f [.l i g j] (br (e !=0) (iE a e (xI .i64 λb=>nn a λk=>lL k λs m t=>br (decide (b<(m:Int))) (nn a λn=>lL n λo p u=>fP o p b 2 λq=>lI q λr=>br (r==e) (dm.j1 K d a c (adU.wrap (b+1))) (dm.j1 K d a c b)) (dm.j1 K d a c b))) (dm.j1 K d a c (g:Int))))))
def ku(o:OA)(z A:Int)(B:Bool)(K:VK):WK:=br (o.isNone) (K (.l none 0 0)) (nn o λC=>dm (some (C.add 5)) z A B (xL λD u E=>(lp [.l none 0 0,.l none 0 0,.l D u E,.i (u:Int),.i 0] λq v=>∀h j k b c d e f m g a n,q [.l h j k,.l b c d,.l e f m,.i g,.i a] n->(br (decide (a<g)) (fP e f a 2 λF=>ai F 2 λG=>mk [.i 0,.i 0] λr=>aH 2 (ad r 0) G (tick (nn o λw=>lP (w.add 2) λs=>lI (ad r 1) λt=>both (bT s t (x2 λH I=>(xA 33 λJ=>(xB λb2=>mk bg λx=>aH 33 (ad x 0) J (ai (ad x 0) 33 λM=>Fh 33 M λO=>eW 33 264 bg b c d (some ⟨O,0,none⟩) 1 λP Q R=>(ct q v [.l h j k,.l P Q R,.l e f m,.i g,.i (adU.wrap (a+1))] [.l h j k,.l b c d,.l e f m,.i g,.i a] n))) I) H)) (mk bg λy=>kp (ad r 1) [.i t] (kp (w.add 2) [.p s] (bT s t (x2 λS T=>(xA 33 λV=>(xB λb3=>aH 33 (ad y 0) V (ai (ad y 0) 33 λW=>Fh 33 W λX=>eW 33 264 bg b c d (some ⟨X,0,none⟩) 1 λY Z V9=>(ct q v [.l h j k,.l Y Z V9,.l e f m,.i g,.i (adU.wrap (a+1))] [.l h j k,.l b c d,.l e f m,.i g,.i a] n))) T) S))))))) (K (.l b c d))) n)))
def jB.j3(K:VK)(s:Nat)(a:OA)(b c:Nat)(o:LI)(d:Addr)(e:OA)(f g:Nat)(h:OA)(j k:Nat)(m n:Int)(q:LM)(r:World)(t:Bool):WK:=br t (ai (ad s 16) 16 λu=>Fh 16 u λv=>eW 16 128 fj a b c (some ⟨v,0,none⟩) 1 λw x y=>(ct o q [.p (some d),.l e f g,.l w x y,.l h j k,.i m,.i (adU.wrap (n+1))] [.p (some d),.l e f g,.l a b c,.l h j k,.i m,.i n] r)) ((ct o q [.p (some d),.l e f g,.l a b c,.l h j k,.i m,.i (adU.wrap (n+1))] [.p (some d),.l e f g,.l a b c,.l h j k,.i m,.i n] r))
def jB.j2(K:VK)(a:Addr)(b:Nat)(q:Bool)(c:Nat)(d:OA)(e:Nat)(f:LI)(g:OA)(h i:Nat)(j:OA)(k l:Nat)(m n:Int)(o:LM)(p:World)(r:Bool):WK:=lI (a.add 7) λs=>br (decide ((b:Int)<s)) (br q (jB.j3 K c d b e f a g h i j k l m n o p true) (jB.j3 K c d b e f a g h i j k l m n o p r)) (jB.j3 K c d b e f a g h i j k l m n o p false)
def jB.j1(K:VK)(a:Addr)(b c:Nat)(d:OA)(e:Nat)(f:LI)(g:OA)(h i:Nat)(j:OA)(k l:Nat)(m n:Int)(o:LM)(p:World)(q:Bool):WK:=lT (a.add 5) λr=>br r (ai (ad b 20) 2 λs=>ai a 2 λt=>nF [.u 0,.u 0] s t λv=>jB.j2 K a c q b d e f g h i j k l m n o p v) (jB.j2 K a c q b d e f g h i j k l m n o p false)
def jB(w:OA)(x:LV)(K:VK):WK:=mk x λc=>lI (ad c 2) λy=>lI (ad c 3) λz=>lT (ad c 6) λA=>ku w y z A (xL λB t C=>(lp [.p (some (ad c 0)),.l none 0 0,.l none 0 0,.l B t C,.i (t:Int),.i 0] λn v=>∀a o q r d e f g h s j b k,n [.p (some a),.l o q r,.l d e f,.l g h s,.i j,.i b] k->(br (decide (b<j)) (fP g h b 33 λD=>ai D 33 λE=>mk bg λm=>aH 33 (ad m 0) E (lT (a.add 4) λF=>br F (ai (ad m 18) 2 λG=>ai a 2 λH=>nF [.u 0,.u 0] G H λI=>jB.j1 K a m e d f n o q r g h s j b v k I) (jB.j1 K a m e d f n o q r g h s j b v k false))) (K (.l d e f))) k))
def EV(c:OA)(e:LV)(K:VK):WK:=mk e λb=>mk Fj λa=>br (c.isNone) (a8 (1=1/\True) (a8 (4=4) (gp (ad a 0) [.i 2,.l none 0 0,.l none 0 0,.l none 0 0] (ai (ad a 0) 4 λf=>K (.agg ⟨f⟩))))) (ai (ad b 0) 13 λg=>eo g (xB λh=>br (!h) (a8 (1=1/\True) (a8 (4=4) (gp (ad a 0) [.i 1,.l none 0 0,.l none 0 0,.l none 0 0] (ai (ad a 0) 4 λj=>K (.agg ⟨j⟩))))) (lI (ad b 0) λd=>br (d==4) (lL (ad b 4) λk m n=>pV c k m n (xL λo p q=>a8 (1=1/\True) (a8 (4=4) (gp (ad a 0) [.i 0,.l none 0 0,.l o p q,.l none 0 0] (ai (ad a 0) 4 λr=>K (.agg ⟨r⟩)))))) (br (d==5) (lL (ad b 4) λs t u=>o7 c s t u (xL λv w x=>a8 (1=1/\True) (a8 (4=4) (gp (ad a 0) [.i 0,.l none 0 0,.l none 0 0,.l v w x] (ai (ad a 0) 4 λy=>K (.agg ⟨y⟩)))))) (ai (ad b 5) 8 λz=>jB c z (xL λA B C=>a8 (1=1/\True) (a8 (4=4) (gp (ad a 0) [.i 0,.l none 0 0,.l none 0 0,.l A B C] (ai (ad a 0) 4 λD=>K (.agg ⟨D⟩))))))))))
def sw(h:LV)(K:VK):WK:=mk h λj=>mk aaa λk=>(lp [.p (some (ad j 0)),.string .empty,.p (some (ad k 0)),.i 0] λf l=>∀b d c a e,f [.p (some b),.string d,.p (some c),.i a] e->(br (decide (a<8)) (tick (lU (b.add 1) λm=>a8 ((0:Int)<=(adU.wrap (8* a))) (lU b λg=>a8 ((0:Int)<=(adU.wrap (8* a))) (a8 ((0:Int)<=a/\a<16) (st (c.add (a.toNat* 1)) (.int .u8 (IntKind.u8.wrap (shr .u64 m (adU.wrap (8* a))))) (kp b [.u g] (a8 ((0:Int)<=(adU.wrap (8+a))/\(adU.wrap (8+a))<16) (st (c.add ((adU.wrap (8+a)).toNat* 1)) (.int .u8 (IntKind.u8.wrap (shr .u64 g (adU.wrap (8* a))))) ((ct f l [.p (some b),.string d,.p (some c),.i (adU.wrap (a+1))] [.p (some b),.string d,.p (some c),.i a] e)))))))))) (oo (some c) 16 16 1 none none λn o r=>RV n o λq=>K (.string q))) e)
def iA(a:OA)(f:LV)(K:VK):WK:=mk f λg=>tick (nn a λb=>lL b λc d e=>ai (ad g 0) 2 λh=>sw h (xS λi=>kp b [.l c d e] (BX c d e i λj k m=>nn a λn=>st n (.l j k m) (K (.tuple ⟨[]⟩)))))
def oa.j1(K:VK)(c:Nat)(d:OA):WK:=ai (ad c 0) 2 λg=>ai (ad c 2) 2 λh=>ai (ad c 4) 2 λj=>ai (ad c 6) 2 λk=>ai (ad c 8) 2 λl=>a8 (g.length=2/\(h.length=2/\(j.length=2/\(k.length=2/\(l.length=2/\True))))) ((lp [.p (some (ad c 0)),.agg ⟨(g++(h++(j++(k++(l++[])))))⟩,.i 0] λm o=>∀b e a f,m [.p (some b),.agg ⟨e⟩,.i a] f->(br (decide (a<5)) (a8 ((0:Int)<=a/\a<5) (mk [.u 0,.u 0] λn=>a8 (((e.drop ((a:Int).toNat* 2)).take 2).length=2) (gp (ad n 0) ((e.drop ((a:Int).toNat* 2)).take 2) (ai (ad n 0) 2 λq=>iA d q (x0 ((ct m o [.p (some b),.agg ⟨e⟩,.i (adU.wrap (a+1))] [.p (some b),.agg ⟨e⟩,.i a] f))))))) (lI (b.add 10) λr=>aC d 4 r (x0 (lI (b.add 11) λs=>aC d 2 s (x0 (lI (b.add 12) λt=>aC d 2 t (x0 (lI (b.add 13) λv=>aC d 8 v (x0 (K (.tuple ⟨[]⟩))))))))))) f))
def oa(b:OA)(c:LV)(K:VK):WK:=mk c λa=>ai (ad a 0) 14 λd=>fS d (xB λe=>br (!e) (a8 True (a8 (14=14) (gp (ad a 0) cK (oa.j1 K a b)))) (oa.j1 K a b))
def jK(h m:OA)(e n:Nat)(K:VK):WK:=nn h λo=>aC (some o) 1 (e:Int) (x0 ((lp [.l m e n,.i (e:Int),.i 0] λj p=>∀b c f d a g,j [.l b c f,.i d,.i a] g->(br (decide (a<d)) (fP b c a 14 λq=>ai q 14 λr=>mk cK λk=>aH 14 (ad k 0) r (tick (nn h λs=>ai (ad k 0) 14 λt=>oa (some s) t (x0 ((ct j p [.l b c f,.i d,.i (adU.wrap (a+1))] [.l b c f,.i d,.i a] g)))))) (K (.tuple ⟨[]⟩))) g)))
def mO.j1(K:VK)(d:Nat)(c:OA):WK:=ai (ad d 0) 2 λg=>ai (ad d 2) 2 λh=>ai (ad d 4) 2 λj=>ai (ad d 6) 2 λk=>ai (ad d 8) 2 λl=>a8 (g.length=2/\(h.length=2/\(j.length=2/\(k.length=2/\(l.length=2/\True))))) ((lp [.p (some (ad d 0)),.agg ⟨(g++(h++(j++(k++(l++[])))))⟩,.i 0] λm o=>∀a e b f,m [.p (some a),.agg ⟨e⟩,.i b] f->(br (decide (b<5)) (a8 ((0:Int)<=b/\b<5) (mk [.u 0,.u 0] λn=>a8 (((e.drop ((b:Int).toNat* 2)).take 2).length=2) (gp (ad n 0) ((e.drop ((b:Int).toNat* 2)).take 2) (ai (ad n 0) 2 λq=>iA c q (x0 ((ct m o [.p (some a),.agg ⟨e⟩,.i (adU.wrap (b+1))] [.p (some a),.agg ⟨e⟩,.i b] f))))))) (lI (a.add 10) λr=>aC c 4 r (x0 (lI (a.add 11) λs=>aC c 4 s (x0 (lI (a.add 12) λt=>aC c 2 t (x0 (lI (a.add 13) λv=>aC c 2 v (x0 (lI (a.add 14) λw=>aC c 8 w (x0 (lI (a.add 15) λx=>aC c 8 x (x0 (K (.tuple ⟨[]⟩))))))))))))))) f))
def mO(b:OA)(c:LV)(K:VK):WK:=mk c λa=>ai (ad a 0) 16 λd=>dk d (xB λe=>br (!e) (a8 True (a8 (16=16) (gp (ad a 0) fj (mO.j1 K a b)))) (mO.j1 K a b))
def jo(h m:OA)(e n:Nat)(K:VK):WK:=nn h λo=>aC (some o) 1 (e:Int) (x0 ((lp [.l m e n,.i (e:Int),.i 0] λj p=>∀b c f d a g,j [.l b c f,.i d,.i a] g->(br (decide (a<d)) (fP b c a 16 λq=>ai q 16 λr=>mk fj λk=>aH 16 (ad k 0) r (tick (nn h λs=>ai (ad k 0) 16 λt=>mO (some s) t (x0 ((ct j p [.l b c f,.i d,.i (adU.wrap (a+1))] [.l b c f,.i d,.i a] g)))))) (K (.tuple ⟨[]⟩))) g)))
def mz(a:OA)(b:Bool)(K:VK):WK:=br b (aC a 1 1 (x0 (K (.tuple ⟨[]⟩)))) (aC a 1 0 (x0 (K (.tuple ⟨[]⟩))))
def kY(b:OA)(h:LV)(K:VK):WK:=mk h λa=>tick (nn b λj=>ai (ad a 0) 2 λk=>iA (some j) k (x0 (tick (nn b λl=>lI (ad a 2) λm=>aC (some l) 8 m (x0 (tick (nn b λn=>lI (ad a 3) λo=>aC (some n) 8 o (x0 (lT (ad a 4) λq=>lT (ad a 5) λr=>lT (ad a 6) λs=>a8 (1=1/\(1=1/\(1=1/\True))) ((lp [.p (some (ad a 0)),.agg ⟨[.bool q,.bool r,.bool s]⟩,.i 0] λg t=>∀d e c f,g [.p (some d),.agg ⟨e⟩,.i c] f->(br (decide (c<3)) (yU e 3 c (xB λu=>nn b λv=>mz (some v) u (x0 ((ct g t [.p (some d),.agg ⟨e⟩,.i (adU.wrap (c+1))] [.p (some d),.agg ⟨e⟩,.i c] f))))) (tick (nn b λw=>lI (d.add 7) λx=>aC (some w) 1 x (x0 (K (.tuple ⟨[]⟩)))))) f)))))))))))
def su(t:LV)(K:VK):WK:=mk t λb=>ai (ad b 0) 13 λv=>lN v (xB λw=>br (!w) (K (.tuple ⟨[.string .empty,.i 1]⟩)) (a8 True (mk [.l none 0 0] λa=>tick (lI (ad b 0) λx=>aC (some (ad a 0)) 1 x (x0 (lI (ad b 0) λe=>br (e==1) (lL (ad b 1) λy z A=>jK (some (ad a 0)) y z A (x0 (bW (some (ad a 0)) (xS λB=>K (.tuple ⟨[.string B,.i 0]⟩))))) (br (e==2) (lL (ad b 2) λC D E=>jo (some (ad a 0)) C D E (x0 (bW (some (ad a 0)) (xS λF=>K (.tuple ⟨[.string F,.i 0]⟩))))) (br (e==3) (tick (lI (ad b 3) λG=>aC (some (ad a 0)) 8 G (x0 (bW (some (ad a 0)) (xS λH=>K (.tuple ⟨[.string H,.i 0]⟩)))))) (br (e==6) (ai (ad b 5) 8 λI=>kY (some (ad a 0)) I (x0 (bW (some (ad a 0)) (xS λJ=>K (.tuple ⟨[.string J,.i 0]⟩))))) (tick (lL (ad b 4) λM o O=>aC (some (ad a 0)) 1 (o:Int) (x0 (kp (ad b 4) [.l M o O] (lL (ad b 4) λP q Q=>(lp [.string .empty,.i 0,.p (some (ad a 0)),.l P q Q,.i (q:Int),.i 0] λr R=>∀j k c f g m h d n,r [.string j,.i k,.p (some c),.l f g m,.i h,.i d] n->(br (decide (d<h)) (fP f g d 2 λS=>ai S 2 λT=>mk [.u 0,.u 0] λs=>aH 2 (ad s 0) T (tick (ai (ad s 0) 2 λV=>iA (some c) V (x0 ((ct r R [.string j,.i k,.p (some c),.l f g m,.i h,.i (adU.wrap (d+1))] [.string j,.i k,.p (some c),.l f g m,.i h,.i d] n)))))) (bW (some c) (xS λW=>K (.tuple ⟨[.string W,.i 0]⟩)))) n)))))))))))))))
def iv(a:OA)(K:VK):WK:=br (a.isNone) (K (.i 0)) (nn a λb=>lI (b.add 7) λc=>K (.i c))
def gH(a:OA)(K:VK):WK:=br (a.isNone) (K (.l none 0 0)) (nn a λb=>lL b λc d h=>eW 14 112 cK none 0 0 c d λe f g=>K (.l e f g))
def fR(a:OA)(K:VK):WK:=br (a.isNone) (K (.l none 0 0)) (nn a λb=>lP (b.add 1) λc=>gH c (xL λd e f=>K (.l d e f)))
def iO(a:OA)(K:VK):WK:=br (a.isNone) (K (.l none 0 0)) (nn a λb=>lL b λc d h=>eW 33 264 bg none 0 0 c d λe f g=>K (.l e f g))
def iu(a:OA)(K:VK):WK:=br (a.isNone) (K (.l none 0 0)) (nn a λb=>lP (b.add 2) λc=>iO c (xL λd e f=>K (.l d e f)))
def jX(a:OA)(K:VK):WK:=br (a.isNone) (K (.i 0)) (nn a λb=>lI (b.add 8) λc=>K (.i c))
def pn(b:OA)(K:VK):WK:=a8 True (mk [.l none 0 0] λc=>aC (some (ad c 0)) 1 1 (x0 (iv b (xI .i64 λB=>aC (some (ad c 0)) 8 B (x0 (jX b (xI .i64 λC=>aC (some (ad c 0)) 8 C (x0 (fR b (xL λY D Z=>aC (some (ad c 0)) 2 (D:Int) (x0 (iu b (xL λuG E uF=>aC (some (ad c 0)) 2 (E:Int) (x0 (fR b (xL λF w G=>(lp [.string .empty,.p (some (ad c 0)),.l F w G,.i (w:Int),.i 0] λx H=>∀g d h j r k e s,x [.string g,.p (some d),.l h j r,.i k,.i e] s->(br (decide (e<k)) (fP h j e 14 λI=>ai I 14 λJ=>mk cK λy=>aH 14 (ad y 0) J (ai (ad y 0) 14 λM=>oa (some d) M (x0 ((ct x H [.string g,.p (some d),.l h j r,.i k,.i (adU.wrap (e+1))] [.string g,.p (some d),.l h j r,.i k,.i e] s))))) (iu b (xL λO z P=>(lp [.string g,.p (some d),.l O z P,.i (z:Int),.i 0] λA Q=>∀t a m n u o f v,A [.string t,.p (some a),.l m n u,.i o,.i f] v->(br (decide (f<o)) (fP m n f 33 λR=>ai R 33 λS=>mk bg λq=>aH 33 (ad q 0) S (ai (ad q 0) 16 λT=>mO (some a) T (x0 (ai (ad q 16) 16 λV=>mO (some a) V (x0 (lI (ad q 32) λW=>aC (some a) 1 W (x0 ((ct A Q [.string t,.p (some a),.l m n u,.i o,.i (adU.wrap (f+1))] [.string t,.p (some a),.l m n u,.i o,.i f] v))))))))) (bW (some a) (xS λX=>K (.string X)))) v)))) s)))))))))))))))))
def cD.j1(K:VK)(a:OA)(b:Int):WK:=br (b !=0) (nn a λc=>st (c.add 9) (.bool true) (K (.i b))) (nn a λd=>lI (d.add 8) λe=>nn a λf=>st (f.add 8) (.i (adU.wrap (e+1))) (nn a λg=>lP (g.add 7) λh=>fO h (x0 (K (.i 0)))))
def cD(a:OA)(K:VK):WK:=br (a.isNone) (K (.i 2)) (nn a λl=>lT (l.add 9) λm=>br m (K (.i 9)) (nn a λn=>lP (n.add 6) λo=>pn o (xS λb=>nn a λq=>ai (q.add 1) 5 λr=>mo r (b.size:Int) (xB λs=>br (!s) (K (.i 3)) (nn a λt=>lP t λu=>kz u (xI .i64 λc=>tick (nn a λv=>ai (v.add 1) 5 λw=>nn a λx=>lP x λy=>nn a λf=>lI (f.add 8) λg=>mQ w y (adU.wrap (g+1)) (adU.wrap (c+1)) b (xI .i64 λh=>kp (f.add 8) [.i g] (br (h==0) (tick (nn a λj=>lP j λk=>nn a λd=>lI (d.add 8) λe=>nn a λz=>lP (z.add 7) λA=>gr A (xI .i64 λB=>kp (d.add 8) [.i e] (kp j [.p k] (a8 (1=1/\(1=1/\(1=1/\(1=1/\True)))) (qe k (adU.wrap ((adU.wrap (c+1))+1)) [.i (adU.wrap (e+1)),.i (adU.wrap (c+1)),.i (b.size:Int),.i B] (xI .i64 λC=>kp (d.add 8) [.i e] (cD.j1 K a C)))))))) (cD.j1 K a h))))))))))
def fH.j1(K:VK)(a:OA)(e:BA):WK:=tick (nn a λc=>lP (c.add 7) λd=>nn a λf=>lP f λg=>kz g (xI .i64 λh=>kp (c.add 7) [.p d] (aV d (adU.wrap (h+1)) e (xI .i64 λb=>nn a λj=>lT (j.add 9) λk=>br k (nn a λl=>st (l.add 9) (.bool true) (K (.i b))) (nn a λm=>st (m.add 9) (.bool (b==8)) (K (.i b)))))))
def fH(a:OA)(b:BA)(K:VK):WK:=nn a λd=>lP (d.add 7) λe=>fN e (b.size:Int) (xB λf=>br (!f) (cD a (xI .i64 λc=>br (c !=0) (K (.i c)) (fH.j1 K a b))) (fH.j1 K a b))
def jC(a:OA)(K:VK):WK:=br (a.isNone) (K (.i 0)) (nn a λb=>lP (b.add 7) λc=>gr c (xI .i64 λd=>K (.i d)))
def jL(a:OA)(K:VK):WK:=br (a.isNone) (K (.p none)) (nn a λb=>lP (b.add 6) λc=>pn c (xS λd=>k8 d (x2 λe f=>(xP λg=>(xI .i64 λh=>K (.p g)) f) e)))
def gM(a:OA)(K:VK):WK:=br (a.isNone) (K (.i 0)) (nn a λb=>lI (b.add 8) λc=>K (.i c))
def fM(a:OA)(K:VK):WK:=br (!(a.isNone)) (nn a λb=>lT (b.add 9) λc=>K (.bool c)) (K (.bool false))
end Go.Prog
namespace Go.Md
def aJ:Nat:=340282366920938463463374607431768211456
structure aO where
 id:Nat
 dp:Nat
 dq:Nat
 cp:Nat
 cq:Nat
 aG:Int
 code:Int
 flags:Int
 ae:Int
deriving DecidableEq
structure Move where
 id:Nat
 aD:Nat
 aq:Nat
 aA:Nat
 pending:Nat
 timeout:Int
 aG:Int
 code:Int
 flags:Int
 ae:Int
 born:Int
deriving DecidableEq
structure Kept where
 asked:Move
 move:Move
 fate:Int
deriving DecidableEq
structure ax where
 ah:List aO
 kept:List Kept
 clock:Int
 ae:Int
structure Model where
 made:List aO
 kept:List Kept
 clock:Int
 ae:Int
def has(f b:Int):Prop:=f/b%2=1
instance(f b:Int):Decidable (has f b):=by unfold has;infer_instance
def qM(a:aO):Int:=
 if a.flags<0\/7<a.flags then 3 else if a.id=0 then 4 else if a.id=aJ-1 then 5 else if has a.flags 2/\has a.flags 4 then 6
 else if a.dp≠0\/a.dq≠0\/a.cp≠0\/a.cq≠0\/a.ae≠0 then 7 else if a.aG<=0\/4294967296<=a.aG then 8 else if a.code<=0\/65536<=a.code then 9 else 0
def rD(a b:aO):Int:=if a.aG=b.aG/\a.code=b.code/\a.flags/2%4=b.flags/2%4 then 10 else 11
def gw(f:Int):Prop:=has f 4\/has f 8
instance(f:Int):Decidable (gw f):=by unfold gw;infer_instance
def fx(f:Int):Prop:= ¬(has f 2/\has f 4\/has f 2/\has f 8\/has f 4/\has f 8)/\ ¬(gw f/\16<=f)/\(f<64\/has f 2)
instance(f:Int):Decidable (fx f):=by unfold fx;infer_instance
def kF(t:Move):Int:=
 if t.flags<0\/255<t.flags then 3 else if t.id=0 then 4 else if t.id=aJ-1 then 5 else if ¬fx t.flags then 6
 else if t.ae≠0\/t.born≠0 then 7 else if t.timeout<0\/1073741824<t.timeout\/0<t.timeout/\ ¬has t.flags 2 then 17
 else if gw t.flags then
  (if t.pending=0 then 16 else if t.aG<0\/4294967296<=t.aG then 8 else if t.code<0\/65536<=t.code then 9 else 0)
 else if t.aD=0 then 12 else if t.aq=0 then 13 else if t.aD=t.aq then 14 else if t.pending≠0 then 15 else if t.aA=0/\ ¬has t.flags 16/\ ¬has t.flags 32 then 18
 else if t.aG<1\/4294967296<=t.aG then 8 else if t.code<1\/65536<=t.code then 9 else 0
def qG(t b:Move):Int:=if{t with flags:=t.flags/2}={b with flags:=b.flags/2} then 10 else 11
def S(f:Kept->Nat)(l:List Kept):Nat:=(l.map f).sum
def uz(f:Kept->Nat):S f []=0:=rfl
def od(f:Kept->Nat)(k:Kept)(l:List Kept):S f (k::l)=f k+S f l:=by simp[S]
def O'(f:Kept->Nat)(l m:List Kept):S f (l++m)=S f l+S f m:=by simp[S]
def rF(f:Kept->Nat)(l:List Kept)(k:Kept):S f (l++[k])=S f l+f k:=by simp[S]
def DU(f:Kept->Nat):∀(l:List Kept)(i:Nat)(k:Kept)(h:i<l.length),S f (l.set i k)+f l[i]=S f l+f k
 |[],i,k,h=>by simp at h
 |x::l,0,k,h=>by simp[S];omega
 |x::l,i+1,k,h=>by
  have ih:=DU f l i k (by simpa using h);simp only[afc,od,List.getElem_cons_succ];omega
def O9(f:Kept->Nat):∀(l:List Kept)(k:Kept),k∈l->f k<=S f l
 |[],k,h=>by simp at h
 |x::l,k,h=>by
  rw[od];rcases afe.1 h with h|h
  ·subst h;omega
  ·have:=O9 f l k h;omega
def wc(id:Nat)(k:Kept):Nat:=if k.fate=1/\k.move.aD=id then k.move.aA else 0
def we(id:Nat)(k:Kept):Nat:=if k.fate=1/\k.move.aq=id then k.move.aA else 0
def ik(k:Kept):Prop:= ¬has k.move.flags 2/\ ¬has k.move.flags 8
instance(k:Kept):Decidable (ik k):=by unfold ik;infer_instance
def yn(id:Nat)(k:Kept):Nat:=if ik k/\k.move.aD=id then k.move.aA else 0
def yo(id:Nat)(k:Kept):Nat:=if ik k/\k.move.aq=id then k.move.aA else 0
def gI(id:Nat)(k:Kept):Prop:=(has k.move.flags 64/\k.move.aD=id\/has k.move.flags 128/\k.move.aq=id)/\(k.fate=1\/k.fate=2)
instance(id:Nat)(k:Kept):Decidable (gI id k):=by unfold gI;infer_instance
def qy(id:Nat)(k:Kept):Nat:=if gI id k then 1 else 0
def add(a b:Nat):Nat:=if a+b<aJ then a+b else 0
def sC(a:aO)(k:Kept):aO:=
 {a with dq:=if ik k/\k.move.aD=a.id then add a.dq k.move.aA else a.dq,cq:=if ik k/\k.move.aq=a.id then add a.cq k.move.aA else a.cq,dp:=if k.fate=1/\k.move.aD=a.id then add a.dp k.move.aA else a.dp,cp:=if k.fate=1/\k.move.aq=a.id then add a.cp k.move.aA else a.cp,flags:=if gI a.id k then a.flags%8+8 else a.flags}
def full(l:List Kept)(a:aO):aO:=
 {a with dp:=a.dp+S (wc a.id) l,dq:=a.dq+S (yn a.id) l,cp:=a.cp+S (we a.id) l,cq:=a.cq+S (yo a.id) l,flags:=if S (qy a.id) l=0 then a.flags else a.flags%8+8}
def LJ(a:aO)(k:Kept)(h1:a.dp+wc a.id k<aJ)(h2:a.dq+yn a.id k<aJ)(h3:a.cp+we a.id k<aJ)(h4:a.cq+yo a.id k<aJ):sC a k=full [k] a:=by
 have e1:(if k.fate=1/\k.move.aD=a.id then add a.dp k.move.aA else a.dp)=a.dp+S (wc a.id) [k]:=by
  rw[od,uz];unfold wc at h1⊢;by_cases h:k.fate=1/\k.move.aD=a.id
  ·rw[if_pos h] at h1⊢;rw[if_pos h];unfold add;rw[if_pos h1];omega
  ·rw[if_neg h,if_neg h];rfl
 have e2:(if ik k/\k.move.aD=a.id then add a.dq k.move.aA else a.dq)=a.dq+S (yn a.id) [k]:=by
  rw[od,uz];unfold yn at h2⊢;by_cases h:ik k/\k.move.aD=a.id
  ·rw[if_pos h] at h2⊢;rw[if_pos h];unfold add;rw[if_pos h2];omega
  ·rw[if_neg h,if_neg h];rfl
 have e3:(if k.fate=1/\k.move.aq=a.id then add a.cp k.move.aA else a.cp)=a.cp+S (we a.id) [k]:=by
  rw[od,uz];unfold we at h3⊢;by_cases h:k.fate=1/\k.move.aq=a.id
  ·rw[if_pos h] at h3⊢;rw[if_pos h];unfold add;rw[if_pos h3];omega
  ·rw[if_neg h,if_neg h];rfl
 have e4:(if ik k/\k.move.aq=a.id then add a.cq k.move.aA else a.cq)=a.cq+S (yo a.id) [k]:=by
  rw[od,uz];unfold yo at h4⊢;by_cases h:ik k/\k.move.aq=a.id
  ·rw[if_pos h] at h4⊢;rw[if_pos h];unfold add;rw[if_pos h4];omega
  ·rw[if_neg h,if_neg h];rfl
 have e5:(if gI a.id k then a.flags%8+8 else a.flags)=if S (qy a.id) [k]=0 then a.flags else a.flags%8+8:=by
  rw[od,uz];unfold qy;by_cases h:gI a.id k
  ·rw[if_pos h,if_pos h,if_neg (by omega)]
  ·rw[if_neg h,if_neg h,if_pos (by omega)]
 unfold sC full;rw[e1,e2,e3,e4,e5]
def y9(a:aO)(l m:List Kept):full m (full l a)=full (l++m) a:=by
 unfold full;dsimp only;simp only[O',Nat.add_assoc]
 congr 1
 by_cases h1:S (qy a.id) l=0
 ·rw[if_pos h1];by_cases h2:S (qy a.id) m=0
  ·rw[if_pos h2,if_pos (by omega)]
  ·rw[if_neg h2,if_neg (by omega)]
 ·rw[if_neg h1];by_cases h2:S (qy a.id) m=0
  ·rw[if_pos h2,if_neg (by omega)]
  ·rw[if_neg h2,if_neg (by omega)];omega
def Iz(a:aO):∀(l:List Kept),a.dp+S (wc a.id) l<aJ->a.dq+S (yn a.id) l<aJ->a.cp+S (we a.id) l<aJ->a.cq+S (yo a.id) l<aJ->l.foldl sC a=full l a:=by
 intro l
 induction l generalizing a with
 |nil=>intros;unfold full;simp[uz]
 |cons k l ih=>
  intro h1 h2 h3 h4;rw[od] at h1 h2 h3 h4;rw[List.foldl_cons,LJ a k (by omega) (by omega) (by omega) (by omega)];have HC:(full [k] a).id=a.id:=rfl;have:=ih (full [k] a) (by rw[HC];show a.dp+S (wc a.id) [k]+_<_;rw[od,uz];omega) (by rw[HC];show a.dq+S (yn a.id) [k]+_<_;rw[od,uz];omega)
   (by rw[HC];show a.cp+S (we a.id) [k]+_<_;rw[od,uz];omega) (by rw[HC];show a.cq+S (yo a.id) [k]+_<_;rw[od,uz];omega)
  rw[this,y9];rfl
end Go.Md
namespace Go.Up
open Go.Sep Go.Den Go.RowKit Go.Prog Go.Md
instance{a b:Value}{n:Nat}:Wr [a,b] 0 (nm n) (nm n):=⟨rfl,ad4 _,λv h=>by simp[nm] at h;rcases h with rfl|rfl<;>rfl⟩
instance{m n:Nat}:Wr (nm m) 0 (nm n) (nm n):=⟨rfl,ad4 _,λv h=>by simp[nm] at h;rcases h with rfl|rfl<;>rfl⟩
instance{a b:Value}{k k':IntKind}{x y:Int}:Wr [a,b] 0 [.int k x,.int k' y] [.int k x,.int k' y]:=⟨rfl,ad4 _,λv h=>by simp at h;rcases h with rfl|rfl<;>rfl⟩
instance{n:Nat}{k k':IntKind}{x y:Int}:Wr (nm n) 0 [.int k x,.int k' y] [.int k x,.int k' y]:=⟨rfl,ad4 _,λv h=>by simp at h;rcases h with rfl|rfl<;>rfl⟩
section
variable {W:World} {L:LH} {K:VK} {a b n:Nat}
def qH(h:T W L (K (.bool (decide (n=0))))):T W L (eL (nm n) K):=by
 unfold eL;apply ws;intros;exact T.dp h
def TT{x y c:Int}(h1:(0<=x/\0<=y)/\0<=c/\c<=1)(h:T W L (K (.tuple ⟨[.u ((x+y+c)%18446744073709551616),.u ((x+y+c)/18446744073709551616)]⟩))):T W L (nt x y c K):=cL h1 h
def M8{x y c:Int}(h1:(0<=x/\0<=y/\y<18446744073709551616)/\0<=c/\c<=1)(h:T W L (K (.tuple ⟨[.u ((x-y-c)%18446744073709551616),.u (if x<y+c then 1 else 0)]⟩))):T W L (nr x y c K):=cL h1 h
def Mh(h:T W L (K (.i (if a=b then 0 else if a<b then-1 else 1)))):T W L (pP (nm a) (nm b) K):=by
 unfold pP
 repeat' first|apply ws;intros|apply wb|with_reducible refine bw (λh1=>?_) (λh1=>?_)|fail
 all_goals (refine T.fin (T.dp h) ?_;simp only[decide_eq_true_eq,decide_eq_false_iff_not,beq_iff_eq,beq_eq_false_iff_ne,ne_eq] at *;congr 1;split<;>(try split)<;>omega)
def yA(h:T W L (K (.bool (decide (a<b))))):T W L (ny (nm a) (nm b) K):=by
 unfold ny
 repeat' first|apply ws;intros|apply wb|with_reducible refine Mh ?_|fail
 refine T.fin (T.dp h) ?_
 congr 1
 simp only[decide_eq_decide];split<;>(try split)<;>omega
def Tp(h:T W L (K (.agg ⟨nm (min a b)⟩))):T W L (tK (nm a) (nm b) K):=by
 unfold tK
 repeat' first|apply ws;intros|apply wb|with_reducible first|refine yA ?_|refine bw (λh1=>?_) (λh1=>?_)|fail
 all_goals (refine T.fin (T.dp h) ?_;simp only[decide_eq_true_eq,decide_eq_false_iff_not] at h1;congr 3;omega)
def NJ{x y:Int}(n:Nat)(h1:x=((n/18446744073709551616:Nat):Int))(h2:y=((n%18446744073709551616:Nat):Int)):[Value.int .u64 x,Value.int .u64 y]=nm n:=by rw[h1,h2];rfl
abbrev yu(a b:Nat):Value:=.tuple ⟨[.agg ⟨nm (if a+b<aJ then a+b else 0)⟩,.bool (decide (a+b<aJ))]⟩
abbrev WZ(a b:Nat):Value:=.tuple ⟨[.agg ⟨nm (if a<b then 0 else a-b)⟩,.bool (decide (b<=a))]⟩
def zo(ha:a<aJ)(hb:b<aJ)(h:T W L (K (yu a b))):T W L (ml (nm a) (nm b) K):=by
 unfold aJ at ha hb;unfold ml
 repeat' first|apply ws;intros|apply wb|with_reducible first|refine TT (by omega) ?_|refine bw (λh1=>?_) (λh1=>?_)|fail
 all_goals
  refine T.fin (T.dp h) ?_;simp only[bne_iff_ne,ne_eq,bne_eq_false_iff_eq] at h1;unfold yu aJ
 ·rw[if_neg (by omega),decide_eq_false (by omega)];rfl
 ·rw[if_pos (by omega),decide_eq_true (by omega),NJ (a+b) (by omega) (by omega)]
def O5(ha:a<aJ)(hb:b<aJ)(h:T W L (K (WZ a b))):T W L (mj (nm a) (nm b) K):=by
 unfold aJ at ha hb;unfold mj
 repeat' first|apply ws;intros|apply wb|with_reducible first|refine yA ?_|refine M8 (by omega) ?_|refine M8 (by split<;>omega) ?_|refine bw (λh1=>?_) (λh1=>?_)|fail
 all_goals
  refine T.fin (T.dp h) ?_;simp only[decide_eq_true_eq,decide_eq_false_iff_not] at h1;unfold WZ
 ·rw[if_pos h1,decide_eq_false (by omega)];rfl
 ·rw[if_neg h1,decide_eq_true (by omega),NJ (a-b) (by split<;>omega) (by omega)]
end
end Go.Up
namespace Go.Sep
open Go.Den Go.RowKit Go.Prog Go.bA
def Nz{s:BA}(h:s.size<=128):(aw.pad s).size=128:=by
 unfold aw.pad;rw[ByteArray.size_append,qm];omega
def Ud(n:Int):(aw.new n).Ok:=by
 have hn:0<=min2 (max2 n 0) 4096/\min2 (max2 n 0) 4096<=4096:=by unfold min2 max2;split<;>split<;>omega
 refine⟨λs hs=>?_,λp hp=>?_,?_,?_⟩
 ·simp only[aw.new,List.mem_replicate] at hs;rw[hs.2];exact qm 128
 ·simp[aw.new] at hp
 ·simp only[aw.new,ae4];omega
 ·simp[aw.new]
def kE(D:aw)(mask torn cut:Int):D.db mask torn cut=⟨crashed mask torn (min2 (max2 cut 0) 128) D.safe D.later D.later.length,[],D.ops,0⟩:=by
 unfold aw.db;have:=ta mask torn (min2 (max2 cut 0) 128) D.later D.safe D.later.length 0 (by omega);simp only[ae5,crashed] at this;rw[this]
def oz(D:aw)(i:Int)(s:BA):(D.write i s).1.safe=D.safe/\(D.write i s).1.later.length<=D.later.length+1:=by
 unfold aw.write;split
 ·exact⟨rfl,by simp⟩
 ·split
  ·exact⟨rfl,by simp[aw.tick]⟩
  ·exact⟨rfl,by simp⟩
def Fk{D:aw}(h:D.Ok)(i:Int)(s:BA)(hl:D.later.length+1<1099511627776):(D.write i s).1.Ok:=by
 have h2:=oz D i s;refine⟨by rw[h2.1];exact h.safe,?_,by rw[h2.1];exact h.lu,by omega⟩;rw[h2.1];unfold aw.write;split
 ·exact h.later
 ·rename_i hg;split
  ·exact h.later
  ·intro p hp;simp only[aeB,List.mem_singleton] at hp;rcases hp with hp|hp
   ·exact h.later p hp
   ·subst hp;have HE:D.is i:=by
     by_cases hh:D.is i
     ·exact hh
     ·exact absurd (.inl hh) hg
    have Mt: ¬128<s.size:=λhh=>hg (.inr hh);exact⟨Nz (by omega),HE.1,HE.2⟩
def G1{mask torn c:Int}(hc:0<=c/\c<=128){safe:List BA}{k:Nat}{p:Int×BA}(hs:∀s∈safe,s.size=128)(hp:p.2.size=128/\0<=p.1/\p.1<safe.length):
 ∀s∈aw.jW mask torn c safe k p,s.size=128:=by
 intro s hm;have wZ:p.1.toNat<safe.length:=by omega
 unfold aw.jW at hm;split at hm
 ·rcases aeC hm with hm|hm
  ·exact hs s hm
  ·rw[hm];have:=hs _ (aej wZ);rw[aeM,adX wZ,aew,ByteArray.size_append,ph,ph,this,hp.1];omega
 ·split at hm
  ·rcases aeC hm with hm|hm
   ·exact hs s hm
   ·rw[hm];exact hp.1
  ·exact hs s hm
def uu{mask torn c:Int}(hc:0<=c/\c<=128){safe:List BA}{later:List (Int×BA)}(hs:∀s∈safe,s.size=128)(hp:∀p∈later,p.2.size=128/\0<=p.1/\p.1<safe.length):
 ∀j,∀s∈crashed mask torn c safe later j,s.size=128
 |0=>hs
 |j+1=>by
  simp only[crashed];cases hl:later[j]? with
  |none=>exact uu hc hs hp j
  |some p=>
   refine G1 hc (uu hc hs hp j) ?_;rw[fG];exact hp p (aep hl)
def OB(cut:Int):0<=min2 (max2 cut 0) 128/\min2 (max2 cut 0) 128<=128:=by unfold min2 max2;split<;>split<;>omega
def xo{D:aw}(h:D.Ok)(mask torn cut:Int):(D.db mask torn cut).Ok:=by
 rw[kE];refine⟨uu (OB cut) h.safe h.later _,λp hp=>by simp at hp,by simp only[fG];exact h.lu,by simp⟩
def Cy{later:List (Int×BA)}:∀{safe:List BA},(∀s∈safe,s.size=128)->(∀p∈later,p.2.size=128)->∀s∈later.foldl aw.put safe,s.size=128:=by
 induction later with
 |nil=>exact λhs _=>hs
 |cons p l ih=>
  intro safe hs hp;rw[List.foldl_cons];refine ih (λs hm=>?_) (λq hq=>hp q (ae1 _ hq));rcases aeC hm with hm|hm
  ·exact hs s hm
  ·rw[hm];exact hp p (List.mem_cons_self)
def D5{D:aw}(h:D.Ok):D.sync.1.Ok:=by
 unfold aw.sync;split
 ·exact⟨h.safe,h.later,h.lu,h.less⟩
 ·refine⟨Cy h.safe λp hp=>(h.later p hp).1,λp hp=>by simp at hp,?_,by simp⟩;show(D.later.foldl aw.put D.safe).length<=4096;rw[kD];exact h.lu
def uI{D:aw}(h:D.later=[]){i:Nat}(hi:i<D.safe.length):D.read (i:Int)=(D.safe[i],0):=by
 unfold aw.read;rw[if_pos ⟨by omega,by omega⟩];simp[aw.now,aw.last,h,hi]
section
variable {W w:World} {L:LH}
end
end Go.Sep
namespace Go.Sep
open Go.Den Go.RowKit Go.ChangeShapes Go.WideShapes
inductive CK where
 |i(k:IntKind)
 |b
 |s
deriving DecidableEq
def CK.is:CK->Value->Prop
 | .i k,v=>∃n,v=.int k n/\(Lit.int k n).wf=true
 | .b,v=>∃x,v=.bool x
 | .s,v=>∃x,v=.string x/\x.size<=reachBytes
def Typed(ks:List CK)(cs:LV)(o:Nat):Prop:=∀j k,ks[j]?=some k->∃v,cs[o+j]?=some v/\k.is v
def oM(P:Program)(f:TypeId->Option (List CK)):Nat->List Field->Option (List CK)
 |_,[]=>some []
 |o,fd::r=>match f fd.type with
  |some a=>if fd.offset=o/\P.cellsOf fd.type=a.length then(oM P f (o+a.length) r).map (a++·) else none
  |none=>none
def flat(P:Program):Nat->TypeId->Option (List CK)
 |0,_=>none
 |n+1,t=>match P.underlying t with
  |some (.int k)=>some [.i k]
  |some .bool=>some [.b]
  |some .string=>some [.s]
  |some (.struct fs)=>oM P (flat P n) 0 fs.toList
  |_=>none
section
variable {H:Type} {enc:TypeId×Value->H} {P:Program} {w:World} {base:Nat} {spare:Nat->Bool} {held:Bool}
def xj{f:TypeId->Option (List CK)}{m:Nat}{cs:LV}
 (hf:∀t ks cs x,f t=some ks->DataW.trod enc P w base spare held m t cs=some x->(∀n∈x.1.weights P t,n<=reachBytes)->Typed ks cs 0):
 ∀(fs:List Field)(o:Nat)(ks:List CK)(xs:List (DataW H×List MemPlace)),oM P f o fs=some ks->
  (∀(i:Nat)(fd:Field),fs[i]?=some fd->DataW.trod enc P w base spare held m fd.type ((cs.drop fd.offset).take (P.cellsOf fd.type))=xs[i]?)->xs.length=fs.length->
  (∀n∈DataW.weightsEach P (fs.map (·.type)) (xs.map (·.1)),n<=reachBytes)->Typed ks cs o
 |[],o,ks,xs,h,_,_,_=>by
  simp only[oM,aeh.injEq] at h;subst h;intro j k hj;simp at hj
 |fd::r,o,ks,[],h,hx,hl,hw=>by simp at hl
 |fd::r,o,ks,x::xs,h,hx,hl,hw=>by
  simp only[oM] at h;cases ha:f fd.type with
  |none=>simp[ha] at h
  |some a=>
   simp only[ha] at h;split at h
   ·rename_i hc;cases hb:oM P f (o+a.length) r with
    |none=>simp[hb] at h
    |some b=>
     simp only[hb,aeK,aeh.injEq] at h;subst h;simp only[aez,DataW.weightsEach,aeB] at hw;have h1:=hf fd.type a _ x ha (by have:=hx 0 fd rfl;simpa using this) (λn hn=>hw n (.inl hn));have h2:=xj hf r (o+a.length) b xs hb (λi g hg=>by have:=hx (i+1) g (by simpa using hg);simpa using this) (by simpa using hl) (λn hn=>hw n (.inr hn));intro j k hj;by_cases UN:j<a.length
     ·rw[ael UN] at hj;obtain⟨v,hv,hk⟩:=h1 j k hj;refine⟨v,?_,hk⟩;rw[hc.1,hc.2,ad1,List.getElem?_take_of_lt UN,afd] at hv;exact hv
     ·rw[aey (by omega)] at hj;obtain⟨v,hv,hk⟩:=h2 (j-a.length) k hj;refine⟨v,?_,hk⟩;rw[show o+j=o+a.length+(j-a.length) from by omega];exact hv
   ·cases h
def Bz:∀(f:Nat)(m:Nat)(t:TypeId)(ks:List CK)(cs:LV)(x:DataW H×List MemPlace),flat P f t=some ks->DataW.trod enc P w base spare held m t cs=some x->
 (∀n∈x.1.weights P t,n<=reachBytes)->Typed ks cs 0
 |0,_,_,_,_,_,h,_,_=>by simp[flat] at h
 |f+1,m,t,ks,cs,x,h,hx,hw=>by
  unfold flat at h;split at h
  ·rename_i k ht;cases h
   obtain⟨n,rfl,rfl,hwf⟩:=DataW.trod_int ht hx;intro j k' hj;cases j with
   |zero=>simp at hj;subst hj;exact⟨_,rfl,n,rfl,hwf⟩
   |succ j=>simp at hj
  ·rename_i ht;cases h
   obtain⟨n,rfl,rfl⟩:=DataW.trod_bool ht hx;intro j k' hj;cases j with
   |zero=>simp at hj;subst hj;exact⟨_,rfl,n,rfl⟩
   |succ j=>simp at hj
  ·rename_i ht;cases h
   obtain⟨n,rfl,rfl,_⟩:=DataW.trod_string ht hx;intro j k' hj;cases j with
   |zero=>simp at hj;subst hj;exact⟨_,rfl,n,rfl,by have:=hw n.data.toList.length (by simp[DataW.weights]);simpa using this⟩
   |succ j=>simp at hj
  ·rename_i fs ht;obtain⟨xs,n,rfl,rfl,hl,hlen,hf⟩:=DataW.trod_struct ht hx;refine xj (m:=n) (λt ks cs x h1 h2 h3=>Bz f n t ks cs x h1 h2 h3) fs.toList 0 ks xs h (λi fd hi=>hf i fd (by simpa using hi)) (by simpa using hlen) (λn hn=>hw n ?_);simp only[DataW.weights,ht];exact hn
  ·cases h
def Pp(ks:List CK)(n:Nat)(xs:LV):Prop:=∀i,i<n->Typed ks xs (i* ks.length)
def tL{e:TypeId}:∀{ds:List (DataW H)} {d:DataW H},d∈ds->∀n∈d.weights P e,n∈DataW.weightsAll P e ds
 |[],d,h,_,_=>by simp at h
 |d0::ds,d,h,n,hn=>by
  simp only[DataW.weightsAll,aeB];rcases afe.1 h with h|h
  ·subst h;exact .inl hn
  ·exact .inr (tL h n hn)
def IE{α:Type}{ks:List CK}{n:Nat}{xs:LV}(f:α->LV)(q:α->Prop)(hf:∀a,(f a).length=ks.length)
 (dec:∀o,Typed ks xs o->∃a,q a/\∀j,j<ks.length->xs[o+j]?=(f a)[j]?)(he:Pp ks n xs)(hl:xs.length=n* ks.length):∃l:List α,l.length=n/\xs=l.flatMap f/\∀a∈l,q a:=by
 have key:∀m,m<=n->∃l:List α,l.length=m/\xs.take (m* ks.length)=l.flatMap f/\∀a∈l,q a:=by
  intro m
  induction m with
  |zero=>exact λ_=>⟨[],rfl,by simp,by simp⟩
  |succ m ih=>
   intro hm;obtain⟨l,h1,h2,h3⟩:=ih (by omega);obtain⟨a,ha,hc⟩:=dec _ (he m (by omega));refine⟨l++[a],by simp[h1],?_,λb hb=>?_⟩
   ·rw[aeV,<-h2,afl,Nat.one_mul,List.take_add]
    congr 1
    simp only[aeN,List.flatMap_nil,aei];apply afg;intro j;by_cases hj:j<ks.length
    ·rw[List.getElem?_take_of_lt hj,afd];exact hc j hj
    ·have h5:ks.length<=j:=by omega
     rw[aeZ (by simp;omega),aeZ (by rw[hf];exact h5)]
   ·rcases aeB.1 hb with hb|hb
    ·exact h3 b hb
    ·simp at hb;subst hb;exact ha
 obtain⟨l,h1,h2,h3⟩:=key n (ad4 n);rw[aef (by omega)] at h2;exact⟨l,h1,h2,h3⟩
def Below.trodAll(hl:laidOutB P=true){W W':World}(hb:Below W.heap.size W W'):
 ∀{ts:List TypeId} {vs:LV} {ds:List (DataW H)} {ps:List MemPlace},ts.all (λt=>P.readableRec t&&decide (t<P.types.size))=true->
 DataW.TrodAll enc P W 0 (λ_=>true) true ts vs ds ps->DataW.TrodAll enc P W' 0 (λb=>decide (b<W.heap.size)) true ts vs ds ps
 |[],vs,ds,ps,_,h=>by
  cases vs<;>cases ds<;>simp[DataW.TrodAll] at h⊢
  exact h
 |t::ts,vs,ds,ps,hr,h=>by
  simp only[List.all_cons,aeR,decide_eq_true_eq] at hr;have aZ:=DataW.TrodAll.lt h;obtain⟨v,B7,d,ds',p,q,rfl,rfl,rfl,h1,h2⟩:=trodAll_cons h;exact⟨p,q,Go.RowKit.Below.trod hl hr.1.1 hr.1.2 h1 hb (λx hx=>aZ x (by simp[hx])),Below.trodAll hl hb hr.2 h2,rfl⟩
end
end Go.Sep
namespace Go.Sep
open Go.Den Go.RowKit Go.Prog Go.bA
def eS{z ys:LV}(h:ys.length=z.length):over z 0 ys=ys:=by
 unfold over;rw[afm,aeA,ad1,aeF (by omega),aei]
section
variable {W w:World} {L:LH} {b:OA} {n e:Nat} {xs:LV}
end
section
variable {W w:World} {L:LH}
end
namespace Dk
variable {D:Go.bA.aw}
open Go.bA.aw (last put pad)
def Ol(h:D.arm=0):D.qY=false:=by simp[Go.bA.aw.qY,h]
def Sr(h:D.arm=0):D.tick.arm=0:=by simp[Go.bA.aw.tick,h]
def DW(h:D.arm=0)(i:Int)(s:BA):D.write i s=if ¬D.is i\/128<s.size then(D,1) else({Go.bA.aw.tick D with later:=D.later++[(i,pad s)]},0):=by
 unfold Go.bA.aw.write;rw[Ol h];rfl
def Ap(h:D.arm=0)(i:Int)(s:BA):(D.write i s).1.arm=0:=by
 rw[DW h];split
 ·exact h
 ·exact Sr h
def Jj(h:D.arm=0):D.sync=({D.tick with safe:=D.later.foldl put D.safe,later:=[]},0):=by
 unfold Go.bA.aw.sync;rw[Ol h];rfl
def po(l:List (Int×BA))(p:Int×BA)(i:Int):last (l++[p]) i=if p.1=i then some p.2 else last l i:=by
 unfold last;rw[List.reverse_append];simp only[afs,List.reverse_nil,aeA,List.singleton_append,List.find?_cons];by_cases h:p.1=i
 ·simp[h]
 ·have:(p.1==i)=false:=by simp[h]
  rw[this,if_neg h]
def Bb(h:D.arm=0)(n i:Int)(s:BA):(D.write n s).1.now i=if(D.is n/\s.size<=128)/\n=i then pad s else D.now i:=by
 rw[DW h];by_cases hw: ¬D.is n\/128<s.size
 ·rw[if_pos hw,if_neg];rintro⟨⟨h1,h2⟩,_⟩;rcases hw with hw|hw
  ·exact hw h1
  ·omega
 ·rw[if_neg hw];have h1:D.is n:=by
   by_cases hh:D.is n
   ·exact hh
   ·exact absurd (.inl hh) hw
  have h2:s.size<=128:=by
   by_cases hh:s.size<=128
   ·exact hh
   ·exact absurd (.inr (by omega)) hw
  simp only[Go.bA.aw.now,Go.bA.aw.tick,po];by_cases ZY:n=i
  ·rw[if_pos ZY,if_pos ⟨⟨h1,h2⟩,ZY⟩];rfl
  ·rw[if_neg ZY,if_neg (λhh=>ZY hh.2)]
def uP(l:List (Int×BA))(p:Int×BA)(i:Int):last (p::l) i=(last l i).or (if p.1=i then some p.2 else none):=by
 unfold last;rw[afs,List.find?_append];by_cases h:p.1=i
 ·cases List.find? (λp=>p.1==i) l.reverse<;>simp[h]
 ·have:(p.1==i)=false:=by simp[h]
  cases List.find? (λp=>p.1==i) l.reverse<;>simp[h,this]
def vg{i:Int}(hi:0<=i):∀(l:List (Int×BA))(safe:List BA),i<safe.length->(∀p∈l,0<=p.1)->(l.foldl put safe).getD i.toNat .empty=(last l i).getD (safe.getD i.toNat .empty):=by
 intro l
 induction l with
 |nil=>intro safe _ _;rfl
 |cons p l ih=>
  intro safe hs hp;rw[List.foldl_cons,uP,ih _ (by simp[put];exact hs) (λq hq=>hp q (ae1 _ hq))];have hp0:=hp p (by simp);have hlen:i.toNat<safe.length:=by omega
  have e:(put safe p).getD i.toNat .empty=if p.1=i then p.2 else safe.getD i.toNat .empty:=by
   unfold put;by_cases Hx:p.1=i
   ·rw[if_pos Hx,Hx,aeM,List.getElem?_set_self hlen];rfl
   ·rw[if_neg Hx,aeM,List.getElem?_set_ne (by omega),<-aeM]
  rw[e];cases last l i with
  |some x=>rfl
  |none=>by_cases Hx:p.1=i<;>simp[Hx]
def K7(h:D.arm=0)(eO:D.Ok){i:Int}(hi:D.is i):D.sync.1.now i=D.now i:=by
 rw[Jj h];have:=vg hi.1 D.later D.safe hi.2 (λp hp=>(eO.later p hp).2.1);simp only[Go.bA.aw.now,last,List.reverse_nil,List.find?_nil,Option.map_none,aeQ];exact this
def FI:D.sync.1.safe.length=D.safe.length/\D.sync.1.later.length<=D.later.length:=by
 unfold Go.bA.aw.sync;split
 ·exact⟨rfl,ad4 _⟩
 ·exact⟨kD _ _,ad6 _⟩
def Kz(h:D.arm=0):D.sync.1.arm=0:=by rw[Jj h];exact Sr h
end Dk
end Go.Sep
namespace Go.Sep
open Go.Den Go.RowKit Go.Prog Go.bA
def bs(l:List UInt8):BA:=⟨l.toArray⟩
def bI(l:List UInt8):(bs l).size=l.length:=rfl
def Kg(s:BA):bs s.data.toList=s:=rfl
def rI(x:UInt8):Value:=.int .u8 (x.toNat:Int)
def byteOf(k:IntKind)(n:Int)(i:Nat):UInt8:=UInt8.ofNat (IntKind.u8.wrap (shr k n (8* (i:Int)))).toNat
def le(k:IntKind)(w:Nat)(n:Int):List UInt8:=(aft w).map (byteOf k n)
def ay(k:IntKind)(w:Nat)(n:Int):(le k w n).length=w:=by simp[le]
def vo(n:Int):0<=IntKind.u8.wrap n/\IntKind.u8.wrap n<256:=by
 simp[IntKind.wrap,IntKind.bits,IntKind.signed];omega
def uC{n:Int}(h:0<=n/\n<256):rI (UInt8.ofNat n.toNat)=.int .u8 n:=by
 unfold rI
 congr 1
 have:n.toNat<256:=by omega
 rw[UInt8.toNat_ofNat_of_lt' (by exact this)];omega
def zi(l:List UInt8):bytesOf (l.map rI)=l:=by
 unfold bytesOf;rw[afx]
 conv=>rhs;rw[<-List.map_id l]
 refine ae6 λx _=>?_;simp[rI]
def strCells_eq(s:BA):strCells s=s.data.toList.map rI:=rfl
def buf(p:Nat)(l:List UInt8):HP:=Te λ(v:OA×Nat)=>sep (pt p [.l v.1 l.length v.2]) (own v.1 l.length v.2 1 (l.map rI))
section
variable {W w:World} {L:LH} {k p:Nat} {l:List UInt8}
def BR(h:St W w L)(hk:L[k]?=some (buf p l)):∃b c,St W w (pt p [.l b l.length c]::own b l.length c 1 (l.map rI)::L.eraseIdx k):=by
 obtain⟨⟨b,c⟩,h1⟩:=(h.focus hk).ex;exact⟨b,c,h1.split⟩
def qg{b:OA}{c n:Nat}{A:HP}(hk:L[k]?=some A)(hn:n=l.length)(h:St W w (pt p [.l b n c]::own b n c 1 (l.map rI)::L.eraseIdx k)):St W w (L.set k (buf p l)):=by
 subst hn;refine St.nJ (A:=A) ?_ hk;exact St.nV (b,c) (St.join h)
def RU{b:OA}{n c:Nat}{K:BA->WK}(h:St W w L)(hk:L[k]?=some (own b n c 1 (l.map rI)))(hK:K (bs l) w):RV b n K w:=by
 have hl:=(h.lQ hk).1;rw[aen,afn] at hl;have vK:=Kr h hk;refine⟨λhb=>?_,λa ha=>⟨l.map rI,by rw[aen];exact hl,vK.1.2 a ha,λv hv=>?_,?_⟩⟩
 ·have:n=0:=vK.2 hb;have Mr:l=[]:=List.length_eq_zero_iff.1 (by omega);subst Mr;exact hK
 ·obtain⟨x,_,rfl⟩:=aeI.1 hv;exact⟨_,rfl⟩
 ·rw[zi];exact hK
def OS{r n:Nat}{K:BA->WK}(h:St W w L)(hk:L[k]?=some (pt r (l.map rI)))(hn:n=l.length)(hK:K (bs l) w):RV (some ⟨r,0,none⟩) n K w:=by
 refine⟨λhb=>(by cases hb),λa ha=>⟨l.map rI,by rw[aen,hn],?_,λv hv=>?_,?_⟩⟩
 ·cases ha
  exact so h hk λj v hj=>by rw[ad1];exact hj
 ·obtain⟨x,_,rfl⟩:=aeI.1 hv;exact⟨_,rfl⟩
 ·rw[zi];exact hK
def gA{m n:Int}{K:VK}(h:St W w L)(hk:L[k]?=some (buf p l))(hl:l.length<1099511627776)
 (hK:∀w',St W w' (L.set k (buf p (l++le .i64 (min2 (max2 m 1) 8).toNat n)))->K (.tuple ⟨[]⟩) w'):aC (some ⟨p,0,none⟩) m n K w:=by
 have hm:1<=min2 (max2 m 1) 8/\min2 (max2 m 1) 8<=8:=by unfold min2 max2;split<;>split<;>omega
 unfold aC;generalize min2 (max2 m 1) 8=q at *;obtain⟨b,c,hs⟩:=BR h hk;refine⟨λus w'=>∃(j:Nat)(b:OA)(c:Nat),us=[.i q,.i j]/\(j:Int)<=q/\St W w' (pt p [.l b (l++le .i64 j n).length c]::own b (l++le .i64 j n).length c 1 ((l++le .i64 j n).map rI)::L.eraseIdx k),
  λus _=>match us with|[_,.int _ j]=>(q-j).toNat|_=>0,⟨0,b,c,rfl,by omega,?_⟩,?_⟩
 ·have e:l++le .i64 0 n=l:=by simp[le]
  rw[e];exact hs
 rintro n3 n4 w2 ⟨j,b,c,he,hj,hs⟩;cases he
 refine dc (λh0=>?_) (λh0=>?_)
 ·refine iP hs λw hs=>?_;simp only[nz,adV,adW];refine bn (k:=0) hs rfl rfl ?_;simp only[nz,adV,adW];have e8:adU.wrap (8* (j:Int))=8* (j:Int):=ar (by omega);rw[e8];refine⟨by omega,?_⟩;have hb8:Value.int .u8 (IntKind.u8.wrap (shr .i64 n (8* (j:Int))))=rI (byteOf .i64 n j):=by
   unfold byteOf;rw[uC (vo _)]
  rw[hb8];refine fE hs λr w hs=>?_;refine gB (k:=1) hs rfl rfl ?_;have hlen:(l++le .i64 j n).length=l.length+j:=by rw[ad0,ay]
  refine qj (k:=2) (ys:=[rI (byteOf .i64 n j)]) hs rfl (B0 (k':=0) hs rfl rfl λj v hj=>by rw[ad1];exact hj) (by simp) rfl (by omega) (by omega) (by simp[Value.oneCell',rI]) λb' c' w hs=>?_;simp only[nz,adV,adW] at hs⊢;refine kP (k:=1) hs rfl (ad3 rfl) rfl λw hs=>?_;simp only[nz,adV,adW] at hs;have e5:=mh j;rw[e5];refine⟨⟨j+1,b',c',rfl,by omega,?_⟩,by omega⟩;have e6:l++le .i64 (j+1) n=(l++le .i64 j n)++[byteOf .i64 n j]:=by
   unfold le;rw[List.range_succ,aeu,ad5];rfl
  rw[e6,ad0,aeu];exact hs.drop
 ·have EC:(j:Int)=q:=by omega
  refine hK _ ?_;have:q.toNat=j:=by omega
  rw[this];exact qg hk rfl hs
def na{s:BA}{K:VK}(h:St W w L)(hk:L[k]?=some (buf p l))(hl:l.length+s.size<1099511627776)
 (hK:∀w',St W w' (L.set k (buf p (l++s.data.toList)))->K (.tuple ⟨[]⟩) w'):iz (some ⟨p,0,none⟩) s K w:=by
 unfold iz;obtain⟨b,c,hs⟩:=BR h hk;simp only[nz,adV,adW];refine bn (k:=0) hs rfl rfl ?_;simp only[nz,adV,adW];refine BW (k:=1) hs rfl (by omega) λb' c' w hs=>?_;simp only[nz,adV,adW] at hs⊢;refine kP (k:=0) hs rfl (ad3 rfl) rfl λw hs=>?_;simp only[nz,adV,adW] at hs;refine hK w (qg (b:=b') (c:=c') (n:=l.length+s.size) hk (by rw[ad0];rfl) ?_);rw[aeu,<-strCells_eq];exact hs
def jn{K:VK}(h:St W w L)(hk:L[k]?=some (buf p l))(hK:K (.string (bs l)) w):bW (some ⟨p,0,none⟩) K w:=by
 unfold bW;obtain⟨b,c,hs⟩:=BR h hk;simp only[nz,adV,adW];refine bn (k:=0) hs rfl rfl ?_;simp only[nz,adV,adW];exact RU (k:=1) hs rfl hK
def OE(n:Int):Nat->Int
 |0=>n
 |j+1=>bC .u32 .xor (shr .u32 (OE n j) 1) (bC .u32 .and 2197175160 (IntKind.u32.wrap (0-(bC .u32 .and (OE n j) 1))))
def RE(n:Int)(c:UInt8):Int:=OE (bC .u32 .xor n (IntKind.u32.wrap (c.toNat:Int))) 8
def OD(n:Int)(l:List UInt8):Int:=l.foldl RE n
def pg(n:Int)(l:List UInt8):Int:=bC .u32 .xor 4294967295 (OD (bC .u32 .xor 4294967295 n) l)
def Xq(w w':World):Prop:=w'=w
def Hl{n:Int}{s:BA}{K:VK}(hs:s.size<1099511627776)(hK:K (.int .u32 (pg n s.data.toList)) w):qC n s K w:=by
 unfold qC;refine⟨λus w'=>∃j:Nat,us=[.int .u32 0,.int .u32 (OD (bC .u32 .xor 4294967295 n) (s.data.toList.take j)),.i s.size,.i j]/\j<=s.size/\Xq w w',
  λus _=>match us with|[_,_,_,.int _ j]=>s.size-j.toNat|_=>0,⟨0,rfl,ad6 _,rfl⟩,?_⟩
 rintro n2 n3 n4 n5 w2 ⟨j,he,hj,hw⟩;obtain rfl:w2=w:=hw;cases he
 have hlen:s.data.toList.length=s.size:=rfl;generalize hb:decide ((j:Int)<(s.size:Int))=b;cases b
 ·have gF:=of_decide_eq_false hb;rw[cf];have:j=s.size:=by omega
  subst this;rw[aef (by omega)];exact hK
 ·have aZ:=of_decide_eq_true hb;rw[gW];have N5:j<s.data.toList.length:=by omega
  refine⟨s.data.toList[j],⟨by omega,by simp[N5]⟩,?_⟩;generalize hc:s.data.toList[j]=c;generalize hx:OD (bC .u32 .xor 4294967295 n) (s.data.toList.take j)=x;refine⟨λus w'=>∃i:Nat,us=[.int .u32 0,.int .u32 (OE (bC .u32 .xor x (IntKind.u32.wrap (c.toNat:Int))) i),.i j,.i s.size,.i j,.bool true,.i j,.int .u32 x,.string s,.i j,.int .u8 (c.toNat:Int),.int .u32 (IntKind.u32.wrap (c.toNat:Int)),.int .u32 (bC .u32 .xor x (IntKind.u32.wrap (c.toNat:Int))),.i i]/\i<=8/\Xq w2 w',
   λus _=>match us with|[_,_,_,_,_,_,_,_,_,_,_,_,_,.int _ i]=>8-i.toNat|_=>0,⟨0,rfl,ad6 _,rfl⟩,?_⟩
  rintro n6 n7 n8 n9 n10 b1 Wh SH s2 Mk Wg Wf uM n17 w4 ⟨i,he,hi,hw⟩;obtain rfl:w4=w2:=hw;cases he
  generalize ui:decide ((i:Int)<8)=b2;cases b2
  ·have gF:=of_decide_eq_false ui;rw[cf];have hi8:i=8:=by omega
   subst hi8;have e5:=mh j;rw[e5];refine⟨⟨j+1,?_,by omega,rfl⟩,by dsimp only;omega⟩;have e6:OD (bC .u32 .xor 4294967295 n) (s.data.toList.take (j+1))=OE (bC .u32 .xor x (IntKind.u32.wrap (c.toNat:Int))) 8:=by
    rw[aeS N5];unfold OD at hx⊢;rw[List.foldl_append,hx,hc];rfl
   rw[e6]
  ·have rW:=of_decide_eq_true ui;rw[gW];refine⟨by decide,?_⟩;have e5:=mh i;rw[e5];exact⟨⟨i+1,rfl,by omega,rfl⟩,by dsimp only;omega⟩
def ry(n:Int):List UInt8:=le .u32 4 n
def uw{n:Int}{K:VK}(h:St W w L)(hn:0<=n/\n<4294967296)(hK:∀w',St W w' L->K (.string (bs (ry n))) w'):nZ n K w:=by
 unfold nZ;refine⟨by decide,by decide,by decide,⟨rfl,rfl,rfl,rfl,trivial⟩,fE h λr w hs=>?_⟩;have e0:Value.int .u8 (IntKind.u8.wrap n)=rI (byteOf .u32 n 0):=by
  unfold byteOf;rw[uC (vo _)];have:shr .u32 n (8* ((0:Nat):Int))=n:=by simp[shr]
  rw[this]
 have e:∀i:Nat,Value.int .u8 (IntKind.u8.wrap (shr .u32 n (8* (i:Int))))=rI (byteOf .u32 n i):=λi=>by
  unfold byteOf;rw[uC (vo _)]
 have e1:=e 1;have e2:=e 2;have e3:=e 3;have y4:[Value.int .u8 (IntKind.u8.wrap n),.int .u8 (IntKind.u8.wrap (shr .u32 n 8)),.int .u8 (IntKind.u8.wrap (shr .u32 n 16)),.int .u8 (IntKind.u8.wrap (shr .u32 n 24))]=(ry n).map rI:=by
  rw[e0,show(8:Int)=8* ((1:Nat):Int) from rfl,show(16:Int)=8* ((2:Nat):Int) from rfl,show(24:Int)=8* ((3:Nat):Int) from rfl,e1,e2,e3]
  rfl
 rw[y4] at hs;exact OS (k:=0) hs rfl rfl (hK w hs.drop)
end
def Good(n i:Int)(s:BA):Prop:=1<=n/\n<=1152921504606846976/\0<=i/\i<4096/\s.size<=104
instance(n i:Int)(s:BA):Decidable (Good n i s):=by unfold Good;infer_instance
def pre(n i:Int)(s:BA):List UInt8:=le .i64 8 n++le .i64 2 i++le .i64 2 s.size++s.data.toList++aec (104-s.size) 0
def iY(n i:Int)(s:BA):List UInt8:=pre n i s++ry (pg 0 (pre n i s))++le .i64 8 n
def leaf(n i:Int)(s:BA):BA:=if Good n i s then bs (iY n i s) else .empty
def nh{n i:Int}{s:BA}(h:s.size<=104):(pre n i s).length=116:=by
 have:s.data.toList.length=s.size:=rfl;simp only[pre,ad0,ay,ae4];omega
def sP{n i:Int}{s:BA}(h:s.size<=104):(iY n i s).length=128:=by
 simp only[iY,ad0,ay,nh h,ry]
def qc{n i:Int}{s:BA}(h:Good n i s):(leaf n i s).size=128:=by
 unfold leaf;rw[if_pos h,bI,sP h.2.2.2.2]
def yD(n:Int):0<=IntKind.u32.wrap n/\IntKind.u32.wrap n<4294967296:=by
 simp[IntKind.wrap,IntKind.bits,IntKind.signed];omega
section
variable {W w:World} {L:LH} {k d:Nat} {D:aw}
def DC{n i:Int}{s:BA}{K:VK}(h:St W w L)(hK:∀w',St W w' L->K (.bool (decide (Good n i s))) w'):qp [.i n,.i i,.string s] K w:=by
 unfold qp;refine fE h λr w hs=>?_;have hh:=hK w hs.drop;simp only[nz,adV,adW];refine bn (k:=0) hs rfl rfl ?_;simp only[nz,adV,adW];refine dc (λh1=>?_) (λh1=>?_)
 ·refine bn (k:=0) hs rfl rfl ?_;simp only[nz,adV,adW];refine dc (λh2=>?_) (λh2=>?_)
  ·refine bn (k:=0) hs rfl rfl ?_;simp only[nz,adV,adW];refine dc (λh3=>?_) (λh3=>?_)
   ·refine bn (k:=0) hs rfl rfl ?_;simp only[nz,adV,adW];refine dc (λh4=>?_) (λh4=>?_)
    ·refine bn (k:=0) hs rfl rfl ?_;simp only[nz,adV,adW];have:decide ((s.size:Int)<=104)=decide (Good n i s):=by
      rw[decide_eq_decide];unfold Good;omega
     rw[this];exact hh
    ·have:decide (Good n i s)=false:=decide_eq_false (by unfold Good;omega);rw[this] at hh;exact hh
   ·have:decide (Good n i s)=false:=decide_eq_false (by unfold Good;omega);rw[this] at hh;exact hh
  ·have:decide (Good n i s)=false:=decide_eq_false (by unfold Good;omega);rw[this] at hh;exact hh
 ·have:decide (Good n i s)=false:=decide_eq_false (by unfold Good;omega);rw[this] at hh;exact hh
def I6{n i:Int}{s:BA}{K:VK}(h:St W w L)(hK:∀w',St W w' L->K (.tuple ⟨[.string (leaf n i s),.i (if Good n i s then 0 else 1)]⟩) w'):
 nB [.i n,.i i,.string s] K w:=by
 unfold nB;refine fE h λr w hs=>?_;refine gg (k:=0) (xs:=[.i n,.i i,.string s]) hs rfl rfl (λj v hj=>by rw[ad1];exact hj) ?_;refine DC hs λw hs=>?_;simp only[nz,adV,adW];by_cases hg:Good n i s
 ·have ou:=hg.2.2.2.2;have e0:decide (Good n i s)=true:=decide_eq_true hg;unfold leaf at hK;rw[if_pos hg,if_pos hg] at hK;rw[e0];simp only[nz,adV,adW];refine fE hs λp w hs=>?_;have hs:St W w (buf p []::pt r [.i n,.i i,.string s]::L):=by
   have h2:=(hs.push (A:=own none 0 0 1 (([]:List UInt8).map rI)) (nO 1)).perm (aem.swap _ _ _);exact qg (k:=0) (L:=buf p []::pt r [.i n,.i i,.string s]::L) (A:=buf p []) rfl rfl h2
  have hd:s.data.toList.length=s.size:=rfl;refine bn (k:=1) hs rfl rfl ?_;simp only[nz,adV,adW];refine gA (k:=0) hs rfl (by simp) λw hs=>?_;rw[show(min2 (max2 8 1) 8).toNat=8 from rfl] at hs;simp only[nz,adV,adW] at hs⊢;refine bn (k:=1) hs rfl rfl ?_;simp only[nz,adV,adW];refine gA (k:=0) hs rfl (by simp only[ad0,ay,aes];omega) λw hs=>?_;rw[show(min2 (max2 2 1) 8).toNat=2 from rfl] at hs;simp only[nz,adV,adW] at hs⊢;refine bn (k:=1) hs rfl rfl ?_;simp only[nz,adV,adW];refine gA (k:=0) hs rfl (by simp only[ad0,ay,aes];omega) λw hs=>?_;rw[show(min2 (max2 2 1) 8).toNat=2 from rfl] at hs;simp only[nz,adV,adW] at hs⊢;refine bn (k:=1) hs rfl rfl ?_;simp only[nz,adV,adW];refine na (k:=0) hs rfl (by simp only[ad0,ay,aes];omega) λw hs=>?_;simp only[nz,adV,adW] at hs⊢;refine bn (k:=1) hs rfl rfl ?_;simp only[nz,adV,adW];have ew:adU.wrap (104-(s.size:Int))=((104-s.size:Nat):Int):=by rw[ar (by omega)];omega
  rw[ew];refine zk hs (by omega) (by rw[adY];have:(⟨#[0]⟩:BA).size=1:=rfl;rw[this];omega) (by omega) λw hs=>?_;have er:(⟨(AP (⟨#[0]⟩:BA).data.toList (((104-s.size:Nat):Int).toNat)).toArray⟩:BA)=bs (aec (104-s.size) 0):=by
   rw[adY];show bs (AP [0] (104-s.size))=_;rw[AO]
  rw[er];simp only[nz,adV,adW];refine na (k:=0) hs rfl (by rw[bI];simp only[ad0,ay,aes,ae4];omega) λw hs=>?_;simp only[nz,adV,adW] at hs⊢;have ep:[]++le .i64 8 n++le .i64 2 i++le .i64 2 s.size++s.data.toList++(bs (aec (104-s.size) 0)).data.toList=pre n i s:=rfl;rw[ep] at hs;refine jn (k:=0) hs rfl ?_;simp only[nz,adV,adW];refine Hl (by rw[bI,nh ou];omega) ?_;simp only[nz,adV,adW];refine uw hs (yD _) λw hs=>?_;simp only[nz,adV,adW];refine na (k:=0) hs rfl (by rw[bI,nh ou];simp only[ry,ay];omega) λw hs=>?_;simp only[nz,adV,adW] at hs⊢;refine bn (k:=1) hs rfl rfl ?_;simp only[nz,adV,adW];have ep2:pre n i s++(bs (ry (pg 0 (bs (pre n i s)).data.toList))).data.toList=pre n i s++ry (pg 0 (pre n i s)):=rfl;rw[ep2] at hs;refine gA (k:=0) hs rfl (by simp only[ad0,ry,ay,nh ou];omega) λw hs=>?_;rw[show(min2 (max2 8 1) 8).toNat=8 from rfl] at hs;simp only[nz,adV,adW] at hs⊢;refine jn (k:=0) hs rfl ?_;simp only[nz,adV,adW];exact hK w hs.drop.drop
 ·have e0:decide (Good n i s)=false:=decide_eq_false hg;unfold leaf at hK;rw[if_neg hg,if_neg hg] at hK;rw[e0];simp only[nz,adV,adW];exact hK w hs.drop
def dQ(n:Nat):Nat:=if n=0 then 1 else(n+103)/104
def nX(n:Nat):1<=dQ n:=by unfold dQ;split<;>omega
def IL{n j:Nat}(hj:1<=j):104* j<n↔j<dQ n:=by unfold dQ;split<;>omega
def nw{n:Nat}{K:VK}(hn:n<1099511627776000)(hK:K (.i (dQ n)) w):iW n K w:=by
 unfold iW;refine⟨by decide,by decide,?_⟩;have e0:max2 (n:Int) 0=n:=by unfold max2;split<;>omega
 have e1:(n:Int).tdiv 104=((n/104:Nat):Int):=by rw[Int.tdiv_eq_ediv_of_nonneg (by omega)];rfl
 have e2:(n:Int).tmod 104=((n%104:Nat):Int):=by rw[aeG (by omega)];rfl
 rw[e0,e1,e2];have e3:max2 (adU.wrap (adU.wrap ((n/104:Nat):Int)+min2 ((n%104:Nat):Int) 1)) 1=(dQ n:Int):=by
  have h1:adU.wrap ((n/104:Nat):Int)=((n/104:Nat):Int):=ar (by omega);rw[h1];have h2:min2 ((n%104:Nat):Int) 1=((min (n%104) 1:Nat):Int):=by unfold min2;split<;>omega
  rw[h2,ar (by omega)];unfold max2 dQ;split<;>split<;>omega
 rw[e3];exact hK
end
def gO{x y:BA}(h:x.data.toList=y.data.toList):x=y:=ByteArray.ext (afz h)
def extract_toList(s:BA)(a b:Nat):(s.extract a b).data.toList=(s.data.toList.drop a).take (b-a):=by
 rw[ByteArray.data_extract,Array.toList_extract,List.extract_eq_take_drop]
def cy(s:BA):s.data.toList.length=s.size:=rfl
def part(s:BA)(i:Nat):BA:=s.extract (104* i) (104* (i+1))
def jD(s:BA)(i:Nat):(part s i).size<=104:=by unfold part;rw[ph];omega
def KN(s:BA)(i m:Nat)(hm:m=min (s.size-104* i) 104):(s.extract (104* i) s.size).extract 0 m=part s i:=by
 apply gO;unfold part;rw[extract_toList,extract_toList,extract_toList,ae5,afu,List.take_eq_take_iff,ad9,cy];omega
def KL(s:BA)(i m:Nat)(hm:m=min (s.size-104* i) 104):(s.extract (104* i) s.size).extract m (s.extract (104* i) s.size).size=s.extract (104* (i+1)) s.size:=by
 apply gO;rw[extract_toList,extract_toList,extract_toList,ph];rw[aef (by rw[ad9,ad2,ad9,cy];omega),aef (by rw[ad9,cy];omega),aef (by rw[ad9,cy];omega),ae8];by_cases h:104<=s.size-104* i
 ·congr 1;omega
 ·rw[aeF (by rw[cy];omega),aeF (by rw[cy];omega)]
def lG(at' number:Int)(s:BA):aw->Nat->Nat->aw×Int
 |D,_,0=>(D,0)
 |D,i,n+1=>if(D.write (at'+i) (leaf number i (part s i))).2≠0 then D.write (at'+i) (leaf number i (part s i)) else lG at' number s (D.write (at'+i) (leaf number i (part s i))).1 (i+1) n
def lay(D:aw)(at' to number:Int)(s:BA):aw×Int:=
 if number<1\/1152921504606846976<number\/at'<0\/(D.safe.length:Int)<to\/to<at' then(D,1)
 else if to-at'<(dQ s.size:Int) then(D,3) else lG at' number s D 0 (dQ s.size)
def wV{at' number:Int}{s:BA}:∀(n i:Nat) {D:aw},D.Ok->D.later.length+n<1099511627776->(lG at' number s D i n).1.Ok/\(lG at' number s D i n).1.safe=D.safe/\(lG at' number s D i n).1.later.length<=D.later.length+n
 |0,i,D,h,hl=>⟨h,rfl,ad4 _⟩
 |n+1,i,D,h,hl=>by
  have h1:=oz D (at'+i) (leaf number i (part s i));have h2:=Fk h (at'+i) (leaf number i (part s i)) (by omega);unfold lG;split
  ·exact⟨h2,h1.1,by omega⟩
  ·have:=wV (at':=at') (number:=number) (s:=s) n (i+1) h2 (by omega);exact⟨this.1,this.2.1.trans h1.1,by omega⟩
def Es{D:aw}{at' to number:Int}{s:BA}(h:D.Ok)(hl:D.later.length+dQ s.size<1099511627776):(lay D at' to number s).1.Ok/\(lay D at' to number s).1.safe=D.safe:=by
 unfold lay;split
 ·exact⟨h,rfl⟩
 ·split
  ·exact⟨h,rfl⟩
  ·have:=wV (at':=at') (number:=number) (s:=s) (dQ s.size) 0 h hl;exact⟨this.1,this.2.1⟩
section
variable {W w:World} {L:LH} {k d:Nat} {D:aw}
def pD{at' to number:Int}{s:BA}{b:Bool}{K:VK}(h:St W w L)(hk:L[k]?=some (dK d D))(eO:D.Ok)(hl:D.later.length+4097<1099511627776)(hs:s.size<=reachBytes)
 (hb:b=decide (number<1\/1152921504606846976<number\/at'<0\/(D.safe.length:Int)<to\/to<at'))
 (hK:∀w',St W w' (L.set k (dK d (lay D at' to number s).1))->K (.i (lay D at' to number s).2) w'):ij.j1 K s to at' number (some ⟨d,0,none⟩) b w:=by
 have ou:s.size<=140737488351232:=hs;have rX:=eO.lu;unfold ij.j1;unfold lay at hK;refine pB (λh1=>?_) (λh1=>?_)
 ·rw[hb] at h1;rw[if_pos (of_decide_eq_true h1)] at hK;refine hK w ?_;rw[jQ hk];exact h
 rw[hb] at h1;have u2:=of_decide_eq_false h1;rw[if_neg u2] at hK;refine nw (by omega) ?_;simp only[nz,adV,adW];have ew:adU.wrap (to-at')=to-at':=ar (by omega);rw[ew];refine dc (λh2=>?_) (λh2=>?_)
 ·rw[if_pos (by omega)] at hK;refine hK w ?_;rw[jQ hk];exact h
 rw[if_neg (by omega)] at hK;have Iu:dQ s.size<=4096:=by omega
 refine⟨λus w'=>∃(j:Nat)(Dj:aw),us=[.string (s.extract (104* j) s.size),.i 0,.i j]/\j<=dQ s.size/\Dj.Ok/\Dj.later.length<=D.later.length+j/\lG at' number s D 0 (dQ s.size)=lG at' number s Dj j (dQ s.size-j)/\St W w' (L.set k (dK d Dj)),
  λus _=>match us with|[_,_,.int _ j]=>dQ s.size-j.toNat|_=>0,⟨0,D,?_,ad6 _,eO,by omega,rfl,by rw[jQ hk];exact h⟩,?_⟩
 ·have:s.extract (104* 0) s.size=s:=by rw[Nat.mul_zero];exact ByteArray.extract_zero_size
  rw[this];rfl
 rintro s2 n5 n6 w2 ⟨j,Dj,he,hj,eO,hlj,UL,hs⟩;cases he
 have rz:(L.set k (dK d Dj))[k]?=some (dK d Dj):=fZ hk;have u1:min2 ((s.extract (104* j) s.size).size:Int) 104=((min (s.size-104* j) 104:Nat):Int):=by
  rw[ph];unfold min2;split<;>omega
 have e5:=mh j;have ea:adU.wrap (at'+(j:Int))=at'+j:=ar (by omega);rw[u1,e5,ea,ph];have hex:∀X:WK,X w2->a8 (0<=((min (s.size-104* j) 104:Nat):Int)/\((min (s.size-104* j) 104:Nat):Int)<=((min s.size s.size-104* j:Nat):Int)) X w2:=λX hX=>⟨by omega,hX⟩;have step:j<dQ s.size->∀w,St W w (L.set k (dK d (Dj.write (at'+j) (leaf number j (part s j))).1))->(Dj.write (at'+j) (leaf number j (part s j))).2≠0->K (.i (Dj.write (at'+j) (leaf number j (part s j))).2) w:=λMs w hs gU=>by
  have e:lG at' number s Dj j (dQ s.size-j)=Dj.write (at'+j) (leaf number j (part s j)):=by
   obtain⟨q,hq⟩:∃q,dQ s.size-j=q+1:=⟨dQ s.size-j-1,by omega⟩;rw[hq,lG,if_pos gU]
  rw[UL,e] at hK;exact hK w hs
 have fin:j<dQ s.size->∀w,St W w (L.set k (dK d (Dj.write (at'+j) (leaf number j (part s j))).1))->(Dj.write (at'+j) (leaf number j (part s j))).2=0->
  ∃(j':Nat)(Sc:aw),[Value.string (s.extract (104* (j+1)) s.size),.i 0,.i ((j+1:Nat):Int)]=[.string (s.extract (104* j') s.size),.i 0,.i j']/\j'<=dQ s.size/\Sc.Ok/\Sc.later.length<=D.later.length+j'/\lG at' number s D 0 (dQ s.size)=lG at' number s Sc j' (dQ s.size-j')/\St W w (L.set k (dK d Sc)):=λMs w hs hz=>by
  have hw:=oz Dj (at'+j) (leaf number j (part s j));refine⟨j+1,_,rfl,by omega,Fk eO _ _ (by omega),by omega,?_,hs⟩;rw[UL];obtain⟨q,hq⟩:∃q,dQ s.size-j=q+1:=⟨dQ s.size-j-1,by omega⟩;have Q3:dQ s.size-(j+1)=q:=by omega
  rw[hq,Q3,lG,if_neg (by rw[hz];exact λhh=>hh rfl)]
 have Gx:=nX s.size;have body:j<dQ s.size->iX (s.extract (104* j) s.size) none (some ((min (s.size-104* j) 104:Nat):Int)) (λs3=>
  a8 True (
  nB [.i number,.i j,.string s3] (x2 λv1 v2=>(xS λs4=>
  (xI .i64 λn7=>
  cG (some ⟨d,0,none⟩) (at'+j) s4 (xI .i64 λn8=>
  br (n8 !=0) (
  K (.i n8)) (
  iX (s.extract (104* j) s.size) (some ((min (s.size-104* j) 104:Nat):Int)) none (λs5=>λw3=>
   (∃(j':Nat)(Sc:aw),[Value.string s5,.i 0,.i ((j+1:Nat):Int)]=[.string (s.extract (104* j') s.size),.i 0,.i j']/\j'<=dQ s.size/\Sc.Ok/\Sc.later.length<=D.later.length+j'/\lG at' number s D 0 (dQ s.size)=lG at' number s Sc j' (dQ s.size-j')/\St W w3 (L.set k (dK d Sc)))/\
   dQ s.size-((j+1:Nat):Int).toNat<dQ s.size-((j:Nat):Int).toNat)))) v2) v1))) w2:=λMs=>by
  unfold iX;dsimp only;refine⟨⟨by omega,by rw[ph];omega⟩,trivial,?_⟩;rw[adY,KN s j _ rfl];refine I6 hs λw hs=>?_;simp only[nz,adV,adW];refine zE hs rz eO λw hs=>?_;rw[afb] at hs;simp only[nz,adV,adW];refine qD (λgU=>?_) (λhz=>?_)
  ·exact step Ms w hs gU
  ·refine⟨⟨by omega,by rw[ph];omega⟩,?_⟩;rw[KL s j _ rfl];exact⟨fin Ms w hs hz,by omega⟩
 refine DQ (λX1=>body (by omega)) (λX1=>?_);refine dc (λJ6=>?_) (λhle=>?_)
 ·have hc:=IL (n:=s.size) (j:=j) (by omega);exact body (by omega)
 ·have hc:=IL (n:=s.size) (j:=j) (by omega);have Ms:j=dQ s.size:=by omega
  have e:lG at' number s Dj j (dQ s.size-j)=(Dj,0):=by rw[Ms,afj];rfl
  rw[UL,e] at hK;exact hK _ hs
def B3{at' to number:Int}{s:BA}{K:VK}(h:St W w L)(hk:L[k]?=some (dK d D))(eO:D.Ok)(hl:D.later.length+4097<1099511627776)(hs:s.size<=reachBytes)
 (hK:∀w',St W w' (L.set k (dK d (lay D at' to number s).1))->K (.i (lay D at' to number s).2) w'):ij (some ⟨d,0,none⟩) at' to number s K w:=by
 unfold ij;refine dc (λh1=>?_) (λh1=>?_)
 ·exact pD h hk eO hl hs (by symm;rw[decide_eq_true_eq];exact .inl h1) hK
 refine dc (λh2=>?_) (λh2=>?_)
 ·exact pD h hk eO hl hs (by symm;rw[decide_eq_true_eq];exact .inr (.inl h2)) hK
 refine dc (λh3=>?_) (λh3=>?_)
 ·exact pD h hk eO hl hs (by symm;rw[decide_eq_true_eq];exact .inr (.inr (.inl h3))) hK
 refine ka h hk ?_;simp only[nz,adV,adW];refine dc (λh4=>?_) (λh4=>?_)
 ·exact pD h hk eO hl hs (by symm;rw[decide_eq_true_eq];exact .inr (.inr (.inr (.inl h4)))) hK
 ·refine pD h hk eO hl hs ?_ hK;rw[decide_eq_decide];omega
end
section
variable {W w:World} {L:LH} {k:Nat}
def y3(w:World)(a:Addr)(n j:Nat)(hj:j≠a.block):(w.freeze a n).heap[j]?=w.heap[j]?:=by
 unfold World.freeze;split
 ·rfl
 ·simp only[Array.getElem?_modify];rw[if_neg (λh=>hj h.symm)]
def T0{s:BA}{K:Nat->Nat->WK}(h:St W w L)(hK:∀r c w',St W w' (own (some ⟨r,0,none⟩) s.size c 1 (s.data.toList.map rI)::L)->K r c w'):ZJ s K w:=by
 intro c t hc;have h1:=h.drew.new ((s.data.toList.map rI)++aec (c-s.size) (.int .u8 0)) t;have ou:s.data.toList.length=s.size:=rfl;have Vc:((strCells s).toArray++ae7 (c-s.size) (.int .u8 0):Array Value)=⟨(s.data.toList.map rI)++aec (c-s.size) (.int .u8 0)⟩:=by
  apply afz;rw[Array.toList_append,Array.toList_replicate]
  rfl
 rw[Vc];generalize PK:(s.data.toList.map rI)++aec (c-s.size) (Value.int .u8 0)=cs at *;have hlen:cs.length=c:=by rw[<-PK];simp;omega
 have hhp:(w.drew.alloc (.cells ⟨cs⟩ t)).heap[w.heap.size]?=some (.cells ⟨cs⟩ t):=by
  show(w.heap.push (.cells ⟨cs⟩ t))[w.heap.size]?=_;rw[Array.getElem?_push_size]
 have yV:view ((w.drew.alloc (.cells ⟨cs⟩ t)).freeze ⟨w.heap.size,c,none⟩ 1) w.heap.size=some (.cells cs):=by
  unfold view World.freeze;rw[if_neg (by decide)];simp only[Array.getElem?_modify,hhp];simp[hlen]
 have hb:=h1.1;have h2:=h1.aF (k:=0) rfl (w':=(w.drew.alloc (.cells ⟨cs⟩ t)).freeze ⟨w.heap.size,c,none⟩ 1) ?_ yV (λj hj _=>y3 _ _ _ _ hj)
 ·refine hK _ _ _ ?_;refine St.mono (A:=pt w.heap.size cs) h2 λg hp=>⟨by rw[aen];omega,.inr ⟨_,aec (c-s.size) (.int .u8 0),rfl,hc,by simp,?_⟩⟩;rw[PK];exact hp
 ·refine⟨?_,?_,?_,?_,λj hj=>?_⟩
  ·unfold World.freeze;rw[if_neg (by decide)];exact hb.os
  ·unfold World.freeze;rw[if_neg (by decide)];exact hb.tape
  ·unfold World.freeze;rw[if_neg (by decide)];exact hb.output
  ·unfold World.freeze;rw[if_neg (by decide)];simp only[Array.size_modify];exact hb.size
  ·rw[y3 _ _ _ _ (by have:=h.1.size;simp only;omega)];exact hb.block j hj
def zu(r:Nat)(s:BA)(t:Bool):HP:=pt r [.string s,.bool t]
def oq(s:BA)(t:Bool)(n:Int):Bool:=t||decide (n<0\/(s.size:Int)<n)
def tX(s:BA)(t:Bool)(n:Int):BA:=if oq s t n then .empty else s.extract 0 n.toNat
def zv(s:BA)(t:Bool)(n:Int):BA:=if oq s t n then s else s.extract n.toNat s.size
def oD{s:BA}{K:VK}(h:St W w L)(hK:∀r w',St W w' (zu r s false::L)->K (.p (some ⟨r,0,none⟩)) w'):lO s K w:=by
 unfold lO;exact⟨⟨rfl,trivial⟩,fE h λr w hs=>hK r w hs⟩
def B2{r:Nat}{s:BA}{t:Bool}{n:Int}{K:VK}(h:St W w L)(hk:L[k]?=some (zu r s t))(hK:∀w',St W w' (L.set k (zu r (zv s t n) (oq s t n)))->K (.string (tX s t n)) w'):cF (some ⟨r,0,none⟩) n K w:=by
 unfold cF;unfold zu at hk;simp only[nz,adV,adW];refine bn hk (h:=h) rfl ?_;simp only[nz,adV,adW];have bad:oq s t n=true->∀w',St W w' (L.set k (pt r [.string s,.bool true]))->K (.string .empty) w':=λhb w' hs=>by
  have:=hK w';unfold zv tX at this;rw[if_pos hb,if_pos hb,hb] at this;exact this hs
 refine pB (λht=>?_) (λht=>?_)
 ·refine kP h hk (ad3 rfl) rfl λw hs=>?_;refine bn hs (fZ hk) rfl ?_;simp only[nz,adV,adW] at hs⊢;exact bad (by simp[oq,ht]) w hs
 refine dc (λhn=>?_) (λhn=>?_)
 ·refine kP h hk (ad3 rfl) rfl λw hs=>?_;refine bn hs (fZ hk) rfl ?_;simp only[nz,adV,adW] at hs⊢;exact bad (by simp[oq,hn]) w hs
 refine bn h hk rfl ?_;simp only[nz,adV,adW];refine kP h hk (ad3 rfl) rfl λw hs=>?_;refine bn hs (fZ hk) rfl ?_;simp only[nz,adV,adW] at hs⊢;refine dc (λJ6=>?_) (λJ6=>?_)
 ·have:decide (n>(s.size:Int))=true:=decide_eq_true J6;rw[this] at hs;exact bad (by simp[oq];omega) w hs
 ·have e:decide (n>(s.size:Int))=false:=decide_eq_false J6;rw[e] at hs;have hb:oq s t n=false:=by
   unfold oq;rw[ht,decide_eq_false (by omega)];rfl
  have:=hK;unfold zv tX at this;rw[if_neg (by rw[hb];exact aeq),if_neg (by rw[hb];exact aeq),hb] at this;unfold cF.j1;simp only[nz,adV,adW];refine bn hs (fZ hk) rfl ?_;unfold iX;simp only[nz,adV,adW];refine⟨by omega,?_⟩;refine bn hs (fZ hk) rfl ?_;simp only[nz,adV,adW];refine⟨by omega,?_⟩;refine kP hs (fZ hk) (ad3 rfl) rfl λw hs=>?_;rw[afb] at hs;exact this w hs
def kd:List UInt8->Nat
 |[]=>0
 |c::r=>c.toNat+256* kd r
def oU:∀l:List UInt8,kd l<256^l.length
 |[]=>by simp[kd]
 |c::r=>by
  have:=oU r;have hc:=c.toNat_lt;simp only[kd,aee,Nat.pow_succ];omega
def pa:∀(l:List UInt8)(c:UInt8),kd (l++[c])=kd l+c.toNat* 256^l.length
 |[],c=>by simp[kd]
 |d::r,c=>by
  simp only[afa,kd,pa r c,aee,Nat.pow_succ];rw[Nat.mul_add,Nat.add_assoc]
  congr 2
  rw[afv 256,Nat.mul_assoc]
def wM(z:Int):BitVec.ofInt 64 (adU.wrap z)=BitVec.ofInt 64 z:=by
 apply BitVec.eq_of_toNat_eq;simp only[BitVec.toNat_ofInt];simp[IntKind.wrap,IntKind.bits,IntKind.signed];split<;>omega
def QA{A j:Nat}{c:UInt8}(hj:j<8)(hA:A<256^j):bC .i64 .or (adU.wrap A) (shl .i64 (adU.wrap (c.toNat:Int)) (8* (j:Int)))=adU.wrap ((A+c.toNat* 256^j:Nat):Int):=by
 have hc:=c.toNat_lt;have Lp:256^j=2^(8* j):=by rw[show(256:Nat)=2^8 from rfl,<-Nat.pow_mul]
 have aaB:c.toNat* 2^(8* j)<2^64:=by
  have h1:c.toNat* 2^(8* j)<2^8* 2^(8* j):=Nat.mul_lt_mul_of_pos_right (by exact hc) (Nat.pow_pos (by decide));rw[<-Nat.pow_add] at h1;exact Nat.lt_of_lt_of_le h1 (aeP (by decide) (by omega))
 have adT:A<2^64:=by
  rw[Lp] at hA;exact Nat.lt_of_lt_of_le hA (aeP (by decide) (by omega))
 have ew:adU.wrap (c.toNat:Int)=(c.toNat:Int):=ar (by omega);have esh:shl .i64 (c.toNat:Int) (8* (j:Int))=adU.wrap ((c.toNat* 2^(8* j):Nat):Int):=by
  unfold shl;have h1:(8* (j:Int)).toNat=8* j:=by omega
  have h2:min (8* j) adU.bits=8* j:=by show min (8* j) 64=_;omega
  rw[h1,h2]
  congr 1
 rw[ew,esh];show adU.wrap (((BitVec.ofInt 64 (adU.wrap A)|||BitVec.ofInt 64 (adU.wrap ((c.toNat* 2^(8* j):Nat):Int))).toNat:Nat):Int)=_;rw[wM,wM,BitVec.toNat_or];have t1:(BitVec.ofInt 64 (A:Int)).toNat=A:=by simp only[BitVec.toNat_ofInt];omega
 have t2:(BitVec.ofInt 64 ((c.toNat* 2^(8* j):Nat):Int)).toNat=c.toNat* 2^(8* j):=by
  generalize c.toNat* 2^(8* j)=z at *;simp only[BitVec.toNat_ofInt];omega
 rw[t1,t2,Lp]
 congr 2
 rw[Nat.or_comm,<-Nat.shiftLeft_eq,<-Nat.shiftLeft_add_eq_or_of_lt (by rw[<-Lp];exact hA),Nat.add_comm]
def jT(l:List UInt8):Int:=adU.wrap (kd l:Int)
def xy{r:Nat}{s:BA}{t:Bool}{n:Int}{K:VK}(h:St W w L)(hk:L[k]?=some (zu r s t))
 (hK:∀w',St W w' (L.set k (zu r (zv s t (min2 (max2 n 1) 8)) (oq s t (min2 (max2 n 1) 8))))->K (.i (jT (tX s t (min2 (max2 n 1) 8)).data.toList)) w'):ao (some ⟨r,0,none⟩) n K w:=by
 have hm:1<=min2 (max2 n 1) 8/\min2 (max2 n 1) 8<=8:=by unfold min2 max2;split<;>split<;>omega
 unfold ao;generalize min2 (max2 n 1) 8=m at *;refine B2 h hk λw hs=>?_;simp only[nz,adV,adW];have hv8:(tX s t m).size<=8:=by
  unfold tX;split
  ·exact ad6 _
  ·rw[ph];omega
 have hK':=hK;generalize tX s t m=v at *;refine T0 hs λq c w hs=>?_;have hlen:v.data.toList.length=v.size:=rfl;refine⟨λus w'=>∃j:Nat,us=[.i 0,.i (jT (v.data.toList.take j)),.l (some ⟨q,0,none⟩) v.size c,.i v.size,.i j]/\j<=v.size/\Xq w w',
  λus _=>match us with|[_,_,_,_,.int _ j]=>v.size-j.toNat|_=>0,⟨0,rfl,ad6 _,rfl⟩,?_⟩
 rintro n2 n3 Nl V8 Qh n4 n5 w2 ⟨j,he,hj,hw⟩;obtain rfl:w2=w:=hw;cases he
 generalize hb:decide ((j:Int)<(v.size:Int))=b;cases b
 ·have gF:=of_decide_eq_false hb;rw[cf];rw[aef (by omega)];exact hK' _ hs.drop
 ·have aZ:=of_decide_eq_true hb;rw[gW];have N5:j<v.data.toList.length:=by omega
  refine nS (k:=0) hs rfl (by omega) λr' hr=>?_;cases hr
  refine vJ (k:=0) hs rfl (v:=rI (v.data.toList[j])) (by rw[adY,afn,aeJ,adX N5];rfl) ?_;unfold rI;simp only[nz,adV,adW];have e8:adU.wrap (8* (j:Int))=8* (j:Int):=ar (by omega);have e5:=mh j;rw[e8,e5];refine⟨by omega,?_⟩;have JX:=oU (v.data.toList.take j);have zx:(v.data.toList.take j).length=j:=by rw[ad2];omega
  rw[zx] at JX;have e6:bC .i64 .or (jT (v.data.toList.take j)) (shl .i64 (adU.wrap ((v.data.toList[j]).toNat:Int)) (8* (j:Int)))=jT (v.data.toList.take (j+1)):=by
   unfold jT;rw[QA (by omega) JX,aeS N5,pa,zx]
  rw[e6];exact⟨⟨j+1,rfl,by omega,rfl⟩,by omega⟩
def numOf(s:BA):Int:=if 1<=jT s.data.toList/\jT s.data.toList<=1152921504606846976 then jT s.data.toList else 0
def oC{n:Int}(h:0<=n/\n<18446744073709551616):IntKind.u64.wrap n=n:=by
 simp[IntKind.wrap,IntKind.bits,IntKind.signed];omega
def yi(s:BA):BA:=s.extract 0 8
def xD(s:BA):BA:=s.extract (s.size-8) s.size
def LN{s:BA}{K:VK}(h:St W w L)(hs8:8<=s.size)(ou:s.size<1099511627776)(hK:∀w',St W w' L->K (.agg ⟨[.i (numOf (yi s)),.i (numOf (xD s))]⟩) w'):sA s K w:=by
 unfold sA;refine fE h λr1 w hs=>?_;refine fE hs λr2 w hs=>?_;refine iP hs λw hs=>?_;unfold iX;simp only[nz,adV,adW];have e1:adU.wrap ((s.size:Int) -8)=(s.size:Int) -8:=ar (by omega);rw[e1];refine⟨by omega,by omega,?_⟩;have eh:s.extract 0 (8:Int).toNat=yi s:=rfl;have et:s.extract ((s.size:Int) -8).toNat s.size=xD s:=by unfold xD;congr 1;omega
 rw[eh,et];have h8:(yi s).size=8:=by unfold yi;rw[ph];omega
 have t8:(xD s).size=8:=by unfold xD;rw[ph];omega
 refine⟨λus w'=>∃j:Nat,us=[.p (some ⟨r1,0,none⟩),.p (some ⟨r2,0,none⟩),.agg ⟨[.string (yi s),.string (xD s)]⟩,.i j]/\j<=2/\
  St W w' (pt r2 [.i (if 0<j then numOf (yi s) else 0),.i (if 1<j then numOf (xD s) else 0)]::pt r1 [.i 0,.i 0]::L),
  λus _=>match us with|[_,_,_,.int _ j]=>2-j.toNat|_=>0,⟨0,rfl,ad6 _,hs⟩,?_⟩
 rintro a1 a2 cs1 n1 w2 ⟨j,he,hj,hs⟩;cases he
 refine pB (λh0=>?_) (λh0=>?_)
 ·have EC:j<2:=by have:=of_decide_eq_true h0;omega
  have e5:=mh j;rw[e5];obtain⟨p,hp,UD⟩:∃p,([Value.string (yi s),.string (xD s)]:LV)[(j:Int).toNat]?=some (.string p)/\p.size=8/\(j=0->p=yi s)/\(j=1->p=xD s):=by
   match j,EC with
   |0,_=>exact⟨yi s,rfl,h8,λ_=>rfl,λhh=>by omega⟩
   |1,_=>exact⟨xD s,rfl,t8,λhh=>by omega,λ_=>rfl⟩
  refine⟨.string p,⟨by omega,by omega,hp⟩,?_⟩;simp only[nz,adV,adW];refine oD hs λq w hs=>?_;simp only[nz,adV,adW];refine xy (k:=0) hs rfl λw hs=>?_;have em:min2 (max2 8 1) 8=8:=rfl;have ev:tX p false (min2 (max2 8 1) 8)=p:=by
   rw[em];unfold tX;have:oq p false 8=false:=by unfold oq;rw[UD.1];rfl
   rw[if_neg (by rw[this];exact aeq)];have:(8:Int).toNat=p.size:=by rw[UD.1];rfl
   rw[this];exact ByteArray.extract_zero_size
  rw[ev];simp only[nz,adV,adW] at hs⊢;have hs:=hs.drop;have fin:∀x w',x=numOf p->St W w' (pt r2 ([.i (if 0<j then numOf (yi s) else 0),.i (if 1<j then numOf (xD s) else 0)].set j (.i x))::pt r1 [.i 0,.i 0]::L)->
     St W w' (pt r2 [.i (if 0<j+1 then numOf (yi s) else 0),.i (if 1<j+1 then numOf (xD s) else 0)]::pt r1 [.i 0,.i 0]::L):=λx w' hx hs=>by
   subst hx
   match j,EC,UD,hs with
   |0,_,UD,hs=>rw[UD.2.1 rfl] at hs;simpa using hs
   |1,_,UD,hs=>rw[UD.2.2 rfl] at hs;simpa using hs
  have zero:numOf p=0->∀w',St W w' (pt r2 [.i (if 0<j then numOf (yi s) else 0),.i (if 1<j then numOf (xD s) else 0)]::pt r1 [.i 0,.i 0]::L)->
   St W w' (pt r2 [.i (if 0<j+1 then numOf (yi s) else 0),.i (if 1<j+1 then numOf (xD s) else 0)]::pt r1 [.i 0,.i 0]::L):=λhz w' hs=>by
   refine fin 0 w' hz.symm ?_
   match j,EC,hs with
   |0,_,hs=>simpa using hs
   |1,_,hs=>simpa using hs
  refine dc (λh1=>?_) (λh1=>?_)
  ·refine dc (λh2=>?_) (λh2=>?_)
   ·refine⟨by omega,?_⟩;refine kP (k:=0) hs rfl (by simp;omega) rfl λw hs=>?_;simp only[nz,adV,adW] at hs;rw[adY,afn] at hs;refine⟨⟨j+1,rfl,by omega,fin _ w ?_ hs⟩,by omega⟩;unfold numOf;rw[if_pos (by omega)]
   ·exact⟨⟨j+1,rfl,by omega,zero (by unfold numOf;rw[if_neg (by omega)]) w hs⟩,by omega⟩
  ·exact⟨⟨j+1,rfl,by omega,zero (by unfold numOf;rw[if_neg (by omega)]) w hs⟩,by omega⟩
 ·have EC:j=2:=by have:=of_decide_eq_false h0;omega
  subst EC;have hs:St W w2 (pt r2 [.i (numOf (yi s)),.i (numOf (xD s))]::pt r1 [.i 0,.i 0]::L):=hs;refine gg (k:=0) (xs:=[.i (numOf (yi s)),.i (numOf (xD s))]) hs rfl rfl (λi v hi=>by rw[ad1];exact hi) ?_;refine⟨rfl,fX (k:=1) hs rfl (ad3 rfl) (by simp[Value.oneCell']) λw hs=>?_⟩;rw[eS (by simp)] at hs;simp only[nz,adV,adW] at hs;refine gg (k:=1) (xs:=[.i (numOf (yi s)),.i (numOf (xD s))]) hs rfl rfl (λi v hi=>by rw[ad1];exact hi) ?_;exact hK w hs.drop.drop
def dy(D:aw):Nat->Int
 |0=>0
 |j+1=>max2 (max2 (dy D j) (numOf (yi (D.read (j:Int)).1))) (numOf (xD (D.read (j:Int)).1))
def uH{D:aw}(h:D.Ok){i:Int}(hi:D.is i):(D.read i).1.size=128:=by
 unfold aw.read;rw[if_pos hi];unfold aw.now;have aZ:i.toNat<D.safe.length:=by have:=hi.1;have:=hi.2;omega
 cases hl:aw.last D.later i with
 |none=>
  rw[aeQ,aeM,adX aZ,aew];exact h.safe _ (aej aZ)
 |some x=>
  unfold aw.last at hl;rw[Option.map_eq_some_iff] at hl;obtain⟨p,hp,rfl⟩:=hl;exact(h.later p (List.mem_reverse.1 (aeW hp))).1
def CC{d:Nat}{D:aw}{K:VK}(h:St W w L)(hk:L[k]?=some (dK d D))(eO:D.Ok)(hK:∀w',St W w' L->K (.i (dy D D.safe.length)) w'):kz (some ⟨d,0,none⟩) K w:=by
 have rX:=eO.lu;unfold kz;refine ka h hk ?_;simp only[nz,adV,adW];refine⟨λus w'=>∃j:Nat,us=[.i 0,.i (dy D j),.i D.safe.length,.i j]/\j<=D.safe.length/\St W w' L,
  λus _=>match us with|[_,_,_,.int _ j]=>D.safe.length-j.toNat|_=>0,⟨0,rfl,ad6 _,h⟩,?_⟩
 rintro n2 n3 n4 n5 w2 ⟨j,he,hj,hs⟩;cases he
 refine dc (λaZ=>?_) (λgF=>?_)
 ·have hi:D.is (j:Int):=⟨by omega,aZ⟩;have ou:=uH eO hi;have e5:=mh j;refine om hs hk eO ?_;simp only[nz,adV,adW];refine LN hs (by omega) (by omega) λw hs=>?_;simp only[tj,aee,aes,ad1,adV,true_and];refine fE hs λr w hs=>?_;refine⟨trivial,fX (k:=0) hs rfl (ad3 rfl) (by simp[Value.oneCell']) λw hs=>?_⟩;rw[eS (by simp)] at hs;simp only[nz,adV,adW] at hs⊢;refine⟨by decide,?_⟩;refine bn (k:=0) hs rfl rfl ?_;simp only[nz,adV,adW];refine⟨by decide,?_⟩;refine bn (k:=0) hs rfl rfl ?_;simp only[nz,adV,adW];rw[e5];exact⟨⟨j+1,rfl,by omega,hs.drop⟩,by omega⟩
 ·have:j=D.safe.length:=by omega
  subst this;exact hK _ hs
end
def kW(l:List UInt8)(n:Nat):(bs l).extract 0 n=bs (l.take n):=by
 apply gO;rw[extract_toList,ae5,Nat.sub_zero];rfl
def kV(l:List UInt8)(n:Nat):(bs l).extract n (bs l).size=bs (l.drop n):=by
 apply gO;rw[extract_toList,bI];show(l.drop n).take (l.length-n)=l.drop n;rw[aef (by rw[ad9];omega)]
def L4(a b:List UInt8):bs a++bs b=bs (a++b):=by
 apply gO;rw[ByteArray.data_append,Array.toList_append];rfl
def yr{a b:List UInt8}:bs a=bs b↔a=b:=by
 constructor
 ·intro h;have:=congrArg (λx=>x.data.toList) h;exact this
 ·intro h;rw[h]
def GY:ByteArray.empty=bs []:=rfl
section
variable {W w:World} {L:LH} {k:Nat}
def Av{l:List UInt8}{K:VK}(hl:l.length<1099511627776)(hK:∀m,m<=l.length->(∀j(h:j<l.length),m<=j->l[j]=0)->(m=0\/∃h:m-1<l.length,l[m-1]≠0)->K (.string (bs (l.take m))) w):jt (bs l) 0 K w:=by
 unfold jt;refine⟨λus w'=>∃m:Nat,us=[.string (bs (l.take m)),.string .empty]/\m<=l.length/\(∀j(h:j<l.length),m<=j->l[j]=0)/\Xq w w',λus _=>match us with|[.string s,_]=>s.size|_=>0,
  ⟨l.length,by rw[ad'],ad4 _,λj h hj=>by omega,rfl⟩,?_⟩
 rintro s2 s3 w2 ⟨m,he,hm,hz,hw⟩;obtain rfl:w2=w:=hw;cases he
 have ou:(bs (l.take m)).size=m:=by rw[bI,ad2];omega
 rw[ou];refine dc (λGx=>?_) (λXO=>?_)
 ·have UK:m-1<l.length:=by omega
  have ew:adU.wrap ((m:Int) -1)=((m-1:Nat):Int):=by rw[ar (by omega)];omega
  rw[ew];refine⟨l[m-1],⟨by omega,?_⟩,?_⟩
  ·rw[adY];show(l.take m)[m-1]?=_;rw[List.getElem?_take_of_lt (by omega),adX UK]
  refine DQ (λh0=>?_) (λh0=>?_)
  ·have hc:l[m-1]=0:=by
    apply UInt8.toNat_inj.1;show _=0;omega
   unfold iX;refine⟨⟨by omega,by rw[ou];omega⟩,?_⟩;rw[adY,kW,afu,show min (m-1) m=m-1 from by omega];refine⟨⟨m-1,rfl,by omega,λj hj hmj=>?_,rfl⟩,?_⟩
   ·by_cases hjm:m<=j
    ·exact hz j hj hjm
    ·have:j=m-1:=by omega
     subst this;exact hc
   ·dsimp only;rw[bI,ad2,bI,ad2];omega
  ·exact hK m hm hz (.inr ⟨UK,λhc=>h0 (by rw[hc];rfl)⟩)
 ·exact hK m hm hz (.inl (by omega))
def Cc{l:List UInt8}{K:VK}(hl:l.length<1099511627776)(hK:∀m,m<=l.length->(∀j(h:j<l.length),j<m->l[j]=0)->(m=l.length\/∃h:m<l.length,l[m]≠0)->K (.string (bs (l.drop m))) w):jO (bs l) 0 K w:=by
 unfold jO;refine⟨λus w'=>∃m:Nat,us=[.string (bs (l.drop m)),.string .empty]/\m<=l.length/\(∀j(h:j<l.length),j<m->l[j]=0)/\Xq w w',λus _=>match us with|[.string s,_]=>s.size|_=>0,
  ⟨0,rfl,ad6 _,λj h hj=>by omega,rfl⟩,?_⟩
 rintro s2 s3 w2 ⟨m,he,hm,hz,hw⟩;obtain rfl:w2=w:=hw;cases he
 have ou:(bs (l.drop m)).size=l.length-m:=by rw[bI,ad9]
 refine dc (λGx=>?_) (λXO=>?_)
 ·rw[ou] at Gx;have UK:m<l.length:=by omega
  refine⟨l[m],⟨by omega,?_⟩,?_⟩
  ·show(l.drop m)[0]?=_;rw[afd,aeT,adX UK]
  refine DQ (λh0=>?_) (λh0=>?_)
  ·have hc:l[m]=0:=by
    apply UInt8.toNat_inj.1;show _=0;omega
   unfold iX;refine⟨⟨by omega,by rw[ou];omega⟩,?_⟩;rw[show(1:Int).toNat=1 from rfl,kV,ae8];refine⟨⟨m+1,rfl,by omega,λj hj hmj=>?_,rfl⟩,?_⟩
   ·by_cases hjm:j<m
    ·exact hz j hj hjm
    ·have:j=m:=by omega
     subst this;exact hc
   ·dsimp only;rw[bI,ad9,bI,ad9];omega
  ·exact hK m hm hz (.inr ⟨UK,λhc=>h0 (by rw[hc];rfl)⟩)
 ·rw[ou] at XO;exact hK m hm hz (.inl (by omega))
def Ma{l:List UInt8}{K:VK}(h:St W w L)(hl:l.length<1099511627776)(hK:∀r w',(r=.empty↔l=aec l.length 0)->St W w' L->K (.string r) w'):dY (bs l) ⟨#[0]⟩ K w:=by
 unfold dY;have e0:pk (⟨#[0]⟩:BA) (⟨#[]⟩:BA)=false:=by rw[pX];exact decide_eq_false (λh=>absurd (congrArg ByteArray.size h) (by decide))
 rw[e0,pX];refine dc (λhem=>?_) (λgU=>?_)
 ·unfold dY.j1;rw[gW];have:l=[]:=yr.1 hem;subst this;exact hK _ w (by simp[GY]) h
 ·unfold dY.j1;rw[cf];have e1:((((⟨#[0]⟩:BA).size:Nat):Int)==1)=true:=by decide
  rw[e1,gW];refine⟨0,⟨by decide,rfl⟩,?_⟩;have e2:decide (((0:UInt8).toNat:Int)<128)=true:=by decide
  dsimp only;rw[e2];unfold dY.j3;rw[gW];refine iP h λw h=>?_;refine⟨0,⟨by decide,rfl⟩,?_⟩;refine⟨0,⟨by decide,rfl⟩,?_⟩;refine Av hl λm hm hz Du=>?_;simp only[nz,adV,adW];refine Cc (by rw[ad2];omega) λq hq hz2 uh=>?_;simp only[nz,adV,adW];refine hK _ w ?_ h;have aZ:(l.take m).length=m:=by rw[ad2];omega
  rw[GY,yr]
  constructor
  ·intro hd;have hqm:q=m:=by have:=congrArg List.length hd;rw[ad9,aes] at this;omega
   subst hqm;rcases Du with h0|⟨h1,h2⟩
   ·subst h0;exact List.eq_replicate_iff.2 ⟨rfl,λx hx=>by
     obtain⟨j,hj,rfl⟩:=List.mem_iff_getElem.1 hx
     exact hz j hj (ad6 _)⟩
   ·exfalso;have hq0:0<q:=by
     rcases Nat.eq_zero_or_pos q with h0|h0
     ·subst h0;exact absurd (hz _ h1 (by omega)) h2
     ·exact h0
    have:=hz2 (q-1) (by omega) (by omega);rw[List.getElem_take] at this;exact h2 this
  ·intro fJ;have hz0:∀j(hj:j<l.length),l[j]=0:=λj hj=>(List.eq_replicate_iff.1 fJ).2 _ (aej hj);rcases uh with h0|⟨h1,h2⟩
   ·rw[aeF (by omega)]
   ·exfalso;rw[List.getElem_take] at h2;exact h2 (hz0 q _)
def pI(l:List UInt8):Bool:=decide (4<=l.length)&&(ry (pg 0 (l.take (l.length-4)))==l.drop (l.length-4))
def I5{l:List UInt8}{K:VK}(h:St W w L)(hl:l.length<1099511627776)(hK:∀w',St W w' L->K (.bool (pI l)) w'):pU (bs l) K w:=by
 unfold pU;refine iP h λw h=>?_;have ew:adU.wrap (((bs l).size:Int) -4)=(l.length:Int) -4:=by rw[bI,ar (by omega)]
 rw[ew];refine dc (λh0=>?_) (λh0=>?_)
 ·have e1:((l.length:Int) -4).toNat=l.length-4:=by omega
  unfold iX;dsimp only;refine⟨⟨h0,by rw[bI];omega⟩,?_⟩;refine⟨⟨h0,by rw[bI];omega⟩,?_⟩;rw[e1,kW,kV];refine Hl (by rw[bI,ad2];omega) ?_;simp only[nz,adV,adW];refine uw h (yD _) λw h=>?_;simp only[nz,adV,adW];have e2:pk (bs (ry (pg 0 (bs (l.take (l.length-4))).data.toList))) (bs (l.drop (l.length-4)))=pI l:=by
   rw[pX];unfold pI;rw[decide_eq_true (by omega:4<=l.length),ae0];show decide (bs (ry (pg 0 (l.take (l.length-4))))=bs (l.drop (l.length-4)))=_;by_cases hh:ry (pg 0 (l.take (l.length-4)))=l.drop (l.length-4)
   ·rw[decide_eq_true (yr.2 hh),hh,beq_self_eq_true]
   ·rw[decide_eq_false (λh=>hh (yr.1 h))]
    symm;simp[hh]
  rw[e2];exact hK w h
 ·have e2:pI l=false:=by unfold pI;rw[decide_eq_false (by omega: ¬4<=l.length)];rfl
  rw[<-e2];exact hK w h
def E'{r:Nat}{l:List UInt8}{n:Nat}{K:VK}(h:St W w L)(hk:L[k]?=some (zu r (bs l) false))(h1:1<=n)(h8:n<=8)(hn:n<=l.length)
 (hK:∀w',St W w' (L.set k (zu r (bs (l.drop n)) false))->K (.i (jT (l.take n))) w'):ao (some ⟨r,0,none⟩) n K w:=by
 refine xy h hk ?_;have em:min2 (max2 (n:Int) 1) 8=n:=by unfold min2 max2;split<;>split<;>omega
 rw[em];have et:oq (bs l) false n=false:=by unfold oq;rw[bI,decide_eq_false (by omega)];rfl
 unfold zv tX;rw[et,adY,kW,kV];exact hK
def I0{r:Nat}{l:List UInt8}{n:Nat}{K:VK}(h:St W w L)(hk:L[k]?=some (zu r (bs l) false))(hn:n<=l.length)
 (hK:∀w',St W w' (L.set k (zu r (bs (l.drop n)) false))->K (.string (bs (l.take n))) w'):cF (some ⟨r,0,none⟩) n K w:=by
 refine B2 h hk ?_;have et:oq (bs l) false n=false:=by unfold oq;rw[bI,decide_eq_false (by omega)];rfl
 unfold zv tX;rw[et,adY,kW,kV];exact hK
end
def ki{l:List UInt8}(h:l.length<=7):jT l=(kd l:Int):=by
 have h1:=oU l;have h2:256^l.length<=256^7:=aeP (by decide) h;have h3:(256:Nat)^7=72057594037927936:=rfl;unfold jT;rw[ar (by omega)]
def sN(l:List UInt8):Int:=jT (l.take 8)
def sI(l:List UInt8):Int:=jT ((l.drop 8).take 2)
def sM(l:List UInt8):Nat:=kd (((l.drop 8).drop 2).take 2)
def ji(l:List UInt8):List UInt8:=((l.drop 8).drop 2).drop 2
def sD(l:List UInt8):List UInt8:=(ji l).take (sM l)
def sZ(l:List UInt8):List UInt8:=((ji l).drop (sM l)).take (104-sM l)
def yL(l:List UInt8):Int:=jT (((((ji l).drop (sM l)).drop (104-sM l)).drop 4).take 8)
def iJ(l:List UInt8):Option (Int×Int×BA):=
 if ¬l.length=128 then none
 else if pI (l.take 120)=false then none
 else if 104<sM l then none
 else if ¬yL l=sN l then none
 else if ¬sZ l=aec (sZ l).length 0 then none
 else if ¬Good (sN l) (sI l) (bs (sD l)) then none
 else some (sN l,sI l,bs (sD l))
def pR:Option (Int×Int×BA)->Value
 |none=>.tuple ⟨[.agg ⟨[.i 0,.i 0,.string .empty]⟩,.bool false]⟩
 |some (n,i,d)=>.tuple ⟨[.agg ⟨[.i n,.i i,.string d]⟩,.bool true]⟩
section
variable {W w:World} {L:LH}
def yz{l:List UInt8}{K:VK}(h:St W w L)(hl:l.length<1099511627776)(hK:∀w',St W w' L->K (pR (iJ l)) w'):iC (bs l) K w:=by
 unfold iJ at hK;unfold iC;refine fE h λr1 w hs=>?_;rw[bI];have Td:(∀w',St W w' L->K (pR none) w')->∀w,St W w (pt r1 [.i 0,.i 0,.string .empty]::L)->iC.j1 K r1 (bs l) true w:=λhK w hs=>by
  unfold iC.j1;simp only[nz,adV,adW];refine fX (k:=0) hs rfl (ad3 rfl) (by simp[Value.oneCell']) λw hs=>?_;rw[eS (by simp)] at hs;refine gg (k:=0) (xs:=[.i 0,.i 0,.string .empty]) hs rfl rfl (λj v hj=>by rw[ad1];exact hj) ?_;exact hK w hs.drop
 refine qD (λgU=>?_) (λhe=>?_)
 ·rw[if_pos (by omega)] at hK;exact Td hK w hs
 have yk:l.length=128:=by omega
 rw[if_neg (by omega)] at hK;unfold iX;dsimp only;refine⟨⟨by omega,by rw[bI];omega⟩,?_⟩;rw[show(120:Int).toNat=120 from rfl,kW];refine I5 hs (by rw[ad2];omega) λw hs=>?_;simp only[nz,adV,adW];cases hh:pI (l.take 120) with
 |false=>
  rw[if_pos hh] at hK;exact Td hK w hs
 |true=>
 rw[if_neg (by rw[hh];exact afr)] at hK;unfold iC.j1;simp only[nz,adV,adW];refine oD hs λq w hs=>?_;simp only[nz,adV,adW];refine E' (k:=0) (n:=8) hs rfl (by decide) (by decide) (by omega) λw hs=>?_;simp only[nz,adV,adW] at hs⊢;have l8:(l.drop 8).length=120:=by rw[ad9];omega
 refine E' (k:=0) (n:=2) hs rfl (by decide) (by decide) (by omega) λw hs=>?_;simp only[nz,adV,adW] at hs⊢;have l10:((l.drop 8).drop 2).length=118:=by rw[ad9];omega
 refine fE hs λr2 w hs=>?_;refine⟨by simp,?_⟩;refine fX (k:=0) hs rfl (ad3 rfl) (by simp[Value.oneCell']) λw hs=>?_;rw[eS (by simp)] at hs;simp only[nz,adV,adW] at hs;refine E' (k:=1) (n:=2) hs rfl (by decide) (by decide) (by omega) λw hs=>?_;simp only[nz,adV,adW] at hs⊢;have em:jT (((l.drop 8).drop 2).take 2)=(sM l:Int):=ki (by rw[ad2];omega);have en:jT (l.take 8)=sN l:=rfl;have ei:jT ((l.drop 8).take 2)=sI l:=rfl;have er:((l.drop 8).drop 2).drop 2=ji l:=rfl;have lr:(ji l).length=116:=by unfold ji;rw[ad9];omega
 rw[em];rw[en,ei,er] at hs;have Kb:(∀w',St W w' L->K (pR none) w')->∀w A B,St W w (A::B::pt r1 [.i 0,.i 0,.string .empty]::L)->a8 True (a8 True (gp ⟨r1,0,none⟩ [.i 0,.i 0,.string .empty] (ai ⟨r1,0,none⟩ 3 λcs=>K (.tuple ⟨[.agg ⟨cs⟩,.bool false]⟩)))) w:=λhK w A B hs=>by
  refine⟨trivial,trivial,?_⟩;refine fX (k:=2) hs rfl (ad3 rfl) (by simp[Value.oneCell']) λw hs=>?_;rw[eS (by simp)] at hs;refine gg (k:=2) (xs:=[.i 0,.i 0,.string .empty]) hs rfl rfl (λj v hj=>by rw[ad1];exact hj) ?_;exact hK w hs.drop.drop.drop
 refine pB (λJ6=>?_) (λhle=>?_)
 ·have J6:=of_decide_eq_true J6;rw[if_pos (by omega)] at hK;exact Kb hK w _ _ hs
 have hle:=of_decide_eq_false hle;rw[if_neg (by omega)] at hK;refine I0 (k:=1) (n:=sM l) hs rfl (by omega) λw hs=>?_;simp only[nz,adV,adW] at hs⊢;have ed:(ji l).take (sM l)=sD l:=rfl;rw[ed];refine kP (k:=0) hs rfl (ad3 rfl) rfl λw hs=>?_;simp only[nz,adV,adW] at hs;have ew:adU.wrap (104-(sM l:Int))=((104-sM l:Nat):Int):=by rw[ar (by omega)];omega
 rw[ew];have lrm:((ji l).drop (sM l)).length=116-sM l:=by rw[ad9,lr]
 refine I0 (k:=1) (n:=104-sM l) hs rfl (by omega) λw hs=>?_;simp only[nz,adV,adW] at hs⊢;have ez:((ji l).drop (sM l)).take (104-sM l)=sZ l:=rfl;rw[ez];have lrz:(((ji l).drop (sM l)).drop (104-sM l)).length=12:=by rw[ad9,lrm];omega
 refine I0 (k:=1) (n:=4) hs rfl (by omega) λw hs=>?_;simp only[nz,adV,adW] at hs⊢;have lrc:((((ji l).drop (sM l)).drop (104-sM l)).drop 4).length=8:=by rw[ad9,lrz]
 refine iP hs λw hs=>?_;refine bn (k:=0) hs rfl rfl ?_;simp only[nz,adV,adW];refine E' (k:=1) (n:=8) hs rfl (by decide) (by decide) (by omega) λw hs=>?_;simp only[nz,adV,adW] at hs⊢;refine gB (k:=0) hs rfl rfl ?_;have et:jT (((((ji l).drop (sM l)).drop (104-sM l)).drop 4).take 8)=yL l:=rfl;rw[et];refine qD (λgU=>?_) (λheq=>?_)
 ·rw[if_pos gU] at hK;exact Kb hK w _ _ hs
 rw[if_neg (λhh=>hh heq)] at hK;refine Ma hs (by unfold sZ;rw[ad2];omega) λs5 w hr hs=>?_;simp only[nz,adV,adW];refine gB (k:=0) hs rfl rfl ?_;have aaS:(⟨#[]⟩:BA)=.empty:=rfl;rw[pX,aaS];by_cases hz:sZ l=aec (sZ l).length 0
 ·rw[if_neg (λhh=>hh hz)] at hK;rw[decide_eq_true (hr.2 hz)];simp only[nz,adV,adW];refine gg (k:=0) (xs:=[.i (sN l),.i (sI l),.string (bs (sD l))]) hs rfl rfl (λj v hj=>by rw[ad1];exact hj) ?_;refine DC hs λw hs=>?_;simp only[nz,adV,adW];refine gB (k:=0) hs rfl rfl ?_;by_cases hg:Good (sN l) (sI l) (bs (sD l))
  ·rw[if_neg (λhh=>hh hg)] at hK;rw[decide_eq_true hg];simp only[nz,adV,adW];refine gg (k:=0) (xs:=[.i (sN l),.i (sI l),.string (bs (sD l))]) hs rfl rfl (λj v hj=>by rw[ad1];exact hj) ?_;refine⟨rfl,?_⟩;refine fX (k:=2) hs rfl (ad3 rfl) (by simp[Value.oneCell']) λw hs=>?_;rw[eS (by simp)] at hs;simp only[nz,adV,adW] at hs;refine gg (k:=2) (xs:=[.i (sN l),.i (sI l),.string (bs (sD l))]) hs rfl rfl (λj v hj=>by rw[ad1];exact hj) ?_;exact hK w hs.drop.drop.drop
  ·rw[if_pos hg] at hK;rw[decide_eq_false hg];simp only[nz,adV,adW];exact(Kb hK w _ _ hs).2.2
 ·rw[if_pos hz] at hK;rw[decide_eq_false (λhh=>hz (hr.1 hh))];simp only[nz,adV,adW];exact(Kb hK w _ _ hs).2.2
end
def jx(D:aw)(at' number:Int)(size:Nat):Nat->Nat->Option (List UInt8)
 |_,0=>some []
 |i,n+1=>match iJ (D.read (at'+i)).1.data.toList with
  |none=>none
  |some (m,j,d)=>if m=number/\j=i/\d.size=min (size-104* i) 104 then(jx D at' number size (i+1) n).map (d.data.toList++·) else none
def take(D:aw)(at' to number size:Int):Option (List UInt8):=
 if at'<0\/(D.safe.length:Int)<to\/to<at'\/size<0\/425984<size\/to-at'<(dQ size.toNat:Int) then none else jx D at' number size.toNat 0 (dQ size.toNat)
def oX:Option (List UInt8)->Value
 |none=>.tuple ⟨[.string .empty,.bool false]⟩
 |some l=>.tuple ⟨[.string (bs l),.bool true]⟩
def kZ(D:aw)(at' number:Int)(size i n:Nat):jx D at' number size i (n+1)=match iJ (D.read (at'+i)).1.data.toList with
 |none=>none
 |some (m,j,d)=>if m=number/\j=i/\d.size=min (size-104* i) 104 then(jx D at' number size (i+1) n).map (d.data.toList++·) else none:=rfl
def Lj{B b:Nat}{l:List UInt8}{w w':World}(h:SM B b l w)(hb:Below w.heap.size w w'):SM B b l w':=by
 have key:∀p,Go.Lib.BuilderAt Sp TG B b p (Go.Lib.byteCells l) w->Go.Lib.BuilderAt Sp TG B b p (Go.Lib.byteCells l) w':=by
  intro p h;have aZ:=h.lt;obtain⟨hB,v,y5,XK,gU⟩:=h;refine⟨hB,v,by rw[hb.block b aZ];exact y5,?_,gU⟩;refine⟨XK.1,?_⟩;rcases XK.2 with h0|⟨g,cap,cur,h1,h2,h3,h4⟩
  ·exact .inl h0
  ·refine .inr ⟨g,cap,cur,h1,h2,?_,h4⟩;have hg:g<w.heap.size:=(Array.getElem?_eq_some_iff.1 h3).1;rw[hb.block g hg];exact h3
 rcases h with h|h
 ·exact .inl (key _ h)
 ·exact .inr (key _ h)
def Q1{w:World}:SM w.heap.size w.heap.size [] (w.alloc (.cells ⟨[.p none,.l none 0 0]⟩ Sp)):=by
 refine .inl ⟨ad4 _,.l none 0 0,?_,?_,by intro h;cases h⟩
 ·show(w.heap.push _)[w.heap.size]?=_;rw[Array.getElem?_push_size]
 ·exact⟨rfl,.inl ⟨rfl,rfl⟩⟩
section
variable {W w:World} {L:LH} {k d:Nat} {D:aw}
def E2{at' number:Int}{size:Nat}{b:Bool}{K:VK}(h:St W w L)(hk:L[k]?=some (dK d D))(eO:D.Ok)(yj:b=false->0<=at'/\at'+(dQ size:Int)<=D.safe.length)(ou:size<=425984)
 (hK:∀w',St W w' L->K (oX (if b then none else jx D at' number size 0 (dQ size))) w'):fk.j1 K size (some ⟨d,0,none⟩) at' number b w:=by
 have rX:=eO.lu;unfold fk.j1;refine pB (λhb=>?_) (λhb=>?_)
 ·rw[if_pos hb] at hK;exact hK w h
 rw[if_neg (by rw[hb];exact afr)] at hK;obtain⟨h0,Pz⟩:=yj hb;generalize Mm:w=w0 at *;show Xm Sp [.p none,.l none 0 0] _ w0;unfold Xm;have hB0:=Q1 (w:=w0);have Ta:Below w0.heap.size w0 (w0.alloc (.cells ⟨[.p none,.l none 0 0]⟩ Sp)):=Below.alloc (Below.refl _ _) (ad4 _) _;generalize Uo:w0.alloc (.cells ⟨[.p none,.l none 0 0]⟩ Sp)=w1 at *;generalize hq:w0.heap.size=q at *;refine nw (by omega) ?_;simp only[nz,adV,adW];refine⟨λus w'=>∃(j:Nat)(l:List UInt8),us=[.string .empty,.bool false,.p (some ⟨q,0,none⟩),.i (dQ size),.i j]/\j<=dQ size/\l.length<=104* j/\SM q q l w'/\Below q w0 w'/\q<=w'.heap.size/\
    jx D at' number size 0 (dQ size)=(jx D at' number size j (dQ size-j)).map (l++·),
  λus _=>match us with|[_,_,_,_,.int _ j]=>dQ size-j.toNat|_=>0,⟨0,[],rfl,ad6 _,ad4 _,hB0,Ta,?_,?_⟩,?_⟩
 ·have:=Ta.size;omega
 ·cases jx D at' number size 0 (dQ size)<;>simp
 rintro s1 b2 a1 n6 n7 w2 ⟨j,l,he,hj,Dt,hB,UZ,ZW,oJ⟩;cases he
 have hs:St W w2 L:=h.pC (by rw[hq];exact UZ);have PK:dQ size<=4096:=by unfold dQ;split<;>omega
 refine dc (λaZ=>?_) (λgF=>?_)
 ·have ea:adU.wrap (at'+(j:Int))=at'+j:=ar (by omega);rw[ea];refine om hs hk eO ?_;simp only[nz,adV,adW];have adD:=uH eO (i:=at'+j) ⟨by omega,by omega⟩;obtain⟨p,hp⟩:∃p,dQ size-j=p+1:=⟨dQ size-j-1,by omega⟩;rw[hp,kZ] at oJ;generalize hx:(D.read (at'+(j:Int))).1=x at *;rw[show x=bs x.data.toList from rfl];refine yz (St.start w2) (by rw[cy];omega) λw3 qU=>?_;have U1:=qU.below;have Oc:Below q w0 w3:=UZ.trans (U1.mono ZW);have cV:St W w3 L:=h.pC (by rw[hq];exact Oc);have no:jx D at' number size 0 (dQ size)=none->∀w',Below q w0 w'->K (.tuple ⟨[.string .empty,.bool false]⟩) w':=λhn w' hb=>by
   have:=hK w' (h.pC (by rw[hq];exact hb));rw[hn] at this;exact this
  cases hv:iJ x.data.toList with
  |none=>
   rw[hv] at oJ;unfold pR;simp only[nz,adV,adW];simp only[tj,aee,aes,ad1,adV,true_and];simp only[nz,adV,adW];refine fE (St.start w3) λr w4 tG=>?_;refine⟨trivial,fX (k:=0) tG rfl (ad3 rfl) (by simp[Value.oneCell']) λw4 tG=>?_⟩;exact no (by rw[oJ];rfl) w4 (Oc.trans (tG.below.mono (by have:=U1.size;omega)))
  |some y=>
   obtain⟨m,i,dd⟩:=y;rw[hv] at oJ;dsimp only at oJ;unfold pR;simp only[nz,adV,adW];simp only[tj,aee,aes,ad1,adV,true_and];simp only[nz,adV,adW];refine fE (St.start w3) λr w4 tG=>?_;refine⟨trivial,fX (k:=0) tG rfl (ad3 rfl) (by simp[Value.oneCell']) λw4 tG=>?_⟩;rw[eS (by simp)] at tG;simp only[nz,adV,adW] at tG;have Dy:Below q w0 w4:=Oc.trans (tG.below.mono (by have:=U1.size;omega));refine bn (k:=0) tG rfl rfl ?_;simp only[nz,adV,adW];refine qD (λgU=>?_) (λhmn=>?_)
   ·exact no (by rw[oJ,if_neg (λhh=>gU hh.1)];rfl) w4 Dy
   refine bn (k:=0) tG rfl rfl ?_;simp only[nz,adV,adW];refine qD (λgU=>?_) (λHB=>?_)
   ·exact no (by rw[oJ,if_neg (λhh=>gU hh.2.1)];rfl) w4 Dy
   refine bn (k:=0) tG rfl rfl ?_;simp only[nz,adV,adW];have e1:adU.wrap ((j:Int)* 104)=(j:Int)* 104:=ar (by omega);have e2:adU.wrap ((size:Int) -(j:Int)* 104)=(size:Int) -(j:Int)* 104:=ar (by omega);have Ra:104* j<=size:=by
    rcases Nat.eq_zero_or_pos j with h0|h0
    ·omega
    ·have:=(IL (n:=size) h0).2 (by omega);omega
   have e3:min2 ((size:Int) -(j:Int)* 104) 104=((min (size-104* j) 104:Nat):Int):=by unfold min2;split<;>omega
   rw[e1,e2,e3];refine qD (λgU=>?_) (λhds=>?_)
   ·exact no (by rw[oJ,if_neg (λhh=>gU (by rw[hh.2.2]))];rfl) w4 Dy
   have aaT:dd.size=min (size-104* j) 104:=by omega
   refine bn (k:=0) tG rfl rfl ?_;simp only[nz,adV,adW];rw[if_pos ⟨hmn,HB,aaT⟩] at oJ;have hB4:SM q q l w4:=Lj hB (U1.trans (tG.below.mono U1.size));refine⟨q,q,l,rfl,hB4,by omega,(by have:=Dy.size;omega),λw5 hB5 S9=>?_⟩;simp only[nz,adV,adW];have e5:=mh j;rw[e5];have Ey:dQ size-(j+1)=p:=by omega
   refine⟨⟨j+1,_,rfl,by omega,?_,hB5,Dy.trans S9,?_,?_⟩,by omega⟩
   ·rw[ad0,cy];omega
   ·have:=S9.size;have:=Dy.size;omega
   ·rw[oJ,Ey];cases jx D at' number size (j+1) p<;>simp[ad5]
 ·have hje:j=dQ size:=by omega
  refine⟨q,q,l,rfl,hB,ZW,λw' hb=>?_⟩;simp only[nz,adV,adW];have:=hK w' (h.pC (by rw[hq];exact UZ.trans hb));rw[oJ,hje,afj] at this;simp only[jx,aeK,aei,oX] at this;exact this
def DS{at' to number size:Int}{K:VK}(h:St W w L)(hk:L[k]?=some (dK d D))(eO:D.Ok)(hK:∀w',St W w' L->K (oX (take D at' to number size)) w'):fk (some ⟨d,0,none⟩) at' to number size K w:=by
 have rX:=eO.lu;have bad:(at'<0\/(D.safe.length:Int)<to\/to<at'\/size<0\/425984<size\/to-at'<(dQ size.toNat:Int))->fk.j1 K size (some ⟨d,0,none⟩) at' number true w:=λhb=>by
  unfold fk.j1;rw[gW];have:=hK w h;unfold take at this;rw[if_pos hb] at this;exact this
 unfold fk;refine dc (λh1=>bad (.inl h1)) (λh1=>?_);refine ka h hk ?_;simp only[nz,adV,adW];refine dc (λh2=>bad (.inr (.inl h2))) (λh2=>?_);refine dc (λh3=>bad (.inr (.inr (.inl h3)))) (λh3=>?_);refine dc (λh4=>bad (.inr (.inr (.inr (.inl h4))))) (λh4=>?_);refine pB (λh5=>bad (.inr (.inr (.inr (.inr (.inl (of_decide_eq_true h5))))))) (λh5=>?_);have h5:=of_decide_eq_false h5;obtain⟨m,rfl⟩:=ad8 (show 0<=size by omega);refine nw (by omega) ?_;simp only[nz,adV,adW];have ew:adU.wrap (to-at')=to-at':=ar (by omega);rw[ew];refine E2 h hk eO (λhb=>?_) (by omega) λw' hs=>?_
 ·have:=of_decide_eq_false hb;omega
 ·have:=hK w' hs;unfold take at this;rw[adY] at this;by_cases h6:to-at'<(dQ m:Int)
  ·rw[if_pos (by omega)] at this;have e:decide ((dQ m:Int)>to-at')=true:=decide_eq_true (by omega);rw[e,if_pos rfl];exact this
  ·rw[if_neg (by omega)] at this;have e:decide ((dQ m:Int)>to-at')=false:=decide_eq_false (by omega);rw[e,if_neg afr];exact this
end
def JQ{at' number:Int}{s:BA}(mr:1<=number/\number<=1152921504606846976)(yj:0<=at'):∀(n i:Nat) {D:aw},D.arm=0->at'+i+n<=D.safe.length->i+n<=4096->
 (lG at' number s D i n).2=0/\(lG at' number s D i n).1.arm=0/\(lG at' number s D i n).1.safe=D.safe/\(lG at' number s D i n).1.later.length=D.later.length+n/\
 ∀j:Int,(j<at'+i\/at'+i+n<=j)->(lG at' number s D i n).1.now j=D.now j
 |0,i,D,ha,hr,hi=>⟨rfl,ha,rfl,rfl,λ_ _=>rfl⟩
 |n+1,i,D,ha,hr,hi=>by
  have hg:Good number i (part s i):=⟨mr.1,mr.2,by omega,by omega,jD s i⟩;have ou:=qc hg;have hi:D.is (at'+i):=⟨by omega,by omega⟩;have u2: ¬(¬D.is (at'+i)\/128<(leaf number i (part s i)).size):=by
   rintro(hh|hh)
   ·exact hh hi
   ·omega
  have hw:D.write (at'+i) (leaf number i (part s i))=({Go.bA.aw.tick D with later:=D.later++[(at'+i,aw.pad (leaf number i (part s i)))]},0):=by
   rw[Dk.DW ha,if_neg u2]
  have hn:=λj=>Dk.Bb ha (at'+i) j (leaf number i (part s i));unfold lG;have h0:(D.write (at'+i) (leaf number i (part s i))).2=0:=by rw[hw]
  rw[if_neg (by rw[h0];exact λhh=>hh rfl)];have hlen:(D.write (at'+i) (leaf number i (part s i))).1.later.length=D.later.length+1:=by rw[hw];simp
  have pr:=(oz D (at'+i) (leaf number i (part s i))).1;have Rh:=Dk.Ap ha (at'+i) (leaf number i (part s i));have ih:=JQ mr yj (s:=s) n (i+1) (D:=(D.write (at'+i) (leaf number i (part s i))).1) Rh (by rw[pr];omega) (by omega);refine⟨ih.1,ih.2.1,ih.2.2.1.trans pr,by rw[ih.2.2.2.1,hlen];omega,λj hj=>?_⟩;rw[ih.2.2.2.2 j (by omega),hn j,if_neg (λhh=>by have:=hh.2;omega)]
section
variable {W w:World} {L:LH}
end
def IT(m i:Nat)(hi:i<8):(byteOf .i64 (m:Int) i).toNat=m/256^i%256:=by
 have hp:(256:Nat)^i=2^(8* i):=by rw[show(256:Nat)=2^8 from rfl,<-Nat.pow_mul]
 have e1:shr .i64 (m:Int) (8* (i:Int))=((m/256^i:Nat):Int):=by
  unfold shr;have h1:(8* (i:Int)).toNat=8* i:=by omega
  have h2:min (8* i) adU.bits=8* i:=by show min (8* i) 64=_;omega
  rw[h1,h2,hp,Int.fdiv_eq_ediv_of_nonneg _ (Int.le_of_lt (Int.pow_pos (by decide)))]
  push_cast
  rfl
 have e2:IntKind.u8.wrap ((m/256^i:Nat):Int)=((m/256^i%256:Nat):Int):=by
  generalize m/256^i=z;simp[IntKind.wrap,IntKind.bits,IntKind.signed]
 unfold byteOf;rw[e1,e2,adY,UInt8.toNat_ofNat_of_lt' (Nat.mod_lt _ (by decide))]
def le_succ(k:IntKind)(w:Nat)(n:Int):le k (w+1) n=le k w n++[byteOf k n w]:=by
 unfold le;rw[List.range_succ,aeu];rfl
def nI(m:Nat):∀w,w<=8->kd (le .i64 w (m:Int))=m%256^w
 |0,_=>by simp[le,kd,Nat.mod_one]
 |w+1,h=>by
  rw[le_succ,pa,nI m w (by omega),IT m w (by omega),ay,Nat.mod_pow_succ,afv]
def lE{n:Int}(h:0<=n/\n<=1152921504606846976):jT (le .i64 8 n)=n:=by
 obtain⟨m,rfl⟩:=ad8 h.1;unfold jT;rw[nI m 8 (by omega)];have h8:(256:Nat)^8=18446744073709551616:=rfl;rw[h8,aeH (by omega),ar (by omega)]
def Fs{m:Nat}(h:m<65536):kd (le .i64 2 (m:Int))=m:=by
 rw[nI m 2 (by omega)];exact aeH h
def lg{n i:Int}{s:BA}(h:Good n i s):iJ (iY n i s)=some (n,i,s):=by
 obtain⟨h1,h2,h3,h4,h5⟩:=h;have hl:(iY n i s).length=128:=sP h5;have Mq:(pre n i s).length=116:=nh h5;have hd:s.data.toList.length=s.size:=rfl;have hc:(ry (pg 0 (pre n i s))).length=4:=ay _ _ _;have sW:iY n i s=le .i64 8 n++(le .i64 2 i++(le .i64 2 s.size++(s.data.toList++(aec (104-s.size) 0++(ry (pg 0 (pre n i s))++le .i64 8 n))))):=by
  simp only[iY,pre,ad5]
 have t120:(iY n i s).take 120=pre n i s++ry (pg 0 (pre n i s)):=by
  unfold iY;rw[List.take_append_of_le_length (by rw[ad0,Mq,hc];omega),aef (by rw[ad0,Mq,hc];omega)]
 have hh:pI ((iY n i s).take 120)=true:=by
  rw[t120];unfold pI;have hlen:(pre n i s++ry (pg 0 (pre n i s))).length=120:=by rw[ad0,Mq,hc]
  rw[hlen,show 120-4=(pre n i s).length from by rw[Mq],List.take_left,List.drop_left,beq_self_eq_true]
  rfl
 have tl:∀(a b:List UInt8)(m:Nat),a.length=m->(a++b).take m=a:=λa b m hm=>by subst hm;exact List.take_left
 have dl:∀(a b:List UInt8)(m:Nat),a.length=m->(a++b).drop m=b:=λa b m hm=>by subst hm;exact List.drop_left
 have d8:(iY n i s).drop 8=le .i64 2 i++(le .i64 2 s.size++(s.data.toList++(aec (104-s.size) 0++(ry (pg 0 (pre n i s))++le .i64 8 n)))):=by rw[sW,dl _ _ _ (ay _ _ _)]
 have d10:((iY n i s).drop 8).drop 2=le .i64 2 s.size++(s.data.toList++(aec (104-s.size) 0++(ry (pg 0 (pre n i s))++le .i64 8 n))):=by rw[d8,dl _ _ _ (ay _ _ _)]
 have hr:ji (iY n i s)=s.data.toList++(aec (104-s.size) 0++(ry (pg 0 (pre n i s))++le .i64 8 n)):=by unfold ji;rw[d10,dl _ _ _ (ay _ _ _)]
 have eN:sN (iY n i s)=n:=by unfold sN;rw[sW,tl _ _ _ (ay _ _ _),lE ⟨by omega,h2⟩]
 have eI:sI (iY n i s)=i:=by
  unfold sI;rw[d8,tl _ _ _ (ay _ _ _),ki (by rw[ay];omega)];obtain⟨m,rfl⟩:=ad8 h3;rw[Fs (by omega)]
 have eM:sM (iY n i s)=s.size:=by
  unfold sM;rw[d10,tl _ _ _ (ay _ _ _),Fs (by omega)]
 have eD:sD (iY n i s)=s.data.toList:=by unfold sD;rw[eM,hr,tl _ _ _ hd]
 have dr:(ji (iY n i s)).drop s.size=aec (104-s.size) 0++(ry (pg 0 (pre n i s))++le .i64 8 n):=by rw[hr,dl _ _ _ hd]
 have eZ:sZ (iY n i s)=aec (104-s.size) 0:=by unfold sZ;rw[eM,dr,tl _ _ _ (by simp)]
 have eT:yL (iY n i s)=n:=by
  unfold yL;rw[eM,dr,dl _ _ _ (by simp),dl _ _ _ hc,aef (by rw[ay];omega),lE ⟨by omega,h2⟩]
 have hg:Good (sN (iY n i s)) (sI (iY n i s)) (bs (sD (iY n i s))):=by
  rw[eN,eI,eD,Kg];exact⟨h1,h2,h3,h4,h5⟩
 unfold iJ;rw[if_neg (λhx=>hx hl),if_neg (by rw[hh];exact afr),if_neg (by rw[eM];omega),if_neg (λhx=>hx (by rw[eT,eN])),if_neg (λhx=>hx (by rw[eZ];simp)),if_neg (λhx=>hx hg),eN,eI,eD,Kg]
def tW:iJ (jI 128).data.toList=none:=by decide+kernel
def JI{s:BA}(h:s.size=128):aw.pad s=s:=by
 unfold aw.pad;rw[h];apply gO;rw[ByteArray.data_append,Array.toList_append];simp[jI]
def JP{at' number:Int}{s:BA}(mr:1<=number/\number<=1152921504606846976)(yj:0<=at'):∀(n i:Nat) {D:aw},D.arm=0->at'+i+n<=D.safe.length->i+n<=4096->
 ∀q,i<=q->q<i+n->(lG at' number s D i n).1.now (at'+q)=leaf number q (part s q)
 |0,i,D,ha,hr,hi,q,h1,h2=>by omega
 |n+1,i,D,ha,hr,hi,q,h1,h2=>by
  have hg:Good number i (part s i):=⟨mr.1,mr.2,by omega,by omega,jD s i⟩;have ou:=qc hg;have qJ:D.is (at'+i):=⟨by omega,by omega⟩;have u2: ¬(¬D.is (at'+i)\/128<(leaf number i (part s i)).size):=by
   rintro(hh|hh)
   ·exact hh qJ
   ·omega
  have hw:D.write (at'+i) (leaf number i (part s i))=({Go.bA.aw.tick D with later:=D.later++[(at'+i,aw.pad (leaf number i (part s i)))]},0):=by
   rw[Dk.DW ha,if_neg u2]
  have h0:(D.write (at'+i) (leaf number i (part s i))).2=0:=by rw[hw]
  have pr:=(oz D (at'+i) (leaf number i (part s i))).1;have Rh:=Dk.Ap ha (at'+i) (leaf number i (part s i));unfold lG;rw[if_neg (by rw[h0];exact λhh=>hh rfl)];by_cases hq:q=i
  ·subst hq;have:=(JQ mr yj (s:=s) n (q+1) (D:=(D.write (at'+q) (leaf number q (part s q))).1) Rh (by rw[pr];omega) (by omega)).2.2.2.2 (at'+q) (by omega);rw[this,Dk.Bb ha,if_pos ⟨⟨qJ,by omega⟩,rfl⟩,JI ou]
  ·exact JP mr yj (s:=s) n (i+1) Rh (by rw[pr];omega) (by omega) q (by omega) (by omega)
def xE{D:aw}{at' number:Int}{size:Nat}{s:BA}:∀(n i:Nat),(∀q,i<=q->q<i+n->iJ (D.read (at'+q)).1.data.toList=some (number,(q:Int),part s q)/\(part s q).size=min (size-104* q) 104)->
 jx D at' number size i n=some ((s.data.toList.drop (104* i)).take (104* n))
 |0,i,_=>by simp[jx]
 |n+1,i,h=>by
  obtain⟨h1,h2⟩:=h i (ad4 _) (by omega);rw[kZ,h1];dsimp only;rw[if_pos ⟨rfl,rfl,h2⟩,xE n (i+1) (λq hq Q3=>h q (by omega) (by omega))];have e:(part s i).data.toList=(s.data.toList.drop (104* i)).take 104:=by
   unfold part;rw[extract_toList];congr 1;omega
  rw[e,aeK]
  congr 1
  rw[show 104* (n+1)=104+104* n from by omega,List.take_add,ae8,show 104* i+104=104* (i+1) from by omega]
section
variable {W w:World} {L:LH}
end
section
variable {W w:World} {L:LH}
end
end Go.Sep
namespace Go.Up
open Go.Sep Go.Den Go.RowKit Go.Prog Go.Md
def xi{α:Type}{f:α->LV}{e:Nat}(hf:∀x,(f x).length=e):∀l:List α,(l.flatMap f).length=l.length* e
 |[]=>by simp
 |x::l=>by rw[aeN,ad0,hf,xi hf l,aee,afl];omega
def nU{α:Type}{f:α->LV}{e:Nat}(hf:∀x,(f x).length=e):∀(l:List α)(i:Nat)(x:α),l[i]?=some x->∀j v,(f x)[j]?=some v->(l.flatMap f)[i* e+j]?=some v
 |[],i,x,h,j,v,hj=>by simp at h
 |y::l,0,x,h,j,v,hj=>by
  simp at h;subst h;rw[aeN,Nat.zero_mul,ad1,ael (adZ.1 hj).1];exact hj
 |y::l,i+1,x,h,j,v,hj=>by
  rw[aeN,aey (by rw[hf,afl];omega),hf,show(i+1)* e+j-e=i* e+j by rw[afl];omega];exact nU hf l i x (by simpa using h) j v hj
def BB{α:Type}{f:α->LV}{e:Nat}(hf:∀x,(f x).length=e):∀(l:List α)(i:Nat)(x:α),i<l.length->over (l.flatMap f) (i* e) (f x)=(l.set i x).flatMap f
 |[],i,x,h=>by simp at h
 |y::l,0,x,h=>by
  unfold over;rw[aeN,Nat.zero_mul,afm,aeA,hf,ad1,List.drop_left' (hf y)];rfl
 |y::l,i+1,x,h=>by
  have ih:=BB hf l i x (by simpa using h);unfold over at ih⊢;rw[aeN,afc,aeN,<-ih,hf,show(i+1)* e=(f y).length+i* e by rw[hf,afl];omega,List.take_append,aef (by omega),
   show(f y).length+i* e-(f y).length=i* e by omega,Nat.add_assoc,List.drop_append,aeF (by omega),show(f y).length+(i* e+e) -(f y).length=i* e+e by omega]
  simp
def ud(n:Nat):(nm n).length=2:=rfl
def kC(n:Nat):∀v∈nm n,v.oneCell'=true:=λv h=>by simp[nm] at h;rcases h with rfl|rfl<;>rfl
section
variable {W:World} {L:LH} {K:VK} {a b n:Nat}
def pe{r m e:Nat}{i:Int}{K:Addr->WK}(hi:0<=i/\i<m)(h:T W L (K ⟨r,i.toNat* e,none⟩)):T W L (fP (some ⟨r,0,none⟩) m i e K):=λw hs=>
 ⟨_,rfl,hi,by rw[dZ,ad1];exact h w hs⟩
def WO{α:Type}{r o e:Nat}{l:List α}{x:α}{g:α->LV}{f:LV->LH}{K:LV->WK}[i:Lc (pt r) L (l.flatMap g) f](hf:∀x,(g x).length=e)(hx:l[o]?=some x)(h:T W L (K (g x))):T W L (ai ⟨r,o* e,none⟩ e K):=λw hs=>
 let⟨_,hk,_⟩:=i.at_;gg hs hk (hf x) (nU hf l o x hx) (h w hs)
def yI:Nat->List Nat->Option Nat
 |s,[]=>some s
 |s,x::l=>if s+x<aJ then yI (s+x) l else none
abbrev aaf(o:Option Nat):Value:=.tuple ⟨[.agg ⟨nm (o.getD 0)⟩,.bool o.isSome]⟩
def Tm{r c:Nat}{l:List Nat}{f:LV->LH}(hl:∀x∈l,x<aJ)(hlen:l.length<1000)[i:Lc (pt r) L (l.flatMap nm) f](h:T W L (K (aaf (yI 0 l)))):T W L (tJ (some ⟨r,0,none⟩) l.length c K):=by
 unfold tJ;apply ws;intros;rename_i r1 r2;intro w hs;refine⟨λvs w=>∃i s:Nat,i<=l.length/\s<aJ/\yI 0 l=yI s (l.drop i)/\vs=[.p (some (ad r1 0)),.bool false,.p (some (ad r2 0)),.l (some ⟨r,0,none⟩) l.length c,.i (l.length:Int),.i (i:Int)]/\St W w (pt r2 (nm s)::pt r1 (nm 0)::L),
  λvs _=>match vs with|[_,_,_,_,_,.int _ j]=>l.length-j.toNat|_=>0,⟨0,0,ad6 _,by decide,rfl,rfl,hs⟩,?_⟩
 rintro a1 b1 a2 uG pY uF n1 n2 w2 ⟨i,s,hi,hsM,he,e,hs⟩;cases e
 refine T.at ?_ hs;refine dX (λh1=>?_) (λh1=>?_)
 ·have aZ:i<l.length:=by simpa using h1
  refine pe (by omega) ?_;rw[adY];refine WO ud (adX aZ) ?_;have hx:=hl _ (aej aZ);have hd:l.drop i=l[i]::l.drop (i+1):=aeD aZ;rw[hd] at he;generalize l[i]=x at *;have rK:yI s (x::l.drop (i+1))=if s+x<aJ then yI (s+x) (l.drop (i+1)) else none:=rfl
  rw[rK] at he
  repeat' first|apply ws;intros|apply wb|with_reducible first|refine zo hsM hx ?_|refine bw (λh1=>?_) (λh1=>?_)|fail
  ·have h2: ¬s+x<aJ:=by simpa using h1
   rw[if_neg h2] at he;rw[he] at h;exact T.dp h
  ·have h2:s+x<aJ:=by simpa using h1
   rw[if_pos h2] at he;rw[if_pos h2];have e5:=mh i;rw[e5];refine T.drop λw3 h3=>⟨⟨i+1,s+x,aZ,h2,he,rfl,h3⟩,?_⟩;show l.length-((i+1:Nat):Int).toNat<l.length-(i:Int).toNat;omega
 ·have gF:i=l.length:=by omega
  subst gF;rw[aeF (ad4 _)] at he;rw[he] at h;apply ws;intros;exact T.dp h
end
end Go.Up
namespace Go.Sep
open Go.Den Go.RowKit Go.Prog Go.bA
section
variable {W w:World} {L:LH}
end
def Ft:∀(a b:List UInt8),a.length=b.length->kd a=kd b->a=b
 |[],[],_,_=>rfl
 |[],_::_,h,_=>by simp at h
 |_::_,[],h,_=>by simp at h
 |c::a,d::b,h,hv=>by
  have hc:=c.toNat_lt;have hd:=d.toNat_lt;simp only[kd] at hv;have h1:c.toNat=d.toNat:=by omega
  rw[Ft a b (by simpa using h) (by omega),UInt8.toNat_inj.1 h1]
def H5{l:List UInt8}{n j:Int}{d:BA}(h:iJ l=some (n,j,d)):l.length=128/\sM l<=104/\yL l=sN l/\n=sN l/\j=sI l/\Good (sN l) (sI l) (bs (sD l)):=by
 unfold iJ at h;split at h
 ·cases h
 rename_i h1;split at h
 ·cases h
 split at h
 ·cases h
 rename_i h3;split at h
 ·cases h
 rename_i h4;split at h
 ·cases h
 split at h
 ·cases h
 rename_i h6;cases h
 exact⟨aea.1 h1,by omega,aea.1 h4,rfl,rfl,aea.1 h6⟩
def No{l:List UInt8}(h:sM l<=104)(hl:l.length=128):yL l=jT (l.drop 120):=by
 unfold yL ji;rw[ae8,ae8,ae8,ae8,ae8,aef (by rw[ad9];omega)]
 congr 2
 omega
def Gb{D:aw}:∀j i:Nat,i<j->numOf (yi (D.read (i:Int)).1)<=dy D j/\numOf (xD (D.read (i:Int)).1)<=dy D j
 |0,i,h=>by omega
 |j+1,i,h=>by
  have hm:∀a b:Int,a<=max2 a b/\b<=max2 a b:=λa b=>by unfold max2;split<;>omega
  simp only[dy];have h1:=hm (max2 (dy D j) (numOf (yi (D.read (j:Int)).1))) (numOf (xD (D.read (j:Int)).1));have h2:=hm (dy D j) (numOf (yi (D.read (j:Int)).1));by_cases HB:i=j
  ·subst HB;exact⟨by omega,by omega⟩
  ·have:=Gb (D:=D) j i (by omega);exact⟨by omega,by omega⟩
def Gd(s:BA):0<=numOf s/\numOf s<=1152921504606846976:=by unfold numOf;split<;>omega
def uR(D:aw):∀j,0<=dy D j/\dy D j<=1152921504606846976
 |0=>by simp[dy]
 |j+1=>by
  have h1:=uR D j;have h2:=Gd (yi (D.read (j:Int)).1);have h3:=Gd (xD (D.read (j:Int)).1);simp only[dy];unfold max2;split<;>split<;>omega
def low(w:Int):Int:=bC .i64 .and w 1
def JM(w:Int):low w=(((BitVec.ofInt 64 w).toNat%2:Nat):Int):=by
 have e2:(BitVec.ofInt 64 1).toNat=1:=rfl;show adU.wrap (((BitVec.ofInt 64 w&&&BitVec.ofInt 64 1).toNat:Nat):Int)=_;rw[BitVec.toNat_and,e2,Nat.and_one_is_mod,ar (by omega)]
def sK(w:Int):low w=0\/low w=1:=by rw[JM];omega
def bQ(n:Nat):Nat:=(n-2)* 2/5
def cQ(n:Nat):LV:=[.i 2,.i (2+bQ n:Nat),.i (bQ n:Nat),.i (2+2* bQ n:Nat),.i n]
def cN(n:Nat)(which:Int):Nat:=if low which=0 then 2 else 2+bQ n
def mB{n:Nat}(h:12<=n)(w:Int):2<=cN n w/\cN n w+bQ n<=n/\4<=bQ n:=by
 unfold cN bQ;split<;>omega
def HW{n:Nat}(w v:Int)(h:low w≠low v):cN n w+bQ n<=cN n v\/cN n v+bQ n<=cN n w:=by
 unfold cN;rcases sK w with a|a<;>rcases sK v with b|b<;>rw[a,b] at h⊢<;>simp at h⊢
def put(D:aw)(n:Nat)(which number:Int)(s:BA):aw×Int:=
 if(lay D (cN n which) ((cN n which+bQ n:Nat):Int) number s).2≠0 then lay D (cN n which) ((cN n which+bQ n:Nat):Int) number s
 else(lay D (cN n which) ((cN n which+bQ n:Nat):Int) number s).1.sync
def get(D:aw)(n:Nat)(which number size:Int):Option (List UInt8):=take D (cN n which) ((cN n which+bQ n:Nat):Int) number size
section
variable {W w:World} {L:LH} {k d:Nat} {D:aw}
def R9{n:Nat}{K:VK}(h:St W w L)(km:12<=n)(bN:n<=4096)(hK:∀w',St W w' L->K (.tuple ⟨[.agg ⟨cQ n⟩,.i 0]⟩) w'):pQ n K w:=by
 unfold pQ;refine fE h λr w hs=>?_;have e1:decide ((n:Int)<12)=false:=decide_eq_false (by omega);have e2:decide ((n:Int)>4096)=false:=decide_eq_false (by omega);rw[e1,e2];unfold pQ.j1;have a1:adU.wrap ((n:Int) -2)=((n-2:Nat):Int):=by rw[ar (by omega)];omega
 have a2:adU.wrap (((n-2:Nat):Int)* 2)=(((n-2)* 2:Nat):Int):=by rw[ar (by omega)];omega
 have a3:(((n-2)* 2:Nat):Int).tdiv 5=((bQ n:Nat):Int):=by rw[Int.tdiv_eq_ediv_of_nonneg (by omega)];rfl
 have hp:bQ n<=4096:=by unfold bQ;omega
 have a4:adU.wrap ((bQ n:Nat):Int)=((bQ n:Nat):Int):=ar (by omega);have a5:adU.wrap (2+((bQ n:Nat):Int))=((2+bQ n:Nat):Int):=by rw[ar (by omega)];omega
 have a6:adU.wrap (2* ((bQ n:Nat):Int))=((2* bQ n:Nat):Int):=by rw[ar (by omega)];omega
 have a7:adU.wrap (2+((2* bQ n:Nat):Int))=((2+2* bQ n:Nat):Int):=by rw[ar (by omega)];omega
 rw[a1,a2,a3,a4,a5,a6,a7];simp only[nz,adV,adW];refine⟨by decide,?_⟩;refine fX (k:=0) hs rfl (ad3 rfl) (by simp[Value.oneCell']) λw hs=>?_;rw[eS (by simp)] at hs;refine gg (k:=0) (xs:=cQ n) hs rfl rfl (λj v hj=>by rw[ad1];exact hj) ?_;exact hK w hs.drop
def Al{n:Nat}{which:Int}{K:VK}(h:St W w L)(hK:∀w',St W w' L->K (.i (cN n which:Nat)) w'):k9 (cQ n) which K w:=by
 unfold k9;refine fE h λr w hs=>?_;simp only[nz,adV,adW];refine bn (k:=0) hs rfl rfl ?_;simp only[nz,adV,adW];refine bn (k:=0) hs rfl rfl ?_;simp only[nz,adV,adW];have hl:=sK which;have hh:=hK w hs.drop;unfold cN at hh;show yU _ 2 (low which) _ w;rcases hl with h0|h0
 ·rw[if_pos h0] at hh;rw[h0];refine⟨_,⟨by decide,by decide,rfl⟩,?_⟩;simp only[nz,adV,adW];exact hh
 ·rw[if_neg (by omega)] at hh;rw[h0];refine⟨_,⟨by decide,by decide,rfl⟩,?_⟩;simp only[nz,adV,adW];exact hh
def Pe{n:Nat}{which number:Int}{s:BA}{K:VK}(h:St W w L)(hk:L[k]?=some (dK d D))(eO:D.Ok)(km:12<=n)(bN:n<=4096)(hl:D.later.length+5000<1099511627776)(hs:s.size<=reachBytes)
 (hK:∀w',St W w' (L.set k (dK d (put D n which number s).1))->K (.i (put D n which number s).2) w'):mQ (cQ n) (some ⟨d,0,none⟩) which number s K w:=by
 have Dv:=mB km which;unfold mQ;refine fE h λr w cV=>?_;have ou:=hs;simp only[nz,adV,adW];refine iP cV λw hs=>?_;refine gg (k:=0) (xs:=cQ n) hs rfl rfl (λj v hj=>by rw[ad1];exact hj) ?_;refine gg (k:=0) (xs:=cQ n) hs rfl rfl (λj v hj=>by rw[ad1];exact hj) ?_;refine bn (k:=0) hs rfl rfl ?_;simp only[nz,adV,adW];refine Al hs λw hs=>?_;simp only[nz,adV,adW];refine gB (k:=0) hs rfl rfl ?_;refine JR (k:=0) hs rfl (λj v hj=>by rw[ad1];exact hj) ?_;refine Al hs λw hs=>?_;simp only[nz,adV,adW];refine gB (k:=0) hs rfl rfl ?_;have ew:adU.wrap (((cN n which:Nat):Int)+((bQ n:Nat):Int))=((cN n which+bQ n:Nat):Int):=by rw[ar (by omega)];omega
 rw[ew];have rz:(pt r (cQ n)::L)[k+1]?=some (dK d D):=by rw[aed];exact hk
 refine B3 (k:=k+1) hs rz eO (by omega) ou λw hs=>?_;rw[afc] at hs;simp only[nz,adV,adW];refine gB (k:=0) hs rfl rfl ?_;unfold put at hK;have Ls:(lay D (cN n which) ((cN n which+bQ n:Nat):Int) number s).1.Ok\/(lay D (cN n which) ((cN n which+bQ n:Nat):Int) number s).2≠0:=by
  by_cases hc:dQ s.size<=4097
  ·exact .inl (Es eO (by omega)).1
  ·refine .inr ?_;unfold lay;split
   ·simp
   ·rw[if_pos (by omega)];simp
 refine qD (λgU=>?_) (λh0=>?_)
 ·rw[if_pos gU] at hK;exact hK w hs.drop
 ·rw[if_neg (λhh=>hh h0)] at hK;refine qI (k:=k+1) hs (by rw[aed];exact fZ hk) (Ls.resolve_right (λhh=>hh h0)) λw hs=>?_;rw[afc,afb] at hs;simp only[nz,adV,adW];exact hK w hs.drop
def Pn{n:Nat}{which number size:Int}{K:VK}(h:St W w L)(hk:L[k]?=some (dK d D))(eO:D.Ok)(km:12<=n)(bN:n<=4096)
 (hK:∀w',St W w' L->K (oX (get D n which number size)) w'):mR (cQ n) (some ⟨d,0,none⟩) which number size K w:=by
 have Dv:=mB km which;unfold mR;refine fE h λr w cV=>?_;simp only[nz,adV,adW];refine iP cV λw hs=>?_;refine gg (k:=0) (xs:=cQ n) hs rfl rfl (λj v hj=>by rw[ad1];exact hj) ?_;refine gg (k:=0) (xs:=cQ n) hs rfl rfl (λj v hj=>by rw[ad1];exact hj) ?_;refine bn (k:=0) hs rfl rfl ?_;simp only[nz,adV,adW];refine Al hs λw hs=>?_;simp only[nz,adV,adW];refine gB (k:=0) hs rfl rfl ?_;refine JR (k:=0) hs rfl (λj v hj=>by rw[ad1];exact hj) ?_;refine Al hs λw hs=>?_;simp only[nz,adV,adW];refine gB (k:=0) hs rfl rfl ?_;have ew:adU.wrap (((cN n which:Nat):Int)+((bQ n:Nat):Int))=((cN n which+bQ n:Nat):Int):=by rw[ar (by omega)];omega
 rw[ew];refine DS (k:=k+1) hs (by rw[aed];exact hk) eO λw hs=>?_;unfold get at hK;cases hg:take D (cN n which) ((cN n which+bQ n:Nat):Int) number size with
 |none=>
  rw[hg] at hK;unfold oX at hK⊢;simp only[nz,adV,adW];refine gB (k:=0) hs rfl rfl ?_;exact hK w hs.drop
 |some l=>
  rw[hg] at hK;unfold oX at hK⊢;simp only[nz,adV,adW];refine gB (k:=0) hs rfl rfl ?_;exact hK w hs.drop
end
structure Calm(n:Nat)(D:aw):Prop where
 ok:D.Ok
 arm:D.arm=0
 later:D.later.length<=1000
 len:D.safe.length=n
def BO{n:Nat}(h:n<=4096):Calm n (aw.new n):=by
 refine⟨Ud n,rfl,ad6 _,?_⟩;simp only[aw.new,ae4];have:min2 (max2 (n:Int) 0) 4096=n:=by unfold min2 max2;split<;>split<;>omega
 rw[this];omega
def wQ{n:Nat}(h:n<=4096){j:Nat}(hj:j<n):((aw.new n).read (j:Int)).1=jI 128:=by
 have hc:=BO h;rw[uI (D:=aw.new n) rfl (i:=j) (by rw[hc.len];exact hj)];simp[aw.new]
def Rk{n:Nat}{D:aw}{which number:Int}{s:BA}(hlen:D.safe.length=n)(km:12<=n)(bN:n<=4096)(mr:1<=number/\number<=1152921504606846976)(hl:dQ s.size<=bQ n)
 (hr:∀q:Nat,q<dQ s.size->(D.read (((cN n which:Nat):Int)+q)).1=leaf number q (part s q)):get D n which number s.size=some s.data.toList:=by
 have Dv:=mB km which;have hb:s.size<=104* dQ s.size:=by unfold dQ;split<;>omega
 have Lo:∀q:Nat,(part s q).size=min (104* (q+1)) s.size-104* q:=λq=>by unfold part;rw[ph]
 unfold get take;rw[if_neg (by rw[hlen,adY];omega),adY,xE (s:=s) (dQ s.size) 0 (λq _ hq=>by
  rw[hr q (by omega)]
  have hg:Good number q (part s q):=⟨mr.1,mr.2,by omega,by omega,jD s q⟩
  unfold leaf
  rw[if_pos hg]
  exact⟨lg hg,by rw[Lo];omega⟩)]
 congr 1
 rw[Nat.mul_zero,ae5,aef (by rw[cy];exact hb)]
section
variable {W w:World} {L:LH}
end
section
variable {W w:World} {L:LH}
def Mg{n m:Nat}{K:VK}(h:St W w L)(hm:m<1099511627776000)(hK:∀w',St W w' L->K (.bool (decide (dQ m<=bQ n))) w'):mo (cQ n) m K w:=by
 unfold mo;refine fE h λr w hs=>?_;refine iP hs λw hs=>?_;refine dc (λ_=>?_) (λhh=>by omega);refine bn (k:=0) hs rfl rfl ?_;simp only[nz,adV,adW];refine nw (by omega) ?_;simp only[nz,adV,adW];refine gB (k:=0) hs rfl rfl ?_;have e:decide (((dQ m:Nat):Int)<=((bQ n:Nat):Int))=decide (dQ m<=bQ n):=by rw[decide_eq_decide];omega
 rw[e];exact hK w hs.drop
end
def Mix(old new X:BA):Prop:=X=old\/X=new\/∃c,c<=128/\X=new.extract 0 c++old.extract c old.size
def ze(mask torn x:Int)(hx:0<=x/\x<=128)(safe:List BA)(later:List (Int×BA))(hn:(later.map (·.1.toNat)).Nodup)(hp:∀p∈later,0<=p.1/\p.1<safe.length)(i:Nat)(hi:i<safe.length):
 ∀j,j<=later.length->((∀k,k<j->∀p,later[k]?=some p->p.1.toNat≠i)/\(crashed mask torn x safe later j)[i]?=safe[i]?)\/
  ∃k p,k<j/\later[k]?=some p/\p.1.toNat=i/\∃X,(crashed mask torn x safe later j)[i]?=some X/\Mix (safe.getD i .empty) p.2 X
 |0,_=>.inl ⟨λk hk=>by omega,rfl⟩
 |j+1,hj=>by
  have aZ:j<later.length:=by omega
  have xd:later[j]?=some later[j]:=adX aZ;have ih:=ze mask torn x hx safe later hn hp i hi j (by omega);simp only[crashed,xd];have hlen:i<(crashed mask torn x safe later j).length:=by rw[fG];exact hi
  by_cases Hx:(later[j]).1.toNat=i
  ·
   have uh:(crashed mask torn x safe later j)[i]?=safe[i]?:=by
    rcases ih with⟨_,h⟩|⟨k,p,hk,PF,Q4,_⟩
    ·exact h
    ·exfalso;have rz:k<later.length:=by omega
     have e1:(later.map (·.1.toNat))[k]?=some i:=by rw[aeJ,PF];simp[Q4]
     have e2:(later.map (·.1.toNat))[j]?=some i:=by rw[aeJ,xd];simp[Hx]
     have:=(List.getElem?_inj (by simpa using rz) hn).1 (e1.trans e2.symm);omega
   have xe:(crashed mask torn x safe later j).getD i .empty=safe.getD i .empty:=by
    rw[aeM,uh,<-aeM]
   refine .inr ⟨j,later[j],by omega,xd,Hx,?_⟩;unfold aw.jW;rw[Hx];split
   ·refine⟨_,List.getElem?_set_self hlen,.inr (.inr ⟨x.toNat,by omega,?_⟩)⟩;rw[xe]
   ·split
    ·exact⟨_,List.getElem?_set_self hlen,.inr (.inl rfl)⟩
    ·refine⟨safe[i],by rw[uh];exact adX hi,.inl ?_⟩;simp[hi]
  ·have Br:(aw.jW mask torn x (crashed mask torn x safe later j) j later[j])[i]?=(crashed mask torn x safe later j)[i]?:=by
    unfold aw.jW;split
    ·rw[List.getElem?_set_ne Hx]
    ·split
     ·rw[List.getElem?_set_ne Hx]
     ·rfl
   rw[Br];rcases ih with⟨h1,h2⟩|⟨k,p,hk,PF,Q4,X,hX⟩
   ·refine .inl ⟨λk hk p PF=>?_,h2⟩;by_cases hkj:k=j
    ·subst hkj;rw[xd] at PF;cases PF
     exact Hx
    ·exact h1 k (by omega) p PF
   ·exact .inr ⟨k,p,by omega,PF,Q4,X,hX⟩
def Gp{at' number:Int}{s:BA}(mr:1<=number/\number<=1152921504606846976)(yj:0<=at'):∀(n i:Nat) {D:aw},at'+i+n<=D.safe.length->i+n<=4096->
 ∃m,m<=n/\(lG at' number s D i n).1.later=D.later++((List.range' i m).map λq:Nat=>(at'+(q:Int),aw.pad (leaf number q (part s q))))/\(lG at' number s D i n).1.safe=D.safe/\((lG at' number s D i n).2=0->m=n)
 |0,i,D,hr,hi=>⟨0,ad4 _,by simp[lG],rfl,λ_=>rfl⟩
 |n+1,i,D,hr,hi=>by
  have hg:Good number i (part s i):=⟨mr.1,mr.2,by omega,by omega,jD s i⟩;have ou:=qc hg;have qJ:D.is (at'+i):=⟨by omega,by omega⟩;have u2: ¬(¬D.is (at'+i)\/128<(leaf number i (part s i)).size):=by
   rintro(hh|hh)
   ·exact hh qJ
   ·omega
  have pr:=(oz D (at'+i) (leaf number i (part s i))).1;have hw:D.write (at'+i) (leaf number i (part s i))=if D.qY then(D.tick,8) else({Go.bA.aw.tick D with later:=D.later++[(at'+i,aw.pad (leaf number i (part s i)))]},0):=by
   unfold aw.write;rw[if_neg u2]
  unfold lG;cases hf:D.qY with
  |true=>
   rw[hf,if_pos rfl] at hw;rw[hw,if_pos (by simp)];exact⟨0,ad6 _,by simp[aw.tick],rfl,λh=>by simp at h⟩
  |false=>
   rw[hf,if_neg afr] at hw;have h0:(D.write (at'+i) (leaf number i (part s i))).2=0:=by rw[hw]
   have vM:(D.write (at'+i) (leaf number i (part s i))).1.later=D.later++[(at'+i,aw.pad (leaf number i (part s i)))]:=by rw[hw]
   rw[if_neg (by rw[h0];exact λhh=>hh rfl)];obtain⟨m,h1,h2,h3,h4⟩:=Gp mr yj (s:=s) n (i+1) (D:=(D.write (at'+i) (leaf number i (part s i))).1) (by rw[pr];omega) (by omega);refine⟨m+1,by omega,?_,by rw[h3,pr],λh=>by rw[h4 h]⟩;rw[h2,vM,List.range'_succ,aez,ad5]
   rfl
def Bh(at':Nat)(f:Nat->BA)(i:Int):∀m:Nat,aw.last ((aft m).map λq:Nat=>(((at':Nat):Int)+(q:Int),f q)) i=if(at':Int)<=i/\i<(at':Int)+m then some (f (i-at').toNat) else none
 |0=>by rw[if_neg (by omega)];rfl
 |m+1=>by
  rw[List.range_succ,aeu,aez,afw,Dk.po,Bh at' f i m];dsimp only;by_cases h:((at':Nat):Int)+(m:Int)=i
  ·rw[if_pos h,if_pos (by omega)]
   congr 2
   omega
  ·rw[if_neg h];by_cases h2:(at':Int)<=i/\i<(at':Int)+m
   ·rw[if_pos h2,if_pos (by omega)]
   ·rw[if_neg h2,if_neg (by omega)]
def Ee(at' i m q:Nat)(n:Int)(s:BA)(k:Nat)(p:Int×BA)(h:((List.range' 0 m).map λq:Nat=>(((at':Nat):Int)+(q:Int),aw.pad (leaf n q (part s q))))[k]?=some p):
 k<m/\p.1.toNat=at'+k/\p.2=aw.pad (leaf n k (part s k)):=by
 rw[<-List.range_eq_range',aeJ] at h;have hk:k<m:=by
  by_cases hh:k<m
  ·exact hh
  ·rw[aeZ (by simpa using hh)] at h;cases h
 rw[afq hk] at h;cases h
 exact⟨hk,by dsimp only;omega,rfl⟩
def GJ(x:BA):(yi x).data.toList=x.data.toList.take 8:=by unfold yi;rw[extract_toList];rfl
def FC{x:BA}(h:x.size=128):(xD x).data.toList=x.data.toList.drop 120:=by
 unfold xD;rw[h,extract_toList,aef (by rw[ad9,cy,h];omega)]
def pc{α:Type}(a b:List α)(m:Nat)(h:a.length=m):(a++b).take m=a:=by subst h;exact List.take_left
def qz{α:Type}(a b:List α)(m:Nat)(h:a.length=m):(a++b).drop m=b:=by subst h;exact List.drop_left
def uf{n i:Int}{s:BA}:(iY n i s).take 8=le .i64 8 n:=by
 unfold iY pre;simp only[ad5];exact pc _ _ 8 (ay _ _ _)
def rv{n i:Int}{s:BA}(hs:s.size<=104):(iY n i s).drop 120=le .i64 8 n:=by
 unfold iY;exact qz _ _ 120 (by rw[ad0,nh hs];rfl)
def Am(n:Nat):(jI n).data.toList=aec n 0:=by unfold jI;rfl
def J9{D:aw}{b:Int}(hb:0<=b):∀j,(∀i:Nat,i<j->numOf (yi (D.read (i:Int)).1)<=b/\numOf (xD (D.read (i:Int)).1)<=b)->dy D j<=b
 |0,_=>hb
 |j+1,h=>by
  have h1:=J9 hb j (λi hi=>h i (by omega));have h2:=h j (by omega);simp only[dy];unfold max2;split<;>split<;>omega
section
variable {W w:World} {L:LH}
end
def cS(D:aw)(at' to number:Int)(s:BA):aw×Int:=if(lay D at' to number s).2≠0 then lay D at' to number s else(lay D at' to number s).1.sync
def Gi{D:aw}{at' to number:Int}{s:BA}(h:D.Ok)(hl:D.later.length+dQ s.size<1099511627776):(cS D at' to number s).1.Ok:=by
 have:=(Es (at':=at') (number:=number) (s:=s) (to:=to) h hl).1;unfold cS;split
 ·exact this
 ·exact D5 this
def NS{n a t:Nat}{D:aw}{number:Int}{s:BA}(h:Calm n D)(bN:n<=4096)(mr:1<=number/\number<=1152921504606846976)(hl:a+dQ s.size<=t)(Xx:t<=n):(cS D a t number s).1.later=[]:=by
 have Ya:=nX s.size;have e:lay D (a:Nat) ((t:Nat):Int) number s=lG (a:Nat) number s D 0 (dQ s.size):=by
  unfold lay;rw[if_neg (by rw[h.len];omega),if_neg (by omega)]
 obtain⟨l1,l2,_,_,_⟩:=JQ (at':=((a:Nat):Int)) (number:=number) (s:=s) mr (by omega) (dQ s.size) 0 (D:=D) h.arm (by rw[h.len];omega) (by omega);unfold cS;rw[e,if_neg (λhh=>hh l1),Dk.Jj l2]
def QV{n a t:Nat}{D:aw}{number:Int}{s:BA}(h:Calm n D)(bN:n<=4096)(mr:1<=number/\number<=1152921504606846976)(hl:a+dQ s.size<=t)(Xx:t<=n):
 (cS D a t number s).2=0/\Calm n (cS D a t number s).1/\(∀q:Nat,q<dQ s.size->((cS D a t number s).1.read (((a:Nat):Int)+q)).1=leaf number q (part s q))/\
 ∀j:Nat,j<n->(j<a\/a+dQ s.size<=j)->((cS D a t number s).1.read (j:Int)).1=(D.read (j:Int)).1:=by
 have e:lay D (a) ((t:Nat):Int) number s=lG (a) number s D 0 (dQ s.size):=by
  unfold lay;rw[if_neg (by rw[h.len];omega),if_neg (by omega)]
 have Mr:=JQ (at':=((a:Nat):Int)) (number:=number) (s:=s) mr (by omega) (dQ s.size) 0 (D:=D) h.arm (by rw[h.len];omega) (by omega);have hli:=JP (at':=((a:Nat):Int)) (number:=number) (s:=s) mr (by omega) (dQ s.size) 0 (D:=D) h.arm (by rw[h.len];omega) (by omega);have eO:=wV (at':=((a:Nat):Int)) (number:=number) (s:=s) (dQ s.size) 0 h.ok (by have:=h.later;omega);unfold cS;rw[e];obtain⟨l1,l2,l3,l4,l5⟩:=Mr;rw[if_neg (λhh=>hh l1)];generalize (lG ((a:Nat):Int) number s D 0 (dQ s.size)).1=D1 at *;have SW:D1.safe.length=n:=by rw[l3];exact h.len
 have jG:=Dk.Jj l2;have S8:Calm n D1.sync.1:=⟨D5 eO.1,Dk.Kz l2,by rw[jG];exact ad6 _,by rw[Dk.FI.1];exact SW⟩;have PC:∀j:Nat,j<n->(D1.sync.1.read (j:Int)).1=D1.now (j:Int):=λj hj=>by
  have h1:D1.sync.1.is (j:Int):=⟨by omega,by rw[S8.len];omega⟩;have h2:D1.is (j:Int):=⟨by omega,by rw[SW];omega⟩;unfold aw.read;rw[if_pos h1];exact Dk.K7 l2 eO.1 h2
 refine⟨by rw[jG],S8,λq hq=>?_,λj hj EC=>?_⟩
 ·have:=PC (a+q) (by omega);rw[show(((a:Nat):Int)+(q:Int))=((a+q:Nat):Int) from by omega,this,show((a+q:Nat):Int)=((a:Nat):Int)+(q:Int) from by omega];exact hli q (ad6 _) (by omega)
 ·rw[PC j hj,l5 (j:Int) (by omega)];have h2:D.is (j:Int):=⟨by omega,by rw[h.len];omega⟩;unfold aw.read;rw[if_pos h2]
def Gj{n a t:Nat}{D:aw}{number mask torn cut:Int}{s:BA}(eO:D.Ok)(vM:D.later=[])(hlen:D.safe.length=n)(bN:n<=4096)(mr:1<=number/\number<=1152921504606846976)(hl:a+dQ s.size<=t)(Xx:t<=n):
 (∀j:Nat,j<n->(((cS D a t number s).1.db mask torn cut).read (j:Int)).1=(D.read (j:Int)).1\/
  ∃q,q<dQ s.size/\j=a+q/\Mix (D.read (j:Int)).1 (leaf number q (part s q)) (((cS D a t number s).1.db mask torn cut).read (j:Int)).1)/\
 ((cS D a t number s).2=0->∀q:Nat,q<dQ s.size->(((cS D a t number s).1.db mask torn cut).read ((a+q:Nat):Int)).1=leaf number q (part s q))/\
 ((cS D a t number s).1.db mask torn cut).Ok/\((cS D a t number s).1.db mask torn cut).safe.length=n:=by
 have Ya:=nX s.size;have UB:∀q:Nat,q<dQ s.size->aw.pad (leaf number q (part s q))=leaf number q (part s q):=λq hq=>JI (qc ⟨mr.1,mr.2,by omega,by omega,jD s q⟩);have abe:lay D (a:Nat) ((t:Nat):Int) number s=lG (a) number s D 0 (dQ s.size):=by
  unfold lay;rw[if_neg (by rw[hlen];omega),if_neg (by omega)]
 obtain⟨m,hm,Bu,pr,fJ⟩:=Gp (at':=((a:Nat):Int)) (number:=number) (s:=s) mr (by omega) (dQ s.size) 0 (D:=D) (by rw[hlen];omega) (by omega);rw[vM,aeA] at Bu;have EG:=(wV (at':=((a:Nat):Int)) (number:=number) (s:=s) (dQ s.size) 0 eO (by rw[vM];simp;omega)).1;unfold cS;rw[abe];generalize hF:lG ((a:Nat):Int) number s D 0 (dQ s.size)=F at *;obtain⟨D1,e⟩:=F;dsimp only at Bu pr fJ EG⊢;have hold:∀j(hj:j<n),(D.read (j:Int)).1=D.safe[j]'(by omega):=λj hj=>by rw[uI vM (by omega)]
 have key:∀D2:aw,D2.safe=D.safe->D2.later=D1.later->∀j:Nat,j<n->((D2.db mask torn cut).read (j:Int)).1=(D.read (j:Int)).1\/
  ∃q,q<dQ s.size/\j=a+q/\Mix (D.read (j:Int)).1 (leaf number q (part s q)) ((D2.db mask torn cut).read (j:Int)).1:=λD2 h1 h2 j hj=>by
  have Ra:j<D.safe.length:=by omega
  have hce:(D2.db mask torn cut).safe=crashed mask torn (min2 (max2 cut 0) 128) D.safe D1.later D1.later.length:=by rw[kE,h1,h2]
  have Ms:j<(D2.db mask torn cut).safe.length:=by rw[hce,fG];exact Ra
  have hr:((D2.db mask torn cut).read (j:Int)).1=(D2.db mask torn cut).safe[j]:=by rw[uI (by rw[kE]) Ms]
  have hx:(D2.db mask torn cut).safe[j]?=some ((D2.db mask torn cut).safe[j]):=adX Ms;have Gy:(D1.later.map (·.1.toNat)).Nodup:=by
   rw[Bu,afx];have:((λp:Int×BA=>p.1.toNat)∘λq:Nat=>(((a:Nat):Int)+(q:Int),aw.pad (leaf number q (part s q))))=λq:Nat=>a+q:=by
    funext q;simp only[Function.comp];omega
   rw[this];exact List.Pairwise.map (λq=>a+q) (λx y(PO:x≠y)=>by show a+x≠a+y;omega) (List.nodup_range' 1 (by decide))
  have XQ:=ze mask torn (min2 (max2 cut 0) 128) (OB cut) D.safe D1.later Gy (λp hp=>by
   have:=EG.later p hp
   rw[pr] at this
   exact this.2) j Ra D1.later.length (ad4 _)
  rw[<-hce,hx] at XQ;rw[hr];generalize (D2.db mask torn cut).safe[j]=X at *;rcases XQ with⟨_,h⟩|⟨k,p,hk,PF,Q4,Y,hY,hM⟩
  ·left
   rw[hold j hj];rw[adX Ra] at h;exact aeh.inj h
  ·right
   cases hY
   rw[Bu] at PF;obtain⟨r1,r2,r3⟩:=Ee (a) 0 m 0 number s k p PF;refine⟨k,by omega,by omega,?_⟩;rw[hold j hj,<-UB k (by omega),<-r3];have:D.safe.getD j .empty=D.safe[j]:=by simp[Ra]
   rw[<-this];exact hM
 have l9:∀D2:aw,D2.safe.length=n->(D2.db mask torn cut).safe.length=n:=λD2 h=>by rw[kE];simp only[fG];exact h
 have Yt:D1.safe.length=n:=by rw[pr];exact hlen
 by_cases he:e=0
 ·subst he;rw[if_neg (by simp)];unfold aw.sync;cases hf:D1.qY with
  |true=>
   rw[if_pos rfl];exact⟨key D1.tick pr rfl,λh=>by simp at h,xo (D:=D1.tick) ⟨EG.safe,EG.later,EG.lu,EG.less⟩ mask torn cut,l9 D1.tick Yt⟩
  |false=>
   rw[if_neg afr];have J3:=fJ rfl;subst J3;have UF:=D5 EG;unfold aw.sync at UF;rw[hf,if_neg afr] at UF;generalize hD3:({Go.bA.aw.tick D1 with safe:=D1.later.foldl aw.put D1.safe,later:=[]}:aw)=D3 at *;have h3s:D3.safe=D1.later.foldl aw.put D.safe:=by rw[<-hD3,<-pr]
   have h3l:D3.later=[]:=by rw[<-hD3]
   have h3n:D3.safe.length=n:=by rw[h3s,kD];exact hlen
   have PK:(D3.db mask torn cut).safe=D3.safe:=by rw[kE,h3l];rfl
   have PC:∀j(hj:j<n),((D3.db mask torn cut).read (j:Int)).1=(aw.last D1.later (j:Int)).getD (D.read (j:Int)).1:=λj hj=>by
    have Ms:j<(D3.db mask torn cut).safe.length:=by rw[l9 D3 h3n];exact hj
    have Ra:j<D.safe.length:=by omega
    rw[uI (by rw[kE]) Ms,hold j hj];have h1:=Dk.vg (i:=(j:Int)) (by omega) D1.later D.safe (by omega) (λp hp=>(EG.later p hp).2.1);rw[adY,<-h3s,<-PK,aeM,adX Ms,aeM,adX Ra] at h1;exact h1
   have Du:∀j:Nat,aw.last D1.later (j:Int)=if a<=j/\j<a+dQ s.size then some (aw.pad (leaf number ((j-a:Nat):Int) (part s (j-a)))) else none:=λj=>by
    rw[Bu,<-List.range_eq_range',Bh (a) (λq=>aw.pad (leaf number q (part s q))) (j:Int) (dQ s.size)];by_cases hj:a<=j/\j<a+dQ s.size
    ·rw[if_pos hj,if_pos (by omega)];have:((j:Int) -((a:Nat):Int)).toNat=j-a:=by omega
     rw[this]
    ·rw[if_neg hj,if_neg (by omega)]
   refine⟨λj hj=>?_,λ_ q hq=>?_,xo UF mask torn cut,l9 D3 h3n⟩
   ·rw[PC j hj,Du j];by_cases hjr:a<=j/\j<a+dQ s.size
    ·right
     refine⟨j-a,by omega,by omega,.inr (.inl ?_)⟩;rw[if_pos hjr,aew,UB _ (by omega)]
    ·left;rw[if_neg hjr];rfl
   ·rw[PC _ (by omega),Du,if_pos (by omega),aew,show a+q-a=q from by omega,UB q hq]
 ·rw[if_pos he];exact⟨key D1 pr rfl,λh=>absurd h he,xo EG mask torn cut,l9 D1 Yt⟩
def Lf:∀n:Fin 256,le .i64 8 (n.val:Int)=UInt8.ofNat n.val::aec 7 0:=by decide+kernel
def Gn{n:Nat}(h:n<256):le .i64 8 (n:Int)=UInt8.ofNat n::aec 7 0:=Lf ⟨n,h⟩
structure Ends(g:Nat)(X:BA):Prop where
 size:X.size=128
 hd:∃a,a<=g/\X.data.toList.take 8=le .i64 8 ((a:Nat):Int)
 tl:∃b,b<=g/\X.data.toList.drop 120=le .i64 8 ((b:Nat):Int)
def Ends.mono{g g':Nat}{X:BA}(h:Ends g X)(hg:g<=g'):Ends g' X:=by
 obtain⟨h1,⟨a,h2,h3⟩,b,h4,h5⟩:=h;exact⟨h1,⟨a,by omega,h3⟩,b,by omega,h5⟩
def BE:Ends 0 (jI 128):=⟨qm 128,⟨0,ad4 _,by rw[Am];decide+kernel⟩,0,ad4 _,by rw[Am];decide+kernel⟩
def jF{n i:Int}{s:BA}(h:Good n i s):(leaf n i s).data.toList=iY n i s:=by unfold leaf;rw[if_pos h];rfl
def DI{n:Nat}{i:Int}{s:BA}(h:Good n i s):Ends n (leaf n i s):=
 ⟨qc h,⟨n,ad4 _,by rw[jF h,uf]⟩,n,ad4 _,by rw[jF h,rv h.2.2.2.2]⟩
def qR{n:Nat}(h:n<256):numOf (bs (le .i64 8 ((n:Nat):Int)))=n:=by
 unfold numOf;show(if 1<=jT (le .i64 8 (n:Int))/\jT (le .i64 8 (n:Int))<=1152921504606846976 then _ else _)=_;rw[lE ⟨by omega,by omega⟩];by_cases h0:n=0
 ·subst h0;rfl
 ·rw[if_pos ⟨by omega,by omega⟩];show jT (le .i64 8 (n:Int))=_;rw[lE ⟨by omega,by omega⟩]
def Ends.num{g:Nat}{X:BA}(h:Ends g X)(hg:g<256):numOf (yi X)<=g/\numOf (xD X)<=g:=by
 obtain⟨h1,⟨a,h2,h3⟩,b,h4,h5⟩:=h;have e1:yi X=bs (le .i64 8 ((a:Nat):Int)):=gO (by rw[GJ,h3];rfl);have e2:xD X=bs (le .i64 8 ((b:Nat):Int)):=gO (by rw[FC h1,h5];rfl);rw[e1,e2,qR (by omega),qR (by omega)];omega
def yl{D:aw}{g:Nat}(hg:g<256)(j:Nat)(h:∀i:Nat,i<j->Ends g (D.read (i:Int)).1):dy D j<=g:=J9 (by omega) j (λi hi=>(h i hi).num hg)
def HV{n a:Nat}(hn:n<256)(ha:a<256)(k:Nat)(hk:k<=8):(le .i64 8 ((n:Nat):Int)).take k++(le .i64 8 ((a:Nat):Int)).drop k=if k=0 then le .i64 8 ((a:Nat):Int) else le .i64 8 ((n:Nat):Int):=by
 rw[Gn hn,Gn ha];cases k with
 |zero=>rfl
 |succ k=>
  rw[if_neg (by omega),List.take_succ_cons,List.drop_succ_cons,afa]
  congr 1
  exact aer k _
def ya{n:Nat}{g:Nat}{i:Int}{s old X:BA}(hn:g<n)(Wq:n<256)(xe:Good n i s)(ho:Ends g old)(hm:Mix old (leaf n i s) X):
 Ends n X/\(X=old\/X=leaf n i s\/iJ X.data.toList=none):=by
 rcases hm with h|h|⟨c,hc,h⟩
 ·rw[h];exact⟨ho.mono (by omega),.inl rfl⟩
 ·rw[h];exact⟨DI xe,.inr (.inl rfl)⟩
 ·obtain⟨o1,⟨a,ha,oh⟩,b,hb,ot⟩:=ho;have hl:=jF xe;have Dt:(iY n i s).length=128:=sP xe.2.2.2.2;have hol:old.data.toList.length=128:=by rw[cy];exact o1
  have hX:X.data.toList=(iY n i s).take c++old.data.toList.drop c:=by
   have e2:(old.extract c old.size).data.toList=old.data.toList.drop c:=by
    rw[extract_toList,aef (by rw[ad9,cy];exact ad4 _)]
   rw[h,ByteArray.data_append,Array.toList_append,e2,extract_toList,ae5,Nat.sub_zero,hl]
  have hXs:X.size=128:=by
   rw[<-cy,hX,ad0,ad2,ad9,Dt,hol];omega
  have h8:X.data.toList.take 8=(le .i64 8 ((n:Nat):Int)).take (min c 8)++(le .i64 8 ((a:Nat):Int)).drop (min c 8):=by
   rw[hX,<-oh,<-uf (n:=n) (i:=i) (s:=s),List.take_append,afu,afu,ad2,Dt,List.drop_take,show min (min c 8) 8=min 8 c from by omega,show min c 128=c from by omega]
   congr 1
   by_cases h8:c<=8
   ·rw[show min c 8=c from by omega]
   ·rw[show 8-c=0 from by omega,show 8-min c 8=0 from by omega,afm,afm]
  have EH:X.data.toList.drop 120=(le .i64 8 ((n:Nat):Int)).take (c-120)++(le .i64 8 ((b:Nat):Int)).drop (c-120):=by
   rw[hX,<-ot,<-rv (n:=n) (i:=i) xe.2.2.2.2,List.drop_append,List.drop_take,ad2,Dt,ae8,ae8,show min c 128=c from by omega]
   congr 2
   omega
  rw[HV Wq (by omega) _ (by omega)] at h8 EH;by_cases hc0:c=0
  ·have:X=old:=gO (by rw[hX,hc0,afm,aeA,ae5]);rw[this];exact⟨⟨o1,⟨a,by omega,oh⟩,b,by omega,ot⟩,.inl rfl⟩
  ·rw[if_neg (by omega)] at h8;by_cases hc1:c<=120
   ·rw[if_pos (by omega)] at EH;refine⟨⟨hXs,⟨n,ad4 _,h8⟩,b,by omega,EH⟩,.inr (.inr ?_)⟩;cases hv:iJ X.data.toList with
    |none=>rfl
    |some y=>
     exfalso;obtain⟨m,j,d⟩:=y;obtain⟨v1,v2,v3,v4,_,_⟩:=H5 hv;rw[No v2 v1,EH] at v3;unfold sN at v3;rw[h8,lE ⟨by omega,by omega⟩,lE ⟨by omega,by omega⟩] at v3;omega
   ·rw[if_neg (by omega)] at EH;refine⟨⟨hXs,⟨n,ad4 _,h8⟩,n,ad4 _,EH⟩,.inr (.inl ?_)⟩;apply gO;rw[hl];refine(aer 120 _).symm.trans (Eq.trans ?_ (aer 120 _));rw[EH,rv xe.2.2.2.2,hX,List.take_append_of_le_length (by rw[ad2,Dt];omega),afu,show min 120 c=120 from by omega]
structure dj where
 aF:Int
 number:Int
 size:Int
 seq:Int
deriving DecidableEq
def aS(h:dj):LV:=[.i h.aF,.i h.number,.i h.size,.i h.seq]
def kL(h:dj):Prop:=1<=h.aF/\h.aF<=1152921504606846976/\1<=h.number/\h.number<=1152921504606846976/\0<=h.size/\h.size<=425984/\0<=h.seq/\h.seq<=1152921504606846976
instance(h:dj):Decidable (kL h):=by unfold kL;infer_instance
def hU(h:dj):List UInt8:=le .i64 8 h.aF++le .i64 8 h.number++le .i64 8 h.size++le .i64 8 h.seq
def mG(h:dj):(hU h).length=32:=by simp only[hU,ad0,ay]
def An:dj:=⟨0,0,0,0⟩
def s6(l:List UInt8):dj:=⟨jT (l.take 8),jT ((l.drop 8).take 8),jT (((l.drop 8).drop 8).take 8),jT ((((l.drop 8).drop 8).drop 8).take 8)⟩
def CZ(l:List UInt8):Option dj:=if l.length=32/\kL (s6 l) then some (s6 l) else none
def GH{h:dj}(hg:kL h):CZ (hU h)=some h:=by
 obtain⟨h1,h2,h3,h4,h5,h6,h7,h8⟩:=hg;have sW:hU h=le .i64 8 h.aF++(le .i64 8 h.number++(le .i64 8 h.size++le .i64 8 h.seq)):=by simp only[hU,ad5]
 have tl:∀(a b:List UInt8)(m:Nat),a.length=m->(a++b).take m=a:=λa b m hm=>by subst hm;exact List.take_left
 have dl:∀(a b:List UInt8)(m:Nat),a.length=m->(a++b).drop m=b:=λa b m hm=>by subst hm;exact List.drop_left
 have e:s6 (hU h)=h:=by
  unfold s6;rw[sW,tl _ _ _ (ay _ _ _),dl _ _ _ (ay _ _ _),tl _ _ _ (ay _ _ _),dl _ _ _ (ay _ _ _),tl _ _ _ (ay _ _ _),dl _ _ _ (ay _ _ _),aef (by rw[ay];omega)];rw[lE ⟨by omega,h2⟩,lE ⟨by omega,h4⟩,lE ⟨h5,by omega⟩,lE ⟨h7,h8⟩]
 unfold CZ;rw[e,if_pos ⟨mG h,h1,h2,h3,h4,h5,h6,h7,h8⟩]
def mF:Option dj->Value
 |none=>.tuple ⟨[.agg ⟨aS An⟩,.bool false]⟩
 |some h=>.tuple ⟨[.agg ⟨aS h⟩,.bool true]⟩
section
variable {W w:World} {L:LH} {k:Nat}
def BP{h:dj}{K:VK}(hs:St W w L)(hK:∀w',St W w' L->K (.bool (decide (kL h))) w'):qA (aS h) K w:=by
 unfold qA;refine fE hs λr w hs=>?_;have hh:=hK w hs.drop;have no: ¬kL h->K (.bool false) w:=λhn=>by rw[decide_eq_false hn] at hh;exact hh
 refine bn (k:=0) hs rfl rfl ?_;simp only[nz,adV,adW];refine dc (λh1=>?_) (λh1=>no (by unfold kL;omega));refine bn (k:=0) hs rfl rfl ?_;simp only[nz,adV,adW];refine dc (λh2=>?_) (λh1=>no (by unfold kL;omega));refine bn (k:=0) hs rfl rfl ?_;simp only[nz,adV,adW];refine dc (λh3=>?_) (λh1=>no (by unfold kL;omega));refine bn (k:=0) hs rfl rfl ?_;simp only[nz,adV,adW];refine dc (λh4=>?_) (λh1=>no (by unfold kL;omega));refine bn (k:=0) hs rfl rfl ?_;simp only[nz,adV,adW];refine dc (λh5=>?_) (λh1=>no (by unfold kL;omega));refine bn (k:=0) hs rfl rfl ?_;simp only[nz,adV,adW];refine dc (λh6=>?_) (λh1=>no (by unfold kL;omega));refine bn (k:=0) hs rfl rfl ?_;simp only[nz,adV,adW];refine dc (λh7=>?_) (λh1=>no (by unfold kL;omega));refine bn (k:=0) hs rfl rfl ?_;simp only[nz,adV,adW];have:decide (h.seq<=1152921504606846976)=decide (kL h):=by rw[decide_eq_decide];unfold kL;omega
 rw[this];exact hh
def Ab(h:dj):List UInt8×Int:=if kL h then(hU h,0) else([],1)
def G9{h:dj}{K:VK}(hs:St W w L)(hK:∀w',St W w' L->K (.tuple ⟨[.string (bs (Ab h).1),.i (Ab h).2]⟩) w'):q8 (aS h) K w:=by
 unfold q8;refine fE hs λr w hs=>?_;refine gg (k:=0) (xs:=aS h) hs rfl rfl (λj v hj=>by rw[ad1];exact hj) ?_;refine BP hs λw hs=>?_;simp only[nz,adV,adW];unfold Ab at hK;by_cases hg:kL h
 ·rw[if_pos hg] at hK;rw[decide_eq_true hg];simp only[nz,adV,adW];refine fE hs λp w hs=>?_;have hs:St W w (buf p []::pt r (aS h)::L):=by
   have h2:=(hs.push (A:=own none 0 0 1 (([]:List UInt8).map rI)) (nO 1)).perm (aem.swap _ _ _);exact qg (k:=0) (L:=buf p []::pt r (aS h)::L) (A:=buf p []) rfl rfl h2
  refine bn (k:=1) hs rfl rfl ?_;simp only[nz,adV,adW];refine bn (k:=1) hs rfl rfl ?_;simp only[nz,adV,adW];refine bn (k:=1) hs rfl rfl ?_;simp only[nz,adV,adW];refine bn (k:=1) hs rfl rfl ?_;simp only[nz,adV,adW];refine⟨λus w'=>∃j:Nat,us=[.string .empty,.i 0,.p (some ⟨p,0,none⟩),.agg ⟨aS h⟩,.i j]/\j<=4/\St W w' (buf p ((hU h).take (8* j))::pt r (aS h)::L),
   λus _=>match us with|[_,_,_,_,.int _ j]=>4-j.toNat|_=>0,⟨0,rfl,ad6 _,hs⟩,?_⟩
  rintro s1 n5 a1 Zn n6 w2 ⟨j,he,hj,hs⟩;cases he
  refine pB (λh0=>?_) (λh0=>?_)
  ·have hj4:j<4:=by have:=of_decide_eq_true h0;omega
   have e5:=mh j;obtain⟨n,hn,dJ⟩:∃n,(aS h)[(j:Int).toNat]?=some (.i n)/\(hU h).take (8* j)++le .i64 8 n=(hU h).take (8* (j+1)):=by
    have sW:hU h=le .i64 8 h.aF++(le .i64 8 h.number++(le .i64 8 h.size++le .i64 8 h.seq)):=by simp only[hU,ad5]
    have ll:∀n,(le .i64 8 n).length=8:=λn=>ay _ _ _
    match j,hj4 with
    |0,_=>exact⟨h.aF,rfl,by rw[sW,List.take_append_of_le_length (by rw[ll];omega),List.take_append_of_le_length (by rw[ll];omega),aef (l:=le .i64 8 h.aF) (i:=8* (0+1)) (by rw[ll];omega)];simp⟩
    |1,_=>exact⟨h.number,rfl,by simp only[hU,List.take_append,ll,ad0];simp[aef,ll]⟩
    |2,_=>exact⟨h.size,rfl,by simp only[hU,List.take_append,ll,ad0];simp[aef,ll]⟩
    |3,_=>exact⟨h.seq,rfl,by simp only[hU,List.take_append,ll,ad0];simp[aef,ll]⟩
   refine⟨.i n,⟨by omega,by omega,hn⟩,?_⟩;simp only[nz,adV,adW];refine gA (k:=0) hs rfl (by rw[ad2];omega) λw hs=>?_;rw[show(min2 (max2 8 1) 8).toNat=8 from rfl,dJ] at hs;simp only[nz,adV,adW] at hs⊢;rw[e5];exact⟨⟨j+1,rfl,by omega,hs⟩,by omega⟩
  ·have hj4:j=4:=by have:=of_decide_eq_false h0;omega
   subst hj4;rw[aef (by rw[mG];omega)] at hs;refine jn (k:=0) hs rfl ?_;simp only[nz,adV,adW];exact hK w2 hs.drop.drop
 ·rw[if_neg hg] at hK;rw[decide_eq_false hg];simp only[nz,adV,adW];exact hK w hs.drop
end
def yM{l:List UInt8}{n j:Int}{d:BA}(h:iJ l=some (n,j,d)):d.size<=104:=by
 unfold iJ at h;split at h
 ·cases h
 split at h
 ·cases h
 split at h
 ·cases h
 split at h
 ·cases h
 split at h
 ·cases h
 split at h
 ·cases h
 rename_i h6;cases h
 exact(aea.1 h6).2.2.2.2
def nx(x:List UInt8×Bool):List UInt8×Bool:=if x.2=true\/x.1.length<8 then(x.1,true) else(x.1.drop 8,false)
def nv(x:List UInt8×Bool):Int:=if x.2=true\/x.1.length<8 then 0 else jT (x.1.take 8)
section
variable {W w:World} {L:LH} {k d:Nat} {D:aw}
def uY{r:Nat}{x:List UInt8×Bool}{K:VK}(h:St W w L)(hk:L[k]?=some (zu r (bs x.1) x.2))(hl:x.1.length<1099511627776)
 (hK:∀w',St W w' (L.set k (zu r (bs (nx x).1) (nx x).2))->K (.i (nv x)) w'):ao (some ⟨r,0,none⟩) 8 K w:=by
 refine xy h hk ?_;have em:min2 (max2 8 1) 8=((8:Nat):Int):=rfl;rw[em];obtain⟨l,t⟩:=x;unfold nx nv at hK;dsimp only at hK hl⊢;by_cases hc:t=true\/l.length<8
 ·rw[if_pos hc,if_pos hc] at hK;have et:oq (bs l) t ((8:Nat):Int)=true:=by
   unfold oq;rcases hc with h1|h1
   ·rw[h1];rfl
   ·rw[bI,decide_eq_true (by omega)];simp
  unfold zv tX;rw[et,if_pos rfl,if_pos rfl];exact hK
 ·rw[if_neg hc,if_neg hc] at hK;have ht:t=false:=by cases t<;>simp_all
  have et:oq (bs l) t ((8:Nat):Int)=false:=by
   unfold oq;rw[ht,bI,decide_eq_false (by omega)];rfl
  unfold zv tX;rw[et,adY,kW,kV];exact hK
def Hq{r:Nat}{x:List UInt8×Bool}{K:VK}(h:St W w L)(hk:L[k]?=some (zu r (bs x.1) x.2))(hK:K (.bool (!x.2&&decide (x.1=[]))) w):iB (some ⟨r,0,none⟩) K w:=by
 unfold zu at hk;unfold iB;simp only[nz,adV,adW];refine bn h hk rfl ?_;simp only[nz,adV,adW];obtain⟨l,t⟩:=x;cases t with
 |true=>exact hK
 |false=>
  simp only[nz,adV,adW];refine bn h hk rfl ?_;simp only[nz,adV,adW];have hem:(⟨#[]⟩:BA)=bs []:=rfl;have e:decide (bs l=bs [])=decide (l=[]):=by rw[decide_eq_decide];exact yr
  rw[pX,hem,e];exact hK
def zW{x:List UInt8×Bool}(h:(nx x).2=false):x.2=false/\8<=x.1.length/\(nx x).1.length+8=x.1.length:=by
 unfold nx at h⊢;by_cases hc:x.2=true\/x.1.length<8
 ·rw[if_pos hc] at h;cases h
 ·rw[if_neg hc];have h1:x.2=false:=by cases hx:x.2 with
   |true=>exact absurd (.inl hx) hc
   |false=>rfl
  have h2:8<=x.1.length:=by
   by_cases hh:8<=x.1.length
   ·exact hh
   ·exact absurd (.inr (by omega)) hc
  refine⟨h1,h2,?_⟩;show(x.1.drop 8).length+8=x.1.length;rw[ad9];omega
def QF{l:List UInt8}(h:l.length≠32):(!(nx (nx (nx (nx (l,false))))).2&&decide ((nx (nx (nx (nx (l,false))))).1=[]))=false:=by
 cases h4:(nx (nx (nx (nx (l,false))))).2 with
 |true=>rfl
 |false=>
  obtain⟨b3,c3,d3⟩:=zW h4;obtain⟨b2,c2,d2⟩:=zW b3;obtain⟨b1,c1,d1⟩:=zW b2;obtain⟨b0,c0,d0⟩:=zW b1;have gU:(nx (nx (nx (nx (l,false))))).1≠[]:=λhe=>by
   rw[he,aes] at d3;dsimp only at d0;omega
  rw[decide_eq_false gU];rfl
def Uc{l:List UInt8}(h:l.length=32):nx (l,false)=(l.drop 8,false)/\nx (l.drop 8,false)=((l.drop 8).drop 8,false)/\nx ((l.drop 8).drop 8,false)=(((l.drop 8).drop 8).drop 8,false)/\nx (((l.drop 8).drop 8).drop 8,false)=([],false)/\
 nv (l,false)=jT (l.take 8)/\nv (l.drop 8,false)=jT ((l.drop 8).take 8)/\nv ((l.drop 8).drop 8,false)=jT (((l.drop 8).drop 8).take 8)/\nv (((l.drop 8).drop 8).drop 8,false)=jT ((((l.drop 8).drop 8).drop 8).take 8):=by
 have l1:(l.drop 8).length=24:=by rw[ad9];omega
 have l2:((l.drop 8).drop 8).length=16:=by rw[ad9,l1]
 have l3:(((l.drop 8).drop 8).drop 8).length=8:=by rw[ad9,l2]
 have l4:(((l.drop 8).drop 8).drop 8).drop 8=[]:=List.drop_eq_nil_iff.2 (by omega);unfold nx nv;refine⟨?_,?_,?_,?_,?_,?_,?_,?_⟩
 ·rw[if_neg (by simp;omega)]
 ·rw[if_neg (by simp only[aeo,false_or];omega)]
 ·rw[if_neg (by simp only[aeo,false_or];omega)]
 ·rw[if_neg (by simp only[aeo,false_or];omega),l4]
 ·rw[if_neg (by simp;omega)]
 ·rw[if_neg (by simp only[aeo,false_or];omega)]
 ·rw[if_neg (by simp only[aeo,false_or];omega)]
 ·rw[if_neg (by simp only[aeo,false_or];omega)]
def Ic(x:List UInt8×Bool):(nx x).1.length<=x.1.length:=by unfold nx;split<;>simp
def IQ{l:List UInt8}{K:VK}(hs:St W w L)(hl:l.length<1099511627776)(hK:∀w',St W w' L->K (mF (CZ l)) w'):s8 (bs l) K w:=by
 unfold s8;refine fE hs λr1 w hs=>?_;refine oD hs λq w hs=>?_;simp only[nz,adV,adW];have n1:=Ic (l,false);have n2:=Ic (nx (l,false));have n3:=Ic (nx (nx (l,false)));dsimp only at n1;refine uY (k:=0) (x:=(l,false)) hs rfl hl λw hs=>?_;simp only[nz,adV,adW] at hs⊢;refine uY (k:=0) (x:=nx (l,false)) hs rfl (by omega) λw hs=>?_;simp only[nz,adV,adW] at hs⊢;refine uY (k:=0) (x:=nx (nx (l,false))) hs rfl (by omega) λw hs=>?_;simp only[nz,adV,adW] at hs⊢;refine uY (k:=0) (x:=nx (nx (nx (l,false)))) hs rfl (by omega) λw hs=>?_;simp only[nz,adV,adW] at hs⊢;refine fE hs λr2 w hs=>?_;refine⟨by simp,?_⟩;refine fX (k:=0) hs rfl (ad3 rfl) (by simp[Value.oneCell']) λw hs=>?_;rw[eS (by simp)] at hs;simp only[nz,adV,adW] at hs;refine Hq (k:=1) (x:=nx (nx (nx (nx (l,false))))) hs rfl ?_;simp only[nz,adV,adW];have fail:∀w A B,(∀w',St W w' L->K (mF none) w')->St W w (A::B::pt r1 [.i 0,.i 0,.i 0,.i 0]::L)->gp ⟨r1,0,none⟩ [.i 0,.i 0,.i 0,.i 0] (ai ⟨r1,0,none⟩ 4 λcs=>K (.tuple ⟨[.agg ⟨cs⟩,.bool false]⟩)) w:=λw A B hK hs=>by
  refine fX (k:=2) hs rfl (ad3 rfl) (by simp[Value.oneCell']) λw hs=>?_;rw[eS (by simp)] at hs;refine gg (k:=2) (xs:=[.i 0,.i 0,.i 0,.i 0]) hs rfl rfl (λj v hj=>by rw[ad1];exact hj) ?_;exact hK w hs.drop.drop.drop
 unfold CZ at hK;by_cases h32:l.length=32
 ·obtain⟨a1,a2,a3,a4,b1,b2,b3,b4⟩:=Uc h32;rw[a1,a2,a3,a4] at hs⊢;rw[b1,b2,b3,b4] at hs;have ee:(!((([]:List UInt8),false):List UInt8×Bool).2&&decide ((((([]:List UInt8),false):List UInt8×Bool)).1=[]))=true:=by decide
  rw[ee];simp only[nz,adV,adW];have hs:St W w (pt r2 (aS (s6 l))::zu q (bs []) false::pt r1 [.i 0,.i 0,.i 0,.i 0]::L):=hs;refine gg (k:=0) (xs:=aS (s6 l)) hs rfl rfl (λj v hj=>by rw[ad1];exact hj) ?_;refine BP hs λw hs=>?_;simp only[nz,adV,adW];by_cases hg:kL (s6 l)
  ·rw[if_pos ⟨h32,hg⟩] at hK;rw[decide_eq_true hg];simp only[nz,adV,adW];refine gg (k:=0) (xs:=aS (s6 l)) hs rfl rfl (λj v hj=>by rw[ad1];exact hj) ?_;refine⟨rfl,?_⟩;refine fX (k:=2) hs rfl (ad3 rfl) (by simp[Value.oneCell',aS]) λw hs=>?_;rw[eS (by simp[aS])] at hs;simp only[nz,adV,adW] at hs;refine gg (k:=2) (xs:=aS (s6 l)) hs rfl rfl (λj v hj=>by rw[ad1];exact hj) ?_;exact hK w hs.drop.drop.drop
  ·rw[if_neg (λhh=>hg hh.2)] at hK;rw[decide_eq_false hg];simp only[nz,adV,adW];exact fail w _ _ hK hs
 ·rw[if_neg (λhh=>h32 hh.1)] at hK;rw[QF h32];simp only[nz,adV,adW];exact fail w _ _ hK hs
def vU(D:aw)(i:Nat):Option dj:=
 match iJ (D.read (i:Int)).1.data.toList with
 |none=>none
 |some (_,j,d)=>if(D.read (i:Int)).2≠0\/j≠0 then none else match CZ d.data.toList with
  |none=>none
  |some h=>if low h.aF≠i then none else some h
def Kk{i:Nat}{K:VK}(hs:St W w L)(hk:L[k]?=some (dK d D))(eO:D.Ok)(hK:∀w',St W w' L->K (mF (vU D i)) w'):lJ (some ⟨d,0,none⟩) i K w:=by
 unfold lJ;refine fE hs λr1 w hs=>?_;have PG:(pt r1 [.i 0,.i 0,.i 0,.i 0]::L)[k+1]?=some (dK d D):=by rw[aed];exact hk
 refine om (k:=k+1) hs PG eO ?_;simp only[nz,adV,adW];have fail:∀w A,(∀w',St W w' L->K (mF none) w')->St W w (A::pt r1 [.i 0,.i 0,.i 0,.i 0]::L)->gp ⟨r1,0,none⟩ [.i 0,.i 0,.i 0,.i 0] (ai ⟨r1,0,none⟩ 4 λcs=>K (.tuple ⟨[.agg ⟨cs⟩,.bool false]⟩)) w:=λw A hK hs=>by
  refine fX (k:=1) hs rfl (ad3 rfl) (by simp[Value.oneCell']) λw hs=>?_;rw[eS (by simp)] at hs;refine gg (k:=1) (xs:=[.i 0,.i 0,.i 0,.i 0]) hs rfl rfl (λj v hj=>by rw[ad1];exact hj) ?_;exact hK w hs.drop.drop
 have Ka:∀w r2 A,(∀w',St W w' L->K (mF none) w')->St W w (A::pt r1 [.i 0,.i 0,.i 0,.i 0]::L)->lJ.j1 K r1 r2 i true w:=λw r2 A hK hs=>by
  unfold lJ.j1;simp only[nz,adV,adW];exact fail w A hK hs
 have hxs:(D.read (i:Int)).1.size<1099511627776:=by
  by_cases hi:D.is (i:Int)
  ·have:=uH eO hi;omega
  ·unfold aw.read;rw[if_neg hi];decide
 unfold vU at hK;generalize hx:(D.read (i:Int)).1=x at *;generalize he:(D.read (i:Int)).2=e at *;rw[show x=bs x.data.toList from rfl];refine yz hs (by rw[cy];exact hxs) λw hs=>?_;cases hv:iJ x.data.toList with
 |none=>
  rw[hv] at hK;unfold pR;simp only[nz,adV,adW];simp only[tj,aee,aes,ad1,adV,true_and];simp only[nz,adV,adW];refine fE hs λr2 w hs=>?_;refine⟨trivial,fX (k:=0) hs rfl (ad3 rfl) (by simp[Value.oneCell']) λw hs=>?_⟩;simp only[nz,adV,adW] at hs;refine qD (λ_=>Ka w r2 _ hK hs) (λ_=>?_);exact Ka w r2 _ hK hs
 |some y=>
  obtain⟨m,j,dd⟩:=y;rw[hv] at hK;dsimp only at hK;unfold pR;simp only[nz,adV,adW];simp only[tj,aee,aes,ad1,adV,true_and];simp only[nz,adV,adW];refine fE hs λr2 w hs=>?_;refine⟨trivial,fX (k:=0) hs rfl (ad3 rfl) (by simp[Value.oneCell']) λw hs=>?_⟩;rw[eS (by simp)] at hs;simp only[nz,adV,adW] at hs;refine qD (λgU=>?_) (λh0=>?_)
  ·rw[if_pos (.inl gU)] at hK;exact Ka w r2 _ hK hs
  refine bn (k:=0) hs rfl rfl ?_;simp only[nz,adV,adW];by_cases hj:j=0
  ·rw[if_neg (by rintro(h|h);exact h h0;exact h hj)] at hK;have ej:(j !=0)=false:=by simp[hj]
   rw[ej];unfold lJ.j1;simp only[nz,adV,adW];refine bn (k:=0) hs rfl rfl ?_;simp only[nz,adV,adW];rw[show dd=bs dd.data.toList from rfl];refine IQ hs (by
    rw[cy]
    have:=(yM hv)
    omega) λw hs=>?_
   cases hh:CZ dd.data.toList with
   |none=>
    rw[hh] at hK;unfold mF;simp only[nz,adV,adW];simp only[tj];refine⟨rfl,?_⟩;simp only[nz,adV,adW];refine fE hs λr3 w hs=>?_;refine⟨by simp[aS],fX (k:=0) hs rfl (ad3 rfl) (by simp[Value.oneCell',aS]) λw hs=>?_⟩;rw[eS (by simp[aS])] at hs;simp only[nz,adV,adW] at hs;refine⟨trivial,by simp,?_⟩;refine fX (k:=2) hs rfl (ad3 rfl) (by simp[Value.oneCell']) λw hs=>?_;rw[eS (by simp)] at hs;simp only[nz,adV,adW] at hs;refine gg (k:=2) (xs:=[.i 0,.i 0,.i 0,.i 0]) hs rfl rfl (λj v hj=>by rw[ad1];exact hj) ?_;exact hK w hs.drop.drop.drop
   |some hd=>
    rw[hh] at hK;dsimp only at hK;unfold mF;simp only[nz,adV,adW];simp only[tj];refine⟨rfl,?_⟩;simp only[nz,adV,adW];refine fE hs λr3 w hs=>?_;refine⟨by simp[aS],fX (k:=0) hs rfl (ad3 rfl) (by simp[Value.oneCell',aS]) λw hs=>?_⟩;rw[eS (by simp[aS])] at hs;simp only[nz,adV,adW] at hs;refine bn (k:=0) hs rfl rfl ?_;simp only[nz,adV,adW];refine qD (λgU=>?_) (λheq=>?_)
    ·rw[if_pos (show low hd.aF≠(i:Int) from gU)] at hK;refine⟨trivial,by simp,?_⟩;refine fX (k:=2) hs rfl (ad3 rfl) (by simp[Value.oneCell']) λw hs=>?_;rw[eS (by simp)] at hs;simp only[nz,adV,adW] at hs;refine gg (k:=2) (xs:=[.i 0,.i 0,.i 0,.i 0]) hs rfl rfl (λj v hj=>by rw[ad1];exact hj) ?_;exact hK w hs.drop.drop.drop
    ·rw[if_neg (show ¬low hd.aF≠(i:Int) from λhh=>hh heq)] at hK;refine gg (k:=0) (xs:=aS hd) hs rfl rfl (λj v hj=>by rw[ad1];exact hj) ?_;refine⟨rfl,?_⟩;refine fX (k:=2) hs rfl (ad3 rfl) (by simp[Value.oneCell',aS]) λw hs=>?_;rw[eS (by simp[aS])] at hs;simp only[nz,adV,adW] at hs;refine gg (k:=2) (xs:=aS hd) hs rfl rfl (λj v hj=>by rw[ad1];exact hj) ?_;exact hK w hs.drop.drop.drop
  ·rw[if_pos (.inr hj)] at hK;have ej:(j !=0)=true:=by simp[hj]
   rw[ej];exact Ka w r2 _ hK hs
end
def df(n:Nat)(x:List UInt8×Bool):List UInt8×Bool:=if x.2=true\/x.1.length<n then(x.1,true) else(x.1.drop n,false)
def iH(n:Nat)(x:List UInt8×Bool):Int:=if x.2=true\/x.1.length<n then 0 else jT (x.1.take n)
def Em(x:List UInt8×Bool):0<=iH 4 x/\iH 4 x<4294967296:=by
 unfold iH;split
 ·omega
 ·have h1:=oU (x.1.take 4);have h2:(x.1.take 4).length<=4:=by rw[ad2];omega
  have h3:256^(x.1.take 4).length<=256^4:=aeP (by decide) h2;have h4:(256:Nat)^4=4294967296:=rfl;rw[ki (by omega)];omega
def bE(seq:Int)(s:BA):List UInt8:=le .i64 8 seq++le .i64 4 s.size++s.data.toList
def vf(seq:Int)(s:BA):(bE seq s).length=12+s.size:=by
 simp only[bE,ad0,ay];rfl
def iK(D:aw)(at' to seq:Int):Option (List UInt8×Int):=
 if to<=at' then none else match iJ (D.read at').1.data.toList with
 |none=>none
 |some (m,j,d)=>
  if j≠0\/iH 8 (d.data.toList,false)≠seq then none
  else if(df 4 (df 8 (d.data.toList,false))).2=true\/32768<iH 4 (df 8 (d.data.toList,false)) then none
  else match take D at' to m (12+iH 4 (df 8 (d.data.toList,false))) with
  |none=>none
  |some t=>some (t.drop 12,at'+(dQ (12+iH 4 (df 8 (d.data.toList,false))).toNat:Int))
def wO:Option (List UInt8×Int)->Value
 |none=>.tuple ⟨[.string .empty,.i 0,.bool false]⟩
 |some (l,a)=>.tuple ⟨[.string (bs l),.i a,.bool true]⟩
def wq{D:aw}{at' number:Int}{size:Nat}:∀(n i:Nat) {t:List UInt8},jx D at' number size i n=some t->104* i<=size->size<=104* (i+n)->t.length=size-104* i
 |0,i,t,h,h1,h2=>by
  simp only[jx,aeh.injEq] at h;subst h;simp;omega
 |n+1,i,t,h,h1,h2=>by
  rw[kZ] at h;split at h
  ·cases h
  ·rename_i m j d hv;split at h
   ·rename_i hc;cases ht:jx D at' number size (i+1) n with
    |none=>rw[ht] at h;cases h
    |some u=>
     rw[ht] at h;simp only[aeK,aeh.injEq] at h;subst h;have hd:d.data.toList.length=d.size:=rfl;by_cases h3:104* (i+1)<=size
     ·have:=wq n (i+1) ht h3 (by omega);rw[ad0,this,hd,hc.2.2];omega
     ·
      have hz:∀(n i:Nat) {u:List UInt8},jx D at' number size i n=some u->size<=104* i->u.length=0:=by
       intro n
       induction n with
       |zero=>intro i u h _;simp only[jx,aeh.injEq] at h;subst h;rfl
       |succ n ih=>
        intro i u h hle;rw[kZ] at h;split at h
        ·cases h
        ·rename_i m j d hv;split at h
         ·rename_i hc;cases ht:jx D at' number size (i+1) n with
          |none=>rw[ht] at h;cases h
          |some v=>
           rw[ht] at h;simp only[aeK,aeh.injEq] at h;subst h;have:=ih (i+1) ht (by omega);have hd:d.data.toList.length=d.size:=rfl;rw[ad0,this,hd,hc.2.2];omega
         ·cases h
      have:=hz n (i+1) ht (by omega);rw[ad0,this,hd,hc.2.2];omega
   ·cases h
def take_length{D:aw}{at' to number size:Int}{t:List UInt8}(h:take D at' to number size=some t):(t.length:Int)=size/\0<=at'/\at'+(dQ size.toNat:Int)<=to/\to<=(D.safe.length:Int)/\0<=size:=by
 unfold take at h;split at h
 ·cases h
 ·rename_i hc;have hs:size.toNat<=104* dQ size.toNat:=by unfold dQ;split<;>omega
  have:=wq (dQ size.toNat) 0 h (by omega) (by omega);omega
section
variable {W w:World} {L:LH} {k d:Nat} {D:aw}
def uX{r n:Nat}{x:List UInt8×Bool}{K:VK}(h:St W w L)(hk:L[k]?=some (zu r (bs x.1) x.2))(hl:x.1.length<1099511627776)(hn:1<=n/\n<=8)
 (hK:∀w',St W w' (L.set k (zu r (bs (df n x).1) (df n x).2))->K (.i (iH n x)) w'):ao (some ⟨r,0,none⟩) (n:Int) K w:=by
 refine xy h hk ?_;have em:min2 (max2 (n:Int) 1) 8=((n:Nat):Int):=by unfold min2 max2;split<;>split<;>omega
 rw[em];obtain⟨l,t⟩:=x;unfold df iH at hK;dsimp only at hK hl⊢;by_cases hc:t=true\/l.length<n
 ·rw[if_pos hc,if_pos hc] at hK;have et:oq (bs l) t ((n:Nat):Int)=true:=by
   unfold oq;rcases hc with h1|h1
   ·rw[h1];rfl
   ·rw[bI,decide_eq_true (by omega)];simp
  unfold zv tX;rw[et,if_pos rfl,if_pos rfl];exact hK
 ·rw[if_neg hc,if_neg hc] at hK;have ht:t=false:=by cases t<;>simp_all
  have et:oq (bs l) t ((n:Nat):Int)=false:=by
   unfold oq;rw[ht,bI,decide_eq_false (by omega)];rfl
  unfold zv tX;rw[et,adY,kW,kV];exact hK
def Bj{r:Nat}{s:BA}{t:Bool}{K:VK}(h:St W w L)(hk:L[k]?=some (zu r s t))(hK:K (.bool t) w):bt (some ⟨r,0,none⟩) K w:=by
 unfold zu at hk;unfold bt;simp only[nz,adV,adW];refine bn h hk rfl ?_;simp only[nz,adV,adW];exact hK
def qQ(n:Nat)(x:List UInt8×Bool):(df n x).1.length<=x.1.length:=by unfold df;split<;>simp
def K9{at' to seq:Int}{K:VK}(h:St W w L)(hk:L[k]?=some (dK d D))(eO:D.Ok)(yj:0<=at')(Pz:to<=(D.safe.length:Int))
 (hK:∀w',St W w' L->K (wO (iK D at' to seq)) w'):da (some ⟨d,0,none⟩) at' to seq K w:=by
 have rX:=eO.lu;unfold iK at hK;unfold da;refine dc (λh1=>?_) (λh1=>?_)
 ·rw[if_pos (by omega)] at hK;exact hK w h
 rw[if_neg (by omega)] at hK;refine om h hk eO ?_;simp only[nz,adV,adW];have ou:=uH eO (i:=at') ⟨by omega,by omega⟩;generalize hx:(D.read at').1=X at *;rw[show X=bs X.data.toList from rfl];refine yz h (by rw[cy];omega) λw h=>?_;cases hv:iJ X.data.toList with
 |none=>
  rw[hv] at hK;unfold pR;simp only[nz,adV,adW];simp only[tj,aee,aes,ad1,adV,true_and];simp only[nz,adV,adW];refine fE h λr1 w h=>?_;refine⟨trivial,fX (k:=0) h rfl (ad3 rfl) (by simp[Value.oneCell']) λw h=>?_⟩;rw[eS (by simp)] at h;simp only[nz,adV,adW] at h;refine bn (k:=0) h rfl rfl ?_;simp only[nz,adV,adW];refine oD h λq w h=>?_;simp only[nz,adV,adW];refine uX (k:=0) (n:=8) (x:=([],false)) h rfl (by decide) (by decide) λw h=>?_;simp only[nz,adV,adW] at h⊢;unfold da.j1;simp only[nz,adV,adW];exact hK w h.drop.drop
 |some y=>
  obtain⟨m,j,dd⟩:=y;rw[hv] at hK;dsimp only at hK;have Ww:=yM hv;have xg:dd.data.toList.length=dd.size:=rfl;unfold pR;simp only[nz,adV,adW];simp only[tj,aee,aes,ad1,adV,true_and];simp only[nz,adV,adW];refine fE h λr1 w h=>?_;refine⟨trivial,fX (k:=0) h rfl (ad3 rfl) (by simp[Value.oneCell']) λw h=>?_⟩;rw[eS (by simp)] at h;simp only[nz,adV,adW] at h;refine bn (k:=0) h rfl rfl ?_;simp only[nz,adV,adW];rw[show dd=bs dd.data.toList from rfl];refine oD h λq w h=>?_;simp only[nz,adV,adW];have n1:=qQ 8 (dd.data.toList,false);dsimp only at n1;refine uX (k:=0) (n:=8) (x:=(dd.data.toList,false)) h rfl (by dsimp only;omega) (by decide) λw h=>?_;simp only[nz,adV,adW] at h⊢;refine bn (k:=1) h rfl (v:=.i j) rfl ?_;simp only[nz,adV,adW];have stop:∀w,(∀w',St W w' L->K (wO none) w')->St W w (zu q (bs (df 8 (dd.data.toList,false)).1) (df 8 (dd.data.toList,false)).2::pt r1 [.i m,.i j,.string (bs dd.data.toList)]::L)->da.j1 K (some ⟨q,0,none⟩) r1 (some ⟨d,0,none⟩) at' to true w:=λw hK h=>by
   unfold da.j1;simp only[nz,adV,adW];exact hK w h.drop.drop
  refine qD (λhj=>?_) (λhj=>?_)
  ·rw[if_pos (.inl hj)] at hK;exact stop w hK h
  by_cases hq:iH 8 (dd.data.toList,false)=seq
  ·rw[if_neg (by rintro(hh|hh);exact hh hj;exact hh hq)] at hK;have eb:(iH 8 (dd.data.toList,false)!=seq)=false:=by rw[hq];exact bne_self_eq_false seq
   rw[eb];unfold da.j1;simp only[nz,adV,adW];refine uX (k:=0) (n:=4) (x:=df 8 (dd.data.toList,false)) h rfl (by omega) (by decide) λw h=>?_;simp only[nz,adV,adW] at h⊢;refine Bj (k:=0) h rfl ?_;simp only[nz,adV,adW];have Dv:=Em (df 8 (dd.data.toList,false));generalize hz:df 4 (df 8 (dd.data.toList,false))=z at *;generalize hn6:iH 4 (df 8 (dd.data.toList,false))=n6 at *;have Sw:∀w,(∀w',St W w' L->K (wO none) w')->St W w (zu q (bs z.1) z.2::pt r1 [.i m,.i j,.string (bs dd.data.toList)]::L)->da.j2 K r1 (some ⟨d,0,none⟩) at' to n6 true w:=λw hK h=>by
    unfold da.j2;simp only[nz,adV,adW];exact hK w h.drop.drop
   refine pB (λht=>?_) (λht=>?_)
   ·rw[if_pos (.inl ht)] at hK;exact Sw w hK h
   by_cases hm:32768<n6
   ·rw[if_pos (.inr hm)] at hK;rw[decide_eq_true hm];exact Sw w hK h
   ·rw[if_neg (by rintro(hh|hh);(rw[ht] at hh;cases hh);exact hm hh)] at hK;rw[decide_eq_false hm];unfold da.j2;simp only[nz,adV,adW];refine bn (k:=1) h rfl (v:=.i m) rfl ?_;simp only[nz,adV,adW];have ew:adU.wrap (12+n6)=12+n6:=ar (by omega);rw[ew];refine DS (k:=k+2) h (by rw[aed,aed];exact hk) eO λw h=>?_;cases ht:take D at' to m (12+n6) with
    |none=>
     rw[ht] at hK;unfold oX;simp only[nz,adV,adW];exact hK w h.drop.drop
    |some t=>
     rw[ht] at hK;dsimp only at hK;obtain⟨l1,l2,l3,l4,l5⟩:=take_length ht;unfold oX;simp only[nz,adV,adW];refine iP h λw h=>?_;unfold iX;refine⟨⟨by omega,by rw[bI];omega⟩,?_⟩;rw[show(12:Int).toNat=12 from rfl,kV];obtain⟨p,hp⟩:=ad8 (show 0<=12+n6 by omega);rw[hp] at hK⊢l3;refine nw (by omega) ?_;simp only[nz,adV,adW];rw[adY] at hK l3;have Yy:adU.wrap (at'+(dQ p:Int))=at'+(dQ p:Int):=ar (by omega);rw[Yy];exact hK w h.drop.drop
  ·rw[if_pos (.inr hq)] at hK;have eb:(iH 8 (dd.data.toList,false)!=seq)=true:=by simp[hq]
   rw[eb];exact stop w hK h
def Iy{seq:Int}{s:BA}{K:VK}(h:St W w L)(hs:s.size<=1000000)(hK:∀w',St W w' L->K (.string (bs (bE seq s))) w'):oY seq s K w:=by
 have hd:s.data.toList.length=s.size:=rfl;unfold oY;refine⟨trivial,?_⟩;refine fE h λp w hs=>?_;have hs:St W w (buf p []::L):=by
  have h2:=(hs.push (A:=own none 0 0 1 (([]:List UInt8).map rI)) (nO 1)).perm (aem.swap _ _ _);exact qg (k:=0) (L:=buf p []::L) (A:=buf p []) rfl rfl h2
 refine gA (k:=0) hs rfl (by simp) λw hs=>?_;rw[show(min2 (max2 8 1) 8).toNat=8 from rfl] at hs;simp only[nz,adV,adW] at hs⊢;refine gA (k:=0) hs rfl (by simp only[ad0,ay,aes];omega) λw hs=>?_;rw[show(min2 (max2 4 1) 8).toNat=4 from rfl] at hs;simp only[nz,adV,adW] at hs⊢;refine na (k:=0) hs rfl (by simp only[ad0,ay,aes];omega) λw hs=>?_;simp only[nz,adV,adW] at hs⊢;refine jn (k:=0) hs rfl ?_;simp only[nz,adV,adW];rw[aeA];exact hK w hs.drop
structure PJ where
 lo:Int
 hi:Int
 at':Int
 seq:Int
 cR:Bool
def nR(d:Nat)(J:PJ):LV:=[.p (some ⟨d,0,none⟩),.i J.lo,.i J.hi,.i J.at',.i J.seq,.bool J.cR]
structure PJ.Ok(J:PJ)(D:aw):Prop where
 lo:0<=J.lo
 Kl:J.lo<=J.at'
 PS:J.at'<=J.hi
 hi:J.hi<=(D.safe.length:Int)
 seq:0<=J.seq/\J.seq<=1152921504606850000
def room(J:PJ)(n:Int):Prop:=0<=n/\n<=32768/\(dQ (12+n.toNat):Int)<=J.hi-J.at'
instance(J:PJ)(n:Int):Decidable (room J n):=by unfold room;infer_instance
def yu(J:PJ)(s:BA)(R:aw×Int):aw×PJ×Int:=
 if R.2≠0 then(R.1,{J with cR:=true},R.2) else(R.1,{J with at':=J.at'+(dQ (12+s.size):Int),seq:=J.seq+1},0)
def pK(D:aw)(J:PJ)(number:Int)(s:BA):aw×PJ×Int:=
 if J.cR=true then(D,J,9)
 else if number<1\/1152921504606846976<number then(D,J,1)
 else if ¬room J s.size\/1152921504606846976<=J.seq then(D,J,6)
 else yu J s (cS D J.at' J.hi number (bs (bE (J.seq+1) s)))
section
variable {r:Nat} {J:PJ}
def O6{K:VK}(h:St W w L)(hk:L[k]?=some (pt r (nR d J)))(hK:K (.i J.seq) w):gr (some ⟨r,0,none⟩) K w:=by
 unfold gr;simp only[nz,adV,adW];refine bn h hk rfl ?_;simp only[nz,adV,adW];exact hK
def E3{K:VK}(h:St W w L)(hk:L[k]?=some (pt r (nR d J)))(hK:∀w',St W w' (L.set k (pt r (nR d {J with at':=J.lo})))->K (.tuple ⟨[]⟩) w'):fO (some ⟨r,0,none⟩) K w:=by
 unfold fO;simp only[nz,adV,adW];refine bn h hk rfl ?_;simp only[nz,adV,adW];refine kP h hk (ad3 rfl) rfl λw h=>?_;exact hK w h
def Bl{n:Int}{K:VK}(h:St W w L)(hk:L[k]?=some (pt r (nR d J)))(hJ:J.Ok D)(eO:D.Ok)(hK:∀w',St W w' L->K (.bool (decide (room J n))) w'):fN (some ⟨r,0,none⟩) n K w:=by
 have rX:=eO.lu;obtain⟨j1,j2,j3,j4,j5⟩:=hJ;unfold fN;refine iP h λw h=>?_;have hh:=hK w h;have no: ¬room J n->K (.bool false) w:=λhn=>by rw[decide_eq_false hn] at hh;exact hh
 simp only[nz,adV,adW];refine dc (λh1=>?_) (λh1=>no (λhr=>by have:=hr.1;omega));refine dc (λh2=>?_) (λh2=>no (λhr=>by have:=hr.2.1;omega));refine bn h hk rfl ?_;simp only[nz,adV,adW];refine bn h hk rfl ?_;simp only[nz,adV,adW];obtain⟨m,rfl⟩:=ad8 (show 0<=n by omega);have ew:adU.wrap (12+(m:Int))=((12+m:Nat):Int):=by rw[ar (by omega)];omega
 rw[ew];refine nw (by omega) ?_;simp only[nz,adV,adW];refine gB h hk rfl ?_;refine gB h hk rfl ?_;have Yy:adU.wrap (J.hi-J.at')=J.hi-J.at':=ar (by omega);rw[Yy];have:decide ((dQ (12+m):Int)<=J.hi-J.at')=decide (room J m):=by
  rw[decide_eq_decide];unfold room;rw[adY];omega
 rw[this];exact hh
def Lg{k2:Nat}{number:Int}{s:BA}{K:VK}(h:St W w L)(hk:L[k]?=some (pt r (nR d J)))(rz:L[k2]?=some (dK d D))(gU:k≠k2)(hJ:J.Ok D)(eO:D.Ok)(hl:D.later.length<1000000)(hs:s.size<=reachBytes)
 (hK:∀w',St W w' ((L.set k2 (dK d (pK D J number s).1)).set k (pt r (nR d (pK D J number s).2.1)))->K (.i (pK D J number s).2.2) w'):aV (some ⟨r,0,none⟩) number s K w:=by
 have cV:s.size<=140737488351232:=hs;have rX:=eO.lu;obtain⟨j1,j2,j3,j4,j5⟩:=hJ;have hJ:J.Ok D:=⟨j1,j2,j3,j4,j5⟩;have same:∀e,pK D J number s=(D,J,e)->∀w,St W w L->K (.i e) w:=λe he w h=>by
  have:=hK w;rw[he] at this;refine this ?_;rw[jQ rz,jQ hk];exact h
 unfold aV;simp only[nz,adV,adW];refine bn h hk rfl ?_;simp only[nz,adV,adW];refine pB (λHw=>same 9 (by unfold pK;rw[if_pos Hw]) w h) (λHw=>?_);have Ut: ¬J.cR=true:=by rw[Hw];exact afr
 have bad:(number<1\/1152921504606846976<number)->aV.j1 K (some ⟨r,0,none⟩) s number true w:=λhb=>by
  unfold aV.j1;simp only[nz,adV,adW];exact same 1 (by unfold pK;rw[if_neg Ut,if_pos hb]) w h
 refine dc (λh1=>bad (.inl h1)) (λh1=>?_);by_cases h2:1152921504606846976<number
 ·rw[decide_eq_true h2];exact bad (.inr h2)
 rw[decide_eq_false h2];have hnb: ¬(number<1\/1152921504606846976<number):=by omega
 unfold aV.j1;simp only[nz,adV,adW];refine Bl h hk hJ eO λw h=>?_;have full:(¬room J s.size\/1152921504606846976<=J.seq)->∀w,St W w L->aV.j2 K (some ⟨r,0,none⟩) s number true w:=λhb w h=>by
  unfold aV.j2;simp only[nz,adV,adW];exact same 6 (by unfold pK;rw[if_neg Ut,if_neg hnb,if_pos hb]) w h
 simp only[nz,adV,adW];by_cases hr:room J s.size
 case neg=>
  rw[decide_eq_false hr];simp only[nz,adV,adW];exact full (.inl hr) w h
 rw[decide_eq_true hr];simp only[nz,adV,adW];refine bn h hk rfl ?_;simp only[nz,adV,adW];by_cases Mo:1152921504606846976<=J.seq
 ·have:decide (J.seq>=1152921504606846976)=true:=decide_eq_true Mo;rw[this];exact full (.inr Mo) w h
 have e0:decide (J.seq>=1152921504606846976)=false:=decide_eq_false Mo;rw[e0];unfold pK at hK;rw[if_neg Ut,if_neg hnb,if_neg (by rintro(hh|hh);exact hh hr;exact Mo hh)] at hK;unfold aV.j2;simp only[nz,adV,adW];refine iP h λw h=>?_;refine bn h hk rfl ?_;simp only[nz,adV,adW];refine bn h hk rfl ?_;simp only[nz,adV,adW];refine bn h hk rfl ?_;simp only[nz,adV,adW];refine bn h hk rfl ?_;simp only[nz,adV,adW];have ew:adU.wrap (J.seq+1)=J.seq+1:=ar (by omega);rw[ew];refine Iy h (by have:=hr.2.1;omega) λw h=>?_;simp only[nz,adV,adW];refine gB h hk rfl ?_;refine gB h hk rfl ?_;refine gB h hk rfl ?_;refine gB h hk rfl ?_;have xf:(bs (bE (J.seq+1) s)).size=12+s.size:=by rw[bI,vf]
 have SP:=hr.2.1;refine B3 (k:=k2) h rz eO (by omega) (by rw[xf];show _<=140737488351232;omega) λw h=>?_;simp only[nz,adV,adW];have Wy:dQ (12+s.size)<=400:=by unfold dQ;split<;>omega
 have Ls:=(Es (at':=J.at') (to:=J.hi) (number:=number) (s:=bs (bE (J.seq+1) s)) eO (by rw[xf];omega)).1;have yh:(L.set k2 (dK d (lay D J.at' J.hi number (bs (bE (J.seq+1) s))).1))[k]?=some (pt r (nR d J)):=by rw[List.getElem?_set_ne (λhh=>gU hh.symm)];exact hk
 refine gB h yh rfl ?_;unfold cS at hK;generalize hL:lay D J.at' J.hi number (bs (bE (J.seq+1) s))=R at *;obtain⟨D1,e1⟩:=R;dsimp only at h Ls yh hK⊢;have fin:∀(R:aw×Int) w,(∀w',St W w' ((L.set k2 (dK d (yu J s R).1)).set k (pt r (nR d (yu J s R).2.1)))->K (.i (yu J s R).2.2) w')->
  St W w (L.set k2 (dK d R.1))->aV.j3 K (some ⟨r,0,none⟩) s R.2 w:=λR w hK h=>by
  unfold yu at hK;obtain⟨D2,e2⟩:=R;dsimp only at hK h⊢;have SY:(L.set k2 (dK d D2))[k]?=some (pt r (nR d J)):=by rw[List.getElem?_set_ne (λhh=>gU hh.symm)];exact hk
  unfold aV.j3;refine qD (λhe=>?_) (λhe=>?_)
  ·rw[if_pos he] at hK;simp only[nz,adV,adW];refine kP h SY (ad3 rfl) rfl λw h=>?_;exact hK w h
  ·rw[if_neg (λhh=>hh he)] at hK;refine iP h λw h=>?_;simp only[nz,adV,adW];refine bn h SY rfl ?_;simp only[nz,adV,adW];have Yy:adU.wrap (12+(s.size:Int))=((12+s.size:Nat):Int):=by rw[ar (by omega)];omega
   rw[Yy];refine nw (by omega) ?_;simp only[nz,adV,adW];refine gB h SY rfl ?_;have ew3:adU.wrap (J.at'+(dQ (12+s.size):Int))=J.at'+(dQ (12+s.size):Int):=ar (by omega);rw[ew3];refine kP h SY (ad3 rfl) rfl λw h=>?_;refine bn h (fZ SY) rfl ?_;simp only[nz,adV,adW];rw[ew];refine kP h (fZ SY) (ad3 rfl) rfl λw h=>?_;rw[afb] at h;exact hK w h
 have eqb:∀e:Int,(e==0)=decide (e=0):=λe=>by by_cases he:e=0<;>simp[he]
 by_cases he:e1=0
 ·rw[if_neg (λhh=>hh he: ¬e1≠0)] at hK;have:(e1==0)=true:=by rw[eqb];exact decide_eq_true he
  rw[this];simp only[nz,adV,adW];refine bn h yh rfl ?_;simp only[nz,adV,adW];refine qI (k:=k2) h (fZ rz) Ls λw h=>?_;rw[afb] at h;simp only[nz,adV,adW];exact fin D1.sync w hK h
 ·rw[if_pos he] at hK;have:(e1==0)=false:=by rw[eqb];exact decide_eq_false he
  rw[this];simp only[nz,adV,adW];exact fin (D1,e1) w hK h
end
end
end Go.Sep
namespace Go.Up
open Go.Sep Go.Den Go.RowKit Go.Prog Go.Md Go.bA
def nb(n:Nat):List UInt8:=(aft 16).map λi=>UInt8.ofNat (n/256^i%256)
def ru(n:Nat):(nb n).length=16:=by simp[nb]
def Fz(m i:Nat)(hi:i<8):Value.int .u8 (IntKind.u8.wrap (shr .u64 (m:Int) (adU.wrap (8* (i:Int)))))=rI (UInt8.ofNat (m/256^i%256)):=by
 rw[ar (by omega)];unfold rI shr;rw[UInt8.toNat_ofNat_of_lt' (by show _<256;omega),Int.fdiv_eq_ediv_of_nonneg _ (Int.le_of_lt (Int.pow_pos (by decide)))]
 congr 1
 have e8:∀x:Int,IntKind.u8.wrap x=x%256:=λx=>by simp[IntKind.wrap,IntKind.bits,IntKind.signed]
 have e2:(8* (i:Int)).toNat=8* i:=by omega
 have e4:min (8* i) IntKind.u64.bits=8* i:=by show min (8* i) 64=_;omega
 have e3:(2:Int)^(8* i)=((256^i:Nat):Int):=by rw[Int.pow_mul];norm_cast
 rw[e8,e2,e4,e3];omega
def Xh(n i:Nat)(hi:i<8):n%18446744073709551616/256^i%256=n/256^i%256:=by
 match i,hi with
 |0,_|1,_|2,_|3,_|4,_|5,_|6,_|7,_=>omega
def Xi(n i:Nat)(hi:i<8):n/18446744073709551616/256^i%256=n/256^(8+i)%256:=by
 match i,hi with
 |0,_|1,_|2,_|3,_|4,_|5,_|6,_|7,_=>omega
section
variable {W:World} {L:LH} {K:VK} {X:WK}
def yH{r o:Nat}{cs:LV}{v:Value}{f:LV->LH}[i:Lc (pt r) L cs f](ho:o<cs.length)(h1:v.oneCell'=true)(h:T W (f (cs.set o v)) X):T W L (st ⟨r,o,none⟩ v X):=λw hs=>by
 obtain⟨k,hk,e⟩:=i.at_;exact kP hs hk ho h1 λw' h'=>h w' (by rw[e];exact h')
def Sv{r:Nat}{l:List UInt8}{f:LV->LH}{K:BA->WK}[i:Lc (pt r) L (l.map rI) f](h:T W L (K (bs l))):T W L (RV (some ⟨r,0,none⟩) l.length K):=λw hs=>
 let⟨_,hk,_⟩:=i.at_;OS hs hk rfl (h w hs)
def Sy(b:OA)(c e:Nat):tR b c 0 e=b:=by
 unfold tR;split
 ·rfl
 ·cases b with
  |none=>rfl
  |some a=>simp[Addr.add]
def Qb{b:OA}{n c e:Nat}{K:OA->Nat->Nat->WK}(h:T W L (K b n c)):T W L (oo b n c e none none K):=by
 unfold oo;rw[Sy];exact h
def Ie(n i:Nat):LV:=(aft 16).map λj=>if j<i\/8<=j/\j<8+i then rI (UInt8.ofNat (n/256^j%256)) else .int .u8 0
def Sg{n:Nat}(h:T W L (K (.string (bs (nb n))))):T W L (sw (nm n) K):=by
 unfold sw;apply ws;intros;rename_i r1 r2;intro w hs;refine⟨λvs w=>∃i:Nat,i<=8/\vs=[.p (some (ad r1 0)),.string .empty,.p (some (ad r2 0)),.i (i:Int)]/\St W w (pt r2 (Ie n i)::pt r1 (nm n)::L),
  λvs _=>match vs with|[_,_,_,.int _ j]=>8-j.toNat|_=>0,⟨0,ad6 _,rfl,hs⟩,?_⟩
 rintro a1 s1 a2 n1 w2 ⟨i,hi,e,hs⟩;cases e
 refine T.at ?_ hs;refine dX (λh1=>?_) (λh1=>?_)
 ·have aZ:i<8:=by omega
  have e8:adU.wrap (8* (i:Int))=8* (i:Int):=ar (by omega);have e9:adU.wrap (8+(i:Int))=((8+i:Nat):Int):=by rw[ar (by omega)];omega
  have e5:=mh i;simp only[dZ,ad1,e8,e9,e5,adY,afn]
  repeat' first|apply ws;intros|apply wb|with_reducible first|refine cL (by omega) ?_|refine yH (by simp[Ie];omega) rfl ?_|fail
  rw[<-e8,Fz _ _ aZ,Fz _ _ aZ,Xh _ _ aZ,Xi _ _ aZ];have e:((Ie n i).set i (rI (UInt8.ofNat (n/256^i%256)))).set (8+i) (rI (UInt8.ofNat (n/256^(8+i)%256)))=Ie n (i+1):=by
   apply afg;intro j;rw[aet,aet];simp only[Ie,ae2,aen,List.length_range,aeJ];by_cases h1:8+i=j
   ·subst h1;rw[if_pos rfl,if_pos (by omega),afq (by omega),aeK,if_pos (by omega)]
   ·rw[if_neg h1];by_cases h2:i=j
    ·subst h2;rw[if_pos rfl,if_pos (by omega),afq (by omega),aeK,if_pos (by omega)]
    ·rw[if_neg h2];by_cases h3:j<16
     ·rw[afq h3,aeK,aeK];by_cases h4:j<i\/8<=j/\j<8+i
      ·rw[if_pos h4,if_pos (by omega)]
      ·rw[if_neg h4,if_neg (by omega)]
     ·rw[aeZ (by simpa using h3)];rfl
  rw[e];exact λw3 h3=>⟨⟨i+1,aZ,rfl,h3⟩,by show 8-((i+1:Nat):Int).toNat<8-(i:Int).toNat;omega⟩
 ·have he:i=8:=by omega
  subst he;have e:Ie n 8=(nb n).map rI:=by
   unfold Ie nb;rw[afx];apply ae6;intro j hj;rw[if_pos (by have:=List.mem_range.1 hj;omega)];rfl
  rw[e];refine Qb ?_;have:=Sv (W:=W) (L:=Sep.pt r2 ((nb n).map rI)::Sep.pt r1 (nm n)::L) (r:=r2) (l:=nb n) (K:=λs2=>K (.string s2)) (by exact T.dp h);rw[ru] at this;exact this
def W8{A j:Nat}{c:UInt8}(hj:j<8)(hA:A<256^j):bC .u64 .or (A:Int) (shl .u64 (IntKind.u64.wrap (c.toNat:Int)) (8* (j:Int)))=((A+c.toNat* 256^j:Nat):Int):=by
 have hc:=c.toNat_lt;have Lp:256^j=2^(8* j):=by rw[show(256:Nat)=2^8 from rfl,<-Nat.pow_mul]
 have aaB:c.toNat* 2^(8* j)+2^(8* j)<=2^64:=by
  have h1:(c.toNat+1)* 2^(8* j)<=2^8* 2^(8* j):=aeL _ hc;rw[<-Nat.pow_add,afl,Nat.one_mul] at h1;exact Nat.le_trans h1 (aeP (by decide) (by omega))
 rw[Lp] at hA;have ew:IntKind.u64.wrap (c.toNat:Int)=(c.toNat:Int):=oC (by omega);have esh:shl .u64 (c.toNat:Int) (8* (j:Int))=((c.toNat* 2^(8* j):Nat):Int):=by
  unfold shl;have h1:(8* (j:Int)).toNat=8* j:=by omega
  have h2:min (8* j) IntKind.u64.bits=8* j:=by show min (8* j) 64=_;omega
  rw[h1,h2];have:((c.toNat:Int)* 2^(8* j))=((c.toNat* 2^(8* j):Nat):Int):=by norm_cast
  rw[this];exact oC (by omega)
 rw[ew,esh,Lp];show IntKind.u64.wrap (((BitVec.ofInt 64 (A:Int)|||BitVec.ofInt 64 ((c.toNat* 2^(8* j):Nat):Int)).toNat:Nat):Int)=_;rw[BitVec.toNat_or];have t1:(BitVec.ofInt 64 (A:Int)).toNat=A:=by simp only[BitVec.toNat_ofInt];omega
 have t2:(BitVec.ofInt 64 ((c.toNat* 2^(8* j):Nat):Int)).toNat=c.toNat* 2^(8* j):=by simp only[BitVec.toNat_ofInt];omega
 rw[t1,t2,Nat.or_comm,<-Nat.shiftLeft_eq,<-Nat.shiftLeft_add_eq_or_of_lt hA,Nat.add_comm,Nat.shiftLeft_eq];exact oC (by omega)
def D4{l:List UInt8}{i:Nat}{K:UInt8->WK}{c:UInt8}(hc:l[i]?=some c)(h:T W L (K c)):T W L (vc (bs l) (i:Int) K):=λw hs=>⟨c,⟨by omega,by rw[adY];exact hc⟩,h w hs⟩
def At:∀(l m:List UInt8),kd (l++m)=kd l+256^l.length* kd m
 |[],m=>by simp[kd]
 |c::l,m=>by simp only[afa,kd,At l m,aee,Nat.pow_succ];rw[Nat.mul_add,Nat.add_assoc,afv (256^l.length) 256,Nat.mul_assoc]
def K4(l:List UInt8):Nat:=if l.length<16 then 0 else kd (l.take 16)
def Hp{l:List UInt8}(hl:l.length<1099511627776)(h:T W L (K (.tuple ⟨[.agg ⟨nm (K4 l)⟩,.bool (decide (16<=l.length))]⟩))):T W L (nH (bs l) K):=by
 unfold nH K4 at *;rw[bI];apply ws;intros;rename_i r1 r2;refine dX (λh1=>?_) (λh1=>?_)
 ·have h2:l.length<16:=by omega
  rw[if_pos h2,decide_eq_false (by omega)] at h;apply ws;intros;exact T.dp h
 have h2: ¬l.length<16:=by omega
 rw[if_neg h2,decide_eq_true (by omega)] at h;intro w hs;refine⟨λvs w=>∃i:Nat,i<=8/\vs=[.p (some (ad r1 0)),.bool false,.p (some (ad r2 0)),.i (i:Int)]/\St W w (Sep.pt r2 [.u (kd ((l.drop 8).take i):Int),.u (kd (l.take i):Int)]::Sep.pt r1 [.u 0,.u 0]::L),
  λvs _=>match vs with|[_,_,_,.int _ j]=>8-j.toNat|_=>0,⟨0,ad6 _,rfl,hs⟩,?_⟩
 rintro a1 b1 a2 n1 w2 ⟨i,hi,e,hs⟩;cases e
 refine T.at ?_ hs;refine dX (λh1=>?_) (λh1=>?_)
 ·have aZ:i<8:=by omega
  have e8:adU.wrap (8* (i:Int))=8* (i:Int):=ar (by omega);have e9:adU.wrap (8+(i:Int))=((8+i:Nat):Int):=by rw[ar (by omega)];omega
  have e5:=mh i;have g1:i<l.length:=by omega
  have g2:8+i<l.length:=by omega
  have v1:=oU (l.take i);have v2:=oU ((l.drop 8).take i);rw[ad2,afp (by omega)] at v1;rw[ad2,ad9,afp (by omega)] at v2;have c1:=adX g1;have c2:=adX g2;simp only[dZ,ad1,e8,e9,e5];apply ws;intros;refine D4 c1 ?_
  repeat' first|apply ws;intros|apply wb|with_reducible first|refine cL (by omega) ?_|refine D4 c1 ?_|refine D4 c2 ?_|fail
  rw[W8 aZ v1,W8 aZ v2];have t1:kd (l.take i)+l[i].toNat* 256^i=kd (l.take (i+1)):=by rw[aeS g1,pa,ad2,afp (by omega)]
  have t2:kd ((l.drop 8).take i)+l[8+i].toNat* 256^i=kd ((l.drop 8).take (i+1)):=by
   have hd:min i (l.drop 8).length=i:=by rw[ad9];omega
   rw[aeS (by rw[ad9];omega),pa,ad2,hd,List.getElem_drop]
  rw[t1,t2];exact λw3 h3=>⟨⟨i+1,aZ,rfl,h3⟩,by show 8-((i+1:Nat):Int).toNat<8-(i:Int).toNat;omega⟩
 ·have he:i=8:=by omega
  subst he;have v1:=oU (l.take 8);rw[ad2,afp (by omega)] at v1;have e:l.take 16=l.take 8++(l.drop 8).take 8:=by rw[<-List.take_add]
  have ev:kd (l.take 16)=kd (l.take 8)+18446744073709551616* kd ((l.drop 8).take 8):=by
   rw[e,At,ad2,afp (by omega)]
  have e3:(256:Nat)^8=18446744073709551616:=rfl;rw[NJ (kd (l.take 16)) (by omega) (by omega)];apply ws;intros;exact T.dp h
end
class o8(b:OA)(n c:outParam Nat)(L:LH)(e:outParam Nat)(xs:outParam (LV))(f:outParam (HP->LH)):Prop where
 at_:∃k:Nat,L[k]?=some (own b n c e xs)/\∀A,f A=L.set k A
instance o8.head{b:OA}{n c e:Nat}{xs:LV}{L:LH}:o8 b n c (own b n c e xs::L) e xs (λA=>A::L):=⟨0,rfl,λ_=>rfl⟩
instance o8.tail{b:OA}{n c e:Nat}{xs:LV}{L:LH}{A:HP}{f:HP->LH}[h:o8 b n c L e xs f]:o8 b n c (A::L) e xs (λB=>A::f B):=by
 obtain⟨k,h1,h2⟩:=h.at_;exact⟨k+1,h1,λy=>by rw[h2];rfl⟩
section
variable {W:World} {L:LH} {K:VK} {X:WK} {b:OA} {n c e:Nat} {xs ys:LV} {f:HP->LH}
def M9{s:BA}{K:OA->Nat->Nat->WK}[i:o8 b n c L 1 xs f](hb:n+s.size<=140737488355328)(h:∀b' c',T W (f (own b' (n+s.size) c' 1 (xs++strCells s))) (K b' (n+s.size) c')):T W L (BX b n c s K):=λw hs=>by
 obtain⟨k,hk,e⟩:=i.at_;exact BW hs hk hb λb' c' w' h'=>h b' c' w' (by rw[e];exact h')
def M'{r bytes:Nat}{zero:LV}{g:LV->LH}{K:OA->Nat->Nat->WK}[i:o8 b n c L e xs f][j:Lc (Sep.pt r) L ys g](hy:ys.length=e)(hz:zero.length=e)(hb:(n+1)* bytes<=140737488355328)(h1:∀v∈ys,v.oneCell'=true)
 (h:∀b' c',T W (f (own b' (n+1) c' e (xs++ys))) (K b' (n+1) c'))(hm:n+1<=9223372036854775807:=by omega):T W L (eW e bytes zero b n c (some ⟨r,0,none⟩) 1 K):=λw hs=>by
 obtain⟨k,hk,e1⟩:=i.at_;obtain⟨k2,rz,_⟩:=j.at_;refine qj hs hk (ys:=ys) (B0 (o:=0) hs rz (by omega) λj v hv=>by rw[ad1];exact hv) (λhh=>by cases hh) hz hb hm h1 λb' c' w' h'=>h b' c' w' (by rw[e1];exact h')
def bR{i:Int}{K:Addr->WK}[l:o8 b n c L e xs f](hi:0<=i/\i<n)(h:∀r,b=some ⟨r,0,none⟩->T W L (K ⟨r,i.toNat* e,none⟩)):T W L (fP b n i e K):=λw hs=>by
 obtain⟨k,hk,_⟩:=l.at_;exact nS hs hk hi λr hr=>h r hr w hs
def rd(r:Nat)(x:List UInt8×Bool):HP:=zu r (bs x.1) x.2
variable {r:Nat} {x:List UInt8×Bool} {g:List UInt8×Bool->LH}
def E5[i:Lc (rd r) L x g](hl:x.1.length<1099511627776)(m:Nat)(hm:1<=m/\m<=8)(h:T W (g (df m x)) (K (.i (iH m x)))):T W L (ao (some ⟨r,0,none⟩) (m:Int) K):=λw hs=>by
 obtain⟨k,hk,e⟩:=i.at_;exact uX hs hk hl hm λw' h'=>h w' (by rw[e];exact h')
def rj[i:Lc (rd r) L x g](hl:x.1.length<1099511627776)(h:T W (g (df 1 x)) (K (.i (iH 1 x)))):T W L (ao (some ⟨r,0,none⟩) 1 K):=E5 hl 1 (by decide) h
def Ak[i:Lc (rd r) L x g](hl:x.1.length<1099511627776)(h:T W (g (df 2 x)) (K (.i (iH 2 x)))):T W L (ao (some ⟨r,0,none⟩) 2 K):=E5 hl 2 (by decide) h
def Ku[i:Lc (rd r) L x g](hl:x.1.length<1099511627776)(h:T W (g (df 4 x)) (K (.i (iH 4 x)))):T W L (ao (some ⟨r,0,none⟩) 4 K):=E5 hl 4 (by decide) h
def tg[i:Lc (rd r) L x g](hl:x.1.length<1099511627776)(h:T W (g (df 8 x)) (K (.i (iH 8 x)))):T W L (ao (some ⟨r,0,none⟩) 8 K):=E5 hl 8 (by decide) h
def vY(x:List UInt8×Bool):Nat:=if x.2=true then 0 else K4 x.1
def qQ(m:Nat)(x:List UInt8×Bool):(df m x).1.length<=x.1.length:=by
 unfold df;split
 ·exact ad4 _
 ·simp
def V'(m:Nat)(x:List UInt8×Bool):List UInt8:=if x.2=true\/x.1.length<m then[] else x.1.take m
def VR[i:Lc (rd r) L x g](m:Nat)(h:T W (g (df m x)) (K (.string (bs (V' m x))))):T W L (cF (some ⟨r,0,none⟩) (m:Int) K):=λw hs=>by
 obtain⟨k,hk,e⟩:=i.at_;refine B2 hs (show L[k]?=some (zu r (bs x.1) x.2) from hk) λw' h'=>?_;obtain⟨l,t⟩:=x;unfold df V' at h;dsimp only at h h'⊢;by_cases hc:t=true\/l.length<m
 ·rw[if_pos hc,if_pos hc] at h;have et:oq (bs l) t m=true:=by
   unfold oq;rcases hc with h1|h1
   ·rw[h1];rfl
   ·rw[bI,decide_eq_true (by omega)];simp
  unfold zv tX at *;rw[et] at h'⊢;exact h w' (by rw[e];exact h')
 ·rw[if_neg hc,if_neg hc] at h;have ht:t=false:=by cases t<;>simp_all
  have et:oq (bs l) t m=false:=by
   unfold oq;rw[ht,bI,decide_eq_false (by omega)];rfl
  unfold zv tX at *;rw[et,adY,kV] at h';rw[et,adY,kW];exact h w' (by rw[e];exact h')
def QJ(x:List UInt8×Bool):K4 (V' 16 x)=vY x:=by
 unfold vY V' K4;obtain⟨l,t⟩:=x;cases t with
 |true=>rfl
 |false=>
  dsimp only;by_cases h2:l.length<16
  ·have e:(if false=true\/l.length<16 then([]:List UInt8) else l.take 16)=[]:=if_pos (Or.inr h2);rw[e];simp[h2]
  ·have e:(if false=true\/l.length<16 then([]:List UInt8) else l.take 16)=l.take 16:=if_neg (by simp;omega);rw[e,afu,ad2,if_neg (by omega),if_neg (by decide),if_neg h2];rfl
def E4[i:Lc (rd r) L x g](hl:x.1.length<1099511627776)(h:T W (g (df 16 x)) (K (.agg ⟨nm (vY x)⟩))):T W L (bm (some ⟨r,0,none⟩) K):=by
 unfold bm;apply ws;intros;refine VR 16 ?_;have hr:(V' 16 x).length<1099511627776:=by unfold V';split<;>simp;omega
 repeat' first|apply ws;intros|apply wb|with_reducible refine Hp hr ?_|fail
 rw[QJ];exact T.dp h
def uW[i:Lc (rd r) L x g](h:T W L (K (.bool x.2))):T W L (bt (some ⟨r,0,none⟩) K):=λw hs=>by
 obtain⟨k,hk,e⟩:=i.at_;exact Bj hs (show L[k]?=some (zu r (bs x.1) x.2) from hk) (h w hs)
def Pc[i:Lc (rd r) L x g](h:T W L (K (.bool (!x.2&&decide (x.1=[]))))):T W L (iB (some ⟨r,0,none⟩) K):=λw hs=>by
 obtain⟨k,hk,e⟩:=i.at_;exact Hq hs (show L[k]?=some (zu r (bs x.1) x.2) from hk) (h w hs)
def MV{α:Type}{P:α->HP}{a:α}{f:α->LH}[i:Lc P L a f](h:∀R,(∀y Y,T W (f y) Y->T W (P y::R) Y)->T W (P a::R) X):T W L X:=λw hs=>by
 obtain⟨k,hk,e⟩:=i.at_;refine h (L.eraseIdx k) (λy Y hy w' h'=>hy w' ?_) w (hs.focus hk);rw[e];exact St.nJ h' hk
def R8[i:Lc (rd r) L x g](h:T W L (K (.i (if x.2=true then 0 else(x.1.length:Int))))):T W L (mA (some ⟨r,0,none⟩) K):=by
 unfold mA;simp only[zX,dZ,ad1,Option.isNone_some,cf];intro w hs;obtain⟨k,hk,e⟩:=i.at_;refine bn hs (show L[k]?=some (Sep.pt r [.string (bs x.1),.bool x.2]) from hk) rfl ?_;rw[MH];cases hx:x.2 with
 |true=>rw[gW];rw[hx,if_pos rfl] at h;exact h w hs
 |false=>
  rw[cf];refine bn hs (show L[k]?=some (Sep.pt r [.string (bs x.1),.bool x.2]) from hk) rfl ?_;rw[MG];rw[hx,if_neg (by decide)] at h;exact h w hs
variable {p:Nat} {l:List UInt8} {q:List UInt8->LH}
def EY[i:Lc (buf p) L l q](hl:l.length<1099511627776)(m:Nat)(hm:1<=m/\m<=8){n:Int}(h:T W (q (l++le .i64 m n)) (K (.tuple ⟨[]⟩))):T W L (aC (some ⟨p,0,none⟩) (m:Int) n K):=λw hs=>by
 obtain⟨k,hk,e⟩:=i.at_;refine gA hs hk hl λw' h'=>h w' ?_;have em:min2 (max2 (m:Int) 1) 8=((m:Nat):Int):=by unfold min2 max2;split<;>split<;>omega
 rw[em,adY] at h';rw[e];exact h'
def pW[i:Lc (buf p) L l q](hl:l.length<1099511627776){n:Int}(h:T W (q (l++le .i64 1 n)) (K (.tuple ⟨[]⟩))):T W L (aC (some ⟨p,0,none⟩) 1 n K):=EY hl 1 (by decide) h
def Aj[i:Lc (buf p) L l q](hl:l.length<1099511627776){n:Int}(h:T W (q (l++le .i64 2 n)) (K (.tuple ⟨[]⟩))):T W L (aC (some ⟨p,0,none⟩) 2 n K):=EY hl 2 (by decide) h
def Kp[i:Lc (buf p) L l q](hl:l.length<1099511627776){n:Int}(h:T W (q (l++le .i64 4 n)) (K (.tuple ⟨[]⟩))):T W L (aC (some ⟨p,0,none⟩) 4 n K):=EY hl 4 (by decide) h
def uV[i:Lc (buf p) L l q](hl:l.length<1099511627776){n:Int}(h:T W (q (l++le .i64 8 n)) (K (.tuple ⟨[]⟩))):T W L (aC (some ⟨p,0,none⟩) 8 n K):=EY hl 8 (by decide) h
def qk[i:Lc (buf p) L l q](h:T W L (K (.string (bs l)))):T W L (bW (some ⟨p,0,none⟩) K):=λw hs=>by
 obtain⟨k,hk,e⟩:=i.at_;exact jn hs hk (h w hs)
def WY[i:Lc (buf p) L l q](h:∀b c R,(∀l' b n c Y,n=l'.length->T W (q l') Y->T W (Sep.pt p [.l b n c]::own b n c 1 (l'.map rI)::R) Y)->T W (Sep.pt p [.l b l.length c]::own b l.length c 1 (l.map rI)::R) X):T W L X:=
 MV (P:=buf p) λR hc w hs=>by
  obtain⟨⟨b,c⟩,hs⟩:=hs.ex;exact h b c R (λl' b n c Y hn hy w h'=>hc l' Y hy w (by subst hn;exact St.nV (b,c) (St.join h'))) w hs.split
def EX[i:Lc (buf p) L l q](hl:l.length<1099511627776){n:Nat}(h:T W (q (l++nb n)) (K (.tuple ⟨[]⟩))):T W L (iA (some ⟨p,0,none⟩) (nm n) K):=by
 unfold iA;refine WY (p:=p) λb c R hc=>?_;simp only[zX]
 repeat' first|apply ws;intros|apply wb|with_reducible first|refine Sg ?_|refine M9 (by rw[bI,ru];omega) λ_ _=>?_|fail
 have e:l.map rI++strCells (bs (nb n))=(l++nb n).map rI:=by rw[aeu];rfl
 rw[e];exact T.drop (hc _ _ _ _ _ (by rw[ad0,bI]) h)
def R6[i:Lc (buf p) L l q](hl:l.length<1099511627776){b:Bool}(h:T W (q (l++[if b then 1 else 0])) (K (.tuple ⟨[]⟩))):T W L (mz (some ⟨p,0,none⟩) b K):=by
 unfold mz;cases b with
 |true=>rw[gW];refine pW hl (wu ?_);exact h
 |false=>rw[cf];refine pW hl (wu ?_);exact h
end
end Go.Up
namespace Go.Up
open Go.Sep Go.Den Go.Md
def CN{p:Int->Prop}(n:Nat)(h:∀f:Fin n,p (f.val:Int)){f:Int}(h0:0<=f)(h1:f<n):p f:=by
 have:=h ⟨f.toNat,by omega⟩;simp only[Int.toNat_of_nonneg h0] at this;exact this
section
variable {f:Int}
def Hd(h0:0<=f)(h1:f<256):bC .i64 .and f 2=0↔ ¬(has f 2):=CN (p:=λf=>bC .i64 .and f 2=0↔ ¬(has f 2)) 256 (by decide+kernel) h0 h1
def Hc(h0:0<=f)(h1:f<256):bC .i64 .and f 4=0↔ ¬(has f 4):=CN (p:=λf=>bC .i64 .and f 4=0↔ ¬(has f 4)) 256 (by decide+kernel) h0 h1
def OQ(h0:0<=f)(h1:f<256):bC .i64 .and f 8=0↔ ¬(has f 8):=CN (p:=λf=>bC .i64 .and f 8=0↔ ¬(has f 8)) 256 (by decide+kernel) h0 h1
def VE(h0:0<=f)(h1:f<256):bC .i64 .and f 16=0↔ ¬(has f 16):=CN (p:=λf=>bC .i64 .and f 16=0↔ ¬(has f 16)) 256 (by decide+kernel) h0 h1
def VD(h0:0<=f)(h1:f<256):bC .i64 .and f 32=0↔ ¬(has f 32):=CN (p:=λf=>bC .i64 .and f 32=0↔ ¬(has f 32)) 256 (by decide+kernel) h0 h1
def OR(h0:0<=f)(h1:f<256):bC .i64 .and f 64=0↔ ¬(has f 64):=CN (p:=λf=>bC .i64 .and f 64=0↔ ¬(has f 64)) 256 (by decide+kernel) h0 h1
def Kj(h0:0<=f)(h1:f<256):bC .i64 .and f 128=0↔ ¬(has f 128):=CN (p:=λf=>bC .i64 .and f 128=0↔ ¬(has f 128)) 256 (by decide+kernel) h0 h1
def Tj(h0:0<=f)(h1:f<256):bC .i64 .and f 12=0↔ ¬(gw f):=CN (p:=λf=>bC .i64 .and f 12=0↔ ¬(gw f)) 256 (by decide+kernel) h0 h1
def Zv(h0:0<=f)(h1:f<256):bC .i64 .and f 48=0↔ ¬(has f 16\/has f 32):=CN (p:=λf=>bC .i64 .and f 48=0↔ ¬(has f 16\/has f 32)) 256 (by decide+kernel) h0 h1
def Zw(h0:0<=f)(h1:f<256):bC .i64 .and f 6=6↔(has f 2/\has f 4):=CN (p:=λf=>bC .i64 .and f 6=6↔(has f 2/\has f 4)) 256 (by decide+kernel) h0 h1
def ac4(h0:0<=f)(h1:f<256):bC .i64 .and f 240=0↔ ¬(16<=f):=CN (p:=λf=>bC .i64 .and f 240=0↔ ¬(16<=f)) 256 (by decide+kernel) h0 h1
def ac5(h0:0<=f)(h1:f<256):bC .i64 .and f 192=0↔(f<64):=CN (p:=λf=>bC .i64 .and f 192=0↔(f<64)) 256 (by decide+kernel) h0 h1
def Ti(h0:0<=f)(h1:f<256):bC .i64 .andNot f 1=f/2* 2:=CN (p:=λf=>bC .i64 .andNot f 1=f/2* 2) 256 (by decide+kernel) h0 h1
def Th(h0:0<=f)(h1:f<16):bC .i64 .andNot f 8=f%8:=CN (p:=λf=>bC .i64 .andNot f 8=f%8) 16 (by decide+kernel) h0 h1
def Zt(h0:0<=f)(h1:f<16):bC .i64 .or f 8=f%8+8:=CN (p:=λf=>bC .i64 .or f 8=f%8+8) 16 (by decide+kernel) h0 h1
def Tk(h0:0<=f)(h1:f<256):bC .i64 .and f 6=f/2%4* 2:=CN (p:=λf=>bC .i64 .and f 6=f/2%4* 2) 256 (by decide+kernel) h0 h1
def rl(n:Int):Prop:= -9223372036854775808<=n/\n<=9223372036854775807
def VC(h:rl f):(bC .i64 .andNot f 7!=0)=decide (f<0\/7<f):=by
 have key:∀x:BitVec 64,(x&&&~~~(BitVec.ofInt 64 7))=0#64↔x.toNat<8:=λx=>by
  constructor
  ·intro hx;refine Nat.lt_pow_two_of_testBit (n:=3) _ λi hi=>?_;have:=congrArg (λy=>y.getLsbD i) hx;by_cases aaM:i<64
   ·simp only[BitVec.getLsbD_and,BitVec.getLsbD_not,BitVec.getLsbD_zero,aaM,decide_true,ae0] at this;have h7:(BitVec.ofInt 64 7).getLsbD i=false:=by
     have:(BitVec.ofInt 64 7).toNat=7:=rfl;show Nat.testBit (BitVec.ofInt 64 7).toNat i=false;rw[this];exact Nat.testBit_lt_two_pow (Nat.lt_of_lt_of_le (by decide:7<2^3) (aeP (by decide) hi))
    rw[h7] at this;simpa [BitVec.getLsbD] using this
   ·exact Nat.testBit_lt_two_pow (Nat.lt_of_lt_of_le x.isLt (aeP (by decide) (by omega)))
  ·intro hx;have Un:x=BitVec.ofNat 64 x.toNat:=by simp
   rw[Un];generalize x.toNat=m at hx
   match m,hx with
   |0,_|1,_|2,_|3,_|4,_|5,_|6,_|7,_=>rfl
 unfold rl at h;unfold bC;dsimp only;show(adU.wrap (((BitVec.ofInt 64 f&&&~~~(BitVec.ofInt 64 7)).toNat:Nat):Int)!=0)=_;have hw:∀y:BitVec 64,(adU.wrap ((y.toNat:Nat):Int)!=0)=decide (y≠0#64):=λy=>by
  have hy:=y.isLt;have:adU.wrap ((y.toNat:Nat):Int)=0↔y=0#64:=by
   constructor
   ·intro h0;apply BitVec.eq_of_toNat_eq;simp[IntKind.wrap,IntKind.bits,IntKind.signed] at h0;simp;split at h0<;>omega
   ·intro h0;subst h0;rfl
  by_cases h0:y=0#64
  ·rw[decide_eq_false (by simpa using h0)];simp[this.2 h0]
  ·rw[decide_eq_true h0];have: ¬adU.wrap ((y.toNat:Nat):Int)=0:=λhh=>h0 (this.1 hh);simpa using this
 rw[hw,decide_eq_decide,ne_eq,key];simp only[BitVec.toNat_ofInt];omega
def Zu(h:rl f):bC .i64 .andNot f 7=0↔ ¬(f<0\/7<f):=by
 have:=VC h;by_cases h1:f<0\/7<f
 ·rw[decide_eq_true h1] at this;simpa [h1] using this
 ·rw[decide_eq_false h1] at this;simpa [h1] using this
end
end Go.Up
namespace Go.Up
open Go.Sep Go.Den Go.RowKit Go.Prog Go.Md
abbrev Move:=Go.Md.Move
abbrev aO:=Go.Md.aO
abbrev Kept:=Go.Md.Kept
def ak(a:aO):LV:=nm a.id++(nm a.dp++(nm a.dq++(nm a.cp++(nm a.cq++[.i a.aG,.i a.code,.i a.flags,.i a.ae]))))
def aj(t:Move):LV:=nm t.id++(nm t.aD++(nm t.aq++(nm t.aA++(nm t.pending++[.i t.timeout,.i t.aG,.i t.code,.i t.flags,.i t.ae,.i t.born]))))
def aI(k:Kept):LV:=aj k.asked++(aj k.move++[.i k.fate])
def uZ{cs:LV}{o n:Nat}(h0:cs[o+0]?=(nm n)[0]?)(h1:cs[o+1]?=(nm n)[1]?):(nm n).length=2/\∀j v,(nm n)[j]?=some v->cs[o+j]?=some v:=⟨rfl,λj v h=>by
 match j with
 |0=>rw[h0];exact h
 |1=>rw[h1];exact h
 |j+2=>simp[nm] at h⟩
section
variable {a b:aO} {t u:Move} {k:Kept} {n:Nat} {i:Int}
instance:Sub (ak a) 0 2 (nm a.id):=⟨uZ rfl rfl⟩
instance:Sub (ak a) 2 2 (nm a.dp):=⟨uZ rfl rfl⟩
instance:Sub (ak a) 4 2 (nm a.dq):=⟨uZ rfl rfl⟩
instance:Sub (ak a) 6 2 (nm a.cp):=⟨uZ rfl rfl⟩
instance:Sub (ak a) 8 2 (nm a.cq):=⟨uZ rfl rfl⟩
instance:Sub (ak a) 0 14 (ak a):=⟨rfl,λj v h=>by rw[ad1];exact h⟩
instance:Sub (aj t) 0 2 (nm t.id):=⟨uZ rfl rfl⟩
instance:Sub (aj t) 2 2 (nm t.aD):=⟨uZ rfl rfl⟩
instance:Sub (aj t) 4 2 (nm t.aq):=⟨uZ rfl rfl⟩
instance:Sub (aj t) 6 2 (nm t.aA):=⟨uZ rfl rfl⟩
instance:Sub (aj t) 8 2 (nm t.pending):=⟨uZ rfl rfl⟩
instance:Sub (aj t) 0 16 (aj t):=⟨rfl,λj v h=>by rw[ad1];exact h⟩
instance:Sub (aI k) 0 33 (aI k):=⟨rfl,λj v h=>by rw[ad1];exact h⟩
instance:Sub (aI k) 0 16 (aj k.asked):=⟨rfl,λj v h=>by rw[ad1];unfold aI;rw[ael (adZ.1 h).1];exact h⟩
instance:Sub (aI k) 16 16 (aj k.move):=⟨rfl,λj v h=>by
 have hl:(aj k.asked).length=16:=rfl
 unfold aI
 rw[aey (by omega),hl,show 16+j-16=j by omega,ael (adZ.1 h).1];exact h⟩
def lh{xs ys:LV}(h1:∀v∈xs,v.oneCell'=true)(h2:∀v∈ys,v.oneCell'=true):∀v∈xs++ys,v.oneCell'=true:=λv h=>(aeB.1 h).elim (h1 v) (h2 v)
def eX(a:aO):∀v∈ak a,v.oneCell'=true:=lh (kC _) (lh (kC _) (lh (kC _) (lh (kC _) (lh (kC _) λv h=>by simp at h;rcases h with rfl|rfl|rfl|rfl<;>rfl))))
def lF(t:Move):∀v∈aj t,v.oneCell'=true:=lh (kC _) (lh (kC _) (lh (kC _) (lh (kC _) (lh (kC _) λv h=>by simp at h;rcases h with rfl|rfl|rfl|rfl|rfl|rfl<;>rfl))))
def jl(k:Kept):∀v∈aI k,v.oneCell'=true:=lh (lF _) (lh (lF _) λv h=>by simp at h;subst h;rfl)
instance:Wr (ak a) 2 (nm n) (ak {a with dp:=n}):=⟨rfl,by show 4<=14;decide,kC n⟩
instance:Wr (ak a) 4 (nm n) (ak {a with dq:=n}):=⟨rfl,by show 6<=14;decide,kC n⟩
instance:Wr (ak a) 6 (nm n) (ak {a with cp:=n}):=⟨rfl,by show 8<=14;decide,kC n⟩
instance:Wr (ak a) 8 (nm n) (ak {a with cq:=n}):=⟨rfl,by show 10<=14;decide,kC n⟩
instance:Wr (ak a) 12 [.i i] (ak {a with flags:=i}):=⟨rfl,by show 13<=14;decide,λv h=>by simp at h;subst h;rfl⟩
instance:Wr (ak a) 13 [.i i] (ak {a with ae:=i}):=⟨rfl,by show 14<=14;decide,λv h=>by simp at h;subst h;rfl⟩
instance:Wr (ak a) 0 (ak b) (ak b):=⟨rfl,ad4 _,eX b⟩
instance{x1 x2 x3 x4 x5 x6 x7 x8 x9 zL zJ zH zG CF:Value}:Wr [x1,x2,x3,x4,x5,x6,x7,x8,x9,zL,zJ,zH,zG,CF] 0 (ak b) (ak b):=⟨rfl,ad4 _,eX b⟩
instance:Wr (aj t) 6 (nm n) (aj {t with aA:=n}):=⟨rfl,by show 8<=16;decide,kC n⟩
instance:Wr (aj t) 11 [.i i] (aj {t with aG:=i}):=⟨rfl,by show 12<=16;decide,λv h=>by simp at h;subst h;rfl⟩
instance:Wr (aj t) 12 [.i i] (aj {t with code:=i}):=⟨rfl,by show 13<=16;decide,λv h=>by simp at h;subst h;rfl⟩
instance:Wr (aj t) 13 [.i i] (aj {t with flags:=i}):=⟨rfl,by show 14<=16;decide,λv h=>by simp at h;subst h;rfl⟩
instance:Wr (aj t) 14 [.i i] (aj {t with ae:=i}):=⟨rfl,by show 15<=16;decide,λv h=>by simp at h;subst h;rfl⟩
instance:Wr (aj t) 15 [.i i] (aj {t with born:=i}):=⟨rfl,by show 16<=16;decide,λv h=>by simp at h;subst h;rfl⟩
instance{x1 x2 x3 x4 x5 x6 x7 x8 x9 zL zJ zH zG CF Hs Hr:Value}:Wr [x1,x2,x3,x4,x5,x6,x7,x8,x9,zL,zJ,zH,zG,CF,Hs,Hr] 0 (aj u) (aj u):=⟨rfl,ad4 _,lF u⟩
end
section
variable {x1 x2 x3 x4 x5 x6 x7 x8 x9 zL zJ zH zG CF Hs Hr:Value} {i d e c p:Nat} {l o f s b m:Int}
instance:Wr [x1,x2,x3,x4,x5,x6,x7,x8,x9,zL,zJ,zH,zG,CF] 0 (nm i++(nm d++(nm e++(nm c++(nm p++[.i l,.i o,.i f,.i s]))))) (ak ⟨i,d,e,c,p,l,o,f,s⟩):=⟨rfl,ad4 _,eX ⟨i,d,e,c,p,l,o,f,s⟩⟩
instance:Wr [x1,x2,x3,x4,x5,x6,x7,x8,x9,zL,zJ,zH,zG,CF,Hs,Hr] 0 (nm i++(nm d++(nm e++(nm c++(nm p++[.i l,.i o,.i f,.i s,.i b,.i m]))))) (aj ⟨i,d,e,c,p,l,o,f,s,b,m⟩):=⟨rfl,ad4 _,lF ⟨i,d,e,c,p,l,o,f,s,b,m⟩⟩
end
def zA:aO:=⟨0,0,0,0,0,0,0,0,0⟩
def zT:Move:=⟨0,0,0,0,0,0,0,0,0,0,0⟩
section
variable {x1 x2 x3 x4 x5 x6 x7 x8 x9 zL zJ zH zG CF Hs Hr:Value} {a:aO} {t:Move}
instance:Wr [x1,x2,x3,x4,x5,x6,x7,x8,x9,zL,zJ,zH,zG,CF] 0 [.u 0,.u 0,.u 0,.u 0,.u 0,.u 0,.u 0,.u 0,.u 0,.u 0,.i 0,.i 0,.i 0,.i 0] (ak zA):=⟨rfl,ad4 _,eX zA⟩
instance:Wr [x1,x2,x3,x4,x5,x6,x7,x8,x9,zL,zJ,zH,zG,CF,Hs,Hr] 0 [.u 0,.u 0,.u 0,.u 0,.u 0,.u 0,.u 0,.u 0,.u 0,.u 0,.i 0,.i 0,.i 0,.i 0,.i 0,.i 0] (aj zT):=⟨rfl,ad4 _,lF zT⟩
end
def WS{W:World}{L:LH}{X:WK}{r o:Nat}{a:aO}{cs:LV}{f:LV->LH}[i:Lc (Sep.pt r) L cs f][s:Sub cs o 14 (ak a)](h:T W L X):T W L (kp ⟨r,o,none⟩ (ak a) X):=M0 (n:=14) h
def WQ{W:World}{L:LH}{X:WK}{r o:Nat}{a:Move}{cs:LV}{f:LV->LH}[i:Lc (Sep.pt r) L cs f][s:Sub cs o 16 (aj a)](h:T W L X):T W L (kp ⟨r,o,none⟩ (aj a) X):=M0 (n:=16) h
section
variable {L:LH} {X:WK} {r o:Nat} {a:aO} {b:Move} {k:Kept} {cs:LV} {f:LV->LH}
instance[i:Lc (Sep.pt r) L cs f][s:Sub cs o 14 (ak a)]:Wk L (kp ⟨r,o,none⟩ (ak a) X) L X:=⟨λ_ h=>WS h⟩
instance[i:Lc (Sep.pt r) L cs f][s:Sub cs o 16 (aj b)]:Wk L (kp ⟨r,o,none⟩ (aj b) X) L X:=⟨λ_ h=>WQ h⟩
instance:Ln (ak a) 14:=⟨rfl⟩
instance:Ln (aj b) 16:=⟨rfl⟩
instance:Ln (aI k) 33:=⟨rfl⟩
instance:Gt (ak a) 10 (.i a.aG):=⟨rfl⟩
instance:Gt (ak a) 11 (.i a.code):=⟨rfl⟩
instance:Gt (ak a) 12 (.i a.flags):=⟨rfl⟩
instance:Gt (ak a) 13 (.i a.ae):=⟨rfl⟩
instance:Gt (aj b) 10 (.i b.timeout):=⟨rfl⟩
instance:Gt (aj b) 11 (.i b.aG):=⟨rfl⟩
instance:Gt (aj b) 12 (.i b.code):=⟨rfl⟩
instance:Gt (aj b) 13 (.i b.flags):=⟨rfl⟩
instance:Gt (aj b) 14 (.i b.ae):=⟨rfl⟩
instance:Gt (aj b) 15 (.i b.born):=⟨rfl⟩
instance:Gt (aI k) 26 (.i k.move.timeout):=⟨rfl⟩
instance:Gt (aI k) 30 (.i k.move.ae):=⟨rfl⟩
instance:Gt (aI k) 31 (.i k.move.born):=⟨rfl⟩
instance:Gt (aI k) 32 (.i k.fate):=⟨rfl⟩
end
structure pE(W:World):Prop where
 QN:∀j v,(nm (aJ-1))[j]?=some v->W.cell? ((ad N.py 0).add j)=some v
 told:∀j v,([.i 0,.i 0,.i 27,.i 28,.i 29]:LV)[j]?=some v->W.cell? ((ad N.uo 0).add j)=some v
structure vn(a:aO):Prop where
 id:a.id<aJ
 dp:a.dp<aJ
 dq:a.dq<aJ
 cp:a.cp<aJ
 cq:a.cq<aJ
 aG:rl a.aG
 code:rl a.code
 flags:rl a.flags
 ae:rl a.ae
structure u3(t:Move):Prop where
 id:t.id<aJ
 aD:t.aD<aJ
 aq:t.aq<aJ
 aA:t.aA<aJ
 pending:t.pending<aJ
 timeout:rl t.timeout
 aG:rl t.aG
 code:rl t.code
 flags:rl t.flags
 ae:rl t.ae
 born:rl t.born
section
variable {W:World} {L:LH} {K:VK} {a b:aO} {t u:Move}
def Rn(h:T W L (K (.bool (decide (a.dp=0/\a.dq=0/\a.cp=0/\a.cq=0/\a.ae=0))))):T W L (iG (ak a) K):=by
 unfold iG iG.j1 iG.j2
 repeat' first|apply ws;intros|apply wb|with_reducible first|refine qH ?_|refine bw (λh1=>?_) (λh1=>?_)|fail
 all_goals (refine T.fin (T.dp h) ?_;congr 1;first|rfl|(simp only[decide_eq_true_eq,decide_eq_false_iff_not,aeo] at * <;>simp[*]<;>rfl))
def OZ(G:pE W)(ha:vn a)(h:T W L (K (.i (qM a)))):T W L (mw (ak a) K):=by
 unfold mw mw.j1;have hf:=ha.flags
 repeat' first|apply ws;intros|apply wb|with_reducible first|refine qH ?_|refine Rn ?_|refine Jf ⟨ud _,G.QN⟩ ?_|refine bw (λh1=>?_) (λh1=>?_)|fail
 all_goals try simp only[Zu hf,bz] at *
 all_goals (refine T.fin (T.dp h) ?_;congr 1)
 ·rw[qM,if_pos h1]
 all_goals
  all_goals try simp only[Zw (show 0<=a.flags by omega) (show a.flags<256 by omega),bz] at *
  unfold qM has at *
  repeat' split
  all_goals first|rfl|omega
end
def mI(a:aO):Prop:=(0<=a.aG/\a.aG<=4294967295)/\(0<=a.code/\a.code<=65535)/\0<=a.flags/\a.flags<=65535
instance(a:aO):Decidable (mI a):=by unfold mI;infer_instance
def j0(t:Move):Prop:=(0<=t.timeout/\t.timeout<=4294967295)/\(0<=t.aG/\t.aG<=4294967295)/\(0<=t.code/\t.code<=65535)/\0<=t.flags/\t.flags<=65535
instance(t:Move):Decidable (j0 t):=by unfold j0;infer_instance
def ie(a:aO):List UInt8:=[a.id,a.dp,a.dq,a.cp,a.cq].flatMap nb++le .i64 4 a.aG++le .i64 2 a.code++le .i64 2 a.flags++le .i64 8 a.ae
def mT(t:Move):List UInt8:=[t.id,t.aD,t.aq,t.aA,t.pending].flatMap nb++le .i64 4 t.timeout++le .i64 4 t.aG++le .i64 2 t.code++le .i64 2 t.flags++le .i64 8 t.ae++le .i64 8 t.born
def sH:∀l:List Nat,(l.flatMap nb).length=16* l.length
 |[]=>rfl
 |x::l=>by rw[aeN,ad0,ru,sH l,aee];omega
def oS(a:aO):(ie a).length=96:=by simp only[ie,ad0,sH,ay];rfl
def oH(t:Move):(mT t).length=108:=by simp only[mT,ad0,sH,ay];rfl
section
variable {W:World} {L:LH} {K:VK} {a b:aO} {t u:Move} {p:Nat} {l:List UInt8} {q:List UInt8->LH}
def Ko(h:T W L (K (.bool (decide (mI a))))):T W L (fS (ak a) K):=by
 unfold fS fS.j1 fS.j2 fS.j3
 repeat' first|apply ws;intros|apply wb|with_reducible refine bw (λh1=>?_) (λh1=>?_)|fail
 all_goals (refine T.fin (T.dp h) ?_;congr 1;(rw[aek];(try simp only[bz,false_iff,true_iff] at *)<;>(try simp only[mI,aea] at *)<;>omega))
def Ji(h:T W L (K (.bool (decide (j0 t))))):T W L (dk (aj t) K):=by
 unfold dk dk.j1 dk.j2 dk.j3 dk.j4 dk.j5
 repeat' first|apply ws;intros|apply wb|with_reducible refine bw (λh1=>?_) (λh1=>?_)|fail
 all_goals (refine T.fin (T.dp h) ?_;congr 1;(rw[aek];(try simp only[bz,false_iff,true_iff] at *)<;>(try simp only[j0,aea] at *)<;>omega))
def Yw(x:List Nat)(i:Nat)(y:Nat)(h:x[i]?=some y):((x.flatMap nm).drop (i* 2)).take 2=nm y:=by
 apply afg;intro j;rw[afo];split
 ·rename_i hj;rw[afd];cases hv:(nm y)[j]? with
  |none=>have:=List.getElem?_eq_none_iff.1 hv;rw[ud] at this;omega
  |some v=>exact nU ud x i y h j v hv
 ·exact(aeZ (by rw[ud];omega)).symm
def OX[i:Lc (buf p) L l q](hg:mI a)(hl:l.length<549755813888)(h:T W (q (l++ie a)) (K (.tuple ⟨[]⟩))):T W L (oa (some ⟨p,0,none⟩) (ak a) K):=by
 unfold oa oa.j1
 repeat' first|apply ws;intros|apply wb|with_reducible refine Ko ?_|fail
 rw[decide_eq_true hg,Bool.not_true,cf];apply ws;intros;rename_i r;intro w hs;refine⟨λvs w=>∃i:Nat,i<=5/\vs=[.p (some (ad r 0)),.agg ⟨[a.id,a.dp,a.dq,a.cp,a.cq].flatMap nm⟩,.i (i:Int)]/\St W w (Sep.pt r (ak a)::q (l++([a.id,a.dp,a.dq,a.cp,a.cq].take i).flatMap nb)),
  λvs _=>match vs with|[_,_,.int _ j]=>5-j.toNat|_=>0,⟨0,ad6 _,rfl,by rw[afm,List.flatMap_nil,aei,i.same];exact hs⟩,?_⟩
 rintro a1 Zl n1 w2 ⟨j,hj,e,hs⟩;cases e
 refine T.at ?_ hs;have hq:=i.next;have hlen:(l++([a.id,a.dp,a.dq,a.cp,a.cq].take j).flatMap nb).length<1099511627776:=by rw[ad0,sH,ad2];simp;omega
 refine dX (λh1=>?_) (λh1=>?_)
 ·have aZ:j<5:=by omega
  have hx:[a.id,a.dp,a.dq,a.cp,a.cq][j]?=some ([a.id,a.dp,a.dq,a.cp,a.cq][j]'(by simpa using aZ)):=adX _;have e5:=mh j;have et:([a.id,a.dp,a.dq,a.cp,a.cq].take j).flatMap nb++nb ([a.id,a.dp,a.dq,a.cp,a.cq][j]'(by simpa using aZ))=([a.id,a.dp,a.dq,a.cp,a.cq].take (j+1)).flatMap nb:=by
   rw[aeS (by simpa using aZ),aeV];simp
  rw[adY,Yw _ _ _ hx,e5]
  repeat' first|apply ws;intros|apply wb|with_reducible first|refine cL (by omega) ?_|refine EX hlen ?_|fail
  rw[ad5,et];refine T.drop λw3 h3=>⟨⟨j+1,aZ,rfl,?_⟩,by show 5-((j+1:Nat):Int).toNat<5-(j:Int).toNat;omega⟩;exact h3
 ·have he:j=5:=by omega
  subst he;simp only[dZ,ad1];have e1:∀m:List UInt8,(l++m).length=l.length+m.length:=λm=>ad0;have e2:(([a.id,a.dp,a.dq,a.cp,a.cq].take 5).flatMap nb).length=80:=by rw[sH];rfl
  repeat' first|apply ws;intros|apply wb|with_reducible first|refine Kp (by simp only[ad0,ay,e2];omega) ?_|refine Aj (by simp only[ad0,ay,e2];omega) ?_|refine uV (by simp only[ad0,ay,e2];omega) ?_|fail
  have e3:l++ie a=l++([a.id,a.dp,a.dq,a.cp,a.cq].take 5).flatMap nb++le .i64 4 a.aG++le .i64 2 a.code++le .i64 2 a.flags++le .i64 8 a.ae:=by
   unfold ie;simp only[ad5];rfl
  rw[<-e3];exact T.dp h
def HO[i:Lc (buf p) L l q](hg:j0 t)(hl:l.length<549755813888)(h:T W (q (l++mT t)) (K (.tuple ⟨[]⟩))):T W L (mO (some ⟨p,0,none⟩) (aj t) K):=by
 unfold mO mO.j1
 repeat' first|apply ws;intros|apply wb|with_reducible refine Ji ?_|fail
 rw[decide_eq_true hg,Bool.not_true,cf];apply ws;intros;rename_i r;intro w hs;refine⟨λvs w=>∃i:Nat,i<=5/\vs=[.p (some (ad r 0)),.agg ⟨[t.id,t.aD,t.aq,t.aA,t.pending].flatMap nm⟩,.i (i:Int)]/\St W w (Sep.pt r (aj t)::q (l++([t.id,t.aD,t.aq,t.aA,t.pending].take i).flatMap nb)),
  λvs _=>match vs with|[_,_,.int _ j]=>5-j.toNat|_=>0,⟨0,ad6 _,rfl,by rw[afm,List.flatMap_nil,aei,i.same];exact hs⟩,?_⟩
 rintro a1 Zl n1 w2 ⟨j,hj,e,hs⟩;cases e
 refine T.at ?_ hs;have hq:=i.next;have hlen:(l++([t.id,t.aD,t.aq,t.aA,t.pending].take j).flatMap nb).length<1099511627776:=by rw[ad0,sH,ad2];simp;omega
 refine dX (λh1=>?_) (λh1=>?_)
 ·have aZ:j<5:=by omega
  have hx:[t.id,t.aD,t.aq,t.aA,t.pending][j]?=some ([t.id,t.aD,t.aq,t.aA,t.pending][j]'(by simpa using aZ)):=adX _;have e5:=mh j;have et:([t.id,t.aD,t.aq,t.aA,t.pending].take j).flatMap nb++nb ([t.id,t.aD,t.aq,t.aA,t.pending][j]'(by simpa using aZ))=([t.id,t.aD,t.aq,t.aA,t.pending].take (j+1)).flatMap nb:=by
   rw[aeS (by simpa using aZ),aeV];simp
  rw[adY,Yw _ _ _ hx,e5]
  repeat' first|apply ws;intros|apply wb|with_reducible first|refine cL (by omega) ?_|refine EX hlen ?_|fail
  rw[ad5,et];refine T.drop λw3 h3=>⟨⟨j+1,aZ,rfl,?_⟩,by show 5-((j+1:Nat):Int).toNat<5-(j:Int).toNat;omega⟩;exact h3
 ·have he:j=5:=by omega
  subst he;simp only[dZ,ad1];have e2:(([t.id,t.aD,t.aq,t.aA,t.pending].take 5).flatMap nb).length=80:=by rw[sH];rfl
  repeat' first|apply ws;intros|apply wb|with_reducible first|refine Kp (by simp only[ad0,ay,e2];omega) ?_|refine Aj (by simp only[ad0,ay,e2];omega) ?_|refine uV (by simp only[ad0,ay,e2];omega) ?_|fail
  have e3:l++mT t=l++([t.id,t.aD,t.aq,t.aA,t.pending].take 5).flatMap nb++le .i64 4 t.timeout++le .i64 4 t.aG++le .i64 2 t.code++le .i64 2 t.flags++le .i64 8 t.ae++le .i64 8 t.born:=by
   unfold mT;simp only[ad5];rfl
  rw[<-e3];exact T.dp h
abbrev RS:=List UInt8×Bool
def uM(n:Nat)(x:RS):RS:=match n with|0=>x|n+1=>df 16 (uM n x)
def Cp(x:RS):RS:=df 8 (df 2 (df 2 (df 4 (uM 5 x))))
def Eo(x:RS):aO:=if(Cp x).2=true then zA else
 ⟨vY x,vY (uM 1 x),vY (uM 2 x),vY (uM 3 x),vY (uM 4 x),iH 4 (uM 5 x),iH 2 (df 4 (uM 5 x)),iH 2 (df 2 (df 4 (uM 5 x))),iH 8 (df 2 (df 2 (df 4 (uM 5 x))))⟩
def Co(x:RS):RS:=df 8 (df 8 (df 2 (df 2 (df 4 (df 4 (uM 5 x))))))
def En(x:RS):Move:=if(Co x).2=true then zT else
 ⟨vY x,vY (uM 1 x),vY (uM 2 x),vY (uM 3 x),vY (uM 4 x),iH 4 (uM 5 x),iH 4 (df 4 (uM 5 x)),iH 2 (df 4 (df 4 (uM 5 x))),iH 2 (df 2 (df 4 (df 4 (uM 5 x)))),
  iH 8 (df 2 (df 2 (df 4 (df 4 (uM 5 x))))),iH 8 (df 8 (df 2 (df 2 (df 4 (df 4 (uM 5 x))))))⟩
variable {r:Nat} {x:RS} {g:RS->LH}
def nj{m:Nat}{x:RS}{B:Nat}(h:x.1.length<B):(df m x).1.length<B:=Nat.lt_of_le_of_lt (qQ m x) h
def OY[i:Lc (rd r) L x g](hl:x.1.length<1099511627776)(h:T W (g (Cp x)) (K (.agg ⟨ak (Eo x)⟩))):T W L (kK (some ⟨r,0,none⟩) K):=by
 unfold kK;have hq:=i.next
 repeat' first|apply ws;intros|apply wb|with_reducible first|refine E4 (by repeat (first|exact hl|apply nj)) ?_|refine Ku (by repeat (first|exact hl|apply nj)) ?_|refine Ak (by repeat (first|exact hl|apply nj)) ?_|refine tg (by repeat (first|exact hl|apply nj)) ?_|refine uW ?_|fail
 have e:df 8 (df 2 (df 2 (df 4 (df 16 (df 16 (df 16 (df 16 (df 16 x))))))))=Cp x:=rfl;rw[e];unfold Eo at h;refine bw (λh1=>?_) (λh1=>?_)
 ·rw[if_pos h1] at h;apply ws;intros;exact T.dp h
 ·rw[if_neg (by rw[h1];decide)] at h;apply ws;intros;exact T.dp h
def HQ[i:Lc (rd r) L x g](hl:x.1.length<1099511627776)(h:T W (g (Co x)) (K (.agg ⟨aj (En x)⟩))):T W L (jJ (some ⟨r,0,none⟩) K):=by
 unfold jJ;have hq:=i.next
 repeat' first|apply ws;intros|apply wb|with_reducible first|refine E4 (by repeat (first|exact hl|apply nj)) ?_|refine Ku (by repeat (first|exact hl|apply nj)) ?_|refine Ak (by repeat (first|exact hl|apply nj)) ?_|refine tg (by repeat (first|exact hl|apply nj)) ?_|refine uW ?_|fail
 have e:df 8 (df 8 (df 2 (df 2 (df 4 (df 4 (df 16 (df 16 (df 16 (df 16 (df 16 x))))))))))=Co x:=rfl;rw[e];unfold En at h;refine bw (λh1=>?_) (λh1=>?_)
 ·rw[if_pos h1] at h;apply ws;intros;exact T.dp h
 ·rw[if_neg (by rw[h1];decide)] at h;apply ws;intros;exact T.dp h
end
end Go.Up
namespace Go.Den
open Go.RowKit
def oM(P:Program)(fT:TypeId->Option (LV)):Nat->List Field->Option (LV)
 |_,[]=>some []
 |o,f::r=>bif (f.name != "_")&&afi f.offset o then
           match fT f.type with
           |some z=>bif (match P.info? f.type with|some i=>afi i.size z.length|none=>false) then
                     match oM P fT (o+z.length) r with
                     |some zr=>some (z++zr)
                     |none=>none
            else none
           |none=>none
  else none
def vh(P:Program):Nat->TypeId->Option (LV)
 |0,_=>none
 |n+1,t=>match P.underlying t with
  |some (.int k)=>some [.int k 0]
  |some .bool=>some [.bool false]
  |some .string=>some [.string .empty]
  |some (.struct fs)=>bif P.stoodInHeld t then none else oM P (vh P n) 0 fs.toList
  |_=>none
def V7(P:Program)(t:TypeId)(xs:LV):Value:=match P.underlying t with
 |some (.struct _)=>.agg ⟨xs⟩
 |_=>xs.headD undef
def lV:∀{zs xs:LV},kS zs xs=true->xs.length=zs.length
 |[],[],_=>rfl
 |[],_::_,h=>by simp[kS] at h
 |_::_,[],h=>by simp[kS] at h
 |z::zs,x::xs,h=>by simp only[kS,aeR] at h;simp[lV h.2]
def uq:∀{z zr xs:LV},kS (z++zr) xs=true->∃a b,xs=a++b/\kS z a=true/\kS zr b=true
 |[],zr,xs,h=>⟨[],xs,rfl,rfl,h⟩
 |y::z,zr,[],h=>by simp[kS] at h
 |y::z,zr,x::xs,h=>by
  simp only[afa,kS,aeR] at h;obtain⟨a,b,rfl,h1,h2⟩:=uq h.2;exact⟨x::a,b,rfl,by simp[kS,h.1,h1],h2⟩
def pz:∀{a b c d:LV},a.length=b.length->fq (a++c) (b++d)=(fq a b&&fq c d)
 |[],[],c,d,_=>by simp[fq]
 |[],_::_,_,_,h=>by simp at h
 |_::_,[],_,_,h=>by simp at h
 |x::a,y::b,c,d,h=>by
  simp only[afa,fq];rw[pz (by simpa using h),Bool.and_assoc]
def J'{P:Program}:∀(n:Nat)(t:TypeId)(zs:LV),vh P n t=some zs->∀(xs ys:LV),kS zs xs=true->kS zs ys=true->∀(d:Nat)(w:World),(Op.equalIn (d+2* n) t (V7 P t xs) (V7 P t ys)).run P w=.ok (fq xs ys) w
 |0,_,_,h=>by simp[vh] at h
 |n+1,t,zs,h=>λxs ys hx hy d w=>by
  have hd:d+2* (n+1)=(d+2* n+1)+1:=by omega
  rw[hd];unfold vh at h;unfold V7;generalize hu:P.underlying t=u at h;split at h
  ·cases h
   obtain⟨x,rfl⟩:=List.length_eq_one_iff.1 (lV hx);obtain⟨y,rfl⟩:=List.length_eq_one_iff.1 (lV hy)
   ·simp only[kS,Bool.and_true] at hx hy;cases x<;>simp[fits] at hx
    cases y<;>simp[fits] at hy
    subst hx hy;simp[run_equalIn_int w _ t _ _ _ _ hu,fq,vO]
  ·cases h
   obtain⟨x,rfl⟩:=List.length_eq_one_iff.1 (lV hx);obtain⟨y,rfl⟩:=List.length_eq_one_iff.1 (lV hy)
   ·simp only[kS,Bool.and_true] at hx hy;cases x<;>simp[fits] at hx
    cases y<;>simp[fits] at hy
    simp[run_equalIn_bool w _ t _ _ hu,fq,vO]
  ·cases h
   obtain⟨x,rfl⟩:=List.length_eq_one_iff.1 (lV hx);obtain⟨y,rfl⟩:=List.length_eq_one_iff.1 (lV hy)
   ·simp only[kS,Bool.and_true] at hx hy;cases x<;>simp[fits] at hx
    cases y<;>simp[fits] at hy
    simp[run_equalIn_string w _ t _ _ hu,fq,vO,pk]
  ·rename_i fs;cases hs:P.stoodInHeld t with
   |true=>rw[hs] at h;cases h
   |false=>
    rw[hs] at h;have xf:P.fieldsOf t=fs:=by simp[Program.fieldsOf,hu]
    show(Op.equalIn _ t (.agg ⟨xs⟩) (.agg ⟨ys⟩)).run P w=_;rw[run_equalIn_struct w _ t ⟨xs⟩ ⟨ys⟩ (by rw[xf];exact hu) hs,xf];have key:∀(l:List Field)(o:Nat)(zs:LV)(pre KZ xs ys:LV),pre.length=o->KZ.length=o->oM P (vh P n) o l=some zs->kS zs xs=true->kS zs ys=true->
                                                              (Op.eqFields (d+2* n+1) ⟨pre++xs⟩ ⟨KZ++ys⟩ l).run P w=.ok (fq xs ys) w:=by
     intro l
     induction l with
     |nil=>
      intro o zs pre KZ xs ys h1 h2 h3 hx hy;simp only[oM,aeh.injEq] at h3;subst h3;cases xs<;>cases ys<;>simp[kS] at hx hy
      simp[Op.eqFields,fq]
     |cons f l ih=>
      intro o zs pre KZ xs ys h1 h2 h3 hx hy;unfold oM at h3;cases hc:((f.name != "_")&&afi f.offset o) with
      |false=>rw[hc] at h3;cases h3
      |true=>
       rw[hc] at h3;simp only[aeR] at hc;have hn':f.name≠ "_":=by simpa using hc.1
       have ho':f.offset=o:=aex hc.2;simp only[cond_true] at h3;cases hz:vh P n f.type with
       |none=>rw[hz] at h3;cases h3
       |some z=>
        rw[hz] at h3;dsimp only at h3;cases hi:P.info? f.type with
        |none=>rw[hi] at h3;cases h3
        |some i=>
         rw[hi] at h3;dsimp only at h3;cases ou:afi i.size z.length with
         |false=>rw[ou] at h3;cases h3
         |true=>
          rw[ou] at h3;have ou:=aex ou;simp only[cond_true] at h3;cases hr:oM P (vh P n) (o+z.length) l with
          |none=>rw[hr] at h3;cases h3
          |some zr=>
           rw[hr] at h3;simp only[aeh.injEq] at h3;subst h3;obtain⟨x1,x2,rfl,a1,a2⟩:=uq hx;obtain⟨y1,y2,rfl,b1,b2⟩:=uq hy;have lx:=lV a1;have ly:=lV b1;have JZ:∀(p x1 x2:LV),p.length=o->kS z x1=true->(part f.type (⟨p++(x1++x2)⟩:Array Value) f.offset).run P w=.ok (V7 P f.type x1) w:=by
            intro p x1 x2 hp a1;have lx:=lV a1;cases n with
            |zero=>simp[vh] at hz
            |succ m=>
             unfold vh at hz;unfold V7;generalize Mu:P.underlying f.type=fu at hz;have Ac:∀v:Value,x1=[v]->pH (fu.getD (.int .i64))=false->fu.isSome=true->(part f.type (⟨p++(x1++x2)⟩:Array Value) f.offset).run P w=.ok v w:=by
              intro v hv hg XA;subst hv;cases fu with
              |none=>cases XA
              |some fd=>
               simp only[aew] at hg;cases fd<;>simp[pH] at hg<;>simp[part,isAgg,underlying,Mu,ho',hp]
             split at hz
             ·cases hz
              match x1,a1,lx,Ac with
              |[v],_,_,Ac=>exact Ac v rfl rfl rfl
             ·cases hz
              match x1,a1,lx,Ac with
              |[v],_,_,Ac=>exact Ac v rfl rfl rfl
             ·cases hz
              match x1,a1,lx,Ac with
              |[v],_,_,Ac=>exact Ac v rfl rfl rfl
             ·simp only[part,isAgg,underlying,sizeOf,typeInfo,Sem.run_bind,run_program,Result.andThen_ok,Mu,hi,Sem.run_pure,if_true,ho'];have:(⟨p++(x1++x2)⟩:Array Value).extract o (o+i.size)=⟨x1⟩:=by
               apply afz;rw[Array.toList_extract];show List.extract (p++(x1++x2)) o (o+i.size)=x1;rw[List.extract_eq_take_drop,<-hp,List.drop_left' rfl,ou,show p.length+z.length-p.length=x1.length by omega,List.take_left' rfl]
              rw[this]
             ·cases hz
           have ihn:=J' n f.type z hz x1 y1 a1 b1 (d+1) w;have Px:=ih (o+z.length) zr (pre++x1) (KZ++y1) x2 y2 (by rw[ad0,h1,lx]) (by rw[ad0,h2,ly]) hr a2 b2;rw[show d+1+2* n=d+2* n+1 by omega] at ihn;rw[ad5,ad5] at Px;rw[Op.eqFields];simp only[if_pos hn',Sem.run_bind,JZ pre x1 x2 h1 a1,JZ KZ y1 y2 h2 b1,ihn,Result.andThen_ok];rw[pz (by rw[lx,ly])];cases fq x1 y1
           ·simp
           ·simpa using Px
    have:=key fs.toList 0 zs [] [] xs ys rfl rfl (by simpa using h) hx hy;simpa using this
  ·cases h
def og.nil{P:Program}:og P []:=λt zs h=>by simp[DH] at h
def og.cons{P:Program}{E:Po}{t:Nat}{z:LV}{fs:Array Field}(h1:P.eqGuardType P.depth t=false)(h2:vh P 4 t=some z)(h3:P.underlying t=some (.struct fs))(h:og P E):og P ((t,z)::E):=λu zs hu=>by
 unfold DH at hu;cases hb:afi t u with
 |true=>
  rw[hb] at hu;have:=aex hb;subst this;cases hu
  refine⟨h1,λxs ys hx hy w=>?_⟩;have:=J' 4 t z h2 xs ys hx hy (Op.maxDepth-8) w;have e:Op.maxDepth-8+2* 4=Op.maxDepth:=by decide
  rw[e] at this;unfold V7 at this;rw[h3] at this;exact this
 |false=>
  rw[hb] at hu;exact h u zs hu
end Go.Den
