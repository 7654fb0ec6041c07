/- Part of the proof: see the last text. -/
import Derived.Test.YtdeklijinefhkaaGreatDoorPF
import Derived.Test.YtdeklijinefhkaaGreatDoorPA
import Derived.MapKept
import Derived.WideKeyRuns
import Derived.Test.YtdeklijinefhkaaGreatDoorPD
import Derived.Test.YtdeklijinefhkaaGreatDoorProg
import Derived.Test.YtdeklijinefhkaaGreatDoorPE
set_option linter.all false
set_option maxRecDepth 100000
set_option synthInstance.maxSize 100000
open Array renaming ext'→tt
open Go.IntKind renaming i64→aa
open Int renaming le_refl→eE,toNat_natCast→ak
open List renaming getElem?_eq_some_iff→ar,getElem_mem→bF,mem_cons_of_mem→jV,mem_cons→ka,mem_cons_self→sX,map_append→cF,mem_map→cV,mem_append→dB,mem_or_eq_of_mem_set→fq,getElem?_eq_getElem→aj,length_append→av,length_take→aD,append_assoc→aH,length_drop→aS,take_length→aV,take_add_one→bg,length_map→bQ,append_nil→bR,drop_eq_getElem_cons→gh,pairwise_iff_getElem→kC,take_zero→mR,map_nil→ou,map_map→sY
open Nat renaming zero_le→aF
namespace Go.Up
open Go.Sep Go.Den Go.RowKit
section
variable {α:Type}
def Uz(f:α->Value)(ks:List α):List MapEntry:=ks.mapIdx λi k=>{key:=f k,val:=.b true,born:=i}
def mp(f:α->Value)(b:Nat)(ks:List α):HP:=ob b (.map ⟨Uz f ks⟩ ks.length)
def zQ(P:Program)(t:TypeId)(f:α->Value):Prop:=∃kt et,P.underlying t=some (.map kt et)/\(∀w:World,(zeroValue et).run P w=.ok (.b false) w)/\
 (∀e k(w:World),(Instr.checkKey e 10000 kt (f k)).run P w=.ok () w)/\
 ∀k(ks:List α)(w:World),∃o,(Instr.findKey kt (f k) (Uz f ks)).run P w=.ok o w/\(k∈ks->∃i,o=some (i,.b true))/\(k∉ks->o=none)
section
variable {W:World} {L:LH} {K:VK} {X:WK} {P:Program} {t:TypeId} {f:α->Value} {b:Nat} {ks:List α} {k:α} {g:List α->LH}
def TC(f:α->Value){K:Nat->WK}(h:∀b,T W (mp f b []::L) (K b)):T W L (mkM K):=λw hs=>h w.heap.size _ (hs.abg (.map #[] 0) (λc t fz h=>by cases h))
def aaH[i:Lc (mp f b) L ks g]{K:Int->WK}(h:T W L (K (ks.length:Int))):T W L (ada b K):=λw hs=>by
 obtain⟨j,hj,_⟩:=i.at_;refine⟨_,_,(hs.obj hj).1,?_⟩;have e:(⟨Uz f ks⟩:Array MapEntry).size=ks.length:=by simp[Uz]
 rw[e];exact h w hs
def aaG[i:Lc (mp f b) L ks g]{K:Int->WK}(h:T W L (K (ks.length:Int))):T W L (X4 (.map (some b)) K):=aaH (K:=K) (b:=b) (f:=f) h
def EF[DecidableEq α](hK:zQ P t f)[i:Lc (mp f b) L ks g](h:T W L (K (.b (decide (k∈ks))))):T W L (IP P t (.map (some b)) (f k) K):=λw hs=>by
 obtain⟨j,hj,_⟩:=i.at_;have hb:=(hs.obj hj).1;obtain⟨kt,et,h1,h2,h3,h4⟩:=hK;obtain⟨o,ho,xt,vW⟩:=h4 k ks w;refine⟨.b (decide (k∈ks)),?_,h w hs⟩;unfold Instr.lookup;by_cases hm:k∈ks
 ·obtain⟨i,rfl⟩:=xt hm;simp[run_underlying h1,MapKept.run_getObj_map hb,h3,ho,hm,Result.andThen]
 ·cases vW hm
  simp[run_underlying h1,MapKept.run_getObj_map hb,h3,ho,hm,h2,Result.andThen]
def JE[DecidableEq α](hK:zQ P t f)[i:Lc (mp f b) L ks g](hk:k∉ks)(h:T W (g (ks++[k])) X):T W L (Rv P t (.map (some b)) (f k) (.b true) X):=λw hs=>by
 obtain⟨j,hj,e⟩:=i.at_;have hb:=(hs.obj hj).1;obtain⟨kt,et,h1,h2,h3,h4⟩:=hK;obtain⟨o,ho,xt,vW⟩:=h4 k ks w;cases vW hk
 have h5:=hs.put (.map ⟨Uz f (ks++[k])⟩ (ks++[k]).length) hj (λc t fz h=>by cases h);rw[e] at h;refine⟨_,?_,h _ h5⟩;have e2:(⟨Uz f (ks++[k])⟩:Array MapEntry)=(⟨Uz f ks⟩:Array MapEntry).push {key:=f k,val:=.b true,born:=ks.length}:=by
  apply tt;simp[Uz,List.mapIdx_append]
 rw[e2];unfold Instr.mapUpdate;simp[run_underlying h1,MapKept.run_getObj_map hb,h3,ho,MapKept.run_setObj_map _ hb,Result.andThen]
 rfl
end
def UG{P:Program}{t kt et:TypeId}(h1:P.underlying t=some (.map kt et))(h2:P.underlying kt=some (.int .i64))(h3:∀w:World,(zeroValue et).run P w=.ok (.b false) w):zQ P t (λn:Int=>.i n):=by
 have hk:∀n:Int,MapKept.IsKey (.int .i64) (.i n):=λn=>by simp[MapKept.IsKey]
 refine⟨kt,et,h1,h3,λe k w=>MapKept.run_checkKey h2 (hk k) e 9999,λk ks w=>?_⟩;rcases MapKept.findNow_spec (hk k) (Uz (λn:Int=>.i n) ks) 0 (λx hx=>by
  obtain⟨i,hi,rfl⟩:=List.mem_mapIdx.1 hx
  exact hk _) with⟨a,b⟩|⟨j,e,a,b,c⟩
 ·refine⟨none,MapKept.run_findKey h2 a,λhm=>?_,λ_=>rfl⟩;exfalso;obtain⟨i,hi,rfl⟩:=List.mem_iff_getElem.1 hm;exact b {key:=.i ks[i],val:=.b true,born:=i} (List.mem_mapIdx.2 ⟨i,hi,rfl⟩) rfl
 ·obtain⟨hj,hje⟩:=ar.1 b;have HN:j<ks.length:=by simpa [Uz] using hj
  have he:e={key:=.i ks[j],val:=.b true,born:=j}:=by rw[<-hje];simp[Uz]
  refine⟨some (0+j,e.val),MapKept.run_findKey h2 a,λ_=>⟨_,by rw[he]⟩,λhm=>?_⟩;rw[he] at c;have:ks[j]=k:=by simpa using c
  exact aT (this▸bF HN) hm
def Mc{P:Program}{t kt et:TypeId}{fs:Array Field}{E:Td}{zs:LV}{f:α->LV}(h1:P.underlying t=some (.map kt et))(h2:P.underlying kt=some (.struct fs))(h3:∀w:World,(zeroValue et).run P w=.ok (.b false) w)
 (hE:sj P E)(hz:GO E kt=some zs)(hf:∀k,oZ zs (f k)=true)(adA:∀a b,iK (f a) (f b)=true↔a=b)(h4:∀e k(w:World),(Instr.checkKey e 10000 kt (.agg ⟨f k⟩)).run P w=.ok () w):zQ P t (λk=>.agg ⟨f k⟩):=by
 refine⟨kt,et,h1,h3,h4,λk ks w=>?_⟩;have key:∀(ks:List α)(n m:Nat),∃o,(Instr.findAsking kt (.agg ⟨f k⟩) (ks.mapIdx λi k=>({key:=.agg ⟨f k⟩,val:=.b true,born:=i+m}:MapEntry)) n).run P w=.ok o w/\(k∈ks->∃i,o=some (i,.b true))/\(k∉ks->o=none):=by
  intro ks
  induction ks with
  |nil=>exact λn m=>⟨none,by simp[Instr.findAsking],λh=>(by cases h),λ_=>rfl⟩
  |cons x ks ih=>
   intro n m;have heq:=(hE kt zs hz).2 (f k) (f x) (hf k) (hf x) w;by_cases hx:k=x
   ·subst hx;rw[(adA k k).2 rfl] at heq;exact⟨some (n,.b true),by simp[List.mapIdx_cons,Instr.findAsking,heq,Result.andThen],λ_=>⟨_,rfl⟩,λh=>aT (sX ..) h⟩
   ·have kJ:iK (f k) (f x)=false:=by
     cases hc:iK (f k) (f x) with
     |false=>rfl
     |true=>exact aT ((adA _ _).1 hc) hx
    rw[kJ] at heq;obtain⟨o,a,b,c⟩:=ih (n+1) (m+1);refine⟨o,?_,λh=>b (by rcases ka.1 h with h|h;exact aT h hx;exact h),λh=>c λhh=>h (jV _ hh)⟩;have e:(λ(i:Nat)(k:α)=>({key:=.agg ⟨f k⟩,val:=.b true,born:=i+(m+1)}:MapEntry))=λi k=>{key:=.agg ⟨f k⟩,val:=.b true,born:=i+1+m}:=by
     funext i k;congr 1;omega
    rw[e] at a;simp[List.mapIdx_cons,Instr.findAsking,heq,Result.andThen,Function.comp_def];exact a
 obtain⟨o,a,b,c⟩:=key ks 0 0;refine⟨o,?_,b,c⟩;rw[run_findKey_eq w (by rw[h2])];exact a
end
end Go.Up
namespace Go.Up
open Go.Md
structure WW(m:aA):Prop where
 cW:∀a∈m.cW,1<=a.ay/\a.ay<=m.ay
 ax:∀k∈m.ax,k.move.ay<=m.ay
 one:(m.cW.map (·.ay)).Nodup
 apart:∀a∈m.cW,∀k∈m.ax,a.ay≠k.move.ay
 iE:∀k∈m.ax,k.move.iE<=m.clock
 ids:∀k∈m.ax,k.move.id=k.asked.id
 pos:0<=m.ay
def WW.step{m m':aA}(h:WW m)(hs:Step m m'):WW m':=by
 obtain⟨h1,h2,h3,h4,h5,h6,h7⟩:=h;have mw:∀(m:aA)(asked t:cH)(f:Int),WW m->t.id=asked.id->WW (m.mw asked t f):=λm asked t f h hi=>by
  obtain⟨h1,h2,h3,h4,h5,h6,h7⟩:=h;refine⟨λa ha=>?_,λk hk=>?_,h3,λa ha k hk=>?_,λk hk=>?_,λk hk=>?_,?_⟩
  ·have:=h1 a ha;show 1<=a.ay/\a.ay<=m.ay+1;omega
  ·show k.move.ay<=m.ay+1;rcases dB.1 hk with hk|hk
   ·have:=h2 k hk;omega
   ·simp at hk;rw[hk];exact eE _
  ·rcases dB.1 hk with hk|hk
   ·exact h4 a ha k hk
   ·simp at hk;have:=h1 a ha;rw[hk];show a.ay≠m.ay+1;omega
  ·rcases dB.1 hk with hk|hk
   ·exact h5 k hk
   ·simp at hk;rw[hk];exact eE _
  ·rcases dB.1 hk with hk|hk
   ·exact h6 k hk
   ·simp at hk;rw[hk];exact hi
  ·show 0<=m.ay+1;omega
 cases hs with
 |same=>exact⟨h1,h2,h3,h4,h5,h6,h7⟩
 |make a hc hn hf=>
  have hx:∀x,x∈m.cW++[{a with ay:=m.ay+1,aq:=a.aq/2* 2}]->x∈m.cW\/x.ay=m.ay+1:=λx hx=>by
   rcases dB.1 hx with hx|hx
   ·exact .inl hx
   ·simp at hx;rw[hx];exact .inr rfl
  refine⟨λx UK=>?_,λk hk=>?_,?_,λx UK k hk=>?_,h5,h6,?_⟩
  ·show 1<=x.ay/\x.ay<=m.ay+1;rcases hx x UK with hh|hh
   ·have:=h1 x hh;omega
   ·omega
  ·have:=h2 k hk;show k.move.ay<=m.ay+1;omega
  ·show(List.map (λa:bP=>a.ay) (m.cW++[{a with ay:=m.ay+1,aq:=a.aq/2* 2}])).Nodup;rw[cF,List.nodup_append];refine⟨h3,by simp,λs hs t ht=>?_⟩;obtain⟨y,hy,e⟩:=cV.1 hs;simp at ht;have:=h1 y hy;omega
  ·rcases hx x UK with hh|hh
   ·exact h4 x hh k hk
   ·have:=h2 k hk;omega
  ·show 0<=m.ay+1;omega
 |move t n d c hk he hn hd hc HO Hq hl hm hb xa=>exact mw m t _ _ ⟨h1,h2,h3,h4,h5,h6,h7⟩ rfl
 |ends t i k0 hi hk he hn hw hf hb hm=>
  obtain⟨cn,ek⟩:=ar.1 hi;refine mw _ t _ _ ?_ rfl;have key:∀k∈(m.fa i (dP t)).ax,∃k1∈m.ax,k.move=k1.move/\k.asked=k1.asked:=λk td=>by
   rw[rO cn] at td;rcases fq td with hh|hh
   ·exact⟨k,hh,rfl,rfl⟩
   ·rw[hh];exact⟨_,bF cn,rfl,rfl⟩
  refine⟨h1,λk td=>?_,h3,λa ha k td=>?_,λk td=>?_,λk td=>?_,h7⟩<;>(obtain⟨k1,q1,q2,q3⟩:=key k td;rw[q2])
  ·exact h2 k1 q1
  ·exact h4 a ha k1 q1
  ·exact h5 k1 q1
  ·rw[q3];exact h6 k1 q1
 |time now=>
  have key:∀k∈(m.time now).ax,∃k1∈m.ax,k.move=k1.move/\k.asked=k1.asked:=λk td=>by
   obtain⟨k0,hk0,e⟩:=cV.1 td;have hi:∀(P:Prop) [Decidable P],(if P then({k0 with fate:=4}:cr) else k0).move=k0.move/\(if P then({k0 with fate:=4}:cr) else k0).asked=k0.asked:=λP _=>by split<;>exact⟨rfl,rfl⟩
   refine⟨k0,hk0,?_,?_⟩
   ·rw[<-e];exact(hi _).1
   ·rw[<-e];exact(hi _).2
  have hck:m.clock<=(m.time now).clock:=by show m.clock<=if m.clock<now/\now<=1099511627776 then now else m.clock;split<;>omega
  refine⟨h1,λk td=>?_,h3,λa ha k td=>?_,λk td=>?_,λk td=>?_,h7⟩<;>(obtain⟨k1,q1,q2,q3⟩:=key k td;rw[q2])
  ·exact h2 k1 q1
  ·exact h4 a ha k1 q1
  ·have:=h5 k1 q1;omega
  ·rw[q3];exact h6 k1 q1
def Step.clock{m m':aA}(hs:Step m m'):m.clock<=m'.clock:=by
 cases hs with
 |same=>exact eE _
 |make a hc hn hf=>exact eE _
 |move t n d c hk he hn hd hc HO Hq hl hm hb xa=>exact eE _
 |ends t i k0 hi hk he hn hw hf hb hm=>exact eE _
 |time now=>show m.clock<=if m.clock<now/\now<=1099511627776 then now else m.clock;split<;>omega
end Go.Up
namespace Go.Prog
open Go.Den
def bq.j1(K:VK)(r2:Nat)(v1 v2:Value)(I2:LI)(b5:Bool)(p5:OA)(n6:Int)(p6 uU:OA)(uG uP:Nat)(n8 n9:Int)(BM:OA)(Bo BL:Nat)(C3 B9:Int)(Jv:LM)(n7:Int)(w4:World)(b6:Bool):WK:=
br b6 (
K (.b false)) (
lI (ad r2 30) λRG=>
Rv Go.Proofs.Tryz.prog 82 v1 (.i RG) (.b true) (
aJ (ad r2 16) 2 λMJ=>
Rv Go.Proofs.Tryz.prog 83 v2 (.agg ⟨MJ⟩) (.b true) (
(ct I2 Jv [.b b5,.p p5,.i n6,.p p6,v1,v2,.i RG,.l uU uG uP,.i n8,.i n9,.l BM Bo BL,.i C3,.i (aa.wrap (B9+1))] [.b b5,.p p5,.i n6,.p p6,v1,v2,.i n7,.l uU uG uP,.i n8,.i n9,.l BM Bo BL,.i C3,.i B9] w4))))
def bq.j4(K:VK)(r2:Nat)(v1 v2:Value)(I2:LI)(b5:Bool)(p5:OA)(n6:Int)(p6 uU:OA)(uG uP:Nat)(n8 n9:Int)(BM:OA)(Bo BL:Nat)(C3 B9:Int)(Jv:LM)(n7:Int)(w4:World)(b9:Bool):WK:=
br b9 (
bq.j1 K r2 v1 v2 I2 b5 p5 n6 p6 uU uG uP n8 n9 BM Bo BL C3 B9 Jv n7 w4 true) (
aJ (ad r2 16) 2 λOK=>
aJ (ad r2 0) 2 λcs6=>
sm [.u 0,.u 0] OK cs6 λb10=>
bq.j1 K r2 v1 v2 I2 b5 p5 n6 p6 uU uG uP n8 n9 BM Bo BL C3 B9 Jv n7 w4 (!b10))
def bq.j3(K:VK)(r2:Nat)(v1 v2:Value)(I2:LI)(b5:Bool)(p5:OA)(n6:Int)(p6 uU:OA)(uG uP:Nat)(n8 n9:Int)(BM:OA)(Bo BL:Nat)(C3 B9:Int)(Jv:LM)(n7:Int)(w4:World)(b8:Bool):WK:=
br b8 (
bq.j4 K r2 v1 v2 I2 b5 p5 n6 p6 uU uG uP n8 n9 BM Bo BL C3 B9 Jv n7 w4 true) (
lI (ad r2 31) λn14=>
bq.j4 K r2 v1 v2 I2 b5 p5 n6 p6 uU uG uP n8 n9 BM Bo BL C3 B9 Jv n7 w4 (decide (n14>n6)))
def bq.j2(K:VK)(r2:Nat)(v1 v2:Value)(I2:LI)(b5:Bool)(p5:OA)(n6:Int)(p6 uU:OA)(uG uP:Nat)(n8 n9:Int)(BM:OA)(Bo BL:Nat)(C3 B9:Int)(Jv:LM)(n7:Int)(w4:World)(b7:Bool):WK:=
br b7 (
bq.j3 K r2 v1 v2 I2 b5 p5 n6 p6 uU uG uP n8 n9 BM Bo BL C3 B9 Jv n7 w4 true) (
aJ (ad r2 16) 2 λcs7=>
IP Go.Proofs.Tryz.prog 83 v2 (.agg ⟨cs7⟩) (xB λb11=>
bq.j3 K r2 v1 v2 I2 b5 p5 n6 p6 uU uG uP n8 n9 BM Bo BL C3 B9 Jv n7 w4 b11))
def bq.j5(K:VK)(r3:Nat)(v3 v4:Value)(I3:LI)(Tb:Bool)(p7:OA)(wP:Int)(p8 PE:OA)(Lm Rc:Nat)(SQ Wy:Int)(KT:OA)(Im Ls:Nat)(Wx SP:Int)(SJ:LM)(w7:World)(b14:Bool):WK:=
br b14 (
K (.b false)) (
lI (ad r3 13) λn21=>
Rv Go.Proofs.Tryz.prog 82 v3 (.i n21) (.b true) (
aJ (ad r3 0) 2 λcs9=>
Rv Go.Proofs.Tryz.prog 83 v4 (.agg ⟨cs9⟩) (.b true) (
(ct I3 SJ [.b Tb,.p p7,.i wP,.p p8,v3,v4,.l PE Lm Rc,.i SQ,.i Wy,.l KT Im Ls,.i Wx,.i (aa.wrap (SP+1))] [.b Tb,.p p7,.i wP,.p p8,v3,v4,.l PE Lm Rc,.i SQ,.i Wy,.l KT Im Ls,.i Wx,.i SP] w7))))
def bq(wc:OA)(vw wN:Nat)(K:VK):WK:=
iS (xB λb1=>
br (!b1) (
K (.b false)) (
pI wc vw wN (xB λb2=>
br b2 (
K (.b true)) (
pG (xP λp1=>
(lp [.b false,.p p1,.i 0,.l wc vw wN,.i (vw:Int),.i 0] λI1 kS=>
∀b3 p2 n1 ov mo qf n2 n3 w2,I1 [.b b3,.p p2,.i n1,.l ov mo qf,.i n2,.i n3] w2->(
br (decide (n3<n2)) (
iW ov mo n3 6 λa1=>
aJ a1 6 λQG=>
mk Nz λr1=>
bK 6 (ad r1 0) QG (
aJ (ad r1 0) 6 λGU=>
aP p2 GU (xB λb4=>
nn p2 λa2=>
lP a2 λp3=>
dG p3 (xP λp4=>
hO p4 (xI .i64 λn4=>
br (decide (n4<n1)) (
K (.b false)) (
hO p4 (xI .i64 λn5=>
mkM λm1=>
mkM λm2=>
hG p4 (xL λo9 nJ pa=>
(lp [.b b3,.p p2,.i n5,.p p4,(.map (some m1)),(.map (some m2)),.i 0,.l ov mo qf,.i n2,.i n3,.l o9 nJ pa,.i (nJ:Int),.i 0] λI2 Jv=>
∀b5 p5 n6 p6 v1 v2 n7 uU uG uP n8 n9 BM Bo BL C3 B9 w4,I2 [.b b5,.p p5,.i n6,.p p6,v1,v2,.i n7,.l uU uG uP,.i n8,.i n9,.l BM Bo BL,.i C3,.i B9] w4->(
br (decide (B9<C3)) (
iW BM Bo B9 33 λa3=>
aJ a3 33 λHW=>
mk cN λr2=>
bK 33 (ad r2 0) HW (
lI (ad r2 30) λWz=>
br (decide (Wz<=n7)) (
bq.j2 K r2 v1 v2 I2 b5 p5 n6 p6 uU uG uP n8 n9 BM Bo BL C3 B9 Jv n7 w4 true) (
lI (ad r2 30) λn15=>
IP Go.Proofs.Tryz.prog 82 v1 (.i n15) (xB λb12=>
bq.j2 K r2 v1 v2 I2 b5 p5 n6 p6 uU uG uP n8 n9 BM Bo BL C3 B9 Jv n7 w4 b12)))) (
mkM λm3=>
fK p6 (xL λTY SM SN=>
(lp [.b b5,.p p5,.i n6,.p p6,v1,(.map (some m3)),.l uU uG uP,.i n8,.i n9,.l TY SM SN,.i (SM:Int),.i 0] λI3 SJ=>
∀Tb p7 wP p8 v3 v4 PE Lm Rc SQ Wy KT Im Ls Wx SP w7,I3 [.b Tb,.p p7,.i wP,.p p8,v3,v4,.l PE Lm Rc,.i SQ,.i Wy,.l KT Im Ls,.i Wx,.i SP] w7->(
br (decide (SP<Wx)) (
iW KT Im SP 14 λa4=>
aJ a4 14 λcs8=>
mk eG λr3=>
bK 14 (ad r3 0) cs8 (
tick (
lI (ad r3 13) λn22=>
IP Go.Proofs.Tryz.prog 82 v3 (.i n22) (xB λb15=>
br b15 (
bq.j5 K r3 v3 v4 I3 Tb p7 wP p8 PE Lm Rc SQ Wy KT Im Ls Wx SP SJ w7 true) (
aJ (ad r3 0) 2 λahO=>
IP Go.Proofs.Tryz.prog 83 v4 (.agg ⟨ahO⟩) (xB λb16=>
br b16 (
bq.j5 K r3 v3 v4 I3 Tb p7 wP p8 PE Lm Rc SQ Wy KT Im Ls Wx SP SJ w7 true) (
lI (ad r3 13) λn23=>
br (decide (n23<1)) (
bq.j5 K r3 v3 v4 I3 Tb p7 wP p8 PE Lm Rc SQ Wy KT Im Ls Wx SP SJ w7 true) (
lI (ad r3 13) λn24=>
gZ p8 (xI .i64 λn25=>
kp (ad r3 13) [.i n24] (
kp (ad r3 13) [.i n23] (
bq.j5 K r3 v3 v4 I3 Tb p7 wP p8 PE Lm Rc SQ Wy KT Im Ls Wx SP SJ w7 (decide (n24>n25))))))))))))) (
X4 v3 λn26=>
gZ p8 (xI .i64 λn27=>
br (n26 !=n27) (
K (.b false)) (
(ct I1 kS [.b Tb,.p p7,.i wP,.l PE Lm Rc,.i SQ,.i (aa.wrap (Wy+1))] [.b b3,.p p2,.i n1,.l ov mo qf,.i n2,.i n3] w2))))) w7)))) w4))))))))) (
K (.b true))) w2))))))
end Go.Prog
namespace Go.Up
open Go.Sep Go.Den Go.RowKit Go.Prog Go.Md Go.cG
abbrev Eo(n:Int):Value:=.i n
abbrev En(k:Nat):Value:=.agg ⟨nm k⟩
structure StB(al:List bP)(kl:List cr)(clock ay:Int):Prop where
 rising:kl.Pairwise λx y=>x.move.ay<y.move.ay
 pos:∀k∈kl,1<=k.move.ay
 names:(kl.map (·.move.id)).Nodup
 iE:∀k∈kl,k.move.iE<=clock
 asked:∀k∈kl,k.move.id=k.asked.id
 dJ:(al.map (·.ay)).Nodup
 apart:∀a∈al,∀k∈kl,a.ay≠k.move.ay
 ids:(al.map (·.id)).Nodup
 within:∀a∈al,1<=a.ay/\a.ay<=ay
 all:ay=((kl.length+al.length:Nat):Int)
def StB.of{m:aA}(hg:eB (bo m))(hs:WW m):StB (bo m).aC (bo m).ax (bo m).clock (bo m).ay:=by
 have key:∀a∈(bo m).aC,∃b∈m.cW,a.ay=b.ay:=λa ha=>by
  obtain⟨b,hb,rfl⟩:=cV.1 ha;exact⟨b,hb,rfl⟩
 refine⟨hg.rising,λk hk=>(hg.dJ k hk).1,hg.names,hs.iE,hs.ids,?_,λa ha k hk=>?_,hg.ids,λa ha=>?_,?_⟩
 ·show(List.map _ (List.map _ m.cW)).Nodup;rw[sY];exact hs.one
 ·obtain⟨b,hb,e⟩:=key a ha;rw[e];exact hs.apart b hb k hk
 ·obtain⟨b,hb,e⟩:=key a ha;rw[e];exact hs.cW b hb
 ·have:=hg.ay;omega
instance{k:cr}:Sub (bM k) 0 2 (nm k.asked.id):=⟨zh rfl rfl⟩
def Gk{α β:Type}{f:α->β}{l:List α}{j:Nat}{x:α}(h:(l.map f).Nodup)(hx:l[j]?=some x):f x∉(l.take j).map f:=by
 intro hm;obtain⟨y,hy,e⟩:=cV.1 hm;obtain⟨i,hi,rfl⟩:=List.mem_iff_getElem.1 hy;rw[aD] at hi;obtain⟨hj,Z6⟩:=ar.1 hx;rw[List.getElem_take] at e;have h1:(l.map f)[i]'(by rw[bQ];omega)=(l.map f)[j]'(by rw[bQ];omega):=by
  rw[List.getElem_map,List.getElem_map,e,Z6]
 exact(kC.1 h) i j (by rw[bQ];omega) (by rw[bQ];omega) (by omega) h1
def Rg{l:List cr}{j:Nat}{x:cr}(h:l.Pairwise λx y=>x.move.ay<y.move.ay)(hx:l[j]?=some x):(∀y∈l.take j,y.move.ay<x.move.ay)/\∀y∈l.drop (j+1),x.move.ay<y.move.ay:=by
 obtain⟨hj,Z6⟩:=ar.1 hx;rw[kC] at h;refine⟨λy hy=>?_,λy hy=>?_⟩
 ·obtain⟨i,hi,rfl⟩:=List.mem_iff_getElem.1 hy;rw[aD] at hi;rw[List.getElem_take,<-Z6];exact h i j (by omega) hj (by omega)
 ·obtain⟨i,hi,rfl⟩:=List.mem_iff_getElem.1 hy;rw[aS] at hi;rw[List.getElem_drop,<-Z6];exact h j (j+1+i) hj (by omega) (by omega)
def zW{α β:Type}{f:α->β}{l:List α}{j:Nat}{x:α}(hx:l[j]?=some x):(l.take (j+1)).map f=(l.take j).map f++[f x]:=by
 rw[bg,hx,cF];rfl
set_option maxHeartbeats 1000000 in
def KR{W:World}{L:LH}{K:VK}{sb:OA}{sc:Nat}{l:List TS}(hI:zQ Go.Proofs.Tryz.prog 82 Eo)(hN:zQ Go.Proofs.Tryz.prog 83 En)(G:oH W)(hr:mE W [] Dz 6 sb l)(xt:ach l)(h:T W L (K (.b true))):
 T W L (bq sb l.length sc K):=by
 unfold bq;refine Zh G (oF (su ?_));refine YC hr xt λb hb=>?_;refine oF ?_;cases b with
 |true=>exact h
 |false=>
 obtain⟨Jd,J'⟩:=hb rfl;refine jU ?_;refine Xh G λw=>?_;refine tz ?_;have jS:WW mY:=⟨λa ha=>(by cases ha),λk hk=>(by cases hk),List.nodup_nil,λa ha=>(by cases ha),λk hk=>(by cases hk),λk hk=>(by cases hk),eE _⟩;obtain⟨I1,hI1⟩:∃I1:LI,I1=λvv w'=>∃(i:Nat)(S:VS)(m mf:aA),i<=l.length/\KI 600 S m mf (3* i)/\Md.bW m/\Md.bW mf/\WW m/\WW mf/\m.clock<=mf.clock/\vv=[.b false,.p (ah w),.i m.clock,.l sb l.length sc,.i (l.length:Int),.i (i:Int)]/\St W w' (wd w ⟨S,m,m,mf⟩::L):=⟨_,rfl⟩;obtain⟨kS,UJ⟩:∃kS:LM,kS=mq 5 l.length:=⟨_,rfl⟩;intro w' UM;refine⟨I1,kS,by rw[hI1];exact⟨0,th 600,mY,mY,aF _,KI.Qz,kx,kx,jS,jS,eE _,rfl,UM⟩,?_⟩;intro b3 p2 n1 ov mo qf n2 n3 w2 U9;rw[hI1] at U9;obtain⟨i,S,m,mf,hi,hk,hg,Ym,hsm,hsf,qh,e,ib⟩:=U9;cases e
 refine T.at ?_ ib;refine ga (λg1=>?_) (λg1=>T.drop h);have cn:i<l.length:=by omega
 have e5:=nI i;refine abe hr xt.1 (aj cn) λr=>?_;have hx:=J' _ (bF cn);generalize l[i]=x at hx;apply ws;refine ahN (w:=w) G hx hk (by omega) hg Ym λb S' m' KU m2 mf2 hw Nt afs he=>?_;obtain⟨rfl,rfl,rfl⟩:=he ⟨rfl,rfl⟩;have GB:=hw.inv (P:=WW) (λq h=>GQ (λ_ _ a b c=>b.step c) hg h) hsm hsf;have Ow:=hw.rel (Q:=λa b=>a.clock<=b.clock) (λ_=>eE _) (λq=>GQ (P:=λz=>m.clock<=z.clock) (λ_ _ a b c=>Int.le_trans b c.clock) hg (eE _)) qh;apply ws;refine acA (w:=w) λdY _ _=>?_;have hB:=StB.of dY GB.1;have oJ:=dY.oJ;have many:=dY.many;refine Tl (w:=w) λp=>?_;apply yH (p:=p);apply kd;refine ef (ao (by have:=Ow.1;show ¬m2.clock<m.clock;omega)) ?_;apply yH (p:=p);apply kd;refine TC Eo λm1=>?_;refine TC En λm3=>?_;refine yG (p:=p) λkb kc=>?_;apply uE;refine T.sub (M:=own kb (bo m2).ax.length kc 33 ((bo m2).ax.flatMap bM)::mp En m3 []::mp Eo m1 []::cL p (bo m2,[])::wd w ⟨S',m2,m2,mf2⟩::L) ?_ (by exact qo);have fin:∀w5,St W w5 (wd w ⟨S',m2,m2,mf2⟩::L)->ct I1 kS [.b false,.p (ah w),.i (bo m2).clock,.l sb l.length sc,.i (l.length:Int),.i (aa.wrap ((i:Int)+1))] [.b false,.p (ah w),.i m.clock,.l sb l.length sc,.i (l.length:Int),.i (i:Int)] w2 w5:=by
  intro w5 h5;rw[e5];refine⟨?_,?_⟩
  ·rw[hI1];exact⟨i+1,S',m2,mf2,cn,hw.ki hk,Nt,afs,GB.1,GB.2,Ow.2,rfl,h5⟩
  ·rw[UJ];exact dn (by omega)
 clear hI1 UJ;have hbm:cL p (bo m2,[])=cL p (⟨(bo m2).aC,(bo m2).ax,(bo m2).clock,(bo m2).ay⟩,[]):=rfl;rw[hbm];have aiD:(bo m2).clock=(bo m2).clock:=rfl;generalize (bo m2).aC=al at hB oJ⊢;generalize (bo m2).ax=kl at hB many⊢;generalize (bo m2).clock=ck at hB fin⊢;generalize (bo m2).ay=stp at hB⊢;intro w' UM;refine⟨λvv w'=>∃(j:Nat)(last:Int),j<=kl.length/\(∀k∈kl.drop j,last<k.move.ay)/\vv=[.b false,.p (ah w),.i ck,.p (ah p),.map (some m1),.map (some m3),.i last,.l sb l.length sc,.i (l.length:Int),.i (i:Int),.l kb kl.length kc,.i (kl.length:Int),.i (j:Int)]/\
                                                                                                          St W w' (own kb kl.length kc 33 (kl.flatMap bM)::mp En m3 ((kl.take j).map (·.move.id))::mp Eo m1 ((kl.take j).map (·.move.ay))::cL p (⟨al,kl,ck,stp⟩,[])::wd w ⟨S',m2,m2,mf2⟩::L),
  mq 12 kl.length,⟨0,0,aF _,λk hk=>(by have:=hB.pos k (List.mem_of_mem_drop hk);omega),rfl,UM⟩,?_⟩
 rintro b5 p5 n6 p6 v1 v2 n7 uU uG uP n8 n9 BM Bo BL C3 B9 w4 ⟨j,last,hj,DT,e,vU⟩;cases e
 refine T.at ?_ vU;have e6:=nI j;apply ga<;>intro g2
 ·have Yi:j<kl.length:=by omega
  have gy:=aj Yi;have hy:=bF Yi;have hly:=DT kl[j] (by rw[gh Yi];exact sX ..);generalize kl[j]=y at gy hy hly;obtain⟨ra,rc⟩:=Rg hB.rising gy;have n1:y.move.ay∉(kl.take j).map (·.move.ay):=λhm=>by
   obtain⟨z,hz,ez⟩:=cV.1 hm;have:=ra z hz;omega
  have n2:y.move.id∉(kl.take j).map (·.move.id):=Gk (f:=λk:cr=>k.move.id) hB.names gy;refine dS (b:=kb) ⟨by omega,by omega⟩ λrb UR=>?_;rw[ak];subst UR;refine gI (g:=bM) (λ_=>rfl) gy ?_;apply ws;intros;rename_i r2;refine ef (ao (by omega)) ?_;apply ws;refine EF (f:=Eo) (b:=m1) (k:=y.move.ay) hI ?_;rw[ao n1];apply oF;unfold bq.j2;apply jU;apply ws;refine EF (f:=En) (b:=m3) (k:=y.move.id) hN ?_;rw[ao n2];apply oF;unfold bq.j3;apply jU;apply ws;unfold bq.j4;rw[ao (show ¬y.move.iE>ck by have:=hB.iE y hy;omega)];apply jU;apply ws;rw[aw (hB.asked y hy)];unfold bq.j1;apply ef rfl;apply ws;refine JE (f:=Eo) (b:=m1) (k:=y.move.ay) hI n1 ?_;apply ws;refine JE (f:=En) (b:=m3) (k:=y.move.id) hN n2 ?_;rw[e6];refine T.drop λw5 h5=>⟨⟨j+1,y.move.ay,Yi,rc,rfl,?_⟩,dn (by omega)⟩;rw[zW (f:=λk:cr=>k.move.id) gy,zW (f:=λk:cr=>k.move.ay) gy];exact h5
 have iZ:j=kl.length:=by omega
 subst iZ;rw[aV];refine TC En λm4=>?_;refine rX (p:=p) λab ac=>?_;apply uE;dsimp only;refine T.sub (M:=own ab al.length ac 14 (al.flatMap aO)::mp En m4 []::mp Eo m1 (kl.map (·.move.ay))::cL p (⟨al,kl,ck,stp⟩,[])::wd w ⟨S',m2,m2,mf2⟩::L) ?_ (by exact qo);intro w' UM;refine⟨λvv w'=>∃(j:Nat),j<=al.length/\vv=[.b false,.p (ah w),.i ck,.p (ah p),.map (some m1),.map (some m4),.l sb l.length sc,.i (l.length:Int),.i (i:Int),.l ab al.length ac,.i (al.length:Int),.i (j:Int)]/\
             St W w' (own ab al.length ac 14 (al.flatMap aO)::mp En m4 ((al.take j).map (·.id))::mp Eo m1 (kl.map (·.move.ay)++(al.take j).map (·.ay))::cL p (⟨al,kl,ck,stp⟩,[])::wd w ⟨S',m2,m2,mf2⟩::L),
  mq 11 al.length,⟨0,aF _,rfl,by rw[mR,ou,ou,bR];exact UM⟩,?_⟩
 rintro Tb p7 wP p8 v3 v4 PE Lm Rc SQ Wy KT Im Ls Wx SP w7 ⟨j,hj,e,yR⟩;cases e
 refine T.at ?_ yR;have e7:=nI j;apply ga<;>intro g3
 ·have Yi:j<al.length:=by omega
  have gy:=aj Yi;have hy:=bF Yi;generalize al[j]=y at gy hy;have hwy:=hB.within y hy;have n1:y.ay∉kl.map (·.move.ay)++(al.take j).map (·.ay):=λhm=>by
   rcases dB.1 hm with hm|hm
   ·obtain⟨z,hz,ez⟩:=cV.1 hm;exact hB.apart y hy z hz ez.symm
   ·exact Gk (f:=λa:bP=>a.ay) hB.dJ gy hm
  have n2:y.id∉(al.take j).map (·.id):=Gk (f:=λa:bP=>a.id) hB.ids gy;refine dS (b:=ab) ⟨by omega,by omega⟩ λrb UR=>?_;rw[ak];subst UR;refine gI (g:=aO) (λ_=>rfl) gy ?_;apply ws;intros;rename_i r3;refine EF (f:=Eo) (b:=m1) (k:=y.ay) hI ?_;rw[ao n1];apply oF;apply jU;apply ws;refine EF (f:=En) (b:=m4) (k:=y.id) hN ?_;rw[ao n2];apply oF;apply jU;apply ws;refine ef (ao (by omega)) ?_;apply ws;refine yC (p:=p) ?_;apply ws;unfold bq.j5;rw[ao (show ¬y.ay>stp by omega)];apply jU;apply ws;refine JE (f:=Eo) (b:=m1) (k:=y.ay) hI n1 ?_;apply ws;refine JE (f:=En) (b:=m4) (k:=y.id) hN n2 ?_;rw[e7];refine T.drop λw5 h5=>⟨⟨j+1,Yi,rfl,?_⟩,dn (by omega)⟩;rw[zW (f:=λa:bP=>a.id) gy,zW (f:=λa:bP=>a.ay) gy,<-aH];exact h5
 have iZ:j=al.length:=by omega
 subst iZ;rw[aV];refine aaG (f:=Eo) (b:=m1) ?_;refine yC (p:=p) ?_;apply kd;have fI:=hB.all;refine ef ?_ ?_
 ·rw[av,bQ,bQ];show(((kl.length+al.length:Nat):Int)!=stp)=false;rw[fI];simp
 ·exact T.drop (T.drop (T.drop (T.drop fin)))
end Go.Up
namespace Go.Proofs.YtdeklijinefhkaaGreatDoor
open Go.Sep Go.Den Go.RowKit Go.Prog Go.Up
def ade:zQ Tryz.prog 82 Eo:=UG Tryz.underlying82 Tryz.underlying3 Tryz.zeroValue4
def Sx(e:Bool)(k:Nat)(w:World):(Instr.checkKey e 10000 45 (.agg ⟨nm k⟩)).run Tryz.prog w=.ok () w:=by
 have h:∀n(i:Int),(Instr.checkKey e (n+1) 43 (.u i)).run Tryz.prog w=.ok () w:=λn i=>by
  unfold Instr.checkKey;simp[run_underlying Tryz.underlying43,Result.andThen]
 have h1:∀n(a b:Int),(Instr.checkKey e (n+2) 45 (.agg ⟨[.u a,.u b]⟩)).run Tryz.prog w=.ok () w:=λn a b=>by
  unfold Instr.checkKey;simp[run_underlying Tryz.underlying45,Result.andThen,part,run_underlying Tryz.underlying43,h]
 exact h1 9998 _ _
def adb:zQ Tryz.prog 83 En:=Mc (f:=nm) Tryz.underlying83 Tryz.underlying45 Tryz.zeroValue4 aak (by rfl) (λk=>rfl) (λa b=>by rw[Vg,decide_eq_true_eq]) Sx
def e7:aE P 7 (U [.l] bq):=ub [(8,[(2,vb),(3,vp),(4,vi),(21,vl),(22,vi),(23,vi)]),(19,[(2,vb),(3,vp),(4,vi),(7,vp),(8,.nilFunc),(9,.nilFunc),(10,vi),(21,vl),(22,vi),(23,vi),(44,vl),(45,vi),(46,vi)]),(29,[(2,vb),(3,vp),(4,vi),(7,vp),(8,.nilFunc),(13,.nilFunc),(21,vl),(22,vi),(23,vi),(97,vl),(98,vi),(99,vi)])] (tk e17 (tk e18 (tk e19 (tk e23 (tk e31 (tk e32 (tk e33 (tk e34 (tk e35 t0))))))))) Tryz.func7
def HX{W:World}{b0:OA}{n0 c0:Nat}{Pg:LV}(G:oH W)(EZ:Ro W b0 n0 6 Pg)(Yq:zR tsK n0 Pg)(RZ:n0<=maxLen):
 U [.l] bq [.l b0 n0 c0] (λv w'=>v=.bool true/\Below W.heap.size W w') W:=by
 obtain⟨l0,rfl,h0,k0⟩:=tss EZ Yq RZ;exact KR ade adb (K:=λv w'=>v=.bool true/\Below W.heap.size W w') (W:=W) (L:=[]) G h0 k0 (λw hs=>⟨rfl,hs.1⟩) W (St.start W)
end Go.Proofs.YtdeklijinefhkaaGreatDoor
