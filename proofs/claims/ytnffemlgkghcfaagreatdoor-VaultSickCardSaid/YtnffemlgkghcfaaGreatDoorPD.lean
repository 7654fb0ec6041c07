/- Part of the proof: see the last text. -/
import Derived.Test.YtnffemlgkghcfaaGreatDoorPC
import Derived.Test.YtnffemlgkghcfaaGreatDoorPA
import Derived.Test.YtnffemlgkghcfaaGreatDoorPB
set_option linter.all false
set_option maxRecDepth 100000
set_option synthInstance.maxSize 100000
open Bool renaming eq_iff_iff→aed,true_and→aeS,false_and→ae1,and_eq_true→aeJ,false_eq_true→aef,noConfusion→afj,false_ne_true→aej
open Decidable renaming not_not→ad4
open Go.IntKind renaming i64→adN
open Int renaming toNat_natCast→adR,eq_ofNat_of_zero_le→ad1,le_refl→afq,tmod_eq_emod_of_nonneg→aey
open List renaming getElem?_eq_getElem→adQ,getElem?_eq_some_iff→adS,length_append→adT,length_take→adV,append_assoc→adZ,length_drop→ad2,replicate→ad6,length_cons→ad8,drop_eq_getElem_cons→aev,length_replicate→aeX,cons_append→ae3,set_set→ae4,getElem?_drop→ae6,getElem?_take→afg,take_length→ad3,take_add_one→ad',append_nil→aeb,getElem_mem→aee,Perm→aeh,take_append_drop→aek,nil_append→aet,drop_of_length_le→aex,drop_drop→ae0,getElem?_of_mem→ae',perm_append_comm→adY,Sublist→ad5,getElem?_append_right→aeo,length_map→aeg,map_append→aen,length_reverse→aeM,take_of_length_le→ad9,filter_cons_of_pos→aeP,filter_cons_of_neg→aeQ,mem_of_getElem?→aei,getElem?_map→aeD,flatMap_cons→aeE,flatMap_append→aeN,map_congr_left→ae7,range→afl,mem_map→aeA,pairwise_iff_getElem→aeW,ext_getElem?→afa,find?_eq_none→afb,take_zero→aff,length_nil→ael,getElem?_cons_succ→ad7,drop_zero→aeZ,take_take→afn,set_cons_succ→ae5,getElem?_append_left→aec,perm_middle→ae2,mem_append→aeu
open Nat renaming le_refl→adW,zero_le→ad0,add_zero→aeL,sub_self→ae8,add_mul→afe,min_eq_left→afh,mul_one→afm,zero_add→adU,pow_le_pow_right→aeH,mul_le_mul_right→aeC,mod_eq_of_lt→aez,reduceAdd→adO,reduceMul→adP,le_of_ble_eq_true→adX
open Option renaming isSome_some→aep,getD_some→aes,isSome_none→aew,getD_none→aeI,map→aft,some→aea,map_some→aeB
namespace Go.Up
open Go.Sep Go.Den Go.RowKit Go.Prog Go.Md Go.bu
def K2(n:Int):bA .i64 .and n 1=n%2:=by
 unfold bA;have e1:(BitVec.ofInt adN.bits n&&&BitVec.ofInt adN.bits 1).toNat=(BitVec.ofInt 64 n).toNat%2:=by
  rw[BitVec.toNat_and];show(BitVec.ofInt 64 n).toNat&&&1=_;exact Nat.and_one_is_mod _
 dsimp only;rw[e1];have e2:(((BitVec.ofInt 64 n).toNat%2:Nat):Int)=n%2:=by
  rw[BitVec.toNat_ofInt];omega
 rw[e2];exact aw (by omega)
def K1{n:Int}(h0:0<=n)(h1:n<=7):bA .i64 .andNot n 1=n/2* 2:=by
 have:n=0\/n=1\/n=2\/n=3\/n=4\/n=5\/n=6\/n=7:=by omega
 rcases this with rfl|rfl|rfl|rfl|rfl|rfl|rfl|rfl<;>rfl
section
variable {α:Type} {W:World} {R L:LH} {K:VK} {X:WK} {g:α->LV} {e:Nat} {s:OA} {l:List α}
def nA(W:World)(R:LH)(g:α->LV)(e:Nat)(s:OA)(l:List α):Prop:=
 ∀w,St W w R->∀i x,l[i]?=some x->∃a,s=some a/\tt w (a.add (i* e)) (g x)
def jy{i:Int}{n:Nat}{K:Addr->WK}[hh:Has R L](hr:nA W R g e s l)(hi:0<=i/\i<l.length)(hn:n=l.length)(h:∀a,s=some a->T W L (K (a.add (i.toNat* e)))):T W L (fO s n i e K):=λw hs=>by
 obtain⟨a,ha,-⟩:=hr w (hh.sub hs) i.toNat _ (adQ (by omega));exact⟨a,ha,⟨hi.1,by omega⟩,h a ha w hs⟩
def jx{i:Nat}{x:α}{a:Addr}{K:LV->WK}[hh:Has R L](hr:nA W R g e s l)(hs:s=some a)(hx:l[i]?=some x)(hg:(g x).length=e)(h:T W L (K (g x))):T W L (ah (a.add (i* e)) e K):=λw hw=>by
 obtain⟨a',ha,hh⟩:=hr w (hh.sub hw) i x hx;rw[hs] at ha;cases ha
 exact⟨g x,hg,hh,h w hw⟩
def nA.drop{c i:Nat}(hr:nA W R g e s l)(hi:i<=l.length)(hc:l.length<=c):nA W R g e (tN s c i e) (l.drop i):=λw hw j x hx=>by
 rw[ae6] at hx;obtain⟨a,ha,hh⟩:=hr w hw (i+j) x hx;have aZ:=(adS.1 hx).1;unfold tN;rw[if_neg (by omega),ha];refine⟨a.add (i* e),rfl,?_⟩;rw[add_add,<-afe];exact hh
def nA.take{i:Nat}(hr:nA W R g e s l):nA W R g e s (l.take i):=λw hw j x hx=>by
 refine hr w hw j x ?_;rw[afg] at hx;split at hx
 ·exact hx
 ·cases hx
def zD{b:OA}{n c i j e:Nat}{K:OA->Nat->Nat->WK}(hi:i<=j)(hj:j<=c)(h:T W L (K (tN b c i e) (j-i) (c-i))):T W L (nV b n c e (some (i:Int)) (some (j:Int)) K):=by
 unfold nV;refine cK ⟨by omega,by omega⟩ ?_;dsimp only;refine cK ⟨by omega,by omega⟩ ?_;rw[adR,adR];exact h
end
def I1(i:Int):LV:=[.i i]
def yw(i:Int):(I1 i).length=1:=rfl
section
variable {W:World} {L:LH} {K:VK} {X:WK} {f:HP->LH}
def Ep{r N C o n i:Nat}{c:Nat}{v:Int}{l:List Int}[j:oS (some ⟨r,0,none⟩) N C L 1 (l.flatMap I1) f](ho:o+n<=l.length)(hi:i<n)(hn:n<1000000)
 (h:T W (f (own (some ⟨r,0,none⟩) N C 1 ((l.take o++ik n (some (i,v))++l.drop (o+n)).flatMap I1))) (K (.tuple ⟨[]⟩))):T W L (fJ (some ⟨r,o,none⟩) n c i v K):=by
 unfold fJ;intro w hs;obtain⟨k,hk,e1⟩:=j.at_;have uW:min o l.length=o:=afh (by omega)
 let st:Nat->List Int:=λm=>l.take o++ad6 m 1++l.drop (o+m)
 have rG:∀m,m<=n->(st m).length=l.length:=λm hm=>by simp only[st,adT,adV,uW,aeX,ad2];omega
 refine⟨λvs w=>∃m:Nat,m<=n/\vs=[.i (n:Int),.i (m:Int)]/\St W w (f (own (some ⟨r,0,none⟩) N C 1 ((st m).flatMap I1))),λvs _=>match vs with|[_,.int _ d]=>n-d.toNat|_=>0,⟨0,ad0 _,rfl,?_⟩,?_⟩
 ·have:st 0=l:=by simp[st]
  rw[this,e1,jO hk];exact hs
 rintro n3 n4 w2 ⟨m,hm,e,fj⟩;cases e
 rw[e1] at fj;have ru:(L.set k (own (some ⟨r,0,none⟩) N C 1 ((st m).flatMap I1)))[k]?=some (own (some ⟨r,0,none⟩) N C 1 ((st m).flatMap I1)):=fV hk;have one:∀v∈I1 1,v.oneCell'=true:=λv hv=>by simp[I1] at hv;subst hv;rfl
 by_cases aZ:m<n
 ·rw[decide_eq_true (by omega)];rw[gU];refine⟨_,rfl,⟨by omega,by omega⟩,?_⟩;rw[dW,adR,afm];refine DQ fj ru (by rw[wX yw,rG m hm];omega) rfl λw3 qF=>?_;have e5:=l9 m;rw[e5];refine⟨⟨m+1,aZ,rfl,?_⟩,by show n-((m+1:Nat):Int).toNat<n-(m:Int).toNat;omega⟩;rw[e1];rw[ae4] at qF;have e6:((st m).flatMap I1).set (o+m) (Value.int adN 1)=(st (m+1)).flatMap I1:=by
   have:=yg (g:=I1) (l:=st m) (o:=o+m) (y:=1) (j:=0) (v:=.i 1) yw (adQ (by rw[rG m hm];omega)) rfl (by decide);have e7:(st m).set (o+m) 1=st (m+1):=by
    have hd:l.drop (o+m)=l[o+m]'(by omega)::l.drop (o+m+1):=aev (by omega);have hAB:(l.take o++ad6 m (1:Int)).length=o+m:=by rw[adT,adV,aeX,uW]
    simp only[st];rw[hd,List.set_append_right _ _ (by omega),hAB,ae8,List.set_cons_zero,List.replicate_succ'];simp[Nat.add_assoc]
   rw[<-e7,<-this,afm,aeL]
  rw[e6] at qF;exact qF
 ·have hmn:m=n:=by omega
  subst hmn;rw[decide_eq_false (by omega),cf];refine⟨_,rfl,⟨by omega,by omega⟩,?_⟩;rw[dW,adR,afm];refine DQ fj ru (by rw[wX yw,rG m hm];omega) rfl λw3 qF=>?_;refine h w3 ?_;rw[e1];rw[ae4] at qF;have e6:((st m).flatMap I1).set (o+i) (Value.int adN v)=(l.take o++ik m (some (i,v))++l.drop (o+m)).flatMap I1:=by
   have:=yg (g:=I1) (l:=st m) (o:=o+i) (y:=v) (j:=0) (v:=.i v) yw (adQ (by rw[rG m hm];omega)) rfl (by decide);have e7:(st m).set (o+i) v=l.take o++ik m (some (i,v))++l.drop (o+m):=by
    simp only[st,ik];rw[adZ,List.set_append_right _ _ (by rw[adV,uW];omega),List.set_append_left _ _ (by rw[adV,uW,aeX];omega),<-adZ]
    congr 3
    rw[adV,uW];omega
   rw[<-e7,<-this,afm,aeL]
  rw[e6] at qF;exact qF
end
section
variable {α σ:Type}
def s8{linked:α->Bool}:∀{l:List α} {i:Nat} {x:α},(∀j y,j<i->l[j]?=some y->linked y=true)->l[i]?=some x->linked x=false->bl linked l=(i+1,true)
 |[],i,x,_,hx,_=>by simp at hx
 |y::l,0,x,_,hx,hn=>by simp at hx;subst hx;unfold bl;rw[if_neg (by simp[hn])]
 |y::l,i+1,x,h,hx,hn=>by
  unfold bl;rw[if_pos (h 0 y (by omega) rfl),s8 (l:=l) (i:=i) (λj z hj hz=>h (j+1) z (by omega) (by simpa using hz)) (by simpa using hx) hn]
def q8{linked:α->Bool}:∀{l:List α},(∀x∈l,linked x=true)->bl linked l=(l.length,false)
 |[],_=>rfl
 |y::l,h=>by unfold bl;rw[if_pos (h y (by simp)),q8 λx hx=>h x (by simp[hx])];rfl
def s7{linked:α->Bool}:∀(l:List α),(bl linked l).1<=l.length
 |[]=>adW _
 |y::l=>by unfold bl;split<;>simp;exact s7 l
def y8{linked:α->Bool}(x:α)(l:List α):0<(bl linked (x::l)).1:=by unfold bl;split<;>simp
def s6{linked:α->Bool}:∀{l:List α},(bl linked l).2=false->(bl linked l).1=l.length
 |[],_=>rfl
 |y::l,h=>by
  unfold bl at h⊢;split at h
  ·rename_i hy;rw[if_pos hy];show _+1=_;rw[s6 h];rfl
  ·cases h
def oC{f:σ->α->Int×σ}:∀(l m:List α)(s s':σ)(i:Nat),fp f s l i=(none,s')->fp f s (l++m) i=fp f s' m (i+l.length)
 |[],m,s,s',i,h=>by cases h;rfl
 |x::l,m,s,s',i,h=>by
  unfold fp at h;split at h
  ·cases h
  ·rename_i h0;rw[ae3];show fp f s (x::(l++m)) i=_;rw[fp,if_neg h0,oC l m _ _ _ h,ad8,Nat.add_right_comm,Nat.add_assoc]
def jD(n:Nat)(e:Option (Nat×Int)):(ik n e).length=n:=by cases e<;>simp[ik]
end
section
variable {W:World} {L R:LH} {K:VK} {X:WK} {p:Nat} {b:ax} {hs:List C} {f:ax×List C->LH}
def Qc[i:Lc (bj p) L (b,hs) f]{a:aP}(lh:32<=b.ag.length)(h:T W L (K (.i 6))):T W L (jb (some ⟨p,0,none⟩) (ao a) K):=by
 have hL:f (b,hs)=L:=i.same;refine Hb (p:=p) λla lk ti tn vs bx R hg hc lY=>?_;have fin:=lY [] b hs vs bx _ hg hc (by rw[hL];exact h);unfold jb;apply ws;intros;refine IU (l:=la) ?_;apply ws;intros;refine ki (by show decide (((b.ag.length:Nat):Int)>=32)=true;simp;omega) ?_;exact T.dp fin
def Ji[i:Lc (bj p) L (b,hs) f]{b0:ax}{jF:List C}{n:Nat}(hg:Good b0)(hx:Ext (cY b0) jF (cY b) hs n)(hl:hs.length<1000000)(h:T W (f (b0,jF)) (K (.tuple ⟨[]⟩))):T W L (cW (some ⟨p,0,none⟩) (jF.length:Int) K):=λw hw=>by
 obtain⟨k,hk,e1⟩:=i.at_;have h1:=hw.focus hk;obtain⟨-,h2⟩:=h1.and;refine(show T W (cP p (cY b,hs)::L.eraseIdx k) _ from ?_) w h2;unfold cW;apply ws;intros;refine VN (p:=p) hl ?_;rw[hx.back];apply ws;intros;intro w2 Xh;refine h w2 ?_;rw[e1];exact St.nE (A:=bj p (b,hs)) (St.and_intro hg Xh) hk
def Iy{a:aP}(h:qG a=0):0<=a.flags/\a.flags<=7/\a.dp=0/\a.dq=0/\a.cp=0/\a.cq=0/\a.ae=0/\(1<=a.aF/\a.aF<=4294967295)/\1<=a.code/\a.code<=65535:=by
 unfold qG at h
 repeat' (first|(split at h;first|(exact absurd h (by decide))|skip)|skip)
 omega
def RC(G:px W){a:aP}(ha:uu a)[i:Lc (bj p) L (b,hs) f](hl:hs.length<900000)
 (h:∀cT,Ext (cY b) hs (cY (b.make a).2) cT 8->T W (f ((b.make a).2,cT)) (K (.i (b.make a).1))):T W L (iE (some ⟨p,0,none⟩) (ao a) K):=by
 have hL:f (b,hs)=L:=i.same;refine mX (p:=p) λhg=>?_;unfold iE
 repeat' first|apply ws;intros|apply wb|with_reducible refine OQ G ha ?_|fail
 have stay:∀r:Int,b.make a=(r,b)->T W L (K (.int .i64 r)):=λr e=>by
  rw[e] at h;have:=h hs (Ext.refl _ _ _);rw[hL] at this;exact this
 refine bB (λg1=>?_) (λg1=>?_)
 ·have g1:qG a≠0:=by simpa using g1
  have:=stay (qG a) (by unfold ax.make;rw[if_pos g1]);exact T.dp this
 have g1:qG a=0:=by simpa using g1
 have ck:=Iy g1
 repeat' first|apply ws;intros|apply wb|with_reducible refine sh (p:=p) ?_|fail
 cases hf:b.find a.id with
 |some x=>
  simp only[aep,aes];obtain⟨gx,hxi⟩:=rV hg hf
  repeat' first|apply ws;intros|apply wb|with_reducible refine OR ⟨ck.1,by omega⟩ ⟨gx.flags.1,by have:=gx.flags.2;omega⟩ ?_|fail
  have:=stay (rB a x) (by unfold ax.make;rw[if_neg (by omega),hf]);exact T.dp this
 |none=>
  simp only[aew,aeI];apply ws;intros;rw[K1 ck.1 ck.2.1];by_cases lh:b.ag.length<32
  ·have hga:AG {({a with flags:=a.flags/2* 2}:aP) with ae:=b.ae+1}:=by
    have rG:=hg.ae;have many:=hg.many;refine⟨⟨ha.id,ha.dp,ha.dq,ha.cp,ha.cq,?_,?_,?_,?_⟩,⟨⟨by show 0<=a.aF;omega,by show a.aF<=_;omega⟩,⟨by show 0<=a.code;omega,by show a.code<=_;omega⟩,by show 0<=a.flags/2* 2;omega,by show a.flags/2* 2<=_;omega⟩,⟨by show 0<=a.flags/2* 2;omega,by show a.flags/2* 2<_;omega⟩,by show 0<=b.ae+1;omega,by show b.ae+1<_;omega⟩
    ·show re a.aF;unfold re;omega
    ·show re a.code;unfold re;omega
    ·show re (a.flags/2* 2);unfold re;omega
    ·show re (b.ae+1);unfold re;omega
   refine Qb (p:=p) (a:={a with flags:=a.flags/2* 2}) hf lh hga hl λcT hx=>?_;apply ws;intros;have e:b.make a=(0,b.more {a with flags:=a.flags/2* 2}):=by
    unfold ax.make ax.more;rw[if_neg (by omega),hf];dsimp only;rw[if_neg (by omega)]
   rw[e] at h;have:=h cT (hx.mono (by omega));exact T.dp this
  ·refine Qc (p:=p) (a:={a with flags:=a.flags/2* 2}) (by omega) ?_;apply ws;intros;have:=stay 35 (by unfold ax.make;rw[if_neg (by omega),hf];dsimp only;rw[if_pos (by omega)]);exact T.dp this
end
def Is(b:ax):Prop:=∃m,l7 b m/\Md.Ground m
def Is.make{b:ax}(h:Is b)(a:aP):Is (b.make a).2:=by obtain⟨m,hs,hg⟩:=h;exact⟨_,(hs.make hg).2⟩
def Is.nZ{b:ax}(h:Is b)(t:Move):Is (b.nZ t).2:=by obtain⟨m,hs,hg⟩:=h;exact⟨_,(hs.nZ hg).2⟩
def C'(n:Int):(bA .i64 .and n 1!=0)=decide (n%2=1):=by
 rw[K2,aed];simp only[bne_iff_ne,ne_eq,decide_eq_true_eq];omega
def rO(t:Move):(ai t).length=16:=rfl
def wL(a:aP):Bool:=decide (a.flags%2=1)
def wK(t:Move):Bool:=decide (t.flags%2=1)
section
variable {α σ:Type}
def xE{f:σ->α->Int×σ}{lk:α->Bool}{n:Nat}{s:σ}{l:List α}(hl:l≠[]):
 eL f lk (n+1) s l=if(bl lk l).2=false then(ik (bl lk l).1 (some ((bl lk l).1-1,2)),s)
  else match fp f s (l.take (bl lk l).1) 0 with
  |(none,s')=>(ik (bl lk l).1 none++(eL f lk n s' (l.drop (bl lk l).1)).1,(eL f lk n s' (l.drop (bl lk l).1)).2)
  |(some e,_)=>(ik (bl lk l).1 (some e)++(eL f lk n s (l.drop (bl lk l).1)).1,(eL f lk n s (l.drop (bl lk l).1)).2):=by
 cases l with
 |nil=>exact absurd rfl hl
 |cons x l=>
  rw[eL]
  congr 1
def rK{f:σ->α->Int×σ}{lk:α->Bool}(n:Nat)(s:σ):eL f lk n s []=([],s):=by cases n<;>rfl
end
section
variable {W:World} {L R:LH} {K:VK} {X:WK} {p:Nat} {b:ax} {hs:List C}
def Rk{s:OA}{c nn:Nat}{l:List aP}[hh:Has R L](hr:nA W R ao 14 s l)(Hf:nn=l.length)(hl:l.length<1000000)
 (h:T W L (K (.tuple ⟨[.i ((bl wL l).1:Int),.bool (bl wL l).2]⟩))):T W L (iR s nn c (.func (.func N.dK) ⟨[]⟩ ⟨[]⟩) K):=by
 subst Hf;unfold iR;intro w hs;refine⟨λvs w=>∃i:Nat,i<=l.length/\(∀j y,j<i->l[j]?=some y->wL y=true)/\vs=[.i 0,.bool false,.l s l.length c,.i (l.length:Int),.i (i:Int)]/\St W w L,
  λvs _=>match vs with|[_,_,_,_,.int _ d]=>l.length-d.toNat|_=>0,⟨0,ad0 _,λj y hj=>by omega,rfl,hs⟩,?_⟩
 rintro n1 b1 sm qB sw n2 n3 w2 ⟨i,hi,fH,e,fj⟩;cases e
 refine T.at ?_ fj;have e5:=l9 i;refine dO (λg1=>?_) (λg1=>?_)
 ·have aZ:i<l.length:=by omega
  have gx:=adQ aZ;generalize l[i]=x at gx;refine jy hr ⟨by omega,by omega⟩ rfl λa ha=>?_;rw[adR];refine jx hr ha gx (eY x) ?_;apply ws;intros;show T W _ (dK (ao x) _);unfold dK;apply ws;intros;rw[C'];rw[e5];refine bB (λg2=>?_) (λg2=>?_)
  ·have g2:wL x=false:=by simpa [wL] using g2
   rw[s8 fH gx g2] at h;exact T.dp h
  ·have g2:wL x=true:=by simpa [wL] using g2
   refine T.drop (T.drop ?_);refine λw3 h3=>⟨⟨i+1,aZ,λj y hj hy=>?_,rfl,h3⟩,by show l.length-((i+1:Nat):Int).toNat<l.length-(i:Int).toNat;omega⟩;by_cases Gh:j=i
   ·subst Gh;rw[gx] at hy;cases hy;exact g2
   ·exact fH j y (by omega) hy
 ·have gj:i=l.length:=by omega
  subst gj;rw[q8 λx hx=>by obtain⟨j,hj⟩:=ae' hx;exact fH j x (adS.1 hj).1 hj] at h;exact h
def TZ(G:px W){s:OA}{c c2 nn:Nat}{l:List aP}{r q o:Nat}{res:List Int}(hr:nA W R ao 14 s l)(Hf:nn=l.length)(ft:∀x∈l,uu x)(hP:Is b)(hl:hs.length+8* l.length<800000)
 (ho:o+l.length<=res.length)(F':0<l.length)
 (h0:∀cT b',fp ax.make b l 0=(none,b')->Is b'->cT.length<=hs.length+8* l.length->T W (bj p (b',cT)::own (some ⟨r,0,none⟩) q q 1 (res.flatMap I1)::R) (K (.tuple ⟨[]⟩)))
 (h1:∀e b',fp ax.make b l 0=(some e,b')->e.1<l.length->T W (bj p (b,hs)::own (some ⟨r,0,none⟩) q q 1 ((res.take o++ik l.length (some e)++res.drop (o+l.length)).flatMap I1)::R) (K (.tuple ⟨[]⟩))):
 T W (bj p (b,hs)::own (some ⟨r,0,none⟩) q q 1 (res.flatMap I1)::R) (jo (some ⟨p,0,none⟩) s nn c (some ⟨r,o,none⟩) nn c2 (.func (.func N.iE) ⟨[]⟩ ⟨[]⟩) K):=by
 subst Hf;unfold jo;refine mX (p:=p) λhg=>?_;refine Jg (p:=p) ?_;apply ws;intros;intro w jF;refine⟨λvs w=>∃(i:Nat)(b':ax)(cT:List C),i<=l.length/\fp ax.make b (l.take i) 0=(none,b')/\Is b'/\Ext (cY b) hs (cY b') cT (8* i)/\vs=[.i (hs.length:Int),.l s l.length c,.i (l.length:Int),.i (i:Int)]/\
  St W w (bj p (b',cT)::own (some ⟨r,0,none⟩) q q 1 (res.flatMap I1)::R),
  λvs _=>match vs with|[_,_,_,.int _ d]=>l.length-d.toNat|_=>0,⟨0,b,hs,ad0 _,rfl,hP,Ext.refl _ _ _,rfl,jF⟩,?_⟩
 rintro n2 rj pn qK n3 n4 w2 ⟨i,b',cT,hi,EV,Hm,hx,e,fj⟩;cases e
 refine T.at ?_ fj;have e5:=l9 i;have hxl:=hx.len;refine dO (λg1=>?_) (λg1=>?_)
 ·have aZ:i<l.length:=by omega
  have gx:=adQ aZ;have ml:l[i]∈l:=aee aZ;have ql:l=l.take i++l[i]::l.drop (i+1):=by rw[<-aev aZ,aek]
  have th:l.take (i+1)=l.take i++[l[i]]:=by rw[ad',gx];rfl
  generalize l[i]=x at gx ml ql th;have Ef:=ft x ml;refine jy hr ⟨by omega,by omega⟩ rfl λa ha=>?_;rw[adR];refine jx hr ha gx (eY x) ?_;apply ws;intros;show T W _ (iE (some ⟨p,0,none⟩) (ao x) _);refine RC (p:=p) G Ef (by omega) λUj Uc=>?_;have UI:fp ax.make b l 0=fp ax.make b' (x::l.drop (i+1)) (0+(l.take i).length):=by
   conv=>lhs;rw[ql]
   exact oC _ _ _ _ _ EV
  have Xl:(l.take i).length=i:=by rw[adV];omega
  apply ws;intros;refine bB (λg2=>?_) (λg2=>?_)
  ·have g2:(b'.make x).1≠0:=by simpa using g2
   refine T.drop ?_;have hx3:=Uc.len;refine Ji (p:=p) hg (hx.trans Uc) (by omega) ?_;apply ws;intros;refine Ep (r:=r) (N:=q) (C:=q) ho aZ (by omega) ?_;apply ws;intros;refine h1 (i,(b'.make x).1) b' ?_ aZ;rw[UI,Xl,fp,if_pos g2,adU]
  ·have g2:(b'.make x).1=0:=by simpa using g2
   rw[e5];refine T.drop ?_;refine λw3 h3=>⟨⟨i+1,_,Uj,aZ,?_,Hm.make x,(hx.trans Uc).mono (by omega),rfl,h3⟩,by show l.length-((i+1:Nat):Int).toNat<l.length-(i:Int).toNat;omega⟩;rw[th,oC _ _ _ _ _ EV,fp,if_neg (by omega)]
   rfl
 ·have gj:i=l.length:=by omega
  subst gj;rw[ad3] at EV;exact h0 cT b' EV Hm (by omega)
def TR(G:px W){s:OA}{c:Nat}{l:List aP}(hr:nA W R ao 14 s l)(hc:l.length<=c)(ft:∀x∈l,uu x)(hP:Is b)(De:l.length<=10000)(hl:hs.length+8* l.length<800000)
 (h:∀r cT,cT.length<=hs.length+8* l.length->Is (eL ax.make wL l.length b l).2->(eL ax.make wL l.length b l).1.length=l.length->
  T W (bj p ((eL ax.make wL l.length b l).2,cT)::own (some ⟨r,0,none⟩) l.length l.length 1 ((eL ax.make wL l.length b l).1.flatMap I1)::R) (K (.l (some ⟨r,0,none⟩) l.length l.length))):
 T W (bj p (b,hs)::R) (nP (some ⟨p,0,none⟩) s l.length c K):=by
 unfold nP lN;refine DL ⟨by omega,by omega,by omega,by omega⟩ λr=>?_;rw[adR,show(Builtin.zeroCells ⟨[Value.int adN 0]⟩ l.length).toList=(ad6 l.length (0:Int)).flatMap I1 from nB (g:=I1) (z:=0) rfl _];show T W (own (some ⟨r,0,none⟩) l.length l.length 1 _::bj p (b,hs)::R) _;refine T.perm (M:=own (some ⟨r,0,none⟩) l.length l.length 1 _::bj p (b,hs)::R) (L:=bj p (b,hs)::own (some ⟨r,0,none⟩) l.length l.length 1 _::R) ?_ (aeh.swap _ _ _);intro w jF;refine⟨λvs w=>∃(at_ fuel:Nat)(b':ax)(cT:List C)(done:List Int),at_<=l.length/\done.length=at_/\l.length<=fuel+at_/\
                                                                        eL ax.make wL l.length b l=(done++(eL ax.make wL fuel b' (l.drop at_)).1,(eL ax.make wL fuel b' (l.drop at_)).2)/\Is b'/\cT.length<=hs.length+8* at_/\
                                                                        vs=[.l none 0 0,.l (some ⟨r,0,none⟩) l.length l.length,.i (at_:Int)]/\
                                                                        St W w (bj p (b',cT)::own (some ⟨r,0,none⟩) l.length l.length 1 ((done++ad6 (l.length-at_) 0).flatMap I1)::R),
  λvs _=>match vs with|[_,_,.int _ d]=>l.length-d.toNat|_=>0,⟨0,l.length,b,hs,[],ad0 _,rfl,by omega,by simp,hP,by omega,rfl,jF⟩,?_⟩
 rintro rj pn qK yD xy xD n1 w2 ⟨at_,fuel,b',cT,done,ye,wU,Mg,lC,Hm,Sz,e,fj⟩;cases e
 refine T.at ?_ fj;refine dO (λg1=>?_) (λg1=>?_)
 ·have aZ:at_<l.length:=by omega
  have gS:l.drop at_≠[]:=λhh=>by have:=congrArg List.length hh;rw[ad2] at this;simp at this;omega
  have rU:(l.drop at_).length=l.length-at_:=ad2;refine tJ (by omega) ?_;have NQ:=hr.drop (i:=at_) (c:=c) (by omega) hc;refine Rk NQ rU.symm (by omega) ?_;apply ws;intros;obtain⟨n,hn⟩:∃n,(bl wL (l.drop at_)).1=n:=⟨_,rfl⟩;have aax:n<=l.length-at_:=by rw[<-hn,<-rU];exact s7 _
  have Xx:0<n:=by
   rw[<-hn];cases hd:l.drop at_ with
   |nil=>exact absurd hd gS
   |cons x l'=>exact y8 x l'
  rw[hn];have e6:adN.wrap ((at_:Int)+(n:Int))=((at_+n:Nat):Int):=by rw[aw (by omega)];omega
  rw[e6];refine zD (by omega) (by omega) ?_;have ea:tN (some ⟨r,0,none⟩) l.length at_ 1=some ⟨r,at_,none⟩:=by unfold tN;rw[if_neg (by omega)];show some (Addr.add ⟨r,0,none⟩ (at_* 1))=_;rw[dW,adU,afm]
  rw[ea,Nat.add_sub_cancel_left];obtain⟨fuel,rfl⟩:∃m,fuel=m+1:=⟨fuel-1,by omega⟩;have dZ:=xE (f:=ax.make) (lk:=wL) (n:=fuel) (s:=b') gS;have Wf:(l.drop at_).drop n=l.drop (at_+n):=ae0;have Cm:(done++ad6 (l.length-at_) (0:Int)).length=l.length:=by rw[adT,aeX];omega
  have Bj:(done++ad6 (l.length-at_) (0:Int)).drop (at_+n)=ad6 (l.length-(at_+n)) 0:=by
   rw[List.drop_append,aex (by omega),aet,List.drop_replicate];congr 1;omega
  have oz:(done++ad6 (l.length-at_) (0:Int)).take at_=done:=by rw[<-wU,List.take_left]
  refine bB (λg2=>?_) (λg2=>?_)
  ·have g2:(bl wL (l.drop at_)).2=false:=by simpa using g2
   have Hf:n=l.length-at_:=by rw[<-hn,s6 g2,rU]
   have e7:adN.wrap ((n:Int) -1)=((n-1:Nat):Int):=by rw[aw (by omega)];omega
   rw[e7];refine Ep (r:=r) (N:=l.length) (C:=l.length) (o:=at_) (n:=n) (by rw[Cm];omega) (by omega) (by omega) ?_;apply ws;intros;rw[oz,Bj];refine λw3 h3=>⟨⟨at_+n,fuel,b',cT,done++ik n (some (n-1,2)),by omega,by rw[adT,jD];omega,by omega,?_,Hm,by omega,rfl,h3⟩,by show l.length-((at_+n:Nat):Int).toNat<l.length-(at_:Int).toNat;omega⟩;rw[if_pos g2,hn] at dZ;rw[lC,dZ,show l.drop (at_+n)=[] from aex (by omega),rK];simp
  ·have g2:(bl wL (l.drop at_)).2=true:=by simpa using g2
   rw[if_neg (by rw[g2];decide),hn,Wf] at dZ;refine zD (by omega) (by omega) ?_;rw[Nat.add_sub_cancel_left];have zq:((l.drop at_).take n).length=n:=by rw[adV];omega
   have Xs:=NQ.take (i:=n);refine TZ (p:=p) G (l:=(l.drop at_).take n) (o:=at_) Xs zq.symm (λx hx=>ft x (List.mem_of_mem_drop (List.mem_of_mem_take hx))) Hm (by omega) (by rw[Cm];omega) (by omega) (λqF b3 hd hP3 Pu=>?_) (λe b3 hd he=>?_)
   ·apply ws;intros;rw[zq] at Pu;rw[hd] at dZ;refine λw3 h3=>⟨⟨at_+n,fuel,b3,qF,done++ik n none,by omega,by rw[adT,jD];omega,by omega,?_,hP3,by omega,rfl,?_⟩,by show l.length-((at_+n:Nat):Int).toNat<l.length-(at_:Int).toNat;omega⟩
    ·rw[lC,dZ];simp
    ·have e8:done++ad6 (l.length-at_) (0:Int)=done++ik n none++ad6 (l.length-(at_+n)) 0:=by
      rw[adZ];congr 1;show _=ad6 n 0++_;rw[List.replicate_append_replicate];congr 1;omega
     rw[<-e8];exact h3
   ·apply ws;intros;rw[zq];rw[hd] at dZ;rw[oz,Bj];refine λw3 h3=>⟨⟨at_+n,fuel,b',cT,done++ik n (some e),by omega,by rw[adT,jD];omega,by omega,?_,Hm,by omega,rfl,h3⟩,by show l.length-((at_+n:Nat):Int).toNat<l.length-(at_:Int).toNat;omega⟩;rw[lC,dZ];simp
 ·have gj:at_=l.length:=by omega
  subst gj;rw[List.drop_length,rK] at lC;simp only[aeb] at lC;rw[lC] at h;have:=h r cT (by omega) Hm wU;rw[ae8,List.replicate_zero,aeb];apply ws;intros;exact this
end
def Zl(t:Move):Prop:=tB t/\jZ t
section
variable {W:World} {L R:LH} {K:VK} {X:WK} {p:Nat} {b:ax} {hs:List C}
def Rj{s:OA}{c nn:Nat}{l:List Move}[hh:Has R L](hr:nA W R ai 16 s l)(Hf:nn=l.length)(hl:l.length<1000000)
 (h:T W L (K (.tuple ⟨[.i ((bl wK l).1:Int),.bool (bl wK l).2]⟩))):T W L (iq s nn c (.func (.func N.dw) ⟨[]⟩ ⟨[]⟩) K):=by
 subst Hf;unfold iq;intro w hs;refine⟨λvs w=>∃i:Nat,i<=l.length/\(∀j y,j<i->l[j]?=some y->wK y=true)/\vs=[.i 0,.bool false,.l s l.length c,.i (l.length:Int),.i (i:Int)]/\St W w L,
  λvs _=>match vs with|[_,_,_,_,.int _ d]=>l.length-d.toNat|_=>0,⟨0,ad0 _,λj y hj=>by omega,rfl,hs⟩,?_⟩
 rintro n1 b1 sm qB sw n2 n3 w2 ⟨i,hi,fH,e,fj⟩;cases e
 refine T.at ?_ fj;have e5:=l9 i;refine dO (λg1=>?_) (λg1=>?_)
 ·have aZ:i<l.length:=by omega
  have gx:=adQ aZ;generalize l[i]=x at gx;refine jy hr ⟨by omega,by omega⟩ rfl λa ha=>?_;rw[adR];refine jx hr ha gx (rO x) ?_;apply ws;intros;show T W _ (dw (ai x) _);unfold dw;apply ws;intros;rw[C'];rw[e5];refine bB (λg2=>?_) (λg2=>?_)
  ·have g2:wK x=false:=by simpa [wK] using g2
   rw[s8 fH gx g2] at h;exact T.dp h
  ·have g2:wK x=true:=by simpa [wK] using g2
   refine T.drop (T.drop ?_);refine λw3 h3=>⟨⟨i+1,aZ,λj y hj hy=>?_,rfl,h3⟩,by show l.length-((i+1:Nat):Int).toNat<l.length-(i:Int).toNat;omega⟩;by_cases Gh:j=i
   ·subst Gh;rw[gx] at hy;cases hy;exact g2
   ·exact fH j y (by omega) hy
 ·have gj:i=l.length:=by omega
  subst gj;rw[q8 λx hx=>by obtain⟨j,hj⟩:=ae' hx;exact fH j x (adS.1 hj).1 hj] at h;exact h
def TY(G:px W){s:OA}{c c2 nn:Nat}{l:List Move}{r q o:Nat}{res:List Int}(hr:nA W R ai 16 s l)(Hf:nn=l.length)(ft:∀x∈l,Zl x)(hP:Is b)(hl:hs.length+8* l.length<800000)
 (ho:o+l.length<=res.length)(F':0<l.length)
 (h0:∀cT b',fp ax.nZ b l 0=(none,b')->Is b'->cT.length<=hs.length+8* l.length->T W (bj p (b',cT)::own (some ⟨r,0,none⟩) q q 1 (res.flatMap I1)::R) (K (.tuple ⟨[]⟩)))
 (h1:∀e b',fp ax.nZ b l 0=(some e,b')->e.1<l.length->T W (bj p (b,hs)::own (some ⟨r,0,none⟩) q q 1 ((res.take o++ik l.length (some e)++res.drop (o+l.length)).flatMap I1)::R) (K (.tuple ⟨[]⟩))):
 T W (bj p (b,hs)::own (some ⟨r,0,none⟩) q q 1 (res.flatMap I1)::R) (iQ (some ⟨p,0,none⟩) s nn c (some ⟨r,o,none⟩) nn c2 (.func (.func N.kn) ⟨[]⟩ ⟨[]⟩) K):=by
 subst Hf;unfold iQ;refine mX (p:=p) λhg=>?_;refine Jg (p:=p) ?_;apply ws;intros;intro w jF;refine⟨λvs w=>∃(i:Nat)(b':ax)(cT:List C),i<=l.length/\fp ax.nZ b (l.take i) 0=(none,b')/\Is b'/\Ext (cY b) hs (cY b') cT (8* i)/\vs=[.i (hs.length:Int),.l s l.length c,.i (l.length:Int),.i (i:Int)]/\
  St W w (bj p (b',cT)::own (some ⟨r,0,none⟩) q q 1 (res.flatMap I1)::R),
  λvs _=>match vs with|[_,_,_,.int _ d]=>l.length-d.toNat|_=>0,⟨0,b,hs,ad0 _,rfl,hP,Ext.refl _ _ _,rfl,jF⟩,?_⟩
 rintro n2 rj pn qK n3 n4 w2 ⟨i,b',cT,hi,EV,Hm,hx,e,fj⟩;cases e
 refine T.at ?_ fj;have e5:=l9 i;have hxl:=hx.len;refine dO (λg1=>?_) (λg1=>?_)
 ·have aZ:i<l.length:=by omega
  have gx:=adQ aZ;have ml:l[i]∈l:=aee aZ;have ql:l=l.take i++l[i]::l.drop (i+1):=by rw[<-aev aZ,aek]
  have th:l.take (i+1)=l.take i++[l[i]]:=by rw[ad',gx];rfl
  generalize l[i]=x at gx ml ql th;have Ef:=ft x ml;refine jy hr ⟨by omega,by omega⟩ rfl λa ha=>?_;rw[adR];refine jx hr ha gx (rO x) ?_;apply ws;intros;show T W _ (kn (some ⟨p,0,none⟩) (ai x) _);refine Yb (p:=p) G Ef.1 Ef.2 (by obtain⟨m,h3,h4⟩:=Hm;exact RW h3 h4) (by omega) λUj Uc=>?_;have UI:fp ax.nZ b l 0=fp ax.nZ b' (x::l.drop (i+1)) (0+(l.take i).length):=by
   conv=>lhs;rw[ql]
   exact oC _ _ _ _ _ EV
  have Xl:(l.take i).length=i:=by rw[adV];omega
  apply ws;intros;refine bB (λg2=>?_) (λg2=>?_)
  ·have g2:(b'.nZ x).1≠0:=by simpa using g2
   refine T.drop ?_;have hx3:=Uc.len;refine Ji (p:=p) hg (hx.trans Uc) (by omega) ?_;apply ws;intros;refine Ep (r:=r) (N:=q) (C:=q) ho aZ (by omega) ?_;apply ws;intros;refine h1 (i,(b'.nZ x).1) b' ?_ aZ;rw[UI,Xl,fp,if_pos g2,adU]
  ·have g2:(b'.nZ x).1=0:=by simpa using g2
   rw[e5];refine T.drop ?_;refine λw3 h3=>⟨⟨i+1,_,Uj,aZ,?_,Hm.nZ x,(hx.trans Uc).mono (by omega),rfl,h3⟩,by show l.length-((i+1:Nat):Int).toNat<l.length-(i:Int).toNat;omega⟩;rw[th,oC _ _ _ _ _ EV,fp,if_neg (by omega)]
   rfl
 ·have gj:i=l.length:=by omega
  subst gj;rw[ad3] at EV;exact h0 cT b' EV Hm (by omega)
def TQ(G:px W){s:OA}{c:Nat}{l:List Move}(hr:nA W R ai 16 s l)(hc:l.length<=c)(ft:∀x∈l,Zl x)(hP:Is b)(De:l.length<=10000)(hl:hs.length+8* l.length<800000)
 (h:∀r cT,cT.length<=hs.length+8* l.length->Is (eL ax.nZ wK l.length b l).2->(eL ax.nZ wK l.length b l).1.length=l.length->
  T W (bj p ((eL ax.nZ wK l.length b l).2,cT)::own (some ⟨r,0,none⟩) l.length l.length 1 ((eL ax.nZ wK l.length b l).1.flatMap I1)::R) (K (.l (some ⟨r,0,none⟩) l.length l.length))):
 T W (bj p (b,hs)::R) (mU (some ⟨p,0,none⟩) s l.length c K):=by
 unfold mU k9;refine DL ⟨by omega,by omega,by omega,by omega⟩ λr=>?_;rw[adR,show(Builtin.zeroCells ⟨[Value.int adN 0]⟩ l.length).toList=(ad6 l.length (0:Int)).flatMap I1 from nB (g:=I1) (z:=0) rfl _];show T W (own (some ⟨r,0,none⟩) l.length l.length 1 _::bj p (b,hs)::R) _;refine T.perm (M:=own (some ⟨r,0,none⟩) l.length l.length 1 _::bj p (b,hs)::R) (L:=bj p (b,hs)::own (some ⟨r,0,none⟩) l.length l.length 1 _::R) ?_ (aeh.swap _ _ _);intro w jF;refine⟨λvs w=>∃(at_ fuel:Nat)(b':ax)(cT:List C)(done:List Int),at_<=l.length/\done.length=at_/\l.length<=fuel+at_/\
                                                                        eL ax.nZ wK l.length b l=(done++(eL ax.nZ wK fuel b' (l.drop at_)).1,(eL ax.nZ wK fuel b' (l.drop at_)).2)/\Is b'/\cT.length<=hs.length+8* at_/\
                                                                        vs=[.l none 0 0,.l (some ⟨r,0,none⟩) l.length l.length,.i (at_:Int)]/\
                                                                        St W w (bj p (b',cT)::own (some ⟨r,0,none⟩) l.length l.length 1 ((done++ad6 (l.length-at_) 0).flatMap I1)::R),
  λvs _=>match vs with|[_,_,.int _ d]=>l.length-d.toNat|_=>0,⟨0,l.length,b,hs,[],ad0 _,rfl,by omega,by simp,hP,by omega,rfl,jF⟩,?_⟩
 rintro rj pn qK yD xy xD n1 w2 ⟨at_,fuel,b',cT,done,ye,wU,Mg,lC,Hm,Sz,e,fj⟩;cases e
 refine T.at ?_ fj;refine dO (λg1=>?_) (λg1=>?_)
 ·have aZ:at_<l.length:=by omega
  have gS:l.drop at_≠[]:=λhh=>by have:=congrArg List.length hh;rw[ad2] at this;simp at this;omega
  have rU:(l.drop at_).length=l.length-at_:=ad2;refine tJ (by omega) ?_;have NQ:=hr.drop (i:=at_) (c:=c) (by omega) hc;refine Rj NQ rU.symm (by omega) ?_;apply ws;intros;obtain⟨n,hn⟩:∃n,(bl wK (l.drop at_)).1=n:=⟨_,rfl⟩;have aax:n<=l.length-at_:=by rw[<-hn,<-rU];exact s7 _
  have Xx:0<n:=by
   rw[<-hn];cases hd:l.drop at_ with
   |nil=>exact absurd hd gS
   |cons x l'=>exact y8 x l'
  rw[hn];have e6:adN.wrap ((at_:Int)+(n:Int))=((at_+n:Nat):Int):=by rw[aw (by omega)];omega
  rw[e6];refine zD (by omega) (by omega) ?_;have ea:tN (some ⟨r,0,none⟩) l.length at_ 1=some ⟨r,at_,none⟩:=by unfold tN;rw[if_neg (by omega)];show some (Addr.add ⟨r,0,none⟩ (at_* 1))=_;rw[dW,adU,afm]
  rw[ea,Nat.add_sub_cancel_left];obtain⟨fuel,rfl⟩:∃m,fuel=m+1:=⟨fuel-1,by omega⟩;have dZ:=xE (f:=ax.nZ) (lk:=wK) (n:=fuel) (s:=b') gS;have Wf:(l.drop at_).drop n=l.drop (at_+n):=ae0;have Cm:(done++ad6 (l.length-at_) (0:Int)).length=l.length:=by rw[adT,aeX];omega
  have Bj:(done++ad6 (l.length-at_) (0:Int)).drop (at_+n)=ad6 (l.length-(at_+n)) 0:=by
   rw[List.drop_append,aex (by omega),aet,List.drop_replicate];congr 1;omega
  have oz:(done++ad6 (l.length-at_) (0:Int)).take at_=done:=by rw[<-wU,List.take_left]
  refine bB (λg2=>?_) (λg2=>?_)
  ·have g2:(bl wK (l.drop at_)).2=false:=by simpa using g2
   have Hf:n=l.length-at_:=by rw[<-hn,s6 g2,rU]
   have e7:adN.wrap ((n:Int) -1)=((n-1:Nat):Int):=by rw[aw (by omega)];omega
   rw[e7];refine Ep (r:=r) (N:=l.length) (C:=l.length) (o:=at_) (n:=n) (by rw[Cm];omega) (by omega) (by omega) ?_;apply ws;intros;rw[oz,Bj];refine λw3 h3=>⟨⟨at_+n,fuel,b',cT,done++ik n (some (n-1,2)),by omega,by rw[adT,jD];omega,by omega,?_,Hm,by omega,rfl,h3⟩,by show l.length-((at_+n:Nat):Int).toNat<l.length-(at_:Int).toNat;omega⟩;rw[if_pos g2,hn] at dZ;rw[lC,dZ,show l.drop (at_+n)=[] from aex (by omega),rK];simp
  ·have g2:(bl wK (l.drop at_)).2=true:=by simpa using g2
   rw[if_neg (by rw[g2];decide),hn,Wf] at dZ;refine zD (by omega) (by omega) ?_;rw[Nat.add_sub_cancel_left];have zq:((l.drop at_).take n).length=n:=by rw[adV];omega
   have Xs:=NQ.take (i:=n);refine TY (p:=p) G (l:=(l.drop at_).take n) (o:=at_) Xs zq.symm (λx hx=>ft x (List.mem_of_mem_drop (List.mem_of_mem_take hx))) Hm (by omega) (by rw[Cm];omega) (by omega) (λqF b3 hd hP3 Pu=>?_) (λe b3 hd he=>?_)
   ·apply ws;intros;rw[zq] at Pu;rw[hd] at dZ;refine λw3 h3=>⟨⟨at_+n,fuel,b3,qF,done++ik n none,by omega,by rw[adT,jD];omega,by omega,?_,hP3,by omega,rfl,?_⟩,by show l.length-((at_+n:Nat):Int).toNat<l.length-(at_:Int).toNat;omega⟩
    ·rw[lC,dZ];simp
    ·have e8:done++ad6 (l.length-at_) (0:Int)=done++ik n none++ad6 (l.length-(at_+n)) 0:=by
      rw[adZ];congr 1;show _=ad6 n 0++_;rw[List.replicate_append_replicate];congr 1;omega
     rw[<-e8];exact h3
   ·apply ws;intros;rw[zq];rw[hd] at dZ;rw[oz,Bj];refine λw3 h3=>⟨⟨at_+n,fuel,b',cT,done++ik n (some e),by omega,by rw[adT,jD];omega,by omega,?_,Hm,by omega,rfl,h3⟩,by show l.length-((at_+n:Nat):Int).toNat<l.length-(at_:Int).toNat;omega⟩;rw[lC,dZ];simp
 ·have gj:at_=l.length:=by omega
  subst gj;rw[List.drop_length,rK] at lC;simp only[aeb] at lC;rw[lC] at h;have:=h r cT (by omega) Hm wU;rw[ae8,List.replicate_zero,aeb];apply ws;intros;exact this
end
end Go.Up
namespace Go.Prog
open Go.Den Go.Up Go.Md
def pT(p:OA)(now:Int)(K:VK):WK:=λw=>∃(W:World)(L:List Sep.HP)(a:Nat)(b:Up.ax)(m:Model)(hs:List C),
 p=some ⟨a,0,none⟩/\Sep.St W w (bj a (b,hs)::L)/\l7 b m/\Md.Ground m/\hs.length<=100000/\
 ∀(n:Int)(b':Up.ax)(cT:List C)(w':World),l7 b' (m.time now)->Md.Ground (m.time now)->cT.length<=200000->Sep.St W w' (bj a (b',cT)::L)->K (.i n) w'
def pT.u:WP:=λargs K=>match args with|[.pointer p,.int .i64 n]=>pT p n K|_=>no
end Go.Prog
namespace Go.Prog
open Go.Den
def eG(b:LV)(K:VK):WK:=mk b λa=>lI (ad a 0) λc=>br (decide (c>=1)) (lI (ad a 0) λd=>K (.bool (decide (d<=3)))) (K (.bool false))
def bY.j1(K:VK)(a:Bool):WK:=K (.bool a)
def bY.j2(K:VK)(a:Bool):WK:=K (.bool a)
def bY(b:LV)(K:VK):WK:=mk b λa=>lI (ad a 0) λc=>br (c==1) (lL (ad a 1) λl d m=>br (decide ((d:Int)>0)) (lL (ad a 1) λn e o=>bY.j1 K (decide ((e:Int)<9))) (bY.j1 K false)) (lI (ad a 0) λf=>br (f==2) (lL (ad a 2) λp g q=>br (decide ((g:Int)>0)) (lL (ad a 2) λr h s=>bY.j2 K (decide ((h:Int)<9))) (bY.j2 K false)) (lI (ad a 0) λi=>br (i==3) (lI (ad a 3) λj=>br (decide (j>=0)) (lI (ad a 3) λk=>K (.bool (decide (k<=1099511627776)))) (K (.bool false))) (K (.bool false))))
def aA.j2(K:VK)(a:Bool):WK:=K (.bool a)
def aA.j6(K:VK)(a:Nat)(b:Bool):WK:=br b (lT (ad a 4) λc=>br c (K (.bool true)) (lT (ad a 5) λd=>K (.bool d))) (K (.bool false))
def aA.j5(K:VK)(a:Nat)(b:Bool):WK:=br b (lI (ad a 7) λc=>aA.j6 K a (decide (c<17))) (aA.j6 K a false)
def aA.j4(K:VK)(a:Nat)(b:Bool):WK:=br b (lI (ad a 7) λc=>aA.j5 K a (decide (c>0))) (aA.j5 K a false)
def aA.j3(K:VK)(a:Nat)(b:Bool):WK:=br b (lI (ad a 3) λc=>aA.j4 K a (decide (c>=0))) (aA.j4 K a false)
def aA.j1(K:VK)(a:Nat)(c:Bool):WK:=br c (lL (ad a 4) λi d j=>br (decide ((d:Int)>0)) (lL (ad a 4) λk e l=>aA.j2 K (decide ((e:Int)<17))) (aA.j2 K false)) (ah (ad a 5) 8 λf=>mk EY λb=>aG 8 (ad b 0) f (lI (ad a 0) λg=>br (g==6) (lI (ad b 2) λh=>aA.j3 K b (decide (h>=0))) (aA.j3 K b false)))
def aA(b:LV)(K:VK):WK:=mk b λa=>lI (ad a 0) λc=>br (c==4) (aA.j1 K a true) (lI (ad a 0) λd=>aA.j1 K a (d==5))
def bC.j3(K:VK)(a:Nat)(b:Bool):WK:=br b (lI (ad a 12) λc=>br (decide (c>=0)) (lI (ad a 12) λd=>K (.bool (decide (d<65536)))) (K (.bool false))) (K (.bool false))
def bC.j2(K:VK)(a:Nat)(b:Bool):WK:=br b (lI (ad a 11) λc=>bC.j3 K a (decide (c<65536))) (bC.j3 K a false)
def bC.j1(K:VK)(a:Nat)(b:Bool):WK:=br b (lI (ad a 11) λc=>bC.j2 K a (decide (c>=0))) (bC.j2 K a false)
def bC(b:LV)(K:VK):WK:=mk b λa=>lI (ad a 10) λc=>br (decide (c>=0)) (lI (ad a 10) λd=>bC.j1 K a (decide (d<4294967296))) (bC.j1 K a false)
def aS.j5(K:VK)(a:Nat)(b:Bool):WK:=br b (lI (ad a 13) λc=>br (decide (c>=0)) (lI (ad a 13) λd=>K (.bool (decide (d<65536)))) (K (.bool false))) (K (.bool false))
def aS.j4(K:VK)(a:Nat)(b:Bool):WK:=br b (lI (ad a 12) λc=>aS.j5 K a (decide (c<65536))) (aS.j5 K a false)
def aS.j3(K:VK)(a:Nat)(b:Bool):WK:=br b (lI (ad a 12) λc=>aS.j4 K a (decide (c>=0))) (aS.j4 K a false)
def aS.j2(K:VK)(a:Nat)(b:Bool):WK:=br b (lI (ad a 11) λc=>aS.j3 K a (decide (c<4294967296))) (aS.j3 K a false)
def aS.j1(K:VK)(a:Nat)(b:Bool):WK:=br b (lI (ad a 11) λc=>aS.j2 K a (decide (c>=0))) (aS.j2 K a false)
def aS(b:LV)(K:VK):WK:=mk b λa=>lI (ad a 10) λc=>br (decide (c>=0)) (lI (ad a 10) λd=>aS.j1 K a (decide (d<4294967296))) (aS.j1 K a false)
def c9.j1(K:VK)(v:Nat)(C:Bool):WK:=br C (K (.bool false)) (lL (ad v 1) λD w E=>(lp [.p (some (ad v 0)),.bool false,.l D w E,.i (w:Int),.i 0] λt x=>∀a d e f n g b r,t [.p (some a),.bool d,.l e f n,.i g,.i b] r->(br (decide (b<g)) (fO e f b 14 λF=>ah F 14 λG=>mk cJ λy=>aG 14 (ad y 0) G (lI a λH=>br (H==1) (ah (ad y 0) 14 λI=>bC I (xB λJ=>br (!J) (K (.bool false)) ((ct t x [.p (some a),.bool d,.l e f n,.i g,.i (adN.wrap (b+1))] [.p (some a),.bool d,.l e f n,.i g,.i b] r)))) ((ct t x [.p (some a),.bool d,.l e f n,.i g,.i (adN.wrap (b+1))] [.p (some a),.bool d,.l e f n,.i g,.i b] r)))) (lL (a.add 2) λM z O=>(lp [.p (some a),.bool d,.l M z O,.i (z:Int),.i 0] λu A=>∀h o j k q m c s,u [.p (some h),.bool o,.l j k q,.i m,.i c] s->(br (decide (c<m)) (fO j k c 16 λP=>ah P 16 λQ=>mk fe λB=>aG 16 (ad B 0) Q (lI h λR=>br (R==2) (ah (ad B 0) 16 λS=>aS S (xB λT=>br (!T) (K (.bool false)) ((ct u A [.p (some h),.bool o,.l j k q,.i m,.i (adN.wrap (c+1))] [.p (some h),.bool o,.l j k q,.i m,.i c] s)))) ((ct u A [.p (some h),.bool o,.l j k q,.i m,.i (adN.wrap (c+1))] [.p (some h),.bool o,.l j k q,.i m,.i c] s)))) (K (.bool true))) s))) r))
def c9(b:LV)(K:VK):WK:=mk b λa=>ah (ad a 0) 13 λc=>bY c (xB λd=>br (!d) (ah (ad a 0) 13 λe=>aA e (xB λf=>c9.j1 K a (!f))) (c9.j1 K a false))
def dU(n:OA)(K:VK):WK:=tick (nn n λm=>lL m λj k o=>nn n λg=>lL (g.add 1) λe f h=>nn n λc=>lI (c.add 2) λa=>nn n λd=>lI (d.add 3) λb=>both (a8 True (mk [] λq=>kp (d.add 3) [.i b] (kp (c.add 2) [.i a] (kp (g.add 1) [.l e f h] (kp m [.l j k o] (both (eS 14 112 cJ (some ⟨q,0,none⟩) 0 0 j k λr s t=>kp (d.add 3) [.i b] (kp (c.add 2) [.i a] (kp (g.add 1) [.l e f h] (a8 True (mk [] λu=>kp (d.add 3) [.i b] (kp (c.add 2) [.i a] (kp (g.add 1) [.l e f h] (eS 33 264 bg (some ⟨u,0,none⟩) 0 0 e f λv w x=>kp (d.add 3) [.i b] (kp (c.add 2) [.i a] (a8 (1=1/\(1=1/\(1=1/\(1=1/\True)))) (mk [.l r s t,.l v w x,.i a,.i b] λy=>kp (d.add 3) [.i b] (kp (c.add 2) [.i a] (K (.p (some (ad y 0)))))))))))))))) (a8 True (mk [] λz=>kp (d.add 3) [.i b] (kp (c.add 2) [.i a] (kp (g.add 1) [.l e f h] (kp m [.l j k o] (eS 14 112 cJ (some ⟨q,0,none⟩) 0 0 j k λA B C=>kp (d.add 3) [.i b] (kp (c.add 2) [.i a] (kp (g.add 1) [.l e f h] (eS 33 264 bg (some ⟨z,0,none⟩) 0 0 e f λD E F=>kp (d.add 3) [.i b] (kp (c.add 2) [.i a] (a8 (1=1/\(1=1/\(1=1/\(1=1/\True)))) (mk [.l A B C,.l D E F,.i a,.i b] λG=>kp (d.add 3) [.i b] (kp (c.add 2) [.i a] (K (.p (some (ad G 0))))))))))))))))))))))) (a8 True (mk [] λH=>kp (d.add 3) [.i b] (kp (c.add 2) [.i a] (kp (g.add 1) [.l e f h] (kp m [.l j k o] (a8 True (mk [] λI=>kp (d.add 3) [.i b] (kp (c.add 2) [.i a] (kp (g.add 1) [.l e f h] (kp m [.l j k o] (eS 14 112 cJ (some ⟨I,0,none⟩) 0 0 j k λJ M O=>kp (d.add 3) [.i b] (kp (c.add 2) [.i a] (kp (g.add 1) [.l e f h] (eS 33 264 bg (some ⟨H,0,none⟩) 0 0 e f λP Q R=>kp (d.add 3) [.i b] (kp (c.add 2) [.i a] (a8 (1=1/\(1=1/\(1=1/\(1=1/\True)))) (mk [.l J M O,.l P Q R,.i a,.i b] λS=>kp (d.add 3) [.i b] (kp (c.add 2) [.i a] (K (.p (some (ad S 0)))))))))))))))))))))))
def bh.j1(K:VK)(j:OA)(a:Int)(f:LI)(b:OA)(c d:Nat)(e:Int)(g:LM)(h:World)(k:Bool):WK:=br k (nn j λm=>lL (m.add 1) λn o q=>fO n o a 33 λp=>st (p.add 32) (.i 4) ((ct f g [.l b c d,.i e,.i (adN.wrap (a+1))] [.l b c d,.i e,.i a] h))) ((ct f g [.l b c d,.i e,.i (adN.wrap (a+1))] [.l b c d,.i e,.i a] h))
def bh(b:OA)(K:VK):WK:=nn b λn=>lL (n.add 1) λo m p=>(lp [.l o m p,.i (m:Int),.i 0] λh k=>∀c d j e a f,h [.l c d j,.i e,.i a] f->(br (decide (a<e)) (fO c d a 33 λq=>ah q 33 λr=>mk bg λg=>aG 33 (ad g 0) r (tick (lI (ad g 32) λs=>br (s==1) (lI (ad g 26) λt=>br (decide (t>0)) (lI (ad g 31) λu=>lI (ad g 26) λv=>nn b λw=>lI (w.add 2) λx=>bh.j1 K b a h c d j e k f (decide ((adN.wrap (u+v))<=x))) (bh.j1 K b a h c d j e k f false)) (bh.j1 K b a h c d j e k f false)))) (K (.tuple ⟨[]⟩))) f)
def gG(a:OA)(b:Int)(K:VK):WK:=nn a λc=>lI (c.add 2) λd=>br (decide (b>d)) (br (decide (b<=1099511627776)) (nn a λe=>st (e.add 2) (.i b) (bh a (x0 (K (.tuple ⟨[]⟩))))) (bh a (x0 (K (.tuple ⟨[]⟩))))) (bh a (x0 (K (.tuple ⟨[]⟩))))
def ix(s:OA)(p t:Nat)(K:VK):WK:=(lp [.l none 0 0,.l none 0 0,.l s p t,.i (p:Int),.i 0] λq u=>∀h j k b c d e f m g a n,q [.l h j k,.l b c d,.l e f m,.i g,.i a] n->(br (decide (a<g)) (fO e f a 14 λv=>ah v 14 λw=>mk cJ λr=>aG 14 (ad r 0) w (ah (ad r 0) 14 λo=>a8 (1=1/\(o.length=14/\True)) (a8 ((([.bool true]:LV)++(o++(fe:LV))).length=31/\True) (mk ((([.bool true]:LV)++(o++(fe:LV)))++[]) λx=>eS 31 248 vX b c d (some ⟨x,0,none⟩) 1 λy z A=>(ct q u [.l h j k,.l y z A,.l e f m,.i g,.i (adN.wrap (a+1))] [.l h j k,.l b c d,.l e f m,.i g,.i a] n))))) (K (.l b c d))) n)
def gW(s:OA)(p t:Nat)(K:VK):WK:=(lp [.l none 0 0,.l none 0 0,.l s p t,.i (p:Int),.i 0] λq u=>∀h j k b c d e f m g a n,q [.l h j k,.l b c d,.l e f m,.i g,.i a] n->(br (decide (a<g)) (fO e f a 16 λv=>ah v 16 λw=>mk fe λr=>aG 16 (ad r 0) w (ah (ad r 0) 16 λo=>a8 (o.length=16/\True) (a8 (((IX:LV)++(o++[])).length=31/\True) (mk (((IX:LV)++(o++[]))++[]) λx=>eS 31 248 vX b c d (some ⟨x,0,none⟩) 1 λy z A=>(ct q u [.l h j k,.l y z A,.l e f m,.i g,.i (adN.wrap (a+1))] [.l h j k,.l b c d,.l e f m,.i g,.i a] n))))) (K (.l b c d))) n)
def jq(b:LV)(K:VK):WK:=mk b λa=>lT (ad a 0) λc=>br c (lI (ad a 13) λd=>a8 ((2:Int)≠0) (K (.bool ((d.tmod (2:Int))!=0)))) (lI (ad a 28) λe=>a8 ((2:Int)≠0) (K (.bool ((e.tmod (2:Int))!=0))))
def dB(c:LV)(a:Int)(K:VK):WK:=mk c λb=>br (decide (a>=64)) (lU (ad b 0) λd=>a8 ((0:Int)<=(IntKind.u64.wrap (adN.wrap (a-64)))) (a8 ((2:Int)≠0) (K (.i (adN.wrap ((shr .u64 d (IntKind.u64.wrap (adN.wrap (a-64)))).tmod (2:Int))))))) (lU (ad b 1) λe=>a8 ((0:Int)<=(IntKind.u64.wrap a)) (a8 ((2:Int)≠0) (K (.i (adN.wrap ((shr .u64 e (IntKind.u64.wrap a)).tmod (2:Int)))))))
def gh(H:LV)(K:VK):WK:=mk H λI=>a8 (1=1/\True) (mk [.i 0] λJ=>(lp [.p (some (ad I 0)),.string .empty,.l (some ⟨J,0,none⟩) 1 1,.i 127] λx C=>∀g h j a k d s,x [.p (some g),.string h,.l j a k,.i d] s->(br (decide (d>=0)) (ah g 2 λM=>dB M d (xI .i64 λO=>(lp [.p (some g),.string h,.l j a k,.i d,.i O,.i (adN.wrap ((a:Int) -1))] λD P=>∀m n b c t o e f y,D [.p (some m),.string n,.l b c t,.i o,.i e,.i f] y->(br (decide (f>=0)) (fO b c f 1 λQ=>lI Q λE=>a8 ((10:Int)≠0) (fO b c f 1 λR=>st R (.i ((adN.wrap ((adN.wrap (2* E))+e)).tmod (10:Int))) (a8 ((10:Int)≠0) ((ct D P [.p (some m),.string n,.l b c t,.i o,.i (adN.wrap ((adN.wrap ((adN.wrap (2* E))+e)).tdiv (10:Int))),.i (adN.wrap (f-1))] [.p (some m),.string n,.l b c t,.i o,.i e,.i f] y))))) (br (decide (e>0)) (a8 (1=1/\True) (mk [.i e] λS=>eS 1 8 [.i 0] (some ⟨S,0,none⟩) 1 1 b c λT V W=>(ct x C [.p (some m),.string n,.l T V W,.i (adN.wrap (o-1))] [.p (some g),.string h,.l j a k,.i d] s))) ((ct x C [.p (some m),.string n,.l b c t,.i (adN.wrap (o-1))] [.p (some g),.string h,.l j a k,.i d] s)))) y))) ((lp [.string h,.string .empty,.l j a k,.i (a:Int),.i 0] λF X=>∀z q u v A w r B,F [.string z,.string q,.l u v A,.i w,.i r] B->(br (decide (r<w)) (fO u v r 1 λY=>lI Y λZ=>a8 (1=1/\True) (mk [.int .u8 (IntKind.u8.wrap (adN.wrap (48+Z)))] λr4=>RN (some ⟨r4,0,none⟩) 1 λG=>a8 (((q.size+G.size:Nat):Int)<=9223372036854775807) ((ct F X [.string z,.string (q++G),.l u v A,.i w,.i (adN.wrap (r+1))] [.string z,.string q,.l u v A,.i w,.i r] B)))) (K (.string q))) B))) s))
def jj(b a:Int)(K:VK):WK:=a8 (a≠0) (a8 ((2:Int)≠0) (K (.bool (((adN.wrap (b.tdiv a)).tmod (2:Int))==1))))
def aC.j4(K:VK)(a:Nat)(b:Bool):WK:=br b (K (.i 8)) (lI (ad a 11) λc=>br (decide (c<=0)) (K (.i 9)) (lI (ad a 11) λd=>br (decide (d>=65536)) (K (.i 9)) (K (.i 0))))
def aC.j3(K:VK)(a:Nat)(b:Bool):WK:=br b (K (.i 7)) (lI (ad a 10) λc=>br (decide (c<=0)) (aC.j4 K a true) (lI (ad a 10) λd=>aC.j4 K a (decide (d>=4294967296))))
def aC.j6(K:VK)(a b:Nat)(c:Bool):WK:=br c (aC.j3 K a true) (ah (ad a 8) 2 λd=>ah (ad b 0) 2 λe=>ny [.u 0,.u 0] d e λf=>br (!f) (aC.j3 K a true) (lI (ad a 13) λg=>aC.j3 K a (g !=0)))
def aC.j5(K:VK)(a b:Nat)(c:Bool):WK:=br c (aC.j6 K a b true) (ah (ad a 6) 2 λd=>ah (ad b 0) 2 λe=>ny [.u 0,.u 0] d e λf=>aC.j6 K a b (!f))
def aC.j2(K:VK)(a b:Nat)(c:Bool):WK:=br c (K (.i 6)) (ah (ad a 2) 2 λd=>ah (ad b 0) 2 λe=>ny [.u 0,.u 0] d e λf=>br (!f) (aC.j5 K a b true) (ah (ad a 4) 2 λg=>ah (ad b 0) 2 λh=>ny [.u 0,.u 0] g h λj=>aC.j5 K a b (!j)))
def aC.j1(K:VK)(a b:Nat)(c:Bool):WK:=br c (K (.i 3)) (ah (ad a 0) 2 λd=>ah (ad b 0) 2 λe=>ny [.u 0,.u 0] d e λf=>br f (K (.i 4)) (ah (ad a 0) 2 λg=>gh g (xS λh=>br (oZ h (⟨#[51,52,48,50,56,50,51,54,54,57,50,48,57,51,56,52,54,51,52,54,51,51,55,52,54,48,55,52,51,49,55,54,56,50,49,49,52,53,53]⟩:BA)) (K (.i 5)) (lI (ad a 12) λj=>jj j 2 (xB λk=>br k (lI (ad a 12) λl=>jj l 4 (xB λm=>aC.j2 K a b m)) (aC.j2 K a b false))))))
def aC(c:LV)(K:VK):WK:=mk c λa=>a8 True (mk [.u 0,.u 0] λb=>a8 (2=2) (ga (ad b 0) [.u 0,.u 0] (lI (ad a 12) λd=>br (decide (d<0)) (aC.j1 K a b true) (lI (ad a 12) λe=>aC.j1 K a b (decide (e>7))))))
def cH(n:OA)(o:LV)(K:VK):WK:=mk o λq=>nn n λr=>lL r λs j t=>(lp [.p (some (ad q 0)),.i 0,.l s j t,.i (j:Int),.i 0] λk v=>∀b f c d g e a h,k [.p (some b),.i f,.l c d g,.i e,.i a] h->(br (decide (a<e)) (fO c d a 14 λw=>ah w 14 λx=>mk cJ λm=>aG 14 (ad m 0) x (ah (ad m 0) 2 λy=>ah b 2 λz=>ny [.u 0,.u 0] y z λA=>br A (K (.i a)) ((ct k v [.p (some b),.i f,.l c d g,.i e,.i (adN.wrap (a+1))] [.p (some b),.i f,.l c d g,.i e,.i a] h)))) (K (.i (-1)))) h)
def dR.j1(K:VK)(a b:Nat)(c:Bool):WK:=br c (lI (ad a 12) λd=>a8 ((2:Int)≠0) (a8 ((4:Int)≠0) (lI (ad b 12) λe=>a8 ((2:Int)≠0) (a8 ((4:Int)≠0) (br (((adN.wrap (d.tdiv (2:Int))).tmod (4:Int))==((adN.wrap (e.tdiv (2:Int))).tmod (4:Int))) (K (.i 10)) (K (.i 11))))))) (K (.i 11))
def dR(c d:LV)(K:VK):WK:=mk c λa=>mk d λb=>lI (ad a 10) λe=>lI (ad b 10) λf=>br (e==f) (lI (ad a 11) λg=>lI (ad b 11) λh=>dR.j1 K a b (g==h)) (dR.j1 K a b false)
def gI(a:OA)(n:LV)(K:VK):WK:=mk n λb=>ah (ad b 0) 14 λo=>aC o (xI .i64 λc=>br (c !=0) (K (.i c)) (ah (ad b 0) 2 λp=>cH a p (xI .i64 λd=>br (decide (d>=0)) (tick (ah (ad b 0) 14 λq=>nn a λe=>lL e λf g r=>fO f g d 14 λs=>ah s 14 λt=>dR q t (xI .i64 λu=>kp e [.l f g r] (K (.i u))))) (nn a λv=>lL v λJ w M=>br (decide ((w:Int)>=32)) (K (.i 35)) (nn a λx=>lI (x.add 3) λy=>nn a λz=>st (z.add 3) (.i (adN.wrap (y+1))) (nn a λA=>lI (A.add 3) λB=>st (ad b 13) (.i B) (lI (ad b 12) λC=>a8 ((2:Int)≠0) (st (ad b 12) (.i (adN.wrap ((adN.wrap (C.tdiv (2:Int)))* 2))) (tick (nn a λh=>lL h λj k m=>ah (ad b 0) 14 λD=>EX 14 D λE=>kp h [.l j k m] (eS 14 112 cJ j k m (some ⟨E,0,none⟩) 1 λF G H=>nn a λI=>st I (.l F G H) (K (.i 0)))))))))))))
def aO(b:LV)(a:Int)(K:VK):WK:=mk b λc=>lI (ad c 13) λd=>a8 (a≠0) (a8 ((2:Int)≠0) (K (.bool (((adN.wrap (d.tdiv a)).tmod (2:Int))==1))))
def dI(b:LV)(K:VK):WK:=mk b λa=>ah (ad a 0) 16 λc=>aO c 4 (xB λd=>br d (K (.bool true)) (ah (ad a 0) 16 λe=>aO e 8 (xB λf=>K (.bool f))))
def aL.j2(K:VK)(a:Nat)(b:Bool):WK:=br b (K (.bool false)) (lI (ad a 13) λc=>br (decide (c<64)) (K (.bool true)) (ah (ad a 0) 16 λd=>aO d 2 (xB λe=>K (.bool e))))
def aL.j1(K:VK)(a:Nat)(b:Bool):WK:=br b (K (.bool false)) (ah (ad a 0) 16 λc=>dI c (xB λd=>br d (lI (ad a 13) λe=>aL.j2 K a (decide (e>=16))) (aL.j2 K a false)))
def aL.j4(K:VK)(a:Nat)(b:Bool):WK:=br b (aL.j1 K a true) (ah (ad a 0) 16 λc=>aO c 4 (xB λd=>br d (ah (ad a 0) 16 λe=>aO e 8 (xB λf=>aL.j1 K a f)) (aL.j1 K a false)))
def aL.j3(K:VK)(a:Nat)(b:Bool):WK:=br b (aL.j4 K a true) (ah (ad a 0) 16 λc=>aO c 2 (xB λd=>br d (ah (ad a 0) 16 λe=>aO e 8 (xB λf=>aL.j4 K a f)) (aL.j4 K a false)))
def aL(b:LV)(K:VK):WK:=mk b λa=>ah (ad a 0) 16 λc=>aO c 2 (xB λd=>br d (ah (ad a 0) 16 λe=>aO e 4 (xB λf=>aL.j3 K a f)) (aL.j3 K a false))
def au.j5(K:VK)(a:Nat)(b:Int)(c:Bool):WK:=br c (K (.i 8)) (lI (ad a 12) λd=>br (decide (d<b)) (K (.i 9)) (lI (ad a 12) λe=>br (decide (e>=65536)) (K (.i 9)) (K (.i 0))))
def au.j4(K:VK)(a:Nat)(b:Int):WK:=lI (ad a 11) λc=>br (decide (c<b)) (au.j5 K a b true) (lI (ad a 11) λd=>au.j5 K a b (decide (d>=4294967296)))
def au.j3(K:VK)(a b:Nat)(c:Bool):WK:=br c (K (.i 17)) (ah (ad a 0) 16 λd=>dI d (xB λe=>br e (ah (ad a 8) 2 λf=>ah (ad b 0) 2 λg=>ny [.u 0,.u 0] f g λh=>br h (K (.i 16)) (au.j4 K a 0)) (ah (ad a 2) 2 λj=>ah (ad b 0) 2 λk=>ny [.u 0,.u 0] j k λl=>br l (K (.i 12)) (ah (ad a 4) 2 λm=>ah (ad b 0) 2 λn=>ny [.u 0,.u 0] m n λo=>br o (K (.i 13)) (ah (ad a 2) 2 λp=>ah (ad a 4) 2 λq=>ny [.u 0,.u 0] p q λr=>br r (K (.i 14)) (ah (ad a 8) 2 λs=>ah (ad b 0) 2 λt=>ny [.u 0,.u 0] s t λv=>br (!v) (K (.i 15)) (ah (ad a 6) 2 λw=>ah (ad b 0) 2 λx=>ny [.u 0,.u 0] w x λy=>br y (ah (ad a 0) 16 λz=>aO z 16 (xB λA=>br (!A) (ah (ad a 0) 16 λB=>aO B 32 (xB λC=>br (!C) (K (.i 18)) (au.j4 K a 1))) (au.j4 K a 1))) (au.j4 K a 1))))))))
def au.j6(K:VK)(a b:Nat)(c:Bool):WK:=br c (au.j3 K a b true) (lI (ad a 10) λd=>br (decide (d>0)) (ah (ad a 0) 16 λe=>aO e 2 (xB λf=>au.j3 K a b (!f))) (au.j3 K a b false))
def au.j2(K:VK)(a b:Nat)(c:Bool):WK:=br c (K (.i 7)) (lI (ad a 10) λd=>br (decide (d<0)) (au.j6 K a b true) (lI (ad a 10) λe=>au.j6 K a b (decide (e>1073741824))))
def au.j1(K:VK)(a b:Nat)(c:Bool):WK:=br c (K (.i 3)) (ah (ad a 0) 2 λd=>ah (ad b 0) 2 λe=>ny [.u 0,.u 0] d e λf=>br f (K (.i 4)) (ah (ad a 0) 2 λg=>gh g (xS λh=>br (oZ h (⟨#[51,52,48,50,56,50,51,54,54,57,50,48,57,51,56,52,54,51,52,54,51,51,55,52,54,48,55,52,51,49,55,54,56,50,49,49,52,53,53]⟩:BA)) (K (.i 5)) (ah (ad a 0) 16 λj=>aL j (xB λk=>br (!k) (K (.i 6)) (lI (ad a 14) λl=>br (l !=0) (au.j2 K a b true) (lI (ad a 15) λm=>au.j2 K a b (m !=0))))))))
def au(c:LV)(K:VK):WK:=mk c λa=>a8 True (mk [.u 0,.u 0] λb=>a8 (2=2) (ga (ad b 0) [.u 0,.u 0] (lI (ad a 13) λd=>br (decide (d<0)) (au.j1 K a b true) (lI (ad a 13) λe=>au.j1 K a b (decide (e>255))))))
def dS(n:OA)(o:LV)(K:VK):WK:=mk o λq=>nn n λr=>lL (r.add 1) λs j t=>(lp [.p (some (ad q 0)),.i 0,.l s j t,.i (j:Int),.i 0] λk v=>∀b f c d g e a h,k [.p (some b),.i f,.l c d g,.i e,.i a] h->(br (decide (a<e)) (fO c d a 33 λw=>ah w 33 λx=>mk bg λm=>aG 33 (ad m 0) x (ah (ad m 16) 2 λy=>ah b 2 λz=>ny [.u 0,.u 0] y z λA=>br A (K (.i a)) ((ct k v [.p (some b),.i f,.l c d g,.i e,.i (adN.wrap (a+1))] [.p (some b),.i f,.l c d g,.i e,.i a] h)))) (K (.i (-1)))) h)
def ia(c d:LV)(K:VK):WK:=mk c λa=>mk d λb=>lI (ad a 13) λe=>a8 ((2:Int)≠0) (st (ad a 13) (.i (adN.wrap (e.tdiv (2:Int)))) (lI (ad b 13) λf=>a8 ((2:Int)≠0) (st (ad b 13) (.i (adN.wrap (f.tdiv (2:Int)))) (ah (ad a 0) 16 λg=>ah (ad b 0) 16 λh=>ny fe g h λj=>br j (K (.i 10)) (K (.i 11))))))
def fk(j k:LV)(K:VK):WK:=mk j λl=>mk k λm=>(lp [.p (some (ad l 0)),.p (some (ad m 0)),.bool false,.i 127] λf n=>∀c b d a e,f [.p (some c),.p (some b),.bool d,.i a] e->(br (decide (a>=0)) (tick (ah c 2 λo=>ah b 2 λg=>dB o a (xI .i64 λq=>kp b g (dB g a (xI .i64 λr=>br (q !=r) (tick (ah c 2 λs=>ah b 2 λh=>dB s a (xI .i64 λt=>kp b h (dB h a (xI .i64 λu=>K (.bool (decide (t<u)))))))) ((ct f n [.p (some c),.p (some b),.bool d,.i (adN.wrap (a-1))] [.p (some c),.p (some b),.bool d,.i a] e))))))) (K (.bool false))) e)
def bM.j1(K:VK)(a:Nat)(b c d:Int)(e:Bool):WK:=br e (a8 True (a8 (2=2) (ga (ad a 0) [.u 0,.u 0] (ah (ad a 0) 2 λf=>K (.tuple ⟨[.agg ⟨f⟩,.bool false]⟩))))) (a8 (1=1/\(1=1/\True)) (a8 (2=2) (ga (ad a 0) [.u d,.u (IntKind.u64.wrap (b+c))] (ah (ad a 0) 2 λg=>K (.tuple ⟨[.agg ⟨g⟩,.bool true]⟩)))))
def bM(i j:LV)(K:VK):WK:=mk i λc=>mk j λg=>mk [.u 0,.u 0] λf=>lU (ad c 1) λd=>lU (ad g 1) λe=>lU (ad c 0) λa=>lU (ad g 0) λb=>lU (ad c 0) λh=>lU (ad c 1) λk=>br (decide ((IntKind.u64.wrap (d+e))<k)) (br (decide ((IntKind.u64.wrap (a+b))<h)) (bM.j1 K f d e (IntKind.u64.wrap ((IntKind.u64.wrap (a+b))+1)) true) (bM.j1 K f d e (IntKind.u64.wrap ((IntKind.u64.wrap (a+b))+1)) ((IntKind.u64.wrap ((IntKind.u64.wrap (a+b))+1))==0))) (bM.j1 K f d e (IntKind.u64.wrap (a+b)) (decide ((IntKind.u64.wrap (a+b))<h)))
def fK(c d:LV)(K:VK):WK:=mk c λe=>mk d λf=>mk [.u 0,.u 0] λa=>ah (ad e 0) 2 λg=>ah (ad f 0) 2 λh=>bM g h (x2 λi j=>(xA 2 λk=>(xB λn=>mk [.u 0,.u 0] λb=>aG 2 (ad b 0) k (ah (ad b 0) 2 λl=>aG 2 (ad a 0) l (ah (ad a 0) 2 λm=>K (.agg ⟨m⟩)))) j) i)
def aa.Ua(K:VK)(a:Addr)(h:LI)(b:Addr)(c:OA)(d e:Nat)(f g:Int)(j:LM)(k:World)(m:Bool):WK:=br m (lI (a.add 12) λn=>a8 ((8:Int)≠0) (st (a.add 12) (.i (adN.wrap ((n.tmod (8:Int))+8))) ((ct h j [.p (some b),.p (some a),.l c d e,.i f,.i (adN.wrap (g+1))] [.p (some b),.p (some a),.l c d e,.i f,.i g] k)))) ((ct h j [.p (some b),.p (some a),.l c d e,.i f,.i (adN.wrap (g+1))] [.p (some b),.p (some a),.l c d e,.i f,.i g] k))
def aa.F6(K:VK)(k:Nat)(a:Addr)(b:LI)(c:Addr)(d:OA)(e f:Nat)(g h:Int)(i:LM)(j:World)(l:Bool):WK:=br l (lI (ad k 32) λm=>br (m==1) (aa.Ua K a b c d e f g h i j true) (lI (ad k 32) λn=>aa.Ua K a b c d e f g h i j (n==2))) (aa.Ua K a b c d e f g h i j false)
def aa.V'(K:VK)(b:Nat)(a:Addr)(c:LI)(d:Addr)(e:OA)(f g:Nat)(h i:Int)(j:LM)(k:World)(l:Nat)(m:Bool):WK:=br m (aa.F6 K b a c d e f g h i j k true) (ah (ad l 0) 16 λn=>aO n 128 (xB λo=>br o (ah (ad l 4) 2 λp=>ah a 2 λq=>ny [.u 0,.u 0] p q λr=>aa.F6 K b a c d e f g h i j k r) (aa.F6 K b a c d e f g h i j k false)))
def aa.j9(K:VK)(a:Nat)(b:Addr)(c:Nat)(d:LI)(e:Addr)(f:OA)(g h:Nat)(i j:Int)(k:LM)(l:World):WK:=ah (ad a 0) 16 λm=>aO m 64 (xB λn=>br n (ah (ad a 2) 2 λo=>ah b 2 λp=>ny [.u 0,.u 0] o p λq=>aa.V' K c b d e f g h i j k l a q) (aa.V' K c b d e f g h i j k l a false))
def aa.j8(K:VK)(a:Addr)(b c:Nat)(d:LI)(e:Addr)(f:OA)(g h:Nat)(i j:Int)(k:LM)(l:World)(m:Bool):WK:=br m (ah (a.add 6) 2 λn=>ah (ad b 6) 2 λo=>fK n o (xA 2 λp=>aG 2 (a.add 6) p (aa.j9 K b a c d e f g h i j k l))) (aa.j9 K b a c d e f g h i j k l)
def aa.j7(K:VK)(a b:Nat)(c:Addr)(d:LI)(e:Addr)(f:OA)(g h:Nat)(i j:Int)(k:LM)(l:World):WK:=lI (ad a 32) λm=>br (m==1) (ah (ad b 4) 2 λn=>ah c 2 λo=>ny [.u 0,.u 0] n o λp=>aa.j8 K c b a d e f g h i j k l p) (aa.j8 K c b a d e f g h i j k l false)
def aa.j6(K:VK)(a:Addr)(b c:Nat)(d:LI)(e:Addr)(f:OA)(g h:Nat)(i j:Int)(k:LM)(l:World)(m:Bool):WK:=br m (ah (a.add 2) 2 λn=>ah (ad b 6) 2 λo=>fK n o (xA 2 λp=>aG 2 (a.add 2) p (aa.j7 K c b a d e f g h i j k l))) (aa.j7 K c b a d e f g h i j k l)
def aa.j5(K:VK)(a b:Nat)(c:Addr)(d:LI)(e:Addr)(f:OA)(g h:Nat)(i j:Int)(k:LM)(l:World):WK:=lI (ad a 32) λm=>br (m==1) (ah (ad b 2) 2 λn=>ah c 2 λo=>ny [.u 0,.u 0] n o λp=>aa.j6 K c b a d e f g h i j k l p) (aa.j6 K c b a d e f g h i j k l false)
def aa.j4(K:VK)(a:Addr)(b c:Nat)(d:LI)(e:Addr)(f:OA)(g h:Nat)(i j:Int)(k:LM)(l:World)(m:Bool):WK:=br m (ah (a.add 8) 2 λn=>ah (ad b 6) 2 λo=>fK n o (xA 2 λp=>aG 2 (a.add 8) p (aa.j5 K c b a d e f g h i j k l))) (aa.j5 K c b a d e f g h i j k l)
def aa.j3(K:VK)(m:Bool)(a:Nat)(b:Addr)(c:Nat)(d:LI)(e:Addr)(f:OA)(g h:Nat)(i j:Int)(k:LM)(l:World):WK:=br m (ah (ad a 4) 2 λn=>ah b 2 λo=>ny [.u 0,.u 0] n o λp=>aa.j4 K b a c d e f g h i j k l p) (aa.j4 K b a c d e f g h i j k l false)
def aa.j2(K:VK)(a:Addr)(b:Nat)(c:Bool)(d:Nat)(e:LI)(f:Addr)(g:OA)(h i:Nat)(j k:Int)(l:LM)(m:World)(n:Bool):WK:=br n (ah (a.add 4) 2 λo=>ah (ad b 6) 2 λp=>fK o p (xA 2 λq=>aG 2 (a.add 4) q (aa.j3 K c b a d e f g h i j k l m))) (aa.j3 K c b a d e f g h i j k l m)
def aa.j1(K:VK)(a:Nat)(b:Addr)(d:Nat)(e:LI)(f:Addr)(g:OA)(h i:Nat)(j k:Int)(l:LM)(m:World)(c:Bool):WK:=br c (ah (ad a 2) 2 λn=>ah b 2 λo=>ny [.u 0,.u 0] n o λp=>aa.j2 K b a c d e f g h i j k l m p) (aa.j2 K b a c d e f g h i j k l m false)
def aa(n:OA)(s:Int)(K:VK):WK:=mk cJ λt=>nn n λu=>lL u λv w O=>fO v w s 14 λx=>ah x 14 λy=>mk cJ λo=>aG 14 (ad o 0) y (nn n λz=>lL (z.add 1) λA q B=>(lp [.p (some (ad t 0)),.p (some (ad o 0)),.l A q B,.i (q:Int),.i 0] λk r=>∀a d e f m g b h,k [.p (some a),.p (some d),.l e f m,.i g,.i b] h->(br (decide (b<g)) (fO e f b 33 λC=>ah C 33 λD=>mk bg λj=>aG 33 (ad j 0) D (ah (ad j 16) 16 λE=>mk fe λc=>aG 16 (ad c 0) E (ah (ad c 0) 16 λF=>aO F 2 (xB λG=>br (!G) (ah (ad c 0) 16 λH=>aO H 8 (xB λI=>aa.j1 K c d j k a e f m g b r h (!I))) (aa.j1 K c d j k a e f m g b r h false))))) (ah d 14 λJ=>aG 14 a J (ah a 14 λM=>K (.agg ⟨M⟩)))) h))
def dE(c:OA)(d:LV)(e:Int)(K:VK):WK:=mk d λf=>dU c (xP λa=>nn a λg=>lL (g.add 1) λh j p=>fO h j e 33 λk=>st (k.add 32) (.i 3) (ah (ad f 0) 2 λl=>cH a l (xI .i64 λm=>aa a m (xA 14 λn=>(λw=>∃b,n[12]?=some b/\(xI .i64 λo=>K (.bool (decide (o>=8)))) b w)))))
def dT(a:OA)(m n:LV)(f:Int)(K:VK):WK:=mk m λe=>mk n λb=>nn a λo=>lI (o.add 3) λp=>nn a λq=>st (q.add 3) (.i (adN.wrap (p+1))) (nn a λr=>lI (r.add 3) λs=>st (ad b 14) (.i s) (nn a λt=>lI (t.add 2) λu=>st (ad b 15) (.i u) (tick (nn a λg=>lL (g.add 1) λh j k=>ah (ad e 0) 16 λc=>ah (ad b 0) 16 λd=>a8 (c.length=16/\(d.length=16/\(1=1/\True))) (a8 ((c++(d++([.i f]:LV))).length=33/\True) (mk ((c++(d++([.i f]:LV)))++[]) λv=>kp (ad b 0) d (kp (ad e 0) c (kp (g.add 1) [.l h j k] (eS 33 264 bg h j k (some ⟨v,0,none⟩) 1 λw x y=>kp (ad b 0) d (kp (ad e 0) c (nn a λz=>st (z.add 1) (.l w x y) (K (.tuple ⟨[]⟩)))))))))))))
def af.j6(K:VK)(c b d:Nat)(e:OA):WK:=ah (ad c 0) 16 λf=>mk fe λa=>aG 16 (ad a 0) f (ah (ad b 2) 2 λg=>aG 2 (ad a 2) g (ah (ad b 4) 2 λh=>aG 2 (ad a 4) h (ah (ad d 0) 2 λj=>aG 2 (ad a 6) j (lI (ad b 11) λk=>st (ad a 11) (.i k) (lI (ad b 12) λl=>st (ad a 12) (.i l) (ah (ad c 0) 16 λm=>ah (ad a 0) 16 λn=>dT e m n 0 (x0 (K (.i 0)))))))))
def af.j5(K:VK)(a:OA)(b:Int)(f:Bool)(c d e:Nat)(g:Bool):WK:=br g (K (.i 31)) (nn a λh=>lL (h.add 1) λs j t=>br (decide ((j:Int)>=96)) (K (.i 35)) (nn a λk=>lL (k.add 1) λl m u=>fO l m b 33 λn=>st (n.add 32) (.i 3) (br f (nn a λo=>lL (o.add 1) λp q v=>fO p q b 33 λr=>st (r.add 32) (.i 2) (af.j6 K c d e a)) (af.j6 K c d e a))))
def af.j4(K:VK)(a:Bool)(b:Nat)(c:OA)(d:Int)(e f:Nat)(g:Bool):WK:=br g (K (.i 30)) (br a (ah (ad b 4) 2 λh=>dE c h d (xB λj=>af.j5 K c d a e b f j)) (af.j5 K c d a e b f false))
def af.j3(K:VK)(a:Bool)(b:Nat)(c:OA)(d:Int)(e f:Nat)(g:Bool):WK:=br g (K (.i 26)) (br a (ah (ad b 2) 2 λh=>dE c h d (xB λj=>af.j4 K a b c d e f j)) (af.j4 K a b c d e f false))
def af.j7(K:VK)(a:Bool)(b:Nat)(d:OA)(e:Int)(f c:Nat)(g:Bool):WK:=br g (af.j3 K a b d e f c true) (br (!a) (ah (ad c 0) 2 λh=>ah (ad b 6) 2 λi=>ny [.u 0,.u 0] h i λj=>af.j3 K a b d e f c (!j)) (af.j3 K a b d e f c false))
def af.j2(K:VK)(a:Bool)(b c:Nat)(d:OA)(e:Int)(f:Nat):WK:=br a (ah (ad b 6) 2 λg=>ah (ad c 0) 2 λh=>fk g h (xB λi=>af.j7 K a b d e f c i)) (af.j7 K a b d e f c false)
def af.j1(K:VK)(b:OA)(c:Int)(d g e:Nat)(h:Bool):WK:=br h (K (.i 25)) (nn b λj=>lL (j.add 1) λk l A=>fO k l c 33 λm=>lI (m.add 32) λn=>br (decide (n>1)) (nn b λo=>lL (o.add 1) λp q B=>fO p q c 33 λr=>lI (r.add 32) λs=>K (.i (adN.wrap (25+s)))) (ah (ad d 0) 16 λt=>aO t 4 (xB λf=>ah (ad d 6) 2 λv=>mk [.u 0,.u 0] λa=>aG 2 (ad a 0) v (ah (ad a 0) 2 λw=>ah (ad g 0) 2 λx=>ny [.u 0,.u 0] w x λy=>br y (ah (ad e 6) 2 λz=>aG 2 (ad a 0) z (af.j2 K f e a b c d)) (af.j2 K f e a b c d)))))
def af.F6(K:VK)(c:OA)(d:Int)(a e b:Nat)(f:Bool):WK:=br f (af.j1 K c d a e b true) (lI (ad a 12) λg=>br (g !=0) (lI (ad a 12) λh=>lI (ad b 12) λi=>af.j1 K c d a e b (h !=i)) (af.j1 K c d a e b false))
def af.j9(K:VK)(c:OA)(d:Int)(a e b:Nat)(f:Bool):WK:=br f (af.F6 K c d a e b true) (lI (ad a 11) λg=>br (g !=0) (lI (ad a 11) λh=>lI (ad b 11) λi=>af.F6 K c d a e b (h !=i)) (af.F6 K c d a e b false))
def af.j8(K:VK)(d:OA)(e:Int)(a b c:Nat)(f:Bool):WK:=br f (af.j9 K d e a b c true) (ah (ad a 4) 2 λg=>ah (ad b 0) 2 λh=>ny [.u 0,.u 0] g h λi=>br (!i) (ah (ad a 4) 2 λj=>ah (ad c 4) 2 λk=>ny [.u 0,.u 0] j k λl=>af.j9 K d e a b c (!l)) (af.j9 K d e a b c false))
def af(b:OA)(m:LV)(K:VK):WK:=mk m λa=>ah (ad a 0) 16 λn=>au n (xI .i64 λf=>br (f !=0) (K (.i f)) (ah (ad a 0) 16 λo=>dI o (xB λp=>br (!p) (K (.i 6)) (ah (ad a 0) 2 λq=>dS b q (xI .i64 λg=>br (decide (g>=0)) (tick (ah (ad a 0) 16 λr=>nn b λh=>lL (h.add 1) λj k s=>fO j k g 33 λt=>ah t 16 λv=>ia r v (xI .i64 λw=>kp (h.add 1) [.l j k s] (K (.i w))))) (ah (ad a 8) 2 λx=>dS b x (xI .i64 λd=>br (decide (d<0)) (K (.i 23)) (nn b λy=>lL (y.add 1) λz A O=>fO z A d 33 λB=>ah (B.add 16) 16 λC=>mk fe λc=>aG 16 (ad c 0) C (a8 True (mk [.u 0,.u 0] λe=>a8 (2=2) (ga (ad e 0) [.u 0,.u 0] (ah (ad c 0) 16 λD=>aO D 2 (xB λE=>br (!E) (K (.i 24)) (ah (ad a 2) 2 λF=>ah (ad e 0) 2 λG=>ny [.u 0,.u 0] F G λH=>br (!H) (ah (ad a 2) 2 λI=>ah (ad c 2) 2 λJ=>ny [.u 0,.u 0] I J λM=>af.j8 K b d a e c (!M)) (af.j8 K b d a e c false)))))))))))))))
def hU(d e:LV)(K:VK):WK:=mk d λb=>mk e λc=>mk [.u 0,.u 0] λa=>ah (ad b 0) 2 λf=>ah (ad c 0) 2 λg=>fk f g (xB λh=>br h (ah (ad b 0) 2 λi=>aG 2 (ad a 0) i (ah (ad a 0) 2 λj=>K (.agg ⟨j⟩))) (ah (ad c 0) 2 λk=>aG 2 (ad a 0) k (ah (ad a 0) 2 λl=>K (.agg ⟨l⟩))))
def kr(K:VK):WK:=mk [.u 0,.u 0] λa=>a8 (1=1/\(1=1/\True)) (a8 (2=2) (ga (ad a 0) [.u 18446744073709551615,.u 18446744073709551615] (ah (ad a 0) 2 λb=>K (.agg ⟨b⟩))))
def lg(d:LV)(a:Int)(K:VK):WK:=mk d λb=>mk [.u 0,.u 0] λc=>br (decide (a>=64)) (lU (ad b 0) λe=>a8 ((0:Int)<=(IntKind.u64.wrap (adN.wrap (a-64)))) (lU (ad b 1) λf=>a8 (1=1/\(1=1/\True)) (a8 (2=2) (ga (ad c 0) [.u (IntKind.u64.wrap (e+(shl .u64 1 (IntKind.u64.wrap (adN.wrap (a-64)))))),.u f] (ah (ad c 0) 2 λg=>K (.agg ⟨g⟩)))))) (lU (ad b 0) λh=>lU (ad b 1) λi=>a8 ((0:Int)<=(IntKind.u64.wrap a)) (a8 (1=1/\(1=1/\True)) (a8 (2=2) (ga (ad c 0) [.u h,.u (IntKind.u64.wrap (i+(shl .u64 1 (IntKind.u64.wrap a))))] (ah (ad c 0) 2 λj=>K (.agg ⟨j⟩))))))
def c7.j1(K:VK)(a:Addr)(b:Int)(g:LI)(c d e:Addr)(f:Bool)(h:LM)(j:Int)(k:World)(l m:Int):WK:=br (m==1) (ah a 2 λn=>lg n b (xA 2 λo=>aG 2 a o ((ct g h [.p (some c),.p (some d),.p (some e),.bool f,.p (some a),.i l,.i (adN.wrap (b+1))] [.p (some c),.p (some d),.p (some e),.bool f,.p (some a),.i j,.i b] k)))) ((ct g h [.p (some c),.p (some d),.p (some e),.bool f,.p (some a),.i l,.i (adN.wrap (b+1))] [.p (some c),.p (some d),.p (some e),.bool f,.p (some a),.i j,.i b] k))
def c7(t v:LV)(K:VK):WK:=mk t λn=>mk v λo=>mk [.u 0,.u 0] λh=>ah (ad n 0) 2 λw=>ah (ad o 0) 2 λx=>fk w x (xB λy=>br y (a8 True (a8 (2=2) (ga (ad h 0) [.u 0,.u 0] (ah (ad h 0) 2 λz=>K (.tuple ⟨[.agg ⟨z⟩,.bool false]⟩))))) (a8 True (mk [.u 0,.u 0] λq=>a8 (2=2) (ga (ad q 0) [.u 0,.u 0] ((lp [.p (some (ad n 0)),.p (some (ad o 0)),.p (some (ad h 0)),.bool false,.p (some (ad q 0)),.i 0,.i 0] λj r=>∀e c d k f a b g,j [.p (some e),.p (some c),.p (some d),.bool k,.p (some f),.i a,.i b] g->(br (decide (b<128)) (tick (ah e 2 λA=>ah c 2 λs=>dB A b (xI .i64 λl=>kp c s (dB s b (xI .i64 λm=>br (decide ((adN.wrap ((adN.wrap (l-m)) -a))<0)) (c7.j1 K f b j e c d k r a g 1 (adN.wrap ((adN.wrap ((adN.wrap (l-m)) -a))+2))) (c7.j1 K f b j e c d k r a g 0 (adN.wrap ((adN.wrap (l-m)) -a)))))))) (ah f 2 λB=>aG 2 d B (ah d 2 λC=>K (.tuple ⟨[.agg ⟨C⟩,.bool true]⟩)))) g))))))
def bN.j2(K:VK)(c d a:Nat):WK:=ah (ad c 0) 2 λe=>ah (ad d 0) 2 λf=>c7 e f (x2 λg h=>(xA 2 λi=>(xB λl=>mk [.u 0,.u 0] λb=>aG 2 (ad b 0) i (ah (ad b 0) 2 λj=>aG 2 (ad a 0) j (ah (ad a 0) 2 λk=>K (.agg ⟨k⟩)))) h) g)
def bN.j1(K:VK)(d e b c:Nat):WK:=ah (ad d 0) 2 λf=>ah (ad e 0) 2 λg=>bM f g (x2 λh i=>(xA 2 λj=>(xB λk=>mk [.u 0,.u 0] λa=>aG 2 (ad a 0) j (br (!k) (kr (xA 2 λl=>aG 2 (ad a 0) l (bN.j2 K b a c))) (bN.j2 K b a c))) i) h)
def bN(f:LV)(g:Bool)(K:VK):WK:=mk f λa=>mk [.u 0,.u 0] λe=>ah (ad a 4) 2 λh=>mk [.u 0,.u 0] λb=>aG 2 (ad b 0) h (ah (ad a 6) 2 λi=>mk [.u 0,.u 0] λc=>aG 2 (ad c 0) i (ah (ad a 8) 2 λj=>mk [.u 0,.u 0] λd=>aG 2 (ad d 0) j (br g (ah (ad a 8) 2 λk=>aG 2 (ad b 0) k (ah (ad a 2) 2 λl=>aG 2 (ad c 0) l (ah (ad a 4) 2 λm=>aG 2 (ad d 0) m (bN.j1 K c d b e)))) (bN.j1 K c d b e))))
def aR.j4(K:VK)(e:Bool)(c a d b:Nat):WK:=br e (ah (ad c 0) 2 λf=>aG 2 (ad a 2) f (ah (ad d 0) 2 λg=>aG 2 (ad a 4) g (ah (ad a 0) 14 λh=>aG 14 (ad b 0) h (ah (ad b 0) 14 λj=>K (.tuple ⟨[.agg ⟨j⟩,.i 0]⟩))))) (ah (ad c 0) 2 λk=>aG 2 (ad a 6) k (ah (ad d 0) 2 λl=>aG 2 (ad a 8) l (ah (ad a 0) 14 λm=>aG 14 (ad b 0) m (ah (ad b 0) 14 λn=>K (.tuple ⟨[.agg ⟨n⟩,.i 0]⟩)))))
def aR.j3(K:VK)(e:Bool)(b a:Nat)(g:Bool)(c f d:Nat)(h:Bool):WK:=br h (br e (ah (ad b 0) 14 λj=>aG 14 (ad a 0) j (ah (ad a 0) 14 λk=>K (.tuple ⟨[.agg ⟨k⟩,.i 33]⟩))) (ah (ad b 0) 14 λl=>aG 14 (ad a 0) l (ah (ad a 0) 14 λm=>K (.tuple ⟨[.agg ⟨m⟩,.i 34]⟩)))) (br g (ah (ad c 0) 2 λn=>ah (ad f 0) 2 λo=>bM n o (x2 λp q=>(xA 2 λr=>(xB λx=>aG 2 (ad c 0) r (aR.j4 K e c b d a)) q) p)) (ah (ad d 0) 2 λs=>ah (ad f 0) 2 λt=>bM s t (x2 λu v=>(xA 2 λw=>(xB λy=>aG 2 (ad d 0) w (aR.j4 K e c b d a)) v) u)))
def aR.j2(K:VK)(a b:Nat)(k:Int)(c:Nat)(d f:Bool)(g h:Nat)(l:Bool):WK:=br l (ah (ad a 0) 14 λm=>aG 14 (ad b 0) m (ah (ad b 0) 14 λn=>K (.tuple ⟨[.agg ⟨n⟩,.i 32]⟩))) (tick (lI (ad a 12) λe=>br ((bA .i64 .and e k)!=0) (ah (ad a 0) 14 λo=>ah (ad c 0) 2 λj=>bN o d (xA 2 λp=>kp (ad c 0) j (kp (ad a 12) [.i e] (fk p j (xB λq=>kp (ad a 12) [.i e] (aR.j3 K d a b f g c h q)))))) (aR.j3 K d a b f g c h false)))
def aR.j1(K:VK)(a b c d e:Nat)(f g:Bool)(h:Int):WK:=ah (ad a 0) 2 λj=>ah (ad b 0) 2 λk=>bM j k (x2 λl m=>(xA 2 λn=>(xB λo=>mk [.u 0,.u 0] λi=>aG 2 (ad i 0) n (ah (ad i 0) 2 λp=>ah (ad c 0) 2 λq=>bM p q (x2 λr s=>(xA 2 λt=>(xB λv=>mk [.u 0,.u 0] λw=>aG 2 (ad w 0) t (br (!o) (aR.j2 K d e h c f g a b true) (aR.j2 K d e h c f g a b (!v)))) s) r))) m) l)
def aR(h:LV)(d:Bool)(i:LV)(e:Bool)(K:VK):WK:=mk h λa=>mk i λf=>mk cJ λg=>ah (ad a 6) 2 λj=>mk [.u 0,.u 0] λb=>aG 2 (ad b 0) j (ah (ad a 8) 2 λk=>mk [.u 0,.u 0] λc=>aG 2 (ad c 0) k (br d (ah (ad a 2) 2 λl=>aG 2 (ad b 0) l (ah (ad a 4) 2 λm=>aG 2 (ad c 0) m (aR.j1 K b c f a g d e 2))) (aR.j1 K b c f a g d e 4)))
def aN.j3(K:VK)(a h c j:Nat)(e:OA):WK:=ah (ad a 0) 16 λk=>aO k 2 (xB λd=>ah (ad h 0) 14 λl=>ah (ad c 0) 2 λm=>aR l true m d (x2 λn o=>(xA 14 λz=>(xI .i64 λf=>br (f !=0) (K (.i f)) (ah (ad j 0) 14 λp=>ah (ad c 0) 2 λq=>aR p false q d (x2 λr s=>(xA 14 λA=>(xI .i64 λg=>br (g !=0) (K (.i g)) (ah (ad a 0) 16 λt=>mk fe λb=>aG 16 (ad b 0) t (ah (ad c 0) 2 λu=>aG 2 (ad b 6) u (br d (ah (ad a 0) 16 λv=>ah (ad b 0) 16 λw=>dT e v w 1 (x0 (K (.i 0)))) (ah (ad a 0) 16 λx=>ah (ad b 0) 16 λy=>dT e x y 0 (x0 (K (.i 0)))))))) s) r))) o) n))
def aN.j2(K:VK)(b a c g d:Nat)(e:OA):WK:=ah (ad b 0) 16 λh=>aO h 32 (xB λj=>br j (tick (ah (ad a 0) 2 λf=>ah (ad c 0) 14 λk=>bN k false (xA 2 λl=>kp (ad a 0) f (hU f l (xA 2 λm=>aG 2 (ad a 0) m (ah (ad a 0) 2 λn=>ah (ad g 0) 2 λo=>ny [.u 0,.u 0] n o λp=>br p (K (.i 34)) (aN.j3 K b d a c e))))))) (aN.j3 K b d a c e))
def aN.j1(K:VK)(b a c d e:Nat)(f:OA):WK:=ah (ad b 0) 16 λh=>aO h 16 (xB λj=>br j (tick (ah (ad a 0) 2 λg=>ah (ad c 0) 14 λk=>bN k true (xA 2 λl=>kp (ad a 0) g (hU g l (xA 2 λm=>aG 2 (ad a 0) m (ah (ad a 0) 2 λn=>ah (ad d 0) 2 λo=>ny [.u 0,.u 0] n o λp=>br p (K (.i 33)) (aN.j2 K b a e d c f))))))) (aN.j2 K b a e d c f))
def aN(b:OA)(p:LV)(K:VK):WK:=mk p λa=>ah (ad a 0) 16 λq=>au q (xI .i64 λg=>br (g !=0) (K (.i g)) (ah (ad a 0) 16 λr=>dI r (xB λs=>br s (K (.i 6)) (ah (ad a 0) 2 λt=>dS b t (xI .i64 λh=>br (decide (h>=0)) (tick (ah (ad a 0) 16 λv=>nn b λj=>lL (j.add 1) λk m w=>fO k m h 33 λx=>ah x 16 λy=>ia v y (xI .i64 λz=>kp (j.add 1) [.l k m w] (K (.i z))))) (ah (ad a 2) 2 λA=>cH b A (xI .i64 λn=>ah (ad a 4) 2 λB=>cH b B (xI .i64 λo=>br (decide (n<0)) (K (.i 19)) (br (decide (o<0)) (K (.i 20)) (aa b n (xA 14 λC=>mk cJ λc=>aG 14 (ad c 0) C (aa b o (xA 14 λD=>mk cJ λd=>aG 14 (ad d 0) D (lI (ad c 10) λE=>lI (ad d 10) λF=>br (E !=F) (K (.i 21)) (lI (ad c 10) λG=>lI (ad a 11) λH=>br (G !=H) (K (.i 22)) (lI (ad c 12) λI=>br (decide (I>=8)) (K (.i 30)) (lI (ad d 12) λJ=>br (decide (J>=8)) (K (.i 31)) (nn b λM=>lL (M.add 1) λT O V=>br (decide ((O:Int)>=96)) (K (.i 35)) (a8 True (mk [.u 0,.u 0] λf=>a8 (2=2) (ga (ad f 0) [.u 0,.u 0] (ah (ad a 6) 2 λP=>mk [.u 0,.u 0] λe=>aG 2 (ad e 0) P (ah (ad e 0) 2 λQ=>ah (ad f 0) 2 λR=>ny [.u 0,.u 0] Q R λS=>br S (a8 (1=1/\(1=1/\True)) (a8 (2=2) (ga (ad e 0) [.u 18446744073709551615,.u 18446744073709551615] (aN.j1 K a e c f d b)))) (aN.j1 K a e c f d b))))))))))))))))))))))))
def fr.j1(K:VK)(a:Nat)(b:OA)(c:Bool):WK:=br c (ah (ad a 15) 16 λd=>af b d (xI .i64 λe=>K (.i e))) (ah (ad a 15) 16 λf=>aN b f (xI .i64 λg=>K (.i g)))
def fr(b:OA)(c:LV)(K:VK):WK:=mk c λa=>lT (ad a 0) λd=>br d (ah (ad a 1) 14 λe=>gI b e (xI .i64 λf=>K (.i f))) (ah (ad a 15) 16 λg=>au g (xI .i64 λh=>br (h==0) (ah (ad a 15) 16 λj=>dI j (xB λk=>fr.j1 K a b k)) (fr.j1 K a b false)))
def aW.j3(K:VK)(u:LI)(v:LM)(w x:OA)(y z:Nat)(A B:OA)(C D:Nat)(E:Int)(F:World)(H I:OA)(J M:Nat)(O P:OA)(Q R:Nat)(G S T V:Int)(W:OA):WK:=(lp [.p H,.l I J M,.p O,.l P Q R,.i G,.i S,.i T,.i V,.p W,.i G] λs t=>∀m c d e f g h j q a b n o k r,s [.p m,.l c d e,.p f,.l g h j,.i q,.i a,.i b,.i n,.p o,.i k] r->(br (decide (k<=a)) (br (decide (b<0)) (a8 (1=1/\True) (mk [.i 0] λX=>eS 1 8 [.i 0] g h j (some ⟨X,0,none⟩) 1 λY Z HC=>(ct s t [.p m,.l c d e,.p f,.l Y Z HC,.i q,.i a,.i b,.i n,.p o,.i (adN.wrap (k+1))] [.p m,.l c d e,.p f,.l g h j,.i q,.i a,.i b,.i n,.p o,.i k] r))) (br (k==b) (a8 (1=1/\True) (mk [.i n] λr2=>eS 1 8 [.i 0] g h j (some ⟨r2,0,none⟩) 1 λaak aag aai=>(ct s t [.p m,.l c d e,.p f,.l aak aag aai,.i q,.i a,.i b,.i n,.p o,.i (adN.wrap (k+1))] [.p m,.l c d e,.p f,.l g h j,.i q,.i a,.i b,.i n,.p o,.i k] r))) (a8 (1=1/\True) (mk [.i 1] λr3=>eS 1 8 [.i 0] g h j (some ⟨r3,0,none⟩) 1 λaaj aaf aah=>(ct s t [.p m,.l c d e,.p f,.l aaj aaf aah,.i q,.i a,.i b,.i n,.p o,.i (adN.wrap (k+1))] [.p m,.l c d e,.p f,.l g h j,.i q,.i a,.i b,.i n,.p o,.i k] r))))) (br (decide (b<0)) ((ct u v [.p o,.l c d e,.p f,.l g h j,.i (adN.wrap (a+1))] [.p w,.l x y z,.p A,.l B C D,.i E] F)) ((ct u v [.p m,.l c d e,.p f,.l g h j,.i (adN.wrap (a+1))] [.p w,.l x y z,.p A,.l B C D,.i E] F)))) r)
def aW.j4(K:VK)(v:OA)(w:Nat)(a:Int)(b:OA)(s:LI)(c d:OA)(e f:Nat)(g h:OA)(j k:Nat)(m n:Int)(t:LM)(o q:Int)(u:World)(x:LI)(y:LM)(z A:OA)(B C:Nat)(D E:OA)(F G:Nat)(H:Int)(I:World)(J:Bool):WK:=br J (fO v w a 31 λM=>ah M 31 λO=>fr b O (xI .i64 λr=>br (r !=0) ((ct s t [.p c,.l d e f,.p g,.l h j k,.i m,.i n,.i a,.i r,.p b,.i (adN.wrap (a+1))] [.p c,.l d e f,.p g,.l h j k,.i m,.i n,.i o,.i q,.p b,.i a] u)) ((ct s t [.p c,.l d e f,.p g,.l h j k,.i m,.i n,.i o,.i r,.p b,.i (adN.wrap (a+1))] [.p c,.l d e f,.p g,.l h j k,.i m,.i n,.i o,.i q,.p b,.i a] u)))) (aW.j3 K x y z A B C D E F G H I c d e f g h j k m n o q b)
def aW.j2(K:VK)(t M:OA)(O P:Nat)(Q R:OA)(S T:Nat)(u:Int)(v:OA)(w:Nat)(x:LI)(y:LM)(z A:OA)(B C:Nat)(D E:OA)(F G:Nat)(H:Int)(I:World)(V W X:Int):WK:=dU t (xP λY=>(lp [.p t,.l M O P,.p Q,.l R S T,.i u,.i V,.i W,.i X,.p Y,.i u] λe J=>∀f g h j k m n o q a b r s c d,e [.p f,.l g h j,.p k,.l m n o,.i q,.i a,.i b,.i r,.p s,.i c] d->(br (decide (c<=a)) (aW.j4 K v w c s e f g h j k m n o q a J b r d x y z A B C D E F G H I (decide (b<0))) (aW.j4 K v w c s e f g h j k m n o q a J b r d x y z A B C D E F G H I false)) d))
def aW.j1(K:VK)(a:Nat)(b:OA)(c:LI)(d:LM)(e f:OA)(g h:Nat)(i j:OA)(k l:Nat)(m:Int)(n:World)(o p:OA)(q r:Nat)(s t:OA)(u v:Nat)(w x:Int):WK:=br (x==(a:Int)) (aW.j2 K o p q r s t u v w b a c d e f g h i j k l m n (adN.wrap ((a:Int) -1)) (adN.wrap ((a:Int) -1)) 2) (aW.j2 K o p q r s t u v w b a c d e f g h i j k l m n x (-1) 0)
def aW(D y:OA)(c I:Nat)(K:VK):WK:=(lp [.p D,.l none 0 0,.p none,.l none 0 0,.i 0] λz B=>∀d t u v w e f g b x,z [.p d,.l t u v,.p w,.l e f g,.i b] x->(br (decide (b<(c:Int))) ((lp [.p d,.l t u v,.p w,.l e f g,.i b,.i b] λC E=>∀h j k m n o q r s a A,C [.p h,.l j k m,.p n,.l o q r,.i s,.i a] A->(br (decide (a<(c:Int))) (fO y c a 31 λF=>ah F 31 λG=>jq G (xB λH=>br H ((ct C E [.p h,.l j k m,.p n,.l o q r,.i s,.i (adN.wrap (a+1))] [.p h,.l j k m,.p n,.l o q r,.i s,.i a] A)) (aW.j1 K c y z B d t u v w e f g b x h j k m n o q r s a))) (aW.j1 K c y z B d t u v w e f g b x h j k m n o q r s a)) A)) (K (.tuple ⟨[.l e f g,.p d]⟩))) x)
def eJ.j1(K:VK)(a b:OA)(c d:Nat):WK:=aW a b c d (x2 λe f=>(xL λg h j=>(xP λk=>K (.tuple ⟨[.l g h j,.i 0,.p k]⟩)) f) e)
def eJ(b:OA)(d:LV)(K:VK):WK:=mk d λa=>ah (ad a 0) 13 λe=>bY e (xB λf=>br (!f) (K (.tuple ⟨[.l none 0 0,.i 1,.p b]⟩)) (lI (ad a 0) λg=>br (g==3) (dU b (xP λc=>lI (ad a 3) λh=>gG c h (x0 (K (.tuple ⟨[.l none 0 0,.i 0,.p c]⟩))))) (lL (ad a 1) λj k m=>ix j k m (xL λn o q=>lI (ad a 0) λr=>br (r==2) (lL (ad a 2) λs t u=>gW s t u (xL λv w x=>eJ.j1 K b v w x)) (eJ.j1 K b n o q)))))
def iw(S:OA)(M T:Nat)(V:OA)(O W:Nat)(K:VK):WK:=(lp [.l none 0 0,.l none 0 0,.l V O W,.i (O:Int),.i 0] λP X=>∀D E F w x y z A G B t H,P [.l D E F,.l w x y,.l z A G,.i B,.i t] H->(br (decide (t<B)) (fO z A t 2 λY=>ah Y 2 λZ=>mk [.u 0,.u 0] λQ=>aG 2 (ad Q 0) Z ((lp [.l D E F,.l w x y,.p (some (ad Q 0)),.l z A G,.i B,.i t,.l S M T,.i (M:Int),.i 0] λI R=>∀b c d e f g h j k m n o q r v s a C,I [.l b c d,.l e f g,.p (some h),.l j k m,.i n,.i o,.l q r v,.i s,.i a] C->(br (decide (a<s)) (fO q r a 14 λa3=>ah a3 14 λOq=>mk cJ λJ=>aG 14 (ad J 0) Oq (ah (ad J 0) 2 λY8=>ah h 2 λVi=>ny [.u 0,.u 0] Y8 Vi λb1=>br b1 (ah (ad J 0) 14 λRw=>EX 14 Rw λr3=>eS 14 112 cJ e f g (some ⟨r3,0,none⟩) 1 λM8 M5 HC=>(ct I R [.l b c d,.l M8 M5 HC,.p (some h),.l j k m,.i n,.i o,.l q r v,.i s,.i (adN.wrap (a+1))] [.l b c d,.l e f g,.p (some h),.l j k m,.i n,.i o,.l q r v,.i s,.i a] C)) ((ct I R [.l b c d,.l e f g,.p (some h),.l j k m,.i n,.i o,.l q r v,.i s,.i (adN.wrap (a+1))] [.l b c d,.l e f g,.p (some h),.l j k m,.i n,.i o,.l q r v,.i s,.i a] C)))) ((ct P X [.l b c d,.l e f g,.l j k m,.i n,.i (adN.wrap (o+1))] [.l D E F,.l w x y,.l z A G,.i B,.i t] H))) C))) (K (.l w x y))) H)
def gV(S:OA)(M T:Nat)(V:OA)(O W:Nat)(K:VK):WK:=(lp [.l none 0 0,.l none 0 0,.l V O W,.i (O:Int),.i 0] λP X=>∀D E F w x y z A G B t H,P [.l D E F,.l w x y,.l z A G,.i B,.i t] H->(br (decide (t<B)) (fO z A t 2 λY=>ah Y 2 λZ=>mk [.u 0,.u 0] λQ=>aG 2 (ad Q 0) Z ((lp [.l D E F,.l w x y,.p (some (ad Q 0)),.l z A G,.i B,.i t,.l S M T,.i (M:Int),.i 0] λI R=>∀b c d e f g h j k m n o q r v s a C,I [.l b c d,.l e f g,.p (some h),.l j k m,.i n,.i o,.l q r v,.i s,.i a] C->(br (decide (a<s)) (fO q r a 33 λa3=>ah a3 33 λOq=>mk bg λJ=>aG 33 (ad J 0) Oq (ah (ad J 16) 2 λY8=>ah h 2 λVi=>ny [.u 0,.u 0] Y8 Vi λb1=>br b1 (ah (ad J 16) 16 λRw=>EX 16 Rw λr3=>eS 16 128 fe e f g (some ⟨r3,0,none⟩) 1 λM8 M5 HC=>(ct I R [.l b c d,.l M8 M5 HC,.p (some h),.l j k m,.i n,.i o,.l q r v,.i s,.i (adN.wrap (a+1))] [.l b c d,.l e f g,.p (some h),.l j k m,.i n,.i o,.l q r v,.i s,.i a] C)) ((ct I R [.l b c d,.l e f g,.p (some h),.l j k m,.i n,.i o,.l q r v,.i s,.i (adN.wrap (a+1))] [.l b c d,.l e f g,.p (some h),.l j k m,.i n,.i o,.l q r v,.i s,.i a] C)))) ((ct P X [.l b c d,.l e f g,.l j k m,.i n,.i (adN.wrap (o+1))] [.l D E F,.l w x y,.l z A G,.i B,.i t] H))) C))) (K (.l w x y))) H)
def aM.j3(K:VK)(o:Nat)(a:OA)(b c:Nat)(k:LI)(d:Addr)(e:OA)(f g:Nat)(h j:Int)(m:LM)(n:World)(q:Bool):WK:=br q (ah (ad o 0) 16 λr=>EX 16 r λs=>eS 16 128 fe a b c (some ⟨s,0,none⟩) 1 λt u v=>(ct k m [.p (some d),.l e f g,.l t u v,.i h,.i (adN.wrap (j+1))] [.p (some d),.l e f g,.l a b c,.i h,.i j] n)) ((ct k m [.p (some d),.l e f g,.l a b c,.i h,.i (adN.wrap (j+1))] [.p (some d),.l e f g,.l a b c,.i h,.i j] n))
def aM.j4(K:VK)(b:Nat)(c:OA)(d e:Nat)(f:LI)(a:Addr)(g:OA)(h i:Nat)(j k:Int)(l:LM)(m:World)(n:Bool):WK:=br n (aM.j3 K b c d e f a g h i j k l m true) (lT (a.add 5) λo=>br o (ah (ad b 4) 2 λp=>ah a 2 λq=>ny [.u 0,.u 0] p q λr=>aM.j3 K b c d e f a g h i j k l m r) (aM.j3 K b c d e f a g h i j k l m false))
def aM.j2(K:VK)(k:LI)(a:Addr)(b:OA)(c d:Nat)(e:OA)(f g:Nat)(h j:Int)(m:LM)(n:World)(o:Nat)(q:Bool):WK:=br q ((ct k m [.p (some a),.l b c d,.l e f g,.i h,.i (adN.wrap (j+1))] [.p (some a),.l b c d,.l e f g,.i h,.i j] n)) (lT (a.add 4) λr=>br r (ah (ad o 2) 2 λs=>ah a 2 λt=>ny [.u 0,.u 0] s t λv=>aM.j4 K o e f g k a b c d h j m n v) (aM.j4 K o e f g k a b c d h j m n false))
def aM.j5(K:VK)(c:LI)(a:Addr)(d:OA)(e f:Nat)(g:OA)(b h:Nat)(i j:Int)(k:LM)(l:World)(m:Nat)(n:Bool):WK:=br n (aM.j2 K c a d e f g b h i j k l m true) (lI (a.add 7) λo=>aM.j2 K c a d e f g b h i j k l m (decide ((b:Int)>=o)))
def aM.j1(K:VK)(n:Nat)(a:Addr)(c:LI)(d:OA)(e f:Nat)(g:OA)(h i:Nat)(j k:Int)(l:LM)(m:World):WK:=ah (ad n 16) 16 λo=>mk fe λb=>aG 16 (ad b 0) o (lI (ad b 14) λp=>lI (a.add 2) λq=>br (decide (p<q)) (aM.j2 K c a d e f g h i j k l m b true) (lI (a.add 3) λr=>br (r !=0) (lI (ad b 14) λs=>lI (a.add 3) λt=>aM.j5 K c a d e f g h i j k l m b (decide (s>t))) (aM.j5 K c a d e f g h i j k l m b false)))
def aM(q:OA)(b z:Nat)(s:LV)(K:VK):WK:=mk s λt=>(lp [.p (some (ad t 0)),.l none 0 0,.l none 0 0,.i (b:Int),.i 0] λk r=>∀c m n o d e f g a h,k [.p (some c),.l m n o,.l d e f,.i g,.i a] h->(br (decide (a<g)) (fO q b a 33 λu=>ah u 33 λv=>mk bg λj=>aG 33 (ad j 0) v (lT (c.add 6) λw=>br w (fO q b (adN.wrap ((adN.wrap ((b:Int) -1)) -a)) 33 λx=>ah x 33 λy=>aG 33 (ad j 0) y (aM.j1 K j c k m n o d e f g a r h)) (aM.j1 K j c k m n o d e f g a r h))) (K (.l d e f))) h)
def jY(e:OA)(f g:Nat)(b:OA)(c d:Nat)(h:LV)(K:VK):WK:=mk h λa=>ah (ad a 0) 13 λj=>aA j (xB λk=>br (!k) (K (.tuple ⟨[.l none 0 0,.l none 0 0,.i 1]⟩)) (lI (ad a 0) λm=>br (m==4) (lL (ad a 4) λn o p=>iw e f g n o p (xL λq r s=>K (.tuple ⟨[.l q r s,.l none 0 0,.i 0]⟩))) (lI (ad a 0) λt=>br (t==5) (lL (ad a 4) λu v w=>gV b c d u v w (xL λx y z=>K (.tuple ⟨[.l none 0 0,.l x y z,.i 0]⟩))) (ah (ad a 5) 8 λA=>aM b c d A (xL λB C D=>K (.tuple ⟨[.l none 0 0,.l B C D,.i 0]⟩))))))
def dQ(k:OA)(K:VK):WK:=nn k λn=>lL n λv o w=>(lp [.l none 0 0,.l none 0 0,.i (o:Int),.i 0] λm p=>∀f g h b c d e a j,m [.l f g h,.l b c d,.i e,.i a] j->(br (decide (a<e)) (aa k a (xA 14 λq=>EX 14 q λr=>eS 14 112 cJ b c d (some ⟨r,0,none⟩) 1 λs t u=>(ct m p [.l f g h,.l s t u,.i e,.i (adN.wrap (a+1))] [.l f g h,.l b c d,.i e,.i a] j))) (K (.l b c d))) j)
def eE.j1(K:VK)(j:Nat)(n o:OA)(p k:Nat)(q r:OA)(s:Nat)(t:Bool):WK:=br t (K (.bool false)) ((lp [.bool false,.i (j:Int),.i 0] λl u=>∀c d a f,l [.bool c,.i d,.i a] f->(br (decide (a<d)) (tick (fO n j a 14 λv=>ah v 14 λw=>fO o p a 14 λx=>ah x 14 λy=>ny cJ w y λz=>br (!z) (K (.bool false)) ((ct l u [.bool c,.i d,.i (adN.wrap (a+1))] [.bool c,.i d,.i a] f)))) ((lp [.bool c,.i (k:Int),.i 0] λm A=>∀g e b h,m [.bool g,.i e,.i b] h->(br (decide (b<e)) (tick (fO q k b 16 λB=>ah B 16 λC=>fO r s b 16 λD=>ah D 16 λE=>ny fe C E λF=>br (!F) (K (.bool false)) ((ct m A [.bool g,.i e,.i (adN.wrap (b+1))] [.bool g,.i e,.i b] h)))) (K (.bool true))) h))) f))
def eE(e:OA)(a i:Nat)(f:OA)(b j:Nat)(g:OA)(c k:Nat)(h:OA)(d l:Nat)(K:VK):WK:=br ((a:Int)!=(b:Int)) (eE.j1 K a e f b c g h d true) (eE.j1 K a e f b c g h d ((c:Int)!=(d:Int)))
def kq(h:OA)(c p:Nat)(j:OA)(f q:Nat)(K:VK):WK:=br ((c:Int)!=(f:Int)) (K (.bool false)) ((lp [.bool false,.i (c:Int),.i 0] λg k=>∀d b a e,g [.bool d,.i b,.i a] e->(br (decide (a<b)) (tick (fO h c a 1 λl=>lI l λm=>fO j f a 1 λn=>lI n λo=>br (m !=o) (K (.bool false)) ((ct g k [.bool d,.i b,.i (adN.wrap (a+1))] [.bool d,.i b,.i a] e)))) (K (.bool true))) e))
def bt.j1(K:VK)(j:Nat)(k o:OA)(l:Nat)(p:OA)(q:Bool):WK:=br q (K (.bool false)) ((lp [.bool false,.i (j:Int),.i 0] λm r=>∀c d a f,m [.bool c,.i d,.i a] f->(br (decide (a<d)) (tick (nn k λs=>lL s λt u J=>fO t u a 14 λv=>ah v 14 λw=>fO o j a 14 λx=>ah x 14 λy=>ny cJ w y λz=>br (!z) (K (.bool false)) ((ct m r [.bool c,.i d,.i (adN.wrap (a+1))] [.bool c,.i d,.i a] f)))) ((lp [.bool c,.i (l:Int),.i 0] λn A=>∀g e b h,n [.bool g,.i e,.i b] h->(br (decide (b<e)) (tick (nn k λB=>lL (B.add 1) λC D M=>fO C D b 33 λE=>ah E 33 λF=>fO p l b 33 λG=>ah G 33 λH=>ny bg F H λI=>br (!I) (K (.bool false)) ((ct n A [.bool g,.i e,.i (adN.wrap (b+1))] [.bool g,.i e,.i b] h)))) (K (.bool true))) h))) f))
def bt.j3(K:VK)(b:Nat)(a c:OA)(d:Nat)(e:OA)(f:Int)(g:Bool):WK:=br g (bt.j1 K b a c d e true) (nn a λh=>lI (h.add 3) λi=>bt.j1 K b a c d e (i !=f))
def bt.j2(K:VK)(b:Nat)(a c:OA)(d:Nat)(e:OA)(f g:Int)(h:Bool):WK:=br h (bt.j3 K b a c d e f true) (nn a λi=>lI (i.add 2) λj=>bt.j3 K b a c d e f (j !=g))
def bt(a d:OA)(b l:Nat)(e:OA)(c m:Nat)(f g:Int)(K:VK):WK:=nn a λh=>lL h λn i o=>br ((i:Int)!=(b:Int)) (bt.j2 K b a d c e g f true) (nn a λj=>lL (j.add 1) λp k q=>bt.j2 K b a d c e g f ((k:Int)!=(c:Int)))
def gH(a k:OA)(m n:Nat)(o:OA)(p q:Nat)(r s:Int)(K:VK):WK:=tick (nn a λb=>lL (b.add 1) λc d e=>nn a λf=>lI (f.add 2) λg=>nn a λh=>lI (h.add 3) λj=>dQ a (xL λt u v=>kp (h.add 3) [.i j] (kp (f.add 2) [.i g] (kp (b.add 1) [.l c d e] (a8 (1=1/\(1=1/\(1=1/\(1=1/\True)))) (mk [.l t u v,.l c d e,.i g,.i j] λw=>kp (h.add 3) [.i j] (kp (f.add 2) [.i g] (kp (b.add 1) [.l c d e] (bt (some (ad w 0)) k m n o p q r s (xB λx=>K (.bool x)))))))))))
def rX(b:OA)(f:LV)(K:VK):WK:=mk f λc=>mk EZ λa=>br (b.isNone) (a8 (1=1/\True) (a8 (4=4) (ga (ad a 0) [.i 2,.l none 0 0,.l none 0 0,.l none 0 0] (ah (ad a 0) 4 λg=>K (.agg ⟨g⟩))))) (ah (ad c 0) 13 λh=>pg h (xB λj=>br (!j) (a8 (1=1/\True) (a8 (4=4) (ga (ad a 0) [.i 1,.l none 0 0,.l none 0 0,.l none 0 0] (ah (ad a 0) 4 λk=>K (.agg ⟨k⟩))))) (mk EZ λd=>lI (ad c 0) λe=>br (e==1) (lL (ad c 1) λm n o=>nP b m n o (xL λp q r=>st (ad d 1) (.l p q r) (iv b (x0 (ah (ad d 0) 4 λs=>aG 4 (ad a 0) s (ah (ad a 0) 4 λt=>K (.agg ⟨t⟩))))))) (br (e==2) (lL (ad c 2) λu v w=>mU b u v w (xL λx y z=>st (ad d 1) (.l x y z) (iv b (x0 (ah (ad d 0) 4 λA=>aG 4 (ad a 0) A (ah (ad a 0) 4 λB=>K (.agg ⟨B⟩))))))) (lI (ad c 3) λC=>pT b C (xI .i64 λF=>iv b (x0 (ah (ad d 0) 4 λD=>aG 4 (ad a 0) D (ah (ad a 0) 4 λE=>K (.agg ⟨E⟩))))))))))
def ff.j1(K:VK)(k:Nat)(a:OA)(m:LI)(b:OA)(c:Int)(d:Addr)(e:OA)(f g:Nat)(h j:Int)(n:LM)(o:World)(q:Bool):WK:=br q (K (.tuple ⟨[.p none,.i 4]⟩)) (ah (ad k 0) 13 λr=>rX a r (xA 4 λs=>(ct m n [.p b,.i c,.p a,.p (some d),.l e f g,.i h,.i (adN.wrap (j+1))] [.p b,.i c,.p a,.p (some d),.l e f g,.i h,.i j] o)))
def ff(a:OA)(K:VK):WK:=br (a.isNone) (K (.tuple ⟨[.p none,.i 2]⟩)) (dk a (xI .i64 λz=>pF z (x2 λA B=>(xA 5 λC=>(xI .i64 λs=>mk zi5 λb=>aG 5 (ad b 0) C (br (s !=0) (K (.tuple ⟨[.p none,.i s]⟩)) (ah (ad b 0) 5 λD=>ss a D (x3 λE F G=>(xP λt=>(xA 4 λH=>(xI .i64 λu=>mk Z8 λk=>aG 4 (ad k 0) H (br (u !=0) (K (.tuple ⟨[.p none,.i u]⟩)) (lI (ad b 3) λI=>lI (ad b 4) λJ=>lI (ad k 3) λM=>gR a I J M (x3 λO P Q=>(xP λR=>(xL λS v T=>(xI .i64 λw=>br (w !=0) (K (.tuple ⟨[.p none,.i w]⟩)) (ah (ad b 0) 5 λx=>lI (ad k 0) λV=>a8 (1=1/\(x.length=5/\(1=1/\(1=1/\(1=1/\True))))) (mk (([.p a]:LV)++(x++([.p t,.p R,.i V,.bool false]:LV))) λW=>(lp [.p none,.i 0,.p t,.p (some (ad W 0)),.l S v T,.i (v:Int),.i 0] λm y=>∀n o q d e f r g c h,m [.p n,.i o,.p q,.p (some d),.l e f r,.i g,.i c] h->(br (decide (c<g)) (fO e f c 1 λX=>lS X λY=>iV Y (x2 λZ v10=>(xA 13 λRw=>(xI .i64 λSv=>mk lF λj=>aG 13 (ad j 0) Rw (br (Sv !=0) (ff.j1 K j q m n o d e f r g c y h true) (ah (ad j 0) 13 λY6=>mP Y6 (xB λb2=>ff.j1 K j q m n o d e f r g c y h (!b2))))) v10) Z)) (K (.tuple ⟨[.p (some d),.i 0]⟩))) h)))) Q) P) O)))) G) F) E)))) B) A)))
def dJ(b:OA)(f:LV)(K:VK):WK:=mk f λc=>mk EZ λa=>br (b.isNone) (a8 (1=1/\True) (a8 (4=4) (ga (ad a 0) [.i 2,.l none 0 0,.l none 0 0,.l none 0 0] (ah (ad a 0) 4 λg=>K (.agg ⟨g⟩))))) (ah (ad c 0) 13 λh=>mP h (xB λj=>br (!j) (tick (nn b λk=>lP (k.add 6) λm=>ah (ad c 0) 13 λn=>EA m n (xA 4 λo=>aG 4 (ad a 0) o (ah (ad a 0) 4 λp=>K (.agg ⟨p⟩))))) (ah (ad c 0) 13 λq=>so q (x2 λr s=>(xS λt=>(xI .i64 λd=>br (d !=0) (a8 (1=1/\True) (a8 (4=4) (ga (ad a 0) [.i d,.l none 0 0,.l none 0 0,.l none 0 0] (ah (ad a 0) 4 λu=>K (.agg ⟨u⟩))))) (nn b λv=>lT (v.add 9) λw=>br w (a8 (1=1/\True) (a8 (4=4) (ga (ad a 0) [.i 9,.l none 0 0,.l none 0 0,.l none 0 0] (ah (ad a 0) 4 λx=>K (.agg ⟨x⟩))))) (fF b t (xI .i64 λe=>br (e !=0) (a8 (1=1/\True) (a8 (4=4) (ga (ad a 0) [.i e,.l none 0 0,.l none 0 0,.l none 0 0] (ah (ad a 0) 4 λy=>K (.agg ⟨y⟩))))) (tick (nn b λz=>lP (z.add 6) λA=>ah (ad c 0) 13 λB=>rX A B (xA 4 λC=>aG 4 (ad a 0) C (ah (ad a 0) 4 λD=>K (.agg ⟨D⟩))))))))) s) r))))
def cA.j1(K:VK)(a:OA)(b:Bool):WK:=br b (jK a (xP λc=>iu c (xI .i64 λd=>br (d==5) (jB a (xI .i64 λe=>K (.bool (e==1)))) (K (.bool false))))) (K (.bool false))
def cA(K:VK):WK:=jR 20 (xP λa=>ff a (x2 λd e=>(xP λf=>(xI .i64 λg=>br (g !=0) (K (.bool false)) (a8 (1=1/\(1=1/\True)) (dJ f [.i 3,.l none 0 0,.l none 0 0,.i 5,.l none 0 0,.u 0,.u 0,.i 0,.i 0,.bool false,.bool false,.bool false,.i 0] (xA 4 λh=>mk EZ λb=>aG 4 (ad b 0) h (ff a (x2 λj k=>(xP λc=>(xI .i64 λm=>lI (ad b 0) λn=>br (n==0) (cA.j1 K c (m==0)) (cA.j1 K c false)) k) j)))))) e) d))
def eQ(n:OA)(g o:Nat)(K:VK):WK:=(lp [.bool false,.i 0,.l n g o,.i (g:Int),.i 0] λm p=>∀h b c d j e a k,m [.bool h,.i b,.l c d j,.i e,.i a] k->(br (decide (a<e)) (fO c d a 18 λq=>ah q 18 λr=>mk jG λf=>aG 18 (ad f 0) r (lL (ad f 2) λv s w=>lL (ad f 3) λx t y=>lL (ad f 5) λz u A=>br (decide ((u:Int)>100)) (K (.bool true)) ((ct m p [.bool h,.i (adN.wrap (b+(adN.wrap ((s:Int)+(t:Int))))),.l c d j,.i e,.i (adN.wrap (a+1))] [.bool h,.i b,.l c d j,.i e,.i a] k)))) (br (decide ((g:Int)>60)) (K (.bool true)) (K (.bool (decide (b>150)))))) k)
def av.j1(K:VK)(a:OA)(b:Bool):WK:=K (.tuple ⟨[.bool b,.p a]⟩)
def av.j2(K:VK)(b:Nat)(a:OA)(c:Bool):WK:=br c (lL (ad b 1) λe d f=>av.j1 K a ((d:Int)==0)) (av.j1 K a false)
def av.j3(K:VK)(a:OA)(b:Bool):WK:=K (.tuple ⟨[.bool b,.p a]⟩)
def av.j4(K:VK)(a:OA)(b:Bool):WK:=K (.tuple ⟨[.bool b,.p a]⟩)
def av.j5(K:VK)(a:Nat)(b:OA)(c:Bool):WK:=br c (lL (ad a 1) λg d h=>lL (ad a 2) λi e j=>lL (ad a 3) λk f l=>K (.tuple ⟨[.bool ((adN.wrap ((adN.wrap ((d:Int)+(e:Int)))+(f:Int)))==0),.p b]⟩)) (K (.tuple ⟨[.bool false,.p b]⟩))
def av.j6(K:VK)(a:Nat)(b:OA)(c:Bool):WK:=br c (av.j5 K a b true) (lI (ad a 0) λd=>br (d==6) (av.j5 K a b true) (lI (ad a 0) λe=>av.j5 K a b (e==3)))
def av(j:LV)(b:OA)(k:LV)(K:VK):WK:=mk j λa=>mk k λc=>ah (ad c 0) 13 λm=>eG m (xB λn=>br (!n) (tick (nn b λd=>lL (d.add 1) λe f g=>ah (ad c 0) 13 λh=>dQ b (xL λo p q=>kp (ad c 0) h (kp (d.add 1) [.l e f g] (jY o p q e f g h (x3 λr s t=>(xL λu v w=>(xL λx y z=>(xI .i64 λA=>lI (ad a 0) λB=>br (B==A) (lL (ad a 2) λC D E=>lL (ad a 3) λF G H=>eE C D E u v w F G H x y z (xB λI=>av.j2 K a b I)) (av.j2 K a b false)) t) s) r)))))) (ah (ad c 0) 13 λJ=>c9 J (xB λM=>br (!M) (lI (ad a 0) λO=>br (O==1) (lL (ad a 1) λsb8 P sc8=>av.j3 K b ((P:Int)==0)) (av.j3 K b false)) (ah (ad c 0) 13 λQ=>eJ b Q (x3 λR S T=>(xL λV W X=>(xI .i64 λY=>(xP λi=>lI (ad a 0) λZ=>br (Z==0) (br (Y==0) (lL (ad a 1) λM8 M5 HC=>kq M8 M5 HC V W X (xB λb8=>av.j4 K i b8)) (av.j4 K i false)) (lI (ad a 0) λn6=>br (n6==8) (av.j6 K a b true) (lI (ad a 0) λn9=>av.j6 K a b (n9==9)))) T) S) R)))))
def cN(b c:OA)(K:VK):WK:=jK b (xP λa=>fP a (xL λd e f=>ir a (xL λg h i=>iu a (xI .i64 λj=>jW a (xI .i64 λk=>gH c d e f g h i j k (xB λl=>K (.bool l)))))))
def bP.j1(K:VK)(B C:Int)(D:OA)(y E:Nat)(F:Bool):WK:=br F (K (.bool true)) (jR B (xP λG=>ff G (x2 λH I=>(xP λJ=>(xI .i64 λn3=>a8 True (mk IW λM=>(lp [.bool false,.p J,.p (some (ad M 0)),.i C,.i 0] λz O=>∀v m n q r w,z [.bool v,.p m,.p n,.i q,.i r] w->(br (decide (r<q)) ((lp [.bool v,.p m,.p n,.i q,.i r,.l D y E,.i (y:Int),.i 0] λs x=>∀c a j d e f g k h b o,s [.bool c,.p a,.p j,.i d,.i e,.l f g k,.i h,.i b] o->(br (decide (b<h)) (fO f g b 18 λP=>ah P 18 λQ=>mk jG λt=>aG 18 (ad t 0) Q (lI (ad t 0) λR=>br (R !=0) ((ct s x [.bool c,.p a,.p j,.i d,.i e,.l f g k,.i h,.i (adN.wrap (b+1))] [.bool c,.p a,.p j,.i d,.i e,.l f g k,.i h,.i b] o)) (ah (ad t 1) 13 λS=>dJ a S (xA 4 λT=>mk EZ λu=>aG 4 (ad u 0) T (ah (ad u 0) 4 λV=>ah (ad t 1) 13 λW=>av V j W (x2 λX Y=>(xB λZ=>(xP λA=>br (!Z) (K (.bool false)) (lI (ad u 0) λT4=>br (T4 !=0) (lI (ad u 0) λSv=>br (Sv !=1) (K (.bool false)) ((ct s x [.bool c,.p a,.p A,.i d,.i e,.l f g k,.i h,.i (adN.wrap (b+1))] [.bool c,.p a,.p j,.i d,.i e,.l f g k,.i h,.i b] o))) ((ct s x [.bool c,.p a,.p A,.i d,.i e,.l f g k,.i h,.i (adN.wrap (b+1))] [.bool c,.p a,.p j,.i d,.i e,.l f g k,.i h,.i b] o)))) Y) X)))))) ((ct z O [.bool c,.p a,.p j,.i d,.i (adN.wrap (e+1))] [.bool v,.p m,.p n,.i q,.i r] w))) o)) (cN m n (xB λb6=>br b6 (cB m (xI .i64 λL4=>br (L4==0) (cN m n (xB λb7=>K (.bool b7))) (K (.bool false)))) (K (.bool false))))) w))) I) H)))
def bP.j3(K:VK)(b a:Int)(c:OA)(d e:Nat)(f:Bool):WK:=br f (bP.j1 K b a c d e true) (br (decide (a<1)) (bP.j1 K b a c d e true) (bP.j1 K b a c d e (decide (a>3))))
def bP.j2(K:VK)(a b:Int)(c:OA)(d e:Nat)(f:Bool):WK:=br f (bP.j3 K a b c d e true) (bP.j3 K a b c d e (decide (a>700)))
def bP(a:Int)(b:OA)(c d:Nat)(e:Int)(K:VK):WK:=cA (xB λf=>br (!f) (K (.bool false)) (eQ b c d (xB λg=>br g (bP.j2 K a e b c d true) (bP.j2 K a e b c d (decide (a<600))))))
def aT.j3(K:VK)(b a:OA)(h:LI)(c:Bool)(d:OA)(e f g:Int)(j:LM)(k:OA)(l:World)(m:Bool):WK:=br m (K (.bool false)) (cN b a (xB λn=>br (!n) (K (.bool false)) ((ct h j [.bool c,.p d,.p b,.p a,.i e,.i f,.i (adN.wrap (g+1))] [.bool c,.p d,.p k,.p a,.i e,.i f,.i g] l))))
def aT.j2(K:VK)(a c:OA)(d:LI)(e:Bool)(f:OA)(g b h:Int)(i:LM)(j:OA)(k:World)(l:Bool):WK:=br l (aT.j3 K a c d e f g b h i j k true) (jB a (xI .i64 λm=>aT.j3 K a c d e f g b h i j k (m !=b)))
def aT.j1(K:VK)(E:Int)(F:OA)(z G:Nat)(H:Int)(I:Bool):WK:=br I (K (.bool true)) (jR E (xP λA=>ff A (x2 λJ M=>(xP λO=>(xI .i64 λn3=>a8 True (mk IW λP=>(lp [.bool false,.p A,.p O,.p (some (ad P 0)),.l F z G,.i (z:Int),.i 0] λu B=>∀c d a e f g j h b o,u [.bool c,.p d,.p a,.p e,.l f g j,.i h,.i b] o->(br (decide (b<h)) (fO f g b 18 λQ=>ah Q 18 λR=>mk jG λk=>aG 18 (ad k 0) R (lI (ad k 0) λS=>br (S==0) (tick (ah (ad k 1) 13 λT=>ah (ad k 1) 13 λC=>dJ a T (xA 4 λV=>kp (ad k 1) C (av V e C (x2 λW X=>(xB λb4=>(xP λY=>(ct u B [.bool c,.p d,.p a,.p Y,.l f g j,.i h,.i (adN.wrap (b+1))] [.bool c,.p d,.p a,.p e,.l f g j,.i h,.i b] o)) X) W))))) ((ct u B [.bool c,.p d,.p a,.p e,.l f g j,.i h,.i (adN.wrap (b+1))] [.bool c,.p d,.p a,.p e,.l f g j,.i h,.i b] o)))) (kv a (xI .i64 λZ=>jB a (xI .i64 λn8=>(lp [.bool c,.p d,.p a,.p e,.i Z,.i n8,.i 1] λv D=>∀w q m r s x n t,v [.bool w,.p q,.p m,.p r,.i s,.i x,.i n] t->(br (decide (n<=H)) (cB m (xI .i64 λSv=>br (Sv !=0) (K (.bool false)) (ff q (x2 λv5 v6=>(xP λy=>(xI .i64 λL4=>br (L4 !=0) (aT.j2 K y r v w q s x n D m t true) (kv y (xI .i64 λV4=>aT.j2 K y r v w q s x n D m t (V4 !=(adN.wrap (s+n)))))) v6) v5)))) (cN m r (xB λb9=>K (.bool b9)))) t))))) o))) M) J)))
def aT.j5(K:VK)(b:Int)(c:OA)(d e:Nat)(a:Int)(f:Bool):WK:=br f (aT.j1 K b c d e a true) (br (decide (a<0)) (aT.j1 K b c d e a true) (aT.j1 K b c d e a (decide (a>5))))
def aT.j4(K:VK)(a:Int)(b:OA)(c d:Nat)(e:Int)(f:Bool):WK:=br f (aT.j5 K a b c d e true) (aT.j5 K a b c d e (decide (a>700)))
def aT(a:Int)(b:OA)(c d:Nat)(e:Int)(K:VK):WK:=cA (xB λf=>br (!f) (K (.bool false)) (eQ b c d (xB λg=>br g (aT.j4 K a b c d e true) (aT.j4 K a b c d e (decide (a<600))))))
def ak.j2(K:VK)(q:Nat)(m:LI)(a:Bool)(b c d:OA)(e:Int)(f:OA)(g h:Nat)(j k:Int)(n:LM)(o:World)(r:Bool):WK:=br r (lI (ad q 0) λs=>br (s !=9) (K (.bool false)) ((ct m n [.bool a,.p b,.p c,.p d,.i e,.l f g h,.i j,.i (adN.wrap (k+1))] [.bool a,.p b,.p c,.p d,.i e,.l f g h,.i j,.i k] o))) ((ct m n [.bool a,.p b,.p c,.p d,.i e,.l f g h,.i j,.i (adN.wrap (k+1))] [.bool a,.p b,.p c,.p d,.i e,.l f g h,.i j,.i k] o))
def ak.j1(K:VK)(M O:Int)(P:OA)(F Q:Nat)(R:OA)(G S:Nat)(T:Bool):WK:=br T (K (.bool true)) (jR M (xP λA=>ff A (x2 λV W=>(xP λX=>(xI .i64 λn3=>a8 True (mk IW λY=>iZ A O (x0 ((lp [.bool false,.p A,.p X,.p (some (ad Y 0)),.l P F Q,.i (F:Int),.i 0] λs B=>∀d b a e f g k h c n,s [.bool d,.p b,.p a,.p e,.l f g k,.i h,.i c] n->(br (decide (c<h)) (fO f g c 18 λZ=>ah Z 18 λcs1=>mk jG λo=>aG 18 (ad o 0) cs1 (lI (ad o 0) λH=>br (H==0) (tick (ah (ad o 1) 13 λOq=>ah (ad o 1) 13 λI=>dJ a Oq (xA 4 λVi=>kp (ad o 1) I (av Vi e I (x2 λv3 v4=>(xB λb4=>(xP λp6=>(ct s B [.bool d,.p b,.p a,.p p6,.l f g k,.i h,.i (adN.wrap (c+1))] [.bool d,.p b,.p a,.p e,.l f g k,.i h,.i c] n)) v4) v3))))) (br (H==1) (cB a (xI .i64 λn7=>(ct s B [.bool d,.p b,.p a,.p e,.l f g k,.i h,.i (adN.wrap (c+1))] [.bool d,.p b,.p a,.p e,.l f g k,.i h,.i c] n))) ((ct s B [.bool d,.p b,.p a,.p e,.l f g k,.i h,.i (adN.wrap (c+1))] [.bool d,.p b,.p a,.p e,.l f g k,.i h,.i c] n))))) (fL a (xB λb5=>br (!b5) (K (.bool true)) (iY b (xI .i64 λn8=>(lp [.bool d,.p b,.p a,.p e,.i n8,.l R G S,.i (G:Int),.i 0] λC J=>∀D t m q u v w E x r y,C [.bool D,.p t,.p m,.p q,.i u,.l v w E,.i x,.i r] y->(br (decide (r<x)) (fO v w r 13 λa2=>ah a2 13 λRw=>mk lF λj=>aG 13 (ad j 0) Rw (lL (ad j 1) λsb5 Zr Zs=>lL (ad j 2) λZt WO VT=>lL (ad j 4) λsb7 Zq sc7=>br (decide ((adN.wrap ((adN.wrap ((Zr:Int)+(WO:Int)))+(Zq:Int)))>100)) (K (.bool true)) (ah (ad j 0) 13 λY7=>dJ m Y7 (xA 4 λcs7=>mk EZ λz=>aG 4 (ad z 0) cs7 (ah (ad z 0) 4 λY6=>ah (ad j 0) 13 λcs9=>av Y6 q cs9 (x2 λv5 v6=>(xB λb7=>(xP λp10=>br (!b7) (K (.bool false)) (ah (ad j 0) 13 λacT=>eG acT (xB λb8=>br b8 (ah (ad j 0) 13 λacS=>c9 acS (xB λb10=>ak.j2 K z C D t m q u v w E x r J y b10)) (ak.j2 K z C D t m q u v w E x r J y false)))) v6) v5)))))) (cB m (xI .i64 λL4=>br (L4==9) (iY t (xI .i64 λV5=>br (V5==u) (cN m q (xB λb11=>K (.bool b11))) (K (.bool false)))) (K (.bool false))))) y)))))) n))))) W) V)))
def ak.j5(K:VK)(b a:Int)(c:OA)(d e:Nat)(f:OA)(g h:Nat)(i:Bool):WK:=br i (ak.j1 K b a c d e f g h true) (br (decide (a<1)) (ak.j1 K b a c d e f g h true) (ak.j1 K b a c d e f g h (decide (a>1000))))
def ak.j4(K:VK)(b c:Int)(d:OA)(e f:Nat)(g:OA)(a h:Nat)(i:Bool):WK:=br i (ak.j5 K b c d e f g a h true) (ak.j5 K b c d e f g a h (decide ((a:Int)>20)))
def ak.j3(K:VK)(a b:Int)(c:OA)(d e:Nat)(f:OA)(g h:Nat)(i:Bool):WK:=br i (ak.j4 K a b c d e f g h true) (ak.j4 K a b c d e f g h (decide (a>700)))
def ak(a:Int)(b:OA)(c d:Nat)(e:Int)(f:OA)(g h:Nat)(K:VK):WK:=cA (xB λi=>br (!i) (K (.bool false)) (eQ b c d (xB λj=>br j (ak.j3 K a e b c d f g h true) (ak.j3 K a e b c d f g h (decide (a<12))))))
def aj.j4(K:VK)(j:LI)(a:Bool)(b k h c:OA)(d e:Nat)(f g:Int)(m:LM)(n o q:OA)(r:World)(s:Nat)(t:OA)(u:Bool):WK:=br u ((ct j m [.bool a,.p b,.p k,.p h,.p h,.l c d e,.i f,.i (adN.wrap (g+1))] [.bool a,.p b,.p n,.p o,.p q,.l c d e,.i f,.i g] r)) (lI (ad s 0) λv=>br (v==2) ((ct j m [.bool a,.p b,.p k,.p h,.p h,.l c d e,.i f,.i (adN.wrap (g+1))] [.bool a,.p b,.p n,.p o,.p q,.l c d e,.i f,.i g] r)) ((ct j m [.bool a,.p b,.p k,.p h,.p t,.l c d e,.i f,.i (adN.wrap (g+1))] [.bool a,.p b,.p n,.p o,.p q,.l c d e,.i f,.i g] r)))
def aj.j3(K:VK)(a:OA)(b:LI)(c:Bool)(d e f:OA)(g h:Nat)(i j:Int)(k:LM)(l m n:OA)(o:World)(p:Nat)(q:OA)(r:Bool):WK:=br r (fL a (xB λs=>aj.j4 K b c d a e f g h i j k l m n o p q (!s))) (aj.j4 K b c d a e f g h i j k l m n o p q false)
def aj.j2(K:VK)(a:Nat)(d:LI)(e:Bool)(f g:OA)(h i:Nat)(j k:Int)(l:LM)(m n o:OA)(p:World)(b c q:OA):WK:=cN b c (xB λr=>br (!r) (K (.bool false)) (lI (ad a 0) λs=>br (s==0) (ah (ad a 1) 13 λt=>eG t (xB λu=>aj.j3 K b d e f c g h i j k l m n o p a q u)) (aj.j3 K b d e f c g h i j k l m n o p a q false)))
def aj.j5(K:VK)(p b:Nat)(c:OA)(e:LI)(f:Bool)(g h:OA)(i j:Nat)(k l:Int)(m:LM)(a d:OA)(n:World)(o:OA)(q:Bool):WK:=br q (K (.bool false)) (lI (ad p 0) λr=>br (r==8) (ah (ad b 1) 13 λs=>eJ c s (x3 λt u v=>(xL λx y z=>(xI .i64 λA=>(xP λw=>aj.j2 K b e f g h i j k l m a c d n a o w) v) u) t)) (aj.j2 K b e f g h i j k l m a c d n a o d))
def aj.j7(K:VK)(a:OA)(d:Int)(p:Bool)(e:Nat)(f:LI)(g:Bool)(h i:OA)(j k:Nat)(l m:Int)(n:LM)(b c:OA)(o:World)(q:Bool):WK:=br q (K (.bool false)) (fL a (xB λr=>br r (br (!((d==8)==(!p))) (K (.bool false)) (aj.j2 K e f g h i j k l m n a b c o a b c)) (br (!((d==8)==false)) (K (.bool false)) (aj.j2 K e f g h i j k l m n a b c o a b c))))
def aj.j6(K:VK)(b:OA)(a:Int)(c:Bool)(d:Nat)(e:LI)(f:Bool)(g h:OA)(i j:Nat)(k l:Int)(m:LM)(n o:OA)(p:World)(q:Bool):WK:=br q (aj.j7 K b a c d e f g h i j k l m n o p true) (br (a !=0) (br (a !=9) (br (a !=3) (aj.j7 K b a c d e f g h i j k l m n o p (a !=8)) (aj.j7 K b a c d e f g h i j k l m n o p false)) (aj.j7 K b a c d e f g h i j k l m n o p false)) (aj.j7 K b a c d e f g h i j k l m n o p false))
def aj.j1(K:VK)(A:Int)(B:OA)(x C:Nat)(D:Bool):WK:=br D (K (.bool true)) (jR A (xP λy=>ff y (x2 λE F=>(xP λG=>(xI .i64 λH=>br (H !=0) (K (.bool false)) (a8 True (mk IW λz=>(lp [.bool false,.p y,.p G,.p (some (ad z 0)),.p (some (ad z 0)),.l B x C,.i (x:Int),.i 0] λm q=>∀n e a c d g h o j f k,m [.bool n,.p e,.p a,.p c,.p d,.l g h o,.i j,.i f] k->(br (decide (f<j)) (fO g h f 18 λI=>ah I 18 λJ=>mk jG λb=>aG 18 (ad b 0) J (lI (ad b 0) λs=>br (s==0) (ah (ad b 1) 13 λM=>dJ a M (xA 4 λO=>mk EZ λr=>aG 4 (ad r 0) O (ah (ad r 0) 4 λP=>ah (ad b 1) 13 λQ=>av P c Q (x2 λR S=>(xB λT=>(xP λt=>br (!T) (aj.j5 K r b c m n e g h o j f q a d k t true) (fL a (xB λV=>br V (lI (ad r 0) λW=>br (W==0) (ah (ad b 1) 13 λX=>eG X (xB λY=>aj.j5 K r b c m n e g h o j f q a d k t Y)) (aj.j5 K r b c m n e g h o j f q a d k t false)) (aj.j5 K r b c m n e g h o j f q a d k t false)))) S) R)))) (br (s==1) (kv a (xI .i64 λZ=>fL a (xB λv=>cB a (xI .i64 λu=>br (!((u==9)==v)) (aj.j6 K a u v b m n e g h o j f q c d k true) (kv a (xI .i64 λL4=>aj.j6 K a u v b m n e g h o j f q c d k (!((u==0)==(L4==(adN.wrap (Z+1))))))))))) (br (s==2) (lU (ad b 14) λV5=>lI (ad b 15) λV4=>lI (ad b 16) λuF=>qk e V5 V4 uF (x0 (ff e (x2 λv8 v9=>(xP λw=>(xI .i64 λn17=>br (n17 !=0) (K (.bool false)) (cN w d (xB λb17=>br b17 (aj.j2 K b m n e g h o j f q a c d k w d d) (aj.j2 K b m n e g h o j f q a c d k w c c)))) v9) v8)))) (br (s==3) (lI (ad b 17) λn18=>iZ e n18 (x0 (aj.j2 K b m n e g h o j f q a c d k a c d))) (aj.j2 K b m n e g h o j f q a c d k a c d)))))) (K (.bool true))) k)))) F) E)))
def aj(a:Int)(b:OA)(c d:Nat)(K:VK):WK:=cA (xB λe=>br (!e) (K (.bool false)) (eQ b c d (xB λf=>br f (aj.j1 K a b c d true) (br (decide (a<12)) (aj.j1 K a b c d true) (aj.j1 K a b c d (decide (a>700)))))))
end Go.Prog
namespace Go.Up
open Go.Sep Go.Den Go.RowKit Go.Prog Go.Md Go.bu
structure ic where
 op:Int
 ag:List aP
 aQ:List Move
 now:Int
 ids:List Nat
 tq:Nat
 fE:Int
 rv:Int
 rW:Bool
 pz:Bool
 mM:Bool
 hI:Int
structure rC where
 sa:OA
 ca:Nat
 st:OA
 ct:Nat
 si:OA
 ci:Nat
def lZ(q:ic):LV:=nm q.tq++[.i q.fE,.i q.rv,.bool q.rW,.bool q.pz,.bool q.mM,.i q.hI]
def dF(q:ic)(s:rC):LV:=[.i q.op,.l s.sa q.ag.length s.ca,.l s.st q.aQ.length s.ct,.i q.now,.l s.si q.ids.length s.ci]++lZ q
def Nd(q:ic)(s:rC):(dF q s).length=13:=rfl
instance{q:ic}{s:rC}:Ln (dF q s) 13:=⟨rfl⟩
instance{q:ic}:Ln (lZ q) 8:=⟨rfl⟩
instance{q:ic}{s:rC}:Gt (dF q s) 0 (.i q.op):=⟨rfl⟩
instance{q:ic}{s:rC}:Gt (dF q s) 1 (.l s.sa q.ag.length s.ca):=⟨rfl⟩
instance{q:ic}{s:rC}:Gt (dF q s) 2 (.l s.st q.aQ.length s.ct):=⟨rfl⟩
instance{q:ic}{s:rC}:Gt (dF q s) 3 (.i q.now):=⟨rfl⟩
instance{q:ic}{s:rC}:Gt (dF q s) 4 (.l s.si q.ids.length s.ci):=⟨rfl⟩
instance{q:ic}:Gt (lZ q) 2 (.i q.fE):=⟨rfl⟩
instance{q:ic}:Gt (lZ q) 3 (.i q.rv):=⟨rfl⟩
instance{q:ic}:Gt (lZ q) 4 (.bool q.rW):=⟨rfl⟩
instance{q:ic}:Gt (lZ q) 5 (.bool q.pz):=⟨rfl⟩
instance{q:ic}:Gt (lZ q) 6 (.bool q.mM):=⟨rfl⟩
instance{q:ic}:Gt (lZ q) 7 (.i q.hI):=⟨rfl⟩
instance{L:LH}{X:WK}{r o:Nat}{q:ic}{s:rC}{cs:LV}{f:LV->LH}[i:Lc (Sep.pt r) L cs f][s2:Sub cs o 13 (dF q s)]:Wk L (kp ⟨r,o,none⟩ (dF q s) X) L X:=⟨λ_ h=>Kl (n:=13) h⟩
def tR(q:ic)(s:rC):∀v∈dF q s,v.oneCell'=true:=λv h=>by
 simp[dF,lZ,nm] at h;rcases h with rfl|rfl|rfl|rfl|rfl|rfl|rfl|rfl|rfl|rfl|rfl|rfl|rfl<;>rfl
instance{q:ic}{s:rC}:Sub (dF q s) 0 13 (dF q s):=⟨rfl,λj v h=>by rw[adU];exact h⟩
instance{q:ic}{s:rC}:Sub (dF q s) 5 8 (lZ q):=⟨rfl,λj v h=>by
 show([_,_,_,_,_]++lZ q)[5+j]?=some v
 rw[aeo (by simp)];simpa using h⟩
instance{x1 x2 x3 x4 x5 x6 x7 x8 x9 zC zB zz zy:Value}{q:ic}{s:rC}:Wr [x1,x2,x3,x4,x5,x6,x7,x8,x9,zC,zB,zz,zy] 0 (dF q s) (dF q s):=⟨rfl,adW _,tR q s⟩
def nA.mono{α:Type}{W:World}{R R':LH}{g:α->LV}{e:Nat}{s:OA}{l:List α}[h:Has R R'](hr:nA W R g e s l):nA W R' g e s l:=λw hw=>hr w (h.sub hw)
structure kS(W:World)(R:LH)(q:ic)(s:rC):Prop where
 ag:nA W R ao 14 s.sa q.ag
 aQ:nA W R ai 16 s.st q.aQ
 ids:nA W R nm 2 s.si q.ids
 ca:q.ag.length<=s.ca
 ct:q.aQ.length<=s.ct
 ci:q.ids.length<=s.ci
def nW(e:Int)(rb:OA)(rn rc:Nat)(ab:OA)(an ac:Nat)(tb:OA)(tn tc:Nat):LV:=[.i e,.l rb rn rc,.l ab an ac,.l tb tn tc]
instance{e:Int}{rb ab tb:OA}{rn rc an ac tn tc:Nat}:Ln (nW e rb rn rc ab an ac tb tn tc) 4:=⟨rfl⟩
instance{e:Int}{rb ab tb:OA}{rn rc an ac tn tc:Nat}:Gt (nW e rb rn rc ab an ac tb tn tc) 0 (.i e):=⟨rfl⟩
instance{e:Int}{rb ab tb:OA}{rn rc an ac tn tc:Nat}:Gt (nW e rb rn rc ab an ac tb tn tc) 1 (.l rb rn rc):=⟨rfl⟩
instance{e:Int}{rb ab tb:OA}{rn rc an ac tn tc:Nat}:Gt (nW e rb rn rc ab an ac tb tn tc) 2 (.l ab an ac):=⟨rfl⟩
instance{e:Int}{rb ab tb:OA}{rn rc an ac tn tc:Nat}:Gt (nW e rb rn rc ab an ac tb tn tc) 3 (.l tb tn tc):=⟨rfl⟩
def Fw{e:Int}{rb:OA}{rn rc:Nat}{ab:OA}{an ac:Nat}{tb:OA}{tn tc:Nat}:∀v∈nW e rb rn rc ab an ac tb tn tc,v.oneCell'=true:=λv h=>by
 simp[nW] at h;rcases h with rfl|rfl|rfl|rfl<;>rfl
instance{x1 x2 x3 x4:Value}{e:Int}{rb:OA}{rn rc:Nat}{ab:OA}{an ac:Nat}{tb:OA}{tn tc:Nat}:Wr [x1,x2,x3,x4] 0 (nW e rb rn rc ab an ac tb tn tc) (nW e rb rn rc ab an ac tb tn tc):=⟨rfl,adW _,Fw⟩
instance{x1 x2 x3 x4:Value}{e:Int}{rb:OA}{rn rc:Nat}{ab:OA}{an ac:Nat}{tb:OA}{tn tc:Nat}:Wr [x1,x2,x3,x4] 0 [.i e,.l rb rn rc,.l ab an ac,.l tb tn tc] (nW e rb rn rc ab an ac tb tn tc):=⟨rfl,adW _,Fw⟩
instance{e:Int}{rb:OA}{rn rc:Nat}{ab:OA}{an ac:Nat}{tb:OA}{tn tc:Nat}:Sub (nW e rb rn rc ab an ac tb tn tc) 0 4 (nW e rb rn rc ab an ac tb tn tc):=⟨rfl,λj v h=>by rw[adU];exact h⟩
instance{e:Int}{rb:OA}{rn rc:Nat}{ab:OA}{an ac:Nat}{tb:OA}{tn tc:Nat}:Sub [.i e,.l rb rn rc,.l ab an ac,.l tb tn tc] 0 4 (nW e rb rn rc ab an ac tb tn tc):=⟨rfl,λj v h=>by rw[adU];exact h⟩
def jv(q:ic):Bool:=
 if q.op=1 then decide (1<=q.ag.length)&&decide (q.ag.length<=8) else if q.op=2 then decide (1<=q.aQ.length)&&decide (q.aQ.length<=8) else if q.op=3 then decide (0<=q.now)&&decide (q.now<=1099511627776) else false
def db(q:ic):Bool:=decide (q.op=1\/q.op=2\/q.op=3)
def bo(m:Model):ax:=⟨m.made.map (Md.full m.kept),m.kept,m.clock,m.ae⟩
def oQ(m:Model):l7 (bo m) m:=⟨rfl,rfl,rfl,rfl⟩
def DR{b:ax}{m:Model}(h:l7 b m):b=bo m:=by
 obtain⟨h1,h2,h3,h4⟩:=h;cases b
 simp only at h1 h2 h3 h4;subst h1 h2 h3 h4;rfl
def aJ(m:Model)(q:ic):Int×List Int×Model:=
 if jv q=false then(1,[],m)
 else if q.op=1 then(0,eL Model.make wL q.ag.length m q.ag)
 else if q.op=2 then(0,eL Model.nZ wK q.aQ.length m q.aQ)
 else(0,[],m.time q.now)
def M6{m:Model}(hg:Md.Ground m)(l:List aP)(n:Nat):(eL ax.make wL n (bo m) l).1=(eL Model.make wL n m l).1/\(eL ax.make wL n (bo m) l).2=bo (eL Model.make wL n m l).2/\Md.Ground (eL Model.make wL n m l).2:=by
 obtain⟨h1,h2⟩:=wq (f:=ax.make) (g:=Model.make) (R:=λ(b:ax)(m:Model)=>l7 b m/\Md.Ground m) wL (λs t x h=>h.1.make h.2) n l (bo m) m ⟨oQ m,hg⟩;exact⟨h1,DR h2.1,h2.2⟩
def P6{m:Model}(hg:Md.Ground m)(l:List Move)(n:Nat):(eL ax.nZ wK n (bo m) l).1=(eL Model.nZ wK n m l).1/\(eL ax.nZ wK n (bo m) l).2=bo (eL Model.nZ wK n m l).2/\Md.Ground (eL Model.nZ wK n m l).2:=by
 obtain⟨h1,h2⟩:=wq (f:=ax.nZ) (g:=Model.nZ) (R:=λ(b:ax)(m:Model)=>l7 b m/\Md.Ground m) wK (λs t x h=>h.1.nZ h.2) n l (bo m) m ⟨oQ m,hg⟩;exact⟨h1,DR h2.1,h2.2⟩
section
variable {W:World} {L R:LH} {K:VK} {X:WK} {p:Nat} {q:ic} {s:rC}
def T.TT{A B C D:HP}(h:T W (D::A::B::C::R) X):T W (A::B::C::D::R) X:=T.perm h (adY (l₁:=[A,B,C]) (l₂:=[D])|>.append_right R)
def JZ(h:T W L (K (.bool (jv q)))):T W L (pg (dF q s) K):=by
 unfold pg;apply ws;intros;refine bB (λg1=>?_) (λg1=>?_)
 ·have g1:q.op=1:=by simpa using g1
  unfold jv at h;rw[if_pos g1] at h;apply ws;intros;refine dO (λg2=>?_) (λg2=>?_)
  ·rw[decide_eq_true (by omega),aeS] at h;apply ws;intros;refine T.fin (T.dp h) ?_;congr 1;rw[decide_eq_decide];omega
  ·rw[decide_eq_false (by omega),ae1] at h;exact T.dp h
 have g1: ¬q.op=1:=by simpa using g1
 refine bB (λg2=>?_) (λg2=>?_)
 ·have g2:q.op=2:=by simpa using g2
  unfold jv at h;rw[if_neg g1,if_pos g2] at h;apply ws;intros;refine dO (λg2=>?_) (λg2=>?_)
  ·rw[decide_eq_true (by omega),aeS] at h;apply ws;intros;refine T.fin (T.dp h) ?_;congr 1;rw[decide_eq_decide];omega
  ·rw[decide_eq_false (by omega),ae1] at h;exact T.dp h
 have g2: ¬q.op=2:=by simpa using g2
 unfold jv at h;rw[if_neg g1,if_neg g2] at h;refine bB (λg3=>?_) (λg3=>?_)
 ·have g3:q.op=3:=by simpa using g3
  rw[if_pos g3] at h;apply ws;intros;refine dO (λg2=>?_) (λg2=>?_)
  ·rw[decide_eq_true (by omega),aeS] at h;apply ws;intros;exact T.dp h
  ·rw[decide_eq_false (by omega),ae1] at h;exact T.dp h
 have g3: ¬q.op=3:=by simpa using g3
 rw[if_neg g3] at h;exact T.dp h
def yj(h:T W L (K (.bool (db q)))):T W L (mP (dF q s) K):=by
 unfold mP;unfold db at h;apply ws;intros;refine bB (λg1=>?_) (λg1=>?_)
 ·have g1:q.op=1:=by simpa using g1
  rw[decide_eq_true (.inl g1)] at h;exact T.dp h
 have g1: ¬q.op=1:=by simpa using g1
 apply ws;intros;refine bB (λg2=>?_) (λg2=>?_)
 ·have g2:q.op=2:=by simpa using g2
  rw[decide_eq_true (.inr (.inl g2))] at h;exact T.dp h
 have g2: ¬q.op=2:=by simpa using g2
 apply ws;intros;refine T.fin (T.dp h) ?_
 congr 1
 rw[aed];simp[g1,g2]
def Az{b:ax}{hs:List C}{f:ax×List C->LH}[i:Lc (bj p) L (b,hs) f](hl:hs.length<1000000)(h:T W (f (b,[])) (K (.tuple ⟨[]⟩))):T W L (iv (some ⟨p,0,none⟩) K):=λw hw=>by
 obtain⟨k,hk,e1⟩:=i.at_;have h1:=hw.focus hk;obtain⟨hg,h2⟩:=h1.and;refine(show T W (cP p (cY b,hs)::L.eraseIdx k) _ from ?_) w h2;unfold iv;apply ws;intros;refine R6 (p:=p) hl ?_;apply ws;intros;intro w2 Xh;refine h w2 ?_;rw[e1];exact St.nE (A:=bj p (b,hs)) (St.and_intro hg Xh) hk
def GA(G:px W){m:Model}(hg:Md.Ground m)(hq:kS W R q s)(hA:q.op=1->∀a∈q.ag,uu a)(hT:q.op=2->∀t∈q.aQ,Zl t)
 (h:∀rb rc,Md.Ground (aJ m q).2.2->T W (bj p (bo (aJ m q).2.2,[])::own rb (aJ m q).2.1.length rc 1 ((aJ m q).2.1.flatMap I1)::R) (K (.agg ⟨nW (aJ m q).1 rb (aJ m q).2.1.length rc none 0 0 none 0 0⟩))):
 T W (bj p (bo m,[])::R) (rX (some ⟨p,0,none⟩) (dF q s) K):=by
 unfold rX
 repeat' first|apply ws;intros|apply wb|with_reducible refine JZ ?_|fail
 cases ge:jv q with
 |false=>
  have e:aJ m q=(1,[],m):=by unfold aJ;rw[if_pos ge]
  rw[e] at h;apply ws;intros;refine T.drop (T.drop ?_);refine eW (e:=1) ?_;exact T.perm (h none 0 hg) (aeh.swap _ _ _)
 |true=>
  apply ws;intros;refine bB (λg1=>?_) (λg1=>?_)
  ·have g1:q.op=1:=by simpa using g1
   have e:aJ m q=(0,eL Model.make wL q.ag.length m q.ag):=by unfold aJ;rw[if_neg (by rw[ge];decide),if_pos g1]
   rw[e] at h;dsimp only at h;have hlen:1<=q.ag.length/\q.ag.length<=8:=by
    unfold jv at ge;rw[if_pos g1] at ge;simpa using ge
   obtain⟨s1,s2,s3⟩:=M6 hg q.ag q.ag.length;apply ws;intros;refine T.TT ?_;refine TR G (hs:=[]) (R:=_::_::_::R) hq.ag.mono hq.ca (hA g1) ⟨m,oQ m,hg⟩ (by omega) (by show 0+_<_;omega) λr cT Hh his XC=>?_;rw[s1,s2];rw[s1] at XC;apply ws;intros;refine Az (p:=p) (by have:cT.length<=0+_:=Hh;omega) ?_;apply ws;intros;have:=h (some ⟨r,0,none⟩) q.ag.length s3;rw[XC] at this;refine T.sub this ?_;exact mZ
  have g1: ¬q.op=1:=by simpa using g1
  refine bB (λg2=>?_) (λg2=>?_)
  ·have g2:q.op=2:=by simpa using g2
   have e:aJ m q=(0,eL Model.nZ wK q.aQ.length m q.aQ):=by unfold aJ;rw[if_neg (by rw[ge];decide),if_neg g1,if_pos g2]
   rw[e] at h;dsimp only at h;have hlen:1<=q.aQ.length/\q.aQ.length<=8:=by
    unfold jv at ge;rw[if_neg g1,if_pos g2] at ge;simpa using ge
   obtain⟨s1,s2,s3⟩:=P6 hg q.aQ q.aQ.length;apply ws;intros;refine T.TT ?_;refine TQ G (hs:=[]) (R:=_::_::_::R) hq.aQ.mono hq.ct (hT g2) ⟨m,oQ m,hg⟩ (by omega) (by show 0+_<_;omega) λr cT Hh his XC=>?_;rw[s1,s2];rw[s1] at XC;apply ws;intros;refine Az (p:=p) (by have:cT.length<=0+_:=Hh;omega) ?_;apply ws;intros;have:=h (some ⟨r,0,none⟩) q.aQ.length s3;rw[XC] at this;refine T.sub this ?_;exact mZ
  ·have g2: ¬q.op=2:=by simpa using g2
   have g3:q.op=3/\0<=q.now/\q.now<=1099511627776:=by
    unfold jv at ge;rw[if_neg g1,if_neg g2] at ge;by_cases g3:q.op=3
    ·rw[if_pos g3] at ge;exact⟨g3,by simpa using ge⟩
    ·rw[if_neg g3] at ge;cases ge
   have e:aJ m q=(0,[],m.time q.now):=by unfold aJ;rw[if_neg (by rw[ge];decide),if_neg g1,if_neg g2]
   rw[e] at h;dsimp only at h;apply ws;intros;refine T.TT ?_;intro w hw;refine⟨W,_::_::_::R,p,bo m,m,[],rfl,hw,oQ m,hg,by simp,λn b' cT w' uV Hl XH Ue=>?_⟩;have hb:=DR uV;subst hb;refine T.at ?_ Ue;apply ws;intros;refine Az (p:=p) (by omega) ?_;apply ws;intros;have:=h none 0 Hl;refine eW (e:=1) (T.HF ?_);refine T.sub this ?_
   repeat (first|exact ad5.refl _|apply ad5.cons_cons|apply ad5.cons)
end
def sK(b:ax)(p:km):Kept:=(b.kept[p.2.toNat]?).getD zK
def Vo(b:ax)(from_ to:Int)(sJ:Bool):List Kept:=
 (if sJ then(mE from_ to (cL 0 b.kept)).reverse else mE from_ to (cL 0 b.kept)).map (sK b)
def AH{from_ to:Int}{l:List km}{x:km}(h:x∈mE from_ to l):x∈l:=List.mem_of_mem_drop (List.mem_of_mem_take h)
def B9{l:List Kept}{x:km}(h:x∈cL 0 l):∃(j:Nat)(k:Kept),l[j]?=some k/\x=(k.move.ae,(j:Int)):=by
 obtain⟨j,hj⟩:=ae' h;rw[iO] at hj;cases hl:l[j]? with
 |none=>rw[hl] at hj;cases hj
 |some k=>rw[hl] at hj;simp at hj;exact⟨j,k,hl,hj.symm⟩
def fB(k:Kept):(aI k).length=33:=rfl
section
variable {W:World} {L R:LH} {K:VK} {X:WK} {p:Nat} {b:ax} {hs:List C} {f:ax×List C->LH}
def L2[i:Lc (bj p) L (b,hs) f]{from_ to:Int}{sJ:Bool}(h:∀b' c' out,out=Vo b from_ to sJ->T W (own b' out.length c' 33 (out.flatMap aI)::L) (K (.l b' out.length c'))):
 T W L (ko (some ⟨p,0,none⟩) from_ to sJ K):=by
 have hL:f (b,hs)=L:=i.same;refine Hb (p:=p) λla lk ti tn vs bx R hg hc lY=>?_;have many:=hg.many;unfold ko;refine tM ?_;refine zk ?_;simp only[dW,adU];refine LD (p:=p) hg.tQ (by show(cL 0 b.kept).length<_;rw[iN];omega) λb' c' out ho=>?_;have ml:∀x∈out,∃(j:Nat)(k:Kept),b.kept[j]?=some k/\x=(k.move.ae,(j:Int)):=λx hx=>B9 (by
  rw[ho] at hx
  split at hx
  ·exact AH (List.mem_reverse.1 hx)
  ·exact AH hx)
 have tA:out.length<=96:=by
  have h1:∀x:List km,x=mE from_ to (cL 0 b.kept)->x.length<=96:=λx hx=>by
   rw[hx];unfold mE;rw[adV,ad2,iN];omega
  rw[ho];split
  ·rw[aeM];exact h1 _ rfl
  ·exact h1 _ rfl
 have aaV:out.map (sK b)=Vo b from_ to sJ:=by rw[ho];rfl
 clear ho;refine tI ?_;refine eW (e:=33) ?_;intro w jF;refine⟨λvv w=>∃(i:Nat)(bo:OA)(cc:Nat)(done:List Kept),i<=out.length/\done=(out.take i).map (sK b)/\vv=[.l none 0 0,.l bo done.length cc,.l b' out.length c',.i (out.length:Int),.i (i:Int)]/\
  St W w (own bo done.length cc 33 (done.flatMap aI)::own b' out.length c' 2 (out.flatMap lu)::dM p (dA la lk ti tn vs (cY b))::od ao 14 la (p,(cY b).ag)::od aI 33 lk (p,(cY b).kept)::ln ti (cY b).lO::ln tn (cY b).ef::rA bx::R),
  λvs _=>match vs with|[_,_,_,_,.int _ d]=>out.length-d.toNat|_=>0,⟨0,none,0,[],ad0 _,by simp,rfl,jF⟩,?_⟩
 rintro sm qB sw bo pn cc yD xy xD n3 n4 w2 ⟨i,b0,c0,done,hi,im,e,fj⟩;cases e
 refine T.at ?_ fj;have e5:=l9 i;have wU:done.length=i:=by rw[im,aeg,adV];omega
 refine dO (λg1=>?_) (λg1=>?_)
 ·have aZ:i<out.length:=by omega
  have gx:=adQ aZ;have gm:=aee aZ;generalize out[i]=x at gx gm;obtain⟨j,k,hk,rfl⟩:=ml x gm;have hka:sK b (k.move.ae,(j:Int))=k:=by unfold sK;dsimp only;rw[adR,hk];rfl
  have tj:(done++[k])=(out.take (i+1)).map (sK b):=by rw[ad',gx,aen,<-im];simp[hka]
  refine bR (b:=b') ⟨by omega,by omega⟩ λrb hb=>?_;subst hb;rw[adR];refine dy kz gx ?_
  repeat' first|apply ws;intros|apply wb
  ·refine O9 (l:=lk) (x:=k) hk (by show b.kept.length<_;omega) ?_;apply ws;intros;refine gY (b:=bo) (x:=k) rfl rfl rfl (by omega) (by omega) (ji _) λb2 c2=>?_;rw[e5];refine T.drop (T.drop (T.drop ?_));exact λw3 h3=>⟨⟨i+1,b2,c2,done++[k],aZ,tj,by simp,by simpa using h3⟩,by show out.length-((i+1:Nat):Int).toNat<out.length-(i:Int).toNat;omega⟩
  ·refine O9 (l:=lk) (x:=k) hk (by show b.kept.length<_;omega) ?_;apply ws;intros;refine gY (b:=bo) (x:=k) rfl rfl rfl (by omega) (by omega) (ji _) λb2 c2=>?_;rw[e5];refine T.drop (T.drop (T.drop ?_));exact λw3 h3=>⟨⟨i+1,b2,c2,done++[k],aZ,tj,by simp,by simpa using h3⟩,by show out.length-((i+1:Nat):Int).toNat<out.length-(i:Int).toNat;omega⟩
 ·have gj:i=out.length:=by omega
  subst gj;rw[ad3] at im;have:=lY [_] b hs vs bx _ hg hc (by rw[hL];exact h bo cc done (im.trans aaV));refine T.sub this ?_;exact mZ
def Vv[i:Lc (bj p) L (b,hs) f][hh:Has R L]{s:OA}{c:Nat}{ids:List Nat}(hr:nA W R nm 2 s ids)(hl:ids.length<=1000)
 (h:∀b' c' out,out=ids.filterMap b.find->T W (own b' out.length c' 14 (out.flatMap ao)::L) (K (.l b' out.length c'))):T W L (pL (some ⟨p,0,none⟩) s ids.length c K):=by
 unfold pL;refine eW (e:=14) ?_;intro w jF;refine⟨λvv w=>∃(i:Nat)(bo:OA)(cc:Nat)(done:List aP),i<=ids.length/\done=(ids.take i).filterMap b.find/\done.length<=i/\vv=[.l none 0 0,.l bo done.length cc,.l s ids.length c,.i (ids.length:Int),.i (i:Int)]/\
  St W w (own bo done.length cc 14 (done.flatMap ao)::L),
  λvs _=>match vs with|[_,_,_,_,.int _ d]=>ids.length-d.toNat|_=>0,⟨0,none,0,[],ad0 _,by simp,adW _,rfl,jF⟩,?_⟩
 rintro sm qB sw bo pn cc yD xy xD n3 n4 w2 ⟨i,b0,c0,done,hi,im,wU,e,fj⟩;cases e
 refine T.at ?_ fj;have e5:=l9 i;refine dO (λg1=>?_) (λg1=>?_)
 ·have aZ:i<ids.length:=by omega
  have gx:=adQ aZ;generalize ids[i]=x at gx;have dZ:(ids.take (i+1)).filterMap b.find=done++(b.find x).toList:=by
   rw[ad',gx,List.filterMap_append,<-im]
   congr 1
  refine jy hr ⟨by omega,by omega⟩ rfl λa ha=>?_;rw[adR];refine jx hr ha gx rfl ?_
  repeat' first|apply ws;intros|apply wb|with_reducible refine sh (p:=p) ?_|fail
  rw[e5];cases hf:b.find x with
  |none=>
   rw[hf] at dZ;simp only[aew,aeI];apply ws;intros;refine T.drop (T.drop ?_);exact λw3 h3=>⟨⟨i+1,bo,cc,done,aZ,by simp[dZ],by omega,rfl,h3⟩,by show ids.length-((i+1:Nat):Int).toNat<ids.length-(i:Int).toNat;omega⟩
  |some a2=>
   rw[hf] at dZ;simp only[aep,aes];apply ws;intros;refine gY (b:=bo) (x:=a2) rfl rfl rfl (by omega) (by omega) (eV _) λb2 c2=>?_;refine T.drop (T.drop (T.drop ?_));exact λw3 h3=>⟨⟨i+1,b2,c2,done++[a2],aZ,by simpa using dZ.symm,by simp;omega,by simp,by simpa using h3⟩,by show ids.length-((i+1:Nat):Int).toNat<ids.length-(i:Int).toNat;omega⟩
 ·have gj:i=ids.length:=by omega
  subst gj;rw[ad3] at im;exact h bo cc done im
def Vu[i:Lc (bj p) L (b,hs) f][hh:Has R L]{s:OA}{c:Nat}{ids:List Nat}(hr:nA W R nm 2 s ids)(hl:ids.length<=1000)
 (h:∀b' c' out,out=ids.filterMap (λid=>(b.named id).map (·.move))->T W (own b' out.length c' 16 (out.flatMap ai)::L) (K (.l b' out.length c'))):T W L (oR (some ⟨p,0,none⟩) s ids.length c K):=by
 unfold oR;refine eW (e:=16) ?_;intro w jF;refine⟨λvv w=>∃(i:Nat)(bo:OA)(cc:Nat)(done:List Move),i<=ids.length/\done=(ids.take i).filterMap (λid=>(b.named id).map (·.move))/\done.length<=i/\vv=[.l none 0 0,.l bo done.length cc,.l s ids.length c,.i (ids.length:Int),.i (i:Int)]/\
  St W w (own bo done.length cc 16 (done.flatMap ai)::L),
  λvs _=>match vs with|[_,_,_,_,.int _ d]=>ids.length-d.toNat|_=>0,⟨0,none,0,[],ad0 _,by simp,adW _,rfl,jF⟩,?_⟩
 rintro sm qB sw bo pn cc yD xy xD n3 n4 w2 ⟨i,b0,c0,done,hi,im,wU,e,fj⟩;cases e
 refine T.at ?_ fj;have e5:=l9 i;refine dO (λg1=>?_) (λg1=>?_)
 ·have aZ:i<ids.length:=by omega
  have gx:=adQ aZ;generalize ids[i]=x at gx;have dZ:(ids.take (i+1)).filterMap (λid=>(b.named id).map (·.move))=done++((b.named x).map (·.move)).toList:=by
   rw[ad',gx,List.filterMap_append,<-im]
   congr 1
  refine jy hr ⟨by omega,by omega⟩ rfl λa ha=>?_;rw[adR];refine jx hr ha gx rfl ?_
  repeat' first|apply ws;intros|apply wb|with_reducible refine EL (p:=p) ?_|fail
  rw[e5];cases hf:b.named x with
  |none=>
   rw[hf] at dZ;simp only[aew,aeI];apply ws;intros;refine T.drop (T.drop ?_);exact λw3 h3=>⟨⟨i+1,bo,cc,done,aZ,by simp[dZ],by omega,rfl,h3⟩,by show ids.length-((i+1:Nat):Int).toNat<ids.length-(i:Int).toNat;omega⟩
  |some a2=>
   rw[hf] at dZ;simp only[aep,aes];apply ws;intros;refine gY (b:=bo) (x:=a2.move) rfl rfl rfl (by omega) (by omega) (lz _) λb2 c2=>?_;refine T.drop (T.drop (T.drop ?_));exact λw3 h3=>⟨⟨i+1,b2,c2,done++[a2.move],aZ,by simpa using dZ.symm,by simp;omega,by simp,by simpa using h3⟩,by show ids.length-((i+1:Nat):Int).toNat<ids.length-(i:Int).toNat;omega⟩
 ·have gj:i=ids.length:=by omega
  subst gj;rw[ad3] at im;exact h bo cc done im
end
instance{q:ic}:Sub (lZ q) 0 2 (nm q.tq):=⟨rfl,λj v h=>by
 rw[adU]
 match j with
 |0=>exact h
 |1=>exact h
 |j+2=>simp[nm] at h⟩
instance{k:Kept}:Sub (aI k) 18 2 (nm k.move.aE):=⟨rfl,(uT (cs:=aI k) (o:=18) (n:=k.move.aE) rfl rfl).2⟩
instance{k:Kept}:Sub (aI k) 20 2 (nm k.move.ar):=⟨rfl,(uT (cs:=aI k) (o:=20) (n:=k.move.ar) rfl rfl).2⟩
def Gu(q:ic):∀v∈lZ q,v.oneCell'=true:=λv h=>by
 simp[lZ,nm] at h;rcases h with rfl|rfl|rfl|rfl|rfl|rfl|rfl|rfl<;>rfl
instance{x1 x2 x3 x4 x5 x6 x7 x8:Value}{q:ic}:Wr [x1,x2,x3,x4,x5,x6,x7,x8] 0 (lZ q) (lZ q):=⟨rfl,adW _,Gu q⟩
def fits(q:ic)(k:Kept):Bool:=(q.rW&&decide (k.move.aE=q.tq))||(q.pz&&decide (k.move.ar=q.tq))
def WW(b:ax)(q:ic):List Move:=(((Vo b q.fE q.rv q.mM).filter (fits q)).take q.hI.toNat).map (·.move)
def yz{α:Type}{P:α->Bool}{l:List α}{i n:Nat}{x:α}(hx:l[i]?=some x):
 ((l.take (i+1)).filter P).take n=if(((l.take i).filter P).take n).length<n then(if P x then((l.take i).filter P).take n++[x] else((l.take i).filter P).take n) else((l.take i).filter P).take n:=by
 rw[ad',hx,List.filter_append];show(_++[x].filter P).take n=_;generalize (l.take i).filter P=A;rw[adV];by_cases h:min n A.length<n
 ·rw[if_pos h];have hA:A.length<n:=by omega
  by_cases hp:P x=true
  ·rw[if_pos hp,aeP hp,List.filter_nil,ad9 (by simp;omega),ad9 (by omega)]
  ·rw[if_neg hp,aeQ hp,List.filter_nil,aeb]
 ·rw[if_neg h,List.take_append_of_le_length (by omega)]
section
variable {W:World} {L R:LH} {K:VK} {X:WK} {p:Nat} {b:ax} {hs:List C} {f:ax×List C->LH} {q:ic} {s:rC}
def Nr{I1:LV->World->Prop}{oT:LV->World->Nat}{M:LH}{r1 r2 cc xy xD:Nat}{bo yD:OA}{done:List Move}{x:Kept}{n3 n4:Int}{w2:World}{g:LV->LH}
 (hA:(done.length<q.hI.toNat/\fits q x=true)->∀b2 c2,T W (own b2 (done.length+1) c2 16 ((done++[x.move]).flatMap ai)::M) (λw3=>I1 [.p (some (ad r1 0)),.l none 0 0,.l b2 (done.length+1) c2,.l yD xy xD,.i n3,.i (adN.wrap (n4+1))] w3/\
  oT [.p (some (ad r1 0)),.l none 0 0,.l b2 (done.length+1) c2,.l yD xy xD,.i n3,.i (adN.wrap (n4+1))] w3<oT [.p (some (ad r1 0)),.l none 0 0,.l bo done.length cc,.l yD xy xD,.i n3,.i n4] w2))
 (hN: ¬(done.length<q.hI.toNat/\fits q x=true)->T W (own bo done.length cc 16 (done.flatMap ai)::M) (λw3=>I1 [.p (some (ad r1 0)),.l none 0 0,.l bo done.length cc,.l yD xy xD,.i n3,.i (adN.wrap (n4+1))] w3/\
  oT [.p (some (ad r1 0)),.l none 0 0,.l bo done.length cc,.l yD xy xD,.i n3,.i (adN.wrap (n4+1))] w3<oT [.p (some (ad r1 0)),.l none 0 0,.l bo done.length cc,.l yD xy xD,.i n3,.i n4] w2))
 [i1:Lc (Sep.pt r1) M (lZ q) g](Eh:0<=q.hI/\q.hI<=16)(hd:done.length<=1000):
 T W (Sep.pt r2 (aI x)::own bo done.length cc 16 (done.flatMap ai)::M) (br q.rW (ah (ad r2 18) 2 λY7=>ah (ad r1 0) 2 λcs7=>ny [.u 0,.u 0] Y7 cs7 λb8=>jA.j1 K (ad r1 0) r2 done.length bo cc I1 none 0 0 yD xy xD n3 n4 oT w2 b8)
   (jA.j1 K (ad r1 0) r2 done.length bo cc I1 none 0 0 yD xy xD n3 n4 oT w2 false)):=by
 have j3:∀yes:Bool,(yes=true↔done.length<q.hI.toNat/\fits q x=true)->T W (Sep.pt r2 (aI x)::own bo done.length cc 16 (done.flatMap ai)::M) (jA.j3 K r2 bo done.length cc I1 (ad r1 0) none 0 0 yD xy xD n3 n4 oT w2 yes):=λyes hy=>by
  unfold jA.j3;cases yes with
  |true=>
   apply ws;intros;refine gY (b:=bo) (x:=x.move) rfl rfl rfl (by omega) (by omega) (lz _) λb2 c2=>?_;exact T.drop (T.drop (hA (hy.1 rfl) b2 c2))
  |false=>
   apply ws;intros;exact T.drop (hN λhh=>by have:=hy.2 hh;cases this)
 have j2:∀b2 b3:Bool,(b2||b3)=fits q x->T W (Sep.pt r2 (aI x)::own bo done.length cc 16 (done.flatMap ai)::M) (jA.j2 K (ad r1 0) done.length b2 r2 bo cc I1 none 0 0 yD xy xD n3 n4 oT w2 b3):=λb2 b3 hb=>by
  unfold jA.j2;apply ws;intros;refine dO (λg1=>?_) (λg1=>?_)
  ·cases b2 with
   |true=>
    apply ws;intros;refine j3 true ⟨λ_=>⟨by omega,by rw[<-hb];rfl⟩,λ_=>rfl⟩
   |false=>
    apply ws;intros;rw[Bool.false_or] at hb;refine j3 b3 ⟨λh=>⟨by omega,by rw[<-hb];exact h⟩,λh=>by rw[hb];exact h.2⟩
  ·refine j3 false ⟨λh=>(by cases h),λh=>(by omega)⟩
 have j1:∀b2:Bool,b2=(q.rW&&decide (x.move.aE=q.tq))->T W (Sep.pt r2 (aI x)::own bo done.length cc 16 (done.flatMap ai)::M) (jA.j1 K (ad r1 0) r2 done.length bo cc I1 none 0 0 yD xy xD n3 n4 oT w2 b2):=λb2 hb=>by
  unfold jA.j1;apply ws;intros;cases hc:q.pz with
  |true=>
   apply ws;intros;refine j2 _ _ ?_;unfold fits;rw[hb,hc,aeS]
  |false=>
   apply ws;intros;refine j2 _ _ ?_;unfold fits;rw[hb,hc,ae1]
 cases Py:q.rW with
 |true=>
  apply ws;intros;refine j1 _ ?_;rw[Py,aeS]
 |false=>
  apply ws;intros;refine j1 _ ?_;rw[Py,ae1]
def ac'[i:Lc (bj p) L (b,hs) f](Eh:0<=q.hI/\q.hI<=16)(h:∀b' c' out,out=WW b q->T W (own b' out.length c' 16 (out.flatMap ai)::L) (K (.l b' out.length c'))):
 T W L (jA (some ⟨p,0,none⟩) (lZ q) K):=by
 unfold jA;refine mX (p:=p) λhg=>?_;have many:=hg.many;have X1:(Vo b q.fE q.rv q.mM).length<=96:=by
  unfold Vo;rw[aeg];have h1:(mE q.fE q.rv (cL 0 b.kept)).length<=96:=by unfold mE;rw[adV,ad2,iN];omega
  split
  ·rw[aeM];exact h1
  ·exact h1
 apply ws;intros;rename_i r1;refine L2 (p:=p) λbb bc l hl=>?_;rw[<-hl] at X1;apply ws;intros;refine eW (e:=16) ?_;intro w jF;refine⟨λvv w=>∃(i:Nat)(bo:OA)(cc:Nat)(done:List Move),i<=l.length/\done=(((l.take i).filter (fits q)).take q.hI.toNat).map (·.move)/\done.length<=i/\vv=[.p (some (ad r1 0)),.l none 0 0,.l bo done.length cc,.l bb l.length bc,.i (l.length:Int),.i (i:Int)]/\
                                                                 St W w (own bo done.length cc 16 (done.flatMap ai)::own bb l.length bc 33 (l.flatMap aI)::Sep.pt r1 (lZ q)::L),
  λvs _=>match vs with|[_,_,_,_,_,.int _ d]=>l.length-d.toNat|_=>0,⟨0,none,0,[],ad0 _,by simp,adW _,rfl,jF⟩,?_⟩
 rintro a1 sm qB sw bo pn cc yD xy xD n3 n4 w2 ⟨i,b0,c0,done,hi,im,wU,e,fj⟩;cases e
 refine T.at ?_ fj;have e5:=l9 i;refine dO (λg1=>?_) (λg1=>?_)
 ·have aZ:i<l.length:=by omega
  have gx:=adQ aZ;generalize l[i]=x at gx;have dZ:=yz (P:=fits q) (n:=q.hI.toNat) gx;have rU:done.length=(((l.take i).filter (fits q)).take q.hI.toNat).length:=by rw[im,aeg]
  rw[<-rU] at dZ;have tj:(((l.take (i+1)).filter (fits q)).take q.hI.toNat).map (·.move)=if done.length<q.hI.toNat/\fits q x=true then done++[x.move] else done:=by
   rw[dZ];by_cases c1:done.length<q.hI.toNat
   ·rw[if_pos c1];by_cases c2:fits q x=true
    ·rw[if_pos c2,if_pos ⟨c1,c2⟩,aen,<-im];rfl
    ·rw[if_neg c2,if_neg (λh=>c2 h.2),<-im]
   ·rw[if_neg c1,if_neg (λh=>c1 h.1),<-im]
  refine bR (b:=bb) ⟨by omega,by omega⟩ λrb hb=>?_;subst hb;rw[adR];refine dy fB gx ?_;apply ws;intros;rename_i r2;refine Nr (r1:=r1) (r2:=r2) (bo:=bo) (x:=x) (M:=own (some ⟨rb,0,none⟩) l.length bc 33 (l.flatMap aI)::Sep.pt r1 (lZ q)::L) (λhy b2 c2=>?_) (λhy=>?_) Eh (by omega)
  ·rw[e5];rw[if_pos hy] at tj;exact λw3 h3=>⟨⟨i+1,b2,c2,done++[x.move],aZ,tj.symm,by simp;omega,by simp,by simpa using h3⟩,by show l.length-((i+1:Nat):Int).toNat<l.length-(i:Int).toNat;omega⟩
  ·rw[e5];rw[if_neg hy] at tj;exact λw3 h3=>⟨⟨i+1,bo,cc,done,aZ,tj.symm,by omega,rfl,h3⟩,by show l.length-((i+1:Nat):Int).toNat<l.length-(i:Int).toNat;omega⟩
 ·have gj:i=l.length:=by omega
  subst gj;rw[ad3] at im;have:=h bo cc done (by rw[im,hl];rfl);refine T.sub this ?_;exact mZ
def kR(q:ic):Bool:=
 if q.op=4\/q.op=5 then decide (1<=q.ids.length)&&decide (q.ids.length<=16)
 else if q.op=6 then decide (0<=q.fE/\0<=q.rv/\1<=q.hI/\q.hI<=16)&&(q.rW||q.pz) else false
def ask(m:Model)(q:ic):Int×List aP×List Move:=
 if kR q=false then(1,[],[])
 else if q.op=4 then(0,q.ids.filterMap (bo m).find,[])
 else if q.op=5 then(0,[],q.ids.filterMap λid=>((bo m).named id).map (·.move))
 else(0,[],WW (bo m) q)
def G1(h:T W L (K (.bool (kR q)))):T W L (eg (dF q s) K):=by
 have main:∀(r1:Nat)(b1:Bool),b1=decide (q.op=4\/q.op=5)->T W (Sep.pt r1 (dF q s)::L) (eg.j1 K r1 q.op b1):=λr1 b1 hb=>by
  unfold eg.j1;unfold kR at h;by_cases Ml:q.op=4\/q.op=5
  ·rw[if_pos Ml] at h;rw[decide_eq_true Ml] at hb;subst hb;apply ws;intros;refine dO (λg2=>?_) (λg2=>?_)
   ·rw[decide_eq_true (by omega),aeS] at h;apply ws;intros;refine T.fin (T.dp h) ?_;congr 1;rw[decide_eq_decide];omega
   ·rw[decide_eq_false (by omega),ae1] at h;exact T.dp h
  ·rw[if_neg Ml] at h;rw[decide_eq_false Ml] at hb;subst hb;rw[cf];refine bB (λg6=>?_) (λg6=>?_)
   ·have g6:q.op=6:=by simpa using g6
    rw[if_pos g6] at h;apply ws;intros;rename_i r2;have j4:∀b4:Bool,b4=decide (0<=q.fE/\0<=q.rv/\1<=q.hI/\q.hI<=16)->T W (Sep.pt r2 (lZ q)::Sep.pt r1 (dF q s)::L) (eg.j4 K r2 b4):=λb4 h4=>by
     unfold eg.j4;rw[<-h4] at h;cases b4 with
     |true=>
      apply ws;intros;rw[aeS] at h;cases hd:q.rW with
      |true=>
       rw[hd] at h;apply ws;intros;exact T.dp h
      |false=>
       rw[hd,Bool.false_or] at h;apply ws;intros;exact T.dp h
     |false=>
      apply ws;intros;rw[ae1] at h;exact T.dp h
    have j3:∀b3:Bool,b3=decide (0<=q.fE/\0<=q.rv/\1<=q.hI)->T W (Sep.pt r2 (lZ q)::Sep.pt r1 (dF q s)::L) (eg.j3 K r2 b3):=λb3 h3=>by
     unfold eg.j3;cases b3 with
     |true=>
      apply ws;intros;refine j4 _ ?_;have:=of_decide_eq_true h3.symm;rw[decide_eq_decide];omega
     |false=>
      apply ws;intros;refine j4 _ ?_;have:=of_decide_eq_false h3.symm;exact(decide_eq_false (by omega)).symm
    have j2:∀b2:Bool,b2=decide (0<=q.fE/\0<=q.rv)->T W (Sep.pt r2 (lZ q)::Sep.pt r1 (dF q s)::L) (eg.j2 K r2 b2):=λb2 h2=>by
     unfold eg.j2;cases b2 with
     |true=>
      apply ws;intros;refine j3 _ ?_;have:=of_decide_eq_true h2.symm;rw[decide_eq_decide];omega
     |false=>
      apply ws;intros;refine j3 _ ?_;have:=of_decide_eq_false h2.symm;exact(decide_eq_false (by omega)).symm
    refine dO (λg1=>?_) (λg1=>?_)
    ·apply ws;intros;refine j2 _ ?_;rw[decide_eq_decide];omega
    ·refine j2 _ ?_;exact(decide_eq_false (by omega)).symm
   ·have g6: ¬q.op=6:=by simpa using g6
    rw[if_neg g6] at h;exact T.dp h
 unfold eg;apply ws;intros;refine bB (λg1=>?_) (λg1=>?_)
 ·have UW:q.op=4:=by simpa using g1
  exact main _ _ (by rw[g1];exact(decide_eq_true (.inl UW)).symm)
 ·have UW: ¬q.op=4:=by simpa using g1
  exact main _ _ (by rw[aed];simp[UW])
def Zi{m:Model}(hq:kS W R q s)
 (h:∀ab ac tb tc,T W (own ab (ask m q).2.1.length ac 14 ((ask m q).2.1.flatMap ao)::own tb (ask m q).2.2.length tc 16 ((ask m q).2.2.flatMap ai)::bj p (bo m,[])::R) (K (.agg ⟨nW (ask m q).1 none 0 0 ab (ask m q).2.1.length ac tb (ask m q).2.2.length tc⟩))):
 T W (bj p (bo m,[])::R) (EA (some ⟨p,0,none⟩) (dF q s) K):=by
 unfold EA
 repeat' first|apply ws;intros|apply wb|with_reducible refine G1 ?_|fail
 cases ge:kR q with
 |false=>
  have e:ask m q=(1,[],[]):=by unfold ask;rw[if_pos ge]
  rw[e] at h;apply ws;intros;refine T.drop (T.drop ?_);exact eW (e:=16) (eW (e:=14) (h none 0 none 0))
 |true=>
  apply ws;intros;refine bB (λg1=>?_) (λg1=>?_)
  ·have g1:q.op=4:=by simpa using g1
   have e:ask m q=(0,q.ids.filterMap (bo m).find,[]):=by unfold ask;rw[if_neg (by rw[ge];decide),if_pos g1]
   rw[e] at h;have hlen:q.ids.length<=16:=by unfold kR at ge;rw[if_pos (.inl g1)] at ge;simp at ge;exact ge.2
   apply ws;intros;refine Vv (R:=R) (p:=p) hq.ids (by omega) λab ac out ho=>?_;subst ho;apply ws;intros;have:=h ab ac none 0;refine eW (e:=16) (T.HF ?_);refine T.sub this ?_
   repeat (first|exact ad5.refl _|apply ad5.cons_cons|apply ad5.cons)
  have g1: ¬q.op=4:=by simpa using g1
  refine bB (λg2=>?_) (λg2=>?_)
  ·have g2:q.op=5:=by simpa using g2
   have e:ask m q=(0,[],q.ids.filterMap λid=>((bo m).named id).map (·.move)):=by unfold ask;rw[if_neg (by rw[ge];decide),if_neg g1,if_pos g2]
   rw[e] at h;have hlen:q.ids.length<=16:=by unfold kR at ge;rw[if_pos (.inr g2)] at ge;simp at ge;exact ge.2
   apply ws;intros;refine Vu (R:=R) (p:=p) hq.ids (by omega) λab ac out ho=>?_;subst ho;apply ws;intros;have:=h none 0 ab ac;refine eW (e:=14) ?_;refine T.sub this ?_
   repeat (first|exact ad5.refl _|apply ad5.cons_cons|apply ad5.cons)
  ·have g2: ¬q.op=5:=by simpa using g2
   have e:ask m q=(0,[],WW (bo m) q):=by unfold ask;rw[if_neg (by rw[ge];decide),if_neg g1,if_neg g2]
   rw[e] at h;have Eh:0<=q.hI/\q.hI<=16:=by
    unfold kR at ge;rw[if_neg (by omega)] at ge;split at ge
    ·simp at ge;omega
    ·cases ge
   apply ws;intros;refine ac' (p:=p) Eh λab ac out ho=>?_;subst ho;apply ws;intros;have:=h none 0 ab ac;refine eW (e:=14) ?_;refine T.sub this ?_
   repeat (first|exact ad5.refl _|apply ad5.cons_cons|apply ad5.cons)
end
def many{α:Type}(nx:RS->RS)(nv:RS->α):Nat->RS->List α×RS
 |0,x=>([],x)
 |n+1,x=>if x.2=true then([],x) else(nv x::(many nx nv n (nx x)).1,(many nx nv n (nx x)).2)
def ox{α:Type}{nx:RS->RS}{nv:RS->α}(n:Nat)(x:RS):many nx nv (n+1) x=if x.2=true then([],x) else(nv x::(many nx nv n (nx x)).1,(many nx nv n (nx x)).2):=rfl
def xU{α:Type}{nx:RS->RS}{nv:RS->α}(x:RS):many nx nv 0 x=([],x):=rfl
def wI{α:Type}{nx:RS->RS}{nv:RS->α}:∀(n:Nat)(x:RS),(many nx nv n x).1.length<=n
 |0,x=>adW _
 |n+1,x=>by unfold many;split<;>simp;exact wI n _
def QA(x:RS):0<=iG 1 x/\iG 1 x<=255:=by
 unfold iG;split
 ·omega
 ·have h1:=oI (x.1.take 1);have h2:(x.1.take 1).length<=1:=by rw[adV];omega
  have h3:256^(x.1.take 1).length<=256^1:=aeH (by decide) h2;have h4:(256:Nat)^1=256:=rfl;rw[ke (by omega)];omega
def Hc(x:RS):RS:=if 1<iG 1 x then((da 1 x).1,true) else da 1 x
def Zw(x:RS):Bool:=iG 1 x==1
section
variable {W:World} {L R:LH} {K:VK} {X:WK} {r:Nat} {x:RS} {g:RS->LH} {q:ic} {s:rC}
def Qx(x:RS):(Ci x).1.length<=x.1.length:=by
 unfold Ci uF;repeat (first|exact adW _|refine Nat.le_trans (qM _ _) ?_)
def Qw(x:RS):(Ch x).1.length<=x.1.length:=by
 unfold Ch uF;repeat (first|exact adW _|refine Nat.le_trans (qM _ _) ?_)
def EK[i:Lc (rd r) L x g](hl:x.1.length<1099511627776)(h:T W (g (Hc x)) (K (.bool (Zw x)))):T W L (iW (some ⟨r,0,none⟩) K):=by
 unfold iW;refine ra hl ?_;refine lX ?_;have hn:=i.next;rw[Option.isNone_some,Bool.not_false,gU];refine dO (λg1=>?_) (λg1=>?_)
 ·have g1:iG 1 x>1:=g1;intro w hs;obtain⟨k,hk,e⟩:=(hn (da 1 x)).at_;rw[zO,dW,adU];refine lR hs (show(g (da 1 x))[k]?=some (Sep.pt r [.string (bs (da 1 x).1),.bool (da 1 x).2]) from hk) (by show 1<2;decide) rfl λw' cT=>?_;refine h w' ?_;have e2:Hc x=((da 1 x).1,true):=by unfold Hc;rw[if_pos g1]
  rw[e2,e];exact cT
 ·have g1: ¬iG 1 x>1:=g1;have e2:Hc x=da 1 x:=by unfold Hc;rw[if_neg g1]
  rw[e2] at h;exact h
def QM[i:Lc (rd r) L x g](hl:x.1.length<1099511627776)
 (h:∀b c,T W (own b (many Ci D7 (iG 1 x).toNat (da 1 x)).1.length c 14 ((many Ci D7 (iG 1 x).toNat (da 1 x)).1.flatMap ao)::g (many Ci D7 (iG 1 x).toNat (da 1 x)).2) (K (.l b (many Ci D7 (iG 1 x).toNat (da 1 x)).1.length c))):
 T W L (jm (some ⟨r,0,none⟩) (.func (.func N.kG) ⟨[]⟩ ⟨[]⟩) K):=by
 unfold jm;refine ra hl ?_;refine lX ?_;have hn:=i.next;have hb:=QA x;obtain⟨n,en⟩:∃n:Nat,iG 1 x=(n:Int):=⟨(iG 1 x).toNat,by omega⟩;rw[en,adR] at h;rw[en];refine eW (e:=14) ?_;intro w jF;refine⟨λvv w=>∃(i:Nat)(bo:OA)(cc:Nat)(done:List aP)(y:RS),i<=n/\done.length<=i/\y.1.length<1099511627776/\many Ci D7 n (da 1 x)=(done++(many Ci D7 (n-i) y).1,(many Ci D7 (n-i) y).2)/\
                                                                                                                                       vv=[.l none 0 0,.l bo done.length cc,.i (n:Int),.i (i:Int)]/\St W w (own bo done.length cc 14 (done.flatMap ao)::g y),
  λvs _=>match vs with|[_,_,_,.int _ d]=>n-d.toNat|_=>0,⟨0,none,0,[],da 1 x,ad0 _,adW _,na hl,by simp,rfl,jF⟩,?_⟩
 rintro M9 VR P9 bo qB cc n2 n3 w2 ⟨i,b0,c0,done,y,hi,wU,hy,hm,e,fj⟩;cases e
 refine T.at ?_ fj;have e5:=l9 i
 haveI:=hn y
 refine dO (λg1=>?_) (λg1=>?_)
 ·have aZ:i<n:=by omega
  obtain⟨k,hk⟩:∃k,n-i=k+1:=⟨n-i-1,by omega⟩;rw[hk] at hm;refine uQ (r:=r) ?_;refine pE ?_;cases ht:y.2 with
  |true=>
   apply ws;intros;rw[ox,if_pos ht] at hm;simp only[aeb] at hm;have:=h bo cc;rw[hm] at this;exact this
  |false=>
   apply ws;intros;rw[ox,if_neg (by rw[ht];decide)] at hm;show T W _ (kG (some ⟨r,0,none⟩) _);refine OP hy ?_;apply ws;intros;refine gY (b:=bo) (x:=D7 y) rfl rfl rfl (by omega) (by omega) (eV _) λb2 c2=>?_;rw[e5];refine T.drop ?_;refine λw3 h3=>⟨⟨i+1,b2,c2,done++[D7 y],Ci y,aZ,by simp;omega,Nat.lt_of_le_of_lt (Qx y) hy,?_,by simp,by simpa using h3⟩,by show n-((i+1:Nat):Int).toNat<n-(i:Int).toNat;omega⟩;rw[hm,show n-(i+1)=k by omega];simp
 ·have gj:i=n:=by omega
  subst gj;rw[ae8] at hm;rw[xU,aeb] at hm;have:=h bo cc;rw[hm] at this;exact this
def QK[i:Lc (rd r) L x g](hl:x.1.length<1099511627776)
 (h:∀b c,T W (own b (many Ch D6 (iG 1 x).toNat (da 1 x)).1.length c 16 ((many Ch D6 (iG 1 x).toNat (da 1 x)).1.flatMap ai)::g (many Ch D6 (iG 1 x).toNat (da 1 x)).2) (K (.l b (many Ch D6 (iG 1 x).toNat (da 1 x)).1.length c))):
 T W L (iK (some ⟨r,0,none⟩) (.func (.func N.jI) ⟨[]⟩ ⟨[]⟩) K):=by
 unfold iK;refine ra hl ?_;refine lX ?_;have hn:=i.next;have hb:=QA x;obtain⟨n,en⟩:∃n:Nat,iG 1 x=(n:Int):=⟨(iG 1 x).toNat,by omega⟩;rw[en,adR] at h;rw[en];refine eW (e:=16) ?_;intro w jF;refine⟨λvv w=>∃(i:Nat)(bo:OA)(cc:Nat)(done:List Move)(y:RS),i<=n/\done.length<=i/\y.1.length<1099511627776/\many Ch D6 n (da 1 x)=(done++(many Ch D6 (n-i) y).1,(many Ch D6 (n-i) y).2)/\
                                                                                                                                       vv=[.l none 0 0,.l bo done.length cc,.i (n:Int),.i (i:Int)]/\St W w (own bo done.length cc 16 (done.flatMap ai)::g y),
  λvs _=>match vs with|[_,_,_,.int _ d]=>n-d.toNat|_=>0,⟨0,none,0,[],da 1 x,ad0 _,adW _,na hl,by simp,rfl,jF⟩,?_⟩
 rintro M9 VR P9 bo qB cc n2 n3 w2 ⟨i,b0,c0,done,y,hi,wU,hy,hm,e,fj⟩;cases e
 refine T.at ?_ fj;have e5:=l9 i
 haveI:=hn y
 refine dO (λg1=>?_) (λg1=>?_)
 ·have aZ:i<n:=by omega
  obtain⟨k,hk⟩:∃k,n-i=k+1:=⟨n-i-1,by omega⟩;rw[hk] at hm;refine uQ (r:=r) ?_;refine pE ?_;cases ht:y.2 with
  |true=>
   apply ws;intros;rw[ox,if_pos ht] at hm;simp only[aeb] at hm;have:=h bo cc;rw[hm] at this;exact this
  |false=>
   apply ws;intros;rw[ox,if_neg (by rw[ht];decide)] at hm;show T W _ (jI (some ⟨r,0,none⟩) _);refine Hw hy ?_;apply ws;intros;refine gY (b:=bo) (x:=D6 y) rfl rfl rfl (by omega) (by omega) (lz _) λb2 c2=>?_;rw[e5];refine T.drop ?_;refine λw3 h3=>⟨⟨i+1,b2,c2,done++[D6 y],Ch y,aZ,by simp;omega,Nat.lt_of_le_of_lt (Qw y) hy,?_,by simp,by simpa using h3⟩,by show n-((i+1:Nat):Int).toNat<n-(i:Int).toNat;omega⟩;rw[hm,show n-(i+1)=k by omega];simp
 ·have gj:i=n:=by omega
  subst gj;rw[ae8] at hm;rw[xU,aeb] at hm;have:=h bo cc;rw[hm] at this;exact this
def QL[i:Lc (rd r) L x g](hl:x.1.length<1099511627776)
 (h:∀b c,T W (own b (many (da 16) vS (iG 1 x).toNat (da 1 x)).1.length c 2 ((many (da 16) vS (iG 1 x).toNat (da 1 x)).1.flatMap nm)::g (many (da 16) vS (iG 1 x).toNat (da 1 x)).2) (K (.l b (many (da 16) vS (iG 1 x).toNat (da 1 x)).1.length c))):
 T W L (lQ (some ⟨r,0,none⟩) (.func (.func N.bm) ⟨[]⟩ ⟨[]⟩) K):=by
 unfold lQ;refine ra hl ?_;refine lX ?_;have hn:=i.next;have hb:=QA x;obtain⟨n,en⟩:∃n:Nat,iG 1 x=(n:Int):=⟨(iG 1 x).toNat,by omega⟩;rw[en,adR] at h;rw[en];refine eW (e:=2) ?_;intro w jF;refine⟨λvv w=>∃(i:Nat)(bo:OA)(cc:Nat)(done:List Nat)(y:RS),i<=n/\done.length<=i/\y.1.length<1099511627776/\many (da 16) vS n (da 1 x)=(done++(many (da 16) vS (n-i) y).1,(many (da 16) vS (n-i) y).2)/\
                                                                                                                                       vv=[.l none 0 0,.l bo done.length cc,.i (n:Int),.i (i:Int)]/\St W w (own bo done.length cc 2 (done.flatMap nm)::g y),
  λvs _=>match vs with|[_,_,_,.int _ d]=>n-d.toNat|_=>0,⟨0,none,0,[],da 1 x,ad0 _,adW _,na hl,by simp,rfl,jF⟩,?_⟩
 rintro M9 VR P9 bo qB cc n2 n3 w2 ⟨i,b0,c0,done,y,hi,wU,hy,hm,e,fj⟩;cases e
 refine T.at ?_ fj;have e5:=l9 i
 haveI:=hn y
 refine dO (λg1=>?_) (λg1=>?_)
 ·have aZ:i<n:=by omega
  obtain⟨k,hk⟩:∃k,n-i=k+1:=⟨n-i-1,by omega⟩;rw[hk] at hm;refine uQ (r:=r) ?_;refine pE ?_;cases ht:y.2 with
  |true=>
   apply ws;intros;rw[ox,if_pos ht] at hm;simp only[aeb] at hm;have:=h bo cc;rw[hm] at this;exact this
  |false=>
   apply ws;intros;rw[ox,if_neg (by rw[ht];decide)] at hm;show T W _ (bm (some ⟨r,0,none⟩) _);refine EI hy ?_;apply ws;intros;refine gY (b:=bo) (x:=vS y) rfl rfl rfl (by omega) (by omega) (kA _) λb2 c2=>?_;rw[e5];refine T.drop ?_;refine λw3 h3=>⟨⟨i+1,b2,c2,done++[vS y],(da 16) y,aZ,by simp;omega,Nat.lt_of_le_of_lt (qM 16 y) hy,?_,by simp,by simpa using h3⟩,by show n-((i+1:Nat):Int).toNat<n-(i:Int).toNat;omega⟩;rw[hm,show n-(i+1)=k by omega];simp
 ·have gj:i=n:=by omega
  subst gj;rw[ae8] at hm;rw[xU,aeb] at hm;have:=h bo cc;rw[hm] at this;exact this
def lK(q:ic):Bool:=if q.op=1 then q.ag.all λa=>decide (mB a) else if q.op=2 then q.aQ.all λt=>decide (jZ t) else true
def gp(q:ic):Bool:=(jv q||kR q)&&lK q
def xm{α:Type}{P:α->Bool}{l:List α}{i:Nat}{x:α}(hx:l[i]?=some x)(h:(l.take i).all P=true):(l.take (i+1)).all P=P x:=by
 rw[ad',hx,List.all_append,h];simp
def all_false{α:Type}{P:α->Bool}{l:List α}{i:Nat}{x:α}(hx:l[i]?=some x)(h:P x=false):l.all P=false:=by
 rw[List.all_eq_false];exact⟨x,aei hx,by rw[h];decide⟩
def E3[hh:Has R L](hq:kS W R q s)(yT:q.ag.length<1000000)(aZ:q.aQ.length<1000000){r1:Nat}{b1:Bool}(h:T W (Sep.pt r1 (dF q s)::L) (K (.bool (!b1&&lK q)))):T W (Sep.pt r1 (dF q s)::L) (lG.j1 K r1 b1):=by
 unfold lG.j1;cases b1 with
 |true=>rw[gU];exact h
 |false=>
  rw[Bool.not_false,aeS] at h;rw[cf];apply ws;intros;refine bB (λg1=>?_) (λg1=>?_)
  ·have g1:q.op=1:=by simpa using g1
   unfold lK at h;rw[if_pos g1] at h;apply ws;intros;intro w jF;refine⟨λvv w=>∃i:Nat,i<=q.ag.length/\(q.ag.take i).all (λx=>decide (mB x))=true/\vv=[.bool false,.l s.sa q.ag.length s.ca,.i (q.ag.length:Int),.i (i:Int)]/\St W w (Sep.pt r1 (dF q s)::L),
    λvs _=>match vs with|[_,_,_,.int _ d]=>q.ag.length-d.toNat|_=>0,⟨0,ad0 _,rfl,rfl,jF⟩,?_⟩
   rintro b2 sm qB sw n2 n3 w2 ⟨i,hi,fH,e,fj⟩;cases e
   refine T.at ?_ fj;have e5:=l9 i;refine dO (λg1=>?_) (λg1=>?_)
   ·have aZ:i<q.ag.length:=by omega
    have gx:=adQ aZ;generalize q.ag[i]=x at gx;refine jy hq.ag ⟨by omega,by omega⟩ rfl λa ha=>?_;rw[adR];refine jx hq.ag ha gx rfl ?_
    repeat' first|apply ws;intros|apply wb|with_reducible refine Ka ?_|fail
    rw[e5];by_cases hg:mB x
    ·rw[decide_eq_true hg];apply ws;intros;refine T.drop λw3 h3=>⟨⟨i+1,aZ,?_,rfl,h3⟩,by show q.ag.length-((i+1:Nat):Int).toNat<q.ag.length-(i:Int).toNat;omega⟩;rw[xm gx fH];exact decide_eq_true hg
    ·rw[decide_eq_false hg];apply ws;intros;rw[all_false gx (decide_eq_false hg)] at h;exact T.drop h
   ·have gj:i=q.ag.length:=by omega
    subst gj;rw[ad3] at fH;rw[fH] at h;exact h
  have g1: ¬q.op=1:=by simpa using g1
  refine bB (λg2=>?_) (λg2=>?_)
  ·have g2:q.op=2:=by simpa using g2
   unfold lK at h;rw[if_neg g1,if_pos g2] at h;apply ws;intros;intro w jF;refine⟨λvv w=>∃i:Nat,i<=q.aQ.length/\(q.aQ.take i).all (λx=>decide (jZ x))=true/\vv=[.bool false,.l s.st q.aQ.length s.ct,.i (q.aQ.length:Int),.i (i:Int)]/\St W w (Sep.pt r1 (dF q s)::L),
    λvs _=>match vs with|[_,_,_,.int _ d]=>q.aQ.length-d.toNat|_=>0,⟨0,ad0 _,rfl,rfl,jF⟩,?_⟩
   rintro b2 sm qB sw n2 n3 w2 ⟨i,hi,fH,e,fj⟩;cases e
   refine T.at ?_ fj;have e5:=l9 i;refine dO (λg1=>?_) (λg1=>?_)
   ·have aZ:i<q.aQ.length:=by omega
    have gx:=adQ aZ;generalize q.aQ[i]=x at gx;refine jy hq.aQ ⟨by omega,by omega⟩ rfl λa ha=>?_;rw[adR];refine jx hq.aQ ha gx rfl ?_
    repeat' first|apply ws;intros|apply wb|with_reducible refine I8 ?_|fail
    rw[e5];by_cases hg:jZ x
    ·rw[decide_eq_true hg];apply ws;intros;refine T.drop λw3 h3=>⟨⟨i+1,aZ,?_,rfl,h3⟩,by show q.aQ.length-((i+1:Nat):Int).toNat<q.aQ.length-(i:Int).toNat;omega⟩;rw[xm gx fH];exact decide_eq_true hg
    ·rw[decide_eq_false hg];apply ws;intros;rw[all_false gx (decide_eq_false hg)] at h;exact T.drop h
   ·have gj:i=q.aQ.length:=by omega
    subst gj;rw[ad3] at fH;rw[fH] at h;exact h
  ·have g2: ¬q.op=2:=by simpa using g2
   unfold lK at h;rw[if_neg g1,if_neg g2] at h;exact h
def IY[hh:Has R L](hq:kS W R q s)(yT:q.ag.length<1000000)(aZ:q.aQ.length<1000000)(h:T W L (K (.bool (gp q)))):T W L (lG (dF q s) K):=by
 unfold lG
 repeat' first|apply ws;intros|apply wb|with_reducible refine JZ ?_|fail
 unfold gp at h;cases he:jv q with
 |true=>
  rw[he,Bool.true_or] at h;apply ws;intros;exact E3 hq yT aZ (T.drop h)
 |false=>
  rw[he,Bool.false_or] at h
  repeat' first|apply ws;intros|apply wb|with_reducible refine G1 ?_|fail
  refine E3 hq yT aZ (T.drop ?_);rw[Bool.not_not];exact h
end
def y4(b:Bool):List UInt8:=[if b then 1 else 0]
def Rg(q:ic):List UInt8:=nb q.tq++le .i64 8 q.fE++le .i64 8 q.rv++y4 q.rW++y4 q.pz++y4 q.mM++le .i64 1 q.hI
def ch(q:ic):List UInt8:=le .i64 1 q.op++
 (if q.op=1 then le .i64 1 (q.ag.length:Int)++q.ag.flatMap ib
 else if q.op=2 then le .i64 1 (q.aQ.length:Int)++q.aQ.flatMap mK
 else if q.op=3 then le .i64 8 q.now
 else if q.op=6 then Rg q
 else le .i64 1 (q.ids.length:Int)++q.ids.flatMap nb)
section
variable {W:World} {L R:LH} {K:VK} {X:WK} {p:Nat} {l:List UInt8} {f:List UInt8->LH} {q:ic} {s:rC}
def MR(h:T W (buf p []::L) X):T W (Sep.pt p [.l none 0 0]::L) X:=λw hs=>by
 have h2:=(hs.push (A:=own none 0 0 1 (([]:List UInt8).map rF)) (oM 1)).perm (aeh.swap _ _ _);exact h w (pW (k:=0) (L:=buf p []::L) (A:=buf p []) rfl rfl h2)
def dP{α:Type}{g:α->List UInt8}{e:Nat}(hg:∀x,(g x).length=e)(l:List α):(l.flatMap g).length=l.length* e:=by
 induction l with
 |nil=>simp
 |cons x l ih=>rw[aeE,adT,ih,hg,ad8,afe];omega
def aab[i:Lc (buf p) L l f][hh:∀y,Has R (f y)]{sl:OA}{c:Nat}{items:List aP}(hr:nA W R ao 14 sl items)(hg:∀x∈items,mB x)(hi:items.length<=1000)(hl:l.length<1000000)
 (h:T W (f (l++le .i64 1 (items.length:Int)++items.flatMap ib)) (K (.tuple ⟨[]⟩))):T W L (jJ (some ⟨p,0,none⟩) sl items.length c K):=by
 unfold jJ;refine zk ?_;refine pM (by omega) (xu ?_);intro w jF;refine⟨λvv w=>∃i:Nat,i<=items.length/\vv=[.l sl items.length c,.i (items.length:Int),.i (i:Int)]/\St W w (f (l++le .i64 1 (items.length:Int)++(items.take i).flatMap ib)),
  λvs _=>match vs with|[_,_,.int _ d]=>items.length-d.toNat|_=>0,⟨0,ad0 _,rfl,by simpa using jF⟩,?_⟩
 rintro sm qB sw n1 n2 w2 ⟨i,hii,e,fj⟩;cases e
 refine T.at ?_ fj;have hn:=Lc.next (P:=buf p) inferInstance (l++le .i64 1 (items.length:Int)++(items.take i).flatMap ib) (L:=L) (x:=l) (f:=f);have yU:=hh (l++le .i64 1 (items.length:Int)++(items.take i).flatMap ib);have hlen:(l++le .i64 1 (items.length:Int)++(items.take i).flatMap ib).length<549755813888:=by
  rw[adT,adT,dP oG,adV,az];have:min i items.length<=1000:=by omega
  have:min i items.length* (100-4)<=1000* (100-4):=aeC _ this;omega
 have e5:=l9 i;refine dO (λg1=>?_) (λg1=>?_)
 ·have aZ:i<items.length:=by omega
  have gx:=adQ aZ;have gm:=hg _ (aee aZ);generalize items[i]=x at gx gm;refine jy hr ⟨by omega,by omega⟩ rfl λa ha=>?_;rw[adR];refine jx hr ha gx rfl ?_
  repeat' first|apply ws;intros|apply wb|with_reducible refine OO (p:=p) gm hlen ?_|fail
  rw[e5];refine T.drop λw3 h3=>⟨⟨i+1,aZ,rfl,?_⟩,by show items.length-((i+1:Nat):Int).toNat<items.length-(i:Int).toNat;omega⟩;rw[ad',gx,aeN];simpa [adZ] using h3
 ·have gj:i=items.length:=by omega
  subst gj;rw[ad3];exact h
def aaa[i:Lc (buf p) L l f][hh:∀y,Has R (f y)]{sl:OA}{c:Nat}{items:List Move}(hr:nA W R ai 16 sl items)(hg:∀x∈items,jZ x)(hi:items.length<=1000)(hl:l.length<1000000)
 (h:T W (f (l++le .i64 1 (items.length:Int)++items.flatMap mK)) (K (.tuple ⟨[]⟩))):T W L (jl (some ⟨p,0,none⟩) sl items.length c K):=by
 unfold jl;refine zk ?_;refine pM (by omega) (xu ?_);intro w jF;refine⟨λvv w=>∃i:Nat,i<=items.length/\vv=[.l sl items.length c,.i (items.length:Int),.i (i:Int)]/\St W w (f (l++le .i64 1 (items.length:Int)++(items.take i).flatMap mK)),
  λvs _=>match vs with|[_,_,.int _ d]=>items.length-d.toNat|_=>0,⟨0,ad0 _,rfl,by simpa using jF⟩,?_⟩
 rintro sm qB sw n1 n2 w2 ⟨i,hii,e,fj⟩;cases e
 refine T.at ?_ fj;have hn:=Lc.next (P:=buf p) inferInstance (l++le .i64 1 (items.length:Int)++(items.take i).flatMap mK) (L:=L) (x:=l) (f:=f);have yU:=hh (l++le .i64 1 (items.length:Int)++(items.take i).flatMap mK);have hlen:(l++le .i64 1 (items.length:Int)++(items.take i).flatMap mK).length<549755813888:=by
  rw[adT,adT,dP ow,adV,az];have:min i items.length<=1000:=by omega
  have:min i items.length* 108<=1000* 108:=aeC _ this;omega
 have e5:=l9 i;refine dO (λg1=>?_) (λg1=>?_)
 ·have aZ:i<items.length:=by omega
  have gx:=adQ aZ;have gm:=hg _ (aee aZ);generalize items[i]=x at gx gm;refine jy hr ⟨by omega,by omega⟩ rfl λa ha=>?_;rw[adR];refine jx hr ha gx rfl ?_
  repeat' first|apply ws;intros|apply wb|with_reducible refine Hv (p:=p) gm hlen ?_|fail
  rw[e5];refine T.drop λw3 h3=>⟨⟨i+1,aZ,rfl,?_⟩,by show items.length-((i+1:Nat):Int).toNat<items.length-(i:Int).toNat;omega⟩;rw[ad',gx,aeN];simpa [adZ] using h3
 ·have gj:i=items.length:=by omega
  subst gj;rw[ad3];exact h
def Tp[i:Lc (buf p) L l f](hl:l.length<1000000)(h:T W (f (l++Rg q)) (K (.tuple ⟨[]⟩))):T W L (kT (some ⟨p,0,none⟩) (lZ q) K):=by
 unfold kT;have hn0:=i.next
 repeat' first|apply ws;intros|apply wb|with_reducible refine EC (by omega) ?_|fail
 rename_i r1
 repeat' first|apply ws;intros|apply wb|with_reducible refine uP (by simp only[adT,rl,az];omega) ?_|fail
 intro w jF;refine⟨λvv w=>∃i:Nat,i<=3/\vv=[.p (some (ad r1 0)),.agg ⟨[.bool q.rW,.bool q.pz,.bool q.mM]⟩,.i (i:Int)]/\St W w (Sep.pt r1 (lZ q)::f (l++nb q.tq++le .i64 8 q.fE++le .i64 8 q.rv++([q.rW,q.pz,q.mM].take i).flatMap y4)),
  λvs _=>match vs with|[_,_,.int _ d]=>3-d.toNat|_=>0,⟨0,ad0 _,rfl,by simpa using jF⟩,?_⟩
 rintro a4 Y8 n3 w2 ⟨i,hi,e,fj⟩;cases e
 refine T.at ?_ fj;have hn:=Lc.next (P:=buf p) inferInstance (l++nb q.tq++le .i64 8 q.fE++le .i64 8 q.rv++([q.rW,q.pz,q.mM].take i).flatMap y4) (L:=L) (x:=l) (f:=f);have Mh:(([q.rW,q.pz,q.mM].take i).flatMap y4).length<=3:=by rw[dP (e:=1) (λ_=>rfl),adV];simp;omega
 have e5:=l9 i;refine dO (λg1=>?_) (λg1=>?_)
 ·have aZ:i<3:=by omega
  obtain⟨b,hb⟩:∃b,[q.rW,q.pz,q.mM][i]?=some b:=⟨_,adQ (by simpa using aZ)⟩;have hv:[Value.bool q.rW,.bool q.pz,.bool q.mM][i]?=some (.bool b):=by
   have:=congrArg (aft Value.bool) hb;rw[<-aeD] at this;exact this
  refine I6 aZ hv ?_
  repeat' first|apply ws;intros|apply wb|with_reducible refine RV (by simp only[adT,rl,az];omega) ?_|fail
  rw[e5];refine λw3 h3=>⟨⟨i+1,aZ,rfl,?_⟩,by show 3-((i+1:Nat):Int).toNat<3-(i:Int).toNat;omega⟩;rw[ad',hb,aeN];simpa [adZ,y4] using h3
 ·have gj:i=3:=by omega
  subst gj
  repeat' first|apply ws;intros|apply wb|with_reducible refine pM (by simp only[adT,rl,az];omega) ?_|fail
  have e2:l++nb q.tq++le .i64 8 q.fE++le .i64 8 q.rv++([q.rW,q.pz,q.mM].take 3).flatMap y4++le .i64 1 q.hI=l++Rg q:=by
   unfold Rg;simp[adZ]
  rw[e2];exact T.drop h
def np(h:gp q=true):(q.op=1/\q.ag.length<=8/\∀a∈q.ag,mB a)\/(q.op=2/\q.aQ.length<=8/\∀t∈q.aQ,jZ t)\/(q.op=3/\0<=q.now/\q.now<=1099511627776)\/((q.op=4\/q.op=5)/\q.ids.length<=16)\/(q.op=6/\0<=q.fE/\0<=q.rv/\1<=q.hI/\q.hI<=16):=by
 unfold gp jv kR lK at h;simp only[aeJ,Bool.or_eq_true] at h;obtain⟨h1,h2⟩:=h;by_cases o1:q.op=1
 ·rw[if_pos o1] at h1 h2;rw[if_neg (by omega),if_neg (by omega)] at h1;simp at h1 h2;exact .inl ⟨o1,h1.2,h2⟩
 by_cases o2:q.op=2
 ·rw[if_neg o1,if_pos o2] at h1 h2;rw[if_neg (by omega),if_neg (by omega)] at h1;simp at h1 h2;exact .inr (.inl ⟨o2,h1.2,h2⟩)
 by_cases o3:q.op=3
 ·rw[if_neg o1,if_neg o2,if_pos o3] at h1;rw[if_neg (by omega),if_neg (by omega)] at h1;simp at h1;exact .inr (.inr (.inl ⟨o3,h1⟩))
 rw[if_neg o1,if_neg o2,if_neg o3] at h1;by_cases o4:q.op=4\/q.op=5
 ·rw[if_pos o4] at h1;simp at h1;exact .inr (.inr (.inr (.inl ⟨o4,h1.2⟩)))
 rw[if_neg o4] at h1;by_cases o6:q.op=6
 ·rw[if_pos o6] at h1;simp at h1;exact .inr (.inr (.inr (.inr ⟨o6,h1.1⟩)))
 ·rw[if_neg o6] at h1;simp at h1
def Mv[hh:Has R L](hq:kS W R q s)(yT:q.ag.length<1000000)(aZ:q.aQ.length<1000000)(h1:gp q=true->T W L (K (.tuple ⟨[.string (bs (ch q)),.i 0]⟩)))(h0:gp q=false->T W L (K (.tuple ⟨[.string .empty,.i 1]⟩))):T W L (so (dF q s) K):=by
 unfold so
 repeat' first|apply ws;intros|apply wb|with_reducible refine IY hq yT aZ ?_|fail
 rename_i r1;cases hw:gp q with
 |false=>
  apply ws;intros;exact T.drop (h0 hw)
 |true=>
  have h1:=h1 hw;have hf:=np hw;apply ws;intros;rename_i r2;refine MR ?_
  repeat' first|apply ws;intros|apply wb|with_reducible refine pM (by simp) ?_|fail
  unfold ch at h1;refine bB (λg1=>?_) (λg1=>?_)
  ·have g1:q.op=1:=by simpa using g1
   rw[if_pos g1] at h1;have zR:q.ag.length<=8/\∀a∈q.ag,mB a:=by rcases hf with h|h|h|h|h<;>first|exact h.2|omega
   apply ws;intros;refine aab (R:=R) hq.ag zR.2 (by omega) (by simp[az]) ?_
   repeat' first|apply ws;intros|apply wb|with_reducible refine qa ?_|fail
   rw[aet,adZ];exact T.dp h1
  have g1: ¬q.op=1:=by simpa using g1
  rw[if_neg g1] at h1;refine bB (λg2=>?_) (λg2=>?_)
  ·have g2:q.op=2:=by simpa using g2
   rw[if_pos g2] at h1;have zR:q.aQ.length<=8/\∀a∈q.aQ,jZ a:=by rcases hf with h|h|h|h|h<;>first|exact h.2|omega
   apply ws;intros;refine aaa (R:=R) hq.aQ zR.2 (by omega) (by simp[az]) ?_
   repeat' first|apply ws;intros|apply wb|with_reducible refine qa ?_|fail
   rw[aet,adZ];exact T.dp h1
  have g2: ¬q.op=2:=by simpa using g2
  rw[if_neg g2] at h1;refine bB (λg3=>?_) (λg3=>?_)
  ·have g3:q.op=3:=by simpa using g3
   rw[if_pos g3] at h1
   repeat' first|apply ws;intros|apply wb|with_reducible first|refine uP (by simp[az]) ?_|refine qa ?_|fail
   rw[aet];exact T.dp h1
  have g3: ¬q.op=3:=by simpa using g3
  rw[if_neg g3] at h1;refine bB (λg6=>?_) (λg6=>?_)
  ·have g6:q.op=6:=by simpa using g6
   rw[if_pos g6] at h1;apply ws;intros;refine Tp (by simp[az]) ?_
   repeat' first|apply ws;intros|apply wb|with_reducible refine qa ?_|fail
   rw[aet];exact T.dp h1
  have g6: ¬q.op=6:=by simpa using g6
  rw[if_neg g6] at h1;have zR:q.ids.length<=16:=by rcases hf with h|h|h|h|h<;>first|exact h.2|omega
  repeat' first|apply ws;intros|apply wb|with_reducible refine pM (by simp[az]) ?_|fail
  intro w jF;refine⟨λvv w=>∃i:Nat,i<=q.ids.length/\vv=[.string .empty,.i 0,.p (some (ad r2 0)),.l s.si q.ids.length s.ci,.i (q.ids.length:Int),.i (i:Int)]/\
   St W w (buf r2 (le .i64 1 q.op++(le .i64 1 (q.ids.length:Int)++(q.ids.take i).flatMap nb))::Sep.pt r1 (dF q s)::L),
   λvs _=>match vs with|[_,_,_,_,_,.int _ d]=>q.ids.length-d.toNat|_=>0,⟨0,ad0 _,rfl,by simpa using jF⟩,?_⟩
  rintro s5 n4 a1 sb5 Zr Zs n5 n6 w2 ⟨i,hi,e,fj⟩;cases e
  refine T.at ?_ fj;have hlen:(le .i64 1 q.op++(le .i64 1 (q.ids.length:Int)++(q.ids.take i).flatMap nb)).length<1099511627776:=by
   rw[adT,adT,dP rl,adV,az,az];have:min i q.ids.length<=16:=by omega
   omega
  have e5:=l9 i;refine dO (λg1=>?_) (λg1=>?_)
  ·have aZ:i<q.ids.length:=by omega
   have gx:=adQ aZ;generalize q.ids[i]=x at gx;refine jy hq.ids ⟨by omega,by omega⟩ rfl λa ha=>?_;rw[adR];refine jx hq.ids ha gx rfl ?_
   repeat' first|apply ws;intros|apply wb|with_reducible refine EC hlen ?_|fail
   rw[e5];refine T.drop λw3 h3=>⟨⟨i+1,aZ,rfl,?_⟩,by show q.ids.length-((i+1:Nat):Int).toNat<q.ids.length-(i:Int).toNat;omega⟩;rw[ad',gx,aeN];simpa [adZ] using h3
  ·have gj:i=q.ids.length:=by omega
   subst gj;rw[ad3]
   repeat' first|apply ws;intros|apply wb|with_reducible refine qa ?_|fail
   exact T.dp h1
end
def q0:ic:=⟨0,[],[],0,[],0,0,0,false,false,false,0⟩
def s0:rC:=⟨none,0,none,0,none,0⟩
instance{q q':ic}{s s':rC}:Wr (dF q s) 0 (dF q' s') (dF q' s'):=⟨rfl,adW _,tR q' s'⟩
instance{q:ic}{s:rC}:Wr (dF q s) 0 [.i 0,.l none 0 0,.l none 0 0,.i 0,.l none 0 0,.u 0,.u 0,.i 0,.i 0,.bool false,.bool false,.bool false,.i 0] (dF q0 s0):=⟨rfl,adW _,tR q0 s0⟩
instance{q:ic}{s:rC}{a:Nat}{f t m:Int}{d c l:Bool}:Wr (dF q s) 5 (nm a++([.i f,.i t,.bool d,.bool c,.bool l,.i m]:LV)) (dF ⟨q.op,q.ag,q.aQ,q.now,q.ids,a,f,t,d,c,l,m⟩ s):=⟨rfl,by show 13<=13;decide,Gu ⟨q.op,q.ag,q.aQ,q.now,q.ids,a,f,t,d,c,l,m⟩⟩
def HQ(n:Int):ic:=⟨n,[],[],0,[],0,0,0,false,false,false,0⟩
def opC(n:Int):dF (HQ n) s0=[.i n,.l none 0 0,.l none 0 0,.i 0,.l none 0 0,.u 0,.u 0,.i 0,.i 0,.bool false,.bool false,.bool false,.i 0]:=by
 simp[dF,lZ,nm,HQ,s0]
instance{x1 x2 x3 x4 x5 x6 x7 x8 x9 zC zB zz zy:Value}{n:Int}:Wr [x1,x2,x3,x4,x5,x6,x7,x8,x9,zC,zB,zz,zy] 0 [.i n,.l none 0 0,.l none 0 0,.i 0,.l none 0 0,.u 0,.u 0,.i 0,.i 0,.bool false,.bool false,.bool false,.i 0] (dF (HQ n) s0):=by
 rw[<-opC n];exact⟨rfl,adW _,tR _ _⟩
def wx(l:List UInt8):ic×RS:=
 let x:RS:=(l,false)
 let y:=da 1 x
 if iG 1 x=1 then({q0 with op:=1,ag:=(many Ci D7 (iG 1 y).toNat (da 1 y)).1},(many Ci D7 (iG 1 y).toNat (da 1 y)).2)
 else if iG 1 x=2 then({q0 with op:=2,aQ:=(many Ch D6 (iG 1 y).toNat (da 1 y)).1},(many Ch D6 (iG 1 y).toNat (da 1 y)).2)
 else if iG 1 x=3 then({q0 with op:=3,now:=iG 8 y},da 8 y)
 else if iG 1 x=6 then({q0 with op:=6,tq:=vS y,fE:=iG 8 (da 16 y),rv:=iG 8 (da 8 (da 16 y)),rW:=Zw (da 8 (da 8 (da 16 y))),pz:=Zw (Hc (da 8 (da 8 (da 16 y)))),mM:=Zw (Hc (Hc (da 8 (da 8 (da 16 y))))),hI:=iG 1 (Hc (Hc (Hc (da 8 (da 8 (da 16 y))))))},
  da 1 (Hc (Hc (Hc (da 8 (da 8 (da 16 y)))))))
 else({q0 with op:=iG 1 x,ids:=(many (da 16) vS (iG 1 y).toNat (da 1 y)).1},(many (da 16) vS (iG 1 y).toNat (da 1 y)).2)
def AF(l:List UInt8):Bool:=(!(wx l).2.2&&decide ((wx l).2.1=[]))&&gp (wx l).1
def D4(x:RS):(Hc x).1.length<=x.1.length:=by
 unfold Hc;split
 ·exact qM _ _
 ·exact qM _ _
section
variable {W:World} {L R:LH} {K:VK} {X:WK} {p r:Nat} {l:List UInt8} {q:ic} {s:rC} {A:HP}
def MV(h:∀r,T W (rd r (l,false)::L) (K (.p (some ⟨r,0,none⟩)))):T W L (lH (bs l) K):=λw hs=>oq hs λr w' h'=>h r w' h'
def nA.own{α:Type}{b:OA}{n c e:Nat}{g:α->LV}{xs:List α}(hg:∀x,(g x).length=e)(hn:n=xs.length):nA W (Sep.own b n c e (xs.flatMap g)::L) g e b xs:=λw hw i x hx=>by
 obtain⟨hl,h0|⟨r,sp,hb,qP,zt,hs⟩⟩:=hw.lJ (k:=0) rfl
 ·have:=(adS.1 hx).1;omega
 ·refine⟨⟨r,0,none⟩,hb,?_⟩;subst hb;rw[dW,adU];exact yx (k:=0) hw rfl (nL hg xs i x hx)
def nA.nil{α:Type}{b:OA}{e:Nat}{g:α->LV}:nA W R g e b []:=λw hw i x hx=>by simp at hx
def Mu{r1 r2:Nat}{x:RS}(hq:kS W (A::L) q s)(yT:q.ag.length<1000000)(aZ:q.aQ.length<1000000)
 (h0:((!x.2&&decide (x.1=[]))&&gp q)=false->T W L (K (.tuple ⟨[.agg ⟨dF q0 s0⟩,.i 4]⟩)))
 (h1:((!x.2&&decide (x.1=[]))&&gp q)=true->T W (A::L) (K (.tuple ⟨[.agg ⟨dF q s⟩,.i 0]⟩))):
 T W (Sep.pt r2 (dF q s)::rd p x::Sep.pt r1 (dF q0 s0)::A::L) (iV.j1 K (some ⟨p,0,none⟩) r1 r2):=by
 unfold iV.j1;refine O0 (r:=p) ?_;refine pE ?_;cases he:(!x.2&&decide (x.1=[])) with
 |false=>
  rw[he,ae1] at h0;have h0:=h0 rfl;rw[Bool.not_false,gU];apply ws;intros;exact T.dp h0
 |true=>
  rw[he,aeS] at h0 h1;rw[Bool.not_true,cf]
  repeat' first|apply ws;intros|apply wb|with_reducible refine IY (R:=A::L) hq yT aZ ?_|fail
  cases hw:gp q with
  |false=>
   have h0:=h0 hw;apply ws;intros;exact T.dp h0
  |true=>
   have h1:=h1 hw;apply ws;intros;exact T.dp h1
def PM(hl:l.length<1099511627776)
 (h0:AF l=false->T W L (K (.tuple ⟨[.agg ⟨dF q0 s0⟩,.i 4]⟩)))
 (h1:AF l=true->∀A s,(∀L',kS W (A::L') (wx l).1 s)->T W (A::L) (K (.tuple ⟨[.agg ⟨dF (wx l).1 s⟩,.i 0]⟩))):T W L (iV (bs l) K):=by
 unfold iV;refine qE λr1=>?_;refine MV λp=>?_;refine vg ?_;refine ra hl (lX ?_);refine cK ⟨rfl,trivial⟩ ?_;refine qE λr2=>?_;apply ws;intros;have hy:=na (m:=1) (x:=(l,false)) hl;have hb:=QA (da 1 (l,false));have fin:∀(q:ic)(x:RS)(A:HP)(s:rC),wx l=(q,x)->(∀L',kS W (A::L') q s)->q.ag.length<1000000->q.aQ.length<1000000->
  T W (A::Sep.pt r2 (dF q s)::rd p x::Sep.pt r1 (dF q0 s0)::L) (iV.j1 K (some ⟨p,0,none⟩) r1 r2):=by
  intro q x A s he hq yT aZ;unfold AF at h0 h1;rw[he] at h0 h1;exact T.perm (Mu (hq L) yT aZ h0 λhh=>h1 hh A s hq) (adY (l₁:=[A]) (l₂:=[Sep.pt r2 (dF q s),rd p x,Sep.pt r1 (dF q0 s0)])|>.append_right L)
 unfold wx at fin;dsimp only at fin;generalize iG 1 (l,false)=op at fin⊢;generalize da 1 (l,false)=y at fin hy hb⊢;refine bB (λg1=>?_) (λg1=>?_)
 ·have g1:op=1:=by simpa [HQ] using g1
  subst g1;rw[if_pos rfl] at fin;refine QM hy λb c=>?_;have Gf:=wI (nx:=Ci) (nv:=D7) (iG 1 y).toNat (da 1 y);obtain⟨out,ho⟩:∃out,(many Ci D7 (iG 1 y).toNat (da 1 y)).1=out:=⟨_,rfl⟩;obtain⟨z,hz⟩:∃z,(many Ci D7 (iG 1 y).toNat (da 1 y)).2=z:=⟨_,rfl⟩;rw[ho,hz] at fin⊢;rw[ho] at Gf;refine tI ?_;refine mR (b:=b) λqP _=>?_;refine yB (r:=r2) (cs:=dF (HQ 1) s0) (o:=1) (v:=.l b out.length c) (by decide) rfl ?_;exact fin _ _ (Sep.own b out.length c 14 (out.flatMap ao)) ⟨b,c,none,0,none,0⟩ rfl (λ_=>⟨nA.own (λ_=>rfl) rfl,nA.nil,nA.nil,qP,adW _,adW _⟩) (by show out.length<_;omega) (by show 0<_;decide)
 have g1: ¬op=1:=by simpa [HQ] using g1
 rw[if_neg g1] at fin;refine bB (λg2=>?_) (λg2=>?_)
 ·have g2:op=2:=by simpa [HQ] using g2
  subst g2;rw[if_pos rfl] at fin;refine QK hy λb c=>?_;have Gf:=wI (nx:=Ch) (nv:=D6) (iG 1 y).toNat (da 1 y);obtain⟨out,ho⟩:∃out,(many Ch D6 (iG 1 y).toNat (da 1 y)).1=out:=⟨_,rfl⟩;obtain⟨z,hz⟩:∃z,(many Ch D6 (iG 1 y).toNat (da 1 y)).2=z:=⟨_,rfl⟩;rw[ho,hz] at fin⊢;rw[ho] at Gf;refine tI ?_;refine mR (b:=b) λqP _=>?_;refine yB (r:=r2) (cs:=dF (HQ 2) s0) (o:=2) (v:=.l b out.length c) (by decide) rfl ?_;exact fin _ _ (Sep.own b out.length c 16 (out.flatMap ai)) ⟨none,0,b,c,none,0⟩ rfl (λ_=>⟨nA.nil,nA.own (λ_=>rfl) rfl,nA.nil,adW _,qP,adW _⟩) (by show 0<_;decide) (by show out.length<_;omega)
 have g2: ¬op=2:=by simpa [HQ] using g2
 rw[if_neg g2] at fin;refine bB (λg3=>?_) (λg3=>?_)
 ·have g3:op=3:=by simpa [HQ] using g3
  subst g3;rw[if_pos rfl] at fin;refine s9 hy (lX ?_);refine yB (r:=r2) (cs:=dF (HQ 3) s0) (o:=3) (v:=.i (iG 8 y)) (by decide) rfl ?_;refine eW (e:=1) ?_;exact fin _ _ (Sep.own none 0 0 1 []) s0 rfl (λ_=>⟨nA.nil,nA.nil,nA.nil,adW _,adW _,adW _⟩) (by show 0<_;decide) (by show 0<_;decide)
 have g3: ¬op=3:=by simpa [HQ] using g3
 rw[if_neg g3] at fin;refine bB (λg6=>?_) (λg6=>?_)
 ·have g6:op=6:=by simpa [HQ] using g6
  subst g6;rw[if_pos rfl] at fin;have b1:=na (m:=16) hy;have b2:=na (m:=8) b1;have b3:=na (m:=8) b2;have b4:=Nat.lt_of_le_of_lt (D4 _) b3;have b5:=Nat.lt_of_le_of_lt (D4 _) b4;have b6:=Nat.lt_of_le_of_lt (D4 _) b5;refine EI hy (we rfl ?_);refine s9 b1 (lX ?_);refine s9 b2 (lX ?_);refine EK b3 (pE ?_);refine EK b4 (pE ?_);refine EK b5 (pE ?_);refine ra b6 (lX ?_);refine cK ⟨rfl,rfl,rfl,rfl,rfl,rfl,rfl,trivial⟩ ?_;refine cK rfl ?_;apply ws;intros;refine eW (e:=1) ?_;exact fin _ _ (Sep.own none 0 0 1 []) s0 rfl (λ_=>⟨nA.nil,nA.nil,nA.nil,adW _,adW _,adW _⟩) (by show 0<_;decide) (by show 0<_;decide)
 have g6: ¬op=6:=by simpa [HQ] using g6
 rw[if_neg g6] at fin;refine QL hy λb c=>?_;have Gf:=wI (nx:=da 16) (nv:=vS) (iG 1 y).toNat (da 1 y);obtain⟨out,ho⟩:∃out,(many (da 16) vS (iG 1 y).toNat (da 1 y)).1=out:=⟨_,rfl⟩;obtain⟨z,hz⟩:∃z,(many (da 16) vS (iG 1 y).toNat (da 1 y)).2=z:=⟨_,rfl⟩;rw[ho,hz] at fin⊢;rw[ho] at Gf;refine tI ?_;refine mR (b:=b) λqP _=>?_;refine yB (r:=r2) (cs:=dF (HQ op) s0) (o:=4) (v:=.l b out.length c) (by rw[Nd];decide) rfl ?_;exact fin _ _ (Sep.own b out.length c 2 (out.flatMap nm)) ⟨none,0,none,0,b,c⟩ rfl (λ_=>⟨nA.nil,nA.nil,nA.own (λ_=>rfl) rfl,adW _,adW _,qP⟩) (by show 0<_;decide) (by show 0<_;decide)
end
def IB{n:Int}{i:Nat}(hi:i<8):Go.Sep.byteOf adN n i=Go.Sep.byteOf adN (n+18446744073709551616) i:=by
 unfold Go.Sep.byteOf shr;have h1:(8* (i:Int)).toNat=8* i:=by omega
 have h2:min (8* i) adN.bits=8* i:=by show min (8* i) 64=_;omega
 rw[h1,h2];have hp:(0:Int)<2^(8* i):=Int.pow_pos (by decide);rw[Int.fdiv_eq_ediv_of_nonneg _ (Int.le_of_lt hp),Int.fdiv_eq_ediv_of_nonneg _ (Int.le_of_lt hp)];have hq:(18446744073709551616:Int)=256* 2^(56-8* i)* 2^(8* i):=by
  have:(256:Int)* 2^(56-8* i)* 2^(8* i)=2^(8+(56-8* i)+8* i):=by
   rw[Int.pow_add,Int.pow_add];rfl
  rw[this,show 8+(56-8* i)+8* i=64 by omega];rfl
 rw[hq,Int.add_mul_ediv_right _ _ (by omega)]
 congr 2
 generalize n/2^(8* i)=a;generalize (2:Int)^(56-8* i)=c;simp only[IntKind.wrap,IntKind.bits,IntKind.signed];simp
def KQ{n:Int}(h:re n):jS (le .i64 8 n)=n:=by
 unfold re at h;by_cases h0:0<=n
 ·obtain⟨m,rfl⟩:=ad1 h0;unfold jS;rw[nD m 8 (by omega)];have h8:(256:Nat)^8=18446744073709551616:=rfl;rw[h8,aez (by omega),aw (by omega)]
 ·obtain⟨m,hm⟩:=ad1 (show 0<=n+18446744073709551616 by omega);have e:le .i64 8 n=le .i64 8 (m:Int):=by
   unfold le;apply ae7;intro i hi;rw[List.mem_range] at hi;rw[IB hi,hm]
  rw[e];unfold jS;rw[nD m 8 (by omega)];have h8:(256:Nat)^8=18446744073709551616:=rfl;rw[h8,aez (by omega)];simp[IntKind.wrap,IntKind.bits,IntKind.signed];split<;>omega
def Ai(n:Nat):∀w:Nat,ka ((afl w).map λi=>UInt8.ofNat (n/256^i%256))=n%256^w
 |0=>by simp[ka,Nat.mod_one]
 |w+1=>by
  rw[List.range_succ,aen,Aj,Ai n w,aeg,List.length_range,Nat.mod_pow_succ]
  congr 2
  have e:(UInt8.ofNat (n/256^w%256)).toNat=n/256^w%256:=UInt8.toNat_ofNat_of_lt' (Nat.mod_lt _ (by decide));show(UInt8.ofNat (n/256^w%256)).toNat+256* 0=_;rw[e];omega
def PN{n:Nat}(h:n<aK):ka (nb n)=n:=by
 unfold nb;rw[Ai];exact aez (by unfold aK at h;exact h)
section
variable {r:List UInt8} {n:Int} {m:Nat}
def FA(l:List UInt8)(k:Nat)(hl:l.length=k):da k (l++r,false)=(r,false):=by
 unfold da;rw[if_neg (by simp only[aef,false_or,adT];omega),qp _ _ k hl]
def Jm(l:List UInt8)(k:Nat)(hl:l.length=k):iG k (l++r,false)=jS l:=by
 unfold iG;rw[if_neg (by simp only[aef,false_or,adT];omega),oW _ _ k hl]
def WS(h:0<=n/\n<=255):iG 1 (le .i64 1 n++r,false)=n:=by
 obtain⟨k,rfl⟩:=ad1 h.1;rw[Jm _ _ (az _ _ _),ke (by rw[az];omega),nD k 1 (by omega)];have:(256:Nat)^1=256:=rfl;rw[this,aez (by omega)]
def V2(h:0<=n/\n<=65535):iG 2 (le .i64 2 n++r,false)=n:=by
 obtain⟨k,rfl⟩:=ad1 h.1;rw[Jm _ _ (az _ _ _),ke (by rw[az];omega),nD k 2 (by omega)];have:(256:Nat)^2=65536:=rfl;rw[this,aez (by omega)]
def rd4(h:0<=n/\n<=4294967295):iG 4 (le .i64 4 n++r,false)=n:=by
 obtain⟨k,rfl⟩:=ad1 h.1;rw[Jm _ _ (az _ _ _),ke (by rw[az];omega),nD k 4 (by omega)];have:(256:Nat)^4=4294967296:=rfl;rw[this,aez (by omega)]
def V1(h:re n):iG 8 (le .i64 8 n++r,false)=n:=by
 rw[Jm _ _ (az _ _ _),KQ h]
def Pk(h:m<aK):vS (nb m++r,false)=m:=by
 unfold vS KP;rw[if_neg (by simp),if_neg (by show ¬(nb m++r).length<16;rw[adT,rl];omega)];show ka ((nb m++r).take 16)=m;rw[oW _ _ 16 (rl m),PN h]
def WX:da 1 (le .i64 1 n++r,false)=(r,false):=FA _ _ (az _ _ _)
def V3:da 2 (le .i64 2 n++r,false)=(r,false):=FA _ _ (az _ _ _)
def Zv:da 4 (le .i64 4 n++r,false)=(r,false):=FA _ _ (az _ _ _)
def T1:da 8 (le .i64 8 n++r,false)=(r,false):=FA _ _ (az _ _ _)
def Qz:da 16 (nb m++r,false)=(r,false):=FA _ _ (rl _)
def AZ(a:aP):Ci (ib a++r,false)=(r,false):=by
 have e:ib a++r=nb a.id++(nb a.dp++(nb a.dq++(nb a.cp++(nb a.cq++(le .i64 4 a.aF++(le .i64 2 a.code++(le .i64 2 a.flags++(le .i64 8 a.ae++r)))))))):=by
  unfold ib;simp[adZ]
 rw[e];unfold Ci;simp only[uF,Qz,Zv,V3,T1]
def FO{a:aP}(ha:uu a)(hg:mB a):D7 (ib a++r,false)=a:=by
 unfold D7;rw[AZ,if_neg (by simp)];have e:ib a++r=nb a.id++(nb a.dp++(nb a.dq++(nb a.cp++(nb a.cq++(le .i64 4 a.aF++(le .i64 2 a.code++(le .i64 2 a.flags++(le .i64 8 a.ae++r)))))))):=by
  unfold ib;simp[adZ]
 rw[e];simp only[uF,Qz,Zv,V3,T1];rw[Pk ha.id,Pk ha.dp,Pk ha.dq,Pk ha.cp,Pk ha.cq,rd4 hg.1,V2 hg.2.1,V2 hg.2.2,V1 ha.ae]
def FV(t:Move):mK t++r=nb t.id++(nb t.aE++(nb t.ar++(nb t.aB++(nb t.pending++(le .i64 4 t.timeout++(le .i64 4 t.aF++(le .i64 2 t.code++(le .i64 2 t.flags++(le .i64 8 t.ae++(le .i64 8 t.born++r)))))))))):=by
 unfold mK;simp[adZ]
def wE(t:Move):Ch (mK t++r,false)=(r,false):=by
 rw[FV];unfold Ch;simp only[uF,Qz,Zv,V3,T1]
def A0{t:Move}(ht:tB t)(hg:jZ t):D6 (mK t++r,false)=t:=by
 unfold D6;rw[wE,if_neg (by simp),FV];simp only[uF,Qz,Zv,V3,T1];rw[Pk ht.id,Pk ht.aE,Pk ht.ar,Pk ht.aB,Pk ht.pending,rd4 hg.1,rd4 hg.2.1,V2 hg.2.2.1,V2 hg.2.2.2,V1 ht.ae,V1 ht.born]
def A9{α:Type}{nx:RS->RS}{nv:RS->α}{g:α->List UInt8}:∀(l:List α),(∀x∈l,∀r,nx (g x++r,false)=(r,false)/\nv (g x++r,false)=x)->∀r,many nx nv l.length (l.flatMap g++r,false)=(l,(r,false))
 |[],_,r=>rfl
 |x::l,h,r=>by
  rw[ad8,ox,aeE,adZ,(h x (by simp) _).1,(h x (by simp) _).2,A9 l (λy hy=>h y (by simp[hy])) r]
  rfl
end
def canon(q:ic):ic:=if q.op=1 then{q0 with op:=1,ag:=q.ag} else if q.op=2 then{q0 with op:=2,aQ:=q.aQ} else{q0 with op:=3,now:=q.now}
def CQ{q:ic}(hw:gp q=true)(he:db q=true)(hA:∀a∈q.ag,uu a)(hT:∀t∈q.aQ,tB t):wx (ch q)=(canon q,([],false)):=by
 have Ut:q.op=1\/q.op=2\/q.op=3:=of_decide_eq_true he;have hf:=np hw;unfold wx ch canon;dsimp only;rw[WS (by omega),WX];by_cases o1:q.op=1
 ·have zR:q.ag.length<=8/\∀a∈q.ag,mB a:=by rcases hf with h|h|h|h|h<;>first|exact h.2|omega
  rw[if_pos o1,if_pos o1,if_pos o1,WS (by omega),WX,adR];have:=A9 (nx:=Ci) (nv:=D7) (g:=ib) q.ag (λa ha r=>⟨AZ a,FO (hA a ha) (zR.2 a ha)⟩) [];rw[aeb] at this;rw[this]
 by_cases o2:q.op=2
 ·have zR:q.aQ.length<=8/\∀a∈q.aQ,jZ a:=by rcases hf with h|h|h|h|h<;>first|exact h.2|omega
  rw[if_neg o1,if_neg o1,if_neg o1,if_pos o2,if_pos o2,if_pos o2,WS (by omega),WX,adR];have:=A9 (nx:=Ch) (nv:=D6) (g:=mK) q.aQ (λa ha r=>⟨wE a,A0 (hT a ha) (zR.2 a ha)⟩) [];rw[aeb] at this;rw[this]
 ·have o3:q.op=3:=by omega
  have zR:0<=q.now/\q.now<=1099511627776:=by rcases hf with h|h|h|h|h<;>first|exact h.2|omega
  rw[if_neg o1,if_neg o1,if_neg o1,if_neg o2,if_neg o2,if_neg o2,if_pos o3,if_pos o3];have e8:le .i64 8 q.now=le .i64 8 q.now++[]:=(aeb _).symm;rw[e8,V1 (by unfold re;omega),T1]
def BF(m:Model){q:ic}(he:db q=true):aJ m (canon q)=aJ m q/\jv (canon q)=jv q:=by
 have Ut:q.op=1\/q.op=2\/q.op=3:=of_decide_eq_true he;unfold canon;by_cases o1:q.op=1
 ·rw[if_pos o1];unfold aJ jv;simp[o1]
 by_cases o2:q.op=2
 ·rw[if_neg o1,if_pos o2];unfold aJ jv;simp[o2]
 ·have o3:q.op=3:=by omega
  rw[if_neg o1,if_neg o2];unfold aJ jv;simp[o3]
def BG{q:ic}(hw:gp q=true)(he:db q=true):gp (canon q)=true/\db (canon q)=true:=by
 have Ut:q.op=1\/q.op=2\/q.op=3:=of_decide_eq_true he;unfold gp kR lK at *;rw[(BF ⟨[],[],0,0⟩ he).2];unfold db canon;by_cases o1:q.op=1
 ·simp[o1] at hw⊢;exact hw
 by_cases o2:q.op=2
 ·simp[o2] at hw⊢;exact hw
 ·have o3:q.op=3:=by omega
  simp[o3] at hw⊢;exact hw
def Fz{q:ic}(hw:gp q=true)(he:db q=true)(hA:∀a∈q.ag,uu a)(hT:∀t∈q.aQ,tB t):AF (ch q)=true:=by
 unfold AF;rw[CQ hw he hA hT,(BG hw he).1];rfl
section
variable {W:World} {L R:LH} {K:VK} {X:WK} {p:Nat} {b:ax}
def LF{q:Core}{f:Core->LH}[i:Lc (dM p) L q f](hl:q.vs.length<1000000)(h:T W (f {q with vs:=[]}) (K (.tuple ⟨[]⟩))):T W L (jc (some ⟨p,0,none⟩) K):=by
 refine mD (p:=p) λb1 c1 b2 c2 b3 c3 hp R2 g1 g2 N3=>?_;unfold jc fx;apply ws;intros;refine mR (b:=b1) λqP De=>?_;refine MP (b:=b1) (by rw[ku,De];simp) (λv hv=>?_) λzs=>?_
 ·simp only[Builtin.zeroCells,Array.toList_map,aeA] at hv;obtain⟨j,_,rfl⟩:=hv;have:(⟨[Value.nilFunc]⟩:Array Value)[j%(⟨[Value.nilFunc]⟩:Array Value).size]! =.nilFunc:=by
   have:j%(⟨[Value.nilFunc]⟩:Array Value).size=0:=Nat.mod_one j;rw[this];rfl
  rw[this];rfl
 apply ws;intros;refine vj (i:=0) (by omega) ?_;refine xv (b:=b1) (i:=0) (by omega) ?_;apply ws;intros;rw[Nat.zero_mul,aff];exact N3 [] {q with vs:=[]} b1 c1 b2 c2 b3 c3 hp _ g1 g2 h
def Fg{α:Type}{g:α->LV}{e l:Nat}(h:T W (od g e l (p,[])::L) X):T W (Sep.pt l [.l none 0 0,.p (some (ad p 0))]::L) X:=λw hw=>by
 have h2:=(hw.push (A:=own none 0 0 e []) (oM e)).perm (aeh.swap _ _ _);exact h w (St.nM (none,0) (St.mY [_,_] L h2))
def OG(h:∀p la lk ti tn,T W (dM p ⟨la,lk,ti,tn,[],[],[],0,0⟩::od ao 14 la (p,[])::od aI 33 lk (p,[])::ln ti (λ_=>none,0)::ln tn (λ_=>none,0)::L) (K (.p (some ⟨p,0,none⟩)))):T W L (pY K):=by
 unfold pY;refine Tb λti=>?_;refine vg ?_;refine Tb λtn=>?_;refine vg ?_;refine cK ⟨rfl,rfl,trivial⟩ ?_;refine qE λr=>?_;unfold mC om;refine vh ?_;refine cK ⟨rfl,trivial⟩ ?_;refine qE λla=>?_;refine vg ?_;refine cK ⟨rfl,trivial⟩ ?_;refine qE λlk=>?_;refine vg ?_;refine yB (r:=r) (cs:=[.l none 0 0,.p none,.p none,.p (some ⟨ti,0,none⟩),.p (some ⟨tn,0,none⟩),.l none 0 0,.l none 0 0,.i 0,.i 0]) (o:=1) (v:=.p (some ⟨la,0,none⟩)) (by show 1<9;decide) rfl ?_;refine yB (r:=r) (cs:=[.l none 0 0,.p (some ⟨la,0,none⟩),.p none,.p (some ⟨ti,0,none⟩),.p (some ⟨tn,0,none⟩),.l none 0 0,.l none 0 0,.i 0,.i 0]) (o:=2) (v:=.p (some ⟨lk,0,none⟩)) (by show 2<9;decide) rfl ?_;refine Fg (g:=aI) (e:=33) ?_;refine T.HF (Fg (g:=ao) (e:=14) ?_);refine eW (e:=4) (eW (e:=2) (eW (e:=1) ?_));have:=vK (W:=W) (p:=r) (q:=⟨la,lk,ti,tn,[],[],[],0,0⟩) (b1:=none) (c1:=0) (b2:=none) (c2:=0) (b3:=none) (c3:=0) (h:=[]) (X:=K (.p (some ⟨r,0,none⟩))) (λj hj x y hx=>by simp at hx) (aeh.refl _) (h r la lk ti tn);refine T.perm this ?_;exact(adY (l₁:=[_,_,_,_,_]) (l₂:=[_])|>.append_right (_::_::L)).trans (aeh.append_left [_,_,_,_,_,_] (aeh.swap _ _ _))
def Da{α:Type}{key:α->Nat}{l:List α}(hn:(l.map key).Nodup){i:Nat}{x:α}(hx:l[i]?=some x):(l.take i).find? (λa=>key a=key x)=none:=by
 obtain⟨hi,rfl⟩:=adS.1 hx;rw[afb];intro a ha hk;obtain⟨j,hj,rfl⟩:=List.getElem_of_mem ha;rw[adV] at hj;rw[List.getElem_take] at hk;have:=aeW.1 hn j i (by simpa using by omega) (by simpa using hi) (by omega);simp only[List.getElem_map] at this;exact this (by simpa using hk)
def B8(l:List Kept)(j:Nat):cL 0 (l.take j)=(cL 0 l).take j:=by
 apply afa;intro i;rw[iO,afg,afg,iO];split<;>rfl
def VE(hg:Good b){sa sk:OA}{ca ck:Nat}[hh:Has R L](hA:nA W R ao 14 sa b.ag)(hK:nA W R aI 33 sk b.kept)
 (h:∀p,T W (bj p (b,[])::L) (K (.tuple ⟨[.p (some ⟨p,0,none⟩),.i 0]⟩))):T W L (cx sa b.ag.length ca sk b.kept.length ck b.clock b.ae K):=by
 have lh:=hg.lh;have many:=hg.many;have rG:=hg.ae;have XY:=hg.clock;unfold cx;refine OG λp la lk ti tn=>?_;refine vg ?_;refine dX (by simp;omega) ?_;unfold cx.j3;rw[show decide (((b.kept.length:Nat):Int)>96)=false by simp;omega,cf];unfold cx.j4;rw[show decide (b.clock<0)=false by simp;omega,cf];unfold cx.j5;rw[show decide (b.clock>1099511627776)=false by simp;omega,cf];refine dX (by simp;omega) ?_;rw[show decide (b.ae>1099511627776)=false by simp;omega];unfold cx.j1;rw[cf];intro w L6;refine⟨λvv w=>∃(i:Nat)(vs:LV),i<=b.ag.length/\vs.length=i/\vv=[.p none,.i 0,.p (some ⟨p,0,none⟩),.l sa b.ag.length ca,.i (b.ag.length:Int),.i (i:Int)]/\
                                                                                                                                                                     St W w (dM p ⟨la,lk,ti,tn,vs,[],[],0,0⟩::od ao 14 la (p,b.ag.take i)::od aI 33 lk (p,[])::ln ti (Ec (b.ag.take i))::ln tn (λ_=>none,0)::L),
  λvs _=>match vs with|[_,_,_,_,_,.int _ d]=>b.ag.length-d.toNat|_=>0,⟨0,[],ad0 _,rfl,rfl,L6⟩,?_⟩
 rintro p2 n3 p3 rj pn qK n4 n5 w2 ⟨i,vs,hi,hvs,e,fj⟩;cases e
 refine T.at ?_ fj;have e5:=l9 i;refine dO (λg1=>?_) (λg1=>?_)
 ·have aZ:i<b.ag.length:=by omega
  have gx:=adQ aZ;generalize b.ag[i]=x at gx;have Lg:=Da (key:=λx:aP=>x.id) hg.ids gx;have kM:(Ec (b.ag.take i)).1 x.id=none:=by show aft _ _=_;rw[mO (key:=λx:aP=>x.id) Lg];rfl
  have zq:(b.ag.take i).length=i:=by rw[adV];omega
  have hsn:=wO (key:=λx:aP=>x.id) Lg;have oz:b.ag.take (i+1)=b.ag.take i++[x]:=by rw[ad',gx];rfl
  refine jy hA ⟨by omega,by omega⟩ rfl λa ha=>?_;rw[adR];refine jx hA ha gx rfl ?_;apply ws;intros;refine zh (t:=ti) (x:=Ec (b.ag.take i)) ?_;rw[kM];simp only[aew,aeI];apply ws;intros;refine Pj (p:=p) (l:=la) (x:=x) (items:=b.ag.take i) (by rw[zq];omega) (by show vs.length<_;omega) λr3 r4=>?_;apply ws;intros;refine Ki (t:=ti) (x:=Ec (b.ag.take i)) (by show(b.ag.take i).length<=1000;omega) kM ?_;apply ws;intros;rw[e5];refine T.drop (T.drop (T.drop ?_));refine λw3 h3=>⟨⟨i+1,vs++[xi r3 r4],aZ,by simp;omega,rfl,?_⟩,by show b.ag.length-((i+1:Nat):Int).toNat<b.ag.length-(i:Int).toNat;omega⟩;rw[oz];rw[show Ec (b.ag.take i++[x])=_ from hsn];exact h3
 ·have gj:i=b.ag.length:=by omega
  subst gj;rw[ad3];intro w3 Xg;refine⟨λvv w=>∃(j:Nat)(vs:LV),j<=b.kept.length/\vs.length<=1000+j/\vv=[.p none,.i 0,.p (some ⟨p,0,none⟩),.l sk b.kept.length ck,.i (b.kept.length:Int),.i (j:Int)]/\
              St W w (dM p ⟨la,lk,ti,tn,vs,cL 0 (b.kept.take j),(b.kept.take j).filterMap df,0,0⟩::od ao 14 la (p,b.ag)::od aI 33 lk (p,b.kept.take j)::ln ti (Ec b.ag)::ln tn (B2 (b.kept.take j))::L),
   λvs _=>match vs with|[_,_,_,_,_,.int _ d]=>b.kept.length-d.toNat|_=>0,⟨0,vs,ad0 _,by omega,rfl,Xg⟩,?_⟩
  rintro p7 n8 p8 yD xy xD n9 Zx w5 ⟨j,tG,hj,aaq,e,JM⟩;cases e
  refine T.at ?_ JM;have e6:=l9 j;refine dO (λg1=>?_) (λg1=>?_)
  ·have aZ:j<b.kept.length:=by omega
   have gx:=adQ aZ;have gk:=hg.L5 _ (aee aZ);have Lb:∀k∈b.kept.take j,k.move.ae<(b.kept[j]'aZ).move.ae:=λk hk=>by
    obtain⟨m,hm,rfl⟩:=List.getElem_of_mem hk;rw[adV] at hm;rw[List.getElem_take];exact aeW.1 hg.rising m j (by omega) aZ (by omega)
   generalize b.kept[j]=x at gx gk Lb;have Lg:=Da (key:=λx:Kept=>x.move.id) hg.names gx;have kM:(B2 (b.kept.take j)).1 x.move.id=none:=by show aft _ _=_;rw[mO (key:=λx:Kept=>x.move.id) Lg];rfl
   have zq:(b.kept.take j).length=j:=by rw[adV];omega
   have hsn:=wO (key:=λx:Kept=>x.move.id) Lg;have oz:b.kept.take (j+1)=b.kept.take j++[x]:=by rw[ad',gx];rfl
   have Xr:oH (cL 0 (b.kept.take j)):=by rw[B8];exact List.Pairwise.sublist (List.take_sublist _ _) hg.tQ
   refine jy hK ⟨by omega,by omega⟩ rfl λa ha=>?_;rw[adR];refine jx hK ha gx rfl ?_;apply ws;intros;rename_i r2;refine zh (t:=tn) (x:=B2 (b.kept.take j)) ?_;rw[kM];simp only[aew,aeI];apply ws;intros;refine dX (by have:=gk.fate;simp;omega) ?_;apply ws;intros;refine dX (by have:=gk.fate;simp;omega) ?_;apply ws;intros;refine IN (l:=lk) ?_;rw[zq];apply ws;intros;refine J1 (p:=p) Xr (by rw[iN];omega) (λy hy=>?_) ?_
   ·obtain⟨k,hk,e⟩:=wh hy;rw[e];exact Lb k hk
   apply ws;intros;unfold cx.j2;rw[Bool.not_true,cf];apply ws;intros;refine Pa (p:=p) (l:=lk) (x:=x) (items:=b.kept.take j) (by rw[zq];omega) (by show tG.length<_;omega) λr3 r4=>?_;rw[zq];apply ws;intros;refine Ki (t:=tn) (x:=B2 (b.kept.take j)) (by show(b.kept.take j).length<=1000;omega) kM ?_;apply ws;intros;refine Om (k:=x) gk ?_;apply ws;intros;rename_i r5;rw[e6];have Ck:cL 0 (b.kept.take (j+1))=cL 0 (b.kept.take j)++[(x.move.ae,(j:Int))]:=by rw[oz,ri,zq,adU]
   have XM:B2 (b.kept.take (j+1))=(sj (B2 (b.kept.take j)).1 x.move.id (some (j:Int)),(B2 (b.kept.take j)).2+1):=by rw[oz];rw[show B2 (b.kept.take j++[x])=_ from hsn,zq]
   cases hd:df x with
   |none=>
    simp only[aew];apply ws;intros;refine T.drop (T.drop (T.drop (T.drop ?_)));refine λw3 h3=>⟨⟨j+1,tG++[qZ r3 r4],aZ,by simp;omega,rfl,?_⟩,by show b.kept.length-((j+1:Nat):Int).toNat<b.kept.length-(j:Int).toNat;omega⟩;have Lh:(b.kept.take (j+1)).filterMap df=(b.kept.take j).filterMap df:=by rw[oz,List.filterMap_append];simp[hd]
    rw[Ck,XM,Lh,oz];exact h3
   |some y=>
    have ey:Ip x=y:=by
     unfold df at hd;split at hd
     ·cases hd;rfl
     ·cases hd
    simp only[aep];rw[ey];apply ws;intros;simp only[dW,adU];refine Ey (p:=p) (e':=(b.kept.take j).filterMap df++[y]) (by
     have:=List.length_filterMap_le df (b.kept.take j)
     show((b.kept.take j).filterMap df).length<_
     omega) (aeh.refl _) ?_
    apply ws;intros;refine T.drop (T.drop (T.drop (T.drop ?_)));refine λw3 h3=>⟨⟨j+1,tG++[qZ r3 r4],aZ,by simp;omega,rfl,?_⟩,by show b.kept.length-((j+1:Nat):Int).toNat<b.kept.length-(j:Int).toNat;omega⟩;have Lh:(b.kept.take (j+1)).filterMap df=(b.kept.take j).filterMap df++[y]:=by rw[oz,List.filterMap_append];simp[hd]
    rw[Ck,XM,Lh,oz];exact h3
  ·have gj:j=b.kept.length:=by omega
   subst gj;rw[ad3];apply ws;intros;refine Hu (p:=p) ?_;apply ws;intros;refine Ht (p:=p) ?_;apply ws;intros;refine LF (p:=p) (by show tG.length<_;omega) ?_;apply ws;intros;have fin:=h p;intro w7 hw7;have h2:=hw7.push (A:=rA []) trivial;refine z7 (p:=p) (la:=la) (lk:=lk) (ti:=ti) (tn:=tn) (vs:=[]) (bx:=[]) (c:=cY b) (hs:=[]) (R:=L) trivial (λw hw=>fin w (St.and_intro hg hw)) w7 ?_;exact h2.perm (adY (l₁:=[rA []]) (l₂:=[_,_,_,_,_])|>.append_right L)
end
def lW(k:Kept):List UInt8:=mK k.asked++mK k.move++le .i64 1 k.fate
def rQ(k:Kept):(lW k).length=217:=by unfold lW;rw[adT,adT,ow,ow,az]
def u5(b:ax):List UInt8:=le .i64 1 1++le .i64 8 b.clock++le .i64 8 b.ae++le .i64 2 (b.ag.length:Int)++le .i64 2 (b.kept.length:Int)
def Di(b:ax):(u5 b).length=21:=by simp only[u5,adT,az]
def bO(b:ax):List UInt8:=u5 b++b.ag.flatMap ib++b.kept.flatMap lW
section
variable {W:World} {L R:LH} {K:VK} {X:WK} {p:Nat} {b:ax} {hs:List C} {f:ax×List C->LH}
def ET[i:Lc (bj p) L (b,hs) f](h:T W L (K (.i b.clock))):T W L (iu (some ⟨p,0,none⟩) K):=by
 have hL:f (b,hs)=L:=i.same;refine Hb (p:=p) λla lk ti tn vs bx R hg hc lY=>?_;have fin:=lY [] b hs vs bx _ hg hc (by rw[hL];exact h);unfold iu;apply ws;intros;exact fin
def Kc[i:Lc (bj p) L (b,hs) f](h:T W L (K (.i b.ae))):T W L (jW (some ⟨p,0,none⟩) K):=by
 have hL:f (b,hs)=L:=i.same;refine Hb (p:=p) λla lk ti tn vs bx R hg hc lY=>?_;have fin:=lY [] b hs vs bx _ hg hc (by rw[hL];exact h);unfold jW;apply ws;intros;exact fin
def vQ[i:Lc (bj p) L (b,hs) f](h:∀bb c,T W (own bb b.ag.length c 14 (b.ag.flatMap ao)::L) (K (.l bb b.ag.length c))):T W L (fP (some ⟨p,0,none⟩) K):=by
 have hL:f (b,hs)=L:=i.same;refine Hb (p:=p) λla lk ti tn vs bx R hg hc lY=>?_;have lh:=hg.lh;unfold fP;apply ws;intros;refine VP (l:=la) (by show b.ag.length<_;omega) λbb c=>?_;apply ws;intros;exact lY [_] b hs vs bx _ hg hc (by rw[hL];exact h bb c)
def EN[i:Lc (bj p) L (b,hs) f](h:∀bb c,T W (own bb b.kept.length c 33 (b.kept.flatMap aI)::L) (K (.l bb b.kept.length c))):T W L (ir (some ⟨p,0,none⟩) K):=by
 have hL:f (b,hs)=L:=i.same;refine Hb (p:=p) λla lk ti tn vs bx R hg hc lY=>?_;have many:=hg.many;unfold ir;apply ws;intros;refine VH (l:=lk) (by show b.kept.length<_;omega) λbb c=>?_;apply ws;intros;exact lY [_] b hs vs bx _ hg hc (by rw[hL];exact h bb c)
def CH[i:Lc (bj p) L (b,hs) f](h:T W L (K (.string (bs (bO b))))):T W L (o0 (some ⟨p,0,none⟩) K):=by
 refine mX (p:=p) λhg=>?_;have lh:=hg.lh;have many:=hg.many;unfold o0;refine MQ ?_;refine qE λr1=>?_;refine MR ?_;refine pM (by simp) (xu ?_);refine ET (p:=p) (lX ?_);refine uP (by simp only[adT,ael,az];omega) (xu ?_);refine Kc (p:=p) (lX ?_);refine uP (by simp only[adT,ael,az];omega) (xu ?_);refine vQ (p:=p) λb1 c1=>?_;refine tI ?_;refine z' (by simp only[adT,ael,az];omega) (xu ?_);refine EN (p:=p) λb2 c2=>?_;refine tI ?_;refine z' (by simp only[adT,ael,az];omega) (xu ?_);refine vQ (p:=p) λb3 c3=>?_;refine tI ?_;have e0:[]++le .i64 1 1++le .i64 8 b.clock++le .i64 8 b.ae++le .i64 2 (b.ag.length:Int)++le .i64 2 (b.kept.length:Int)=u5 b:=by unfold u5;simp
 rw[e0];intro w L6;refine⟨λvv w=>∃i:Nat,i<=b.ag.length/\vv=[.string .empty,.p (some (ad r1 0)),.l b3 b.ag.length c3,.i (b.ag.length:Int),.i (i:Int)]/\
    St W w (own b3 b.ag.length c3 14 (b.ag.flatMap ao)::own b2 b.kept.length c2 33 (b.kept.flatMap aI)::own b1 b.ag.length c1 14 (b.ag.flatMap ao)::buf r1 (u5 b++(b.ag.take i).flatMap ib)::L),
  λvs _=>match vs with|[_,_,_,_,.int _ d]=>b.ag.length-d.toNat|_=>0,⟨0,ad0 _,rfl,by simpa using L6⟩,?_⟩
 rintro s1 a1 yD xy xD n3 n4 w2 ⟨i,hi,e,fj⟩;cases e
 refine T.at ?_ fj;have e5:=l9 i;have hlen:(u5 b++(b.ag.take i).flatMap ib).length<=21+32* 96:=by
  rw[adT,Di,dP oG,adV];have:min i b.ag.length* 96<=32* 96:=aeC _ (by omega);omega
 refine dO (λg1=>?_) (λg1=>?_)
 ·have aZ:i<b.ag.length:=by omega
  have gx:=adQ aZ;have gm:=(hg.Mo _ (aee aZ)).uY;generalize b.ag[i]=x at gx gm;refine bR (b:=b3) ⟨by omega,by omega⟩ λrb hb=>?_;subst hb;rw[adR];refine dy (λ_=>rfl) gx ?_
  repeat' first|apply ws;intros|apply wb|with_reducible refine OO gm (by omega) ?_|fail
  rw[e5];refine T.drop λw3 h3=>⟨⟨i+1,aZ,rfl,?_⟩,by show b.ag.length-((i+1:Nat):Int).toNat<b.ag.length-(i:Int).toNat;omega⟩;rw[ad',gx,aeN];simpa [adZ] using h3
 ·have gj:i=b.ag.length:=by omega
  subst gj;rw[ad3] at hlen⊢;refine EN (p:=p) λb5 c5=>?_;refine tI ?_;intro w4 hw4;refine⟨λvv w=>∃j:Nat,j<=b.kept.length/\vv=[.string .empty,.p (some (ad r1 0)),.l b5 b.kept.length c5,.i (b.kept.length:Int),.i (j:Int)]/\
              St W w (own b5 b.kept.length c5 33 (b.kept.flatMap aI)::own b3 b.ag.length c3 14 (b.ag.flatMap ao)::own b2 b.kept.length c2 33 (b.kept.flatMap aI)::own b1 b.ag.length c1 14 (b.ag.flatMap ao)::buf r1 (u5 b++b.ag.flatMap ib++(b.kept.take j).flatMap lW)::L),
   λvs _=>match vs with|[_,_,_,_,.int _ d]=>b.kept.length-d.toNat|_=>0,⟨0,ad0 _,rfl,by simpa using hw4⟩,?_⟩
  rintro s2 a3 Zt WO VT n5 n6 w5 ⟨j,hj,e,JM⟩;cases e
  refine T.at ?_ JM;have e6:=l9 j;have wQ:(u5 b++b.ag.flatMap ib++(b.kept.take j).flatMap lW).length<=21+32* 96+96* 217:=by
   rw[adT,dP rQ,adV];have:min j b.kept.length* 217<=96* 217:=aeC _ (by omega);omega
  refine dO (λg1=>?_) (λg1=>?_)
  ·have aZ:j<b.kept.length:=by omega
   have gx:=adQ aZ;have gm:=hg.L5 _ (aee aZ);generalize b.kept[j]=x at gx gm;refine bR (b:=b5) ⟨by omega,by omega⟩ λrb hb=>?_;subst hb;rw[adR];refine dy (λ_=>rfl) gx ?_
   repeat' first|apply ws;intros|apply wb|with_reducible refine Hv gm.IH (by omega) ?_|fail
   refine Hv gm.Jw (by rw[adT,ow];omega) (xu ?_)
   repeat' first|apply ws;intros|apply wb|with_reducible refine pM (by simp only[adT,ow] at wQ⊢;omega) ?_|fail
   rw[e6];refine T.drop λw3 h3=>⟨⟨j+1,aZ,rfl,?_⟩,by show b.kept.length-((j+1:Nat):Int).toNat<b.kept.length-(j:Int).toNat;omega⟩;rw[ad',gx,aeN];simpa [adZ,lW] using h3
  ·have gj:j=b.kept.length:=by omega
   subst gj;rw[ad3];refine qa (p:=r1) (PW ?_);exact T.dp h
end
section
variable {W:World} {L R:LH} {K:VK} {X:WK} {p:Nat} {b:ax}
def vn{b:ax}(hg:Good b):(bO b).length=21+b.ag.length* 96+b.kept.length* 217:=by
 unfold bO;rw[adT,adT,Di,dP oG,dP rQ]
def Fm(hg:Good b)(h:∀p,T W (bj p (b,[])::L) (K (.tuple ⟨[.p (some ⟨p,0,none⟩),.i 0]⟩))):T W L (kW (bs (bO b)) K):=by
 have lh:=hg.lh;have many:=hg.many;have rG:=hg.ae;have XY:=hg.clock;have hlen:=vn hg;have sR:bO b=le .i64 1 1++(le .i64 8 b.clock++(le .i64 8 b.ae++(le .i64 2 (b.ag.length:Int)++(le .i64 2 (b.kept.length:Int)++(b.ag.flatMap ib++b.kept.flatMap lW))))):=by
  unfold bO u5;simp only[adZ]
 unfold kW;refine MV λr=>?_;refine vg ?_;refine ra (by show(bO b).length<_;omega) (lX ?_);rw[sR];rw[WS (by omega),WX];refine dX (by decide) ?_;have NT:(le .i64 8 b.clock++(le .i64 8 b.ae++(le .i64 2 (b.ag.length:Int)++(le .i64 2 (b.kept.length:Int)++(b.ag.flatMap ib++b.kept.flatMap lW))))).length<1099511627776:=by
  rw[sR,adT] at hlen;omega
 refine s9 NT (lX ?_);rw[V1 (by unfold re;omega),T1];rw[adT] at NT;have Pu:(le .i64 8 b.ae++(le .i64 2 (b.ag.length:Int)++(le .i64 2 (b.kept.length:Int)++(b.ag.flatMap ib++b.kept.flatMap lW)))).length<1099511627776:=by omega
 refine s9 Pu (lX ?_);rw[V1 (by unfold re;omega),T1];rw[adT] at Pu;have ZL:(le .i64 2 (b.ag.length:Int)++(le .i64 2 (b.kept.length:Int)++(b.ag.flatMap ib++b.kept.flatMap lW))).length<1099511627776:=by omega
 refine Aa ZL (lX ?_);rw[V2 (by omega),V3];rw[adT] at ZL;have hl5:(le .i64 2 (b.kept.length:Int)++(b.ag.flatMap ib++b.kept.flatMap lW)).length<1099511627776:=by omega
 refine Aa hl5 (lX ?_);rw[V2 (by omega),V3];refine uQ (r:=r) (pE ?_);rw[cf];refine RY (r:=r) (lX ?_);have Bj:(b.ag.flatMap ib++b.kept.flatMap lW).length=b.ag.length* 96+b.kept.length* 217:=by
  rw[adT,dP oG,dP rQ]
 have e1:adN.wrap ((b.ag.length:Int)* 96)=(b.ag.length:Int)* 96:=aw (by omega);have e2:adN.wrap ((b.kept.length:Int)* 217)=(b.kept.length:Int)* 217:=aw (by omega);have e3:adN.wrap ((b.ag.length:Int)* 96+(b.kept.length:Int)* 217)=(b.ag.length:Int)* 96+(b.kept.length:Int)* 217:=aw (by omega);rw[e1,e2,e3];rw[if_neg (by simp),show((((b.ag.flatMap ib++b.kept.flatMap lW).length:Nat):Int)!=(b.ag.length:Int)* 96+(b.kept.length:Int)* 217)=false by rw[Bj];simp];unfold kW.j1;rw[cf];refine eW (e:=14) ?_;intro w L6;refine⟨λvv w=>∃(i:Nat)(bo:OA)(cc:Nat),i<=b.ag.length/\vv=[.p none,.i 0,.p (some ⟨r,0,none⟩),.i b.clock,.i b.ae,.i (b.kept.length:Int),.l bo (b.ag.take i).length cc,.i (b.ag.length:Int),.i (i:Int)]/\
                                                                                                                                                                                                                                                                                                      St W w (own bo (b.ag.take i).length cc 14 ((b.ag.take i).flatMap ao)::rd r ((b.ag.drop i).flatMap ib++b.kept.flatMap lW,false)::L),
  λvs _=>match vs with|[_,_,_,_,_,_,_,_,.int _ d]=>b.ag.length-d.toNat|_=>0,⟨0,none,0,ad0 _,rfl,L6⟩,?_⟩
 rintro p2 n6 p3 n7 n8 n9 bo VR cc Zx T4 w2 ⟨i,b0,c0,hi,e,fj⟩;cases e
 refine T.at ?_ fj;have e5:=l9 i;have zq:(b.ag.take i).length=i:=by rw[adV];omega
 refine dO (λg1=>?_) (λg1=>?_)
 ·have aZ:i<b.ag.length:=by omega
  have gm:=hg.Mo _ (aee aZ);have gx:=adQ aZ;have XU:b.ag.drop i=b.ag[i]::b.ag.drop (i+1):=aev aZ;generalize b.ag[i]=x at gm gx XU;have zt:(b.ag.drop i).flatMap ib++b.kept.flatMap lW=ib x++((b.ag.drop (i+1)).flatMap ib++b.kept.flatMap lW):=by rw[XU,aeE,adZ]
  have De:((b.ag.drop i).flatMap ib++b.kept.flatMap lW).length<1099511627776:=by
   rw[adT,dP oG,dP rQ,ad2];have:(b.ag.length-i)* 96<=32* 96:=aeC _ (by omega);have:b.kept.length* 217<=96* 217:=aeC _ (by omega);omega
  rw[zt] at De⊢;refine OP De ?_;rw[AZ,FO gm.ok gm.uY];apply ws;intros;refine gY (b:=bo) (x:=x) rfl rfl rfl (by omega) (by omega) (eV _) λb2 c2=>?_;rw[e5];have oz:b.ag.take (i+1)=b.ag.take i++[x]:=by rw[ad',gx];rfl
  refine T.drop λw3 h3=>⟨⟨i+1,b2,c2,aZ,?_,?_⟩,by show b.ag.length-((i+1:Nat):Int).toNat<b.ag.length-(i:Int).toNat;omega⟩
  ·rw[oz];simp
  ·rw[oz];simpa using h3
 ·have gj:i=b.ag.length:=by omega
  subst gj;rw[ad3,List.drop_length,List.flatMap_nil,aet];refine eW (e:=33) ?_;intro w3 Xg;refine⟨λvv w=>∃(j:Nat)(bk:OA)(ck:Nat),j<=b.kept.length/\vv=[.p none,.i 0,.p (some ⟨r,0,none⟩),.i b.clock,.i b.ae,.l bo b.ag.length cc,.l bk (b.kept.take j).length ck,.i (b.kept.length:Int),.i (j:Int)]/\
              St W w (own bk (b.kept.take j).length ck 33 ((b.kept.take j).flatMap aI)::own bo b.ag.length cc 14 (b.ag.flatMap ao)::rd r ((b.kept.drop j).flatMap lW,false)::L),
   λvs _=>match vs with|[_,_,_,_,_,_,_,_,.int _ d]=>b.kept.length-d.toNat|_=>0,⟨0,none,0,ad0 _,rfl,Xg⟩,?_⟩
  rintro p4 Sv p5 L4 V5 rj pn qK bk xy ck V4 uF w5 ⟨j,b1,c1,hj,e,JM⟩;cases e
  refine T.at ?_ JM;have e6:=l9 j;have adu:(b.kept.take j).length=j:=by rw[adV];omega
  refine dO (λg2=>?_) (λg2=>?_)
  ·have aZ:j<b.kept.length:=by omega
   have gm:=hg.L5 _ (aee aZ);have gx:=adQ aZ;have XU:b.kept.drop j=b.kept[j]::b.kept.drop (j+1):=aev aZ;generalize b.kept[j]=x at gm gx XU;have zt:(b.kept.drop j).flatMap lW=mK x.asked++(mK x.move++(le .i64 1 x.fate++(b.kept.drop (j+1)).flatMap lW)):=by rw[XU,aeE];simp[lW,adZ]
   have De:((b.kept.drop j).flatMap lW).length<1099511627776:=by
    rw[dP rQ,ad2];have:(b.kept.length-j)* 217<=96* 217:=aeC _ (by omega);omega
   rw[zt] at De⊢;have XD:(mK x.move++(le .i64 1 x.fate++(b.kept.drop (j+1)).flatMap lW)).length<1099511627776:=by rw[adT] at De;omega
   have aaB:(le .i64 1 x.fate++(b.kept.drop (j+1)).flatMap lW).length<1099511627776:=by rw[adT] at XD;omega
   refine Hw De ?_;rw[wE,A0 gm.asked gm.IH];apply ws;intros;refine Hw XD ?_;rw[wE,A0 gm.move gm.Jw];apply ws;intros;refine ra aaB (lX ?_);rw[WS (by have:=gm.fate;omega),WX];refine cK ⟨rfl,rfl,rfl,trivial⟩ ?_;refine cK ⟨rfl,trivial⟩ ?_;refine qE λr3=>?_;refine gY (b:=bk) (x:=x) (by show(ai x.asked++(ai x.move++[.i x.fate]))++[]=aI x;rw[aeb];rfl) rfl rfl (by omega) (by omega) (ji _) λb2 c2=>?_;rw[e6];have oz:b.kept.take (j+1)=b.kept.take j++[x]:=by rw[ad',gx];rfl
   refine T.drop λw6 h6=>⟨⟨j+1,b2,c2,aZ,?_,?_⟩,by show b.kept.length-((j+1:Nat):Int).toNat<b.kept.length-(j:Int).toNat;omega⟩
   ·rw[oz];simp
   ·rw[oz];simpa using h6
  ·have gj:j=b.kept.length:=by omega
   subst gj;rw[ad3,List.drop_length,List.flatMap_nil];refine VE (R:=own bk b.kept.length ck 33 (b.kept.flatMap aI)::own bo b.ag.length cc 14 (b.ag.flatMap ao)::rd r ([],false)::L) hg ?_ (nA.own (λ_=>rfl) rfl) λp=>?_
   ·have:=nA.own (W:=W) (L:=rd r ([],false)::L) (b:=bo) (n:=b.ag.length) (c:=cc) (e:=14) (g:=ao) (xs:=b.ag) (λ_=>rfl) rfl;exact this.mono
   apply ws;intros;refine dX (by decide) ?_;refine O0 (r:=r) (pE ?_);refine T.sub (h p) ?_;exact mZ
end
end Go.Up
namespace Go.Sep
open Go.Den Go.RowKit Go.Prog Go.bu
def mh{D:ay}{a to q a2:Int}{s:List UInt8}(h:iI D a to q=some (s,a2)):a<a2/\a2<=to/\0<=a/\to<=(D.safe.length:Int)/\s.length<=32768/\a2=a+(dN (12+s.length):Int):=by
 unfold iI at h;split at h
 ·cases h
 rename_i ha;split at h
 ·cases h
 rename_i m j d hv;split at h
 ·cases h
 rename_i hj;split at h
 ·cases h
 rename_i hc;split at h
 ·cases h
 rename_i t ht;obtain⟨l1,l2,l3,l4,l5⟩:=take_length ht;simp only[aea.injEq,Prod.mk.injEq] at h;obtain⟨h1,h2⟩:=h;subst h1;have hn: ¬32768<iG 4 (da 8 (d.data.toList,false)):=λhh=>hc (.inr hh);have h4:=D5 (da 8 (d.data.toList,false));generalize iG 4 (da 8 (d.data.toList,false))=n6 at *;have hp:=nO (12+n6).toNat;have e:(12+n6).toNat=12+(t.drop 12).length:=by rw[ad2];omega
 rw[e] at h2 l3 hp;rw[<-h2];have hl:(t.drop 12).length=t.length-12:=ad2;exact⟨by omega,by omega,l2,l4,by omega,rfl⟩
def u1(D:ay)(to:Int):Nat->Int->Int->List (List UInt8)×Int×Int
 |0,a,q=>([],a,q)
 |f+1,a,q=>match iI D a to (q+1) with
  |none=>([],a,q)
  |some (s,a2)=>(s::(u1 D to f a2 (q+1)).1,(u1 D to f a2 (q+1)).2)
def gP(D:ay)(to a q:Int):List (List UInt8)×Int×Int:=u1 D to (to-a).toNat a q
def xO{D:ay}{a to q:Int}(h:to<=a):iI D a to q=none:=by unfold iI;rw[if_pos h]
def wC{D:ay}{to:Int}:∀(f f':Nat)(a q:Int),(to-a).toNat<=f->(to-a).toNat<=f'->u1 D to f a q=u1 D to f' a q
 |0,f',a,q,h1,h2=>by
  have hn:=xO (D:=D) (a:=a) (to:=to) (q:=q+1) (by omega);cases f' with
  |zero=>rfl
  |succ f'=>simp only[u1,hn]
 |f+1,0,a,q,h1,h2=>by
  have hn:=xO (D:=D) (a:=a) (to:=to) (q:=q+1) (by omega);simp only[u1,hn]
 |f+1,f'+1,a,q,h1,h2=>by
  simp only[u1];cases hn:iI D a to (q+1) with
  |none=>rfl
  |some y=>
   obtain⟨s,a2⟩:=y;have:=mh hn;dsimp only;rw[wC f f' a2 (q+1) (by omega) (by omega)]
def AV{D:ay}{to a q:Int}(h:iI D a to (q+1)=none):gP D to a q=([],a,q):=by
 unfold gP;cases hf:(to-a).toNat with
 |zero=>rfl
 |succ f=>simp only[u1,h]
def AW{D:ay}{to a q a2:Int}{s:List UInt8}(h:iI D a to (q+1)=some (s,a2)):gP D to a q=(s::(gP D to a2 (q+1)).1,(gP D to a2 (q+1)).2):=by
 have hi:=mh h;unfold gP;obtain⟨f,hf⟩:∃f,(to-a).toNat=f+1:=⟨(to-a).toNat-1,by omega⟩;rw[hf];simp only[u1,h];rw[wC f (to-a2).toNat a2 (q+1) (by omega) (by omega)]
section
variable {W w:World} {L:LH} {k d:Nat} {D:ay}
def Cc(l:List UInt8):Value:=.string (bs l)
def FL{lo hi:Int}{K:VK}(h:St W w L)(hk:L[k]?=some (dL d D))(hK:K (.bool (decide (0<=lo/\lo<hi/\hi<=(D.safe.length:Int)))) w):nI (some ⟨d,0,none⟩) lo hi K w:=by
 have no: ¬(0<=lo/\lo<hi/\hi<=(D.safe.length:Int))->K (.bool false) w:=λhn=>by rw[decide_eq_false hn] at hK;exact hK
 unfold nI;refine de (λh1=>?_) (λh1=>no (by omega));refine de (λh2=>?_) (λh2=>no (by omega));refine j0 h hk ?_;simp only[nz,adO,adP];have:decide (hi<=(D.safe.length:Int))=decide (0<=lo/\lo<hi/\hi<=(D.safe.length:Int)):=by rw[decide_eq_decide];omega
 rw[this];exact hK
def LZ{lo hi q:Int}{K:VK}(h:St W w L)(hk:L[k]?=some (dL d D))(ft:D.Ok)(hp:0<=lo/\lo<hi/\hi<=(D.safe.length:Int))(hq:0<=q/\q<=1152921504606846976)
 (hK:∀r b c w',(∃n:Nat,n<=4096/\(gP D hi lo q).1.length=n/\(gP D hi lo q).2.2=q+n/\lo<=(gP D hi lo q).2.1/\(gP D hi lo q).2.1<=hi)->St W w' (own b (gP D hi lo q).1.length c 1 ((gP D hi lo q).1.map Cc)::pt r (nJ d ⟨lo,hi,(gP D hi lo q).2.1,(gP D hi lo q).2.2,false⟩)::L)->
  K (.tuple ⟨[.p (some ⟨r,0,none⟩),.l b (gP D hi lo q).1.length c,.i 0]⟩) w'):gR (some ⟨d,0,none⟩) lo hi q K w:=by
 have rT:=ft.lh;unfold gR;simp only[nz,adO,adP];refine FL h hk ?_;rw[decide_eq_true hp];simp only[nz,adO,adP];refine de (λh1=>by omega) (λ_=>?_);have e0:decide (q>1152921504606846976)=false:=decide_eq_false (by omega);rw[e0];unfold gR.j1;simp only[nz,adO,adP];refine fI h λr w h=>?_;have h0:=h.push (A:=own none 0 0 1 (([]:List (List UInt8)).map Cc)) (oM 1);refine⟨λus w'=>∃(acc:List (List UInt8))(a:Int)(b:OA)(n c:Nat),us=[.p none,.l none 0 0,.i 0,.p (some ⟨r,0,none⟩),.l b n c]/\acc.length=n/\lo+n<=a/\a<=hi/\
                                                                     gP D hi lo q=(acc++(gP D hi a (q+n)).1,(gP D hi a (q+n)).2)/\St W w' (own b n c 1 (acc.map Cc)::pt r (nJ d ⟨lo,hi,a,q+n,false⟩)::L),
  λus _=>match us with|[_,_,_,_,.slice _ n _]=>5000-n|_=>0,⟨[],lo,none,0,0,rfl,rfl,by omega,by omega,by simp,?_⟩,?_⟩
 ·have:nJ d ⟨lo,hi,lo,q+((0:Nat):Int),false⟩=[.p (some ⟨d,0,none⟩),.i lo,.i hi,.i lo,.i q,.bool false]:=by
   rw[show q+((0:Nat):Int)=q from by omega];rfl
  rw[this];exact h0
 rintro p2 M9 VR P9 n4 a1 sm qB sw w2 ⟨acc,a,b,n,c,he,hn,ha,hah,ho,h⟩;cases he
 refine jL h λw h=>?_;refine bG (k:=1) h rfl (v:=.i a) rfl ?_;simp only[nz,adO,adP];refine bG (k:=1) h rfl (v:=.i (q+qB)) rfl ?_;simp only[nz,adO,adP];have ew:adN.wrap (q+(qB:Int)+1)=q+(qB:Int)+1:=aw (by omega);rw[ew];refine KU (k:=k+2) h (by rw[ad7,ad7];exact hk) ft (by omega) (by omega) λw h=>?_;cases hx:iI D a hi (q+(qB:Int)+1) with
 |none=>
  unfold wF;simp only[nz,adO,adP];refine gw (k:=1) h rfl rfl ?_;rw[AV hx,aeb] at ho;have:=hK r sm sw w;rw[ho] at this;dsimp only at this;rw[hn] at this;exact this ⟨qB,by omega,rfl,rfl,by omega,by omega⟩ h
 |some y=>
  obtain⟨s,a2⟩:=y;obtain⟨b1,b2,b3,b4,b5,b6⟩:=mh hx;unfold wF;simp only[nz,adO,adP];refine gw (k:=1) h rfl rfl ?_;refine⟨trivial,fI h λr2 w h=>?_⟩;refine pZ (k:=1) (ys:=[Cc s]) h rfl (BU (k':=0) h rfl rfl λj v hj=>by rw[adU];exact hj) (by simp) rfl (by omega) (by omega) (by simp[Cc,Value.oneCell']) λb' c' w h=>?_;simp only[nz,adO,adP] at h⊢;refine bG (k:=2) h rfl (v:=.i (q+qB)) rfl ?_;simp only[nz,adO,adP];refine lR (k:=2) h rfl (adX rfl) rfl λw h=>?_;simp only[nz,adO,adP] at h;refine lR (k:=2) h rfl (adX rfl) rfl λw h=>?_;simp only[nz,adO,adP] at h;rw[ew] at h;refine⟨⟨acc++[s],a2,b',qB+1,c',rfl,by rw[adT,hn];rfl,by omega,by omega,?_,?_⟩,by omega⟩
  ·rw[ho,AW hx,show q+(qB:Int)+1=q+((qB+1:Nat):Int) from by omega,adZ];rfl
  ·rw[aen];have:nJ d ⟨lo,hi,a2,q+((qB+1:Nat):Int),false⟩=[.p (some ⟨d,0,none⟩),.i lo,.i hi,.i a2,.i (q+(qB:Int)+1),.bool false]:=by
    rw[show q+((qB+1:Nat):Int)=q+(qB:Int)+1 from by omega];rfl
   rw[this];exact h.drop
end
def Aw(d:BA):Int:=iG 8 (d.data.toList,false)
def OD(l:List UInt8):(part (bs l) 0).data.toList=l.take 104:=by
 unfold part;rw[extract_toList,Nat.mul_zero,aeZ]
 rfl
def Gr(seq:Int)(s:BA):bE seq s=le .i64 8 seq++(le .i64 4 s.size++s.data.toList):=by simp only[bE,adZ]
def HO(seq:Int)(s:BA):∃r,(part (bs (bE seq s)) 0).data.toList=le .i64 8 seq++(le .i64 4 s.size++r):=by
 rw[OD,Gr];refine⟨s.data.toList.take 92,?_⟩;have h8:(le .i64 8 seq).length=8:=az _ _ _;have h4:(le .i64 4 (s.size:Int)).length=4:=az _ _ _;rw[List.take_append,List.take_append,h8,h4,ad9 (by rw[h8];omega),ad9 (l:=le .i64 4 (s.size:Int)) (by rw[h4];omega)]
def MA{m:Nat}(h:m<4294967296):ka (le .i64 4 (m:Int))=m:=by
 rw[nD m 4 (by omega)];exact aez h
def KR{n:Int}(h:0<=n/\n<9223372036854775808):jS (le .i64 8 n)=n:=by
 obtain⟨m,rfl⟩:=ad1 h.1;unfold jS;rw[nD m 8 (by omega)];have h8:(256:Nat)^8=18446744073709551616:=rfl;rw[h8,aez (by omega),aw (by omega)]
def qL{seq:Int}{s:BA}(hq:0<=seq/\seq<9223372036854775808)(hs:s.size<=32768):
 Aw (part (bs (bE seq s)) 0)=seq/\(da 4 (da 8 ((part (bs (bE seq s)) 0).data.toList,false))).2=false/\iG 4 (da 8 ((part (bs (bE seq s)) 0).data.toList,false))=(s.size:Int):=by
 obtain⟨r,hr⟩:=HO seq s;unfold Aw;rw[hr];have h8:(le .i64 8 seq).length=8:=az _ _ _;have h4:(le .i64 4 (s.size:Int)).length=4:=az _ _ _;have e1:da 8 (le .i64 8 seq++(le .i64 4 s.size++r),false)=(le .i64 4 s.size++r,false):=by
  unfold da;rw[if_neg (by simp only[aef,false_or,adT,h8];omega),qp _ _ 8 h8]
 have e2:iG 8 (le .i64 8 seq++(le .i64 4 s.size++r),false)=seq:=by
  unfold iG;rw[if_neg (by simp only[aef,false_or,adT,h8];omega),oW _ _ 8 h8,KR hq]
 have e3:da 4 (le .i64 4 (s.size:Int)++r,false)=(r,false):=by
  unfold da;rw[if_neg (by simp only[aef,false_or,adT,h4];omega),qp _ _ 4 h4]
 have e4:iG 4 (le .i64 4 (s.size:Int)++r,false)=(s.size:Int):=by
  unfold iG;rw[if_neg (by simp only[aef,false_or,adT,h4];omega),oW _ _ 4 h4,ke (by rw[h4];omega),MA (by omega)]
 rw[e1,e2,e3,e4];exact⟨rfl,rfl,rfl⟩
def oA(seq:Int)(s:BA):(bs (bE seq s)).size=12+s.size:=by rw[bJ,u9]
def Ff{D:ay}{a to n:Int}{s:BA}(hn:1<=n/\n<=1152921504606846976)(h0:0<=a)(Pp:a+(dN s.size:Int)<=to)(hlen:to<=(D.safe.length:Int))(rT:D.safe.length<=4096)
 (hr:∀i:Nat,i<dN s.size->(D.read (a+i)).1=leaf n i (part s i)):take D a to n s.size=some s.data.toList:=by
 have hb:s.size<=104* dN s.size:=by unfold dN;split<;>omega
 have Ps:∀q:Nat,(part s q).size=min (104* (q+1)) s.size-104* q:=λq=>by unfold part;rw[rH]
 have nY:s.size<=425984:=by omega
 unfold take;rw[if_neg (by rw[adR];omega),adR,xt (s:=s) (dN s.size) 0 (λq _ hq=>by
  have hg:Good n q (part s q):=⟨hn.1,hn.2,by omega,by omega,jC s q⟩
  rw[hr q (by omega),jE hg]
  exact⟨kZ hg,by rw[Ps];omega⟩)]
 congr 1
 rw[Nat.mul_zero,aeZ,ad9 (by rw[cy];exact hb)]
def yJ{D:ay}{a to n q:Int}{s:BA}(hn:1<=n/\n<=1152921504606846976)(hq:0<=q/\q<9223372036854775808)(hs:s.size<=32768)(h0:0<=a)(Pp:a+(dN (12+s.size):Int)<=to)(hlen:to<=(D.safe.length:Int))(rT:D.safe.length<=4096)
 (hr:∀i:Nat,i<dN (12+s.size)->(D.read (a+i)).1=leaf n i (part (bs (bE q s)) i)):iI D a to q=some (s.data.toList,a+(dN (12+s.size):Int)):=by
 have wT:=oA q s;have hp:=nO (12+s.size);obtain⟨p1,p2,p3⟩:=qL hq hs;have h00:=hr 0 hp;rw[show a+((0:Nat):Int)=a from by omega] at h00;have hg:Good n ((0:Nat):Int) (part (bs (bE q s)) 0):=⟨hn.1,hn.2,by omega,by omega,jC _ 0⟩;have ht:=Ff (D:=D) (a:=a) (to:=to) (s:=bs (bE q s)) hn h0 (by rw[wT];exact Pp) hlen rT (by rw[wT];exact hr);unfold iI;rw[if_neg (by omega),h00,jE hg,kZ hg];dsimp only;unfold Aw at p1;rw[if_neg (by rintro(hh|hh);exact hh rfl;exact hh p1),p2,p3,if_neg (by rintro(hh|hh);cases hh;omega)];rw[wT] at ht;have e1:((12+s.size:Nat):Int)=12+(s.size:Int):=by omega
 rw[e1] at ht;rw[ht];dsimp only;have e2:(12+(s.size:Int)).toNat=12+s.size:=by omega
 have e3:(bs (bE q s)).data.toList.drop 12=s.data.toList:=by
  show(bE q s).drop 12=_;unfold bE;exact qp _ _ 12 (by rw[adT,az,az])
 rw[e2,e3]
def yA{D D':ay}{a n:Int}{size:Nat}:∀(k i:Nat),(∀j:Nat,i<=j->j<i+k->(D'.read (a+j)).1=(D.read (a+j)).1)->jt D' a n size i k=jt D a n size i k
 |0,i,_=>rfl
 |k+1,i,h=>by
  rw[kV,kV,h i (adW _) (by omega),yA k (i+1) (λj h1 h2=>h j (by omega) (by omega))]
def qO{D D':ay}{a to q a2:Int}{s:List UInt8}(h:iI D a to q=some (s,a2))(hlen:D'.safe.length=D.safe.length)(hr:∀j:Int,a<=j->j<a2->(D'.read j).1=(D.read j).1):iI D' a to q=some (s,a2):=by
 obtain⟨i1,i2,i3,i4,i5,i6⟩:=mh h;have h0:=hr a (by omega) (by omega);have adh:=h;unfold iI at h⊢;rw[h0];split at h
 ·cases h
 rename_i ha;rw[if_neg ha];split at h
 ·cases h
 rename_i m j d hv;split at h
 ·cases h
 rename_i hj;rw[if_neg hj];split at h
 ·cases h
 rename_i hc;rw[if_neg hc];split at h
 ·cases h
 rename_i t ht;obtain⟨l1,l2,l3,l4,l5⟩:=take_length ht;have F8:take D' a to m (12+iG 4 (da 8 (d.data.toList,false)))=some t:=by
  simp only[aea.injEq,Prod.mk.injEq] at h;rw[<-ht];unfold take;rw[hlen,yA _ 0 (λj h1 h2=>hr (a+j) (by omega) (by omega))]
 rw[F8];dsimp only;exact h
def xN{D:ay}{a to q:Int}(h:∀m d,iH (D.read a).1.data.toList=some (m,0,d)->Aw d≠q):iI D a to q=none:=by
 unfold iI;split
 ·rfl
 split
 ·rfl
 rename_i m j d hv;by_cases hj:j=0
 ·subst hj;rw[if_pos (.inr (h m d hv))]
 ·rw[if_pos (.inl hj)]
def fZ(D:ay)(to:Int):Int->Int->List (List UInt8)->Int->Prop
 |a,_,[],e=>a=e
 |a,q,s::r,e=>∃a2,iI D a to (q+1)=some (s,a2)/\fZ D to a2 (q+1) r e
def GK{D:ay}{to:Int}:∀(r:List (List UInt8)) {a q e:Int},fZ D to a q r e->a+r.length<=e
 |[],a,q,e,h=>by unfold fZ at h;simp;omega
 |s::r,a,q,e,⟨a2,h1,h2⟩=>by
  have:=mh h1;have:=GK r h2;rw[ad8];omega
def BE{D:ay}{to:Int}:∀(r:List (List UInt8)) {a q e:Int},fZ D to a q r e->iI D e to (q+r.length+1)=none->gP D to a q=(r,e,q+r.length)
 |[],a,q,e,h,hn=>by
  unfold fZ at h;subst h;have e0:q+(([]:List (List UInt8)).length:Int)=q:=by simp
  rw[e0] at hn⊢;exact AV hn
 |s::r,a,q,e,⟨a2,h1,h2⟩,hn=>by
  have e1:q+((s::r).length:Int)=q+1+(r.length:Int):=by rw[ad8];omega
  rw[e1] at hn⊢;rw[AW h1,BE r h2 hn]
def q6{D D':ay}{to:Int}(hlen:D'.safe.length=D.safe.length):∀(r:List (List UInt8)) {a q e:Int},fZ D to a q r e->(∀j:Int,a<=j->j<e->(D'.read j).1=(D.read j).1)->fZ D' to a q r e
 |[],a,q,e,h,_=>h
 |s::r,a,q,e,⟨a2,h1,h2⟩,hr=>by
  have hi:=mh h1;have hl:=GK r h2;exact⟨a2,qO h1 hlen (λj h3 h4=>hr j h3 (by omega)),q6 hlen r h2 (λj h3 h4=>hr j (by omega) h4)⟩
def BD{D:ay}{to:Int}:∀(r:List (List UInt8)) {a q e e2:Int} {s:List UInt8},fZ D to a q r e->iI D e to (q+r.length+1)=some (s,e2)->fZ D to a q (r++[s]) e2
 |[],a,q,e,e2,s,h,hn=>by
  unfold fZ at h;subst h;have e0:q+(([]:List (List UInt8)).length:Int)=q:=by simp
  rw[e0] at hn;exact⟨e2,hn,rfl⟩
 |x::r,a,q,e,e2,s,⟨a2,h1,h2⟩,hn=>by
  have e1:q+((x::r).length:Int)=q+1+(r.length:Int):=by rw[ad8];omega
  rw[e1] at hn;exact⟨a2,h1,BD r h2 hn⟩
def PJ.more(J:PJ)(s:BA):PJ:={J with at':=J.at'+(dN (12+s.size):Int),seq:=J.seq+1}
def OL{n:Nat}{D:ay}{J:PJ}{number:Int}{s:BA}(hc:Calm n D)(bD:n<=4096)(hJ:J.Ok D)(EU:J.dH=false)(mj:1<=number/\number<=1152921504606846976)(Cl:J.seq<1152921504606846976)(hr:room J s.size):
 ∃D',pw D J number s=(D',J.more s,0)/\Calm n D'/\D'.later=[]/\(J.more s).Ok D'/\(∀i:Nat,i<dN (12+s.size)->(D'.read (J.at'+i)).1=leaf number i (part (bs (bE (J.seq+1) s)) i))/\
  (∀j:Int,0<=j->j<n->(j<J.at'\/J.at'+(dN (12+s.size):Int)<=j)->(D'.read j).1=(D.read j).1)/\iI D' J.at' J.hi (J.seq+1)=some (s.data.toList,J.at'+(dN (12+s.size):Int)):=by
 obtain⟨j1,j2,j3,j4,j5⟩:=hJ;obtain⟨r1,r2,r3⟩:=hr;rw[adR] at r3;have hlen:=hc.len;have wT:=oA (J.seq+1) s;obtain⟨a,ha⟩:=ad1 (show 0<=J.at' by omega);obtain⟨t,ht⟩:=ad1 (show 0<=J.hi by omega);obtain⟨p1,p2,p3,p4⟩:=QN (n:=n) (a:=a) (t:=t) (number:=number) (s:=bs (bE (J.seq+1) s)) hc bD mj (by rw[wT];omega) (by omega);have p5:=ND (n:=n) (a:=a) (t:=t) (number:=number) (s:=bs (bE (J.seq+1) s)) hc bD mj (by rw[wT];omega) (by omega);rw[wT] at p3 p4;rw[<-ha,<-ht] at p1 p2 p3 p4 p5;have wQ:=p2.len;refine⟨(cQ D J.at' J.hi number (bs (bE (J.seq+1) s))).1,?_,p2,p5,⟨j1,?_,?_,?_,?_⟩,p3,λj h1 h2 h3=>?_,?_⟩
 ·unfold pw;rw[if_neg (by rw[EU];exact afj),if_neg (by omega),if_neg (by rintro(hh|hh);exact hh ⟨r1,r2,by rw[adR];exact r3⟩;omega)];unfold yo;rw[if_neg (λhh=>hh p1)]
  rfl
 ·show J.lo<=J.at'+_;omega
 ·show J.at'+_<=J.hi;omega
 ·show J.hi<=_;omega
 ·show 0<=J.seq+1/\J.seq+1<=_;omega
 ·obtain⟨m,rfl⟩:=ad1 h1;exact p4 m (by omega) (by omega)
 ·exact yJ mj (by omega) (by omega) (by omega) (by omega) (by omega) (by omega) p3
def FU{D:ay}{a to q:Int}(h:(D.read a).1=jH 128):iI D a to q=none:=
 xN (λm d hv=>by rw[h,tS] at hv;cases hv)
def C4{n:Nat}(h:n<=4096){j:Int}(h0:0<=j)(hj:j<n):((ay.new n).read j).1=jH 128:=by
 obtain⟨m,rfl⟩:=ad1 h0;exact wH h (by omega)
section
variable {W w:World} {L:LH} {k d:Nat} {D:ay}
end
def uH{l:List UInt8}{k:Nat}(hk:k<=8)(hl:l.length=k):l=le .i64 k (ka l:Int):=by
 refine E6 _ _ (by rw[hl,az]) ?_;have:=oI l;rw[hl] at this;rw[nD (ka l) k hk,aez this]
def xW{l:List UInt8}{n:Int}(hl:l.length=8)(hn:0<=n)(h:jS l=n):l=le .i64 8 n:=by
 have hv:=oI l;have h8:(256:Nat)^8=18446744073709551616:=rfl;rw[hl,h8] at hv;have xZ:(ka l:Int)=n:=by
  unfold jS at h;simp[IntKind.wrap,IntKind.bits,IntKind.signed] at h;split at h<;>omega
 rw[<-xZ];exact uH (by decide) hl
def xG{l:List UInt8}{n j:Int}{d:BA}(h:iH l=some (n,j,d)):l=iU n j d/\Good n j d:=by
 unfold iH at h;split at h
 ·cases h
 rename_i h1;split at h
 ·cases h
 rename_i h2;split at h
 ·cases h
 rename_i h3;split at h
 ·cases h
 rename_i h4;split at h
 ·cases h
 rename_i h5;split at h
 ·cases h
 rename_i h6;have h1:=ad4.1 h1;have h2:pr (l.take 120)=true:=by cases hh:pr (l.take 120) with
  |true=>rfl
  |false=>exact absurd hh h2
 have h4:=ad4.1 h4;have h5:=ad4.1 h5;have h6:=ad4.1 h6;simp only[aea.injEq,Prod.mk.injEq] at h;obtain⟨rfl,rfl,rfl⟩:=h;refine⟨?_,h6⟩;obtain⟨g1,g2,g3,g4,g5⟩:=h6;have hM:sM l<=104:=by omega
 have l8:(l.drop 8).length=120:=by rw[ad2];omega
 have l10:((l.drop 8).drop 2).length=118:=by rw[ad2];omega
 have lr:(je l).length=116:=by unfold je;rw[ad2];omega
 have p1:l.take 8=le .i64 8 (sN l):=xW (by rw[adV];omega) (by omega) rfl;have p2:(l.drop 8).take 2=le .i64 2 (sI l):=by
  have e:sI l=(ka ((l.drop 8).take 2):Int):=ke (by rw[adV];omega);rw[e];exact uH (by decide) (by rw[adV];omega)
 have p3:((l.drop 8).drop 2).take 2=le .i64 2 (sM l:Int):=uH (by decide) (by rw[adV];omega);have hD:(sD l).length=sM l:=by unfold sD;rw[adV];omega
 have lrm:((je l).drop (sM l)).length=116-sM l:=by rw[ad2,lr]
 have hZ:(sZ l).length=104-sM l:=by unfold sZ;rw[adV];omega
 have lrz:(((je l).drop (sM l)).drop (104-sM l)).length=12:=by rw[ad2,lrm];omega
 have lrc:((((je l).drop (sM l)).drop (104-sM l)).drop 4).length=8:=by rw[ad2,lrz]
 have p6:(((je l).drop (sM l)).drop (104-sM l)).drop 4=le .i64 8 (sN l):=by
  refine xW lrc (by omega) ?_;rw[<-h4];unfold yE;rw[ad9 (by omega)]
 rw[hZ] at h5;have e1:l=l.take 8++((l.drop 8).take 2++(((l.drop 8).drop 2).take 2++(sD l++(sZ l++((((je l).drop (sM l)).drop (104-sM l)).take 4++(((je l).drop (sM l)).drop (104-sM l)).drop 4))))):=by
  unfold sD sZ;rw[aek,aek,aek];unfold je;rw[aek,aek,aek]
 have nY:(bs (sD l)).size=sM l:=by rw[bJ,hD]
 have aa7:pre (sN l) (sI l) (bs (sD l))=l.take 8++((l.drop 8).take 2++(((l.drop 8).drop 2).take 2++(sD l++sZ l))):=by
  unfold pre;rw[nY,p1,p2,p3,h5];simp only[adZ]
  rfl
 have Mb:(pre (sN l) (sI l) (bs (sD l))).length=116:=m8 g5;have e2:l=pre (sN l) (sI l) (bs (sD l))++((((je l).drop (sM l)).drop (104-sM l)).take 4++(((je l).drop (sM l)).drop (104-sM l)).drop 4):=by
  rw[aa7];simp only[adZ];exact e1
 have Va:l.take 116=pre (sN l) (sI l) (bs (sD l)):=by
  have:=congrArg (List.take 116) e2;rw[oW _ _ 116 Mb] at this;exact this
 have e4:(l.take 120).drop 116=(((je l).drop (sM l)).drop (104-sM l)).take 4:=by
  have aa4:l.drop 116=(((je l).drop (sM l)).drop (104-sM l)).take 4++(((je l).drop (sM l)).drop (104-sM l)).drop 4:=by
   have:=congrArg (List.drop 116) e2;rw[qp _ _ 116 Mb] at this;exact this
  rw[List.drop_take,aa4];exact oW _ _ 4 (by rw[adV];omega)
 have aaT:rq (oY 0 (pre (sN l) (sI l) (bs (sD l))))=(((je l).drop (sM l)).drop (104-sM l)).take 4:=by
  unfold pr at h2;have Em:(l.take 120).length=120:=by rw[adV];omega
  rw[Em,show 120-4=116 from rfl,e4,afn,show min 116 120=116 from rfl,Va] at h2;simpa using h2
 unfold iU;rw[aaT,adZ];rw[p6] at e2;exact e2
def CD{D:ay}{a n:Int}{size:Nat}:∀(k i:Nat) {t:List UInt8},jt D a n size i k=some t->size<=104* (i+k)->∀q,i<=q->q<i+k->
 ∃d,iH (D.read (a+q)).1.data.toList=some (n,(q:Int),d)/\d.data.toList=(t.drop (104* (q-i))).take 104
 |0,i,t,h,hs,q,h1,h2=>by omega
 |k+1,i,t,h,hs,q,h1,h2=>by
  rw[kV] at h;split at h
  ·cases h
  rename_i m j d hv;split at h
  ·rename_i hc;obtain⟨rfl,rfl,hd⟩:=hc;cases ht:jt D a m size (i+1) k with
   |none=>rw[ht] at h;cases h
   |some u=>
    rw[ht] at h;simp only[aeB,aea.injEq] at h;subst h;have wU:d.data.toList.length=d.size:=rfl;by_cases hq:q=i
    ·subst hq;refine⟨d,hv,?_⟩;rw[ae8,Nat.mul_zero,aeZ];by_cases h3:104* (q+1)<=size
     ·exact(oW _ _ 104 (by omega)).symm
     ·have hu:u.length=0:=by
       by_cases hk:k=0
       ·subst hk;simp only[jt,aea.injEq] at ht;subst ht;rfl
       ·
        have hz:∀(n' i':Nat) {v:List UInt8},jt D a m size i' n'=some v->size<=104* i'->v.length=0:=by
         intro n'
         induction n' with
         |zero=>intro i' v h _;simp only[jt,aea.injEq] at h;subst h;rfl
         |succ n' ih=>
          intro i' v h hle;rw[kV] at h;split at h
          ·cases h
          ·split at h
           ·rename_i Mk;cases H0:jt D a m size (i'+1) n' with
            |none=>rw[H0] at h;cases h
            |some v2=>
             rw[H0] at h;simp only[aeB,aea.injEq] at h;subst h;have:=ih (i'+1) H0 (by omega);rw[adT,this,cy,Mk.2.2];omega
           ·cases h
        exact hz k (q+1) ht (by omega)
      rw[List.eq_nil_of_length_eq_zero hu,aeb,ad9 (by omega)]
    ·obtain⟨d2,QW,Py⟩:=CD k (i+1) ht (by omega) q (by omega) (by omega);refine⟨d2,QW,?_⟩;have hu:104* (i+1)<=size\/u.length=0:=by
      by_cases h3:104* (i+1)<=size
      ·exact .inl h3
      ·right
       have hz:∀(n' i':Nat) {v:List UInt8},jt D a m size i' n'=some v->size<=104* i'->v.length=0:=by
        intro n'
        induction n' with
        |zero=>intro i' v h _;simp only[jt,aea.injEq] at h;subst h;rfl
        |succ n' ih=>
         intro i' v h hle;rw[kV] at h;split at h
         ·cases h
         ·split at h
          ·rename_i Mk;cases H0:jt D a m size (i'+1) n' with
           |none=>rw[H0] at h;cases h
           |some v2=>
            rw[H0] at h;simp only[aeB,aea.injEq] at h;subst h;have:=ih (i'+1) H0 (by omega);rw[adT,this,cy,Mk.2.2];omega
          ·cases h
       exact hz k (i+1) ht (by omega)
     rw[Py];rcases hu with h3|h3
     ·have:(d.data.toList++u).drop (104* (q-i))=u.drop (104* (q-(i+1))):=by
       rw[show 104* (q-i)=104+104* (q-(i+1)) from by omega,<-ae0,qp _ _ 104 (by omega)]
      rw[this]
     ·rw[List.eq_nil_of_length_eq_zero h3,aeb];simp only[List.drop_nil,List.take_nil];rw[aex (by omega)]
      rfl
  ·cases h
def C3{D:ay}{a to q a2:Int}{s:List UInt8}(hq:0<=q)(h:iI D a to q=some (s,a2)):
 ∃m d,1<=m/\m<=1152921504606846976/\iH (D.read a).1.data.toList=some (m,0,d)/\∀i:Nat,i<dN (12+s.length)->(D.read (a+i)).1=leaf m i (part (bs (bE q (bs s))) i):=by
 have hi:=mh h;unfold iI at h;split at h
 ·cases h
 rename_i ha;split at h
 ·cases h
 rename_i m j d hv;split at h
 ·cases h
 rename_i hj;split at h
 ·cases h
 rename_i hc;split at h
 ·cases h
 rename_i t ht;obtain⟨l1,l2,l3,l4,l5⟩:=take_length ht;simp only[aea.injEq,Prod.mk.injEq] at h;obtain⟨h1,h2⟩:=h;subst h1;have XL:j=0:=by
  by_cases hh:j=0
  ·exact hh
  ·exact absurd (.inl hh) hj
 have QY:iG 8 (d.data.toList,false)=q:=by
  by_cases hh:iG 8 (d.data.toList,false)=q
  ·exact hh
  ·exact absurd (.inr hh) hj
 subst XL;have hn4:=D5 (da 8 (d.data.toList,false));have hle: ¬32768<iG 4 (da 8 (d.data.toList,false)):=λhh=>hc (.inr hh);have adb:(da 4 (da 8 (d.data.toList,false))).2=false:=by
  cases hh:(da 4 (da 8 (d.data.toList,false))).2 with
  |false=>rfl
  |true=>exact absurd (.inl hh) hc
 obtain⟨_,wS⟩:=xG hv;have oz:=ht;unfold take at oz;split at oz
 ·cases oz
 have Wh:(12+iG 4 (da 8 (d.data.toList,false))).toNat=t.length:=by omega
 rw[Wh] at oz;have hb:t.length<=104* dN t.length:=by unfold dN;split<;>omega
 have K5:=CD (dN t.length) 0 oz (by omega);have XV:=nO t.length;obtain⟨d0,hv0,Wg⟩:=K5 0 (adW _) (by omega);rw[show a+((0:Nat):Int)=a from by omega,hv] at hv0;have aaR:d=d0:=by cases hv0;rfl
 subst aaR;rw[Nat.sub_zero,Nat.mul_zero,aeZ] at Wg;have adI:12<=d.data.toList.length:=by
  rw[Wg,adV];omega
 have x1:da 8 (d.data.toList,false)=(d.data.toList.drop 8,false):=by unfold da;rw[if_neg (by simp only[aef,false_or];omega)]
 have x2:iG 8 (d.data.toList,false)=jS (d.data.toList.take 8):=by unfold iG;rw[if_neg (by simp only[aef,false_or];omega)]
 have l8:(d.data.toList.drop 8).length=d.data.toList.length-8:=ad2;have x3:iG 4 (d.data.toList.drop 8,false)=jS ((d.data.toList.drop 8).take 4):=by unfold iG;rw[if_neg (by simp only[aef,false_or];omega)]
 rw[x2] at QY;rw[x1,x3] at l1 hn4 Wh;have y1:d.data.toList.take 8=le .i64 8 q:=xW (by rw[adV];omega) hq QY;have ZL:((d.data.toList.drop 8).take 4).length=4:=by rw[adV];omega
 rw[ke (by omega)] at l1;have y2:(d.data.toList.drop 8).take 4=le .i64 4 ((t.length-12:Nat):Int):=by
  have:=uH (by decide) ZL;rw[show(ka ((d.data.toList.drop 8).take 4):Int)=((t.length-12:Nat):Int) from by omega] at this;exact this
 have z1:t.take 8=le .i64 8 q:=by
  rw[<-y1,Wg,afn,show min 8 104=8 from rfl]
 have z2:(t.drop 8).take 4=le .i64 4 ((t.length-12:Nat):Int):=by
  rw[<-y2,Wg,List.drop_take,afn,show min 4 (104-8)=4 from rfl]
 have Lg:bE q (bs (t.drop 12))=t:=by
  unfold bE;have nY:(bs (t.drop 12)).size=t.length-12:=by rw[bJ,ad2]
  rw[nY,<-z1,<-z2];show t.take 8++(t.drop 8).take 4++t.drop 12=t;have:t.drop 12=(t.drop 8).drop 4:=by rw[ae0]
  rw[this,adZ,aek,aek]
 refine⟨m,d,wS.1,wS.2.1,hv,λi hi2=>?_⟩;have aaE:12+(t.drop 12).length=t.length:=by rw[ad2];omega
 rw[aaE] at hi2;obtain⟨di,hvi,EW⟩:=K5 i (ad0 _) (by omega);obtain⟨hx,Mf⟩:=xG hvi;rw[Lg];have JN:part (bs t) i=di:=by
  apply gM;rw[EW];unfold part;rw[extract_toList];show(t.drop (104* i)).take (104* (i+1) -104* i)=_;rw[Nat.sub_zero,show 104* (i+1) -104* i=104 from by omega]
 rw[JN];apply gM;rw[jE Mf];exact hx
section
variable {W w:World} {L:LH}
end
def Km{D:ay}(h:D.sync.2=0):D.sync.1.later=[]:=by
 unfold ay.sync at h⊢;split at h
 ·simp at h
 ·rename_i hf;rw[if_neg hf]
def Jy{D:ay}{at' to number:Int}{s:BA}(h:(cQ D at' to number s).2=0):(cQ D at' to number s).1.later=[]:=by
 unfold cQ at h⊢;split at h
 ·rename_i hh;exact absurd h hh
 ·rename_i hh;rw[if_neg hh];exact Km h
def Bz{D:ay}(h:D.later=[])(mask torn cut:Int)(j:Int):(D.eP mask torn cut).read j=D.read j:=by
 have e:D.eP mask torn cut=⟨D.safe,[],D.ops,0⟩:=by rw[lE,h];rfl
 rw[e];unfold ay.read ay.is ay.now;rw[h]
def C9{at' number:Int}{s:BA}(mj:1<=number/\number<=1152921504606846976)(ye:0<=at'):∀(n i:Nat) {D:ay},at'+i+n<=D.safe.length->i+n<=4096->(lA at' number s D i n).2=0\/(lA at' number s D i n).2=8
 |0,i,D,hr,hi=>.inl rfl
 |n+1,i,D,hr,hi=>by
  have hg:Good number i (part s i):=⟨mj.1,mj.2,by omega,by omega,jC s i⟩;have nY:=pS hg;have qC:D.is (at'+i):=⟨by omega,by omega⟩;have uX: ¬(¬D.is (at'+i)\/128<(leaf number i (part s i)).size):=by
   rintro(hh|hh)
   ·exact hh qC
   ·omega
  have o8:=(og D (at'+i) (leaf number i (part s i))).1;have hw:D.write (at'+i) (leaf number i (part s i))=if D.qS then(D.tick,8) else({Go.bu.ay.tick D with later:=D.later++[(at'+i,ay.pad (leaf number i (part s i)))]},0):=by
   unfold ay.write;rw[if_neg uX]
  unfold lA;cases hf:D.qS with
  |true=>
   rw[hf,if_pos rfl] at hw;rw[hw,if_pos (by simp)];exact .inr rfl
  |false=>
   rw[hf,if_neg afj] at hw;have h0:(D.write (at'+i) (leaf number i (part s i))).2=0:=by rw[hw]
   rw[if_neg (by rw[h0];exact λhh=>hh rfl)];exact C9 mj ye (s:=s) n (i+1) (D:=(D.write (at'+i) (leaf number i (part s i))).1) (by rw[o8];omega) (by omega)
def zQ{n a t:Nat}{D:ay}{number:Int}{s:BA}(hlen:D.safe.length=n)(bD:n<=4096)(mj:1<=number/\number<=1152921504606846976)(hl:a+dN s.size<=t)(Xk:t<=n):(cQ D a t number s).2=0\/(cQ D a t number s).2=8:=by
 have XV:=nO s.size;have e:lay D (a:Nat) ((t:Nat):Int) number s=lA (a:Nat) number s D 0 (dN s.size):=by
  unfold lay;rw[if_neg (by rw[hlen];omega),if_neg (by omega)]
 have hc:=C9 (at':=((a:Nat):Int)) (number:=number) (s:=s) mj (by omega) (dN s.size) 0 (D:=D) (by rw[hlen];omega) (by omega);unfold cQ;rw[e];split
 ·exact hc
 ·unfold ay.sync;split
  ·exact .inr rfl
  ·exact .inl rfl
def CR{g:Nat}{X:BA}{m j:Int}{d:BA}(he:Ends g X)(hg:g<256)(h:iH X.data.toList=some (m,j,d)):m<=g:=by
 obtain⟨hx,wS⟩:=xG h;obtain⟨_,⟨a,ha,h8⟩,_⟩:=he;rw[hx,tX] at h8;have e1:=lv (n:=m) ⟨by have:=wS.1;omega,wS.2.1⟩;have e2:=lv (n:=(a:Int)) ⟨by omega,by omega⟩;rw[h8,e2] at e1;omega
def yK{D D':ay}{a to q:Int}(hlen:D'.safe.length=D.safe.length)(hr:∀j:Int,a<=j->j<to->(D'.read j).1=(D.read j).1):iI D' a to q=iI D a to q:=by
 cases h:iI D a to q with
 |some y=>
  obtain⟨s,a2⟩:=y;have:=mh h;exact qO h hlen (λj h1 h2=>hr j h1 (by omega))
 |none=>
  cases h':iI D' a to q with
  |none=>rfl
  |some y=>
   obtain⟨s,a2⟩:=y;have:=mh h';have:=qO h' hlen.symm (λj h1 h2=>(hr j h1 (by omega)).symm);rw[h] at this;cases this
structure JG(n:Nat)(D:ay)(J:PJ)(q0:Int)(kY:List (List UInt8))(g:Nat):Prop where
 ok:D.Ok
 F4:D.later=[]
 len:D.safe.length=n
 tg:J.Ok D
 chain:fZ D J.hi J.lo q0 kY J.at'
 seq:J.seq=q0+kY.length
 q0:0<=q0
 low:∀j:Int,J.lo<=j->j<J.hi->∀m d,iH (D.read j).1.data.toList=some (m,0,d)->Aw d<=J.seq+1
 stop:iI D J.at' J.hi (J.seq+1)=none
 ends:∀j:Nat,j<n->Ends g (D.read (j:Int)).1
def JG.congr{n:Nat}{D D':ay}{J:PJ}{q0:Int}{kY:List (List UInt8)}{g:Nat}(h:JG n D J q0 kY g)(ft:D'.Ok)(vF:D'.later=[])(hlen:D'.safe.length=n)(hr:∀j:Int,0<=j->j<n->(D'.read j).1=(D.read j).1):JG n D' J q0 kY g:=by
 have hl:D'.safe.length=D.safe.length:=by rw[hlen,h.len]
 have j1:=h.tg.lo;have j2:=h.tg.J8;have j3:=h.tg.PF;have j4:=h.tg.hi;have j5:=h.len;refine⟨ft,vF,hlen,⟨j1,j2,j3,by rw[hl];exact j4,h.tg.seq⟩,q6 hl _ h.chain (λj a b=>hr j (by omega) (by omega)),h.seq,h.q0,λj a b m d hv=>?_,?_,λj hj=>?_⟩
 ·rw[hr j (by omega) (by omega)] at hv;exact h.low j a b m d hv
 ·rw[yK hl (λj a b=>hr j (by omega) (by omega))];exact h.stop
 ·rw[hr j (by omega) (by omega)];exact h.ends j hj
def JG.opened{n:Nat}{D:ay}{J:PJ}{q0:Int}{kY:List (List UInt8)}{g:Nat}(h:JG n D J q0 kY g):gP D J.hi J.lo q0=(kY,J.at',J.seq):=by
 have:=h.stop;rw[h.seq] at this;rw[BE kY h.chain this,h.seq]
def fly{n:Nat}{D:ay}{J:PJ}{q0:Int}{kY:List (List UInt8)}{g m:Nat}{s:BA}(h:JG n D J q0 kY g)(bD:n<=4096)(hm:g<m)(JQ:m<256)(hr:room J s.size)(L9:J.seq<1152921504606846976)(mask torn cut:Int):
 ((cQ D J.at' J.hi m (bs (bE (J.seq+1) s))).2=0\/(cQ D J.at' J.hi m (bs (bE (J.seq+1) s))).2=8)/\
 ((cQ D J.at' J.hi m (bs (bE (J.seq+1) s))).2=0->∀i:Nat,i<dN (12+s.size)->(((cQ D J.at' J.hi m (bs (bE (J.seq+1) s))).1.eP mask torn cut).read (J.at'+i)).1=leaf m i (part (bs (bE (J.seq+1) s)) i))/\
 ((∀i:Nat,i<dN (12+s.size)->(((cQ D J.at' J.hi m (bs (bE (J.seq+1) s))).1.eP mask torn cut).read (J.at'+i)).1=leaf m i (part (bs (bE (J.seq+1) s)) i))->
   JG n ((cQ D J.at' J.hi m (bs (bE (J.seq+1) s))).1.eP mask torn cut) (J.more s) q0 (kY++[s.data.toList]) m)/\
 ((¬∀i:Nat,i<dN (12+s.size)->(((cQ D J.at' J.hi m (bs (bE (J.seq+1) s))).1.eP mask torn cut).read (J.at'+i)).1=leaf m i (part (bs (bE (J.seq+1) s)) i))->
   JG n ((cQ D J.at' J.hi m (bs (bE (J.seq+1) s))).1.eP mask torn cut) J q0 kY m):=by
 obtain⟨j1,j2,j3,j4,j5⟩:=h.tg;obtain⟨r1,r2,r3⟩:=hr;rw[adR] at r3;have hlen:=h.len;have XV:=nO (12+s.size);have wT:=oA (J.seq+1) s;obtain⟨a,ha⟩:=ad1 (show 0<=J.at' by omega);obtain⟨t,ht⟩:=ad1 (show 0<=J.hi by omega);have SO:=zQ (n:=n) (a:=a) (t:=t) (number:=m) (s:=bs (bE (J.seq+1) s)) hlen bD (by omega) (by rw[wT];omega) (by omega);obtain⟨c1,c2,c3,c4⟩:=FY (n:=n) (a:=a) (t:=t) (number:=m) (mask:=mask) (torn:=torn) (cut:=cut) (s:=bs (bE (J.seq+1) s)) h.ok h.F4 hlen bD (by omega) (by rw[wT];omega) (by omega);have SG:((cQ D (a:Int) (t:Int) m (bs (bE (J.seq+1) s))).1.eP mask torn cut).later=[]:=by rw[lE]
 rw[wT] at c1 c2;rw[ha,ht];generalize (cQ D (a:Int) (t:Int) m (bs (bE (J.seq+1) s))).2=code at *;generalize (cQ D (a:Int) (t:Int) m (bs (bE (J.seq+1) s))).1.eP mask torn cut=D2 at *;have Wh:dN (12+s.size)<=4096:=by omega
 have wS:∀i:Nat,i<4096->Good m (i:Int) (part (bs (bE (J.seq+1) s)) i):=λi hi=>⟨by omega,by omega,by omega,by omega,jC _ i⟩;have sec:∀j:Nat,j<n->Ends m (D2.read (j:Int)).1/\((D2.read (j:Int)).1=(D.read (j:Int)).1\/(∃i,i<dN (12+s.size)/\j=a+i/\((D2.read (j:Int)).1=leaf m i (part (bs (bE (J.seq+1) s)) i)\/iH (D2.read (j:Int)).1.data.toList=none))):=λj hj=>by
  rcases c1 j hj with hh|⟨i,h1,h2,h3⟩
  ·rw[hh];exact⟨(h.ends j hj).mono (by omega),.inl rfl⟩
  ·obtain⟨e1,e2⟩:=xQ hm JQ (wS i (by omega)) (h.ends j hj) h3;refine⟨e1,?_⟩;rcases e2 with e2|e2|e2
   ·exact .inl e2
   ·exact .inr ⟨i,h1,h2,.inl e2⟩
   ·exact .inr ⟨i,h1,h2,.inr e2⟩
 have out:∀j:Int,0<=j->j<n->(j<a\/a+(dN (12+s.size):Int)<=j)->(D2.read j).1=(D.read j).1:=λj h1 h2 h3=>by
  obtain⟨k,rfl⟩:=ad1 h1;rcases c1 k (by omega) with hh|⟨i,h4,h5,_⟩
  ·exact hh
  ·omega
 have NT:D2.safe.length=D.safe.length:=by rw[c4,hlen]
 have hpr:=qL (seq:=J.seq+1) (s:=s) ⟨by omega,by omega⟩ (by omega);have T8:∀j:Int,J.lo<=j->j<J.hi->∀x d,iH (D2.read j).1.data.toList=some (x,0,d)->Aw d<=J.seq+1:=λj h1 h2 x d hv=>by
  obtain⟨k,rfl⟩:=ad1 (show 0<=j by omega);rcases(sec k (by omega)).2 with hh|⟨i,hi,_,hh|hh⟩
  ·rw[hh] at hv;exact h.low _ h1 h2 x d hv
  ·rw[hh,jE (wS i (by omega)),kZ (wS i (by omega))] at hv;simp only[aea.injEq,Prod.mk.injEq] at hv;obtain⟨_,SJ,hd⟩:=hv;have:i=0:=by omega
   subst this;rw[<-hd,hpr.1];exact afq _
  ·rw[hh] at hv;cases hv
 have Oz:fZ D2 J.hi J.lo q0 kY J.at':=q6 NT _ h.chain (λj h1 h2=>out j (by omega) (by omega) (by omega));have N0:∀j:Nat,j<n->Ends m (D2.read (j:Int)).1:=λj hj=>(sec j hj).1;refine⟨SO,λh0 i hi=>?_,λhw=>?_,λhnw=>?_⟩
 ·have:=c2 h0 i hi;rw[show(a:Int)+(i:Int)=((a+i:Nat):Int) from by omega];exact this
 ·have Uf:=yJ (D:=D2) (a:=J.at') (to:=J.hi) (n:=m) (q:=J.seq+1) (s:=s) (by omega) (by omega) (by omega) (by omega) (by omega) (by omega) (by omega) (by rw[ha];exact hw);refine⟨c3,SG,c4,⟨j1,?_,?_,?_,?_⟩,?_,?_,h.q0,λj h1 h2 x d hv=>?_,?_,N0⟩
  ·show J.lo<=J.at'+_;omega
  ·show J.at'+_<=J.hi;omega
  ·show J.hi<=_;omega
  ·show 0<=J.seq+1/\J.seq+1<=_;omega
  ·show fZ D2 J.hi J.lo q0 _ (J.at'+_);refine BD kY Oz ?_;rw[<-h.seq];exact Uf
  ·show J.seq+1=_;rw[h.seq,adT,ad8,ael];omega
  ·show Aw d<=J.seq+1+1;have:=T8 j h1 h2 x d hv;omega
  ·show iI D2 (J.at'+(dN (12+s.size):Int)) J.hi (J.seq+1+1)=none;by_cases aaM:J.hi<=J.at'+(dN (12+s.size):Int)
   ·exact xO aaM
   ·refine xN (λx d hv=>?_);have:=T8 _ (by omega) (by omega) x d hv;omega
 ·refine⟨c3,SG,c4,⟨j1,j2,j3,by omega,j5⟩,Oz,h.seq,h.q0,T8,?_,N0⟩;cases hx:iI D2 J.at' J.hi (J.seq+1) with
  |none=>rfl
  |some y=>
   exfalso;obtain⟨s2,a2⟩:=y;obtain⟨i1,i2,i3,i4,i5,i6⟩:=mh hx;obtain⟨x,d,x1,x2,hv,K5⟩:=C3 (by omega) hx;have N1:=nO (12+s2.length);have NY:∀i:Nat,i<4096->Good x (i:Int) (part (bs (bE (J.seq+1) (bs s2))) i):=λi hi=>⟨x1,x2,by omega,by omega,jC _ i⟩;have Uo:=qL (seq:=J.seq+1) (s:=bs s2) ⟨by omega,by omega⟩ (by rw[bJ];omega);have rd:∀i:Nat,i<dN (12+s2.length)->iH (D2.read ((a+i:Nat):Int)).1.data.toList=some (x,(i:Int),part (bs (bE (J.seq+1) (bs s2))) i):=λi hi=>by
    have:=K5 i hi;rw[ha,show(a:Int)+(i:Int)=((a+i:Nat):Int) from by omega] at this;rw[this,jE (NY i (by omega)),kZ (NY i (by omega))]
   rcases(sec a (by omega)).2 with hh|⟨i,hi,X9,hh|hh⟩
   ·
    have r0:=rd 0 N1;rw[aeL,hh] at r0;have Xf:=CR (h.ends a (by omega)) (by omega) r0;have all:∀j:Int,J.at'<=j->j<a2->(D.read j).1=(D2.read j).1:=λj h1 h2=>by
     obtain⟨k,hk⟩:=ad1 (show 0<=j-a by omega);have hj:j=((a+k:Nat):Int):=by omega
     subst hj;rcases(sec (a+k) (by omega)).2 with e|⟨i,hi,X9,e|e⟩
     ·exact e.symm
     ·exfalso;have NW:i=k:=by omega
      subst NW;have r:=rd i (by omega);rw[e,jE (wS i (by omega)),kZ (wS i (by omega))] at r;simp only[aea.injEq,Prod.mk.injEq] at r;have:=r.1;omega
     ·exfalso;have r:=rd k (by omega);rw[e] at r;cases r
    have:=qO hx NT.symm all;rw[h.stop] at this;cases this
   ·
    have SJ:i=0:=by omega
    subst SJ;have r0:=rd 0 N1;rw[aeL,hh,jE (wS 0 (by omega)),kZ (wS 0 (by omega))] at r0;simp only[aea.injEq,Prod.mk.injEq] at r0;obtain⟨hxm,_,hp0⟩:=r0;have nY:s2.length=s.size:=by
     have e1:=hpr.2.2;have e2:=Uo.2.2;rw[hp0] at e1;rw[e1,bJ] at e2;omega
    refine hnw λi hi=>?_;rw[show(a:Int)+(i:Int)=((a+i:Nat):Int) from by omega];have r:=rd i (by rw[nY];exact hi);rcases(sec (a+i) (by omega)).2 with e|⟨i',qC,adL,e|e⟩
    ·exfalso;rw[e] at r;have:=CR (h.ends (a+i) (by omega)) (by omega) r;omega
    ·have:i'=i:=by omega
     subst this;exact e
    ·rw[e] at r;cases r
   ·have SJ:i=0:=by omega
    subst SJ;have r0:=rd 0 N1;rw[aeL,hh] at r0;cases r0
section
variable {W w:World} {L:LH}
end
def rY(D:ay)(mask torn cut:Int):(D.eP mask torn cut).safe.length=D.safe.length:=by rw[lE];simp only[hO]
def JG.add{n:Nat}{D:ay}{J:PJ}{q0:Int}{kY:List (List UInt8)}{g m:Nat}{s:BA}(h:JG n D J q0 kY g)(EU:J.dH=false)(bD:n<=4096)(hm:g<m)(JQ:m<256)(hr:room J s.size)(L9:J.seq<1152921504606846976):
 pw D J m s=yo J s (cQ D J.at' J.hi m (bs (bE (J.seq+1) s)))/\(cQ D J.at' J.hi m (bs (bE (J.seq+1) s))).1.Ok/\
 ((cQ D J.at' J.hi m (bs (bE (J.seq+1) s))).2=0/\JG n (cQ D J.at' J.hi m (bs (bE (J.seq+1) s))).1 (J.more s) q0 (kY++[s.data.toList]) m\/(cQ D J.at' J.hi m (bs (bE (J.seq+1) s))).2=8):=by
 have Wh:dN (12+s.size)<=400:=by have:=hr.2.1;unfold dN;split<;>omega
 have ft:=FX (at':=J.at') (to:=J.hi) (number:=m) (s:=bs (bE (J.seq+1) s)) h.ok (by rw[h.F4,oA,ael];omega);refine⟨?_,ft,?_⟩
 ·unfold pw;rw[if_neg (by rw[EU];exact afj),if_neg (by omega),if_neg (by rintro(hh|hh);exact hh hr;omega)]
 ·obtain⟨f1,f2,f3,f4⟩:=fly h bD hm JQ hr L9 0 (-1) 0;rcases f1 with f1|f1
  ·refine .inl ⟨f1,?_⟩;have hl:=Jy f1;have hj:=f3 (f2 f1);refine hj.congr ft hl ?_ (λj _ _=>?_)
   ·rw[<-rY _ 0 (-1) 0];exact hj.len
   ·rw[Bz hl]
  ·exact .inr f1
def VI{n:Nat}(h:n<=4096){lo hi:Int}(h0:0<=lo)(h1:lo<hi)(h2:hi<=n)(q0:Int)(hq:0<=q0/\q0<=1152921504606846976):JG n (ay.new n) ⟨lo,hi,lo,q0,false⟩ q0 [] 0:=by
 have hc:=BH h;refine⟨hc.ok,rfl,hc.len,⟨h0,afq _,by show lo<=hi;omega,by show hi<=_;rw[hc.len];exact h2,by show 0<=q0/\q0<=_;omega⟩,rfl,by show q0=q0+_;simp,hq.1,λj a b m d hv=>?_,?_,λj hj=>?_⟩
 ·dsimp only at a b;rw[C4 h (by omega) (by omega),tS] at hv;cases hv
 ·exact FU (C4 h h0 (by show lo<(n:Int);omega))
 ·rw[wH h hj];exact Bv
section
variable {W w:World} {L:LH} {k:Nat}
end
section
variable {W w:World} {L:LH}
end
end Go.Sep
namespace Go.Sep
open Go.Den Go.RowKit
section
variable {H:Type} {enc:TypeId×Value->H} {P:Program} {w:World} {base:Nat} {spare:Nat->Bool} {held:Bool}
end
end Go.Sep
namespace Go.Sep
open Go.Den Go.RowKit Go.Prog Go.bu
def JG.mono{n:Nat}{D:ay}{J:PJ}{q0:Int}{kY:List (List UInt8)}{g g':Nat}(h:JG n D J q0 kY g)(hg:g<=g'):JG n D J q0 kY g':=
 ⟨h.ok,h.F4,h.len,h.tg,h.chain,h.seq,h.q0,h.low,h.stop,λj hj=>(h.ends j hj).mono hg⟩
def JG.uf{n:Nat}{D:ay}{J:PJ}{q0:Int}{kY:List (List UInt8)}{g:Nat}(h:JG n D J q0 kY g)(hg:g<256):∃x:Nat,dv D n=x/\x<=g/\JG n D J q0 kY x:=by
 have h1:=uK D n;have h2:=yf (D:=D) hg n h.ends;obtain⟨x,hx⟩:=ad1 h1.1;refine⟨x,hx,by omega,⟨h.ok,h.F4,h.len,h.tg,h.chain,h.seq,h.q0,h.low,h.stop,λj hj=>?_⟩⟩;obtain⟨e1,⟨a,ha,e2⟩,b,hb,e3⟩:=h.ends j hj;have hle:=FP (D:=D) n j hj;have e4:yc (D.read (j:Int)).1=bs (le .i64 8 ((a:Nat):Int)):=gM (by rw[Gm,e2];rfl);have e5:xr (D.read (j:Int)).1=bs (le .i64 8 ((b:Nat):Int)):=gM (by rw[Fc e1,e3];rfl);rw[e4,e5,qN (by omega),qN (by omega)] at hle;exact⟨e1,⟨a,by omega,e2⟩,b,by omega,e3⟩
section
variable {W w:World} {L:LH}
end
section
variable {W w:World} {L:LH} {k:Nat}
end
def wG(a b:Option dx):Option dx:=
 match b with
 |none=>a
 |some hb=>match a with
  |none=>some hb
  |some ha=>if ha.aH<hb.aH then some hb else some ha
def r9(D:ay)(number:Int)(h:dx):ay×Int:=
 if kH h then(if(lay D (low h.aH) (low h.aH+1) number (bs (hG h))).2≠0 then lay D (low h.aH) (low h.aH+1) number (bs (hG h)) else(lay D (low h.aH) (low h.aH+1) number (bs (hG h))).1.sync) else(D,1)
section
variable {W w:World} {L:LH} {k d:Nat} {D:ay}
def LL{number:Int}{h:dx}{K:VK}(hs:St W w L)(hk:L[k]?=some (dL d D))(ft:D.Ok)(hl:D.later.length+5000<1099511627776)
 (hK:∀w',St W w' (L.set k (dL d (r9 D number h).1))->K (.i (r9 D number h).2) w'):pV (some ⟨d,0,none⟩) number (aU h) K w:=by
 unfold pV;refine fI hs λr w hs=>?_;refine fX (k:=0) (xs:=aU h) hs rfl rfl (λj v hj=>by rw[adU];exact hj) ?_;refine GO hs λw hs=>?_;simp only[nz,adO,adP];unfold r9 at hK;unfold zS;by_cases hg:kH h
 ·rw[if_pos hg] at hK⊢;dsimp only;refine qv (λhh=>absurd rfl hh) (λ_=>?_);refine bG (k:=0) hs rfl rfl ?_;simp only[nz,adO,adP];refine bG (k:=0) hs rfl rfl ?_;simp only[nz,adO,adP];have Lb:=sE h.aH;have ew:adN.wrap (bA .i64 .and h.aH 1+1)=low h.aH+1:=by
   show adN.wrap (low h.aH+1)=_;rw[aw (by omega)]
  rw[ew];have e0:bA .i64 .and h.aH 1=low h.aH:=rfl;rw[e0];have nY:(bs (hG h)).size=32:=by rw[bJ,mA]
  have H9:dN (bs (hG h)).size=1:=by rw[nY];rfl
  have ru:(pt r (aU h)::L)[k+1]?=some (dL d D):=by rw[ad7];exact hk
  refine BX (k:=k+1) hs ru ft (by omega) (by rw[nY];decide) λw hs=>?_;rw[ae5] at hs;simp only[nz,adO,adP];have Ld:=(Eb (at':=low h.aH) (to:=low h.aH+1) (number:=number) (s:=bs (hG h)) ft (by rw[H9];omega)).1;refine qv (λgS=>?_) (λh0=>?_)
  ·rw[if_pos gS] at hK;exact hK w hs.drop
  ·rw[if_neg (λhh=>hh h0)] at hK;refine qA (k:=k+1) hs (by rw[ad7];exact fV hk) Ld λw hs=>?_;rw[ae5,ae4] at hs;simp only[nz,adO,adP];exact hK w hs.drop
 ·rw[if_neg hg] at hK⊢;dsimp only;refine qv (λ_=>?_) (λhh=>by simp at hh);refine hK w ?_;rw[jO hk];exact hs.drop
def Cn(o:Option dx):dx:=o.getD Ad
def vH(o:Option dx):mz o=.tuple ⟨[.agg ⟨aU (Cn o)⟩,.bool o.isSome]⟩:=by cases o<;>rfl
def G7{K:VK}(hs:St W w L)(hk:L[k]?=some (dL d D))(ft:D.Ok)(hK:∀w',St W w' L->K (mz (wG (vN D 0) (vN D 1))) w'):nN (some ⟨d,0,none⟩) K w:=by
 unfold nN;refine fI hs λr1 w hs=>?_;refine J7 (i:=0) (k:=k+1) hs (by rw[ad7];exact hk) ft λw hs=>?_;rw[vH];simp only[nz,adO,adP];simp only[td];refine⟨rfl,?_⟩;simp only[nz,adO,adP];refine fI hs λr2 w hs=>?_;refine⟨rfl,gv (k:=0) hs rfl (adX rfl) (by simp[Value.oneCell',aU]) λw hs=>?_⟩;rw[eO (by simp[aU])] at hs;simp only[nz,adO,adP] at hs;refine J7 (i:=1) (k:=k+2) hs (by rw[ad7,ad7];exact hk) ft λw hs=>?_;rw[vH];simp only[nz,adO,adP];simp only[td];refine⟨rfl,?_⟩;simp only[nz,adO,adP];refine fI hs λr3 w hs=>?_;refine⟨rfl,gv (k:=0) hs rfl (adX rfl) (by simp[Value.oneCell',aU]) λw hs=>?_⟩;rw[eO (by simp[aU])] at hs;simp only[nz,adO,adP] at hs;generalize vN D 0=a at *;generalize vN D 1=b at *;have tell:∀(i:Nat)(o:Option dx)(r:Nat)(f:Bool),(i=0/\r=r3/\Cn o=Cn b\/i=1/\r=r2/\Cn o=Cn a)->(f=o.isSome)->(∀w',St W w' L->K (mz o) w')->
                                                                                                        ah ⟨r,0,none⟩ 4 (λcs=>a8 (cs.length=4) (ga ⟨r1,0,none⟩ cs (ah ⟨r1,0,none⟩ 4 λrz=>K (.tuple ⟨[.agg ⟨rz⟩,.bool f]⟩)))) w:=λi o r f hi hf hK=>by
  have wR:(pt r3 (aU (Cn b))::pt r2 (aU (Cn a))::pt r1 [.i 0,.i 0,.i 0,.i 0]::L)[i]?=some (pt r (aU (Cn o))):=by
   rcases hi with⟨rfl,rfl,h⟩|⟨rfl,rfl,h⟩<;>rw[h]<;>rfl
  refine fX (xs:=aU (Cn o)) hs wR rfl (λj v hj=>by rw[adU];exact hj) ?_;refine⟨rfl,?_⟩;refine gv (k:=2) hs rfl (adX rfl) (by simp[Value.oneCell',aU]) λw hs=>?_;rw[eO (by simp[aU])] at hs;simp only[nz,adO,adP] at hs;refine fX (k:=2) (xs:=aU (Cn o)) hs rfl rfl (λj v hj=>by rw[adU];exact hj) ?_;have:=hK w hs.drop.drop.drop;rw[vH] at this;rw[hf];exact this
 cases b with
 |none=>
  exact tell 1 a r2 _ (.inr ⟨rfl,rfl,rfl⟩) rfl hK
 |some hb=>
  cases a with
  |none=>exact tell 0 (some hb) r3 true (.inl ⟨rfl,rfl,rfl⟩) rfl hK
  |some ha=>
   have e1:(some hb:Option dx).isSome=true:=rfl;have e2:(some ha:Option dx).isSome=true:=rfl;rw[e1,e2];simp only[nz,adO,adP];refine bG (k:=0) hs rfl (v:=.i hb.aH) rfl ?_;simp only[nz,adO,adP];refine bG (k:=1) hs rfl (v:=.i ha.aH) rfl ?_;simp only[nz,adO,adP];unfold wG at hK;dsimp only at hK;refine de (λJS=>?_) (λhle=>?_)
   ·rw[if_pos JS] at hK;exact tell 0 (some hb) r3 true (.inl ⟨rfl,rfl,rfl⟩) rfl hK
   ·rw[if_neg hle] at hK;exact tell 1 (some ha) r2 true (.inr ⟨rfl,rfl,rfl⟩) rfl hK
end
end Go.Sep
namespace Go.Up
open Go.Sep Go.Den Go.RowKit Go.Prog Go.Md Go.bu
section
variable {W:World} {L R:LH} {K:VK} {X:WK} {d r n:Nat} {D:ay} {J:PJ} {f:ay->LH} {g:PJ->LH} {s:BA}
abbrev jP(d r:Nat)(J:PJ):HP:=Sep.pt r (nJ d J)
def LW[i:Lc (dL d) L D f](h:T W L (K (.i (D.safe.length:Int)))):T W L (dk (some ⟨d,0,none⟩) K):=λw hs=>by
 obtain⟨k,hk,e⟩:=i.at_;exact j0 hs hk (h w hs)
def No{n:Int}(h:∀d,T W (dL d (ay.new n)::L) (K (.p (some ⟨d,0,none⟩)))):T W L (jR n K):=λw hs=>O7 hs λd w' h'=>h d w' h'
def Zn[i:Lc (dL d) L D f]{n:Int}(h:T W (f (D.pB n)) (K (.tuple ⟨[]⟩))):T W L (iZ (some ⟨d,0,none⟩) n K):=λw hs=>by
 obtain⟨k,hk,e⟩:=i.at_;exact Cw hs hk λw' h'=>h w' (by rw[e];exact h')
def Zm(jz:12<=n)(bD:n<=4096)(h:T W L (K (.tuple ⟨[.agg ⟨cO n⟩,.i 0]⟩))):T W L (pF n K):=λw hs=>RZ hs jz bD λw' h'=>h w' h'
def TL[i:Lc (dL d) L D f]{which number:Int}(ft:D.Ok)(jz:12<=n)(bD:n<=4096)(hl:D.later.length+5000<1099511627776)(hs:s.size<=reachBytes)
 (h:T W (f (put D n which number s).1) (K (.i (put D n which number s).2))):T W L (mH (cO n) (some ⟨d,0,none⟩) which number s K):=λw hw=>by
 obtain⟨k,hk,e⟩:=i.at_;exact O5 hw hk ft jz bD hl hs λw' h'=>h w' (by rw[e];exact h')
def TM[i:Lc (dL d) L D f]{which number size:Int}(ft:D.Ok)(jz:12<=n)(bD:n<=4096)(h:T W L (K (oL (get D n which number size)))):T W L (mI (cO n) (some ⟨d,0,none⟩) which number size K):=λw hw=>by
 obtain⟨k,hk,e⟩:=i.at_;exact Pb hw hk ft jz bD λw' h'=>h w' h'
def O6[i:Lc (dL d) L D f](ft:D.Ok)(h:T W L (K (mz (wG (vN D 0) (vN D 1))))):T W L (nN (some ⟨d,0,none⟩) K):=λw hw=>by
 obtain⟨k,hk,e⟩:=i.at_;exact G7 hw hk ft λw' h'=>h w' h'
def Vl[i:Lc (dL d) L D f]{number:Int}{hd:dx}(ft:D.Ok)(hl:D.later.length+5000<1099511627776)(h:T W (f (r9 D number hd).1) (K (.i (r9 D number hd).2))):T W L (pV (some ⟨d,0,none⟩) number (aU hd) K):=λw hw=>by
 obtain⟨k,hk,e⟩:=i.at_;exact LL hw hk ft hl λw' h'=>h w' (by rw[e];exact h')
def BY[i:Lc (dL d) L D f](ft:D.Ok)(h:T W L (K (.i (dv D D.safe.length)))):T W L (kx (some ⟨d,0,none⟩) K):=λw hw=>by
 obtain⟨k,hk,e⟩:=i.at_;exact Cu hw hk ft λw' h'=>h w' h'
def NJ[i:Lc (jP d r) L J g](h:T W L (K (.i J.seq))):T W L (gg (some ⟨r,0,none⟩) K):=λw hw=>by
 obtain⟨k,hk,e⟩:=i.at_;exact OU hw hk (h w hw)
def LY[i:Lc (jP d r) L J g](h:T W (g {J with at':=J.lo}) (K (.tuple ⟨[]⟩))):T W L (fN (some ⟨r,0,none⟩) K):=λw hw=>by
 obtain⟨k,hk,e⟩:=i.at_;exact EH hw hk λw' h'=>h w' (by rw[e];exact h')
def QR[i:Lc (jP d r) L J g]{m:Int}(hJ:J.Ok D)(ft:D.Ok)(h:T W L (K (.bool (decide (room J m))))):T W L (fM (some ⟨r,0,none⟩) m K):=λw hw=>by
 obtain⟨k,hk,e⟩:=i.at_;exact Bd hw hk hJ ft λw' h'=>h w' h'
def T'{number:Int}(hJ:J.Ok D)(ft:D.Ok)(hl:D.later.length<1000000)(hs:s.size<=reachBytes)
 (h:T W (jP d r (pw D J number s).2.1::dL d (pw D J number s).1::R) (K (.i (pw D J number s).2.2))):T W (jP d r J::dL d D::R) (aV (some ⟨r,0,none⟩) number s K):=λw hw=>
 K0 (k:=0) (k2:=1) hw rfl rfl (by decide) hJ ft hl hs λw' h'=>h w' h'
def QT[i:Lc (dL d) L D f]{lo hi q:Int}(ft:D.Ok)(hp:0<=lo/\lo<hi/\hi<=(D.safe.length:Int))(hq:0<=q/\q<=1152921504606846976)
 (h:∀r b c,(∃n:Nat,n<=4096/\(gP D hi lo q).1.length=n/\(gP D hi lo q).2.2=q+n/\lo<=(gP D hi lo q).2.1/\(gP D hi lo q).2.1<=hi)->T W (own b (gP D hi lo q).1.length c 1 ((gP D hi lo q).1.map Cc)::jP d r ⟨lo,hi,(gP D hi lo q).2.1,(gP D hi lo q).2.2,false⟩::L)
  (K (.tuple ⟨[.p (some ⟨r,0,none⟩),.l b (gP D hi lo q).1.length c,.i 0]⟩))):T W L (gR (some ⟨d,0,none⟩) lo hi q K):=λw hw=>by
 obtain⟨k,hk,e⟩:=i.at_;exact LZ hw hk ft hp hq λr b c w' he h'=>h r b c he w' h'
end
end Go.Up
namespace Go.Sep
open Go.Den Go.RowKit Go.Prog Go.bu
def HW{D:ay}{at' to number:Int}{s:BA}(h:D.Ok)(hl:D.later.length+dN s.size<1099511627776):(cQ D at' to number s).1.later.length<=D.later.length+dN s.size:=by
 have hL:(lay D at' to number s).1.later.length<=D.later.length+dN s.size:=by
  unfold lay;split
  ·exact Nat.le_add_right _ _
  ·split
   ·exact Nat.le_add_right _ _
   ·exact(wM _ 0 h hl).2.2
 unfold cQ;split
 ·exact hL
 ·exact Nat.le_trans Dk.Fj.2 hL
section
variable {W w:World} {L:LH}
end
end Go.Sep
namespace Go.Up
open Go.Sep Go.Den Go.RowKit Go.Prog Go.Md Go.bu
structure VS where
 D:ay
 J:PJ
 aH:Int
 dH:Bool
def vC(d n pb pj:Nat)(aH:Int)(dH:Bool):LV:=[.p (some ⟨d,0,none⟩)]++(cO n++[.p (some ⟨pb,0,none⟩),.p (some ⟨pj,0,none⟩),.i aH,.bool dH])
instance{h:dx}:Ln (aU h) 4:=⟨rfl⟩
instance{n:Nat}:Ln (cO n) 5:=⟨rfl⟩
instance{h:dx}:Gt (aU h) 0 (.i h.aH):=⟨rfl⟩
instance{h:dx}:Gt (aU h) 1 (.i h.number):=⟨rfl⟩
instance{h:dx}:Gt (aU h) 2 (.i h.size):=⟨rfl⟩
instance{h:dx}:Gt (aU h) 3 (.i h.seq):=⟨rfl⟩
instance{n:Nat}:Gt (cO n) 3 (.i (2+2* bQ n:Nat)):=⟨rfl⟩
instance{n:Nat}:Gt (cO n) 4 (.i n):=⟨rfl⟩
instance{d n pb pj:Nat}{aH:Int}{dH:Bool}:Gt (vC d n pb pj aH dH) 0 (.p (some ⟨d,0,none⟩)):=⟨rfl⟩
instance{d n pb pj:Nat}{aH:Int}{dH:Bool}:Gt (vC d n pb pj aH dH) 6 (.p (some ⟨pb,0,none⟩)):=⟨rfl⟩
instance{d n pb pj:Nat}{aH:Int}{dH:Bool}:Gt (vC d n pb pj aH dH) 7 (.p (some ⟨pj,0,none⟩)):=⟨rfl⟩
instance{d n pb pj:Nat}{aH:Int}{dH:Bool}:Gt (vC d n pb pj aH dH) 8 (.i aH):=⟨rfl⟩
instance{d n pb pj:Nat}{aH:Int}{dH:Bool}:Gt (vC d n pb pj aH dH) 9 (.bool dH):=⟨rfl⟩
instance{d n pb pj:Nat}{aH:Int}{dH:Bool}:Sub (vC d n pb pj aH dH) 1 5 (cO n):=⟨rfl,λj v h=>by
 show([_]++(cO n++_))[1+j]?=some v
 rw[aeo (by simp),aec (by have:=(adS.1 h).1;simpa using this)]
 simpa using h⟩
instance{d n pb pj:Nat}{aH t2:Int}{dH:Bool}:Wr (vC d n pb pj aH dH) 8 [.i t2] (vC d n pb pj t2 dH):=⟨rfl,by show 9<=10;decide,λv h=>by simp at h;subst h;rfl⟩
instance{d n pb pj:Nat}{aH:Int}{dH s2:Bool}:Wr (vC d n pb pj aH dH) 9 [.bool s2] (vC d n pb pj aH s2):=⟨rfl,by show 10<=10;decide,λv h=>by simp at h;subst h;rfl⟩
abbrev VL(v d n pb pj:Nat)(m:Model)(S:VS)(R:LH):LH:=Sep.pt v (vC d n pb pj S.aH S.dH)::bj pb (bo m,[])::jP d pj S.J::dL d S.D::R
def gO(n:Nat)(m:Model)(S:VS):VS×Int:=
 if S.dH=true then(S,9)
 else if ¬dN (bO (bo m)).length<=bQ n then(S,3)
 else if(put S.D n (S.aH+1) (dv S.D S.D.safe.length+1) (bs (bO (bo m)))).2≠0 then(⟨(put S.D n (S.aH+1) (dv S.D S.D.safe.length+1) (bs (bO (bo m)))).1,S.J,S.aH,true⟩,(put S.D n (S.aH+1) (dv S.D S.D.safe.length+1) (bs (bO (bo m)))).2)
 else if(r9 (put S.D n (S.aH+1) (dv S.D S.D.safe.length+1) (bs (bO (bo m)))).1 (dv S.D S.D.safe.length+2) ⟨S.aH+1,dv S.D S.D.safe.length+1,((bO (bo m)).length:Int),S.J.seq⟩).2≠0 then
  (⟨(r9 (put S.D n (S.aH+1) (dv S.D S.D.safe.length+1) (bs (bO (bo m)))).1 (dv S.D S.D.safe.length+2) ⟨S.aH+1,dv S.D S.D.safe.length+1,((bO (bo m)).length:Int),S.J.seq⟩).1,S.J,S.aH,true⟩,(r9 (put S.D n (S.aH+1) (dv S.D S.D.safe.length+1) (bs (bO (bo m)))).1 (dv S.D S.D.safe.length+2) ⟨S.aH+1,dv S.D S.D.safe.length+1,((bO (bo m)).length:Int),S.J.seq⟩).2)
 else(⟨(r9 (put S.D n (S.aH+1) (dv S.D S.D.safe.length+1) (bs (bO (bo m)))).1 (dv S.D S.D.safe.length+2) ⟨S.aH+1,dv S.D S.D.safe.length+1,((bO (bo m)).length:Int),S.J.seq⟩).1,{S.J with at':=S.J.lo},S.aH+1,S.dH⟩,0)
section
variable {W:World} {L R:LH} {K:VK} {X:WK} {v d n pb pj:Nat} {m:Model} {S:VS}
def VJ{k:Nat}(hk:k<1099511627776000)(h:T W L (K (.bool (decide (dN k<=bQ n))))):T W L (mg (cO n) k K):=λw hs=>L0 hs hk λw' h'=>h w' h'
def xK{D:ay}{which number:Int}{s:BA}:put D n which number s=cQ D (cM n which) ((cM n which+bQ n:Nat):Int) number s:=rfl
def Kg{e:Int}{J2:PJ}{D2:ay}(ht:0<=S.aH/\S.aH<1152921504606846976)
 (h1:e≠0->T W (Sep.pt v (vC d n pb pj S.aH true)::bj pb (bo m,[])::jP d pj J2::dL d D2::R) (K (.i e)))
 (h0:e=0->T W (Sep.pt v (vC d n pb pj (S.aH+1) S.dH)::bj pb (bo m,[])::jP d pj {J2 with at':=J2.lo}::dL d D2::R) (K (.i 0))):
 T W (Sep.pt v (vC d n pb pj S.aH S.dH)::bj pb (bo m,[])::jP d pj J2::dL d D2::R) (cB.j1 K (some ⟨v,0,none⟩) e):=by
 unfold cB.j1;refine bB (λg1=>?_) (λg1=>?_)
 ·have g1:e≠0:=by simpa using g1
  apply ws;intros;exact h1 g1
 ·have g1:e=0:=by simpa using g1
  have e5:adN.wrap (S.aH+1)=S.aH+1:=aw (by omega);apply ws;intros;rw[e5];refine LY (d:=d) (r:=pj) ?_;apply ws;intros;exact h0 g1
def IK(ft:S.D.Ok)(vF:S.D.later.length<1000000)(jz:12<=n)(bD:n<=4096)(ht:0<=S.aH/\S.aH<1152921504606846976)
 (h:T W (VL v d n pb pj m (gO n m S).1 R) (K (.i (gO n m S).2))):T W (VL v d n pb pj m S R) (cB (some ⟨v,0,none⟩) K):=by
 unfold cB;refine mX (p:=pb) (b:=bo m) (hs:=[]) λhg=>?_;have Sz:=vn hg;have lh:=hg.lh;have many:=hg.many;apply ws;intros;unfold gO at h;cases yQ:S.dH with
 |true=>
  rw[if_pos yQ] at h;rw[gU];exact h
 |false=>
  rw[if_neg (by rw[yQ];decide)] at h;rw[cf]
  repeat' first|apply ws;intros|apply wb|with_reducible refine CH (p:=pb) ?_|fail
  rw[bJ];refine VJ (by omega) (pE ?_);by_cases hf:dN (bO (bo m)).length<=bQ n
  ·rw[if_neg (λhh=>hh hf)] at h;rw[decide_eq_true hf,Bool.not_true,cf];obtain⟨Hl,Mf⟩:=uK S.D S.D.safe.length;have e1:adN.wrap (dv S.D S.D.safe.length+1)=dv S.D S.D.safe.length+1:=aw (by omega);have e2:adN.wrap (dv S.D S.D.safe.length+1+1)=dv S.D S.D.safe.length+2:=by rw[aw (by omega)];omega
   have e3:adN.wrap (S.aH+1)=S.aH+1:=aw (by omega)
   repeat' first|apply ws;intros|apply wb|with_reducible refine BY (d:=d) ft ?_|fail
   rw[e1,e2,e3];have fj:(bs (bO (bo m))).size<=reachBytes:=by rw[bJ,Sz];unfold reachBytes;omega
   refine TL ft jz bD (by omega) fj ?_;have Xw:(put S.D n (S.aH+1) (dv S.D S.D.safe.length+1) (bs (bO (bo m)))).1.Ok:=by
    rw[xK];exact FX ft (by rw[bJ];unfold bQ at hf;omega)
   have XR:(put S.D n (S.aH+1) (dv S.D S.D.safe.length+1) (bs (bO (bo m)))).1.later.length<1010000:=by
    rw[xK];have:=HW (D:=S.D) (at':=(cM n (S.aH+1):Nat)) (to:=((cM n (S.aH+1)+bQ n:Nat):Int)) (number:=dv S.D S.D.safe.length+1) (s:=bs (bO (bo m))) ft (by rw[bJ];unfold bQ at hf;omega);rw[bJ] at this;unfold bQ at hf;omega
   generalize put S.D n (S.aH+1) (dv S.D S.D.safe.length+1) (bs (bO (bo m)))=P1 at h Xw XR⊢;generalize dv S.D S.D.safe.length=G at h⊢;apply ws;intros;refine bB (λg1=>?_) (λg1=>?_)
   ·have g1:P1.2=0:=by simpa using g1
    rw[if_neg (by omega)] at h
    repeat' first|apply ws;intros|apply wb|with_reducible refine NJ (d:=d) (r:=pj) ?_|fail
    rw[e3];show T W _ (pV (some ⟨d,0,none⟩) (G+2) (aU (⟨S.aH+1,G+1,((bO (bo m)).length:Int),S.J.seq⟩:dx)) _);refine Vl Xw (by omega) ?_;generalize r9 P1.1 (G+2) (⟨S.aH+1,G+1,((bO (bo m)).length:Int),S.J.seq⟩:dx)=P2 at h⊢;apply ws;intros;refine Kg (S:=S) ht (λhe=>?_) (λhe=>?_)
    ·rw[if_pos he] at h;exact h
    ·rw[if_neg (by omega)] at h;exact h
   ·have g1:P1.2≠0:=by simpa using g1
    rw[if_pos g1] at h;refine Kg (S:=S) ht (λhe=>?_) (λhe=>absurd he g1);exact h
  ·rw[if_pos hf] at h;rw[decide_eq_false hf,Bool.not_false,gU];exact h
end
def lj(S:VS)(s:BA):VS×Int:=
 (⟨(pw S.D S.J (dv S.D S.D.safe.length+1) s).1,(pw S.D S.J (dv S.D S.D.safe.length+1) s).2.1,S.aH,S.dH||(pw S.D S.J (dv S.D S.D.safe.length+1) s).2.2==8⟩,(pw S.D S.J (dv S.D S.D.safe.length+1) s).2.2)
def gX(n:Nat)(m:Model)(S:VS)(s:BA):VS×Int:=
 if room S.J s.size then lj S s else if(gO n m S).2≠0 then gO n m S else lj (gO n m S).1 s
def vR(n:Nat)(m:Model)(S:VS)(q:ic):VS×Model×Int×List Int:=
 if gp q=false then(S,m,1,[])
 else if S.dH=true then(S,m,9,[])
 else if(gX n m S (bs (ch q))).2≠0 then((gX n m S (bs (ch q))).1,m,(gX n m S (bs (ch q))).2,[])
 else((gX n m S (bs (ch q))).1,(aJ m q).2.2,(aJ m q).1,(aJ m q).2.1)
structure Mp(S:VS):Prop where
 ok:S.D.Ok
 lh:S.D.later.length<1000000
 tg:S.J.Ok S.D
 aH:0<=S.aH/\S.aH<1152921504606846976
section
variable {W:World} {L R:LH} {K:VK} {X:WK} {v d n pb pj:Nat} {m:Model} {S:VS} {s:BA} {q:ic} {sl:rC}
def T.eng{A B C D E F G:HP}(h:T W (B::C::A::D::E::R) X):T W (A::B::C::D::E::F::G::R) X:=
 T.perm (L:=B::C::A::D::E::F::G::R) (T.sub h (by exact mZ)) (adY (l₁:=[A]) (l₂:=[B,C])|>.append_right _)
def Pg(hS:Mp S)(hs:s.size<=reachBytes)(h:T W (VL v d n pb pj m (lj S s).1 R) (K (.i (lj S s).2))):T W (VL v d n pb pj m S R) (fF.j1 K (some ⟨v,0,none⟩) s):=by
 unfold fF.j1;obtain⟨Hl,Mf⟩:=uK S.D S.D.safe.length;have e1:adN.wrap (dv S.D S.D.safe.length+1)=dv S.D S.D.safe.length+1:=aw (by omega)
 repeat' first|apply ws;intros|apply wb|with_reducible refine BY (d:=d) hS.ok ?_|fail
 rw[e1];refine T.perm (L:=jP d pj S.J::dL d S.D::Sep.pt v (vC d n pb pj S.aH S.dH)::bj pb (bo m,[])::R) ?_ (adY (l₁:=[_,_]) (l₂:=[_,_])|>.append_right R);refine T' hS.tg hS.ok hS.lh hs ?_;unfold lj at h;generalize pw S.D S.J (dv S.D S.D.safe.length+1) s=A at h⊢;refine T.perm (L:=Sep.pt v (vC d n pb pj S.aH S.dH)::bj pb (bo m,[])::jP d pj A.2.1::dL d A.1::R) ?_ (adY (l₁:=[_,_]) (l₂:=[_,_])|>.append_right R);cases yQ:S.dH with
 |true=>
  rw[yQ,Bool.true_or] at h;apply ws;intros;exact h
 |false=>
  rw[yQ,Bool.false_or] at h;apply ws;intros;exact h
def Zk(hS:Mp S)(X':Mp (gO n m S).1)(jz:12<=n)(bD:n<=4096)(hs:s.size<=100000)(h:T W (VL v d n pb pj m (gX n m S s).1 R) (K (.i (gX n m S s).2))):T W (VL v d n pb pj m S R) (fF (some ⟨v,0,none⟩) s K):=by
 have hsr:s.size<=reachBytes:=by unfold reachBytes;omega
 unfold fF;apply ws;intros;refine QR (d:=d) (r:=pj) (D:=S.D) hS.tg hS.ok ?_;unfold gX at h;by_cases hr:room S.J s.size
 ·rw[if_pos hr] at h;rw[decide_eq_true hr];apply ws;intros;exact Pg hS hsr h
 ·rw[if_neg hr] at h;rw[decide_eq_false hr];apply ws;intros;refine IK hS.ok hS.lh jz bD hS.aH ?_;apply ws;intros;refine bB (λg1=>?_) (λg1=>?_)
  ·have g1:(gO n m S).2≠0:=by simpa using g1
   rw[if_pos g1] at h;exact h
  ·have g1:(gO n m S).2=0:=by simpa using g1
   rw[if_neg (by omega)] at h;exact Pg X' hsr h
def Fv(hw:gp q=true)(he:db q=true):(ch q).length<=2000:=by
 have Ut:q.op=1\/q.op=2\/q.op=3:=of_decide_eq_true he;have hf:=np hw;unfold ch;rw[adT,az];split
 ·rw[adT,az,dP oG];omega
 ·split
  ·rw[adT,az,dP ow];omega
  ·split
   ·rw[az];omega
   ·omega
def Ts(G:px W)(hg:Md.Ground m)(hS:Mp S)(X':Mp (gO n m S).1)(jz:12<=n)(bD:n<=4096)(hq:kS W R q sl)(hA:∀a∈q.ag,uu a)(hT:∀t∈q.aQ,tB t)(yT:q.ag.length<1000000)(aZ:q.aQ.length<1000000)(he:db q=true)
 (h:∀rb rc,Md.Ground (vR n m S q).2.1->T W (own rb (vR n m S q).2.2.2.length rc 1 ((vR n m S q).2.2.2.flatMap I1)::VL v d n pb pj (vR n m S q).2.1 (vR n m S q).1 R) (K (.agg ⟨nW (vR n m S q).2.2.1 rb (vR n m S q).2.2.2.length rc none 0 0 none 0 0⟩))):
 T W (VL v d n pb pj m S R) (dJ (some ⟨v,0,none⟩) (dF q sl) K):=by
 unfold dJ
 repeat' first|apply ws;intros|apply wb|with_reducible refine yj ?_|fail
 rw[he];apply ws;intros;refine Mv (R:=R) hq yT aZ (λhw=>?_) (λhw=>?_)
 ·apply ws;intros;unfold vR at h;rw[if_neg (by rw[hw];decide)] at h;refine dX (by decide) ?_;apply ws;intros;cases yQ:S.dH with
  |true=>
   rw[if_pos yQ] at h;apply ws;intros;refine eW (e:=1) ?_;refine T.sub (h none 0 hg) ?_
   repeat (first|exact ad5.refl _|apply ad5.cons_cons|apply ad5.cons)
  |false=>
   rw[if_neg (by rw[yQ];decide)] at h;rw[cf];have hrl:=Fv hw he;have US:q.op=2->∀t∈q.aQ,Zl t:=λho t ht=>⟨hT t ht,by
    have hf:=np hw
    have:∀a∈q.aQ,jZ a:=by rcases hf with h|h|h|h|h<;>first|exact h.2.2|omega
    exact this t ht⟩
   refine T.perm (L:=VL v d n pb pj m S (_::_::R)) ?_ (adY (l₁:=[_,_]) (l₂:=[_,_,_,_])|>.append_right R);refine Zk hS X' jz bD (by rw[bJ];omega) ?_;generalize gX n m S (bs (ch q))=A at h⊢;apply ws;intros;refine bB (λg1=>?_) (λg1=>?_)
   ·have g1:A.2≠0:=by simpa using g1
    rw[if_pos g1] at h;apply ws;intros;refine eW (e:=1) ?_;refine T.sub (h none 0 hg) ?_
    repeat (first|exact ad5.refl _|apply ad5.cons_cons|apply ad5.cons)
   ·have g1:A.2=0:=by simpa using g1
    rw[if_neg (by omega)] at h;apply ws;intros;refine T.HF ?_;refine GA G hg ⟨hq.ag.mono,hq.aQ.mono,hq.ids.mono,hq.ca,hq.ct,hq.ci⟩ (λ_=>hA) US λrb rc Mf=>?_;apply ws;intros;have fin:=h rb rc Mf;exact T.eng fin
 ·apply ws;intros;unfold vR at h;rw[if_pos hw] at h;refine ki (by decide) ?_;apply ws;intros;refine eW (e:=1) ?_;refine T.sub (h none 0 hg) ?_
  repeat (first|exact ad5.refl _|apply ad5.cons_cons|apply ad5.cons)
end
section
variable {W:World} {L R:LH} {K:VK} {X:WK} {v d n pb pj:Nat} {m:Model} {S:VS} {s:BA} {q:ic} {sl:rC}
def T.ask{O1 O2 B V J D F G:HP}(h:T W (O1::O2::V::B::J::D::R) X):T W (O1::O2::B::V::J::D::F::G::R) X:=
 T.perm (L:=O1::O2::V::B::J::D::F::G::R) (T.sub h (by exact mZ)) (aeh.append_left [O1,O2] (aeh.swap _ _ _))
def T.in2{F G V B J D:HP}(h:T W (B::V::J::D::F::G::R) X):T W (F::G::V::B::J::D::R) X:=
 T.perm h ((adY (l₁:=[F,G]) (l₂:=[V,B,J,D])|>.append_right R).trans (aeh.swap _ _ _))
def Tt(hq:kS W R q sl)(he:db q=false)
 (h:∀ab ac tb tc,T W (own ab (ask m q).2.1.length ac 14 ((ask m q).2.1.flatMap ao)::own tb (ask m q).2.2.length tc 16 ((ask m q).2.2.flatMap ai)::VL v d n pb pj m S R) (K (.agg ⟨nW (ask m q).1 none 0 0 ab (ask m q).2.1.length ac tb (ask m q).2.2.length tc⟩))):
 T W (VL v d n pb pj m S R) (dJ (some ⟨v,0,none⟩) (dF q sl) K):=by
 unfold dJ
 repeat' first|apply ws;intros|apply wb|with_reducible refine yj ?_|fail
 rw[he];apply ws;intros;refine T.in2 ?_;refine Zi ⟨hq.ag.mono,hq.aQ.mono,hq.ids.mono,hq.ca,hq.ct,hq.ci⟩ λab ac tb tc=>?_;apply ws;intros;exact T.ask (h ab ac tb tc)
def Tq(h:T W (VL v d n pb pj m S R) (K (.i S.J.seq))):T W (VL v d n pb pj m S R) (jB (some ⟨v,0,none⟩) K):=by
 unfold jB
 repeat' first|apply ws;intros|apply wb|with_reducible refine NJ (d:=d) (r:=pj) ?_|fail
 exact h
def PO(h:T W (VL v d n pb pj m S R) (K (.bool S.dH))):T W (VL v d n pb pj m S R) (fL (some ⟨v,0,none⟩) K):=by
 unfold fL;apply ws;intros;exact h
def E7(h:∀p,T W (bj p (bo m,[])::VL v d n pb pj m S R) (K (.p (some ⟨p,0,none⟩)))):T W (VL v d n pb pj m S R) (jK (some ⟨v,0,none⟩) K):=by
 refine mX (p:=pb) (b:=bo m) (hs:=[]) λhg=>?_;unfold jK
 repeat' first|apply ws;intros|apply wb|with_reducible refine CH (p:=pb) ?_|fail
 refine Fm hg λp=>?_;apply ws;intros;exact h p
end
def oy:Model:=⟨[],[],0,0⟩
def wV:Good (bo oy):=⟨List.nodup_nil,List.nodup_nil,(by show 0<=32;decide),(by show 0<=96;decide),λa h=>(by cases h),λa h=>(by cases h),List.Pairwise.nil,λa h=>(by cases h),(by show(0:Int)<=0/\(0:Int)<=1099511627776;decide),rfl⟩
def qm:Md.Ground oy:=⟨λa h=>(by cases h),List.nodup_nil,(by show 0<=32;decide),List.nodup_nil,λa h=>(by cases h),λa h=>(by cases h),(by show 0<=96;decide),λa h=>(by cases h),λa h=>(by cases h),λa h=>(by cases h)⟩
def u4(h:dx):∀v∈aU h,v.oneCell'=true:=λv hv=>by simp[aU] at hv;rcases hv with rfl|rfl|rfl|rfl<;>rfl
instance{x1 x2 x3 x4:Value}{h:dx}:Wr [x1,x2,x3,x4] 0 (aU h) (aU h):=⟨rfl,adW _,u4 h⟩
instance{h:dx}:Sub (aU h) 0 4 (aU h):=⟨rfl,λj v h=>by rw[adU];exact h⟩
def Cg(n:Nat):∀v∈cO n,v.oneCell'=true:=λv hv=>by simp[cO] at hv;rcases hv with rfl|rfl|rfl|rfl|rfl<;>rfl
instance{x1 x2 x3 x4 x5:Value}{n:Nat}:Wr [x1,x2,x3,x4,x5] 0 (cO n) (cO n):=⟨rfl,adW _,Cg n⟩
instance{n:Nat}:Sub (cO n) 0 5 (cO n):=⟨rfl,λj v h=>by rw[adU];exact h⟩
def VM(D:ay)(n:Nat)(hd:dx)(mb:Model):Prop:=
 (wG (vN D 0) (vN D 1)=none/\hd=Ad/\mb=oy)\/(wG (vN D 0) (vN D 1)=some hd/\get D n hd.aH hd.number hd.size=some (bO (bo mb)))
section
variable {W:World} {L R:LH} {K:VK} {X:WK} {v d n pb pj:Nat} {D:ay} {f:ay->LH} {mb:Model} {hd:dx}
def RK(h:∀p,T W (bj p (bo oy,[])::L) (K (.p (some ⟨p,0,none⟩)))):T W L (pY K):=by
 refine OG λp la lk ti tn=>?_;intro w7 hw7;have h2:=hw7.push (A:=rA []) trivial;refine z7 (p:=p) (la:=la) (lk:=lk) (ti:=ti) (tn:=tn) (vs:=[]) (bx:=[]) (c:=cY (bo oy)) (hs:=[]) (R:=L) trivial (λw hw=>h p w (St.and_intro wV hw)) w7 ?_;exact h2.perm (adY (l₁:=[rA []]) (l₂:=[_,_,_,_,_])|>.append_right L)
def PR[i:Lc (dL d) L D f](ft:D.Ok)(jz:12<=n)(bD:n<=4096)(hb:VM D n hd mb)(hg:Good (bo mb))(h:∀pb,T W (bj pb (bo mb,[])::L) (K (.tuple ⟨[.p (some ⟨pb,0,none⟩),.agg ⟨aU hd⟩,.i 0]⟩))):
 T W L (ss (some ⟨d,0,none⟩) (cO n) K):=by
 unfold ss;apply ws;intros;refine O6 ft ?_;rcases hb with⟨h1,rfl,rfl⟩|⟨h1,h2⟩
 ·rw[h1];unfold mz;apply ws;intros;refine RK λp=>?_;apply ws;intros;refine Kl (n:=4) (xs:=aU Ad) ?_;apply ws;intros;refine T.sub (h p) ?_;exact mZ
 ·rw[h1];unfold mz;apply ws;intros;refine TM ft jz bD ?_;rw[h2];unfold oL;apply ws;intros;refine Fm hg λp=>?_;apply ws;intros;refine T.sub (h p) ?_;exact mZ
end
structure DG(q:ic):Prop where
 uY:gp q=true
 writes:db q=true
 ag:∀a∈q.ag,uu a
 aQ:∀t∈q.aQ,tB t
def uU(m:Model)(qs:List ic):Model:=qs.foldl (λm q=>(aJ m q).2.2) m
def CP(m:Model)(qs:List ic)(q:ic):uU m (qs++[q])=(aJ (uU m qs) q).2.2:=by unfold uU;rw[List.foldl_append];rfl
def Cr{m0:Model}:∀(k:Nat)(m:Model),yI m0.clock m.kept=k->Md.Ground m->R3 m0 m->Md.Ground {m0 with kept:=m0.kept.map (Bu m0.clock)}:=by
 intro k
 induction k using Nat.strongRecOn with
 |_ k ih=>
  intro m hk hg hx;by_cases hn:∀x∈(bo m).kept,¬ju (bo m).clock x
  ·have:=C1 (oQ m) hx hn;rw[<-this];exact hg
  ·have:∃x,x∈(bo m).kept/\ju (bo m).clock x:=by
    by_cases he:∃x,x∈(bo m).kept/\ju (bo m).clock x
    ·exact he
    ·exact absurd (λx hx ho=>he ⟨x,hx,ho⟩) hn
   obtain⟨x,hxm,ho⟩:=this;obtain⟨-,-,m',cT,Q4,Ud,yb⟩:=C0 (oQ m) hg hx hxm ho;exact ih _ (by omega) m' rfl Q4 Ud
def Fe{m:Model}(hg:Md.Ground m)(now:Int):Md.Ground (m.time now):=by
 rw[DJ];exact Cr _ (qe m now) rfl (zg hg now) (R3.refl _)
def GL{q:ic}:(∀a∈(canon q).ag,a∈q.ag)/\(∀t∈(canon q).aQ,t∈q.aQ)/\(canon q).ag.length<=q.ag.length/\(canon q).aQ.length<=q.aQ.length:=by
 unfold canon;split
 ·exact⟨λa h=>h,λt h=>(by cases h),adW _,ad0 _⟩
 ·split
  ·exact⟨λa h=>(by cases h),λt h=>h,ad0 _,adW _⟩
  ·exact⟨λa h=>(by cases h),λt h=>(by cases h),ad0 _,ad0 _⟩
section
variable {W:World} {L R:LH} {K:VK} {X:WK} {v d n pb pj:Nat} {D:ay} {f:ay->LH} {mb:Model} {hd:dx} {qs:List ic}
def kS.two{Y A:HP}{q:ic}{s:rC}(hq:∀L',kS W (A::L') q s):kS W (Y::A::L) q s:=⟨(hq L).ag.mono,(hq L).aQ.mono,(hq L).ids.mono,(hq L).ca,(hq L).ct,(hq L).ci⟩
def T.WV{V O J H B P Dk:HP}(h:T W (B::V::J::Dk::O::R) X):T W (V::O::J::H::B::P::Dk::R) X:=
 T.perm (L:=B::V::J::Dk::O::H::P::R) (T.sub h (by exact mZ)) (by
  have e1:([V,O,J,H,B,P,Dk]:LH).Perm (B::[V,O,J,H,P,Dk]):=ae2 (l₁:=[V,O,J,H]) (l₂:=[P,Dk])
  have e2:([O,J,H,P,Dk]:LH).Perm (J::[O,H,P,Dk]):=ae2 (l₁:=[O]) (l₂:=[H,P,Dk])
  have e3:([O,H,P,Dk]:LH).Perm (Dk::[O,H,P]):=ae2 (l₁:=[O,H,P]) (l₂:=[])
  exact(e1.trans (aeh.cons _ (aeh.cons _ (e2.trans (aeh.cons _ e3))))).append_right R)
def PQ(G:px W)(ft:D.Ok)(jz:12<=n)(bD:n<=4096)(hlen:D.safe.length=n)(hb:VM D n hd mb)(hg:Good (bo mb))(pI:Md.Ground mb)(Cl:0<=hd.seq/\hd.seq<=1152921504606846976)
 (Ee:(gP D n (2+2* bQ n:Nat) hd.seq).1=qs.map ch)(ZI:∀q∈qs,DG q)
 (h:∀v pb pj,Md.Ground (uU mb qs)->T W (VL v d n pb pj (uU mb qs) ⟨D,⟨(2+2* bQ n:Nat),n,(gP D n (2+2* bQ n:Nat) hd.seq).2.1,(gP D n (2+2* bQ n:Nat) hd.seq).2.2,false⟩,hd.aH,false⟩ R) (K (.tuple ⟨[.p (some ⟨v,0,none⟩),.i 0]⟩))):
 T W (dL d D::R) (ff (some ⟨d,0,none⟩) K):=by
 unfold ff;have Ps:2+2* bQ n<n:=by unfold bQ;omega
 repeat' first|apply ws;intros|apply wb|with_reducible refine LW (d:=d) ?_|fail
 rw[hlen];refine Zm jz bD ?_;apply ws;intros;refine dX (by decide) ?_;apply ws;intros;refine PR (mb:=mb) (hd:=hd) ft jz bD hb hg λpb=>?_;apply ws;intros;refine dX (by decide) ?_;apply ws;intros;refine QT (D:=D) ft (by rw[hlen];omega) Cl λpj bb c hex=>?_;apply ws;intros;refine dX (by decide) ?_;apply ws;intros;rename_i v;rw[Ee];refine T.WV ?_;rw[aeg];have hql:qs.length<=4096:=by obtain⟨n',h1,h2,-⟩:=hex;rw[Ee,aeg] at h2;omega
 intro w L6;refine⟨λvv w=>∃i:Nat,i<=qs.length/\vv=[.p none,.i 0,.p (some ⟨pb,0,none⟩),.p (some (ad v 0)),.l bb qs.length c,.i (qs.length:Int),.i (i:Int)]/\Md.Ground (uU mb (qs.take i))/\
  St W w (bj pb (bo (uU mb (qs.take i)),[])::Sep.pt v (vC d n pb pj hd.aH false)::jP d pj ⟨(2+2* bQ n:Nat),n,(gP D n (2+2* bQ n:Nat) hd.seq).2.1,(gP D n (2+2* bQ n:Nat) hd.seq).2.2,false⟩::dL d D::own bb qs.length c 1 ((qs.map ch).map Cc)::R),
  λvs _=>match vs with|[_,_,_,_,_,_,.int _ k]=>qs.length-k.toNat|_=>0,⟨0,ad0 _,rfl,pI,L6⟩,?_⟩
 rintro p4 n9 p5 a1 sm qB sw Zx T4 w2 ⟨i,hi,e,XO,fj⟩;cases e
 refine T.at ?_ fj;have e5:=l9 i;refine dO (λg1=>?_) (λg1=>?_)
 ·have aZ:i<qs.length:=by omega
  have gx:=adQ aZ;have gq:=ZI _ (aee aZ);have oz:qs.take (i+1)=qs.take i++[qs[i]]:=by rw[ad',gx];rfl
  generalize qs[i]=q at gx gq oz;have X3:=CQ gq.uY gq.writes gq.ag gq.aQ;have XZ:=BG gq.uY gq.writes;refine bR (b:=bb) ⟨by omega,by omega⟩ λrb hb=>?_;subst hb;rw[adR,afm];refine MM (v:=Cc (ch q)) (by rw[aeD,aeD,gx];rfl) ?_;unfold Cc;refine PW ?_;refine PM (by have:=Fv gq.uY gq.writes;omega) (λuX=>by rw[Fz gq.uY gq.writes gq.ag gq.aQ] at uX;cases uX) (λ_ A sl hq=>?_);rw[X3] at hq⊢;dsimp only at hq⊢;apply ws;intros;refine dX (by decide) ?_
  repeat' first|apply ws;intros|apply wb|with_reducible refine yj ?_|fail
  rw[XZ.2];unfold ff.j1;apply ws;intros;refine T.TS ?_;have Ej:=GL (q:=q);have US:(canon q).op=2->∀t∈(canon q).aQ,Zl t:=λho t ht=>⟨gq.aQ t (Ej.2.1 t ht),by
   have hf:=np XZ.1
   have:∀a∈(canon q).aQ,jZ a:=by rcases hf with h|h|h|h|h<;>first|exact h.2.2|omega
   exact this t ht⟩
  have Bi:=BF (uU mb (qs.take i)) gq.writes;refine GA G XO (kS.two hq) (λ_ a ha=>gq.ag a (Ej.1 a ha)) US λPm rc2 Mf=>?_;apply ws;intros;rw[Bi.1] at Mf⊢;rw[e5];have hre:uU mb (qs.take (i+1))=(aJ (uU mb (qs.take i)) q).2.2:=by rw[oz,CP]
  refine T.sub (M:=bj pb (bo (aJ (uU mb (qs.take i)) q).2.2,[])::Sep.pt v (vC d n pb pj hd.aH false)::jP d pj ⟨(2+2* bQ n:Nat),n,(gP D n (2+2* bQ n:Nat) hd.seq).2.1,(gP D n (2+2* bQ n:Nat) hd.seq).2.2,false⟩::dL d D::own (some ⟨rb,0,none⟩) qs.length c 1 ((qs.map ch).map Cc)::R) (λw3 h3=>?_) ?_
  ·exact⟨⟨i+1,aZ,rfl,by rw[hre];exact Mf,by rw[hre];exact h3⟩,by show qs.length-((i+1:Nat):Int).toNat<qs.length-(i:Int).toNat;omega⟩
  ·repeat (first|exact ad5.refl _|apply ad5.cons_cons|apply ad5.cons)
 ·have gj:i=qs.length:=by omega
  subst gj;rw[ad3] at XO⊢;have fin:=h v pb pj XO;refine T.HF ?_;refine T.sub fin ?_;exact mZ
end
structure Rm(n g:Nat)(S:VS):Prop where
 calm:Sep.Calm n S.D
 ends:∀j:Nat,j<n->Sep.Ends g (S.D.read (j:Int)).1
 lo:S.J.lo=((2+2* bQ n:Nat):Int)
 hi:S.J.hi=(n:Int)
 J8:S.J.lo<=S.J.at'
 PF:S.J.at'<=S.J.hi
 seq:0<=S.J.seq/\S.J.seq<=1000000
 js:S.J.dH=false
 dH:S.dH=false
 aH:0<=S.aH/\S.aH<=g
def Rm.tg{n g:Nat}{S:VS}(h:Rm n g S):S.J.Ok S.D:=by
 have h2:=h.lo;have h5:=h.seq;have h7:=h.hi;exact⟨by omega,h.J8,h.PF,by rw[h.calm.len];omega,by omega⟩
def Hq{n g:Nat}{S:VS}{s:BA}(h:Rm n g S)(bD:n<=4096)(hg:g+1<256)(L9:S.J.seq<1000000)(hr:room S.J s.size):
 (lj S s).2=0/\Rm n (g+1) (lj S s).1/\(lj S s).1.J.at'=S.J.at'+(dN (12+s.size):Int)/\(lj S s).1.J.lo=S.J.lo/\(lj S s).1.J.seq=S.J.seq+1/\(lj S s).1.aH=S.aH:=by
 have pI:=yf (by omega) n h.ends;have XO:=(uK S.D n).1;have yS:=h.lo;have ye:=h.J8;obtain⟨D',e1,e2,e3,e4,e5,e6,e7⟩:=OL (n:=n) (number:=dv S.D n+1) (s:=s) h.calm bD h.tg h.js (by omega) (by omega) hr;unfold lj;rw[h.calm.len,e1];have nt:∀j:Nat,j<n->Sep.Ends (g+1) (D'.read (j:Int)).1:=λj hj=>by
  by_cases Dg:S.J.at'<=j/\(j:Int)<S.J.at'+(dN (12+s.size):Int)
  ·obtain⟨q,hq⟩:=ad1 (show 0<=(j:Int) -S.J.at' by omega);have:=e5 q (by omega);rw[show(j:Int)=S.J.at'+(q:Int) from by omega,this];obtain⟨m,hm⟩:=ad1 (show 0<=dv S.D n+1 by omega);rw[hm];have wS:Sep.Good m (q:Int) (Sep.part (bs (bE (S.J.seq+1) s)) q):=⟨by omega,by omega,by omega,by omega,by
    unfold Sep.part;rw[ByteArray.size_extract];omega⟩
   exact(Dw wS).mono (by omega)
  ·rw[e6 j (by omega) (by omega) (by omega)];exact(h.ends j hj).mono (by omega)
 have EU:=h.dH;have htu:=h.aH;have adx:=h.seq;refine⟨rfl,⟨e2,nt,h.lo,h.hi,e4.J8,e4.PF,⟨?_,?_⟩,h.js,?_,?_⟩,rfl,rfl,rfl,rfl⟩
 ·show 0<=S.J.seq+1;omega
 ·show S.J.seq+1<=1000000;omega
 ·show(S.dH||_)=false;rw[EU];rfl
 ·show 0<=S.aH/\S.aH<=((g+1:Nat):Int);omega
def KA{q:ic}(hw:gp q=true)(he:db q=true):(ch q).length<=924:=by
 have Ut:q.op=1\/q.op=2\/q.op=3:=of_decide_eq_true he;have hf:=np hw;unfold ch;rw[adT,az];split
 ·rw[adT,az,dP oG];omega
 ·split
  ·rw[adT,az,dP ow];omega
  ·split
   ·rw[az];omega
   ·omega
section
variable {W:World} {L R:LH} {K:VK} {X:WK} {a:aP} {t:Move} {q:ic} {s:rC}
def KI(h:T W L (K (.bool (decide (mB a))))):T W L (bC (ao a) K):=by
 unfold bC bC.j1 bC.j2 bC.j3
 repeat' first|apply ws;intros|apply wb|with_reducible refine bB (λh1=>?_) (λh1=>?_)|fail
 all_goals (refine T.fin (T.dp h) ?_;congr 1;(rw[aed];(try simp only[bz,false_iff,true_iff] at *)<;>(try simp only[mB,ad4] at *)<;>omega))
def KH(h:T W L (K (.bool (decide (jZ t))))):T W L (aS (ai t) K):=by
 unfold aS aS.j1 aS.j2 aS.j3 aS.j4 aS.j5
 repeat' first|apply ws;intros|apply wb|with_reducible refine bB (λh1=>?_) (λh1=>?_)|fail
 all_goals (refine T.fin (T.dp h) ?_;congr 1;(rw[aed];(try simp only[bz,false_iff,true_iff] at *)<;>(try simp only[jZ,ad4] at *)<;>omega))
def yH(h:T W L (K (.bool (db q)))):T W L (eG (dF q s) K):=by
 unfold eG;unfold db at h
 repeat' first|apply ws;intros|apply wb|with_reducible refine bB (λh1=>?_) (λh1=>?_)|fail
 ·have h1:=of_decide_eq_true h1;refine T.fin (T.dp h) ?_;congr 1;rw[decide_eq_decide];omega
 ·have h1:=of_decide_eq_false h1;rw[decide_eq_false (by omega)] at h;exact T.dp h
def CV(h:T W L (K (.bool (jv q)))):T W L (bY (dF q s) K):=by
 unfold bY bY.j1 bY.j2;apply ws;intros;refine bB (λg1=>?_) (λg1=>?_)
 ·have g1:q.op=1:=by simpa using g1
  unfold jv at h;rw[if_pos g1] at h;apply ws;intros;refine dO (λg2=>?_) (λg2=>?_)
  ·rw[decide_eq_true (by omega),aeS] at h;apply ws;intros;refine T.fin (T.dp h) ?_;congr 1;rw[decide_eq_decide];omega
  ·rw[decide_eq_false (by omega),ae1] at h;exact T.dp h
 have g1: ¬q.op=1:=by simpa using g1
 apply ws;intros;refine bB (λg2=>?_) (λg2=>?_)
 ·have g2:q.op=2:=by simpa using g2
  unfold jv at h;rw[if_neg g1,if_pos g2] at h;apply ws;intros;refine dO (λg2=>?_) (λg2=>?_)
  ·rw[decide_eq_true (by omega),aeS] at h;apply ws;intros;refine T.fin (T.dp h) ?_;congr 1;rw[decide_eq_decide];omega
  ·rw[decide_eq_false (by omega),ae1] at h;exact T.dp h
 have g2: ¬q.op=2:=by simpa using g2
 unfold jv at h;rw[if_neg g1,if_neg g2] at h;apply ws;intros;refine bB (λg3=>?_) (λg3=>?_)
 ·have g3:q.op=3:=by simpa using g3
  rw[if_pos g3] at h;apply ws;intros;refine dO (λg2=>?_) (λg2=>?_)
  ·rw[decide_eq_true (by omega),aeS] at h;apply ws;intros;exact T.dp h
  ·rw[decide_eq_false (by omega),ae1] at h;exact T.dp h
 have g3: ¬q.op=3:=by simpa using g3
 rw[if_neg g3] at h;exact T.dp h
def CU(h:T W L (K (.bool (kR q)))):T W L (aA (dF q s) K):=by
 have main:∀(r1:Nat)(b1:Bool),b1=decide (q.op=4\/q.op=5)->T W (Sep.pt r1 (dF q s)::L) (aA.j1 K r1 b1):=λr1 b1 hb=>by
  unfold aA.j1 aA.j2;unfold kR at h;by_cases Ml:q.op=4\/q.op=5
  ·rw[if_pos Ml] at h;rw[decide_eq_true Ml] at hb;subst hb;apply ws;intros;refine dO (λg2=>?_) (λg2=>?_)
   ·rw[decide_eq_true (by omega),aeS] at h;apply ws;intros;refine T.fin (T.dp h) ?_;congr 1;rw[decide_eq_decide];omega
   ·rw[decide_eq_false (by omega),ae1] at h;exact T.dp h
  ·rw[if_neg Ml] at h;rw[decide_eq_false Ml] at hb;subst hb;rw[cf];apply ws;intros;rename_i r2;have j6:∀b:Bool,b=decide (q.op=6/\0<=q.fE/\0<=q.rv/\1<=q.hI/\q.hI<=16)->T W (Sep.pt r2 (lZ q)::Sep.pt r1 (dF q s)::L) (aA.j6 K r2 b):=λb hb=>by
    unfold aA.j6;cases b with
    |true=>
     have hc:=of_decide_eq_true hb.symm;rw[if_pos hc.1,decide_eq_true hc.2,aeS] at h;apply ws;intros;cases hd:q.rW with
     |true=>
      rw[hd] at h;apply ws;intros;exact T.dp h
     |false=>
      rw[hd,Bool.false_or] at h;apply ws;intros;exact T.dp h
    |false=>
     have hc:=of_decide_eq_false hb.symm;apply ws;intros;by_cases g6:q.op=6
     ·rw[if_pos g6,decide_eq_false (λhh=>hc ⟨g6,hh⟩),ae1] at h;exact T.dp h
     ·rw[if_neg g6] at h;exact T.dp h
   have j5:∀b:Bool,b=decide (q.op=6/\0<=q.fE/\0<=q.rv/\1<=q.hI)->T W (Sep.pt r2 (lZ q)::Sep.pt r1 (dF q s)::L) (aA.j5 K r2 b):=λb hb=>by
    unfold aA.j5;cases b with
    |true=>
     apply ws;intros;refine j6 _ ?_;have:=of_decide_eq_true hb.symm;rw[decide_eq_decide];omega
    |false=>
     apply ws;intros;refine j6 _ ?_;have:=of_decide_eq_false hb.symm;exact(decide_eq_false (by omega)).symm
   have j4:∀b:Bool,b=decide (q.op=6/\0<=q.fE/\0<=q.rv)->T W (Sep.pt r2 (lZ q)::Sep.pt r1 (dF q s)::L) (aA.j4 K r2 b):=λb hb=>by
    unfold aA.j4;cases b with
    |true=>
     apply ws;intros;refine j5 _ ?_;have:=of_decide_eq_true hb.symm;rw[decide_eq_decide];omega
    |false=>
     apply ws;intros;refine j5 _ ?_;have:=of_decide_eq_false hb.symm;exact(decide_eq_false (by omega)).symm
   have j3:∀b:Bool,b=decide (q.op=6/\0<=q.fE)->T W (Sep.pt r2 (lZ q)::Sep.pt r1 (dF q s)::L) (aA.j3 K r2 b):=λb hb=>by
    unfold aA.j3;cases b with
    |true=>
     apply ws;intros;refine j4 _ ?_;have:=of_decide_eq_true hb.symm;rw[decide_eq_decide];omega
    |false=>
     apply ws;intros;refine j4 _ ?_;have:=of_decide_eq_false hb.symm;exact(decide_eq_false (by omega)).symm
   refine bB (λg6=>?_) (λg6=>?_)
   ·have g6:q.op=6:=by simpa using g6
    apply ws;intros;refine j3 _ ?_;rw[decide_eq_decide];omega
   ·have g6: ¬q.op=6:=by simpa using g6
    refine j3 _ ?_;exact(decide_eq_false (by omega)).symm
 unfold aA;apply ws;intros;refine bB (λg1=>?_) (λg1=>?_)
 ·have UW:q.op=4:=by simpa using g1
  exact main _ _ (decide_eq_true (.inl UW)).symm
 ·have UW: ¬q.op=4:=by simpa using g1
  apply ws;intros;exact main _ _ (by rw[aed];simp[UW])
def sO(q:ic):lK q=((q.ag.all λx=> !decide (q.op=1)||decide (mB x))&&(q.aQ.all λx=> !decide (q.op=2)||decide (jZ x))):=by
 unfold lK;by_cases h1:q.op=1
 ·rw[if_pos h1];have h2: ¬q.op=2:=by omega
  simp[h1]
 ·rw[if_neg h1];by_cases h2:q.op=2
  ·rw[if_pos h2];simp[h2]
  ·rw[if_neg h2];simp[h1,h2]
def AJ[hh:Has R L](hq:kS W R q s)(yT:q.ag.length<1000000)(aZ:q.aQ.length<1000000){r1:Nat}{b1:Bool}(h:T W (Sep.pt r1 (dF q s)::L) (K (.bool (!b1&&lK q)))):T W (Sep.pt r1 (dF q s)::L) (c9.j1 K r1 b1):=by
 unfold c9.j1;cases b1 with
 |true=>rw[gU];exact h
 |false=>
  rw[Bool.not_false,aeS] at h;rw[cf];apply ws;intros;intro w jF;refine⟨λvv w=>∃i:Nat,i<=q.ag.length/\(q.ag.take i).all (λx=> !decide (q.op=1)||decide (mB x))=true/\vv=[.p (some ⟨r1,0,none⟩),.bool false,.l s.sa q.ag.length s.ca,.i (q.ag.length:Int),.i (i:Int)]/\St W w (Sep.pt r1 (dF q s)::L),
   λvs _=>match vs with|[_,_,_,_,.int _ d]=>q.ag.length-d.toNat|_=>0,⟨0,ad0 _,rfl,rfl,jF⟩,?_⟩
  rintro a1 b2 sm qB sw n2 n3 w2 ⟨i,hi,fH,e,fj⟩;cases e
  refine T.at ?_ fj;have e5:=l9 i;refine dO (λg1=>?_) (λg1=>?_)
  ·have aZ:i<q.ag.length:=by omega
   have gx:=adQ aZ;generalize q.ag[i]=x at gx;refine jy hq.ag ⟨by omega,by omega⟩ rfl λa ha=>?_;rw[adR];refine jx hq.ag ha gx rfl ?_;apply ws;intros;rw[e5];have step:(!decide (q.op=1)||decide (mB x))=true->T W (Sep.pt r1 (dF q s)::L) (λw=>(∃j:Nat,j<=q.ag.length/\(q.ag.take j).all (λx=> !decide (q.op=1)||decide (mB x))=true/\[.p (some ⟨r1,0,none⟩),.bool false,.l s.sa q.ag.length s.ca,.i (q.ag.length:Int),.i ((i+1:Nat):Int)]=[.p (some ⟨r1,0,none⟩),.bool false,.l s.sa q.ag.length s.ca,.i (q.ag.length:Int),Value.int .i64 (j:Int)]/\St W w (Sep.pt r1 (dF q s)::L))/\q.ag.length-((i+1:Nat):Int).toNat<q.ag.length-(i:Int).toNat):=λhp w3 h3=>⟨⟨i+1,aZ,by rw[xm gx fH];exact hp,rfl,h3⟩,by omega⟩;refine bB (λg2=>?_) (λg2=>?_)
   ·have g2:q.op=1:=by simpa using g2
    repeat' first|apply ws;intros|apply wb|with_reducible refine KI ?_|fail
    by_cases hg:mB x
    ·rw[decide_eq_true hg];apply ws;intros;refine T.drop ?_;exact step (by rw[decide_eq_true hg,Bool.or_true])
    ·rw[decide_eq_false hg];apply ws;intros;rw[sO,all_false (P:=λx=> !decide (q.op=1)||decide (mB x)) gx (by rw[decide_eq_false hg,decide_eq_true g2];rfl)] at h;rw[ae1] at h;exact T.drop h
   ·have g2: ¬q.op=1:=by simpa using g2
    refine T.drop ?_;exact step (by rw[decide_eq_false g2];rfl)
  ·have gj:i=q.ag.length:=by omega
   subst gj;rw[ad3] at fH;have X7:=fH;apply ws;intros;intro w jF;refine⟨λvv w=>∃i:Nat,i<=q.aQ.length/\(q.aQ.take i).all (λx=> !decide (q.op=2)||decide (jZ x))=true/\vv=[.p (some ⟨r1,0,none⟩),.bool false,.l s.st q.aQ.length s.ct,.i (q.aQ.length:Int),.i (i:Int)]/\St W w (Sep.pt r1 (dF q s)::L),
    λvs _=>match vs with|[_,_,_,_,.int _ d]=>q.aQ.length-d.toNat|_=>0,⟨0,ad0 _,rfl,rfl,jF⟩,?_⟩
   rintro a1 b2 sm qB sw n2 n3 w2 ⟨i,hi,fH,e,fj⟩;cases e
   refine T.at ?_ fj;have e5:=l9 i;refine dO (λg1=>?_) (λg1=>?_)
   ·have aZ:i<q.aQ.length:=by omega
    have gx:=adQ aZ;generalize q.aQ[i]=x at gx;refine jy hq.aQ ⟨by omega,by omega⟩ rfl λa ha=>?_;rw[adR];refine jx hq.aQ ha gx rfl ?_;apply ws;intros;rw[e5];have step:(!decide (q.op=2)||decide (jZ x))=true->T W (Sep.pt r1 (dF q s)::L) (λw=>(∃j:Nat,j<=q.aQ.length/\(q.aQ.take j).all (λx=> !decide (q.op=2)||decide (jZ x))=true/\[.p (some ⟨r1,0,none⟩),.bool false,.l s.st q.aQ.length s.ct,.i (q.aQ.length:Int),.i ((i+1:Nat):Int)]=[.p (some ⟨r1,0,none⟩),.bool false,.l s.st q.aQ.length s.ct,.i (q.aQ.length:Int),Value.int .i64 (j:Int)]/\St W w (Sep.pt r1 (dF q s)::L))/\q.aQ.length-((i+1:Nat):Int).toNat<q.aQ.length-(i:Int).toNat):=λhp w3 h3=>⟨⟨i+1,aZ,by rw[xm gx fH];exact hp,rfl,h3⟩,by omega⟩;refine bB (λg2=>?_) (λg2=>?_)
    ·have g2:q.op=2:=by simpa using g2
     repeat' first|apply ws;intros|apply wb|with_reducible refine KH ?_|fail
     by_cases hg:jZ x
     ·rw[decide_eq_true hg];apply ws;intros;refine T.drop ?_;exact step (by rw[decide_eq_true hg,Bool.or_true])
     ·rw[decide_eq_false hg];apply ws;intros;rw[sO,all_false (P:=λx=> !decide (q.op=2)||decide (jZ x)) gx (by rw[decide_eq_false hg,decide_eq_true g2];rfl)] at h;rw[Bool.and_false] at h;exact T.drop h
    ·have g2: ¬q.op=2:=by simpa using g2
     refine T.drop ?_;exact step (by rw[decide_eq_false g2];rfl)
   ·have gj:i=q.aQ.length:=by omega
    subst gj;rw[ad3] at fH;rw[sO,X7,fH] at h;exact h
def CT[hh:Has R L](hq:kS W R q s)(yT:q.ag.length<1000000)(aZ:q.aQ.length<1000000)(h:T W L (K (.bool (gp q)))):T W L (c9 (dF q s) K):=by
 unfold c9
 repeat' first|apply ws;intros|apply wb|with_reducible refine CV ?_|fail
 unfold gp at h;cases he:jv q with
 |true=>
  rw[he,Bool.true_or] at h;apply ws;intros;exact AJ hq yT aZ (T.drop h)
 |false=>
  rw[he,Bool.false_or] at h
  repeat' first|apply ws;intros|apply wb|with_reducible refine CU ?_|fail
  refine AJ hq yT aZ (T.drop ?_);rw[Bool.not_not];exact h
end
def zo(m:Model)(mb:OA)(mc:Nat)(kb:OA)(kc:Nat):LV:=[.l mb m.made.length mc,.l kb m.kept.length kc,.i m.clock,.i m.ae]
instance{m:Model}{mb kb:OA}{mc kc:Nat}:Gt (zo m mb mc kb kc) 0 (.l mb m.made.length mc):=⟨rfl⟩
instance{m:Model}{mb kb:OA}{mc kc:Nat}:Gt (zo m mb mc kb kc) 1 (.l kb m.kept.length kc):=⟨rfl⟩
instance{m:Model}{mb kb:OA}{mc kc:Nat}:Gt (zo m mb mc kb kc) 2 (.i m.clock):=⟨rfl⟩
instance{m:Model}{mb kb:OA}{mc kc:Nat}:Gt (zo m mb mc kb kc) 3 (.i m.ae):=⟨rfl⟩
abbrev ML(p:Nat)(m:Model)(mb:OA)(mc:Nat)(kb:OA)(kc:Nat)(R:LH):LH:=Sep.pt p (zo m mb mc kb kc)::own mb m.made.length mc 14 (m.made.flatMap ao)::own kb m.kept.length kc 33 (m.kept.flatMap aI)::R
def Bh{α:Type}(P:α->Bool)(l:List α):Int:=match l.findIdx? P with|some i=>(i:Int)|none=> -1
def Dc{α:Type}{P:α->Bool}{l:List α}(h:∀x∈l,P x=false):Bh P l= -1:=by
 unfold Bh;rw[List.findIdx?_eq_none_iff.2 h]
def Db{α:Type}{P:α->Bool}{l:List α}{i:Nat}{x:α}(hx:l[i]?=some x)(hp:P x=true)(h:∀y∈l.take i,P y=false):Bh P l=(i:Int):=by
 unfold Bh;obtain⟨hi,he⟩:=adS.1 hx;rw[(List.findIdx?_eq_some_iff_getElem (xs:=l) (p:=P)).2 ⟨hi,by rw[he];exact hp,λj hj=>by
  have NV:j<l.length:=Nat.lt_trans hj hi
  have:=h (l[j]) (List.mem_take_iff_getElem.2 ⟨j,by omega,rfl⟩)
  rw[this];exact aej⟩]
def CC{α:Type}{P:α->Bool}{l:List α}{i:Nat}{x:α}(hx:l[i]?=some x)(hp:P x=false)(h:∀y∈l.take i,P y=false):∀y∈l.take (i+1),P y=false:=λy hy=>by
 rw[ad',hx,aeu] at hy;rcases hy with hy|hy
 ·exact h y hy
 ·cases(show y=x by simpa using hy);exact hp
section
variable {W:World} {L R:LH} {K:VK} {X:WK} {p:Nat} {m:Model} {mb kb:OA} {mc kc:Nat} {a:aP} {t:Move}
def sz(hm:m.made.length<1000000){id:Nat}(h:T W (ML p m mb mc kb kc R) (K (.i (Bh (λx:aP=>decide (x.id=id)) m.made)))):T W (ML p m mb mc kb kc R) (cH (some ⟨p,0,none⟩) (nm id) K):=by
 unfold cH;apply ws;intros;rename_i r1;intro w jF;refine⟨λvv w=>∃i:Nat,i<=m.made.length/\(∀x∈m.made.take i,decide (x.id=id)=false)/\vv=[.p (some (ad r1 0)),.i 0,.l mb m.made.length mc,.i (m.made.length:Int),.i (i:Int)]/\St W w (Sep.pt r1 (nm id)::ML p m mb mc kb kc R),
  λvs _=>match vs with|[_,_,_,_,.int _ d]=>m.made.length-d.toNat|_=>0,⟨0,ad0 _,(λx hx=>by cases hx),rfl,jF⟩,?_⟩
 rintro a2 n1 sm qB sw n2 n3 w2 ⟨i,hi,fH,e,fj⟩;cases e
 refine T.at ?_ fj;have e5:=l9 i;refine dO (λg1=>?_) (λg1=>?_)
 ·have aZ:i<m.made.length:=by omega
  have gx:=adQ aZ;generalize m.made[i]=x at gx;refine bR (b:=mb) ⟨by omega,by omega⟩ λrb hb=>?_;rw[adR];subst hb;refine dy eY gx ?_;apply ws;intros;rw[e5];refine bB (λg2=>?_) (λg2=>?_)
  ·rw[Db gx g2 fH] at h;exact T.dp h
  ·refine T.drop λw3 h3=>⟨⟨i+1,aZ,CC gx g2 fH,rfl,h3⟩,by show m.made.length-((i+1:Nat):Int).toNat<m.made.length-(i:Int).toNat;omega⟩
 ·have gj:i=m.made.length:=by omega
  subst gj;rw[ad3] at fH;rw[Dc fH] at h;exact T.dp h
def DX(hm:m.kept.length<1000000){id:Nat}(h:T W (ML p m mb mc kb kc R) (K (.i (Bh (λx:Kept=>decide (x.move.id=id)) m.kept)))):T W (ML p m mb mc kb kc R) (dS (some ⟨p,0,none⟩) (nm id) K):=by
 unfold dS;apply ws;intros;rename_i r1;intro w jF;refine⟨λvv w=>∃i:Nat,i<=m.kept.length/\(∀x∈m.kept.take i,decide (x.move.id=id)=false)/\vv=[.p (some (ad r1 0)),.i 0,.l kb m.kept.length kc,.i (m.kept.length:Int),.i (i:Int)]/\St W w (Sep.pt r1 (nm id)::ML p m mb mc kb kc R),
  λvs _=>match vs with|[_,_,_,_,.int _ d]=>m.kept.length-d.toNat|_=>0,⟨0,ad0 _,(λx hx=>by cases hx),rfl,jF⟩,?_⟩
 rintro a2 n1 sm qB sw n2 n3 w2 ⟨i,hi,fH,e,fj⟩;cases e
 refine T.at ?_ fj;have e5:=l9 i;refine dO (λg1=>?_) (λg1=>?_)
 ·have aZ:i<m.kept.length:=by omega
  have gx:=adQ aZ;generalize m.kept[i]=x at gx;refine bR (b:=kb) ⟨by omega,by omega⟩ λrb hb=>?_;rw[adR];subst hb;refine dy fB gx ?_;apply ws;intros;rw[e5];refine bB (λg2=>?_) (λg2=>?_)
  ·rw[Db gx g2 fH] at h;exact T.dp h
  ·refine T.drop λw3 h3=>⟨⟨i+1,aZ,CC gx g2 fH,rfl,h3⟩,by show m.kept.length-((i+1:Nat):Int).toNat<m.kept.length-(i:Int).toNat;omega⟩
 ·have gj:i=m.kept.length:=by omega
  subst gj;rw[ad3] at fH;rw[Dc fH] at h;exact T.dp h
end
def qQ{α:Type}(f:α->α)(i:Nat)(l:List α):List α:=(l.take i).map f++l.drop i
def Ll{α:Type}{f:α->α}{i:Nat}{l:List α}:(qQ f i l).length=l.length:=by unfold qQ;rw[adT,aeg,<-adT,aek]
def H'{α:Type}{f:α->α}{l:List α}:qQ f 0 l=l:=rfl
def Lm{α:Type}{f:α->α}{l:List α}:qQ f l.length l=l.map f:=by unfold qQ;rw[ad3,List.drop_length,aeb]
def Gq{α:Type}{f:α->α}{i:Nat}{l:List α}{x:α}(hx:l[i]?=some x):(qQ f i l)[i]?=some x:=by
 obtain⟨hi,he⟩:=adS.1 hx;unfold qQ;rw[aeo (by simp;omega),aeg,adV,afh (by omega),ae8,ae6,aeL];exact hx
def Dn{α:Type}{f:α->α}{i:Nat}{l:List α}{x:α}(hx:l[i]?=some x):(qQ f i l).set i (f x)=qQ f (i+1) l:=by
 obtain⟨hi,he⟩:=adS.1 hx;unfold qQ;have h1:((l.take i).map f).length=i:=by rw[aeg,adV,afh (by omega)]
 rw[List.set_append_right _ _ (by omega),h1,ae8,aev hi,List.set_cons_zero,ad',hx];simp
def Ia{α:Type}{f:α->α}{i:Nat}{l:List α}{x:α}(hx:l[i]?=some x)(hf:f x=x):qQ f (i+1) l=qQ f i l:=by
 rw[<-Dn hx,hf];have:=Gq (f:=f) hx;obtain⟨hi,he⟩:=adS.1 this;rw[<-he,List.set_getElem_self]
section
variable {W:World} {L R:LH} {K:VK} {X:WK} {p:Nat} {m:Model} {mb kb:OA} {mc kc:Nat} {a:aP} {t:Move}
def xH(hm:m.kept.length<1000000)(hb:∀k∈m.kept,adN.wrap (k.move.born+k.move.timeout)=k.move.born+k.move.timeout)
 (h:T W (ML p {m with kept:=m.kept.map (Bu m.clock)} mb mc kb kc R) (K (.tuple ⟨[]⟩))):T W (ML p m mb mc kb kc R) (bh (some ⟨p,0,none⟩) K):=by
 unfold bh;apply ws;intros;intro w jF;refine⟨λvv w=>∃(i:Nat)(l:List Kept),i<=m.kept.length/\l=qQ (Bu m.clock) i m.kept/\vv=[.l kb m.kept.length kc,.i (m.kept.length:Int),.i (i:Int)]/\St W w (Sep.pt p (zo m mb mc kb kc)::own mb m.made.length mc 14 (m.made.flatMap ao)::own kb m.kept.length kc 33 (l.flatMap aI)::R),
  λvs _=>match vs with|[_,_,.int _ d]=>m.kept.length-d.toNat|_=>0,⟨0,m.kept,ad0 _,H'.symm,rfl,jF⟩,?_⟩
 rintro sm qB sw n1 n2 w2 ⟨i,l,hi,hl,e,fj⟩;cases e
 refine T.at ?_ fj;have e5:=l9 i;have De:l.length=m.kept.length:=by rw[hl];exact Ll
 refine dO (λg1=>?_) (λg1=>?_)
 ·have aZ:i<m.kept.length:=by omega
  have gx:=adQ aZ;have hbx:=hb _ (aee aZ);generalize m.kept[i]=x at gx hbx;have gl:l[i]?=some x:=by rw[hl];exact Gq gx
  refine bR (b:=kb) ⟨by omega,by omega⟩ λrb ue=>?_;rw[adR];subst ue;refine dy fB gl ?_;have main:∀(r1:Nat)(b1:Bool),b1=decide (ju m.clock x)->T W (Sep.pt r1 (aI x)::Sep.pt p (zo m mb mc (some ⟨rb,0,none⟩) kc)::own mb m.made.length mc 14 (m.made.flatMap ao)::own (some ⟨rb,0,none⟩) m.kept.length kc 33 (l.flatMap aI)::R)
                                                      (bh.j1 K (some ⟨p,0,none⟩) (i:Int) (λvv w=>∃(i:Nat)(l:List Kept),i<=m.kept.length/\l=qQ (Bu m.clock) i m.kept/\vv=[.l (some ⟨rb,0,none⟩) m.kept.length kc,.i (m.kept.length:Int),.i (i:Int)]/\St W w (Sep.pt p (zo m mb mc (some ⟨rb,0,none⟩) kc)::own mb m.made.length mc 14 (m.made.flatMap ao)::own (some ⟨rb,0,none⟩) m.kept.length kc 33 (l.flatMap aI)::R)) (some ⟨rb,0,none⟩) m.kept.length kc (m.kept.length:Int) (λvs _=>match vs with|[_,_,.int _ d]=>m.kept.length-d.toNat|_=>0) w2 b1):=λr1 b1 PB=>by
   unfold bh.j1;rw[e5];cases b1 with
   |true=>
    have ZJ:=of_decide_eq_true PB.symm;apply ws;intros;refine bR (b:=some ⟨rb,0,none⟩) ⟨by omega,by omega⟩ λPm ue=>?_;cases ue
    rw[adR];refine I3 ?_;refine An (o:=i) (x:=x) (y:={x with fate:=4}) fB gl rfl (by decide) rfl ?_;refine T.drop λw3 h3=>⟨⟨i+1,_,aZ,?_,rfl,h3⟩,by show m.kept.length-((i+1:Nat):Int).toNat<m.kept.length-(i:Int).toNat;omega⟩;rw[<-Dn gx,hl];unfold Bu;rw[if_pos ZJ]
   |false=>
    have ZJ:=of_decide_eq_false PB.symm;rw[cf];refine T.drop λw3 h3=>⟨⟨i+1,_,aZ,?_,rfl,h3⟩,by show m.kept.length-((i+1:Nat):Int).toNat<m.kept.length-(i:Int).toNat;omega⟩;rw[Ia gx (by unfold Bu;rw[if_neg ZJ]),hl]
  apply ws;intros;refine bB (λg2=>?_) (λg2=>?_)
  ·have g2:x.fate=1:=by simpa using g2
   apply ws;intros;refine dO (λg3=>?_) (λg3=>?_)
   ·apply ws;intros;rw[hbx];refine main _ _ ?_;rw[decide_eq_decide];exact⟨λhh=>⟨g2,g3,hh⟩,λhh=>hh.2.2⟩
   ·exact main _ _ (decide_eq_false (λhh=>g3 hh.2.1)).symm
  ·have g2: ¬x.fate=1:=by simpa using g2
   exact main _ _ (decide_eq_false (λhh=>g2 hh.1)).symm
 ·have gj:i=m.kept.length:=by omega
  subst gj;rw[Lm] at hl;subst hl;unfold ML zo at h;simp only[aeg] at h;exact h
instance V9{m:Model}{mb kb:OA}{mc kc:Nat}{c:Int}:Wr (zo m mb mc kb kc) 2 [.i c] (zo {m with clock:=c} mb mc kb kc):=⟨rfl,by show 3<=4;decide,λv h=>by simp at h;subst h;rfl⟩
def Qk{now:Int}(hm:m.kept.length<1000000)(hb:∀k∈m.kept,adN.wrap (k.move.born+k.move.timeout)=k.move.born+k.move.timeout)
 (h:T W (ML p (m.time now) mb mc kb kc R) (K (.tuple ⟨[]⟩))):T W (ML p m mb mc kb kc R) (gG (some ⟨p,0,none⟩) now K):=by
 unfold gG;rw[DJ] at h;unfold qe at h;apply ws;intros;refine dO (λg1=>?_) (λg1=>?_)
 ·refine dO (λg2=>?_) (λg2=>?_)
  ·rw[if_pos ⟨g1,g2⟩] at h;apply ws;intros;refine xH (m:={m with clock:=now}) hm hb ?_;apply ws;intros;exact h
  ·rw[if_neg (λhh=>g2 hh.2)] at h;refine xH hm hb ?_;apply ws;intros;exact h
 ·rw[if_neg (λhh=>g1 hh.1)] at h;refine xH hm hb ?_;apply ws;intros;exact h
end
def uM{f b:Int}(h0:0<=f)(h1:f<1000000)(hb:1<=b):adN.wrap (f.tdiv b)=f/b:=by
 rw[Int.tdiv_eq_ediv_of_nonneg h0];have h2:=Int.ediv_nonneg h0 (show 0<=b by omega);have h3:=Int.ediv_le_self b h0;exact aw (by omega)
def OE{f b:Int}(h0:0<=f)(h1:f<1000000)(hb:1<=b):(((adN.wrap (f.tdiv b)).tmod (2:Int))==1)=decide (has f b):=by
 rw[uM h0 h1 hb,aey (Int.ediv_nonneg h0 (by omega))];rw[aed,beq_iff_eq,decide_eq_true_eq];exact Iff.rfl
section
variable {W:World} {L R:LH} {K:VK} {X:WK} {a b:aP} {t u:Move}
def FH{f n:Int}(h0:0<=f/\f<1000000)(hn:1<=n)(h:T W L (K (.bool (decide (has f n))))):T W L (jj f n K):=by
 unfold jj;refine cK (by omega) ?_;refine cK (by decide) ?_;rw[OE h0.1 h0.2 hn];exact h
def HM(ha:0<=a.flags/\a.flags<256)(hb:0<=b.flags/\b.flags<256)(h:T W L (K (.i (rB a b)))):T W L (dR (ao a) (ao b) K):=by
 unfold dR dR.j1;have e1:(adN.wrap (a.flags.tdiv 2)).tmod 4=a.flags/2%4:=by rw[uM ha.1 (by omega) (by decide),aey (by omega)]
 have e2:(adN.wrap (b.flags.tdiv 2)).tmod 4=b.flags/2%4:=by rw[uM hb.1 (by omega) (by decide),aey (by omega)]
 unfold rB at h;apply ws;intros;refine bB (λg1=>?_) (λg1=>?_)
 ·have g1:a.aF=b.aF:=by simpa using g1
  apply ws;intros;refine bB (λg2=>?_) (λg2=>?_)
  ·have g2:a.code=b.code:=by simpa using g2
   repeat' first|apply ws;intros|apply wb|with_reducible refine cK (by decide) ?_|fail
   refine bB (λg3=>?_) (λg3=>?_)
   ·rw[e1,e2] at g3;have g3:a.flags/2%4=b.flags/2%4:=by simpa using g3
    rw[if_pos ⟨g1,g2,g3⟩] at h;exact T.dp h
   ·rw[e1,e2] at g3;have g3: ¬a.flags/2%4=b.flags/2%4:=by simpa using g3
    rw[if_neg (λhh=>g3 hh.2.2)] at h;exact T.dp h
  ·have g2: ¬a.code=b.code:=by simpa using g2
   rw[if_neg (λhh=>g2 hh.2.1)] at h;exact T.dp h
 ·have g1: ¬a.aF=b.aF:=by simpa using g1
  rw[if_neg (λhh=>g1 hh.1)] at h;apply ws;intros;exact T.dp h
def gZ{n:Int}(h0:0<=t.flags/\t.flags<1000000)(hn:1<=n)(h:T W L (K (.bool (decide (has t.flags n))))):T W L (aO (ai t) n K):=by
 unfold aO;apply ws;intros;refine cK (by omega) ?_;refine cK (by decide) ?_;rw[OE h0.1 h0.2 hn];exact T.dp h
def rL(h0:0<=t.flags/\t.flags<1000000)(h:T W L (K (.bool (decide (gr t.flags))))):T W L (dI (ai t) K):=by
 unfold dI;apply ws;intros;refine gZ h0 (by decide) ?_;apply ws;intros;by_cases h4:has t.flags 4
 ·rw[decide_eq_true (show gr t.flags from .inl h4)] at h;rw[decide_eq_true h4];apply ws;intros;exact T.dp h
 ·rw[decide_eq_false h4];apply ws;intros;refine gZ h0 (by decide) ?_;apply ws;intros;have e:decide (gr t.flags)=decide (has t.flags 8):=by rw[decide_eq_decide];exact⟨λhh=>hh.resolve_left h4,.inr⟩
  rw[e] at h;exact T.dp h
end
def oo(x:Int):IntKind.u64.wrap x=x%18446744073709551616:=by
 unfold IntKind.wrap;simp[IntKind.signed,IntKind.bits]
section
variable {W:World} {L R:LH} {K:VK} {X:WK} {a b:Nat}
def vy{r3:Nat}{n1 n2 n7:Int}{b1:Bool}(hb:b1=decide (¬a+b<aK))(h0: ¬b1=true->n7=(((a+b)/18446744073709551616:Nat):Int)/\IntKind.u64.wrap (n1+n2)=(((a+b)%18446744073709551616:Nat):Int))
 (h:T W L (K (.tuple ⟨[.agg ⟨nm (add a b)⟩,.bool (decide (a+b<aK))]⟩))):T W (Sep.pt r3 [.u 0,.u 0]::L) (bM.j1 K r3 n1 n2 n7 b1):=by
 unfold bM.j1;unfold add at h;cases b1 with
 |true=>
  have hb:=of_decide_eq_true hb.symm;rw[if_neg hb,decide_eq_false hb] at h;apply ws;intros;exact T.dp h
 |false=>
  have hb:=of_decide_eq_false hb.symm;have ue:a+b<aK:=by omega
  rw[if_pos ue,decide_eq_true ue] at h;obtain⟨e1,e2⟩:=h0 (by decide);rw[e1,e2];apply ws;intros;exact T.dp h
def pP(ha:a<aK)(hb:b<aK)(h:T W L (K (.tuple ⟨[.agg ⟨nm (add a b)⟩,.bool (decide (a+b<aK))]⟩))):T W L (bM (nm a) (nm b) K):=by
 unfold bM;unfold nm;unfold aK at ha hb;have e1:IntKind.u64.wrap (((a%18446744073709551616:Nat):Int)+((b%18446744073709551616:Nat):Int))=(((a+b)%18446744073709551616:Nat):Int):=by rw[oo];omega
 apply ws;intros;refine dO (λg1=>?_) (λg1=>?_)
 ·rw[e1] at g1;refine dO (λg2=>?_) (λg2=>?_)
  ·rw[oo] at g2;refine vy (a:=a) (b:=b) (decide_eq_true (by unfold aK;omega)).symm (λhh=>absurd rfl hh) ?_;exact T.dp h
  ·rw[oo] at g2;refine vy (a:=a) (b:=b) ?_ (λhh=>⟨?_,e1⟩) ?_
   ·rw[aed,beq_iff_eq,decide_eq_true_eq,oo,oo];unfold aK;omega
   ·rw[beq_iff_eq,oo,oo] at hh;rw[oo,oo];omega
   ·exact T.dp h
 ·rw[e1] at g1;refine vy (a:=a) (b:=b) ?_ (λhh=>⟨?_,e1⟩) ?_
  ·rw[decide_eq_decide,oo];unfold aK;omega
  ·rw[decide_eq_true_eq,oo] at hh;rw[oo];omega
  ·exact T.dp h
def wy(ha:a<aK)(hb:b<aK)(h:T W L (K (.agg ⟨nm (add a b)⟩))):T W L (fK (nm a) (nm b) K):=by
 unfold fK;apply ws;intros;refine pP ha hb ?_;apply ws;intros;exact T.dp h
end
end Go.Up
