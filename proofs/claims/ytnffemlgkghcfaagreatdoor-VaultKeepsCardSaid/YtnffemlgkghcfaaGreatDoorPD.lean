/- Part of the proof: see the last text. -/
import Derived.Test.YtnffemlgkghcfaaGreatDoorPC
import Derived.Test.YtnffemlgkghcfaaGreatDoorPA
import Derived.Test.YtnffemlgkghcfaaGreatDoorPB
set_option linter.all false
set_option maxRecDepth 100000
set_option synthInstance.maxSize 100000
open Bool renaming eq_iff_iff→aek,true_and→ae0,false_and→ae9,and_eq_true→aeR,false_eq_true→aeo,noConfusion→afr,false_ne_true→aeq
open Decidable renaming not_not→aea
open Go.IntKind renaming i64→adU
open Int renaming toNat_natCast→adY,eq_ofNat_of_zero_le→ad8,le_refl→afy,tmod_eq_emod_of_nonneg→aeG
open List renaming getElem?_eq_getElem→adX,getElem?_eq_some_iff→adZ,length_append→ad0,length_take→ad2,append_assoc→ad5,length_drop→ad9,replicate→aec,length_cons→aee,drop_eq_getElem_cons→aeD,length_replicate→ae4,cons_append→afa,set_set→afb,getElem?_drop→afd,getElem?_take→afo,take_length→ad',take_add_one→aeg,append_nil→aei,getElem_mem→aej,Perm→aem,take_append_drop→aer,nil_append→aeA,drop_of_length_le→aeF,drop_drop→ae8,getElem?_of_mem→aff,perm_append_comm→ad7,Sublist→aeb,getElem?_append_right→aey,length_map→aen,map_append→aeu,length_reverse→aeU,take_of_length_le→aef,filter_cons_of_pos→aeX,filter_cons_of_neg→aeY,mem_of_getElem?→aep,getElem?_map→aeJ,flatMap_cons→aeN,flatMap_append→aeV,map_congr_left→ae6,range→aft,mem_map→aeI,pairwise_iff_getElem→ae3,ext_getElem?→afg,find?_eq_none→afh,take_zero→afm,length_nil→aes,getElem?_cons_succ→aed,drop_zero→ae5,take_take→afu,set_cons_succ→afc,getElem?_append_left→ael,perm_middle→ae',mem_append→aeB
open Nat renaming le_refl→ad4,zero_le→ad6,add_zero→aeT,sub_self→afj,add_mul→afl,mul_one→afn,min_eq_left→afp,zero_add→ad1,pow_le_pow_right→aeP,mul_le_mul_right→aeL,mod_eq_of_lt→aeH,reduceAdd→adV,reduceMul→adW,le_of_ble_eq_true→ad3
open Option renaming isSome_some→aev,getD_some→aew,isSome_none→aeE,getD_none→aeQ,map→afA,some→aeh,map_some→aeK
namespace Go.Up
open Go.Sep Go.Den Go.RowKit Go.Prog Go.Md Go.bA
def Li(n:Int):bC .i64 .and n 1=n%2:=by
 unfold bC;have e1:(BitVec.ofInt adU.bits n&&&BitVec.ofInt adU.bits 1).toNat=(BitVec.ofInt 64 n).toNat%2:=by
  rw[BitVec.toNat_and];show(BitVec.ofInt 64 n).toNat&&&1=_;exact Nat.and_one_is_mod _
 dsimp only;rw[e1];have e2:(((BitVec.ofInt 64 n).toNat%2:Nat):Int)=n%2:=by
  rw[BitVec.toNat_ofInt];omega
 rw[e2];exact ar (by omega)
def Lh{n:Int}(h0:0<=n)(h1:n<=7):bC .i64 .andNot n 1=n/2* 2:=by
 have:n=0\/n=1\/n=2\/n=3\/n=4\/n=5\/n=6\/n=7:=by omega
 rcases this with rfl|rfl|rfl|rfl|rfl|rfl|rfl|rfl<;>rfl
section
variable {α:Type} {W:World} {R L:LH} {K:VK} {X:WK} {g:α->LV} {e:Nat} {s:OA} {l:List α}
def oe(W:World)(R:LH)(g:α->LV)(e:Nat)(s:OA)(l:List α):Prop:=
 ∀w,St W w R->∀i x,l[i]?=some x->∃a,s=some a/\tB w (a.add (i* e)) (g x)
def kf{i:Int}{n:Nat}{K:Addr->WK}[hh:Has R L](hr:oe W R g e s l)(hi:0<=i/\i<l.length)(hn:n=l.length)(h:∀a,s=some a->T W L (K (a.add (i.toNat* e)))):T W L (fP s n i e K):=λw hs=>by
 obtain⟨a,ha,-⟩:=hr w (hh.sub hs) i.toNat _ (adX (by omega));exact⟨a,ha,⟨hi.1,by omega⟩,h a ha w hs⟩
def ke{i:Nat}{x:α}{a:Addr}{K:LV->WK}[hh:Has R L](hr:oe W R g e s l)(hs:s=some a)(hx:l[i]?=some x)(hg:(g x).length=e)(h:T W L (K (g x))):T W L (ai (a.add (i* e)) e K):=λw hw=>by
 obtain⟨a',ha,hh⟩:=hr w (hh.sub hw) i x hx;rw[hs] at ha;cases ha
 exact⟨g x,hg,hh,h w hw⟩
def oe.drop{c i:Nat}(hr:oe W R g e s l)(hi:i<=l.length)(hc:l.length<=c):oe W R g e (tR s c i e) (l.drop i):=λw hw j x hx=>by
 rw[afd] at hx;obtain⟨a,ha,hh⟩:=hr w hw (i+j) x hx;have aZ:=(adZ.1 hx).1;unfold tR;rw[if_neg (by omega),ha];refine⟨a.add (i* e),rfl,?_⟩;rw[add_add,<-afl];exact hh
def oe.take{i:Nat}(hr:oe W R g e s l):oe W R g e s (l.take i):=λw hw j x hx=>by
 refine hr w hw j x ?_;rw[afo] at hx;split at hx
 ·exact hx
 ·cases hx
def zM{b:OA}{n c i j e:Nat}{K:OA->Nat->Nat->WK}(hi:i<=j)(hj:j<=c)(h:T W L (K (tR b c i e) (j-i) (c-i))):T W L (oo b n c e (some (i:Int)) (some (j:Int)) K):=by
 unfold oo;refine cL ⟨by omega,by omega⟩ ?_;dsimp only;refine cL ⟨by omega,by omega⟩ ?_;rw[adY,adY];exact h
end
def I1(i:Int):LV:=[.i i]
def yB(i:Int):(I1 i).length=1:=rfl
section
variable {W:World} {L:LH} {K:VK} {X:WK} {f:HP->LH}
def EK{r N C o n i:Nat}{c:Nat}{v:Int}{l:List Int}[j:o8 (some ⟨r,0,none⟩) N C L 1 (l.flatMap I1) f](ho:o+n<=l.length)(hi:i<n)(hn:n<1000000)
 (h:T W (f (own (some ⟨r,0,none⟩) N C 1 ((l.take o++im n (some (i,v))++l.drop (o+n)).flatMap I1))) (K (.tuple ⟨[]⟩))):T W L (fK (some ⟨r,o,none⟩) n c i v K):=by
 unfold fK;intro w hs;obtain⟨k,hk,e1⟩:=j.at_;have u1:min o l.length=o:=afp (by omega)
 let st:Nat->List Int:=λm=>l.take o++aec m 1++l.drop (o+m)
 have rK:∀m,m<=n->(st m).length=l.length:=λm hm=>by simp only[st,ad0,ad2,u1,ae4,ad9];omega
 refine⟨λvs w=>∃m:Nat,m<=n/\vs=[.i (n:Int),.i (m:Int)]/\St W w (f (own (some ⟨r,0,none⟩) N C 1 ((st m).flatMap I1))),λvs _=>match vs with|[_,.int _ d]=>n-d.toNat|_=>0,⟨0,ad6 _,rfl,?_⟩,?_⟩
 ·have:st 0=l:=by simp[st]
  rw[this,e1,jQ hk];exact hs
 rintro n3 n4 w2 ⟨m,hm,e,fo⟩;cases e
 rw[e1] at fo;have rz:(L.set k (own (some ⟨r,0,none⟩) N C 1 ((st m).flatMap I1)))[k]?=some (own (some ⟨r,0,none⟩) N C 1 ((st m).flatMap I1)):=fZ hk;have one:∀v∈I1 1,v.oneCell'=true:=λv hv=>by simp[I1] at hv;subst hv;rfl
 by_cases aZ:m<n
 ·rw[decide_eq_true (by omega)];rw[gW];refine⟨_,rfl,⟨by omega,by omega⟩,?_⟩;rw[dZ,adY,afn];refine xJ fo rz (by rw[xi yB,rK m hm];omega) rfl λw3 qU=>?_;have e5:=mh m;rw[e5];refine⟨⟨m+1,aZ,rfl,?_⟩,by show n-((m+1:Nat):Int).toNat<n-(m:Int).toNat;omega⟩;rw[e1];rw[afb] at qU;have e6:((st m).flatMap I1).set (o+m) (Value.int adU 1)=(st (m+1)).flatMap I1:=by
   have:=ym (g:=I1) (l:=st m) (o:=o+m) (y:=1) (j:=0) (v:=.i 1) yB (adX (by rw[rK m hm];omega)) rfl (by decide);have e7:(st m).set (o+m) 1=st (m+1):=by
    have hd:l.drop (o+m)=l[o+m]'(by omega)::l.drop (o+m+1):=aeD (by omega);have hAB:(l.take o++aec m (1:Int)).length=o+m:=by rw[ad0,ad2,ae4,u1]
    simp only[st];rw[hd,List.set_append_right _ _ (by omega),hAB,afj,List.set_cons_zero,List.replicate_succ'];simp[Nat.add_assoc]
   rw[<-e7,<-this,afn,aeT]
  rw[e6] at qU;exact qU
 ·have hmn:m=n:=by omega
  subst hmn;rw[decide_eq_false (by omega),cf];refine⟨_,rfl,⟨by omega,by omega⟩,?_⟩;rw[dZ,adY,afn];refine xJ fo rz (by rw[xi yB,rK m hm];omega) rfl λw3 qU=>?_;refine h w3 ?_;rw[e1];rw[afb] at qU;have e6:((st m).flatMap I1).set (o+i) (Value.int adU v)=(l.take o++im m (some (i,v))++l.drop (o+m)).flatMap I1:=by
   have:=ym (g:=I1) (l:=st m) (o:=o+i) (y:=v) (j:=0) (v:=.i v) yB (adX (by rw[rK m hm];omega)) rfl (by decide);have e7:(st m).set (o+i) v=l.take o++im m (some (i,v))++l.drop (o+m):=by
    simp only[st,im];rw[ad5,List.set_append_right _ _ (by rw[ad2,u1];omega),List.set_append_left _ _ (by rw[ad2,u1,ae4];omega),<-ad5]
    congr 3
    rw[ad2,u1];omega
   rw[<-e7,<-this,afn,aeT]
  rw[e6] at qU;exact qU
end
section
variable {α σ:Type}
def tf{linked:α->Bool}:∀{l:List α} {i:Nat} {x:α},(∀j y,j<i->l[j]?=some y->linked y=true)->l[i]?=some x->linked x=false->bl linked l=(i+1,true)
 |[],i,x,_,hx,_=>by simp at hx
 |y::l,0,x,_,hx,hn=>by simp at hx;subst hx;unfold bl;rw[if_neg (by simp[hn])]
 |y::l,i+1,x,h,hx,hn=>by
  unfold bl;rw[if_pos (h 0 y (by omega) rfl),tf (l:=l) (i:=i) (λj z hj hz=>h (j+1) z (by omega) (by simpa using hz)) (by simpa using hx) hn]
def rh{linked:α->Bool}:∀{l:List α},(∀x∈l,linked x=true)->bl linked l=(l.length,false)
 |[],_=>rfl
 |y::l,h=>by unfold bl;rw[if_pos (h y (by simp)),rh λx hx=>h x (by simp[hx])];rfl
def te{linked:α->Bool}:∀(l:List α),(bl linked l).1<=l.length
 |[]=>ad4 _
 |y::l=>by unfold bl;split<;>simp;exact te l
def zg{linked:α->Bool}(x:α)(l:List α):0<(bl linked (x::l)).1:=by unfold bl;split<;>simp
def td{linked:α->Bool}:∀{l:List α},(bl linked l).2=false->(bl linked l).1=l.length
 |[],_=>rfl
 |y::l,h=>by
  unfold bl at h⊢;split at h
  ·rename_i hy;rw[if_pos hy];show _+1=_;rw[td h];rfl
  ·cases h
def oN{f:σ->α->Int×σ}:∀(l m:List α)(s s':σ)(i:Nat),fr f s l i=(none,s')->fr f s (l++m) i=fr f s' m (i+l.length)
 |[],m,s,s',i,h=>by cases h;rfl
 |x::l,m,s,s',i,h=>by
  unfold fr at h;split at h
  ·cases h
  ·rename_i h0;rw[afa];show fr f s (x::(l++m)) i=_;rw[fr,if_neg h0,oN l m _ _ _ h,aee,Nat.add_right_comm,Nat.add_assoc]
def jE(n:Nat)(e:Option (Nat×Int)):(im n e).length=n:=by cases e<;>simp[im]
end
section
variable {W:World} {L R:LH} {K:VK} {X:WK} {p:Nat} {b:ax} {hs:List C} {f:ax×List C->LH}
def Qk[i:Lc (bj p) L (b,hs) f]{a:aO}(lu:32<=b.ah.length)(h:T W L (K (.i 6))):T W L (jf (some ⟨p,0,none⟩) (ak a) K):=by
 have hL:f (b,hs)=L:=i.same;refine Ht (p:=p) λla lk ti tn vs bx R hg hc l9=>?_;have fin:=l9 [] b hs vs bx _ hg hc (by rw[hL];exact h);unfold jf;apply ws;intros;refine I7 (l:=la) ?_;apply ws;intros;refine jN (by show decide (((b.ah.length:Nat):Int)>=32)=true;simp;omega) ?_;exact T.dp fin
def Jv[i:Lc (bj p) L (b,hs) f]{b0:ax}{jG:List C}{n:Nat}(hg:Good b0)(hx:Ext (c7 b0) jG (c7 b) hs n)(hl:hs.length<1000000)(h:T W (f (b0,jG)) (K (.tuple ⟨[]⟩))):T W L (cY (some ⟨p,0,none⟩) (jG.length:Int) K):=λw hw=>by
 obtain⟨k,hk,e1⟩:=i.at_;have h1:=hw.focus hk;obtain⟨-,h2⟩:=h1.and;refine(show T W (cP p (c7 b,hs)::L.eraseIdx k) _ from ?_) w h2;unfold cY;apply ws;intros;refine V4 (p:=p) hl ?_;rw[hx.back];apply ws;intros;intro w2 Xu;refine h w2 ?_;rw[e1];exact St.nJ (A:=bj p (b,hs)) (St.and_intro hg Xu) hk
def IN{a:aO}(h:qM a=0):0<=a.flags/\a.flags<=7/\a.dp=0/\a.dq=0/\a.cp=0/\a.cq=0/\a.ae=0/\(1<=a.aG/\a.aG<=4294967295)/\1<=a.code/\a.code<=65535:=by
 unfold qM at h
 repeat' (first|(split at h;first|(exact absurd h (by decide))|skip)|skip)
 omega
def RJ(G:pE W){a:aO}(ha:vn a)[i:Lc (bj p) L (b,hs) f](hl:hs.length<900000)
 (h:∀cV,Ext (c7 b) hs (c7 (b.make a).2) cV 8->T W (f ((b.make a).2,cV)) (K (.i (b.make a).1))):T W L (iF (some ⟨p,0,none⟩) (ak a) K):=by
 have hL:f (b,hs)=L:=i.same;refine mn (p:=p) λhg=>?_;unfold iF
 repeat' first|apply ws;intros|apply wb|with_reducible refine OZ G ha ?_|fail
 have stay:∀r:Int,b.make a=(r,b)->T W L (K (.int .i64 r)):=λr e=>by
  rw[e] at h;have:=h hs (Ext.refl _ _ _);rw[hL] at this;exact this
 refine bw (λg1=>?_) (λg1=>?_)
 ·have g1:qM a≠0:=by simpa using g1
  have:=stay (qM a) (by unfold ax.make;rw[if_pos g1]);exact T.dp this
 have g1:qM a=0:=by simpa using g1
 have ck:=IN g1
 repeat' first|apply ws;intros|apply wb|with_reducible refine sq (p:=p) ?_|fail
 cases hf:b.find a.id with
 |some x=>
  simp only[aev,aew];obtain⟨gx,hxi⟩:=r9 hg hf
  repeat' first|apply ws;intros|apply wb|with_reducible refine O0 ⟨ck.1,by omega⟩ ⟨gx.flags.1,by have:=gx.flags.2;omega⟩ ?_|fail
  have:=stay (rD a x) (by unfold ax.make;rw[if_neg (by omega),hf]);exact T.dp this
 |none=>
  simp only[aeE,aeQ];apply ws;intros;rw[Lh ck.1 ck.2.1];by_cases lu:b.ah.length<32
  ·have hga:AG {({a with flags:=a.flags/2* 2}:aO) with ae:=b.ae+1}:=by
    have rK:=hg.ae;have many:=hg.many;refine⟨⟨ha.id,ha.dp,ha.dq,ha.cp,ha.cq,?_,?_,?_,?_⟩,⟨⟨by show 0<=a.aG;omega,by show a.aG<=_;omega⟩,⟨by show 0<=a.code;omega,by show a.code<=_;omega⟩,by show 0<=a.flags/2* 2;omega,by show a.flags/2* 2<=_;omega⟩,⟨by show 0<=a.flags/2* 2;omega,by show a.flags/2* 2<_;omega⟩,by show 0<=b.ae+1;omega,by show b.ae+1<_;omega⟩
    ·show rl a.aG;unfold rl;omega
    ·show rl a.code;unfold rl;omega
    ·show rl (a.flags/2* 2);unfold rl;omega
    ·show rl (b.ae+1);unfold rl;omega
   refine Qj (p:=p) (a:={a with flags:=a.flags/2* 2}) hf lu hga hl λcV hx=>?_;apply ws;intros;have e:b.make a=(0,b.more {a with flags:=a.flags/2* 2}):=by
    unfold ax.make ax.more;rw[if_neg (by omega),hf];dsimp only;rw[if_neg (by omega)]
   rw[e] at h;have:=h cV (hx.mono (by omega));exact T.dp this
  ·refine Qk (p:=p) (a:={a with flags:=a.flags/2* 2}) (by omega) ?_;apply ws;intros;have:=stay 35 (by unfold ax.make;rw[if_neg (by omega),hf];dsimp only;rw[if_pos (by omega)]);exact T.dp this
end
def Is(b:ax):Prop:=∃m,mg b m/\Md.Ground m
def Is.make{b:ax}(h:Is b)(a:aO):Is (b.make a).2:=by obtain⟨m,hs,hg⟩:=h;exact⟨_,(hs.make hg).2⟩
def Is.ov{b:ax}(h:Is b)(t:Move):Is (b.ov t).2:=by obtain⟨m,hs,hg⟩:=h;exact⟨_,(hs.ov hg).2⟩
def Dn(n:Int):(bC .i64 .and n 1!=0)=decide (n%2=1):=by
 rw[Li,aek];simp only[bne_iff_ne,ne_eq,decide_eq_true_eq];omega
def rR(t:Move):(aj t).length=16:=rfl
def wU(a:aO):Bool:=decide (a.flags%2=1)
def wT(t:Move):Bool:=decide (t.flags%2=1)
section
variable {α σ:Type}
def xN{f:σ->α->Int×σ}{lk:α->Bool}{n:Nat}{s:σ}{l:List α}(hl:l≠[]):
 eQ f lk (n+1) s l=if(bl lk l).2=false then(im (bl lk l).1 (some ((bl lk l).1-1,2)),s)
  else match fr f s (l.take (bl lk l).1) 0 with
  |(none,s')=>(im (bl lk l).1 none++(eQ f lk n s' (l.drop (bl lk l).1)).1,(eQ f lk n s' (l.drop (bl lk l).1)).2)
  |(some e,_)=>(im (bl lk l).1 (some e)++(eQ f lk n s (l.drop (bl lk l).1)).1,(eQ f lk n s (l.drop (bl lk l).1)).2):=by
 cases l with
 |nil=>exact absurd rfl hl
 |cons x l=>
  rw[eQ]
  congr 1
def rN{f:σ->α->Int×σ}{lk:α->Bool}(n:Nat)(s:σ):eQ f lk n s []=([],s):=by cases n<;>rfl
end
section
variable {W:World} {L R:LH} {K:VK} {X:WK} {p:Nat} {b:ax} {hs:List C}
def Ru{s:OA}{c nn:Nat}{l:List aO}[hh:Has R L](hr:oe W R ak 14 s l)(Hy:nn=l.length)(hl:l.length<1000000)
 (h:T W L (K (.tuple ⟨[.i ((bl wU l).1:Int),.bool (bl wU l).2]⟩))):T W L (iU s nn c (.func (.func N.dN) ⟨[]⟩ ⟨[]⟩) K):=by
 subst Hy;unfold iU;intro w hs;refine⟨λvs w=>∃i:Nat,i<=l.length/\(∀j y,j<i->l[j]?=some y->wU y=true)/\vs=[.i 0,.bool false,.l s l.length c,.i (l.length:Int),.i (i:Int)]/\St W w L,
  λvs _=>match vs with|[_,_,_,_,.int _ d]=>l.length-d.toNat|_=>0,⟨0,ad6 _,λj y hj=>by omega,rfl,hs⟩,?_⟩
 rintro n1 b1 uG pY uF n2 n3 w2 ⟨i,hi,fJ,e,fo⟩;cases e
 refine T.at ?_ fo;have e5:=mh i;refine dX (λg1=>?_) (λg1=>?_)
 ·have aZ:i<l.length:=by omega
  have gx:=adX aZ;generalize l[i]=x at gx;refine kf hr ⟨by omega,by omega⟩ rfl λa ha=>?_;rw[adY];refine ke hr ha gx (ff x) ?_;apply ws;intros;show T W _ (dN (ak x) _);unfold dN;apply ws;intros;rw[Dn];rw[e5];refine bw (λg2=>?_) (λg2=>?_)
  ·have g2:wU x=false:=by simpa [wU] using g2
   rw[tf fJ gx g2] at h;exact T.dp h
  ·have g2:wU x=true:=by simpa [wU] using g2
   refine T.drop (T.drop ?_);refine λw3 h3=>⟨⟨i+1,aZ,λj y hj hy=>?_,rfl,h3⟩,by show l.length-((i+1:Nat):Int).toNat<l.length-(i:Int).toNat;omega⟩;by_cases GF:j=i
   ·subst GF;rw[gx] at hy;cases hy;exact g2
   ·exact fJ j y (by omega) hy
 ·have gF:i=l.length:=by omega
  subst gF;rw[rh λx hx=>by obtain⟨j,hj⟩:=aff hx;exact fJ j x (adZ.1 hj).1 hj] at h;exact h
def T'(G:pE W){s:OA}{c c2 nn:Nat}{l:List aO}{r q o:Nat}{res:List Int}(hr:oe W R ak 14 s l)(Hy:nn=l.length)(eO:∀x∈l,vn x)(hP:Is b)(hl:hs.length+8* l.length<800000)
 (ho:o+l.length<=res.length)(Gx:0<l.length)
 (h0:∀cV b',fr ax.make b l 0=(none,b')->Is b'->cV.length<=hs.length+8* l.length->T W (bj p (b',cV)::own (some ⟨r,0,none⟩) q q 1 (res.flatMap I1)::R) (K (.tuple ⟨[]⟩)))
 (h1:∀e b',fr ax.make b l 0=(some e,b')->e.1<l.length->T W (bj p (b,hs)::own (some ⟨r,0,none⟩) q q 1 ((res.take o++im l.length (some e)++res.drop (o+l.length)).flatMap I1)::R) (K (.tuple ⟨[]⟩))):
 T W (bj p (b,hs)::own (some ⟨r,0,none⟩) q q 1 (res.flatMap I1)::R) (ju (some ⟨p,0,none⟩) s nn c (some ⟨r,o,none⟩) nn c2 (.func (.func N.iF) ⟨[]⟩ ⟨[]⟩) K):=by
 subst Hy;unfold ju;refine mn (p:=p) λhg=>?_;refine Jt (p:=p) ?_;apply ws;intros;intro w jG;refine⟨λvs w=>∃(i:Nat)(b':ax)(cV:List C),i<=l.length/\fr ax.make b (l.take i) 0=(none,b')/\Is b'/\Ext (c7 b) hs (c7 b') cV (8* i)/\vs=[.i (hs.length:Int),.l s l.length c,.i (l.length:Int),.i (i:Int)]/\
  St W w (bj p (b',cV)::own (some ⟨r,0,none⟩) q q 1 (res.flatMap I1)::R),
  λvs _=>match vs with|[_,_,_,.int _ d]=>l.length-d.toNat|_=>0,⟨0,b,hs,ad6 _,rfl,hP,Ext.refl _ _ _,rfl,jG⟩,?_⟩
 rintro n2 rJ pL rr n3 n4 w2 ⟨i,b',cV,hi,Ff,HF,hx,e,fo⟩;cases e
 refine T.at ?_ fo;have e5:=mh i;have hxl:=hx.len;refine dX (λg1=>?_) (λg1=>?_)
 ·have aZ:i<l.length:=by omega
  have gx:=adX aZ;have mu:l[i]∈l:=aej aZ;have qw:l=l.take i++l[i]::l.drop (i+1):=by rw[<-aeD aZ,aer]
  have tt:l.take (i+1)=l.take i++[l[i]]:=by rw[aeg,gx];rfl
  generalize l[i]=x at gx mu qw tt;have Ez:=eO x mu;refine kf hr ⟨by omega,by omega⟩ rfl λa ha=>?_;rw[adY];refine ke hr ha gx (ff x) ?_;apply ws;intros;show T W _ (iF (some ⟨p,0,none⟩) (ak x) _);refine RJ (p:=p) G Ez (by omega) λUv Um=>?_;have UW:fr ax.make b l 0=fr ax.make b' (x::l.drop (i+1)) (0+(l.take i).length):=by
   conv=>lhs;rw[qw]
   exact oN _ _ _ _ _ Ff
  have Xy:(l.take i).length=i:=by rw[ad2];omega
  apply ws;intros;refine bw (λg2=>?_) (λg2=>?_)
  ·have g2:(b'.make x).1≠0:=by simpa using g2
   refine T.drop ?_;have hx3:=Um.len;refine Jv (p:=p) hg (hx.trans Um) (by omega) ?_;apply ws;intros;refine EK (r:=r) (N:=q) (C:=q) ho aZ (by omega) ?_;apply ws;intros;refine h1 (i,(b'.make x).1) b' ?_ aZ;rw[UW,Xy,fr,if_pos g2,ad1]
  ·have g2:(b'.make x).1=0:=by simpa using g2
   rw[e5];refine T.drop ?_;refine λw3 h3=>⟨⟨i+1,_,Uv,aZ,?_,HF.make x,(hx.trans Um).mono (by omega),rfl,h3⟩,by show l.length-((i+1:Nat):Int).toNat<l.length-(i:Int).toNat;omega⟩;rw[tt,oN _ _ _ _ _ Ff,fr,if_neg (by omega)]
   rfl
 ·have gF:i=l.length:=by omega
  subst gF;rw[ad'] at Ff;exact h0 cV b' Ff HF (by omega)
def T2(G:pE W){s:OA}{c:Nat}{l:List aO}(hr:oe W R ak 14 s l)(hc:l.length<=c)(eO:∀x∈l,vn x)(hP:Is b)(Dt:l.length<=10000)(hl:hs.length+8* l.length<800000)
 (h:∀r cV,cV.length<=hs.length+8* l.length->Is (eQ ax.make wU l.length b l).2->(eQ ax.make wU l.length b l).1.length=l.length->
  T W (bj p ((eQ ax.make wU l.length b l).2,cV)::own (some ⟨r,0,none⟩) l.length l.length 1 ((eQ ax.make wU l.length b l).1.flatMap I1)::R) (K (.l (some ⟨r,0,none⟩) l.length l.length))):
 T W (bj p (b,hs)::R) (nY (some ⟨p,0,none⟩) s l.length c K):=by
 unfold nY lX;refine D0 ⟨by omega,by omega,by omega,by omega⟩ λr=>?_;rw[adY,show(Builtin.zeroCells ⟨[Value.int adU 0]⟩ l.length).toList=(aec l.length (0:Int)).flatMap I1 from nG (g:=I1) (z:=0) rfl _];show T W (own (some ⟨r,0,none⟩) l.length l.length 1 _::bj p (b,hs)::R) _;refine T.perm (M:=own (some ⟨r,0,none⟩) l.length l.length 1 _::bj p (b,hs)::R) (L:=bj p (b,hs)::own (some ⟨r,0,none⟩) l.length l.length 1 _::R) ?_ (aem.swap _ _ _);intro w jG;refine⟨λvs w=>∃(at_ fuel:Nat)(b':ax)(cV:List C)(done:List Int),at_<=l.length/\done.length=at_/\l.length<=fuel+at_/\
                                                                        eQ ax.make wU l.length b l=(done++(eQ ax.make wU fuel b' (l.drop at_)).1,(eQ ax.make wU fuel b' (l.drop at_)).2)/\Is b'/\cV.length<=hs.length+8* at_/\
                                                                        vs=[.l none 0 0,.l (some ⟨r,0,none⟩) l.length l.length,.i (at_:Int)]/\
                                                                        St W w (bj p (b',cV)::own (some ⟨r,0,none⟩) l.length l.length 1 ((done++aec (l.length-at_) 0).flatMap I1)::R),
  λvs _=>match vs with|[_,_,.int _ d]=>l.length-d.toNat|_=>0,⟨0,l.length,b,hs,[],ad6 _,rfl,by omega,by simp,hP,by omega,rfl,jG⟩,?_⟩
 rintro rJ pL rr zt yJ yK n1 w2 ⟨at_,fuel,b',cV,done,yj,xg,Mu,lH,HF,SN,e,fo⟩;cases e
 refine T.at ?_ fo;refine dX (λg1=>?_) (λg1=>?_)
 ·have aZ:at_<l.length:=by omega
  have gU:l.drop at_≠[]:=λhh=>by have:=congrArg List.length hh;rw[ad9] at this;simp at this;omega
  have rY:(l.drop at_).length=l.length-at_:=ad9;refine tO (by omega) ?_;have SP:=hr.drop (i:=at_) (c:=c) (by omega) hc;refine Ru SP rY.symm (by omega) ?_;apply ws;intros;obtain⟨n,hn⟩:∃n,(bl wU (l.drop at_)).1=n:=⟨_,rfl⟩;have aaC:n<=l.length-at_:=by rw[<-hn,<-rY];exact te _
  have XM:0<n:=by
   rw[<-hn];cases hd:l.drop at_ with
   |nil=>exact absurd hd gU
   |cons x l'=>exact zg x l'
  rw[hn];have e6:adU.wrap ((at_:Int)+(n:Int))=((at_+n:Nat):Int):=by rw[ar (by omega)];omega
  rw[e6];refine zM (by omega) (by omega) ?_;have ea:tR (some ⟨r,0,none⟩) l.length at_ 1=some ⟨r,at_,none⟩:=by unfold tR;rw[if_neg (by omega)];show some (Addr.add ⟨r,0,none⟩ (at_* 1))=_;rw[dZ,ad1,afn]
  rw[ea,Nat.add_sub_cancel_left];obtain⟨fuel,rfl⟩:∃m,fuel=m+1:=⟨fuel-1,by omega⟩;have dJ:=xN (f:=ax.make) (lk:=wU) (n:=fuel) (s:=b') gU;have Ww:(l.drop at_).drop n=l.drop (at_+n):=ae8;have Ct:(done++aec (l.length-at_) (0:Int)).length=l.length:=by rw[ad0,ae4];omega
  have Bs:(done++aec (l.length-at_) (0:Int)).drop (at_+n)=aec (l.length-(at_+n)) 0:=by
   rw[List.drop_append,aeF (by omega),aeA,List.drop_replicate];congr 1;omega
  have oJ:(done++aec (l.length-at_) (0:Int)).take at_=done:=by rw[<-xg,List.take_left]
  refine bw (λg2=>?_) (λg2=>?_)
  ·have g2:(bl wU (l.drop at_)).2=false:=by simpa using g2
   have Hy:n=l.length-at_:=by rw[<-hn,td g2,rY]
   have e7:adU.wrap ((n:Int) -1)=((n-1:Nat):Int):=by rw[ar (by omega)];omega
   rw[e7];refine EK (r:=r) (N:=l.length) (C:=l.length) (o:=at_) (n:=n) (by rw[Ct];omega) (by omega) (by omega) ?_;apply ws;intros;rw[oJ,Bs];refine λw3 h3=>⟨⟨at_+n,fuel,b',cV,done++im n (some (n-1,2)),by omega,by rw[ad0,jE];omega,by omega,?_,HF,by omega,rfl,h3⟩,by show l.length-((at_+n:Nat):Int).toNat<l.length-(at_:Int).toNat;omega⟩;rw[if_pos g2,hn] at dJ;rw[lH,dJ,show l.drop (at_+n)=[] from aeF (by omega),rN];simp
  ·have g2:(bl wU (l.drop at_)).2=true:=by simpa using g2
   rw[if_neg (by rw[g2];decide),hn,Ww] at dJ;refine zM (by omega) (by omega) ?_;rw[Nat.add_sub_cancel_left];have zx:((l.drop at_).take n).length=n:=by rw[ad2];omega
   have hr3:=SP.take (i:=n);refine T' (p:=p) G (l:=(l.drop at_).take n) (o:=at_) hr3 zx.symm (λx hx=>eO x (List.mem_of_mem_drop (List.mem_of_mem_take hx))) HF (by omega) (by rw[Ct];omega) (by omega) (λqU b3 hd hP3 PE=>?_) (λe b3 hd he=>?_)
   ·apply ws;intros;rw[zx] at PE;rw[hd] at dJ;refine λw3 h3=>⟨⟨at_+n,fuel,b3,qU,done++im n none,by omega,by rw[ad0,jE];omega,by omega,?_,hP3,by omega,rfl,?_⟩,by show l.length-((at_+n:Nat):Int).toNat<l.length-(at_:Int).toNat;omega⟩
    ·rw[lH,dJ];simp
    ·have e8:done++aec (l.length-at_) (0:Int)=done++im n none++aec (l.length-(at_+n)) 0:=by
      rw[ad5];congr 1;show _=aec n 0++_;rw[List.replicate_append_replicate];congr 1;omega
     rw[<-e8];exact h3
   ·apply ws;intros;rw[zx];rw[hd] at dJ;rw[oJ,Bs];refine λw3 h3=>⟨⟨at_+n,fuel,b',cV,done++im n (some e),by omega,by rw[ad0,jE];omega,by omega,?_,HF,by omega,rfl,h3⟩,by show l.length-((at_+n:Nat):Int).toNat<l.length-(at_:Int).toNat;omega⟩;rw[lH,dJ];simp
 ·have gF:at_=l.length:=by omega
  subst gF;rw[List.drop_length,rN] at lH;simp only[aei] at lH;rw[lH] at h;have:=h r cV (by omega) HF xg;rw[afj,List.replicate_zero,aei];apply ws;intros;exact this
end
def ZA(t:Move):Prop:=u3 t/\j0 t
section
variable {W:World} {L R:LH} {K:VK} {X:WK} {p:Nat} {b:ax} {hs:List C}
def Rt{s:OA}{c nn:Nat}{l:List Move}[hh:Has R L](hr:oe W R aj 16 s l)(Hy:nn=l.length)(hl:l.length<1000000)
 (h:T W L (K (.tuple ⟨[.i ((bl wT l).1:Int),.bool (bl wT l).2]⟩))):T W L (ir s nn c (.func (.func N.dz) ⟨[]⟩ ⟨[]⟩) K):=by
 subst Hy;unfold ir;intro w hs;refine⟨λvs w=>∃i:Nat,i<=l.length/\(∀j y,j<i->l[j]?=some y->wT y=true)/\vs=[.i 0,.bool false,.l s l.length c,.i (l.length:Int),.i (i:Int)]/\St W w L,
  λvs _=>match vs with|[_,_,_,_,.int _ d]=>l.length-d.toNat|_=>0,⟨0,ad6 _,λj y hj=>by omega,rfl,hs⟩,?_⟩
 rintro n1 b1 uG pY uF n2 n3 w2 ⟨i,hi,fJ,e,fo⟩;cases e
 refine T.at ?_ fo;have e5:=mh i;refine dX (λg1=>?_) (λg1=>?_)
 ·have aZ:i<l.length:=by omega
  have gx:=adX aZ;generalize l[i]=x at gx;refine kf hr ⟨by omega,by omega⟩ rfl λa ha=>?_;rw[adY];refine ke hr ha gx (rR x) ?_;apply ws;intros;show T W _ (dz (aj x) _);unfold dz;apply ws;intros;rw[Dn];rw[e5];refine bw (λg2=>?_) (λg2=>?_)
  ·have g2:wT x=false:=by simpa [wT] using g2
   rw[tf fJ gx g2] at h;exact T.dp h
  ·have g2:wT x=true:=by simpa [wT] using g2
   refine T.drop (T.drop ?_);refine λw3 h3=>⟨⟨i+1,aZ,λj y hj hy=>?_,rfl,h3⟩,by show l.length-((i+1:Nat):Int).toNat<l.length-(i:Int).toNat;omega⟩;by_cases GF:j=i
   ·subst GF;rw[gx] at hy;cases hy;exact g2
   ·exact fJ j y (by omega) hy
 ·have gF:i=l.length:=by omega
  subst gF;rw[rh λx hx=>by obtain⟨j,hj⟩:=aff hx;exact fJ j x (adZ.1 hj).1 hj] at h;exact h
def T9(G:pE W){s:OA}{c c2 nn:Nat}{l:List Move}{r q o:Nat}{res:List Int}(hr:oe W R aj 16 s l)(Hy:nn=l.length)(eO:∀x∈l,ZA x)(hP:Is b)(hl:hs.length+8* l.length<800000)
 (ho:o+l.length<=res.length)(Gx:0<l.length)
 (h0:∀cV b',fr ax.ov b l 0=(none,b')->Is b'->cV.length<=hs.length+8* l.length->T W (bj p (b',cV)::own (some ⟨r,0,none⟩) q q 1 (res.flatMap I1)::R) (K (.tuple ⟨[]⟩)))
 (h1:∀e b',fr ax.ov b l 0=(some e,b')->e.1<l.length->T W (bj p (b,hs)::own (some ⟨r,0,none⟩) q q 1 ((res.take o++im l.length (some e)++res.drop (o+l.length)).flatMap I1)::R) (K (.tuple ⟨[]⟩))):
 T W (bj p (b,hs)::own (some ⟨r,0,none⟩) q q 1 (res.flatMap I1)::R) (iT (some ⟨p,0,none⟩) s nn c (some ⟨r,o,none⟩) nn c2 (.func (.func N.kr) ⟨[]⟩ ⟨[]⟩) K):=by
 subst Hy;unfold iT;refine mn (p:=p) λhg=>?_;refine Jt (p:=p) ?_;apply ws;intros;intro w jG;refine⟨λvs w=>∃(i:Nat)(b':ax)(cV:List C),i<=l.length/\fr ax.ov b (l.take i) 0=(none,b')/\Is b'/\Ext (c7 b) hs (c7 b') cV (8* i)/\vs=[.i (hs.length:Int),.l s l.length c,.i (l.length:Int),.i (i:Int)]/\
  St W w (bj p (b',cV)::own (some ⟨r,0,none⟩) q q 1 (res.flatMap I1)::R),
  λvs _=>match vs with|[_,_,_,.int _ d]=>l.length-d.toNat|_=>0,⟨0,b,hs,ad6 _,rfl,hP,Ext.refl _ _ _,rfl,jG⟩,?_⟩
 rintro n2 rJ pL rr n3 n4 w2 ⟨i,b',cV,hi,Ff,HF,hx,e,fo⟩;cases e
 refine T.at ?_ fo;have e5:=mh i;have hxl:=hx.len;refine dX (λg1=>?_) (λg1=>?_)
 ·have aZ:i<l.length:=by omega
  have gx:=adX aZ;have mu:l[i]∈l:=aej aZ;have qw:l=l.take i++l[i]::l.drop (i+1):=by rw[<-aeD aZ,aer]
  have tt:l.take (i+1)=l.take i++[l[i]]:=by rw[aeg,gx];rfl
  generalize l[i]=x at gx mu qw tt;have Ez:=eO x mu;refine kf hr ⟨by omega,by omega⟩ rfl λa ha=>?_;rw[adY];refine ke hr ha gx (rR x) ?_;apply ws;intros;show T W _ (kr (some ⟨p,0,none⟩) (aj x) _);refine Yr (p:=p) G Ez.1 Ez.2 (by obtain⟨m,h3,h4⟩:=HF;exact R7 h3 h4) (by omega) λUv Um=>?_;have UW:fr ax.ov b l 0=fr ax.ov b' (x::l.drop (i+1)) (0+(l.take i).length):=by
   conv=>lhs;rw[qw]
   exact oN _ _ _ _ _ Ff
  have Xy:(l.take i).length=i:=by rw[ad2];omega
  apply ws;intros;refine bw (λg2=>?_) (λg2=>?_)
  ·have g2:(b'.ov x).1≠0:=by simpa using g2
   refine T.drop ?_;have hx3:=Um.len;refine Jv (p:=p) hg (hx.trans Um) (by omega) ?_;apply ws;intros;refine EK (r:=r) (N:=q) (C:=q) ho aZ (by omega) ?_;apply ws;intros;refine h1 (i,(b'.ov x).1) b' ?_ aZ;rw[UW,Xy,fr,if_pos g2,ad1]
  ·have g2:(b'.ov x).1=0:=by simpa using g2
   rw[e5];refine T.drop ?_;refine λw3 h3=>⟨⟨i+1,_,Uv,aZ,?_,HF.ov x,(hx.trans Um).mono (by omega),rfl,h3⟩,by show l.length-((i+1:Nat):Int).toNat<l.length-(i:Int).toNat;omega⟩;rw[tt,oN _ _ _ _ _ Ff,fr,if_neg (by omega)]
   rfl
 ·have gF:i=l.length:=by omega
  subst gF;rw[ad'] at Ff;exact h0 cV b' Ff HF (by omega)
def T1(G:pE W){s:OA}{c:Nat}{l:List Move}(hr:oe W R aj 16 s l)(hc:l.length<=c)(eO:∀x∈l,ZA x)(hP:Is b)(Dt:l.length<=10000)(hl:hs.length+8* l.length<800000)
 (h:∀r cV,cV.length<=hs.length+8* l.length->Is (eQ ax.ov wT l.length b l).2->(eQ ax.ov wT l.length b l).1.length=l.length->
  T W (bj p ((eQ ax.ov wT l.length b l).2,cV)::own (some ⟨r,0,none⟩) l.length l.length 1 ((eQ ax.ov wT l.length b l).1.flatMap I1)::R) (K (.l (some ⟨r,0,none⟩) l.length l.length))):
 T W (bj p (b,hs)::R) (m9 (some ⟨p,0,none⟩) s l.length c K):=by
 unfold m9 lj;refine D0 ⟨by omega,by omega,by omega,by omega⟩ λr=>?_;rw[adY,show(Builtin.zeroCells ⟨[Value.int adU 0]⟩ l.length).toList=(aec l.length (0:Int)).flatMap I1 from nG (g:=I1) (z:=0) rfl _];show T W (own (some ⟨r,0,none⟩) l.length l.length 1 _::bj p (b,hs)::R) _;refine T.perm (M:=own (some ⟨r,0,none⟩) l.length l.length 1 _::bj p (b,hs)::R) (L:=bj p (b,hs)::own (some ⟨r,0,none⟩) l.length l.length 1 _::R) ?_ (aem.swap _ _ _);intro w jG;refine⟨λvs w=>∃(at_ fuel:Nat)(b':ax)(cV:List C)(done:List Int),at_<=l.length/\done.length=at_/\l.length<=fuel+at_/\
                                                                        eQ ax.ov wT l.length b l=(done++(eQ ax.ov wT fuel b' (l.drop at_)).1,(eQ ax.ov wT fuel b' (l.drop at_)).2)/\Is b'/\cV.length<=hs.length+8* at_/\
                                                                        vs=[.l none 0 0,.l (some ⟨r,0,none⟩) l.length l.length,.i (at_:Int)]/\
                                                                        St W w (bj p (b',cV)::own (some ⟨r,0,none⟩) l.length l.length 1 ((done++aec (l.length-at_) 0).flatMap I1)::R),
  λvs _=>match vs with|[_,_,.int _ d]=>l.length-d.toNat|_=>0,⟨0,l.length,b,hs,[],ad6 _,rfl,by omega,by simp,hP,by omega,rfl,jG⟩,?_⟩
 rintro rJ pL rr zt yJ yK n1 w2 ⟨at_,fuel,b',cV,done,yj,xg,Mu,lH,HF,SN,e,fo⟩;cases e
 refine T.at ?_ fo;refine dX (λg1=>?_) (λg1=>?_)
 ·have aZ:at_<l.length:=by omega
  have gU:l.drop at_≠[]:=λhh=>by have:=congrArg List.length hh;rw[ad9] at this;simp at this;omega
  have rY:(l.drop at_).length=l.length-at_:=ad9;refine tO (by omega) ?_;have SP:=hr.drop (i:=at_) (c:=c) (by omega) hc;refine Rt SP rY.symm (by omega) ?_;apply ws;intros;obtain⟨n,hn⟩:∃n,(bl wT (l.drop at_)).1=n:=⟨_,rfl⟩;have aaC:n<=l.length-at_:=by rw[<-hn,<-rY];exact te _
  have XM:0<n:=by
   rw[<-hn];cases hd:l.drop at_ with
   |nil=>exact absurd hd gU
   |cons x l'=>exact zg x l'
  rw[hn];have e6:adU.wrap ((at_:Int)+(n:Int))=((at_+n:Nat):Int):=by rw[ar (by omega)];omega
  rw[e6];refine zM (by omega) (by omega) ?_;have ea:tR (some ⟨r,0,none⟩) l.length at_ 1=some ⟨r,at_,none⟩:=by unfold tR;rw[if_neg (by omega)];show some (Addr.add ⟨r,0,none⟩ (at_* 1))=_;rw[dZ,ad1,afn]
  rw[ea,Nat.add_sub_cancel_left];obtain⟨fuel,rfl⟩:∃m,fuel=m+1:=⟨fuel-1,by omega⟩;have dJ:=xN (f:=ax.ov) (lk:=wT) (n:=fuel) (s:=b') gU;have Ww:(l.drop at_).drop n=l.drop (at_+n):=ae8;have Ct:(done++aec (l.length-at_) (0:Int)).length=l.length:=by rw[ad0,ae4];omega
  have Bs:(done++aec (l.length-at_) (0:Int)).drop (at_+n)=aec (l.length-(at_+n)) 0:=by
   rw[List.drop_append,aeF (by omega),aeA,List.drop_replicate];congr 1;omega
  have oJ:(done++aec (l.length-at_) (0:Int)).take at_=done:=by rw[<-xg,List.take_left]
  refine bw (λg2=>?_) (λg2=>?_)
  ·have g2:(bl wT (l.drop at_)).2=false:=by simpa using g2
   have Hy:n=l.length-at_:=by rw[<-hn,td g2,rY]
   have e7:adU.wrap ((n:Int) -1)=((n-1:Nat):Int):=by rw[ar (by omega)];omega
   rw[e7];refine EK (r:=r) (N:=l.length) (C:=l.length) (o:=at_) (n:=n) (by rw[Ct];omega) (by omega) (by omega) ?_;apply ws;intros;rw[oJ,Bs];refine λw3 h3=>⟨⟨at_+n,fuel,b',cV,done++im n (some (n-1,2)),by omega,by rw[ad0,jE];omega,by omega,?_,HF,by omega,rfl,h3⟩,by show l.length-((at_+n:Nat):Int).toNat<l.length-(at_:Int).toNat;omega⟩;rw[if_pos g2,hn] at dJ;rw[lH,dJ,show l.drop (at_+n)=[] from aeF (by omega),rN];simp
  ·have g2:(bl wT (l.drop at_)).2=true:=by simpa using g2
   rw[if_neg (by rw[g2];decide),hn,Ww] at dJ;refine zM (by omega) (by omega) ?_;rw[Nat.add_sub_cancel_left];have zx:((l.drop at_).take n).length=n:=by rw[ad2];omega
   have hr3:=SP.take (i:=n);refine T9 (p:=p) G (l:=(l.drop at_).take n) (o:=at_) hr3 zx.symm (λx hx=>eO x (List.mem_of_mem_drop (List.mem_of_mem_take hx))) HF (by omega) (by rw[Ct];omega) (by omega) (λqU b3 hd hP3 PE=>?_) (λe b3 hd he=>?_)
   ·apply ws;intros;rw[zx] at PE;rw[hd] at dJ;refine λw3 h3=>⟨⟨at_+n,fuel,b3,qU,done++im n none,by omega,by rw[ad0,jE];omega,by omega,?_,hP3,by omega,rfl,?_⟩,by show l.length-((at_+n:Nat):Int).toNat<l.length-(at_:Int).toNat;omega⟩
    ·rw[lH,dJ];simp
    ·have e8:done++aec (l.length-at_) (0:Int)=done++im n none++aec (l.length-(at_+n)) 0:=by
      rw[ad5];congr 1;show _=aec n 0++_;rw[List.replicate_append_replicate];congr 1;omega
     rw[<-e8];exact h3
   ·apply ws;intros;rw[zx];rw[hd] at dJ;rw[oJ,Bs];refine λw3 h3=>⟨⟨at_+n,fuel,b',cV,done++im n (some e),by omega,by rw[ad0,jE];omega,by omega,?_,HF,by omega,rfl,h3⟩,by show l.length-((at_+n:Nat):Int).toNat<l.length-(at_:Int).toNat;omega⟩;rw[lH,dJ];simp
 ·have gF:at_=l.length:=by omega
  subst gF;rw[List.drop_length,rN] at lH;simp only[aei] at lH;rw[lH] at h;have:=h r cV (by omega) HF xg;rw[afj,List.replicate_zero,aei];apply ws;intros;exact this
end
end Go.Up
namespace Go.Prog
open Go.Den Go.Up Go.Md
def qd(p:OA)(now:Int)(K:VK):WK:=λw=>∃(W:World)(L:List Sep.HP)(a:Nat)(b:Up.ax)(m:Model)(hs:List C),
 p=some ⟨a,0,none⟩/\Sep.St W w (bj a (b,hs)::L)/\mg b m/\Md.Ground m/\hs.length<=100000/\
 ∀(n:Int)(b':Up.ax)(cV:List C)(w':World),mg b' (m.time now)->Md.Ground (m.time now)->cV.length<=200000->Sep.St W w' (bj a (b',cV)::L)->K (.i n) w'
def qd.u:WP:=λargs K=>match args with|[.pointer p,.int .i64 n]=>qd p n K|_=>no
end Go.Prog
namespace Go.Prog
open Go.Den
def eH(b:LV)(K:VK):WK:=mk b λa=>lI (ad a 0) λc=>br (decide (c>=1)) (lI (ad a 0) λd=>K (.bool (decide (d<=3)))) (K (.bool false))
def bY.j1(K:VK)(a:Bool):WK:=K (.bool a)
def bY.j2(K:VK)(a:Bool):WK:=K (.bool a)
def bY(b:LV)(K:VK):WK:=mk b λa=>lI (ad a 0) λc=>br (c==1) (lL (ad a 1) λl d m=>br (decide ((d:Int)>0)) (lL (ad a 1) λn e o=>bY.j1 K (decide ((e:Int)<9))) (bY.j1 K false)) (lI (ad a 0) λf=>br (f==2) (lL (ad a 2) λp g q=>br (decide ((g:Int)>0)) (lL (ad a 2) λr h s=>bY.j2 K (decide ((h:Int)<9))) (bY.j2 K false)) (lI (ad a 0) λi=>br (i==3) (lI (ad a 3) λj=>br (decide (j>=0)) (lI (ad a 3) λk=>K (.bool (decide (k<=1099511627776)))) (K (.bool false))) (K (.bool false))))
def az.j2(K:VK)(a:Bool):WK:=K (.bool a)
def az.j6(K:VK)(a:Nat)(b:Bool):WK:=br b (lT (ad a 4) λc=>br c (K (.bool true)) (lT (ad a 5) λd=>K (.bool d))) (K (.bool false))
def az.j5(K:VK)(a:Nat)(b:Bool):WK:=br b (lI (ad a 7) λc=>az.j6 K a (decide (c<17))) (az.j6 K a false)
def az.j4(K:VK)(a:Nat)(b:Bool):WK:=br b (lI (ad a 7) λc=>az.j5 K a (decide (c>0))) (az.j5 K a false)
def az.j3(K:VK)(a:Nat)(b:Bool):WK:=br b (lI (ad a 3) λc=>az.j4 K a (decide (c>=0))) (az.j4 K a false)
def az.j1(K:VK)(a:Nat)(c:Bool):WK:=br c (lL (ad a 4) λi d j=>br (decide ((d:Int)>0)) (lL (ad a 4) λk e l=>az.j2 K (decide ((e:Int)<17))) (az.j2 K false)) (ai (ad a 5) 8 λf=>mk Fi λb=>aH 8 (ad b 0) f (lI (ad a 0) λg=>br (g==6) (lI (ad b 2) λh=>az.j3 K b (decide (h>=0))) (az.j3 K b false)))
def az(b:LV)(K:VK):WK:=mk b λa=>lI (ad a 0) λc=>br (c==4) (az.j1 K a true) (lI (ad a 0) λd=>az.j1 K a (d==5))
def bD.j3(K:VK)(a:Nat)(b:Bool):WK:=br b (lI (ad a 12) λc=>br (decide (c>=0)) (lI (ad a 12) λd=>K (.bool (decide (d<65536)))) (K (.bool false))) (K (.bool false))
def bD.j2(K:VK)(a:Nat)(b:Bool):WK:=br b (lI (ad a 11) λc=>bD.j3 K a (decide (c<65536))) (bD.j3 K a false)
def bD.j1(K:VK)(a:Nat)(b:Bool):WK:=br b (lI (ad a 11) λc=>bD.j2 K a (decide (c>=0))) (bD.j2 K a false)
def bD(b:LV)(K:VK):WK:=mk b λa=>lI (ad a 10) λc=>br (decide (c>=0)) (lI (ad a 10) λd=>bD.j1 K a (decide (d<4294967296))) (bD.j1 K a false)
def aQ.j5(K:VK)(a:Nat)(b:Bool):WK:=br b (lI (ad a 13) λc=>br (decide (c>=0)) (lI (ad a 13) λd=>K (.bool (decide (d<65536)))) (K (.bool false))) (K (.bool false))
def aQ.j4(K:VK)(a:Nat)(b:Bool):WK:=br b (lI (ad a 12) λc=>aQ.j5 K a (decide (c<65536))) (aQ.j5 K a false)
def aQ.j3(K:VK)(a:Nat)(b:Bool):WK:=br b (lI (ad a 12) λc=>aQ.j4 K a (decide (c>=0))) (aQ.j4 K a false)
def aQ.j2(K:VK)(a:Nat)(b:Bool):WK:=br b (lI (ad a 11) λc=>aQ.j3 K a (decide (c<4294967296))) (aQ.j3 K a false)
def aQ.j1(K:VK)(a:Nat)(b:Bool):WK:=br b (lI (ad a 11) λc=>aQ.j2 K a (decide (c>=0))) (aQ.j2 K a false)
def aQ(b:LV)(K:VK):WK:=mk b λa=>lI (ad a 10) λc=>br (decide (c>=0)) (lI (ad a 10) λd=>aQ.j1 K a (decide (d<4294967296))) (aQ.j1 K a false)
def de.j1(K:VK)(v:Nat)(C:Bool):WK:=br C (K (.bool false)) (lL (ad v 1) λD w E=>(lp [.p (some (ad v 0)),.bool false,.l D w E,.i (w:Int),.i 0] λt x=>∀a d e f n g b r,t [.p (some a),.bool d,.l e f n,.i g,.i b] r->(br (decide (b<g)) (fP e f b 14 λF=>ai F 14 λG=>mk cK λy=>aH 14 (ad y 0) G (lI a λH=>br (H==1) (ai (ad y 0) 14 λI=>bD I (xB λJ=>br (!J) (K (.bool false)) ((ct t x [.p (some a),.bool d,.l e f n,.i g,.i (adU.wrap (b+1))] [.p (some a),.bool d,.l e f n,.i g,.i b] r)))) ((ct t x [.p (some a),.bool d,.l e f n,.i g,.i (adU.wrap (b+1))] [.p (some a),.bool d,.l e f n,.i g,.i b] r)))) (lL (a.add 2) λM z O=>(lp [.p (some a),.bool d,.l M z O,.i (z:Int),.i 0] λu A=>∀h o j k q m c s,u [.p (some h),.bool o,.l j k q,.i m,.i c] s->(br (decide (c<m)) (fP j k c 16 λP=>ai P 16 λQ=>mk fj λB=>aH 16 (ad B 0) Q (lI h λR=>br (R==2) (ai (ad B 0) 16 λS=>aQ S (xB λT=>br (!T) (K (.bool false)) ((ct u A [.p (some h),.bool o,.l j k q,.i m,.i (adU.wrap (c+1))] [.p (some h),.bool o,.l j k q,.i m,.i c] s)))) ((ct u A [.p (some h),.bool o,.l j k q,.i m,.i (adU.wrap (c+1))] [.p (some h),.bool o,.l j k q,.i m,.i c] s)))) (K (.bool true))) s))) r))
def de(b:LV)(K:VK):WK:=mk b λa=>ai (ad a 0) 13 λc=>bY c (xB λd=>br (!d) (ai (ad a 0) 13 λe=>az e (xB λf=>de.j1 K a (!f))) (de.j1 K a false))
def dW(n:OA)(K:VK):WK:=tick (nn n λm=>lL m λj k o=>nn n λg=>lL (g.add 1) λe f h=>nn n λc=>lI (c.add 2) λa=>nn n λd=>lI (d.add 3) λb=>both (a8 True (mk [] λq=>kp (d.add 3) [.i b] (kp (c.add 2) [.i a] (kp (g.add 1) [.l e f h] (kp m [.l j k o] (both (eW 14 112 cK (some ⟨q,0,none⟩) 0 0 j k λr s t=>kp (d.add 3) [.i b] (kp (c.add 2) [.i a] (kp (g.add 1) [.l e f h] (a8 True (mk [] λu=>kp (d.add 3) [.i b] (kp (c.add 2) [.i a] (kp (g.add 1) [.l e f h] (eW 33 264 bg (some ⟨u,0,none⟩) 0 0 e f λv w x=>kp (d.add 3) [.i b] (kp (c.add 2) [.i a] (a8 (1=1/\(1=1/\(1=1/\(1=1/\True)))) (mk [.l r s t,.l v w x,.i a,.i b] λy=>kp (d.add 3) [.i b] (kp (c.add 2) [.i a] (K (.p (some (ad y 0)))))))))))))))) (a8 True (mk [] λz=>kp (d.add 3) [.i b] (kp (c.add 2) [.i a] (kp (g.add 1) [.l e f h] (kp m [.l j k o] (eW 14 112 cK (some ⟨q,0,none⟩) 0 0 j k λA B C=>kp (d.add 3) [.i b] (kp (c.add 2) [.i a] (kp (g.add 1) [.l e f h] (eW 33 264 bg (some ⟨z,0,none⟩) 0 0 e f λD E F=>kp (d.add 3) [.i b] (kp (c.add 2) [.i a] (a8 (1=1/\(1=1/\(1=1/\(1=1/\True)))) (mk [.l A B C,.l D E F,.i a,.i b] λG=>kp (d.add 3) [.i b] (kp (c.add 2) [.i a] (K (.p (some (ad G 0))))))))))))))))))))))) (a8 True (mk [] λH=>kp (d.add 3) [.i b] (kp (c.add 2) [.i a] (kp (g.add 1) [.l e f h] (kp m [.l j k o] (a8 True (mk [] λI=>kp (d.add 3) [.i b] (kp (c.add 2) [.i a] (kp (g.add 1) [.l e f h] (kp m [.l j k o] (eW 14 112 cK (some ⟨I,0,none⟩) 0 0 j k λJ M O=>kp (d.add 3) [.i b] (kp (c.add 2) [.i a] (kp (g.add 1) [.l e f h] (eW 33 264 bg (some ⟨H,0,none⟩) 0 0 e f λP Q R=>kp (d.add 3) [.i b] (kp (c.add 2) [.i a] (a8 (1=1/\(1=1/\(1=1/\(1=1/\True)))) (mk [.l J M O,.l P Q R,.i a,.i b] λS=>kp (d.add 3) [.i b] (kp (c.add 2) [.i a] (K (.p (some (ad S 0)))))))))))))))))))))))
def bh.j1(K:VK)(j:OA)(a:Int)(f:LI)(b:OA)(c d:Nat)(e:Int)(g:LM)(h:World)(k:Bool):WK:=br k (nn j λm=>lL (m.add 1) λn o q=>fP n o a 33 λp=>st (p.add 32) (.i 4) ((ct f g [.l b c d,.i e,.i (adU.wrap (a+1))] [.l b c d,.i e,.i a] h))) ((ct f g [.l b c d,.i e,.i (adU.wrap (a+1))] [.l b c d,.i e,.i a] h))
def bh(b:OA)(K:VK):WK:=nn b λn=>lL (n.add 1) λo m p=>(lp [.l o m p,.i (m:Int),.i 0] λh k=>∀c d j e a f,h [.l c d j,.i e,.i a] f->(br (decide (a<e)) (fP c d a 33 λq=>ai q 33 λr=>mk bg λg=>aH 33 (ad g 0) r (tick (lI (ad g 32) λs=>br (s==1) (lI (ad g 26) λt=>br (decide (t>0)) (lI (ad g 31) λu=>lI (ad g 26) λv=>nn b λw=>lI (w.add 2) λx=>bh.j1 K b a h c d j e k f (decide ((adU.wrap (u+v))<=x))) (bh.j1 K b a h c d j e k f false)) (bh.j1 K b a h c d j e k f false)))) (K (.tuple ⟨[]⟩))) f)
def gJ(a:OA)(b:Int)(K:VK):WK:=nn a λc=>lI (c.add 2) λd=>br (decide (b>d)) (br (decide (b<=1099511627776)) (nn a λe=>st (e.add 2) (.i b) (bh a (x0 (K (.tuple ⟨[]⟩))))) (bh a (x0 (K (.tuple ⟨[]⟩))))) (bh a (x0 (K (.tuple ⟨[]⟩))))
def iy(s:OA)(p t:Nat)(K:VK):WK:=(lp [.l none 0 0,.l none 0 0,.l s p t,.i (p:Int),.i 0] λq u=>∀h j k b c d e f m g a n,q [.l h j k,.l b c d,.l e f m,.i g,.i a] n->(br (decide (a<g)) (fP e f a 14 λv=>ai v 14 λw=>mk cK λr=>aH 14 (ad r 0) w (ai (ad r 0) 14 λo=>a8 (1=1/\(o.length=14/\True)) (a8 ((([.bool true]:LV)++(o++(fj:LV))).length=31/\True) (mk ((([.bool true]:LV)++(o++(fj:LV)))++[]) λx=>eW 31 248 wh b c d (some ⟨x,0,none⟩) 1 λy z A=>(ct q u [.l h j k,.l y z A,.l e f m,.i g,.i (adU.wrap (a+1))] [.l h j k,.l b c d,.l e f m,.i g,.i a] n))))) (K (.l b c d))) n)
def gY(s:OA)(p t:Nat)(K:VK):WK:=(lp [.l none 0 0,.l none 0 0,.l s p t,.i (p:Int),.i 0] λq u=>∀h j k b c d e f m g a n,q [.l h j k,.l b c d,.l e f m,.i g,.i a] n->(br (decide (a<g)) (fP e f a 16 λv=>ai v 16 λw=>mk fj λr=>aH 16 (ad r 0) w (ai (ad r 0) 16 λo=>a8 (o.length=16/\True) (a8 (((I':LV)++(o++[])).length=31/\True) (mk (((I':LV)++(o++[]))++[]) λx=>eW 31 248 wh b c d (some ⟨x,0,none⟩) 1 λy z A=>(ct q u [.l h j k,.l y z A,.l e f m,.i g,.i (adU.wrap (a+1))] [.l h j k,.l b c d,.l e f m,.i g,.i a] n))))) (K (.l b c d))) n)
def jv(b:LV)(K:VK):WK:=mk b λa=>lT (ad a 0) λc=>br c (lI (ad a 13) λd=>a8 ((2:Int)≠0) (K (.bool ((d.tmod (2:Int))!=0)))) (lI (ad a 28) λe=>a8 ((2:Int)≠0) (K (.bool ((e.tmod (2:Int))!=0))))
def dE(c:LV)(a:Int)(K:VK):WK:=mk c λb=>br (decide (a>=64)) (lU (ad b 0) λd=>a8 ((0:Int)<=(IntKind.u64.wrap (adU.wrap (a-64)))) (a8 ((2:Int)≠0) (K (.i (adU.wrap ((shr .u64 d (IntKind.u64.wrap (adU.wrap (a-64)))).tmod (2:Int))))))) (lU (ad b 1) λe=>a8 ((0:Int)<=(IntKind.u64.wrap a)) (a8 ((2:Int)≠0) (K (.i (adU.wrap ((shr .u64 e (IntKind.u64.wrap a)).tmod (2:Int)))))))
def gu(H:LV)(K:VK):WK:=mk H λI=>a8 (1=1/\True) (mk [.i 0] λJ=>(lp [.p (some (ad I 0)),.string .empty,.l (some ⟨J,0,none⟩) 1 1,.i 127] λx C=>∀g h j a k d s,x [.p (some g),.string h,.l j a k,.i d] s->(br (decide (d>=0)) (ai g 2 λM=>dE M d (xI .i64 λO=>(lp [.p (some g),.string h,.l j a k,.i d,.i O,.i (adU.wrap ((a:Int) -1))] λD P=>∀m n b c t o e f y,D [.p (some m),.string n,.l b c t,.i o,.i e,.i f] y->(br (decide (f>=0)) (fP b c f 1 λQ=>lI Q λE=>a8 ((10:Int)≠0) (fP b c f 1 λR=>st R (.i ((adU.wrap ((adU.wrap (2* E))+e)).tmod (10:Int))) (a8 ((10:Int)≠0) ((ct D P [.p (some m),.string n,.l b c t,.i o,.i (adU.wrap ((adU.wrap ((adU.wrap (2* E))+e)).tdiv (10:Int))),.i (adU.wrap (f-1))] [.p (some m),.string n,.l b c t,.i o,.i e,.i f] y))))) (br (decide (e>0)) (a8 (1=1/\True) (mk [.i e] λS=>eW 1 8 [.i 0] (some ⟨S,0,none⟩) 1 1 b c λT V W=>(ct x C [.p (some m),.string n,.l T V W,.i (adU.wrap (o-1))] [.p (some g),.string h,.l j a k,.i d] s))) ((ct x C [.p (some m),.string n,.l b c t,.i (adU.wrap (o-1))] [.p (some g),.string h,.l j a k,.i d] s)))) y))) ((lp [.string h,.string .empty,.l j a k,.i (a:Int),.i 0] λF X=>∀z q u v A w r B,F [.string z,.string q,.l u v A,.i w,.i r] B->(br (decide (r<w)) (fP u v r 1 λY=>lI Y λZ=>a8 (1=1/\True) (mk [.int .u8 (IntKind.u8.wrap (adU.wrap (48+Z)))] λr4=>RV (some ⟨r4,0,none⟩) 1 λG=>a8 (((q.size+G.size:Nat):Int)<=9223372036854775807) ((ct F X [.string z,.string (q++G),.l u v A,.i w,.i (adU.wrap (r+1))] [.string z,.string q,.l u v A,.i w,.i r] B)))) (K (.string q))) B))) s))
def jm(b a:Int)(K:VK):WK:=a8 (a≠0) (a8 ((2:Int)≠0) (K (.bool (((adU.wrap (b.tdiv a)).tmod (2:Int))==1))))
def aB.j4(K:VK)(a:Nat)(b:Bool):WK:=br b (K (.i 8)) (lI (ad a 11) λc=>br (decide (c<=0)) (K (.i 9)) (lI (ad a 11) λd=>br (decide (d>=65536)) (K (.i 9)) (K (.i 0))))
def aB.j3(K:VK)(a:Nat)(b:Bool):WK:=br b (K (.i 7)) (lI (ad a 10) λc=>br (decide (c<=0)) (aB.j4 K a true) (lI (ad a 10) λd=>aB.j4 K a (decide (d>=4294967296))))
def aB.j6(K:VK)(a b:Nat)(c:Bool):WK:=br c (aB.j3 K a true) (ai (ad a 8) 2 λd=>ai (ad b 0) 2 λe=>nF [.u 0,.u 0] d e λf=>br (!f) (aB.j3 K a true) (lI (ad a 13) λg=>aB.j3 K a (g !=0)))
def aB.j5(K:VK)(a b:Nat)(c:Bool):WK:=br c (aB.j6 K a b true) (ai (ad a 6) 2 λd=>ai (ad b 0) 2 λe=>nF [.u 0,.u 0] d e λf=>aB.j6 K a b (!f))
def aB.j2(K:VK)(a b:Nat)(c:Bool):WK:=br c (K (.i 6)) (ai (ad a 2) 2 λd=>ai (ad b 0) 2 λe=>nF [.u 0,.u 0] d e λf=>br (!f) (aB.j5 K a b true) (ai (ad a 4) 2 λg=>ai (ad b 0) 2 λh=>nF [.u 0,.u 0] g h λj=>aB.j5 K a b (!j)))
def aB.j1(K:VK)(a b:Nat)(c:Bool):WK:=br c (K (.i 3)) (ai (ad a 0) 2 λd=>ai (ad b 0) 2 λe=>nF [.u 0,.u 0] d e λf=>br f (K (.i 4)) (ai (ad a 0) 2 λg=>gu g (xS λh=>br (pk h (⟨#[51,52,48,50,56,50,51,54,54,57,50,48,57,51,56,52,54,51,52,54,51,51,55,52,54,48,55,52,51,49,55,54,56,50,49,49,52,53,53]⟩:BA)) (K (.i 5)) (lI (ad a 12) λj=>jm j 2 (xB λk=>br k (lI (ad a 12) λl=>jm l 4 (xB λm=>aB.j2 K a b m)) (aB.j2 K a b false))))))
def aB(c:LV)(K:VK):WK:=mk c λa=>a8 True (mk [.u 0,.u 0] λb=>a8 (2=2) (gp (ad b 0) [.u 0,.u 0] (lI (ad a 12) λd=>br (decide (d<0)) (aB.j1 K a b true) (lI (ad a 12) λe=>aB.j1 K a b (decide (e>7))))))
def cI(n:OA)(o:LV)(K:VK):WK:=mk o λq=>nn n λr=>lL r λs j t=>(lp [.p (some (ad q 0)),.i 0,.l s j t,.i (j:Int),.i 0] λk v=>∀b f c d g e a h,k [.p (some b),.i f,.l c d g,.i e,.i a] h->(br (decide (a<e)) (fP c d a 14 λw=>ai w 14 λx=>mk cK λm=>aH 14 (ad m 0) x (ai (ad m 0) 2 λy=>ai b 2 λz=>nF [.u 0,.u 0] y z λA=>br A (K (.i a)) ((ct k v [.p (some b),.i f,.l c d g,.i e,.i (adU.wrap (a+1))] [.p (some b),.i f,.l c d g,.i e,.i a] h)))) (K (.i (-1)))) h)
def dT.j1(K:VK)(a b:Nat)(c:Bool):WK:=br c (lI (ad a 12) λd=>a8 ((2:Int)≠0) (a8 ((4:Int)≠0) (lI (ad b 12) λe=>a8 ((2:Int)≠0) (a8 ((4:Int)≠0) (br (((adU.wrap (d.tdiv (2:Int))).tmod (4:Int))==((adU.wrap (e.tdiv (2:Int))).tmod (4:Int))) (K (.i 10)) (K (.i 11))))))) (K (.i 11))
def dT(c d:LV)(K:VK):WK:=mk c λa=>mk d λb=>lI (ad a 10) λe=>lI (ad b 10) λf=>br (e==f) (lI (ad a 11) λg=>lI (ad b 11) λh=>dT.j1 K a b (g==h)) (dT.j1 K a b false)
def gL(a:OA)(n:LV)(K:VK):WK:=mk n λb=>ai (ad b 0) 14 λo=>aB o (xI .i64 λc=>br (c !=0) (K (.i c)) (ai (ad b 0) 2 λp=>cI a p (xI .i64 λd=>br (decide (d>=0)) (tick (ai (ad b 0) 14 λq=>nn a λe=>lL e λf g r=>fP f g d 14 λs=>ai s 14 λt=>dT q t (xI .i64 λu=>kp e [.l f g r] (K (.i u))))) (nn a λv=>lL v λJ w M=>br (decide ((w:Int)>=32)) (K (.i 35)) (nn a λx=>lI (x.add 3) λy=>nn a λz=>st (z.add 3) (.i (adU.wrap (y+1))) (nn a λA=>lI (A.add 3) λB=>st (ad b 13) (.i B) (lI (ad b 12) λC=>a8 ((2:Int)≠0) (st (ad b 12) (.i (adU.wrap ((adU.wrap (C.tdiv (2:Int)))* 2))) (tick (nn a λh=>lL h λj k m=>ai (ad b 0) 14 λD=>Fh 14 D λE=>kp h [.l j k m] (eW 14 112 cK j k m (some ⟨E,0,none⟩) 1 λF G H=>nn a λI=>st I (.l F G H) (K (.i 0)))))))))))))
def aN(b:LV)(a:Int)(K:VK):WK:=mk b λc=>lI (ad c 13) λd=>a8 (a≠0) (a8 ((2:Int)≠0) (K (.bool (((adU.wrap (d.tdiv a)).tmod (2:Int))==1))))
def dL(b:LV)(K:VK):WK:=mk b λa=>ai (ad a 0) 16 λc=>aN c 4 (xB λd=>br d (K (.bool true)) (ai (ad a 0) 16 λe=>aN e 8 (xB λf=>K (.bool f))))
def aK.j2(K:VK)(a:Nat)(b:Bool):WK:=br b (K (.bool false)) (lI (ad a 13) λc=>br (decide (c<64)) (K (.bool true)) (ai (ad a 0) 16 λd=>aN d 2 (xB λe=>K (.bool e))))
def aK.j1(K:VK)(a:Nat)(b:Bool):WK:=br b (K (.bool false)) (ai (ad a 0) 16 λc=>dL c (xB λd=>br d (lI (ad a 13) λe=>aK.j2 K a (decide (e>=16))) (aK.j2 K a false)))
def aK.j4(K:VK)(a:Nat)(b:Bool):WK:=br b (aK.j1 K a true) (ai (ad a 0) 16 λc=>aN c 4 (xB λd=>br d (ai (ad a 0) 16 λe=>aN e 8 (xB λf=>aK.j1 K a f)) (aK.j1 K a false)))
def aK.j3(K:VK)(a:Nat)(b:Bool):WK:=br b (aK.j4 K a true) (ai (ad a 0) 16 λc=>aN c 2 (xB λd=>br d (ai (ad a 0) 16 λe=>aN e 8 (xB λf=>aK.j4 K a f)) (aK.j4 K a false)))
def aK(b:LV)(K:VK):WK:=mk b λa=>ai (ad a 0) 16 λc=>aN c 2 (xB λd=>br d (ai (ad a 0) 16 λe=>aN e 4 (xB λf=>aK.j3 K a f)) (aK.j3 K a false))
def au.j5(K:VK)(a:Nat)(b:Int)(c:Bool):WK:=br c (K (.i 8)) (lI (ad a 12) λd=>br (decide (d<b)) (K (.i 9)) (lI (ad a 12) λe=>br (decide (e>=65536)) (K (.i 9)) (K (.i 0))))
def au.j4(K:VK)(a:Nat)(b:Int):WK:=lI (ad a 11) λc=>br (decide (c<b)) (au.j5 K a b true) (lI (ad a 11) λd=>au.j5 K a b (decide (d>=4294967296)))
def au.j3(K:VK)(a b:Nat)(c:Bool):WK:=br c (K (.i 17)) (ai (ad a 0) 16 λd=>dL d (xB λe=>br e (ai (ad a 8) 2 λf=>ai (ad b 0) 2 λg=>nF [.u 0,.u 0] f g λh=>br h (K (.i 16)) (au.j4 K a 0)) (ai (ad a 2) 2 λj=>ai (ad b 0) 2 λk=>nF [.u 0,.u 0] j k λl=>br l (K (.i 12)) (ai (ad a 4) 2 λm=>ai (ad b 0) 2 λn=>nF [.u 0,.u 0] m n λo=>br o (K (.i 13)) (ai (ad a 2) 2 λp=>ai (ad a 4) 2 λq=>nF [.u 0,.u 0] p q λr=>br r (K (.i 14)) (ai (ad a 8) 2 λs=>ai (ad b 0) 2 λt=>nF [.u 0,.u 0] s t λv=>br (!v) (K (.i 15)) (ai (ad a 6) 2 λw=>ai (ad b 0) 2 λx=>nF [.u 0,.u 0] w x λy=>br y (ai (ad a 0) 16 λz=>aN z 16 (xB λA=>br (!A) (ai (ad a 0) 16 λB=>aN B 32 (xB λC=>br (!C) (K (.i 18)) (au.j4 K a 1))) (au.j4 K a 1))) (au.j4 K a 1))))))))
def au.j6(K:VK)(a b:Nat)(c:Bool):WK:=br c (au.j3 K a b true) (lI (ad a 10) λd=>br (decide (d>0)) (ai (ad a 0) 16 λe=>aN e 2 (xB λf=>au.j3 K a b (!f))) (au.j3 K a b false))
def au.j2(K:VK)(a b:Nat)(c:Bool):WK:=br c (K (.i 7)) (lI (ad a 10) λd=>br (decide (d<0)) (au.j6 K a b true) (lI (ad a 10) λe=>au.j6 K a b (decide (e>1073741824))))
def au.j1(K:VK)(a b:Nat)(c:Bool):WK:=br c (K (.i 3)) (ai (ad a 0) 2 λd=>ai (ad b 0) 2 λe=>nF [.u 0,.u 0] d e λf=>br f (K (.i 4)) (ai (ad a 0) 2 λg=>gu g (xS λh=>br (pk h (⟨#[51,52,48,50,56,50,51,54,54,57,50,48,57,51,56,52,54,51,52,54,51,51,55,52,54,48,55,52,51,49,55,54,56,50,49,49,52,53,53]⟩:BA)) (K (.i 5)) (ai (ad a 0) 16 λj=>aK j (xB λk=>br (!k) (K (.i 6)) (lI (ad a 14) λl=>br (l !=0) (au.j2 K a b true) (lI (ad a 15) λm=>au.j2 K a b (m !=0))))))))
def au(c:LV)(K:VK):WK:=mk c λa=>a8 True (mk [.u 0,.u 0] λb=>a8 (2=2) (gp (ad b 0) [.u 0,.u 0] (lI (ad a 13) λd=>br (decide (d<0)) (au.j1 K a b true) (lI (ad a 13) λe=>au.j1 K a b (decide (e>255))))))
def dU(n:OA)(o:LV)(K:VK):WK:=mk o λq=>nn n λr=>lL (r.add 1) λs j t=>(lp [.p (some (ad q 0)),.i 0,.l s j t,.i (j:Int),.i 0] λk v=>∀b f c d g e a h,k [.p (some b),.i f,.l c d g,.i e,.i a] h->(br (decide (a<e)) (fP c d a 33 λw=>ai w 33 λx=>mk bg λm=>aH 33 (ad m 0) x (ai (ad m 16) 2 λy=>ai b 2 λz=>nF [.u 0,.u 0] y z λA=>br A (K (.i a)) ((ct k v [.p (some b),.i f,.l c d g,.i e,.i (adU.wrap (a+1))] [.p (some b),.i f,.l c d g,.i e,.i a] h)))) (K (.i (-1)))) h)
def ic(c d:LV)(K:VK):WK:=mk c λa=>mk d λb=>lI (ad a 13) λe=>a8 ((2:Int)≠0) (st (ad a 13) (.i (adU.wrap (e.tdiv (2:Int)))) (lI (ad b 13) λf=>a8 ((2:Int)≠0) (st (ad b 13) (.i (adU.wrap (f.tdiv (2:Int)))) (ai (ad a 0) 16 λg=>ai (ad b 0) 16 λh=>nF fj g h λj=>br j (K (.i 10)) (K (.i 11))))))
def fp(j k:LV)(K:VK):WK:=mk j λl=>mk k λm=>(lp [.p (some (ad l 0)),.p (some (ad m 0)),.bool false,.i 127] λf n=>∀c b d a e,f [.p (some c),.p (some b),.bool d,.i a] e->(br (decide (a>=0)) (tick (ai c 2 λo=>ai b 2 λg=>dE o a (xI .i64 λq=>kp b g (dE g a (xI .i64 λr=>br (q !=r) (tick (ai c 2 λs=>ai b 2 λh=>dE s a (xI .i64 λt=>kp b h (dE h a (xI .i64 λu=>K (.bool (decide (t<u)))))))) ((ct f n [.p (some c),.p (some b),.bool d,.i (adU.wrap (a-1))] [.p (some c),.p (some b),.bool d,.i a] e))))))) (K (.bool false))) e)
def bK.j1(K:VK)(a:Nat)(b c d:Int)(e:Bool):WK:=br e (a8 True (a8 (2=2) (gp (ad a 0) [.u 0,.u 0] (ai (ad a 0) 2 λf=>K (.tuple ⟨[.agg ⟨f⟩,.bool false]⟩))))) (a8 (1=1/\(1=1/\True)) (a8 (2=2) (gp (ad a 0) [.u d,.u (IntKind.u64.wrap (b+c))] (ai (ad a 0) 2 λg=>K (.tuple ⟨[.agg ⟨g⟩,.bool true]⟩)))))
def bK(i j:LV)(K:VK):WK:=mk i λc=>mk j λg=>mk [.u 0,.u 0] λf=>lU (ad c 1) λd=>lU (ad g 1) λe=>lU (ad c 0) λa=>lU (ad g 0) λb=>lU (ad c 0) λh=>lU (ad c 1) λk=>br (decide ((IntKind.u64.wrap (d+e))<k)) (br (decide ((IntKind.u64.wrap (a+b))<h)) (bK.j1 K f d e (IntKind.u64.wrap ((IntKind.u64.wrap (a+b))+1)) true) (bK.j1 K f d e (IntKind.u64.wrap ((IntKind.u64.wrap (a+b))+1)) ((IntKind.u64.wrap ((IntKind.u64.wrap (a+b))+1))==0))) (bK.j1 K f d e (IntKind.u64.wrap (a+b)) (decide ((IntKind.u64.wrap (a+b))<h)))
def fL(c d:LV)(K:VK):WK:=mk c λe=>mk d λf=>mk [.u 0,.u 0] λa=>ai (ad e 0) 2 λg=>ai (ad f 0) 2 λh=>bK g h (x2 λi j=>(xA 2 λk=>(xB λn=>mk [.u 0,.u 0] λb=>aH 2 (ad b 0) k (ai (ad b 0) 2 λl=>aH 2 (ad a 0) l (ai (ad a 0) 2 λm=>K (.agg ⟨m⟩)))) j) i)
def aa.Uk(K:VK)(a:Addr)(h:LI)(b:Addr)(c:OA)(d e:Nat)(f g:Int)(j:LM)(k:World)(m:Bool):WK:=br m (lI (a.add 12) λn=>a8 ((8:Int)≠0) (st (a.add 12) (.i (adU.wrap ((n.tmod (8:Int))+8))) ((ct h j [.p (some b),.p (some a),.l c d e,.i f,.i (adU.wrap (g+1))] [.p (some b),.p (some a),.l c d e,.i f,.i g] k)))) ((ct h j [.p (some b),.p (some a),.l c d e,.i f,.i (adU.wrap (g+1))] [.p (some b),.p (some a),.l c d e,.i f,.i g] k))
def aa.Gs(K:VK)(k:Nat)(a:Addr)(b:LI)(c:Addr)(d:OA)(e f:Nat)(g h:Int)(i:LM)(j:World)(l:Bool):WK:=br l (lI (ad k 32) λm=>br (m==1) (aa.Uk K a b c d e f g h i j true) (lI (ad k 32) λn=>aa.Uk K a b c d e f g h i j (n==2))) (aa.Uk K a b c d e f g h i j false)
def aa.Wn(K:VK)(b:Nat)(a:Addr)(c:LI)(d:Addr)(e:OA)(f g:Nat)(h i:Int)(j:LM)(k:World)(l:Nat)(m:Bool):WK:=br m (aa.Gs K b a c d e f g h i j k true) (ai (ad l 0) 16 λn=>aN n 128 (xB λo=>br o (ai (ad l 4) 2 λp=>ai a 2 λq=>nF [.u 0,.u 0] p q λr=>aa.Gs K b a c d e f g h i j k r) (aa.Gs K b a c d e f g h i j k false)))
def aa.j9(K:VK)(a:Nat)(b:Addr)(c:Nat)(d:LI)(e:Addr)(f:OA)(g h:Nat)(i j:Int)(k:LM)(l:World):WK:=ai (ad a 0) 16 λm=>aN m 64 (xB λn=>br n (ai (ad a 2) 2 λo=>ai b 2 λp=>nF [.u 0,.u 0] o p λq=>aa.Wn K c b d e f g h i j k l a q) (aa.Wn K c b d e f g h i j k l a false))
def aa.j8(K:VK)(a:Addr)(b c:Nat)(d:LI)(e:Addr)(f:OA)(g h:Nat)(i j:Int)(k:LM)(l:World)(m:Bool):WK:=br m (ai (a.add 6) 2 λn=>ai (ad b 6) 2 λo=>fL n o (xA 2 λp=>aH 2 (a.add 6) p (aa.j9 K b a c d e f g h i j k l))) (aa.j9 K b a c d e f g h i j k l)
def aa.j7(K:VK)(a b:Nat)(c:Addr)(d:LI)(e:Addr)(f:OA)(g h:Nat)(i j:Int)(k:LM)(l:World):WK:=lI (ad a 32) λm=>br (m==1) (ai (ad b 4) 2 λn=>ai c 2 λo=>nF [.u 0,.u 0] n o λp=>aa.j8 K c b a d e f g h i j k l p) (aa.j8 K c b a d e f g h i j k l false)
def aa.j6(K:VK)(a:Addr)(b c:Nat)(d:LI)(e:Addr)(f:OA)(g h:Nat)(i j:Int)(k:LM)(l:World)(m:Bool):WK:=br m (ai (a.add 2) 2 λn=>ai (ad b 6) 2 λo=>fL n o (xA 2 λp=>aH 2 (a.add 2) p (aa.j7 K c b a d e f g h i j k l))) (aa.j7 K c b a d e f g h i j k l)
def aa.j5(K:VK)(a b:Nat)(c:Addr)(d:LI)(e:Addr)(f:OA)(g h:Nat)(i j:Int)(k:LM)(l:World):WK:=lI (ad a 32) λm=>br (m==1) (ai (ad b 2) 2 λn=>ai c 2 λo=>nF [.u 0,.u 0] n o λp=>aa.j6 K c b a d e f g h i j k l p) (aa.j6 K c b a d e f g h i j k l false)
def aa.j4(K:VK)(a:Addr)(b c:Nat)(d:LI)(e:Addr)(f:OA)(g h:Nat)(i j:Int)(k:LM)(l:World)(m:Bool):WK:=br m (ai (a.add 8) 2 λn=>ai (ad b 6) 2 λo=>fL n o (xA 2 λp=>aH 2 (a.add 8) p (aa.j5 K c b a d e f g h i j k l))) (aa.j5 K c b a d e f g h i j k l)
def aa.j3(K:VK)(m:Bool)(a:Nat)(b:Addr)(c:Nat)(d:LI)(e:Addr)(f:OA)(g h:Nat)(i j:Int)(k:LM)(l:World):WK:=br m (ai (ad a 4) 2 λn=>ai b 2 λo=>nF [.u 0,.u 0] n o λp=>aa.j4 K b a c d e f g h i j k l p) (aa.j4 K b a c d e f g h i j k l false)
def aa.j2(K:VK)(a:Addr)(b:Nat)(c:Bool)(d:Nat)(e:LI)(f:Addr)(g:OA)(h i:Nat)(j k:Int)(l:LM)(m:World)(n:Bool):WK:=br n (ai (a.add 4) 2 λo=>ai (ad b 6) 2 λp=>fL o p (xA 2 λq=>aH 2 (a.add 4) q (aa.j3 K c b a d e f g h i j k l m))) (aa.j3 K c b a d e f g h i j k l m)
def aa.j1(K:VK)(a:Nat)(b:Addr)(d:Nat)(e:LI)(f:Addr)(g:OA)(h i:Nat)(j k:Int)(l:LM)(m:World)(c:Bool):WK:=br c (ai (ad a 2) 2 λn=>ai b 2 λo=>nF [.u 0,.u 0] n o λp=>aa.j2 K b a c d e f g h i j k l m p) (aa.j2 K b a c d e f g h i j k l m false)
def aa(n:OA)(s:Int)(K:VK):WK:=mk cK λt=>nn n λu=>lL u λv w O=>fP v w s 14 λx=>ai x 14 λy=>mk cK λo=>aH 14 (ad o 0) y (nn n λz=>lL (z.add 1) λA q B=>(lp [.p (some (ad t 0)),.p (some (ad o 0)),.l A q B,.i (q:Int),.i 0] λk r=>∀a d e f m g b h,k [.p (some a),.p (some d),.l e f m,.i g,.i b] h->(br (decide (b<g)) (fP e f b 33 λC=>ai C 33 λD=>mk bg λj=>aH 33 (ad j 0) D (ai (ad j 16) 16 λE=>mk fj λc=>aH 16 (ad c 0) E (ai (ad c 0) 16 λF=>aN F 2 (xB λG=>br (!G) (ai (ad c 0) 16 λH=>aN H 8 (xB λI=>aa.j1 K c d j k a e f m g b r h (!I))) (aa.j1 K c d j k a e f m g b r h false))))) (ai d 14 λJ=>aH 14 a J (ai a 14 λM=>K (.agg ⟨M⟩)))) h))
def dG(c:OA)(d:LV)(e:Int)(K:VK):WK:=mk d λf=>dW c (xP λa=>nn a λg=>lL (g.add 1) λh j p=>fP h j e 33 λk=>st (k.add 32) (.i 3) (ai (ad f 0) 2 λl=>cI a l (xI .i64 λm=>aa a m (xA 14 λn=>(λw=>∃b,n[12]?=some b/\(xI .i64 λo=>K (.bool (decide (o>=8)))) b w)))))
def dV(a:OA)(m n:LV)(f:Int)(K:VK):WK:=mk m λe=>mk n λb=>nn a λo=>lI (o.add 3) λp=>nn a λq=>st (q.add 3) (.i (adU.wrap (p+1))) (nn a λr=>lI (r.add 3) λs=>st (ad b 14) (.i s) (nn a λt=>lI (t.add 2) λu=>st (ad b 15) (.i u) (tick (nn a λg=>lL (g.add 1) λh j k=>ai (ad e 0) 16 λc=>ai (ad b 0) 16 λd=>a8 (c.length=16/\(d.length=16/\(1=1/\True))) (a8 ((c++(d++([.i f]:LV))).length=33/\True) (mk ((c++(d++([.i f]:LV)))++[]) λv=>kp (ad b 0) d (kp (ad e 0) c (kp (g.add 1) [.l h j k] (eW 33 264 bg h j k (some ⟨v,0,none⟩) 1 λw x y=>kp (ad b 0) d (kp (ad e 0) c (nn a λz=>st (z.add 1) (.l w x y) (K (.tuple ⟨[]⟩)))))))))))))
def af.j6(K:VK)(c b d:Nat)(e:OA):WK:=ai (ad c 0) 16 λf=>mk fj λa=>aH 16 (ad a 0) f (ai (ad b 2) 2 λg=>aH 2 (ad a 2) g (ai (ad b 4) 2 λh=>aH 2 (ad a 4) h (ai (ad d 0) 2 λj=>aH 2 (ad a 6) j (lI (ad b 11) λk=>st (ad a 11) (.i k) (lI (ad b 12) λl=>st (ad a 12) (.i l) (ai (ad c 0) 16 λm=>ai (ad a 0) 16 λn=>dV e m n 0 (x0 (K (.i 0)))))))))
def af.j5(K:VK)(a:OA)(b:Int)(f:Bool)(c d e:Nat)(g:Bool):WK:=br g (K (.i 31)) (nn a λh=>lL (h.add 1) λs j t=>br (decide ((j:Int)>=96)) (K (.i 35)) (nn a λk=>lL (k.add 1) λl m u=>fP l m b 33 λn=>st (n.add 32) (.i 3) (br f (nn a λo=>lL (o.add 1) λp q v=>fP p q b 33 λr=>st (r.add 32) (.i 2) (af.j6 K c d e a)) (af.j6 K c d e a))))
def af.j4(K:VK)(a:Bool)(b:Nat)(c:OA)(d:Int)(e f:Nat)(g:Bool):WK:=br g (K (.i 30)) (br a (ai (ad b 4) 2 λh=>dG c h d (xB λj=>af.j5 K c d a e b f j)) (af.j5 K c d a e b f false))
def af.j3(K:VK)(a:Bool)(b:Nat)(c:OA)(d:Int)(e f:Nat)(g:Bool):WK:=br g (K (.i 26)) (br a (ai (ad b 2) 2 λh=>dG c h d (xB λj=>af.j4 K a b c d e f j)) (af.j4 K a b c d e f false))
def af.j7(K:VK)(a:Bool)(b:Nat)(d:OA)(e:Int)(f c:Nat)(g:Bool):WK:=br g (af.j3 K a b d e f c true) (br (!a) (ai (ad c 0) 2 λh=>ai (ad b 6) 2 λi=>nF [.u 0,.u 0] h i λj=>af.j3 K a b d e f c (!j)) (af.j3 K a b d e f c false))
def af.j2(K:VK)(a:Bool)(b c:Nat)(d:OA)(e:Int)(f:Nat):WK:=br a (ai (ad b 6) 2 λg=>ai (ad c 0) 2 λh=>fp g h (xB λi=>af.j7 K a b d e f c i)) (af.j7 K a b d e f c false)
def af.j1(K:VK)(b:OA)(c:Int)(d g e:Nat)(h:Bool):WK:=br h (K (.i 25)) (nn b λj=>lL (j.add 1) λk l A=>fP k l c 33 λm=>lI (m.add 32) λn=>br (decide (n>1)) (nn b λo=>lL (o.add 1) λp q B=>fP p q c 33 λr=>lI (r.add 32) λs=>K (.i (adU.wrap (25+s)))) (ai (ad d 0) 16 λt=>aN t 4 (xB λf=>ai (ad d 6) 2 λv=>mk [.u 0,.u 0] λa=>aH 2 (ad a 0) v (ai (ad a 0) 2 λw=>ai (ad g 0) 2 λx=>nF [.u 0,.u 0] w x λy=>br y (ai (ad e 6) 2 λz=>aH 2 (ad a 0) z (af.j2 K f e a b c d)) (af.j2 K f e a b c d)))))
def af.Gs(K:VK)(c:OA)(d:Int)(a e b:Nat)(f:Bool):WK:=br f (af.j1 K c d a e b true) (lI (ad a 12) λg=>br (g !=0) (lI (ad a 12) λh=>lI (ad b 12) λi=>af.j1 K c d a e b (h !=i)) (af.j1 K c d a e b false))
def af.j9(K:VK)(c:OA)(d:Int)(a e b:Nat)(f:Bool):WK:=br f (af.Gs K c d a e b true) (lI (ad a 11) λg=>br (g !=0) (lI (ad a 11) λh=>lI (ad b 11) λi=>af.Gs K c d a e b (h !=i)) (af.Gs K c d a e b false))
def af.j8(K:VK)(d:OA)(e:Int)(a b c:Nat)(f:Bool):WK:=br f (af.j9 K d e a b c true) (ai (ad a 4) 2 λg=>ai (ad b 0) 2 λh=>nF [.u 0,.u 0] g h λi=>br (!i) (ai (ad a 4) 2 λj=>ai (ad c 4) 2 λk=>nF [.u 0,.u 0] j k λl=>af.j9 K d e a b c (!l)) (af.j9 K d e a b c false))
def af(b:OA)(m:LV)(K:VK):WK:=mk m λa=>ai (ad a 0) 16 λn=>au n (xI .i64 λf=>br (f !=0) (K (.i f)) (ai (ad a 0) 16 λo=>dL o (xB λp=>br (!p) (K (.i 6)) (ai (ad a 0) 2 λq=>dU b q (xI .i64 λg=>br (decide (g>=0)) (tick (ai (ad a 0) 16 λr=>nn b λh=>lL (h.add 1) λj k s=>fP j k g 33 λt=>ai t 16 λv=>ic r v (xI .i64 λw=>kp (h.add 1) [.l j k s] (K (.i w))))) (ai (ad a 8) 2 λx=>dU b x (xI .i64 λd=>br (decide (d<0)) (K (.i 23)) (nn b λy=>lL (y.add 1) λz A O=>fP z A d 33 λB=>ai (B.add 16) 16 λC=>mk fj λc=>aH 16 (ad c 0) C (a8 True (mk [.u 0,.u 0] λe=>a8 (2=2) (gp (ad e 0) [.u 0,.u 0] (ai (ad c 0) 16 λD=>aN D 2 (xB λE=>br (!E) (K (.i 24)) (ai (ad a 2) 2 λF=>ai (ad e 0) 2 λG=>nF [.u 0,.u 0] F G λH=>br (!H) (ai (ad a 2) 2 λI=>ai (ad c 2) 2 λJ=>nF [.u 0,.u 0] I J λM=>af.j8 K b d a e c (!M)) (af.j8 K b d a e c false)))))))))))))))
def ib(d e:LV)(K:VK):WK:=mk d λb=>mk e λc=>mk [.u 0,.u 0] λa=>ai (ad b 0) 2 λf=>ai (ad c 0) 2 λg=>fp f g (xB λh=>br h (ai (ad b 0) 2 λi=>aH 2 (ad a 0) i (ai (ad a 0) 2 λj=>K (.agg ⟨j⟩))) (ai (ad c 0) 2 λk=>aH 2 (ad a 0) k (ai (ad a 0) 2 λl=>K (.agg ⟨l⟩))))
def kx(K:VK):WK:=mk [.u 0,.u 0] λa=>a8 (1=1/\(1=1/\True)) (a8 (2=2) (gp (ad a 0) [.u 18446744073709551615,.u 18446744073709551615] (ai (ad a 0) 2 λb=>K (.agg ⟨b⟩))))
def lq(d:LV)(a:Int)(K:VK):WK:=mk d λb=>mk [.u 0,.u 0] λc=>br (decide (a>=64)) (lU (ad b 0) λe=>a8 ((0:Int)<=(IntKind.u64.wrap (adU.wrap (a-64)))) (lU (ad b 1) λf=>a8 (1=1/\(1=1/\True)) (a8 (2=2) (gp (ad c 0) [.u (IntKind.u64.wrap (e+(shl .u64 1 (IntKind.u64.wrap (adU.wrap (a-64)))))),.u f] (ai (ad c 0) 2 λg=>K (.agg ⟨g⟩)))))) (lU (ad b 0) λh=>lU (ad b 1) λi=>a8 ((0:Int)<=(IntKind.u64.wrap a)) (a8 (1=1/\(1=1/\True)) (a8 (2=2) (gp (ad c 0) [.u h,.u (IntKind.u64.wrap (i+(shl .u64 1 (IntKind.u64.wrap a))))] (ai (ad c 0) 2 λj=>K (.agg ⟨j⟩))))))
def c9.j1(K:VK)(a:Addr)(b:Int)(g:LI)(c d e:Addr)(f:Bool)(h:LM)(j:Int)(k:World)(l m:Int):WK:=br (m==1) (ai a 2 λn=>lq n b (xA 2 λo=>aH 2 a o ((ct g h [.p (some c),.p (some d),.p (some e),.bool f,.p (some a),.i l,.i (adU.wrap (b+1))] [.p (some c),.p (some d),.p (some e),.bool f,.p (some a),.i j,.i b] k)))) ((ct g h [.p (some c),.p (some d),.p (some e),.bool f,.p (some a),.i l,.i (adU.wrap (b+1))] [.p (some c),.p (some d),.p (some e),.bool f,.p (some a),.i j,.i b] k))
def c9(t v:LV)(K:VK):WK:=mk t λn=>mk v λo=>mk [.u 0,.u 0] λh=>ai (ad n 0) 2 λw=>ai (ad o 0) 2 λx=>fp w x (xB λy=>br y (a8 True (a8 (2=2) (gp (ad h 0) [.u 0,.u 0] (ai (ad h 0) 2 λz=>K (.tuple ⟨[.agg ⟨z⟩,.bool false]⟩))))) (a8 True (mk [.u 0,.u 0] λq=>a8 (2=2) (gp (ad q 0) [.u 0,.u 0] ((lp [.p (some (ad n 0)),.p (some (ad o 0)),.p (some (ad h 0)),.bool false,.p (some (ad q 0)),.i 0,.i 0] λj r=>∀e c d k f a b g,j [.p (some e),.p (some c),.p (some d),.bool k,.p (some f),.i a,.i b] g->(br (decide (b<128)) (tick (ai e 2 λA=>ai c 2 λs=>dE A b (xI .i64 λl=>kp c s (dE s b (xI .i64 λm=>br (decide ((adU.wrap ((adU.wrap (l-m)) -a))<0)) (c9.j1 K f b j e c d k r a g 1 (adU.wrap ((adU.wrap ((adU.wrap (l-m)) -a))+2))) (c9.j1 K f b j e c d k r a g 0 (adU.wrap ((adU.wrap (l-m)) -a)))))))) (ai f 2 λB=>aH 2 d B (ai d 2 λC=>K (.tuple ⟨[.agg ⟨C⟩,.bool true]⟩)))) g))))))
def bM.j2(K:VK)(c d a:Nat):WK:=ai (ad c 0) 2 λe=>ai (ad d 0) 2 λf=>c9 e f (x2 λg h=>(xA 2 λi=>(xB λl=>mk [.u 0,.u 0] λb=>aH 2 (ad b 0) i (ai (ad b 0) 2 λj=>aH 2 (ad a 0) j (ai (ad a 0) 2 λk=>K (.agg ⟨k⟩)))) h) g)
def bM.j1(K:VK)(d e b c:Nat):WK:=ai (ad d 0) 2 λf=>ai (ad e 0) 2 λg=>bK f g (x2 λh i=>(xA 2 λj=>(xB λk=>mk [.u 0,.u 0] λa=>aH 2 (ad a 0) j (br (!k) (kx (xA 2 λl=>aH 2 (ad a 0) l (bM.j2 K b a c))) (bM.j2 K b a c))) i) h)
def bM(f:LV)(g:Bool)(K:VK):WK:=mk f λa=>mk [.u 0,.u 0] λe=>ai (ad a 4) 2 λh=>mk [.u 0,.u 0] λb=>aH 2 (ad b 0) h (ai (ad a 6) 2 λi=>mk [.u 0,.u 0] λc=>aH 2 (ad c 0) i (ai (ad a 8) 2 λj=>mk [.u 0,.u 0] λd=>aH 2 (ad d 0) j (br g (ai (ad a 8) 2 λk=>aH 2 (ad b 0) k (ai (ad a 2) 2 λl=>aH 2 (ad c 0) l (ai (ad a 4) 2 λm=>aH 2 (ad d 0) m (bM.j1 K c d b e)))) (bM.j1 K c d b e))))
def aP.j4(K:VK)(e:Bool)(c a d b:Nat):WK:=br e (ai (ad c 0) 2 λf=>aH 2 (ad a 2) f (ai (ad d 0) 2 λg=>aH 2 (ad a 4) g (ai (ad a 0) 14 λh=>aH 14 (ad b 0) h (ai (ad b 0) 14 λj=>K (.tuple ⟨[.agg ⟨j⟩,.i 0]⟩))))) (ai (ad c 0) 2 λk=>aH 2 (ad a 6) k (ai (ad d 0) 2 λl=>aH 2 (ad a 8) l (ai (ad a 0) 14 λm=>aH 14 (ad b 0) m (ai (ad b 0) 14 λn=>K (.tuple ⟨[.agg ⟨n⟩,.i 0]⟩)))))
def aP.j3(K:VK)(e:Bool)(b a:Nat)(g:Bool)(c f d:Nat)(h:Bool):WK:=br h (br e (ai (ad b 0) 14 λj=>aH 14 (ad a 0) j (ai (ad a 0) 14 λk=>K (.tuple ⟨[.agg ⟨k⟩,.i 33]⟩))) (ai (ad b 0) 14 λl=>aH 14 (ad a 0) l (ai (ad a 0) 14 λm=>K (.tuple ⟨[.agg ⟨m⟩,.i 34]⟩)))) (br g (ai (ad c 0) 2 λn=>ai (ad f 0) 2 λo=>bK n o (x2 λp q=>(xA 2 λr=>(xB λx=>aH 2 (ad c 0) r (aP.j4 K e c b d a)) q) p)) (ai (ad d 0) 2 λs=>ai (ad f 0) 2 λt=>bK s t (x2 λu v=>(xA 2 λw=>(xB λy=>aH 2 (ad d 0) w (aP.j4 K e c b d a)) v) u)))
def aP.j2(K:VK)(a b:Nat)(k:Int)(c:Nat)(d f:Bool)(g h:Nat)(l:Bool):WK:=br l (ai (ad a 0) 14 λm=>aH 14 (ad b 0) m (ai (ad b 0) 14 λn=>K (.tuple ⟨[.agg ⟨n⟩,.i 32]⟩))) (tick (lI (ad a 12) λe=>br ((bC .i64 .and e k)!=0) (ai (ad a 0) 14 λo=>ai (ad c 0) 2 λj=>bM o d (xA 2 λp=>kp (ad c 0) j (kp (ad a 12) [.i e] (fp p j (xB λq=>kp (ad a 12) [.i e] (aP.j3 K d a b f g c h q)))))) (aP.j3 K d a b f g c h false)))
def aP.j1(K:VK)(a b c d e:Nat)(f g:Bool)(h:Int):WK:=ai (ad a 0) 2 λj=>ai (ad b 0) 2 λk=>bK j k (x2 λl m=>(xA 2 λn=>(xB λo=>mk [.u 0,.u 0] λi=>aH 2 (ad i 0) n (ai (ad i 0) 2 λp=>ai (ad c 0) 2 λq=>bK p q (x2 λr s=>(xA 2 λt=>(xB λv=>mk [.u 0,.u 0] λw=>aH 2 (ad w 0) t (br (!o) (aP.j2 K d e h c f g a b true) (aP.j2 K d e h c f g a b (!v)))) s) r))) m) l)
def aP(h:LV)(d:Bool)(i:LV)(e:Bool)(K:VK):WK:=mk h λa=>mk i λf=>mk cK λg=>ai (ad a 6) 2 λj=>mk [.u 0,.u 0] λb=>aH 2 (ad b 0) j (ai (ad a 8) 2 λk=>mk [.u 0,.u 0] λc=>aH 2 (ad c 0) k (br d (ai (ad a 2) 2 λl=>aH 2 (ad b 0) l (ai (ad a 4) 2 λm=>aH 2 (ad c 0) m (aP.j1 K b c f a g d e 2))) (aP.j1 K b c f a g d e 4)))
def aM.j3(K:VK)(a h c j:Nat)(e:OA):WK:=ai (ad a 0) 16 λk=>aN k 2 (xB λd=>ai (ad h 0) 14 λl=>ai (ad c 0) 2 λm=>aP l true m d (x2 λn o=>(xA 14 λz=>(xI .i64 λf=>br (f !=0) (K (.i f)) (ai (ad j 0) 14 λp=>ai (ad c 0) 2 λq=>aP p false q d (x2 λr s=>(xA 14 λA=>(xI .i64 λg=>br (g !=0) (K (.i g)) (ai (ad a 0) 16 λt=>mk fj λb=>aH 16 (ad b 0) t (ai (ad c 0) 2 λu=>aH 2 (ad b 6) u (br d (ai (ad a 0) 16 λv=>ai (ad b 0) 16 λw=>dV e v w 1 (x0 (K (.i 0)))) (ai (ad a 0) 16 λx=>ai (ad b 0) 16 λy=>dV e x y 0 (x0 (K (.i 0)))))))) s) r))) o) n))
def aM.j2(K:VK)(b a c g d:Nat)(e:OA):WK:=ai (ad b 0) 16 λh=>aN h 32 (xB λj=>br j (tick (ai (ad a 0) 2 λf=>ai (ad c 0) 14 λk=>bM k false (xA 2 λl=>kp (ad a 0) f (ib f l (xA 2 λm=>aH 2 (ad a 0) m (ai (ad a 0) 2 λn=>ai (ad g 0) 2 λo=>nF [.u 0,.u 0] n o λp=>br p (K (.i 34)) (aM.j3 K b d a c e))))))) (aM.j3 K b d a c e))
def aM.j1(K:VK)(b a c d e:Nat)(f:OA):WK:=ai (ad b 0) 16 λh=>aN h 16 (xB λj=>br j (tick (ai (ad a 0) 2 λg=>ai (ad c 0) 14 λk=>bM k true (xA 2 λl=>kp (ad a 0) g (ib g l (xA 2 λm=>aH 2 (ad a 0) m (ai (ad a 0) 2 λn=>ai (ad d 0) 2 λo=>nF [.u 0,.u 0] n o λp=>br p (K (.i 33)) (aM.j2 K b a e d c f))))))) (aM.j2 K b a e d c f))
def aM(b:OA)(p:LV)(K:VK):WK:=mk p λa=>ai (ad a 0) 16 λq=>au q (xI .i64 λg=>br (g !=0) (K (.i g)) (ai (ad a 0) 16 λr=>dL r (xB λs=>br s (K (.i 6)) (ai (ad a 0) 2 λt=>dU b t (xI .i64 λh=>br (decide (h>=0)) (tick (ai (ad a 0) 16 λv=>nn b λj=>lL (j.add 1) λk m w=>fP k m h 33 λx=>ai x 16 λy=>ic v y (xI .i64 λz=>kp (j.add 1) [.l k m w] (K (.i z))))) (ai (ad a 2) 2 λA=>cI b A (xI .i64 λn=>ai (ad a 4) 2 λB=>cI b B (xI .i64 λo=>br (decide (n<0)) (K (.i 19)) (br (decide (o<0)) (K (.i 20)) (aa b n (xA 14 λC=>mk cK λc=>aH 14 (ad c 0) C (aa b o (xA 14 λD=>mk cK λd=>aH 14 (ad d 0) D (lI (ad c 10) λE=>lI (ad d 10) λF=>br (E !=F) (K (.i 21)) (lI (ad c 10) λG=>lI (ad a 11) λH=>br (G !=H) (K (.i 22)) (lI (ad c 12) λI=>br (decide (I>=8)) (K (.i 30)) (lI (ad d 12) λJ=>br (decide (J>=8)) (K (.i 31)) (nn b λM=>lL (M.add 1) λT O V=>br (decide ((O:Int)>=96)) (K (.i 35)) (a8 True (mk [.u 0,.u 0] λf=>a8 (2=2) (gp (ad f 0) [.u 0,.u 0] (ai (ad a 6) 2 λP=>mk [.u 0,.u 0] λe=>aH 2 (ad e 0) P (ai (ad e 0) 2 λQ=>ai (ad f 0) 2 λR=>nF [.u 0,.u 0] Q R λS=>br S (a8 (1=1/\(1=1/\True)) (a8 (2=2) (gp (ad e 0) [.u 18446744073709551615,.u 18446744073709551615] (aM.j1 K a e c f d b)))) (aM.j1 K a e c f d b))))))))))))))))))))))))
def fw.j1(K:VK)(a:Nat)(b:OA)(c:Bool):WK:=br c (ai (ad a 15) 16 λd=>af b d (xI .i64 λe=>K (.i e))) (ai (ad a 15) 16 λf=>aM b f (xI .i64 λg=>K (.i g)))
def fw(b:OA)(c:LV)(K:VK):WK:=mk c λa=>lT (ad a 0) λd=>br d (ai (ad a 1) 14 λe=>gL b e (xI .i64 λf=>K (.i f))) (ai (ad a 15) 16 λg=>au g (xI .i64 λh=>br (h==0) (ai (ad a 15) 16 λj=>dL j (xB λk=>fw.j1 K a b k)) (fw.j1 K a b false)))
def aW.j3(K:VK)(u:LI)(v:LM)(w x:OA)(y z:Nat)(A B:OA)(C D:Nat)(E:Int)(F:World)(H I:OA)(J M:Nat)(O P:OA)(Q R:Nat)(G S T V:Int)(W:OA):WK:=(lp [.p H,.l I J M,.p O,.l P Q R,.i G,.i S,.i T,.i V,.p W,.i G] λs t=>∀m c d e f g h j q a b n o k r,s [.p m,.l c d e,.p f,.l g h j,.i q,.i a,.i b,.i n,.p o,.i k] r->(br (decide (k<=a)) (br (decide (b<0)) (a8 (1=1/\True) (mk [.i 0] λX=>eW 1 8 [.i 0] g h j (some ⟨X,0,none⟩) 1 λY Z HX=>(ct s t [.p m,.l c d e,.p f,.l Y Z HX,.i q,.i a,.i b,.i n,.p o,.i (adU.wrap (k+1))] [.p m,.l c d e,.p f,.l g h j,.i q,.i a,.i b,.i n,.p o,.i k] r))) (br (k==b) (a8 (1=1/\True) (mk [.i n] λr2=>eW 1 8 [.i 0] g h j (some ⟨r2,0,none⟩) 1 λaam aai aak=>(ct s t [.p m,.l c d e,.p f,.l aam aai aak,.i q,.i a,.i b,.i n,.p o,.i (adU.wrap (k+1))] [.p m,.l c d e,.p f,.l g h j,.i q,.i a,.i b,.i n,.p o,.i k] r))) (a8 (1=1/\True) (mk [.i 1] λr3=>eW 1 8 [.i 0] g h j (some ⟨r3,0,none⟩) 1 λaal aah aaj=>(ct s t [.p m,.l c d e,.p f,.l aal aah aaj,.i q,.i a,.i b,.i n,.p o,.i (adU.wrap (k+1))] [.p m,.l c d e,.p f,.l g h j,.i q,.i a,.i b,.i n,.p o,.i k] r))))) (br (decide (b<0)) ((ct u v [.p o,.l c d e,.p f,.l g h j,.i (adU.wrap (a+1))] [.p w,.l x y z,.p A,.l B C D,.i E] F)) ((ct u v [.p m,.l c d e,.p f,.l g h j,.i (adU.wrap (a+1))] [.p w,.l x y z,.p A,.l B C D,.i E] F)))) r)
def aW.j4(K:VK)(v:OA)(w:Nat)(a:Int)(b:OA)(s:LI)(c d:OA)(e f:Nat)(g h:OA)(j k:Nat)(m n:Int)(t:LM)(o q:Int)(u:World)(x:LI)(y:LM)(z A:OA)(B C:Nat)(D E:OA)(F G:Nat)(H:Int)(I:World)(J:Bool):WK:=br J (fP v w a 31 λM=>ai M 31 λO=>fw b O (xI .i64 λr=>br (r !=0) ((ct s t [.p c,.l d e f,.p g,.l h j k,.i m,.i n,.i a,.i r,.p b,.i (adU.wrap (a+1))] [.p c,.l d e f,.p g,.l h j k,.i m,.i n,.i o,.i q,.p b,.i a] u)) ((ct s t [.p c,.l d e f,.p g,.l h j k,.i m,.i n,.i o,.i r,.p b,.i (adU.wrap (a+1))] [.p c,.l d e f,.p g,.l h j k,.i m,.i n,.i o,.i q,.p b,.i a] u)))) (aW.j3 K x y z A B C D E F G H I c d e f g h j k m n o q b)
def aW.j2(K:VK)(t M:OA)(O P:Nat)(Q R:OA)(S T:Nat)(u:Int)(v:OA)(w:Nat)(x:LI)(y:LM)(z A:OA)(B C:Nat)(D E:OA)(F G:Nat)(H:Int)(I:World)(V W X:Int):WK:=dW t (xP λY=>(lp [.p t,.l M O P,.p Q,.l R S T,.i u,.i V,.i W,.i X,.p Y,.i u] λe J=>∀f g h j k m n o q a b r s c d,e [.p f,.l g h j,.p k,.l m n o,.i q,.i a,.i b,.i r,.p s,.i c] d->(br (decide (c<=a)) (aW.j4 K v w c s e f g h j k m n o q a J b r d x y z A B C D E F G H I (decide (b<0))) (aW.j4 K v w c s e f g h j k m n o q a J b r d x y z A B C D E F G H I false)) d))
def aW.j1(K:VK)(a:Nat)(b:OA)(c:LI)(d:LM)(e f:OA)(g h:Nat)(i j:OA)(k l:Nat)(m:Int)(n:World)(o p:OA)(q r:Nat)(s t:OA)(u v:Nat)(w x:Int):WK:=br (x==(a:Int)) (aW.j2 K o p q r s t u v w b a c d e f g h i j k l m n (adU.wrap ((a:Int) -1)) (adU.wrap ((a:Int) -1)) 2) (aW.j2 K o p q r s t u v w b a c d e f g h i j k l m n x (-1) 0)
def aW(D y:OA)(c I:Nat)(K:VK):WK:=(lp [.p D,.l none 0 0,.p none,.l none 0 0,.i 0] λz B=>∀d t u v w e f g b x,z [.p d,.l t u v,.p w,.l e f g,.i b] x->(br (decide (b<(c:Int))) ((lp [.p d,.l t u v,.p w,.l e f g,.i b,.i b] λC E=>∀h j k m n o q r s a A,C [.p h,.l j k m,.p n,.l o q r,.i s,.i a] A->(br (decide (a<(c:Int))) (fP y c a 31 λF=>ai F 31 λG=>jv G (xB λH=>br H ((ct C E [.p h,.l j k m,.p n,.l o q r,.i s,.i (adU.wrap (a+1))] [.p h,.l j k m,.p n,.l o q r,.i s,.i a] A)) (aW.j1 K c y z B d t u v w e f g b x h j k m n o q r s a))) (aW.j1 K c y z B d t u v w e f g b x h j k m n o q r s a)) A)) (K (.tuple ⟨[.l e f g,.p d]⟩))) x)
def eK.j1(K:VK)(a b:OA)(c d:Nat):WK:=aW a b c d (x2 λe f=>(xL λg h j=>(xP λk=>K (.tuple ⟨[.l g h j,.i 0,.p k]⟩)) f) e)
def eK(b:OA)(d:LV)(K:VK):WK:=mk d λa=>ai (ad a 0) 13 λe=>bY e (xB λf=>br (!f) (K (.tuple ⟨[.l none 0 0,.i 1,.p b]⟩)) (lI (ad a 0) λg=>br (g==3) (dW b (xP λc=>lI (ad a 3) λh=>gJ c h (x0 (K (.tuple ⟨[.l none 0 0,.i 0,.p c]⟩))))) (lL (ad a 1) λj k m=>iy j k m (xL λn o q=>lI (ad a 0) λr=>br (r==2) (lL (ad a 2) λs t u=>gY s t u (xL λv w x=>eK.j1 K b v w x)) (eK.j1 K b n o q)))))
def ix(S:OA)(M T:Nat)(V:OA)(O W:Nat)(K:VK):WK:=(lp [.l none 0 0,.l none 0 0,.l V O W,.i (O:Int),.i 0] λP X=>∀D E F w x y z A G B t H,P [.l D E F,.l w x y,.l z A G,.i B,.i t] H->(br (decide (t<B)) (fP z A t 2 λY=>ai Y 2 λZ=>mk [.u 0,.u 0] λQ=>aH 2 (ad Q 0) Z ((lp [.l D E F,.l w x y,.p (some (ad Q 0)),.l z A G,.i B,.i t,.l S M T,.i (M:Int),.i 0] λI R=>∀b c d e f g h j k m n o q r v s a C,I [.l b c d,.l e f g,.p (some h),.l j k m,.i n,.i o,.l q r v,.i s,.i a] C->(br (decide (a<s)) (fP q r a 14 λa3=>ai a3 14 λOC=>mk cK λJ=>aH 14 (ad J 0) OC (ai (ad J 0) 2 λZn=>ai h 2 λVw=>nF [.u 0,.u 0] Zn Vw λb1=>br b1 (ai (ad J 0) 14 λRD=>Fh 14 RD λr3=>eW 14 112 cK e f g (some ⟨r3,0,none⟩) 1 λNk Ni HX=>(ct I R [.l b c d,.l Nk Ni HX,.p (some h),.l j k m,.i n,.i o,.l q r v,.i s,.i (adU.wrap (a+1))] [.l b c d,.l e f g,.p (some h),.l j k m,.i n,.i o,.l q r v,.i s,.i a] C)) ((ct I R [.l b c d,.l e f g,.p (some h),.l j k m,.i n,.i o,.l q r v,.i s,.i (adU.wrap (a+1))] [.l b c d,.l e f g,.p (some h),.l j k m,.i n,.i o,.l q r v,.i s,.i a] C)))) ((ct P X [.l b c d,.l e f g,.l j k m,.i n,.i (adU.wrap (o+1))] [.l D E F,.l w x y,.l z A G,.i B,.i t] H))) C))) (K (.l w x y))) H)
def gX(S:OA)(M T:Nat)(V:OA)(O W:Nat)(K:VK):WK:=(lp [.l none 0 0,.l none 0 0,.l V O W,.i (O:Int),.i 0] λP X=>∀D E F w x y z A G B t H,P [.l D E F,.l w x y,.l z A G,.i B,.i t] H->(br (decide (t<B)) (fP z A t 2 λY=>ai Y 2 λZ=>mk [.u 0,.u 0] λQ=>aH 2 (ad Q 0) Z ((lp [.l D E F,.l w x y,.p (some (ad Q 0)),.l z A G,.i B,.i t,.l S M T,.i (M:Int),.i 0] λI R=>∀b c d e f g h j k m n o q r v s a C,I [.l b c d,.l e f g,.p (some h),.l j k m,.i n,.i o,.l q r v,.i s,.i a] C->(br (decide (a<s)) (fP q r a 33 λa3=>ai a3 33 λOC=>mk bg λJ=>aH 33 (ad J 0) OC (ai (ad J 16) 2 λZn=>ai h 2 λVw=>nF [.u 0,.u 0] Zn Vw λb1=>br b1 (ai (ad J 16) 16 λRD=>Fh 16 RD λr3=>eW 16 128 fj e f g (some ⟨r3,0,none⟩) 1 λNk Ni HX=>(ct I R [.l b c d,.l Nk Ni HX,.p (some h),.l j k m,.i n,.i o,.l q r v,.i s,.i (adU.wrap (a+1))] [.l b c d,.l e f g,.p (some h),.l j k m,.i n,.i o,.l q r v,.i s,.i a] C)) ((ct I R [.l b c d,.l e f g,.p (some h),.l j k m,.i n,.i o,.l q r v,.i s,.i (adU.wrap (a+1))] [.l b c d,.l e f g,.p (some h),.l j k m,.i n,.i o,.l q r v,.i s,.i a] C)))) ((ct P X [.l b c d,.l e f g,.l j k m,.i n,.i (adU.wrap (o+1))] [.l D E F,.l w x y,.l z A G,.i B,.i t] H))) C))) (K (.l w x y))) H)
def aL.j3(K:VK)(o:Nat)(a:OA)(b c:Nat)(k:LI)(d:Addr)(e:OA)(f g:Nat)(h j:Int)(m:LM)(n:World)(q:Bool):WK:=br q (ai (ad o 0) 16 λr=>Fh 16 r λs=>eW 16 128 fj a b c (some ⟨s,0,none⟩) 1 λt u v=>(ct k m [.p (some d),.l e f g,.l t u v,.i h,.i (adU.wrap (j+1))] [.p (some d),.l e f g,.l a b c,.i h,.i j] n)) ((ct k m [.p (some d),.l e f g,.l a b c,.i h,.i (adU.wrap (j+1))] [.p (some d),.l e f g,.l a b c,.i h,.i j] n))
def aL.j4(K:VK)(b:Nat)(c:OA)(d e:Nat)(f:LI)(a:Addr)(g:OA)(h i:Nat)(j k:Int)(l:LM)(m:World)(n:Bool):WK:=br n (aL.j3 K b c d e f a g h i j k l m true) (lT (a.add 5) λo=>br o (ai (ad b 4) 2 λp=>ai a 2 λq=>nF [.u 0,.u 0] p q λr=>aL.j3 K b c d e f a g h i j k l m r) (aL.j3 K b c d e f a g h i j k l m false))
def aL.j2(K:VK)(k:LI)(a:Addr)(b:OA)(c d:Nat)(e:OA)(f g:Nat)(h j:Int)(m:LM)(n:World)(o:Nat)(q:Bool):WK:=br q ((ct k m [.p (some a),.l b c d,.l e f g,.i h,.i (adU.wrap (j+1))] [.p (some a),.l b c d,.l e f g,.i h,.i j] n)) (lT (a.add 4) λr=>br r (ai (ad o 2) 2 λs=>ai a 2 λt=>nF [.u 0,.u 0] s t λv=>aL.j4 K o e f g k a b c d h j m n v) (aL.j4 K o e f g k a b c d h j m n false))
def aL.j5(K:VK)(c:LI)(a:Addr)(d:OA)(e f:Nat)(g:OA)(b h:Nat)(i j:Int)(k:LM)(l:World)(m:Nat)(n:Bool):WK:=br n (aL.j2 K c a d e f g b h i j k l m true) (lI (a.add 7) λo=>aL.j2 K c a d e f g b h i j k l m (decide ((b:Int)>=o)))
def aL.j1(K:VK)(n:Nat)(a:Addr)(c:LI)(d:OA)(e f:Nat)(g:OA)(h i:Nat)(j k:Int)(l:LM)(m:World):WK:=ai (ad n 16) 16 λo=>mk fj λb=>aH 16 (ad b 0) o (lI (ad b 14) λp=>lI (a.add 2) λq=>br (decide (p<q)) (aL.j2 K c a d e f g h i j k l m b true) (lI (a.add 3) λr=>br (r !=0) (lI (ad b 14) λs=>lI (a.add 3) λt=>aL.j5 K c a d e f g h i j k l m b (decide (s>t))) (aL.j5 K c a d e f g h i j k l m b false)))
def aL(q:OA)(b z:Nat)(s:LV)(K:VK):WK:=mk s λt=>(lp [.p (some (ad t 0)),.l none 0 0,.l none 0 0,.i (b:Int),.i 0] λk r=>∀c m n o d e f g a h,k [.p (some c),.l m n o,.l d e f,.i g,.i a] h->(br (decide (a<g)) (fP q b a 33 λu=>ai u 33 λv=>mk bg λj=>aH 33 (ad j 0) v (lT (c.add 6) λw=>br w (fP q b (adU.wrap ((adU.wrap ((b:Int) -1)) -a)) 33 λx=>ai x 33 λy=>aH 33 (ad j 0) y (aL.j1 K j c k m n o d e f g a r h)) (aL.j1 K j c k m n o d e f g a r h))) (K (.l d e f))) h)
def jZ(e:OA)(f g:Nat)(b:OA)(c d:Nat)(h:LV)(K:VK):WK:=mk h λa=>ai (ad a 0) 13 λj=>az j (xB λk=>br (!k) (K (.tuple ⟨[.l none 0 0,.l none 0 0,.i 1]⟩)) (lI (ad a 0) λm=>br (m==4) (lL (ad a 4) λn o p=>ix e f g n o p (xL λq r s=>K (.tuple ⟨[.l q r s,.l none 0 0,.i 0]⟩))) (lI (ad a 0) λt=>br (t==5) (lL (ad a 4) λu v w=>gX b c d u v w (xL λx y z=>K (.tuple ⟨[.l none 0 0,.l x y z,.i 0]⟩))) (ai (ad a 5) 8 λA=>aL b c d A (xL λB C D=>K (.tuple ⟨[.l none 0 0,.l B C D,.i 0]⟩))))))
def dS(k:OA)(K:VK):WK:=nn k λn=>lL n λv o w=>(lp [.l none 0 0,.l none 0 0,.i (o:Int),.i 0] λm p=>∀f g h b c d e a j,m [.l f g h,.l b c d,.i e,.i a] j->(br (decide (a<e)) (aa k a (xA 14 λq=>Fh 14 q λr=>eW 14 112 cK b c d (some ⟨r,0,none⟩) 1 λs t u=>(ct m p [.l f g h,.l s t u,.i e,.i (adU.wrap (a+1))] [.l f g h,.l b c d,.i e,.i a] j))) (K (.l b c d))) j)
def eG.j1(K:VK)(j:Nat)(n o:OA)(p k:Nat)(q r:OA)(s:Nat)(t:Bool):WK:=br t (K (.bool false)) ((lp [.bool false,.i (j:Int),.i 0] λl u=>∀c d a f,l [.bool c,.i d,.i a] f->(br (decide (a<d)) (tick (fP n j a 14 λv=>ai v 14 λw=>fP o p a 14 λx=>ai x 14 λy=>nF cK w y λz=>br (!z) (K (.bool false)) ((ct l u [.bool c,.i d,.i (adU.wrap (a+1))] [.bool c,.i d,.i a] f)))) ((lp [.bool c,.i (k:Int),.i 0] λm A=>∀g e b h,m [.bool g,.i e,.i b] h->(br (decide (b<e)) (tick (fP q k b 16 λB=>ai B 16 λC=>fP r s b 16 λD=>ai D 16 λE=>nF fj C E λF=>br (!F) (K (.bool false)) ((ct m A [.bool g,.i e,.i (adU.wrap (b+1))] [.bool g,.i e,.i b] h)))) (K (.bool true))) h))) f))
def eG(e:OA)(a i:Nat)(f:OA)(b j:Nat)(g:OA)(c k:Nat)(h:OA)(d l:Nat)(K:VK):WK:=br ((a:Int)!=(b:Int)) (eG.j1 K a e f b c g h d true) (eG.j1 K a e f b c g h d ((c:Int)!=(d:Int)))
def kv(h:OA)(c p:Nat)(j:OA)(f q:Nat)(K:VK):WK:=br ((c:Int)!=(f:Int)) (K (.bool false)) ((lp [.bool false,.i (c:Int),.i 0] λg k=>∀d b a e,g [.bool d,.i b,.i a] e->(br (decide (a<b)) (tick (fP h c a 1 λl=>lI l λm=>fP j f a 1 λn=>lI n λo=>br (m !=o) (K (.bool false)) ((ct g k [.bool d,.i b,.i (adU.wrap (a+1))] [.bool d,.i b,.i a] e)))) (K (.bool true))) e))
def bu.j1(K:VK)(j:Nat)(k o:OA)(l:Nat)(p:OA)(q:Bool):WK:=br q (K (.bool false)) ((lp [.bool false,.i (j:Int),.i 0] λm r=>∀c d a f,m [.bool c,.i d,.i a] f->(br (decide (a<d)) (tick (nn k λs=>lL s λt u J=>fP t u a 14 λv=>ai v 14 λw=>fP o j a 14 λx=>ai x 14 λy=>nF cK w y λz=>br (!z) (K (.bool false)) ((ct m r [.bool c,.i d,.i (adU.wrap (a+1))] [.bool c,.i d,.i a] f)))) ((lp [.bool c,.i (l:Int),.i 0] λn A=>∀g e b h,n [.bool g,.i e,.i b] h->(br (decide (b<e)) (tick (nn k λB=>lL (B.add 1) λC D M=>fP C D b 33 λE=>ai E 33 λF=>fP p l b 33 λG=>ai G 33 λH=>nF bg F H λI=>br (!I) (K (.bool false)) ((ct n A [.bool g,.i e,.i (adU.wrap (b+1))] [.bool g,.i e,.i b] h)))) (K (.bool true))) h))) f))
def bu.j3(K:VK)(b:Nat)(a c:OA)(d:Nat)(e:OA)(f:Int)(g:Bool):WK:=br g (bu.j1 K b a c d e true) (nn a λh=>lI (h.add 3) λi=>bu.j1 K b a c d e (i !=f))
def bu.j2(K:VK)(b:Nat)(a c:OA)(d:Nat)(e:OA)(f g:Int)(h:Bool):WK:=br h (bu.j3 K b a c d e f true) (nn a λi=>lI (i.add 2) λj=>bu.j3 K b a c d e f (j !=g))
def bu(a d:OA)(b l:Nat)(e:OA)(c m:Nat)(f g:Int)(K:VK):WK:=nn a λh=>lL h λn i o=>br ((i:Int)!=(b:Int)) (bu.j2 K b a d c e g f true) (nn a λj=>lL (j.add 1) λp k q=>bu.j2 K b a d c e g f ((k:Int)!=(c:Int)))
def gK(a k:OA)(m n:Nat)(o:OA)(p q:Nat)(r s:Int)(K:VK):WK:=tick (nn a λb=>lL (b.add 1) λc d e=>nn a λf=>lI (f.add 2) λg=>nn a λh=>lI (h.add 3) λj=>dS a (xL λt u v=>kp (h.add 3) [.i j] (kp (f.add 2) [.i g] (kp (b.add 1) [.l c d e] (a8 (1=1/\(1=1/\(1=1/\(1=1/\True)))) (mk [.l t u v,.l c d e,.i g,.i j] λw=>kp (h.add 3) [.i j] (kp (f.add 2) [.i g] (kp (b.add 1) [.l c d e] (bu (some (ad w 0)) k m n o p q r s (xB λx=>K (.bool x)))))))))))
def sf(b:OA)(f:LV)(K:VK):WK:=mk f λc=>mk Fj λa=>br (b.isNone) (a8 (1=1/\True) (a8 (4=4) (gp (ad a 0) [.i 2,.l none 0 0,.l none 0 0,.l none 0 0] (ai (ad a 0) 4 λg=>K (.agg ⟨g⟩))))) (ai (ad c 0) 13 λh=>pA h (xB λj=>br (!j) (a8 (1=1/\True) (a8 (4=4) (gp (ad a 0) [.i 1,.l none 0 0,.l none 0 0,.l none 0 0] (ai (ad a 0) 4 λk=>K (.agg ⟨k⟩))))) (mk Fj λd=>lI (ad c 0) λe=>br (e==1) (lL (ad c 1) λm n o=>nY b m n o (xL λp q r=>st (ad d 1) (.l p q r) (iw b (x0 (ai (ad d 0) 4 λs=>aH 4 (ad a 0) s (ai (ad a 0) 4 λt=>K (.agg ⟨t⟩))))))) (br (e==2) (lL (ad c 2) λu v w=>m9 b u v w (xL λx y z=>st (ad d 1) (.l x y z) (iw b (x0 (ai (ad d 0) 4 λA=>aH 4 (ad a 0) A (ai (ad a 0) 4 λB=>K (.agg ⟨B⟩))))))) (lI (ad c 3) λC=>qd b C (xI .i64 λF=>iw b (x0 (ai (ad d 0) 4 λD=>aH 4 (ad a 0) D (ai (ad a 0) 4 λE=>K (.agg ⟨E⟩))))))))))
def eP.j1(K:VK)(k:Nat)(a:OA)(m:LI)(b:OA)(c:Int)(d:Addr)(e:OA)(f g:Nat)(h j:Int)(n:LM)(o:World)(q:Bool):WK:=br q (K (.tuple ⟨[.p none,.i 4]⟩)) (ai (ad k 0) 13 λr=>sf a r (xA 4 λs=>(ct m n [.p b,.i c,.p a,.p (some d),.l e f g,.i h,.i (adU.wrap (j+1))] [.p b,.i c,.p a,.p (some d),.l e f g,.i h,.i j] o)))
def eP(a:OA)(K:VK):WK:=br (a.isNone) (K (.tuple ⟨[.p none,.i 2]⟩)) (dw a (xI .i64 λz=>pQ z (x2 λA B=>(xA 5 λC=>(xI .i64 λs=>mk zi5 λb=>aH 5 (ad b 0) C (br (s !=0) (K (.tuple ⟨[.p none,.i s]⟩)) (ai (ad b 0) 5 λD=>sy a D (x3 λE F G=>(xP λt=>(xA 4 λH=>(xI .i64 λu=>mk zi4 λk=>aH 4 (ad k 0) H (br (u !=0) (K (.tuple ⟨[.p none,.i u]⟩)) (lI (ad b 3) λI=>lI (ad b 4) λJ=>lI (ad k 3) λM=>gT a I J M (x3 λO P Q=>(xP λR=>(xL λS v T=>(xI .i64 λw=>br (w !=0) (K (.tuple ⟨[.p none,.i w]⟩)) (ai (ad b 0) 5 λx=>lI (ad k 0) λV=>a8 (1=1/\(x.length=5/\(1=1/\(1=1/\(1=1/\True))))) (mk (([.p a]:LV)++(x++([.p t,.p R,.i V,.bool false]:LV))) λW=>(lp [.p none,.i 0,.p t,.p (some (ad W 0)),.l S v T,.i (v:Int),.i 0] λm y=>∀n o q d e f r g c h,m [.p n,.i o,.p q,.p (some d),.l e f r,.i g,.i c] h->(br (decide (c<g)) (fP e f c 1 λX=>lS X λY=>iZ Y (x2 λZ v10=>(xA 13 λRD=>(xI .i64 λSH=>mk lM λj=>aH 13 (ad j 0) RD (br (SH !=0) (eP.j1 K j q m n o d e f r g c y h true) (ai (ad j 0) 13 λZl=>mX Zl (xB λb2=>eP.j1 K j q m n o d e f r g c y h (!b2))))) v10) Z)) (K (.tuple ⟨[.p (some d),.i 0]⟩))) h)))) Q) P) O)))) G) F) E)))) B) A)))
def dM(b:OA)(f:LV)(K:VK):WK:=mk f λc=>mk Fj λa=>br (b.isNone) (a8 (1=1/\True) (a8 (4=4) (gp (ad a 0) [.i 2,.l none 0 0,.l none 0 0,.l none 0 0] (ai (ad a 0) 4 λg=>K (.agg ⟨g⟩))))) (ai (ad c 0) 13 λh=>mX h (xB λj=>br (!j) (tick (nn b λk=>lP (k.add 6) λm=>ai (ad c 0) 13 λn=>EV m n (xA 4 λo=>aH 4 (ad a 0) o (ai (ad a 0) 4 λp=>K (.agg ⟨p⟩))))) (ai (ad c 0) 13 λq=>su q (x2 λr s=>(xS λt=>(xI .i64 λd=>br (d !=0) (a8 (1=1/\True) (a8 (4=4) (gp (ad a 0) [.i d,.l none 0 0,.l none 0 0,.l none 0 0] (ai (ad a 0) 4 λu=>K (.agg ⟨u⟩))))) (nn b λv=>lT (v.add 9) λw=>br w (a8 (1=1/\True) (a8 (4=4) (gp (ad a 0) [.i 9,.l none 0 0,.l none 0 0,.l none 0 0] (ai (ad a 0) 4 λx=>K (.agg ⟨x⟩))))) (fH b t (xI .i64 λe=>br (e !=0) (a8 (1=1/\True) (a8 (4=4) (gp (ad a 0) [.i e,.l none 0 0,.l none 0 0,.l none 0 0] (ai (ad a 0) 4 λy=>K (.agg ⟨y⟩))))) (tick (nn b λz=>lP (z.add 6) λA=>ai (ad c 0) 13 λB=>sf A B (xA 4 λC=>aH 4 (ad a 0) C (ai (ad a 0) 4 λD=>K (.agg ⟨D⟩))))))))) s) r))))
def cB.j1(K:VK)(a:OA)(b:Bool):WK:=br b (jL a (xP λc=>iv c (xI .i64 λd=>br (d==5) (jC a (xI .i64 λe=>K (.bool (e==1)))) (K (.bool false))))) (K (.bool false))
def cB(K:VK):WK:=jS 20 (xP λa=>eP a (x2 λd e=>(xP λf=>(xI .i64 λg=>br (g !=0) (K (.bool false)) (a8 (1=1/\(1=1/\True)) (dM f [.i 3,.l none 0 0,.l none 0 0,.i 5,.l none 0 0,.u 0,.u 0,.i 0,.i 0,.bool false,.bool false,.bool false,.i 0] (xA 4 λh=>mk Fj λb=>aH 4 (ad b 0) h (eP a (x2 λj k=>(xP λc=>(xI .i64 λm=>lI (ad b 0) λn=>br (n==0) (cB.j1 K c (m==0)) (cB.j1 K c false)) k) j)))))) e) d))
def eV(n:OA)(g o:Nat)(K:VK):WK:=(lp [.bool false,.i 0,.l n g o,.i (g:Int),.i 0] λm p=>∀h b c d j e a k,m [.bool h,.i b,.l c d j,.i e,.i a] k->(br (decide (a<e)) (fP c d a 18 λq=>ai q 18 λr=>mk jH λf=>aH 18 (ad f 0) r (lL (ad f 2) λv s w=>lL (ad f 3) λx t y=>lL (ad f 5) λz u A=>br (decide ((u:Int)>100)) (K (.bool true)) ((ct m p [.bool h,.i (adU.wrap (b+(adU.wrap ((s:Int)+(t:Int))))),.l c d j,.i e,.i (adU.wrap (a+1))] [.bool h,.i b,.l c d j,.i e,.i a] k)))) (br (decide ((g:Int)>60)) (K (.bool true)) (K (.bool (decide (b>150)))))) k)
def av.j1(K:VK)(a:OA)(b:Bool):WK:=K (.tuple ⟨[.bool b,.p a]⟩)
def av.j2(K:VK)(b:Nat)(a:OA)(c:Bool):WK:=br c (lL (ad b 1) λe d f=>av.j1 K a ((d:Int)==0)) (av.j1 K a false)
def av.j3(K:VK)(a:OA)(b:Bool):WK:=K (.tuple ⟨[.bool b,.p a]⟩)
def av.j4(K:VK)(a:OA)(b:Bool):WK:=K (.tuple ⟨[.bool b,.p a]⟩)
def av.j5(K:VK)(a:Nat)(b:OA)(c:Bool):WK:=br c (lL (ad a 1) λg d h=>lL (ad a 2) λi e j=>lL (ad a 3) λk f l=>K (.tuple ⟨[.bool ((adU.wrap ((adU.wrap ((d:Int)+(e:Int)))+(f:Int)))==0),.p b]⟩)) (K (.tuple ⟨[.bool false,.p b]⟩))
def av.j6(K:VK)(a:Nat)(b:OA)(c:Bool):WK:=br c (av.j5 K a b true) (lI (ad a 0) λd=>br (d==6) (av.j5 K a b true) (lI (ad a 0) λe=>av.j5 K a b (e==3)))
def av(j:LV)(b:OA)(k:LV)(K:VK):WK:=mk j λa=>mk k λc=>ai (ad c 0) 13 λm=>eH m (xB λn=>br (!n) (tick (nn b λd=>lL (d.add 1) λe f g=>ai (ad c 0) 13 λh=>dS b (xL λo p q=>kp (ad c 0) h (kp (d.add 1) [.l e f g] (jZ o p q e f g h (x3 λr s t=>(xL λu v w=>(xL λx y z=>(xI .i64 λA=>lI (ad a 0) λB=>br (B==A) (lL (ad a 2) λC D E=>lL (ad a 3) λF G H=>eG C D E u v w F G H x y z (xB λI=>av.j2 K a b I)) (av.j2 K a b false)) t) s) r)))))) (ai (ad c 0) 13 λJ=>de J (xB λM=>br (!M) (lI (ad a 0) λO=>br (O==1) (lL (ad a 1) λsb8 P sc8=>av.j3 K b ((P:Int)==0)) (av.j3 K b false)) (ai (ad c 0) 13 λQ=>eK b Q (x3 λR S T=>(xL λV W X=>(xI .i64 λY=>(xP λi=>lI (ad a 0) λZ=>br (Z==0) (br (Y==0) (lL (ad a 1) λNk Ni HX=>kv Nk Ni HX V W X (xB λb8=>av.j4 K i b8)) (av.j4 K i false)) (lI (ad a 0) λn6=>br (n6==8) (av.j6 K a b true) (lI (ad a 0) λn9=>av.j6 K a b (n9==9)))) T) S) R)))))
def cO(b c:OA)(K:VK):WK:=jL b (xP λa=>fR a (xL λd e f=>iu a (xL λg h i=>iv a (xI .i64 λj=>jX a (xI .i64 λk=>gK c d e f g h i j k (xB λl=>K (.bool l)))))))
def bP.j1(K:VK)(B C:Int)(D:OA)(y E:Nat)(F:Bool):WK:=br F (K (.bool true)) (jS B (xP λG=>eP G (x2 λH I=>(xP λJ=>(xI .i64 λn3=>a8 True (mk I9 λM=>(lp [.bool false,.p J,.p (some (ad M 0)),.i C,.i 0] λz O=>∀v m n q r w,z [.bool v,.p m,.p n,.i q,.i r] w->(br (decide (r<q)) ((lp [.bool v,.p m,.p n,.i q,.i r,.l D y E,.i (y:Int),.i 0] λs x=>∀c a j d e f g k h b o,s [.bool c,.p a,.p j,.i d,.i e,.l f g k,.i h,.i b] o->(br (decide (b<h)) (fP f g b 18 λP=>ai P 18 λQ=>mk jH λt=>aH 18 (ad t 0) Q (lI (ad t 0) λR=>br (R !=0) ((ct s x [.bool c,.p a,.p j,.i d,.i e,.l f g k,.i h,.i (adU.wrap (b+1))] [.bool c,.p a,.p j,.i d,.i e,.l f g k,.i h,.i b] o)) (ai (ad t 1) 13 λS=>dM a S (xA 4 λT=>mk Fj λu=>aH 4 (ad u 0) T (ai (ad u 0) 4 λV=>ai (ad t 1) 13 λW=>av V j W (x2 λX Y=>(xB λZ=>(xP λA=>br (!Z) (K (.bool false)) (lI (ad u 0) λWh=>br (Wh !=0) (lI (ad u 0) λSH=>br (SH !=1) (K (.bool false)) ((ct s x [.bool c,.p a,.p A,.i d,.i e,.l f g k,.i h,.i (adU.wrap (b+1))] [.bool c,.p a,.p j,.i d,.i e,.l f g k,.i h,.i b] o))) ((ct s x [.bool c,.p a,.p A,.i d,.i e,.l f g k,.i h,.i (adU.wrap (b+1))] [.bool c,.p a,.p j,.i d,.i e,.l f g k,.i h,.i b] o)))) Y) X)))))) ((ct z O [.bool c,.p a,.p j,.i d,.i (adU.wrap (e+1))] [.bool v,.p m,.p n,.i q,.i r] w))) o)) (cO m n (xB λb6=>br b6 (cD m (xI .i64 λMk=>br (Mk==0) (cO m n (xB λb7=>K (.bool b7))) (K (.bool false)))) (K (.bool false))))) w))) I) H)))
def bP.j3(K:VK)(b a:Int)(c:OA)(d e:Nat)(f:Bool):WK:=br f (bP.j1 K b a c d e true) (br (decide (a<1)) (bP.j1 K b a c d e true) (bP.j1 K b a c d e (decide (a>3))))
def bP.j2(K:VK)(a b:Int)(c:OA)(d e:Nat)(f:Bool):WK:=br f (bP.j3 K a b c d e true) (bP.j3 K a b c d e (decide (a>700)))
def bP(a:Int)(b:OA)(c d:Nat)(e:Int)(K:VK):WK:=cB (xB λf=>br (!f) (K (.bool false)) (eV b c d (xB λg=>br g (bP.j2 K a e b c d true) (bP.j2 K a e b c d (decide (a<600))))))
def aR.j3(K:VK)(b a:OA)(h:LI)(c:Bool)(d:OA)(e f g:Int)(j:LM)(k:OA)(l:World)(m:Bool):WK:=br m (K (.bool false)) (cO b a (xB λn=>br (!n) (K (.bool false)) ((ct h j [.bool c,.p d,.p b,.p a,.i e,.i f,.i (adU.wrap (g+1))] [.bool c,.p d,.p k,.p a,.i e,.i f,.i g] l))))
def aR.j2(K:VK)(a c:OA)(d:LI)(e:Bool)(f:OA)(g b h:Int)(i:LM)(j:OA)(k:World)(l:Bool):WK:=br l (aR.j3 K a c d e f g b h i j k true) (jC a (xI .i64 λm=>aR.j3 K a c d e f g b h i j k (m !=b)))
def aR.j1(K:VK)(E:Int)(F:OA)(z G:Nat)(H:Int)(I:Bool):WK:=br I (K (.bool true)) (jS E (xP λA=>eP A (x2 λJ M=>(xP λO=>(xI .i64 λn3=>a8 True (mk I9 λP=>(lp [.bool false,.p A,.p O,.p (some (ad P 0)),.l F z G,.i (z:Int),.i 0] λu B=>∀c d a e f g j h b o,u [.bool c,.p d,.p a,.p e,.l f g j,.i h,.i b] o->(br (decide (b<h)) (fP f g b 18 λQ=>ai Q 18 λR=>mk jH λk=>aH 18 (ad k 0) R (lI (ad k 0) λS=>br (S==0) (tick (ai (ad k 1) 13 λT=>ai (ad k 1) 13 λC=>dM a T (xA 4 λV=>kp (ad k 1) C (av V e C (x2 λW X=>(xB λb4=>(xP λY=>(ct u B [.bool c,.p d,.p a,.p Y,.l f g j,.i h,.i (adU.wrap (b+1))] [.bool c,.p d,.p a,.p e,.l f g j,.i h,.i b] o)) X) W))))) ((ct u B [.bool c,.p d,.p a,.p e,.l f g j,.i h,.i (adU.wrap (b+1))] [.bool c,.p d,.p a,.p e,.l f g j,.i h,.i b] o)))) (gM a (xI .i64 λZ=>jC a (xI .i64 λn8=>(lp [.bool c,.p d,.p a,.p e,.i Z,.i n8,.i 1] λv D=>∀w q m r s x n t,v [.bool w,.p q,.p m,.p r,.i s,.i x,.i n] t->(br (decide (n<=H)) (cD m (xI .i64 λSH=>br (SH !=0) (K (.bool false)) (eP q (x2 λv5 v6=>(xP λy=>(xI .i64 λMk=>br (Mk !=0) (aR.j2 K y r v w q s x n D m t true) (gM y (xI .i64 λWf=>aR.j2 K y r v w q s x n D m t (Wf !=(adU.wrap (s+n)))))) v6) v5)))) (cO m r (xB λb9=>K (.bool b9)))) t))))) o))) M) J)))
def aR.j5(K:VK)(b:Int)(c:OA)(d e:Nat)(a:Int)(f:Bool):WK:=br f (aR.j1 K b c d e a true) (br (decide (a<0)) (aR.j1 K b c d e a true) (aR.j1 K b c d e a (decide (a>5))))
def aR.j4(K:VK)(a:Int)(b:OA)(c d:Nat)(e:Int)(f:Bool):WK:=br f (aR.j5 K a b c d e true) (aR.j5 K a b c d e (decide (a>700)))
def aR(a:Int)(b:OA)(c d:Nat)(e:Int)(K:VK):WK:=cB (xB λf=>br (!f) (K (.bool false)) (eV b c d (xB λg=>br g (aR.j4 K a b c d e true) (aR.j4 K a b c d e (decide (a<600))))))
def aU.j2(K:VK)(q:Nat)(m:LI)(a:Bool)(b c d:OA)(e:Int)(f:OA)(g h:Nat)(j k:Int)(n:LM)(o:World)(r:Bool):WK:=br r (lI (ad q 0) λs=>br (s !=9) (K (.bool false)) ((ct m n [.bool a,.p b,.p c,.p d,.i e,.l f g h,.i j,.i (adU.wrap (k+1))] [.bool a,.p b,.p c,.p d,.i e,.l f g h,.i j,.i k] o))) ((ct m n [.bool a,.p b,.p c,.p d,.i e,.l f g h,.i j,.i (adU.wrap (k+1))] [.bool a,.p b,.p c,.p d,.i e,.l f g h,.i j,.i k] o))
def aU.j1(K:VK)(M O:Int)(P:OA)(F Q:Nat)(R:OA)(G S:Nat)(T:Bool):WK:=br T (K (.bool true)) (jS M (xP λA=>eP A (x2 λV W=>(xP λX=>(xI .i64 λn3=>a8 True (mk I9 λY=>jd A O (x0 ((lp [.bool false,.p A,.p X,.p (some (ad Y 0)),.l P F Q,.i (F:Int),.i 0] λs B=>∀d b a e f g k h c n,s [.bool d,.p b,.p a,.p e,.l f g k,.i h,.i c] n->(br (decide (c<h)) (fP f g c 18 λZ=>ai Z 18 λcs1=>mk jH λo=>aH 18 (ad o 0) cs1 (lI (ad o 0) λH=>br (H==0) (tick (ai (ad o 1) 13 λOC=>ai (ad o 1) 13 λI=>dM a OC (xA 4 λVw=>kp (ad o 1) I (av Vw e I (x2 λv3 v4=>(xB λb4=>(xP λp6=>(ct s B [.bool d,.p b,.p a,.p p6,.l f g k,.i h,.i (adU.wrap (c+1))] [.bool d,.p b,.p a,.p e,.l f g k,.i h,.i c] n)) v4) v3))))) (br (H==1) (cD a (xI .i64 λn7=>(ct s B [.bool d,.p b,.p a,.p e,.l f g k,.i h,.i (adU.wrap (c+1))] [.bool d,.p b,.p a,.p e,.l f g k,.i h,.i c] n))) ((ct s B [.bool d,.p b,.p a,.p e,.l f g k,.i h,.i (adU.wrap (c+1))] [.bool d,.p b,.p a,.p e,.l f g k,.i h,.i c] n))))) (fM a (xB λb5=>br (!b5) (K (.bool true)) (oG b (xI .i64 λn8=>(lp [.bool d,.p b,.p a,.p e,.i n8,.l R G S,.i (G:Int),.i 0] λC J=>∀D t m q u v w E x r y,C [.bool D,.p t,.p m,.p q,.i u,.l v w E,.i x,.i r] y->(br (decide (r<x)) (fP v w r 13 λa2=>ai a2 13 λRD=>mk lM λj=>aH 13 (ad j 0) RD (lL (ad j 1) λsb5 ZG ZH=>lL (ad j 2) λZI W3 V9=>lL (ad j 4) λsb7 ZF sc7=>br (decide ((adU.wrap ((adU.wrap ((ZG:Int)+(W3:Int)))+(ZF:Int)))>100)) (K (.bool true)) (ai (ad j 0) 13 λZm=>dM m Zm (xA 4 λcs7=>mk Fj λz=>aH 4 (ad z 0) cs7 (ai (ad z 0) 4 λZl=>ai (ad j 0) 13 λcs9=>av Zl q cs9 (x2 λv5 v6=>(xB λb7=>(xP λp10=>br (!b7) (K (.bool false)) (ai (ad j 0) 13 λac0=>eH ac0 (xB λb8=>br b8 (ai (ad j 0) 13 λacZ=>de acZ (xB λb10=>aU.j2 K z C D t m q u v w E x r J y b10)) (aU.j2 K z C D t m q u v w E x r J y false)))) v6) v5)))))) (cD m (xI .i64 λMk=>br (Mk==9) (oG t (xI .i64 λWg=>br (Wg==u) (cO m q (xB λb11=>K (.bool b11))) (K (.bool false)))) (K (.bool false))))) y)))))) n))))) W) V)))
def aU.j5(K:VK)(b a:Int)(c:OA)(d e:Nat)(f:OA)(g h:Nat)(i:Bool):WK:=br i (aU.j1 K b a c d e f g h true) (br (decide (a<1)) (aU.j1 K b a c d e f g h true) (aU.j1 K b a c d e f g h (decide (a>1000))))
def aU.j4(K:VK)(b c:Int)(d:OA)(e f:Nat)(g:OA)(a h:Nat)(i:Bool):WK:=br i (aU.j5 K b c d e f g a h true) (aU.j5 K b c d e f g a h (decide ((a:Int)>20)))
def aU.j3(K:VK)(a b:Int)(c:OA)(d e:Nat)(f:OA)(g h:Nat)(i:Bool):WK:=br i (aU.j4 K a b c d e f g h true) (aU.j4 K a b c d e f g h (decide (a>700)))
def aU(a:Int)(b:OA)(c d:Nat)(e:Int)(f:OA)(g h:Nat)(K:VK):WK:=cB (xB λi=>br (!i) (K (.bool false)) (eV b c d (xB λj=>br j (aU.j3 K a e b c d f g h true) (aU.j3 K a e b c d f g h (decide (a<12))))))
def ag.j4(K:VK)(j:LI)(a:Bool)(b k h c:OA)(d e:Nat)(f g:Int)(m:LM)(n o q:OA)(r:World)(s:Nat)(t:OA)(u:Bool):WK:=br u ((ct j m [.bool a,.p b,.p k,.p h,.p h,.l c d e,.i f,.i (adU.wrap (g+1))] [.bool a,.p b,.p n,.p o,.p q,.l c d e,.i f,.i g] r)) (lI (ad s 0) λv=>br (v==2) ((ct j m [.bool a,.p b,.p k,.p h,.p h,.l c d e,.i f,.i (adU.wrap (g+1))] [.bool a,.p b,.p n,.p o,.p q,.l c d e,.i f,.i g] r)) ((ct j m [.bool a,.p b,.p k,.p h,.p t,.l c d e,.i f,.i (adU.wrap (g+1))] [.bool a,.p b,.p n,.p o,.p q,.l c d e,.i f,.i g] r)))
def ag.j3(K:VK)(a:OA)(b:LI)(c:Bool)(d e f:OA)(g h:Nat)(i j:Int)(k:LM)(l m n:OA)(o:World)(p:Nat)(q:OA)(r:Bool):WK:=br r (fM a (xB λs=>ag.j4 K b c d a e f g h i j k l m n o p q (!s))) (ag.j4 K b c d a e f g h i j k l m n o p q false)
def ag.j2(K:VK)(a:Nat)(d:LI)(e:Bool)(f g:OA)(h i:Nat)(j k:Int)(l:LM)(m n o:OA)(p:World)(b c q:OA):WK:=cO b c (xB λr=>br (!r) (K (.bool false)) (lI (ad a 0) λs=>br (s==0) (ai (ad a 1) 13 λt=>eH t (xB λu=>ag.j3 K b d e f c g h i j k l m n o p a q u)) (ag.j3 K b d e f c g h i j k l m n o p a q false)))
def ag.j5(K:VK)(p b:Nat)(c:OA)(e:LI)(f:Bool)(g h:OA)(i j:Nat)(k l:Int)(m:LM)(a d:OA)(n:World)(o:OA)(q:Bool):WK:=br q (K (.bool false)) (lI (ad p 0) λr=>br (r==8) (ai (ad b 1) 13 λs=>eK c s (x3 λt u v=>(xL λx y z=>(xI .i64 λA=>(xP λw=>ag.j2 K b e f g h i j k l m a c d n a o w) v) u) t)) (ag.j2 K b e f g h i j k l m a c d n a o d))
def ag.j7(K:VK)(a:OA)(d:Int)(p:Bool)(e:Nat)(f:LI)(g:Bool)(h i:OA)(j k:Nat)(l m:Int)(n:LM)(b c:OA)(o:World)(q:Bool):WK:=br q (K (.bool false)) (fM a (xB λr=>br r (br (!((d==8)==(!p))) (K (.bool false)) (ag.j2 K e f g h i j k l m n a b c o a b c)) (br (!((d==8)==false)) (K (.bool false)) (ag.j2 K e f g h i j k l m n a b c o a b c))))
def ag.j6(K:VK)(b:OA)(a:Int)(c:Bool)(d:Nat)(e:LI)(f:Bool)(g h:OA)(i j:Nat)(k l:Int)(m:LM)(n o:OA)(p:World)(q:Bool):WK:=br q (ag.j7 K b a c d e f g h i j k l m n o p true) (br (a !=0) (br (a !=9) (br (a !=3) (ag.j7 K b a c d e f g h i j k l m n o p (a !=8)) (ag.j7 K b a c d e f g h i j k l m n o p false)) (ag.j7 K b a c d e f g h i j k l m n o p false)) (ag.j7 K b a c d e f g h i j k l m n o p false))
def ag.j1(K:VK)(A:Int)(B:OA)(x C:Nat)(D:Bool):WK:=br D (K (.bool true)) (jS A (xP λy=>eP y (x2 λE F=>(xP λG=>(xI .i64 λH=>br (H !=0) (K (.bool false)) (a8 True (mk I9 λz=>(lp [.bool false,.p y,.p G,.p (some (ad z 0)),.p (some (ad z 0)),.l B x C,.i (x:Int),.i 0] λm q=>∀n e a c d g h o j f k,m [.bool n,.p e,.p a,.p c,.p d,.l g h o,.i j,.i f] k->(br (decide (f<j)) (fP g h f 18 λI=>ai I 18 λJ=>mk jH λb=>aH 18 (ad b 0) J (lI (ad b 0) λs=>br (s==0) (ai (ad b 1) 13 λM=>dM a M (xA 4 λO=>mk Fj λr=>aH 4 (ad r 0) O (ai (ad r 0) 4 λP=>ai (ad b 1) 13 λQ=>av P c Q (x2 λR S=>(xB λT=>(xP λt=>br (!T) (ag.j5 K r b c m n e g h o j f q a d k t true) (fM a (xB λV=>br V (lI (ad r 0) λW=>br (W==0) (ai (ad b 1) 13 λX=>eH X (xB λY=>ag.j5 K r b c m n e g h o j f q a d k t Y)) (ag.j5 K r b c m n e g h o j f q a d k t false)) (ag.j5 K r b c m n e g h o j f q a d k t false)))) S) R)))) (br (s==1) (gM a (xI .i64 λZ=>fM a (xB λv=>cD a (xI .i64 λu=>br (!((u==9)==v)) (ag.j6 K a u v b m n e g h o j f q c d k true) (gM a (xI .i64 λMk=>ag.j6 K a u v b m n e g h o j f q c d k (!((u==0)==(Mk==(adU.wrap (Z+1))))))))))) (br (s==2) (lU (ad b 14) λWg=>lI (ad b 15) λWf=>lI (ad b 16) λuM=>jk e Wg Wf uM (x0 (eP e (x2 λv8 v9=>(xP λw=>(xI .i64 λn17=>br (n17 !=0) (K (.bool false)) (cO w d (xB λb17=>br b17 (ag.j2 K b m n e g h o j f q a c d k w d d) (ag.j2 K b m n e g h o j f q a c d k w c c)))) v9) v8)))) (br (s==3) (lI (ad b 17) λn18=>jd e n18 (x0 (ag.j2 K b m n e g h o j f q a c d k a c d))) (ag.j2 K b m n e g h o j f q a c d k a c d)))))) (K (.bool true))) k)))) F) E)))
def ag(a:Int)(b:OA)(c d:Nat)(K:VK):WK:=cB (xB λe=>br (!e) (K (.bool false)) (eV b c d (xB λf=>br f (ag.j1 K a b c d true) (br (decide (a<12)) (ag.j1 K a b c d true) (ag.j1 K a b c d (decide (a>700)))))))
end Go.Prog
namespace Go.Up
open Go.Sep Go.Den Go.RowKit Go.Prog Go.Md Go.bA
structure ig where
 op:Int
 ah:List aO
 aT:List Move
 now:Int
 ids:List Nat
 tw:Nat
 fQ:Int
 rZ:Int
 se:Bool
 pN:Bool
 mV:Bool
 ia:Int
structure rE where
 sa:OA
 ca:Nat
 st:OA
 ct:Nat
 si:OA
 ci:Nat
def ma(q:ig):LV:=nm q.tw++[.i q.fQ,.i q.rZ,.bool q.se,.bool q.pN,.bool q.mV,.i q.ia]
def dH(q:ig)(s:rE):LV:=[.i q.op,.l s.sa q.ah.length s.ca,.l s.st q.aT.length s.ct,.i q.now,.l s.si q.ids.length s.ci]++ma q
def Nr(q:ig)(s:rE):(dH q s).length=13:=rfl
instance{q:ig}{s:rE}:Ln (dH q s) 13:=⟨rfl⟩
instance{q:ig}:Ln (ma q) 8:=⟨rfl⟩
instance{q:ig}{s:rE}:Gt (dH q s) 0 (.i q.op):=⟨rfl⟩
instance{q:ig}{s:rE}:Gt (dH q s) 1 (.l s.sa q.ah.length s.ca):=⟨rfl⟩
instance{q:ig}{s:rE}:Gt (dH q s) 2 (.l s.st q.aT.length s.ct):=⟨rfl⟩
instance{q:ig}{s:rE}:Gt (dH q s) 3 (.i q.now):=⟨rfl⟩
instance{q:ig}{s:rE}:Gt (dH q s) 4 (.l s.si q.ids.length s.ci):=⟨rfl⟩
instance{q:ig}:Gt (ma q) 2 (.i q.fQ):=⟨rfl⟩
instance{q:ig}:Gt (ma q) 3 (.i q.rZ):=⟨rfl⟩
instance{q:ig}:Gt (ma q) 4 (.bool q.se):=⟨rfl⟩
instance{q:ig}:Gt (ma q) 5 (.bool q.pN):=⟨rfl⟩
instance{q:ig}:Gt (ma q) 6 (.bool q.mV):=⟨rfl⟩
instance{q:ig}:Gt (ma q) 7 (.i q.ia):=⟨rfl⟩
instance{L:LH}{X:WK}{r o:Nat}{q:ig}{s:rE}{cs:LV}{f:LV->LH}[i:Lc (Sep.pt r) L cs f][s2:Sub cs o 13 (dH q s)]:Wk L (kp ⟨r,o,none⟩ (dH q s) X) L X:=⟨λ_ h=>M0 (n:=13) h⟩
def tV(q:ig)(s:rE):∀v∈dH q s,v.oneCell'=true:=λv h=>by
 simp[dH,ma,nm] at h;rcases h with rfl|rfl|rfl|rfl|rfl|rfl|rfl|rfl|rfl|rfl|rfl|rfl|rfl<;>rfl
instance{q:ig}{s:rE}:Sub (dH q s) 0 13 (dH q s):=⟨rfl,λj v h=>by rw[ad1];exact h⟩
instance{q:ig}{s:rE}:Sub (dH q s) 5 8 (ma q):=⟨rfl,λj v h=>by
 show([_,_,_,_,_]++ma q)[5+j]?=some v
 rw[aey (by simp)];simpa using h⟩
instance{x1 x2 x3 x4 x5 x6 x7 x8 x9 zL zJ zH zG:Value}{q:ig}{s:rE}:Wr [x1,x2,x3,x4,x5,x6,x7,x8,x9,zL,zJ,zH,zG] 0 (dH q s) (dH q s):=⟨rfl,ad4 _,tV q s⟩
def oe.mono{α:Type}{W:World}{R R':LH}{g:α->LV}{e:Nat}{s:OA}{l:List α}[h:Has R R'](hr:oe W R g e s l):oe W R' g e s l:=λw hw=>hr w (h.sub hw)
structure lK(W:World)(R:LH)(q:ig)(s:rE):Prop where
 ah:oe W R ak 14 s.sa q.ah
 aT:oe W R aj 16 s.st q.aT
 ids:oe W R nm 2 s.si q.ids
 ca:q.ah.length<=s.ca
 ct:q.aT.length<=s.ct
 ci:q.ids.length<=s.ci
def nM(e:Int)(rb:OA)(rn rc:Nat)(ab:OA)(an ac:Nat)(tb:OA)(tn tc:Nat):LV:=[.i e,.l rb rn rc,.l ab an ac,.l tb tn tc]
instance{e:Int}{rb ab tb:OA}{rn rc an ac tn tc:Nat}:Ln (nM e rb rn rc ab an ac tb tn tc) 4:=⟨rfl⟩
instance{e:Int}{rb ab tb:OA}{rn rc an ac tn tc:Nat}:Gt (nM e rb rn rc ab an ac tb tn tc) 0 (.i e):=⟨rfl⟩
instance{e:Int}{rb ab tb:OA}{rn rc an ac tn tc:Nat}:Gt (nM e rb rn rc ab an ac tb tn tc) 1 (.l rb rn rc):=⟨rfl⟩
instance{e:Int}{rb ab tb:OA}{rn rc an ac tn tc:Nat}:Gt (nM e rb rn rc ab an ac tb tn tc) 2 (.l ab an ac):=⟨rfl⟩
instance{e:Int}{rb ab tb:OA}{rn rc an ac tn tc:Nat}:Gt (nM e rb rn rc ab an ac tb tn tc) 3 (.l tb tn tc):=⟨rfl⟩
def FU{e:Int}{rb:OA}{rn rc:Nat}{ab:OA}{an ac:Nat}{tb:OA}{tn tc:Nat}:∀v∈nM e rb rn rc ab an ac tb tn tc,v.oneCell'=true:=λv h=>by
 simp[nM] at h;rcases h with rfl|rfl|rfl|rfl<;>rfl
instance{x1 x2 x3 x4:Value}{e:Int}{rb:OA}{rn rc:Nat}{ab:OA}{an ac:Nat}{tb:OA}{tn tc:Nat}:Wr [x1,x2,x3,x4] 0 (nM e rb rn rc ab an ac tb tn tc) (nM e rb rn rc ab an ac tb tn tc):=⟨rfl,ad4 _,FU⟩
instance{x1 x2 x3 x4:Value}{e:Int}{rb:OA}{rn rc:Nat}{ab:OA}{an ac:Nat}{tb:OA}{tn tc:Nat}:Wr [x1,x2,x3,x4] 0 [.i e,.l rb rn rc,.l ab an ac,.l tb tn tc] (nM e rb rn rc ab an ac tb tn tc):=⟨rfl,ad4 _,FU⟩
instance{e:Int}{rb:OA}{rn rc:Nat}{ab:OA}{an ac:Nat}{tb:OA}{tn tc:Nat}:Sub (nM e rb rn rc ab an ac tb tn tc) 0 4 (nM e rb rn rc ab an ac tb tn tc):=⟨rfl,λj v h=>by rw[ad1];exact h⟩
instance{e:Int}{rb:OA}{rn rc:Nat}{ab:OA}{an ac:Nat}{tb:OA}{tn tc:Nat}:Sub [.i e,.l rb rn rc,.l ab an ac,.l tb tn tc] 0 4 (nM e rb rn rc ab an ac tb tn tc):=⟨rfl,λj v h=>by rw[ad1];exact h⟩
def jz(q:ig):Bool:=
 if q.op=1 then decide (1<=q.ah.length)&&decide (q.ah.length<=8) else if q.op=2 then decide (1<=q.aT.length)&&decide (q.aT.length<=8) else if q.op=3 then decide (0<=q.now)&&decide (q.now<=1099511627776) else false
def cz(q:ig):Bool:=decide (q.op=1\/q.op=2\/q.op=3)
def bo(m:Model):ax:=⟨m.made.map (Md.full m.kept),m.kept,m.clock,m.ae⟩
def o5(m:Model):mg (bo m) m:=⟨rfl,rfl,rfl,rfl⟩
def D9{b:ax}{m:Model}(h:mg b m):b=bo m:=by
 obtain⟨h1,h2,h3,h4⟩:=h;cases b
 simp only at h1 h2 h3 h4;subst h1 h2 h3 h4;rfl
def aE(m:Model)(q:ig):Int×List Int×Model:=
 if jz q=false then(1,[],m)
 else if q.op=1 then(0,eQ Model.make wU q.ah.length m q.ah)
 else if q.op=2 then(0,eQ Model.ov wT q.aT.length m q.aT)
 else(0,[],m.time q.now)
def FO{m:Model}(hg:Md.Ground m)(l:List aO)(n:Nat):(eQ ax.make wU n (bo m) l).1=(eQ Model.make wU n m l).1/\(eQ ax.make wU n (bo m) l).2=bo (eQ Model.make wU n m l).2/\Md.Ground (eQ Model.make wU n m l).2:=by
 obtain⟨h1,h2⟩:=wD (f:=ax.make) (g:=Model.make) (R:=λ(b:ax)(m:Model)=>mg b m/\Md.Ground m) wU (λs t x h=>h.1.make h.2) n l (bo m) m ⟨o5 m,hg⟩;exact⟨h1,D9 h2.1,h2.2⟩
def Jp{m:Model}(hg:Md.Ground m)(l:List Move)(n:Nat):(eQ ax.ov wT n (bo m) l).1=(eQ Model.ov wT n m l).1/\(eQ ax.ov wT n (bo m) l).2=bo (eQ Model.ov wT n m l).2/\Md.Ground (eQ Model.ov wT n m l).2:=by
 obtain⟨h1,h2⟩:=wD (f:=ax.ov) (g:=Model.ov) (R:=λ(b:ax)(m:Model)=>mg b m/\Md.Ground m) wT (λs t x h=>h.1.ov h.2) n l (bo m) m ⟨o5 m,hg⟩;exact⟨h1,D9 h2.1,h2.2⟩
section
variable {W:World} {L R:LH} {K:VK} {X:WK} {p:Nat} {q:ig} {s:rE}
def T.T4{A B C D:HP}(h:T W (D::A::B::C::R) X):T W (A::B::C::D::R) X:=T.perm h (ad7 (l₁:=[A,B,C]) (l₂:=[D])|>.append_right R)
def Kc(h:T W L (K (.bool (jz q)))):T W L (pA (dH q s) K):=by
 unfold pA;apply ws;intros;refine bw (λg1=>?_) (λg1=>?_)
 ·have g1:q.op=1:=by simpa using g1
  unfold jz at h;rw[if_pos g1] at h;apply ws;intros;refine dX (λg2=>?_) (λg2=>?_)
  ·rw[decide_eq_true (by omega),ae0] at h;apply ws;intros;refine T.fin (T.dp h) ?_;congr 1;rw[decide_eq_decide];omega
  ·rw[decide_eq_false (by omega),ae9] at h;exact T.dp h
 have g1: ¬q.op=1:=by simpa using g1
 refine bw (λg2=>?_) (λg2=>?_)
 ·have g2:q.op=2:=by simpa using g2
  unfold jz at h;rw[if_neg g1,if_pos g2] at h;apply ws;intros;refine dX (λg2=>?_) (λg2=>?_)
  ·rw[decide_eq_true (by omega),ae0] at h;apply ws;intros;refine T.fin (T.dp h) ?_;congr 1;rw[decide_eq_decide];omega
  ·rw[decide_eq_false (by omega),ae9] at h;exact T.dp h
 have g2: ¬q.op=2:=by simpa using g2
 unfold jz at h;rw[if_neg g1,if_neg g2] at h;refine bw (λg3=>?_) (λg3=>?_)
 ·have g3:q.op=3:=by simpa using g3
  rw[if_pos g3] at h;apply ws;intros;refine dX (λg2=>?_) (λg2=>?_)
  ·rw[decide_eq_true (by omega),ae0] at h;apply ws;intros;exact T.dp h
  ·rw[decide_eq_false (by omega),ae9] at h;exact T.dp h
 have g3: ¬q.op=3:=by simpa using g3
 rw[if_neg g3] at h;exact T.dp h
def yp(h:T W L (K (.bool (cz q)))):T W L (mX (dH q s) K):=by
 unfold mX;unfold cz at h;apply ws;intros;refine bw (λg1=>?_) (λg1=>?_)
 ·have g1:q.op=1:=by simpa using g1
  rw[decide_eq_true (.inl g1)] at h;exact T.dp h
 have g1: ¬q.op=1:=by simpa using g1
 apply ws;intros;refine bw (λg2=>?_) (λg2=>?_)
 ·have g2:q.op=2:=by simpa using g2
  rw[decide_eq_true (.inr (.inl g2))] at h;exact T.dp h
 have g2: ¬q.op=2:=by simpa using g2
 apply ws;intros;refine T.fin (T.dp h) ?_
 congr 1
 rw[aek];simp[g1,g2]
def AL{b:ax}{hs:List C}{f:ax×List C->LH}[i:Lc (bj p) L (b,hs) f](hl:hs.length<1000000)(h:T W (f (b,[])) (K (.tuple ⟨[]⟩))):T W L (iw (some ⟨p,0,none⟩) K):=λw hw=>by
 obtain⟨k,hk,e1⟩:=i.at_;have h1:=hw.focus hk;obtain⟨hg,h2⟩:=h1.and;refine(show T W (cP p (c7 b,hs)::L.eraseIdx k) _ from ?_) w h2;unfold iw;apply ws;intros;refine Sf (p:=p) hl ?_;apply ws;intros;intro w2 Xu;refine h w2 ?_;rw[e1];exact St.nJ (A:=bj p (b,hs)) (St.and_intro hg Xu) hk
def GW(G:pE W){m:Model}(hg:Md.Ground m)(hq:lK W R q s)(hA:q.op=1->∀a∈q.ah,vn a)(hT:q.op=2->∀t∈q.aT,ZA t)
 (h:∀rb rc,Md.Ground (aE m q).2.2->T W (bj p (bo (aE m q).2.2,[])::own rb (aE m q).2.1.length rc 1 ((aE m q).2.1.flatMap I1)::R) (K (.agg ⟨nM (aE m q).1 rb (aE m q).2.1.length rc none 0 0 none 0 0⟩))):
 T W (bj p (bo m,[])::R) (sf (some ⟨p,0,none⟩) (dH q s) K):=by
 unfold sf
 repeat' first|apply ws;intros|apply wb|with_reducible refine Kc ?_|fail
 cases ge:jz q with
 |false=>
  have e:aE m q=(1,[],m):=by unfold aE;rw[if_pos ge]
  rw[e] at h;apply ws;intros;refine T.drop (T.drop ?_);refine eY (e:=1) ?_;exact T.perm (h none 0 hg) (aem.swap _ _ _)
 |true=>
  apply ws;intros;refine bw (λg1=>?_) (λg1=>?_)
  ·have g1:q.op=1:=by simpa using g1
   have e:aE m q=(0,eQ Model.make wU q.ah.length m q.ah):=by unfold aE;rw[if_neg (by rw[ge];decide),if_pos g1]
   rw[e] at h;dsimp only at h;have hlen:1<=q.ah.length/\q.ah.length<=8:=by
    unfold jz at ge;rw[if_pos g1] at ge;simpa using ge
   obtain⟨s1,s2,s3⟩:=FO hg q.ah q.ah.length;apply ws;intros;refine T.T4 ?_;refine T2 G (hs:=[]) (R:=_::_::_::R) hq.ah.mono hq.ca (hA g1) ⟨m,o5 m,hg⟩ (by omega) (by show 0+_<_;omega) λr cV Hz his XS=>?_;rw[s1,s2];rw[s1] at XS;apply ws;intros;refine AL (p:=p) (by have:cV.length<=0+_:=Hz;omega) ?_;apply ws;intros;have:=h (some ⟨r,0,none⟩) q.ah.length s3;rw[XS] at this;refine T.sub this ?_;exact lW
  have g1: ¬q.op=1:=by simpa using g1
  refine bw (λg2=>?_) (λg2=>?_)
  ·have g2:q.op=2:=by simpa using g2
   have e:aE m q=(0,eQ Model.ov wT q.aT.length m q.aT):=by unfold aE;rw[if_neg (by rw[ge];decide),if_neg g1,if_pos g2]
   rw[e] at h;dsimp only at h;have hlen:1<=q.aT.length/\q.aT.length<=8:=by
    unfold jz at ge;rw[if_neg g1,if_pos g2] at ge;simpa using ge
   obtain⟨s1,s2,s3⟩:=Jp hg q.aT q.aT.length;apply ws;intros;refine T.T4 ?_;refine T1 G (hs:=[]) (R:=_::_::_::R) hq.aT.mono hq.ct (hT g2) ⟨m,o5 m,hg⟩ (by omega) (by show 0+_<_;omega) λr cV Hz his XS=>?_;rw[s1,s2];rw[s1] at XS;apply ws;intros;refine AL (p:=p) (by have:cV.length<=0+_:=Hz;omega) ?_;apply ws;intros;have:=h (some ⟨r,0,none⟩) q.aT.length s3;rw[XS] at this;refine T.sub this ?_;exact lW
  ·have g2: ¬q.op=2:=by simpa using g2
   have g3:q.op=3/\0<=q.now/\q.now<=1099511627776:=by
    unfold jz at ge;rw[if_neg g1,if_neg g2] at ge;by_cases g3:q.op=3
    ·rw[if_pos g3] at ge;exact⟨g3,by simpa using ge⟩
    ·rw[if_neg g3] at ge;cases ge
   have e:aE m q=(0,[],m.time q.now):=by unfold aE;rw[if_neg (by rw[ge];decide),if_neg g1,if_neg g2]
   rw[e] at h;dsimp only at h;apply ws;intros;refine T.T4 ?_;intro w hw;refine⟨W,_::_::_::R,p,bo m,m,[],rfl,hw,o5 m,hg,by simp,λn b' cV w' wa HE XX Uo=>?_⟩;have hb:=D9 wa;subst hb;refine T.at ?_ Uo;apply ws;intros;refine AL (p:=p) (by omega) ?_;apply ws;intros;have:=h none 0 HE;refine eY (e:=1) (T.HZ ?_);refine T.sub this ?_
   repeat (first|exact aeb.refl _|apply aeb.cons_cons|apply aeb.cons)
end
def sR(b:ax)(p:kq):Kept:=(b.kept[p.2.toNat]?).getD zK
def VB(b:ax)(from_ to:Int)(sQ:Bool):List Kept:=
 (if sQ then(mM from_ to (cM 0 b.kept)).reverse else mM from_ to (cM 0 b.kept)).map (sR b)
def AR{from_ to:Int}{l:List kq}{x:kq}(h:x∈mM from_ to l):x∈l:=List.mem_of_mem_drop (List.mem_of_mem_take h)
def Cg{l:List Kept}{x:kq}(h:x∈cM 0 l):∃(j:Nat)(k:Kept),l[j]?=some k/\x=(k.move.ae,(j:Int)):=by
 obtain⟨j,hj⟩:=aff h;rw[iR] at hj;cases hl:l[j]? with
 |none=>rw[hl] at hj;cases hj
 |some k=>rw[hl] at hj;simp at hj;exact⟨j,k,hl,hj.symm⟩
def fF(k:Kept):(aI k).length=33:=rfl
section
variable {W:World} {L R:LH} {K:VK} {X:WK} {p:Nat} {b:ax} {hs:List C} {f:ax×List C->LH}
def Mi[i:Lc (bj p) L (b,hs) f]{from_ to:Int}{sQ:Bool}(h:∀b' c' out,out=VB b from_ to sQ->T W (own b' out.length c' 33 (out.flatMap aI)::L) (K (.l b' out.length c'))):
 T W L (ku (some ⟨p,0,none⟩) from_ to sQ K):=by
 have hL:f (b,hs)=L:=i.same;refine Ht (p:=p) λla lk ti tn vs bx R hg hc l9=>?_;have many:=hg.many;unfold ku;refine tQ ?_;refine zp ?_;simp only[dZ,ad1];refine LY (p:=p) hg.tU (by show(cM 0 b.kept).length<_;rw[iQ];omega) λb' c' out ho=>?_;have mu:∀x∈out,∃(j:Nat)(k:Kept),b.kept[j]?=some k/\x=(k.move.ae,(j:Int)):=λx hx=>Cg (by
  rw[ho] at hx
  split at hx
  ·exact AR (List.mem_reverse.1 hx)
  ·exact AR hx)
 have tF:out.length<=96:=by
  have h1:∀x:List kq,x=mM from_ to (cM 0 b.kept)->x.length<=96:=λx hx=>by
   rw[hx];unfold mM;rw[ad2,ad9,iQ];omega
  rw[ho];split
  ·rw[aeU];exact h1 _ rfl
  ·exact h1 _ rfl
 have aa0:out.map (sR b)=VB b from_ to sQ:=by rw[ho];rfl
 clear ho;refine tN ?_;refine eY (e:=33) ?_;intro w jG;refine⟨λvv w=>∃(i:Nat)(bo:OA)(cc:Nat)(done:List Kept),i<=out.length/\done=(out.take i).map (sR b)/\vv=[.l none 0 0,.l bo done.length cc,.l b' out.length c',.i (out.length:Int),.i (i:Int)]/\
  St W w (own bo done.length cc 33 (done.flatMap aI)::own b' out.length c' 2 (out.flatMap lD)::dP p (dD la lk ti tn vs (c7 b))::ox ak 14 la (p,(c7 b).ah)::ox aI 33 lk (p,(c7 b).kept)::lz ti (c7 b).lY::lz tn (c7 b).eg::rC bx::R),
  λvs _=>match vs with|[_,_,_,_,.int _ d]=>out.length-d.toNat|_=>0,⟨0,none,0,[],ad6 _,by simp,rfl,jG⟩,?_⟩
 rintro uG pY uF bo pL cc zt yJ yK n3 n4 w2 ⟨i,b0,c0,done,hi,iq,e,fo⟩;cases e
 refine T.at ?_ fo;have e5:=mh i;have xg:done.length=i:=by rw[iq,aen,ad2];omega
 refine dX (λg1=>?_) (λg1=>?_)
 ·have aZ:i<out.length:=by omega
  have gx:=adX aZ;have gm:=aej aZ;generalize out[i]=x at gx gm;obtain⟨j,k,hk,rfl⟩:=mu x gm;have hka:sR b (k.move.ae,(j:Int))=k:=by unfold sR;dsimp only;rw[adY,hk];rfl
  have tu:(done++[k])=(out.take (i+1)).map (sR b):=by rw[aeg,gx,aeu,<-iq];simp[hka]
  refine bR (b:=b') ⟨by omega,by omega⟩ λrb hb=>?_;subst hb;rw[adY];refine dA kB gx ?_
  repeat' first|apply ws;intros|apply wb
  ·refine Pj (l:=lk) (x:=k) hk (by show b.kept.length<_;omega) ?_;apply ws;intros;refine hG (b:=bo) (x:=k) rfl rfl rfl (by omega) (by omega) (jl _) λb2 c2=>?_;rw[e5];refine T.drop (T.drop (T.drop ?_));exact λw3 h3=>⟨⟨i+1,b2,c2,done++[k],aZ,tu,by simp,by simpa using h3⟩,by show out.length-((i+1:Nat):Int).toNat<out.length-(i:Int).toNat;omega⟩
  ·refine Pj (l:=lk) (x:=k) hk (by show b.kept.length<_;omega) ?_;apply ws;intros;refine hG (b:=bo) (x:=k) rfl rfl rfl (by omega) (by omega) (jl _) λb2 c2=>?_;rw[e5];refine T.drop (T.drop (T.drop ?_));exact λw3 h3=>⟨⟨i+1,b2,c2,done++[k],aZ,tu,by simp,by simpa using h3⟩,by show out.length-((i+1:Nat):Int).toNat<out.length-(i:Int).toNat;omega⟩
 ·have gF:i=out.length:=by omega
  subst gF;rw[ad'] at iq;have:=l9 [_] b hs vs bx _ hg hc (by rw[hL];exact h bo cc done (iq.trans aa0));refine T.sub this ?_;exact lW
def VJ[i:Lc (bj p) L (b,hs) f][hh:Has R L]{s:OA}{c:Nat}{ids:List Nat}(hr:oe W R nm 2 s ids)(hl:ids.length<=1000)
 (h:∀b' c' out,out=ids.filterMap b.find->T W (own b' out.length c' 14 (out.flatMap ak)::L) (K (.l b' out.length c'))):T W L (pV (some ⟨p,0,none⟩) s ids.length c K):=by
 unfold pV;refine eY (e:=14) ?_;intro w jG;refine⟨λvv w=>∃(i:Nat)(bo:OA)(cc:Nat)(done:List aO),i<=ids.length/\done=(ids.take i).filterMap b.find/\done.length<=i/\vv=[.l none 0 0,.l bo done.length cc,.l s ids.length c,.i (ids.length:Int),.i (i:Int)]/\
  St W w (own bo done.length cc 14 (done.flatMap ak)::L),
  λvs _=>match vs with|[_,_,_,_,.int _ d]=>ids.length-d.toNat|_=>0,⟨0,none,0,[],ad6 _,by simp,ad4 _,rfl,jG⟩,?_⟩
 rintro uG pY uF bo pL cc zt yJ yK n3 n4 w2 ⟨i,b0,c0,done,hi,iq,xg,e,fo⟩;cases e
 refine T.at ?_ fo;have e5:=mh i;refine dX (λg1=>?_) (λg1=>?_)
 ·have aZ:i<ids.length:=by omega
  have gx:=adX aZ;generalize ids[i]=x at gx;have dJ:(ids.take (i+1)).filterMap b.find=done++(b.find x).toList:=by
   rw[aeg,gx,List.filterMap_append,<-iq]
   congr 1
  refine kf hr ⟨by omega,by omega⟩ rfl λa ha=>?_;rw[adY];refine ke hr ha gx rfl ?_
  repeat' first|apply ws;intros|apply wb|with_reducible refine sq (p:=p) ?_|fail
  rw[e5];cases hf:b.find x with
  |none=>
   rw[hf] at dJ;simp only[aeE,aeQ];apply ws;intros;refine T.drop (T.drop ?_);exact λw3 h3=>⟨⟨i+1,bo,cc,done,aZ,by simp[dJ],by omega,rfl,h3⟩,by show ids.length-((i+1:Nat):Int).toNat<ids.length-(i:Int).toNat;omega⟩
  |some a2=>
   rw[hf] at dJ;simp only[aev,aew];apply ws;intros;refine hG (b:=bo) (x:=a2) rfl rfl rfl (by omega) (by omega) (eX _) λb2 c2=>?_;refine T.drop (T.drop (T.drop ?_));exact λw3 h3=>⟨⟨i+1,b2,c2,done++[a2],aZ,by simpa using dJ.symm,by simp;omega,by simp,by simpa using h3⟩,by show ids.length-((i+1:Nat):Int).toNat<ids.length-(i:Int).toNat;omega⟩
 ·have gF:i=ids.length:=by omega
  subst gF;rw[ad'] at iq;exact h bo cc done iq
def VI[i:Lc (bj p) L (b,hs) f][hh:Has R L]{s:OA}{c:Nat}{ids:List Nat}(hr:oe W R nm 2 s ids)(hl:ids.length<=1000)
 (h:∀b' c' out,out=ids.filterMap (λid=>(b.named id).map (·.move))->T W (own b' out.length c' 16 (out.flatMap aj)::L) (K (.l b' out.length c'))):T W L (o7 (some ⟨p,0,none⟩) s ids.length c K):=by
 unfold o7;refine eY (e:=16) ?_;intro w jG;refine⟨λvv w=>∃(i:Nat)(bo:OA)(cc:Nat)(done:List Move),i<=ids.length/\done=(ids.take i).filterMap (λid=>(b.named id).map (·.move))/\done.length<=i/\vv=[.l none 0 0,.l bo done.length cc,.l s ids.length c,.i (ids.length:Int),.i (i:Int)]/\
  St W w (own bo done.length cc 16 (done.flatMap aj)::L),
  λvs _=>match vs with|[_,_,_,_,.int _ d]=>ids.length-d.toNat|_=>0,⟨0,none,0,[],ad6 _,by simp,ad4 _,rfl,jG⟩,?_⟩
 rintro uG pY uF bo pL cc zt yJ yK n3 n4 w2 ⟨i,b0,c0,done,hi,iq,xg,e,fo⟩;cases e
 refine T.at ?_ fo;have e5:=mh i;refine dX (λg1=>?_) (λg1=>?_)
 ·have aZ:i<ids.length:=by omega
  have gx:=adX aZ;generalize ids[i]=x at gx;have dJ:(ids.take (i+1)).filterMap (λid=>(b.named id).map (·.move))=done++((b.named x).map (·.move)).toList:=by
   rw[aeg,gx,List.filterMap_append,<-iq]
   congr 1
  refine kf hr ⟨by omega,by omega⟩ rfl λa ha=>?_;rw[adY];refine ke hr ha gx rfl ?_
  repeat' first|apply ws;intros|apply wb|with_reducible refine E7 (p:=p) ?_|fail
  rw[e5];cases hf:b.named x with
  |none=>
   rw[hf] at dJ;simp only[aeE,aeQ];apply ws;intros;refine T.drop (T.drop ?_);exact λw3 h3=>⟨⟨i+1,bo,cc,done,aZ,by simp[dJ],by omega,rfl,h3⟩,by show ids.length-((i+1:Nat):Int).toNat<ids.length-(i:Int).toNat;omega⟩
  |some a2=>
   rw[hf] at dJ;simp only[aev,aew];apply ws;intros;refine hG (b:=bo) (x:=a2.move) rfl rfl rfl (by omega) (by omega) (lF _) λb2 c2=>?_;refine T.drop (T.drop (T.drop ?_));exact λw3 h3=>⟨⟨i+1,b2,c2,done++[a2.move],aZ,by simpa using dJ.symm,by simp;omega,by simp,by simpa using h3⟩,by show ids.length-((i+1:Nat):Int).toNat<ids.length-(i:Int).toNat;omega⟩
 ·have gF:i=ids.length:=by omega
  subst gF;rw[ad'] at iq;exact h bo cc done iq
end
instance{q:ig}:Sub (ma q) 0 2 (nm q.tw):=⟨rfl,λj v h=>by
 rw[ad1]
 match j with
 |0=>exact h
 |1=>exact h
 |j+2=>simp[nm] at h⟩
instance{k:Kept}:Sub (aI k) 18 2 (nm k.move.aD):=⟨rfl,(uZ (cs:=aI k) (o:=18) (n:=k.move.aD) rfl rfl).2⟩
instance{k:Kept}:Sub (aI k) 20 2 (nm k.move.aq):=⟨rfl,(uZ (cs:=aI k) (o:=20) (n:=k.move.aq) rfl rfl).2⟩
def GP(q:ig):∀v∈ma q,v.oneCell'=true:=λv h=>by
 simp[ma,nm] at h;rcases h with rfl|rfl|rfl|rfl|rfl|rfl|rfl|rfl<;>rfl
instance{x1 x2 x3 x4 x5 x6 x7 x8:Value}{q:ig}:Wr [x1,x2,x3,x4,x5,x6,x7,x8] 0 (ma q) (ma q):=⟨rfl,ad4 _,GP q⟩
def fits(q:ig)(k:Kept):Bool:=(q.se&&decide (k.move.aD=q.tw))||(q.pN&&decide (k.move.aq=q.tw))
def Xa(b:ax)(q:ig):List Move:=(((VB b q.fQ q.rZ q.mV).filter (fits q)).take q.ia.toNat).map (·.move)
def yF{α:Type}{P:α->Bool}{l:List α}{i n:Nat}{x:α}(hx:l[i]?=some x):
 ((l.take (i+1)).filter P).take n=if(((l.take i).filter P).take n).length<n then(if P x then((l.take i).filter P).take n++[x] else((l.take i).filter P).take n) else((l.take i).filter P).take n:=by
 rw[aeg,hx,List.filter_append];show(_++[x].filter P).take n=_;generalize (l.take i).filter P=A;rw[ad2];by_cases h:min n A.length<n
 ·rw[if_pos h];have hA:A.length<n:=by omega
  by_cases hp:P x=true
  ·rw[if_pos hp,aeX hp,List.filter_nil,aef (by simp;omega),aef (by omega)]
  ·rw[if_neg hp,aeY hp,List.filter_nil,aei]
 ·rw[if_neg h,List.take_append_of_le_length (by omega)]
section
variable {W:World} {L R:LH} {K:VK} {X:WK} {p:Nat} {b:ax} {hs:List C} {f:ax×List C->LH} {q:ig} {s:rE}
def NG{I1:LV->World->Prop}{mH:LV->World->Nat}{M:LH}{r1 r2 cc yJ yK:Nat}{bo zt:OA}{done:List Move}{x:Kept}{n3 n4:Int}{w2:World}{g:LV->LH}
 (hA:(done.length<q.ia.toNat/\fits q x=true)->∀b2 c2,T W (own b2 (done.length+1) c2 16 ((done++[x.move]).flatMap aj)::M) (λw3=>I1 [.p (some (ad r1 0)),.l none 0 0,.l b2 (done.length+1) c2,.l zt yJ yK,.i n3,.i (adU.wrap (n4+1))] w3/\
  mH [.p (some (ad r1 0)),.l none 0 0,.l b2 (done.length+1) c2,.l zt yJ yK,.i n3,.i (adU.wrap (n4+1))] w3<mH [.p (some (ad r1 0)),.l none 0 0,.l bo done.length cc,.l zt yJ yK,.i n3,.i n4] w2))
 (hN: ¬(done.length<q.ia.toNat/\fits q x=true)->T W (own bo done.length cc 16 (done.flatMap aj)::M) (λw3=>I1 [.p (some (ad r1 0)),.l none 0 0,.l bo done.length cc,.l zt yJ yK,.i n3,.i (adU.wrap (n4+1))] w3/\
  mH [.p (some (ad r1 0)),.l none 0 0,.l bo done.length cc,.l zt yJ yK,.i n3,.i (adU.wrap (n4+1))] w3<mH [.p (some (ad r1 0)),.l none 0 0,.l bo done.length cc,.l zt yJ yK,.i n3,.i n4] w2))
 [i1:Lc (Sep.pt r1) M (ma q) g](EB:0<=q.ia/\q.ia<=16)(hd:done.length<=1000):
 T W (Sep.pt r2 (aI x)::own bo done.length cc 16 (done.flatMap aj)::M) (br q.se (ai (ad r2 18) 2 λZm=>ai (ad r1 0) 2 λcs7=>nF [.u 0,.u 0] Zm cs7 λb8=>jB.j1 K (ad r1 0) r2 done.length bo cc I1 none 0 0 zt yJ yK n3 n4 mH w2 b8)
   (jB.j1 K (ad r1 0) r2 done.length bo cc I1 none 0 0 zt yJ yK n3 n4 mH w2 false)):=by
 have j3:∀yes:Bool,(yes=true↔done.length<q.ia.toNat/\fits q x=true)->T W (Sep.pt r2 (aI x)::own bo done.length cc 16 (done.flatMap aj)::M) (jB.j3 K r2 bo done.length cc I1 (ad r1 0) none 0 0 zt yJ yK n3 n4 mH w2 yes):=λyes hy=>by
  unfold jB.j3;cases yes with
  |true=>
   apply ws;intros;refine hG (b:=bo) (x:=x.move) rfl rfl rfl (by omega) (by omega) (lF _) λb2 c2=>?_;exact T.drop (T.drop (hA (hy.1 rfl) b2 c2))
  |false=>
   apply ws;intros;exact T.drop (hN λhh=>by have:=hy.2 hh;cases this)
 have j2:∀b2 b3:Bool,(b2||b3)=fits q x->T W (Sep.pt r2 (aI x)::own bo done.length cc 16 (done.flatMap aj)::M) (jB.j2 K (ad r1 0) done.length b2 r2 bo cc I1 none 0 0 zt yJ yK n3 n4 mH w2 b3):=λb2 b3 hb=>by
  unfold jB.j2;apply ws;intros;refine dX (λg1=>?_) (λg1=>?_)
  ·cases b2 with
   |true=>
    apply ws;intros;refine j3 true ⟨λ_=>⟨by omega,by rw[<-hb];rfl⟩,λ_=>rfl⟩
   |false=>
    apply ws;intros;rw[Bool.false_or] at hb;refine j3 b3 ⟨λh=>⟨by omega,by rw[<-hb];exact h⟩,λh=>by rw[hb];exact h.2⟩
  ·refine j3 false ⟨λh=>(by cases h),λh=>(by omega)⟩
 have j1:∀b2:Bool,b2=(q.se&&decide (x.move.aD=q.tw))->T W (Sep.pt r2 (aI x)::own bo done.length cc 16 (done.flatMap aj)::M) (jB.j1 K (ad r1 0) r2 done.length bo cc I1 none 0 0 zt yJ yK n3 n4 mH w2 b2):=λb2 hb=>by
  unfold jB.j1;apply ws;intros;cases hc:q.pN with
  |true=>
   apply ws;intros;refine j2 _ _ ?_;unfold fits;rw[hb,hc,ae0]
  |false=>
   apply ws;intros;refine j2 _ _ ?_;unfold fits;rw[hb,hc,ae9]
 cases PI:q.se with
 |true=>
  apply ws;intros;refine j1 _ ?_;rw[PI,ae0]
 |false=>
  apply ws;intros;refine j1 _ ?_;rw[PI,ae9]
def adi[i:Lc (bj p) L (b,hs) f](EB:0<=q.ia/\q.ia<=16)(h:∀b' c' out,out=Xa b q->T W (own b' out.length c' 16 (out.flatMap aj)::L) (K (.l b' out.length c'))):
 T W L (jB (some ⟨p,0,none⟩) (ma q) K):=by
 unfold jB;refine mn (p:=p) λhg=>?_;have many:=hg.many;have Yg:(VB b q.fQ q.rZ q.mV).length<=96:=by
  unfold VB;rw[aen];have h1:(mM q.fQ q.rZ (cM 0 b.kept)).length<=96:=by unfold mM;rw[ad2,ad9,iQ];omega
  split
  ·rw[aeU];exact h1
  ·exact h1
 apply ws;intros;rename_i r1;refine Mi (p:=p) λbb bc l hl=>?_;rw[<-hl] at Yg;apply ws;intros;refine eY (e:=16) ?_;intro w jG;refine⟨λvv w=>∃(i:Nat)(bo:OA)(cc:Nat)(done:List Move),i<=l.length/\done=(((l.take i).filter (fits q)).take q.ia.toNat).map (·.move)/\done.length<=i/\vv=[.p (some (ad r1 0)),.l none 0 0,.l bo done.length cc,.l bb l.length bc,.i (l.length:Int),.i (i:Int)]/\
                                                                 St W w (own bo done.length cc 16 (done.flatMap aj)::own bb l.length bc 33 (l.flatMap aI)::Sep.pt r1 (ma q)::L),
  λvs _=>match vs with|[_,_,_,_,_,.int _ d]=>l.length-d.toNat|_=>0,⟨0,none,0,[],ad6 _,by simp,ad4 _,rfl,jG⟩,?_⟩
 rintro a1 uG pY uF bo pL cc zt yJ yK n3 n4 w2 ⟨i,b0,c0,done,hi,iq,xg,e,fo⟩;cases e
 refine T.at ?_ fo;have e5:=mh i;refine dX (λg1=>?_) (λg1=>?_)
 ·have aZ:i<l.length:=by omega
  have gx:=adX aZ;generalize l[i]=x at gx;have dJ:=yF (P:=fits q) (n:=q.ia.toNat) gx;have rY:done.length=(((l.take i).filter (fits q)).take q.ia.toNat).length:=by rw[iq,aen]
  rw[<-rY] at dJ;have tu:(((l.take (i+1)).filter (fits q)).take q.ia.toNat).map (·.move)=if done.length<q.ia.toNat/\fits q x=true then done++[x.move] else done:=by
   rw[dJ];by_cases c1:done.length<q.ia.toNat
   ·rw[if_pos c1];by_cases c2:fits q x=true
    ·rw[if_pos c2,if_pos ⟨c1,c2⟩,aeu,<-iq];rfl
    ·rw[if_neg c2,if_neg (λh=>c2 h.2),<-iq]
   ·rw[if_neg c1,if_neg (λh=>c1 h.1),<-iq]
  refine bR (b:=bb) ⟨by omega,by omega⟩ λrb hb=>?_;subst hb;rw[adY];refine dA fF gx ?_;apply ws;intros;rename_i r2;refine NG (r1:=r1) (r2:=r2) (bo:=bo) (x:=x) (M:=own (some ⟨rb,0,none⟩) l.length bc 33 (l.flatMap aI)::Sep.pt r1 (ma q)::L) (λhy b2 c2=>?_) (λhy=>?_) EB (by omega)
  ·rw[e5];rw[if_pos hy] at tu;exact λw3 h3=>⟨⟨i+1,b2,c2,done++[x.move],aZ,tu.symm,by simp;omega,by simp,by simpa using h3⟩,by show l.length-((i+1:Nat):Int).toNat<l.length-(i:Int).toNat;omega⟩
  ·rw[e5];rw[if_neg hy] at tu;exact λw3 h3=>⟨⟨i+1,bo,cc,done,aZ,tu.symm,by omega,rfl,h3⟩,by show l.length-((i+1:Nat):Int).toNat<l.length-(i:Int).toNat;omega⟩
 ·have gF:i=l.length:=by omega
  subst gF;rw[ad'] at iq;have:=h bo cc done (by rw[iq,hl];rfl);refine T.sub this ?_;exact lW
def kX(q:ig):Bool:=
 if q.op=4\/q.op=5 then decide (1<=q.ids.length)&&decide (q.ids.length<=16)
 else if q.op=6 then decide (0<=q.fQ/\0<=q.rZ/\1<=q.ia/\q.ia<=16)&&(q.se||q.pN) else false
def ask(m:Model)(q:ig):Int×List aO×List Move:=
 if kX q=false then(1,[],[])
 else if q.op=4 then(0,q.ids.filterMap (bo m).find,[])
 else if q.op=5 then(0,[],q.ids.filterMap λid=>((bo m).named id).map (·.move))
 else(0,[],Xa (bo m) q)
def Hj(h:T W L (K (.bool (kX q)))):T W L (eo (dH q s) K):=by
 have main:∀(r1:Nat)(b1:Bool),b1=decide (q.op=4\/q.op=5)->T W (Sep.pt r1 (dH q s)::L) (eo.j1 K r1 q.op b1):=λr1 b1 hb=>by
  unfold eo.j1;unfold kX at h;by_cases My:q.op=4\/q.op=5
  ·rw[if_pos My] at h;rw[decide_eq_true My] at hb;subst hb;apply ws;intros;refine dX (λg2=>?_) (λg2=>?_)
   ·rw[decide_eq_true (by omega),ae0] at h;apply ws;intros;refine T.fin (T.dp h) ?_;congr 1;rw[decide_eq_decide];omega
   ·rw[decide_eq_false (by omega),ae9] at h;exact T.dp h
  ·rw[if_neg My] at h;rw[decide_eq_false My] at hb;subst hb;rw[cf];refine bw (λg6=>?_) (λg6=>?_)
   ·have g6:q.op=6:=by simpa using g6
    rw[if_pos g6] at h;apply ws;intros;rename_i r2;have j4:∀b4:Bool,b4=decide (0<=q.fQ/\0<=q.rZ/\1<=q.ia/\q.ia<=16)->T W (Sep.pt r2 (ma q)::Sep.pt r1 (dH q s)::L) (eo.j4 K r2 b4):=λb4 h4=>by
     unfold eo.j4;rw[<-h4] at h;cases b4 with
     |true=>
      apply ws;intros;rw[ae0] at h;cases hd:q.se with
      |true=>
       rw[hd] at h;apply ws;intros;exact T.dp h
      |false=>
       rw[hd,Bool.false_or] at h;apply ws;intros;exact T.dp h
     |false=>
      apply ws;intros;rw[ae9] at h;exact T.dp h
    have j3:∀b3:Bool,b3=decide (0<=q.fQ/\0<=q.rZ/\1<=q.ia)->T W (Sep.pt r2 (ma q)::Sep.pt r1 (dH q s)::L) (eo.j3 K r2 b3):=λb3 h3=>by
     unfold eo.j3;cases b3 with
     |true=>
      apply ws;intros;refine j4 _ ?_;have:=of_decide_eq_true h3.symm;rw[decide_eq_decide];omega
     |false=>
      apply ws;intros;refine j4 _ ?_;have:=of_decide_eq_false h3.symm;exact(decide_eq_false (by omega)).symm
    have j2:∀b2:Bool,b2=decide (0<=q.fQ/\0<=q.rZ)->T W (Sep.pt r2 (ma q)::Sep.pt r1 (dH q s)::L) (eo.j2 K r2 b2):=λb2 h2=>by
     unfold eo.j2;cases b2 with
     |true=>
      apply ws;intros;refine j3 _ ?_;have:=of_decide_eq_true h2.symm;rw[decide_eq_decide];omega
     |false=>
      apply ws;intros;refine j3 _ ?_;have:=of_decide_eq_false h2.symm;exact(decide_eq_false (by omega)).symm
    refine dX (λg1=>?_) (λg1=>?_)
    ·apply ws;intros;refine j2 _ ?_;rw[decide_eq_decide];omega
    ·refine j2 _ ?_;exact(decide_eq_false (by omega)).symm
   ·have g6: ¬q.op=6:=by simpa using g6
    rw[if_neg g6] at h;exact T.dp h
 unfold eo;apply ws;intros;refine bw (λg1=>?_) (λg1=>?_)
 ·have Va:q.op=4:=by simpa using g1
  exact main _ _ (by rw[g1];exact(decide_eq_true (.inl Va)).symm)
 ·have Va: ¬q.op=4:=by simpa using g1
  exact main _ _ (by rw[aek];simp[Va])
def Zx{m:Model}(hq:lK W R q s)
 (h:∀ab ac tb tc,T W (own ab (ask m q).2.1.length ac 14 ((ask m q).2.1.flatMap ak)::own tb (ask m q).2.2.length tc 16 ((ask m q).2.2.flatMap aj)::bj p (bo m,[])::R) (K (.agg ⟨nM (ask m q).1 none 0 0 ab (ask m q).2.1.length ac tb (ask m q).2.2.length tc⟩))):
 T W (bj p (bo m,[])::R) (EV (some ⟨p,0,none⟩) (dH q s) K):=by
 unfold EV
 repeat' first|apply ws;intros|apply wb|with_reducible refine Hj ?_|fail
 cases ge:kX q with
 |false=>
  have e:ask m q=(1,[],[]):=by unfold ask;rw[if_pos ge]
  rw[e] at h;apply ws;intros;refine T.drop (T.drop ?_);exact eY (e:=16) (eY (e:=14) (h none 0 none 0))
 |true=>
  apply ws;intros;refine bw (λg1=>?_) (λg1=>?_)
  ·have g1:q.op=4:=by simpa using g1
   have e:ask m q=(0,q.ids.filterMap (bo m).find,[]):=by unfold ask;rw[if_neg (by rw[ge];decide),if_pos g1]
   rw[e] at h;have hlen:q.ids.length<=16:=by unfold kX at ge;rw[if_pos (.inl g1)] at ge;simp at ge;exact ge.2
   apply ws;intros;refine VJ (R:=R) (p:=p) hq.ids (by omega) λab ac out ho=>?_;subst ho;apply ws;intros;have:=h ab ac none 0;refine eY (e:=16) (T.HZ ?_);refine T.sub this ?_
   repeat (first|exact aeb.refl _|apply aeb.cons_cons|apply aeb.cons)
  have g1: ¬q.op=4:=by simpa using g1
  refine bw (λg2=>?_) (λg2=>?_)
  ·have g2:q.op=5:=by simpa using g2
   have e:ask m q=(0,[],q.ids.filterMap λid=>((bo m).named id).map (·.move)):=by unfold ask;rw[if_neg (by rw[ge];decide),if_neg g1,if_pos g2]
   rw[e] at h;have hlen:q.ids.length<=16:=by unfold kX at ge;rw[if_pos (.inr g2)] at ge;simp at ge;exact ge.2
   apply ws;intros;refine VI (R:=R) (p:=p) hq.ids (by omega) λab ac out ho=>?_;subst ho;apply ws;intros;have:=h none 0 ab ac;refine eY (e:=14) ?_;refine T.sub this ?_
   repeat (first|exact aeb.refl _|apply aeb.cons_cons|apply aeb.cons)
  ·have g2: ¬q.op=5:=by simpa using g2
   have e:ask m q=(0,[],Xa (bo m) q):=by unfold ask;rw[if_neg (by rw[ge];decide),if_neg g1,if_neg g2]
   rw[e] at h;have EB:0<=q.ia/\q.ia<=16:=by
    unfold kX at ge;rw[if_neg (by omega)] at ge;split at ge
    ·simp at ge;omega
    ·cases ge
   apply ws;intros;refine adi (p:=p) EB λab ac out ho=>?_;subst ho;apply ws;intros;have:=h none 0 ab ac;refine eY (e:=14) ?_;refine T.sub this ?_
   repeat (first|exact aeb.refl _|apply aeb.cons_cons|apply aeb.cons)
end
def many{α:Type}(nx:RS->RS)(nv:RS->α):Nat->RS->List α×RS
 |0,x=>([],x)
 |n+1,x=>if x.2=true then([],x) else(nv x::(many nx nv n (nx x)).1,(many nx nv n (nx x)).2)
def oI{α:Type}{nx:RS->RS}{nv:RS->α}(n:Nat)(x:RS):many nx nv (n+1) x=if x.2=true then([],x) else(nv x::(many nx nv n (nx x)).1,(many nx nv n (nx x)).2):=rfl
def yc{α:Type}{nx:RS->RS}{nv:RS->α}(x:RS):many nx nv 0 x=([],x):=rfl
def wR{α:Type}{nx:RS->RS}{nv:RS->α}:∀(n:Nat)(x:RS),(many nx nv n x).1.length<=n
 |0,x=>ad4 _
 |n+1,x=>by unfold many;split<;>simp;exact wR n _
def QH(x:RS):0<=iH 1 x/\iH 1 x<=255:=by
 unfold iH;split
 ·omega
 ·have h1:=oU (x.1.take 1);have h2:(x.1.take 1).length<=1:=by rw[ad2];omega
  have h3:256^(x.1.take 1).length<=256^1:=aeP (by decide) h2;have h4:(256:Nat)^1=256:=rfl;rw[ki (by omega)];omega
def Hu(x:RS):RS:=if 1<iH 1 x then((df 1 x).1,true) else df 1 x
def ZM(x:RS):Bool:=iH 1 x==1
section
variable {W:World} {L R:LH} {K:VK} {X:WK} {r:Nat} {x:RS} {g:RS->LH} {q:ig} {s:rE}
def QE(x:RS):(Cp x).1.length<=x.1.length:=by
 unfold Cp uM;repeat (first|exact ad4 _|refine Nat.le_trans (qQ _ _) ?_)
def QD(x:RS):(Co x).1.length<=x.1.length:=by
 unfold Co uM;repeat (first|exact ad4 _|refine Nat.le_trans (qQ _ _) ?_)
def E6[i:Lc (rd r) L x g](hl:x.1.length<1099511627776)(h:T W (g (Hu x)) (K (.bool (ZM x)))):T W L (ja (some ⟨r,0,none⟩) K):=by
 unfold ja;refine rj hl ?_;refine lA ?_;have hn:=i.next;rw[Option.isNone_some,Bool.not_false,gW];refine dX (λg1=>?_) (λg1=>?_)
 ·have g1:iH 1 x>1:=g1;intro w hs;obtain⟨k,hk,e⟩:=(hn (df 1 x)).at_;rw[zX,dZ,ad1];refine kP hs (show(g (df 1 x))[k]?=some (Sep.pt r [.string (bs (df 1 x).1),.bool (df 1 x).2]) from hk) (by show 1<2;decide) rfl λw' cV=>?_;refine h w' ?_;have e2:Hu x=((df 1 x).1,true):=by unfold Hu;rw[if_pos g1]
  rw[e2,e];exact cV
 ·have g1: ¬iH 1 x>1:=g1;have e2:Hu x=df 1 x:=by unfold Hu;rw[if_neg g1]
  rw[e2] at h;exact h
def QU[i:Lc (rd r) L x g](hl:x.1.length<1099511627776)
 (h:∀b c,T W (own b (many Cp Eo (iH 1 x).toNat (df 1 x)).1.length c 14 ((many Cp Eo (iH 1 x).toNat (df 1 x)).1.flatMap ak)::g (many Cp Eo (iH 1 x).toNat (df 1 x)).2) (K (.l b (many Cp Eo (iH 1 x).toNat (df 1 x)).1.length c))):
 T W L (jq (some ⟨r,0,none⟩) (.func (.func N.kK) ⟨[]⟩ ⟨[]⟩) K):=by
 unfold jq;refine rj hl ?_;refine lA ?_;have hn:=i.next;have hb:=QH x;obtain⟨n,en⟩:∃n:Nat,iH 1 x=(n:Int):=⟨(iH 1 x).toNat,by omega⟩;rw[en,adY] at h;rw[en];refine eY (e:=14) ?_;intro w jG;refine⟨λvv w=>∃(i:Nat)(bo:OA)(cc:Nat)(done:List aO)(y:RS),i<=n/\done.length<=i/\y.1.length<1099511627776/\many Cp Eo n (df 1 x)=(done++(many Cp Eo (n-i) y).1,(many Cp Eo (n-i) y).2)/\
                                                                                                                                       vv=[.l none 0 0,.l bo done.length cc,.i (n:Int),.i (i:Int)]/\St W w (own bo done.length cc 14 (done.flatMap ak)::g y),
  λvs _=>match vs with|[_,_,_,.int _ d]=>n-d.toNat|_=>0,⟨0,none,0,[],df 1 x,ad6 _,ad4 _,nj hl,by simp,rfl,jG⟩,?_⟩
 rintro Nl V8 Qh bo pY cc n2 n3 w2 ⟨i,b0,c0,done,y,hi,xg,hy,hm,e,fo⟩;cases e
 refine T.at ?_ fo;have e5:=mh i
 haveI:=hn y
 refine dX (λg1=>?_) (λg1=>?_)
 ·have aZ:i<n:=by omega
  obtain⟨k,hk⟩:∃k,n-i=k+1:=⟨n-i-1,by omega⟩;rw[hk] at hm;refine uW (r:=r) ?_;refine nK ?_;cases ht:y.2 with
  |true=>
   apply ws;intros;rw[oI,if_pos ht] at hm;simp only[aei] at hm;have:=h bo cc;rw[hm] at this;exact this
  |false=>
   apply ws;intros;rw[oI,if_neg (by rw[ht];decide)] at hm;show T W _ (kK (some ⟨r,0,none⟩) _);refine OY hy ?_;apply ws;intros;refine hG (b:=bo) (x:=Eo y) rfl rfl rfl (by omega) (by omega) (eX _) λb2 c2=>?_;rw[e5];refine T.drop ?_;refine λw3 h3=>⟨⟨i+1,b2,c2,done++[Eo y],Cp y,aZ,by simp;omega,Nat.lt_of_le_of_lt (QE y) hy,?_,by simp,by simpa using h3⟩,by show n-((i+1:Nat):Int).toNat<n-(i:Int).toNat;omega⟩;rw[hm,show n-(i+1)=k by omega];simp
 ·have gF:i=n:=by omega
  subst gF;rw[afj] at hm;rw[yc,aei] at hm;have:=h bo cc;rw[hm] at this;exact this
def QR[i:Lc (rd r) L x g](hl:x.1.length<1099511627776)
 (h:∀b c,T W (own b (many Co En (iH 1 x).toNat (df 1 x)).1.length c 16 ((many Co En (iH 1 x).toNat (df 1 x)).1.flatMap aj)::g (many Co En (iH 1 x).toNat (df 1 x)).2) (K (.l b (many Co En (iH 1 x).toNat (df 1 x)).1.length c))):
 T W L (iM (some ⟨r,0,none⟩) (.func (.func N.jJ) ⟨[]⟩ ⟨[]⟩) K):=by
 unfold iM;refine rj hl ?_;refine lA ?_;have hn:=i.next;have hb:=QH x;obtain⟨n,en⟩:∃n:Nat,iH 1 x=(n:Int):=⟨(iH 1 x).toNat,by omega⟩;rw[en,adY] at h;rw[en];refine eY (e:=16) ?_;intro w jG;refine⟨λvv w=>∃(i:Nat)(bo:OA)(cc:Nat)(done:List Move)(y:RS),i<=n/\done.length<=i/\y.1.length<1099511627776/\many Co En n (df 1 x)=(done++(many Co En (n-i) y).1,(many Co En (n-i) y).2)/\
                                                                                                                                       vv=[.l none 0 0,.l bo done.length cc,.i (n:Int),.i (i:Int)]/\St W w (own bo done.length cc 16 (done.flatMap aj)::g y),
  λvs _=>match vs with|[_,_,_,.int _ d]=>n-d.toNat|_=>0,⟨0,none,0,[],df 1 x,ad6 _,ad4 _,nj hl,by simp,rfl,jG⟩,?_⟩
 rintro Nl V8 Qh bo pY cc n2 n3 w2 ⟨i,b0,c0,done,y,hi,xg,hy,hm,e,fo⟩;cases e
 refine T.at ?_ fo;have e5:=mh i
 haveI:=hn y
 refine dX (λg1=>?_) (λg1=>?_)
 ·have aZ:i<n:=by omega
  obtain⟨k,hk⟩:∃k,n-i=k+1:=⟨n-i-1,by omega⟩;rw[hk] at hm;refine uW (r:=r) ?_;refine nK ?_;cases ht:y.2 with
  |true=>
   apply ws;intros;rw[oI,if_pos ht] at hm;simp only[aei] at hm;have:=h bo cc;rw[hm] at this;exact this
  |false=>
   apply ws;intros;rw[oI,if_neg (by rw[ht];decide)] at hm;show T W _ (jJ (some ⟨r,0,none⟩) _);refine HQ hy ?_;apply ws;intros;refine hG (b:=bo) (x:=En y) rfl rfl rfl (by omega) (by omega) (lF _) λb2 c2=>?_;rw[e5];refine T.drop ?_;refine λw3 h3=>⟨⟨i+1,b2,c2,done++[En y],Co y,aZ,by simp;omega,Nat.lt_of_le_of_lt (QD y) hy,?_,by simp,by simpa using h3⟩,by show n-((i+1:Nat):Int).toNat<n-(i:Int).toNat;omega⟩;rw[hm,show n-(i+1)=k by omega];simp
 ·have gF:i=n:=by omega
  subst gF;rw[afj] at hm;rw[yc,aei] at hm;have:=h bo cc;rw[hm] at this;exact this
def QT[i:Lc (rd r) L x g](hl:x.1.length<1099511627776)
 (h:∀b c,T W (own b (many (df 16) vY (iH 1 x).toNat (df 1 x)).1.length c 2 ((many (df 16) vY (iH 1 x).toNat (df 1 x)).1.flatMap nm)::g (many (df 16) vY (iH 1 x).toNat (df 1 x)).2) (K (.l b (many (df 16) vY (iH 1 x).toNat (df 1 x)).1.length c))):
 T W L (lZ (some ⟨r,0,none⟩) (.func (.func N.bm) ⟨[]⟩ ⟨[]⟩) K):=by
 unfold lZ;refine rj hl ?_;refine lA ?_;have hn:=i.next;have hb:=QH x;obtain⟨n,en⟩:∃n:Nat,iH 1 x=(n:Int):=⟨(iH 1 x).toNat,by omega⟩;rw[en,adY] at h;rw[en];refine eY (e:=2) ?_;intro w jG;refine⟨λvv w=>∃(i:Nat)(bo:OA)(cc:Nat)(done:List Nat)(y:RS),i<=n/\done.length<=i/\y.1.length<1099511627776/\many (df 16) vY n (df 1 x)=(done++(many (df 16) vY (n-i) y).1,(many (df 16) vY (n-i) y).2)/\
                                                                                                                                       vv=[.l none 0 0,.l bo done.length cc,.i (n:Int),.i (i:Int)]/\St W w (own bo done.length cc 2 (done.flatMap nm)::g y),
  λvs _=>match vs with|[_,_,_,.int _ d]=>n-d.toNat|_=>0,⟨0,none,0,[],df 1 x,ad6 _,ad4 _,nj hl,by simp,rfl,jG⟩,?_⟩
 rintro Nl V8 Qh bo pY cc n2 n3 w2 ⟨i,b0,c0,done,y,hi,xg,hy,hm,e,fo⟩;cases e
 refine T.at ?_ fo;have e5:=mh i
 haveI:=hn y
 refine dX (λg1=>?_) (λg1=>?_)
 ·have aZ:i<n:=by omega
  obtain⟨k,hk⟩:∃k,n-i=k+1:=⟨n-i-1,by omega⟩;rw[hk] at hm;refine uW (r:=r) ?_;refine nK ?_;cases ht:y.2 with
  |true=>
   apply ws;intros;rw[oI,if_pos ht] at hm;simp only[aei] at hm;have:=h bo cc;rw[hm] at this;exact this
  |false=>
   apply ws;intros;rw[oI,if_neg (by rw[ht];decide)] at hm;show T W _ (bm (some ⟨r,0,none⟩) _);refine E4 hy ?_;apply ws;intros;refine hG (b:=bo) (x:=vY y) rfl rfl rfl (by omega) (by omega) (kC _) λb2 c2=>?_;rw[e5];refine T.drop ?_;refine λw3 h3=>⟨⟨i+1,b2,c2,done++[vY y],(df 16) y,aZ,by simp;omega,Nat.lt_of_le_of_lt (qQ 16 y) hy,?_,by simp,by simpa using h3⟩,by show n-((i+1:Nat):Int).toNat<n-(i:Int).toNat;omega⟩;rw[hm,show n-(i+1)=k by omega];simp
 ·have gF:i=n:=by omega
  subst gF;rw[afj] at hm;rw[yc,aei] at hm;have:=h bo cc;rw[hm] at this;exact this
def lR(q:ig):Bool:=if q.op=1 then q.ah.all λa=>decide (mI a) else if q.op=2 then q.aT.all λt=>decide (j0 t) else true
def gQ(q:ig):Bool:=(jz q||kX q)&&lR q
def xw{α:Type}{P:α->Bool}{l:List α}{i:Nat}{x:α}(hx:l[i]?=some x)(h:(l.take i).all P=true):(l.take (i+1)).all P=P x:=by
 rw[aeg,hx,List.all_append,h];simp
def all_false{α:Type}{P:α->Bool}{l:List α}{i:Nat}{x:α}(hx:l[i]?=some x)(h:P x=false):l.all P=false:=by
 rw[List.all_eq_false];exact⟨x,aep hx,by rw[h];decide⟩
def Fp[hh:Has R L](hq:lK W R q s)(zz:q.ah.length<1000000)(aZ:q.aT.length<1000000){r1:Nat}{b1:Bool}(h:T W (Sep.pt r1 (dH q s)::L) (K (.bool (!b1&&lR q)))):T W (Sep.pt r1 (dH q s)::L) (lN.j1 K r1 b1):=by
 unfold lN.j1;cases b1 with
 |true=>rw[gW];exact h
 |false=>
  rw[Bool.not_false,ae0] at h;rw[cf];apply ws;intros;refine bw (λg1=>?_) (λg1=>?_)
  ·have g1:q.op=1:=by simpa using g1
   unfold lR at h;rw[if_pos g1] at h;apply ws;intros;intro w jG;refine⟨λvv w=>∃i:Nat,i<=q.ah.length/\(q.ah.take i).all (λx=>decide (mI x))=true/\vv=[.bool false,.l s.sa q.ah.length s.ca,.i (q.ah.length:Int),.i (i:Int)]/\St W w (Sep.pt r1 (dH q s)::L),
    λvs _=>match vs with|[_,_,_,.int _ d]=>q.ah.length-d.toNat|_=>0,⟨0,ad6 _,rfl,rfl,jG⟩,?_⟩
   rintro b2 uG pY uF n2 n3 w2 ⟨i,hi,fJ,e,fo⟩;cases e
   refine T.at ?_ fo;have e5:=mh i;refine dX (λg1=>?_) (λg1=>?_)
   ·have aZ:i<q.ah.length:=by omega
    have gx:=adX aZ;generalize q.ah[i]=x at gx;refine kf hq.ah ⟨by omega,by omega⟩ rfl λa ha=>?_;rw[adY];refine ke hq.ah ha gx rfl ?_
    repeat' first|apply ws;intros|apply wb|with_reducible refine Ko ?_|fail
    rw[e5];by_cases hg:mI x
    ·rw[decide_eq_true hg];apply ws;intros;refine T.drop λw3 h3=>⟨⟨i+1,aZ,?_,rfl,h3⟩,by show q.ah.length-((i+1:Nat):Int).toNat<q.ah.length-(i:Int).toNat;omega⟩;rw[xw gx fJ];exact decide_eq_true hg
    ·rw[decide_eq_false hg];apply ws;intros;rw[all_false gx (decide_eq_false hg)] at h;exact T.drop h
   ·have gF:i=q.ah.length:=by omega
    subst gF;rw[ad'] at fJ;rw[fJ] at h;exact h
  have g1: ¬q.op=1:=by simpa using g1
  refine bw (λg2=>?_) (λg2=>?_)
  ·have g2:q.op=2:=by simpa using g2
   unfold lR at h;rw[if_neg g1,if_pos g2] at h;apply ws;intros;intro w jG;refine⟨λvv w=>∃i:Nat,i<=q.aT.length/\(q.aT.take i).all (λx=>decide (j0 x))=true/\vv=[.bool false,.l s.st q.aT.length s.ct,.i (q.aT.length:Int),.i (i:Int)]/\St W w (Sep.pt r1 (dH q s)::L),
    λvs _=>match vs with|[_,_,_,.int _ d]=>q.aT.length-d.toNat|_=>0,⟨0,ad6 _,rfl,rfl,jG⟩,?_⟩
   rintro b2 uG pY uF n2 n3 w2 ⟨i,hi,fJ,e,fo⟩;cases e
   refine T.at ?_ fo;have e5:=mh i;refine dX (λg1=>?_) (λg1=>?_)
   ·have aZ:i<q.aT.length:=by omega
    have gx:=adX aZ;generalize q.aT[i]=x at gx;refine kf hq.aT ⟨by omega,by omega⟩ rfl λa ha=>?_;rw[adY];refine ke hq.aT ha gx rfl ?_
    repeat' first|apply ws;intros|apply wb|with_reducible refine Ji ?_|fail
    rw[e5];by_cases hg:j0 x
    ·rw[decide_eq_true hg];apply ws;intros;refine T.drop λw3 h3=>⟨⟨i+1,aZ,?_,rfl,h3⟩,by show q.aT.length-((i+1:Nat):Int).toNat<q.aT.length-(i:Int).toNat;omega⟩;rw[xw gx fJ];exact decide_eq_true hg
    ·rw[decide_eq_false hg];apply ws;intros;rw[all_false gx (decide_eq_false hg)] at h;exact T.drop h
   ·have gF:i=q.aT.length:=by omega
    subst gF;rw[ad'] at fJ;rw[fJ] at h;exact h
  ·have g2: ¬q.op=2:=by simpa using g2
   unfold lR at h;rw[if_neg g1,if_neg g2] at h;exact h
def Ja[hh:Has R L](hq:lK W R q s)(zz:q.ah.length<1000000)(aZ:q.aT.length<1000000)(h:T W L (K (.bool (gQ q)))):T W L (lN (dH q s) K):=by
 unfold lN
 repeat' first|apply ws;intros|apply wb|with_reducible refine Kc ?_|fail
 unfold gQ at h;cases he:jz q with
 |true=>
  rw[he,Bool.true_or] at h;apply ws;intros;exact Fp hq zz aZ (T.drop h)
 |false=>
  rw[he,Bool.false_or] at h
  repeat' first|apply ws;intros|apply wb|with_reducible refine Hj ?_|fail
  refine Fp hq zz aZ (T.drop ?_);rw[Bool.not_not];exact h
end
def za(b:Bool):List UInt8:=[if b then 1 else 0]
def Rq(q:ig):List UInt8:=nb q.tw++le .i64 8 q.fQ++le .i64 8 q.rZ++za q.se++za q.pN++za q.mV++le .i64 1 q.ia
def ch(q:ig):List UInt8:=le .i64 1 q.op++
 (if q.op=1 then le .i64 1 (q.ah.length:Int)++q.ah.flatMap ie
 else if q.op=2 then le .i64 1 (q.aT.length:Int)++q.aT.flatMap mT
 else if q.op=3 then le .i64 8 q.now
 else if q.op=6 then Rq q
 else le .i64 1 (q.ids.length:Int)++q.ids.flatMap nb)
section
variable {W:World} {L R:LH} {K:VK} {X:WK} {p:Nat} {l:List UInt8} {f:List UInt8->LH} {q:ig} {s:rE}
def M7(h:T W (buf p []::L) X):T W (Sep.pt p [.l none 0 0]::L) X:=λw hs=>by
 have h2:=(hs.push (A:=own none 0 0 1 (([]:List UInt8).map rI)) (nO 1)).perm (aem.swap _ _ _);exact h w (qg (k:=0) (L:=buf p []::L) (A:=buf p []) rfl rfl h2)
def dR{α:Type}{g:α->List UInt8}{e:Nat}(hg:∀x,(g x).length=e)(l:List α):(l.flatMap g).length=l.length* e:=by
 induction l with
 |nil=>simp
 |cons x l ih=>rw[aeN,ad0,ih,hg,aee,afl];omega
def aac[i:Lc (buf p) L l f][hh:∀y,Has R (f y)]{sl:OA}{c:Nat}{items:List aO}(hr:oe W R ak 14 sl items)(hg:∀x∈items,mI x)(hi:items.length<=1000)(hl:l.length<1000000)
 (h:T W (f (l++le .i64 1 (items.length:Int)++items.flatMap ie)) (K (.tuple ⟨[]⟩))):T W L (jK (some ⟨p,0,none⟩) sl items.length c K):=by
 unfold jK;refine zp ?_;refine pW (by omega) (wu ?_);intro w jG;refine⟨λvv w=>∃i:Nat,i<=items.length/\vv=[.l sl items.length c,.i (items.length:Int),.i (i:Int)]/\St W w (f (l++le .i64 1 (items.length:Int)++(items.take i).flatMap ie)),
  λvs _=>match vs with|[_,_,.int _ d]=>items.length-d.toNat|_=>0,⟨0,ad6 _,rfl,by simpa using jG⟩,?_⟩
 rintro uG pY uF n1 n2 w2 ⟨i,hii,e,fo⟩;cases e
 refine T.at ?_ fo;have hn:=Lc.next (P:=buf p) inferInstance (l++le .i64 1 (items.length:Int)++(items.take i).flatMap ie) (L:=L) (x:=l) (f:=f);have yZ:=hh (l++le .i64 1 (items.length:Int)++(items.take i).flatMap ie);have hlen:(l++le .i64 1 (items.length:Int)++(items.take i).flatMap ie).length<549755813888:=by
  rw[ad0,ad0,dR oS,ad2,ay];have:min i items.length<=1000:=by omega
  have:min i items.length* (100-4)<=1000* (100-4):=aeL _ this;omega
 have e5:=mh i;refine dX (λg1=>?_) (λg1=>?_)
 ·have aZ:i<items.length:=by omega
  have gx:=adX aZ;have gm:=hg _ (aej aZ);generalize items[i]=x at gx gm;refine kf hr ⟨by omega,by omega⟩ rfl λa ha=>?_;rw[adY];refine ke hr ha gx rfl ?_
  repeat' first|apply ws;intros|apply wb|with_reducible refine OX (p:=p) gm hlen ?_|fail
  rw[e5];refine T.drop λw3 h3=>⟨⟨i+1,aZ,rfl,?_⟩,by show items.length-((i+1:Nat):Int).toNat<items.length-(i:Int).toNat;omega⟩;rw[aeg,gx,aeV];simpa [ad5] using h3
 ·have gF:i=items.length:=by omega
  subst gF;rw[ad'];exact h
def aab[i:Lc (buf p) L l f][hh:∀y,Has R (f y)]{sl:OA}{c:Nat}{items:List Move}(hr:oe W R aj 16 sl items)(hg:∀x∈items,j0 x)(hi:items.length<=1000)(hl:l.length<1000000)
 (h:T W (f (l++le .i64 1 (items.length:Int)++items.flatMap mT)) (K (.tuple ⟨[]⟩))):T W L (jo (some ⟨p,0,none⟩) sl items.length c K):=by
 unfold jo;refine zp ?_;refine pW (by omega) (wu ?_);intro w jG;refine⟨λvv w=>∃i:Nat,i<=items.length/\vv=[.l sl items.length c,.i (items.length:Int),.i (i:Int)]/\St W w (f (l++le .i64 1 (items.length:Int)++(items.take i).flatMap mT)),
  λvs _=>match vs with|[_,_,.int _ d]=>items.length-d.toNat|_=>0,⟨0,ad6 _,rfl,by simpa using jG⟩,?_⟩
 rintro uG pY uF n1 n2 w2 ⟨i,hii,e,fo⟩;cases e
 refine T.at ?_ fo;have hn:=Lc.next (P:=buf p) inferInstance (l++le .i64 1 (items.length:Int)++(items.take i).flatMap mT) (L:=L) (x:=l) (f:=f);have yZ:=hh (l++le .i64 1 (items.length:Int)++(items.take i).flatMap mT);have hlen:(l++le .i64 1 (items.length:Int)++(items.take i).flatMap mT).length<549755813888:=by
  rw[ad0,ad0,dR oH,ad2,ay];have:min i items.length<=1000:=by omega
  have:min i items.length* 108<=1000* 108:=aeL _ this;omega
 have e5:=mh i;refine dX (λg1=>?_) (λg1=>?_)
 ·have aZ:i<items.length:=by omega
  have gx:=adX aZ;have gm:=hg _ (aej aZ);generalize items[i]=x at gx gm;refine kf hr ⟨by omega,by omega⟩ rfl λa ha=>?_;rw[adY];refine ke hr ha gx rfl ?_
  repeat' first|apply ws;intros|apply wb|with_reducible refine HO (p:=p) gm hlen ?_|fail
  rw[e5];refine T.drop λw3 h3=>⟨⟨i+1,aZ,rfl,?_⟩,by show items.length-((i+1:Nat):Int).toNat<items.length-(i:Int).toNat;omega⟩;rw[aeg,gx,aeV];simpa [ad5] using h3
 ·have gF:i=items.length:=by omega
  subst gF;rw[ad'];exact h
def TB[i:Lc (buf p) L l f](hl:l.length<1000000)(h:T W (f (l++Rq q)) (K (.tuple ⟨[]⟩))):T W L (kY (some ⟨p,0,none⟩) (ma q) K):=by
 unfold kY;have hn0:=i.next
 repeat' first|apply ws;intros|apply wb|with_reducible refine EX (by omega) ?_|fail
 rename_i r1
 repeat' first|apply ws;intros|apply wb|with_reducible refine uV (by simp only[ad0,ru,ay];omega) ?_|fail
 intro w jG;refine⟨λvv w=>∃i:Nat,i<=3/\vv=[.p (some (ad r1 0)),.agg ⟨[.bool q.se,.bool q.pN,.bool q.mV]⟩,.i (i:Int)]/\St W w (Sep.pt r1 (ma q)::f (l++nb q.tw++le .i64 8 q.fQ++le .i64 8 q.rZ++([q.se,q.pN,q.mV].take i).flatMap za)),
  λvs _=>match vs with|[_,_,.int _ d]=>3-d.toNat|_=>0,⟨0,ad6 _,rfl,by simpa using jG⟩,?_⟩
 rintro a4 Zn n3 w2 ⟨i,hi,e,fo⟩;cases e
 refine T.at ?_ fo;have hn:=Lc.next (P:=buf p) inferInstance (l++nb q.tw++le .i64 8 q.fQ++le .i64 8 q.rZ++([q.se,q.pN,q.mV].take i).flatMap za) (L:=L) (x:=l) (f:=f);have z':(([q.se,q.pN,q.mV].take i).flatMap za).length<=3:=by rw[dR (e:=1) (λ_=>rfl),ad2];simp;omega
 have e5:=mh i;refine dX (λg1=>?_) (λg1=>?_)
 ·have aZ:i<3:=by omega
  obtain⟨b,hb⟩:∃b,[q.se,q.pN,q.mV][i]?=some b:=⟨_,adX (by simpa using aZ)⟩;have hv:[Value.bool q.se,.bool q.pN,.bool q.mV][i]?=some (.bool b):=by
   have:=congrArg (afA Value.bool) hb;rw[<-aeJ] at this;exact this
  refine Jg aZ hv ?_
  repeat' first|apply ws;intros|apply wb|with_reducible refine R6 (by simp only[ad0,ru,ay];omega) ?_|fail
  rw[e5];refine λw3 h3=>⟨⟨i+1,aZ,rfl,?_⟩,by show 3-((i+1:Nat):Int).toNat<3-(i:Int).toNat;omega⟩;rw[aeg,hb,aeV];simpa [ad5,za] using h3
 ·have gF:i=3:=by omega
  subst gF
  repeat' first|apply ws;intros|apply wb|with_reducible refine pW (by simp only[ad0,ru,ay];omega) ?_|fail
  have e2:l++nb q.tw++le .i64 8 q.fQ++le .i64 8 q.rZ++([q.se,q.pN,q.mV].take 3).flatMap za++le .i64 1 q.ia=l++Rq q:=by
   unfold Rq;simp[ad5]
  rw[e2];exact T.drop h
def nA(h:gQ q=true):(q.op=1/\q.ah.length<=8/\∀a∈q.ah,mI a)\/(q.op=2/\q.aT.length<=8/\∀t∈q.aT,j0 t)\/(q.op=3/\0<=q.now/\q.now<=1099511627776)\/((q.op=4\/q.op=5)/\q.ids.length<=16)\/(q.op=6/\0<=q.fQ/\0<=q.rZ/\1<=q.ia/\q.ia<=16):=by
 unfold gQ jz kX lR at h;simp only[aeR,Bool.or_eq_true] at h;obtain⟨h1,h2⟩:=h;by_cases o1:q.op=1
 ·rw[if_pos o1] at h1 h2;rw[if_neg (by omega),if_neg (by omega)] at h1;simp at h1 h2;exact .inl ⟨o1,h1.2,h2⟩
 by_cases o2:q.op=2
 ·rw[if_neg o1,if_pos o2] at h1 h2;rw[if_neg (by omega),if_neg (by omega)] at h1;simp at h1 h2;exact .inr (.inl ⟨o2,h1.2,h2⟩)
 by_cases o3:q.op=3
 ·rw[if_neg o1,if_neg o2,if_pos o3] at h1;rw[if_neg (by omega),if_neg (by omega)] at h1;simp at h1;exact .inr (.inr (.inl ⟨o3,h1⟩))
 rw[if_neg o1,if_neg o2,if_neg o3] at h1;by_cases o4:q.op=4\/q.op=5
 ·rw[if_pos o4] at h1;simp at h1;exact .inr (.inr (.inr (.inl ⟨o4,h1.2⟩)))
 rw[if_neg o4] at h1;by_cases o6:q.op=6
 ·rw[if_pos o6] at h1;simp at h1;exact .inr (.inr (.inr (.inr ⟨o6,h1.1⟩)))
 ·rw[if_neg o6] at h1;simp at h1
def MJ[hh:Has R L](hq:lK W R q s)(zz:q.ah.length<1000000)(aZ:q.aT.length<1000000)(h1:gQ q=true->T W L (K (.tuple ⟨[.string (bs (ch q)),.i 0]⟩)))(h0:gQ q=false->T W L (K (.tuple ⟨[.string .empty,.i 1]⟩))):T W L (su (dH q s) K):=by
 unfold su
 repeat' first|apply ws;intros|apply wb|with_reducible refine Ja hq zz aZ ?_|fail
 rename_i r1;cases hw:gQ q with
 |false=>
  apply ws;intros;exact T.drop (h0 hw)
 |true=>
  have h1:=h1 hw;have hf:=nA hw;apply ws;intros;rename_i r2;refine M7 ?_
  repeat' first|apply ws;intros|apply wb|with_reducible refine pW (by simp) ?_|fail
  unfold ch at h1;refine bw (λg1=>?_) (λg1=>?_)
  ·have g1:q.op=1:=by simpa using g1
   rw[if_pos g1] at h1;have Aa:q.ah.length<=8/\∀a∈q.ah,mI a:=by rcases hf with h|h|h|h|h<;>first|exact h.2|omega
   apply ws;intros;refine aac (R:=R) hq.ah Aa.2 (by omega) (by simp[ay]) ?_
   repeat' first|apply ws;intros|apply wb|with_reducible refine qk ?_|fail
   rw[aeA,ad5];exact T.dp h1
  have g1: ¬q.op=1:=by simpa using g1
  rw[if_neg g1] at h1;refine bw (λg2=>?_) (λg2=>?_)
  ·have g2:q.op=2:=by simpa using g2
   rw[if_pos g2] at h1;have Aa:q.aT.length<=8/\∀a∈q.aT,j0 a:=by rcases hf with h|h|h|h|h<;>first|exact h.2|omega
   apply ws;intros;refine aab (R:=R) hq.aT Aa.2 (by omega) (by simp[ay]) ?_
   repeat' first|apply ws;intros|apply wb|with_reducible refine qk ?_|fail
   rw[aeA,ad5];exact T.dp h1
  have g2: ¬q.op=2:=by simpa using g2
  rw[if_neg g2] at h1;refine bw (λg3=>?_) (λg3=>?_)
  ·have g3:q.op=3:=by simpa using g3
   rw[if_pos g3] at h1
   repeat' first|apply ws;intros|apply wb|with_reducible first|refine uV (by simp[ay]) ?_|refine qk ?_|fail
   rw[aeA];exact T.dp h1
  have g3: ¬q.op=3:=by simpa using g3
  rw[if_neg g3] at h1;refine bw (λg6=>?_) (λg6=>?_)
  ·have g6:q.op=6:=by simpa using g6
   rw[if_pos g6] at h1;apply ws;intros;refine TB (by simp[ay]) ?_
   repeat' first|apply ws;intros|apply wb|with_reducible refine qk ?_|fail
   rw[aeA];exact T.dp h1
  have g6: ¬q.op=6:=by simpa using g6
  rw[if_neg g6] at h1;have Aa:q.ids.length<=16:=by rcases hf with h|h|h|h|h<;>first|exact h.2|omega
  repeat' first|apply ws;intros|apply wb|with_reducible refine pW (by simp[ay]) ?_|fail
  intro w jG;refine⟨λvv w=>∃i:Nat,i<=q.ids.length/\vv=[.string .empty,.i 0,.p (some (ad r2 0)),.l s.si q.ids.length s.ci,.i (q.ids.length:Int),.i (i:Int)]/\
   St W w (buf r2 (le .i64 1 q.op++(le .i64 1 (q.ids.length:Int)++(q.ids.take i).flatMap nb))::Sep.pt r1 (dH q s)::L),
   λvs _=>match vs with|[_,_,_,_,_,.int _ d]=>q.ids.length-d.toNat|_=>0,⟨0,ad6 _,rfl,by simpa using jG⟩,?_⟩
  rintro s5 n4 a1 sb5 ZG ZH n5 n6 w2 ⟨i,hi,e,fo⟩;cases e
  refine T.at ?_ fo;have hlen:(le .i64 1 q.op++(le .i64 1 (q.ids.length:Int)++(q.ids.take i).flatMap nb)).length<1099511627776:=by
   rw[ad0,ad0,dR ru,ad2,ay,ay];have:min i q.ids.length<=16:=by omega
   omega
  have e5:=mh i;refine dX (λg1=>?_) (λg1=>?_)
  ·have aZ:i<q.ids.length:=by omega
   have gx:=adX aZ;generalize q.ids[i]=x at gx;refine kf hq.ids ⟨by omega,by omega⟩ rfl λa ha=>?_;rw[adY];refine ke hq.ids ha gx rfl ?_
   repeat' first|apply ws;intros|apply wb|with_reducible refine EX hlen ?_|fail
   rw[e5];refine T.drop λw3 h3=>⟨⟨i+1,aZ,rfl,?_⟩,by show q.ids.length-((i+1:Nat):Int).toNat<q.ids.length-(i:Int).toNat;omega⟩;rw[aeg,gx,aeV];simpa [ad5] using h3
  ·have gF:i=q.ids.length:=by omega
   subst gF;rw[ad']
   repeat' first|apply ws;intros|apply wb|with_reducible refine qk ?_|fail
   exact T.dp h1
end
def q0:ig:=⟨0,[],[],0,[],0,0,0,false,false,false,0⟩
def s0:rE:=⟨none,0,none,0,none,0⟩
instance{q q':ig}{s s':rE}:Wr (dH q s) 0 (dH q' s') (dH q' s'):=⟨rfl,ad4 _,tV q' s'⟩
instance{q:ig}{s:rE}:Wr (dH q s) 0 [.i 0,.l none 0 0,.l none 0 0,.i 0,.l none 0 0,.u 0,.u 0,.i 0,.i 0,.bool false,.bool false,.bool false,.i 0] (dH q0 s0):=⟨rfl,ad4 _,tV q0 s0⟩
instance{q:ig}{s:rE}{a:Nat}{f t m:Int}{d c l:Bool}:Wr (dH q s) 5 (nm a++([.i f,.i t,.bool d,.bool c,.bool l,.i m]:LV)) (dH ⟨q.op,q.ah,q.aT,q.now,q.ids,a,f,t,d,c,l,m⟩ s):=⟨rfl,by show 13<=13;decide,GP ⟨q.op,q.ah,q.aT,q.now,q.ids,a,f,t,d,c,l,m⟩⟩
def Ib(n:Int):ig:=⟨n,[],[],0,[],0,0,0,false,false,false,0⟩
def opC(n:Int):dH (Ib n) s0=[.i n,.l none 0 0,.l none 0 0,.i 0,.l none 0 0,.u 0,.u 0,.i 0,.i 0,.bool false,.bool false,.bool false,.i 0]:=by
 simp[dH,ma,nm,Ib,s0]
instance{x1 x2 x3 x4 x5 x6 x7 x8 x9 zL zJ zH zG:Value}{n:Int}:Wr [x1,x2,x3,x4,x5,x6,x7,x8,x9,zL,zJ,zH,zG] 0 [.i n,.l none 0 0,.l none 0 0,.i 0,.l none 0 0,.u 0,.u 0,.i 0,.i 0,.bool false,.bool false,.bool false,.i 0] (dH (Ib n) s0):=by
 rw[<-opC n];exact⟨rfl,ad4 _,tV _ _⟩
def wG(l:List UInt8):ig×RS:=
 let x:RS:=(l,false)
 let y:=df 1 x
 if iH 1 x=1 then({q0 with op:=1,ah:=(many Cp Eo (iH 1 y).toNat (df 1 y)).1},(many Cp Eo (iH 1 y).toNat (df 1 y)).2)
 else if iH 1 x=2 then({q0 with op:=2,aT:=(many Co En (iH 1 y).toNat (df 1 y)).1},(many Co En (iH 1 y).toNat (df 1 y)).2)
 else if iH 1 x=3 then({q0 with op:=3,now:=iH 8 y},df 8 y)
 else if iH 1 x=6 then({q0 with op:=6,tw:=vY y,fQ:=iH 8 (df 16 y),rZ:=iH 8 (df 8 (df 16 y)),se:=ZM (df 8 (df 8 (df 16 y))),pN:=ZM (Hu (df 8 (df 8 (df 16 y)))),mV:=ZM (Hu (Hu (df 8 (df 8 (df 16 y))))),ia:=iH 1 (Hu (Hu (Hu (df 8 (df 8 (df 16 y))))))},
  df 1 (Hu (Hu (Hu (df 8 (df 8 (df 16 y)))))))
 else({q0 with op:=iH 1 x,ids:=(many (df 16) vY (iH 1 y).toNat (df 1 y)).1},(many (df 16) vY (iH 1 y).toNat (df 1 y)).2)
def AQ(l:List UInt8):Bool:=(!(wG l).2.2&&decide ((wG l).2.1=[]))&&gQ (wG l).1
def El(x:RS):(Hu x).1.length<=x.1.length:=by
 unfold Hu;split
 ·exact qQ _ _
 ·exact qQ _ _
section
variable {W:World} {L R:LH} {K:VK} {X:WK} {p r:Nat} {l:List UInt8} {q:ig} {s:rE} {A:HP}
def Na(h:∀r,T W (rd r (l,false)::L) (K (.p (some ⟨r,0,none⟩)))):T W L (lO (bs l) K):=λw hs=>oD hs λr w' h'=>h r w' h'
def oe.own{α:Type}{b:OA}{n c e:Nat}{g:α->LV}{xs:List α}(hg:∀x,(g x).length=e)(hn:n=xs.length):oe W (Sep.own b n c e (xs.flatMap g)::L) g e b xs:=λw hw i x hx=>by
 obtain⟨hl,h0|⟨r,sp,hb,qV,zy,hs⟩⟩:=hw.lQ (k:=0) rfl
 ·have:=(adZ.1 hx).1;omega
 ·refine⟨⟨r,0,none⟩,hb,?_⟩;subst hb;rw[dZ,ad1];exact yC (k:=0) hw rfl (nU hg xs i x hx)
def oe.nil{α:Type}{b:OA}{e:Nat}{g:α->LV}:oe W R g e b []:=λw hw i x hx=>by simp at hx
def MI{r1 r2:Nat}{x:RS}(hq:lK W (A::L) q s)(zz:q.ah.length<1000000)(aZ:q.aT.length<1000000)
 (h0:((!x.2&&decide (x.1=[]))&&gQ q)=false->T W L (K (.tuple ⟨[.agg ⟨dH q0 s0⟩,.i 4]⟩)))
 (h1:((!x.2&&decide (x.1=[]))&&gQ q)=true->T W (A::L) (K (.tuple ⟨[.agg ⟨dH q s⟩,.i 0]⟩))):
 T W (Sep.pt r2 (dH q s)::rd p x::Sep.pt r1 (dH q0 s0)::A::L) (iZ.j1 K (some ⟨p,0,none⟩) r1 r2):=by
 unfold iZ.j1;refine Pc (r:=p) ?_;refine nK ?_;cases he:(!x.2&&decide (x.1=[])) with
 |false=>
  rw[he,ae9] at h0;have h0:=h0 rfl;rw[Bool.not_false,gW];apply ws;intros;exact T.dp h0
 |true=>
  rw[he,ae0] at h0 h1;rw[Bool.not_true,cf]
  repeat' first|apply ws;intros|apply wb|with_reducible refine Ja (R:=A::L) hq zz aZ ?_|fail
  cases hw:gQ q with
  |false=>
   have h0:=h0 hw;apply ws;intros;exact T.dp h0
  |true=>
   have h1:=h1 hw;apply ws;intros;exact T.dp h1
def PY(hl:l.length<1099511627776)
 (h0:AQ l=false->T W L (K (.tuple ⟨[.agg ⟨dH q0 s0⟩,.i 4]⟩)))
 (h1:AQ l=true->∀A s,(∀L',lK W (A::L') (wG l).1 s)->T W (A::L) (K (.tuple ⟨[.agg ⟨dH (wG l).1 s⟩,.i 0]⟩))):T W L (iZ (bs l) K):=by
 unfold iZ;refine qL λr1=>?_;refine Na λp=>?_;refine vr ?_;refine rj hl (lA ?_);refine cL ⟨rfl,trivial⟩ ?_;refine qL λr2=>?_;apply ws;intros;have hy:=nj (m:=1) (x:=(l,false)) hl;have hb:=QH (df 1 (l,false));have fin:∀(q:ig)(x:RS)(A:HP)(s:rE),wG l=(q,x)->(∀L',lK W (A::L') q s)->q.ah.length<1000000->q.aT.length<1000000->
  T W (A::Sep.pt r2 (dH q s)::rd p x::Sep.pt r1 (dH q0 s0)::L) (iZ.j1 K (some ⟨p,0,none⟩) r1 r2):=by
  intro q x A s he hq zz aZ;unfold AQ at h0 h1;rw[he] at h0 h1;exact T.perm (MI (hq L) zz aZ h0 λhh=>h1 hh A s hq) (ad7 (l₁:=[A]) (l₂:=[Sep.pt r2 (dH q s),rd p x,Sep.pt r1 (dH q0 s0)])|>.append_right L)
 unfold wG at fin;dsimp only at fin;generalize iH 1 (l,false)=op at fin⊢;generalize df 1 (l,false)=y at fin hy hb⊢;refine bw (λg1=>?_) (λg1=>?_)
 ·have g1:op=1:=by simpa [Ib] using g1
  subst g1;rw[if_pos rfl] at fin;refine QU hy λb c=>?_;have GB:=wR (nx:=Cp) (nv:=Eo) (iH 1 y).toNat (df 1 y);obtain⟨out,ho⟩:∃out,(many Cp Eo (iH 1 y).toNat (df 1 y)).1=out:=⟨_,rfl⟩;obtain⟨z,hz⟩:∃z,(many Cp Eo (iH 1 y).toNat (df 1 y)).2=z:=⟨_,rfl⟩;rw[ho,hz] at fin⊢;rw[ho] at GB;refine tN ?_;refine mZ (b:=b) λqV _=>?_;refine yH (r:=r2) (cs:=dH (Ib 1) s0) (o:=1) (v:=.l b out.length c) (by decide) rfl ?_;exact fin _ _ (Sep.own b out.length c 14 (out.flatMap ak)) ⟨b,c,none,0,none,0⟩ rfl (λ_=>⟨oe.own (λ_=>rfl) rfl,oe.nil,oe.nil,qV,ad4 _,ad4 _⟩) (by show out.length<_;omega) (by show 0<_;decide)
 have g1: ¬op=1:=by simpa [Ib] using g1
 rw[if_neg g1] at fin;refine bw (λg2=>?_) (λg2=>?_)
 ·have g2:op=2:=by simpa [Ib] using g2
  subst g2;rw[if_pos rfl] at fin;refine QR hy λb c=>?_;have GB:=wR (nx:=Co) (nv:=En) (iH 1 y).toNat (df 1 y);obtain⟨out,ho⟩:∃out,(many Co En (iH 1 y).toNat (df 1 y)).1=out:=⟨_,rfl⟩;obtain⟨z,hz⟩:∃z,(many Co En (iH 1 y).toNat (df 1 y)).2=z:=⟨_,rfl⟩;rw[ho,hz] at fin⊢;rw[ho] at GB;refine tN ?_;refine mZ (b:=b) λqV _=>?_;refine yH (r:=r2) (cs:=dH (Ib 2) s0) (o:=2) (v:=.l b out.length c) (by decide) rfl ?_;exact fin _ _ (Sep.own b out.length c 16 (out.flatMap aj)) ⟨none,0,b,c,none,0⟩ rfl (λ_=>⟨oe.nil,oe.own (λ_=>rfl) rfl,oe.nil,ad4 _,qV,ad4 _⟩) (by show 0<_;decide) (by show out.length<_;omega)
 have g2: ¬op=2:=by simpa [Ib] using g2
 rw[if_neg g2] at fin;refine bw (λg3=>?_) (λg3=>?_)
 ·have g3:op=3:=by simpa [Ib] using g3
  subst g3;rw[if_pos rfl] at fin;refine tg hy (lA ?_);refine yH (r:=r2) (cs:=dH (Ib 3) s0) (o:=3) (v:=.i (iH 8 y)) (by decide) rfl ?_;refine eY (e:=1) ?_;exact fin _ _ (Sep.own none 0 0 1 []) s0 rfl (λ_=>⟨oe.nil,oe.nil,oe.nil,ad4 _,ad4 _,ad4 _⟩) (by show 0<_;decide) (by show 0<_;decide)
 have g3: ¬op=3:=by simpa [Ib] using g3
 rw[if_neg g3] at fin;refine bw (λg6=>?_) (λg6=>?_)
 ·have g6:op=6:=by simpa [Ib] using g6
  subst g6;rw[if_pos rfl] at fin;have b1:=nj (m:=16) hy;have b2:=nj (m:=8) b1;have b3:=nj (m:=8) b2;have b4:=Nat.lt_of_le_of_lt (El _) b3;have b5:=Nat.lt_of_le_of_lt (El _) b4;have b6:=Nat.lt_of_le_of_lt (El _) b5;refine E4 hy (xF rfl ?_);refine tg b1 (lA ?_);refine tg b2 (lA ?_);refine E6 b3 (nK ?_);refine E6 b4 (nK ?_);refine E6 b5 (nK ?_);refine rj b6 (lA ?_);refine cL ⟨rfl,rfl,rfl,rfl,rfl,rfl,rfl,trivial⟩ ?_;refine cL rfl ?_;apply ws;intros;refine eY (e:=1) ?_;exact fin _ _ (Sep.own none 0 0 1 []) s0 rfl (λ_=>⟨oe.nil,oe.nil,oe.nil,ad4 _,ad4 _,ad4 _⟩) (by show 0<_;decide) (by show 0<_;decide)
 have g6: ¬op=6:=by simpa [Ib] using g6
 rw[if_neg g6] at fin;refine QT hy λb c=>?_;have GB:=wR (nx:=df 16) (nv:=vY) (iH 1 y).toNat (df 1 y);obtain⟨out,ho⟩:∃out,(many (df 16) vY (iH 1 y).toNat (df 1 y)).1=out:=⟨_,rfl⟩;obtain⟨z,hz⟩:∃z,(many (df 16) vY (iH 1 y).toNat (df 1 y)).2=z:=⟨_,rfl⟩;rw[ho,hz] at fin⊢;rw[ho] at GB;refine tN ?_;refine mZ (b:=b) λqV _=>?_;refine yH (r:=r2) (cs:=dH (Ib op) s0) (o:=4) (v:=.l b out.length c) (by rw[Nr];decide) rfl ?_;exact fin _ _ (Sep.own b out.length c 2 (out.flatMap nm)) ⟨none,0,none,0,b,c⟩ rfl (λ_=>⟨oe.nil,oe.nil,oe.own (λ_=>rfl) rfl,ad4 _,ad4 _,qV⟩) (by show 0<_;decide) (by show 0<_;decide)
end
def IS{n:Int}{i:Nat}(hi:i<8):Go.Sep.byteOf adU n i=Go.Sep.byteOf adU (n+18446744073709551616) i:=by
 unfold Go.Sep.byteOf shr;have h1:(8* (i:Int)).toNat=8* i:=by omega
 have h2:min (8* i) adU.bits=8* i:=by show min (8* i) 64=_;omega
 rw[h1,h2];have hp:(0:Int)<2^(8* i):=Int.pow_pos (by decide);rw[Int.fdiv_eq_ediv_of_nonneg _ (Int.le_of_lt hp),Int.fdiv_eq_ediv_of_nonneg _ (Int.le_of_lt hp)];have hq:(18446744073709551616:Int)=256* 2^(56-8* i)* 2^(8* i):=by
  have:(256:Int)* 2^(56-8* i)* 2^(8* i)=2^(8+(56-8* i)+8* i):=by
   rw[Int.pow_add,Int.pow_add];rfl
  rw[this,show 8+(56-8* i)+8* i=64 by omega];rfl
 rw[hq,Int.add_mul_ediv_right _ _ (by omega)]
 congr 2
 generalize n/2^(8* i)=a;generalize (2:Int)^(56-8* i)=c;simp only[IntKind.wrap,IntKind.bits,IntKind.signed];simp
def K5{n:Int}(h:rl n):jT (le .i64 8 n)=n:=by
 unfold rl at h;by_cases h0:0<=n
 ·obtain⟨m,rfl⟩:=ad8 h0;unfold jT;rw[nI m 8 (by omega)];have h8:(256:Nat)^8=18446744073709551616:=rfl;rw[h8,aeH (by omega),ar (by omega)]
 ·obtain⟨m,hm⟩:=ad8 (show 0<=n+18446744073709551616 by omega);have e:le .i64 8 n=le .i64 8 (m:Int):=by
   unfold le;apply ae6;intro i hi;rw[List.mem_range] at hi;rw[IS hi,hm]
  rw[e];unfold jT;rw[nI m 8 (by omega)];have h8:(256:Nat)^8=18446744073709551616:=rfl;rw[h8,aeH (by omega)];simp[IntKind.wrap,IntKind.bits,IntKind.signed];split<;>omega
def As(n:Nat):∀w:Nat,kd ((aft w).map λi=>UInt8.ofNat (n/256^i%256))=n%256^w
 |0=>by simp[kd,Nat.mod_one]
 |w+1=>by
  rw[List.range_succ,aeu,At,As n w,aen,List.length_range,Nat.mod_pow_succ]
  congr 2
  have e:(UInt8.ofNat (n/256^w%256)).toNat=n/256^w%256:=UInt8.toNat_ofNat_of_lt' (Nat.mod_lt _ (by decide));show(UInt8.ofNat (n/256^w%256)).toNat+256* 0=_;rw[e];omega
def PZ{n:Nat}(h:n<aJ):kd (nb n)=n:=by
 unfold nb;rw[As];exact aeH (by unfold aJ at h;exact h)
section
variable {r:List UInt8} {n:Int} {m:Nat}
def FY(l:List UInt8)(k:Nat)(hl:l.length=k):df k (l++r,false)=(r,false):=by
 unfold df;rw[if_neg (by simp only[aeo,false_or,ad0];omega),qz _ _ k hl]
def Jz(l:List UInt8)(k:Nat)(hl:l.length=k):iH k (l++r,false)=jT l:=by
 unfold iH;rw[if_neg (by simp only[aeo,false_or,ad0];omega),pc _ _ k hl]
def W6(h:0<=n/\n<=255):iH 1 (le .i64 1 n++r,false)=n:=by
 obtain⟨k,rfl⟩:=ad8 h.1;rw[Jz _ _ (ay _ _ _),ki (by rw[ay];omega),nI k 1 (by omega)];have:(256:Nat)^1=256:=rfl;rw[this,aeH (by omega)]
def Wd(h:0<=n/\n<=65535):iH 2 (le .i64 2 n++r,false)=n:=by
 obtain⟨k,rfl⟩:=ad8 h.1;rw[Jz _ _ (ay _ _ _),ki (by rw[ay];omega),nI k 2 (by omega)];have:(256:Nat)^2=65536:=rfl;rw[this,aeH (by omega)]
def rd4(h:0<=n/\n<=4294967295):iH 4 (le .i64 4 n++r,false)=n:=by
 obtain⟨k,rfl⟩:=ad8 h.1;rw[Jz _ _ (ay _ _ _),ki (by rw[ay];omega),nI k 4 (by omega)];have:(256:Nat)^4=4294967296:=rfl;rw[this,aeH (by omega)]
def Wc(h:rl n):iH 8 (le .i64 8 n++r,false)=n:=by
 rw[Jz _ _ (ay _ _ _),K5 h]
def Pv(h:m<aJ):vY (nb m++r,false)=m:=by
 unfold vY K4;rw[if_neg (by simp),if_neg (by show ¬(nb m++r).length<16;rw[ad0,ru];omega)];show kd ((nb m++r).take 16)=m;rw[pc _ _ 16 (ru m),PZ h]
def Xb:df 1 (le .i64 1 n++r,false)=(r,false):=FY _ _ (ay _ _ _)
def We:df 2 (le .i64 2 n++r,false)=(r,false):=FY _ _ (ay _ _ _)
def ZL:df 4 (le .i64 4 n++r,false)=(r,false):=FY _ _ (ay _ _ _)
def Ub:df 8 (le .i64 8 n++r,false)=(r,false):=FY _ _ (ay _ _ _)
def QG:df 16 (nb m++r,false)=(r,false):=FY _ _ (ru _)
def A9(a:aO):Cp (ie a++r,false)=(r,false):=by
 have e:ie a++r=nb a.id++(nb a.dp++(nb a.dq++(nb a.cp++(nb a.cq++(le .i64 4 a.aG++(le .i64 2 a.code++(le .i64 2 a.flags++(le .i64 8 a.ae++r)))))))):=by
  unfold ie;simp[ad5]
 rw[e];unfold Cp;simp only[uM,QG,ZL,We,Ub]
def Ga{a:aO}(ha:vn a)(hg:mI a):Eo (ie a++r,false)=a:=by
 unfold Eo;rw[A9,if_neg (by simp)];have e:ie a++r=nb a.id++(nb a.dp++(nb a.dq++(nb a.cp++(nb a.cq++(le .i64 4 a.aG++(le .i64 2 a.code++(le .i64 2 a.flags++(le .i64 8 a.ae++r)))))))):=by
  unfold ie;simp[ad5]
 rw[e];simp only[uM,QG,ZL,We,Ub];rw[Pv ha.id,Pv ha.dp,Pv ha.dq,Pv ha.cp,Pv ha.cq,rd4 hg.1,Wd hg.2.1,Wd hg.2.2,Wc ha.ae]
def Gg(t:Move):mT t++r=nb t.id++(nb t.aD++(nb t.aq++(nb t.aA++(nb t.pending++(le .i64 4 t.timeout++(le .i64 4 t.aG++(le .i64 2 t.code++(le .i64 2 t.flags++(le .i64 8 t.ae++(le .i64 8 t.born++r)))))))))):=by
 unfold mT;simp[ad5]
def wN(t:Move):Co (mT t++r,false)=(r,false):=by
 rw[Gg];unfold Co;simp only[uM,QG,ZL,We,Ub]
def Ba{t:Move}(ht:u3 t)(hg:j0 t):En (mT t++r,false)=t:=by
 unfold En;rw[wN,if_neg (by simp),Gg];simp only[uM,QG,ZL,We,Ub];rw[Pv ht.id,Pv ht.aD,Pv ht.aq,Pv ht.aA,Pv ht.pending,rd4 hg.1,rd4 hg.2.1,Wd hg.2.2.1,Wd hg.2.2.2,Wc ht.ae,Wc ht.born]
def Bg{α:Type}{nx:RS->RS}{nv:RS->α}{g:α->List UInt8}:∀(l:List α),(∀x∈l,∀r,nx (g x++r,false)=(r,false)/\nv (g x++r,false)=x)->∀r,many nx nv l.length (l.flatMap g++r,false)=(l,(r,false))
 |[],_,r=>rfl
 |x::l,h,r=>by
  rw[aee,oI,aeN,ad5,(h x (by simp) _).1,(h x (by simp) _).2,Bg l (λy hy=>h y (by simp[hy])) r]
  rfl
end
def canon(q:ig):ig:=if q.op=1 then{q0 with op:=1,ah:=q.ah} else if q.op=2 then{q0 with op:=2,aT:=q.aT} else{q0 with op:=3,now:=q.now}
def CX{q:ig}(hw:gQ q=true)(he:cz q=true)(hA:∀a∈q.ah,vn a)(hT:∀t∈q.aT,u3 t):wG (ch q)=(canon q,([],false)):=by
 have UE:q.op=1\/q.op=2\/q.op=3:=of_decide_eq_true he;have hf:=nA hw;unfold wG ch canon;dsimp only;rw[W6 (by omega),Xb];by_cases o1:q.op=1
 ·have Aa:q.ah.length<=8/\∀a∈q.ah,mI a:=by rcases hf with h|h|h|h|h<;>first|exact h.2|omega
  rw[if_pos o1,if_pos o1,if_pos o1,W6 (by omega),Xb,adY];have:=Bg (nx:=Cp) (nv:=Eo) (g:=ie) q.ah (λa ha r=>⟨A9 a,Ga (hA a ha) (Aa.2 a ha)⟩) [];rw[aei] at this;rw[this]
 by_cases o2:q.op=2
 ·have Aa:q.aT.length<=8/\∀a∈q.aT,j0 a:=by rcases hf with h|h|h|h|h<;>first|exact h.2|omega
  rw[if_neg o1,if_neg o1,if_neg o1,if_pos o2,if_pos o2,if_pos o2,W6 (by omega),Xb,adY];have:=Bg (nx:=Co) (nv:=En) (g:=mT) q.aT (λa ha r=>⟨wN a,Ba (hT a ha) (Aa.2 a ha)⟩) [];rw[aei] at this;rw[this]
 ·have o3:q.op=3:=by omega
  have Aa:0<=q.now/\q.now<=1099511627776:=by rcases hf with h|h|h|h|h<;>first|exact h.2|omega
  rw[if_neg o1,if_neg o1,if_neg o1,if_neg o2,if_neg o2,if_neg o2,if_pos o3,if_pos o3];have e8:le .i64 8 q.now=le .i64 8 q.now++[]:=(aei _).symm;rw[e8,Wc (by unfold rl;omega),Ub]
def BM(m:Model){q:ig}(he:cz q=true):aE m (canon q)=aE m q/\jz (canon q)=jz q:=by
 have UE:q.op=1\/q.op=2\/q.op=3:=of_decide_eq_true he;unfold canon;by_cases o1:q.op=1
 ·rw[if_pos o1];unfold aE jz;simp[o1]
 by_cases o2:q.op=2
 ·rw[if_neg o1,if_pos o2];unfold aE jz;simp[o2]
 ·have o3:q.op=3:=by omega
  rw[if_neg o1,if_neg o2];unfold aE jz;simp[o3]
def BN{q:ig}(hw:gQ q=true)(he:cz q=true):gQ (canon q)=true/\cz (canon q)=true:=by
 have UE:q.op=1\/q.op=2\/q.op=3:=of_decide_eq_true he;unfold gQ kX lR at *;rw[(BM ⟨[],[],0,0⟩ he).2];unfold cz canon;by_cases o1:q.op=1
 ·simp[o1] at hw⊢;exact hw
 by_cases o2:q.op=2
 ·simp[o2] at hw⊢;exact hw
 ·have o3:q.op=3:=by omega
  simp[o3] at hw⊢;exact hw
def FX{q:ig}(hw:gQ q=true)(he:cz q=true)(hA:∀a∈q.ah,vn a)(hT:∀t∈q.aT,u3 t):AQ (ch q)=true:=by
 unfold AQ;rw[CX hw he hA hT,(BN hw he).1];rfl
section
variable {W:World} {L R:LH} {K:VK} {X:WK} {p:Nat} {b:ax}
def LZ{q:Core}{f:Core->LH}[i:Lc (dP p) L q f](hl:q.vs.length<1000000)(h:T W (f {q with vs:=[]}) (K (.tuple ⟨[]⟩))):T W L (jh (some ⟨p,0,none⟩) K):=by
 refine mK (p:=p) λb1 c1 b2 c2 b3 c3 hp R2 g1 g2 Ob=>?_;unfold jh fy;apply ws;intros;refine mZ (b:=b1) λqV Dt=>?_;refine M5 (b:=b1) (by rw[ky,Dt];simp) (λv hv=>?_) λzs=>?_
 ·simp only[Builtin.zeroCells,Array.toList_map,aeI] at hv;obtain⟨j,_,rfl⟩:=hv;have:(⟨[Value.nilFunc]⟩:Array Value)[j%(⟨[Value.nilFunc]⟩:Array Value).size]! =.nilFunc:=by
   have:j%(⟨[Value.nilFunc]⟩:Array Value).size=0:=Nat.mod_one j;rw[this];rfl
  rw[this];rfl
 apply ws;intros;refine vw (i:=0) (by omega) ?_;refine xG (b:=b1) (i:=0) (by omega) ?_;apply ws;intros;rw[Nat.zero_mul,afm];exact Ob [] {q with vs:=[]} b1 c1 b2 c2 b3 c3 hp _ g1 g2 h
def FE{α:Type}{g:α->LV}{e l:Nat}(h:T W (ox g e l (p,[])::L) X):T W (Sep.pt l [.l none 0 0,.p (some (ad p 0))]::L) X:=λw hw=>by
 have h2:=(hw.push (A:=own none 0 0 e []) (nO e)).perm (aem.swap _ _ _);exact h w (St.nV (none,0) (St.ng [_,_] L h2))
def OP(h:∀p la lk ti tn,T W (dP p ⟨la,lk,ti,tn,[],[],[],0,0⟩::ox ak 14 la (p,[])::ox aI 33 lk (p,[])::lz ti (λ_=>none,0)::lz tn (λ_=>none,0)::L) (K (.p (some ⟨p,0,none⟩)))):T W L (qi K):=by
 unfold qi;refine Tn λti=>?_;refine vr ?_;refine Tn λtn=>?_;refine vr ?_;refine cL ⟨rfl,rfl,trivial⟩ ?_;refine qL λr=>?_;unfold mJ oB;refine vt ?_;refine cL ⟨rfl,trivial⟩ ?_;refine qL λla=>?_;refine vr ?_;refine cL ⟨rfl,trivial⟩ ?_;refine qL λlk=>?_;refine vr ?_;refine yH (r:=r) (cs:=[.l none 0 0,.p none,.p none,.p (some ⟨ti,0,none⟩),.p (some ⟨tn,0,none⟩),.l none 0 0,.l none 0 0,.i 0,.i 0]) (o:=1) (v:=.p (some ⟨la,0,none⟩)) (by show 1<9;decide) rfl ?_;refine yH (r:=r) (cs:=[.l none 0 0,.p (some ⟨la,0,none⟩),.p none,.p (some ⟨ti,0,none⟩),.p (some ⟨tn,0,none⟩),.l none 0 0,.l none 0 0,.i 0,.i 0]) (o:=2) (v:=.p (some ⟨lk,0,none⟩)) (by show 2<9;decide) rfl ?_;refine FE (g:=aI) (e:=33) ?_;refine T.HZ (FE (g:=ak) (e:=14) ?_);refine eY (e:=4) (eY (e:=2) (eY (e:=1) ?_));have:=vR (W:=W) (p:=r) (q:=⟨la,lk,ti,tn,[],[],[],0,0⟩) (b1:=none) (c1:=0) (b2:=none) (c2:=0) (b3:=none) (c3:=0) (h:=[]) (X:=K (.p (some ⟨r,0,none⟩))) (λj hj x y hx=>by simp at hx) (aem.refl _) (h r la lk ti tn);refine T.perm this ?_;exact(ad7 (l₁:=[_,_,_,_,_]) (l₂:=[_])|>.append_right (_::_::L)).trans (aem.append_left [_,_,_,_,_,_] (aem.swap _ _ _))
def Dp{α:Type}{key:α->Nat}{l:List α}(hn:(l.map key).Nodup){i:Nat}{x:α}(hx:l[i]?=some x):(l.take i).find? (λa=>key a=key x)=none:=by
 obtain⟨hi,rfl⟩:=adZ.1 hx;rw[afh];intro a ha hk;obtain⟨j,hj,rfl⟩:=List.getElem_of_mem ha;rw[ad2] at hj;rw[List.getElem_take] at hk;have:=ae3.1 hn j i (by simpa using by omega) (by simpa using hi) (by omega);simp only[List.getElem_map] at this;exact this (by simpa using hk)
def Cf(l:List Kept)(j:Nat):cM 0 (l.take j)=(cM 0 l).take j:=by
 apply afg;intro i;rw[iR,afo,afo,iR];split<;>rfl
def VV(hg:Good b){sa sk:OA}{ca ck:Nat}[hh:Has R L](hA:oe W R ak 14 sa b.ah)(hK:oe W R aI 33 sk b.kept)
 (h:∀p,T W (bj p (b,[])::L) (K (.tuple ⟨[.p (some ⟨p,0,none⟩),.i 0]⟩))):T W L (cx sa b.ah.length ca sk b.kept.length ck b.clock b.ae K):=by
 have lu:=hg.lu;have many:=hg.many;have rK:=hg.ae;have Yd:=hg.clock;unfold cx;refine OP λp la lk ti tn=>?_;refine vr ?_;refine dO (by simp;omega) ?_;unfold cx.j3;rw[show decide (((b.kept.length:Nat):Int)>96)=false by simp;omega,cf];unfold cx.j4;rw[show decide (b.clock<0)=false by simp;omega,cf];unfold cx.j5;rw[show decide (b.clock>1099511627776)=false by simp;omega,cf];refine dO (by simp;omega) ?_;rw[show decide (b.ae>1099511627776)=false by simp;omega];unfold cx.j1;rw[cf];intro w Mm;refine⟨λvv w=>∃(i:Nat)(vs:LV),i<=b.ah.length/\vs.length=i/\vv=[.p none,.i 0,.p (some ⟨p,0,none⟩),.l sa b.ah.length ca,.i (b.ah.length:Int),.i (i:Int)]/\
                                                                                                                                                                     St W w (dP p ⟨la,lk,ti,tn,vs,[],[],0,0⟩::ox ak 14 la (p,b.ah.take i)::ox aI 33 lk (p,[])::lz ti (Eu (b.ah.take i))::lz tn (λ_=>none,0)::L),
  λvs _=>match vs with|[_,_,_,_,_,.int _ d]=>b.ah.length-d.toNat|_=>0,⟨0,[],ad6 _,rfl,rfl,Mm⟩,?_⟩
 rintro p2 n3 p3 rJ pL rr n4 n5 w2 ⟨i,vs,hi,hvs,e,fo⟩;cases e
 refine T.at ?_ fo;have e5:=mh i;refine dX (λg1=>?_) (λg1=>?_)
 ·have aZ:i<b.ah.length:=by omega
  have gx:=adX aZ;generalize b.ah[i]=x at gx;have Lw:=Dp (key:=λx:aO=>x.id) hg.ids gx;have kR:(Eu (b.ah.take i)).1 x.id=none:=by show afA _ _=_;rw[mW (key:=λx:aO=>x.id) Lw];rfl
  have zx:(b.ah.take i).length=i:=by rw[ad2];omega
  have hsn:=wX (key:=λx:aO=>x.id) Lw;have oJ:b.ah.take (i+1)=b.ah.take i++[x]:=by rw[aeg,gx];rfl
  refine kf hA ⟨by omega,by omega⟩ rfl λa ha=>?_;rw[adY];refine ke hA ha gx rfl ?_;apply ws;intros;refine zm (t:=ti) (x:=Eu (b.ah.take i)) ?_;rw[kR];simp only[aeE,aeQ];apply ws;intros;refine Pu (p:=p) (l:=la) (x:=x) (items:=b.ah.take i) (by rw[zx];omega) (by show vs.length<_;omega) λr3 r4=>?_;apply ws;intros;refine Kv (t:=ti) (x:=Eu (b.ah.take i)) (by show(b.ah.take i).length<=1000;omega) kR ?_;apply ws;intros;rw[e5];refine T.drop (T.drop (T.drop ?_));refine λw3 h3=>⟨⟨i+1,vs++[xt r3 r4],aZ,by simp;omega,rfl,?_⟩,by show b.ah.length-((i+1:Nat):Int).toNat<b.ah.length-(i:Int).toNat;omega⟩;rw[oJ];rw[show Eu (b.ah.take i++[x])=_ from hsn];exact h3
 ·have gF:i=b.ah.length:=by omega
  subst gF;rw[ad'];intro w3 Xt;refine⟨λvv w=>∃(j:Nat)(vs:LV),j<=b.kept.length/\vs.length<=1000+j/\vv=[.p none,.i 0,.p (some ⟨p,0,none⟩),.l sk b.kept.length ck,.i (b.kept.length:Int),.i (j:Int)]/\
              St W w (dP p ⟨la,lk,ti,tn,vs,cM 0 (b.kept.take j),(b.kept.take j).filterMap dh,0,0⟩::ox ak 14 la (p,b.ah)::ox aI 33 lk (p,b.kept.take j)::lz ti (Eu b.ah)::lz tn (B8 (b.kept.take j))::L),
   λvs _=>match vs with|[_,_,_,_,_,.int _ d]=>b.kept.length-d.toNat|_=>0,⟨0,vs,ad6 _,by omega,rfl,Xt⟩,?_⟩
  rintro p7 n8 p8 zt yJ yK n9 n10 w5 ⟨j,uA,hj,aau,e,JY⟩;cases e
  refine T.at ?_ JY;have e6:=mh j;refine dX (λg1=>?_) (λg1=>?_)
  ·have aZ:j<b.kept.length:=by omega
   have gx:=adX aZ;have gk:=hg.Ml _ (aej aZ);have Lr:∀k∈b.kept.take j,k.move.ae<(b.kept[j]'aZ).move.ae:=λk hk=>by
    obtain⟨m,hm,rfl⟩:=List.getElem_of_mem hk;rw[ad2] at hm;rw[List.getElem_take];exact ae3.1 hg.rising m j (by omega) aZ (by omega)
   generalize b.kept[j]=x at gx gk Lr;have Lw:=Dp (key:=λx:Kept=>x.move.id) hg.names gx;have kR:(B8 (b.kept.take j)).1 x.move.id=none:=by show afA _ _=_;rw[mW (key:=λx:Kept=>x.move.id) Lw];rfl
   have zx:(b.kept.take j).length=j:=by rw[ad2];omega
   have hsn:=wX (key:=λx:Kept=>x.move.id) Lw;have oJ:b.kept.take (j+1)=b.kept.take j++[x]:=by rw[aeg,gx];rfl
   have XF:oT (cM 0 (b.kept.take j)):=by rw[Cf];exact List.Pairwise.sublist (List.take_sublist _ _) hg.tU
   refine kf hK ⟨by omega,by omega⟩ rfl λa ha=>?_;rw[adY];refine ke hK ha gx rfl ?_;apply ws;intros;rename_i r2;refine zm (t:=tn) (x:=B8 (b.kept.take j)) ?_;rw[kR];simp only[aeE,aeQ];apply ws;intros;refine dO (by have:=gk.fate;simp;omega) ?_;apply ws;intros;refine dO (by have:=gk.fate;simp;omega) ?_;apply ws;intros;refine I2 (l:=lk) ?_;rw[zx];apply ws;intros;refine Kf (p:=p) XF (by rw[iQ];omega) (λy hy=>?_) ?_
   ·obtain⟨k,hk,e⟩:=wx hy;rw[e];exact Lr k hk
   apply ws;intros;unfold cx.j2;rw[Bool.not_true,cf];apply ws;intros;refine Pm (p:=p) (l:=lk) (x:=x) (items:=b.kept.take j) (by rw[zx];omega) (by show uA.length<_;omega) λr3 r4=>?_;rw[zx];apply ws;intros;refine Kv (t:=tn) (x:=B8 (b.kept.take j)) (by show(b.kept.take j).length<=1000;omega) kR ?_;apply ws;intros;refine Oy (k:=x) gk ?_;apply ws;intros;rename_i r5;rw[e6];have Cr:cM 0 (b.kept.take (j+1))=cM 0 (b.kept.take j)++[(x.move.ae,(j:Int))]:=by rw[oJ,rq,zx,ad1]
   have X2:B8 (b.kept.take (j+1))=(sr (B8 (b.kept.take j)).1 x.move.id (some (j:Int)),(B8 (b.kept.take j)).2+1):=by rw[oJ];rw[show B8 (b.kept.take j++[x])=_ from hsn,zx]
   cases hd:dh x with
   |none=>
    simp only[aeE];apply ws;intros;refine T.drop (T.drop (T.drop (T.drop ?_)));refine λw3 h3=>⟨⟨j+1,uA++[ra r3 r4],aZ,by simp;omega,rfl,?_⟩,by show b.kept.length-((j+1:Nat):Int).toNat<b.kept.length-(j:Int).toNat;omega⟩;have Ly:(b.kept.take (j+1)).filterMap dh=(b.kept.take j).filterMap dh:=by rw[oJ,List.filterMap_append];simp[hd]
    rw[Cr,X2,Ly,oJ];exact h3
   |some y=>
    have ey:IH x=y:=by
     unfold dh at hd;split at hd
     ·cases hd;rfl
     ·cases hd
    simp only[aev];rw[ey];apply ws;intros;simp only[dZ,ad1];refine ET (p:=p) (e':=(b.kept.take j).filterMap dh++[y]) (by
     have:=List.length_filterMap_le dh (b.kept.take j)
     show((b.kept.take j).filterMap dh).length<_
     omega) (aem.refl _) ?_
    apply ws;intros;refine T.drop (T.drop (T.drop (T.drop ?_)));refine λw3 h3=>⟨⟨j+1,uA++[ra r3 r4],aZ,by simp;omega,rfl,?_⟩,by show b.kept.length-((j+1:Nat):Int).toNat<b.kept.length-(j:Int).toNat;omega⟩;have Ly:(b.kept.take (j+1)).filterMap dh=(b.kept.take j).filterMap dh++[y]:=by rw[oJ,List.filterMap_append];simp[hd]
    rw[Cr,X2,Ly,oJ];exact h3
  ·have gF:j=b.kept.length:=by omega
   subst gF;rw[ad'];apply ws;intros;refine HN (p:=p) ?_;apply ws;intros;refine HM (p:=p) ?_;apply ws;intros;refine LZ (p:=p) (by show uA.length<_;omega) ?_;apply ws;intros;have fin:=h p;intro w7 hw7;have h2:=hw7.push (A:=rC []) trivial;refine Ai (p:=p) (la:=la) (lk:=lk) (ti:=ti) (tn:=tn) (vs:=[]) (bx:=[]) (c:=c7 b) (hs:=[]) (R:=L) trivial (λw hw=>fin w (St.and_intro hg hw)) w7 ?_;exact h2.perm (ad7 (l₁:=[rC []]) (l₂:=[_,_,_,_,_])|>.append_right L)
end
def l7(k:Kept):List UInt8:=mT k.asked++mT k.move++le .i64 1 k.fate
def rT(k:Kept):(l7 k).length=217:=by unfold l7;rw[ad0,ad0,oH,oH,ay]
def ve(b:ax):List UInt8:=le .i64 1 1++le .i64 8 b.clock++le .i64 8 b.ae++le .i64 2 (b.ah.length:Int)++le .i64 2 (b.kept.length:Int)
def Dx(b:ax):(ve b).length=21:=by simp only[ve,ad0,ay]
def bO(b:ax):List UInt8:=ve b++b.ah.flatMap ie++b.kept.flatMap l7
section
variable {W:World} {L R:LH} {K:VK} {X:WK} {p:Nat} {b:ax} {hs:List C} {f:ax×List C->LH}
def Fe[i:Lc (bj p) L (b,hs) f](h:T W L (K (.i b.clock))):T W L (iv (some ⟨p,0,none⟩) K):=by
 have hL:f (b,hs)=L:=i.same;refine Ht (p:=p) λla lk ti tn vs bx R hg hc l9=>?_;have fin:=l9 [] b hs vs bx _ hg hc (by rw[hL];exact h);unfold iv;apply ws;intros;exact fin
def Kq[i:Lc (bj p) L (b,hs) f](h:T W L (K (.i b.ae))):T W L (jX (some ⟨p,0,none⟩) K):=by
 have hL:f (b,hs)=L:=i.same;refine Ht (p:=p) λla lk ti tn vs bx R hg hc l9=>?_;have fin:=l9 [] b hs vs bx _ hg hc (by rw[hL];exact h);unfold jX;apply ws;intros;exact fin
def vW[i:Lc (bj p) L (b,hs) f](h:∀bb c,T W (own bb b.ah.length c 14 (b.ah.flatMap ak)::L) (K (.l bb b.ah.length c))):T W L (fR (some ⟨p,0,none⟩) K):=by
 have hL:f (b,hs)=L:=i.same;refine Ht (p:=p) λla lk ti tn vs bx R hg hc l9=>?_;have lu:=hg.lu;unfold fR;apply ws;intros;refine V6 (l:=la) (by show b.ah.length<_;omega) λbb c=>?_;apply ws;intros;exact l9 [_] b hs vs bx _ hg hc (by rw[hL];exact h bb c)
def E9[i:Lc (bj p) L (b,hs) f](h:∀bb c,T W (own bb b.kept.length c 33 (b.kept.flatMap aI)::L) (K (.l bb b.kept.length c))):T W L (iu (some ⟨p,0,none⟩) K):=by
 have hL:f (b,hs)=L:=i.same;refine Ht (p:=p) λla lk ti tn vs bx R hg hc l9=>?_;have many:=hg.many;unfold iu;apply ws;intros;refine V0 (l:=lk) (by show b.kept.length<_;omega) λbb c=>?_;apply ws;intros;exact l9 [_] b hs vs bx _ hg hc (by rw[hL];exact h bb c)
def CP[i:Lc (bj p) L (b,hs) f](h:T W L (K (.string (bs (bO b))))):T W L (pn (some ⟨p,0,none⟩) K):=by
 refine mn (p:=p) λhg=>?_;have lu:=hg.lu;have many:=hg.many;unfold pn;refine M6 ?_;refine qL λr1=>?_;refine M7 ?_;refine pW (by simp) (wu ?_);refine Fe (p:=p) (lA ?_);refine uV (by simp only[ad0,aes,ay];omega) (wu ?_);refine Kq (p:=p) (lA ?_);refine uV (by simp only[ad0,aes,ay];omega) (wu ?_);refine vW (p:=p) λb1 c1=>?_;refine tN ?_;refine Aj (by simp only[ad0,aes,ay];omega) (wu ?_);refine E9 (p:=p) λb2 c2=>?_;refine tN ?_;refine Aj (by simp only[ad0,aes,ay];omega) (wu ?_);refine vW (p:=p) λb3 c3=>?_;refine tN ?_;have e0:[]++le .i64 1 1++le .i64 8 b.clock++le .i64 8 b.ae++le .i64 2 (b.ah.length:Int)++le .i64 2 (b.kept.length:Int)=ve b:=by unfold ve;simp
 rw[e0];intro w Mm;refine⟨λvv w=>∃i:Nat,i<=b.ah.length/\vv=[.string .empty,.p (some (ad r1 0)),.l b3 b.ah.length c3,.i (b.ah.length:Int),.i (i:Int)]/\
    St W w (own b3 b.ah.length c3 14 (b.ah.flatMap ak)::own b2 b.kept.length c2 33 (b.kept.flatMap aI)::own b1 b.ah.length c1 14 (b.ah.flatMap ak)::buf r1 (ve b++(b.ah.take i).flatMap ie)::L),
  λvs _=>match vs with|[_,_,_,_,.int _ d]=>b.ah.length-d.toNat|_=>0,⟨0,ad6 _,rfl,by simpa using Mm⟩,?_⟩
 rintro s1 a1 zt yJ yK n3 n4 w2 ⟨i,hi,e,fo⟩;cases e
 refine T.at ?_ fo;have e5:=mh i;have hlen:(ve b++(b.ah.take i).flatMap ie).length<=21+32* 96:=by
  rw[ad0,Dx,dR oS,ad2];have:min i b.ah.length* 96<=32* 96:=aeL _ (by omega);omega
 refine dX (λg1=>?_) (λg1=>?_)
 ·have aZ:i<b.ah.length:=by omega
  have gx:=adX aZ;have gm:=(hg.MB _ (aej aZ)).um;generalize b.ah[i]=x at gx gm;refine bR (b:=b3) ⟨by omega,by omega⟩ λrb hb=>?_;subst hb;rw[adY];refine dA (λ_=>rfl) gx ?_
  repeat' first|apply ws;intros|apply wb|with_reducible refine OX gm (by omega) ?_|fail
  rw[e5];refine T.drop λw3 h3=>⟨⟨i+1,aZ,rfl,?_⟩,by show b.ah.length-((i+1:Nat):Int).toNat<b.ah.length-(i:Int).toNat;omega⟩;rw[aeg,gx,aeV];simpa [ad5] using h3
 ·have gF:i=b.ah.length:=by omega
  subst gF;rw[ad'] at hlen⊢;refine E9 (p:=p) λb5 c5=>?_;refine tN ?_;intro w4 hw4;refine⟨λvv w=>∃j:Nat,j<=b.kept.length/\vv=[.string .empty,.p (some (ad r1 0)),.l b5 b.kept.length c5,.i (b.kept.length:Int),.i (j:Int)]/\
              St W w (own b5 b.kept.length c5 33 (b.kept.flatMap aI)::own b3 b.ah.length c3 14 (b.ah.flatMap ak)::own b2 b.kept.length c2 33 (b.kept.flatMap aI)::own b1 b.ah.length c1 14 (b.ah.flatMap ak)::buf r1 (ve b++b.ah.flatMap ie++(b.kept.take j).flatMap l7)::L),
   λvs _=>match vs with|[_,_,_,_,.int _ d]=>b.kept.length-d.toNat|_=>0,⟨0,ad6 _,rfl,by simpa using hw4⟩,?_⟩
  rintro s2 a3 ZI W3 V9 n5 n6 w5 ⟨j,hj,e,JY⟩;cases e
  refine T.at ?_ JY;have e6:=mh j;have xa:(ve b++b.ah.flatMap ie++(b.kept.take j).flatMap l7).length<=21+32* 96+96* 217:=by
   rw[ad0,dR rT,ad2];have:min j b.kept.length* 217<=96* 217:=aeL _ (by omega);omega
  refine dX (λg1=>?_) (λg1=>?_)
  ·have aZ:j<b.kept.length:=by omega
   have gx:=adX aZ;have gm:=hg.Ml _ (aej aZ);generalize b.kept[j]=x at gx gm;refine bR (b:=b5) ⟨by omega,by omega⟩ λrb hb=>?_;subst hb;rw[adY];refine dA (λ_=>rfl) gx ?_
   repeat' first|apply ws;intros|apply wb|with_reducible refine HO gm.IY (by omega) ?_|fail
   refine HO gm.JJ (by rw[ad0,oH];omega) (wu ?_)
   repeat' first|apply ws;intros|apply wb|with_reducible refine pW (by simp only[ad0,oH] at xa⊢;omega) ?_|fail
   rw[e6];refine T.drop λw3 h3=>⟨⟨j+1,aZ,rfl,?_⟩,by show b.kept.length-((j+1:Nat):Int).toNat<b.kept.length-(j:Int).toNat;omega⟩;rw[aeg,gx,aeV];simpa [ad5,l7] using h3
  ·have gF:j=b.kept.length:=by omega
   subst gF;rw[ad'];refine qk (p:=r1) (P9 ?_);exact T.dp h
end
section
variable {W:World} {L R:LH} {K:VK} {X:WK} {p:Nat} {b:ax}
def vz{b:ax}(hg:Good b):(bO b).length=21+b.ah.length* 96+b.kept.length* 217:=by
 unfold bO;rw[ad0,ad0,Dx,dR oS,dR rT]
def FL(hg:Good b)(h:∀p,T W (bj p (b,[])::L) (K (.tuple ⟨[.p (some ⟨p,0,none⟩),.i 0]⟩))):T W L (k8 (bs (bO b)) K):=by
 have lu:=hg.lu;have many:=hg.many;have rK:=hg.ae;have Yd:=hg.clock;have hlen:=vz hg;have sW:bO b=le .i64 1 1++(le .i64 8 b.clock++(le .i64 8 b.ae++(le .i64 2 (b.ah.length:Int)++(le .i64 2 (b.kept.length:Int)++(b.ah.flatMap ie++b.kept.flatMap l7))))):=by
  unfold bO ve;simp only[ad5]
 unfold k8;refine Na λr=>?_;refine vr ?_;refine rj (by show(bO b).length<_;omega) (lA ?_);rw[sW];rw[W6 (by omega),Xb];refine dO (by decide) ?_;have Q9:(le .i64 8 b.clock++(le .i64 8 b.ae++(le .i64 2 (b.ah.length:Int)++(le .i64 2 (b.kept.length:Int)++(b.ah.flatMap ie++b.kept.flatMap l7))))).length<1099511627776:=by
  rw[sW,ad0] at hlen;omega
 refine tg Q9 (lA ?_);rw[Wc (by unfold rl;omega),Ub];rw[ad0] at Q9;have PE:(le .i64 8 b.ae++(le .i64 2 (b.ah.length:Int)++(le .i64 2 (b.kept.length:Int)++(b.ah.flatMap ie++b.kept.flatMap l7)))).length<1099511627776:=by omega
 refine tg PE (lA ?_);rw[Wc (by unfold rl;omega),Ub];rw[ad0] at PE;have Z0:(le .i64 2 (b.ah.length:Int)++(le .i64 2 (b.kept.length:Int)++(b.ah.flatMap ie++b.kept.flatMap l7))).length<1099511627776:=by omega
 refine Ak Z0 (lA ?_);rw[Wd (by omega),We];rw[ad0] at Z0;have hl5:(le .i64 2 (b.kept.length:Int)++(b.ah.flatMap ie++b.kept.flatMap l7)).length<1099511627776:=by omega
 refine Ak hl5 (lA ?_);rw[Wd (by omega),We];refine uW (r:=r) (nK ?_);rw[cf];refine R8 (r:=r) (lA ?_);have Bs:(b.ah.flatMap ie++b.kept.flatMap l7).length=b.ah.length* 96+b.kept.length* 217:=by
  rw[ad0,dR oS,dR rT]
 have e1:adU.wrap ((b.ah.length:Int)* 96)=(b.ah.length:Int)* 96:=ar (by omega);have e2:adU.wrap ((b.kept.length:Int)* 217)=(b.kept.length:Int)* 217:=ar (by omega);have e3:adU.wrap ((b.ah.length:Int)* 96+(b.kept.length:Int)* 217)=(b.ah.length:Int)* 96+(b.kept.length:Int)* 217:=ar (by omega);rw[e1,e2,e3];rw[if_neg (by simp),show((((b.ah.flatMap ie++b.kept.flatMap l7).length:Nat):Int)!=(b.ah.length:Int)* 96+(b.kept.length:Int)* 217)=false by rw[Bs];simp];unfold k8.j1;rw[cf];refine eY (e:=14) ?_;intro w Mm;refine⟨λvv w=>∃(i:Nat)(bo:OA)(cc:Nat),i<=b.ah.length/\vv=[.p none,.i 0,.p (some ⟨r,0,none⟩),.i b.clock,.i b.ae,.i (b.kept.length:Int),.l bo (b.ah.take i).length cc,.i (b.ah.length:Int),.i (i:Int)]/\
                                                                                                                                                                                                                                                                                                      St W w (own bo (b.ah.take i).length cc 14 ((b.ah.take i).flatMap ak)::rd r ((b.ah.drop i).flatMap ie++b.kept.flatMap l7,false)::L),
  λvs _=>match vs with|[_,_,_,_,_,_,_,_,.int _ d]=>b.ah.length-d.toNat|_=>0,⟨0,none,0,ad6 _,rfl,Mm⟩,?_⟩
 rintro p2 n6 p3 n7 n8 n9 bo V8 cc n10 Wh w2 ⟨i,b0,c0,hi,e,fo⟩;cases e
 refine T.at ?_ fo;have e5:=mh i;have zx:(b.ah.take i).length=i:=by rw[ad2];omega
 refine dX (λg1=>?_) (λg1=>?_)
 ·have aZ:i<b.ah.length:=by omega
  have gm:=hg.MB _ (aej aZ);have gx:=adX aZ;have X':b.ah.drop i=b.ah[i]::b.ah.drop (i+1):=aeD aZ;generalize b.ah[i]=x at gm gx X';have zy:(b.ah.drop i).flatMap ie++b.kept.flatMap l7=ie x++((b.ah.drop (i+1)).flatMap ie++b.kept.flatMap l7):=by rw[X',aeN,ad5]
  have Dt:((b.ah.drop i).flatMap ie++b.kept.flatMap l7).length<1099511627776:=by
   rw[ad0,dR oS,dR rT,ad9];have:(b.ah.length-i)* 96<=32* 96:=aeL _ (by omega);have:b.kept.length* 217<=96* 217:=aeL _ (by omega);omega
  rw[zy] at Dt⊢;refine OY Dt ?_;rw[A9,Ga gm.ok gm.um];apply ws;intros;refine hG (b:=bo) (x:=x) rfl rfl rfl (by omega) (by omega) (eX _) λb2 c2=>?_;rw[e5];have oJ:b.ah.take (i+1)=b.ah.take i++[x]:=by rw[aeg,gx];rfl
  refine T.drop λw3 h3=>⟨⟨i+1,b2,c2,aZ,?_,?_⟩,by show b.ah.length-((i+1:Nat):Int).toNat<b.ah.length-(i:Int).toNat;omega⟩
  ·rw[oJ];simp
  ·rw[oJ];simpa using h3
 ·have gF:i=b.ah.length:=by omega
  subst gF;rw[ad',List.drop_length,List.flatMap_nil,aeA];refine eY (e:=33) ?_;intro w3 Xt;refine⟨λvv w=>∃(j:Nat)(bk:OA)(ck:Nat),j<=b.kept.length/\vv=[.p none,.i 0,.p (some ⟨r,0,none⟩),.i b.clock,.i b.ae,.l bo b.ah.length cc,.l bk (b.kept.take j).length ck,.i (b.kept.length:Int),.i (j:Int)]/\
              St W w (own bk (b.kept.take j).length ck 33 ((b.kept.take j).flatMap aI)::own bo b.ah.length cc 14 (b.ah.flatMap ak)::rd r ((b.kept.drop j).flatMap l7,false)::L),
   λvs _=>match vs with|[_,_,_,_,_,_,_,_,.int _ d]=>b.kept.length-d.toNat|_=>0,⟨0,none,0,ad6 _,rfl,Xt⟩,?_⟩
  rintro p4 SH p5 Mk Wg rJ pL rr bk yJ ck Wf uM w5 ⟨j,b1,c1,hj,e,JY⟩;cases e
  refine T.at ?_ JY;have e6:=mh j;have adB:(b.kept.take j).length=j:=by rw[ad2];omega
  refine dX (λg2=>?_) (λg2=>?_)
  ·have aZ:j<b.kept.length:=by omega
   have gm:=hg.Ml _ (aej aZ);have gx:=adX aZ;have X':b.kept.drop j=b.kept[j]::b.kept.drop (j+1):=aeD aZ;generalize b.kept[j]=x at gm gx X';have zy:(b.kept.drop j).flatMap l7=mT x.asked++(mT x.move++(le .i64 1 x.fate++(b.kept.drop (j+1)).flatMap l7)):=by rw[X',aeN];simp[l7,ad5]
   have Dt:((b.kept.drop j).flatMap l7).length<1099511627776:=by
    rw[dR rT,ad9];have:(b.kept.length-j)* 217<=96* 217:=aeL _ (by omega);omega
   rw[zy] at Dt⊢;have XT:(mT x.move++(le .i64 1 x.fate++(b.kept.drop (j+1)).flatMap l7)).length<1099511627776:=by rw[ad0] at Dt;omega
   have aaG:(le .i64 1 x.fate++(b.kept.drop (j+1)).flatMap l7).length<1099511627776:=by rw[ad0] at XT;omega
   refine HQ Dt ?_;rw[wN,Ba gm.asked gm.IY];apply ws;intros;refine HQ XT ?_;rw[wN,Ba gm.move gm.JJ];apply ws;intros;refine rj aaG (lA ?_);rw[W6 (by have:=gm.fate;omega),Xb];refine cL ⟨rfl,rfl,rfl,trivial⟩ ?_;refine cL ⟨rfl,trivial⟩ ?_;refine qL λr3=>?_;refine hG (b:=bk) (x:=x) (by show(aj x.asked++(aj x.move++[.i x.fate]))++[]=aI x;rw[aei];rfl) rfl rfl (by omega) (by omega) (jl _) λb2 c2=>?_;rw[e6];have oJ:b.kept.take (j+1)=b.kept.take j++[x]:=by rw[aeg,gx];rfl
   refine T.drop λw6 h6=>⟨⟨j+1,b2,c2,aZ,?_,?_⟩,by show b.kept.length-((j+1:Nat):Int).toNat<b.kept.length-(j:Int).toNat;omega⟩
   ·rw[oJ];simp
   ·rw[oJ];simpa using h6
  ·have gF:j=b.kept.length:=by omega
   subst gF;rw[ad',List.drop_length,List.flatMap_nil];refine VV (R:=own bk b.kept.length ck 33 (b.kept.flatMap aI)::own bo b.ah.length cc 14 (b.ah.flatMap ak)::rd r ([],false)::L) hg ?_ (oe.own (λ_=>rfl) rfl) λp=>?_
   ·have:=oe.own (W:=W) (L:=rd r ([],false)::L) (b:=bo) (n:=b.ah.length) (c:=cc) (e:=14) (g:=ak) (xs:=b.ah) (λ_=>rfl) rfl;exact this.mono
   apply ws;intros;refine dO (by decide) ?_;refine Pc (r:=r) (nK ?_);refine T.sub (h p) ?_;exact lW
end
end Go.Up
namespace Go.Sep
open Go.Den Go.RowKit Go.Prog Go.bA
def mq{D:aw}{a to q a2:Int}{s:List UInt8}(h:iK D a to q=some (s,a2)):a<a2/\a2<=to/\0<=a/\to<=(D.safe.length:Int)/\s.length<=32768/\a2=a+(dQ (12+s.length):Int):=by
 unfold iK at h;split at h
 ·cases h
 rename_i ha;split at h
 ·cases h
 rename_i m j d hv;split at h
 ·cases h
 rename_i hj;split at h
 ·cases h
 rename_i hc;split at h
 ·cases h
 rename_i t ht;obtain⟨l1,l2,l3,l4,l5⟩:=take_length ht;simp only[aeh.injEq,Prod.mk.injEq] at h;obtain⟨h1,h2⟩:=h;subst h1;have hn: ¬32768<iH 4 (df 8 (d.data.toList,false)):=λhh=>hc (.inr hh);have h4:=Em (df 8 (d.data.toList,false));generalize iH 4 (df 8 (d.data.toList,false))=n6 at *;have hp:=nX (12+n6).toNat;have e:(12+n6).toNat=12+(t.drop 12).length:=by rw[ad9];omega
 rw[e] at h2 l3 hp;rw[<-h2];have hl:(t.drop 12).length=t.length-12:=ad9;exact⟨by omega,by omega,l2,l4,by omega,rfl⟩
def u9(D:aw)(to:Int):Nat->Int->Int->List (List UInt8)×Int×Int
 |0,a,q=>([],a,q)
 |f+1,a,q=>match iK D a to (q+1) with
  |none=>([],a,q)
  |some (s,a2)=>(s::(u9 D to f a2 (q+1)).1,(u9 D to f a2 (q+1)).2)
def gR(D:aw)(to a q:Int):List (List UInt8)×Int×Int:=u9 D to (to-a).toNat a q
def xY{D:aw}{a to q:Int}(h:to<=a):iK D a to q=none:=by unfold iK;rw[if_pos h]
def wL{D:aw}{to:Int}:∀(f f':Nat)(a q:Int),(to-a).toNat<=f->(to-a).toNat<=f'->u9 D to f a q=u9 D to f' a q
 |0,f',a,q,h1,h2=>by
  have hn:=xY (D:=D) (a:=a) (to:=to) (q:=q+1) (by omega);cases f' with
  |zero=>rfl
  |succ f'=>simp only[u9,hn]
 |f+1,0,a,q,h1,h2=>by
  have hn:=xY (D:=D) (a:=a) (to:=to) (q:=q+1) (by omega);simp only[u9,hn]
 |f+1,f'+1,a,q,h1,h2=>by
  simp only[u9];cases hn:iK D a to (q+1) with
  |none=>rfl
  |some y=>
   obtain⟨s,a2⟩:=y;have:=mq hn;dsimp only;rw[wL f f' a2 (q+1) (by omega) (by omega)]
def A5{D:aw}{to a q:Int}(h:iK D a to (q+1)=none):gR D to a q=([],a,q):=by
 unfold gR;cases hf:(to-a).toNat with
 |zero=>rfl
 |succ f=>simp only[u9,h]
def A6{D:aw}{to a q a2:Int}{s:List UInt8}(h:iK D a to (q+1)=some (s,a2)):gR D to a q=(s::(gR D to a2 (q+1)).1,(gR D to a2 (q+1)).2):=by
 have hi:=mq h;unfold gR;obtain⟨f,hf⟩:∃f,(to-a).toNat=f+1:=⟨(to-a).toNat-1,by omega⟩;rw[hf];simp only[u9,h];rw[wL f (to-a2).toNat a2 (q+1) (by omega) (by omega)]
section
variable {W w:World} {L:LH} {k d:Nat} {D:aw}
def Cj(l:List UInt8):Value:=.string (bs l)
def F8{lo hi:Int}{K:VK}(h:St W w L)(hk:L[k]?=some (dK d D))(hK:K (.bool (decide (0<=lo/\lo<hi/\hi<=(D.safe.length:Int)))) w):nQ (some ⟨d,0,none⟩) lo hi K w:=by
 have no: ¬(0<=lo/\lo<hi/\hi<=(D.safe.length:Int))->K (.bool false) w:=λhn=>by rw[decide_eq_false hn] at hK;exact hK
 unfold nQ;refine dc (λh1=>?_) (λh1=>no (by omega));refine dc (λh2=>?_) (λh2=>no (by omega));refine ka h hk ?_;simp only[nz,adV,adW];have:decide (hi<=(D.safe.length:Int))=decide (0<=lo/\lo<hi/\hi<=(D.safe.length:Int)):=by rw[decide_eq_decide];omega
 rw[this];exact hK
def Mf{lo hi q:Int}{K:VK}(h:St W w L)(hk:L[k]?=some (dK d D))(eO:D.Ok)(hp:0<=lo/\lo<hi/\hi<=(D.safe.length:Int))(hq:0<=q/\q<=1152921504606846976)
 (hK:∀r b c w',(∃n:Nat,n<=4096/\(gR D hi lo q).1.length=n/\(gR D hi lo q).2.2=q+n/\lo<=(gR D hi lo q).2.1/\(gR D hi lo q).2.1<=hi)->St W w' (own b (gR D hi lo q).1.length c 1 ((gR D hi lo q).1.map Cj)::pt r (nR d ⟨lo,hi,(gR D hi lo q).2.1,(gR D hi lo q).2.2,false⟩)::L)->
  K (.tuple ⟨[.p (some ⟨r,0,none⟩),.l b (gR D hi lo q).1.length c,.i 0]⟩) w'):gT (some ⟨d,0,none⟩) lo hi q K w:=by
 have rX:=eO.lu;unfold gT;simp only[nz,adV,adW];refine F8 h hk ?_;rw[decide_eq_true hp];simp only[nz,adV,adW];refine dc (λh1=>by omega) (λ_=>?_);have e0:decide (q>1152921504606846976)=false:=decide_eq_false (by omega);rw[e0];unfold gT.j1;simp only[nz,adV,adW];refine fE h λr w h=>?_;have h0:=h.push (A:=own none 0 0 1 (([]:List (List UInt8)).map Cj)) (nO 1);refine⟨λus w'=>∃(acc:List (List UInt8))(a:Int)(b:OA)(n c:Nat),us=[.p none,.l none 0 0,.i 0,.p (some ⟨r,0,none⟩),.l b n c]/\acc.length=n/\lo+n<=a/\a<=hi/\
                                                                     gR D hi lo q=(acc++(gR D hi a (q+n)).1,(gR D hi a (q+n)).2)/\St W w' (own b n c 1 (acc.map Cj)::pt r (nR d ⟨lo,hi,a,q+n,false⟩)::L),
  λus _=>match us with|[_,_,_,_,.slice _ n _]=>5000-n|_=>0,⟨[],lo,none,0,0,rfl,rfl,by omega,by omega,by simp,?_⟩,?_⟩
 ·have:nR d ⟨lo,hi,lo,q+((0:Nat):Int),false⟩=[.p (some ⟨d,0,none⟩),.i lo,.i hi,.i lo,.i q,.bool false]:=by
   rw[show q+((0:Nat):Int)=q from by omega];rfl
  rw[this];exact h0
 rintro p2 Nl V8 Qh n4 a1 uG pY uF w2 ⟨acc,a,b,n,c,he,hn,ha,hah,ho,h⟩;cases he
 refine iP h λw h=>?_;refine bn (k:=1) h rfl (v:=.i a) rfl ?_;simp only[nz,adV,adW];refine bn (k:=1) h rfl (v:=.i (q+pY)) rfl ?_;simp only[nz,adV,adW];have ew:adU.wrap (q+(pY:Int)+1)=q+(pY:Int)+1:=ar (by omega);rw[ew];refine K9 (k:=k+2) h (by rw[aed,aed];exact hk) eO (by omega) (by omega) λw h=>?_;cases hx:iK D a hi (q+(pY:Int)+1) with
 |none=>
  unfold wO;simp only[nz,adV,adW];refine gB (k:=1) h rfl rfl ?_;rw[A5 hx,aei] at ho;have:=hK r uG uF w;rw[ho] at this;dsimp only at this;rw[hn] at this;exact this ⟨pY,by omega,rfl,rfl,by omega,by omega⟩ h
 |some y=>
  obtain⟨s,a2⟩:=y;obtain⟨b1,b2,b3,b4,b5,b6⟩:=mq hx;unfold wO;simp only[nz,adV,adW];refine gB (k:=1) h rfl rfl ?_;refine⟨trivial,fE h λr2 w h=>?_⟩;refine qj (k:=1) (ys:=[Cj s]) h rfl (B0 (k':=0) h rfl rfl λj v hj=>by rw[ad1];exact hj) (by simp) rfl (by omega) (by omega) (by simp[Cj,Value.oneCell']) λb' c' w h=>?_;simp only[nz,adV,adW] at h⊢;refine bn (k:=2) h rfl (v:=.i (q+pY)) rfl ?_;simp only[nz,adV,adW];refine kP (k:=2) h rfl (ad3 rfl) rfl λw h=>?_;simp only[nz,adV,adW] at h;refine kP (k:=2) h rfl (ad3 rfl) rfl λw h=>?_;simp only[nz,adV,adW] at h;rw[ew] at h;refine⟨⟨acc++[s],a2,b',pY+1,c',rfl,by rw[ad0,hn];rfl,by omega,by omega,?_,?_⟩,by omega⟩
  ·rw[ho,A6 hx,show q+(pY:Int)+1=q+((pY+1:Nat):Int) from by omega,ad5];rfl
  ·rw[aeu];have:nR d ⟨lo,hi,a2,q+((pY+1:Nat):Int),false⟩=[.p (some ⟨d,0,none⟩),.i lo,.i hi,.i a2,.i (q+(pY:Int)+1),.bool false]:=by
    rw[show q+((pY+1:Nat):Int)=q+(pY:Int)+1 from by omega];rfl
   rw[this];exact h.drop
end
def AI(d:BA):Int:=iH 8 (d.data.toList,false)
def OM(l:List UInt8):(part (bs l) 0).data.toList=l.take 104:=by
 unfold part;rw[extract_toList,Nat.mul_zero,ae5]
 rfl
def GN(seq:Int)(s:BA):bE seq s=le .i64 8 seq++(le .i64 4 s.size++s.data.toList):=by simp only[bE,ad5]
def Ia(seq:Int)(s:BA):∃r,(part (bs (bE seq s)) 0).data.toList=le .i64 8 seq++(le .i64 4 s.size++r):=by
 rw[OM,GN];refine⟨s.data.toList.take 92,?_⟩;have h8:(le .i64 8 seq).length=8:=ay _ _ _;have h4:(le .i64 4 (s.size:Int)).length=4:=ay _ _ _;rw[List.take_append,List.take_append,h8,h4,aef (by rw[h8];omega),aef (l:=le .i64 4 (s.size:Int)) (by rw[h4];omega)]
def MO{m:Nat}(h:m<4294967296):kd (le .i64 4 (m:Int))=m:=by
 rw[nI m 4 (by omega)];exact aeH h
def K6{n:Int}(h:0<=n/\n<9223372036854775808):jT (le .i64 8 n)=n:=by
 obtain⟨m,rfl⟩:=ad8 h.1;unfold jT;rw[nI m 8 (by omega)];have h8:(256:Nat)^8=18446744073709551616:=rfl;rw[h8,aeH (by omega),ar (by omega)]
def qP{seq:Int}{s:BA}(hq:0<=seq/\seq<9223372036854775808)(hs:s.size<=32768):
 AI (part (bs (bE seq s)) 0)=seq/\(df 4 (df 8 ((part (bs (bE seq s)) 0).data.toList,false))).2=false/\iH 4 (df 8 ((part (bs (bE seq s)) 0).data.toList,false))=(s.size:Int):=by
 obtain⟨r,hr⟩:=Ia seq s;unfold AI;rw[hr];have h8:(le .i64 8 seq).length=8:=ay _ _ _;have h4:(le .i64 4 (s.size:Int)).length=4:=ay _ _ _;have e1:df 8 (le .i64 8 seq++(le .i64 4 s.size++r),false)=(le .i64 4 s.size++r,false):=by
  unfold df;rw[if_neg (by simp only[aeo,false_or,ad0,h8];omega),qz _ _ 8 h8]
 have e2:iH 8 (le .i64 8 seq++(le .i64 4 s.size++r),false)=seq:=by
  unfold iH;rw[if_neg (by simp only[aeo,false_or,ad0,h8];omega),pc _ _ 8 h8,K6 hq]
 have e3:df 4 (le .i64 4 (s.size:Int)++r,false)=(r,false):=by
  unfold df;rw[if_neg (by simp only[aeo,false_or,ad0,h4];omega),qz _ _ 4 h4]
 have e4:iH 4 (le .i64 4 (s.size:Int)++r,false)=(s.size:Int):=by
  unfold iH;rw[if_neg (by simp only[aeo,false_or,ad0,h4];omega),pc _ _ 4 h4,ki (by rw[h4];omega),MO (by omega)]
 rw[e1,e2,e3,e4];exact⟨rfl,rfl,rfl⟩
def oL(seq:Int)(s:BA):(bs (bE seq s)).size=12+s.size:=by rw[bI,vf]
def FD{D:aw}{a to n:Int}{s:BA}(hn:1<=n/\n<=1152921504606846976)(h0:0<=a)(Pz:a+(dQ s.size:Int)<=to)(hlen:to<=(D.safe.length:Int))(rX:D.safe.length<=4096)
 (hr:∀i:Nat,i<dQ s.size->(D.read (a+i)).1=leaf n i (part s i)):take D a to n s.size=some s.data.toList:=by
 have hb:s.size<=104* dQ s.size:=by unfold dQ;split<;>omega
 have Lo:∀q:Nat,(part s q).size=min (104* (q+1)) s.size-104* q:=λq=>by unfold part;rw[ph]
 have ou:s.size<=425984:=by omega
 unfold take;rw[if_neg (by rw[adY];omega),adY,xE (s:=s) (dQ s.size) 0 (λq _ hq=>by
  have hg:Good n q (part s q):=⟨hn.1,hn.2,by omega,by omega,jD s q⟩
  rw[hr q (by omega),jF hg]
  exact⟨lg hg,by rw[Lo];omega⟩)]
 congr 1
 rw[Nat.mul_zero,ae5,aef (by rw[cy];exact hb)]
def yP{D:aw}{a to n q:Int}{s:BA}(hn:1<=n/\n<=1152921504606846976)(hq:0<=q/\q<9223372036854775808)(hs:s.size<=32768)(h0:0<=a)(Pz:a+(dQ (12+s.size):Int)<=to)(hlen:to<=(D.safe.length:Int))(rX:D.safe.length<=4096)
 (hr:∀i:Nat,i<dQ (12+s.size)->(D.read (a+i)).1=leaf n i (part (bs (bE q s)) i)):iK D a to q=some (s.data.toList,a+(dQ (12+s.size):Int)):=by
 have xf:=oL q s;have hp:=nX (12+s.size);obtain⟨p1,p2,p3⟩:=qP hq hs;have h00:=hr 0 hp;rw[show a+((0:Nat):Int)=a from by omega] at h00;have hg:Good n ((0:Nat):Int) (part (bs (bE q s)) 0):=⟨hn.1,hn.2,by omega,by omega,jD _ 0⟩;have ht:=FD (D:=D) (a:=a) (to:=to) (s:=bs (bE q s)) hn h0 (by rw[xf];exact Pz) hlen rX (by rw[xf];exact hr);unfold iK;rw[if_neg (by omega),h00,jF hg,lg hg];dsimp only;unfold AI at p1;rw[if_neg (by rintro(hh|hh);exact hh rfl;exact hh p1),p2,p3,if_neg (by rintro(hh|hh);cases hh;omega)];rw[xf] at ht;have e1:((12+s.size:Nat):Int)=12+(s.size:Int):=by omega
 rw[e1] at ht;rw[ht];dsimp only;have e2:(12+(s.size:Int)).toNat=12+s.size:=by omega
 have e3:(bs (bE q s)).data.toList.drop 12=s.data.toList:=by
  show(bE q s).drop 12=_;unfold bE;exact qz _ _ 12 (by rw[ad0,ay,ay])
 rw[e2,e3]
def yG{D D':aw}{a n:Int}{size:Nat}:∀(k i:Nat),(∀j:Nat,i<=j->j<i+k->(D'.read (a+j)).1=(D.read (a+j)).1)->jx D' a n size i k=jx D a n size i k
 |0,i,_=>rfl
 |k+1,i,h=>by
  rw[kZ,kZ,h i (ad4 _) (by omega),yG k (i+1) (λj h1 h2=>h j (by omega) (by omega))]
def qS{D D':aw}{a to q a2:Int}{s:List UInt8}(h:iK D a to q=some (s,a2))(hlen:D'.safe.length=D.safe.length)(hr:∀j:Int,a<=j->j<a2->(D'.read j).1=(D.read j).1):iK D' a to q=some (s,a2):=by
 obtain⟨i1,i2,i3,i4,i5,i6⟩:=mq h;have h0:=hr a (by omega) (by omega);have adp:=h;unfold iK at h⊢;rw[h0];split at h
 ·cases h
 rename_i ha;rw[if_neg ha];split at h
 ·cases h
 rename_i m j d hv;split at h
 ·cases h
 rename_i hj;rw[if_neg hj];split at h
 ·cases h
 rename_i hc;rw[if_neg hc];split at h
 ·cases h
 rename_i t ht;obtain⟨l1,l2,l3,l4,l5⟩:=take_length ht;have Gv:take D' a to m (12+iH 4 (df 8 (d.data.toList,false)))=some t:=by
  simp only[aeh.injEq,Prod.mk.injEq] at h;rw[<-ht];unfold take;rw[hlen,yG _ 0 (λj h1 h2=>hr (a+j) (by omega) (by omega))]
 rw[Gv];dsimp only;exact h
def xX{D:aw}{a to q:Int}(h:∀m d,iJ (D.read a).1.data.toList=some (m,0,d)->AI d≠q):iK D a to q=none:=by
 unfold iK;split
 ·rfl
 split
 ·rfl
 rename_i m j d hv;by_cases hj:j=0
 ·subst hj;rw[if_pos (.inr (h m d hv))]
 ·rw[if_pos (.inl hj)]
def gn(D:aw)(to:Int):Int->Int->List (List UInt8)->Int->Prop
 |a,_,[],e=>a=e
 |a,q,s::r,e=>∃a2,iK D a to (q+1)=some (s,a2)/\gn D to a2 (q+1) r e
def G5{D:aw}{to:Int}:∀(r:List (List UInt8)) {a q e:Int},gn D to a q r e->a+r.length<=e
 |[],a,q,e,h=>by unfold gn at h;simp;omega
 |s::r,a,q,e,⟨a2,h1,h2⟩=>by
  have:=mq h1;have:=G5 r h2;rw[aee];omega
def BL{D:aw}{to:Int}:∀(r:List (List UInt8)) {a q e:Int},gn D to a q r e->iK D e to (q+r.length+1)=none->gR D to a q=(r,e,q+r.length)
 |[],a,q,e,h,hn=>by
  unfold gn at h;subst h;have e0:q+(([]:List (List UInt8)).length:Int)=q:=by simp
  rw[e0] at hn⊢;exact A5 hn
 |s::r,a,q,e,⟨a2,h1,h2⟩,hn=>by
  have e1:q+((s::r).length:Int)=q+1+(r.length:Int):=by rw[aee];omega
  rw[e1] at hn⊢;rw[A6 h1,BL r h2 hn]
def re{D D':aw}{to:Int}(hlen:D'.safe.length=D.safe.length):∀(r:List (List UInt8)) {a q e:Int},gn D to a q r e->(∀j:Int,a<=j->j<e->(D'.read j).1=(D.read j).1)->gn D' to a q r e
 |[],a,q,e,h,_=>h
 |s::r,a,q,e,⟨a2,h1,h2⟩,hr=>by
  have hi:=mq h1;have hl:=G5 r h2;exact⟨a2,qS h1 hlen (λj h3 h4=>hr j h3 (by omega)),re hlen r h2 (λj h3 h4=>hr j (by omega) h4)⟩
def BK{D:aw}{to:Int}:∀(r:List (List UInt8)) {a q e e2:Int} {s:List UInt8},gn D to a q r e->iK D e to (q+r.length+1)=some (s,e2)->gn D to a q (r++[s]) e2
 |[],a,q,e,e2,s,h,hn=>by
  unfold gn at h;subst h;have e0:q+(([]:List (List UInt8)).length:Int)=q:=by simp
  rw[e0] at hn;exact⟨e2,hn,rfl⟩
 |x::r,a,q,e,e2,s,⟨a2,h1,h2⟩,hn=>by
  have e1:q+((x::r).length:Int)=q+1+(r.length:Int):=by rw[aee];omega
  rw[e1] at hn;exact⟨a2,h1,BK r h2 hn⟩
def PJ.more(J:PJ)(s:BA):PJ:={J with at':=J.at'+(dQ (12+s.size):Int),seq:=J.seq+1}
def OU{n:Nat}{D:aw}{J:PJ}{number:Int}{s:BA}(hc:Calm n D)(bN:n<=4096)(hJ:J.Ok D)(Hw:J.cR=false)(mr:1<=number/\number<=1152921504606846976)(Cs:J.seq<1152921504606846976)(hr:room J s.size):
 ∃D',pK D J number s=(D',J.more s,0)/\Calm n D'/\D'.later=[]/\(J.more s).Ok D'/\(∀i:Nat,i<dQ (12+s.size)->(D'.read (J.at'+i)).1=leaf number i (part (bs (bE (J.seq+1) s)) i))/\
  (∀j:Int,0<=j->j<n->(j<J.at'\/J.at'+(dQ (12+s.size):Int)<=j)->(D'.read j).1=(D.read j).1)/\iK D' J.at' J.hi (J.seq+1)=some (s.data.toList,J.at'+(dQ (12+s.size):Int)):=by
 obtain⟨j1,j2,j3,j4,j5⟩:=hJ;obtain⟨r1,r2,r3⟩:=hr;rw[adY] at r3;have hlen:=hc.len;have xf:=oL (J.seq+1) s;obtain⟨a,ha⟩:=ad8 (show 0<=J.at' by omega);obtain⟨t,ht⟩:=ad8 (show 0<=J.hi by omega);obtain⟨p1,p2,p3,p4⟩:=QV (n:=n) (a:=a) (t:=t) (number:=number) (s:=bs (bE (J.seq+1) s)) hc bN mr (by rw[xf];omega) (by omega);have p5:=NS (n:=n) (a:=a) (t:=t) (number:=number) (s:=bs (bE (J.seq+1) s)) hc bN mr (by rw[xf];omega) (by omega);rw[xf] at p3 p4;rw[<-ha,<-ht] at p1 p2 p3 p4 p5;have xa:=p2.len;refine⟨(cS D J.at' J.hi number (bs (bE (J.seq+1) s))).1,?_,p2,p5,⟨j1,?_,?_,?_,?_⟩,p3,λj h1 h2 h3=>?_,?_⟩
 ·unfold pK;rw[if_neg (by rw[Hw];exact afr),if_neg (by omega),if_neg (by rintro(hh|hh);exact hh ⟨r1,r2,by rw[adY];exact r3⟩;omega)];unfold yu;rw[if_neg (λhh=>hh p1)]
  rfl
 ·show J.lo<=J.at'+_;omega
 ·show J.at'+_<=J.hi;omega
 ·show J.hi<=_;omega
 ·show 0<=J.seq+1/\J.seq+1<=_;omega
 ·obtain⟨m,rfl⟩:=ad8 h1;exact p4 m (by omega) (by omega)
 ·exact yP mr (by omega) (by omega) (by omega) (by omega) (by omega) (by omega) p3
def Gf{D:aw}{a to q:Int}(h:(D.read a).1=jI 128):iK D a to q=none:=
 xX (λm d hv=>by rw[h,tW] at hv;cases hv)
def Df{n:Nat}(h:n<=4096){j:Int}(h0:0<=j)(hj:j<n):((aw.new n).read j).1=jI 128:=by
 obtain⟨m,rfl⟩:=ad8 h0;exact wQ h (by omega)
section
variable {W w:World} {L:LH} {k d:Nat} {D:aw}
end
def uO{l:List UInt8}{k:Nat}(hk:k<=8)(hl:l.length=k):l=le .i64 k (kd l:Int):=by
 refine Ft _ _ (by rw[hl,ay]) ?_;have:=oU l;rw[hl] at this;rw[nI (kd l) k hk,aeH this]
def ye{l:List UInt8}{n:Int}(hl:l.length=8)(hn:0<=n)(h:jT l=n):l=le .i64 8 n:=by
 have hv:=oU l;have h8:(256:Nat)^8=18446744073709551616:=rfl;rw[hl,h8] at hv;have Bq:(kd l:Int)=n:=by
  unfold jT at h;simp[IntKind.wrap,IntKind.bits,IntKind.signed] at h;split at h<;>omega
 rw[<-Bq];exact uO (by decide) hl
def xQ{l:List UInt8}{n j:Int}{d:BA}(h:iJ l=some (n,j,d)):l=iY n j d/\Good n j d:=by
 unfold iJ at h;split at h
 ·cases h
 rename_i h1;split at h
 ·cases h
 rename_i h2;split at h
 ·cases h
 rename_i h3;split at h
 ·cases h
 rename_i h4;split at h
 ·cases h
 rename_i h5;split at h
 ·cases h
 rename_i h6;have h1:=aea.1 h1;have h2:pI (l.take 120)=true:=by cases hh:pI (l.take 120) with
  |true=>rfl
  |false=>exact absurd hh h2
 have h4:=aea.1 h4;have h5:=aea.1 h5;have h6:=aea.1 h6;simp only[aeh.injEq,Prod.mk.injEq] at h;obtain⟨rfl,rfl,rfl⟩:=h;refine⟨?_,h6⟩;obtain⟨g1,g2,g3,g4,g5⟩:=h6;have hM:sM l<=104:=by omega
 have l8:(l.drop 8).length=120:=by rw[ad9];omega
 have l10:((l.drop 8).drop 2).length=118:=by rw[ad9];omega
 have lr:(ji l).length=116:=by unfold ji;rw[ad9];omega
 have p1:l.take 8=le .i64 8 (sN l):=ye (by rw[ad2];omega) (by omega) rfl;have p2:(l.drop 8).take 2=le .i64 2 (sI l):=by
  have e:sI l=(kd ((l.drop 8).take 2):Int):=ki (by rw[ad2];omega);rw[e];exact uO (by decide) (by rw[ad2];omega)
 have p3:((l.drop 8).drop 2).take 2=le .i64 2 (sM l:Int):=uO (by decide) (by rw[ad2];omega);have hD:(sD l).length=sM l:=by unfold sD;rw[ad2];omega
 have lrm:((ji l).drop (sM l)).length=116-sM l:=by rw[ad9,lr]
 have hZ:(sZ l).length=104-sM l:=by unfold sZ;rw[ad2];omega
 have lrz:(((ji l).drop (sM l)).drop (104-sM l)).length=12:=by rw[ad9,lrm];omega
 have lrc:((((ji l).drop (sM l)).drop (104-sM l)).drop 4).length=8:=by rw[ad9,lrz]
 have p6:(((ji l).drop (sM l)).drop (104-sM l)).drop 4=le .i64 8 (sN l):=by
  refine ye lrc (by omega) ?_;rw[<-h4];unfold yL;rw[aef (by omega)]
 rw[hZ] at h5;have e1:l=l.take 8++((l.drop 8).take 2++(((l.drop 8).drop 2).take 2++(sD l++(sZ l++((((ji l).drop (sM l)).drop (104-sM l)).take 4++(((ji l).drop (sM l)).drop (104-sM l)).drop 4))))):=by
  unfold sD sZ;rw[aer,aer,aer];unfold ji;rw[aer,aer,aer]
 have ou:(bs (sD l)).size=sM l:=by rw[bI,hD]
 have abd:pre (sN l) (sI l) (bs (sD l))=l.take 8++((l.drop 8).take 2++(((l.drop 8).drop 2).take 2++(sD l++sZ l))):=by
  unfold pre;rw[ou,p1,p2,p3,h5];simp only[ad5]
  rfl
 have Mq:(pre (sN l) (sI l) (bs (sD l))).length=116:=nh g5;have e2:l=pre (sN l) (sI l) (bs (sD l))++((((ji l).drop (sM l)).drop (104-sM l)).take 4++(((ji l).drop (sM l)).drop (104-sM l)).drop 4):=by
  rw[abd];simp only[ad5];exact e1
 have Vp:l.take 116=pre (sN l) (sI l) (bs (sD l)):=by
  have:=congrArg (List.take 116) e2;rw[pc _ _ 116 Mq] at this;exact this
 have e4:(l.take 120).drop 116=(((ji l).drop (sM l)).drop (104-sM l)).take 4:=by
  have aa9:l.drop 116=(((ji l).drop (sM l)).drop (104-sM l)).take 4++(((ji l).drop (sM l)).drop (104-sM l)).drop 4:=by
   have:=congrArg (List.drop 116) e2;rw[qz _ _ 116 Mq] at this;exact this
  rw[List.drop_take,aa9];exact pc _ _ 4 (by rw[ad2];omega)
 have aaY:ry (pg 0 (pre (sN l) (sI l) (bs (sD l))))=(((ji l).drop (sM l)).drop (104-sM l)).take 4:=by
  unfold pI at h2;have EH:(l.take 120).length=120:=by rw[ad2];omega
  rw[EH,show 120-4=116 from rfl,e4,afu,show min 116 120=116 from rfl,Vp] at h2;simpa using h2
 unfold iY;rw[aaY,ad5];rw[p6] at e2;exact e2
def CM{D:aw}{a n:Int}{size:Nat}:∀(k i:Nat) {t:List UInt8},jx D a n size i k=some t->size<=104* (i+k)->∀q,i<=q->q<i+k->
 ∃d,iJ (D.read (a+q)).1.data.toList=some (n,(q:Int),d)/\d.data.toList=(t.drop (104* (q-i))).take 104
 |0,i,t,h,hs,q,h1,h2=>by omega
 |k+1,i,t,h,hs,q,h1,h2=>by
  rw[kZ] at h;split at h
  ·cases h
  rename_i m j d hv;split at h
  ·rename_i hc;obtain⟨rfl,rfl,hd⟩:=hc;cases ht:jx D a m size (i+1) k with
   |none=>rw[ht] at h;cases h
   |some u=>
    rw[ht] at h;simp only[aeK,aeh.injEq] at h;subst h;have xg:d.data.toList.length=d.size:=rfl;by_cases hq:q=i
    ·subst hq;refine⟨d,hv,?_⟩;rw[afj,Nat.mul_zero,ae5];by_cases h3:104* (q+1)<=size
     ·exact(pc _ _ 104 (by omega)).symm
     ·have hu:u.length=0:=by
       by_cases hk:k=0
       ·subst hk;simp only[jx,aeh.injEq] at ht;subst ht;rfl
       ·
        have hz:∀(n' i':Nat) {v:List UInt8},jx D a m size i' n'=some v->size<=104* i'->v.length=0:=by
         intro n'
         induction n' with
         |zero=>intro i' v h _;simp only[jx,aeh.injEq] at h;subst h;rfl
         |succ n' ih=>
          intro i' v h hle;rw[kZ] at h;split at h
          ·cases h
          ·split at h
           ·rename_i Mx;cases Im:jx D a m size (i'+1) n' with
            |none=>rw[Im] at h;cases h
            |some v2=>
             rw[Im] at h;simp only[aeK,aeh.injEq] at h;subst h;have:=ih (i'+1) Im (by omega);rw[ad0,this,cy,Mx.2.2];omega
           ·cases h
        exact hz k (q+1) ht (by omega)
      rw[List.eq_nil_of_length_eq_zero hu,aei,aef (by omega)]
    ·obtain⟨d2,Q2,PI⟩:=CM k (i+1) ht (by omega) q (by omega) (by omega);refine⟨d2,Q2,?_⟩;have hu:104* (i+1)<=size\/u.length=0:=by
      by_cases h3:104* (i+1)<=size
      ·exact .inl h3
      ·right
       have hz:∀(n' i':Nat) {v:List UInt8},jx D a m size i' n'=some v->size<=104* i'->v.length=0:=by
        intro n'
        induction n' with
        |zero=>intro i' v h _;simp only[jx,aeh.injEq] at h;subst h;rfl
        |succ n' ih=>
         intro i' v h hle;rw[kZ] at h;split at h
         ·cases h
         ·split at h
          ·rename_i Mx;cases Im:jx D a m size (i'+1) n' with
           |none=>rw[Im] at h;cases h
           |some v2=>
            rw[Im] at h;simp only[aeK,aeh.injEq] at h;subst h;have:=ih (i'+1) Im (by omega);rw[ad0,this,cy,Mx.2.2];omega
          ·cases h
       exact hz k (i+1) ht (by omega)
     rw[PI];rcases hu with h3|h3
     ·have:(d.data.toList++u).drop (104* (q-i))=u.drop (104* (q-(i+1))):=by
       rw[show 104* (q-i)=104+104* (q-(i+1)) from by omega,<-ae8,qz _ _ 104 (by omega)]
      rw[this]
     ·rw[List.eq_nil_of_length_eq_zero h3,aei];simp only[List.drop_nil,List.take_nil];rw[aeF (by omega)]
      rfl
  ·cases h
def De{D:aw}{a to q a2:Int}{s:List UInt8}(hq:0<=q)(h:iK D a to q=some (s,a2)):
 ∃m d,1<=m/\m<=1152921504606846976/\iJ (D.read a).1.data.toList=some (m,0,d)/\∀i:Nat,i<dQ (12+s.length)->(D.read (a+i)).1=leaf m i (part (bs (bE q (bs s))) i):=by
 have hi:=mq h;unfold iK at h;split at h
 ·cases h
 rename_i ha;split at h
 ·cases h
 rename_i m j d hv;split at h
 ·cases h
 rename_i hj;split at h
 ·cases h
 rename_i hc;split at h
 ·cases h
 rename_i t ht;obtain⟨l1,l2,l3,l4,l5⟩:=take_length ht;simp only[aeh.injEq,Prod.mk.injEq] at h;obtain⟨h1,h2⟩:=h;subst h1;have X1:j=0:=by
  by_cases hh:j=0
  ·exact hh
  ·exact absurd (.inl hh) hj
 have Q3:iH 8 (d.data.toList,false)=q:=by
  by_cases hh:iH 8 (d.data.toList,false)=q
  ·exact hh
  ·exact absurd (.inr hh) hj
 subst X1;have hn4:=Em (df 8 (d.data.toList,false));have hle: ¬32768<iH 4 (df 8 (d.data.toList,false)):=λhh=>hc (.inr hh);have adl:(df 4 (df 8 (d.data.toList,false))).2=false:=by
  cases hh:(df 4 (df 8 (d.data.toList,false))).2 with
  |false=>rfl
  |true=>exact absurd (.inl hh) hc
 obtain⟨_,xe⟩:=xQ hv;have oJ:=ht;unfold take at oJ;split at oJ
 ·cases oJ
 have Wy:(12+iH 4 (df 8 (d.data.toList,false))).toNat=t.length:=by omega
 rw[Wy] at oJ;have hb:t.length<=104* dQ t.length:=by unfold dQ;split<;>omega
 have Ll:=CM (dQ t.length) 0 oJ (by omega);have Ya:=nX t.length;obtain⟨d0,hv0,Wx⟩:=Ll 0 (ad4 _) (by omega);rw[show a+((0:Nat):Int)=a from by omega,hv] at hv0;have aaW:d=d0:=by cases hv0;rfl
 subst aaW;rw[Nat.sub_zero,Nat.mul_zero,ae5] at Wx;have adP:12<=d.data.toList.length:=by
  rw[Wx,ad2];omega
 have x1:df 8 (d.data.toList,false)=(d.data.toList.drop 8,false):=by unfold df;rw[if_neg (by simp only[aeo,false_or];omega)]
 have x2:iH 8 (d.data.toList,false)=jT (d.data.toList.take 8):=by unfold iH;rw[if_neg (by simp only[aeo,false_or];omega)]
 have l8:(d.data.toList.drop 8).length=d.data.toList.length-8:=ad9;have x3:iH 4 (d.data.toList.drop 8,false)=jT ((d.data.toList.drop 8).take 4):=by unfold iH;rw[if_neg (by simp only[aeo,false_or];omega)]
 rw[x2] at Q3;rw[x1,x3] at l1 hn4 Wy;have y1:d.data.toList.take 8=le .i64 8 q:=ye (by rw[ad2];omega) hq Q3;have Z0:((d.data.toList.drop 8).take 4).length=4:=by rw[ad2];omega
 rw[ki (by omega)] at l1;have y2:(d.data.toList.drop 8).take 4=le .i64 4 ((t.length-12:Nat):Int):=by
  have:=uO (by decide) Z0;rw[show(kd ((d.data.toList.drop 8).take 4):Int)=((t.length-12:Nat):Int) from by omega] at this;exact this
 have z1:t.take 8=le .i64 8 q:=by
  rw[<-y1,Wx,afu,show min 8 104=8 from rfl]
 have z2:(t.drop 8).take 4=le .i64 4 ((t.length-12:Nat):Int):=by
  rw[<-y2,Wx,List.drop_take,afu,show min 4 (104-8)=4 from rfl]
 have Lw:bE q (bs (t.drop 12))=t:=by
  unfold bE;have ou:(bs (t.drop 12)).size=t.length-12:=by rw[bI,ad9]
  rw[ou,<-z1,<-z2];show t.take 8++(t.drop 8).take 4++t.drop 12=t;have:t.drop 12=(t.drop 8).drop 4:=by rw[ae8]
  rw[this,ad5,aer,aer]
 refine⟨m,d,xe.1,xe.2.1,hv,λi hi2=>?_⟩;have aaJ:12+(t.drop 12).length=t.length:=by rw[ad9];omega
 rw[aaJ] at hi2;obtain⟨di,hvi,Fg⟩:=Ll i (ad6 _) (by omega);obtain⟨hx,Mt⟩:=xQ hvi;rw[Lw];have JZ:part (bs t) i=di:=by
  apply gO;rw[Fg];unfold part;rw[extract_toList];show(t.drop (104* i)).take (104* (i+1) -104* i)=_;rw[Nat.sub_zero,show 104* (i+1) -104* i=104 from by omega]
 rw[JZ];apply gO;rw[jF Mt];exact hx
section
variable {W w:World} {L:LH}
end
def Ky{D:aw}(h:D.sync.2=0):D.sync.1.later=[]:=by
 unfold aw.sync at h⊢;split at h
 ·simp at h
 ·rename_i hf;rw[if_neg hf]
def JL{D:aw}{at' to number:Int}{s:BA}(h:(cS D at' to number s).2=0):(cS D at' to number s).1.later=[]:=by
 unfold cS at h⊢;split at h
 ·rename_i hh;exact absurd h hh
 ·rename_i hh;rw[if_neg hh];exact Ky h
def vQ{D:aw}(h:D.later=[])(mask torn cut:Int)(j:Int):(D.db mask torn cut).read j=D.read j:=by
 have e:D.db mask torn cut=⟨D.safe,[],D.ops,0⟩:=by rw[kE,h];rfl
 rw[e];unfold aw.read aw.is aw.now;rw[h]
def Dm{at' number:Int}{s:BA}(mr:1<=number/\number<=1152921504606846976)(yj:0<=at'):∀(n i:Nat) {D:aw},at'+i+n<=D.safe.length->i+n<=4096->(lG at' number s D i n).2=0\/(lG at' number s D i n).2=8
 |0,i,D,hr,hi=>.inl rfl
 |n+1,i,D,hr,hi=>by
  have hg:Good number i (part s i):=⟨mr.1,mr.2,by omega,by omega,jD s i⟩;have ou:=qc hg;have qJ:D.is (at'+i):=⟨by omega,by omega⟩;have u2: ¬(¬D.is (at'+i)\/128<(leaf number i (part s i)).size):=by
   rintro(hh|hh)
   ·exact hh qJ
   ·omega
  have pr:=(oz D (at'+i) (leaf number i (part s i))).1;have hw:D.write (at'+i) (leaf number i (part s i))=if D.qY then(D.tick,8) else({Go.bA.aw.tick D with later:=D.later++[(at'+i,aw.pad (leaf number i (part s i)))]},0):=by
   unfold aw.write;rw[if_neg u2]
  unfold lG;cases hf:D.qY with
  |true=>
   rw[hf,if_pos rfl] at hw;rw[hw,if_pos (by simp)];exact .inr rfl
  |false=>
   rw[hf,if_neg afr] at hw;have h0:(D.write (at'+i) (leaf number i (part s i))).2=0:=by rw[hw]
   rw[if_neg (by rw[h0];exact λhh=>hh rfl)];exact Dm mr yj (s:=s) n (i+1) (D:=(D.write (at'+i) (leaf number i (part s i))).1) (by rw[pr];omega) (by omega)
def zZ{n a t:Nat}{D:aw}{number:Int}{s:BA}(hlen:D.safe.length=n)(bN:n<=4096)(mr:1<=number/\number<=1152921504606846976)(hl:a+dQ s.size<=t)(Xx:t<=n):(cS D a t number s).2=0\/(cS D a t number s).2=8:=by
 have Ya:=nX s.size;have e:lay D (a:Nat) ((t:Nat):Int) number s=lG (a:Nat) number s D 0 (dQ s.size):=by
  unfold lay;rw[if_neg (by rw[hlen];omega),if_neg (by omega)]
 have hc:=Dm (at':=((a:Nat):Int)) (number:=number) (s:=s) mr (by omega) (dQ s.size) 0 (D:=D) (by rw[hlen];omega) (by omega);unfold cS;rw[e];split
 ·exact hc
 ·unfold aw.sync;split
  ·exact .inr rfl
  ·exact .inl rfl
def CY{g:Nat}{X:BA}{m j:Int}{d:BA}(he:Ends g X)(hg:g<256)(h:iJ X.data.toList=some (m,j,d)):m<=g:=by
 obtain⟨hx,xe⟩:=xQ h;obtain⟨_,⟨a,ha,h8⟩,_⟩:=he;rw[hx,uf] at h8;have e1:=lE (n:=m) ⟨by have:=xe.1;omega,xe.2.1⟩;have e2:=lE (n:=(a:Int)) ⟨by omega,by omega⟩;rw[h8,e2] at e1;omega
def yQ{D D':aw}{a to q:Int}(hlen:D'.safe.length=D.safe.length)(hr:∀j:Int,a<=j->j<to->(D'.read j).1=(D.read j).1):iK D' a to q=iK D a to q:=by
 cases h:iK D a to q with
 |some y=>
  obtain⟨s,a2⟩:=y;have:=mq h;exact qS h hlen (λj h1 h2=>hr j h1 (by omega))
 |none=>
  cases h':iK D' a to q with
  |none=>rfl
  |some y=>
   obtain⟨s,a2⟩:=y;have:=mq h';have:=qS h' hlen.symm (λj h1 h2=>(hr j h1 (by omega)).symm);rw[h] at this;cases this
structure JG(n:Nat)(D:aw)(J:PJ)(q0:Int)(kM:List (List UInt8))(g:Nat):Prop where
 ok:D.Ok
 Et:D.later=[]
 len:D.safe.length=n
 tr:J.Ok D
 chain:gn D J.hi J.lo q0 kM J.at'
 seq:J.seq=q0+kM.length
 q0:0<=q0
 low:∀j:Int,J.lo<=j->j<J.hi->∀m d,iJ (D.read j).1.data.toList=some (m,0,d)->AI d<=J.seq+1
 stop:iK D J.at' J.hi (J.seq+1)=none
 ends:∀j:Nat,j<n->Ends g (D.read (j:Int)).1
def JG.congr{n:Nat}{D D':aw}{J:PJ}{q0:Int}{kM:List (List UInt8)}{g:Nat}(h:JG n D J q0 kM g)(eO:D'.Ok)(vM:D'.later=[])(hlen:D'.safe.length=n)(hr:∀j:Int,0<=j->j<n->(D'.read j).1=(D.read j).1):JG n D' J q0 kM g:=by
 have hl:D'.safe.length=D.safe.length:=by rw[hlen,h.len]
 have j1:=h.tr.lo;have j2:=h.tr.Kl;have j3:=h.tr.PS;have j4:=h.tr.hi;have j5:=h.len;refine⟨eO,vM,hlen,⟨j1,j2,j3,by rw[hl];exact j4,h.tr.seq⟩,re hl _ h.chain (λj a b=>hr j (by omega) (by omega)),h.seq,h.q0,λj a b m d hv=>?_,?_,λj hj=>?_⟩
 ·rw[hr j (by omega) (by omega)] at hv;exact h.low j a b m d hv
 ·rw[yQ hl (λj a b=>hr j (by omega) (by omega))];exact h.stop
 ·rw[hr j (by omega) (by omega)];exact h.ends j hj
def JG.opened{n:Nat}{D:aw}{J:PJ}{q0:Int}{kM:List (List UInt8)}{g:Nat}(h:JG n D J q0 kM g):gR D J.hi J.lo q0=(kM,J.at',J.seq):=by
 have:=h.stop;rw[h.seq] at this;rw[BL kM h.chain this,h.seq]
def fly{n:Nat}{D:aw}{J:PJ}{q0:Int}{kM:List (List UInt8)}{g m:Nat}{s:BA}(h:JG n D J q0 kM g)(bN:n<=4096)(hm:g<m)(J3:m<256)(hr:room J s.size)(Mo:J.seq<1152921504606846976)(mask torn cut:Int):
 ((cS D J.at' J.hi m (bs (bE (J.seq+1) s))).2=0\/(cS D J.at' J.hi m (bs (bE (J.seq+1) s))).2=8)/\
 ((cS D J.at' J.hi m (bs (bE (J.seq+1) s))).2=0->∀i:Nat,i<dQ (12+s.size)->(((cS D J.at' J.hi m (bs (bE (J.seq+1) s))).1.db mask torn cut).read (J.at'+i)).1=leaf m i (part (bs (bE (J.seq+1) s)) i))/\
 ((∀i:Nat,i<dQ (12+s.size)->(((cS D J.at' J.hi m (bs (bE (J.seq+1) s))).1.db mask torn cut).read (J.at'+i)).1=leaf m i (part (bs (bE (J.seq+1) s)) i))->
   JG n ((cS D J.at' J.hi m (bs (bE (J.seq+1) s))).1.db mask torn cut) (J.more s) q0 (kM++[s.data.toList]) m)/\
 ((¬∀i:Nat,i<dQ (12+s.size)->(((cS D J.at' J.hi m (bs (bE (J.seq+1) s))).1.db mask torn cut).read (J.at'+i)).1=leaf m i (part (bs (bE (J.seq+1) s)) i))->
   JG n ((cS D J.at' J.hi m (bs (bE (J.seq+1) s))).1.db mask torn cut) J q0 kM m):=by
 obtain⟨j1,j2,j3,j4,j5⟩:=h.tr;obtain⟨r1,r2,r3⟩:=hr;rw[adY] at r3;have hlen:=h.len;have Ya:=nX (12+s.size);have xf:=oL (J.seq+1) s;obtain⟨a,ha⟩:=ad8 (show 0<=J.at' by omega);obtain⟨t,ht⟩:=ad8 (show 0<=J.hi by omega);have S7:=zZ (n:=n) (a:=a) (t:=t) (number:=m) (s:=bs (bE (J.seq+1) s)) hlen bN (by omega) (by rw[xf];omega) (by omega);obtain⟨c1,c2,c3,c4⟩:=Gj (n:=n) (a:=a) (t:=t) (number:=m) (mask:=mask) (torn:=torn) (cut:=cut) (s:=bs (bE (J.seq+1) s)) h.ok h.Et hlen bN (by omega) (by rw[xf];omega) (by omega);have SX:((cS D (a:Int) (t:Int) m (bs (bE (J.seq+1) s))).1.db mask torn cut).later=[]:=by rw[kE]
 rw[xf] at c1 c2;rw[ha,ht];generalize (cS D (a:Int) (t:Int) m (bs (bE (J.seq+1) s))).2=code at *;generalize (cS D (a:Int) (t:Int) m (bs (bE (J.seq+1) s))).1.db mask torn cut=D2 at *;have Wy:dQ (12+s.size)<=4096:=by omega
 have xe:∀i:Nat,i<4096->Good m (i:Int) (part (bs (bE (J.seq+1) s)) i):=λi hi=>⟨by omega,by omega,by omega,by omega,jD _ i⟩;have sec:∀j:Nat,j<n->Ends m (D2.read (j:Int)).1/\((D2.read (j:Int)).1=(D.read (j:Int)).1\/(∃i,i<dQ (12+s.size)/\j=a+i/\((D2.read (j:Int)).1=leaf m i (part (bs (bE (J.seq+1) s)) i)\/iJ (D2.read (j:Int)).1.data.toList=none))):=λj hj=>by
  rcases c1 j hj with hh|⟨i,h1,h2,h3⟩
  ·rw[hh];exact⟨(h.ends j hj).mono (by omega),.inl rfl⟩
  ·obtain⟨e1,e2⟩:=ya hm J3 (xe i (by omega)) (h.ends j hj) h3;refine⟨e1,?_⟩;rcases e2 with e2|e2|e2
   ·exact .inl e2
   ·exact .inr ⟨i,h1,h2,.inl e2⟩
   ·exact .inr ⟨i,h1,h2,.inr e2⟩
 have out:∀j:Int,0<=j->j<n->(j<a\/a+(dQ (12+s.size):Int)<=j)->(D2.read j).1=(D.read j).1:=λj h1 h2 h3=>by
  obtain⟨k,rfl⟩:=ad8 h1;rcases c1 k (by omega) with hh|⟨i,h4,h5,_⟩
  ·exact hh
  ·omega
 have Q9:D2.safe.length=D.safe.length:=by rw[c4,hlen]
 have hpr:=qP (seq:=J.seq+1) (s:=s) ⟨by omega,by omega⟩ (by omega);have Uh:∀j:Int,J.lo<=j->j<J.hi->∀x d,iJ (D2.read j).1.data.toList=some (x,0,d)->AI d<=J.seq+1:=λj h1 h2 x d hv=>by
  obtain⟨k,rfl⟩:=ad8 (show 0<=j by omega);rcases(sec k (by omega)).2 with hh|⟨i,hi,_,hh|hh⟩
  ·rw[hh] at hv;exact h.low _ h1 h2 x d hv
  ·rw[hh,jF (xe i (by omega)),lg (xe i (by omega))] at hv;simp only[aeh.injEq,Prod.mk.injEq] at hv;obtain⟨_,S4,hd⟩:=hv;have:i=0:=by omega
   subst this;rw[<-hd,hpr.1];exact afy _
  ·rw[hh] at hv;cases hv
 have OJ:gn D2 J.hi J.lo q0 kM J.at':=re Q9 _ h.chain (λj h1 h2=>out j (by omega) (by omega) (by omega));have N9:∀j:Nat,j<n->Ends m (D2.read (j:Int)).1:=λj hj=>(sec j hj).1;refine⟨S7,λh0 i hi=>?_,λhw=>?_,λhnw=>?_⟩
 ·have:=c2 h0 i hi;rw[show(a:Int)+(i:Int)=((a+i:Nat):Int) from by omega];exact this
 ·have Uq:=yP (D:=D2) (a:=J.at') (to:=J.hi) (n:=m) (q:=J.seq+1) (s:=s) (by omega) (by omega) (by omega) (by omega) (by omega) (by omega) (by omega) (by rw[ha];exact hw);refine⟨c3,SX,c4,⟨j1,?_,?_,?_,?_⟩,?_,?_,h.q0,λj h1 h2 x d hv=>?_,?_,N9⟩
  ·show J.lo<=J.at'+_;omega
  ·show J.at'+_<=J.hi;omega
  ·show J.hi<=_;omega
  ·show 0<=J.seq+1/\J.seq+1<=_;omega
  ·show gn D2 J.hi J.lo q0 _ (J.at'+_);refine BK kM OJ ?_;rw[<-h.seq];exact Uq
  ·show J.seq+1=_;rw[h.seq,ad0,aee,aes];omega
  ·show AI d<=J.seq+1+1;have:=Uh j h1 h2 x d hv;omega
  ·show iK D2 (J.at'+(dQ (12+s.size):Int)) J.hi (J.seq+1+1)=none;by_cases aaR:J.hi<=J.at'+(dQ (12+s.size):Int)
   ·exact xY aaR
   ·refine xX (λx d hv=>?_);have:=Uh _ (by omega) (by omega) x d hv;omega
 ·refine⟨c3,SX,c4,⟨j1,j2,j3,by omega,j5⟩,OJ,h.seq,h.q0,Uh,?_,N9⟩;cases hx:iK D2 J.at' J.hi (J.seq+1) with
  |none=>rfl
  |some y=>
   exfalso;obtain⟨s2,a2⟩:=y;obtain⟨i1,i2,i3,i4,i5,i6⟩:=mq hx;obtain⟨x,d,x1,x2,hv,Ll⟩:=De (by omega) hx;have N':=nX (12+s2.length);have N7:∀i:Nat,i<4096->Good x (i:Int) (part (bs (bE (J.seq+1) (bs s2))) i):=λi hi=>⟨x1,x2,by omega,by omega,jD _ i⟩;have UA:=qP (seq:=J.seq+1) (s:=bs s2) ⟨by omega,by omega⟩ (by rw[bI];omega);have rd:∀i:Nat,i<dQ (12+s2.length)->iJ (D2.read ((a+i:Nat):Int)).1.data.toList=some (x,(i:Int),part (bs (bE (J.seq+1) (bs s2))) i):=λi hi=>by
    have:=Ll i hi;rw[ha,show(a:Int)+(i:Int)=((a+i:Nat):Int) from by omega] at this;rw[this,jF (N7 i (by omega)),lg (N7 i (by omega))]
   rcases(sec a (by omega)).2 with hh|⟨i,hi,Yo,hh|hh⟩
   ·
    have r0:=rd 0 N';rw[aeT,hh] at r0;have Xs:=CY (h.ends a (by omega)) (by omega) r0;have all:∀j:Int,J.at'<=j->j<a2->(D.read j).1=(D2.read j).1:=λj h1 h2=>by
     obtain⟨k,hk⟩:=ad8 (show 0<=j-a by omega);have hj:j=((a+k:Nat):Int):=by omega
     subst hj;rcases(sec (a+k) (by omega)).2 with e|⟨i,hi,Yo,e|e⟩
     ·exact e.symm
     ·exfalso;have N6:i=k:=by omega
      subst N6;have r:=rd i (by omega);rw[e,jF (xe i (by omega)),lg (xe i (by omega))] at r;simp only[aeh.injEq,Prod.mk.injEq] at r;have:=r.1;omega
     ·exfalso;have r:=rd k (by omega);rw[e] at r;cases r
    have:=qS hx Q9.symm all;rw[h.stop] at this;cases this
   ·
    have S4:i=0:=by omega
    subst S4;have r0:=rd 0 N';rw[aeT,hh,jF (xe 0 (by omega)),lg (xe 0 (by omega))] at r0;simp only[aeh.injEq,Prod.mk.injEq] at r0;obtain⟨hxm,_,hp0⟩:=r0;have ou:s2.length=s.size:=by
     have e1:=hpr.2.2;have e2:=UA.2.2;rw[hp0] at e1;rw[e1,bI] at e2;omega
    refine hnw λi hi=>?_;rw[show(a:Int)+(i:Int)=((a+i:Nat):Int) from by omega];have r:=rd i (by rw[ou];exact hi);rcases(sec (a+i) (by omega)).2 with e|⟨i',qJ,adS,e|e⟩
    ·exfalso;rw[e] at r;have:=CY (h.ends (a+i) (by omega)) (by omega) r;omega
    ·have:i'=i:=by omega
     subst this;exact e
    ·rw[e] at r;cases r
   ·have S4:i=0:=by omega
    subst S4;have r0:=rd 0 N';rw[aeT,hh] at r0;cases r0
section
variable {W w:World} {L:LH}
end
def qf(D:aw)(mask torn cut:Int):(D.db mask torn cut).safe.length=D.safe.length:=by rw[kE];simp only[fG]
def JG.add{n:Nat}{D:aw}{J:PJ}{q0:Int}{kM:List (List UInt8)}{g m:Nat}{s:BA}(h:JG n D J q0 kM g)(Hw:J.cR=false)(bN:n<=4096)(hm:g<m)(J3:m<256)(hr:room J s.size)(Mo:J.seq<1152921504606846976):
 pK D J m s=yu J s (cS D J.at' J.hi m (bs (bE (J.seq+1) s)))/\(cS D J.at' J.hi m (bs (bE (J.seq+1) s))).1.Ok/\
 ((cS D J.at' J.hi m (bs (bE (J.seq+1) s))).2=0/\JG n (cS D J.at' J.hi m (bs (bE (J.seq+1) s))).1 (J.more s) q0 (kM++[s.data.toList]) m\/(cS D J.at' J.hi m (bs (bE (J.seq+1) s))).2=8):=by
 have Wy:dQ (12+s.size)<=400:=by have:=hr.2.1;unfold dQ;split<;>omega
 have eO:=Gi (at':=J.at') (to:=J.hi) (number:=m) (s:=bs (bE (J.seq+1) s)) h.ok (by rw[h.Et,oL,aes];omega);refine⟨?_,eO,?_⟩
 ·unfold pK;rw[if_neg (by rw[Hw];exact afr),if_neg (by omega),if_neg (by rintro(hh|hh);exact hh hr;omega)]
 ·obtain⟨f1,f2,f3,f4⟩:=fly h bN hm J3 hr Mo 0 (-1) 0;rcases f1 with f1|f1
  ·refine .inl ⟨f1,?_⟩;have hl:=JL f1;have hj:=f3 (f2 f1);refine hj.congr eO hl ?_ (λj _ _=>?_)
   ·rw[<-qf _ 0 (-1) 0];exact hj.len
   ·rw[vQ hl]
  ·exact .inr f1
def V1{n:Nat}(h:n<=4096){lo hi:Int}(h0:0<=lo)(h1:lo<hi)(h2:hi<=n)(q0:Int)(hq:0<=q0/\q0<=1152921504606846976):JG n (aw.new n) ⟨lo,hi,lo,q0,false⟩ q0 [] 0:=by
 have hc:=BO h;refine⟨hc.ok,rfl,hc.len,⟨h0,afy _,by show lo<=hi;omega,by show hi<=_;rw[hc.len];exact h2,by show 0<=q0/\q0<=_;omega⟩,rfl,by show q0=q0+_;simp,hq.1,λj a b m d hv=>?_,?_,λj hj=>?_⟩
 ·dsimp only at a b;rw[Df h (by omega) (by omega),tW] at hv;cases hv
 ·exact Gf (Df h h0 (by show lo<(n:Int);omega))
 ·rw[wQ h hj];exact BE
section
variable {W w:World} {L:LH} {k:Nat}
end
section
variable {W w:World} {L:LH}
end
end Go.Sep
namespace Go.Sep
open Go.Den Go.RowKit
section
variable {H:Type} {enc:TypeId×Value->H} {P:Program} {w:World} {base:Nat} {spare:Nat->Bool} {held:Bool}
end
end Go.Sep
namespace Go.Sep
open Go.Den Go.RowKit Go.Prog Go.bA
def JG.mono{n:Nat}{D:aw}{J:PJ}{q0:Int}{kM:List (List UInt8)}{g g':Nat}(h:JG n D J q0 kM g)(hg:g<=g'):JG n D J q0 kM g':=
 ⟨h.ok,h.Et,h.len,h.tr,h.chain,h.seq,h.q0,h.low,h.stop,λj hj=>(h.ends j hj).mono hg⟩
def JG.uj{n:Nat}{D:aw}{J:PJ}{q0:Int}{kM:List (List UInt8)}{g:Nat}(h:JG n D J q0 kM g)(hg:g<256):∃x:Nat,dy D n=x/\x<=g/\JG n D J q0 kM x:=by
 have h1:=uR D n;have h2:=yl (D:=D) hg n h.ends;obtain⟨x,hx⟩:=ad8 h1.1;refine⟨x,hx,by omega,⟨h.ok,h.Et,h.len,h.tr,h.chain,h.seq,h.q0,h.low,h.stop,λj hj=>?_⟩⟩;obtain⟨e1,⟨a,ha,e2⟩,b,hb,e3⟩:=h.ends j hj;have hle:=Gb (D:=D) n j hj;have e4:yi (D.read (j:Int)).1=bs (le .i64 8 ((a:Nat):Int)):=gO (by rw[GJ,e2];rfl);have e5:xD (D.read (j:Int)).1=bs (le .i64 8 ((b:Nat):Int)):=gO (by rw[FC e1,e3];rfl);rw[e4,e5,qR (by omega),qR (by omega)] at hle;exact⟨e1,⟨a,by omega,e2⟩,b,by omega,e3⟩
section
variable {W w:World} {L:LH}
end
section
variable {W w:World} {L:LH} {k:Nat}
end
def wP(a b:Option dj):Option dj:=
 match b with
 |none=>a
 |some hb=>match a with
  |none=>some hb
  |some ha=>if ha.aF<hb.aF then some hb else some ha
def sh(D:aw)(number:Int)(h:dj):aw×Int:=
 if kL h then(if(lay D (low h.aF) (low h.aF+1) number (bs (hU h))).2≠0 then lay D (low h.aF) (low h.aF+1) number (bs (hU h)) else(lay D (low h.aF) (low h.aF+1) number (bs (hU h))).1.sync) else(D,1)
section
variable {W w:World} {L:LH} {k d:Nat} {D:aw}
def L3{number:Int}{h:dj}{K:VK}(hs:St W w L)(hk:L[k]?=some (dK d D))(eO:D.Ok)(hl:D.later.length+5000<1099511627776)
 (hK:∀w',St W w' (L.set k (dK d (sh D number h).1))->K (.i (sh D number h).2) w'):qe (some ⟨d,0,none⟩) number (aS h) K w:=by
 unfold qe;refine fE hs λr w hs=>?_;refine gg (k:=0) (xs:=aS h) hs rfl rfl (λj v hj=>by rw[ad1];exact hj) ?_;refine G9 hs λw hs=>?_;simp only[nz,adV,adW];unfold sh at hK;unfold Ab;by_cases hg:kL h
 ·rw[if_pos hg] at hK⊢;dsimp only;refine qD (λhh=>absurd rfl hh) (λ_=>?_);refine bn (k:=0) hs rfl rfl ?_;simp only[nz,adV,adW];refine bn (k:=0) hs rfl rfl ?_;simp only[nz,adV,adW];have Lr:=sK h.aF;have ew:adU.wrap (bC .i64 .and h.aF 1+1)=low h.aF+1:=by
   show adU.wrap (low h.aF+1)=_;rw[ar (by omega)]
  rw[ew];have e0:bC .i64 .and h.aF 1=low h.aF:=rfl;rw[e0];have ou:(bs (hU h)).size=32:=by rw[bI,mG]
  have Iu:dQ (bs (hU h)).size=1:=by rw[ou];rfl
  have rz:(pt r (aS h)::L)[k+1]?=some (dK d D):=by rw[aed];exact hk
  refine B3 (k:=k+1) hs rz eO (by omega) (by rw[ou];decide) λw hs=>?_;rw[afc] at hs;simp only[nz,adV,adW];have Ls:=(Es (at':=low h.aF) (to:=low h.aF+1) (number:=number) (s:=bs (hU h)) eO (by rw[Iu];omega)).1;refine qD (λgU=>?_) (λh0=>?_)
  ·rw[if_pos gU] at hK;exact hK w hs.drop
  ·rw[if_neg (λhh=>hh h0)] at hK;refine qI (k:=k+1) hs (by rw[aed];exact fZ hk) Ls λw hs=>?_;rw[afc,afb] at hs;simp only[nz,adV,adW];exact hK w hs.drop
 ·rw[if_neg hg] at hK⊢;dsimp only;refine qD (λ_=>?_) (λhh=>by simp at hh);refine hK w ?_;rw[jQ hk];exact hs.drop
def Cv(o:Option dj):dj:=o.getD An
def vN(o:Option dj):mF o=.tuple ⟨[.agg ⟨aS (Cv o)⟩,.bool o.isSome]⟩:=by cases o<;>rfl
def Ho{K:VK}(hs:St W w L)(hk:L[k]?=some (dK d D))(eO:D.Ok)(hK:∀w',St W w' L->K (mF (wP (vU D 0) (vU D 1))) w'):nW (some ⟨d,0,none⟩) K w:=by
 unfold nW;refine fE hs λr1 w hs=>?_;refine Kk (i:=0) (k:=k+1) hs (by rw[aed];exact hk) eO λw hs=>?_;rw[vN];simp only[nz,adV,adW];simp only[tj];refine⟨rfl,?_⟩;simp only[nz,adV,adW];refine fE hs λr2 w hs=>?_;refine⟨rfl,fX (k:=0) hs rfl (ad3 rfl) (by simp[Value.oneCell',aS]) λw hs=>?_⟩;rw[eS (by simp[aS])] at hs;simp only[nz,adV,adW] at hs;refine Kk (i:=1) (k:=k+2) hs (by rw[aed,aed];exact hk) eO λw hs=>?_;rw[vN];simp only[nz,adV,adW];simp only[tj];refine⟨rfl,?_⟩;simp only[nz,adV,adW];refine fE hs λr3 w hs=>?_;refine⟨rfl,fX (k:=0) hs rfl (ad3 rfl) (by simp[Value.oneCell',aS]) λw hs=>?_⟩;rw[eS (by simp[aS])] at hs;simp only[nz,adV,adW] at hs;generalize vU D 0=a at *;generalize vU D 1=b at *;have tell:∀(i:Nat)(o:Option dj)(r:Nat)(f:Bool),(i=0/\r=r3/\Cv o=Cv b\/i=1/\r=r2/\Cv o=Cv a)->(f=o.isSome)->(∀w',St W w' L->K (mF o) w')->
                                                                                                        ai ⟨r,0,none⟩ 4 (λcs=>a8 (cs.length=4) (gp ⟨r1,0,none⟩ cs (ai ⟨r1,0,none⟩ 4 λrB=>K (.tuple ⟨[.agg ⟨rB⟩,.bool f]⟩)))) w:=λi o r f hi hf hK=>by
  have xd:(pt r3 (aS (Cv b))::pt r2 (aS (Cv a))::pt r1 [.i 0,.i 0,.i 0,.i 0]::L)[i]?=some (pt r (aS (Cv o))):=by
   rcases hi with⟨rfl,rfl,h⟩|⟨rfl,rfl,h⟩<;>rw[h]<;>rfl
  refine gg (xs:=aS (Cv o)) hs xd rfl (λj v hj=>by rw[ad1];exact hj) ?_;refine⟨rfl,?_⟩;refine fX (k:=2) hs rfl (ad3 rfl) (by simp[Value.oneCell',aS]) λw hs=>?_;rw[eS (by simp[aS])] at hs;simp only[nz,adV,adW] at hs;refine gg (k:=2) (xs:=aS (Cv o)) hs rfl rfl (λj v hj=>by rw[ad1];exact hj) ?_;have:=hK w hs.drop.drop.drop;rw[vN] at this;rw[hf];exact this
 cases b with
 |none=>
  exact tell 1 a r2 _ (.inr ⟨rfl,rfl,rfl⟩) rfl hK
 |some hb=>
  cases a with
  |none=>exact tell 0 (some hb) r3 true (.inl ⟨rfl,rfl,rfl⟩) rfl hK
  |some ha=>
   have e1:(some hb:Option dj).isSome=true:=rfl;have e2:(some ha:Option dj).isSome=true:=rfl;rw[e1,e2];simp only[nz,adV,adW];refine bn (k:=0) hs rfl (v:=.i hb.aF) rfl ?_;simp only[nz,adV,adW];refine bn (k:=1) hs rfl (v:=.i ha.aF) rfl ?_;simp only[nz,adV,adW];unfold wP at hK;dsimp only at hK;refine dc (λJ6=>?_) (λhle=>?_)
   ·rw[if_pos J6] at hK;exact tell 0 (some hb) r3 true (.inl ⟨rfl,rfl,rfl⟩) rfl hK
   ·rw[if_neg hle] at hK;exact tell 1 (some ha) r2 true (.inr ⟨rfl,rfl,rfl⟩) rfl hK
end
end Go.Sep
namespace Go.Up
open Go.Sep Go.Den Go.RowKit Go.Prog Go.Md Go.bA
section
variable {W:World} {L R:LH} {K:VK} {X:WK} {d r n:Nat} {D:aw} {J:PJ} {f:aw->LH} {g:PJ->LH} {s:BA}
abbrev jP(d r:Nat)(J:PJ):HP:=Sep.pt r (nR d J)
def Mb[i:Lc (dK d) L D f](h:T W L (K (.i (D.safe.length:Int)))):T W L (dw (some ⟨d,0,none⟩) K):=λw hs=>by
 obtain⟨k,hk,e⟩:=i.at_;exact ka hs hk (h w hs)
def NA{n:Int}(h:∀d,T W (dK d (aw.new n)::L) (K (.p (some ⟨d,0,none⟩)))):T W L (jS n K):=λw hs=>Pg hs λd w' h'=>h d w' h'
def ZC[i:Lc (dK d) L D f]{n:Int}(h:T W (f (D.tA n)) (K (.tuple ⟨[]⟩))):T W L (jd (some ⟨d,0,none⟩) n K):=λw hs=>by
 obtain⟨k,hk,e⟩:=i.at_;exact CD hs hk λw' h'=>h w' (by rw[e];exact h')
def ZB(km:12<=n)(bN:n<=4096)(h:T W L (K (.tuple ⟨[.agg ⟨cQ n⟩,.i 0]⟩))):T W L (pQ n K):=λw hs=>R9 hs km bN λw' h'=>h w' h'
def TW[i:Lc (dK d) L D f]{which number:Int}(eO:D.Ok)(km:12<=n)(bN:n<=4096)(hl:D.later.length+5000<1099511627776)(hs:s.size<=reachBytes)
 (h:T W (f (put D n which number s).1) (K (.i (put D n which number s).2))):T W L (mQ (cQ n) (some ⟨d,0,none⟩) which number s K):=λw hw=>by
 obtain⟨k,hk,e⟩:=i.at_;exact Pe hw hk eO km bN hl hs λw' h'=>h w' (by rw[e];exact h')
def TX[i:Lc (dK d) L D f]{which number size:Int}(eO:D.Ok)(km:12<=n)(bN:n<=4096)(h:T W L (K (oX (get D n which number size)))):T W L (mR (cQ n) (some ⟨d,0,none⟩) which number size K):=λw hw=>by
 obtain⟨k,hk,e⟩:=i.at_;exact Pn hw hk eO km bN λw' h'=>h w' h'
def Pf[i:Lc (dK d) L D f](eO:D.Ok)(h:T W L (K (mF (wP (vU D 0) (vU D 1))))):T W L (nW (some ⟨d,0,none⟩) K):=λw hw=>by
 obtain⟨k,hk,e⟩:=i.at_;exact Ho hw hk eO λw' h'=>h w' h'
def Vy[i:Lc (dK d) L D f]{number:Int}{hd:dj}(eO:D.Ok)(hl:D.later.length+5000<1099511627776)(h:T W (f (sh D number hd).1) (K (.i (sh D number hd).2))):T W L (qe (some ⟨d,0,none⟩) number (aS hd) K):=λw hw=>by
 obtain⟨k,hk,e⟩:=i.at_;exact L3 hw hk eO hl λw' h'=>h w' (by rw[e];exact h')
def B4[i:Lc (dK d) L D f](eO:D.Ok)(h:T W L (K (.i (dy D D.safe.length)))):T W L (kz (some ⟨d,0,none⟩) K):=λw hw=>by
 obtain⟨k,hk,e⟩:=i.at_;exact CC hw hk eO λw' h'=>h w' h'
def NW[i:Lc (jP d r) L J g](h:T W L (K (.i J.seq))):T W L (gr (some ⟨r,0,none⟩) K):=λw hw=>by
 obtain⟨k,hk,e⟩:=i.at_;exact O6 hw hk (h w hw)
def Me[i:Lc (jP d r) L J g](h:T W (g {J with at':=J.lo}) (K (.tuple ⟨[]⟩))):T W L (fO (some ⟨r,0,none⟩) K):=λw hw=>by
 obtain⟨k,hk,e⟩:=i.at_;exact E3 hw hk λw' h'=>h w' (by rw[e];exact h')
def QZ[i:Lc (jP d r) L J g]{m:Int}(hJ:J.Ok D)(eO:D.Ok)(h:T W L (K (.bool (decide (room J m))))):T W L (fN (some ⟨r,0,none⟩) m K):=λw hw=>by
 obtain⟨k,hk,e⟩:=i.at_;exact Bl hw hk hJ eO λw' h'=>h w' h'
def Uj{number:Int}(hJ:J.Ok D)(eO:D.Ok)(hl:D.later.length<1000000)(hs:s.size<=reachBytes)
 (h:T W (jP d r (pK D J number s).2.1::dK d (pK D J number s).1::R) (K (.i (pK D J number s).2.2))):T W (jP d r J::dK d D::R) (aV (some ⟨r,0,none⟩) number s K):=λw hw=>
 Lg (k:=0) (k2:=1) hw rfl rfl (by decide) hJ eO hl hs λw' h'=>h w' h'
def Q0[i:Lc (dK d) L D f]{lo hi q:Int}(eO:D.Ok)(hp:0<=lo/\lo<hi/\hi<=(D.safe.length:Int))(hq:0<=q/\q<=1152921504606846976)
 (h:∀r b c,(∃n:Nat,n<=4096/\(gR D hi lo q).1.length=n/\(gR D hi lo q).2.2=q+n/\lo<=(gR D hi lo q).2.1/\(gR D hi lo q).2.1<=hi)->T W (own b (gR D hi lo q).1.length c 1 ((gR D hi lo q).1.map Cj)::jP d r ⟨lo,hi,(gR D hi lo q).2.1,(gR D hi lo q).2.2,false⟩::L)
  (K (.tuple ⟨[.p (some ⟨r,0,none⟩),.l b (gR D hi lo q).1.length c,.i 0]⟩))):T W L (gT (some ⟨d,0,none⟩) lo hi q K):=λw hw=>by
 obtain⟨k,hk,e⟩:=i.at_;exact Mf hw hk eO hp hq λr b c w' he h'=>h r b c he w' h'
end
end Go.Up
namespace Go.Sep
open Go.Den Go.RowKit Go.Prog Go.bA
def Ii{D:aw}{at' to number:Int}{s:BA}(h:D.Ok)(hl:D.later.length+dQ s.size<1099511627776):(cS D at' to number s).1.later.length<=D.later.length+dQ s.size:=by
 have hL:(lay D at' to number s).1.later.length<=D.later.length+dQ s.size:=by
  unfold lay;split
  ·exact Nat.le_add_right _ _
  ·split
   ·exact Nat.le_add_right _ _
   ·exact(wV _ 0 h hl).2.2
 unfold cS;split
 ·exact hL
 ·exact Nat.le_trans Dk.FI.2 hL
section
variable {W w:World} {L:LH}
end
end Go.Sep
namespace Go.Up
open Go.Sep Go.Den Go.RowKit Go.Prog Go.Md Go.bA
structure VS where
 D:aw
 J:PJ
 aF:Int
 cR:Bool
def vC(d n pb pj:Nat)(aF:Int)(cR:Bool):LV:=[.p (some ⟨d,0,none⟩)]++(cQ n++[.p (some ⟨pb,0,none⟩),.p (some ⟨pj,0,none⟩),.i aF,.bool cR])
instance{h:dj}:Ln (aS h) 4:=⟨rfl⟩
instance{n:Nat}:Ln (cQ n) 5:=⟨rfl⟩
instance{h:dj}:Gt (aS h) 0 (.i h.aF):=⟨rfl⟩
instance{h:dj}:Gt (aS h) 1 (.i h.number):=⟨rfl⟩
instance{h:dj}:Gt (aS h) 2 (.i h.size):=⟨rfl⟩
instance{h:dj}:Gt (aS h) 3 (.i h.seq):=⟨rfl⟩
instance{n:Nat}:Gt (cQ n) 3 (.i (2+2* bQ n:Nat)):=⟨rfl⟩
instance{n:Nat}:Gt (cQ n) 4 (.i n):=⟨rfl⟩
instance{d n pb pj:Nat}{aF:Int}{cR:Bool}:Gt (vC d n pb pj aF cR) 0 (.p (some ⟨d,0,none⟩)):=⟨rfl⟩
instance{d n pb pj:Nat}{aF:Int}{cR:Bool}:Gt (vC d n pb pj aF cR) 6 (.p (some ⟨pb,0,none⟩)):=⟨rfl⟩
instance{d n pb pj:Nat}{aF:Int}{cR:Bool}:Gt (vC d n pb pj aF cR) 7 (.p (some ⟨pj,0,none⟩)):=⟨rfl⟩
instance{d n pb pj:Nat}{aF:Int}{cR:Bool}:Gt (vC d n pb pj aF cR) 8 (.i aF):=⟨rfl⟩
instance{d n pb pj:Nat}{aF:Int}{cR:Bool}:Gt (vC d n pb pj aF cR) 9 (.bool cR):=⟨rfl⟩
instance{d n pb pj:Nat}{aF:Int}{cR:Bool}:Sub (vC d n pb pj aF cR) 1 5 (cQ n):=⟨rfl,λj v h=>by
 show([_]++(cQ n++_))[1+j]?=some v
 rw[aey (by simp),ael (by have:=(adZ.1 h).1;simpa using this)]
 simpa using h⟩
instance{d n pb pj:Nat}{aF t2:Int}{cR:Bool}:Wr (vC d n pb pj aF cR) 8 [.i t2] (vC d n pb pj t2 cR):=⟨rfl,by show 9<=10;decide,λv h=>by simp at h;subst h;rfl⟩
instance{d n pb pj:Nat}{aF:Int}{cR s2:Bool}:Wr (vC d n pb pj aF cR) 9 [.bool s2] (vC d n pb pj aF s2):=⟨rfl,by show 10<=10;decide,λv h=>by simp at h;subst h;rfl⟩
abbrev VL(v d n pb pj:Nat)(m:Model)(S:VS)(R:LH):LH:=Sep.pt v (vC d n pb pj S.aF S.cR)::bj pb (bo m,[])::jP d pj S.J::dK d S.D::R
def iI(n:Nat)(m:Model)(S:VS):VS×Int:=
 if S.cR=true then(S,9)
 else if ¬dQ (bO (bo m)).length<=bQ n then(S,3)
 else if(put S.D n (S.aF+1) (dy S.D S.D.safe.length+1) (bs (bO (bo m)))).2≠0 then(⟨(put S.D n (S.aF+1) (dy S.D S.D.safe.length+1) (bs (bO (bo m)))).1,S.J,S.aF,true⟩,(put S.D n (S.aF+1) (dy S.D S.D.safe.length+1) (bs (bO (bo m)))).2)
 else if(sh (put S.D n (S.aF+1) (dy S.D S.D.safe.length+1) (bs (bO (bo m)))).1 (dy S.D S.D.safe.length+2) ⟨S.aF+1,dy S.D S.D.safe.length+1,((bO (bo m)).length:Int),S.J.seq⟩).2≠0 then
  (⟨(sh (put S.D n (S.aF+1) (dy S.D S.D.safe.length+1) (bs (bO (bo m)))).1 (dy S.D S.D.safe.length+2) ⟨S.aF+1,dy S.D S.D.safe.length+1,((bO (bo m)).length:Int),S.J.seq⟩).1,S.J,S.aF,true⟩,(sh (put S.D n (S.aF+1) (dy S.D S.D.safe.length+1) (bs (bO (bo m)))).1 (dy S.D S.D.safe.length+2) ⟨S.aF+1,dy S.D S.D.safe.length+1,((bO (bo m)).length:Int),S.J.seq⟩).2)
 else(⟨(sh (put S.D n (S.aF+1) (dy S.D S.D.safe.length+1) (bs (bO (bo m)))).1 (dy S.D S.D.safe.length+2) ⟨S.aF+1,dy S.D S.D.safe.length+1,((bO (bo m)).length:Int),S.J.seq⟩).1,{S.J with at':=S.J.lo},S.aF+1,S.cR⟩,0)
section
variable {W:World} {L R:LH} {K:VK} {X:WK} {v d n pb pj:Nat} {m:Model} {S:VS}
def V2{k:Nat}(hk:k<1099511627776000)(h:T W L (K (.bool (decide (dQ k<=bQ n))))):T W L (mo (cQ n) k K):=λw hs=>Mg hs hk λw' h'=>h w' h'
def xV{D:aw}{which number:Int}{s:BA}:put D n which number s=cS D (cN n which) ((cN n which+bQ n:Nat):Int) number s:=rfl
def Kt{e:Int}{J2:PJ}{D2:aw}(ht:0<=S.aF/\S.aF<1152921504606846976)
 (h1:e≠0->T W (Sep.pt v (vC d n pb pj S.aF true)::bj pb (bo m,[])::jP d pj J2::dK d D2::R) (K (.i e)))
 (h0:e=0->T W (Sep.pt v (vC d n pb pj (S.aF+1) S.cR)::bj pb (bo m,[])::jP d pj {J2 with at':=J2.lo}::dK d D2::R) (K (.i 0))):
 T W (Sep.pt v (vC d n pb pj S.aF S.cR)::bj pb (bo m,[])::jP d pj J2::dK d D2::R) (cD.j1 K (some ⟨v,0,none⟩) e):=by
 unfold cD.j1;refine bw (λg1=>?_) (λg1=>?_)
 ·have g1:e≠0:=by simpa using g1
  apply ws;intros;exact h1 g1
 ·have g1:e=0:=by simpa using g1
  have e5:adU.wrap (S.aF+1)=S.aF+1:=ar (by omega);apply ws;intros;rw[e5];refine Me (d:=d) (r:=pj) ?_;apply ws;intros;exact h0 g1
def O8(eO:S.D.Ok)(vM:S.D.later.length<1000000)(km:12<=n)(bN:n<=4096)(ht:0<=S.aF/\S.aF<1152921504606846976)
 (h:T W (VL v d n pb pj m (iI n m S).1 R) (K (.i (iI n m S).2))):T W (VL v d n pb pj m S R) (cD (some ⟨v,0,none⟩) K):=by
 unfold cD;refine mn (p:=pb) (b:=bo m) (hs:=[]) λhg=>?_;have SN:=vz hg;have lu:=hg.lu;have many:=hg.many;apply ws;intros;unfold iI at h;cases yW:S.cR with
 |true=>
  rw[if_pos yW] at h;rw[gW];exact h
 |false=>
  rw[if_neg (by rw[yW];decide)] at h;rw[cf]
  repeat' first|apply ws;intros|apply wb|with_reducible refine CP (p:=pb) ?_|fail
  rw[bI];refine V2 (by omega) (nK ?_);by_cases hf:dQ (bO (bo m)).length<=bQ n
  ·rw[if_neg (λhh=>hh hf)] at h;rw[decide_eq_true hf,Bool.not_true,cf];obtain⟨HE,Mt⟩:=uR S.D S.D.safe.length;have e1:adU.wrap (dy S.D S.D.safe.length+1)=dy S.D S.D.safe.length+1:=ar (by omega);have e2:adU.wrap (dy S.D S.D.safe.length+1+1)=dy S.D S.D.safe.length+2:=by rw[ar (by omega)];omega
   have e3:adU.wrap (S.aF+1)=S.aF+1:=ar (by omega)
   repeat' first|apply ws;intros|apply wb|with_reducible refine B4 (d:=d) eO ?_|fail
   rw[e1,e2,e3];have fo:(bs (bO (bo m))).size<=reachBytes:=by rw[bI,SN];unfold reachBytes;omega
   refine TW eO km bN (by omega) fo ?_;have XL:(put S.D n (S.aF+1) (dy S.D S.D.safe.length+1) (bs (bO (bo m)))).1.Ok:=by
    rw[xV];exact Gi eO (by rw[bI];unfold bQ at hf;omega)
   have X7:(put S.D n (S.aF+1) (dy S.D S.D.safe.length+1) (bs (bO (bo m)))).1.later.length<1010000:=by
    rw[xV];have:=Ii (D:=S.D) (at':=(cN n (S.aF+1):Nat)) (to:=((cN n (S.aF+1)+bQ n:Nat):Int)) (number:=dy S.D S.D.safe.length+1) (s:=bs (bO (bo m))) eO (by rw[bI];unfold bQ at hf;omega);rw[bI] at this;unfold bQ at hf;omega
   generalize put S.D n (S.aF+1) (dy S.D S.D.safe.length+1) (bs (bO (bo m)))=P1 at h XL X7⊢;generalize dy S.D S.D.safe.length=G at h⊢;apply ws;intros;refine bw (λg1=>?_) (λg1=>?_)
   ·have g1:P1.2=0:=by simpa using g1
    rw[if_neg (by omega)] at h
    repeat' first|apply ws;intros|apply wb|with_reducible refine NW (d:=d) (r:=pj) ?_|fail
    rw[e3];show T W _ (qe (some ⟨d,0,none⟩) (G+2) (aS (⟨S.aF+1,G+1,((bO (bo m)).length:Int),S.J.seq⟩:dj)) _);refine Vy XL (by omega) ?_;generalize sh P1.1 (G+2) (⟨S.aF+1,G+1,((bO (bo m)).length:Int),S.J.seq⟩:dj)=P2 at h⊢;apply ws;intros;refine Kt (S:=S) ht (λhe=>?_) (λhe=>?_)
    ·rw[if_pos he] at h;exact h
    ·rw[if_neg (by omega)] at h;exact h
   ·have g1:P1.2≠0:=by simpa using g1
    rw[if_pos g1] at h;refine Kt (S:=S) ht (λhe=>?_) (λhe=>absurd he g1);exact h
  ·rw[if_pos hf] at h;rw[decide_eq_false hf,Bool.not_false,gW];exact h
end
def lv(S:VS)(s:BA):VS×Int:=
 (⟨(pK S.D S.J (dy S.D S.D.safe.length+1) s).1,(pK S.D S.J (dy S.D S.D.safe.length+1) s).2.1,S.aF,S.cR||(pK S.D S.J (dy S.D S.D.safe.length+1) s).2.2==8⟩,(pK S.D S.J (dy S.D S.D.safe.length+1) s).2.2)
def gZ(n:Nat)(m:Model)(S:VS)(s:BA):VS×Int:=
 if room S.J s.size then lv S s else if(iI n m S).2≠0 then iI n m S else lv (iI n m S).1 s
def vX(n:Nat)(m:Model)(S:VS)(q:ig):VS×Model×Int×List Int:=
 if gQ q=false then(S,m,1,[])
 else if S.cR=true then(S,m,9,[])
 else if(gZ n m S (bs (ch q))).2≠0 then((gZ n m S (bs (ch q))).1,m,(gZ n m S (bs (ch q))).2,[])
 else((gZ n m S (bs (ch q))).1,(aE m q).2.2,(aE m q).1,(aE m q).2.1)
structure MC(S:VS):Prop where
 ok:S.D.Ok
 lu:S.D.later.length<1000000
 tr:S.J.Ok S.D
 aF:0<=S.aF/\S.aF<1152921504606846976
section
variable {W:World} {L R:LH} {K:VK} {X:WK} {v d n pb pj:Nat} {m:Model} {S:VS} {s:BA} {q:ig} {sl:rE}
def T.eng{A B C D E F G:HP}(h:T W (B::C::A::D::E::R) X):T W (A::B::C::D::E::F::G::R) X:=
 T.perm (L:=B::C::A::D::E::F::G::R) (T.sub h (by exact lW)) (ad7 (l₁:=[A]) (l₂:=[B,C])|>.append_right _)
def Ps(hS:MC S)(hs:s.size<=reachBytes)(h:T W (VL v d n pb pj m (lv S s).1 R) (K (.i (lv S s).2))):T W (VL v d n pb pj m S R) (fH.j1 K (some ⟨v,0,none⟩) s):=by
 unfold fH.j1;obtain⟨HE,Mt⟩:=uR S.D S.D.safe.length;have e1:adU.wrap (dy S.D S.D.safe.length+1)=dy S.D S.D.safe.length+1:=ar (by omega)
 repeat' first|apply ws;intros|apply wb|with_reducible refine B4 (d:=d) hS.ok ?_|fail
 rw[e1];refine T.perm (L:=jP d pj S.J::dK d S.D::Sep.pt v (vC d n pb pj S.aF S.cR)::bj pb (bo m,[])::R) ?_ (ad7 (l₁:=[_,_]) (l₂:=[_,_])|>.append_right R);refine Uj hS.tr hS.ok hS.lu hs ?_;unfold lv at h;generalize pK S.D S.J (dy S.D S.D.safe.length+1) s=A at h⊢;refine T.perm (L:=Sep.pt v (vC d n pb pj S.aF S.cR)::bj pb (bo m,[])::jP d pj A.2.1::dK d A.1::R) ?_ (ad7 (l₁:=[_,_]) (l₂:=[_,_])|>.append_right R);cases yW:S.cR with
 |true=>
  rw[yW,Bool.true_or] at h;apply ws;intros;exact h
 |false=>
  rw[yW,Bool.false_or] at h;apply ws;intros;exact h
def Zz(hS:MC S)(Yp:MC (iI n m S).1)(km:12<=n)(bN:n<=4096)(hs:s.size<=100000)(h:T W (VL v d n pb pj m (gZ n m S s).1 R) (K (.i (gZ n m S s).2))):T W (VL v d n pb pj m S R) (fH (some ⟨v,0,none⟩) s K):=by
 have hsr:s.size<=reachBytes:=by unfold reachBytes;omega
 unfold fH;apply ws;intros;refine QZ (d:=d) (r:=pj) (D:=S.D) hS.tr hS.ok ?_;unfold gZ at h;by_cases hr:room S.J s.size
 ·rw[if_pos hr] at h;rw[decide_eq_true hr];apply ws;intros;exact Ps hS hsr h
 ·rw[if_neg hr] at h;rw[decide_eq_false hr];apply ws;intros;refine O8 hS.ok hS.lu km bN hS.aF ?_;apply ws;intros;refine bw (λg1=>?_) (λg1=>?_)
  ·have g1:(iI n m S).2≠0:=by simpa using g1
   rw[if_pos g1] at h;exact h
  ·have g1:(iI n m S).2=0:=by simpa using g1
   rw[if_neg (by omega)] at h;exact Ps Yp hsr h
def FT(hw:gQ q=true)(he:cz q=true):(ch q).length<=2000:=by
 have UE:q.op=1\/q.op=2\/q.op=3:=of_decide_eq_true he;have hf:=nA hw;unfold ch;rw[ad0,ay];split
 ·rw[ad0,ay,dR oS];omega
 ·split
  ·rw[ad0,ay,dR oH];omega
  ·split
   ·rw[ay];omega
   ·omega
def TE(G:pE W)(hg:Md.Ground m)(hS:MC S)(Yp:MC (iI n m S).1)(km:12<=n)(bN:n<=4096)(hq:lK W R q sl)(hA:∀a∈q.ah,vn a)(hT:∀t∈q.aT,u3 t)(zz:q.ah.length<1000000)(aZ:q.aT.length<1000000)(he:cz q=true)
 (h:∀rb rc,Md.Ground (vX n m S q).2.1->T W (own rb (vX n m S q).2.2.2.length rc 1 ((vX n m S q).2.2.2.flatMap I1)::VL v d n pb pj (vX n m S q).2.1 (vX n m S q).1 R) (K (.agg ⟨nM (vX n m S q).2.2.1 rb (vX n m S q).2.2.2.length rc none 0 0 none 0 0⟩))):
 T W (VL v d n pb pj m S R) (dM (some ⟨v,0,none⟩) (dH q sl) K):=by
 unfold dM
 repeat' first|apply ws;intros|apply wb|with_reducible refine yp ?_|fail
 rw[he];apply ws;intros;refine MJ (R:=R) hq zz aZ (λhw=>?_) (λhw=>?_)
 ·apply ws;intros;unfold vX at h;rw[if_neg (by rw[hw];decide)] at h;refine dO (by decide) ?_;apply ws;intros;cases yW:S.cR with
  |true=>
   rw[if_pos yW] at h;apply ws;intros;refine eY (e:=1) ?_;refine T.sub (h none 0 hg) ?_
   repeat (first|exact aeb.refl _|apply aeb.cons_cons|apply aeb.cons)
  |false=>
   rw[if_neg (by rw[yW];decide)] at h;rw[cf];have hrl:=FT hw he;have U7:q.op=2->∀t∈q.aT,ZA t:=λho t ht=>⟨hT t ht,by
    have hf:=nA hw
    have:∀a∈q.aT,j0 a:=by rcases hf with h|h|h|h|h<;>first|exact h.2.2|omega
    exact this t ht⟩
   refine T.perm (L:=VL v d n pb pj m S (_::_::R)) ?_ (ad7 (l₁:=[_,_]) (l₂:=[_,_,_,_])|>.append_right R);refine Zz hS Yp km bN (by rw[bI];omega) ?_;generalize gZ n m S (bs (ch q))=A at h⊢;apply ws;intros;refine bw (λg1=>?_) (λg1=>?_)
   ·have g1:A.2≠0:=by simpa using g1
    rw[if_pos g1] at h;apply ws;intros;refine eY (e:=1) ?_;refine T.sub (h none 0 hg) ?_
    repeat (first|exact aeb.refl _|apply aeb.cons_cons|apply aeb.cons)
   ·have g1:A.2=0:=by simpa using g1
    rw[if_neg (by omega)] at h;apply ws;intros;refine T.HZ ?_;refine GW G hg ⟨hq.ah.mono,hq.aT.mono,hq.ids.mono,hq.ca,hq.ct,hq.ci⟩ (λ_=>hA) U7 λrb rc Mt=>?_;apply ws;intros;have fin:=h rb rc Mt;exact T.eng fin
 ·apply ws;intros;unfold vX at h;rw[if_pos hw] at h;refine jN (by decide) ?_;apply ws;intros;refine eY (e:=1) ?_;refine T.sub (h none 0 hg) ?_
  repeat (first|exact aeb.refl _|apply aeb.cons_cons|apply aeb.cons)
end
section
variable {W:World} {L R:LH} {K:VK} {X:WK} {v d n pb pj:Nat} {m:Model} {S:VS} {s:BA} {q:ig} {sl:rE}
def T.ask{O1 O2 B V J D F G:HP}(h:T W (O1::O2::V::B::J::D::R) X):T W (O1::O2::B::V::J::D::F::G::R) X:=
 T.perm (L:=O1::O2::V::B::J::D::F::G::R) (T.sub h (by exact lW)) (aem.append_left [O1,O2] (aem.swap _ _ _))
def T.in2{F G V B J D:HP}(h:T W (B::V::J::D::F::G::R) X):T W (F::G::V::B::J::D::R) X:=
 T.perm h ((ad7 (l₁:=[F,G]) (l₂:=[V,B,J,D])|>.append_right R).trans (aem.swap _ _ _))
def TF(hq:lK W R q sl)(he:cz q=false)
 (h:∀ab ac tb tc,T W (own ab (ask m q).2.1.length ac 14 ((ask m q).2.1.flatMap ak)::own tb (ask m q).2.2.length tc 16 ((ask m q).2.2.flatMap aj)::VL v d n pb pj m S R) (K (.agg ⟨nM (ask m q).1 none 0 0 ab (ask m q).2.1.length ac tb (ask m q).2.2.length tc⟩))):
 T W (VL v d n pb pj m S R) (dM (some ⟨v,0,none⟩) (dH q sl) K):=by
 unfold dM
 repeat' first|apply ws;intros|apply wb|with_reducible refine yp ?_|fail
 rw[he];apply ws;intros;refine T.in2 ?_;refine Zx ⟨hq.ah.mono,hq.aT.mono,hq.ids.mono,hq.ca,hq.ct,hq.ci⟩ λab ac tb tc=>?_;apply ws;intros;exact T.ask (h ab ac tb tc)
def TC(h:T W (VL v d n pb pj m S R) (K (.i S.J.seq))):T W (VL v d n pb pj m S R) (jC (some ⟨v,0,none⟩) K):=by
 unfold jC
 repeat' first|apply ws;intros|apply wb|with_reducible refine NW (d:=d) (r:=pj) ?_|fail
 exact h
def wk(h:T W (VL v d n pb pj m S R) (K (.i S.aF))):T W (VL v d n pb pj m S R) (gM (some ⟨v,0,none⟩) K):=by
 unfold gM;apply ws;intros;exact h
def sz(h:T W (VL v d n pb pj m S R) (K (.bool S.cR))):T W (VL v d n pb pj m S R) (fM (some ⟨v,0,none⟩) K):=by
 unfold fM;apply ws;intros;exact h
def Fv(h:∀p,T W (bj p (bo m,[])::VL v d n pb pj m S R) (K (.p (some ⟨p,0,none⟩)))):T W (VL v d n pb pj m S R) (jL (some ⟨v,0,none⟩) K):=by
 refine mn (p:=pb) (b:=bo m) (hs:=[]) λhg=>?_;unfold jL
 repeat' first|apply ws;intros|apply wb|with_reducible refine CP (p:=pb) ?_|fail
 refine FL hg λp=>?_;apply ws;intros;exact h p
end
def pG:Model:=⟨[],[],0,0⟩
def uk:Good (bo pG):=⟨List.nodup_nil,List.nodup_nil,(by show 0<=32;decide),(by show 0<=96;decide),λa h=>(by cases h),λa h=>(by cases h),List.Pairwise.nil,λa h=>(by cases h),(by show(0:Int)<=0/\(0:Int)<=1099511627776;decide),rfl⟩
def np:Md.Ground pG:=⟨λa h=>(by cases h),List.nodup_nil,(by show 0<=32;decide),List.nodup_nil,λa h=>(by cases h),λa h=>(by cases h),(by show 0<=96;decide),λa h=>(by cases h),λa h=>(by cases h),λa h=>(by cases h)⟩
def vd(h:dj):∀v∈aS h,v.oneCell'=true:=λv hv=>by simp[aS] at hv;rcases hv with rfl|rfl|rfl|rfl<;>rfl
instance{x1 x2 x3 x4:Value}{h:dj}:Wr [x1,x2,x3,x4] 0 (aS h) (aS h):=⟨rfl,ad4 _,vd h⟩
instance{h:dj}:Sub (aS h) 0 4 (aS h):=⟨rfl,λj v h=>by rw[ad1];exact h⟩
def Cn(n:Nat):∀v∈cQ n,v.oneCell'=true:=λv hv=>by simp[cQ] at hv;rcases hv with rfl|rfl|rfl|rfl|rfl<;>rfl
instance{x1 x2 x3 x4 x5:Value}{n:Nat}:Wr [x1,x2,x3,x4,x5] 0 (cQ n) (cQ n):=⟨rfl,ad4 _,Cn n⟩
instance{n:Nat}:Sub (cQ n) 0 5 (cQ n):=⟨rfl,λj v h=>by rw[ad1];exact h⟩
def V3(D:aw)(n:Nat)(hd:dj)(mb:Model):Prop:=
 (wP (vU D 0) (vU D 1)=none/\hd=An/\mb=pG)\/(wP (vU D 0) (vU D 1)=some hd/\get D n hd.aF hd.number hd.size=some (bO (bo mb)))
section
variable {W:World} {L R:LH} {K:VK} {X:WK} {v d n pb pj:Nat} {D:aw} {f:aw->LH} {mb:Model} {hd:dj}
def RT(h:∀p,T W (bj p (bo pG,[])::L) (K (.p (some ⟨p,0,none⟩)))):T W L (qi K):=by
 refine OP λp la lk ti tn=>?_;intro w7 hw7;have h2:=hw7.push (A:=rC []) trivial;refine Ai (p:=p) (la:=la) (lk:=lk) (ti:=ti) (tn:=tn) (vs:=[]) (bx:=[]) (c:=c7 (bo pG)) (hs:=[]) (R:=L) trivial (λw hw=>h p w (St.and_intro uk hw)) w7 ?_;exact h2.perm (ad7 (l₁:=[rC []]) (l₂:=[_,_,_,_,_])|>.append_right L)
def P4[i:Lc (dK d) L D f](eO:D.Ok)(km:12<=n)(bN:n<=4096)(hb:V3 D n hd mb)(hg:Good (bo mb))(h:∀pb,T W (bj pb (bo mb,[])::L) (K (.tuple ⟨[.p (some ⟨pb,0,none⟩),.agg ⟨aS hd⟩,.i 0]⟩))):
 T W L (sy (some ⟨d,0,none⟩) (cQ n) K):=by
 unfold sy;apply ws;intros;refine Pf eO ?_;rcases hb with⟨h1,rfl,rfl⟩|⟨h1,h2⟩
 ·rw[h1];unfold mF;apply ws;intros;refine RT λp=>?_;apply ws;intros;refine M0 (n:=4) (xs:=aS An) ?_;apply ws;intros;refine T.sub (h p) ?_;exact lW
 ·rw[h1];unfold mF;apply ws;intros;refine TX eO km bN ?_;rw[h2];unfold oX;apply ws;intros;refine FL hg λp=>?_;apply ws;intros;refine T.sub (h p) ?_;exact lW
end
structure DV(q:ig):Prop where
 um:gQ q=true
 writes:cz q=true
 ah:∀a∈q.ah,vn a
 aT:∀t∈q.aT,u3 t
def u0(m:Model)(qs:List ig):Model:=qs.foldl (λm q=>(aE m q).2.2) m
def CW(m:Model)(qs:List ig)(q:ig):u0 m (qs++[q])=(aE (u0 m qs) q).2.2:=by unfold u0;rw[List.foldl_append];rfl
def Cz{m0:Model}:∀(k:Nat)(m:Model),yO m0.clock m.kept=k->Md.Ground m->Sb m0 m->Md.Ground {m0 with kept:=m0.kept.map (BD m0.clock)}:=by
 intro k
 induction k using Nat.strongRecOn with
 |_ k ih=>
  intro m hk hg hx;by_cases hn:∀x∈(bo m).kept,¬jy (bo m).clock x
  ·have:=Dd (o5 m) hx hn;rw[<-this];exact hg
  ·have:∃x,x∈(bo m).kept/\jy (bo m).clock x:=by
    by_cases he:∃x,x∈(bo m).kept/\jy (bo m).clock x
    ·exact he
    ·exact absurd (λx hx ho=>he ⟨x,hx,ho⟩) hn
   obtain⟨x,hxm,ho⟩:=this;obtain⟨-,-,m',cV,Rb,Un,yh⟩:=Dc (o5 m) hg hx hxm ho;exact ih _ (by omega) m' rfl Rb Un
def yE{m:Model}(hg:Md.Ground m)(now:Int):Md.Ground (m.time now):=by
 rw[DY];exact Cz _ (qo m now) rfl (zl hg now) (Sb.refl _)
def G6{q:ig}:(∀a∈(canon q).ah,a∈q.ah)/\(∀t∈(canon q).aT,t∈q.aT)/\(canon q).ah.length<=q.ah.length/\(canon q).aT.length<=q.aT.length:=by
 unfold canon;split
 ·exact⟨λa h=>h,λt h=>(by cases h),ad4 _,ad6 _⟩
 ·split
  ·exact⟨λa h=>(by cases h),λt h=>h,ad6 _,ad4 _⟩
  ·exact⟨λa h=>(by cases h),λt h=>(by cases h),ad6 _,ad6 _⟩
def vj{m:Model}(hg:Md.Ground m)(q:ig):Md.Ground (aE m q).2.2:=by
 unfold aE;split
 ·exact hg
 ·split
  ·exact(FO hg _ _).2.2
  ·split
   ·exact(Jp hg _ _).2.2
   ·exact yE hg _
section
variable {W:World} {L R:LH} {K:VK} {X:WK} {v d n pb pj:Nat} {D:aw} {f:aw->LH} {mb:Model} {hd:dj} {qs:List ig}
def lK.two{Y A:HP}{q:ig}{s:rE}(hq:∀L',lK W (A::L') q s):lK W (Y::A::L) q s:=⟨(hq L).ah.mono,(hq L).aT.mono,(hq L).ids.mono,(hq L).ca,(hq L).ct,(hq L).ci⟩
def T.W9{V O J H B P Dk:HP}(h:T W (B::V::J::Dk::O::R) X):T W (V::O::J::H::B::P::Dk::R) X:=
 T.perm (L:=B::V::J::Dk::O::H::P::R) (T.sub h (by exact lW)) (by
  have e1:([V,O,J,H,B,P,Dk]:LH).Perm (B::[V,O,J,H,P,Dk]):=ae' (l₁:=[V,O,J,H]) (l₂:=[P,Dk])
  have e2:([O,J,H,P,Dk]:LH).Perm (J::[O,H,P,Dk]):=ae' (l₁:=[O]) (l₂:=[H,P,Dk])
  have e3:([O,H,P,Dk]:LH).Perm (Dk::[O,H,P]):=ae' (l₁:=[O,H,P]) (l₂:=[])
  exact(e1.trans (aem.cons _ (aem.cons _ (e2.trans (aem.cons _ e3))))).append_right R)
def P0(G:pE W)(eO:D.Ok)(km:12<=n)(bN:n<=4096)(hlen:D.safe.length=n)(hb:V3 D n hd mb)(hg:Good (bo mb))(pT:Md.Ground mb)(Cs:0<=hd.seq/\hd.seq<=1152921504606846976)
 (Ew:(gR D n (2+2* bQ n:Nat) hd.seq).1=qs.map ch)(ZW:∀q∈qs,DV q)
 (h:∀v pb pj,Md.Ground (u0 mb qs)->T W (VL v d n pb pj (u0 mb qs) ⟨D,⟨(2+2* bQ n:Nat),n,(gR D n (2+2* bQ n:Nat) hd.seq).2.1,(gR D n (2+2* bQ n:Nat) hd.seq).2.2,false⟩,hd.aF,false⟩ R) (K (.tuple ⟨[.p (some ⟨v,0,none⟩),.i 0]⟩))):
 T W (dK d D::R) (eP (some ⟨d,0,none⟩) K):=by
 unfold eP;have Lo:2+2* bQ n<n:=by unfold bQ;omega
 repeat' first|apply ws;intros|apply wb|with_reducible refine Mb (d:=d) ?_|fail
 rw[hlen];refine ZB km bN ?_;apply ws;intros;refine dO (by decide) ?_;apply ws;intros;refine P4 (mb:=mb) (hd:=hd) eO km bN hb hg λpb=>?_;apply ws;intros;refine dO (by decide) ?_;apply ws;intros;refine Q0 (D:=D) eO (by rw[hlen];omega) Cs λpj bb c hex=>?_;apply ws;intros;refine dO (by decide) ?_;apply ws;intros;rename_i v;rw[Ew];refine T.W9 ?_;rw[aen];have hql:qs.length<=4096:=by obtain⟨n',h1,h2,-⟩:=hex;rw[Ew,aen] at h2;omega
 intro w Mm;refine⟨λvv w=>∃i:Nat,i<=qs.length/\vv=[.p none,.i 0,.p (some ⟨pb,0,none⟩),.p (some (ad v 0)),.l bb qs.length c,.i (qs.length:Int),.i (i:Int)]/\Md.Ground (u0 mb (qs.take i))/\
  St W w (bj pb (bo (u0 mb (qs.take i)),[])::Sep.pt v (vC d n pb pj hd.aF false)::jP d pj ⟨(2+2* bQ n:Nat),n,(gR D n (2+2* bQ n:Nat) hd.seq).2.1,(gR D n (2+2* bQ n:Nat) hd.seq).2.2,false⟩::dK d D::own bb qs.length c 1 ((qs.map ch).map Cj)::R),
  λvs _=>match vs with|[_,_,_,_,_,_,.int _ k]=>qs.length-k.toNat|_=>0,⟨0,ad6 _,rfl,pT,Mm⟩,?_⟩
 rintro p4 n9 p5 a1 uG pY uF n10 Wh w2 ⟨i,hi,e,X4,fo⟩;cases e
 refine T.at ?_ fo;have e5:=mh i;refine dX (λg1=>?_) (λg1=>?_)
 ·have aZ:i<qs.length:=by omega
  have gx:=adX aZ;have gq:=ZW _ (aej aZ);have oJ:qs.take (i+1)=qs.take i++[qs[i]]:=by rw[aeg,gx];rfl
  generalize qs[i]=q at gx gq oJ;have Yi:=CX gq.um gq.writes gq.ah gq.aT;have Ye:=BN gq.um gq.writes;refine bR (b:=bb) ⟨by omega,by omega⟩ λrb hb=>?_;subst hb;rw[adY,afn];refine MY (v:=Cj (ch q)) (by rw[aeJ,aeJ,gx];rfl) ?_;unfold Cj;refine P9 ?_;refine PY (by have:=FT gq.um gq.writes;omega) (λu2=>by rw[FX gq.um gq.writes gq.ah gq.aT] at u2;cases u2) (λ_ A sl hq=>?_);rw[Yi] at hq⊢;dsimp only at hq⊢;apply ws;intros;refine dO (by decide) ?_
  repeat' first|apply ws;intros|apply wb|with_reducible refine yp ?_|fail
  rw[Ye.2];unfold eP.j1;apply ws;intros;refine T.T3 ?_;have EE:=G6 (q:=q);have U7:(canon q).op=2->∀t∈(canon q).aT,ZA t:=λho t ht=>⟨gq.aT t (EE.2.1 t ht),by
   have hf:=nA Ye.1
   have:∀a∈(canon q).aT,j0 a:=by rcases hf with h|h|h|h|h<;>first|exact h.2.2|omega
   exact this t ht⟩
  have Br:=BM (u0 mb (qs.take i)) gq.writes;refine GW G X4 (lK.two hq) (λ_ a ha=>gq.ah a (EE.1 a ha)) U7 λPw rc2 Mt=>?_;apply ws;intros;rw[Br.1] at Mt⊢;rw[e5];have hre:u0 mb (qs.take (i+1))=(aE (u0 mb (qs.take i)) q).2.2:=by rw[oJ,CW]
  refine T.sub (M:=bj pb (bo (aE (u0 mb (qs.take i)) q).2.2,[])::Sep.pt v (vC d n pb pj hd.aF false)::jP d pj ⟨(2+2* bQ n:Nat),n,(gR D n (2+2* bQ n:Nat) hd.seq).2.1,(gR D n (2+2* bQ n:Nat) hd.seq).2.2,false⟩::dK d D::own (some ⟨rb,0,none⟩) qs.length c 1 ((qs.map ch).map Cj)::R) (λw3 h3=>?_) ?_
  ·exact⟨⟨i+1,aZ,rfl,by rw[hre];exact Mt,by rw[hre];exact h3⟩,by show qs.length-((i+1:Nat):Int).toNat<qs.length-(i:Int).toNat;omega⟩
  ·repeat (first|exact aeb.refl _|apply aeb.cons_cons|apply aeb.cons)
 ·have gF:i=qs.length:=by omega
  subst gF;rw[ad'] at X4⊢;have fin:=h v pb pj X4;refine T.HZ ?_;refine T.sub fin ?_;exact lW
end
structure Rm(n g:Nat)(S:VS):Prop where
 calm:Sep.Calm n S.D
 ends:∀j:Nat,j<n->Sep.Ends g (S.D.read (j:Int)).1
 lo:S.J.lo=((2+2* bQ n:Nat):Int)
 hi:S.J.hi=(n:Int)
 Kl:S.J.lo<=S.J.at'
 PS:S.J.at'<=S.J.hi
 seq:0<=S.J.seq/\S.J.seq<=1000000
 js:S.J.cR=false
 cR:S.cR=false
 aF:0<=S.aF/\S.aF<=g
def Rm.tr{n g:Nat}{S:VS}(h:Rm n g S):S.J.Ok S.D:=by
 have h2:=h.lo;have h5:=h.seq;have h7:=h.hi;exact⟨by omega,h.Kl,h.PS,by rw[h.calm.len];omega,by omega⟩
def HJ{n g:Nat}{S:VS}{s:BA}(h:Rm n g S)(bN:n<=4096)(hg:g+1<256)(Mo:S.J.seq<1000000)(hr:room S.J s.size):
 (lv S s).2=0/\Rm n (g+1) (lv S s).1/\(lv S s).1.J.at'=S.J.at'+(dQ (12+s.size):Int)/\(lv S s).1.J.lo=S.J.lo/\(lv S s).1.J.seq=S.J.seq+1/\(lv S s).1.aF=S.aF:=by
 have pT:=yl (by omega) n h.ends;have X4:=(uR S.D n).1;have yY:=h.lo;have yj:=h.Kl;obtain⟨D',e1,e2,e3,e4,e5,e6,e7⟩:=OU (n:=n) (number:=dy S.D n+1) (s:=s) h.calm bN h.tr h.js (by omega) (by omega) hr;unfold lv;rw[h.calm.len,e1];have nD:∀j:Nat,j<n->Sep.Ends (g+1) (D'.read (j:Int)).1:=λj hj=>by
  by_cases Dv:S.J.at'<=j/\(j:Int)<S.J.at'+(dQ (12+s.size):Int)
  ·obtain⟨q,hq⟩:=ad8 (show 0<=(j:Int) -S.J.at' by omega);have:=e5 q (by omega);rw[show(j:Int)=S.J.at'+(q:Int) from by omega,this];obtain⟨m,hm⟩:=ad8 (show 0<=dy S.D n+1 by omega);rw[hm];have xe:Sep.Good m (q:Int) (Sep.part (bs (bE (S.J.seq+1) s)) q):=⟨by omega,by omega,by omega,by omega,by
    unfold Sep.part;rw[ByteArray.size_extract];omega⟩
   exact(DI xe).mono (by omega)
  ·rw[e6 j (by omega) (by omega) (by omega)];exact(h.ends j hj).mono (by omega)
 have Hw:=h.cR;have htu:=h.aF;have adE:=h.seq;refine⟨rfl,⟨e2,nD,h.lo,h.hi,e4.Kl,e4.PS,⟨?_,?_⟩,h.js,?_,?_⟩,rfl,rfl,rfl,rfl⟩
 ·show 0<=S.J.seq+1;omega
 ·show S.J.seq+1<=1000000;omega
 ·show(S.cR||_)=false;rw[Hw];rfl
 ·show 0<=S.aF/\S.aF<=((g+1:Nat):Int);omega
def KP{q:ig}(hw:gQ q=true)(he:cz q=true):(ch q).length<=924:=by
 have UE:q.op=1\/q.op=2\/q.op=3:=of_decide_eq_true he;have hf:=nA hw;unfold ch;rw[ad0,ay];split
 ·rw[ad0,ay,dR oS];omega
 ·split
  ·rw[ad0,ay,dR oH];omega
  ·split
   ·rw[ay];omega
   ·omega
section
variable {W:World} {L R:LH} {K:VK} {X:WK} {a:aO} {t:Move} {q:ig} {s:rE}
def KX(h:T W L (K (.bool (decide (mI a))))):T W L (bD (ak a) K):=by
 unfold bD bD.j1 bD.j2 bD.j3
 repeat' first|apply ws;intros|apply wb|with_reducible refine bw (λh1=>?_) (λh1=>?_)|fail
 all_goals (refine T.fin (T.dp h) ?_;congr 1;(rw[aek];(try simp only[bz,false_iff,true_iff] at *)<;>(try simp only[mI,aea] at *)<;>omega))
def KW(h:T W L (K (.bool (decide (j0 t))))):T W L (aQ (aj t) K):=by
 unfold aQ aQ.j1 aQ.j2 aQ.j3 aQ.j4 aQ.j5
 repeat' first|apply ws;intros|apply wb|with_reducible refine bw (λh1=>?_) (λh1=>?_)|fail
 all_goals (refine T.fin (T.dp h) ?_;congr 1;(rw[aek];(try simp only[bz,false_iff,true_iff] at *)<;>(try simp only[j0,aea] at *)<;>omega))
def tY(h:T W L (K (.bool (cz q)))):T W L (eH (dH q s) K):=by
 unfold eH;unfold cz at h
 repeat' first|apply ws;intros|apply wb|with_reducible refine bw (λh1=>?_) (λh1=>?_)|fail
 ·have h1:=of_decide_eq_true h1;refine T.fin (T.dp h) ?_;congr 1;rw[decide_eq_decide];omega
 ·have h1:=of_decide_eq_false h1;rw[decide_eq_false (by omega)] at h;exact T.dp h
def C8(h:T W L (K (.bool (jz q)))):T W L (bY (dH q s) K):=by
 unfold bY bY.j1 bY.j2;apply ws;intros;refine bw (λg1=>?_) (λg1=>?_)
 ·have g1:q.op=1:=by simpa using g1
  unfold jz at h;rw[if_pos g1] at h;apply ws;intros;refine dX (λg2=>?_) (λg2=>?_)
  ·rw[decide_eq_true (by omega),ae0] at h;apply ws;intros;refine T.fin (T.dp h) ?_;congr 1;rw[decide_eq_decide];omega
  ·rw[decide_eq_false (by omega),ae9] at h;exact T.dp h
 have g1: ¬q.op=1:=by simpa using g1
 apply ws;intros;refine bw (λg2=>?_) (λg2=>?_)
 ·have g2:q.op=2:=by simpa using g2
  unfold jz at h;rw[if_neg g1,if_pos g2] at h;apply ws;intros;refine dX (λg2=>?_) (λg2=>?_)
  ·rw[decide_eq_true (by omega),ae0] at h;apply ws;intros;refine T.fin (T.dp h) ?_;congr 1;rw[decide_eq_decide];omega
  ·rw[decide_eq_false (by omega),ae9] at h;exact T.dp h
 have g2: ¬q.op=2:=by simpa using g2
 unfold jz at h;rw[if_neg g1,if_neg g2] at h;apply ws;intros;refine bw (λg3=>?_) (λg3=>?_)
 ·have g3:q.op=3:=by simpa using g3
  rw[if_pos g3] at h;apply ws;intros;refine dX (λg2=>?_) (λg2=>?_)
  ·rw[decide_eq_true (by omega),ae0] at h;apply ws;intros;exact T.dp h
  ·rw[decide_eq_false (by omega),ae9] at h;exact T.dp h
 have g3: ¬q.op=3:=by simpa using g3
 rw[if_neg g3] at h;exact T.dp h
def C0(h:T W L (K (.bool (kX q)))):T W L (az (dH q s) K):=by
 have main:∀(r1:Nat)(b1:Bool),b1=decide (q.op=4\/q.op=5)->T W (Sep.pt r1 (dH q s)::L) (az.j1 K r1 b1):=λr1 b1 hb=>by
  unfold az.j1 az.j2;unfold kX at h;by_cases My:q.op=4\/q.op=5
  ·rw[if_pos My] at h;rw[decide_eq_true My] at hb;subst hb;apply ws;intros;refine dX (λg2=>?_) (λg2=>?_)
   ·rw[decide_eq_true (by omega),ae0] at h;apply ws;intros;refine T.fin (T.dp h) ?_;congr 1;rw[decide_eq_decide];omega
   ·rw[decide_eq_false (by omega),ae9] at h;exact T.dp h
  ·rw[if_neg My] at h;rw[decide_eq_false My] at hb;subst hb;rw[cf];apply ws;intros;rename_i r2;have j6:∀b:Bool,b=decide (q.op=6/\0<=q.fQ/\0<=q.rZ/\1<=q.ia/\q.ia<=16)->T W (Sep.pt r2 (ma q)::Sep.pt r1 (dH q s)::L) (az.j6 K r2 b):=λb hb=>by
    unfold az.j6;cases b with
    |true=>
     have hc:=of_decide_eq_true hb.symm;rw[if_pos hc.1,decide_eq_true hc.2,ae0] at h;apply ws;intros;cases hd:q.se with
     |true=>
      rw[hd] at h;apply ws;intros;exact T.dp h
     |false=>
      rw[hd,Bool.false_or] at h;apply ws;intros;exact T.dp h
    |false=>
     have hc:=of_decide_eq_false hb.symm;apply ws;intros;by_cases g6:q.op=6
     ·rw[if_pos g6,decide_eq_false (λhh=>hc ⟨g6,hh⟩),ae9] at h;exact T.dp h
     ·rw[if_neg g6] at h;exact T.dp h
   have j5:∀b:Bool,b=decide (q.op=6/\0<=q.fQ/\0<=q.rZ/\1<=q.ia)->T W (Sep.pt r2 (ma q)::Sep.pt r1 (dH q s)::L) (az.j5 K r2 b):=λb hb=>by
    unfold az.j5;cases b with
    |true=>
     apply ws;intros;refine j6 _ ?_;have:=of_decide_eq_true hb.symm;rw[decide_eq_decide];omega
    |false=>
     apply ws;intros;refine j6 _ ?_;have:=of_decide_eq_false hb.symm;exact(decide_eq_false (by omega)).symm
   have j4:∀b:Bool,b=decide (q.op=6/\0<=q.fQ/\0<=q.rZ)->T W (Sep.pt r2 (ma q)::Sep.pt r1 (dH q s)::L) (az.j4 K r2 b):=λb hb=>by
    unfold az.j4;cases b with
    |true=>
     apply ws;intros;refine j5 _ ?_;have:=of_decide_eq_true hb.symm;rw[decide_eq_decide];omega
    |false=>
     apply ws;intros;refine j5 _ ?_;have:=of_decide_eq_false hb.symm;exact(decide_eq_false (by omega)).symm
   have j3:∀b:Bool,b=decide (q.op=6/\0<=q.fQ)->T W (Sep.pt r2 (ma q)::Sep.pt r1 (dH q s)::L) (az.j3 K r2 b):=λb hb=>by
    unfold az.j3;cases b with
    |true=>
     apply ws;intros;refine j4 _ ?_;have:=of_decide_eq_true hb.symm;rw[decide_eq_decide];omega
    |false=>
     apply ws;intros;refine j4 _ ?_;have:=of_decide_eq_false hb.symm;exact(decide_eq_false (by omega)).symm
   refine bw (λg6=>?_) (λg6=>?_)
   ·have g6:q.op=6:=by simpa using g6
    apply ws;intros;refine j3 _ ?_;rw[decide_eq_decide];omega
   ·have g6: ¬q.op=6:=by simpa using g6
    refine j3 _ ?_;exact(decide_eq_false (by omega)).symm
 unfold az;apply ws;intros;refine bw (λg1=>?_) (λg1=>?_)
 ·have Va:q.op=4:=by simpa using g1
  exact main _ _ (decide_eq_true (.inl Va)).symm
 ·have Va: ¬q.op=4:=by simpa using g1
  apply ws;intros;exact main _ _ (by rw[aek];simp[Va])
def sS(q:ig):lR q=((q.ah.all λx=> !decide (q.op=1)||decide (mI x))&&(q.aT.all λx=> !decide (q.op=2)||decide (j0 x))):=by
 unfold lR;by_cases h1:q.op=1
 ·rw[if_pos h1];have h2: ¬q.op=2:=by omega
  simp[h1]
 ·rw[if_neg h1];by_cases h2:q.op=2
  ·rw[if_pos h2];simp[h2]
  ·rw[if_neg h2];simp[h1,h2]
def AT[hh:Has R L](hq:lK W R q s)(zz:q.ah.length<1000000)(aZ:q.aT.length<1000000){r1:Nat}{b1:Bool}(h:T W (Sep.pt r1 (dH q s)::L) (K (.bool (!b1&&lR q)))):T W (Sep.pt r1 (dH q s)::L) (de.j1 K r1 b1):=by
 unfold de.j1;cases b1 with
 |true=>rw[gW];exact h
 |false=>
  rw[Bool.not_false,ae0] at h;rw[cf];apply ws;intros;intro w jG;refine⟨λvv w=>∃i:Nat,i<=q.ah.length/\(q.ah.take i).all (λx=> !decide (q.op=1)||decide (mI x))=true/\vv=[.p (some ⟨r1,0,none⟩),.bool false,.l s.sa q.ah.length s.ca,.i (q.ah.length:Int),.i (i:Int)]/\St W w (Sep.pt r1 (dH q s)::L),
   λvs _=>match vs with|[_,_,_,_,.int _ d]=>q.ah.length-d.toNat|_=>0,⟨0,ad6 _,rfl,rfl,jG⟩,?_⟩
  rintro a1 b2 uG pY uF n2 n3 w2 ⟨i,hi,fJ,e,fo⟩;cases e
  refine T.at ?_ fo;have e5:=mh i;refine dX (λg1=>?_) (λg1=>?_)
  ·have aZ:i<q.ah.length:=by omega
   have gx:=adX aZ;generalize q.ah[i]=x at gx;refine kf hq.ah ⟨by omega,by omega⟩ rfl λa ha=>?_;rw[adY];refine ke hq.ah ha gx rfl ?_;apply ws;intros;rw[e5];have step:(!decide (q.op=1)||decide (mI x))=true->T W (Sep.pt r1 (dH q s)::L) (λw=>(∃j:Nat,j<=q.ah.length/\(q.ah.take j).all (λx=> !decide (q.op=1)||decide (mI x))=true/\[.p (some ⟨r1,0,none⟩),.bool false,.l s.sa q.ah.length s.ca,.i (q.ah.length:Int),.i ((i+1:Nat):Int)]=[.p (some ⟨r1,0,none⟩),.bool false,.l s.sa q.ah.length s.ca,.i (q.ah.length:Int),Value.int .i64 (j:Int)]/\St W w (Sep.pt r1 (dH q s)::L))/\q.ah.length-((i+1:Nat):Int).toNat<q.ah.length-(i:Int).toNat):=λhp w3 h3=>⟨⟨i+1,aZ,by rw[xw gx fJ];exact hp,rfl,h3⟩,by omega⟩;refine bw (λg2=>?_) (λg2=>?_)
   ·have g2:q.op=1:=by simpa using g2
    repeat' first|apply ws;intros|apply wb|with_reducible refine KX ?_|fail
    by_cases hg:mI x
    ·rw[decide_eq_true hg];apply ws;intros;refine T.drop ?_;exact step (by rw[decide_eq_true hg,Bool.or_true])
    ·rw[decide_eq_false hg];apply ws;intros;rw[sS,all_false (P:=λx=> !decide (q.op=1)||decide (mI x)) gx (by rw[decide_eq_false hg,decide_eq_true g2];rfl)] at h;rw[ae9] at h;exact T.drop h
   ·have g2: ¬q.op=1:=by simpa using g2
    refine T.drop ?_;exact step (by rw[decide_eq_false g2];rfl)
  ·have gF:i=q.ah.length:=by omega
   subst gF;rw[ad'] at fJ;have Ym:=fJ;apply ws;intros;intro w jG;refine⟨λvv w=>∃i:Nat,i<=q.aT.length/\(q.aT.take i).all (λx=> !decide (q.op=2)||decide (j0 x))=true/\vv=[.p (some ⟨r1,0,none⟩),.bool false,.l s.st q.aT.length s.ct,.i (q.aT.length:Int),.i (i:Int)]/\St W w (Sep.pt r1 (dH q s)::L),
    λvs _=>match vs with|[_,_,_,_,.int _ d]=>q.aT.length-d.toNat|_=>0,⟨0,ad6 _,rfl,rfl,jG⟩,?_⟩
   rintro a1 b2 uG pY uF n2 n3 w2 ⟨i,hi,fJ,e,fo⟩;cases e
   refine T.at ?_ fo;have e5:=mh i;refine dX (λg1=>?_) (λg1=>?_)
   ·have aZ:i<q.aT.length:=by omega
    have gx:=adX aZ;generalize q.aT[i]=x at gx;refine kf hq.aT ⟨by omega,by omega⟩ rfl λa ha=>?_;rw[adY];refine ke hq.aT ha gx rfl ?_;apply ws;intros;rw[e5];have step:(!decide (q.op=2)||decide (j0 x))=true->T W (Sep.pt r1 (dH q s)::L) (λw=>(∃j:Nat,j<=q.aT.length/\(q.aT.take j).all (λx=> !decide (q.op=2)||decide (j0 x))=true/\[.p (some ⟨r1,0,none⟩),.bool false,.l s.st q.aT.length s.ct,.i (q.aT.length:Int),.i ((i+1:Nat):Int)]=[.p (some ⟨r1,0,none⟩),.bool false,.l s.st q.aT.length s.ct,.i (q.aT.length:Int),Value.int .i64 (j:Int)]/\St W w (Sep.pt r1 (dH q s)::L))/\q.aT.length-((i+1:Nat):Int).toNat<q.aT.length-(i:Int).toNat):=λhp w3 h3=>⟨⟨i+1,aZ,by rw[xw gx fJ];exact hp,rfl,h3⟩,by omega⟩;refine bw (λg2=>?_) (λg2=>?_)
    ·have g2:q.op=2:=by simpa using g2
     repeat' first|apply ws;intros|apply wb|with_reducible refine KW ?_|fail
     by_cases hg:j0 x
     ·rw[decide_eq_true hg];apply ws;intros;refine T.drop ?_;exact step (by rw[decide_eq_true hg,Bool.or_true])
     ·rw[decide_eq_false hg];apply ws;intros;rw[sS,all_false (P:=λx=> !decide (q.op=2)||decide (j0 x)) gx (by rw[decide_eq_false hg,decide_eq_true g2];rfl)] at h;rw[Bool.and_false] at h;exact T.drop h
    ·have g2: ¬q.op=2:=by simpa using g2
     refine T.drop ?_;exact step (by rw[decide_eq_false g2];rfl)
   ·have gF:i=q.aT.length:=by omega
    subst gF;rw[ad'] at fJ;rw[sS,Ym,fJ] at h;exact h
def KR[hh:Has R L](hq:lK W R q s)(zz:q.ah.length<1000000)(aZ:q.aT.length<1000000)(h:T W L (K (.bool (gQ q)))):T W L (de (dH q s) K):=by
 unfold de
 repeat' first|apply ws;intros|apply wb|with_reducible refine C8 ?_|fail
 unfold gQ at h;cases he:jz q with
 |true=>
  rw[he,Bool.true_or] at h;apply ws;intros;exact AT hq zz aZ (T.drop h)
 |false=>
  rw[he,Bool.false_or] at h
  repeat' first|apply ws;intros|apply wb|with_reducible refine C0 ?_|fail
  refine AT hq zz aZ (T.drop ?_);rw[Bool.not_not];exact h
end
def Be(m:Model)(mb:OA)(mc:Nat)(kb:OA)(kc:Nat):LV:=[.l mb m.made.length mc,.l kb m.kept.length kc,.i m.clock,.i m.ae]
instance{m:Model}{mb kb:OA}{mc kc:Nat}:Gt (Be m mb mc kb kc) 0 (.l mb m.made.length mc):=⟨rfl⟩
instance{m:Model}{mb kb:OA}{mc kc:Nat}:Gt (Be m mb mc kb kc) 1 (.l kb m.kept.length kc):=⟨rfl⟩
instance{m:Model}{mb kb:OA}{mc kc:Nat}:Gt (Be m mb mc kb kc) 2 (.i m.clock):=⟨rfl⟩
instance{m:Model}{mb kb:OA}{mc kc:Nat}:Gt (Be m mb mc kb kc) 3 (.i m.ae):=⟨rfl⟩
abbrev ML(p:Nat)(m:Model)(mb:OA)(mc:Nat)(kb:OA)(kc:Nat)(R:LH):LH:=Sep.pt p (Be m mb mc kb kc)::own mb m.made.length mc 14 (m.made.flatMap ak)::own kb m.kept.length kc 33 (m.kept.flatMap aI)::R
def Bp{α:Type}(P:α->Bool)(l:List α):Int:=match l.findIdx? P with|some i=>(i:Int)|none=> -1
def Dr{α:Type}{P:α->Bool}{l:List α}(h:∀x∈l,P x=false):Bp P l= -1:=by
 unfold Bp;rw[List.findIdx?_eq_none_iff.2 h]
def Dq{α:Type}{P:α->Bool}{l:List α}{i:Nat}{x:α}(hx:l[i]?=some x)(hp:P x=true)(h:∀y∈l.take i,P y=false):Bp P l=(i:Int):=by
 unfold Bp;obtain⟨hi,he⟩:=adZ.1 hx;rw[(List.findIdx?_eq_some_iff_getElem (xs:=l) (p:=P)).2 ⟨hi,by rw[he];exact hp,λj hj=>by
  have N5:j<l.length:=Nat.lt_trans hj hi
  have:=h (l[j]) (List.mem_take_iff_getElem.2 ⟨j,by omega,rfl⟩)
  rw[this];exact aeq⟩]
def CL{α:Type}{P:α->Bool}{l:List α}{i:Nat}{x:α}(hx:l[i]?=some x)(hp:P x=false)(h:∀y∈l.take i,P y=false):∀y∈l.take (i+1),P y=false:=λy hy=>by
 rw[aeg,hx,aeB] at hy;rcases hy with hy|hy
 ·exact h y hy
 ·cases(show y=x by simpa using hy);exact hp
section
variable {W:World} {L R:LH} {K:VK} {X:WK} {p:Nat} {m:Model} {mb kb:OA} {mc kc:Nat} {a:aO} {t:Move}
def sE(hm:m.made.length<1000000){id:Nat}(h:T W (ML p m mb mc kb kc R) (K (.i (Bp (λx:aO=>decide (x.id=id)) m.made)))):T W (ML p m mb mc kb kc R) (cI (some ⟨p,0,none⟩) (nm id) K):=by
 unfold cI;apply ws;intros;rename_i r1;intro w jG;refine⟨λvv w=>∃i:Nat,i<=m.made.length/\(∀x∈m.made.take i,decide (x.id=id)=false)/\vv=[.p (some (ad r1 0)),.i 0,.l mb m.made.length mc,.i (m.made.length:Int),.i (i:Int)]/\St W w (Sep.pt r1 (nm id)::ML p m mb mc kb kc R),
  λvs _=>match vs with|[_,_,_,_,.int _ d]=>m.made.length-d.toNat|_=>0,⟨0,ad6 _,(λx hx=>by cases hx),rfl,jG⟩,?_⟩
 rintro a2 n1 uG pY uF n2 n3 w2 ⟨i,hi,fJ,e,fo⟩;cases e
 refine T.at ?_ fo;have e5:=mh i;refine dX (λg1=>?_) (λg1=>?_)
 ·have aZ:i<m.made.length:=by omega
  have gx:=adX aZ;generalize m.made[i]=x at gx;refine bR (b:=mb) ⟨by omega,by omega⟩ λrb hb=>?_;rw[adY];subst hb;refine dA ff gx ?_;apply ws;intros;rw[e5];refine bw (λg2=>?_) (λg2=>?_)
  ·rw[Dq gx g2 fJ] at h;exact T.dp h
  ·refine T.drop λw3 h3=>⟨⟨i+1,aZ,CL gx g2 fJ,rfl,h3⟩,by show m.made.length-((i+1:Nat):Int).toNat<m.made.length-(i:Int).toNat;omega⟩
 ·have gF:i=m.made.length:=by omega
  subst gF;rw[ad'] at fJ;rw[Dr fJ] at h;exact T.dp h
def Eg(hm:m.kept.length<1000000){id:Nat}(h:T W (ML p m mb mc kb kc R) (K (.i (Bp (λx:Kept=>decide (x.move.id=id)) m.kept)))):T W (ML p m mb mc kb kc R) (dU (some ⟨p,0,none⟩) (nm id) K):=by
 unfold dU;apply ws;intros;rename_i r1;intro w jG;refine⟨λvv w=>∃i:Nat,i<=m.kept.length/\(∀x∈m.kept.take i,decide (x.move.id=id)=false)/\vv=[.p (some (ad r1 0)),.i 0,.l kb m.kept.length kc,.i (m.kept.length:Int),.i (i:Int)]/\St W w (Sep.pt r1 (nm id)::ML p m mb mc kb kc R),
  λvs _=>match vs with|[_,_,_,_,.int _ d]=>m.kept.length-d.toNat|_=>0,⟨0,ad6 _,(λx hx=>by cases hx),rfl,jG⟩,?_⟩
 rintro a2 n1 uG pY uF n2 n3 w2 ⟨i,hi,fJ,e,fo⟩;cases e
 refine T.at ?_ fo;have e5:=mh i;refine dX (λg1=>?_) (λg1=>?_)
 ·have aZ:i<m.kept.length:=by omega
  have gx:=adX aZ;generalize m.kept[i]=x at gx;refine bR (b:=kb) ⟨by omega,by omega⟩ λrb hb=>?_;rw[adY];subst hb;refine dA fF gx ?_;apply ws;intros;rw[e5];refine bw (λg2=>?_) (λg2=>?_)
  ·rw[Dq gx g2 fJ] at h;exact T.dp h
  ·refine T.drop λw3 h3=>⟨⟨i+1,aZ,CL gx g2 fJ,rfl,h3⟩,by show m.kept.length-((i+1:Nat):Int).toNat<m.kept.length-(i:Int).toNat;omega⟩
 ·have gF:i=m.kept.length:=by omega
  subst gF;rw[ad'] at fJ;rw[Dr fJ] at h;exact T.dp h
end
def qW{α:Type}(f:α->α)(i:Nat)(l:List α):List α:=(l.take i).map f++l.drop i
def LC{α:Type}{f:α->α}{i:Nat}{l:List α}:(qW f i l).length=l.length:=by unfold qW;rw[ad0,aen,<-ad0,aer]
def Iv{α:Type}{f:α->α}{l:List α}:qW f 0 l=l:=rfl
def LD{α:Type}{f:α->α}{l:List α}:qW f l.length l=l.map f:=by unfold qW;rw[ad',List.drop_length,aei]
def GM{α:Type}{f:α->α}{i:Nat}{l:List α}{x:α}(hx:l[i]?=some x):(qW f i l)[i]?=some x:=by
 obtain⟨hi,he⟩:=adZ.1 hx;unfold qW;rw[aey (by simp;omega),aen,ad2,afp (by omega),afj,afd,aeT];exact hx
def DA{α:Type}{f:α->α}{i:Nat}{l:List α}{x:α}(hx:l[i]?=some x):(qW f i l).set i (f x)=qW f (i+1) l:=by
 obtain⟨hi,he⟩:=adZ.1 hx;unfold qW;have h1:((l.take i).map f).length=i:=by rw[aen,ad2,afp (by omega)]
 rw[List.set_append_right _ _ (by omega),h1,afj,aeD hi,List.set_cons_zero,aeg,hx];simp
def Iw{α:Type}{f:α->α}{i:Nat}{l:List α}{x:α}(hx:l[i]?=some x)(hf:f x=x):qW f (i+1) l=qW f i l:=by
 rw[<-DA hx,hf];have:=GM (f:=f) hx;obtain⟨hi,he⟩:=adZ.1 this;rw[<-he,List.set_getElem_self]
section
variable {W:World} {L R:LH} {K:VK} {X:WK} {p:Nat} {m:Model} {mb kb:OA} {mc kc:Nat} {a:aO} {t:Move}
def xR(hm:m.kept.length<1000000)(hb:∀k∈m.kept,adU.wrap (k.move.born+k.move.timeout)=k.move.born+k.move.timeout)
 (h:T W (ML p {m with kept:=m.kept.map (BD m.clock)} mb mc kb kc R) (K (.tuple ⟨[]⟩))):T W (ML p m mb mc kb kc R) (bh (some ⟨p,0,none⟩) K):=by
 unfold bh;apply ws;intros;intro w jG;refine⟨λvv w=>∃(i:Nat)(l:List Kept),i<=m.kept.length/\l=qW (BD m.clock) i m.kept/\vv=[.l kb m.kept.length kc,.i (m.kept.length:Int),.i (i:Int)]/\St W w (Sep.pt p (Be m mb mc kb kc)::own mb m.made.length mc 14 (m.made.flatMap ak)::own kb m.kept.length kc 33 (l.flatMap aI)::R),
  λvs _=>match vs with|[_,_,.int _ d]=>m.kept.length-d.toNat|_=>0,⟨0,m.kept,ad6 _,Iv.symm,rfl,jG⟩,?_⟩
 rintro uG pY uF n1 n2 w2 ⟨i,l,hi,hl,e,fo⟩;cases e
 refine T.at ?_ fo;have e5:=mh i;have Dt:l.length=m.kept.length:=by rw[hl];exact LC
 refine dX (λg1=>?_) (λg1=>?_)
 ·have aZ:i<m.kept.length:=by omega
  have gx:=adX aZ;have hbx:=hb _ (aej aZ);generalize m.kept[i]=x at gx hbx;have gl:l[i]?=some x:=by rw[hl];exact GM gx
  refine bR (b:=kb) ⟨by omega,by omega⟩ λrb ui=>?_;rw[adY];subst ui;refine dA fF gl ?_;have main:∀(r1:Nat)(b1:Bool),b1=decide (jy m.clock x)->T W (Sep.pt r1 (aI x)::Sep.pt p (Be m mb mc (some ⟨rb,0,none⟩) kc)::own mb m.made.length mc 14 (m.made.flatMap ak)::own (some ⟨rb,0,none⟩) m.kept.length kc 33 (l.flatMap aI)::R)
                                                      (bh.j1 K (some ⟨p,0,none⟩) (i:Int) (λvv w=>∃(i:Nat)(l:List Kept),i<=m.kept.length/\l=qW (BD m.clock) i m.kept/\vv=[.l (some ⟨rb,0,none⟩) m.kept.length kc,.i (m.kept.length:Int),.i (i:Int)]/\St W w (Sep.pt p (Be m mb mc (some ⟨rb,0,none⟩) kc)::own mb m.made.length mc 14 (m.made.flatMap ak)::own (some ⟨rb,0,none⟩) m.kept.length kc 33 (l.flatMap aI)::R)) (some ⟨rb,0,none⟩) m.kept.length kc (m.kept.length:Int) (λvs _=>match vs with|[_,_,.int _ d]=>m.kept.length-d.toNat|_=>0) w2 b1):=λr1 b1 PN=>by
   unfold bh.j1;rw[e5];cases b1 with
   |true=>
    have ZX:=of_decide_eq_true PN.symm;apply ws;intros;refine bR (b:=some ⟨rb,0,none⟩) ⟨by omega,by omega⟩ λPw ui=>?_;cases ui
    rw[adY];refine Jd ?_;refine Aw (o:=i) (x:=x) (y:={x with fate:=4}) fF gl rfl (by decide) rfl ?_;refine T.drop λw3 h3=>⟨⟨i+1,_,aZ,?_,rfl,h3⟩,by show m.kept.length-((i+1:Nat):Int).toNat<m.kept.length-(i:Int).toNat;omega⟩;rw[<-DA gx,hl];unfold BD;rw[if_pos ZX]
   |false=>
    have ZX:=of_decide_eq_false PN.symm;rw[cf];refine T.drop λw3 h3=>⟨⟨i+1,_,aZ,?_,rfl,h3⟩,by show m.kept.length-((i+1:Nat):Int).toNat<m.kept.length-(i:Int).toNat;omega⟩;rw[Iw gx (by unfold BD;rw[if_neg ZX]),hl]
  apply ws;intros;refine bw (λg2=>?_) (λg2=>?_)
  ·have g2:x.fate=1:=by simpa using g2
   apply ws;intros;refine dX (λg3=>?_) (λg3=>?_)
   ·apply ws;intros;rw[hbx];refine main _ _ ?_;rw[decide_eq_decide];exact⟨λhh=>⟨g2,g3,hh⟩,λhh=>hh.2.2⟩
   ·exact main _ _ (decide_eq_false (λhh=>g3 hh.2.1)).symm
  ·have g2: ¬x.fate=1:=by simpa using g2
   exact main _ _ (decide_eq_false (λhh=>g2 hh.1)).symm
 ·have gF:i=m.kept.length:=by omega
  subst gF;rw[LD] at hl;subst hl;unfold ML Be at h;simp only[aen] at h;exact h
instance Wm{m:Model}{mb kb:OA}{mc kc:Nat}{c:Int}:Wr (Be m mb mc kb kc) 2 [.i c] (Be {m with clock:=c} mb mc kb kc):=⟨rfl,by show 3<=4;decide,λv h=>by simp at h;subst h;rfl⟩
def Qr{now:Int}(hm:m.kept.length<1000000)(hb:∀k∈m.kept,adU.wrap (k.move.born+k.move.timeout)=k.move.born+k.move.timeout)
 (h:T W (ML p (m.time now) mb mc kb kc R) (K (.tuple ⟨[]⟩))):T W (ML p m mb mc kb kc R) (gJ (some ⟨p,0,none⟩) now K):=by
 unfold gJ;rw[DY] at h;unfold qo at h;apply ws;intros;refine dX (λg1=>?_) (λg1=>?_)
 ·refine dX (λg2=>?_) (λg2=>?_)
  ·rw[if_pos ⟨g1,g2⟩] at h;apply ws;intros;refine xR (m:={m with clock:=now}) hm hb ?_;apply ws;intros;exact h
  ·rw[if_neg (λhh=>g2 hh.2)] at h;refine xR hm hb ?_;apply ws;intros;exact h
 ·rw[if_neg (λhh=>g1 hh.1)] at h;refine xR hm hb ?_;apply ws;intros;exact h
end
def uT{f b:Int}(h0:0<=f)(h1:f<1000000)(hb:1<=b):adU.wrap (f.tdiv b)=f/b:=by
 rw[Int.tdiv_eq_ediv_of_nonneg h0];have h2:=Int.ediv_nonneg h0 (show 0<=b by omega);have h3:=Int.ediv_le_self b h0;exact ar (by omega)
def ON{f b:Int}(h0:0<=f)(h1:f<1000000)(hb:1<=b):(((adU.wrap (f.tdiv b)).tmod (2:Int))==1)=decide (has f b):=by
 rw[uT h0 h1 hb,aeG (Int.ediv_nonneg h0 (by omega))];rw[aek,beq_iff_eq,decide_eq_true_eq];exact Iff.rfl
section
variable {W:World} {L R:LH} {K:VK} {X:WK} {a b:aO} {t u:Move}
def F4{f n:Int}(h0:0<=f/\f<1000000)(hn:1<=n)(h:T W L (K (.bool (decide (has f n))))):T W L (jm f n K):=by
 unfold jm;refine cL (by omega) ?_;refine cL (by decide) ?_;rw[ON h0.1 h0.2 hn];exact h
def H9(ha:0<=a.flags/\a.flags<256)(hb:0<=b.flags/\b.flags<256)(h:T W L (K (.i (rD a b)))):T W L (dT (ak a) (ak b) K):=by
 unfold dT dT.j1;have e1:(adU.wrap (a.flags.tdiv 2)).tmod 4=a.flags/2%4:=by rw[uT ha.1 (by omega) (by decide),aeG (by omega)]
 have e2:(adU.wrap (b.flags.tdiv 2)).tmod 4=b.flags/2%4:=by rw[uT hb.1 (by omega) (by decide),aeG (by omega)]
 unfold rD at h;apply ws;intros;refine bw (λg1=>?_) (λg1=>?_)
 ·have g1:a.aG=b.aG:=by simpa using g1
  apply ws;intros;refine bw (λg2=>?_) (λg2=>?_)
  ·have g2:a.code=b.code:=by simpa using g2
   repeat' first|apply ws;intros|apply wb|with_reducible refine cL (by decide) ?_|fail
   refine bw (λg3=>?_) (λg3=>?_)
   ·rw[e1,e2] at g3;have g3:a.flags/2%4=b.flags/2%4:=by simpa using g3
    rw[if_pos ⟨g1,g2,g3⟩] at h;exact T.dp h
   ·rw[e1,e2] at g3;have g3: ¬a.flags/2%4=b.flags/2%4:=by simpa using g3
    rw[if_neg (λhh=>g3 hh.2.2)] at h;exact T.dp h
  ·have g2: ¬a.code=b.code:=by simpa using g2
   rw[if_neg (λhh=>g2 hh.2.1)] at h;exact T.dp h
 ·have g1: ¬a.aG=b.aG:=by simpa using g1
  rw[if_neg (λhh=>g1 hh.1)] at h;apply ws;intros;exact T.dp h
def hO{n:Int}(h0:0<=t.flags/\t.flags<1000000)(hn:1<=n)(h:T W L (K (.bool (decide (has t.flags n))))):T W L (aN (aj t) n K):=by
 unfold aN;apply ws;intros;refine cL (by omega) ?_;refine cL (by decide) ?_;rw[ON h0.1 h0.2 hn];exact T.dp h
def rO(h0:0<=t.flags/\t.flags<1000000)(h:T W L (K (.bool (decide (gw t.flags))))):T W L (dL (aj t) K):=by
 unfold dL;apply ws;intros;refine hO h0 (by decide) ?_;apply ws;intros;by_cases h4:has t.flags 4
 ·rw[decide_eq_true (show gw t.flags from .inl h4)] at h;rw[decide_eq_true h4];apply ws;intros;exact T.dp h
 ·rw[decide_eq_false h4];apply ws;intros;refine hO h0 (by decide) ?_;apply ws;intros;have e:decide (gw t.flags)=decide (has t.flags 8):=by rw[decide_eq_decide];exact⟨λhh=>hh.resolve_left h4,.inr⟩
  rw[e] at h;exact T.dp h
end
def oC(x:Int):IntKind.u64.wrap x=x%18446744073709551616:=by
 unfold IntKind.wrap;simp[IntKind.signed,IntKind.bits]
section
variable {W:World} {L R:LH} {K:VK} {X:WK} {a b:Nat}
def vG{r3:Nat}{n1 n2 n7:Int}{b1:Bool}(hb:b1=decide (¬a+b<aJ))(h0: ¬b1=true->n7=(((a+b)/18446744073709551616:Nat):Int)/\IntKind.u64.wrap (n1+n2)=(((a+b)%18446744073709551616:Nat):Int))
 (h:T W L (K (.tuple ⟨[.agg ⟨nm (add a b)⟩,.bool (decide (a+b<aJ))]⟩))):T W (Sep.pt r3 [.u 0,.u 0]::L) (bK.j1 K r3 n1 n2 n7 b1):=by
 unfold bK.j1;unfold add at h;cases b1 with
 |true=>
  have hb:=of_decide_eq_true hb.symm;rw[if_neg hb,decide_eq_false hb] at h;apply ws;intros;exact T.dp h
 |false=>
  have hb:=of_decide_eq_false hb.symm;have ui:a+b<aJ:=by omega
  rw[if_pos ui,decide_eq_true ui] at h;obtain⟨e1,e2⟩:=h0 (by decide);rw[e1,e2];apply ws;intros;exact T.dp h
def pZ(ha:a<aJ)(hb:b<aJ)(h:T W L (K (.tuple ⟨[.agg ⟨nm (add a b)⟩,.bool (decide (a+b<aJ))]⟩))):T W L (bK (nm a) (nm b) K):=by
 unfold bK;unfold nm;unfold aJ at ha hb;have e1:IntKind.u64.wrap (((a%18446744073709551616:Nat):Int)+((b%18446744073709551616:Nat):Int))=(((a+b)%18446744073709551616:Nat):Int):=by rw[oC];omega
 apply ws;intros;refine dX (λg1=>?_) (λg1=>?_)
 ·rw[e1] at g1;refine dX (λg2=>?_) (λg2=>?_)
  ·rw[oC] at g2;refine vG (a:=a) (b:=b) (decide_eq_true (by unfold aJ;omega)).symm (λhh=>absurd rfl hh) ?_;exact T.dp h
  ·rw[oC] at g2;refine vG (a:=a) (b:=b) ?_ (λhh=>⟨?_,e1⟩) ?_
   ·rw[aek,beq_iff_eq,decide_eq_true_eq,oC,oC];unfold aJ;omega
   ·rw[beq_iff_eq,oC,oC] at hh;rw[oC,oC];omega
   ·exact T.dp h
 ·rw[e1] at g1;refine vG (a:=a) (b:=b) ?_ (λhh=>⟨?_,e1⟩) ?_
  ·rw[decide_eq_decide,oC];unfold aJ;omega
  ·rw[decide_eq_true_eq,oC] at hh;rw[oC];omega
  ·exact T.dp h
def wH(ha:a<aJ)(hb:b<aJ)(h:T W L (K (.agg ⟨nm (add a b)⟩))):T W L (fL (nm a) (nm b) K):=by
 unfold fL;apply ws;intros;refine pZ ha hb ?_;apply ws;intros;exact T.dp h
end
end Go.Up
