/- Part of the proof: see the last text. -/
import Derived.Test.YtnffemlgkghcfaaGreatDoorPC
import Derived.Test.YtnffemlgkghcfaaGreatDoorPA
import Derived.Test.YtnffemlgkghcfaaGreatDoorPB
set_option linter.all false
set_option maxRecDepth 100000
set_option synthInstance.maxSize 100000
open Bool renaming eq_iff_iff→aee,true_and→aeU,false_and→ae3,and_eq_true→aeL,false_eq_true→aeh,noConfusion→afl,false_ne_true→ael
open Decidable renaming not_not→ad6
open Go.IntKind renaming i64→adP
open Int renaming toNat_natCast→adT,eq_ofNat_of_zero_le→ad3,le_refl→afm
open List renaming getElem?_eq_getElem→adS,getElem?_eq_some_iff→adU,length_append→adV,length_take→adX,append_assoc→ad0,length_drop→ad4,replicate→ad8,length_cons→ad',drop_eq_getElem_cons→aex,length_replicate→aeZ,cons_append→ae5,set_set→ae6,getElem?_drop→ae8,getElem?_take→afi,take_length→ad5,take_add_one→aeb,append_nil→aed,getElem_mem→aeg,Perm→aej,take_append_drop→aem,nil_append→aev,drop_of_length_le→aez,drop_drop→ae2,getElem?_of_mem→afa,perm_append_comm→ad1,Sublist→ad7,getElem?_append_right→aes,length_map→aei,map_append→aep,length_reverse→aeO,take_of_length_le→aea,filter_cons_of_pos→aeR,filter_cons_of_neg→aeS,mem_of_getElem?→aek,getElem?_map→aeF,flatMap_cons→aeG,flatMap_append→aeP,map_congr_left→ae9,range→afo,mem_map→aeC,pairwise_iff_getElem→aeY,ext_getElem?→afb,find?_eq_none→afc,take_zero→afh,length_nil→aen,getElem?_cons_succ→ad9,drop_zero→ae1,take_take→afq,set_cons_succ→ae7,getElem?_append_left→aef,perm_middle→ae4,mem_append→aew
open Nat renaming le_refl→adY,zero_le→ad2,add_zero→aeN,sub_self→afe,add_mul→afg,min_eq_left→afj,mul_one→afp,zero_add→adW,pow_le_pow_right→aeJ,mul_le_mul_right→aeE,mod_eq_of_lt→aeB,reduceAdd→adQ,reduceMul→adR,le_of_ble_eq_true→adZ
open Option renaming isSome_some→aeq,getD_some→aeu,isSome_none→aey,getD_none→aeK,map→afv,some→aec,map_some→aeD
namespace Go.Up
open Go.Sep Go.Den Go.RowKit Go.Prog Go.Md Go.bC
def KZ(n:Int):bB .i64 .and n 1=n%2:=by
 unfold bB;have e1:(BitVec.ofInt adP.bits n&&&BitVec.ofInt adP.bits 1).toNat=(BitVec.ofInt 64 n).toNat%2:=by
  rw[BitVec.toNat_and];show(BitVec.ofInt 64 n).toNat&&&1=_;exact Nat.and_one_is_mod _
 dsimp only;rw[e1];have e2:(((BitVec.ofInt 64 n).toNat%2:Nat):Int)=n%2:=by
  rw[BitVec.toNat_ofInt];omega
 rw[e2];exact aw (by omega)
def KY{n:Int}(h0:0<=n)(h1:n<=7):bB .i64 .andNot n 1=n/2* 2:=by
 have:n=0\/n=1\/n=2\/n=3\/n=4\/n=5\/n=6\/n=7:=by omega
 rcases this with rfl|rfl|rfl|rfl|rfl|rfl|rfl|rfl<;>rfl
section
variable {α:Type} {W:World} {R L:LH} {K:VK} {X:WK} {g:α->LV} {e:Nat} {s:OA} {l:List α}
def nQ(W:World)(R:LH)(g:α->LV)(e:Nat)(s:OA)(l:List α):Prop:=
 ∀w,St W w R->∀i x,l[i]?=some x->∃a,s=some a/\tp w (a.add (i* e)) (g x)
def jY{i:Int}{n:Nat}{K:Addr->WK}[hh:Has R L](hr:nQ W R g e s l)(hi:0<=i/\i<l.length)(hn:n=l.length)(h:∀a,s=some a->T W L (K (a.add (i.toNat* e)))):T W L (fO s n i e K):=λw hs=>by
 obtain⟨a,ha,-⟩:=hr w (hh.sub hs) i.toNat _ (adS (by omega));exact⟨a,ha,⟨hi.1,by omega⟩,h a ha w hs⟩
def jX{i:Nat}{x:α}{a:Addr}{K:LV->WK}[hh:Has R L](hr:nQ W R g e s l)(hs:s=some a)(hx:l[i]?=some x)(hg:(g x).length=e)(h:T W L (K (g x))):T W L (ah (a.add (i* e)) e K):=λw hw=>by
 obtain⟨a',ha,hh⟩:=hr w (hh.sub hw) i x hx;rw[hs] at ha;cases ha
 exact⟨g x,hg,hh,h w hw⟩
def nQ.drop{c i:Nat}(hr:nQ W R g e s l)(hi:i<=l.length)(hc:l.length<=c):nQ W R g e (tI s c i e) (l.drop i):=λw hw j x hx=>by
 rw[ae8] at hx;obtain⟨a,ha,hh⟩:=hr w hw (i+j) x hx;have aZ:=(adU.1 hx).1;unfold tI;rw[if_neg (by omega),ha];refine⟨a.add (i* e),rfl,?_⟩;rw[add_add,<-afg];exact hh
def nQ.take{i:Nat}(hr:nQ W R g e s l):nQ W R g e s (l.take i):=λw hw j x hx=>by
 refine hr w hw j x ?_;rw[afi] at hx;split at hx
 ·exact hx
 ·cases hx
def zG{b:OA}{n c i j e:Nat}{K:OA->Nat->Nat->WK}(hi:i<=j)(hj:j<=c)(h:T W L (K (tI b c i e) (j-i) (c-i))):T W L (nT b n c e (some (i:Int)) (some (j:Int)) K):=by
 unfold nT;refine cN ⟨by omega,by omega⟩ ?_;dsimp only;refine cN ⟨by omega,by omega⟩ ?_;rw[adT,adT];exact h
end
def I1(i:Int):LV:=[.i i]
def yx(i:Int):(I1 i).length=1:=rfl
section
variable {W:World} {L:LH} {K:VK} {X:WK} {f:HP->LH}
def En{r N C o n i:Nat}{c:Nat}{v:Int}{l:List Int}[j:oQ (some ⟨r,0,none⟩) N C L 1 (l.flatMap I1) f](ho:o+n<=l.length)(hi:i<n)(hn:n<1000000)
 (h:T W (f (own (some ⟨r,0,none⟩) N C 1 ((l.take o++ij n (some (i,v))++l.drop (o+n)).flatMap I1))) (K (.tuple ⟨[]⟩))):T W L (fK (some ⟨r,o,none⟩) n c i v K):=by
 unfold fK;intro w hs;obtain⟨k,hk,e1⟩:=j.at_;have uV:min o l.length=o:=afj (by omega)
 let st:Nat->List Int:=λm=>l.take o++ad8 m 1++l.drop (o+m)
 have pI:∀m,m<=n->(st m).length=l.length:=λm hm=>by simp only[st,adV,adX,uV,aeZ,ad4];omega
 refine⟨λvs w=>∃m:Nat,m<=n/\vs=[.i (n:Int),.i (m:Int)]/\St W w (f (own (some ⟨r,0,none⟩) N C 1 ((st m).flatMap I1))),λvs _=>match vs with|[_,.int _ d]=>n-d.toNat|_=>0,⟨0,ad2 _,rfl,?_⟩,?_⟩
 ·have:st 0=l:=by simp[st]
  rw[this,e1,jJ hk];exact hs
 rintro n3 n4 w2 ⟨m,hm,e,fh⟩;cases e
 rw[e1] at fh;have rl:(L.set k (own (some ⟨r,0,none⟩) N C 1 ((st m).flatMap I1)))[k]?=some (own (some ⟨r,0,none⟩) N C 1 ((st m).flatMap I1)):=fX hk;have one:∀v∈I1 1,v.oneCell'=true:=λv hv=>by simp[I1] at hv;subst hv;rfl
 by_cases aZ:m<n
 ·rw[decide_eq_true (by omega)];rw[gW];refine⟨_,rfl,⟨by omega,by omega⟩,?_⟩;rw[dU,adT,afp];refine DM fh rl (by rw[xa yx,pI m hm];omega) rfl λw3 rB=>?_;have e5:=lY m;rw[e5];refine⟨⟨m+1,aZ,rfl,?_⟩,by show n-((m+1:Nat):Int).toNat<n-(m:Int).toNat;omega⟩;rw[e1];rw[ae6] at rB;have e6:((st m).flatMap I1).set (o+m) (Value.int adP 1)=(st (m+1)).flatMap I1:=by
   have:=yg (g:=I1) (l:=st m) (o:=o+m) (y:=1) (j:=0) (v:=.i 1) yx (adS (by rw[pI m hm];omega)) rfl (by decide);have e7:(st m).set (o+m) 1=st (m+1):=by
    have hd:l.drop (o+m)=l[o+m]'(by omega)::l.drop (o+m+1):=aex (by omega);have hAB:(l.take o++ad8 m (1:Int)).length=o+m:=by rw[adV,adX,aeZ,uV]
    simp only[st];rw[hd,List.set_append_right _ _ (by omega),hAB,afe,List.set_cons_zero,List.replicate_succ'];simp[Nat.add_assoc]
   rw[<-e7,<-this,afp,aeN]
  rw[e6] at rB;exact rB
 ·have hmn:m=n:=by omega
  subst hmn;rw[decide_eq_false (by omega),ch];refine⟨_,rfl,⟨by omega,by omega⟩,?_⟩;rw[dU,adT,afp];refine DM fh rl (by rw[xa yx,pI m hm];omega) rfl λw3 rB=>?_;refine h w3 ?_;rw[e1];rw[ae6] at rB;have e6:((st m).flatMap I1).set (o+i) (Value.int adP v)=(l.take o++ij m (some (i,v))++l.drop (o+m)).flatMap I1:=by
   have:=yg (g:=I1) (l:=st m) (o:=o+i) (y:=v) (j:=0) (v:=.i v) yx (adS (by rw[pI m hm];omega)) rfl (by decide);have e7:(st m).set (o+i) v=l.take o++ij m (some (i,v))++l.drop (o+m):=by
    simp only[st,ij];rw[ad0,List.set_append_right _ _ (by rw[adX,uV];omega),List.set_append_left _ _ (by rw[adX,uV,aeZ];omega),<-ad0]
    congr 3
    rw[adX,uV];omega
   rw[<-e7,<-this,afp,aeN]
  rw[e6] at rB;exact rB
end
section
variable {α σ:Type}
def s6{linked:α->Bool}:∀{l:List α} {i:Nat} {x:α},(∀j y,j<i->l[j]?=some y->linked y=true)->l[i]?=some x->linked x=false->bm linked l=(i+1,true)
 |[],i,x,_,hx,_=>by simp at hx
 |y::l,0,x,_,hx,hn=>by simp at hx;subst hx;unfold bm;rw[if_neg (by simp[hn])]
 |y::l,i+1,x,h,hx,hn=>by
  unfold bm;rw[if_pos (h 0 y (by omega) rfl),s6 (l:=l) (i:=i) (λj z hj hz=>h (j+1) z (by omega) (by simpa using hz)) (by simpa using hx) hn]
def qX{linked:α->Bool}:∀{l:List α},(∀x∈l,linked x=true)->bm linked l=(l.length,false)
 |[],_=>rfl
 |y::l,h=>by unfold bm;rw[if_pos (h y (by simp)),qX λx hx=>h x (by simp[hx])];rfl
def sY{linked:α->Bool}:∀(l:List α),(bm linked l).1<=l.length
 |[]=>adY _
 |y::l=>by unfold bm;split<;>simp;exact sY l
def y8{linked:α->Bool}(x:α)(l:List α):0<(bm linked (x::l)).1:=by unfold bm;split<;>simp
def sX{linked:α->Bool}:∀{l:List α},(bm linked l).2=false->(bm linked l).1=l.length
 |[],_=>rfl
 |y::l,h=>by
  unfold bm at h⊢;split at h
  ·rename_i hy;rw[if_pos hy];show _+1=_;rw[sX h];rfl
  ·cases h
def oB{f:σ->α->Int×σ}:∀(l m:List α)(s s':σ)(i:Nat),fp f s l i=(none,s')->fp f s (l++m) i=fp f s' m (i+l.length)
 |[],m,s,s',i,h=>by cases h;rfl
 |x::l,m,s,s',i,h=>by
  unfold fp at h;split at h
  ·cases h
  ·rename_i h0;rw[ae5];show fp f s (x::(l++m)) i=_;rw[fp,if_neg h0,oB l m _ _ _ h,ad',Nat.add_right_comm,Nat.add_assoc]
def jz(n:Nat)(e:Option (Nat×Int)):(ij n e).length=n:=by cases e<;>simp[ij]
end
section
variable {W:World} {L R:LH} {K:VK} {X:WK} {p:Nat} {b:ax} {hs:List C} {f:ax×List C->LH}
def Qa[i:Lc (bh p) L (b,hs) f]{a:aP}(lH:32<=b.ag.length)(h:T W L (K (.i 6))):T W L (iZ (some ⟨p,0,none⟩) (ak a) K):=by
 have hL:f (b,hs)=L:=i.same;refine G8 (p:=p) λla lk ti tn vs bx R hg hc lR=>?_;have fin:=lR [] b hs vs bx _ hg hc (by rw[hL];exact h);unfold iZ;apply ws;intros;refine IN (l:=la) ?_;apply ws;intros;refine kq (by show decide (((b.ag.length:Nat):Int)>=32)=true;simp;omega) ?_;exact T.dp fin
def Jd[i:Lc (bh p) L (b,hs) f]{b0:ax}{ju:List C}{n:Nat}(hg:Good b0)(hx:Ext (cZ b0) ju (cZ b) hs n)(hl:hs.length<1000000)(h:T W (f (b0,ju)) (K (.tuple ⟨[]⟩))):T W L (cX (some ⟨p,0,none⟩) (ju.length:Int) K):=λw hw=>by
 obtain⟨k,hk,e1⟩:=i.at_;have h1:=hw.focus hk;obtain⟨-,h2⟩:=h1.and;refine(show T W (cP p (cZ b,hs)::L.eraseIdx k) _ from ?_) w h2;unfold cX;apply ws;intros;refine VN (p:=p) hl ?_;rw[hx.back];apply ws;intros;intro w2 Ud;refine h w2 ?_;rw[e1];exact St.nB (A:=bh p (b,hs)) (St.and_intro hg Ud) hk
def Iv{a:aP}(h:qE a=0):0<=a.flags/\a.flags<=7/\a.dp=0/\a.dq=0/\a.cp=0/\a.cq=0/\a.ae=0/\(1<=a.aG/\a.aG<=4294967295)/\1<=a.code/\a.code<=65535:=by
 unfold qE at h
 repeat' (first|(split at h;first|(exact absurd h (by decide))|skip)|skip)
 omega
def RA(G:pn W){a:aP}(ha:vf a)[i:Lc (bh p) L (b,hs) f](hl:hs.length<900000)
 (h:∀cU,Ext (cZ b) hs (cZ (b.make a).2) cU 8->T W (f ((b.make a).2,cU)) (K (.i (b.make a).1))):T W L (iD (some ⟨p,0,none⟩) (ak a) K):=by
 have hL:f (b,hs)=L:=i.same;refine mT (p:=p) λhg=>?_;unfold iD
 repeat' first|apply ws;intros|apply wb|with_reducible refine OK G ha ?_|fail
 have stay:∀r:Int,b.make a=(r,b)->T W L (K (.int .i64 r)):=λr e=>by
  rw[e] at h;have:=h hs (Ext.refl _ _ _);rw[hL] at this;exact this
 refine bE (λg1=>?_) (λg1=>?_)
 ·have g1:qE a≠0:=by simpa using g1
  have:=stay (qE a) (by unfold ax.make;rw[if_pos g1]);exact T.dp this
 have g1:qE a=0:=by simpa using g1
 have ck:=Iv g1
 repeat' first|apply ws;intros|apply wb|with_reducible refine sf (p:=p) ?_|fail
 cases hf:b.find a.id with
 |some x=>
  simp only[aeq,aeu];obtain⟨gx,hxi⟩:=rS hg hf
  repeat' first|apply ws;intros|apply wb|with_reducible refine OL ⟨ck.1,by omega⟩ ⟨gx.flags.1,by have:=gx.flags.2;omega⟩ ?_|fail
  have:=stay (ru a x) (by unfold ax.make;rw[if_neg (by omega),hf]);exact T.dp this
 |none=>
  simp only[aey,aeK];apply ws;intros;rw[KY ck.1 ck.2.1];by_cases lH:b.ag.length<32
  ·have hga:AG {({a with flags:=a.flags/2* 2}:aP) with ae:=b.ae+1}:=by
    have pI:=hg.ae;have many:=hg.many;refine⟨⟨ha.id,ha.dp,ha.dq,ha.cp,ha.cq,?_,?_,?_,?_⟩,⟨⟨by show 0<=a.aG;omega,by show a.aG<=_;omega⟩,⟨by show 0<=a.code;omega,by show a.code<=_;omega⟩,by show 0<=a.flags/2* 2;omega,by show a.flags/2* 2<=_;omega⟩,⟨by show 0<=a.flags/2* 2;omega,by show a.flags/2* 2<_;omega⟩,by show 0<=b.ae+1;omega,by show b.ae+1<_;omega⟩
    ·show q6 a.aG;unfold q6;omega
    ·show q6 a.code;unfold q6;omega
    ·show q6 (a.flags/2* 2);unfold q6;omega
    ·show q6 (b.ae+1);unfold q6;omega
   refine P' (p:=p) (a:={a with flags:=a.flags/2* 2}) hf lH hga hl λcU hx=>?_;apply ws;intros;have e:b.make a=(0,b.more {a with flags:=a.flags/2* 2}):=by
    unfold ax.make ax.more;rw[if_neg (by omega),hf];dsimp only;rw[if_neg (by omega)]
   rw[e] at h;have:=h cU (hx.mono (by omega));exact T.dp this
  ·refine Qa (p:=p) (a:={a with flags:=a.flags/2* 2}) (by omega) ?_;apply ws;intros;have:=stay 35 (by unfold ax.make;rw[if_neg (by omega),hf];dsimp only;rw[if_pos (by omega)]);exact T.dp this
end
def Is(b:ax):Prop:=∃m,lX b m/\Md.Ground m
def Is.make{b:ax}(h:Is b)(a:aP):Is (b.make a).2:=by obtain⟨m,hs,hg⟩:=h;exact⟨_,(hs.make hg).2⟩
def Is.nW{b:ax}(h:Is b)(t:Move):Is (b.nW t).2:=by obtain⟨m,hs,hg⟩:=h;exact⟨_,(hs.nW hg).2⟩
def C7(n:Int):(bB .i64 .and n 1!=0)=decide (n%2=1):=by
 rw[KZ,aee];simp only[bne_iff_ne,ne_eq,decide_eq_true_eq];omega
def rJ(t:Move):(ai t).length=16:=rfl
def wQ(a:aP):Bool:=decide (a.flags%2=1)
def wP(t:Move):Bool:=decide (t.flags%2=1)
section
variable {α σ:Type}
def xJ{f:σ->α->Int×σ}{lk:α->Bool}{n:Nat}{s:σ}{l:List α}(hl:l≠[]):
 eO f lk (n+1) s l=if(bm lk l).2=false then(ij (bm lk l).1 (some ((bm lk l).1-1,2)),s)
  else match fp f s (l.take (bm lk l).1) 0 with
  |(none,s')=>(ij (bm lk l).1 none++(eO f lk n s' (l.drop (bm lk l).1)).1,(eO f lk n s' (l.drop (bm lk l).1)).2)
  |(some e,_)=>(ij (bm lk l).1 (some e)++(eO f lk n s (l.drop (bm lk l).1)).1,(eO f lk n s (l.drop (bm lk l).1)).2):=by
 cases l with
 |nil=>exact absurd rfl hl
 |cons x l=>
  rw[eO]
  congr 1
def rF{f:σ->α->Int×σ}{lk:α->Bool}(n:Nat)(s:σ):eO f lk n s []=([],s):=by cases n<;>rfl
end
section
variable {W:World} {L R:LH} {K:VK} {X:WK} {p:Nat} {b:ax} {hs:List C}
def Ri{s:OA}{c nn:Nat}{l:List aP}[hh:Has R L](hr:nQ W R ak 14 s l)(Hd:nn=l.length)(hl:l.length<1000000)
 (h:T W L (K (.tuple ⟨[.i ((bm wQ l).1:Int),.bool (bm wQ l).2]⟩))):T W L (iQ s nn c (.func (.func N.dK) ⟨[]⟩ ⟨[]⟩) K):=by
 subst Hd;unfold iQ;intro w hs;refine⟨λvs w=>∃i:Nat,i<=l.length/\(∀j y,j<i->l[j]?=some y->wQ y=true)/\vs=[.i 0,.bool false,.l s l.length c,.i (l.length:Int),.i (i:Int)]/\St W w L,
  λvs _=>match vs with|[_,_,_,_,.int _ d]=>l.length-d.toNat|_=>0,⟨0,ad2 _,λj y hj=>by omega,rfl,hs⟩,?_⟩
 rintro n1 b1 uR qe uQ n2 n3 w2 ⟨i,hi,fG,e,fh⟩;cases e
 refine T.at ?_ fh;have e5:=lY i;refine dP (λg1=>?_) (λg1=>?_)
 ·have aZ:i<l.length:=by omega
  have gx:=adS aZ;generalize l[i]=x at gx;refine jY hr ⟨by omega,by omega⟩ rfl λa ha=>?_;rw[adT];refine jX hr ha gx (eY x) ?_;apply ws;intros;show T W _ (dK (ak x) _);unfold dK;apply ws;intros;rw[C7];rw[e5];refine bE (λg2=>?_) (λg2=>?_)
  ·have g2:wQ x=false:=by simpa [wQ] using g2
   rw[s6 fG gx g2] at h;exact T.dp h
  ·have g2:wQ x=true:=by simpa [wQ] using g2
   refine T.drop (T.drop ?_);refine λw3 h3=>⟨⟨i+1,aZ,λj y hj hy=>?_,rfl,h3⟩,by show l.length-((i+1:Nat):Int).toNat<l.length-(i:Int).toNat;omega⟩;by_cases Gg:j=i
   ·subst Gg;rw[gx] at hy;cases hy;exact g2
   ·exact fG j y (by omega) hy
 ·have gr:i=l.length:=by omega
  subst gr;rw[qX λx hx=>by obtain⟨j,hj⟩:=afa hx;exact fG j x (adU.1 hj).1 hj] at h;exact h
def TX(G:pn W){s:OA}{c c2 nn:Nat}{l:List aP}{r q o:Nat}{res:List Int}(hr:nQ W R ak 14 s l)(Hd:nn=l.length)(fJ:∀x∈l,vf x)(hP:Is b)(hl:hs.length+8* l.length<800000)
 (ho:o+l.length<=res.length)(F8:0<l.length)
 (h0:∀cU b',fp ax.make b l 0=(none,b')->Is b'->cU.length<=hs.length+8* l.length->T W (bh p (b',cU)::own (some ⟨r,0,none⟩) q q 1 (res.flatMap I1)::R) (K (.tuple ⟨[]⟩)))
 (h1:∀e b',fp ax.make b l 0=(some e,b')->e.1<l.length->T W (bh p (b,hs)::own (some ⟨r,0,none⟩) q q 1 ((res.take o++ij l.length (some e)++res.drop (o+l.length)).flatMap I1)::R) (K (.tuple ⟨[]⟩))):
 T W (bh p (b,hs)::own (some ⟨r,0,none⟩) q q 1 (res.flatMap I1)::R) (jm (some ⟨p,0,none⟩) s nn c (some ⟨r,o,none⟩) nn c2 (.func (.func N.iD) ⟨[]⟩ ⟨[]⟩) K):=by
 subst Hd;unfold jm;refine mT (p:=p) λhg=>?_;refine Jb (p:=p) ?_;apply ws;intros;intro w ju;refine⟨λvs w=>∃(i:Nat)(b':ax)(cU:List C),i<=l.length/\fp ax.make b (l.take i) 0=(none,b')/\Is b'/\Ext (cZ b) hs (cZ b') cU (8* i)/\vs=[.i (hs.length:Int),.l s l.length c,.i (l.length:Int),.i (i:Int)]/\
  St W w (bh p (b',cU)::own (some ⟨r,0,none⟩) q q 1 (res.flatMap I1)::R),
  λvs _=>match vs with|[_,_,_,.int _ d]=>l.length-d.toNat|_=>0,⟨0,b,hs,ad2 _,rfl,hP,Ext.refl _ _ _,rfl,ju⟩,?_⟩
 rintro n2 rA pz ra n3 n4 w2 ⟨i,b',cU,hi,EU,Hk,hx,e,fh⟩;cases e
 refine T.at ?_ fh;have e5:=lY i;have hxl:=hx.len;refine dP (λg1=>?_) (λg1=>?_)
 ·have aZ:i<l.length:=by omega
  have gx:=adS aZ;have mg:l[i]∈l:=aeg aZ;have qj:l=l.take i++l[i]::l.drop (i+1):=by rw[<-aex aZ,aem]
  have te:l.take (i+1)=l.take i++[l[i]]:=by rw[aeb,gx];rfl
  generalize l[i]=x at gx mg qj te;have Ec:=fJ x mg;refine jY hr ⟨by omega,by omega⟩ rfl λa ha=>?_;rw[adT];refine jX hr ha gx (eY x) ?_;apply ws;intros;show T W _ (iD (some ⟨p,0,none⟩) (ak x) _);refine RA (p:=p) G Ec (by omega) λUj Ub=>?_;have UI:fp ax.make b l 0=fp ax.make b' (x::l.drop (i+1)) (0+(l.take i).length):=by
   conv=>lhs;rw[qj]
   exact oB _ _ _ _ _ EU
  have Xk:(l.take i).length=i:=by rw[adX];omega
  apply ws;intros;refine bE (λg2=>?_) (λg2=>?_)
  ·have g2:(b'.make x).1≠0:=by simpa using g2
   refine T.drop ?_;have hx3:=Ub.len;refine Jd (p:=p) hg (hx.trans Ub) (by omega) ?_;apply ws;intros;refine En (r:=r) (N:=q) (C:=q) ho aZ (by omega) ?_;apply ws;intros;refine h1 (i,(b'.make x).1) b' ?_ aZ;rw[UI,Xk,fp,if_pos g2,adW]
  ·have g2:(b'.make x).1=0:=by simpa using g2
   rw[e5];refine T.drop ?_;refine λw3 h3=>⟨⟨i+1,_,Uj,aZ,?_,Hk.make x,(hx.trans Ub).mono (by omega),rfl,h3⟩,by show l.length-((i+1:Nat):Int).toNat<l.length-(i:Int).toNat;omega⟩;rw[te,oB _ _ _ _ _ EU,fp,if_neg (by omega)]
   rfl
 ·have gr:i=l.length:=by omega
  subst gr;rw[ad5] at EU;exact h0 cU b' EU Hk (by omega)
def TP(G:pn W){s:OA}{c:Nat}{l:List aP}(hr:nQ W R ak 14 s l)(hc:l.length<=c)(fJ:∀x∈l,vf x)(hP:Is b)(Db:l.length<=10000)(hl:hs.length+8* l.length<800000)
 (h:∀r cU,cU.length<=hs.length+8* l.length->Is (eO ax.make wQ l.length b l).2->(eO ax.make wQ l.length b l).1.length=l.length->
  T W (bh p ((eO ax.make wQ l.length b l).2,cU)::own (some ⟨r,0,none⟩) l.length l.length 1 ((eO ax.make wQ l.length b l).1.flatMap I1)::R) (K (.l (some ⟨r,0,none⟩) l.length l.length))):
 T W (bh p (b,hs)::R) (nM (some ⟨p,0,none⟩) s l.length c K):=by
 unfold nM lJ;refine DH ⟨by omega,by omega,by omega,by omega⟩ λr=>?_;rw[adT,show(Builtin.zeroCells ⟨[Value.int adP 0]⟩ l.length).toList=(ad8 l.length (0:Int)).flatMap I1 from nw (g:=I1) (z:=0) rfl _];show T W (own (some ⟨r,0,none⟩) l.length l.length 1 _::bh p (b,hs)::R) _;refine T.perm (M:=own (some ⟨r,0,none⟩) l.length l.length 1 _::bh p (b,hs)::R) (L:=bh p (b,hs)::own (some ⟨r,0,none⟩) l.length l.length 1 _::R) ?_ (aej.swap _ _ _);intro w ju;refine⟨λvs w=>∃(at_ fuel:Nat)(b':ax)(cU:List C)(done:List Int),at_<=l.length/\done.length=at_/\l.length<=fuel+at_/\
                                                                        eO ax.make wQ l.length b l=(done++(eO ax.make wQ fuel b' (l.drop at_)).1,(eO ax.make wQ fuel b' (l.drop at_)).2)/\Is b'/\cU.length<=hs.length+8* at_/\
                                                                        vs=[.l none 0 0,.l (some ⟨r,0,none⟩) l.length l.length,.i (at_:Int)]/\
                                                                        St W w (bh p (b',cU)::own (some ⟨r,0,none⟩) l.length l.length 1 ((done++ad8 (l.length-at_) 0).flatMap I1)::R),
  λvs _=>match vs with|[_,_,.int _ d]=>l.length-d.toNat|_=>0,⟨0,l.length,b,hs,[],ad2 _,rfl,by omega,by simp,hP,by omega,rfl,ju⟩,?_⟩
 rintro rA pz ra zm yE yF n1 w2 ⟨at_,fuel,b',cU,done,vK,wX,L9,ln,Hk,SA,e,fh⟩;cases e
 refine T.at ?_ fh;refine dP (λg1=>?_) (λg1=>?_)
 ·have aZ:at_<l.length:=by omega
  have gU:l.drop at_≠[]:=λhh=>by have:=congrArg List.length hh;rw[ad4] at this;simp at this;omega
  have rQ:(l.drop at_).length=l.length-at_:=ad4;refine tE (by omega) ?_;have Po:=hr.drop (i:=at_) (c:=c) (by omega) hc;refine Ri Po rQ.symm (by omega) ?_;apply ws;intros;obtain⟨n,hn⟩:∃n,(bm wQ (l.drop at_)).1=n:=⟨_,rfl⟩;have aay:n<=l.length-at_:=by rw[<-hn,<-rQ];exact sY _
  have Xv:0<n:=by
   rw[<-hn];cases hd:l.drop at_ with
   |nil=>exact absurd hd gU
   |cons x l'=>exact y8 x l'
  rw[hn];have e6:adP.wrap ((at_:Int)+(n:Int))=((at_+n:Nat):Int):=by rw[aw (by omega)];omega
  rw[e6];refine zG (by omega) (by omega) ?_;have ea:tI (some ⟨r,0,none⟩) l.length at_ 1=some ⟨r,at_,none⟩:=by unfold tI;rw[if_neg (by omega)];show some (Addr.add ⟨r,0,none⟩ (at_* 1))=_;rw[dU,adW,afp]
  rw[ea,Nat.add_sub_cancel_left];obtain⟨fuel,rfl⟩:∃m,fuel=m+1:=⟨fuel-1,by omega⟩;have dZ:=xJ (f:=ax.make) (lk:=wQ) (n:=fuel) (s:=b') gU;have Wg:(l.drop at_).drop n=l.drop (at_+n):=ae2;have Cm:(done++ad8 (l.length-at_) (0:Int)).length=l.length:=by rw[adV,aeZ];omega
  have Bi:(done++ad8 (l.length-at_) (0:Int)).drop (at_+n)=ad8 (l.length-(at_+n)) 0:=by
   rw[List.drop_append,aez (by omega),aev,List.drop_replicate];congr 1;omega
  have oy:(done++ad8 (l.length-at_) (0:Int)).take at_=done:=by rw[<-wX,List.take_left]
  refine bE (λg2=>?_) (λg2=>?_)
  ·have g2:(bm wQ (l.drop at_)).2=false:=by simpa using g2
   have Hd:n=l.length-at_:=by rw[<-hn,sX g2,rQ]
   have e7:adP.wrap ((n:Int) -1)=((n-1:Nat):Int):=by rw[aw (by omega)];omega
   rw[e7];refine En (r:=r) (N:=l.length) (C:=l.length) (o:=at_) (n:=n) (by rw[Cm];omega) (by omega) (by omega) ?_;apply ws;intros;rw[oy,Bi];refine λw3 h3=>⟨⟨at_+n,fuel,b',cU,done++ij n (some (n-1,2)),by omega,by rw[adV,jz];omega,by omega,?_,Hk,by omega,rfl,h3⟩,by show l.length-((at_+n:Nat):Int).toNat<l.length-(at_:Int).toNat;omega⟩;rw[if_pos g2,hn] at dZ;rw[ln,dZ,show l.drop (at_+n)=[] from aez (by omega),rF];simp
  ·have g2:(bm wQ (l.drop at_)).2=true:=by simpa using g2
   rw[if_neg (by rw[g2];decide),hn,Wg] at dZ;refine zG (by omega) (by omega) ?_;rw[Nat.add_sub_cancel_left];have zu:((l.drop at_).take n).length=n:=by rw[adX];omega
   have V':=Po.take (i:=n);refine TX (p:=p) G (l:=(l.drop at_).take n) (o:=at_) V' zu.symm (λx hx=>fJ x (List.mem_of_mem_drop (List.mem_of_mem_take hx))) Hk (by omega) (by rw[Cm];omega) (by omega) (λrB b3 hd hP3 Ps=>?_) (λe b3 hd he=>?_)
   ·apply ws;intros;rw[zu] at Ps;rw[hd] at dZ;refine λw3 h3=>⟨⟨at_+n,fuel,b3,rB,done++ij n none,by omega,by rw[adV,jz];omega,by omega,?_,hP3,by omega,rfl,?_⟩,by show l.length-((at_+n:Nat):Int).toNat<l.length-(at_:Int).toNat;omega⟩
    ·rw[ln,dZ];simp
    ·have e8:done++ad8 (l.length-at_) (0:Int)=done++ij n none++ad8 (l.length-(at_+n)) 0:=by
      rw[ad0];congr 1;show _=ad8 n 0++_;rw[List.replicate_append_replicate];congr 1;omega
     rw[<-e8];exact h3
   ·apply ws;intros;rw[zu];rw[hd] at dZ;rw[oy,Bi];refine λw3 h3=>⟨⟨at_+n,fuel,b',cU,done++ij n (some e),by omega,by rw[adV,jz];omega,by omega,?_,Hk,by omega,rfl,h3⟩,by show l.length-((at_+n:Nat):Int).toNat<l.length-(at_:Int).toNat;omega⟩;rw[ln,dZ];simp
 ·have gr:at_=l.length:=by omega
  subst gr;rw[List.drop_length,rF] at ln;simp only[aed] at ln;rw[ln] at h;have:=h r cU (by omega) Hk wX;rw[afe,List.replicate_zero,aed];apply ws;intros;exact this
end
def Zg(t:Move):Prop:=uX t/\jT t
section
variable {W:World} {L R:LH} {K:VK} {X:WK} {p:Nat} {b:ax} {hs:List C}
def Rh{s:OA}{c nn:Nat}{l:List Move}[hh:Has R L](hr:nQ W R ai 16 s l)(Hd:nn=l.length)(hl:l.length<1000000)
 (h:T W L (K (.tuple ⟨[.i ((bm wP l).1:Int),.bool (bm wP l).2]⟩))):T W L (il s nn c (.func (.func N.dv) ⟨[]⟩ ⟨[]⟩) K):=by
 subst Hd;unfold il;intro w hs;refine⟨λvs w=>∃i:Nat,i<=l.length/\(∀j y,j<i->l[j]?=some y->wP y=true)/\vs=[.i 0,.bool false,.l s l.length c,.i (l.length:Int),.i (i:Int)]/\St W w L,
  λvs _=>match vs with|[_,_,_,_,.int _ d]=>l.length-d.toNat|_=>0,⟨0,ad2 _,λj y hj=>by omega,rfl,hs⟩,?_⟩
 rintro n1 b1 uR qe uQ n2 n3 w2 ⟨i,hi,fG,e,fh⟩;cases e
 refine T.at ?_ fh;have e5:=lY i;refine dP (λg1=>?_) (λg1=>?_)
 ·have aZ:i<l.length:=by omega
  have gx:=adS aZ;generalize l[i]=x at gx;refine jY hr ⟨by omega,by omega⟩ rfl λa ha=>?_;rw[adT];refine jX hr ha gx (rJ x) ?_;apply ws;intros;show T W _ (dv (ai x) _);unfold dv;apply ws;intros;rw[C7];rw[e5];refine bE (λg2=>?_) (λg2=>?_)
  ·have g2:wP x=false:=by simpa [wP] using g2
   rw[s6 fG gx g2] at h;exact T.dp h
  ·have g2:wP x=true:=by simpa [wP] using g2
   refine T.drop (T.drop ?_);refine λw3 h3=>⟨⟨i+1,aZ,λj y hj hy=>?_,rfl,h3⟩,by show l.length-((i+1:Nat):Int).toNat<l.length-(i:Int).toNat;omega⟩;by_cases Gg:j=i
   ·subst Gg;rw[gx] at hy;cases hy;exact g2
   ·exact fG j y (by omega) hy
 ·have gr:i=l.length:=by omega
  subst gr;rw[qX λx hx=>by obtain⟨j,hj⟩:=afa hx;exact fG j x (adU.1 hj).1 hj] at h;exact h
def TW(G:pn W){s:OA}{c c2 nn:Nat}{l:List Move}{r q o:Nat}{res:List Int}(hr:nQ W R ai 16 s l)(Hd:nn=l.length)(fJ:∀x∈l,Zg x)(hP:Is b)(hl:hs.length+8* l.length<800000)
 (ho:o+l.length<=res.length)(F8:0<l.length)
 (h0:∀cU b',fp ax.nW b l 0=(none,b')->Is b'->cU.length<=hs.length+8* l.length->T W (bh p (b',cU)::own (some ⟨r,0,none⟩) q q 1 (res.flatMap I1)::R) (K (.tuple ⟨[]⟩)))
 (h1:∀e b',fp ax.nW b l 0=(some e,b')->e.1<l.length->T W (bh p (b,hs)::own (some ⟨r,0,none⟩) q q 1 ((res.take o++ij l.length (some e)++res.drop (o+l.length)).flatMap I1)::R) (K (.tuple ⟨[]⟩))):
 T W (bh p (b,hs)::own (some ⟨r,0,none⟩) q q 1 (res.flatMap I1)::R) (iP (some ⟨p,0,none⟩) s nn c (some ⟨r,o,none⟩) nn c2 (.func (.func N.kj) ⟨[]⟩ ⟨[]⟩) K):=by
 subst Hd;unfold iP;refine mT (p:=p) λhg=>?_;refine Jb (p:=p) ?_;apply ws;intros;intro w ju;refine⟨λvs w=>∃(i:Nat)(b':ax)(cU:List C),i<=l.length/\fp ax.nW b (l.take i) 0=(none,b')/\Is b'/\Ext (cZ b) hs (cZ b') cU (8* i)/\vs=[.i (hs.length:Int),.l s l.length c,.i (l.length:Int),.i (i:Int)]/\
  St W w (bh p (b',cU)::own (some ⟨r,0,none⟩) q q 1 (res.flatMap I1)::R),
  λvs _=>match vs with|[_,_,_,.int _ d]=>l.length-d.toNat|_=>0,⟨0,b,hs,ad2 _,rfl,hP,Ext.refl _ _ _,rfl,ju⟩,?_⟩
 rintro n2 rA pz ra n3 n4 w2 ⟨i,b',cU,hi,EU,Hk,hx,e,fh⟩;cases e
 refine T.at ?_ fh;have e5:=lY i;have hxl:=hx.len;refine dP (λg1=>?_) (λg1=>?_)
 ·have aZ:i<l.length:=by omega
  have gx:=adS aZ;have mg:l[i]∈l:=aeg aZ;have qj:l=l.take i++l[i]::l.drop (i+1):=by rw[<-aex aZ,aem]
  have te:l.take (i+1)=l.take i++[l[i]]:=by rw[aeb,gx];rfl
  generalize l[i]=x at gx mg qj te;have Ec:=fJ x mg;refine jY hr ⟨by omega,by omega⟩ rfl λa ha=>?_;rw[adT];refine jX hr ha gx (rJ x) ?_;apply ws;intros;show T W _ (kj (some ⟨p,0,none⟩) (ai x) _);refine X9 (p:=p) G Ec.1 Ec.2 (by obtain⟨m,h3,h4⟩:=Hk;exact RV h3 h4) (by omega) λUj Ub=>?_;have UI:fp ax.nW b l 0=fp ax.nW b' (x::l.drop (i+1)) (0+(l.take i).length):=by
   conv=>lhs;rw[qj]
   exact oB _ _ _ _ _ EU
  have Xk:(l.take i).length=i:=by rw[adX];omega
  apply ws;intros;refine bE (λg2=>?_) (λg2=>?_)
  ·have g2:(b'.nW x).1≠0:=by simpa using g2
   refine T.drop ?_;have hx3:=Ub.len;refine Jd (p:=p) hg (hx.trans Ub) (by omega) ?_;apply ws;intros;refine En (r:=r) (N:=q) (C:=q) ho aZ (by omega) ?_;apply ws;intros;refine h1 (i,(b'.nW x).1) b' ?_ aZ;rw[UI,Xk,fp,if_pos g2,adW]
  ·have g2:(b'.nW x).1=0:=by simpa using g2
   rw[e5];refine T.drop ?_;refine λw3 h3=>⟨⟨i+1,_,Uj,aZ,?_,Hk.nW x,(hx.trans Ub).mono (by omega),rfl,h3⟩,by show l.length-((i+1:Nat):Int).toNat<l.length-(i:Int).toNat;omega⟩;rw[te,oB _ _ _ _ _ EU,fp,if_neg (by omega)]
   rfl
 ·have gr:i=l.length:=by omega
  subst gr;rw[ad5] at EU;exact h0 cU b' EU Hk (by omega)
def TO(G:pn W){s:OA}{c:Nat}{l:List Move}(hr:nQ W R ai 16 s l)(hc:l.length<=c)(fJ:∀x∈l,Zg x)(hP:Is b)(Db:l.length<=10000)(hl:hs.length+8* l.length<800000)
 (h:∀r cU,cU.length<=hs.length+8* l.length->Is (eO ax.nW wP l.length b l).2->(eO ax.nW wP l.length b l).1.length=l.length->
  T W (bh p ((eO ax.nW wP l.length b l).2,cU)::own (some ⟨r,0,none⟩) l.length l.length 1 ((eO ax.nW wP l.length b l).1.flatMap I1)::R) (K (.l (some ⟨r,0,none⟩) l.length l.length))):
 T W (bh p (b,hs)::R) (mQ (some ⟨p,0,none⟩) s l.length c K):=by
 unfold mQ kV;refine DH ⟨by omega,by omega,by omega,by omega⟩ λr=>?_;rw[adT,show(Builtin.zeroCells ⟨[Value.int adP 0]⟩ l.length).toList=(ad8 l.length (0:Int)).flatMap I1 from nw (g:=I1) (z:=0) rfl _];show T W (own (some ⟨r,0,none⟩) l.length l.length 1 _::bh p (b,hs)::R) _;refine T.perm (M:=own (some ⟨r,0,none⟩) l.length l.length 1 _::bh p (b,hs)::R) (L:=bh p (b,hs)::own (some ⟨r,0,none⟩) l.length l.length 1 _::R) ?_ (aej.swap _ _ _);intro w ju;refine⟨λvs w=>∃(at_ fuel:Nat)(b':ax)(cU:List C)(done:List Int),at_<=l.length/\done.length=at_/\l.length<=fuel+at_/\
                                                                        eO ax.nW wP l.length b l=(done++(eO ax.nW wP fuel b' (l.drop at_)).1,(eO ax.nW wP fuel b' (l.drop at_)).2)/\Is b'/\cU.length<=hs.length+8* at_/\
                                                                        vs=[.l none 0 0,.l (some ⟨r,0,none⟩) l.length l.length,.i (at_:Int)]/\
                                                                        St W w (bh p (b',cU)::own (some ⟨r,0,none⟩) l.length l.length 1 ((done++ad8 (l.length-at_) 0).flatMap I1)::R),
  λvs _=>match vs with|[_,_,.int _ d]=>l.length-d.toNat|_=>0,⟨0,l.length,b,hs,[],ad2 _,rfl,by omega,by simp,hP,by omega,rfl,ju⟩,?_⟩
 rintro rA pz ra zm yE yF n1 w2 ⟨at_,fuel,b',cU,done,vK,wX,L9,ln,Hk,SA,e,fh⟩;cases e
 refine T.at ?_ fh;refine dP (λg1=>?_) (λg1=>?_)
 ·have aZ:at_<l.length:=by omega
  have gU:l.drop at_≠[]:=λhh=>by have:=congrArg List.length hh;rw[ad4] at this;simp at this;omega
  have rQ:(l.drop at_).length=l.length-at_:=ad4;refine tE (by omega) ?_;have Po:=hr.drop (i:=at_) (c:=c) (by omega) hc;refine Rh Po rQ.symm (by omega) ?_;apply ws;intros;obtain⟨n,hn⟩:∃n,(bm wP (l.drop at_)).1=n:=⟨_,rfl⟩;have aay:n<=l.length-at_:=by rw[<-hn,<-rQ];exact sY _
  have Xv:0<n:=by
   rw[<-hn];cases hd:l.drop at_ with
   |nil=>exact absurd hd gU
   |cons x l'=>exact y8 x l'
  rw[hn];have e6:adP.wrap ((at_:Int)+(n:Int))=((at_+n:Nat):Int):=by rw[aw (by omega)];omega
  rw[e6];refine zG (by omega) (by omega) ?_;have ea:tI (some ⟨r,0,none⟩) l.length at_ 1=some ⟨r,at_,none⟩:=by unfold tI;rw[if_neg (by omega)];show some (Addr.add ⟨r,0,none⟩ (at_* 1))=_;rw[dU,adW,afp]
  rw[ea,Nat.add_sub_cancel_left];obtain⟨fuel,rfl⟩:∃m,fuel=m+1:=⟨fuel-1,by omega⟩;have dZ:=xJ (f:=ax.nW) (lk:=wP) (n:=fuel) (s:=b') gU;have Wg:(l.drop at_).drop n=l.drop (at_+n):=ae2;have Cm:(done++ad8 (l.length-at_) (0:Int)).length=l.length:=by rw[adV,aeZ];omega
  have Bi:(done++ad8 (l.length-at_) (0:Int)).drop (at_+n)=ad8 (l.length-(at_+n)) 0:=by
   rw[List.drop_append,aez (by omega),aev,List.drop_replicate];congr 1;omega
  have oy:(done++ad8 (l.length-at_) (0:Int)).take at_=done:=by rw[<-wX,List.take_left]
  refine bE (λg2=>?_) (λg2=>?_)
  ·have g2:(bm wP (l.drop at_)).2=false:=by simpa using g2
   have Hd:n=l.length-at_:=by rw[<-hn,sX g2,rQ]
   have e7:adP.wrap ((n:Int) -1)=((n-1:Nat):Int):=by rw[aw (by omega)];omega
   rw[e7];refine En (r:=r) (N:=l.length) (C:=l.length) (o:=at_) (n:=n) (by rw[Cm];omega) (by omega) (by omega) ?_;apply ws;intros;rw[oy,Bi];refine λw3 h3=>⟨⟨at_+n,fuel,b',cU,done++ij n (some (n-1,2)),by omega,by rw[adV,jz];omega,by omega,?_,Hk,by omega,rfl,h3⟩,by show l.length-((at_+n:Nat):Int).toNat<l.length-(at_:Int).toNat;omega⟩;rw[if_pos g2,hn] at dZ;rw[ln,dZ,show l.drop (at_+n)=[] from aez (by omega),rF];simp
  ·have g2:(bm wP (l.drop at_)).2=true:=by simpa using g2
   rw[if_neg (by rw[g2];decide),hn,Wg] at dZ;refine zG (by omega) (by omega) ?_;rw[Nat.add_sub_cancel_left];have zu:((l.drop at_).take n).length=n:=by rw[adX];omega
   have V':=Po.take (i:=n);refine TW (p:=p) G (l:=(l.drop at_).take n) (o:=at_) V' zu.symm (λx hx=>fJ x (List.mem_of_mem_drop (List.mem_of_mem_take hx))) Hk (by omega) (by rw[Cm];omega) (by omega) (λrB b3 hd hP3 Ps=>?_) (λe b3 hd he=>?_)
   ·apply ws;intros;rw[zu] at Ps;rw[hd] at dZ;refine λw3 h3=>⟨⟨at_+n,fuel,b3,rB,done++ij n none,by omega,by rw[adV,jz];omega,by omega,?_,hP3,by omega,rfl,?_⟩,by show l.length-((at_+n:Nat):Int).toNat<l.length-(at_:Int).toNat;omega⟩
    ·rw[ln,dZ];simp
    ·have e8:done++ad8 (l.length-at_) (0:Int)=done++ij n none++ad8 (l.length-(at_+n)) 0:=by
      rw[ad0];congr 1;show _=ad8 n 0++_;rw[List.replicate_append_replicate];congr 1;omega
     rw[<-e8];exact h3
   ·apply ws;intros;rw[zu];rw[hd] at dZ;rw[oy,Bi];refine λw3 h3=>⟨⟨at_+n,fuel,b',cU,done++ij n (some e),by omega,by rw[adV,jz];omega,by omega,?_,Hk,by omega,rfl,h3⟩,by show l.length-((at_+n:Nat):Int).toNat<l.length-(at_:Int).toNat;omega⟩;rw[ln,dZ];simp
 ·have gr:at_=l.length:=by omega
  subst gr;rw[List.drop_length,rF] at ln;simp only[aed] at ln;rw[ln] at h;have:=h r cU (by omega) Hk wX;rw[afe,List.replicate_zero,aed];apply ws;intros;exact this
end
end Go.Up
namespace Go.Prog
open Go.Den Go.Up Go.Md
def pS(p:OA)(now:Int)(K:VK):WK:=λw=>∃(W:World)(L:List Sep.HP)(a:Nat)(b:Up.ax)(m:Model)(hs:List C),
 p=some ⟨a,0,none⟩/\Sep.St W w (bh a (b,hs)::L)/\lX b m/\Md.Ground m/\hs.length<=100000/\
 ∀(n:Int)(b':Up.ax)(cU:List C)(w':World),lX b' (m.time now)->Md.Ground (m.time now)->cU.length<=200000->Sep.St W w' (bh a (b',cU)::L)->K (.i n) w'
def pS.u:WP:=λargs K=>match args with|[.pointer p,.int .i64 n]=>pS p n K|_=>no
end Go.Prog
namespace Go.Prog
open Go.Den
def eG(b:LV)(K:VK):WK:=mk b λa=>lI (ad a 0) λc=>br (decide (c>=1)) (lI (ad a 0) λd=>K (.bool (decide (d<=3)))) (K (.bool false))
def bY.j1(K:VK)(a:Bool):WK:=K (.bool a)
def bY.j2(K:VK)(a:Bool):WK:=K (.bool a)
def bY(b:LV)(K:VK):WK:=mk b λa=>lI (ad a 0) λc=>br (c==1) (lL (ad a 1) λl d m=>br (decide ((d:Int)>0)) (lL (ad a 1) λn e o=>bY.j1 K (decide ((e:Int)<9))) (bY.j1 K false)) (lI (ad a 0) λf=>br (f==2) (lL (ad a 2) λp g q=>br (decide ((g:Int)>0)) (lL (ad a 2) λr h s=>bY.j2 K (decide ((h:Int)<9))) (bY.j2 K false)) (lI (ad a 0) λi=>br (i==3) (lI (ad a 3) λj=>br (decide (j>=0)) (lI (ad a 3) λk=>K (.bool (decide (k<=1099511627776)))) (K (.bool false))) (K (.bool false))))
def aA.j2(K:VK)(a:Bool):WK:=K (.bool a)
def aA.j6(K:VK)(a:Nat)(b:Bool):WK:=br b (lT (ad a 4) λc=>br c (K (.bool true)) (lT (ad a 5) λd=>K (.bool d))) (K (.bool false))
def aA.j5(K:VK)(a:Nat)(b:Bool):WK:=br b (lI (ad a 7) λc=>aA.j6 K a (decide (c<17))) (aA.j6 K a false)
def aA.j4(K:VK)(a:Nat)(b:Bool):WK:=br b (lI (ad a 7) λc=>aA.j5 K a (decide (c>0))) (aA.j5 K a false)
def aA.j3(K:VK)(a:Nat)(b:Bool):WK:=br b (lI (ad a 3) λc=>aA.j4 K a (decide (c>=0))) (aA.j4 K a false)
def aA.j1(K:VK)(a:Nat)(c:Bool):WK:=br c (lL (ad a 4) λi d j=>br (decide ((d:Int)>0)) (lL (ad a 4) λk e l=>aA.j2 K (decide ((e:Int)<17))) (aA.j2 K false)) (ah (ad a 5) 8 λf=>mk EX λb=>aI 8 (ad b 0) f (lI (ad a 0) λg=>br (g==6) (lI (ad b 2) λh=>aA.j3 K b (decide (h>=0))) (aA.j3 K b false)))
def aA(b:LV)(K:VK):WK:=mk b λa=>lI (ad a 0) λc=>br (c==4) (aA.j1 K a true) (lI (ad a 0) λd=>aA.j1 K a (d==5))
def bD.j3(K:VK)(a:Nat)(b:Bool):WK:=br b (lI (ad a 12) λc=>br (decide (c>=0)) (lI (ad a 12) λd=>K (.bool (decide (d<65536)))) (K (.bool false))) (K (.bool false))
def bD.j2(K:VK)(a:Nat)(b:Bool):WK:=br b (lI (ad a 11) λc=>bD.j3 K a (decide (c<65536))) (bD.j3 K a false)
def bD.j1(K:VK)(a:Nat)(b:Bool):WK:=br b (lI (ad a 11) λc=>bD.j2 K a (decide (c>=0))) (bD.j2 K a false)
def bD(b:LV)(K:VK):WK:=mk b λa=>lI (ad a 10) λc=>br (decide (c>=0)) (lI (ad a 10) λd=>bD.j1 K a (decide (d<4294967296))) (bD.j1 K a false)
def aR.j5(K:VK)(a:Nat)(b:Bool):WK:=br b (lI (ad a 13) λc=>br (decide (c>=0)) (lI (ad a 13) λd=>K (.bool (decide (d<65536)))) (K (.bool false))) (K (.bool false))
def aR.j4(K:VK)(a:Nat)(b:Bool):WK:=br b (lI (ad a 12) λc=>aR.j5 K a (decide (c<65536))) (aR.j5 K a false)
def aR.j3(K:VK)(a:Nat)(b:Bool):WK:=br b (lI (ad a 12) λc=>aR.j4 K a (decide (c>=0))) (aR.j4 K a false)
def aR.j2(K:VK)(a:Nat)(b:Bool):WK:=br b (lI (ad a 11) λc=>aR.j3 K a (decide (c<4294967296))) (aR.j3 K a false)
def aR.j1(K:VK)(a:Nat)(b:Bool):WK:=br b (lI (ad a 11) λc=>aR.j2 K a (decide (c>=0))) (aR.j2 K a false)
def aR(b:LV)(K:VK):WK:=mk b λa=>lI (ad a 10) λc=>br (decide (c>=0)) (lI (ad a 10) λd=>aR.j1 K a (decide (d<4294967296))) (aR.j1 K a false)
def da.j1(K:VK)(v:Nat)(C:Bool):WK:=br C (K (.bool false)) (lL (ad v 1) λD w E=>(lp [.p (some (ad v 0)),.bool false,.l D w E,.i (w:Int),.i 0] λt x=>∀a d e f n g b r,t [.p (some a),.bool d,.l e f n,.i g,.i b] r->(br (decide (b<g)) (fO e f b 14 λF=>ah F 14 λG=>mk cM λy=>aI 14 (ad y 0) G (lI a λH=>br (H==1) (ah (ad y 0) 14 λI=>bD I (xB λJ=>br (!J) (K (.bool false)) ((ct t x [.p (some a),.bool d,.l e f n,.i g,.i (adP.wrap (b+1))] [.p (some a),.bool d,.l e f n,.i g,.i b] r)))) ((ct t x [.p (some a),.bool d,.l e f n,.i g,.i (adP.wrap (b+1))] [.p (some a),.bool d,.l e f n,.i g,.i b] r)))) (lL (a.add 2) λM z O=>(lp [.p (some a),.bool d,.l M z O,.i (z:Int),.i 0] λu A=>∀h o j k q m c s,u [.p (some h),.bool o,.l j k q,.i m,.i c] s->(br (decide (c<m)) (fO j k c 16 λP=>ah P 16 λQ=>mk fe λB=>aI 16 (ad B 0) Q (lI h λR=>br (R==2) (ah (ad B 0) 16 λS=>aR S (xB λT=>br (!T) (K (.bool false)) ((ct u A [.p (some h),.bool o,.l j k q,.i m,.i (adP.wrap (c+1))] [.p (some h),.bool o,.l j k q,.i m,.i c] s)))) ((ct u A [.p (some h),.bool o,.l j k q,.i m,.i (adP.wrap (c+1))] [.p (some h),.bool o,.l j k q,.i m,.i c] s)))) (K (.bool true))) s))) r))
def da(b:LV)(K:VK):WK:=mk b λa=>ah (ad a 0) 13 λc=>bY c (xB λd=>br (!d) (ah (ad a 0) 13 λe=>aA e (xB λf=>da.j1 K a (!f))) (da.j1 K a false))
def dS(n:OA)(K:VK):WK:=tick (nn n λm=>lL m λj k o=>nn n λg=>lL (g.add 1) λe f h=>nn n λc=>lI (c.add 2) λa=>nn n λd=>lI (d.add 3) λb=>both (a8 True (mk [] λq=>kp (d.add 3) [.i b] (kp (c.add 2) [.i a] (kp (g.add 1) [.l e f h] (kp m [.l j k o] (both (eS 14 112 cM (some ⟨q,0,none⟩) 0 0 j k λr s t=>kp (d.add 3) [.i b] (kp (c.add 2) [.i a] (kp (g.add 1) [.l e f h] (a8 True (mk [] λu=>kp (d.add 3) [.i b] (kp (c.add 2) [.i a] (kp (g.add 1) [.l e f h] (eS 33 264 bg (some ⟨u,0,none⟩) 0 0 e f λv w x=>kp (d.add 3) [.i b] (kp (c.add 2) [.i a] (a8 (1=1/\(1=1/\(1=1/\(1=1/\True)))) (mk [.l r s t,.l v w x,.i a,.i b] λy=>kp (d.add 3) [.i b] (kp (c.add 2) [.i a] (K (.p (some (ad y 0)))))))))))))))) (a8 True (mk [] λz=>kp (d.add 3) [.i b] (kp (c.add 2) [.i a] (kp (g.add 1) [.l e f h] (kp m [.l j k o] (eS 14 112 cM (some ⟨q,0,none⟩) 0 0 j k λA B C=>kp (d.add 3) [.i b] (kp (c.add 2) [.i a] (kp (g.add 1) [.l e f h] (eS 33 264 bg (some ⟨z,0,none⟩) 0 0 e f λD E F=>kp (d.add 3) [.i b] (kp (c.add 2) [.i a] (a8 (1=1/\(1=1/\(1=1/\(1=1/\True)))) (mk [.l A B C,.l D E F,.i a,.i b] λG=>kp (d.add 3) [.i b] (kp (c.add 2) [.i a] (K (.p (some (ad G 0))))))))))))))))))))))) (a8 True (mk [] λH=>kp (d.add 3) [.i b] (kp (c.add 2) [.i a] (kp (g.add 1) [.l e f h] (kp m [.l j k o] (a8 True (mk [] λI=>kp (d.add 3) [.i b] (kp (c.add 2) [.i a] (kp (g.add 1) [.l e f h] (kp m [.l j k o] (eS 14 112 cM (some ⟨I,0,none⟩) 0 0 j k λJ M O=>kp (d.add 3) [.i b] (kp (c.add 2) [.i a] (kp (g.add 1) [.l e f h] (eS 33 264 bg (some ⟨H,0,none⟩) 0 0 e f λP Q R=>kp (d.add 3) [.i b] (kp (c.add 2) [.i a] (a8 (1=1/\(1=1/\(1=1/\(1=1/\True)))) (mk [.l J M O,.l P Q R,.i a,.i b] λS=>kp (d.add 3) [.i b] (kp (c.add 2) [.i a] (K (.p (some (ad S 0)))))))))))))))))))))))
def bj.j1(K:VK)(j:OA)(a:Int)(f:LI)(b:OA)(c d:Nat)(e:Int)(g:LM)(h:World)(k:Bool):WK:=br k (nn j λm=>lL (m.add 1) λn o q=>fO n o a 33 λp=>st (p.add 32) (.i 4) ((ct f g [.l b c d,.i e,.i (adP.wrap (a+1))] [.l b c d,.i e,.i a] h))) ((ct f g [.l b c d,.i e,.i (adP.wrap (a+1))] [.l b c d,.i e,.i a] h))
def bj(b:OA)(K:VK):WK:=nn b λn=>lL (n.add 1) λo m p=>(lp [.l o m p,.i (m:Int),.i 0] λh k=>∀c d j e a f,h [.l c d j,.i e,.i a] f->(br (decide (a<e)) (fO c d a 33 λq=>ah q 33 λr=>mk bg λg=>aI 33 (ad g 0) r (tick (lI (ad g 32) λs=>br (s==1) (lI (ad g 26) λt=>br (decide (t>0)) (lI (ad g 31) λu=>lI (ad g 26) λv=>nn b λw=>lI (w.add 2) λx=>bj.j1 K b a h c d j e k f (decide ((adP.wrap (u+v))<=x))) (bj.j1 K b a h c d j e k f false)) (bj.j1 K b a h c d j e k f false)))) (K (.tuple ⟨[]⟩))) f)
def gI(a:OA)(b:Int)(K:VK):WK:=nn a λc=>lI (c.add 2) λd=>br (decide (b>d)) (br (decide (b<=1099511627776)) (nn a λe=>st (e.add 2) (.i b) (bj a (x0 (K (.tuple ⟨[]⟩))))) (bj a (x0 (K (.tuple ⟨[]⟩))))) (bj a (x0 (K (.tuple ⟨[]⟩))))
def iv(s:OA)(p t:Nat)(K:VK):WK:=(lp [.l none 0 0,.l none 0 0,.l s p t,.i (p:Int),.i 0] λq u=>∀h j k b c d e f m g a n,q [.l h j k,.l b c d,.l e f m,.i g,.i a] n->(br (decide (a<g)) (fO e f a 14 λv=>ah v 14 λw=>mk cM λr=>aI 14 (ad r 0) w (ah (ad r 0) 14 λo=>a8 (1=1/\(o.length=14/\True)) (a8 ((([.bool true]:LV)++(o++(fe:LV))).length=31/\True) (mk ((([.bool true]:LV)++(o++(fe:LV)))++[]) λx=>eS 31 248 we b c d (some ⟨x,0,none⟩) 1 λy z A=>(ct q u [.l h j k,.l y z A,.l e f m,.i g,.i (adP.wrap (a+1))] [.l h j k,.l b c d,.l e f m,.i g,.i a] n))))) (K (.l b c d))) n)
def gY(s:OA)(p t:Nat)(K:VK):WK:=(lp [.l none 0 0,.l none 0 0,.l s p t,.i (p:Int),.i 0] λq u=>∀h j k b c d e f m g a n,q [.l h j k,.l b c d,.l e f m,.i g,.i a] n->(br (decide (a<g)) (fO e f a 16 λv=>ah v 16 λw=>mk fe λr=>aI 16 (ad r 0) w (ah (ad r 0) 16 λo=>a8 (o.length=16/\True) (a8 (((IS:LV)++(o++[])).length=31/\True) (mk (((IS:LV)++(o++[]))++[]) λx=>eS 31 248 we b c d (some ⟨x,0,none⟩) 1 λy z A=>(ct q u [.l h j k,.l y z A,.l e f m,.i g,.i (adP.wrap (a+1))] [.l h j k,.l b c d,.l e f m,.i g,.i a] n))))) (K (.l b c d))) n)
def jn(b:LV)(K:VK):WK:=mk b λa=>lT (ad a 0) λc=>br c (lI (ad a 13) λd=>a8 ((2:Int)≠0) (K (.bool ((d.tmod (2:Int))!=0)))) (lI (ad a 28) λe=>a8 ((2:Int)≠0) (K (.bool ((e.tmod (2:Int))!=0))))
def dB(c:LV)(a:Int)(K:VK):WK:=mk c λb=>br (decide (a>=64)) (lU (ad b 0) λd=>a8 ((0:Int)<=(IntKind.u64.wrap (adP.wrap (a-64)))) (a8 ((2:Int)≠0) (K (.i (adP.wrap ((shr .u64 d (IntKind.u64.wrap (adP.wrap (a-64)))).tmod (2:Int))))))) (lU (ad b 1) λe=>a8 ((0:Int)<=(IntKind.u64.wrap a)) (a8 ((2:Int)≠0) (K (.i (adP.wrap ((shr .u64 e (IntKind.u64.wrap a)).tmod (2:Int)))))))
def gp(H:LV)(K:VK):WK:=mk H λI=>a8 (1=1/\True) (mk [.i 0] λJ=>(lp [.p (some (ad I 0)),.string .empty,.l (some ⟨J,0,none⟩) 1 1,.i 127] λx C=>∀g h j a k d s,x [.p (some g),.string h,.l j a k,.i d] s->(br (decide (d>=0)) (ah g 2 λM=>dB M d (xI .i64 λO=>(lp [.p (some g),.string h,.l j a k,.i d,.i O,.i (adP.wrap ((a:Int) -1))] λD P=>∀m n b c t o e f y,D [.p (some m),.string n,.l b c t,.i o,.i e,.i f] y->(br (decide (f>=0)) (fO b c f 1 λQ=>lI Q λE=>a8 ((10:Int)≠0) (fO b c f 1 λR=>st R (.i ((adP.wrap ((adP.wrap (2* E))+e)).tmod (10:Int))) (a8 ((10:Int)≠0) ((ct D P [.p (some m),.string n,.l b c t,.i o,.i (adP.wrap ((adP.wrap ((adP.wrap (2* E))+e)).tdiv (10:Int))),.i (adP.wrap (f-1))] [.p (some m),.string n,.l b c t,.i o,.i e,.i f] y))))) (br (decide (e>0)) (a8 (1=1/\True) (mk [.i e] λS=>eS 1 8 [.i 0] (some ⟨S,0,none⟩) 1 1 b c λT V W=>(ct x C [.p (some m),.string n,.l T V W,.i (adP.wrap (o-1))] [.p (some g),.string h,.l j a k,.i d] s))) ((ct x C [.p (some m),.string n,.l b c t,.i (adP.wrap (o-1))] [.p (some g),.string h,.l j a k,.i d] s)))) y))) ((lp [.string h,.string .empty,.l j a k,.i (a:Int),.i 0] λF X=>∀z q u v A w r B,F [.string z,.string q,.l u v A,.i w,.i r] B->(br (decide (r<w)) (fO u v r 1 λY=>lI Y λZ=>a8 (1=1/\True) (mk [.int .u8 (IntKind.u8.wrap (adP.wrap (48+Z)))] λr4=>RL (some ⟨r4,0,none⟩) 1 λG=>a8 (((q.size+G.size:Nat):Int)<=9223372036854775807) ((ct F X [.string z,.string (q++G),.l u v A,.i w,.i (adP.wrap (r+1))] [.string z,.string q,.l u v A,.i w,.i r] B)))) (K (.string q))) B))) s))
def jh(b a:Int)(K:VK):WK:=a8 (a≠0) (a8 ((2:Int)≠0) (K (.bool (((adP.wrap (b.tdiv a)).tmod (2:Int))==1))))
def aC.j4(K:VK)(a:Nat)(b:Bool):WK:=br b (K (.i 8)) (lI (ad a 11) λc=>br (decide (c<=0)) (K (.i 9)) (lI (ad a 11) λd=>br (decide (d>=65536)) (K (.i 9)) (K (.i 0))))
def aC.j3(K:VK)(a:Nat)(b:Bool):WK:=br b (K (.i 7)) (lI (ad a 10) λc=>br (decide (c<=0)) (aC.j4 K a true) (lI (ad a 10) λd=>aC.j4 K a (decide (d>=4294967296))))
def aC.j6(K:VK)(a b:Nat)(c:Bool):WK:=br c (aC.j3 K a true) (ah (ad a 8) 2 λd=>ah (ad b 0) 2 λe=>nr [.u 0,.u 0] d e λf=>br (!f) (aC.j3 K a true) (lI (ad a 13) λg=>aC.j3 K a (g !=0)))
def aC.j5(K:VK)(a b:Nat)(c:Bool):WK:=br c (aC.j6 K a b true) (ah (ad a 6) 2 λd=>ah (ad b 0) 2 λe=>nr [.u 0,.u 0] d e λf=>aC.j6 K a b (!f))
def aC.j2(K:VK)(a b:Nat)(c:Bool):WK:=br c (K (.i 6)) (ah (ad a 2) 2 λd=>ah (ad b 0) 2 λe=>nr [.u 0,.u 0] d e λf=>br (!f) (aC.j5 K a b true) (ah (ad a 4) 2 λg=>ah (ad b 0) 2 λh=>nr [.u 0,.u 0] g h λj=>aC.j5 K a b (!j)))
def aC.j1(K:VK)(a b:Nat)(c:Bool):WK:=br c (K (.i 3)) (ah (ad a 0) 2 λd=>ah (ad b 0) 2 λe=>nr [.u 0,.u 0] d e λf=>br f (K (.i 4)) (ah (ad a 0) 2 λg=>gp g (xS λh=>br (oX h (⟨#[51,52,48,50,56,50,51,54,54,57,50,48,57,51,56,52,54,51,52,54,51,51,55,52,54,48,55,52,51,49,55,54,56,50,49,49,52,53,53]⟩:BA)) (K (.i 5)) (lI (ad a 12) λj=>jh j 2 (xB λk=>br k (lI (ad a 12) λl=>jh l 4 (xB λm=>aC.j2 K a b m)) (aC.j2 K a b false))))))
def aC(c:LV)(K:VK):WK:=mk c λa=>a8 True (mk [.u 0,.u 0] λb=>a8 (2=2) (gj (ad b 0) [.u 0,.u 0] (lI (ad a 12) λd=>br (decide (d<0)) (aC.j1 K a b true) (lI (ad a 12) λe=>aC.j1 K a b (decide (e>7))))))
def cK(n:OA)(o:LV)(K:VK):WK:=mk o λq=>nn n λr=>lL r λs j t=>(lp [.p (some (ad q 0)),.i 0,.l s j t,.i (j:Int),.i 0] λk v=>∀b f c d g e a h,k [.p (some b),.i f,.l c d g,.i e,.i a] h->(br (decide (a<e)) (fO c d a 14 λw=>ah w 14 λx=>mk cM λm=>aI 14 (ad m 0) x (ah (ad m 0) 2 λy=>ah b 2 λz=>nr [.u 0,.u 0] y z λA=>br A (K (.i a)) ((ct k v [.p (some b),.i f,.l c d g,.i e,.i (adP.wrap (a+1))] [.p (some b),.i f,.l c d g,.i e,.i a] h)))) (K (.i (-1)))) h)
def dO.j1(K:VK)(a b:Nat)(c:Bool):WK:=br c (lI (ad a 12) λd=>a8 ((2:Int)≠0) (a8 ((4:Int)≠0) (lI (ad b 12) λe=>a8 ((2:Int)≠0) (a8 ((4:Int)≠0) (br (((adP.wrap (d.tdiv (2:Int))).tmod (4:Int))==((adP.wrap (e.tdiv (2:Int))).tmod (4:Int))) (K (.i 10)) (K (.i 11))))))) (K (.i 11))
def dO(c d:LV)(K:VK):WK:=mk c λa=>mk d λb=>lI (ad a 10) λe=>lI (ad b 10) λf=>br (e==f) (lI (ad a 11) λg=>lI (ad b 11) λh=>dO.j1 K a b (g==h)) (dO.j1 K a b false)
def gK(a:OA)(n:LV)(K:VK):WK:=mk n λb=>ah (ad b 0) 14 λo=>aC o (xI .i64 λc=>br (c !=0) (K (.i c)) (ah (ad b 0) 2 λp=>cK a p (xI .i64 λd=>br (decide (d>=0)) (tick (ah (ad b 0) 14 λq=>nn a λe=>lL e λf g r=>fO f g d 14 λs=>ah s 14 λt=>dO q t (xI .i64 λu=>kp e [.l f g r] (K (.i u))))) (nn a λv=>lL v λJ w M=>br (decide ((w:Int)>=32)) (K (.i 35)) (nn a λx=>lI (x.add 3) λy=>nn a λz=>st (z.add 3) (.i (adP.wrap (y+1))) (nn a λA=>lI (A.add 3) λB=>st (ad b 13) (.i B) (lI (ad b 12) λC=>a8 ((2:Int)≠0) (st (ad b 12) (.i (adP.wrap ((adP.wrap (C.tdiv (2:Int)))* 2))) (tick (nn a λh=>lL h λj k m=>ah (ad b 0) 14 λD=>EW 14 D λE=>kp h [.l j k m] (eS 14 112 cM j k m (some ⟨E,0,none⟩) 1 λF G H=>nn a λI=>st I (.l F G H) (K (.i 0)))))))))))))
def aO(b:LV)(a:Int)(K:VK):WK:=mk b λc=>lI (ad c 13) λd=>a8 (a≠0) (a8 ((2:Int)≠0) (K (.bool (((adP.wrap (d.tdiv a)).tmod (2:Int))==1))))
def dI(b:LV)(K:VK):WK:=mk b λa=>ah (ad a 0) 16 λc=>aO c 4 (xB λd=>br d (K (.bool true)) (ah (ad a 0) 16 λe=>aO e 8 (xB λf=>K (.bool f))))
def aL.j2(K:VK)(a:Nat)(b:Bool):WK:=br b (K (.bool false)) (lI (ad a 13) λc=>br (decide (c<64)) (K (.bool true)) (ah (ad a 0) 16 λd=>aO d 2 (xB λe=>K (.bool e))))
def aL.j1(K:VK)(a:Nat)(b:Bool):WK:=br b (K (.bool false)) (ah (ad a 0) 16 λc=>dI c (xB λd=>br d (lI (ad a 13) λe=>aL.j2 K a (decide (e>=16))) (aL.j2 K a false)))
def aL.j4(K:VK)(a:Nat)(b:Bool):WK:=br b (aL.j1 K a true) (ah (ad a 0) 16 λc=>aO c 4 (xB λd=>br d (ah (ad a 0) 16 λe=>aO e 8 (xB λf=>aL.j1 K a f)) (aL.j1 K a false)))
def aL.j3(K:VK)(a:Nat)(b:Bool):WK:=br b (aL.j4 K a true) (ah (ad a 0) 16 λc=>aO c 2 (xB λd=>br d (ah (ad a 0) 16 λe=>aO e 8 (xB λf=>aL.j4 K a f)) (aL.j4 K a false)))
def aL(b:LV)(K:VK):WK:=mk b λa=>ah (ad a 0) 16 λc=>aO c 2 (xB λd=>br d (ah (ad a 0) 16 λe=>aO e 4 (xB λf=>aL.j3 K a f)) (aL.j3 K a false))
def au.j5(K:VK)(a:Nat)(b:Int)(c:Bool):WK:=br c (K (.i 8)) (lI (ad a 12) λd=>br (decide (d<b)) (K (.i 9)) (lI (ad a 12) λe=>br (decide (e>=65536)) (K (.i 9)) (K (.i 0))))
def au.j4(K:VK)(a:Nat)(b:Int):WK:=lI (ad a 11) λc=>br (decide (c<b)) (au.j5 K a b true) (lI (ad a 11) λd=>au.j5 K a b (decide (d>=4294967296)))
def au.j3(K:VK)(a b:Nat)(c:Bool):WK:=br c (K (.i 17)) (ah (ad a 0) 16 λd=>dI d (xB λe=>br e (ah (ad a 8) 2 λf=>ah (ad b 0) 2 λg=>nr [.u 0,.u 0] f g λh=>br h (K (.i 16)) (au.j4 K a 0)) (ah (ad a 2) 2 λj=>ah (ad b 0) 2 λk=>nr [.u 0,.u 0] j k λl=>br l (K (.i 12)) (ah (ad a 4) 2 λm=>ah (ad b 0) 2 λn=>nr [.u 0,.u 0] m n λo=>br o (K (.i 13)) (ah (ad a 2) 2 λp=>ah (ad a 4) 2 λq=>nr [.u 0,.u 0] p q λr=>br r (K (.i 14)) (ah (ad a 8) 2 λs=>ah (ad b 0) 2 λt=>nr [.u 0,.u 0] s t λv=>br (!v) (K (.i 15)) (ah (ad a 6) 2 λw=>ah (ad b 0) 2 λx=>nr [.u 0,.u 0] w x λy=>br y (ah (ad a 0) 16 λz=>aO z 16 (xB λA=>br (!A) (ah (ad a 0) 16 λB=>aO B 32 (xB λC=>br (!C) (K (.i 18)) (au.j4 K a 1))) (au.j4 K a 1))) (au.j4 K a 1))))))))
def au.j6(K:VK)(a b:Nat)(c:Bool):WK:=br c (au.j3 K a b true) (lI (ad a 10) λd=>br (decide (d>0)) (ah (ad a 0) 16 λe=>aO e 2 (xB λf=>au.j3 K a b (!f))) (au.j3 K a b false))
def au.j2(K:VK)(a b:Nat)(c:Bool):WK:=br c (K (.i 7)) (lI (ad a 10) λd=>br (decide (d<0)) (au.j6 K a b true) (lI (ad a 10) λe=>au.j6 K a b (decide (e>1073741824))))
def au.j1(K:VK)(a b:Nat)(c:Bool):WK:=br c (K (.i 3)) (ah (ad a 0) 2 λd=>ah (ad b 0) 2 λe=>nr [.u 0,.u 0] d e λf=>br f (K (.i 4)) (ah (ad a 0) 2 λg=>gp g (xS λh=>br (oX h (⟨#[51,52,48,50,56,50,51,54,54,57,50,48,57,51,56,52,54,51,52,54,51,51,55,52,54,48,55,52,51,49,55,54,56,50,49,49,52,53,53]⟩:BA)) (K (.i 5)) (ah (ad a 0) 16 λj=>aL j (xB λk=>br (!k) (K (.i 6)) (lI (ad a 14) λl=>br (l !=0) (au.j2 K a b true) (lI (ad a 15) λm=>au.j2 K a b (m !=0))))))))
def au(c:LV)(K:VK):WK:=mk c λa=>a8 True (mk [.u 0,.u 0] λb=>a8 (2=2) (gj (ad b 0) [.u 0,.u 0] (lI (ad a 13) λd=>br (decide (d<0)) (au.j1 K a b true) (lI (ad a 13) λe=>au.j1 K a b (decide (e>255))))))
def dQ(n:OA)(o:LV)(K:VK):WK:=mk o λq=>nn n λr=>lL (r.add 1) λs j t=>(lp [.p (some (ad q 0)),.i 0,.l s j t,.i (j:Int),.i 0] λk v=>∀b f c d g e a h,k [.p (some b),.i f,.l c d g,.i e,.i a] h->(br (decide (a<e)) (fO c d a 33 λw=>ah w 33 λx=>mk bg λm=>aI 33 (ad m 0) x (ah (ad m 16) 2 λy=>ah b 2 λz=>nr [.u 0,.u 0] y z λA=>br A (K (.i a)) ((ct k v [.p (some b),.i f,.l c d g,.i e,.i (adP.wrap (a+1))] [.p (some b),.i f,.l c d g,.i e,.i a] h)))) (K (.i (-1)))) h)
def ia(c d:LV)(K:VK):WK:=mk c λa=>mk d λb=>lI (ad a 13) λe=>a8 ((2:Int)≠0) (st (ad a 13) (.i (adP.wrap (e.tdiv (2:Int)))) (lI (ad b 13) λf=>a8 ((2:Int)≠0) (st (ad b 13) (.i (adP.wrap (f.tdiv (2:Int)))) (ah (ad a 0) 16 λg=>ah (ad b 0) 16 λh=>nr fe g h λj=>br j (K (.i 10)) (K (.i 11))))))
def fj(j k:LV)(K:VK):WK:=mk j λl=>mk k λm=>(lp [.p (some (ad l 0)),.p (some (ad m 0)),.bool false,.i 127] λf n=>∀c b d a e,f [.p (some c),.p (some b),.bool d,.i a] e->(br (decide (a>=0)) (tick (ah c 2 λo=>ah b 2 λg=>dB o a (xI .i64 λq=>kp b g (dB g a (xI .i64 λr=>br (q !=r) (tick (ah c 2 λs=>ah b 2 λh=>dB s a (xI .i64 λt=>kp b h (dB h a (xI .i64 λu=>K (.bool (decide (t<u)))))))) ((ct f n [.p (some c),.p (some b),.bool d,.i (adP.wrap (a-1))] [.p (some c),.p (some b),.bool d,.i a] e))))))) (K (.bool false))) e)
def bN.j1(K:VK)(a:Nat)(b c d:Int)(e:Bool):WK:=br e (a8 True (a8 (2=2) (gj (ad a 0) [.u 0,.u 0] (ah (ad a 0) 2 λf=>K (.tuple ⟨[.agg ⟨f⟩,.bool false]⟩))))) (a8 (1=1/\(1=1/\True)) (a8 (2=2) (gj (ad a 0) [.u d,.u (IntKind.u64.wrap (b+c))] (ah (ad a 0) 2 λg=>K (.tuple ⟨[.agg ⟨g⟩,.bool true]⟩)))))
def bN(i j:LV)(K:VK):WK:=mk i λc=>mk j λg=>mk [.u 0,.u 0] λf=>lU (ad c 1) λd=>lU (ad g 1) λe=>lU (ad c 0) λa=>lU (ad g 0) λb=>lU (ad c 0) λh=>lU (ad c 1) λk=>br (decide ((IntKind.u64.wrap (d+e))<k)) (br (decide ((IntKind.u64.wrap (a+b))<h)) (bN.j1 K f d e (IntKind.u64.wrap ((IntKind.u64.wrap (a+b))+1)) true) (bN.j1 K f d e (IntKind.u64.wrap ((IntKind.u64.wrap (a+b))+1)) ((IntKind.u64.wrap ((IntKind.u64.wrap (a+b))+1))==0))) (bN.j1 K f d e (IntKind.u64.wrap (a+b)) (decide ((IntKind.u64.wrap (a+b))<h)))
def fL(c d:LV)(K:VK):WK:=mk c λe=>mk d λf=>mk [.u 0,.u 0] λa=>ah (ad e 0) 2 λg=>ah (ad f 0) 2 λh=>bN g h (x2 λi j=>(xA 2 λk=>(xB λn=>mk [.u 0,.u 0] λb=>aI 2 (ad b 0) k (ah (ad b 0) 2 λl=>aI 2 (ad a 0) l (ah (ad a 0) 2 λm=>K (.agg ⟨m⟩)))) j) i)
def aa.T'(K:VK)(a:Addr)(h:LI)(b:Addr)(c:OA)(d e:Nat)(f g:Int)(j:LM)(k:World)(m:Bool):WK:=br m (lI (a.add 12) λn=>a8 ((8:Int)≠0) (st (a.add 12) (.i (adP.wrap ((n.tmod (8:Int))+8))) ((ct h j [.p (some b),.p (some a),.l c d e,.i f,.i (adP.wrap (g+1))] [.p (some b),.p (some a),.l c d e,.i f,.i g] k)))) ((ct h j [.p (some b),.p (some a),.l c d e,.i f,.i (adP.wrap (g+1))] [.p (some b),.p (some a),.l c d e,.i f,.i g] k))
def aa.F4(K:VK)(k:Nat)(a:Addr)(b:LI)(c:Addr)(d:OA)(e f:Nat)(g h:Int)(i:LM)(j:World)(l:Bool):WK:=br l (lI (ad k 32) λm=>br (m==1) (aa.T' K a b c d e f g h i j true) (lI (ad k 32) λn=>aa.T' K a b c d e f g h i j (n==2))) (aa.T' K a b c d e f g h i j false)
def aa.V7(K:VK)(b:Nat)(a:Addr)(c:LI)(d:Addr)(e:OA)(f g:Nat)(h i:Int)(j:LM)(k:World)(l:Nat)(m:Bool):WK:=br m (aa.F4 K b a c d e f g h i j k true) (ah (ad l 0) 16 λn=>aO n 128 (xB λo=>br o (ah (ad l 4) 2 λp=>ah a 2 λq=>nr [.u 0,.u 0] p q λr=>aa.F4 K b a c d e f g h i j k r) (aa.F4 K b a c d e f g h i j k false)))
def aa.j9(K:VK)(a:Nat)(b:Addr)(c:Nat)(d:LI)(e:Addr)(f:OA)(g h:Nat)(i j:Int)(k:LM)(l:World):WK:=ah (ad a 0) 16 λm=>aO m 64 (xB λn=>br n (ah (ad a 2) 2 λo=>ah b 2 λp=>nr [.u 0,.u 0] o p λq=>aa.V7 K c b d e f g h i j k l a q) (aa.V7 K c b d e f g h i j k l a false))
def aa.j8(K:VK)(a:Addr)(b c:Nat)(d:LI)(e:Addr)(f:OA)(g h:Nat)(i j:Int)(k:LM)(l:World)(m:Bool):WK:=br m (ah (a.add 6) 2 λn=>ah (ad b 6) 2 λo=>fL n o (xA 2 λp=>aI 2 (a.add 6) p (aa.j9 K b a c d e f g h i j k l))) (aa.j9 K b a c d e f g h i j k l)
def aa.j7(K:VK)(a b:Nat)(c:Addr)(d:LI)(e:Addr)(f:OA)(g h:Nat)(i j:Int)(k:LM)(l:World):WK:=lI (ad a 32) λm=>br (m==1) (ah (ad b 4) 2 λn=>ah c 2 λo=>nr [.u 0,.u 0] n o λp=>aa.j8 K c b a d e f g h i j k l p) (aa.j8 K c b a d e f g h i j k l false)
def aa.j6(K:VK)(a:Addr)(b c:Nat)(d:LI)(e:Addr)(f:OA)(g h:Nat)(i j:Int)(k:LM)(l:World)(m:Bool):WK:=br m (ah (a.add 2) 2 λn=>ah (ad b 6) 2 λo=>fL n o (xA 2 λp=>aI 2 (a.add 2) p (aa.j7 K c b a d e f g h i j k l))) (aa.j7 K c b a d e f g h i j k l)
def aa.j5(K:VK)(a b:Nat)(c:Addr)(d:LI)(e:Addr)(f:OA)(g h:Nat)(i j:Int)(k:LM)(l:World):WK:=lI (ad a 32) λm=>br (m==1) (ah (ad b 2) 2 λn=>ah c 2 λo=>nr [.u 0,.u 0] n o λp=>aa.j6 K c b a d e f g h i j k l p) (aa.j6 K c b a d e f g h i j k l false)
def aa.j4(K:VK)(a:Addr)(b c:Nat)(d:LI)(e:Addr)(f:OA)(g h:Nat)(i j:Int)(k:LM)(l:World)(m:Bool):WK:=br m (ah (a.add 8) 2 λn=>ah (ad b 6) 2 λo=>fL n o (xA 2 λp=>aI 2 (a.add 8) p (aa.j5 K c b a d e f g h i j k l))) (aa.j5 K c b a d e f g h i j k l)
def aa.j3(K:VK)(m:Bool)(a:Nat)(b:Addr)(c:Nat)(d:LI)(e:Addr)(f:OA)(g h:Nat)(i j:Int)(k:LM)(l:World):WK:=br m (ah (ad a 4) 2 λn=>ah b 2 λo=>nr [.u 0,.u 0] n o λp=>aa.j4 K b a c d e f g h i j k l p) (aa.j4 K b a c d e f g h i j k l false)
def aa.j2(K:VK)(a:Addr)(b:Nat)(c:Bool)(d:Nat)(e:LI)(f:Addr)(g:OA)(h i:Nat)(j k:Int)(l:LM)(m:World)(n:Bool):WK:=br n (ah (a.add 4) 2 λo=>ah (ad b 6) 2 λp=>fL o p (xA 2 λq=>aI 2 (a.add 4) q (aa.j3 K c b a d e f g h i j k l m))) (aa.j3 K c b a d e f g h i j k l m)
def aa.j1(K:VK)(a:Nat)(b:Addr)(d:Nat)(e:LI)(f:Addr)(g:OA)(h i:Nat)(j k:Int)(l:LM)(m:World)(c:Bool):WK:=br c (ah (ad a 2) 2 λn=>ah b 2 λo=>nr [.u 0,.u 0] n o λp=>aa.j2 K b a c d e f g h i j k l m p) (aa.j2 K b a c d e f g h i j k l m false)
def aa(n:OA)(s:Int)(K:VK):WK:=mk cM λt=>nn n λu=>lL u λv w O=>fO v w s 14 λx=>ah x 14 λy=>mk cM λo=>aI 14 (ad o 0) y (nn n λz=>lL (z.add 1) λA q B=>(lp [.p (some (ad t 0)),.p (some (ad o 0)),.l A q B,.i (q:Int),.i 0] λk r=>∀a d e f m g b h,k [.p (some a),.p (some d),.l e f m,.i g,.i b] h->(br (decide (b<g)) (fO e f b 33 λC=>ah C 33 λD=>mk bg λj=>aI 33 (ad j 0) D (ah (ad j 16) 16 λE=>mk fe λc=>aI 16 (ad c 0) E (ah (ad c 0) 16 λF=>aO F 2 (xB λG=>br (!G) (ah (ad c 0) 16 λH=>aO H 8 (xB λI=>aa.j1 K c d j k a e f m g b r h (!I))) (aa.j1 K c d j k a e f m g b r h false))))) (ah d 14 λJ=>aI 14 a J (ah a 14 λM=>K (.agg ⟨M⟩)))) h))
def dE(c:OA)(d:LV)(e:Int)(K:VK):WK:=mk d λf=>dS c (xP λa=>nn a λg=>lL (g.add 1) λh j p=>fO h j e 33 λk=>st (k.add 32) (.i 3) (ah (ad f 0) 2 λl=>cK a l (xI .i64 λm=>aa a m (xA 14 λn=>(λw=>∃b,n[12]?=some b/\(xI .i64 λo=>K (.bool (decide (o>=8)))) b w)))))
def dR(a:OA)(m n:LV)(f:Int)(K:VK):WK:=mk m λe=>mk n λb=>nn a λo=>lI (o.add 3) λp=>nn a λq=>st (q.add 3) (.i (adP.wrap (p+1))) (nn a λr=>lI (r.add 3) λs=>st (ad b 14) (.i s) (nn a λt=>lI (t.add 2) λu=>st (ad b 15) (.i u) (tick (nn a λg=>lL (g.add 1) λh j k=>ah (ad e 0) 16 λc=>ah (ad b 0) 16 λd=>a8 (c.length=16/\(d.length=16/\(1=1/\True))) (a8 ((c++(d++([.i f]:LV))).length=33/\True) (mk ((c++(d++([.i f]:LV)))++[]) λv=>kp (ad b 0) d (kp (ad e 0) c (kp (g.add 1) [.l h j k] (eS 33 264 bg h j k (some ⟨v,0,none⟩) 1 λw x y=>kp (ad b 0) d (kp (ad e 0) c (nn a λz=>st (z.add 1) (.l w x y) (K (.tuple ⟨[]⟩)))))))))))))
def af.j6(K:VK)(c b d:Nat)(e:OA):WK:=ah (ad c 0) 16 λf=>mk fe λa=>aI 16 (ad a 0) f (ah (ad b 2) 2 λg=>aI 2 (ad a 2) g (ah (ad b 4) 2 λh=>aI 2 (ad a 4) h (ah (ad d 0) 2 λj=>aI 2 (ad a 6) j (lI (ad b 11) λk=>st (ad a 11) (.i k) (lI (ad b 12) λl=>st (ad a 12) (.i l) (ah (ad c 0) 16 λm=>ah (ad a 0) 16 λn=>dR e m n 0 (x0 (K (.i 0)))))))))
def af.j5(K:VK)(a:OA)(b:Int)(f:Bool)(c d e:Nat)(g:Bool):WK:=br g (K (.i 31)) (nn a λh=>lL (h.add 1) λs j t=>br (decide ((j:Int)>=96)) (K (.i 35)) (nn a λk=>lL (k.add 1) λl m u=>fO l m b 33 λn=>st (n.add 32) (.i 3) (br f (nn a λo=>lL (o.add 1) λp q v=>fO p q b 33 λr=>st (r.add 32) (.i 2) (af.j6 K c d e a)) (af.j6 K c d e a))))
def af.j4(K:VK)(a:Bool)(b:Nat)(c:OA)(d:Int)(e f:Nat)(g:Bool):WK:=br g (K (.i 30)) (br a (ah (ad b 4) 2 λh=>dE c h d (xB λj=>af.j5 K c d a e b f j)) (af.j5 K c d a e b f false))
def af.j3(K:VK)(a:Bool)(b:Nat)(c:OA)(d:Int)(e f:Nat)(g:Bool):WK:=br g (K (.i 26)) (br a (ah (ad b 2) 2 λh=>dE c h d (xB λj=>af.j4 K a b c d e f j)) (af.j4 K a b c d e f false))
def af.j7(K:VK)(a:Bool)(b:Nat)(d:OA)(e:Int)(f c:Nat)(g:Bool):WK:=br g (af.j3 K a b d e f c true) (br (!a) (ah (ad c 0) 2 λh=>ah (ad b 6) 2 λi=>nr [.u 0,.u 0] h i λj=>af.j3 K a b d e f c (!j)) (af.j3 K a b d e f c false))
def af.j2(K:VK)(a:Bool)(b c:Nat)(d:OA)(e:Int)(f:Nat):WK:=br a (ah (ad b 6) 2 λg=>ah (ad c 0) 2 λh=>fj g h (xB λi=>af.j7 K a b d e f c i)) (af.j7 K a b d e f c false)
def af.j1(K:VK)(b:OA)(c:Int)(d g e:Nat)(h:Bool):WK:=br h (K (.i 25)) (nn b λj=>lL (j.add 1) λk l A=>fO k l c 33 λm=>lI (m.add 32) λn=>br (decide (n>1)) (nn b λo=>lL (o.add 1) λp q B=>fO p q c 33 λr=>lI (r.add 32) λs=>K (.i (adP.wrap (25+s)))) (ah (ad d 0) 16 λt=>aO t 4 (xB λf=>ah (ad d 6) 2 λv=>mk [.u 0,.u 0] λa=>aI 2 (ad a 0) v (ah (ad a 0) 2 λw=>ah (ad g 0) 2 λx=>nr [.u 0,.u 0] w x λy=>br y (ah (ad e 6) 2 λz=>aI 2 (ad a 0) z (af.j2 K f e a b c d)) (af.j2 K f e a b c d)))))
def af.F4(K:VK)(c:OA)(d:Int)(a e b:Nat)(f:Bool):WK:=br f (af.j1 K c d a e b true) (lI (ad a 12) λg=>br (g !=0) (lI (ad a 12) λh=>lI (ad b 12) λi=>af.j1 K c d a e b (h !=i)) (af.j1 K c d a e b false))
def af.j9(K:VK)(c:OA)(d:Int)(a e b:Nat)(f:Bool):WK:=br f (af.F4 K c d a e b true) (lI (ad a 11) λg=>br (g !=0) (lI (ad a 11) λh=>lI (ad b 11) λi=>af.F4 K c d a e b (h !=i)) (af.F4 K c d a e b false))
def af.j8(K:VK)(d:OA)(e:Int)(a b c:Nat)(f:Bool):WK:=br f (af.j9 K d e a b c true) (ah (ad a 4) 2 λg=>ah (ad b 0) 2 λh=>nr [.u 0,.u 0] g h λi=>br (!i) (ah (ad a 4) 2 λj=>ah (ad c 4) 2 λk=>nr [.u 0,.u 0] j k λl=>af.j9 K d e a b c (!l)) (af.j9 K d e a b c false))
def af(b:OA)(m:LV)(K:VK):WK:=mk m λa=>ah (ad a 0) 16 λn=>au n (xI .i64 λf=>br (f !=0) (K (.i f)) (ah (ad a 0) 16 λo=>dI o (xB λp=>br (!p) (K (.i 6)) (ah (ad a 0) 2 λq=>dQ b q (xI .i64 λg=>br (decide (g>=0)) (tick (ah (ad a 0) 16 λr=>nn b λh=>lL (h.add 1) λj k s=>fO j k g 33 λt=>ah t 16 λv=>ia r v (xI .i64 λw=>kp (h.add 1) [.l j k s] (K (.i w))))) (ah (ad a 8) 2 λx=>dQ b x (xI .i64 λd=>br (decide (d<0)) (K (.i 23)) (nn b λy=>lL (y.add 1) λz A O=>fO z A d 33 λB=>ah (B.add 16) 16 λC=>mk fe λc=>aI 16 (ad c 0) C (a8 True (mk [.u 0,.u 0] λe=>a8 (2=2) (gj (ad e 0) [.u 0,.u 0] (ah (ad c 0) 16 λD=>aO D 2 (xB λE=>br (!E) (K (.i 24)) (ah (ad a 2) 2 λF=>ah (ad e 0) 2 λG=>nr [.u 0,.u 0] F G λH=>br (!H) (ah (ad a 2) 2 λI=>ah (ad c 2) 2 λJ=>nr [.u 0,.u 0] I J λM=>af.j8 K b d a e c (!M)) (af.j8 K b d a e c false)))))))))))))))
def hU(d e:LV)(K:VK):WK:=mk d λb=>mk e λc=>mk [.u 0,.u 0] λa=>ah (ad b 0) 2 λf=>ah (ad c 0) 2 λg=>fj f g (xB λh=>br h (ah (ad b 0) 2 λi=>aI 2 (ad a 0) i (ah (ad a 0) 2 λj=>K (.agg ⟨j⟩))) (ah (ad c 0) 2 λk=>aI 2 (ad a 0) k (ah (ad a 0) 2 λl=>K (.agg ⟨l⟩))))
def kn(K:VK):WK:=mk [.u 0,.u 0] λa=>a8 (1=1/\(1=1/\True)) (a8 (2=2) (gj (ad a 0) [.u 18446744073709551615,.u 18446744073709551615] (ah (ad a 0) 2 λb=>K (.agg ⟨b⟩))))
def kW(d:LV)(a:Int)(K:VK):WK:=mk d λb=>mk [.u 0,.u 0] λc=>br (decide (a>=64)) (lU (ad b 0) λe=>a8 ((0:Int)<=(IntKind.u64.wrap (adP.wrap (a-64)))) (lU (ad b 1) λf=>a8 (1=1/\(1=1/\True)) (a8 (2=2) (gj (ad c 0) [.u (IntKind.u64.wrap (e+(shl .u64 1 (IntKind.u64.wrap (adP.wrap (a-64)))))),.u f] (ah (ad c 0) 2 λg=>K (.agg ⟨g⟩)))))) (lU (ad b 0) λh=>lU (ad b 1) λi=>a8 ((0:Int)<=(IntKind.u64.wrap a)) (a8 (1=1/\(1=1/\True)) (a8 (2=2) (gj (ad c 0) [.u h,.u (IntKind.u64.wrap (i+(shl .u64 1 (IntKind.u64.wrap a))))] (ah (ad c 0) 2 λj=>K (.agg ⟨j⟩))))))
def c8.j1(K:VK)(a:Addr)(b:Int)(g:LI)(c d e:Addr)(f:Bool)(h:LM)(j:Int)(k:World)(l m:Int):WK:=br (m==1) (ah a 2 λn=>kW n b (xA 2 λo=>aI 2 a o ((ct g h [.p (some c),.p (some d),.p (some e),.bool f,.p (some a),.i l,.i (adP.wrap (b+1))] [.p (some c),.p (some d),.p (some e),.bool f,.p (some a),.i j,.i b] k)))) ((ct g h [.p (some c),.p (some d),.p (some e),.bool f,.p (some a),.i l,.i (adP.wrap (b+1))] [.p (some c),.p (some d),.p (some e),.bool f,.p (some a),.i j,.i b] k))
def c8(t v:LV)(K:VK):WK:=mk t λn=>mk v λo=>mk [.u 0,.u 0] λh=>ah (ad n 0) 2 λw=>ah (ad o 0) 2 λx=>fj w x (xB λy=>br y (a8 True (a8 (2=2) (gj (ad h 0) [.u 0,.u 0] (ah (ad h 0) 2 λz=>K (.tuple ⟨[.agg ⟨z⟩,.bool false]⟩))))) (a8 True (mk [.u 0,.u 0] λq=>a8 (2=2) (gj (ad q 0) [.u 0,.u 0] ((lp [.p (some (ad n 0)),.p (some (ad o 0)),.p (some (ad h 0)),.bool false,.p (some (ad q 0)),.i 0,.i 0] λj r=>∀e c d k f a b g,j [.p (some e),.p (some c),.p (some d),.bool k,.p (some f),.i a,.i b] g->(br (decide (b<128)) (tick (ah e 2 λA=>ah c 2 λs=>dB A b (xI .i64 λl=>kp c s (dB s b (xI .i64 λm=>br (decide ((adP.wrap ((adP.wrap (l-m)) -a))<0)) (c8.j1 K f b j e c d k r a g 1 (adP.wrap ((adP.wrap ((adP.wrap (l-m)) -a))+2))) (c8.j1 K f b j e c d k r a g 0 (adP.wrap ((adP.wrap (l-m)) -a)))))))) (ah f 2 λB=>aI 2 d B (ah d 2 λC=>K (.tuple ⟨[.agg ⟨C⟩,.bool true]⟩)))) g))))))
def bO.j2(K:VK)(c d a:Nat):WK:=ah (ad c 0) 2 λe=>ah (ad d 0) 2 λf=>c8 e f (x2 λg h=>(xA 2 λi=>(xB λl=>mk [.u 0,.u 0] λb=>aI 2 (ad b 0) i (ah (ad b 0) 2 λj=>aI 2 (ad a 0) j (ah (ad a 0) 2 λk=>K (.agg ⟨k⟩)))) h) g)
def bO.j1(K:VK)(d e b c:Nat):WK:=ah (ad d 0) 2 λf=>ah (ad e 0) 2 λg=>bN f g (x2 λh i=>(xA 2 λj=>(xB λk=>mk [.u 0,.u 0] λa=>aI 2 (ad a 0) j (br (!k) (kn (xA 2 λl=>aI 2 (ad a 0) l (bO.j2 K b a c))) (bO.j2 K b a c))) i) h)
def bO(f:LV)(g:Bool)(K:VK):WK:=mk f λa=>mk [.u 0,.u 0] λe=>ah (ad a 4) 2 λh=>mk [.u 0,.u 0] λb=>aI 2 (ad b 0) h (ah (ad a 6) 2 λi=>mk [.u 0,.u 0] λc=>aI 2 (ad c 0) i (ah (ad a 8) 2 λj=>mk [.u 0,.u 0] λd=>aI 2 (ad d 0) j (br g (ah (ad a 8) 2 λk=>aI 2 (ad b 0) k (ah (ad a 2) 2 λl=>aI 2 (ad c 0) l (ah (ad a 4) 2 λm=>aI 2 (ad d 0) m (bO.j1 K c d b e)))) (bO.j1 K c d b e))))
def aQ.j4(K:VK)(e:Bool)(c a d b:Nat):WK:=br e (ah (ad c 0) 2 λf=>aI 2 (ad a 2) f (ah (ad d 0) 2 λg=>aI 2 (ad a 4) g (ah (ad a 0) 14 λh=>aI 14 (ad b 0) h (ah (ad b 0) 14 λj=>K (.tuple ⟨[.agg ⟨j⟩,.i 0]⟩))))) (ah (ad c 0) 2 λk=>aI 2 (ad a 6) k (ah (ad d 0) 2 λl=>aI 2 (ad a 8) l (ah (ad a 0) 14 λm=>aI 14 (ad b 0) m (ah (ad b 0) 14 λn=>K (.tuple ⟨[.agg ⟨n⟩,.i 0]⟩)))))
def aQ.j3(K:VK)(e:Bool)(b a:Nat)(g:Bool)(c f d:Nat)(h:Bool):WK:=br h (br e (ah (ad b 0) 14 λj=>aI 14 (ad a 0) j (ah (ad a 0) 14 λk=>K (.tuple ⟨[.agg ⟨k⟩,.i 33]⟩))) (ah (ad b 0) 14 λl=>aI 14 (ad a 0) l (ah (ad a 0) 14 λm=>K (.tuple ⟨[.agg ⟨m⟩,.i 34]⟩)))) (br g (ah (ad c 0) 2 λn=>ah (ad f 0) 2 λo=>bN n o (x2 λp q=>(xA 2 λr=>(xB λx=>aI 2 (ad c 0) r (aQ.j4 K e c b d a)) q) p)) (ah (ad d 0) 2 λs=>ah (ad f 0) 2 λt=>bN s t (x2 λu v=>(xA 2 λw=>(xB λy=>aI 2 (ad d 0) w (aQ.j4 K e c b d a)) v) u)))
def aQ.j2(K:VK)(a b:Nat)(k:Int)(c:Nat)(d f:Bool)(g h:Nat)(l:Bool):WK:=br l (ah (ad a 0) 14 λm=>aI 14 (ad b 0) m (ah (ad b 0) 14 λn=>K (.tuple ⟨[.agg ⟨n⟩,.i 32]⟩))) (tick (lI (ad a 12) λe=>br ((bB .i64 .and e k)!=0) (ah (ad a 0) 14 λo=>ah (ad c 0) 2 λj=>bO o d (xA 2 λp=>kp (ad c 0) j (kp (ad a 12) [.i e] (fj p j (xB λq=>kp (ad a 12) [.i e] (aQ.j3 K d a b f g c h q)))))) (aQ.j3 K d a b f g c h false)))
def aQ.j1(K:VK)(a b c d e:Nat)(f g:Bool)(h:Int):WK:=ah (ad a 0) 2 λj=>ah (ad b 0) 2 λk=>bN j k (x2 λl m=>(xA 2 λn=>(xB λo=>mk [.u 0,.u 0] λi=>aI 2 (ad i 0) n (ah (ad i 0) 2 λp=>ah (ad c 0) 2 λq=>bN p q (x2 λr s=>(xA 2 λt=>(xB λv=>mk [.u 0,.u 0] λw=>aI 2 (ad w 0) t (br (!o) (aQ.j2 K d e h c f g a b true) (aQ.j2 K d e h c f g a b (!v)))) s) r))) m) l)
def aQ(h:LV)(d:Bool)(i:LV)(e:Bool)(K:VK):WK:=mk h λa=>mk i λf=>mk cM λg=>ah (ad a 6) 2 λj=>mk [.u 0,.u 0] λb=>aI 2 (ad b 0) j (ah (ad a 8) 2 λk=>mk [.u 0,.u 0] λc=>aI 2 (ad c 0) k (br d (ah (ad a 2) 2 λl=>aI 2 (ad b 0) l (ah (ad a 4) 2 λm=>aI 2 (ad c 0) m (aQ.j1 K b c f a g d e 2))) (aQ.j1 K b c f a g d e 4)))
def aN.j3(K:VK)(a h c j:Nat)(e:OA):WK:=ah (ad a 0) 16 λk=>aO k 2 (xB λd=>ah (ad h 0) 14 λl=>ah (ad c 0) 2 λm=>aQ l true m d (x2 λn o=>(xA 14 λz=>(xI .i64 λf=>br (f !=0) (K (.i f)) (ah (ad j 0) 14 λp=>ah (ad c 0) 2 λq=>aQ p false q d (x2 λr s=>(xA 14 λA=>(xI .i64 λg=>br (g !=0) (K (.i g)) (ah (ad a 0) 16 λt=>mk fe λb=>aI 16 (ad b 0) t (ah (ad c 0) 2 λu=>aI 2 (ad b 6) u (br d (ah (ad a 0) 16 λv=>ah (ad b 0) 16 λw=>dR e v w 1 (x0 (K (.i 0)))) (ah (ad a 0) 16 λx=>ah (ad b 0) 16 λy=>dR e x y 0 (x0 (K (.i 0)))))))) s) r))) o) n))
def aN.j2(K:VK)(b a c g d:Nat)(e:OA):WK:=ah (ad b 0) 16 λh=>aO h 32 (xB λj=>br j (tick (ah (ad a 0) 2 λf=>ah (ad c 0) 14 λk=>bO k false (xA 2 λl=>kp (ad a 0) f (hU f l (xA 2 λm=>aI 2 (ad a 0) m (ah (ad a 0) 2 λn=>ah (ad g 0) 2 λo=>nr [.u 0,.u 0] n o λp=>br p (K (.i 34)) (aN.j3 K b d a c e))))))) (aN.j3 K b d a c e))
def aN.j1(K:VK)(b a c d e:Nat)(f:OA):WK:=ah (ad b 0) 16 λh=>aO h 16 (xB λj=>br j (tick (ah (ad a 0) 2 λg=>ah (ad c 0) 14 λk=>bO k true (xA 2 λl=>kp (ad a 0) g (hU g l (xA 2 λm=>aI 2 (ad a 0) m (ah (ad a 0) 2 λn=>ah (ad d 0) 2 λo=>nr [.u 0,.u 0] n o λp=>br p (K (.i 33)) (aN.j2 K b a e d c f))))))) (aN.j2 K b a e d c f))
def aN(b:OA)(p:LV)(K:VK):WK:=mk p λa=>ah (ad a 0) 16 λq=>au q (xI .i64 λg=>br (g !=0) (K (.i g)) (ah (ad a 0) 16 λr=>dI r (xB λs=>br s (K (.i 6)) (ah (ad a 0) 2 λt=>dQ b t (xI .i64 λh=>br (decide (h>=0)) (tick (ah (ad a 0) 16 λv=>nn b λj=>lL (j.add 1) λk m w=>fO k m h 33 λx=>ah x 16 λy=>ia v y (xI .i64 λz=>kp (j.add 1) [.l k m w] (K (.i z))))) (ah (ad a 2) 2 λA=>cK b A (xI .i64 λn=>ah (ad a 4) 2 λB=>cK b B (xI .i64 λo=>br (decide (n<0)) (K (.i 19)) (br (decide (o<0)) (K (.i 20)) (aa b n (xA 14 λC=>mk cM λc=>aI 14 (ad c 0) C (aa b o (xA 14 λD=>mk cM λd=>aI 14 (ad d 0) D (lI (ad c 10) λE=>lI (ad d 10) λF=>br (E !=F) (K (.i 21)) (lI (ad c 10) λG=>lI (ad a 11) λH=>br (G !=H) (K (.i 22)) (lI (ad c 12) λI=>br (decide (I>=8)) (K (.i 30)) (lI (ad d 12) λJ=>br (decide (J>=8)) (K (.i 31)) (nn b λM=>lL (M.add 1) λT O V=>br (decide ((O:Int)>=96)) (K (.i 35)) (a8 True (mk [.u 0,.u 0] λf=>a8 (2=2) (gj (ad f 0) [.u 0,.u 0] (ah (ad a 6) 2 λP=>mk [.u 0,.u 0] λe=>aI 2 (ad e 0) P (ah (ad e 0) 2 λQ=>ah (ad f 0) 2 λR=>nr [.u 0,.u 0] Q R λS=>br S (a8 (1=1/\(1=1/\True)) (a8 (2=2) (gj (ad e 0) [.u 18446744073709551615,.u 18446744073709551615] (aN.j1 K a e c f d b)))) (aN.j1 K a e c f d b))))))))))))))))))))))))
def fr.j1(K:VK)(a:Nat)(b:OA)(c:Bool):WK:=br c (ah (ad a 15) 16 λd=>af b d (xI .i64 λe=>K (.i e))) (ah (ad a 15) 16 λf=>aN b f (xI .i64 λg=>K (.i g)))
def fr(b:OA)(c:LV)(K:VK):WK:=mk c λa=>lT (ad a 0) λd=>br d (ah (ad a 1) 14 λe=>gK b e (xI .i64 λf=>K (.i f))) (ah (ad a 15) 16 λg=>au g (xI .i64 λh=>br (h==0) (ah (ad a 15) 16 λj=>dI j (xB λk=>fr.j1 K a b k)) (fr.j1 K a b false)))
def aW.j3(K:VK)(u:LI)(v:LM)(w x:OA)(y z:Nat)(A B:OA)(C D:Nat)(E:Int)(F:World)(H I:OA)(J M:Nat)(O P:OA)(Q R:Nat)(G S T V:Int)(W:OA):WK:=(lp [.p H,.l I J M,.p O,.l P Q R,.i G,.i S,.i T,.i V,.p W,.i G] λs t=>∀m c d e f g h j q a b n o k r,s [.p m,.l c d e,.p f,.l g h j,.i q,.i a,.i b,.i n,.p o,.i k] r->(br (decide (k<=a)) (br (decide (b<0)) (a8 (1=1/\True) (mk [.i 0] λX=>eS 1 8 [.i 0] g h j (some ⟨X,0,none⟩) 1 λY Z HB=>(ct s t [.p m,.l c d e,.p f,.l Y Z HB,.i q,.i a,.i b,.i n,.p o,.i (adP.wrap (k+1))] [.p m,.l c d e,.p f,.l g h j,.i q,.i a,.i b,.i n,.p o,.i k] r))) (br (k==b) (a8 (1=1/\True) (mk [.i n] λr2=>eS 1 8 [.i 0] g h j (some ⟨r2,0,none⟩) 1 λaah aad aaf=>(ct s t [.p m,.l c d e,.p f,.l aah aad aaf,.i q,.i a,.i b,.i n,.p o,.i (adP.wrap (k+1))] [.p m,.l c d e,.p f,.l g h j,.i q,.i a,.i b,.i n,.p o,.i k] r))) (a8 (1=1/\True) (mk [.i 1] λr3=>eS 1 8 [.i 0] g h j (some ⟨r3,0,none⟩) 1 λaag aac aae=>(ct s t [.p m,.l c d e,.p f,.l aag aac aae,.i q,.i a,.i b,.i n,.p o,.i (adP.wrap (k+1))] [.p m,.l c d e,.p f,.l g h j,.i q,.i a,.i b,.i n,.p o,.i k] r))))) (br (decide (b<0)) ((ct u v [.p o,.l c d e,.p f,.l g h j,.i (adP.wrap (a+1))] [.p w,.l x y z,.p A,.l B C D,.i E] F)) ((ct u v [.p m,.l c d e,.p f,.l g h j,.i (adP.wrap (a+1))] [.p w,.l x y z,.p A,.l B C D,.i E] F)))) r)
def aW.j4(K:VK)(v:OA)(w:Nat)(a:Int)(b:OA)(s:LI)(c d:OA)(e f:Nat)(g h:OA)(j k:Nat)(m n:Int)(t:LM)(o q:Int)(u:World)(x:LI)(y:LM)(z A:OA)(B C:Nat)(D E:OA)(F G:Nat)(H:Int)(I:World)(J:Bool):WK:=br J (fO v w a 31 λM=>ah M 31 λO=>fr b O (xI .i64 λr=>br (r !=0) ((ct s t [.p c,.l d e f,.p g,.l h j k,.i m,.i n,.i a,.i r,.p b,.i (adP.wrap (a+1))] [.p c,.l d e f,.p g,.l h j k,.i m,.i n,.i o,.i q,.p b,.i a] u)) ((ct s t [.p c,.l d e f,.p g,.l h j k,.i m,.i n,.i o,.i r,.p b,.i (adP.wrap (a+1))] [.p c,.l d e f,.p g,.l h j k,.i m,.i n,.i o,.i q,.p b,.i a] u)))) (aW.j3 K x y z A B C D E F G H I c d e f g h j k m n o q b)
def aW.j2(K:VK)(t M:OA)(O P:Nat)(Q R:OA)(S T:Nat)(u:Int)(v:OA)(w:Nat)(x:LI)(y:LM)(z A:OA)(B C:Nat)(D E:OA)(F G:Nat)(H:Int)(I:World)(V W X:Int):WK:=dS t (xP λY=>(lp [.p t,.l M O P,.p Q,.l R S T,.i u,.i V,.i W,.i X,.p Y,.i u] λe J=>∀f g h j k m n o q a b r s c d,e [.p f,.l g h j,.p k,.l m n o,.i q,.i a,.i b,.i r,.p s,.i c] d->(br (decide (c<=a)) (aW.j4 K v w c s e f g h j k m n o q a J b r d x y z A B C D E F G H I (decide (b<0))) (aW.j4 K v w c s e f g h j k m n o q a J b r d x y z A B C D E F G H I false)) d))
def aW.j1(K:VK)(a:Nat)(b:OA)(c:LI)(d:LM)(e f:OA)(g h:Nat)(i j:OA)(k l:Nat)(m:Int)(n:World)(o p:OA)(q r:Nat)(s t:OA)(u v:Nat)(w x:Int):WK:=br (x==(a:Int)) (aW.j2 K o p q r s t u v w b a c d e f g h i j k l m n (adP.wrap ((a:Int) -1)) (adP.wrap ((a:Int) -1)) 2) (aW.j2 K o p q r s t u v w b a c d e f g h i j k l m n x (-1) 0)
def aW(D y:OA)(c I:Nat)(K:VK):WK:=(lp [.p D,.l none 0 0,.p none,.l none 0 0,.i 0] λz B=>∀d t u v w e f g b x,z [.p d,.l t u v,.p w,.l e f g,.i b] x->(br (decide (b<(c:Int))) ((lp [.p d,.l t u v,.p w,.l e f g,.i b,.i b] λC E=>∀h j k m n o q r s a A,C [.p h,.l j k m,.p n,.l o q r,.i s,.i a] A->(br (decide (a<(c:Int))) (fO y c a 31 λF=>ah F 31 λG=>jn G (xB λH=>br H ((ct C E [.p h,.l j k m,.p n,.l o q r,.i s,.i (adP.wrap (a+1))] [.p h,.l j k m,.p n,.l o q r,.i s,.i a] A)) (aW.j1 K c y z B d t u v w e f g b x h j k m n o q r s a))) (aW.j1 K c y z B d t u v w e f g b x h j k m n o q r s a)) A)) (K (.tuple ⟨[.l e f g,.p d]⟩))) x)
def eJ.j1(K:VK)(a b:OA)(c d:Nat):WK:=aW a b c d (x2 λe f=>(xL λg h j=>(xP λk=>K (.tuple ⟨[.l g h j,.i 0,.p k]⟩)) f) e)
def eJ(b:OA)(d:LV)(K:VK):WK:=mk d λa=>ah (ad a 0) 13 λe=>bY e (xB λf=>br (!f) (K (.tuple ⟨[.l none 0 0,.i 1,.p b]⟩)) (lI (ad a 0) λg=>br (g==3) (dS b (xP λc=>lI (ad a 3) λh=>gI c h (x0 (K (.tuple ⟨[.l none 0 0,.i 0,.p c]⟩))))) (lL (ad a 1) λj k m=>iv j k m (xL λn o q=>lI (ad a 0) λr=>br (r==2) (lL (ad a 2) λs t u=>gY s t u (xL λv w x=>eJ.j1 K b v w x)) (eJ.j1 K b n o q)))))
def iu(S:OA)(M T:Nat)(V:OA)(O W:Nat)(K:VK):WK:=(lp [.l none 0 0,.l none 0 0,.l V O W,.i (O:Int),.i 0] λP X=>∀D E F w x y z A G B t H,P [.l D E F,.l w x y,.l z A G,.i B,.i t] H->(br (decide (t<B)) (fO z A t 2 λY=>ah Y 2 λZ=>mk [.u 0,.u 0] λQ=>aI 2 (ad Q 0) Z ((lp [.l D E F,.l w x y,.p (some (ad Q 0)),.l z A G,.i B,.i t,.l S M T,.i (M:Int),.i 0] λI R=>∀b c d e f g h j k m n o q r v s a C,I [.l b c d,.l e f g,.p (some h),.l j k m,.i n,.i o,.l q r v,.i s,.i a] C->(br (decide (a<s)) (fO q r a 14 λa3=>ah a3 14 λOi=>mk cM λJ=>aI 14 (ad J 0) Oi (ah (ad J 0) 2 λY4=>ah h 2 λVj=>nr [.u 0,.u 0] Y4 Vj λb1=>br b1 (ah (ad J 0) 14 λRt=>EW 14 Rt λr3=>eS 14 112 cM e f g (some ⟨r3,0,none⟩) 1 λM4 MY HB=>(ct I R [.l b c d,.l M4 MY HB,.p (some h),.l j k m,.i n,.i o,.l q r v,.i s,.i (adP.wrap (a+1))] [.l b c d,.l e f g,.p (some h),.l j k m,.i n,.i o,.l q r v,.i s,.i a] C)) ((ct I R [.l b c d,.l e f g,.p (some h),.l j k m,.i n,.i o,.l q r v,.i s,.i (adP.wrap (a+1))] [.l b c d,.l e f g,.p (some h),.l j k m,.i n,.i o,.l q r v,.i s,.i a] C)))) ((ct P X [.l b c d,.l e f g,.l j k m,.i n,.i (adP.wrap (o+1))] [.l D E F,.l w x y,.l z A G,.i B,.i t] H))) C))) (K (.l w x y))) H)
def gX(S:OA)(M T:Nat)(V:OA)(O W:Nat)(K:VK):WK:=(lp [.l none 0 0,.l none 0 0,.l V O W,.i (O:Int),.i 0] λP X=>∀D E F w x y z A G B t H,P [.l D E F,.l w x y,.l z A G,.i B,.i t] H->(br (decide (t<B)) (fO z A t 2 λY=>ah Y 2 λZ=>mk [.u 0,.u 0] λQ=>aI 2 (ad Q 0) Z ((lp [.l D E F,.l w x y,.p (some (ad Q 0)),.l z A G,.i B,.i t,.l S M T,.i (M:Int),.i 0] λI R=>∀b c d e f g h j k m n o q r v s a C,I [.l b c d,.l e f g,.p (some h),.l j k m,.i n,.i o,.l q r v,.i s,.i a] C->(br (decide (a<s)) (fO q r a 33 λa3=>ah a3 33 λOi=>mk bg λJ=>aI 33 (ad J 0) Oi (ah (ad J 16) 2 λY4=>ah h 2 λVj=>nr [.u 0,.u 0] Y4 Vj λb1=>br b1 (ah (ad J 16) 16 λRt=>EW 16 Rt λr3=>eS 16 128 fe e f g (some ⟨r3,0,none⟩) 1 λM4 MY HB=>(ct I R [.l b c d,.l M4 MY HB,.p (some h),.l j k m,.i n,.i o,.l q r v,.i s,.i (adP.wrap (a+1))] [.l b c d,.l e f g,.p (some h),.l j k m,.i n,.i o,.l q r v,.i s,.i a] C)) ((ct I R [.l b c d,.l e f g,.p (some h),.l j k m,.i n,.i o,.l q r v,.i s,.i (adP.wrap (a+1))] [.l b c d,.l e f g,.p (some h),.l j k m,.i n,.i o,.l q r v,.i s,.i a] C)))) ((ct P X [.l b c d,.l e f g,.l j k m,.i n,.i (adP.wrap (o+1))] [.l D E F,.l w x y,.l z A G,.i B,.i t] H))) C))) (K (.l w x y))) H)
def aM.j3(K:VK)(o:Nat)(a:OA)(b c:Nat)(k:LI)(d:Addr)(e:OA)(f g:Nat)(h j:Int)(m:LM)(n:World)(q:Bool):WK:=br q (ah (ad o 0) 16 λr=>EW 16 r λs=>eS 16 128 fe a b c (some ⟨s,0,none⟩) 1 λt u v=>(ct k m [.p (some d),.l e f g,.l t u v,.i h,.i (adP.wrap (j+1))] [.p (some d),.l e f g,.l a b c,.i h,.i j] n)) ((ct k m [.p (some d),.l e f g,.l a b c,.i h,.i (adP.wrap (j+1))] [.p (some d),.l e f g,.l a b c,.i h,.i j] n))
def aM.j4(K:VK)(b:Nat)(c:OA)(d e:Nat)(f:LI)(a:Addr)(g:OA)(h i:Nat)(j k:Int)(l:LM)(m:World)(n:Bool):WK:=br n (aM.j3 K b c d e f a g h i j k l m true) (lT (a.add 5) λo=>br o (ah (ad b 4) 2 λp=>ah a 2 λq=>nr [.u 0,.u 0] p q λr=>aM.j3 K b c d e f a g h i j k l m r) (aM.j3 K b c d e f a g h i j k l m false))
def aM.j2(K:VK)(k:LI)(a:Addr)(b:OA)(c d:Nat)(e:OA)(f g:Nat)(h j:Int)(m:LM)(n:World)(o:Nat)(q:Bool):WK:=br q ((ct k m [.p (some a),.l b c d,.l e f g,.i h,.i (adP.wrap (j+1))] [.p (some a),.l b c d,.l e f g,.i h,.i j] n)) (lT (a.add 4) λr=>br r (ah (ad o 2) 2 λs=>ah a 2 λt=>nr [.u 0,.u 0] s t λv=>aM.j4 K o e f g k a b c d h j m n v) (aM.j4 K o e f g k a b c d h j m n false))
def aM.j5(K:VK)(c:LI)(a:Addr)(d:OA)(e f:Nat)(g:OA)(b h:Nat)(i j:Int)(k:LM)(l:World)(m:Nat)(n:Bool):WK:=br n (aM.j2 K c a d e f g b h i j k l m true) (lI (a.add 7) λo=>aM.j2 K c a d e f g b h i j k l m (decide ((b:Int)>=o)))
def aM.j1(K:VK)(n:Nat)(a:Addr)(c:LI)(d:OA)(e f:Nat)(g:OA)(h i:Nat)(j k:Int)(l:LM)(m:World):WK:=ah (ad n 16) 16 λo=>mk fe λb=>aI 16 (ad b 0) o (lI (ad b 14) λp=>lI (a.add 2) λq=>br (decide (p<q)) (aM.j2 K c a d e f g h i j k l m b true) (lI (a.add 3) λr=>br (r !=0) (lI (ad b 14) λs=>lI (a.add 3) λt=>aM.j5 K c a d e f g h i j k l m b (decide (s>t))) (aM.j5 K c a d e f g h i j k l m b false)))
def aM(q:OA)(b z:Nat)(s:LV)(K:VK):WK:=mk s λt=>(lp [.p (some (ad t 0)),.l none 0 0,.l none 0 0,.i (b:Int),.i 0] λk r=>∀c m n o d e f g a h,k [.p (some c),.l m n o,.l d e f,.i g,.i a] h->(br (decide (a<g)) (fO q b a 33 λu=>ah u 33 λv=>mk bg λj=>aI 33 (ad j 0) v (lT (c.add 6) λw=>br w (fO q b (adP.wrap ((adP.wrap ((b:Int) -1)) -a)) 33 λx=>ah x 33 λy=>aI 33 (ad j 0) y (aM.j1 K j c k m n o d e f g a r h)) (aM.j1 K j c k m n o d e f g a r h))) (K (.l d e f))) h)
def jS(e:OA)(f g:Nat)(b:OA)(c d:Nat)(h:LV)(K:VK):WK:=mk h λa=>ah (ad a 0) 13 λj=>aA j (xB λk=>br (!k) (K (.tuple ⟨[.l none 0 0,.l none 0 0,.i 1]⟩)) (lI (ad a 0) λm=>br (m==4) (lL (ad a 4) λn o p=>iu e f g n o p (xL λq r s=>K (.tuple ⟨[.l q r s,.l none 0 0,.i 0]⟩))) (lI (ad a 0) λt=>br (t==5) (lL (ad a 4) λu v w=>gX b c d u v w (xL λx y z=>K (.tuple ⟨[.l none 0 0,.l x y z,.i 0]⟩))) (ah (ad a 5) 8 λA=>aM b c d A (xL λB C D=>K (.tuple ⟨[.l none 0 0,.l B C D,.i 0]⟩))))))
def dN(k:OA)(K:VK):WK:=nn k λn=>lL n λv o w=>(lp [.l none 0 0,.l none 0 0,.i (o:Int),.i 0] λm p=>∀f g h b c d e a j,m [.l f g h,.l b c d,.i e,.i a] j->(br (decide (a<e)) (aa k a (xA 14 λq=>EW 14 q λr=>eS 14 112 cM b c d (some ⟨r,0,none⟩) 1 λs t u=>(ct m p [.l f g h,.l s t u,.i e,.i (adP.wrap (a+1))] [.l f g h,.l b c d,.i e,.i a] j))) (K (.l b c d))) j)
def eE.j1(K:VK)(j:Nat)(n o:OA)(p k:Nat)(q r:OA)(s:Nat)(t:Bool):WK:=br t (K (.bool false)) ((lp [.bool false,.i (j:Int),.i 0] λl u=>∀c d a f,l [.bool c,.i d,.i a] f->(br (decide (a<d)) (tick (fO n j a 14 λv=>ah v 14 λw=>fO o p a 14 λx=>ah x 14 λy=>nr cM w y λz=>br (!z) (K (.bool false)) ((ct l u [.bool c,.i d,.i (adP.wrap (a+1))] [.bool c,.i d,.i a] f)))) ((lp [.bool c,.i (k:Int),.i 0] λm A=>∀g e b h,m [.bool g,.i e,.i b] h->(br (decide (b<e)) (tick (fO q k b 16 λB=>ah B 16 λC=>fO r s b 16 λD=>ah D 16 λE=>nr fe C E λF=>br (!F) (K (.bool false)) ((ct m A [.bool g,.i e,.i (adP.wrap (b+1))] [.bool g,.i e,.i b] h)))) (K (.bool true))) h))) f))
def eE(e:OA)(a i:Nat)(f:OA)(b j:Nat)(g:OA)(c k:Nat)(h:OA)(d l:Nat)(K:VK):WK:=br ((a:Int)!=(b:Int)) (eE.j1 K a e f b c g h d true) (eE.j1 K a e f b c g h d ((c:Int)!=(d:Int)))
def km(h:OA)(c p:Nat)(j:OA)(f q:Nat)(K:VK):WK:=br ((c:Int)!=(f:Int)) (K (.bool false)) ((lp [.bool false,.i (c:Int),.i 0] λg k=>∀d b a e,g [.bool d,.i b,.i a] e->(br (decide (a<b)) (tick (fO h c a 1 λl=>lI l λm=>fO j f a 1 λn=>lI n λo=>br (m !=o) (K (.bool false)) ((ct g k [.bool d,.i b,.i (adP.wrap (a+1))] [.bool d,.i b,.i a] e)))) (K (.bool true))) e))
def bu.j1(K:VK)(j:Nat)(k o:OA)(l:Nat)(p:OA)(q:Bool):WK:=br q (K (.bool false)) ((lp [.bool false,.i (j:Int),.i 0] λm r=>∀c d a f,m [.bool c,.i d,.i a] f->(br (decide (a<d)) (tick (nn k λs=>lL s λt u J=>fO t u a 14 λv=>ah v 14 λw=>fO o j a 14 λx=>ah x 14 λy=>nr cM w y λz=>br (!z) (K (.bool false)) ((ct m r [.bool c,.i d,.i (adP.wrap (a+1))] [.bool c,.i d,.i a] f)))) ((lp [.bool c,.i (l:Int),.i 0] λn A=>∀g e b h,n [.bool g,.i e,.i b] h->(br (decide (b<e)) (tick (nn k λB=>lL (B.add 1) λC D M=>fO C D b 33 λE=>ah E 33 λF=>fO p l b 33 λG=>ah G 33 λH=>nr bg F H λI=>br (!I) (K (.bool false)) ((ct n A [.bool g,.i e,.i (adP.wrap (b+1))] [.bool g,.i e,.i b] h)))) (K (.bool true))) h))) f))
def bu.j3(K:VK)(b:Nat)(a c:OA)(d:Nat)(e:OA)(f:Int)(g:Bool):WK:=br g (bu.j1 K b a c d e true) (nn a λh=>lI (h.add 3) λi=>bu.j1 K b a c d e (i !=f))
def bu.j2(K:VK)(b:Nat)(a c:OA)(d:Nat)(e:OA)(f g:Int)(h:Bool):WK:=br h (bu.j3 K b a c d e f true) (nn a λi=>lI (i.add 2) λj=>bu.j3 K b a c d e f (j !=g))
def bu(a d:OA)(b l:Nat)(e:OA)(c m:Nat)(f g:Int)(K:VK):WK:=nn a λh=>lL h λn i o=>br ((i:Int)!=(b:Int)) (bu.j2 K b a d c e g f true) (nn a λj=>lL (j.add 1) λp k q=>bu.j2 K b a d c e g f ((k:Int)!=(c:Int)))
def gJ(a k:OA)(m n:Nat)(o:OA)(p q:Nat)(r s:Int)(K:VK):WK:=tick (nn a λb=>lL (b.add 1) λc d e=>nn a λf=>lI (f.add 2) λg=>nn a λh=>lI (h.add 3) λj=>dN a (xL λt u v=>kp (h.add 3) [.i j] (kp (f.add 2) [.i g] (kp (b.add 1) [.l c d e] (a8 (1=1/\(1=1/\(1=1/\(1=1/\True)))) (mk [.l t u v,.l c d e,.i g,.i j] λw=>kp (h.add 3) [.i j] (kp (f.add 2) [.i g] (kp (b.add 1) [.l c d e] (bu (some (ad w 0)) k m n o p q r s (xB λx=>K (.bool x)))))))))))
def rU(b:OA)(f:LV)(K:VK):WK:=mk f λc=>mk EY λa=>br (b.isNone) (a8 (1=1/\True) (a8 (4=4) (gj (ad a 0) [.i 2,.l none 0 0,.l none 0 0,.l none 0 0] (ah (ad a 0) 4 λg=>K (.agg ⟨g⟩))))) (ah (ad c 0) 13 λh=>pg h (xB λj=>br (!j) (a8 (1=1/\True) (a8 (4=4) (gj (ad a 0) [.i 1,.l none 0 0,.l none 0 0,.l none 0 0] (ah (ad a 0) 4 λk=>K (.agg ⟨k⟩))))) (mk EY λd=>lI (ad c 0) λe=>br (e==1) (lL (ad c 1) λm n o=>nM b m n o (xL λp q r=>st (ad d 1) (.l p q r) (ir b (x0 (ah (ad d 0) 4 λs=>aI 4 (ad a 0) s (ah (ad a 0) 4 λt=>K (.agg ⟨t⟩))))))) (br (e==2) (lL (ad c 2) λu v w=>mQ b u v w (xL λx y z=>st (ad d 1) (.l x y z) (ir b (x0 (ah (ad d 0) 4 λA=>aI 4 (ad a 0) A (ah (ad a 0) 4 λB=>K (.agg ⟨B⟩))))))) (lI (ad c 3) λC=>pS b C (xI .i64 λF=>ir b (x0 (ah (ad d 0) 4 λD=>aI 4 (ad a 0) D (ah (ad a 0) 4 λE=>K (.agg ⟨E⟩))))))))))
def eL.j1(K:VK)(k:Nat)(a:OA)(m:LI)(b:OA)(c:Int)(d:Addr)(e:OA)(f g:Nat)(h j:Int)(n:LM)(o:World)(q:Bool):WK:=br q (K (.tuple ⟨[.p none,.i 4]⟩)) (ah (ad k 0) 13 λr=>rU a r (xA 4 λs=>(ct m n [.p b,.i c,.p a,.p (some d),.l e f g,.i h,.i (adP.wrap (j+1))] [.p b,.i c,.p a,.p (some d),.l e f g,.i h,.i j] o)))
def eL(a:OA)(K:VK):WK:=br (a.isNone) (K (.tuple ⟨[.p none,.i 2]⟩)) (dk a (xI .i64 λz=>pF z (x2 λA B=>(xA 5 λC=>(xI .i64 λs=>mk zi5 λb=>aI 5 (ad b 0) C (br (s !=0) (K (.tuple ⟨[.p none,.i s]⟩)) (ah (ad b 0) 5 λD=>so a D (x3 λE F G=>(xP λt=>(xA 4 λH=>(xI .i64 λu=>mk Z1 λk=>aI 4 (ad k 0) H (br (u !=0) (K (.tuple ⟨[.p none,.i u]⟩)) (lI (ad b 3) λI=>lI (ad b 4) λJ=>lI (ad k 3) λM=>gT a I J M (x3 λO P Q=>(xP λR=>(xL λS v T=>(xI .i64 λw=>br (w !=0) (K (.tuple ⟨[.p none,.i w]⟩)) (ah (ad b 0) 5 λx=>lI (ad k 0) λV=>a8 (1=1/\(x.length=5/\(1=1/\(1=1/\(1=1/\True))))) (mk (([.p a]:LV)++(x++([.p t,.p R,.i V,.bool false]:LV))) λW=>(lp [.p none,.i 0,.p t,.p (some (ad W 0)),.l S v T,.i (v:Int),.i 0] λm y=>∀n o q d e f r g c h,m [.p n,.i o,.p q,.p (some d),.l e f r,.i g,.i c] h->(br (decide (c<g)) (fO e f c 1 λX=>lS X λY=>iU Y (x2 λZ v10=>(xA 13 λRt=>(xI .i64 λSv=>mk lv λj=>aI 13 (ad j 0) Rt (br (Sv !=0) (eL.j1 K j q m n o d e f r g c y h true) (ah (ad j 0) 13 λY2=>mL Y2 (xB λb2=>eL.j1 K j q m n o d e f r g c y h (!b2))))) v10) Z)) (K (.tuple ⟨[.p (some d),.i 0]⟩))) h)))) Q) P) O)))) G) F) E)))) B) A)))
def dJ(b:OA)(f:LV)(K:VK):WK:=mk f λc=>mk EY λa=>br (b.isNone) (a8 (1=1/\True) (a8 (4=4) (gj (ad a 0) [.i 2,.l none 0 0,.l none 0 0,.l none 0 0] (ah (ad a 0) 4 λg=>K (.agg ⟨g⟩))))) (ah (ad c 0) 13 λh=>mL h (xB λj=>br (!j) (tick (nn b λk=>lP (k.add 6) λm=>ah (ad c 0) 13 λn=>Ey m n (xA 4 λo=>aI 4 (ad a 0) o (ah (ad a 0) 4 λp=>K (.agg ⟨p⟩))))) (ah (ad c 0) 13 λq=>sj q (x2 λr s=>(xS λt=>(xI .i64 λd=>br (d !=0) (a8 (1=1/\True) (a8 (4=4) (gj (ad a 0) [.i d,.l none 0 0,.l none 0 0,.l none 0 0] (ah (ad a 0) 4 λu=>K (.agg ⟨u⟩))))) (nn b λv=>lT (v.add 9) λw=>br w (a8 (1=1/\True) (a8 (4=4) (gj (ad a 0) [.i 9,.l none 0 0,.l none 0 0,.l none 0 0] (ah (ad a 0) 4 λx=>K (.agg ⟨x⟩))))) (fB b t (xI .i64 λe=>br (e !=0) (a8 (1=1/\True) (a8 (4=4) (gj (ad a 0) [.i e,.l none 0 0,.l none 0 0,.l none 0 0] (ah (ad a 0) 4 λy=>K (.agg ⟨y⟩))))) (tick (nn b λz=>lP (z.add 6) λA=>ah (ad c 0) 13 λB=>rU A B (xA 4 λC=>aI 4 (ad a 0) C (ah (ad a 0) 4 λD=>K (.agg ⟨D⟩))))))))) s) r))))
def cB.j1(K:VK)(a:OA)(b:Bool):WK:=br b (jF a (xP λc=>iq c (xI .i64 λd=>br (d==5) (jx a (xI .i64 λe=>K (.bool (e==1)))) (K (.bool false))))) (K (.bool false))
def cB(K:VK):WK:=jL 20 (xP λa=>eL a (x2 λd e=>(xP λf=>(xI .i64 λg=>br (g !=0) (K (.bool false)) (a8 (1=1/\(1=1/\True)) (dJ f [.i 3,.l none 0 0,.l none 0 0,.i 5,.l none 0 0,.u 0,.u 0,.i 0,.i 0,.bool false,.bool false,.bool false,.i 0] (xA 4 λh=>mk EY λb=>aI 4 (ad b 0) h (eL a (x2 λj k=>(xP λc=>(xI .i64 λm=>lI (ad b 0) λn=>br (n==0) (cB.j1 K c (m==0)) (cB.j1 K c false)) k) j)))))) e) d))
def eQ(n:OA)(g o:Nat)(K:VK):WK:=(lp [.bool false,.i 0,.l n g o,.i (g:Int),.i 0] λm p=>∀h b c d j e a k,m [.bool h,.i b,.l c d j,.i e,.i a] k->(br (decide (a<e)) (fO c d a 18 λq=>ah q 18 λr=>mk jB λf=>aI 18 (ad f 0) r (lL (ad f 2) λv s w=>lL (ad f 3) λx t y=>lL (ad f 5) λz u A=>br (decide ((u:Int)>100)) (K (.bool true)) ((ct m p [.bool h,.i (adP.wrap (b+(adP.wrap ((s:Int)+(t:Int))))),.l c d j,.i e,.i (adP.wrap (a+1))] [.bool h,.i b,.l c d j,.i e,.i a] k)))) (br (decide ((g:Int)>60)) (K (.bool true)) (K (.bool (decide (b>150)))))) k)
def av.j1(K:VK)(a:OA)(b:Bool):WK:=K (.tuple ⟨[.bool b,.p a]⟩)
def av.j2(K:VK)(b:Nat)(a:OA)(c:Bool):WK:=br c (lL (ad b 1) λe d f=>av.j1 K a ((d:Int)==0)) (av.j1 K a false)
def av.j3(K:VK)(a:OA)(b:Bool):WK:=K (.tuple ⟨[.bool b,.p a]⟩)
def av.j4(K:VK)(a:OA)(b:Bool):WK:=K (.tuple ⟨[.bool b,.p a]⟩)
def av.j5(K:VK)(a:Nat)(b:OA)(c:Bool):WK:=br c (lL (ad a 1) λg d h=>lL (ad a 2) λi e j=>lL (ad a 3) λk f l=>K (.tuple ⟨[.bool ((adP.wrap ((adP.wrap ((d:Int)+(e:Int)))+(f:Int)))==0),.p b]⟩)) (K (.tuple ⟨[.bool false,.p b]⟩))
def av.j6(K:VK)(a:Nat)(b:OA)(c:Bool):WK:=br c (av.j5 K a b true) (lI (ad a 0) λd=>br (d==6) (av.j5 K a b true) (lI (ad a 0) λe=>av.j5 K a b (e==3)))
def av(j:LV)(b:OA)(k:LV)(K:VK):WK:=mk j λa=>mk k λc=>ah (ad c 0) 13 λm=>eG m (xB λn=>br (!n) (tick (nn b λd=>lL (d.add 1) λe f g=>ah (ad c 0) 13 λh=>dN b (xL λo p q=>kp (ad c 0) h (kp (d.add 1) [.l e f g] (jS o p q e f g h (x3 λr s t=>(xL λu v w=>(xL λx y z=>(xI .i64 λA=>lI (ad a 0) λB=>br (B==A) (lL (ad a 2) λC D E=>lL (ad a 3) λF G H=>eE C D E u v w F G H x y z (xB λI=>av.j2 K a b I)) (av.j2 K a b false)) t) s) r)))))) (ah (ad c 0) 13 λJ=>da J (xB λM=>br (!M) (lI (ad a 0) λO=>br (O==1) (lL (ad a 1) λsb8 P sc8=>av.j3 K b ((P:Int)==0)) (av.j3 K b false)) (ah (ad c 0) 13 λQ=>eJ b Q (x3 λR S T=>(xL λV W X=>(xI .i64 λY=>(xP λi=>lI (ad a 0) λZ=>br (Z==0) (br (Y==0) (lL (ad a 1) λM4 MY HB=>km M4 MY HB V W X (xB λb8=>av.j4 K i b8)) (av.j4 K i false)) (lI (ad a 0) λn6=>br (n6==8) (av.j6 K a b true) (lI (ad a 0) λn9=>av.j6 K a b (n9==9)))) T) S) R)))))
def cQ(b c:OA)(K:VK):WK:=jF b (xP λa=>fQ a (xL λd e f=>im a (xL λg h i=>iq a (xI .i64 λj=>jQ a (xI .i64 λk=>gJ c d e f g h i j k (xB λl=>K (.bool l)))))))
def bP.j1(K:VK)(B C:Int)(D:OA)(y E:Nat)(F:Bool):WK:=br F (K (.bool true)) (jL B (xP λG=>eL G (x2 λH I=>(xP λJ=>(xI .i64 λn3=>a8 True (mk IQ λM=>(lp [.bool false,.p J,.p (some (ad M 0)),.i C,.i 0] λz O=>∀v m n q r w,z [.bool v,.p m,.p n,.i q,.i r] w->(br (decide (r<q)) ((lp [.bool v,.p m,.p n,.i q,.i r,.l D y E,.i (y:Int),.i 0] λs x=>∀c a j d e f g k h b o,s [.bool c,.p a,.p j,.i d,.i e,.l f g k,.i h,.i b] o->(br (decide (b<h)) (fO f g b 18 λP=>ah P 18 λQ=>mk jB λt=>aI 18 (ad t 0) Q (lI (ad t 0) λR=>br (R !=0) ((ct s x [.bool c,.p a,.p j,.i d,.i e,.l f g k,.i h,.i (adP.wrap (b+1))] [.bool c,.p a,.p j,.i d,.i e,.l f g k,.i h,.i b] o)) (ah (ad t 1) 13 λS=>dJ a S (xA 4 λT=>mk EY λu=>aI 4 (ad u 0) T (ah (ad u 0) 4 λV=>ah (ad t 1) 13 λW=>av V j W (x2 λX Y=>(xB λZ=>(xP λA=>br (!Z) (K (.bool false)) (lI (ad u 0) λT3=>br (T3 !=0) (lI (ad u 0) λSv=>br (Sv !=1) (K (.bool false)) ((ct s x [.bool c,.p a,.p A,.i d,.i e,.l f g k,.i h,.i (adP.wrap (b+1))] [.bool c,.p a,.p j,.i d,.i e,.l f g k,.i h,.i b] o))) ((ct s x [.bool c,.p a,.p A,.i d,.i e,.l f g k,.i h,.i (adP.wrap (b+1))] [.bool c,.p a,.p j,.i d,.i e,.l f g k,.i h,.i b] o)))) Y) X)))))) ((ct z O [.bool c,.p a,.p j,.i d,.i (adP.wrap (e+1))] [.bool v,.p m,.p n,.i q,.i r] w))) o)) (cQ m n (xB λb6=>br b6 (cF m (xI .i64 λL0=>br (L0==0) (cQ m n (xB λb7=>K (.bool b7))) (K (.bool false)))) (K (.bool false))))) w))) I) H)))
def bP.j3(K:VK)(b a:Int)(c:OA)(d e:Nat)(f:Bool):WK:=br f (bP.j1 K b a c d e true) (br (decide (a<1)) (bP.j1 K b a c d e true) (bP.j1 K b a c d e (decide (a>3))))
def bP.j2(K:VK)(a b:Int)(c:OA)(d e:Nat)(f:Bool):WK:=br f (bP.j3 K a b c d e true) (bP.j3 K a b c d e (decide (a>700)))
def bP(a:Int)(b:OA)(c d:Nat)(e:Int)(K:VK):WK:=cB (xB λf=>br (!f) (K (.bool false)) (eQ b c d (xB λg=>br g (bP.j2 K a e b c d true) (bP.j2 K a e b c d (decide (a<600))))))
def ao.j3(K:VK)(b a:OA)(h:LI)(c:Bool)(d:OA)(e f g:Int)(j:LM)(k:OA)(l:World)(m:Bool):WK:=br m (K (.bool false)) (cQ b a (xB λn=>br (!n) (K (.bool false)) ((ct h j [.bool c,.p d,.p b,.p a,.i e,.i f,.i (adP.wrap (g+1))] [.bool c,.p d,.p k,.p a,.i e,.i f,.i g] l))))
def ao.j2(K:VK)(a c:OA)(d:LI)(e:Bool)(f:OA)(g b h:Int)(i:LM)(j:OA)(k:World)(l:Bool):WK:=br l (ao.j3 K a c d e f g b h i j k true) (jx a (xI .i64 λm=>ao.j3 K a c d e f g b h i j k (m !=b)))
def ao.j1(K:VK)(E:Int)(F:OA)(z G:Nat)(H:Int)(I:Bool):WK:=br I (K (.bool true)) (jL E (xP λA=>eL A (x2 λJ M=>(xP λO=>(xI .i64 λn3=>a8 True (mk IQ λP=>(lp [.bool false,.p A,.p O,.p (some (ad P 0)),.l F z G,.i (z:Int),.i 0] λu B=>∀c d a e f g j h b o,u [.bool c,.p d,.p a,.p e,.l f g j,.i h,.i b] o->(br (decide (b<h)) (fO f g b 18 λQ=>ah Q 18 λR=>mk jB λk=>aI 18 (ad k 0) R (lI (ad k 0) λS=>br (S==0) (tick (ah (ad k 1) 13 λT=>ah (ad k 1) 13 λC=>dJ a T (xA 4 λV=>kp (ad k 1) C (av V e C (x2 λW X=>(xB λb4=>(xP λY=>(ct u B [.bool c,.p d,.p a,.p Y,.l f g j,.i h,.i (adP.wrap (b+1))] [.bool c,.p d,.p a,.p e,.l f g j,.i h,.i b] o)) X) W))))) ((ct u B [.bool c,.p d,.p a,.p e,.l f g j,.i h,.i (adP.wrap (b+1))] [.bool c,.p d,.p a,.p e,.l f g j,.i h,.i b] o)))) (gL a (xI .i64 λZ=>jx a (xI .i64 λn8=>(lp [.bool c,.p d,.p a,.p e,.i Z,.i n8,.i 1] λv D=>∀w q m r s x n t,v [.bool w,.p q,.p m,.p r,.i s,.i x,.i n] t->(br (decide (n<=H)) (cF m (xI .i64 λSv=>br (Sv !=0) (K (.bool false)) (eL q (x2 λv5 v6=>(xP λy=>(xI .i64 λL0=>br (L0 !=0) (ao.j2 K y r v w q s x n D m t true) (gL y (xI .i64 λV1=>ao.j2 K y r v w q s x n D m t (V1 !=(adP.wrap (s+n)))))) v6) v5)))) (cQ m r (xB λb9=>K (.bool b9)))) t))))) o))) M) J)))
def ao.j5(K:VK)(b:Int)(c:OA)(d e:Nat)(a:Int)(f:Bool):WK:=br f (ao.j1 K b c d e a true) (br (decide (a<0)) (ao.j1 K b c d e a true) (ao.j1 K b c d e a (decide (a>5))))
def ao.j4(K:VK)(a:Int)(b:OA)(c d:Nat)(e:Int)(f:Bool):WK:=br f (ao.j5 K a b c d e true) (ao.j5 K a b c d e (decide (a>700)))
def ao(a:Int)(b:OA)(c d:Nat)(e:Int)(K:VK):WK:=cB (xB λf=>br (!f) (K (.bool false)) (eQ b c d (xB λg=>br g (ao.j4 K a b c d e true) (ao.j4 K a b c d e (decide (a<600))))))
def aU.j2(K:VK)(q:Nat)(m:LI)(a:Bool)(b c d:OA)(e:Int)(f:OA)(g h:Nat)(j k:Int)(n:LM)(o:World)(r:Bool):WK:=br r (lI (ad q 0) λs=>br (s !=9) (K (.bool false)) ((ct m n [.bool a,.p b,.p c,.p d,.i e,.l f g h,.i j,.i (adP.wrap (k+1))] [.bool a,.p b,.p c,.p d,.i e,.l f g h,.i j,.i k] o))) ((ct m n [.bool a,.p b,.p c,.p d,.i e,.l f g h,.i j,.i (adP.wrap (k+1))] [.bool a,.p b,.p c,.p d,.i e,.l f g h,.i j,.i k] o))
def aU.j1(K:VK)(M O:Int)(P:OA)(F Q:Nat)(R:OA)(G S:Nat)(T:Bool):WK:=br T (K (.bool true)) (jL M (xP λA=>eL A (x2 λV W=>(xP λX=>(xI .i64 λn3=>a8 True (mk IQ λY=>ov A O (x0 ((lp [.bool false,.p A,.p X,.p (some (ad Y 0)),.l P F Q,.i (F:Int),.i 0] λs B=>∀d b a e f g k h c n,s [.bool d,.p b,.p a,.p e,.l f g k,.i h,.i c] n->(br (decide (c<h)) (fO f g c 18 λZ=>ah Z 18 λcs1=>mk jB λo=>aI 18 (ad o 0) cs1 (lI (ad o 0) λH=>br (H==0) (tick (ah (ad o 1) 13 λOi=>ah (ad o 1) 13 λI=>dJ a Oi (xA 4 λVj=>kp (ad o 1) I (av Vj e I (x2 λv3 v4=>(xB λb4=>(xP λp6=>(ct s B [.bool d,.p b,.p a,.p p6,.l f g k,.i h,.i (adP.wrap (c+1))] [.bool d,.p b,.p a,.p e,.l f g k,.i h,.i c] n)) v4) v3))))) (br (H==1) (cF a (xI .i64 λn7=>(ct s B [.bool d,.p b,.p a,.p e,.l f g k,.i h,.i (adP.wrap (c+1))] [.bool d,.p b,.p a,.p e,.l f g k,.i h,.i c] n))) ((ct s B [.bool d,.p b,.p a,.p e,.l f g k,.i h,.i (adP.wrap (c+1))] [.bool d,.p b,.p a,.p e,.l f g k,.i h,.i c] n))))) (iV a (xB λb5=>br (!b5) (K (.bool true)) (ou b (xI .i64 λn8=>(lp [.bool d,.p b,.p a,.p e,.i n8,.l R G S,.i (G:Int),.i 0] λC J=>∀D t m q u v w E x r y,C [.bool D,.p t,.p m,.p q,.i u,.l v w E,.i x,.i r] y->(br (decide (r<x)) (fO v w r 13 λa2=>ah a2 13 λRt=>mk lv λj=>aI 13 (ad j 0) Rt (lL (ad j 1) λsb5 Zl Zm=>lL (ad j 2) λZn WQ VT=>lL (ad j 4) λsb7 Zk sc7=>br (decide ((adP.wrap ((adP.wrap ((Zl:Int)+(WQ:Int)))+(Zk:Int)))>100)) (K (.bool true)) (ah (ad j 0) 13 λY3=>dJ m Y3 (xA 4 λcs7=>mk EY λz=>aI 4 (ad z 0) cs7 (ah (ad z 0) 4 λY2=>ah (ad j 0) 13 λcs9=>av Y2 q cs9 (x2 λv5 v6=>(xB λb7=>(xP λp10=>br (!b7) (K (.bool false)) (ah (ad j 0) 13 λacV=>eG acV (xB λb8=>br b8 (ah (ad j 0) 13 λacU=>da acU (xB λb10=>aU.j2 K z C D t m q u v w E x r J y b10)) (aU.j2 K z C D t m q u v w E x r J y false)))) v6) v5)))))) (cF m (xI .i64 λL0=>br (L0==9) (ou t (xI .i64 λV2=>br (V2==u) (cQ m q (xB λb11=>K (.bool b11))) (K (.bool false)))) (K (.bool false))))) y)))))) n))))) W) V)))
def aU.j5(K:VK)(b a:Int)(c:OA)(d e:Nat)(f:OA)(g h:Nat)(i:Bool):WK:=br i (aU.j1 K b a c d e f g h true) (br (decide (a<1)) (aU.j1 K b a c d e f g h true) (aU.j1 K b a c d e f g h (decide (a>1000))))
def aU.j4(K:VK)(b c:Int)(d:OA)(e f:Nat)(g:OA)(a h:Nat)(i:Bool):WK:=br i (aU.j5 K b c d e f g a h true) (aU.j5 K b c d e f g a h (decide ((a:Int)>20)))
def aU.j3(K:VK)(a b:Int)(c:OA)(d e:Nat)(f:OA)(g h:Nat)(i:Bool):WK:=br i (aU.j4 K a b c d e f g h true) (aU.j4 K a b c d e f g h (decide (a>700)))
def aU(a:Int)(b:OA)(c d:Nat)(e:Int)(f:OA)(g h:Nat)(K:VK):WK:=cB (xB λi=>br (!i) (K (.bool false)) (eQ b c d (xB λj=>br j (aU.j3 K a e b c d f g h true) (aU.j3 K a e b c d f g h (decide (a<12))))))
def aj.j4(K:VK)(j:LI)(a:Bool)(b k h c:OA)(d e:Nat)(f g:Int)(m:LM)(n o q:OA)(r:World)(s:Nat)(t:OA)(u:Bool):WK:=br u ((ct j m [.bool a,.p b,.p k,.p h,.p h,.l c d e,.i f,.i (adP.wrap (g+1))] [.bool a,.p b,.p n,.p o,.p q,.l c d e,.i f,.i g] r)) (lI (ad s 0) λv=>br (v==2) ((ct j m [.bool a,.p b,.p k,.p h,.p h,.l c d e,.i f,.i (adP.wrap (g+1))] [.bool a,.p b,.p n,.p o,.p q,.l c d e,.i f,.i g] r)) ((ct j m [.bool a,.p b,.p k,.p h,.p t,.l c d e,.i f,.i (adP.wrap (g+1))] [.bool a,.p b,.p n,.p o,.p q,.l c d e,.i f,.i g] r)))
def aj.j3(K:VK)(a:OA)(b:LI)(c:Bool)(d e f:OA)(g h:Nat)(i j:Int)(k:LM)(l m n:OA)(o:World)(p:Nat)(q:OA)(r:Bool):WK:=br r (iV a (xB λs=>aj.j4 K b c d a e f g h i j k l m n o p q (!s))) (aj.j4 K b c d a e f g h i j k l m n o p q false)
def aj.j2(K:VK)(a:Nat)(d:LI)(e:Bool)(f g:OA)(h i:Nat)(j k:Int)(l:LM)(m n o:OA)(p:World)(b c q:OA):WK:=cQ b c (xB λr=>br (!r) (K (.bool false)) (lI (ad a 0) λs=>br (s==0) (ah (ad a 1) 13 λt=>eG t (xB λu=>aj.j3 K b d e f c g h i j k l m n o p a q u)) (aj.j3 K b d e f c g h i j k l m n o p a q false)))
def aj.j5(K:VK)(p b:Nat)(c:OA)(e:LI)(f:Bool)(g h:OA)(i j:Nat)(k l:Int)(m:LM)(a d:OA)(n:World)(o:OA)(q:Bool):WK:=br q (K (.bool false)) (lI (ad p 0) λr=>br (r==8) (ah (ad b 1) 13 λs=>eJ c s (x3 λt u v=>(xL λx y z=>(xI .i64 λA=>(xP λw=>aj.j2 K b e f g h i j k l m a c d n a o w) v) u) t)) (aj.j2 K b e f g h i j k l m a c d n a o d))
def aj.j7(K:VK)(a:OA)(d:Int)(p:Bool)(e:Nat)(f:LI)(g:Bool)(h i:OA)(j k:Nat)(l m:Int)(n:LM)(b c:OA)(o:World)(q:Bool):WK:=br q (K (.bool false)) (iV a (xB λr=>br r (br (!((d==8)==(!p))) (K (.bool false)) (aj.j2 K e f g h i j k l m n a b c o a b c)) (br (!((d==8)==false)) (K (.bool false)) (aj.j2 K e f g h i j k l m n a b c o a b c))))
def aj.j6(K:VK)(b:OA)(a:Int)(c:Bool)(d:Nat)(e:LI)(f:Bool)(g h:OA)(i j:Nat)(k l:Int)(m:LM)(n o:OA)(p:World)(q:Bool):WK:=br q (aj.j7 K b a c d e f g h i j k l m n o p true) (br (a !=0) (br (a !=9) (br (a !=3) (aj.j7 K b a c d e f g h i j k l m n o p (a !=8)) (aj.j7 K b a c d e f g h i j k l m n o p false)) (aj.j7 K b a c d e f g h i j k l m n o p false)) (aj.j7 K b a c d e f g h i j k l m n o p false))
def aj.j1(K:VK)(A:Int)(B:OA)(x C:Nat)(D:Bool):WK:=br D (K (.bool true)) (jL A (xP λy=>eL y (x2 λE F=>(xP λG=>(xI .i64 λH=>br (H !=0) (K (.bool false)) (a8 True (mk IQ λz=>(lp [.bool false,.p y,.p G,.p (some (ad z 0)),.p (some (ad z 0)),.l B x C,.i (x:Int),.i 0] λm q=>∀n e a c d g h o j f k,m [.bool n,.p e,.p a,.p c,.p d,.l g h o,.i j,.i f] k->(br (decide (f<j)) (fO g h f 18 λI=>ah I 18 λJ=>mk jB λb=>aI 18 (ad b 0) J (lI (ad b 0) λs=>br (s==0) (ah (ad b 1) 13 λM=>dJ a M (xA 4 λO=>mk EY λr=>aI 4 (ad r 0) O (ah (ad r 0) 4 λP=>ah (ad b 1) 13 λQ=>av P c Q (x2 λR S=>(xB λT=>(xP λt=>br (!T) (aj.j5 K r b c m n e g h o j f q a d k t true) (iV a (xB λV=>br V (lI (ad r 0) λW=>br (W==0) (ah (ad b 1) 13 λX=>eG X (xB λY=>aj.j5 K r b c m n e g h o j f q a d k t Y)) (aj.j5 K r b c m n e g h o j f q a d k t false)) (aj.j5 K r b c m n e g h o j f q a d k t false)))) S) R)))) (br (s==1) (gL a (xI .i64 λZ=>iV a (xB λv=>cF a (xI .i64 λu=>br (!((u==9)==v)) (aj.j6 K a u v b m n e g h o j f q c d k true) (gL a (xI .i64 λL0=>aj.j6 K a u v b m n e g h o j f q c d k (!((u==0)==(L0==(adP.wrap (Z+1))))))))))) (br (s==2) (lU (ad b 14) λV2=>lI (ad b 15) λV1=>lI (ad b 16) λuA=>qi e V2 V1 uA (x0 (eL e (x2 λv8 v9=>(xP λw=>(xI .i64 λn17=>br (n17 !=0) (K (.bool false)) (cQ w d (xB λb17=>br b17 (aj.j2 K b m n e g h o j f q a c d k w d d) (aj.j2 K b m n e g h o j f q a c d k w c c)))) v9) v8)))) (br (s==3) (lI (ad b 17) λn18=>ov e n18 (x0 (aj.j2 K b m n e g h o j f q a c d k a c d))) (aj.j2 K b m n e g h o j f q a c d k a c d)))))) (K (.bool true))) k)))) F) E)))
def aj(a:Int)(b:OA)(c d:Nat)(K:VK):WK:=cB (xB λe=>br (!e) (K (.bool false)) (eQ b c d (xB λf=>br f (aj.j1 K a b c d true) (br (decide (a<12)) (aj.j1 K a b c d true) (aj.j1 K a b c d (decide (a>700)))))))
end Go.Prog
namespace Go.Up
open Go.Sep Go.Den Go.RowKit Go.Prog Go.Md Go.bC
structure iw where
 op:Int
 ag:List aP
 aT:List Move
 now:Int
 ids:List Nat
 th:Nat
 fP:Int
 rR:Int
 rT:Bool
 pB:Bool
 mJ:Bool
 hI:Int
structure r9 where
 sa:OA
 ca:Nat
 st:OA
 ct:Nat
 si:OA
 ci:Nat
def lV(q:iw):LV:=nm q.th++[.i q.fP,.i q.rR,.bool q.rT,.bool q.pB,.bool q.mJ,.i q.hI]
def dF(q:iw)(s:r9):LV:=[.i q.op,.l s.sa q.ag.length s.ca,.l s.st q.aT.length s.ct,.i q.now,.l s.si q.ids.length s.ci]++lV q
def M'(q:iw)(s:r9):(dF q s).length=13:=rfl
instance{q:iw}{s:r9}:Ln (dF q s) 13:=⟨rfl⟩
instance{q:iw}:Ln (lV q) 8:=⟨rfl⟩
instance{q:iw}{s:r9}:Gt (dF q s) 0 (.i q.op):=⟨rfl⟩
instance{q:iw}{s:r9}:Gt (dF q s) 1 (.l s.sa q.ag.length s.ca):=⟨rfl⟩
instance{q:iw}{s:r9}:Gt (dF q s) 2 (.l s.st q.aT.length s.ct):=⟨rfl⟩
instance{q:iw}{s:r9}:Gt (dF q s) 3 (.i q.now):=⟨rfl⟩
instance{q:iw}{s:r9}:Gt (dF q s) 4 (.l s.si q.ids.length s.ci):=⟨rfl⟩
instance{q:iw}:Gt (lV q) 2 (.i q.fP):=⟨rfl⟩
instance{q:iw}:Gt (lV q) 3 (.i q.rR):=⟨rfl⟩
instance{q:iw}:Gt (lV q) 4 (.bool q.rT):=⟨rfl⟩
instance{q:iw}:Gt (lV q) 5 (.bool q.pB):=⟨rfl⟩
instance{q:iw}:Gt (lV q) 6 (.bool q.mJ):=⟨rfl⟩
instance{q:iw}:Gt (lV q) 7 (.i q.hI):=⟨rfl⟩
instance{L:LH}{X:WK}{r o:Nat}{q:iw}{s:r9}{cs:LV}{f:LV->LH}[i:Lc (Sep.pt r) L cs f][s2:Sub cs o 13 (dF q s)]:Wk L (kp ⟨r,o,none⟩ (dF q s) X) L X:=⟨λ_ h=>Kh (n:=13) h⟩
def tM(q:iw)(s:r9):∀v∈dF q s,v.oneCell'=true:=λv h=>by
 simp[dF,lV,nm] at h;rcases h with rfl|rfl|rfl|rfl|rfl|rfl|rfl|rfl|rfl|rfl|rfl|rfl|rfl<;>rfl
instance{q:iw}{s:r9}:Sub (dF q s) 0 13 (dF q s):=⟨rfl,λj v h=>by rw[adW];exact h⟩
instance{q:iw}{s:r9}:Sub (dF q s) 5 8 (lV q):=⟨rfl,λj v h=>by
 show([_,_,_,_,_]++lV q)[5+j]?=some v
 rw[aes (by simp)];simpa using h⟩
instance{x1 x2 x3 x4 x5 x6 x7 x8 x9 zF zE zD zC:Value}{q:iw}{s:r9}:Wr [x1,x2,x3,x4,x5,x6,x7,x8,x9,zF,zE,zD,zC] 0 (dF q s) (dF q s):=⟨rfl,adY _,tM q s⟩
def nQ.mono{α:Type}{W:World}{R R':LH}{g:α->LV}{e:Nat}{s:OA}{l:List α}[h:Has R R'](hr:nQ W R g e s l):nQ W R' g e s l:=λw hw=>hr w (h.sub hw)
structure lu(W:World)(R:LH)(q:iw)(s:r9):Prop where
 ag:nQ W R ak 14 s.sa q.ag
 aT:nQ W R ai 16 s.st q.aT
 ids:nQ W R nm 2 s.si q.ids
 ca:q.ag.length<=s.ca
 ct:q.aT.length<=s.ct
 ci:q.ids.length<=s.ci
def oZ(e:Int)(rb:OA)(rn rc:Nat)(ab:OA)(an ac:Nat)(tb:OA)(tn tc:Nat):LV:=[.i e,.l rb rn rc,.l ab an ac,.l tb tn tc]
instance{e:Int}{rb ab tb:OA}{rn rc an ac tn tc:Nat}:Ln (oZ e rb rn rc ab an ac tb tn tc) 4:=⟨rfl⟩
instance{e:Int}{rb ab tb:OA}{rn rc an ac tn tc:Nat}:Gt (oZ e rb rn rc ab an ac tb tn tc) 0 (.i e):=⟨rfl⟩
instance{e:Int}{rb ab tb:OA}{rn rc an ac tn tc:Nat}:Gt (oZ e rb rn rc ab an ac tb tn tc) 1 (.l rb rn rc):=⟨rfl⟩
instance{e:Int}{rb ab tb:OA}{rn rc an ac tn tc:Nat}:Gt (oZ e rb rn rc ab an ac tb tn tc) 2 (.l ab an ac):=⟨rfl⟩
instance{e:Int}{rb ab tb:OA}{rn rc an ac tn tc:Nat}:Gt (oZ e rb rn rc ab an ac tb tn tc) 3 (.l tb tn tc):=⟨rfl⟩
def Fs{e:Int}{rb:OA}{rn rc:Nat}{ab:OA}{an ac:Nat}{tb:OA}{tn tc:Nat}:∀v∈oZ e rb rn rc ab an ac tb tn tc,v.oneCell'=true:=λv h=>by
 simp[oZ] at h;rcases h with rfl|rfl|rfl|rfl<;>rfl
instance{x1 x2 x3 x4:Value}{e:Int}{rb:OA}{rn rc:Nat}{ab:OA}{an ac:Nat}{tb:OA}{tn tc:Nat}:Wr [x1,x2,x3,x4] 0 (oZ e rb rn rc ab an ac tb tn tc) (oZ e rb rn rc ab an ac tb tn tc):=⟨rfl,adY _,Fs⟩
instance{x1 x2 x3 x4:Value}{e:Int}{rb:OA}{rn rc:Nat}{ab:OA}{an ac:Nat}{tb:OA}{tn tc:Nat}:Wr [x1,x2,x3,x4] 0 [.i e,.l rb rn rc,.l ab an ac,.l tb tn tc] (oZ e rb rn rc ab an ac tb tn tc):=⟨rfl,adY _,Fs⟩
instance{e:Int}{rb:OA}{rn rc:Nat}{ab:OA}{an ac:Nat}{tb:OA}{tn tc:Nat}:Sub (oZ e rb rn rc ab an ac tb tn tc) 0 4 (oZ e rb rn rc ab an ac tb tn tc):=⟨rfl,λj v h=>by rw[adW];exact h⟩
instance{e:Int}{rb:OA}{rn rc:Nat}{ab:OA}{an ac:Nat}{tb:OA}{tn tc:Nat}:Sub [.i e,.l rb rn rc,.l ab an ac,.l tb tn tc] 0 4 (oZ e rb rn rc ab an ac tb tn tc):=⟨rfl,λj v h=>by rw[adW];exact h⟩
def jt(q:iw):Bool:=
 if q.op=1 then decide (1<=q.ag.length)&&decide (q.ag.length<=8) else if q.op=2 then decide (1<=q.aT.length)&&decide (q.aT.length<=8) else if q.op=3 then decide (0<=q.now)&&decide (q.now<=1099511627776) else false
def dH(q:iw):Bool:=decide (q.op=1\/q.op=2\/q.op=3)
def bo(m:Model):ax:=⟨m.made.map (Md.full m.kept),m.kept,m.clock,m.ae⟩
def oO(m:Model):lX (bo m) m:=⟨rfl,rfl,rfl,rfl⟩
def DN{b:ax}{m:Model}(h:lX b m):b=bo m:=by
 obtain⟨h1,h2,h3,h4⟩:=h;cases b
 simp only at h1 h2 h3 h4;subst h1 h2 h3 h4;rfl
def aH(m:Model)(q:iw):Int×List Int×Model:=
 if jt q=false then(1,[],m)
 else if q.op=1 then(0,eO Model.make wQ q.ag.length m q.ag)
 else if q.op=2 then(0,eO Model.nW wP q.aT.length m q.aT)
 else(0,[],m.time q.now)
def MZ{m:Model}(hg:Md.Ground m)(l:List aP)(n:Nat):(eO ax.make wQ n (bo m) l).1=(eO Model.make wQ n m l).1/\(eO ax.make wQ n (bo m) l).2=bo (eO Model.make wQ n m l).2/\Md.Ground (eO Model.make wQ n m l).2:=by
 obtain⟨h1,h2⟩:=wz (f:=ax.make) (g:=Model.make) (R:=λ(b:ax)(m:Model)=>lX b m/\Md.Ground m) wQ (λs t x h=>h.1.make h.2) n l (bo m) m ⟨oO m,hg⟩;exact⟨h1,DN h2.1,h2.2⟩
def P4{m:Model}(hg:Md.Ground m)(l:List Move)(n:Nat):(eO ax.nW wP n (bo m) l).1=(eO Model.nW wP n m l).1/\(eO ax.nW wP n (bo m) l).2=bo (eO Model.nW wP n m l).2/\Md.Ground (eO Model.nW wP n m l).2:=by
 obtain⟨h1,h2⟩:=wz (f:=ax.nW) (g:=Model.nW) (R:=λ(b:ax)(m:Model)=>lX b m/\Md.Ground m) wP (λs t x h=>h.1.nW h.2) n l (bo m) m ⟨oO m,hg⟩;exact⟨h1,DN h2.1,h2.2⟩
section
variable {W:World} {L R:LH} {K:VK} {X:WK} {p:Nat} {q:iw} {s:r9}
def T.TR{A B C D:HP}(h:T W (D::A::B::C::R) X):T W (A::B::C::D::R) X:=T.perm h (ad1 (l₁:=[A,B,C]) (l₂:=[D])|>.append_right R)
def JV(h:T W L (K (.bool (jt q)))):T W L (pg (dF q s) K):=by
 unfold pg;apply ws;intros;refine bE (λg1=>?_) (λg1=>?_)
 ·have g1:q.op=1:=by simpa using g1
  unfold jt at h;rw[if_pos g1] at h;apply ws;intros;refine dP (λg2=>?_) (λg2=>?_)
  ·rw[decide_eq_true (by omega),aeU] at h;apply ws;intros;refine T.fin (T.dp h) ?_;congr 1;rw[decide_eq_decide];omega
  ·rw[decide_eq_false (by omega),ae3] at h;exact T.dp h
 have g1: ¬q.op=1:=by simpa using g1
 refine bE (λg2=>?_) (λg2=>?_)
 ·have g2:q.op=2:=by simpa using g2
  unfold jt at h;rw[if_neg g1,if_pos g2] at h;apply ws;intros;refine dP (λg2=>?_) (λg2=>?_)
  ·rw[decide_eq_true (by omega),aeU] at h;apply ws;intros;refine T.fin (T.dp h) ?_;congr 1;rw[decide_eq_decide];omega
  ·rw[decide_eq_false (by omega),ae3] at h;exact T.dp h
 have g2: ¬q.op=2:=by simpa using g2
 unfold jt at h;rw[if_neg g1,if_neg g2] at h;refine bE (λg3=>?_) (λg3=>?_)
 ·have g3:q.op=3:=by simpa using g3
  rw[if_pos g3] at h;apply ws;intros;refine dP (λg2=>?_) (λg2=>?_)
  ·rw[decide_eq_true (by omega),aeU] at h;apply ws;intros;exact T.dp h
  ·rw[decide_eq_false (by omega),ae3] at h;exact T.dp h
 have g3: ¬q.op=3:=by simpa using g3
 rw[if_neg g3] at h;exact T.dp h
def yk(h:T W L (K (.bool (dH q)))):T W L (mL (dF q s) K):=by
 unfold mL;unfold dH at h;apply ws;intros;refine bE (λg1=>?_) (λg1=>?_)
 ·have g1:q.op=1:=by simpa using g1
  rw[decide_eq_true (.inl g1)] at h;exact T.dp h
 have g1: ¬q.op=1:=by simpa using g1
 apply ws;intros;refine bE (λg2=>?_) (λg2=>?_)
 ·have g2:q.op=2:=by simpa using g2
  rw[decide_eq_true (.inr (.inl g2))] at h;exact T.dp h
 have g2: ¬q.op=2:=by simpa using g2
 apply ws;intros;refine T.fin (T.dp h) ?_
 congr 1
 rw[aee];simp[g1,g2]
def AD{b:ax}{hs:List C}{f:ax×List C->LH}[i:Lc (bh p) L (b,hs) f](hl:hs.length<1000000)(h:T W (f (b,[])) (K (.tuple ⟨[]⟩))):T W L (ir (some ⟨p,0,none⟩) K):=λw hw=>by
 obtain⟨k,hk,e1⟩:=i.at_;have h1:=hw.focus hk;obtain⟨hg,h2⟩:=h1.and;refine(show T W (cP p (cZ b,hs)::L.eraseIdx k) _ from ?_) w h2;unfold ir;apply ws;intros;refine R4 (p:=p) hl ?_;apply ws;intros;intro w2 Ud;refine h w2 ?_;rw[e1];exact St.nB (A:=bh p (b,hs)) (St.and_intro hg Ud) hk
def Gx(G:pn W){m:Model}(hg:Md.Ground m)(hq:lu W R q s)(hA:q.op=1->∀a∈q.ag,vf a)(hT:q.op=2->∀t∈q.aT,Zg t)
 (h:∀rb rc,Md.Ground (aH m q).2.2->T W (bh p (bo (aH m q).2.2,[])::own rb (aH m q).2.1.length rc 1 ((aH m q).2.1.flatMap I1)::R) (K (.agg ⟨oZ (aH m q).1 rb (aH m q).2.1.length rc none 0 0 none 0 0⟩))):
 T W (bh p (bo m,[])::R) (rU (some ⟨p,0,none⟩) (dF q s) K):=by
 unfold rU
 repeat' first|apply ws;intros|apply wb|with_reducible refine JV ?_|fail
 cases ge:jt q with
 |false=>
  have e:aH m q=(1,[],m):=by unfold aH;rw[if_pos ge]
  rw[e] at h;apply ws;intros;refine T.drop (T.drop ?_);refine eW (e:=1) ?_;exact T.perm (h none 0 hg) (aej.swap _ _ _)
 |true=>
  apply ws;intros;refine bE (λg1=>?_) (λg1=>?_)
  ·have g1:q.op=1:=by simpa using g1
   have e:aH m q=(0,eO Model.make wQ q.ag.length m q.ag):=by unfold aH;rw[if_neg (by rw[ge];decide),if_pos g1]
   rw[e] at h;dsimp only at h;have hlen:1<=q.ag.length/\q.ag.length<=8:=by
    unfold jt at ge;rw[if_pos g1] at ge;simpa using ge
   obtain⟨s1,s2,s3⟩:=MZ hg q.ag q.ag.length;apply ws;intros;refine T.TR ?_;refine TP G (hs:=[]) (R:=_::_::_::R) hq.ag.mono hq.ca (hA g1) ⟨m,oO m,hg⟩ (by omega) (by show 0+_<_;omega) λr cU Hf his XA=>?_;rw[s1,s2];rw[s1] at XA;apply ws;intros;refine AD (p:=p) (by have:cU.length<=0+_:=Hf;omega) ?_;apply ws;intros;have:=h (some ⟨r,0,none⟩) q.ag.length s3;rw[XA] at this;refine T.sub this ?_;exact nh
  have g1: ¬q.op=1:=by simpa using g1
  refine bE (λg2=>?_) (λg2=>?_)
  ·have g2:q.op=2:=by simpa using g2
   have e:aH m q=(0,eO Model.nW wP q.aT.length m q.aT):=by unfold aH;rw[if_neg (by rw[ge];decide),if_neg g1,if_pos g2]
   rw[e] at h;dsimp only at h;have hlen:1<=q.aT.length/\q.aT.length<=8:=by
    unfold jt at ge;rw[if_neg g1,if_pos g2] at ge;simpa using ge
   obtain⟨s1,s2,s3⟩:=P4 hg q.aT q.aT.length;apply ws;intros;refine T.TR ?_;refine TO G (hs:=[]) (R:=_::_::_::R) hq.aT.mono hq.ct (hT g2) ⟨m,oO m,hg⟩ (by omega) (by show 0+_<_;omega) λr cU Hf his XA=>?_;rw[s1,s2];rw[s1] at XA;apply ws;intros;refine AD (p:=p) (by have:cU.length<=0+_:=Hf;omega) ?_;apply ws;intros;have:=h (some ⟨r,0,none⟩) q.aT.length s3;rw[XA] at this;refine T.sub this ?_;exact nh
  ·have g2: ¬q.op=2:=by simpa using g2
   have g3:q.op=3/\0<=q.now/\q.now<=1099511627776:=by
    unfold jt at ge;rw[if_neg g1,if_neg g2] at ge;by_cases g3:q.op=3
    ·rw[if_pos g3] at ge;exact⟨g3,by simpa using ge⟩
    ·rw[if_neg g3] at ge;cases ge
   have e:aH m q=(0,[],m.time q.now):=by unfold aH;rw[if_neg (by rw[ge];decide),if_neg g1,if_neg g2]
   rw[e] at h;dsimp only at h;apply ws;intros;refine T.TR ?_;intro w hw;refine⟨W,_::_::_::R,p,bo m,m,[],rfl,hw,oO m,hg,by simp,λn b' cU w' uU Hj XF Ue=>?_⟩;have hb:=DN uU;subst hb;refine T.at ?_ Ue;apply ws;intros;refine AD (p:=p) (by omega) ?_;apply ws;intros;have:=h none 0 Hj;refine eW (e:=1) (T.HE ?_);refine T.sub this ?_
   repeat (first|exact ad7.refl _|apply ad7.cons_cons|apply ad7.cons)
end
def sG(b:ax)(p:ki):Kept:=(b.kept[p.2.toNat]?).getD zK
def Vo(b:ax)(from_ to:Int)(sF:Bool):List Kept:=
 (if sF then(mA from_ to (cO 0 b.kept)).reverse else mA from_ to (cO 0 b.kept)).map (sG b)
def AK{from_ to:Int}{l:List ki}{x:ki}(h:x∈mA from_ to l):x∈l:=List.mem_of_mem_drop (List.mem_of_mem_take h)
def B9{l:List Kept}{x:ki}(h:x∈cO 0 l):∃(j:Nat)(k:Kept),l[j]?=some k/\x=(k.move.ae,(j:Int)):=by
 obtain⟨j,hj⟩:=afa h;rw[iN] at hj;cases hl:l[j]? with
 |none=>rw[hl] at hj;cases hj
 |some k=>rw[hl] at hj;simp at hj;exact⟨j,k,hl,hj.symm⟩
def fA(k:Kept):(aJ k).length=33:=rfl
section
variable {W:World} {L R:LH} {K:VK} {X:WK} {p:Nat} {b:ax} {hs:List C} {f:ax×List C->LH}
def LY[i:Lc (bh p) L (b,hs) f]{from_ to:Int}{sF:Bool}(h:∀b' c' out,out=Vo b from_ to sF->T W (own b' out.length c' 33 (out.flatMap aJ)::L) (K (.l b' out.length c'))):
 T W L (kk (some ⟨p,0,none⟩) from_ to sF K):=by
 have hL:f (b,hs)=L:=i.same;refine G8 (p:=p) λla lk ti tn vs bx R hg hc lR=>?_;have many:=hg.many;unfold kk;refine tG ?_;refine zk ?_;simp only[dU,adW];refine Ly (p:=p) hg.tL (by show(cO 0 b.kept).length<_;rw[iM];omega) λb' c' out ho=>?_;have mg:∀x∈out,∃(j:Nat)(k:Kept),b.kept[j]?=some k/\x=(k.move.ae,(j:Int)):=λx hx=>B9 (by
  rw[ho] at hx
  split at hx
  ·exact AK (List.mem_reverse.1 hx)
  ·exact AK hx)
 have tu:out.length<=96:=by
  have h1:∀x:List ki,x=mA from_ to (cO 0 b.kept)->x.length<=96:=λx hx=>by
   rw[hx];unfold mA;rw[adX,ad4,iM];omega
  rw[ho];split
  ·rw[aeO];exact h1 _ rfl
  ·exact h1 _ rfl
 have aaV:out.map (sG b)=Vo b from_ to sF:=by rw[ho];rfl
 clear ho;refine tD ?_;refine eW (e:=33) ?_;intro w ju;refine⟨λvv w=>∃(i:Nat)(bo:OA)(cc:Nat)(done:List Kept),i<=out.length/\done=(out.take i).map (sG b)/\vv=[.l none 0 0,.l bo done.length cc,.l b' out.length c',.i (out.length:Int),.i (i:Int)]/\
  St W w (own bo done.length cc 33 (done.flatMap aJ)::own b' out.length c' 2 (out.flatMap k9)::dL p (dz la lk ti tn vs (cZ b))::nY ak 14 la (p,(cZ b).ag)::nY aJ 33 lk (p,(cZ b).kept)::kY ti (cZ b).lK::kY tn (cZ b).ef::rr bx::R),
  λvs _=>match vs with|[_,_,_,_,.int _ d]=>out.length-d.toNat|_=>0,⟨0,none,0,[],ad2 _,by simp,rfl,ju⟩,?_⟩
 rintro uR qe uQ bo pz cc zm yE yF n3 n4 w2 ⟨i,b0,c0,done,hi,ik,e,fh⟩;cases e
 refine T.at ?_ fh;have e5:=lY i;have wX:done.length=i:=by rw[ik,aei,adX];omega
 refine dP (λg1=>?_) (λg1=>?_)
 ·have aZ:i<out.length:=by omega
  have gx:=adS aZ;have gm:=aeg aZ;generalize out[i]=x at gx gm;obtain⟨j,k,hk,rfl⟩:=mg x gm;have hka:sG b (k.move.ae,(j:Int))=k:=by unfold sG;dsimp only;rw[adT,hk];rfl
  have tf:(done++[k])=(out.take (i+1)).map (sG b):=by rw[aeb,gx,aep,<-ik];simp[hka]
  refine bQ (b:=b') ⟨by omega,by omega⟩ λrb hb=>?_;subst hb;rw[adT];refine dx kv gx ?_
  repeat' first|apply ws;intros|apply wb
  ·refine O4 (l:=lk) (x:=k) hk (by show b.kept.length<_;omega) ?_;apply ws;intros;refine gZ (b:=bo) (x:=k) rfl rfl rfl (by omega) (by omega) (jf _) λb2 c2=>?_;rw[e5];refine T.drop (T.drop (T.drop ?_));exact λw3 h3=>⟨⟨i+1,b2,c2,done++[k],aZ,tf,by simp,by simpa using h3⟩,by show out.length-((i+1:Nat):Int).toNat<out.length-(i:Int).toNat;omega⟩
  ·refine O4 (l:=lk) (x:=k) hk (by show b.kept.length<_;omega) ?_;apply ws;intros;refine gZ (b:=bo) (x:=k) rfl rfl rfl (by omega) (by omega) (jf _) λb2 c2=>?_;rw[e5];refine T.drop (T.drop (T.drop ?_));exact λw3 h3=>⟨⟨i+1,b2,c2,done++[k],aZ,tf,by simp,by simpa using h3⟩,by show out.length-((i+1:Nat):Int).toNat<out.length-(i:Int).toNat;omega⟩
 ·have gr:i=out.length:=by omega
  subst gr;rw[ad5] at ik;have:=lR [_] b hs vs bx _ hg hc (by rw[hL];exact h bo cc done (ik.trans aaV));refine T.sub this ?_;exact nh
def Vu[i:Lc (bh p) L (b,hs) f][hh:Has R L]{s:OA}{c:Nat}{ids:List Nat}(hr:nQ W R nm 2 s ids)(hl:ids.length<=1000)
 (h:∀b' c' out,out=ids.filterMap b.find->T W (own b' out.length c' 14 (out.flatMap ak)::L) (K (.l b' out.length c'))):T W L (pL (some ⟨p,0,none⟩) s ids.length c K):=by
 unfold pL;refine eW (e:=14) ?_;intro w ju;refine⟨λvv w=>∃(i:Nat)(bo:OA)(cc:Nat)(done:List aP),i<=ids.length/\done=(ids.take i).filterMap b.find/\done.length<=i/\vv=[.l none 0 0,.l bo done.length cc,.l s ids.length c,.i (ids.length:Int),.i (i:Int)]/\
  St W w (own bo done.length cc 14 (done.flatMap ak)::L),
  λvs _=>match vs with|[_,_,_,_,.int _ d]=>ids.length-d.toNat|_=>0,⟨0,none,0,[],ad2 _,by simp,adY _,rfl,ju⟩,?_⟩
 rintro uR qe uQ bo pz cc zm yE yF n3 n4 w2 ⟨i,b0,c0,done,hi,ik,wX,e,fh⟩;cases e
 refine T.at ?_ fh;have e5:=lY i;refine dP (λg1=>?_) (λg1=>?_)
 ·have aZ:i<ids.length:=by omega
  have gx:=adS aZ;generalize ids[i]=x at gx;have dZ:(ids.take (i+1)).filterMap b.find=done++(b.find x).toList:=by
   rw[aeb,gx,List.filterMap_append,<-ik]
   congr 1
  refine jY hr ⟨by omega,by omega⟩ rfl λa ha=>?_;rw[adT];refine jX hr ha gx rfl ?_
  repeat' first|apply ws;intros|apply wb|with_reducible refine sf (p:=p) ?_|fail
  rw[e5];cases hf:b.find x with
  |none=>
   rw[hf] at dZ;simp only[aey,aeK];apply ws;intros;refine T.drop (T.drop ?_);exact λw3 h3=>⟨⟨i+1,bo,cc,done,aZ,by simp[dZ],by omega,rfl,h3⟩,by show ids.length-((i+1:Nat):Int).toNat<ids.length-(i:Int).toNat;omega⟩
  |some a2=>
   rw[hf] at dZ;simp only[aeq,aeu];apply ws;intros;refine gZ (b:=bo) (x:=a2) rfl rfl rfl (by omega) (by omega) (eV _) λb2 c2=>?_;refine T.drop (T.drop (T.drop ?_));exact λw3 h3=>⟨⟨i+1,b2,c2,done++[a2],aZ,by simpa using dZ.symm,by simp;omega,by simp,by simpa using h3⟩,by show ids.length-((i+1:Nat):Int).toNat<ids.length-(i:Int).toNat;omega⟩
 ·have gr:i=ids.length:=by omega
  subst gr;rw[ad5] at ik;exact h bo cc done ik
def Vt[i:Lc (bh p) L (b,hs) f][hh:Has R L]{s:OA}{c:Nat}{ids:List Nat}(hr:nQ W R nm 2 s ids)(hl:ids.length<=1000)
 (h:∀b' c' out,out=ids.filterMap (λid=>(b.named id).map (·.move))->T W (own b' out.length c' 16 (out.flatMap ai)::L) (K (.l b' out.length c'))):T W L (oP (some ⟨p,0,none⟩) s ids.length c K):=by
 unfold oP;refine eW (e:=16) ?_;intro w ju;refine⟨λvv w=>∃(i:Nat)(bo:OA)(cc:Nat)(done:List Move),i<=ids.length/\done=(ids.take i).filterMap (λid=>(b.named id).map (·.move))/\done.length<=i/\vv=[.l none 0 0,.l bo done.length cc,.l s ids.length c,.i (ids.length:Int),.i (i:Int)]/\
  St W w (own bo done.length cc 16 (done.flatMap ai)::L),
  λvs _=>match vs with|[_,_,_,_,.int _ d]=>ids.length-d.toNat|_=>0,⟨0,none,0,[],ad2 _,by simp,adY _,rfl,ju⟩,?_⟩
 rintro uR qe uQ bo pz cc zm yE yF n3 n4 w2 ⟨i,b0,c0,done,hi,ik,wX,e,fh⟩;cases e
 refine T.at ?_ fh;have e5:=lY i;refine dP (λg1=>?_) (λg1=>?_)
 ·have aZ:i<ids.length:=by omega
  have gx:=adS aZ;generalize ids[i]=x at gx;have dZ:(ids.take (i+1)).filterMap (λid=>(b.named id).map (·.move))=done++((b.named x).map (·.move)).toList:=by
   rw[aeb,gx,List.filterMap_append,<-ik]
   congr 1
  refine jY hr ⟨by omega,by omega⟩ rfl λa ha=>?_;rw[adT];refine jX hr ha gx rfl ?_
  repeat' first|apply ws;intros|apply wb|with_reducible refine EK (p:=p) ?_|fail
  rw[e5];cases hf:b.named x with
  |none=>
   rw[hf] at dZ;simp only[aey,aeK];apply ws;intros;refine T.drop (T.drop ?_);exact λw3 h3=>⟨⟨i+1,bo,cc,done,aZ,by simp[dZ],by omega,rfl,h3⟩,by show ids.length-((i+1:Nat):Int).toNat<ids.length-(i:Int).toNat;omega⟩
  |some a2=>
   rw[hf] at dZ;simp only[aeq,aeu];apply ws;intros;refine gZ (b:=bo) (x:=a2.move) rfl rfl rfl (by omega) (by omega) (lh _) λb2 c2=>?_;refine T.drop (T.drop (T.drop ?_));exact λw3 h3=>⟨⟨i+1,b2,c2,done++[a2.move],aZ,by simpa using dZ.symm,by simp;omega,by simp,by simpa using h3⟩,by show ids.length-((i+1:Nat):Int).toNat<ids.length-(i:Int).toNat;omega⟩
 ·have gr:i=ids.length:=by omega
  subst gr;rw[ad5] at ik;exact h bo cc done ik
end
instance{q:iw}:Sub (lV q) 0 2 (nm q.th):=⟨rfl,λj v h=>by
 rw[adW]
 match j with
 |0=>exact h
 |1=>exact h
 |j+2=>simp[nm] at h⟩
instance{k:Kept}:Sub (aJ k) 18 2 (nm k.move.aF):=⟨rfl,(uP (cs:=aJ k) (o:=18) (n:=k.move.aF) rfl rfl).2⟩
instance{k:Kept}:Sub (aJ k) 20 2 (nm k.move.ar):=⟨rfl,(uP (cs:=aJ k) (o:=20) (n:=k.move.ar) rfl rfl).2⟩
def Gr(q:iw):∀v∈lV q,v.oneCell'=true:=λv h=>by
 simp[lV,nm] at h;rcases h with rfl|rfl|rfl|rfl|rfl|rfl|rfl|rfl<;>rfl
instance{x1 x2 x3 x4 x5 x6 x7 x8:Value}{q:iw}:Wr [x1,x2,x3,x4,x5,x6,x7,x8] 0 (lV q) (lV q):=⟨rfl,adY _,Gr q⟩
def fits(q:iw)(k:Kept):Bool:=(q.rT&&decide (k.move.aF=q.th))||(q.pB&&decide (k.move.ar=q.th))
def WX(b:ax)(q:iw):List Move:=(((Vo b q.fP q.rR q.mJ).filter (fits q)).take q.hI.toNat).map (·.move)
def yA{α:Type}{P:α->Bool}{l:List α}{i n:Nat}{x:α}(hx:l[i]?=some x):
 ((l.take (i+1)).filter P).take n=if(((l.take i).filter P).take n).length<n then(if P x then((l.take i).filter P).take n++[x] else((l.take i).filter P).take n) else((l.take i).filter P).take n:=by
 rw[aeb,hx,List.filter_append];show(_++[x].filter P).take n=_;generalize (l.take i).filter P=A;rw[adX];by_cases h:min n A.length<n
 ·rw[if_pos h];have hA:A.length<n:=by omega
  by_cases hp:P x=true
  ·rw[if_pos hp,aeR hp,List.filter_nil,aea (by simp;omega),aea (by omega)]
  ·rw[if_neg hp,aeS hp,List.filter_nil,aed]
 ·rw[if_neg h,List.take_append_of_le_length (by omega)]
section
variable {W:World} {L R:LH} {K:VK} {X:WK} {p:Nat} {b:ax} {hs:List C} {f:ax×List C->LH} {q:iw} {s:r9}
def No{I1:LV->World->Prop}{oR:LV->World->Nat}{M:LH}{r1 r2 cc yE yF:Nat}{bo zm:OA}{done:List Move}{x:Kept}{n3 n4:Int}{w2:World}{g:LV->LH}
 (hA:(done.length<q.hI.toNat/\fits q x=true)->∀b2 c2,T W (own b2 (done.length+1) c2 16 ((done++[x.move]).flatMap ai)::M) (λw3=>I1 [.p (some (ad r1 0)),.l none 0 0,.l b2 (done.length+1) c2,.l zm yE yF,.i n3,.i (adP.wrap (n4+1))] w3/\
  oR [.p (some (ad r1 0)),.l none 0 0,.l b2 (done.length+1) c2,.l zm yE yF,.i n3,.i (adP.wrap (n4+1))] w3<oR [.p (some (ad r1 0)),.l none 0 0,.l bo done.length cc,.l zm yE yF,.i n3,.i n4] w2))
 (hN: ¬(done.length<q.hI.toNat/\fits q x=true)->T W (own bo done.length cc 16 (done.flatMap ai)::M) (λw3=>I1 [.p (some (ad r1 0)),.l none 0 0,.l bo done.length cc,.l zm yE yF,.i n3,.i (adP.wrap (n4+1))] w3/\
  oR [.p (some (ad r1 0)),.l none 0 0,.l bo done.length cc,.l zm yE yF,.i n3,.i (adP.wrap (n4+1))] w3<oR [.p (some (ad r1 0)),.l none 0 0,.l bo done.length cc,.l zm yE yF,.i n3,.i n4] w2))
 [i1:Lc (Sep.pt r1) M (lV q) g](Ee:0<=q.hI/\q.hI<=16)(hd:done.length<=1000):
 T W (Sep.pt r2 (aJ x)::own bo done.length cc 16 (done.flatMap ai)::M) (br q.rT (ah (ad r2 18) 2 λY3=>ah (ad r1 0) 2 λcs7=>nr [.u 0,.u 0] Y3 cs7 λb8=>jv.j1 K (ad r1 0) r2 done.length bo cc I1 none 0 0 zm yE yF n3 n4 oR w2 b8)
   (jv.j1 K (ad r1 0) r2 done.length bo cc I1 none 0 0 zm yE yF n3 n4 oR w2 false)):=by
 have j3:∀yes:Bool,(yes=true↔done.length<q.hI.toNat/\fits q x=true)->T W (Sep.pt r2 (aJ x)::own bo done.length cc 16 (done.flatMap ai)::M) (jv.j3 K r2 bo done.length cc I1 (ad r1 0) none 0 0 zm yE yF n3 n4 oR w2 yes):=λyes hy=>by
  unfold jv.j3;cases yes with
  |true=>
   apply ws;intros;refine gZ (b:=bo) (x:=x.move) rfl rfl rfl (by omega) (by omega) (lh _) λb2 c2=>?_;exact T.drop (T.drop (hA (hy.1 rfl) b2 c2))
  |false=>
   apply ws;intros;exact T.drop (hN λhh=>by have:=hy.2 hh;cases this)
 have j2:∀b2 b3:Bool,(b2||b3)=fits q x->T W (Sep.pt r2 (aJ x)::own bo done.length cc 16 (done.flatMap ai)::M) (jv.j2 K (ad r1 0) done.length b2 r2 bo cc I1 none 0 0 zm yE yF n3 n4 oR w2 b3):=λb2 b3 hb=>by
  unfold jv.j2;apply ws;intros;refine dP (λg1=>?_) (λg1=>?_)
  ·cases b2 with
   |true=>
    apply ws;intros;refine j3 true ⟨λ_=>⟨by omega,by rw[<-hb];rfl⟩,λ_=>rfl⟩
   |false=>
    apply ws;intros;rw[Bool.false_or] at hb;refine j3 b3 ⟨λh=>⟨by omega,by rw[<-hb];exact h⟩,λh=>by rw[hb];exact h.2⟩
  ·refine j3 false ⟨λh=>(by cases h),λh=>(by omega)⟩
 have j1:∀b2:Bool,b2=(q.rT&&decide (x.move.aF=q.th))->T W (Sep.pt r2 (aJ x)::own bo done.length cc 16 (done.flatMap ai)::M) (jv.j1 K (ad r1 0) r2 done.length bo cc I1 none 0 0 zm yE yF n3 n4 oR w2 b2):=λb2 hb=>by
  unfold jv.j1;apply ws;intros;cases hc:q.pB with
  |true=>
   apply ws;intros;refine j2 _ _ ?_;unfold fits;rw[hb,hc,aeU]
  |false=>
   apply ws;intros;refine j2 _ _ ?_;unfold fits;rw[hb,hc,ae3]
 cases Pw:q.rT with
 |true=>
  apply ws;intros;refine j1 _ ?_;rw[Pw,aeU]
 |false=>
  apply ws;intros;refine j1 _ ?_;rw[Pw,ae3]
def adb[i:Lc (bh p) L (b,hs) f](Ee:0<=q.hI/\q.hI<=16)(h:∀b' c' out,out=WX b q->T W (own b' out.length c' 16 (out.flatMap ai)::L) (K (.l b' out.length c'))):
 T W L (jv (some ⟨p,0,none⟩) (lV q) K):=by
 unfold jv;refine mT (p:=p) λhg=>?_;have many:=hg.many;have XY:(Vo b q.fP q.rR q.mJ).length<=96:=by
  unfold Vo;rw[aei];have h1:(mA q.fP q.rR (cO 0 b.kept)).length<=96:=by unfold mA;rw[adX,ad4,iM];omega
  split
  ·rw[aeO];exact h1
  ·exact h1
 apply ws;intros;rename_i r1;refine LY (p:=p) λbb bc l hl=>?_;rw[<-hl] at XY;apply ws;intros;refine eW (e:=16) ?_;intro w ju;refine⟨λvv w=>∃(i:Nat)(bo:OA)(cc:Nat)(done:List Move),i<=l.length/\done=(((l.take i).filter (fits q)).take q.hI.toNat).map (·.move)/\done.length<=i/\vv=[.p (some (ad r1 0)),.l none 0 0,.l bo done.length cc,.l bb l.length bc,.i (l.length:Int),.i (i:Int)]/\
                                                                 St W w (own bo done.length cc 16 (done.flatMap ai)::own bb l.length bc 33 (l.flatMap aJ)::Sep.pt r1 (lV q)::L),
  λvs _=>match vs with|[_,_,_,_,_,.int _ d]=>l.length-d.toNat|_=>0,⟨0,none,0,[],ad2 _,by simp,adY _,rfl,ju⟩,?_⟩
 rintro a1 uR qe uQ bo pz cc zm yE yF n3 n4 w2 ⟨i,b0,c0,done,hi,ik,wX,e,fh⟩;cases e
 refine T.at ?_ fh;have e5:=lY i;refine dP (λg1=>?_) (λg1=>?_)
 ·have aZ:i<l.length:=by omega
  have gx:=adS aZ;generalize l[i]=x at gx;have dZ:=yA (P:=fits q) (n:=q.hI.toNat) gx;have rQ:done.length=(((l.take i).filter (fits q)).take q.hI.toNat).length:=by rw[ik,aei]
  rw[<-rQ] at dZ;have tf:(((l.take (i+1)).filter (fits q)).take q.hI.toNat).map (·.move)=if done.length<q.hI.toNat/\fits q x=true then done++[x.move] else done:=by
   rw[dZ];by_cases c1:done.length<q.hI.toNat
   ·rw[if_pos c1];by_cases c2:fits q x=true
    ·rw[if_pos c2,if_pos ⟨c1,c2⟩,aep,<-ik];rfl
    ·rw[if_neg c2,if_neg (λh=>c2 h.2),<-ik]
   ·rw[if_neg c1,if_neg (λh=>c1 h.1),<-ik]
  refine bQ (b:=bb) ⟨by omega,by omega⟩ λrb hb=>?_;subst hb;rw[adT];refine dx fA gx ?_;apply ws;intros;rename_i r2;refine No (r1:=r1) (r2:=r2) (bo:=bo) (x:=x) (M:=own (some ⟨rb,0,none⟩) l.length bc 33 (l.flatMap aJ)::Sep.pt r1 (lV q)::L) (λhy b2 c2=>?_) (λhy=>?_) Ee (by omega)
  ·rw[e5];rw[if_pos hy] at tf;exact λw3 h3=>⟨⟨i+1,b2,c2,done++[x.move],aZ,tf.symm,by simp;omega,by simp,by simpa using h3⟩,by show l.length-((i+1:Nat):Int).toNat<l.length-(i:Int).toNat;omega⟩
  ·rw[e5];rw[if_neg hy] at tf;exact λw3 h3=>⟨⟨i+1,bo,cc,done,aZ,tf.symm,by omega,rfl,h3⟩,by show l.length-((i+1:Nat):Int).toNat<l.length-(i:Int).toNat;omega⟩
 ·have gr:i=l.length:=by omega
  subst gr;rw[ad5] at ik;have:=h bo cc done (by rw[ik,hl];rfl);refine T.sub this ?_;exact nh
def kN(q:iw):Bool:=
 if q.op=4\/q.op=5 then decide (1<=q.ids.length)&&decide (q.ids.length<=16)
 else if q.op=6 then decide (0<=q.fP/\0<=q.rR/\1<=q.hI/\q.hI<=16)&&(q.rT||q.pB) else false
def ask(m:Model)(q:iw):Int×List aP×List Move:=
 if kN q=false then(1,[],[])
 else if q.op=4 then(0,q.ids.filterMap (bo m).find,[])
 else if q.op=5 then(0,[],q.ids.filterMap λid=>((bo m).named id).map (·.move))
 else(0,[],WX (bo m) q)
def GY(h:T W L (K (.bool (kN q)))):T W L (eg (dF q s) K):=by
 have main:∀(r1:Nat)(b1:Bool),b1=decide (q.op=4\/q.op=5)->T W (Sep.pt r1 (dF q s)::L) (eg.j1 K r1 q.op b1):=λr1 b1 hb=>by
  unfold eg.j1;unfold kN at h;by_cases Mf:q.op=4\/q.op=5
  ·rw[if_pos Mf] at h;rw[decide_eq_true Mf] at hb;subst hb;apply ws;intros;refine dP (λg2=>?_) (λg2=>?_)
   ·rw[decide_eq_true (by omega),aeU] at h;apply ws;intros;refine T.fin (T.dp h) ?_;congr 1;rw[decide_eq_decide];omega
   ·rw[decide_eq_false (by omega),ae3] at h;exact T.dp h
  ·rw[if_neg Mf] at h;rw[decide_eq_false Mf] at hb;subst hb;rw[ch];refine bE (λg6=>?_) (λg6=>?_)
   ·have g6:q.op=6:=by simpa using g6
    rw[if_pos g6] at h;apply ws;intros;rename_i r2;have j4:∀b4:Bool,b4=decide (0<=q.fP/\0<=q.rR/\1<=q.hI/\q.hI<=16)->T W (Sep.pt r2 (lV q)::Sep.pt r1 (dF q s)::L) (eg.j4 K r2 b4):=λb4 h4=>by
     unfold eg.j4;rw[<-h4] at h;cases b4 with
     |true=>
      apply ws;intros;rw[aeU] at h;cases hd:q.rT with
      |true=>
       rw[hd] at h;apply ws;intros;exact T.dp h
      |false=>
       rw[hd,Bool.false_or] at h;apply ws;intros;exact T.dp h
     |false=>
      apply ws;intros;rw[ae3] at h;exact T.dp h
    have j3:∀b3:Bool,b3=decide (0<=q.fP/\0<=q.rR/\1<=q.hI)->T W (Sep.pt r2 (lV q)::Sep.pt r1 (dF q s)::L) (eg.j3 K r2 b3):=λb3 h3=>by
     unfold eg.j3;cases b3 with
     |true=>
      apply ws;intros;refine j4 _ ?_;have:=of_decide_eq_true h3.symm;rw[decide_eq_decide];omega
     |false=>
      apply ws;intros;refine j4 _ ?_;have:=of_decide_eq_false h3.symm;exact(decide_eq_false (by omega)).symm
    have j2:∀b2:Bool,b2=decide (0<=q.fP/\0<=q.rR)->T W (Sep.pt r2 (lV q)::Sep.pt r1 (dF q s)::L) (eg.j2 K r2 b2):=λb2 h2=>by
     unfold eg.j2;cases b2 with
     |true=>
      apply ws;intros;refine j3 _ ?_;have:=of_decide_eq_true h2.symm;rw[decide_eq_decide];omega
     |false=>
      apply ws;intros;refine j3 _ ?_;have:=of_decide_eq_false h2.symm;exact(decide_eq_false (by omega)).symm
    refine dP (λg1=>?_) (λg1=>?_)
    ·apply ws;intros;refine j2 _ ?_;rw[decide_eq_decide];omega
    ·refine j2 _ ?_;exact(decide_eq_false (by omega)).symm
   ·have g6: ¬q.op=6:=by simpa using g6
    rw[if_neg g6] at h;exact T.dp h
 unfold eg;apply ws;intros;refine bE (λg1=>?_) (λg1=>?_)
 ·have UX:q.op=4:=by simpa using g1
  exact main _ _ (by rw[g1];exact(decide_eq_true (.inl UX)).symm)
 ·have UX: ¬q.op=4:=by simpa using g1
  exact main _ _ (by rw[aee];simp[UX])
def Zd{m:Model}(hq:lu W R q s)
 (h:∀ab ac tb tc,T W (own ab (ask m q).2.1.length ac 14 ((ask m q).2.1.flatMap ak)::own tb (ask m q).2.2.length tc 16 ((ask m q).2.2.flatMap ai)::bh p (bo m,[])::R) (K (.agg ⟨oZ (ask m q).1 none 0 0 ab (ask m q).2.1.length ac tb (ask m q).2.2.length tc⟩))):
 T W (bh p (bo m,[])::R) (Ey (some ⟨p,0,none⟩) (dF q s) K):=by
 unfold Ey
 repeat' first|apply ws;intros|apply wb|with_reducible refine GY ?_|fail
 cases ge:kN q with
 |false=>
  have e:ask m q=(1,[],[]):=by unfold ask;rw[if_pos ge]
  rw[e] at h;apply ws;intros;refine T.drop (T.drop ?_);exact eW (e:=16) (eW (e:=14) (h none 0 none 0))
 |true=>
  apply ws;intros;refine bE (λg1=>?_) (λg1=>?_)
  ·have g1:q.op=4:=by simpa using g1
   have e:ask m q=(0,q.ids.filterMap (bo m).find,[]):=by unfold ask;rw[if_neg (by rw[ge];decide),if_pos g1]
   rw[e] at h;have hlen:q.ids.length<=16:=by unfold kN at ge;rw[if_pos (.inl g1)] at ge;simp at ge;exact ge.2
   apply ws;intros;refine Vu (R:=R) (p:=p) hq.ids (by omega) λab ac out ho=>?_;subst ho;apply ws;intros;have:=h ab ac none 0;refine eW (e:=16) (T.HE ?_);refine T.sub this ?_
   repeat (first|exact ad7.refl _|apply ad7.cons_cons|apply ad7.cons)
  have g1: ¬q.op=4:=by simpa using g1
  refine bE (λg2=>?_) (λg2=>?_)
  ·have g2:q.op=5:=by simpa using g2
   have e:ask m q=(0,[],q.ids.filterMap λid=>((bo m).named id).map (·.move)):=by unfold ask;rw[if_neg (by rw[ge];decide),if_neg g1,if_pos g2]
   rw[e] at h;have hlen:q.ids.length<=16:=by unfold kN at ge;rw[if_pos (.inr g2)] at ge;simp at ge;exact ge.2
   apply ws;intros;refine Vt (R:=R) (p:=p) hq.ids (by omega) λab ac out ho=>?_;subst ho;apply ws;intros;have:=h none 0 ab ac;refine eW (e:=14) ?_;refine T.sub this ?_
   repeat (first|exact ad7.refl _|apply ad7.cons_cons|apply ad7.cons)
  ·have g2: ¬q.op=5:=by simpa using g2
   have e:ask m q=(0,[],WX (bo m) q):=by unfold ask;rw[if_neg (by rw[ge];decide),if_neg g1,if_neg g2]
   rw[e] at h;have Ee:0<=q.hI/\q.hI<=16:=by
    unfold kN at ge;rw[if_neg (by omega)] at ge;split at ge
    ·simp at ge;omega
    ·cases ge
   apply ws;intros;refine adb (p:=p) Ee λab ac out ho=>?_;subst ho;apply ws;intros;have:=h none 0 ab ac;refine eW (e:=14) ?_;refine T.sub this ?_
   repeat (first|exact ad7.refl _|apply ad7.cons_cons|apply ad7.cons)
end
def many{α:Type}(nx:RS->RS)(nv:RS->α):Nat->RS->List α×RS
 |0,x=>([],x)
 |n+1,x=>if x.2=true then([],x) else(nv x::(many nx nv n (nx x)).1,(many nx nv n (nx x)).2)
def ox{α:Type}{nx:RS->RS}{nv:RS->α}(n:Nat)(x:RS):many nx nv (n+1) x=if x.2=true then([],x) else(nv x::(many nx nv n (nx x)).1,(many nx nv n (nx x)).2):=rfl
def xX{α:Type}{nx:RS->RS}{nv:RS->α}(x:RS):many nx nv 0 x=([],x):=rfl
def wN{α:Type}{nx:RS->RS}{nv:RS->α}:∀(n:Nat)(x:RS),(many nx nv n x).1.length<=n
 |0,x=>adY _
 |n+1,x=>by unfold many;split<;>simp;exact wN n _
def Qx(x:RS):0<=iF 1 x/\iF 1 x<=255:=by
 unfold iF;split
 ·omega
 ·have h1:=oG (x.1.take 1);have h2:(x.1.take 1).length<=1:=by rw[adX];omega
  have h3:256^(x.1.take 1).length<=256^1:=aeJ (by decide) h2;have h4:(256:Nat)^1=256:=rfl;rw[j0 (by omega)];omega
def G9(x:RS):RS:=if 1<iF 1 x then((db 1 x).1,true) else db 1 x
def Zr(x:RS):Bool:=iF 1 x==1
section
variable {W:World} {L R:LH} {K:VK} {X:WK} {r:Nat} {x:RS} {g:RS->LH} {q:iw} {s:r9}
def Qu(x:RS):(Ci x).1.length<=x.1.length:=by
 unfold Ci uA;repeat (first|exact adY _|refine Nat.le_trans (qI _ _) ?_)
def Qt(x:RS):(Ch x).1.length<=x.1.length:=by
 unfold Ch uA;repeat (first|exact adY _|refine Nat.le_trans (qI _ _) ?_)
def EJ[i:Lc (rd r) L x g](hl:x.1.length<1099511627776)(h:T W (g (G9 x)) (K (.bool (Zr x)))):T W L (iW (some ⟨r,0,none⟩) K):=by
 unfold iW;refine qZ hl ?_;refine lG ?_;have hn:=i.next;rw[Option.isNone_some,Bool.not_false,gW];refine dP (λg1=>?_) (λg1=>?_)
 ·have g1:iF 1 x>1:=g1;intro w hs;obtain⟨k,hk,e⟩:=(hn (db 1 x)).at_;rw[zR,dU,adW];refine l7 hs (show(g (db 1 x))[k]?=some (Sep.pt r [.string (bs (db 1 x).1),.bool (db 1 x).2]) from hk) (by show 1<2;decide) rfl λw' cU=>?_;refine h w' ?_;have e2:G9 x=((db 1 x).1,true):=by unfold G9;rw[if_pos g1]
  rw[e2,e];exact cU
 ·have g1: ¬iF 1 x>1:=g1;have e2:G9 x=db 1 x:=by unfold G9;rw[if_neg g1]
  rw[e2] at h;exact h
def QJ[i:Lc (rd r) L x g](hl:x.1.length<1099511627776)
 (h:∀b c,T W (own b (many Ci D4 (iF 1 x).toNat (db 1 x)).1.length c 14 ((many Ci D4 (iF 1 x).toNat (db 1 x)).1.flatMap ak)::g (many Ci D4 (iF 1 x).toNat (db 1 x)).2) (K (.l b (many Ci D4 (iF 1 x).toNat (db 1 x)).1.length c))):
 T W L (jk (some ⟨r,0,none⟩) (.func (.func N.kD) ⟨[]⟩ ⟨[]⟩) K):=by
 unfold jk;refine qZ hl ?_;refine lG ?_;have hn:=i.next;have hb:=Qx x;obtain⟨n,en⟩:∃n:Nat,iF 1 x=(n:Int):=⟨(iF 1 x).toNat,by omega⟩;rw[en,adT] at h;rw[en];refine eW (e:=14) ?_;intro w ju;refine⟨λvv w=>∃(i:Nat)(bo:OA)(cc:Nat)(done:List aP)(y:RS),i<=n/\done.length<=i/\y.1.length<1099511627776/\many Ci D4 n (db 1 x)=(done++(many Ci D4 (n-i) y).1,(many Ci D4 (n-i) y).2)/\
                                                                                                                                       vv=[.l none 0 0,.l bo done.length cc,.i (n:Int),.i (i:Int)]/\St W w (own bo done.length cc 14 (done.flatMap ak)::g y),
  λvs _=>match vs with|[_,_,_,.int _ d]=>n-d.toNat|_=>0,⟨0,none,0,[],db 1 x,ad2 _,adY _,mX hl,by simp,rfl,ju⟩,?_⟩
 rintro M5 VR P7 bo qe cc n2 n3 w2 ⟨i,b0,c0,done,y,hi,wX,hy,hm,e,fh⟩;cases e
 refine T.at ?_ fh;have e5:=lY i
 haveI:=hn y
 refine dP (λg1=>?_) (λg1=>?_)
 ·have aZ:i<n:=by omega
  obtain⟨k,hk⟩:∃k,n-i=k+1:=⟨n-i-1,by omega⟩;rw[hk] at hm;refine uM (r:=r) ?_;refine qC ?_;cases ht:y.2 with
  |true=>
   apply ws;intros;rw[ox,if_pos ht] at hm;simp only[aed] at hm;have:=h bo cc;rw[hm] at this;exact this
  |false=>
   apply ws;intros;rw[ox,if_neg (by rw[ht];decide)] at hm;show T W _ (kD (some ⟨r,0,none⟩) _);refine OJ hy ?_;apply ws;intros;refine gZ (b:=bo) (x:=D4 y) rfl rfl rfl (by omega) (by omega) (eV _) λb2 c2=>?_;rw[e5];refine T.drop ?_;refine λw3 h3=>⟨⟨i+1,b2,c2,done++[D4 y],Ci y,aZ,by simp;omega,Nat.lt_of_le_of_lt (Qu y) hy,?_,by simp,by simpa using h3⟩,by show n-((i+1:Nat):Int).toNat<n-(i:Int).toNat;omega⟩;rw[hm,show n-(i+1)=k by omega];simp
 ·have gr:i=n:=by omega
  subst gr;rw[afe] at hm;rw[xX,aed] at hm;have:=h bo cc;rw[hm] at this;exact this
def QG[i:Lc (rd r) L x g](hl:x.1.length<1099511627776)
 (h:∀b c,T W (own b (many Ch D0 (iF 1 x).toNat (db 1 x)).1.length c 16 ((many Ch D0 (iF 1 x).toNat (db 1 x)).1.flatMap ai)::g (many Ch D0 (iF 1 x).toNat (db 1 x)).2) (K (.l b (many Ch D0 (iF 1 x).toNat (db 1 x)).1.length c))):
 T W L (iJ (some ⟨r,0,none⟩) (.func (.func N.jD) ⟨[]⟩ ⟨[]⟩) K):=by
 unfold iJ;refine qZ hl ?_;refine lG ?_;have hn:=i.next;have hb:=Qx x;obtain⟨n,en⟩:∃n:Nat,iF 1 x=(n:Int):=⟨(iF 1 x).toNat,by omega⟩;rw[en,adT] at h;rw[en];refine eW (e:=16) ?_;intro w ju;refine⟨λvv w=>∃(i:Nat)(bo:OA)(cc:Nat)(done:List Move)(y:RS),i<=n/\done.length<=i/\y.1.length<1099511627776/\many Ch D0 n (db 1 x)=(done++(many Ch D0 (n-i) y).1,(many Ch D0 (n-i) y).2)/\
                                                                                                                                       vv=[.l none 0 0,.l bo done.length cc,.i (n:Int),.i (i:Int)]/\St W w (own bo done.length cc 16 (done.flatMap ai)::g y),
  λvs _=>match vs with|[_,_,_,.int _ d]=>n-d.toNat|_=>0,⟨0,none,0,[],db 1 x,ad2 _,adY _,mX hl,by simp,rfl,ju⟩,?_⟩
 rintro M5 VR P7 bo qe cc n2 n3 w2 ⟨i,b0,c0,done,y,hi,wX,hy,hm,e,fh⟩;cases e
 refine T.at ?_ fh;have e5:=lY i
 haveI:=hn y
 refine dP (λg1=>?_) (λg1=>?_)
 ·have aZ:i<n:=by omega
  obtain⟨k,hk⟩:∃k,n-i=k+1:=⟨n-i-1,by omega⟩;rw[hk] at hm;refine uM (r:=r) ?_;refine qC ?_;cases ht:y.2 with
  |true=>
   apply ws;intros;rw[ox,if_pos ht] at hm;simp only[aed] at hm;have:=h bo cc;rw[hm] at this;exact this
  |false=>
   apply ws;intros;rw[ox,if_neg (by rw[ht];decide)] at hm;show T W _ (jD (some ⟨r,0,none⟩) _);refine Hu hy ?_;apply ws;intros;refine gZ (b:=bo) (x:=D0 y) rfl rfl rfl (by omega) (by omega) (lh _) λb2 c2=>?_;rw[e5];refine T.drop ?_;refine λw3 h3=>⟨⟨i+1,b2,c2,done++[D0 y],Ch y,aZ,by simp;omega,Nat.lt_of_le_of_lt (Qt y) hy,?_,by simp,by simpa using h3⟩,by show n-((i+1:Nat):Int).toNat<n-(i:Int).toNat;omega⟩;rw[hm,show n-(i+1)=k by omega];simp
 ·have gr:i=n:=by omega
  subst gr;rw[afe] at hm;rw[xX,aed] at hm;have:=h bo cc;rw[hm] at this;exact this
def QH[i:Lc (rd r) L x g](hl:x.1.length<1099511627776)
 (h:∀b c,T W (own b (many (db 16) vW (iF 1 x).toNat (db 1 x)).1.length c 2 ((many (db 16) vW (iF 1 x).toNat (db 1 x)).1.flatMap nm)::g (many (db 16) vW (iF 1 x).toNat (db 1 x)).2) (K (.l b (many (db 16) vW (iF 1 x).toNat (db 1 x)).1.length c))):
 T W L (lM (some ⟨r,0,none⟩) (.func (.func N.bn) ⟨[]⟩ ⟨[]⟩) K):=by
 unfold lM;refine qZ hl ?_;refine lG ?_;have hn:=i.next;have hb:=Qx x;obtain⟨n,en⟩:∃n:Nat,iF 1 x=(n:Int):=⟨(iF 1 x).toNat,by omega⟩;rw[en,adT] at h;rw[en];refine eW (e:=2) ?_;intro w ju;refine⟨λvv w=>∃(i:Nat)(bo:OA)(cc:Nat)(done:List Nat)(y:RS),i<=n/\done.length<=i/\y.1.length<1099511627776/\many (db 16) vW n (db 1 x)=(done++(many (db 16) vW (n-i) y).1,(many (db 16) vW (n-i) y).2)/\
                                                                                                                                       vv=[.l none 0 0,.l bo done.length cc,.i (n:Int),.i (i:Int)]/\St W w (own bo done.length cc 2 (done.flatMap nm)::g y),
  λvs _=>match vs with|[_,_,_,.int _ d]=>n-d.toNat|_=>0,⟨0,none,0,[],db 1 x,ad2 _,adY _,mX hl,by simp,rfl,ju⟩,?_⟩
 rintro M5 VR P7 bo qe cc n2 n3 w2 ⟨i,b0,c0,done,y,hi,wX,hy,hm,e,fh⟩;cases e
 refine T.at ?_ fh;have e5:=lY i
 haveI:=hn y
 refine dP (λg1=>?_) (λg1=>?_)
 ·have aZ:i<n:=by omega
  obtain⟨k,hk⟩:∃k,n-i=k+1:=⟨n-i-1,by omega⟩;rw[hk] at hm;refine uM (r:=r) ?_;refine qC ?_;cases ht:y.2 with
  |true=>
   apply ws;intros;rw[ox,if_pos ht] at hm;simp only[aed] at hm;have:=h bo cc;rw[hm] at this;exact this
  |false=>
   apply ws;intros;rw[ox,if_neg (by rw[ht];decide)] at hm;show T W _ (bn (some ⟨r,0,none⟩) _);refine EH hy ?_;apply ws;intros;refine gZ (b:=bo) (x:=vW y) rfl rfl rfl (by omega) (by omega) (kx _) λb2 c2=>?_;rw[e5];refine T.drop ?_;refine λw3 h3=>⟨⟨i+1,b2,c2,done++[vW y],(db 16) y,aZ,by simp;omega,Nat.lt_of_le_of_lt (qI 16 y) hy,?_,by simp,by simpa using h3⟩,by show n-((i+1:Nat):Int).toNat<n-(i:Int).toNat;omega⟩;rw[hm,show n-(i+1)=k by omega];simp
 ·have gr:i=n:=by omega
  subst gr;rw[afe] at hm;rw[xX,aed] at hm;have:=h bo cc;rw[hm] at this;exact this
def lE(q:iw):Bool:=if q.op=1 then q.ag.all λa=>decide (mw a) else if q.op=2 then q.aT.all λt=>decide (jT t) else true
def fS(q:iw):Bool:=(jt q||kN q)&&lE q
def xq{α:Type}{P:α->Bool}{l:List α}{i:Nat}{x:α}(hx:l[i]?=some x)(h:(l.take i).all P=true):(l.take (i+1)).all P=P x:=by
 rw[aeb,hx,List.all_append,h];simp
def all_false{α:Type}{P:α->Bool}{l:List α}{i:Nat}{x:α}(hx:l[i]?=some x)(h:P x=false):l.all P=false:=by
 rw[List.all_eq_false];exact⟨x,aek hx,by rw[h];decide⟩
def E2[hh:Has R L](hq:lu W R q s)(zv:q.ag.length<1000000)(aZ:q.aT.length<1000000){r1:Nat}{b1:Bool}(h:T W (Sep.pt r1 (dF q s)::L) (K (.bool (!b1&&lE q)))):T W (Sep.pt r1 (dF q s)::L) (lz.j1 K r1 b1):=by
 unfold lz.j1;cases b1 with
 |true=>rw[gW];exact h
 |false=>
  rw[Bool.not_false,aeU] at h;rw[ch];apply ws;intros;refine bE (λg1=>?_) (λg1=>?_)
  ·have g1:q.op=1:=by simpa using g1
   unfold lE at h;rw[if_pos g1] at h;apply ws;intros;intro w ju;refine⟨λvv w=>∃i:Nat,i<=q.ag.length/\(q.ag.take i).all (λx=>decide (mw x))=true/\vv=[.bool false,.l s.sa q.ag.length s.ca,.i (q.ag.length:Int),.i (i:Int)]/\St W w (Sep.pt r1 (dF q s)::L),
    λvs _=>match vs with|[_,_,_,.int _ d]=>q.ag.length-d.toNat|_=>0,⟨0,ad2 _,rfl,rfl,ju⟩,?_⟩
   rintro b2 uR qe uQ n2 n3 w2 ⟨i,hi,fG,e,fh⟩;cases e
   refine T.at ?_ fh;have e5:=lY i;refine dP (λg1=>?_) (λg1=>?_)
   ·have aZ:i<q.ag.length:=by omega
    have gx:=adS aZ;generalize q.ag[i]=x at gx;refine jY hq.ag ⟨by omega,by omega⟩ rfl λa ha=>?_;rw[adT];refine jX hq.ag ha gx rfl ?_
    repeat' first|apply ws;intros|apply wb|with_reducible refine J6 ?_|fail
    rw[e5];by_cases hg:mw x
    ·rw[decide_eq_true hg];apply ws;intros;refine T.drop λw3 h3=>⟨⟨i+1,aZ,?_,rfl,h3⟩,by show q.ag.length-((i+1:Nat):Int).toNat<q.ag.length-(i:Int).toNat;omega⟩;rw[xq gx fG];exact decide_eq_true hg
    ·rw[decide_eq_false hg];apply ws;intros;rw[all_false gx (decide_eq_false hg)] at h;exact T.drop h
   ·have gr:i=q.ag.length:=by omega
    subst gr;rw[ad5] at fG;rw[fG] at h;exact h
  have g1: ¬q.op=1:=by simpa using g1
  refine bE (λg2=>?_) (λg2=>?_)
  ·have g2:q.op=2:=by simpa using g2
   unfold lE at h;rw[if_neg g1,if_pos g2] at h;apply ws;intros;intro w ju;refine⟨λvv w=>∃i:Nat,i<=q.aT.length/\(q.aT.take i).all (λx=>decide (jT x))=true/\vv=[.bool false,.l s.st q.aT.length s.ct,.i (q.aT.length:Int),.i (i:Int)]/\St W w (Sep.pt r1 (dF q s)::L),
    λvs _=>match vs with|[_,_,_,.int _ d]=>q.aT.length-d.toNat|_=>0,⟨0,ad2 _,rfl,rfl,ju⟩,?_⟩
   rintro b2 uR qe uQ n2 n3 w2 ⟨i,hi,fG,e,fh⟩;cases e
   refine T.at ?_ fh;have e5:=lY i;refine dP (λg1=>?_) (λg1=>?_)
   ·have aZ:i<q.aT.length:=by omega
    have gx:=adS aZ;generalize q.aT[i]=x at gx;refine jY hq.aT ⟨by omega,by omega⟩ rfl λa ha=>?_;rw[adT];refine jX hq.aT ha gx rfl ?_
    repeat' first|apply ws;intros|apply wb|with_reducible refine I3 ?_|fail
    rw[e5];by_cases hg:jT x
    ·rw[decide_eq_true hg];apply ws;intros;refine T.drop λw3 h3=>⟨⟨i+1,aZ,?_,rfl,h3⟩,by show q.aT.length-((i+1:Nat):Int).toNat<q.aT.length-(i:Int).toNat;omega⟩;rw[xq gx fG];exact decide_eq_true hg
    ·rw[decide_eq_false hg];apply ws;intros;rw[all_false gx (decide_eq_false hg)] at h;exact T.drop h
   ·have gr:i=q.aT.length:=by omega
    subst gr;rw[ad5] at fG;rw[fG] at h;exact h
  ·have g2: ¬q.op=2:=by simpa using g2
   unfold lE at h;rw[if_neg g1,if_neg g2] at h;exact h
def IT[hh:Has R L](hq:lu W R q s)(zv:q.ag.length<1000000)(aZ:q.aT.length<1000000)(h:T W L (K (.bool (fS q)))):T W L (lz (dF q s) K):=by
 unfold lz
 repeat' first|apply ws;intros|apply wb|with_reducible refine JV ?_|fail
 unfold fS at h;cases he:jt q with
 |true=>
  rw[he,Bool.true_or] at h;apply ws;intros;exact E2 hq zv aZ (T.drop h)
 |false=>
  rw[he,Bool.false_or] at h
  repeat' first|apply ws;intros|apply wb|with_reducible refine GY ?_|fail
  refine E2 hq zv aZ (T.drop ?_);rw[Bool.not_not];exact h
end
def y3(b:Bool):List UInt8:=[if b then 1 else 0]
def Re(q:iw):List UInt8:=nb q.th++le .i64 8 q.fP++le .i64 8 q.rR++y3 q.rT++y3 q.pB++y3 q.mJ++le .i64 1 q.hI
def bZ(q:iw):List UInt8:=le .i64 1 q.op++
 (if q.op=1 then le .i64 1 (q.ag.length:Int)++q.ag.flatMap ib
 else if q.op=2 then le .i64 1 (q.aT.length:Int)++q.aT.flatMap mH
 else if q.op=3 then le .i64 8 q.now
 else if q.op=6 then Re q
 else le .i64 1 (q.ids.length:Int)++q.ids.flatMap nb)
section
variable {W:World} {L R:LH} {K:VK} {X:WK} {p:Nat} {l:List UInt8} {f:List UInt8->LH} {q:iw} {s:r9}
def MN(h:T W (buf p []::L) X):T W (Sep.pt p [.l none 0 0]::L) X:=λw hs=>by
 have h2:=(hs.push (A:=own none 0 0 1 (([]:List UInt8).map rz)) (oK 1)).perm (aej.swap _ _ _);exact h w (pU (k:=0) (L:=buf p []::L) (A:=buf p []) rfl rfl h2)
def dM{α:Type}{g:α->List UInt8}{e:Nat}(hg:∀x,(g x).length=e)(l:List α):(l.flatMap g).length=l.length* e:=by
 induction l with
 |nil=>simp
 |cons x l ih=>rw[aeG,adV,ih,hg,ad',afg];omega
def Z9[i:Lc (buf p) L l f][hh:∀y,Has R (f y)]{sl:OA}{c:Nat}{items:List aP}(hr:nQ W R ak 14 sl items)(hg:∀x∈items,mw x)(hi:items.length<=1000)(hl:l.length<1000000)
 (h:T W (f (l++le .i64 1 (items.length:Int)++items.flatMap ib)) (K (.tuple ⟨[]⟩))):T W L (jE (some ⟨p,0,none⟩) sl items.length c K):=by
 unfold jE;refine zk ?_;refine pM (by omega) (zj ?_);intro w ju;refine⟨λvv w=>∃i:Nat,i<=items.length/\vv=[.l sl items.length c,.i (items.length:Int),.i (i:Int)]/\St W w (f (l++le .i64 1 (items.length:Int)++(items.take i).flatMap ib)),
  λvs _=>match vs with|[_,_,.int _ d]=>items.length-d.toNat|_=>0,⟨0,ad2 _,rfl,by simpa using ju⟩,?_⟩
 rintro uR qe uQ n1 n2 w2 ⟨i,hii,e,fh⟩;cases e
 refine T.at ?_ fh;have hn:=Lc.next (P:=buf p) inferInstance (l++le .i64 1 (items.length:Int)++(items.take i).flatMap ib) (L:=L) (x:=l) (f:=f);have vY:=hh (l++le .i64 1 (items.length:Int)++(items.take i).flatMap ib);have hlen:(l++le .i64 1 (items.length:Int)++(items.take i).flatMap ib).length<549755813888:=by
  rw[adV,adV,dM oE,adX,az];have:min i items.length<=1000:=by omega
  have:min i items.length* (100-4)<=1000* (100-4):=aeE _ this;omega
 have e5:=lY i;refine dP (λg1=>?_) (λg1=>?_)
 ·have aZ:i<items.length:=by omega
  have gx:=adS aZ;have gm:=hg _ (aeg aZ);generalize items[i]=x at gx gm;refine jY hr ⟨by omega,by omega⟩ rfl λa ha=>?_;rw[adT];refine jX hr ha gx rfl ?_
  repeat' first|apply ws;intros|apply wb|with_reducible refine OI (p:=p) gm hlen ?_|fail
  rw[e5];refine T.drop λw3 h3=>⟨⟨i+1,aZ,rfl,?_⟩,by show items.length-((i+1:Nat):Int).toNat<items.length-(i:Int).toNat;omega⟩;rw[aeb,gx,aeP];simpa [ad0] using h3
 ·have gr:i=items.length:=by omega
  subst gr;rw[ad5];exact h
def Z8[i:Lc (buf p) L l f][hh:∀y,Has R (f y)]{sl:OA}{c:Nat}{items:List Move}(hr:nQ W R ai 16 sl items)(hg:∀x∈items,jT x)(hi:items.length<=1000)(hl:l.length<1000000)
 (h:T W (f (l++le .i64 1 (items.length:Int)++items.flatMap mH)) (K (.tuple ⟨[]⟩))):T W L (jj (some ⟨p,0,none⟩) sl items.length c K):=by
 unfold jj;refine zk ?_;refine pM (by omega) (zj ?_);intro w ju;refine⟨λvv w=>∃i:Nat,i<=items.length/\vv=[.l sl items.length c,.i (items.length:Int),.i (i:Int)]/\St W w (f (l++le .i64 1 (items.length:Int)++(items.take i).flatMap mH)),
  λvs _=>match vs with|[_,_,.int _ d]=>items.length-d.toNat|_=>0,⟨0,ad2 _,rfl,by simpa using ju⟩,?_⟩
 rintro uR qe uQ n1 n2 w2 ⟨i,hii,e,fh⟩;cases e
 refine T.at ?_ fh;have hn:=Lc.next (P:=buf p) inferInstance (l++le .i64 1 (items.length:Int)++(items.take i).flatMap mH) (L:=L) (x:=l) (f:=f);have vY:=hh (l++le .i64 1 (items.length:Int)++(items.take i).flatMap mH);have hlen:(l++le .i64 1 (items.length:Int)++(items.take i).flatMap mH).length<549755813888:=by
  rw[adV,adV,dM ow,adX,az];have:min i items.length<=1000:=by omega
  have:min i items.length* 108<=1000* 108:=aeE _ this;omega
 have e5:=lY i;refine dP (λg1=>?_) (λg1=>?_)
 ·have aZ:i<items.length:=by omega
  have gx:=adS aZ;have gm:=hg _ (aeg aZ);generalize items[i]=x at gx gm;refine jY hr ⟨by omega,by omega⟩ rfl λa ha=>?_;rw[adT];refine jX hr ha gx rfl ?_
  repeat' first|apply ws;intros|apply wb|with_reducible refine Ht (p:=p) gm hlen ?_|fail
  rw[e5];refine T.drop λw3 h3=>⟨⟨i+1,aZ,rfl,?_⟩,by show items.length-((i+1:Nat):Int).toNat<items.length-(i:Int).toNat;omega⟩;rw[aeb,gx,aeP];simpa [ad0] using h3
 ·have gr:i=items.length:=by omega
  subst gr;rw[ad5];exact h
def Tp[i:Lc (buf p) L l f](hl:l.length<1000000)(h:T W (f (l++Re q)) (K (.tuple ⟨[]⟩))):T W L (kO (some ⟨p,0,none⟩) (lV q) K):=by
 unfold kO;have hn0:=i.next
 repeat' first|apply ws;intros|apply wb|with_reducible refine EA (by omega) ?_|fail
 rename_i r1
 repeat' first|apply ws;intros|apply wb|with_reducible refine uL (by simp only[adV,re,az];omega) ?_|fail
 intro w ju;refine⟨λvv w=>∃i:Nat,i<=3/\vv=[.p (some (ad r1 0)),.agg ⟨[.bool q.rT,.bool q.pB,.bool q.mJ]⟩,.i (i:Int)]/\St W w (Sep.pt r1 (lV q)::f (l++nb q.th++le .i64 8 q.fP++le .i64 8 q.rR++([q.rT,q.pB,q.mJ].take i).flatMap y3)),
  λvs _=>match vs with|[_,_,.int _ d]=>3-d.toNat|_=>0,⟨0,ad2 _,rfl,by simpa using ju⟩,?_⟩
 rintro a4 Y4 n3 w2 ⟨i,hi,e,fh⟩;cases e
 refine T.at ?_ fh;have hn:=Lc.next (P:=buf p) inferInstance (l++nb q.th++le .i64 8 q.fP++le .i64 8 q.rR++([q.rT,q.pB,q.mJ].take i).flatMap y3) (L:=L) (x:=l) (f:=f);have Ma:(([q.rT,q.pB,q.mJ].take i).flatMap y3).length<=3:=by rw[dM (e:=1) (λ_=>rfl),adX];simp;omega
 have e5:=lY i;refine dP (λg1=>?_) (λg1=>?_)
 ·have aZ:i<3:=by omega
  obtain⟨b,hb⟩:∃b,[q.rT,q.pB,q.mJ][i]?=some b:=⟨_,adS (by simpa using aZ)⟩;have hv:[Value.bool q.rT,.bool q.pB,.bool q.mJ][i]?=some (.bool b):=by
   have:=congrArg (afv Value.bool) hb;rw[<-aeF] at this;exact this
  refine I0 aZ hv ?_
  repeat' first|apply ws;intros|apply wb|with_reducible refine RU (by simp only[adV,re,az];omega) ?_|fail
  rw[e5];refine λw3 h3=>⟨⟨i+1,aZ,rfl,?_⟩,by show 3-((i+1:Nat):Int).toNat<3-(i:Int).toNat;omega⟩;rw[aeb,hb,aeP];simpa [ad0,y3] using h3
 ·have gr:i=3:=by omega
  subst gr
  repeat' first|apply ws;intros|apply wb|with_reducible refine pM (by simp only[adV,re,az];omega) ?_|fail
  have e2:l++nb q.th++le .i64 8 q.fP++le .i64 8 q.rR++([q.rT,q.pB,q.mJ].take 3).flatMap y3++le .i64 1 q.hI=l++Re q:=by
   unfold Re;simp[ad0]
  rw[e2];exact T.drop h
def nd(h:fS q=true):(q.op=1/\q.ag.length<=8/\∀a∈q.ag,mw a)\/(q.op=2/\q.aT.length<=8/\∀t∈q.aT,jT t)\/(q.op=3/\0<=q.now/\q.now<=1099511627776)\/((q.op=4\/q.op=5)/\q.ids.length<=16)\/(q.op=6/\0<=q.fP/\0<=q.rR/\1<=q.hI/\q.hI<=16):=by
 unfold fS jt kN lE at h;simp only[aeL,Bool.or_eq_true] at h;obtain⟨h1,h2⟩:=h;by_cases o1:q.op=1
 ·rw[if_pos o1] at h1 h2;rw[if_neg (by omega),if_neg (by omega)] at h1;simp at h1 h2;exact .inl ⟨o1,h1.2,h2⟩
 by_cases o2:q.op=2
 ·rw[if_neg o1,if_pos o2] at h1 h2;rw[if_neg (by omega),if_neg (by omega)] at h1;simp at h1 h2;exact .inr (.inl ⟨o2,h1.2,h2⟩)
 by_cases o3:q.op=3
 ·rw[if_neg o1,if_neg o2,if_pos o3] at h1;rw[if_neg (by omega),if_neg (by omega)] at h1;simp at h1;exact .inr (.inr (.inl ⟨o3,h1⟩))
 rw[if_neg o1,if_neg o2,if_neg o3] at h1;by_cases o4:q.op=4\/q.op=5
 ·rw[if_pos o4] at h1;simp at h1;exact .inr (.inr (.inr (.inl ⟨o4,h1.2⟩)))
 rw[if_neg o4] at h1;by_cases o6:q.op=6
 ·rw[if_pos o6] at h1;simp at h1;exact .inr (.inr (.inr (.inr ⟨o6,h1.1⟩)))
 ·rw[if_neg o6] at h1;simp at h1
def Mq[hh:Has R L](hq:lu W R q s)(zv:q.ag.length<1000000)(aZ:q.aT.length<1000000)(h1:fS q=true->T W L (K (.tuple ⟨[.string (bs (bZ q)),.i 0]⟩)))(h0:fS q=false->T W L (K (.tuple ⟨[.string .empty,.i 1]⟩))):T W L (sj (dF q s) K):=by
 unfold sj
 repeat' first|apply ws;intros|apply wb|with_reducible refine IT hq zv aZ ?_|fail
 rename_i r1;cases hw:fS q with
 |false=>
  apply ws;intros;exact T.drop (h0 hw)
 |true=>
  have h1:=h1 hw;have hf:=nd hw;apply ws;intros;rename_i r2;refine MN ?_
  repeat' first|apply ws;intros|apply wb|with_reducible refine pM (by simp) ?_|fail
  unfold bZ at h1;refine bE (λg1=>?_) (λg1=>?_)
  ·have g1:q.op=1:=by simpa using g1
   rw[if_pos g1] at h1;have zV:q.ag.length<=8/\∀a∈q.ag,mw a:=by rcases hf with h|h|h|h|h<;>first|exact h.2|omega
   apply ws;intros;refine Z9 (R:=R) hq.ag zV.2 (by omega) (by simp[az]) ?_
   repeat' first|apply ws;intros|apply wb|with_reducible refine pY ?_|fail
   rw[aev,ad0];exact T.dp h1
  have g1: ¬q.op=1:=by simpa using g1
  rw[if_neg g1] at h1;refine bE (λg2=>?_) (λg2=>?_)
  ·have g2:q.op=2:=by simpa using g2
   rw[if_pos g2] at h1;have zV:q.aT.length<=8/\∀a∈q.aT,jT a:=by rcases hf with h|h|h|h|h<;>first|exact h.2|omega
   apply ws;intros;refine Z8 (R:=R) hq.aT zV.2 (by omega) (by simp[az]) ?_
   repeat' first|apply ws;intros|apply wb|with_reducible refine pY ?_|fail
   rw[aev,ad0];exact T.dp h1
  have g2: ¬q.op=2:=by simpa using g2
  rw[if_neg g2] at h1;refine bE (λg3=>?_) (λg3=>?_)
  ·have g3:q.op=3:=by simpa using g3
   rw[if_pos g3] at h1
   repeat' first|apply ws;intros|apply wb|with_reducible first|refine uL (by simp[az]) ?_|refine pY ?_|fail
   rw[aev];exact T.dp h1
  have g3: ¬q.op=3:=by simpa using g3
  rw[if_neg g3] at h1;refine bE (λg6=>?_) (λg6=>?_)
  ·have g6:q.op=6:=by simpa using g6
   rw[if_pos g6] at h1;apply ws;intros;refine Tp (by simp[az]) ?_
   repeat' first|apply ws;intros|apply wb|with_reducible refine pY ?_|fail
   rw[aev];exact T.dp h1
  have g6: ¬q.op=6:=by simpa using g6
  rw[if_neg g6] at h1;have zV:q.ids.length<=16:=by rcases hf with h|h|h|h|h<;>first|exact h.2|omega
  repeat' first|apply ws;intros|apply wb|with_reducible refine pM (by simp[az]) ?_|fail
  intro w ju;refine⟨λvv w=>∃i:Nat,i<=q.ids.length/\vv=[.string .empty,.i 0,.p (some (ad r2 0)),.l s.si q.ids.length s.ci,.i (q.ids.length:Int),.i (i:Int)]/\
   St W w (buf r2 (le .i64 1 q.op++(le .i64 1 (q.ids.length:Int)++(q.ids.take i).flatMap nb))::Sep.pt r1 (dF q s)::L),
   λvs _=>match vs with|[_,_,_,_,_,.int _ d]=>q.ids.length-d.toNat|_=>0,⟨0,ad2 _,rfl,by simpa using ju⟩,?_⟩
  rintro s5 n4 a1 sb5 Zl Zm n5 n6 w2 ⟨i,hi,e,fh⟩;cases e
  refine T.at ?_ fh;have hlen:(le .i64 1 q.op++(le .i64 1 (q.ids.length:Int)++(q.ids.take i).flatMap nb)).length<1099511627776:=by
   rw[adV,adV,dM re,adX,az,az];have:min i q.ids.length<=16:=by omega
   omega
  have e5:=lY i;refine dP (λg1=>?_) (λg1=>?_)
  ·have aZ:i<q.ids.length:=by omega
   have gx:=adS aZ;generalize q.ids[i]=x at gx;refine jY hq.ids ⟨by omega,by omega⟩ rfl λa ha=>?_;rw[adT];refine jX hq.ids ha gx rfl ?_
   repeat' first|apply ws;intros|apply wb|with_reducible refine EA hlen ?_|fail
   rw[e5];refine T.drop λw3 h3=>⟨⟨i+1,aZ,rfl,?_⟩,by show q.ids.length-((i+1:Nat):Int).toNat<q.ids.length-(i:Int).toNat;omega⟩;rw[aeb,gx,aeP];simpa [ad0] using h3
  ·have gr:i=q.ids.length:=by omega
   subst gr;rw[ad5]
   repeat' first|apply ws;intros|apply wb|with_reducible refine pY ?_|fail
   exact T.dp h1
end
def q0:iw:=⟨0,[],[],0,[],0,0,0,false,false,false,0⟩
def s0:r9:=⟨none,0,none,0,none,0⟩
instance{q q':iw}{s s':r9}:Wr (dF q s) 0 (dF q' s') (dF q' s'):=⟨rfl,adY _,tM q' s'⟩
instance{q:iw}{s:r9}:Wr (dF q s) 0 [.i 0,.l none 0 0,.l none 0 0,.i 0,.l none 0 0,.u 0,.u 0,.i 0,.i 0,.bool false,.bool false,.bool false,.i 0] (dF q0 s0):=⟨rfl,adY _,tM q0 s0⟩
instance{q:iw}{s:r9}{a:Nat}{f t m:Int}{d c l:Bool}:Wr (dF q s) 5 (nm a++([.i f,.i t,.bool d,.bool c,.bool l,.i m]:LV)) (dF ⟨q.op,q.ag,q.aT,q.now,q.ids,a,f,t,d,c,l,m⟩ s):=⟨rfl,by show 13<=13;decide,Gr ⟨q.op,q.ag,q.aT,q.now,q.ids,a,f,t,d,c,l,m⟩⟩
def HN(n:Int):iw:=⟨n,[],[],0,[],0,0,0,false,false,false,0⟩
def opC(n:Int):dF (HN n) s0=[.i n,.l none 0 0,.l none 0 0,.i 0,.l none 0 0,.u 0,.u 0,.i 0,.i 0,.bool false,.bool false,.bool false,.i 0]:=by
 simp[dF,lV,nm,HN,s0]
instance{x1 x2 x3 x4 x5 x6 x7 x8 x9 zF zE zD zC:Value}{n:Int}:Wr [x1,x2,x3,x4,x5,x6,x7,x8,x9,zF,zE,zD,zC] 0 [.i n,.l none 0 0,.l none 0 0,.i 0,.l none 0 0,.u 0,.u 0,.i 0,.i 0,.bool false,.bool false,.bool false,.i 0] (dF (HN n) s0):=by
 rw[<-opC n];exact⟨rfl,adY _,tM _ _⟩
def wC(l:List UInt8):iw×RS:=
 let x:RS:=(l,false)
 let y:=db 1 x
 if iF 1 x=1 then({q0 with op:=1,ag:=(many Ci D4 (iF 1 y).toNat (db 1 y)).1},(many Ci D4 (iF 1 y).toNat (db 1 y)).2)
 else if iF 1 x=2 then({q0 with op:=2,aT:=(many Ch D0 (iF 1 y).toNat (db 1 y)).1},(many Ch D0 (iF 1 y).toNat (db 1 y)).2)
 else if iF 1 x=3 then({q0 with op:=3,now:=iF 8 y},db 8 y)
 else if iF 1 x=6 then({q0 with op:=6,th:=vW y,fP:=iF 8 (db 16 y),rR:=iF 8 (db 8 (db 16 y)),rT:=Zr (db 8 (db 8 (db 16 y))),pB:=Zr (G9 (db 8 (db 8 (db 16 y)))),mJ:=Zr (G9 (G9 (db 8 (db 8 (db 16 y))))),hI:=iF 1 (G9 (G9 (G9 (db 8 (db 8 (db 16 y))))))},
  db 1 (G9 (G9 (G9 (db 8 (db 8 (db 16 y)))))))
 else({q0 with op:=iF 1 x,ids:=(many (db 16) vW (iF 1 y).toNat (db 1 y)).1},(many (db 16) vW (iF 1 y).toNat (db 1 y)).2)
def AJ(l:List UInt8):Bool:=(!(wC l).2.2&&decide ((wC l).2.1=[]))&&fS (wC l).1
def DY(x:RS):(G9 x).1.length<=x.1.length:=by
 unfold G9;split
 ·exact qI _ _
 ·exact qI _ _
section
variable {W:World} {L R:LH} {K:VK} {X:WK} {p r:Nat} {l:List UInt8} {q:iw} {s:r9} {A:HP}
def MR(h:∀r,T W (rd r (l,false)::L) (K (.p (some ⟨r,0,none⟩)))):T W L (lA (bs l) K):=λw hs=>om hs λr w' h'=>h r w' h'
def nQ.own{α:Type}{b:OA}{n c e:Nat}{g:α->LV}{xs:List α}(hg:∀x,(g x).length=e)(hn:n=xs.length):nQ W (Sep.own b n c e (xs.flatMap g)::L) g e b xs:=λw hw i x hx=>by
 obtain⟨hl,h0|⟨r,sp,hb,qL,yR,hs⟩⟩:=hw.lD (k:=0) rfl
 ·have:=(adU.1 hx).1;omega
 ·refine⟨⟨r,0,none⟩,hb,?_⟩;subst hb;rw[dU,adW];exact yy (k:=0) hw rfl (nI hg xs i x hx)
def nQ.nil{α:Type}{b:OA}{e:Nat}{g:α->LV}:nQ W R g e b []:=λw hw i x hx=>by simp at hx
def Mp{r1 r2:Nat}{x:RS}(hq:lu W (A::L) q s)(zv:q.ag.length<1000000)(aZ:q.aT.length<1000000)
 (h0:((!x.2&&decide (x.1=[]))&&fS q)=false->T W L (K (.tuple ⟨[.agg ⟨dF q0 s0⟩,.i 4]⟩)))
 (h1:((!x.2&&decide (x.1=[]))&&fS q)=true->T W (A::L) (K (.tuple ⟨[.agg ⟨dF q s⟩,.i 0]⟩))):
 T W (Sep.pt r2 (dF q s)::rd p x::Sep.pt r1 (dF q0 s0)::A::L) (iU.j1 K (some ⟨p,0,none⟩) r1 r2):=by
 unfold iU.j1;refine OV (r:=p) ?_;refine qC ?_;cases he:(!x.2&&decide (x.1=[])) with
 |false=>
  rw[he,ae3] at h0;have h0:=h0 rfl;rw[Bool.not_false,gW];apply ws;intros;exact T.dp h0
 |true=>
  rw[he,aeU] at h0 h1;rw[Bool.not_true,ch]
  repeat' first|apply ws;intros|apply wb|with_reducible refine IT (R:=A::L) hq zv aZ ?_|fail
  cases hw:fS q with
  |false=>
   have h0:=h0 hw;apply ws;intros;exact T.dp h0
  |true=>
   have h1:=h1 hw;apply ws;intros;exact T.dp h1
def PH(hl:l.length<1099511627776)
 (h0:AJ l=false->T W L (K (.tuple ⟨[.agg ⟨dF q0 s0⟩,.i 4]⟩)))
 (h1:AJ l=true->∀A s,(∀L',lu W (A::L') (wC l).1 s)->T W (A::L) (K (.tuple ⟨[.agg ⟨dF (wC l).1 s⟩,.i 0]⟩))):T W L (iU (bs l) K):=by
 unfold iU;refine qD λr1=>?_;refine MR λp=>?_;refine vk ?_;refine qZ hl (lG ?_);refine cN ⟨rfl,trivial⟩ ?_;refine qD λr2=>?_;apply ws;intros;have hy:=mX (m:=1) (x:=(l,false)) hl;have hb:=Qx (db 1 (l,false));have fin:∀(q:iw)(x:RS)(A:HP)(s:r9),wC l=(q,x)->(∀L',lu W (A::L') q s)->q.ag.length<1000000->q.aT.length<1000000->
  T W (A::Sep.pt r2 (dF q s)::rd p x::Sep.pt r1 (dF q0 s0)::L) (iU.j1 K (some ⟨p,0,none⟩) r1 r2):=by
  intro q x A s he hq zv aZ;unfold AJ at h0 h1;rw[he] at h0 h1;exact T.perm (Mp (hq L) zv aZ h0 λhh=>h1 hh A s hq) (ad1 (l₁:=[A]) (l₂:=[Sep.pt r2 (dF q s),rd p x,Sep.pt r1 (dF q0 s0)])|>.append_right L)
 unfold wC at fin;dsimp only at fin;generalize iF 1 (l,false)=op at fin⊢;generalize db 1 (l,false)=y at fin hy hb⊢;refine bE (λg1=>?_) (λg1=>?_)
 ·have g1:op=1:=by simpa [HN] using g1
  subst g1;rw[if_pos rfl] at fin;refine QJ hy λb c=>?_;have Gd:=wN (nx:=Ci) (nv:=D4) (iF 1 y).toNat (db 1 y);obtain⟨out,ho⟩:∃out,(many Ci D4 (iF 1 y).toNat (db 1 y)).1=out:=⟨_,rfl⟩;obtain⟨z,hz⟩:∃z,(many Ci D4 (iF 1 y).toNat (db 1 y)).2=z:=⟨_,rfl⟩;rw[ho,hz] at fin⊢;rw[ho] at Gd;refine tD ?_;refine mP (b:=b) λqL _=>?_;refine yC (r:=r2) (cs:=dF (HN 1) s0) (o:=1) (v:=.l b out.length c) (by decide) rfl ?_;exact fin _ _ (Sep.own b out.length c 14 (out.flatMap ak)) ⟨b,c,none,0,none,0⟩ rfl (λ_=>⟨nQ.own (λ_=>rfl) rfl,nQ.nil,nQ.nil,qL,adY _,adY _⟩) (by show out.length<_;omega) (by show 0<_;decide)
 have g1: ¬op=1:=by simpa [HN] using g1
 rw[if_neg g1] at fin;refine bE (λg2=>?_) (λg2=>?_)
 ·have g2:op=2:=by simpa [HN] using g2
  subst g2;rw[if_pos rfl] at fin;refine QG hy λb c=>?_;have Gd:=wN (nx:=Ch) (nv:=D0) (iF 1 y).toNat (db 1 y);obtain⟨out,ho⟩:∃out,(many Ch D0 (iF 1 y).toNat (db 1 y)).1=out:=⟨_,rfl⟩;obtain⟨z,hz⟩:∃z,(many Ch D0 (iF 1 y).toNat (db 1 y)).2=z:=⟨_,rfl⟩;rw[ho,hz] at fin⊢;rw[ho] at Gd;refine tD ?_;refine mP (b:=b) λqL _=>?_;refine yC (r:=r2) (cs:=dF (HN 2) s0) (o:=2) (v:=.l b out.length c) (by decide) rfl ?_;exact fin _ _ (Sep.own b out.length c 16 (out.flatMap ai)) ⟨none,0,b,c,none,0⟩ rfl (λ_=>⟨nQ.nil,nQ.own (λ_=>rfl) rfl,nQ.nil,adY _,qL,adY _⟩) (by show 0<_;decide) (by show out.length<_;omega)
 have g2: ¬op=2:=by simpa [HN] using g2
 rw[if_neg g2] at fin;refine bE (λg3=>?_) (λg3=>?_)
 ·have g3:op=3:=by simpa [HN] using g3
  subst g3;rw[if_pos rfl] at fin;refine s7 hy (lG ?_);refine yC (r:=r2) (cs:=dF (HN 3) s0) (o:=3) (v:=.i (iF 8 y)) (by decide) rfl ?_;refine eW (e:=1) ?_;exact fin _ _ (Sep.own none 0 0 1 []) s0 rfl (λ_=>⟨nQ.nil,nQ.nil,nQ.nil,adY _,adY _,adY _⟩) (by show 0<_;decide) (by show 0<_;decide)
 have g3: ¬op=3:=by simpa [HN] using g3
 rw[if_neg g3] at fin;refine bE (λg6=>?_) (λg6=>?_)
 ·have g6:op=6:=by simpa [HN] using g6
  subst g6;rw[if_pos rfl] at fin;have b1:=mX (m:=16) hy;have b2:=mX (m:=8) b1;have b3:=mX (m:=8) b2;have b4:=Nat.lt_of_le_of_lt (DY _) b3;have b5:=Nat.lt_of_le_of_lt (DY _) b4;have b6:=Nat.lt_of_le_of_lt (DY _) b5;refine EH hy (xC rfl ?_);refine s7 b1 (lG ?_);refine s7 b2 (lG ?_);refine EJ b3 (qC ?_);refine EJ b4 (qC ?_);refine EJ b5 (qC ?_);refine qZ b6 (lG ?_);refine cN ⟨rfl,rfl,rfl,rfl,rfl,rfl,rfl,trivial⟩ ?_;refine cN rfl ?_;apply ws;intros;refine eW (e:=1) ?_;exact fin _ _ (Sep.own none 0 0 1 []) s0 rfl (λ_=>⟨nQ.nil,nQ.nil,nQ.nil,adY _,adY _,adY _⟩) (by show 0<_;decide) (by show 0<_;decide)
 have g6: ¬op=6:=by simpa [HN] using g6
 rw[if_neg g6] at fin;refine QH hy λb c=>?_;have Gd:=wN (nx:=db 16) (nv:=vW) (iF 1 y).toNat (db 1 y);obtain⟨out,ho⟩:∃out,(many (db 16) vW (iF 1 y).toNat (db 1 y)).1=out:=⟨_,rfl⟩;obtain⟨z,hz⟩:∃z,(many (db 16) vW (iF 1 y).toNat (db 1 y)).2=z:=⟨_,rfl⟩;rw[ho,hz] at fin⊢;rw[ho] at Gd;refine tD ?_;refine mP (b:=b) λqL _=>?_;refine yC (r:=r2) (cs:=dF (HN op) s0) (o:=4) (v:=.l b out.length c) (by rw[M'];decide) rfl ?_;exact fin _ _ (Sep.own b out.length c 2 (out.flatMap nm)) ⟨none,0,none,0,b,c⟩ rfl (λ_=>⟨nQ.nil,nQ.nil,nQ.own (λ_=>rfl) rfl,adY _,adY _,qL⟩) (by show 0<_;decide) (by show 0<_;decide)
end
def Iy{n:Int}{i:Nat}(hi:i<8):Go.Sep.byteOf adP n i=Go.Sep.byteOf adP (n+18446744073709551616) i:=by
 unfold Go.Sep.byteOf shr;have h1:(8* (i:Int)).toNat=8* i:=by omega
 have h2:min (8* i) adP.bits=8* i:=by show min (8* i) 64=_;omega
 rw[h1,h2];have hp:(0:Int)<2^(8* i):=Int.pow_pos (by decide);rw[Int.fdiv_eq_ediv_of_nonneg _ (Int.le_of_lt hp),Int.fdiv_eq_ediv_of_nonneg _ (Int.le_of_lt hp)];have hq:(18446744073709551616:Int)=256* 2^(56-8* i)* 2^(8* i):=by
  have:(256:Int)* 2^(56-8* i)* 2^(8* i)=2^(8+(56-8* i)+8* i):=by
   rw[Int.pow_add,Int.pow_add];rfl
  rw[this,show 8+(56-8* i)+8* i=64 by omega];rfl
 rw[hq,Int.add_mul_ediv_right _ _ (by omega)]
 congr 2
 generalize n/2^(8* i)=a;generalize (2:Int)^(56-8* i)=c;simp only[IntKind.wrap,IntKind.bits,IntKind.signed];simp
def KN{n:Int}(h:q6 n):jM (le .i64 8 n)=n:=by
 unfold q6 at h;by_cases h0:0<=n
 ·obtain⟨m,rfl⟩:=ad3 h0;unfold jM;rw[nA m 8 (by omega)];have h8:(256:Nat)^8=18446744073709551616:=rfl;rw[h8,aeB (by omega),aw (by omega)]
 ·obtain⟨m,hm⟩:=ad3 (show 0<=n+18446744073709551616 by omega);have e:le .i64 8 n=le .i64 8 (m:Int):=by
   unfold le;apply ae9;intro i hi;rw[List.mem_range] at hi;rw[Iy hi,hm]
  rw[e];unfold jM;rw[nA m 8 (by omega)];have h8:(256:Nat)^8=18446744073709551616:=rfl;rw[h8,aeB (by omega)];simp[IntKind.wrap,IntKind.bits,IntKind.signed];split<;>omega
def Am(n:Nat):∀w:Nat,jW ((afo w).map λi=>UInt8.ofNat (n/256^i%256))=n%256^w
 |0=>by simp[jW,Nat.mod_one]
 |w+1=>by
  rw[List.range_succ,aep,An,Am n w,aei,List.length_range,Nat.mod_pow_succ]
  congr 2
  have e:(UInt8.ofNat (n/256^w%256)).toNat=n/256^w%256:=UInt8.toNat_ofNat_of_lt' (Nat.mod_lt _ (by decide));show(UInt8.ofNat (n/256^w%256)).toNat+256* 0=_;rw[e];omega
def PI{n:Nat}(h:n<aK):jW (nb n)=n:=by
 unfold nb;rw[Am];exact aeB (by unfold aK at h;exact h)
section
variable {r:List UInt8} {n:Int} {m:Nat}
def Fx(l:List UInt8)(k:Nat)(hl:l.length=k):db k (l++r,false)=(r,false):=by
 unfold db;rw[if_neg (by simp only[aeh,false_or,adV];omega),qn _ _ k hl]
def Jh(l:List UInt8)(k:Nat)(hl:l.length=k):iF k (l++r,false)=jM l:=by
 unfold iF;rw[if_neg (by simp only[aeh,false_or,adV];omega),oU _ _ k hl]
def WT(h:0<=n/\n<=255):iF 1 (le .i64 1 n++r,false)=n:=by
 obtain⟨k,rfl⟩:=ad3 h.1;rw[Jh _ _ (az _ _ _),j0 (by rw[az];omega),nA k 1 (by omega)];have:(256:Nat)^1=256:=rfl;rw[this,aeB (by omega)]
def VZ(h:0<=n/\n<=65535):iF 2 (le .i64 2 n++r,false)=n:=by
 obtain⟨k,rfl⟩:=ad3 h.1;rw[Jh _ _ (az _ _ _),j0 (by rw[az];omega),nA k 2 (by omega)];have:(256:Nat)^2=65536:=rfl;rw[this,aeB (by omega)]
def rd4(h:0<=n/\n<=4294967295):iF 4 (le .i64 4 n++r,false)=n:=by
 obtain⟨k,rfl⟩:=ad3 h.1;rw[Jh _ _ (az _ _ _),j0 (by rw[az];omega),nA k 4 (by omega)];have:(256:Nat)^4=4294967296:=rfl;rw[this,aeB (by omega)]
def VY(h:q6 n):iF 8 (le .i64 8 n++r,false)=n:=by
 rw[Jh _ _ (az _ _ _),KN h]
def Pe(h:m<aK):vW (nb m++r,false)=m:=by
 unfold vW KL;rw[if_neg (by simp),if_neg (by show ¬(nb m++r).length<16;rw[adV,re];omega)];show jW ((nb m++r).take 16)=m;rw[oU _ _ 16 (re m),PI h]
def WY:db 1 (le .i64 1 n++r,false)=(r,false):=Fx _ _ (az _ _ _)
def V0:db 2 (le .i64 2 n++r,false)=(r,false):=Fx _ _ (az _ _ _)
def Zq:db 4 (le .i64 4 n++r,false)=(r,false):=Fx _ _ (az _ _ _)
def TZ:db 8 (le .i64 8 n++r,false)=(r,false):=Fx _ _ (az _ _ _)
def Qw:db 16 (nb m++r,false)=(r,false):=Fx _ _ (re _)
def A2(a:aP):Ci (ib a++r,false)=(r,false):=by
 have e:ib a++r=nb a.id++(nb a.dp++(nb a.dq++(nb a.cp++(nb a.cq++(le .i64 4 a.aG++(le .i64 2 a.code++(le .i64 2 a.flags++(le .i64 8 a.ae++r)))))))):=by
  unfold ib;simp[ad0]
 rw[e];unfold Ci;simp only[uA,Qw,Zq,V0,TZ]
def FM{a:aP}(ha:vf a)(hg:mw a):D4 (ib a++r,false)=a:=by
 unfold D4;rw[A2,if_neg (by simp)];have e:ib a++r=nb a.id++(nb a.dp++(nb a.dq++(nb a.cp++(nb a.cq++(le .i64 4 a.aG++(le .i64 2 a.code++(le .i64 2 a.flags++(le .i64 8 a.ae++r)))))))):=by
  unfold ib;simp[ad0]
 rw[e];simp only[uA,Qw,Zq,V0,TZ];rw[Pe ha.id,Pe ha.dp,Pe ha.dq,Pe ha.cp,Pe ha.cq,rd4 hg.1,VZ hg.2.1,VZ hg.2.2,VY ha.ae]
def FT(t:Move):mH t++r=nb t.id++(nb t.aF++(nb t.ar++(nb t.aB++(nb t.pending++(le .i64 4 t.timeout++(le .i64 4 t.aG++(le .i64 2 t.code++(le .i64 2 t.flags++(le .i64 8 t.ae++(le .i64 8 t.born++r)))))))))):=by
 unfold mH;simp[ad0]
def wJ(t:Move):Ch (mH t++r,false)=(r,false):=by
 rw[FT];unfold Ch;simp only[uA,Qw,Zq,V0,TZ]
def A3{t:Move}(ht:uX t)(hg:jT t):D0 (mH t++r,false)=t:=by
 unfold D0;rw[wJ,if_neg (by simp),FT];simp only[uA,Qw,Zq,V0,TZ];rw[Pe ht.id,Pe ht.aF,Pe ht.ar,Pe ht.aB,Pe ht.pending,rd4 hg.1,rd4 hg.2.1,VZ hg.2.2.1,VZ hg.2.2.2,VY ht.ae,VY ht.born]
def A8{α:Type}{nx:RS->RS}{nv:RS->α}{g:α->List UInt8}:∀(l:List α),(∀x∈l,∀r,nx (g x++r,false)=(r,false)/\nv (g x++r,false)=x)->∀r,many nx nv l.length (l.flatMap g++r,false)=(l,(r,false))
 |[],_,r=>rfl
 |x::l,h,r=>by
  rw[ad',ox,aeG,ad0,(h x (by simp) _).1,(h x (by simp) _).2,A8 l (λy hy=>h y (by simp[hy])) r]
  rfl
end
def canon(q:iw):iw:=if q.op=1 then{q0 with op:=1,ag:=q.ag} else if q.op=2 then{q0 with op:=2,aT:=q.aT} else{q0 with op:=3,now:=q.now}
def CP{q:iw}(hw:fS q=true)(he:dH q=true)(hA:∀a∈q.ag,vf a)(hT:∀t∈q.aT,uX t):wC (bZ q)=(canon q,([],false)):=by
 have Us:q.op=1\/q.op=2\/q.op=3:=of_decide_eq_true he;have hf:=nd hw;unfold wC bZ canon;dsimp only;rw[WT (by omega),WY];by_cases o1:q.op=1
 ·have zV:q.ag.length<=8/\∀a∈q.ag,mw a:=by rcases hf with h|h|h|h|h<;>first|exact h.2|omega
  rw[if_pos o1,if_pos o1,if_pos o1,WT (by omega),WY,adT];have:=A8 (nx:=Ci) (nv:=D4) (g:=ib) q.ag (λa ha r=>⟨A2 a,FM (hA a ha) (zV.2 a ha)⟩) [];rw[aed] at this;rw[this]
 by_cases o2:q.op=2
 ·have zV:q.aT.length<=8/\∀a∈q.aT,jT a:=by rcases hf with h|h|h|h|h<;>first|exact h.2|omega
  rw[if_neg o1,if_neg o1,if_neg o1,if_pos o2,if_pos o2,if_pos o2,WT (by omega),WY,adT];have:=A8 (nx:=Ch) (nv:=D0) (g:=mH) q.aT (λa ha r=>⟨wJ a,A3 (hT a ha) (zV.2 a ha)⟩) [];rw[aed] at this;rw[this]
 ·have o3:q.op=3:=by omega
  have zV:0<=q.now/\q.now<=1099511627776:=by rcases hf with h|h|h|h|h<;>first|exact h.2|omega
  rw[if_neg o1,if_neg o1,if_neg o1,if_neg o2,if_neg o2,if_neg o2,if_pos o3,if_pos o3];have e8:le .i64 8 q.now=le .i64 8 q.now++[]:=(aed _).symm;rw[e8,VY (by unfold q6;omega),TZ]
def BE(m:Model){q:iw}(he:dH q=true):aH m (canon q)=aH m q/\jt (canon q)=jt q:=by
 have Us:q.op=1\/q.op=2\/q.op=3:=of_decide_eq_true he;unfold canon;by_cases o1:q.op=1
 ·rw[if_pos o1];unfold aH jt;simp[o1]
 by_cases o2:q.op=2
 ·rw[if_neg o1,if_pos o2];unfold aH jt;simp[o2]
 ·have o3:q.op=3:=by omega
  rw[if_neg o1,if_neg o2];unfold aH jt;simp[o3]
def BF{q:iw}(hw:fS q=true)(he:dH q=true):fS (canon q)=true/\dH (canon q)=true:=by
 have Us:q.op=1\/q.op=2\/q.op=3:=of_decide_eq_true he;unfold fS kN lE at *;rw[(BE ⟨[],[],0,0⟩ he).2];unfold dH canon;by_cases o1:q.op=1
 ·simp[o1] at hw⊢;exact hw
 by_cases o2:q.op=2
 ·simp[o2] at hw⊢;exact hw
 ·have o3:q.op=3:=by omega
  simp[o3] at hw⊢;exact hw
def Fw{q:iw}(hw:fS q=true)(he:dH q=true)(hA:∀a∈q.ag,vf a)(hT:∀t∈q.aT,uX t):AJ (bZ q)=true:=by
 unfold AJ;rw[CP hw he hA hT,(BF hw he).1];rfl
section
variable {W:World} {L R:LH} {K:VK} {X:WK} {p:Nat} {b:ax}
def Lz{q:Core}{f:Core->LH}[i:Lc (dL p) L q f](hl:q.vs.length<1000000)(h:T W (f {q with vs:=[]}) (K (.tuple ⟨[]⟩))):T W L (ja (some ⟨p,0,none⟩) K):=by
 refine mz (p:=p) λb1 c1 b2 c2 b3 c3 hp R2 g1 g2 NX=>?_;unfold ja fw;apply ws;intros;refine mP (b:=b1) λqL Db=>?_;refine MK (b:=b1) (by rw[ko,Db];simp) (λv hv=>?_) λzs=>?_
 ·simp only[Builtin.zeroCells,Array.toList_map,aeC] at hv;obtain⟨j,_,rfl⟩:=hv;have:(⟨[Value.nilFunc]⟩:Array Value)[j%(⟨[Value.nilFunc]⟩:Array Value).size]! =.nilFunc:=by
   have:j%(⟨[Value.nilFunc]⟩:Array Value).size=0:=Nat.mod_one j;rw[this];rfl
  rw[this];rfl
 apply ws;intros;refine vn (i:=0) (by omega) ?_;refine xD (b:=b1) (i:=0) (by omega) ?_;apply ws;intros;rw[Nat.zero_mul,afh];exact NX [] {q with vs:=[]} b1 c1 b2 c2 b3 c3 hp _ g1 g2 h
def Fe{α:Type}{g:α->LV}{e l:Nat}(h:T W (nY g e l (p,[])::L) X):T W (Sep.pt l [.l none 0 0,.p (some (ad p 0))]::L) X:=λw hw=>by
 have h2:=(hw.push (A:=own none 0 0 e []) (oK e)).perm (aej.swap _ _ _);exact h w (St.nJ (none,0) (St.mU [_,_] L h2))
def Oz(h:∀p la lk ti tn,T W (dL p ⟨la,lk,ti,tn,[],[],[],0,0⟩::nY ak 14 la (p,[])::nY aJ 33 lk (p,[])::kY ti (λ_=>none,0)::kY tn (λ_=>none,0)::L) (K (.p (some ⟨p,0,none⟩)))):T W L (pW K):=by
 unfold pW;refine Tb λti=>?_;refine vk ?_;refine Tb λtn=>?_;refine vk ?_;refine cN ⟨rfl,rfl,trivial⟩ ?_;refine qD λr=>?_;unfold my oe;refine vm ?_;refine cN ⟨rfl,trivial⟩ ?_;refine qD λla=>?_;refine vk ?_;refine cN ⟨rfl,trivial⟩ ?_;refine qD λlk=>?_;refine vk ?_;refine yC (r:=r) (cs:=[.l none 0 0,.p none,.p none,.p (some ⟨ti,0,none⟩),.p (some ⟨tn,0,none⟩),.l none 0 0,.l none 0 0,.i 0,.i 0]) (o:=1) (v:=.p (some ⟨la,0,none⟩)) (by show 1<9;decide) rfl ?_;refine yC (r:=r) (cs:=[.l none 0 0,.p (some ⟨la,0,none⟩),.p none,.p (some ⟨ti,0,none⟩),.p (some ⟨tn,0,none⟩),.l none 0 0,.l none 0 0,.i 0,.i 0]) (o:=2) (v:=.p (some ⟨lk,0,none⟩)) (by show 2<9;decide) rfl ?_;refine Fe (g:=aJ) (e:=33) ?_;refine T.HE (Fe (g:=ak) (e:=14) ?_);refine eW (e:=4) (eW (e:=2) (eW (e:=1) ?_));have:=vQ (W:=W) (p:=r) (q:=⟨la,lk,ti,tn,[],[],[],0,0⟩) (b1:=none) (c1:=0) (b2:=none) (c2:=0) (b3:=none) (c3:=0) (h:=[]) (X:=K (.p (some ⟨r,0,none⟩))) (λj hj x y hx=>by simp at hx) (aej.refl _) (h r la lk ti tn);refine T.perm this ?_;exact(ad1 (l₁:=[_,_,_,_,_]) (l₂:=[_])|>.append_right (_::_::L)).trans (aej.append_left [_,_,_,_,_,_] (aej.swap _ _ _))
def C8{α:Type}{key:α->Nat}{l:List α}(hn:(l.map key).Nodup){i:Nat}{x:α}(hx:l[i]?=some x):(l.take i).find? (λa=>key a=key x)=none:=by
 obtain⟨hi,rfl⟩:=adU.1 hx;rw[afc];intro a ha hk;obtain⟨j,hj,rfl⟩:=List.getElem_of_mem ha;rw[adX] at hj;rw[List.getElem_take] at hk;have:=aeY.1 hn j i (by simpa using by omega) (by simpa using hi) (by omega);simp only[List.getElem_map] at this;exact this (by simpa using hk)
def B8(l:List Kept)(j:Nat):cO 0 (l.take j)=(cO 0 l).take j:=by
 apply afb;intro i;rw[iN,afi,afi,iN];split<;>rfl
def VE(hg:Good b){sa sk:OA}{ca ck:Nat}[hh:Has R L](hA:nQ W R ak 14 sa b.ag)(hK:nQ W R aJ 33 sk b.kept)
 (h:∀p,T W (bh p (b,[])::L) (K (.tuple ⟨[.p (some ⟨p,0,none⟩),.i 0]⟩))):T W L (cx sa b.ag.length ca sk b.kept.length ck b.clock b.ae K):=by
 have lH:=hg.lH;have many:=hg.many;have pI:=hg.ae;have XV:=hg.clock;unfold cx;refine Oz λp la lk ti tn=>?_;refine vk ?_;refine dV (by simp;omega) ?_;unfold cx.j3;rw[show decide (((b.kept.length:Nat):Int)>96)=false by simp;omega,ch];unfold cx.j4;rw[show decide (b.clock<0)=false by simp;omega,ch];unfold cx.j5;rw[show decide (b.clock>1099511627776)=false by simp;omega,ch];refine dV (by simp;omega) ?_;rw[show decide (b.ae>1099511627776)=false by simp;omega];unfold cx.j1;rw[ch];intro w L2;refine⟨λvv w=>∃(i:Nat)(vs:LV),i<=b.ag.length/\vs.length=i/\vv=[.p none,.i 0,.p (some ⟨p,0,none⟩),.l sa b.ag.length ca,.i (b.ag.length:Int),.i (i:Int)]/\
                                                                                                                                                                     St W w (dL p ⟨la,lk,ti,tn,vs,[],[],0,0⟩::nY ak 14 la (p,b.ag.take i)::nY aJ 33 lk (p,[])::kY ti (D9 (b.ag.take i))::kY tn (λ_=>none,0)::L),
  λvs _=>match vs with|[_,_,_,_,_,.int _ d]=>b.ag.length-d.toNat|_=>0,⟨0,[],ad2 _,rfl,rfl,L2⟩,?_⟩
 rintro p2 n3 p3 rA pz ra n4 n5 w2 ⟨i,vs,hi,hvs,e,fh⟩;cases e
 refine T.at ?_ fh;have e5:=lY i;refine dP (λg1=>?_) (λg1=>?_)
 ·have aZ:i<b.ag.length:=by omega
  have gx:=adS aZ;generalize b.ag[i]=x at gx;have La:=C8 (key:=λx:aP=>x.id) hg.ids gx;have kH:(D9 (b.ag.take i)).1 x.id=none:=by show afv _ _=_;rw[mK (key:=λx:aP=>x.id) La];rfl
  have zu:(b.ag.take i).length=i:=by rw[adX];omega
  have hsn:=wT (key:=λx:aP=>x.id) La;have oy:b.ag.take (i+1)=b.ag.take i++[x]:=by rw[aeb,gx];rfl
  refine jY hA ⟨by omega,by omega⟩ rfl λa ha=>?_;rw[adT];refine jX hA ha gx rfl ?_;apply ws;intros;refine zg (t:=ti) (x:=D9 (b.ag.take i)) ?_;rw[kH];simp only[aey,aeK];apply ws;intros;refine Pd (p:=p) (l:=la) (x:=x) (items:=b.ag.take i) (by rw[zu];omega) (by show vs.length<_;omega) λr3 r4=>?_;apply ws;intros;refine Kc (t:=ti) (x:=D9 (b.ag.take i)) (by show(b.ag.take i).length<=1000;omega) kH ?_;apply ws;intros;rw[e5];refine T.drop (T.drop (T.drop ?_));refine λw3 h3=>⟨⟨i+1,vs++[xm r3 r4],aZ,by simp;omega,rfl,?_⟩,by show b.ag.length-((i+1:Nat):Int).toNat<b.ag.length-(i:Int).toNat;omega⟩;rw[oy];rw[show D9 (b.ag.take i++[x])=_ from hsn];exact h3
 ·have gr:i=b.ag.length:=by omega
  subst gr;rw[ad5];intro w3 Xh;refine⟨λvv w=>∃(j:Nat)(vs:LV),j<=b.kept.length/\vs.length<=1000+j/\vv=[.p none,.i 0,.p (some ⟨p,0,none⟩),.l sk b.kept.length ck,.i (b.kept.length:Int),.i (j:Int)]/\
              St W w (dL p ⟨la,lk,ti,tn,vs,cO 0 (b.kept.take j),(b.kept.take j).filterMap df,0,0⟩::nY ak 14 la (p,b.ag)::nY aJ 33 lk (p,b.kept.take j)::kY ti (D9 b.ag)::kY tn (B1 (b.kept.take j))::L),
   λvs _=>match vs with|[_,_,_,_,_,.int _ d]=>b.kept.length-d.toNat|_=>0,⟨0,vs,ad2 _,by omega,rfl,Xh⟩,?_⟩
  rintro p7 n8 p8 zm yE yF n9 Zs w5 ⟨j,tB,hj,aap,e,JI⟩;cases e
  refine T.at ?_ JI;have e6:=lY j;refine dP (λg1=>?_) (λg1=>?_)
  ·have aZ:j<b.kept.length:=by omega
   have gx:=adS aZ;have gk:=hg.L1 _ (aeg aZ);have Gf:∀k∈b.kept.take j,k.move.ae<(b.kept[j]'aZ).move.ae:=λk hk=>by
    obtain⟨m,hm,rfl⟩:=List.getElem_of_mem hk;rw[adX] at hm;rw[List.getElem_take];exact aeY.1 hg.rising m j (by omega) aZ (by omega)
   generalize b.kept[j]=x at gx gk Gf;have La:=C8 (key:=λx:Kept=>x.move.id) hg.names gx;have kH:(B1 (b.kept.take j)).1 x.move.id=none:=by show afv _ _=_;rw[mK (key:=λx:Kept=>x.move.id) La];rfl
   have zu:(b.kept.take j).length=j:=by rw[adX];omega
   have hsn:=wT (key:=λx:Kept=>x.move.id) La;have oy:b.kept.take (j+1)=b.kept.take j++[x]:=by rw[aeb,gx];rfl
   have Xq:oF (cO 0 (b.kept.take j)):=by rw[B8];exact List.Pairwise.sublist (List.take_sublist _ _) hg.tL
   refine jY hK ⟨by omega,by omega⟩ rfl λa ha=>?_;rw[adT];refine jX hK ha gx rfl ?_;apply ws;intros;rename_i r2;refine zg (t:=tn) (x:=B1 (b.kept.take j)) ?_;rw[kH];simp only[aey,aeK];apply ws;intros;refine dV (by have:=gk.fate;simp;omega) ?_;apply ws;intros;refine dV (by have:=gk.fate;simp;omega) ?_;apply ws;intros;refine II (l:=lk) ?_;rw[zu];apply ws;intros;refine JX (p:=p) Xq (by rw[iM];omega) (λy hy=>?_) ?_
   ·obtain⟨k,hk,e⟩:=wo hy;rw[e];exact Gf k hk
   apply ws;intros;unfold cx.j2;rw[Bool.not_true,ch];apply ws;intros;refine O6 (p:=p) (l:=lk) (x:=x) (items:=b.kept.take j) (by rw[zu];omega) (by show tB.length<_;omega) λr3 r4=>?_;rw[zu];apply ws;intros;refine Kc (t:=tn) (x:=B1 (b.kept.take j)) (by show(b.kept.take j).length<=1000;omega) kH ?_;apply ws;intros;refine Of (k:=x) gk ?_;apply ws;intros;rename_i r5;rw[e6];have Ck:cO 0 (b.kept.take (j+1))=cO 0 (b.kept.take j)++[(x.move.ae,(j:Int))]:=by rw[oy,q9,zu,adW]
   have XK:B1 (b.kept.take (j+1))=(sg (B1 (b.kept.take j)).1 x.move.id (some (j:Int)),(B1 (b.kept.take j)).2+1):=by rw[oy];rw[show B1 (b.kept.take j++[x])=_ from hsn,zu]
   cases hd:df x with
   |none=>
    simp only[aey];apply ws;intros;refine T.drop (T.drop (T.drop (T.drop ?_)));refine λw3 h3=>⟨⟨j+1,tB++[qV r3 r4],aZ,by simp;omega,rfl,?_⟩,by show b.kept.length-((j+1:Nat):Int).toNat<b.kept.length-(j:Int).toNat;omega⟩;have Lb:(b.kept.take (j+1)).filterMap df=(b.kept.take j).filterMap df:=by rw[oy,List.filterMap_append];simp[hd]
    rw[Ck,XK,Lb,oy];exact h3
   |some y=>
    have ey:Im x=y:=by
     unfold df at hd;split at hd
     ·cases hd;rfl
     ·cases hd
    simp only[aeq];rw[ey];apply ws;intros;simp only[dU,adW];refine Ew (p:=p) (e':=(b.kept.take j).filterMap df++[y]) (by
     have:=List.length_filterMap_le df (b.kept.take j)
     show((b.kept.take j).filterMap df).length<_
     omega) (aej.refl _) ?_
    apply ws;intros;refine T.drop (T.drop (T.drop (T.drop ?_)));refine λw3 h3=>⟨⟨j+1,tB++[qV r3 r4],aZ,by simp;omega,rfl,?_⟩,by show b.kept.length-((j+1:Nat):Int).toNat<b.kept.length-(j:Int).toNat;omega⟩;have Lb:(b.kept.take (j+1)).filterMap df=(b.kept.take j).filterMap df++[y]:=by rw[oy,List.filterMap_append];simp[hd]
    rw[Ck,XK,Lb,oy];exact h3
  ·have gr:j=b.kept.length:=by omega
   subst gr;rw[ad5];apply ws;intros;refine Hs (p:=p) ?_;apply ws;intros;refine Hr (p:=p) ?_;apply ws;intros;refine Lz (p:=p) (by show tB.length<_;omega) ?_;apply ws;intros;have fin:=h p;intro w7 hw7;have h2:=hw7.push (A:=rr []) trivial;refine Ac (p:=p) (la:=la) (lk:=lk) (ti:=ti) (tn:=tn) (vs:=[]) (bx:=[]) (c:=cZ b) (hs:=[]) (R:=L) trivial (λw hw=>fin w (St.and_intro hg hw)) w7 ?_;exact h2.perm (ad1 (l₁:=[rr []]) (l₂:=[_,_,_,_,_])|>.append_right L)
end
def lO(k:Kept):List UInt8:=mH k.asked++mH k.move++le .i64 1 k.fate
def rL(k:Kept):(lO k).length=217:=by unfold lO;rw[adV,adV,ow,ow,az]
def u5(b:ax):List UInt8:=le .i64 1 1++le .i64 8 b.clock++le .i64 8 b.ae++le .i64 2 (b.ag.length:Int)++le .i64 2 (b.kept.length:Int)
def De(b:ax):(u5 b).length=21:=by simp only[u5,adV,az]
def bl(b:ax):List UInt8:=u5 b++b.ag.flatMap ib++b.kept.flatMap lO
section
variable {W:World} {L R:LH} {K:VK} {X:WK} {p:Nat} {b:ax} {hs:List C} {f:ax×List C->LH}
def ES[i:Lc (bh p) L (b,hs) f](h:T W L (K (.i b.clock))):T W L (iq (some ⟨p,0,none⟩) K):=by
 have hL:f (b,hs)=L:=i.same;refine G8 (p:=p) λla lk ti tn vs bx R hg hc lR=>?_;have fin:=lR [] b hs vs bx _ hg hc (by rw[hL];exact h);unfold iq;apply ws;intros;exact fin
def J8[i:Lc (bh p) L (b,hs) f](h:T W L (K (.i b.ae))):T W L (jQ (some ⟨p,0,none⟩) K):=by
 have hL:f (b,hs)=L:=i.same;refine G8 (p:=p) λla lk ti tn vs bx R hg hc lR=>?_;have fin:=lR [] b hs vs bx _ hg hc (by rw[hL];exact h);unfold jQ;apply ws;intros;exact fin
def vV[i:Lc (bh p) L (b,hs) f](h:∀bb c,T W (own bb b.ag.length c 14 (b.ag.flatMap ak)::L) (K (.l bb b.ag.length c))):T W L (fQ (some ⟨p,0,none⟩) K):=by
 have hL:f (b,hs)=L:=i.same;refine G8 (p:=p) λla lk ti tn vs bx R hg hc lR=>?_;have lH:=hg.lH;unfold fQ;apply ws;intros;refine VP (l:=la) (by show b.ag.length<_;omega) λbb c=>?_;apply ws;intros;exact lR [_] b hs vs bx _ hg hc (by rw[hL];exact h bb c)
def EM[i:Lc (bh p) L (b,hs) f](h:∀bb c,T W (own bb b.kept.length c 33 (b.kept.flatMap aJ)::L) (K (.l bb b.kept.length c))):T W L (im (some ⟨p,0,none⟩) K):=by
 have hL:f (b,hs)=L:=i.same;refine G8 (p:=p) λla lk ti tn vs bx R hg hc lR=>?_;have many:=hg.many;unfold im;apply ws;intros;refine VH (l:=lk) (by show b.kept.length<_;omega) λbb c=>?_;apply ws;intros;exact lR [_] b hs vs bx _ hg hc (by rw[hL];exact h bb c)
def CE[i:Lc (bh p) L (b,hs) f](h:T W L (K (.string (bs (bl b))))):T W L (oY (some ⟨p,0,none⟩) K):=by
 refine mT (p:=p) λhg=>?_;have lH:=hg.lH;have many:=hg.many;unfold oY;refine MM ?_;refine qD λr1=>?_;refine MN ?_;refine pM (by simp) (zj ?_);refine ES (p:=p) (lG ?_);refine uL (by simp only[adV,aen,az];omega) (zj ?_);refine J8 (p:=p) (lG ?_);refine uL (by simp only[adV,aen,az];omega) (zj ?_);refine vV (p:=p) λb1 c1=>?_;refine tD ?_;refine Ad (by simp only[adV,aen,az];omega) (zj ?_);refine EM (p:=p) λb2 c2=>?_;refine tD ?_;refine Ad (by simp only[adV,aen,az];omega) (zj ?_);refine vV (p:=p) λb3 c3=>?_;refine tD ?_;have e0:[]++le .i64 1 1++le .i64 8 b.clock++le .i64 8 b.ae++le .i64 2 (b.ag.length:Int)++le .i64 2 (b.kept.length:Int)=u5 b:=by unfold u5;simp
 rw[e0];intro w L2;refine⟨λvv w=>∃i:Nat,i<=b.ag.length/\vv=[.string .empty,.p (some (ad r1 0)),.l b3 b.ag.length c3,.i (b.ag.length:Int),.i (i:Int)]/\
    St W w (own b3 b.ag.length c3 14 (b.ag.flatMap ak)::own b2 b.kept.length c2 33 (b.kept.flatMap aJ)::own b1 b.ag.length c1 14 (b.ag.flatMap ak)::buf r1 (u5 b++(b.ag.take i).flatMap ib)::L),
  λvs _=>match vs with|[_,_,_,_,.int _ d]=>b.ag.length-d.toNat|_=>0,⟨0,ad2 _,rfl,by simpa using L2⟩,?_⟩
 rintro s1 a1 zm yE yF n3 n4 w2 ⟨i,hi,e,fh⟩;cases e
 refine T.at ?_ fh;have e5:=lY i;have hlen:(u5 b++(b.ag.take i).flatMap ib).length<=21+32* 96:=by
  rw[adV,De,dM oE,adX];have:min i b.ag.length* 96<=32* 96:=aeE _ (by omega);omega
 refine dP (λg1=>?_) (λg1=>?_)
 ·have aZ:i<b.ag.length:=by omega
  have gx:=adS aZ;have gm:=(hg.Mj _ (aeg aZ)).vL;generalize b.ag[i]=x at gx gm;refine bQ (b:=b3) ⟨by omega,by omega⟩ λrb hb=>?_;subst hb;rw[adT];refine dx (λ_=>rfl) gx ?_
  repeat' first|apply ws;intros|apply wb|with_reducible refine OI gm (by omega) ?_|fail
  rw[e5];refine T.drop λw3 h3=>⟨⟨i+1,aZ,rfl,?_⟩,by show b.ag.length-((i+1:Nat):Int).toNat<b.ag.length-(i:Int).toNat;omega⟩;rw[aeb,gx,aeP];simpa [ad0] using h3
 ·have gr:i=b.ag.length:=by omega
  subst gr;rw[ad5] at hlen⊢;refine EM (p:=p) λb5 c5=>?_;refine tD ?_;intro w4 hw4;refine⟨λvv w=>∃j:Nat,j<=b.kept.length/\vv=[.string .empty,.p (some (ad r1 0)),.l b5 b.kept.length c5,.i (b.kept.length:Int),.i (j:Int)]/\
              St W w (own b5 b.kept.length c5 33 (b.kept.flatMap aJ)::own b3 b.ag.length c3 14 (b.ag.flatMap ak)::own b2 b.kept.length c2 33 (b.kept.flatMap aJ)::own b1 b.ag.length c1 14 (b.ag.flatMap ak)::buf r1 (u5 b++b.ag.flatMap ib++(b.kept.take j).flatMap lO)::L),
   λvs _=>match vs with|[_,_,_,_,.int _ d]=>b.kept.length-d.toNat|_=>0,⟨0,ad2 _,rfl,by simpa using hw4⟩,?_⟩
  rintro s2 a3 Zn WQ VT n5 n6 w5 ⟨j,hj,e,JI⟩;cases e
  refine T.at ?_ JI;have e6:=lY j;have tW:(u5 b++b.ag.flatMap ib++(b.kept.take j).flatMap lO).length<=21+32* 96+96* 217:=by
   rw[adV,dM rL,adX];have:min j b.kept.length* 217<=96* 217:=aeE _ (by omega);omega
  refine dP (λg1=>?_) (λg1=>?_)
  ·have aZ:j<b.kept.length:=by omega
   have gx:=adS aZ;have gm:=hg.L1 _ (aeg aZ);generalize b.kept[j]=x at gx gm;refine bQ (b:=b5) ⟨by omega,by omega⟩ λrb hb=>?_;subst hb;rw[adT];refine dx (λ_=>rfl) gx ?_
   repeat' first|apply ws;intros|apply wb|with_reducible refine Ht gm.IE (by omega) ?_|fail
   refine Ht gm.Jr (by rw[adV,ow];omega) (zj ?_)
   repeat' first|apply ws;intros|apply wb|with_reducible refine pM (by simp only[adV,ow] at tW⊢;omega) ?_|fail
   rw[e6];refine T.drop λw3 h3=>⟨⟨j+1,aZ,rfl,?_⟩,by show b.kept.length-((j+1:Nat):Int).toNat<b.kept.length-(j:Int).toNat;omega⟩;rw[aeb,gx,aeP];simpa [ad0,lO] using h3
  ·have gr:j=b.kept.length:=by omega
   subst gr;rw[ad5];refine pY (p:=r1) (PT ?_);exact T.dp h
end
section
variable {W:World} {L R:LH} {K:VK} {X:WK} {p:Nat} {b:ax}
def sq{b:ax}(hg:Good b):(bl b).length=21+b.ag.length* 96+b.kept.length* 217:=by
 unfold bl;rw[adV,adV,De,dM oE,dM rL]
def Fk(hg:Good b)(h:∀p,T W (bh p (b,[])::L) (K (.tuple ⟨[.p (some ⟨p,0,none⟩),.i 0]⟩))):T W L (kQ (bs (bl b)) K):=by
 have lH:=hg.lH;have many:=hg.many;have pI:=hg.ae;have XV:=hg.clock;have hlen:=sq hg;have sO:bl b=le .i64 1 1++(le .i64 8 b.clock++(le .i64 8 b.ae++(le .i64 2 (b.ag.length:Int)++(le .i64 2 (b.kept.length:Int)++(b.ag.flatMap ib++b.kept.flatMap lO))))):=by
  unfold bl u5;simp only[ad0]
 unfold kQ;refine MR λr=>?_;refine vk ?_;refine qZ (by show(bl b).length<_;omega) (lG ?_);rw[sO];rw[WT (by omega),WY];refine dV (by decide) ?_;have QZ:(le .i64 8 b.clock++(le .i64 8 b.ae++(le .i64 2 (b.ag.length:Int)++(le .i64 2 (b.kept.length:Int)++(b.ag.flatMap ib++b.kept.flatMap lO))))).length<1099511627776:=by
  rw[sO,adV] at hlen;omega
 refine s7 QZ (lG ?_);rw[VY (by unfold q6;omega),TZ];rw[adV] at QZ;have Ps:(le .i64 8 b.ae++(le .i64 2 (b.ag.length:Int)++(le .i64 2 (b.kept.length:Int)++(b.ag.flatMap ib++b.kept.flatMap lO)))).length<1099511627776:=by omega
 refine s7 Ps (lG ?_);rw[VY (by unfold q6;omega),TZ];rw[adV] at Ps;have ZE:(le .i64 2 (b.ag.length:Int)++(le .i64 2 (b.kept.length:Int)++(b.ag.flatMap ib++b.kept.flatMap lO))).length<1099511627776:=by omega
 refine Ae ZE (lG ?_);rw[VZ (by omega),V0];rw[adV] at ZE;have hl5:(le .i64 2 (b.kept.length:Int)++(b.ag.flatMap ib++b.kept.flatMap lO)).length<1099511627776:=by omega
 refine Ae hl5 (lG ?_);rw[VZ (by omega),V0];refine uM (r:=r) (qC ?_);rw[ch];refine RW (r:=r) (lG ?_);have Bi:(b.ag.flatMap ib++b.kept.flatMap lO).length=b.ag.length* 96+b.kept.length* 217:=by
  rw[adV,dM oE,dM rL]
 have e1:adP.wrap ((b.ag.length:Int)* 96)=(b.ag.length:Int)* 96:=aw (by omega);have e2:adP.wrap ((b.kept.length:Int)* 217)=(b.kept.length:Int)* 217:=aw (by omega);have e3:adP.wrap ((b.ag.length:Int)* 96+(b.kept.length:Int)* 217)=(b.ag.length:Int)* 96+(b.kept.length:Int)* 217:=aw (by omega);rw[e1,e2,e3];rw[if_neg (by simp),show((((b.ag.flatMap ib++b.kept.flatMap lO).length:Nat):Int)!=(b.ag.length:Int)* 96+(b.kept.length:Int)* 217)=false by rw[Bi];simp];unfold kQ.j1;rw[ch];refine eW (e:=14) ?_;intro w L2;refine⟨λvv w=>∃(i:Nat)(bo:OA)(cc:Nat),i<=b.ag.length/\vv=[.p none,.i 0,.p (some ⟨r,0,none⟩),.i b.clock,.i b.ae,.i (b.kept.length:Int),.l bo (b.ag.take i).length cc,.i (b.ag.length:Int),.i (i:Int)]/\
                                                                                                                                                                                                                                                                                                      St W w (own bo (b.ag.take i).length cc 14 ((b.ag.take i).flatMap ak)::rd r ((b.ag.drop i).flatMap ib++b.kept.flatMap lO,false)::L),
  λvs _=>match vs with|[_,_,_,_,_,_,_,_,.int _ d]=>b.ag.length-d.toNat|_=>0,⟨0,none,0,ad2 _,rfl,L2⟩,?_⟩
 rintro p2 n6 p3 n7 n8 n9 bo VR cc Zs T3 w2 ⟨i,b0,c0,hi,e,fh⟩;cases e
 refine T.at ?_ fh;have e5:=lY i;have zu:(b.ag.take i).length=i:=by rw[adX];omega
 refine dP (λg1=>?_) (λg1=>?_)
 ·have aZ:i<b.ag.length:=by omega
  have gm:=hg.Mj _ (aeg aZ);have gx:=adS aZ;have XR:b.ag.drop i=b.ag[i]::b.ag.drop (i+1):=aex aZ;generalize b.ag[i]=x at gm gx XR;have yR:(b.ag.drop i).flatMap ib++b.kept.flatMap lO=ib x++((b.ag.drop (i+1)).flatMap ib++b.kept.flatMap lO):=by rw[XR,aeG,ad0]
  have Db:((b.ag.drop i).flatMap ib++b.kept.flatMap lO).length<1099511627776:=by
   rw[adV,dM oE,dM rL,ad4];have:(b.ag.length-i)* 96<=32* 96:=aeE _ (by omega);have:b.kept.length* 217<=96* 217:=aeE _ (by omega);omega
  rw[yR] at Db⊢;refine OJ Db ?_;rw[A2,FM gm.ok gm.vL];apply ws;intros;refine gZ (b:=bo) (x:=x) rfl rfl rfl (by omega) (by omega) (eV _) λb2 c2=>?_;rw[e5];have oy:b.ag.take (i+1)=b.ag.take i++[x]:=by rw[aeb,gx];rfl
  refine T.drop λw3 h3=>⟨⟨i+1,b2,c2,aZ,?_,?_⟩,by show b.ag.length-((i+1:Nat):Int).toNat<b.ag.length-(i:Int).toNat;omega⟩
  ·rw[oy];simp
  ·rw[oy];simpa using h3
 ·have gr:i=b.ag.length:=by omega
  subst gr;rw[ad5,List.drop_length,List.flatMap_nil,aev];refine eW (e:=33) ?_;intro w3 Xh;refine⟨λvv w=>∃(j:Nat)(bk:OA)(ck:Nat),j<=b.kept.length/\vv=[.p none,.i 0,.p (some ⟨r,0,none⟩),.i b.clock,.i b.ae,.l bo b.ag.length cc,.l bk (b.kept.take j).length ck,.i (b.kept.length:Int),.i (j:Int)]/\
              St W w (own bk (b.kept.take j).length ck 33 ((b.kept.take j).flatMap aJ)::own bo b.ag.length cc 14 (b.ag.flatMap ak)::rd r ((b.kept.drop j).flatMap lO,false)::L),
   λvs _=>match vs with|[_,_,_,_,_,_,_,_,.int _ d]=>b.kept.length-d.toNat|_=>0,⟨0,none,0,ad2 _,rfl,Xh⟩,?_⟩
  rintro p4 Sv p5 L0 V2 rA pz ra bk yE ck V1 uA w5 ⟨j,b1,c1,hj,e,JI⟩;cases e
  refine T.at ?_ JI;have e6:=lY j;have adw:(b.kept.take j).length=j:=by rw[adX];omega
  refine dP (λg2=>?_) (λg2=>?_)
  ·have aZ:j<b.kept.length:=by omega
   have gm:=hg.L1 _ (aeg aZ);have gx:=adS aZ;have XR:b.kept.drop j=b.kept[j]::b.kept.drop (j+1):=aex aZ;generalize b.kept[j]=x at gm gx XR;have yR:(b.kept.drop j).flatMap lO=mH x.asked++(mH x.move++(le .i64 1 x.fate++(b.kept.drop (j+1)).flatMap lO)):=by rw[XR,aeG];simp[lO,ad0]
   have Db:((b.kept.drop j).flatMap lO).length<1099511627776:=by
    rw[dM rL,ad4];have:(b.kept.length-j)* 217<=96* 217:=aeE _ (by omega);omega
   rw[yR] at Db⊢;have XB:(mH x.move++(le .i64 1 x.fate++(b.kept.drop (j+1)).flatMap lO)).length<1099511627776:=by rw[adV] at Db;omega
   have aaC:(le .i64 1 x.fate++(b.kept.drop (j+1)).flatMap lO).length<1099511627776:=by rw[adV] at XB;omega
   refine Hu Db ?_;rw[wJ,A3 gm.asked gm.IE];apply ws;intros;refine Hu XB ?_;rw[wJ,A3 gm.move gm.Jr];apply ws;intros;refine qZ aaC (lG ?_);rw[WT (by have:=gm.fate;omega),WY];refine cN ⟨rfl,rfl,rfl,trivial⟩ ?_;refine cN ⟨rfl,trivial⟩ ?_;refine qD λr3=>?_;refine gZ (b:=bk) (x:=x) (by show(ai x.asked++(ai x.move++[.i x.fate]))++[]=aJ x;rw[aed];rfl) rfl rfl (by omega) (by omega) (jf _) λb2 c2=>?_;rw[e6];have oy:b.kept.take (j+1)=b.kept.take j++[x]:=by rw[aeb,gx];rfl
   refine T.drop λw6 h6=>⟨⟨j+1,b2,c2,aZ,?_,?_⟩,by show b.kept.length-((j+1:Nat):Int).toNat<b.kept.length-(j:Int).toNat;omega⟩
   ·rw[oy];simp
   ·rw[oy];simpa using h6
  ·have gr:j=b.kept.length:=by omega
   subst gr;rw[ad5,List.drop_length,List.flatMap_nil];refine VE (R:=own bk b.kept.length ck 33 (b.kept.flatMap aJ)::own bo b.ag.length cc 14 (b.ag.flatMap ak)::rd r ([],false)::L) hg ?_ (nQ.own (λ_=>rfl) rfl) λp=>?_
   ·have:=nQ.own (W:=W) (L:=rd r ([],false)::L) (b:=bo) (n:=b.ag.length) (c:=cc) (e:=14) (g:=ak) (xs:=b.ag) (λ_=>rfl) rfl;exact this.mono
   apply ws;intros;refine dV (by decide) ?_;refine OV (r:=r) (qC ?_);refine T.sub (h p) ?_;exact nh
end
end Go.Up
namespace Go.Sep
open Go.Den Go.RowKit Go.Prog Go.bC
def ma{D:ay}{a to q a2:Int}{s:List UInt8}(h:iH D a to q=some (s,a2)):a<a2/\a2<=to/\0<=a/\to<=(D.safe.length:Int)/\s.length<=32768/\a2=a+(dA (12+s.length):Int):=by
 unfold iH at h;split at h
 ·cases h
 rename_i ha;split at h
 ·cases h
 rename_i m j d hv;split at h
 ·cases h
 rename_i hj;split at h
 ·cases h
 rename_i hc;split at h
 ·cases h
 rename_i t ht;obtain⟨l1,l2,l3,l4,l5⟩:=take_length ht;simp only[aec.injEq,Prod.mk.injEq] at h;obtain⟨h1,h2⟩:=h;subst h1;have hn: ¬32768<iF 4 (db 8 (d.data.toList,false)):=λhh=>hc (.inr hh);have h4:=DZ (db 8 (d.data.toList,false));generalize iF 4 (db 8 (d.data.toList,false))=n6 at *;have hp:=nL (12+n6).toNat;have e:(12+n6).toNat=12+(t.drop 12).length:=by rw[ad4];omega
 rw[e] at h2 l3 hp;rw[<-h2];have hl:(t.drop 12).length=t.length-12:=ad4;exact⟨by omega,by omega,l2,l4,by omega,rfl⟩
def u1(D:ay)(to:Int):Nat->Int->Int->List (List UInt8)×Int×Int
 |0,a,q=>([],a,q)
 |f+1,a,q=>match iH D a to (q+1) with
  |none=>([],a,q)
  |some (s,a2)=>(s::(u1 D to f a2 (q+1)).1,(u1 D to f a2 (q+1)).2)
def gP(D:ay)(to a q:Int):List (List UInt8)×Int×Int:=u1 D to (to-a).toNat a q
def xU{D:ay}{a to q:Int}(h:to<=a):iH D a to q=none:=by unfold iH;rw[if_pos h]
def wH{D:ay}{to:Int}:∀(f f':Nat)(a q:Int),(to-a).toNat<=f->(to-a).toNat<=f'->u1 D to f a q=u1 D to f' a q
 |0,f',a,q,h1,h2=>by
  have hn:=xU (D:=D) (a:=a) (to:=to) (q:=q+1) (by omega);cases f' with
  |zero=>rfl
  |succ f'=>simp only[u1,hn]
 |f+1,0,a,q,h1,h2=>by
  have hn:=xU (D:=D) (a:=a) (to:=to) (q:=q+1) (by omega);simp only[u1,hn]
 |f+1,f'+1,a,q,h1,h2=>by
  simp only[u1];cases hn:iH D a to (q+1) with
  |none=>rfl
  |some y=>
   obtain⟨s,a2⟩:=y;have:=ma hn;dsimp only;rw[wH f f' a2 (q+1) (by omega) (by omega)]
def AY{D:ay}{to a q:Int}(h:iH D a to (q+1)=none):gP D to a q=([],a,q):=by
 unfold gP;cases hf:(to-a).toNat with
 |zero=>rfl
 |succ f=>simp only[u1,h]
def AZ{D:ay}{to a q a2:Int}{s:List UInt8}(h:iH D a to (q+1)=some (s,a2)):gP D to a q=(s::(gP D to a2 (q+1)).1,(gP D to a2 (q+1)).2):=by
 have hi:=ma h;unfold gP;obtain⟨f,hf⟩:∃f,(to-a).toNat=f+1:=⟨(to-a).toNat-1,by omega⟩;rw[hf];simp only[u1,h];rw[wH f (to-a2).toNat a2 (q+1) (by omega) (by omega)]
section
variable {W w:World} {L:LH} {k d:Nat} {D:ay}
def Cc(l:List UInt8):Value:=.string (bs l)
def FJ{lo hi:Int}{K:VK}(h:St W w L)(hk:L[k]?=some (dW d D))(hK:K (.bool (decide (0<=lo/\lo<hi/\hi<=(D.safe.length:Int)))) w):nF (some ⟨d,0,none⟩) lo hi K w:=by
 have no: ¬(0<=lo/\lo<hi/\hi<=(D.safe.length:Int))->K (.bool false) w:=λhn=>by rw[decide_eq_false hn] at hK;exact hK
 unfold nF;refine de (λh1=>?_) (λh1=>no (by omega));refine de (λh2=>?_) (λh2=>no (by omega));refine jV h hk ?_;simp only[nz,adQ,adR];have:decide (hi<=(D.safe.length:Int))=decide (0<=lo/\lo<hi/\hi<=(D.safe.length:Int)):=by rw[decide_eq_decide];omega
 rw[this];exact hK
def LU{lo hi q:Int}{K:VK}(h:St W w L)(hk:L[k]?=some (dW d D))(fJ:D.Ok)(hp:0<=lo/\lo<hi/\hi<=(D.safe.length:Int))(hq:0<=q/\q<=1152921504606846976)
 (hK:∀r b c w',(∃n:Nat,n<=4096/\(gP D hi lo q).1.length=n/\(gP D hi lo q).2.2=q+n/\lo<=(gP D hi lo q).2.1/\(gP D hi lo q).2.1<=hi)->St W w' (own b (gP D hi lo q).1.length c 1 ((gP D hi lo q).1.map Cc)::pt r (nG d ⟨lo,hi,(gP D hi lo q).2.1,(gP D hi lo q).2.2,false⟩)::L)->
  K (.tuple ⟨[.p (some ⟨r,0,none⟩),.l b (gP D hi lo q).1.length c,.i 0]⟩) w'):gT (some ⟨d,0,none⟩) lo hi q K w:=by
 have rP:=fJ.lH;unfold gT;simp only[nz,adQ,adR];refine FJ h hk ?_;rw[decide_eq_true hp];simp only[nz,adQ,adR];refine de (λh1=>by omega) (λ_=>?_);have e0:decide (q>1152921504606846976)=false:=decide_eq_false (by omega);rw[e0];unfold gT.j1;simp only[nz,adQ,adR];refine fH h λr w h=>?_;have h0:=h.push (A:=own none 0 0 1 (([]:List (List UInt8)).map Cc)) (oK 1);refine⟨λus w'=>∃(acc:List (List UInt8))(a:Int)(b:OA)(n c:Nat),us=[.p none,.l none 0 0,.i 0,.p (some ⟨r,0,none⟩),.l b n c]/\acc.length=n/\lo+n<=a/\a<=hi/\
                                                                     gP D hi lo q=(acc++(gP D hi a (q+n)).1,(gP D hi a (q+n)).2)/\St W w' (own b n c 1 (acc.map Cc)::pt r (nG d ⟨lo,hi,a,q+n,false⟩)::L),
  λus _=>match us with|[_,_,_,_,.slice _ n _]=>5000-n|_=>0,⟨[],lo,none,0,0,rfl,rfl,by omega,by omega,by simp,?_⟩,?_⟩
 ·have:nG d ⟨lo,hi,lo,q+((0:Nat):Int),false⟩=[.p (some ⟨d,0,none⟩),.i lo,.i hi,.i lo,.i q,.bool false]:=by
   rw[show q+((0:Nat):Int)=q from by omega];rfl
  rw[this];exact h0
 rintro p2 M5 VR P7 n4 a1 uR qe uQ w2 ⟨acc,a,b,n,c,he,hn,ha,hah,ho,h⟩;cases he
 refine jG h λw h=>?_;refine bJ (k:=1) h rfl (v:=.i a) rfl ?_;simp only[nz,adQ,adR];refine bJ (k:=1) h rfl (v:=.i (q+qe)) rfl ?_;simp only[nz,adQ,adR];have ew:adP.wrap (q+(qe:Int)+1)=q+(qe:Int)+1:=aw (by omega);rw[ew];refine KR (k:=k+2) h (by rw[ad9,ad9];exact hk) fJ (by omega) (by omega) λw h=>?_;cases hx:iH D a hi (q+(qe:Int)+1) with
 |none=>
  unfold wK;simp only[nz,adQ,adR];refine gB (k:=1) h rfl rfl ?_;rw[AY hx,aed] at ho;have:=hK r uR uQ w;rw[ho] at this;dsimp only at this;rw[hn] at this;exact this ⟨qe,by omega,rfl,rfl,by omega,by omega⟩ h
 |some y=>
  obtain⟨s,a2⟩:=y;obtain⟨b1,b2,b3,b4,b5,b6⟩:=ma hx;unfold wK;simp only[nz,adQ,adR];refine gB (k:=1) h rfl rfl ?_;refine⟨trivial,fH h λr2 w h=>?_⟩;refine pX (k:=1) (ys:=[Cc s]) h rfl (BS (k':=0) h rfl rfl λj v hj=>by rw[adW];exact hj) (by simp) rfl (by omega) (by omega) (by simp[Cc,Value.oneCell']) λb' c' w h=>?_;simp only[nz,adQ,adR] at h⊢;refine bJ (k:=2) h rfl (v:=.i (q+qe)) rfl ?_;simp only[nz,adQ,adR];refine l7 (k:=2) h rfl (adZ rfl) rfl λw h=>?_;simp only[nz,adQ,adR] at h;refine l7 (k:=2) h rfl (adZ rfl) rfl λw h=>?_;simp only[nz,adQ,adR] at h;rw[ew] at h;refine⟨⟨acc++[s],a2,b',qe+1,c',rfl,by rw[adV,hn];rfl,by omega,by omega,?_,?_⟩,by omega⟩
  ·rw[ho,AZ hx,show q+(qe:Int)+1=q+((qe+1:Nat):Int) from by omega,ad0];rfl
  ·rw[aep];have:nG d ⟨lo,hi,a2,q+((qe+1:Nat):Int),false⟩=[.p (some ⟨d,0,none⟩),.i lo,.i hi,.i a2,.i (q+(qe:Int)+1),.bool false]:=by
    rw[show q+((qe+1:Nat):Int)=q+(qe:Int)+1 from by omega];rfl
   rw[this];exact h.drop
end
def Az(d:BA):Int:=iF 8 (d.data.toList,false)
def Ow(l:List UInt8):(part (bs l) 0).data.toList=l.take 104:=by
 unfold part;rw[extract_toList,Nat.mul_zero,ae1]
 rfl
def Gp(seq:Int)(s:BA):bG seq s=le .i64 8 seq++(le .i64 4 s.size++s.data.toList):=by simp only[bG,ad0]
def HM(seq:Int)(s:BA):∃r,(part (bs (bG seq s)) 0).data.toList=le .i64 8 seq++(le .i64 4 s.size++r):=by
 rw[Ow,Gp];refine⟨s.data.toList.take 92,?_⟩;have h8:(le .i64 8 seq).length=8:=az _ _ _;have h4:(le .i64 4 (s.size:Int)).length=4:=az _ _ _;rw[List.take_append,List.take_append,h8,h4,aea (by rw[h8];omega),aea (l:=le .i64 4 (s.size:Int)) (by rw[h4];omega)]
def Mx{m:Nat}(h:m<4294967296):jW (le .i64 4 (m:Int))=m:=by
 rw[nA m 4 (by omega)];exact aeB h
def KO{n:Int}(h:0<=n/\n<9223372036854775808):jM (le .i64 8 n)=n:=by
 obtain⟨m,rfl⟩:=ad3 h.1;unfold jM;rw[nA m 8 (by omega)];have h8:(256:Nat)^8=18446744073709551616:=rfl;rw[h8,aeB (by omega),aw (by omega)]
def qH{seq:Int}{s:BA}(hq:0<=seq/\seq<9223372036854775808)(hs:s.size<=32768):
 Az (part (bs (bG seq s)) 0)=seq/\(db 4 (db 8 ((part (bs (bG seq s)) 0).data.toList,false))).2=false/\iF 4 (db 8 ((part (bs (bG seq s)) 0).data.toList,false))=(s.size:Int):=by
 obtain⟨r,hr⟩:=HM seq s;unfold Az;rw[hr];have h8:(le .i64 8 seq).length=8:=az _ _ _;have h4:(le .i64 4 (s.size:Int)).length=4:=az _ _ _;have e1:db 8 (le .i64 8 seq++(le .i64 4 s.size++r),false)=(le .i64 4 s.size++r,false):=by
  unfold db;rw[if_neg (by simp only[aeh,false_or,adV,h8];omega),qn _ _ 8 h8]
 have e2:iF 8 (le .i64 8 seq++(le .i64 4 s.size++r),false)=seq:=by
  unfold iF;rw[if_neg (by simp only[aeh,false_or,adV,h8];omega),oU _ _ 8 h8,KO hq]
 have e3:db 4 (le .i64 4 (s.size:Int)++r,false)=(r,false):=by
  unfold db;rw[if_neg (by simp only[aeh,false_or,adV,h4];omega),qn _ _ 4 h4]
 have e4:iF 4 (le .i64 4 (s.size:Int)++r,false)=(s.size:Int):=by
  unfold iF;rw[if_neg (by simp only[aeh,false_or,adV,h4];omega),oU _ _ 4 h4,j0 (by rw[h4];omega),Mx (by omega)]
 rw[e1,e2,e3,e4];exact⟨rfl,rfl,rfl⟩
def oz(seq:Int)(s:BA):(bs (bG seq s)).size=12+s.size:=by rw[bw,u9]
def Fc{D:ay}{a to n:Int}{s:BA}(hn:1<=n/\n<=1152921504606846976)(h0:0<=a)(Pj:a+(dA s.size:Int)<=to)(hlen:to<=(D.safe.length:Int))(rP:D.safe.length<=4096)
 (hr:∀i:Nat,i<dA s.size->(D.read (a+i)).1=leaf n i (part s i)):take D a to n s.size=some s.data.toList:=by
 have hb:s.size<=104* dA s.size:=by unfold dA;split<;>omega
 have Pp:∀q:Nat,(part s q).size=min (104* (q+1)) s.size-104* q:=λq=>by unfold part;rw[rC]
 have nV:s.size<=425984:=by omega
 unfold take;rw[if_neg (by rw[adT];omega),adT,xz (s:=s) (dA s.size) 0 (λq _ hq=>by
  have hg:Good n q (part s q):=⟨hn.1,hn.2,by omega,by omega,jy s q⟩
  rw[hr q (by omega),jA hg]
  exact⟨kS hg,by rw[Pp];omega⟩)]
 congr 1
 rw[Nat.mul_zero,ae1,aea (by rw[cy];exact hb)]
def yK{D:ay}{a to n q:Int}{s:BA}(hn:1<=n/\n<=1152921504606846976)(hq:0<=q/\q<9223372036854775808)(hs:s.size<=32768)(h0:0<=a)(Pj:a+(dA (12+s.size):Int)<=to)(hlen:to<=(D.safe.length:Int))(rP:D.safe.length<=4096)
 (hr:∀i:Nat,i<dA (12+s.size)->(D.read (a+i)).1=leaf n i (part (bs (bG q s)) i)):iH D a to q=some (s.data.toList,a+(dA (12+s.size):Int)):=by
 have wW:=oz q s;have hp:=nL (12+s.size);obtain⟨p1,p2,p3⟩:=qH hq hs;have h00:=hr 0 hp;rw[show a+((0:Nat):Int)=a from by omega] at h00;have hg:Good n ((0:Nat):Int) (part (bs (bG q s)) 0):=⟨hn.1,hn.2,by omega,by omega,jy _ 0⟩;have ht:=Fc (D:=D) (a:=a) (to:=to) (s:=bs (bG q s)) hn h0 (by rw[wW];exact Pj) hlen rP (by rw[wW];exact hr);unfold iH;rw[if_neg (by omega),h00,jA hg,kS hg];dsimp only;unfold Az at p1;rw[if_neg (by rintro(hh|hh);exact hh rfl;exact hh p1),p2,p3,if_neg (by rintro(hh|hh);cases hh;omega)];rw[wW] at ht;have e1:((12+s.size:Nat):Int)=12+(s.size:Int):=by omega
 rw[e1] at ht;rw[ht];dsimp only;have e2:(12+(s.size:Int)).toNat=12+s.size:=by omega
 have e3:(bs (bG q s)).data.toList.drop 12=s.data.toList:=by
  show(bG q s).drop 12=_;unfold bG;exact qn _ _ 12 (by rw[adV,az,az])
 rw[e2,e3]
def yB{D D':ay}{a n:Int}{size:Nat}:∀(k i:Nat),(∀j:Nat,i<=j->j<i+k->(D'.read (a+j)).1=(D.read (a+j)).1)->jo D' a n size i k=jo D a n size i k
 |0,i,_=>rfl
 |k+1,i,h=>by
  rw[kP,kP,h i (adY _) (by omega),yB k (i+1) (λj h1 h2=>h j (by omega) (by omega))]
def qK{D D':ay}{a to q a2:Int}{s:List UInt8}(h:iH D a to q=some (s,a2))(hlen:D'.safe.length=D.safe.length)(hr:∀j:Int,a<=j->j<a2->(D'.read j).1=(D.read j).1):iH D' a to q=some (s,a2):=by
 obtain⟨i1,i2,i3,i4,i5,i6⟩:=ma h;have h0:=hr a (by omega) (by omega);have adk:=h;unfold iH at h⊢;rw[h0];split at h
 ·cases h
 rename_i ha;rw[if_neg ha];split at h
 ·cases h
 rename_i m j d hv;split at h
 ·cases h
 rename_i hj;rw[if_neg hj];split at h
 ·cases h
 rename_i hc;rw[if_neg hc];split at h
 ·cases h
 rename_i t ht;obtain⟨l1,l2,l3,l4,l5⟩:=take_length ht;have F6:take D' a to m (12+iF 4 (db 8 (d.data.toList,false)))=some t:=by
  simp only[aec.injEq,Prod.mk.injEq] at h;rw[<-ht];unfold take;rw[hlen,yB _ 0 (λj h1 h2=>hr (a+j) (by omega) (by omega))]
 rw[F6];dsimp only;exact h
def xR{D:ay}{a to q:Int}(h:∀m d,iG (D.read a).1.data.toList=some (m,0,d)->Az d≠q):iH D a to q=none:=by
 unfold iH;split
 ·rfl
 split
 ·rfl
 rename_i m j d hv;by_cases hj:j=0
 ·subst hj;rw[if_pos (.inr (h m d hv))]
 ·rw[if_pos (.inl hj)]
def gh(D:ay)(to:Int):Int->Int->List (List UInt8)->Int->Prop
 |a,_,[],e=>a=e
 |a,q,s::r,e=>∃a2,iH D a to (q+1)=some (s,a2)/\gh D to a2 (q+1) r e
def GH{D:ay}{to:Int}:∀(r:List (List UInt8)) {a q e:Int},gh D to a q r e->a+r.length<=e
 |[],a,q,e,h=>by unfold gh at h;simp;omega
 |s::r,a,q,e,⟨a2,h1,h2⟩=>by
  have:=ma h1;have:=GH r h2;rw[ad'];omega
def BD{D:ay}{to:Int}:∀(r:List (List UInt8)) {a q e:Int},gh D to a q r e->iH D e to (q+r.length+1)=none->gP D to a q=(r,e,q+r.length)
 |[],a,q,e,h,hn=>by
  unfold gh at h;subst h;have e0:q+(([]:List (List UInt8)).length:Int)=q:=by simp
  rw[e0] at hn⊢;exact AY hn
 |s::r,a,q,e,⟨a2,h1,h2⟩,hn=>by
  have e1:q+((s::r).length:Int)=q+1+(r.length:Int):=by rw[ad'];omega
  rw[e1] at hn⊢;rw[AZ h1,BD r h2 hn]
def qW{D D':ay}{to:Int}(hlen:D'.safe.length=D.safe.length):∀(r:List (List UInt8)) {a q e:Int},gh D to a q r e->(∀j:Int,a<=j->j<e->(D'.read j).1=(D.read j).1)->gh D' to a q r e
 |[],a,q,e,h,_=>h
 |s::r,a,q,e,⟨a2,h1,h2⟩,hr=>by
  have hi:=ma h1;have hl:=GH r h2;exact⟨a2,qK h1 hlen (λj h3 h4=>hr j h3 (by omega)),qW hlen r h2 (λj h3 h4=>hr j (by omega) h4)⟩
def BC{D:ay}{to:Int}:∀(r:List (List UInt8)) {a q e e2:Int} {s:List UInt8},gh D to a q r e->iH D e to (q+r.length+1)=some (s,e2)->gh D to a q (r++[s]) e2
 |[],a,q,e,e2,s,h,hn=>by
  unfold gh at h;subst h;have e0:q+(([]:List (List UInt8)).length:Int)=q:=by simp
  rw[e0] at hn;exact⟨e2,hn,rfl⟩
 |x::r,a,q,e,e2,s,⟨a2,h1,h2⟩,hn=>by
  have e1:q+((x::r).length:Int)=q+1+(r.length:Int):=by rw[ad'];omega
  rw[e1] at hn;exact⟨a2,h1,BC r h2 hn⟩
def PJ.more(J:PJ)(s:BA):PJ:={J with at':=J.at'+(dA (12+s.size):Int),seq:=J.seq+1}
def OF{n:Nat}{D:ay}{J:PJ}{number:Int}{s:BA}(hc:Calm n D)(bS:n<=4096)(hJ:J.Ok D)(Pk:J.dX=false)(me:1<=number/\number<=1152921504606846976)(Cl:J.seq<1152921504606846976)(hr:room J s.size):
 ∃D',py D J number s=(D',J.more s,0)/\Calm n D'/\D'.later=[]/\(J.more s).Ok D'/\(∀i:Nat,i<dA (12+s.size)->(D'.read (J.at'+i)).1=leaf number i (part (bs (bG (J.seq+1) s)) i))/\
  (∀j:Int,0<=j->j<n->(j<J.at'\/J.at'+(dA (12+s.size):Int)<=j)->(D'.read j).1=(D.read j).1)/\iH D' J.at' J.hi (J.seq+1)=some (s.data.toList,J.at'+(dA (12+s.size):Int)):=by
 obtain⟨j1,j2,j3,j4,j5⟩:=hJ;obtain⟨r1,r2,r3⟩:=hr;rw[adT] at r3;have hlen:=hc.len;have wW:=oz (J.seq+1) s;obtain⟨a,ha⟩:=ad3 (show 0<=J.at' by omega);obtain⟨t,ht⟩:=ad3 (show 0<=J.hi by omega);obtain⟨p1,p2,p3,p4⟩:=Ju (n:=n) (a:=a) (t:=t) (number:=number) (s:=bs (bG (J.seq+1) s)) hc bS me (by rw[wW];omega) (by omega);have p5:=Nz (n:=n) (a:=a) (t:=t) (number:=number) (s:=bs (bG (J.seq+1) s)) hc bS me (by rw[wW];omega) (by omega);rw[wW] at p3 p4;rw[<-ha,<-ht] at p1 p2 p3 p4 p5;have tW:=p2.len;refine⟨(cA D J.at' J.hi number (bs (bG (J.seq+1) s))).1,?_,p2,p5,⟨j1,?_,?_,?_,?_⟩,p3,λj h1 h2 h3=>?_,?_⟩
 ·unfold py;rw[if_neg (by rw[Pk];exact afl),if_neg (by omega),if_neg (by rintro(hh|hh);exact hh ⟨r1,r2,by rw[adT];exact r3⟩;omega)];unfold yp;rw[if_neg (λhh=>hh p1)]
  rfl
 ·show J.lo<=J.at'+_;omega
 ·show J.at'+_<=J.hi;omega
 ·show J.hi<=_;omega
 ·show 0<=J.seq+1/\J.seq+1<=_;omega
 ·obtain⟨m,rfl⟩:=ad3 h1;exact p4 m (by omega) (by omega)
 ·exact yK me (by omega) (by omega) (by omega) (by omega) (by omega) (by omega) p3
def FQ{D:ay}{a to q:Int}(h:(D.read a).1=jC 128):iH D a to q=none:=
 xR (λm d hv=>by rw[h,tN] at hv;cases hv)
def C1{n:Nat}(h:n<=4096){j:Int}(h0:0<=j)(hj:j<n):((ay.new n).read j).1=jC 128:=by
 obtain⟨m,rfl⟩:=ad3 h0;exact tR h (by omega)
section
variable {W w:World} {L:LH} {k d:Nat} {D:ay}
end
def uC{l:List UInt8}{k:Nat}(hk:k<=8)(hl:l.length=k):l=le .i64 k (jW l:Int):=by
 refine E4 _ _ (by rw[hl,az]) ?_;have:=oG l;rw[hl] at this;rw[nA (jW l) k hk,aeB this]
def xZ{l:List UInt8}{n:Int}(hl:l.length=8)(hn:0<=n)(h:jM l=n):l=le .i64 8 n:=by
 have hv:=oG l;have h8:(256:Nat)^8=18446744073709551616:=rfl;rw[hl,h8] at hv;have zt:(jW l:Int)=n:=by
  unfold jM at h;simp[IntKind.wrap,IntKind.bits,IntKind.signed] at h;split at h<;>omega
 rw[<-zt];exact uC (by decide) hl
def xM{l:List UInt8}{n j:Int}{d:BA}(h:iG l=some (n,j,d)):l=iT n j d/\Good n j d:=by
 unfold iG at h;split at h
 ·cases h
 rename_i h1;split at h
 ·cases h
 rename_i h2;split at h
 ·cases h
 rename_i h3;split at h
 ·cases h
 rename_i h4;split at h
 ·cases h
 rename_i h5;split at h
 ·cases h
 rename_i h6;have h1:=ad6.1 h1;have h2:pv (l.take 120)=true:=by cases hh:pv (l.take 120) with
  |true=>rfl
  |false=>exact absurd hh h2
 have h4:=ad6.1 h4;have h5:=ad6.1 h5;have h6:=ad6.1 h6;simp only[aec.injEq,Prod.mk.injEq] at h;obtain⟨rfl,rfl,rfl⟩:=h;refine⟨?_,h6⟩;obtain⟨g1,g2,g3,g4,g5⟩:=h6;have hM:sM l<=104:=by omega
 have l8:(l.drop 8).length=120:=by rw[ad4];omega
 have l10:((l.drop 8).drop 2).length=118:=by rw[ad4];omega
 have lr:(jc l).length=116:=by unfold jc;rw[ad4];omega
 have p1:l.take 8=le .i64 8 (sN l):=xZ (by rw[adX];omega) (by omega) rfl;have p2:(l.drop 8).take 2=le .i64 2 (sI l):=by
  have e:sI l=(jW ((l.drop 8).take 2):Int):=j0 (by rw[adX];omega);rw[e];exact uC (by decide) (by rw[adX];omega)
 have p3:((l.drop 8).drop 2).take 2=le .i64 2 (sM l:Int):=uC (by decide) (by rw[adX];omega);have hD:(sD l).length=sM l:=by unfold sD;rw[adX];omega
 have lrm:((jc l).drop (sM l)).length=116-sM l:=by rw[ad4,lr]
 have hZ:(sZ l).length=104-sM l:=by unfold sZ;rw[adX];omega
 have lrz:(((jc l).drop (sM l)).drop (104-sM l)).length=12:=by rw[ad4,lrm];omega
 have lrc:((((jc l).drop (sM l)).drop (104-sM l)).drop 4).length=8:=by rw[ad4,lrz]
 have p6:(((jc l).drop (sM l)).drop (104-sM l)).drop 4=le .i64 8 (sN l):=by
  refine xZ lrc (by omega) ?_;rw[<-h4];unfold yG;rw[aea (by omega)]
 rw[hZ] at h5;have e1:l=l.take 8++((l.drop 8).take 2++(((l.drop 8).drop 2).take 2++(sD l++(sZ l++((((jc l).drop (sM l)).drop (104-sM l)).take 4++(((jc l).drop (sM l)).drop (104-sM l)).drop 4))))):=by
  unfold sD sZ;rw[aem,aem,aem];unfold jc;rw[aem,aem,aem]
 have nV:(bs (sD l)).size=sM l:=by rw[bw,hD]
 have aa9:pre (sN l) (sI l) (bs (sD l))=l.take 8++((l.drop 8).take 2++(((l.drop 8).drop 2).take 2++(sD l++sZ l))):=by
  unfold pre;rw[nV,p1,p2,p3,h5];simp only[ad0]
  rfl
 have L5:(pre (sN l) (sI l) (bs (sD l))).length=116:=mV g5;have e2:l=pre (sN l) (sI l) (bs (sD l))++((((jc l).drop (sM l)).drop (104-sM l)).take 4++(((jc l).drop (sM l)).drop (104-sM l)).drop 4):=by
  rw[aa9];simp only[ad0];exact e1
 have Vb:l.take 116=pre (sN l) (sI l) (bs (sD l)):=by
  have:=congrArg (List.take 116) e2;rw[oU _ _ 116 L5] at this;exact this
 have e4:(l.take 120).drop 116=(((jc l).drop (sM l)).drop (104-sM l)).take 4:=by
  have aa4:l.drop 116=(((jc l).drop (sM l)).drop (104-sM l)).take 4++(((jc l).drop (sM l)).drop (104-sM l)).drop 4:=by
   have:=congrArg (List.drop 116) e2;rw[qn _ _ 116 L5] at this;exact this
  rw[List.drop_take,aa4];exact oU _ _ 4 (by rw[adX];omega)
 have aaT:rj (oW 0 (pre (sN l) (sI l) (bs (sD l))))=(((jc l).drop (sM l)).drop (104-sM l)).take 4:=by
  unfold pv at h2;have Ek:(l.take 120).length=120:=by rw[adX];omega
  rw[Ek,show 120-4=116 from rfl,e4,afq,show min 116 120=116 from rfl,Vb] at h2;simpa using h2
 unfold iT;rw[aaT,ad0];rw[p6] at e2;exact e2
def CB{D:ay}{a n:Int}{size:Nat}:∀(k i:Nat) {t:List UInt8},jo D a n size i k=some t->size<=104* (i+k)->∀q,i<=q->q<i+k->
 ∃d,iG (D.read (a+q)).1.data.toList=some (n,(q:Int),d)/\d.data.toList=(t.drop (104* (q-i))).take 104
 |0,i,t,h,hs,q,h1,h2=>by omega
 |k+1,i,t,h,hs,q,h1,h2=>by
  rw[kP] at h;split at h
  ·cases h
  rename_i m j d hv;split at h
  ·rename_i hc;obtain⟨rfl,rfl,hd⟩:=hc;cases ht:jo D a m size (i+1) k with
   |none=>rw[ht] at h;cases h
   |some u=>
    rw[ht] at h;simp only[aeD,aec.injEq] at h;subst h;have wX:d.data.toList.length=d.size:=rfl;by_cases hq:q=i
    ·subst hq;refine⟨d,hv,?_⟩;rw[afe,Nat.mul_zero,ae1];by_cases h3:104* (q+1)<=size
     ·exact(oU _ _ 104 (by omega)).symm
     ·have hu:u.length=0:=by
       by_cases hk:k=0
       ·subst hk;simp only[jo,aec.injEq] at ht;subst ht;rfl
       ·
        have hz:∀(n' i':Nat) {v:List UInt8},jo D a m size i' n'=some v->size<=104* i'->v.length=0:=by
         intro n'
         induction n' with
         |zero=>intro i' v h _;simp only[jo,aec.injEq] at h;subst h;rfl
         |succ n' ih=>
          intro i' v h hle;rw[kP] at h;split at h
          ·cases h
          ·split at h
           ·rename_i Me;cases HY:jo D a m size (i'+1) n' with
            |none=>rw[HY] at h;cases h
            |some v2=>
             rw[HY] at h;simp only[aeD,aec.injEq] at h;subst h;have:=ih (i'+1) HY (by omega);rw[adV,this,cy,Me.2.2];omega
           ·cases h
        exact hz k (q+1) ht (by omega)
      rw[List.eq_nil_of_length_eq_zero hu,aed,aea (by omega)]
    ·obtain⟨d2,QR,Pw⟩:=CB k (i+1) ht (by omega) q (by omega) (by omega);refine⟨d2,QR,?_⟩;have hu:104* (i+1)<=size\/u.length=0:=by
      by_cases h3:104* (i+1)<=size
      ·exact .inl h3
      ·right
       have hz:∀(n' i':Nat) {v:List UInt8},jo D a m size i' n'=some v->size<=104* i'->v.length=0:=by
        intro n'
        induction n' with
        |zero=>intro i' v h _;simp only[jo,aec.injEq] at h;subst h;rfl
        |succ n' ih=>
         intro i' v h hle;rw[kP] at h;split at h
         ·cases h
         ·split at h
          ·rename_i Me;cases HY:jo D a m size (i'+1) n' with
           |none=>rw[HY] at h;cases h
           |some v2=>
            rw[HY] at h;simp only[aeD,aec.injEq] at h;subst h;have:=ih (i'+1) HY (by omega);rw[adV,this,cy,Me.2.2];omega
          ·cases h
       exact hz k (i+1) ht (by omega)
     rw[Pw];rcases hu with h3|h3
     ·have:(d.data.toList++u).drop (104* (q-i))=u.drop (104* (q-(i+1))):=by
       rw[show 104* (q-i)=104+104* (q-(i+1)) from by omega,<-ae2,qn _ _ 104 (by omega)]
      rw[this]
     ·rw[List.eq_nil_of_length_eq_zero h3,aed];simp only[List.drop_nil,List.take_nil];rw[aez (by omega)]
      rfl
  ·cases h
def C0{D:ay}{a to q a2:Int}{s:List UInt8}(hq:0<=q)(h:iH D a to q=some (s,a2)):
 ∃m d,1<=m/\m<=1152921504606846976/\iG (D.read a).1.data.toList=some (m,0,d)/\∀i:Nat,i<dA (12+s.length)->(D.read (a+i)).1=leaf m i (part (bs (bG q (bs s))) i):=by
 have hi:=ma h;unfold iH at h;split at h
 ·cases h
 rename_i ha;split at h
 ·cases h
 rename_i m j d hv;split at h
 ·cases h
 rename_i hj;split at h
 ·cases h
 rename_i hc;split at h
 ·cases h
 rename_i t ht;obtain⟨l1,l2,l3,l4,l5⟩:=take_length ht;simp only[aec.injEq,Prod.mk.injEq] at h;obtain⟨h1,h2⟩:=h;subst h1;have XJ:j=0:=by
  by_cases hh:j=0
  ·exact hh
  ·exact absurd (.inl hh) hj
 have QV:iF 8 (d.data.toList,false)=q:=by
  by_cases hh:iF 8 (d.data.toList,false)=q
  ·exact hh
  ·exact absurd (.inr hh) hj
 subst XJ;have hn4:=DZ (db 8 (d.data.toList,false));have hle: ¬32768<iF 4 (db 8 (d.data.toList,false)):=λhh=>hc (.inr hh);have adf:(db 4 (db 8 (d.data.toList,false))).2=false:=by
  cases hh:(db 4 (db 8 (d.data.toList,false))).2 with
  |false=>rfl
  |true=>exact absurd (.inl hh) hc
 obtain⟨_,vI⟩:=xM hv;have oy:=ht;unfold take at oy;split at oy
 ·cases oy
 have Wi:(12+iF 4 (db 8 (d.data.toList,false))).toNat=t.length:=by omega
 rw[Wi] at oy;have hb:t.length<=104* dA t.length:=by unfold dA;split<;>omega
 have K2:=CB (dA t.length) 0 oy (by omega);have XS:=nL t.length;obtain⟨d0,hv0,Wh⟩:=K2 0 (adY _) (by omega);rw[show a+((0:Nat):Int)=a from by omega,hv] at hv0;have aaR:d=d0:=by cases hv0;rfl
 subst aaR;rw[Nat.sub_zero,Nat.mul_zero,ae1] at Wh;have adK:12<=d.data.toList.length:=by
  rw[Wh,adX];omega
 have x1:db 8 (d.data.toList,false)=(d.data.toList.drop 8,false):=by unfold db;rw[if_neg (by simp only[aeh,false_or];omega)]
 have x2:iF 8 (d.data.toList,false)=jM (d.data.toList.take 8):=by unfold iF;rw[if_neg (by simp only[aeh,false_or];omega)]
 have l8:(d.data.toList.drop 8).length=d.data.toList.length-8:=ad4;have x3:iF 4 (d.data.toList.drop 8,false)=jM ((d.data.toList.drop 8).take 4):=by unfold iF;rw[if_neg (by simp only[aeh,false_or];omega)]
 rw[x2] at QV;rw[x1,x3] at l1 hn4 Wi;have y1:d.data.toList.take 8=le .i64 8 q:=xZ (by rw[adX];omega) hq QV;have ZE:((d.data.toList.drop 8).take 4).length=4:=by rw[adX];omega
 rw[j0 (by omega)] at l1;have y2:(d.data.toList.drop 8).take 4=le .i64 4 ((t.length-12:Nat):Int):=by
  have:=uC (by decide) ZE;rw[show(jW ((d.data.toList.drop 8).take 4):Int)=((t.length-12:Nat):Int) from by omega] at this;exact this
 have z1:t.take 8=le .i64 8 q:=by
  rw[<-y1,Wh,afq,show min 8 104=8 from rfl]
 have z2:(t.drop 8).take 4=le .i64 4 ((t.length-12:Nat):Int):=by
  rw[<-y2,Wh,List.drop_take,afq,show min 4 (104-8)=4 from rfl]
 have La:bG q (bs (t.drop 12))=t:=by
  unfold bG;have nV:(bs (t.drop 12)).size=t.length-12:=by rw[bw,ad4]
  rw[nV,<-z1,<-z2];show t.take 8++(t.drop 8).take 4++t.drop 12=t;have:t.drop 12=(t.drop 8).drop 4:=by rw[ae2]
  rw[this,ad0,aem,aem]
 refine⟨m,d,vI.1,vI.2.1,hv,λi hi2=>?_⟩;have aaF:12+(t.drop 12).length=t.length:=by rw[ad4];omega
 rw[aaF] at hi2;obtain⟨di,hvi,EV⟩:=K2 i (ad2 _) (by omega);obtain⟨hx,L8⟩:=xM hvi;rw[La];have JJ:part (bs t) i=di:=by
  apply gN;rw[EV];unfold part;rw[extract_toList];show(t.drop (104* i)).take (104* (i+1) -104* i)=_;rw[Nat.sub_zero,show 104* (i+1) -104* i=104 from by omega]
 rw[JJ];apply gN;rw[jA L8];exact hx
section
variable {W w:World} {L:LH}
end
def Ki{D:ay}(h:D.sync.2=0):D.sync.1.later=[]:=by
 unfold ay.sync at h⊢;split at h
 ·simp at h
 ·rename_i hf;rw[if_neg hf]
def Jt{D:ay}{at' to number:Int}{s:BA}(h:(cA D at' to number s).2=0):(cA D at' to number s).1.later=[]:=by
 unfold cA at h⊢;split at h
 ·rename_i hh;exact absurd h hh
 ·rename_i hh;rw[if_neg hh];exact Ki h
def By{D:ay}(h:D.later=[])(mask torn cut:Int)(j:Int):(D.fI mask torn cut).read j=D.read j:=by
 have e:D.fI mask torn cut=⟨D.safe,[],D.ops,0⟩:=by rw[mO,h];rfl
 rw[e];unfold ay.read ay.is ay.now;rw[h]
def C6{at' number:Int}{s:BA}(me:1<=number/\number<=1152921504606846976)(vK:0<=at'):∀(n i:Nat) {D:ay},at'+i+n<=D.safe.length->i+n<=4096->(lj at' number s D i n).2=0\/(lj at' number s D i n).2=8
 |0,i,D,hr,hi=>.inl rfl
 |n+1,i,D,hr,hi=>by
  have hg:Good number i (part s i):=⟨me.1,me.2,by omega,by omega,jy s i⟩;have nV:=pR hg;have qA:D.is (at'+i):=⟨by omega,by omega⟩;have uW: ¬(¬D.is (at'+i)\/128<(leaf number i (part s i)).size):=by
   rintro(hh|hh)
   ·exact hh qA
   ·omega
  have o8:=(oa D (at'+i) (leaf number i (part s i))).1;have hw:D.write (at'+i) (leaf number i (part s i))=if D.qP then(D.tick,8) else({Go.bC.ay.tick D with later:=D.later++[(at'+i,ay.pad (leaf number i (part s i)))]},0):=by
   unfold ay.write;rw[if_neg uW]
  unfold lj;cases hf:D.qP with
  |true=>
   rw[hf,if_pos rfl] at hw;rw[hw,if_pos (by simp)];exact .inr rfl
  |false=>
   rw[hf,if_neg afl] at hw;have h0:(D.write (at'+i) (leaf number i (part s i))).2=0:=by rw[hw]
   rw[if_neg (by rw[h0];exact λhh=>hh rfl)];exact C6 me vK (s:=s) n (i+1) (D:=(D.write (at'+i) (leaf number i (part s i))).1) (by rw[o8];omega) (by omega)
def zU{n a t:Nat}{D:ay}{number:Int}{s:BA}(hlen:D.safe.length=n)(bS:n<=4096)(me:1<=number/\number<=1152921504606846976)(hl:a+dA s.size<=t)(QT:t<=n):(cA D a t number s).2=0\/(cA D a t number s).2=8:=by
 have XS:=nL s.size;have e:lay D (a:Nat) ((t:Nat):Int) number s=lj (a:Nat) number s D 0 (dA s.size):=by
  unfold lay;rw[if_neg (by rw[hlen];omega),if_neg (by omega)]
 have hc:=C6 (at':=((a:Nat):Int)) (number:=number) (s:=s) me (by omega) (dA s.size) 0 (D:=D) (by rw[hlen];omega) (by omega);unfold cA;rw[e];split
 ·exact hc
 ·unfold ay.sync;split
  ·exact .inr rfl
  ·exact .inl rfl
def CQ{g:Nat}{X:BA}{m j:Int}{d:BA}(he:Ends g X)(hg:g<256)(h:iG X.data.toList=some (m,j,d)):m<=g:=by
 obtain⟨hx,vI⟩:=xM h;obtain⟨_,⟨a,ha,h8⟩,_⟩:=he;rw[hx,tT] at h8;have e1:=lg (n:=m) ⟨by have:=vI.1;omega,vI.2.1⟩;have e2:=lg (n:=(a:Int)) ⟨by omega,by omega⟩;rw[h8,e2] at e1;omega
def yL{D D':ay}{a to q:Int}(hlen:D'.safe.length=D.safe.length)(hr:∀j:Int,a<=j->j<to->(D'.read j).1=(D.read j).1):iH D' a to q=iH D a to q:=by
 cases h:iH D a to q with
 |some y=>
  obtain⟨s,a2⟩:=y;have:=ma h;exact qK h hlen (λj h1 h2=>hr j h1 (by omega))
 |none=>
  cases h':iH D' a to q with
  |none=>rfl
  |some y=>
   obtain⟨s,a2⟩:=y;have:=ma h';have:=qK h' hlen.symm (λj h1 h2=>(hr j h1 (by omega)).symm);rw[h] at this;cases this
structure JG(n:Nat)(D:ay)(J:PJ)(q0:Int)(kZ:List (List UInt8))(g:Nat):Prop where
 ok:D.Ok
 Ha:D.later=[]
 len:D.safe.length=n
 uT:J.Ok D
 chain:gh D J.hi J.lo q0 kZ J.at'
 seq:J.seq=q0+kZ.length
 q0:0<=q0
 low:∀j:Int,J.lo<=j->j<J.hi->∀m d,iG (D.read j).1.data.toList=some (m,0,d)->Az d<=J.seq+1
 stop:iH D J.at' J.hi (J.seq+1)=none
 ends:∀j:Nat,j<n->Ends g (D.read (j:Int)).1
def JG.congr{n:Nat}{D D':ay}{J:PJ}{q0:Int}{kZ:List (List UInt8)}{g:Nat}(h:JG n D J q0 kZ g)(fJ:D'.Ok)(yd:D'.later=[])(hlen:D'.safe.length=n)(hr:∀j:Int,0<=j->j<n->(D'.read j).1=(D.read j).1):JG n D' J q0 kZ g:=by
 have hl:D'.safe.length=D.safe.length:=by rw[hlen,h.len]
 have j1:=h.uT.lo;have j2:=h.uT.DA;have j3:=h.uT.Mi;have j4:=h.uT.hi;have j5:=h.len;refine⟨fJ,yd,hlen,⟨j1,j2,j3,by rw[hl];exact j4,h.uT.seq⟩,qW hl _ h.chain (λj a b=>hr j (by omega) (by omega)),h.seq,h.q0,λj a b m d hv=>?_,?_,λj hj=>?_⟩
 ·rw[hr j (by omega) (by omega)] at hv;exact h.low j a b m d hv
 ·rw[yL hl (λj a b=>hr j (by omega) (by omega))];exact h.stop
 ·rw[hr j (by omega) (by omega)];exact h.ends j hj
def JG.opened{n:Nat}{D:ay}{J:PJ}{q0:Int}{kZ:List (List UInt8)}{g:Nat}(h:JG n D J q0 kZ g):gP D J.hi J.lo q0=(kZ,J.at',J.seq):=by
 have:=h.stop;rw[h.seq] at this;rw[BD kZ h.chain this,h.seq]
def fly{n:Nat}{D:ay}{J:PJ}{q0:Int}{kZ:List (List UInt8)}{g m:Nat}{s:BA}(h:JG n D J q0 kZ g)(bS:n<=4096)(hm:g<m)(JM:m<256)(hr:room J s.size)(ET:J.seq<1152921504606846976)(mask torn cut:Int):
 ((cA D J.at' J.hi m (bs (bG (J.seq+1) s))).2=0\/(cA D J.at' J.hi m (bs (bG (J.seq+1) s))).2=8)/\
 ((cA D J.at' J.hi m (bs (bG (J.seq+1) s))).2=0->∀i:Nat,i<dA (12+s.size)->(((cA D J.at' J.hi m (bs (bG (J.seq+1) s))).1.fI mask torn cut).read (J.at'+i)).1=leaf m i (part (bs (bG (J.seq+1) s)) i))/\
 ((∀i:Nat,i<dA (12+s.size)->(((cA D J.at' J.hi m (bs (bG (J.seq+1) s))).1.fI mask torn cut).read (J.at'+i)).1=leaf m i (part (bs (bG (J.seq+1) s)) i))->
   JG n ((cA D J.at' J.hi m (bs (bG (J.seq+1) s))).1.fI mask torn cut) (J.more s) q0 (kZ++[s.data.toList]) m)/\
 ((¬∀i:Nat,i<dA (12+s.size)->(((cA D J.at' J.hi m (bs (bG (J.seq+1) s))).1.fI mask torn cut).read (J.at'+i)).1=leaf m i (part (bs (bG (J.seq+1) s)) i))->
   JG n ((cA D J.at' J.hi m (bs (bG (J.seq+1) s))).1.fI mask torn cut) J q0 kZ m):=by
 obtain⟨j1,j2,j3,j4,j5⟩:=h.uT;obtain⟨r1,r2,r3⟩:=hr;rw[adT] at r3;have hlen:=h.len;have XS:=nL (12+s.size);have wW:=oz (J.seq+1) s;obtain⟨a,ha⟩:=ad3 (show 0<=J.at' by omega);obtain⟨t,ht⟩:=ad3 (show 0<=J.hi by omega);have SP:=zU (n:=n) (a:=a) (t:=t) (number:=m) (s:=bs (bG (J.seq+1) s)) hlen bS (by omega) (by rw[wW];omega) (by omega);obtain⟨c1,c2,c3,c4⟩:=FW (n:=n) (a:=a) (t:=t) (number:=m) (mask:=mask) (torn:=torn) (cut:=cut) (s:=bs (bG (J.seq+1) s)) h.ok h.Ha hlen bS (by omega) (by rw[wW];omega) (by omega);have SH:((cA D (a:Int) (t:Int) m (bs (bG (J.seq+1) s))).1.fI mask torn cut).later=[]:=by rw[mO]
 rw[wW] at c1 c2;rw[ha,ht];generalize (cA D (a:Int) (t:Int) m (bs (bG (J.seq+1) s))).2=code at *;generalize (cA D (a:Int) (t:Int) m (bs (bG (J.seq+1) s))).1.fI mask torn cut=D2 at *;have Wi:dA (12+s.size)<=4096:=by omega
 have vI:∀i:Nat,i<4096->Good m (i:Int) (part (bs (bG (J.seq+1) s)) i):=λi hi=>⟨by omega,by omega,by omega,by omega,jy _ i⟩;have sec:∀j:Nat,j<n->Ends m (D2.read (j:Int)).1/\((D2.read (j:Int)).1=(D.read (j:Int)).1\/(∃i,i<dA (12+s.size)/\j=a+i/\((D2.read (j:Int)).1=leaf m i (part (bs (bG (J.seq+1) s)) i)\/iG (D2.read (j:Int)).1.data.toList=none))):=λj hj=>by
  rcases c1 j hj with hh|⟨i,h1,h2,h3⟩
  ·rw[hh];exact⟨(h.ends j hj).mono (by omega),.inl rfl⟩
  ·obtain⟨e1,e2⟩:=xV hm JM (vI i (by omega)) (h.ends j hj) h3;refine⟨e1,?_⟩;rcases e2 with e2|e2|e2
   ·exact .inl e2
   ·exact .inr ⟨i,h1,h2,.inl e2⟩
   ·exact .inr ⟨i,h1,h2,.inr e2⟩
 have out:∀j:Int,0<=j->j<n->(j<a\/a+(dA (12+s.size):Int)<=j)->(D2.read j).1=(D.read j).1:=λj h1 h2 h3=>by
  obtain⟨k,rfl⟩:=ad3 h1;rcases c1 k (by omega) with hh|⟨i,h4,h5,_⟩
  ·exact hh
  ·omega
 have QZ:D2.safe.length=D.safe.length:=by rw[c4,hlen]
 have hpr:=qH (seq:=J.seq+1) (s:=s) ⟨by omega,by omega⟩ (by omega);have T7:∀j:Int,J.lo<=j->j<J.hi->∀x d,iG (D2.read j).1.data.toList=some (x,0,d)->Az d<=J.seq+1:=λj h1 h2 x d hv=>by
  obtain⟨k,rfl⟩:=ad3 (show 0<=j by omega);rcases(sec k (by omega)).2 with hh|⟨i,hi,_,hh|hh⟩
  ·rw[hh] at hv;exact h.low _ h1 h2 x d hv
  ·rw[hh,jA (vI i (by omega)),kS (vI i (by omega))] at hv;simp only[aec.injEq,Prod.mk.injEq] at hv;obtain⟨_,SK,hd⟩:=hv;have:i=0:=by omega
   subst this;rw[<-hd,hpr.1];exact afm _
  ·rw[hh] at hv;cases hv
 have Ot:gh D2 J.hi J.lo q0 kZ J.at':=qW QZ _ h.chain (λj h1 h2=>out j (by omega) (by omega) (by omega));have NU:∀j:Nat,j<n->Ends m (D2.read (j:Int)).1:=λj hj=>(sec j hj).1;refine⟨SP,λh0 i hi=>?_,λhw=>?_,λhnw=>?_⟩
 ·have:=c2 h0 i hi;rw[show(a:Int)+(i:Int)=((a+i:Nat):Int) from by omega];exact this
 ·have Uf:=yK (D:=D2) (a:=J.at') (to:=J.hi) (n:=m) (q:=J.seq+1) (s:=s) (by omega) (by omega) (by omega) (by omega) (by omega) (by omega) (by omega) (by rw[ha];exact hw);refine⟨c3,SH,c4,⟨j1,?_,?_,?_,?_⟩,?_,?_,h.q0,λj h1 h2 x d hv=>?_,?_,NU⟩
  ·show J.lo<=J.at'+_;omega
  ·show J.at'+_<=J.hi;omega
  ·show J.hi<=_;omega
  ·show 0<=J.seq+1/\J.seq+1<=_;omega
  ·show gh D2 J.hi J.lo q0 _ (J.at'+_);refine BC kZ Ot ?_;rw[<-h.seq];exact Uf
  ·show J.seq+1=_;rw[h.seq,adV,ad',aen];omega
  ·show Az d<=J.seq+1+1;have:=T7 j h1 h2 x d hv;omega
  ·show iH D2 (J.at'+(dA (12+s.size):Int)) J.hi (J.seq+1+1)=none;by_cases aaM:J.hi<=J.at'+(dA (12+s.size):Int)
   ·exact xU aaM
   ·refine xR (λx d hv=>?_);have:=T7 _ (by omega) (by omega) x d hv;omega
 ·refine⟨c3,SH,c4,⟨j1,j2,j3,by omega,j5⟩,Ot,h.seq,h.q0,T7,?_,NU⟩;cases hx:iH D2 J.at' J.hi (J.seq+1) with
  |none=>rfl
  |some y=>
   exfalso;obtain⟨s2,a2⟩:=y;obtain⟨i1,i2,i3,i4,i5,i6⟩:=ma hx;obtain⟨x,d,x1,x2,hv,K2⟩:=C0 (by omega) hx;have NV:=nL (12+s2.length);have NS:∀i:Nat,i<4096->Good x (i:Int) (part (bs (bG (J.seq+1) (bs s2))) i):=λi hi=>⟨x1,x2,by omega,by omega,jy _ i⟩;have Un:=qH (seq:=J.seq+1) (s:=bs s2) ⟨by omega,by omega⟩ (by rw[bw];omega);have rd:∀i:Nat,i<dA (12+s2.length)->iG (D2.read ((a+i:Nat):Int)).1.data.toList=some (x,(i:Int),part (bs (bG (J.seq+1) (bs s2))) i):=λi hi=>by
    have:=K2 i hi;rw[ha,show(a:Int)+(i:Int)=((a+i:Nat):Int) from by omega] at this;rw[this,jA (NS i (by omega)),kS (NS i (by omega))]
   rcases(sec a (by omega)).2 with hh|⟨i,hi,X6,hh|hh⟩
   ·
    have r0:=rd 0 NV;rw[aeN,hh] at r0;have Xg:=CQ (h.ends a (by omega)) (by omega) r0;have all:∀j:Int,J.at'<=j->j<a2->(D.read j).1=(D2.read j).1:=λj h1 h2=>by
     obtain⟨k,hk⟩:=ad3 (show 0<=j-a by omega);have hj:j=((a+k:Nat):Int):=by omega
     subst hj;rcases(sec (a+k) (by omega)).2 with e|⟨i,hi,X6,e|e⟩
     ·exact e.symm
     ·exfalso;have NR:i=k:=by omega
      subst NR;have r:=rd i (by omega);rw[e,jA (vI i (by omega)),kS (vI i (by omega))] at r;simp only[aec.injEq,Prod.mk.injEq] at r;have:=r.1;omega
     ·exfalso;have r:=rd k (by omega);rw[e] at r;cases r
    have:=qK hx QZ.symm all;rw[h.stop] at this;cases this
   ·
    have SK:i=0:=by omega
    subst SK;have r0:=rd 0 NV;rw[aeN,hh,jA (vI 0 (by omega)),kS (vI 0 (by omega))] at r0;simp only[aec.injEq,Prod.mk.injEq] at r0;obtain⟨hxm,_,hp0⟩:=r0;have nV:s2.length=s.size:=by
     have e1:=hpr.2.2;have e2:=Un.2.2;rw[hp0] at e1;rw[e1,bw] at e2;omega
    refine hnw λi hi=>?_;rw[show(a:Int)+(i:Int)=((a+i:Nat):Int) from by omega];have r:=rd i (by rw[nV];exact hi);rcases(sec (a+i) (by omega)).2 with e|⟨i',qA,adN,e|e⟩
    ·exfalso;rw[e] at r;have:=CQ (h.ends (a+i) (by omega)) (by omega) r;omega
    ·have:i'=i:=by omega
     subst this;exact e
    ·rw[e] at r;cases r
   ·have SK:i=0:=by omega
    subst SK;have r0:=rd 0 NV;rw[aeN,hh] at r0;cases r0
section
variable {W w:World} {L:LH}
end
def rW(D:ay)(mask torn cut:Int):(D.fI mask torn cut).safe.length=D.safe.length:=by rw[mO];simp only[hO]
def JG.add{n:Nat}{D:ay}{J:PJ}{q0:Int}{kZ:List (List UInt8)}{g m:Nat}{s:BA}(h:JG n D J q0 kZ g)(Pk:J.dX=false)(bS:n<=4096)(hm:g<m)(JM:m<256)(hr:room J s.size)(ET:J.seq<1152921504606846976):
 py D J m s=yp J s (cA D J.at' J.hi m (bs (bG (J.seq+1) s)))/\(cA D J.at' J.hi m (bs (bG (J.seq+1) s))).1.Ok/\
 ((cA D J.at' J.hi m (bs (bG (J.seq+1) s))).2=0/\JG n (cA D J.at' J.hi m (bs (bG (J.seq+1) s))).1 (J.more s) q0 (kZ++[s.data.toList]) m\/(cA D J.at' J.hi m (bs (bG (J.seq+1) s))).2=8):=by
 have Wi:dA (12+s.size)<=400:=by have:=hr.2.1;unfold dA;split<;>omega
 have fJ:=FV (at':=J.at') (to:=J.hi) (number:=m) (s:=bs (bG (J.seq+1) s)) h.ok (by rw[h.Ha,oz,aen];omega);refine⟨?_,fJ,?_⟩
 ·unfold py;rw[if_neg (by rw[Pk];exact afl),if_neg (by omega),if_neg (by rintro(hh|hh);exact hh hr;omega)]
 ·obtain⟨f1,f2,f3,f4⟩:=fly h bS hm JM hr ET 0 (-1) 0;rcases f1 with f1|f1
  ·refine .inl ⟨f1,?_⟩;have hl:=Jt f1;have hj:=f3 (f2 f1);refine hj.congr fJ hl ?_ (λj _ _=>?_)
   ·rw[<-rW _ 0 (-1) 0];exact hj.len
   ·rw[By hl]
  ·exact .inr f1
def VI{n:Nat}(h:n<=4096){lo hi:Int}(h0:0<=lo)(h1:lo<hi)(h2:hi<=n)(q0:Int)(hq:0<=q0/\q0<=1152921504606846976):JG n (ay.new n) ⟨lo,hi,lo,q0,false⟩ q0 [] 0:=by
 have hc:=xn h;refine⟨hc.ok,rfl,hc.len,⟨h0,afm _,by show lo<=hi;omega,by show hi<=_;rw[hc.len];exact h2,by show 0<=q0/\q0<=_;omega⟩,rfl,by show q0=q0+_;simp,hq.1,λj a b m d hv=>?_,?_,λj hj=>?_⟩
 ·dsimp only at a b;rw[C1 h (by omega) (by omega),tN] at hv;cases hv
 ·exact FQ (C1 h h0 (by show lo<(n:Int);omega))
 ·rw[tR h hj];exact vN
section
variable {W w:World} {L:LH} {k:Nat}
end
section
variable {W w:World} {L:LH}
end
end Go.Sep
namespace Go.Sep
open Go.Den Go.RowKit
section
variable {H:Type} {enc:TypeId×Value->H} {P:Program} {w:World} {base:Nat} {spare:Nat->Bool} {held:Bool}
end
end Go.Sep
namespace Go.Sep
open Go.Den Go.RowKit Go.Prog Go.bC
def JG.mono{n:Nat}{D:ay}{J:PJ}{q0:Int}{kZ:List (List UInt8)}{g g':Nat}(h:JG n D J q0 kZ g)(hg:g<=g'):JG n D J q0 kZ g':=
 ⟨h.ok,h.Ha,h.len,h.uT,h.chain,h.seq,h.q0,h.low,h.stop,λj hj=>(h.ends j hj).mono hg⟩
def JG.tZ{n:Nat}{D:ay}{J:PJ}{q0:Int}{kZ:List (List UInt8)}{g:Nat}(h:JG n D J q0 kZ g)(hg:g<256):∃x:Nat,cE D n=x/\x<=g/\JG n D J q0 kZ x:=by
 have h1:=sS D n;have h2:=uG (D:=D) hg n h.ends;obtain⟨x,hx⟩:=ad3 h1.1;refine⟨x,hx,by omega,⟨h.ok,h.Ha,h.len,h.uT,h.chain,h.seq,h.q0,h.low,h.stop,λj hj=>?_⟩⟩;obtain⟨e1,⟨a,ha,e2⟩,b,hb,e3⟩:=h.ends j hj;have hle:=FN (D:=D) n j hj;have e4:yf (D.read (j:Int)).1=bs (le .i64 8 ((a:Nat):Int)):=gN (by rw[Gk,e2];rfl);have e5:xy (D.read (j:Int)).1=bs (le .i64 8 ((b:Nat):Int)):=gN (by rw[Fa e1,e3];rfl);rw[e4,e5,qJ (by omega),qJ (by omega)] at hle;exact⟨e1,⟨a,by omega,e2⟩,b,by omega,e3⟩
section
variable {W w:World} {L:LH}
end
section
variable {W w:World} {L:LH} {k:Nat}
end
def wL(a b:Option dw):Option dw:=
 match b with
 |none=>a
 |some hb=>match a with
  |none=>some hb
  |some ha=>if ha.aD<hb.aD then some hb else some ha
def px(D:ay)(number:Int)(h:dw):ay×Int:=
 if jU h then(if(lay D (low h.aD) (low h.aD+1) number (bs (ga h))).2≠0 then lay D (low h.aD) (low h.aD+1) number (bs (ga h)) else(lay D (low h.aD) (low h.aD+1) number (bs (ga h))).1.sync) else(D,1)
section
variable {W w:World} {L:LH} {k d:Nat} {D:ay}
def LD{number:Int}{h:dw}{K:VK}(hs:St W w L)(hk:L[k]?=some (dW d D))(fJ:D.Ok)(hl:D.later.length+5000<1099511627776)
 (hK:∀w',St W w' (L.set k (dW d (px D number h).1))->K (.i (px D number h).2) w'):pT (some ⟨d,0,none⟩) number (aS h) K w:=by
 unfold pT;refine fH hs λr w hs=>?_;refine fZ (k:=0) (xs:=aS h) hs rfl rfl (λj v hj=>by rw[adW];exact hj) ?_;refine GL hs λw hs=>?_;simp only[nz,adQ,adR];unfold px at hK;unfold zW;by_cases hg:jU h
 ·rw[if_pos hg] at hK⊢;dsimp only;refine qu (λhh=>absurd rfl hh) (λ_=>?_);refine bJ (k:=0) hs rfl rfl ?_;simp only[nz,adQ,adR];refine bJ (k:=0) hs rfl rfl ?_;simp only[nz,adQ,adR];have Gf:=rh h.aD;have ew:adP.wrap (bB .i64 .and h.aD 1+1)=low h.aD+1:=by
   show adP.wrap (low h.aD+1)=_;rw[aw (by omega)]
  rw[ew];have e0:bB .i64 .and h.aD 1=low h.aD:=rfl;rw[e0];have nV:(bs (ga h)).size=32:=by rw[bw,mu]
  have H6:dA (bs (ga h)).size=1:=by rw[nV];rfl
  have rl:(pt r (aS h)::L)[k+1]?=some (dW d D):=by rw[ad9];exact hk
  refine BV (k:=k+1) hs rl fJ (by omega) (by rw[nV];decide) λw hs=>?_;rw[ae7] at hs;simp only[nz,adQ,adR];have K7:=(D8 (at':=low h.aD) (to:=low h.aD+1) (number:=number) (s:=bs (ga h)) fJ (by rw[H6];omega)).1;refine qu (λgU=>?_) (λh0=>?_)
  ·rw[if_pos gU] at hK;exact hK w hs.drop
  ·rw[if_neg (λhh=>hh h0)] at hK;refine qz (k:=k+1) hs (by rw[ad9];exact fX hk) K7 λw hs=>?_;rw[ae7,ae6] at hs;simp only[nz,adQ,adR];exact hK w hs.drop
 ·rw[if_neg hg] at hK⊢;dsimp only;refine qu (λ_=>?_) (λhh=>by simp at hh);refine hK w ?_;rw[jJ hk];exact hs.drop
def Cn(o:Option dw):dw:=o.getD Ah
def vJ(o:Option dw):mr o=.tuple ⟨[.agg ⟨aS (Cn o)⟩,.bool o.isSome]⟩:=by cases o<;>rfl
def G3{K:VK}(hs:St W w L)(hk:L[k]?=some (dW d D))(fJ:D.Ok)(hK:∀w',St W w' L->K (mr (wL (vT D 0) (vT D 1))) w'):nK (some ⟨d,0,none⟩) K w:=by
 unfold nK;refine fH hs λr1 w hs=>?_;refine J3 (i:=0) (k:=k+1) hs (by rw[ad9];exact hk) fJ λw hs=>?_;rw[vJ];simp only[nz,adQ,adR];simp only[s9];refine⟨rfl,?_⟩;simp only[nz,adQ,adR];refine fH hs λr2 w hs=>?_;refine⟨rfl,gA (k:=0) hs rfl (adZ rfl) (by simp[Value.oneCell',aS]) λw hs=>?_⟩;rw[eP (by simp[aS])] at hs;simp only[nz,adQ,adR] at hs;refine J3 (i:=1) (k:=k+2) hs (by rw[ad9,ad9];exact hk) fJ λw hs=>?_;rw[vJ];simp only[nz,adQ,adR];simp only[s9];refine⟨rfl,?_⟩;simp only[nz,adQ,adR];refine fH hs λr3 w hs=>?_;refine⟨rfl,gA (k:=0) hs rfl (adZ rfl) (by simp[Value.oneCell',aS]) λw hs=>?_⟩;rw[eP (by simp[aS])] at hs;simp only[nz,adQ,adR] at hs;generalize vT D 0=a at *;generalize vT D 1=b at *;have tell:∀(i:Nat)(o:Option dw)(r:Nat)(f:Bool),(i=0/\r=r3/\Cn o=Cn b\/i=1/\r=r2/\Cn o=Cn a)->(f=o.isSome)->(∀w',St W w' L->K (mr o) w')->
                                                                                                        ah ⟨r,0,none⟩ 4 (λcs=>a8 (cs.length=4) (gj ⟨r1,0,none⟩ cs (ah ⟨r1,0,none⟩ 4 λrq=>K (.tuple ⟨[.agg ⟨rq⟩,.bool f]⟩)))) w:=λi o r f hi hf hK=>by
  have wV:(pt r3 (aS (Cn b))::pt r2 (aS (Cn a))::pt r1 [.i 0,.i 0,.i 0,.i 0]::L)[i]?=some (pt r (aS (Cn o))):=by
   rcases hi with⟨rfl,rfl,h⟩|⟨rfl,rfl,h⟩<;>rw[h]<;>rfl
  refine fZ (xs:=aS (Cn o)) hs wV rfl (λj v hj=>by rw[adW];exact hj) ?_;refine⟨rfl,?_⟩;refine gA (k:=2) hs rfl (adZ rfl) (by simp[Value.oneCell',aS]) λw hs=>?_;rw[eP (by simp[aS])] at hs;simp only[nz,adQ,adR] at hs;refine fZ (k:=2) (xs:=aS (Cn o)) hs rfl rfl (λj v hj=>by rw[adW];exact hj) ?_;have:=hK w hs.drop.drop.drop;rw[vJ] at this;rw[hf];exact this
 cases b with
 |none=>
  exact tell 1 a r2 _ (.inr ⟨rfl,rfl,rfl⟩) rfl hK
 |some hb=>
  cases a with
  |none=>exact tell 0 (some hb) r3 true (.inl ⟨rfl,rfl,rfl⟩) rfl hK
  |some ha=>
   have e1:(some hb:Option dw).isSome=true:=rfl;have e2:(some ha:Option dw).isSome=true:=rfl;rw[e1,e2];simp only[nz,adQ,adR];refine bJ (k:=0) hs rfl (v:=.i hb.aD) rfl ?_;simp only[nz,adQ,adR];refine bJ (k:=1) hs rfl (v:=.i ha.aD) rfl ?_;simp only[nz,adQ,adR];unfold wL at hK;dsimp only at hK;refine de (λJO=>?_) (λhle=>?_)
   ·rw[if_pos JO] at hK;exact tell 0 (some hb) r3 true (.inl ⟨rfl,rfl,rfl⟩) rfl hK
   ·rw[if_neg hle] at hK;exact tell 1 (some ha) r2 true (.inr ⟨rfl,rfl,rfl⟩) rfl hK
end
end Go.Sep
namespace Go.Up
open Go.Sep Go.Den Go.RowKit Go.Prog Go.Md Go.bC
section
variable {W:World} {L R:LH} {K:VK} {X:WK} {d r n:Nat} {D:ay} {J:PJ} {f:ay->LH} {g:PJ->LH} {s:BA}
abbrev jP(d r:Nat)(J:PJ):HP:=Sep.pt r (nG d J)
def LQ[i:Lc (dW d) L D f](h:T W L (K (.i (D.safe.length:Int)))):T W L (dk (some ⟨d,0,none⟩) K):=λw hs=>by
 obtain⟨k,hk,e⟩:=i.at_;exact jV hs hk (h w hs)
def Nk{n:Int}(h:∀d,T W (dW d (ay.new n)::L) (K (.p (some ⟨d,0,none⟩)))):T W L (jL n K):=λw hs=>OZ hs λd w' h'=>h d w' h'
def Zh(mB:12<=n)(bS:n<=4096)(h:T W L (K (.tuple ⟨[.agg ⟨cR n⟩,.i 0]⟩))):T W L (pF n K):=λw hs=>RX hs mB bS λw' h'=>h w' h'
def TJ[i:Lc (dW d) L D f]{which number:Int}(fJ:D.Ok)(mB:12<=n)(bS:n<=4096)(hl:D.later.length+5000<1099511627776)(hs:s.size<=reachBytes)
 (h:T W (f (put D n which number s).1) (K (.i (put D n which number s).2))):T W L (mE (cR n) (some ⟨d,0,none⟩) which number s K):=λw hw=>by
 obtain⟨k,hk,e⟩:=i.at_;exact OX hw hk fJ mB bS hl hs λw' h'=>h w' (by rw[e];exact h')
def TK[i:Lc (dW d) L D f]{which number size:Int}(fJ:D.Ok)(mB:12<=n)(bS:n<=4096)(h:T W L (K (oJ (get D n which number size)))):T W L (mF (cR n) (some ⟨d,0,none⟩) which number size K):=λw hw=>by
 obtain⟨k,hk,e⟩:=i.at_;exact O7 hw hk fJ mB bS λw' h'=>h w' h'
def OY[i:Lc (dW d) L D f](fJ:D.Ok)(h:T W L (K (mr (wL (vT D 0) (vT D 1))))):T W L (nK (some ⟨d,0,none⟩) K):=λw hw=>by
 obtain⟨k,hk,e⟩:=i.at_;exact G3 hw hk fJ λw' h'=>h w' h'
def Vl[i:Lc (dW d) L D f]{number:Int}{hd:dw}(fJ:D.Ok)(hl:D.later.length+5000<1099511627776)(h:T W (f (px D number hd).1) (K (.i (px D number hd).2))):T W L (pT (some ⟨d,0,none⟩) number (aS hd) K):=λw hw=>by
 obtain⟨k,hk,e⟩:=i.at_;exact LD hw hk fJ hl λw' h'=>h w' (by rw[e];exact h')
def BX[i:Lc (dW d) L D f](fJ:D.Ok)(h:T W L (K (.i (cE D D.safe.length)))):T W L (kr (some ⟨d,0,none⟩) K):=λw hw=>by
 obtain⟨k,hk,e⟩:=i.at_;exact Cu hw hk fJ λw' h'=>h w' h'
def ND[i:Lc (jP d r) L J g](h:T W L (K (.i J.seq))):T W L (gn (some ⟨r,0,none⟩) K):=λw hw=>by
 obtain⟨k,hk,e⟩:=i.at_;exact OO hw hk (h w hw)
def LS[i:Lc (jP d r) L J g](h:T W (g {J with at':=J.lo}) (K (.tuple ⟨[]⟩))):T W L (fN (some ⟨r,0,none⟩) K):=λw hw=>by
 obtain⟨k,hk,e⟩:=i.at_;exact EG hw hk λw' h'=>h w' (by rw[e];exact h')
def QN[i:Lc (jP d r) L J g]{m:Int}(hJ:J.Ok D)(fJ:D.Ok)(h:T W L (K (.bool (decide (room J m))))):T W L (fM (some ⟨r,0,none⟩) m K):=λw hw=>by
 obtain⟨k,hk,e⟩:=i.at_;exact Bc hw hk hJ fJ λw' h'=>h w' h'
def T9{number:Int}(hJ:J.Ok D)(fJ:D.Ok)(hl:D.later.length<1000000)(hs:s.size<=reachBytes)
 (h:T W (jP d r (py D J number s).2.1::dW d (py D J number s).1::R) (K (.i (py D J number s).2.2))):T W (jP d r J::dW d D::R) (aV (some ⟨r,0,none⟩) number s K):=λw hw=>
 KX (k:=0) (k2:=1) hw rfl rfl (by decide) hJ fJ hl hs λw' h'=>h w' h'
def QO[i:Lc (dW d) L D f]{lo hi q:Int}(fJ:D.Ok)(hp:0<=lo/\lo<hi/\hi<=(D.safe.length:Int))(hq:0<=q/\q<=1152921504606846976)
 (h:∀r b c,(∃n:Nat,n<=4096/\(gP D hi lo q).1.length=n/\(gP D hi lo q).2.2=q+n/\lo<=(gP D hi lo q).2.1/\(gP D hi lo q).2.1<=hi)->T W (own b (gP D hi lo q).1.length c 1 ((gP D hi lo q).1.map Cc)::jP d r ⟨lo,hi,(gP D hi lo q).2.1,(gP D hi lo q).2.2,false⟩::L)
  (K (.tuple ⟨[.p (some ⟨r,0,none⟩),.l b (gP D hi lo q).1.length c,.i 0]⟩))):T W L (gT (some ⟨d,0,none⟩) lo hi q K):=λw hw=>by
 obtain⟨k,hk,e⟩:=i.at_;exact LU hw hk fJ hp hq λr b c w' he h'=>h r b c he w' h'
end
end Go.Up
namespace Go.Sep
open Go.Den Go.RowKit Go.Prog Go.bC
def HT{D:ay}{at' to number:Int}{s:BA}(h:D.Ok)(hl:D.later.length+dA s.size<1099511627776):(cA D at' to number s).1.later.length<=D.later.length+dA s.size:=by
 have hL:(lay D at' to number s).1.later.length<=D.later.length+dA s.size:=by
  unfold lay;split
  ·exact Nat.le_add_right _ _
  ·split
   ·exact Nat.le_add_right _ _
   ·exact(wR _ 0 h hl).2.2
 unfold cA;split
 ·exact hL
 ·exact Nat.le_trans Dk.Fh.2 hL
section
variable {W w:World} {L:LH}
end
end Go.Sep
namespace Go.Up
open Go.Sep Go.Den Go.RowKit Go.Prog Go.Md Go.bC
structure VS where
 D:ay
 J:PJ
 aD:Int
 dX:Bool
def vC(d n pb pj:Nat)(aD:Int)(dX:Bool):LV:=[.p (some ⟨d,0,none⟩)]++(cR n++[.p (some ⟨pb,0,none⟩),.p (some ⟨pj,0,none⟩),.i aD,.bool dX])
instance{h:dw}:Ln (aS h) 4:=⟨rfl⟩
instance{n:Nat}:Ln (cR n) 5:=⟨rfl⟩
instance{h:dw}:Gt (aS h) 0 (.i h.aD):=⟨rfl⟩
instance{h:dw}:Gt (aS h) 1 (.i h.number):=⟨rfl⟩
instance{h:dw}:Gt (aS h) 2 (.i h.size):=⟨rfl⟩
instance{h:dw}:Gt (aS h) 3 (.i h.seq):=⟨rfl⟩
instance{n:Nat}:Gt (cR n) 3 (.i (2+2* bF n:Nat)):=⟨rfl⟩
instance{n:Nat}:Gt (cR n) 4 (.i n):=⟨rfl⟩
instance{d n pb pj:Nat}{aD:Int}{dX:Bool}:Gt (vC d n pb pj aD dX) 0 (.p (some ⟨d,0,none⟩)):=⟨rfl⟩
instance{d n pb pj:Nat}{aD:Int}{dX:Bool}:Gt (vC d n pb pj aD dX) 6 (.p (some ⟨pb,0,none⟩)):=⟨rfl⟩
instance{d n pb pj:Nat}{aD:Int}{dX:Bool}:Gt (vC d n pb pj aD dX) 7 (.p (some ⟨pj,0,none⟩)):=⟨rfl⟩
instance{d n pb pj:Nat}{aD:Int}{dX:Bool}:Gt (vC d n pb pj aD dX) 8 (.i aD):=⟨rfl⟩
instance{d n pb pj:Nat}{aD:Int}{dX:Bool}:Gt (vC d n pb pj aD dX) 9 (.bool dX):=⟨rfl⟩
instance{d n pb pj:Nat}{aD:Int}{dX:Bool}:Sub (vC d n pb pj aD dX) 1 5 (cR n):=⟨rfl,λj v h=>by
 show([_]++(cR n++_))[1+j]?=some v
 rw[aes (by simp),aef (by have:=(adU.1 h).1;simpa using this)]
 simpa using h⟩
instance{d n pb pj:Nat}{aD t2:Int}{dX:Bool}:Wr (vC d n pb pj aD dX) 8 [.i t2] (vC d n pb pj t2 dX):=⟨rfl,by show 9<=10;decide,λv h=>by simp at h;subst h;rfl⟩
instance{d n pb pj:Nat}{aD:Int}{dX s2:Bool}:Wr (vC d n pb pj aD dX) 9 [.bool s2] (vC d n pb pj aD s2):=⟨rfl,by show 10<=10;decide,λv h=>by simp at h;subst h;rfl⟩
abbrev VL(v d n pb pj:Nat)(m:Model)(S:VS)(R:LH):LH:=Sep.pt v (vC d n pb pj S.aD S.dX)::bh pb (bo m,[])::jP d pj S.J::dW d S.D::R
def fk(n:Nat)(m:Model)(S:VS):VS×Int:=
 if S.dX=true then(S,9)
 else if ¬dA (bl (bo m)).length<=bF n then(S,3)
 else if(put S.D n (S.aD+1) (cE S.D S.D.safe.length+1) (bs (bl (bo m)))).2≠0 then(⟨(put S.D n (S.aD+1) (cE S.D S.D.safe.length+1) (bs (bl (bo m)))).1,S.J,S.aD,true⟩,(put S.D n (S.aD+1) (cE S.D S.D.safe.length+1) (bs (bl (bo m)))).2)
 else if(px (put S.D n (S.aD+1) (cE S.D S.D.safe.length+1) (bs (bl (bo m)))).1 (cE S.D S.D.safe.length+2) ⟨S.aD+1,cE S.D S.D.safe.length+1,((bl (bo m)).length:Int),S.J.seq⟩).2≠0 then
  (⟨(px (put S.D n (S.aD+1) (cE S.D S.D.safe.length+1) (bs (bl (bo m)))).1 (cE S.D S.D.safe.length+2) ⟨S.aD+1,cE S.D S.D.safe.length+1,((bl (bo m)).length:Int),S.J.seq⟩).1,S.J,S.aD,true⟩,(px (put S.D n (S.aD+1) (cE S.D S.D.safe.length+1) (bs (bl (bo m)))).1 (cE S.D S.D.safe.length+2) ⟨S.aD+1,cE S.D S.D.safe.length+1,((bl (bo m)).length:Int),S.J.seq⟩).2)
 else(⟨(px (put S.D n (S.aD+1) (cE S.D S.D.safe.length+1) (bs (bl (bo m)))).1 (cE S.D S.D.safe.length+2) ⟨S.aD+1,cE S.D S.D.safe.length+1,((bl (bo m)).length:Int),S.J.seq⟩).1,{S.J with at':=S.J.lo},S.aD+1,S.dX⟩,0)
section
variable {W:World} {L R:LH} {K:VK} {X:WK} {v d n pb pj:Nat} {m:Model} {S:VS}
def VJ{k:Nat}(hk:k<1099511627776000)(h:T W L (K (.bool (decide (dA k<=bF n))))):T W L (l9 (cR n) k K):=λw hs=>LW hs hk λw' h'=>h w' h'
def vE{D:ay}{which number:Int}{s:BA}:put D n which number s=cA D (cD n which) ((cD n which+bF n:Nat):Int) number s:=rfl
def Ka{e:Int}{J2:PJ}{D2:ay}(ht:0<=S.aD/\S.aD<1152921504606846976)
 (h1:e≠0->T W (Sep.pt v (vC d n pb pj S.aD true)::bh pb (bo m,[])::jP d pj J2::dW d D2::R) (K (.i e)))
 (h0:e=0->T W (Sep.pt v (vC d n pb pj (S.aD+1) S.dX)::bh pb (bo m,[])::jP d pj {J2 with at':=J2.lo}::dW d D2::R) (K (.i 0))):
 T W (Sep.pt v (vC d n pb pj S.aD S.dX)::bh pb (bo m,[])::jP d pj J2::dW d D2::R) (cF.j1 K (some ⟨v,0,none⟩) e):=by
 unfold cF.j1;refine bE (λg1=>?_) (λg1=>?_)
 ·have g1:e≠0:=by simpa using g1
  apply ws;intros;exact h1 g1
 ·have g1:e=0:=by simpa using g1
  have e5:adP.wrap (S.aD+1)=S.aD+1:=aw (by omega);apply ws;intros;rw[e5];refine LS (d:=d) (r:=pj) ?_;apply ws;intros;exact h0 g1
def OQ(fJ:S.D.Ok)(yd:S.D.later.length<1000000)(mB:12<=n)(bS:n<=4096)(ht:0<=S.aD/\S.aD<1152921504606846976)
 (h:T W (VL v d n pb pj m (fk n m S).1 R) (K (.i (fk n m S).2))):T W (VL v d n pb pj m S R) (cF (some ⟨v,0,none⟩) K):=by
 unfold cF;refine mT (p:=pb) (b:=bo m) (hs:=[]) λhg=>?_;have SA:=sq hg;have lH:=hg.lH;have many:=hg.many;apply ws;intros;unfold fk at h;cases yS:S.dX with
 |true=>
  rw[if_pos yS] at h;rw[gW];exact h
 |false=>
  rw[if_neg (by rw[yS];decide)] at h;rw[ch]
  repeat' first|apply ws;intros|apply wb|with_reducible refine CE (p:=pb) ?_|fail
  rw[bw];refine VJ (by omega) (qC ?_);by_cases hf:dA (bl (bo m)).length<=bF n
  ·rw[if_neg (λhh=>hh hf)] at h;rw[decide_eq_true hf,Bool.not_true,ch];obtain⟨Hj,L8⟩:=sS S.D S.D.safe.length;have e1:adP.wrap (cE S.D S.D.safe.length+1)=cE S.D S.D.safe.length+1:=aw (by omega);have e2:adP.wrap (cE S.D S.D.safe.length+1+1)=cE S.D S.D.safe.length+2:=by rw[aw (by omega)];omega
   have e3:adP.wrap (S.aD+1)=S.aD+1:=aw (by omega)
   repeat' first|apply ws;intros|apply wb|with_reducible refine BX (d:=d) fJ ?_|fail
   rw[e1,e2,e3];have fh:(bs (bl (bo m))).size<=reachBytes:=by rw[bw,SA];unfold reachBytes;omega
   refine TJ fJ mB bS (by omega) fh ?_;have Xu:(put S.D n (S.aD+1) (cE S.D S.D.safe.length+1) (bs (bl (bo m)))).1.Ok:=by
    rw[vE];exact FV fJ (by rw[bw];unfold bF at hf;omega)
   have XO:(put S.D n (S.aD+1) (cE S.D S.D.safe.length+1) (bs (bl (bo m)))).1.later.length<1010000:=by
    rw[vE];have:=HT (D:=S.D) (at':=(cD n (S.aD+1):Nat)) (to:=((cD n (S.aD+1)+bF n:Nat):Int)) (number:=cE S.D S.D.safe.length+1) (s:=bs (bl (bo m))) fJ (by rw[bw];unfold bF at hf;omega);rw[bw] at this;unfold bF at hf;omega
   generalize put S.D n (S.aD+1) (cE S.D S.D.safe.length+1) (bs (bl (bo m)))=P1 at h Xu XO⊢;generalize cE S.D S.D.safe.length=G at h⊢;apply ws;intros;refine bE (λg1=>?_) (λg1=>?_)
   ·have g1:P1.2=0:=by simpa using g1
    rw[if_neg (by omega)] at h
    repeat' first|apply ws;intros|apply wb|with_reducible refine ND (d:=d) (r:=pj) ?_|fail
    rw[e3];show T W _ (pT (some ⟨d,0,none⟩) (G+2) (aS (⟨S.aD+1,G+1,((bl (bo m)).length:Int),S.J.seq⟩:dw)) _);refine Vl Xu (by omega) ?_;generalize px P1.1 (G+2) (⟨S.aD+1,G+1,((bl (bo m)).length:Int),S.J.seq⟩:dw)=P2 at h⊢;apply ws;intros;refine Ka (S:=S) ht (λhe=>?_) (λhe=>?_)
    ·rw[if_pos he] at h;exact h
    ·rw[if_neg (by omega)] at h;exact h
   ·have g1:P1.2≠0:=by simpa using g1
    rw[if_pos g1] at h;refine Ka (S:=S) ht (λhe=>?_) (λhe=>absurd he g1);exact h
  ·rw[if_pos hf] at h;rw[decide_eq_false hf,Bool.not_false,gW];exact h
end
def kX(S:VS)(s:BA):VS×Int:=
 (⟨(py S.D S.J (cE S.D S.D.safe.length+1) s).1,(py S.D S.J (cE S.D S.D.safe.length+1) s).2.1,S.aD,S.dX||(py S.D S.J (cE S.D S.D.safe.length+1) s).2.2==8⟩,(py S.D S.J (cE S.D S.D.safe.length+1) s).2.2)
def fE(n:Nat)(m:Model)(S:VS)(s:BA):VS×Int:=
 if room S.J s.size then kX S s else if(fk n m S).2≠0 then fk n m S else kX (fk n m S).1 s
def uZ(n:Nat)(m:Model)(S:VS)(q:iw):VS×Model×Int×List Int:=
 if fS q=false then(S,m,1,[])
 else if S.dX=true then(S,m,9,[])
 else if(fE n m S (bs (bZ q))).2≠0 then((fE n m S (bs (bZ q))).1,m,(fE n m S (bs (bZ q))).2,[])
 else((fE n m S (bs (bZ q))).1,(aH m q).2.2,(aH m q).1,(aH m q).2.1)
structure LO(S:VS):Prop where
 ok:S.D.Ok
 lH:S.D.later.length<1000000
 uT:S.J.Ok S.D
 aD:0<=S.aD/\S.aD<1152921504606846976
section
variable {W:World} {L R:LH} {K:VK} {X:WK} {v d n pb pj:Nat} {m:Model} {S:VS} {s:BA} {q:iw} {sl:r9}
def T.eng{A B C D E F G:HP}(h:T W (B::C::A::D::E::R) X):T W (A::B::C::D::E::F::G::R) X:=
 T.perm (L:=B::C::A::D::E::F::G::R) (T.sub h (by exact nh)) (ad1 (l₁:=[A]) (l₂:=[B,C])|>.append_right _)
def Pb(hS:LO S)(hs:s.size<=reachBytes)(h:T W (VL v d n pb pj m (kX S s).1 R) (K (.i (kX S s).2))):T W (VL v d n pb pj m S R) (fB.j1 K (some ⟨v,0,none⟩) s):=by
 unfold fB.j1;obtain⟨Hj,L8⟩:=sS S.D S.D.safe.length;have e1:adP.wrap (cE S.D S.D.safe.length+1)=cE S.D S.D.safe.length+1:=aw (by omega)
 repeat' first|apply ws;intros|apply wb|with_reducible refine BX (d:=d) hS.ok ?_|fail
 rw[e1];refine T.perm (L:=jP d pj S.J::dW d S.D::Sep.pt v (vC d n pb pj S.aD S.dX)::bh pb (bo m,[])::R) ?_ (ad1 (l₁:=[_,_]) (l₂:=[_,_])|>.append_right R);refine T9 hS.uT hS.ok hS.lH hs ?_;unfold kX at h;generalize py S.D S.J (cE S.D S.D.safe.length+1) s=A at h⊢;refine T.perm (L:=Sep.pt v (vC d n pb pj S.aD S.dX)::bh pb (bo m,[])::jP d pj A.2.1::dW d A.1::R) ?_ (ad1 (l₁:=[_,_]) (l₂:=[_,_])|>.append_right R);cases yS:S.dX with
 |true=>
  rw[yS,Bool.true_or] at h;apply ws;intros;exact h
 |false=>
  rw[yS,Bool.false_or] at h;apply ws;intros;exact h
def Zf(hS:LO S)(X7:LO (fk n m S).1)(mB:12<=n)(bS:n<=4096)(hs:s.size<=100000)(h:T W (VL v d n pb pj m (fE n m S s).1 R) (K (.i (fE n m S s).2))):T W (VL v d n pb pj m S R) (fB (some ⟨v,0,none⟩) s K):=by
 have hsr:s.size<=reachBytes:=by unfold reachBytes;omega
 unfold fB;apply ws;intros;refine QN (d:=d) (r:=pj) (D:=S.D) hS.uT hS.ok ?_;unfold fE at h;by_cases hr:room S.J s.size
 ·rw[if_pos hr] at h;rw[decide_eq_true hr];apply ws;intros;exact Pb hS hsr h
 ·rw[if_neg hr] at h;rw[decide_eq_false hr];apply ws;intros;refine OQ hS.ok hS.lH mB bS hS.aD ?_;apply ws;intros;refine bE (λg1=>?_) (λg1=>?_)
  ·have g1:(fk n m S).2≠0:=by simpa using g1
   rw[if_pos g1] at h;exact h
  ·have g1:(fk n m S).2=0:=by simpa using g1
   rw[if_neg (by omega)] at h;exact Pb X7 hsr h
def Fq(hw:fS q=true)(he:dH q=true):(bZ q).length<=2000:=by
 have Us:q.op=1\/q.op=2\/q.op=3:=of_decide_eq_true he;have hf:=nd hw;unfold bZ;rw[adV,az];split
 ·rw[adV,az,dM oE];omega
 ·split
  ·rw[adV,az,dM ow];omega
  ·split
   ·rw[az];omega
   ·omega
def Tr(G:pn W)(hg:Md.Ground m)(hS:LO S)(X7:LO (fk n m S).1)(mB:12<=n)(bS:n<=4096)(hq:lu W R q sl)(hA:∀a∈q.ag,vf a)(hT:∀t∈q.aT,uX t)(zv:q.ag.length<1000000)(aZ:q.aT.length<1000000)(he:dH q=true)
 (h:∀rb rc,Md.Ground (uZ n m S q).2.1->T W (own rb (uZ n m S q).2.2.2.length rc 1 ((uZ n m S q).2.2.2.flatMap I1)::VL v d n pb pj (uZ n m S q).2.1 (uZ n m S q).1 R) (K (.agg ⟨oZ (uZ n m S q).2.2.1 rb (uZ n m S q).2.2.2.length rc none 0 0 none 0 0⟩))):
 T W (VL v d n pb pj m S R) (dJ (some ⟨v,0,none⟩) (dF q sl) K):=by
 unfold dJ
 repeat' first|apply ws;intros|apply wb|with_reducible refine yk ?_|fail
 rw[he];apply ws;intros;refine Mq (R:=R) hq zv aZ (λhw=>?_) (λhw=>?_)
 ·apply ws;intros;unfold uZ at h;rw[if_neg (by rw[hw];decide)] at h;refine dV (by decide) ?_;apply ws;intros;cases yS:S.dX with
  |true=>
   rw[if_pos yS] at h;apply ws;intros;refine eW (e:=1) ?_;refine T.sub (h none 0 hg) ?_
   repeat (first|exact ad7.refl _|apply ad7.cons_cons|apply ad7.cons)
  |false=>
   rw[if_neg (by rw[yS];decide)] at h;rw[ch];have hrl:=Fq hw he;have US:q.op=2->∀t∈q.aT,Zg t:=λho t ht=>⟨hT t ht,by
    have hf:=nd hw
    have:∀a∈q.aT,jT a:=by rcases hf with h|h|h|h|h<;>first|exact h.2.2|omega
    exact this t ht⟩
   refine T.perm (L:=VL v d n pb pj m S (_::_::R)) ?_ (ad1 (l₁:=[_,_]) (l₂:=[_,_,_,_])|>.append_right R);refine Zf hS X7 mB bS (by rw[bw];omega) ?_;generalize fE n m S (bs (bZ q))=A at h⊢;apply ws;intros;refine bE (λg1=>?_) (λg1=>?_)
   ·have g1:A.2≠0:=by simpa using g1
    rw[if_pos g1] at h;apply ws;intros;refine eW (e:=1) ?_;refine T.sub (h none 0 hg) ?_
    repeat (first|exact ad7.refl _|apply ad7.cons_cons|apply ad7.cons)
   ·have g1:A.2=0:=by simpa using g1
    rw[if_neg (by omega)] at h;apply ws;intros;refine T.HE ?_;refine Gx G hg ⟨hq.ag.mono,hq.aT.mono,hq.ids.mono,hq.ca,hq.ct,hq.ci⟩ (λ_=>hA) US λrb rc L8=>?_;apply ws;intros;have fin:=h rb rc L8;exact T.eng fin
 ·apply ws;intros;unfold uZ at h;rw[if_pos hw] at h;refine kq (by decide) ?_;apply ws;intros;refine eW (e:=1) ?_;refine T.sub (h none 0 hg) ?_
  repeat (first|exact ad7.refl _|apply ad7.cons_cons|apply ad7.cons)
end
section
variable {W:World} {L R:LH} {K:VK} {X:WK} {v d n pb pj:Nat} {m:Model} {S:VS} {s:BA} {q:iw} {sl:r9}
def T.ask{O1 O2 B V J D F G:HP}(h:T W (O1::O2::V::B::J::D::R) X):T W (O1::O2::B::V::J::D::F::G::R) X:=
 T.perm (L:=O1::O2::V::B::J::D::F::G::R) (T.sub h (by exact nh)) (aej.append_left [O1,O2] (aej.swap _ _ _))
def T.in2{F G V B J D:HP}(h:T W (B::V::J::D::F::G::R) X):T W (F::G::V::B::J::D::R) X:=
 T.perm h ((ad1 (l₁:=[F,G]) (l₂:=[V,B,J,D])|>.append_right R).trans (aej.swap _ _ _))
def Ts(hq:lu W R q sl)(he:dH q=false)
 (h:∀ab ac tb tc,T W (own ab (ask m q).2.1.length ac 14 ((ask m q).2.1.flatMap ak)::own tb (ask m q).2.2.length tc 16 ((ask m q).2.2.flatMap ai)::VL v d n pb pj m S R) (K (.agg ⟨oZ (ask m q).1 none 0 0 ab (ask m q).2.1.length ac tb (ask m q).2.2.length tc⟩))):
 T W (VL v d n pb pj m S R) (dJ (some ⟨v,0,none⟩) (dF q sl) K):=by
 unfold dJ
 repeat' first|apply ws;intros|apply wb|with_reducible refine yk ?_|fail
 rw[he];apply ws;intros;refine T.in2 ?_;refine Zd ⟨hq.ag.mono,hq.aT.mono,hq.ids.mono,hq.ca,hq.ct,hq.ci⟩ λab ac tb tc=>?_;apply ws;intros;exact T.ask (h ab ac tb tc)
def Ho(h:T W (VL v d n pb pj m S R) (K (.i S.J.seq))):T W (VL v d n pb pj m S R) (jx (some ⟨v,0,none⟩) K):=by
 unfold jx
 repeat' first|apply ws;intros|apply wb|with_reducible refine ND (d:=d) (r:=pj) ?_|fail
 exact h
def IU(h:T W (VL v d n pb pj m S R) (K (.i S.aD))):T W (VL v d n pb pj m S R) (gL (some ⟨v,0,none⟩) K):=by
 unfold gL;apply ws;intros;exact h
def E5(h:∀p,T W (bh p (bo m,[])::VL v d n pb pj m S R) (K (.p (some ⟨p,0,none⟩)))):T W (VL v d n pb pj m S R) (jF (some ⟨v,0,none⟩) K):=by
 refine mT (p:=pb) (b:=bo m) (hs:=[]) λhg=>?_;unfold jF
 repeat' first|apply ws;intros|apply wb|with_reducible refine CE (p:=pb) ?_|fail
 refine Fk hg λp=>?_;apply ws;intros;exact h p
end
def o0:Model:=⟨[],[],0,0⟩
def wY:Good (bo o0):=⟨List.nodup_nil,List.nodup_nil,(by show 0<=32;decide),(by show 0<=96;decide),λa h=>(by cases h),λa h=>(by cases h),List.Pairwise.nil,λa h=>(by cases h),(by show(0:Int)<=0/\(0:Int)<=1099511627776;decide),rfl⟩
def qk:Md.Ground o0:=⟨λa h=>(by cases h),List.nodup_nil,(by show 0<=32;decide),List.nodup_nil,λa h=>(by cases h),λa h=>(by cases h),(by show 0<=96;decide),λa h=>(by cases h),λa h=>(by cases h),λa h=>(by cases h)⟩
def u4(h:dw):∀v∈aS h,v.oneCell'=true:=λv hv=>by simp[aS] at hv;rcases hv with rfl|rfl|rfl|rfl<;>rfl
instance{x1 x2 x3 x4:Value}{h:dw}:Wr [x1,x2,x3,x4] 0 (aS h) (aS h):=⟨rfl,adY _,u4 h⟩
instance{h:dw}:Sub (aS h) 0 4 (aS h):=⟨rfl,λj v h=>by rw[adW];exact h⟩
def Cg(n:Nat):∀v∈cR n,v.oneCell'=true:=λv hv=>by simp[cR] at hv;rcases hv with rfl|rfl|rfl|rfl|rfl<;>rfl
instance{x1 x2 x3 x4 x5:Value}{n:Nat}:Wr [x1,x2,x3,x4,x5] 0 (cR n) (cR n):=⟨rfl,adY _,Cg n⟩
instance{n:Nat}:Sub (cR n) 0 5 (cR n):=⟨rfl,λj v h=>by rw[adW];exact h⟩
def VM(D:ay)(n:Nat)(hd:dw)(mb:Model):Prop:=
 (wL (vT D 0) (vT D 1)=none/\hd=Ah/\mb=o0)\/(wL (vT D 0) (vT D 1)=some hd/\get D n hd.aD hd.number hd.size=some (bl (bo mb)))
section
variable {W:World} {L R:LH} {K:VK} {X:WK} {v d n pb pj:Nat} {D:ay} {f:ay->LH} {mb:Model} {hd:dw}
def RJ(h:∀p,T W (bh p (bo o0,[])::L) (K (.p (some ⟨p,0,none⟩)))):T W L (pW K):=by
 refine Oz λp la lk ti tn=>?_;intro w7 hw7;have h2:=hw7.push (A:=rr []) trivial;refine Ac (p:=p) (la:=la) (lk:=lk) (ti:=ti) (tn:=tn) (vs:=[]) (bx:=[]) (c:=cZ (bo o0)) (hs:=[]) (R:=L) trivial (λw hw=>h p w (St.and_intro wY hw)) w7 ?_;exact h2.perm (ad1 (l₁:=[rr []]) (l₂:=[_,_,_,_,_])|>.append_right L)
def PN[i:Lc (dW d) L D f](fJ:D.Ok)(mB:12<=n)(bS:n<=4096)(hb:VM D n hd mb)(hg:Good (bo mb))(h:∀pb,T W (bh pb (bo mb,[])::L) (K (.tuple ⟨[.p (some ⟨pb,0,none⟩),.agg ⟨aS hd⟩,.i 0]⟩))):
 T W L (so (some ⟨d,0,none⟩) (cR n) K):=by
 unfold so;apply ws;intros;refine OY fJ ?_;rcases hb with⟨h1,rfl,rfl⟩|⟨h1,h2⟩
 ·rw[h1];unfold mr;apply ws;intros;refine RJ λp=>?_;apply ws;intros;refine Kh (n:=4) (xs:=aS Ah) ?_;apply ws;intros;refine T.sub (h p) ?_;exact nh
 ·rw[h1];unfold mr;apply ws;intros;refine TK fJ mB bS ?_;rw[h2];unfold oJ;apply ws;intros;refine Fk hg λp=>?_;apply ws;intros;refine T.sub (h p) ?_;exact nh
end
structure DD(q:iw):Prop where
 vL:fS q=true
 writes:dH q=true
 ag:∀a∈q.ag,vf a
 aT:∀t∈q.aT,uX t
def uS(m:Model)(qs:List iw):Model:=qs.foldl (λm q=>(aH m q).2.2) m
def CO(m:Model)(qs:List iw)(q:iw):uS m (qs++[q])=(aH (uS m qs) q).2.2:=by unfold uS;rw[List.foldl_append];rfl
def Cr{m0:Model}:∀(k:Nat)(m:Model),yJ m0.clock m.kept=k->Md.Ground m->RZ m0 m->Md.Ground {m0 with kept:=m0.kept.map (Bu m0.clock)}:=by
 intro k
 induction k using Nat.strongRecOn with
 |_ k ih=>
  intro m hk hg hx;by_cases hn:∀x∈(bo m).kept,¬jq (bo m).clock x
  ·have:=CZ (oO m) hx hn;rw[<-this];exact hg
  ·have:∃x,x∈(bo m).kept/\jq (bo m).clock x:=by
    by_cases he:∃x,x∈(bo m).kept/\jq (bo m).clock x
    ·exact he
    ·exact absurd (λx hx ho=>he ⟨x,hx,ho⟩) hn
   obtain⟨x,hxm,ho⟩:=this;obtain⟨-,-,m',cU,Q3,Uc,ye⟩:=CY (oO m) hg hx hxm ho;exact ih _ (by omega) m' rfl Q3 Uc
def Fb{m:Model}(hg:Md.Ground m)(now:Int):Md.Ground (m.time now):=by
 rw[DF];exact Cr _ (qc m now) rfl (zf hg now) (RZ.refl _)
def GI{q:iw}:(∀a∈(canon q).ag,a∈q.ag)/\(∀t∈(canon q).aT,t∈q.aT)/\(canon q).ag.length<=q.ag.length/\(canon q).aT.length<=q.aT.length:=by
 unfold canon;split
 ·exact⟨λa h=>h,λt h=>(by cases h),adY _,ad2 _⟩
 ·split
  ·exact⟨λa h=>(by cases h),λt h=>h,ad2 _,adY _⟩
  ·exact⟨λa h=>(by cases h),λt h=>(by cases h),ad2 _,ad2 _⟩
section
variable {W:World} {L R:LH} {K:VK} {X:WK} {v d n pb pj:Nat} {D:ay} {f:ay->LH} {mb:Model} {hd:dw} {qs:List iw}
def lu.two{Y A:HP}{q:iw}{s:r9}(hq:∀L',lu W (A::L') q s):lu W (Y::A::L) q s:=⟨(hq L).ag.mono,(hq L).aT.mono,(hq L).ids.mono,(hq L).ca,(hq L).ct,(hq L).ci⟩
def T.WW{V O J H B P Dk:HP}(h:T W (B::V::J::Dk::O::R) X):T W (V::O::J::H::B::P::Dk::R) X:=
 T.perm (L:=B::V::J::Dk::O::H::P::R) (T.sub h (by exact nh)) (by
  have e1:([V,O,J,H,B,P,Dk]:LH).Perm (B::[V,O,J,H,P,Dk]):=ae4 (l₁:=[V,O,J,H]) (l₂:=[P,Dk])
  have e2:([O,J,H,P,Dk]:LH).Perm (J::[O,H,P,Dk]):=ae4 (l₁:=[O]) (l₂:=[H,P,Dk])
  have e3:([O,H,P,Dk]:LH).Perm (Dk::[O,H,P]):=ae4 (l₁:=[O,H,P]) (l₂:=[])
  exact(e1.trans (aej.cons _ (aej.cons _ (e2.trans (aej.cons _ e3))))).append_right R)
def PM(G:pn W)(fJ:D.Ok)(mB:12<=n)(bS:n<=4096)(hlen:D.safe.length=n)(hb:VM D n hd mb)(hg:Good (bo mb))(qM:Md.Ground mb)(Cl:0<=hd.seq/\hd.seq<=1152921504606846976)
 (Eb:(gP D n (2+2* bF n:Nat) hd.seq).1=qs.map bZ)(ZB:∀q∈qs,DD q)
 (h:∀v pb pj,Md.Ground (uS mb qs)->T W (VL v d n pb pj (uS mb qs) ⟨D,⟨(2+2* bF n:Nat),n,(gP D n (2+2* bF n:Nat) hd.seq).2.1,(gP D n (2+2* bF n:Nat) hd.seq).2.2,false⟩,hd.aD,false⟩ R) (K (.tuple ⟨[.p (some ⟨v,0,none⟩),.i 0]⟩))):
 T W (dW d D::R) (eL (some ⟨d,0,none⟩) K):=by
 unfold eL;have Pp:2+2* bF n<n:=by unfold bF;omega
 repeat' first|apply ws;intros|apply wb|with_reducible refine LQ (d:=d) ?_|fail
 rw[hlen];refine Zh mB bS ?_;apply ws;intros;refine dV (by decide) ?_;apply ws;intros;refine PN (mb:=mb) (hd:=hd) fJ mB bS hb hg λpb=>?_;apply ws;intros;refine dV (by decide) ?_;apply ws;intros;refine QO (D:=D) fJ (by rw[hlen];omega) Cl λpj bb c hex=>?_;apply ws;intros;refine dV (by decide) ?_;apply ws;intros;rename_i v;rw[Eb];refine T.WW ?_;rw[aei];have hql:qs.length<=4096:=by obtain⟨n',h1,h2,-⟩:=hex;rw[Eb,aei] at h2;omega
 intro w L2;refine⟨λvv w=>∃i:Nat,i<=qs.length/\vv=[.p none,.i 0,.p (some ⟨pb,0,none⟩),.p (some (ad v 0)),.l bb qs.length c,.i (qs.length:Int),.i (i:Int)]/\Md.Ground (uS mb (qs.take i))/\
  St W w (bh pb (bo (uS mb (qs.take i)),[])::Sep.pt v (vC d n pb pj hd.aD false)::jP d pj ⟨(2+2* bF n:Nat),n,(gP D n (2+2* bF n:Nat) hd.seq).2.1,(gP D n (2+2* bF n:Nat) hd.seq).2.2,false⟩::dW d D::own bb qs.length c 1 ((qs.map bZ).map Cc)::R),
  λvs _=>match vs with|[_,_,_,_,_,_,.int _ k]=>qs.length-k.toNat|_=>0,⟨0,ad2 _,rfl,qM,L2⟩,?_⟩
 rintro p4 n9 p5 a1 uR qe uQ Zs T3 w2 ⟨i,hi,e,Wd,fh⟩;cases e
 refine T.at ?_ fh;have e5:=lY i;refine dP (λg1=>?_) (λg1=>?_)
 ·have aZ:i<qs.length:=by omega
  have gx:=adS aZ;have gq:=ZB _ (aeg aZ);have oy:qs.take (i+1)=qs.take i++[qs[i]]:=by rw[aeb,gx];rfl
  generalize qs[i]=q at gx gq oy;have X0:=CP gq.vL gq.writes gq.ag gq.aT;have XW:=BF gq.vL gq.writes;refine bQ (b:=bb) ⟨by omega,by omega⟩ λrb hb=>?_;subst hb;rw[adT,afp];refine MH (v:=Cc (bZ q)) (by rw[aeF,aeF,gx];rfl) ?_;unfold Cc;refine PT ?_;refine PH (by have:=Fq gq.vL gq.writes;omega) (λuW=>by rw[Fw gq.vL gq.writes gq.ag gq.aT] at uW;cases uW) (λ_ A sl hq=>?_);rw[X0] at hq⊢;dsimp only at hq⊢;apply ws;intros;refine dV (by decide) ?_
  repeat' first|apply ws;intros|apply wb|with_reducible refine yk ?_|fail
  rw[XW.2];unfold eL.j1;apply ws;intros;refine T.TQ ?_;have Eh:=GI (q:=q);have US:(canon q).op=2->∀t∈(canon q).aT,Zg t:=λho t ht=>⟨gq.aT t (Eh.2.1 t ht),by
   have hf:=nd XW.1
   have:∀a∈(canon q).aT,jT a:=by rcases hf with h|h|h|h|h<;>first|exact h.2.2|omega
   exact this t ht⟩
  have Bh:=BE (uS mb (qs.take i)) gq.writes;refine Gx G Wd (lu.two hq) (λ_ a ha=>gq.ag a (Eh.1 a ha)) US λPf rc2 L8=>?_;apply ws;intros;rw[Bh.1] at L8⊢;rw[e5];have hre:uS mb (qs.take (i+1))=(aH (uS mb (qs.take i)) q).2.2:=by rw[oy,CO]
  refine T.sub (M:=bh pb (bo (aH (uS mb (qs.take i)) q).2.2,[])::Sep.pt v (vC d n pb pj hd.aD false)::jP d pj ⟨(2+2* bF n:Nat),n,(gP D n (2+2* bF n:Nat) hd.seq).2.1,(gP D n (2+2* bF n:Nat) hd.seq).2.2,false⟩::dW d D::own (some ⟨rb,0,none⟩) qs.length c 1 ((qs.map bZ).map Cc)::R) (λw3 h3=>?_) ?_
  ·exact⟨⟨i+1,aZ,rfl,by rw[hre];exact L8,by rw[hre];exact h3⟩,by show qs.length-((i+1:Nat):Int).toNat<qs.length-(i:Int).toNat;omega⟩
  ·repeat (first|exact ad7.refl _|apply ad7.cons_cons|apply ad7.cons)
 ·have gr:i=qs.length:=by omega
  subst gr;rw[ad5] at Wd⊢;have fin:=h v pb pj Wd;refine T.HE ?_;refine T.sub fin ?_;exact nh
end
structure Rm(n g:Nat)(S:VS):Prop where
 calm:Sep.Calm n S.D
 ends:∀j:Nat,j<n->Sep.Ends g (S.D.read (j:Int)).1
 lo:S.J.lo=((2+2* bF n:Nat):Int)
 hi:S.J.hi=(n:Int)
 DA:S.J.lo<=S.J.at'
 Mi:S.J.at'<=S.J.hi
 seq:0<=S.J.seq/\S.J.seq<=1000000
 js:S.J.dX=false
 dX:S.dX=false
 aD:0<=S.aD/\S.aD<=g
def Rm.ok{n g:Nat}{S:VS}(h:Rm n g S)(hn:n<=4096)(hg:g<=1000):LO S:=by
 have h1:=h.calm.later;have h2:=h.lo;have h3:=h.DA;have h4:=h.Mi;have h5:=h.seq;have h6:=h.aD;have h7:=h.hi;exact⟨h.calm.ok,by omega,⟨by omega,h3,h4,by rw[h.calm.len];omega,by omega⟩,by omega⟩
def F1{n a t g:Nat}{D:ay}{number:Int}{s:BA}(hc:Sep.Calm n D)(he:∀j:Nat,j<n->Sep.Ends g (D.read (j:Int)).1)(bS:n<=4096)(h1:1<=number)(h2:number<=g+1)(hg:g+1<256)(hl:a+dA s.size<=t)(QT:t<=n):
 (cA D (a:Nat) (t:Nat) number s).2=0/\Sep.Calm n (cA D (a:Nat) (t:Nat) number s).1/\∀j:Nat,j<n->Sep.Ends (g+1) ((cA D (a:Nat) (t:Nat) number s).1.read (j:Int)).1:=by
 obtain⟨f1,f2,f3,f4⟩:=Ju (a:=a) (t:=t) (number:=number) (s:=s) hc bS ⟨h1,by omega⟩ hl QT;refine⟨f1,f2,λj hj=>?_⟩;by_cases Bm:a<=j/\j<a+dA s.size
 ·obtain⟨q,rfl⟩:∃q,j=a+q:=⟨j-a,by omega⟩;have:=f3 q (by omega);rw[show((a+q:Nat):Int)=(a:Int)+q from by omega,this];obtain⟨m,rfl⟩:=ad3 (show 0<=number by omega);have vI:Sep.Good m (q:Int) (Sep.part s q):=⟨h1,by omega,by omega,by omega,by
   unfold Sep.part;rw[ByteArray.size_extract];omega⟩
  exact(yj vI).mono (by omega)
 ·rw[f4 j hj (by omega)];exact(he j hj).mono (by omega)
def vg{n g:Nat}{m:Model}{S:VS}(h:Rm n g S)(bS:n<=4096)(mB:12<=n)(hg:g+2<256)(zw:dA (bl (bo m)).length<=bF n)(hlen:(bl (bo m)).length<=425984):
 (fk n m S).2=0/\Rm n (g+2) (fk n m S).1/\(fk n m S).1.J.at'=S.J.lo/\(fk n m S).1.J.lo=S.J.lo/\(fk n m S).1.J.seq=S.J.seq/\(fk n m S).1.aD=S.aD+1:=by
 have qM:=uG (by omega) n h.ends;have Wd:=(sS S.D n).1;have Bm:=lC mB (S.aD+1);have ht:=h.aD;have ET:=h.seq;obtain⟨p1,p2,p3⟩:=F1 (a:=cD n (S.aD+1)) (t:=cD n (S.aD+1)+bF n) (g:=g) (number:=cE S.D n+1) (s:=bs (bl (bo m))) h.calm h.ends bS (by omega) (by omega) (by omega) (by rw[bw];omega) Bm.2.1;have Gf:=rh (S.aD+1);obtain⟨lw,hlw⟩:∃lw:Nat,low (S.aD+1)=(lw:Int)/\lw<2:=by
  rcases Gf with hh|hh
  ·exact⟨0,hh,by decide⟩
  ·exact⟨1,hh,by decide⟩
 have hH:jU ⟨S.aD+1,cE S.D n+1,((bl (bo m)).length:Int),S.J.seq⟩:=by
  unfold jU;dsimp only;omega
 have XL:(ga ⟨S.aD+1,cE S.D n+1,((bl (bo m)).length:Int),S.J.seq⟩).length=32:=by simp only[ga,adV,az]
 have tW:=h.calm.len;have cp:∀D1:ay,Sep.Calm n D1->(∀j:Nat,j<n->Sep.Ends (g+1) (D1.read (j:Int)).1)->(px D1 (cE S.D n+2) ⟨S.aD+1,cE S.D n+1,((bl (bo m)).length:Int),S.J.seq⟩).2=0/\Sep.Calm n (px D1 (cE S.D n+2) ⟨S.aD+1,cE S.D n+1,((bl (bo m)).length:Int),S.J.seq⟩).1/\
  ∀j:Nat,j<n->Sep.Ends (g+2) ((px D1 (cE S.D n+2) ⟨S.aD+1,cE S.D n+1,((bl (bo m)).length:Int),S.J.seq⟩).1.read (j:Int)).1:=by
  intro D1 c1 e1;have:=F1 (a:=lw) (t:=lw+1) (g:=g+1) (number:=cE S.D n+2) (s:=bs (ga ⟨S.aD+1,cE S.D n+1,((bl (bo m)).length:Int),S.J.seq⟩)) c1 e1 bS (by omega) (by omega) (by omega) (by rw[bw,XL];show lw+1<=lw+1;omega) (by omega);have e:px D1 (cE S.D n+2) ⟨S.aD+1,cE S.D n+1,((bl (bo m)).length:Int),S.J.seq⟩=cA D1 ((lw:Nat):Int) ((lw+1:Nat):Int) (cE S.D n+2) (bs (ga ⟨S.aD+1,cE S.D n+1,((bl (bo m)).length:Int),S.J.seq⟩)):=by
   unfold px cA;rw[if_pos hH];dsimp only;rw[hlw.1]
   rfl
  rw[e];exact this
 unfold fk;rw[tW,if_neg (by rw[h.dX];decide),if_neg (λhh=>hh zw),if_neg (by rw[vE];exact λhh=>hh p1)];obtain⟨c1,c2,c3⟩:=cp (put S.D n (S.aD+1) (cE S.D n+1) (bs (bl (bo m)))).1 p2 p3;rw[if_neg (λhh=>hh c1)];refine⟨rfl,⟨c2,c3,h.lo,h.hi,afm _,?_,h.seq,h.js,h.dX,?_⟩,rfl,rfl,rfl,rfl⟩
 ·have:=h.DA;have:=h.Mi;show S.J.lo<=S.J.hi;omega
 ·show 0<=S.aD+1/\S.aD+1<=((g+2:Nat):Int);omega
def Rm.uT{n g:Nat}{S:VS}(h:Rm n g S):S.J.Ok S.D:=by
 have h2:=h.lo;have h5:=h.seq;have h7:=h.hi;exact⟨by omega,h.DA,h.Mi,by rw[h.calm.len];omega,by omega⟩
def vh{n g:Nat}{S:VS}{s:BA}(h:Rm n g S)(bS:n<=4096)(hg:g+1<256)(ET:S.J.seq<1000000)(hr:room S.J s.size):
 (kX S s).2=0/\Rm n (g+1) (kX S s).1/\(kX S s).1.J.at'=S.J.at'+(dA (12+s.size):Int)/\(kX S s).1.J.lo=S.J.lo/\(kX S s).1.J.seq=S.J.seq+1/\(kX S s).1.aD=S.aD:=by
 have qM:=uG (by omega) n h.ends;have Wd:=(sS S.D n).1;have xx:=h.lo;have vK:=h.DA;obtain⟨D',e1,e2,e3,e4,e5,e6,e7⟩:=OF (n:=n) (number:=cE S.D n+1) (s:=s) h.calm bS h.uT h.js (by omega) (by omega) hr;unfold kX;rw[h.calm.len,e1];have nj:∀j:Nat,j<n->Sep.Ends (g+1) (D'.read (j:Int)).1:=λj hj=>by
  by_cases Bm:S.J.at'<=j/\(j:Int)<S.J.at'+(dA (12+s.size):Int)
  ·obtain⟨q,hq⟩:=ad3 (show 0<=(j:Int) -S.J.at' by omega);have:=e5 q (by omega);rw[show(j:Int)=S.J.at'+(q:Int) from by omega,this];obtain⟨m,hm⟩:=ad3 (show 0<=cE S.D n+1 by omega);rw[hm];have vI:Sep.Good m (q:Int) (Sep.part (bs (bG (S.J.seq+1) s)) q):=⟨by omega,by omega,by omega,by omega,by
    unfold Sep.part;rw[ByteArray.size_extract];omega⟩
   exact(yj vI).mono (by omega)
  ·rw[e6 j (by omega) (by omega) (by omega)];exact(h.ends j hj).mono (by omega)
 have Pk:=h.dX;have htu:=h.aD;have adz:=h.seq;refine⟨rfl,⟨e2,nj,h.lo,h.hi,e4.DA,e4.Mi,⟨?_,?_⟩,h.js,?_,?_⟩,rfl,rfl,rfl,rfl⟩
 ·show 0<=S.J.seq+1;omega
 ·show S.J.seq+1<=1000000;omega
 ·show(S.dX||_)=false;rw[Pk];rfl
 ·show 0<=S.aD/\S.aD<=((g+1:Nat):Int);omega
def Kg{n g:Nat}{m:Model}{S:VS}{s:BA}(h:Rm n g S)(bS:n<=4096)(mB:12<=n)(hg:g+3<256)(zw:dA (bl (bo m)).length<=bF n)(hlen:(bl (bo m)).length<=425984)(ET:S.J.seq<1000000)(hs:s.size<=32768)(hj:(dA (12+s.size):Int)<=S.J.hi-S.J.lo):
 (fE n m S s).2=0/\(fE n m S s).1.J.lo=S.J.lo/\(fE n m S s).1.J.seq=S.J.seq+1/\
  ((Rm n (g+1) (fE n m S s).1/\(fE n m S s).1.J.at'=S.J.at'+(dA (12+s.size):Int))\/
   (Rm n (g+3) (fE n m S s).1/\(fE n m S s).1.J.at'=S.J.lo+(dA (12+s.size):Int)/\S.J.hi<S.J.at'+(dA (12+s.size):Int))):=by
 unfold fE;by_cases hr:room S.J s.size
 ·rw[if_pos hr];obtain⟨a1,a2,a3,a4,a5,a6⟩:=vh h bS (by omega) ET hr;exact⟨a1,a4,a5,.inl ⟨a2,a3⟩⟩
 ·rw[if_neg hr];obtain⟨b1,b2,b3,b4,b5,b6⟩:=vg h bS mB (by omega) zw hlen;have vY:(fk n m S).1.J.hi=S.J.hi:=by rw[b2.hi,h.hi]
  have Po:room (fk n m S).1.J s.size:=by
   refine⟨by omega,by omega,?_⟩;rw[adT,vY,b3];exact hj
  obtain⟨a1,a2,a3,a4,a5,a6⟩:=vh b2 bS (by omega) (by omega) Po;rw[if_neg (λhh=>hh b1)];refine⟨a1,by rw[a4,b4],by rw[a5,b5],.inr ⟨a2,by rw[a3,b3],?_⟩⟩;unfold room at hr;rw[adT] at hr;omega
def CL{q:iw}(hw:fS q=true)(he:dH q=true):(bZ q).length<=924:=by
 have Us:q.op=1\/q.op=2\/q.op=3:=of_decide_eq_true he;have hf:=nd hw;unfold bZ;rw[adV,az];split
 ·rw[adV,az,dM oE];omega
 ·split
  ·rw[adV,az,dM ow];omega
  ·split
   ·rw[az];omega
   ·omega
def RI(n k:Nat)(S:VS):Prop:=∃g s:Nat,Rm n g S/\g<=k+2* s/\111* (s:Int)+(S.J.at'-S.J.lo)<=9* (k:Int)/\S.J.seq<=(k:Int)
def Rm.mono{n g g':Nat}{S:VS}(h:Rm n g S)(hg:g<=g'):Rm n g' S:=
 ⟨h.calm,λj hj=>(h.ends j hj).mono hg,h.lo,h.hi,h.DA,h.Mi,h.seq,h.js,h.dX,⟨h.aD.1,by have:=h.aD.2;omega⟩⟩
def RI.mono{n k k':Nat}{S:VS}(h:RI n k S)(hk:k<=k'):RI n k' S:=by
 obtain⟨g,s,h1,h2,h3,h4⟩:=h;exact⟨g,s,h1,by omega,by omega,by omega⟩
def Rw{k:Nat}(h:k<=936):dA k<=9:=by unfold dA;split<;>omega
def yl{n k:Nat}(hn:600<=n)(h:k<=23925):dA k<=bF n:=by unfold dA bF;split<;>omega
def tH{b:ax}(hg:Good b):(bl b).length<=23925:=by
 have:=hg.lH;have:=hg.many;rw[sq hg];omega
def PK{n k:Nat}{m:Model}{S:VS}{q:iw}(h:RI n k S)(hn:600<=n/\n<=4096)(hk:k<180)(hg:Good (bo m))(hw:fS q=true)(he:dH q=true):
 (fE n m S (bs (bZ q))).2=0/\RI n (k+1) (fE n m S (bs (bZ q))).1:=by
 obtain⟨g,s,h1,h2,h3,h4⟩:=h;have pI:=tH hg;have hrl:=CL hw he;have hc:=Rw (k:=12+(bs (bZ q)).size) (by rw[bw];omega);have vK:=h1.DA;have xx:=h1.lo;have vY:=h1.hi;have yR:120<=S.J.hi-S.J.lo:=by rw[xx,vY];unfold bF;omega
 obtain⟨a1,a2,a3,a4⟩:=Kg (s:=bs (bZ q)) h1 hn.2 (by omega) (by omega) (yl hn.1 pI) (by omega) (by omega) (by rw[bw];omega) (by omega);refine⟨a1,?_⟩;rcases a4 with⟨b1,b2⟩|⟨b1,b2,b3⟩
 ·exact⟨g+1,s,b1,by omega,by rw[b2,a2];omega,by rw[a3];omega⟩
 ·exact⟨g+3,s+1,b1,by omega,by rw[b2,a2];omega,by rw[a3];omega⟩
def Mw{n k:Nat}{m:Model}{S:VS}{q:iw}(h:RI n k S)(hn:600<=n/\n<=4096)(hk:k<180)(hg:Good (bo m))(he:dH q=true):
 RI n (k+1) (uZ n m S q).1/\(fS q=false->(uZ n m S q).2=(m,1,[]))/\(fS q=true->(uZ n m S q).2=((aH m q).2.2,(aH m q).1,(aH m q).2.1)):=by
 unfold uZ;by_cases hw:fS q=false
 ·rw[if_pos hw];exact⟨h.mono (by omega),λ_=>rfl,λh2=>by rw[hw] at h2;cases h2⟩
 ·have Ud:fS q=true:=by simpa using hw
  obtain⟨a1,a2⟩:=PK h hn hk hg Ud he;obtain⟨g,s,h1,_⟩:=h;rw[if_neg hw,if_neg (by rw[h1.dX];decide),if_neg (λhh=>hh a1)];generalize fE n m S (bs (bZ q))=A at a2⊢;generalize aH m q=B;refine⟨?_,λh2=>absurd h2 hw,λ_=>rfl⟩;dsimp only;exact a2
def Ms{n k:Nat}{m:Model}{S:VS}(h:RI n k S)(hn:600<=n/\n<=4096)(hk:k<=180)(hg:Good (bo m)):(fk n m S).2=0/\∃g:Nat,g<=212/\Rm n g (fk n m S).1:=by
 obtain⟨g,s,h1,h2,h3,h4⟩:=h;have pI:=tH hg;have vK:=h1.DA;obtain⟨b1,b2,_⟩:=vg (m:=m) h1 hn.2 (by omega) (by omega) (yl hn.1 pI) (by omega);exact⟨b1,g+2,by omega,b2⟩
def RI.ok{n k:Nat}{S:VS}(h:RI n k S)(hn:600<=n/\n<=4096)(hk:k<=180):LO S:=by
 obtain⟨g,s,h1,h2,h3,h4⟩:=h;have vK:=h1.DA;exact h1.ok hn.2 (by omega)
def RI.Zp{n k:Nat}{m:Model}{S:VS}(h:RI n k S)(hn:600<=n/\n<=4096)(hk:k<=180)(hg:Good (bo m)):LO (fk n m S).1:=by
 obtain⟨_,g,h1,h2⟩:=Ms (m:=m) h hn hk hg;exact h2.ok hn.2 (by omega)
def VB{n:Nat}(hn:600<=n/\n<=4096){J:PJ}(h1:J.lo=((2+2* bF n:Nat):Int))(h2:J.hi=(n:Int))(h3:J.at'=J.lo)(h4:J.seq=0)(h5:J.dX=false):RI n 0 ⟨ay.new n,J,0,false⟩:=by
 have hb:2+2* bF n<=n:=by unfold bF;omega
 have hr:Rm n 0 ⟨ay.new n,J,0,false⟩:=by
  refine⟨xn hn.2,λj hj=>?_,h1,h2,Int.le_of_eq h3.symm,?_,?_,h5,rfl,⟨afm _,afm _⟩⟩
  ·show Sep.Ends 0 ((ay.new n).read (j:Int)).1;rw[tR hn.2 hj];exact vN
  ·show J.at'<=J.hi;rw[h3,h1,h2];omega
  ·show 0<=J.seq/\J.seq<=1000000;rw[h4];omega
 refine⟨0,0,hr,by omega,?_,?_⟩
 ·show 111* ((0:Nat):Int)+(J.at'-J.lo)<=9* ((0:Nat):Int);rw[h3];omega
 ·show J.seq<=((0:Nat):Int);rw[h4];omega
section
variable {W:World} {L R:LH} {K:VK} {X:WK} {a:aP} {t:Move} {q:iw} {s:r9}
def KD(h:T W L (K (.bool (decide (mw a))))):T W L (bD (ak a) K):=by
 unfold bD bD.j1 bD.j2 bD.j3
 repeat' first|apply ws;intros|apply wb|with_reducible refine bE (λh1=>?_) (λh1=>?_)|fail
 all_goals (refine T.fin (T.dp h) ?_;congr 1;(rw[aee];(try simp only[bz,false_iff,true_iff] at *)<;>(try simp only[mw,ad6] at *)<;>omega))
def KC(h:T W L (K (.bool (decide (jT t))))):T W L (aR (ai t) K):=by
 unfold aR aR.j1 aR.j2 aR.j3 aR.j4 aR.j5
 repeat' first|apply ws;intros|apply wb|with_reducible refine bE (λh1=>?_) (λh1=>?_)|fail
 all_goals (refine T.fin (T.dp h) ?_;congr 1;(rw[aee];(try simp only[bz,false_iff,true_iff] at *)<;>(try simp only[jT,ad6] at *)<;>omega))
def FC(h:T W L (K (.bool (dH q)))):T W L (eG (dF q s) K):=by
 unfold eG;unfold dH at h
 repeat' first|apply ws;intros|apply wb|with_reducible refine bE (λh1=>?_) (λh1=>?_)|fail
 ·have h1:=of_decide_eq_true h1;refine T.fin (T.dp h) ?_;congr 1;rw[decide_eq_decide];omega
 ·have h1:=of_decide_eq_false h1;rw[decide_eq_false (by omega)] at h;exact T.dp h
def CT(h:T W L (K (.bool (jt q)))):T W L (bY (dF q s) K):=by
 unfold bY bY.j1 bY.j2;apply ws;intros;refine bE (λg1=>?_) (λg1=>?_)
 ·have g1:q.op=1:=by simpa using g1
  unfold jt at h;rw[if_pos g1] at h;apply ws;intros;refine dP (λg2=>?_) (λg2=>?_)
  ·rw[decide_eq_true (by omega),aeU] at h;apply ws;intros;refine T.fin (T.dp h) ?_;congr 1;rw[decide_eq_decide];omega
  ·rw[decide_eq_false (by omega),ae3] at h;exact T.dp h
 have g1: ¬q.op=1:=by simpa using g1
 apply ws;intros;refine bE (λg2=>?_) (λg2=>?_)
 ·have g2:q.op=2:=by simpa using g2
  unfold jt at h;rw[if_neg g1,if_pos g2] at h;apply ws;intros;refine dP (λg2=>?_) (λg2=>?_)
  ·rw[decide_eq_true (by omega),aeU] at h;apply ws;intros;refine T.fin (T.dp h) ?_;congr 1;rw[decide_eq_decide];omega
  ·rw[decide_eq_false (by omega),ae3] at h;exact T.dp h
 have g2: ¬q.op=2:=by simpa using g2
 unfold jt at h;rw[if_neg g1,if_neg g2] at h;apply ws;intros;refine bE (λg3=>?_) (λg3=>?_)
 ·have g3:q.op=3:=by simpa using g3
  rw[if_pos g3] at h;apply ws;intros;refine dP (λg2=>?_) (λg2=>?_)
  ·rw[decide_eq_true (by omega),aeU] at h;apply ws;intros;exact T.dp h
  ·rw[decide_eq_false (by omega),ae3] at h;exact T.dp h
 have g3: ¬q.op=3:=by simpa using g3
 rw[if_neg g3] at h;exact T.dp h
def CS(h:T W L (K (.bool (kN q)))):T W L (aA (dF q s) K):=by
 have main:∀(r1:Nat)(b1:Bool),b1=decide (q.op=4\/q.op=5)->T W (Sep.pt r1 (dF q s)::L) (aA.j1 K r1 b1):=λr1 b1 hb=>by
  unfold aA.j1 aA.j2;unfold kN at h;by_cases Mf:q.op=4\/q.op=5
  ·rw[if_pos Mf] at h;rw[decide_eq_true Mf] at hb;subst hb;apply ws;intros;refine dP (λg2=>?_) (λg2=>?_)
   ·rw[decide_eq_true (by omega),aeU] at h;apply ws;intros;refine T.fin (T.dp h) ?_;congr 1;rw[decide_eq_decide];omega
   ·rw[decide_eq_false (by omega),ae3] at h;exact T.dp h
  ·rw[if_neg Mf] at h;rw[decide_eq_false Mf] at hb;subst hb;rw[ch];apply ws;intros;rename_i r2;have j6:∀b:Bool,b=decide (q.op=6/\0<=q.fP/\0<=q.rR/\1<=q.hI/\q.hI<=16)->T W (Sep.pt r2 (lV q)::Sep.pt r1 (dF q s)::L) (aA.j6 K r2 b):=λb hb=>by
    unfold aA.j6;cases b with
    |true=>
     have hc:=of_decide_eq_true hb.symm;rw[if_pos hc.1,decide_eq_true hc.2,aeU] at h;apply ws;intros;cases hd:q.rT with
     |true=>
      rw[hd] at h;apply ws;intros;exact T.dp h
     |false=>
      rw[hd,Bool.false_or] at h;apply ws;intros;exact T.dp h
    |false=>
     have hc:=of_decide_eq_false hb.symm;apply ws;intros;by_cases g6:q.op=6
     ·rw[if_pos g6,decide_eq_false (λhh=>hc ⟨g6,hh⟩),ae3] at h;exact T.dp h
     ·rw[if_neg g6] at h;exact T.dp h
   have j5:∀b:Bool,b=decide (q.op=6/\0<=q.fP/\0<=q.rR/\1<=q.hI)->T W (Sep.pt r2 (lV q)::Sep.pt r1 (dF q s)::L) (aA.j5 K r2 b):=λb hb=>by
    unfold aA.j5;cases b with
    |true=>
     apply ws;intros;refine j6 _ ?_;have:=of_decide_eq_true hb.symm;rw[decide_eq_decide];omega
    |false=>
     apply ws;intros;refine j6 _ ?_;have:=of_decide_eq_false hb.symm;exact(decide_eq_false (by omega)).symm
   have j4:∀b:Bool,b=decide (q.op=6/\0<=q.fP/\0<=q.rR)->T W (Sep.pt r2 (lV q)::Sep.pt r1 (dF q s)::L) (aA.j4 K r2 b):=λb hb=>by
    unfold aA.j4;cases b with
    |true=>
     apply ws;intros;refine j5 _ ?_;have:=of_decide_eq_true hb.symm;rw[decide_eq_decide];omega
    |false=>
     apply ws;intros;refine j5 _ ?_;have:=of_decide_eq_false hb.symm;exact(decide_eq_false (by omega)).symm
   have j3:∀b:Bool,b=decide (q.op=6/\0<=q.fP)->T W (Sep.pt r2 (lV q)::Sep.pt r1 (dF q s)::L) (aA.j3 K r2 b):=λb hb=>by
    unfold aA.j3;cases b with
    |true=>
     apply ws;intros;refine j4 _ ?_;have:=of_decide_eq_true hb.symm;rw[decide_eq_decide];omega
    |false=>
     apply ws;intros;refine j4 _ ?_;have:=of_decide_eq_false hb.symm;exact(decide_eq_false (by omega)).symm
   refine bE (λg6=>?_) (λg6=>?_)
   ·have g6:q.op=6:=by simpa using g6
    apply ws;intros;refine j3 _ ?_;rw[decide_eq_decide];omega
   ·have g6: ¬q.op=6:=by simpa using g6
    refine j3 _ ?_;exact(decide_eq_false (by omega)).symm
 unfold aA;apply ws;intros;refine bE (λg1=>?_) (λg1=>?_)
 ·have UX:q.op=4:=by simpa using g1
  exact main _ _ (decide_eq_true (.inl UX)).symm
 ·have UX: ¬q.op=4:=by simpa using g1
  apply ws;intros;exact main _ _ (by rw[aee];simp[UX])
def sJ(q:iw):lE q=((q.ag.all λx=> !decide (q.op=1)||decide (mw x))&&(q.aT.all λx=> !decide (q.op=2)||decide (jT x))):=by
 unfold lE;by_cases h1:q.op=1
 ·rw[if_pos h1];have h2: ¬q.op=2:=by omega
  simp[h1]
 ·rw[if_neg h1];by_cases h2:q.op=2
  ·rw[if_pos h2];simp[h2]
  ·rw[if_neg h2];simp[h1,h2]
def AM[hh:Has R L](hq:lu W R q s)(zv:q.ag.length<1000000)(aZ:q.aT.length<1000000){r1:Nat}{b1:Bool}(h:T W (Sep.pt r1 (dF q s)::L) (K (.bool (!b1&&lE q)))):T W (Sep.pt r1 (dF q s)::L) (da.j1 K r1 b1):=by
 unfold da.j1;cases b1 with
 |true=>rw[gW];exact h
 |false=>
  rw[Bool.not_false,aeU] at h;rw[ch];apply ws;intros;intro w ju;refine⟨λvv w=>∃i:Nat,i<=q.ag.length/\(q.ag.take i).all (λx=> !decide (q.op=1)||decide (mw x))=true/\vv=[.p (some ⟨r1,0,none⟩),.bool false,.l s.sa q.ag.length s.ca,.i (q.ag.length:Int),.i (i:Int)]/\St W w (Sep.pt r1 (dF q s)::L),
   λvs _=>match vs with|[_,_,_,_,.int _ d]=>q.ag.length-d.toNat|_=>0,⟨0,ad2 _,rfl,rfl,ju⟩,?_⟩
  rintro a1 b2 uR qe uQ n2 n3 w2 ⟨i,hi,fG,e,fh⟩;cases e
  refine T.at ?_ fh;have e5:=lY i;refine dP (λg1=>?_) (λg1=>?_)
  ·have aZ:i<q.ag.length:=by omega
   have gx:=adS aZ;generalize q.ag[i]=x at gx;refine jY hq.ag ⟨by omega,by omega⟩ rfl λa ha=>?_;rw[adT];refine jX hq.ag ha gx rfl ?_;apply ws;intros;rw[e5];have step:(!decide (q.op=1)||decide (mw x))=true->T W (Sep.pt r1 (dF q s)::L) (λw=>(∃j:Nat,j<=q.ag.length/\(q.ag.take j).all (λx=> !decide (q.op=1)||decide (mw x))=true/\[.p (some ⟨r1,0,none⟩),.bool false,.l s.sa q.ag.length s.ca,.i (q.ag.length:Int),.i ((i+1:Nat):Int)]=[.p (some ⟨r1,0,none⟩),.bool false,.l s.sa q.ag.length s.ca,.i (q.ag.length:Int),Value.int .i64 (j:Int)]/\St W w (Sep.pt r1 (dF q s)::L))/\q.ag.length-((i+1:Nat):Int).toNat<q.ag.length-(i:Int).toNat):=λhp w3 h3=>⟨⟨i+1,aZ,by rw[xq gx fG];exact hp,rfl,h3⟩,by omega⟩;refine bE (λg2=>?_) (λg2=>?_)
   ·have g2:q.op=1:=by simpa using g2
    repeat' first|apply ws;intros|apply wb|with_reducible refine KD ?_|fail
    by_cases hg:mw x
    ·rw[decide_eq_true hg];apply ws;intros;refine T.drop ?_;exact step (by rw[decide_eq_true hg,Bool.or_true])
    ·rw[decide_eq_false hg];apply ws;intros;rw[sJ,all_false (P:=λx=> !decide (q.op=1)||decide (mw x)) gx (by rw[decide_eq_false hg,decide_eq_true g2];rfl)] at h;rw[ae3] at h;exact T.drop h
   ·have g2: ¬q.op=1:=by simpa using g2
    refine T.drop ?_;exact step (by rw[decide_eq_false g2];rfl)
  ·have gr:i=q.ag.length:=by omega
   subst gr;rw[ad5] at fG;have X4:=fG;apply ws;intros;intro w ju;refine⟨λvv w=>∃i:Nat,i<=q.aT.length/\(q.aT.take i).all (λx=> !decide (q.op=2)||decide (jT x))=true/\vv=[.p (some ⟨r1,0,none⟩),.bool false,.l s.st q.aT.length s.ct,.i (q.aT.length:Int),.i (i:Int)]/\St W w (Sep.pt r1 (dF q s)::L),
    λvs _=>match vs with|[_,_,_,_,.int _ d]=>q.aT.length-d.toNat|_=>0,⟨0,ad2 _,rfl,rfl,ju⟩,?_⟩
   rintro a1 b2 uR qe uQ n2 n3 w2 ⟨i,hi,fG,e,fh⟩;cases e
   refine T.at ?_ fh;have e5:=lY i;refine dP (λg1=>?_) (λg1=>?_)
   ·have aZ:i<q.aT.length:=by omega
    have gx:=adS aZ;generalize q.aT[i]=x at gx;refine jY hq.aT ⟨by omega,by omega⟩ rfl λa ha=>?_;rw[adT];refine jX hq.aT ha gx rfl ?_;apply ws;intros;rw[e5];have step:(!decide (q.op=2)||decide (jT x))=true->T W (Sep.pt r1 (dF q s)::L) (λw=>(∃j:Nat,j<=q.aT.length/\(q.aT.take j).all (λx=> !decide (q.op=2)||decide (jT x))=true/\[.p (some ⟨r1,0,none⟩),.bool false,.l s.st q.aT.length s.ct,.i (q.aT.length:Int),.i ((i+1:Nat):Int)]=[.p (some ⟨r1,0,none⟩),.bool false,.l s.st q.aT.length s.ct,.i (q.aT.length:Int),Value.int .i64 (j:Int)]/\St W w (Sep.pt r1 (dF q s)::L))/\q.aT.length-((i+1:Nat):Int).toNat<q.aT.length-(i:Int).toNat):=λhp w3 h3=>⟨⟨i+1,aZ,by rw[xq gx fG];exact hp,rfl,h3⟩,by omega⟩;refine bE (λg2=>?_) (λg2=>?_)
    ·have g2:q.op=2:=by simpa using g2
     repeat' first|apply ws;intros|apply wb|with_reducible refine KC ?_|fail
     by_cases hg:jT x
     ·rw[decide_eq_true hg];apply ws;intros;refine T.drop ?_;exact step (by rw[decide_eq_true hg,Bool.or_true])
     ·rw[decide_eq_false hg];apply ws;intros;rw[sJ,all_false (P:=λx=> !decide (q.op=2)||decide (jT x)) gx (by rw[decide_eq_false hg,decide_eq_true g2];rfl)] at h;rw[Bool.and_false] at h;exact T.drop h
    ·have g2: ¬q.op=2:=by simpa using g2
     refine T.drop ?_;exact step (by rw[decide_eq_false g2];rfl)
   ·have gr:i=q.aT.length:=by omega
    subst gr;rw[ad5] at fG;rw[sJ,X4,fG] at h;exact h
def Kx[hh:Has R L](hq:lu W R q s)(zv:q.ag.length<1000000)(aZ:q.aT.length<1000000)(h:T W L (K (.bool (fS q)))):T W L (da (dF q s) K):=by
 unfold da
 repeat' first|apply ws;intros|apply wb|with_reducible refine CT ?_|fail
 unfold fS at h;cases he:jt q with
 |true=>
  rw[he,Bool.true_or] at h;apply ws;intros;exact AM hq zv aZ (T.drop h)
 |false=>
  rw[he,Bool.false_or] at h
  repeat' first|apply ws;intros|apply wb|with_reducible refine CS ?_|fail
  refine AM hq zv aZ (T.drop ?_);rw[Bool.not_not];exact h
end
def zp(m:Model)(mb:OA)(mc:Nat)(kb:OA)(kc:Nat):LV:=[.l mb m.made.length mc,.l kb m.kept.length kc,.i m.clock,.i m.ae]
instance{m:Model}{mb kb:OA}{mc kc:Nat}:Gt (zp m mb mc kb kc) 0 (.l mb m.made.length mc):=⟨rfl⟩
instance{m:Model}{mb kb:OA}{mc kc:Nat}:Gt (zp m mb mc kb kc) 1 (.l kb m.kept.length kc):=⟨rfl⟩
instance{m:Model}{mb kb:OA}{mc kc:Nat}:Gt (zp m mb mc kb kc) 2 (.i m.clock):=⟨rfl⟩
instance{m:Model}{mb kb:OA}{mc kc:Nat}:Gt (zp m mb mc kb kc) 3 (.i m.ae):=⟨rfl⟩
abbrev ML(p:Nat)(m:Model)(mb:OA)(mc:Nat)(kb:OA)(kc:Nat)(R:LH):LH:=Sep.pt p (zp m mb mc kb kc)::own mb m.made.length mc 14 (m.made.flatMap ak)::own kb m.kept.length kc 33 (m.kept.flatMap aJ)::R
def Bg{α:Type}(P:α->Bool)(l:List α):Int:=match l.findIdx? P with|some i=>(i:Int)|none=> -1
def C'{α:Type}{P:α->Bool}{l:List α}(h:∀x∈l,P x=false):Bg P l= -1:=by
 unfold Bg;rw[List.findIdx?_eq_none_iff.2 h]
def C9{α:Type}{P:α->Bool}{l:List α}{i:Nat}{x:α}(hx:l[i]?=some x)(hp:P x=true)(h:∀y∈l.take i,P y=false):Bg P l=(i:Int):=by
 unfold Bg;obtain⟨hi,he⟩:=adU.1 hx;rw[(List.findIdx?_eq_some_iff_getElem (xs:=l) (p:=P)).2 ⟨hi,by rw[he];exact hp,λj hj=>by
  have NQ:j<l.length:=Nat.lt_trans hj hi
  have:=h (l[j]) (List.mem_take_iff_getElem.2 ⟨j,by omega,rfl⟩)
  rw[this];exact ael⟩]
def CA{α:Type}{P:α->Bool}{l:List α}{i:Nat}{x:α}(hx:l[i]?=some x)(hp:P x=false)(h:∀y∈l.take i,P y=false):∀y∈l.take (i+1),P y=false:=λy hy=>by
 rw[aeb,hx,aew] at hy;rcases hy with hy|hy
 ·exact h y hy
 ·cases(show y=x by simpa using hy);exact hp
section
variable {W:World} {L R:LH} {K:VK} {X:WK} {p:Nat} {m:Model} {mb kb:OA} {mc kc:Nat} {a:aP} {t:Move}
def sx(hm:m.made.length<1000000){id:Nat}(h:T W (ML p m mb mc kb kc R) (K (.i (Bg (λx:aP=>decide (x.id=id)) m.made)))):T W (ML p m mb mc kb kc R) (cK (some ⟨p,0,none⟩) (nm id) K):=by
 unfold cK;apply ws;intros;rename_i r1;intro w ju;refine⟨λvv w=>∃i:Nat,i<=m.made.length/\(∀x∈m.made.take i,decide (x.id=id)=false)/\vv=[.p (some (ad r1 0)),.i 0,.l mb m.made.length mc,.i (m.made.length:Int),.i (i:Int)]/\St W w (Sep.pt r1 (nm id)::ML p m mb mc kb kc R),
  λvs _=>match vs with|[_,_,_,_,.int _ d]=>m.made.length-d.toNat|_=>0,⟨0,ad2 _,(λx hx=>by cases hx),rfl,ju⟩,?_⟩
 rintro a2 n1 uR qe uQ n2 n3 w2 ⟨i,hi,fG,e,fh⟩;cases e
 refine T.at ?_ fh;have e5:=lY i;refine dP (λg1=>?_) (λg1=>?_)
 ·have aZ:i<m.made.length:=by omega
  have gx:=adS aZ;generalize m.made[i]=x at gx;refine bQ (b:=mb) ⟨by omega,by omega⟩ λrb hb=>?_;rw[adT];subst hb;refine dx eY gx ?_;apply ws;intros;rw[e5];refine bE (λg2=>?_) (λg2=>?_)
  ·rw[C9 gx g2 fG] at h;exact T.dp h
  ·refine T.drop λw3 h3=>⟨⟨i+1,aZ,CA gx g2 fG,rfl,h3⟩,by show m.made.length-((i+1:Nat):Int).toNat<m.made.length-(i:Int).toNat;omega⟩
 ·have gr:i=m.made.length:=by omega
  subst gr;rw[ad5] at fG;rw[C' fG] at h;exact T.dp h
def DU(hm:m.kept.length<1000000){id:Nat}(h:T W (ML p m mb mc kb kc R) (K (.i (Bg (λx:Kept=>decide (x.move.id=id)) m.kept)))):T W (ML p m mb mc kb kc R) (dQ (some ⟨p,0,none⟩) (nm id) K):=by
 unfold dQ;apply ws;intros;rename_i r1;intro w ju;refine⟨λvv w=>∃i:Nat,i<=m.kept.length/\(∀x∈m.kept.take i,decide (x.move.id=id)=false)/\vv=[.p (some (ad r1 0)),.i 0,.l kb m.kept.length kc,.i (m.kept.length:Int),.i (i:Int)]/\St W w (Sep.pt r1 (nm id)::ML p m mb mc kb kc R),
  λvs _=>match vs with|[_,_,_,_,.int _ d]=>m.kept.length-d.toNat|_=>0,⟨0,ad2 _,(λx hx=>by cases hx),rfl,ju⟩,?_⟩
 rintro a2 n1 uR qe uQ n2 n3 w2 ⟨i,hi,fG,e,fh⟩;cases e
 refine T.at ?_ fh;have e5:=lY i;refine dP (λg1=>?_) (λg1=>?_)
 ·have aZ:i<m.kept.length:=by omega
  have gx:=adS aZ;generalize m.kept[i]=x at gx;refine bQ (b:=kb) ⟨by omega,by omega⟩ λrb hb=>?_;rw[adT];subst hb;refine dx fA gx ?_;apply ws;intros;rw[e5];refine bE (λg2=>?_) (λg2=>?_)
  ·rw[C9 gx g2 fG] at h;exact T.dp h
  ·refine T.drop λw3 h3=>⟨⟨i+1,aZ,CA gx g2 fG,rfl,h3⟩,by show m.kept.length-((i+1:Nat):Int).toNat<m.kept.length-(i:Int).toNat;omega⟩
 ·have gr:i=m.kept.length:=by omega
  subst gr;rw[ad5] at fG;rw[C' fG] at h;exact T.dp h
end
def qN{α:Type}(f:α->α)(i:Nat)(l:List α):List α:=(l.take i).map f++l.drop i
def Lg{α:Type}{f:α->α}{i:Nat}{l:List α}:(qN f i l).length=l.length:=by unfold qN;rw[adV,aei,<-adV,aem]
def H7{α:Type}{f:α->α}{l:List α}:qN f 0 l=l:=rfl
def Lh{α:Type}{f:α->α}{l:List α}:qN f l.length l=l.map f:=by unfold qN;rw[ad5,List.drop_length,aed]
def Gn{α:Type}{f:α->α}{i:Nat}{l:List α}{x:α}(hx:l[i]?=some x):(qN f i l)[i]?=some x:=by
 obtain⟨hi,he⟩:=adU.1 hx;unfold qN;rw[aes (by simp;omega),aei,adX,afj (by omega),afe,ae8,aeN];exact hx
def Dh{α:Type}{f:α->α}{i:Nat}{l:List α}{x:α}(hx:l[i]?=some x):(qN f i l).set i (f x)=qN f (i+1) l:=by
 obtain⟨hi,he⟩:=adU.1 hx;unfold qN;have h1:((l.take i).map f).length=i:=by rw[aei,adX,afj (by omega)]
 rw[List.set_append_right _ _ (by omega),h1,afe,aex hi,List.set_cons_zero,aeb,hx];simp
def H9{α:Type}{f:α->α}{i:Nat}{l:List α}{x:α}(hx:l[i]?=some x)(hf:f x=x):qN f (i+1) l=qN f i l:=by
 rw[<-Dh hx,hf];have:=Gn (f:=f) hx;obtain⟨hi,he⟩:=adU.1 this;rw[<-he,List.set_getElem_self]
section
variable {W:World} {L R:LH} {K:VK} {X:WK} {p:Nat} {m:Model} {mb kb:OA} {mc kc:Nat} {a:aP} {t:Move}
def xN(hm:m.kept.length<1000000)(hb:∀k∈m.kept,adP.wrap (k.move.born+k.move.timeout)=k.move.born+k.move.timeout)
 (h:T W (ML p {m with kept:=m.kept.map (Bu m.clock)} mb mc kb kc R) (K (.tuple ⟨[]⟩))):T W (ML p m mb mc kb kc R) (bj (some ⟨p,0,none⟩) K):=by
 unfold bj;apply ws;intros;intro w ju;refine⟨λvv w=>∃(i:Nat)(l:List Kept),i<=m.kept.length/\l=qN (Bu m.clock) i m.kept/\vv=[.l kb m.kept.length kc,.i (m.kept.length:Int),.i (i:Int)]/\St W w (Sep.pt p (zp m mb mc kb kc)::own mb m.made.length mc 14 (m.made.flatMap ak)::own kb m.kept.length kc 33 (l.flatMap aJ)::R),
  λvs _=>match vs with|[_,_,.int _ d]=>m.kept.length-d.toNat|_=>0,⟨0,m.kept,ad2 _,H7.symm,rfl,ju⟩,?_⟩
 rintro uR qe uQ n1 n2 w2 ⟨i,l,hi,hl,e,fh⟩;cases e
 refine T.at ?_ fh;have e5:=lY i;have Db:l.length=m.kept.length:=by rw[hl];exact Lg
 refine dP (λg1=>?_) (λg1=>?_)
 ·have aZ:i<m.kept.length:=by omega
  have gx:=adS aZ;have hbx:=hb _ (aeg aZ);generalize m.kept[i]=x at gx hbx;have gl:l[i]?=some x:=by rw[hl];exact Gn gx
  refine bQ (b:=kb) ⟨by omega,by omega⟩ λrb tY=>?_;rw[adT];subst tY;refine dx fA gl ?_;have main:∀(r1:Nat)(b1:Bool),b1=decide (jq m.clock x)->T W (Sep.pt r1 (aJ x)::Sep.pt p (zp m mb mc (some ⟨rb,0,none⟩) kc)::own mb m.made.length mc 14 (m.made.flatMap ak)::own (some ⟨rb,0,none⟩) m.kept.length kc 33 (l.flatMap aJ)::R)
                                                      (bj.j1 K (some ⟨p,0,none⟩) (i:Int) (λvv w=>∃(i:Nat)(l:List Kept),i<=m.kept.length/\l=qN (Bu m.clock) i m.kept/\vv=[.l (some ⟨rb,0,none⟩) m.kept.length kc,.i (m.kept.length:Int),.i (i:Int)]/\St W w (Sep.pt p (zp m mb mc (some ⟨rb,0,none⟩) kc)::own mb m.made.length mc 14 (m.made.flatMap ak)::own (some ⟨rb,0,none⟩) m.kept.length kc 33 (l.flatMap aJ)::R)) (some ⟨rb,0,none⟩) m.kept.length kc (m.kept.length:Int) (λvs _=>match vs with|[_,_,.int _ d]=>m.kept.length-d.toNat|_=>0) w2 b1):=λr1 b1 Pz=>by
   unfold bj.j1;rw[e5];cases b1 with
   |true=>
    have ZC:=of_decide_eq_true Pz.symm;apply ws;intros;refine bQ (b:=some ⟨rb,0,none⟩) ⟨by omega,by omega⟩ λPf tY=>?_;cases tY
    rw[adT];refine IX ?_;refine Aq (o:=i) (x:=x) (y:={x with fate:=4}) fA gl rfl (by decide) rfl ?_;refine T.drop λw3 h3=>⟨⟨i+1,_,aZ,?_,rfl,h3⟩,by show m.kept.length-((i+1:Nat):Int).toNat<m.kept.length-(i:Int).toNat;omega⟩;rw[<-Dh gx,hl];unfold Bu;rw[if_pos ZC]
   |false=>
    have ZC:=of_decide_eq_false Pz.symm;rw[ch];refine T.drop λw3 h3=>⟨⟨i+1,_,aZ,?_,rfl,h3⟩,by show m.kept.length-((i+1:Nat):Int).toNat<m.kept.length-(i:Int).toNat;omega⟩;rw[H9 gx (by unfold Bu;rw[if_neg ZC]),hl]
  apply ws;intros;refine bE (λg2=>?_) (λg2=>?_)
  ·have g2:x.fate=1:=by simpa using g2
   apply ws;intros;refine dP (λg3=>?_) (λg3=>?_)
   ·apply ws;intros;rw[hbx];refine main _ _ ?_;rw[decide_eq_decide];exact⟨λhh=>⟨g2,g3,hh⟩,λhh=>hh.2.2⟩
   ·exact main _ _ (decide_eq_false (λhh=>g3 hh.2.1)).symm
  ·have g2: ¬x.fate=1:=by simpa using g2
   exact main _ _ (decide_eq_false (λhh=>g2 hh.1)).symm
 ·have gr:i=m.kept.length:=by omega
  subst gr;rw[Lh] at hl;subst hl;unfold ML zp at h;simp only[aei] at h;exact h
instance V6{m:Model}{mb kb:OA}{mc kc:Nat}{c:Int}:Wr (zp m mb mc kb kc) 2 [.i c] (zp {m with clock:=c} mb mc kb kc):=⟨rfl,by show 3<=4;decide,λv h=>by simp at h;subst h;rfl⟩
def Qh{now:Int}(hm:m.kept.length<1000000)(hb:∀k∈m.kept,adP.wrap (k.move.born+k.move.timeout)=k.move.born+k.move.timeout)
 (h:T W (ML p (m.time now) mb mc kb kc R) (K (.tuple ⟨[]⟩))):T W (ML p m mb mc kb kc R) (gI (some ⟨p,0,none⟩) now K):=by
 unfold gI;rw[DF] at h;unfold qc at h;apply ws;intros;refine dP (λg1=>?_) (λg1=>?_)
 ·refine dP (λg2=>?_) (λg2=>?_)
  ·rw[if_pos ⟨g1,g2⟩] at h;apply ws;intros;refine xN (m:={m with clock:=now}) hm hb ?_;apply ws;intros;exact h
  ·rw[if_neg (λhh=>g2 hh.2)] at h;refine xN hm hb ?_;apply ws;intros;exact h
 ·rw[if_neg (λhh=>g1 hh.1)] at h;refine xN hm hb ?_;apply ws;intros;exact h
end
end Go.Up
