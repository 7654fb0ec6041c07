/- Part of the proof: see the last text. -/
import Derived.Test.YtibneekkkdnmgaaGreatDoorPC
import Derived.Test.YtibneekkkdnmgaaGreatDoorPA
import Derived.Test.YtibneekkkdnmgaaGreatDoorPB
set_option linter.all false
set_option maxRecDepth 100000
set_option synthInstance.maxSize 100000
open Bool renaming eq_iff_iff→cf,true_and→eG,false_and→fV,not_false→P8,and_eq_true→dI,false_eq_true→cJ,noConfusion→rN,false_ne_true→cN
open Decidable renaming not_not→bm
open Go.IntKind renaming i64→aa
open Int renaming toNat_natCast→ak,eq_ofNat_of_zero_le→bt,fdiv_eq_ediv_of_nonneg→HH,le_refl→tw
open List renaming getElem?_eq_getElem→aj,getElem?_eq_some_iff→ao,length_append→aw,length_take→aD,append_assoc→aI,take_length→aS,length_drop→aT,take_add_one→bg,replicate→bu,append_nil→bO,getElem_mem→bP,Perm→bZ,nil_append→cw,take_append_drop→dy,drop_of_length_le→gL,drop_eq_getElem_cons→ij,drop_drop→kd,length_replicate→nB,getElem?_of_mem→qM,take_left→DG,Sublist→bj,perm_append_comm→bp,getElem?_append_right→iW,length_map→bU,map_append→cY,length_reverse→jC,take_of_length_le→bS,filter_cons_of_pos→lQ,filter_cons_of_neg→lR,mem_of_getElem?→bD,length_cons→bE,getElem?_map→eo,flatMap_append→gA,flatMap_cons→iY,map_congr_left→eg,range→pZ,all_eq_true→ir,mem_map→cA,find?_eq_none→nJ,take_zero→ox,pairwise_iff_getElem→qx,ext_getElem?→qN,getElem?_take→sH,length_nil→cO,getElem?_cons_succ→bT,drop_zero→jn,take_take→yO,set_set→jM,set_cons_succ→nI,getElem?_append_left→bh,perm_middle→iq,mem_append→dF,mem_or_eq_of_mem_set→eE,mem_cons→kf
open Nat renaming zero_add→aC,zero_le→aE,sub_self→mg,mul_one→mz,le_refl→aH,pow_le_pow_right→gS,le_trans→AD,lt_of_le_of_lt→HG,mul_le_mul_right→iI,add_mul→mA,mod_eq_of_lt→fN,reduceAdd→ae,reduceMul→af,le_of_ble_eq_true→aK,add_zero→eL
open Option renaming getD_some→dE,isSome_some→dG,isSome_none→fp,getD_none→gV,map→zh,some→aY,map_some→fw
namespace Go.Up
open Go.Sep Go.Den Go.RowKit Go.Prog Go.Md Go.cF
def Is(b:aZ):Prop:=∃m,pC b m/\Md.bK m
def Is.make{b:aZ}(h:Is b)(a:bJ):Is (b.make a).2:=by obtain⟨m,hs,hg⟩:=h;exact⟨_,(hs.make hg).2⟩
def Is.rA{b:aZ}(h:Is b)(t:cM):Is (b.rA t).2:=by obtain⟨m,hs,hg⟩:=h;exact⟨_,(hs.rA hg).2⟩
def Je(n:Int):(dm .i64 .and n 1!=0)=decide (n%2=1):=by
 rw[SK,cf];simp only[fP,ne_eq,decide_eq_true_eq];omega
def Dd(t:cM):(aM t).length=16:=rfl
def BJ(a:bJ):Bool:=decide (a.aq%2=1)
def BH(t:cM):Bool:=decide (t.aq%2=1)
section
variable {α σ:Type}
def C2{f:σ->α->Int×σ}{lk:α->Bool}{n:Nat}{s:σ}{l:List α}(hl:l≠[]):
 iC f lk (n+1) s l=if(cz lk l).2=false then(lg (cz lk l).1 (some ((cz lk l).1-1,2)),s)
  else match iE f s (l.take (cz lk l).1) 0 with
  |(none,s')=>(lg (cz lk l).1 none++(iC f lk n s' (l.drop (cz lk l).1)).1,(iC f lk n s' (l.drop (cz lk l).1)).2)
  |(some e,_)=>(lg (cz lk l).1 (some e)++(iC f lk n s (l.drop (cz lk l).1)).1,(iC f lk n s (l.drop (cz lk l).1)).2):=by
 cases l with
 |nil=>exact aQ rfl hl
 |cons x l=>
  rw[iC]
  congr 1
def xm{f:σ->α->Int×σ}{lk:α->Bool}(n:Nat)(s:σ):iC f lk n s []=([],s):=by cases n<;>rfl
end
section
variable {W:World} {L R:LH} {K:VK} {X:WK} {p:Nat} {b:aZ} {hs:List C}
def Y9{s:OA}{c nn:Nat}{l:List bJ}[hh:Has R L](hr:mZ W R aL 14 s l)(NT:nn=l.length)(hl:l.length<1000000)
 (h:T W L (K (.tuple ⟨[.i ((cz BJ l).1:Int),.b (cz BJ l).2]⟩))):T W L (mL s nn c (.func (.func N.ib) ⟨[]⟩ ⟨[]⟩) K):=by
 subst NT;unfold mL;intro w hs;refine⟨λvs w=>∃i:Nat,i<=l.length/\(∀j y,j<i->l[j]?=some y->BJ y=true)/\vs=[.i 0,.b false,.l s l.length c,.i (l.length:Int),.i (i:Int)]/\St W w L,
  λvs _=>match vs with|[_,_,_,_,.int _ d]=>l.length-d.toNat|_=>0,⟨0,aE _,λj y hj=>by omega,rfl,hs⟩,?_⟩
 rintro n1 b1 jT jd ku n2 n3 w2 ⟨i,hi,fG,e,hO⟩;cases e
 refine T.at ?_ hO;have e5:=nK i;apply ga<;>intro g1
 ·have bX:i<l.length:=by omega
  have gx:=aj bX;generalize l[i]=x at gx;refine iU hr ⟨by omega,by omega⟩ rfl λa ha=>?_;rw[ak];refine jR hr ha gx (j0 x) ?_;apply ws;intros;show T W _ (ib (aL x) _);unfold ib;apply ws;intros;rw[Je];rw[e5];apply dj<;>intro g2
  ·have g2:BJ x=false:=by simpa [BJ] using g2
   rw[yL fG gx g2] at h;exact T.dp h
  ·have g2:BJ x=true:=by simpa [BJ] using g2
   refine T.drop (T.drop ?_);refine λw3 h3=>⟨⟨i+1,bX,λj y hj hy=>?_,rfl,h3⟩,by show l.length-((i+1:Nat):Int).toNat<l.length-(i:Int).toNat;omega⟩;by_cases MK:j=i
   ·subst MK;rw[gx] at hy;cases hy;exact g2
   ·exact fG j y (by omega) hy
 ·have jk:i=l.length:=by omega
  subst jk;rw[wH λx hx=>by obtain⟨j,hj⟩:=qM hx;exact fG j x (ao.1 hj).1 hj] at h;exact h
def abp(G:mY W){s:OA}{c c2 nn:Nat}{l:List bJ}{r q o:Nat}{res:List Int}(hr:mZ W R aL 14 s l)(NT:nn=l.length)(iH:∀x∈l,xR x)(hP:Is b)(hl:hs.length+8* l.length<800000)
 (ho:o+l.length<=res.length)(ME:0<l.length)
 (h0:∀fM b',iE aZ.make b l 0=(none,b')->Is b'->fM.length<=hs.length+8* l.length->T W (cL p (b',fM)::own (ah r) q q 1 (res.flatMap I1)::R) (K (.tuple ⟨[]⟩)))
 (h1:∀e b',iE aZ.make b l 0=(some e,b')->e.1<l.length->T W (cL p (b,hs)::own (ah r) q q 1 ((res.take o++lg l.length (some e)++res.drop (o+l.length)).flatMap I1)::R) (K (.tuple ⟨[]⟩))):
 T W (cL p (b,hs)::own (ah r) q q 1 (res.flatMap I1)::R) (nu (ah p) s nn c (some ⟨r,o,none⟩) nn c2 (.func (.func N.mr) ⟨[]⟩ ⟨[]⟩) K):=by
 subst NT;unfold nu;refine qP (p:=p) λhg=>?_;refine Qz (p:=p) ?_;apply ws;intros;intro w jO;refine⟨λvs w=>∃(i:Nat)(b':aZ)(fM:List C),i<=l.length/\iE aZ.make b (l.take i) 0=(none,b')/\Is b'/\Ext (fY b) hs (fY b') fM (8* i)/\vs=[.i (hs.length:Int),.l s l.length c,.i (l.length:Int),.i (i:Int)]/\
  St W w (cL p (b',fM)::own (ah r) q q 1 (res.flatMap I1)::R),
  λvs _=>match vs with|[_,_,_,.int _ d]=>l.length-d.toNat|_=>0,⟨0,b,hs,aE _,rfl,hP,Ext.refl _ _ _,rfl,jO⟩,?_⟩
 rintro n2 qU pn qS n3 n4 w2 ⟨i,b',fM,hi,Rf,N4,hx,e,hO⟩;cases e
 refine T.at ?_ hO;have e5:=nK i;have hxl:=hx.len;apply ga<;>intro g1
 ·have bX:i<l.length:=by omega
  have gx:=aj bX;have oB:l[i]∈l:=bP bX;have vw:l=l.take i++l[i]::l.drop (i+1):=by rw[<-ij bX,dy]
  have yX:l.take (i+1)=l.take i++[l[i]]:=by rw[bg,gx];rfl
  generalize l[i]=x at gx oB vw yX;have Kp:=iH x oB;refine iU hr ⟨by omega,by omega⟩ rfl λa ha=>?_;rw[ak];refine jR hr ha gx (j0 x) ?_;apply ws;intros;show T W _ (mr (ah p) (aL x) _);refine Zq (p:=p) G Kp (by omega) λabF Vp=>?_;have abT:iE aZ.make b l 0=iE aZ.make b' (x::l.drop (i+1)) (0+(l.take i).length):=by
   conv=>lhs;rw[vw]
   exact tg _ _ _ _ _ Rf
  have hti:(l.take i).length=i:=by rw[aD];omega
  apply ws;intros;apply dj<;>intro g2
  ·have g2:(b'.make x).1≠0:=by simpa using g2
   refine T.drop ?_;have hx3:=Vp.len;refine QC (p:=p) hg (hx.trans Vp) (by omega) ?_;apply ws;intros;refine Ky (r:=r) (N:=q) (C:=q) ho bX (by omega) ?_;apply ws;intros;refine h1 (i,(b'.make x).1) b' ?_ bX;rw[abT,hti,iE,ai g2,aC]
  ·have g2:(b'.make x).1=0:=by simpa using g2
   rw[e5];refine T.drop ?_;refine λw3 h3=>⟨⟨i+1,_,abF,bX,?_,N4.make x,(hx.trans Vp).mono (by omega),rfl,h3⟩,by show l.length-((i+1:Nat):Int).toNat<l.length-(i:Int).toNat;omega⟩;rw[yX,tg _ _ _ _ _ Rf,iE,ag (by omega)]
   rfl
 ·have jk:i=l.length:=by omega
  subst jk;rw[aS] at Rf;exact h0 fM b' Rf N4 (by omega)
def abf(G:mY W){s:OA}{c:Nat}{l:List bJ}(hr:mZ W R aL 14 s l)(hc:l.length<=c)(iH:∀x∈l,xR x)(hP:Is b)(Jk:l.length<=10000)(hl:hs.length+8* l.length<800000)
 (h:∀r fM,fM.length<=hs.length+8* l.length->Is (iC aZ.make BJ l.length b l).2->(iC aZ.make BJ l.length b l).1.length=l.length->
  T W (cL p ((iC aZ.make BJ l.length b l).2,fM)::own (some ⟨r,0,none⟩) l.length l.length 1 ((iC aZ.make BJ l.length b l).1.flatMap I1)::R) (K (.l (some ⟨r,0,none⟩) l.length l.length))):
 T W (cL p (b,hs)::R) (sy (some ⟨p,0,none⟩) s l.length c K):=by
 unfold sy pW;refine JV ⟨by omega,by omega,by omega,by omega⟩ λr=>?_;rw[ak,show(Builtin.zeroCells ⟨[Value.int aa 0]⟩ l.length).toList=(bu l.length (0:Int)).flatMap I1 from rV (g:=I1) (z:=0) rfl _];show T W (own (some ⟨r,0,none⟩) l.length l.length 1 _::cL p (b,hs)::R) _;refine T.perm (M:=own (some ⟨r,0,none⟩) l.length l.length 1 _::cL p (b,hs)::R) (L:=cL p (b,hs)::own (some ⟨r,0,none⟩) l.length l.length 1 _::R) ?_ (bZ.swap _ _ _);intro w jO;refine⟨λvs w=>∃(at_ fuel:Nat)(b':aZ)(fM:List C)(done:List Int),at_<=l.length/\done.length=at_/\l.length<=fuel+at_/\
                                                                        iC aZ.make BJ l.length b l=(done++(iC aZ.make BJ fuel b' (l.drop at_)).1,(iC aZ.make BJ fuel b' (l.drop at_)).2)/\Is b'/\fM.length<=hs.length+8* at_/\
                                                                        vs=[.l none 0 0,.l (some ⟨r,0,none⟩) l.length l.length,.i (at_:Int)]/\
                                                                        St W w (cL p (b',fM)::own (some ⟨r,0,none⟩) l.length l.length 1 ((done++bu (l.length-at_) 0).flatMap I1)::R),
  λvs _=>match vs with|[_,_,.int _ d]=>l.length-d.toNat|_=>0,⟨0,l.length,b,hs,[],aE _,rfl,by omega,by simp,hP,by omega,rfl,jO⟩,?_⟩
 rintro qU pn qS tD sK tC n1 w2 ⟨at_,fuel,b',fM,done,CQ,AW,TP,pM,N4,hsl,e,hO⟩;cases e
 refine T.at ?_ hO;apply ga<;>intro g1
 ·have bX:at_<l.length:=by omega
  have kN:l.drop at_≠[]:=λhh=>by have:=congrArg List.length hh;rw[aT] at this;simp at this;omega
  have xz:(l.drop at_).length=l.length-at_:=aT;refine zt (by omega) ?_;have O3:=hr.drop (i:=at_) (c:=c) (by omega) hc;refine Y9 O3 xz.symm (by omega) ?_;apply ws;intros;obtain⟨n,hn⟩:∃n,(cz BJ (l.drop at_)).1=n:=⟨_,rfl⟩;have afq:n<=l.length-at_:=by rw[<-hn,<-xz];exact vH _
  have adB:0<n:=by
   rw[<-hn];cases hd:l.drop at_ with
   |nil=>exact aQ hd kN
   |cons x l'=>exact En x l'
  rw[hn];have e6:aa.wrap ((at_:Int)+(n:Int))=((at_+n:Nat):Int):=by rw[aW (by omega)];omega
  rw[e6];refine ER (by omega) (by omega) ?_;have ea:zw (some ⟨r,0,none⟩) l.length at_ 1=some ⟨r,at_,none⟩:=by unfold zw;rw[ag (by omega)];show some (Addr.add ⟨r,0,none⟩ (at_* 1))=_;rw[ig,aC,mz]
  rw[ea,Nat.add_sub_cancel_left];obtain⟨fuel,rfl⟩:∃m,fuel=m+1:=⟨fuel-1,by omega⟩;have gM:=C2 (f:=aZ.make) (lk:=BJ) (n:=fuel) (s:=b') kN;have hdd:(l.drop at_).drop n=l.drop (at_+n):=kd;have H':(done++bu (l.length-at_) (0:Int)).length=l.length:=by rw[aw,nB];omega
  have GM:(done++bu (l.length-at_) (0:Int)).drop (at_+n)=bu (l.length-(at_+n)) 0:=by
   rw[List.drop_append,gL (by omega),cw,List.drop_replicate];congr 1;omega
  have rI:(done++bu (l.length-at_) (0:Int)).take at_=done:=by rw[<-AW,DG]
  apply dj<;>intro g2
  ·have g2:(cz BJ (l.drop at_)).2=false:=by simpa using g2
   have NT:n=l.length-at_:=by rw[<-hn,yK g2,xz]
   have e7:aa.wrap ((n:Int) -1)=((n-1:Nat):Int):=by rw[aW (by omega)];omega
   rw[e7];refine Ky (r:=r) (N:=l.length) (C:=l.length) (o:=at_) (n:=n) (by rw[H'];omega) (by omega) (by omega) ?_;apply ws;intros;rw[rI,GM];refine λw3 h3=>⟨⟨at_+n,fuel,b',fM,done++lg n (some (n-1,2)),by omega,by rw[aw,kX];omega,by omega,?_,N4,by omega,rfl,h3⟩,by show l.length-((at_+n:Nat):Int).toNat<l.length-(at_:Int).toNat;omega⟩;rw[ai g2,hn] at gM;rw[pM,gM,show l.drop (at_+n)=[] from gL (by omega),xm];simp
  ·have g2:(cz BJ (l.drop at_)).2=true:=by simpa using g2
   rw[ag (by rw[g2];decide),hn,hdd] at gM;refine ER (by omega) (by omega) ?_;rw[Nat.add_sub_cancel_left];have EF:((l.drop at_).take n).length=n:=by rw[aD];omega
   have hr3:=O3.take (i:=n);refine abp (p:=p) G (l:=(l.drop at_).take n) (o:=at_) hr3 EF.symm (λx hx=>iH x (List.mem_of_mem_drop (List.mem_of_mem_take hx))) N4 (by omega) (by rw[H'];omega) (by omega) (λxf b3 hd hP3 Xp=>?_) (λe b3 hd he=>?_)
   ·apply ws;intros;rw[EF] at Xp;rw[hd] at gM;refine λw3 h3=>⟨⟨at_+n,fuel,b3,xf,done++lg n none,by omega,by rw[aw,kX];omega,by omega,?_,hP3,by omega,rfl,?_⟩,by show l.length-((at_+n:Nat):Int).toNat<l.length-(at_:Int).toNat;omega⟩
    ·rw[pM,gM];simp
    ·have e8:done++bu (l.length-at_) (0:Int)=done++lg n none++bu (l.length-(at_+n)) 0:=by
      rw[aI];congr 1;show _=bu n 0++_;rw[List.replicate_append_replicate];congr 1;omega
     rw[<-e8];exact h3
   ·apply ws;intros;rw[EF];rw[hd] at gM;rw[rI,GM];refine λw3 h3=>⟨⟨at_+n,fuel,b',fM,done++lg n (some e),by omega,by rw[aw,kX];omega,by omega,?_,N4,by omega,rfl,h3⟩,by show l.length-((at_+n:Nat):Int).toNat<l.length-(at_:Int).toNat;omega⟩;rw[pM,gM];simp
 ·have jk:at_=l.length:=by omega
  subst jk;rw[List.drop_length,xm] at pM;simp only[bO] at pM;rw[pM] at h;have:=h r fM (by omega) N4 AW;rw[mg,List.replicate_zero,bO];apply ws;intros;exact this
end
def TOk(t:cM):Prop:=Ab t/\kL t
section
variable {W:World} {L R:LH} {K:VK} {X:WK} {p:Nat} {b:aZ} {hs:List C}
def Y8{s:OA}{c nn:Nat}{l:List cM}[hh:Has R L](hr:mZ W R aM 16 s l)(NT:nn=l.length)(hl:l.length<1000000)
 (h:T W L (K (.tuple ⟨[.i ((cz BH l).1:Int),.b (cz BH l).2]⟩))):T W L (l6 s nn c (.func (.func N.gK) ⟨[]⟩ ⟨[]⟩) K):=by
 subst NT;unfold l6;intro w hs;refine⟨λvs w=>∃i:Nat,i<=l.length/\(∀j y,j<i->l[j]?=some y->BH y=true)/\vs=[.i 0,.b false,.l s l.length c,.i (l.length:Int),.i (i:Int)]/\St W w L,
  λvs _=>match vs with|[_,_,_,_,.int _ d]=>l.length-d.toNat|_=>0,⟨0,aE _,λj y hj=>by omega,rfl,hs⟩,?_⟩
 rintro n1 b1 jT jd ku n2 n3 w2 ⟨i,hi,fG,e,hO⟩;cases e
 refine T.at ?_ hO;have e5:=nK i;apply ga<;>intro g1
 ·have bX:i<l.length:=by omega
  have gx:=aj bX;generalize l[i]=x at gx;refine iU hr ⟨by omega,by omega⟩ rfl λa ha=>?_;rw[ak];refine jR hr ha gx (Dd x) ?_;apply ws;intros;show T W _ (gK (aM x) _);unfold gK;apply ws;intros;rw[Je];rw[e5];apply dj<;>intro g2
  ·have g2:BH x=false:=by simpa [BH] using g2
   rw[yL fG gx g2] at h;exact T.dp h
  ·have g2:BH x=true:=by simpa [BH] using g2
   refine T.drop (T.drop ?_);refine λw3 h3=>⟨⟨i+1,bX,λj y hj hy=>?_,rfl,h3⟩,by show l.length-((i+1:Nat):Int).toNat<l.length-(i:Int).toNat;omega⟩;by_cases MK:j=i
   ·subst MK;rw[gx] at hy;cases hy;exact g2
   ·exact fG j y (by omega) hy
 ·have jk:i=l.length:=by omega
  subst jk;rw[wH λx hx=>by obtain⟨j,hj⟩:=qM hx;exact fG j x (ao.1 hj).1 hj] at h;exact h
def abo(G:mY W){s:OA}{c c2 nn:Nat}{l:List cM}{r q o:Nat}{res:List Int}(hr:mZ W R aM 16 s l)(NT:nn=l.length)(iH:∀x∈l,TOk x)(hP:Is b)(hl:hs.length+8* l.length<800000)
 (ho:o+l.length<=res.length)(ME:0<l.length)
 (h0:∀fM b',iE aZ.rA b l 0=(none,b')->Is b'->fM.length<=hs.length+8* l.length->T W (cL p (b',fM)::own (ah r) q q 1 (res.flatMap I1)::R) (K (.tuple ⟨[]⟩)))
 (h1:∀e b',iE aZ.rA b l 0=(some e,b')->e.1<l.length->T W (cL p (b,hs)::own (ah r) q q 1 ((res.take o++lg l.length (some e)++res.drop (o+l.length)).flatMap I1)::R) (K (.tuple ⟨[]⟩))):
 T W (cL p (b,hs)::own (ah r) q q 1 (res.flatMap I1)::R) (mK (ah p) s nn c (some ⟨r,o,none⟩) nn c2 (.func (.func N.oD) ⟨[]⟩ ⟨[]⟩) K):=by
 subst NT;unfold mK;refine qP (p:=p) λhg=>?_;refine Qz (p:=p) ?_;apply ws;intros;intro w jO;refine⟨λvs w=>∃(i:Nat)(b':aZ)(fM:List C),i<=l.length/\iE aZ.rA b (l.take i) 0=(none,b')/\Is b'/\Ext (fY b) hs (fY b') fM (8* i)/\vs=[.i (hs.length:Int),.l s l.length c,.i (l.length:Int),.i (i:Int)]/\
  St W w (cL p (b',fM)::own (ah r) q q 1 (res.flatMap I1)::R),
  λvs _=>match vs with|[_,_,_,.int _ d]=>l.length-d.toNat|_=>0,⟨0,b,hs,aE _,rfl,hP,Ext.refl _ _ _,rfl,jO⟩,?_⟩
 rintro n2 qU pn qS n3 n4 w2 ⟨i,b',fM,hi,Rf,N4,hx,e,hO⟩;cases e
 refine T.at ?_ hO;have e5:=nK i;have hxl:=hx.len;apply ga<;>intro g1
 ·have bX:i<l.length:=by omega
  have gx:=aj bX;have oB:l[i]∈l:=bP bX;have vw:l=l.take i++l[i]::l.drop (i+1):=by rw[<-ij bX,dy]
  have yX:l.take (i+1)=l.take i++[l[i]]:=by rw[bg,gx];rfl
  generalize l[i]=x at gx oB vw yX;have Kp:=iH x oB;refine iU hr ⟨by omega,by omega⟩ rfl λa ha=>?_;rw[ak];refine jR hr ha gx (Dd x) ?_;apply ws;intros;show T W _ (oD (ah p) (aM x) _);refine ad1 (p:=p) G Kp.1 Kp.2 (by obtain⟨m,h3,h4⟩:=N4;exact ZG h3 h4) (by omega) λabF Vp=>?_;have abT:iE aZ.rA b l 0=iE aZ.rA b' (x::l.drop (i+1)) (0+(l.take i).length):=by
   conv=>lhs;rw[vw]
   exact tg _ _ _ _ _ Rf
  have hti:(l.take i).length=i:=by rw[aD];omega
  apply ws;intros;apply dj<;>intro g2
  ·have g2:(b'.rA x).1≠0:=by simpa using g2
   refine T.drop ?_;have hx3:=Vp.len;refine QC (p:=p) hg (hx.trans Vp) (by omega) ?_;apply ws;intros;refine Ky (r:=r) (N:=q) (C:=q) ho bX (by omega) ?_;apply ws;intros;refine h1 (i,(b'.rA x).1) b' ?_ bX;rw[abT,hti,iE,ai g2,aC]
  ·have g2:(b'.rA x).1=0:=by simpa using g2
   rw[e5];refine T.drop ?_;refine λw3 h3=>⟨⟨i+1,_,abF,bX,?_,N4.rA x,(hx.trans Vp).mono (by omega),rfl,h3⟩,by show l.length-((i+1:Nat):Int).toNat<l.length-(i:Int).toNat;omega⟩;rw[yX,tg _ _ _ _ _ Rf,iE,ag (by omega)]
   rfl
 ·have jk:i=l.length:=by omega
  subst jk;rw[aS] at Rf;exact h0 fM b' Rf N4 (by omega)
def abe(G:mY W){s:OA}{c:Nat}{l:List cM}(hr:mZ W R aM 16 s l)(hc:l.length<=c)(iH:∀x∈l,TOk x)(hP:Is b)(Jk:l.length<=10000)(hl:hs.length+8* l.length<800000)
 (h:∀r fM,fM.length<=hs.length+8* l.length->Is (iC aZ.rA BH l.length b l).2->(iC aZ.rA BH l.length b l).1.length=l.length->
  T W (cL p ((iC aZ.rA BH l.length b l).2,fM)::own (some ⟨r,0,none⟩) l.length l.length 1 ((iC aZ.rA BH l.length b l).1.flatMap I1)::R) (K (.l (some ⟨r,0,none⟩) l.length l.length))):
 T W (cL p (b,hs)::R) (rB (some ⟨p,0,none⟩) s l.length c K):=by
 unfold rB pz;refine JV ⟨by omega,by omega,by omega,by omega⟩ λr=>?_;rw[ak,show(Builtin.zeroCells ⟨[Value.int aa 0]⟩ l.length).toList=(bu l.length (0:Int)).flatMap I1 from rV (g:=I1) (z:=0) rfl _];show T W (own (some ⟨r,0,none⟩) l.length l.length 1 _::cL p (b,hs)::R) _;refine T.perm (M:=own (some ⟨r,0,none⟩) l.length l.length 1 _::cL p (b,hs)::R) (L:=cL p (b,hs)::own (some ⟨r,0,none⟩) l.length l.length 1 _::R) ?_ (bZ.swap _ _ _);intro w jO;refine⟨λvs w=>∃(at_ fuel:Nat)(b':aZ)(fM:List C)(done:List Int),at_<=l.length/\done.length=at_/\l.length<=fuel+at_/\
                                                                        iC aZ.rA BH l.length b l=(done++(iC aZ.rA BH fuel b' (l.drop at_)).1,(iC aZ.rA BH fuel b' (l.drop at_)).2)/\Is b'/\fM.length<=hs.length+8* at_/\
                                                                        vs=[.l none 0 0,.l (some ⟨r,0,none⟩) l.length l.length,.i (at_:Int)]/\
                                                                        St W w (cL p (b',fM)::own (some ⟨r,0,none⟩) l.length l.length 1 ((done++bu (l.length-at_) 0).flatMap I1)::R),
  λvs _=>match vs with|[_,_,.int _ d]=>l.length-d.toNat|_=>0,⟨0,l.length,b,hs,[],aE _,rfl,by omega,by simp,hP,by omega,rfl,jO⟩,?_⟩
 rintro qU pn qS tD sK tC n1 w2 ⟨at_,fuel,b',fM,done,CQ,AW,TP,pM,N4,hsl,e,hO⟩;cases e
 refine T.at ?_ hO;apply ga<;>intro g1
 ·have bX:at_<l.length:=by omega
  have kN:l.drop at_≠[]:=λhh=>by have:=congrArg List.length hh;rw[aT] at this;simp at this;omega
  have xz:(l.drop at_).length=l.length-at_:=aT;refine zt (by omega) ?_;have O3:=hr.drop (i:=at_) (c:=c) (by omega) hc;refine Y8 O3 xz.symm (by omega) ?_;apply ws;intros;obtain⟨n,hn⟩:∃n,(cz BH (l.drop at_)).1=n:=⟨_,rfl⟩;have afq:n<=l.length-at_:=by rw[<-hn,<-xz];exact vH _
  have adB:0<n:=by
   rw[<-hn];cases hd:l.drop at_ with
   |nil=>exact aQ hd kN
   |cons x l'=>exact En x l'
  rw[hn];have e6:aa.wrap ((at_:Int)+(n:Int))=((at_+n:Nat):Int):=by rw[aW (by omega)];omega
  rw[e6];refine ER (by omega) (by omega) ?_;have ea:zw (some ⟨r,0,none⟩) l.length at_ 1=some ⟨r,at_,none⟩:=by unfold zw;rw[ag (by omega)];show some (Addr.add ⟨r,0,none⟩ (at_* 1))=_;rw[ig,aC,mz]
  rw[ea,Nat.add_sub_cancel_left];obtain⟨fuel,rfl⟩:∃m,fuel=m+1:=⟨fuel-1,by omega⟩;have gM:=C2 (f:=aZ.rA) (lk:=BH) (n:=fuel) (s:=b') kN;have hdd:(l.drop at_).drop n=l.drop (at_+n):=kd;have H':(done++bu (l.length-at_) (0:Int)).length=l.length:=by rw[aw,nB];omega
  have GM:(done++bu (l.length-at_) (0:Int)).drop (at_+n)=bu (l.length-(at_+n)) 0:=by
   rw[List.drop_append,gL (by omega),cw,List.drop_replicate];congr 1;omega
  have rI:(done++bu (l.length-at_) (0:Int)).take at_=done:=by rw[<-AW,DG]
  apply dj<;>intro g2
  ·have g2:(cz BH (l.drop at_)).2=false:=by simpa using g2
   have NT:n=l.length-at_:=by rw[<-hn,yK g2,xz]
   have e7:aa.wrap ((n:Int) -1)=((n-1:Nat):Int):=by rw[aW (by omega)];omega
   rw[e7];refine Ky (r:=r) (N:=l.length) (C:=l.length) (o:=at_) (n:=n) (by rw[H'];omega) (by omega) (by omega) ?_;apply ws;intros;rw[rI,GM];refine λw3 h3=>⟨⟨at_+n,fuel,b',fM,done++lg n (some (n-1,2)),by omega,by rw[aw,kX];omega,by omega,?_,N4,by omega,rfl,h3⟩,by show l.length-((at_+n:Nat):Int).toNat<l.length-(at_:Int).toNat;omega⟩;rw[ai g2,hn] at gM;rw[pM,gM,show l.drop (at_+n)=[] from gL (by omega),xm];simp
  ·have g2:(cz BH (l.drop at_)).2=true:=by simpa using g2
   rw[ag (by rw[g2];decide),hn,hdd] at gM;refine ER (by omega) (by omega) ?_;rw[Nat.add_sub_cancel_left];have EF:((l.drop at_).take n).length=n:=by rw[aD];omega
   have hr3:=O3.take (i:=n);refine abo (p:=p) G (l:=(l.drop at_).take n) (o:=at_) hr3 EF.symm (λx hx=>iH x (List.mem_of_mem_drop (List.mem_of_mem_take hx))) N4 (by omega) (by rw[H'];omega) (by omega) (λxf b3 hd hP3 Xp=>?_) (λe b3 hd he=>?_)
   ·apply ws;intros;rw[EF] at Xp;rw[hd] at gM;refine λw3 h3=>⟨⟨at_+n,fuel,b3,xf,done++lg n none,by omega,by rw[aw,kX];omega,by omega,?_,hP3,by omega,rfl,?_⟩,by show l.length-((at_+n:Nat):Int).toNat<l.length-(at_:Int).toNat;omega⟩
    ·rw[pM,gM];simp
    ·have e8:done++bu (l.length-at_) (0:Int)=done++lg n none++bu (l.length-(at_+n)) 0:=by
      rw[aI];congr 1;show _=bu n 0++_;rw[List.replicate_append_replicate];congr 1;omega
     rw[<-e8];exact h3
   ·apply ws;intros;rw[EF];rw[hd] at gM;rw[rI,GM];refine λw3 h3=>⟨⟨at_+n,fuel,b',fM,done++lg n (some e),by omega,by rw[aw,kX];omega,by omega,?_,N4,by omega,rfl,h3⟩,by show l.length-((at_+n:Nat):Int).toNat<l.length-(at_:Int).toNat;omega⟩;rw[pM,gM];simp
 ·have jk:at_=l.length:=by omega
  subst jk;rw[List.drop_length,xm] at pM;simp only[bO] at pM;rw[pM] at h;have:=h r fM (by omega) N4 AW;rw[mg,List.replicate_zero,bO];apply ws;intros;exact this
end
end Go.Up
namespace Go.Prog
open Go.Den Go.Up Go.Md
def u0(p:OA)(now:Int)(K:VK):WK:=λw=>∃(W:World)(L:List Sep.HP)(a:Nat)(b:Up.aZ)(m:aA)(hs:List C),
 p=ah a/\Sep.St W w (cL a (b,hs)::L)/\pC b m/\Md.bK m/\hs.length<=100000/\
 ∀(n:Int)(b':Up.aZ)(fM:List C)(w':World),pC b' (m.time now)->Md.bK (m.time now)->fM.length<=200000->Sep.St W w' (cL a (b',fM)::L)->K (.i n) w'
def u0.u:WP:=λargs K=>match args with|[.pointer p,.int .i64 n]=>u0 p n K|_=>no
end Go.Prog
namespace Go.Prog
open Go.Den
def jA(c:LV)(K:VK):WK:=mk c λa=>lI (ad a 0) λd=>br (decide (d>=1)) (lI (ad a 0) λe=>K (.b (decide (e<=3)))) (K (.b false))
def dZ.j1(K:VK)(a:Bool):WK:=K (.b a)
def dZ.j2(K:VK)(a:Bool):WK:=K (.b a)
def dZ(c:LV)(K:VK):WK:=mk c λa=>lI (ad a 0) λd=>br (d==1) (lL (ad a 1) λm e n=>br (decide ((e:Int)>0)) (lL (ad a 1) λo f p=>dZ.j1 K (decide ((f:Int)<9))) (dZ.j1 K false)) (lI (ad a 0) λg=>br (g==2) (lL (ad a 2) λq h r=>br (decide ((h:Int)>0)) (lL (ad a 2) λs i t=>dZ.j2 K (decide ((i:Int)<9))) (dZ.j2 K false)) (lI (ad a 0) λj=>br (j==3) (lI (ad a 3) λk=>br (decide (k>=0)) (lI (ad a 3) λl=>K (.b (decide (l<=1099511627776)))) (K (.b false))) (K (.b false))))
def bl.j2(K:VK)(a:Bool):WK:=K (.b a)
def bl.j6(K:VK)(a:Nat)(c:Bool):WK:=br c (lT (ad a 4) λd=>br d (K (.b true)) (lT (ad a 5) λe=>K (.b e))) (K (.b false))
def bl.j5(K:VK)(a:Nat)(b:Bool):WK:=br b (lI (ad a 7) λc=>bl.j6 K a (decide (c<17))) (bl.j6 K a false)
def bl.j4(K:VK)(a:Nat)(b:Bool):WK:=br b (lI (ad a 7) λc=>bl.j5 K a (decide (c>0))) (bl.j5 K a false)
def bl.j3(K:VK)(a:Nat)(b:Bool):WK:=br b (lI (ad a 3) λc=>bl.j4 K a (decide (c>=0))) (bl.j4 K a false)
def bl.j1(K:VK)(a:Nat)(c:Bool):WK:=br c (lL (ad a 4) λi d j=>br (decide ((d:Int)>0)) (lL (ad a 4) λk e l=>bl.j2 K (decide ((e:Int)<17))) (bl.j2 K false)) (aJ (ad a 5) 8 λf=>mk Fp λb=>bA 8 (ad b 0) f (lI (ad a 0) λg=>br (g==6) (lI (ad b 2) λh=>bl.j3 K b (decide (h>=0))) (bl.j3 K b false)))
def bl(b:LV)(K:VK):WK:=mk b λa=>lI (ad a 0) λc=>br (c==4) (bl.j1 K a true) (lI (ad a 0) λd=>bl.j1 K a (d==5))
def dg.j3(K:VK)(a:Nat)(c:Bool):WK:=br c (lI (ad a 12) λd=>br (decide (d>=0)) (lI (ad a 12) λe=>K (.b (decide (e<65536)))) (K (.b false))) (K (.b false))
def dg.j2(K:VK)(a:Nat)(b:Bool):WK:=br b (lI (ad a 11) λc=>dg.j3 K a (decide (c<65536))) (dg.j3 K a false)
def dg.j1(K:VK)(a:Nat)(b:Bool):WK:=br b (lI (ad a 11) λc=>dg.j2 K a (decide (c>=0))) (dg.j2 K a false)
def dg(b:LV)(K:VK):WK:=mk b λa=>lI (ad a 10) λc=>br (decide (c>=0)) (lI (ad a 10) λd=>dg.j1 K a (decide (d<4294967296))) (dg.j1 K a false)
def bY.j5(K:VK)(a:Nat)(c:Bool):WK:=br c (lI (ad a 13) λd=>br (decide (d>=0)) (lI (ad a 13) λe=>K (.b (decide (e<65536)))) (K (.b false))) (K (.b false))
def bY.j4(K:VK)(a:Nat)(b:Bool):WK:=br b (lI (ad a 12) λc=>bY.j5 K a (decide (c<65536))) (bY.j5 K a false)
def bY.j3(K:VK)(a:Nat)(b:Bool):WK:=br b (lI (ad a 12) λc=>bY.j4 K a (decide (c>=0))) (bY.j4 K a false)
def bY.j2(K:VK)(a:Nat)(b:Bool):WK:=br b (lI (ad a 11) λc=>bY.j3 K a (decide (c<4294967296))) (bY.j3 K a false)
def bY.j1(K:VK)(a:Nat)(b:Bool):WK:=br b (lI (ad a 11) λc=>bY.j2 K a (decide (c>=0))) (bY.j2 K a false)
def bY(b:LV)(K:VK):WK:=mk b λa=>lI (ad a 10) λc=>br (decide (c>=0)) (lI (ad a 10) λd=>bY.j1 K a (decide (d<4294967296))) (bY.j1 K a false)
def gY.j1(K:VK)(w:Nat)(D:Bool):WK:=br D (K (.b false)) (lL (ad w 1) λE x F=>(lp [.p (some (ad w 0)),.b false,.l E x F,.i (x:Int),.i 0] λu y=>∀a e f g o h c s,u [.p (some a),.b e,.l f g o,.i h,.i c] s->(br (decide (c<h)) (iV f g c 14 λG=>aJ G 14 λH=>mk dV λz=>bA 14 (ad z 0) H (lI a λI=>br (I==1) (aJ (ad z 0) 14 λJ=>dg J (xB λM=>br (!M) (K (.b false)) ((ct u y [.p (some a),.b e,.l f g o,.i h,.i (aa.wrap (c+1))] [.p (some a),.b e,.l f g o,.i h,.i c] s)))) ((ct u y [.p (some a),.b e,.l f g o,.i h,.i (aa.wrap (c+1))] [.p (some a),.b e,.l f g o,.i h,.i c] s)))) (lL (a.add 2) λO A P=>(lp [.p (some a),.b e,.l O A P,.i (A:Int),.i 0] λv B=>∀j q k m r n d t,v [.p (some j),.b q,.l k m r,.i n,.i d] t->(br (decide (d<n)) (iV k m d 16 λQ=>aJ Q 16 λR=>mk iA λC=>bA 16 (ad C 0) R (lI j λS=>br (S==2) (aJ (ad C 0) 16 λT=>bY T (xB λV=>br (!V) (K (.b false)) ((ct v B [.p (some j),.b q,.l k m r,.i n,.i (aa.wrap (d+1))] [.p (some j),.b q,.l k m r,.i n,.i d] t)))) ((ct v B [.p (some j),.b q,.l k m r,.i n,.i (aa.wrap (d+1))] [.p (some j),.b q,.l k m r,.i n,.i d] t)))) (K (.b true))) t))) s))
def gY(b:LV)(K:VK):WK:=mk b λa=>aJ (ad a 0) 13 λc=>dZ c (xB λd=>br (!d) (aJ (ad a 0) 13 λe=>bl e (xB λf=>gY.j1 K a (!f))) (gY.j1 K a false))
def iw(n:OA)(K:VK):WK:=tick (nn n λm=>lL m λj k o=>nn n λg=>lL (g.add 1) λe f h=>nn n λc=>lI (c.add 2) λa=>nn n λd=>lI (d.add 3) λb=>both (cu True (mk [] λq=>kp (d.add 3) [.i b] (kp (c.add 2) [.i a] (kp (g.add 1) [.l e f h] (kp m [.l j k o] (both (iz 14 112 dV (ah q) 0 0 j k λr s t=>kp (d.add 3) [.i b] (kp (c.add 2) [.i a] (kp (g.add 1) [.l e f h] (cu True (mk [] λu=>kp (d.add 3) [.i b] (kp (c.add 2) [.i a] (kp (g.add 1) [.l e f h] (iz 33 264 cG (ah u) 0 0 e f λv w x=>kp (d.add 3) [.i b] (kp (c.add 2) [.i a] (cu (1=1/\(1=1/\(1=1/\(1=1/\True)))) (mk [.l r s t,.l v w x,.i a,.i b] λy=>kp (d.add 3) [.i b] (kp (c.add 2) [.i a] (K (.p (some (ad y 0)))))))))))))))) (cu True (mk [] λz=>kp (d.add 3) [.i b] (kp (c.add 2) [.i a] (kp (g.add 1) [.l e f h] (kp m [.l j k o] (iz 14 112 dV (ah q) 0 0 j k λA B C=>kp (d.add 3) [.i b] (kp (c.add 2) [.i a] (kp (g.add 1) [.l e f h] (iz 33 264 cG (ah z) 0 0 e f λD E F=>kp (d.add 3) [.i b] (kp (c.add 2) [.i a] (cu (1=1/\(1=1/\(1=1/\(1=1/\True)))) (mk [.l A B C,.l D E F,.i a,.i b] λG=>kp (d.add 3) [.i b] (kp (c.add 2) [.i a] (K (.p (some (ad G 0))))))))))))))))))))))) (cu True (mk [] λH=>kp (d.add 3) [.i b] (kp (c.add 2) [.i a] (kp (g.add 1) [.l e f h] (kp m [.l j k o] (cu True (mk [] λI=>kp (d.add 3) [.i b] (kp (c.add 2) [.i a] (kp (g.add 1) [.l e f h] (kp m [.l j k o] (iz 14 112 dV (ah I) 0 0 j k λJ M O=>kp (d.add 3) [.i b] (kp (c.add 2) [.i a] (kp (g.add 1) [.l e f h] (iz 33 264 cG (ah H) 0 0 e f λP Q R=>kp (d.add 3) [.i b] (kp (c.add 2) [.i a] (cu (1=1/\(1=1/\(1=1/\(1=1/\True)))) (mk [.l J M O,.l P Q R,.i a,.i b] λS=>kp (d.add 3) [.i b] (kp (c.add 2) [.i a] (K (.p (some (ad S 0)))))))))))))))))))))))
def cR.j1(K:VK)(j:OA)(a:Int)(f:LI)(b:OA)(c d:Nat)(e:Int)(g:LM)(h:World)(k:Bool):WK:=br k (nn j λm=>lL (m.add 1) λn o q=>iV n o a 33 λp=>st (p.add 32) (.i 4) ((ct f g [.l b c d,.i e,.i (aa.wrap (a+1))] [.l b c d,.i e,.i a] h))) ((ct f g [.l b c d,.i e,.i (aa.wrap (a+1))] [.l b c d,.i e,.i a] h))
def cR(b:OA)(K:VK):WK:=nn b λn=>lL (n.add 1) λo m p=>(lp [.l o m p,.i (m:Int),.i 0] λh k=>∀c d j e a f,h [.l c d j,.i e,.i a] f->(br (decide (a<e)) (iV c d a 33 λq=>aJ q 33 λr=>mk cG λg=>bA 33 (ad g 0) r (tick (lI (ad g 32) λs=>br (s==1) (lI (ad g 26) λt=>br (decide (t>0)) (lI (ad g 31) λu=>lI (ad g 26) λv=>nn b λw=>lI (w.add 2) λx=>cR.j1 K b a h c d j e k f (decide ((aa.wrap (u+v))<=x))) (cR.j1 K b a h c d j e k f false)) (cR.j1 K b a h c d j e k f false)))) (K (.tuple ⟨[]⟩))) f)
def kR(a:OA)(b:Int)(K:VK):WK:=nn a λc=>lI (c.add 2) λd=>br (decide (b>d)) (br (decide (b<=1099511627776)) (nn a λe=>st (e.add 2) (.i b) (cR a (x0 (K (.tuple ⟨[]⟩))))) (cR a (x0 (K (.tuple ⟨[]⟩))))) (cR a (x0 (K (.tuple ⟨[]⟩))))
def me(t:OA)(q u:Nat)(K:VK):WK:=(lp [.l none 0 0,.l none 0 0,.l t q u,.i (q:Int),.i 0] λr v=>∀j k m c d e f g n h a o,r [.l j k m,.l c d e,.l f g n,.i h,.i a] o->(br (decide (a<h)) (iV f g a 14 λw=>aJ w 14 λx=>mk dV λs=>bA 14 (ad s 0) x (aJ (ad s 0) 14 λp=>cu (1=1/\(p.length=14/\True)) (cu ((([.b true]:LV)++(p++(iA:LV))).length=31/\True) (mk ((([.b true]:LV)++(p++(iA:LV)))++[]) λy=>iz 31 248 BP c d e (ah y) 1 λz A B=>(ct r v [.l j k m,.l z A B,.l f g n,.i h,.i (aa.wrap (a+1))] [.l j k m,.l c d e,.l f g n,.i h,.i a] o))))) (K (.l c d e))) o)
def lC(s:OA)(p t:Nat)(K:VK):WK:=(lp [.l none 0 0,.l none 0 0,.l s p t,.i (p:Int),.i 0] λq u=>∀h j k b c d e f m g a n,q [.l h j k,.l b c d,.l e f m,.i g,.i a] n->(br (decide (a<g)) (iV e f a 16 λv=>aJ v 16 λw=>mk iA λr=>bA 16 (ad r 0) w (aJ (ad r 0) 16 λo=>cu (o.length=16/\True) (cu (((P':LV)++(o++[])).length=31/\True) (mk (((P':LV)++(o++[]))++[]) λx=>iz 31 248 BP b c d (ah x) 1 λy z A=>(ct q u [.l h j k,.l y z A,.l e f m,.i g,.i (aa.wrap (a+1))] [.l h j k,.l b c d,.l e f m,.i g,.i a] n))))) (K (.l b c d))) n)
def ny(c:LV)(K:VK):WK:=mk c λa=>lT (ad a 0) λd=>br d (lI (ad a 13) λe=>cu ((2:Int)≠0) (K (.b ((e.tmod (2:Int))!=0)))) (lI (ad a 28) λf=>cu ((2:Int)≠0) (K (.b ((f.tmod (2:Int))!=0))))
def gr(c:LV)(a:Int)(K:VK):WK:=mk c λb=>br (decide (a>=64)) (lU (ad b 0) λd=>cu ((0:Int)<=(IntKind.u64.wrap (aa.wrap (a-64)))) (cu ((2:Int)≠0) (K (.i (aa.wrap ((shr .u64 d (IntKind.u64.wrap (aa.wrap (a-64)))).tmod (2:Int))))))) (lU (ad b 1) λe=>cu ((0:Int)<=(IntKind.u64.wrap a)) (cu ((2:Int)≠0) (K (.i (aa.wrap ((shr .u64 e (IntKind.u64.wrap a)).tmod (2:Int)))))))
def kH(I:LV)(K:VK):WK:=mk I λJ=>cu (1=1/\True) (mk [.i 0] λM=>(lp [.p (some (ad J 0)),.s .empty,.l (ah M) 1 1,.i 127] λy D=>∀g h j a k d t,y [.p (some g),.s h,.l j a k,.i d] t->(br (decide (d>=0)) (aJ g 2 λO=>gr O d (xI .i64 λP=>(lp [.p (some g),.s h,.l j a k,.i d,.i P,.i (aa.wrap ((a:Int) -1))] λE Q=>∀m n b c u o e f z,E [.p (some m),.s n,.l b c u,.i o,.i e,.i f] z->(br (decide (f>=0)) (iV b c f 1 λR=>lI R λF=>cu ((10:Int)≠0) (iV b c f 1 λS=>st S (.i ((aa.wrap ((aa.wrap (2* F))+e)).tmod (10:Int))) (cu ((10:Int)≠0) ((ct E Q [.p (some m),.s n,.l b c u,.i o,.i (aa.wrap ((aa.wrap ((aa.wrap (2* F))+e)).tdiv (10:Int))),.i (aa.wrap (f-1))] [.p (some m),.s n,.l b c u,.i o,.i e,.i f] z))))) (br (decide (e>0)) (cu (1=1/\True) (mk [.i e] λT=>iz 1 8 [.i 0] (ah T) 1 1 b c λV W X=>(ct y D [.p (some m),.s n,.l V W X,.i (aa.wrap (o-1))] [.p (some g),.s h,.l j a k,.i d] t))) ((ct y D [.p (some m),.s n,.l b c u,.i (aa.wrap (o-1))] [.p (some g),.s h,.l j a k,.i d] t)))) z))) ((lp [.s h,.s .empty,.l j a k,.i (a:Int),.i 0] λG Y=>∀A q v w B x r C,G [.s A,.s q,.l v w B,.i x,.i r] C->(br (decide (r<x)) (iV v w r 1 λZ=>lI Z λn9=>cu (1=1/\True) (mk [.int .u8 (IntKind.u8.wrap (aa.wrap (48+n9)))] λr4=>WB (ah r4) 1 λH=>cu (((q.size+H.size:Nat):Int)<=9223372036854775807) ((ct G Y [.s A,.s (q++H),.l v w B,.i x,.i (aa.wrap (r+1))] [.s A,.s q,.l v w B,.i x,.i r] C)))) (K (.s q))) C))) t))
def nj(c a:Int)(K:VK):WK:=cu (a≠0) (cu ((2:Int)≠0) (K (.b (((aa.wrap (c.tdiv a)).tmod (2:Int))==1))))
def bB.j4(K:VK)(a:Nat)(b:Bool):WK:=br b (K (.i 8)) (lI (ad a 11) λc=>br (decide (c<=0)) (K (.i 9)) (lI (ad a 11) λd=>br (decide (d>=65536)) (K (.i 9)) (K (.i 0))))
def bB.j3(K:VK)(a:Nat)(b:Bool):WK:=br b (K (.i 7)) (lI (ad a 10) λc=>br (decide (c<=0)) (bB.j4 K a true) (lI (ad a 10) λd=>bB.j4 K a (decide (d>=4294967296))))
def bB.j6(K:VK)(a b:Nat)(c:Bool):WK:=br c (bB.j3 K a true) (aJ (ad a 8) 2 λd=>aJ (ad b 0) 2 λe=>rz [.u 0,.u 0] d e λf=>br (!f) (bB.j3 K a true) (lI (ad a 13) λg=>bB.j3 K a (g !=0)))
def bB.j5(K:VK)(a b:Nat)(c:Bool):WK:=br c (bB.j6 K a b true) (aJ (ad a 6) 2 λd=>aJ (ad b 0) 2 λe=>rz [.u 0,.u 0] d e λf=>bB.j6 K a b (!f))
def bB.j2(K:VK)(a b:Nat)(c:Bool):WK:=br c (K (.i 6)) (aJ (ad a 2) 2 λd=>aJ (ad b 0) 2 λe=>rz [.u 0,.u 0] d e λf=>br (!f) (bB.j5 K a b true) (aJ (ad a 4) 2 λg=>aJ (ad b 0) 2 λh=>rz [.u 0,.u 0] g h λj=>bB.j5 K a b (!j)))
def bB.j1(K:VK)(a b:Nat)(c:Bool):WK:=br c (K (.i 3)) (aJ (ad a 0) 2 λd=>aJ (ad b 0) 2 λe=>rz [.u 0,.u 0] d e λf=>br f (K (.i 4)) (aJ (ad a 0) 2 λg=>kH g (xS λh=>br (pG h (⟨#[51,52,48,50,56,50,51,54,54,57,50,48,57,51,56,52,54,51,52,54,51,51,55,52,54,48,55,52,51,49,55,54,56,50,49,49,52,53,53]⟩:BA)) (K (.i 5)) (lI (ad a 12) λj=>nj j 2 (xB λk=>br k (lI (ad a 12) λl=>nj l 4 (xB λm=>bB.j2 K a b m)) (bB.j2 K a b false))))))
def bB(c:LV)(K:VK):WK:=mk c λa=>cu True (mk [.u 0,.u 0] λb=>cu (2=2) (kj (ad b 0) [.u 0,.u 0] (lI (ad a 12) λd=>br (decide (d<0)) (bB.j1 K a b true) (lI (ad a 12) λe=>bB.j1 K a b (decide (e>7))))))
def fF(n:OA)(o:LV)(K:VK):WK:=mk o λq=>nn n λr=>lL r λs j t=>(lp [.p (some (ad q 0)),.i 0,.l s j t,.i (j:Int),.i 0] λk v=>∀b f c d g e a h,k [.p (some b),.i f,.l c d g,.i e,.i a] h->(br (decide (a<e)) (iV c d a 14 λw=>aJ w 14 λx=>mk dV λm=>bA 14 (ad m 0) x (aJ (ad m 0) 2 λy=>aJ b 2 λz=>rz [.u 0,.u 0] y z λA=>br A (K (.i a)) ((ct k v [.p (some b),.i f,.l c d g,.i e,.i (aa.wrap (a+1))] [.p (some b),.i f,.l c d g,.i e,.i a] h)))) (K (.i (-1)))) h)
def im.j1(K:VK)(a b:Nat)(c:Bool):WK:=br c (lI (ad a 12) λd=>cu ((2:Int)≠0) (cu ((4:Int)≠0) (lI (ad b 12) λe=>cu ((2:Int)≠0) (cu ((4:Int)≠0) (br (((aa.wrap (d.tdiv (2:Int))).tmod (4:Int))==((aa.wrap (e.tdiv (2:Int))).tmod (4:Int))) (K (.i 10)) (K (.i 11))))))) (K (.i 11))
def im(c d:LV)(K:VK):WK:=mk c λa=>mk d λb=>lI (ad a 10) λe=>lI (ad b 10) λf=>br (e==f) (lI (ad a 11) λg=>lI (ad b 11) λh=>im.j1 K a b (g==h)) (im.j1 K a b false)
def kT(a:OA)(n:LV)(K:VK):WK:=mk n λb=>aJ (ad b 0) 14 λo=>bB o (xI .i64 λc=>br (c !=0) (K (.i c)) (aJ (ad b 0) 2 λp=>fF a p (xI .i64 λd=>br (decide (d>=0)) (tick (aJ (ad b 0) 14 λq=>nn a λe=>lL e λf g r=>iV f g d 14 λs=>aJ s 14 λt=>im q t (xI .i64 λu=>kp e [.l f g r] (K (.i u))))) (nn a λv=>lL v λJ w M=>br (decide ((w:Int)>=32)) (K (.i 35)) (nn a λx=>lI (x.add 3) λy=>nn a λz=>st (z.add 3) (.i (aa.wrap (y+1))) (nn a λA=>lI (A.add 3) λB=>st (ad b 13) (.i B) (lI (ad b 12) λC=>cu ((2:Int)≠0) (st (ad b 12) (.i (aa.wrap ((aa.wrap (C.tdiv (2:Int)))* 2))) (tick (nn a λh=>lL h λj k m=>aJ (ad b 0) 14 λD=>HE 14 D λE=>kp h [.l j k m] (iz 14 112 dV j k m (ah E) 1 λF G H=>nn a λI=>st I (.l F G H) (K (.i 0)))))))))))))
def bW(c:LV)(a:Int)(K:VK):WK:=mk c λd=>lI (ad d 13) λe=>cu (a≠0) (cu ((2:Int)≠0) (K (.b (((aa.wrap (e.tdiv a)).tmod (2:Int))==1))))
def gZ(c:LV)(K:VK):WK:=mk c λa=>aJ (ad a 0) 16 λd=>bW d 4 (xB λe=>br e (K (.b true)) (aJ (ad a 0) 16 λf=>bW f 8 (xB λg=>K (.b g))))
def bQ.j2(K:VK)(a:Nat)(c:Bool):WK:=br c (K (.b false)) (lI (ad a 13) λd=>br (decide (d<64)) (K (.b true)) (aJ (ad a 0) 16 λe=>bW e 2 (xB λf=>K (.b f))))
def bQ.j1(K:VK)(a:Nat)(c:Bool):WK:=br c (K (.b false)) (aJ (ad a 0) 16 λd=>gZ d (xB λe=>br e (lI (ad a 13) λf=>bQ.j2 K a (decide (f>=16))) (bQ.j2 K a false)))
def bQ.j4(K:VK)(a:Nat)(b:Bool):WK:=br b (bQ.j1 K a true) (aJ (ad a 0) 16 λc=>bW c 4 (xB λd=>br d (aJ (ad a 0) 16 λe=>bW e 8 (xB λf=>bQ.j1 K a f)) (bQ.j1 K a false)))
def bQ.j3(K:VK)(a:Nat)(b:Bool):WK:=br b (bQ.j4 K a true) (aJ (ad a 0) 16 λc=>bW c 2 (xB λd=>br d (aJ (ad a 0) 16 λe=>bW e 8 (xB λf=>bQ.j4 K a f)) (bQ.j4 K a false)))
def bQ(b:LV)(K:VK):WK:=mk b λa=>aJ (ad a 0) 16 λc=>bW c 2 (xB λd=>br d (aJ (ad a 0) 16 λe=>bW e 4 (xB λf=>bQ.j3 K a f)) (bQ.j3 K a false))
def aV.j5(K:VK)(a:Nat)(b:Int)(c:Bool):WK:=br c (K (.i 8)) (lI (ad a 12) λd=>br (decide (d<b)) (K (.i 9)) (lI (ad a 12) λe=>br (decide (e>=65536)) (K (.i 9)) (K (.i 0))))
def aV.j4(K:VK)(a:Nat)(b:Int):WK:=lI (ad a 11) λc=>br (decide (c<b)) (aV.j5 K a b true) (lI (ad a 11) λd=>aV.j5 K a b (decide (d>=4294967296)))
def aV.j3(K:VK)(a b:Nat)(c:Bool):WK:=br c (K (.i 17)) (aJ (ad a 0) 16 λd=>gZ d (xB λe=>br e (aJ (ad a 8) 2 λf=>aJ (ad b 0) 2 λg=>rz [.u 0,.u 0] f g λh=>br h (K (.i 16)) (aV.j4 K a 0)) (aJ (ad a 2) 2 λj=>aJ (ad b 0) 2 λk=>rz [.u 0,.u 0] j k λl=>br l (K (.i 12)) (aJ (ad a 4) 2 λm=>aJ (ad b 0) 2 λn=>rz [.u 0,.u 0] m n λo=>br o (K (.i 13)) (aJ (ad a 2) 2 λp=>aJ (ad a 4) 2 λq=>rz [.u 0,.u 0] p q λr=>br r (K (.i 14)) (aJ (ad a 8) 2 λs=>aJ (ad b 0) 2 λt=>rz [.u 0,.u 0] s t λv=>br (!v) (K (.i 15)) (aJ (ad a 6) 2 λw=>aJ (ad b 0) 2 λx=>rz [.u 0,.u 0] w x λy=>br y (aJ (ad a 0) 16 λz=>bW z 16 (xB λA=>br (!A) (aJ (ad a 0) 16 λB=>bW B 32 (xB λC=>br (!C) (K (.i 18)) (aV.j4 K a 1))) (aV.j4 K a 1))) (aV.j4 K a 1))))))))
def aV.j6(K:VK)(a b:Nat)(c:Bool):WK:=br c (aV.j3 K a b true) (lI (ad a 10) λd=>br (decide (d>0)) (aJ (ad a 0) 16 λe=>bW e 2 (xB λf=>aV.j3 K a b (!f))) (aV.j3 K a b false))
def aV.j2(K:VK)(a b:Nat)(c:Bool):WK:=br c (K (.i 7)) (lI (ad a 10) λd=>br (decide (d<0)) (aV.j6 K a b true) (lI (ad a 10) λe=>aV.j6 K a b (decide (e>1073741824))))
def aV.j1(K:VK)(a b:Nat)(c:Bool):WK:=br c (K (.i 3)) (aJ (ad a 0) 2 λd=>aJ (ad b 0) 2 λe=>rz [.u 0,.u 0] d e λf=>br f (K (.i 4)) (aJ (ad a 0) 2 λg=>kH g (xS λh=>br (pG h (⟨#[51,52,48,50,56,50,51,54,54,57,50,48,57,51,56,52,54,51,52,54,51,51,55,52,54,48,55,52,51,49,55,54,56,50,49,49,52,53,53]⟩:BA)) (K (.i 5)) (aJ (ad a 0) 16 λj=>bQ j (xB λk=>br (!k) (K (.i 6)) (lI (ad a 14) λl=>br (l !=0) (aV.j2 K a b true) (lI (ad a 15) λm=>aV.j2 K a b (m !=0))))))))
def aV(c:LV)(K:VK):WK:=mk c λa=>cu True (mk [.u 0,.u 0] λb=>cu (2=2) (kj (ad b 0) [.u 0,.u 0] (lI (ad a 13) λd=>br (decide (d<0)) (aV.j1 K a b true) (lI (ad a 13) λe=>aV.j1 K a b (decide (e>255))))))
def iu(n:OA)(o:LV)(K:VK):WK:=mk o λq=>nn n λr=>lL (r.add 1) λs j t=>(lp [.p (some (ad q 0)),.i 0,.l s j t,.i (j:Int),.i 0] λk v=>∀b f c d g e a h,k [.p (some b),.i f,.l c d g,.i e,.i a] h->(br (decide (a<e)) (iV c d a 33 λw=>aJ w 33 λx=>mk cG λm=>bA 33 (ad m 0) x (aJ (ad m 16) 2 λy=>aJ b 2 λz=>rz [.u 0,.u 0] y z λA=>br A (K (.i a)) ((ct k v [.p (some b),.i f,.l c d g,.i e,.i (aa.wrap (a+1))] [.p (some b),.i f,.l c d g,.i e,.i a] h)))) (K (.i (-1)))) h)
def lK(c d:LV)(K:VK):WK:=mk c λa=>mk d λb=>lI (ad a 13) λe=>cu ((2:Int)≠0) (st (ad a 13) (.i (aa.wrap (e.tdiv (2:Int)))) (lI (ad b 13) λf=>cu ((2:Int)≠0) (st (ad b 13) (.i (aa.wrap (f.tdiv (2:Int)))) (aJ (ad a 0) 16 λg=>aJ (ad b 0) 16 λh=>rz iA g h λj=>br j (K (.i 10)) (K (.i 11))))))
def hG(k l:LV)(K:VK):WK:=mk k λm=>mk l λn=>(lp [.p (some (ad m 0)),.p (some (ad n 0)),.b false,.i 127] λg o=>∀d c e a f,g [.p (some d),.p (some c),.b e,.i a] f->(br (decide (a>=0)) (tick (aJ d 2 λq=>aJ c 2 λh=>gr q a (xI .i64 λr=>kp c h (gr h a (xI .i64 λs=>br (r !=s) (tick (aJ d 2 λt=>aJ c 2 λj=>gr t a (xI .i64 λu=>kp c j (gr j a (xI .i64 λv=>K (.b (decide (u<v)))))))) ((ct g o [.p (some d),.p (some c),.b e,.i (aa.wrap (a-1))] [.p (some d),.p (some c),.b e,.i a] f))))))) (K (.b false))) f)
def cU.j1(K:VK)(a:Nat)(c d e:Int)(f:Bool):WK:=br f (cu True (cu (2=2) (kj (ad a 0) [.u 0,.u 0] (aJ (ad a 0) 2 λg=>K (.tuple ⟨[.agg ⟨g⟩,.b false]⟩))))) (cu (1=1/\(1=1/\True)) (cu (2=2) (kj (ad a 0) [.u e,.u (IntKind.u64.wrap (c+d))] (aJ (ad a 0) 2 λh=>K (.tuple ⟨[.agg ⟨h⟩,.b true]⟩)))))
def cU(i j:LV)(K:VK):WK:=mk i λc=>mk j λg=>mk [.u 0,.u 0] λf=>lU (ad c 1) λd=>lU (ad g 1) λe=>lU (ad c 0) λa=>lU (ad g 0) λb=>lU (ad c 0) λh=>lU (ad c 1) λk=>br (decide ((IntKind.u64.wrap (d+e))<k)) (br (decide ((IntKind.u64.wrap (a+b))<h)) (cU.j1 K f d e (IntKind.u64.wrap ((IntKind.u64.wrap (a+b))+1)) true) (cU.j1 K f d e (IntKind.u64.wrap ((IntKind.u64.wrap (a+b))+1)) ((IntKind.u64.wrap ((IntKind.u64.wrap (a+b))+1))==0))) (cU.j1 K f d e (IntKind.u64.wrap (a+b)) (decide ((IntKind.u64.wrap (a+b))<h)))
def jW(c d:LV)(K:VK):WK:=mk c λe=>mk d λf=>mk [.u 0,.u 0] λa=>aJ (ad e 0) 2 λg=>aJ (ad f 0) 2 λh=>cU g h (x2 λi j=>(xA 2 λk=>(xB λn=>mk [.u 0,.u 0] λb=>bA 2 (ad b 0) k (aJ (ad b 0) 2 λl=>bA 2 (ad a 0) l (aJ (ad a 0) 2 λm=>K (.agg ⟨m⟩)))) j) i)
def au.H6(K:VK)(a:Addr)(h:LI)(b:Addr)(c:OA)(d e:Nat)(f g:Int)(j:LM)(k:World)(m:Bool):WK:=br m (lI (a.add 12) λn=>cu ((8:Int)≠0) (st (a.add 12) (.i (aa.wrap ((n.tmod (8:Int))+8))) ((ct h j [.p (some b),.p (some a),.l c d e,.i f,.i (aa.wrap (g+1))] [.p (some b),.p (some a),.l c d e,.i f,.i g] k)))) ((ct h j [.p (some b),.p (some a),.l c d e,.i f,.i (aa.wrap (g+1))] [.p (some b),.p (some a),.l c d e,.i f,.i g] k))
def au.Bl(K:VK)(k:Nat)(a:Addr)(b:LI)(c:Addr)(d:OA)(e f:Nat)(g h:Int)(i:LM)(j:World)(l:Bool):WK:=br l (lI (ad k 32) λm=>br (m==1) (au.H6 K a b c d e f g h i j true) (lI (ad k 32) λn=>au.H6 K a b c d e f g h i j (n==2))) (au.H6 K a b c d e f g h i j false)
def au.Jd(K:VK)(b:Nat)(a:Addr)(c:LI)(d:Addr)(e:OA)(f g:Nat)(h i:Int)(j:LM)(k:World)(l:Nat)(m:Bool):WK:=br m (au.Bl K b a c d e f g h i j k true) (aJ (ad l 0) 16 λn=>bW n 128 (xB λo=>br o (aJ (ad l 4) 2 λp=>aJ a 2 λq=>rz [.u 0,.u 0] p q λr=>au.Bl K b a c d e f g h i j k r) (au.Bl K b a c d e f g h i j k false)))
def au.j9(K:VK)(a:Nat)(b:Addr)(c:Nat)(d:LI)(e:Addr)(f:OA)(g h:Nat)(i j:Int)(k:LM)(l:World):WK:=aJ (ad a 0) 16 λm=>bW m 64 (xB λn=>br n (aJ (ad a 2) 2 λo=>aJ b 2 λp=>rz [.u 0,.u 0] o p λq=>au.Jd K c b d e f g h i j k l a q) (au.Jd K c b d e f g h i j k l a false))
def au.j8(K:VK)(a:Addr)(b c:Nat)(d:LI)(e:Addr)(f:OA)(g h:Nat)(i j:Int)(k:LM)(l:World)(m:Bool):WK:=br m (aJ (a.add 6) 2 λn=>aJ (ad b 6) 2 λo=>jW n o (xA 2 λp=>bA 2 (a.add 6) p (au.j9 K b a c d e f g h i j k l))) (au.j9 K b a c d e f g h i j k l)
def au.j7(K:VK)(a b:Nat)(c:Addr)(d:LI)(e:Addr)(f:OA)(g h:Nat)(i j:Int)(k:LM)(l:World):WK:=lI (ad a 32) λm=>br (m==1) (aJ (ad b 4) 2 λn=>aJ c 2 λo=>rz [.u 0,.u 0] n o λp=>au.j8 K c b a d e f g h i j k l p) (au.j8 K c b a d e f g h i j k l false)
def au.j6(K:VK)(a:Addr)(b c:Nat)(d:LI)(e:Addr)(f:OA)(g h:Nat)(i j:Int)(k:LM)(l:World)(m:Bool):WK:=br m (aJ (a.add 2) 2 λn=>aJ (ad b 6) 2 λo=>jW n o (xA 2 λp=>bA 2 (a.add 2) p (au.j7 K c b a d e f g h i j k l))) (au.j7 K c b a d e f g h i j k l)
def au.j5(K:VK)(a b:Nat)(c:Addr)(d:LI)(e:Addr)(f:OA)(g h:Nat)(i j:Int)(k:LM)(l:World):WK:=lI (ad a 32) λm=>br (m==1) (aJ (ad b 2) 2 λn=>aJ c 2 λo=>rz [.u 0,.u 0] n o λp=>au.j6 K c b a d e f g h i j k l p) (au.j6 K c b a d e f g h i j k l false)
def au.j4(K:VK)(a:Addr)(b c:Nat)(d:LI)(e:Addr)(f:OA)(g h:Nat)(i j:Int)(k:LM)(l:World)(m:Bool):WK:=br m (aJ (a.add 8) 2 λn=>aJ (ad b 6) 2 λo=>jW n o (xA 2 λp=>bA 2 (a.add 8) p (au.j5 K c b a d e f g h i j k l))) (au.j5 K c b a d e f g h i j k l)
def au.j3(K:VK)(m:Bool)(a:Nat)(b:Addr)(c:Nat)(d:LI)(e:Addr)(f:OA)(g h:Nat)(i j:Int)(k:LM)(l:World):WK:=br m (aJ (ad a 4) 2 λn=>aJ b 2 λo=>rz [.u 0,.u 0] n o λp=>au.j4 K b a c d e f g h i j k l p) (au.j4 K b a c d e f g h i j k l false)
def au.j2(K:VK)(a:Addr)(b:Nat)(c:Bool)(d:Nat)(e:LI)(f:Addr)(g:OA)(h i:Nat)(j k:Int)(l:LM)(m:World)(n:Bool):WK:=br n (aJ (a.add 4) 2 λo=>aJ (ad b 6) 2 λp=>jW o p (xA 2 λq=>bA 2 (a.add 4) q (au.j3 K c b a d e f g h i j k l m))) (au.j3 K c b a d e f g h i j k l m)
def au.j1(K:VK)(a:Nat)(b:Addr)(d:Nat)(e:LI)(f:Addr)(g:OA)(h i:Nat)(j k:Int)(l:LM)(m:World)(c:Bool):WK:=br c (aJ (ad a 2) 2 λn=>aJ b 2 λo=>rz [.u 0,.u 0] n o λp=>au.j2 K b a c d e f g h i j k l m p) (au.j2 K b a c d e f g h i j k l m false)
def au(n:OA)(s:Int)(K:VK):WK:=mk dV λt=>nn n λu=>lL u λv w O=>iV v w s 14 λx=>aJ x 14 λy=>mk dV λo=>bA 14 (ad o 0) y (nn n λz=>lL (z.add 1) λA q B=>(lp [.p (some (ad t 0)),.p (some (ad o 0)),.l A q B,.i (q:Int),.i 0] λk r=>∀a d e f m g b h,k [.p (some a),.p (some d),.l e f m,.i g,.i b] h->(br (decide (b<g)) (iV e f b 33 λC=>aJ C 33 λD=>mk cG λj=>bA 33 (ad j 0) D (aJ (ad j 16) 16 λE=>mk iA λc=>bA 16 (ad c 0) E (aJ (ad c 0) 16 λF=>bW F 2 (xB λG=>br (!G) (aJ (ad c 0) 16 λH=>bW H 8 (xB λI=>au.j1 K c d j k a e f m g b r h (!I))) (au.j1 K c d j k a e f m g b r h false))))) (aJ d 14 λJ=>bA 14 a J (aJ a 14 λM=>K (.agg ⟨M⟩)))) h))
def gR(d:OA)(e:LV)(f:Int)(K:VK):WK:=mk e λg=>iw d (xP λa=>nn a λh=>lL (h.add 1) λj k q=>iV j k f 33 λl=>st (l.add 32) (.i 3) (aJ (ad g 0) 2 λm=>fF a m (xI .i64 λn=>au a n (xA 14 λo=>(λw=>∃c,o[12]?=some c/\(xI .i64 λp=>K (.b (decide (p>=8)))) c w)))))
def iv(a:OA)(m n:LV)(f:Int)(K:VK):WK:=mk m λe=>mk n λb=>nn a λo=>lI (o.add 3) λp=>nn a λq=>st (q.add 3) (.i (aa.wrap (p+1))) (nn a λr=>lI (r.add 3) λs=>st (ad b 14) (.i s) (nn a λt=>lI (t.add 2) λu=>st (ad b 15) (.i u) (tick (nn a λg=>lL (g.add 1) λh j k=>aJ (ad e 0) 16 λc=>aJ (ad b 0) 16 λd=>cu (c.length=16/\(d.length=16/\(1=1/\True))) (cu ((c++(d++([.i f]:LV))).length=33/\True) (mk ((c++(d++([.i f]:LV)))++[]) λv=>kp (ad b 0) d (kp (ad e 0) c (kp (g.add 1) [.l h j k] (iz 33 264 cG h j k (ah v) 1 λw x y=>kp (ad b 0) d (kp (ad e 0) c (nn a λz=>st (z.add 1) (.l w x y) (K (.tuple ⟨[]⟩)))))))))))))
def az.j6(K:VK)(c b d:Nat)(e:OA):WK:=aJ (ad c 0) 16 λf=>mk iA λa=>bA 16 (ad a 0) f (aJ (ad b 2) 2 λg=>bA 2 (ad a 2) g (aJ (ad b 4) 2 λh=>bA 2 (ad a 4) h (aJ (ad d 0) 2 λj=>bA 2 (ad a 6) j (lI (ad b 11) λk=>st (ad a 11) (.i k) (lI (ad b 12) λl=>st (ad a 12) (.i l) (aJ (ad c 0) 16 λm=>aJ (ad a 0) 16 λn=>iv e m n 0 (x0 (K (.i 0)))))))))
def az.j5(K:VK)(a:OA)(b:Int)(f:Bool)(c d e:Nat)(g:Bool):WK:=br g (K (.i 31)) (nn a λh=>lL (h.add 1) λs j t=>br (decide ((j:Int)>=96)) (K (.i 35)) (nn a λk=>lL (k.add 1) λl m u=>iV l m b 33 λn=>st (n.add 32) (.i 3) (br f (nn a λo=>lL (o.add 1) λp q v=>iV p q b 33 λr=>st (r.add 32) (.i 2) (az.j6 K c d e a)) (az.j6 K c d e a))))
def az.j4(K:VK)(a:Bool)(b:Nat)(c:OA)(d:Int)(e f:Nat)(g:Bool):WK:=br g (K (.i 30)) (br a (aJ (ad b 4) 2 λh=>gR c h d (xB λj=>az.j5 K c d a e b f j)) (az.j5 K c d a e b f false))
def az.j3(K:VK)(a:Bool)(b:Nat)(c:OA)(d:Int)(e f:Nat)(g:Bool):WK:=br g (K (.i 26)) (br a (aJ (ad b 2) 2 λh=>gR c h d (xB λj=>az.j4 K a b c d e f j)) (az.j4 K a b c d e f false))
def az.j7(K:VK)(a:Bool)(b:Nat)(d:OA)(e:Int)(f c:Nat)(g:Bool):WK:=br g (az.j3 K a b d e f c true) (br (!a) (aJ (ad c 0) 2 λh=>aJ (ad b 6) 2 λi=>rz [.u 0,.u 0] h i λj=>az.j3 K a b d e f c (!j)) (az.j3 K a b d e f c false))
def az.j2(K:VK)(a:Bool)(b c:Nat)(d:OA)(e:Int)(f:Nat):WK:=br a (aJ (ad b 6) 2 λg=>aJ (ad c 0) 2 λh=>hG g h (xB λi=>az.j7 K a b d e f c i)) (az.j7 K a b d e f c false)
def az.j1(K:VK)(b:OA)(c:Int)(d g e:Nat)(h:Bool):WK:=br h (K (.i 25)) (nn b λj=>lL (j.add 1) λk l A=>iV k l c 33 λm=>lI (m.add 32) λn=>br (decide (n>1)) (nn b λo=>lL (o.add 1) λp q B=>iV p q c 33 λr=>lI (r.add 32) λs=>K (.i (aa.wrap (25+s)))) (aJ (ad d 0) 16 λt=>bW t 4 (xB λf=>aJ (ad d 6) 2 λv=>mk [.u 0,.u 0] λa=>bA 2 (ad a 0) v (aJ (ad a 0) 2 λw=>aJ (ad g 0) 2 λx=>rz [.u 0,.u 0] w x λy=>br y (aJ (ad e 6) 2 λz=>bA 2 (ad a 0) z (az.j2 K f e a b c d)) (az.j2 K f e a b c d)))))
def az.Bl(K:VK)(c:OA)(d:Int)(a e b:Nat)(f:Bool):WK:=br f (az.j1 K c d a e b true) (lI (ad a 12) λg=>br (g !=0) (lI (ad a 12) λh=>lI (ad b 12) λi=>az.j1 K c d a e b (h !=i)) (az.j1 K c d a e b false))
def az.j9(K:VK)(c:OA)(d:Int)(a e b:Nat)(f:Bool):WK:=br f (az.Bl K c d a e b true) (lI (ad a 11) λg=>br (g !=0) (lI (ad a 11) λh=>lI (ad b 11) λi=>az.Bl K c d a e b (h !=i)) (az.Bl K c d a e b false))
def az.j8(K:VK)(d:OA)(e:Int)(a b c:Nat)(f:Bool):WK:=br f (az.j9 K d e a b c true) (aJ (ad a 4) 2 λg=>aJ (ad b 0) 2 λh=>rz [.u 0,.u 0] g h λi=>br (!i) (aJ (ad a 4) 2 λj=>aJ (ad c 4) 2 λk=>rz [.u 0,.u 0] j k λl=>az.j9 K d e a b c (!l)) (az.j9 K d e a b c false))
def az(b:OA)(m:LV)(K:VK):WK:=mk m λa=>aJ (ad a 0) 16 λn=>aV n (xI .i64 λf=>br (f !=0) (K (.i f)) (aJ (ad a 0) 16 λo=>gZ o (xB λp=>br (!p) (K (.i 6)) (aJ (ad a 0) 2 λq=>iu b q (xI .i64 λg=>br (decide (g>=0)) (tick (aJ (ad a 0) 16 λr=>nn b λh=>lL (h.add 1) λj k s=>iV j k g 33 λt=>aJ t 16 λv=>lK r v (xI .i64 λw=>kp (h.add 1) [.l j k s] (K (.i w))))) (aJ (ad a 8) 2 λx=>iu b x (xI .i64 λd=>br (decide (d<0)) (K (.i 23)) (nn b λy=>lL (y.add 1) λz A O=>iV z A d 33 λB=>aJ (B.add 16) 16 λC=>mk iA λc=>bA 16 (ad c 0) C (cu True (mk [.u 0,.u 0] λe=>cu (2=2) (kj (ad e 0) [.u 0,.u 0] (aJ (ad c 0) 16 λD=>bW D 2 (xB λE=>br (!E) (K (.i 24)) (aJ (ad a 2) 2 λF=>aJ (ad e 0) 2 λG=>rz [.u 0,.u 0] F G λH=>br (!H) (aJ (ad a 2) 2 λI=>aJ (ad c 2) 2 λJ=>rz [.u 0,.u 0] I J λM=>az.j8 K b d a e c (!M)) (az.j8 K b d a e c false)))))))))))))))
def lH(d e:LV)(K:VK):WK:=mk d λb=>mk e λc=>mk [.u 0,.u 0] λa=>aJ (ad b 0) 2 λf=>aJ (ad c 0) 2 λg=>hG f g (xB λh=>br h (aJ (ad b 0) 2 λi=>bA 2 (ad a 0) i (aJ (ad a 0) 2 λj=>K (.agg ⟨j⟩))) (aJ (ad c 0) 2 λk=>bA 2 (ad a 0) k (aJ (ad a 0) 2 λl=>K (.agg ⟨l⟩))))
def oH(K:VK):WK:=mk [.u 0,.u 0] λa=>cu (1=1/\(1=1/\True)) (cu (2=2) (kj (ad a 0) [.u 18446744073709551615,.u 18446744073709551615] (aJ (ad a 0) 2 λb=>K (.agg ⟨b⟩))))
def pB(d:LV)(a:Int)(K:VK):WK:=mk d λb=>mk [.u 0,.u 0] λc=>br (decide (a>=64)) (lU (ad b 0) λe=>cu ((0:Int)<=(IntKind.u64.wrap (aa.wrap (a-64)))) (lU (ad b 1) λf=>cu (1=1/\(1=1/\True)) (cu (2=2) (kj (ad c 0) [.u (IntKind.u64.wrap (e+(shl .u64 1 (IntKind.u64.wrap (aa.wrap (a-64)))))),.u f] (aJ (ad c 0) 2 λg=>K (.agg ⟨g⟩)))))) (lU (ad b 0) λh=>lU (ad b 1) λi=>cu ((0:Int)<=(IntKind.u64.wrap a)) (cu (1=1/\(1=1/\True)) (cu (2=2) (kj (ad c 0) [.u h,.u (IntKind.u64.wrap (i+(shl .u64 1 (IntKind.u64.wrap a))))] (aJ (ad c 0) 2 λj=>K (.agg ⟨j⟩))))))
def gp.j1(K:VK)(a:Addr)(c:Int)(h:LI)(d e f:Addr)(g:Bool)(j:LM)(k:Int)(l:World)(m n:Int):WK:=br (n==1) (aJ a 2 λo=>pB o c (xA 2 λq=>bA 2 a q ((ct h j [.p (some d),.p (some e),.p (some f),.b g,.p (some a),.i m,.i (aa.wrap (c+1))] [.p (some d),.p (some e),.p (some f),.b g,.p (some a),.i k,.i c] l)))) ((ct h j [.p (some d),.p (some e),.p (some f),.b g,.p (some a),.i m,.i (aa.wrap (c+1))] [.p (some d),.p (some e),.p (some f),.b g,.p (some a),.i k,.i c] l))
def gp(v w:LV)(K:VK):WK:=mk v λo=>mk w λq=>mk [.u 0,.u 0] λj=>aJ (ad o 0) 2 λx=>aJ (ad q 0) 2 λy=>hG x y (xB λz=>br z (cu True (cu (2=2) (kj (ad j 0) [.u 0,.u 0] (aJ (ad j 0) 2 λA=>K (.tuple ⟨[.agg ⟨A⟩,.b false]⟩))))) (cu True (mk [.u 0,.u 0] λr=>cu (2=2) (kj (ad r 0) [.u 0,.u 0] ((lp [.p (some (ad o 0)),.p (some (ad q 0)),.p (some (ad j 0)),.b false,.p (some (ad r 0)),.i 0,.i 0] λk s=>∀f d e l g a c h,k [.p (some f),.p (some d),.p (some e),.b l,.p (some g),.i a,.i c] h->(br (decide (c<128)) (tick (aJ f 2 λB=>aJ d 2 λt=>gr B c (xI .i64 λm=>kp d t (gr t c (xI .i64 λn=>br (decide ((aa.wrap ((aa.wrap (m-n)) -a))<0)) (gp.j1 K g c k f d e l s a h 1 (aa.wrap ((aa.wrap ((aa.wrap (m-n)) -a))+2))) (gp.j1 K g c k f d e l s a h 0 (aa.wrap ((aa.wrap (m-n)) -a)))))))) (aJ g 2 λC=>bA 2 e C (aJ e 2 λD=>K (.tuple ⟨[.agg ⟨D⟩,.b true]⟩)))) h))))))
def dD.j2(K:VK)(c d a:Nat):WK:=aJ (ad c 0) 2 λe=>aJ (ad d 0) 2 λf=>gp e f (x2 λg h=>(xA 2 λi=>(xB λl=>mk [.u 0,.u 0] λb=>bA 2 (ad b 0) i (aJ (ad b 0) 2 λj=>bA 2 (ad a 0) j (aJ (ad a 0) 2 λk=>K (.agg ⟨k⟩)))) h) g)
def dD.j1(K:VK)(d e b c:Nat):WK:=aJ (ad d 0) 2 λf=>aJ (ad e 0) 2 λg=>cU f g (x2 λh i=>(xA 2 λj=>(xB λk=>mk [.u 0,.u 0] λa=>bA 2 (ad a 0) j (br (!k) (oH (xA 2 λl=>bA 2 (ad a 0) l (dD.j2 K b a c))) (dD.j2 K b a c))) i) h)
def dD(f:LV)(g:Bool)(K:VK):WK:=mk f λa=>mk [.u 0,.u 0] λe=>aJ (ad a 4) 2 λh=>mk [.u 0,.u 0] λb=>bA 2 (ad b 0) h (aJ (ad a 6) 2 λi=>mk [.u 0,.u 0] λc=>bA 2 (ad c 0) i (aJ (ad a 8) 2 λj=>mk [.u 0,.u 0] λd=>bA 2 (ad d 0) j (br g (aJ (ad a 8) 2 λk=>bA 2 (ad b 0) k (aJ (ad a 2) 2 λl=>bA 2 (ad c 0) l (aJ (ad a 4) 2 λm=>bA 2 (ad d 0) m (dD.j1 K c d b e)))) (dD.j1 K c d b e))))
def cm.j4(K:VK)(e:Bool)(c a d b:Nat):WK:=br e (aJ (ad c 0) 2 λf=>bA 2 (ad a 2) f (aJ (ad d 0) 2 λg=>bA 2 (ad a 4) g (aJ (ad a 0) 14 λh=>bA 14 (ad b 0) h (aJ (ad b 0) 14 λj=>K (.tuple ⟨[.agg ⟨j⟩,.i 0]⟩))))) (aJ (ad c 0) 2 λk=>bA 2 (ad a 6) k (aJ (ad d 0) 2 λl=>bA 2 (ad a 8) l (aJ (ad a 0) 14 λm=>bA 14 (ad b 0) m (aJ (ad b 0) 14 λn=>K (.tuple ⟨[.agg ⟨n⟩,.i 0]⟩)))))
def cm.j3(K:VK)(e:Bool)(b a:Nat)(g:Bool)(c f d:Nat)(h:Bool):WK:=br h (br e (aJ (ad b 0) 14 λj=>bA 14 (ad a 0) j (aJ (ad a 0) 14 λk=>K (.tuple ⟨[.agg ⟨k⟩,.i 33]⟩))) (aJ (ad b 0) 14 λl=>bA 14 (ad a 0) l (aJ (ad a 0) 14 λm=>K (.tuple ⟨[.agg ⟨m⟩,.i 34]⟩)))) (br g (aJ (ad c 0) 2 λn=>aJ (ad f 0) 2 λo=>cU n o (x2 λp q=>(xA 2 λr=>(xB λx=>bA 2 (ad c 0) r (cm.j4 K e c b d a)) q) p)) (aJ (ad d 0) 2 λs=>aJ (ad f 0) 2 λt=>cU s t (x2 λu v=>(xA 2 λw=>(xB λy=>bA 2 (ad d 0) w (cm.j4 K e c b d a)) v) u)))
def cm.j2(K:VK)(a b:Nat)(k:Int)(c:Nat)(d f:Bool)(g h:Nat)(l:Bool):WK:=br l (aJ (ad a 0) 14 λm=>bA 14 (ad b 0) m (aJ (ad b 0) 14 λn=>K (.tuple ⟨[.agg ⟨n⟩,.i 32]⟩))) (tick (lI (ad a 12) λe=>br ((dm .i64 .and e k)!=0) (aJ (ad a 0) 14 λo=>aJ (ad c 0) 2 λj=>dD o d (xA 2 λp=>kp (ad c 0) j (kp (ad a 12) [.i e] (hG p j (xB λq=>kp (ad a 12) [.i e] (cm.j3 K d a b f g c h q)))))) (cm.j3 K d a b f g c h false)))
def cm.j1(K:VK)(a b c d e:Nat)(f g:Bool)(h:Int):WK:=aJ (ad a 0) 2 λj=>aJ (ad b 0) 2 λk=>cU j k (x2 λl m=>(xA 2 λn=>(xB λo=>mk [.u 0,.u 0] λi=>bA 2 (ad i 0) n (aJ (ad i 0) 2 λp=>aJ (ad c 0) 2 λq=>cU p q (x2 λr s=>(xA 2 λt=>(xB λv=>mk [.u 0,.u 0] λw=>bA 2 (ad w 0) t (br (!o) (cm.j2 K d e h c f g a b true) (cm.j2 K d e h c f g a b (!v)))) s) r))) m) l)
def cm(h:LV)(d:Bool)(i:LV)(e:Bool)(K:VK):WK:=mk h λa=>mk i λf=>mk dV λg=>aJ (ad a 6) 2 λj=>mk [.u 0,.u 0] λb=>bA 2 (ad b 0) j (aJ (ad a 8) 2 λk=>mk [.u 0,.u 0] λc=>bA 2 (ad c 0) k (br d (aJ (ad a 2) 2 λl=>bA 2 (ad b 0) l (aJ (ad a 4) 2 λm=>bA 2 (ad c 0) m (cm.j1 K b c f a g d e 2))) (cm.j1 K b c f a g d e 4)))
def bV.j3(K:VK)(a h c j:Nat)(e:OA):WK:=aJ (ad a 0) 16 λk=>bW k 2 (xB λd=>aJ (ad h 0) 14 λl=>aJ (ad c 0) 2 λm=>cm l true m d (x2 λn o=>(xA 14 λz=>(xI .i64 λf=>br (f !=0) (K (.i f)) (aJ (ad j 0) 14 λp=>aJ (ad c 0) 2 λq=>cm p false q d (x2 λr s=>(xA 14 λA=>(xI .i64 λg=>br (g !=0) (K (.i g)) (aJ (ad a 0) 16 λt=>mk iA λb=>bA 16 (ad b 0) t (aJ (ad c 0) 2 λu=>bA 2 (ad b 6) u (br d (aJ (ad a 0) 16 λv=>aJ (ad b 0) 16 λw=>iv e v w 1 (x0 (K (.i 0)))) (aJ (ad a 0) 16 λx=>aJ (ad b 0) 16 λy=>iv e x y 0 (x0 (K (.i 0)))))))) s) r))) o) n))
def bV.j2(K:VK)(b a c g d:Nat)(e:OA):WK:=aJ (ad b 0) 16 λh=>bW h 32 (xB λj=>br j (tick (aJ (ad a 0) 2 λf=>aJ (ad c 0) 14 λk=>dD k false (xA 2 λl=>kp (ad a 0) f (lH f l (xA 2 λm=>bA 2 (ad a 0) m (aJ (ad a 0) 2 λn=>aJ (ad g 0) 2 λo=>rz [.u 0,.u 0] n o λp=>br p (K (.i 34)) (bV.j3 K b d a c e))))))) (bV.j3 K b d a c e))
def bV.j1(K:VK)(b a c d e:Nat)(f:OA):WK:=aJ (ad b 0) 16 λh=>bW h 16 (xB λj=>br j (tick (aJ (ad a 0) 2 λg=>aJ (ad c 0) 14 λk=>dD k true (xA 2 λl=>kp (ad a 0) g (lH g l (xA 2 λm=>bA 2 (ad a 0) m (aJ (ad a 0) 2 λn=>aJ (ad d 0) 2 λo=>rz [.u 0,.u 0] n o λp=>br p (K (.i 33)) (bV.j2 K b a e d c f))))))) (bV.j2 K b a e d c f))
def bV(b:OA)(p:LV)(K:VK):WK:=mk p λa=>aJ (ad a 0) 16 λq=>aV q (xI .i64 λg=>br (g !=0) (K (.i g)) (aJ (ad a 0) 16 λr=>gZ r (xB λs=>br s (K (.i 6)) (aJ (ad a 0) 2 λt=>iu b t (xI .i64 λh=>br (decide (h>=0)) (tick (aJ (ad a 0) 16 λv=>nn b λj=>lL (j.add 1) λk m w=>iV k m h 33 λx=>aJ x 16 λy=>lK v y (xI .i64 λz=>kp (j.add 1) [.l k m w] (K (.i z))))) (aJ (ad a 2) 2 λA=>fF b A (xI .i64 λn=>aJ (ad a 4) 2 λB=>fF b B (xI .i64 λo=>br (decide (n<0)) (K (.i 19)) (br (decide (o<0)) (K (.i 20)) (au b n (xA 14 λC=>mk dV λc=>bA 14 (ad c 0) C (au b o (xA 14 λD=>mk dV λd=>bA 14 (ad d 0) D (lI (ad c 10) λE=>lI (ad d 10) λF=>br (E !=F) (K (.i 21)) (lI (ad c 10) λG=>lI (ad a 11) λH=>br (G !=H) (K (.i 22)) (lI (ad c 12) λI=>br (decide (I>=8)) (K (.i 30)) (lI (ad d 12) λJ=>br (decide (J>=8)) (K (.i 31)) (nn b λM=>lL (M.add 1) λT O V=>br (decide ((O:Int)>=96)) (K (.i 35)) (cu True (mk [.u 0,.u 0] λf=>cu (2=2) (kj (ad f 0) [.u 0,.u 0] (aJ (ad a 6) 2 λP=>mk [.u 0,.u 0] λe=>bA 2 (ad e 0) P (aJ (ad e 0) 2 λQ=>aJ (ad f 0) 2 λR=>rz [.u 0,.u 0] Q R λS=>br S (cu (1=1/\(1=1/\True)) (cu (2=2) (kj (ad e 0) [.u 18446744073709551615,.u 18446744073709551615] (bV.j1 K a e c f d b)))) (bV.j1 K a e c f d b))))))))))))))))))))))))
def jx.j1(K:VK)(a:Nat)(b:OA)(c:Bool):WK:=br c (aJ (ad a 15) 16 λd=>az b d (xI .i64 λe=>K (.i e))) (aJ (ad a 15) 16 λf=>bV b f (xI .i64 λg=>K (.i g)))
def jx(b:OA)(c:LV)(K:VK):WK:=mk c λa=>lT (ad a 0) λd=>br d (aJ (ad a 1) 14 λe=>kT b e (xI .i64 λf=>K (.i f))) (aJ (ad a 15) 16 λg=>aV g (xI .i64 λh=>br (h==0) (aJ (ad a 15) 16 λj=>gZ j (xB λk=>jx.j1 K a b k)) (jx.j1 K a b false)))
def cB.j3(K:VK)(u:LI)(v:LM)(w x:OA)(y z:Nat)(A B:OA)(C D:Nat)(E:Int)(F:World)(H I:OA)(J M:Nat)(O P:OA)(Q R:Nat)(G S T V:Int)(W:OA):WK:=(lp [.p H,.l I J M,.p O,.l P Q R,.i G,.i S,.i T,.i V,.p W,.i G] λs t=>∀m c d e f g h j q a b n o k r,s [.p m,.l c d e,.p f,.l g h j,.i q,.i a,.i b,.i n,.p o,.i k] r->(br (decide (k<=a)) (br (decide (b<0)) (cu (1=1/\True) (mk [.i 0] λX=>iz 1 8 [.i 0] g h j (ah X) 1 λY Z EB=>(ct s t [.p m,.l c d e,.p f,.l Y Z EB,.i q,.i a,.i b,.i n,.p o,.i (aa.wrap (k+1))] [.p m,.l c d e,.p f,.l g h j,.i q,.i a,.i b,.i n,.p o,.i k] r))) (br (k==b) (cu (1=1/\True) (mk [.i n] λr2=>iz 1 8 [.i 0] g h j (ah r2) 1 λR7 RW R1=>(ct s t [.p m,.l c d e,.p f,.l R7 RW R1,.i q,.i a,.i b,.i n,.p o,.i (aa.wrap (k+1))] [.p m,.l c d e,.p f,.l g h j,.i q,.i a,.i b,.i n,.p o,.i k] r))) (cu (1=1/\True) (mk [.i 1] λr3=>iz 1 8 [.i 0] g h j (ah r3) 1 λR6 RV UD=>(ct s t [.p m,.l c d e,.p f,.l R6 RV UD,.i q,.i a,.i b,.i n,.p o,.i (aa.wrap (k+1))] [.p m,.l c d e,.p f,.l g h j,.i q,.i a,.i b,.i n,.p o,.i k] r))))) (br (decide (b<0)) ((ct u v [.p o,.l c d e,.p f,.l g h j,.i (aa.wrap (a+1))] [.p w,.l x y z,.p A,.l B C D,.i E] F)) ((ct u v [.p m,.l c d e,.p f,.l g h j,.i (aa.wrap (a+1))] [.p w,.l x y z,.p A,.l B C D,.i E] F)))) r)
def cB.j4(K:VK)(v:OA)(w:Nat)(a:Int)(b:OA)(s:LI)(c d:OA)(e f:Nat)(g h:OA)(j k:Nat)(m n:Int)(t:LM)(o q:Int)(u:World)(x:LI)(y:LM)(z A:OA)(B C:Nat)(D E:OA)(F G:Nat)(H:Int)(I:World)(J:Bool):WK:=br J (iV v w a 31 λM=>aJ M 31 λO=>jx b O (xI .i64 λr=>br (r !=0) ((ct s t [.p c,.l d e f,.p g,.l h j k,.i m,.i n,.i a,.i r,.p b,.i (aa.wrap (a+1))] [.p c,.l d e f,.p g,.l h j k,.i m,.i n,.i o,.i q,.p b,.i a] u)) ((ct s t [.p c,.l d e f,.p g,.l h j k,.i m,.i n,.i o,.i r,.p b,.i (aa.wrap (a+1))] [.p c,.l d e f,.p g,.l h j k,.i m,.i n,.i o,.i q,.p b,.i a] u)))) (cB.j3 K x y z A B C D E F G H I c d e f g h j k m n o q b)
def cB.j2(K:VK)(t M:OA)(O P:Nat)(Q R:OA)(S T:Nat)(u:Int)(v:OA)(w:Nat)(x:LI)(y:LM)(z A:OA)(B C:Nat)(D E:OA)(F G:Nat)(H:Int)(I:World)(V W X:Int):WK:=iw t (xP λY=>(lp [.p t,.l M O P,.p Q,.l R S T,.i u,.i V,.i W,.i X,.p Y,.i u] λe J=>∀f g h j k m n o q a b r s c d,e [.p f,.l g h j,.p k,.l m n o,.i q,.i a,.i b,.i r,.p s,.i c] d->(br (decide (c<=a)) (cB.j4 K v w c s e f g h j k m n o q a J b r d x y z A B C D E F G H I (decide (b<0))) (cB.j4 K v w c s e f g h j k m n o q a J b r d x y z A B C D E F G H I false)) d))
def cB.j1(K:VK)(a:Nat)(b:OA)(c:LI)(d:LM)(e f:OA)(g h:Nat)(i j:OA)(k l:Nat)(m:Int)(n:World)(o p:OA)(q r:Nat)(s t:OA)(u v:Nat)(w x:Int):WK:=br (x==(a:Int)) (cB.j2 K o p q r s t u v w b a c d e f g h i j k l m n (aa.wrap ((a:Int) -1)) (aa.wrap ((a:Int) -1)) 2) (cB.j2 K o p q r s t u v w b a c d e f g h i j k l m n x (-1) 0)
def cB(D y:OA)(c I:Nat)(K:VK):WK:=(lp [.p D,.l none 0 0,.p none,.l none 0 0,.i 0] λz B=>∀d t u v w e f g b x,z [.p d,.l t u v,.p w,.l e f g,.i b] x->(br (decide (b<(c:Int))) ((lp [.p d,.l t u v,.p w,.l e f g,.i b,.i b] λC E=>∀h j k m n o q r s a A,C [.p h,.l j k m,.p n,.l o q r,.i s,.i a] A->(br (decide (a<(c:Int))) (iV y c a 31 λF=>aJ F 31 λG=>ny G (xB λH=>br H ((ct C E [.p h,.l j k m,.p n,.l o q r,.i s,.i (aa.wrap (a+1))] [.p h,.l j k m,.p n,.l o q r,.i s,.i a] A)) (cB.j1 K c y z B d t u v w e f g b x h j k m n o q r s a))) (cB.j1 K c y z B d t u v w e f g b x h j k m n o q r s a)) A)) (K (.tuple ⟨[.l e f g,.p d]⟩))) x)
def jv.j1(K:VK)(a b:OA)(c d:Nat):WK:=cB a b c d (x2 λe f=>(xL λg h j=>(xP λk=>K (.tuple ⟨[.l g h j,.i 0,.p k]⟩)) f) e)
def jv(b:OA)(d:LV)(K:VK):WK:=mk d λa=>aJ (ad a 0) 13 λe=>dZ e (xB λf=>br (!f) (K (.tuple ⟨[.l none 0 0,.i 1,.p b]⟩)) (lI (ad a 0) λg=>br (g==3) (iw b (xP λc=>lI (ad a 3) λh=>kR c h (x0 (K (.tuple ⟨[.l none 0 0,.i 0,.p c]⟩))))) (lL (ad a 1) λj k m=>me j k m (xL λn o q=>lI (ad a 0) λr=>br (r==2) (lL (ad a 2) λs t u=>lC s t u (xL λv w x=>jv.j1 K b v w x)) (jv.j1 K b n o q)))))
def ma(S:OA)(M T:Nat)(V:OA)(O W:Nat)(K:VK):WK:=(lp [.l none 0 0,.l none 0 0,.l V O W,.i (O:Int),.i 0] λP X=>∀D E F w x y z A G B t H,P [.l D E F,.l w x y,.l z A G,.i B,.i t] H->(br (decide (t<B)) (iV z A t 2 λY=>aJ Y 2 λZ=>mk [.u 0,.u 0] λQ=>bA 2 (ad Q 0) Z ((lp [.l D E F,.l w x y,.p (some (ad Q 0)),.l z A G,.i B,.i t,.l S M T,.i (M:Int),.i 0] λI R=>∀b c d e f g h j k m n o q r v s a C,I [.l b c d,.l e f g,.p (some h),.l j k m,.i n,.i o,.l q r v,.i s,.i a] C->(br (decide (a<s)) (iV q r a 14 λa3=>aJ a3 14 λzU=>mk dV λJ=>bA 14 (ad J 0) zU (aJ (ad J 0) 2 λDx=>aJ h 2 λBw=>rz [.u 0,.u 0] Dx Bw λb1=>br b1 (aJ (ad J 0) 14 λIh=>HE 14 Ih λr3=>iz 14 112 dV e f g (ah r3) 1 λHT HR EB=>(ct I R [.l b c d,.l HT HR EB,.p (some h),.l j k m,.i n,.i o,.l q r v,.i s,.i (aa.wrap (a+1))] [.l b c d,.l e f g,.p (some h),.l j k m,.i n,.i o,.l q r v,.i s,.i a] C)) ((ct I R [.l b c d,.l e f g,.p (some h),.l j k m,.i n,.i o,.l q r v,.i s,.i (aa.wrap (a+1))] [.l b c d,.l e f g,.p (some h),.l j k m,.i n,.i o,.l q r v,.i s,.i a] C)))) ((ct P X [.l b c d,.l e f g,.l j k m,.i n,.i (aa.wrap (o+1))] [.l D E F,.l w x y,.l z A G,.i B,.i t] H))) C))) (K (.l w x y))) H)
def lA(S:OA)(M T:Nat)(V:OA)(O W:Nat)(K:VK):WK:=(lp [.l none 0 0,.l none 0 0,.l V O W,.i (O:Int),.i 0] λP X=>∀D E F w x y z A G B t H,P [.l D E F,.l w x y,.l z A G,.i B,.i t] H->(br (decide (t<B)) (iV z A t 2 λY=>aJ Y 2 λZ=>mk [.u 0,.u 0] λQ=>bA 2 (ad Q 0) Z ((lp [.l D E F,.l w x y,.p (some (ad Q 0)),.l z A G,.i B,.i t,.l S M T,.i (M:Int),.i 0] λI R=>∀b c d e f g h j k m n o q r v s a C,I [.l b c d,.l e f g,.p (some h),.l j k m,.i n,.i o,.l q r v,.i s,.i a] C->(br (decide (a<s)) (iV q r a 33 λa3=>aJ a3 33 λzU=>mk cG λJ=>bA 33 (ad J 0) zU (aJ (ad J 16) 2 λDx=>aJ h 2 λBw=>rz [.u 0,.u 0] Dx Bw λb1=>br b1 (aJ (ad J 16) 16 λIh=>HE 16 Ih λr3=>iz 16 128 iA e f g (ah r3) 1 λHT HR EB=>(ct I R [.l b c d,.l HT HR EB,.p (some h),.l j k m,.i n,.i o,.l q r v,.i s,.i (aa.wrap (a+1))] [.l b c d,.l e f g,.p (some h),.l j k m,.i n,.i o,.l q r v,.i s,.i a] C)) ((ct I R [.l b c d,.l e f g,.p (some h),.l j k m,.i n,.i o,.l q r v,.i s,.i (aa.wrap (a+1))] [.l b c d,.l e f g,.p (some h),.l j k m,.i n,.i o,.l q r v,.i s,.i a] C)))) ((ct P X [.l b c d,.l e f g,.l j k m,.i n,.i (aa.wrap (o+1))] [.l D E F,.l w x y,.l z A G,.i B,.i t] H))) C))) (K (.l w x y))) H)
def bR.j3(K:VK)(o:Nat)(a:OA)(b c:Nat)(k:LI)(d:Addr)(e:OA)(f g:Nat)(h j:Int)(m:LM)(n:World)(q:Bool):WK:=br q (aJ (ad o 0) 16 λr=>HE 16 r λs=>iz 16 128 iA a b c (ah s) 1 λt u v=>(ct k m [.p (some d),.l e f g,.l t u v,.i h,.i (aa.wrap (j+1))] [.p (some d),.l e f g,.l a b c,.i h,.i j] n)) ((ct k m [.p (some d),.l e f g,.l a b c,.i h,.i (aa.wrap (j+1))] [.p (some d),.l e f g,.l a b c,.i h,.i j] n))
def bR.j4(K:VK)(b:Nat)(c:OA)(d e:Nat)(f:LI)(a:Addr)(g:OA)(h i:Nat)(j k:Int)(l:LM)(m:World)(n:Bool):WK:=br n (bR.j3 K b c d e f a g h i j k l m true) (lT (a.add 5) λo=>br o (aJ (ad b 4) 2 λp=>aJ a 2 λq=>rz [.u 0,.u 0] p q λr=>bR.j3 K b c d e f a g h i j k l m r) (bR.j3 K b c d e f a g h i j k l m false))
def bR.j2(K:VK)(k:LI)(a:Addr)(b:OA)(c d:Nat)(e:OA)(f g:Nat)(h j:Int)(m:LM)(n:World)(o:Nat)(q:Bool):WK:=br q ((ct k m [.p (some a),.l b c d,.l e f g,.i h,.i (aa.wrap (j+1))] [.p (some a),.l b c d,.l e f g,.i h,.i j] n)) (lT (a.add 4) λr=>br r (aJ (ad o 2) 2 λs=>aJ a 2 λt=>rz [.u 0,.u 0] s t λv=>bR.j4 K o e f g k a b c d h j m n v) (bR.j4 K o e f g k a b c d h j m n false))
def bR.j5(K:VK)(c:LI)(a:Addr)(d:OA)(e f:Nat)(g:OA)(b h:Nat)(i j:Int)(k:LM)(l:World)(m:Nat)(n:Bool):WK:=br n (bR.j2 K c a d e f g b h i j k l m true) (lI (a.add 7) λo=>bR.j2 K c a d e f g b h i j k l m (decide ((b:Int)>=o)))
def bR.j1(K:VK)(n:Nat)(a:Addr)(c:LI)(d:OA)(e f:Nat)(g:OA)(h i:Nat)(j k:Int)(l:LM)(m:World):WK:=aJ (ad n 16) 16 λo=>mk iA λb=>bA 16 (ad b 0) o (lI (ad b 14) λp=>lI (a.add 2) λq=>br (decide (p<q)) (bR.j2 K c a d e f g h i j k l m b true) (lI (a.add 3) λr=>br (r !=0) (lI (ad b 14) λs=>lI (a.add 3) λt=>bR.j5 K c a d e f g h i j k l m b (decide (s>t))) (bR.j5 K c a d e f g h i j k l m b false)))
def bR(q:OA)(b z:Nat)(s:LV)(K:VK):WK:=mk s λt=>(lp [.p (some (ad t 0)),.l none 0 0,.l none 0 0,.i (b:Int),.i 0] λk r=>∀c m n o d e f g a h,k [.p (some c),.l m n o,.l d e f,.i g,.i a] h->(br (decide (a<g)) (iV q b a 33 λu=>aJ u 33 λv=>mk cG λj=>bA 33 (ad j 0) v (lT (c.add 6) λw=>br w (iV q b (aa.wrap ((aa.wrap ((b:Int) -1)) -a)) 33 λx=>aJ x 33 λy=>bA 33 (ad j 0) y (bR.j1 K j c k m n o d e f g a r h)) (bR.j1 K j c k m n o d e f g a r h))) (K (.l d e f))) h)
def oa(e:OA)(f g:Nat)(b:OA)(c d:Nat)(h:LV)(K:VK):WK:=mk h λa=>aJ (ad a 0) 13 λj=>bl j (xB λk=>br (!k) (K (.tuple ⟨[.l none 0 0,.l none 0 0,.i 1]⟩)) (lI (ad a 0) λm=>br (m==4) (lL (ad a 4) λn o p=>ma e f g n o p (xL λq r s=>K (.tuple ⟨[.l q r s,.l none 0 0,.i 0]⟩))) (lI (ad a 0) λt=>br (t==5) (lL (ad a 4) λu v w=>lA b c d u v w (xL λx y z=>K (.tuple ⟨[.l none 0 0,.l x y z,.i 0]⟩))) (aJ (ad a 5) 8 λA=>bR b c d A (xL λB C D=>K (.tuple ⟨[.l none 0 0,.l B C D,.i 0]⟩))))))
def il(k:OA)(K:VK):WK:=nn k λn=>lL n λv o w=>(lp [.l none 0 0,.l none 0 0,.i (o:Int),.i 0] λm p=>∀f g h b c d e a j,m [.l f g h,.l b c d,.i e,.i a] j->(br (decide (a<e)) (au k a (xA 14 λq=>HE 14 q λr=>iz 14 112 dV b c d (ah r) 1 λs t u=>(ct m p [.l f g h,.l s t u,.i e,.i (aa.wrap (a+1))] [.l f g h,.l b c d,.i e,.i a] j))) (K (.l b c d))) j)
def cT.j1(K:VK)(k:Nat)(l p:OA)(m:Nat)(q:OA)(r:Bool):WK:=br r (K (.b false)) ((lp [.b false,.i (k:Int),.i 0] λn s=>∀d e a g,n [.b d,.i e,.i a] g->(br (decide (a<e)) (tick (nn l λt=>lL t λu v M=>iV u v a 14 λw=>aJ w 14 λx=>iV p k a 14 λy=>aJ y 14 λz=>rz dV x z λA=>br (!A) (K (.b false)) ((ct n s [.b d,.i e,.i (aa.wrap (a+1))] [.b d,.i e,.i a] g)))) ((lp [.b d,.i (m:Int),.i 0] λo B=>∀h f c j,o [.b h,.i f,.i c] j->(br (decide (c<f)) (tick (nn l λC=>lL (C.add 1) λD E O=>iV D E c 33 λF=>aJ F 33 λG=>iV q m c 33 λH=>aJ H 33 λI=>rz cG G I λJ=>br (!J) (K (.b false)) ((ct o B [.b h,.i f,.i (aa.wrap (c+1))] [.b h,.i f,.i c] j)))) (K (.b true))) j))) g))
def cT.j3(K:VK)(b:Nat)(a c:OA)(d:Nat)(e:OA)(f:Int)(g:Bool):WK:=br g (cT.j1 K b a c d e true) (nn a λh=>lI (h.add 3) λi=>cT.j1 K b a c d e (i !=f))
def cT.j2(K:VK)(b:Nat)(a c:OA)(d:Nat)(e:OA)(f g:Int)(h:Bool):WK:=br h (cT.j3 K b a c d e f true) (nn a λi=>lI (i.add 2) λj=>cT.j3 K b a c d e f (j !=g))
def cT(a d:OA)(b l:Nat)(e:OA)(c m:Nat)(f g:Int)(K:VK):WK:=nn a λh=>lL h λn i o=>br ((i:Int)!=(b:Int)) (cT.j2 K b a d c e g f true) (nn a λj=>lL (j.add 1) λp k q=>cT.j2 K b a d c e g f ((k:Int)!=(c:Int)))
def kS(a m:OA)(n o:Nat)(p:OA)(q r:Nat)(s t:Int)(K:VK):WK:=tick (nn a λc=>lL (c.add 1) λd e f=>nn a λg=>lI (g.add 2) λh=>nn a λj=>lI (j.add 3) λk=>il a (xL λu v w=>kp (j.add 3) [.i k] (kp (g.add 2) [.i h] (kp (c.add 1) [.l d e f] (cu (1=1/\(1=1/\(1=1/\(1=1/\True)))) (mk [.l u v w,.l d e f,.i h,.i k] λx=>kp (j.add 3) [.i k] (kp (g.add 2) [.i h] (kp (c.add 1) [.l d e f] (cT (some (ad x 0)) m n o p q r s t (xB λy=>K (.b y)))))))))))
def xF(b:OA)(f:LV)(K:VK):WK:=mk f λc=>mk XB λa=>br (b.isNone) (cu (1=1/\True) (cu (4=4) (kj (ad a 0) [.i 2,.l none 0 0,.l none 0 0,.l none 0 0] (aJ (ad a 0) 4 λg=>K (.agg ⟨g⟩))))) (aJ (ad c 0) 13 λh=>ue h (xB λj=>br (!j) (cu (1=1/\True) (cu (4=4) (kj (ad a 0) [.i 1,.l none 0 0,.l none 0 0,.l none 0 0] (aJ (ad a 0) 4 λk=>K (.agg ⟨k⟩))))) (mk XB λd=>lI (ad c 0) λe=>br (e==1) (lL (ad c 1) λm n o=>sy b m n o (xL λp q r=>st (ad d 1) (.l p q r) (l9 b (x0 (aJ (ad d 0) 4 λs=>bA 4 (ad a 0) s (aJ (ad a 0) 4 λt=>K (.agg ⟨t⟩))))))) (br (e==2) (lL (ad c 2) λu v w=>rB b u v w (xL λx y z=>st (ad d 1) (.l x y z) (l9 b (x0 (aJ (ad d 0) 4 λA=>bA 4 (ad a 0) A (aJ (ad a 0) 4 λB=>K (.agg ⟨B⟩))))))) (lI (ad c 3) λC=>u0 b C (xI .i64 λF=>l9 b (x0 (aJ (ad d 0) 4 λD=>bA 4 (ad a 0) D (aJ (ad a 0) 4 λE=>K (.agg ⟨E⟩))))))))))
def m9.j1(K:VK)(k:Nat)(a:OA)(m:LI)(b:OA)(c:Int)(d:Addr)(e:OA)(f g:Nat)(h j:Int)(n:LM)(o:World)(q:Bool):WK:=br q (K (.tuple ⟨[.p none,.i 4]⟩)) (aJ (ad k 0) 13 λr=>xF a r (xA 4 λs=>(ct m n [.p b,.i c,.p a,.p (some d),.l e f g,.i h,.i (aa.wrap (j+1))] [.p b,.i c,.p a,.p (some d),.l e f g,.i h,.i j] o)))
def m9(a:OA)(K:VK):WK:=br (a.isNone) (K (.tuple ⟨[.p none,.i 2]⟩)) (fO a (xI .i64 λA=>uJ A (x2 λB C=>(xA 5 λD=>(xI .i64 λt=>mk zi5 λc=>bA 5 (ad c 0) D (br (t !=0) (K (.tuple ⟨[.p none,.i t]⟩)) (aJ (ad c 0) 5 λE=>yc a E (x3 λF G H=>(xP λu=>(xA 4 λI=>(xI .i64 λv=>mk zi4 λm=>bA 4 (ad m 0) I (br (v !=0) (K (.tuple ⟨[.p none,.i v]⟩)) (lI (ad c 3) λJ=>lI (ad c 4) λM=>lI (ad m 3) λO=>lq a J M O (x3 λP Q R=>(xP λS=>(xL λT w V=>(xI .i64 λx=>br (x !=0) (K (.tuple ⟨[.p none,.i x]⟩)) (aJ (ad c 0) 5 λy=>lI (ad m 0) λW=>cu (1=1/\(y.length=5/\(1=1/\(1=1/\(1=1/\True))))) (mk (([.p a]:LV)++(y++([.p u,.p S,.i W,.b false]:LV))) λX=>(lp [.p none,.i 0,.p u,.p (some (ad X 0)),.l T w V,.i (w:Int),.i 0] λn z=>∀o q r e f g s h d j,n [.p o,.i q,.p r,.p (some e),.l f g s,.i h,.i d] j->(br (decide (d<h)) (iV f g d 1 λY=>lS Y λZ=>kF Z (x2 λv9 v10=>(xA 13 λIh=>(xI .i64 λDZ=>mk mO λk=>bA 13 (ad k 0) Ih (br (DZ !=0) (m9.j1 K k r n o q e f g s h d z j true) (aJ (ad k 0) 13 λPt=>ri Pt (xB λb2=>m9.j1 K k r n o q e f g s h d z j (!b2))))) v10) v9)) (K (.tuple ⟨[.p (some e),.i 0]⟩))) j)))) R) Q) P)))) H) G) F)))) C) B)))
def m8(b:OA)(f:LV)(K:VK):WK:=mk f λc=>mk XB λa=>br (b.isNone) (cu (1=1/\True) (cu (4=4) (kj (ad a 0) [.i 2,.l none 0 0,.l none 0 0,.l none 0 0] (aJ (ad a 0) 4 λg=>K (.agg ⟨g⟩))))) (aJ (ad c 0) 13 λh=>ri h (xB λj=>br (!j) (tick (nn b λk=>lP (k.add 6) λm=>aJ (ad c 0) 13 λn=>KQ m n (xA 4 λo=>bA 4 (ad a 0) o (aJ (ad a 0) 4 λp=>K (.agg ⟨p⟩))))) (aJ (ad c 0) 13 λq=>xZ q (x2 λr s=>(xS λt=>(xI .i64 λd=>br (d !=0) (cu (1=1/\True) (cu (4=4) (kj (ad a 0) [.i d,.l none 0 0,.l none 0 0,.l none 0 0] (aJ (ad a 0) 4 λu=>K (.agg ⟨u⟩))))) (nn b λv=>lT (v.add 9) λw=>br w (cu (1=1/\True) (cu (4=4) (kj (ad a 0) [.i 9,.l none 0 0,.l none 0 0,.l none 0 0] (aJ (ad a 0) 4 λx=>K (.agg ⟨x⟩))))) (jJ b t (xI .i64 λe=>br (e !=0) (cu (1=1/\True) (cu (4=4) (kj (ad a 0) [.i e,.l none 0 0,.l none 0 0,.l none 0 0] (aJ (ad a 0) 4 λy=>K (.agg ⟨y⟩))))) (tick (nn b λz=>lP (z.add 6) λA=>aJ (ad c 0) 13 λB=>xF A B (xA 4 λC=>bA 4 (ad a 0) C (aJ (ad a 0) 4 λD=>K (.agg ⟨D⟩))))))))) s) r))))
end Go.Prog
namespace Go.Up
open Go.Sep Go.Den Go.RowKit Go.Prog Go.Md Go.cF
structure kh where
 op:Int
 aB:List bJ
 cy:List cM
 now:Int
 ids:List Nat
 yY:Nat
 kA:Int
 yB:Int
 xE:Bool
 uD:Bool
 q9:Bool
 lu:Int
structure wK where
 sa:OA
 ca:Nat
 st:OA
 ct:Nat
 si:OA
 ci:Nat
def qk(q:kh):LV:=nm q.yY++[.i q.kA,.i q.yB,.b q.xE,.b q.uD,.b q.q9,.i q.lu]
def gX(q:kh)(s:wK):LV:=[.i q.op,.l s.sa q.aB.length s.ca,.l s.st q.cy.length s.ct,.i q.now,.l s.si q.ids.length s.ci]++qk q
def UL(q:kh)(s:wK):(gX q s).length=13:=rfl
instance{q:kh}{s:wK}:Ln (gX q s) 13:=⟨rfl⟩
instance{q:kh}:Ln (qk q) 8:=⟨rfl⟩
instance{q:kh}{s:wK}:Gt (gX q s) 0 (.i q.op):=⟨rfl⟩
instance{q:kh}{s:wK}:Gt (gX q s) 1 (.l s.sa q.aB.length s.ca):=⟨rfl⟩
instance{q:kh}{s:wK}:Gt (gX q s) 2 (.l s.st q.cy.length s.ct):=⟨rfl⟩
instance{q:kh}{s:wK}:Gt (gX q s) 3 (.i q.now):=⟨rfl⟩
instance{q:kh}{s:wK}:Gt (gX q s) 4 (.l s.si q.ids.length s.ci):=⟨rfl⟩
instance{q:kh}:Gt (qk q) 2 (.i q.kA):=⟨rfl⟩
instance{q:kh}:Gt (qk q) 3 (.i q.yB):=⟨rfl⟩
instance{q:kh}:Gt (qk q) 4 (.b q.xE):=⟨rfl⟩
instance{q:kh}:Gt (qk q) 5 (.b q.uD):=⟨rfl⟩
instance{q:kh}:Gt (qk q) 6 (.b q.q9):=⟨rfl⟩
instance{q:kh}:Gt (qk q) 7 (.i q.lu):=⟨rfl⟩
instance{L:LH}{X:WK}{r o:Nat}{q:kh}{s:wK}{cs:LV}{f:LV->LH}[i:Lc (Sep.pt r) L cs f][s2:Sub cs o 13 (gX q s)]:Wk L (kp ⟨r,o,none⟩ (gX q s) X) L X:=⟨λ_ h=>Un (n:=13) h⟩
def B9(q:kh)(s:wK):∀v∈gX q s,v.oneCell'=true:=λv h=>by
 simp[gX,qk,nm] at h;rcases h with rfl|rfl|rfl|rfl|rfl|rfl|rfl|rfl|rfl|rfl|rfl|rfl|rfl<;>rfl
instance{q:kh}{s:wK}:Sub (gX q s) 0 13 (gX q s):=⟨rfl,λj v h=>by rw[aC];exact h⟩
instance{q:kh}{s:wK}:Sub (gX q s) 5 8 (qk q):=⟨rfl,λj v h=>by
 show([_,_,_,_,_]++qk q)[5+j]?=some v
 rw[iW (by simp)];simpa using h⟩
instance{x1 x2 x3 x4 x5 x6 x7 x8 x9 Fz Fy Fx Fw:Value}{q:kh}{s:wK}:Wr [x1,x2,x3,x4,x5,x6,x7,x8,x9,Fz,Fy,Fx,Fw] 0 (gX q s) (gX q s):=⟨rfl,aH _,B9 q s⟩
def mZ.mono{α:Type}{W:World}{R R':LH}{g:α->LV}{e:Nat}{s:OA}{l:List α}[h:Has R R'](hr:mZ W R g e s l):mZ W R' g e s l:=λw hw=>hr w (h.sub hw)
structure qf(W:World)(R:LH)(q:kh)(s:wK):Prop where
 aB:mZ W R aL 14 s.sa q.aB
 cy:mZ W R aM 16 s.st q.cy
 ids:mZ W R nm 2 s.si q.ids
 ca:q.aB.length<=s.ca
 ct:q.cy.length<=s.ct
 ci:q.ids.length<=s.ci
def sg(e:Int)(rb:OA)(rn rc:Nat)(ab:OA)(an ac:Nat)(tb:OA)(tn tc:Nat):LV:=[.i e,.l rb rn rc,.l ab an ac,.l tb tn tc]
instance{e:Int}{rb ab tb:OA}{rn rc an ac tn tc:Nat}:Ln (sg e rb rn rc ab an ac tb tn tc) 4:=⟨rfl⟩
instance{e:Int}{rb ab tb:OA}{rn rc an ac tn tc:Nat}:Gt (sg e rb rn rc ab an ac tb tn tc) 0 (.i e):=⟨rfl⟩
instance{e:Int}{rb ab tb:OA}{rn rc an ac tn tc:Nat}:Gt (sg e rb rn rc ab an ac tb tn tc) 1 (.l rb rn rc):=⟨rfl⟩
instance{e:Int}{rb ab tb:OA}{rn rc an ac tn tc:Nat}:Gt (sg e rb rn rc ab an ac tb tn tc) 2 (.l ab an ac):=⟨rfl⟩
instance{e:Int}{rb ab tb:OA}{rn rc an ac tn tc:Nat}:Gt (sg e rb rn rc ab an ac tb tn tc) 3 (.l tb tn tc):=⟨rfl⟩
def F8{e:Int}{rb:OA}{rn rc:Nat}{ab:OA}{an ac:Nat}{tb:OA}{tn tc:Nat}:∀v∈sg e rb rn rc ab an ac tb tn tc,v.oneCell'=true:=λv h=>by
 simp[sg] at h;rcases h with rfl|rfl|rfl|rfl<;>rfl
instance{x1 x2 x3 x4:Value}{e:Int}{rb:OA}{rn rc:Nat}{ab:OA}{an ac:Nat}{tb:OA}{tn tc:Nat}:Wr [x1,x2,x3,x4] 0 (sg e rb rn rc ab an ac tb tn tc) (sg e rb rn rc ab an ac tb tn tc):=⟨rfl,aH _,F8⟩
instance{x1 x2 x3 x4:Value}{e:Int}{rb:OA}{rn rc:Nat}{ab:OA}{an ac:Nat}{tb:OA}{tn tc:Nat}:Wr [x1,x2,x3,x4] 0 [.i e,.l rb rn rc,.l ab an ac,.l tb tn tc] (sg e rb rn rc ab an ac tb tn tc):=⟨rfl,aH _,F8⟩
instance{e:Int}{rb:OA}{rn rc:Nat}{ab:OA}{an ac:Nat}{tb:OA}{tn tc:Nat}:Sub (sg e rb rn rc ab an ac tb tn tc) 0 4 (sg e rb rn rc ab an ac tb tn tc):=⟨rfl,λj v h=>by rw[aC];exact h⟩
instance{e:Int}{rb:OA}{rn rc:Nat}{ab:OA}{an ac:Nat}{tb:OA}{tn tc:Nat}:Sub [.i e,.l rb rn rc,.l ab an ac,.l tb tn tc] 0 4 (sg e rb rn rc ab an ac tb tn tc):=⟨rfl,λj v h=>by rw[aC];exact h⟩
def lZ(q:kh):Bool:=
 if q.op=1 then decide (1<=q.aB.length)&&decide (q.aB.length<=8) else if q.op=2 then decide (1<=q.cy.length)&&decide (q.cy.length<=8) else if q.op=3 then decide (0<=q.now)&&decide (q.now<=1099511627776) else false
def gJ(q:kh):Bool:=decide (q.op=1\/q.op=2\/q.op=3)
def bo(m:aA):aZ:=⟨m.cE.map (Md.full m.ax),m.ax,m.clock,m.ay⟩
def qK(m:aA):pC (bo m) m:=⟨rfl,rfl,rfl,rfl⟩
def J4{b:aZ}{m:aA}(h:pC b m):b=bo m:=by
 obtain⟨h1,h2,h3,h4⟩:=h;cases b
 simp only at h1 h2 h3 h4;subst h1 h2 h3 h4;rfl
def bI(m:aA)(q:kh):Int×List Int×aA:=
 if lZ q=false then(1,[],m)
 else if q.op=1 then(0,iC aA.make BJ q.aB.length m q.aB)
 else if q.op=2 then(0,iC aA.rA BH q.cy.length m q.cy)
 else(0,[],m.time q.now)
def LN{m:aA}(hg:Md.bK m)(l:List bJ)(n:Nat):(iC aZ.make BJ n (bo m) l).1=(iC aA.make BJ n m l).1/\(iC aZ.make BJ n (bo m) l).2=bo (iC aA.make BJ n m l).2/\Md.bK (iC aA.make BJ n m l).2:=by
 obtain⟨h1,h2⟩:=B5 (f:=aZ.make) (g:=aA.make) (R:=λ(b:aZ)(m:aA)=>pC b m/\Md.bK m) BJ (λs t x h=>h.1.make h.2) n l (bo m) m ⟨qK m,hg⟩;exact⟨h1,J4 h2.1,h2.2⟩
def Qu{m:aA}(hg:Md.bK m)(l:List cM)(n:Nat):(iC aZ.rA BH n (bo m) l).1=(iC aA.rA BH n m l).1/\(iC aZ.rA BH n (bo m) l).2=bo (iC aA.rA BH n m l).2/\Md.bK (iC aA.rA BH n m l).2:=by
 obtain⟨h1,h2⟩:=B5 (f:=aZ.rA) (g:=aA.rA) (R:=λ(b:aZ)(m:aA)=>pC b m/\Md.bK m) BH (λs t x h=>h.1.rA h.2) n l (bo m) m ⟨qK m,hg⟩;exact⟨h1,J4 h2.1,h2.2⟩
section
variable {W:World} {L R:LH} {K:VK} {X:WK} {p:Nat} {q:kh} {s:wK}
def T.abh{A B C D:HP}(h:T W (D::A::B::C::R) X):T W (A::B::C::D::R) X:=T.perm h (bp (l₁:=[A,B,C]) (l₂:=[D])|>.append_right R)
def Rs(h:T W L (K (.b (lZ q)))):T W L (ue (gX q s) K):=by
 unfold ue;apply ws;intros;apply dj<;>intro g1
 ·have g1:q.op=1:=by simpa using g1
  unfold lZ at h;rw[ai g1] at h;apply ws;intros;apply ga<;>intro g2
  ·rw[av (by omega),eG] at h;apply ws;intros;refine T.fin (T.dp h) ?_;congr 1;rw[decide_eq_decide];omega
  ·rw[ar (by omega),fV] at h;exact T.dp h
 have g1: ¬q.op=1:=by simpa using g1
 apply dj<;>intro g2
 ·have g2:q.op=2:=by simpa using g2
  unfold lZ at h;rw[ag g1,ai g2] at h;apply ws;intros;apply ga<;>intro g2
  ·rw[av (by omega),eG] at h;apply ws;intros;refine T.fin (T.dp h) ?_;congr 1;rw[decide_eq_decide];omega
  ·rw[ar (by omega),fV] at h;exact T.dp h
 have g2: ¬q.op=2:=by simpa using g2
 unfold lZ at h;rw[ag g1,ag g2] at h;apply dj<;>intro g3
 ·have g3:q.op=3:=by simpa using g3
  rw[ai g3] at h;apply ws;intros;apply ga<;>intro g2
  ·rw[av (by omega),eG] at h;apply ws;intros;exact T.dp h
  ·rw[ar (by omega),fV] at h;exact T.dp h
 have g3: ¬q.op=3:=by simpa using g3
 rw[ag g3] at h;exact T.dp h
def Dv(h:T W L (K (.b (gJ q)))):T W L (ri (gX q s) K):=by
 unfold ri;unfold gJ at h;apply ws;intros;apply dj<;>intro g1
 ·have g1:q.op=1:=by simpa using g1
  rw[av (.inl g1)] at h;exact T.dp h
 have g1: ¬q.op=1:=by simpa using g1
 apply ws;intros;apply dj<;>intro g2
 ·have g2:q.op=2:=by simpa using g2
  rw[av (.inr (.inl g2))] at h;exact T.dp h
 have g2: ¬q.op=2:=by simpa using g2
 apply ws;intros;refine T.fin (T.dp h) ?_
 congr 1
 rw[cf];simp[g1,g2]
def F3{b:aZ}{hs:List C}{f:aZ×List C->LH}[i:Lc (cL p) L (b,hs) f](hl:hs.length<1000000)(h:T W (f (b,[])) (K (.tuple ⟨[]⟩))):T W L (l9 (ah p) K):=λw hw=>by
 obtain⟨k,hk,e1⟩:=i.at_;have h1:=hw.focus hk;obtain⟨hg,h2⟩:=h1.and;refine(show T W (cP p (fY b,hs)::L.eraseIdx k) _ from ?_) w h2;unfold l9;apply ws;intros;refine ZO (p:=p) hl ?_;apply ws;intros;intro w2 hw2;refine h w2 ?_;rw[e1];exact St.rZ (A:=cL p (b,hs)) (St.and_intro hg hw2) hk
def M4(G:mY W){m:aA}(hg:Md.bK m)(hq:qf W R q s)(hA:q.op=1->∀a∈q.aB,xR a)(hT:q.op=2->∀t∈q.cy,TOk t)
 (h:∀rb rc,Md.bK (bI m q).2.2->T W (cL p (bo (bI m q).2.2,[])::own rb (bI m q).2.1.length rc 1 ((bI m q).2.1.flatMap I1)::R) (K (.agg ⟨sg (bI m q).1 rb (bI m q).2.1.length rc none 0 0 none 0 0⟩))):
 T W (cL p (bo m,[])::R) (xF (ah p) (gX q s) K):=by
 unfold xF
 repeat' first|apply ws;intros|apply wb|with_reducible refine Rs ?_|fail
 cases ge:lZ q with
 |false=>
  have e:bI m q=(1,[],m):=by unfold bI;rw[ai ge]
  rw[e] at h;apply ws;intros;refine T.drop (T.drop ?_);refine iB (e:=1) ?_;exact T.perm (h none 0 hg) (bZ.swap _ _ _)
 |true=>
  apply ws;intros;apply dj<;>intro g1
  ·have g1:q.op=1:=by simpa using g1
   have e:bI m q=(0,iC aA.make BJ q.aB.length m q.aB):=by unfold bI;rw[ag (by rw[ge];decide),ai g1]
   rw[e] at h;dsimp only at h;have hlen:1<=q.aB.length/\q.aB.length<=8:=by
    unfold lZ at ge;rw[ai g1] at ge;simpa using ge
   obtain⟨s1,s2,s3⟩:=LN hg q.aB q.aB.length;apply ws;intros;refine T.abh ?_;refine abf G (hs:=[]) (R:=_::_::_::R) hq.aB.mono hq.ca (hA g1) ⟨m,qK m,hg⟩ (by omega) (by show 0+_<_;omega) λr fM NV his hln=>?_;rw[s1,s2];rw[s1] at hln;apply ws;intros;refine F3 (p:=p) (by have:fM.length<=0+_:=NV;omega) ?_;apply ws;intros;have:=h (ah r) q.aB.length s3;rw[hln] at this;refine T.sub this ?_;exact qo
  have g1: ¬q.op=1:=by simpa using g1
  apply dj<;>intro g2
  ·have g2:q.op=2:=by simpa using g2
   have e:bI m q=(0,iC aA.rA BH q.cy.length m q.cy):=by unfold bI;rw[ag (by rw[ge];decide),ag g1,ai g2]
   rw[e] at h;dsimp only at h;have hlen:1<=q.cy.length/\q.cy.length<=8:=by
    unfold lZ at ge;rw[ag g1,ai g2] at ge;simpa using ge
   obtain⟨s1,s2,s3⟩:=Qu hg q.cy q.cy.length;apply ws;intros;refine T.abh ?_;refine abe G (hs:=[]) (R:=_::_::_::R) hq.cy.mono hq.ct (hT g2) ⟨m,qK m,hg⟩ (by omega) (by show 0+_<_;omega) λr fM NV his hln=>?_;rw[s1,s2];rw[s1] at hln;apply ws;intros;refine F3 (p:=p) (by have:fM.length<=0+_:=NV;omega) ?_;apply ws;intros;have:=h (ah r) q.cy.length s3;rw[hln] at this;refine T.sub this ?_;exact qo
  ·have g2: ¬q.op=2:=by simpa using g2
   have g3:q.op=3/\0<=q.now/\q.now<=1099511627776:=by
    unfold lZ at ge;rw[ag g1,ag g2] at ge;by_cases g3:q.op=3
    ·rw[ai g3] at ge;exact⟨g3,by simpa using ge⟩
    ·rw[ag g3] at ge;cases ge
   have e:bI m q=(0,[],m.time q.now):=by unfold bI;rw[ag (by rw[ge];decide),ag g1,ag g2]
   rw[e] at h;dsimp only at h;apply ws;intros;refine T.abh ?_;intro w hw;refine⟨W,_::_::_::R,p,bo m,m,[],rfl,hw,qK m,hg,by simp,λn b' fM w' BL NZ hl1 hw1=>?_⟩;have hb:=J4 BL;subst hb;refine T.at ?_ hw1;apply ws;intros;refine F3 (p:=p) (by omega) ?_;apply ws;intros;have:=h none 0 NZ;refine iB (e:=1) (T.Ow ?_);refine T.sub this ?_
   repeat (first|exact bj.refl _|apply bj.cons_cons|apply bj.cons)
end
def yq(b:aZ)(p:oC):ch:=(b.ax[p.2.toNat]?).getD zK
def btw(b:aZ)(from_ toX:Int)(yp:Bool):List ch:=
 (if yp then(qR from_ toX (fH 0 b.ax)).reverse else qR from_ toX (fH 0 b.ax)).map (yq b)
def Ga{from_ toX:Int}{l:List oC}{x:oC}(h:x∈qR from_ toX l):x∈l:=List.mem_of_mem_drop (List.mem_of_mem_take h)
def HO{l:List ch}{x:oC}(h:x∈fH 0 l):∃(j:Nat)(k:ch),l[j]?=some k/\x=(k.move.ay,(j:Int)):=by
 obtain⟨j,hj⟩:=qM h;rw[mH] at hj;cases hl:l[j]? with
 |none=>rw[hl] at hj;cases hj
 |some k=>rw[hl] at hj;simp at hj;exact⟨j,k,hl,hj.symm⟩
def jH(k:ch):(bF k).length=33:=rfl
section
variable {W:World} {L R:LH} {K:VK} {X:WK} {p:Nat} {b:aZ} {hs:List C} {f:aZ×List C->LH}
def TE[i:Lc (cL p) L (b,hs) f]{from_ toX:Int}{yp:Bool}(h:∀b' c' out,out=btw b from_ toX yp->T W (own b' out.length c' 33 (out.flatMap bF)::L) (K (.l b' out.length c'))):
 T W L (oE (ah p) from_ toX yp K):=by
 have hL:f (b,hs)=L:=i.same;refine NP (p:=p) λla lk ti tn vs bx R hg hc qj=>?_;have many:=hg.many;unfold oE;refine zv ?_;refine EA ?_;simp only[ig,aC];refine Tn (p:=p) hg.zy (by show(fH 0 b.ax).length<_;rw[mG];omega) λb' c' out ho=>?_;have oB:∀x∈out,∃(j:Nat)(k:ch),b.ax[j]?=some k/\x=(k.move.ay,(j:Int)):=λx hx=>HO (by
  rw[ho] at hx
  split at hx
  ·exact Ga (List.mem_reverse.1 hx)
  ·exact Ga hx)
 have zf:out.length<=96:=by
  have h1:∀x:List oC,x=qR from_ toX (fH 0 b.ax)->x.length<=96:=λx hx=>by
   rw[hx];unfold qR;rw[aD,aT,mG];omega
  rw[ho];split
  ·rw[jC];exact h1 _ rfl
  ·exact h1 _ rfl
 have afN:out.map (yq b)=btw b from_ toX yp:=by rw[ho];rfl
 clear ho;refine um ?_;refine iB (e:=33) ?_;intro w jO;refine⟨λvv w=>∃(i:Nat)(bo:OA)(cc:Nat)(done:List ch),i<=out.length/\done=(out.take i).map (yq b)/\vv=[.l none 0 0,.l bo done.length cc,.l b' out.length c',.i (out.length:Int),.i (i:Int)]/\
  St W w (own bo done.length cc 33 (done.flatMap bF)::own b' out.length c' 2 (out.flatMap pI)::ic p (gP la lk ti tn vs (fY b))::sT aL 14 la (p,(fY b).aB)::sT bF 33 lk (p,(fY b).ax)::pF ti (fY b).pX::pF tn (fY b).iF::xd bx::R),
  λvs _=>match vs with|[_,_,_,_,.int _ d]=>out.length-d.toNat|_=>0,⟨0,none,0,[],aE _,by simp,rfl,jO⟩,?_⟩
 rintro jT jd ku bo pn cc tD sK tC n3 n4 w2 ⟨i,b0,c0,done,hi,lY,e,hO⟩;cases e
 refine T.at ?_ hO;have e5:=nK i;have AW:done.length=i:=by rw[lY,bU,aD];omega
 apply ga<;>intro g1
 ·have bX:i<out.length:=by omega
  have gx:=aj bX;have gm:=bP bX;generalize out[i]=x at gx gm;obtain⟨j,k,hk,rfl⟩:=oB x gm;have hka:yq b (k.move.ay,(j:Int))=k:=by unfold yq;dsimp only;rw[ak,hk];rfl
  have wq:(done++[k])=(out.take (i+1)).map (yq b):=by rw[bg,gx,cY,<-lY];simp[hka]
  refine dL (b:=b') ⟨by omega,by omega⟩ λrb hb=>?_;subst hb;rw[ak];refine gT oM gx ?_
  repeat' first|apply ws;intros|apply wb
  ·refine W8 (l:=lk) (x:=k) hk (by show b.ax.length<_;omega) ?_;apply ws;intros;refine jS (b:=bo) (x:=k) rfl rfl rfl (by omega) (by omega) (ni _) λb2 c2=>?_;rw[e5];refine T.drop (T.drop (T.drop ?_));exact λw3 h3=>⟨⟨i+1,b2,c2,done++[k],bX,wq,by simp,by simpa using h3⟩,by show out.length-((i+1:Nat):Int).toNat<out.length-(i:Int).toNat;omega⟩
  ·refine W8 (l:=lk) (x:=k) hk (by show b.ax.length<_;omega) ?_;apply ws;intros;refine jS (b:=bo) (x:=k) rfl rfl rfl (by omega) (by omega) (ni _) λb2 c2=>?_;rw[e5];refine T.drop (T.drop (T.drop ?_));exact λw3 h3=>⟨⟨i+1,b2,c2,done++[k],bX,wq,by simp,by simpa using h3⟩,by show out.length-((i+1:Nat):Int).toNat<out.length-(i:Int).toNat;omega⟩
 ·have jk:i=out.length:=by omega
  subst jk;rw[aS] at lY;have:=qj [_] b hs vs bx _ hg hc (by rw[hL];exact h bo cc done (lY.trans afN));refine T.sub this ?_;exact qo
def acw[i:Lc (cL p) L (b,hs) f][hh:Has R L]{s:OA}{c:Nat}{ids:List Nat}(hr:mZ W R nm 2 s ids)(hl:ids.length<=1000)
 (h:∀b' c' out,out=ids.filterMap b.find->T W (own b' out.length c' 14 (out.flatMap aL)::L) (K (.l b' out.length c'))):T W L (uQ (some ⟨p,0,none⟩) s ids.length c K):=by
 unfold uQ;refine iB (e:=14) ?_;intro w jO;refine⟨λvv w=>∃(i:Nat)(bo:OA)(cc:Nat)(done:List bJ),i<=ids.length/\done=(ids.take i).filterMap b.find/\done.length<=i/\vv=[.l none 0 0,.l bo done.length cc,.l s ids.length c,.i (ids.length:Int),.i (i:Int)]/\
  St W w (own bo done.length cc 14 (done.flatMap aL)::L),
  λvs _=>match vs with|[_,_,_,_,.int _ d]=>ids.length-d.toNat|_=>0,⟨0,none,0,[],aE _,by simp,aH _,rfl,jO⟩,?_⟩
 rintro jT jd ku bo pn cc tD sK tC n3 n4 w2 ⟨i,b0,c0,done,hi,lY,AW,e,hO⟩;cases e
 refine T.at ?_ hO;have e5:=nK i;apply ga<;>intro g1
 ·have bX:i<ids.length:=by omega
  have gx:=aj bX;generalize ids[i]=x at gx;have gM:(ids.take (i+1)).filterMap b.find=done++(b.find x).toList:=by
   rw[bg,gx,List.filterMap_append,<-lY]
   congr 1
  refine iU hr ⟨by omega,by omega⟩ rfl λa ha=>?_;rw[ak];refine jR hr ha gx rfl ?_
  repeat' first|apply ws;intros|apply wb|with_reducible refine xQ (p:=p) ?_|fail
  rw[e5];cases hf:b.find x with
  |none=>
   rw[hf] at gM;simp only[fp,gV];apply ws;intros;refine T.drop (T.drop ?_);exact λw3 h3=>⟨⟨i+1,bo,cc,done,bX,by simp[gM],by omega,rfl,h3⟩,by show ids.length-((i+1:Nat):Int).toNat<ids.length-(i:Int).toNat;omega⟩
  |some a2=>
   rw[hf] at gM;simp only[dG,dE];apply ws;intros;refine jS (b:=bo) (x:=a2) rfl rfl rfl (by omega) (by omega) (iT _) λb2 c2=>?_;refine T.drop (T.drop (T.drop ?_));exact λw3 h3=>⟨⟨i+1,b2,c2,done++[a2],bX,by simpa using gM.symm,by simp;omega,by simp,by simpa using h3⟩,by show ids.length-((i+1:Nat):Int).toNat<ids.length-(i:Int).toNat;omega⟩
 ·have jk:i=ids.length:=by omega
  subst jk;rw[aS] at lY;exact h bo cc done lY
def acv[i:Lc (cL p) L (b,hs) f][hh:Has R L]{s:OA}{c:Nat}{ids:List Nat}(hr:mZ W R nm 2 s ids)(hl:ids.length<=1000)
 (h:∀b' c' out,out=ids.filterMap (λid=>(b.named id).map (·.move))->T W (own b' out.length c' 16 (out.flatMap aM)::L) (K (.l b' out.length c'))):T W L (tJ (some ⟨p,0,none⟩) s ids.length c K):=by
 unfold tJ;refine iB (e:=16) ?_;intro w jO;refine⟨λvv w=>∃(i:Nat)(bo:OA)(cc:Nat)(done:List cM),i<=ids.length/\done=(ids.take i).filterMap (λid=>(b.named id).map (·.move))/\done.length<=i/\vv=[.l none 0 0,.l bo done.length cc,.l s ids.length c,.i (ids.length:Int),.i (i:Int)]/\
  St W w (own bo done.length cc 16 (done.flatMap aM)::L),
  λvs _=>match vs with|[_,_,_,_,.int _ d]=>ids.length-d.toNat|_=>0,⟨0,none,0,[],aE _,by simp,aH _,rfl,jO⟩,?_⟩
 rintro jT jd ku bo pn cc tD sK tC n3 n4 w2 ⟨i,b0,c0,done,hi,lY,AW,e,hO⟩;cases e
 refine T.at ?_ hO;have e5:=nK i;apply ga<;>intro g1
 ·have bX:i<ids.length:=by omega
  have gx:=aj bX;generalize ids[i]=x at gx;have gM:(ids.take (i+1)).filterMap (λid=>(b.named id).map (·.move))=done++((b.named x).map (·.move)).toList:=by
   rw[bg,gx,List.filterMap_append,<-lY]
   congr 1
  refine iU hr ⟨by omega,by omega⟩ rfl λa ha=>?_;rw[ak];refine jR hr ha gx rfl ?_
  repeat' first|apply ws;intros|apply wb|with_reducible refine K3 (p:=p) ?_|fail
  rw[e5];cases hf:b.named x with
  |none=>
   rw[hf] at gM;simp only[fp,gV];apply ws;intros;refine T.drop (T.drop ?_);exact λw3 h3=>⟨⟨i+1,bo,cc,done,bX,by simp[gM],by omega,rfl,h3⟩,by show ids.length-((i+1:Nat):Int).toNat<ids.length-(i:Int).toNat;omega⟩
  |some a2=>
   rw[hf] at gM;simp only[dG,dE];apply ws;intros;refine jS (b:=bo) (x:=a2.move) rfl rfl rfl (by omega) (by omega) (pK _) λb2 c2=>?_;refine T.drop (T.drop (T.drop ?_));exact λw3 h3=>⟨⟨i+1,b2,c2,done++[a2.move],bX,by simpa using gM.symm,by simp;omega,by simp,by simpa using h3⟩,by show ids.length-((i+1:Nat):Int).toNat<ids.length-(i:Int).toNat;omega⟩
 ·have jk:i=ids.length:=by omega
  subst jk;rw[aS] at lY;exact h bo cc done lY
end
instance{q:kh}:Sub (qk q) 0 2 (nm q.yY):=⟨rfl,λj v h=>by
 rw[aC]
 match j with
 |0=>exact h
 |1=>exact h
 |j+2=>simp[nm] at h⟩
instance{k:ch}:Sub (bF k) 18 2 (nm k.move.bw):=⟨rfl,(AE (cs:=bF k) (o:=18) (n:=k.move.bw) rfl rfl).2⟩
instance{k:ch}:Sub (bF k) 20 2 (nm k.move.aP):=⟨rfl,(AE (cs:=bF k) (o:=20) (n:=k.move.aP) rfl rfl).2⟩
def MV(q:kh):∀v∈qk q,v.oneCell'=true:=λv h=>by
 simp[qk,nm] at h;rcases h with rfl|rfl|rfl|rfl|rfl|rfl|rfl|rfl<;>rfl
instance{x1 x2 x3 x4 x5 x6 x7 x8:Value}{q:kh}:Wr [x1,x2,x3,x4,x5,x6,x7,x8] 0 (qk q) (qk q):=⟨rfl,aH _,MV q⟩
def fits(q:kh)(k:ch):Bool:=(q.xE&&decide (k.move.bw=q.yY))||(q.uD&&decide (k.move.aP=q.yY))
def ofL(b:aZ)(q:kh):List cM:=(((btw b q.kA q.yB q.q9).filter (fits q)).take q.lu.toNat).map (·.move)
def DM{α:Type}{P:α->Bool}{l:List α}{i n:Nat}{x:α}(hx:l[i]?=some x):
 ((l.take (i+1)).filter P).take n=if(((l.take i).filter P).take n).length<n then(if P x then((l.take i).filter P).take n++[x] else((l.take i).filter P).take n) else((l.take i).filter P).take n:=by
 rw[bg,hx,List.filter_append];show(_++[x].filter P).take n=_;generalize (l.take i).filter P=A;rw[aD];by_cases h:min n A.length<n
 ·rw[ai h];have hA:A.length<n:=by omega
  by_cases hp:P x=true
  ·rw[ai hp,lQ hp,List.filter_nil,bS (by simp;omega),bS (by omega)]
  ·rw[ag hp,lR hp,List.filter_nil,bO]
 ·rw[ag h,List.take_append_of_le_length (by omega)]
section
variable {W:World} {L R:LH} {K:VK} {X:WK} {p:Nat} {b:aZ} {hs:List C} {f:aZ×List C->LH} {q:kh} {s:wK}
def U3{I1:LV->World->Prop}{lj:LV->World->Nat}{M:LH}{r1 r2 cc sK tC:Nat}{bo tD:OA}{done:List cM}{x:ch}{n3 n4:Int}{w2:World}{g:LV->LH}
 (hA:(done.length<q.lu.toNat/\fits q x=true)->∀b2 c2,T W (own b2 (done.length+1) c2 16 ((done++[x.move]).flatMap aM)::M) (λw3=>I1 [.p (some (ad r1 0)),.l none 0 0,.l b2 (done.length+1) c2,.l tD sK tC,.i n3,.i (aa.wrap (n4+1))] w3/\
  lj [.p (some (ad r1 0)),.l none 0 0,.l b2 (done.length+1) c2,.l tD sK tC,.i n3,.i (aa.wrap (n4+1))] w3<lj [.p (some (ad r1 0)),.l none 0 0,.l bo done.length cc,.l tD sK tC,.i n3,.i n4] w2))
 (hN: ¬(done.length<q.lu.toNat/\fits q x=true)->T W (own bo done.length cc 16 (done.flatMap aM)::M) (λw3=>I1 [.p (some (ad r1 0)),.l none 0 0,.l bo done.length cc,.l tD sK tC,.i n3,.i (aa.wrap (n4+1))] w3/\
  lj [.p (some (ad r1 0)),.l none 0 0,.l bo done.length cc,.l tD sK tC,.i n3,.i (aa.wrap (n4+1))] w3<lj [.p (some (ad r1 0)),.l none 0 0,.l bo done.length cc,.l tD sK tC,.i n3,.i n4] w2))
 [i1:Lc (Sep.pt r1) M (qk q) g](Kr:0<=q.lu/\q.lu<=16)(hd:done.length<=1000):
 T W (Sep.pt r2 (bF x)::own bo done.length cc 16 (done.flatMap aM)::M) (br q.xE (aJ (ad r2 18) 2 λPu=>aJ (ad r1 0) 2 λRt=>rz [.u 0,.u 0] Pu Rt λb8=>nH.j1 K (ad r1 0) r2 done.length bo cc I1 none 0 0 tD sK tC n3 n4 lj w2 b8)
   (nH.j1 K (ad r1 0) r2 done.length bo cc I1 none 0 0 tD sK tC n3 n4 lj w2 false)):=by
 have j3:∀yes:Bool,(yes=true↔done.length<q.lu.toNat/\fits q x=true)->T W (Sep.pt r2 (bF x)::own bo done.length cc 16 (done.flatMap aM)::M) (nH.j3 K r2 bo done.length cc I1 (ad r1 0) none 0 0 tD sK tC n3 n4 lj w2 yes):=λyes hy=>by
  unfold nH.j3;cases yes with
  |true=>
   apply ws;intros;refine jS (b:=bo) (x:=x.move) rfl rfl rfl (by omega) (by omega) (pK _) λb2 c2=>?_;exact T.drop (T.drop (hA (hy.1 rfl) b2 c2))
  |false=>
   apply ws;intros;exact T.drop (hN λhh=>by have:=hy.2 hh;cases this)
 have j2:∀b2 b3:Bool,(b2||b3)=fits q x->T W (Sep.pt r2 (bF x)::own bo done.length cc 16 (done.flatMap aM)::M) (nH.j2 K (ad r1 0) done.length b2 r2 bo cc I1 none 0 0 tD sK tC n3 n4 lj w2 b3):=λb2 b3 hb=>by
  unfold nH.j2;apply ws;intros;apply ga<;>intro g1
  ·cases b2 with
   |true=>
    apply ws;intros;refine j3 true ⟨λ_=>⟨by omega,by rw[<-hb];rfl⟩,λ_=>rfl⟩
   |false=>
    apply ws;intros;rw[Bool.false_or] at hb;refine j3 b3 ⟨λh=>⟨by omega,by rw[<-hb];exact h⟩,λh=>by rw[hb];exact h.2⟩
  ·refine j3 false ⟨λh=>(by cases h),λh=>(by omega)⟩
 have j1:∀b2:Bool,b2=(q.xE&&decide (x.move.bw=q.yY))->T W (Sep.pt r2 (bF x)::own bo done.length cc 16 (done.flatMap aM)::M) (nH.j1 K (ad r1 0) r2 done.length bo cc I1 none 0 0 tD sK tC n3 n4 lj w2 b2):=λb2 hb=>by
  unfold nH.j1;apply ws;intros;cases hc:q.uD with
  |true=>
   apply ws;intros;refine j2 _ _ ?_;unfold fits;rw[hb,hc,eG]
  |false=>
   apply ws;intros;refine j2 _ _ ?_;unfold fits;rw[hb,hc,fV]
 cases Rg:q.xE with
 |true=>
  apply ws;intros;refine j1 _ ?_;rw[Rg,eG]
 |false=>
  apply ws;intros;refine j1 _ ?_;rw[Rg,fV]
def ail[i:Lc (cL p) L (b,hs) f](Kr:0<=q.lu/\q.lu<=16)(h:∀b' c' out,out=ofL b q->T W (own b' out.length c' 16 (out.flatMap aM)::L) (K (.l b' out.length c'))):
 T W L (nH (ah p) (qk q) K):=by
 unfold nH;refine qP (p:=p) λhg=>?_;have many:=hg.many;have adU:(btw b q.kA q.yB q.q9).length<=96:=by
  unfold btw;rw[bU];have h1:(qR q.kA q.yB (fH 0 b.ax)).length<=96:=by unfold qR;rw[aD,aT,mG];omega
  split
  ·rw[jC];exact h1
  ·exact h1
 apply ws;intros;rename_i r1;refine TE (p:=p) λbb bc l hl=>?_;rw[<-hl] at adU;apply ws;intros;refine iB (e:=16) ?_;intro w jO;refine⟨λvv w=>∃(i:Nat)(bo:OA)(cc:Nat)(done:List cM),i<=l.length/\done=(((l.take i).filter (fits q)).take q.lu.toNat).map (·.move)/\done.length<=i/\vv=[.p (some (ad r1 0)),.l none 0 0,.l bo done.length cc,.l bb l.length bc,.i (l.length:Int),.i (i:Int)]/\
                                                                 St W w (own bo done.length cc 16 (done.flatMap aM)::own bb l.length bc 33 (l.flatMap bF)::Sep.pt r1 (qk q)::L),
  λvs _=>match vs with|[_,_,_,_,_,.int _ d]=>l.length-d.toNat|_=>0,⟨0,none,0,[],aE _,by simp,aH _,rfl,jO⟩,?_⟩
 rintro a1 jT jd ku bo pn cc tD sK tC n3 n4 w2 ⟨i,b0,c0,done,hi,lY,AW,e,hO⟩;cases e
 refine T.at ?_ hO;have e5:=nK i;apply ga<;>intro g1
 ·have bX:i<l.length:=by omega
  have gx:=aj bX;generalize l[i]=x at gx;have gM:=DM (P:=fits q) (n:=q.lu.toNat) gx;have xz:done.length=(((l.take i).filter (fits q)).take q.lu.toNat).length:=by rw[lY,bU]
  rw[<-xz] at gM;have wq:(((l.take (i+1)).filter (fits q)).take q.lu.toNat).map (·.move)=if done.length<q.lu.toNat/\fits q x=true then done++[x.move] else done:=by
   rw[gM];by_cases c1:done.length<q.lu.toNat
   ·rw[ai c1];by_cases c2:fits q x=true
    ·rw[ai c2,ai ⟨c1,c2⟩,cY,<-lY];rfl
    ·rw[ag c2,ag (λh=>c2 h.2),<-lY]
   ·rw[ag c1,ag (λh=>c1 h.1),<-lY]
  refine dL (b:=bb) ⟨by omega,by omega⟩ λrb hb=>?_;subst hb;rw[ak];refine gT jH gx ?_;apply ws;intros;rename_i r2;refine U3 (r1:=r1) (r2:=r2) (bo:=bo) (x:=x) (M:=own (ah rb) l.length bc 33 (l.flatMap bF)::Sep.pt r1 (qk q)::L) (λhy b2 c2=>?_) (λhy=>?_) Kr (by omega)
  ·rw[e5];rw[ai hy] at wq;exact λw3 h3=>⟨⟨i+1,b2,c2,done++[x.move],bX,wq.symm,by simp;omega,by simp,by simpa using h3⟩,by show l.length-((i+1:Nat):Int).toNat<l.length-(i:Int).toNat;omega⟩
  ·rw[e5];rw[ag hy] at wq;exact λw3 h3=>⟨⟨i+1,bo,cc,done,bX,wq.symm,by omega,rfl,h3⟩,by show l.length-((i+1:Nat):Int).toNat<l.length-(i:Int).toNat;omega⟩
 ·have jk:i=l.length:=by omega
  subst jk;rw[aS] at lY;have:=h bo cc done (by rw[lY,hl];rfl);refine T.sub this ?_;exact qo
def pO(q:kh):Bool:=
 if q.op=4\/q.op=5 then decide (1<=q.ids.length)&&decide (q.ids.length<=16)
 else if q.op=6 then decide (0<=q.kA/\0<=q.yB/\1<=q.lu/\q.lu<=16)&&(q.xE||q.uD) else false
def ask(m:aA)(q:kh):Int×List bJ×List cM:=
 if pO q=false then(1,[],[])
 else if q.op=4 then(0,q.ids.filterMap (bo m).find,[])
 else if q.op=5 then(0,[],q.ids.filterMap λid=>((bo m).named id).map (·.move))
 else(0,[],ofL (bo m) q)
def NC(h:T W L (K (.b (pO q)))):T W L (iG (gX q s) K):=by
 have main:∀(r1:Nat)(b1:Bool),b1=decide (q.op=4\/q.op=5)->T W (Sep.pt r1 (gX q s)::L) (iG.j1 K r1 q.op b1):=λr1 b1 hb=>by
  unfold iG.j1;unfold pO at h;by_cases Y2:q.op=4\/q.op=5
  ·rw[ai Y2] at h;rw[av Y2] at hb;subst hb;apply ws;intros;apply ga<;>intro g2
   ·rw[av (by omega),eG] at h;apply ws;intros;refine T.fin (T.dp h) ?_;congr 1;rw[decide_eq_decide];omega
   ·rw[ar (by omega),fV] at h;exact T.dp h
  ·rw[ag Y2] at h;rw[ar Y2] at hb;subst hb;rw[eK];apply dj<;>intro g6
   ·have g6:q.op=6:=by simpa using g6
    rw[ai g6] at h;apply ws;intros;rename_i r2;have j4:∀b4:Bool,b4=decide (0<=q.kA/\0<=q.yB/\1<=q.lu/\q.lu<=16)->T W (Sep.pt r2 (qk q)::Sep.pt r1 (gX q s)::L) (iG.j4 K r2 b4):=λb4 h4=>by
     unfold iG.j4;rw[<-h4] at h;cases b4 with
     |true=>
      apply ws;intros;rw[eG] at h;cases hd:q.xE with
      |true=>
       rw[hd] at h;apply ws;intros;exact T.dp h
      |false=>
       rw[hd,Bool.false_or] at h;apply ws;intros;exact T.dp h
     |false=>
      apply ws;intros;rw[fV] at h;exact T.dp h
    have j3:∀b3:Bool,b3=decide (0<=q.kA/\0<=q.yB/\1<=q.lu)->T W (Sep.pt r2 (qk q)::Sep.pt r1 (gX q s)::L) (iG.j3 K r2 b3):=λb3 h3=>by
     unfold iG.j3;cases b3 with
     |true=>
      apply ws;intros;refine j4 _ ?_;have:=aR h3.symm;rw[decide_eq_decide];omega
     |false=>
      apply ws;intros;refine j4 _ ?_;have:=bn h3.symm;exact(ar (by omega)).symm
    have j2:∀b2:Bool,b2=decide (0<=q.kA/\0<=q.yB)->T W (Sep.pt r2 (qk q)::Sep.pt r1 (gX q s)::L) (iG.j2 K r2 b2):=λb2 h2=>by
     unfold iG.j2;cases b2 with
     |true=>
      apply ws;intros;refine j3 _ ?_;have:=aR h2.symm;rw[decide_eq_decide];omega
     |false=>
      apply ws;intros;refine j3 _ ?_;have:=bn h2.symm;exact(ar (by omega)).symm
    apply ga<;>intro g1
    ·apply ws;intros;refine j2 _ ?_;rw[decide_eq_decide];omega
    ·refine j2 _ ?_;exact(ar (by omega)).symm
   ·have g6: ¬q.op=6:=by simpa using g6
    rw[ag g6] at h;exact T.dp h
 unfold iG;apply ws;intros;apply dj<;>intro g1
 ·have g1':q.op=4:=by simpa using g1
  exact main _ _ (by rw[g1];exact(av (.inl g1')).symm)
 ·have g1': ¬q.op=4:=by simpa using g1
  exact main _ _ (by rw[cf];simp[g1'])
def ae4{m:aA}(hq:qf W R q s)
 (h:∀ab ac tb tc,T W (own ab (ask m q).2.1.length ac 14 ((ask m q).2.1.flatMap aL)::own tb (ask m q).2.2.length tc 16 ((ask m q).2.2.flatMap aM)::cL p (bo m,[])::R) (K (.agg ⟨sg (ask m q).1 none 0 0 ab (ask m q).2.1.length ac tb (ask m q).2.2.length tc⟩))):
 T W (cL p (bo m,[])::R) (KQ (ah p) (gX q s) K):=by
 unfold KQ
 repeat' first|apply ws;intros|apply wb|with_reducible refine NC ?_|fail
 cases ge:pO q with
 |false=>
  have e:ask m q=(1,[],[]):=by unfold ask;rw[ai ge]
  rw[e] at h;apply ws;intros;refine T.drop (T.drop ?_);exact iB (e:=16) (iB (e:=14) (h none 0 none 0))
 |true=>
  apply ws;intros;apply dj<;>intro g1
  ·have g1:q.op=4:=by simpa using g1
   have e:ask m q=(0,q.ids.filterMap (bo m).find,[]):=by unfold ask;rw[ag (by rw[ge];decide),ai g1]
   rw[e] at h;have hlen:q.ids.length<=16:=by unfold pO at ge;rw[ai (.inl g1)] at ge;simp at ge;exact ge.2
   apply ws;intros;refine acw (R:=R) (p:=p) hq.ids (by omega) λab ac out ho=>?_;subst ho;apply ws;intros;have:=h ab ac none 0;refine iB (e:=16) (T.Ow ?_);refine T.sub this ?_
   repeat (first|exact bj.refl _|apply bj.cons_cons|apply bj.cons)
  have g1: ¬q.op=4:=by simpa using g1
  apply dj<;>intro g2
  ·have g2:q.op=5:=by simpa using g2
   have e:ask m q=(0,[],q.ids.filterMap λid=>((bo m).named id).map (·.move)):=by unfold ask;rw[ag (by rw[ge];decide),ag g1,ai g2]
   rw[e] at h;have hlen:q.ids.length<=16:=by unfold pO at ge;rw[ai (.inr g2)] at ge;simp at ge;exact ge.2
   apply ws;intros;refine acv (R:=R) (p:=p) hq.ids (by omega) λab ac out ho=>?_;subst ho;apply ws;intros;have:=h none 0 ab ac;refine iB (e:=14) ?_;refine T.sub this ?_
   repeat (first|exact bj.refl _|apply bj.cons_cons|apply bj.cons)
  ·have g2: ¬q.op=5:=by simpa using g2
   have e:ask m q=(0,[],ofL (bo m) q):=by unfold ask;rw[ag (by rw[ge];decide),ag g1,ag g2]
   rw[e] at h;have Kr:0<=q.lu/\q.lu<=16:=by
    unfold pO at ge;rw[ag (by omega)] at ge;split at ge
    ·simp at ge;omega
    ·cases ge
   apply ws;intros;refine ail (p:=p) Kr λab ac out ho=>?_;subst ho;apply ws;intros;have:=h none 0 ab ac;refine iB (e:=14) ?_;refine T.sub this ?_
   repeat (first|exact bj.refl _|apply bj.cons_cons|apply bj.cons)
end
def many{α:Type}(nx:RS->RS)(nv:RS->α):Nat->RS->List α×RS
 |0,x=>([],x)
 |n+1,x=>if x.2=true then([],x) else(nv x::(many nx nv n (nx x)).1,(many nx nv n (nx x)).2)
def rQ{α:Type}{nx:RS->RS}{nv:RS->α}(n:Nat)(x:RS):many nx nv (n+1) x=if x.2=true then([],x) else(nv x::(many nx nv n (nx x)).1,(many nx nv n (nx x)).2):=rfl
def Dg{α:Type}{nx:RS->RS}{nv:RS->α}(x:RS):many nx nv 0 x=([],x):=rfl
def xr{α:Type}{nx:RS->RS}{nv:RS->α}:∀(n:Nat)(x:RS),(many nx nv n x).1.length<=n
 |0,x=>aH _
 |n+1,x=>by unfold many;split<;>simp;exact xr n _
def U7(x:RS):0<=lF 1 x/\lF 1 x<=255:=by
 unfold lF;split
 ·omega
 ·have h1:=rX (x.1.take 1);have h2:(x.1.take 1).length<=1:=by rw[aD];omega
  have h3:256^(x.1.take 1).length<=256^1:=gS (by decide) h2;have h4:(256:Nat)^1=256:=rfl;rw[ou (by omega)];omega
def NQ(x:RS):RS:=if 1<lF 1 x then((gh 1 x).1,true) else gh 1 x
def nvF(x:RS):Bool:=lF 1 x==1
section
variable {W:World} {L R:LH} {K:VK} {X:WK} {r:Nat} {x:RS} {g:RS->LH} {q:kh} {s:wK}
def Yk(x:RS):(Hx x).1.length<=x.1.length:=by
 unfold Hx zH;repeat (first|exact aH _|refine AD (wj _ _) ?_)
def Yj(x:RS):(Hw x).1.length<=x.1.length:=by
 unfold Hw zH;repeat (first|exact aH _|refine AD (wj _ _) ?_)
def K2[i:Lc (rd r) L x g](hl:x.1.length<1099511627776)(h:T W (g (NQ x)) (K (.b (nvF x)))):T W L (mT (ah r) K):=by
 unfold mT;refine wL hl ?_;refine nQ ?_;have hn:=i.next;rw[Option.isNone_some,P8,lz];apply ga<;>intro g1
 ·have g1:lF 1 x>1:=g1;intro w hs;obtain⟨k,hk,e⟩:=(hn (gh 1 x)).at_;rw[E1,ig,aC];refine oZ hs (show(g (gh 1 x))[k]?=some (Sep.pt r [.s (bs (gh 1 x).1),.b (gh 1 x).2]) from hk) (by show 1<2;decide) rfl λw' fM=>?_;refine h w' ?_;have e2:NQ x=((gh 1 x).1,true):=by unfold NQ;rw[ai g1]
  rw[e2,e];exact fM
 ·have g1: ¬lF 1 x>1:=g1;have e2:NQ x=gh 1 x:=by unfold NQ;rw[ag g1]
  rw[e2] at h;exact h
def Yx[i:Lc (rd r) L x g](hl:x.1.length<1099511627776)
 (h:∀b c,T W (own b (many Hx Hz (lF 1 x).toNat (gh 1 x)).1.length c 14 ((many Hx Hz (lF 1 x).toNat (gh 1 x)).1.flatMap aL)::g (many Hx Hz (lF 1 x).toNat (gh 1 x)).2) (K (.l b (many Hx Hz (lF 1 x).toNat (gh 1 x)).1.length c))):
 T W L (nr (ah r) (.func (.func N.oS) ⟨[]⟩ ⟨[]⟩) K):=by
 unfold nr;refine wL hl ?_;refine nQ ?_;have hn:=i.next;have hb:=U7 x;obtain⟨n,en⟩:∃n:Nat,lF 1 x=(n:Int):=⟨(lF 1 x).toNat,by omega⟩;rw[en,ak] at h;rw[en];refine iB (e:=14) ?_;intro w jO;refine⟨λvv w=>∃(i:Nat)(bo:OA)(cc:Nat)(done:List bJ)(y:RS),i<=n/\done.length<=i/\y.1.length<1099511627776/\many Hx Hz n (gh 1 x)=(done++(many Hx Hz (n-i) y).1,(many Hx Hz (n-i) y).2)/\
                                                                                                                                       vv=[.l none 0 0,.l bo done.length cc,.i (n:Int),.i (i:Int)]/\St W w (own bo done.length cc 14 (done.flatMap aL)::g y),
  λvs _=>match vs with|[_,_,_,.int _ d]=>n-d.toNat|_=>0,⟨0,none,0,[],gh 1 x,aE _,aH _,rH hl,by simp,rfl,jO⟩,?_⟩
 rintro uK s8 uU bo jd cc n2 n3 w2 ⟨i,b0,c0,done,y,hi,AW,hy,hm,e,hO⟩;cases e
 refine T.at ?_ hO;have e5:=nK i
 haveI:=hn y
 apply ga<;>intro g1
 ·have bX:i<n:=by omega
  obtain⟨k,hk⟩:∃k,n-i=k+1:=⟨n-i-1,by omega⟩;rw[hk] at hm;refine Aw (r:=r) ?_;refine oU ?_;cases ht:y.2 with
  |true=>
   apply ws;intros;rw[rQ,ai ht] at hm;simp only[bO] at hm;have:=h bo cc;rw[hm] at this;exact this
  |false=>
   apply ws;intros;rw[rQ,ag (by rw[ht];decide)] at hm;show T W _ (oS (ah r) _);refine WL hy ?_;apply ws;intros;refine jS (b:=bo) (x:=Hz y) rfl rfl rfl (by omega) (by omega) (iT _) λb2 c2=>?_;rw[e5];refine T.drop ?_;refine λw3 h3=>⟨⟨i+1,b2,c2,done++[Hz y],Hx y,bX,by simp;omega,HG (Yk y) hy,?_,by simp,by simpa using h3⟩,by show n-((i+1:Nat):Int).toNat<n-(i:Int).toNat;omega⟩;rw[hm,show n-(i+1)=k by omega];simp
 ·have jk:i=n:=by omega
  subst jk;rw[mg] at hm;rw[Dg,bO] at hm;have:=h bo cc;rw[hm] at this;exact this
def Yv[i:Lc (rd r) L x g](hl:x.1.length<1099511627776)
 (h:∀b c,T W (own b (many Hw Hy (lF 1 x).toNat (gh 1 x)).1.length c 16 ((many Hw Hy (lF 1 x).toNat (gh 1 x)).1.flatMap aM)::g (many Hw Hy (lF 1 x).toNat (gh 1 x)).2) (K (.l b (many Hw Hy (lF 1 x).toNat (gh 1 x)).1.length c))):
 T W L (mC (ah r) (.func (.func N.nO) ⟨[]⟩ ⟨[]⟩) K):=by
 unfold mC;refine wL hl ?_;refine nQ ?_;have hn:=i.next;have hb:=U7 x;obtain⟨n,en⟩:∃n:Nat,lF 1 x=(n:Int):=⟨(lF 1 x).toNat,by omega⟩;rw[en,ak] at h;rw[en];refine iB (e:=16) ?_;intro w jO;refine⟨λvv w=>∃(i:Nat)(bo:OA)(cc:Nat)(done:List cM)(y:RS),i<=n/\done.length<=i/\y.1.length<1099511627776/\many Hw Hy n (gh 1 x)=(done++(many Hw Hy (n-i) y).1,(many Hw Hy (n-i) y).2)/\
                                                                                                                                       vv=[.l none 0 0,.l bo done.length cc,.i (n:Int),.i (i:Int)]/\St W w (own bo done.length cc 16 (done.flatMap aM)::g y),
  λvs _=>match vs with|[_,_,_,.int _ d]=>n-d.toNat|_=>0,⟨0,none,0,[],gh 1 x,aE _,aH _,rH hl,by simp,rfl,jO⟩,?_⟩
 rintro uK s8 uU bo jd cc n2 n3 w2 ⟨i,b0,c0,done,y,hi,AW,hy,hm,e,hO⟩;cases e
 refine T.at ?_ hO;have e5:=nK i
 haveI:=hn y
 apply ga<;>intro g1
 ·have bX:i<n:=by omega
  obtain⟨k,hk⟩:∃k,n-i=k+1:=⟨n-i-1,by omega⟩;rw[hk] at hm;refine Aw (r:=r) ?_;refine oU ?_;cases ht:y.2 with
  |true=>
   apply ws;intros;rw[rQ,ai ht] at hm;simp only[bO] at hm;have:=h bo cc;rw[hm] at this;exact this
  |false=>
   apply ws;intros;rw[rQ,ag (by rw[ht];decide)] at hm;show T W _ (nO (ah r) _);refine Om hy ?_;apply ws;intros;refine jS (b:=bo) (x:=Hy y) rfl rfl rfl (by omega) (by omega) (pK _) λb2 c2=>?_;rw[e5];refine T.drop ?_;refine λw3 h3=>⟨⟨i+1,b2,c2,done++[Hy y],Hw y,bX,by simp;omega,HG (Yj y) hy,?_,by simp,by simpa using h3⟩,by show n-((i+1:Nat):Int).toNat<n-(i:Int).toNat;omega⟩;rw[hm,show n-(i+1)=k by omega];simp
 ·have jk:i=n:=by omega
  subst jk;rw[mg] at hm;rw[Dg,bO] at hm;have:=h bo cc;rw[hm] at this;exact this
def Yw[i:Lc (rd r) L x g](hl:x.1.length<1099511627776)
 (h:∀b c,T W (own b (many (gh 16) AQ (lF 1 x).toNat (gh 1 x)).1.length c 2 ((many (gh 16) AQ (lF 1 x).toNat (gh 1 x)).1.flatMap nm)::g (many (gh 16) AQ (lF 1 x).toNat (gh 1 x)).2) (K (.l b (many (gh 16) AQ (lF 1 x).toNat (gh 1 x)).1.length c))):
 T W L (qb (ah r) (.func (.func N.cZ) ⟨[]⟩ ⟨[]⟩) K):=by
 unfold qb;refine wL hl ?_;refine nQ ?_;have hn:=i.next;have hb:=U7 x;obtain⟨n,en⟩:∃n:Nat,lF 1 x=(n:Int):=⟨(lF 1 x).toNat,by omega⟩;rw[en,ak] at h;rw[en];refine iB (e:=2) ?_;intro w jO;refine⟨λvv w=>∃(i:Nat)(bo:OA)(cc:Nat)(done:List Nat)(y:RS),i<=n/\done.length<=i/\y.1.length<1099511627776/\many (gh 16) AQ n (gh 1 x)=(done++(many (gh 16) AQ (n-i) y).1,(many (gh 16) AQ (n-i) y).2)/\
                                                                                                                                       vv=[.l none 0 0,.l bo done.length cc,.i (n:Int),.i (i:Int)]/\St W w (own bo done.length cc 2 (done.flatMap nm)::g y),
  λvs _=>match vs with|[_,_,_,.int _ d]=>n-d.toNat|_=>0,⟨0,none,0,[],gh 1 x,aE _,aH _,rH hl,by simp,rfl,jO⟩,?_⟩
 rintro uK s8 uU bo jd cc n2 n3 w2 ⟨i,b0,c0,done,y,hi,AW,hy,hm,e,hO⟩;cases e
 refine T.at ?_ hO;have e5:=nK i
 haveI:=hn y
 apply ga<;>intro g1
 ·have bX:i<n:=by omega
  obtain⟨k,hk⟩:∃k,n-i=k+1:=⟨n-i-1,by omega⟩;rw[hk] at hm;refine Aw (r:=r) ?_;refine oU ?_;cases ht:y.2 with
  |true=>
   apply ws;intros;rw[rQ,ai ht] at hm;simp only[bO] at hm;have:=h bo cc;rw[hm] at this;exact this
  |false=>
   apply ws;intros;rw[rQ,ag (by rw[ht];decide)] at hm;show T W _ (cZ (ah r) _);refine K0 hy ?_;apply ws;intros;refine jS (b:=bo) (x:=AQ y) rfl rfl rfl (by omega) (by omega) (mI _) λb2 c2=>?_;rw[e5];refine T.drop ?_;refine λw3 h3=>⟨⟨i+1,b2,c2,done++[AQ y],(gh 16) y,bX,by simp;omega,HG (wj 16 y) hy,?_,by simp,by simpa using h3⟩,by show n-((i+1:Nat):Int).toNat<n-(i:Int).toNat;omega⟩;rw[hm,show n-(i+1)=k by omega];simp
 ·have jk:i=n:=by omega
  subst jk;rw[mg] at hm;rw[Dg,bO] at hm;have:=h bo cc;rw[hm] at this;exact this
def pU(q:kh):Bool:=if q.op=1 then q.aB.all λa=>decide (nq a) else if q.op=2 then q.cy.all λt=>decide (kL t) else true
def k9(q:kh):Bool:=(lZ q||pO q)&&pU q
def rq{α:Type}{P:α->Bool}{l:List α}{i:Nat}{x:α}(hx:l[i]?=some x)(h:(l.take i).all P=true):(l.take (i+1)).all P=P x:=by
 rw[bg,hx,List.all_append,h];simp
def all_false{α:Type}{P:α->Bool}{l:List α}{i:Nat}{x:α}(hx:l[i]?=some x)(h:P x=false):l.all P=false:=by
 rw[List.all_eq_false];exact⟨x,bD hx,by rw[h];decide⟩
def Lo[hh:Has R L](hq:qf W R q s)(Ed:q.aB.length<1000000)(bX:q.cy.length<1000000){r1:Nat}{b1:Bool}(h:T W (Sep.pt r1 (gX q s)::L) (K (.b (!b1&&pU q)))):T W (Sep.pt r1 (gX q s)::L) (pP.j1 K r1 b1):=by
 unfold pP.j1;cases b1 with
 |true=>rw[lz];exact h
 |false=>
  rw[P8,eG] at h;rw[eK];apply ws;intros;apply dj<;>intro g1
  ·have g1:q.op=1:=by simpa using g1
   unfold pU at h;rw[ai g1] at h;apply ws;intros;intro w jO;refine⟨λvv w=>∃i:Nat,i<=q.aB.length/\(q.aB.take i).all (λx=>decide (nq x))=true/\vv=[.b false,.l s.sa q.aB.length s.ca,.i (q.aB.length:Int),.i (i:Int)]/\St W w (Sep.pt r1 (gX q s)::L),
    λvs _=>match vs with|[_,_,_,.int _ d]=>q.aB.length-d.toNat|_=>0,⟨0,aE _,rfl,rfl,jO⟩,?_⟩
   rintro b2 jT jd ku n2 n3 w2 ⟨i,hi,fG,e,hO⟩;cases e
   refine T.at ?_ hO;have e5:=nK i;apply ga<;>intro g1
   ·have bX:i<q.aB.length:=by omega
    have gx:=aj bX;generalize q.aB[i]=x at gx;refine iU hq.aB ⟨by omega,by omega⟩ rfl λa ha=>?_;rw[ak];refine jR hq.aB ha gx rfl ?_
    repeat' first|apply ws;intros|apply wb|with_reducible refine KS ?_|fail
    rw[e5];by_cases hg:nq x
    ·rw[av hg];apply ws;intros;refine T.drop λw3 h3=>⟨⟨i+1,bX,?_,rfl,h3⟩,by show q.aB.length-((i+1:Nat):Int).toNat<q.aB.length-(i:Int).toNat;omega⟩;rw[rq gx fG];exact av hg
    ·rw[ar hg];apply ws;intros;rw[all_false gx (ar hg)] at h;exact T.drop h
   ·have jk:i=q.aB.length:=by omega
    subst jk;rw[aS] at fG;rw[fG] at h;exact h
  have g1: ¬q.op=1:=by simpa using g1
  apply dj<;>intro g2
  ·have g2:q.op=2:=by simpa using g2
   unfold pU at h;rw[ag g1,ai g2] at h;apply ws;intros;intro w jO;refine⟨λvv w=>∃i:Nat,i<=q.cy.length/\(q.cy.take i).all (λx=>decide (kL x))=true/\vv=[.b false,.l s.st q.cy.length s.ct,.i (q.cy.length:Int),.i (i:Int)]/\St W w (Sep.pt r1 (gX q s)::L),
    λvs _=>match vs with|[_,_,_,.int _ d]=>q.cy.length-d.toNat|_=>0,⟨0,aE _,rfl,rfl,jO⟩,?_⟩
   rintro b2 jT jd ku n2 n3 w2 ⟨i,hi,fG,e,hO⟩;cases e
   refine T.at ?_ hO;have e5:=nK i;apply ga<;>intro g1
   ·have bX:i<q.cy.length:=by omega
    have gx:=aj bX;generalize q.cy[i]=x at gx;refine iU hq.cy ⟨by omega,by omega⟩ rfl λa ha=>?_;rw[ak];refine jR hq.cy ha gx rfl ?_
    repeat' first|apply ws;intros|apply wb|with_reducible refine JY ?_|fail
    rw[e5];by_cases hg:kL x
    ·rw[av hg];apply ws;intros;refine T.drop λw3 h3=>⟨⟨i+1,bX,?_,rfl,h3⟩,by show q.cy.length-((i+1:Nat):Int).toNat<q.cy.length-(i:Int).toNat;omega⟩;rw[rq gx fG];exact av hg
    ·rw[ar hg];apply ws;intros;rw[all_false gx (ar hg)] at h;exact T.drop h
   ·have jk:i=q.cy.length:=by omega
    subst jk;rw[aS] at fG;rw[fG] at h;exact h
  ·have g2: ¬q.op=2:=by simpa using g2
   unfold pU at h;rw[ag g1,ag g2] at h;exact h
def Qb[hh:Has R L](hq:qf W R q s)(Ed:q.aB.length<1000000)(bX:q.cy.length<1000000)(h:T W L (K (.b (k9 q)))):T W L (pP (gX q s) K):=by
 unfold pP
 repeat' first|apply ws;intros|apply wb|with_reducible refine Rs ?_|fail
 unfold k9 at h;cases he:lZ q with
 |true=>
  rw[he,Bool.true_or] at h;apply ws;intros;exact Lo hq Ed bX (T.drop h)
 |false=>
  rw[he,Bool.false_or] at h
  repeat' first|apply ws;intros|apply wb|with_reducible refine NC ?_|fail
  refine Lo hq Ed bX (T.drop ?_);rw[Bool.not_not];exact h
end
def Ej(b:Bool):List UInt8:=[if b then 1 else 0]
def Y6(q:kh):List UInt8:=nb q.yY++le .i64 8 q.kA++le .i64 8 q.yB++Ej q.xE++Ej q.uD++Ej q.q9++le .i64 1 q.lu
def dR(q:kh):List UInt8:=le .i64 1 q.op++
 (if q.op=1 then le .i64 1 (q.aB.length:Int)++q.aB.flatMap jQ
 else if q.op=2 then le .i64 1 (q.cy.length:Int)++q.cy.flatMap o0
 else if q.op=3 then le .i64 8 q.now
 else if q.op=6 then Y6 q
 else le .i64 1 (q.ids.length:Int)++q.ids.flatMap nb)
section
variable {W:World} {L R:LH} {K:VK} {X:WK} {p:Nat} {l:List UInt8} {f:List UInt8->LH} {q:kh} {s:wK}
def Oj(h:T W (buf p []::L) X):T W (Sep.pt p [.l none 0 0]::L) X:=λw hs=>by
 have h2:=(hs.push (A:=own none 0 0 1 (([]:List UInt8).map vZ)) (sm 1)).perm (bZ.swap _ _ _);exact h w (u3 (k:=0) (L:=buf p []::L) (A:=buf p []) rfl rfl h2)
def eB{α:Type}{g:α->List UInt8}{e:Nat}(hg:∀x,(g x).length=e)(l:List α):(l.flatMap g).length=l.length* e:=by
 induction l with
 |nil=>simp
 |cons x l ih=>rw[iY,aw,ih,hg,bE,mA];omega
def acP[i:Lc (buf p) L l f][hh:∀y,Has R (f y)]{sl:OA}{c:Nat}{items:List bJ}(hr:mZ W R aL 14 sl items)(hg:∀x∈items,nq x)(hi:items.length<=1000)(hl:l.length<1000000)
 (h:T W (f (l++le .i64 1 (items.length:Int)++items.flatMap jQ)) (K (.tuple ⟨[]⟩))):T W L (lD (ah p) sl items.length c K):=by
 unfold lD;refine EA ?_;refine sB (by omega) (BV ?_);intro w jO;refine⟨λvv w=>∃i:Nat,i<=items.length/\vv=[.l sl items.length c,.i (items.length:Int),.i (i:Int)]/\St W w (f (l++le .i64 1 (items.length:Int)++(items.take i).flatMap jQ)),
  λvs _=>match vs with|[_,_,.int _ d]=>items.length-d.toNat|_=>0,⟨0,aE _,rfl,by simpa using jO⟩,?_⟩
 rintro jT jd ku n1 n2 w2 ⟨i,hii,e,hO⟩;cases e
 refine T.at ?_ hO;have hn:=Lc.next (P:=buf p) inferInstance (l++le .i64 1 (items.length:Int)++(items.take i).flatMap jQ) (L:=L) (x:=l) (f:=f);have BN:=hh (l++le .i64 1 (items.length:Int)++(items.take i).flatMap jQ);have hlen:(l++le .i64 1 (items.length:Int)++(items.take i).flatMap jQ).length<549755813888:=by
  rw[aw,aw,eB oT,aD,aO];have:min i items.length<=1000:=by omega
  have:min i items.length* (100-4)<=1000* (100-4):=iI _ this;omega
 have e5:=nK i;apply ga<;>intro g1
 ·have bX:i<items.length:=by omega
  have gx:=aj bX;have gm:=hg _ (bP bX);generalize items[i]=x at gx gm;refine iU hr ⟨by omega,by omega⟩ rfl λa ha=>?_;rw[ak];refine jR hr ha gx rfl ?_
  repeat' first|apply ws;intros|apply wb|with_reducible refine WJ (p:=p) gm hlen ?_|fail
  rw[e5];refine T.drop λw3 h3=>⟨⟨i+1,bX,rfl,?_⟩,by show items.length-((i+1:Nat):Int).toNat<items.length-(i:Int).toNat;omega⟩;rw[bg,gx,gA];simpa [aI] using h3
 ·have jk:i=items.length:=by omega
  subst jk;rw[aS];exact h
def acO[i:Lc (buf p) L l f][hh:∀y,Has R (f y)]{sl:OA}{c:Nat}{items:List cM}(hr:mZ W R aM 16 sl items)(hg:∀x∈items,kL x)(hi:items.length<=1000)(hl:l.length<1000000)
 (h:T W (f (l++le .i64 1 (items.length:Int)++items.flatMap o0)) (K (.tuple ⟨[]⟩))):T W L (kU (ah p) sl items.length c K):=by
 unfold kU;refine EA ?_;refine sB (by omega) (BV ?_);intro w jO;refine⟨λvv w=>∃i:Nat,i<=items.length/\vv=[.l sl items.length c,.i (items.length:Int),.i (i:Int)]/\St W w (f (l++le .i64 1 (items.length:Int)++(items.take i).flatMap o0)),
  λvs _=>match vs with|[_,_,.int _ d]=>items.length-d.toNat|_=>0,⟨0,aE _,rfl,by simpa using jO⟩,?_⟩
 rintro jT jd ku n1 n2 w2 ⟨i,hii,e,hO⟩;cases e
 refine T.at ?_ hO;have hn:=Lc.next (P:=buf p) inferInstance (l++le .i64 1 (items.length:Int)++(items.take i).flatMap o0) (L:=L) (x:=l) (f:=f);have BN:=hh (l++le .i64 1 (items.length:Int)++(items.take i).flatMap o0);have hlen:(l++le .i64 1 (items.length:Int)++(items.take i).flatMap o0).length<549755813888:=by
  rw[aw,aw,eB pT,aD,aO];have:min i items.length<=1000:=by omega
  have:min i items.length* 108<=1000* 108:=iI _ this;omega
 have e5:=nK i;apply ga<;>intro g1
 ·have bX:i<items.length:=by omega
  have gx:=aj bX;have gm:=hg _ (bP bX);generalize items[i]=x at gx gm;refine iU hr ⟨by omega,by omega⟩ rfl λa ha=>?_;rw[ak];refine jR hr ha gx rfl ?_
  repeat' first|apply ws;intros|apply wb|with_reducible refine Ol (p:=p) gm hlen ?_|fail
  rw[e5];refine T.drop λw3 h3=>⟨⟨i+1,bX,rfl,?_⟩,by show items.length-((i+1:Nat):Int).toNat<items.length-(i:Int).toNat;omega⟩;rw[bg,gx,gA];simpa [aI] using h3
 ·have jk:i=items.length:=by omega
  subst jk;rw[aS];exact h
def aaL[i:Lc (buf p) L l f](hl:l.length<1000000)(h:T W (f (l++Y6 q)) (K (.tuple ⟨[]⟩))):T W L (pe (ah p) (qk q) K):=by
 unfold pe;have hn0:=i.next
 repeat' first|apply ws;intros|apply wb|with_reducible refine KT (by omega) ?_|fail
 rename_i r1
 repeat' first|apply ws;intros|apply wb|with_reducible refine Au (by simp only[aw,sn,aO];omega) ?_|fail
 intro w jO;refine⟨λvv w=>∃i:Nat,i<=3/\vv=[.p (some (ad r1 0)),.agg ⟨[.b q.xE,.b q.uD,.b q.q9]⟩,.i (i:Int)]/\St W w (Sep.pt r1 (qk q)::f (l++nb q.yY++le .i64 8 q.kA++le .i64 8 q.yB++([q.xE,q.uD,q.q9].take i).flatMap Ej)),
  λvs _=>match vs with|[_,_,.int _ d]=>3-d.toNat|_=>0,⟨0,aE _,rfl,by simpa using jO⟩,?_⟩
 rintro a4 Dx n3 w2 ⟨i,hi,e,hO⟩;cases e
 refine T.at ?_ hO;have hn:=Lc.next (P:=buf p) inferInstance (l++nb q.yY++le .i64 8 q.kA++le .i64 8 q.yB++([q.xE,q.uD,q.q9].take i).flatMap Ej) (L:=L) (x:=l) (f:=f);have Re:(([q.xE,q.uD,q.q9].take i).flatMap Ej).length<=3:=by rw[eB (e:=1) (λ_=>rfl),aD];simp;omega
 have e5:=nK i;apply ga<;>intro g1
 ·have bX:i<3:=by omega
  obtain⟨b,hb⟩:∃b,[q.xE,q.uD,q.q9][i]?=some b:=⟨_,aj (by simpa using bX)⟩;have hv:[Value.bool q.xE,.b q.uD,.b q.q9][i]?=some (.b b):=by
   have:=congrArg (zh Value.bool) hb;rw[<-eo] at this;exact this
  refine Ql bX hv ?_
  repeat' first|apply ws;intros|apply wb|with_reducible refine ZF (by simp only[aw,sn,aO];omega) ?_|fail
  rw[e5];refine λw3 h3=>⟨⟨i+1,bX,rfl,?_⟩,by show 3-((i+1:Nat):Int).toNat<3-(i:Int).toNat;omega⟩;rw[bg,hb,gA];simpa [aI,Ej] using h3
 ·have jk:i=3:=by omega
  subst jk
  repeat' first|apply ws;intros|apply wb|with_reducible refine sB (by simp only[aw,sn,aO];omega) ?_|fail
  have e2:l++nb q.yY++le .i64 8 q.kA++le .i64 8 q.yB++([q.xE,q.uD,q.q9].take 3).flatMap Ej++le .i64 1 q.lu=l++Y6 q:=by
   unfold Y6;simp[aI]
  rw[e2];exact T.drop h
def nP(h:k9 q=true):(q.op=1/\q.aB.length<=8/\∀a∈q.aB,nq a)\/(q.op=2/\q.cy.length<=8/\∀t∈q.cy,kL t)\/(q.op=3/\0<=q.now/\q.now<=1099511627776)\/((q.op=4\/q.op=5)/\q.ids.length<=16)\/(q.op=6/\0<=q.kA/\0<=q.yB/\1<=q.lu/\q.lu<=16):=by
 unfold k9 lZ pO pU at h;simp only[dI,Bool.or_eq_true] at h;obtain⟨h1,h2⟩:=h;by_cases o1:q.op=1
 ·rw[ai o1] at h1 h2;rw[ag (by omega),ag (by omega)] at h1;simp at h1 h2;exact .inl ⟨o1,h1.2,h2⟩
 by_cases o2:q.op=2
 ·rw[ag o1,ai o2] at h1 h2;rw[ag (by omega),ag (by omega)] at h1;simp at h1 h2;exact .inr (.inl ⟨o2,h1.2,h2⟩)
 by_cases o3:q.op=3
 ·rw[ag o1,ag o2,ai o3] at h1;rw[ag (by omega),ag (by omega)] at h1;simp at h1;exact .inr (.inr (.inl ⟨o3,h1⟩))
 rw[ag o1,ag o2,ag o3] at h1;by_cases o4:q.op=4\/q.op=5
 ·rw[ai o4] at h1;simp at h1;exact .inr (.inr (.inr (.inl ⟨o4,h1.2⟩)))
 rw[ag o4] at h1;by_cases o6:q.op=6
 ·rw[ai o6] at h1;simp at h1;exact .inr (.inr (.inr (.inr ⟨o6,h1.1⟩)))
 ·rw[ag o6] at h1;simp at h1
def T8[hh:Has R L](hq:qf W R q s)(Ed:q.aB.length<1000000)(bX:q.cy.length<1000000)(h1:k9 q=true->T W L (K (.tuple ⟨[.s (bs (dR q)),.i 0]⟩)))(h0:k9 q=false->T W L (K (.tuple ⟨[.s .empty,.i 1]⟩))):T W L (xZ (gX q s) K):=by
 unfold xZ
 repeat' first|apply ws;intros|apply wb|with_reducible refine Qb hq Ed bX ?_|fail
 rename_i r1;cases hw:k9 q with
 |false=>
  apply ws;intros;exact T.drop (h0 hw)
 |true=>
  have h1:=h1 hw;have hf:=nP hw;apply ws;intros;rename_i r2;refine Oj ?_
  repeat' first|apply ws;intros|apply wb|with_reducible refine sB (by simp) ?_|fail
  unfold dR at h1;apply dj<;>intro g1
  ·have g1:q.op=1:=by simpa using g1
   rw[ai g1] at h1;have Fa:q.aB.length<=8/\∀a∈q.aB,nq a:=by rcases hf with h|h|h|h|h<;>first|exact h.2|omega
   apply ws;intros;refine acP (R:=R) hq.aB Fa.2 (by omega) (by simp[aO]) ?_
   repeat' first|apply ws;intros|apply wb|with_reducible refine tu ?_|fail
   rw[cw,aI];exact T.dp h1
  have g1: ¬q.op=1:=by simpa using g1
  rw[ag g1] at h1;apply dj<;>intro g2
  ·have g2:q.op=2:=by simpa using g2
   rw[ai g2] at h1;have Fa:q.cy.length<=8/\∀a∈q.cy,kL a:=by rcases hf with h|h|h|h|h<;>first|exact h.2|omega
   apply ws;intros;refine acO (R:=R) hq.cy Fa.2 (by omega) (by simp[aO]) ?_
   repeat' first|apply ws;intros|apply wb|with_reducible refine tu ?_|fail
   rw[cw,aI];exact T.dp h1
  have g2: ¬q.op=2:=by simpa using g2
  rw[ag g2] at h1;apply dj<;>intro g3
  ·have g3:q.op=3:=by simpa using g3
   rw[ai g3] at h1
   repeat' first|apply ws;intros|apply wb|with_reducible first|refine Au (by simp[aO]) ?_|refine tu ?_|fail
   rw[cw];exact T.dp h1
  have g3: ¬q.op=3:=by simpa using g3
  rw[ag g3] at h1;apply dj<;>intro g6
  ·have g6:q.op=6:=by simpa using g6
   rw[ai g6] at h1;apply ws;intros;refine aaL (by simp[aO]) ?_
   repeat' first|apply ws;intros|apply wb|with_reducible refine tu ?_|fail
   rw[cw];exact T.dp h1
  have g6: ¬q.op=6:=by simpa using g6
  rw[ag g6] at h1;have Fa:q.ids.length<=16:=by rcases hf with h|h|h|h|h<;>first|exact h.2|omega
  repeat' first|apply ws;intros|apply wb|with_reducible refine sB (by simp[aO]) ?_|fail
  intro w jO;refine⟨λvv w=>∃i:Nat,i<=q.ids.length/\vv=[.s .empty,.i 0,.p (some (ad r2 0)),.l s.si q.ids.length s.ci,.i (q.ids.length:Int),.i (i:Int)]/\
   St W w (buf r2 (le .i64 1 q.op++(le .i64 1 (q.ids.length:Int)++(q.ids.take i).flatMap nb))::Sep.pt r1 (gX q s)::L),
   λvs _=>match vs with|[_,_,_,_,_,.int _ d]=>q.ids.length-d.toNat|_=>0,⟨0,aE _,rfl,by simpa using jO⟩,?_⟩
  rintro s5 n4 a1 xi wS yU n5 n6 w2 ⟨i,hi,e,hO⟩;cases e
  refine T.at ?_ hO;have hlen:(le .i64 1 q.op++(le .i64 1 (q.ids.length:Int)++(q.ids.take i).flatMap nb)).length<1099511627776:=by
   rw[aw,aw,eB sn,aD,aO,aO];have:min i q.ids.length<=16:=by omega
   omega
  have e5:=nK i;apply ga<;>intro g1
  ·have bX:i<q.ids.length:=by omega
   have gx:=aj bX;generalize q.ids[i]=x at gx;refine iU hq.ids ⟨by omega,by omega⟩ rfl λa ha=>?_;rw[ak];refine jR hq.ids ha gx rfl ?_
   repeat' first|apply ws;intros|apply wb|with_reducible refine KT hlen ?_|fail
   rw[e5];refine T.drop λw3 h3=>⟨⟨i+1,bX,rfl,?_⟩,by show q.ids.length-((i+1:Nat):Int).toNat<q.ids.length-(i:Int).toNat;omega⟩;rw[bg,gx,gA];simpa [aI] using h3
  ·have jk:i=q.ids.length:=by omega
   subst jk;rw[aS]
   repeat' first|apply ws;intros|apply wb|with_reducible refine tu ?_|fail
   exact T.dp h1
end
def q0:kh:=⟨0,[],[],0,[],0,0,0,false,false,false,0⟩
def s0:wK:=⟨none,0,none,0,none,0⟩
instance{q q':kh}{s s':wK}:Wr (gX q s) 0 (gX q' s') (gX q' s'):=⟨rfl,aH _,B9 q' s'⟩
instance{q:kh}{s:wK}:Wr (gX q s) 0 [.i 0,.l none 0 0,.l none 0 0,.i 0,.l none 0 0,.u 0,.u 0,.i 0,.i 0,.b false,.b false,.b false,.i 0] (gX q0 s0):=⟨rfl,aH _,B9 q0 s0⟩
instance{q:kh}{s:wK}{a:Nat}{f t m:Int}{d c l:Bool}:Wr (gX q s) 5 (nm a++([.i f,.i t,.b d,.b c,.b l,.i m]:LV)) (gX ⟨q.op,q.aB,q.cy,q.now,q.ids,a,f,t,d,c,l,m⟩ s):=⟨rfl,by show 13<=13;decide,MV ⟨q.op,q.aB,q.cy,q.now,q.ids,a,f,t,d,c,l,m⟩⟩
def OL(n:Int):kh:=⟨n,[],[],0,[],0,0,0,false,false,false,0⟩
def opC(n:Int):gX (OL n) s0=[.i n,.l none 0 0,.l none 0 0,.i 0,.l none 0 0,.u 0,.u 0,.i 0,.i 0,.b false,.b false,.b false,.i 0]:=by
 simp[gX,qk,nm,OL,s0]
instance{x1 x2 x3 x4 x5 x6 x7 x8 x9 Fz Fy Fx Fw:Value}{n:Int}:Wr [x1,x2,x3,x4,x5,x6,x7,x8,x9,Fz,Fy,Fx,Fw] 0 [.i n,.l none 0 0,.l none 0 0,.i 0,.l none 0 0,.u 0,.u 0,.i 0,.i 0,.b false,.b false,.b false,.i 0] (gX (OL n) s0):=by
 rw[<-opC n];exact⟨rfl,aH _,B9 _ _⟩
def iZ(l:List UInt8):kh×RS:=
 let x:RS:=(l,false)
 let y:=gh 1 x
 if lF 1 x=1 then({q0 with op:=1,aB:=(many Hx Hz (lF 1 y).toNat (gh 1 y)).1},(many Hx Hz (lF 1 y).toNat (gh 1 y)).2)
 else if lF 1 x=2 then({q0 with op:=2,cy:=(many Hw Hy (lF 1 y).toNat (gh 1 y)).1},(many Hw Hy (lF 1 y).toNat (gh 1 y)).2)
 else if lF 1 x=3 then({q0 with op:=3,now:=lF 8 y},gh 8 y)
 else if lF 1 x=6 then({q0 with op:=6,yY:=AQ y,kA:=lF 8 (gh 16 y),yB:=lF 8 (gh 8 (gh 16 y)),xE:=nvF (gh 8 (gh 8 (gh 16 y))),uD:=nvF (NQ (gh 8 (gh 8 (gh 16 y)))),q9:=nvF (NQ (NQ (gh 8 (gh 8 (gh 16 y))))),lu:=lF 1 (NQ (NQ (NQ (gh 8 (gh 8 (gh 16 y))))))},
  gh 1 (NQ (NQ (NQ (gh 8 (gh 8 (gh 16 y)))))))
 else({q0 with op:=lF 1 x,ids:=(many (gh 16) AQ (lF 1 y).toNat (gh 1 y)).1},(many (gh 16) AQ (lF 1 y).toNat (gh 1 y)).2)
def sh(l:List UInt8):Bool:=(!(iZ l).2.2&&decide ((iZ l).2.1=[]))&&k9 (iZ l).1
def Kh(x:RS):(NQ x).1.length<=x.1.length:=by
 unfold NQ;split
 ·exact wj _ _
 ·exact wj _ _
section
variable {W:World} {L R:LH} {K:VK} {X:WK} {p r:Nat} {l:List UInt8} {q:kh} {s:wK} {A:HP}
def Uv(h:∀r,T W (rd r (l,false)::L) (K (.p (ah r)))):T W L (pQ (bs l) K):=λw hs=>sY hs λr w' h'=>h r w' h'
def mZ.own{α:Type}{b:OA}{n c e:Nat}{g:α->LV}{xs:List α}(hg:∀x,(g x).length=e)(hn:n=xs.length):mZ W (Sep.own b n c e (xs.flatMap g)::L) g e b xs:=λw hw i x hx=>by
 obtain⟨hl,h0|⟨r,sp,hb,vX,CO,hs⟩⟩:=hw.oN (k:=0) rfl
 ·have:=(ao.1 hx).1;omega
 ·refine⟨⟨r,0,none⟩,hb,?_⟩;subst hb;rw[ig,aC];exact Az (k:=0) hw rfl (ra hg xs i x hx)
def mZ.nil{α:Type}{b:OA}{e:Nat}{g:α->LV}:mZ W R g e b []:=λw hw i x hx=>by simp at hx
def T5{r1 r2:Nat}{x:RS}(hq:qf W (A::L) q s)(Ed:q.aB.length<1000000)(bX:q.cy.length<1000000)
 (h0:((!x.2&&decide (x.1=[]))&&k9 q)=false->T W L (K (.tuple ⟨[.agg ⟨gX q0 s0⟩,.i 4]⟩)))
 (h1:((!x.2&&decide (x.1=[]))&&k9 q)=true->T W (A::L) (K (.tuple ⟨[.agg ⟨gX q s⟩,.i 0]⟩))):
 T W (Sep.pt r2 (gX q s)::rd p x::Sep.pt r1 (gX q0 s0)::A::L) (kF.j1 K (ah p) r1 r2):=by
 unfold kF.j1;refine W2 (r:=p) ?_;refine oU ?_;cases he:(!x.2&&decide (x.1=[])) with
 |false=>
  rw[he,fV] at h0;have h0:=h0 rfl;rw[P8,lz];apply ws;intros;exact T.dp h0
 |true=>
  rw[he,eG] at h0 h1;rw[Bool.not_true,eK]
  repeat' first|apply ws;intros|apply wb|with_reducible refine Qb (R:=A::L) hq Ed bX ?_|fail
  cases hw:k9 q with
  |false=>
   have h0:=h0 hw;apply ws;intros;exact T.dp h0
  |true=>
   have h1:=h1 hw;apply ws;intros;exact T.dp h1
def EP(hl:l.length<1099511627776)
 (h0:sh l=false->T W L (K (.tuple ⟨[.agg ⟨gX q0 s0⟩,.i 4]⟩)))
 (h1:sh l=true->∀A s,(∀L',qf W (A::L') (iZ l).1 s)->T W (A::L) (K (.tuple ⟨[.agg ⟨gX (iZ l).1 s⟩,.i 0]⟩))):T W L (kF (bs l) K):=by
 unfold kF;refine uH λr1=>?_;refine Uv λp=>?_;refine vf ?_;refine wL hl (nQ ?_);refine dO ⟨rfl,trivial⟩ ?_;refine uH λr2=>?_;apply ws;intros;have hy:=rH (m:=1) (x:=(l,false)) hl;have hb:=U7 (gh 1 (l,false));have fin:∀(q:kh)(x:RS)(A:HP)(s:wK),iZ l=(q,x)->(∀L',qf W (A::L') q s)->q.aB.length<1000000->q.cy.length<1000000->
  T W (A::Sep.pt r2 (gX q s)::rd p x::Sep.pt r1 (gX q0 s0)::L) (kF.j1 K (ah p) r1 r2):=by
  intro q x A s he hq Ed bX;unfold sh at h0 h1;rw[he] at h0 h1;exact T.perm (T5 (hq L) Ed bX h0 λhh=>h1 hh A s hq) (bp (l₁:=[A]) (l₂:=[Sep.pt r2 (gX q s),rd p x,Sep.pt r1 (gX q0 s0)])|>.append_right L)
 unfold iZ at fin;dsimp only at fin;generalize lF 1 (l,false)=op at fin⊢;generalize gh 1 (l,false)=y at fin hy hb⊢;apply dj<;>intro g1
 ·have g1:op=1:=by simpa [OL] using g1
  subst g1;rw[ai rfl] at fin;refine Yx hy λb c=>?_;have Kq:=xr (nx:=Hx) (nv:=Hz) (lF 1 y).toNat (gh 1 y);obtain⟨out,ho⟩:∃out,(many Hx Hz (lF 1 y).toNat (gh 1 y)).1=out:=⟨_,rfl⟩;obtain⟨z,hz⟩:∃z,(many Hx Hz (lF 1 y).toNat (gh 1 y)).2=z:=⟨_,rfl⟩;rw[ho,hz] at fin⊢;rw[ho] at Kq;refine um ?_;refine rv (b:=b) λvX _=>?_;refine DO (r:=r2) (cs:=gX (OL 1) s0) (o:=1) (v:=.l b out.length c) (by decide) rfl ?_;exact fin _ _ (Sep.own b out.length c 14 (out.flatMap aL)) ⟨b,c,none,0,none,0⟩ rfl (λ_=>⟨mZ.own (λ_=>rfl) rfl,mZ.nil,mZ.nil,vX,aH _,aH _⟩) (by show out.length<_;omega) (by show 0<_;decide)
 have g1: ¬op=1:=by simpa [OL] using g1
 rw[ag g1] at fin;apply dj<;>intro g2
 ·have g2:op=2:=by simpa [OL] using g2
  subst g2;rw[ai rfl] at fin;refine Yv hy λb c=>?_;have Kq:=xr (nx:=Hw) (nv:=Hy) (lF 1 y).toNat (gh 1 y);obtain⟨out,ho⟩:∃out,(many Hw Hy (lF 1 y).toNat (gh 1 y)).1=out:=⟨_,rfl⟩;obtain⟨z,hz⟩:∃z,(many Hw Hy (lF 1 y).toNat (gh 1 y)).2=z:=⟨_,rfl⟩;rw[ho,hz] at fin⊢;rw[ho] at Kq;refine um ?_;refine rv (b:=b) λvX _=>?_;refine DO (r:=r2) (cs:=gX (OL 2) s0) (o:=2) (v:=.l b out.length c) (by decide) rfl ?_;exact fin _ _ (Sep.own b out.length c 16 (out.flatMap aM)) ⟨none,0,b,c,none,0⟩ rfl (λ_=>⟨mZ.nil,mZ.own (λ_=>rfl) rfl,mZ.nil,aH _,vX,aH _⟩) (by show 0<_;decide) (by show out.length<_;omega)
 have g2: ¬op=2:=by simpa [OL] using g2
 rw[ag g2] at fin;apply dj<;>intro g3
 ·have g3:op=3:=by simpa [OL] using g3
  subst g3;rw[ai rfl] at fin;refine yM hy (nQ ?_);refine DO (r:=r2) (cs:=gX (OL 3) s0) (o:=3) (v:=.i (lF 8 y)) (by decide) rfl ?_;refine iB (e:=1) ?_;exact fin _ _ (Sep.own none 0 0 1 []) s0 rfl (λ_=>⟨mZ.nil,mZ.nil,mZ.nil,aH _,aH _,aH _⟩) (by show 0<_;decide) (by show 0<_;decide)
 have g3: ¬op=3:=by simpa [OL] using g3
 rw[ag g3] at fin;apply dj<;>intro g6
 ·have g6:op=6:=by simpa [OL] using g6
  subst g6;rw[ai rfl] at fin;have b1:=rH (m:=16) hy;have b2:=rH (m:=8) b1;have b3:=rH (m:=8) b2;have b4:=HG (Kh _) b3;have b5:=HG (Kh _) b4;have b6:=HG (Kh _) b5;refine K0 hy (Ez rfl ?_);refine yM b1 (nQ ?_);refine yM b2 (nQ ?_);refine K2 b3 (oU ?_);refine K2 b4 (oU ?_);refine K2 b5 (oU ?_);refine wL b6 (nQ ?_);refine dO ⟨rfl,rfl,rfl,rfl,rfl,rfl,rfl,trivial⟩ ?_;refine dO rfl ?_;apply ws;intros;refine iB (e:=1) ?_;exact fin _ _ (Sep.own none 0 0 1 []) s0 rfl (λ_=>⟨mZ.nil,mZ.nil,mZ.nil,aH _,aH _,aH _⟩) (by show 0<_;decide) (by show 0<_;decide)
 have g6: ¬op=6:=by simpa [OL] using g6
 rw[ag g6] at fin;refine Yw hy λb c=>?_;have Kq:=xr (nx:=gh 16) (nv:=AQ) (lF 1 y).toNat (gh 1 y);obtain⟨out,ho⟩:∃out,(many (gh 16) AQ (lF 1 y).toNat (gh 1 y)).1=out:=⟨_,rfl⟩;obtain⟨z,hz⟩:∃z,(many (gh 16) AQ (lF 1 y).toNat (gh 1 y)).2=z:=⟨_,rfl⟩;rw[ho,hz] at fin⊢;rw[ho] at Kq;refine um ?_;refine rv (b:=b) λvX _=>?_;refine DO (r:=r2) (cs:=gX (OL op) s0) (o:=4) (v:=.l b out.length c) (by rw[UL];decide) rfl ?_;exact fin _ _ (Sep.own b out.length c 2 (out.flatMap nm)) ⟨none,0,none,0,b,c⟩ rfl (λ_=>⟨mZ.nil,mZ.nil,mZ.own (λ_=>rfl) rfl,aH _,aH _,vX⟩) (by show 0<_;decide) (by show 0<_;decide)
end
def PC{n:Int}{i:Nat}(hi:i<8):Go.Sep.byteOf aa n i=Go.Sep.byteOf aa (n+18446744073709551616) i:=by
 unfold Go.Sep.byteOf shr;have h1:(8* (i:Int)).toNat=8* i:=by omega
 have h2:min (8* i) aa.bits=8* i:=by show min (8* i) 64=_;omega
 rw[h1,h2];have hp:(0:Int)<2^(8* i):=Int.pow_pos (by decide);rw[HH _ (Int.le_of_lt hp),HH _ (Int.le_of_lt hp)];have hq:(18446744073709551616:Int)=256* 2^(56-8* i)* 2^(8* i):=by
  have:(256:Int)* 2^(56-8* i)* 2^(8* i)=2^(8+(56-8* i)+8* i):=by
   rw[Int.pow_add,Int.pow_add];rfl
  rw[this,show 8+(56-8* i)+8* i=64 by omega];rfl
 rw[hq,Int.add_mul_ediv_right _ _ (by omega)]
 congr 2
 generalize n/2^(8* i)=a;generalize (2:Int)^(56-8* i)=c;simp only[IntKind.wrap,IntKind.bits,IntKind.signed];simp
def Sw{n:Int}(h:vS n):nE (le .i64 8 n)=n:=by
 unfold vS at h;by_cases h0:0<=n
 ·obtain⟨m,rfl⟩:=bt h0;unfold nE;rw[rY m 8 (by omega)];have h8:(256:Nat)^8=18446744073709551616:=rfl;rw[h8,fN (by omega),aW (by omega)]
 ·obtain⟨m,hm⟩:=bt (show 0<=n+18446744073709551616 by omega);have e:le .i64 8 n=le .i64 8 (m:Int):=by
   unfold le;apply eg;intro i hi;rw[List.mem_range] at hi;rw[PC hi,hm]
  rw[e];unfold nE;rw[rY m 8 (by omega)];have h8:(256:Nat)^8=18446744073709551616:=rfl;rw[h8,fN (by omega)];simp[IntKind.wrap,IntKind.bits,IntKind.signed];split<;>omega
def FE(n:Nat):∀w:Nat,om ((pZ w).map λi=>UInt8.ofNat (n/256^i%256))=n%256^w
 |0=>by simp[om,Nat.mod_one]
 |w+1=>by
  rw[List.range_succ,cY,FG,FE n w,bU,List.length_range,Nat.mod_pow_succ]
  congr 2
  have e:(UInt8.ofNat (n/256^w%256)).toNat=n/256^w%256:=UInt8.toNat_ofNat_of_lt' (Nat.mod_lt _ (by decide));show(UInt8.ofNat (n/256^w%256)).toNat+256* 0=_;rw[e];omega
def XF{n:Nat}(h:n<bG):om (nb n)=n:=by
 unfold nb;rw[FE];exact fN (by unfold bG at h;exact h)
section
variable {r:List UInt8} {n:Int} {m:Nat}
def L0(l:List UInt8)(k:Nat)(hl:l.length=k):gh k (l++r,false)=(r,false):=by
 unfold gh;rw[ag (by simp only[cJ,false_or,aw];omega),vD _ _ k hl]
def QH(l:List UInt8)(k:Nat)(hl:l.length=k):lF k (l++r,false)=nE l:=by
 unfold lF;rw[ag (by simp only[cJ,false_or,aw];omega),tM _ _ k hl]
def rd1(h:0<=n/\n<=255):lF 1 (le .i64 1 n++r,false)=n:=by
 obtain⟨k,rfl⟩:=bt h.1;rw[QH _ _ (aO _ _ _),ou (by rw[aO];omega),rY k 1 (by omega)];have:(256:Nat)^1=256:=rfl;rw[this,fN (by omega)]
def rd2(h:0<=n/\n<=65535):lF 2 (le .i64 2 n++r,false)=n:=by
 obtain⟨k,rfl⟩:=bt h.1;rw[QH _ _ (aO _ _ _),ou (by rw[aO];omega),rY k 2 (by omega)];have:(256:Nat)^2=65536:=rfl;rw[this,fN (by omega)]
def rd4(h:0<=n/\n<=4294967295):lF 4 (le .i64 4 n++r,false)=n:=by
 obtain⟨k,rfl⟩:=bt h.1;rw[QH _ _ (aO _ _ _),ou (by rw[aO];omega),rY k 4 (by omega)];have:(256:Nat)^4=4294967296:=rfl;rw[this,fN (by omega)]
def rd8(h:vS n):lF 8 (le .i64 8 n++r,false)=n:=by
 rw[QH _ _ (aO _ _ _),Sw h]
def Xi(h:m<bG):AQ (nb m++r,false)=m:=by
 unfold AQ Mk;rw[ag (by simp),ag (by show ¬(nb m++r).length<16;rw[aw,sn];omega)];show om ((nb m++r).take 16)=m;rw[tM _ _ 16 (sn m),XF h]
def nx1:gh 1 (le .i64 1 n++r,false)=(r,false):=L0 _ _ (aO _ _ _)
def nx2:gh 2 (le .i64 2 n++r,false)=(r,false):=L0 _ _ (aO _ _ _)
def nx4:gh 4 (le .i64 4 n++r,false)=(r,false):=L0 _ _ (aO _ _ _)
def nx8:gh 8 (le .i64 8 n++r,false)=(r,false):=L0 _ _ (aO _ _ _)
def Ym:gh 16 (nb m++r,false)=(r,false):=L0 _ _ (sn _)
def Gw(a:bJ):Hx (jQ a++r,false)=(r,false):=by
 have e:jQ a++r=nb a.id++(nb a.dp++(nb a.dq++(nb a.cp++(nb a.cq++(le .i64 4 a.ba++(le .i64 2 a.code++(le .i64 2 a.aq++(le .i64 8 a.ay++r)))))))):=by
  unfold jQ;simp[aI]
 rw[e];unfold Hx;simp only[zH,Ym,nx4,nx2,nx8]
def Mh{a:bJ}(ha:xR a)(hg:nq a):Hz (jQ a++r,false)=a:=by
 unfold Hz;rw[Gw,ag (by simp)];have e:jQ a++r=nb a.id++(nb a.dp++(nb a.dq++(nb a.cp++(nb a.cq++(le .i64 4 a.ba++(le .i64 2 a.code++(le .i64 2 a.aq++(le .i64 8 a.ay++r)))))))):=by
  unfold jQ;simp[aI]
 rw[e];simp only[zH,Ym,nx4,nx2,nx8];rw[Xi ha.id,Xi ha.dp,Xi ha.dq,Xi ha.cp,Xi ha.cq,rd4 hg.1,rd2 hg.2.1,rd2 hg.2.2,rd8 ha.ay]
def Mm(t:cM):o0 t++r=nb t.id++(nb t.bw++(nb t.aP++(nb t.aU++(nb t.pending++(le .i64 4 t.cn++(le .i64 4 t.ba++(le .i64 2 t.code++(le .i64 2 t.aq++(le .i64 8 t.ay++(le .i64 8 t.jh++r)))))))))):=by
 unfold o0;simp[aI]
def Cj(t:cM):Hw (o0 t++r,false)=(r,false):=by
 rw[Mm];unfold Hw;simp only[zH,Ym,nx4,nx2,nx8]
def Gx{t:cM}(ht:Ab t)(hg:kL t):Hy (o0 t++r,false)=t:=by
 unfold Hy;rw[Cj,ag (by simp),Mm];simp only[zH,Ym,nx4,nx2,nx8];rw[Xi ht.id,Xi ht.bw,Xi ht.aP,Xi ht.aU,Xi ht.pending,rd4 hg.1,rd4 hg.2.1,rd2 hg.2.2.1,rd2 hg.2.2.2,rd8 ht.ay,rd8 ht.jh]
def GB{α:Type}{nx:RS->RS}{nv:RS->α}{g:α->List UInt8}:∀(l:List α),(∀x∈l,∀r,nx (g x++r,false)=(r,false)/\nv (g x++r,false)=x)->∀r,many nx nv l.length (l.flatMap g++r,false)=(l,(r,false))
 |[],_,r=>rfl
 |x::l,h,r=>by
  rw[bE,rQ,iY,aI,(h x (by simp) _).1,(h x (by simp) _).2,GB l (λy hy=>h y (by simp[hy])) r]
  rfl
end
def canon(q:kh):kh:=if q.op=1 then{q0 with op:=1,aB:=q.aB} else if q.op=2 then{q0 with op:=2,cy:=q.cy} else{q0 with op:=3,now:=q.now}
def C5{q:kh}(hw:k9 q=true)(he:gJ q=true)(hA:∀a∈q.aB,xR a)(hT:∀t∈q.cy,Ab t):iZ (dR q)=(canon q,([],false)):=by
 have YM:q.op=1\/q.op=2\/q.op=3:=aR he;have hf:=nP hw;unfold iZ dR canon;dsimp only;rw[rd1 (by omega),nx1];by_cases o1:q.op=1
 ·have Fa:q.aB.length<=8/\∀a∈q.aB,nq a:=by rcases hf with h|h|h|h|h<;>first|exact h.2|omega
  rw[ai o1,ai o1,ai o1,rd1 (by omega),nx1,ak];have:=GB (nx:=Hx) (nv:=Hz) (g:=jQ) q.aB (λa ha r=>⟨Gw a,Mh (hA a ha) (Fa.2 a ha)⟩) [];rw[bO] at this;rw[this]
 by_cases o2:q.op=2
 ·have Fa:q.cy.length<=8/\∀a∈q.cy,kL a:=by rcases hf with h|h|h|h|h<;>first|exact h.2|omega
  rw[ag o1,ag o1,ag o1,ai o2,ai o2,ai o2,rd1 (by omega),nx1,ak];have:=GB (nx:=Hw) (nv:=Hy) (g:=o0) q.cy (λa ha r=>⟨Cj a,Gx (hT a ha) (Fa.2 a ha)⟩) [];rw[bO] at this;rw[this]
 ·have o3:q.op=3:=by omega
  have Fa:0<=q.now/\q.now<=1099511627776:=by rcases hf with h|h|h|h|h<;>first|exact h.2|omega
  rw[ag o1,ag o1,ag o1,ag o2,ag o2,ag o2,ai o3,ai o3];have e8:le .i64 8 q.now=le .i64 8 q.now++[]:=(bO _).symm;rw[e8,rd8 (by unfold vS;omega),nx8]
def G6(m:aA){q:kh}(he:gJ q=true):bI m (canon q)=bI m q/\lZ (canon q)=lZ q:=by
 have YM:q.op=1\/q.op=2\/q.op=3:=aR he;unfold canon;by_cases o1:q.op=1
 ·rw[ai o1];unfold bI lZ;simp[o1]
 by_cases o2:q.op=2
 ·rw[ag o1,ai o2];unfold bI lZ;simp[o2]
 ·have o3:q.op=3:=by omega
  rw[ag o1,ag o2];unfold bI lZ;simp[o3]
def G7{q:kh}(hw:k9 q=true)(he:gJ q=true):k9 (canon q)=true/\gJ (canon q)=true:=by
 have YM:q.op=1\/q.op=2\/q.op=3:=aR he;unfold k9 pO pU at *;rw[(G6 ⟨[],[],0,0⟩ he).2];unfold gJ canon;by_cases o1:q.op=1
 ·simp[o1] at hw⊢;exact hw
 by_cases o2:q.op=2
 ·simp[o2] at hw⊢;exact hw
 ·have o3:q.op=3:=by omega
  simp[o3] at hw⊢;exact hw
def DS{q:kh}(hw:k9 q=true)(he:gJ q=true)(hA:∀a∈q.aB,xR a)(hT:∀t∈q.cy,Ab t):sh (dR q)=true:=by
 unfold sh;rw[C5 hw he hA hT,(G7 hw he).1];rfl
def sf(e:Int)(res:List Int)(al:List bJ)(tl:List cM):Bool:=
 res.all (λr=>decide (0<=r/\r<=255))&&al.all (λa=>decide (nq a))&&tl.all (λt=>decide (kL t))&&decide (0<=e/\e<=255)&&decide (res.length<=16/\al.length<=16/\tl.length<=16)
def F9(e:Int)(res:List Int)(al:List bJ)(tl:List cM):List UInt8:=
 le .i64 1 e++(le .i64 1 res.length++(res.flatMap (λr=>le .i64 1 r)++(le .i64 1 al.length++(al.flatMap jQ++(le .i64 1 tl.length++tl.flatMap o0)))))
def td(e:Int)(res:List Int)(al:List bJ)(tl:List cM):List UInt8:=if sf e res al tl=true then F9 e res al tl else F9 3 [] [] []
def B8{e:Int}{res:List Int}{al:List bJ}{tl:List cM}(h:sf e res al tl=true):(∀r∈res,0<=r/\r<=255)/\(∀a∈al,nq a)/\(∀t∈tl,kL t)/\(0<=e/\e<=255)/\res.length<=16/\al.length<=16/\tl.length<=16:=by
 unfold sf at h;simp only[dI,ir,decide_eq_true_eq] at h;obtain⟨⟨⟨⟨h1,h2⟩,h3⟩,h4⟩,h5⟩:=h;exact⟨h1,h2,h3,h4,h5⟩
section
variable {W:World} {L R:LH} {K:VK} {X:WK} {p:Nat} {b:aZ}
def Tp{q:Core}{f:Core->LH}[i:Lc (ic p) L q f](hl:q.vs.length<1000000)(h:T W (f {q with vs:=[]}) (K (.tuple ⟨[]⟩))):T W L (na (ah p) K):=by
 refine qQ (p:=p) λb1 c1 b2 c2 b3 c3 hp R2 g1 g2 VI=>?_;unfold na jz;apply ws;intros;refine rv (b:=b1) λvX Jk=>?_;refine Uo (b:=b1) (by rw[oI,Jk];simp) (λv hv=>?_) λzs=>?_
 ·simp only[Builtin.zeroCells,Array.toList_map,cA] at hv;obtain⟨j,_,rfl⟩:=hv;have:(⟨[Value.nilFunc]⟩:Array Value)[j%(⟨[Value.nilFunc]⟩:Array Value).size]! =.nilFunc:=by
   have:j%(⟨[Value.nilFunc]⟩:Array Value).size=0:=Nat.mod_one j;rw[this];rfl
  rw[this];rfl
 apply ws;intros;refine A4 (i:=0) (by omega) ?_;refine CV (b:=b1) (i:=0) (by omega) ?_;apply ws;intros;rw[Nat.zero_mul,ox];exact VI [] {q with vs:=[]} b1 c1 b2 c2 b3 c3 hp _ g1 g2 h
def LA{α:Type}{g:α->LV}{e l:Nat}(h:T W (sT g e l (p,[])::L) X):T W (Sep.pt l [.l none 0 0,.p (some (ad p 0))]::L) X:=λw hw=>by
 have h2:=(hw.push (A:=own none 0 0 e []) (sm e)).perm (bZ.swap _ _ _);exact h w (St.rh (none,0) (St.rF [_,_] L h2))
def Wy(h:∀p la lk ti tn,T W (ic p ⟨la,lk,ti,tn,[],[],[],0,0⟩::sT aL 14 la (p,[])::sT bF 33 lk (p,[])::pF ti (λ_=>none,0)::pF tn (λ_=>none,0)::L) (K (.p (ah p)))):T W L (u5 K):=by
 unfold u5;refine aaG λti=>?_;refine vf ?_;refine aaG λtn=>?_;refine vf ?_;refine dO ⟨rfl,rfl,trivial⟩ ?_;refine uH λr=>?_;unfold qO sW;refine JT ?_;refine dO ⟨rfl,trivial⟩ ?_;refine uH λla=>?_;refine vf ?_;refine dO ⟨rfl,trivial⟩ ?_;refine uH λlk=>?_;refine vf ?_;refine DO (r:=r) (cs:=[.l none 0 0,.p none,.p none,.p (ah ti),.p (ah tn),.l none 0 0,.l none 0 0,.i 0,.i 0]) (o:=1) (v:=.p (ah la)) (by show 1<9;decide) rfl ?_;refine DO (r:=r) (cs:=[.l none 0 0,.p (ah la),.p none,.p (ah ti),.p (ah tn),.l none 0 0,.l none 0 0,.i 0,.i 0]) (o:=2) (v:=.p (ah lk)) (by show 2<9;decide) rfl ?_;refine LA (g:=bF) (e:=33) ?_;refine T.Ow (LA (g:=aL) (e:=14) ?_);refine iB (e:=4) (iB (e:=2) (iB (e:=1) ?_));have:=Bx (W:=W) (p:=r) (q:=⟨la,lk,ti,tn,[],[],[],0,0⟩) (b1:=none) (c1:=0) (b2:=none) (c2:=0) (b3:=none) (c3:=0) (h:=[]) (X:=K (.p (ah r))) (λj hj x y hx=>by simp at hx) (bZ.refl _) (h r la lk ti tn);refine T.perm this ?_;exact(bp (l₁:=[_,_,_,_,_]) (l₂:=[_])|>.append_right (_::_::L)).trans (bZ.append_left [_,_,_,_,_,_] (bZ.swap _ _ _))
def Jf{α:Type}{key:α->Nat}{l:List α}(hn:(l.map key).Nodup){i:Nat}{x:α}(hx:l[i]?=some x):(l.take i).find? (λa=>key a=key x)=none:=by
 obtain⟨hi,rfl⟩:=ao.1 hx;rw[nJ];intro a ha hk;obtain⟨j,hj,rfl⟩:=List.getElem_of_mem ha;rw[aD] at hj;rw[List.getElem_take] at hk;have:=qx.1 hn j i (by simpa using by omega) (by simpa using hi) (by omega);simp only[List.getElem_map] at this;exact this (by simpa using hk)
def HN(l:List ch)(j:Nat):fH 0 (l.take j)=(fH 0 l).take j:=by
 apply qN;intro i;rw[mH,sH,sH,mH];split<;>rfl
def acC(hg:ft b){sa sk:OA}{ca ck:Nat}[hh:Has R L](hA:mZ W R aL 14 sa b.aB)(hK:mZ W R bF 33 sk b.ax)
 (h:∀p,T W (cL p (b,[])::L) (K (.tuple ⟨[.p (ah p),.i 0]⟩))):T W L (eX sa b.aB.length ca sk b.ax.length ck b.clock b.ay K):=by
 have og:=hg.og;have many:=hg.many;have uZ:=hg.ay;have hck:=hg.clock;unfold eX;refine Wy λp la lk ti tn=>?_;refine vf ?_;refine fW (by simp;omega) ?_;unfold eX.j3;rw[show decide (((b.ax.length:Nat):Int)>96)=false by simp;omega,eK];unfold eX.j4;rw[show decide (b.clock<0)=false by simp;omega,eK];unfold eX.j5;rw[show decide (b.clock>1099511627776)=false by simp;omega,eK];refine fW (by simp;omega) ?_;rw[show decide (b.ay>1099511627776)=false by simp;omega];unfold eX.j1;rw[eK];intro w hw0;refine⟨λvv w=>∃(i:Nat)(vs:LV),i<=b.aB.length/\vs.length=i/\vv=[.p none,.i 0,.p (ah p),.l sa b.aB.length ca,.i (b.aB.length:Int),.i (i:Int)]/\
                                                                                                                                                                      St W w (ic p ⟨la,lk,ti,tn,vs,[],[],0,0⟩::sT aL 14 la (p,b.aB.take i)::sT bF 33 lk (p,[])::pF ti (Km (b.aB.take i))::pF tn (λ_=>none,0)::L),
  λvs _=>match vs with|[_,_,_,_,_,.int _ d]=>b.aB.length-d.toNat|_=>0,⟨0,[],aE _,rfl,rfl,hw0⟩,?_⟩
 rintro p2 n3 p3 qU pn qS n4 n5 w2 ⟨i,vs,hi,hvs,e,hO⟩;cases e
 refine T.at ?_ hO;have e5:=nK i;apply ga<;>intro g1
 ·have bX:i<b.aB.length:=by omega
  have gx:=aj bX;generalize b.aB[i]=x at gx;have SY:=Jf (key:=λx:bJ=>x.id) hg.ids gx;have o7:(Km (b.aB.take i)).1 x.id=none:=by show zh _ _=_;rw[re (key:=λx:bJ=>x.id) SY];rfl
  have EF:(b.aB.take i).length=i:=by rw[aD];omega
  have hsn:=Cq (key:=λx:bJ=>x.id) SY;have rI:b.aB.take (i+1)=b.aB.take i++[x]:=by rw[bg,gx];rfl
  refine iU hA ⟨by omega,by omega⟩ rfl λa ha=>?_;rw[ak];refine jR hA ha gx rfl ?_;apply ws;intros;refine Eu (t:=ti) (x:=Km (b.aB.take i)) ?_;rw[o7];simp only[fp,gV];apply ws;intros;refine Xh (p:=p) (l:=la) (x:=x) (items:=b.aB.take i) (by rw[EF];omega) (by show vs.length<_;omega) λr3 r4=>?_;apply ws;intros;refine RK (t:=ti) (x:=Km (b.aB.take i)) (by show(b.aB.take i).length<=1000;omega) o7 ?_;apply ws;intros;rw[e5];refine T.drop (T.drop (T.drop ?_));refine λw3 h3=>⟨⟨i+1,vs++[CE r3 r4],bX,by simp;omega,rfl,?_⟩,by show b.aB.length-((i+1:Nat):Int).toNat<b.aB.length-(i:Int).toNat;omega⟩;rw[rI];rw[show Km (b.aB.take i++[x])=_ from hsn];exact h3
 ·have jk:i=b.aB.length:=by omega
  subst jk;rw[aS];intro w3 hw3;refine⟨λvv w=>∃(j:Nat)(vs:LV),j<=b.ax.length/\vs.length<=1000+j/\vv=[.p none,.i 0,.p (ah p),.l sk b.ax.length ck,.i (b.ax.length:Int),.i (j:Int)]/\
              St W w (ic p ⟨la,lk,ti,tn,vs,fH 0 (b.ax.take j),(b.ax.take j).filterMap gB,0,0⟩::sT aL 14 la (p,b.aB)::sT bF 33 lk (p,b.ax.take j)::pF ti (Km b.aB)::pF tn (HB (b.ax.take j))::L),
   λvs _=>match vs with|[_,_,_,_,_,.int _ d]=>b.ax.length-d.toNat|_=>0,⟨0,vs,aE _,by omega,rfl,hw3⟩,?_⟩
  rintro p7 n8 p8 tD sK tC n9 Bg w5 ⟨j,zo,hj,afi,e,Q'⟩;cases e
  refine T.at ?_ Q';have e6:=nK j;apply ga<;>intro g1
  ·have bX:j<b.ax.length:=by omega
   have gx:=aj bX;have gk:=hg.TJ _ (bP bX);have MI:∀k∈b.ax.take j,k.move.ay<(b.ax[j]'bX).move.ay:=λk hk=>by
    obtain⟨m,hm,rfl⟩:=List.getElem_of_mem hk;rw[aD] at hm;rw[List.getElem_take];exact qx.1 hg.rising m j (by omega) bX (by omega)
   generalize b.ax[j]=x at gx gk MI;have SY:=Jf (key:=λx:ch=>x.move.id) hg.names gx;have o7:(HB (b.ax.take j)).1 x.move.id=none:=by show zh _ _=_;rw[re (key:=λx:ch=>x.move.id) SY];rfl
   have EF:(b.ax.take j).length=j:=by rw[aD];omega
   have hsn:=Cq (key:=λx:ch=>x.move.id) SY;have rI:b.ax.take (j+1)=b.ax.take j++[x]:=by rw[bg,gx];rfl
   have adx:tv (fH 0 (b.ax.take j)):=by rw[HN];exact List.Pairwise.sublist (List.take_sublist _ _) hg.zy
   refine iU hK ⟨by omega,by omega⟩ rfl λa ha=>?_;rw[ak];refine jR hK ha gx rfl ?_;apply ws;intros;rename_i r2;refine Eu (t:=tn) (x:=HB (b.ax.take j)) ?_;rw[o7];simp only[fp,gV];apply ws;intros;refine fW (by have:=gk.fate;simp;omega) ?_;apply ws;intros;refine fW (by have:=gk.fate;simp;omega) ?_;apply ws;intros;refine PU (l:=lk) ?_;rw[EF];apply ws;intros;refine Rv (p:=p) adx (by rw[mG];omega) (λy hy=>?_) ?_
   ·obtain⟨k,hk,e⟩:=BX hy;rw[e];exact MI k hk
   apply ws;intros;unfold eX.j2;rw[Bool.not_true,eK];apply ws;intros;refine Xa (p:=p) (l:=lk) (x:=x) (items:=b.ax.take j) (by rw[EF];omega) (by show zo.length<_;omega) λr3 r4=>?_;rw[EF];apply ws;intros;refine RK (t:=tn) (x:=HB (b.ax.take j)) (by show(b.ax.take j).length<=1000;omega) o7 ?_;apply ws;intros;refine V9 (k:=x) gk ?_;apply ws;intros;rename_i r5;rw[e6];have H7:fH 0 (b.ax.take (j+1))=fH 0 (b.ax.take j)++[(x.move.ay,(j:Int))]:=by rw[rI,wR,EF,aC]
   have adM:HB (b.ax.take (j+1))=(xW (HB (b.ax.take j)).1 x.move.id (some (j:Int)),(HB (b.ax.take j)).2+1):=by rw[rI];rw[show HB (b.ax.take j++[x])=_ from hsn,EF]
   cases hd:gB x with
   |none=>
    simp only[fp];apply ws;intros;refine T.drop (T.drop (T.drop (T.drop ?_)));refine λw3 h3=>⟨⟨j+1,zo++[wF r3 r4],bX,by simp;omega,rfl,?_⟩,by show b.ax.length-((j+1:Nat):Int).toNat<b.ax.length-(j:Int).toNat;omega⟩;have Xr:(b.ax.take (j+1)).filterMap gB=(b.ax.take j).filterMap gB:=by rw[rI,List.filterMap_append];simp[hd]
    rw[H7,adM,Xr,rI];exact h3
   |some y=>
    have ey:Pr x=y:=by
     unfold gB at hd;split at hd
     ·cases hd;rfl
     ·cases hd
    simp only[dG];rw[ey];apply ws;intros;simp only[ig,aC];refine KJ (p:=p) (e':=(b.ax.take j).filterMap gB++[y]) (by
     have:=List.length_filterMap_le gB (b.ax.take j)
     show((b.ax.take j).filterMap gB).length<_
     omega) (bZ.refl _) ?_
    apply ws;intros;refine T.drop (T.drop (T.drop (T.drop ?_)));refine λw3 h3=>⟨⟨j+1,zo++[wF r3 r4],bX,by simp;omega,rfl,?_⟩,by show b.ax.length-((j+1:Nat):Int).toNat<b.ax.length-(j:Int).toNat;omega⟩;have Xr:(b.ax.take (j+1)).filterMap gB=(b.ax.take j).filterMap gB++[y]:=by rw[rI,List.filterMap_append];simp[hd]
    rw[H7,adM,Xr,rI];exact h3
  ·have jk:j=b.ax.length:=by omega
   subst jk;rw[aS];apply ws;intros;refine Oi (p:=p) ?_;apply ws;intros;refine Oh (p:=p) ?_;apply ws;intros;refine Tp (p:=p) (by show zo.length<_;omega) ?_;apply ws;intros;have fin:=h p;intro w7 hw7;have h2:=hw7.push (A:=xd []) trivial;refine Fj (p:=p) (la:=la) (lk:=lk) (ti:=ti) (tn:=tn) (vs:=[]) (bx:=[]) (c:=fY b) (hs:=[]) (R:=L) trivial (λw hw=>fin w (St.and_intro hg hw)) w7 ?_;exact h2.perm (bp (l₁:=[xd []]) (l₂:=[_,_,_,_,_])|>.append_right L)
end
def qe(k:ch):List UInt8:=o0 k.asked++o0 k.move++le .i64 1 k.fate
def xu(k:ch):(qe k).length=217:=by unfold qe;rw[aw,aw,pT,pT,aO]
def AV(b:aZ):List UInt8:=le .i64 1 1++le .i64 8 b.clock++le .i64 8 b.ay++le .i64 2 (b.aB.length:Int)++le .i64 2 (b.ax.length:Int)
def Jn(b:aZ):(AV b).length=21:=by simp only[AV,aw,aO]
def cQ(b:aZ):List UInt8:=AV b++b.aB.flatMap jQ++b.ax.flatMap qe
section
variable {W:World} {L R:LH} {K:VK} {X:WK} {p:Nat} {b:aZ} {hs:List C} {f:aZ×List C->LH}
def AA[i:Lc (cL p) L (b,hs) f](h:T W L (K (.i b.clock))):T W L (iS (ah p) K):=by
 have hL:f (b,hs)=L:=i.same;refine NP (p:=p) λla lk ti tn vs bx R hg hc qj=>?_;have fin:=qj [] b hs vs bx _ hg hc (by rw[hL];exact h);unfold iS;apply ws;intros;exact fin
def Av[i:Lc (cL p) L (b,hs) f](h:T W L (K (.i b.ay))):T W L (ie (ah p) K):=by
 have hL:f (b,hs)=L:=i.same;refine NP (p:=p) λla lk ti tn vs bx R hg hc qj=>?_;have fin:=qj [] b hs vs bx _ hg hc (by rw[hL];exact h);unfold ie;apply ws;intros;exact fin
def qw[i:Lc (cL p) L (b,hs) f](h:∀bb c,T W (own bb b.aB.length c 14 (b.aB.flatMap aL)::L) (K (.l bb b.aB.length c))):T W L (fk (ah p) K):=by
 have hL:f (b,hs)=L:=i.same;refine NP (p:=p) λla lk ti tn vs bx R hg hc qj=>?_;have og:=hg.og;unfold fk;apply ws;intros;refine acK (l:=la) (by show b.aB.length<_;omega) λbb c=>?_;apply ws;intros;exact qj [_] b hs vs bx _ hg hc (by rw[hL];exact h bb c)
def uR[i:Lc (cL p) L (b,hs) f](h:∀bb c,T W (own bb b.ax.length c 33 (b.ax.flatMap bF)::L) (K (.l bb b.ax.length c))):T W L (fZ (ah p) K):=by
 have hL:f (b,hs)=L:=i.same;refine NP (p:=p) λla lk ti tn vs bx R hg hc qj=>?_;have many:=hg.many;unfold fZ;apply ws;intros;refine acE (l:=lk) (by show b.ax.length<_;omega) λbb c=>?_;apply ws;intros;exact qj [_] b hs vs bx _ hg hc (by rw[hL];exact h bb c)
def IE[i:Lc (cL p) L (b,hs) f](h:T W L (K (.s (bs (cQ b))))):T W L (tQ (ah p) K):=by
 refine qP (p:=p) λhg=>?_;have og:=hg.og;have many:=hg.many;unfold tQ;refine Uq ?_;refine uH λr1=>?_;refine Oj ?_;refine sB (by simp) (BV ?_);refine AA (p:=p) (nQ ?_);refine Au (by simp only[aw,cO,aO];omega) (BV ?_);refine Av (p:=p) (nQ ?_);refine Au (by simp only[aw,cO,aO];omega) (BV ?_);refine qw (p:=p) λb1 c1=>?_;refine um ?_;refine Fk (by simp only[aw,cO,aO];omega) (BV ?_);refine uR (p:=p) λb2 c2=>?_;refine um ?_;refine Fk (by simp only[aw,cO,aO];omega) (BV ?_);refine qw (p:=p) λb3 c3=>?_;refine um ?_;have e0:[]++le .i64 1 1++le .i64 8 b.clock++le .i64 8 b.ay++le .i64 2 (b.aB.length:Int)++le .i64 2 (b.ax.length:Int)=AV b:=by unfold AV;simp
 rw[e0];intro w hw0;refine⟨λvv w=>∃i:Nat,i<=b.aB.length/\vv=[.s .empty,.p (some (ad r1 0)),.l b3 b.aB.length c3,.i (b.aB.length:Int),.i (i:Int)]/\
    St W w (own b3 b.aB.length c3 14 (b.aB.flatMap aL)::own b2 b.ax.length c2 33 (b.ax.flatMap bF)::own b1 b.aB.length c1 14 (b.aB.flatMap aL)::buf r1 (AV b++(b.aB.take i).flatMap jQ)::L),
  λvs _=>match vs with|[_,_,_,_,.int _ d]=>b.aB.length-d.toNat|_=>0,⟨0,aE _,rfl,by simpa using hw0⟩,?_⟩
 rintro s1 a1 tD sK tC n3 n4 w2 ⟨i,hi,e,hO⟩;cases e
 refine T.at ?_ hO;have e5:=nK i;have hlen:(AV b++(b.aB.take i).flatMap jQ).length<=21+32* 96:=by
  rw[aw,Jn,eB oT,aD];have:min i b.aB.length* 96<=32* 96:=iI _ (by omega);omega
 apply ga<;>intro g1
 ·have bX:i<b.aB.length:=by omega
  have gx:=aj bX;have gm:=(hg.T0 _ (bP bX)).zP;generalize b.aB[i]=x at gx gm;refine dL (b:=b3) ⟨by omega,by omega⟩ λrb hb=>?_;subst hb;rw[ak];refine gT (λ_=>rfl) gx ?_
  repeat' first|apply ws;intros|apply wb|with_reducible refine WJ gm (by omega) ?_|fail
  rw[e5];refine T.drop λw3 h3=>⟨⟨i+1,bX,rfl,?_⟩,by show b.aB.length-((i+1:Nat):Int).toNat<b.aB.length-(i:Int).toNat;omega⟩;rw[bg,gx,gA];simpa [aI] using h3
 ·have jk:i=b.aB.length:=by omega
  subst jk;rw[aS] at hlen⊢;refine uR (p:=p) λb5 c5=>?_;refine um ?_;intro w4 hw4;refine⟨λvv w=>∃j:Nat,j<=b.ax.length/\vv=[.s .empty,.p (some (ad r1 0)),.l b5 b.ax.length c5,.i (b.ax.length:Int),.i (j:Int)]/\
              St W w (own b5 b.ax.length c5 33 (b.ax.flatMap bF)::own b3 b.aB.length c3 14 (b.aB.flatMap aL)::own b2 b.ax.length c2 33 (b.ax.flatMap bF)::own b1 b.aB.length c1 14 (b.aB.flatMap aL)::buf r1 (AV b++b.aB.flatMap jQ++(b.ax.take j).flatMap qe)::L),
   λvs _=>match vs with|[_,_,_,_,.int _ d]=>b.ax.length-d.toNat|_=>0,⟨0,aE _,rfl,by simpa using hw4⟩,?_⟩
  rintro s2 a3 B0 BF BG n5 n6 w5 ⟨j,hj,e,Q'⟩;cases e
  refine T.at ?_ Q';have e6:=nK j;have AT:(AV b++b.aB.flatMap jQ++(b.ax.take j).flatMap qe).length<=21+32* 96+96* 217:=by
   rw[aw,eB xu,aD];have:min j b.ax.length* 217<=96* 217:=iI _ (by omega);omega
  apply ga<;>intro g1
  ·have bX:j<b.ax.length:=by omega
   have gx:=aj bX;have gm:=hg.TJ _ (bP bX);generalize b.ax[j]=x at gx gm;refine dL (b:=b5) ⟨by omega,by omega⟩ λrb hb=>?_;subst hb;rw[ak];refine gT (λ_=>rfl) gx ?_
   repeat' first|apply ws;intros|apply wb|with_reducible refine Ol gm.PM (by omega) ?_|fail
   refine Ol gm.QT (by rw[aw,pT];omega) (BV ?_)
   repeat' first|apply ws;intros|apply wb|with_reducible refine sB (by simp only[aw,pT] at AT⊢;omega) ?_|fail
   rw[e6];refine T.drop λw3 h3=>⟨⟨j+1,bX,rfl,?_⟩,by show b.ax.length-((j+1:Nat):Int).toNat<b.ax.length-(j:Int).toNat;omega⟩;rw[bg,gx,gA];simpa [aI,qe] using h3
  ·have jk:j=b.ax.length:=by omega
   subst jk;rw[aS];refine tu (p:=r1) (y7 ?_);exact T.dp h
end
section
variable {W:World} {L R:LH} {K:VK} {X:WK} {p:Nat} {b:aZ}
def ye{b:aZ}(hg:ft b):(cQ b).length=21+b.aB.length* 96+b.ax.length* 217:=by
 unfold cQ;rw[aw,aw,Jn,eB oT,eB xu]
def LJ(hg:ft b)(h:∀p,T W (cL p (b,[])::L) (K (.tuple ⟨[.p (ah p),.i 0]⟩))):T W L (pk (bs (cQ b)) K):=by
 have og:=hg.og;have many:=hg.many;have uZ:=hg.ay;have hck:=hg.clock;have hlen:=ye hg;have yw:cQ b=le .i64 1 1++(le .i64 8 b.clock++(le .i64 8 b.ay++(le .i64 2 (b.aB.length:Int)++(le .i64 2 (b.ax.length:Int)++(b.aB.flatMap jQ++b.ax.flatMap qe))))):=by
  unfold cQ AV;simp only[aI]
 unfold pk;refine Uv λr=>?_;refine vf ?_;refine wL (by show(cQ b).length<_;omega) (nQ ?_);rw[yw];rw[rd1 (by omega),nx1];refine fW (by decide) ?_;have SW:(le .i64 8 b.clock++(le .i64 8 b.ay++(le .i64 2 (b.aB.length:Int)++(le .i64 2 (b.ax.length:Int)++(b.aB.flatMap jQ++b.ax.flatMap qe))))).length<1099511627776:=by
  rw[yw,aw] at hlen;omega
 refine yM SW (nQ ?_);rw[rd8 (by unfold vS;omega),nx8];rw[aw] at SW;have Xp:(le .i64 8 b.ay++(le .i64 2 (b.aB.length:Int)++(le .i64 2 (b.ax.length:Int)++(b.aB.flatMap jQ++b.ax.flatMap qe)))).length<1099511627776:=by omega
 refine yM Xp (nQ ?_);rw[rd8 (by unfold vS;omega),nx8];rw[aw] at Xp;have hl4:(le .i64 2 (b.aB.length:Int)++(le .i64 2 (b.ax.length:Int)++(b.aB.flatMap jQ++b.ax.flatMap qe))).length<1099511627776:=by omega
 refine Fm hl4 (nQ ?_);rw[rd2 (by omega),nx2];rw[aw] at hl4;have hl5:(le .i64 2 (b.ax.length:Int)++(b.aB.flatMap jQ++b.ax.flatMap qe)).length<1099511627776:=by omega
 refine Fm hl5 (nQ ?_);rw[rd2 (by omega),nx2];refine Aw (r:=r) (oU ?_);rw[eK];refine ZH (r:=r) (nQ ?_);have GM:(b.aB.flatMap jQ++b.ax.flatMap qe).length=b.aB.length* 96+b.ax.length* 217:=by
  rw[aw,eB oT,eB xu]
 have e1:aa.wrap ((b.aB.length:Int)* 96)=(b.aB.length:Int)* 96:=aW (by omega);have e2:aa.wrap ((b.ax.length:Int)* 217)=(b.ax.length:Int)* 217:=aW (by omega);have e3:aa.wrap ((b.aB.length:Int)* 96+(b.ax.length:Int)* 217)=(b.aB.length:Int)* 96+(b.ax.length:Int)* 217:=aW (by omega);rw[e1,e2,e3];rw[ag (by simp),show((((b.aB.flatMap jQ++b.ax.flatMap qe).length:Nat):Int)!=(b.aB.length:Int)* 96+(b.ax.length:Int)* 217)=false by rw[GM];simp];unfold pk.j1;rw[eK];refine iB (e:=14) ?_;intro w hw0;refine⟨λvv w=>∃(i:Nat)(bo:OA)(cc:Nat),i<=b.aB.length/\vv=[.p none,.i 0,.p (ah r),.i b.clock,.i b.ay,.i (b.ax.length:Int),.l bo (b.aB.take i).length cc,.i (b.aB.length:Int),.i (i:Int)]/\
                                                                                                                                                                                                                                                                                           St W w (own bo (b.aB.take i).length cc 14 ((b.aB.take i).flatMap aL)::rd r ((b.aB.drop i).flatMap jQ++b.ax.flatMap qe,false)::L),
  λvs _=>match vs with|[_,_,_,_,_,_,_,_,.int _ d]=>b.aB.length-d.toNat|_=>0,⟨0,none,0,aE _,rfl,hw0⟩,?_⟩
 rintro p2 n6 p3 n7 n8 n9 bo s8 cc Bg Bf w2 ⟨i,b0,c0,hi,e,hO⟩;cases e
 refine T.at ?_ hO;have e5:=nK i;have EF:(b.aB.take i).length=i:=by rw[aD];omega
 apply ga<;>intro g1
 ·have bX:i<b.aB.length:=by omega
  have gm:=hg.T0 _ (bP bX);have gx:=aj bX;have hdr:b.aB.drop i=b.aB[i]::b.aB.drop (i+1):=ij bX;generalize b.aB[i]=x at gm gx hdr;have CO:(b.aB.drop i).flatMap jQ++b.ax.flatMap qe=jQ x++((b.aB.drop (i+1)).flatMap jQ++b.ax.flatMap qe):=by rw[hdr,iY,aI]
  have Jk:((b.aB.drop i).flatMap jQ++b.ax.flatMap qe).length<1099511627776:=by
   rw[aw,eB oT,eB xu,aT];have:(b.aB.length-i)* 96<=32* 96:=iI _ (by omega);have:b.ax.length* 217<=96* 217:=iI _ (by omega);omega
  rw[CO] at Jk⊢;refine WL Jk ?_;rw[Gw,Mh gm.ok gm.zP];apply ws;intros;refine jS (b:=bo) (x:=x) rfl rfl rfl (by omega) (by omega) (iT _) λb2 c2=>?_;rw[e5];have rI:b.aB.take (i+1)=b.aB.take i++[x]:=by rw[bg,gx];rfl
  refine T.drop λw3 h3=>⟨⟨i+1,b2,c2,bX,?_,?_⟩,by show b.aB.length-((i+1:Nat):Int).toNat<b.aB.length-(i:Int).toNat;omega⟩
  ·rw[rI];simp
  ·rw[rI];simpa using h3
 ·have jk:i=b.aB.length:=by omega
  subst jk;rw[aS,List.drop_length,List.flatMap_nil,cw];refine iB (e:=33) ?_;intro w3 hw3;refine⟨λvv w=>∃(j:Nat)(bk:OA)(ck:Nat),j<=b.ax.length/\vv=[.p none,.i 0,.p (ah r),.i b.clock,.i b.ay,.l bo b.aB.length cc,.l bk (b.ax.take j).length ck,.i (b.ax.length:Int),.i (j:Int)]/\
              St W w (own bk (b.ax.take j).length ck 33 ((b.ax.take j).flatMap bF)::own bo b.aB.length cc 14 (b.aB.flatMap aL)::rd r ((b.ax.drop j).flatMap qe,false)::L),
   λvs _=>match vs with|[_,_,_,_,_,_,_,_,.int _ d]=>b.ax.length-d.toNat|_=>0,⟨0,none,0,aE _,rfl,hw3⟩,?_⟩
  rintro p4 DZ p5 Dc SC qU pn qS bk sK ck n15 zH w5 ⟨j,b1,c1,hj,e,Q'⟩;cases e
  refine T.at ?_ Q';have e6:=nK j;have aiF:(b.ax.take j).length=j:=by rw[aD];omega
  apply ga<;>intro g2
  ·have bX:j<b.ax.length:=by omega
   have gm:=hg.TJ _ (bP bX);have gx:=aj bX;have hdr:b.ax.drop j=b.ax[j]::b.ax.drop (j+1):=ij bX;generalize b.ax[j]=x at gm gx hdr;have CO:(b.ax.drop j).flatMap qe=o0 x.asked++(o0 x.move++(le .i64 1 x.fate++(b.ax.drop (j+1)).flatMap qe)):=by rw[hdr,iY];simp[qe,aI]
   have Jk:((b.ax.drop j).flatMap qe).length<1099511627776:=by
    rw[eB xu,aT];have:(b.ax.length-j)* 217<=96* 217:=iI _ (by omega);omega
   rw[CO] at Jk⊢;have adH:(o0 x.move++(le .i64 1 x.fate++(b.ax.drop (j+1)).flatMap qe)).length<1099511627776:=by rw[aw] at Jk;omega
   have aft:(le .i64 1 x.fate++(b.ax.drop (j+1)).flatMap qe).length<1099511627776:=by rw[aw] at adH;omega
   refine Om Jk ?_;rw[Cj,Gx gm.asked gm.PM];apply ws;intros;refine Om adH ?_;rw[Cj,Gx gm.move gm.QT];apply ws;intros;refine wL aft (nQ ?_);rw[rd1 (by have:=gm.fate;omega),nx1];refine dO ⟨rfl,rfl,rfl,trivial⟩ ?_;refine dO ⟨rfl,trivial⟩ ?_;refine uH λr3=>?_;refine jS (b:=bk) (x:=x) (by show(aM x.asked++(aM x.move++[.i x.fate]))++[]=bF x;rw[bO];rfl) rfl rfl (by omega) (by omega) (ni _) λb2 c2=>?_;rw[e6];have rI:b.ax.take (j+1)=b.ax.take j++[x]:=by rw[bg,gx];rfl
   refine T.drop λw6 h6=>⟨⟨j+1,b2,c2,bX,?_,?_⟩,by show b.ax.length-((j+1:Nat):Int).toNat<b.ax.length-(j:Int).toNat;omega⟩
   ·rw[rI];simp
   ·rw[rI];simpa using h6
  ·have jk:j=b.ax.length:=by omega
   subst jk;rw[aS,List.drop_length,List.flatMap_nil];refine acC (R:=own bk b.ax.length ck 33 (b.ax.flatMap bF)::own bo b.aB.length cc 14 (b.aB.flatMap aL)::rd r ([],false)::L) hg ?_ (mZ.own (λ_=>rfl) rfl) λp=>?_
   ·have:=mZ.own (W:=W) (L:=rd r ([],false)::L) (b:=bo) (n:=b.aB.length) (c:=cc) (e:=14) (g:=aL) (xs:=b.aB) (λ_=>rfl) rfl;exact this.mono
   apply ws;intros;refine fW (by decide) ?_;refine W2 (r:=r) (oU ?_);refine T.sub (h p) ?_;exact qo
end
end Go.Up
namespace Go.Sep
open Go.Den Go.RowKit Go.Prog Go.cF
def qq{D:aX}{a toX q a2:Int}{s:List UInt8}(h:my D a toX q=some (s,a2)):a<a2/\a2<=toX/\0<=a/\toX<=(D.safe.length:Int)/\s.length<=32768/\a2=a+(gN (12+s.length):Int):=by
 unfold my at h;split at h
 ·cases h
 rename_i ha;split at h
 ·cases h
 rename_i m j d hv;split at h
 ·cases h
 rename_i hj;split at h
 ·cases h
 rename_i hc;split at h
 ·cases h
 rename_i t ht;obtain⟨l1,l2,l3,l4,l5⟩:=take_length ht;simp only[aY.injEq,Prod.mk.injEq] at h;obtain⟨h1,h2⟩:=h;subst h1;have hn: ¬32768<lF 4 (gh 8 (d.data.toList,false)):=λhh=>hc (.inr hh);have h4:=Ki (gh 8 (d.data.toList,false));generalize lF 4 (gh 8 (d.data.toList,false))=n6 at *;have hp:=sx (12+n6).toNat;have e:(12+n6).toNat=12+(t.drop 12).length:=by rw[aT];omega
 rw[e] at h2 l3 hp;rw[<-h2];have hl:(t.drop 12).length=t.length-12:=aT;exact⟨by omega,by omega,l2,l4,by omega,rfl⟩
def AO(D:aX)(toX:Int):Nat->Int->Int->List (List UInt8)×Int×Int
 |0,a,q=>([],a,q)
 |f+1,a,q=>match my D a toX (q+1) with
  |none=>([],a,q)
  |some (s,a2)=>(s::(AO D toX f a2 (q+1)).1,(AO D toX f a2 (q+1)).2)
def lh(D:aX)(toX a q:Int):List (List UInt8)×Int×Int:=AO D toX (toX-a).toNat a q
def Db{D:aX}{a toX q:Int}(h:toX<=a):my D a toX q=none:=by unfold my;rw[ai h]
def Ch{D:aX}{toX:Int}:∀(f f':Nat)(a q:Int),(toX-a).toNat<=f->(toX-a).toNat<=f'->AO D toX f a q=AO D toX f' a q
 |0,f',a,q,h1,h2=>by
  have hn:=Db (D:=D) (a:=a) (toX:=toX) (q:=q+1) (by omega);cases f' with
  |zero=>rfl
  |succ f'=>simp only[AO,hn]
 |f+1,0,a,q,h1,h2=>by
  have hn:=Db (D:=D) (a:=a) (toX:=toX) (q:=q+1) (by omega);simp only[AO,hn]
 |f+1,f'+1,a,q,h1,h2=>by
  simp only[AO];cases hn:my D a toX (q+1) with
  |none=>rfl
  |some y=>
   obtain⟨s,a2⟩:=y;have:=qq hn;dsimp only;rw[Ch f f' a2 (q+1) (by omega) (by omega)]
def Gr{D:aX}{toX a q:Int}(h:my D a toX (q+1)=none):lh D toX a q=([],a,q):=by
 unfold lh;cases hf:(toX-a).toNat with
 |zero=>rfl
 |succ f=>simp only[AO,h]
def Gs{D:aX}{toX a q a2:Int}{s:List UInt8}(h:my D a toX (q+1)=some (s,a2)):lh D toX a q=(s::(lh D toX a2 (q+1)).1,(lh D toX a2 (q+1)).2):=by
 have hi:=qq h;unfold lh;obtain⟨f,hf⟩:∃f,(toX-a).toNat=f+1:=⟨(toX-a).toNat-1,by omega⟩;rw[hf];simp only[AO,h];rw[Ch f (toX-a2).toNat a2 (q+1) (by omega) (by omega)]
section
variable {W w:World} {L:LH} {k d:Nat} {D:aX}
def HX(l:List UInt8):Value:=.s (bs l)
def Ma{lo hi:Int}{K:VK}(h:St W w L)(hk:L[k]?=some (gU d D))(hK:K (.b (decide (0<=lo/\lo<hi/\hi<=(D.safe.length:Int)))) w):sq (ah d) lo hi K w:=by
 have no: ¬(0<=lo/\lo<hi/\hi<=(D.safe.length:Int))->K (.b false) w:=λhn=>by rw[ar hn] at hK;exact hK
 unfold sq;refine gj (λh1=>?_) (λh1=>no (by omega));refine gj (λh2=>?_) (λh2=>no (by omega));refine oe h hk ?_;simp only[nz,ae,af];have:decide (hi<=(D.safe.length:Int))=decide (0<=lo/\lo<hi/\hi<=(D.safe.length:Int)):=by rw[decide_eq_decide];omega
 rw[this];exact hK
def TA{lo hi q:Int}{K:VK}(h:St W w L)(hk:L[k]?=some (gU d D))(iH:D.Ok)(hp:0<=lo/\lo<hi/\hi<=(D.safe.length:Int))(hq:0<=q/\q<=1152921504606846976)
 (hK:∀r b c w',(∃n:Nat,n<=4096/\(lh D hi lo q).1.length=n/\(lh D hi lo q).2.2=q+n/\lo<=(lh D hi lo q).2.1/\(lh D hi lo q).2.1<=hi)->St W w' (own b (lh D hi lo q).1.length c 1 ((lh D hi lo q).1.map HX)::pt r (sr d ⟨lo,hi,(lh D hi lo q).2.1,(lh D hi lo q).2.2,false⟩)::L)->
  K (.tuple ⟨[.p (ah r),.l b (lh D hi lo q).1.length c,.i 0]⟩) w'):lq (ah d) lo hi q K w:=by
 have xy:=iH.og;unfold lq;simp only[nz,ae,af];refine Ma h hk ?_;rw[av hp];simp only[nz,ae,af];refine gj (λh1=>by omega) (λ_=>?_);have e0:decide (q>1152921504606846976)=false:=ar (by omega);rw[e0];unfold lq.j1;simp only[nz,ae,af];refine jq h λr w h=>?_;have h0:=h.push (A:=own none 0 0 1 (([]:List (List UInt8)).map HX)) (sm 1);refine⟨λus w'=>∃(acc:List (List UInt8))(a:Int)(b:OA)(n c:Nat),us=[.p none,.l none 0 0,.i 0,.p (ah r),.l b n c]/\acc.length=n/\lo+n<=a/\a<=hi/\
                                                                   lh D hi lo q=(acc++(lh D hi a (q+n)).1,(lh D hi a (q+n)).2)/\St W w' (own b n c 1 (acc.map HX)::pt r (sr d ⟨lo,hi,a,q+n,false⟩)::L),
  λus _=>match us with|[_,_,_,_,.slice _ n _]=>5000-n|_=>0,⟨[],lo,none,0,0,rfl,rfl,by omega,by omega,by simp,?_⟩,?_⟩
 ·have:sr d ⟨lo,hi,lo,q+((0:Nat):Int),false⟩=[.p (ah d),.i lo,.i hi,.i lo,.i q,.b false]:=by
   rw[show q+((0:Nat):Int)=q from by omega];rfl
  rw[this];exact h0
 rintro p2 uK s8 uU n4 a1 jT jd ku w2 ⟨acc,a,b,n,c,he,hn,ha,hah,ho,h⟩;cases he
 refine mF h λw h=>?_;refine db (k:=1) h rfl (v:=.i a) rfl ?_;simp only[nz,ae,af];refine db (k:=1) h rfl (v:=.i (q+jd)) rfl ?_;simp only[nz,ae,af];have ew:aa.wrap (q+(jd:Int)+1)=q+(jd:Int)+1:=aW (by omega);rw[ew];refine Sz (k:=k+2) h (by rw[bT,bT];exact hk) iH (by omega) (by omega) λw h=>?_;cases hx:my D a hi (q+(jd:Int)+1) with
 |none=>
  unfold Ck;simp only[nz,ae,af];refine kM (k:=1) h rfl rfl ?_;rw[Gr hx,bO] at ho;have:=hK r jT ku w;rw[ho] at this;dsimp only at this;rw[hn] at this;exact this ⟨jd,by omega,rfl,rfl,by omega,by omega⟩ h
 |some y=>
  obtain⟨s,a2⟩:=y;obtain⟨b1,b2,b3,b4,b5,b6⟩:=qq hx;unfold Ck;simp only[nz,ae,af];refine kM (k:=1) h rfl rfl ?_;refine⟨trivial,jq h λr2 w h=>?_⟩;refine u6 (k:=1) (ys:=[HX s]) h rfl (Hk (k':=0) h rfl rfl λj v hj=>by rw[aC];exact hj) (by simp) rfl (by omega) (by omega) (by simp[HX,Value.oneCell']) λb' c' w h=>?_;simp only[nz,ae,af] at h⊢;refine db (k:=2) h rfl (v:=.i (q+jd)) rfl ?_;simp only[nz,ae,af];refine oZ (k:=2) h rfl (aK rfl) rfl λw h=>?_;simp only[nz,ae,af] at h;refine oZ (k:=2) h rfl (aK rfl) rfl λw h=>?_;simp only[nz,ae,af] at h;rw[ew] at h;refine⟨⟨acc++[s],a2,b',jd+1,c',rfl,by rw[aw,hn];rfl,by omega,by omega,?_,?_⟩,by omega⟩
  ·rw[ho,Gs hx,show q+(jd:Int)+1=q+((jd+1:Nat):Int) from by omega,aI];rfl
  ·rw[cY];have:sr d ⟨lo,hi,a2,q+((jd+1:Nat):Int),false⟩=[.p (ah d),.i lo,.i hi,.i a2,.i (q+(jd:Int)+1),.b false]:=by
    rw[show q+((jd+1:Nat):Int)=q+(jd:Int)+1 from by omega];rfl
   rw[this];exact h.drop
end
def F0(d:BA):Int:=lF 8 (d.data.toList,false)
def Wv(l:List UInt8):(part (bs l) 0).data.toList=l.take 104:=by
 unfold part;rw[extract_toList,Nat.mul_zero,jn]
 rfl
def MU(seq:Int)(s:BA):dv seq s=le .i64 8 seq++(le .i64 4 s.size++s.data.toList):=by simp only[dv,aI]
def OK(seq:Int)(s:BA):∃r,(part (bs (dv seq s)) 0).data.toList=le .i64 8 seq++(le .i64 4 s.size++r):=by
 rw[Wv,MU];refine⟨s.data.toList.take 92,?_⟩;have h8:(le .i64 8 seq).length=8:=aO _ _ _;have h4:(le .i64 4 (s.size:Int)).length=4:=aO _ _ _;rw[List.take_append,List.take_append,h8,h4,bS (by rw[h8];omega),bS (l:=le .i64 4 (s.size:Int)) (by rw[h4];omega)]
def Uc{m:Nat}(h:m<4294967296):om (le .i64 4 (m:Int))=m:=by
 rw[rY m 4 (by omega)];exact fN h
def Sx{n:Int}(h:0<=n/\n<9223372036854775808):nE (le .i64 8 n)=n:=by
 obtain⟨m,rfl⟩:=bt h.1;unfold nE;rw[rY m 8 (by omega)];have h8:(256:Nat)^8=18446744073709551616:=rfl;rw[h8,fN (by omega),aW (by omega)]
def wi{seq:Int}{s:BA}(hq:0<=seq/\seq<9223372036854775808)(hs:s.size<=32768):
 F0 (part (bs (dv seq s)) 0)=seq/\(gh 4 (gh 8 ((part (bs (dv seq s)) 0).data.toList,false))).2=false/\lF 4 (gh 8 ((part (bs (dv seq s)) 0).data.toList,false))=(s.size:Int):=by
 obtain⟨r,hr⟩:=OK seq s;unfold F0;rw[hr];have h8:(le .i64 8 seq).length=8:=aO _ _ _;have h4:(le .i64 4 (s.size:Int)).length=4:=aO _ _ _;have e1:gh 8 (le .i64 8 seq++(le .i64 4 s.size++r),false)=(le .i64 4 s.size++r,false):=by
  unfold gh;rw[ag (by simp only[cJ,false_or,aw,h8];omega),vD _ _ 8 h8]
 have e2:lF 8 (le .i64 8 seq++(le .i64 4 s.size++r),false)=seq:=by
  unfold lF;rw[ag (by simp only[cJ,false_or,aw,h8];omega),tM _ _ 8 h8,Sx hq]
 have e3:gh 4 (le .i64 4 (s.size:Int)++r,false)=(r,false):=by
  unfold gh;rw[ag (by simp only[cJ,false_or,aw,h4];omega),vD _ _ 4 h4]
 have e4:lF 4 (le .i64 4 (s.size:Int)++r,false)=(s.size:Int):=by
  unfold lF;rw[ag (by simp only[cJ,false_or,aw,h4];omega),tM _ _ 4 h4,ou (by rw[h4];omega),Uc (by omega)]
 rw[e1,e2,e3,e4];exact⟨rfl,rfl,rfl⟩
def te(seq:Int)(s:BA):(bs (dv seq s)).size=12+s.size:=by rw[cj,AZ]
def Lz{D:aX}{a toX n:Int}{s:BA}(hn:1<=n/\n<=1152921504606846976)(h0:0<=a)(Xl:a+(gN s.size:Int)<=toX)(hlen:toX<=(D.safe.length:Int))(xy:D.safe.length<=4096)
 (hr:∀i:Nat,i<gN s.size->(D.read (a+i)).1=leaf n i (part s i)):take D a toX n s.size=some s.data.toList:=by
 have hb:s.size<=104* gN s.size:=by unfold gN;split<;>omega
 have Vv:∀q:Nat,(part s q).size=min (104* (q+1)) s.size-104* q:=λq=>by unfold part;rw[tP]
 have pE:s.size<=425984:=by omega
 unfold take;rw[ag (by rw[ak];omega),ak,CU (s:=s) (gN s.size) 0 (λq _ hq=>by
  have hg:ft n q (part s q):=⟨hn.1,hn.2,by omega,by omega,nM s q⟩
  rw[hr q (by omega),nN hg]
  exact⟨pq hg,by rw[Vv];omega⟩)]
 congr 1
 rw[Nat.mul_zero,jn,bS (by rw[fe];exact hb)]
def DX{D:aX}{a toX n q:Int}{s:BA}(hn:1<=n/\n<=1152921504606846976)(hq:0<=q/\q<9223372036854775808)(hs:s.size<=32768)(h0:0<=a)(Xl:a+(gN (12+s.size):Int)<=toX)(hlen:toX<=(D.safe.length:Int))(xy:D.safe.length<=4096)
 (hr:∀i:Nat,i<gN (12+s.size)->(D.read (a+i)).1=leaf n i (part (bs (dv q s)) i)):my D a toX q=some (s.data.toList,a+(gN (12+s.size):Int)):=by
 have Cv:=te q s;have hp:=sx (12+s.size);obtain⟨p1,p2,p3⟩:=wi hq hs;have h00:=hr 0 hp;rw[show a+((0:Nat):Int)=a from by omega] at h00;have hg:ft n ((0:Nat):Int) (part (bs (dv q s)) 0):=⟨hn.1,hn.2,by omega,by omega,nM _ 0⟩;have ht:=Lz (D:=D) (a:=a) (toX:=toX) (s:=bs (dv q s)) hn h0 (by rw[Cv];exact Xl) hlen xy (by rw[Cv];exact hr);unfold my;rw[ag (by omega),h00,nN hg,pq hg];dsimp only;unfold F0 at p1;rw[ag (by rintro(hh|hh);exact hh rfl;exact hh p1),p2,p3,ag (by rintro(hh|hh);cases hh;omega)];rw[Cv] at ht;have e1:((12+s.size:Nat):Int)=12+(s.size:Int):=by omega
 rw[e1] at ht;rw[ht];dsimp only;have e2:(12+(s.size:Int)).toNat=12+s.size:=by omega
 have e3:(bs (dv q s)).data.toList.drop 12=s.data.toList:=by
  show(dv q s).drop 12=_;unfold dv;exact vD _ _ 12 (by rw[aw,aO,aO])
 rw[e2,e3]
def DN{D D':aX}{a n:Int}{size:Nat}:∀(k i:Nat),(∀j:Nat,i<=j->j<i+k->(D'.read (a+j)).1=(D.read (a+j)).1)->nD D' a n size i k=nD D a n size i k
 |0,i,_=>rfl
 |k+1,i,h=>by
  rw[pg,pg,h i (aH _) (by omega),DN k (i+1) (λj h1 h2=>h j (by omega) (by omega))]
def wm{D D':aX}{a toX q a2:Int}{s:List UInt8}(h:my D a toX q=some (s,a2))(hlen:D'.safe.length=D.safe.length)(hr:∀j:Int,a<=j->j<a2->(D'.read j).1=(D.read j).1):my D' a toX q=some (s,a2):=by
 obtain⟨i1,i2,i3,i4,i5,i6⟩:=qq h;have h0:=hr a (by omega) (by omega);have ait:=h;unfold my at h⊢;rw[h0];split at h
 ·cases h
 rename_i ha;rw[ag ha];split at h
 ·cases h
 rename_i m j d hv;split at h
 ·cases h
 rename_i hj;rw[ag hj];split at h
 ·cases h
 rename_i hc;rw[ag hc];split at h
 ·cases h
 rename_i t ht;obtain⟨l1,l2,l3,l4,l5⟩:=take_length ht;have MA:take D' a toX m (12+lF 4 (gh 8 (d.data.toList,false)))=some t:=by
  simp only[aY.injEq,Prod.mk.injEq] at h;rw[<-ht];unfold take;rw[hlen,DN _ 0 (λj h1 h2=>hr (a+j) (by omega) (by omega))]
 rw[MA];dsimp only;exact h
def Da{D:aX}{a toX q:Int}(h:∀m d,mw (D.read a).1.data.toList=some (m,0,d)->F0 d≠q):my D a toX q=none:=by
 unfold my;split
 ·rfl
 split
 ·rfl
 rename_i m j d hv;by_cases hj:j=0
 ·subst hj;rw[ai (.inr (h m d hv))]
 ·rw[ai (.inl hj)]
def kE(D:aX)(toX:Int):Int->Int->List (List UInt8)->Int->Prop
 |a,_,[],e=>a=e
 |a,q,s::r,e=>∃a2,my D a toX (q+1)=some (s,a2)/\kE D toX a2 (q+1) r e
def Ni{D:aX}{toX:Int}:∀(r:List (List UInt8)) {a q e:Int},kE D toX a q r e->a+r.length<=e
 |[],a,q,e,h=>by unfold kE at h;simp;omega
 |s::r,a,q,e,⟨a2,h1,h2⟩=>by
  have:=qq h1;have:=Ni r h2;rw[bE];omega
def G5{D:aX}{toX:Int}:∀(r:List (List UInt8)) {a q e:Int},kE D toX a q r e->my D e toX (q+r.length+1)=none->lh D toX a q=(r,e,q+r.length)
 |[],a,q,e,h,hn=>by
  unfold kE at h;subst h;have e0:q+(([]:List (List UInt8)).length:Int)=q:=by simp
  rw[e0] at hn⊢;exact Gr hn
 |s::r,a,q,e,⟨a2,h1,h2⟩,hn=>by
  have e1:q+((s::r).length:Int)=q+1+(r.length:Int):=by rw[bE];omega
  rw[e1] at hn⊢;rw[Gs h1,G5 r h2 hn]
def wG{D D':aX}{toX:Int}(hlen:D'.safe.length=D.safe.length):∀(r:List (List UInt8)) {a q e:Int},kE D toX a q r e->(∀j:Int,a<=j->j<e->(D'.read j).1=(D.read j).1)->kE D' toX a q r e
 |[],a,q,e,h,_=>h
 |s::r,a,q,e,⟨a2,h1,h2⟩,hr=>by
  have hi:=qq h1;have hl:=Ni r h2;exact⟨a2,wm h1 hlen (λj h3 h4=>hr j h3 (by omega)),wG hlen r h2 (λj h3 h4=>hr j (by omega) h4)⟩
def G4{D:aX}{toX:Int}:∀(r:List (List UInt8)) {a q e e2:Int} {s:List UInt8},kE D toX a q r e->my D e toX (q+r.length+1)=some (s,e2)->kE D toX a q (r++[s]) e2
 |[],a,q,e,e2,s,h,hn=>by
  unfold kE at h;subst h;have e0:q+(([]:List (List UInt8)).length:Int)=q:=by simp
  rw[e0] at hn;exact⟨e2,hn,rfl⟩
 |x::r,a,q,e,e2,s,⟨a2,h1,h2⟩,hn=>by
  have e1:q+((x::r).length:Int)=q+1+(r.length:Int):=by rw[bE];omega
  rw[e1] at hn;exact⟨a2,h1,G4 r h2 hn⟩
def PJ.more(J:PJ)(s:BA):PJ:={J with at':=J.at'+(gN (12+s.size):Int),seq:=J.seq+1}
def WG{n:Nat}{D:aX}{J:PJ}{number:Int}{s:BA}(hc:Calm n D)(cS:n<=4096)(hJ:J.Ok D)(YF:J.dJ=false)(qt:1<=number/\number<=1152921504606846976)(H9:J.seq<1152921504606846976)(hr:room J s.size):
 ∃D',uy D J number s=(D',J.more s,0)/\Calm n D'/\D'.later=[]/\(J.more s).Ok D'/\(∀i:Nat,i<gN (12+s.size)->(D'.read (J.at'+i)).1=leaf number i (part (bs (dv (J.seq+1) s)) i))/\
  (∀j:Int,0<=j->j<n->(j<J.at'\/J.at'+(gN (12+s.size):Int)<=j)->(D'.read j).1=(D.read j).1)/\my D' J.at' J.hi (J.seq+1)=some (s.data.toList,J.at'+(gN (12+s.size):Int)):=by
 obtain⟨j1,j2,j3,j4,j5⟩:=hJ;obtain⟨r1,r2,r3⟩:=hr;rw[ak] at r3;have hlen:=hc.len;have Cv:=te (J.seq+1) s;obtain⟨a,ha⟩:=bt (show 0<=J.at' by omega);obtain⟨t,ht⟩:=bt (show 0<=J.hi by omega);obtain⟨p1,p2,p3,p4⟩:=QW (n:=n) (a:=a) (t:=t) (number:=number) (s:=bs (dv (J.seq+1) s)) hc cS qt (by rw[Cv];omega) (by omega);have p5:=Vi (n:=n) (a:=a) (t:=t) (number:=number) (s:=bs (dv (J.seq+1) s)) hc cS qt (by rw[Cv];omega) (by omega);rw[Cv] at p3 p4;rw[<-ha,<-ht] at p1 p2 p3 p4 p5;have AT:=p2.len;refine⟨(fj D J.at' J.hi number (bs (dv (J.seq+1) s))).1,?_,p2,p5,⟨j1,?_,?_,?_,?_⟩,p3,λj h1 h2 h3=>?_,?_⟩
 ·unfold uy;rw[ag (by rw[YF];exact rN),ag (by omega),ag (by rintro(hh|hh);exact hh ⟨r1,r2,by rw[ak];exact r3⟩;omega)];unfold DA;rw[ag (λhh=>hh p1)]
  rfl
 ·show J.lo<=J.at'+_;omega
 ·show J.at'+_<=J.hi;omega
 ·show J.hi<=_;omega
 ·show 0<=J.seq+1/\J.seq+1<=_;omega
 ·obtain⟨m,rfl⟩:=bt h1;exact p4 m (by omega) (by omega)
 ·exact DX qt (by omega) (by omega) (by omega) (by omega) (by omega) (by omega) p3
def Ml{D:aX}{a toX q:Int}(h:(D.read a).1=nC 128):my D a toX q=none:=
 Da (λm d hv=>by rw[h,zz] at hv;cases hv)
def I7{n:Nat}(h:n<=4096){j:Int}(h0:0<=j)(hj:j<n):((aX.new n).read j).1=nC 128:=by
 obtain⟨m,rfl⟩:=bt h0;exact Cm h (by omega)
section
variable {W w:World} {L:LH} {k d:Nat} {D:aX}
end
def An{l:List UInt8}{k:Nat}(hk:k<=8)(hl:l.length=k):l=le .i64 k (om l:Int):=by
 refine Lq _ _ (by rw[hl,aO]) ?_;have:=rX l;rw[hl] at this;rw[rY (om l) k hk,fN this]
def Di{l:List UInt8}{n:Int}(hl:l.length=8)(hn:0<=n)(h:nE l=n):l=le .i64 8 n:=by
 have hv:=rX l;have h8:(256:Nat)^8=18446744073709551616:=rfl;rw[hl,h8] at hv;have qi:(om l:Int)=n:=by
  unfold nE at h;simp[IntKind.wrap,IntKind.bits,IntKind.signed] at h;split at h<;>omega
 rw[<-qi];exact An (by decide) hl
def C6{l:List UInt8}{n j:Int}{d:BA}(h:mw l=some (n,j,d)):l=mS n j d/\ft n j d:=by
 unfold mw at h;split at h
 ·cases h
 rename_i h1;split at h
 ·cases h
 rename_i h2;split at h
 ·cases h
 rename_i h3;split at h
 ·cases h
 rename_i h4;split at h
 ·cases h
 rename_i h5;split at h
 ·cases h
 rename_i h6;have h1:=bm.1 h1;have h2:ur (l.take 120)=true:=by cases hh:ur (l.take 120) with
  |true=>rfl
  |false=>exact aQ hh h2
 have h4:=bm.1 h4;have h5:=bm.1 h5;have h6:=bm.1 h6;simp only[aY.injEq,Prod.mk.injEq] at h;obtain⟨rfl,rfl,rfl⟩:=h;refine⟨?_,h6⟩;obtain⟨g1,g2,g3,g4,g5⟩:=h6;have hM:sM l<=104:=by omega
 have l8:(l.drop 8).length=120:=by rw[aT];omega
 have l10:((l.drop 8).drop 2).length=118:=by rw[aT];omega
 have lr:(nd l).length=116:=by unfold nd;rw[aT];omega
 have p1:l.take 8=le .i64 8 (sN l):=Di (by rw[aD];omega) (by omega) rfl;have p2:(l.drop 8).take 2=le .i64 2 (sI l):=by
  have e:sI l=(om ((l.drop 8).take 2):Int):=ou (by rw[aD];omega);rw[e];exact An (by decide) (by rw[aD];omega)
 have p3:((l.drop 8).drop 2).take 2=le .i64 2 (sM l:Int):=An (by decide) (by rw[aD];omega);have hD:(sD l).length=sM l:=by unfold sD;rw[aD];omega
 have lrm:((nd l).drop (sM l)).length=116-sM l:=by rw[aT,lr]
 have hZ:(sZ l).length=104-sM l:=by unfold sZ;rw[aD];omega
 have lrz:(((nd l).drop (sM l)).drop (104-sM l)).length=12:=by rw[aT,lrm];omega
 have lrc:((((nd l).drop (sM l)).drop (104-sM l)).drop 4).length=8:=by rw[aT,lrz]
 have p6:(((nd l).drop (sM l)).drop (104-sM l)).drop 4=le .i64 8 (sN l):=by
  refine Di lrc (by omega) ?_;rw[<-h4];unfold DQ;rw[bS (by omega)]
 rw[hZ] at h5;have e1:l=l.take 8++((l.drop 8).take 2++(((l.drop 8).drop 2).take 2++(sD l++(sZ l++((((nd l).drop (sM l)).drop (104-sM l)).take 4++(((nd l).drop (sM l)).drop (104-sM l)).drop 4))))):=by
  unfold sD sZ;rw[dy,dy,dy];unfold nd;rw[dy,dy,dy]
 have pE:(bs (sD l)).size=sM l:=by rw[cj,hD]
 have afW:pre (sN l) (sI l) (bs (sD l))=l.take 8++((l.drop 8).take 2++(((l.drop 8).drop 2).take 2++(sD l++sZ l))):=by
  unfold pre;rw[pE,p1,p2,p3,h5];simp only[aI]
  rfl
 have TL:(pre (sN l) (sI l) (bs (sD l))).length=116:=rG g5;have e2:l=pre (sN l) (sI l) (bs (sD l))++((((nd l).drop (sM l)).drop (104-sM l)).take 4++(((nd l).drop (sM l)).drop (104-sM l)).drop 4):=by
  rw[afW];simp only[aI];exact e1
 have acb:l.take 116=pre (sN l) (sI l) (bs (sD l)):=by
  have:=congrArg (List.take 116) e2;rw[tM _ _ 116 TL] at this;exact this
 have e4:(l.take 120).drop 116=(((nd l).drop (sM l)).drop (104-sM l)).take 4:=by
  have afV:l.drop 116=(((nd l).drop (sM l)).drop (104-sM l)).take 4++(((nd l).drop (sM l)).drop (104-sM l)).drop 4:=by
   have:=congrArg (List.drop 116) e2;rw[vD _ _ 116 TL] at this;exact this
  rw[List.drop_take,afV];exact tM _ _ 4 (by rw[aD];omega)
 have afL:wW (tO 0 (pre (sN l) (sI l) (bs (sD l))))=(((nd l).drop (sM l)).drop (104-sM l)).take 4:=by
  unfold ur at h2;have Kv:(l.take 120).length=120:=by rw[aD];omega
  rw[Kv,show 120-4=116 from rfl,e4,yO,show min 116 120=116 from rfl,acb] at h2;simpa using h2
 unfold mS;rw[afL,aI];rw[p6] at e2;exact e2
def IB{D:aX}{a n:Int}{size:Nat}:∀(k i:Nat) {t:List UInt8},nD D a n size i k=some t->size<=104* (i+k)->∀q,i<=q->q<i+k->
 ∃d,mw (D.read (a+q)).1.data.toList=some (n,(q:Int),d)/\d.data.toList=(t.drop (104* (q-i))).take 104
 |0,i,t,h,hs,q,h1,h2=>by omega
 |k+1,i,t,h,hs,q,h1,h2=>by
  rw[pg] at h;split at h
  ·cases h
  rename_i m j d hv;split at h
  ·rename_i hc;obtain⟨rfl,rfl,hd⟩:=hc;cases ht:nD D a m size (i+1) k with
   |none=>rw[ht] at h;cases h
   |some u=>
    rw[ht] at h;simp only[fw,aY.injEq] at h;subst h;have AW:d.data.toList.length=d.size:=rfl;by_cases hq:q=i
    ·subst hq;refine⟨d,hv,?_⟩;rw[mg,Nat.mul_zero,jn];by_cases h3:104* (q+1)<=size
     ·exact(tM _ _ 104 (by omega)).symm
     ·have hu:u.length=0:=by
       by_cases hk:k=0
       ·subst hk;simp only[nD,aY.injEq] at ht;subst ht;rfl
       ·
        have hz:∀(n' i':Nat) {v:List UInt8},nD D a m size i' n'=some v->size<=104* i'->v.length=0:=by
         intro n'
         induction n' with
         |zero=>intro i' v h _;simp only[nD,aY.injEq] at h;subst h;rfl
         |succ n' ih=>
          intro i' v h hle;rw[pg] at h;split at h
          ·cases h
          ·split at h
           ·rename_i Ri;cases OY:nD D a m size (i'+1) n' with
            |none=>rw[OY] at h;cases h
            |some v2=>
             rw[OY] at h;simp only[fw,aY.injEq] at h;subst h;have:=ih (i'+1) OY (by omega);rw[aw,this,fe,Ri.2.2];omega
           ·cases h
        exact hz k (q+1) ht (by omega)
      rw[List.eq_nil_of_length_eq_zero hu,bO,bS (by omega)]
    ·obtain⟨d2,Vq,Rg⟩:=IB k (i+1) ht (by omega) q (by omega) (by omega);refine⟨d2,Vq,?_⟩;have hu:104* (i+1)<=size\/u.length=0:=by
      by_cases h3:104* (i+1)<=size
      ·exact .inl h3
      ·right
       have hz:∀(n' i':Nat) {v:List UInt8},nD D a m size i' n'=some v->size<=104* i'->v.length=0:=by
        intro n'
        induction n' with
        |zero=>intro i' v h _;simp only[nD,aY.injEq] at h;subst h;rfl
        |succ n' ih=>
         intro i' v h hle;rw[pg] at h;split at h
         ·cases h
         ·split at h
          ·rename_i Ri;cases OY:nD D a m size (i'+1) n' with
           |none=>rw[OY] at h;cases h
           |some v2=>
            rw[OY] at h;simp only[fw,aY.injEq] at h;subst h;have:=ih (i'+1) OY (by omega);rw[aw,this,fe,Ri.2.2];omega
          ·cases h
       exact hz k (i+1) ht (by omega)
     rw[Rg];rcases hu with h3|h3
     ·have:(d.data.toList++u).drop (104* (q-i))=u.drop (104* (q-(i+1))):=by
       rw[show 104* (q-i)=104+104* (q-(i+1)) from by omega,<-kd,vD _ _ 104 (by omega)]
      rw[this]
     ·rw[List.eq_nil_of_length_eq_zero h3,bO];simp only[List.drop_nil,List.take_nil];rw[gL (by omega)]
      rfl
  ·cases h
def I6{D:aX}{a toX q a2:Int}{s:List UInt8}(hq:0<=q)(h:my D a toX q=some (s,a2)):
 ∃m d,1<=m/\m<=1152921504606846976/\mw (D.read a).1.data.toList=some (m,0,d)/\∀i:Nat,i<gN (12+s.length)->(D.read (a+i)).1=leaf m i (part (bs (dv q (bs s))) i):=by
 have hi:=qq h;unfold my at h;split at h
 ·cases h
 rename_i ha;split at h
 ·cases h
 rename_i m j d hv;split at h
 ·cases h
 rename_i hj;split at h
 ·cases h
 rename_i hc;split at h
 ·cases h
 rename_i t ht;obtain⟨l1,l2,l3,l4,l5⟩:=take_length ht;simp only[aY.injEq,Prod.mk.injEq] at h;obtain⟨h1,h2⟩:=h;subst h1;have hj0:j=0:=by
  by_cases hh:j=0
  ·exact hh
  ·exact aQ (.inl hh) hj
 have YI:lF 8 (d.data.toList,false)=q:=by
  by_cases hh:lF 8 (d.data.toList,false)=q
  ·exact hh
  ·exact aQ (.inr hh) hj
 subst hj0;have hn4:=Ki (gh 8 (d.data.toList,false));have hle: ¬32768<lF 4 (gh 8 (d.data.toList,false)):=λhh=>hc (.inr hh);have aio:(gh 4 (gh 8 (d.data.toList,false))).2=false:=by
  cases hh:(gh 4 (gh 8 (d.data.toList,false))).2 with
  |false=>rfl
  |true=>exact aQ (.inl hh) hc
 obtain⟨_,Br⟩:=C6 hv;have rI:=ht;unfold take at rI;split at rI
 ·cases rI
 have hcn:(12+lF 4 (gh 8 (d.data.toList,false))).toNat=t.length:=by omega
 rw[hcn] at rI;have hb:t.length<=104* gN t.length:=by unfold gN;split<;>omega
 have SO:=IB (gN t.length) 0 rI (by omega);have hcp:=sx t.length;obtain⟨d0,hv0,hd0⟩:=SO 0 (aH _) (by omega);rw[show a+((0:Nat):Int)=a from by omega,hv] at hv0;have afJ:d=d0:=by cases hv0;rfl
 subst afJ;rw[Nat.sub_zero,Nat.mul_zero,jn] at hd0;have aiT:12<=d.data.toList.length:=by
  rw[hd0,aD];omega
 have x1:gh 8 (d.data.toList,false)=(d.data.toList.drop 8,false):=by unfold gh;rw[ag (by simp only[cJ,false_or];omega)]
 have x2:lF 8 (d.data.toList,false)=nE (d.data.toList.take 8):=by unfold lF;rw[ag (by simp only[cJ,false_or];omega)]
 have l8:(d.data.toList.drop 8).length=d.data.toList.length-8:=aT;have x3:lF 4 (d.data.toList.drop 8,false)=nE ((d.data.toList.drop 8).take 4):=by unfold lF;rw[ag (by simp only[cJ,false_or];omega)]
 rw[x2] at YI;rw[x1,x3] at l1 hn4 hcn;have y1:d.data.toList.take 8=le .i64 8 q:=Di (by rw[aD];omega) hq YI;have hl4:((d.data.toList.drop 8).take 4).length=4:=by rw[aD];omega
 rw[ou (by omega)] at l1;have y2:(d.data.toList.drop 8).take 4=le .i64 4 ((t.length-12:Nat):Int):=by
  have:=An (by decide) hl4;rw[show(om ((d.data.toList.drop 8).take 4):Int)=((t.length-12:Nat):Int) from by omega] at this;exact this
 have z1:t.take 8=le .i64 8 q:=by
  rw[<-y1,hd0,yO,show min 8 104=8 from rfl]
 have z2:(t.drop 8).take 4=le .i64 4 ((t.length-12:Nat):Int):=by
  rw[<-y2,hd0,List.drop_take,yO,show min 4 (104-8)=4 from rfl]
 have SY:dv q (bs (t.drop 12))=t:=by
  unfold dv;have pE:(bs (t.drop 12)).size=t.length-12:=by rw[cj,aT]
  rw[pE,<-z1,<-z2];show t.take 8++(t.drop 8).take 4++t.drop 12=t;have:t.drop 12=(t.drop 8).drop 4:=by rw[kd]
  rw[this,aI,dy,dy]
 refine⟨m,d,Br.1,Br.2.1,hv,λi hi2=>?_⟩;have afw:12+(t.drop 12).length=t.length:=by rw[aT];omega
 rw[afw] at hi2;obtain⟨di,hvi,EI⟩:=SO i (aE _) (by omega);obtain⟨hx,xX⟩:=C6 hvi;rw[SY];have Ra:part (bs t) i=di:=by
  apply kZ;rw[EI];unfold part;rw[extract_toList];show(t.drop (104* i)).take (104* (i+1) -104* i)=_;rw[Nat.sub_zero,show 104* (i+1) -104* i=104 from by omega]
 rw[Ra];apply kZ;rw[nN xX];exact hx
section
variable {W w:World} {L:LH}
end
def RQ{D:aX}(h:D.sync.2=0):D.sync.1.later=[]:=by
 unfold aX.sync at h⊢;split at h
 ·simp at h
 ·rename_i hf;rw[ag hf]
def QV{D:aX}{at' toX number:Int}{s:BA}(h:(fj D at' toX number s).2=0):(fj D at' toX number s).1.later=[]:=by
 unfold fj at h⊢;split at h
 ·rename_i hh;exact aQ h hh
 ·rename_i hh;rw[ag hh];exact RQ h
def yI{D:aX}(h:D.later=[])(mask torn cut:Int)(j:Int):(D.eY mask torn cut).read j=D.read j:=by
 have e:D.eY mask torn cut=⟨D.safe,[],D.ops,0⟩:=by rw[nW,h];rfl
 rw[e];unfold aX.read aX.is aX.now;rw[h]
def Jb{at' number:Int}{s:BA}(qt:1<=number/\number<=1152921504606846976)(CQ:0<=at'):∀(n i:Nat) {D:aX},at'+i+n<=D.safe.length->i+n<=4096->(pL at' number s D i n).2=0\/(pL at' number s D i n).2=8
 |0,i,D,hr,hi=>.inl rfl
 |n+1,i,D,hr,hi=>by
  have hg:ft number i (part s i):=⟨qt.1,qt.2,by omega,by omega,nM s i⟩;have pE:=uY hg;have vU:D.is (at'+i):=⟨by omega,by omega⟩;have AI: ¬(¬D.is (at'+i)\/128<(leaf number i (part s i)).size):=by
   rintro(hh|hh)
   ·exact hh vU
   ·omega
  have tV:=(sV D (at'+i) (leaf number i (part s i))).1;have hw:D.write (at'+i) (leaf number i (part s i))=if D.wz then(D.tick,8) else({Go.cF.aX.tick D with later:=D.later++[(at'+i,aX.pad (leaf number i (part s i)))]},0):=by
   unfold aX.write;rw[ag AI]
  unfold pL;cases hf:D.wz with
  |true=>
   rw[hf,ai rfl] at hw;rw[hw,ai (by simp)];exact .inr rfl
  |false=>
   rw[hf,ag rN] at hw;have h0:(D.write (at'+i) (leaf number i (part s i))).2=0:=by rw[hw]
   rw[ag (by rw[h0];exact λhh=>hh rfl)];exact Jb qt CQ (s:=s) n (i+1) (D:=(D.write (at'+i) (leaf number i (part s i))).1) (by rw[tV];omega) (by omega)
def E5{n a t:Nat}{D:aX}{number:Int}{s:BA}(hlen:D.safe.length=n)(cS:n<=4096)(qt:1<=number/\number<=1152921504606846976)(hl:a+gN s.size<=t)(htn:t<=n):(fj D a t number s).2=0\/(fj D a t number s).2=8:=by
 have hcp:=sx s.size;have e:lay D (a:Nat) ((t:Nat):Int) number s=pL (a:Nat) number s D 0 (gN s.size):=by
  unfold lay;rw[ag (by rw[hlen];omega),ag (by omega)]
 have hc:=Jb (at':=((a:Nat):Int)) (number:=number) (s:=s) qt (by omega) (gN s.size) 0 (D:=D) (by rw[hlen];omega) (by omega);unfold fj;rw[e];split
 ·exact hc
 ·unfold aX.sync;split
  ·exact .inr rfl
  ·exact .inl rfl
def IM{g:Nat}{X:BA}{m j:Int}{d:BA}(he:Ends g X)(hg:g<256)(h:mw X.data.toList=some (m,j,d)):m<=g:=by
 obtain⟨hx,Br⟩:=C6 h;obtain⟨_,⟨a,ha,h8⟩,_⟩:=he;rw[hx,zL] at h8;have e1:=pJ (n:=m) ⟨by have:=Br.1;omega,Br.2.1⟩;have e2:=pJ (n:=(a:Int)) ⟨by omega,by omega⟩;rw[h8,e2] at e1;omega
def DY{D D':aX}{a toX q:Int}(hlen:D'.safe.length=D.safe.length)(hr:∀j:Int,a<=j->j<toX->(D'.read j).1=(D.read j).1):my D' a toX q=my D a toX q:=by
 cases h:my D a toX q with
 |some y=>
  obtain⟨s,a2⟩:=y;have:=qq h;exact wm h hlen (λj h1 h2=>hr j h1 (by omega))
 |none=>
  cases h':my D' a toX q with
  |none=>rfl
  |some y=>
   obtain⟨s,a2⟩:=y;have:=qq h';have:=wm h' hlen.symm (λj h1 h2=>(hr j h1 (by omega)).symm);rw[h] at this;cases this
structure JG(n:Nat)(D:aX)(J:PJ)(q0:Int)(oV:List (List UInt8))(g:Nat):Prop where
 ok:D.Ok
 Jc:D.later=[]
 len:D.safe.length=n
 yW:J.Ok D
 chain:kE D J.hi J.lo q0 oV J.at'
 seq:J.seq=q0+oV.length
 q0:0<=q0
 low:∀j:Int,J.lo<=j->j<J.hi->∀m d,mw (D.read j).1.data.toList=some (m,0,d)->F0 d<=J.seq+1
 stop:my D J.at' J.hi (J.seq+1)=none
 ends:∀j:Nat,j<n->Ends g (D.read (j:Int)).1
def JG.congr{n:Nat}{D D':aX}{J:PJ}{q0:Int}{oV:List (List UInt8)}{g:Nat}(h:JG n D J q0 oV g)(iH:D'.Ok)(Bq:D'.later=[])(hlen:D'.safe.length=n)(hr:∀j:Int,0<=j->j<n->(D'.read j).1=(D.read j).1):JG n D' J q0 oV g:=by
 have hl:D'.safe.length=D.safe.length:=by rw[hlen,h.len]
 have j1:=h.yW.lo;have j2:=h.yW.KP;have j3:=h.yW.RC;have j4:=h.yW.hi;have j5:=h.len;refine⟨iH,Bq,hlen,⟨j1,j2,j3,by rw[hl];exact j4,h.yW.seq⟩,wG hl _ h.chain (λj a b=>hr j (by omega) (by omega)),h.seq,h.q0,λj a b m d hv=>?_,?_,λj hj=>?_⟩
 ·rw[hr j (by omega) (by omega)] at hv;exact h.low j a b m d hv
 ·rw[DY hl (λj a b=>hr j (by omega) (by omega))];exact h.stop
 ·rw[hr j (by omega) (by omega)];exact h.ends j hj
def JG.opened{n:Nat}{D:aX}{J:PJ}{q0:Int}{oV:List (List UInt8)}{g:Nat}(h:JG n D J q0 oV g):lh D J.hi J.lo q0=(oV,J.at',J.seq):=by
 have:=h.stop;rw[h.seq] at this;rw[G5 oV h.chain this,h.seq]
def fly{n:Nat}{D:aX}{J:PJ}{q0:Int}{oV:List (List UInt8)}{g m:Nat}{s:BA}(h:JG n D J q0 oV g)(cS:n<=4096)(hm:g<m)(Lg:m<256)(hr:room J s.size)(EG:J.seq<1152921504606846976)(mask torn cut:Int):
 ((fj D J.at' J.hi m (bs (dv (J.seq+1) s))).2=0\/(fj D J.at' J.hi m (bs (dv (J.seq+1) s))).2=8)/\
 ((fj D J.at' J.hi m (bs (dv (J.seq+1) s))).2=0->∀i:Nat,i<gN (12+s.size)->(((fj D J.at' J.hi m (bs (dv (J.seq+1) s))).1.eY mask torn cut).read (J.at'+i)).1=leaf m i (part (bs (dv (J.seq+1) s)) i))/\
 ((∀i:Nat,i<gN (12+s.size)->(((fj D J.at' J.hi m (bs (dv (J.seq+1) s))).1.eY mask torn cut).read (J.at'+i)).1=leaf m i (part (bs (dv (J.seq+1) s)) i))->
   JG n ((fj D J.at' J.hi m (bs (dv (J.seq+1) s))).1.eY mask torn cut) (J.more s) q0 (oV++[s.data.toList]) m)/\
 ((¬∀i:Nat,i<gN (12+s.size)->(((fj D J.at' J.hi m (bs (dv (J.seq+1) s))).1.eY mask torn cut).read (J.at'+i)).1=leaf m i (part (bs (dv (J.seq+1) s)) i))->
   JG n ((fj D J.at' J.hi m (bs (dv (J.seq+1) s))).1.eY mask torn cut) J q0 oV m):=by
 obtain⟨j1,j2,j3,j4,j5⟩:=h.yW;obtain⟨r1,r2,r3⟩:=hr;rw[ak] at r3;have hlen:=h.len;have hcp:=sx (12+s.size);have Cv:=te (J.seq+1) s;obtain⟨a,ha⟩:=bt (show 0<=J.at' by omega);obtain⟨t,ht⟩:=bt (show 0<=J.hi by omega);have aap:=E5 (n:=n) (a:=a) (t:=t) (number:=m) (s:=bs (dv (J.seq+1) s)) hlen cS (by omega) (by rw[Cv];omega) (by omega);obtain⟨c1,c2,c3,c4⟩:=Mq (n:=n) (a:=a) (t:=t) (number:=m) (mask:=mask) (torn:=torn) (cut:=cut) (s:=bs (dv (J.seq+1) s)) h.ok h.Jc hlen cS (by omega) (by rw[Cv];omega) (by omega);have aan:((fj D (a:Int) (t:Int) m (bs (dv (J.seq+1) s))).1.eY mask torn cut).later=[]:=by rw[nW]
 rw[Cv] at c1 c2;rw[ha,ht];generalize (fj D (a:Int) (t:Int) m (bs (dv (J.seq+1) s))).2=code at *;generalize (fj D (a:Int) (t:Int) m (bs (dv (J.seq+1) s))).1.eY mask torn cut=D2 at *;have hcn:gN (12+s.size)<=4096:=by omega
 have Br:∀i:Nat,i<4096->ft m (i:Int) (part (bs (dv (J.seq+1) s)) i):=λi hi=>⟨by omega,by omega,by omega,by omega,nM _ i⟩;have sec:∀j:Nat,j<n->Ends m (D2.read (j:Int)).1/\((D2.read (j:Int)).1=(D.read (j:Int)).1\/(∃i,i<gN (12+s.size)/\j=a+i/\((D2.read (j:Int)).1=leaf m i (part (bs (dv (J.seq+1) s)) i)\/mw (D2.read (j:Int)).1.data.toList=none))):=λj hj=>by
  rcases c1 j hj with hh|⟨i,h1,h2,h3⟩
  ·rw[hh];exact⟨(h.ends j hj).mono (by omega),.inl rfl⟩
  ·obtain⟨e1,e2⟩:=De hm Lg (Br i (by omega)) (h.ends j hj) h3;refine⟨e1,?_⟩;rcases e2 with e2|e2|e2
   ·exact .inl e2
   ·exact .inr ⟨i,h1,h2,.inl e2⟩
   ·exact .inr ⟨i,h1,h2,.inr e2⟩
 have out:∀j:Int,0<=j->j<n->(j<a\/a+(gN (12+s.size):Int)<=j)->(D2.read j).1=(D.read j).1:=λj h1 h2 h3=>by
  obtain⟨k,rfl⟩:=bt h1;rcases c1 k (by omega) with hh|⟨i,h4,h5,_⟩
  ·exact hh
  ·omega
 have SW:D2.safe.length=D.safe.length:=by rw[c4,hlen]
 have hpr:=wi (seq:=J.seq+1) (s:=s) ⟨by omega,by omega⟩ (by omega);have aby:∀j:Int,J.lo<=j->j<J.hi->∀x d,mw (D2.read j).1.data.toList=some (x,0,d)->F0 d<=J.seq+1:=λj h1 h2 x d hv=>by
  obtain⟨k,rfl⟩:=bt (show 0<=j by omega);rcases(sec k (by omega)).2 with hh|⟨i,hi,_,hh|hh⟩
  ·rw[hh] at hv;exact h.low _ h1 h2 x d hv
  ·rw[hh,nN (Br i (by omega)),pq (Br i (by omega))] at hv;simp only[aY.injEq,Prod.mk.injEq] at hv;obtain⟨_,hi0,hd⟩:=hv;have:i=0:=by omega
   subst this;rw[<-hd,hpr.1];exact tw _
  ·rw[hh] at hv;cases hv
 have Wo:kE D2 J.hi J.lo q0 oV J.at':=wG SW _ h.chain (λj h1 h2=>out j (by omega) (by omega) (by omega));have VE:∀j:Nat,j<n->Ends m (D2.read (j:Int)).1:=λj hj=>(sec j hj).1;refine⟨aap,λh0 i hi=>?_,λhw=>?_,λhnw=>?_⟩
 ·have:=c2 h0 i hi;rw[show(a:Int)+(i:Int)=((a+i:Nat):Int) from by omega];exact this
 ·have abB:=DX (D:=D2) (a:=J.at') (toX:=J.hi) (n:=m) (q:=J.seq+1) (s:=s) (by omega) (by omega) (by omega) (by omega) (by omega) (by omega) (by omega) (by rw[ha];exact hw);refine⟨c3,aan,c4,⟨j1,?_,?_,?_,?_⟩,?_,?_,h.q0,λj h1 h2 x d hv=>?_,?_,VE⟩
  ·show J.lo<=J.at'+_;omega
  ·show J.at'+_<=J.hi;omega
  ·show J.hi<=_;omega
  ·show 0<=J.seq+1/\J.seq+1<=_;omega
  ·show kE D2 J.hi J.lo q0 _ (J.at'+_);refine G4 oV Wo ?_;rw[<-h.seq];exact abB
  ·show J.seq+1=_;rw[h.seq,aw,bE,cO];omega
  ·show F0 d<=J.seq+1+1;have:=aby j h1 h2 x d hv;omega
  ·show my D2 (J.at'+(gN (12+s.size):Int)) J.hi (J.seq+1+1)=none;by_cases abS:J.hi<=J.at'+(gN (12+s.size):Int)
   ·exact Db abS
   ·refine Da (λx d hv=>?_);have:=aby _ (by omega) (by omega) x d hv;omega
 ·refine⟨c3,aan,c4,⟨j1,j2,j3,by omega,j5⟩,Wo,h.seq,h.q0,aby,?_,VE⟩;cases hx:my D2 J.at' J.hi (J.seq+1) with
  |none=>rfl
  |some y=>
   exfalso;obtain⟨s2,a2⟩:=y;obtain⟨i1,i2,i3,i4,i5,i6⟩:=qq hx;obtain⟨x,d,x1,x2,hv,SO⟩:=I6 (by omega) hx;have VF:=sx (12+s2.length);have VB:∀i:Nat,i<4096->ft x (i:Int) (part (bs (dv (J.seq+1) (bs s2))) i):=λi hi=>⟨x1,x2,by omega,by omega,nM _ i⟩;have abG:=wi (seq:=J.seq+1) (s:=bs s2) ⟨by omega,by omega⟩ (by rw[cj];omega);have rd:∀i:Nat,i<gN (12+s2.length)->mw (D2.read ((a+i:Nat):Int)).1.data.toList=some (x,(i:Int),part (bs (dv (J.seq+1) (bs s2))) i):=λi hi=>by
    have:=SO i hi;rw[ha,show(a:Int)+(i:Int)=((a+i:Nat):Int) from by omega] at this;rw[this,nN (VB i (by omega)),pq (VB i (by omega))]
   rcases(sec a (by omega)).2 with hh|⟨i,hi,hai,hh|hh⟩
   ·
    have r0:=rd 0 VF;rw[eL,hh] at r0;have hxg:=IM (h.ends a (by omega)) (by omega) r0;have all:∀j:Int,J.at'<=j->j<a2->(D.read j).1=(D2.read j).1:=λj h1 h2=>by
     obtain⟨k,hk⟩:=bt (show 0<=j-a by omega);have hj:j=((a+k:Nat):Int):=by omega
     subst hj;rcases(sec (a+k) (by omega)).2 with e|⟨i,hi,hai,e|e⟩
     ·exact e.symm
     ·exfalso;have Vz:i=k:=by omega
      subst Vz;have r:=rd i (by omega);rw[e,nN (Br i (by omega)),pq (Br i (by omega))] at r;simp only[aY.injEq,Prod.mk.injEq] at r;have:=r.1;omega
     ·exfalso;have r:=rd k (by omega);rw[e] at r;cases r
    have:=wm hx SW.symm all;rw[h.stop] at this;cases this
   ·
    have hi0:i=0:=by omega
    subst hi0;have r0:=rd 0 VF;rw[eL,hh,nN (Br 0 (by omega)),pq (Br 0 (by omega))] at r0;simp only[aY.injEq,Prod.mk.injEq] at r0;obtain⟨hxm,_,hp0⟩:=r0;have pE:s2.length=s.size:=by
     have e1:=hpr.2.2;have e2:=abG.2.2;rw[hp0] at e1;rw[e1,cj] at e2;omega
    refine hnw λi hi=>?_;rw[show(a:Int)+(i:Int)=((a+i:Nat):Int) from by omega];have r:=rd i (by rw[pE];exact hi);rcases(sec (a+i) (by omega)).2 with e|⟨i',vU,aiV,e|e⟩
    ·exfalso;rw[e] at r;have:=IM (h.ends (a+i) (by omega)) (by omega) r;omega
    ·have:i'=i:=by omega
     subst this;exact e
    ·rw[e] at r;cases r
   ·have hi0:i=0:=by omega
    subst hi0;have r0:=rd 0 VF;rw[eL,hh] at r0;cases r0
section
variable {W w:World} {L:LH}
end
def tp(D:aX)(mask torn cut:Int):(D.eY mask torn cut).safe.length=D.safe.length:=by rw[nW];simp only[jI]
def JG.add{n:Nat}{D:aX}{J:PJ}{q0:Int}{oV:List (List UInt8)}{g m:Nat}{s:BA}(h:JG n D J q0 oV g)(YF:J.dJ=false)(cS:n<=4096)(hm:g<m)(Lg:m<256)(hr:room J s.size)(EG:J.seq<1152921504606846976):
 uy D J m s=DA J s (fj D J.at' J.hi m (bs (dv (J.seq+1) s)))/\(fj D J.at' J.hi m (bs (dv (J.seq+1) s))).1.Ok/\
 ((fj D J.at' J.hi m (bs (dv (J.seq+1) s))).2=0/\JG n (fj D J.at' J.hi m (bs (dv (J.seq+1) s))).1 (J.more s) q0 (oV++[s.data.toList]) m\/(fj D J.at' J.hi m (bs (dv (J.seq+1) s))).2=8):=by
 have hcn:gN (12+s.size)<=400:=by have:=hr.2.1;unfold gN;split<;>omega
 have iH:=Mp (at':=J.at') (toX:=J.hi) (number:=m) (s:=bs (dv (J.seq+1) s)) h.ok (by rw[h.Jc,te,cO];omega);refine⟨?_,iH,?_⟩
 ·unfold uy;rw[ag (by rw[YF];exact rN),ag (by omega),ag (by rintro(hh|hh);exact hh hr;omega)]
 ·obtain⟨f1,f2,f3,f4⟩:=fly h cS hm Lg hr EG 0 (-1) 0;rcases f1 with f1|f1
  ·refine .inl ⟨f1,?_⟩;have hl:=QV f1;have hj:=f3 (f2 f1);refine hj.congr iH hl ?_ (λj _ _=>?_)
   ·rw[<-tp _ 0 (-1) 0];exact hj.len
   ·rw[yI hl]
  ·exact .inr f1
def acF{n:Nat}(h:n<=4096){lo hi:Int}(h0:0<=lo)(h1:lo<hi)(h2:hi<=n)(q0:Int)(hq:0<=q0/\q0<=1152921504606846976):JG n (aX.new n) ⟨lo,hi,lo,q0,false⟩ q0 [] 0:=by
 have hc:=G8 h;refine⟨hc.ok,rfl,hc.len,⟨h0,tw _,by show lo<=hi;omega,by show hi<=_;rw[hc.len];exact h2,by show 0<=q0/\q0<=_;omega⟩,rfl,by show q0=q0+_;simp,hq.1,λj a b m d hv=>?_,?_,λj hj=>?_⟩
 ·dsimp only at a b;rw[I7 h (by omega) (by omega),zz] at hv;cases hv
 ·exact Ml (I7 h h0 (by show lo<(n:Int);omega))
 ·rw[Cm h hj];exact GZ
section
variable {W w:World} {L:LH} {k:Nat}
end
section
variable {W w:World} {L:LH}
end
end Go.Sep
namespace Go.Sep
open Go.Den Go.RowKit
section
variable {H:Type} {enc:TypeId×Value->H} {P:Program} {w:World} {base:Nat} {spare:Nat->Bool} {held:Bool}
end
end Go.Sep
namespace Go.Sep
open Go.Den Go.RowKit Go.Prog Go.cF
def JG.mono{n:Nat}{D:aX}{J:PJ}{q0:Int}{oV:List (List UInt8)}{g g':Nat}(h:JG n D J q0 oV g)(hg:g<=g'):JG n D J q0 oV g':=
 ⟨h.ok,h.Jc,h.len,h.yW,h.chain,h.seq,h.q0,h.low,h.stop,λj hj=>(h.ends j hj).mono hg⟩
def JG.zO{n:Nat}{D:aX}{J:PJ}{q0:Int}{oV:List (List UInt8)}{g:Nat}(h:JG n D J q0 oV g)(hg:g<256):∃x:Nat,fr D n=x/\x<=g/\JG n D J q0 oV x:=by
 have h1:=yA D n;have h2:=Aq (D:=D) hg n h.ends;obtain⟨x,hx⟩:=bt h1.1;refine⟨x,hx,by omega,⟨h.ok,h.Jc,h.len,h.yW,h.chain,h.seq,h.q0,h.low,h.stop,λj hj=>?_⟩⟩;obtain⟨e1,⟨a,ha,e2⟩,b,hb,e3⟩:=h.ends j hj;have hle:=Mi (D:=D) n j hj;have e4:Dp (D.read (j:Int)).1=bs (le .i64 8 ((a:Nat):Int)):=kZ (by rw[MO,e2];rfl);have e5:CT (D.read (j:Int)).1=bs (le .i64 8 ((b:Nat):Int)):=kZ (by rw[Ly e1,e3];rfl);rw[e4,e5,wk (by omega),wk (by omega)] at hle;exact⟨e1,⟨a,by omega,e2⟩,b,by omega,e3⟩
section
variable {W w:World} {L:LH}
end
section
variable {W w:World} {L:LH} {k:Nat}
end
def Cl(a b:Option gF):Option gF:=
 match b with
 |none=>a
 |some hb=>match a with
  |none=>some hb
  |some ha=>if ha.bC<hb.bC then some hb else some ha
def uv(D:aX)(number:Int)(h:gF):aX×Int:=
 if od h then(if(lay D (low h.bC) (low h.bC+1) number (bs (kz h))).2≠0 then lay D (low h.bC) (low h.bC+1) number (bs (kz h)) else(lay D (low h.bC) (low h.bC+1) number (bs (kz h))).1.sync) else(D,1)
section
variable {W w:World} {L:LH} {k d:Nat} {D:aX}
def Ts{number:Int}{h:gF}{K:VK}(hs:St W w L)(hk:L[k]?=some (gU d D))(iH:D.Ok)(hl:D.later.length+5000<1099511627776)
 (hK:∀w',St W w' (L.set k (gU d (uv D number h).1))->K (.i (uv D number h).2) w'):u2 (ah d) number (cr h) K w:=by
 unfold u2;refine jq hs λr w hs=>?_;refine kx (k:=0) (xs:=cr h) hs rfl rfl (λj v hj=>by rw[aC];exact hj) ?_;refine Nn hs λw hs=>?_;simp only[nz,ae,af];unfold uv at hK;unfold Fb;by_cases hg:od h
 ·rw[ai hg] at hK⊢;dsimp only;refine vN (λhh=>aQ rfl hh) (λ_=>?_);refine db (k:=0) hs rfl rfl ?_;simp only[nz,ae,af];refine db (k:=0) hs rfl rfl ?_;simp only[nz,ae,af];have MI:=wU h.bC;have ew:aa.wrap (dm .i64 .and h.bC 1+1)=low h.bC+1:=by
   show aa.wrap (low h.bC+1)=_;rw[aW (by omega)]
  rw[ew];have e0:dm .i64 .and h.bC 1=low h.bC:=rfl;rw[e0];have pE:(bs (kz h)).size=32:=by rw[cj,qJ]
  have O7:gN (bs (kz h)).size=1:=by rw[pE];rfl
  have q8:(pt r (cr h)::L)[k+1]?=some (gU d D):=by rw[bT];exact hk
  refine Ho (k:=k+1) hs q8 iH (by omega) (by rw[pE];decide) λw hs=>?_;rw[nI] at hs;simp only[nz,ae,af];have SU:=(Kl (at':=low h.bC) (toX:=low h.bC+1) (number:=number) (s:=bs (kz h)) iH (by rw[O7];omega)).1;refine vN (λkN=>?_) (λh0=>?_)
  ·rw[ai kN] at hK;exact hK w hs.drop
  ·rw[ag (λhh=>hh h0)] at hK;refine vT (k:=k+1) hs (by rw[bT];exact kr hk) SU λw hs=>?_;rw[nI,jM] at hs;simp only[nz,ae,af];exact hK w hs.drop
 ·rw[ag hg] at hK⊢;dsimp only;refine vN (λ_=>?_) (λhh=>by simp at hh);refine hK w ?_;rw[nT hk];exact hs.drop
def Ia(o:Option gF):gF:=o.getD Fs
def Bs(o:Option gF):qI o=.tuple ⟨[.agg ⟨cr (Ia o)⟩,.b o.isSome]⟩:=by cases o<;>rfl
def NI{K:VK}(hs:St W w L)(hk:L[k]?=some (gU d D))(iH:D.Ok)(hK:∀w',St W w' L->K (qI (Cl (BD D 0) (BD D 1))) w'):sw (ah d) K w:=by
 unfold sw;refine jq hs λr1 w hs=>?_;refine RB (i:=0) (k:=k+1) hs (by rw[bT];exact hk) iH λw hs=>?_;rw[Bs];simp only[nz,ae,af];simp only[yQ];refine⟨rfl,?_⟩;simp only[nz,ae,af];refine jq hs λr2 w hs=>?_;refine⟨rfl,ko (k:=0) hs rfl (aK rfl) (by simp[Value.oneCell',cr]) λw hs=>?_⟩;rw[ja (by simp[cr])] at hs;simp only[nz,ae,af] at hs;refine RB (i:=1) (k:=k+2) hs (by rw[bT,bT];exact hk) iH λw hs=>?_;rw[Bs];simp only[nz,ae,af];simp only[yQ];refine⟨rfl,?_⟩;simp only[nz,ae,af];refine jq hs λr3 w hs=>?_;refine⟨rfl,ko (k:=0) hs rfl (aK rfl) (by simp[Value.oneCell',cr]) λw hs=>?_⟩;rw[ja (by simp[cr])] at hs;simp only[nz,ae,af] at hs;generalize BD D 0=a at *;generalize BD D 1=b at *;have tell:∀(i:Nat)(o:Option gF)(r:Nat)(f:Bool),(i=0/\r=r3/\Ia o=Ia b\/i=1/\r=r2/\Ia o=Ia a)->(f=o.isSome)->(∀w',St W w' L->K (qI o) w')->
                                                                                                       aJ ⟨r,0,none⟩ 4 (λcs=>cu (cs.length=4) (kj ⟨r1,0,none⟩ cs (aJ ⟨r1,0,none⟩ 4 λxg=>K (.tuple ⟨[.agg ⟨xg⟩,.b f]⟩)))) w:=λi o r f hi hf hK=>by
  have Cu:(pt r3 (cr (Ia b))::pt r2 (cr (Ia a))::pt r1 [.i 0,.i 0,.i 0,.i 0]::L)[i]?=some (pt r (cr (Ia o))):=by
   rcases hi with⟨rfl,rfl,h⟩|⟨rfl,rfl,h⟩<;>rw[h]<;>rfl
  refine kx (xs:=cr (Ia o)) hs Cu rfl (λj v hj=>by rw[aC];exact hj) ?_;refine⟨rfl,?_⟩;refine ko (k:=2) hs rfl (aK rfl) (by simp[Value.oneCell',cr]) λw hs=>?_;rw[ja (by simp[cr])] at hs;simp only[nz,ae,af] at hs;refine kx (k:=2) (xs:=cr (Ia o)) hs rfl rfl (λj v hj=>by rw[aC];exact hj) ?_;have:=hK w hs.drop.drop.drop;rw[Bs] at this;rw[hf];exact this
 cases b with
 |none=>
  exact tell 1 a r2 _ (.inr ⟨rfl,rfl,rfl⟩) rfl hK
 |some hb=>
  cases a with
  |none=>exact tell 0 (some hb) r3 true (.inl ⟨rfl,rfl,rfl⟩) rfl hK
  |some ha=>
   have e1:(some hb:Option gF).isSome=true:=rfl;have e2:(some ha:Option gF).isSome=true:=rfl;rw[e1,e2];simp only[nz,ae,af];refine db (k:=0) hs rfl (v:=.i hb.bC) rfl ?_;simp only[nz,ae,af];refine db (k:=1) hs rfl (v:=.i ha.bC) rfl ?_;simp only[nz,ae,af];unfold Cl at hK;dsimp only at hK;refine gj (λRd=>?_) (λhle=>?_)
   ·rw[ai Rd] at hK;exact tell 0 (some hb) r3 true (.inl ⟨rfl,rfl,rfl⟩) rfl hK
   ·rw[ag hle] at hK;exact tell 1 (some ha) r2 true (.inr ⟨rfl,rfl,rfl⟩) rfl hK
end
end Go.Sep
namespace Go.Up
open Go.Sep Go.Den Go.RowKit Go.Prog Go.Md Go.cF
section
variable {W:World} {L R:LH} {K:VK} {X:WK} {d r n:Nat} {D:aX} {J:PJ} {f:aX->LH} {g:PJ->LH} {s:BA}
abbrev jP(d r:Nat)(J:PJ):HP:=Sep.pt r (sr d J)
def JL[i:Lc (gU d) L D f](h:T W L (K (.i (D.safe.length:Int)))):T W L (fO (ah d) K):=λw hs=>by
 obtain⟨k,hk,e⟩:=i.at_;exact oe hs hk (h w hs)
def abn{n:Int}(h:∀d,T W (gU d (aX.new n)::L) (K (.p (ah d)))):T W L (tS n K):=λw hs=>W6 hs λd w' h'=>h d w' h'
def ae8[i:Lc (gU d) L D f]{n:Int}(h:T W (f (D.rl n)) (K (.tuple ⟨[]⟩))):T W L (oL (ah d) n K):=λw hs=>by
 obtain⟨k,hk,e⟩:=i.at_;exact Iq hs hk λw' h'=>h w' (by rw[e];exact h')
def ae7(nF:12<=n)(cS:n<=4096)(h:T W L (K (.tuple ⟨[.agg ⟨fI n⟩,.i 0]⟩))):T W L (uJ n K):=λw hs=>ZI hs nF cS λw' h'=>h w' h'
def aa9[i:Lc (gU d) L D f]{which number:Int}(iH:D.Ok)(nF:12<=n)(cS:n<=4096)(hl:D.later.length+5000<1099511627776)(hs:s.size<=reachBytes)
 (h:T W (f (put D n which number s).1) (K (.i (put D n which number s).2))):T W L (qX (fI n) (ah d) which number s K):=λw hw=>by
 obtain⟨k,hk,e⟩:=i.at_;exact W4 hw hk iH nF cS hl hs λw' h'=>h w' (by rw[e];exact h')
def aba[i:Lc (gU d) L D f]{which number size:Int}(iH:D.Ok)(nF:12<=n)(cS:n<=4096)(h:T W L (K (tB (get D n which number size)))):T W L (qY (fI n) (ah d) which number size K):=λw hw=>by
 obtain⟨k,hk,e⟩:=i.at_;exact Xb hw hk iH nF cS λw' h'=>h w' h'
def W5[i:Lc (gU d) L D f](iH:D.Ok)(h:T W L (K (qI (Cl (BD D 0) (BD D 1))))):T W L (sw (ah d) K):=λw hw=>by
 obtain⟨k,hk,e⟩:=i.at_;exact NI hw hk iH λw' h'=>h w' h'
def acn[i:Lc (gU d) L D f]{number:Int}{hd:gF}(iH:D.Ok)(hl:D.later.length+5000<1099511627776)(h:T W (f (uv D number hd).1) (K (.i (uv D number hd).2))):T W L (u2 (ah d) number (cr hd) K):=λw hw=>by
 obtain⟨k,hk,e⟩:=i.at_;exact Ts hw hk iH hl λw' h'=>h w' (by rw[e];exact h')
def Hp[i:Lc (gU d) L D f](iH:D.Ok)(h:T W L (K (.i (fr D D.safe.length)))):T W L (oJ (ah d) K):=λw hw=>by
 obtain⟨k,hk,e⟩:=i.at_;exact Io hw hk iH λw' h'=>h w' h'
def Vl[i:Lc (jP d r) L J g](h:T W L (K (.i J.seq))):T W L (kG (ah r) K):=λw hw=>by
 obtain⟨k,hk,e⟩:=i.at_;exact WS hw hk (h w hw)
def Tz[i:Lc (jP d r) L J g](h:T W (g {J with at':=J.lo}) (K (.tuple ⟨[]⟩))):T W L (jZ (ah r) K):=λw hw=>by
 obtain⟨k,hk,e⟩:=i.at_;exact KZ hw hk λw' h'=>h w' (by rw[e];exact h')
def YB[i:Lc (jP d r) L J g]{m:Int}(hJ:J.Ok D)(iH:D.Ok)(h:T W L (K (.b (decide (room J m))))):T W L (jY (ah r) m K):=λw hw=>by
 obtain⟨k,hk,e⟩:=i.at_;exact GG hw hk hJ iH λw' h'=>h w' h'
def abA{number:Int}(hJ:J.Ok D)(iH:D.Ok)(hl:D.later.length<1000000)(hs:s.size<=reachBytes)
 (h:T W (jP d r (uy D J number s).2.1::gU d (uy D J number s).1::R) (K (.i (uy D J number s).2.2))):T W (jP d r J::gU d D::R) (cx (ah r) number s K):=λw hw=>
 SI (k:=0) (k2:=1) hw rfl rfl (by decide) hJ iH hl hs λw' h'=>h w' h'
def YC[i:Lc (gU d) L D f]{lo hi q:Int}(iH:D.Ok)(hp:0<=lo/\lo<hi/\hi<=(D.safe.length:Int))(hq:0<=q/\q<=1152921504606846976)
 (h:∀r b c,(∃n:Nat,n<=4096/\(lh D hi lo q).1.length=n/\(lh D hi lo q).2.2=q+n/\lo<=(lh D hi lo q).2.1/\(lh D hi lo q).2.1<=hi)->T W (own b (lh D hi lo q).1.length c 1 ((lh D hi lo q).1.map HX)::jP d r ⟨lo,hi,(lh D hi lo q).2.1,(lh D hi lo q).2.2,false⟩::L)
  (K (.tuple ⟨[.p (ah r),.l b (lh D hi lo q).1.length c,.i 0]⟩))):T W L (lq (ah d) lo hi q K):=λw hw=>by
 obtain⟨k,hk,e⟩:=i.at_;exact TA hw hk iH hp hq λr b c w' he h'=>h r b c he w' h'
end
end Go.Up
namespace Go.Sep
open Go.Den Go.RowKit Go.Prog Go.cF
def OT{D:aX}{at' toX number:Int}{s:BA}(h:D.Ok)(hl:D.later.length+gN s.size<1099511627776):(fj D at' toX number s).1.later.length<=D.later.length+gN s.size:=by
 have hL:(lay D at' toX number s).1.later.length<=D.later.length+gN s.size:=by
  unfold lay;split
  ·exact Nat.le_add_right _ _
  ·split
   ·exact Nat.le_add_right _ _
   ·exact(Co _ 0 h hl).2.2
 unfold fj;split
 ·exact hL
 ·exact AD Dk.LF.2 hL
section
variable {W w:World} {L:LH}
end
end Go.Sep
namespace Go.Up
open Go.Sep Go.Den Go.RowKit Go.Prog Go.Md Go.cF
structure VS where
 D:aX
 J:PJ
 bC:Int
 dJ:Bool
def vC(d n pb pj:Nat)(bC:Int)(dJ:Bool):LV:=[.p (ah d)]++(fI n++[.p (ah pb),.p (ah pj),.i bC,.b dJ])
instance{h:gF}:Ln (cr h) 4:=⟨rfl⟩
instance{n:Nat}:Ln (fI n) 5:=⟨rfl⟩
instance{h:gF}:Gt (cr h) 0 (.i h.bC):=⟨rfl⟩
instance{h:gF}:Gt (cr h) 1 (.i h.number):=⟨rfl⟩
instance{h:gF}:Gt (cr h) 2 (.i h.size):=⟨rfl⟩
instance{h:gF}:Gt (cr h) 3 (.i h.seq):=⟨rfl⟩
instance{n:Nat}:Gt (fI n) 3 (.i (2+2* dB n:Nat)):=⟨rfl⟩
instance{n:Nat}:Gt (fI n) 4 (.i n):=⟨rfl⟩
instance{d n pb pj:Nat}{bC:Int}{dJ:Bool}:Gt (vC d n pb pj bC dJ) 0 (.p (ah d)):=⟨rfl⟩
instance{d n pb pj:Nat}{bC:Int}{dJ:Bool}:Gt (vC d n pb pj bC dJ) 6 (.p (ah pb)):=⟨rfl⟩
instance{d n pb pj:Nat}{bC:Int}{dJ:Bool}:Gt (vC d n pb pj bC dJ) 7 (.p (ah pj)):=⟨rfl⟩
instance{d n pb pj:Nat}{bC:Int}{dJ:Bool}:Gt (vC d n pb pj bC dJ) 8 (.i bC):=⟨rfl⟩
instance{d n pb pj:Nat}{bC:Int}{dJ:Bool}:Gt (vC d n pb pj bC dJ) 9 (.b dJ):=⟨rfl⟩
instance{d n pb pj:Nat}{bC:Int}{dJ:Bool}:Sub (vC d n pb pj bC dJ) 1 5 (fI n):=⟨rfl,λj v h=>by
 show([_]++(fI n++_))[1+j]?=some v
 rw[iW (by simp),bh (by have:=(ao.1 h).1;simpa using this)]
 simpa using h⟩
instance{d n pb pj:Nat}{bC t2:Int}{dJ:Bool}:Wr (vC d n pb pj bC dJ) 8 [.i t2] (vC d n pb pj t2 dJ):=⟨rfl,by show 9<=10;decide,λv h=>by simp at h;subst h;rfl⟩
instance{d n pb pj:Nat}{bC:Int}{dJ s2:Bool}:Wr (vC d n pb pj bC dJ) 9 [.b s2] (vC d n pb pj bC s2):=⟨rfl,by show 10<=10;decide,λv h=>by simp at h;subst h;rfl⟩
abbrev VL(v d n pb pj:Nat)(m:aA)(S:VS)(R:LH):LH:=Sep.pt v (vC d n pb pj S.bC S.dJ)::cL pb (bo m,[])::jP d pj S.J::gU d S.D::R
def fJ(n:Nat)(m:aA)(S:VS):VS×Int:=
 if S.dJ=true then(S,9)
 else if ¬gN (cQ (bo m)).length<=dB n then(S,3)
 else if(put S.D n (S.bC+1) (fr S.D S.D.safe.length+1) (bs (cQ (bo m)))).2≠0 then(⟨(put S.D n (S.bC+1) (fr S.D S.D.safe.length+1) (bs (cQ (bo m)))).1,S.J,S.bC,true⟩,(put S.D n (S.bC+1) (fr S.D S.D.safe.length+1) (bs (cQ (bo m)))).2)
 else if(uv (put S.D n (S.bC+1) (fr S.D S.D.safe.length+1) (bs (cQ (bo m)))).1 (fr S.D S.D.safe.length+2) ⟨S.bC+1,fr S.D S.D.safe.length+1,((cQ (bo m)).length:Int),S.J.seq⟩).2≠0 then
  (⟨(uv (put S.D n (S.bC+1) (fr S.D S.D.safe.length+1) (bs (cQ (bo m)))).1 (fr S.D S.D.safe.length+2) ⟨S.bC+1,fr S.D S.D.safe.length+1,((cQ (bo m)).length:Int),S.J.seq⟩).1,S.J,S.bC,true⟩,(uv (put S.D n (S.bC+1) (fr S.D S.D.safe.length+1) (bs (cQ (bo m)))).1 (fr S.D S.D.safe.length+2) ⟨S.bC+1,fr S.D S.D.safe.length+1,((cQ (bo m)).length:Int),S.J.seq⟩).2)
 else(⟨(uv (put S.D n (S.bC+1) (fr S.D S.D.safe.length+1) (bs (cQ (bo m)))).1 (fr S.D S.D.safe.length+2) ⟨S.bC+1,fr S.D S.D.safe.length+1,((cQ (bo m)).length:Int),S.J.seq⟩).1,{S.J with at':=S.J.lo},S.bC+1,S.dJ⟩,0)
section
variable {W:World} {L R:LH} {K:VK} {X:WK} {v d n pb pj:Nat} {m:aA} {S:VS}
def acG{k:Nat}(hk:k<1099511627776000)(h:T W L (K (.b (decide (gN k<=dB n))))):T W L (qn (fI n) k K):=λw hs=>TB hs hk λw' h'=>h w' h'
def Bd{D:aX}{which number:Int}{s:BA}:put D n which number s=fj D (fq n which) ((fq n which+dB n:Nat):Int) number s:=rfl
def RI{e:Int}{J2:PJ}{D2:aX}(ht:0<=S.bC/\S.bC<1152921504606846976)
 (h1:e≠0->T W (Sep.pt v (vC d n pb pj S.bC true)::cL pb (bo m,[])::jP d pj J2::gU d D2::R) (K (.i e)))
 (h0:e=0->T W (Sep.pt v (vC d n pb pj (S.bC+1) S.dJ)::cL pb (bo m,[])::jP d pj {J2 with at':=J2.lo}::gU d D2::R) (K (.i 0))):
 T W (Sep.pt v (vC d n pb pj S.bC S.dJ)::cL pb (bo m,[])::jP d pj J2::gU d D2::R) (iK.j1 K (ah v) e):=by
 unfold iK.j1;apply dj<;>intro g1
 ·have g1:e≠0:=by simpa using g1
  apply ws;intros;exact h1 g1
 ·have g1:e=0:=by simpa using g1
  have e5:aa.wrap (S.bC+1)=S.bC+1:=aW (by omega);apply ws;intros;rw[e5];refine Tz (d:=d) (r:=pj) ?_;apply ws;intros;exact h0 g1
def WU(iH:S.D.Ok)(Bq:S.D.later.length<1000000)(nF:12<=n)(cS:n<=4096)(ht:0<=S.bC/\S.bC<1152921504606846976)
 (h:T W (VL v d n pb pj m (fJ n m S).1 R) (K (.i (fJ n m S).2))):T W (VL v d n pb pj m S R) (iK (ah v) K):=by
 unfold iK;refine qP (p:=pb) (b:=bo m) (hs:=[]) λhg=>?_;have hsl:=ye hg;have og:=hg.og;have many:=hg.many;apply ws;intros;unfold fJ at h;cases D8:S.dJ with
 |true=>
  rw[ai D8] at h;rw[lz];exact h
 |false=>
  rw[ag (by rw[D8];decide)] at h;rw[eK]
  repeat' first|apply ws;intros|apply wb|with_reducible refine IE (p:=pb) ?_|fail
  rw[cj];refine acG (by omega) (oU ?_);by_cases hf:gN (cQ (bo m)).length<=dB n
  ·rw[ag (λhh=>hh hf)] at h;rw[av hf,Bool.not_true,eK];obtain⟨NZ,xX⟩:=yA S.D S.D.safe.length;have e1:aa.wrap (fr S.D S.D.safe.length+1)=fr S.D S.D.safe.length+1:=aW (by omega);have e2:aa.wrap (fr S.D S.D.safe.length+1+1)=fr S.D S.D.safe.length+2:=by rw[aW (by omega)];omega
   have e3:aa.wrap (S.bC+1)=S.bC+1:=aW (by omega)
   repeat' first|apply ws;intros|apply wb|with_reducible refine Hp (d:=d) iH ?_|fail
   rw[e1,e2,e3];have hO:(bs (cQ (bo m))).size<=reachBytes:=by rw[cj,hsl];unfold reachBytes;omega
   refine aa9 iH nF cS (by omega) hO ?_;have adA:(put S.D n (S.bC+1) (fr S.D S.D.safe.length+1) (bs (cQ (bo m)))).1.Ok:=by
    rw[Bd];exact Mp iH (by rw[cj];unfold dB at hf;omega)
   have adQ:(put S.D n (S.bC+1) (fr S.D S.D.safe.length+1) (bs (cQ (bo m)))).1.later.length<1010000:=by
    rw[Bd];have:=OT (D:=S.D) (at':=(fq n (S.bC+1):Nat)) (toX:=((fq n (S.bC+1)+dB n:Nat):Int)) (number:=fr S.D S.D.safe.length+1) (s:=bs (cQ (bo m))) iH (by rw[cj];unfold dB at hf;omega);rw[cj] at this;unfold dB at hf;omega
   generalize put S.D n (S.bC+1) (fr S.D S.D.safe.length+1) (bs (cQ (bo m)))=P1 at h adA adQ⊢;generalize fr S.D S.D.safe.length=G at h⊢;apply ws;intros;apply dj<;>intro g1
   ·have g1:P1.2=0:=by simpa using g1
    rw[ag (by omega)] at h
    repeat' first|apply ws;intros|apply wb|with_reducible refine Vl (d:=d) (r:=pj) ?_|fail
    rw[e3];show T W _ (u2 (some ⟨d,0,none⟩) (G+2) (cr (⟨S.bC+1,G+1,((cQ (bo m)).length:Int),S.J.seq⟩:gF)) _);refine acn adA (by omega) ?_;generalize uv P1.1 (G+2) (⟨S.bC+1,G+1,((cQ (bo m)).length:Int),S.J.seq⟩:gF)=P2 at h⊢;apply ws;intros;refine RI (S:=S) ht (λhe=>?_) (λhe=>?_)
    ·rw[ai he] at h;exact h
    ·rw[ag (by omega)] at h;exact h
   ·have g1:P1.2≠0:=by simpa using g1
    rw[ai g1] at h;refine RI (S:=S) ht (λhe=>?_) (λhe=>aQ he g1);exact h
  ·rw[ai hf] at h;rw[ar hf,P8,lz];exact h
end
def oY(S:VS)(s:BA):VS×Int:=
 (⟨(uy S.D S.J (fr S.D S.D.safe.length+1) s).1,(uy S.D S.J (fr S.D S.D.safe.length+1) s).2.1,S.bC,S.dJ||(uy S.D S.J (fr S.D S.D.safe.length+1) s).2.2==8⟩,(uy S.D S.J (fr S.D S.D.safe.length+1) s).2.2)
def ji(n:Nat)(m:aA)(S:VS)(s:BA):VS×Int:=
 if room S.J s.size then oY S s else if(fJ n m S).2≠0 then fJ n m S else oY (fJ n m S).1 s
def AK(n:Nat)(m:aA)(S:VS)(q:kh):VS×aA×Int×List Int:=
 if k9 q=false then(S,m,1,[])
 else if S.dJ=true then(S,m,9,[])
 else if(ji n m S (bs (dR q))).2≠0 then((ji n m S (bs (dR q))).1,m,(ji n m S (bs (dR q))).2,[])
 else((ji n m S (bs (dR q))).1,(bI m q).2.2,(bI m q).1,(bI m q).2.1)
structure Il(S:VS):Prop where
 ok:S.D.Ok
 og:S.D.later.length<1000000
 yW:S.J.Ok S.D
 bC:0<=S.bC/\S.bC<1152921504606846976
section
variable {W:World} {L R:LH} {K:VK} {X:WK} {v d n pb pj:Nat} {m:aA} {S:VS} {s:BA} {q:kh} {sl:wK}
def T.eng{A B C D E F G:HP}(h:T W (B::C::A::D::E::R) X):T W (A::B::C::D::E::F::G::R) X:=
 T.perm (L:=B::C::A::D::E::F::G::R) (T.sub h (by exact qo)) (bp (l₁:=[A]) (l₂:=[B,C])|>.append_right _)
def Xf(hS:Il S)(hs:s.size<=reachBytes)(h:T W (VL v d n pb pj m (oY S s).1 R) (K (.i (oY S s).2))):T W (VL v d n pb pj m S R) (jJ.j1 K (ah v) s):=by
 unfold jJ.j1;obtain⟨NZ,xX⟩:=yA S.D S.D.safe.length;have e1:aa.wrap (fr S.D S.D.safe.length+1)=fr S.D S.D.safe.length+1:=aW (by omega)
 repeat' first|apply ws;intros|apply wb|with_reducible refine Hp (d:=d) hS.ok ?_|fail
 rw[e1];refine T.perm (L:=jP d pj S.J::gU d S.D::Sep.pt v (vC d n pb pj S.bC S.dJ)::cL pb (bo m,[])::R) ?_ (bp (l₁:=[_,_]) (l₂:=[_,_])|>.append_right R);refine abA hS.yW hS.ok hS.og hs ?_;unfold oY at h;generalize uy S.D S.J (fr S.D S.D.safe.length+1) s=A at h⊢;refine T.perm (L:=Sep.pt v (vC d n pb pj S.bC S.dJ)::cL pb (bo m,[])::jP d pj A.2.1::gU d A.1::R) ?_ (bp (l₁:=[_,_]) (l₂:=[_,_])|>.append_right R);cases D8:S.dJ with
 |true=>
  rw[D8,Bool.true_or] at h;apply ws;intros;exact h
 |false=>
  rw[D8,Bool.false_or] at h;apply ws;intros;exact h
def ae6(hS:Il S)(hS2:Il (fJ n m S).1)(nF:12<=n)(cS:n<=4096)(hs:s.size<=100000)(h:T W (VL v d n pb pj m (ji n m S s).1 R) (K (.i (ji n m S s).2))):T W (VL v d n pb pj m S R) (jJ (ah v) s K):=by
 have hsr:s.size<=reachBytes:=by unfold reachBytes;omega
 unfold jJ;apply ws;intros;refine YB (d:=d) (r:=pj) (D:=S.D) hS.yW hS.ok ?_;unfold ji at h;by_cases hr:room S.J s.size
 ·rw[ai hr] at h;rw[av hr];apply ws;intros;exact Xf hS hsr h
 ·rw[ag hr] at h;rw[ar hr];apply ws;intros;refine WU hS.ok hS.og nF cS hS.bC ?_;apply ws;intros;apply dj<;>intro g1
  ·have g1:(fJ n m S).2≠0:=by simpa using g1
   rw[ai g1] at h;exact h
  ·have g1:(fJ n m S).2=0:=by simpa using g1
   rw[ag (by omega)] at h;exact Xf hS2 hsr h
def LX(hw:k9 q=true)(he:gJ q=true):(dR q).length<=2000:=by
 have YM:q.op=1\/q.op=2\/q.op=3:=aR he;have hf:=nP hw;unfold dR;rw[aw,aO];split
 ·rw[aw,aO,eB oT];omega
 ·split
  ·rw[aw,aO,eB pT];omega
  ·split
   ·rw[aO];omega
   ·omega
def aaQ(G:mY W)(hg:Md.bK m)(hS:Il S)(hS2:Il (fJ n m S).1)(nF:12<=n)(cS:n<=4096)(hq:qf W R q sl)(hA:∀a∈q.aB,xR a)(hT:∀t∈q.cy,Ab t)(Ed:q.aB.length<1000000)(bX:q.cy.length<1000000)(he:gJ q=true)
 (h:∀rb rc,Md.bK (AK n m S q).2.1->T W (own rb (AK n m S q).2.2.2.length rc 1 ((AK n m S q).2.2.2.flatMap I1)::VL v d n pb pj (AK n m S q).2.1 (AK n m S q).1 R) (K (.agg ⟨sg (AK n m S q).2.2.1 rb (AK n m S q).2.2.2.length rc none 0 0 none 0 0⟩))):
 T W (VL v d n pb pj m S R) (m8 (ah v) (gX q sl) K):=by
 unfold m8
 repeat' first|apply ws;intros|apply wb|with_reducible refine Dv ?_|fail
 rw[he];apply ws;intros;refine T8 (R:=R) hq Ed bX (λhw=>?_) (λhw=>?_)
 ·apply ws;intros;unfold AK at h;rw[ag (by rw[hw];decide)] at h;refine fW (by decide) ?_;apply ws;intros;cases D8:S.dJ with
  |true=>
   rw[ai D8] at h;apply ws;intros;refine iB (e:=1) ?_;refine T.sub (h none 0 hg) ?_
   repeat (first|exact bj.refl _|apply bj.cons_cons|apply bj.cons)
  |false=>
   rw[ag (by rw[D8];decide)] at h;rw[eK];have hrl:=LX hw he;have Xw:q.op=2->∀t∈q.cy,TOk t:=λho t ht=>⟨hT t ht,by
    have hf:=nP hw
    have:∀a∈q.cy,kL a:=by rcases hf with h|h|h|h|h<;>first|exact h.2.2|omega
    exact this t ht⟩
   refine T.perm (L:=VL v d n pb pj m S (_::_::R)) ?_ (bp (l₁:=[_,_]) (l₂:=[_,_,_,_])|>.append_right R);refine ae6 hS hS2 nF cS (by rw[cj];omega) ?_;generalize ji n m S (bs (dR q))=A at h⊢;apply ws;intros;apply dj<;>intro g1
   ·have g1:A.2≠0:=by simpa using g1
    rw[ai g1] at h;apply ws;intros;refine iB (e:=1) ?_;refine T.sub (h none 0 hg) ?_
    repeat (first|exact bj.refl _|apply bj.cons_cons|apply bj.cons)
   ·have g1:A.2=0:=by simpa using g1
    rw[ag (by omega)] at h;apply ws;intros;refine T.Ow ?_;refine M4 G hg ⟨hq.aB.mono,hq.cy.mono,hq.ids.mono,hq.ca,hq.ct,hq.ci⟩ (λ_=>hA) Xw λrb rc xX=>?_;apply ws;intros;have fin:=h rb rc xX;exact T.eng fin
 ·apply ws;intros;unfold AK at h;rw[ai hw] at h;refine mP (by decide) ?_;apply ws;intros;refine iB (e:=1) ?_;refine T.sub (h none 0 hg) ?_
  repeat (first|exact bj.refl _|apply bj.cons_cons|apply bj.cons)
end
section
variable {W:World} {L R:LH} {K:VK} {X:WK} {v d n pb pj:Nat} {m:aA} {S:VS} {s:BA} {q:kh} {sl:wK}
def T.ask{O1 O2 B V J D F G:HP}(h:T W (O1::O2::V::B::J::D::R) X):T W (O1::O2::B::V::J::D::F::G::R) X:=
 T.perm (L:=O1::O2::V::B::J::D::F::G::R) (T.sub h (by exact qo)) (bZ.append_left [O1,O2] (bZ.swap _ _ _))
def T.in2{F G V B J D:HP}(h:T W (B::V::J::D::F::G::R) X):T W (F::G::V::B::J::D::R) X:=
 T.perm h ((bp (l₁:=[F,G]) (l₂:=[V,B,J,D])|>.append_right R).trans (bZ.swap _ _ _))
def aaS(hq:qf W R q sl)(he:gJ q=false)
 (h:∀ab ac tb tc,T W (own ab (ask m q).2.1.length ac 14 ((ask m q).2.1.flatMap aL)::own tb (ask m q).2.2.length tc 16 ((ask m q).2.2.flatMap aM)::VL v d n pb pj m S R) (K (.agg ⟨sg (ask m q).1 none 0 0 ab (ask m q).2.1.length ac tb (ask m q).2.2.length tc⟩))):
 T W (VL v d n pb pj m S R) (m8 (ah v) (gX q sl) K):=by
 unfold m8
 repeat' first|apply ws;intros|apply wb|with_reducible refine Dv ?_|fail
 rw[he];apply ws;intros;refine T.in2 ?_;refine ae4 ⟨hq.aB.mono,hq.cy.mono,hq.ids.mono,hq.ca,hq.ct,hq.ci⟩ λab ac tb tc=>?_;apply ws;intros;exact T.ask (h ab ac tb tc)
def aaO(h:T W (VL v d n pb pj m S R) (K (.i S.J.seq))):T W (VL v d n pb pj m S R) (ru (ah v) K):=by
 unfold ru
 repeat' first|apply ws;intros|apply wb|with_reducible refine Vl (d:=d) (r:=pj) ?_|fail
 exact h
def XG(h:T W (VL v d n pb pj m S R) (K (.b S.dJ))):T W (VL v d n pb pj m S R) (qA (ah v) K):=by
 unfold qA;apply ws;intros;exact h
def Ue(h:∀p,T W (cL p (bo m,[])::VL v d n pb pj m S R) (K (.p (ah p)))):T W (VL v d n pb pj m S R) (qc (ah v) K):=by
 refine qP (p:=pb) (b:=bo m) (hs:=[]) λhg=>?_;unfold qc
 repeat' first|apply ws;intros|apply wb|with_reducible refine IE (p:=pb) ?_|fail
 refine LJ hg λp=>?_;apply ws;intros;exact h p
end
def je:aA:=⟨[],[],0,0⟩
def GQ:ft (bo je):=⟨List.nodup_nil,List.nodup_nil,(by show 0<=32;decide),(by show 0<=96;decide),λa h=>(by cases h),λa h=>(by cases h),List.Pairwise.nil,λa h=>(by cases h),(by show(0:Int)<=0/\(0:Int)<=1099511627776;decide),rfl⟩
def px:Md.bK je:=⟨λa h=>(by cases h),List.nodup_nil,(by show 0<=32;decide),List.nodup_nil,λa h=>(by cases h),λa h=>(by cases h),(by show 0<=96;decide),λa h=>(by cases h),λa h=>(by cases h),λa h=>(by cases h)⟩
def AU(h:gF):∀v∈cr h,v.oneCell'=true:=λv hv=>by simp[cr] at hv;rcases hv with rfl|rfl|rfl|rfl<;>rfl
instance{x1 x2 x3 x4:Value}{h:gF}:Wr [x1,x2,x3,x4] 0 (cr h) (cr h):=⟨rfl,aH _,AU h⟩
instance{h:gF}:Sub (cr h) 0 4 (cr h):=⟨rfl,λj v h=>by rw[aC];exact h⟩
def H3(n:Nat):∀v∈fI n,v.oneCell'=true:=λv hv=>by simp[fI] at hv;rcases hv with rfl|rfl|rfl|rfl|rfl<;>rfl
instance{x1 x2 x3 x4 x5:Value}{n:Nat}:Wr [x1,x2,x3,x4,x5] 0 (fI n) (fI n):=⟨rfl,aH _,H3 n⟩
instance{n:Nat}:Sub (fI n) 0 5 (fI n):=⟨rfl,λj v h=>by rw[aC];exact h⟩
def acH(D:aX)(n:Nat)(hd:gF)(mb:aA):Prop:=
 (Cl (BD D 0) (BD D 1)=none/\hd=Fs/\mb=je)\/(Cl (BD D 0) (BD D 1)=some hd/\get D n hd.bC hd.number hd.size=some (cQ (bo mb)))
section
variable {W:World} {L R:LH} {K:VK} {X:WK} {v d n pb pj:Nat} {D:aX} {f:aX->LH} {mb:aA} {hd:gF}
def Zy(h:∀p,T W (cL p (bo je,[])::L) (K (.p (ah p)))):T W L (u5 K):=by
 refine Wy λp la lk ti tn=>?_;intro w7 hw7;have h2:=hw7.push (A:=xd []) trivial;refine Fj (p:=p) (la:=la) (lk:=lk) (ti:=ti) (tn:=tn) (vs:=[]) (bx:=[]) (c:=fY (bo je)) (hs:=[]) (R:=L) trivial (λw hw=>h p w (St.and_intro GQ hw)) w7 ?_;exact h2.perm (bp (l₁:=[xd []]) (l₂:=[_,_,_,_,_])|>.append_right L)
def XI[i:Lc (gU d) L D f](iH:D.Ok)(nF:12<=n)(cS:n<=4096)(hb:acH D n hd mb)(hg:ft (bo mb))(h:∀pb,T W (cL pb (bo mb,[])::L) (K (.tuple ⟨[.p (ah pb),.agg ⟨cr hd⟩,.i 0]⟩))):
 T W L (yc (ah d) (fI n) K):=by
 unfold yc;apply ws;intros;refine W5 iH ?_;rcases hb with⟨h1,rfl,rfl⟩|⟨h1,h2⟩
 ·rw[h1];unfold qI;apply ws;intros;refine Zy λp=>?_;apply ws;intros;refine Un (n:=4) (xs:=cr Fs) ?_;apply ws;intros;refine T.sub (h p) ?_;exact qo
 ·rw[h1];unfold qI;apply ws;intros;refine aba iH nF cS ?_;rw[h2];unfold tB;apply ws;intros;refine LJ hg λp=>?_;apply ws;intros;refine T.sub (h p) ?_;exact qo
end
structure Hm(q:kh):Prop where
 zP:k9 q=true
 writes:gJ q=true
 aB:∀a∈q.aB,xR a
 cy:∀t∈q.cy,Ab t
def AF(m:aA)(qs:List kh):aA:=qs.foldl (λm q=>(bI m q).2.2) m
def IL(m:aA)(qs:List kh)(q:kh):AF m (qs++[q])=(bI (AF m qs) q).2.2:=by unfold AF;rw[List.foldl_append];rfl
def Ie{m0:aA}:∀(k:Nat)(m:aA),DW m0.clock m.ax=k->Md.bK m->ZL m0 m->Md.bK {m0 with ax:=m0.ax.map (GX m0.clock)}:=by
 intro k
 induction k using Nat.strongRecOn with
 |_ k ih=>
  intro m hk hg hx;by_cases hn:∀x∈(bo m).ax,¬kJ (bo m).clock x
  ·have:=I5 (qK m) hx hn;rw[<-this];exact hg
  ·have:∃x,x∈(bo m).ax/\kJ (bo m).clock x:=by
    by_cases he:∃x,x∈(bo m).ax/\kJ (bo m).clock x
    ·exact he
    ·exact aQ (λx hx ho=>he ⟨x,hx,ho⟩) hn
   obtain⟨x,hxm,ho⟩:=this;obtain⟨-,-,m',fM,YT,hx',BM⟩:=I4 (qK m) hg hx hxm ho;exact ih _ (by omega) m' rfl YT hx'
def DK{m:aA}(hg:Md.bK m)(now:Int):Md.bK (m.time now):=by
 rw[JS];exact Ie _ (ve m now) rfl (Et hg now) (ZL.refl _)
def Nj{q:kh}:(∀a∈(canon q).aB,a∈q.aB)/\(∀t∈(canon q).cy,t∈q.cy)/\(canon q).aB.length<=q.aB.length/\(canon q).cy.length<=q.cy.length:=by
 unfold canon;split
 ·exact⟨λa h=>h,λt h=>(by cases h),aH _,aE _⟩
 ·split
  ·exact⟨λa h=>(by cases h),λt h=>h,aE _,aH _⟩
  ·exact⟨λa h=>(by cases h),λt h=>(by cases h),aE _,aE _⟩
def wY{m:aA}(hg:Md.bK m)(q:kh):Md.bK (bI m q).2.2:=by
 unfold bI;split
 ·exact hg
 ·split
  ·exact(LN hg _ _).2.2
  ·split
   ·exact(Qu hg _ _).2.2
   ·exact DK hg _
section
variable {W:World} {L R:LH} {K:VK} {X:WK} {v d n pb pj:Nat} {D:aX} {f:aX->LH} {mb:aA} {hd:gF} {qs:List kh}
def qf.two{Y A:HP}{q:kh}{s:wK}(hq:∀L',qf W (A::L') q s):qf W (Y::A::L) q s:=⟨(hq L).aB.mono,(hq L).cy.mono,(hq L).ids.mono,(hq L).ca,(hq L).ct,(hq L).ci⟩
def T.ade{V O J H B P Dk:HP}(h:T W (B::V::J::Dk::O::R) X):T W (V::O::J::H::B::P::Dk::R) X:=
 T.perm (L:=B::V::J::Dk::O::H::P::R) (T.sub h (by exact qo)) (by
  have e1:([V,O,J,H,B,P,Dk]:LH).Perm (B::[V,O,J,H,P,Dk]):=iq (l₁:=[V,O,J,H]) (l₂:=[P,Dk])
  have e2:([O,J,H,P,Dk]:LH).Perm (J::[O,H,P,Dk]):=iq (l₁:=[O]) (l₂:=[H,P,Dk])
  have e3:([O,H,P,Dk]:LH).Perm (Dk::[O,H,P]):=iq (l₁:=[O,H,P]) (l₂:=[])
  exact(e1.trans (bZ.cons _ (bZ.cons _ (e2.trans (bZ.cons _ e3))))).append_right R)
def XH(G:mY W)(iH:D.Ok)(nF:12<=n)(cS:n<=4096)(hlen:D.safe.length=n)(hb:acH D n hd mb)(hg:ft (bo mb))(rS:Md.bK mb)(H9:0<=hd.seq/\hd.seq<=1152921504606846976)
 (EH:(lh D n (2+2* dB n:Nat) hd.seq).1=qs.map dR)(hqs:∀q∈qs,Hm q)
 (h:∀v pb pj,Md.bK (AF mb qs)->T W (VL v d n pb pj (AF mb qs) ⟨D,⟨(2+2* dB n:Nat),n,(lh D n (2+2* dB n:Nat) hd.seq).2.1,(lh D n (2+2* dB n:Nat) hd.seq).2.2,false⟩,hd.bC,false⟩ R) (K (.tuple ⟨[.p (ah v),.i 0]⟩))):
 T W (gU d D::R) (m9 (ah d) K):=by
 unfold m9;have Vv:2+2* dB n<n:=by unfold dB;omega
 repeat' first|apply ws;intros|apply wb|with_reducible refine JL (d:=d) ?_|fail
 rw[hlen];refine ae7 nF cS ?_;apply ws;intros;refine fW (by decide) ?_;apply ws;intros;refine XI (mb:=mb) (hd:=hd) iH nF cS hb hg λpb=>?_;apply ws;intros;refine fW (by decide) ?_;apply ws;intros;refine YC (D:=D) iH (by rw[hlen];omega) H9 λpj bb c hex=>?_;apply ws;intros;refine fW (by decide) ?_;apply ws;intros;rename_i v;rw[EH];refine T.ade ?_;rw[bU];have hql:qs.length<=4096:=by obtain⟨n',h1,h2,-⟩:=hex;rw[EH,bU] at h2;omega
 intro w hw0;refine⟨λvv w=>∃i:Nat,i<=qs.length/\vv=[.p none,.i 0,.p (ah pb),.p (some (ad v 0)),.l bb qs.length c,.i (qs.length:Int),.i (i:Int)]/\Md.bK (AF mb (qs.take i))/\
  St W w (cL pb (bo (AF mb (qs.take i)),[])::Sep.pt v (vC d n pb pj hd.bC false)::jP d pj ⟨(2+2* dB n:Nat),n,(lh D n (2+2* dB n:Nat) hd.seq).2.1,(lh D n (2+2* dB n:Nat) hd.seq).2.2,false⟩::gU d D::own bb qs.length c 1 ((qs.map dR).map HX)::R),
  λvs _=>match vs with|[_,_,_,_,_,_,.int _ k]=>qs.length-k.toNat|_=>0,⟨0,aE _,rfl,rS,hw0⟩,?_⟩
 rintro p4 n9 p5 a1 jT jd ku Bg Bf w2 ⟨i,hi,e,hgi,hO⟩;cases e
 refine T.at ?_ hO;have e5:=nK i;apply ga<;>intro g1
 ·have bX:i<qs.length:=by omega
  have gx:=aj bX;have gq:=hqs _ (bP bX);have rI:qs.take (i+1)=qs.take i++[qs[i]]:=by rw[bg,gx];rfl
  generalize qs[i]=q at gx gq rI;have adV:=C5 gq.zP gq.writes gq.aB gq.cy;have hcg:=G7 gq.zP gq.writes;refine dL (b:=bb) ⟨by omega,by omega⟩ λrb hb=>?_;subst hb;rw[ak,mz];refine Ul (v:=HX (dR q)) (by rw[eo,eo,gx];rfl) ?_;unfold HX;refine y7 ?_;refine EP (by have:=LX gq.zP gq.writes;omega) (λAI=>by rw[DS gq.zP gq.writes gq.aB gq.cy] at AI;cases AI) (λ_ A sl hq=>?_);rw[adV] at hq⊢;dsimp only at hq⊢;apply ws;intros;refine fW (by decide) ?_
  repeat' first|apply ws;intros|apply wb|with_reducible refine Dv ?_|fail
  rw[hcg.2];unfold m9.j1;apply ws;intros;refine T.abg ?_;have Ef:=Nj (q:=q);have Xw:(canon q).op=2->∀t∈(canon q).cy,TOk t:=λho t ht=>⟨gq.cy t (Ef.2.1 t ht),by
   have hf:=nP hcg.1
   have:∀a∈(canon q).cy,kL a:=by rcases hf with h|h|h|h|h<;>first|exact h.2.2|omega
   exact this t ht⟩
  have GL:=G6 (AF mb (qs.take i)) gq.writes;refine M4 G hgi (qf.two hq) (λ_ a ha=>gq.aB a (Ef.1 a ha)) Xw λrb2 rc2 xX=>?_;apply ws;intros;rw[GL.1] at xX⊢;rw[e5];have hre:AF mb (qs.take (i+1))=(bI (AF mb (qs.take i)) q).2.2:=by rw[rI,IL]
  refine T.sub (M:=cL pb (bo (bI (AF mb (qs.take i)) q).2.2,[])::Sep.pt v (vC d n pb pj hd.bC false)::jP d pj ⟨(2+2* dB n:Nat),n,(lh D n (2+2* dB n:Nat) hd.seq).2.1,(lh D n (2+2* dB n:Nat) hd.seq).2.2,false⟩::gU d D::own (ah rb) qs.length c 1 ((qs.map dR).map HX)::R) (λw3 h3=>?_) ?_
  ·exact⟨⟨i+1,bX,rfl,by rw[hre];exact xX,by rw[hre];exact h3⟩,by show qs.length-((i+1:Nat):Int).toNat<qs.length-(i:Int).toNat;omega⟩
  ·repeat (first|exact bj.refl _|apply bj.cons_cons|apply bj.cons)
 ·have jk:i=qs.length:=by omega
  subst jk;rw[aS] at hgi⊢;have fin:=h v pb pj hgi;refine T.Ow ?_;refine T.sub fin ?_;exact qo
end
end Go.Up
namespace Go.Up
open Go.Md
inductive Step(m:aA):aA->Prop where
 |same:Step m m
 |make (a:bJ) (h:uw a=0) (hn:m.find a.id=none) (hf:m.cE.length<32):Step m {m with ay:=m.ay+1,cE:=m.cE++[{a with ay:=m.ay+1,aq:=a.aq/2* 2}]}
 |move (t:cM) (n:Nat) (d c:bJ) (hk:nG t=0) (he: ¬ke t.aq) (hn:m.named t.id=none) (hd:d∈m.cE) (hc:c∈m.cE) (EI:d.id=t.bw) (Ef:c.id=t.aP) (hl:d.ba=c.ba) (hm:m.ax.length<96)
  (hb: ¬(has (Md.full m.ax d).aq 2/\iR (Md.full m.ax d) true<n)) (wX: ¬(has (Md.full m.ax c).aq 4/\iR (Md.full m.ax c) false<n)):Step m (m.kY t {t with aU:=n} (waits t))
 |ends (t:cM) (i:Nat) (k:ch) (hi:m.ax[i]?=some k) (hk:nG t=0) (he:ke t.aq) (hn:m.named t.id=none) (hw:has k.move.aq 2) (h1:k.fate=1) (hb: ¬mq t k.move) (hm:m.ax.length<96):
  Step m ((m.dH i (cK t)).kY t (mJ t k.move) 0)
 |time (now:Int):Step m (m.time now)
def SG{m:aA}(a:bJ):Step m (m.make a).2:=by
 unfold aA.make;split
 ·exact .same
 ·rename_i h1;split
  ·exact .same
  ·rename_i h2;split
   ·exact .same
   ·rename_i h3;exact .make a (by simpa using h1) h2 (by omega)
def SD{m:aA}(hg:Md.bK m)(t:cM):Step m (m.move t).2:=by
 unfold aA.move;dsimp only;split
 ·exact .same
 ·rename_i h;have h:(jU t (m.named t.id) ((m.find t.bw).map m.full) ((m.find t.aP).map m.full) m.ax.length).1=0:=by simpa using h
  obtain⟨d',c',e1,e2,e3,e4,e5,e6,e7,e8,e9,e10,e11,e12,e13⟩:=wo h;cases hd:m.find t.bw with
  |none=>rw[hd] at e1;cases e1
  |some d=>
   cases hc:m.find t.aP with
   |none=>rw[hc] at e2;cases e2
   |some c=>
    rw[hd] at e1;rw[hc] at e2;cases e1
    cases e2
    obtain⟨m1,i1⟩:=xC hd;obtain⟨m2,i2⟩:=xC hc;have f1:=hg.full m1;have f2:=hg.full m2;rw[hd,hc] at *;simp only[fw] at *;generalize (jU t (m.named t.id) (some (m.full d)) (some (m.full c)) m.ax.length).2=N at e10 e11 e12 e13⊢;rw[f1] at e12;rw[f2] at e13;rw[f1,f2] at e6;exact .move t _ d c e4 e5 e3 m1 m2 i1 i2 e6 e9 e12 e13
def V3{m:aA}(hg:Md.bK m)(t:cM):Step m (m.py t).2:=by
 unfold aA.py;split
 ·exact .same
 ·rename_i i hi;split
  ·exact .same
  ·rename_i k hk;dsimp only;split
   ·exact .same
   ·rename_i h;have oB:=bD hk;obtain⟨e1,e2,e3,e4,e5,e6,e7⟩:=Bv (by simpa using h) (hg.vB k oB).1;have:=(hg.vB k oB).2.2.1 e4;exact .ends t i k hk e2 e3 e1 e4 (by omega) e6 e7
def Wa{m:aA}(hg:Md.bK m)(t:cM):Step m (m.rA t).2:=by
 unfold aA.rA;split
 ·exact V3 hg t
 ·exact SD hg t
def JC{σ α:Type}{f:σ->α->Int×σ}{P:σ->Prop}(h:∀s x,P s->P (f s x).2):∀(l:List α)(s:σ)(i:Nat),P s->P (iE f s l i).2
 |[],s,i,hs=>hs
 |x::l,s,i,hs=>by
  unfold iE;split
  ·exact hs
  ·exact JC h l _ _ (h s x hs)
def B7{σ α:Type}{f:σ->α->Int×σ}{P:σ->Prop}(lk:α->Bool)(h:∀s x,P s->P (f s x).2):∀(n:Nat)(s:σ)(l:List α),P s->P (iC f lk n s l).2
 |0,s,l,hs=>hs
 |n+1,s,[],hs=>hs
 |n+1,s,x::l,hs=>by
  rw[iC];split
  ·exact hs
  ·have hd:=JC h ((x::l).take (cz lk (x::l)).1) s 0 hs;split
   ·rename_i s' e;rw[e] at hd;exact B7 lk h n _ _ hd
   ·exact B7 lk h n _ _ hs
def yE{P:aA->Prop}(hP:∀m m',Md.bK m->P m->Step m m'->P m'){m:aA}{q:kh}(hg:Md.bK m)(h:P m):P (bI m q).2.2:=by
 unfold bI;split
 ·exact h
 ·split
  ·exact(B7 (P:=λm=>Md.bK m/\P m) _ (λs x hs=>⟨(Md.pC.make (qK s) hs.1).2.2,hP _ _ hs.1 hs.2 (SG x)⟩) _ _ _ ⟨hg,h⟩).2
  ·split
   ·exact(B7 (P:=λm=>Md.bK m/\P m) _ (λs x hs=>⟨(Md.pC.rA (qK s) hs.1).2.2,hP _ _ hs.1 hs.2 (Wa hs.1 x)⟩) _ _ _ ⟨hg,h⟩).2
   ·exact hP _ _ hg h (.time _)
def nC(l:List Int):Nat:=l.countP (·==0)
def yh{α σ:Type}(f:σ->α->Int×σ)(lk:α->Bool):∀(n:Nat)(s:σ)(l:List α),(iC f lk n s l).1.length<=l.length
 |0,s,l=>aE _
 |n+1,s,[]=>aE _
 |n+1,s,x::l=>by
  have hle:=vH (linked:=lk) (x::l);have hd:((x::l).drop (cz lk (x::l)).1).length=(x::l).length-(cz lk (x::l)).1:=aT;rw[iC];by_cases hw:(cz lk (x::l)).2=false
  ·rw[ai hw];dsimp only;rw[kX];exact hle
  rw[ag hw];cases iE f s ((x::l).take (cz lk (x::l)).1) 0 with
  |mk o s'=>
   cases o with
   |none=>
    have:=yh f lk n s' ((x::l).drop (cz lk (x::l)).1);dsimp only;rw[aw,kX];omega
   |some e=>
    have:=yh f lk n s ((x::l).drop (cz lk (x::l)).1);dsimp only;rw[aw,kX];omega
def y9(c:Int):Prop:=0<=c/\c<=255
def Nh(t:cM):y9 (nG t):=by
 unfold nG y9
 repeat' split
 all_goals omega
def Wm(a:bJ):y9 (uw a):=by
 unfold uw y9
 repeat' split
 all_goals omega
def Hi(t b:cM):y9 (tt t b):=by unfold tt y9;split<;>omega
def PQ(t b:bJ):y9 (ux t b):=by unfold ux y9;split<;>omega
def PO(t:cM)(d c:bJ):y9 (dh t d c).2:=by
 unfold dh y9;dsimp only;by_cases h1:has t.aq 16/\(if has t.aq 16 then min (if t.aU=0 then bG-1 else t.aU) (iR d true) else if t.aU=0 then bG-1 else t.aU)=0
 ·rw[ai h1];simp
 ·rw[ag h1];by_cases h2:has t.aq 32/\(if has t.aq 32 then min (if has t.aq 16 then min (if t.aU=0 then bG-1 else t.aU) (iR d true) else if t.aU=0 then bG-1 else t.aU) (iR c false) else if has t.aq 16 then min (if t.aU=0 then bG-1 else t.aU) (iR d true) else if t.aU=0 then bG-1 else t.aU)=0
  ·rw[ai h2];simp
  ·rw[ag h2];simp
def Mn(a:bJ)(b:Bool)(n:Nat)(p:Bool):y9 (more a b n p).2:=by
 unfold more y9
 repeat' split
 all_goals simp
def OR(t:cM)(named:Option ch)(d c:Option bJ)(many:Nat):y9 (jU t named d c many).1:=by
 unfold jU;have h1:=Nh t;split
 ·exact h1
 split
 ·unfold y9;simp
 cases named with
 |some k=>exact Hi _ _
 |none=>
  cases d with
  |none=>unfold y9;simp
  |some d=>
   cases c with
   |none=>unfold y9;simp
   |some c=>
    have h2:=PO t d c;have h3:=Mn d true (dh t d c).1 (decide (has t.aq 2));have h4:=Mn c false (dh t d c).1 (decide (has t.aq 2));dsimp only
    repeat' split
    all_goals first|exact h2|exact h3|exact h4|(unfold y9;dsimp only;decide)
def Du(t:cM)(named:Option ch){pend:Option ch}(hp:∀k,pend=some k->k.fate<=4)(d c:Bool)(many:Nat):y9 (oy t named pend d c many):=by
 unfold oy;have h1:=Nh t;split
 ·exact h1
 split
 ·unfold y9;decide
 cases named with
 |some k=>exact Hi _ _
 |none=>
  cases pend with
  |none=>unfold y9;dsimp only;decide
  |some k=>
   have:=hp k rfl;unfold y9;dsimp only
   repeat' split
   all_goals omega
def Zi{m:aA}(hg:Md.bK m)(t:cM):y9 (m.rA t).1:=by
 unfold aA.rA;split
 ·unfold aA.py;cases hi:m.name t.pending with
  |none=>dsimp only;exact Du t _ (λk h=>by cases h) _ _ _
  |some i=>
   dsimp only;cases hk:m.ax[i]? with
   |none=>dsimp only;exact Du t _ (λk h=>by cases h) _ _ _
   |some k=>
    have hf:=(hg.vB k (bD hk)).2.1;dsimp only;split
    ·exact Du t _ (pend:=some k) (λk2 h=>by cases h;exact hf) _ _ _
    ·unfold y9;dsimp only;decide
 ·unfold aA.move;dsimp only;split
  ·exact OR t _ _ _ _
  ·unfold y9;dsimp only;decide
def Vh(m:aA)(a:bJ):y9 (m.make a).1:=by
 unfold aA.make;split
 ·exact Wm a
 ·split
  ·exact PQ _ _
  ·split
   ·unfold y9;dsimp only;decide
   ·unfold y9;dsimp only;decide
def C'{n:Nat}{o:Option (Nat×Int)}(h:∀i c,o=some (i,c)->y9 c):∀c∈lg n o,y9 c:=λc hc=>by
 unfold lg at hc;cases o with
 |none=>rw[(List.mem_replicate.1 hc).2];unfold y9;decide
 |some e=>
  obtain⟨i,x⟩:=e;rcases eE hc with hh|hh
  ·rw[(List.mem_replicate.1 hh).2];unfold y9;decide
  ·rw[hh];exact h i x rfl
section
variable {σ α:Type} {f:σ->α->Int×σ} {P:σ->Prop}
def Jz(hP:∀s x,P s->P (f s x).2/\y9 (f s x).1):∀(l:List α)(s:σ)(i:Nat),P s->P (iE f s l i).2/\∀j c,(iE f s l i).1=some (j,c)->y9 c
 |[],s,i,h=>⟨h,λj c e=>by cases e⟩
 |x::l,s,i,h=>by
  unfold iE;split
  ·exact⟨h,λj c e=>by cases e;exact(hP s x h).2⟩
  ·exact Jz hP l _ _ (hP s x h).1
def B4(lk:α->Bool)(hP:∀s x,P s->P (f s x).2/\y9 (f s x).1):∀(n:Nat)(s:σ)(l:List α),P s->∀c∈(iC f lk n s l).1,y9 c
 |0,s,l,_,c,hc=>by cases hc
 |n+1,s,[],_,c,hc=>by cases hc
 |n+1,s,x::l,h,c,hc=>by
  rw[iC] at hc;split at hc
  ·exact C' (o:=some ((cz lk (x::l)).1-1,2)) (λi c e=>by cases e;unfold y9;decide) c hc
  ·have hd:=Jz hP ((x::l).take (cz lk (x::l)).1) s 0 h;generalize iE f s ((x::l).take (cz lk (x::l)).1) 0=r at hd hc
   match r,hd,hc with
   |(none,s'),hd,hc=>
    rcases dF.1 hc with hc|hc
    ·exact C' (o:=none) (λi c e=>by cases e) c hc
    ·exact B4 lk hP n _ _ hd.1 c hc
   |(some e,s'),hd,hc=>
    rcases dF.1 hc with hc|hc
    ·exact C' (o:=some e) (λi c' e'=>by cases e';exact hd.2 _ _ rfl) c hc
    ·exact B4 lk hP n _ _ h c hc
end
def M5{m:aA}{q:kh}(hg:Md.bK m)(he:lZ q=true):sf (bI m q).1 (bI m q).2.1 [] []=true:=by
 have kN: ¬lZ q=false:=by rw[he];decide
 have fin:∀(res:List Int),(∀c∈res,y9 c)->res.length<=16->sf 0 res [] []=true:=λres h1 h2=>by
  unfold sf;simp only[dI,ir,decide_eq_true_eq,cO];exact⟨⟨⟨⟨λc hc=>h1 c hc,λa ha=>(by cases ha)⟩,λa ha=>(by cases ha)⟩,by omega⟩,by omega⟩
 have hl:q.op=1/\q.aB.length<=8\/q.op=2/\q.cy.length<=8\/q.op≠1/\q.op≠2:=by
  unfold lZ at he;by_cases h1:q.op=1
  ·left;rw[ai h1] at he;simp at he;exact⟨h1,by omega⟩
  ·by_cases h2:q.op=2
   ·right;left;rw[ag h1,ai h2] at he;simp at he;exact⟨h2,by omega⟩
   ·exact .inr (.inr ⟨h1,h2⟩)
 unfold bI;rw[ag kN];rcases hl with⟨h1,h2⟩|⟨h1,h2⟩|⟨h1,h2⟩
 ·rw[ai h1];refine fin _ (B4 (P:=λ_=>True) _ (λs x _=>⟨trivial,Vh s x⟩) _ _ _ trivial) ?_;have:=yh aA.make BJ q.aB.length m q.aB;dsimp only;omega
 ·rw[ag (by omega),ai h1];refine fin _ (B4 (P:=Md.bK) _ (λs x h=>⟨(Md.pC.rA (qK s) h).2.2,Zi h x⟩) _ _ _ hg) ?_;have:=yh aA.rA BH q.cy.length m q.cy;dsimp only;omega
 ·rw[ag h1,ag h2];exact fin [] (λc hc=>by cases hc) (by simp)
end Go.Up
namespace Go.Up
open Go.Sep Go.Den Go.RowKit Go.Prog Go.Md Go.cF
def Yo(l:List UInt8):Mk l<bG:=by
 unfold Mk;split
 ·decide
 ·have h1:=rX (l.take 16);have h2:(l.take 16).length<=16:=by rw[aD];omega
  have h3:256^(l.take 16).length<=256^16:=gS (by decide) h2;have h4:(256:Nat)^16=bG:=rfl;omega
def wT(x:RS):AQ x<bG:=by
 unfold AQ;split
 ·decide
 ·exact Yo _
def tE(n:Nat)(x:RS):vS (lF n x):=by
 unfold lF vS;split
 ·omega
 ·unfold nE;simp only[IntKind.wrap,IntKind.bits,IntKind.signed];simp;split<;>omega
def AS:vS 0:=by unfold vS;omega
def abu(x:RS):xR (Hz x):=by
 unfold Hz;split
 ·exact⟨by decide,by decide,by decide,by decide,by decide,AS,AS,AS,AS⟩
 ·exact⟨wT _,wT _,wT _,wT _,wT _,tE _ _,tE _ _,tE _ _,tE _ _⟩
def abt(x:RS):Ab (Hy x):=by
 unfold Hy;split
 ·exact⟨by decide,by decide,by decide,by decide,by decide,AS,AS,AS,AS,AS,AS⟩
 ·exact⟨wT _,wT _,wT _,wT _,wT _,tE _ _,tE _ _,tE _ _,tE _ _,tE _ _,tE _ _⟩
def OS{α:Type}{nx:RS->RS}{nv:RS->α}{P:α->Prop}(h:∀x,P (nv x)):∀(n:Nat)(x:RS),∀y∈(many nx nv n x).1,P y
 |0,x,y,hy=>by cases hy
 |n+1,x,y,hy=>by
  rw[rQ] at hy;split at hy
  ·cases hy
  ·rcases kf.1 hy with e|e
   ·rw[e];exact h x
   ·exact OS h n _ y e
def F'(l:List UInt8):(∀a∈(iZ l).1.aB,xR a)/\(∀t∈(iZ l).1.cy,Ab t)/\(iZ l).1.aB.length<=255/\(iZ l).1.cy.length<=255:=by
 have hb:=U7 (gh 1 (l,false));have h1:=xr (nx:=Hx) (nv:=Hz) (lF 1 (gh 1 (l,false))).toNat (gh 1 (gh 1 (l,false)));have h2:=xr (nx:=Hw) (nv:=Hy) (lF 1 (gh 1 (l,false))).toNat (gh 1 (gh 1 (l,false)));unfold iZ;dsimp only;split
 ·exact⟨OS abu _ _,λt h=>(by cases h),by dsimp only;omega,aE _⟩
 split
 ·exact⟨λt h=>(by cases h),OS abt _ _,aE _,by dsimp only;omega⟩
 split
 ·exact⟨λt h=>(by cases h),λt h=>(by cases h),aE _,aE _⟩
 split
 ·exact⟨λt h=>(by cases h),λt h=>(by cases h),aE _,aE _⟩
 ·exact⟨λt h=>(by cases h),λt h=>(by cases h),aE _,aE _⟩
def qp{l:List UInt8}(h:sh l=true):k9 (iZ l).1=true:=by
 unfold sh at h;exact(dI _ _▸h).2
def Sd{e:Int}(h:0<=e/\e<=255):sf e [] [] []=true:=by
 unfold sf;simp[h]
def X1{e e':Int}{res ac':List Int}{al al':List bJ}{tl tl':List cM}(h:sf e res al tl=true)(h':sf e' ac' al' tl'=true)(heq:td e res al tl=td e' ac' al' tl'):e=e':=by
 unfold td at heq;rw[ai h,ai h'] at heq;have:=congrArg (λl=>lF 1 (l,false)) heq;unfold F9 at this;rwa[rd1 (B8 h).2.2.2.1,rd1 (B8 h').2.2.2.1] at this
def abk{e e':Int}{res:List Int}(h:sf e res [] []=true)(h':0<=e'/\e'<=255)(hn:e≠e'):td e res [] []≠td e' [] [] []:=λhh=>hn (X1 h (Sd h') hh)
end Go.Up
namespace Go.Prog
open Go.Den
def dW(a:OA)(K:VK):WK:=br (a.isNone) (K (.p none)) (nn a λb=>lP (b.add 1) λc=>qc c (xP λd=>K (.p d)))
def qz.j1(K:VK)(a:Addr)(c:Bool):WK:=br c (lL (a.add 1) λg d h=>lL (a.add 2) λi e j=>lL (a.add 3) λk f l=>K (.b (decide ((max2 (max2 (d:Int) (e:Int)) (f:Int))<=16)))) (K (.b false))
def qz(P:LV)(K:VK):WK:=mk P λC=>lL (ad C 1) λQ D R=>(lp [.p (some (ad C 0)),.b false,.l Q D R,.i (D:Int),.i 0] λE S=>∀c h j k v m d w,E [.p (some c),.b h,.l j k v,.i m,.i d] w->(br (decide (d<m)) (iV j k d 1 λT=>lI T λF=>br (decide (F<0)) (K (.b false)) (br (decide (F>255)) (K (.b false)) ((ct E S [.p (some c),.b h,.l j k v,.i m,.i (aa.wrap (d+1))] [.p (some c),.b h,.l j k v,.i m,.i d] w)))) (lL (c.add 2) λV G W=>(lp [.p (some c),.b h,.l V G W,.i (G:Int),.i 0] λH X=>∀e n o q x r f y,H [.p (some e),.b n,.l o q x,.i r,.i f] y->(br (decide (f<r)) (iV o q f 14 λY=>aJ Y 14 λZ=>mk dV λI=>bA 14 (ad I 0) Z (aJ (ad I 0) 14 λDx=>jB Dx (xB λb3=>br (!b3) (K (.b false)) ((ct H X [.p (some e),.b n,.l o q x,.i r,.i (aa.wrap (f+1))] [.p (some e),.b n,.l o q x,.i r,.i f] y))))) (lL (e.add 3) λxi J yU=>(lp [.p (some e),.b n,.l xi J yU,.i (J:Int),.i 0] λM Ht=>∀a z s t A u g B,M [.p (some a),.b z,.l s t A,.i u,.i g] B->(br (decide (g<u)) (iV s t g 16 λa6=>aJ a6 16 λBw=>mk iA λO=>bA 16 (ad O 0) Bw (aJ (ad O 0) 16 λIh=>gv Ih (xB λb5=>br (!b5) (K (.b false)) ((ct M Ht [.p (some a),.b z,.l s t A,.i u,.i (aa.wrap (g+1))] [.p (some a),.b z,.l s t A,.i u,.i g] B))))) (lI a λn8=>br (decide (n8>=0)) (lI a λn9=>qz.j1 K a (decide (n9<=255))) (qz.j1 K a false))) B))) y))) w)
def kW.j1(K:VK)(b:Nat):WK:=cu True (mk [.l none 0 0] λh=>tick (lI (ad b 0) λr=>bq (some (ad h 0)) 1 r (x0 (tick (lL (ad b 1) λt n u=>bq (some (ad h 0)) 1 (n:Int) (x0 (kp (ad b 1) [.l t n u] (lL (ad b 1) λv o w=>(lp [.p (some (ad b 0)),.s .empty,.p (some (ad h 0)),.l v o w,.i (o:Int),.i 0] λq x=>∀c j a e f k g d m,q [.p (some c),.s j,.p (some a),.l e f k,.i g,.i d] m->(br (decide (d<g)) (iV e f d 1 λy=>lI y λz=>bq (some a) 1 z (x0 ((ct q x [.p (some c),.s j,.p (some a),.l e f k,.i g,.i (aa.wrap (d+1))] [.p (some c),.s j,.p (some a),.l e f k,.i g,.i d] m)))) (lL (c.add 2) λA B C=>lD (some a) A B C (x0 (lL (c.add 3) λD E F=>kU (some a) D E F (x0 (dK (some a) (xS λG=>K (.s G)))))))) m)))))))))
def kW(b:LV)(K:VK):WK:=mk b λa=>aJ (ad a 0) 4 λc=>qz c (xB λd=>br (!d) (cu (1=1/\True) (cu (4=4) (kj (ad a 0) [.i 3,.l none 0 0,.l none 0 0,.l none 0 0] (kW.j1 K a)))) (kW.j1 K a))
def kn(a:OA)(b:BA)(K:VK):WK:=br (a.isNone) (cu (1=1/\True) (kW [.i 2,.l none 0 0,.l none 0 0,.l none 0 0] (xS λe=>K (.s e)))) (br (decide ((b.size:Int)>16384)) (cu (1=1/\True) (kW [.i 3,.l none 0 0,.l none 0 0,.l none 0 0] (xS λf=>K (.s f)))) (kF b (x2 λg h=>(xA 13 λj=>(xI .i64 λc=>mk mO λd=>bA 13 (ad d 0) j (br (c !=0) (cu (1=1/\True) (kW [.i c,.l none 0 0,.l none 0 0,.l none 0 0] (xS λk=>K (.s k)))) (tick (nn a λm=>lP (m.add 1) λn=>aJ (ad d 0) 13 λo=>m8 n o (xA 4 λp=>kW p (xS λq=>K (.s q))))))) h) g)))
def qD.j1(K:VK)(a b:OA)(c:Bool):WK:=br c (K (.tuple ⟨[.p none,.i 1]⟩)) (cu (1=1/\(1=1/\True)) (mk [.p a,.p b] λd=>K (.tuple ⟨[.p (some (ad d 0)),.i 0]⟩)))
def qD(b:Int)(K:VK):WK:=tS b (xP λa=>m9 a (x2 λd e=>(xP λc=>(xI .i64 λf=>br (f !=0) (qD.j1 K a c true) (fO a (xI .i64 λg=>qD.j1 K a c (g !=b)))) e) d))
def dw(r:LV)(K:VK):WK:=mk r λt=>(lp [.p (some (ad t 0)),.s .empty,.s .empty,.i 0] λn u=>∀j k e f l,n [.p (some j),.s k,.s e,.i f] l->(br (decide (f<16)) ((lp [.p (some j),.s k,.s e,.i f,.i 0,.i 7] λo v=>∀a g b c h d m,o [.p (some a),.s g,.s b,.i c,.i h,.i d] m->(br (decide (d>=0)) (aJ a 2 λw=>gr w (aa.wrap ((aa.wrap (8* c))+d)) (xI .i64 λx=>(ct o v [.p (some a),.s g,.s b,.i c,.i (aa.wrap ((aa.wrap (2* h))+x)),.i (aa.wrap (d-1))] [.p (some a),.s g,.s b,.i c,.i h,.i d] m))) (cu (1=1/\True) (mk [.int .u8 (IntKind.u8.wrap h)] λy=>WB (ah y) 1 λq=>cu (((b.size+q.size:Nat):Int)<=9223372036854775807) ((ct n u [.p (some a),.s g,.s (b++q),.i (aa.wrap (c+1))] [.p (some j),.s k,.s e,.i f] l))))) m)) (K (.s e))) l)
def lM(t:LV)(K:VK):WK:=mk t λa=>tick (aJ (ad a 0) 2 λu=>aJ (ad a 2) 2 λp=>aJ (ad a 4) 2 λm=>aJ (ad a 6) 2 λj=>aJ (ad a 8) 2 λg=>dw u (xS λb=>kp (ad a 8) g (kp (ad a 6) j (kp (ad a 4) m (kp (ad a 2) p (dw p (xS λc=>kp (ad a 8) g (kp (ad a 6) j (kp (ad a 4) m (cu (((b.size+c.size:Nat):Int)<=9223372036854775807) (dw m (xS λd=>kp (ad a 8) g (kp (ad a 6) j (cu ((((b++c).size+d.size:Nat):Int)<=9223372036854775807) (dw j (xS λe=>kp (ad a 8) g (cu (((((b++c)++d).size+e.size:Nat):Int)<=9223372036854775807) (dw g (xS λf=>cu ((((((b++c)++d)++e).size+f.size:Nat):Int)<=9223372036854775807) (tick (lI (ad a 10) λv=>lI (ad a 11) λq=>lI (ad a 12) λn=>lI (ad a 13) λk=>bN 4 v (xS λh=>kp (ad a 13) [.i k] (kp (ad a 12) [.i n] (kp (ad a 11) [.i q] (cu (((((((b++c)++d)++e)++f).size+h.size:Nat):Int)<=9223372036854775807) (bN 2 q (xS λl=>kp (ad a 13) [.i k] (kp (ad a 12) [.i n] (cu ((((((((b++c)++d)++e)++f)++h).size+l.size:Nat):Int)<=9223372036854775807) (bN 2 n (xS λo=>kp (ad a 13) [.i k] (cu (((((((((b++c)++d)++e)++f)++h)++l).size+o.size:Nat):Int)<=9223372036854775807) (bN 8 k (xS λr=>cu ((((((((((b++c)++d)++e)++f)++h)++l)++o).size+r.size:Nat):Int)<=9223372036854775807) (K (.s ((((((((b++c)++d)++e)++f)++h)++l)++o)++r)))))))))))))))))))))))))))))))))))))
def lJ(w:LV)(K:VK):WK:=mk w λa=>tick (aJ (ad a 0) 2 λx=>aJ (ad a 2) 2 λr=>aJ (ad a 4) 2 λo=>aJ (ad a 6) 2 λl=>aJ (ad a 8) 2 λj=>dw x (xS λb=>kp (ad a 8) j (kp (ad a 6) l (kp (ad a 4) o (kp (ad a 2) r (dw r (xS λc=>kp (ad a 8) j (kp (ad a 6) l (kp (ad a 4) o (cu (((b.size+c.size:Nat):Int)<=9223372036854775807) (dw o (xS λd=>kp (ad a 8) j (kp (ad a 6) l (cu ((((b++c).size+d.size:Nat):Int)<=9223372036854775807) (dw l (xS λe=>kp (ad a 8) j (cu (((((b++c)++d).size+e.size:Nat):Int)<=9223372036854775807) (dw j (xS λf=>cu ((((((b++c)++d)++e).size+f.size:Nat):Int)<=9223372036854775807) (tick (lI (ad a 10) λy=>lI (ad a 11) λt=>lI (ad a 12) λp=>lI (ad a 13) λm=>bN 4 y (xS λg=>kp (ad a 13) [.i m] (kp (ad a 12) [.i p] (kp (ad a 11) [.i t] (cu (((((((b++c)++d)++e)++f).size+g.size:Nat):Int)<=9223372036854775807) (bN 4 t (xS λh=>kp (ad a 13) [.i m] (kp (ad a 12) [.i p] (cu ((((((((b++c)++d)++e)++f)++g).size+h.size:Nat):Int)<=9223372036854775807) (bN 2 p (xS λk=>kp (ad a 13) [.i m] (cu (((((((((b++c)++d)++e)++f)++g)++h).size+k.size:Nat):Int)<=9223372036854775807) (bN 2 m (xS λn=>cu ((((((((((b++c)++d)++e)++f)++g)++h)++k).size+n.size:Nat):Int)<=9223372036854775807) (tick (lI (ad a 14) λz=>lI (ad a 15) λu=>bN 8 z (xS λq=>kp (ad a 15) [.i u] (cu (((((((((((b++c)++d)++e)++f)++g)++h)++k)++n).size+q.size:Nat):Int)<=9223372036854775807) (bN 8 u (xS λv=>cu ((((((((((((b++c)++d)++e)++f)++g)++h)++k)++n)++q).size+v.size:Nat):Int)<=9223372036854775807) (K (.s ((((((((((b++c)++d)++e)++f)++g)++h)++k)++n)++q)++v)))))))))))))))))))))))))))))))))))))))))))
def cD.j1(K:VK)(H:OA)(y I:Nat)(J:OA)(z M:Nat)(O:OA)(A P:Nat)(Q:Bool):WK:=br Q (K (.b false)) ((lp [.b false,.l H y I,.i (y:Int),.i 0] λB R=>∀e f g r h a s,B [.b e,.l f g r,.i h,.i a] s->(br (decide (a<h)) (iV f g a 1 λS=>lI S λC=>br (decide (C<0)) (K (.b false)) (br (decide (C>255)) (K (.b false)) ((ct B R [.b e,.l f g r,.i h,.i (aa.wrap (a+1))] [.b e,.l f g r,.i h,.i a] s)))) ((lp [.b e,.l J z M,.i (z:Int),.i 0] λD T=>∀j k m t n c u,D [.b j,.l k m t,.i n,.i c] u->(br (decide (c<n)) (iV k m c 14 λV=>aJ V 14 λW=>mk dV λE=>bA 14 (ad E 0) W (aJ (ad E 0) 14 λX=>dg X (xB λY=>br (!Y) (K (.b false)) ((ct D T [.b j,.l k m t,.i n,.i (aa.wrap (c+1))] [.b j,.l k m t,.i n,.i c] u))))) ((lp [.b j,.l O A P,.i (A:Int),.i 0] λF Z=>∀v o p w q d x,F [.b v,.l o p w,.i q,.i d] x->(br (decide (d<q)) (iV o p d 16 λa3=>aJ a3 16 λDx=>mk iA λG=>bA 16 (ad G 0) Dx (aJ (ad G 0) 16 λBw=>bY Bw (xB λb6=>br (!b6) (K (.b false)) ((ct F Z [.b v,.l o p w,.i q,.i (aa.wrap (d+1))] [.b v,.l o p w,.i q,.i d] x))))) (K (.b true))) x))) u))) s))
def cD.j3(K:VK)(c:OA)(d e:Nat)(f:OA)(a g:Nat)(h:OA)(b i:Nat)(j:Bool):WK:=br j (cD.j1 K c d e f a g h b i true) (br (decide ((a:Int)>16)) (cD.j1 K c d e f a g h b i true) (cD.j1 K c d e f a g h b i (decide ((b:Int)>16))))
def cD.j2(K:VK)(b:OA)(a c:Nat)(d:OA)(e f:Nat)(g:OA)(h i:Nat)(j:Bool):WK:=br j (cD.j3 K b a c d e f g h i true) (cD.j3 K b a c d e f g h i (decide ((a:Int)>16)))
def cD(a:Int)(b:OA)(c d:Nat)(e:OA)(f g:Nat)(h:OA)(i j:Nat)(K:VK):WK:=br (decide (a<0)) (cD.j2 K b c d e f g h i j true) (cD.j2 K b c d e f g h i j (decide (a>255)))
def ik(E:Int)(F:OA)(g G:Nat)(H:OA)(h I:Nat)(J:OA)(j M:Nat)(K:VK):WK:=cD E F g G H h I J j M (xB λb1=>br (!b1) (K (.s ⟨#[3,0,0,0]⟩)) (bN 1 E (xS λO=>bN 1 (g:Int) (xS λP=>cu (((O.size+P.size:Nat):Int)<=9223372036854775807) ((lp [.s .empty,.s (O++P),.l F g G,.i (g:Int),.i 0] λQ lj=>∀k a m n x o c y,Q [.s k,.s a,.l m n x,.i o,.i c] y->(br (decide (c<o)) (iV m n c 1 λa1=>lI a1 λn4=>bN 1 n4 (xS λR=>cu (((a.size+R.size:Nat):Int)<=9223372036854775807) ((ct Q lj [.s k,.s (a++R),.l m n x,.i o,.i (aa.wrap (c+1))] [.s k,.s a,.l m n x,.i o,.i c] y)))) (bN 1 (h:Int) (xS λS=>cu (((a.size+S.size:Nat):Int)<=9223372036854775807) ((lp [.s k,.s (a++S),.l H h I,.i (h:Int),.i 0] λT TF=>∀p b q r z t d A,T [.s p,.s b,.l q r z,.i t,.i d] A->(br (decide (d<t)) (iV q r d 14 λa2=>aJ a2 14 λCR=>mk dV λV=>bA 14 (ad V 0) CR (aJ (ad V 0) 14 λzU=>lM zU (xS λW=>cu (((b.size+W.size:Nat):Int)<=9223372036854775807) ((ct T TF [.s p,.s (b++W),.l q r z,.i t,.i (aa.wrap (d+1))] [.s p,.s b,.l q r z,.i t,.i d] A))))) (bN 1 (j:Int) (xS λX=>cu (((b.size+X.size:Nat):Int)<=9223372036854775807) ((lp [.s p,.s (b++X),.l J j M,.i (j:Int),.i 0] λY Ht=>∀B e u v C w f D,Y [.s B,.s e,.l u v C,.i w,.i f] D->(br (decide (f<w)) (iV u v f 16 λa3=>aJ a3 16 λDx=>mk iA λZ=>bA 16 (ad Z 0) Dx (aJ (ad Z 0) 16 λBw=>lJ Bw (xS λs13=>cu (((e.size+s13.size:Nat):Int)<=9223372036854775807) ((ct Y Ht [.s B,.s (e++s13),.l u v C,.i w,.i (aa.wrap (f+1))] [.s B,.s e,.l u v C,.i w,.i f] D))))) (K (.s e))) D))))) A))))) y))))))
def jb(a:Int)(K:VK):WK:=ik a none 0 0 none 0 0 none 0 0 (xS λb=>K (.s b))
def oF(a:Bool)(K:VK):WK:=br a (K (.s ⟨#[1]⟩)) (K (.s ⟨#[0]⟩))
def lG(CR:LV)(K:VK):WK:=mk CR λd=>lI (ad d 0) λn1=>bN 1 n1 (xS λc=>lI (ad d 0) λv=>br (v==1) (lL (ad d 1) λuK s8 uU=>bN 1 (s8:Int) (xS λW=>cu (((c.size+W.size:Nat):Int)<=9223372036854775807) (lL (ad d 1) λjT X ku=>(lp [.s .empty,.s (c++W),.l jT X ku,.i (X:Int),.i 0] λY lj=>∀H k w x I y m J,Y [.s H,.s k,.l w x I,.i y,.i m] J->(br (decide (m<y)) (iV w x m 14 λa1=>aJ a1 14 λzU=>mk dV λZ=>bA 14 (ad Z 0) zU (aJ (ad Z 0) 14 λDx=>lM Dx (xS λs5=>cu (((k.size+s5.size:Nat):Int)<=9223372036854775807) ((ct Y lj [.s H,.s (k++s5),.l w x I,.i y,.i (aa.wrap (m+1))] [.s H,.s k,.l w x I,.i y,.i m] J))))) (K (.s k))) J)))) (br (v==2) (lL (ad d 2) λtD sK tC=>bN 1 (sK:Int) (xS λs6=>cu (((c.size+s6.size:Nat):Int)<=9223372036854775807) (lL (ad d 2) λxi wS yU=>(lp [.s .empty,.s (c++s6),.l xi wS yU,.i (wS:Int),.i 0] λI2 TF=>∀M n z A O B o P,I2 [.s M,.s n,.l z A O,.i B,.i o] P->(br (decide (o<B)) (iV z A o 16 λa2=>aJ a2 16 λBw=>mk iA λr3=>bA 16 (ad r3 0) Bw (aJ (ad r3 0) 16 λIh=>lJ Ih (xS λs9=>cu (((n.size+s9.size:Nat):Int)<=9223372036854775807) ((ct I2 TF [.s M,.s (n++s9),.l z A O,.i B,.i (aa.wrap (o+1))] [.s M,.s n,.l z A O,.i B,.i o] P))))) (K (.s n))) P)))) (br (v==3) (lI (ad d 3) λn7=>bN 8 n7 (xS λs10=>cu (((c.size+s10.size:Nat):Int)<=9223372036854775807) (K (.s (c++s10))))) (br (v==6) (aJ (ad d 5) 8 λPu=>mk Fp λa=>bA 8 (ad a 0) Pu (tick (aJ (ad a 0) 2 λRt=>lI (ad a 2) λn8=>lI (ad a 3) λQ=>lT (ad a 4) λC=>lT (ad a 5) λp=>lT (ad a 6) λh=>lI (ad a 7) λf=>dw Rt (xS λe=>kp (ad a 7) [.i f] (kp (ad a 6) [.b h] (kp (ad a 5) [.b p] (kp (ad a 4) [.b C] (kp (ad a 3) [.i Q] (kp (ad a 2) [.i n8] (cu (((c.size+e.size:Nat):Int)<=9223372036854775807) (bN 8 n8 (xS λg=>kp (ad a 7) [.i f] (kp (ad a 6) [.b h] (kp (ad a 5) [.b p] (kp (ad a 4) [.b C] (kp (ad a 3) [.i Q] (cu ((((c++e).size+g.size:Nat):Int)<=9223372036854775807) (bN 8 Q (xS λj=>kp (ad a 7) [.i f] (kp (ad a 6) [.b h] (kp (ad a 5) [.b p] (kp (ad a 4) [.b C] (cu (((((c++e)++g).size+j.size:Nat):Int)<=9223372036854775807) (oF C (xS λq=>kp (ad a 7) [.i f] (kp (ad a 6) [.b h] (kp (ad a 5) [.b p] (cu ((((((c++e)++g)++j).size+q.size:Nat):Int)<=9223372036854775807) (oF p (xS λD=>kp (ad a 7) [.i f] (kp (ad a 6) [.b h] (cu (((((((c++e)++g)++j)++q).size+D.size:Nat):Int)<=9223372036854775807) (oF h (xS λR=>kp (ad a 7) [.i f] (cu ((((((((c++e)++g)++j)++q)++D).size+R.size:Nat):Int)<=9223372036854775807) (bN 1 f (xS λs17=>cu (((((((((c++e)++g)++j)++q)++D)++R).size+s17.size:Nat):Int)<=9223372036854775807) (K (.s (((((((c++e)++g)++j)++q)++D)++R)++s17)))))))))))))))))))))))))))))))))))))))) (lL (ad d 4) λIH EV Ld=>bN 1 (EV:Int) (xS λs18=>cu (((c.size+s18.size:Nat):Int)<=9223372036854775807) (lL (ad d 4) λHv FW Hu=>(lp [.s .empty,.s (c++s18),.l Hv FW Hu,.i (FW:Int),.i 0] λI3 Ht=>∀S r E F T G t V,I3 [.s S,.s r,.l E F T,.i G,.i t] V->(br (decide (t<G)) (iV E F t 2 λa3=>aJ a3 2 λPt=>mk [.u 0,.u 0] λr5=>bA 2 (ad r5 0) Pt (aJ (ad r5 0) 2 λcs9=>dw cs9 (xS λs21=>cu (((r.size+s21.size:Nat):Int)<=9223372036854775807) ((ct I3 Ht [.s S,.s (r++s21),.l E F T,.i G,.i (aa.wrap (t+1))] [.s S,.s r,.l E F T,.i G,.i t] V))))) (K (.s r))) V))))))))
def dN.j1(K:VK)(a:OA)(c:Bool):WK:=br c (cu (1=1/\(1=1/\True)) (lG [.i 3,.l none 0 0,.l none 0 0,.i 5,.l none 0 0,.u 0,.u 0,.i 0,.i 0,.b false,.b false,.b false,.i 0] (xS λd=>kn a d (xS λe=>br (pG e (⟨#[0,0,0,0]⟩:BA)) (dW a (xP λf=>iS f (xI .i64 λg=>K (.b (g==5))))) (K (.b false)))))) (K (.b false))
def dN(K:VK):WK:=qD 600 (x2 λb c=>(xP λa=>(xI .i64 λd=>br (d==0) (kn a (⟨#[]⟩:BA) (xS λe=>jb 4 (xS λf=>dN.j1 K a (pG e f)))) (dN.j1 K a false)) c) b)
def gn(o:OA)(g p:Nat)(K:VK):WK:=(lp [.b false,.i 0,.l o g p,.i (g:Int),.i 0] λm q=>∀h c d e j f a k,m [.b h,.i c,.l d e j,.i f,.i a] k->(br (decide (a<f)) (iV d e a 6 λr=>aJ r 6 λs=>mk wP λn=>bA 6 (ad n 0) s (lS (ad n 1) λt=>(ct m q [.b h,.i (aa.wrap (c+(t.size:Int))),.l d e j,.i f,.i (aa.wrap (a+1))] [.b h,.i c,.l d e j,.i f,.i a] k))) (br (decide ((g:Int)>60)) (K (.b true)) (K (.b (decide (c>16384)))))) k)
def fE(K:VK):WK:=qD 600 (x2 λb c=>(xP λd=>(xI .i64 λf=>cu True (mk acN λa=>cu (1=1/\(1=1/\(1=1/\True))) (mk [.p d,.p (some (ad a 0)),.p (some (ad a 0))] λe=>K (.p (some (ad e 0)))))) c) b)
def dT(c d:OA)(K:VK):WK:=nn c λe=>lP e λf=>dW f (xP λa=>fk a (xL λg h i=>fZ a (xL λj k l=>iS a (xI .i64 λm=>ie a (xI .i64 λn=>kS d g h i j k l m n (xB λo=>K (.b o)))))))
def fQ(a:OA)(K:VK):WK:=br (!(a.isNone)) (nn a λc=>lP (c.add 1) λd=>qA d (xB λe=>K (.b e))) (K (.b false))
def mU(a:OA)(K:VK):WK:=br (a.isNone) (K (.i 2)) (nn a λb=>lP (b.add 1) λc=>iK c (xI .i64 λd=>K (.i d)))
def iQ(a:OA)(c d e:Int)(K:VK):WK:=br (a.isNone) (K (.i 2)) (nn a λf=>lP f λg=>nh g c d e (x0 (nn a λh=>lP h λj=>m9 j (x2 λk l=>(xP λm=>(xI .i64 λb=>br (b==0) (nn a λn=>st (n.add 1) (.p m) (K (.i b))) (K (.i b))) l) k))))
def nL(a:OA)(b:Int)(K:VK):WK:=br (!(a.isNone)) (nn a λc=>lP c λd=>oL d b (x0 (K (.tuple ⟨[]⟩)))) (K (.tuple ⟨[]⟩))
def nZ(a:OA)(h:LV)(K:VK):WK:=mk h λb=>aJ (ad b 0) 13 λi=>jA i (xB λj=>br j (aJ (ad b 0) 13 λk=>gY k (xB λm=>br (!m) (ik 1 none 0 0 none 0 0 none 0 0 (xS λn=>K (.tuple ⟨[.s n,.p a]⟩))) (aJ (ad b 0) 13 λo=>jv a o (x3 λq r t=>(xL λu v w=>(xI .i64 λx=>(xP λy=>ik x u v w none 0 0 none 0 0 (xS λz=>K (.tuple ⟨[.s z,.p y]⟩))) t) r) q)))) (tick (nn a λc=>lL (c.add 1) λd e f=>aJ (ad b 0) 13 λg=>il a (xL λA B C=>kp (ad b 0) g (kp (c.add 1) [.l d e f] (oa A B C d e f g (x3 λD E F=>(xL λG H I=>(xL λJ M O=>(xI .i64 λP=>ik P none 0 0 G H I J M O (xS λQ=>K (.tuple ⟨[.s Q,.p a]⟩))) F) E) D)))))))
def pA(c:OA)(d:BA)(K:VK):WK:=kF d (x2 λe f=>(xA 13 λg=>(xI .i64 λh=>mk mO λa=>bA 13 (ad a 0) g (br (h !=0) (jb 4 (xS λi=>K (.tuple ⟨[.s i,.p c,.b false]⟩))) (aJ (ad a 0) 13 λj=>nZ c j (x2 λk l=>(xS λm=>(xP λn=>aJ (ad a 0) 13 λo=>jA o (xB λq=>K (.tuple ⟨[.s m,.p n,.b q]⟩))) l) k)))) f) e)
def aG.j2(K:VK)(a:OA)(c:Bool):WK:=nn a λd=>lP d λe=>fQ e (xB λf=>K (.b (f==c)))
def aG.j1(K:VK)(a c:OA)(b:Bool):WK:=nn a λd=>st (d.add 1) (.p c) (br (!b) (nn a λe=>st (e.add 2) (.p c) (aG.j2 K a b)) (aG.j2 K a b))
def aG.j4(K:VK)(a c:OA)(d e:BA)(f g:Bool):WK:=br g (nn a λh=>st (h.add 2) (.p c) (nn a λi=>lP i λj=>fQ j (xB λk=>K (.b k)))) (br (!(pG d e)) (K (.b false)) (aG.j1 K a c f))
def aG.j3(K:VK)(a:BA)(g:Bool)(c d:OA)(e:BA)(f h:Bool):WK:=br h (jb 9 (xS λi=>K (.b (pG a i)))) (br g (jb 8 (xS λj=>aG.j4 K c d a e f (pG a j))) (aG.j4 K c d a e f false))
def aG.j6(K:VK)(a:Int)(c:OA)(d:Bool):WK:=br d (K (.b true)) (br (a==8) (nn c λe=>lP e λf=>fQ f (xB λg=>K (.b g))) (K (.b false)))
def aG.j5(K:VK)(d:Bool)(a:Int)(c:OA)(e:Bool):WK:=br e (K (.b true)) (br (!d) (br (a==0) (nn c λf=>lP f λg=>fQ g (xB λh=>aG.j6 K a c (!h))) (aG.j6 K a c false)) (K (.b false)))
def aG.j7(K:VK)(a:OA):WK:=nn a λc=>lP (c.add 1) λd=>nn a λe=>st (e.add 2) (.p d) (K (.b true))
def aG(a:OA)(l:LV)(K:VK):WK:=mk l λc=>lI (ad c 0) λd=>br (d==0) (tick (nn a λm=>lP (m.add 1) λn=>lS (ad c 1) λo=>pA n o (x3 λq r s=>(xS λi=>(xP λj=>(xB λe=>nn a λt=>lP t λu=>fQ u (xB λf=>tick (nn a λv=>lP v λw=>lS (ad c 1) λx=>kn w x (xS λk=>br e (aG.j3 K k e a j i f f) (aG.j3 K k e a j i f false))))) s) r) q))) (br (d==1) (nn a λy=>lP y λz=>fQ z (xB λg=>nn a λA=>lP A λB=>mU B (xI .i64 λh=>br g (aG.j5 K g h a (h==9)) (aG.j5 K g h a false)))) (br (d==2) (tick (nn a λC=>lP C λD=>lU (ad c 2) λE=>lI (ad c 3) λF=>lI (ad c 4) λG=>iQ D E F G (xI .i64 λH=>br (H !=0) (K (.b false)) (nn a λI=>lP (I.add 2) λJ=>dT a J (xB λM=>br M (nn a λO=>lP (O.add 2) λP=>nn a λQ=>st (Q.add 1) (.p P) (aG.j7 K a)) (aG.j7 K a)))))) (br (d==3) (tick (nn a λR=>lP R λS=>lI (ad c 5) λT=>nL S T (x0 (K (.b true))))) (K (.b true)))))
def jK(a:OA)(K:VK):WK:=br (a.isNone) (K (.i 0)) (nn a λb=>lP (b.add 1) λc=>ru c (xI .i64 λd=>K (.i d)))
def iM(a:OA)(K:VK):WK:=br (a.isNone) (K (.p none)) (nn a λb=>lP b λc=>K (.p c))
end Go.Prog
namespace Go.Up
open Go.Sep Go.Den Go.RowKit Go.Prog Go.Md Go.cF
def okR(r:Int):Bool:=decide (0<=r/\r<=255)
def LW(e:Int)(res:List Int)(al:List bJ)(tl:List cM):sf e res al tl=(res.all okR&&(al.all (λa=>decide (nq a))&&(tl.all (λt=>decide (kL t))&&(decide (0<=e/\e<=255)&&decide (res.length<=16/\al.length<=16/\tl.length<=16))))):=by
 unfold sf okR;simp only[Bool.and_assoc]
instance{e:Int}{rb ab tb:OA}{rn rc an ac tn tc:Nat}:Wr (sg e rb rn rc ab an ac tb tn tc) 0 [.i 3,.l none 0 0,.l none 0 0,.l none 0 0] (sg 3 none 0 0 none 0 0 none 0 0):=⟨rfl,aH _,F8⟩
section
variable {W:World} {L R:LH} {K:VK} {X:WK} {e:Int} {res:List Int} {al:List bJ} {tl:List cM} {rb ab tb:OA} {rc ac tc:Nat}
def JW{l:List Int}{s:OA}{i:Nat}{x:Int}{a:Addr}[hh:Has R L](hr:mZ W R I1 1 s l)(hs:s=some a)(hx:l[i]?=some x)(h:T W L (K (.i x))):T W L (ld (a.add (i* 1)) K):=λw hw=>by
 obtain⟨a',ha,hh⟩:=hr w (hh.sub hw) i x hx;rw[hs] at ha;cases ha
 exact Mv (hh 0 _ rfl) (h w hw)
def XD[hh:Has R L](h1:mZ W R I1 1 rb res)(h2:mZ W R aL 14 ab al)(h3:mZ W R aM 16 tb tl)(l1:res.length<1000000)(l2:al.length<1000000)(l3:tl.length<1000000)(h:T W L (K (.b (sf e res al tl)))):
 T W L (qz (sg e rb res.length rc ab al.length ac tb tl.length tc) K):=by
 unfold qz;rw[LW] at h;apply ws;intros;rename_i r1;intro w jO;refine⟨λvv w=>∃i:Nat,i<=res.length/\(res.take i).all okR=true/\vv=[.p (some (ad r1 0)),.b false,.l rb res.length rc,.i (res.length:Int),.i (i:Int)]/\St W w (Sep.pt r1 (sg e rb res.length rc ab al.length ac tb tl.length tc)::L),
  λvs _=>match vs with|[_,_,_,_,.int _ d]=>res.length-d.toNat|_=>0,⟨0,aE _,rfl,rfl,jO⟩,?_⟩
 rintro a1 b1 jT jd ku n1 n2 w2 ⟨i,hi,fG,e1,hO⟩;cases e1
 refine T.at ?_ hO;have e5:=nK i;apply ga<;>intro g1
 ·have bX:i<res.length:=by omega
  have gx:=aj bX;generalize res[i]=x at gx;refine iU h1 ⟨by omega,by omega⟩ rfl λa ha=>?_;rw[ak];refine JW h1 ha gx ?_;refine nQ ?_;have bad: ¬(0<=x/\x<=255)->T W (Sep.pt r1 (sg e rb res.length rc ab al.length ac tb tl.length tc)::L) (K (.b false)):=λhx=>by
   rw[all_false (P:=okR) gx (ar hx),fV] at h;exact T.dp h
  refine ga (λg2=>bad (by omega)) (λg2=>?_);refine ga (λg3=>bad (by omega)) (λg3=>?_);rw[e5];exact λw3 h3=>⟨⟨i+1,bX,by rw[rq gx fG];exact av (by omega),rfl,h3⟩,by show res.length-((i+1:Nat):Int).toNat<res.length-(i:Int).toNat;omega⟩
 have jk:i=res.length:=by omega
 subst jk;rw[aS] at fG;rw[fG,eG] at h;apply ws;intros;intro w jO;refine⟨λvv w=>∃i:Nat,i<=al.length/\(al.take i).all (λa=>decide (nq a))=true/\vv=[.p (some (ad r1 0)),.b false,.l ab al.length ac,.i (al.length:Int),.i (i:Int)]/\St W w (Sep.pt r1 (sg e rb res.length rc ab al.length ac tb tl.length tc)::L),
  λvs _=>match vs with|[_,_,_,_,.int _ d]=>al.length-d.toNat|_=>0,⟨0,aE _,rfl,rfl,jO⟩,?_⟩
 rintro a1 b1 jT jd ku n1 n2 w2 ⟨i,hi,fG,e1,hO⟩;cases e1
 refine T.at ?_ hO;have e5:=nK i;apply ga<;>intro g1
 ·have bX:i<al.length:=by omega
  have gx:=aj bX;generalize al[i]=x at gx;refine iU h2 ⟨by omega,by omega⟩ rfl λa ha=>?_;rw[ak];refine jR h2 ha gx rfl ?_
  repeat' first|apply ws;intros|apply wb|with_reducible refine KS ?_|fail
  rw[e5];by_cases hg:nq x
  ·rw[av hg];apply ws;intros;refine T.drop λw3 h3=>⟨⟨i+1,bX,by rw[rq gx fG];exact av hg,rfl,h3⟩,by show al.length-((i+1:Nat):Int).toNat<al.length-(i:Int).toNat;omega⟩
  ·rw[ar hg];apply ws;intros;rw[all_false (P:=λa=>decide (nq a)) gx (ar hg),fV] at h;exact T.dp h
 have jk:i=al.length:=by omega
 subst jk;rw[aS] at fG;rw[fG,eG] at h;apply ws;intros;intro w jO;refine⟨λvv w=>∃i:Nat,i<=tl.length/\(tl.take i).all (λa=>decide (kL a))=true/\vv=[.p (some (ad r1 0)),.b false,.l tb tl.length tc,.i (tl.length:Int),.i (i:Int)]/\St W w (Sep.pt r1 (sg e rb res.length rc ab al.length ac tb tl.length tc)::L),
  λvs _=>match vs with|[_,_,_,_,.int _ d]=>tl.length-d.toNat|_=>0,⟨0,aE _,rfl,rfl,jO⟩,?_⟩
 rintro a1 b1 jT jd ku n1 n2 w2 ⟨i,hi,fG,e1,hO⟩;cases e1
 refine T.at ?_ hO;have e5:=nK i;apply ga<;>intro g1
 ·have bX:i<tl.length:=by omega
  have gx:=aj bX;generalize tl[i]=x at gx;refine iU h3 ⟨by omega,by omega⟩ rfl λa ha=>?_;rw[ak];refine jR h3 ha gx rfl ?_
  repeat' first|apply ws;intros|apply wb|with_reducible refine JY ?_|fail
  rw[e5];by_cases hg:kL x
  ·rw[av hg];apply ws;intros;refine T.drop λw3 h3=>⟨⟨i+1,bX,by rw[rq gx fG];exact av hg,rfl,h3⟩,by show tl.length-((i+1:Nat):Int).toNat<tl.length-(i:Int).toNat;omega⟩
  ·rw[ar hg];apply ws;intros;rw[all_false (P:=λa=>decide (kL a)) gx (ar hg),fV] at h;exact T.dp h
 have jk:i=tl.length:=by omega
 subst jk;rw[aS] at fG;rw[fG,eG] at h;apply ws;intros;have j1:∀b:Bool,b=decide (0<=e/\e<=255)->T W (Sep.pt r1 (sg e rb res.length rc ab al.length ac tb tl.length tc)::L) (qz.j1 K (ad r1 0) b):=λb hb=>by
  unfold qz.j1;rw[<-hb] at h;cases b with
  |false=>rw[fV] at h;apply ws;intros;exact T.dp h
  |true=>
   rw[eG] at h;apply ws;intros;refine T.fin (T.dp h) ?_
   congr 1
   rw[decide_eq_decide];unfold max2;split<;>split<;>omega
 apply ga<;>intro g2
 ·apply ws;intros;exact j1 _ (by rw[decide_eq_decide];omega)
 ·exact j1 _ (ar (by omega)).symm
def Qa[hh:Has R L]{r1:Nat}(h1:mZ W R I1 1 rb res)(h2:mZ W R aL 14 ab al)(h3:mZ W R aM 16 tb tl)(hf:sf e res al tl=true)(h:T W L (K (.s (bs (F9 e res al tl))))):
 T W (Sep.pt r1 (sg e rb res.length rc ab al.length ac tb tl.length tc)::L) (kW.j1 K r1):=by
 obtain⟨f1,f2,f3,f4,f5,f6,f7⟩:=B8 hf;unfold kW.j1;apply ws;intros;rename_i r2;refine Oj ?_
 repeat' first|apply ws;intros|apply wb|with_reducible refine sB (by simp[aO]) ?_|fail
 intro w jO;refine⟨λvv w=>∃i:Nat,i<=res.length/\vv=[.p (some (ad r1 0)),.s .empty,.p (some (ad r2 0)),.l rb res.length rc,.i (res.length:Int),.i (i:Int)]/\St W w (buf r2 (le .i64 1 e++le .i64 1 (res.length:Int)++(res.take i).flatMap λr=>le .i64 1 r)::Sep.pt r1 (sg e rb res.length rc ab al.length ac tb tl.length tc)::L),
  λvs _=>match vs with|[_,_,_,_,_,.int _ d]=>res.length-d.toNat|_=>0,⟨0,aE _,rfl,by simpa using jO⟩,?_⟩
 rintro a1 s1 a2 qU pn qS n2 n3 w2 ⟨i,hi,e1,hO⟩;cases e1
 refine T.at ?_ hO;have e5:=nK i;have hlen:(le .i64 1 e++le .i64 1 (res.length:Int)++(res.take i).flatMap λr=>le .i64 1 r).length<=18:=by
  rw[aw,aw,eB (e:=1) (λr=>aO _ _ _),aD,aO,aO];omega
 apply ga<;>intro g1
 ·have bX:i<res.length:=by omega
  have gx:=aj bX;generalize res[i]=x at gx;refine iU h1 ⟨by omega,by omega⟩ rfl λa ha=>?_;rw[ak];refine JW h1 ha gx ?_;refine nQ ?_;refine sB (by omega) (BV ?_);rw[e5];refine λw3 h3=>⟨⟨i+1,bX,rfl,?_⟩,by show res.length-((i+1:Nat):Int).toNat<res.length-(i:Int).toNat;omega⟩;rw[bg,gx,gA];simpa [aI] using h3
 have jk:i=res.length:=by omega
 subst jk;rw[aS] at hlen⊢;have k2:(al.flatMap jQ).length=al.length* 96:=eB oT al;apply ws;intros;refine acP (R:=R) h2 f2 (by omega) (by omega) ?_;apply ws;intros;refine acO (R:=R) h3 f3 (by omega) (by rw[aw,aw,k2,aO];omega) ?_
 repeat' first|apply ws;intros|apply wb|with_reducible refine tu ?_|fail
 unfold F9 at h;simp only[aI];exact T.dp h
def Lm[hh:Has R L](h1:mZ W R I1 1 rb res)(h2:mZ W R aL 14 ab al)(h3:mZ W R aM 16 tb tl)(l1:res.length<1000000)(l2:al.length<1000000)(l3:tl.length<1000000)(h:T W L (K (.s (bs (td e res al tl))))):
 T W L (kW (sg e rb res.length rc ab al.length ac tb tl.length tc) K):=by
 unfold kW
 repeat' first|apply ws;intros|apply wb|with_reducible refine XD h1 h2 h3 l1 l2 l3 ?_|fail
 rename_i r1;unfold td at h;cases hf:sf e res al tl with
 |true=>
  rw[ai hf] at h;apply ws;intros;exact Qa h1 h2 h3 hf h
 |false=>
  rw[ag (by rw[hf];decide)] at h;apply ws;intros;exact Qa (R:=L) (rb:=none) (ab:=none) (tb:=none) (res:=[]) (al:=[]) (tl:=[]) mZ.nil mZ.nil mZ.nil (by decide) h
def T7(h:T W L (K (.s (bs (td e [] [] []))))):T W L (kW [.i e,.l none 0 0,.l none 0 0,.l none 0 0] K):=
 Lm (R:=L) (rb:=none) (ab:=none) (tb:=none) (rc:=0) (ac:=0) (tc:=0) (res:=[]) (al:=[]) (tl:=[]) mZ.nil mZ.nil mZ.nil (by decide) (by decide) (by decide) h
end
structure Rm(n g:Nat)(S:VS):Prop where
 calm:Sep.Calm n S.D
 ends:∀j:Nat,j<n->Sep.Ends g (S.D.read (j:Int)).1
 lo:S.J.lo=((2+2* dB n:Nat):Int)
 hi:S.J.hi=(n:Int)
 KP:S.J.lo<=S.J.at'
 RC:S.J.at'<=S.J.hi
 seq:0<=S.J.seq/\S.J.seq<=1000000
 js:S.J.dJ=false
 dJ:S.dJ=false
 bC:0<=S.bC/\S.bC<=g
def Rm.ok{n g:Nat}{S:VS}(h:Rm n g S)(hn:n<=4096)(hg:g<=1000):Il S:=by
 have h1:=h.calm.later;have h2:=h.lo;have h3:=h.KP;have h4:=h.RC;have h5:=h.seq;have h6:=h.bC;have h7:=h.hi;exact⟨h.calm.ok,by omega,⟨by omega,h3,h4,by rw[h.calm.len];omega,by omega⟩,by omega⟩
def Mw{n a t g:Nat}{D:aX}{number:Int}{s:BA}(hc:Sep.Calm n D)(he:∀j:Nat,j<n->Sep.Ends g (D.read (j:Int)).1)(cS:n<=4096)(h1:1<=number)(h2:number<=g+1)(hg:g+1<256)(hl:a+gN s.size<=t)(htn:t<=n):
 (fj D (a:Nat) (t:Nat) number s).2=0/\Sep.Calm n (fj D (a:Nat) (t:Nat) number s).1/\∀j:Nat,j<n->Sep.Ends (g+1) ((fj D (a:Nat) (t:Nat) number s).1.read (j:Int)).1:=by
 obtain⟨f1,f2,f3,f4⟩:=QW (a:=a) (t:=t) (number:=number) (s:=s) hc cS ⟨h1,by omega⟩ hl htn;refine⟨f1,f2,λj hj=>?_⟩;by_cases tG:a<=j/\j<a+gN s.size
 ·obtain⟨q,rfl⟩:∃q,j=a+q:=⟨j-a,by omega⟩;have:=f3 q (by omega);rw[show((a+q:Nat):Int)=(a:Int)+q from by omega,this];obtain⟨m,rfl⟩:=bt (show 0<=number by omega);have Br:Sep.ft m (q:Int) (Sep.part s q):=⟨h1,by omega,by omega,by omega,by
   unfold Sep.part;rw[ByteArray.size_extract];omega⟩
  exact(Dt Br).mono (by omega)
 ·rw[f4 j hj (by omega)];exact(he j hj).mono (by omega)
def FD{n g:Nat}{m:aA}{S:VS}(h:Rm n g S)(cS:n<=4096)(nF:12<=n)(hg:g+2<256)(Dn:gN (cQ (bo m)).length<=dB n)(hlen:(cQ (bo m)).length<=425984):
 (fJ n m S).2=0/\Rm n (g+2) (fJ n m S).1/\(fJ n m S).1.J.at'=S.J.lo/\(fJ n m S).1.J.lo=S.J.lo/\(fJ n m S).1.J.seq=S.J.seq/\(fJ n m S).1.bC=S.bC+1:=by
 have rS:=Aq (by omega) n h.ends;have hgi:=(yA S.D n).1;have tG:=pR nF (S.bC+1);have ht:=h.bC;have EG:=h.seq;obtain⟨p1,p2,p3⟩:=Mw (a:=fq n (S.bC+1)) (t:=fq n (S.bC+1)+dB n) (g:=g) (number:=fr S.D n+1) (s:=bs (cQ (bo m))) h.calm h.ends cS (by omega) (by omega) (by omega) (by rw[cj];omega) tG.2.1;have MI:=wU (S.bC+1);obtain⟨lw,hlw⟩:∃lw:Nat,low (S.bC+1)=(lw:Int)/\lw<2:=by
  rcases MI with hh|hh
  ·exact⟨0,hh,by decide⟩
  ·exact⟨1,hh,by decide⟩
 have hH:od ⟨S.bC+1,fr S.D n+1,((cQ (bo m)).length:Int),S.J.seq⟩:=by
  unfold od;dsimp only;omega
 have hhl:(kz ⟨S.bC+1,fr S.D n+1,((cQ (bo m)).length:Int),S.J.seq⟩).length=32:=by simp only[kz,aw,aO]
 have AT:=h.calm.len;have cp:∀D1:aX,Sep.Calm n D1->(∀j:Nat,j<n->Sep.Ends (g+1) (D1.read (j:Int)).1)->(uv D1 (fr S.D n+2) ⟨S.bC+1,fr S.D n+1,((cQ (bo m)).length:Int),S.J.seq⟩).2=0/\Sep.Calm n (uv D1 (fr S.D n+2) ⟨S.bC+1,fr S.D n+1,((cQ (bo m)).length:Int),S.J.seq⟩).1/\
  ∀j:Nat,j<n->Sep.Ends (g+2) ((uv D1 (fr S.D n+2) ⟨S.bC+1,fr S.D n+1,((cQ (bo m)).length:Int),S.J.seq⟩).1.read (j:Int)).1:=by
  intro D1 c1 e1;have:=Mw (a:=lw) (t:=lw+1) (g:=g+1) (number:=fr S.D n+2) (s:=bs (kz ⟨S.bC+1,fr S.D n+1,((cQ (bo m)).length:Int),S.J.seq⟩)) c1 e1 cS (by omega) (by omega) (by omega) (by rw[cj,hhl];show lw+1<=lw+1;omega) (by omega);have e:uv D1 (fr S.D n+2) ⟨S.bC+1,fr S.D n+1,((cQ (bo m)).length:Int),S.J.seq⟩=fj D1 ((lw:Nat):Int) ((lw+1:Nat):Int) (fr S.D n+2) (bs (kz ⟨S.bC+1,fr S.D n+1,((cQ (bo m)).length:Int),S.J.seq⟩)):=by
   unfold uv fj;rw[ai hH];dsimp only;rw[hlw.1]
   rfl
  rw[e];exact this
 unfold fJ;rw[AT,ag (by rw[h.dJ];decide),ag (λhh=>hh Dn),ag (by rw[Bd];exact λhh=>hh p1)];obtain⟨c1,c2,c3⟩:=cp (put S.D n (S.bC+1) (fr S.D n+1) (bs (cQ (bo m)))).1 p2 p3;rw[ag (λhh=>hh c1)];refine⟨rfl,⟨c2,c3,h.lo,h.hi,tw _,?_,h.seq,h.js,h.dJ,?_⟩,rfl,rfl,rfl,rfl⟩
 ·have:=h.KP;have:=h.RC;show S.J.lo<=S.J.hi;omega
 ·show 0<=S.bC+1/\S.bC+1<=((g+2:Nat):Int);omega
def Rm.yW{n g:Nat}{S:VS}(h:Rm n g S):S.J.Ok S.D:=by
 have h2:=h.lo;have h5:=h.seq;have h7:=h.hi;exact⟨by omega,h.KP,h.RC,by rw[h.calm.len];omega,by omega⟩
def FH{n g:Nat}{S:VS}{s:BA}(h:Rm n g S)(cS:n<=4096)(hg:g+1<256)(EG:S.J.seq<1000000)(hr:room S.J s.size):
 (oY S s).2=0/\Rm n (g+1) (oY S s).1/\(oY S s).1.J.at'=S.J.at'+(gN (12+s.size):Int)/\(oY S s).1.J.lo=S.J.lo/\(oY S s).1.J.seq=S.J.seq+1/\(oY S s).1.bC=S.bC:=by
 have rS:=Aq (by omega) n h.ends;have hgi:=(yA S.D n).1;have CP:=h.lo;have CQ:=h.KP;obtain⟨D',e1,e2,e3,e4,e5,e6,e7⟩:=WG (n:=n) (number:=fr S.D n+1) (s:=s) h.calm cS h.yW h.js (by omega) (by omega) hr;unfold oY;rw[h.calm.len,e1];have rT:∀j:Nat,j<n->Sep.Ends (g+1) (D'.read (j:Int)).1:=λj hj=>by
  by_cases tG:S.J.at'<=j/\(j:Int)<S.J.at'+(gN (12+s.size):Int)
  ·obtain⟨q,hq⟩:=bt (show 0<=(j:Int) -S.J.at' by omega);have:=e5 q (by omega);rw[show(j:Int)=S.J.at'+(q:Int) from by omega,this];obtain⟨m,hm⟩:=bt (show 0<=fr S.D n+1 by omega);rw[hm];have Br:Sep.ft m (q:Int) (Sep.part (bs (dv (S.J.seq+1) s)) q):=⟨by omega,by omega,by omega,by omega,by
    unfold Sep.part;rw[ByteArray.size_extract];omega⟩
   exact(Dt Br).mono (by omega)
  ·rw[e6 j (by omega) (by omega) (by omega)];exact(h.ends j hj).mono (by omega)
 have YF:=h.dJ;have htu:=h.bC;have aiI:=h.seq;refine⟨rfl,⟨e2,rT,h.lo,h.hi,e4.KP,e4.RC,⟨?_,?_⟩,h.js,?_,?_⟩,rfl,rfl,rfl,rfl⟩
 ·show 0<=S.J.seq+1;omega
 ·show S.J.seq+1<=1000000;omega
 ·show(S.dJ||_)=false;rw[YF];rfl
 ·show 0<=S.bC/\S.bC<=((g+1:Nat):Int);omega
def RP{n g:Nat}{m:aA}{S:VS}{s:BA}(h:Rm n g S)(cS:n<=4096)(nF:12<=n)(hg:g+3<256)(Dn:gN (cQ (bo m)).length<=dB n)(hlen:(cQ (bo m)).length<=425984)(EG:S.J.seq<1000000)(hs:s.size<=32768)(hj:(gN (12+s.size):Int)<=S.J.hi-S.J.lo):
 (ji n m S s).2=0/\(ji n m S s).1.J.lo=S.J.lo/\(ji n m S s).1.J.seq=S.J.seq+1/\
  ((Rm n (g+1) (ji n m S s).1/\(ji n m S s).1.J.at'=S.J.at'+(gN (12+s.size):Int))\/
   (Rm n (g+3) (ji n m S s).1/\(ji n m S s).1.J.at'=S.J.lo+(gN (12+s.size):Int)/\S.J.hi<S.J.at'+(gN (12+s.size):Int))):=by
 unfold ji;by_cases hr:room S.J s.size
 ·rw[ai hr];obtain⟨a1,a2,a3,a4,a5,a6⟩:=FH h cS (by omega) EG hr;exact⟨a1,a4,a5,.inl ⟨a2,a3⟩⟩
 ·rw[ag hr];obtain⟨b1,b2,b3,b4,b5,b6⟩:=FD h cS nF (by omega) Dn hlen;have BN:(fJ n m S).1.J.hi=S.J.hi:=by rw[b2.hi,h.hi]
  have O3:room (fJ n m S).1.J s.size:=by
   refine⟨by omega,by omega,?_⟩;rw[ak,BN,b3];exact hj
  obtain⟨a1,a2,a3,a4,a5,a6⟩:=FH b2 cS (by omega) (by omega) O3;rw[ag (λhh=>hh b1)];refine⟨a1,by rw[a4,b4],by rw[a5,b5],.inr ⟨a2,by rw[a3,b3],?_⟩⟩;unfold room at hr;rw[ak] at hr;omega
def C4{q:kh}(hw:k9 q=true)(he:gJ q=true):(dR q).length<=924:=by
 have YM:q.op=1\/q.op=2\/q.op=3:=aR he;have hf:=nP hw;unfold dR;rw[aw,aO];split
 ·rw[aw,aO,eB oT];omega
 ·split
  ·rw[aw,aO,eB pT];omega
  ·split
   ·rw[aO];omega
   ·omega
def Rm.mono{n g g':Nat}{S:VS}(h:Rm n g S)(hg:g<=g'):Rm n g' S:=
 ⟨h.calm,λj hj=>(h.ends j hj).mono hg,h.lo,h.hi,h.KP,h.RC,h.seq,h.js,h.dJ,⟨h.bC.1,by have:=h.bC.2;omega⟩⟩
def Rw{k:Nat}(h:k<=936):gN k<=9:=by unfold gN;split<;>omega
def As{n k:Nat}(hn:600<=n)(h:k<=23925):gN k<=dB n:=by unfold gN dB;split<;>omega
def wc{b:aZ}(hg:ft b):(cQ b).length<=23925:=by
 have:=hg.og;have:=hg.many;rw[ye hg];omega
section
variable {W:World} {L R:LH} {K:VK} {X:WK} {a:bJ} {t:cM} {q:kh} {s:wK}
def IV(h:T W L (K (.b (decide (nq a))))):T W L (dg (aL a) K):=by
 unfold dg dg.j1 dg.j2 dg.j3
 repeat' first|apply ws;intros|apply wb|with_reducible refine dj (λh1=>?_) (λh1=>?_)|fail
 all_goals (refine T.fin (T.dp h) ?_;congr 1;(rw[cf];(try simp only[bz,false_iff,true_iff] at *)<;>(try simp only[nq,bm] at *)<;>omega))
def IU(h:T W L (K (.b (decide (kL t))))):T W L (bY (aM t) K):=by
 unfold bY bY.j1 bY.j2 bY.j3 bY.j4 bY.j5
 repeat' first|apply ws;intros|apply wb|with_reducible refine dj (λh1=>?_) (λh1=>?_)|fail
 all_goals (refine T.fin (T.dp h) ?_;congr 1;(rw[cf];(try simp only[bz,false_iff,true_iff] at *)<;>(try simp only[kL,bm] at *)<;>omega))
def zC(h:T W L (K (.b (gJ q)))):T W L (jA (gX q s) K):=by
 unfold jA;unfold gJ at h
 repeat' first|apply ws;intros|apply wb|with_reducible refine dj (λh1=>?_) (λh1=>?_)|fail
 ·have h1:=aR h1;refine T.fin (T.dp h) ?_;congr 1;rw[decide_eq_decide];omega
 ·have h1:=bn h1;rw[ar (by omega)] at h;exact T.dp h
def IQ(h:T W L (K (.b (lZ q)))):T W L (dZ (gX q s) K):=by
 unfold dZ dZ.j1 dZ.j2;apply ws;intros;apply dj<;>intro g1
 ·have g1:q.op=1:=by simpa using g1
  unfold lZ at h;rw[ai g1] at h;apply ws;intros;apply ga<;>intro g2
  ·rw[av (by omega),eG] at h;apply ws;intros;refine T.fin (T.dp h) ?_;congr 1;rw[decide_eq_decide];omega
  ·rw[ar (by omega),fV] at h;exact T.dp h
 have g1: ¬q.op=1:=by simpa using g1
 apply ws;intros;apply dj<;>intro g2
 ·have g2:q.op=2:=by simpa using g2
  unfold lZ at h;rw[ag g1,ai g2] at h;apply ws;intros;apply ga<;>intro g2
  ·rw[av (by omega),eG] at h;apply ws;intros;refine T.fin (T.dp h) ?_;congr 1;rw[decide_eq_decide];omega
  ·rw[ar (by omega),fV] at h;exact T.dp h
 have g2: ¬q.op=2:=by simpa using g2
 unfold lZ at h;rw[ag g1,ag g2] at h;apply ws;intros;apply dj<;>intro g3
 ·have g3:q.op=3:=by simpa using g3
  rw[ai g3] at h;apply ws;intros;apply ga<;>intro g2
  ·rw[av (by omega),eG] at h;apply ws;intros;exact T.dp h
  ·rw[ar (by omega),fV] at h;exact T.dp h
 have g3: ¬q.op=3:=by simpa using g3
 rw[ag g3] at h;exact T.dp h
def IP(h:T W L (K (.b (pO q)))):T W L (bl (gX q s) K):=by
 have main:∀(r1:Nat)(b1:Bool),b1=decide (q.op=4\/q.op=5)->T W (Sep.pt r1 (gX q s)::L) (bl.j1 K r1 b1):=λr1 b1 hb=>by
  unfold bl.j1 bl.j2;unfold pO at h;by_cases Y2:q.op=4\/q.op=5
  ·rw[ai Y2] at h;rw[av Y2] at hb;subst hb;apply ws;intros;apply ga<;>intro g2
   ·rw[av (by omega),eG] at h;apply ws;intros;refine T.fin (T.dp h) ?_;congr 1;rw[decide_eq_decide];omega
   ·rw[ar (by omega),fV] at h;exact T.dp h
  ·rw[ag Y2] at h;rw[ar Y2] at hb;subst hb;rw[eK];apply ws;intros;rename_i r2;have j6:∀b:Bool,b=decide (q.op=6/\0<=q.kA/\0<=q.yB/\1<=q.lu/\q.lu<=16)->T W (Sep.pt r2 (qk q)::Sep.pt r1 (gX q s)::L) (bl.j6 K r2 b):=λb hb=>by
    unfold bl.j6;cases b with
    |true=>
     have hc:=aR hb.symm;rw[ai hc.1,av hc.2,eG] at h;apply ws;intros;cases hd:q.xE with
     |true=>
      rw[hd] at h;apply ws;intros;exact T.dp h
     |false=>
      rw[hd,Bool.false_or] at h;apply ws;intros;exact T.dp h
    |false=>
     have hc:=bn hb.symm;apply ws;intros;by_cases g6:q.op=6
     ·rw[ai g6,ar (λhh=>hc ⟨g6,hh⟩),fV] at h;exact T.dp h
     ·rw[ag g6] at h;exact T.dp h
   have j5:∀b:Bool,b=decide (q.op=6/\0<=q.kA/\0<=q.yB/\1<=q.lu)->T W (Sep.pt r2 (qk q)::Sep.pt r1 (gX q s)::L) (bl.j5 K r2 b):=λb hb=>by
    unfold bl.j5;cases b with
    |true=>
     apply ws;intros;refine j6 _ ?_;have:=aR hb.symm;rw[decide_eq_decide];omega
    |false=>
     apply ws;intros;refine j6 _ ?_;have:=bn hb.symm;exact(ar (by omega)).symm
   have j4:∀b:Bool,b=decide (q.op=6/\0<=q.kA/\0<=q.yB)->T W (Sep.pt r2 (qk q)::Sep.pt r1 (gX q s)::L) (bl.j4 K r2 b):=λb hb=>by
    unfold bl.j4;cases b with
    |true=>
     apply ws;intros;refine j5 _ ?_;have:=aR hb.symm;rw[decide_eq_decide];omega
    |false=>
     apply ws;intros;refine j5 _ ?_;have:=bn hb.symm;exact(ar (by omega)).symm
   have j3:∀b:Bool,b=decide (q.op=6/\0<=q.kA)->T W (Sep.pt r2 (qk q)::Sep.pt r1 (gX q s)::L) (bl.j3 K r2 b):=λb hb=>by
    unfold bl.j3;cases b with
    |true=>
     apply ws;intros;refine j4 _ ?_;have:=aR hb.symm;rw[decide_eq_decide];omega
    |false=>
     apply ws;intros;refine j4 _ ?_;have:=bn hb.symm;exact(ar (by omega)).symm
   apply dj<;>intro g6
   ·have g6:q.op=6:=by simpa using g6
    apply ws;intros;refine j3 _ ?_;rw[decide_eq_decide];omega
   ·have g6: ¬q.op=6:=by simpa using g6
    refine j3 _ ?_;exact(ar (by omega)).symm
 unfold bl;apply ws;intros;apply dj<;>intro g1
 ·have g1':q.op=4:=by simpa using g1
  exact main _ _ (av (.inl g1')).symm
 ·have g1': ¬q.op=4:=by simpa using g1
  apply ws;intros;exact main _ _ (by rw[cf];simp[g1'])
def yr(q:kh):pU q=((q.aB.all λx=> !decide (q.op=1)||decide (nq x))&&(q.cy.all λx=> !decide (q.op=2)||decide (kL x))):=by
 unfold pU;by_cases h1:q.op=1
 ·rw[ai h1];have h2: ¬q.op=2:=by omega
  simp[h1]
 ·rw[ag h1];by_cases h2:q.op=2
  ·rw[ai h2];simp[h2]
  ·rw[ag h2];simp[h1,h2]
def Gd[hh:Has R L](hq:qf W R q s)(Ed:q.aB.length<1000000)(bX:q.cy.length<1000000){r1:Nat}{b1:Bool}(h:T W (Sep.pt r1 (gX q s)::L) (K (.b (!b1&&pU q)))):T W (Sep.pt r1 (gX q s)::L) (gY.j1 K r1 b1):=by
 unfold gY.j1;cases b1 with
 |true=>rw[lz];exact h
 |false=>
  rw[P8,eG] at h;rw[eK];apply ws;intros;intro w jO;refine⟨λvv w=>∃i:Nat,i<=q.aB.length/\(q.aB.take i).all (λx=> !decide (q.op=1)||decide (nq x))=true/\vv=[.p (ah r1),.b false,.l s.sa q.aB.length s.ca,.i (q.aB.length:Int),.i (i:Int)]/\St W w (Sep.pt r1 (gX q s)::L),
   λvs _=>match vs with|[_,_,_,_,.int _ d]=>q.aB.length-d.toNat|_=>0,⟨0,aE _,rfl,rfl,jO⟩,?_⟩
  rintro a1 b2 jT jd ku n2 n3 w2 ⟨i,hi,fG,e,hO⟩;cases e
  refine T.at ?_ hO;have e5:=nK i;apply ga<;>intro g1
  ·have bX:i<q.aB.length:=by omega
   have gx:=aj bX;generalize q.aB[i]=x at gx;refine iU hq.aB ⟨by omega,by omega⟩ rfl λa ha=>?_;rw[ak];refine jR hq.aB ha gx rfl ?_;apply ws;intros;rw[e5];have step:(!decide (q.op=1)||decide (nq x))=true->T W (Sep.pt r1 (gX q s)::L) (λw=>(∃j:Nat,j<=q.aB.length/\(q.aB.take j).all (λx=> !decide (q.op=1)||decide (nq x))=true/\[.p (ah r1),.b false,.l s.sa q.aB.length s.ca,.i (q.aB.length:Int),.i ((i+1:Nat):Int)]=[.p (ah r1),.b false,.l s.sa q.aB.length s.ca,.i (q.aB.length:Int),Value.int .i64 (j:Int)]/\St W w (Sep.pt r1 (gX q s)::L))/\q.aB.length-((i+1:Nat):Int).toNat<q.aB.length-(i:Int).toNat):=λhp w3 h3=>⟨⟨i+1,bX,by rw[rq gx fG];exact hp,rfl,h3⟩,by omega⟩;apply dj<;>intro g2
   ·have g2:q.op=1:=by simpa using g2
    repeat' first|apply ws;intros|apply wb|with_reducible refine IV ?_|fail
    by_cases hg:nq x
    ·rw[av hg];apply ws;intros;refine T.drop ?_;exact step (by rw[av hg,Bool.or_true])
    ·rw[ar hg];apply ws;intros;rw[yr,all_false (P:=λx=> !decide (q.op=1)||decide (nq x)) gx (by rw[ar hg,av g2];rfl)] at h;rw[fV] at h;exact T.drop h
   ·have g2: ¬q.op=1:=by simpa using g2
    refine T.drop ?_;exact step (by rw[ar g2];rfl)
  ·have jk:i=q.aB.length:=by omega
   subst jk;rw[aS] at fG;have adZ:=fG;apply ws;intros;intro w jO;refine⟨λvv w=>∃i:Nat,i<=q.cy.length/\(q.cy.take i).all (λx=> !decide (q.op=2)||decide (kL x))=true/\vv=[.p (ah r1),.b false,.l s.st q.cy.length s.ct,.i (q.cy.length:Int),.i (i:Int)]/\St W w (Sep.pt r1 (gX q s)::L),
    λvs _=>match vs with|[_,_,_,_,.int _ d]=>q.cy.length-d.toNat|_=>0,⟨0,aE _,rfl,rfl,jO⟩,?_⟩
   rintro a1 b2 jT jd ku n2 n3 w2 ⟨i,hi,fG,e,hO⟩;cases e
   refine T.at ?_ hO;have e5:=nK i;apply ga<;>intro g1
   ·have bX:i<q.cy.length:=by omega
    have gx:=aj bX;generalize q.cy[i]=x at gx;refine iU hq.cy ⟨by omega,by omega⟩ rfl λa ha=>?_;rw[ak];refine jR hq.cy ha gx rfl ?_;apply ws;intros;rw[e5];have step:(!decide (q.op=2)||decide (kL x))=true->T W (Sep.pt r1 (gX q s)::L) (λw=>(∃j:Nat,j<=q.cy.length/\(q.cy.take j).all (λx=> !decide (q.op=2)||decide (kL x))=true/\[.p (ah r1),.b false,.l s.st q.cy.length s.ct,.i (q.cy.length:Int),.i ((i+1:Nat):Int)]=[.p (ah r1),.b false,.l s.st q.cy.length s.ct,.i (q.cy.length:Int),Value.int .i64 (j:Int)]/\St W w (Sep.pt r1 (gX q s)::L))/\q.cy.length-((i+1:Nat):Int).toNat<q.cy.length-(i:Int).toNat):=λhp w3 h3=>⟨⟨i+1,bX,by rw[rq gx fG];exact hp,rfl,h3⟩,by omega⟩;apply dj<;>intro g2
    ·have g2:q.op=2:=by simpa using g2
     repeat' first|apply ws;intros|apply wb|with_reducible refine IU ?_|fail
     by_cases hg:kL x
     ·rw[av hg];apply ws;intros;refine T.drop ?_;exact step (by rw[av hg,Bool.or_true])
     ·rw[ar hg];apply ws;intros;rw[yr,all_false (P:=λx=> !decide (q.op=2)||decide (kL x)) gx (by rw[ar hg,av g2];rfl)] at h;rw[Bool.and_false] at h;exact T.drop h
    ·have g2: ¬q.op=2:=by simpa using g2
     refine T.drop ?_;exact step (by rw[ar g2];rfl)
   ·have jk:i=q.cy.length:=by omega
    subst jk;rw[aS] at fG;rw[yr,adZ,fG] at h;exact h
def Sl[hh:Has R L](hq:qf W R q s)(Ed:q.aB.length<1000000)(bX:q.cy.length<1000000)(h:T W L (K (.b (k9 q)))):T W L (gY (gX q s) K):=by
 unfold gY
 repeat' first|apply ws;intros|apply wb|with_reducible refine IQ ?_|fail
 unfold k9 at h;cases he:lZ q with
 |true=>
  rw[he,Bool.true_or] at h;apply ws;intros;exact Gd hq Ed bX (T.drop h)
 |false=>
  rw[he,Bool.false_or] at h
  repeat' first|apply ws;intros|apply wb|with_reducible refine IP ?_|fail
  refine Gd hq Ed bX (T.drop ?_);rw[Bool.not_not];exact h
end
def HA(m:aA)(mb:OA)(mc:Nat)(kb:OA)(kc:Nat):LV:=[.l mb m.cE.length mc,.l kb m.ax.length kc,.i m.clock,.i m.ay]
instance{m:aA}{mb kb:OA}{mc kc:Nat}:Gt (HA m mb mc kb kc) 0 (.l mb m.cE.length mc):=⟨rfl⟩
instance{m:aA}{mb kb:OA}{mc kc:Nat}:Gt (HA m mb mc kb kc) 1 (.l kb m.ax.length kc):=⟨rfl⟩
instance{m:aA}{mb kb:OA}{mc kc:Nat}:Gt (HA m mb mc kb kc) 2 (.i m.clock):=⟨rfl⟩
instance{m:aA}{mb kb:OA}{mc kc:Nat}:Gt (HA m mb mc kb kc) 3 (.i m.ay):=⟨rfl⟩
abbrev ML(p:Nat)(m:aA)(mb:OA)(mc:Nat)(kb:OA)(kc:Nat)(R:LH):LH:=Sep.pt p (HA m mb mc kb kc)::own mb m.cE.length mc 14 (m.cE.flatMap aL)::own kb m.ax.length kc 33 (m.ax.flatMap bF)::R
def GK{α:Type}(P:α->Bool)(l:List α):Int:=match l.findIdx? P with|some i=>(i:Int)|none=> -1
def Jh{α:Type}{P:α->Bool}{l:List α}(h:∀x∈l,P x=false):GK P l= -1:=by
 unfold GK;rw[List.findIdx?_eq_none_iff.2 h]
def Jg{α:Type}{P:α->Bool}{l:List α}{i:Nat}{x:α}(hx:l[i]?=some x)(hp:P x=true)(h:∀y∈l.take i,P y=false):GK P l=(i:Int):=by
 unfold GK;obtain⟨hi,he⟩:=ao.1 hx;rw[(List.findIdx?_eq_some_iff_getElem (xs:=l) (p:=P)).2 ⟨hi,by rw[he];exact hp,λj hj=>by
  have Vy:j<l.length:=Nat.lt_trans hj hi
  have:=h (l[j]) (List.mem_take_iff_getElem.2 ⟨j,by omega,rfl⟩)
  rw[this];exact cN⟩]
def IA{α:Type}{P:α->Bool}{l:List α}{i:Nat}{x:α}(hx:l[i]?=some x)(hp:P x=false)(h:∀y∈l.take i,P y=false):∀y∈l.take (i+1),P y=false:=λy hy=>by
 rw[bg,hx,dF] at hy;rcases hy with hy|hy
 ·exact h y hy
 ·cases(show y=x by simpa using hy);exact hp
section
variable {W:World} {L R:LH} {K:VK} {X:WK} {p:Nat} {m:aA} {mb kb:OA} {mc kc:Nat} {a:bJ} {t:cM}
def yi(hm:m.cE.length<1000000){id:Nat}(h:T W (ML p m mb mc kb kc R) (K (.i (GK (λx:bJ=>decide (x.id=id)) m.cE)))):T W (ML p m mb mc kb kc R) (fF (ah p) (nm id) K):=by
 unfold fF;apply ws;intros;rename_i r1;intro w jO;refine⟨λvv w=>∃i:Nat,i<=m.cE.length/\(∀x∈m.cE.take i,decide (x.id=id)=false)/\vv=[.p (some (ad r1 0)),.i 0,.l mb m.cE.length mc,.i (m.cE.length:Int),.i (i:Int)]/\St W w (Sep.pt r1 (nm id)::ML p m mb mc kb kc R),
  λvs _=>match vs with|[_,_,_,_,.int _ d]=>m.cE.length-d.toNat|_=>0,⟨0,aE _,(λx hx=>by cases hx),rfl,jO⟩,?_⟩
 rintro a2 n1 jT jd ku n2 n3 w2 ⟨i,hi,fG,e,hO⟩;cases e
 refine T.at ?_ hO;have e5:=nK i;apply ga<;>intro g1
 ·have bX:i<m.cE.length:=by omega
  have gx:=aj bX;generalize m.cE[i]=x at gx;refine dL (b:=mb) ⟨by omega,by omega⟩ λrb hb=>?_;rw[ak];subst hb;refine gT j0 gx ?_;apply ws;intros;rw[e5];apply dj<;>intro g2
  ·rw[Jg gx g2 fG] at h;exact T.dp h
  ·refine T.drop λw3 h3=>⟨⟨i+1,bX,IA gx g2 fG,rfl,h3⟩,by show m.cE.length-((i+1:Nat):Int).toNat<m.cE.length-(i:Int).toNat;omega⟩
 ·have jk:i=m.cE.length:=by omega
  subst jk;rw[aS] at fG;rw[Jh fG] at h;exact T.dp h
def Kb(hm:m.ax.length<1000000){id:Nat}(h:T W (ML p m mb mc kb kc R) (K (.i (GK (λx:ch=>decide (x.move.id=id)) m.ax)))):T W (ML p m mb mc kb kc R) (iu (ah p) (nm id) K):=by
 unfold iu;apply ws;intros;rename_i r1;intro w jO;refine⟨λvv w=>∃i:Nat,i<=m.ax.length/\(∀x∈m.ax.take i,decide (x.move.id=id)=false)/\vv=[.p (some (ad r1 0)),.i 0,.l kb m.ax.length kc,.i (m.ax.length:Int),.i (i:Int)]/\St W w (Sep.pt r1 (nm id)::ML p m mb mc kb kc R),
  λvs _=>match vs with|[_,_,_,_,.int _ d]=>m.ax.length-d.toNat|_=>0,⟨0,aE _,(λx hx=>by cases hx),rfl,jO⟩,?_⟩
 rintro a2 n1 jT jd ku n2 n3 w2 ⟨i,hi,fG,e,hO⟩;cases e
 refine T.at ?_ hO;have e5:=nK i;apply ga<;>intro g1
 ·have bX:i<m.ax.length:=by omega
  have gx:=aj bX;generalize m.ax[i]=x at gx;refine dL (b:=kb) ⟨by omega,by omega⟩ λrb hb=>?_;rw[ak];subst hb;refine gT jH gx ?_;apply ws;intros;rw[e5];apply dj<;>intro g2
  ·rw[Jg gx g2 fG] at h;exact T.dp h
  ·refine T.drop λw3 h3=>⟨⟨i+1,bX,IA gx g2 fG,rfl,h3⟩,by show m.ax.length-((i+1:Nat):Int).toNat<m.ax.length-(i:Int).toNat;omega⟩
 ·have jk:i=m.ax.length:=by omega
  subst jk;rw[aS] at fG;rw[Jh fG] at h;exact T.dp h
end
end Go.Up
