/- Part of the proof: see the last text. -/
import Derived.Test.YtdeklijinefhkaaGreatDoorPC
import Derived.Test.YtdeklijinefhkaaGreatDoorPA
import Derived.Test.YtdeklijinefhkaaGreatDoorPB
set_option linter.all false
set_option maxRecDepth 100000
set_option synthInstance.maxSize 100000
open Bool renaming eq_iff_iff→cj,true_and→dQ,false_and→fQ,not_false→Pd,and_eq_true→df,false_eq_true→cM,noConfusion→rY,false_ne_true→cO
open Decidable renaming not_not→bp
open Go.IntKind renaming i64→aa
open Int renaming toNat_natCast→ak,eq_ofNat_of_zero_le→bh,fdiv_eq_ediv_of_nonneg→Hs,le_refl→eE
open List renaming getElem?_eq_getElem→aj,getElem?_eq_some_iff→ar,length_append→av,length_take→aD,append_assoc→aH,length_drop→aS,take_length→aV,take_add_one→bg,replicate→bw,getElem_mem→bF,append_nil→bR,Perm→cf,nil_append→cQ,take_append_drop→dy,drop_eq_getElem_cons→gh,drop_of_length_le→gG,drop_drop→jX,length_replicate→kV,getElem?_of_mem→qW,take_left→Dv,Sublist→bm,perm_append_comm→bG,getElem?_append_right→iN,length_map→bQ,map_append→cF,length_reverse→jx,take_of_length_le→bU,filter_cons_of_pos→lW,filter_cons_of_neg→lX,mem_of_getElem?→cD,length_cons→bE,getElem?_map→fy,flatMap_append→gj,flatMap_cons→iQ,map_congr_left→jv,range→qk,all_eq_true→pW,mem_map→cV,pairwise_iff_getElem→kC,take_zero→mR,find?_eq_none→ql,ext_getElem?→qX,getElem?_take→s8,length_nil→cR,getElem?_cons_succ→bX,drop_zero→jf,take_take→yK,set_set→jH,set_cons_succ→nN,getElem?_append_left→ch,perm_middle→iM,mem_append→dB,mem_or_eq_of_mem_set→fq,mem_cons→ka
open Nat renaming zero_add→aB,zero_le→aF,sub_self→kR,mul_one→mF,le_refl→aI,pow_le_pow_right→gO,lt_of_le_of_lt→qJ,le_trans→wJ,mul_le_mul_right→iA,add_mul→mG,mod_eq_of_lt→fG,reduceAdd→ae,reduceMul→af,le_of_ble_eq_true→aK,add_zero→gM
open Option renaming getD_some→dI,isSome_some→dL,isSome_none→ff,getD_none→gQ,map→yZ,some→bA,map_some→fm
namespace Go.Up
open Go.Sep Go.Den Go.RowKit Go.Prog Go.Md Go.cG
def Is(b:ba):Prop:=∃m,pK b m/\Md.bW m
def Is.make{b:ba}(h:Is b)(a:bP):Is (b.make a).2:=by obtain⟨m,hs,hg⟩:=h;exact⟨_,(hs.make hg).2⟩
def Is.rI{b:ba}(h:Is b)(t:cH):Is (b.rI t).2:=by obtain⟨m,hs,hg⟩:=h;exact⟨_,(hs.rI hg).2⟩
def IX(n:Int):(dj .i64 .and n 1!=0)=decide (n%2=1):=by
 rw[RQ,cj];simp only[fM,ne_eq,decide_eq_true_eq];omega
def C4(t:cH):(aN t).length=16:=rfl
def Bq(a:bP):Bool:=decide (a.aq%2=1)
def Bp(t:cH):Bool:=decide (t.aq%2=1)
section
variable {α σ:Type}
def CT{f:σ->α->Int×σ}{lk:α->Bool}{n:Nat}{s:σ}{l:List α}(hl:l≠[]):
 iu f lk (n+1) s l=if(cy lk l).2=false then(ln (cy lk l).1 (some ((cy lk l).1-1,2)),s)
  else match iw f s (l.take (cy lk l).1) 0 with
  |(none,s')=>(ln (cy lk l).1 none++(iu f lk n s' (l.drop (cy lk l).1)).1,(iu f lk n s' (l.drop (cy lk l).1)).2)
  |(some e,_)=>(ln (cy lk l).1 (some e)++(iu f lk n s (l.drop (cy lk l).1)).1,(iu f lk n s (l.drop (cy lk l).1)).2):=by
 cases l with
 |nil=>exact aT rfl hl
 |cons x l=>
  rw[iu]<;>congr 1
def xh{f:σ->α->Int×σ}{lk:α->Bool}(n:Nat)(s:σ):iu f lk n s []=([],s):=by cases n<;>rfl
end
section
variable {W:World} {L R:LH} {K:VK} {X:WK} {p:Nat} {b:ba} {hs:List C}
def YL{s:OA}{c nn:Nat}{l:List bP}[hh:Has R L](hr:mE W R aO 14 s l)(Nn:nn=l.length)(hl:l.length<1000000)
 (h:T W L (K (.tuple ⟨[.i ((cy Bq l).1:Int),.b (cy Bq l).2]⟩))):T W L (mP s nn c (.func (.func N.gW) ⟨[]⟩ ⟨[]⟩) K):=by
 subst Nn;unfold mP;intro w hs;refine⟨λvs w=>∃i:Nat,i<=l.length/\(∀j y,j<i->l[j]?=some y->Bq y=true)/\vs=[.i 0,.b false,.l s l.length c,.i (l.length:Int),.i (i:Int)]/\St W w L,
  mq 4 l.length,⟨0,aF _,λj y hj=>by omega,rfl,hs⟩,?_⟩
 rintro n1 b1 ov mo qf n2 n3 w2 ⟨i,hi,fI,e,ib⟩;cases e
 refine T.at ?_ ib;have e5:=nI i;apply ga<;>intro g1
 ·have cn:i<l.length:=by omega
  have gx:=aj cn;generalize l[i]=x at gx;refine iq hr ⟨by omega,by omega⟩ rfl λa ha=>?_;rw[ak];apply kY hr ha gx (jT x);apply ws;intros;show T W _ (gW (aO x) _);unfold gW;apply ws;intros;rw[IX];rw[e5];apply dz<;>intro g2
  ·have g2:Bq x=false:=by simpa [Bq] using g2
   rw[yB fI gx g2] at h;exact T.dp h
  ·have g2:Bq x=true:=by simpa [Bq] using g2
   refine T.drop (T.drop ?_);refine λw3 h3=>⟨⟨i+1,cn,λj y hj hy=>?_,rfl,h3⟩,dn (by omega)⟩;by_cases Mp:j=i
   ·subst Mp;rw[gx] at hy;cases hy;exact g2
   ·exact fI j y (by omega) hy
 ·have iZ:i=l.length:=by omega
  subst iZ;rw[wE λx hx=>by obtain⟨j,hj⟩:=qW hx;exact fI j x (ar.1 hj).1 hj] at h;exact h
def aa'(G:oH W){s:OA}{c c2 nn:Nat}{l:List bP}{r q o:Nat}{res:List Int}(hr:mE W R aO 14 s l)(Nn:nn=l.length)(iz:∀x∈l,yJ x)(hP:Is b)(hl:hs.length+8* l.length<800000)
 (ho:o+l.length<=res.length)(Mj:0<l.length)
 (h0:∀fF b',iw ba.make b l 0=(none,b')->Is b'->fF.length<=hs.length+8* l.length->T W (cL p (b',fF)::own (ah r) q q 1 (res.flatMap I1)::R) (K (.tuple ⟨[]⟩)))
 (h1:∀e b',iw ba.make b l 0=(some e,b')->e.1<l.length->T W (cL p (b,hs)::own (ah r) q q 1 ((res.take o++ln l.length (some e)++res.drop (o+l.length)).flatMap I1)::R) (K (.tuple ⟨[]⟩))):
 T W (cL p (b,hs)::own (ah r) q q 1 (res.flatMap I1)::R) (nA (ah p) s nn c (some ⟨r,o,none⟩) nn c2 (.func (.func N.mz) ⟨[]⟩ ⟨[]⟩) K):=by
 subst Nn;unfold nA;refine qZ (p:=p) λhg=>?_;apply PF (p:=p);apply ws;intro w jS;refine⟨λvs w=>∃(i:Nat)(b':ba)(fF:List C),i<=l.length/\iw ba.make b (l.take i) 0=(none,b')/\Is b'/\Ext (fS b) hs (fS b') fF (8* i)/\vs=[.i (hs.length:Int),.l s l.length c,.i (l.length:Int),.i (i:Int)]/\
  St W w (cL p (b',fF)::own (ah r) q q 1 (res.flatMap I1)::R),
  mq 3 l.length,⟨0,b,hs,aF _,rfl,hP,Ext.refl _ _ _,rfl,jS⟩,?_⟩
 rintro n2 o9 nJ pa n3 n4 w2 ⟨i,b',fF,hi,Ms,Nw,hx,e,ib⟩;cases e
 refine T.at ?_ ib;have e5:=nI i;have hxl:=hx.len;apply ga<;>intro g1
 ·have cn:i<l.length:=by omega
  have gx:=aj cn;have pU:l[i]∈l:=bF cn;have vD:l=l.take i++l[i]::l.drop (i+1):=by rw[<-gh cn,dy]
  have yQ:l.take (i+1)=l.take i++[l[i]]:=by rw[bg,gx];rfl
  generalize l[i]=x at gx pU vD yQ;have Ka:=iz x pU;refine iq hr ⟨by omega,by omega⟩ rfl λa ha=>?_;rw[ak];apply kY hr ha gx (jT x);apply ws;intros;show T W _ (mz (ah p) (aO x) _);refine Y6 (p:=p) G Ka (by omega) λabq UK=>?_;have abD:iw ba.make b l 0=iw ba.make b' (x::l.drop (i+1)) (0+(l.take i).length):=by
   conv=>lhs;rw[vD]
   exact tF _ _ _ _ _ Ms
  have hti:(l.take i).length=i:=by rw[aD];omega
  apply ws;apply dz<;>intro g2
  ·have g2:(b'.make x).1≠0:=by simpa using g2
   apply T.drop;have hx3:=UK.len;apply PH (p:=p) hg (hx.trans UK) (by omega);apply ws;apply Kj (r:=r) (N:=q) (C:=q) ho cn (by omega);apply ws;refine h1 (i,(b'.make x).1) b' ?_ cn;rw[abD,hti,iw,ai g2,aB]
  ·have g2:(b'.make x).1=0:=by simpa using g2
   rw[e5];apply T.drop;refine λw3 h3=>⟨⟨i+1,_,abq,cn,?_,Nw.make x,(hx.trans UK).mono (by omega),rfl,h3⟩,dn (by omega)⟩;rw[yQ,tF _ _ _ _ _ Ms,iw,ag (by omega)]
   rfl
 ·have iZ:i=l.length:=by omega
  subst iZ;rw[aV] at Ms;exact h0 fF b' Ms Nw (by omega)
def aa1(G:oH W){s:OA}{c:Nat}{l:List bP}(hr:mE W R aO 14 s l)(hc:l.length<=c)(iz:∀x∈l,yJ x)(hP:Is b)(I7:l.length<=10000)(hl:hs.length+8* l.length<800000)
 (h:∀r fF,fF.length<=hs.length+8* l.length->Is (iu ba.make Bq l.length b l).2->(iu ba.make Bq l.length b l).1.length=l.length->
  T W (cL p ((iu ba.make Bq l.length b l).2,fF)::own (some ⟨r,0,none⟩) l.length l.length 1 ((iu ba.make Bq l.length b l).1.flatMap I1)::R) (K (.l (some ⟨r,0,none⟩) l.length l.length))):
 T W (cL p (b,hs)::R) (sQ (some ⟨p,0,none⟩) s l.length c K):=by
 unfold sQ qi;refine JF ⟨by omega,by omega,by omega,by omega⟩ λr=>?_;rw[ak,show(Builtin.zeroCells ⟨[Value.int aa 0]⟩ l.length).toList=(bw l.length (0:Int)).flatMap I1 from sn (g:=I1) (z:=0) rfl _];show T W (own (some ⟨r,0,none⟩) l.length l.length 1 _::cL p (b,hs)::R) _;refine T.perm (M:=own (some ⟨r,0,none⟩) l.length l.length 1 _::cL p (b,hs)::R) (L:=cL p (b,hs)::own (some ⟨r,0,none⟩) l.length l.length 1 _::R) ?_ (cf.swap _ _ _);intro w jS;refine⟨λvs w=>∃(at_ fuel:Nat)(b':ba)(fF:List C)(done:List Int),at_<=l.length/\done.length=at_/\l.length<=fuel+at_/\
                                                                        iu ba.make Bq l.length b l=(done++(iu ba.make Bq fuel b' (l.drop at_)).1,(iu ba.make Bq fuel b' (l.drop at_)).2)/\Is b'/\fF.length<=hs.length+8* at_/\
                                                                        vs=[.l none 0 0,.l (some ⟨r,0,none⟩) l.length l.length,.i (at_:Int)]/\
                                                                        St W w (cL p (b',fF)::own (some ⟨r,0,none⟩) l.length l.length 1 ((done++bw (l.length-at_) 0).flatMap I1)::R),
  mq 2 l.length,⟨0,l.length,b,hs,[],aF _,rfl,by omega,by simp,hP,by omega,rfl,jS⟩,?_⟩
 rintro o9 nJ pa uU uG uP n1 w2 ⟨at_,fuel,b',fF,done,Ak,Bu,S4,pT,Nw,Z8,e,ib⟩;cases e
 refine T.at ?_ ib;apply ga<;>intro g1
 ·have cn:at_<l.length:=by omega
  have kJ:l.drop at_≠[]:=λhh=>by have:=congrArg List.length hh;rw[aS] at this;simp at this;omega
  have xv:(l.drop at_).length=l.length-at_:=aS;apply ze (by omega);have Nk:=hr.drop (i:=at_) (c:=c) (by omega) hc;apply YL Nk xv.symm (by omega);apply ws;obtain⟨n,hn⟩:∃n,(cy Bq (l.drop at_)).1=n:=⟨_,rfl⟩;have afh:n<=l.length-at_:=by rw[<-hn,<-xv];exact vL _
  have adr:0<n:=by
   rw[<-hn];cases hd:l.drop at_ with
   |nil=>exact aT hd kJ
   |cons x l'=>exact D7 x l'
  rw[hn];have e6:aa.wrap ((at_:Int)+(n:Int))=((at_+n:Nat):Int):=by rw[aX (by omega)];omega
  rw[e6];apply EC (by omega) (by omega);have ea:zi (some ⟨r,0,none⟩) l.length at_ 1=some ⟨r,at_,none⟩:=by unfold zi;rw[ag (by omega)];show some (Addr.add ⟨r,0,none⟩ (at_* 1))=_;rw[ia,aB,mF]
  rw[ea,Nat.add_sub_cancel_left];obtain⟨fuel,rfl⟩:∃m,fuel=m+1:=⟨fuel-1,by omega⟩;have gS:=CT (f:=ba.make) (lk:=Bq) (n:=fuel) (s:=b') kJ;have hdd:(l.drop at_).drop n=l.drop (at_+n):=jX;have HL:(done++bw (l.length-at_) (0:Int)).length=l.length:=by rw[av,kV];omega
  have GA:(done++bw (l.length-at_) (0:Int)).drop (at_+n)=bw (l.length-(at_+n)) 0:=by
   rw[List.drop_append,gG (by omega),cQ,List.drop_replicate];congr 1;omega
  have tj:(done++bw (l.length-at_) (0:Int)).take at_=done:=by rw[<-Bu,Dv]
  apply dz<;>intro g2
  ·have g2:(cy Bq (l.drop at_)).2=false:=by simpa using g2
   have Nn:n=l.length-at_:=by rw[<-hn,yA g2,xv]
   have e7:aa.wrap ((n:Int) -1)=((n-1:Nat):Int):=by rw[aX (by omega)];omega
   rw[e7];refine Kj (r:=r) (N:=l.length) (C:=l.length) (o:=at_) (n:=n) (by rw[HL];omega) (by omega) (by omega) ?_;apply ws;rw[tj,GA];refine λw3 h3=>⟨⟨at_+n,fuel,b',fF,done++ln n (some (n-1,2)),by omega,by rw[av,lg];omega,by omega,?_,Nw,by omega,rfl,h3⟩,dn (by omega)⟩;rw[ai g2,hn] at gS;rw[pT,gS,show l.drop (at_+n)=[] from gG (by omega),xh];simp
  ·have g2:(cy Bq (l.drop at_)).2=true:=by simpa using g2
   rw[ag (by rw[g2];decide),hn,hdd] at gS;apply EC (by omega) (by omega);rw[Nat.add_sub_cancel_left];have Es:((l.drop at_).take n).length=n:=by rw[aD];omega
   have hr3:=Nk.take (i:=n);refine aa' (p:=p) G (l:=(l.drop at_).take n) (o:=at_) hr3 Es.symm (λx hx=>iz x (List.mem_of_mem_drop (List.mem_of_mem_take hx))) Nw (by omega) (by rw[HL];omega) (by omega) (λvU b3 hd hP3 WI=>?_) (λe b3 hd he=>?_)
   ·apply ws;rw[Es] at WI;rw[hd] at gS;refine λw3 h3=>⟨⟨at_+n,fuel,b3,vU,done++ln n none,by omega,by rw[av,lg];omega,by omega,?_,hP3,by omega,rfl,?_⟩,dn (by omega)⟩
    ·rw[pT,gS];simp
    ·have e8:done++bw (l.length-at_) (0:Int)=done++ln n none++bw (l.length-(at_+n)) 0:=by
      rw[aH];congr 1;show _=bw n 0++_;rw[List.replicate_append_replicate];congr 1;omega
     rw[<-e8];exact h3
   ·apply ws;rw[Es];rw[hd] at gS;rw[tj,GA];refine λw3 h3=>⟨⟨at_+n,fuel,b',fF,done++ln n (some e),by omega,by rw[av,lg];omega,by omega,?_,Nw,by omega,rfl,h3⟩,dn (by omega)⟩;rw[pT,gS];simp
 ·have iZ:at_=l.length:=by omega
  subst iZ;rw[List.drop_length,xh] at pT;simp only[bR] at pT;rw[pT] at h;have:=h r fF (by omega) Nw Bu;rw[kR,List.replicate_zero,bR];apply ws;exact this
end
def TOk(t:cH):Prop:=yF t/\kH t
section
variable {W:World} {L R:LH} {K:VK} {X:WK} {p:Nat} {b:ba} {hs:List C}
def YK{s:OA}{c nn:Nat}{l:List cH}[hh:Has R L](hr:mE W R aN 16 s l)(Nn:nn=l.length)(hl:l.length<1000000)
 (h:T W L (K (.tuple ⟨[.i ((cy Bp l).1:Int),.b (cy Bp l).2]⟩))):T W L (ma s nn c (.func (.func N.gB) ⟨[]⟩ ⟨[]⟩) K):=by
 subst Nn;unfold ma;intro w hs;refine⟨λvs w=>∃i:Nat,i<=l.length/\(∀j y,j<i->l[j]?=some y->Bp y=true)/\vs=[.i 0,.b false,.l s l.length c,.i (l.length:Int),.i (i:Int)]/\St W w L,
  mq 4 l.length,⟨0,aF _,λj y hj=>by omega,rfl,hs⟩,?_⟩
 rintro n1 b1 ov mo qf n2 n3 w2 ⟨i,hi,fI,e,ib⟩;cases e
 refine T.at ?_ ib;have e5:=nI i;apply ga<;>intro g1
 ·have cn:i<l.length:=by omega
  have gx:=aj cn;generalize l[i]=x at gx;refine iq hr ⟨by omega,by omega⟩ rfl λa ha=>?_;rw[ak];apply kY hr ha gx (C4 x);apply ws;intros;show T W _ (gB (aN x) _);unfold gB;apply ws;intros;rw[IX];rw[e5];apply dz<;>intro g2
  ·have g2:Bp x=false:=by simpa [Bp] using g2
   rw[yB fI gx g2] at h;exact T.dp h
  ·have g2:Bp x=true:=by simpa [Bp] using g2
   refine T.drop (T.drop ?_);refine λw3 h3=>⟨⟨i+1,cn,λj y hj hy=>?_,rfl,h3⟩,dn (by omega)⟩;by_cases Mp:j=i
   ·subst Mp;rw[gx] at hy;cases hy;exact g2
   ·exact fI j y (by omega) hy
 ·have iZ:i=l.length:=by omega
  subst iZ;rw[wE λx hx=>by obtain⟨j,hj⟩:=qW hx;exact fI j x (ar.1 hj).1 hj] at h;exact h
def aa9(G:oH W){s:OA}{c c2 nn:Nat}{l:List cH}{r q o:Nat}{res:List Int}(hr:mE W R aN 16 s l)(Nn:nn=l.length)(iz:∀x∈l,TOk x)(hP:Is b)(hl:hs.length+8* l.length<800000)
 (ho:o+l.length<=res.length)(Mj:0<l.length)
 (h0:∀fF b',iw ba.rI b l 0=(none,b')->Is b'->fF.length<=hs.length+8* l.length->T W (cL p (b',fF)::own (ah r) q q 1 (res.flatMap I1)::R) (K (.tuple ⟨[]⟩)))
 (h1:∀e b',iw ba.rI b l 0=(some e,b')->e.1<l.length->T W (cL p (b,hs)::own (ah r) q q 1 ((res.take o++ln l.length (some e)++res.drop (o+l.length)).flatMap I1)::R) (K (.tuple ⟨[]⟩))):
 T W (cL p (b,hs)::own (ah r) q q 1 (res.flatMap I1)::R) (mO (ah p) s nn c (some ⟨r,o,none⟩) nn c2 (.func (.func N.oI) ⟨[]⟩ ⟨[]⟩) K):=by
 subst Nn;unfold mO;refine qZ (p:=p) λhg=>?_;apply PF (p:=p);apply ws;intro w jS;refine⟨λvs w=>∃(i:Nat)(b':ba)(fF:List C),i<=l.length/\iw ba.rI b (l.take i) 0=(none,b')/\Is b'/\Ext (fS b) hs (fS b') fF (8* i)/\vs=[.i (hs.length:Int),.l s l.length c,.i (l.length:Int),.i (i:Int)]/\
  St W w (cL p (b',fF)::own (ah r) q q 1 (res.flatMap I1)::R),
  mq 3 l.length,⟨0,b,hs,aF _,rfl,hP,Ext.refl _ _ _,rfl,jS⟩,?_⟩
 rintro n2 o9 nJ pa n3 n4 w2 ⟨i,b',fF,hi,Ms,Nw,hx,e,ib⟩;cases e
 refine T.at ?_ ib;have e5:=nI i;have hxl:=hx.len;apply ga<;>intro g1
 ·have cn:i<l.length:=by omega
  have gx:=aj cn;have pU:l[i]∈l:=bF cn;have vD:l=l.take i++l[i]::l.drop (i+1):=by rw[<-gh cn,dy]
  have yQ:l.take (i+1)=l.take i++[l[i]]:=by rw[bg,gx];rfl
  generalize l[i]=x at gx pU vD yQ;have Ka:=iz x pU;refine iq hr ⟨by omega,by omega⟩ rfl λa ha=>?_;rw[ak];apply kY hr ha gx (C4 x);apply ws;intros;show T W _ (oI (ah p) (aN x) _);refine adR (p:=p) G Ka.1 Ka.2 (by obtain⟨m,h3,h4⟩:=Nw;exact Zl h3 h4) (by omega) λabq UK=>?_;have abD:iw ba.rI b l 0=iw ba.rI b' (x::l.drop (i+1)) (0+(l.take i).length):=by
   conv=>lhs;rw[vD]
   exact tF _ _ _ _ _ Ms
  have hti:(l.take i).length=i:=by rw[aD];omega
  apply ws;apply dz<;>intro g2
  ·have g2:(b'.rI x).1≠0:=by simpa using g2
   apply T.drop;have hx3:=UK.len;apply PH (p:=p) hg (hx.trans UK) (by omega);apply ws;apply Kj (r:=r) (N:=q) (C:=q) ho cn (by omega);apply ws;refine h1 (i,(b'.rI x).1) b' ?_ cn;rw[abD,hti,iw,ai g2,aB]
  ·have g2:(b'.rI x).1=0:=by simpa using g2
   rw[e5];apply T.drop;refine λw3 h3=>⟨⟨i+1,_,abq,cn,?_,Nw.rI x,(hx.trans UK).mono (by omega),rfl,h3⟩,dn (by omega)⟩;rw[yQ,tF _ _ _ _ _ Ms,iw,ag (by omega)]
   rfl
 ·have iZ:i=l.length:=by omega
  subst iZ;rw[aV] at Ms;exact h0 fF b' Ms Nw (by omega)
def aa0(G:oH W){s:OA}{c:Nat}{l:List cH}(hr:mE W R aN 16 s l)(hc:l.length<=c)(iz:∀x∈l,TOk x)(hP:Is b)(I7:l.length<=10000)(hl:hs.length+8* l.length<800000)
 (h:∀r fF,fF.length<=hs.length+8* l.length->Is (iu ba.rI Bp l.length b l).2->(iu ba.rI Bp l.length b l).1.length=l.length->
  T W (cL p ((iu ba.rI Bp l.length b l).2,fF)::own (some ⟨r,0,none⟩) l.length l.length 1 ((iu ba.rI Bp l.length b l).1.flatMap I1)::R) (K (.l (some ⟨r,0,none⟩) l.length l.length))):
 T W (cL p (b,hs)::R) (rJ (some ⟨p,0,none⟩) s l.length c K):=by
 unfold rJ pF;refine JF ⟨by omega,by omega,by omega,by omega⟩ λr=>?_;rw[ak,show(Builtin.zeroCells ⟨[Value.int aa 0]⟩ l.length).toList=(bw l.length (0:Int)).flatMap I1 from sn (g:=I1) (z:=0) rfl _];show T W (own (some ⟨r,0,none⟩) l.length l.length 1 _::cL p (b,hs)::R) _;refine T.perm (M:=own (some ⟨r,0,none⟩) l.length l.length 1 _::cL p (b,hs)::R) (L:=cL p (b,hs)::own (some ⟨r,0,none⟩) l.length l.length 1 _::R) ?_ (cf.swap _ _ _);intro w jS;refine⟨λvs w=>∃(at_ fuel:Nat)(b':ba)(fF:List C)(done:List Int),at_<=l.length/\done.length=at_/\l.length<=fuel+at_/\
                                                                        iu ba.rI Bp l.length b l=(done++(iu ba.rI Bp fuel b' (l.drop at_)).1,(iu ba.rI Bp fuel b' (l.drop at_)).2)/\Is b'/\fF.length<=hs.length+8* at_/\
                                                                        vs=[.l none 0 0,.l (some ⟨r,0,none⟩) l.length l.length,.i (at_:Int)]/\
                                                                        St W w (cL p (b',fF)::own (some ⟨r,0,none⟩) l.length l.length 1 ((done++bw (l.length-at_) 0).flatMap I1)::R),
  mq 2 l.length,⟨0,l.length,b,hs,[],aF _,rfl,by omega,by simp,hP,by omega,rfl,jS⟩,?_⟩
 rintro o9 nJ pa uU uG uP n1 w2 ⟨at_,fuel,b',fF,done,Ak,Bu,S4,pT,Nw,Z8,e,ib⟩;cases e
 refine T.at ?_ ib;apply ga<;>intro g1
 ·have cn:at_<l.length:=by omega
  have kJ:l.drop at_≠[]:=λhh=>by have:=congrArg List.length hh;rw[aS] at this;simp at this;omega
  have xv:(l.drop at_).length=l.length-at_:=aS;apply ze (by omega);have Nk:=hr.drop (i:=at_) (c:=c) (by omega) hc;apply YK Nk xv.symm (by omega);apply ws;obtain⟨n,hn⟩:∃n,(cy Bp (l.drop at_)).1=n:=⟨_,rfl⟩;have afh:n<=l.length-at_:=by rw[<-hn,<-xv];exact vL _
  have adr:0<n:=by
   rw[<-hn];cases hd:l.drop at_ with
   |nil=>exact aT hd kJ
   |cons x l'=>exact D7 x l'
  rw[hn];have e6:aa.wrap ((at_:Int)+(n:Int))=((at_+n:Nat):Int):=by rw[aX (by omega)];omega
  rw[e6];apply EC (by omega) (by omega);have ea:zi (some ⟨r,0,none⟩) l.length at_ 1=some ⟨r,at_,none⟩:=by unfold zi;rw[ag (by omega)];show some (Addr.add ⟨r,0,none⟩ (at_* 1))=_;rw[ia,aB,mF]
  rw[ea,Nat.add_sub_cancel_left];obtain⟨fuel,rfl⟩:∃m,fuel=m+1:=⟨fuel-1,by omega⟩;have gS:=CT (f:=ba.rI) (lk:=Bp) (n:=fuel) (s:=b') kJ;have hdd:(l.drop at_).drop n=l.drop (at_+n):=jX;have HL:(done++bw (l.length-at_) (0:Int)).length=l.length:=by rw[av,kV];omega
  have GA:(done++bw (l.length-at_) (0:Int)).drop (at_+n)=bw (l.length-(at_+n)) 0:=by
   rw[List.drop_append,gG (by omega),cQ,List.drop_replicate];congr 1;omega
  have tj:(done++bw (l.length-at_) (0:Int)).take at_=done:=by rw[<-Bu,Dv]
  apply dz<;>intro g2
  ·have g2:(cy Bp (l.drop at_)).2=false:=by simpa using g2
   have Nn:n=l.length-at_:=by rw[<-hn,yA g2,xv]
   have e7:aa.wrap ((n:Int) -1)=((n-1:Nat):Int):=by rw[aX (by omega)];omega
   rw[e7];refine Kj (r:=r) (N:=l.length) (C:=l.length) (o:=at_) (n:=n) (by rw[HL];omega) (by omega) (by omega) ?_;apply ws;rw[tj,GA];refine λw3 h3=>⟨⟨at_+n,fuel,b',fF,done++ln n (some (n-1,2)),by omega,by rw[av,lg];omega,by omega,?_,Nw,by omega,rfl,h3⟩,dn (by omega)⟩;rw[ai g2,hn] at gS;rw[pT,gS,show l.drop (at_+n)=[] from gG (by omega),xh];simp
  ·have g2:(cy Bp (l.drop at_)).2=true:=by simpa using g2
   rw[ag (by rw[g2];decide),hn,hdd] at gS;apply EC (by omega) (by omega);rw[Nat.add_sub_cancel_left];have Es:((l.drop at_).take n).length=n:=by rw[aD];omega
   have hr3:=Nk.take (i:=n);refine aa9 (p:=p) G (l:=(l.drop at_).take n) (o:=at_) hr3 Es.symm (λx hx=>iz x (List.mem_of_mem_drop (List.mem_of_mem_take hx))) Nw (by omega) (by rw[HL];omega) (by omega) (λvU b3 hd hP3 WI=>?_) (λe b3 hd he=>?_)
   ·apply ws;rw[Es] at WI;rw[hd] at gS;refine λw3 h3=>⟨⟨at_+n,fuel,b3,vU,done++ln n none,by omega,by rw[av,lg];omega,by omega,?_,hP3,by omega,rfl,?_⟩,dn (by omega)⟩
    ·rw[pT,gS];simp
    ·have e8:done++bw (l.length-at_) (0:Int)=done++ln n none++bw (l.length-(at_+n)) 0:=by
      rw[aH];congr 1;show _=bw n 0++_;rw[List.replicate_append_replicate];congr 1;omega
     rw[<-e8];exact h3
   ·apply ws;rw[Es];rw[hd] at gS;rw[tj,GA];refine λw3 h3=>⟨⟨at_+n,fuel,b',fF,done++ln n (some e),by omega,by rw[av,lg];omega,by omega,?_,Nw,by omega,rfl,h3⟩,dn (by omega)⟩;rw[pT,gS];simp
 ·have iZ:at_=l.length:=by omega
  subst iZ;rw[List.drop_length,xh] at pT;simp only[bR] at pT;rw[pT] at h;have:=h r fF (by omega) Nw Bu;rw[kR,List.replicate_zero,bR];apply ws;exact this
end
end Go.Up
namespace Go.Prog
open Go.Den Go.Up Go.Md
def va(p:OA)(now:Int)(K:VK):WK:=λw=>∃(W:World)(L:List Sep.HP)(a:Nat)(b:Up.ba)(m:aA)(hs:List C),
 p=ah a/\Sep.St W w (cL a (b,hs)::L)/\pK b m/\Md.bW m/\hs.length<=100000/\
 ∀(n:Int)(b':Up.ba)(fF:List C)(w':World),pK b' (m.time now)->Md.bW (m.time now)->fF.length<=200000->Sep.St W w' (cL a (b',fF)::L)->K (.i n) w'
def va.u:WP:=λargs K=>match args with|[.pointer p,.int .i64 n]=>va p n K|_=>no
end Go.Prog
namespace Go.Prog
open Go.Den
def jt(c:LV)(K:VK):WK:=mk c λa=>lI (ad a 0) λd=>br (decide (d>=1)) (lI (ad a 0) λe=>K (.b (decide (e<=3)))) (K (.b false))
def dX.j1(K:VK)(a:Bool):WK:=K (.b a)
def dX.j2(K:VK)(a:Bool):WK:=K (.b a)
def dX(c:LV)(K:VK):WK:=mk c λa=>lI (ad a 0) λd=>br (d==1) (lL (ad a 1) λm e n=>br (decide ((e:Int)>0)) (lL (ad a 1) λo f p=>dX.j1 K (decide ((f:Int)<9))) (dX.j1 K false)) (lI (ad a 0) λg=>br (g==2) (lL (ad a 2) λq h r=>br (decide ((h:Int)>0)) (lL (ad a 2) λs i t=>dX.j2 K (decide ((i:Int)<9))) (dX.j2 K false)) (lI (ad a 0) λj=>br (j==3) (lI (ad a 3) λk=>br (decide (k>=0)) (lI (ad a 3) λl=>K (.b (decide (l<=1099511627776)))) (K (.b false))) (K (.b false))))
def bn.j2(K:VK)(a:Bool):WK:=K (.b a)
def bn.j6(K:VK)(a:Nat)(c:Bool):WK:=br c (lT (ad a 4) λd=>br d (K (.b true)) (lT (ad a 5) λe=>K (.b e))) (K (.b false))
def bn.j5(K:VK)(a:Nat)(b:Bool):WK:=br b (lI (ad a 7) λc=>bn.j6 K a (decide (c<17))) (bn.j6 K a false)
def bn.j4(K:VK)(a:Nat)(b:Bool):WK:=br b (lI (ad a 7) λc=>bn.j5 K a (decide (c>0))) (bn.j5 K a false)
def bn.j3(K:VK)(a:Nat)(b:Bool):WK:=br b (lI (ad a 3) λc=>bn.j4 K a (decide (c>=0))) (bn.j4 K a false)
def bn.j1(K:VK)(a:Nat)(c:Bool):WK:=br c (lL (ad a 4) λi d j=>br (decide ((d:Int)>0)) (lL (ad a 4) λk e l=>bn.j2 K (decide ((e:Int)<17))) (bn.j2 K false)) (aJ (ad a 5) 8 λf=>mk Fa λb=>bK 8 (ad b 0) f (lI (ad a 0) λg=>br (g==6) (lI (ad b 2) λh=>bn.j3 K b (decide (h>=0))) (bn.j3 K b false)))
def bn(b:LV)(K:VK):WK:=mk b λa=>lI (ad a 0) λc=>br (c==4) (bn.j1 K a true) (lI (ad a 0) λd=>bn.j1 K a (d==5))
def dc.j3(K:VK)(a:Nat)(c:Bool):WK:=br c (lI (ad a 12) λd=>br (decide (d>=0)) (lI (ad a 12) λe=>K (.b (decide (e<65536)))) (K (.b false))) (K (.b false))
def dc.j2(K:VK)(a:Nat)(b:Bool):WK:=br b (lI (ad a 11) λc=>dc.j3 K a (decide (c<65536))) (dc.j3 K a false)
def dc.j1(K:VK)(a:Nat)(b:Bool):WK:=br b (lI (ad a 11) λc=>dc.j2 K a (decide (c>=0))) (dc.j2 K a false)
def dc(b:LV)(K:VK):WK:=mk b λa=>lI (ad a 10) λc=>br (decide (c>=0)) (lI (ad a 10) λd=>dc.j1 K a (decide (d<4294967296))) (dc.j1 K a false)
def cb.j5(K:VK)(a:Nat)(c:Bool):WK:=br c (lI (ad a 13) λd=>br (decide (d>=0)) (lI (ad a 13) λe=>K (.b (decide (e<65536)))) (K (.b false))) (K (.b false))
def cb.j4(K:VK)(a:Nat)(b:Bool):WK:=br b (lI (ad a 12) λc=>cb.j5 K a (decide (c<65536))) (cb.j5 K a false)
def cb.j3(K:VK)(a:Nat)(b:Bool):WK:=br b (lI (ad a 12) λc=>cb.j4 K a (decide (c>=0))) (cb.j4 K a false)
def cb.j2(K:VK)(a:Nat)(b:Bool):WK:=br b (lI (ad a 11) λc=>cb.j3 K a (decide (c<4294967296))) (cb.j3 K a false)
def cb.j1(K:VK)(a:Nat)(b:Bool):WK:=br b (lI (ad a 11) λc=>cb.j2 K a (decide (c>=0))) (cb.j2 K a false)
def cb(b:LV)(K:VK):WK:=mk b λa=>lI (ad a 10) λc=>br (decide (c>=0)) (lI (ad a 10) λd=>cb.j1 K a (decide (d<4294967296))) (cb.j1 K a false)
def gT.j1(K:VK)(w:Nat)(D:Bool):WK:=br D (K (.b false)) (lL (ad w 1) λE x F=>(lp [.p (some (ad w 0)),.b false,.l E x F,.i (x:Int),.i 0] λu y=>∀a e f g o h c s,u [.p (some a),.b e,.l f g o,.i h,.i c] s->(br (decide (c<h)) (iW f g c 14 λG=>aJ G 14 λH=>mk eG λz=>bK 14 (ad z 0) H (lI a λI=>br (I==1) (aJ (ad z 0) 14 λJ=>dc J (xB λM=>br (!M) (K (.b false)) ((ct u y [.p (some a),.b e,.l f g o,.i h,.i (aa.wrap (c+1))] [.p (some a),.b e,.l f g o,.i h,.i c] s)))) ((ct u y [.p (some a),.b e,.l f g o,.i h,.i (aa.wrap (c+1))] [.p (some a),.b e,.l f g o,.i h,.i c] s)))) (lL (a.add 2) λO A P=>(lp [.p (some a),.b e,.l O A P,.i (A:Int),.i 0] λv B=>∀j q k m r n d t,v [.p (some j),.b q,.l k m r,.i n,.i d] t->(br (decide (d<n)) (iW k m d 16 λQ=>aJ Q 16 λR=>mk iL λC=>bK 16 (ad C 0) R (lI j λS=>br (S==2) (aJ (ad C 0) 16 λT=>cb T (xB λV=>br (!V) (K (.b false)) ((ct v B [.p (some j),.b q,.l k m r,.i n,.i (aa.wrap (d+1))] [.p (some j),.b q,.l k m r,.i n,.i d] t)))) ((ct v B [.p (some j),.b q,.l k m r,.i n,.i (aa.wrap (d+1))] [.p (some j),.b q,.l k m r,.i n,.i d] t)))) (K (.b true))) t))) s))
def gT(b:LV)(K:VK):WK:=mk b λa=>aJ (ad a 0) 13 λc=>dX c (xB λd=>br (!d) (aJ (ad a 0) 13 λe=>bn e (xB λf=>gT.j1 K a (!f))) (gT.j1 K a false))
def ik(n:OA)(K:VK):WK:=tick (nn n λm=>lL m λj k o=>nn n λg=>lL (g.add 1) λe f h=>nn n λc=>lI (c.add 2) λa=>nn n λd=>lI (d.add 3) λb=>both (cw True (mk [] λq=>kp (d.add 3) [.i b] (kp (c.add 2) [.i a] (kp (g.add 1) [.l e f h] (kp m [.l j k o] (both (iP 14 112 eG (ah q) 0 0 j k λr s t=>kp (d.add 3) [.i b] (kp (c.add 2) [.i a] (kp (g.add 1) [.l e f h] (cw True (mk [] λu=>kp (d.add 3) [.i b] (kp (c.add 2) [.i a] (kp (g.add 1) [.l e f h] (iP 33 264 cN (ah u) 0 0 e f λv w x=>kp (d.add 3) [.i b] (kp (c.add 2) [.i a] (cw (1=1/\(1=1/\(1=1/\(1=1/\True)))) (mk [.l r s t,.l v w x,.i a,.i b] λy=>kp (d.add 3) [.i b] (kp (c.add 2) [.i a] (K (.p (some (ad y 0)))))))))))))))) (cw True (mk [] λz=>kp (d.add 3) [.i b] (kp (c.add 2) [.i a] (kp (g.add 1) [.l e f h] (kp m [.l j k o] (iP 14 112 eG (ah q) 0 0 j k λA B C=>kp (d.add 3) [.i b] (kp (c.add 2) [.i a] (kp (g.add 1) [.l e f h] (iP 33 264 cN (ah z) 0 0 e f λD E F=>kp (d.add 3) [.i b] (kp (c.add 2) [.i a] (cw (1=1/\(1=1/\(1=1/\(1=1/\True)))) (mk [.l A B C,.l D E F,.i a,.i b] λG=>kp (d.add 3) [.i b] (kp (c.add 2) [.i a] (K (.p (some (ad G 0))))))))))))))))))))))) (cw True (mk [] λH=>kp (d.add 3) [.i b] (kp (c.add 2) [.i a] (kp (g.add 1) [.l e f h] (kp m [.l j k o] (cw True (mk [] λI=>kp (d.add 3) [.i b] (kp (c.add 2) [.i a] (kp (g.add 1) [.l e f h] (kp m [.l j k o] (iP 14 112 eG (ah I) 0 0 j k λJ M O=>kp (d.add 3) [.i b] (kp (c.add 2) [.i a] (kp (g.add 1) [.l e f h] (iP 33 264 cN (ah H) 0 0 e f λP Q R=>kp (d.add 3) [.i b] (kp (c.add 2) [.i a] (cw (1=1/\(1=1/\(1=1/\(1=1/\True)))) (mk [.l J M O,.l P Q R,.i a,.i b] λS=>kp (d.add 3) [.i b] (kp (c.add 2) [.i a] (K (.p (some (ad S 0)))))))))))))))))))))))
def cU.j1(K:VK)(j:OA)(a:Int)(f:LI)(b:OA)(c d:Nat)(e:Int)(g:LM)(h:World)(k:Bool):WK:=br k (nn j λm=>lL (m.add 1) λn o q=>iW n o a 33 λp=>st (p.add 32) (.i 4) ((ct f g [.l b c d,.i e,.i (aa.wrap (a+1))] [.l b c d,.i e,.i a] h))) ((ct f g [.l b c d,.i e,.i (aa.wrap (a+1))] [.l b c d,.i e,.i a] h))
def cU(b:OA)(K:VK):WK:=nn b λn=>lL (n.add 1) λo m p=>(lp [.l o m p,.i (m:Int),.i 0] λh k=>∀c d j e a f,h [.l c d j,.i e,.i a] f->(br (decide (a<e)) (iW c d a 33 λq=>aJ q 33 λr=>mk cN λg=>bK 33 (ad g 0) r (tick (lI (ad g 32) λs=>br (s==1) (lI (ad g 26) λt=>br (decide (t>0)) (lI (ad g 31) λu=>lI (ad g 26) λv=>nn b λw=>lI (w.add 2) λx=>cU.j1 K b a h c d j e k f (decide ((aa.wrap (u+v))<=x))) (cU.j1 K b a h c d j e k f false)) (cU.j1 K b a h c d j e k f false)))) (K (.tuple ⟨[]⟩))) f)
def kP(a:OA)(b:Int)(K:VK):WK:=nn a λc=>lI (c.add 2) λd=>br (decide (b>d)) (br (decide (b<=1099511627776)) (nn a λe=>st (e.add 2) (.i b) (cU a (x0 (K (.tuple ⟨[]⟩))))) (cU a (x0 (K (.tuple ⟨[]⟩))))) (cU a (x0 (K (.tuple ⟨[]⟩))))
def mj(t:OA)(q u:Nat)(K:VK):WK:=(lp [.l none 0 0,.l none 0 0,.l t q u,.i (q:Int),.i 0] λr v=>∀j k m c d e f g n h a o,r [.l j k m,.l c d e,.l f g n,.i h,.i a] o->(br (decide (a<h)) (iW f g a 14 λw=>aJ w 14 λx=>mk eG λs=>bK 14 (ad s 0) x (aJ (ad s 0) 14 λp=>cw (1=1/\(p.length=14/\True)) (cw ((([.b true]:LV)++(p++(iL:LV))).length=31/\True) (mk ((([.b true]:LV)++(p++(iL:LV)))++[]) λy=>iP 31 248 By c d e (ah y) 1 λz A B=>(ct r v [.l j k m,.l z A B,.l f g n,.i h,.i (aa.wrap (a+1))] [.l j k m,.l c d e,.l f g n,.i h,.i a] o))))) (K (.l c d e))) o)
def lE(s:OA)(p t:Nat)(K:VK):WK:=(lp [.l none 0 0,.l none 0 0,.l s p t,.i (p:Int),.i 0] λq u=>∀h j k b c d e f m g a n,q [.l h j k,.l b c d,.l e f m,.i g,.i a] n->(br (decide (a<g)) (iW e f a 16 λv=>aJ v 16 λw=>mk iL λr=>bK 16 (ad r 0) w (aJ (ad r 0) 16 λo=>cw (o.length=16/\True) (cw (((Pf:LV)++(o++[])).length=31/\True) (mk (((Pf:LV)++(o++[]))++[]) λx=>iP 31 248 By b c d (ah x) 1 λy z A=>(ct q u [.l h j k,.l y z A,.l e f m,.i g,.i (aa.wrap (a+1))] [.l h j k,.l b c d,.l e f m,.i g,.i a] n))))) (K (.l b c d))) n)
def nC(c:LV)(K:VK):WK:=mk c λa=>lT (ad a 0) λd=>br d (lI (ad a 13) λe=>cw ((2:Int)≠0) (K (.b ((e.tmod (2:Int))!=0)))) (lI (ad a 28) λf=>cw ((2:Int)≠0) (K (.b ((f.tmod (2:Int))!=0))))
def fX(c:LV)(a:Int)(K:VK):WK:=mk c λb=>br (decide (a>=64)) (lU (ad b 0) λd=>cw ((0:Int)<=(IntKind.u64.wrap (aa.wrap (a-64)))) (cw ((2:Int)≠0) (K (.i (aa.wrap ((shr .u64 d (IntKind.u64.wrap (aa.wrap (a-64)))).tmod (2:Int))))))) (lU (ad b 1) λe=>cw ((0:Int)<=(IntKind.u64.wrap a)) (cw ((2:Int)≠0) (K (.i (aa.wrap ((shr .u64 e (IntKind.u64.wrap a)).tmod (2:Int)))))))
def kB(I:LV)(K:VK):WK:=mk I λJ=>cw (1=1/\True) (mk [.i 0] λM=>(lp [.p (some (ad J 0)),.s .empty,.l (ah M) 1 1,.i 127] λy D=>∀g h j a k d t,y [.p (some g),.s h,.l j a k,.i d] t->(br (decide (d>=0)) (aJ g 2 λO=>fX O d (xI .i64 λP=>(lp [.p (some g),.s h,.l j a k,.i d,.i P,.i (aa.wrap ((a:Int) -1))] λE Q=>∀m n b c u o e f z,E [.p (some m),.s n,.l b c u,.i o,.i e,.i f] z->(br (decide (f>=0)) (iW b c f 1 λR=>lI R λF=>cw ((10:Int)≠0) (iW b c f 1 λS=>st S (.i ((aa.wrap ((aa.wrap (2* F))+e)).tmod (10:Int))) (cw ((10:Int)≠0) ((ct E Q [.p (some m),.s n,.l b c u,.i o,.i (aa.wrap ((aa.wrap ((aa.wrap (2* F))+e)).tdiv (10:Int))),.i (aa.wrap (f-1))] [.p (some m),.s n,.l b c u,.i o,.i e,.i f] z))))) (br (decide (e>0)) (cw (1=1/\True) (mk [.i e] λT=>iP 1 8 [.i 0] (ah T) 1 1 b c λV W X=>(ct y D [.p (some m),.s n,.l V W X,.i (aa.wrap (o-1))] [.p (some g),.s h,.l j a k,.i d] t))) ((ct y D [.p (some m),.s n,.l b c u,.i (aa.wrap (o-1))] [.p (some g),.s h,.l j a k,.i d] t)))) z))) ((lp [.s h,.s .empty,.l j a k,.i (a:Int),.i 0] λG Y=>∀A q v w B x r C,G [.s A,.s q,.l v w B,.i x,.i r] C->(br (decide (r<x)) (iW v w r 1 λZ=>lI Z λn9=>cw (1=1/\True) (mk [.int .u8 (IntKind.u8.wrap (aa.wrap (48+n9)))] λr4=>VQ (ah r4) 1 λH=>cw (((q.size+H.size:Nat):Int)<=9223372036854775807) ((ct G Y [.s A,.s (q++H),.l v w B,.i x,.i (aa.wrap (r+1))] [.s A,.s q,.l v w B,.i x,.i r] C)))) (K (.s q))) C))) t))
def np(c a:Int)(K:VK):WK:=cw (a≠0) (cw ((2:Int)≠0) (K (.b (((aa.wrap (c.tdiv a)).tmod (2:Int))==1))))
def bB.j4(K:VK)(a:Nat)(b:Bool):WK:=br b (K (.i 8)) (lI (ad a 11) λc=>br (decide (c<=0)) (K (.i 9)) (lI (ad a 11) λd=>br (decide (d>=65536)) (K (.i 9)) (K (.i 0))))
def bB.j3(K:VK)(a:Nat)(b:Bool):WK:=br b (K (.i 7)) (lI (ad a 10) λc=>br (decide (c<=0)) (bB.j4 K a true) (lI (ad a 10) λd=>bB.j4 K a (decide (d>=4294967296))))
def bB.j6(K:VK)(a b:Nat)(c:Bool):WK:=br c (bB.j3 K a true) (aJ (ad a 8) 2 λd=>aJ (ad b 0) 2 λe=>sm [.u 0,.u 0] d e λf=>br (!f) (bB.j3 K a true) (lI (ad a 13) λg=>bB.j3 K a (g !=0)))
def bB.j5(K:VK)(a b:Nat)(c:Bool):WK:=br c (bB.j6 K a b true) (aJ (ad a 6) 2 λd=>aJ (ad b 0) 2 λe=>sm [.u 0,.u 0] d e λf=>bB.j6 K a b (!f))
def bB.j2(K:VK)(a b:Nat)(c:Bool):WK:=br c (K (.i 6)) (aJ (ad a 2) 2 λd=>aJ (ad b 0) 2 λe=>sm [.u 0,.u 0] d e λf=>br (!f) (bB.j5 K a b true) (aJ (ad a 4) 2 λg=>aJ (ad b 0) 2 λh=>sm [.u 0,.u 0] g h λj=>bB.j5 K a b (!j)))
def bB.j1(K:VK)(a b:Nat)(c:Bool):WK:=br c (K (.i 3)) (aJ (ad a 0) 2 λd=>aJ (ad b 0) 2 λe=>sm [.u 0,.u 0] d e λf=>br f (K (.i 4)) (aJ (ad a 0) 2 λg=>kB g (xS λh=>br (nG h (⟨#[51,52,48,50,56,50,51,54,54,57,50,48,57,51,56,52,54,51,52,54,51,51,55,52,54,48,55,52,51,49,55,54,56,50,49,49,52,53,53]⟩:BA)) (K (.i 5)) (lI (ad a 12) λj=>np j 2 (xB λk=>br k (lI (ad a 12) λl=>np l 4 (xB λm=>bB.j2 K a b m)) (bB.j2 K a b false))))))
def bB(c:LV)(K:VK):WK:=mk c λa=>cw True (mk [.u 0,.u 0] λb=>cw (2=2) (jY (ad b 0) [.u 0,.u 0] (lI (ad a 12) λd=>br (decide (d<0)) (bB.j1 K a b true) (lI (ad a 12) λe=>bB.j1 K a b (decide (e>7))))))
def fx(n:OA)(o:LV)(K:VK):WK:=mk o λq=>nn n λr=>lL r λs j t=>(lp [.p (some (ad q 0)),.i 0,.l s j t,.i (j:Int),.i 0] λk v=>∀b f c d g e a h,k [.p (some b),.i f,.l c d g,.i e,.i a] h->(br (decide (a<e)) (iW c d a 14 λw=>aJ w 14 λx=>mk eG λm=>bK 14 (ad m 0) x (aJ (ad m 0) 2 λy=>aJ b 2 λz=>sm [.u 0,.u 0] y z λA=>br A (K (.i a)) ((ct k v [.p (some b),.i f,.l c d g,.i e,.i (aa.wrap (a+1))] [.p (some b),.i f,.l c d g,.i e,.i a] h)))) (K (.i (-1)))) h)
def ie.j1(K:VK)(a b:Nat)(c:Bool):WK:=br c (lI (ad a 12) λd=>cw ((2:Int)≠0) (cw ((4:Int)≠0) (lI (ad b 12) λe=>cw ((2:Int)≠0) (cw ((4:Int)≠0) (br (((aa.wrap (d.tdiv (2:Int))).tmod (4:Int))==((aa.wrap (e.tdiv (2:Int))).tmod (4:Int))) (K (.i 10)) (K (.i 11))))))) (K (.i 11))
def ie(c d:LV)(K:VK):WK:=mk c λa=>mk d λb=>lI (ad a 10) λe=>lI (ad b 10) λf=>br (e==f) (lI (ad a 11) λg=>lI (ad b 11) λh=>ie.j1 K a b (g==h)) (ie.j1 K a b false)
def kQ(a:OA)(n:LV)(K:VK):WK:=mk n λb=>aJ (ad b 0) 14 λo=>bB o (xI .i64 λc=>br (c !=0) (K (.i c)) (aJ (ad b 0) 2 λp=>fx a p (xI .i64 λd=>br (decide (d>=0)) (tick (aJ (ad b 0) 14 λq=>nn a λe=>lL e λf g r=>iW f g d 14 λs=>aJ s 14 λt=>ie q t (xI .i64 λu=>kp e [.l f g r] (K (.i u))))) (nn a λv=>lL v λJ w M=>br (decide ((w:Int)>=32)) (K (.i 35)) (nn a λx=>lI (x.add 3) λy=>nn a λz=>st (z.add 3) (.i (aa.wrap (y+1))) (nn a λA=>lI (A.add 3) λB=>st (ad b 13) (.i B) (lI (ad b 12) λC=>cw ((2:Int)≠0) (st (ad b 12) (.i (aa.wrap ((aa.wrap (C.tdiv (2:Int)))* 2))) (tick (nn a λh=>lL h λj k m=>aJ (ad b 0) 14 λD=>KZ 14 D λE=>kp h [.l j k m] (iP 14 112 eG j k m (ah E) 1 λF G H=>nn a λI=>st I (.l F G H) (K (.i 0)))))))))))))
def bZ(c:LV)(a:Int)(K:VK):WK:=mk c λd=>lI (ad d 13) λe=>cw (a≠0) (cw ((2:Int)≠0) (K (.b (((aa.wrap (e.tdiv a)).tmod (2:Int))==1))))
def gU(c:LV)(K:VK):WK:=mk c λa=>aJ (ad a 0) 16 λd=>bZ d 4 (xB λe=>br e (K (.b true)) (aJ (ad a 0) 16 λf=>bZ f 8 (xB λg=>K (.b g))))
def bS.j2(K:VK)(a:Nat)(c:Bool):WK:=br c (K (.b false)) (lI (ad a 13) λd=>br (decide (d<64)) (K (.b true)) (aJ (ad a 0) 16 λe=>bZ e 2 (xB λf=>K (.b f))))
def bS.j1(K:VK)(a:Nat)(c:Bool):WK:=br c (K (.b false)) (aJ (ad a 0) 16 λd=>gU d (xB λe=>br e (lI (ad a 13) λf=>bS.j2 K a (decide (f>=16))) (bS.j2 K a false)))
def bS.j4(K:VK)(a:Nat)(b:Bool):WK:=br b (bS.j1 K a true) (aJ (ad a 0) 16 λc=>bZ c 4 (xB λd=>br d (aJ (ad a 0) 16 λe=>bZ e 8 (xB λf=>bS.j1 K a f)) (bS.j1 K a false)))
def bS.j3(K:VK)(a:Nat)(b:Bool):WK:=br b (bS.j4 K a true) (aJ (ad a 0) 16 λc=>bZ c 2 (xB λd=>br d (aJ (ad a 0) 16 λe=>bZ e 8 (xB λf=>bS.j4 K a f)) (bS.j4 K a false)))
def bS(b:LV)(K:VK):WK:=mk b λa=>aJ (ad a 0) 16 λc=>bZ c 2 (xB λd=>br d (aJ (ad a 0) 16 λe=>bZ e 4 (xB λf=>bS.j3 K a f)) (bS.j3 K a false))
def aZ.j5(K:VK)(a:Nat)(b:Int)(c:Bool):WK:=br c (K (.i 8)) (lI (ad a 12) λd=>br (decide (d<b)) (K (.i 9)) (lI (ad a 12) λe=>br (decide (e>=65536)) (K (.i 9)) (K (.i 0))))
def aZ.j4(K:VK)(a:Nat)(b:Int):WK:=lI (ad a 11) λc=>br (decide (c<b)) (aZ.j5 K a b true) (lI (ad a 11) λd=>aZ.j5 K a b (decide (d>=4294967296)))
def aZ.j3(K:VK)(a b:Nat)(c:Bool):WK:=br c (K (.i 17)) (aJ (ad a 0) 16 λd=>gU d (xB λe=>br e (aJ (ad a 8) 2 λf=>aJ (ad b 0) 2 λg=>sm [.u 0,.u 0] f g λh=>br h (K (.i 16)) (aZ.j4 K a 0)) (aJ (ad a 2) 2 λj=>aJ (ad b 0) 2 λk=>sm [.u 0,.u 0] j k λl=>br l (K (.i 12)) (aJ (ad a 4) 2 λm=>aJ (ad b 0) 2 λn=>sm [.u 0,.u 0] m n λo=>br o (K (.i 13)) (aJ (ad a 2) 2 λp=>aJ (ad a 4) 2 λq=>sm [.u 0,.u 0] p q λr=>br r (K (.i 14)) (aJ (ad a 8) 2 λs=>aJ (ad b 0) 2 λt=>sm [.u 0,.u 0] s t λv=>br (!v) (K (.i 15)) (aJ (ad a 6) 2 λw=>aJ (ad b 0) 2 λx=>sm [.u 0,.u 0] w x λy=>br y (aJ (ad a 0) 16 λz=>bZ z 16 (xB λA=>br (!A) (aJ (ad a 0) 16 λB=>bZ B 32 (xB λC=>br (!C) (K (.i 18)) (aZ.j4 K a 1))) (aZ.j4 K a 1))) (aZ.j4 K a 1))))))))
def aZ.j6(K:VK)(a b:Nat)(c:Bool):WK:=br c (aZ.j3 K a b true) (lI (ad a 10) λd=>br (decide (d>0)) (aJ (ad a 0) 16 λe=>bZ e 2 (xB λf=>aZ.j3 K a b (!f))) (aZ.j3 K a b false))
def aZ.j2(K:VK)(a b:Nat)(c:Bool):WK:=br c (K (.i 7)) (lI (ad a 10) λd=>br (decide (d<0)) (aZ.j6 K a b true) (lI (ad a 10) λe=>aZ.j6 K a b (decide (e>1073741824))))
def aZ.j1(K:VK)(a b:Nat)(c:Bool):WK:=br c (K (.i 3)) (aJ (ad a 0) 2 λd=>aJ (ad b 0) 2 λe=>sm [.u 0,.u 0] d e λf=>br f (K (.i 4)) (aJ (ad a 0) 2 λg=>kB g (xS λh=>br (nG h (⟨#[51,52,48,50,56,50,51,54,54,57,50,48,57,51,56,52,54,51,52,54,51,51,55,52,54,48,55,52,51,49,55,54,56,50,49,49,52,53,53]⟩:BA)) (K (.i 5)) (aJ (ad a 0) 16 λj=>bS j (xB λk=>br (!k) (K (.i 6)) (lI (ad a 14) λl=>br (l !=0) (aZ.j2 K a b true) (lI (ad a 15) λm=>aZ.j2 K a b (m !=0))))))))
def aZ(c:LV)(K:VK):WK:=mk c λa=>cw True (mk [.u 0,.u 0] λb=>cw (2=2) (jY (ad b 0) [.u 0,.u 0] (lI (ad a 13) λd=>br (decide (d<0)) (aZ.j1 K a b true) (lI (ad a 13) λe=>aZ.j1 K a b (decide (e>255))))))
def ig(n:OA)(o:LV)(K:VK):WK:=mk o λq=>nn n λr=>lL (r.add 1) λs j t=>(lp [.p (some (ad q 0)),.i 0,.l s j t,.i (j:Int),.i 0] λk v=>∀b f c d g e a h,k [.p (some b),.i f,.l c d g,.i e,.i a] h->(br (decide (a<e)) (iW c d a 33 λw=>aJ w 33 λx=>mk cN λm=>bK 33 (ad m 0) x (aJ (ad m 16) 2 λy=>aJ b 2 λz=>sm [.u 0,.u 0] y z λA=>br A (K (.i a)) ((ct k v [.p (some b),.i f,.l c d g,.i e,.i (aa.wrap (a+1))] [.p (some b),.i f,.l c d g,.i e,.i a] h)))) (K (.i (-1)))) h)
def lQ(c d:LV)(K:VK):WK:=mk c λa=>mk d λb=>lI (ad a 13) λe=>cw ((2:Int)≠0) (st (ad a 13) (.i (aa.wrap (e.tdiv (2:Int)))) (lI (ad b 13) λf=>cw ((2:Int)≠0) (st (ad b 13) (.i (aa.wrap (f.tdiv (2:Int)))) (aJ (ad a 0) 16 λg=>aJ (ad b 0) 16 λh=>sm iL g h λj=>br j (K (.i 10)) (K (.i 11))))))
def jd(k l:LV)(K:VK):WK:=mk k λm=>mk l λn=>(lp [.p (some (ad m 0)),.p (some (ad n 0)),.b false,.i 127] λg o=>∀d c e a f,g [.p (some d),.p (some c),.b e,.i a] f->(br (decide (a>=0)) (tick (aJ d 2 λq=>aJ c 2 λh=>fX q a (xI .i64 λr=>kp c h (fX h a (xI .i64 λs=>br (r !=s) (tick (aJ d 2 λt=>aJ c 2 λj=>fX t a (xI .i64 λu=>kp c j (fX j a (xI .i64 λv=>K (.b (decide (u<v)))))))) ((ct g o [.p (some d),.p (some c),.b e,.i (aa.wrap (a-1))] [.p (some d),.p (some c),.b e,.i a] f))))))) (K (.b false))) f)
def dE.j1(K:VK)(a:Nat)(c d e:Int)(f:Bool):WK:=br f (cw True (cw (2=2) (jY (ad a 0) [.u 0,.u 0] (aJ (ad a 0) 2 λg=>K (.tuple ⟨[.agg ⟨g⟩,.b false]⟩))))) (cw (1=1/\(1=1/\True)) (cw (2=2) (jY (ad a 0) [.u e,.u (IntKind.u64.wrap (c+d))] (aJ (ad a 0) 2 λh=>K (.tuple ⟨[.agg ⟨h⟩,.b true]⟩)))))
def dE(i j:LV)(K:VK):WK:=mk i λc=>mk j λg=>mk [.u 0,.u 0] λf=>lU (ad c 1) λd=>lU (ad g 1) λe=>lU (ad c 0) λa=>lU (ad g 0) λb=>lU (ad c 0) λh=>lU (ad c 1) λk=>br (decide ((IntKind.u64.wrap (d+e))<k)) (br (decide ((IntKind.u64.wrap (a+b))<h)) (dE.j1 K f d e (IntKind.u64.wrap ((IntKind.u64.wrap (a+b))+1)) true) (dE.j1 K f d e (IntKind.u64.wrap ((IntKind.u64.wrap (a+b))+1)) ((IntKind.u64.wrap ((IntKind.u64.wrap (a+b))+1))==0))) (dE.j1 K f d e (IntKind.u64.wrap (a+b)) (decide ((IntKind.u64.wrap (a+b))<h)))
def jK(c d:LV)(K:VK):WK:=mk c λe=>mk d λf=>mk [.u 0,.u 0] λa=>aJ (ad e 0) 2 λg=>aJ (ad f 0) 2 λh=>dE g h (x2 λi j=>(xA 2 λk=>(xB λn=>mk [.u 0,.u 0] λb=>bK 2 (ad b 0) k (aJ (ad b 0) 2 λl=>bK 2 (ad a 0) l (aJ (ad a 0) 2 λm=>K (.agg ⟨m⟩)))) j) i)
def au.Ol(K:VK)(a:Addr)(h:LI)(b:Addr)(c:OA)(d e:Nat)(f g:Int)(j:LM)(k:World)(m:Bool):WK:=br m (lI (a.add 12) λn=>cw ((8:Int)≠0) (st (a.add 12) (.i (aa.wrap ((n.tmod (8:Int))+8))) ((ct h j [.p (some b),.p (some a),.l c d e,.i f,.i (aa.wrap (g+1))] [.p (some b),.p (some a),.l c d e,.i f,.i g] k)))) ((ct h j [.p (some b),.p (some a),.l c d e,.i f,.i (aa.wrap (g+1))] [.p (some b),.p (some a),.l c d e,.i f,.i g] k))
def au.Ep(K:VK)(k:Nat)(a:Addr)(b:LI)(c:Addr)(d:OA)(e f:Nat)(g h:Int)(i:LM)(j:World)(l:Bool):WK:=br l (lI (ad k 32) λm=>br (m==1) (au.Ol K a b c d e f g h i j true) (lI (ad k 32) λn=>au.Ol K a b c d e f g h i j (n==2))) (au.Ol K a b c d e f g h i j false)
def au.Qi(K:VK)(b:Nat)(a:Addr)(c:LI)(d:Addr)(e:OA)(f g:Nat)(h i:Int)(j:LM)(k:World)(l:Nat)(m:Bool):WK:=br m (au.Ep K b a c d e f g h i j k true) (aJ (ad l 0) 16 λn=>bZ n 128 (xB λo=>br o (aJ (ad l 4) 2 λp=>aJ a 2 λq=>sm [.u 0,.u 0] p q λr=>au.Ep K b a c d e f g h i j k r) (au.Ep K b a c d e f g h i j k false)))
def au.j9(K:VK)(a:Nat)(b:Addr)(c:Nat)(d:LI)(e:Addr)(f:OA)(g h:Nat)(i j:Int)(k:LM)(l:World):WK:=aJ (ad a 0) 16 λm=>bZ m 64 (xB λn=>br n (aJ (ad a 2) 2 λo=>aJ b 2 λp=>sm [.u 0,.u 0] o p λq=>au.Qi K c b d e f g h i j k l a q) (au.Qi K c b d e f g h i j k l a false))
def au.j8(K:VK)(a:Addr)(b c:Nat)(d:LI)(e:Addr)(f:OA)(g h:Nat)(i j:Int)(k:LM)(l:World)(m:Bool):WK:=br m (aJ (a.add 6) 2 λn=>aJ (ad b 6) 2 λo=>jK n o (xA 2 λp=>bK 2 (a.add 6) p (au.j9 K b a c d e f g h i j k l))) (au.j9 K b a c d e f g h i j k l)
def au.j7(K:VK)(a b:Nat)(c:Addr)(d:LI)(e:Addr)(f:OA)(g h:Nat)(i j:Int)(k:LM)(l:World):WK:=lI (ad a 32) λm=>br (m==1) (aJ (ad b 4) 2 λn=>aJ c 2 λo=>sm [.u 0,.u 0] n o λp=>au.j8 K c b a d e f g h i j k l p) (au.j8 K c b a d e f g h i j k l false)
def au.j6(K:VK)(a:Addr)(b c:Nat)(d:LI)(e:Addr)(f:OA)(g h:Nat)(i j:Int)(k:LM)(l:World)(m:Bool):WK:=br m (aJ (a.add 2) 2 λn=>aJ (ad b 6) 2 λo=>jK n o (xA 2 λp=>bK 2 (a.add 2) p (au.j7 K c b a d e f g h i j k l))) (au.j7 K c b a d e f g h i j k l)
def au.j5(K:VK)(a b:Nat)(c:Addr)(d:LI)(e:Addr)(f:OA)(g h:Nat)(i j:Int)(k:LM)(l:World):WK:=lI (ad a 32) λm=>br (m==1) (aJ (ad b 2) 2 λn=>aJ c 2 λo=>sm [.u 0,.u 0] n o λp=>au.j6 K c b a d e f g h i j k l p) (au.j6 K c b a d e f g h i j k l false)
def au.j4(K:VK)(a:Addr)(b c:Nat)(d:LI)(e:Addr)(f:OA)(g h:Nat)(i j:Int)(k:LM)(l:World)(m:Bool):WK:=br m (aJ (a.add 8) 2 λn=>aJ (ad b 6) 2 λo=>jK n o (xA 2 λp=>bK 2 (a.add 8) p (au.j5 K c b a d e f g h i j k l))) (au.j5 K c b a d e f g h i j k l)
def au.j3(K:VK)(m:Bool)(a:Nat)(b:Addr)(c:Nat)(d:LI)(e:Addr)(f:OA)(g h:Nat)(i j:Int)(k:LM)(l:World):WK:=br m (aJ (ad a 4) 2 λn=>aJ b 2 λo=>sm [.u 0,.u 0] n o λp=>au.j4 K b a c d e f g h i j k l p) (au.j4 K b a c d e f g h i j k l false)
def au.j2(K:VK)(a:Addr)(b:Nat)(c:Bool)(d:Nat)(e:LI)(f:Addr)(g:OA)(h i:Nat)(j k:Int)(l:LM)(m:World)(n:Bool):WK:=br n (aJ (a.add 4) 2 λo=>aJ (ad b 6) 2 λp=>jK o p (xA 2 λq=>bK 2 (a.add 4) q (au.j3 K c b a d e f g h i j k l m))) (au.j3 K c b a d e f g h i j k l m)
def au.j1(K:VK)(a:Nat)(b:Addr)(d:Nat)(e:LI)(f:Addr)(g:OA)(h i:Nat)(j k:Int)(l:LM)(m:World)(c:Bool):WK:=br c (aJ (ad a 2) 2 λn=>aJ b 2 λo=>sm [.u 0,.u 0] n o λp=>au.j2 K b a c d e f g h i j k l m p) (au.j2 K b a c d e f g h i j k l m false)
def au(n:OA)(s:Int)(K:VK):WK:=mk eG λt=>nn n λu=>lL u λv w O=>iW v w s 14 λx=>aJ x 14 λy=>mk eG λo=>bK 14 (ad o 0) y (nn n λz=>lL (z.add 1) λA q B=>(lp [.p (some (ad t 0)),.p (some (ad o 0)),.l A q B,.i (q:Int),.i 0] λk r=>∀a d e f m g b h,k [.p (some a),.p (some d),.l e f m,.i g,.i b] h->(br (decide (b<g)) (iW e f b 33 λC=>aJ C 33 λD=>mk cN λj=>bK 33 (ad j 0) D (aJ (ad j 16) 16 λE=>mk iL λc=>bK 16 (ad c 0) E (aJ (ad c 0) 16 λF=>bZ F 2 (xB λG=>br (!G) (aJ (ad c 0) 16 λH=>bZ H 8 (xB λI=>au.j1 K c d j k a e f m g b r h (!I))) (au.j1 K c d j k a e f m g b r h false))))) (aJ d 14 λJ=>bK 14 a J (aJ a 14 λM=>K (.agg ⟨M⟩)))) h))
def gL(d:OA)(e:LV)(f:Int)(K:VK):WK:=mk e λg=>ik d (xP λa=>nn a λh=>lL (h.add 1) λj k q=>iW j k f 33 λl=>st (l.add 32) (.i 3) (aJ (ad g 0) 2 λm=>fx a m (xI .i64 λn=>au a n (xA 14 λo=>(λw=>∃c,o[12]?=some c/\(xI .i64 λp=>K (.b (decide (p>=8)))) c w)))))
def ij(a:OA)(m n:LV)(f:Int)(K:VK):WK:=mk m λe=>mk n λb=>nn a λo=>lI (o.add 3) λp=>nn a λq=>st (q.add 3) (.i (aa.wrap (p+1))) (nn a λr=>lI (r.add 3) λs=>st (ad b 14) (.i s) (nn a λt=>lI (t.add 2) λu=>st (ad b 15) (.i u) (tick (nn a λg=>lL (g.add 1) λh j k=>aJ (ad e 0) 16 λc=>aJ (ad b 0) 16 λd=>cw (c.length=16/\(d.length=16/\(1=1/\True))) (cw ((c++(d++([.i f]:LV))).length=33/\True) (mk ((c++(d++([.i f]:LV)))++[]) λv=>kp (ad b 0) d (kp (ad e 0) c (kp (g.add 1) [.l h j k] (iP 33 264 cN h j k (ah v) 1 λw x y=>kp (ad b 0) d (kp (ad e 0) c (nn a λz=>st (z.add 1) (.l w x y) (K (.tuple ⟨[]⟩)))))))))))))
def az.j6(K:VK)(c b d:Nat)(e:OA):WK:=aJ (ad c 0) 16 λf=>mk iL λa=>bK 16 (ad a 0) f (aJ (ad b 2) 2 λg=>bK 2 (ad a 2) g (aJ (ad b 4) 2 λh=>bK 2 (ad a 4) h (aJ (ad d 0) 2 λj=>bK 2 (ad a 6) j (lI (ad b 11) λk=>st (ad a 11) (.i k) (lI (ad b 12) λl=>st (ad a 12) (.i l) (aJ (ad c 0) 16 λm=>aJ (ad a 0) 16 λn=>ij e m n 0 (x0 (K (.i 0)))))))))
def az.j5(K:VK)(a:OA)(b:Int)(f:Bool)(c d e:Nat)(g:Bool):WK:=br g (K (.i 31)) (nn a λh=>lL (h.add 1) λs j t=>br (decide ((j:Int)>=96)) (K (.i 35)) (nn a λk=>lL (k.add 1) λl m u=>iW l m b 33 λn=>st (n.add 32) (.i 3) (br f (nn a λo=>lL (o.add 1) λp q v=>iW p q b 33 λr=>st (r.add 32) (.i 2) (az.j6 K c d e a)) (az.j6 K c d e a))))
def az.j4(K:VK)(a:Bool)(b:Nat)(c:OA)(d:Int)(e f:Nat)(g:Bool):WK:=br g (K (.i 30)) (br a (aJ (ad b 4) 2 λh=>gL c h d (xB λj=>az.j5 K c d a e b f j)) (az.j5 K c d a e b f false))
def az.j3(K:VK)(a:Bool)(b:Nat)(c:OA)(d:Int)(e f:Nat)(g:Bool):WK:=br g (K (.i 26)) (br a (aJ (ad b 2) 2 λh=>gL c h d (xB λj=>az.j4 K a b c d e f j)) (az.j4 K a b c d e f false))
def az.j7(K:VK)(a:Bool)(b:Nat)(d:OA)(e:Int)(f c:Nat)(g:Bool):WK:=br g (az.j3 K a b d e f c true) (br (!a) (aJ (ad c 0) 2 λh=>aJ (ad b 6) 2 λi=>sm [.u 0,.u 0] h i λj=>az.j3 K a b d e f c (!j)) (az.j3 K a b d e f c false))
def az.j2(K:VK)(a:Bool)(b c:Nat)(d:OA)(e:Int)(f:Nat):WK:=br a (aJ (ad b 6) 2 λg=>aJ (ad c 0) 2 λh=>jd g h (xB λi=>az.j7 K a b d e f c i)) (az.j7 K a b d e f c false)
def az.j1(K:VK)(b:OA)(c:Int)(d g e:Nat)(h:Bool):WK:=br h (K (.i 25)) (nn b λj=>lL (j.add 1) λk l A=>iW k l c 33 λm=>lI (m.add 32) λn=>br (decide (n>1)) (nn b λo=>lL (o.add 1) λp q B=>iW p q c 33 λr=>lI (r.add 32) λs=>K (.i (aa.wrap (25+s)))) (aJ (ad d 0) 16 λt=>bZ t 4 (xB λf=>aJ (ad d 6) 2 λv=>mk [.u 0,.u 0] λa=>bK 2 (ad a 0) v (aJ (ad a 0) 2 λw=>aJ (ad g 0) 2 λx=>sm [.u 0,.u 0] w x λy=>br y (aJ (ad e 6) 2 λz=>bK 2 (ad a 0) z (az.j2 K f e a b c d)) (az.j2 K f e a b c d)))))
def az.Ep(K:VK)(c:OA)(d:Int)(a e b:Nat)(f:Bool):WK:=br f (az.j1 K c d a e b true) (lI (ad a 12) λg=>br (g !=0) (lI (ad a 12) λh=>lI (ad b 12) λi=>az.j1 K c d a e b (h !=i)) (az.j1 K c d a e b false))
def az.j9(K:VK)(c:OA)(d:Int)(a e b:Nat)(f:Bool):WK:=br f (az.Ep K c d a e b true) (lI (ad a 11) λg=>br (g !=0) (lI (ad a 11) λh=>lI (ad b 11) λi=>az.Ep K c d a e b (h !=i)) (az.Ep K c d a e b false))
def az.j8(K:VK)(d:OA)(e:Int)(a b c:Nat)(f:Bool):WK:=br f (az.j9 K d e a b c true) (aJ (ad a 4) 2 λg=>aJ (ad b 0) 2 λh=>sm [.u 0,.u 0] g h λi=>br (!i) (aJ (ad a 4) 2 λj=>aJ (ad c 4) 2 λk=>sm [.u 0,.u 0] j k λl=>az.j9 K d e a b c (!l)) (az.j9 K d e a b c false))
def az(b:OA)(m:LV)(K:VK):WK:=mk m λa=>aJ (ad a 0) 16 λn=>aZ n (xI .i64 λf=>br (f !=0) (K (.i f)) (aJ (ad a 0) 16 λo=>gU o (xB λp=>br (!p) (K (.i 6)) (aJ (ad a 0) 2 λq=>ig b q (xI .i64 λg=>br (decide (g>=0)) (tick (aJ (ad a 0) 16 λr=>nn b λh=>lL (h.add 1) λj k s=>iW j k g 33 λt=>aJ t 16 λv=>lQ r v (xI .i64 λw=>kp (h.add 1) [.l j k s] (K (.i w))))) (aJ (ad a 8) 2 λx=>ig b x (xI .i64 λd=>br (decide (d<0)) (K (.i 23)) (nn b λy=>lL (y.add 1) λz A O=>iW z A d 33 λB=>aJ (B.add 16) 16 λC=>mk iL λc=>bK 16 (ad c 0) C (cw True (mk [.u 0,.u 0] λe=>cw (2=2) (jY (ad e 0) [.u 0,.u 0] (aJ (ad c 0) 16 λD=>bZ D 2 (xB λE=>br (!E) (K (.i 24)) (aJ (ad a 2) 2 λF=>aJ (ad e 0) 2 λG=>sm [.u 0,.u 0] F G λH=>br (!H) (aJ (ad a 2) 2 λI=>aJ (ad c 2) 2 λJ=>sm [.u 0,.u 0] I J λM=>az.j8 K b d a e c (!M)) (az.j8 K b d a e c false)))))))))))))))
def lN(d e:LV)(K:VK):WK:=mk d λb=>mk e λc=>mk [.u 0,.u 0] λa=>aJ (ad b 0) 2 λf=>aJ (ad c 0) 2 λg=>jd f g (xB λh=>br h (aJ (ad b 0) 2 λi=>bK 2 (ad a 0) i (aJ (ad a 0) 2 λj=>K (.agg ⟨j⟩))) (aJ (ad c 0) 2 λk=>bK 2 (ad a 0) k (aJ (ad a 0) 2 λl=>K (.agg ⟨l⟩))))
def oM(K:VK):WK:=mk [.u 0,.u 0] λa=>cw (1=1/\(1=1/\True)) (cw (2=2) (jY (ad a 0) [.u 18446744073709551615,.u 18446744073709551615] (aJ (ad a 0) 2 λb=>K (.agg ⟨b⟩))))
def pJ(d:LV)(a:Int)(K:VK):WK:=mk d λb=>mk [.u 0,.u 0] λc=>br (decide (a>=64)) (lU (ad b 0) λe=>cw ((0:Int)<=(IntKind.u64.wrap (aa.wrap (a-64)))) (lU (ad b 1) λf=>cw (1=1/\(1=1/\True)) (cw (2=2) (jY (ad c 0) [.u (IntKind.u64.wrap (e+(shl .u64 1 (IntKind.u64.wrap (aa.wrap (a-64)))))),.u f] (aJ (ad c 0) 2 λg=>K (.agg ⟨g⟩)))))) (lU (ad b 0) λh=>lU (ad b 1) λi=>cw ((0:Int)<=(IntKind.u64.wrap a)) (cw (1=1/\(1=1/\True)) (cw (2=2) (jY (ad c 0) [.u h,.u (IntKind.u64.wrap (i+(shl .u64 1 (IntKind.u64.wrap a))))] (aJ (ad c 0) 2 λj=>K (.agg ⟨j⟩))))))
def fW.j1(K:VK)(a:Addr)(c:Int)(h:LI)(d e f:Addr)(g:Bool)(j:LM)(k:Int)(l:World)(m n:Int):WK:=br (n==1) (aJ a 2 λo=>pJ o c (xA 2 λq=>bK 2 a q ((ct h j [.p (some d),.p (some e),.p (some f),.b g,.p (some a),.i m,.i (aa.wrap (c+1))] [.p (some d),.p (some e),.p (some f),.b g,.p (some a),.i k,.i c] l)))) ((ct h j [.p (some d),.p (some e),.p (some f),.b g,.p (some a),.i m,.i (aa.wrap (c+1))] [.p (some d),.p (some e),.p (some f),.b g,.p (some a),.i k,.i c] l))
def fW(v w:LV)(K:VK):WK:=mk v λo=>mk w λq=>mk [.u 0,.u 0] λj=>aJ (ad o 0) 2 λx=>aJ (ad q 0) 2 λy=>jd x y (xB λz=>br z (cw True (cw (2=2) (jY (ad j 0) [.u 0,.u 0] (aJ (ad j 0) 2 λA=>K (.tuple ⟨[.agg ⟨A⟩,.b false]⟩))))) (cw True (mk [.u 0,.u 0] λr=>cw (2=2) (jY (ad r 0) [.u 0,.u 0] ((lp [.p (some (ad o 0)),.p (some (ad q 0)),.p (some (ad j 0)),.b false,.p (some (ad r 0)),.i 0,.i 0] λk s=>∀f d e l g a c h,k [.p (some f),.p (some d),.p (some e),.b l,.p (some g),.i a,.i c] h->(br (decide (c<128)) (tick (aJ f 2 λB=>aJ d 2 λt=>fX B c (xI .i64 λm=>kp d t (fX t c (xI .i64 λn=>br (decide ((aa.wrap ((aa.wrap (m-n)) -a))<0)) (fW.j1 K g c k f d e l s a h 1 (aa.wrap ((aa.wrap ((aa.wrap (m-n)) -a))+2))) (fW.j1 K g c k f d e l s a h 0 (aa.wrap ((aa.wrap (m-n)) -a)))))))) (aJ g 2 λC=>bK 2 e C (aJ e 2 λD=>K (.tuple ⟨[.agg ⟨D⟩,.b true]⟩)))) h))))))
def dF.j2(K:VK)(c d a:Nat):WK:=aJ (ad c 0) 2 λe=>aJ (ad d 0) 2 λf=>fW e f (x2 λg h=>(xA 2 λi=>(xB λl=>mk [.u 0,.u 0] λb=>bK 2 (ad b 0) i (aJ (ad b 0) 2 λj=>bK 2 (ad a 0) j (aJ (ad a 0) 2 λk=>K (.agg ⟨k⟩)))) h) g)
def dF.j1(K:VK)(d e b c:Nat):WK:=aJ (ad d 0) 2 λf=>aJ (ad e 0) 2 λg=>dE f g (x2 λh i=>(xA 2 λj=>(xB λk=>mk [.u 0,.u 0] λa=>bK 2 (ad a 0) j (br (!k) (oM (xA 2 λl=>bK 2 (ad a 0) l (dF.j2 K b a c))) (dF.j2 K b a c))) i) h)
def dF(f:LV)(g:Bool)(K:VK):WK:=mk f λa=>mk [.u 0,.u 0] λe=>aJ (ad a 4) 2 λh=>mk [.u 0,.u 0] λb=>bK 2 (ad b 0) h (aJ (ad a 6) 2 λi=>mk [.u 0,.u 0] λc=>bK 2 (ad c 0) i (aJ (ad a 8) 2 λj=>mk [.u 0,.u 0] λd=>bK 2 (ad d 0) j (br g (aJ (ad a 8) 2 λk=>bK 2 (ad b 0) k (aJ (ad a 2) 2 λl=>bK 2 (ad c 0) l (aJ (ad a 4) 2 λm=>bK 2 (ad d 0) m (dF.j1 K c d b e)))) (dF.j1 K c d b e))))
def cm.j4(K:VK)(e:Bool)(c a d b:Nat):WK:=br e (aJ (ad c 0) 2 λf=>bK 2 (ad a 2) f (aJ (ad d 0) 2 λg=>bK 2 (ad a 4) g (aJ (ad a 0) 14 λh=>bK 14 (ad b 0) h (aJ (ad b 0) 14 λj=>K (.tuple ⟨[.agg ⟨j⟩,.i 0]⟩))))) (aJ (ad c 0) 2 λk=>bK 2 (ad a 6) k (aJ (ad d 0) 2 λl=>bK 2 (ad a 8) l (aJ (ad a 0) 14 λm=>bK 14 (ad b 0) m (aJ (ad b 0) 14 λn=>K (.tuple ⟨[.agg ⟨n⟩,.i 0]⟩)))))
def cm.j3(K:VK)(e:Bool)(b a:Nat)(g:Bool)(c f d:Nat)(h:Bool):WK:=br h (br e (aJ (ad b 0) 14 λj=>bK 14 (ad a 0) j (aJ (ad a 0) 14 λk=>K (.tuple ⟨[.agg ⟨k⟩,.i 33]⟩))) (aJ (ad b 0) 14 λl=>bK 14 (ad a 0) l (aJ (ad a 0) 14 λm=>K (.tuple ⟨[.agg ⟨m⟩,.i 34]⟩)))) (br g (aJ (ad c 0) 2 λn=>aJ (ad f 0) 2 λo=>dE n o (x2 λp q=>(xA 2 λr=>(xB λx=>bK 2 (ad c 0) r (cm.j4 K e c b d a)) q) p)) (aJ (ad d 0) 2 λs=>aJ (ad f 0) 2 λt=>dE s t (x2 λu v=>(xA 2 λw=>(xB λy=>bK 2 (ad d 0) w (cm.j4 K e c b d a)) v) u)))
def cm.j2(K:VK)(a b:Nat)(k:Int)(c:Nat)(d f:Bool)(g h:Nat)(l:Bool):WK:=br l (aJ (ad a 0) 14 λm=>bK 14 (ad b 0) m (aJ (ad b 0) 14 λn=>K (.tuple ⟨[.agg ⟨n⟩,.i 32]⟩))) (tick (lI (ad a 12) λe=>br ((dj .i64 .and e k)!=0) (aJ (ad a 0) 14 λo=>aJ (ad c 0) 2 λj=>dF o d (xA 2 λp=>kp (ad c 0) j (kp (ad a 12) [.i e] (jd p j (xB λq=>kp (ad a 12) [.i e] (cm.j3 K d a b f g c h q)))))) (cm.j3 K d a b f g c h false)))
def cm.j1(K:VK)(a b c d e:Nat)(f g:Bool)(h:Int):WK:=aJ (ad a 0) 2 λj=>aJ (ad b 0) 2 λk=>dE j k (x2 λl m=>(xA 2 λn=>(xB λo=>mk [.u 0,.u 0] λi=>bK 2 (ad i 0) n (aJ (ad i 0) 2 λp=>aJ (ad c 0) 2 λq=>dE p q (x2 λr s=>(xA 2 λt=>(xB λv=>mk [.u 0,.u 0] λw=>bK 2 (ad w 0) t (br (!o) (cm.j2 K d e h c f g a b true) (cm.j2 K d e h c f g a b (!v)))) s) r))) m) l)
def cm(h:LV)(d:Bool)(i:LV)(e:Bool)(K:VK):WK:=mk h λa=>mk i λf=>mk eG λg=>aJ (ad a 6) 2 λj=>mk [.u 0,.u 0] λb=>bK 2 (ad b 0) j (aJ (ad a 8) 2 λk=>mk [.u 0,.u 0] λc=>bK 2 (ad c 0) k (br d (aJ (ad a 2) 2 λl=>bK 2 (ad b 0) l (aJ (ad a 4) 2 λm=>bK 2 (ad c 0) m (cm.j1 K b c f a g d e 2))) (cm.j1 K b c f a g d e 4)))
def bY.j3(K:VK)(a h c j:Nat)(e:OA):WK:=aJ (ad a 0) 16 λk=>bZ k 2 (xB λd=>aJ (ad h 0) 14 λl=>aJ (ad c 0) 2 λm=>cm l true m d (x2 λn o=>(xA 14 λz=>(xI .i64 λf=>br (f !=0) (K (.i f)) (aJ (ad j 0) 14 λp=>aJ (ad c 0) 2 λq=>cm p false q d (x2 λr s=>(xA 14 λA=>(xI .i64 λg=>br (g !=0) (K (.i g)) (aJ (ad a 0) 16 λt=>mk iL λb=>bK 16 (ad b 0) t (aJ (ad c 0) 2 λu=>bK 2 (ad b 6) u (br d (aJ (ad a 0) 16 λv=>aJ (ad b 0) 16 λw=>ij e v w 1 (x0 (K (.i 0)))) (aJ (ad a 0) 16 λx=>aJ (ad b 0) 16 λy=>ij e x y 0 (x0 (K (.i 0)))))))) s) r))) o) n))
def bY.j2(K:VK)(b a c g d:Nat)(e:OA):WK:=aJ (ad b 0) 16 λh=>bZ h 32 (xB λj=>br j (tick (aJ (ad a 0) 2 λf=>aJ (ad c 0) 14 λk=>dF k false (xA 2 λl=>kp (ad a 0) f (lN f l (xA 2 λm=>bK 2 (ad a 0) m (aJ (ad a 0) 2 λn=>aJ (ad g 0) 2 λo=>sm [.u 0,.u 0] n o λp=>br p (K (.i 34)) (bY.j3 K b d a c e))))))) (bY.j3 K b d a c e))
def bY.j1(K:VK)(b a c d e:Nat)(f:OA):WK:=aJ (ad b 0) 16 λh=>bZ h 16 (xB λj=>br j (tick (aJ (ad a 0) 2 λg=>aJ (ad c 0) 14 λk=>dF k true (xA 2 λl=>kp (ad a 0) g (lN g l (xA 2 λm=>bK 2 (ad a 0) m (aJ (ad a 0) 2 λn=>aJ (ad d 0) 2 λo=>sm [.u 0,.u 0] n o λp=>br p (K (.i 33)) (bY.j2 K b a e d c f))))))) (bY.j2 K b a e d c f))
def bY(b:OA)(p:LV)(K:VK):WK:=mk p λa=>aJ (ad a 0) 16 λq=>aZ q (xI .i64 λg=>br (g !=0) (K (.i g)) (aJ (ad a 0) 16 λr=>gU r (xB λs=>br s (K (.i 6)) (aJ (ad a 0) 2 λt=>ig b t (xI .i64 λh=>br (decide (h>=0)) (tick (aJ (ad a 0) 16 λv=>nn b λj=>lL (j.add 1) λk m w=>iW k m h 33 λx=>aJ x 16 λy=>lQ v y (xI .i64 λz=>kp (j.add 1) [.l k m w] (K (.i z))))) (aJ (ad a 2) 2 λA=>fx b A (xI .i64 λn=>aJ (ad a 4) 2 λB=>fx b B (xI .i64 λo=>br (decide (n<0)) (K (.i 19)) (br (decide (o<0)) (K (.i 20)) (au b n (xA 14 λC=>mk eG λc=>bK 14 (ad c 0) C (au b o (xA 14 λD=>mk eG λd=>bK 14 (ad d 0) D (lI (ad c 10) λE=>lI (ad d 10) λF=>br (E !=F) (K (.i 21)) (lI (ad c 10) λG=>lI (ad a 11) λH=>br (G !=H) (K (.i 22)) (lI (ad c 12) λI=>br (decide (I>=8)) (K (.i 30)) (lI (ad d 12) λJ=>br (decide (J>=8)) (K (.i 31)) (nn b λM=>lL (M.add 1) λT O V=>br (decide ((O:Int)>=96)) (K (.i 35)) (cw True (mk [.u 0,.u 0] λf=>cw (2=2) (jY (ad f 0) [.u 0,.u 0] (aJ (ad a 6) 2 λP=>mk [.u 0,.u 0] λe=>bK 2 (ad e 0) P (aJ (ad e 0) 2 λQ=>aJ (ad f 0) 2 λR=>sm [.u 0,.u 0] Q R λS=>br S (cw (1=1/\(1=1/\True)) (cw (2=2) (jY (ad e 0) [.u 18446744073709551615,.u 18446744073709551615] (bY.j1 K a e c f d b)))) (bY.j1 K a e c f d b))))))))))))))))))))))))
def jk.j1(K:VK)(a:Nat)(b:OA)(c:Bool):WK:=br c (aJ (ad a 15) 16 λd=>az b d (xI .i64 λe=>K (.i e))) (aJ (ad a 15) 16 λf=>bY b f (xI .i64 λg=>K (.i g)))
def jk(b:OA)(c:LV)(K:VK):WK:=mk c λa=>lT (ad a 0) λd=>br d (aJ (ad a 1) 14 λe=>kQ b e (xI .i64 λf=>K (.i f))) (aJ (ad a 15) 16 λg=>aZ g (xI .i64 λh=>br (h==0) (aJ (ad a 15) 16 λj=>gU j (xB λk=>jk.j1 K a b k)) (jk.j1 K a b false)))
def cz.j3(K:VK)(u:LI)(v:LM)(w x:OA)(y z:Nat)(A B:OA)(C D:Nat)(E:Int)(F:World)(H I:OA)(J M:Nat)(O P:OA)(Q R:Nat)(G S T V:Int)(W:OA):WK:=(lp [.p H,.l I J M,.p O,.l P Q R,.i G,.i S,.i T,.i V,.p W,.i G] λs t=>∀m c d e f g h j q a b n o k r,s [.p m,.l c d e,.p f,.l g h j,.i q,.i a,.i b,.i n,.p o,.i k] r->(br (decide (k<=a)) (br (decide (b<0)) (cw (1=1/\True) (mk [.i 0] λX=>iP 1 8 [.i 0] g h j (ah X) 1 λY Z Rd=>(ct s t [.p m,.l c d e,.p f,.l Y Z Rd,.i q,.i a,.i b,.i n,.p o,.i (aa.wrap (k+1))] [.p m,.l c d e,.p f,.l g h j,.i q,.i a,.i b,.i n,.p o,.i k] r))) (br (k==b) (cw (1=1/\True) (mk [.i n] λr2=>iP 1 8 [.i 0] g h j (ah r2) 1 λae5 ae1 ae3=>(ct s t [.p m,.l c d e,.p f,.l ae5 ae1 ae3,.i q,.i a,.i b,.i n,.p o,.i (aa.wrap (k+1))] [.p m,.l c d e,.p f,.l g h j,.i q,.i a,.i b,.i n,.p o,.i k] r))) (cw (1=1/\True) (mk [.i 1] λr3=>iP 1 8 [.i 0] g h j (ah r3) 1 λae4 ae0 ae2=>(ct s t [.p m,.l c d e,.p f,.l ae4 ae0 ae2,.i q,.i a,.i b,.i n,.p o,.i (aa.wrap (k+1))] [.p m,.l c d e,.p f,.l g h j,.i q,.i a,.i b,.i n,.p o,.i k] r))))) (br (decide (b<0)) ((ct u v [.p o,.l c d e,.p f,.l g h j,.i (aa.wrap (a+1))] [.p w,.l x y z,.p A,.l B C D,.i E] F)) ((ct u v [.p m,.l c d e,.p f,.l g h j,.i (aa.wrap (a+1))] [.p w,.l x y z,.p A,.l B C D,.i E] F)))) r)
def cz.j4(K:VK)(v:OA)(w:Nat)(a:Int)(b:OA)(s:LI)(c d:OA)(e f:Nat)(g h:OA)(j k:Nat)(m n:Int)(t:LM)(o q:Int)(u:World)(x:LI)(y:LM)(z A:OA)(B C:Nat)(D E:OA)(F G:Nat)(H:Int)(I:World)(J:Bool):WK:=br J (iW v w a 31 λM=>aJ M 31 λO=>jk b O (xI .i64 λr=>br (r !=0) ((ct s t [.p c,.l d e f,.p g,.l h j k,.i m,.i n,.i a,.i r,.p b,.i (aa.wrap (a+1))] [.p c,.l d e f,.p g,.l h j k,.i m,.i n,.i o,.i q,.p b,.i a] u)) ((ct s t [.p c,.l d e f,.p g,.l h j k,.i m,.i n,.i o,.i r,.p b,.i (aa.wrap (a+1))] [.p c,.l d e f,.p g,.l h j k,.i m,.i n,.i o,.i q,.p b,.i a] u)))) (cz.j3 K x y z A B C D E F G H I c d e f g h j k m n o q b)
def cz.j2(K:VK)(t M:OA)(O P:Nat)(Q R:OA)(S T:Nat)(u:Int)(v:OA)(w:Nat)(x:LI)(y:LM)(z A:OA)(B C:Nat)(D E:OA)(F G:Nat)(H:Int)(I:World)(V W X:Int):WK:=ik t (xP λY=>(lp [.p t,.l M O P,.p Q,.l R S T,.i u,.i V,.i W,.i X,.p Y,.i u] λe J=>∀f g h j k m n o q a b r s c d,e [.p f,.l g h j,.p k,.l m n o,.i q,.i a,.i b,.i r,.p s,.i c] d->(br (decide (c<=a)) (cz.j4 K v w c s e f g h j k m n o q a J b r d x y z A B C D E F G H I (decide (b<0))) (cz.j4 K v w c s e f g h j k m n o q a J b r d x y z A B C D E F G H I false)) d))
def cz.j1(K:VK)(a:Nat)(b:OA)(c:LI)(d:LM)(e f:OA)(g h:Nat)(i j:OA)(k l:Nat)(m:Int)(n:World)(o p:OA)(q r:Nat)(s t:OA)(u v:Nat)(w x:Int):WK:=br (x==(a:Int)) (cz.j2 K o p q r s t u v w b a c d e f g h i j k l m n (aa.wrap ((a:Int) -1)) (aa.wrap ((a:Int) -1)) 2) (cz.j2 K o p q r s t u v w b a c d e f g h i j k l m n x (-1) 0)
def cz(D y:OA)(c I:Nat)(K:VK):WK:=(lp [.p D,.l none 0 0,.p none,.l none 0 0,.i 0] λz B=>∀d t u v w e f g b x,z [.p d,.l t u v,.p w,.l e f g,.i b] x->(br (decide (b<(c:Int))) ((lp [.p d,.l t u v,.p w,.l e f g,.i b,.i b] λC E=>∀h j k m n o q r s a A,C [.p h,.l j k m,.p n,.l o q r,.i s,.i a] A->(br (decide (a<(c:Int))) (iW y c a 31 λF=>aJ F 31 λG=>nC G (xB λH=>br H ((ct C E [.p h,.l j k m,.p n,.l o q r,.i s,.i (aa.wrap (a+1))] [.p h,.l j k m,.p n,.l o q r,.i s,.i a] A)) (cz.j1 K c y z B d t u v w e f g b x h j k m n o q r s a))) (cz.j1 K c y z B d t u v w e f g b x h j k m n o q r s a)) A)) (K (.tuple ⟨[.l e f g,.p d]⟩))) x)
def jj.j1(K:VK)(a b:OA)(c d:Nat):WK:=cz a b c d (x2 λe f=>(xL λg h j=>(xP λk=>K (.tuple ⟨[.l g h j,.i 0,.p k]⟩)) f) e)
def jj(b:OA)(d:LV)(K:VK):WK:=mk d λa=>aJ (ad a 0) 13 λe=>dX e (xB λf=>br (!f) (K (.tuple ⟨[.l none 0 0,.i 1,.p b]⟩)) (lI (ad a 0) λg=>br (g==3) (ik b (xP λc=>lI (ad a 3) λh=>kP c h (x0 (K (.tuple ⟨[.l none 0 0,.i 0,.p c]⟩))))) (lL (ad a 1) λj k m=>mj j k m (xL λn o q=>lI (ad a 0) λr=>br (r==2) (lL (ad a 2) λs t u=>lE s t u (xL λv w x=>jj.j1 K b v w x)) (jj.j1 K b n o q)))))
def mh(S:OA)(M T:Nat)(V:OA)(O W:Nat)(K:VK):WK:=(lp [.l none 0 0,.l none 0 0,.l V O W,.i (O:Int),.i 0] λP X=>∀D E F w x y z A G B t H,P [.l D E F,.l w x y,.l z A G,.i B,.i t] H->(br (decide (t<B)) (iW z A t 2 λY=>aJ Y 2 λZ=>mk [.u 0,.u 0] λQ=>bK 2 (ad Q 0) Z ((lp [.l D E F,.l w x y,.p (some (ad Q 0)),.l z A G,.i B,.i t,.l S M T,.i (M:Int),.i 0] λI R=>∀b c d e f g h j k m n o q r v s a C,I [.l b c d,.l e f g,.p (some h),.l j k m,.i n,.i o,.l q r v,.i s,.i a] C->(br (decide (a<s)) (iW q r a 14 λa3=>aJ a3 14 λGU=>mk eG λJ=>bK 14 (ad J 0) GU (aJ (ad J 0) 2 λHW=>aJ h 2 λMJ=>sm [.u 0,.u 0] HW MJ λb1=>br b1 (aJ (ad J 0) 14 λOK=>KZ 14 OK λr3=>iP 14 112 eG e f g (ah r3) 1 λXm TW Rd=>(ct I R [.l b c d,.l Xm TW Rd,.p (some h),.l j k m,.i n,.i o,.l q r v,.i s,.i (aa.wrap (a+1))] [.l b c d,.l e f g,.p (some h),.l j k m,.i n,.i o,.l q r v,.i s,.i a] C)) ((ct I R [.l b c d,.l e f g,.p (some h),.l j k m,.i n,.i o,.l q r v,.i s,.i (aa.wrap (a+1))] [.l b c d,.l e f g,.p (some h),.l j k m,.i n,.i o,.l q r v,.i s,.i a] C)))) ((ct P X [.l b c d,.l e f g,.l j k m,.i n,.i (aa.wrap (o+1))] [.l D E F,.l w x y,.l z A G,.i B,.i t] H))) C))) (K (.l w x y))) H)
def lD(S:OA)(M T:Nat)(V:OA)(O W:Nat)(K:VK):WK:=(lp [.l none 0 0,.l none 0 0,.l V O W,.i (O:Int),.i 0] λP X=>∀D E F w x y z A G B t H,P [.l D E F,.l w x y,.l z A G,.i B,.i t] H->(br (decide (t<B)) (iW z A t 2 λY=>aJ Y 2 λZ=>mk [.u 0,.u 0] λQ=>bK 2 (ad Q 0) Z ((lp [.l D E F,.l w x y,.p (some (ad Q 0)),.l z A G,.i B,.i t,.l S M T,.i (M:Int),.i 0] λI R=>∀b c d e f g h j k m n o q r v s a C,I [.l b c d,.l e f g,.p (some h),.l j k m,.i n,.i o,.l q r v,.i s,.i a] C->(br (decide (a<s)) (iW q r a 33 λa3=>aJ a3 33 λGU=>mk cN λJ=>bK 33 (ad J 0) GU (aJ (ad J 16) 2 λHW=>aJ h 2 λMJ=>sm [.u 0,.u 0] HW MJ λb1=>br b1 (aJ (ad J 16) 16 λOK=>KZ 16 OK λr3=>iP 16 128 iL e f g (ah r3) 1 λXm TW Rd=>(ct I R [.l b c d,.l Xm TW Rd,.p (some h),.l j k m,.i n,.i o,.l q r v,.i s,.i (aa.wrap (a+1))] [.l b c d,.l e f g,.p (some h),.l j k m,.i n,.i o,.l q r v,.i s,.i a] C)) ((ct I R [.l b c d,.l e f g,.p (some h),.l j k m,.i n,.i o,.l q r v,.i s,.i (aa.wrap (a+1))] [.l b c d,.l e f g,.p (some h),.l j k m,.i n,.i o,.l q r v,.i s,.i a] C)))) ((ct P X [.l b c d,.l e f g,.l j k m,.i n,.i (aa.wrap (o+1))] [.l D E F,.l w x y,.l z A G,.i B,.i t] H))) C))) (K (.l w x y))) H)
def bT.j3(K:VK)(o:Nat)(a:OA)(b c:Nat)(k:LI)(d:Addr)(e:OA)(f g:Nat)(h j:Int)(m:LM)(n:World)(q:Bool):WK:=br q (aJ (ad o 0) 16 λr=>KZ 16 r λs=>iP 16 128 iL a b c (ah s) 1 λt u v=>(ct k m [.p (some d),.l e f g,.l t u v,.i h,.i (aa.wrap (j+1))] [.p (some d),.l e f g,.l a b c,.i h,.i j] n)) ((ct k m [.p (some d),.l e f g,.l a b c,.i h,.i (aa.wrap (j+1))] [.p (some d),.l e f g,.l a b c,.i h,.i j] n))
def bT.j4(K:VK)(b:Nat)(c:OA)(d e:Nat)(f:LI)(a:Addr)(g:OA)(h i:Nat)(j k:Int)(l:LM)(m:World)(n:Bool):WK:=br n (bT.j3 K b c d e f a g h i j k l m true) (lT (a.add 5) λo=>br o (aJ (ad b 4) 2 λp=>aJ a 2 λq=>sm [.u 0,.u 0] p q λr=>bT.j3 K b c d e f a g h i j k l m r) (bT.j3 K b c d e f a g h i j k l m false))
def bT.j2(K:VK)(k:LI)(a:Addr)(b:OA)(c d:Nat)(e:OA)(f g:Nat)(h j:Int)(m:LM)(n:World)(o:Nat)(q:Bool):WK:=br q ((ct k m [.p (some a),.l b c d,.l e f g,.i h,.i (aa.wrap (j+1))] [.p (some a),.l b c d,.l e f g,.i h,.i j] n)) (lT (a.add 4) λr=>br r (aJ (ad o 2) 2 λs=>aJ a 2 λt=>sm [.u 0,.u 0] s t λv=>bT.j4 K o e f g k a b c d h j m n v) (bT.j4 K o e f g k a b c d h j m n false))
def bT.j5(K:VK)(c:LI)(a:Addr)(d:OA)(e f:Nat)(g:OA)(b h:Nat)(i j:Int)(k:LM)(l:World)(m:Nat)(n:Bool):WK:=br n (bT.j2 K c a d e f g b h i j k l m true) (lI (a.add 7) λo=>bT.j2 K c a d e f g b h i j k l m (decide ((b:Int)>=o)))
def bT.j1(K:VK)(n:Nat)(a:Addr)(c:LI)(d:OA)(e f:Nat)(g:OA)(h i:Nat)(j k:Int)(l:LM)(m:World):WK:=aJ (ad n 16) 16 λo=>mk iL λb=>bK 16 (ad b 0) o (lI (ad b 14) λp=>lI (a.add 2) λq=>br (decide (p<q)) (bT.j2 K c a d e f g h i j k l m b true) (lI (a.add 3) λr=>br (r !=0) (lI (ad b 14) λs=>lI (a.add 3) λt=>bT.j5 K c a d e f g h i j k l m b (decide (s>t))) (bT.j5 K c a d e f g h i j k l m b false)))
def bT(q:OA)(b z:Nat)(s:LV)(K:VK):WK:=mk s λt=>(lp [.p (some (ad t 0)),.l none 0 0,.l none 0 0,.i (b:Int),.i 0] λk r=>∀c m n o d e f g a h,k [.p (some c),.l m n o,.l d e f,.i g,.i a] h->(br (decide (a<g)) (iW q b a 33 λu=>aJ u 33 λv=>mk cN λj=>bK 33 (ad j 0) v (lT (c.add 6) λw=>br w (iW q b (aa.wrap ((aa.wrap ((b:Int) -1)) -a)) 33 λx=>aJ x 33 λy=>bK 33 (ad j 0) y (bT.j1 K j c k m n o d e f g a r h)) (bT.j1 K j c k m n o d e f g a r h))) (K (.l d e f))) h)
def og(e:OA)(f g:Nat)(b:OA)(c d:Nat)(h:LV)(K:VK):WK:=mk h λa=>aJ (ad a 0) 13 λj=>bn j (xB λk=>br (!k) (K (.tuple ⟨[.l none 0 0,.l none 0 0,.i 1]⟩)) (lI (ad a 0) λm=>br (m==4) (lL (ad a 4) λn o p=>mh e f g n o p (xL λq r s=>K (.tuple ⟨[.l q r s,.l none 0 0,.i 0]⟩))) (lI (ad a 0) λt=>br (t==5) (lL (ad a 4) λu v w=>lD b c d u v w (xL λx y z=>K (.tuple ⟨[.l none 0 0,.l x y z,.i 0]⟩))) (aJ (ad a 5) 8 λA=>bT b c d A (xL λB C D=>K (.tuple ⟨[.l none 0 0,.l B C D,.i 0]⟩))))))
def ic(k:OA)(K:VK):WK:=nn k λn=>lL n λv o w=>(lp [.l none 0 0,.l none 0 0,.i (o:Int),.i 0] λm p=>∀f g h b c d e a j,m [.l f g h,.l b c d,.i e,.i a] j->(br (decide (a<e)) (au k a (xA 14 λq=>KZ 14 q λr=>iP 14 112 eG b c d (ah r) 1 λs t u=>(ct m p [.l f g h,.l s t u,.i e,.i (aa.wrap (a+1))] [.l f g h,.l b c d,.i e,.i a] j))) (K (.l b c d))) j)
def db.j1(K:VK)(k:Nat)(l p:OA)(m:Nat)(q:OA)(r:Bool):WK:=br r (K (.b false)) ((lp [.b false,.i (k:Int),.i 0] λn s=>∀d e a g,n [.b d,.i e,.i a] g->(br (decide (a<e)) (tick (nn l λt=>lL t λu v M=>iW u v a 14 λw=>aJ w 14 λx=>iW p k a 14 λy=>aJ y 14 λz=>sm eG x z λA=>br (!A) (K (.b false)) ((ct n s [.b d,.i e,.i (aa.wrap (a+1))] [.b d,.i e,.i a] g)))) ((lp [.b d,.i (m:Int),.i 0] λo B=>∀h f c j,o [.b h,.i f,.i c] j->(br (decide (c<f)) (tick (nn l λC=>lL (C.add 1) λD E O=>iW D E c 33 λF=>aJ F 33 λG=>iW q m c 33 λH=>aJ H 33 λI=>sm cN G I λJ=>br (!J) (K (.b false)) ((ct o B [.b h,.i f,.i (aa.wrap (c+1))] [.b h,.i f,.i c] j)))) (K (.b true))) j))) g))
def db.j3(K:VK)(b:Nat)(a c:OA)(d:Nat)(e:OA)(f:Int)(g:Bool):WK:=br g (db.j1 K b a c d e true) (nn a λh=>lI (h.add 3) λi=>db.j1 K b a c d e (i !=f))
def db.j2(K:VK)(b:Nat)(a c:OA)(d:Nat)(e:OA)(f g:Int)(h:Bool):WK:=br h (db.j3 K b a c d e f true) (nn a λi=>lI (i.add 2) λj=>db.j3 K b a c d e f (j !=g))
def db(a d:OA)(b l:Nat)(e:OA)(c m:Nat)(f g:Int)(K:VK):WK:=nn a λh=>lL h λn i o=>br ((i:Int)!=(b:Int)) (db.j2 K b a d c e g f true) (nn a λj=>lL (j.add 1) λp k q=>db.j2 K b a d c e g f ((k:Int)!=(c:Int)))
def jb(a m:OA)(n o:Nat)(p:OA)(q r:Nat)(s t:Int)(K:VK):WK:=tick (nn a λc=>lL (c.add 1) λd e f=>nn a λg=>lI (g.add 2) λh=>nn a λj=>lI (j.add 3) λk=>ic a (xL λu v w=>kp (j.add 3) [.i k] (kp (g.add 2) [.i h] (kp (c.add 1) [.l d e f] (cw (1=1/\(1=1/\(1=1/\(1=1/\True)))) (mk [.l u v w,.l d e f,.i h,.i k] λx=>kp (j.add 3) [.i k] (kp (g.add 2) [.i h] (kp (c.add 1) [.l d e f] (db (some (ad x 0)) m n o p q r s t (xB λy=>K (.b y)))))))))))
def xz(b:OA)(f:LV)(K:VK):WK:=mk f λc=>mk Jw λa=>br (b.isNone) (cw (1=1/\True) (cw (4=4) (jY (ad a 0) [.i 2,.l none 0 0,.l none 0 0,.l none 0 0] (aJ (ad a 0) 4 λg=>K (.agg ⟨g⟩))))) (aJ (ad c 0) 13 λh=>uz h (xB λj=>br (!j) (cw (1=1/\True) (cw (4=4) (jY (ad a 0) [.i 1,.l none 0 0,.l none 0 0,.l none 0 0] (aJ (ad a 0) 4 λk=>K (.agg ⟨k⟩))))) (mk Jw λd=>lI (ad c 0) λe=>br (e==1) (lL (ad c 1) λm n o=>sQ b m n o (xL λp q r=>st (ad d 1) (.l p q r) (mg b (x0 (aJ (ad d 0) 4 λs=>bK 4 (ad a 0) s (aJ (ad a 0) 4 λt=>K (.agg ⟨t⟩))))))) (br (e==2) (lL (ad c 2) λu v w=>rJ b u v w (xL λx y z=>st (ad d 1) (.l x y z) (mg b (x0 (aJ (ad d 0) 4 λA=>bK 4 (ad a 0) A (aJ (ad a 0) 4 λB=>K (.agg ⟨B⟩))))))) (lI (ad c 3) λC=>va b C (xI .i64 λF=>mg b (x0 (aJ (ad d 0) 4 λD=>bK 4 (ad a 0) D (aJ (ad a 0) 4 λE=>K (.agg ⟨E⟩))))))))))
def kX.j1(K:VK)(k:Nat)(a:OA)(m:LI)(b:OA)(c:Int)(d:Addr)(e:OA)(f g:Nat)(h j:Int)(n:LM)(o:World)(q:Bool):WK:=br q (K (.tuple ⟨[.p none,.i 4]⟩)) (aJ (ad k 0) 13 λr=>xz a r (xA 4 λs=>(ct m n [.p b,.i c,.p a,.p (some d),.l e f g,.i h,.i (aa.wrap (j+1))] [.p b,.i c,.p a,.p (some d),.l e f g,.i h,.i j] o)))
def kX(a:OA)(K:VK):WK:=br (a.isNone) (K (.tuple ⟨[.p none,.i 2]⟩)) (fH a (xI .i64 λA=>sy A (x2 λB C=>(xA 5 λD=>(xI .i64 λt=>mk Zv λc=>bK 5 (ad c 0) D (br (t !=0) (K (.tuple ⟨[.p none,.i t]⟩)) (aJ (ad c 0) 5 λE=>xR a E (x3 λF G H=>(xP λu=>(xA 4 λI=>(xI .i64 λv=>mk zi4 λm=>bK 4 (ad m 0) I (br (v !=0) (K (.tuple ⟨[.p none,.i v]⟩)) (lI (ad c 3) λJ=>lI (ad c 4) λM=>lI (ad m 3) λO=>lv a J M O (x3 λP Q R=>(xP λS=>(xL λT w V=>(xI .i64 λx=>br (x !=0) (K (.tuple ⟨[.p none,.i x]⟩)) (aJ (ad c 0) 5 λy=>lI (ad m 0) λW=>cw (1=1/\(y.length=5/\(1=1/\(1=1/\(1=1/\True))))) (mk (([.p a]:LV)++(y++([.p u,.p S,.i W,.b false]:LV))) λX=>(lp [.p none,.i 0,.p u,.p (some (ad X 0)),.l T w V,.i (w:Int),.i 0] λn z=>∀o q r e f g s h d j,n [.p o,.i q,.p r,.p (some e),.l f g s,.i h,.i d] j->(br (decide (d<h)) (iW f g d 1 λY=>lS Y λZ=>jn Z (x2 λv9 v10=>(xA 13 λOK=>(xI .i64 λRG=>mk ke λk=>bK 13 (ad k 0) OK (br (RG !=0) (kX.j1 K k r n o q e f g s h d z j true) (aJ (ad k 0) 13 λcs8=>rB cs8 (xB λb2=>kX.j1 K k r n o q e f g s h d z j (!b2))))) v10) v9)) (K (.tuple ⟨[.p (some e),.i 0]⟩))) j)))) R) Q) P)))) H) G) F)))) C) B)))
def na(b:OA)(f:LV)(K:VK):WK:=mk f λc=>mk Jw λa=>br (b.isNone) (cw (1=1/\True) (cw (4=4) (jY (ad a 0) [.i 2,.l none 0 0,.l none 0 0,.l none 0 0] (aJ (ad a 0) 4 λg=>K (.agg ⟨g⟩))))) (aJ (ad c 0) 13 λh=>rB h (xB λj=>br (!j) (tick (nn b λk=>lP (k.add 6) λm=>aJ (ad c 0) 13 λn=>Ku m n (xA 4 λo=>bK 4 (ad a 0) o (aJ (ad a 0) 4 λp=>K (.agg ⟨p⟩))))) (aJ (ad c 0) 13 λq=>xN q (x2 λr s=>(xS λt=>(xI .i64 λd=>br (d !=0) (cw (1=1/\True) (cw (4=4) (jY (ad a 0) [.i d,.l none 0 0,.l none 0 0,.l none 0 0] (aJ (ad a 0) 4 λu=>K (.agg ⟨u⟩))))) (nn b λv=>lT (v.add 9) λw=>br w (cw (1=1/\True) (cw (4=4) (jY (ad a 0) [.i 9,.l none 0 0,.l none 0 0,.l none 0 0] (aJ (ad a 0) 4 λx=>K (.agg ⟨x⟩))))) (jF b t (xI .i64 λe=>br (e !=0) (cw (1=1/\True) (cw (4=4) (jY (ad a 0) [.i e,.l none 0 0,.l none 0 0,.l none 0 0] (aJ (ad a 0) 4 λy=>K (.agg ⟨y⟩))))) (tick (nn b λz=>lP (z.add 6) λA=>aJ (ad c 0) 13 λB=>xz A B (xA 4 λC=>bK 4 (ad a 0) C (aJ (ad a 0) 4 λD=>K (.agg ⟨D⟩))))))))) s) r))))
end Go.Prog
namespace Go.Up
open Go.Sep Go.Den Go.RowKit Go.Prog Go.Md Go.cG
structure j0 where
 op:Int
 aC:List bP
 cA:List cH
 now:Int
 ids:List Nat
 yT:Nat
 ky:Int
 yu:Int
 xy:Bool
 uR:Bool
 rv:Bool
 lz:Int
structure wG where
 sa:OA
 ca:Nat
 st:OA
 ct:Nat
 si:OA
 ci:Nat
def qv(q:j0):LV:=nm q.yT++[.i q.ky,.i q.yu,.b q.xy,.b q.uR,.b q.rv,.i q.lz]
def gP(q:j0)(s:wG):LV:=[.i q.op,.l s.sa q.aC.length s.ca,.l s.st q.cA.length s.ct,.i q.now,.l s.si q.ids.length s.ci]++qv q
def T5(q:j0)(s:wG):(gP q s).length=13:=rfl
instance{q:j0}{s:wG}:Ln (gP q s) 13:=⟨rfl⟩
instance{q:j0}:Ln (qv q) 8:=⟨rfl⟩
instance{q:j0}{s:wG}:Gt (gP q s) 0 (.i q.op):=⟨rfl⟩
instance{q:j0}{s:wG}:Gt (gP q s) 1 (.l s.sa q.aC.length s.ca):=⟨rfl⟩
instance{q:j0}{s:wG}:Gt (gP q s) 2 (.l s.st q.cA.length s.ct):=⟨rfl⟩
instance{q:j0}{s:wG}:Gt (gP q s) 3 (.i q.now):=⟨rfl⟩
instance{q:j0}{s:wG}:Gt (gP q s) 4 (.l s.si q.ids.length s.ci):=⟨rfl⟩
instance{q:j0}:Gt (qv q) 2 (.i q.ky):=⟨rfl⟩
instance{q:j0}:Gt (qv q) 3 (.i q.yu):=⟨rfl⟩
instance{q:j0}:Gt (qv q) 4 (.b q.xy):=⟨rfl⟩
instance{q:j0}:Gt (qv q) 5 (.b q.uR):=⟨rfl⟩
instance{q:j0}:Gt (qv q) 6 (.b q.rv):=⟨rfl⟩
instance{q:j0}:Gt (qv q) 7 (.i q.lz):=⟨rfl⟩
instance{L:LH}{X:WK}{r o:Nat}{q:j0}{s:wG}{cs:LV}{f:LV->LH}[i:Lc (Sep.pt r) L cs f][s2:Sub cs o 13 (gP q s)]:Wk L (kp ⟨r,o,none⟩ (gP q s) X) L X:=⟨λ_ h=>TJ (n:=13) h⟩
def BV(q:j0)(s:wG):∀v∈gP q s,v.oneCell'=true:=λv h=>by
 simp[gP,qv,nm] at h;rcases h with rfl|rfl|rfl|rfl|rfl|rfl|rfl|rfl|rfl|rfl|rfl|rfl|rfl<;>rfl
instance{q:j0}{s:wG}:Sub (gP q s) 0 13 (gP q s):=⟨rfl,λj v h=>by rw[aB];exact h⟩
instance{q:j0}{s:wG}:Sub (gP q s) 5 8 (qv q):=⟨rfl,λj v h=>by
 show([_,_,_,_,_]++qv q)[5+j]?=some v
 rw[iN (by simp)];simpa using h⟩
instance{x1 x2 x3 x4 x5 x6 x7 x8 x9 Fi Fh Fg Ff:Value}{q:j0}{s:wG}:Wr [x1,x2,x3,x4,x5,x6,x7,x8,x9,Fi,Fh,Fg,Ff] 0 (gP q s) (gP q s):=⟨rfl,aI _,BV q s⟩
def mE.mono{α:Type}{W:World}{R R':LH}{g:α->LV}{e:Nat}{s:OA}{l:List α}[h:Has R R'](hr:mE W R g e s l):mE W R' g e s l:=λw hw=>hr w (h.sub hw)
structure pw(W:World)(R:LH)(q:j0)(s:wG):Prop where
 aC:mE W R aO 14 s.sa q.aC
 cA:mE W R aN 16 s.st q.cA
 ids:mE W R nm 2 s.si q.ids
 ca:q.aC.length<=s.ca
 ct:q.cA.length<=s.ct
 ci:q.ids.length<=s.ci
def qg(e:Int)(rb:OA)(rn rc:Nat)(ab:OA)(an ac:Nat)(tb:OA)(tn tc:Nat):LV:=[.i e,.l rb rn rc,.l ab an ac,.l tb tn tc]
instance{e:Int}{rb ab tb:OA}{rn rc an ac tn tc:Nat}:Ln (qg e rb rn rc ab an ac tb tn tc) 4:=⟨rfl⟩
instance{e:Int}{rb ab tb:OA}{rn rc an ac tn tc:Nat}:Gt (qg e rb rn rc ab an ac tb tn tc) 0 (.i e):=⟨rfl⟩
instance{e:Int}{rb ab tb:OA}{rn rc an ac tn tc:Nat}:Gt (qg e rb rn rc ab an ac tb tn tc) 1 (.l rb rn rc):=⟨rfl⟩
instance{e:Int}{rb ab tb:OA}{rn rc an ac tn tc:Nat}:Gt (qg e rb rn rc ab an ac tb tn tc) 2 (.l ab an ac):=⟨rfl⟩
instance{e:Int}{rb ab tb:OA}{rn rc an ac tn tc:Nat}:Gt (qg e rb rn rc ab an ac tb tn tc) 3 (.l tb tn tc):=⟨rfl⟩
def FV{e:Int}{rb:OA}{rn rc:Nat}{ab:OA}{an ac:Nat}{tb:OA}{tn tc:Nat}:∀v∈qg e rb rn rc ab an ac tb tn tc,v.oneCell'=true:=λv h=>by
 simp[qg] at h;rcases h with rfl|rfl|rfl|rfl<;>rfl
instance{x1 x2 x3 x4:Value}{e:Int}{rb:OA}{rn rc:Nat}{ab:OA}{an ac:Nat}{tb:OA}{tn tc:Nat}:Wr [x1,x2,x3,x4] 0 (qg e rb rn rc ab an ac tb tn tc) (qg e rb rn rc ab an ac tb tn tc):=⟨rfl,aI _,FV⟩
instance{x1 x2 x3 x4:Value}{e:Int}{rb:OA}{rn rc:Nat}{ab:OA}{an ac:Nat}{tb:OA}{tn tc:Nat}:Wr [x1,x2,x3,x4] 0 [.i e,.l rb rn rc,.l ab an ac,.l tb tn tc] (qg e rb rn rc ab an ac tb tn tc):=⟨rfl,aI _,FV⟩
instance{e:Int}{rb:OA}{rn rc:Nat}{ab:OA}{an ac:Nat}{tb:OA}{tn tc:Nat}:Sub (qg e rb rn rc ab an ac tb tn tc) 0 4 (qg e rb rn rc ab an ac tb tn tc):=⟨rfl,λj v h=>by rw[aB];exact h⟩
instance{e:Int}{rb:OA}{rn rc:Nat}{ab:OA}{an ac:Nat}{tb:OA}{tn tc:Nat}:Sub [.i e,.l rb rn rc,.l ab an ac,.l tb tn tc] 0 4 (qg e rb rn rc ab an ac tb tn tc):=⟨rfl,λj v h=>by rw[aB];exact h⟩
def lJ(q:j0):Bool:=
 if q.op=1 then decide (1<=q.aC.length)&&decide (q.aC.length<=8) else if q.op=2 then decide (1<=q.cA.length)&&decide (q.cA.length<=8) else if q.op=3 then decide (0<=q.now)&&decide (q.now<=1099511627776) else false
def fo(q:j0):Bool:=decide (q.op=1\/q.op=2\/q.op=3)
def bo(m:aA):ba:=⟨m.cW.map (Md.full m.ax),m.ax,m.clock,m.ay⟩
def qU(m:aA):pK (bo m) m:=⟨rfl,rfl,rfl,rfl⟩
def JP{b:ba}{m:aA}(h:pK b m):b=bo m:=by
 obtain⟨h1,h2,h3,h4⟩:=h;cases b
 simp only at h1 h2 h3 h4;subst h1 h2 h3 h4;rfl
def bD(m:aA)(q:j0):Int×List Int×aA:=
 if lJ q=false then(1,[],m)
 else if q.op=1 then(0,iu aA.make Bq q.aC.length m q.aC)
 else if q.op=2 then(0,iu aA.rI Bp q.cA.length m q.cA)
 else(0,[],m.time q.now)
def Lq{m:aA}(hg:Md.bW m)(l:List bP)(n:Nat):(iu ba.make Bq n (bo m) l).1=(iu aA.make Bq n m l).1/\(iu ba.make Bq n (bo m) l).2=bo (iu aA.make Bq n m l).2/\Md.bW (iu aA.make Bq n m l).2:=by
 obtain⟨h1,h2⟩:=BS (f:=ba.make) (g:=aA.make) (R:=λ(b:ba)(m:aA)=>pK b m/\Md.bW m) Bq (λs t x h=>h.1.make h.2) n l (bo m) m ⟨qU m,hg⟩;exact⟨h1,JP h2.1,h2.2⟩
def PB{m:aA}(hg:Md.bW m)(l:List cH)(n:Nat):(iu ba.rI Bp n (bo m) l).1=(iu aA.rI Bp n m l).1/\(iu ba.rI Bp n (bo m) l).2=bo (iu aA.rI Bp n m l).2/\Md.bW (iu aA.rI Bp n m l).2:=by
 obtain⟨h1,h2⟩:=BS (f:=ba.rI) (g:=aA.rI) (R:=λ(b:ba)(m:aA)=>pK b m/\Md.bW m) Bp (λs t x h=>h.1.rI h.2) n l (bo m) m ⟨qU m,hg⟩;exact⟨h1,JP h2.1,h2.2⟩
section
variable {W:World} {L R:LH} {K:VK} {X:WK} {p:Nat} {q:j0} {s:wG}
def T.aa3{A B C D:HP}(h:T W (D::A::B::C::R) X):T W (A::B::C::D::R) X:=T.perm h (bG (l₁:=[A,B,C]) (l₂:=[D])|>.append_right R)
def QF(h:T W L (K (.b (lJ q)))):T W L (uz (gP q s) K):=by
 unfold uz;apply ws;intros;apply dz<;>intro g1
 ·have g1:q.op=1:=by simpa using g1
  unfold lJ at h;rw[ai g1] at h;apply ws;apply ga<;>intro g2
  ·rw[aw (by omega),dQ] at h;apply ws;apply T.fin (T.dp h);congr 1;rw[decide_eq_decide];omega
  ·rw[ao (by omega),fQ] at h;exact T.dp h
 have g1: ¬q.op=1:=by simpa using g1
 apply dz<;>intro g2
 ·have g2:q.op=2:=by simpa using g2
  unfold lJ at h;rw[ag g1,ai g2] at h;apply ws;apply ga<;>intro g2
  ·rw[aw (by omega),dQ] at h;apply ws;apply T.fin (T.dp h);congr 1;rw[decide_eq_decide];omega
  ·rw[ao (by omega),fQ] at h;exact T.dp h
 have g2: ¬q.op=2:=by simpa using g2
 unfold lJ at h;rw[ag g1,ag g2] at h;apply dz<;>intro g3
 ·have g3:q.op=3:=by simpa using g3
  rw[ai g3] at h;apply ws;apply ga<;>intro g2
  ·rw[aw (by omega),dQ] at h;apply ws;exact T.dp h
  ·rw[ao (by omega),fQ] at h;exact T.dp h
 have g3: ¬q.op=3:=by simpa using g3
 rw[ag g3] at h;exact T.dp h
def Dh(h:T W L (K (.b (fo q)))):T W L (rB (gP q s) K):=by
 unfold rB;unfold fo at h;apply ws;intros;apply dz<;>intro g1
 ·have g1:q.op=1:=by simpa using g1
  rw[aw (.inl g1)] at h;exact T.dp h
 have g1: ¬q.op=1:=by simpa using g1
 apply ws;apply dz<;>intro g2
 ·have g2:q.op=2:=by simpa using g2
  rw[aw (.inr (.inl g2))] at h;exact T.dp h
 have g2: ¬q.op=2:=by simpa using g2
 apply ws;apply T.fin (T.dp h)
 congr 1
 rw[cj];simp[g1,g2]
def FO{b:ba}{hs:List C}{f:ba×List C->LH}[i:Lc (cL p) L (b,hs) f](hl:hs.length<1000000)(h:T W (f (b,[])) (K (.tuple ⟨[]⟩))):T W L (mg (ah p) K):=λw hw=>by
 obtain⟨k,hk,e1⟩:=i.at_;have h1:=hw.focus hk;obtain⟨hg,h2⟩:=h1.and;refine(show T W (cP p (fS b,hs)::L.eraseIdx k) _ from ?_) w h2;unfold mg;apply ws;apply Zt (p:=p) hl;apply ws;intro w2 hw2;apply h w2;rw[e1];exact St.ss (A:=cL p (b,hs)) (St.and_intro hg hw2) hk
def ME(G:oH W){m:aA}(hg:Md.bW m)(hq:pw W R q s)(hA:q.op=1->∀a∈q.aC,yJ a)(hT:q.op=2->∀t∈q.cA,TOk t)
 (h:∀rb rc,Md.bW (bD m q).2.2->T W (cL p (bo (bD m q).2.2,[])::own rb (bD m q).2.1.length rc 1 ((bD m q).2.1.flatMap I1)::R) (K (.agg ⟨qg (bD m q).1 rb (bD m q).2.1.length rc none 0 0 none 0 0⟩))):
 T W (cL p (bo m,[])::R) (xz (ah p) (gP q s) K):=by
 unfold xz
 repeat' first|apply ws;intros|apply wb|refine QF ?_
 cases ge:lJ q with
 |false=>
  have e:bD m q=(1,[],m):=by unfold bD;rw[ai ge]
  rw[e] at h;apply ws;refine T.drop (T.drop ?_);refine im (e:=1) ?_;exact T.perm (h none 0 hg) (cf.swap _ _ _)
 |true=>
  apply ws;intros;apply dz<;>intro g1
  ·have g1:q.op=1:=by simpa using g1
   have e:bD m q=(0,iu aA.make Bq q.aC.length m q.aC):=by unfold bD;rw[ag (by rw[ge];decide),ai g1]
   rw[e] at h;dsimp only at h;have hlen:1<=q.aC.length/\q.aC.length<=8:=by
    unfold lJ at ge;rw[ai g1] at ge;simpa using ge
   obtain⟨s1,s2,s3⟩:=Lq hg q.aC q.aC.length;apply ws;apply T.aa3;refine aa1 G (hs:=[]) (R:=_::_::_::R) hq.aC.mono hq.ca (hA g1) ⟨m,qU m,hg⟩ (by omega) (by show 0+_<_;omega) λr fF Np his hln=>?_;rw[s1,s2];rw[s1] at hln;apply ws;refine FO (p:=p) (by have:fF.length<=0+_:=Np;omega) ?_;apply ws;have:=h (ah r) q.aC.length s3;rw[hln] at this;apply T.sub this;exact qo
  have g1: ¬q.op=1:=by simpa using g1
  apply dz<;>intro g2
  ·have g2:q.op=2:=by simpa using g2
   have e:bD m q=(0,iu aA.rI Bp q.cA.length m q.cA):=by unfold bD;rw[ag (by rw[ge];decide),ag g1,ai g2]
   rw[e] at h;dsimp only at h;have hlen:1<=q.cA.length/\q.cA.length<=8:=by
    unfold lJ at ge;rw[ag g1,ai g2] at ge;simpa using ge
   obtain⟨s1,s2,s3⟩:=PB hg q.cA q.cA.length;apply ws;apply T.aa3;refine aa0 G (hs:=[]) (R:=_::_::_::R) hq.cA.mono hq.ct (hT g2) ⟨m,qU m,hg⟩ (by omega) (by show 0+_<_;omega) λr fF Np his hln=>?_;rw[s1,s2];rw[s1] at hln;apply ws;refine FO (p:=p) (by have:fF.length<=0+_:=Np;omega) ?_;apply ws;have:=h (ah r) q.cA.length s3;rw[hln] at this;apply T.sub this;exact qo
  ·have g2: ¬q.op=2:=by simpa using g2
   have g3:q.op=3/\0<=q.now/\q.now<=1099511627776:=by
    unfold lJ at ge;rw[ag g1,ag g2] at ge;by_cases g3:q.op=3
    ·rw[ai g3] at ge;exact⟨g3,by simpa using ge⟩
    ·rw[ag g3] at ge;cases ge
   have e:bD m q=(0,[],m.time q.now):=by unfold bD;rw[ag (by rw[ge];decide),ag g1,ag g2]
   rw[e] at h;dsimp only at h;apply ws;apply T.aa3;intro w hw;refine⟨W,_::_::_::R,p,bo m,m,[],rfl,hw,qU m,hg,by simp,λn b' fF w' Bs Nu hl1 hw1=>?_⟩;have hb:=JP Bs;subst hb;refine T.at ?_ hw1;apply ws;apply FO (p:=p) (by omega);apply ws;have:=h none 0 Nu;refine im (e:=1) (T.N0 ?_);apply T.sub this
   repeat (first|exact bm.refl _|apply bm.cons_cons|apply bm.cons)
end
def yk(b:ba)(p:oG):cr:=(b.ax[p.2.toNat]?).getD zK
def btw(b:ba)(from_ toX:Int)(yj:Bool):List cr:=
 (if yj then(q8 from_ toX (fB 0 b.ax)).reverse else q8 from_ toX (fB 0 b.ax)).map (yk b)
def FY{from_ toX:Int}{l:List oG}{x:oG}(h:x∈q8 from_ toX l):x∈l:=List.mem_of_mem_drop (List.mem_of_mem_take h)
def Hz{l:List cr}{x:oG}(h:x∈fB 0 l):∃(j:Nat)(k:cr),l[j]?=some k/\x=(k.move.ay,(j:Int)):=by
 obtain⟨j,hj⟩:=qW h;rw[mM] at hj;cases hl:l[j]? with
 |none=>rw[hl] at hj;cases hj
 |some k=>rw[hl] at hj;simp at hj;exact⟨j,k,hl,hj.symm⟩
def jB(k:cr):(bM k).length=33:=rfl
section
variable {W:World} {L R:LH} {K:VK} {X:WK} {p:Nat} {b:ba} {hs:List C} {f:ba×List C->LH}
def SI[i:Lc (cL p) L (b,hs) f]{from_ toX:Int}{yj:Bool}(h:∀b' c' out,out=btw b from_ toX yj->T W (own b' out.length c' 33 (out.flatMap bM)::L) (K (.l b' out.length c'))):
 T W L (oK (ah p) from_ toX yj K):=by
 have hL:f (b,hs)=L:=i.same;refine Nh (p:=p) λla lk ti tn vs bx R hg hc qh=>?_;have many:=hg.many;unfold oK;apply zg;apply Eh;simp only[ia,aB];refine Sr (p:=p) hg.zn (by show(fB 0 b.ax).length<_;rw[mL];omega) λb' c' out ho=>?_;have pU:∀x∈out,∃(j:Nat)(k:cr),b.ax[j]?=some k/\x=(k.move.ay,(j:Int)):=λx hx=>Hz (by
  rw[ho] at hx
  split at hx
  ·exact FY (List.mem_reverse.1 hx)
  ·exact FY hx)
 have vW:out.length<=96:=by
  have h1:∀x:List oG,x=q8 from_ toX (fB 0 b.ax)->x.length<=96:=λx hx=>by
   rw[hx];unfold q8;rw[aD,aS,mL];omega
  rw[ho];split
  ·rw[jx];exact h1 _ rfl
  ·exact h1 _ rfl
 have afF:out.map (yk b)=btw b from_ toX yj:=by rw[ho];rfl
 clear ho;refine uE ?_;refine im (e:=33) ?_;intro w jS;refine⟨λvv w=>∃(i:Nat)(bo:OA)(cc:Nat)(done:List cr),i<=out.length/\done=(out.take i).map (yk b)/\vv=[.l none 0 0,.l bo done.length cc,.l b' out.length c',.i (out.length:Int),.i (i:Int)]/\
  St W w (own bo done.length cc 33 (done.flatMap bM)::own b' out.length c' 2 (out.flatMap pO)::gY p (gK la lk ti tn vs (fS b))::tq aO 14 la (p,(fS b).aC)::tq bM 33 lk (p,(fS b).ax)::pL ti (fS b).qj::pL tn (fS b).ix::wV bx::R),
  mq 4 out.length,⟨0,none,0,[],aF _,by simp,rfl,jS⟩,?_⟩
 rintro ov mo qf bo nJ cc uU uG uP n3 n4 w2 ⟨i,b0,c0,done,hi,l9,e,ib⟩;cases e
 refine T.at ?_ ib;have e5:=nI i;have Bu:done.length=i:=by rw[l9,bQ,aD];omega
 apply ga<;>intro g1
 ·have cn:i<out.length:=by omega
  have gx:=aj cn;have gm:=bF cn;generalize out[i]=x at gx gm;obtain⟨j,k,hk,rfl⟩:=pU x gm;have hka:yk b (k.move.ay,(j:Int))=k:=by unfold yk;dsimp only;rw[ak,hk];rfl
  have wm:(done++[k])=(out.take (i+1)).map (yk b):=by rw[bg,gx,cF,<-l9];simp[hka]
  refine dS (b:=b') ⟨by omega,by omega⟩ λrb hb=>?_;subst hb;rw[ak];apply gI oT gx
  repeat' first|apply ws;intros|apply wb
  ·refine Wj (l:=lk) (x:=k) hk (by show b.ax.length<_;omega) ?_;apply ws;intros;refine kZ (b:=bo) (x:=k) rfl rfl rfl (by omega) (by omega) (nj _) λb2 c2=>?_;rw[e5];refine T.drop (T.drop (T.drop ?_));exact λw3 h3=>⟨⟨i+1,b2,c2,done++[k],cn,wm,by simp,by simpa using h3⟩,dn (by omega)⟩
  ·refine Wj (l:=lk) (x:=k) hk (by show b.ax.length<_;omega) ?_;apply ws;intros;refine kZ (b:=bo) (x:=k) rfl rfl rfl (by omega) (by omega) (nj _) λb2 c2=>?_;rw[e5];refine T.drop (T.drop (T.drop ?_));exact λw3 h3=>⟨⟨i+1,b2,c2,done++[k],cn,wm,by simp,by simpa using h3⟩,dn (by omega)⟩
 ·have iZ:i=out.length:=by omega
  subst iZ;rw[aV] at l9;have:=qh [_] b hs vs bx _ hg hc (by rw[hL];exact h bo cc done (l9.trans afF));apply T.sub this;exact qo
def ace[i:Lc (cL p) L (b,hs) f][hh:Has R L]{s:OA}{c:Nat}{ids:List Nat}(hr:mE W R nm 2 s ids)(hl:ids.length<=1000)
 (h:∀b' c' out,out=ids.filterMap b.find->T W (own b' out.length c' 14 (out.flatMap aO)::L) (K (.l b' out.length c'))):T W L (uZ (some ⟨p,0,none⟩) s ids.length c K):=by
 unfold uZ;refine im (e:=14) ?_;intro w jS;refine⟨λvv w=>∃(i:Nat)(bo:OA)(cc:Nat)(done:List bP),i<=ids.length/\done=(ids.take i).filterMap b.find/\done.length<=i/\vv=[.l none 0 0,.l bo done.length cc,.l s ids.length c,.i (ids.length:Int),.i (i:Int)]/\
  St W w (own bo done.length cc 14 (done.flatMap aO)::L),
  mq 4 ids.length,⟨0,none,0,[],aF _,by simp,aI _,rfl,jS⟩,?_⟩
 rintro ov mo qf bo nJ cc uU uG uP n3 n4 w2 ⟨i,b0,c0,done,hi,l9,Bu,e,ib⟩;cases e
 refine T.at ?_ ib;have e5:=nI i;apply ga<;>intro g1
 ·have cn:i<ids.length:=by omega
  have gx:=aj cn;generalize ids[i]=x at gx;have gS:(ids.take (i+1)).filterMap b.find=done++(b.find x).toList:=by
   rw[bg,gx,List.filterMap_append,<-l9]
   congr 1
  refine iq hr ⟨by omega,by omega⟩ rfl λa ha=>?_;rw[ak];apply kY hr ha gx rfl
  repeat' first|apply ws;intros|apply wb|refine xJ (p:=p) ?_
  rw[e5];cases hf:b.find x with
  |none=>
   rw[hf] at gS;simp only[ff,gQ];apply ws;refine T.drop (T.drop ?_);exact λw3 h3=>⟨⟨i+1,bo,cc,done,cn,by simp[gS],by omega,rfl,h3⟩,dn (by omega)⟩
  |some a2=>
   rw[hf] at gS;simp only[dL,dI];apply ws;intros;refine kZ (b:=bo) (x:=a2) rfl rfl rfl (by omega) (by omega) (iV _) λb2 c2=>?_;refine T.drop (T.drop (T.drop ?_));exact λw3 h3=>⟨⟨i+1,b2,c2,done++[a2],cn,by simpa using gS.symm,by simp;omega,by simp,by simpa using h3⟩,dn (by omega)⟩
 ·have iZ:i=ids.length:=by omega
  subst iZ;rw[aV] at l9;exact h bo cc done l9
def acd[i:Lc (cL p) L (b,hs) f][hh:Has R L]{s:OA}{c:Nat}{ids:List Nat}(hr:mE W R nm 2 s ids)(hl:ids.length<=1000)
 (h:∀b' c' out,out=ids.filterMap (λid=>(b.named id).map (·.move))->T W (own b' out.length c' 16 (out.flatMap aN)::L) (K (.l b' out.length c'))):T W L (tX (some ⟨p,0,none⟩) s ids.length c K):=by
 unfold tX;refine im (e:=16) ?_;intro w jS;refine⟨λvv w=>∃(i:Nat)(bo:OA)(cc:Nat)(done:List cH),i<=ids.length/\done=(ids.take i).filterMap (λid=>(b.named id).map (·.move))/\done.length<=i/\vv=[.l none 0 0,.l bo done.length cc,.l s ids.length c,.i (ids.length:Int),.i (i:Int)]/\
  St W w (own bo done.length cc 16 (done.flatMap aN)::L),
  mq 4 ids.length,⟨0,none,0,[],aF _,by simp,aI _,rfl,jS⟩,?_⟩
 rintro ov mo qf bo nJ cc uU uG uP n3 n4 w2 ⟨i,b0,c0,done,hi,l9,Bu,e,ib⟩;cases e
 refine T.at ?_ ib;have e5:=nI i;apply ga<;>intro g1
 ·have cn:i<ids.length:=by omega
  have gx:=aj cn;generalize ids[i]=x at gx;have gS:(ids.take (i+1)).filterMap (λid=>(b.named id).map (·.move))=done++((b.named x).map (·.move)).toList:=by
   rw[bg,gx,List.filterMap_append,<-l9]
   congr 1
  refine iq hr ⟨by omega,by omega⟩ rfl λa ha=>?_;rw[ak];apply kY hr ha gx rfl
  repeat' first|apply ws;intros|apply wb|refine KH (p:=p) ?_
  rw[e5];cases hf:b.named x with
  |none=>
   rw[hf] at gS;simp only[ff,gQ];apply ws;refine T.drop (T.drop ?_);exact λw3 h3=>⟨⟨i+1,bo,cc,done,cn,by simp[gS],by omega,rfl,h3⟩,dn (by omega)⟩
  |some a2=>
   rw[hf] at gS;simp only[dL,dI];apply ws;intros;refine kZ (b:=bo) (x:=a2.move) rfl rfl rfl (by omega) (by omega) (pQ _) λb2 c2=>?_;refine T.drop (T.drop (T.drop ?_));exact λw3 h3=>⟨⟨i+1,b2,c2,done++[a2.move],cn,by simpa using gS.symm,by simp;omega,by simp,by simpa using h3⟩,dn (by omega)⟩
 ·have iZ:i=ids.length:=by omega
  subst iZ;rw[aV] at l9;exact h bo cc done l9
end
instance{q:j0}:Sub (qv q) 0 2 (nm q.yT):=⟨rfl,λj v h=>by
 rw[aB]
 match j with
 |0=>exact h
 |1=>exact h
 |j+2=>simp[nm] at h⟩
instance{k:cr}:Sub (bM k) 18 2 (nm k.move.bI):=⟨rfl,(zh (cs:=bM k) (o:=18) (n:=k.move.bI) rfl rfl).2⟩
instance{k:cr}:Sub (bM k) 20 2 (nm k.move.aU):=⟨rfl,(zh (cs:=bM k) (o:=20) (n:=k.move.aU) rfl rfl).2⟩
def My(q:j0):∀v∈qv q,v.oneCell'=true:=λv h=>by
 simp[qv,nm] at h;rcases h with rfl|rfl|rfl|rfl|rfl|rfl|rfl|rfl<;>rfl
instance{x1 x2 x3 x4 x5 x6 x7 x8:Value}{q:j0}:Wr [x1,x2,x3,x4,x5,x6,x7,x8] 0 (qv q) (qv q):=⟨rfl,aI _,My q⟩
def fits(q:j0)(k:cr):Bool:=(q.xy&&decide (k.move.bI=q.yT))||(q.uR&&decide (k.move.aU=q.yT))
def ofL(b:ba)(q:j0):List cH:=(((btw b q.ky q.yu q.rv).filter (fits q)).take q.lz.toNat).map (·.move)
def DB{α:Type}{P:α->Bool}{l:List α}{i n:Nat}{x:α}(hx:l[i]?=some x):
 ((l.take (i+1)).filter P).take n=if(((l.take i).filter P).take n).length<n then(if P x then((l.take i).filter P).take n++[x] else((l.take i).filter P).take n) else((l.take i).filter P).take n:=by
 rw[bg,hx,List.filter_append];show(_++[x].filter P).take n=_;generalize (l.take i).filter P=A;rw[aD];by_cases h:min n A.length<n
 ·rw[ai h];have hA:A.length<n:=by omega
  by_cases hp:P x=true
  ·rw[ai hp,lW hp,List.filter_nil,bU (by simp;omega),bU (by omega)]
  ·rw[ag hp,lX hp,List.filter_nil,bR]
 ·rw[ag h,List.take_append_of_le_length (by omega)]
section
variable {W:World} {L R:LH} {K:VK} {X:WK} {p:Nat} {b:ba} {hs:List C} {f:ba×List C->LH} {q:j0} {s:wG}
def Un{I1:LV->World->Prop}{kS:LV->World->Nat}{M:LH}{r1 r2 cc uG uP:Nat}{bo uU:OA}{done:List cH}{x:cr}{n3 n4:Int}{w2:World}{g:LV->LH}
 (hA:(done.length<q.lz.toNat/\fits q x=true)->∀b2 c2,T W (own b2 (done.length+1) c2 16 ((done++[x.move]).flatMap aN)::M) (λw3=>I1 [.p (some (ad r1 0)),.l none 0 0,.l b2 (done.length+1) c2,.l uU uG uP,.i n3,.i (aa.wrap (n4+1))] w3/\
  kS [.p (some (ad r1 0)),.l none 0 0,.l b2 (done.length+1) c2,.l uU uG uP,.i n3,.i (aa.wrap (n4+1))] w3<kS [.p (some (ad r1 0)),.l none 0 0,.l bo done.length cc,.l uU uG uP,.i n3,.i n4] w2))
 (hN: ¬(done.length<q.lz.toNat/\fits q x=true)->T W (own bo done.length cc 16 (done.flatMap aN)::M) (λw3=>I1 [.p (some (ad r1 0)),.l none 0 0,.l bo done.length cc,.l uU uG uP,.i n3,.i (aa.wrap (n4+1))] w3/\
  kS [.p (some (ad r1 0)),.l none 0 0,.l bo done.length cc,.l uU uG uP,.i n3,.i (aa.wrap (n4+1))] w3<kS [.p (some (ad r1 0)),.l none 0 0,.l bo done.length cc,.l uU uG uP,.i n3,.i n4] w2))
 [i1:Lc (Sep.pt r1) M (qv q) g](Kb:0<=q.lz/\q.lz<=16)(hd:done.length<=1000):
 T W (Sep.pt r2 (bM x)::own bo done.length cc 16 (done.flatMap aN)::M) (br q.xy (aJ (ad r2 18) 2 λcs6=>aJ (ad r1 0) 2 λcs7=>sm [.u 0,.u 0] cs6 cs7 λb8=>nM.j1 K (ad r1 0) r2 done.length bo cc I1 none 0 0 uU uG uP n3 n4 kS w2 b8)
   (nM.j1 K (ad r1 0) r2 done.length bo cc I1 none 0 0 uU uG uP n3 n4 kS w2 false)):=by
 have j3:∀yes:Bool,(yes=true↔done.length<q.lz.toNat/\fits q x=true)->T W (Sep.pt r2 (bM x)::own bo done.length cc 16 (done.flatMap aN)::M) (nM.j3 K r2 bo done.length cc I1 (ad r1 0) none 0 0 uU uG uP n3 n4 kS w2 yes):=λyes hy=>by
  unfold nM.j3;cases yes with
  |true=>
   apply ws;intros;refine kZ (b:=bo) (x:=x.move) rfl rfl rfl (by omega) (by omega) (pQ _) λb2 c2=>?_;exact T.drop (T.drop (hA (hy.1 rfl) b2 c2))
  |false=>
   apply ws;exact T.drop (hN λhh=>by have:=hy.2 hh;cases this)
 have j2:∀b2 b3:Bool,(b2||b3)=fits q x->T W (Sep.pt r2 (bM x)::own bo done.length cc 16 (done.flatMap aN)::M) (nM.j2 K (ad r1 0) done.length b2 r2 bo cc I1 none 0 0 uU uG uP n3 n4 kS w2 b3):=λb2 b3 hb=>by
  unfold nM.j2;apply ws;apply ga<;>intro g1
  ·cases b2 with
   |true=>
    apply ws;refine j3 true ⟨λ_=>⟨by omega,by rw[<-hb];rfl⟩,λ_=>rfl⟩
   |false=>
    apply ws;rw[Bool.false_or] at hb;refine j3 b3 ⟨λh=>⟨by omega,by rw[<-hb];exact h⟩,λh=>by rw[hb];exact h.2⟩
  ·refine j3 false ⟨λh=>(by cases h),λh=>(by omega)⟩
 have j1:∀b2:Bool,b2=(q.xy&&decide (x.move.bI=q.yT))->T W (Sep.pt r2 (bM x)::own bo done.length cc 16 (done.flatMap aN)::M) (nM.j1 K (ad r1 0) r2 done.length bo cc I1 none 0 0 uU uG uP n3 n4 kS w2 b2):=λb2 hb=>by
  unfold nM.j1;apply ws;cases hc:q.uR with
  |true=>
   apply ws;apply j2 _ _;unfold fits;rw[hb,hc,dQ]
  |false=>
   apply ws;apply j2 _ _;unfold fits;rw[hb,hc,fQ]
 cases WO:q.xy with
 |true=>
  apply ws;apply j1 _;rw[WO,dQ]
 |false=>
  apply ws;apply j1 _;rw[WO,fQ]
def ah5[i:Lc (cL p) L (b,hs) f](Kb:0<=q.lz/\q.lz<=16)(h:∀b' c' out,out=ofL b q->T W (own b' out.length c' 16 (out.flatMap aN)::L) (K (.l b' out.length c'))):
 T W L (nM (ah p) (qv q) K):=by
 unfold nM;refine qZ (p:=p) λhg=>?_;have many:=hg.many;have adK:(btw b q.ky q.yu q.rv).length<=96:=by
  unfold btw;rw[bQ];have h1:(q8 q.ky q.yu (fB 0 b.ax)).length<=96:=by unfold q8;rw[aD,aS,mL];omega
  split
  ·rw[jx];exact h1
  ·exact h1
 apply ws;intros;rename_i r1;refine SI (p:=p) λbb bc l hl=>?_;rw[<-hl] at adK;apply ws;refine im (e:=16) ?_;intro w jS;refine⟨λvv w=>∃(i:Nat)(bo:OA)(cc:Nat)(done:List cH),i<=l.length/\done=(((l.take i).filter (fits q)).take q.lz.toNat).map (·.move)/\done.length<=i/\vv=[.p (some (ad r1 0)),.l none 0 0,.l bo done.length cc,.l bb l.length bc,.i (l.length:Int),.i (i:Int)]/\
                                                                 St W w (own bo done.length cc 16 (done.flatMap aN)::own bb l.length bc 33 (l.flatMap bM)::Sep.pt r1 (qv q)::L),
  mq 5 l.length,⟨0,none,0,[],aF _,by simp,aI _,rfl,jS⟩,?_⟩
 rintro a1 ov mo qf bo nJ cc uU uG uP n3 n4 w2 ⟨i,b0,c0,done,hi,l9,Bu,e,ib⟩;cases e
 refine T.at ?_ ib;have e5:=nI i;apply ga<;>intro g1
 ·have cn:i<l.length:=by omega
  have gx:=aj cn;generalize l[i]=x at gx;have gS:=DB (P:=fits q) (n:=q.lz.toNat) gx;have xv:done.length=(((l.take i).filter (fits q)).take q.lz.toNat).length:=by rw[l9,bQ]
  rw[<-xv] at gS;have wm:(((l.take (i+1)).filter (fits q)).take q.lz.toNat).map (·.move)=if done.length<q.lz.toNat/\fits q x=true then done++[x.move] else done:=by
   rw[gS];by_cases c1:done.length<q.lz.toNat
   ·rw[ai c1];by_cases c2:fits q x=true
    ·rw[ai c2,ai ⟨c1,c2⟩,cF,<-l9];rfl
    ·rw[ag c2,ag (λh=>c2 h.2),<-l9]
   ·rw[ag c1,ag (λh=>c1 h.1),<-l9]
  refine dS (b:=bb) ⟨by omega,by omega⟩ λrb hb=>?_;subst hb;rw[ak];apply gI jB gx;apply ws;intros;rename_i r2;refine Un (r1:=r1) (r2:=r2) (bo:=bo) (x:=x) (M:=own (ah rb) l.length bc 33 (l.flatMap bM)::Sep.pt r1 (qv q)::L) (λhy b2 c2=>?_) (λhy=>?_) Kb (by omega)
  ·rw[e5];rw[ai hy] at wm;exact λw3 h3=>⟨⟨i+1,b2,c2,done++[x.move],cn,wm.symm,by simp;omega,by simp,by simpa using h3⟩,dn (by omega)⟩
  ·rw[e5];rw[ag hy] at wm;exact λw3 h3=>⟨⟨i+1,bo,cc,done,cn,wm.symm,by omega,rfl,h3⟩,dn (by omega)⟩
 ·have iZ:i=l.length:=by omega
  subst iZ;rw[aV] at l9;have:=h bo cc done (by rw[l9,hl];rfl);apply T.sub this;exact qo
def o8(q:j0):Bool:=
 if q.op=4\/q.op=5 then decide (1<=q.ids.length)&&decide (q.ids.length<=16)
 else if q.op=6 then decide (0<=q.ky/\0<=q.yu/\1<=q.lz/\q.lz<=16)&&(q.xy||q.uR) else false
def ask(m:aA)(q:j0):Int×List bP×List cH:=
 if o8 q=false then(1,[],[])
 else if q.op=4 then(0,q.ids.filterMap (bo m).find,[])
 else if q.op=5 then(0,[],q.ids.filterMap λid=>((bo m).named id).map (·.move))
 else(0,[],ofL (bo m) q)
def M9(h:T W L (K (.b (o8 q)))):T W L (iy (gP q s) K):=by
 have main:∀(r1:Nat)(b1:Bool),b1=decide (q.op=4\/q.op=5)->T W (Sep.pt r1 (gP q s)::L) (iy.j1 K r1 q.op b1):=λr1 b1 hb=>by
  unfold iy.j1;unfold o8 at h;by_cases YB:q.op=4\/q.op=5
  ·rw[ai YB] at h;rw[aw YB] at hb;subst hb;apply ws;apply ga<;>intro g2
   ·rw[aw (by omega),dQ] at h;apply ws;apply T.fin (T.dp h);congr 1;rw[decide_eq_decide];omega
   ·rw[ao (by omega),fQ] at h;exact T.dp h
  ·rw[ag YB] at h;rw[ao YB] at hb;subst hb;rw[eu];apply dz<;>intro g6
   ·have g6:q.op=6:=by simpa using g6
    rw[ai g6] at h;apply ws;intros;rename_i r2;have j4:∀b4:Bool,b4=decide (0<=q.ky/\0<=q.yu/\1<=q.lz/\q.lz<=16)->T W (Sep.pt r2 (qv q)::Sep.pt r1 (gP q s)::L) (iy.j4 K r2 b4):=λb4 h4=>by
     unfold iy.j4;rw[<-h4] at h;cases b4 with
     |true=>
      apply ws;rw[dQ] at h;cases hd:q.xy with
      |true=>
       rw[hd] at h;apply ws;exact T.dp h
      |false=>
       rw[hd,Bool.false_or] at h;apply ws;exact T.dp h
     |false=>
      apply ws;rw[fQ] at h;exact T.dp h
    have j3:∀b3:Bool,b3=decide (0<=q.ky/\0<=q.yu/\1<=q.lz)->T W (Sep.pt r2 (qv q)::Sep.pt r1 (gP q s)::L) (iy.j3 K r2 b3):=λb3 h3=>by
     unfold iy.j3;cases b3 with
     |true=>
      apply ws;apply j4 _;have:=aR h3.symm;rw[decide_eq_decide];omega
     |false=>
      apply ws;apply j4 _;have:=bj h3.symm;exact(ao (by omega)).symm
    have j2:∀b2:Bool,b2=decide (0<=q.ky/\0<=q.yu)->T W (Sep.pt r2 (qv q)::Sep.pt r1 (gP q s)::L) (iy.j2 K r2 b2):=λb2 h2=>by
     unfold iy.j2;cases b2 with
     |true=>
      apply ws;apply j3 _;have:=aR h2.symm;rw[decide_eq_decide];omega
     |false=>
      apply ws;apply j3 _;have:=bj h2.symm;exact(ao (by omega)).symm
    apply ga<;>intro g1
    ·apply ws;apply j2 _;rw[decide_eq_decide];omega
    ·apply j2 _;exact(ao (by omega)).symm
   ·have g6: ¬q.op=6:=by simpa using g6
    rw[ag g6] at h;exact T.dp h
 unfold iy;apply ws;intros;apply dz<;>intro g1
 ·have g1':q.op=4:=by simpa using g1
  exact main _ _ (by rw[g1];exact(aw (.inl g1')).symm)
 ·have g1': ¬q.op=4:=by simpa using g1
  exact main _ _ (by rw[cj];simp[g1'])
def aeQ{m:aA}(hq:pw W R q s)
 (h:∀ab ac tb tc,T W (own ab (ask m q).2.1.length ac 14 ((ask m q).2.1.flatMap aO)::own tb (ask m q).2.2.length tc 16 ((ask m q).2.2.flatMap aN)::cL p (bo m,[])::R) (K (.agg ⟨qg (ask m q).1 none 0 0 ab (ask m q).2.1.length ac tb (ask m q).2.2.length tc⟩))):
 T W (cL p (bo m,[])::R) (Ku (ah p) (gP q s) K):=by
 unfold Ku
 repeat' first|apply ws;intros|apply wb|refine M9 ?_
 cases ge:o8 q with
 |false=>
  have e:ask m q=(1,[],[]):=by unfold ask;rw[ai ge]
  rw[e] at h;apply ws;refine T.drop (T.drop ?_);exact im (e:=16) (im (e:=14) (h none 0 none 0))
 |true=>
  apply ws;apply dz<;>intro g1
  ·have g1:q.op=4:=by simpa using g1
   have e:ask m q=(0,q.ids.filterMap (bo m).find,[]):=by unfold ask;rw[ag (by rw[ge];decide),ai g1]
   rw[e] at h;have hlen:q.ids.length<=16:=by unfold o8 at ge;rw[ai (.inl g1)] at ge;simp at ge;exact ge.2
   apply ws;refine ace (R:=R) (p:=p) hq.ids (by omega) λab ac out ho=>?_;subst ho;apply ws;have:=h ab ac none 0;refine im (e:=16) (T.N0 ?_);apply T.sub this
   repeat (first|exact bm.refl _|apply bm.cons_cons|apply bm.cons)
  have g1: ¬q.op=4:=by simpa using g1
  apply dz<;>intro g2
  ·have g2:q.op=5:=by simpa using g2
   have e:ask m q=(0,[],q.ids.filterMap λid=>((bo m).named id).map (·.move)):=by unfold ask;rw[ag (by rw[ge];decide),ag g1,ai g2]
   rw[e] at h;have hlen:q.ids.length<=16:=by unfold o8 at ge;rw[ai (.inr g2)] at ge;simp at ge;exact ge.2
   apply ws;refine acd (R:=R) (p:=p) hq.ids (by omega) λab ac out ho=>?_;subst ho;apply ws;have:=h none 0 ab ac;refine im (e:=14) ?_;apply T.sub this
   repeat (first|exact bm.refl _|apply bm.cons_cons|apply bm.cons)
  ·have g2: ¬q.op=5:=by simpa using g2
   have e:ask m q=(0,[],ofL (bo m) q):=by unfold ask;rw[ag (by rw[ge];decide),ag g1,ag g2]
   rw[e] at h;have Kb:0<=q.lz/\q.lz<=16:=by
    unfold o8 at ge;rw[ag (by omega)] at ge;split at ge
    ·simp at ge;omega
    ·cases ge
   apply ws;refine ah5 (p:=p) Kb λab ac out ho=>?_;subst ho;apply ws;have:=h none 0 ab ac;refine im (e:=14) ?_;apply T.sub this
   repeat (first|exact bm.refl _|apply bm.cons_cons|apply bm.cons)
end
def many{α:Type}(nx:RS->RS)(nv:RS->α):Nat->RS->List α×RS
 |0,x=>([],x)
 |n+1,x=>if x.2=true then([],x) else(nv x::(many nx nv n (nx x)).1,(many nx nv n (nx x)).2)
def qa{α:Type}{nx:RS->RS}{nv:RS->α}(n:Nat)(x:RS):many nx nv (n+1) x=if x.2=true then([],x) else(nv x::(many nx nv n (nx x)).1,(many nx nv n (nx x)).2):=rfl
def Af{α:Type}{nx:RS->RS}{nv:RS->α}(x:RS):many nx nv 0 x=([],x):=rfl
def xm{α:Type}{nx:RS->RS}{nv:RS->α}:∀(n:Nat)(x:RS),(many nx nv n x).1.length<=n
 |0,x=>aI _
 |n+1,x=>by unfold many;split<;>simp;exact xm n _
def A1{α:Type}{nx:RS->RS}{nv:RS->α}(h:∀x,(nx x).1.length<=x.1.length):∀(n:Nat)(x:RS),(many nx nv n x).2.1.length<=x.1.length
 |0,x=>aI _
 |n+1,x=>by
  unfold many;split
  ·exact aI _
  ·exact wJ (A1 h n _) (h x)
def Rz(x:RS):0<=jm 1 x/\jm 1 x<=255:=by
 unfold jm;split
 ·omega
 ·have h1:=sq (x.1.take 1);have h2:(x.1.take 1).length<=1:=by rw[aD];omega
  have h3:256^(x.1.take 1).length<=256^1:=gO (by decide) h2;have h4:(256:Nat)^1=256:=rfl;rw[oy (by omega)];omega
def Ni(x:RS):RS:=if 1<jm 1 x then((eV 1 x).1,true) else eV 1 x
def nvF(x:RS):Bool:=jm 1 x==1
section
variable {W:World} {L R:LH} {K:VK} {X:WK} {r:Nat} {x:RS} {g:RS->LH} {q:j0} {s:wG}
def P4(x:RS):(El x).1.length<=x.1.length:=by
 unfold El wP;repeat (first|exact aI _|refine wJ (tS _ _) ?_)
def XP(x:RS):(EN x).1.length<=x.1.length:=by
 unfold EN wP;repeat (first|exact aI _|refine wJ (tS _ _) ?_)
def KF[i:Lc (rd r) L x g](hl:x.1.length<1099511627776)(h:T W (g (Ni x)) (K (.b (nvF x)))):T W L (mV (ah r) K):=by
 unfold mV;apply sV hl;apply kd;have hn:=i.next;rw[Option.isNone_some,Pd,lC];apply ga<;>intro g1
 ·have g1:jm 1 x>1:=g1;intro w hs;obtain⟨k,hk,e⟩:=(hn (eV 1 x)).at_;rw[EP,ia,aB];refine pn hs (show(g (eV 1 x))[k]?=some (Sep.pt r [.s (bs (eV 1 x).1),.b (eV 1 x).2]) from hk) (by show 1<2;decide) rfl λw' fF=>?_;apply h w';have e2:Ni x=((eV 1 x).1,true):=by unfold Ni;rw[ai g1]
  rw[e2,e];exact fF
 ·have g1: ¬jm 1 x>1:=g1;have e2:Ni x=eV 1 x:=by unfold Ni;rw[ag g1]
  rw[e2] at h;exact h
def P8[i:Lc (rd r) L x g](hl:x.1.length<1099511627776)
 (h:∀b c,T W (own b (many El Em (jm 1 x).toNat (eV 1 x)).1.length c 14 ((many El Em (jm 1 x).toNat (eV 1 x)).1.flatMap aO)::g (many El Em (jm 1 x).toNat (eV 1 x)).2) (K (.l b (many El Em (jm 1 x).toNat (eV 1 x)).1.length c))):
 T W L (kU (ah r) (.func (.func N.om) ⟨[]⟩ ⟨[]⟩) K):=by
 unfold kU;apply sV hl;apply kd;have hn:=i.next;have hb:=Rz x;obtain⟨n,en⟩:∃n:Nat,jm 1 x=(n:Int):=⟨(jm 1 x).toNat,by omega⟩;rw[en,ak] at h;rw[en];refine im (e:=14) ?_;intro w jS;refine⟨λvv w=>∃(i:Nat)(bo:OA)(cc:Nat)(done:List bP)(y:RS),i<=n/\done.length<=i/\y.1.length<1099511627776/\many El Em n (eV 1 x)=(done++(many El Em (n-i) y).1,(many El Em (n-i) y).2)/\
                                                                                                                               vv=[.l none 0 0,.l bo done.length cc,.i (n:Int),.i (i:Int)]/\St W w (own bo done.length cc 14 (done.flatMap aO)::g y),
  mq 3 n,⟨0,none,0,[],eV 1 x,aF _,aI _,pD hl,by simp,rfl,jS⟩,?_⟩
 rintro wc vw wN bo mo cc n2 n3 w2 ⟨i,b0,c0,done,y,hi,Bu,hy,hm,e,ib⟩;cases e
 refine T.at ?_ ib;have e5:=nI i
 haveI:=hn y
 apply ga<;>intro g1
 ·have cn:i<n:=by omega
  obtain⟨k,hk⟩:∃k,n-i=k+1:=⟨n-i-1,by omega⟩;rw[hk] at hm;apply yD (r:=r);apply oF;cases ht:y.2 with
  |true=>
   apply ws;rw[qa,ai ht] at hm;simp only[bR] at hm;have:=h bo cc;rw[hm] at this;exact this
  |false=>
   apply ws;rw[qa,ag (by rw[ht];decide)] at hm;show T W _ (om (ah r) _);apply V1 hy;apply ws;intros;refine kZ (b:=bo) (x:=Em y) rfl rfl rfl (by omega) (by omega) (iV _) λb2 c2=>?_;rw[e5];apply T.drop;refine λw3 h3=>⟨⟨i+1,b2,c2,done++[Em y],El y,cn,by simp;omega,qJ (P4 y) hy,?_,by simp,by simpa using h3⟩,dn (by omega)⟩;rw[hm,show n-(i+1)=k by omega];simp
 ·have iZ:i=n:=by omega
  subst iZ;rw[kR] at hm;rw[Af,bR] at hm;have:=h bo cc;rw[hm] at this;exact this
def P7[i:Lc (rd r) L x g](hl:x.1.length<1099511627776)
 (h:∀b c,T W (own b (many EN EO (jm 1 x).toNat (eV 1 x)).1.length c 16 ((many EN EO (jm 1 x).toNat (eV 1 x)).1.flatMap aN)::g (many EN EO (jm 1 x).toNat (eV 1 x)).2) (K (.l b (many EN EO (jm 1 x).toNat (eV 1 x)).1.length c))):
 T W L (kf (ah r) (.func (.func N.m9) ⟨[]⟩ ⟨[]⟩) K):=by
 unfold kf;apply sV hl;apply kd;have hn:=i.next;have hb:=Rz x;obtain⟨n,en⟩:∃n:Nat,jm 1 x=(n:Int):=⟨(jm 1 x).toNat,by omega⟩;rw[en,ak] at h;rw[en];refine im (e:=16) ?_;intro w jS;refine⟨λvv w=>∃(i:Nat)(bo:OA)(cc:Nat)(done:List cH)(y:RS),i<=n/\done.length<=i/\y.1.length<1099511627776/\many EN EO n (eV 1 x)=(done++(many EN EO (n-i) y).1,(many EN EO (n-i) y).2)/\
                                                                                                                               vv=[.l none 0 0,.l bo done.length cc,.i (n:Int),.i (i:Int)]/\St W w (own bo done.length cc 16 (done.flatMap aN)::g y),
  mq 3 n,⟨0,none,0,[],eV 1 x,aF _,aI _,pD hl,by simp,rfl,jS⟩,?_⟩
 rintro wc vw wN bo mo cc n2 n3 w2 ⟨i,b0,c0,done,y,hi,Bu,hy,hm,e,ib⟩;cases e
 refine T.at ?_ ib;have e5:=nI i
 haveI:=hn y
 apply ga<;>intro g1
 ·have cn:i<n:=by omega
  obtain⟨k,hk⟩:∃k,n-i=k+1:=⟨n-i-1,by omega⟩;rw[hk] at hm;apply yD (r:=r);apply oF;cases ht:y.2 with
  |true=>
   apply ws;rw[qa,ai ht] at hm;simp only[bR] at hm;have:=h bo cc;rw[hm] at this;exact this
  |false=>
   apply ws;rw[qa,ag (by rw[ht];decide)] at hm;show T W _ (m9 (ah r) _);apply NR hy;apply ws;intros;refine kZ (b:=bo) (x:=EO y) rfl rfl rfl (by omega) (by omega) (pQ _) λb2 c2=>?_;rw[e5];apply T.drop;refine λw3 h3=>⟨⟨i+1,b2,c2,done++[EO y],EN y,cn,by simp;omega,qJ (XP y) hy,?_,by simp,by simpa using h3⟩,dn (by omega)⟩;rw[hm,show n-(i+1)=k by omega];simp
 ·have iZ:i=n:=by omega
  subst iZ;rw[kR] at hm;rw[Af,bR] at hm;have:=h bo cc;rw[hm] at this;exact this
def X3[i:Lc (rd r) L x g](hl:x.1.length<1099511627776)
 (h:∀b c,T W (own b (many (eV 16) AF (jm 1 x).toNat (eV 1 x)).1.length c 2 ((many (eV 16) AF (jm 1 x).toNat (eV 1 x)).1.flatMap nm)::g (many (eV 16) AF (jm 1 x).toNat (eV 1 x)).2) (K (.l b (many (eV 16) AF (jm 1 x).toNat (eV 1 x)).1.length c))):
 T W L (qm (ah r) (.func (.func N.cX) ⟨[]⟩ ⟨[]⟩) K):=by
 unfold qm;apply sV hl;apply kd;have hn:=i.next;have hb:=Rz x;obtain⟨n,en⟩:∃n:Nat,jm 1 x=(n:Int):=⟨(jm 1 x).toNat,by omega⟩;rw[en,ak] at h;rw[en];refine im (e:=2) ?_;intro w jS;refine⟨λvv w=>∃(i:Nat)(bo:OA)(cc:Nat)(done:List Nat)(y:RS),i<=n/\done.length<=i/\y.1.length<1099511627776/\many (eV 16) AF n (eV 1 x)=(done++(many (eV 16) AF (n-i) y).1,(many (eV 16) AF (n-i) y).2)/\
                                                                                                                               vv=[.l none 0 0,.l bo done.length cc,.i (n:Int),.i (i:Int)]/\St W w (own bo done.length cc 2 (done.flatMap nm)::g y),
  mq 3 n,⟨0,none,0,[],eV 1 x,aF _,aI _,pD hl,by simp,rfl,jS⟩,?_⟩
 rintro wc vw wN bo mo cc n2 n3 w2 ⟨i,b0,c0,done,y,hi,Bu,hy,hm,e,ib⟩;cases e
 refine T.at ?_ ib;have e5:=nI i
 haveI:=hn y
 apply ga<;>intro g1
 ·have cn:i<n:=by omega
  obtain⟨k,hk⟩:∃k,n-i=k+1:=⟨n-i-1,by omega⟩;rw[hk] at hm;apply yD (r:=r);apply oF;cases ht:y.2 with
  |true=>
   apply ws;rw[qa,ai ht] at hm;simp only[bR] at hm;have:=h bo cc;rw[hm] at this;exact this
  |false=>
   apply ws;rw[qa,ag (by rw[ht];decide)] at hm;show T W _ (cX (ah r) _);apply KD hy;apply ws;intros;refine kZ (b:=bo) (x:=AF y) rfl rfl rfl (by omega) (by omega) (oV _) λb2 c2=>?_;rw[e5];apply T.drop;refine λw3 h3=>⟨⟨i+1,b2,c2,done++[AF y],(eV 16) y,cn,by simp;omega,qJ (tS 16 y) hy,?_,by simp,by simpa using h3⟩,dn (by omega)⟩;rw[hm,show n-(i+1)=k by omega];simp
 ·have iZ:i=n:=by omega
  subst iZ;rw[kR] at hm;rw[Af,bR] at hm;have:=h bo cc;rw[hm] at this;exact this
def qb(q:j0):Bool:=if q.op=1 then q.aC.all λa=>decide (nr a) else if q.op=2 then q.cA.all λt=>decide (kH t) else true
def jy(q:j0):Bool:=(lJ q||o8 q)&&qb q
def rD{α:Type}{P:α->Bool}{l:List α}{i:Nat}{x:α}(hx:l[i]?=some x)(h:(l.take i).all P=true):(l.take (i+1)).all P=P x:=by
 rw[bg,hx,List.all_append,h];simp
def all_false{α:Type}{P:α->Bool}{l:List α}{i:Nat}{x:α}(hx:l[i]?=some x)(h:P x=false):l.all P=false:=by
 rw[List.all_eq_false];exact⟨x,cD hx,by rw[h];decide⟩
def K4[hh:Has R L](hq:pw W R q s)(DU:q.aC.length<1000000)(cn:q.cA.length<1000000){r1:Nat}{b1:Bool}(h:T W (Sep.pt r1 (gP q s)::L) (K (.b (!b1&&qb q)))):T W (Sep.pt r1 (gP q s)::L) (pY.j1 K r1 b1):=by
 unfold pY.j1;cases b1 with
 |true=>rw[lC];exact h
 |false=>
  rw[Pd,dQ] at h;rw[eu];apply ws;apply dz<;>intro g1
  ·have g1:q.op=1:=by simpa using g1
   unfold qb at h;rw[ai g1] at h;apply ws;intro w jS;refine⟨λvv w=>∃i:Nat,i<=q.aC.length/\(q.aC.take i).all (λx=>decide (nr x))=true/\vv=[.b false,.l s.sa q.aC.length s.ca,.i (q.aC.length:Int),.i (i:Int)]/\St W w (Sep.pt r1 (gP q s)::L),
    mq 3 q.aC.length,⟨0,aF _,rfl,rfl,jS⟩,?_⟩
   rintro b2 ov mo qf n2 n3 w2 ⟨i,hi,fI,e,ib⟩;cases e
   refine T.at ?_ ib;have e5:=nI i;apply ga<;>intro g1
   ·have cn:i<q.aC.length:=by omega
    have gx:=aj cn;generalize q.aC[i]=x at gx;refine iq hq.aC ⟨by omega,by omega⟩ rfl λa ha=>?_;rw[ak];apply kY hq.aC ha gx rfl
    repeat' first|apply ws;intros|apply wb|refine Kw ?_
    rw[e5];by_cases hg:nr x
    ·rw[aw hg];apply ws;refine T.drop λw3 h3=>⟨⟨i+1,cn,?_,rfl,h3⟩,dn (by omega)⟩;rw[rD gx fI];exact aw hg
    ·rw[ao hg];apply ws;rw[all_false gx (ao hg)] at h;exact T.drop h
   ·have iZ:i=q.aC.length:=by omega
    subst iZ;rw[aV] at fI;rw[fI] at h;exact h
  have g1: ¬q.op=1:=by simpa using g1
  apply dz<;>intro g2
  ·have g2:q.op=2:=by simpa using g2
   unfold qb at h;rw[ag g1,ai g2] at h;apply ws;intro w jS;refine⟨λvv w=>∃i:Nat,i<=q.cA.length/\(q.cA.take i).all (λx=>decide (kH x))=true/\vv=[.b false,.l s.st q.cA.length s.ct,.i (q.cA.length:Int),.i (i:Int)]/\St W w (Sep.pt r1 (gP q s)::L),
    mq 3 q.cA.length,⟨0,aF _,rfl,rfl,jS⟩,?_⟩
   rintro b2 ov mo qf n2 n3 w2 ⟨i,hi,fI,e,ib⟩;cases e
   refine T.at ?_ ib;have e5:=nI i;apply ga<;>intro g1
   ·have cn:i<q.cA.length:=by omega
    have gx:=aj cn;generalize q.cA[i]=x at gx;refine iq hq.cA ⟨by omega,by omega⟩ rfl λa ha=>?_;rw[ak];apply kY hq.cA ha gx rfl
    repeat' first|apply ws;intros|apply wb|refine JJ ?_
    rw[e5];by_cases hg:kH x
    ·rw[aw hg];apply ws;refine T.drop λw3 h3=>⟨⟨i+1,cn,?_,rfl,h3⟩,dn (by omega)⟩;rw[rD gx fI];exact aw hg
    ·rw[ao hg];apply ws;rw[all_false gx (ao hg)] at h;exact T.drop h
   ·have iZ:i=q.cA.length:=by omega
    subst iZ;rw[aV] at fI;rw[fI] at h;exact h
  ·have g2: ¬q.op=2:=by simpa using g2
   unfold qb at h;rw[ag g1,ag g2] at h;exact h
def Pj[hh:Has R L](hq:pw W R q s)(DU:q.aC.length<1000000)(cn:q.cA.length<1000000)(h:T W L (K (.b (jy q)))):T W L (pY (gP q s) K):=by
 unfold pY
 repeat' first|apply ws;intros|apply wb|refine QF ?_
 unfold jy at h;cases he:lJ q with
 |true=>
  rw[he,Bool.true_or] at h;apply ws;exact K4 hq DU cn (T.drop h)
 |false=>
  rw[he,Bool.false_or] at h
  repeat' first|apply ws|apply wb|refine M9 ?_
  refine K4 hq DU cn (T.drop ?_);rw[Bool.not_not];exact h
end
def DZ(b:Bool):List UInt8:=[if b then 1 else 0]
def YG(q:j0):List UInt8:=nb q.yT++le .i64 8 q.ky++le .i64 8 q.yu++DZ q.xy++DZ q.uR++DZ q.rv++le .i64 1 q.lz
def dH(q:j0):List UInt8:=le .i64 1 q.op++
 (if q.op=1 then le .i64 1 (q.aC.length:Int)++q.aC.flatMap jl
 else if q.op=2 then le .i64 1 (q.cA.length:Int)++q.cA.flatMap oX
 else if q.op=3 then le .i64 8 q.now
 else if q.op=6 then YG q
 else le .i64 1 (q.ids.length:Int)++q.ids.flatMap nb)
section
variable {W:World} {L R:LH} {K:VK} {X:WK} {p:Nat} {l:List UInt8} {f:List UInt8->LH} {q:j0} {s:wG}
def NO(h:T W (buf p []::L) X):T W (Sep.pt p [.l none 0 0]::L) X:=λw hs=>by
 have h2:=(hs.push (A:=own none 0 0 1 (([]:List UInt8).map vZ)) (sA 1)).perm (cf.swap _ _ _);exact h w (ve (k:=0) (L:=buf p []::L) (A:=buf p []) rfl rfl h2)
def dM{α:Type}{g:α->List UInt8}{e:Nat}(hg:∀x,(g x).length=e)(l:List α):(l.flatMap g).length=l.length* e:=by
 induction l with
 |nil=>simp
 |cons x l ih=>rw[iQ,av,ih,hg,bE,mG];omega
def acB[i:Lc (buf p) L l f][hh:∀y,Has R (f y)]{sl:OA}{c:Nat}{items:List bP}(hr:mE W R aO 14 sl items)(hg:∀x∈items,nr x)(hi:items.length<=1000)(hl:l.length<1000000)
 (h:T W (f (l++le .i64 1 (items.length:Int)++items.flatMap jl)) (K (.tuple ⟨[]⟩))):T W L (lF (ah p) sl items.length c K):=by
 unfold lF;apply Eh;refine sT (by omega) (BF ?_);intro w jS;refine⟨λvv w=>∃i:Nat,i<=items.length/\vv=[.l sl items.length c,.i (items.length:Int),.i (i:Int)]/\St W w (f (l++le .i64 1 (items.length:Int)++(items.take i).flatMap jl)),
  mq 2 items.length,⟨0,aF _,rfl,by simpa using jS⟩,?_⟩
 rintro ov mo qf n1 n2 w2 ⟨i,hii,e,ib⟩;cases e
 refine T.at ?_ ib;have hn:=Lc.next (P:=buf p) inferInstance (l++le .i64 1 (items.length:Int)++(items.take i).flatMap jl) (L:=L) (x:=l) (f:=f);have y3:=hh (l++le .i64 1 (items.length:Int)++(items.take i).flatMap jl);have hlen:(l++le .i64 1 (items.length:Int)++(items.take i).flatMap jl).length<549755813888:=by
  rw[av,av,dM nR,aD,aQ];have:min i items.length<=1000:=by omega
  have:min i items.length* (100-4)<=1000* (100-4):=iA _ this;omega
 have e5:=nI i;apply ga<;>intro g1
 ·have cn:i<items.length:=by omega
  have gx:=aj cn;have gm:=hg _ (bF cn);generalize items[i]=x at gx gm;refine iq hr ⟨by omega,by omega⟩ rfl λa ha=>?_;rw[ak];apply kY hr ha gx rfl
  repeat' first|apply ws;intros|apply wb|refine V0 (p:=p) gm hlen ?_
  rw[e5];refine T.drop λw3 h3=>⟨⟨i+1,cn,rfl,?_⟩,dn (by omega)⟩;rw[bg,gx,gj];simpa [aH] using h3
 ·have iZ:i=items.length:=by omega
  subst iZ;rw[aV];exact h
def acz[i:Lc (buf p) L l f][hh:∀y,Has R (f y)]{sl:OA}{c:Nat}{items:List cH}(hr:mE W R aN 16 sl items)(hg:∀x∈items,kH x)(hi:items.length<=1000)(hl:l.length<1000000)
 (h:T W (f (l++le .i64 1 (items.length:Int)++items.flatMap oX)) (K (.tuple ⟨[]⟩))):T W L (kT (ah p) sl items.length c K):=by
 unfold kT;apply Eh;refine sT (by omega) (BF ?_);intro w jS;refine⟨λvv w=>∃i:Nat,i<=items.length/\vv=[.l sl items.length c,.i (items.length:Int),.i (i:Int)]/\St W w (f (l++le .i64 1 (items.length:Int)++(items.take i).flatMap oX)),
  mq 2 items.length,⟨0,aF _,rfl,by simpa using jS⟩,?_⟩
 rintro ov mo qf n1 n2 w2 ⟨i,hii,e,ib⟩;cases e
 refine T.at ?_ ib;have hn:=Lc.next (P:=buf p) inferInstance (l++le .i64 1 (items.length:Int)++(items.take i).flatMap oX) (L:=L) (x:=l) (f:=f);have y3:=hh (l++le .i64 1 (items.length:Int)++(items.take i).flatMap oX);have hlen:(l++le .i64 1 (items.length:Int)++(items.take i).flatMap oX).length<549755813888:=by
  rw[av,av,dM oW,aD,aQ];have:min i items.length<=1000:=by omega
  have:min i items.length* 108<=1000* 108:=iA _ this;omega
 have e5:=nI i;apply ga<;>intro g1
 ·have cn:i<items.length:=by omega
  have gx:=aj cn;have gm:=hg _ (bF cn);generalize items[i]=x at gx gm;refine iq hr ⟨by omega,by omega⟩ rfl λa ha=>?_;rw[ak];apply kY hr ha gx rfl
  repeat' first|apply ws;intros|apply wb|refine NQ (p:=p) gm hlen ?_
  rw[e5];refine T.drop λw3 h3=>⟨⟨i+1,cn,rfl,?_⟩,dn (by omega)⟩;rw[bg,gx,gj];simpa [aH] using h3
 ·have iZ:i=items.length:=by omega
  subst iZ;rw[aV];exact h
def aau[i:Lc (buf p) L l f](hl:l.length<1000000)(h:T W (f (l++YG q)) (K (.tuple ⟨[]⟩))):T W L (px (ah p) (qv q) K):=by
 unfold px;have hn0:=i.next
 repeat' first|apply ws;intros|apply wb|refine Kx (by omega) ?_
 rename_i r1
 repeat' first|apply ws|apply wb|refine Ar (by simp only[av,sB,aQ];omega) ?_
 intro w jS;refine⟨λvv w=>∃i:Nat,i<=3/\vv=[.p (some (ad r1 0)),.agg ⟨[.b q.xy,.b q.uR,.b q.rv]⟩,.i (i:Int)]/\St W w (Sep.pt r1 (qv q)::f (l++nb q.yT++le .i64 8 q.ky++le .i64 8 q.yu++([q.xy,q.uR,q.rv].take i).flatMap DZ)),
  mq 2 3,⟨0,aF _,rfl,by simpa using jS⟩,?_⟩
 rintro a4 HW n3 w2 ⟨i,hi,e,ib⟩;cases e
 refine T.at ?_ ib;have hn:=Lc.next (P:=buf p) inferInstance (l++nb q.yT++le .i64 8 q.ky++le .i64 8 q.yu++([q.xy,q.uR,q.rv].take i).flatMap DZ) (L:=L) (x:=l) (f:=f);have S6:(([q.xy,q.uR,q.rv].take i).flatMap DZ).length<=3:=by rw[dM (e:=1) (λ_=>rfl),aD];simp;omega
 have e5:=nI i;apply ga<;>intro g1
 ·have cn:i<3:=by omega
  obtain⟨b,hb⟩:∃b,[q.xy,q.uR,q.rv][i]?=some b:=⟨_,aj (by simpa using cn)⟩;have hv:[Value.bool q.xy,.b q.uR,.b q.rv][i]?=some (.b b):=by
   have:=congrArg (yZ Value.bool) hb;rw[<-fy] at this;exact this
  apply Ps cn hv
  repeat' first|apply ws|apply wb|refine Zk (by simp only[av,sB,aQ];omega) ?_
  rw[e5];refine λw3 h3=>⟨⟨i+1,cn,rfl,?_⟩,dn (by omega)⟩;rw[bg,hb,gj];simpa [aH,DZ] using h3
 ·have iZ:i=3:=by omega
  subst iZ
  repeat' first|apply ws|apply wb|refine sT (by simp only[av,sB,aQ];omega) ?_
  have e2:l++nb q.yT++le .i64 8 q.ky++le .i64 8 q.yu++([q.xy,q.uR,q.rv].take 3).flatMap DZ++le .i64 1 q.lz=l++YG q:=by
   unfold YG;simp[aH]
  rw[e2];exact T.drop h
def nT(h:jy q=true):(q.op=1/\q.aC.length<=8/\∀a∈q.aC,nr a)\/(q.op=2/\q.cA.length<=8/\∀t∈q.cA,kH t)\/(q.op=3/\0<=q.now/\q.now<=1099511627776)\/((q.op=4\/q.op=5)/\q.ids.length<=16)\/(q.op=6/\0<=q.ky/\0<=q.yu/\1<=q.lz/\q.lz<=16):=by
 unfold jy lJ o8 qb at h;simp only[df,Bool.or_eq_true] at h;obtain⟨h1,h2⟩:=h;by_cases o1:q.op=1
 ·rw[ai o1] at h1 h2;rw[ag (by omega),ag (by omega)] at h1;simp at h1 h2;exact .inl ⟨o1,h1.2,h2⟩
 by_cases o2:q.op=2
 ·rw[ag o1,ai o2] at h1 h2;rw[ag (by omega),ag (by omega)] at h1;simp at h1 h2;exact .inr (.inl ⟨o2,h1.2,h2⟩)
 by_cases o3:q.op=3
 ·rw[ag o1,ag o2,ai o3] at h1;rw[ag (by omega),ag (by omega)] at h1;simp at h1;exact .inr (.inr (.inl ⟨o3,h1⟩))
 rw[ag o1,ag o2,ag o3] at h1;by_cases o4:q.op=4\/q.op=5
 ·rw[ai o4] at h1;simp at h1;exact .inr (.inr (.inr (.inl ⟨o4,h1.2⟩)))
 rw[ag o4] at h1;by_cases o6:q.op=6
 ·rw[ai o6] at h1;simp at h1;exact .inr (.inr (.inr (.inr ⟨o6,h1.1⟩)))
 ·rw[ag o6] at h1;simp at h1
def Tk[hh:Has R L](hq:pw W R q s)(DU:q.aC.length<1000000)(cn:q.cA.length<1000000)(h1:jy q=true->T W L (K (.tuple ⟨[.s (bs (dH q)),.i 0]⟩)))(h0:jy q=false->T W L (K (.tuple ⟨[.s .empty,.i 1]⟩))):T W L (xN (gP q s) K):=by
 unfold xN
 repeat' first|apply ws;intros|apply wb|refine Pj hq DU cn ?_
 rename_i r1;cases hw:jy q with
 |false=>
  apply ws;exact T.drop (h0 hw)
 |true=>
  have h1:=h1 hw;have hf:=nT hw;apply ws;intros;rename_i r2;apply NO
  repeat' first|apply ws|apply wb|refine sT (by simp) ?_
  unfold dH at h1;apply dz<;>intro g1
  ·have g1:q.op=1:=by simpa using g1
   rw[ai g1] at h1;have E0:q.aC.length<=8/\∀a∈q.aC,nr a:=by rcases hf with h|h|h|h|h<;>first|exact h.2|omega
   apply ws;apply acB (R:=R) hq.aC E0.2 (by omega) (by simp[aQ])
   repeat' first|apply ws|apply wb|refine tL ?_
   rw[cQ,aH];exact T.dp h1
  have g1: ¬q.op=1:=by simpa using g1
  rw[ag g1] at h1;apply dz<;>intro g2
  ·have g2:q.op=2:=by simpa using g2
   rw[ai g2] at h1;have E0:q.cA.length<=8/\∀a∈q.cA,kH a:=by rcases hf with h|h|h|h|h<;>first|exact h.2|omega
   apply ws;apply acz (R:=R) hq.cA E0.2 (by omega) (by simp[aQ])
   repeat' first|apply ws|apply wb|refine tL ?_
   rw[cQ,aH];exact T.dp h1
  have g2: ¬q.op=2:=by simpa using g2
  rw[ag g2] at h1;apply dz<;>intro g3
  ·have g3:q.op=3:=by simpa using g3
   rw[ai g3] at h1
   repeat' first|apply ws|apply wb|first|refine Ar (by simp[aQ]) ?_|refine tL ?_
   rw[cQ];exact T.dp h1
  have g3: ¬q.op=3:=by simpa using g3
  rw[ag g3] at h1;apply dz<;>intro g6
  ·have g6:q.op=6:=by simpa using g6
   rw[ai g6] at h1;apply ws;apply aau (by simp[aQ])
   repeat' first|apply ws|apply wb|refine tL ?_
   rw[cQ];exact T.dp h1
  have g6: ¬q.op=6:=by simpa using g6
  rw[ag g6] at h1;have E0:q.ids.length<=16:=by rcases hf with h|h|h|h|h<;>first|exact h.2|omega
  repeat' first|apply ws|apply wb|refine sT (by simp[aQ]) ?_
  intro w jS;refine⟨λvv w=>∃i:Nat,i<=q.ids.length/\vv=[.s .empty,.i 0,.p (some (ad r2 0)),.l s.si q.ids.length s.ci,.i (q.ids.length:Int),.i (i:Int)]/\
   St W w (buf r2 (le .i64 1 q.op++(le .i64 1 (q.ids.length:Int)++(q.ids.take i).flatMap nb))::Sep.pt r1 (gP q s)::L),
   mq 5 q.ids.length,⟨0,aF _,rfl,by simpa using jS⟩,?_⟩
  rintro s5 n4 a1 BM Bo BL n5 n6 w2 ⟨i,hi,e,ib⟩;cases e
  refine T.at ?_ ib;have hlen:(le .i64 1 q.op++(le .i64 1 (q.ids.length:Int)++(q.ids.take i).flatMap nb)).length<1099511627776:=by
   rw[av,av,dM sB,aD,aQ,aQ];have:min i q.ids.length<=16:=by omega
   omega
  have e5:=nI i;apply ga<;>intro g1
  ·have cn:i<q.ids.length:=by omega
   have gx:=aj cn;generalize q.ids[i]=x at gx;refine iq hq.ids ⟨by omega,by omega⟩ rfl λa ha=>?_;rw[ak];apply kY hq.ids ha gx rfl
   repeat' first|apply ws;intros|apply wb|refine Kx hlen ?_
   rw[e5];refine T.drop λw3 h3=>⟨⟨i+1,cn,rfl,?_⟩,dn (by omega)⟩;rw[bg,gx,gj];simpa [aH] using h3
  ·have iZ:i=q.ids.length:=by omega
   subst iZ;rw[aV]
   repeat' first|apply ws|apply wb|refine tL ?_
   exact T.dp h1
end
def q0:j0:=⟨0,[],[],0,[],0,0,0,false,false,false,0⟩
def s0:wG:=⟨none,0,none,0,none,0⟩
instance{q q':j0}{s s':wG}:Wr (gP q s) 0 (gP q' s') (gP q' s'):=⟨rfl,aI _,BV q' s'⟩
instance{q:j0}{s:wG}:Wr (gP q s) 0 [.i 0,.l none 0 0,.l none 0 0,.i 0,.l none 0 0,.u 0,.u 0,.i 0,.i 0,.b false,.b false,.b false,.i 0] (gP q0 s0):=⟨rfl,aI _,BV q0 s0⟩
instance{q:j0}{s:wG}{a:Nat}{f t m:Int}{d c l:Bool}:Wr (gP q s) 5 (nm a++([.i f,.i t,.b d,.b c,.b l,.i m]:LV)) (gP ⟨q.op,q.aC,q.cA,q.now,q.ids,a,f,t,d,c,l,m⟩ s):=⟨rfl,by show 13<=13;decide,My ⟨q.op,q.aC,q.cA,q.now,q.ids,a,f,t,d,c,l,m⟩⟩
def Oa(n:Int):j0:=⟨n,[],[],0,[],0,0,0,false,false,false,0⟩
def opC(n:Int):gP (Oa n) s0=[.i n,.l none 0 0,.l none 0 0,.i 0,.l none 0 0,.u 0,.u 0,.i 0,.i 0,.b false,.b false,.b false,.i 0]:=by
 simp[gP,qv,nm,Oa,s0]
instance{x1 x2 x3 x4 x5 x6 x7 x8 x9 Fi Fh Fg Ff:Value}{n:Int}:Wr [x1,x2,x3,x4,x5,x6,x7,x8,x9,Fi,Fh,Fg,Ff] 0 [.i n,.l none 0 0,.l none 0 0,.i 0,.l none 0 0,.u 0,.u 0,.i 0,.i 0,.b false,.b false,.b false,.i 0] (gP (Oa n) s0):=by
 rw[<-opC n];exact⟨rfl,aI _,BV _ _⟩
def gV(l:List UInt8):j0×RS:=
 let x:RS:=(l,false)
 let y:=eV 1 x
 if jm 1 x=1 then({q0 with op:=1,aC:=(many El Em (jm 1 y).toNat (eV 1 y)).1},(many El Em (jm 1 y).toNat (eV 1 y)).2)
 else if jm 1 x=2 then({q0 with op:=2,cA:=(many EN EO (jm 1 y).toNat (eV 1 y)).1},(many EN EO (jm 1 y).toNat (eV 1 y)).2)
 else if jm 1 x=3 then({q0 with op:=3,now:=jm 8 y},eV 8 y)
 else if jm 1 x=6 then({q0 with op:=6,yT:=AF y,ky:=jm 8 (eV 16 y),yu:=jm 8 (eV 8 (eV 16 y)),xy:=nvF (eV 8 (eV 8 (eV 16 y))),uR:=nvF (Ni (eV 8 (eV 8 (eV 16 y)))),rv:=nvF (Ni (Ni (eV 8 (eV 8 (eV 16 y))))),lz:=jm 1 (Ni (Ni (Ni (eV 8 (eV 8 (eV 16 y))))))},
  eV 1 (Ni (Ni (Ni (eV 8 (eV 8 (eV 16 y)))))))
 else({q0 with op:=jm 1 x,ids:=(many (eV 16) AF (jm 1 y).toNat (eV 1 y)).1},(many (eV 16) AF (jm 1 y).toNat (eV 1 y)).2)
def qD(l:List UInt8):Bool:=(!(gV l).2.2&&decide ((gV l).2.1=[]))&&jy (gV l).1
def J1(x:RS):(Ni x).1.length<=x.1.length:=by
 unfold Ni;split
 ·exact tS _ _
 ·exact tS _ _
section
variable {W:World} {L R:LH} {K:VK} {X:WK} {p r:Nat} {l:List UInt8} {q:j0} {s:wG} {A:HP}
def NP(h:∀r,T W (rd r (l,false)::L) (K (.p (ah r)))):T W L (oO (bs l) K):=λw hs=>tA hs λr w' h'=>h r w' h'
def mE.own{α:Type}{b:OA}{n c e:Nat}{g:α->LV}{xs:List α}(hg:∀x,(g x).length=e)(hn:n=xs.length):mE W (Sep.own b n c e (xs.flatMap g)::L) g e b xs:=λw hw i x hx=>by
 obtain⟨hl,h0|⟨r,sp,hb,vX,A5,hs⟩⟩:=hw.oU (k:=0) rfl
 ·have:=(ar.1 hx).1;omega
 ·refine⟨⟨r,0,none⟩,hb,?_⟩;subst hb;rw[ia,aB];exact Au (k:=0) hw rfl (ry hg xs i x hx)
def mE.nil{α:Type}{b:OA}{e:Nat}{g:α->LV}:mE W R g e b []:=λw hw i x hx=>by simp at hx
def Tj{r1 r2:Nat}{x:RS}(hq:pw W (A::L) q s)(DU:q.aC.length<1000000)(cn:q.cA.length<1000000)
 (h0:((!x.2&&decide (x.1=[]))&&jy q)=false->T W L (K (.tuple ⟨[.agg ⟨gP q0 s0⟩,.i 4]⟩)))
 (h1:((!x.2&&decide (x.1=[]))&&jy q)=true->T W (A::L) (K (.tuple ⟨[.agg ⟨gP q s⟩,.i 0]⟩))):
 T W (Sep.pt r2 (gP q s)::rd p x::Sep.pt r1 (gP q0 s0)::A::L) (jn.j1 K (ah p) r1 r2):=by
 unfold jn.j1;apply O7 (r:=p);apply oF;cases he:(!x.2&&decide (x.1=[])) with
 |false=>
  rw[he,fQ] at h0;have h0:=h0 rfl;rw[Pd,lC];apply ws;exact T.dp h0
 |true=>
  rw[he,dQ] at h0 h1;rw[Bool.not_true,eu]
  repeat' first|apply ws|apply wb|refine Pj (R:=A::L) hq DU cn ?_
  cases hw:jy q with
  |false=>
   have h0:=h0 hw;apply ws;exact T.dp h0
  |true=>
   have h1:=h1 hw;apply ws;exact T.dp h1
def zS(hl:l.length<1099511627776)
 (h0:qD l=false->T W L (K (.tuple ⟨[.agg ⟨gP q0 s0⟩,.i 4]⟩)))
 (h1:qD l=true->∀A s,(∀L',pw W (A::L') (gV l).1 s)->T W (A::L) (K (.tuple ⟨[.agg ⟨gP (gV l).1 s⟩,.i 0]⟩))):T W L (jn (bs l) K):=by
 unfold jn;refine uF λr1=>?_;refine NP λp=>?_;apply tz;refine sV hl (kd ?_);apply dU ⟨rfl,trivial⟩;refine uF λr2=>?_;apply ws;have hy:=pD (m:=1) (x:=(l,false)) hl;have hb:=Rz (eV 1 (l,false));have fin:∀(q:j0)(x:RS)(A:HP)(s:wG),gV l=(q,x)->(∀L',pw W (A::L') q s)->q.aC.length<1000000->q.cA.length<1000000->
  T W (A::Sep.pt r2 (gP q s)::rd p x::Sep.pt r1 (gP q0 s0)::L) (jn.j1 K (ah p) r1 r2):=by
  intro q x A s he hq DU cn;unfold qD at h0 h1;rw[he] at h0 h1;exact T.perm (Tj (hq L) DU cn h0 λhh=>h1 hh A s hq) (bG (l₁:=[A]) (l₂:=[Sep.pt r2 (gP q s),rd p x,Sep.pt r1 (gP q0 s0)])|>.append_right L)
 unfold gV at fin;dsimp only at fin;generalize jm 1 (l,false)=op at fin⊢;generalize eV 1 (l,false)=y at fin hy hb⊢;apply dz<;>intro g1
 ·have g1:op=1:=by simpa [Oa] using g1
  subst g1;rw[ai rfl] at fin;refine P8 hy λb c=>?_;have Mm:=xm (nx:=El) (nv:=Em) (jm 1 y).toNat (eV 1 y);obtain⟨out,ho⟩:∃out,(many El Em (jm 1 y).toNat (eV 1 y)).1=out:=⟨_,rfl⟩;obtain⟨z,hz⟩:∃z,(many El Em (jm 1 y).toNat (eV 1 y)).2=z:=⟨_,rfl⟩;rw[ho,hz] at fin⊢;rw[ho] at Mm;apply uE;refine rG (b:=b) λvX _=>?_;apply DD (r:=r2) (cs:=gP (Oa 1) s0) (o:=1) (v:=.l b out.length c) (by decide) rfl;exact fin _ _ (Sep.own b out.length c 14 (out.flatMap aO)) ⟨b,c,none,0,none,0⟩ rfl (λ_=>⟨mE.own (λ_=>rfl) rfl,mE.nil,mE.nil,vX,aI _,aI _⟩) (by show out.length<_;omega) (by show 0<_;decide)
 have g1: ¬op=1:=by simpa [Oa] using g1
 rw[ag g1] at fin;apply dz<;>intro g2
 ·have g2:op=2:=by simpa [Oa] using g2
  subst g2;rw[ai rfl] at fin;refine P7 hy λb c=>?_;have Mm:=xm (nx:=EN) (nv:=EO) (jm 1 y).toNat (eV 1 y);obtain⟨out,ho⟩:∃out,(many EN EO (jm 1 y).toNat (eV 1 y)).1=out:=⟨_,rfl⟩;obtain⟨z,hz⟩:∃z,(many EN EO (jm 1 y).toNat (eV 1 y)).2=z:=⟨_,rfl⟩;rw[ho,hz] at fin⊢;rw[ho] at Mm;apply uE;refine rG (b:=b) λvX _=>?_;apply DD (r:=r2) (cs:=gP (Oa 2) s0) (o:=2) (v:=.l b out.length c) (by decide) rfl;exact fin _ _ (Sep.own b out.length c 16 (out.flatMap aN)) ⟨none,0,b,c,none,0⟩ rfl (λ_=>⟨mE.nil,mE.own (λ_=>rfl) rfl,mE.nil,aI _,vX,aI _⟩) (by show 0<_;decide) (by show out.length<_;omega)
 have g2: ¬op=2:=by simpa [Oa] using g2
 rw[ag g2] at fin;apply dz<;>intro g3
 ·have g3:op=3:=by simpa [Oa] using g3
  subst g3;rw[ai rfl] at fin;refine yE hy (kd ?_);refine DD (r:=r2) (cs:=gP (Oa 3) s0) (o:=3) (v:=.i (jm 8 y)) (by decide) rfl ?_;refine im (e:=1) ?_;exact fin _ _ (Sep.own none 0 0 1 []) s0 rfl (λ_=>⟨mE.nil,mE.nil,mE.nil,aI _,aI _,aI _⟩) (by show 0<_;decide) (by show 0<_;decide)
 have g3: ¬op=3:=by simpa [Oa] using g3
 rw[ag g3] at fin;apply dz<;>intro g6
 ·have g6:op=6:=by simpa [Oa] using g6
  subst g6;rw[ai rfl] at fin;have b1:=pD (m:=16) hy;have b2:=pD (m:=8) b1;have b3:=pD (m:=8) b2;have b4:=qJ (J1 _) b3;have b5:=qJ (J1 _) b4;have b6:=qJ (J1 _) b5;refine KD hy (Eg rfl ?_);refine yE b1 (kd ?_);refine yE b2 (kd ?_);refine KF b3 (oF ?_);refine KF b4 (oF ?_);refine KF b5 (oF ?_);refine sV b6 (kd ?_);apply dU ⟨rfl,rfl,rfl,rfl,rfl,rfl,rfl,trivial⟩;refine dU rfl ?_;apply ws;refine im (e:=1) ?_;exact fin _ _ (Sep.own none 0 0 1 []) s0 rfl (λ_=>⟨mE.nil,mE.nil,mE.nil,aI _,aI _,aI _⟩) (by show 0<_;decide) (by show 0<_;decide)
 have g6: ¬op=6:=by simpa [Oa] using g6
 rw[ag g6] at fin;refine X3 hy λb c=>?_;have Mm:=xm (nx:=eV 16) (nv:=AF) (jm 1 y).toNat (eV 1 y);obtain⟨out,ho⟩:∃out,(many (eV 16) AF (jm 1 y).toNat (eV 1 y)).1=out:=⟨_,rfl⟩;obtain⟨z,hz⟩:∃z,(many (eV 16) AF (jm 1 y).toNat (eV 1 y)).2=z:=⟨_,rfl⟩;rw[ho,hz] at fin⊢;rw[ho] at Mm;apply uE;refine rG (b:=b) λvX _=>?_;refine DD (r:=r2) (cs:=gP (Oa op) s0) (o:=4) (v:=.l b out.length c) (by rw[T5];decide) rfl ?_;exact fin _ _ (Sep.own b out.length c 2 (out.flatMap nm)) ⟨none,0,none,0,b,c⟩ rfl (λ_=>⟨mE.nil,mE.nil,mE.own (λ_=>rfl) rfl,aI _,aI _,vX⟩) (by show 0<_;decide) (by show 0<_;decide)
end
def OS{n:Int}{i:Nat}(hi:i<8):Go.Sep.byteOf aa n i=Go.Sep.byteOf aa (n+18446744073709551616) i:=by
 unfold Go.Sep.byteOf shr;have h1:(8* (i:Int)).toNat=8* i:=by omega
 have h2:min (8* i) aa.bits=8* i:=by show min (8* i) 64=_;omega
 rw[h1,h2];have hp:(0:Int)<2^(8* i):=Int.pow_pos (by decide);rw[Hs _ (Int.le_of_lt hp),Hs _ (Int.le_of_lt hp)];have hq:(18446744073709551616:Int)=256* 2^(56-8* i)* 2^(8* i):=by
  have:(256:Int)* 2^(56-8* i)* 2^(8* i)=2^(8+(56-8* i)+8* i):=by
   rw[Int.pow_add,Int.pow_add];rfl
  rw[this,show 8+(56-8* i)+8* i=64 by omega];rfl
 rw[hq,Int.add_mul_ediv_right _ _ (by omega)]
 congr 2
 generalize n/2^(8* i)=a;generalize (2:Int)^(56-8* i)=c;simp only[IntKind.wrap,IntKind.bits,IntKind.signed];simp
def RA{n:Int}(h:vS n):nK (le .i64 8 n)=n:=by
 unfold vS at h;by_cases h0:0<=n
 ·obtain⟨m,rfl⟩:=bh h0;unfold nK;rw[sr m 8 (by omega)];have h8:(256:Nat)^8=18446744073709551616:=rfl;rw[h8,fG (by omega),aX (by omega)]
 ·obtain⟨m,hm⟩:=bh (show 0<=n+18446744073709551616 by omega);have e:le .i64 8 n=le .i64 8 (m:Int):=by
   unfold le;apply jv;intro i hi;rw[List.mem_range] at hi;rw[OS hi,hm]
  rw[e];unfold nK;rw[sr m 8 (by omega)];have h8:(256:Nat)^8=18446744073709551616:=rfl;rw[h8,fG (by omega)];simp[IntKind.wrap,IntKind.bits,IntKind.signed];split<;>omega
def Fm(n:Nat):∀w:Nat,ow ((qk w).map λi=>UInt8.ofNat (n/256^i%256))=n%256^w
 |0=>by simp[ow,Nat.mod_one]
 |w+1=>by
  rw[List.range_succ,cF,Fo,Fm n w,bQ,List.length_range,Nat.mod_pow_succ]
  congr 2
  have e:(UInt8.ofNat (n/256^w%256)).toNat=n/256^w%256:=UInt8.toNat_ofNat_of_lt' (Nat.mod_lt _ (by decide));show(UInt8.ofNat (n/256^w%256)).toNat+256* 0=_;rw[e];omega
def W3{n:Nat}(h:n<bO):ow (nb n)=n:=by
 unfold nb;rw[Fm];exact fG (by unfold bO at h;exact h)
section
variable {r:List UInt8} {n:Int} {m:Nat}
def LC(l:List UInt8)(k:Nat)(hl:l.length=k):eV k (l++r,false)=(r,false):=by
 unfold eV;rw[ag (by simp only[cM,false_or,av];omega),vI _ _ k hl]
def PO(l:List UInt8)(k:Nat)(hl:l.length=k):jm k (l++r,false)=nK l:=by
 unfold jm;rw[ag (by simp only[cM,false_or,av];omega),ud _ _ k hl]
def SO(h:0<=n/\n<=255):jm 1 (le .i64 1 n++r,false)=n:=by
 obtain⟨k,rfl⟩:=bh h.1;rw[PO _ _ (aQ _ _ _),oy (by rw[aQ];omega),sr k 1 (by omega)];have:(256:Nat)^1=256:=rfl;rw[this,fG (by omega)]
def rd2(h:0<=n/\n<=65535):jm 2 (le .i64 2 n++r,false)=n:=by
 obtain⟨k,rfl⟩:=bh h.1;rw[PO _ _ (aQ _ _ _),oy (by rw[aQ];omega),sr k 2 (by omega)];have:(256:Nat)^2=65536:=rfl;rw[this,fG (by omega)]
def rd4(h:0<=n/\n<=4294967295):jm 4 (le .i64 4 n++r,false)=n:=by
 obtain⟨k,rfl⟩:=bh h.1;rw[PO _ _ (aQ _ _ _),oy (by rw[aQ];omega),sr k 4 (by omega)];have:(256:Nat)^4=4294967296:=rfl;rw[this,fG (by omega)]
def rd8(h:vS n):jm 8 (le .i64 8 n++r,false)=n:=by
 rw[PO _ _ (aQ _ _ _),RA h]
def Ww(h:m<bO):AF (nb m++r,false)=m:=by
 unfold AF LZ;rw[ag (by simp),ag (by show ¬(nb m++r).length<16;rw[av,sB];omega)];show ow ((nb m++r).take 16)=m;rw[ud _ _ 16 (sB m),W3 h]
def XS:eV 1 (le .i64 1 n++r,false)=(r,false):=LC _ _ (aQ _ _ _)
def nx2:eV 2 (le .i64 2 n++r,false)=(r,false):=LC _ _ (aQ _ _ _)
def nx4:eV 4 (le .i64 4 n++r,false)=(r,false):=LC _ _ (aQ _ _ _)
def nx8:eV 8 (le .i64 8 n++r,false)=(r,false):=LC _ _ (aQ _ _ _)
def XR:eV 16 (nb m++r,false)=(r,false):=LC _ _ (sB _)
def B5(a:bP):El (jl a++r,false)=(r,false):=by
 have e:jl a++r=nb a.id++(nb a.dp++(nb a.dq++(nb a.cp++(nb a.cq++(le .i64 4 a.bJ++(le .i64 2 a.code++(le .i64 2 a.aq++(le .i64 8 a.ay++r)))))))):=by
  unfold jl;simp[aH]
 rw[e];unfold El;simp only[wP,XR,nx4,nx2,nx8]
def Gi{a:bP}(ha:yJ a)(hg:nr a):Em (jl a++r,false)=a:=by
 unfold Em;rw[B5,ag (by simp)];have e:jl a++r=nb a.id++(nb a.dp++(nb a.dq++(nb a.cp++(nb a.cq++(le .i64 4 a.bJ++(le .i64 2 a.code++(le .i64 2 a.aq++(le .i64 8 a.ay++r)))))))):=by
  unfold jl;simp[aH]
 rw[e];simp only[wP,XR,nx4,nx2,nx8];rw[Ww ha.id,Ww ha.dp,Ww ha.dq,Ww ha.cp,Ww ha.cq,rd4 hg.1,rd2 hg.2.1,rd2 hg.2.2,rd8 ha.ay]
def L1(t:cH):oX t++r=nb t.id++(nb t.bI++(nb t.aU++(nb t.a8++(nb t.pending++(le .i64 4 t.cB++(le .i64 4 t.bJ++(le .i64 2 t.code++(le .i64 2 t.aq++(le .i64 8 t.ay++(le .i64 8 t.iE++r)))))))))):=by
 unfold oX;simp[aH]
def zw(t:cH):EN (oX t++r,false)=(r,false):=by
 rw[L1];unfold EN;simp only[wP,XR,nx4,nx2,nx8]
def B6{t:cH}(ht:yF t)(hg:kH t):EO (oX t++r,false)=t:=by
 unfold EO;rw[zw,ag (by simp),L1];simp only[wP,XR,nx4,nx2,nx8];rw[Ww ht.id,Ww ht.bI,Ww ht.aU,Ww ht.a8,Ww ht.pending,rd4 hg.1,rd4 hg.2.1,rd2 hg.2.2.1,rd2 hg.2.2.2,rd8 ht.ay,rd8 ht.iE]
def xn{α:Type}{nx:RS->RS}{nv:RS->α}{g:α->List UInt8}:∀(l:List α),(∀x∈l,∀r,nx (g x++r,false)=(r,false)/\nv (g x++r,false)=x)->∀r,many nx nv l.length (l.flatMap g++r,false)=(l,(r,false))
 |[],_,r=>rfl
 |x::l,h,r=>by
  rw[bE,qa,iQ,aH,(h x (by simp) _).1,(h x (by simp) _).2,xn l (λy hy=>h y (by simp[hy])) r]
  rfl
end
def canon(q:j0):j0:=if q.op=1 then{q0 with op:=1,aC:=q.aC} else if q.op=2 then{q0 with op:=2,cA:=q.cA} else{q0 with op:=3,now:=q.now}
def CV{q:j0}(hw:jy q=true)(he:fo q=true)(hA:∀a∈q.aC,yJ a)(hT:∀t∈q.cA,yF t):gV (dH q)=(canon q,([],false)):=by
 have WG:q.op=1\/q.op=2\/q.op=3:=aR he;have hf:=nT hw;unfold gV dH canon;dsimp only;rw[SO (by omega),XS];by_cases o1:q.op=1
 ·have E0:q.aC.length<=8/\∀a∈q.aC,nr a:=by rcases hf with h|h|h|h|h<;>first|exact h.2|omega
  rw[ai o1,ai o1,ai o1,SO (by omega),XS,ak];have:=xn (nx:=El) (nv:=Em) (g:=jl) q.aC (λa ha r=>⟨B5 a,Gi (hA a ha) (E0.2 a ha)⟩) [];rw[bR] at this;rw[this]
 by_cases o2:q.op=2
 ·have E0:q.cA.length<=8/\∀a∈q.cA,kH a:=by rcases hf with h|h|h|h|h<;>first|exact h.2|omega
  rw[ag o1,ag o1,ag o1,ai o2,ai o2,ai o2,SO (by omega),XS,ak];have:=xn (nx:=EN) (nv:=EO) (g:=oX) q.cA (λa ha r=>⟨zw a,B6 (hT a ha) (E0.2 a ha)⟩) [];rw[bR] at this;rw[this]
 ·have o3:q.op=3:=by omega
  have E0:0<=q.now/\q.now<=1099511627776:=by rcases hf with h|h|h|h|h<;>first|exact h.2|omega
  rw[ag o1,ag o1,ag o1,ag o2,ag o2,ag o2,ai o3,ai o3];have e8:le .i64 8 q.now=le .i64 8 q.now++[]:=(bR _).symm;rw[e8,rd8 (by unfold vS;omega),nx8]
def GZ(m:aA){q:j0}(he:fo q=true):bD m (canon q)=bD m q/\lJ (canon q)=lJ q:=by
 have WG:q.op=1\/q.op=2\/q.op=3:=aR he;unfold canon;by_cases o1:q.op=1
 ·rw[ai o1];unfold bD lJ;simp[o1]
 by_cases o2:q.op=2
 ·rw[ag o1,ai o2];unfold bD lJ;simp[o2]
 ·have o3:q.op=3:=by omega
  rw[ag o1,ag o2];unfold bD lJ;simp[o3]
def G0{q:j0}(hw:jy q=true)(he:fo q=true):jy (canon q)=true/\fo (canon q)=true:=by
 have WG:q.op=1\/q.op=2\/q.op=3:=aR he;unfold jy o8 qb at *;rw[(GZ ⟨[],[],0,0⟩ he).2];unfold fo canon;by_cases o1:q.op=1
 ·simp[o1] at hw⊢;exact hw
 by_cases o2:q.op=2
 ·simp[o2] at hw⊢;exact hw
 ·have o3:q.op=3:=by omega
  simp[o3] at hw⊢;exact hw
def DI{q:j0}(hw:jy q=true)(he:fo q=true)(hA:∀a∈q.aC,yJ a)(hT:∀t∈q.cA,yF t):qD (dH q)=true:=by
 unfold qD;rw[CV hw he hA hT,(G0 hw he).1];rfl
def oQ(e:Int)(res:List Int)(al:List bP)(tl:List cH):Bool:=
 res.all (λr=>decide (0<=r/\r<=255))&&al.all (λa=>decide (nr a))&&tl.all (λt=>decide (kH t))&&decide (0<=e/\e<=255)&&decide (res.length<=16/\al.length<=16/\tl.length<=16)
def zo(e:Int)(res:List Int)(al:List bP)(tl:List cH):List UInt8:=
 le .i64 1 e++(le .i64 1 res.length++(res.flatMap (λr=>le .i64 1 r)++(le .i64 1 al.length++(al.flatMap jl++(le .i64 1 tl.length++tl.flatMap oX)))))
def pM(e:Int)(res:List Int)(al:List bP)(tl:List cH):List UInt8:=if oQ e res al tl=true then zo e res al tl else zo 3 [] [] []
def zq(l:List UInt8):Int×List Int×List bP×List cH×RS:=
 let x1:=eV 1 (l,false)
 let r:=many (eV 1) (jm 1) (jm 1 x1).toNat (eV 1 x1)
 let a:=many El Em (jm 1 r.2).toNat (eV 1 r.2)
 let t:=many EN EO (jm 1 a.2).toNat (eV 1 a.2)
 (jm 1 (l,false),r.1,a.1,t.1,t.2)
def BY(l:List UInt8):Bool:=(!(zq l).2.2.2.2.2&&decide ((zq l).2.2.2.2.1=[]))&&oQ (zq l).1 (zq l).2.1 (zq l).2.2.1 (zq l).2.2.2.1
def vy{e:Int}{res:List Int}{al:List bP}{tl:List cH}(h:oQ e res al tl=true):(∀r∈res,0<=r/\r<=255)/\(∀a∈al,nr a)/\(∀t∈tl,kH t)/\(0<=e/\e<=255)/\res.length<=16/\al.length<=16/\tl.length<=16:=by
 unfold oQ at h;simp only[df,pW,decide_eq_true_eq] at h;obtain⟨⟨⟨⟨h1,h2⟩,h3⟩,h4⟩,h5⟩:=h;exact⟨h1,h2,h3,h4,h5⟩
def FW{e:Int}{res:List Int}{al:List bP}{tl:List cH}(h:oQ e res al tl=true)(hA:∀a∈al,yJ a)(hT:∀t∈tl,yF t):zq (zo e res al tl)=(e,res,al,tl,([],false)):=by
 obtain⟨h1,h2,h3,h4,h5,h6,h7⟩:=vy h;unfold zq zo;have nn:∀n:Nat,n<=16->((n:Int)).toNat=n:=λn _=>ak n;simp only[XS,SO (n:=e) h4,SO (n:=(res.length:Int)) (by omega)];rw[ak,xn (g:=λr=>le .i64 1 r) res (λx hx r=>⟨XS,SO (h1 x hx)⟩)];simp only[XS,SO (n:=(al.length:Int)) (by omega)];rw[ak,xn (g:=jl) al (λx hx r=>⟨B5 x,Gi (hA x hx) (h2 x hx)⟩)];simp only[XS,SO (n:=(tl.length:Int)) (by omega)];have:=xn (nx:=EN) (nv:=EO) (g:=oX) tl (λx hx r=>⟨zw x,B6 (hT x hx) (h3 x hx)⟩) [];rw[bR] at this;rw[ak,this]
def JU{e:Int}{res:List Int}{al:List bP}{tl:List cH}(hA:∀a∈al,yJ a)(hT:∀t∈tl,yF t):BY (pM e res al tl)=true/\
 zq (pM e res al tl)=if oQ e res al tl=true then(e,res,al,tl,([],false)) else(3,[],[],[],([],false)):=by
 unfold pM;by_cases h:oQ e res al tl=true
 ·rw[ai h,ai h];have:=FW h hA hT;unfold BY;rw[this];exact⟨by rw[h];rfl,rfl⟩
 ·rw[ag h,ag h];have h0:oQ 3 [] [] []=true:=by decide
  have:=FW h0 (λa ha=>by cases ha) (λt ht=>by cases ht);unfold BY;rw[this];exact⟨by rw[h0];rfl,rfl⟩
def T6{e:Int}{res:List Int}{al:List bP}{tl:List cH}:(pM e res al tl).length<=20000:=by
 unfold pM;split
 ·rename_i h;obtain⟨_,_,_,_,h5,h6,h7⟩:=vy h;unfold zo;have f1:(res.flatMap λr=>le .i64 1 r).length=res.length* 1:=dM (λr=>aQ _ _ _) res;have f2:(al.flatMap jl).length=al.length* 96:=dM nR al;have f3:=dM oW tl;simp only[av,aQ,f1,f2,f3];omega
 ·simp[zo,aQ]
section
variable {W:World} {L R:LH} {K:VK} {X:WK} {p:Nat} {b:ba}
def Ss{q:Core}{f:Core->LH}[i:Lc (gY p) L q f](hl:q.vs.length<1000000)(h:T W (f {q with vs:=[]}) (K (.tuple ⟨[]⟩))):T W L (nd (ah p) K):=by
 refine q6 (p:=p) λb1 c1 b2 c2 b3 c3 hp R2 g1 g2 U4=>?_;unfold nd jq;apply ws;refine rG (b:=b1) λvX I7=>?_;refine TK (b:=b1) (by rw[oN,I7];simp) (λv hv=>?_) λzs=>?_
 ·simp only[Builtin.zeroCells,Array.toList_map,cV] at hv;obtain⟨j,_,rfl⟩:=hv;have:(⟨[Value.nilFunc]⟩:Array Value)[j%(⟨[Value.nilFunc]⟩:Array Value).size]! =.nilFunc:=by
   have:j%(⟨[Value.nilFunc]⟩:Array Value).size=0:=Nat.mod_one j;rw[this];rfl
  rw[this];rfl
 apply ws;refine AS (i:=0) (by omega) ?_;refine CM (b:=b1) (i:=0) (by omega) ?_;apply ws;rw[Nat.zero_mul,mR];exact U4 [] {q with vs:=[]} b1 c1 b2 c2 b3 c3 hp _ g1 g2 h
def Lg{α:Type}{g:α->LV}{e l:Nat}(h:T W (tq g e l (p,[])::L) X):T W (Sep.pt l [.l none 0 0,.p (some (ad p 0))]::L) X:=λw hw=>by
 have h2:=(hw.push (A:=own none 0 0 e []) (sA e)).perm (cf.swap _ _ _);exact h w (St.rA (none,0) (St.rP [_,_] L h2))
def VN(h:∀p la lk ti tn,T W (gY p ⟨la,lk,ti,tn,[],[],[],0,0⟩::tq aO 14 la (p,[])::tq bM 33 lk (p,[])::pL ti (λ_=>none,0)::pL tn (λ_=>none,0)::L) (K (.p (ah p)))):T W L (vg K):=by
 unfold vg;refine aar λti=>?_;apply tz;refine aar λtn=>?_;apply tz;apply dU ⟨rfl,rfl,trivial⟩;refine uF λr=>?_;unfold qY tw;apply JC;apply dU ⟨rfl,trivial⟩;refine uF λla=>?_;apply tz;apply dU ⟨rfl,trivial⟩;refine uF λlk=>?_;apply tz;refine DD (r:=r) (cs:=[.l none 0 0,.p none,.p none,.p (ah ti),.p (ah tn),.l none 0 0,.l none 0 0,.i 0,.i 0]) (o:=1) (v:=.p (ah la)) (by show 1<9;decide) rfl ?_;refine DD (r:=r) (cs:=[.l none 0 0,.p (ah la),.p none,.p (ah ti),.p (ah tn),.l none 0 0,.l none 0 0,.i 0,.i 0]) (o:=2) (v:=.p (ah lk)) (by show 2<9;decide) rfl ?_;refine Lg (g:=bM) (e:=33) ?_;refine T.N0 (Lg (g:=aO) (e:=14) ?_);refine im (e:=4) (im (e:=2) (im (e:=1) ?_));have:=Bg (W:=W) (p:=r) (q:=⟨la,lk,ti,tn,[],[],[],0,0⟩) (b1:=none) (c1:=0) (b2:=none) (c2:=0) (b3:=none) (c3:=0) (h:=[]) (X:=K (.p (ah r))) (λj hj x y hx=>by simp at hx) (cf.refl _) (h r la lk ti tn);apply T.perm this;exact(bG (l₁:=[_,_,_,_,_]) (l₂:=[_])|>.append_right (_::_::L)).trans (cf.append_left [_,_,_,_,_,_] (cf.swap _ _ _))
def IY{α:Type}{key:α->Nat}{l:List α}(hn:(l.map key).Nodup){i:Nat}{x:α}(hx:l[i]?=some x):(l.take i).find? (λa=>key a=key x)=none:=by
 obtain⟨hi,rfl⟩:=ar.1 hx;rw[ql];intro a ha hk;obtain⟨j,hj,rfl⟩:=List.getElem_of_mem ha;rw[aD] at hj;rw[List.getElem_take] at hk;have:=kC.1 hn j i (by simpa using by omega) (by simpa using hi) (by omega);simp only[List.getElem_map] at this;exact this (by simpa using hk)
def Hy(l:List cr)(j:Nat):fB 0 (l.take j)=(fB 0 l).take j:=by
 apply qX;intro i;rw[mM,s8,s8,mM];split<;>rfl
def acn(hg:eB b){sa sk:OA}{ca ck:Nat}[hh:Has R L](hA:mE W R aO 14 sa b.aC)(hK:mE W R bM 33 sk b.ax)
 (h:∀p,T W (cL p (b,[])::L) (K (.tuple ⟨[.p (ah p),.i 0]⟩))):T W L (eQ sa b.aC.length ca sk b.ax.length ck b.clock b.ay K):=by
 have oJ:=hg.oJ;have many:=hg.many;have tr:=hg.ay;have hck:=hg.clock;unfold eQ;refine VN λp la lk ti tn=>?_;apply tz;refine ef (by simp;omega) ?_;unfold eQ.j3;rw[show decide (((b.ax.length:Nat):Int)>96)=false by simp;omega,eu];unfold eQ.j4;rw[show decide (b.clock<0)=false by simp;omega,eu];unfold eQ.j5;rw[show decide (b.clock>1099511627776)=false by simp;omega,eu];refine ef (by simp;omega) ?_;rw[show decide (b.ay>1099511627776)=false by simp;omega];unfold eQ.j1;rw[eu];intro w Z7;refine⟨λvv w=>∃(i:Nat)(vs:LV),i<=b.aC.length/\vs.length=i/\vv=[.p none,.i 0,.p (ah p),.l sa b.aC.length ca,.i (b.aC.length:Int),.i (i:Int)]/\
                                                                                                                                                                  St W w (gY p ⟨la,lk,ti,tn,vs,[],[],0,0⟩::tq aO 14 la (p,b.aC.take i)::tq bM 33 lk (p,[])::pL ti (J7 (b.aC.take i))::pL tn (λ_=>none,0)::L),
  mq 5 b.aC.length,⟨0,[],aF _,rfl,rfl,Z7⟩,?_⟩
 rintro p2 n3 p3 o9 nJ pa n4 n5 w2 ⟨i,vs,hi,hvs,e,ib⟩;cases e
 refine T.at ?_ ib;have e5:=nI i;apply ga<;>intro g1
 ·have cn:i<b.aC.length:=by omega
  have gx:=aj cn;generalize b.aC[i]=x at gx;have R7:=IY (key:=λx:bP=>x.id) hg.ids gx;have pq:(J7 (b.aC.take i)).1 x.id=none:=by show yZ _ _=_;rw[rz (key:=λx:bP=>x.id) R7];rfl
  have Es:(b.aC.take i).length=i:=by rw[aD];omega
  have hsn:=Cd (key:=λx:bP=>x.id) R7;have tj:b.aC.take (i+1)=b.aC.take i++[x]:=by rw[bg,gx];rfl
  refine iq hA ⟨by omega,by omega⟩ rfl λa ha=>?_;rw[ak];apply kY hA ha gx rfl;apply ws;intros;apply Ed (t:=ti) (x:=J7 (b.aC.take i));rw[pq];simp only[ff,gQ];apply ws;refine Wv (p:=p) (l:=la) (x:=x) (items:=b.aC.take i) (by rw[Es];omega) (by show vs.length<_;omega) λr3 r4=>?_;apply ws;refine Q0 (t:=ti) (x:=J7 (b.aC.take i)) (by show(b.aC.take i).length<=1000;omega) pq ?_;apply ws;rw[e5];refine T.drop (T.drop (T.drop ?_));refine λw3 h3=>⟨⟨i+1,vs++[Cv r3 r4],cn,by simp;omega,rfl,?_⟩,dn (by omega)⟩;rw[tj];rw[show J7 (b.aC.take i++[x])=_ from hsn];exact h3
 ·have iZ:i=b.aC.length:=by omega
  subst iZ;rw[aV];intro w3 hw3;refine⟨λvv w=>∃(j:Nat)(vs:LV),j<=b.ax.length/\vs.length<=1000+j/\vv=[.p none,.i 0,.p (ah p),.l sk b.ax.length ck,.i (b.ax.length:Int),.i (j:Int)]/\
              St W w (gY p ⟨la,lk,ti,tn,vs,fB 0 (b.ax.take j),(b.ax.take j).filterMap gn,0,0⟩::tq aO 14 la (p,b.aC)::tq bM 33 lk (p,b.ax.take j)::pL ti (J7 b.aC)::pL tn (Ho (b.ax.take j))::L),
   mq 5 b.ax.length,⟨0,vs,aF _,by omega,rfl,hw3⟩,?_⟩
  rintro p7 n8 p8 uU uG uP n9 C3 w5 ⟨j,y8,hj,afa,e,Qq⟩;cases e
  refine T.at ?_ Qq;have e6:=nI j;apply ga<;>intro g1
  ·have cn:j<b.ax.length:=by omega
   have gx:=aj cn;have gk:=hg.SR _ (bF cn);have Mo:∀k∈b.ax.take j,k.move.ay<(b.ax[j]'cn).move.ay:=λk hk=>by
    obtain⟨m,hm,rfl⟩:=List.getElem_of_mem hk;rw[aD] at hm;rw[List.getElem_take];exact kC.1 hg.rising m j (by omega) cn (by omega)
   generalize b.ax[j]=x at gx gk Mo;have R7:=IY (key:=λx:cr=>x.move.id) hg.names gx;have pq:(Ho (b.ax.take j)).1 x.move.id=none:=by show yZ _ _=_;rw[rz (key:=λx:cr=>x.move.id) R7];rfl
   have Es:(b.ax.take j).length=j:=by rw[aD];omega
   have hsn:=Cd (key:=λx:cr=>x.move.id) R7;have tj:b.ax.take (j+1)=b.ax.take j++[x]:=by rw[bg,gx];rfl
   have adm:tM (fB 0 (b.ax.take j)):=by rw[Hy];exact List.Pairwise.sublist (List.take_sublist _ _) hg.zn
   refine iq hK ⟨by omega,by omega⟩ rfl λa ha=>?_;rw[ak];apply kY hK ha gx rfl;apply ws;intros;rename_i r2;apply Ed (t:=tn) (x:=Ho (b.ax.take j));rw[pq];simp only[ff,gQ];apply ws;refine ef (by have:=gk.fate;simp;omega) ?_;apply ws;refine ef (by have:=gk.fate;simp;omega) ?_;apply ws;apply O8 (l:=lk);rw[Es];apply ws;refine QJ (p:=p) adm (by rw[mL];omega) (λy hy=>?_) ?_
   ·obtain⟨k,hk,e⟩:=BH hy;rw[e];exact Mo k hk
   apply ws;unfold eQ.j2;rw[Bool.not_true,eu];apply ws;refine Wm (p:=p) (l:=lk) (x:=x) (items:=b.ax.take j) (by rw[Es];omega) (by show y8.length<_;omega) λr3 r4=>?_;rw[Es];apply ws;refine Q0 (t:=tn) (x:=Ho (b.ax.take j)) (by show(b.ax.take j).length<=1000;omega) pq ?_;apply ws;apply Vr (k:=x) gk;apply ws;intros;rename_i r5;rw[e6];have HJ:fB 0 (b.ax.take (j+1))=fB 0 (b.ax.take j)++[(x.move.ay,(j:Int))]:=by rw[tj,wL,Es,aB]
   have adC:Ho (b.ax.take (j+1))=(xK (Ho (b.ax.take j)).1 x.move.id (some (j:Int)),(Ho (b.ax.take j)).2+1):=by rw[tj];rw[show Ho (b.ax.take j++[x])=_ from hsn,Es]
   cases hd:gn x with
   |none=>
    simp only[ff];apply ws;refine T.drop (T.drop (T.drop (T.drop ?_)));refine λw3 h3=>⟨⟨j+1,y8++[wB r3 r4],cn,by simp;omega,rfl,?_⟩,dn (by omega)⟩;have WM:(b.ax.take (j+1)).filterMap gn=(b.ax.take j).filterMap gn:=by rw[tj,List.filterMap_append];simp[hd]
    rw[HJ,adC,WM,tj];exact h3
   |some y=>
    have ey:OI x=y:=by
     unfold gn at hd;split at hd
     ·cases hd;rfl
     ·cases hd
    simp only[dL];rw[ey];apply ws;simp only[ia,aB];refine Kr (p:=p) (e':=(b.ax.take j).filterMap gn++[y]) (by
     have:=List.length_filterMap_le gn (b.ax.take j)
     show((b.ax.take j).filterMap gn).length<_
     omega) (cf.refl _) ?_
    apply ws;refine T.drop (T.drop (T.drop (T.drop ?_)));refine λw3 h3=>⟨⟨j+1,y8++[wB r3 r4],cn,by simp;omega,rfl,?_⟩,dn (by omega)⟩;have WM:(b.ax.take (j+1)).filterMap gn=(b.ax.take j).filterMap gn++[y]:=by rw[tj,List.filterMap_append];simp[hd]
    rw[HJ,adC,WM,tj];exact h3
  ·have iZ:j=b.ax.length:=by omega
   subst iZ;rw[aV];apply ws;apply NN (p:=p);apply ws;apply NM (p:=p);apply ws;refine Ss (p:=p) (by show y8.length<_;omega) ?_;apply ws;have fin:=h p;intro w7 hw7;have h2:=hw7.push (A:=wV []) trivial;refine E7 (p:=p) (la:=la) (lk:=lk) (ti:=ti) (tn:=tn) (vs:=[]) (bx:=[]) (c:=fS b) (hs:=[]) (R:=L) trivial (λw hw=>fin w (St.and_intro hg hw)) w7 ?_;exact h2.perm (bG (l₁:=[wV []]) (l₂:=[_,_,_,_,_])|>.append_right L)
end
def qq(k:cr):List UInt8:=oX k.asked++oX k.move++le .i64 1 k.fate
def xp(k:cr):(qq k).length=217:=by unfold qq;rw[av,av,oW,oW,aQ]
def AL(b:ba):List UInt8:=le .i64 1 1++le .i64 8 b.clock++le .i64 8 b.ay++le .i64 2 (b.aC.length:Int)++le .i64 2 (b.ax.length:Int)
def I9(b:ba):(AL b).length=21:=by simp only[AL,av,aQ]
def cT(b:ba):List UInt8:=AL b++b.aC.flatMap jl++b.ax.flatMap qq
section
variable {W:World} {L R:LH} {K:VK} {X:WK} {p:Nat} {b:ba} {hs:List C} {f:ba×List C->LH}
def yH[i:Lc (cL p) L (b,hs) f](h:T W L (K (.i b.clock))):T W L (hO (ah p) K):=by
 have hL:f (b,hs)=L:=i.same;refine Nh (p:=p) λla lk ti tn vs bx R hg hc qh=>?_;have fin:=qh [] b hs vs bx _ hg hc (by rw[hL];exact h);unfold hO;apply ws;exact fin
def yC[i:Lc (cL p) L (b,hs) f](h:T W L (K (.i b.ay))):T W L (gZ (ah p) K):=by
 have hL:f (b,hs)=L:=i.same;refine Nh (p:=p) λla lk ti tn vs bx R hg hc qh=>?_;have fin:=qh [] b hs vs bx _ hg hc (by rw[hL];exact h);unfold gZ;apply ws;exact fin
def rX[i:Lc (cL p) L (b,hs) f](h:∀bb c,T W (own bb b.aC.length c 14 (b.aC.flatMap aO)::L) (K (.l bb b.aC.length c))):T W L (fK (ah p) K):=by
 have hL:f (b,hs)=L:=i.same;refine Nh (p:=p) λla lk ti tn vs bx R hg hc qh=>?_;have oJ:=hg.oJ;unfold fK;apply ws;refine acw (l:=la) (by show b.aC.length<_;omega) λbb c=>?_;apply ws;exact qh [_] b hs vs bx _ hg hc (by rw[hL];exact h bb c)
def yG[i:Lc (cL p) L (b,hs) f](h:∀bb c,T W (own bb b.ax.length c 33 (b.ax.flatMap bM)::L) (K (.l bb b.ax.length c))):T W L (hG (ah p) K):=by
 have hL:f (b,hs)=L:=i.same;refine Nh (p:=p) λla lk ti tn vs bx R hg hc qh=>?_;have many:=hg.many;unfold hG;apply ws;refine acp (l:=lk) (by show b.ax.length<_;omega) λbb c=>?_;apply ws;exact qh [_] b hs vs bx _ hg hc (by rw[hL];exact h bb c)
def Il[i:Lc (cL p) L (b,hs) f](h:T W L (K (.s (bs (cT b))))):T W L (uj (ah p) K):=by
 refine qZ (p:=p) λhg=>?_;have oJ:=hg.oJ;have many:=hg.many;unfold uj;apply TL;refine uF λr1=>?_;apply NO;refine sT (by simp) (BF ?_);refine yH (p:=p) (kd ?_);refine Ar (by simp only[av,cR,aQ];omega) (BF ?_);refine yC (p:=p) (kd ?_);refine Ar (by simp only[av,cR,aQ];omega) (BF ?_);refine rX (p:=p) λb1 c1=>?_;apply uE;refine E8 (by simp only[av,cR,aQ];omega) (BF ?_);refine yG (p:=p) λb2 c2=>?_;apply uE;refine E8 (by simp only[av,cR,aQ];omega) (BF ?_);refine rX (p:=p) λb3 c3=>?_;apply uE;have e0:[]++le .i64 1 1++le .i64 8 b.clock++le .i64 8 b.ay++le .i64 2 (b.aC.length:Int)++le .i64 2 (b.ax.length:Int)=AL b:=by unfold AL;simp
 rw[e0];intro w Z7;refine⟨λvv w=>∃i:Nat,i<=b.aC.length/\vv=[.s .empty,.p (some (ad r1 0)),.l b3 b.aC.length c3,.i (b.aC.length:Int),.i (i:Int)]/\
    St W w (own b3 b.aC.length c3 14 (b.aC.flatMap aO)::own b2 b.ax.length c2 33 (b.ax.flatMap bM)::own b1 b.aC.length c1 14 (b.aC.flatMap aO)::buf r1 (AL b++(b.aC.take i).flatMap jl)::L),
  mq 4 b.aC.length,⟨0,aF _,rfl,by simpa using Z7⟩,?_⟩
 rintro s1 a1 uU uG uP n3 n4 w2 ⟨i,hi,e,ib⟩;cases e
 refine T.at ?_ ib;have e5:=nI i;have hlen:(AL b++(b.aC.take i).flatMap jl).length<=21+32* 96:=by
  rw[av,I9,dM nR,aD];have:min i b.aC.length* 96<=32* 96:=iA _ (by omega);omega
 apply ga<;>intro g1
 ·have cn:i<b.aC.length:=by omega
  have gx:=aj cn;have gm:=(hg.Tc _ (bF cn)).zE;generalize b.aC[i]=x at gx gm;refine dS (b:=b3) ⟨by omega,by omega⟩ λrb hb=>?_;subst hb;rw[ak];refine gI (λ_=>rfl) gx ?_
  repeat' first|apply ws;intros|apply wb|with_reducible refine V0 gm (by omega) ?_|fail
  rw[e5];refine T.drop λw3 h3=>⟨⟨i+1,cn,rfl,?_⟩,dn (by omega)⟩;rw[bg,gx,gj];simpa [aH] using h3
 ·have iZ:i=b.aC.length:=by omega
  subst iZ;rw[aV] at hlen⊢;refine yG (p:=p) λb5 c5=>?_;apply uE;intro w4 hw4;refine⟨λvv w=>∃j:Nat,j<=b.ax.length/\vv=[.s .empty,.p (some (ad r1 0)),.l b5 b.ax.length c5,.i (b.ax.length:Int),.i (j:Int)]/\
              St W w (own b5 b.ax.length c5 33 (b.ax.flatMap bM)::own b3 b.aC.length c3 14 (b.aC.flatMap aO)::own b2 b.ax.length c2 33 (b.ax.flatMap bM)::own b1 b.aC.length c1 14 (b.aC.flatMap aO)::buf r1 (AL b++b.aC.flatMap jl++(b.ax.take j).flatMap qq)::L),
   mq 4 b.ax.length,⟨0,aF _,rfl,by simpa using hw4⟩,?_⟩
  rintro s2 a3 TY SM SN n5 n6 w5 ⟨j,hj,e,Qq⟩;cases e
  refine T.at ?_ Qq;have e6:=nI j;have AJ:(AL b++b.aC.flatMap jl++(b.ax.take j).flatMap qq).length<=21+32* 96+96* 217:=by
   rw[av,dM xp,aD];have:min j b.ax.length* 217<=96* 217:=iA _ (by omega);omega
  apply ga<;>intro g1
  ·have cn:j<b.ax.length:=by omega
   have gx:=aj cn;have gm:=hg.SR _ (bF cn);generalize b.ax[j]=x at gx gm;refine dS (b:=b5) ⟨by omega,by omega⟩ λrb hb=>?_;subst hb;rw[ak];refine gI (λ_=>rfl) gx ?_
   repeat' first|apply ws;intros|apply wb|with_reducible refine NQ gm.OZ (by omega) ?_|fail
   refine NQ gm.P5 (by rw[av,oW];omega) (BF ?_)
   repeat' first|apply ws|apply wb|with_reducible refine sT (by simp only[av,oW] at AJ⊢;omega) ?_|fail
   rw[e6];refine T.drop λw3 h3=>⟨⟨j+1,cn,rfl,?_⟩,dn (by omega)⟩;rw[bg,gx,gj];simpa [aH,qq] using h3
  ·have iZ:j=b.ax.length:=by omega
   subst iZ;rw[aV];refine tL (p:=r1) (qz ?_);exact T.dp h
end
section
variable {W:World} {L R:LH} {K:VK} {X:WK} {p:Nat} {b:ba}
def xV{b:ba}(hg:eB b):(cT b).length=21+b.aC.length* 96+b.ax.length* 217:=by
 unfold cT;rw[av,av,I9,dM nR,dM xp]
def Ll(hg:eB b)(h:∀p,T W (cL p (b,[])::L) (K (.tuple ⟨[.p (ah p),.i 0]⟩))):T W L (pz (bs (cT b)) K):=by
 have oJ:=hg.oJ;have many:=hg.many;have tr:=hg.ay;have hck:=hg.clock;have hlen:=xV hg;have yp:cT b=le .i64 1 1++(le .i64 8 b.clock++(le .i64 8 b.ay++(le .i64 2 (b.aC.length:Int)++(le .i64 2 (b.ax.length:Int)++(b.aC.flatMap jl++b.ax.flatMap qq))))):=by
  unfold cT AL;simp only[aH]
 unfold pz;refine NP λr=>?_;apply tz;refine sV (by show(cT b).length<_;omega) (kd ?_);rw[yp];rw[SO (by omega),XS];apply ef (by decide);have Yj:(le .i64 8 b.clock++(le .i64 8 b.ay++(le .i64 2 (b.aC.length:Int)++(le .i64 2 (b.ax.length:Int)++(b.aC.flatMap jl++b.ax.flatMap qq))))).length<1099511627776:=by
  rw[yp,av] at hlen;omega
 refine yE Yj (kd ?_);rw[rd8 (by unfold vS;omega),nx8];rw[av] at Yj;have WI:(le .i64 8 b.ay++(le .i64 2 (b.aC.length:Int)++(le .i64 2 (b.ax.length:Int)++(b.aC.flatMap jl++b.ax.flatMap qq)))).length<1099511627776:=by omega
 refine yE WI (kd ?_);rw[rd8 (by unfold vS;omega),nx8];rw[av] at WI;have hl4:(le .i64 2 (b.aC.length:Int)++(le .i64 2 (b.ax.length:Int)++(b.aC.flatMap jl++b.ax.flatMap qq))).length<1099511627776:=by omega
 refine E9 hl4 (kd ?_);rw[rd2 (by omega),nx2];rw[av] at hl4;have hl5:(le .i64 2 (b.ax.length:Int)++(b.aC.flatMap jl++b.ax.flatMap qq)).length<1099511627776:=by omega
 refine E9 hl5 (kd ?_);rw[rd2 (by omega),nx2];refine yD (r:=r) (oF ?_);rw[eu];refine Zm (r:=r) (kd ?_);have GA:(b.aC.flatMap jl++b.ax.flatMap qq).length=b.aC.length* 96+b.ax.length* 217:=by
  rw[av,dM nR,dM xp]
 have e1:aa.wrap ((b.aC.length:Int)* 96)=(b.aC.length:Int)* 96:=aX (by omega);have e2:aa.wrap ((b.ax.length:Int)* 217)=(b.ax.length:Int)* 217:=aX (by omega);have e3:aa.wrap ((b.aC.length:Int)* 96+(b.ax.length:Int)* 217)=(b.aC.length:Int)* 96+(b.ax.length:Int)* 217:=aX (by omega);rw[e1,e2,e3];rw[ag (by simp),show((((b.aC.flatMap jl++b.ax.flatMap qq).length:Nat):Int)!=(b.aC.length:Int)* 96+(b.ax.length:Int)* 217)=false by rw[GA];simp];unfold pz.j1;rw[eu];refine im (e:=14) ?_;intro w Z7;refine⟨λvv w=>∃(i:Nat)(bo:OA)(cc:Nat),i<=b.aC.length/\vv=[.p none,.i 0,.p (ah r),.i b.clock,.i b.ay,.i (b.ax.length:Int),.l bo (b.aC.take i).length cc,.i (b.aC.length:Int),.i (i:Int)]/\
                                                                                                                                                                                                                                                                                           St W w (own bo (b.aC.take i).length cc 14 ((b.aC.take i).flatMap aO)::rd r ((b.aC.drop i).flatMap jl++b.ax.flatMap qq,false)::L),
  mq 8 b.aC.length,⟨0,none,0,aF _,rfl,Z7⟩,?_⟩
 rintro p2 n6 p3 n7 n8 n9 bo vw cc C3 B9 w2 ⟨i,b0,c0,hi,e,ib⟩;cases e
 refine T.at ?_ ib;have e5:=nI i;have Es:(b.aC.take i).length=i:=by rw[aD];omega
 apply ga<;>intro g1
 ·have cn:i<b.aC.length:=by omega
  have gm:=hg.Tc _ (bF cn);have gx:=aj cn;have hdr:b.aC.drop i=b.aC[i]::b.aC.drop (i+1):=gh cn;generalize b.aC[i]=x at gm gx hdr;have A5:(b.aC.drop i).flatMap jl++b.ax.flatMap qq=jl x++((b.aC.drop (i+1)).flatMap jl++b.ax.flatMap qq):=by rw[hdr,iQ,aH]
  have I7:((b.aC.drop i).flatMap jl++b.ax.flatMap qq).length<1099511627776:=by
   rw[av,dM nR,dM xp,aS];have:(b.aC.length-i)* 96<=32* 96:=iA _ (by omega);have:b.ax.length* 217<=96* 217:=iA _ (by omega);omega
  rw[A5] at I7⊢;apply V1 I7;rw[B5,Gi gm.ok gm.zE];apply ws;intros;refine kZ (b:=bo) (x:=x) rfl rfl rfl (by omega) (by omega) (iV _) λb2 c2=>?_;rw[e5];have tj:b.aC.take (i+1)=b.aC.take i++[x]:=by rw[bg,gx];rfl
  refine T.drop λw3 h3=>⟨⟨i+1,b2,c2,cn,?_,?_⟩,dn (by omega)⟩
  ·rw[tj];simp
  ·rw[tj];simpa using h3
 ·have iZ:i=b.aC.length:=by omega
  subst iZ;rw[aV,List.drop_length,List.flatMap_nil,cQ];refine im (e:=33) ?_;intro w3 hw3;refine⟨λvv w=>∃(j:Nat)(bk:OA)(ck:Nat),j<=b.ax.length/\vv=[.p none,.i 0,.p (ah r),.i b.clock,.i b.ay,.l bo b.aC.length cc,.l bk (b.ax.take j).length ck,.i (b.ax.length:Int),.i (j:Int)]/\
              St W w (own bk (b.ax.take j).length ck 33 ((b.ax.take j).flatMap bM)::own bo b.aC.length cc 14 (b.aC.flatMap aO)::rd r ((b.ax.drop j).flatMap qq,false)::L),
   mq 8 b.ax.length,⟨0,none,0,aF _,rfl,hw3⟩,?_⟩
  rintro p4 RG p5 Wz n14 o9 nJ pa bk uG ck n15 wP w5 ⟨j,b1,c1,hj,e,Qq⟩;cases e
  refine T.at ?_ Qq;have e6:=nI j;have aip:(b.ax.take j).length=j:=by rw[aD];omega
  apply ga<;>intro g2
  ·have cn:j<b.ax.length:=by omega
   have gm:=hg.SR _ (bF cn);have gx:=aj cn;have hdr:b.ax.drop j=b.ax[j]::b.ax.drop (j+1):=gh cn;generalize b.ax[j]=x at gm gx hdr;have A5:(b.ax.drop j).flatMap qq=oX x.asked++(oX x.move++(le .i64 1 x.fate++(b.ax.drop (j+1)).flatMap qq)):=by rw[hdr,iQ];simp[qq,aH]
   have I7:((b.ax.drop j).flatMap qq).length<1099511627776:=by
    rw[dM xp,aS];have:(b.ax.length-j)* 217<=96* 217:=iA _ (by omega);omega
   rw[A5] at I7⊢;have adw:(oX x.move++(le .i64 1 x.fate++(b.ax.drop (j+1)).flatMap qq)).length<1099511627776:=by rw[av] at I7;omega
   have afk:(le .i64 1 x.fate++(b.ax.drop (j+1)).flatMap qq).length<1099511627776:=by rw[av] at adw;omega
   apply NR I7;rw[zw,B6 gm.asked gm.OZ];apply ws;apply NR adw;rw[zw,B6 gm.move gm.P5];apply ws;refine sV afk (kd ?_);rw[SO (by have:=gm.fate;omega),XS];apply dU ⟨rfl,rfl,rfl,trivial⟩;apply dU ⟨rfl,trivial⟩;refine uF λr3=>?_;refine kZ (b:=bk) (x:=x) (by show(aN x.asked++(aN x.move++[.i x.fate]))++[]=bM x;rw[bR];rfl) rfl rfl (by omega) (by omega) (nj _) λb2 c2=>?_;rw[e6];have tj:b.ax.take (j+1)=b.ax.take j++[x]:=by rw[bg,gx];rfl
   refine T.drop λw6 h6=>⟨⟨j+1,b2,c2,cn,?_,?_⟩,dn (by omega)⟩
   ·rw[tj];simp
   ·rw[tj];simpa using h6
  ·have iZ:j=b.ax.length:=by omega
   subst iZ;rw[aV,List.drop_length,List.flatMap_nil];refine acn (R:=own bk b.ax.length ck 33 (b.ax.flatMap bM)::own bo b.aC.length cc 14 (b.aC.flatMap aO)::rd r ([],false)::L) hg ?_ (mE.own (λ_=>rfl) rfl) λp=>?_
   ·have:=mE.own (W:=W) (L:=rd r ([],false)::L) (b:=bo) (n:=b.aC.length) (c:=cc) (e:=14) (g:=aO) (xs:=b.aC) (λ_=>rfl) rfl;exact this.mono
   apply ws;apply ef (by decide);refine O7 (r:=r) (oF ?_);apply T.sub (h p);exact qo
end
end Go.Up
namespace Go.Sep
open Go.Den Go.RowKit Go.Prog Go.cG
def qF{D:aY}{a toX q a2:Int}{s:List UInt8}(h:mC D a toX q=some (s,a2)):a<a2/\a2<=toX/\0<=a/\toX<=(D.safe.length:Int)/\s.length<=32768/\a2=a+(gH (12+s.length):Int):=by
 unfold mC at h;split at h
 ·cases h
 rename_i ha;split at h
 ·cases h
 rename_i m j d hv;split at h
 ·cases h
 rename_i hj;split at h
 ·cases h
 rename_i hc;split at h
 ·cases h
 rename_i t ht;obtain⟨l1,l2,l3,l4,l5⟩:=take_length ht;simp only[bA.injEq,Prod.mk.injEq] at h;obtain⟨h1,h2⟩:=h;subst h1;have hn: ¬32768<jm 4 (eV 8 (d.data.toList,false)):=λhh=>hc (.inr hh);have h4:=J3 (eV 8 (d.data.toList,false));generalize jm 4 (eV 8 (d.data.toList,false))=n6 at *;have hp:=sP (12+n6).toNat;have e:(12+n6).toNat=12+(t.drop 12).length:=by rw[aS];omega
 rw[e] at h2 l3 hp;rw[<-h2];have hl:(t.drop 12).length=t.length-12:=aS;exact⟨by omega,by omega,l2,l4,by omega,rfl⟩
def AD(D:aY)(toX:Int):Nat->Int->Int->List (List UInt8)×Int×Int
 |0,a,q=>([],a,q)
 |f+1,a,q=>match mC D a toX (q+1) with
  |none=>([],a,q)
  |some (s,a2)=>(s::(AD D toX f a2 (q+1)).1,(AD D toX f a2 (q+1)).2)
def lq(D:aY)(toX a q:Int):List (List UInt8)×Int×Int:=AD D toX (toX-a).toNat a q
def C2{D:aY}{a toX q:Int}(h:toX<=a):mC D a toX q=none:=by unfold mC;rw[ai h]
def B3{D:aY}{toX:Int}:∀(f f':Nat)(a q:Int),(toX-a).toNat<=f->(toX-a).toNat<=f'->AD D toX f a q=AD D toX f' a q
 |0,f',a,q,h1,h2=>by
  have hn:=C2 (D:=D) (a:=a) (toX:=toX) (q:=q+1) (by omega);cases f' with
  |zero=>rfl
  |succ f'=>simp only[AD,hn]
 |f+1,0,a,q,h1,h2=>by
  have hn:=C2 (D:=D) (a:=a) (toX:=toX) (q:=q+1) (by omega);simp only[AD,hn]
 |f+1,f'+1,a,q,h1,h2=>by
  simp only[AD];cases hn:mC D a toX (q+1) with
  |none=>rfl
  |some y=>
   obtain⟨s,a2⟩:=y;have:=qF hn;dsimp only;rw[B3 f f' a2 (q+1) (by omega) (by omega)]
def Ge{D:aY}{toX a q:Int}(h:mC D a toX (q+1)=none):lq D toX a q=([],a,q):=by
 unfold lq;cases hf:(toX-a).toNat with
 |zero=>rfl
 |succ f=>simp only[AD,h]
def Gf{D:aY}{toX a q a2:Int}{s:List UInt8}(h:mC D a toX (q+1)=some (s,a2)):lq D toX a q=(s::(lq D toX a2 (q+1)).1,(lq D toX a2 (q+1)).2):=by
 have hi:=qF h;unfold lq;obtain⟨f,hf⟩:∃f,(toX-a).toNat=f+1:=⟨(toX-a).toNat-1,by omega⟩;rw[hf];simp only[AD,h];rw[B3 f (toX-a2).toNat a2 (q+1) (by omega) (by omega)]
section
variable {W w:World} {L:LH} {k d:Nat} {D:aY}
def HC(l:List UInt8):Value:=.s (bs l)
def LQ{lo hi:Int}{K:VK}(h:St W w L)(hk:L[k]?=some (gN d D))(hK:K (.b (decide (0<=lo/\lo<hi/\hi<=(D.safe.length:Int)))) w):sF (ah d) lo hi K w:=by
 have no: ¬(0<=lo/\lo<hi/\hi<=(D.safe.length:Int))->K (.b false) w:=λhn=>by rw[ao hn] at hK;exact hK
 unfold sF;refine fV (λh1=>?_) (λh1=>no (by omega));refine fV (λh2=>?_) (λh2=>no (by omega));refine oq h hk ?_;simp only[nz,ae,af];have:decide (hi<=(D.safe.length:Int))=decide (0<=lo/\lo<hi/\hi<=(D.safe.length:Int)):=by rw[decide_eq_decide];omega
 rw[this];exact hK
def SF{lo hi q:Int}{K:VK}(h:St W w L)(hk:L[k]?=some (gN d D))(iz:D.Ok)(hp:0<=lo/\lo<hi/\hi<=(D.safe.length:Int))(hq:0<=q/\q<=1152921504606846976)
 (hK:∀r b c w',(∃n:Nat,n<=4096/\(lq D hi lo q).1.length=n/\(lq D hi lo q).2.2=q+n/\lo<=(lq D hi lo q).2.1/\(lq D hi lo q).2.1<=hi)->St W w' (own b (lq D hi lo q).1.length c 1 ((lq D hi lo q).1.map HC)::pt r (sG d ⟨lo,hi,(lq D hi lo q).2.1,(lq D hi lo q).2.2,false⟩)::L)->
  K (.tuple ⟨[.p (ah r),.l b (lq D hi lo q).1.length c,.i 0]⟩) w'):lv (ah d) lo hi q K w:=by
 have xu:=iz.oJ;unfold lv;simp only[nz,ae,af];refine LQ h hk ?_;rw[aw hp];simp only[nz,ae,af];refine fV (λh1=>by omega) (λ_=>?_);have e0:decide (q>1152921504606846976)=false:=ao (by omega);rw[e0];unfold lv.j1;simp only[nz,ae,af];refine jh h λr w h=>?_;have h0:=h.push (A:=own none 0 0 1 (([]:List (List UInt8)).map HC)) (sA 1);refine⟨λus w'=>∃(acc:List (List UInt8))(a:Int)(b:OA)(n c:Nat),us=[.p none,.l none 0 0,.i 0,.p (ah r),.l b n c]/\acc.length=n/\lo+n<=a/\a<=hi/\
                                                                   lq D hi lo q=(acc++(lq D hi a (q+n)).1,(lq D hi a (q+n)).2)/\St W w' (own b n c 1 (acc.map HC)::pt r (sG d ⟨lo,hi,a,q+n,false⟩)::L),
  λus _=>match us with|[_,_,_,_,.slice _ n _]=>5000-n|_=>0,⟨[],lo,none,0,0,rfl,rfl,by omega,by omega,by simp,?_⟩,?_⟩
 ·have:sG d ⟨lo,hi,lo,q+((0:Nat):Int),false⟩=[.p (ah d),.i lo,.i hi,.i lo,.i q,.b false]:=by
   rw[show q+((0:Nat):Int)=q from by omega];rfl
  rw[this];exact h0
 rintro p2 wc vw wN n4 a1 ov mo qf w2 ⟨acc,a,b,n,c,he,hn,ha,hah,ho,h⟩;cases he
 refine mK h λw h=>?_;refine cZ (k:=1) h rfl (v:=.i a) rfl ?_;simp only[nz,ae,af];refine cZ (k:=1) h rfl (v:=.i (q+mo)) rfl ?_;simp only[nz,ae,af];have ew:aa.wrap (q+(mo:Int)+1)=q+(mo:Int)+1:=aX (by omega);rw[ew];refine RD (k:=k+2) h (by rw[bX,bX];exact hk) iz (by omega) (by omega) λw h=>?_;cases hx:mC D a hi (q+(mo:Int)+1) with
 |none=>
  unfold B7;simp only[nz,ae,af];refine kI (k:=1) h rfl rfl ?_;rw[Ge hx,bR] at ho;have:=hK r ov qf w;rw[ho] at this;dsimp only at this;rw[hn] at this;exact this ⟨mo,by omega,rfl,rfl,by omega,by omega⟩ h
 |some y=>
  obtain⟨s,a2⟩:=y;obtain⟨b1,b2,b3,b4,b5,b6⟩:=qF hx;unfold B7;simp only[nz,ae,af];refine kI (k:=1) h rfl rfl ?_;refine⟨trivial,jh h λr2 w h=>?_⟩;refine vh (k:=1) (ys:=[HC s]) h rfl (He (k':=0) h rfl rfl λj v hj=>by rw[aB];exact hj) (by simp) rfl (by omega) (by omega) (by simp[HC,Value.oneCell']) λb' c' w h=>?_;simp only[nz,ae,af] at h⊢;refine cZ (k:=2) h rfl (v:=.i (q+mo)) rfl ?_;simp only[nz,ae,af];refine pn (k:=2) h rfl (aK rfl) rfl λw h=>?_;simp only[nz,ae,af] at h;refine pn (k:=2) h rfl (aK rfl) rfl λw h=>?_;simp only[nz,ae,af] at h;rw[ew] at h;refine⟨⟨acc++[s],a2,b',mo+1,c',rfl,by rw[av,hn];rfl,by omega,by omega,?_,?_⟩,by omega⟩
  ·rw[ho,Gf hx,show q+(mo:Int)+1=q+((mo+1:Nat):Int) from by omega,aH];rfl
  ·rw[cF];have:sG d ⟨lo,hi,a2,q+((mo+1:Nat):Int),false⟩=[.p (ah d),.i lo,.i hi,.i a2,.i (q+(mo:Int)+1),.b false]:=by
    rw[show q+((mo+1:Nat):Int)=q+(mo:Int)+1 from by omega];rfl
   rw[this];exact h.drop
end
def FL(d:BA):Int:=jm 8 (d.data.toList,false)
def VI(l:List UInt8):(part (bs l) 0).data.toList=l.take 104:=by
 unfold part;rw[extract_toList,Nat.mul_zero,jf]
 rfl
def Mx(seq:Int)(s:BA):dv seq s=le .i64 8 seq++(le .i64 4 s.size++s.data.toList):=by simp only[dv,aH]
def N'(seq:Int)(s:BA):∃r,(part (bs (dv seq s)) 0).data.toList=le .i64 8 seq++(le .i64 4 s.size++r):=by
 rw[VI,Mx];refine⟨s.data.toList.take 92,?_⟩;have h8:(le .i64 8 seq).length=8:=aQ _ _ _;have h4:(le .i64 4 (s.size:Int)).length=4:=aQ _ _ _;rw[List.take_append,List.take_append,h8,h4,bU (by rw[h8];omega),bU (l:=le .i64 4 (s.size:Int)) (by rw[h4];omega)]
def Tt{m:Nat}(h:m<4294967296):ow (le .i64 4 (m:Int))=m:=by
 rw[sr m 4 (by omega)];exact fG h
def RB{n:Int}(h:0<=n/\n<9223372036854775808):nK (le .i64 8 n)=n:=by
 obtain⟨m,rfl⟩:=bh h.1;unfold nK;rw[sr m 8 (by omega)];have h8:(256:Nat)^8=18446744073709551616:=rfl;rw[h8,fG (by omega),aX (by omega)]
def wh{seq:Int}{s:BA}(hq:0<=seq/\seq<9223372036854775808)(hs:s.size<=32768):
 FL (part (bs (dv seq s)) 0)=seq/\(eV 4 (eV 8 ((part (bs (dv seq s)) 0).data.toList,false))).2=false/\jm 4 (eV 8 ((part (bs (dv seq s)) 0).data.toList,false))=(s.size:Int):=by
 obtain⟨r,hr⟩:=N' seq s;unfold FL;rw[hr];have h8:(le .i64 8 seq).length=8:=aQ _ _ _;have h4:(le .i64 4 (s.size:Int)).length=4:=aQ _ _ _;have e1:eV 8 (le .i64 8 seq++(le .i64 4 s.size++r),false)=(le .i64 4 s.size++r,false):=by
  unfold eV;rw[ag (by simp only[cM,false_or,av,h8];omega),vI _ _ 8 h8]
 have e2:jm 8 (le .i64 8 seq++(le .i64 4 s.size++r),false)=seq:=by
  unfold jm;rw[ag (by simp only[cM,false_or,av,h8];omega),ud _ _ 8 h8,RB hq]
 have e3:eV 4 (le .i64 4 (s.size:Int)++r,false)=(r,false):=by
  unfold eV;rw[ag (by simp only[cM,false_or,av,h4];omega),vI _ _ 4 h4]
 have e4:jm 4 (le .i64 4 (s.size:Int)++r,false)=(s.size:Int):=by
  unfold jm;rw[ag (by simp only[cM,false_or,av,h4];omega),ud _ _ 4 h4,oy (by rw[h4];omega),Tt (by omega)]
 rw[e1,e2,e3,e4];exact⟨rfl,rfl,rfl⟩
def tD(seq:Int)(s:BA):(bs (dv seq s)).size=12+s.size:=by rw[bV,AN]
def Lf{D:aY}{a toX n:Int}{s:BA}(hn:1<=n/\n<=1152921504606846976)(h0:0<=a)(WC:a+(gH s.size:Int)<=toX)(hlen:toX<=(D.safe.length:Int))(xu:D.safe.length<=4096)
 (hr:∀i:Nat,i<gH s.size->(D.read (a+i)).1=leaf n i (part s i)):take D a toX n s.size=some s.data.toList:=by
 have hb:s.size<=104* gH s.size:=by unfold gH;split<;>omega
 have UT:∀q:Nat,(part s q).size=min (104* (q+1)) s.size-104* q:=λq=>by unfold part;rw[ug]
 have qc:s.size<=425984:=by omega
 unfold take;rw[ag (by rw[ak];omega),ak,CL (s:=s) (gH s.size) 0 (λq _ hq=>by
  have hg:eB n q (part s q):=⟨hn.1,hn.2,by omega,by omega,nP s q⟩
  rw[hr q (by omega),nQ hg]
  exact⟨pB hg,by rw[UT];omega⟩)]
 congr 1
 rw[Nat.mul_zero,jf,bU (by rw[eW];exact hb)]
def DL{D:aY}{a toX n q:Int}{s:BA}(hn:1<=n/\n<=1152921504606846976)(hq:0<=q/\q<9223372036854775808)(hs:s.size<=32768)(h0:0<=a)(WC:a+(gH (12+s.size):Int)<=toX)(hlen:toX<=(D.safe.length:Int))(xu:D.safe.length<=4096)
 (hr:∀i:Nat,i<gH (12+s.size)->(D.read (a+i)).1=leaf n i (part (bs (dv q s)) i)):mC D a toX q=some (s.data.toList,a+(gH (12+s.size):Int)):=by
 have Cj:=tD q s;have hp:=sP (12+s.size);obtain⟨p1,p2,p3⟩:=wh hq hs;have h00:=hr 0 hp;rw[show a+((0:Nat):Int)=a from by omega] at h00;have hg:eB n ((0:Nat):Int) (part (bs (dv q s)) 0):=⟨hn.1,hn.2,by omega,by omega,nP _ 0⟩;have ht:=Lf (D:=D) (a:=a) (toX:=toX) (s:=bs (dv q s)) hn h0 (by rw[Cj];exact WC) hlen xu (by rw[Cj];exact hr);unfold mC;rw[ag (by omega),h00,nQ hg,pB hg];dsimp only;unfold FL at p1;rw[ag (by rintro(hh|hh);exact hh rfl;exact hh p1),p2,p3,ag (by rintro(hh|hh);cases hh;omega)];rw[Cj] at ht;have e1:((12+s.size:Nat):Int)=12+(s.size:Int):=by omega
 rw[e1] at ht;rw[ht];dsimp only;have e2:(12+(s.size:Int)).toNat=12+s.size:=by omega
 have e3:(bs (dv q s)).data.toList.drop 12=s.data.toList:=by
  show(dv q s).drop 12=_;unfold dv;exact vI _ _ 12 (by rw[av,aQ,aQ])
 rw[e2,e3]
def DC{D D':aY}{a n:Int}{size:Nat}:∀(k i:Nat),(∀j:Nat,i<=j->j<i+k->(D'.read (a+j)).1=(D.read (a+j)).1)->nF D' a n size i k=nF D a n size i k
 |0,i,_=>rfl
 |k+1,i,h=>by
  rw[py,py,h i (aI _) (by omega),DC k (i+1) (λj h1 h2=>h j (by omega) (by omega))]
def wj{D D':aY}{a toX q a2:Int}{s:List UInt8}(h:mC D a toX q=some (s,a2))(hlen:D'.safe.length=D.safe.length)(hr:∀j:Int,a<=j->j<a2->(D'.read j).1=(D.read j).1):mC D' a toX q=some (s,a2):=by
 obtain⟨i1,i2,i3,i4,i5,i6⟩:=qF h;have h0:=hr a (by omega) (by omega);have aic:=h;unfold mC at h⊢;rw[h0];split at h
 ·cases h
 rename_i ha;rw[ag ha];split at h
 ·cases h
 rename_i m j d hv;split at h
 ·cases h
 rename_i hj;rw[ag hj];split at h
 ·cases h
 rename_i hc;rw[ag hc];split at h
 ·cases h
 rename_i t ht;obtain⟨l1,l2,l3,l4,l5⟩:=take_length ht;have Mg:take D' a toX m (12+jm 4 (eV 8 (d.data.toList,false)))=some t:=by
  simp only[bA.injEq,Prod.mk.injEq] at h;rw[<-ht];unfold take;rw[hlen,DC _ 0 (λj h1 h2=>hr (a+j) (by omega) (by omega))]
 rw[Mg];dsimp only;exact h
def C1{D:aY}{a toX q:Int}(h:∀m d,mB (D.read a).1.data.toList=some (m,0,d)->FL d≠q):mC D a toX q=none:=by
 unfold mC;split
 ·rfl
 split
 ·rfl
 rename_i m j d hv;by_cases hj:j=0
 ·subst hj;rw[ai (.inr (h m d hv))]
 ·rw[ai (.inl hj)]
def kz(D:aY)(toX:Int):Int->Int->List (List UInt8)->Int->Prop
 |a,_,[],e=>a=e
 |a,q,s::r,e=>∃a2,mC D a toX (q+1)=some (s,a2)/\kz D toX a2 (q+1) r e
def MQ{D:aY}{toX:Int}:∀(r:List (List UInt8)) {a q e:Int},kz D toX a q r e->a+r.length<=e
 |[],a,q,e,h=>by unfold kz at h;simp;omega
 |s::r,a,q,e,⟨a2,h1,h2⟩=>by
  have:=qF h1;have:=MQ r h2;rw[bE];omega
def GY{D:aY}{toX:Int}:∀(r:List (List UInt8)) {a q e:Int},kz D toX a q r e->mC D e toX (q+r.length+1)=none->lq D toX a q=(r,e,q+r.length)
 |[],a,q,e,h,hn=>by
  unfold kz at h;subst h;have e0:q+(([]:List (List UInt8)).length:Int)=q:=by simp
  rw[e0] at hn⊢;exact Ge hn
 |s::r,a,q,e,⟨a2,h1,h2⟩,hn=>by
  have e1:q+((s::r).length:Int)=q+1+(r.length:Int):=by rw[bE];omega
  rw[e1] at hn⊢;rw[Gf h1,GY r h2 hn]
def wD{D D':aY}{toX:Int}(hlen:D'.safe.length=D.safe.length):∀(r:List (List UInt8)) {a q e:Int},kz D toX a q r e->(∀j:Int,a<=j->j<e->(D'.read j).1=(D.read j).1)->kz D' toX a q r e
 |[],a,q,e,h,_=>h
 |s::r,a,q,e,⟨a2,h1,h2⟩,hr=>by
  have hi:=qF h1;have hl:=MQ r h2;exact⟨a2,wj h1 hlen (λj h3 h4=>hr j h3 (by omega)),wD hlen r h2 (λj h3 h4=>hr j (by omega) h4)⟩
def GX{D:aY}{toX:Int}:∀(r:List (List UInt8)) {a q e e2:Int} {s:List UInt8},kz D toX a q r e->mC D e toX (q+r.length+1)=some (s,e2)->kz D toX a q (r++[s]) e2
 |[],a,q,e,e2,s,h,hn=>by
  unfold kz at h;subst h;have e0:q+(([]:List (List UInt8)).length:Int)=q:=by simp
  rw[e0] at hn;exact⟨e2,hn,rfl⟩
 |x::r,a,q,e,e2,s,⟨a2,h1,h2⟩,hn=>by
  have e1:q+((x::r).length:Int)=q+1+(r.length:Int):=by rw[bE];omega
  rw[e1] at hn;exact⟨a2,h1,GX r h2 hn⟩
def PJ.more(J:PJ)(s:BA):PJ:={J with at':=J.at'+(gH (12+s.size):Int),seq:=J.seq+1}
def VU{n:Nat}{D:aY}{J:PJ}{number:Int}{s:BA}(hc:Calm n D)(cS:n<=4096)(hJ:J.Ok D)(Yb:J.dK=false)(qG:1<=number/\number<=1152921504606846976)(HK:J.seq<1152921504606846976)(hr:room J s.size):
 ∃D',uO D J number s=(D',J.more s,0)/\Calm n D'/\D'.later=[]/\(J.more s).Ok D'/\(∀i:Nat,i<gH (12+s.size)->(D'.read (J.at'+i)).1=leaf number i (part (bs (dv (J.seq+1) s)) i))/\
  (∀j:Int,0<=j->j<n->(j<J.at'\/J.at'+(gH (12+s.size):Int)<=j)->(D'.read j).1=(D.read j).1)/\mC D' J.at' J.hi (J.seq+1)=some (s.data.toList,J.at'+(gH (12+s.size):Int)):=by
 obtain⟨j1,j2,j3,j4,j5⟩:=hJ;obtain⟨r1,r2,r3⟩:=hr;rw[ak] at r3;have hlen:=hc.len;have Cj:=tD (J.seq+1) s;obtain⟨a,ha⟩:=bh (show 0<=J.at' by omega);obtain⟨t,ht⟩:=bh (show 0<=J.hi by omega);obtain⟨p1,p2,p3,p4⟩:=P' (n:=n) (a:=a) (t:=t) (number:=number) (s:=bs (dv (J.seq+1) s)) hc cS qG (by rw[Cj];omega) (by omega);have p5:=UD (n:=n) (a:=a) (t:=t) (number:=number) (s:=bs (dv (J.seq+1) s)) hc cS qG (by rw[Cj];omega) (by omega);rw[Cj] at p3 p4;rw[<-ha,<-ht] at p1 p2 p3 p4 p5;have AJ:=p2.len;refine⟨(eY D J.at' J.hi number (bs (dv (J.seq+1) s))).1,?_,p2,p5,⟨j1,?_,?_,?_,?_⟩,p3,λj h1 h2 h3=>?_,?_⟩
 ·unfold uO;rw[ag (by rw[Yb];exact rY),ag (by omega),ag (by rintro(hh|hh);exact hh ⟨r1,r2,by rw[ak];exact r3⟩;omega)];unfold Dn;rw[ag (λhh=>hh p1)]
  rfl
 ·show J.lo<=J.at'+_;omega
 ·show J.at'+_<=J.hi;omega
 ·show J.hi<=_;omega
 ·show 0<=J.seq+1/\J.seq+1<=_;omega
 ·obtain⟨m,rfl⟩:=bh h1;exact p4 m (by omega) (by omega)
 ·exact DL qG (by omega) (by omega) (by omega) (by omega) (by omega) (by omega) p3
def L0{D:aY}{a toX q:Int}(h:(D.read a).1=nE 128):mC D a toX q=none:=
 C1 (λm d hv=>by rw[h,zp] at hv;cases hv)
def IM{n:Nat}(h:n<=4096){j:Int}(h0:0<=j)(hj:j<n):((aY.new n).read j).1=nE 128:=by
 obtain⟨m,rfl⟩:=bh h0;exact zy h (by omega)
section
variable {W w:World} {L:LH} {k d:Nat} {D:aY}
end
def Ag{l:List UInt8}{k:Nat}(hk:k<=8)(hl:l.length=k):l=le .i64 k (ow l:Int):=by
 refine K6 _ _ (by rw[hl,aQ]) ?_;have:=sq l;rw[hl] at this;rw[sr (ow l) k hk,fG this]
def C8{l:List UInt8}{n:Int}(hl:l.length=8)(hn:0<=n)(h:nK l=n):l=le .i64 8 n:=by
 have hv:=sq l;have h8:(256:Nat)^8=18446744073709551616:=rfl;rw[hl,h8] at hv;have sJ:(ow l:Int)=n:=by
  unfold nK at h;simp[IntKind.wrap,IntKind.bits,IntKind.signed] at h;split at h<;>omega
 rw[<-sJ];exact Ag (by decide) hl
def CW{l:List UInt8}{n j:Int}{d:BA}(h:mB l=some (n,j,d)):l=mU n j d/\eB n j d:=by
 unfold mB at h;split at h
 ·cases h
 rename_i h1;split at h
 ·cases h
 rename_i h2;split at h
 ·cases h
 rename_i h3;split at h
 ·cases h
 rename_i h4;split at h
 ·cases h
 rename_i h5;split at h
 ·cases h
 rename_i h6;have h1:=bp.1 h1;have h2:uJ (l.take 120)=true:=by cases hh:uJ (l.take 120) with
  |true=>rfl
  |false=>exact aT hh h2
 have h4:=bp.1 h4;have h5:=bp.1 h5;have h6:=bp.1 h6;simp only[bA.injEq,Prod.mk.injEq] at h;obtain⟨rfl,rfl,rfl⟩:=h;refine⟨?_,h6⟩;obtain⟨g1,g2,g3,g4,g5⟩:=h6;have hM:sM l<=104:=by omega
 have l8:(l.drop 8).length=120:=by rw[aS];omega
 have l10:((l.drop 8).drop 2).length=118:=by rw[aS];omega
 have lr:(ng l).length=116:=by unfold ng;rw[aS];omega
 have p1:l.take 8=le .i64 8 (sN l):=C8 (by rw[aD];omega) (by omega) rfl;have p2:(l.drop 8).take 2=le .i64 2 (sI l):=by
  have e:sI l=(ow ((l.drop 8).take 2):Int):=oy (by rw[aD];omega);rw[e];exact Ag (by decide) (by rw[aD];omega)
 have p3:((l.drop 8).drop 2).take 2=le .i64 2 (sM l:Int):=Ag (by decide) (by rw[aD];omega);have hD:(sD l).length=sM l:=by unfold sD;rw[aD];omega
 have lrm:((ng l).drop (sM l)).length=116-sM l:=by rw[aS,lr]
 have hZ:(sZ l).length=104-sM l:=by unfold sZ;rw[aD];omega
 have lrz:(((ng l).drop (sM l)).drop (104-sM l)).length=12:=by rw[aS,lrm];omega
 have lrc:((((ng l).drop (sM l)).drop (104-sM l)).drop 4).length=8:=by rw[aS,lrz]
 have p6:(((ng l).drop (sM l)).drop (104-sM l)).drop 4=le .i64 8 (sN l):=by
  refine C8 lrc (by omega) ?_;rw[<-h4];unfold DF;rw[bU (by omega)]
 rw[hZ] at h5;have e1:l=l.take 8++((l.drop 8).take 2++(((l.drop 8).drop 2).take 2++(sD l++(sZ l++((((ng l).drop (sM l)).drop (104-sM l)).take 4++(((ng l).drop (sM l)).drop (104-sM l)).drop 4))))):=by
  unfold sD sZ;rw[dy,dy,dy];unfold ng;rw[dy,dy,dy]
 have qc:(bs (sD l)).size=sM l:=by rw[bV,hD]
 have afO:pre (sN l) (sI l) (bs (sD l))=l.take 8++((l.drop 8).take 2++(((l.drop 8).drop 2).take 2++(sD l++sZ l))):=by
  unfold pre;rw[qc,p1,p2,p3,h5];simp only[aH]
  rfl
 have SW:(pre (sN l) (sI l) (bs (sD l))).length=116:=rQ g5;have e2:l=pre (sN l) (sI l) (bs (sD l))++((((ng l).drop (sM l)).drop (104-sM l)).take 4++(((ng l).drop (sM l)).drop (104-sM l)).drop 4):=by
  rw[afO];simp only[aH];exact e1
 have abY:l.take 116=pre (sN l) (sI l) (bs (sD l)):=by
  have:=congrArg (List.take 116) e2;rw[ud _ _ 116 SW] at this;exact this
 have e4:(l.take 120).drop 116=(((ng l).drop (sM l)).drop (104-sM l)).take 4:=by
  have afN:l.drop 116=(((ng l).drop (sM l)).drop (104-sM l)).take 4++(((ng l).drop (sM l)).drop (104-sM l)).drop 4:=by
   have:=congrArg (List.drop 116) e2;rw[vI _ _ 116 SW] at this;exact this
  rw[List.drop_take,afN];exact ud _ _ 4 (by rw[aD];omega)
 have afD:wS (uf 0 (pre (sN l) (sI l) (bs (sD l))))=(((ng l).drop (sM l)).drop (104-sM l)).take 4:=by
  unfold uJ at h2;have Kg:(l.take 120).length=120:=by rw[aD];omega
  rw[Kg,show 120-4=116 from rfl,e4,yK,show min 116 120=116 from rfl,abY] at h2;simpa using h2
 unfold mU;rw[afD,aH];rw[p6] at e2;exact e2
def Ii{D:aY}{a n:Int}{size:Nat}:∀(k i:Nat) {t:List UInt8},nF D a n size i k=some t->size<=104* (i+k)->∀q,i<=q->q<i+k->
 ∃d,mB (D.read (a+q)).1.data.toList=some (n,(q:Int),d)/\d.data.toList=(t.drop (104* (q-i))).take 104
 |0,i,t,h,hs,q,h1,h2=>by omega
 |k+1,i,t,h,hs,q,h1,h2=>by
  rw[py] at h;split at h
  ·cases h
  rename_i m j d hv;split at h
  ·rename_i hc;obtain⟨rfl,rfl,hd⟩:=hc;cases ht:nF D a m size (i+1) k with
   |none=>rw[ht] at h;cases h
   |some u=>
    rw[ht] at h;simp only[fm,bA.injEq] at h;subst h;have Bu:d.data.toList.length=d.size:=rfl;by_cases hq:q=i
    ·subst hq;refine⟨d,hv,?_⟩;rw[kR,Nat.mul_zero,jf];by_cases h3:104* (q+1)<=size
     ·exact(ud _ _ 104 (by omega)).symm
     ·have hu:u.length=0:=by
       by_cases hk:k=0
       ·subst hk;simp only[nF,bA.injEq] at ht;subst ht;rfl
       ·
        have hz:∀(n' i':Nat) {v:List UInt8},nF D a m size i' n'=some v->size<=104* i'->v.length=0:=by
         intro n'
         induction n' with
         |zero=>intro i' v h _;simp only[nF,bA.injEq] at h;subst h;rfl
         |succ n' ih=>
          intro i' v h hle;rw[py] at h;split at h
          ·cases h
          ·split at h
           ·rename_i Ow;cases I4:nF D a m size (i'+1) n' with
            |none=>rw[I4] at h;cases h
            |some v2=>
             rw[I4] at h;simp only[fm,bA.injEq] at h;subst h;have:=ih (i'+1) I4 (by omega);rw[av,this,eW,Ow.2.2];omega
           ·cases h
        exact hz k (q+1) ht (by omega)
      rw[List.eq_nil_of_length_eq_zero hu,bR,bU (by omega)]
    ·obtain⟨d2,Qp,WO⟩:=Ii k (i+1) ht (by omega) q (by omega) (by omega);refine⟨d2,Qp,?_⟩;have hu:104* (i+1)<=size\/u.length=0:=by
      by_cases h3:104* (i+1)<=size
      ·exact .inl h3
      ·right
       have hz:∀(n' i':Nat) {v:List UInt8},nF D a m size i' n'=some v->size<=104* i'->v.length=0:=by
        intro n'
        induction n' with
        |zero=>intro i' v h _;simp only[nF,bA.injEq] at h;subst h;rfl
        |succ n' ih=>
         intro i' v h hle;rw[py] at h;split at h
         ·cases h
         ·split at h
          ·rename_i Ow;cases I4:nF D a m size (i'+1) n' with
           |none=>rw[I4] at h;cases h
           |some v2=>
            rw[I4] at h;simp only[fm,bA.injEq] at h;subst h;have:=ih (i'+1) I4 (by omega);rw[av,this,eW,Ow.2.2];omega
          ·cases h
       exact hz k (i+1) ht (by omega)
     rw[WO];rcases hu with h3|h3
     ·have:(d.data.toList++u).drop (104* (q-i))=u.drop (104* (q-(i+1))):=by
       rw[show 104* (q-i)=104+104* (q-(i+1)) from by omega,<-jX,vI _ _ 104 (by omega)]
      rw[this]
     ·rw[List.eq_nil_of_length_eq_zero h3,bR];simp only[List.drop_nil,List.take_nil];rw[gG (by omega)]
      rfl
  ·cases h
def IL{D:aY}{a toX q a2:Int}{s:List UInt8}(hq:0<=q)(h:mC D a toX q=some (s,a2)):
 ∃m d,1<=m/\m<=1152921504606846976/\mB (D.read a).1.data.toList=some (m,0,d)/\∀i:Nat,i<gH (12+s.length)->(D.read (a+i)).1=leaf m i (part (bs (dv q (bs s))) i):=by
 have hi:=qF h;unfold mC at h;split at h
 ·cases h
 rename_i ha;split at h
 ·cases h
 rename_i m j d hv;split at h
 ·cases h
 rename_i hj;split at h
 ·cases h
 rename_i hc;split at h
 ·cases h
 rename_i t ht;obtain⟨l1,l2,l3,l4,l5⟩:=take_length ht;simp only[bA.injEq,Prod.mk.injEq] at h;obtain⟨h1,h2⟩:=h;subst h1;have hj0:j=0:=by
  by_cases hh:j=0
  ·exact hh
  ·exact aT (.inl hh) hj
 have Yd:jm 8 (d.data.toList,false)=q:=by
  by_cases hh:jm 8 (d.data.toList,false)=q
  ·exact hh
  ·exact aT (.inr hh) hj
 subst hj0;have hn4:=J3 (eV 8 (d.data.toList,false));have hle: ¬32768<jm 4 (eV 8 (d.data.toList,false)):=λhh=>hc (.inr hh);have ah7:(eV 4 (eV 8 (d.data.toList,false))).2=false:=by
  cases hh:(eV 4 (eV 8 (d.data.toList,false))).2 with
  |false=>rfl
  |true=>exact aT (.inl hh) hc
 obtain⟨_,A8⟩:=CW hv;have tj:=ht;unfold take at tj;split at tj
 ·cases tj
 have hcn:(12+jm 4 (eV 8 (d.data.toList,false))).toNat=t.length:=by omega
 rw[hcn] at tj;have hb:t.length<=104* gH t.length:=by unfold gH;split<;>omega
 have RU:=Ii (gH t.length) 0 tj (by omega);have hcp:=sP t.length;obtain⟨d0,hv0,hd0⟩:=RU 0 (aI _) (by omega);rw[show a+((0:Nat):Int)=a from by omega,hv] at hv0;have afB:d=d0:=by cases hv0;rfl
 subst afB;rw[Nat.sub_zero,Nat.mul_zero,jf] at hd0;have aiC:12<=d.data.toList.length:=by
  rw[hd0,aD];omega
 have x1:eV 8 (d.data.toList,false)=(d.data.toList.drop 8,false):=by unfold eV;rw[ag (by simp only[cM,false_or];omega)]
 have x2:jm 8 (d.data.toList,false)=nK (d.data.toList.take 8):=by unfold jm;rw[ag (by simp only[cM,false_or];omega)]
 have l8:(d.data.toList.drop 8).length=d.data.toList.length-8:=aS;have x3:jm 4 (d.data.toList.drop 8,false)=nK ((d.data.toList.drop 8).take 4):=by unfold jm;rw[ag (by simp only[cM,false_or];omega)]
 rw[x2] at Yd;rw[x1,x3] at l1 hn4 hcn;have y1:d.data.toList.take 8=le .i64 8 q:=C8 (by rw[aD];omega) hq Yd;have hl4:((d.data.toList.drop 8).take 4).length=4:=by rw[aD];omega
 rw[oy (by omega)] at l1;have y2:(d.data.toList.drop 8).take 4=le .i64 4 ((t.length-12:Nat):Int):=by
  have:=Ag (by decide) hl4;rw[show(ow ((d.data.toList.drop 8).take 4):Int)=((t.length-12:Nat):Int) from by omega] at this;exact this
 have z1:t.take 8=le .i64 8 q:=by
  rw[<-y1,hd0,yK,show min 8 104=8 from rfl]
 have z2:(t.drop 8).take 4=le .i64 4 ((t.length-12:Nat):Int):=by
  rw[<-y2,hd0,List.drop_take,yK,show min 4 (104-8)=4 from rfl]
 have R7:dv q (bs (t.drop 12))=t:=by
  unfold dv;have qc:(bs (t.drop 12)).size=t.length-12:=by rw[bV,aS]
  rw[qc,<-z1,<-z2];show t.take 8++(t.drop 8).take 4++t.drop 12=t;have:t.drop 12=(t.drop 8).drop 4:=by rw[jX]
  rw[this,aH,dy,dy]
 refine⟨m,d,A8.1,A8.2.1,hv,λi hi2=>?_⟩;have afn:12+(t.drop 12).length=t.length:=by rw[aS];omega
 rw[afn] at hi2;obtain⟨di,hvi,HO⟩:=RU i (aF _) (by omega);obtain⟨hx,Nt⟩:=CW hvi;rw[R7];have Qr:part (bs t) i=di:=by
  apply lh;rw[HO];unfold part;rw[extract_toList];show(t.drop (104* i)).take (104* (i+1) -104* i)=_;rw[Nat.sub_zero,show 104* (i+1) -104* i=104 from by omega]
 rw[Qr];apply lh;rw[nQ Nt];exact hx
section
variable {W w:World} {L:LH}
end
def Q5{D:aY}(h:D.sync.2=0):D.sync.1.later=[]:=by
 unfold aY.sync at h⊢;split at h
 ·simp at h
 ·rename_i hf;rw[ag hf]
def P9{D:aY}{at' toX number:Int}{s:BA}(h:(eY D at' toX number s).2=0):(eY D at' toX number s).1.later=[]:=by
 unfold eY at h⊢;split at h
 ·rename_i hh;exact aT h hh
 ·rename_i hh;rw[ag hh];exact Q5 h
def Bf{D:aY}(h:D.later=[])(mask torn cut:Int)(j:Int):(D.fJ mask torn cut).read j=D.read j:=by
 have e:D.fJ mask torn cut=⟨D.safe,[],D.ops,0⟩:=by rw[oa,h];rfl
 rw[e];unfold aY.read aY.is aY.now;rw[h]
def IV{at' number:Int}{s:BA}(qG:1<=number/\number<=1152921504606846976)(Ak:0<=at'):∀(n i:Nat) {D:aY},at'+i+n<=D.safe.length->i+n<=4096->(pR at' number s D i n).2=0\/(pR at' number s D i n).2=8
 |0,i,D,hr,hi=>.inl rfl
 |n+1,i,D,hr,hi=>by
  have hg:eB number i (part s i):=⟨qG.1,qG.2,by omega,by omega,nP s i⟩;have qc:=u9 hg;have vV:D.is (at'+i):=⟨by omega,by omega⟩;have Ay: ¬(¬D.is (at'+i)\/128<(leaf number i (part s i)).size):=by
   rintro(hh|hh)
   ·exact hh vV
   ·omega
  have ur:=(tv D (at'+i) (leaf number i (part s i))).1;have hw:D.write (at'+i) (leaf number i (part s i))=if D.wu then(D.tick,8) else({Go.cG.aY.tick D with later:=D.later++[(at'+i,aY.pad (leaf number i (part s i)))]},0):=by
   unfold aY.write;rw[ag Ay]
  unfold pR;cases hf:D.wu with
  |true=>
   rw[hf,ai rfl] at hw;rw[hw,ai (by simp)];exact .inr rfl
  |false=>
   rw[hf,ag rY] at hw;have h0:(D.write (at'+i) (leaf number i (part s i))).2=0:=by rw[hw]
   rw[ag (by rw[h0];exact λhh=>hh rfl)];exact IV qG Ak (s:=s) n (i+1) (D:=(D.write (at'+i) (leaf number i (part s i))).1) (by rw[ur];omega) (by omega)
def EV{n a t:Nat}{D:aY}{number:Int}{s:BA}(hlen:D.safe.length=n)(cS:n<=4096)(qG:1<=number/\number<=1152921504606846976)(hl:a+gH s.size<=t)(htn:t<=n):(eY D a t number s).2=0\/(eY D a t number s).2=8:=by
 have hcp:=sP s.size;have e:lay D (a:Nat) ((t:Nat):Int) number s=pR (a:Nat) number s D 0 (gH s.size):=by
  unfold lay;rw[ag (by rw[hlen];omega),ag (by omega)]
 have hc:=IV (at':=((a:Nat):Int)) (number:=number) (s:=s) qG (by omega) (gH s.size) 0 (D:=D) (by rw[hlen];omega) (by omega);unfold eY;rw[e];split
 ·exact hc
 ·unfold aY.sync;split
  ·exact .inr rfl
  ·exact .inl rfl
def Ix{g:Nat}{X:BA}{m j:Int}{d:BA}(he:Ends g X)(hg:g<256)(h:mB X.data.toList=some (m,j,d)):m<=g:=by
 obtain⟨hx,A8⟩:=CW h;obtain⟨_,⟨a,ha,h8⟩,_⟩:=he;rw[hx,zz] at h8;have e1:=pP (n:=m) ⟨by have:=A8.1;omega,A8.2.1⟩;have e2:=pP (n:=(a:Int)) ⟨by omega,by omega⟩;rw[h8,e2] at e1;omega
def DM{D D':aY}{a toX q:Int}(hlen:D'.safe.length=D.safe.length)(hr:∀j:Int,a<=j->j<toX->(D'.read j).1=(D.read j).1):mC D' a toX q=mC D a toX q:=by
 cases h:mC D a toX q with
 |some y=>
  obtain⟨s,a2⟩:=y;have:=qF h;exact wj h hlen (λj h1 h2=>hr j h1 (by omega))
 |none=>
  cases h':mC D' a toX q with
  |none=>rfl
  |some y=>
   obtain⟨s,a2⟩:=y;have:=qF h';have:=wj h' hlen.symm (λj h1 h2=>(hr j h1 (by omega)).symm);rw[h] at this;cases this
structure JG(n:Nat)(D:aY)(J:PJ)(q0:Int)(pc:List (List UInt8))(g:Nat):Prop where
 ok:D.Ok
 IW:D.later=[]
 len:D.safe.length=n
 yl:J.Ok D
 chain:kz D J.hi J.lo q0 pc J.at'
 seq:J.seq=q0+pc.length
 q0:0<=q0
 low:∀j:Int,J.lo<=j->j<J.hi->∀m d,mB (D.read j).1.data.toList=some (m,0,d)->FL d<=J.seq+1
 stop:mC D J.at' J.hi (J.seq+1)=none
 ends:∀j:Nat,j<n->Ends g (D.read (j:Int)).1
def JG.congr{n:Nat}{D D':aY}{J:PJ}{q0:Int}{pc:List (List UInt8)}{g:Nat}(h:JG n D J q0 pc g)(iz:D'.Ok)(A7:D'.later=[])(hlen:D'.safe.length=n)(hr:∀j:Int,0<=j->j<n->(D'.read j).1=(D.read j).1):JG n D' J q0 pc g:=by
 have hl:D'.safe.length=D.safe.length:=by rw[hlen,h.len]
 have j1:=h.yl.lo;have j2:=h.yl.Ey;have j3:=h.yl.QQ;have j4:=h.yl.hi;have j5:=h.len;refine⟨iz,A7,hlen,⟨j1,j2,j3,by rw[hl];exact j4,h.yl.seq⟩,wD hl _ h.chain (λj a b=>hr j (by omega) (by omega)),h.seq,h.q0,λj a b m d hv=>?_,?_,λj hj=>?_⟩
 ·rw[hr j (by omega) (by omega)] at hv;exact h.low j a b m d hv
 ·rw[DM hl (λj a b=>hr j (by omega) (by omega))];exact h.stop
 ·rw[hr j (by omega) (by omega)];exact h.ends j hj
def JG.opened{n:Nat}{D:aY}{J:PJ}{q0:Int}{pc:List (List UInt8)}{g:Nat}(h:JG n D J q0 pc g):lq D J.hi J.lo q0=(pc,J.at',J.seq):=by
 have:=h.stop;rw[h.seq] at this;rw[GY pc h.chain this,h.seq]
def fly{n:Nat}{D:aY}{J:PJ}{q0:Int}{pc:List (List UInt8)}{g m:Nat}{s:BA}(h:JG n D J q0 pc g)(cS:n<=4096)(hm:g<m)(KX:m<256)(hr:room J s.size)(Et:J.seq<1152921504606846976)(mask torn cut:Int):
 ((eY D J.at' J.hi m (bs (dv (J.seq+1) s))).2=0\/(eY D J.at' J.hi m (bs (dv (J.seq+1) s))).2=8)/\
 ((eY D J.at' J.hi m (bs (dv (J.seq+1) s))).2=0->∀i:Nat,i<gH (12+s.size)->(((eY D J.at' J.hi m (bs (dv (J.seq+1) s))).1.fJ mask torn cut).read (J.at'+i)).1=leaf m i (part (bs (dv (J.seq+1) s)) i))/\
 ((∀i:Nat,i<gH (12+s.size)->(((eY D J.at' J.hi m (bs (dv (J.seq+1) s))).1.fJ mask torn cut).read (J.at'+i)).1=leaf m i (part (bs (dv (J.seq+1) s)) i))->
   JG n ((eY D J.at' J.hi m (bs (dv (J.seq+1) s))).1.fJ mask torn cut) (J.more s) q0 (pc++[s.data.toList]) m)/\
 ((¬∀i:Nat,i<gH (12+s.size)->(((eY D J.at' J.hi m (bs (dv (J.seq+1) s))).1.fJ mask torn cut).read (J.at'+i)).1=leaf m i (part (bs (dv (J.seq+1) s)) i))->
   JG n ((eY D J.at' J.hi m (bs (dv (J.seq+1) s))).1.fJ mask torn cut) J q0 pc m):=by
 obtain⟨j1,j2,j3,j4,j5⟩:=h.yl;obtain⟨r1,r2,r3⟩:=hr;rw[ak] at r3;have hlen:=h.len;have hcp:=sP (12+s.size);have Cj:=tD (J.seq+1) s;obtain⟨a,ha⟩:=bh (show 0<=J.at' by omega);obtain⟨t,ht⟩:=bh (show 0<=J.hi by omega);have aad:=EV (n:=n) (a:=a) (t:=t) (number:=m) (s:=bs (dv (J.seq+1) s)) hlen cS (by omega) (by rw[Cj];omega) (by omega);obtain⟨c1,c2,c3,c4⟩:=L5 (n:=n) (a:=a) (t:=t) (number:=m) (mask:=mask) (torn:=torn) (cut:=cut) (s:=bs (dv (J.seq+1) s)) h.ok h.IW hlen cS (by omega) (by rw[Cj];omega) (by omega);have aac:((eY D (a:Int) (t:Int) m (bs (dv (J.seq+1) s))).1.fJ mask torn cut).later=[]:=by rw[oa]
 rw[Cj] at c1 c2;rw[ha,ht];generalize (eY D (a:Int) (t:Int) m (bs (dv (J.seq+1) s))).2=code at *;generalize (eY D (a:Int) (t:Int) m (bs (dv (J.seq+1) s))).1.fJ mask torn cut=D2 at *;have hcn:gH (12+s.size)<=4096:=by omega
 have A8:∀i:Nat,i<4096->eB m (i:Int) (part (bs (dv (J.seq+1) s)) i):=λi hi=>⟨by omega,by omega,by omega,by omega,nP _ i⟩;have sec:∀j:Nat,j<n->Ends m (D2.read (j:Int)).1/\((D2.read (j:Int)).1=(D.read (j:Int)).1\/(∃i,i<gH (12+s.size)/\j=a+i/\((D2.read (j:Int)).1=leaf m i (part (bs (dv (J.seq+1) s)) i)\/mB (D2.read (j:Int)).1.data.toList=none))):=λj hj=>by
  rcases c1 j hj with hh|⟨i,h1,h2,h3⟩
  ·rw[hh];exact⟨(h.ends j hj).mono (by omega),.inl rfl⟩
  ·obtain⟨e1,e2⟩:=C5 hm KX (A8 i (by omega)) (h.ends j hj) h3;refine⟨e1,?_⟩;rcases e2 with e2|e2|e2
   ·exact .inl e2
   ·exact .inr ⟨i,h1,h2,.inl e2⟩
   ·exact .inr ⟨i,h1,h2,.inr e2⟩
 have out:∀j:Int,0<=j->j<n->(j<a\/a+(gH (12+s.size):Int)<=j)->(D2.read j).1=(D.read j).1:=λj h1 h2 h3=>by
  obtain⟨k,rfl⟩:=bh h1;rcases c1 k (by omega) with hh|⟨i,h4,h5,_⟩
  ·exact hh
  ·omega
 have Yj:D2.safe.length=D.safe.length:=by rw[c4,hlen]
 have hpr:=wh (seq:=J.seq+1) (s:=s) ⟨by omega,by omega⟩ (by omega);have abj:∀j:Int,J.lo<=j->j<J.hi->∀x d,mB (D2.read j).1.data.toList=some (x,0,d)->FL d<=J.seq+1:=λj h1 h2 x d hv=>by
  obtain⟨k,rfl⟩:=bh (show 0<=j by omega);rcases(sec k (by omega)).2 with hh|⟨i,hi,_,hh|hh⟩
  ·rw[hh] at hv;exact h.low _ h1 h2 x d hv
  ·rw[hh,nQ (A8 i (by omega)),pB (A8 i (by omega))] at hv;simp only[bA.injEq,Prod.mk.injEq] at hv;obtain⟨_,hi0,hd⟩:=hv;have:i=0:=by omega
   subst this;rw[<-hd,hpr.1];exact eE _
  ·rw[hh] at hv;cases hv
 have VD:kz D2 J.hi J.lo q0 pc J.at':=wD Yj _ h.chain (λj h1 h2=>out j (by omega) (by omega) (by omega));have U1:∀j:Nat,j<n->Ends m (D2.read (j:Int)).1:=λj hj=>(sec j hj).1;refine⟨aad,λh0 i hi=>?_,λhw=>?_,λhnw=>?_⟩
 ·have:=c2 h0 i hi;rw[show(a:Int)+(i:Int)=((a+i:Nat):Int) from by omega];exact this
 ·have abn:=DL (D:=D2) (a:=J.at') (toX:=J.hi) (n:=m) (q:=J.seq+1) (s:=s) (by omega) (by omega) (by omega) (by omega) (by omega) (by omega) (by omega) (by rw[ha];exact hw);refine⟨c3,aac,c4,⟨j1,?_,?_,?_,?_⟩,?_,?_,h.q0,λj h1 h2 x d hv=>?_,?_,U1⟩
  ·show J.lo<=J.at'+_;omega
  ·show J.at'+_<=J.hi;omega
  ·show J.hi<=_;omega
  ·show 0<=J.seq+1/\J.seq+1<=_;omega
  ·show kz D2 J.hi J.lo q0 _ (J.at'+_);refine GX pc VD ?_;rw[<-h.seq];exact abn
  ·show J.seq+1=_;rw[h.seq,av,bE,cR];omega
  ·show FL d<=J.seq+1+1;have:=abj j h1 h2 x d hv;omega
  ·show mC D2 (J.at'+(gH (12+s.size):Int)) J.hi (J.seq+1+1)=none;by_cases afw:J.hi<=J.at'+(gH (12+s.size):Int)
   ·exact C2 afw
   ·refine C1 (λx d hv=>?_);have:=abj _ (by omega) (by omega) x d hv;omega
 ·refine⟨c3,aac,c4,⟨j1,j2,j3,by omega,j5⟩,VD,h.seq,h.q0,abj,?_,U1⟩;cases hx:mC D2 J.at' J.hi (J.seq+1) with
  |none=>rfl
  |some y=>
   exfalso;obtain⟨s2,a2⟩:=y;obtain⟨i1,i2,i3,i4,i5,i6⟩:=qF hx;obtain⟨x,d,x1,x2,hv,RU⟩:=IL (by omega) hx;have U2:=sP (12+s2.length);have UZ:∀i:Nat,i<4096->eB x (i:Int) (part (bs (dv (J.seq+1) (bs s2))) i):=λi hi=>⟨x1,x2,by omega,by omega,nP _ i⟩;have abr:=wh (seq:=J.seq+1) (s:=bs s2) ⟨by omega,by omega⟩ (by rw[bV];omega);have rd:∀i:Nat,i<gH (12+s2.length)->mB (D2.read ((a+i:Nat):Int)).1.data.toList=some (x,(i:Int),part (bs (dv (J.seq+1) (bs s2))) i):=λi hi=>by
    have:=RU i hi;rw[ha,show(a:Int)+(i:Int)=((a+i:Nat):Int) from by omega] at this;rw[this,nQ (UZ i (by omega)),pB (UZ i (by omega))]
   rcases(sec a (by omega)).2 with hh|⟨i,hi,hai,hh|hh⟩
   ·
    have r0:=rd 0 U2;rw[gM,hh] at r0;have hxg:=Ix (h.ends a (by omega)) (by omega) r0;have all:∀j:Int,J.at'<=j->j<a2->(D.read j).1=(D2.read j).1:=λj h1 h2=>by
     obtain⟨k,hk⟩:=bh (show 0<=j-a by omega);have hj:j=((a+k:Nat):Int):=by omega
     subst hj;rcases(sec (a+k) (by omega)).2 with e|⟨i,hi,hai,e|e⟩
     ·exact e.symm
     ·exfalso;have UY:i=k:=by omega
      subst UY;have r:=rd i (by omega);rw[e,nQ (A8 i (by omega)),pB (A8 i (by omega))] at r;simp only[bA.injEq,Prod.mk.injEq] at r;have:=r.1;omega
     ·exfalso;have r:=rd k (by omega);rw[e] at r;cases r
    have:=wj hx Yj.symm all;rw[h.stop] at this;cases this
   ·
    have hi0:i=0:=by omega
    subst hi0;have r0:=rd 0 U2;rw[gM,hh,nQ (A8 0 (by omega)),pB (A8 0 (by omega))] at r0;simp only[bA.injEq,Prod.mk.injEq] at r0;obtain⟨hxm,_,hp0⟩:=r0;have qc:s2.length=s.size:=by
     have e1:=hpr.2.2;have e2:=abr.2.2;rw[hp0] at e1;rw[e1,bV] at e2;omega
    refine hnw λi hi=>?_;rw[show(a:Int)+(i:Int)=((a+i:Nat):Int) from by omega];have r:=rd i (by rw[qc];exact hi);rcases(sec (a+i) (by omega)).2 with e|⟨i',vV,aiF,e|e⟩
    ·exfalso;rw[e] at r;have:=Ix (h.ends (a+i) (by omega)) (by omega) r;omega
    ·have:i'=i:=by omega
     subst this;exact e
    ·rw[e] at r;cases r
   ·have hi0:i=0:=by omega
    subst hi0;have r0:=rd 0 U2;rw[gM,hh] at r0;cases r0
section
variable {W w:World} {L:LH}
end
def vd(D:aY)(mask torn cut:Int):(D.fJ mask torn cut).safe.length=D.safe.length:=by rw[oa];simp only[jC]
def JG.add{n:Nat}{D:aY}{J:PJ}{q0:Int}{pc:List (List UInt8)}{g m:Nat}{s:BA}(h:JG n D J q0 pc g)(Yb:J.dK=false)(cS:n<=4096)(hm:g<m)(KX:m<256)(hr:room J s.size)(Et:J.seq<1152921504606846976):
 uO D J m s=Dn J s (eY D J.at' J.hi m (bs (dv (J.seq+1) s)))/\(eY D J.at' J.hi m (bs (dv (J.seq+1) s))).1.Ok/\
 ((eY D J.at' J.hi m (bs (dv (J.seq+1) s))).2=0/\JG n (eY D J.at' J.hi m (bs (dv (J.seq+1) s))).1 (J.more s) q0 (pc++[s.data.toList]) m\/(eY D J.at' J.hi m (bs (dv (J.seq+1) s))).2=8):=by
 have hcn:gH (12+s.size)<=400:=by have:=hr.2.1;unfold gH;split<;>omega
 have iz:=L4 (at':=J.at') (toX:=J.hi) (number:=m) (s:=bs (dv (J.seq+1) s)) h.ok (by rw[h.IW,tD,cR];omega);refine⟨?_,iz,?_⟩
 ·unfold uO;rw[ag (by rw[Yb];exact rY),ag (by omega),ag (by rintro(hh|hh);exact hh hr;omega)]
 ·obtain⟨f1,f2,f3,f4⟩:=fly h cS hm KX hr Et 0 (-1) 0;rcases f1 with f1|f1
  ·refine .inl ⟨f1,?_⟩;have hl:=P9 f1;have hj:=f3 (f2 f1);refine hj.congr iz hl ?_ (λj _ _=>?_)
   ·rw[<-vd _ 0 (-1) 0];exact hj.len
   ·rw[Bf hl]
  ·exact .inr f1
def acq{n:Nat}(h:n<=4096){lo hi:Int}(h0:0<=lo)(h1:lo<hi)(h2:hi<=n)(q0:Int)(hq:0<=q0/\q0<=1152921504606846976):JG n (aY.new n) ⟨lo,hi,lo,q0,false⟩ q0 [] 0:=by
 have hc:=Cz h;refine⟨hc.ok,rfl,hc.len,⟨h0,eE _,by show lo<=hi;omega,by show hi<=_;rw[hc.len];exact h2,by show 0<=q0/\q0<=_;omega⟩,rfl,by show q0=q0+_;simp,hq.1,λj a b m d hv=>?_,?_,λj hj=>?_⟩
 ·dsimp only at a b;rw[IM h (by omega) (by omega),zp] at hv;cases hv
 ·exact L0 (IM h h0 (by show lo<(n:Int);omega))
 ·rw[zy h hj];exact Bd
section
variable {W w:World} {L:LH} {k:Nat}
end
section
variable {W w:World} {L:LH}
end
end Go.Sep
namespace Go.Sep
open Go.Den Go.RowKit
section
variable {H:Type} {enc:TypeId×Value->H} {P:Program} {w:World} {base:Nat} {spare:Nat->Bool} {held:Bool}
end
end Go.Sep
namespace Go.Sep
open Go.Den Go.RowKit Go.Prog Go.cG
def JG.mono{n:Nat}{D:aY}{J:PJ}{q0:Int}{pc:List (List UInt8)}{g g':Nat}(h:JG n D J q0 pc g)(hg:g<=g'):JG n D J q0 pc g':=
 ⟨h.ok,h.IW,h.len,h.yl,h.chain,h.seq,h.q0,h.low,h.stop,λj hj=>(h.ends j hj).mono hg⟩
def JG.zD{n:Nat}{D:aY}{J:PJ}{q0:Int}{pc:List (List UInt8)}{g:Nat}(h:JG n D J q0 pc g)(hg:g<256):∃x:Nat,fk D n=x/\x<=g/\JG n D J q0 pc x:=by
 have h1:=yt D n;have h2:=Am (D:=D) hg n h.ends;obtain⟨x,hx⟩:=bh h1.1;refine⟨x,hx,by omega,⟨h.ok,h.IW,h.len,h.yl,h.chain,h.seq,h.q0,h.low,h.stop,λj hj=>?_⟩⟩;obtain⟨e1,⟨a,ha,e2⟩,b,hb,e3⟩:=h.ends j hj;have hle:=LX (D:=D) n j hj;have e4:Da (D.read (j:Int)).1=bs (le .i64 8 ((a:Nat):Int)):=lh (by rw[Mt,e2];rfl);have e5:CJ (D.read (j:Int)).1=bs (le .i64 8 ((b:Nat):Int)):=lh (by rw[Le e1,e3];rfl);rw[e4,e5,wi (by omega),wi (by omega)] at hle;exact⟨e1,⟨a,by omega,e2⟩,b,by omega,e3⟩
section
variable {W w:World} {L:LH}
end
section
variable {W w:World} {L:LH} {k:Nat}
end
def B8(a b:Option gp):Option gp:=
 match b with
 |none=>a
 |some hb=>match a with
  |none=>some hb
  |some ha=>if ha.bu<hb.bu then some hb else some ha
def uL(D:aY)(number:Int)(h:gp):aY×Int:=
 if oo h then(if(lay D (low h.bu) (low h.bu+1) number (bs (ku h))).2≠0 then lay D (low h.bu) (low h.bu+1) number (bs (ku h)) else(lay D (low h.bu) (low h.bu+1) number (bs (ku h))).1.sync) else(D,1)
section
variable {W w:World} {L:LH} {k d:Nat} {D:aY}
def Sy{number:Int}{h:gp}{K:VK}(hs:St W w L)(hk:L[k]?=some (gN d D))(iz:D.Ok)(hl:D.later.length+5000<1099511627776)
 (hK:∀w',St W w' (L.set k (gN d (uL D number h).1))->K (.i (uL D number h).2) w'):vc (ah d) number (cu h) K w:=by
 unfold vc;refine jh hs λr w hs=>?_;refine kq (k:=0) (xs:=cu h) hs rfl rfl (λj v hj=>by rw[aB];exact hj) ?_;refine MU hs λw hs=>?_;simp only[nz,ae,af];unfold uL at hK;unfold E1;by_cases hg:oo h
 ·rw[ai hg] at hK⊢;dsimp only;refine vO (λhh=>aT rfl hh) (λ_=>?_);apply cZ (k:=0) hs rfl rfl;simp only[nz,ae,af];apply cZ (k:=0) hs rfl rfl;simp only[nz,ae,af];have Mo:=wQ h.bu;have ew:aa.wrap (dj .i64 .and h.bu 1+1)=low h.bu+1:=by
   show aa.wrap (low h.bu+1)=_;rw[aX (by omega)]
  rw[ew];have e0:dj .i64 .and h.bu 1=low h.bu:=rfl;rw[e0];have qc:(bs (ku h)).size=32:=by rw[bV,qS]
  have Ov:gH (bs (ku h)).size=1:=by rw[qc];rfl
  have td:(pt r (cu h)::L)[k+1]?=some (gN d D):=by rw[bX];exact hk
  refine Hi (k:=k+1) hs td iz (by omega) (by rw[qc];decide) λw hs=>?_;rw[nN] at hs;simp only[nz,ae,af];have R1:=(J6 (at':=low h.bu) (toX:=low h.bu+1) (number:=number) (s:=bs (ku h)) iz (by rw[Ov];omega)).1;refine vO (λkJ=>?_) (λh0=>?_)
  ·rw[ai kJ] at hK;exact hK w hs.drop
  ·rw[ag (λhh=>hh h0)] at hK;refine vT (k:=k+1) hs (by rw[bX];exact kn hk) R1 λw hs=>?_;rw[nN,jH] at hs;simp only[nz,ae,af];exact hK w hs.drop
 ·rw[ag hg] at hK⊢;dsimp only;refine vO (λ_=>?_) (λhh=>by simp at hh);apply hK w;rw[nW hk];exact hs.drop
def HQ(o:Option gp):gp:=o.getD Fc
def Ba(o:Option gp):qR o=.tuple ⟨[.agg ⟨cu (HQ o)⟩,.b o.isSome]⟩:=by cases o<;>rfl
def Nc{K:VK}(hs:St W w L)(hk:L[k]?=some (gN d D))(iz:D.Ok)(hK:∀w',St W w' L->K (qR (B8 (Bl D 0) (Bl D 1))) w'):sO (ah d) K w:=by
 unfold sO;refine jh hs λr1 w hs=>?_;refine QP (i:=0) (k:=k+1) hs (by rw[bX];exact hk) iz λw hs=>?_;rw[Ba];simp only[nz,ae,af];simp only[yM];refine⟨rfl,?_⟩;simp only[nz,ae,af];refine jh hs λr2 w hs=>?_;refine⟨rfl,kk (k:=0) hs rfl (aK rfl) (by simp[Value.oneCell',cu]) λw hs=>?_⟩;rw[iR (by simp[cu])] at hs;simp only[nz,ae,af] at hs;refine QP (i:=1) (k:=k+2) hs (by rw[bX,bX];exact hk) iz λw hs=>?_;rw[Ba];simp only[nz,ae,af];simp only[yM];refine⟨rfl,?_⟩;simp only[nz,ae,af];refine jh hs λr3 w hs=>?_;refine⟨rfl,kk (k:=0) hs rfl (aK rfl) (by simp[Value.oneCell',cu]) λw hs=>?_⟩;rw[iR (by simp[cu])] at hs;simp only[nz,ae,af] at hs;generalize Bl D 0=a at *;generalize Bl D 1=b at *;have tell:∀(i:Nat)(o:Option gp)(r:Nat)(f:Bool),(i=0/\r=r3/\HQ o=HQ b\/i=1/\r=r2/\HQ o=HQ a)->(f=o.isSome)->(∀w',St W w' L->K (qR o) w')->
                                                                                                       aJ ⟨r,0,none⟩ 4 (λcs=>cw (cs.length=4) (jY ⟨r1,0,none⟩ cs (aJ ⟨r1,0,none⟩ 4 λxd=>K (.tuple ⟨[.agg ⟨xd⟩,.b f]⟩)))) w:=λi o r f hi hf hK=>by
  have Ci:(pt r3 (cu (HQ b))::pt r2 (cu (HQ a))::pt r1 [.i 0,.i 0,.i 0,.i 0]::L)[i]?=some (pt r (cu (HQ o))):=by
   rcases hi with⟨rfl,rfl,h⟩|⟨rfl,rfl,h⟩<;>rw[h]<;>rfl
  refine kq (xs:=cu (HQ o)) hs Ci rfl (λj v hj=>by rw[aB];exact hj) ?_;refine⟨rfl,?_⟩;refine kk (k:=2) hs rfl (aK rfl) (by simp[Value.oneCell',cu]) λw hs=>?_;rw[iR (by simp[cu])] at hs;simp only[nz,ae,af] at hs;refine kq (k:=2) (xs:=cu (HQ o)) hs rfl rfl (λj v hj=>by rw[aB];exact hj) ?_;have:=hK w hs.drop.drop.drop;rw[Ba] at this;rw[hf];exact this
 cases b with
 |none=>
  exact tell 1 a r2 _ (.inr ⟨rfl,rfl,rfl⟩) rfl hK
 |some hb=>
  cases a with
  |none=>exact tell 0 (some hb) r3 true (.inl ⟨rfl,rfl,rfl⟩) rfl hK
  |some ha=>
   have e1:(some hb:Option gp).isSome=true:=rfl;have e2:(some ha:Option gp).isSome=true:=rfl;rw[e1,e2];simp only[nz,ae,af];apply cZ (k:=0) hs rfl (v:=.i hb.bu) rfl;simp only[nz,ae,af];apply cZ (k:=1) hs rfl (v:=.i ha.bu) rfl;simp only[nz,ae,af];unfold B8 at hK;dsimp only at hK;refine fV (λQv=>?_) (λhle=>?_)
   ·rw[ai Qv] at hK;exact tell 0 (some hb) r3 true (.inl ⟨rfl,rfl,rfl⟩) rfl hK
   ·rw[ag hle] at hK;exact tell 1 (some ha) r2 true (.inr ⟨rfl,rfl,rfl⟩) rfl hK
end
end Go.Sep
namespace Go.Up
open Go.Sep Go.Den Go.RowKit Go.Prog Go.Md Go.cG
section
variable {W:World} {L R:LH} {K:VK} {X:WK} {d r n:Nat} {D:aY} {J:PJ} {f:aY->LH} {g:PJ->LH} {s:BA}
abbrev jP(d r:Nat)(J:PJ):HP:=Sep.pt r (sG d J)
def Ds[i:Lc (gN d) L D f](h:T W L (K (.i (D.safe.length:Int)))):T W L (fH (ah d) K):=λw hs=>by
 obtain⟨k,hk,e⟩:=i.at_;exact oq hs hk (h w hs)
def Uj{n:Int}(h:∀d,T W (gN d (aY.new n)::L) (K (.p (ah d)))):T W L (um n K):=λw hs=>Wh hs λd w' h'=>h d w' h'
def aeV[i:Lc (gN d) L D f]{n:Int}(h:T W (f (D.uC n)) (K (.tuple ⟨[]⟩))):T W L (oS (ah d) n K):=λw hs=>by
 obtain⟨k,hk,e⟩:=i.at_;exact H7 hs hk λw' h'=>h w' (by rw[e];exact h')
def aeU(nu:12<=n)(cS:n<=4096)(h:T W L (K (.tuple ⟨[.agg ⟨fC n⟩,.i 0]⟩))):T W L (sy n K):=λw hs=>Zn hs nu cS λw' h'=>h w' h'
def aaT[i:Lc (gN d) L D f]{which number:Int}(iz:D.Ok)(nu:12<=n)(cS:n<=4096)(hl:D.later.length+5000<1099511627776)(hs:s.size<=reachBytes)
 (h:T W (f (put D n which number s).1) (K (.i (put D n which number s).2))):T W L (rl (fC n) (ah d) which number s K):=λw hw=>by
 obtain⟨k,hk,e⟩:=i.at_;exact Wf hw hk iz nu cS hl hs λw' h'=>h w' (by rw[e];exact h')
def aaV[i:Lc (gN d) L D f]{which number size:Int}(iz:D.Ok)(nu:12<=n)(cS:n<=4096)(h:T W L (K (tR (get D n which number size)))):T W L (rq (fC n) (ah d) which number size K):=λw hw=>by
 obtain⟨k,hk,e⟩:=i.at_;exact Wn hw hk iz nu cS λw' h'=>h w' h'
def Wg[i:Lc (gN d) L D f](iz:D.Ok)(h:T W L (K (qR (B8 (Bl D 0) (Bl D 1))))):T W L (sO (ah d) K):=λw hw=>by
 obtain⟨k,hk,e⟩:=i.at_;exact Nc hw hk iz λw' h'=>h w' h'
def ab6[i:Lc (gN d) L D f]{number:Int}{hd:gp}(iz:D.Ok)(hl:D.later.length+5000<1099511627776)(h:T W (f (uL D number hd).1) (K (.i (uL D number hd).2))):T W L (vc (ah d) number (cu hd) K):=λw hw=>by
 obtain⟨k,hk,e⟩:=i.at_;exact Sy hw hk iz hl λw' h'=>h w' (by rw[e];exact h')
def Hj[i:Lc (gN d) L D f](iz:D.Ok)(h:T W L (K (.i (fk D D.safe.length)))):T W L (oP (ah d) K):=λw hw=>by
 obtain⟨k,hk,e⟩:=i.at_;exact H5 hw hk iz λw' h'=>h w' h'
def UH[i:Lc (jP d r) L J g](h:T W L (K (.i J.seq))):T W L (kA (ah r) K):=λw hw=>by
 obtain⟨k,hk,e⟩:=i.at_;exact V7 hw hk (h w hw)
def SE[i:Lc (jP d r) L J g](h:T W (g {J with at':=J.lo}) (K (.tuple ⟨[]⟩))):T W L (jR (ah r) K):=λw hw=>by
 obtain⟨k,hk,e⟩:=i.at_;exact KC hw hk λw' h'=>h w' (by rw[e];exact h')
def X8[i:Lc (jP d r) L J g]{m:Int}(hJ:J.Ok D)(iz:D.Ok)(h:T W L (K (.b (decide (room J m))))):T W L (jQ (ah r) m K):=λw hw=>by
 obtain⟨k,hk,e⟩:=i.at_;exact Gs hw hk hJ iz λw' h'=>h w' h'
def abl{number:Int}(hJ:J.Ok D)(iz:D.Ok)(hl:D.later.length<1000000)(hs:s.size<=reachBytes)
 (h:T W (jP d r (uO D J number s).2.1::gN d (uO D J number s).1::R) (K (.i (uO D J number s).2.2))):T W (jP d r J::gN d D::R) (cx (ah r) number s K):=λw hw=>
 RO (k:=0) (k2:=1) hw rfl rfl (by decide) hJ iz hl hs λw' h'=>h w' h'
def X9[i:Lc (gN d) L D f]{lo hi q:Int}(iz:D.Ok)(hp:0<=lo/\lo<hi/\hi<=(D.safe.length:Int))(hq:0<=q/\q<=1152921504606846976)
 (h:∀r b c,(∃n:Nat,n<=4096/\(lq D hi lo q).1.length=n/\(lq D hi lo q).2.2=q+n/\lo<=(lq D hi lo q).2.1/\(lq D hi lo q).2.1<=hi)->T W (own b (lq D hi lo q).1.length c 1 ((lq D hi lo q).1.map HC)::jP d r ⟨lo,hi,(lq D hi lo q).2.1,(lq D hi lo q).2.2,false⟩::L)
  (K (.tuple ⟨[.p (ah r),.l b (lq D hi lo q).1.length c,.i 0]⟩))):T W L (lv (ah d) lo hi q K):=λw hw=>by
 obtain⟨k,hk,e⟩:=i.at_;exact SF hw hk iz hp hq λr b c w' he h'=>h r b c he w' h'
end
end Go.Up
namespace Go.Sep
open Go.Den Go.RowKit Go.Prog Go.cG
def Oh{D:aY}{at' toX number:Int}{s:BA}(h:D.Ok)(hl:D.later.length+gH s.size<1099511627776):(eY D at' toX number s).1.later.length<=D.later.length+gH s.size:=by
 have hL:(lay D at' toX number s).1.later.length<=D.later.length+gH s.size:=by
  unfold lay;split
  ·exact Nat.le_add_right _ _
  ·split
   ·exact Nat.le_add_right _ _
   ·exact(Cb _ 0 h hl).2.2
 unfold eY;split
 ·exact hL
 ·exact wJ Dk.Lj.2 hL
section
variable {W w:World} {L:LH}
end
end Go.Sep
namespace Go.Up
open Go.Sep Go.Den Go.RowKit Go.Prog Go.Md Go.cG
structure VS where
 D:aY
 J:PJ
 bu:Int
 dK:Bool
def vC(d n pb pj:Nat)(bu:Int)(dK:Bool):LV:=[.p (ah d)]++(fC n++[.p (ah pb),.p (ah pj),.i bu,.b dK])
instance{h:gp}:Ln (cu h) 4:=⟨rfl⟩
instance{n:Nat}:Ln (fC n) 5:=⟨rfl⟩
instance{h:gp}:Gt (cu h) 0 (.i h.bu):=⟨rfl⟩
instance{h:gp}:Gt (cu h) 1 (.i h.number):=⟨rfl⟩
instance{h:gp}:Gt (cu h) 2 (.i h.size):=⟨rfl⟩
instance{h:gp}:Gt (cu h) 3 (.i h.seq):=⟨rfl⟩
instance{n:Nat}:Gt (fC n) 3 (.i (2+2* dm n:Nat)):=⟨rfl⟩
instance{n:Nat}:Gt (fC n) 4 (.i n):=⟨rfl⟩
instance{d n pb pj:Nat}{bu:Int}{dK:Bool}:Gt (vC d n pb pj bu dK) 0 (.p (ah d)):=⟨rfl⟩
instance{d n pb pj:Nat}{bu:Int}{dK:Bool}:Gt (vC d n pb pj bu dK) 6 (.p (ah pb)):=⟨rfl⟩
instance{d n pb pj:Nat}{bu:Int}{dK:Bool}:Gt (vC d n pb pj bu dK) 7 (.p (ah pj)):=⟨rfl⟩
instance{d n pb pj:Nat}{bu:Int}{dK:Bool}:Gt (vC d n pb pj bu dK) 8 (.i bu):=⟨rfl⟩
instance{d n pb pj:Nat}{bu:Int}{dK:Bool}:Gt (vC d n pb pj bu dK) 9 (.b dK):=⟨rfl⟩
instance{d n pb pj:Nat}{bu:Int}{dK:Bool}:Sub (vC d n pb pj bu dK) 1 5 (fC n):=⟨rfl,λj v h=>by
 show([_]++(fC n++_))[1+j]?=some v
 rw[iN (by simp),ch (by have:=(ar.1 h).1;simpa using this)]
 simpa using h⟩
instance{d n pb pj:Nat}{bu t2:Int}{dK:Bool}:Wr (vC d n pb pj bu dK) 8 [.i t2] (vC d n pb pj t2 dK):=⟨rfl,by show 9<=10;decide,λv h=>by simp at h;subst h;rfl⟩
instance{d n pb pj:Nat}{bu:Int}{dK s2:Bool}:Wr (vC d n pb pj bu dK) 9 [.b s2] (vC d n pb pj bu s2):=⟨rfl,by show 10<=10;decide,λv h=>by simp at h;subst h;rfl⟩
abbrev VL(v d n pb pj:Nat)(m:aA)(S:VS)(R:LH):LH:=Sep.pt v (vC d n pb pj S.bu S.dK)::cL pb (bo m,[])::jP d pj S.J::gN d S.D::R
def fh(n:Nat)(m:aA)(S:VS):VS×Int:=
 if S.dK=true then(S,9)
 else if ¬gH (cT (bo m)).length<=dm n then(S,3)
 else if(put S.D n (S.bu+1) (fk S.D S.D.safe.length+1) (bs (cT (bo m)))).2≠0 then(⟨(put S.D n (S.bu+1) (fk S.D S.D.safe.length+1) (bs (cT (bo m)))).1,S.J,S.bu,true⟩,(put S.D n (S.bu+1) (fk S.D S.D.safe.length+1) (bs (cT (bo m)))).2)
 else if(uL (put S.D n (S.bu+1) (fk S.D S.D.safe.length+1) (bs (cT (bo m)))).1 (fk S.D S.D.safe.length+2) ⟨S.bu+1,fk S.D S.D.safe.length+1,((cT (bo m)).length:Int),S.J.seq⟩).2≠0 then
  (⟨(uL (put S.D n (S.bu+1) (fk S.D S.D.safe.length+1) (bs (cT (bo m)))).1 (fk S.D S.D.safe.length+2) ⟨S.bu+1,fk S.D S.D.safe.length+1,((cT (bo m)).length:Int),S.J.seq⟩).1,S.J,S.bu,true⟩,(uL (put S.D n (S.bu+1) (fk S.D S.D.safe.length+1) (bs (cT (bo m)))).1 (fk S.D S.D.safe.length+2) ⟨S.bu+1,fk S.D S.D.safe.length+1,((cT (bo m)).length:Int),S.J.seq⟩).2)
 else(⟨(uL (put S.D n (S.bu+1) (fk S.D S.D.safe.length+1) (bs (cT (bo m)))).1 (fk S.D S.D.safe.length+2) ⟨S.bu+1,fk S.D S.D.safe.length+1,((cT (bo m)).length:Int),S.J.seq⟩).1,{S.J with at':=S.J.lo},S.bu+1,S.dK⟩,0)
section
variable {W:World} {L R:LH} {K:VK} {X:WK} {v d n pb pj:Nat} {m:aA} {S:VS}
def acr{k:Nat}(hk:k<1099511627776000)(h:T W L (K (.b (decide (gH k<=dm n))))):T W L (qB (fC n) k K):=λw hs=>SG hs hk λw' h'=>h w' h'
def A0{D:aY}{which number:Int}{s:BA}:put D n which number s=eY D (fj n which) ((fj n which+dm n:Nat):Int) number s:=rfl
def QY{e:Int}{J2:PJ}{D2:aY}(ht:0<=S.bu/\S.bu<1152921504606846976)
 (h1:e≠0->T W (Sep.pt v (vC d n pb pj S.bu true)::cL pb (bo m,[])::jP d pj J2::gN d D2::R) (K (.i e)))
 (h0:e=0->T W (Sep.pt v (vC d n pb pj (S.bu+1) S.dK)::cL pb (bo m,[])::jP d pj {J2 with at':=J2.lo}::gN d D2::R) (K (.i 0))):
 T W (Sep.pt v (vC d n pb pj S.bu S.dK)::cL pb (bo m,[])::jP d pj J2::gN d D2::R) (iC.j1 K (ah v) e):=by
 unfold iC.j1;apply dz<;>intro g1
 ·have g1:e≠0:=by simpa using g1
  apply ws;exact h1 g1
 ·have g1:e=0:=by simpa using g1
  have e5:aa.wrap (S.bu+1)=S.bu+1:=aX (by omega);apply ws;rw[e5];apply SE (d:=d) (r:=pj);apply ws;exact h0 g1
def V9(iz:S.D.Ok)(A7:S.D.later.length<1000000)(nu:12<=n)(cS:n<=4096)(ht:0<=S.bu/\S.bu<1152921504606846976)
 (h:T W (VL v d n pb pj m (fh n m S).1 R) (K (.i (fh n m S).2))):T W (VL v d n pb pj m S R) (iC (ah v) K):=by
 unfold iC;refine qZ (p:=pb) (b:=bo m) (hs:=[]) λhg=>?_;have Z8:=xV hg;have oJ:=hg.oJ;have many:=hg.many;apply ws;unfold fh at h;cases DS:S.dK with
 |true=>
  rw[ai DS] at h;rw[lC];exact h
 |false=>
  rw[ag (by rw[DS];decide)] at h;rw[eu]
  repeat' first|apply ws|apply wb|refine Il (p:=pb) ?_
  rw[bV];refine acr (by omega) (oF ?_);by_cases hf:gH (cT (bo m)).length<=dm n
  ·rw[ag (λhh=>hh hf)] at h;rw[aw hf,Bool.not_true,eu];obtain⟨Nu,Nt⟩:=yt S.D S.D.safe.length;have e1:aa.wrap (fk S.D S.D.safe.length+1)=fk S.D S.D.safe.length+1:=aX (by omega);have e2:aa.wrap (fk S.D S.D.safe.length+1+1)=fk S.D S.D.safe.length+2:=by rw[aX (by omega)];omega
   have e3:aa.wrap (S.bu+1)=S.bu+1:=aX (by omega)
   repeat' first|apply ws|apply wb|refine Hj (d:=d) iz ?_
   rw[e1,e2,e3];have ib:(bs (cT (bo m))).size<=reachBytes:=by rw[bV,Z8];unfold reachBytes;omega
   apply aaT iz nu cS (by omega) ib;have adq:(put S.D n (S.bu+1) (fk S.D S.D.safe.length+1) (bs (cT (bo m)))).1.Ok:=by
    rw[A0];exact L4 iz (by rw[bV];unfold dm at hf;omega)
   have adG:(put S.D n (S.bu+1) (fk S.D S.D.safe.length+1) (bs (cT (bo m)))).1.later.length<1010000:=by
    rw[A0];have:=Oh (D:=S.D) (at':=(fj n (S.bu+1):Nat)) (toX:=((fj n (S.bu+1)+dm n:Nat):Int)) (number:=fk S.D S.D.safe.length+1) (s:=bs (cT (bo m))) iz (by rw[bV];unfold dm at hf;omega);rw[bV] at this;unfold dm at hf;omega
   generalize put S.D n (S.bu+1) (fk S.D S.D.safe.length+1) (bs (cT (bo m)))=P1 at h adq adG⊢;generalize fk S.D S.D.safe.length=G at h⊢;apply ws;apply dz<;>intro g1
   ·have g1:P1.2=0:=by simpa using g1
    rw[ag (by omega)] at h
    repeat' first|apply ws|apply wb|refine UH (d:=d) (r:=pj) ?_
    rw[e3];show T W _ (vc (ah d) (G+2) (cu (⟨S.bu+1,G+1,((cT (bo m)).length:Int),S.J.seq⟩:gp)) _);apply ab6 adq (by omega);generalize uL P1.1 (G+2) (⟨S.bu+1,G+1,((cT (bo m)).length:Int),S.J.seq⟩:gp)=P2 at h⊢;apply ws;refine QY (S:=S) ht (λhe=>?_) (λhe=>?_)
    ·rw[ai he] at h;exact h
    ·rw[ag (by omega)] at h;exact h
   ·have g1:P1.2≠0:=by simpa using g1
    rw[ai g1] at h;refine QY (S:=S) ht (λhe=>?_) (λhe=>aT he g1);exact h
  ·rw[ai hf] at h;rw[ao hf,Pd,lC];exact h
end
def ph(S:VS)(s:BA):VS×Int:=
 (⟨(uO S.D S.J (fk S.D S.D.safe.length+1) s).1,(uO S.D S.J (fk S.D S.D.safe.length+1) s).2.1,S.bu,S.dK||(uO S.D S.J (fk S.D S.D.safe.length+1) s).2.2==8⟩,(uO S.D S.J (fk S.D S.D.safe.length+1) s).2.2)
def iH(n:Nat)(m:aA)(S:VS)(s:BA):VS×Int:=
 if room S.J s.size then ph S s else if(fh n m S).2≠0 then fh n m S else ph (fh n m S).1 s
def wZ(n:Nat)(m:aA)(S:VS)(q:j0):VS×aA×Int×List Int:=
 if jy q=false then(S,m,1,[])
 else if S.dK=true then(S,m,9,[])
 else if(iH n m S (bs (dH q))).2≠0 then((iH n m S (bs (dH q))).1,m,(iH n m S (bs (dH q))).2,[])
 else((iH n m S (bs (dH q))).1,(bD m q).2.2,(bD m q).1,(bD m q).2.1)
structure HZ(S:VS):Prop where
 ok:S.D.Ok
 oJ:S.D.later.length<1000000
 yl:S.J.Ok S.D
 bu:0<=S.bu/\S.bu<1152921504606846976
section
variable {W:World} {L R:LH} {K:VK} {X:WK} {v d n pb pj:Nat} {m:aA} {S:VS} {s:BA} {q:j0} {sl:wG}
def T.eng{A B C D E F G:HP}(h:T W (B::C::A::D::E::R) X):T W (A::B::C::D::E::F::G::R) X:=
 T.perm (L:=B::C::A::D::E::F::G::R) (T.sub h (by exact qo)) (bG (l₁:=[A]) (l₂:=[B,C])|>.append_right _)
def Wt(hS:HZ S)(hs:s.size<=reachBytes)(h:T W (VL v d n pb pj m (ph S s).1 R) (K (.i (ph S s).2))):T W (VL v d n pb pj m S R) (jF.j1 K (ah v) s):=by
 unfold jF.j1;obtain⟨Nu,Nt⟩:=yt S.D S.D.safe.length;have e1:aa.wrap (fk S.D S.D.safe.length+1)=fk S.D S.D.safe.length+1:=aX (by omega)
 repeat' first|apply ws|apply wb|refine Hj (d:=d) hS.ok ?_
 rw[e1];refine T.perm (L:=jP d pj S.J::gN d S.D::Sep.pt v (vC d n pb pj S.bu S.dK)::cL pb (bo m,[])::R) ?_ (bG (l₁:=[_,_]) (l₂:=[_,_])|>.append_right R);apply abl hS.yl hS.ok hS.oJ hs;unfold ph at h;generalize uO S.D S.J (fk S.D S.D.safe.length+1) s=A at h⊢;refine T.perm (L:=Sep.pt v (vC d n pb pj S.bu S.dK)::cL pb (bo m,[])::jP d pj A.2.1::gN d A.1::R) ?_ (bG (l₁:=[_,_]) (l₂:=[_,_])|>.append_right R);cases DS:S.dK with
 |true=>
  rw[DS,Bool.true_or] at h;apply ws;exact h
 |false=>
  rw[DS,Bool.false_or] at h;apply ws;exact h
def aeS(hS:HZ S)(hS2:HZ (fh n m S).1)(nu:12<=n)(cS:n<=4096)(hs:s.size<=100000)(h:T W (VL v d n pb pj m (iH n m S s).1 R) (K (.i (iH n m S s).2))):T W (VL v d n pb pj m S R) (jF (ah v) s K):=by
 have hsr:s.size<=reachBytes:=by unfold reachBytes;omega
 unfold jF;apply ws;apply X8 (d:=d) (r:=pj) (D:=S.D) hS.yl hS.ok;unfold iH at h;by_cases hr:room S.J s.size
 ·rw[ai hr] at h;rw[aw hr];apply ws;exact Wt hS hsr h
 ·rw[ag hr] at h;rw[ao hr];apply ws;apply V9 hS.ok hS.oJ nu cS hS.bu;apply ws;apply dz<;>intro g1
  ·have g1:(fh n m S).2≠0:=by simpa using g1
   rw[ai g1] at h;exact h
  ·have g1:(fh n m S).2=0:=by simpa using g1
   rw[ag (by omega)] at h;exact Wt hS2 hsr h
def Lx(hw:jy q=true)(he:fo q=true):(dH q).length<=2000:=by
 have WG:q.op=1\/q.op=2\/q.op=3:=aR he;have hf:=nT hw;unfold dH;rw[av,aQ];split
 ·rw[av,aQ,dM nR];omega
 ·split
  ·rw[av,aQ,dM oW];omega
  ·split
   ·rw[aQ];omega
   ·omega
def aay(G:oH W)(hg:Md.bW m)(hS:HZ S)(hS2:HZ (fh n m S).1)(nu:12<=n)(cS:n<=4096)(hq:pw W R q sl)(hA:∀a∈q.aC,yJ a)(hT:∀t∈q.cA,yF t)(DU:q.aC.length<1000000)(cn:q.cA.length<1000000)(he:fo q=true)
 (h:∀rb rc,Md.bW (wZ n m S q).2.1->T W (own rb (wZ n m S q).2.2.2.length rc 1 ((wZ n m S q).2.2.2.flatMap I1)::VL v d n pb pj (wZ n m S q).2.1 (wZ n m S q).1 R) (K (.agg ⟨qg (wZ n m S q).2.2.1 rb (wZ n m S q).2.2.2.length rc none 0 0 none 0 0⟩))):
 T W (VL v d n pb pj m S R) (na (ah v) (gP q sl) K):=by
 unfold na
 repeat' first|apply ws;intros|apply wb|refine Dh ?_
 rw[he];apply ws;refine Tk (R:=R) hq DU cn (λhw=>?_) (λhw=>?_)
 ·apply ws;unfold wZ at h;rw[ag (by rw[hw];decide)] at h;apply ef (by decide);apply ws;cases DS:S.dK with
  |true=>
   rw[ai DS] at h;apply ws;refine im (e:=1) ?_;apply T.sub (h none 0 hg)
   repeat (first|exact bm.refl _|apply bm.cons_cons|apply bm.cons)
  |false=>
   rw[ag (by rw[DS];decide)] at h;rw[eu];have hrl:=Lx hw he;have WU:q.op=2->∀t∈q.cA,TOk t:=λho t ht=>⟨hT t ht,by
    have hf:=nT hw
    have:∀a∈q.cA,kH a:=by rcases hf with h|h|h|h|h<;>first|exact h.2.2|omega
    exact this t ht⟩
   refine T.perm (L:=VL v d n pb pj m S (_::_::R)) ?_ (bG (l₁:=[_,_]) (l₂:=[_,_,_,_])|>.append_right R);refine aeS hS hS2 nu cS (by rw[bV];omega) ?_;generalize iH n m S (bs (dH q))=A at h⊢;apply ws;apply dz<;>intro g1
   ·have g1:A.2≠0:=by simpa using g1
    rw[ai g1] at h;apply ws;refine im (e:=1) ?_;apply T.sub (h none 0 hg)
    repeat (first|exact bm.refl _|apply bm.cons_cons|apply bm.cons)
   ·have g1:A.2=0:=by simpa using g1
    rw[ag (by omega)] at h;apply ws;apply T.N0;refine ME G hg ⟨hq.aC.mono,hq.cA.mono,hq.ids.mono,hq.ca,hq.ct,hq.ci⟩ (λ_=>hA) WU λrb rc Nt=>?_;apply ws;have fin:=h rb rc Nt;exact T.eng fin
 ·apply ws;unfold wZ at h;rw[ai hw] at h;refine ir (by decide) ?_;apply ws;refine im (e:=1) ?_;apply T.sub (h none 0 hg)
  repeat (first|exact bm.refl _|apply bm.cons_cons|apply bm.cons)
end
section
variable {W:World} {L R:LH} {K:VK} {X:WK} {v d n pb pj:Nat} {m:aA} {S:VS} {s:BA} {q:j0} {sl:wG}
def T.ask{O1 O2 B V J D F G:HP}(h:T W (O1::O2::V::B::J::D::R) X):T W (O1::O2::B::V::J::D::F::G::R) X:=
 T.perm (L:=O1::O2::V::B::J::D::F::G::R) (T.sub h (by exact qo)) (cf.append_left [O1,O2] (cf.swap _ _ _))
def T.in2{F G V B J D:HP}(h:T W (B::V::J::D::F::G::R) X):T W (F::G::V::B::J::D::R) X:=
 T.perm h ((bG (l₁:=[F,G]) (l₂:=[V,B,J,D])|>.append_right R).trans (cf.swap _ _ _))
def aaA(hq:pw W R q sl)(he:fo q=false)
 (h:∀ab ac tb tc,T W (own ab (ask m q).2.1.length ac 14 ((ask m q).2.1.flatMap aO)::own tb (ask m q).2.2.length tc 16 ((ask m q).2.2.flatMap aN)::VL v d n pb pj m S R) (K (.agg ⟨qg (ask m q).1 none 0 0 ab (ask m q).2.1.length ac tb (ask m q).2.2.length tc⟩))):
 T W (VL v d n pb pj m S R) (na (ah v) (gP q sl) K):=by
 unfold na
 repeat' first|apply ws;intros|apply wb|refine Dh ?_
 rw[he];apply ws;apply T.in2;refine aeQ ⟨hq.aC.mono,hq.cA.mono,hq.ids.mono,hq.ca,hq.ct,hq.ci⟩ λab ac tb tc=>?_;apply ws;exact T.ask (h ab ac tb tc)
def aaw(h:T W (VL v d n pb pj m S R) (K (.i S.J.seq))):T W (VL v d n pb pj m S R) (rF (ah v) K):=by
 unfold rF
 repeat' first|apply ws|apply wb|refine UH (d:=d) (r:=pj) ?_
 exact h
def W4(h:T W (VL v d n pb pj m S R) (K (.i S.bu))):T W (VL v d n pb pj m S R) (qK (ah v) K):=by
 unfold qK;apply ws;exact h
def W5(h:T W (VL v d n pb pj m S R) (K (.b S.dK))):T W (VL v d n pb pj m S R) (qL (ah v) K):=by
 unfold qL;apply ws;exact h
def Tv(h:∀p,T W (cL p (bo m,[])::VL v d n pb pj m S R) (K (.p (ah p)))):T W (VL v d n pb pj m S R) (qn (ah v) K):=by
 refine qZ (p:=pb) (b:=bo m) (hs:=[]) λhg=>?_;unfold qn
 repeat' first|apply ws|apply wb|refine Il (p:=pb) ?_
 refine Ll hg λp=>?_;apply ws;exact h p
end
def mY:aA:=⟨[],[],0,0⟩
def GH:eB (bo mY):=⟨List.nodup_nil,List.nodup_nil,(by show 0<=32;decide),(by show 0<=96;decide),λa h=>(by cases h),λa h=>(by cases h),List.Pairwise.nil,λa h=>(by cases h),(by show(0:Int)<=0/\(0:Int)<=1099511627776;decide),rfl⟩
def kx:Md.bW mY:=⟨λa h=>(by cases h),List.nodup_nil,(by show 0<=32;decide),List.nodup_nil,λa h=>(by cases h),λa h=>(by cases h),(by show 0<=96;decide),λa h=>(by cases h),λa h=>(by cases h),λa h=>(by cases h)⟩
def AK(h:gp):∀v∈cu h,v.oneCell'=true:=λv hv=>by simp[cu] at hv;rcases hv with rfl|rfl|rfl|rfl<;>rfl
instance{x1 x2 x3 x4:Value}{h:gp}:Wr [x1,x2,x3,x4] 0 (cu h) (cu h):=⟨rfl,aI _,AK h⟩
instance{h:gp}:Sub (cu h) 0 4 (cu h):=⟨rfl,λj v h=>by rw[aB];exact h⟩
def HH(n:Nat):∀v∈fC n,v.oneCell'=true:=λv hv=>by simp[fC] at hv;rcases hv with rfl|rfl|rfl|rfl|rfl<;>rfl
instance{x1 x2 x3 x4 x5:Value}{n:Nat}:Wr [x1,x2,x3,x4,x5] 0 (fC n) (fC n):=⟨rfl,aI _,HH n⟩
instance{n:Nat}:Sub (fC n) 0 5 (fC n):=⟨rfl,λj v h=>by rw[aB];exact h⟩
def acs(D:aY)(n:Nat)(hd:gp)(mb:aA):Prop:=
 (B8 (Bl D 0) (Bl D 1)=none/\hd=Fc/\mb=mY)\/(B8 (Bl D 0) (Bl D 1)=some hd/\get D n hd.bu hd.number hd.size=some (cT (bo mb)))
section
variable {W:World} {L R:LH} {K:VK} {X:WK} {v d n pb pj:Nat} {D:aY} {f:aY->LH} {mb:aA} {hd:gp}
def Zd(h:∀p,T W (cL p (bo mY,[])::L) (K (.p (ah p)))):T W L (vg K):=by
 refine VN λp la lk ti tn=>?_;intro w7 hw7;have h2:=hw7.push (A:=wV []) trivial;refine E7 (p:=p) (la:=la) (lk:=lk) (ti:=ti) (tn:=tn) (vs:=[]) (bx:=[]) (c:=fS (bo mY)) (hs:=[]) (R:=L) trivial (λw hw=>h p w (St.and_intro GH hw)) w7 ?_;exact h2.perm (bG (l₁:=[wV []]) (l₂:=[_,_,_,_,_])|>.append_right L)
def W7[i:Lc (gN d) L D f](iz:D.Ok)(nu:12<=n)(cS:n<=4096)(hb:acs D n hd mb)(hg:eB (bo mb))(h:∀pb,T W (cL pb (bo mb,[])::L) (K (.tuple ⟨[.p (ah pb),.agg ⟨cu hd⟩,.i 0]⟩))):
 T W L (xR (ah d) (fC n) K):=by
 unfold xR;apply ws;intros;apply Wg iz;rcases hb with⟨h1,rfl,rfl⟩|⟨h1,h2⟩
 ·rw[h1];unfold qR;apply ws;intros;refine Zd λp=>?_;apply ws;apply TJ (n:=4) (xs:=cu Fc);apply ws;apply T.sub (h p);exact qo
 ·rw[h1];unfold qR;apply ws;intros;apply aaV iz nu cS;rw[h2];unfold tR;apply ws;refine Ll hg λp=>?_;apply ws;apply T.sub (h p);exact qo
end
structure Hg(q:j0):Prop where
 zE:jy q=true
 writes:fo q=true
 aC:∀a∈q.aC,yJ a
 cA:∀t∈q.cA,yF t
def Aw(m:aA)(qs:List j0):aA:=qs.foldl (λm q=>(bD m q).2.2) m
def Iw(m:aA)(qs:List j0)(q:j0):Aw m (qs++[q])=(bD (Aw m qs) q).2.2:=by unfold Aw;rw[List.foldl_append];rfl
def HT{m0:aA}:∀(k:Nat)(m:aA),DK m0.clock m.ax=k->Md.bW m->Zp m0 m->Md.bW {m0 with ax:=m0.ax.map (GN m0.clock)}:=by
 intro k
 induction k using Nat.strongRecOn with
 |_ k ih=>
  intro m hk hg hx;by_cases hn:∀x∈(bo m).ax,¬nH (bo m).clock x
  ·have:=IK (qU m) hx hn;rw[<-this];exact hg
  ·have:∃x,x∈(bo m).ax/\nH (bo m).clock x:=by
    by_cases he:∃x,x∈(bo m).ax/\nH (bo m).clock x
    ·exact he
    ·exact aT (λx hx ho=>he ⟨x,hx,ho⟩) hn
   obtain⟨x,hxm,ho⟩:=this;obtain⟨-,-,m',fF,Yn,hx',Bt⟩:=IJ (qU m) hg hx hxm ho;exact ih _ (by omega) m' rfl Yn hx'
def DA{m:aA}(hg:Md.bW m)(now:Int):Md.bW (m.time now):=by
 rw[JB];exact HT _ (vn m now) rfl (Ec hg now) (Zp.refl _)
def MR{q:j0}:(∀a∈(canon q).aC,a∈q.aC)/\(∀t∈(canon q).cA,t∈q.cA)/\(canon q).aC.length<=q.aC.length/\(canon q).cA.length<=q.cA.length:=by
 unfold canon;split
 ·exact⟨λa h=>h,λt h=>(by cases h),aI _,aF _⟩
 ·split
  ·exact⟨λa h=>(by cases h),λt h=>h,aF _,aI _⟩
  ·exact⟨λa h=>(by cases h),λt h=>(by cases h),aF _,aF _⟩
def wT{m:aA}(hg:Md.bW m)(q:j0):Md.bW (bD m q).2.2:=by
 unfold bD;split
 ·exact hg
 ·split
  ·exact(Lq hg _ _).2.2
  ·split
   ·exact(PB hg _ _).2.2
   ·exact DA hg _
section
variable {W:World} {L R:LH} {K:VK} {X:WK} {v d n pb pj:Nat} {D:aY} {f:aY->LH} {mb:aA} {hd:gp} {qs:List j0}
def pw.two{Y A:HP}{q:j0}{s:wG}(hq:∀L',pw W (A::L') q s):pw W (Y::A::L) q s:=⟨(hq L).aC.mono,(hq L).cA.mono,(hq L).ids.mono,(hq L).ca,(hq L).ct,(hq L).ci⟩
def T.acZ{V O J H B P Dk:HP}(h:T W (B::V::J::Dk::O::R) X):T W (V::O::J::H::B::P::Dk::R) X:=
 T.perm (L:=B::V::J::Dk::O::H::P::R) (T.sub h (by exact qo)) (by
  have e1:([V,O,J,H,B,P,Dk]:LH).Perm (B::[V,O,J,H,P,Dk]):=iM (l₁:=[V,O,J,H]) (l₂:=[P,Dk])
  have e2:([O,J,H,P,Dk]:LH).Perm (J::[O,H,P,Dk]):=iM (l₁:=[O]) (l₂:=[H,P,Dk])
  have e3:([O,H,P,Dk]:LH).Perm (Dk::[O,H,P]):=iM (l₁:=[O,H,P]) (l₂:=[])
  exact(e1.trans (cf.cons _ (cf.cons _ (e2.trans (cf.cons _ e3))))).append_right R)
def W6(G:oH W)(iz:D.Ok)(nu:12<=n)(cS:n<=4096)(hlen:D.safe.length=n)(hb:acs D n hd mb)(hg:eB (bo mb))(oB:Md.bW mb)(HK:0<=hd.seq/\hd.seq<=1152921504606846976)
 (Eu:(lq D n (2+2* dm n:Nat) hd.seq).1=qs.map dH)(hqs:∀q∈qs,Hg q)
 (h:∀v pb pj,Md.bW (Aw mb qs)->T W (VL v d n pb pj (Aw mb qs) ⟨D,⟨(2+2* dm n:Nat),n,(lq D n (2+2* dm n:Nat) hd.seq).2.1,(lq D n (2+2* dm n:Nat) hd.seq).2.2,false⟩,hd.bu,false⟩ R) (K (.tuple ⟨[.p (ah v),.i 0]⟩))):
 T W (gN d D::R) (kX (ah d) K):=by
 unfold kX;have UT:2+2* dm n<n:=by unfold dm;omega
 repeat' first|apply ws|apply wb|refine Ds (d:=d) ?_
 rw[hlen];apply aeU nu cS;apply ws;intros;apply ef (by decide);apply ws;refine W7 (mb:=mb) (hd:=hd) iz nu cS hb hg λpb=>?_;apply ws;intros;apply ef (by decide);apply ws;refine X9 (D:=D) iz (by rw[hlen];omega) HK λpj bb c hex=>?_;apply ws;apply ef (by decide);apply ws;intros;rename_i v;rw[Eu];apply T.acZ;rw[bQ];have hql:qs.length<=4096:=by obtain⟨n',h1,h2,-⟩:=hex;rw[Eu,bQ] at h2;omega
 intro w Z7;refine⟨λvv w=>∃i:Nat,i<=qs.length/\vv=[.p none,.i 0,.p (ah pb),.p (some (ad v 0)),.l bb qs.length c,.i (qs.length:Int),.i (i:Int)]/\Md.bW (Aw mb (qs.take i))/\
  St W w (cL pb (bo (Aw mb (qs.take i)),[])::Sep.pt v (vC d n pb pj hd.bu false)::jP d pj ⟨(2+2* dm n:Nat),n,(lq D n (2+2* dm n:Nat) hd.seq).2.1,(lq D n (2+2* dm n:Nat) hd.seq).2.2,false⟩::gN d D::own bb qs.length c 1 ((qs.map dH).map HC)::R),
  λvs _=>match vs with|[_,_,_,_,_,_,.int _ k]=>qs.length-k.toNat|_=>0,⟨0,aF _,rfl,oB,Z7⟩,?_⟩
 rintro p4 n9 p5 a1 ov mo qf C3 B9 w2 ⟨i,hi,e,hgi,ib⟩;cases e
 refine T.at ?_ ib;have e5:=nI i;apply ga<;>intro g1
 ·have cn:i<qs.length:=by omega
  have gx:=aj cn;have gq:=hqs _ (bF cn);have tj:qs.take (i+1)=qs.take i++[qs[i]]:=by rw[bg,gx];rfl
  generalize qs[i]=q at gx gq tj;have adL:=CV gq.zE gq.writes gq.aC gq.cA;have hcg:=G0 gq.zE gq.writes;refine dS (b:=bb) ⟨by omega,by omega⟩ λrb hb=>?_;subst hb;rw[ak,mF];refine TF (v:=HC (dH q)) (by rw[fy,fy,gx];rfl) ?_;unfold HC;apply qz;refine zS (by have:=Lx gq.zE gq.writes;omega) (λAy=>by rw[DI gq.zE gq.writes gq.aC gq.cA] at Ay;cases Ay) (λ_ A sl hq=>?_);rw[adL] at hq⊢;dsimp only at hq⊢;apply ws;intros;apply ef (by decide)
  repeat' first|apply ws|apply wb|refine Dh ?_
  rw[hcg.2];unfold kX.j1;apply ws;apply T.aa2;have Hq:=MR (q:=q);have WU:(canon q).op=2->∀t∈(canon q).cA,TOk t:=λho t ht=>⟨gq.cA t (Hq.2.1 t ht),by
   have hf:=nT hcg.1
   have:∀a∈(canon q).cA,kH a:=by rcases hf with h|h|h|h|h<;>first|exact h.2.2|omega
   exact this t ht⟩
  have Gy:=GZ (Aw mb (qs.take i)) gq.writes;refine ME G hgi (pw.two hq) (λ_ a ha=>gq.aC a (Hq.1 a ha)) WU λZU rc2 Nt=>?_;apply ws;rw[Gy.1] at Nt⊢;rw[e5];have hre:Aw mb (qs.take (i+1))=(bD (Aw mb (qs.take i)) q).2.2:=by rw[tj,Iw]
  refine T.sub (M:=cL pb (bo (bD (Aw mb (qs.take i)) q).2.2,[])::Sep.pt v (vC d n pb pj hd.bu false)::jP d pj ⟨(2+2* dm n:Nat),n,(lq D n (2+2* dm n:Nat) hd.seq).2.1,(lq D n (2+2* dm n:Nat) hd.seq).2.2,false⟩::gN d D::own (ah rb) qs.length c 1 ((qs.map dH).map HC)::R) (λw3 h3=>?_) ?_
  ·exact⟨⟨i+1,cn,rfl,by rw[hre];exact Nt,by rw[hre];exact h3⟩,dn (by omega)⟩
  ·repeat (first|exact bm.refl _|apply bm.cons_cons|apply bm.cons)
 ·have iZ:i=qs.length:=by omega
  subst iZ;rw[aV] at hgi⊢;have fin:=h v pb pj hgi;apply T.N0;apply T.sub fin;exact qo
end
end Go.Up
namespace Go.Up
open Go.Md
inductive Step(m:aA):aA->Prop where
 |same:Step m m
 |make (a:bP) (h:uM a=0) (hn:m.find a.id=none) (hf:m.cW.length<32):Step m {m with ay:=m.ay+1,cW:=m.cW++[{a with ay:=m.ay+1,aq:=a.aq/2* 2}]}
 |move (t:cH) (n:Nat) (d c:bP) (hk:nL t=0) (he: ¬jZ t.aq) (hn:m.named t.id=none) (hd:d∈m.cW) (hc:c∈m.cW) (HO:d.id=t.bI) (Hq:c.id=t.aU) (hl:d.bJ=c.bJ) (hm:m.ax.length<96)
  (hb: ¬(has (Md.full m.ax d).aq 2/\ja (Md.full m.ax d) true<n)) (xa: ¬(has (Md.full m.ax c).aq 4/\ja (Md.full m.ax c) false<n)):Step m (m.mw t {t with a8:=n} (waits t))
 |ends (t:cH) (i:Nat) (k:cr) (hi:m.ax[i]?=some k) (hk:nL t=0) (he:jZ t.aq) (hn:m.named t.id=none) (hw:has k.move.aq 2) (h1:k.fate=1) (hb: ¬my t k.move) (hm:m.ax.length<96):
  Step m ((m.fa i (dP t)).mw t (ny t k.move) 0)
 |time (now:Int):Step m (m.time now)
def RL{m:aA}(a:bP):Step m (m.make a).2:=by
 unfold aA.make;split
 ·exact .same
 ·rename_i h1;split
  ·exact .same
  ·rename_i h2;split
   ·exact .same
   ·rename_i h3;exact .make a (by simpa using h1) h2 (by omega)
def RH{m:aA}(hg:Md.bW m)(t:cH):Step m (m.move t).2:=by
 unfold aA.move;dsimp only;split
 ·exact .same
 ·rename_i h;have h:(jI t (m.named t.id) ((m.find t.bI).map m.full) ((m.find t.aU).map m.full) m.ax.length).1=0:=by simpa using h
  obtain⟨d',c',e1,e2,e3,e4,e5,e6,e7,e8,e9,YX,e11,Vp,e13⟩:=wk h;cases hd:m.find t.bI with
  |none=>rw[hd] at e1;cases e1
  |some d=>
   cases hc:m.find t.aU with
   |none=>rw[hc] at e2;cases e2
   |some c=>
    rw[hd] at e1;rw[hc] at e2;cases e1
    cases e2
    obtain⟨m1,i1⟩:=xw hd;obtain⟨m2,i2⟩:=xw hc;have f1:=hg.full m1;have f2:=hg.full m2;rw[hd,hc] at *;simp only[fm] at *;generalize (jI t (m.named t.id) (some (m.full d)) (some (m.full c)) m.ax.length).2=N at YX e11 Vp e13⊢;rw[f1] at Vp;rw[f2] at e13;rw[f1,f2] at e6;exact .move t _ d c e4 e5 e3 m1 m2 i1 i2 e6 e9 Vp e13
def Vk{m:aA}(hg:Md.bW m)(t:cH):Step m (m.pE t).2:=by
 unfold aA.pE;split
 ·exact .same
 ·rename_i i hi;split
  ·exact .same
  ·rename_i k hk;dsimp only;split
   ·exact .same
   ·rename_i h;have pU:=cD hk;obtain⟨e1,e2,e3,e4,e5,e6,e7⟩:=Be (by simpa using h) (hg.vH k pU).1;have:=(hg.vH k pU).2.2.1 e4;exact .ends t i k hk e2 e3 e1 e4 (by omega) e6 e7
def Vu{m:aA}(hg:Md.bW m)(t:cH):Step m (m.rI t).2:=by
 unfold aA.rI;split
 ·exact Vk hg t
 ·exact RH hg t
def Jn{σ α:Type}{f:σ->α->Int×σ}{P:σ->Prop}(h:∀s x,P s->P (f s x).2):∀(l:List α)(s:σ)(i:Nat),P s->P (iw f s l i).2
 |[],s,i,hs=>hs
 |x::l,s,i,hs=>by
  unfold iw;split
  ·exact hs
  ·exact Jn h l _ _ (h s x hs)
def BU{σ α:Type}{f:σ->α->Int×σ}{P:σ->Prop}(lk:α->Bool)(h:∀s x,P s->P (f s x).2):∀(n:Nat)(s:σ)(l:List α),P s->P (iu f lk n s l).2
 |0,s,l,hs=>hs
 |n+1,s,[],hs=>hs
 |n+1,s,x::l,hs=>by
  rw[iu];split
  ·exact hs
  ·have hd:=Jn h ((x::l).take (cy lk (x::l)).1) s 0 hs;split
   ·rename_i s' e;rw[e] at hd;exact BU lk h n _ _ hd
   ·exact BU lk h n _ _ hs
def GQ{P:aA->Prop}(hP:∀m m',Md.bW m->P m->Step m m'->P m'){m:aA}{q:j0}(hg:Md.bW m)(h:P m):P (bD m q).2.2:=by
 unfold bD;split
 ·exact h
 ·split
  ·exact(BU (P:=λm=>Md.bW m/\P m) _ (λs x hs=>⟨(Md.pK.make (qU s) hs.1).2.2,hP _ _ hs.1 hs.2 (RL x)⟩) _ _ _ ⟨hg,h⟩).2
  ·split
   ·exact(BU (P:=λm=>Md.bW m/\P m) _ (λs x hs=>⟨(Md.pK.rI (qU s) hs.1).2.2,hP _ _ hs.1 hs.2 (Vu hs.1 x)⟩) _ _ _ ⟨hg,h⟩).2
   ·exact hP _ _ hg h (.time _)
def nE(l:List Int):Nat:=l.countP (·==0)
def xZ{α σ:Type}(f:σ->α->Int×σ)(lk:α->Bool):∀(n:Nat)(s:σ)(l:List α),(iu f lk n s l).1.length<=l.length
 |0,s,l=>aF _
 |n+1,s,[]=>aF _
 |n+1,s,x::l=>by
  have hle:=vL (linked:=lk) (x::l);have hd:((x::l).drop (cy lk (x::l)).1).length=(x::l).length-(cy lk (x::l)).1:=aS;rw[iu];by_cases hw:(cy lk (x::l)).2=false
  ·rw[ai hw];dsimp only;rw[lg];exact hle
  rw[ag hw];cases iw f s ((x::l).take (cy lk (x::l)).1) 0 with
  |mk o s'=>
   cases o with
   |none=>
    have:=xZ f lk n s' ((x::l).drop (cy lk (x::l)).1);dsimp only;rw[av,lg];omega
   |some e=>
    have:=xZ f lk n s ((x::l).drop (cy lk (x::l)).1);dsimp only;rw[av,lg];omega
def yX(c:Int):Prop:=0<=c/\c<=255
def MO(t:cH):yX (nL t):=by
 unfold nL yX
 repeat' split
 all_goals omega
def VB(a:bP):yX (uM a):=by
 unfold uM yX
 repeat' split
 all_goals omega
def Ha(t b:cH):yX (tK t b):=by unfold tK yX;split<;>omega
def O4(t b:bP):yX (uN t b):=by unfold uN yX;split<;>omega
def O3(t:cH)(d c:bP):yX (de t d c).2:=by
 unfold de yX;dsimp only;by_cases h1:has t.aq 16/\(if has t.aq 16 then min (if t.a8=0 then bO-1 else t.a8) (ja d true) else if t.a8=0 then bO-1 else t.a8)=0
 ·rw[ai h1];simp
 ·rw[ag h1];by_cases h2:has t.aq 32/\(if has t.aq 32 then min (if has t.aq 16 then min (if t.a8=0 then bO-1 else t.a8) (ja d true) else if t.a8=0 then bO-1 else t.a8) (ja c false) else if has t.aq 16 then min (if t.a8=0 then bO-1 else t.a8) (ja d true) else if t.a8=0 then bO-1 else t.a8)=0
  ·rw[ai h2];simp
  ·rw[ag h2];simp
def L2(a:bP)(b:Bool)(n:Nat)(p:Bool):yX (more a b n p).2:=by
 unfold more yX
 repeat' split
 all_goals simp
def Of(t:cH)(named:Option cr)(d c:Option bP)(many:Nat):yX (jI t named d c many).1:=by
 unfold jI;have h1:=MO t;split
 ·exact h1
 split
 ·unfold yX;simp
 cases named with
 |some k=>exact Ha _ _
 |none=>
  cases d with
  |none=>unfold yX;simp
  |some d=>
   cases c with
   |none=>unfold yX;simp
   |some c=>
    have h2:=O3 t d c;have h3:=L2 d true (de t d c).1 (decide (has t.aq 2));have h4:=L2 c false (de t d c).1 (decide (has t.aq 2));dsimp only
    repeat' split
    all_goals first|exact h2|exact h3|exact h4|(unfold yX;dsimp only;decide)
def Dg(t:cH)(named:Option cr){pend:Option cr}(hp:∀k,pend=some k->k.fate<=4)(d c:Bool)(many:Nat):yX (oC t named pend d c many):=by
 unfold oC;have h1:=MO t;split
 ·exact h1
 split
 ·unfold yX;decide
 cases named with
 |some k=>exact Ha _ _
 |none=>
  cases pend with
  |none=>unfold yX;dsimp only;decide
  |some k=>
   have:=hp k rfl;unfold yX;dsimp only
   repeat' split
   all_goals omega
def YY{m:aA}(hg:Md.bW m)(t:cH):yX (m.rI t).1:=by
 unfold aA.rI;split
 ·unfold aA.pE;cases hi:m.name t.pending with
  |none=>dsimp only;exact Dg t _ (λk h=>by cases h) _ _ _
  |some i=>
   dsimp only;cases hk:m.ax[i]? with
   |none=>dsimp only;exact Dg t _ (λk h=>by cases h) _ _ _
   |some k=>
    have hf:=(hg.vH k (cD hk)).2.1;dsimp only;split
    ·exact Dg t _ (pend:=some k) (λk2 h=>by cases h;exact hf) _ _ _
    ·unfold yX;dsimp only;decide
 ·unfold aA.move;dsimp only;split
  ·exact Of t _ _ _ _
  ·unfold yX;dsimp only;decide
def UC(m:aA)(a:bP):yX (m.make a).1:=by
 unfold aA.make;split
 ·exact VB a
 ·split
  ·exact O4 _ _
  ·split
   ·unfold yX;dsimp only;decide
   ·unfold yX;dsimp only;decide
def C0{n:Nat}{o:Option (Nat×Int)}(h:∀i c,o=some (i,c)->yX c):∀c∈ln n o,yX c:=λc hc=>by
 unfold ln at hc;cases o with
 |none=>rw[(List.mem_replicate.1 hc).2];unfold yX;decide
 |some e=>
  obtain⟨i,x⟩:=e;rcases fq hc with hh|hh
  ·rw[(List.mem_replicate.1 hh).2];unfold yX;decide
  ·rw[hh];exact h i x rfl
section
variable {σ α:Type} {f:σ->α->Int×σ} {P:σ->Prop}
def Jk(hP:∀s x,P s->P (f s x).2/\yX (f s x).1):∀(l:List α)(s:σ)(i:Nat),P s->P (iw f s l i).2/\∀j c,(iw f s l i).1=some (j,c)->yX c
 |[],s,i,h=>⟨h,λj c e=>by cases e⟩
 |x::l,s,i,h=>by
  unfold iw;split
  ·exact⟨h,λj c e=>by cases e;exact(hP s x h).2⟩
  ·exact Jk hP l _ _ (hP s x h).1
def BR(lk:α->Bool)(hP:∀s x,P s->P (f s x).2/\yX (f s x).1):∀(n:Nat)(s:σ)(l:List α),P s->∀c∈(iu f lk n s l).1,yX c
 |0,s,l,_,c,hc=>by cases hc
 |n+1,s,[],_,c,hc=>by cases hc
 |n+1,s,x::l,h,c,hc=>by
  rw[iu] at hc;split at hc
  ·exact C0 (o:=some ((cy lk (x::l)).1-1,2)) (λi c e=>by cases e;unfold yX;decide) c hc
  ·have hd:=Jk hP ((x::l).take (cy lk (x::l)).1) s 0 h;generalize iw f s ((x::l).take (cy lk (x::l)).1) 0=r at hd hc
   match r,hd,hc with
   |(none,s'),hd,hc=>
    rcases dB.1 hc with hc|hc
    ·exact C0 (o:=none) (λi c e=>by cases e) c hc
    ·exact BR lk hP n _ _ hd.1 c hc
   |(some e,s'),hd,hc=>
    rcases dB.1 hc with hc|hc
    ·exact C0 (o:=some e) (λi c' e'=>by cases e';exact hd.2 _ _ rfl) c hc
    ·exact BR lk hP n _ _ h c hc
end
def D4{m:aA}{q:j0}(hg:Md.bW m)(he:lJ q=true):oQ (bD m q).1 (bD m q).2.1 [] []=true:=by
 have kJ: ¬lJ q=false:=by rw[he];decide
 have fin:∀(res:List Int),(∀c∈res,yX c)->res.length<=16->oQ 0 res [] []=true:=λres h1 h2=>by
  unfold oQ;simp only[df,pW,decide_eq_true_eq,cR];exact⟨⟨⟨⟨λc hc=>h1 c hc,λa ha=>(by cases ha)⟩,λa ha=>(by cases ha)⟩,by omega⟩,by omega⟩
 have hl:q.op=1/\q.aC.length<=8\/q.op=2/\q.cA.length<=8\/q.op≠1/\q.op≠2:=by
  unfold lJ at he;by_cases h1:q.op=1
  ·left;rw[ai h1] at he;simp at he;exact⟨h1,by omega⟩
  ·by_cases h2:q.op=2
   ·right;left;rw[ag h1,ai h2] at he;simp at he;exact⟨h2,by omega⟩
   ·exact .inr (.inr ⟨h1,h2⟩)
 unfold bD;rw[ag kJ];rcases hl with⟨h1,h2⟩|⟨h1,h2⟩|⟨h1,h2⟩
 ·rw[ai h1];refine fin _ (BR (P:=λ_=>True) _ (λs x _=>⟨trivial,UC s x⟩) _ _ _ trivial) ?_;have:=xZ aA.make Bq q.aC.length m q.aC;dsimp only;omega
 ·rw[ag (by omega),ai h1];refine fin _ (BR (P:=Md.bW) _ (λs x h=>⟨(Md.pK.rI (qU s) h).2.2,YY h x⟩) _ _ _ hg) ?_;have:=xZ aA.rI Bp q.cA.length m q.cA;dsimp only;omega
 ·rw[ag h1,ag h2];exact fin [] (λc hc=>by cases hc) (by simp)
end Go.Up
namespace Go.Up
open Go.Sep Go.Den Go.RowKit Go.Prog Go.Md Go.cG
def XU(l:List UInt8):LZ l<bO:=by
 unfold LZ;split
 ·decide
 ·have h1:=sq (l.take 16);have h2:(l.take 16).length<=16:=by rw[aD];omega
  have h3:256^(l.take 16).length<=256^16:=gO (by decide) h2;have h4:(256:Nat)^16=bO:=rfl;omega
def wO(x:RS):AF x<bO:=by
 unfold AF;split
 ·decide
 ·exact XU _
def tT(n:Nat)(x:RS):vS (jm n x):=by
 unfold jm vS;split
 ·omega
 ·unfold nK;simp only[IntKind.wrap,IntKind.bits,IntKind.signed];simp;split<;>omega
def AI:vS 0:=by unfold vS;omega
def abd(x:RS):yJ (Em x):=by
 unfold Em;split
 ·exact⟨by decide,by decide,by decide,by decide,by decide,AI,AI,AI,AI⟩
 ·exact⟨wO _,wO _,wO _,wO _,wO _,tT _ _,tT _ _,tT _ _,tT _ _⟩
def abc(x:RS):yF (EO x):=by
 unfold EO;split
 ·exact⟨by decide,by decide,by decide,by decide,by decide,AI,AI,AI,AI,AI,AI⟩
 ·exact⟨wO _,wO _,wO _,wO _,wO _,tT _ _,tT _ _,tT _ _,tT _ _,tT _ _,tT _ _⟩
def Og{α:Type}{nx:RS->RS}{nv:RS->α}{P:α->Prop}(h:∀x,P (nv x)):∀(n:Nat)(x:RS),∀y∈(many nx nv n x).1,P y
 |0,x,y,hy=>by cases hy
 |n+1,x,y,hy=>by
  rw[qa] at hy;split at hy
  ·cases hy
  ·rcases ka.1 hy with e|e
   ·rw[e];exact h x
   ·exact Og h n _ y e
def BX(l:List UInt8):(∀a∈(gV l).1.aC,yJ a)/\(∀t∈(gV l).1.cA,yF t)/\(gV l).1.aC.length<=255/\(gV l).1.cA.length<=255:=by
 have hb:=Rz (eV 1 (l,false));have h1:=xm (nx:=El) (nv:=Em) (jm 1 (eV 1 (l,false))).toNat (eV 1 (eV 1 (l,false)));have h2:=xm (nx:=EN) (nv:=EO) (jm 1 (eV 1 (l,false))).toNat (eV 1 (eV 1 (l,false)));unfold gV;dsimp only;split
 ·exact⟨Og abd _ _,λt h=>(by cases h),by dsimp only;omega,aF _⟩
 split
 ·exact⟨λt h=>(by cases h),Og abc _ _,aF _,by dsimp only;omega⟩
 split
 ·exact⟨λt h=>(by cases h),λt h=>(by cases h),aF _,aF _⟩
 split
 ·exact⟨λt h=>(by cases h),λt h=>(by cases h),aF _,aF _⟩
 ·exact⟨λt h=>(by cases h),λt h=>(by cases h),aF _,aF _⟩
def nX{l:List UInt8}(h:qD l=true):jy (gV l).1=true:=by
 unfold qD at h;exact(df _ _▸h).2
def Rh{e:Int}(h:0<=e/\e<=255):oQ e [] [] []=true:=by
 unfold oQ;simp[h]
def Xx{e e':Int}{res acW:List Int}{al al':List bP}{tl tl':List cH}(h:oQ e res al tl=true)(h':oQ e' acW al' tl'=true)(heq:pM e res al tl=pM e' acW al' tl'):e=e':=by
 unfold pM at heq;rw[ai h,ai h'] at heq;have:=congrArg (λl=>jm 1 (l,false)) heq;unfold zo at this;rwa[SO (vy h).2.2.2.1,SO (vy h').2.2.2.1] at this
def aa6{e e':Int}{res:List Int}(h:oQ e res [] []=true)(h':0<=e'/\e'<=255)(hn:e≠e'):pM e res [] []≠pM e' [] [] []:=λhh=>hn (Xx h (Rh h') hh)
end Go.Up
namespace Go.Prog
open Go.Den
def dG(a:OA)(K:VK):WK:=br (a.isNone) (K (.p none)) (nn a λb=>lP (b.add 1) λc=>qn c (xP λd=>K (.p d)))
def pX.j1(K:VK)(a:Addr)(c:Bool):WK:=br c (lL (a.add 1) λg d h=>lL (a.add 2) λi e j=>lL (a.add 3) λk f l=>K (.b (decide ((max2 (max2 (d:Int) (e:Int)) (f:Int))<=16)))) (K (.b false))
def pX(P:LV)(K:VK):WK:=mk P λC=>lL (ad C 1) λQ D R=>(lp [.p (some (ad C 0)),.b false,.l Q D R,.i (D:Int),.i 0] λE S=>∀c h j k v m d w,E [.p (some c),.b h,.l j k v,.i m,.i d] w->(br (decide (d<m)) (iW j k d 1 λT=>lI T λF=>br (decide (F<0)) (K (.b false)) (br (decide (F>255)) (K (.b false)) ((ct E S [.p (some c),.b h,.l j k v,.i m,.i (aa.wrap (d+1))] [.p (some c),.b h,.l j k v,.i m,.i d] w)))) (lL (c.add 2) λV G W=>(lp [.p (some c),.b h,.l V G W,.i (G:Int),.i 0] λH X=>∀e n o q x r f y,H [.p (some e),.b n,.l o q x,.i r,.i f] y->(br (decide (f<r)) (iW o q f 14 λY=>aJ Y 14 λZ=>mk eG λI=>bK 14 (ad I 0) Z (aJ (ad I 0) 14 λHW=>ju HW (xB λb3=>br (!b3) (K (.b false)) ((ct H X [.p (some e),.b n,.l o q x,.i r,.i (aa.wrap (f+1))] [.p (some e),.b n,.l o q x,.i r,.i f] y))))) (lL (e.add 3) λBM J BL=>(lp [.p (some e),.b n,.l BM J BL,.i (J:Int),.i 0] λM SJ=>∀a z s t A u g B,M [.p (some a),.b z,.l s t A,.i u,.i g] B->(br (decide (g<u)) (iW s t g 16 λa6=>aJ a6 16 λMJ=>mk iL λO=>bK 16 (ad O 0) MJ (aJ (ad O 0) 16 λOK=>fZ OK (xB λb5=>br (!b5) (K (.b false)) ((ct M SJ [.p (some a),.b z,.l s t A,.i u,.i (aa.wrap (g+1))] [.p (some a),.b z,.l s t A,.i u,.i g] B))))) (lI a λn8=>br (decide (n8>=0)) (lI a λn9=>pX.j1 K a (decide (n9<=255))) (pX.j1 K a false))) B))) y))) w)
def kW.j1(K:VK)(b:Nat):WK:=cw True (mk [.l none 0 0] λh=>tick (lI (ad b 0) λr=>bt (some (ad h 0)) 1 r (x0 (tick (lL (ad b 1) λt n u=>bt (some (ad h 0)) 1 (n:Int) (x0 (kp (ad b 1) [.l t n u] (lL (ad b 1) λv o w=>(lp [.p (some (ad b 0)),.s .empty,.p (some (ad h 0)),.l v o w,.i (o:Int),.i 0] λq x=>∀c j a e f k g d m,q [.p (some c),.s j,.p (some a),.l e f k,.i g,.i d] m->(br (decide (d<g)) (iW e f d 1 λy=>lI y λz=>bt (some a) 1 z (x0 ((ct q x [.p (some c),.s j,.p (some a),.l e f k,.i g,.i (aa.wrap (d+1))] [.p (some c),.s j,.p (some a),.l e f k,.i g,.i d] m)))) (lL (c.add 2) λA B C=>lF (some a) A B C (x0 (lL (c.add 3) λD E F=>kT (some a) D E F (x0 (dN (some a) (xS λG=>K (.s G)))))))) m)))))))))
def kW(b:LV)(K:VK):WK:=mk b λa=>aJ (ad a 0) 4 λc=>pX c (xB λd=>br (!d) (cw (1=1/\True) (cw (4=4) (jY (ad a 0) [.i 3,.l none 0 0,.l none 0 0,.l none 0 0] (kW.j1 K a)))) (kW.j1 K a))
def fA(a:OA)(b:BA)(K:VK):WK:=br (a.isNone) (cw (1=1/\True) (kW [.i 2,.l none 0 0,.l none 0 0,.l none 0 0] (xS λe=>K (.s e)))) (br (decide ((b.size:Int)>16384)) (cw (1=1/\True) (kW [.i 3,.l none 0 0,.l none 0 0,.l none 0 0] (xS λf=>K (.s f)))) (jn b (x2 λg h=>(xA 13 λj=>(xI .i64 λc=>mk ke λd=>bK 13 (ad d 0) j (br (c !=0) (cw (1=1/\True) (kW [.i c,.l none 0 0,.l none 0 0,.l none 0 0] (xS λk=>K (.s k)))) (tick (nn a λm=>lP (m.add 1) λn=>aJ (ad d 0) 13 λo=>na n o (xA 4 λp=>kW p (xS λq=>K (.s q))))))) h) g)))
def jO.j1(K:VK)(a b:OA)(c:Bool):WK:=br c (K (.tuple ⟨[.p none,.i 1]⟩)) (cw (1=1/\(1=1/\True)) (mk [.p a,.p b] λd=>K (.tuple ⟨[.p (some (ad d 0)),.i 0]⟩)))
def jO(b:Int)(K:VK):WK:=um b (xP λa=>kX a (x2 λd e=>(xP λc=>(xI .i64 λf=>br (f !=0) (jO.j1 K a c true) (fH a (xI .i64 λg=>jO.j1 K a c (g !=b)))) e) d))
def dw(r:LV)(K:VK):WK:=mk r λt=>(lp [.p (some (ad t 0)),.s .empty,.s .empty,.i 0] λn u=>∀j k e f l,n [.p (some j),.s k,.s e,.i f] l->(br (decide (f<16)) ((lp [.p (some j),.s k,.s e,.i f,.i 0,.i 7] λo v=>∀a g b c h d m,o [.p (some a),.s g,.s b,.i c,.i h,.i d] m->(br (decide (d>=0)) (aJ a 2 λw=>fX w (aa.wrap ((aa.wrap (8* c))+d)) (xI .i64 λx=>(ct o v [.p (some a),.s g,.s b,.i c,.i (aa.wrap ((aa.wrap (2* h))+x)),.i (aa.wrap (d-1))] [.p (some a),.s g,.s b,.i c,.i h,.i d] m))) (cw (1=1/\True) (mk [.int .u8 (IntKind.u8.wrap h)] λy=>VQ (ah y) 1 λq=>cw (((b.size+q.size:Nat):Int)<=9223372036854775807) ((ct n u [.p (some a),.s g,.s (b++q),.i (aa.wrap (c+1))] [.p (some j),.s k,.s e,.i f] l))))) m)) (K (.s e))) l)
def lR(t:LV)(K:VK):WK:=mk t λa=>tick (aJ (ad a 0) 2 λu=>aJ (ad a 2) 2 λp=>aJ (ad a 4) 2 λm=>aJ (ad a 6) 2 λj=>aJ (ad a 8) 2 λg=>dw u (xS λb=>kp (ad a 8) g (kp (ad a 6) j (kp (ad a 4) m (kp (ad a 2) p (dw p (xS λc=>kp (ad a 8) g (kp (ad a 6) j (kp (ad a 4) m (cw (((b.size+c.size:Nat):Int)<=9223372036854775807) (dw m (xS λd=>kp (ad a 8) g (kp (ad a 6) j (cw ((((b++c).size+d.size:Nat):Int)<=9223372036854775807) (dw j (xS λe=>kp (ad a 8) g (cw (((((b++c)++d).size+e.size:Nat):Int)<=9223372036854775807) (dw g (xS λf=>cw ((((((b++c)++d)++e).size+f.size:Nat):Int)<=9223372036854775807) (tick (lI (ad a 10) λv=>lI (ad a 11) λq=>lI (ad a 12) λn=>lI (ad a 13) λk=>bN 4 v (xS λh=>kp (ad a 13) [.i k] (kp (ad a 12) [.i n] (kp (ad a 11) [.i q] (cw (((((((b++c)++d)++e)++f).size+h.size:Nat):Int)<=9223372036854775807) (bN 2 q (xS λl=>kp (ad a 13) [.i k] (kp (ad a 12) [.i n] (cw ((((((((b++c)++d)++e)++f)++h).size+l.size:Nat):Int)<=9223372036854775807) (bN 2 n (xS λo=>kp (ad a 13) [.i k] (cw (((((((((b++c)++d)++e)++f)++h)++l).size+o.size:Nat):Int)<=9223372036854775807) (bN 8 k (xS λr=>cw ((((((((((b++c)++d)++e)++f)++h)++l)++o).size+r.size:Nat):Int)<=9223372036854775807) (K (.s ((((((((b++c)++d)++e)++f)++h)++l)++o)++r)))))))))))))))))))))))))))))))))))))
def lO(w:LV)(K:VK):WK:=mk w λa=>tick (aJ (ad a 0) 2 λx=>aJ (ad a 2) 2 λr=>aJ (ad a 4) 2 λo=>aJ (ad a 6) 2 λl=>aJ (ad a 8) 2 λj=>dw x (xS λb=>kp (ad a 8) j (kp (ad a 6) l (kp (ad a 4) o (kp (ad a 2) r (dw r (xS λc=>kp (ad a 8) j (kp (ad a 6) l (kp (ad a 4) o (cw (((b.size+c.size:Nat):Int)<=9223372036854775807) (dw o (xS λd=>kp (ad a 8) j (kp (ad a 6) l (cw ((((b++c).size+d.size:Nat):Int)<=9223372036854775807) (dw l (xS λe=>kp (ad a 8) j (cw (((((b++c)++d).size+e.size:Nat):Int)<=9223372036854775807) (dw j (xS λf=>cw ((((((b++c)++d)++e).size+f.size:Nat):Int)<=9223372036854775807) (tick (lI (ad a 10) λy=>lI (ad a 11) λt=>lI (ad a 12) λp=>lI (ad a 13) λm=>bN 4 y (xS λg=>kp (ad a 13) [.i m] (kp (ad a 12) [.i p] (kp (ad a 11) [.i t] (cw (((((((b++c)++d)++e)++f).size+g.size:Nat):Int)<=9223372036854775807) (bN 4 t (xS λh=>kp (ad a 13) [.i m] (kp (ad a 12) [.i p] (cw ((((((((b++c)++d)++e)++f)++g).size+h.size:Nat):Int)<=9223372036854775807) (bN 2 p (xS λk=>kp (ad a 13) [.i m] (cw (((((((((b++c)++d)++e)++f)++g)++h).size+k.size:Nat):Int)<=9223372036854775807) (bN 2 m (xS λn=>cw ((((((((((b++c)++d)++e)++f)++g)++h)++k).size+n.size:Nat):Int)<=9223372036854775807) (tick (lI (ad a 14) λz=>lI (ad a 15) λu=>bN 8 z (xS λq=>kp (ad a 15) [.i u] (cw (((((((((((b++c)++d)++e)++f)++g)++h)++k)++n).size+q.size:Nat):Int)<=9223372036854775807) (bN 8 u (xS λv=>cw ((((((((((((b++c)++d)++e)++f)++g)++h)++k)++n)++q).size+v.size:Nat):Int)<=9223372036854775807) (K (.s ((((((((((b++c)++d)++e)++f)++g)++h)++k)++n)++q)++v)))))))))))))))))))))))))))))))))))))))))))
def cE.j1(K:VK)(H:OA)(y I:Nat)(J:OA)(z M:Nat)(O:OA)(A P:Nat)(Q:Bool):WK:=br Q (K (.b false)) ((lp [.b false,.l H y I,.i (y:Int),.i 0] λB R=>∀e f g r h a s,B [.b e,.l f g r,.i h,.i a] s->(br (decide (a<h)) (iW f g a 1 λS=>lI S λC=>br (decide (C<0)) (K (.b false)) (br (decide (C>255)) (K (.b false)) ((ct B R [.b e,.l f g r,.i h,.i (aa.wrap (a+1))] [.b e,.l f g r,.i h,.i a] s)))) ((lp [.b e,.l J z M,.i (z:Int),.i 0] λD T=>∀j k m t n c u,D [.b j,.l k m t,.i n,.i c] u->(br (decide (c<n)) (iW k m c 14 λV=>aJ V 14 λW=>mk eG λE=>bK 14 (ad E 0) W (aJ (ad E 0) 14 λX=>dc X (xB λY=>br (!Y) (K (.b false)) ((ct D T [.b j,.l k m t,.i n,.i (aa.wrap (c+1))] [.b j,.l k m t,.i n,.i c] u))))) ((lp [.b j,.l O A P,.i (A:Int),.i 0] λF Z=>∀v o p w q d x,F [.b v,.l o p w,.i q,.i d] x->(br (decide (d<q)) (iW o p d 16 λa3=>aJ a3 16 λHW=>mk iL λG=>bK 16 (ad G 0) HW (aJ (ad G 0) 16 λMJ=>cb MJ (xB λb6=>br (!b6) (K (.b false)) ((ct F Z [.b v,.l o p w,.i q,.i (aa.wrap (d+1))] [.b v,.l o p w,.i q,.i d] x))))) (K (.b true))) x))) u))) s))
def cE.j3(K:VK)(c:OA)(d e:Nat)(f:OA)(a g:Nat)(h:OA)(b i:Nat)(j:Bool):WK:=br j (cE.j1 K c d e f a g h b i true) (br (decide ((a:Int)>16)) (cE.j1 K c d e f a g h b i true) (cE.j1 K c d e f a g h b i (decide ((b:Int)>16))))
def cE.j2(K:VK)(b:OA)(a c:Nat)(d:OA)(e f:Nat)(g:OA)(h i:Nat)(j:Bool):WK:=br j (cE.j3 K b a c d e f g h i true) (cE.j3 K b a c d e f g h i (decide ((a:Int)>16)))
def cE(a:Int)(b:OA)(c d:Nat)(e:OA)(f g:Nat)(h:OA)(i j:Nat)(K:VK):WK:=br (decide (a<0)) (cE.j2 K b c d e f g h i j true) (cE.j2 K b c d e f g h i j (decide (a>255)))
def gF(E:Int)(F:OA)(g G:Nat)(H:OA)(h I:Nat)(J:OA)(j M:Nat)(K:VK):WK:=cE E F g G H h I J j M (xB λb1=>br (!b1) (K (.s ⟨#[3,0,0,0]⟩)) (bN 1 E (xS λO=>bN 1 (g:Int) (xS λP=>cw (((O.size+P.size:Nat):Int)<=9223372036854775807) ((lp [.s .empty,.s (O++P),.l F g G,.i (g:Int),.i 0] λQ kS=>∀k a m n x o c y,Q [.s k,.s a,.l m n x,.i o,.i c] y->(br (decide (c<o)) (iW m n c 1 λa1=>lI a1 λn4=>bN 1 n4 (xS λR=>cw (((a.size+R.size:Nat):Int)<=9223372036854775807) ((ct Q kS [.s k,.s (a++R),.l m n x,.i o,.i (aa.wrap (c+1))] [.s k,.s a,.l m n x,.i o,.i c] y)))) (bN 1 (h:Int) (xS λS=>cw (((a.size+S.size:Nat):Int)<=9223372036854775807) ((lp [.s k,.s (a++S),.l H h I,.i (h:Int),.i 0] λT Jv=>∀p b q r z t d A,T [.s p,.s b,.l q r z,.i t,.i d] A->(br (decide (d<t)) (iW q r d 14 λa2=>aJ a2 14 λQG=>mk eG λV=>bK 14 (ad V 0) QG (aJ (ad V 0) 14 λGU=>lR GU (xS λW=>cw (((b.size+W.size:Nat):Int)<=9223372036854775807) ((ct T Jv [.s p,.s (b++W),.l q r z,.i t,.i (aa.wrap (d+1))] [.s p,.s b,.l q r z,.i t,.i d] A))))) (bN 1 (j:Int) (xS λX=>cw (((b.size+X.size:Nat):Int)<=9223372036854775807) ((lp [.s p,.s (b++X),.l J j M,.i (j:Int),.i 0] λY SJ=>∀B e u v C w f D,Y [.s B,.s e,.l u v C,.i w,.i f] D->(br (decide (f<w)) (iW u v f 16 λa3=>aJ a3 16 λHW=>mk iL λZ=>bK 16 (ad Z 0) HW (aJ (ad Z 0) 16 λMJ=>lO MJ (xS λs13=>cw (((e.size+s13.size:Nat):Int)<=9223372036854775807) ((ct Y SJ [.s B,.s (e++s13),.l u v C,.i w,.i (aa.wrap (f+1))] [.s B,.s e,.l u v C,.i w,.i f] D))))) (K (.s e))) D))))) A))))) y))))))
def fL(a:Int)(K:VK):WK:=gF a none 0 0 none 0 0 none 0 0 (xS λb=>K (.s b))
def oL(a:Bool)(K:VK):WK:=br a (K (.s ⟨#[1]⟩)) (K (.s ⟨#[0]⟩))
def lM(QG:LV)(K:VK):WK:=mk QG λd=>lI (ad d 0) λn1=>bN 1 n1 (xS λc=>lI (ad d 0) λv=>br (v==1) (lL (ad d 1) λwc vw wN=>bN 1 (vw:Int) (xS λW=>cw (((c.size+W.size:Nat):Int)<=9223372036854775807) (lL (ad d 1) λov X qf=>(lp [.s .empty,.s (c++W),.l ov X qf,.i (X:Int),.i 0] λY kS=>∀H k w x I y m J,Y [.s H,.s k,.l w x I,.i y,.i m] J->(br (decide (m<y)) (iW w x m 14 λa1=>aJ a1 14 λGU=>mk eG λZ=>bK 14 (ad Z 0) GU (aJ (ad Z 0) 14 λHW=>lR HW (xS λs5=>cw (((k.size+s5.size:Nat):Int)<=9223372036854775807) ((ct Y kS [.s H,.s (k++s5),.l w x I,.i y,.i (aa.wrap (m+1))] [.s H,.s k,.l w x I,.i y,.i m] J))))) (K (.s k))) J)))) (br (v==2) (lL (ad d 2) λuU uG uP=>bN 1 (uG:Int) (xS λs6=>cw (((c.size+s6.size:Nat):Int)<=9223372036854775807) (lL (ad d 2) λBM Bo BL=>(lp [.s .empty,.s (c++s6),.l BM Bo BL,.i (Bo:Int),.i 0] λI2 Jv=>∀M n z A O B o P,I2 [.s M,.s n,.l z A O,.i B,.i o] P->(br (decide (o<B)) (iW z A o 16 λa2=>aJ a2 16 λMJ=>mk iL λr3=>bK 16 (ad r3 0) MJ (aJ (ad r3 0) 16 λOK=>lO OK (xS λs9=>cw (((n.size+s9.size:Nat):Int)<=9223372036854775807) ((ct I2 Jv [.s M,.s (n++s9),.l z A O,.i B,.i (aa.wrap (o+1))] [.s M,.s n,.l z A O,.i B,.i o] P))))) (K (.s n))) P)))) (br (v==3) (lI (ad d 3) λn7=>bN 8 n7 (xS λs10=>cw (((c.size+s10.size:Nat):Int)<=9223372036854775807) (K (.s (c++s10))))) (br (v==6) (aJ (ad d 5) 8 λcs6=>mk Fa λa=>bK 8 (ad a 0) cs6 (tick (aJ (ad a 0) 2 λcs7=>lI (ad a 2) λn8=>lI (ad a 3) λQ=>lT (ad a 4) λC=>lT (ad a 5) λp=>lT (ad a 6) λh=>lI (ad a 7) λf=>dw cs7 (xS λe=>kp (ad a 7) [.i f] (kp (ad a 6) [.b h] (kp (ad a 5) [.b p] (kp (ad a 4) [.b C] (kp (ad a 3) [.i Q] (kp (ad a 2) [.i n8] (cw (((c.size+e.size:Nat):Int)<=9223372036854775807) (bN 8 n8 (xS λg=>kp (ad a 7) [.i f] (kp (ad a 6) [.b h] (kp (ad a 5) [.b p] (kp (ad a 4) [.b C] (kp (ad a 3) [.i Q] (cw ((((c++e).size+g.size:Nat):Int)<=9223372036854775807) (bN 8 Q (xS λj=>kp (ad a 7) [.i f] (kp (ad a 6) [.b h] (kp (ad a 5) [.b p] (kp (ad a 4) [.b C] (cw (((((c++e)++g).size+j.size:Nat):Int)<=9223372036854775807) (oL C (xS λq=>kp (ad a 7) [.i f] (kp (ad a 6) [.b h] (kp (ad a 5) [.b p] (cw ((((((c++e)++g)++j).size+q.size:Nat):Int)<=9223372036854775807) (oL p (xS λD=>kp (ad a 7) [.i f] (kp (ad a 6) [.b h] (cw (((((((c++e)++g)++j)++q).size+D.size:Nat):Int)<=9223372036854775807) (oL h (xS λR=>kp (ad a 7) [.i f] (cw ((((((((c++e)++g)++j)++q)++D).size+R.size:Nat):Int)<=9223372036854775807) (bN 1 f (xS λs17=>cw (((((((((c++e)++g)++j)++q)++D)++R).size+s17.size:Nat):Int)<=9223372036854775807) (K (.s (((((((c++e)++g)++j)++q)++D)++R)++s17)))))))))))))))))))))))))))))))))))))))) (lL (ad d 4) λPE Lm Rc=>bN 1 (Lm:Int) (xS λs18=>cw (((c.size+s18.size:Nat):Int)<=9223372036854775807) (lL (ad d 4) λKT Im Ls=>(lp [.s .empty,.s (c++s18),.l KT Im Ls,.i (Im:Int),.i 0] λI3 SJ=>∀S r E F T G t V,I3 [.s S,.s r,.l E F T,.i G,.i t] V->(br (decide (t<G)) (iW E F t 2 λa3=>aJ a3 2 λcs8=>mk [.u 0,.u 0] λr5=>bK 2 (ad r5 0) cs8 (aJ (ad r5 0) 2 λcs9=>dw cs9 (xS λs21=>cw (((r.size+s21.size:Nat):Int)<=9223372036854775807) ((ct I3 SJ [.s S,.s (r++s21),.l E F T,.i G,.i (aa.wrap (t+1))] [.s S,.s r,.l E F T,.i G,.i t] V))))) (K (.s r))) V))))))))
def iS.j1(K:VK)(a:OA)(c:Bool):WK:=br c (cw (1=1/\(1=1/\True)) (lM [.i 3,.l none 0 0,.l none 0 0,.i 5,.l none 0 0,.u 0,.u 0,.i 0,.i 0,.b false,.b false,.b false,.i 0] (xS λd=>fA a d (xS λe=>br (nG e (⟨#[0,0,0,0]⟩:BA)) (dG a (xP λf=>hO f (xI .i64 λg=>K (.b (g==5))))) (K (.b false)))))) (K (.b false))
def iS(K:VK):WK:=jO 600 (x2 λb c=>(xP λa=>(xI .i64 λd=>br (d==0) (fA a (⟨#[]⟩:BA) (xS λe=>fL 4 (xS λf=>iS.j1 K a (nG e f)))) (iS.j1 K a false)) c) b)
def pI(o:OA)(g p:Nat)(K:VK):WK:=(lp [.b false,.i 0,.l o g p,.i (g:Int),.i 0] λm q=>∀h c d e j f a k,m [.b h,.i c,.l d e j,.i f,.i a] k->(br (decide (a<f)) (iW d e a 6 λr=>aJ r 6 λs=>mk Nz λn=>bK 6 (ad n 0) s (lS (ad n 1) λt=>(ct m q [.b h,.i (aa.wrap (c+(t.size:Int))),.l d e j,.i f,.i (aa.wrap (a+1))] [.b h,.i c,.l d e j,.i f,.i a] k))) (br (decide ((g:Int)>60)) (K (.b true)) (K (.b (decide (c>16384)))))) k)
def pG(K:VK):WK:=jO 600 (x2 λb c=>(xP λd=>(xI .i64 λf=>cw True (mk Tf λa=>cw (1=1/\(1=1/\(1=1/\True))) (mk [.p d,.p (some (ad a 0)),.p (some (ad a 0))] λe=>K (.p (some (ad e 0)))))) c) b)
def nB(c d:OA)(K:VK):WK:=nn c λe=>lP e λf=>dG f (xP λa=>fK a (xL λg h i=>hG a (xL λj k l=>hO a (xI .i64 λm=>gZ a (xI .i64 λn=>jb d g h i j k l m n (xB λo=>K (.b o)))))))
def gr(a:OA)(K:VK):WK:=br (!(a.isNone)) (nn a λc=>lP (c.add 1) λd=>qL d (xB λe=>K (.b e))) (K (.b false))
def jM(a:OA)(K:VK):WK:=br (a.isNone) (K (.i 2)) (nn a λb=>lP (b.add 1) λc=>iC c (xI .i64 λd=>K (.i d)))
def iJ(a:OA)(c d e:Int)(K:VK):WK:=br (a.isNone) (K (.i 2)) (nn a λf=>lP f λg=>ni g c d e (x0 (nn a λh=>lP h λj=>kX j (x2 λk l=>(xP λm=>(xI .i64 λb=>br (b==0) (nn a λn=>st (n.add 1) (.p m) (K (.i b))) (K (.i b))) l) k))))
def nO(a:OA)(b:Int)(K:VK):WK:=br (!(a.isNone)) (nn a λc=>lP c λd=>oS d b (x0 (K (.tuple ⟨[]⟩)))) (K (.tuple ⟨[]⟩))
def lK(a:OA)(h:LV)(K:VK):WK:=mk h λb=>aJ (ad b 0) 13 λi=>jt i (xB λj=>br j (aJ (ad b 0) 13 λk=>gT k (xB λm=>br (!m) (gF 1 none 0 0 none 0 0 none 0 0 (xS λn=>K (.tuple ⟨[.s n,.p a]⟩))) (aJ (ad b 0) 13 λo=>jj a o (x3 λq r t=>(xL λu v w=>(xI .i64 λx=>(xP λy=>gF x u v w none 0 0 none 0 0 (xS λz=>K (.tuple ⟨[.s z,.p y]⟩))) t) r) q)))) (tick (nn a λc=>lL (c.add 1) λd e f=>aJ (ad b 0) 13 λg=>ic a (xL λA B C=>kp (ad b 0) g (kp (c.add 1) [.l d e f] (og A B C d e f g (x3 λD E F=>(xL λG H I=>(xL λJ M O=>(xI .i64 λP=>gF P none 0 0 G H I J M O (xS λQ=>K (.tuple ⟨[.s Q,.p a]⟩))) F) E) D)))))))
def pH(c:OA)(d:BA)(K:VK):WK:=jn d (x2 λe f=>(xA 13 λg=>(xI .i64 λh=>mk ke λa=>bK 13 (ad a 0) g (br (h !=0) (fL 4 (xS λi=>K (.tuple ⟨[.s i,.p c,.b false]⟩))) (aJ (ad a 0) 13 λj=>lK c j (x2 λk l=>(xS λm=>(xP λn=>aJ (ad a 0) 13 λo=>jt o (xB λq=>K (.tuple ⟨[.s m,.p n,.b q]⟩))) l) k)))) f) e)
def aP.j2(K:VK)(a:OA)(c:Bool):WK:=nn a λd=>lP d λe=>gr e (xB λf=>K (.b (f==c)))
def aP.j1(K:VK)(a c:OA)(b:Bool):WK:=nn a λd=>st (d.add 1) (.p c) (br (!b) (nn a λe=>st (e.add 2) (.p c) (aP.j2 K a b)) (aP.j2 K a b))
def aP.j4(K:VK)(a c:OA)(d e:BA)(f g:Bool):WK:=br g (nn a λh=>st (h.add 2) (.p c) (nn a λi=>lP i λj=>gr j (xB λk=>K (.b k)))) (br (!(nG d e)) (K (.b false)) (aP.j1 K a c f))
def aP.j3(K:VK)(a:BA)(g:Bool)(c d:OA)(e:BA)(f h:Bool):WK:=br h (fL 9 (xS λi=>K (.b (nG a i)))) (br g (fL 8 (xS λj=>aP.j4 K c d a e f (nG a j))) (aP.j4 K c d a e f false))
def aP.j6(K:VK)(a:Int)(c:OA)(d:Bool):WK:=br d (K (.b true)) (br (a==8) (nn c λe=>lP e λf=>gr f (xB λg=>K (.b g))) (K (.b false)))
def aP.j5(K:VK)(d:Bool)(a:Int)(c:OA)(e:Bool):WK:=br e (K (.b true)) (br (!d) (br (a==0) (nn c λf=>lP f λg=>gr g (xB λh=>aP.j6 K a c (!h))) (aP.j6 K a c false)) (K (.b false)))
def aP.j7(K:VK)(a:OA):WK:=nn a λc=>lP (c.add 1) λd=>nn a λe=>st (e.add 2) (.p d) (K (.b true))
def aP(a:OA)(l:LV)(K:VK):WK:=mk l λc=>lI (ad c 0) λd=>br (d==0) (tick (nn a λm=>lP (m.add 1) λn=>lS (ad c 1) λo=>pH n o (x3 λq r s=>(xS λi=>(xP λj=>(xB λe=>nn a λt=>lP t λu=>gr u (xB λf=>tick (nn a λv=>lP v λw=>lS (ad c 1) λx=>fA w x (xS λk=>br e (aP.j3 K k e a j i f f) (aP.j3 K k e a j i f false))))) s) r) q))) (br (d==1) (nn a λy=>lP y λz=>gr z (xB λg=>nn a λA=>lP A λB=>jM B (xI .i64 λh=>br g (aP.j5 K g h a (h==9)) (aP.j5 K g h a false)))) (br (d==2) (tick (nn a λC=>lP C λD=>lU (ad c 2) λE=>lI (ad c 3) λF=>lI (ad c 4) λG=>iJ D E F G (xI .i64 λH=>br (H !=0) (K (.b false)) (nn a λI=>lP (I.add 2) λJ=>nB a J (xB λM=>br M (nn a λO=>lP (O.add 2) λP=>nn a λQ=>st (Q.add 1) (.p P) (aP.j7 K a)) (aP.j7 K a)))))) (br (d==3) (tick (nn a λR=>lP R λS=>lI (ad c 5) λT=>nO S T (x0 (K (.b true))))) (K (.b true)))))
def kF(a:OA)(K:VK):WK:=br (a.isNone) (K (.i 0)) (nn a λb=>lP (b.add 1) λc=>rF c (xI .i64 λd=>K (.i d)))
def k8(a:OA)(K:VK):WK:=br (a.isNone) (K (.p none)) (nn a λb=>lP b λc=>K (.p c))
end Go.Prog
namespace Go.Up
open Go.Sep Go.Den Go.RowKit Go.Prog Go.Md Go.cG
def okR(r:Int):Bool:=decide (0<=r/\r<=255)
def Lw(e:Int)(res:List Int)(al:List bP)(tl:List cH):oQ e res al tl=(res.all okR&&(al.all (λa=>decide (nr a))&&(tl.all (λt=>decide (kH t))&&(decide (0<=e/\e<=255)&&decide (res.length<=16/\al.length<=16/\tl.length<=16))))):=by
 unfold oQ okR;simp only[Bool.and_assoc]
instance{e:Int}{rb ab tb:OA}{rn rc an ac tn tc:Nat}:Wr (qg e rb rn rc ab an ac tb tn tc) 0 [.i 3,.l none 0 0,.l none 0 0,.l none 0 0] (qg 3 none 0 0 none 0 0 none 0 0):=⟨rfl,aI _,FV⟩
section
variable {W:World} {L R:LH} {K:VK} {X:WK} {e:Int} {res:List Int} {al:List bP} {tl:List cH} {rb ab tb:OA} {rc ac tc:Nat}
def JH{l:List Int}{s:OA}{i:Nat}{x:Int}{a:Addr}[hh:Has R L](hr:mE W R I1 1 s l)(hs:s=some a)(hx:l[i]?=some x)(h:T W L (K (.i x))):T W L (ld (a.add (i* 1)) K):=λw hw=>by
 obtain⟨a',ha,hh⟩:=hr w (hh.sub hw) i x hx;rw[hs] at ha;cases ha
 exact IU (hh 0 _ rfl) (h w hw)
def Pk[hh:Has R L](h1:mE W R I1 1 rb res)(h2:mE W R aO 14 ab al)(h3:mE W R aN 16 tb tl)(l1:res.length<1000000)(l2:al.length<1000000)(l3:tl.length<1000000)(h:T W L (K (.b (oQ e res al tl)))):
 T W L (pX (qg e rb res.length rc ab al.length ac tb tl.length tc) K):=by
 unfold pX;rw[Lw] at h;apply ws;intros;rename_i r1;intro w jS;refine⟨λvv w=>∃i:Nat,i<=res.length/\(res.take i).all okR=true/\vv=[.p (some (ad r1 0)),.b false,.l rb res.length rc,.i (res.length:Int),.i (i:Int)]/\St W w (Sep.pt r1 (qg e rb res.length rc ab al.length ac tb tl.length tc)::L),
  mq 4 res.length,⟨0,aF _,rfl,rfl,jS⟩,?_⟩
 rintro a1 b1 ov mo qf n1 n2 w2 ⟨i,hi,fI,e1,ib⟩;cases e1
 refine T.at ?_ ib;have e5:=nI i;apply ga<;>intro g1
 ·have cn:i<res.length:=by omega
  have gx:=aj cn;generalize res[i]=x at gx;refine iq h1 ⟨by omega,by omega⟩ rfl λa ha=>?_;rw[ak];apply JH h1 ha gx;apply kd;have bad: ¬(0<=x/\x<=255)->T W (Sep.pt r1 (qg e rb res.length rc ab al.length ac tb tl.length tc)::L) (K (.b false)):=λhx=>by
   rw[all_false (P:=okR) gx (ao hx),fQ] at h;exact T.dp h
  refine ga (λg2=>bad (by omega)) (λg2=>?_);refine ga (λg3=>bad (by omega)) (λg3=>?_);rw[e5];exact λw3 h3=>⟨⟨i+1,cn,by rw[rD gx fI];exact aw (by omega),rfl,h3⟩,dn (by omega)⟩
 have iZ:i=res.length:=by omega
 subst iZ;rw[aV] at fI;rw[fI,dQ] at h;apply ws;intro w jS;refine⟨λvv w=>∃i:Nat,i<=al.length/\(al.take i).all (λa=>decide (nr a))=true/\vv=[.p (some (ad r1 0)),.b false,.l ab al.length ac,.i (al.length:Int),.i (i:Int)]/\St W w (Sep.pt r1 (qg e rb res.length rc ab al.length ac tb tl.length tc)::L),
  mq 4 al.length,⟨0,aF _,rfl,rfl,jS⟩,?_⟩
 rintro a1 b1 ov mo qf n1 n2 w2 ⟨i,hi,fI,e1,ib⟩;cases e1
 refine T.at ?_ ib;have e5:=nI i;apply ga<;>intro g1
 ·have cn:i<al.length:=by omega
  have gx:=aj cn;generalize al[i]=x at gx;refine iq h2 ⟨by omega,by omega⟩ rfl λa ha=>?_;rw[ak];apply kY h2 ha gx rfl
  repeat' first|apply ws;intros|apply wb|refine Kw ?_
  rw[e5];by_cases hg:nr x
  ·rw[aw hg];apply ws;refine T.drop λw3 h3=>⟨⟨i+1,cn,by rw[rD gx fI];exact aw hg,rfl,h3⟩,dn (by omega)⟩
  ·rw[ao hg];apply ws;rw[all_false (P:=λa=>decide (nr a)) gx (ao hg),fQ] at h;exact T.dp h
 have iZ:i=al.length:=by omega
 subst iZ;rw[aV] at fI;rw[fI,dQ] at h;apply ws;intro w jS;refine⟨λvv w=>∃i:Nat,i<=tl.length/\(tl.take i).all (λa=>decide (kH a))=true/\vv=[.p (some (ad r1 0)),.b false,.l tb tl.length tc,.i (tl.length:Int),.i (i:Int)]/\St W w (Sep.pt r1 (qg e rb res.length rc ab al.length ac tb tl.length tc)::L),
  mq 4 tl.length,⟨0,aF _,rfl,rfl,jS⟩,?_⟩
 rintro a1 b1 ov mo qf n1 n2 w2 ⟨i,hi,fI,e1,ib⟩;cases e1
 refine T.at ?_ ib;have e5:=nI i;apply ga<;>intro g1
 ·have cn:i<tl.length:=by omega
  have gx:=aj cn;generalize tl[i]=x at gx;refine iq h3 ⟨by omega,by omega⟩ rfl λa ha=>?_;rw[ak];apply kY h3 ha gx rfl
  repeat' first|apply ws;intros|apply wb|refine JJ ?_
  rw[e5];by_cases hg:kH x
  ·rw[aw hg];apply ws;refine T.drop λw3 h3=>⟨⟨i+1,cn,by rw[rD gx fI];exact aw hg,rfl,h3⟩,dn (by omega)⟩
  ·rw[ao hg];apply ws;rw[all_false (P:=λa=>decide (kH a)) gx (ao hg),fQ] at h;exact T.dp h
 have iZ:i=tl.length:=by omega
 subst iZ;rw[aV] at fI;rw[fI,dQ] at h;apply ws;have j1:∀b:Bool,b=decide (0<=e/\e<=255)->T W (Sep.pt r1 (qg e rb res.length rc ab al.length ac tb tl.length tc)::L) (pX.j1 K (ad r1 0) b):=λb hb=>by
  unfold pX.j1;rw[<-hb] at h;cases b with
  |false=>rw[fQ] at h;apply ws;exact T.dp h
  |true=>
   rw[dQ] at h;apply ws;apply T.fin (T.dp h)
   congr 1
   rw[decide_eq_decide];unfold max2;split<;>split<;>omega
 apply ga<;>intro g2
 ·apply ws;exact j1 _ (by rw[decide_eq_decide];omega)
 ·exact j1 _ (ao (by omega)).symm
def Ph[hh:Has R L]{r1:Nat}(h1:mE W R I1 1 rb res)(h2:mE W R aO 14 ab al)(h3:mE W R aN 16 tb tl)(hf:oQ e res al tl=true)(h:T W L (K (.s (bs (zo e res al tl))))):
 T W (Sep.pt r1 (qg e rb res.length rc ab al.length ac tb tl.length tc)::L) (kW.j1 K r1):=by
 obtain⟨f1,f2,f3,f4,f5,f6,f7⟩:=vy hf;unfold kW.j1;apply ws;intros;rename_i r2;apply NO
 repeat' first|apply ws|apply wb|refine sT (by simp[aQ]) ?_
 intro w jS;refine⟨λvv w=>∃i:Nat,i<=res.length/\vv=[.p (some (ad r1 0)),.s .empty,.p (some (ad r2 0)),.l rb res.length rc,.i (res.length:Int),.i (i:Int)]/\St W w (buf r2 (le .i64 1 e++le .i64 1 (res.length:Int)++(res.take i).flatMap λr=>le .i64 1 r)::Sep.pt r1 (qg e rb res.length rc ab al.length ac tb tl.length tc)::L),
  mq 5 res.length,⟨0,aF _,rfl,by simpa using jS⟩,?_⟩
 rintro a1 s1 a2 o9 nJ pa n2 n3 w2 ⟨i,hi,e1,ib⟩;cases e1
 refine T.at ?_ ib;have e5:=nI i;have hlen:(le .i64 1 e++le .i64 1 (res.length:Int)++(res.take i).flatMap λr=>le .i64 1 r).length<=18:=by
  rw[av,av,dM (e:=1) (λr=>aQ _ _ _),aD,aQ,aQ];omega
 apply ga<;>intro g1
 ·have cn:i<res.length:=by omega
  have gx:=aj cn;generalize res[i]=x at gx;refine iq h1 ⟨by omega,by omega⟩ rfl λa ha=>?_;rw[ak];apply JH h1 ha gx;apply kd;refine sT (by omega) (BF ?_);rw[e5];refine λw3 h3=>⟨⟨i+1,cn,rfl,?_⟩,dn (by omega)⟩;rw[bg,gx,gj];simpa [aH] using h3
 have iZ:i=res.length:=by omega
 subst iZ;rw[aV] at hlen⊢;have k2:(al.flatMap jl).length=al.length* 96:=dM nR al;apply ws;apply acB (R:=R) h2 f2 (by omega) (by omega);apply ws;refine acz (R:=R) h3 f3 (by omega) (by rw[av,av,k2,aQ];omega) ?_
 repeat' first|apply ws|apply wb|refine tL ?_
 unfold zo at h;simp only[aH];exact T.dp h
def K3[hh:Has R L](h1:mE W R I1 1 rb res)(h2:mE W R aO 14 ab al)(h3:mE W R aN 16 tb tl)(l1:res.length<1000000)(l2:al.length<1000000)(l3:tl.length<1000000)(h:T W L (K (.s (bs (pM e res al tl))))):
 T W L (kW (qg e rb res.length rc ab al.length ac tb tl.length tc) K):=by
 unfold kW
 repeat' first|apply ws;intros|apply wb|refine Pk h1 h2 h3 l1 l2 l3 ?_
 rename_i r1;unfold pM at h;cases hf:oQ e res al tl with
 |true=>
  rw[ai hf] at h;apply ws;exact Ph h1 h2 h3 hf h
 |false=>
  rw[ag (by rw[hf];decide)] at h;apply ws;exact Ph (R:=L) (rb:=none) (ab:=none) (tb:=none) (res:=[]) (al:=[]) (tl:=[]) mE.nil mE.nil mE.nil (by decide) h
def NG(h:T W L (K (.s (bs (pM e [] [] []))))):T W L (kW [.i e,.l none 0 0,.l none 0 0,.l none 0 0] K):=
 K3 (R:=L) (rb:=none) (ab:=none) (tb:=none) (rc:=0) (ac:=0) (tc:=0) (res:=[]) (al:=[]) (tl:=[]) mE.nil mE.nil mE.nil (by decide) (by decide) (by decide) h
end
structure Rm(n g:Nat)(S:VS):Prop where
 calm:Sep.Calm n S.D
 ends:∀j:Nat,j<n->Sep.Ends g (S.D.read (j:Int)).1
 lo:S.J.lo=((2+2* dm n:Nat):Int)
 hi:S.J.hi=(n:Int)
 Ey:S.J.lo<=S.J.at'
 QQ:S.J.at'<=S.J.hi
 seq:0<=S.J.seq/\S.J.seq<=1000000
 js:S.J.dK=false
 dK:S.dK=false
 bu:0<=S.bu/\S.bu<=g
def Rm.ok{n g:Nat}{S:VS}(h:Rm n g S)(hn:n<=4096)(hg:g<=1000):HZ S:=by
 have h1:=h.calm.later;have h2:=h.lo;have h3:=h.Ey;have h4:=h.QQ;have h5:=h.seq;have h6:=h.bu;have h7:=h.hi;exact⟨h.calm.ok,by omega,⟨by omega,h3,h4,by rw[h.calm.len];omega,by omega⟩,by omega⟩
def Ma{n a t g:Nat}{D:aY}{number:Int}{s:BA}(hc:Sep.Calm n D)(he:∀j:Nat,j<n->Sep.Ends g (D.read (j:Int)).1)(cS:n<=4096)(h1:1<=number)(h2:number<=g+1)(hg:g+1<256)(hl:a+gH s.size<=t)(htn:t<=n):
 (eY D (a:Nat) (t:Nat) number s).2=0/\Sep.Calm n (eY D (a:Nat) (t:Nat) number s).1/\∀j:Nat,j<n->Sep.Ends (g+1) ((eY D (a:Nat) (t:Nat) number s).1.read (j:Int)).1:=by
 obtain⟨f1,f2,f3,f4⟩:=P' (a:=a) (t:=t) (number:=number) (s:=s) hc cS ⟨h1,by omega⟩ hl htn;refine⟨f1,f2,λj hj=>?_⟩;by_cases xt:a<=j/\j<a+gH s.size
 ·obtain⟨q,rfl⟩:∃q,j=a+q:=⟨j-a,by omega⟩;have:=f3 q (by omega);rw[show((a+q:Nat):Int)=(a:Int)+q from by omega,this];obtain⟨m,rfl⟩:=bh (show 0<=number by omega);have A8:Sep.eB m (q:Int) (Sep.part s q):=⟨h1,by omega,by omega,by omega,by
   unfold Sep.part;rw[ByteArray.size_extract];omega⟩
  exact(Df A8).mono (by omega)
 ·rw[f4 j hj (by omega)];exact(he j hj).mono (by omega)
def AR{n g:Nat}{m:aA}{S:VS}(h:Rm n g S)(cS:n<=4096)(nu:12<=n)(hg:g+2<256)(A9:gH (cT (bo m)).length<=dm n)(hlen:(cT (bo m)).length<=425984):
 (fh n m S).2=0/\Rm n (g+2) (fh n m S).1/\(fh n m S).1.J.at'=S.J.lo/\(fh n m S).1.J.lo=S.J.lo/\(fh n m S).1.J.seq=S.J.seq/\(fh n m S).1.bu=S.bu+1:=by
 have oB:=Am (by omega) n h.ends;have hgi:=(yt S.D n).1;have xt:=pZ nu (S.bu+1);have ht:=h.bu;have Et:=h.seq;obtain⟨p1,p2,p3⟩:=Ma (a:=fj n (S.bu+1)) (t:=fj n (S.bu+1)+dm n) (g:=g) (number:=fk S.D n+1) (s:=bs (cT (bo m))) h.calm h.ends cS (by omega) (by omega) (by omega) (by rw[bV];omega) xt.2.1;have Mo:=wQ (S.bu+1);obtain⟨lw,hlw⟩:∃lw:Nat,low (S.bu+1)=(lw:Int)/\lw<2:=by
  rcases Mo with hh|hh
  ·exact⟨0,hh,by decide⟩
  ·exact⟨1,hh,by decide⟩
 have hH:oo ⟨S.bu+1,fk S.D n+1,((cT (bo m)).length:Int),S.J.seq⟩:=by
  unfold oo;dsimp only;omega
 have hhl:(ku ⟨S.bu+1,fk S.D n+1,((cT (bo m)).length:Int),S.J.seq⟩).length=32:=by simp only[ku,av,aQ]
 have AJ:=h.calm.len;have cp:∀D1:aY,Sep.Calm n D1->(∀j:Nat,j<n->Sep.Ends (g+1) (D1.read (j:Int)).1)->(uL D1 (fk S.D n+2) ⟨S.bu+1,fk S.D n+1,((cT (bo m)).length:Int),S.J.seq⟩).2=0/\Sep.Calm n (uL D1 (fk S.D n+2) ⟨S.bu+1,fk S.D n+1,((cT (bo m)).length:Int),S.J.seq⟩).1/\
  ∀j:Nat,j<n->Sep.Ends (g+2) ((uL D1 (fk S.D n+2) ⟨S.bu+1,fk S.D n+1,((cT (bo m)).length:Int),S.J.seq⟩).1.read (j:Int)).1:=by
  intro D1 c1 e1;have:=Ma (a:=lw) (t:=lw+1) (g:=g+1) (number:=fk S.D n+2) (s:=bs (ku ⟨S.bu+1,fk S.D n+1,((cT (bo m)).length:Int),S.J.seq⟩)) c1 e1 cS (by omega) (by omega) (by omega) (by rw[bV,hhl];show lw+1<=lw+1;omega) (by omega);have e:uL D1 (fk S.D n+2) ⟨S.bu+1,fk S.D n+1,((cT (bo m)).length:Int),S.J.seq⟩=eY D1 ((lw:Nat):Int) ((lw+1:Nat):Int) (fk S.D n+2) (bs (ku ⟨S.bu+1,fk S.D n+1,((cT (bo m)).length:Int),S.J.seq⟩)):=by
   unfold uL eY;rw[ai hH];dsimp only;rw[hlw.1]
   rfl
  rw[e];exact this
 unfold fh;rw[AJ,ag (by rw[h.dK];decide),ag (λhh=>hh A9),ag (by rw[A0];exact λhh=>hh p1)];obtain⟨c1,c2,c3⟩:=cp (put S.D n (S.bu+1) (fk S.D n+1) (bs (cT (bo m)))).1 p2 p3;rw[ag (λhh=>hh c1)];refine⟨rfl,⟨c2,c3,h.lo,h.hi,eE _,?_,h.seq,h.js,h.dK,?_⟩,rfl,rfl,rfl,rfl⟩
 ·have:=h.Ey;have:=h.QQ;show S.J.lo<=S.J.hi;omega
 ·show 0<=S.bu+1/\S.bu+1<=((g+2:Nat):Int);omega
def Rm.yl{n g:Nat}{S:VS}(h:Rm n g S):S.J.Ok S.D:=by
 have h2:=h.lo;have h5:=h.seq;have h7:=h.hi;exact⟨by omega,h.Ey,h.QQ,by rw[h.calm.len];omega,by omega⟩
def Fp{n g:Nat}{S:VS}{s:BA}(h:Rm n g S)(cS:n<=4096)(hg:g+1<256)(Et:S.J.seq<1000000)(hr:room S.J s.size):
 (ph S s).2=0/\Rm n (g+1) (ph S s).1/\(ph S s).1.J.at'=S.J.at'+(gH (12+s.size):Int)/\(ph S s).1.J.lo=S.J.lo/\(ph S s).1.J.seq=S.J.seq+1/\(ph S s).1.bu=S.bu:=by
 have oB:=Am (by omega) n h.ends;have hgi:=(yt S.D n).1;have Aj:=h.lo;have Ak:=h.Ey;obtain⟨D',e1,e2,e3,e4,e5,e6,e7⟩:=VU (n:=n) (number:=fk S.D n+1) (s:=s) h.calm cS h.yl h.js (by omega) (by omega) hr;unfold ph;rw[h.calm.len,e1];have sf:∀j:Nat,j<n->Sep.Ends (g+1) (D'.read (j:Int)).1:=λj hj=>by
  by_cases xt:S.J.at'<=j/\(j:Int)<S.J.at'+(gH (12+s.size):Int)
  ·obtain⟨q,hq⟩:=bh (show 0<=(j:Int) -S.J.at' by omega);have:=e5 q (by omega);rw[show(j:Int)=S.J.at'+(q:Int) from by omega,this];obtain⟨m,hm⟩:=bh (show 0<=fk S.D n+1 by omega);rw[hm];have A8:Sep.eB m (q:Int) (Sep.part (bs (dv (S.J.seq+1) s)) q):=⟨by omega,by omega,by omega,by omega,by
    unfold Sep.part;rw[ByteArray.size_extract];omega⟩
   exact(Df A8).mono (by omega)
  ·rw[e6 j (by omega) (by omega) (by omega)];exact(h.ends j hj).mono (by omega)
 have Yb:=h.dK;have htu:=h.bu;have ais:=h.seq;refine⟨rfl,⟨e2,sf,h.lo,h.hi,e4.Ey,e4.QQ,⟨?_,?_⟩,h.js,?_,?_⟩,rfl,rfl,rfl,rfl⟩
 ·show 0<=S.J.seq+1;omega
 ·show S.J.seq+1<=1000000;omega
 ·show(S.dK||_)=false;rw[Yb];rfl
 ·show 0<=S.bu/\S.bu<=((g+1:Nat):Int);omega
def zU{n g:Nat}{m:aA}{S:VS}{s:BA}(h:Rm n g S)(cS:n<=4096)(nu:12<=n)(hg:g+3<256)(A9:gH (cT (bo m)).length<=dm n)(hlen:(cT (bo m)).length<=425984)(Et:S.J.seq<1000000)(hs:s.size<=32768)(hj:(gH (12+s.size):Int)<=S.J.hi-S.J.lo):
 (iH n m S s).2=0/\(iH n m S s).1.J.lo=S.J.lo/\(iH n m S s).1.J.seq=S.J.seq+1/\
  ((Rm n (g+1) (iH n m S s).1/\(iH n m S s).1.J.at'=S.J.at'+(gH (12+s.size):Int))\/
   (Rm n (g+3) (iH n m S s).1/\(iH n m S s).1.J.at'=S.J.lo+(gH (12+s.size):Int)/\S.J.hi<S.J.at'+(gH (12+s.size):Int))):=by
 unfold iH;by_cases hr:room S.J s.size
 ·rw[ai hr];obtain⟨a1,a2,a3,a4,a5,a6⟩:=Fp h cS (by omega) Et hr;exact⟨a1,a4,a5,.inl ⟨a2,a3⟩⟩
 ·rw[ag hr];obtain⟨b1,b2,b3,b4,b5,b6⟩:=AR h cS nu (by omega) A9 hlen;have y3:(fh n m S).1.J.hi=S.J.hi:=by rw[b2.hi,h.hi]
  have Nk:room (fh n m S).1.J s.size:=by
   refine⟨by omega,by omega,?_⟩;rw[ak,y3,b3];exact hj
  obtain⟨a1,a2,a3,a4,a5,a6⟩:=Fp b2 cS (by omega) (by omega) Nk;rw[ag (λhh=>hh b1)];refine⟨a1,by rw[a4,b4],by rw[a5,b5],.inr ⟨a2,by rw[a3,b3],?_⟩⟩;unfold room at hr;rw[ak] at hr;omega
def u4{q:j0}(hw:jy q=true)(he:fo q=true):(dH q).length<=924:=by
 have WG:q.op=1\/q.op=2\/q.op=3:=aR he;have hf:=nT hw;unfold dH;rw[av,aQ];split
 ·rw[av,aQ,dM nR];omega
 ·split
  ·rw[av,aQ,dM oW];omega
  ·split
   ·rw[aQ];omega
   ·omega
def RI(n k:Nat)(S:VS):Prop:=∃g s:Nat,Rm n g S/\g<=k+2* s/\111* (s:Int)+(S.J.at'-S.J.lo)<=9* (k:Int)/\S.J.seq<=(k:Int)
def Rm.mono{n g g':Nat}{S:VS}(h:Rm n g S)(hg:g<=g'):Rm n g' S:=
 ⟨h.calm,λj hj=>(h.ends j hj).mono hg,h.lo,h.hi,h.Ey,h.QQ,h.seq,h.js,h.dK,⟨h.bu.1,by have:=h.bu.2;omega⟩⟩
def RI.mono{n k k':Nat}{S:VS}(h:RI n k S)(hk:k<=k'):RI n k' S:=by
 obtain⟨g,s,h1,h2,h3,h4⟩:=h;exact⟨g,s,h1,by omega,by omega,by omega⟩
def Cs{k:Nat}(h:k<=936):gH k<=9:=by unfold gH;split<;>omega
def sh{n k:Nat}(hn:600<=n)(h:k<=23925):gH k<=dm n:=by unfold gH dm;split<;>omega
def pk{b:ba}(hg:eB b):(cT b).length<=23925:=by
 have:=hg.oJ;have:=hg.many;rw[xV hg];omega
def Pm{n k:Nat}{m:aA}{S:VS}{q:j0}(h:RI n k S)(hn:600<=n/\n<=4096)(hk:k<180)(hg:eB (bo m))(hw:jy q=true)(he:fo q=true):
 (iH n m S (bs (dH q))).2=0/\RI n (k+1) (iH n m S (bs (dH q))).1:=by
 obtain⟨g,s,h1,h2,h3,h4⟩:=h;have tr:=pk hg;have hrl:=u4 hw he;have hc:=Cs (k:=12+(bs (dH q)).size) (by rw[bV];omega);have Ak:=h1.Ey;have Aj:=h1.lo;have y3:=h1.hi;have A5:120<=S.J.hi-S.J.lo:=by rw[Aj,y3];unfold dm;omega
 obtain⟨a1,a2,a3,a4⟩:=zU (s:=bs (dH q)) h1 hn.2 (by omega) (by omega) (sh hn.1 tr) (by omega) (by omega) (by rw[bV];omega) (by omega);refine⟨a1,?_⟩;rcases a4 with⟨b1,b2⟩|⟨b1,b2,b3⟩
 ·exact⟨g+1,s,b1,by omega,by rw[b2,a2];omega,by rw[a3];omega⟩
 ·exact⟨g+3,s+1,b1,by omega,by rw[b2,a2];omega,by rw[a3];omega⟩
def Ts{n k:Nat}{m:aA}{S:VS}{q:j0}(h:RI n k S)(hn:600<=n/\n<=4096)(hk:k<180)(hg:eB (bo m))(he:fo q=true):
 RI n (k+1) (wZ n m S q).1/\(jy q=false->(wZ n m S q).2=(m,1,[]))/\(jy q=true->(wZ n m S q).2=((bD m q).2.2,(bD m q).1,(bD m q).2.1)):=by
 unfold wZ;by_cases hw:jy q=false
 ·rw[ai hw];exact⟨h.mono (by omega),λ_=>rfl,λh2=>by rw[hw] at h2;cases h2⟩
 ·have hw2:jy q=true:=by simpa using hw
  obtain⟨a1,a2⟩:=Pm h hn hk hg hw2 he;obtain⟨g,s,h1,_⟩:=h;rw[ag hw,ag (by rw[h1.dK];decide),ag (λhh=>hh a1)];generalize iH n m S (bs (dH q))=A at a2⊢;generalize bD m q=B;refine⟨?_,λh2=>aT h2 hw,λ_=>rfl⟩;dsimp only;exact a2
def Tn{n k:Nat}{m:aA}{S:VS}(h:RI n k S)(hn:600<=n/\n<=4096)(hk:k<=180)(hg:eB (bo m)):(fh n m S).2=0/\∃g:Nat,g<=212/\Rm n g (fh n m S).1:=by
 obtain⟨g,s,h1,h2,h3,h4⟩:=h;have tr:=pk hg;have Ak:=h1.Ey;obtain⟨b1,b2,_⟩:=AR (m:=m) h1 hn.2 (by omega) (by omega) (sh hn.1 tr) (by omega);exact⟨b1,g+2,by omega,b2⟩
def RI.ok{n k:Nat}{S:VS}(h:RI n k S)(hn:600<=n/\n<=4096)(hk:k<=180):HZ S:=by
 obtain⟨g,s,h1,h2,h3,h4⟩:=h;have Ak:=h1.Ey;exact h1.ok hn.2 (by omega)
def RI.ZY{n k:Nat}{m:aA}{S:VS}(h:RI n k S)(hn:600<=n/\n<=4096)(hk:k<=180)(hg:eB (bo m)):HZ (fh n m S).1:=by
 obtain⟨_,g,h1,h2⟩:=Tn (m:=m) h hn hk hg;exact h2.ok hn.2 (by omega)
def O6{n:Nat}(hn:600<=n/\n<=4096){J:PJ}(h1:J.lo=((2+2* dm n:Nat):Int))(h2:J.hi=(n:Int))(h3:J.at'=J.lo)(h4:J.seq=0)(h5:J.dK=false):RI n 0 ⟨aY.new n,J,0,false⟩:=by
 have hb:2+2* dm n<=n:=by unfold dm;omega
 have hr:Rm n 0 ⟨aY.new n,J,0,false⟩:=by
  refine⟨Cz hn.2,λj hj=>?_,h1,h2,Int.le_of_eq h3.symm,?_,?_,h5,rfl,⟨eE _,eE _⟩⟩
  ·show Sep.Ends 0 ((aY.new n).read (j:Int)).1;rw[zy hn.2 hj];exact Bd
  ·show J.at'<=J.hi;rw[h3,h1,h2];omega
  ·show 0<=J.seq/\J.seq<=1000000;rw[h4];omega
 refine⟨0,0,hr,by omega,?_,?_⟩
 ·show 111* ((0:Nat):Int)+(J.at'-J.lo)<=9* ((0:Nat):Int);rw[h3];omega
 ·show J.seq<=((0:Nat):Int);rw[h4];omega
section
variable {W:World} {L R:LH} {K:VK} {X:WK} {a:bP} {t:cH} {q:j0} {s:wG}
def ID(h:T W L (K (.b (decide (nr a))))):T W L (dc (aO a) K):=by
 unfold dc dc.j1 dc.j2 dc.j3
 repeat' first|apply ws;intros|apply wb|apply dz<;>intro h1
 all_goals (apply T.fin (T.dp h);congr 1;(rw[cj];(try simp only[bz,false_iff,true_iff] at *)<;>(try simp only[nr,bp] at *)<;>omega))
def IC(h:T W L (K (.b (decide (kH t))))):T W L (cb (aN t) K):=by
 unfold cb cb.j1 cb.j2 cb.j3 cb.j4 cb.j5
 repeat' first|apply ws;intros|apply wb|apply dz<;>intro h1
 all_goals (apply T.fin (T.dp h);congr 1;(rw[cj];(try simp only[bz,false_iff,true_iff] at *)<;>(try simp only[kH,bp] at *)<;>omega))
def zu(h:T W L (K (.b (fo q)))):T W L (jt (gP q s) K):=by
 unfold jt;unfold fo at h
 repeat' first|apply ws;intros|apply wb|apply dz<;>intro h1
 ·have h1:=aR h1;apply T.fin (T.dp h);congr 1;rw[decide_eq_decide];omega
 ·have h1:=bj h1;rw[ao (by omega)] at h;exact T.dp h
def IA(h:T W L (K (.b (lJ q)))):T W L (dX (gP q s) K):=by
 unfold dX dX.j1 dX.j2;apply ws;intros;apply dz<;>intro g1
 ·have g1:q.op=1:=by simpa using g1
  unfold lJ at h;rw[ai g1] at h;apply ws;apply ga<;>intro g2
  ·rw[aw (by omega),dQ] at h;apply ws;apply T.fin (T.dp h);congr 1;rw[decide_eq_decide];omega
  ·rw[ao (by omega),fQ] at h;exact T.dp h
 have g1: ¬q.op=1:=by simpa using g1
 apply ws;apply dz<;>intro g2
 ·have g2:q.op=2:=by simpa using g2
  unfold lJ at h;rw[ag g1,ai g2] at h;apply ws;apply ga<;>intro g2
  ·rw[aw (by omega),dQ] at h;apply ws;apply T.fin (T.dp h);congr 1;rw[decide_eq_decide];omega
  ·rw[ao (by omega),fQ] at h;exact T.dp h
 have g2: ¬q.op=2:=by simpa using g2
 unfold lJ at h;rw[ag g1,ag g2] at h;apply ws;apply dz<;>intro g3
 ·have g3:q.op=3:=by simpa using g3
  rw[ai g3] at h;apply ws;apply ga<;>intro g2
  ·rw[aw (by omega),dQ] at h;apply ws;exact T.dp h
  ·rw[ao (by omega),fQ] at h;exact T.dp h
 have g3: ¬q.op=3:=by simpa using g3
 rw[ag g3] at h;exact T.dp h
def Iz(h:T W L (K (.b (o8 q)))):T W L (bn (gP q s) K):=by
 have main:∀(r1:Nat)(b1:Bool),b1=decide (q.op=4\/q.op=5)->T W (Sep.pt r1 (gP q s)::L) (bn.j1 K r1 b1):=λr1 b1 hb=>by
  unfold bn.j1 bn.j2;unfold o8 at h;by_cases YB:q.op=4\/q.op=5
  ·rw[ai YB] at h;rw[aw YB] at hb;subst hb;apply ws;apply ga<;>intro g2
   ·rw[aw (by omega),dQ] at h;apply ws;apply T.fin (T.dp h);congr 1;rw[decide_eq_decide];omega
   ·rw[ao (by omega),fQ] at h;exact T.dp h
  ·rw[ag YB] at h;rw[ao YB] at hb;subst hb;rw[eu];apply ws;intros;rename_i r2;have j6:∀b:Bool,b=decide (q.op=6/\0<=q.ky/\0<=q.yu/\1<=q.lz/\q.lz<=16)->T W (Sep.pt r2 (qv q)::Sep.pt r1 (gP q s)::L) (bn.j6 K r2 b):=λb hb=>by
    unfold bn.j6;cases b with
    |true=>
     have hc:=aR hb.symm;rw[ai hc.1,aw hc.2,dQ] at h;apply ws;cases hd:q.xy with
     |true=>
      rw[hd] at h;apply ws;exact T.dp h
     |false=>
      rw[hd,Bool.false_or] at h;apply ws;exact T.dp h
    |false=>
     have hc:=bj hb.symm;apply ws;by_cases g6:q.op=6
     ·rw[ai g6,ao (λhh=>hc ⟨g6,hh⟩),fQ] at h;exact T.dp h
     ·rw[ag g6] at h;exact T.dp h
   have j5:∀b:Bool,b=decide (q.op=6/\0<=q.ky/\0<=q.yu/\1<=q.lz)->T W (Sep.pt r2 (qv q)::Sep.pt r1 (gP q s)::L) (bn.j5 K r2 b):=λb hb=>by
    unfold bn.j5;cases b with
    |true=>
     apply ws;apply j6 _;have:=aR hb.symm;rw[decide_eq_decide];omega
    |false=>
     apply ws;apply j6 _;have:=bj hb.symm;exact(ao (by omega)).symm
   have j4:∀b:Bool,b=decide (q.op=6/\0<=q.ky/\0<=q.yu)->T W (Sep.pt r2 (qv q)::Sep.pt r1 (gP q s)::L) (bn.j4 K r2 b):=λb hb=>by
    unfold bn.j4;cases b with
    |true=>
     apply ws;apply j5 _;have:=aR hb.symm;rw[decide_eq_decide];omega
    |false=>
     apply ws;apply j5 _;have:=bj hb.symm;exact(ao (by omega)).symm
   have j3:∀b:Bool,b=decide (q.op=6/\0<=q.ky)->T W (Sep.pt r2 (qv q)::Sep.pt r1 (gP q s)::L) (bn.j3 K r2 b):=λb hb=>by
    unfold bn.j3;cases b with
    |true=>
     apply ws;apply j4 _;have:=aR hb.symm;rw[decide_eq_decide];omega
    |false=>
     apply ws;apply j4 _;have:=bj hb.symm;exact(ao (by omega)).symm
   apply dz<;>intro g6
   ·have g6:q.op=6:=by simpa using g6
    apply ws;apply j3 _;rw[decide_eq_decide];omega
   ·have g6: ¬q.op=6:=by simpa using g6
    apply j3 _;exact(ao (by omega)).symm
 unfold bn;apply ws;intros;apply dz<;>intro g1
 ·have g1':q.op=4:=by simpa using g1
  exact main _ _ (aw (.inl g1')).symm
 ·have g1': ¬q.op=4:=by simpa using g1
  apply ws;exact main _ _ (by rw[cj];simp[g1'])
def ym(q:j0):qb q=((q.aC.all λx=> !decide (q.op=1)||decide (nr x))&&(q.cA.all λx=> !decide (q.op=2)||decide (kH x))):=by
 unfold qb;by_cases h1:q.op=1
 ·rw[ai h1];have h2: ¬q.op=2:=by omega
  simp[h1]
 ·rw[ag h1];by_cases h2:q.op=2
  ·rw[ai h2];simp[h2]
  ·rw[ag h2];simp[h1,h2]
def F1[hh:Has R L](hq:pw W R q s)(DU:q.aC.length<1000000)(cn:q.cA.length<1000000){r1:Nat}{b1:Bool}(h:T W (Sep.pt r1 (gP q s)::L) (K (.b (!b1&&qb q)))):T W (Sep.pt r1 (gP q s)::L) (gT.j1 K r1 b1):=by
 unfold gT.j1;cases b1 with
 |true=>rw[lC];exact h
 |false=>
  rw[Pd,dQ] at h;rw[eu];apply ws;intro w jS;refine⟨λvv w=>∃i:Nat,i<=q.aC.length/\(q.aC.take i).all (λx=> !decide (q.op=1)||decide (nr x))=true/\vv=[.p (ah r1),.b false,.l s.sa q.aC.length s.ca,.i (q.aC.length:Int),.i (i:Int)]/\St W w (Sep.pt r1 (gP q s)::L),
   mq 4 q.aC.length,⟨0,aF _,rfl,rfl,jS⟩,?_⟩
  rintro a1 b2 ov mo qf n2 n3 w2 ⟨i,hi,fI,e,ib⟩;cases e
  refine T.at ?_ ib;have e5:=nI i;apply ga<;>intro g1
  ·have cn:i<q.aC.length:=by omega
   have gx:=aj cn;generalize q.aC[i]=x at gx;refine iq hq.aC ⟨by omega,by omega⟩ rfl λa ha=>?_;rw[ak];apply kY hq.aC ha gx rfl;apply ws;intros;rw[e5];have step:(!decide (q.op=1)||decide (nr x))=true->T W (Sep.pt r1 (gP q s)::L) (λw=>(∃j:Nat,j<=q.aC.length/\(q.aC.take j).all (λx=> !decide (q.op=1)||decide (nr x))=true/\[.p (ah r1),.b false,.l s.sa q.aC.length s.ca,.i (q.aC.length:Int),.i ((i+1:Nat):Int)]=[.p (ah r1),.b false,.l s.sa q.aC.length s.ca,.i (q.aC.length:Int),Value.int .i64 (j:Int)]/\St W w (Sep.pt r1 (gP q s)::L))/\q.aC.length-((i+1:Nat):Int).toNat<q.aC.length-(i:Int).toNat):=λhp w3 h3=>⟨⟨i+1,cn,by rw[rD gx fI];exact hp,rfl,h3⟩,by omega⟩;apply dz<;>intro g2
   ·have g2:q.op=1:=by simpa using g2
    repeat' first|apply ws|apply wb|refine ID ?_
    by_cases hg:nr x
    ·rw[aw hg];apply ws;apply T.drop;exact step (by rw[aw hg,Bool.or_true])
    ·rw[ao hg];apply ws;rw[ym,all_false (P:=λx=> !decide (q.op=1)||decide (nr x)) gx (by rw[ao hg,aw g2];rfl)] at h;rw[fQ] at h;exact T.drop h
   ·have g2: ¬q.op=1:=by simpa using g2
    apply T.drop;exact step (by rw[ao g2];rfl)
  ·have iZ:i=q.aC.length:=by omega
   subst iZ;rw[aV] at fI;have adP:=fI;apply ws;intro w jS;refine⟨λvv w=>∃i:Nat,i<=q.cA.length/\(q.cA.take i).all (λx=> !decide (q.op=2)||decide (kH x))=true/\vv=[.p (ah r1),.b false,.l s.st q.cA.length s.ct,.i (q.cA.length:Int),.i (i:Int)]/\St W w (Sep.pt r1 (gP q s)::L),
    mq 4 q.cA.length,⟨0,aF _,rfl,rfl,jS⟩,?_⟩
   rintro a1 b2 ov mo qf n2 n3 w2 ⟨i,hi,fI,e,ib⟩;cases e
   refine T.at ?_ ib;have e5:=nI i;apply ga<;>intro g1
   ·have cn:i<q.cA.length:=by omega
    have gx:=aj cn;generalize q.cA[i]=x at gx;refine iq hq.cA ⟨by omega,by omega⟩ rfl λa ha=>?_;rw[ak];apply kY hq.cA ha gx rfl;apply ws;intros;rw[e5];have step:(!decide (q.op=2)||decide (kH x))=true->T W (Sep.pt r1 (gP q s)::L) (λw=>(∃j:Nat,j<=q.cA.length/\(q.cA.take j).all (λx=> !decide (q.op=2)||decide (kH x))=true/\[.p (ah r1),.b false,.l s.st q.cA.length s.ct,.i (q.cA.length:Int),.i ((i+1:Nat):Int)]=[.p (ah r1),.b false,.l s.st q.cA.length s.ct,.i (q.cA.length:Int),Value.int .i64 (j:Int)]/\St W w (Sep.pt r1 (gP q s)::L))/\q.cA.length-((i+1:Nat):Int).toNat<q.cA.length-(i:Int).toNat):=λhp w3 h3=>⟨⟨i+1,cn,by rw[rD gx fI];exact hp,rfl,h3⟩,by omega⟩;apply dz<;>intro g2
    ·have g2:q.op=2:=by simpa using g2
     repeat' first|apply ws|apply wb|refine IC ?_
     by_cases hg:kH x
     ·rw[aw hg];apply ws;apply T.drop;exact step (by rw[aw hg,Bool.or_true])
     ·rw[ao hg];apply ws;rw[ym,all_false (P:=λx=> !decide (q.op=2)||decide (kH x)) gx (by rw[ao hg,aw g2];rfl)] at h;rw[Bool.and_false] at h;exact T.drop h
    ·have g2: ¬q.op=2:=by simpa using g2
     apply T.drop;exact step (by rw[ao g2];rfl)
   ·have iZ:i=q.cA.length:=by omega
    subst iZ;rw[aV] at fI;rw[ym,adP,fI] at h;exact h
def Rq[hh:Has R L](hq:pw W R q s)(DU:q.aC.length<1000000)(cn:q.cA.length<1000000)(h:T W L (K (.b (jy q)))):T W L (gT (gP q s) K):=by
 unfold gT
 repeat' first|apply ws;intros|apply wb|refine IA ?_
 unfold jy at h;cases he:lJ q with
 |true=>
  rw[he,Bool.true_or] at h;apply ws;exact F1 hq DU cn (T.drop h)
 |false=>
  rw[he,Bool.false_or] at h
  repeat' first|apply ws|apply wb|refine Iz ?_
  refine F1 hq DU cn (T.drop ?_);rw[Bool.not_not];exact h
end
def ES(m:aA)(mb:OA)(mc:Nat)(kb:OA)(kc:Nat):LV:=[.l mb m.cW.length mc,.l kb m.ax.length kc,.i m.clock,.i m.ay]
instance{m:aA}{mb kb:OA}{mc kc:Nat}:Gt (ES m mb mc kb kc) 0 (.l mb m.cW.length mc):=⟨rfl⟩
instance{m:aA}{mb kb:OA}{mc kc:Nat}:Gt (ES m mb mc kb kc) 1 (.l kb m.ax.length kc):=⟨rfl⟩
instance{m:aA}{mb kb:OA}{mc kc:Nat}:Gt (ES m mb mc kb kc) 2 (.i m.clock):=⟨rfl⟩
instance{m:aA}{mb kb:OA}{mc kc:Nat}:Gt (ES m mb mc kb kc) 3 (.i m.ay):=⟨rfl⟩
abbrev ML(p:Nat)(m:aA)(mb:OA)(mc:Nat)(kb:OA)(kc:Nat)(R:LH):LH:=Sep.pt p (ES m mb mc kb kc)::own mb m.cW.length mc 14 (m.cW.flatMap aO)::own kb m.ax.length kc 33 (m.ax.flatMap bM)::R
def Gx{α:Type}(P:α->Bool)(l:List α):Int:=match l.findIdx? P with|some i=>(i:Int)|none=> -1
def I0{α:Type}{P:α->Bool}{l:List α}(h:∀x∈l,P x=false):Gx P l= -1:=by
 unfold Gx;rw[List.findIdx?_eq_none_iff.2 h]
def IZ{α:Type}{P:α->Bool}{l:List α}{i:Nat}{x:α}(hx:l[i]?=some x)(hp:P x=true)(h:∀y∈l.take i,P y=false):Gx P l=(i:Int):=by
 unfold Gx;obtain⟨hi,he⟩:=ar.1 hx;rw[(List.findIdx?_eq_some_iff_getElem (xs:=l) (p:=P)).2 ⟨hi,by rw[he];exact hp,λj hj=>by
  have UX:j<l.length:=Nat.lt_trans hj hi
  have:=h (l[j]) (List.mem_take_iff_getElem.2 ⟨j,by omega,rfl⟩)
  rw[this];exact cO⟩]
def Ih{α:Type}{P:α->Bool}{l:List α}{i:Nat}{x:α}(hx:l[i]?=some x)(hp:P x=false)(h:∀y∈l.take i,P y=false):∀y∈l.take (i+1),P y=false:=λy hy=>by
 rw[bg,hx,dB] at hy;rcases hy with hy|hy
 ·exact h y hy
 ·cases(show y=x by simpa using hy);exact hp
section
variable {W:World} {L R:LH} {K:VK} {X:WK} {p:Nat} {m:aA} {mb kb:OA} {mc kc:Nat} {a:bP} {t:cH}
def yb(hm:m.cW.length<1000000){id:Nat}(h:T W (ML p m mb mc kb kc R) (K (.i (Gx (λx:bP=>decide (x.id=id)) m.cW)))):T W (ML p m mb mc kb kc R) (fx (ah p) (nm id) K):=by
 unfold fx;apply ws;intros;rename_i r1;intro w jS;refine⟨λvv w=>∃i:Nat,i<=m.cW.length/\(∀x∈m.cW.take i,decide (x.id=id)=false)/\vv=[.p (some (ad r1 0)),.i 0,.l mb m.cW.length mc,.i (m.cW.length:Int),.i (i:Int)]/\St W w (Sep.pt r1 (nm id)::ML p m mb mc kb kc R),
  mq 4 m.cW.length,⟨0,aF _,(λx hx=>by cases hx),rfl,jS⟩,?_⟩
 rintro a2 n1 ov mo qf n2 n3 w2 ⟨i,hi,fI,e,ib⟩;cases e
 refine T.at ?_ ib;have e5:=nI i;apply ga<;>intro g1
 ·have cn:i<m.cW.length:=by omega
  have gx:=aj cn;generalize m.cW[i]=x at gx;refine dS (b:=mb) ⟨by omega,by omega⟩ λrb hb=>?_;rw[ak];subst hb;apply gI jT gx;apply ws;intros;rw[e5];apply dz<;>intro g2
  ·rw[IZ gx g2 fI] at h;exact T.dp h
  ·refine T.drop λw3 h3=>⟨⟨i+1,cn,Ih gx g2 fI,rfl,h3⟩,dn (by omega)⟩
 ·have iZ:i=m.cW.length:=by omega
  subst iZ;rw[aV] at fI;rw[I0 fI] at h;exact T.dp h
def JX(hm:m.ax.length<1000000){id:Nat}(h:T W (ML p m mb mc kb kc R) (K (.i (Gx (λx:cr=>decide (x.move.id=id)) m.ax)))):T W (ML p m mb mc kb kc R) (ig (ah p) (nm id) K):=by
 unfold ig;apply ws;intros;rename_i r1;intro w jS;refine⟨λvv w=>∃i:Nat,i<=m.ax.length/\(∀x∈m.ax.take i,decide (x.move.id=id)=false)/\vv=[.p (some (ad r1 0)),.i 0,.l kb m.ax.length kc,.i (m.ax.length:Int),.i (i:Int)]/\St W w (Sep.pt r1 (nm id)::ML p m mb mc kb kc R),
  mq 4 m.ax.length,⟨0,aF _,(λx hx=>by cases hx),rfl,jS⟩,?_⟩
 rintro a2 n1 ov mo qf n2 n3 w2 ⟨i,hi,fI,e,ib⟩;cases e
 refine T.at ?_ ib;have e5:=nI i;apply ga<;>intro g1
 ·have cn:i<m.ax.length:=by omega
  have gx:=aj cn;generalize m.ax[i]=x at gx;refine dS (b:=kb) ⟨by omega,by omega⟩ λrb hb=>?_;rw[ak];subst hb;apply gI jB gx;apply ws;intros;rw[e5];apply dz<;>intro g2
  ·rw[IZ gx g2 fI] at h;exact T.dp h
  ·refine T.drop λw3 h3=>⟨⟨i+1,cn,Ih gx g2 fI,rfl,h3⟩,dn (by omega)⟩
 ·have iZ:i=m.ax.length:=by omega
  subst iZ;rw[aV] at fI;rw[I0 fI] at h;exact T.dp h
end
end Go.Up
