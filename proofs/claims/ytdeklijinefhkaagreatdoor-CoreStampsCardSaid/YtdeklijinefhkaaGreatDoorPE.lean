/- Part of the proof: see the last text. -/
import Derived.Test.YtdeklijinefhkaaGreatDoorPD
import Derived.Test.YtdeklijinefhkaaGreatDoorPB
import Derived.Test.YtdeklijinefhkaaGreatDoorPA
import Derived.RangeFuncRecord
import Derived.RangeFuncCalls
import Derived.OrdersIn
import Derived.TacticsIn
set_option linter.all false
set_option maxRecDepth 100000
set_option synthInstance.maxSize 100000
open Bool renaming eq_iff_iff→cj,false_ne_true→cO,false_eq_true→cM,and_eq_true→df,true_and→dQ,false_and→fQ
open Decidable renaming not_not→bp
open Go.IntKind renaming i64→aa
open Int renaming toNat_natCast→ak,tmod_eq_emod_of_nonneg→gX,fdiv_eq_ediv_of_nonneg→Hs,eq_ofNat_of_zero_le→bh,le_refl→eE
open List renaming getElem?_eq_getElem→aj,getElem?_eq_some_iff→ar,length_append→av,length_take→aD,take_length→aV,take_add_one→bg,getElem_mem→bF,length_map→bQ,append_nil→bR,take_append_drop→dy,drop_eq_getElem_cons→gh,getElem?_append_right→iN,getElem?_drop→ta,perm_append_comm→bG,map_append→cF,length_cons→bE,length_nil→cR,Perm→cf,nil_append→cQ,mem_of_getElem?→cD,mem_or_eq_of_mem_set→fq,length_set→je,append_assoc→aH,length_drop→aS,Sublist→bm,map_cons→dx,drop_zero→jf,mem_cons_of_mem→jV,mem_cons→ka,take_zero→mR,length_singleton→qt,mem_cons_self→sX,mem_map→cV,mem_append→dB,find?_eq_none→ql,set_set→jH,getElem?_cons_succ→bX,getElem?_append_left→ch,take_of_length_le→bU,getElem?_set→dk,drop_of_length_le→gG,drop_drop→jX,getElem?_of_mem→qW,take_take→yK,flatMap_cons→iQ,filter_cons_of_pos→lW,filter_cons_of_neg→lX,flatMap_append→gj,getElem?_map→fy,getElem?_range→rL,map_congr_left→jv,map_map→sY,perm_middle→iM,mem_filter→Bn,map_nil→ou,cons_append→lY,range→qk,getElem?_take→s8
open Nat renaming zero_le→aF,add_zero→gM,sub_self→kR,min_eq_left→rE,zero_add→aB,le_refl→aI,pow_succ→Av,pow_le_pow_right→gO,mul_le_mul_right→iA,add_mul→mG,mul_comm→wI,le_trans→wJ,mod_eq_of_lt→fG,lt_of_le_of_lt→qJ,eq_of_beq_eq_true→eS,beq→iB
open Option renaming map_some→fm,some→bA
namespace Go.Up
open Go.Sep Go.Den Go.RowKit Go.Prog Go.Md Go.cG
def wo{α:Type}(f:α->α)(i:Nat)(l:List α):List α:=(l.take i).map f++l.drop i
def Sb{α:Type}{f:α->α}{i:Nat}{l:List α}:(wo f i l).length=l.length:=by unfold wo;rw[av,bQ,<-av,dy]
def Ox{α:Type}{f:α->α}{l:List α}:wo f 0 l=l:=rfl
def Sc{α:Type}{f:α->α}{l:List α}:wo f l.length l=l.map f:=by unfold wo;rw[aV,List.drop_length,bR]
def Mw{α:Type}{f:α->α}{i:Nat}{l:List α}{x:α}(hx:l[i]?=some x):(wo f i l)[i]?=some x:=by
 obtain⟨hi,he⟩:=ar.1 hx;unfold wo;rw[iN (by simp;omega),bQ,aD,rE (by omega),kR,ta,gM];exact hx
def Jb{α:Type}{f:α->α}{i:Nat}{l:List α}{x:α}(hx:l[i]?=some x):(wo f i l).set i (f x)=wo f (i+1) l:=by
 obtain⟨hi,he⟩:=ar.1 hx;unfold wo;have h1:((l.take i).map f).length=i:=by rw[bQ,aD,rE (by omega)]
 rw[List.set_append_right _ _ (by omega),h1,kR,gh hi,List.set_cons_zero,bg,hx];simp
def Oy{α:Type}{f:α->α}{i:Nat}{l:List α}{x:α}(hx:l[i]?=some x)(hf:f x=x):wo f (i+1) l=wo f i l:=by
 rw[<-Jb hx,hf];have:=Mw (f:=f) hx;obtain⟨hi,he⟩:=ar.1 this;rw[<-he,List.set_getElem_self]
section
variable {W:World} {L R:LH} {K:VK} {X:WK} {p:Nat} {m:aA} {mb kb:OA} {mc kc:Nat} {a:bP} {t:cH}
def CX(hm:m.ax.length<1000000)(hb:∀k∈m.ax,aa.wrap (k.move.iE+k.move.cB)=k.move.iE+k.move.cB)
 (h:T W (ML p {m with ax:=m.ax.map (GN m.clock)} mb mc kb kc R) (K (.tuple ⟨[]⟩))):T W (ML p m mb mc kb kc R) (cU (ah p) K):=by
 unfold cU;apply ws;intro w jS;refine⟨λvv w=>∃(i:Nat)(l:List cr),i<=m.ax.length/\l=wo (GN m.clock) i m.ax/\vv=[.l kb m.ax.length kc,.i (m.ax.length:Int),.i (i:Int)]/\St W w (Sep.pt p (ES m mb mc kb kc)::own mb m.cW.length mc 14 (m.cW.flatMap aO)::own kb m.ax.length kc 33 (l.flatMap bM)::R),
  mq 2 m.ax.length,⟨0,m.ax,aF _,Ox.symm,rfl,jS⟩,?_⟩
 rintro ov mo qf n1 n2 w2 ⟨i,l,hi,hl,e,ib⟩;cases e
 refine T.at ?_ ib;have e5:=nI i;have I7:l.length=m.ax.length:=by rw[hl];exact Sb
 apply ga<;>intro g1
 ·have cn:i<m.ax.length:=by omega
  have gx:=aj cn;have hbx:=hb _ (bF cn);generalize m.ax[i]=x at gx hbx;have gl:l[i]?=some x:=by rw[hl];exact Mw gx
  refine dS (b:=kb) ⟨by omega,by omega⟩ λrb xa=>?_;rw[ak];subst xa;apply gI jB gl;have main:∀(r1:Nat)(b1:Bool),b1=decide (nH m.clock x)->T W (Sep.pt r1 (bM x)::Sep.pt p (ES m mb mc (ah rb) kc)::own mb m.cW.length mc 14 (m.cW.flatMap aO)::own (ah rb) m.ax.length kc 33 (l.flatMap bM)::R)
                                                      (cU.j1 K (ah p) (i:Int) (λvv w=>∃(i:Nat)(l:List cr),i<=m.ax.length/\l=wo (GN m.clock) i m.ax/\vv=[.l (ah rb) m.ax.length kc,.i (m.ax.length:Int),.i (i:Int)]/\St W w (Sep.pt p (ES m mb mc (ah rb) kc)::own mb m.cW.length mc 14 (m.cW.flatMap aO)::own (ah rb) m.ax.length kc 33 (l.flatMap bM)::R)) (ah rb) m.ax.length kc (m.ax.length:Int) (mq 2 m.ax.length) w2 b1):=λr1 b1 WR=>by
   unfold cU.j1;rw[e5];cases b1 with
   |true=>
    have hov:=aR WR.symm;apply ws;refine dS (b:=ah rb) ⟨by omega,by omega⟩ λZU xa=>?_;cases xa
    rw[ak];apply Pp;apply Fw (o:=i) (x:=x) (y:={x with fate:=4}) jB gl rfl (by decide) rfl;refine T.drop λw3 h3=>⟨⟨i+1,_,cn,?_,rfl,h3⟩,dn (by omega)⟩;rw[<-Jb gx,hl];unfold GN;rw[ai hov]
   |false=>
    have hov:=bj WR.symm;rw[eu];refine T.drop λw3 h3=>⟨⟨i+1,_,cn,?_,rfl,h3⟩,dn (by omega)⟩;rw[Oy gx (by unfold GN;rw[ag hov]),hl]
  apply ws;intros;apply dz<;>intro g2
  ·have g2:x.fate=1:=by simpa using g2
   apply ws;apply ga<;>intro g3
   ·apply ws;rw[hbx];apply main _ _;rw[decide_eq_decide];exact⟨λhh=>⟨g2,g3,hh⟩,λhh=>hh.2.2⟩
   ·exact main _ _ (ao (λhh=>g3 hh.2.1)).symm
  ·have g2: ¬x.fate=1:=by simpa using g2
   exact main _ _ (ao (λhh=>g2 hh.1)).symm
 ·have iZ:i=m.ax.length:=by omega
  subst iZ;rw[Sc] at hl;subst hl;unfold ML ES at h;simp only[bQ] at h;exact h
instance acy{m:aA}{mb kb:OA}{mc kc:Nat}{c:Int}:Wr (ES m mb mc kb kc) 2 [.i c] (ES {m with clock:=c} mb mc kb kc):=⟨rfl,by show 3<=4;decide,λv h=>by simp at h;subst h;rfl⟩
def XC{now:Int}(hm:m.ax.length<1000000)(hb:∀k∈m.ax,aa.wrap (k.move.iE+k.move.cB)=k.move.iE+k.move.cB)
 (h:T W (ML p (m.time now) mb mc kb kc R) (K (.tuple ⟨[]⟩))):T W (ML p m mb mc kb kc R) (kP (ah p) now K):=by
 unfold kP;rw[JB] at h;unfold vn at h;apply ws;apply ga<;>intro g1
 ·apply ga<;>intro g2
  ·rw[ai ⟨g1,g2⟩] at h;apply ws;apply CX (m:={m with clock:=now}) hm hb;apply ws;exact h
  ·rw[ag (λhh=>g2 hh.2)] at h;apply CX hm hb;apply ws;exact h
 ·rw[ag (λhh=>g1 hh.1)] at h;apply CX hm hb;apply ws;exact h
end
def Ao{f b:Int}(h0:0<=f)(h1:f<1000000)(hb:1<=b):aa.wrap (f.tdiv b)=f/b:=by
 rw[Int.tdiv_eq_ediv_of_nonneg h0];have h2:=Int.ediv_nonneg h0 (show 0<=b by omega);have h3:=Int.ediv_le_self b h0;exact aX (by omega)
def VJ{f b:Int}(h0:0<=f)(h1:f<1000000)(hb:1<=b):(((aa.wrap (f.tdiv b)).tmod (2:Int))==1)=decide (has f b):=by
 rw[Ao h0 h1 hb,gX (Int.ediv_nonneg h0 (by omega))];rw[cj,wK,decide_eq_true_eq];exact Iff.rfl
section
variable {W:World} {L R:LH} {K:VK} {X:WK} {a b:bP} {t u:cH}
def LL{f n:Int}(h0:0<=f/\f<1000000)(hn:1<=n)(h:T W L (K (.b (decide (has f n))))):T W L (np f n K):=by
 unfold np;apply dU (by omega);apply dU (by decide);rw[VJ h0.1 h0.2 hn];exact h
def N8(ha:0<=a.aq/\a.aq<256)(hb:0<=b.aq/\b.aq<256)(h:T W L (K (.i (uN a b)))):T W L (ie (aO a) (aO b) K):=by
 unfold ie ie.j1;have e1:(aa.wrap (a.aq.tdiv 2)).tmod 4=a.aq/2%4:=by rw[Ao ha.1 (by omega) (by decide),gX (by omega)]
 have e2:(aa.wrap (b.aq.tdiv 2)).tmod 4=b.aq/2%4:=by rw[Ao hb.1 (by omega) (by decide),gX (by omega)]
 unfold uN at h;apply ws;intros;apply dz<;>intro g1
 ·have g1:a.bJ=b.bJ:=by simpa using g1
  apply ws;apply dz<;>intro g2
  ·have g2:a.code=b.code:=by simpa using g2
   repeat' first|apply ws|apply wb|refine dU (by decide) ?_
   apply dz<;>intro g3
   ·rw[e1,e2] at g3;have g3:a.aq/2%4=b.aq/2%4:=by simpa using g3
    rw[ai ⟨g1,g2,g3⟩] at h;exact T.dp h
   ·rw[e1,e2] at g3;have g3: ¬a.aq/2%4=b.aq/2%4:=by simpa using g3
    rw[ag (λhh=>g3 hh.2.2)] at h;exact T.dp h
  ·have g2: ¬a.code=b.code:=by simpa using g2
   rw[ag (λhh=>g2 hh.2.1)] at h;exact T.dp h
 ·have g1: ¬a.bJ=b.bJ:=by simpa using g1
  rw[ag (λhh=>g1 hh.1)] at h;apply ws;exact T.dp h
def lH{n:Int}(h0:0<=t.aq/\t.aq<1000000)(hn:1<=n)(h:T W L (K (.b (decide (has t.aq n))))):T W L (bZ (aN t) n K):=by
 unfold bZ;apply ws;intros;apply dU (by omega);apply dU (by decide);rw[VJ h0.1 h0.2 hn];exact T.dp h
def xi(h0:0<=t.aq/\t.aq<1000000)(h:T W L (K (.b (decide (jZ t.aq))))):T W L (gU (aN t) K):=by
 unfold gU;apply ws;intros;apply lH h0 (by decide);apply ws;by_cases h4:has t.aq 4
 ·rw[aw (show jZ t.aq from .inl h4)] at h;rw[aw h4];apply ws;exact T.dp h
 ·rw[ao h4];apply ws;apply lH h0 (by decide);apply ws;have e:decide (jZ t.aq)=decide (has t.aq 8):=by rw[decide_eq_decide];exact⟨λhh=>hh.resolve_left h4,.inr⟩
  rw[e] at h;exact T.dp h
end
def te(x:Int):IntKind.u64.wrap x=x%18446744073709551616:=by
 unfold IntKind.wrap;simp[IntKind.signed,IntKind.bits]
section
variable {W:World} {L R:LH} {K:VK} {X:WK} {a b:Nat}
def AY{r3:Nat}{n1 n2 n7:Int}{b1:Bool}(hb:b1=decide (¬a+b<bO))(h0: ¬b1=true->n7=(((a+b)/18446744073709551616:Nat):Int)/\IntKind.u64.wrap (n1+n2)=(((a+b)%18446744073709551616:Nat):Int))
 (h:T W L (K (.tuple ⟨[.agg ⟨nm (add a b)⟩,.b (decide (a+b<bO))]⟩))):T W (Sep.pt r3 [.u 0,.u 0]::L) (dE.j1 K r3 n1 n2 n7 b1):=by
 unfold dE.j1;unfold add at h;cases b1 with
 |true=>
  have hb:=aR hb.symm;rw[ag hb,ao hb] at h;apply ws;exact T.dp h
 |false=>
  have hb:=bj hb.symm;have xa:a+b<bO:=by omega
  rw[ai xa,aw xa] at h;obtain⟨e1,e2⟩:=h0 (by decide);rw[e1,e2];apply ws;exact T.dp h
def u5(ha:a<bO)(hb:b<bO)(h:T W L (K (.tuple ⟨[.agg ⟨nm (add a b)⟩,.b (decide (a+b<bO))]⟩))):T W L (dE (nm a) (nm b) K):=by
 unfold dE;unfold nm;unfold bO at ha hb;have e1:IntKind.u64.wrap (((a%18446744073709551616:Nat):Int)+((b%18446744073709551616:Nat):Int))=(((a+b)%18446744073709551616:Nat):Int):=by rw[te];omega
 apply ws;intros;apply ga<;>intro g1
 ·rw[e1] at g1;apply ga<;>intro g2
  ·rw[te] at g2;refine AY (a:=a) (b:=b) (aw (by unfold bO;omega)).symm (λhh=>aT rfl hh) ?_;exact T.dp h
  ·rw[te] at g2;refine AY (a:=a) (b:=b) ?_ (λhh=>⟨?_,e1⟩) ?_
   ·rw[cj,wK,decide_eq_true_eq,te,te];unfold bO;omega
   ·rw[wK,te,te] at hh;rw[te,te];omega
   ·exact T.dp h
 ·rw[e1] at g1;refine AY (a:=a) (b:=b) ?_ (λhh=>⟨?_,e1⟩) ?_
  ·rw[decide_eq_decide,te];unfold bO;omega
  ·rw[decide_eq_true_eq,te] at hh;rw[te];omega
  ·exact T.dp h
def BZ(ha:a<bO)(hb:b<bO)(h:T W L (K (.agg ⟨nm (add a b)⟩))):T W L (jK (nm a) (nm b) K):=by
 unfold jK;apply ws;intros;apply u5 ha hb;apply ws;intros;exact T.dp h
end
def Dp(I1:LV->World->Prop)(kS:LV->World->Nat)(w2:World)(a4 a5:Addr)(o9:OA)(nJ pa:Nat)(n2 n3:Int):WK:=λw3=>
 I1 [.p (some a4),.p (some a5),.l o9 nJ pa,.i n2,.i (aa.wrap (n3+1))] w3/\kS [.p (some a4),.p (some a5),.l o9 nJ pa,.i n2,.i (aa.wrap (n3+1))] w3<kS [.p (some a4),.p (some a5),.l o9 nJ pa,.i n2,.i n3] w2
section
variable {W w2:World} {L R:LH} {K:VK} {r2 r3 r4:Nat} {a:bP} {k:cr} {I1:LV->World->Prop} {kS:LV->World->Nat} {a4:Addr} {o9:OA} {nJ pa:Nat} {n2 n3:Int}
def VV{b:Bool}(hf:0<=a.aq/\a.aq<1000000)(hb:b=decide (kO a.id k))
 (h:T W (Sep.pt r4 (aN k.move)::Sep.pt r3 (bM k)::Sep.pt r2 (aO {a with aq:=if kO a.id k then a.aq%8+8 else a.aq})::L) (Dp I1 kS w2 a4 (ad r2 0) o9 nJ pa n2 n3)):
 T W (Sep.pt r4 (aN k.move)::Sep.pt r3 (bM k)::Sep.pt r2 (aO a)::L) (au.Ol K (ad r2 0) I1 a4 o9 nJ pa n2 n3 kS w2 b):=by
 unfold au.Ol;have e1:aa.wrap (a.aq.tmod 8+8)=a.aq%8+8:=by rw[gX hf.1];exact aX (by omega)
 cases b with
 |true=>
  rw[ai (aR hb.symm)] at h
  repeat' first|apply ws|apply wb|refine dU (by decide) ?_
  rw[e1];exact h
 |false=>
  rw[ag (bj hb.symm)] at h;rw[eu];exact h
def VY{b:Bool}(hf:0<=a.aq/\a.aq<1000000)(hb:b=decide (has k.move.aq 64/\k.move.bI=a.id\/has k.move.aq 128/\k.move.aU=a.id))
 (h:T W (Sep.pt r4 (aN k.move)::Sep.pt r3 (bM k)::Sep.pt r2 (aO {a with aq:=if kO a.id k then a.aq%8+8 else a.aq})::L) (Dp I1 kS w2 a4 (ad r2 0) o9 nJ pa n2 n3)):
 T W (Sep.pt r4 (aN k.move)::Sep.pt r3 (bM k)::Sep.pt r2 (aO a)::L) (au.Ep K r3 (ad r2 0) I1 a4 o9 nJ pa n2 n3 kS w2 b):=by
 unfold au.Ep;cases b with
 |true=>
  have hc:=aR hb.symm;apply ws;apply dz<;>intro g1
  ·have g1:k.fate=1:=by simpa using g1
   exact VV hf (aw (show kO a.id k from⟨hc,.inl g1⟩)).symm h
  ·have g1: ¬k.fate=1:=by simpa using g1
   apply ws;refine VV hf ?_ h;rw[cj,wK,decide_eq_true_eq];exact⟨λhh=>⟨hc,.inr hh⟩,λhh=>hh.2.resolve_left g1⟩
 |false=>
  have hc:=bj hb.symm;rw[eu];exact VV hf (ao (show ¬kO a.id k from λhh=>hc hh.1)).symm h
def aap{b:Bool}(hf:0<=a.aq/\a.aq<1000000)(hm:0<=k.move.aq/\k.move.aq<1000000)(hb:b=decide (has k.move.aq 64/\k.move.bI=a.id))
 (h:T W (Sep.pt r4 (aN k.move)::Sep.pt r3 (bM k)::Sep.pt r2 (aO {a with aq:=if kO a.id k then a.aq%8+8 else a.aq})::L) (Dp I1 kS w2 a4 (ad r2 0) o9 nJ pa n2 n3)):
 T W (Sep.pt r4 (aN k.move)::Sep.pt r3 (bM k)::Sep.pt r2 (aO a)::L) (au.Qi K r3 (ad r2 0) I1 a4 o9 nJ pa n2 n3 kS w2 r4 b):=by
 unfold au.Qi;cases b with
 |true=>
  have hc:=aR hb.symm;rw[lC];exact VY hf (aw (.inl hc)).symm h
 |false=>
  have hc:=bj hb.symm;rw[eu];apply ws;apply lH hm (by decide);apply ws;by_cases g1:has k.move.aq 128
  ·rw[aw g1];apply ws;refine VY hf ?_ h;rw[decide_eq_decide];exact⟨λhh=>.inr ⟨g1,hh⟩,λhh=>(hh.resolve_left hc).2⟩
  ·rw[ao g1];apply ws;exact VY hf (ao (λhh=>g1 (hh.resolve_left hc).1)).symm h
def ahV(hf:0<=a.aq/\a.aq<1000000)(hm:0<=k.move.aq/\k.move.aq<1000000)
 (h:T W (Sep.pt r4 (aN k.move)::Sep.pt r3 (bM k)::Sep.pt r2 (aO {a with aq:=if kO a.id k then a.aq%8+8 else a.aq})::L) (Dp I1 kS w2 a4 (ad r2 0) o9 nJ pa n2 n3)):
 T W (Sep.pt r4 (aN k.move)::Sep.pt r3 (bM k)::Sep.pt r2 (aO a)::L) (au.j9 K r4 (ad r2 0) r3 I1 a4 o9 nJ pa n2 n3 kS w2):=by
 unfold au.j9;apply ws;apply lH hm (by decide);apply ws;by_cases g1:has k.move.aq 64
 ·rw[aw g1];apply ws;refine aap hf hm ?_ h;rw[decide_eq_decide];exact⟨λhh=>⟨g1,hh⟩,λhh=>hh.2⟩
 ·rw[ao g1];apply ws;exact aap hf hm (ao (λhh=>g1 hh.1)).symm h
def ahW{b:Bool}(h1:a.cp<bO)(h2:k.move.a8<bO)(h:T W (Sep.pt r4 (aN k.move)::Sep.pt r3 (bM k)::Sep.pt r2 (aO {a with cp:=if b=true then add a.cp k.move.a8 else a.cp})::L) (au.j9 K r4 (ad r2 0) r3 I1 a4 o9 nJ pa n2 n3 kS w2)):T W (Sep.pt r4 (aN k.move)::Sep.pt r3 (bM k)::Sep.pt r2 (aO a)::L) (au.j8 K (ad r2 0) r4 r3 I1 a4 o9 nJ pa n2 n3 kS w2 b):=by
 unfold au.j8;cases b with
 |true=>
  rw[ai rfl] at h;apply ws;apply BZ h1 h2;apply ws;exact h
 |false=>
  rw[ag cO] at h;rw[eu];exact h
def ahX(h1:a.cp<bO)(h2:k.move.a8<bO)(h:T W (Sep.pt r4 (aN k.move)::Sep.pt r3 (bM k)::Sep.pt r2 (aO {a with cp:=if k.fate=1/\k.move.aU=a.id then add a.cp k.move.a8 else a.cp})::L) (au.j9 K r4 (ad r2 0) r3 I1 a4 o9 nJ pa n2 n3 kS w2)):T W (Sep.pt r4 (aN k.move)::Sep.pt r3 (bM k)::Sep.pt r2 (aO a)::L) (au.j7 K r3 r4 (ad r2 0) I1 a4 o9 nJ pa n2 n3 kS w2):=by
 unfold au.j7;have fin:∀b:Bool,b=decide (k.fate=1/\k.move.aU=a.id)->T W (Sep.pt r4 (aN k.move)::Sep.pt r3 (bM k)::Sep.pt r2 (aO a)::L) (au.j8 K (ad r2 0) r4 r3 I1 a4 o9 nJ pa n2 n3 kS w2 b):=λb hb=>by
  apply ahW h1 h2;have e:(if b=true then add a.cp k.move.a8 else a.cp)=(if k.fate=1/\k.move.aU=a.id then add a.cp k.move.a8 else a.cp):=by
   subst hb;by_cases hc:k.fate=1/\k.move.aU=a.id
   ·rw[ai (aw hc),ai hc]
   ·rw[ag (by rw[ao hc];exact cO),ag hc]
  rw[e];exact h
 apply ws;apply dz<;>intro g1
 ·have g1:k.fate=1:=by simpa using g1
  apply ws;apply fin _;rw[decide_eq_decide];exact⟨λhh=>⟨g1,hh⟩,λhh=>hh.2⟩
 ·have g1: ¬k.fate=1:=by simpa using g1
  exact fin _ (ao (λhh=>g1 hh.1)).symm
def ahY{b:Bool}(h1:a.dp<bO)(h2:k.move.a8<bO)(h:T W (Sep.pt r4 (aN k.move)::Sep.pt r3 (bM k)::Sep.pt r2 (aO {a with dp:=if b=true then add a.dp k.move.a8 else a.dp})::L) (au.j7 K r3 r4 (ad r2 0) I1 a4 o9 nJ pa n2 n3 kS w2)):T W (Sep.pt r4 (aN k.move)::Sep.pt r3 (bM k)::Sep.pt r2 (aO a)::L) (au.j6 K (ad r2 0) r4 r3 I1 a4 o9 nJ pa n2 n3 kS w2 b):=by
 unfold au.j6;cases b with
 |true=>
  rw[ai rfl] at h;apply ws;apply BZ h1 h2;apply ws;exact h
 |false=>
  rw[ag cO] at h;rw[eu];exact h
def ahZ(h1:a.dp<bO)(h2:k.move.a8<bO)(h:T W (Sep.pt r4 (aN k.move)::Sep.pt r3 (bM k)::Sep.pt r2 (aO {a with dp:=if k.fate=1/\k.move.bI=a.id then add a.dp k.move.a8 else a.dp})::L) (au.j7 K r3 r4 (ad r2 0) I1 a4 o9 nJ pa n2 n3 kS w2)):T W (Sep.pt r4 (aN k.move)::Sep.pt r3 (bM k)::Sep.pt r2 (aO a)::L) (au.j5 K r3 r4 (ad r2 0) I1 a4 o9 nJ pa n2 n3 kS w2):=by
 unfold au.j5;have fin:∀b:Bool,b=decide (k.fate=1/\k.move.bI=a.id)->T W (Sep.pt r4 (aN k.move)::Sep.pt r3 (bM k)::Sep.pt r2 (aO a)::L) (au.j6 K (ad r2 0) r4 r3 I1 a4 o9 nJ pa n2 n3 kS w2 b):=λb hb=>by
  apply ahY h1 h2;have e:(if b=true then add a.dp k.move.a8 else a.dp)=(if k.fate=1/\k.move.bI=a.id then add a.dp k.move.a8 else a.dp):=by
   subst hb;by_cases hc:k.fate=1/\k.move.bI=a.id
   ·rw[ai (aw hc),ai hc]
   ·rw[ag (by rw[ao hc];exact cO),ag hc]
  rw[e];exact h
 apply ws;apply dz<;>intro g1
 ·have g1:k.fate=1:=by simpa using g1
  apply ws;apply fin _;rw[decide_eq_decide];exact⟨λhh=>⟨g1,hh⟩,λhh=>hh.2⟩
 ·have g1: ¬k.fate=1:=by simpa using g1
  exact fin _ (ao (λhh=>g1 hh.1)).symm
def ah0{b:Bool}(h1:a.cq<bO)(h2:k.move.a8<bO)(h:T W (Sep.pt r4 (aN k.move)::Sep.pt r3 (bM k)::Sep.pt r2 (aO {a with cq:=if b=true then add a.cq k.move.a8 else a.cq})::L) (au.j5 K r3 r4 (ad r2 0) I1 a4 o9 nJ pa n2 n3 kS w2)):T W (Sep.pt r4 (aN k.move)::Sep.pt r3 (bM k)::Sep.pt r2 (aO a)::L) (au.j4 K (ad r2 0) r4 r3 I1 a4 o9 nJ pa n2 n3 kS w2 b):=by
 unfold au.j4;cases b with
 |true=>
  rw[ai rfl] at h;apply ws;apply BZ h1 h2;apply ws;exact h
 |false=>
  rw[ag cO] at h;rw[eu];exact h
def ah1{b1:Bool}(h1:a.cq<bO)(h2:k.move.a8<bO)(h:T W (Sep.pt r4 (aN k.move)::Sep.pt r3 (bM k)::Sep.pt r2 (aO {a with cq:=if b1=true/\k.move.aU=a.id then add a.cq k.move.a8 else a.cq})::L) (au.j5 K r3 r4 (ad r2 0) I1 a4 o9 nJ pa n2 n3 kS w2)):T W (Sep.pt r4 (aN k.move)::Sep.pt r3 (bM k)::Sep.pt r2 (aO a)::L) (au.j3 K b1 r4 (ad r2 0) r3 I1 a4 o9 nJ pa n2 n3 kS w2):=by
 unfold au.j3;have fin:∀b:Bool,b=decide (b1=true/\k.move.aU=a.id)->T W (Sep.pt r4 (aN k.move)::Sep.pt r3 (bM k)::Sep.pt r2 (aO a)::L) (au.j4 K (ad r2 0) r4 r3 I1 a4 o9 nJ pa n2 n3 kS w2 b):=λb hb=>by
  apply ah0 h1 h2;have e:(if b=true then add a.cq k.move.a8 else a.cq)=(if b1=true/\k.move.aU=a.id then add a.cq k.move.a8 else a.cq):=by
   subst hb;by_cases hc:b1=true/\k.move.aU=a.id
   ·rw[ai (aw hc),ai hc]
   ·rw[ag (by rw[ao hc];exact cO),ag hc]
  rw[e];exact h
 cases b1 with
 |true=>
  apply ws;apply fin _;rw[decide_eq_decide];exact⟨λhh=>⟨rfl,hh⟩,λhh=>hh.2⟩
 |false=>
  rw[eu];exact fin _ (ao (λhh=>cO hh.1)).symm
def ah2{b:Bool}{b1:Bool}(h1:a.dq<bO)(h2:k.move.a8<bO)(h:T W (Sep.pt r4 (aN k.move)::Sep.pt r3 (bM k)::Sep.pt r2 (aO {a with dq:=if b=true then add a.dq k.move.a8 else a.dq})::L) (au.j3 K b1 r4 (ad r2 0) r3 I1 a4 o9 nJ pa n2 n3 kS w2)):T W (Sep.pt r4 (aN k.move)::Sep.pt r3 (bM k)::Sep.pt r2 (aO a)::L) (au.j2 K (ad r2 0) r4 b1 r3 I1 a4 o9 nJ pa n2 n3 kS w2 b):=by
 unfold au.j2;cases b with
 |true=>
  rw[ai rfl] at h;apply ws;apply BZ h1 h2;apply ws;exact h
 |false=>
  rw[ag cO] at h;rw[eu];exact h
def ah3{b1:Bool}(h1:a.dq<bO)(h2:k.move.a8<bO)(h:T W (Sep.pt r4 (aN k.move)::Sep.pt r3 (bM k)::Sep.pt r2 (aO {a with dq:=if b1=true/\k.move.bI=a.id then add a.dq k.move.a8 else a.dq})::L) (au.j3 K b1 r4 (ad r2 0) r3 I1 a4 o9 nJ pa n2 n3 kS w2)):T W (Sep.pt r4 (aN k.move)::Sep.pt r3 (bM k)::Sep.pt r2 (aO a)::L) (au.j1 K r4 (ad r2 0) r3 I1 a4 o9 nJ pa n2 n3 kS w2 b1):=by
 unfold au.j1;have fin:∀b:Bool,b=decide (b1=true/\k.move.bI=a.id)->T W (Sep.pt r4 (aN k.move)::Sep.pt r3 (bM k)::Sep.pt r2 (aO a)::L) (au.j2 K (ad r2 0) r4 b1 r3 I1 a4 o9 nJ pa n2 n3 kS w2 b):=λb hb=>by
  apply ah2 h1 h2;have e:(if b=true then add a.dq k.move.a8 else a.dq)=(if b1=true/\k.move.bI=a.id then add a.dq k.move.a8 else a.dq):=by
   subst hb;by_cases hc:b1=true/\k.move.bI=a.id
   ·rw[ai (aw hc),ai hc]
   ·rw[ag (by rw[ao hc];exact cO),ag hc]
  rw[e];exact h
 cases b1 with
 |true=>
  apply ws;apply fin _;rw[decide_eq_decide];exact⟨λhh=>⟨rfl,hh⟩,λhh=>hh.2⟩
 |false=>
  rw[eu];exact fin _ (ao (λhh=>cO hh.1)).symm
end
def Nb(a:bP):Prop:=a.dp<bO/\a.dq<bO/\a.cp<bO/\a.cq<bO/\0<=a.aq/\a.aq<1000000
def RkK(k:cr):Prop:=k.move.a8<bO/\0<=k.move.aq/\k.move.aq<1000000
def Hb(a b:Nat):add a b<bO:=by
 unfold add;split
 ·assumption
 ·unfold bO;decide
def XA{a:bP}{k:cr}(h:Nb a):Nb (ya a k):=by
 obtain⟨h1,h2,h3,h4,h5,h6⟩:=h;refine⟨?_,?_,?_,?_,?_,?_⟩
 ·show(if _ then _ else _)<bO;split;exact Hb _ _;exact h1
 ·show(if _ then _ else _)<bO;split;exact Hb _ _;exact h2
 ·show(if _ then _ else _)<bO;split;exact Hb _ _;exact h3
 ·show(if _ then _ else _)<bO;split;exact Hb _ _;exact h4
 ·show 0<=(if kO a.id k then a.aq%8+8 else a.aq);split<;>omega
 ·show(if kO a.id k then a.aq%8+8 else a.aq)<1000000;split<;>omega
def LB{a:bP}(l:List cr)(h:Nb a):Nb (l.foldl ya a):=by
 induction l generalizing a with
 |nil=>exact h
 |cons k l ih=>exact ih (XA h)
section
variable {W w2:World} {L R:LH} {K:VK} {r2 r3 r4 p:Nat} {a:bP} {k:cr} {m:aA} {mb kb:OA} {mc kc:Nat} {I1:LV->World->Prop} {kS:LV->World->Nat} {a4:Addr} {o9:OA} {nJ pa:Nat} {n2 n3:Int}
def acg{b1:Bool}(ha:Nb a)(hk:RkK k)(hb:b1=decide (l6 k))
 (h:T W (Sep.pt r4 (aN k.move)::Sep.pt r3 (bM k)::Sep.pt r2 (aO (ya a k))::L) (Dp I1 kS w2 a4 (ad r2 0) o9 nJ pa n2 n3)):
 T W (Sep.pt r4 (aN k.move)::Sep.pt r3 (bM k)::Sep.pt r2 (aO a)::L) (au.j1 K r4 (ad r2 0) r3 I1 a4 o9 nJ pa n2 n3 kS w2 b1):=by
 obtain⟨h1,h2,h3,h4,h5,h6⟩:=ha;obtain⟨k1,k2,k3⟩:=hk;have e:∀(P:Prop) [Decidable P](x y:Nat),(if b1=true/\P then x else y)=if l6 k/\P then x else y:=λP _ x y=>by
  subst hb;by_cases hc:l6 k
  ·by_cases hp:P
   ·rw[ai ⟨aw hc,hp⟩,ai ⟨hc,hp⟩]
   ·rw[ag (λhh=>hp hh.2),ag (λhh=>hp hh.2)]
  ·rw[ag (λhh=>hc (aR hh.1)),ag (λhh=>hc hh.1)]
 refine ah3 h2 k1 ?_;refine ah1 h4 k1 ?_;refine ahZ h1 k1 ?_;refine ahX h3 k1 ?_;refine ahV (show 0<=a.aq/\a.aq<1000000 from⟨h5,h6⟩) ⟨k2,k3⟩ ?_;rw[e,e];exact h
def EG{i:Nat}(hn:m.ax.length<1000000)(hx:m.cW[i]?=some a)(ha:Nb a)(hk:∀k∈m.ax,RkK k)
 (h:T W (ML p m mb mc kb kc R) (K (.agg ⟨aO (m.ax.foldl ya a)⟩))):T W (ML p m mb mc kb kc R) (au (ah p) (i:Int) K):=by
 unfold au;have R6:=(ar.1 hx).1;apply ws;intros;rename_i r1;refine dS (b:=mb) ⟨by omega,by omega⟩ λrb hb=>?_;rw[ak];subst hb;apply gI jT hx;apply ws;intros;rename_i r2;intro w jS;refine⟨λvv w=>∃j:Nat,j<=m.ax.length/\vv=[.p (some (ad r1 0)),.p (some (ad r2 0)),.l kb m.ax.length kc,.i (m.ax.length:Int),.i (j:Int)]/\St W w (Sep.pt r2 (aO ((m.ax.take j).foldl ya a))::Sep.pt r1 (aO zA)::ML p m (ah rb) mc kb kc R),
  mq 4 m.ax.length,⟨0,aF _,rfl,jS⟩,?_⟩
 rintro a4 a5 o9 nJ pa n2 n3 w2 ⟨j,hj,e,ib⟩;cases e
 refine T.at ?_ ib;have e5:=nI j;apply ga<;>intro g1
 ·have cn:j<m.ax.length:=by omega
  have gx:=aj cn;have UW:=hk _ (bF cn);generalize m.ax[j]=x at gx UW;refine dS (b:=kb) ⟨by omega,by omega⟩ λrk xa=>?_;rw[ak];subst xa;apply gI jB gx;apply ws;intros;rename_i r3 r4;have afC:=LB (m.ax.take j) ha;have gS:(m.ax.take (j+1)).foldl ya a=ya ((m.ax.take j).foldl ya a) x:=by rw[bg,gx,List.foldl_append];rfl
  have fin:∀b1:Bool,b1=decide (l6 x)->T W (Sep.pt r4 (aN x.move)::Sep.pt r3 (bM x)::Sep.pt r2 (aO ((m.ax.take j).foldl ya a))::Sep.pt r1 (aO zA)::ML p m (ah rb) mc (ah rk) kc R)
   (au.j1 K r4 (ad r2 0) r3 (λvv w=>∃j:Nat,j<=m.ax.length/\vv=[.p (some (ad r1 0)),.p (some (ad r2 0)),.l (ah rk) m.ax.length kc,.i (m.ax.length:Int),.i (j:Int)]/\St W w (Sep.pt r2 (aO ((m.ax.take j).foldl ya a))::Sep.pt r1 (aO zA)::ML p m (ah rb) mc (ah rk) kc R)) (ad r1 0) (ah rk) m.ax.length kc (m.ax.length:Int) (j:Int) (mq 4 m.ax.length) w2 b1):=λb1 WR=>by
   apply acg afC UW WR;unfold Dp;rw[e5];refine T.drop (T.drop λw3 h3=>⟨⟨j+1,cn,rfl,by rw[gS];exact h3⟩,dn (by omega)⟩)
  apply lH ⟨UW.2.1,UW.2.2⟩ (by decide);apply ws;by_cases g2:has x.move.aq 2
  ·rw[aw g2];apply ws;exact fin _ (ao (λhh=>hh.1 g2)).symm
  ·rw[ao g2];apply ws;apply lH ⟨UW.2.1,UW.2.2⟩ (by decide);apply ws;apply fin _;by_cases g3:has x.move.aq 8
   ·rw[aw g3];exact(ao (λhh=>hh.2 g3)).symm
   ·rw[ao g3];exact(aw (show l6 x from⟨g2,g3⟩)).symm
 ·have iZ:j=m.ax.length:=by omega
  subst iZ;rw[aV];apply ws;exact T.dp h
def DJ(hm:m.cW.length<1000000)(hn:m.ax.length<1000000)(ha:∀a∈m.cW,Nb a)(hk:∀k∈m.ax,RkK k)
 (h:∀ob oc,T W (ML p m mb mc kb kc (own ob m.cW.length oc 14 ((m.cW.map m.full).flatMap aO)::R)) (K (.l ob m.cW.length oc))):T W (ML p m mb mc kb kc R) (ic (ah p) K):=by
 unfold ic;apply ws;refine im (e:=14) ?_;refine T.perm (L:=ML p m mb mc kb kc (own none 0 0 14 []::R)) ?_ (bG (l₁:=[own none 0 0 14 []]) (l₂:=[_,_,_])|>.append_right R);intro w jS;refine⟨λvv w=>∃(i:Nat)(ob:OA)(oc:Nat)(out:List bP),i<=m.cW.length/\out=(m.cW.take i).map m.full/\vv=[.l none 0 0,.l ob i oc,.i (m.cW.length:Int),.i (i:Int)]/\St W w (ML p m mb mc kb kc (own ob i oc 14 (out.flatMap aO)::R)),
  mq 3 m.cW.length,⟨0,none,0,[],aF _,rfl,rfl,jS⟩,?_⟩
 rintro ov mo qf ob i oc n1 n2 w2 ⟨i0,ob0,oc0,out,hi,vW,e,ib⟩;cases e
 refine T.at ?_ ib;have e5:=nI i;apply ga<;>intro g1
 ·have cn:i<m.cW.length:=by omega
  have gx:=aj cn;have hax:=ha _ (bF cn);generalize m.cW[i]=x at gx hax;apply EG hn gx hax hk;apply ws;intros;refine kZ (g:=aO) (l:=out) (x:=m.full x) (bR _) rfl rfl (by omega) (by omega) (iV _) λb' c'=>?_;rw[e5];refine T.drop λw3 h3=>⟨⟨i+1,b',c',out++[m.full x],cn,?_,rfl,h3⟩,dn (by omega)⟩;rw[bg,gx,cF,vW];rfl
 ·have iZ:i=m.cW.length:=by omega
  subst iZ;rw[aV] at vW;subst vW;exact h ob oc
end
instance acx{m:aA}{mb kb:OA}{mc kc:Nat}{c:Int}:Wr (ES m mb mc kb kc) 3 [.i c] (ES {m with ay:=c} mb mc kb kc):=⟨rfl,by show 4<=4;decide,λv h=>by simp at h;subst h;rfl⟩
instance ac'{m:aA}{mb kb b:OA}{mc kc n c:Nat}:Wr (ES m mb mc kb kc) 1 [.l b n c] [.l mb m.cW.length mc,.l b n c,.i m.clock,.i m.ay]:=⟨rfl,by show 2<=4;decide,λv h=>by simp at h;subst h;rfl⟩
instance ac9{m:aA}{mb kb b:OA}{mc kc n c:Nat}:Wr (ES m mb mc kb kc) 0 [.l b n c] [.l b n c,.l kb m.ax.length kc,.i m.clock,.i m.ay]:=⟨rfl,by show 1<=4;decide,λv h=>by simp at h;subst h;rfl⟩
section
variable {W w2:World} {L R:LH} {K:VK} {p:Nat} {a:bP} {t u:cH} {m:aA} {mb kb:OA} {mc kc:Nat}
def JY{fate:Int}(hn:m.ax.length<1000000)(hs:0<=m.ay/\m.ay<1000000)
 (h:∀b c,T W (ML p (m.mw t u fate) mb mc b c R) (K (.tuple ⟨[]⟩))):T W (ML p m mb mc kb kc R) (ij (ah p) (aN t) (aN u) fate K):=by
 unfold ij;have e1:aa.wrap (m.ay+1)=m.ay+1:=aX (by omega);apply ws;intros;rw[e1];refine kZ (b:=kb) (g:=bM) (l:=m.ax) (x:=⟨t,{u with ay:=m.ay+1,iE:=m.clock},fate⟩) (bR _) rfl rfl (by show(m.ax.length+1)* 264<=_;omega) (by show m.ax.length+1<=_;omega) (nj _) λb' c'=>?_;apply ws;have:=h b' c';unfold aA.mw ML ES at this;simp only[av,bE,cR,aB] at this;apply T.sub this;exact qo
end
section
variable {W:World} {L R:LH} {K:VK} {X:WK} {p r e:Nat} {A B:HP} {m:aA} {mb kb:OA} {mc kc:Nat}
def CN(e:Nat)(h:T W (own (ah r) 0 0 e []::L) X):T W (Sep.pt r []::L) X:=λw hs=>
 h w (St.CZ (k:=0) (L:=Sep.pt r []::L) (xs:=[]) (sp:=[]) (n:=0) (c:=0) (e:=e) (by simp) (by simp) (aI _) (by simp) hs)
def T.swap(h:T W (B::A::L) X):T W (A::B::L) X:=T.perm h (cf.swap _ _ _)
def T.TQ{C:HP}(h:T W (A::C::B::L) X):T W (A::B::C::L) X:=T.perm h ((cf.swap _ _ _).cons _)
def JZ(hm:m.cW.length<1000000)(hn:m.ax.length<1000000)
 (h:∀p2 mb2 mc2 Z2 kc2,T W (ML p2 m mb2 mc2 Z2 kc2 (ML p m mb mc kb kc R)) (K (.p (ah p2)))):T W (ML p m mb mc kb kc R) (ik (ah p) K):=by
 unfold ik
 repeat' first|apply ws;intros|apply wb
 ·rename_i r1;refine CN 14 ?_;refine sw (l0:=([]:List bP)) (l1:=m.cW) jT rfl (by omega) iV λb2 c2=>?_;rw[aB,cQ];apply ws;intros;refine CN 33 ?_;refine sw (l0:=([]:List cr)) (l1:=m.ax) jB rfl (by omega) nj λb3 c3=>?_;rw[aB,cQ];apply ws;intros;exact T.TQ (h _ _ _ _ _)
 ·rename_i r1 r4;refine T.swap ?_;refine CN 14 ?_;refine sw (l0:=([]:List bP)) (l1:=m.cW) jT rfl (by omega) iV λb2 c2=>?_;rw[aB,cQ];refine T.swap ?_;apply ws;refine CN 33 ?_;refine sw (l0:=([]:List cr)) (l1:=m.ax) jB rfl (by omega) nj λb3 c3=>?_;rw[aB,cQ];apply ws;intros;exact T.TQ (h _ _ _ _ _)
 ·rename_i r6 r7;refine CN 14 ?_;refine sw (l0:=([]:List bP)) (l1:=m.cW) jT rfl (by omega) iV λb2 c2=>?_;rw[aB,cQ];refine T.swap ?_;apply ws;refine CN 33 ?_;refine sw (l0:=([]:List cr)) (l1:=m.ax) jB rfl (by omega) nj λb3 c3=>?_;rw[aB,cQ];apply ws;intros;exact T.TQ (h _ _ _ _ _)
end
section
variable {W:World} {L R:LH} {K:VK} {X:WK} {p r e:Nat} {a:bP} {m:aA} {mb kb:OA} {mc kc:Nat}
def Wi{ks:List cr}(hl:ks.length=m.ax.length)(h:T W (ML p {m with ax:=ks} mb mc kb kc R) X):T W (Sep.pt p (ES m mb mc kb kc)::own mb m.cW.length mc 14 (m.cW.flatMap aO)::own kb m.ax.length kc 33 (ks.flatMap bM)::R) X:=by
 unfold ML ES at h;rw[hl] at h;exact h
def Rn{Y9 i id:Nat}{x:cr}(hm:m.cW.length<1000000)(hn:m.ax.length<1000000)(gx:m.ax[Y9]?=some x)(hi:Gx (λx:bP=>decide (x.id=id)) m.cW=(i:Int))(hx:m.cW[i]?=some a)(ha:Nb a)(hk:∀k∈m.ax,RkK k)
 (h:T W (ML p m mb mc kb kc R) (K (.b (decide (8<=((m.ax.set Y9 {x with fate:=3}).foldl ya a).aq))))):T W (ML p m mb mc kb kc R) (gL (ah p) (nm id) (Y9:Int) K):=by
 unfold gL;have hbl:=(ar.1 gx).1;have UW:RkK x:=hk x (cD gx);apply ws;intros;rename_i r1;refine T.perm (L:=ML p m mb mc kb kc (Sep.pt r1 (nm id)::R)) ?_ (bG (l₁:=[Sep.pt r1 (nm id)]) (l₂:=[_,_,_])|>.append_right R);refine JZ hm hn λp2 mb2 mc2 Z2 kc2=>?_;apply ws;refine dS (b:=Z2) ⟨by omega,by omega⟩ λrb hb=>?_;rw[ak];subst hb;apply Pp;refine Fw (o:=Y9) (x:=x) (y:={x with fate:=3}) jB gx rfl (by decide) rfl ?_;apply ws;refine Wi (ks:=m.ax.set Y9 {x with fate:=3}) je ?_;apply yb (m:={m with ax:=m.ax.set Y9 {x with fate:=3}}) hm;rw[hi];apply ws;refine EG (m:={m with ax:=m.ax.set Y9 {x with fate:=3}}) (by rw[je];exact hn) hx ha (λk td=>?_) ?_
 ·rcases fq td with hh|hh
  ·exact hk k hh
  ·subst hh;exact UW
 apply ws;intro w hw;refine⟨_,rfl,?_⟩
 revert w hw
 show T W _ _;apply ws;apply T.sub h;exact qo
end
section
variable {W:World} {L R:LH} {K:VK} {X:WK} {t u:cH}
def Rs(h:T W L (K (.agg ⟨nm (bO-1)⟩))):T W L (oM K):=by
 unfold oM;apply ws;intros;exact T.dp h
def F9(ht:0<=t.aq/\t.aq<1000000)(hu:0<=u.aq/\u.aq<1000000)(h:T W L (K (.i (tK t u)))):T W L (lQ (aN t) (aN u) K):=by
 unfold lQ;unfold tK at h
 repeat' first|apply ws;intros|apply wb|with_reducible refine dU (by decide) ?_
 rw[Ao ht.1 ht.2 (by decide)]
 repeat' first|apply ws|apply wb|with_reducible refine dU (by decide) ?_
 rw[Ao hu.1 hu.2 (by decide)]
 repeat' first|apply ws|apply wb|refine ZK ?_
 apply ga<;>intro g1
 ·rw[ai g1] at h;exact T.dp h
 ·rw[ag g1] at h;exact T.dp h
end
def PC{m j:Nat}(hj:j<=64):shr .u64 (m:Int) (j:Int)=((m/2^j:Nat):Int):=by
 unfold shr;rw[ak,show min j IntKind.u64.bits=j from rE hj,Hs _ (by exact Int.le_of_lt (Int.pow_pos (by decide)))];rw[show((2:Int)^j)=((2^j:Nat):Int) by push_cast;rfl];exact(Int.natCast_ediv _ _).symm
def QL(m:Nat):aa.wrap (((m:Nat):Int).tmod (2:Int))=((m%2:Nat):Int):=by
 rw[gX (by omega)];rw[aX (by omega)];omega
section
variable {W:World} {L R:LH} {K:VK} {X:WK}
def uk{n j:Nat}(hn:n<bO)(hj:j<128)(h:T W L (K (.i ((n/2^j%2:Nat):Int)))):T W L (fX (nm n) (j:Int) K):=by
 unfold fX;unfold nm;apply ws;intros;apply ga<;>intro g1
 ·obtain⟨i,rfl⟩:∃i:Nat,j=64+i:=⟨j-64,by omega⟩;have e1:aa.wrap (((64+i:Nat):Int) -64)=(i:Int):=by rw[aX (by omega)];omega
  have e2:IntKind.u64.wrap (i:Int)=(i:Int):=by rw[Go.Up.te];omega
  rw[e1,e2];apply ws;apply dU (by omega);apply dU (by decide);rw[PC (by omega),QL];have e3:n/2^(64+i)=n/18446744073709551616/2^i:=by rw[Nat.div_div_eq_div_mul,Nat.pow_add]
  rw[e3] at h;exact T.dp h
 ·have e2:IntKind.u64.wrap (j:Int)=(j:Int):=by rw[Go.Up.te];omega
  rw[e2];apply ws;apply dU (by omega);apply dU (by decide);rw[PC (by omega),QL];have e3:n%18446744073709551616/2^j%2=n/2^j%2:=by
   rw[show(18446744073709551616:Nat)=2^j* 2^(64-j) by rw[<-Nat.pow_add,show j+(64-j)=64 by omega],Nat.mod_mul_right_div_self];exact Nat.mod_mod_of_dvd _ ⟨2^(63-j),by rw[show 64-j=1+(63-j) by omega,Nat.pow_add]⟩
  rw[e3];exact T.dp h
end
def Cp(a i:Nat):a/2^i/2=a/2^(i+1):=by rw[Nat.div_div_eq_div_mul,Av]
def UF{a b i:Nat}(h:a/2^(i+1)=b/2^(i+1))(kJ:a/2^i%2≠b/2^i%2):decide (((a/2^i%2:Nat):Int)<((b/2^i%2:Nat):Int))=decide (a<b):=by
 rw[<-Cp,<-Cp] at h;rw[decide_eq_decide]
 constructor
 ·intro hl;have:a/2^i<b/2^i:=by omega
  exact Nat.lt_of_not_le λhh=>aT (Nat.div_le_div_right (c:=2^i) hh) (by omega)
 ·intro hl;have:=Nat.div_le_div_right (c:=2^i) (Nat.le_of_lt hl);omega
section
variable {W:World} {L R:LH} {K:VK} {X:WK}
def Ac{a b:Nat}(ha:a<bO)(hb:b<bO)(h:T W L (K (.b (decide (a<b))))):T W L (jd (nm a) (nm b) K):=by
 unfold jd;apply ws;intros;rename_i r1 r2;intro w jS;refine⟨λvv w=>∃j:Nat,j<=128/\a/2^j=b/2^j/\vv=[.p (some (ad r1 0)),.p (some (ad r2 0)),.b false,.i ((j:Int) -1)]/\St W w (Sep.pt r2 (nm b)::Sep.pt r1 (nm a)::L),
  λvs _=>match vs with|[_,_,_,.int _ d]=>(d+1).toNat|_=>0,⟨128,aI _,by rw[Nat.div_eq_of_lt (show a<2^128 from ha),Nat.div_eq_of_lt (show b<2^128 from hb)],rfl,jS⟩,?_⟩
 rintro a1 a2 b1 n1 w2 ⟨j,hj,heq,e,ib⟩;cases e
 refine T.at ?_ ib;apply ga<;>intro g1
 ·obtain⟨i,rfl⟩:∃i:Nat,j=i+1:=⟨j-1,by omega⟩;have e1:(((i+1:Nat):Int) -1)=(i:Int):=by omega
  have e2:aa.wrap ((i:Int) -1)=(i:Int) -1:=aX (by omega);rw[e1,e2];apply ws;apply uk ha (by omega);apply ws;apply uk hb (by omega);apply ws;apply dz<;>intro g2
  ·have g2:a/2^i%2≠b/2^i%2:=λhh=>by rw[hh] at g2;simp at g2
   apply ws;apply uk ha (by omega);apply ws;apply uk hb (by omega);apply ws;rw[UF heq g2];exact T.dp h
  ·have g2:a/2^i%2=b/2^i%2:=by
    have: ¬((a/2^i%2:Nat):Int)≠((b/2^i%2:Nat):Int):=λhh=>by rw[fM.2 hh] at g2;cases g2
    omega
   exact λw3 h3=>⟨⟨i,by omega,by have h1:=Cp a i;have h2:=Cp b i;omega,rfl,h3⟩,by show((i:Int) -1+1).toNat<((i:Int)+1).toNat;omega⟩
 ·have hz:j=0:=by omega
  subst hz;rw[Nat.pow_zero,Nat.div_one,Nat.div_one] at heq;rw[ao (by omega)] at h;exact T.dp h
end
section
variable {W:World} {L R:LH} {K:VK} {X:WK}
def F4{a b:Nat}(ha:a<bO)(hb:b<bO)(h:T W L (K (.agg ⟨nm (if a<b then a else b)⟩))):T W L (lN (nm a) (nm b) K):=by
 unfold lN;apply ws;intros;apply Ac ha hb;by_cases g1:a<b
 ·rw[ai g1] at h;rw[aw g1];apply ws;exact T.dp h
 ·rw[ag g1] at h;rw[ao g1];apply ws;exact T.dp h
end
section
variable {W:World} {L R:LH} {K:VK} {X:WK} {t:cH}
def HG(ht:0<=t.aq/\t.aq<1000000)(h:T W L (K (.b (decide (jo t.aq))))):T W L (bS (aN t) K):=by
 have he:jo t.aq↔ ¬(has t.aq 2/\has t.aq 4\/has t.aq 2/\has t.aq 8\/has t.aq 4/\has t.aq 8)/\ ¬((has t.aq 4\/has t.aq 8)/\16<=t.aq)/\(t.aq<64\/has t.aq 2):=Iff.rfl;obtain⟨b2,h2⟩:∃b,b=decide (has t.aq 2):=⟨_,rfl⟩;obtain⟨b4,h4⟩:∃b,b=decide (has t.aq 4):=⟨_,rfl⟩;obtain⟨b8,h8⟩:∃b,b=decide (has t.aq 8):=⟨_,rfl⟩;have H2:∀{L':LH} {K':VK},T W L' (K' (.b b2))->T W L' (bZ (aN t) 2 K'):=λhh=>lH ht (by decide) (by rw[<-h2];exact hh);have H4:∀{L':LH} {K':VK},T W L' (K' (.b b4))->T W L' (bZ (aN t) 4 K'):=λhh=>lH ht (by decide) (by rw[<-h4];exact hh);have H8:∀{L':LH} {K':VK},T W L' (K' (.b b8))->T W L' (bZ (aN t) 8 K'):=λhh=>lH ht (by decide) (by rw[<-h8];exact hh);have hE:∀{L':LH} {K':VK},T W L' (K' (.b (b4||b8)))->T W L' (gU (aN t) K'):=λ{L'} {K'} hh=>xi ht (by
  have e:decide (jZ t.aq)=(b4||b8):=by rw[h4,h8];exact Bool.decide_or (has t.aq 4) (has t.aq 8)
  rw[e];exact hh)
 unfold bS bS.j3 bS.j4 bS.j1 bS.j2;have h2:=h2.symm;have h4:=h4.symm;have h8:=h8.symm;cases b2<;>cases b4<;>cases b8<;>simp only[decide_eq_true_eq,decide_eq_false_iff_not] at h2 h4 h8<;>simp only[Bool.or_true,Bool.or_false,Bool.true_or,Bool.false_or] at hE
 all_goals
  repeat' first|apply ws;intros|apply wb|first|refine H2 ?_|refine H4 ?_|refine H8 ?_|refine hE ?_|apply dz<;>intro h1
 all_goals
  apply T.fin (T.dp h)
  congr 1
  clear H2 H4 H8 hE h
  (try simp only[decide_eq_true_eq,decide_eq_false_iff_not] at *)
  rw[cj,decide_eq_true_eq,he];simp only[h2,h4,h8,Bool.true_eq_false,cM,eq_self,true_and,and_true,false_and,and_false,or_true,or_false,true_or,false_or,not_true_eq_false,not_false_eq_true,true_iff,false_iff]
  try omega
end
def Ta(d:Nat):LV:=[.i (d:Int)]
def E3(d:Nat):(Ta d).length=1:=rfl
def wU:List Nat->Nat
 |[]=>0
 |d::l=>d* 10^l.length+wU l
def wv(l:List Nat):List UInt8:=l.map λd=>UInt8.ofNat (48+d)
def E2:∀(l:List Nat),(∀d∈l,d<10)->wU l<10^l.length
 |[],_=>by show 0<1;decide
 |d::l,h=>by
  have ih:=E2 l (λx hx=>h x (jV _ hx));have hd:=h d sX;have:d* 10^l.length<=9* 10^l.length:=iA _ (by omega);simp only[wU,bE,Av];omega
def MI:∀(l m:List Nat),(∀d∈l,d<10)->(∀d∈m,d<10)->l.length=m.length->wU l=wU m->l=m
 |[],m,_,_,hl,_=>by cases m with|nil=>rfl|cons a b=>simp at hl
 |d::l,[],_,_,hl,_=>by simp at hl
 |d::l,e::m,h1,h2,hl,hv=>by
  have WH:l.length=m.length:=by simpa using hl
  have a1:=E2 l (λx hx=>h1 x (jV _ hx));have a2:=E2 m (λx hx=>h2 x (jV _ hx));simp only[wU,WH] at hv a1;have hp:0<10^m.length:=Nat.pow_pos (by decide);have hde:d=e:=by
   have e1:(d* 10^m.length+wU l)/10^m.length=d:=by rw[wI,Nat.mul_add_div hp,Nat.div_eq_of_lt a1,gM]
   have e2:(e* 10^m.length+wU m)/10^m.length=e:=by rw[wI,Nat.mul_add_div hp,Nat.div_eq_of_lt a2,gM]
   rw[<-e1,hv,e2]
  subst hde;rw[MI l m (λx hx=>h1 x (jV _ hx)) (λx hx=>h2 x (jV _ hx)) WH (by omega)]
structure H9(a j:Nat)(l:List Nat):Prop where
 val:wU l=a/2^j
 small:∀d∈l,d<10
 norm:l.length=1\/10^(l.length-1)<=wU l
 len:1<=l.length/\l.length<=129-j
def H9.step{a j c:Nat}{l tl:List Nat}(h:H9 a (j+1) l)(hj:j<128)(hl:tl.length=l.length)(ht:∀d∈tl,d<10)(hc:c<=1)(he:2* wU l+a/2^j%2=c* 10^l.length+wU tl):
 (c=0->H9 a j tl)/\(0<c->H9 a j (c::tl)):=by
 have hv:=h.val;have h2:=Cp a j;have hle:=h.len;have e:2* wU l+a/2^j%2=a/2^j:=by rw[hv,<-h2];omega
 refine⟨λh0=>?_,λh0=>?_⟩
 ·subst h0;rw[Nat.zero_mul,aB] at he;refine⟨by rw[<-he,e],ht,?_,by rw[hl];omega⟩;rw[hl];rcases h.norm with hn|hn
  ·exact .inl hn
  ·exact .inr (by omega)
 ·have h1:c=1:=by omega
  subst h1;refine⟨by simp only[wU,hl];omega,λd hd=>?_,.inr ?_,by simp only[bE,hl];omega⟩
  ·rcases ka.1 hd with hd|hd
   ·omega
   ·exact ht d hd
  ·simp only[wU,bE,Nat.add_sub_cancel];omega
def H9.first{a:Nat}(ha:a<bO):H9 a 128 [0]:=⟨by rw[Nat.div_eq_of_lt (show a<2^128 from ha)];rfl,λd hd=>by simp at hd;omega,.inl rfl,by simp⟩
def Sn:List Nat:=[3,4,0,2,8,2,3,6,6,9,2,0,9,3,8,4,6,3,4,6,3,3,7,4,6,0,7,4,3,1,7,6,8,2,1,1,4,5,5]
def Jj:∀(l m:List Nat),(∀d∈l,d<10)->(∀d∈m,d<10)->wv l=wv m->l=m
 |[],[],_,_,_=>rfl
 |[],e::m,_,_,h=>by simp[wv] at h
 |d::l,[],_,_,h=>by simp[wv] at h
 |d::l,e::m,h1,h2,h=>by
  simp only[wv,dx,List.cons.injEq] at h;obtain⟨hd,ht⟩:=h;have b1:=h1 d sX;have b2:=h2 e sX;have:d=e:=by
   have:=congrArg UInt8.toNat hd;simp only[UInt8.toNat_ofNat'] at this;omega
  subst this;rw[Jj l m (λx hx=>h1 x (jV _ hx)) (λx hx=>h2 x (jV _ hx)) ht]
def H9.last{a:Nat}{l:List Nat}(h:H9 a 0 l):(wv l=wv Sn↔a=bO-1):=by
 have hv:wU l=a:=by have:=h.val;rwa[Nat.pow_zero,Nat.div_one] at this
 have hmx:∀d∈Sn,d<10:=by decide
 have uv:wU Sn=bO-1:=by decide+kernel
 constructor
 ·intro he;have:=Jj l Sn h.small hmx he;rw[<-hv,this,uv]
 ·intro he;have hlen:l.length=39:=by
   have h1:=E2 l h.small;rw[hv,he] at h1;rcases h.norm with hn|hn
   ·rw[hn] at h1;exact aT h1 (by decide)
   ·rw[hv,he] at hn;have a1:l.length-1<39:=Nat.lt_of_not_le λhh=>aT (wJ (gO (by decide) hh) hn) (by decide+kernel);have a2:38<l.length:=Nat.lt_of_not_le λhh=>aT (Nat.lt_of_lt_of_le h1 (gO (by decide) hh)) (by decide+kernel);have:=h.len;omega
  rw[MI l Sn h.small hmx hlen (by rw[hv,he,uv])]
section
variable {W:World} {L R:LH} {K:VK} {X:WK}
def Pq{r d:Nat}(h:T W (own (ah r) 1 1 1 ([d].flatMap Ta)::L) X):T W (Sep.pt r [.i (d:Int)]::L) X:=λw hs=>
 h w (St.CZ (k:=0) (L:=Sep.pt r [.i (d:Int)]::L) (xs:=[d].flatMap Ta) (sp:=[]) (n:=1) (c:=1) (e:=1) (by simp) (by simp[Ta]) (aI _) (by simp) hs)
def Ru{a:Nat}(ha:a<bO)(h:∀s:BA,nG s (⟨#[51,52,48,50,56,50,51,54,54,57,50,48,57,51,56,52,54,51,52,54,51,51,55,52,54,48,55,52,51,49,55,54,56,50,49,49,52,53,53]⟩:BA)=decide (a=bO-1)->T W L (K (.s s))):T W L (kB (nm a) K):=by
 unfold kB;apply ws;intros;rename_i r1 r2;refine Pq (d:=0) ?_;intro w jS;refine⟨λvv w=>∃(j:Nat)(l:List Nat)(b:OA)(c:Nat),j<=128/\H9 a j l/\vv=[.p (some (ad r1 0)),.s .empty,.l b l.length c,.i ((j:Int) -1)]/\St W w (own b l.length c 1 (l.flatMap Ta)::Sep.pt r1 (nm a)::L),
  λvs _=>match vs with|[_,_,_,.int _ d]=>(d+1).toNat|_=>0,⟨128,[0],_,_,aI _,H9.first ha,rfl,jS⟩,?_⟩
 rintro a1 s1 wc vw wN n1 w2 ⟨j,l,b,c,hj,hd,e,ib⟩;cases e
 refine T.at ?_ ib;apply ga<;>intro g1
 ·obtain⟨i,rfl⟩:∃i:Nat,j=i+1:=⟨j-1,by omega⟩;have e1:(((i+1:Nat):Int) -1)=(i:Int):=by omega
  have e2:aa.wrap ((i:Int) -1)=(i:Int) -1:=aX (by omega);have hlen:=hd.len;rw[e1];apply ws;apply uk ha (by omega);apply ws;rw[aX (show-9223372036854775808<=(l.length:Int) -1/\(l.length:Int) -1<=9223372036854775807 by omega)];have afG:a/2^i%2<=1:=by omega
  intro w3 vU;refine⟨λvv w=>∃(k cc:Nat)(tl:List Nat),k<=l.length/\tl.length=l.length-k/\(∀d∈tl,d<10)/\cc<=1/\2* wU (l.drop k)+a/2^i%2=cc* 10^(l.length-k)+wU tl/\
   vv=[.p (some (ad r1 0)),.s .empty,.l wc l.length wN,.i (i:Int),.i (cc:Int),.i ((k:Int) -1)]/\St W w (own wc l.length wN 1 ((l.take k++tl).flatMap Ta)::Sep.pt r1 (nm a)::L),
   λvs _=>match vs with|[_,_,_,_,_,.int _ d]=>(d+1).toNat|_=>0,⟨l.length,a/2^i%2,[],aI _,by simp,(λd hd=>by cases hd),afG,by rw[List.drop_length,kR];simp[wU],rfl,by rw[aV,bR];exact vU⟩,?_⟩
  rintro a2 s2 ov mo qf n3 n4 n5 w4 ⟨k,cc,tl,hk,Es,htd,U4,sJ,e,yR⟩;cases e
  refine T.at ?_ yR;apply ga<;>intro g2
  ·obtain⟨q,rfl⟩:∃q:Nat,k=q+1:=⟨k-1,by omega⟩;have e3:(((q+1:Nat):Int) -1)=(q:Int):=by omega
   rw[e3];have gx:=aj (show q<l.length by omega);have hdx:=hd.small _ (bF (show q<l.length by omega));have Mr:l.drop q=l[q]::l.drop (q+1):=gh (by omega);have yQ:l.take (q+1)=l.take q++[l[q]]:=by rw[bg,gx];rfl
   generalize l[q]=d at gx hdx Mr yQ;have hlq:(l.take q).length=q:=by rw[aD,rE (by omega)]
   have gy:(l.take (q+1)++tl)[q]?=some d:=by
    rw[yQ,aH,iN (by omega),hlq,kR];rfl
   refine dS (b:=wc) ⟨by omega,by omega⟩ λrb hb=>?_;rw[ak];subst hb;apply FB (g:=Ta) E3 gy rfl;apply kd;apply dU (by decide);refine dS (b:=some ⟨rb,0,none⟩) ⟨by omega,by omega⟩ λZU hb=>?_;rw[ak];cases hb
   have w1:aa.wrap (2* (d:Int))=2* (d:Int):=aX (by omega);have w2':aa.wrap (2* (d:Int)+(cc:Int))=((2* d+cc:Nat):Int):=by rw[aX (by omega)];omega
   have w3':((2* d+cc:Nat):Int).tmod 10=(((2* d+cc)%10:Nat):Int):=by rw[gX (by omega)];omega
   have w4':aa.wrap (((2* d+cc:Nat):Int).tdiv 10)=(((2* d+cc)/10:Nat):Int):=by rw[Int.tdiv_eq_ediv_of_nonneg (by omega),aX (by omega)];omega
   have w5':aa.wrap ((q:Int) -1)=(q:Int) -1:=aX (by omega);rw[w1,w2',w3',w4',w5'];apply Fw (o:=q) (j:=0) (x:=d) (y:=(2* d+cc)%10) (g:=Ta) E3 gy rfl (by decide) rfl;apply dU (by decide);have RT:(l.take (q+1)++tl).set q ((2* d+cc)%10)=l.take q++((2* d+cc)%10::tl):=by
    rw[yQ,aH,List.set_append_right _ _ (by omega),hlq,kR];rfl
   rw[RT];have Bu:(l.drop (q+1)).length=l.length-(q+1):=aS;intro w5 Qq;refine⟨⟨q,(2* d+cc)/10,(2* d+cc)%10::tl,by omega,by simp only[bE];omega,λx hx=>?_,by omega,?_,rfl,Qq⟩,by show((q:Int) -1+1).toNat<((q:Int)+1).toNat;omega⟩
   ·rcases ka.1 hx with hx|hx
    ·omega
    ·exact htd x hx
   ·rw[Mr];simp only[wU];rw[Es,Bu,show l.length-q=(l.length-(q+1))+1 by omega,Av];generalize 10^(l.length-(q+1))=P at sJ⊢;have:2* (d* P)+cc* P=(2* d+cc)/10* (P* 10)+(2* d+cc)%10* P:=by
     have hh:2* d+cc=(2* d+cc)/10* 10+(2* d+cc)%10:=by omega
     calc 2* (d* P)+cc* P=(2* d+cc)* P:=by rw[mG,Nat.mul_assoc]
      _=((2* d+cc)/10* 10+(2* d+cc)%10)* P:=by rw[<-hh]
      _=_:=by rw[mG,Nat.mul_assoc,wI 10 P]
    omega
  ·have hz:k=0:=by omega
   subst hz;rw[jf,Nat.sub_zero] at sJ;rw[Nat.sub_zero] at Es;rw[mR,cQ,e2];obtain⟨s0,s1⟩:=hd.step (by omega) Es htd U4 sJ;apply ga<;>intro g3
   ·have g3:0<cc:=by omega
    refine dU ⟨rfl,trivial⟩ ?_;refine uF λr3=>?_;refine Pq (d:=cc) ?_;rw[<-Es];refine sw (l0:=[cc]) (l1:=tl) E3 rfl (by omega) (λx v hv=>by simp[Ta] at hv;subst hv;rfl) λb2 c2=>?_;have hs:=s1 g3;refine T.sub (M:=own b2 (1+tl.length) c2 1 (([cc]++tl).flatMap Ta)::Sep.pt r1 (nm a)::L) ?_ (by repeat (first|exact bm.refl _|apply bm.cons_cons|apply bm.cons));rw[show 1+tl.length=(cc::tl).length by simp only[bE];omega];intro w6 hs6;exact⟨⟨i,cc::tl,b2,c2,by omega,hs,rfl,hs6⟩,by show((i:Int) -1+1).toNat<((i:Int)+1).toNat;omega⟩
   ·have hs:=s0 (by omega);rw[<-Es];intro w6 hs6;exact⟨⟨i,tl,_,_,by omega,hs,rfl,hs6⟩,by show((i:Int) -1+1).toNat<((i:Int)+1).toNat;omega⟩
 ·have hz:j=0:=by omega
  subst hz;have hlen:=hd.len;intro w3 vU;refine⟨λvv w=>∃k:Nat,k<=l.length/\vv=[.s .empty,.s (bs (wv (l.take k))),.l wc l.length wN,.i (l.length:Int),.i (k:Int)]/\St W w (own wc l.length wN 1 (l.flatMap Ta)::Sep.pt r1 (nm a)::L),
   mq 4 l.length,⟨0,aF _,rfl,vU⟩,?_⟩
  rintro s3 s4 uU uG uP n7 n8 w9 ⟨k,hk,e,hs9⟩;cases e
  refine T.at ?_ hs9;apply ga<;>intro g2
  ·have cn:k<l.length:=by omega
   have gx:=aj cn;have hdx:=hd.small _ (bF cn);have yQ:l.take (k+1)=l.take k++[l[k]]:=by rw[bg,gx];rfl
   generalize l[k]=d at gx hdx yQ;refine dS (b:=wc) ⟨by omega,by omega⟩ λrb hb=>?_;rw[ak];subst hb;apply FB (g:=Ta) E3 gx rfl;apply kd;apply dU ⟨rfl,trivial⟩;refine uF λr4=>?_;have e4:Value.int .u8 (IntKind.u8.wrap (aa.wrap (48+(d:Int))))=vZ (UInt8.ofNat (48+d)):=by
    have:=u2 (n:=((48+d:Nat):Int)) (by omega);rw[ak] at this;rw[this,aX (by omega)]
    congr 1
    have:((48+d:Nat):Int)=48+(d:Int):=by omega
    rw[this];unfold IntKind.wrap;simp[IntKind.signed,IntKind.bits];omega
   rw[e4];apply TN (l:=[UInt8.ofNat (48+d)]);have e5:bs (wv (l.take k))++bs [UInt8.ofNat (48+d)]=bs (wv (l.take (k+1))):=by rw[me,yQ];unfold wv;rw[cF];rfl
   have e6:=nI k;refine dU ?_ ?_
   ·rw[bV,bV];unfold wv;rw[bQ,aD,qt];omega
   rw[e5,e6];refine T.drop λw5 Qq=>⟨⟨k+1,cn,rfl,Qq⟩,dn (by omega)⟩
  ·have iZ:k=l.length:=by omega
   subst iZ;rw[aV];refine T.drop (T.drop (h _ ?_));rw[tB,decide_eq_decide,<-hd.last];exact Bj (a:=wv l) (b:=wv Sn)
end
section
variable {W:World} {L R:LH} {K:VK} {X Y:WK} {a:bP} {t:cH} {r1 r2:Nat}
def TA{n:Nat}(hn:n<bO)(h:T W L (br (decide (n=bO-1)) X Y)):T W L (kB (nm n) (xS λs1=>br (nG s1 (⟨#[51,52,48,50,56,50,51,54,54,57,50,48,57,51,56,52,54,51,52,54,51,51,55,52,54,48,55,52,51,49,55,54,56,50,49,49,52,53,53]⟩:BA)) X Y)):=
 Ru hn λs hs=>qz (by rw[hs];exact h)
def VC(a:bP):Int:=if a.dp≠0\/a.dq≠0\/a.cp≠0\/a.cq≠0\/a.ay≠0 then 7 else if a.bJ<=0\/4294967296<=a.bJ then 8 else if a.code<=0\/65536<=a.code then 9 else 0
def PX{b:Bool}(h:T W (Sep.pt r2 [.u 0,.u 0]::Sep.pt r1 (aO a)::L) (K (.i (if b=true then 6 else VC a)))):T W (Sep.pt r2 [.u 0,.u 0]::Sep.pt r1 (aO a)::L) (bB.j2 K r1 r2 b):=by
 unfold bB.j2 bB.j5 bB.j6 bB.j3 bB.j4;cases b with
 |true=>
  apply ws;exact h
 |false=>
  rw[ag (by decide)] at h
  repeat' first|apply ws|apply wb|apply dz<;>intro h1
  all_goals try simp only[bz] at *
  all_goals
   apply T.fin (T.dp h)
   congr 1
   unfold VC
   repeat' split
  all_goals omega
def N6(ha:yJ a)(h:T W L (K (.i (uM a)))):T W L (bB (aO a) K):=by
 unfold bB bB.j1;have e:uM a=if a.aq<0\/7<a.aq then 3 else if a.id=0 then 4 else if a.id=bO-1 then 5 else if has a.aq 2/\has a.aq 4 then 6 else VC a:=rfl
 rw[e] at h;by_cases hr:0<=a.aq/\a.aq<=7
 ·rw[ag (by omega)] at h;have hf:0<=a.aq/\a.aq<1000000:=by omega
  have e1:decide (a.aq<0)=false:=ao (by omega);have e2:decide (a.aq>7)=false:=ao (by omega);apply ws;intros;rw[e1];apply ws;rw[e2];apply ws;apply ga<;>intro h1
  ·rw[ai h1] at h;exact T.dp h
  rw[ag h1] at h;apply ws;apply TA ha.id;apply ga<;>intro h1
  ·rw[ai h1] at h;exact T.dp h
  rw[ag h1] at h
  repeat' first|apply ws|apply wb|refine LL hf (by decide) ?_
  apply ga<;>intro h1
  ·repeat' first|apply ws|apply wb|refine LL hf (by decide) ?_
   apply PX;apply T.fin (T.dp h)
   congr 1
   by_cases h4:has a.aq 4
   ·rw[ai (aw h4),ai ⟨h1,h4⟩]
   ·rw[ag (λhh=>h4 (aR hh)),ag (λhh=>h4 hh.2)]
  ·apply PX;rw[ag (λhh=>h1 hh.1)] at h;exact T.dp h
 ·rw[ai (by omega)] at h;apply ws;intros;apply ga<;>intro h1
  ·apply ws;exact T.dp h
  ·have e2:decide (a.aq>7)=true:=aw (by omega);apply ws;rw[e2];apply ws;exact T.dp h
def EH{n:Int}(h:T W (Sep.pt r2 [.u 0,.u 0]::Sep.pt r1 (aN t)::L) (K (.i (if t.bJ<n\/4294967296<=t.bJ then 8 else if t.code<n\/65536<=t.code then 9 else 0)))):T W (Sep.pt r2 [.u 0,.u 0]::Sep.pt r1 (aN t)::L) (aZ.j4 K r1 n):=by
 unfold aZ.j4 aZ.j5
 repeat' first|apply ws|apply wb|apply dz<;>intro h1
 all_goals try simp only[bz] at *
 all_goals
  apply T.fin (T.dp h)
  congr 1
  repeat' split
 all_goals omega
def EI{b:Bool}(hf:0<=t.aq/\t.aq<1000000)(h:T W (Sep.pt r2 [.u 0,.u 0]::Sep.pt r1 (aN t)::L) (K (.i (if b=true then 17 else if jZ t.aq then Sw t else Sv t)))):T W (Sep.pt r2 [.u 0,.u 0]::Sep.pt r1 (aN t)::L) (aZ.j3 K r1 r2 b):=by
 unfold aZ.j3;cases b with
 |true=>
  apply ws;exact h
 |false=>
  rw[ag (by decide)] at h
  repeat' first|apply ws|apply wb|refine xi hf ?_
  apply ga<;>intro h1
  ·rw[ai h1] at h;apply ws;unfold Sw at h;apply ga<;>intro h1
   ·rw[ai h1] at h;exact h
   ·rw[ag h1] at h;exact EH h
  ·rw[ag h1] at h;unfold Sv at h;apply ws;apply ga<;>intro h1
   ·rw[ai (h1)] at h;exact h
   rw[ag (h1)] at h;apply ws;apply ga<;>intro h1
   ·rw[ai (h1)] at h;exact h
   rw[ag (h1)] at h;apply ws;apply ga<;>intro h1
   ·rw[ai (h1)] at h;exact h
   rw[ag (h1)] at h;apply ws;by_cases h5:t.pending=0
   ·rw[ag (λhh=>hh h5)] at h;rw[aw h5];apply ws;apply ga<;>intro h1
    ·repeat' first|apply ws|apply wb|refine lH hf (by decide) ?_
     by_cases h6:has t.aq 16
     ·rw[aw h6];rw[ag (λhh=>hh.2.1 h6)] at h;apply ws;exact EH h
     ·rw[ao h6]
      repeat' first|apply ws|apply wb|refine lH hf (by decide) ?_
      by_cases h7:has t.aq 32
      ·rw[aw h7];rw[ag (λhh=>hh.2.2 h7)] at h;apply ws;exact EH h
      ·rw[ao h7];rw[ai ⟨h1,h6,h7⟩] at h;apply ws;exact h
    ·rw[ag (λhh=>h1 hh.1)] at h;exact EH h
   ·rw[ai h5] at h;rw[ao h5];apply ws;exact h
def AZ(ht:yF t)(h:T W L (K (.i (nL t)))):T W L (aZ (aN t) K):=by
 unfold aZ aZ.j1;have e:nL t=if t.aq<0\/255<t.aq then 3 else if t.id=0 then 4 else if t.id=bO-1 then 5 else if ¬jo t.aq then 6
  else if t.ay≠0\/t.iE≠0 then 7 else if t.cB<0\/1073741824<t.cB\/0<t.cB/\ ¬has t.aq 2 then 17 else if jZ t.aq then Sw t else Sv t:=rfl
 rw[e] at h;by_cases hr:0<=t.aq/\t.aq<=255
 ·rw[ag (by omega)] at h;have hf:0<=t.aq/\t.aq<1000000:=by omega
  have e1:decide (t.aq<0)=false:=ao (by omega);have e2:decide (t.aq>255)=false:=ao (by omega);apply ws;intros;rw[e1];apply ws;rw[e2];apply ws;apply ga<;>intro h1
  ·rw[ai h1] at h;exact T.dp h
  rw[ag h1] at h;apply ws;apply TA ht.id;apply ga<;>intro h1
  ·rw[ai h1] at h;exact T.dp h
  rw[ag h1] at h
  repeat' first|apply ws|apply wb|refine HG hf ?_
  by_cases h2:jo t.aq
  ·rw[ag (λhh=>hh h2)] at h;rw[aw h2];apply ws;unfold aZ.j2 aZ.j6;by_cases h3:t.ay≠0\/t.iE≠0
   ·rw[ai h3] at h;apply dz<;>intro h1
    ·apply ws;exact T.dp h
    ·have h1:t.ay=0:=by simpa using h1
     have e3:(t.iE !=0)=true:=by rw[fM];omega
     apply ws;rw[e3];apply ws;exact T.dp h
   ·rw[ag h3] at h;have e3:(t.ay !=0)=false:=by rw[bne_eq_false_iff_eq];omega
    have e4:(t.iE !=0)=false:=by rw[bne_eq_false_iff_eq];omega
    rw[e3];apply ws;rw[e4];apply ws;apply ga<;>intro h4
    ·rw[ai (.inl h4)] at h;apply ws;apply EI hf;exact T.dp h
    apply ws;apply ga<;>intro h5
    ·rw[ai (.inr (.inl h5))] at h;apply EI hf;exact T.dp h
    apply ws;apply ga<;>intro h6
    ·repeat' first|apply ws|apply wb|refine lH hf (by decide) ?_
     apply EI hf;by_cases h7:has t.aq 2
     ·rw[aw h7];rw[ag (by rintro(hh|hh|hh);exact h4 hh;exact h5 hh;exact hh.2 h7)] at h;exact T.dp h
     ·rw[ao h7];rw[ai (.inr (.inr ⟨h6,h7⟩))] at h;exact T.dp h
    ·apply EI hf;rw[ag (by rintro(hh|hh|hh);exact h4 hh;exact h5 hh;exact h6 hh.1)] at h;exact T.dp h
  ·rw[ai h2] at h;rw[ao h2];apply ws;exact T.dp h
 ·rw[ai (by omega)] at h;apply ws;intros;apply ga<;>intro h1
  ·apply ws;exact T.dp h
  ·have e2:decide (t.aq>255)=true:=aw (by omega);apply ws;rw[e2];apply ws;exact T.dp h
end
def PD{j:Nat}(hj:j<64):shl .u64 1 (j:Int)=((2^j:Nat):Int):=by
 unfold shl;have h1:2^j<2^64:=Nat.pow_lt_pow_right (by decide) hj;have h2:(2:Nat)^64=18446744073709551616:=by decide
 have h3:((2:Int)^j)=((2^j:Nat):Int):=by push_cast;rfl
 rw[ak,show min j IntKind.u64.bits=j from rE (Nat.le_of_lt hj),Go.Up.te,Int.one_mul,h3];generalize 2^j=P at h1;omega
def DO(a i:Nat):a%2^(i+1)=a%2^i+a/2^i%2* 2^i:=by
 rw[Av,Nat.mod_mul,wI (2^i)]
section
variable {W:World} {L R:LH} {K:VK} {X Y:WK} {a:bP} {t:cH} {r1 r2:Nat}
def Ua{n j:Nat}(hn:n<2^j)(hj:j<128)(h:T W L (K (.agg ⟨nm (n+2^j)⟩))):T W L (pJ (nm n) (j:Int) K):=by
 unfold pJ;unfold nm;apply ws;intros;apply ga<;>intro g1
 ·obtain⟨i,rfl⟩:∃i:Nat,j=64+i:=⟨j-64,by omega⟩;have e1:aa.wrap (((64+i:Nat):Int) -64)=(i:Int):=by rw[aX (by omega)];omega
  have e2:IntKind.u64.wrap (i:Int)=(i:Int):=by rw[Go.Up.te];omega
  rw[e1,e2,PD (by omega)];apply ws;apply dU (by omega);apply ws;have hp:2^(64+i)=18446744073709551616* 2^i:=by rw[Nat.pow_add]
  have hq:2^i<=2^63:=gO (by decide) (by omega);have Yd:(2:Nat)^63=9223372036854775808:=by decide
  have h1:n/18446744073709551616<2^i:=Nat.div_lt_of_lt_mul (by rw[<-hp];exact hn);have e3:IntKind.u64.wrap (((n/18446744073709551616:Nat):Int)+((2^i:Nat):Int))=(((n+2^(64+i))/18446744073709551616:Nat):Int):=by
   rw[Go.Up.te,hp,Nat.add_mul_div_left _ _ (by decide)];omega
  have e4:(n+2^(64+i))%18446744073709551616=n%18446744073709551616:=by rw[hp,Nat.add_mul_mod_self_left]
  unfold nm at h;rw[e4] at h;rw[e3];exact T.dp h
 ·have HN:j<64:=by omega
  have e2:IntKind.u64.wrap (j:Int)=(j:Int):=by rw[Go.Up.te];omega
  rw[e2,PD HN];apply ws;apply dU (by omega);apply ws;have hq:2^j<=2^63:=gO (by decide) (by omega);have Yd:(2:Nat)^63=9223372036854775808:=by decide
  have e3:IntKind.u64.wrap (((n%18446744073709551616:Nat):Int)+((2^j:Nat):Int))=(((n+2^j)%18446744073709551616:Nat):Int):=by
   rw[Go.Up.te];omega
  have e4:(n+2^j)/18446744073709551616=n/18446744073709551616:=by omega
  unfold nm at h;rw[e4] at h;rw[e3];exact T.dp h
def TT{a b i c out:Nat}(hv:out+b%2^i=a%2^i+c* 2^i)(c2 n2:Nat)(hn:(n2:Int)=((a/2^i%2:Nat):Int) -((b/2^i%2:Nat):Int) -(c:Int)+2* (c2:Int)):
 out+n2* 2^i+b%2^(i+1)=a%2^(i+1)+c2* 2^(i+1):=by
 rw[DO,DO,Av];have hh:n2+b/2^i%2+c=a/2^i%2+2* c2:=by omega
 have:=congrArg (·* 2^i) hh;simp only[mG] at this;rw[show c2* (2^i* 2)=2* c2* 2^i by rw[wI (2^i) 2,<-Nat.mul_assoc,wI c2 2]];omega
def LN{a b:Nat}(ha:a<bO)(hb:b<bO)(h:T W L (K (.tuple ⟨[.agg ⟨nm (a-b)⟩,.b (decide (b<=a))]⟩))):T W L (fW (nm a) (nm b) K):=by
 unfold fW fW.j1;apply ws;intros;apply Ac ha hb;apply ws;by_cases cn:a<b
 ·rw[show a-b=0 by omega,ao (by omega)] at h;rw[aw cn];apply ws;exact T.dp h
 ·rw[aw (by omega)] at h;rw[ao cn];apply ws;intros;rename_i r1 r2 r3 r4;intro w jS;refine⟨λvv w=>∃i c out:Nat,i<=128/\c<=1/\out<2^i/\out+b%2^i=a%2^i+c* 2^i/\vv=[.p (some (ad r1 0)),.p (some (ad r2 0)),.p (some (ad r3 0)),.b false,.p (some (ad r4 0)),.i (c:Int),.i (i:Int)]/\
     St W w (Sep.pt r4 (nm out)::Sep.pt r3 [.u 0,.u 0]::Sep.pt r2 (nm b)::Sep.pt r1 (nm a)::L),
   mq 6 128,⟨0,0,0,by omega,by omega,by decide,by rw[Nat.pow_zero];omega,rfl,jS⟩,?_⟩
  rintro a1 a2 a3 b2 a4 n1 n2 w2 ⟨i,c,out,hi,hc,vW,hv,e,ib⟩;cases e
  refine T.at ?_ ib;apply ga<;>intro g1
  ·have vE:i<128:=by omega
   apply ws;apply uk ha vE;apply ws;apply uk hb vE;apply ws;have WS:a/2^i%2<=1:=by omega
   have hbb:b/2^i%2<=1:=by omega
   have e1:aa.wrap (aa.wrap (((a/2^i%2:Nat):Int) -((b/2^i%2:Nat):Int)) -(c:Int))=((a/2^i%2:Nat):Int) -((b/2^i%2:Nat):Int) -(c:Int):=by
    rw[aX (n:=((a/2^i%2:Nat):Int) -((b/2^i%2:Nat):Int)) (by omega),aX (by omega)]
   have e5:=nI i;rw[e1,e5];have hp:2^(i+1)=2* 2^i:=by rw[Av,wI]
   have key:∀(c2 n2:Nat),c2<=1->n2<=1->(n2:Int)=((a/2^i%2:Nat):Int) -((b/2^i%2:Nat):Int) -(c:Int)+2* (c2:Int)->
    T W (Sep.pt r4 (nm out)::Sep.pt r3 [.u 0,.u 0]::Sep.pt r2 (nm b)::Sep.pt r1 (nm a)::L) (fW.j1 K (ad r4 0) (i:Int) (λvv w=>∃i c out:Nat,i<=128/\c<=1/\out<2^i/\out+b%2^i=a%2^i+c* 2^i/\vv=[.p (some (ad r1 0)),.p (some (ad r2 0)),.p (some (ad r3 0)),.b false,.p (some (ad r4 0)),.i (c:Int),.i (i:Int)]/\
    St W w (Sep.pt r4 (nm out)::Sep.pt r3 [.u 0,.u 0]::Sep.pt r2 (nm b)::Sep.pt r1 (nm a)::L)) (ad r1 0) (ad r2 0) (ad r3 0) false (mq 6 128) (c:Int) w2 (c2:Int) (n2:Int)):=λc2 n2 Ow hn2 hn=>by
    unfold fW.j1;rw[e5];have tr:=TT hv c2 n2 hn;apply dz<;>intro g2
    ·have g2:n2=1:=by have:(n2:Int)=1:=by simpa using g2
                      omega
     subst g2;rw[Nat.one_mul] at tr;apply ws;apply Ua vW vE;apply Eg (by rfl);apply ws;exact λw3 h3=>⟨⟨i+1,c2,out+2^i,vE,Ow,by omega,tr,rfl,h3⟩,dn (by omega)⟩
    ·have g2:n2=0:=by have: ¬(n2:Int)=1:=by simpa using g2
                      omega
     subst g2;rw[Nat.zero_mul,gM] at tr;exact λw3 h3=>⟨⟨i+1,c2,out,vE,Ow,by omega,tr,rfl,h3⟩,dn (by omega)⟩
   unfold fW.j1 at key;rw[e5] at key;apply ga<;>intro g2
   ·rw[aX (by omega)];obtain⟨n2,hn2⟩:=bh (show 0<=((a/2^i%2:Nat):Int) -((b/2^i%2:Nat):Int) -(c:Int)+2 by omega);rw[hn2];exact key 1 n2 (by omega) (by omega) (by omega)
   ·obtain⟨n2,hn2⟩:=bh (show 0<=((a/2^i%2:Nat):Int) -((b/2^i%2:Nat):Int) -(c:Int) by omega);rw[hn2];exact key 0 n2 (by omega) (by omega) (by omega)
  ·have iZ:i=128:=by omega
   subst iZ;rw[fG (show a<2^128 from ha),fG (show b<2^128 from hb)] at hv;have hh:out=a-b:=by
    have:c=0:=by
     rcases Nat.eq_zero_or_pos c with hz|hz
     ·exact hz
     ·have:c=1:=by omega
      subst this;omega
    subst this;omega
   rw[hh];apply ws;exact T.dp h
def F8{r3 r4 r5:Nat}{x y z:Nat}(hx:x<bO)(hy:y<bO)(hz:z<bO)(h:T W L (K (.agg ⟨nm (x-(y+z))⟩))):T W (Sep.pt r5 (nm z)::Sep.pt r4 (nm y)::Sep.pt r3 (nm x)::Sep.pt r2 [.u 0,.u 0]::L) (dF.j1 K r4 r5 r3 r2):=by
 unfold dF.j1 dF.j2;apply ws;apply u5 hy hz;unfold add;by_cases hs:y+z<bO
 ·rw[ai hs,aw hs];apply ws;intros;apply LN hx hs;apply ws;intros;exact T.dp h
 ·rw[ag hs,ao hs];apply ws;intros;apply Rs;apply ws;refine LN hx (by unfold bO;decide) ?_;apply ws;intros;rw[show x-(bO-1)=x-(y+z) by omega];exact T.dp h
def CY{p:Bool}(ha:a.dp<bO/\a.dq<bO/\a.cp<bO/\a.cq<bO)(h:T W L (K (.agg ⟨nm (ja a p)⟩))):T W L (dF (aO a) p K):=by
 obtain⟨h1,h2,h3,h4⟩:=ha;unfold dF;apply ws;intros;cases p with
 |true=>
  apply ws;apply F8 h4 h1 h2;exact T.dp h
 |false=>
  apply ws;apply F8 h2 h3 h4;exact T.dp h
end
def FJ(a:bP)(d:Bool):Nat:=if d then a.dp else a.cp
def FI(a:bP)(d:Bool):Nat:=if d then a.dq else a.cq
def PY(a:bP)(d:Bool)(x y:Nat):bP:=if d then{a with dp:=x,dq:=y} else{a with cp:=x,cq:=y}
def Io(d:Bool):Int:=if d then 2 else 4
def XZ(a:bP)(d:Bool)(n:Nat)(p:Bool):more a d n p=
 if bO<=FJ a d+FI a d+n then(a,32) else if has a.aq (Io d)/\ja a d<n then(a,if d then 33 else 34)
 else(PY a d (if p then FJ a d+n else FJ a d) (if p then FI a d else FI a d+n),0):=by
 cases d<;>cases p<;>rfl
section
variable {W:World} {L R:LH} {K:VK} {X Y:WK} {a:bP} {t:cH} {r1 r2 r3 r4 r5:Nat}
def F5{d:Bool}{x y n:Nat}(h:T W L (K (.tuple ⟨[.agg ⟨aO (PY a d x y)⟩,.i 0]⟩))):T W (Sep.pt r5 (nm y)::Sep.pt r4 (nm x)::Sep.pt r3 (aO zA)::Sep.pt r2 (nm n)::Sep.pt r1 (aO a)::L) (cm.j4 K d r4 r1 r5 r3):=by
 unfold cm.j4;unfold PY at h;cases d with
 |true=>
  apply ws;exact T.dp h
 |false=>
  apply ws;exact T.dp h
def F6{d p b:Bool}{x y n:Nat}(hx:x<bO)(hy:y<bO)(hn:n<bO)(hs:x+y+n<bO)
 (h:T W L (K (.tuple ⟨[.agg ⟨aO (if b=true then a else PY a d (if p then x+n else x) (if p then y else y+n))⟩,.i (if b=true then(if d then 33 else 34) else 0)]⟩))):
 T W (Sep.pt r5 (nm y)::Sep.pt r4 (nm x)::Sep.pt r3 (aO zA)::Sep.pt r2 (nm n)::Sep.pt r1 (aO a)::L) (cm.j3 K d r1 r3 p r4 r2 r5 b):=by
 unfold cm.j3;cases b with
 |true=>
  rw[ai rfl,ai rfl] at h;cases d with
  |true=>
   apply ws;exact T.dp h
  |false=>
   apply ws;exact T.dp h
 |false=>
  rw[ag cO,ag cO] at h;cases p with
  |true=>
   have e:add x n=x+n:=ai (by omega);apply ws;apply u5 hx hn;rw[e];apply ws;exact F5 h
  |false=>
   have e:add y n=y+n:=ai (by omega);apply ws;apply u5 hy hn;rw[e];apply ws;exact F5 h
def F7{d p:Bool}{n:Nat}(ha:a.dp<bO/\a.dq<bO/\a.cp<bO/\a.cq<bO)(hn:n<bO)(hf:0<=a.aq/\a.aq<256)(h:T W L (K (.tuple ⟨[.agg ⟨aO (more a d n p).1⟩,.i (more a d n p).2]⟩))):
 T W (Sep.pt r5 (nm (FI a d))::Sep.pt r4 (nm (FJ a d))::Sep.pt r3 (aO zA)::Sep.pt r2 (nm n)::Sep.pt r1 (aO a)::L) (cm.j1 K r4 r5 r2 r1 r3 d p (Io d)):=by
 unfold cm.j1 cm.j2;have hx:FJ a d<bO:=by unfold FJ;split<;>omega
 have hy:FI a d<bO:=by unfold FI;split<;>omega
 have hand:dj .i64 .and a.aq (Io d)=0↔ ¬has a.aq (Io d):=by
  cases d
  ·exact MY hf.1 hf.2
  ·exact MZ hf.1 hf.2
 rw[XZ] at h;generalize hX:FJ a d=x at *;generalize hY:FI a d=y at *;apply ws;apply u5 hx hy;apply ws;intros;apply u5 (Hb _ _) hn;apply ws;intros;by_cases hs:x+y<bO
 ·rw[aw hs];have e:add x y=x+y:=ai hs;rw[e];apply ws;by_cases ib:x+y+n<bO
  ·rw[ag (by omega)] at h;rw[aw ib];apply ws;apply dz<;>intro g1
   ·have g1:has a.aq (Io d):=Decidable.byContradiction λhh=>by rw[hand.2 hh] at g1;simp at g1
    apply ws;apply CY ha;apply ws;refine Ac ?_ hn ?_
    ·unfold ja;split<;>omega
    apply ws;rename_i r6 r7;refine T.drop (T.drop (F6 hx hy hn ib ?_));by_cases hl:ja a d<n
    ·rw[ai ⟨g1,hl⟩] at h;rw[ai (aw hl),ai (aw hl)];exact h
    ·rw[ag (λhh=>hl hh.2)] at h;rw[ag (λhh=>hl (aR hh)),ag (λhh=>hl (aR hh))];exact h
   ·have g1: ¬has a.aq (Io d):=hand.1 (by simpa using g1);rw[ag (λhh=>g1 hh.1)] at h;exact T.drop (T.drop (F6 hx hy hn ib (by rw[ag cO,ag cO];exact h)))
  ·rw[ai (by omega)] at h;rw[ao ib];apply ws;exact T.dp h
 ·rw[ai (by omega)] at h;rw[ao hs];apply ws;exact T.dp h
def IB{d p:Bool}{n:Nat}(ha:a.dp<bO/\a.dq<bO/\a.cp<bO/\a.cq<bO)(hn:n<bO)(hf:0<=a.aq/\a.aq<256)(h:T W L (K (.tuple ⟨[.agg ⟨aO (more a d n p).1⟩,.i (more a d n p).2]⟩))):T W L (cm (aO a) d (nm n) p K):=by
 unfold cm;apply ws;intros;cases d with
 |true=>
  apply ws;exact F7 (d:=true) ha hn hf h
 |false=>
  apply ws;exact F7 (d:=false) ha hn hf h
end
structure KM(k:cr):Prop where
 asked:yF k.asked
 move:yF k.move
 vQ:0<=k.asked.aq/\k.asked.aq<256
 xk:0<=k.move.aq/\k.move.aq<256
 cB:0<=k.move.cB/\k.move.cB<=1073741824
 iE:0<=k.move.iE/\k.move.iE<=1099511627776
structure RM(m:aA):Prop where
 ground:Md.bW m
 clock:0<=m.clock/\m.clock<=1099511627776
 ay:m.ay=m.cW.length+m.ax.length
 cW:∀a∈m.cW,yJ a
 ax:∀k∈m.ax,KM k
def RM.EK{m:aA}(hg:eB (bo m))(oB:Md.bW m):RM m:=by
 refine⟨oB,hg.clock,?_,λa ha=>?_,λk hk=>?_⟩
 ·have:=hg.ay;unfold bo at this;simpa using this
 ·have h1:=(hg.Tc (Md.full m.ax a) (List.mem_map_of_mem ha)).ok;obtain⟨z1,z2,z3,z4,z5,z6⟩:=oB.zero a ha;exact⟨h1.id,by rw[z1];decide,by rw[z2];decide,by rw[z3];decide,by rw[z4];decide,h1.bJ,h1.code,⟨by omega,by omega⟩,h1.ay⟩
 ·have h1:=hg.SR k hk;exact⟨h1.asked,h1.move,h1.vQ,h1.xk,h1.cB,h1.iE⟩
def RM.rkA{m:aA}(h:RM m):∀a∈m.cW,Nb a:=λa ha=>by
 obtain⟨z1,z2,z3,z4,z5,z6⟩:=h.ground.zero a ha;have:(0:Nat)<bO:=by decide
 exact⟨by omega,by omega,by omega,by omega,by omega,by omega⟩
def RM.rkK{m:aA}(h:RM m):∀k∈m.ax,RkK k:=λk hk=>by
 have h1:=h.ax k hk;exact⟨h1.move.a8,h1.xk.1,by have:=h1.xk.2;omega⟩
def RM.oJ{m:aA}(h:RM m):m.cW.length<=32:=h.ground.oJ
def RM.many{m:aA}(h:RM m):m.ax.length<=96:=h.ground.some_
def Jq{a:bP}(h:uM a=0):0<=a.aq/\a.aq<=7:=by
 unfold uM at h;by_cases h1:a.aq<0\/7<a.aq
 ·rw[ai h1] at h;omega
 ·omega
def xD{t:cH}(h:nL t=0):(0<=t.aq/\t.aq<=255)/\0<=t.cB/\t.cB<=1073741824:=by
 unfold nL at h;by_cases h1:t.aq<0\/255<t.aq
 ·rw[ai h1] at h;omega
 rw[ag h1] at h;by_cases h2:t.id=0
 ·rw[ai h2] at h;omega
 rw[ag h2] at h;by_cases h3:t.id=bO-1
 ·rw[ai h3] at h;omega
 rw[ag h3] at h;by_cases h4: ¬jo t.aq
 ·rw[ai h4] at h;omega
 rw[ag h4] at h;by_cases h5:t.ay≠0\/t.iE≠0
 ·rw[ai h5] at h;omega
 rw[ag h5] at h;by_cases h6:t.cB<0\/1073741824<t.cB\/0<t.cB/\ ¬has t.aq 2
 ·rw[ai h6] at h;omega
 ·omega
def Za{m:aA}(hg:Md.bW m)(a:bP):Md.bW (m.make a).2:=((qU m).make hg).2.2
def Y'{m:aA}(hg:Md.bW m)(t:cH):Md.bW (m.move t).2:=((qU m).move hg).2.2
def Zb{m:aA}(hg:Md.bW m)(t:cH):Md.bW (m.pE t).2:=((qU m).pE hg).2.2
def RM.make{m:aA}{a:bP}(h:RM m)(ha:yJ a):RM (m.make a).2:=by
 have oB:=Za h.ground a;have e:(m.make a).2=m\/(uM a=0/\(m.make a).2={m with ay:=m.ay+1,cW:=m.cW++[{a with ay:=m.ay+1,aq:=a.aq/2* 2}]}):=by
  unfold aA.make;by_cases h1:uM a≠0
  ·rw[ai h1];exact .inl rfl
  ·rw[ag h1];split
   ·exact .inl rfl
   ·by_cases h2:32<=m.cW.length
    ·rw[ai h2];exact .inl rfl
    ·rw[ag h2];exact .inr ⟨by omega,rfl⟩
 rcases e with e|⟨hc,e⟩
 ·rw[e];exact h
 ·rw[e] at oB⊢;have hf:=Jq hc;have xu:=h.oJ;have xr:=h.many;have tr:=h.ay;refine⟨oB,h.clock,?_,λx hx=>?_,h.ax⟩
  ·show m.ay+1=((m.cW++[_]).length:Int)+(m.ax.length:Int);rw[av,qt];omega
  ·rcases dB.1 hx with hx|hx
   ·exact h.cW x hx
   ·cases(show x=_ by simpa using hx)
    exact⟨ha.id,ha.dp,ha.dq,ha.cp,ha.cq,ha.bJ,ha.code,⟨by show _<=a.aq/2* 2;omega,by show a.aq/2* 2<=_;omega⟩,⟨by show _<=m.ay+1;omega,by show m.ay+1<=_;omega⟩⟩
def RM.mw{m:aA}{t u:cH}{fate:Int}(h:RM m)(oB:Md.bW (m.mw t u fate))(hm:m.ax.length<96)(ht:yF t)(hu:yF u)(hf:0<=t.aq/\t.aq<256)(huf:u.aq=t.aq)(htm:0<=u.cB/\u.cB<=1073741824):RM (m.mw t u fate):=by
 have tr:=h.ay;have xu:=h.oJ;have hck:=h.clock;refine⟨oB,h.clock,?_,h.cW,λk hk=>?_⟩
 ·show m.ay+1=(m.cW.length:Int)+((m.ax++[_]).length:Int);rw[av,qt];omega
 ·rcases dB.1 hk with hk|hk
  ·exact h.ax k hk
  ·cases(show k=_ by simpa using hk)
   exact⟨ht,⟨hu.id,hu.bI,hu.aU,hu.a8,hu.pending,hu.cB,hu.bJ,hu.code,hu.aq,⟨by show _<=m.ay+1;omega,by show m.ay+1<=_;omega⟩,⟨by show _<=m.clock;omega,by show m.clock<=_;omega⟩⟩,hf,by show 0<=u.aq/\u.aq<256;omega,htm,h.clock⟩
def RM.fa{m:aA}(h:RM m)(i:Nat)(f:Int)(oB:Md.bW (m.fa i f)):RM (m.fa i f):=by
 refine⟨oB,h.clock,?_,h.cW,λk hk=>?_⟩
 ·show m.ay=(m.cW.length:Int)+((m.ax.modify i _).length:Int);rw[List.length_modify];exact h.ay
 ·have hk:k∈m.ax.modify i λk=>{k with fate:=f}:=hk;by_cases hi:i<m.ax.length
  ·rw[modify_eq _ _ _ hi] at hk;rcases fq hk with hh|hh
   ·exact h.ax k hh
   ·have:=h.ax _ (bF hi);subst hh;exact⟨this.asked,this.move,this.vQ,this.xk,this.cB,this.iE⟩
  ·have:m.ax.modify i (λk=>{k with fate:=f})=m.ax:=List.modify_eq_self (by omega);rw[this] at hk;exact h.ax k hk
def HI{t:cH}{named:Option cr}{d c:Option bP}{many:Nat}(h:(jI t named d c many).1=0):(jI t named d c many).2<bO:=by
 obtain⟨d',c',-,-,-,-,-,-,-,-,-,h1,-⟩:=wk h;omega
def RM.move{m:aA}{t:cH}(h:RM m)(ht:yF t):RM (m.move t).2:=by
 have oB:=Y' h.ground t;unfold aA.move at oB⊢;dsimp only at oB⊢;by_cases h1:(jI t (m.named t.id) ((m.find t.bI).map m.full) ((m.find t.aU).map m.full) m.ax.length).1≠0
 ·rw[ai h1];exact h
 ·rw[ag h1] at oB⊢;have h1:=bp.1 h1;have ham:=HI h1;obtain⟨d',c',-,-,-,hc,-,-,-,-,xr,-⟩:=wk h1;obtain⟨z1,z2⟩:=xD hc;exact h.mw oB xr ht ⟨ht.id,ht.bI,ht.aU,ham,ht.pending,ht.cB,ht.bJ,ht.code,ht.aq,ht.ay,ht.iE⟩ ⟨z1.1,by omega⟩ rfl z2
def RM.pE{m:aA}{t:cH}(h:RM m)(ht:yF t):RM (m.pE t).2:=by
 have oB:=Zb h.ground t;unfold aA.pE at oB⊢;cases hn:m.name t.pending with
 |none=>exact h
 |some i=>
  rw[hn] at oB;dsimp only at oB⊢;cases hk:m.ax[i]? with
  |none=>exact h
  |some k=>
   rw[hk] at oB;dsimp only at oB⊢;by_cases h1:oC t (m.named t.id) (some k) (m.closed k.move.bI i) (m.closed k.move.aU i) m.ax.length≠0
   ·rw[ai h1];exact h
   ·rw[ag h1] at oB⊢;have h1:=bp.1 h1;obtain⟨R6,hie⟩:=ar.1 hk;have pU:=cD hk;have hf:=h.ground.vH k pU;obtain⟨-,hc,he,hw,Yp,-,xr⟩:=Be h1 hf.1;obtain⟨z1,z2⟩:=xD hc;have Qu:=h.ax k pU;have aft:m.ax[i].fate=1:=by rw[hie];have:=hf.2.2.1 hw;omega
    have RT:=h.ground.fa R6 aft (f:=dP t) (by unfold dP;split<;>omega);refine(h.fa i (dP t) RT).mw oB (by show(m.ax.modify i _).length<96;rw[List.length_modify];exact xr) ht ?_ ⟨z1.1,by omega⟩ rfl z2;refine⟨ht.id,Qu.move.bI,Qu.move.aU,?_,ht.pending,ht.cB,Qu.move.bJ,Qu.move.code,ht.aq,ht.ay,ht.iE⟩;show dD t k.move<bO;unfold dD;split
    ·exact Qu.move.a8
    ·exact ht.a8
def RM.rI{m:aA}{t:cH}(h:RM m)(ht:yF t):RM (m.rI t).2:=by
 unfold aA.rI;split
 ·exact h.pE ht
 ·exact h.move ht
def RM.time{m:aA}(h:RM m)(now:Int)(h0:0<=now):RM (m.time now):=by
 refine⟨DA h.ground now,?_,?_,h.cW,λk hk=>?_⟩
 ·show 0<=(if m.clock<now/\now<=1099511627776 then now else m.clock)/\(if m.clock<now/\now<=1099511627776 then now else m.clock)<=1099511627776;have:=h.clock;split<;>omega
 ·show m.ay=(m.cW.length:Int)+((m.ax.map _).length:Int);rw[bQ];exact h.ay
 ·obtain⟨x,hx,rfl⟩:=cV.1 hk;have:=h.ax x hx;have hx':∀(p:Prop) [Decidable p],KM (if p then{x with fate:=4} else x):=λp _=>by
   by_cases hp:p
   ·rw[ai hp];exact⟨this.asked,this.move,this.vQ,this.xk,this.cB,this.iE⟩
   ·rw[ag hp];exact this
  exact hx' _
def se{α:Type}(P:α->Bool)(l:List α):(l.find? P=none/\l.findIdx? P=none/\Gx P l= -1)\/∃i x,l[i]?=some x/\P x=true/\l.find? P=some x/\l.findIdx? P=some i/\Gx P l=(i:Int):=by
 cases h:l.findIdx? P with
 |none=>
  left
  have h2:=List.findIdx?_eq_none_iff.1 h;refine⟨ql.2 λx hx=>by rw[h2 x hx];decide,rfl,?_⟩;unfold Gx;rw[h]
 |some i=>
  right
  obtain⟨hi,h1,h2⟩:=List.findIdx?_eq_some_iff_getElem.1 h;refine⟨i,l[i],aj hi,h1,?_,rfl,?_⟩
  ·rw[List.find?_eq_some_iff_getElem];exact⟨h1,i,hi,rfl,λj hj=>by simpa using h2 j hj⟩
  ·unfold Gx;rw[h]
section
variable {W:World} {L R:LH} {K:VK} {X:WK} {p:Nat} {m:aA} {mb kb:OA} {mc kc:Nat} {a:bP} {t:cH}
def T.SK{A:HP}(h:T W (ML p m mb mc kb kc (A::R)) X):T W (A::ML p m mb mc kb kc R) X:=
 T.perm h (bG (l₁:=[A]) (l₂:=[_,_,_])|>.append_right R)
def T.in1{A:HP}(h:T W (A::ML p m mb mc kb kc R) X):T W (ML p m mb mc kb kc (A::R)) X:=
 T.perm h (bG (l₁:=[_,_,_]) (l₂:=[A])|>.append_right R)
def XD(hm:RM m)(ha:yJ a)(h:∀rh q9,T W (ML p (m.make a).2 rh q9 kb kc R) (K (.i (m.make a).1))):T W (ML p m mb mc kb kc R) (kQ (ah p) (aO a) K):=by
 unfold kQ;have xu:=hm.oJ;have xr:=hm.many;have tr:=hm.ay;apply ws;intros;rename_i r1;apply N6 ha;apply ws;unfold aA.make at h;apply dz<;>intro g1
 ·have g1:uM a≠0:=by simpa using g1
  rw[ai g1] at h;have:=h mb mc;exact T.dp this
 have g1:uM a=0:=by simpa using g1
 rw[ag (λhh=>hh g1)] at h;have S6:=Jq g1;apply ws;apply T.SK;apply yb (by omega);apply ws;unfold aA.find at h;rcases se (λx:bP=>decide (x.id=a.id)) m.cW with⟨f1,f2,f3⟩|⟨i,x,f1,f2,f3,f4,f5⟩
 ·rw[f1] at h;dsimp only at h;rw[f3];apply ef (by decide);apply ws;apply ga<;>intro g2
  ·rw[ai (by omega)] at h;apply T.in1;exact T.drop (h mb mc)
  ·rw[ag (by omega)] at h;have e1:aa.wrap (m.ay+1)=m.ay+1:=aX (by omega);have e2:aa.wrap (aa.wrap (a.aq.tdiv 2)* 2)=a.aq/2* 2:=by rw[Ao S6.1 (by omega) (by decide),aX (by omega)]
   apply ws;rw[e1];apply dU (by decide);rw[e2];apply ws;intros;refine kZ (b:=mb) (g:=aO) (l:=m.cW) (x:={a with ay:=m.ay+1,aq:=a.aq/2* 2}) (bR _) rfl rfl (by show(m.cW.length+1)* 112<=_;omega) (by show m.cW.length+1<=_;omega) (iV _) λb' c'=>?_;apply ws;have:=h b' c';unfold ML ES at this;simp only[av,bE,cR,aB] at this;apply T.sub this;exact qo
 ·rw[f3] at h;dsimp only at h;rw[f5];have R6:=(ar.1 f1).1;have hz:=hm.ground.zero x (cD f1);apply ir (aw (by omega));apply ws;refine dS (b:=mb) ⟨by omega,by omega⟩ λrb hb=>?_;rw[ak];subst hb;apply gI jT f1;apply N8 (by omega) (by omega);apply ws;apply T.in1;exact T.drop (h _ mc)
end
def mvA(m:aA)(t:cH)(d c:bP)(n:Nat):Int×aA:=
 if(more d true n (decide (has t.aq 2))).2≠0 then((more d true n (decide (has t.aq 2))).2,m)
 else if(more c false n (decide (has t.aq 2))).2≠0 then((more c false n (decide (has t.aq 2))).2,m)
 else(0,m.mw t {t with a8:=n} (waits t))
def mvB(m:aA)(t:cH)(d c:bP)(n:Nat):Int×aA:=
 if has t.aq 32 then(if min n (ja c false)=0 then(34,m) else mvA m t d c (min n (ja c false))) else mvA m t d c n
def mvC(m:aA)(t:cH)(d c:bP)(n:Nat):Int×aA:=
 if has t.aq 16 then(if min n (ja d true)=0 then(33,m) else mvB m t d c (min n (ja d true))) else mvB m t d c n
def ac7{m:aA}{t:cH}{d c:bP}(h1:nL t=0)(h2: ¬jZ t.aq)(h3:m.named t.id=none)(hd:(m.find t.bI).map m.full=some d)(hc:(m.find t.aU).map m.full=some c)
 (h4:d.bJ=c.bJ)(h5:d.bJ=t.bJ)(h6: ¬8<=d.aq)(h7: ¬8<=c.aq)(h8: ¬96<=m.ax.length):m.move t=mvC m t d c (if t.a8=0 then bO-1 else t.a8):=by
 unfold aA.move jI;rw[hd,hc,h3];dsimp only;rw[ag (show ¬nL t≠0 from λhh=>hh h1),ag h2,ag (show ¬d.bJ≠c.bJ from λhh=>hh h4),ag (show ¬d.bJ≠t.bJ from λhh=>hh h5),ag h6,ag h7,ag h8];have key:∀n:Nat,de t d c=(n,0)->(let r:=(if(de t d c).2≠0 then((de t d c).2,0) else if(more d true (de t d c).1 (decide (has t.aq 2))).2≠0 then((more d true (de t d c).1 (decide (has t.aq 2))).2,0)
                      else if(more c false (de t d c).1 (decide (has t.aq 2))).2≠0 then((more c false (de t d c).1 (decide (has t.aq 2))).2,0) else(0,(de t d c).1):Int×Nat)
                      if r.1≠0 then(r.1,m) else(0,m.mw t {t with a8:=r.2} (waits t)))=mvA m t d c n:=λn he=>by
  rw[he];dsimp only;rw[ag (show ¬((0:Int)≠0) from λhh=>hh rfl)];unfold mvA;by_cases g1:(more d true n (decide (has t.aq 2))).2≠0
  ·rw[ai g1,ai g1,ai g1]
  ·rw[ag g1,ag g1];by_cases g2:(more c false n (decide (has t.aq 2))).2≠0
   ·rw[ai g2,ai g2,ai g2]
   ·rw[ag g2,ag g2]
    rfl
 have bad:∀r:Int,r≠0->de t d c=(0,r)->(let r:=(if(de t d c).2≠0 then((de t d c).2,0) else if(more d true (de t d c).1 (decide (has t.aq 2))).2≠0 then((more d true (de t d c).1 (decide (has t.aq 2))).2,0)
  else if(more c false (de t d c).1 (decide (has t.aq 2))).2≠0 then((more c false (de t d c).1 (decide (has t.aq 2))).2,0) else(0,(de t d c).1):Int×Nat)
  if r.1≠0 then(r.1,m) else(0,m.mw t {t with a8:=r.2} (waits t)))=(r,m):=λr hr he=>by
  rw[he];dsimp only;rw[ai hr,ai hr]
 unfold mvC mvB;generalize hn:(if t.a8=0 then bO-1 else t.a8)=n;by_cases a1:has t.aq 16
 ·rw[ai a1];by_cases a2:min n (ja d true)=0
  ·rw[ai a2];apply bad 33 (by decide);unfold de;rw[hn];simp only[ai a1,a1,a2,and_self,if_true]
  ·rw[ag a2];by_cases a3:has t.aq 32
   ·rw[ai a3];by_cases a4:min (min n (ja d true)) (ja c false)=0
    ·rw[ai a4];apply bad 34 (by decide);unfold de;rw[hn];simp only[ai a1,ai a3,a1,a2,a3,a4,and_self,if_true,and_false,if_false]
    ·rw[ag a4];apply key _;unfold de;rw[hn];simp only[ai a1,ai a3,a1,a2,a3,a4,and_self,if_true,and_false,if_false]
   ·rw[ag a3];apply key _;unfold de;rw[hn];simp only[ai a1,ag a3,a1,a2,a3,and_self,if_true,and_false,false_and,if_false]
 ·rw[ag a1];by_cases a3:has t.aq 32
  ·rw[ai a3];by_cases a4:min n (ja c false)=0
   ·rw[ai a4];apply bad 34 (by decide);unfold de;rw[hn];simp only[ag a1,ai a3,a1,a3,a4,and_self,if_true,and_false,false_and,if_false]
   ·rw[ag a4];apply key _;unfold de;rw[hn];simp only[ag a1,ai a3,a1,a3,a4,and_self,if_true,and_false,false_and,if_false]
  ·rw[ag a3];apply key _;unfold de;rw[hn];simp only[ag a1,ag a3,a1,a3,and_self,if_true,and_false,false_and,if_false]
section
variable {W:World} {L R:LH} {K:VK} {X:WK} {p:Nat} {m:aA} {mb kb:OA} {mc kc:Nat} {a d c:bP} {t:cH} {r1 r2 r3 r4 r5:Nat} {n:Nat}
def T.K9{L':LH}{A:HP}(h:T W (ML p m mb mc kb kc (A::L')) X):T W (A::ML p m mb mc kb kc L') X:=T.SK h
def LF(hm:m.ax.length<1000000)(hs:0<=m.ay/\m.ay<1000000)(hd:Nb d)(hc:Nb c)(WN:d.aq<256)(WQ:c.aq<256)(hf:0<=t.aq/\t.aq<1000000)(hn:n<bO)
 (h:∀kN kM,T W (ML p (mvA m t d c n).2 mb mc kN kM R) (K (.i (mvA m t d c n).1))):
 T W (ML p m mb mc kb kc (Sep.pt r5 (nm n)::Sep.pt r4 [.u 0,.u 0]::Sep.pt r3 (aO c)::Sep.pt r2 (aO d)::Sep.pt r1 (aN t)::R)) (bY.j3 K r1 r2 r5 r3 (ah p)):=by
 obtain⟨d1,d2,d3,d4,d5,d6⟩:=hd;obtain⟨c1,c2,c3,c4,c5,c6⟩:=hc;unfold bY.j3;unfold mvA at h;apply ws;apply lH hf (by decide);apply ws;apply IB ⟨d1,d2,d3,d4⟩ hn ⟨d5,WN⟩;apply aaD;apply Eg (by rfl);apply ws;apply dz<;>intro g1
 ·have g1:=fM.1 g1;rw[ai g1] at h;apply T.sub (h kb kc);exact qo
 have g1:(more d true n (decide (has t.aq 2))).2=0:=by simpa using g1
 rw[ag (λhh=>hh g1)] at h;apply ws;apply IB ⟨c1,c2,c3,c4⟩ hn ⟨c5,WQ⟩;apply aaD;apply Eg (by rfl);apply ws;apply dz<;>intro g2
 ·have g2:=fM.1 g2;rw[ai g2] at h;apply T.sub (h kb kc);exact qo
 have g2:(more c false n (decide (has t.aq 2))).2=0:=by simpa using g2
 rw[ag (λhh=>hh g2)] at h;apply ws;intros;rename_i r6;apply T.K9;by_cases hw:has t.aq 2
 ·rw[aw hw];rw[show waits t=1 from ai hw] at h;apply ws;refine JY hm hs λb' c'=>?_;apply ws;apply T.sub (h b' c');exact qo
 ·rw[ao hw];rw[show waits t=0 from ag hw] at h;apply ws;refine JY hm hs λb' c'=>?_;apply ws;apply T.sub (h b' c');exact qo
def IT(a b:Nat):(if a<b then a else b)=min a b:=by split<;>omega
def Ja{a:bP}{b:Bool}(h:Nb a):ja a b<bO:=by
 obtain⟨h1,h2,h3,h4,_⟩:=h;unfold ja;split<;>omega
def LG(hm:m.ax.length<1000000)(hs:0<=m.ay/\m.ay<1000000)(hd:Nb d)(hc:Nb c)(WN:d.aq<256)(WQ:c.aq<256)(hf:0<=t.aq/\t.aq<1000000)(hn:n<bO)
 (h:∀kN kM,T W (ML p (mvB m t d c n).2 mb mc kN kM R) (K (.i (mvB m t d c n).1))):
 T W (ML p m mb mc kb kc (Sep.pt r5 (nm n)::Sep.pt r4 [.u 0,.u 0]::Sep.pt r3 (aO c)::Sep.pt r2 (aO d)::Sep.pt r1 (aN t)::R)) (bY.j2 K r1 r5 r3 r4 r2 (ah p)):=by
 have hl:=Ja (b:=false) hc;unfold bY.j2;unfold mvB at h;apply ws;apply lH hf (by decide);by_cases hw:has t.aq 32
 ·rw[aw hw];rw[ai hw] at h;apply ws;apply CY ⟨hc.1,hc.2.1,hc.2.2.1,hc.2.2.2.1⟩;apply Eg (by rfl);apply ws;apply F4 hn hl;apply Eg (by rfl);rw[IT];apply ws;apply ga<;>intro g1
  ·rw[ai g1] at h;apply T.sub (h kb kc);exact qo
  ·rw[ag g1] at h;exact LF hm hs hd hc WN WQ hf (by omega) h
 ·rw[ao hw];rw[ag hw] at h;apply ws;exact LF hm hs hd hc WN WQ hf hn h
def LJ(hm:m.ax.length<1000000)(hs:0<=m.ay/\m.ay<1000000)(hd:Nb d)(hc:Nb c)(WN:d.aq<256)(WQ:c.aq<256)(hf:0<=t.aq/\t.aq<1000000)(hn:n<bO)
 (h:∀kN kM,T W (ML p (mvC m t d c n).2 mb mc kN kM R) (K (.i (mvC m t d c n).1))):
 T W (ML p m mb mc kb kc (Sep.pt r5 (nm n)::Sep.pt r4 [.u 0,.u 0]::Sep.pt r3 (aO c)::Sep.pt r2 (aO d)::Sep.pt r1 (aN t)::R)) (bY.j1 K r1 r5 r2 r4 r3 (ah p)):=by
 have hl:=Ja (b:=true) hd;unfold bY.j1;unfold mvC at h;apply ws;apply lH hf (by decide);by_cases hw:has t.aq 16
 ·rw[aw hw];rw[ai hw] at h;apply ws;apply CY ⟨hd.1,hd.2.1,hd.2.2.1,hd.2.2.2.1⟩;apply Eg (by rfl);apply ws;apply F4 hn hl;apply Eg (by rfl);rw[IT];apply ws;apply ga<;>intro g1
  ·rw[ai g1] at h;apply T.sub (h kb kc);exact qo
  ·rw[ag g1] at h;exact LG hm hs hd hc WN WQ hf (by omega) h
 ·rw[ao hw];rw[ag hw] at h;apply ws;exact LG hm hs hd hc WN WQ hf hn h
end
section
variable {W:World} {L R:LH} {K:VK} {X:WK} {p:Nat} {m:aA} {mb kb:OA} {mc kc:Nat} {a d c:bP} {t:cH} {r1 r2 r3 r4 r5:Nat} {n:Nat}
def TD{α:Type}{r n c e o j q:Nat}{l:List α}{x:α}{g:α->LV}{f:HP->LH}{ys:LV}{K:LV->WK}[i:wX (ah r) n c L e (l.flatMap g) f](hf:∀x,(g x).length=e)(hx:l[o]?=some x)[s:Sub (g x) j q ys](h:T W L (K ys)):T W L (aJ ⟨r,o* e+j,none⟩ q K):=λw hs=>by
 obtain⟨k,hk,_⟩:=i.at_;exact EW hs hk s.is.1 (λu v hu=>by rw[Nat.add_assoc];exact ry hf l o x hx _ v (s.is.2 u v hu)) (h w hs)
def TE{α:Type}{r n c e o q:Nat}{l:List α}{x:α}{g:α->LV}{f:HP->LH}{ys:LV}{K:LV->WK}[i:wX (ah r) n c L e (l.flatMap g) f](hf:∀x,(g x).length=e)(hx:l[o]?=some x)[s:Sub (g x) 0 q ys](h:T W L (K ys)):T W L (aJ ⟨r,o* e,none⟩ q K):=TD (j:=0) hf hx h
def DX{m:aA}(h:RM m){a:bP}(ha:a∈m.cW):Nb (m.full a)/\(m.full a).aq<256/\(m.full a).bJ=a.bJ:=by
 have h1:=LB m.ax (h.rkA a ha);refine⟨h1,?_,?_⟩
 ·rw[h.ground.full ha];obtain⟨z1,z2,z3,z4,z5,z6⟩:=h.ground.zero a ha;show(if S (vG a.id) m.ax=0 then a.aq else a.aq%8+8)<256;split<;>omega
 ·rw[h.ground.full ha];rfl
def VM{m:aA}{t:cH}{r:Int}(hr:r≠0)(h:jI t (m.named t.id) ((m.find t.bI).map m.full) ((m.find t.aU).map m.full) m.ax.length=(r,0)):m.move t=(r,m):=by
 unfold aA.move;rw[h];dsimp only;rw[ai hr]
def PT(hm:RM m)(ht:yF t)(h:∀kN kM,T W (ML p (m.move t).2 mb mc kN kM R) (K (.i (m.move t).1))):T W (ML p m mb mc kb kc R) (bY (ah p) (aN t) K):=by
 unfold bY;have xu:=hm.oJ;have xr:=hm.many;have tr:=hm.ay;apply ws;intros;rename_i r1;apply AZ ht;apply ws;have uv:∀r:Int,r≠0->jI t (m.named t.id) ((m.find t.bI).map m.full) ((m.find t.aU).map m.full) m.ax.length=(r,0)->∀kN kM,T W (ML p m mb mc kN kM R) (K (.i r)):=λr hr he kN kM=>by
  have:=h kN kM;rw[VM hr he] at this;exact this
 unfold jI at uv;apply dz<;>intro g1
 ·have g1:nL t≠0:=by simpa using g1
  rw[ai g1] at uv;have:=uv _ g1 rfl kb kc;exact T.dp this
 have g1:nL t=0:=by simpa using g1
 rw[ag (λhh=>hh g1)] at uv;obtain⟨S6,htm⟩:=xD g1;have hf:0<=t.aq/\t.aq<1000000:=by omega
 apply ws;apply xi hf;apply ws;apply ga<;>intro g2
 ·rw[ai g2] at uv;have:=uv _ (by decide) rfl kb kc;exact T.dp this
 rw[ag g2] at uv;apply ws;apply T.SK;apply JX (by omega);apply ws;have Qs:m.named t.id=m.ax.find? λk=>decide (k.move.id=t.id):=rfl;rcases se (λx:cr=>decide (x.move.id=t.id)) m.ax with⟨f1,f2,f3⟩|⟨i,x,f1,f2,f3,f4,f5⟩
 rotate_left
 ·rw[Qs,f3] at uv;dsimp only at uv;rw[f5];have R6:=(ar.1 f1).1;have hx:=hm.ax x (cD f1);apply ir (aw (by omega));apply ws;refine dS (b:=kb) ⟨by omega,by omega⟩ λrb hb=>?_;rw[ak];subst hb;apply TE jB f1;refine F9 hf ⟨hx.vQ.1,by have:=hx.vQ.2;omega⟩ ?_;apply ws;apply T.sub (uv _ (tJ _ _) rfl (ah rb) kc);exact qo
 rw[Qs,f1] at uv;dsimp only at uv;rw[f3];apply ef (by decide);apply ws;apply yb (by omega);apply ws;apply yb (by omega);apply ws;have hfd:m.find t.bI=m.cW.find? λa=>decide (a.id=t.bI):=rfl;have hfc:m.find t.aU=m.cW.find? λa=>decide (a.id=t.aU):=rfl;rcases se (λx:bP=>decide (x.id=t.bI)) m.cW with⟨d1,d2,d3⟩|⟨i,d,d1,d2,d3,d4,d5⟩
 ·rw[hfd,d1] at uv;rw[d3];apply ir (by decide);apply T.sub (uv 19 (by decide) rfl kb kc);exact qo
 rw[hfd,d3] at uv;rw[d5];apply ef (ao (by omega));rcases se (λx:bP=>decide (x.id=t.aU)) m.cW with⟨c1,c2,c3⟩|⟨j,c,c1,c2,c3,c4,c5⟩
 ·rw[hfc,c1] at uv;rw[c3];apply ir (by decide);apply T.sub (uv 20 (by decide) rfl kb kc);exact qo
 rw[hfc,c3] at uv;rw[c5];apply ef (ao (by omega));dsimp only[fm] at uv;have Kc:=cD d1;have S7:=cD c1;obtain⟨hda,WN,Bu⟩:=DX hm Kc;obtain⟨hca,WQ,qh⟩:=DX hm S7;apply EG (by omega) d1 (hm.rkA d Kc) hm.rkK;apply Eg (by rfl);apply ws;intros;rename_i r2;apply T.K9;apply EG (by omega) c1 (hm.rkA c S7) hm.rkK;apply Eg (by rfl);apply ws;intros;rename_i r3;apply T.K9;have ed:m.ax.foldl ya d=m.full d:=rfl;have ec:m.ax.foldl ya c=m.full c:=rfl;rw[ed,ec];apply dz<;>intro g3
 ·have g3:=fM.1 g3;rw[ai g3] at uv;apply T.sub (uv _ (by decide) rfl kb kc);exact qo
 have g3:(m.full d).bJ=(m.full c).bJ:=by simpa using g3
 rw[ag (λhh=>hh g3)] at uv;apply ws;apply dz<;>intro g4
 ·have g4:=fM.1 g4;rw[ai g4] at uv;apply T.sub (uv _ (by decide) rfl kb kc);exact qo
 have g4:(m.full d).bJ=t.bJ:=by simpa using g4
 rw[ag (λhh=>hh g4)] at uv;apply ws;apply ga<;>intro g5
 ·rw[ai (show 8<=(m.full d).aq by omega)] at uv;apply T.sub (uv _ (by decide) rfl kb kc);exact qo
 rw[ag (show ¬8<=(m.full d).aq by omega)] at uv;apply ws;apply ga<;>intro g6
 ·rw[ai (show 8<=(m.full c).aq by omega)] at uv;apply T.sub (uv _ (by decide) rfl kb kc);exact qo
 rw[ag (show ¬8<=(m.full c).aq by omega)] at uv;apply ws;apply ga<;>intro g7
 ·rw[ai (show 96<=m.ax.length by omega)] at uv;apply T.sub (uv _ (by decide) rfl kb kc);exact qo
 have hmi:=ac7 (m:=m) (t:=t) (d:=m.full d) (c:=m.full c) g1 g2 (by rw[Qs,f1]) (by rw[hfd,d3];rfl) (by rw[hfc,c3];rfl) g3 g4 (by omega) (by omega) (by omega);rw[hmi] at h;apply ws;intros;rename_i r4 r5;apply ga<;>intro g8
 ·rw[ai g8] at h;apply ws;have ew:([.u 18446744073709551615,.u 18446744073709551615]:LV)=nm (bO-1):=by unfold nm bO;rfl
  rw[ew];refine T.perm (L:=ML p m mb mc kb kc (Sep.pt r5 (nm (bO-1))::Sep.pt r4 [.u 0,.u 0]::Sep.pt r3 (aO (m.full c))::Sep.pt r2 (aO (m.full d))::Sep.pt r1 (aN t)::R)) ?_ (bG (l₁:=[Sep.pt r5 (nm (bO-1)),Sep.pt r4 [.u 0,.u 0]]) (l₂:=[_,_,_])|>.append_right _);exact LJ (by omega) (by omega) hda hca WN WQ hf (by unfold bO;decide) h
 ·rw[ag g8] at h;refine T.perm (L:=ML p m mb mc kb kc (Sep.pt r5 (nm t.a8)::Sep.pt r4 [.u 0,.u 0]::Sep.pt r3 (aO (m.full c))::Sep.pt r2 (aO (m.full d))::Sep.pt r1 (aN t)::R)) ?_ (bG (l₁:=[Sep.pt r5 (nm t.a8),Sep.pt r4 [.u 0,.u 0]]) (l₂:=[_,_,_])|>.append_right _);exact LJ (by omega) (by omega) hda hca WN WQ hf ht.a8 h
end
def Vl(m:aA)(t:cH)(i:Nat)(k:cr):Int×aA:=
 if my t k.move then(26,m) else if has t.aq 4/\m.closed k.move.bI i=true then(30,m) else if has t.aq 4/\m.closed k.move.aU i=true then(31,m) else if 96<=m.ax.length then(35,m)
 else(0,(m.fa i (dP t)).mw t (ny t k.move) 0)
def adW{m:aA}{t:cH}{i:Nat}{k:cr}(h1:nL t=0)(h2:jZ t.aq)(h3:m.named t.id=none)(hi:m.name t.pending=some i)(hk:m.ax[i]?=some k)
 (h4:has k.move.aq 2)(h5: ¬fU t k.move)(h6: ¬1<k.fate):m.pE t=Vl m t i k:=by
 unfold aA.pE oC;rw[hi];dsimp only;rw[hk,h3];dsimp only;rw[ag (show ¬nL t≠0 from λhh=>hh h1),ag (show ¬ ¬jZ t.aq from λhh=>hh h2),ag (show ¬ ¬has k.move.aq 2 from λhh=>hh h4),ag h5,ag h6];unfold Vl;by_cases a1:my t k.move
 ·rw[ai a1,ai a1];rfl
 rw[ag a1,ag a1];by_cases a2:has t.aq 4/\m.closed k.move.bI i=true
 ·rw[ai a2,ai a2];rfl
 rw[ag a2,ag a2];by_cases a3:has t.aq 4/\m.closed k.move.aU i=true
 ·rw[ai a3,ai a3];rfl
 rw[ag a3,ag a3];by_cases a4:96<=m.ax.length
 ·rw[ai a4,ai a4];rfl
 rw[ag a4,ag a4];rfl
def Lr{m:aA}{i:Nat}{x:cr}(hx:m.ax[i]?=some x)(f:Int):m.fa i f={m with ax:=m.ax.set i {x with fate:=f}}:=by
 obtain⟨hi,he⟩:=ar.1 hx;unfold aA.fa;rw[modify_eq _ _ _ hi,he]
def OO{m:aA}{i:Nat}{x:cr}{id:Nat}{a:bP}(hx:m.ax[i]?=some x)(hf:m.find id=some a):m.closed id i=decide (8<=((m.ax.set i {x with fate:=3}).foldl ya a).aq):=by
 obtain⟨hi,he⟩:=ar.1 hx;unfold aA.closed;rw[hf];dsimp only;rw[modify_eq _ _ _ hi,he]
section
variable {W:World} {L R:LH} {K:VK} {X:WK} {p:Nat} {m:aA} {mb kb:OA} {mc kc:Nat} {a d c:bP} {t u:cH} {r1 r2 r3 r4 r5:Nat} {n i:Nat} {x:cr}
def FZ(hm:RM m)(hx:m.ax[i]?=some x){id:Nat}(xt:id∈m.cW.map (·.id))(h:T W (ML p m mb mc kb kc R) (K (.b (m.closed id i)))):T W (ML p m mb mc kb kc R) (gL (ah p) (nm id) (i:Int) K):=by
 have xu:=hm.oJ;have xr:=hm.many;rcases se (λx:bP=>decide (x.id=id)) m.cW with⟨f1,f2,f3⟩|⟨j,y,f1,f2,f3,f4,f5⟩
 ·obtain⟨a,ha,he⟩:=cV.1 xt;have:=ql.1 f1 a ha;rw[he] at this;exact aT (aw rfl) this
 ·rw[OO hx (show m.find id=some y from f3)] at h;exact Rn (by omega) (by omega) hx f5 f1 (hm.rkA y (cD f1)) hm.rkK h
def PU(hs:0<=m.ay/\m.ay<1000000)(hm:m.ax.length<1000000)(hn:n=dD t u)
 (h:∀kN kM,T W (ML p (m.mw t (ny t u) 0) mb mc kN kM R) (K (.i 0))):
 T W (ML p m mb mc kb kc (Sep.pt r4 (nm n)::Sep.pt r3 [.u 0,.u 0]::Sep.pt r2 (aN u)::Sep.pt r1 (aN t)::R)) (az.j6 K r1 r2 r4 (ah p)):=by
 unfold az.j6;subst hn;apply ws;intros;rename_i r5;apply T.K9;refine JY (u:=ny t u) hm hs λb' c'=>?_;apply ws;apply T.sub (h b' c');exact qo
def PW(hm:RM m)(hx:m.ax[i]?=some x)(Yp: ¬1<x.fate)
 (h:∀kN kM,T W (ML p (Vl m t i x).2 mb mc kN kM R) (K (.i (Vl m t i x).1)))(ht:t.a8<bO):
 T W (ML p m mb mc kb kc (Sep.pt r4 (nm (dD t x.move))::Sep.pt r3 [.u 0,.u 0]::Sep.pt r2 (aN x.move)::Sep.pt r1 (aN t)::R)) (az.j2 K (decide (has t.aq 4)) r2 r4 (ah p) (i:Int) r1):=by
 have xu:=hm.oJ;have xr:=hm.many;have tr:=hm.ay;have pU:=cD hx;have R6:=(ar.1 hx).1;have SU:=hm.ground.zj x pU;have UW:=hm.ax x pU;have hea:dD t x.move<bO:=by unfold dD;split;exact UW.move.a8;exact ht
 have RT:∀f:Int,∀kN kM,T W (ML p (m.fa i f) mb mc kN kM (Sep.pt r4 (nm (dD t x.move))::Sep.pt r3 [.u 0,.u 0]::Sep.pt r2 (aN x.move)::Sep.pt r1 (aN t)::R)) (az.j6 K r1 r2 r4 (ah p))->
  T W (Sep.pt p (ES m mb mc kN kM)::own mb m.cW.length mc 14 (m.cW.flatMap aO)::own kN m.ax.length kM 33 ((m.ax.set i {x with fate:=f}).flatMap bM)::(Sep.pt r4 (nm (dD t x.move))::Sep.pt r3 [.u 0,.u 0]::Sep.pt r2 (aN x.move)::Sep.pt r1 (aN t)::R)) (az.j6 K r1 r2 r4 (ah p)):=λf kN kM hh=>by
  rw[Lr hx] at hh;exact Wi je hh
 have j5:∀b:Bool,((has t.aq 4/\m.closed x.move.bI i=true)->False)-> ¬my t x.move->b=decide (has t.aq 4/\m.closed x.move.aU i=true)->
  T W (ML p m mb mc kb kc (Sep.pt r4 (nm (dD t x.move))::Sep.pt r3 [.u 0,.u 0]::Sep.pt r2 (aN x.move)::Sep.pt r1 (aN t)::R)) (az.j5 K (ah p) (i:Int) (decide (has t.aq 4)) r1 r2 r4 b):=λb HM kJ hb=>by
  unfold az.j5;unfold Vl at h;rw[ag kJ,ag HM] at h;cases b with
  |true=>
   rw[ai (aR hb.symm)] at h;apply ws;apply T.sub (h kb kc);exact qo
  |false=>
   rw[ag (bj hb.symm)] at h;apply ws;apply ga<;>intro g1
   ·rw[ai (by omega)] at h;apply T.sub (h kb kc);exact qo
   rw[ag (by omega)] at h;apply ws;refine dS (b:=kb) ⟨by omega,by omega⟩ λrb xa=>?_;rw[ak];subst xa;apply Pp;apply Fw (o:=i) (x:=x) (y:={x with fate:=3}) jB hx rfl (by decide) rfl;have Z8:m.ax.length=(m.ax.set i {x with fate:=3}).length:=je.symm;by_cases h4:has t.aq 4
   ·rw[aw h4];rw[show dP t=2 from ai h4] at h;apply ws;refine dS (b:=ah rb) ⟨by omega,by omega⟩ λZU xa=>?_;rw[ak];cases xa
    apply Pp;refine Fw (o:=i) (x:={x with fate:=3}) (y:={x with fate:=2}) jB (by rw[List.getElem?_set_self (by omega)]) rfl (by decide) rfl ?_;rw[jH];apply RT 2 _ _;refine PU (m:=m.fa i 2) (by show 0<=m.ay/\m.ay<1000000;omega) (by show(m.ax.modify i _).length<_;rw[List.length_modify];omega) rfl h
   ·rw[ao h4];rw[show dP t=3 from ag h4] at h;apply ws;apply RT 3 _ _;refine PU (m:=m.fa i 3) (by show 0<=m.ay/\m.ay<1000000;omega) (by show(m.ax.modify i _).length<_;rw[List.length_modify];omega) rfl h
 have j4:∀b:Bool,¬my t x.move->b=decide (has t.aq 4/\m.closed x.move.bI i=true)->
  T W (ML p m mb mc kb kc (Sep.pt r4 (nm (dD t x.move))::Sep.pt r3 [.u 0,.u 0]::Sep.pt r2 (aN x.move)::Sep.pt r1 (aN t)::R)) (az.j4 K (decide (has t.aq 4)) r2 (ah p) (i:Int) r1 r4 b):=λb kJ hb=>by
  unfold az.j4;cases b with
  |true=>
   unfold Vl at h;rw[ag kJ,ai (aR hb.symm)] at h;apply ws;apply T.sub (h kb kc);exact qo
  |false=>
   have HM:=bj hb.symm;by_cases h4:has t.aq 4
   ·rw[aw h4] at j5⊢;apply ws;apply FZ hm hx SU.2.2;apply oF;apply j5 _ HM kJ;cases qh:m.closed x.move.aU i
    ·exact(ao (λhh=>aT hh.2 (by decide))).symm
    ·exact(aw ⟨h4,rfl⟩).symm
   ·rw[ao h4] at j5⊢;apply ws;exact j5 _ HM kJ (ao (λhh=>h4 hh.1)).symm
 have j3:∀b:Bool,b=decide (my t x.move)->
  T W (ML p m mb mc kb kc (Sep.pt r4 (nm (dD t x.move))::Sep.pt r3 [.u 0,.u 0]::Sep.pt r2 (aN x.move)::Sep.pt r1 (aN t)::R)) (az.j3 K (decide (has t.aq 4)) r2 (ah p) (i:Int) r1 r4 b):=λb hb=>by
  unfold az.j3;cases b with
  |true=>
   unfold Vl at h;rw[ai (aR hb.symm)] at h;apply ws;apply T.sub (h kb kc);exact qo
  |false=>
   have kJ:=bj hb.symm;by_cases h4:has t.aq 4
   ·rw[aw h4] at j4⊢;apply ws;apply FZ hm hx SU.2.1;apply oF;apply j4 _ kJ;cases qh:m.closed x.move.bI i
    ·exact(ao (λhh=>aT hh.2 (by decide))).symm
    ·exact(aw ⟨h4,rfl⟩).symm
   ·rw[ao h4] at j4⊢;apply ws;exact j4 _ kJ (ao (λhh=>h4 hh.1)).symm
 unfold az.j2 az.j7;by_cases h4:has t.aq 4
 ·rw[aw h4] at j3⊢;apply ws;apply Ac UW.move.a8 hea;apply ws;apply ga<;>intro g1
  ·exact j3 _ (aw (show my t x.move from .inl ⟨h4,g1⟩)).symm
  ·apply ws;refine j3 _ (ao (λhh:my t x.move=>?_)).symm;rcases hh with hh|hh
   ·exact g1 hh.2
   ·exact hh.1 h4
 ·rw[ao h4] at j3⊢;apply ws;apply j3 _;by_cases he:dD t x.move=x.move.a8
  ·rw[aw he];refine(ao (λhh:my t x.move=>?_)).symm;rcases hh with hh|hh
   ·exact h4 hh.1
   ·exact hh.2 he
  ·rw[ao he];exact(aw (show my t x.move from .inr ⟨h4,he⟩)).symm
end
section
variable {W:World} {L R:LH} {K:VK} {X:WK} {p:Nat} {m:aA} {mb kb:OA} {mc kc:Nat} {a d c:bP} {t u:cH} {r1 r2 r3 r4 r5:Nat} {n i:Nat} {x:cr}
def Zc{m:aA}{t:cH}{i:Nat}{k:cr}{r:Int}(hi:m.name t.pending=some i)(hk:m.ax[i]?=some k)(hr:r≠0)(h:oC t (m.named t.id) (some k) (m.closed k.move.bI i) (m.closed k.move.aU i) m.ax.length=r):m.pE t=(r,m):=by
 unfold aA.pE;rw[hi];dsimp only;rw[hk];dsimp only;rw[h,ai hr]
def XF{b:Bool}(hm:RM m)(hx:m.ax[i]?=some x)(htf:0<=t.aq/\t.aq<1000000)(ht:t.a8<bO)(hb:b=decide (fU t x.move))
 (h1:fU t x.move->∀kN kM,T W (ML p m mb mc kN kM R) (K (.i 25)))
 (h2: ¬fU t x.move->1<x.fate->∀kN kM,T W (ML p m mb mc kN kM R) (K (.i (25+x.fate))))
 (h: ¬fU t x.move-> ¬1<x.fate->∀kN kM,T W (ML p (Vl m t i x).2 mb mc kN kM R) (K (.i (Vl m t i x).1))):
 T W (ML p m mb mc kb kc (Sep.pt r3 [.u 0,.u 0]::Sep.pt r2 (aN x.move)::Sep.pt r1 (aN t)::R)) (az.j1 K (ah p) (i:Int) r1 r3 r2 b):=by
 have xr:=hm.many;have pU:=cD hx;have R6:=(ar.1 hx).1;have hft:=hm.ground.vH x pU;unfold az.j1;cases b with
 |true=>
  apply ws;apply T.sub (h1 (aR hb.symm) kb kc);exact qo
 |false=>
  have hn:=bj hb.symm;apply ws;refine dS (b:=kb) ⟨by omega,by omega⟩ λrb xa=>?_;rw[ak];subst xa;apply TH;apply FA (o:=i) (x:=x) jB hx rfl;apply ws;apply ga<;>intro g1
  ·apply ws;refine dS (b:=ah rb) ⟨by omega,by omega⟩ λZU xa=>?_;rw[ak];cases xa
   apply TH;apply FA (o:=i) (x:=x) jB hx rfl;apply ws;rw[aX (by omega)];apply T.sub (h2 hn g1 (ah rb) kc);exact qo
  ·apply ws;apply lH htf (by decide);apply ws;intros;rename_i r4;have fin:=h hn g1;apply ga<;>intro g2
   ·apply ws;apply T.K9;have e:dD t x.move=x.move.a8:=ai g2;rw[<-e];exact PW hm hx g1 fin ht
   ·apply T.K9;have e:dD t x.move=t.a8:=ag g2;rw[<-e];exact PW hm hx g1 fin ht
def XE{b:Bool}(hm:RM m)(hx:m.ax[i]?=some x)(htf:0<=t.aq/\t.aq<1000000)(ht:t.a8<bO)(hb:b=decide (t.bI≠0/\t.bI≠x.move.bI))
 (h1:fU t x.move->∀kN kM,T W (ML p m mb mc kN kM R) (K (.i 25)))
 (h2: ¬fU t x.move->1<x.fate->∀kN kM,T W (ML p m mb mc kN kM R) (K (.i (25+x.fate))))
 (h: ¬fU t x.move-> ¬1<x.fate->∀kN kM,T W (ML p (Vl m t i x).2 mb mc kN kM R) (K (.i (Vl m t i x).1))):
 T W (ML p m mb mc kb kc (Sep.pt r3 [.u 0,.u 0]::Sep.pt r2 (aN x.move)::Sep.pt r1 (aN t)::R)) (az.j8 K (ah p) (i:Int) r1 r3 r2 b):=by
 have j1:∀b:Bool,b=decide (fU t x.move)->T W (ML p m mb mc kb kc (Sep.pt r3 [.u 0,.u 0]::Sep.pt r2 (aN x.move)::Sep.pt r1 (aN t)::R)) (az.j1 K (ah p) (i:Int) r1 r3 r2 b):=λb hb=>XF hm hx htf ht hb h1 h2 h;have Ep:∀b:Bool,b=decide ((t.bI≠0/\t.bI≠x.move.bI)\/(t.aU≠0/\t.aU≠x.move.aU)\/(t.bJ≠0/\t.bJ≠x.move.bJ))->
  T W (ML p m mb mc kb kc (Sep.pt r3 [.u 0,.u 0]::Sep.pt r2 (aN x.move)::Sep.pt r1 (aN t)::R)) (az.Ep K (ah p) (i:Int) r1 r3 r2 b):=λb hb=>by
  unfold az.Ep;cases b with
  |true=>
   have hc:=aR hb.symm;refine j1 true (aw ?_).symm;rcases hc with hc|hc|hc
   ·exact .inl hc
   ·exact .inr (.inl hc)
   ·exact .inr (.inr (.inl hc))
  |false=>
   have hc:=bj hb.symm;apply ws;apply dz<;>intro g1
   ·have g1:=fM.1 g1;apply ws;apply j1 _;rw[cj,fM,decide_eq_true_eq];refine⟨λhh=>.inr (.inr (.inr ⟨g1,hh⟩)),λhh=>?_⟩;rcases hh with hh|hh|hh|hh
    ·exact aT (.inl hh) hc
    ·exact aT (.inr (.inl hh)) hc
    ·exact aT (.inr (.inr hh)) hc
    ·exact hh.2
   ·have g1:t.code=0:=by simpa using g1
    refine j1 false (ao (λhh=>?_)).symm;rcases hh with hh|hh|hh|hh
    ·exact aT (.inl hh) hc
    ·exact aT (.inr (.inl hh)) hc
    ·exact aT (.inr (.inr hh)) hc
    ·exact hh.1 g1
 have j9:∀b:Bool,b=decide ((t.bI≠0/\t.bI≠x.move.bI)\/(t.aU≠0/\t.aU≠x.move.aU))->
  T W (ML p m mb mc kb kc (Sep.pt r3 [.int .u64 0,.int .u64 0]::Sep.pt r2 (aN x.move)::Sep.pt r1 (aN t)::R)) (az.j9 K (some ⟨p,0,none⟩) (i:Int) r1 r3 r2 b):=λb hb=>by
  unfold az.j9;cases b with
  |true=>
   have hc:=aR hb.symm;refine Ep true (aw ?_).symm;rcases hc with hc|hc
   ·exact .inl hc
   ·exact .inr (.inl hc)
  |false=>
   have hc:=bj hb.symm;apply ws;apply dz<;>intro g1
   ·have g1:=fM.1 g1;apply ws;apply Ep _;rw[cj,fM,decide_eq_true_eq];refine⟨λhh=>.inr (.inr ⟨g1,hh⟩),λhh=>?_⟩;rcases hh with hh|hh|hh
    ·exact aT (.inl hh) hc
    ·exact aT (.inr hh) hc
    ·exact hh.2
   ·have g1:t.bJ=0:=by simpa using g1
    refine Ep false (ao (λhh=>?_)).symm;rcases hh with hh|hh|hh
    ·exact aT (.inl hh) hc
    ·exact aT (.inr hh) hc
    ·exact hh.1 g1
 unfold az.j8;cases b with
 |true=>exact j9 true (aw (.inl (aR hb.symm))).symm
 |false=>
  have hc:=bj hb.symm;apply ws;by_cases g1:t.aU=0
  ·rw[aw g1];refine j9 false (ao (λhh=>?_)).symm;rcases hh with hh|hh
   ·exact hc hh
   ·exact hh.1 g1
  ·rw[ao g1];apply ws;apply j9 _;by_cases g2:t.aU=x.move.aU
   ·rw[aw g2];refine(ao (λhh=>?_)).symm;rcases hh with hh|hh
    ·exact hc hh
    ·exact hh.2 g2
   ·rw[ao g2];exact(aw (.inr ⟨g1,g2⟩)).symm
def aa7(hm:RM m)(ht:yF t)(h:∀kN kM,T W (ML p (m.pE t).2 mb mc kN kM R) (K (.i (m.pE t).1))):T W (ML p m mb mc kb kc R) (az (ah p) (aN t) K):=by
 unfold az;have xu:=hm.oJ;have xr:=hm.many;have tr:=hm.ay;apply ws;intros;rename_i r1;apply AZ ht;apply ws;have Ml:m.name t.pending=none->∀r:Int,oC t (m.named t.id) none false false m.ax.length=r->∀kN kM,T W (ML p m mb mc kN kM R) (K (.i r)):=λhn r he kN kM=>by
  have:=h kN kM;unfold aA.pE at this;rw[hn] at this;dsimp only at this;rw[he] at this;exact this
 have Mk:∀i k,m.name t.pending=some i->m.ax[i]?=some k->∀r:Int,r≠0->oC t (m.named t.id) (some k) (m.closed k.move.bI i) (m.closed k.move.aU i) m.ax.length=r->∀kN kM,T W (ML p m mb mc kN kM R) (K (.i r)):=λi k hi hk r hr he kN kM=>by
  have:=h kN kM;rw[Zc hi hk hr he] at this;exact this
 have uv:∀r:Int,r≠0->(∀pd dC cC,oC t (m.named t.id) pd dC cC m.ax.length=r)->∀kN kM,T W (ML p m mb mc kN kM R) (K (.i r)):=λr hr he=>by
  rcases se (λx:cr=>decide (x.move.id=t.pending)) m.ax with⟨f1,f2,f3⟩|⟨i,x,f1,f2,f3,f4,f5⟩
  ·exact Ml f2 r (he _ _ _)
  ·exact Mk i x f4 f1 r hr (he _ _ _)
 unfold oC at uv Ml Mk;apply dz<;>intro g1
 ·have g1:nL t≠0:=by simpa using g1
  have:=uv _ g1 (λ_ _ _=>ai g1) kb kc;exact T.dp this
 have g1:nL t=0:=by simpa using g1
 simp only[ag (show ¬nL t≠0 from λhh=>hh g1)] at uv Ml Mk;obtain⟨S6,htm⟩:=xD g1;have hf:0<=t.aq/\t.aq<1000000:=by omega
 apply ws;apply xi hf;apply ws;by_cases g2:jZ t.aq
 rotate_left
 ·rw[ao g2];have:=uv 6 (by decide) (λ_ _ _=>ai g2) kb kc;apply ws;exact T.dp this
 rw[aw g2];simp only[ag (show ¬ ¬jZ t.aq from λhh=>hh g2)] at uv Ml Mk;apply ws;apply T.SK;apply JX (by omega);apply ws;have Qs:m.named t.id=m.ax.find? λk=>decide (k.move.id=t.id):=rfl;rcases se (λx:cr=>decide (x.move.id=t.id)) m.ax with⟨f1,f2,f3⟩|⟨i,x,f1,f2,f3,f4,f5⟩
 rotate_left
 ·rw[Qs,f3] at uv;dsimp only at uv;rw[f5];have R6:=(ar.1 f1).1;have hx:=hm.ax x (cD f1);apply ir (aw (by omega));apply ws;refine dS (b:=kb) ⟨by omega,by omega⟩ λrb hb=>?_;rw[ak];subst hb;apply TE jB f1;refine F9 hf ⟨hx.vQ.1,by have:=hx.vQ.2;omega⟩ ?_;apply ws;refine T.sub (uv _ (tJ _ _) (λ_ _ _=>rfl) (ah rb) kc) ?_;exact qo
 rw[Qs,f1] at uv Ml;have Nn:m.named t.id=none:=by rw[Qs,f1]
 rw[Nn] at Mk;dsimp only at uv Ml Mk;rw[f3];apply ef (by decide);apply ws;apply JX (by omega);apply ws;rcases se (λx:cr=>decide (x.move.id=t.pending)) m.ax with⟨d1,d2,d3⟩|⟨i,x,d1,d2,d3,d4,d5⟩
 ·rw[d3];apply ir (by decide);apply T.sub (Ml d2 23 rfl kb kc);exact qo
 have uv:=Mk i x d4 d1;clear Ml Mk;have R6:=(ar.1 d1).1;have pU:=cD d1;have hx:=hm.ax x pU;rw[d5];apply ef (ao (by omega));apply ws;refine dS (b:=kb) ⟨by omega,by omega⟩ λrb hb=>?_;rw[ak];subst hb;apply aaI;apply TD jB d1;apply ws;intros;rename_i r2 r3;have hxf:0<=x.move.aq/\x.move.aq<1000000:=⟨hx.xk.1,by have:=hx.xk.2;omega⟩;apply lH hxf (by decide);apply ws;by_cases g3:has x.move.aq 2
 rotate_left
 ·rw[ai g3] at uv;rw[ao g3];apply ws;apply T.sub (uv 24 (by decide) rfl (ah rb) kc);exact qo
 rw[ag (λhh=>hh g3)] at uv;rw[aw g3];apply ws;have fin:∀b:Bool,b=decide (t.bI≠0/\t.bI≠x.move.bI)->T W (Sep.pt r3 [.u 0,.u 0]::Sep.pt r2 (aN x.move)::ML p m mb mc (ah rb) kc (Sep.pt r1 (aN t)::R)) (az.j8 K (ah p) (i:Int) r1 r3 r2 b):=λb hb=>by
  refine T.perm (L:=ML p m mb mc (ah rb) kc (Sep.pt r3 [.u 0,.u 0]::Sep.pt r2 (aN x.move)::Sep.pt r1 (aN t)::R)) ?_ (bG (l₁:=[Sep.pt r3 [.u 0,.u 0],Sep.pt r2 (aN x.move)]) (l₂:=[_,_,_])|>.append_right _);refine XE hm d1 hf ht.a8 hb (λhn=>uv 25 (by decide) (ai hn)) (λhn Yp=>uv (25+x.fate) (by omega) (by rw[ag hn,ai Yp])) (λhn Yp kN kM=>?_);have:=h kN kM;rw[adW g1 g2 Nn d4 d1 g3 hn Yp] at this;exact this
 by_cases g4:t.bI=0
 ·rw[aw g4];exact fin false (ao (λhh=>hh.1 g4)).symm
 ·rw[ao g4];apply ws;apply fin _;by_cases g5:t.bI=x.move.bI
  ·rw[aw g5];exact(ao (λhh=>hh.2 g5)).symm
  ·rw[ao g5];exact(aw ⟨g4,g5⟩).symm
end
inductive It where
 |a(x:bP)
 |t(x:cH)
def Br:It->LV
 | .a x=>.b true::(aO x++aN zT)
 | .t x=>.b false::(aO zA++aN x)
def xM(m:aA):It->Int×aA
 | .a x=>m.make x
 | .t x=>m.rI x
def A2:It->Bool
 | .a x=>Bq x
 | .t x=>Bp x
def O9:It->Prop
 | .a x=>yJ x
 | .t x=>yF x
def Qk(x:It):(Br x).length=31:=by cases x<;>rfl
instance{x:bP}{t:cH}{b:Value}:Gt (b::(aO x++aN t)) 13 (.i x.aq):=⟨rfl⟩
instance{x:bP}{t:cH}{b:Value}:Gt (b::(aO x++aN t)) 28 (.i t.aq):=⟨rfl⟩
def Qj(x:It):∀v∈Br x,v.oneCell'=true:=λv hv=>by
 cases x with
 |a x=>
  rcases ka.1 hv with h|h
  ·subst h;rfl
  ·rcases dB.1 h with h|h
   ·exact iV _ v h
   ·exact pQ _ v h
 |t x=>
  rcases ka.1 hv with h|h
  ·subst h;rfl
  ·rcases dB.1 h with h|h
   ·exact iV _ v h
   ·exact pQ _ v h
instance{x:bP}{t:cH}{b:Value}:Sub (b::(aO x++aN t)) 1 14 (aO x):=⟨rfl,λj v h=>by
 rw[Nat.add_comm 1 j,bX,ch (ar.1 h).1];exact h⟩
instance{x:bP}{t:cH}{b:Value}:Sub (b::(aO x++aN t)) 15 16 (aN t):=⟨rfl,λj v h=>by
 have hl:(aO x).length=14:=rfl
 rw[show 15+j=14+j+1 by omega,bX,iN (by omega),hl,Nat.add_sub_cancel_left];exact h⟩
def RM.xM{m:aA}{x:It}(h:RM m)(hx:O9 x):RM (xM m x).2:=by
 cases x with
 |a x=>exact h.make hx
 |t x=>exact h.rI hx
def Ld(n:Int):(n.tmod 2!=0)=decide (n%2=1):=by
 rw[cj,fM,decide_eq_true_eq];rcases Int.le_total 0 n with h|h
 ·rw[gX h];omega
 ·obtain⟨k,rfl⟩:∃k:Int,n= -k:=⟨-n,by omega⟩;rw[Int.neg_tmod,gX (by omega)];omega
section
variable {W:World} {L R:LH} {K:VK} {X:WK} {p:Nat} {m:aA} {mb kb:OA} {mc kc:Nat} {x:It}
def LK(h:T W L (K (.b (A2 x)))):T W L (nC (Br x) K):=by
 unfold nC;cases x with
 |a x=>
  rw[show Br (It.a x)=.b true::(aO x++aN zT) from rfl];apply ws;intros;apply dU (by decide);rw[Ld];exact T.dp h
 |t x=>
  rw[show Br (It.t x)=.b false::(aO zA++aN x) from rfl];apply ws;intros;apply dU (by decide);rw[Ld];exact T.dp h
def XI(hm:RM m)(hx:O9 x)(h:∀rh q9 kN kM,T W (ML p (xM m x).2 rh q9 kN kM R) (K (.i (xM m x).1))):T W (ML p m mb mc kb kc R) (jk (ah p) (Br x) K):=by
 unfold jk jk.j1;cases x with
 |a x=>
  rw[show Br (It.a x)=.b true::(aO x++aN zT) from rfl];apply ws;intros;apply T.SK;refine XD hm hx λrh q9=>?_;apply ws;apply T.sub (h rh q9 kb kc)
  repeat (first|exact bm.refl _|apply bm.cons_cons|apply bm.cons)
 |t x=>
  rw[show Br (It.t x)=.b false::(aO zA++aN x) from rfl];apply ws;intros;apply AZ hx;rw[show xM m (It.t x)=m.rI x from rfl] at h;unfold aA.rI at h;apply ws;apply dz<;>intro g1
  ·have g1:nL x=0:=by simpa using g1
   obtain⟨S6,htm⟩:=xD g1;apply ws;apply xi (by omega);apply ws;by_cases g2:jZ x.aq
   ·rw[aw g2];rw[ai ⟨g1,g2⟩] at h;apply ws;apply T.SK;refine aa7 hm hx λkN kM=>?_;apply ws;apply T.sub (h mb mc kN kM);exact qo
   ·rw[ao g2];rw[ag (λhh=>g2 hh.2)] at h;apply ws;apply T.SK;refine PT hm hx λkN kM=>?_;apply ws;apply T.sub (h mb mc kN kM);exact qo
  ·have g1: ¬nL x=0:=by simpa using g1
   rw[ag (λhh=>g1 hh.1)] at h;apply ws;apply T.SK;refine PT hm hx λkN kM=>?_;apply ws;apply T.sub (h mb mc kN kM);exact qo
def HF{s:OA}{c:Nat}{l:List bP}[hh:Has R L](hr:mE W R aO 14 s l)(hl:l.length<=1000000)
 (h:∀b c,T W (own b l.length c 31 ((l.map It.a).flatMap Br)::L) (K (.l b l.length c))):T W L (mj s l.length c K):=by
 unfold mj;refine im (e:=31) ?_;intro w jS;refine⟨λvv w=>∃(i:Nat)(b:OA)(c2:Nat)(out:List It),i<=l.length/\out=(l.take i).map It.a/\vv=[.l none 0 0,.l b i c2,.l s l.length c,.i (l.length:Int),.i (i:Int)]/\St W w (own b i c2 31 (out.flatMap Br)::L),
  mq 4 l.length,⟨0,none,0,[],aF _,rfl,rfl,jS⟩,?_⟩
 rintro ov mo qf b i c2 uU uG uP n1 n2 w2 ⟨i0,b0,c0,out,hi,vW,e,ib⟩;cases e
 refine T.at ?_ ib;have e5:=nI i;apply ga<;>intro g1
 ·have cn:i<l.length:=by omega
  have gx:=aj cn;generalize l[i]=x at gx;refine iq hr ⟨by omega,by omega⟩ rfl λa ha=>?_;rw[ak];apply kY hr ha gx (jT x);apply ws;intros;refine kZ (g:=Br) (l:=out) (x:=It.a x) (by rw[bR];rfl) rfl rfl (by omega) (by omega) (Qj _) λb' c'=>?_;rw[e5];refine T.drop (T.sub (M:=own b' (i+1) c' 31 ((out++[It.a x]).flatMap Br)::L) (λw3 h3=>⟨⟨i+1,b',c',out++[It.a x],cn,?_,rfl,h3⟩,dn (by omega)⟩) (by repeat (first|exact bm.refl _|apply bm.cons_cons|apply bm.cons)));rw[bg,gx,cF,vW];rfl
 ·have iZ:i=l.length:=by omega
  subst iZ;rw[aV] at vW;subst vW;exact h _ _
def F3{s:OA}{c:Nat}{l:List cH}[hh:Has R L](hr:mE W R aN 16 s l)(hl:l.length<=1000000)
 (h:∀b c,T W (own b l.length c 31 ((l.map It.t).flatMap Br)::L) (K (.l b l.length c))):T W L (lE s l.length c K):=by
 unfold lE;refine im (e:=31) ?_;intro w jS;refine⟨λvv w=>∃(i:Nat)(b:OA)(c2:Nat)(out:List It),i<=l.length/\out=(l.take i).map It.t/\vv=[.l none 0 0,.l b i c2,.l s l.length c,.i (l.length:Int),.i (i:Int)]/\St W w (own b i c2 31 (out.flatMap Br)::L),
  mq 4 l.length,⟨0,none,0,[],aF _,rfl,rfl,jS⟩,?_⟩
 rintro ov mo qf b i c2 uU uG uP n1 n2 w2 ⟨i0,b0,c0,out,hi,vW,e,ib⟩;cases e
 refine T.at ?_ ib;have e5:=nI i;apply ga<;>intro g1
 ·have cn:i<l.length:=by omega
  have gx:=aj cn;generalize l[i]=x at gx;refine iq hr ⟨by omega,by omega⟩ rfl λa ha=>?_;rw[ak];apply kY hr ha gx (C4 x);apply ws;intros;refine kZ (g:=Br) (l:=out) (x:=It.t x) (by rw[bR,bR];rfl) rfl rfl (by omega) (by omega) (Qj _) λb' c'=>?_;rw[e5];refine T.drop (T.sub (M:=own b' (i+1) c' 31 ((out++[It.t x]).flatMap Br)::L) (λw3 h3=>⟨⟨i+1,b',c',out++[It.t x],cn,?_,rfl,h3⟩,dn (by omega)⟩) (by repeat (first|exact bm.refl _|apply bm.cons_cons|apply bm.cons)));rw[bg,gx,cF,vW];rfl
 ·have iZ:i=l.length:=by omega
  subst iZ;rw[aV] at vW;subst vW;exact h _ _
end
def Bk(p:Nat)(m:aA)(mb:OA)(mc:Nat)(kb:OA)(kc:Nat)(R:LH)(p2:Nat)(m':aA)(rh:OA)(q9:Nat)(kN:OA)(kM:Nat)(R':LH):Prop:=
 (R'=R/\p2=p/\m'=m/\rh=mb/\q9=mc/\kN=kb/\kM=kc)\/R'=ML p m mb mc kb kc R
def Um{n:Nat}{o:Option (Nat×Int)}{q:Nat}(hq:q<n):(ln n o)[q]?=some (match o with|none=>0|some (i,c)=>if q=i then c else 1):=by
 unfold ln;cases o with
 |none=>simp[hq]
 |some e=>
  obtain⟨i,c⟩:=e;dsimp only;rw[dk];by_cases h:i=q
  ·subst h;rw[ai rfl,ai (by simpa using hq),ai rfl]
  ·rw[ag h,ag (λhh=>h hh.symm)];simp[hq]
def KL(x:Int):∀v∈I1 x,v.oneCell'=true:=λv hv=>by simp[I1] at hv;subst hv;rfl
section
variable {W:World} {L R:LH} {K:VK} {X:WK} {p:Nat} {m:aA} {mb kb:OA} {mc kc:Nat} {x:It}
def Wd(W:World)(R:LH)(p:Nat)(m:aA)(mb:OA)(mc:Nat)(kb:OA)(kc:Nat)(l:List It)(lb:OA)(lc:Nat)(vv:LV)(w:World):Prop:=
 ∃(at_ fuel:Nat)(m':aA)(done:List Int)(p2:Nat)(rh:OA)(q9:Nat)(kN:OA)(kM:Nat)(ob:OA)(oc:Nat)(R':LH),at_<=l.length/\done.length=at_/\l.length<=fuel+at_/\
  iu xM A2 l.length m l=(done++(iu xM A2 fuel m' (l.drop at_)).1,(iu xM A2 fuel m' (l.drop at_)).2)/\RM m'/\Bk p m mb mc kb kc R p2 m' rh q9 kN kM R'/\
  vv=[.p (ah p2),.l none 0 0,.p none,.l ob at_ oc,.i (at_:Int)]/\
  St W w (ML p2 m' rh q9 kN kM (own ob at_ oc 1 (done.flatMap I1)::own lb l.length lc 31 (l.flatMap Br)::R'))
def Rmu(n:Nat)(vs:LV)(_:World):Nat:=match vs with|[_,_,_,_,.int _ d]=>n-d.toNat|_=>0
def JW{w2:World}{l:List It}{lb:OA}{lc:Nat}{at_ fuel n:Nat}{m' mN:aA}{done:List Int}{p2 p6:Nat}{rh kN nb nk ob:OA}{q9 kM nc Uu oc:Nat}{R':LH}{o:Option (Nat×Int)}{bad code:Int}
 (hl:l.length<=1000)(hn:0<n)(Ak:at_+n<=l.length)(Bu:done.length=at_)(S4:l.length<=fuel+(at_+n))(ho:(o=none/\bad<0)\/∃i,o=some (i,code)/\i<n/\bad=((at_+i:Nat):Int))(No:RM m')(hmN:RM mN)
 (Ck:Bk p m mb mc kb kc R p2 m' rh q9 kN kM R')
 (pT:iu xM A2 l.length m l=(done++ln n o++(iu xM A2 fuel (if o=none then mN else m') (l.drop (at_+n))).1,(iu xM A2 fuel (if o=none then mN else m') (l.drop (at_+n))).2)):
 T W (ML p6 mN nb nc nk Uu (ML p2 m' rh q9 kN kM (own ob at_ oc 1 (done.flatMap I1)::own lb l.length lc 31 (l.flatMap Br)::R')))
   (cz.j3 K (Wd W R p m mb mc kb kc l lb lc) (Rmu l.length) (ah p2) none 0 0 none ob at_ oc (at_:Int) w2 (ah p2) none 0 0 none ob at_ oc (at_:Int) ((at_+n-1:Nat):Int) bad code (ah p6)):=by
 unfold cz.j3;intro w jS;refine⟨λvv w=>∃(q:Nat)(b:OA)(c:Nat),q<=n/\vv=[.p (ah p2),.l none 0 0,.p none,.l b (at_+q) c,.i (at_:Int),.i ((at_+n-1:Nat):Int),.i bad,.i code,.p (ah p6),.i ((at_+q:Nat):Int)]/\
  St W w (ML p6 mN nb nc nk Uu (ML p2 m' rh q9 kN kM (own b (at_+q) c 1 ((done++(ln n o).take q).flatMap I1)::own lb l.length lc 31 (l.flatMap Br)::R'))),
  mq 9 (at_+n),⟨0,ob,oc,aF _,rfl,by rw[mR,bR];exact jS⟩,?_⟩
 rintro p10 KT Im Ls p11 b sn9 c B9 RG Wz n14 p12 n15 w4 ⟨q,b0,c0,hq,e,yR⟩;cases e
 refine T.at ?_ yR;have e5:aa.wrap (((at_+q:Nat):Int)+1)=((at_+(q+1):Nat):Int):=by rw[aX (by omega)];omega
 apply ga<;>intro g1
 ·have cn:q<n:=by omega
  have Ci:=Um (o:=o) cn;have tj:(ln n o).take (q+1)=(ln n o).take q++[match o with|none=>0|some (i,c)=>if q=i then c else 1]:=by rw[bg,Ci];rfl
  rcases ho with⟨rfl,hb⟩|⟨i,rfl,hi,rfl⟩
  ·apply ir (aw hb);apply dU ⟨rfl,trivial⟩;refine uF λr1=>?_;refine kZ (g:=I1) (l:=done++(ln n _).take q) (x:=(0:Int)) rfl rfl rfl (by omega) (by omega) (KL _) λb' c'=>?_;rw[e5];refine T.drop λw5 h5=>⟨⟨q+1,b',c',cn,rfl,by rw[tj,<-aH];exact h5⟩,dn (by omega)⟩
  ·apply ef (ao (by omega));by_cases hqi:q=i
   ·subst hqi;apply ir (by simp);dsimp only at tj;rw[ai rfl] at tj;apply dU ⟨rfl,trivial⟩;refine uF λr1=>?_;refine kZ (g:=I1) (l:=done++(ln n _).take q) (x:=code) rfl rfl rfl (by omega) (by omega) (KL _) λb' c'=>?_;rw[e5];refine T.drop λw5 h5=>⟨⟨q+1,b',c',cn,rfl,by rw[tj,<-aH];exact h5⟩,dn (by omega)⟩
   ·refine ef (by simp;omega) ?_;dsimp only at tj;rw[ag hqi] at tj;apply dU ⟨rfl,trivial⟩;refine uF λr1=>?_;refine kZ (g:=I1) (l:=done++(ln n _).take q) (x:=(1:Int)) rfl rfl rfl (by omega) (by omega) (KL _) λb' c'=>?_;rw[e5];refine T.drop λw5 h5=>⟨⟨q+1,b',c',cn,rfl,by rw[tj,<-aH];exact h5⟩,dn (by omega)⟩
 ·have iZ:q=n:=by omega
  subst iZ;rw[bU (Nat.le_of_eq (lg q o))];have e6:aa.wrap (((at_+q-1:Nat):Int)+1)=((at_+q:Nat):Int):=by rw[aX (by omega)];omega
  rw[e6];rcases ho with⟨rfl,hb⟩|⟨i,rfl,hi,rfl⟩
  ·apply ir (aw hb);rw[ai rfl] at pT;have fin:∀Ny,Bk p m mb mc kb kc R p6 mN nb nc nk Uu Ny->T W (ML p6 mN nb nc nk Uu (own b (at_+q) c 1 ((done++ln q none).flatMap I1)::own lb l.length lc 31 (l.flatMap Br)::Ny))
                       (λw8=>Wd W R p m mb mc kb kc l lb lc [.p (ah p6),.l none 0 0,.p none,.l b (at_+q) c,.i ((at_+q:Nat):Int)] w8/\Rmu l.length [.p (ah p6),.l none 0 0,.p none,.l b (at_+q) c,.i ((at_+q:Nat):Int)] w8<Rmu l.length [.p (ah p2),.l none 0 0,.p none,.l ob at_ oc,.i (at_:Int)] w2):=λNy afM w8 h8=>by
    refine⟨⟨at_+q,fuel,mN,done++ln q none,p6,nb,nc,nk,Uu,b,c,Ny,Ak,by rw[av,lg];omega,S4,pT,hmN,afM,rfl,h8⟩,?_⟩;show l.length-((at_+q:Nat):Int).toNat<l.length-(at_:Int).toNat;omega
   rcases Ck with⟨rfl,rfl,rfl,rfl,rfl,rfl,rfl⟩|rfl
   ·apply T.perm (fin _ (.inr rfl));exact(bG (l₁:=[Sep.pt p2 (ES m' rh q9 kN kM),own rh m'.cW.length q9 14 (m'.cW.flatMap aO),own kN m'.ax.length kM 33 (m'.ax.flatMap bM)]) (l₂:=[_,_])|>.append_right R').append_left [_,_,_]
   ·apply T.sub (fin _ (.inr rfl));exact qo
  ·apply ef (ao (by omega));rw[ag (by simp)] at pT;refine T.drop (T.drop (T.drop λw8 h8=>?_));refine⟨⟨at_+q,fuel,m',done++ln q (some (i,code)),p2,rh,q9,kN,kM,b,c,R',Ak,by rw[av,lg];omega,S4,pT,No,Ck,rfl,h8⟩,?_⟩;show l.length-((at_+q:Nat):Int).toNat<l.length-(at_:Int).toNat;omega
def PS{w2:World}{l:List It}{lb:OA}{lc:Nat}{at_ fuel n:Nat}{m':aA}{done:List Int}{p2:Nat}{rh kN ob:OA}{q9 kM oc:Nat}{R':LH}{bad code:Int}
 (iz:∀x∈l,O9 x)(hl:l.length<=1000)(hn:0<n)(Ak:at_+n<=l.length)(Bu:done.length=at_)(S4:l.length<=fuel+(at_+n))(No:RM m')
 (Ck:Bk p m mb mc kb kc R p2 m' rh q9 kN kM R')
 (Ke:cy A2 (l.drop at_)=(n,decide (bad<0)))(Ay:(bad= -1/\code=0)\/(bad=((at_+n-1:Nat):Int)/\code=2/\at_+n=l.length))
 (pT:iu xM A2 l.length m l=(done++(iu xM A2 (fuel+1) m' (l.drop at_)).1,(iu xM A2 (fuel+1) m' (l.drop at_)).2)):
 T W (ML p2 m' rh q9 kN kM (own ob at_ oc 1 (done.flatMap I1)::own lb l.length lc 31 (l.flatMap Br)::R'))
   (cz.j2 K (ah p2) none 0 0 none ob at_ oc (at_:Int) lb l.length (Wd W R p m mb mc kb kc l lb lc) (Rmu l.length) (ah p2) none 0 0 none ob at_ oc (at_:Int) w2 ((at_+n-1:Nat):Int) bad code):=by
 unfold cz.j2 cz.j4;have hmf:=No.oJ;have hmm:=No.many;refine JZ (by omega) (by omega) λp6 nb0 nc0 nk0 ae8=>?_;apply ws;have kJ:l.drop at_≠[]:=λhh=>by have:=congrArg List.length hh;rw[aS] at this;simp at this;omega
 have gS:=CT (f:=xM) (lk:=A2) (n:=fuel) (s:=m') kJ;have hdd:(l.drop at_).drop n=l.drop (at_+n):=jX;rw[Ke] at gS;dsimp only at gS;rw[hdd] at gS;intro w jS;refine⟨λvv w=>∃(i:Nat)(bd cd:Int)(mN:aA)(nb:OA)(nc:Nat)(nk:OA)(Uu:Nat),i<=n/\RM mN/\
                                                                                                      ((bd<0/\bad<0/\iw xM m' ((l.drop at_).take i) 0=(none,mN))\/(∃q s,bd=((at_+q:Nat):Int)/\q<n/\bad<0/\iw xM m' ((l.drop at_).take n) 0=(some (q,cd),s))\/(bd=bad/\cd=code/\ ¬bad<0))/\
                                                                                                      vv=[.p (ah p2),.l none 0 0,.p none,.l ob at_ oc,.i (at_:Int),.i ((at_+n-1:Nat):Int),.i bd,.i cd,.p (ah p6),.i ((at_+i:Nat):Int)]/\
                                                                                                      St W w (ML p6 mN nb nc nk Uu (ML p2 m' rh q9 kN kM (own ob at_ oc 1 (done.flatMap I1)::own lb l.length lc 31 (l.flatMap Br)::R'))),
  mq 9 (at_+n),⟨0,bad,code,m',nb0,nc0,nk0,ae8,aF _,No,?_,rfl,jS⟩,?_⟩
 ·by_cases hb:bad<0
  ·exact .inl ⟨hb,hb,rfl⟩
  ·exact .inr (.inr ⟨rfl,rfl,hb⟩)
 rintro p13 ain aih aik p14 ob1 Ey oc1 wP SQ bd cd p15 SP w11 ⟨i,bd0,cd0,mN,nb,nc,nk,Uu,hi,hmN,tr,e,ib⟩;cases e
 refine T.at ?_ ib;have e5:aa.wrap (((at_+i:Nat):Int)+1)=((at_+(i+1):Nat):Int):=by rw[aX (by omega)];omega
 have leave:(i=n\/ ¬bd<0)->T W (ML p6 mN nb nc nk Uu (ML p2 m' rh q9 kN kM (own ob at_ oc 1 (done.flatMap I1)::own lb l.length lc 31 (l.flatMap Br)::R')))
  (cz.j3 K (Wd W R p m mb mc kb kc l lb lc) (Rmu l.length) (ah p2) none 0 0 none ob at_ oc (at_:Int) w2 (ah p2) none 0 0 none ob at_ oc (at_:Int) ((at_+n-1:Nat):Int) bd cd (ah p6)):=λhlv=>by
  rcases tr with⟨h1,h2,h3⟩|⟨q,s,h1,h2,h3,h4⟩|⟨h1,h2,h3⟩
  ·have xt:i=n:=by rcases hlv with hh|hh;exact hh;exact aT h1 hh
   subst xt;apply JW (fuel:=fuel) (o:=none) hl hn Ak Bu S4 (.inl ⟨rfl,h1⟩) No hmN Ck;rw[ag (by rw[aw h2];decide),h3] at gS;dsimp only at gS;rw[ai rfl,pT,gS];simp
  ·apply JW (fuel:=fuel) (o:=some (q,cd)) hl hn Ak Bu S4 (.inr ⟨q,rfl,h2,h1⟩) No hmN Ck;rw[ag (by rw[aw h3];decide),h4] at gS;dsimp only at gS;rw[ag (by simp),pT,gS];simp
  ·subst h1 h2;rcases Ay with⟨hb,_⟩|⟨hb,hc,WM⟩
   ·omega
   refine JW (fuel:=fuel) (o:=some (n-1,cd)) hl hn Ak Bu S4 (.inr ⟨n-1,rfl,by omega,by rw[hb];omega⟩) No hmN Ck ?_;rw[ai (by rw[ao h3])] at gS;rw[ag (by simp),pT,gS,hc];rw[show l.drop (at_+n)=[] from gG (by omega),xh];simp
 by_cases hlv:i=n\/ ¬bd<0
 ·have:=leave hlv;apply ga<;>intro g1
  ·have hb: ¬bd<0:=by rcases hlv with hh|hh;omega;exact hh
   rw[ao hb];exact this
  ·exact this
 ·have cn:i<n:=Decidable.byContradiction λhh=>hlv (.inl (by omega));have hb:bd<0:=Decidable.byContradiction λhh=>hlv (.inr hh);have Ms:bad<0/\iw xM m' ((l.drop at_).take i) 0=(none,mN):=by
   rcases tr with⟨h1,h2,h3⟩|⟨q,s,h1,h2,h3,h4⟩|⟨h1,h2,h3⟩
   ·exact⟨h2,h3⟩
   ·omega
   ·omega
  have gx:=aj (show at_+i<l.length by omega);have Ka:=iz _ (bF (show at_+i<l.length by omega));generalize l[at_+i]=x at gx Ka;have gx2:(l.drop at_)[i]?=some x:=by rw[ta];exact gx
  have tj:(l.drop at_).take (i+1)=(l.drop at_).take i++[x]:=by rw[bg,gx2];rfl
  have hti:((l.drop at_).take i).length=i:=by rw[aD,aS];omega
  apply ir (aw (by omega));rw[aw hb];apply qe;refine dS (b:=lb) ⟨by omega,by omega⟩ λrb UR=>?_;rw[ak];subst UR;apply gI (g:=Br) Qk gx;refine XI hmN Ka λnb' nc' nk' ac1=>?_;apply ws;rw[e5];apply dz<;>intro g2
  ·have g2:(xM mN x).1≠0:=by simpa using g2
   refine λw3 h3=>⟨⟨i+1,_,(xM mN x).1,_,nb',nc',nk',ac1,cn,hmN.xM Ka,.inr (.inl ⟨i,mN,rfl,cn,Ms.1,?_⟩),rfl,h3⟩,dn (by omega)⟩;have vD:(l.drop at_).take n=(l.drop at_).take i++x::((l.drop at_).take n).drop (i+1):=by
    have e1:((l.drop at_).take n)[i]?=some x:=by rw[List.getElem?_take_of_lt cn];exact gx2
    obtain⟨R6,hie⟩:=ar.1 e1;have e2:=dy i ((l.drop at_).take n);rw[gh R6,hie,yK,rE (by omega)] at e2;exact e2.symm
   rw[vD,tF _ _ _ _ _ Ms.2,iw,ai g2,hti,aB]
  ·have g2:(xM mN x).1=0:=by simpa using g2
   refine λw3 h3=>⟨⟨i+1,bd,_,_,nb',nc',nk',ac1,cn,hmN.xM Ka,.inl ⟨hb,Ms.1,?_⟩,rfl,h3⟩,dn (by omega)⟩;rw[tj,tF _ _ _ _ _ Ms.2,iw,ag (by omega)]
   rfl
def T8{l:List It}{lb:OA}{lc:Nat}(hm:RM m)(iz:∀x∈l,O9 x)(hl:l.length<=1000)
 (h:∀p2 rh q9 kN kM ob oc R',Bk p m mb mc kb kc R p2 (iu xM A2 l.length m l).2 rh q9 kN kM R'->RM (iu xM A2 l.length m l).2->(iu xM A2 l.length m l).1.length=l.length->
  T W (ML p2 (iu xM A2 l.length m l).2 rh q9 kN kM (own ob l.length oc 1 ((iu xM A2 l.length m l).1.flatMap I1)::own lb l.length lc 31 (l.flatMap Br)::R')) (K (.tuple ⟨[.l ob l.length oc,.p (some ⟨p2,0,none⟩)]⟩))):
 T W (ML p m mb mc kb kc (own lb l.length lc 31 (l.flatMap Br)::R)) (cz (some ⟨p,0,none⟩) lb l.length lc K):=by
 unfold cz cz.j1;refine im (e:=1) ?_;apply T.K9;intro w jS;refine⟨Wd W R p m mb mc kb kc l lb lc,Rmu l.length,⟨0,l.length,m,[],p,mb,mc,kb,kc,none,0,R,aF _,rfl,by omega,by simp,hm,.inl ⟨rfl,rfl,rfl,rfl,rfl,rfl,rfl⟩,rfl,jS⟩,?_⟩;rintro p2v ov mo qf p3 ob at_ oc n1 w2 ⟨at0,fuel,m',done,p2,rh,q9,kN,kM,ob0,oc0,R',Ak,Bu,S4,pT,No,Ck,e,ib⟩;cases e
 refine T.at ?_ ib;apply ga<;>intro g1
 ·have cn:at_<l.length:=by omega
  intro w3 vU;refine⟨λvv w=>∃e:Nat,at_<=e/\e<=l.length/\(∀j y,j<e-at_->(l.drop at_)[j]?=some y->A2 y=true)/\vv=[.p (some ⟨p2,0,none⟩),.l none 0 0,.p none,.l ob at_ oc,.i (at_:Int),.i (e:Int)]/\
   St W w (ML p2 m' rh q9 kN kM (own ob at_ oc 1 (done.flatMap I1)::own lb l.length lc 31 (l.flatMap Br)::R')),
   mq 5 l.length,⟨at_,aI _,Ak,(λj y hj=>by omega),rfl,vU⟩,?_⟩
  rintro p16 aim aif aij p17 ail aie aii n22 n23 w15 ⟨en,aiB,aiA,fI,e,Qq⟩;cases e
  refine T.at ?_ Qq;obtain⟨fuel,rfl⟩:∃k,fuel=k+1:=⟨fuel-1,by omega⟩;apply ga<;>intro g2
  ·have vE:en<l.length:=by omega
   have gx:=aj vE;generalize l[en]=x at gx;have gx2:(l.drop at_)[en-at_]?=some x:=by rw[ta,show at_+(en-at_)=en by omega];exact gx
   refine dS (b:=lb) ⟨by omega,by omega⟩ λrb UR=>?_;rw[ak];subst UR;apply gI (g:=Br) Qk gx;apply LK;apply oF;cases hlk:A2 x with
   |true=>
    apply qe;have e5:=nI en;rw[e5];refine λw6 h6=>⟨⟨en+1,by omega,vE,λj y hj hy=>?_,rfl,h6⟩,dn (by omega)⟩;by_cases hje:j=en-at_
    ·subst hje;rw[gx2] at hy;cases hy
     exact hlk
    ·exact fI j y (by omega) hy
   |false=>
    apply jU;refine ef (by simp;omega) ?_;have hc:=yB (linked:=A2) fI gx2 hlk;have:=PS (W:=W) (R:=R) (K:=K) (p:=p) (m:=m) (mb:=mb) (mc:=mc) (kb:=kb) (kc:=kc) (w2:=w2) (lb:=some ⟨rb,0,none⟩) (lc:=lc) (n:=en-at_+1) (bad:= -1) (code:=0) (fuel:=fuel) (ob:=ob) (oc:=oc) (done:=done) iz hl (by omega) (by omega) Bu (by omega) No Ck (by rw[hc];rfl) (.inl ⟨rfl,rfl⟩) pT;rw[show at_+(en-at_+1) -1=en by omega] at this;exact this
  ·have iZ:en=l.length:=by omega
   subst iZ;apply ir (by simp);have xv:(l.drop at_).length=l.length-at_:=aS;have hc:=wE (linked:=A2) (l:=l.drop at_) λx hx=>by
    obtain⟨j,hj⟩:=qW hx;exact fI j x (by have:=(ar.1 hj).1;omega) hj
   have:=PS (W:=W) (R:=R) (K:=K) (p:=p) (m:=m) (mb:=mb) (mc:=mc) (kb:=kb) (kc:=kc) (w2:=w2) (lb:=lb) (lc:=lc) (n:=l.length-at_) (bad:=((l.length-1:Nat):Int)) (code:=2) (fuel:=fuel) (ob:=ob) (oc:=oc) (done:=done) iz hl (by omega) (by omega) Bu (by omega) No Ck (by rw[hc,xv];rw[ao (by omega)]) (.inr ⟨by congr 1;omega,rfl,by omega⟩) pT;have e7:aa.wrap ((l.length:Int) -1)=((l.length-1:Nat):Int):=by rw[aX (by omega)];omega
   rw[show at_+(l.length-at_) -1=l.length-1 by omega] at this;rw[e7];exact this
 ·have iZ:at_=l.length:=by omega
  subst iZ;rw[List.drop_length,xh] at pT;simp only[bR] at pT;rw[pT] at h;exact h p2 rh q9 kN kM ob oc R' Ck No Bu
end
def D8{α β:Type}(f:α->β)(lk:β->Bool):∀l:List α,cy lk (l.map f)=cy (λx=>lk (f x)) l
 |[]=>rfl
 |x::l=>by
  simp only[dx,cy];rw[D8 f lk l]
def Jm{α β σ:Type}(f:α->β)(g:σ->β->Int×σ):∀(l:List α)(s:σ)(i:Nat),iw g s (l.map f) i=iw (λs x=>g s (f x)) s l i
 |[],s,i=>rfl
 |x::l,s,i=>by
  simp only[dx,iw];rw[Jm f g l]
def FP{α β σ:Type}(f:α->β)(g:σ->β->Int×σ)(lk:β->Bool):∀(n:Nat)(s:σ)(l:List α),iu g lk n s (l.map f)=iu (λs x=>g s (f x)) (λx=>lk (f x)) n s l
 |0,s,l=>rfl
 |n+1,s,[]=>rfl
 |n+1,s,x::l=>by
  have e:=D8 f lk (x::l);rw[dx] at e;rw[dx];unfold iu;rw[e,<-dx,<-List.map_take,<-List.map_drop,Jm];simp only[FP f g lk n]
section
variable {W:World} {L R:LH} {K:VK} {X:WK} {p:Nat} {m:aA} {mb kb:OA} {mc kc:Nat} {q:j0} {s:wG}
def PK(m:aA)(l:List bP):iu xM A2 l.length m (l.map It.a)=iu aA.make Bq l.length m l:=FP It.a xM A2 _ m l
def PI(m:aA)(l:List cH):iu xM A2 l.length m (l.map It.t)=iu aA.rI Bp l.length m l:=FP It.t xM A2 _ m l
def RM.bD{m:aA}{q:j0}(h:RM m)(h1:q.op=1->∀a∈q.aC,yJ a)(h2:q.op=2->∀t∈q.cA,yF t):RM (bD m q).2.2:=by
 have run:∀(n:Nat)(l:List It)(m:aA),(∀x∈l,O9 x)->RM m->RM (iu Up.xM A2 n m l).2:=by
  intro n
  induction n with
  |zero=>intro l m _ hm;exact hm
  |succ n ih=>
   intro l m iz hm;cases l with
   |nil=>exact hm
   |cons x l=>
    have fI:∀(l:List It)(m:aA)(i:Nat),(∀x∈l,O9 x)->RM m->(iw Up.xM m l i).1=none->RM (iw Up.xM m l i).2:=by
     intro l
     induction l with
     |nil=>intro m i _ hm _;exact hm
     |cons y l WA=>
      intro m i iz hm hn;unfold iw at hn⊢;by_cases hc:(Up.xM m y).1≠0
      ·rw[ai hc] at hn;cases hn
      ·rw[ag hc] at hn⊢;exact WA _ _ (λz hz=>iz z (jV _ hz)) (hm.xM (iz y sX)) hn
    rw[iu];by_cases hw:(cy A2 (x::l)).2=false
    ·rw[ai hw];exact hm
    rw[ag hw];cases hd:iw Up.xM m ((x::l).take (cy A2 (x::l)).1) 0 with
    |mk o s'=>
     have Mr:∀z∈(x::l).drop (cy A2 (x::l)).1,O9 z:=λz hz=>iz z (List.mem_of_mem_drop hz);cases o with
     |none=>
      have:=fI _ m 0 (λz hz=>iz z (List.mem_of_mem_take hz)) hm (by rw[hd]);rw[hd] at this;exact ih _ _ Mr this
     |some e=>exact ih _ _ Mr hm
 unfold Up.bD;by_cases he:lJ q=false
 ·rw[ai he];exact h
 rw[ag he];by_cases o1:q.op=1
 ·rw[ai o1,<-PK];exact run _ _ _ (λx hx=>by obtain⟨a,ha,rfl⟩:=cV.1 hx;exact h1 o1 a ha) h
 rw[ag o1];by_cases o2:q.op=2
 ·rw[ai o2,<-PI];exact run _ _ _ (λx hx=>by obtain⟨a,ha,rfl⟩:=cV.1 hx;exact h2 o2 a ha) h
 rw[ag o2];apply h.time _;unfold lJ at he;rw[ag o1,ag o2] at he;by_cases o3:q.op=3
 ·rw[ai o3] at he;have he:(decide (0<=q.now)&&decide (q.now<=1099511627776))=true:=by simpa using he
  simp only[df,decide_eq_true_eq] at he;exact he.1
 ·rw[ag o3] at he;exact aT rfl he
def XG(hm:RM m)(hq:pw W R q s)(DU:q.aC.length<1000000)(cn:q.cA.length<1000000)(h1:q.op=1->∀a∈q.aC,yJ a)(h2:q.op=2->∀t∈q.cA,yF t)
 (h:∀p2 rh q9 kN kM ob oc R',Bk p m mb mc kb kc R p2 (bD m q).2.2 rh q9 kN kM R'->RM (bD m q).2.2->
  T W (ML p2 (bD m q).2.2 rh q9 kN kM (own ob (bD m q).2.1.length oc 1 ((bD m q).2.1.flatMap I1)::R')) (K (.tuple ⟨[.l ob (bD m q).2.1.length oc,.i (bD m q).1,.p (ah p2)]⟩))):
 T W (ML p m mb mc kb kc R) (jj (ah p) (gP q s) K):=by
 unfold jj jj.j1;have hmf:=hm.oJ;have hmm:=hm.many;have WM:=hm.bD h1 h2;apply ws;intros;rename_i r1;apply IA;by_cases he:lJ q=false
 ·rw[he];apply ws;have e:bD m q=(1,[],m):=by unfold bD;rw[ai he]
  rw[e] at h WM;refine T.drop ?_;refine im (e:=1) ?_;apply T.SK;exact h p mb mc kb kc none 0 R (.inl ⟨rfl,rfl,rfl,rfl,rfl,rfl,rfl⟩) hm
 have Qw:lJ q=true:=by simpa using he
 rw[Qw];apply ws;apply dz<;>intro g1
 ·have g1:q.op=3:=by simpa using g1
  have e:bD m q=(0,[],m.time q.now):=by unfold bD;rw[ag he,ag (by omega),ag (by omega)]
  rw[e] at h WM;apply T.SK;refine JZ (by omega) (by omega) λp2 nb nc nk Uu=>?_;apply ws;refine XC (by omega) (λk hk=>?_) ?_
  ·have:=hm.ax k hk;have t1:=this.cB;have t2:=this.iE;exact aX (by omega)
  apply ws;refine im (e:=1) ?_;apply T.K9;apply T.sub (h p2 nb nc nk Uu none 0 _ (.inr rfl) WM)
  repeat (first|exact bm.refl _|apply bm.cons_cons|apply bm.cons)
 ·have g1: ¬q.op=3:=by simpa using g1
  have aiu:q.op=1\/q.op=2:=by
   unfold lJ at Qw;by_cases o1:q.op=1
   ·exact .inl o1
   ·by_cases o2:q.op=2
    ·exact .inr o2
    ·rw[ag o1,ag o2,ag g1] at Qw;cases Qw
  apply ws;refine HF (R:=R) hq.aC (by omega) λb c=>?_;apply ws;have hl8:q.op=1->q.aC.length<=8:=λo1=>by
   unfold lJ at Qw;rw[ai o1] at Qw;simp only[df,decide_eq_true_eq] at Qw;exact Qw.2
  have afm:q.op=2->q.cA.length<=8:=λo2=>by
   unfold lJ at Qw;rw[ag (by omega),ai o2] at Qw;simp only[df,decide_eq_true_eq] at Qw;exact Qw.2
  apply dz<;>intro g2
  ·have g2:q.op=2:=by simpa using g2
   have e:bD m q=(0,iu xM A2 (q.cA.map It.t).length m (q.cA.map It.t)):=by unfold bD;rw[ag he,ag (by omega),ai g2,bQ,PI]
   rw[e] at h WM;apply ws;refine F3 (R:=R) hq.cA (by omega) λb2 c2=>?_;apply ws;refine T.sub (M:=own b2 q.cA.length c2 31 ((q.cA.map It.t).flatMap Br)::ML p m mb mc kb kc R) ?_ (by repeat (first|exact bm.refl _|apply bm.cons_cons|apply bm.cons));apply T.SK;have WH:q.cA.length=(q.cA.map It.t).length:=(bQ _).symm;rw[WH];refine T8 hm (λx hx=>by obtain⟨t,ht,rfl⟩:=cV.1 hx;exact h2 g2 t ht) (by rw[bQ];have:=afm g2;omega) λp2 rh q9 kN kM ob oc R' Ck KW hlen=>?_;apply ws;have hh:=h p2 rh q9 kN kM ob oc R' Ck KW;dsimp only at hh;rw[hlen] at hh;apply T.sub hh;exact qo
  ·have g2: ¬q.op=2:=by simpa using g2
   have o1:q.op=1:=by omega
   have e:bD m q=(0,iu xM A2 (q.aC.map It.a).length m (q.aC.map It.a)):=by unfold bD;rw[ag he,ai o1,bQ,PK]
   rw[e] at h WM;refine T.sub (M:=own b q.aC.length c 31 ((q.aC.map It.a).flatMap Br)::ML p m mb mc kb kc R) ?_ (by repeat (first|exact bm.refl _|apply bm.cons_cons|apply bm.cons));apply T.SK;have WH:q.aC.length=(q.aC.map It.a).length:=(bQ _).symm;rw[WH];refine T8 hm (λx hx=>by obtain⟨t,ht,rfl⟩:=cV.1 hx;exact h1 o1 t ht) (by rw[bQ];have:=hl8 o1;omega) λp2 rh q9 kN kM ob oc R' Ck KW hlen=>?_;apply ws;have hh:=h p2 rh q9 kN kM ob oc R' Ck KW;dsimp only at hh;rw[hlen] at hh;apply T.sub hh;exact qo
end
def Cc(from_ toX s:Int):Bool:=decide (from_<=s/\(toX=0\/s<=toX))
def LP{s:Int}:∀{l:List oG},(∀p∈l,s<=p.1)->pos s l=0
 |[],_=>rfl
 |p::l,h=>by unfold pos;rw[ag (by have:=h p sX;omega)]
def zV{toX:Int}(h0: ¬toX=0){l:List oG}(h:∀p∈l,toX<p.1):xe toX l=0:=by
 unfold xe;rw[ag h0,LP λp hp=>by have:=h p hp;omega];cases l with
 |nil=>rfl
 |cons q l=>
  have:=h q sX;show(if q.1=toX then 0+1 else 0)=0;rw[ag (by omega)]
def Ia{toX:Int}(h0: ¬toX=0){p:oG}{l:List oG}(fI:∀q∈l,p.1<q.1):xe toX (p::l)=if p.1<toX+1 then xe toX l+1 else 0:=by
 by_cases h1:p.1<toX
 ·rw[ai (by omega)];unfold xe;rw[ag h0,ag h0,pos,ai h1,bX];cases l[pos toX l]? with
  |none=>rfl
  |some q=>
   dsimp only;split<;>rfl
 ·by_cases h2:p.1=toX
  ·rw[ai (by omega),zV (l:=l) h0 λq hq=>by have:=fI q hq;omega];unfold xe;rw[ag h0,show pos toX (p::l)=0 by rw[pos,ag h1]];show(if p.1=toX then 0+1 else 0)=1;rw[ai h2]
  ·rw[ag (by omega)];exact zV h0 λq hq=>by
    rcases ka.1 hq with hq|hq
    ·subst hq;omega
    ·have:=fI q hq;omega
def AB(from_ toX:Int):∀(l:List oG),tM l->q8 from_ toX l=l.filter λp=>Cc from_ toX p.1
 |[],_=>by unfold q8;simp
 |p::l,hr=>by
  have Nk:tM l:=(List.pairwise_cons.1 hr).2;have fI:∀q∈l,p.1<q.1:=(List.pairwise_cons.1 hr).1;have ih:=AB from_ toX l Nk;unfold q8 at ih⊢;by_cases h1:p.1<from_
  ·have e1:pos from_ (p::l)=pos from_ l+1:=by rw[pos,ai h1]
   have e2:Cc from_ toX p.1=false:=ao (by omega);rw[e1,lX (by rw[e2];decide),List.drop_succ_cons,<-ih];by_cases h2:toX=0
   ·unfold xe;rw[ai h2,ai h2];simp only[bE,Nat.add_sub_add_right]
   ·rw[Ia h2 fI];by_cases h3:p.1<toX+1
    ·rw[ai h3,Nat.add_sub_add_right]
    ·rw[ag h3,zV h2 λq hq=>by have:=fI q hq;omega];simp
  ·have e1:pos from_ (p::l)=0:=by rw[pos,ag h1]
   have e3:pos from_ l=0:=LP λq hq=>by have:=fI q hq;omega
   rw[e3,Nat.sub_zero,jf] at ih;rw[e1,Nat.sub_zero,jf];by_cases h2:toX=0
   ·have e2:Cc from_ toX p.1=true:=aw (by omega);unfold xe at ih⊢;rw[ai h2] at ih⊢;rw[lW (p:=λp:oG=>Cc from_ toX p.1) (a:=p) (l:=l) e2,<-ih];simp
   ·rw[Ia h2 fI];by_cases h3:p.1<toX+1
    ·have e2:Cc from_ toX p.1=true:=aw (by omega);rw[ai h3,List.take_succ_cons,ih,lW (p:=λp:oG=>Cc from_ toX p.1) (a:=p) (l:=l) e2]
    ·have e2:Cc from_ toX p.1=false:=ao (by omega);rw[zV h2 λq hq=>by have:=fI q hq;omega,mR] at ih;rw[ag h3,mR,lX (by rw[e2];decide),<-ih]
def yO{b:ba}(P:Int->Bool):∀(l:List cr)(i:Nat),(∀j,j<l.length->b.ax[i+j]?=l[j]?)->((fB i l).filter λp=>P p.1).map (yk b)=l.filter λk=>P k.move.ay
 |[],i,_=>rfl
 |k::l,i,h=>by
  have h0:=h 0 (by simp);rw[gM] at h0;have hka:yk b (k.move.ay,(i:Int))=k:=by unfold yk;dsimp only;rw[ak,h0];rfl
  have ih:=yO P l (i+1) λj hj=>by
   have:=h (j+1) (by simpa using hj);rw[bX] at this;rw[<-this];congr 1;omega
  unfold fB;by_cases hp:P k.move.ay=true
  ·rw[lW (by exact hp),lW (by exact hp),dx,hka,ih]
  ·rw[lX (by exact hp),lX (by exact hp),ih]
def ab8{b:ba}(hg:eB b)(from_ toX:Int)(yj:Bool):btw b from_ toX yj=(if yj then b.ax.reverse else b.ax).filter λk=>Cc from_ toX k.move.ay:=by
 have h:=AB from_ toX _ hg.zn;have h2:=yO (b:=b) (Cc from_ toX) b.ax 0 λj hj=>by rw[aB]
 unfold btw;rw[h];cases yj with
 |true=>
  rw[ai rfl,ai rfl,List.map_reverse,h2,List.filter_reverse]
 |false=>
  rw[ag cO,ag cO,h2]
def zH{α:Type}{key:α->Nat}:∀(l:List α)(id:Nat),(l.map key).Nodup->(l.filter λx=>decide (key x=id))=(l.find? λx=>decide (key x=id)).toList
 |[],id,_=>rfl
 |x::l,id,hn=>by
  rw[dx,List.nodup_cons] at hn;by_cases h:key x=id
  ·rw[lW (p:=λx=>decide (key x=id)) (a:=x) (l:=l) (aw h),List.find?_cons_of_pos (p:=λx=>decide (key x=id)) (a:=x) (aw h)];have:l.filter (λx=>decide (key x=id))=[]:=by
    rw[List.filter_eq_nil_iff];intro y hy hh;exact hn.1 (by rw[h,<-aR hh];exact List.mem_map_of_mem hy)
   rw[this];rfl
  ·rw[lX (p:=λx=>decide (key x=id)) (a:=x) (l:=l) (by rw[ao h];decide),List.find?_cons_of_neg (p:=λx=>decide (key x=id)) (a:=x) (by rw[ao h];decide),zH l id hn.2]
def vF{α β:Type}(f:α->Option β):∀l:List α,l.filterMap f=l.flatMap λx=>(f x).toList
 |[]=>rfl
 |x::l=>by
  rw[iQ,<-vF f l,List.filterMap_cons];cases f x<;>rfl
def findAll{b:ba}(hg:eB b)(ids:List Nat):(ids.flatMap λid=>b.aC.filter λa=>decide (a.id=id))=ids.filterMap b.find:=by
 rw[vF]
 congr 1
 funext id
 exact zH (key:=λa:bP=>a.id) b.aC id hg.ids
def Uw{b:ba}(hg:eB b)(ids:List Nat):(ids.flatMap λid=>(b.ax.filter λk=>decide (k.move.id=id)).map (·.move))=ids.filterMap λid=>(b.named id).map (·.move):=by
 rw[vF]
 congr 1
 funext id
 rw[zH (key:=λk:cr=>k.move.id) b.ax id hg.names];show _=((b.ax.find? _).map _).toList;cases b.ax.find? (λx=>decide (x.move.id=id))<;>rfl
def Uo(b:ba)(q:j0):List cH:=((((if q.rv then b.ax.reverse else b.ax).filter λk=>Cc q.ky q.yu k.move.ay&&fits q k).take q.lz.toNat)).map (·.move)
def LW{b:ba}(hg:eB b)(q:j0):Uo b q=ofL b q:=by
 unfold Uo ofL;rw[ab8 hg,List.filter_filter]
 congr 2
 apply List.filter_congr;intro k _;rw[Bool.and_comm]
section
variable {W:World} {L R:LH} {K:VK} {X:WK} {q:j0} {s:wG}
def HE{ab:OA}{ac:Nat}{al:List bP}{f:HP->LH}[i:wX ab al.length ac L 14 (al.flatMap aO) f][hh:Has R L]{s:OA}{c:Nat}{ids:List Nat}(hr:mE W R nm 2 s ids)(hl:ids.length<=1000)(hal:al.length<=1000)
 (h:∀b' c' out,out=(ids.flatMap λid=>al.filter λa=>decide (a.id=id))->T W (own b' out.length c' 14 (out.flatMap aO)::L) (K (.l b' out.length c'))):T W L (mh ab al.length ac s ids.length c K):=by
 unfold mh;refine im (e:=14) ?_;intro w jS;refine⟨λvv w=>∃(i:Nat)(bo:OA)(cc:Nat)(done:List bP),i<=ids.length/\done=((ids.take i).flatMap λid=>al.filter λa=>decide (a.id=id))/\done.length<=1000* i/\vv=[.l none 0 0,.l bo done.length cc,.l s ids.length c,.i (ids.length:Int),.i (i:Int)]/\
  St W w (own bo done.length cc 14 (done.flatMap aO)::L),
  mq 4 ids.length,⟨0,none,0,[],aF _,by simp,by simp,rfl,jS⟩,?_⟩
 rintro ov mo qf bo nJ cc uU uG uP n3 n4 w2 ⟨i,b0,c0,done,hi,l9,Bu,e,ib⟩;cases e
 refine T.at ?_ ib;apply ga<;>intro g1
 ·have cn:i<ids.length:=by omega
  have gx:=aj cn;generalize ids[i]=x at gx;have gS:((ids.take (i+1)).flatMap λid=>al.filter λa=>decide (a.id=id))=done++al.filter λa=>decide (a.id=x):=by
   rw[bg,gx,gj,<-l9];simp
  refine iq hr ⟨by omega,by omega⟩ rfl λa ha=>?_;rw[ak];apply kY hr ha gx rfl;apply ws;intros;rename_i r1;intro w3 vU;refine⟨λvv w=>∃(j:Nat)(bo:OA)(cc:Nat)(dn:List bP),j<=al.length/\dn=done++((al.take j).filter λa=>decide (a.id=x))/\dn.length<=1000* i+j/\vv=[.l none 0 0,.l bo dn.length cc,.p (some (ad r1 0)),.l s ids.length c,.i (ids.length:Int),.i (i:Int),.l ab al.length ac,.i (al.length:Int),.i (j:Int)]/\
                                                    St W w (Sep.pt r1 (nm x)::own bo dn.length cc 14 (dn.flatMap aO)::L),
   mq 8 al.length,⟨0,bo,cc,done,aF _,by simp,by omega,rfl,vU⟩,?_⟩
  rintro TY SM SN bo2 Lm cc2 a2 KT Im Ls n5 n6 sb9 sn9 sc9 n7 n8 w4 ⟨j,b1,c1,dn,hj,Yr,afz,e,yR⟩;cases e
  refine T.at ?_ yR;have e5:=nI j;apply ga<;>intro g2
  ·have vE:j<al.length:=by omega
   have gy:=aj vE;generalize al[j]=y at gy;refine dS (b:=ab) ⟨by omega,by omega⟩ λrb hb=>?_;rw[ak];subst hb;apply gI jT gy;apply ws;intros;rw[e5];apply dz<;>intro g3
   ·have HJ:done++((al.take (j+1)).filter λa=>decide (a.id=x))=dn++[y]:=by
     rw[bg,gy,List.filter_append,<-aH,<-Yr]
     congr 1
     show[y].filter _=[y];rw[lW (by exact g3)];rfl
    apply ws;intros;refine kZ (g:=aO) (l:=dn) (x:=y) (bR _) rfl rfl (by omega) (by omega) (iV _) λb2 c2=>?_;refine T.drop (T.drop λw5 h5=>⟨⟨j+1,b2,c2,dn++[y],vE,HJ.symm,by simp;omega,by simp,by simpa using h5⟩,Sep.dn (by omega)⟩)
   ·have HJ:done++((al.take (j+1)).filter λa=>decide (a.id=x))=dn:=by
     rw[bg,gy,List.filter_append,<-aH,<-Yr];have:[y].filter (λa:bP=>decide (a.id=x))=[]:=by rw[lX (by rw[g3];decide)];rfl
     show dn++[y].filter _=dn;rw[this,bR]
    refine T.drop λw5 h5=>⟨⟨j+1,bo2,cc2,dn,vE,HJ.symm,by omega,rfl,h5⟩,Sep.dn (by omega)⟩
  ·have iZ:j=al.length:=by omega
   subst iZ;rw[aV] at Yr;have e6:=nI i;rw[e6];refine T.drop λw5 h5=>⟨⟨i+1,bo2,cc2,dn,cn,by rw[gS,Yr],by omega,rfl,h5⟩,Sep.dn (by omega)⟩
 ·have iZ:i=ids.length:=by omega
  subst iZ;rw[aV] at l9;exact h bo cc done l9
def F2{ab:OA}{ac:Nat}{al:List cr}{f:HP->LH}[i:wX ab al.length ac L 33 (al.flatMap bM) f][hh:Has R L]{s:OA}{c:Nat}{ids:List Nat}(hr:mE W R nm 2 s ids)(hl:ids.length<=1000)(hal:al.length<=1000)
 (h:∀b' c' out,out=(ids.flatMap λid=>(al.filter λk=>decide (k.move.id=id)).map (·.move))->T W (own b' out.length c' 16 (out.flatMap aN)::L) (K (.l b' out.length c'))):T W L (lD ab al.length ac s ids.length c K):=by
 unfold lD;refine im (e:=16) ?_;intro w jS;refine⟨λvv w=>∃(i:Nat)(bo:OA)(cc:Nat)(done:List cH),i<=ids.length/\done=((ids.take i).flatMap λid=>(al.filter λk=>decide (k.move.id=id)).map (·.move))/\done.length<=1000* i/\vv=[.l none 0 0,.l bo done.length cc,.l s ids.length c,.i (ids.length:Int),.i (i:Int)]/\
  St W w (own bo done.length cc 16 (done.flatMap aN)::L),
  mq 4 ids.length,⟨0,none,0,[],aF _,by simp,by simp,rfl,jS⟩,?_⟩
 rintro ov mo qf bo nJ cc uU uG uP n3 n4 w2 ⟨i,b0,c0,done,hi,l9,Bu,e,ib⟩;cases e
 refine T.at ?_ ib;apply ga<;>intro g1
 ·have cn:i<ids.length:=by omega
  have gx:=aj cn;generalize ids[i]=x at gx;have gS:((ids.take (i+1)).flatMap λid=>(al.filter λk=>decide (k.move.id=id)).map (·.move))=done++(al.filter λk=>decide (k.move.id=x)).map (·.move):=by
   rw[bg,gx,gj,<-l9];simp
  refine iq hr ⟨by omega,by omega⟩ rfl λa ha=>?_;rw[ak];apply kY hr ha gx rfl;apply ws;intros;rename_i r1;intro w3 vU;refine⟨λvv w=>∃(j:Nat)(bo:OA)(cc:Nat)(dn:List cH),j<=al.length/\dn=done++((al.take j).filter λk=>decide (k.move.id=x)).map (·.move)/\dn.length<=1000* i+j/\vv=[.l none 0 0,.l bo dn.length cc,.p (some (ad r1 0)),.l s ids.length c,.i (ids.length:Int),.i (i:Int),.l ab al.length ac,.i (al.length:Int),.i (j:Int)]/\
                                                    St W w (Sep.pt r1 (nm x)::own bo dn.length cc 16 (dn.flatMap aN)::L),
   mq 8 al.length,⟨0,bo,cc,done,aF _,by simp,by omega,rfl,vU⟩,?_⟩
  rintro TY SM SN bo2 Lm cc2 a2 KT Im Ls n5 n6 sb9 sn9 sc9 n7 n8 w4 ⟨j,b1,c1,dn,hj,Yr,afz,e,yR⟩;cases e
  refine T.at ?_ yR;have e5:=nI j;apply ga<;>intro g2
  ·have vE:j<al.length:=by omega
   have gy:=aj vE;generalize al[j]=y at gy;refine dS (b:=ab) ⟨by omega,by omega⟩ λrb hb=>?_;rw[ak];subst hb;apply gI jB gy;apply ws;intros;rw[e5];apply dz<;>intro g3
   ·have HJ:done++((al.take (j+1)).filter λk=>decide (k.move.id=x)).map (·.move)=dn++[y.move]:=by
     rw[bg,gy,List.filter_append,cF,<-aH,<-Yr]
     congr 1
     show([y].filter _).map _=[y.move];rw[lW (by exact g3)];rfl
    apply ws;intros;refine kZ (g:=aN) (l:=dn) (x:=y.move) (bR _) rfl rfl (by omega) (by omega) (pQ _) λb2 c2=>?_;refine T.drop (T.drop λw5 h5=>⟨⟨j+1,b2,c2,dn++[y.move],vE,HJ.symm,by simp;omega,by simp,by simpa using h5⟩,Sep.dn (by omega)⟩)
   ·have HJ:done++((al.take (j+1)).filter λk=>decide (k.move.id=x)).map (·.move)=dn:=by
     rw[bg,gy,List.filter_append,cF,<-aH,<-Yr];have:[y].filter (λk:cr=>decide (k.move.id=x))=[]:=by rw[lX (by rw[g3];decide)];rfl
     show dn++([y].filter _).map _=dn;rw[this];simp
    refine T.drop λw5 h5=>⟨⟨j+1,bo2,cc2,dn,vE,HJ.symm,by omega,rfl,h5⟩,Sep.dn (by omega)⟩
  ·have iZ:j=al.length:=by omega
   subst iZ;rw[aV] at Yr;have e6:=nI i;rw[e6];refine T.drop λw5 h5=>⟨⟨i+1,bo2,cc2,dn,cn,by rw[gS,Yr],by omega,rfl,h5⟩,Sep.dn (by omega)⟩
 ·have iZ:i=ids.length:=by omega
  subst iZ;rw[aV] at l9;exact h bo cc done l9
end
instance{t:cH}:Sub (aN t) 2 2 (nm t.bI):=⟨rfl,(zh (cs:=aN t) (o:=2) (n:=t.bI) rfl rfl).2⟩
instance{t:cH}:Sub (aN t) 4 2 (nm t.aU):=⟨rfl,(zh (cs:=aN t) (o:=4) (n:=t.aU) rfl rfl).2⟩
section
variable {W:World} {L R M:LH} {K:VK} {X:WK} {q:j0} {s:wG}
def Rf{I1:LV->World->Prop}{kS:LV->World->Nat}{r1 r2 cc:Nat}{bo:OA}{done:List cH}{x:cr}{n3 n4:Int}{w2:World}{g:LV->LH}
 (hA:(done.length<q.lz.toNat/\(Cc q.ky q.yu x.move.ay&&fits q x)=true)->∀b2 c2,T W (own b2 (done.length+1) c2 16 ((done++[x.move]).flatMap aN)::M) (λw3=>I1 [.p (some (ad r1 0)),.l none 0 0,.l b2 (done.length+1) c2,.i n3,.i (aa.wrap (n4+1))] w3/\
  kS [.p (some (ad r1 0)),.l none 0 0,.l b2 (done.length+1) c2,.i n3,.i (aa.wrap (n4+1))] w3<kS [.p (some (ad r1 0)),.l none 0 0,.l bo done.length cc,.i n3,.i n4] w2))
 (hN: ¬(done.length<q.lz.toNat/\(Cc q.ky q.yu x.move.ay&&fits q x)=true)->T W (own bo done.length cc 16 (done.flatMap aN)::M) (λw3=>I1 [.p (some (ad r1 0)),.l none 0 0,.l bo done.length cc,.i n3,.i (aa.wrap (n4+1))] w3/\
  kS [.p (some (ad r1 0)),.l none 0 0,.l bo done.length cc,.i n3,.i (aa.wrap (n4+1))] w3<kS [.p (some (ad r1 0)),.l none 0 0,.l bo done.length cc,.i n3,.i n4] w2))
 [i1:Lc (Sep.pt r1) M (qv q) g](Kb:0<=q.lz/\q.lz<=16)(hd:done.length<=1000):
 T W (Sep.pt r2 (bM x)::own bo done.length cc 16 (done.flatMap aN)::M) (bT.j1 K r2 (ad r1 0) I1 none 0 0 bo done.length cc n3 n4 kS w2):=by
 have j3:∀(r3:Nat)(yes:Bool),(yes=true↔done.length<q.lz.toNat/\(Cc q.ky q.yu x.move.ay&&fits q x)=true)->T W (Sep.pt r3 (aN x.move)::Sep.pt r2 (bM x)::own bo done.length cc 16 (done.flatMap aN)::M) (bT.j3 K r3 bo done.length cc I1 (ad r1 0) none 0 0 n3 n4 kS w2 yes):=λr3 yes hy=>by
  unfold bT.j3;cases yes with
  |true=>
   apply ws;intros;refine kZ (b:=bo) (g:=aN) (l:=done) (x:=x.move) (bR _) rfl rfl (by omega) (by omega) (pQ _) λb2 c2=>?_;exact T.drop (T.drop (T.drop (hA (hy.1 rfl) b2 c2)))
  |false=>
   apply ws;exact T.drop (T.drop (hN λhh=>by have:=hy.2 hh;cases this))
 have j4:∀(r3:Nat)(b2:Bool),b2=(q.xy&&decide (x.move.bI=q.yT))->done.length<q.lz.toNat->Cc q.ky q.yu x.move.ay=true->T W (Sep.pt r3 (aN x.move)::Sep.pt r2 (bM x)::own bo done.length cc 16 (done.flatMap aN)::M) (bT.j4 K r3 bo done.length cc I1 (ad r1 0) none 0 0 n3 n4 kS w2 b2):=λr3 b2 hb hl hi=>by
  unfold bT.j4;have hf:fits q x=(b2||(q.uR&&decide (x.move.aU=q.yT))):=by rw[hb];rfl
  cases b2 with
  |true=>
   apply ws;refine j3 r3 true ⟨λ_=>⟨hl,by rw[hi,hf];rfl⟩,λ_=>rfl⟩
  |false=>
   rw[Bool.false_or] at hf;apply ws;cases hc:q.uR with
   |true=>
    apply ws;rw[hc,dQ] at hf;refine j3 r3 _ ⟨λh=>⟨hl,by rw[hi,hf,h];rfl⟩,λh=>by rw[hi,hf,dQ] at h;exact h.2⟩
   |false=>
    apply ws;rw[hc,fQ] at hf;refine j3 r3 false ⟨λh=>(by cases h),λh=>by rw[hf,Bool.and_false] at h;cases h.2⟩
 have j2:∀(r3:Nat)(b2:Bool),(b2=true↔Cc q.ky q.yu x.move.ay=false\/ ¬done.length<q.lz.toNat)->T W (Sep.pt r3 (aN x.move)::Sep.pt r2 (bM x)::own bo done.length cc 16 (done.flatMap aN)::M) (bT.j2 K I1 (ad r1 0) none 0 0 bo done.length cc n3 n4 kS w2 r3 b2):=λr3 b2 hb=>by
  unfold bT.j2;cases b2 with
  |true=>
   apply ws;refine T.drop (T.drop (hN λhh=>?_));rcases hb.1 rfl with h|h
   ·rw[h,fQ] at hh;cases hh.2
   ·exact h hh.1
  |false=>
   have hi:Cc q.ky q.yu x.move.ay=true:=by
    cases h:Cc q.ky q.yu x.move.ay with
    |true=>rfl
    |false=>have:=hb.2 (.inl h);cases this
   have hl:done.length<q.lz.toNat:=Decidable.byContradiction λh=>by have:=hb.2 (.inr h);cases this
   apply ws;cases WO:q.xy with
   |true=>
    apply ws;refine j4 r3 _ ?_ hl hi;rw[WO,dQ]
   |false=>
    apply ws;refine j4 r3 _ ?_ hl hi;rw[WO,fQ]
 unfold bT.j1 bT.j5;apply ws;intros;rename_i r3;apply ga<;>intro g1
 ·refine j2 r3 true ⟨λ_=>.inl (ao (by omega)),λ_=>rfl⟩
 ·apply ws;apply dz<;>intro g2
  ·have g2:=fM.1 g2;apply ws;apply ga<;>intro g3
   ·refine j2 r3 true ⟨λ_=>.inl (ao (by omega)),λ_=>rfl⟩
   ·have hi:Cc q.ky q.yu x.move.ay=true:=aw (by omega);apply ws;refine j2 r3 _ ⟨λh=>.inr (by have:=aR h;omega),λh=>?_⟩;rcases h with h|h
    ·rw[hi] at h;cases h
    ·exact aw (by omega)
  ·have g2:q.yu=0:=by simpa using g2
   have hi:Cc q.ky q.yu x.move.ay=true:=aw (by omega);apply ws;refine j2 r3 _ ⟨λh=>.inr (by have:=aR h;omega),λh=>?_⟩;rcases h with h|h
   ·rw[hi] at h;cases h
   ·exact aw (by omega)
def XH{ab:OA}{ac:Nat}{al:List cr}{f:HP->LH}[ii:wX ab al.length ac L 33 (al.flatMap bM) f](hal:al.length<=1000)(Kb:0<=q.lz/\q.lz<=16)
 (h:∀b' c' out,out=((((if q.rv then al.reverse else al).filter λk=>Cc q.ky q.yu k.move.ay&&fits q k).take q.lz.toNat)).map (·.move)->T W (own b' out.length c' 16 (out.flatMap aN)::L) (K (.l b' out.length c'))):
 T W L (bT ab al.length ac (qv q) K):=by
 unfold bT;apply ws;intros;rename_i r1;obtain⟨l,hl⟩:∃l,l=if q.rv then al.reverse else al:=⟨_,rfl⟩
 have I7:l.length=al.length:=by rw[hl];split<;>simp
 rw[<-hl] at h;refine im (e:=16) ?_;intro w jS;refine⟨λvv w=>∃(i:Nat)(bo:OA)(cc:Nat)(done:List cH),i<=l.length/\done=(((l.take i).filter λk=>Cc q.ky q.yu k.move.ay&&fits q k).take q.lz.toNat).map (·.move)/\done.length<=i/\vv=[.p (some (ad r1 0)),.l none 0 0,.l bo done.length cc,.i (al.length:Int),.i (i:Int)]/\
    St W w (own bo done.length cc 16 (done.flatMap aN)::Sep.pt r1 (qv q)::L),
  mq 4 al.length,⟨0,none,0,[],aF _,by simp,aI _,rfl,jS⟩,?_⟩
 rintro a1 ov mo qf bo nJ cc n3 n4 w2 ⟨i,b0,c0,done,hi,l9,Bu,e,ib⟩;cases e
 refine T.at ?_ ib;have e5:=nI i;apply ga<;>intro g1
 ·have cn:i<l.length:=by omega
  have gx:=aj cn;generalize l[i]=x at gx;have gS:=DB (P:=λk=>Cc q.ky q.yu k.move.ay&&fits q k) (n:=q.lz.toNat) gx;have xv:done.length=(((l.take i).filter λk=>Cc q.ky q.yu k.move.ay&&fits q k).take q.lz.toNat).length:=by rw[l9,bQ]
  rw[<-xv] at gS;have wm:(((l.take (i+1)).filter λk=>Cc q.ky q.yu k.move.ay&&fits q k).take q.lz.toNat).map (·.move)=if done.length<q.lz.toNat/\(Cc q.ky q.yu x.move.ay&&fits q x)=true then done++[x.move] else done:=by
   rw[gS];by_cases c1:done.length<q.lz.toNat
   ·rw[ai c1];by_cases c2:(Cc q.ky q.yu x.move.ay&&fits q x)=true
    ·rw[ai c2,ai ⟨c1,c2⟩,cF,<-l9];rfl
    ·rw[ag c2,ag (λh=>c2 h.2),<-l9]
   ·rw[ag c1,ag (λh=>c1 h.1),<-l9]
  have aby:i<al.length:=by omega
  have gy:=aj aby;refine dS (b:=ab) ⟨by omega,by omega⟩ λrb hb=>?_;subst hb;rw[ak];apply gI jB gy;apply ws;intros;rename_i r2;have fin:T W (Sep.pt r2 (bM x)::own bo done.length cc 16 (done.flatMap aN)::Sep.pt r1 (qv q)::L) (bT.j1 K r2 (ad r1 0) (λvv w=>∃(i:Nat)(bo:OA)(cc:Nat)(done:List cH),i<=l.length/\done=(((l.take i).filter λk=>Cc q.ky q.yu k.move.ay&&fits q k).take q.lz.toNat).map (·.move)/\done.length<=i/\vv=[.p (some (ad r1 0)),.l none 0 0,.l bo done.length cc,.i (al.length:Int),.i (i:Int)]/\
   St W w (own bo done.length cc 16 (done.flatMap aN)::Sep.pt r1 (qv q)::L)) none 0 0 bo done.length cc (al.length:Int) (i:Int) (mq 4 al.length) w2):=by
   refine Rf (q:=q) (x:=x) (M:=Sep.pt r1 (qv q)::L) (λhy b2 c2=>?_) (λhy=>?_) Kb (by omega)
   ·rw[e5];rw[ai hy] at wm;exact λw3 h3=>⟨⟨i+1,b2,c2,done++[x.move],cn,wm.symm,by simp;omega,by simp,by simpa using h3⟩,dn (by omega)⟩
   ·rw[e5];rw[ag hy] at wm;exact λw3 h3=>⟨⟨i+1,bo,cc,done,cn,wm.symm,by omega,rfl,h3⟩,dn (by omega)⟩
  cases DU:q.rv with
  |true=>
   rw[DU,ai rfl] at hl;apply ws;have e7:aa.wrap (aa.wrap ((al.length:Int) -1) -(i:Int))=((al.length-1-i:Nat):Int):=by rw[aX (n:=(al.length:Int) -1) (by omega),aX (by omega)];omega
   rw[e7];refine dS (b:=ah rb) ⟨by omega,by omega⟩ λZU hb=>?_;cases hb
   rw[ak];have gz:al[al.length-1-i]?=some x:=by rw[hl,List.getElem?_reverse aby] at gx;exact gx
   apply gI jB gz;apply ws;exact fin
  |false=>
   rw[DU,ag cO] at hl;subst hl;rw[gx] at gy;have hxy:x=l[i]'aby:=by injection gy
   rw[<-hxy];apply ws;exact fin
 ·have iZ:i=l.length:=by omega
  subst iZ;rw[aV] at l9;have:=h bo cc done l9;apply T.sub this;exact qo
end
section
variable {W:World} {L R M:LH} {K:VK} {X:WK} {q:j0} {s:wG}
def u0(al:List bP)(kl:List cr)(q:j0):Int×List bP×List cH:=
 if o8 q=false then(1,[],[])
 else if q.op=4 then(0,(q.ids.flatMap λid=>al.filter λa=>decide (a.id=id)),[])
 else if q.op=5 then(0,[],q.ids.flatMap λid=>(kl.filter λk=>decide (k.move.id=id)).map (·.move))
 else(0,[],((((if q.rv then kl.reverse else kl).filter λk=>Cc q.ky q.yu k.move.ay&&fits q k).take q.lz.toNat)).map (·.move))
def QT{m:aA}(hg:eB (bo m))(q:j0):u0 (bo m).aC (bo m).ax q=ask m q:=by
 unfold u0 ask;rw[findAll hg,Uw hg,<-LW hg]
 rfl
def N4{ab kb:OA}{ac kc:Nat}{al:List bP}{kl:List cr}{f g:HP->LH}[i1:wX ab al.length ac L 14 (al.flatMap aO) f][i2:wX kb kl.length kc L 33 (kl.flatMap bM) g][hh:Has R L](hq:pw W R q s)
 (hal:al.length<=1000)(hkl:kl.length<=1000)
 (h:∀b1 c1 b2 c2,T W (own b1 (u0 al kl q).2.1.length c1 14 ((u0 al kl q).2.1.flatMap aO)::own b2 (u0 al kl q).2.2.length c2 16 ((u0 al kl q).2.2.flatMap aN)::L)
  (K (.tuple ⟨[.l b1 (u0 al kl q).2.1.length c1,.l b2 (u0 al kl q).2.2.length c2,.i (u0 al kl q).1]⟩))):
 T W L (og ab al.length ac kb kl.length kc (gP q s) K):=by
 unfold og;apply ws;intros;apply Iz;unfold u0 at h;by_cases ge:o8 q=false
 ·rw[ai ge] at h;rw[ge];apply ws;refine T.drop ?_;refine im (e:=16) ?_;refine im (e:=14) ?_;exact h none 0 none 0
 rw[ag ge] at h;have YE:o8 q=true:=by simpa using ge
 rw[YE];apply ws;have adB:q.op=4\/q.op=5->q.ids.length<=16:=λho=>by
  unfold o8 at YE;rw[ai ho,df,decide_eq_true_eq,decide_eq_true_eq] at YE;exact YE.2
 apply dz<;>intro g1
 ·have g1:q.op=4:=by simpa using g1
  rw[ai g1] at h;have:=adB (.inl g1);apply ws;refine HE (R:=R) (al:=al) hq.ids (by omega) hal λb' c' out ho=>?_;rw[<-ho] at h;apply ws;refine im (e:=16) ?_;apply T.swap;apply T.sub (h b' c' none 0)
  repeat (first|exact bm.refl _|apply bm.cons_cons|apply bm.cons)
 ·have g1: ¬q.op=4:=by simpa using g1
  rw[ag g1] at h;apply ws;apply dz<;>intro g2
  ·have g2:q.op=5:=by simpa using g2
   rw[ai g2] at h;have:=adB (.inr g2);apply ws;refine F2 (R:=R) (al:=kl) hq.ids (by omega) hkl λb' c' out ho=>?_;rw[<-ho] at h;apply ws;refine im (e:=14) ?_;apply T.sub (h none 0 b' c')
   repeat (first|exact bm.refl _|apply bm.cons_cons|apply bm.cons)
  ·have g2: ¬q.op=5:=by simpa using g2
   rw[ag g2] at h;have Kb:0<=q.lz/\q.lz<=16:=by
    unfold o8 at YE;rw[ag (by omega)] at YE;by_cases o6:q.op=6
    ·rw[ai o6,df,decide_eq_true_eq] at YE;omega
    ·rw[ag o6] at YE;cases YE
   apply ws;refine XH (al:=kl) hkl Kb λb' c' out ho=>?_;rw[<-ho] at h;apply ws;refine im (e:=14) ?_;apply T.sub (h none 0 b' c')
   repeat (first|exact bm.refl _|apply bm.cons_cons|apply bm.cons)
def M6{α:Type}[DecidableEq α]{l m:List α}{i:Nat}{x y:α}(hx:l[i]?=some x)(hy:m[i]?=some y)(h:l.take i=m.take i)(he:x=y):l.take (i+1)=m.take (i+1):=by
 rw[bg,bg,hx,hy,h,he]
def M7{α:Type}{l m:List α}{i:Nat}{x y:α}(hx:l[i]?=some x)(hy:m[i]?=some y)(he: ¬x=y): ¬l=m:=λh=>by
 rw[h,hy] at hx;injection hx with hx;exact he hx.symm
end
section
variable {W:World} {L R:LH} {K:VK} {X:WK} {e:Int} {res:List Int} {al:List bP} {tl:List cH} {rb ab tb:OA} {rc ac tc:Nat} {n:Int} {a:bP} {t:cH}
def IE(h:T W L (K (.s (bs (le .i64 1 n))))):T W L (bN 1 n K):=λw hs=>Ab hs λw' h'=>h w' h'
def ZW(h:T W L (K (.s (bs (le .i64 2 n))))):T W L (bN 2 n K):=λw hs=>Ab hs λw' h'=>h w' h'
def ZV(h:T W L (K (.s (bs (le .i64 4 n))))):T W L (bN 4 n K):=λw hs=>Ab hs λw' h'=>h w' h'
def T'(h:T W L (K (.s (bs (le .i64 8 n))))):T W L (bN 8 n K):=λw hs=>Ab hs λw' h'=>h w' h'
def ahR(x k:Nat)(hk:k<8):2* (x/2^(k+1)%2^(7-k))+x/2^k%2=x/2^k%2^(8-k):=by
 match k,hk with
 |0,_|1,_|2,_|3,_|4,_|5,_|6,_|7,_=>omega
def F'{m:Nat}(hm:m<bO)(h:T W L (K (.s (bs (nb m))))):T W L (dw (nm m) K):=by
 unfold dw;apply ws;intros;rename_i r1;intro w jS;refine⟨λvv w=>∃i:Nat,i<=16/\vv=[.p (some (ad r1 0)),.s .empty,.s (bs ((nb m).take i)),.i (i:Int)]/\St W w (Sep.pt r1 (nm m)::L),
  mq 3 16,⟨0,aF _,rfl,jS⟩,?_⟩
 rintro a1 s1 s2 n1 w2 ⟨i,hi,e1,ib⟩;cases e1
 refine T.at ?_ ib;have e5:=nI i;apply ga<;>intro g1
 ·have cn:i<16:=by omega
  intro w jS;refine⟨λvv w=>∃k:Nat,k<=8/\vv=[.p (some (ad r1 0)),.s .empty,.s (bs ((nb m).take i)),.i (i:Int),.i ((m/256^i/2^k%2^(8-k):Nat):Int),.i ((k:Int) -1)]/\St W w (Sep.pt r1 (nm m)::L),
   λvs _=>match vs with|[_,_,_,_,_,.int _ d]=>(d+1).toNat|_=>0,⟨8,aI _,by simp,jS⟩,?_⟩
  rintro a2 s3 s4 n2 n3 n4 w4 ⟨k,hk,e2,yR⟩;cases e2
  refine T.at ?_ yR;apply ga<;>intro g2
  ·obtain⟨k,rfl⟩:∃j,k=j+1:=⟨k-1,by omega⟩;have e3:aa.wrap (aa.wrap (8* (i:Int))+(((k+1:Nat):Int) -1))=((8* i+k:Nat):Int):=by
    rw[aX (n:=8* (i:Int)) (by omega),aX (by omega)];omega
   have e4:m/2^(8* i+k)=m/256^i/2^k:=by rw[Nat.pow_add,Nat.pow_mul,Nat.div_div_eq_div_mul]
   apply ws;rw[e3];apply uk hm (by omega);apply kd;rw[e4];have hb:=ahR (m/256^i) k (by omega);have h6:m/256^i/2^k%2^(8-k)<256:=Nat.lt_of_lt_of_le (Nat.mod_lt _ (Nat.pow_pos (by decide))) (show 2^(8-k)<=2^8 from gO (by decide) (by omega));rw[show 8-(k+1)=7-k by omega];have h7:((k+1:Nat):Int) -1=(k:Int):=by omega
   rw[h7];generalize m/256^i/2^(k+1)%2^(7-k)=y at hb⊢;generalize m/256^i/2^k%2=z at hb⊢;rw[aX (n:=2* (y:Int)) (by omega),aX (n:=2* (y:Int)+(z:Int)) (by omega),aX (n:=(k:Int) -1) (by omega)];refine λw5 h5=>⟨⟨k,by omega,?_,h5⟩,?_⟩
   ·rw[<-hb];rfl
   ·show(((k:Int) -1)+1).toNat<((k:Int)+1).toNat;omega
  ·obtain rfl:k=0:=by omega
   apply dU ⟨rfl,trivial⟩;refine uF λr2=>?_;have h8:m/256^i/2^0%2^(8-0)=m/256^i%256:=by simp
   rw[h8];have e6:Value.int .u8 (IntKind.u8.wrap ((m/256^i%256:Nat):Int))=vZ (UInt8.ofNat (m/256^i%256)):=by
    have:=u2 (n:=((m/256^i%256:Nat):Int)) (by omega);rw[ak] at this;rw[this]
    congr 1
    unfold IntKind.wrap;simp[IntKind.signed,IntKind.bits]
   rw[e6];apply TN (l:=[UInt8.ofNat (m/256^i%256)]);have e7:(nb m)[i]?=some (UInt8.ofNat (m/256^i%256)):=by
    unfold nb;rw[fy,rL cn];rfl
   have e8:bs ((nb m).take i)++bs [UInt8.ofNat (m/256^i%256)]=bs ((nb m).take (i+1)):=by rw[me,bg,e7];rfl
   refine dU (by rw[bV,bV,aD,sB,qt];omega) ?_;rw[e8,e5];refine T.drop λw5 h5=>⟨⟨i+1,cn,rfl,h5⟩,dn (by omega)⟩
 ·obtain rfl:i=16:=by omega
  have e9:(nb m).take 16=nb m:=bU (by rw[sB];omega);rw[e9];exact T.drop h
def N7(ha:yJ a)(h:T W L (K (.s (bs (jl a))))):T W L (lR (aO a) K):=by
 unfold lR;have:=ha.id;have:=ha.dp;have:=ha.dq;have:=ha.cp;have:=ha.cq
 repeat' first|apply ws;intros|apply wb|first|refine F' (by assumption) ?_|refine ZV ?_|refine ZW ?_|refine T' ?_|refine dU (by simp only[me,bV,av,sB,aQ];omega) ?_
 simp only[me];exact T.dp h
def N5(ht:yF t)(h:T W L (K (.s (bs (oX t))))):T W L (lO (aN t) K):=by
 unfold lO;have:=ht.id;have:=ht.bI;have:=ht.aU;have:=ht.a8;have:=ht.pending
 repeat' first|apply ws;intros|apply wb|first|refine F' (by assumption) ?_|refine ZV ?_|refine ZW ?_|refine T' ?_|refine dU (by simp only[me,bV,av,sB,aQ];omega) ?_
 simp only[me];exact T.dp h
def Ur{x:Bool}(h:true= !x):x=false:=by cases x with|false=>rfl|true=>cases h
def Us{x:Bool}(h:false= !x):x=true:=by cases x with|true=>rfl|false=>cases h
def Rr[hh:Has R L](h1:mE W R I1 1 rb res)(h2:mE W R aO 14 ab al)(h3:mE W R aN 16 tb tl)(l1:res.length<1000000)(l2:al.length<1000000)(l3:tl.length<1000000)(h:T W L (K (.b (oQ e res al tl)))):
 T W L (cE e rb res.length rc ab al.length ac tb tl.length tc K):=by
 have j1:∀b:Bool,b= !(decide (0<=e/\e<=255)&&decide (res.length<=16/\al.length<=16/\tl.length<=16))->T W L (cE.j1 K rb res.length rc ab al.length ac tb tl.length tc b):=λb hb=>by
  unfold cE.j1;rw[Lw] at h;cases b with
  |true=>
   rw[Ur hb,Bool.and_false,Bool.and_false,Bool.and_false] at h;exact h
  |false=>
   rw[Us hb,Bool.and_true] at h;apply jU;intro w jS;refine⟨λvv w=>∃i:Nat,i<=res.length/\(res.take i).all okR=true/\vv=[.b false,.l rb res.length rc,.i (res.length:Int),.i (i:Int)]/\St W w L,
    mq 3 res.length,⟨0,aF _,rfl,rfl,jS⟩,?_⟩
   rintro b1 ov mo qf n1 n2 w2 ⟨i,hi,fI,e1,ib⟩;cases e1
   refine T.at ?_ ib;have e5:=nI i;apply ga<;>intro g1
   ·have cn:i<res.length:=by omega
    have gx:=aj cn;generalize res[i]=x at gx;refine iq h1 ⟨by omega,by omega⟩ rfl λa ha=>?_;rw[ak];apply JH h1 ha gx;apply kd;have bad: ¬(0<=x/\x<=255)->T W L (K (.b false)):=λhx=>by
     rw[all_false (P:=okR) gx (ao hx),fQ] at h;exact h
    refine ga (λg2=>bad (by omega)) (λg2=>?_);refine ga (λg3=>bad (by omega)) (λg3=>?_);rw[e5];exact λw3 h3=>⟨⟨i+1,cn,by rw[rD gx fI];exact aw (by omega),rfl,h3⟩,dn (by omega)⟩
   have iZ:i=res.length:=by omega
   subst iZ;rw[aV] at fI;rw[fI,dQ] at h;intro w jS;refine⟨λvv w=>∃i:Nat,i<=al.length/\(al.take i).all (λa=>decide (nr a))=true/\vv=[.b false,.l ab al.length ac,.i (al.length:Int),.i (i:Int)]/\St W w L,
    mq 3 al.length,⟨0,aF _,rfl,rfl,jS⟩,?_⟩
   rintro b1 ov mo qf n1 n2 w2 ⟨i,hi,fI,e1,ib⟩;cases e1
   refine T.at ?_ ib;have e5:=nI i;apply ga<;>intro g1
   ·have cn:i<al.length:=by omega
    have gx:=aj cn;generalize al[i]=x at gx;refine iq h2 ⟨by omega,by omega⟩ rfl λa ha=>?_;rw[ak];apply kY h2 ha gx rfl
    repeat' first|apply ws;intros|apply wb|refine ID ?_
    rw[e5];by_cases hg:nr x
    ·rw[aw hg];apply ws;refine T.drop λw3 h3=>⟨⟨i+1,cn,by rw[rD gx fI];exact aw hg,rfl,h3⟩,dn (by omega)⟩
    ·rw[ao hg];apply ws;rw[all_false (P:=λa=>decide (nr a)) gx (ao hg),fQ] at h;exact T.dp h
   have iZ:i=al.length:=by omega
   subst iZ;rw[aV] at fI;rw[fI,dQ] at h;intro w jS;refine⟨λvv w=>∃i:Nat,i<=tl.length/\(tl.take i).all (λa=>decide (kH a))=true/\vv=[.b false,.l tb tl.length tc,.i (tl.length:Int),.i (i:Int)]/\St W w L,
    mq 3 tl.length,⟨0,aF _,rfl,rfl,jS⟩,?_⟩
   rintro b1 ov mo qf n1 n2 w2 ⟨i,hi,fI,e1,ib⟩;cases e1
   refine T.at ?_ ib;have e5:=nI i;apply ga<;>intro g1
   ·have cn:i<tl.length:=by omega
    have gx:=aj cn;generalize tl[i]=x at gx;refine iq h3 ⟨by omega,by omega⟩ rfl λa ha=>?_;rw[ak];apply kY h3 ha gx rfl
    repeat' first|apply ws;intros|apply wb|refine IC ?_
    rw[e5];by_cases hg:kH x
    ·rw[aw hg];apply ws;refine T.drop λw3 h3=>⟨⟨i+1,cn,by rw[rD gx fI];exact aw hg,rfl,h3⟩,dn (by omega)⟩
    ·rw[ao hg];apply ws;rw[all_false (P:=λa=>decide (kH a)) gx (ao hg)] at h;exact T.dp h
   have iZ:i=tl.length:=by omega
   subst iZ;rw[aV] at fI;rw[fI] at h;exact h
 have j3:∀b:Bool,b= !(decide (0<=e/\e<=255)&&decide (res.length<=16))->T W L (cE.j3 K rb res.length rc ab al.length ac tb tl.length tc b):=λb hb=>by
  unfold cE.j3;cases b with
  |true=>
   have hb: ¬((0<=e/\e<=255)/\res.length<=16):=λhh=>by have:=Ur hb;rw[aw hh.1,aw hh.2] at this;cases this
   refine qe (j1 _ ?_);rw[cj];simp;omega
  |false=>
   have hb:(0<=e/\e<=255)/\res.length<=16:=by have:=Us hb;rw[df,decide_eq_true_eq,decide_eq_true_eq] at this;exact this
   apply jU;refine ga (λg=>j1 _ (by rw[cj];simp;omega)) (λg=>j1 _ ?_);rw[cj];simp;omega
 have j2:∀b:Bool,b= !decide (0<=e/\e<=255)->T W L (cE.j2 K rb res.length rc ab al.length ac tb tl.length tc b):=λb hb=>by
  unfold cE.j2;cases b with
  |true=>
   have hb: ¬(0<=e/\e<=255):=bj (Ur hb);refine qe (j3 _ ?_);rw[cj];simp;omega
  |false=>
   have hb:(0<=e/\e<=255):=aR (Us hb);refine jU (j3 _ ?_);rw[cj];simp;omega
 unfold cE;refine ga (λg=>j2 _ (by rw[cj];simp;omega)) (λg=>j2 _ ?_);rw[cj];simp;omega
def yc[hh:Has R L](h1:mE W R I1 1 rb res)(h2:mE W R aO 14 ab al)(h3:mE W R aN 16 tb tl)(l1:res.length<1000000)(l2:al.length<1000000)(l3:tl.length<1000000)(hA:∀a∈al,yJ a)(hT:∀t∈tl,yF t)(h:T W L (K (.s (bs (pM e res al tl))))):
 T W L (gF e rb res.length rc ab al.length ac tb tl.length tc K):=by
 unfold gF;apply Rr h1 h2 h3 l1 l2 l3;apply oF;cases hf:oQ e res al tl with
 |false=>
  rw[show pM e res al tl=[3,0,0,0] by unfold pM;rw[ag (by rw[hf];decide)];rfl] at h;exact h
 |true=>
  obtain⟨f1,f2,f3,f4,f5,f6,f7⟩:=vy hf;unfold pM at h;rw[ai hf] at h;have k2:(al.flatMap jl).length=al.length* 96:=dM nR al;have k1:(res.flatMap λr=>le .i64 1 r).length=res.length* 1:=dM (λr=>aQ _ _ _) res;have k3:=dM oW tl;refine su (IE (qz (IE (qz ?_))));refine dU (by rw[bV,bV,aQ,aQ];decide) ?_;rw[me];intro w jS;refine⟨λvv w=>∃i:Nat,i<=res.length/\vv=[.s .empty,.s (bs (le .i64 1 e++le .i64 1 (res.length:Int)++(res.take i).flatMap λr=>le .i64 1 r)),.l rb res.length rc,.i (res.length:Int),.i (i:Int)]/\St W w L,
   mq 4 res.length,⟨0,aF _,by simp,jS⟩,?_⟩
  rintro s3 s4 uU uG uP n2 n3 w2 ⟨i,hi,e1,ib⟩;cases e1
  refine T.at ?_ ib;have e5:=nI i;have hlen:(le .i64 1 e++le .i64 1 (res.length:Int)++(res.take i).flatMap λr=>le .i64 1 r).length<=18:=by
   rw[av,av,dM (e:=1) (λr=>aQ _ _ _),aD,aQ,aQ];omega
  apply ga<;>intro g1
  ·have cn:i<res.length:=by omega
   have gx:=aj cn;generalize res[i]=x at gx;refine iq h1 ⟨by omega,by omega⟩ rfl λa ha=>?_;rw[ak];apply JH h1 ha gx;refine kd (IE (qz ?_));refine dU (by rw[bV,bV,aQ];omega) ?_;rw[e5,me];refine λw3 h3=>⟨⟨i+1,cn,?_,h3⟩,dn (by omega)⟩;rw[bg,gx,gj];simp[aH]
  have iZ:i=res.length:=by omega
  subst iZ;rw[aV] at hlen⊢;refine IE (qz ?_);refine dU (by rw[bV,bV,aQ];omega) ?_;rw[me];generalize hP:le .i64 1 e++le .i64 1 (res.length:Int)++(res.flatMap λr=>le .i64 1 r)++le .i64 1 (al.length:Int)=P;have hPl:P.length<=19:=by rw[<-hP,av,aQ];omega
  intro w jS;refine⟨λvv w=>∃i:Nat,i<=al.length/\vv=[.s .empty,.s (bs (P++(al.take i).flatMap jl)),.l ab al.length ac,.i (al.length:Int),.i (i:Int)]/\St W w L,
   mq 4 al.length,⟨0,aF _,by simp,jS⟩,?_⟩
  rintro s3 s4 uU uG uP n2 n3 w2 ⟨i,hi,e1,ib⟩;cases e1
  refine T.at ?_ ib;have e5:=nI i;have AJ:(P++(al.take i).flatMap jl).length<=2000:=by
   rw[av,dM nR,aD];omega
  apply ga<;>intro g1
  ·have cn:i<al.length:=by omega
   have gx:=aj cn;have gm:=hA _ (bF cn);generalize al[i]=x at gx gm;refine iq h2 ⟨by omega,by omega⟩ rfl λa ha=>?_;rw[ak];apply kY h2 ha gx rfl
   repeat' first|apply ws;intros|apply wb|refine N7 gm ?_
   refine dU (by rw[bV,bV,nR];omega) ?_;rw[e5,me];refine T.drop λw3 h3=>⟨⟨i+1,cn,?_,h3⟩,dn (by omega)⟩;rw[bg,gx,gj];simp[aH]
  have iZ:i=al.length:=by omega
  subst iZ;rw[aV] at AJ⊢;refine IE (qz ?_);refine dU (by rw[bV,bV,aQ];omega) ?_;rw[me];generalize hQ:P++al.flatMap jl++le .i64 1 (tl.length:Int)=Q;have hQl:Q.length<=2001:=by rw[<-hQ,av,aQ];omega
  intro w jS;refine⟨λvv w=>∃i:Nat,i<=tl.length/\vv=[.s .empty,.s (bs (Q++(tl.take i).flatMap oX)),.l tb tl.length tc,.i (tl.length:Int),.i (i:Int)]/\St W w L,
   mq 4 tl.length,⟨0,aF _,by simp,jS⟩,?_⟩
  rintro s3 s4 uU uG uP n2 n3 w2 ⟨i,hi,e1,ib⟩;cases e1
  refine T.at ?_ ib;have e5:=nI i;have aia:(Q++(tl.take i).flatMap oX).length<=5000:=by
   rw[av,dM oW,aD];omega
  apply ga<;>intro g1
  ·have cn:i<tl.length:=by omega
   have gx:=aj cn;have gm:=hT _ (bF cn);generalize tl[i]=x at gx gm;refine iq h3 ⟨by omega,by omega⟩ rfl λa ha=>?_;rw[ak];apply kY h3 ha gx rfl
   repeat' first|apply ws;intros|apply wb|refine N5 gm ?_
   refine dU (by rw[bV,bV,oW];omega) ?_;rw[e5,me];refine T.drop λw3 h3=>⟨⟨i+1,cn,?_,h3⟩,dn (by omega)⟩;rw[bg,gx,gj];simp[aH]
  have iZ:i=tl.length:=by omega
  subst iZ;rw[aV];have:zo e res al tl=Q++tl.flatMap oX:=by rw[<-hQ,<-hP];unfold zo;simp only[aH]
  rw[this] at h;exact h
def T9(h:T W L (K (.s (bs (pM e [] [] []))))):T W L (gF e none 0 0 none 0 0 none 0 0 K):=
 yc (R:=L) (rb:=none) (ab:=none) (tb:=none) (rc:=0) (ac:=0) (tc:=0) (res:=[]) (al:=[]) (tl:=[]) mE.nil mE.nil mE.nil (by decide) (by decide) (by decide) (λa h=>by cases h) (λa h=>by cases h) h
def qE(h:T W L (K (.s (bs (pM e [] [] []))))):T W L (fL e K):=by
 unfold fL;exact T9 (qz h)
end
section
variable {W:World} {L R M:LH} {K:VK} {X:WK} {q:j0} {s:wG} {p:Nat} {m:aA} {mb kb:OA} {mc kc:Nat}
def Rt{r1:Nat}{ob kb ab xb:OA}{oc kc ac xc:Nat}{ol al:List bP}{kl xl:List cr}{ck st Y5 ZO:Int}{f0:LV->LH}{f1 f2 f3 f4:HP->LH}
 [i0:Lc (Sep.pt r1) L [.l ob ol.length oc,.l kb kl.length kc,.i ck,.i st] f0]
 [i1:wX ob ol.length oc L 14 (ol.flatMap aO) f1][i2:wX ab al.length ac L 14 (al.flatMap aO) f2][i3:wX kb kl.length kc L 33 (kl.flatMap bM) f3][i4:wX xb xl.length xc L 33 (xl.flatMap bM) f4](ha:ol.length<=100000)(hk:kl.length<=100000)
 (h:T W L (K (.b (decide (ol=al/\kl=xl/\ck=Y5/\st=ZO))))):T W L (db (some (ad r1 0)) ab al.length ac xb xl.length xc Y5 ZO K):=by
 have bad: ¬(ol=al/\kl=xl/\ck=Y5/\st=ZO)->T W L (K (.b false)):=λhh=>by rw[ao hh] at h;exact h
 have j1:∀b:Bool,(b=true-> ¬(ol=al/\kl=xl/\ck=Y5/\st=ZO))->(b=false->ol.length=al.length/\kl.length=xl.length/\ck=Y5/\st=ZO)->T W L (db.j1 K al.length (some (ad r1 0)) ab xl.length xb b):=λb WR xa=>by
  unfold db.j1;cases b with
  |true=>exact bad (WR rfl)
  |false=>
   obtain⟨hl1,Yj,hck,tr⟩:=xa rfl;apply jU;intro w jS;refine⟨λvv w=>∃i:Nat,i<=al.length/\ol.take i=al.take i/\vv=[.b false,.i (al.length:Int),.i (i:Int)]/\St W w L,mq 2 al.length,⟨0,aF _,rfl,rfl,jS⟩,?_⟩;rintro b1 n1 n2 w2 ⟨i,hi,heq,e,ib⟩;cases e
   refine T.at ?_ ib;have e5:=nI i;apply ga<;>intro g1
   ·have cn:i<al.length:=by omega
    have gx:=aj (show i<ol.length by omega);have gy:=aj cn;generalize ol[i]=x at gx;generalize al[i]=y at gy;apply JC;apply Eh;apply nU (i:=i0) rfl;apply uE;refine dS (b:=ob) ⟨by omega,by omega⟩ λrb hb=>?_;rw[ak];subst hb;apply gI jT gx;refine dS (b:=ab) ⟨by omega,by omega⟩ λZU hb=>?_;rw[ak];subst hb;apply gI jT gy;apply ZM;by_cases g2:x=y
    ·rw[aw g2,e5];apply su;exact λw3 h3=>⟨⟨i+1,cn,M6 gx gy heq g2,rfl,h3⟩,dn (by omega)⟩
    ·rw[ao g2];exact bad λhh=>M7 gx gy g2 hh.1
   ·have iZ:i=al.length:=by omega
    subst iZ;rw[aV,<-hl1,aV] at heq;intro w3 vU;refine⟨λvv w=>∃i:Nat,i<=xl.length/\kl.take i=xl.take i/\vv=[.b false,.i (xl.length:Int),.i (i:Int)]/\St W w L,mq 2 xl.length,⟨0,aF _,rfl,rfl,vU⟩,?_⟩;rintro b1 n1 n2 w4 ⟨i,hi,abB,e,yR⟩;cases e
    refine T.at ?_ yR;have e5:=nI i;apply ga<;>intro g1
    ·have cn:i<xl.length:=by omega
     have gx:=aj (show i<kl.length by omega);have gy:=aj cn;generalize kl[i]=x at gx;generalize xl[i]=y at gy;apply JC;apply Eh;apply Fz;apply nU (i:=i0) (o:=1) rfl;apply uE;refine dS (b:=kb) ⟨by omega,by omega⟩ λrb hb=>?_;rw[ak];subst hb;apply gI jB gx;refine dS (b:=xb) ⟨by omega,by omega⟩ λZU hb=>?_;rw[ak];subst hb;apply gI jB gy;apply acL;by_cases g2:x=y
     ·rw[aw g2,e5];apply su;exact λw3 h3=>⟨⟨i+1,cn,M6 gx gy abB g2,rfl,h3⟩,dn (by omega)⟩
     ·rw[ao g2];exact bad λhh=>M7 gx gy g2 hh.2.1
    ·have iZ:i=xl.length:=by omega
     subst iZ;rw[aV,<-Yj,aV] at abB;rw[aw ⟨heq,abB,hck,tr⟩] at h;exact h
 unfold db db.j2 db.j3;apply Eh;apply nU (i:=i0) rfl;apply uE;by_cases hlen:ol.length=al.length
 ·refine ef (by simp;omega) ?_;apply Eh;apply Fz;apply nU (i:=i0) (o:=1) rfl;apply uE;by_cases AJ:kl.length=xl.length
  ·refine ef (by simp;omega) ?_;apply Eh;apply Fz;apply nU (i:=i0) (o:=2) rfl;apply kd;by_cases hc:ck=Y5
   ·apply ef (by simpa using hc);apply Eh;apply Fz;apply nU (i:=i0) (o:=3) rfl;apply kd;refine j1 _ (λhb=>?_) (λhb=>⟨hlen,AJ,hc,by simpa using hb⟩);have:=fM.1 hb;exact λhh=>this hh.2.2.2
   ·apply ir (by simpa using hc);exact j1 true (λ_ hh=>hc hh.2.2.1) (λhb=>by cases hb)
  ·refine ir (by rw[fM];omega) ?_;apply qe;exact j1 true (λ_ hh=>AJ (by rw[hh.2.1])) (λhb=>by cases hb)
 ·refine ir (by rw[fM];omega) ?_;apply qe;apply qe;exact j1 true (λ_ hh=>hlen (by rw[hh.1])) (λhb=>by cases hb)
def PR{ab xb:OA}{ac xc:Nat}{al:List bP}{xl:List cr}{Y5 ZO:Int}{f2 f4:HP->LH}(hm:RM m)
 [i2:wX ab al.length ac R 14 (al.flatMap aO) f2][i4:wX xb xl.length xc R 33 (xl.flatMap bM) f4]
 (h:T W (ML p m mb mc kb kc R) (K (.b (decide (m.cW.map m.full=al/\m.ax=xl/\m.clock=Y5/\m.ay=ZO))))):T W (ML p m mb mc kb kc R) (jb (ah p) ab al.length ac xb xl.length xc Y5 ZO K):=by
 unfold jb;have hmf:=hm.oJ;have hmm:=hm.many;apply ws;refine DJ (by omega) (by omega) hm.rkA hm.rkK λob oc=>?_;apply ws;intros;rename_i r1;have WH:m.cW.length=(m.cW.map m.full).length:=(bQ _).symm;rw[WH];refine Rt (ob:=ob) (ol:=m.cW.map m.full) (kl:=m.ax) (by rw[bQ];omega) (by omega) ?_;apply ws;apply T.drop;apply T.sub h;exact qo
end
instance{e:Int}{rb ab tb:OA}{rn rc an ac tn tc:Nat}:Sub (qg e rb rn rc ab an ac tb tn tc) 0 4 (qg e rb rn rc ab an ac tb tn tc):=⟨rfl,λj v h=>by rw[aB];exact h⟩
instance{x1 x2 x3 x4:Value}{e:Int}{rb ab tb:OA}{rn rc an ac tn tc:Nat}:Wr [x1,x2,x3,x4] 0 (qg e rb rn rc ab an ac tb tn tc) (qg e rb rn rc ab an ac tb tn tc):=⟨rfl,aI _,λv hv=>by simp[qg] at hv;rcases hv with rfl|rfl|rfl|rfl<;>rfl⟩
section
variable {W:World} {L R M:LH} {K:VK} {X:WK} {q:j0} {s:wG} {p:Nat} {m:aA} {mb kb:OA} {mc kc:Nat}
end
end Go.Up
namespace Go.Sep
open Go.Den Go.RowKit Go.Prog Go.cG
section
variable {W w:World} {L:LH}
end
def QH{D:aY}{number:Int}{h:gp}(hg:oo h):∃a:Nat,(a:Int)=low h.bu/\a<2/\uL D number h=eY D a (a+1:Nat) number (bs (ku h)):=by
 have hl:=wQ h.bu;refine⟨(low h.bu).toNat,by omega,by omega,?_⟩;unfold uL eY;rw[ai hg];have e1:(((low h.bu).toNat:Nat):Int)=low h.bu:=by omega
 have e2:(((low h.bu).toNat+1:Nat):Int)=low h.bu+1:=by omega
 rw[e1,e2]
def GW(h:gp):gH (bs (ku h)).size=1:=by rw[bV,qS];rfl
def IG(h:gp):part (bs (ku h)) 0=bs (ku h):=by
 apply lh;unfold part;rw[extract_toList,Nat.mul_zero,jf,bU];show(ku h).length<=_;rw[qS];decide
def M0{D:aY}{i:Nat}{n:Int}{h:gp}(hn:1<=n/\n<=1152921504606846976)(hg:oo h)(hi:(i:Int)=low h.bu)(hr:D.read (i:Int)=(leaf n 0 (bs (ku h)),0)):Bl D i=some h:=by
 have A8:eB n 0 (bs (ku h)):=⟨hn.1,hn.2,by decide,by decide,by rw[bV,qS];decide⟩;unfold Bl;rw[hr];dsimp only;rw[nQ A8,pB A8];dsimp only;rw[ag (by simp),show(bs (ku h)).data.toList=ku h from rfl,Mq hg];dsimp only;rw[ag (λhh=>hh hi.symm)]
def G6{D:aY}{i:Nat}(hr:mB (D.read (i:Int)).1.data.toList=none):Bl D i=none:=by
 unfold Bl;rw[hr]
def L7{n:Int}(h:0<=n/\n<=1152921504606846977):low n=n.tmod 2:=by
 obtain⟨m,rfl⟩:=bh h.1;have e:m%2^64=m:=fG (by omega);rw[Qa,BitVec.ofInt_natCast,BitVec.toNat_ofNat,e,gX (by omega)];omega
def Aa{D:aY}{i:Nat}(h:i<D.safe.length):(D.read (i:Int)).2=0:=by
 unfold aY.read;rw[ai ⟨by omega,by omega⟩]
section
variable {W w:World} {L:LH}
end
def xK(a:gp×gp)(h:gp):gp×gp:=if low h.bu=0 then(h,a.2) else(a.1,h)
def Dm{D D':aY}{i:Nat}(h1:i<D.safe.length)(h2:i<D'.safe.length)(h:(D'.read (i:Int)).1=(D.read (i:Int)).1):Bl D' i=Bl D i:=by
 have e:D'.read (i:Int)=D.read (i:Int):=by
  have a:=Aa h1;have b:=Aa h2;exact Prod.ext h (by rw[a,b])
 unfold Bl;rw[e]
def AK(h:gp):∀v∈cu h,v.oneCell'=true:=by simp[cu,Value.oneCell']
section
variable {W w:World} {L:LH} {k:Nat}
end
end Go.Sep
namespace Go.Up
open Go.Sep Go.Den Go.RowKit Go.Prog Go.Md Go.cG
def Gq{n:Nat}{D D':aY}{J:PJ}{q0:Int}{pc:List (List UInt8)}{g g':Nat}(h:JG n D J q0 pc g)(iz:D'.Ok)(A7:D'.later=[])(hlen:D'.safe.length=n)
 (hr:∀j:Int,J.lo<=j->j<J.hi->(D'.read j).1=(D.read j).1)(he:∀j:Nat,j<n->Sep.Ends g' (D'.read (j:Int)).1):JG n D' J q0 pc g':=by
 have hl:D'.safe.length=D.safe.length:=by rw[hlen,h.len]
 have j2:=h.yl.Ey;have j3:=h.yl.QQ;refine⟨iz,A7,hlen,⟨h.yl.lo,j2,j3,by rw[hl];exact h.yl.hi,h.yl.seq⟩,wD hl _ h.chain (λj a b=>hr j (by omega) (by omega)),h.seq,h.q0,λj a b m d hv=>?_,?_,he⟩
 ·rw[hr j a b] at hv;exact h.low j a b m d hv
 ·rw[DM hl (λj a b=>hr j (by omega) (by omega))];exact h.stop
def Oi{n:Nat}{D:aY}{J:PJ}{q0:Int}{pc:List (List UInt8)}{g:Nat}(h:JG n D J q0 pc g):JG n D {J with at':=J.lo} J.seq [] g:=by
 have hq0:=h.q0;have HK:=h.seq;have j2:=h.yl.Ey;have j3:=h.yl.QQ;refine⟨h.ok,h.IW,h.len,⟨h.yl.lo,eE _,by show J.lo<=J.hi;omega,h.yl.hi,h.yl.seq⟩,rfl,by show J.seq=J.seq+_;simp,h.yl.seq.1,h.low,?_,h.ends⟩;show mC D J.lo J.hi (J.seq+1)=none;cases Eu:pc with
 |nil=>
  have Ke:=h.chain;rw[Eu] at Ke;unfold Sep.kz at Ke;rw[Ke];exact h.stop
 |cons s r=>
  have Ke:=h.chain;rw[Eu] at Ke;obtain⟨a2,h1,h2⟩:=Ke;obtain⟨m,d,x1,x2,hv,RU⟩:=IL (by omega) h1;obtain⟨i1,i2,i3,i4,i5,i6⟩:=qF h1;have U2:=sP (12+s.length);have A5:=h.yl.seq;have y3:=h.yl.hi;have hlen:=h.ok.oJ;have abr:=wh (seq:=q0+1) (s:=bs s) ⟨by omega,by
   have:(pc.length:Int)>=1:=by rw[Eu,bE];omega
   omega⟩ (by rw[bV];omega)
  refine C1 (λm2 d2 Qp=>?_);rw[hv] at Qp;simp only[bA.injEq,Prod.mk.injEq] at Qp;obtain⟨-,-,rfl⟩:=Qp;have UZ:Sep.eB m ((0:Nat):Int) (Sep.part (bs (dv (q0+1) (bs s))) 0):=⟨x1,x2,by omega,by omega,nP _ 0⟩;have r0:=RU 0 U2;rw[show J.lo+((0:Nat):Int)=J.lo from by omega] at r0;rw[r0,nQ UZ,pB UZ] at hv;simp only[bA.injEq,Prod.mk.injEq] at hv;obtain⟨-,-,hd⟩:=hv;rw[<-hd,abr.1];rw[Eu,bE] at HK;omega
def Aft(L:aY×Int)(D':aY):Prop:=(∃mask torn cut,D'=L.1.fJ mask torn cut)\/(L.2=0/\D'=L.1)
def lsx{n a t m g:Nat}{D D':aY}{s:BA}(iz:D.Ok)(A7:D.later=[])(hlen:D.safe.length=n)(sf:∀j:Nat,j<n->Sep.Ends g (D.read (j:Int)).1)(cS:n<=4096)(hm:g<m)(KX:m<256)(hl:a+gH s.size<=t)(htn:t<=n)
 (hA:Aft (eY D (a:Int) (t:Int) (m:Int) s) D'):
 D'.Ok/\D'.later=[]/\D'.safe.length=n/\(∀j:Nat,j<n->Sep.Ends m (D'.read (j:Int)).1)/\(∀j:Nat,j<n->(j<a\/a+gH s.size<=j)->(D'.read (j:Int)).1=(D.read (j:Int)).1)/\
  ((eY D (a:Int) (t:Int) (m:Int) s).2=0->∀q:Nat,q<gH s.size->(D'.read ((a+q:Nat):Int)).1=leaf m q (Sep.part s q))/\
  (∀q:Nat,q<gH s.size->(D'.read ((a+q:Nat):Int)).1=(D.read ((a+q:Nat):Int)).1\/(D'.read ((a+q:Nat):Int)).1=leaf m q (Sep.part s q)\/mB (D'.read ((a+q:Nat):Int)).1.data.toList=none):=by
 have hcp:=sP s.size;have key:∀mask torn cut:Int,∀X:aY,X=(eY D (a:Int) (t:Int) (m:Int) s).1.fJ mask torn cut->X.Ok/\X.later=[]/\X.safe.length=n/\(∀j:Nat,j<n->Sep.Ends m (X.read (j:Int)).1)/\(∀j:Nat,j<n->(j<a\/a+gH s.size<=j)->(X.read (j:Int)).1=(D.read (j:Int)).1)/\
  ((eY D (a:Int) (t:Int) (m:Int) s).2=0->∀q:Nat,q<gH s.size->(X.read ((a+q:Nat):Int)).1=leaf m q (Sep.part s q))/\
  (∀q:Nat,q<gH s.size->(X.read ((a+q:Nat):Int)).1=(D.read ((a+q:Nat):Int)).1\/(X.read ((a+q:Nat):Int)).1=leaf m q (Sep.part s q)\/mB (X.read ((a+q:Nat):Int)).1.data.toList=none):=λmask torn cut X hX=>by
  obtain⟨c1,c2,c3,c4⟩:=L5 (n:=n) (a:=a) (t:=t) (number:=(m:Int)) (mask:=mask) (torn:=torn) (cut:=cut) (s:=s) iz A7 hlen cS (by omega) hl htn;rw[<-hX] at c1 c2 c3 c4;have A8:∀i:Nat,i<4096->Sep.eB (m:Int) (i:Int) (Sep.part s i):=λi hi=>⟨by omega,by omega,by omega,by omega,nP _ i⟩;have ady:X.later=[]:=by rw[hX,oa]
  refine⟨c3,ady,c4,λj hj=>?_,λj hj vW=>?_,c2,λq hq=>?_⟩
  ·rcases c1 j hj with hh|⟨i,h1,h2,h3⟩
   ·rw[hh];exact(sf j hj).mono (by omega)
   ·exact(C5 hm KX (A8 i (by omega)) (sf j hj) h3).1
  ·rcases c1 j hj with hh|⟨i,h1,h2,h3⟩
   ·exact hh
   ·omega
  ·rcases c1 (a+q) (by omega) with hh|⟨i,h1,h2,h3⟩
   ·exact .inl hh
   ·have:i=q:=by omega
    subst this;exact(C5 hm KX (A8 i (by omega)) (sf (a+i) (by omega)) h3).2
 rcases hA with⟨mask,torn,cut,hX⟩|⟨h0,hX⟩
 ·exact key mask torn cut D' hX
 ·have hlz:=P9 h0;obtain⟨k1,k2,k3,k4,k5,k6,k7⟩:=key 0 (-1) 0 _ rfl;have WE:∀j:Int,((eY D (a:Int) (t:Int) (m:Int) s).1.fJ 0 (-1) 0).read j=D'.read j:=λj=>by rw[hX];exact Bf hlz 0 (-1) 0 j
  refine⟨by rw[hX];exact L4 iz (by rw[A7,cR];omega),by rw[hX];exact hlz,by rw[hX,<-vd _ 0 (-1) 0];exact k3,λj hj=>by rw[<-WE];exact k4 j hj,λj hj ho=>by rw[<-WE];exact k5 j hj ho,λh q hq=>by rw[<-WE];exact k6 h q hq,λq hq=>by rw[<-WE];exact k7 q hq⟩
def CG(n:Nat)(D:aY)(hd:gp)(mb:aA):Prop:=
 (hd=Fc/\mb=mY/\Bl D 0=none/\Bl D 1=none)\/
 (oo hd/\(∃(a:Nat)(k:Int),(a:Int)=low hd.bu/\1<=k/\k<=1152921504606846976/\(D.read (a:Int)).1=leaf k 0 (bs (ku hd))/\(∀p,Bl D (1-a)=some p->p.bu<hd.bu))/\
  hd.size=((cT (bo mb)).length:Int)/\gH (cT (bo mb)).length<=dm n/\∀q:Nat,q<gH (cT (bo mb)).length->(D.read ((fj n hd.bu+q:Nat):Int)).1=leaf hd.number q (Sep.part (bs (cT (bo mb))) q))
def CG.base{n:Nat}{D:aY}{hd:gp}{mb:aA}(h:CG n D hd mb)(hlen:D.safe.length=n)(nu:12<=n)(cS:n<=4096):acs D n hd mb:=by
 rcases h with⟨h1,h2,h3,h4⟩|⟨hg,⟨a,k,ha,WL,td,hr,hp⟩,hs,hc,hq⟩
 ·left
  rw[h3,h4];exact⟨rfl,h1,h2⟩
 ·right
  have Mo:=wQ hd.bu;have eA:Bl D a=some hd:=M0 (n:=k) ⟨WL,td⟩ hg ha (by
   have:=Aa (D:=D) (i:=a) (by omega)
   rw[<-hr,<-this])
  constructor
  ·by_cases ha0:a=0
   ·subst ha0;rw[eA];cases hb:Bl D 1 with
    |none=>rfl
    |some p=>
     have:=hp p hb;show(if hd.bu<p.bu then some p else some hd)=some hd;rw[ag (by omega)]
   ·have:a=1:=by omega
    subst this;rw[eA];cases hb:Bl D 0 with
    |none=>rfl
    |some p=>
     have:=hp p hb;show(if p.bu<hd.bu then some hd else some p)=some hd;rw[ai this]
  ·have:=YD (n:=n) (D:=D) (which:=hd.bu) (number:=hd.number) (s:=bs (cT (bo mb))) hlen nu cS ⟨hg.2.2.1,hg.2.2.2.1⟩ (by rw[bV];exact hc) (λq hqq=>by
    rw[show(((fj n hd.bu:Nat):Int)+(q:Int))=((fj n hd.bu+q:Nat):Int) from by omega]
    exact hq q hqq)
   rw[bV,<-hs] at this;exact this
def CG.mw{n:Nat}{D D':aY}{hd:gp}{mb:aA}(h:CG n D hd mb)(nu:12<=n)(hlen:D.safe.length=n)(adx:D'.safe.length=n)
 (h01:∀j:Nat,j<2->(D'.read (j:Int)).1=(D.read (j:Int)).1)(Z8:∀j:Nat,fj n hd.bu<=j->j<fj n hd.bu+dm n->(D'.read (j:Int)).1=(D.read (j:Int)).1):CG n D' hd mb:=by
 have Ak:∀i:Nat,i<2->Bl D' i=Bl D i:=λi hi=>Dm (by omega) (by omega) (h01 i hi);rcases h with⟨h1,h2,h3,h4⟩|⟨hg,⟨a,k,ha,WL,td,hr,hp⟩,hs,hc,hq⟩
 ·exact .inl ⟨h1,h2,by rw[Ak 0 (by decide)];exact h3,by rw[Ak 1 (by decide)];exact h4⟩
 ·have Mo:=wQ hd.bu;refine .inr ⟨hg,⟨a,k,ha,WL,td,by rw[h01 a (by omega)];exact hr,λp UU=>hp p (by rw[<-Ak (1-a) (by omega)];exact UU)⟩,hs,hc,λq hqq=>?_⟩;rw[Z8 _ (by omega) (by omega)];exact hq q hqq
structure VG(n:Nat)(D:aY)(J:PJ)(hd:gp)(mb:aA)(qs:List j0)(g:Nat):Prop where
 jg:JG n D J hd.seq (qs.map dH) g
 cg:CG n D hd mb
 lo:J.lo=((2+2* dm n:Nat):Int)
 hi:J.hi=(n:Int)
 dK:J.dK=false
 zE:eB (bo mb)
 ground:Md.bW mb
 pc:∀q∈qs,Hg q
 FK:J.seq<=g
 bu:0<=hd.bu/\hd.bu<=g
def VG.mono{n:Nat}{D:aY}{J:PJ}{hd:gp}{mb:aA}{qs:List j0}{g g':Nat}(h:VG n D J hd mb qs g)(hg:g<=g'):VG n D J hd mb qs g':=
 ⟨h.jg.mono hg,h.cg,h.lo,h.hi,h.dK,h.zE,h.ground,h.pc,by have:=h.FK;omega,by have:=h.bu;omega⟩
def V5{n:Nat}(nu:12<=n)(cS:n<=4096):VG n (aY.new n) ⟨((2+2* dm n:Nat):Int),n,((2+2* dm n:Nat):Int),0,false⟩ Fc mY [] 0:=by
 have hb:2+2* dm n<n:=by unfold dm;omega
 have hz:∀i:Nat,i<n->mB ((aY.new n).read (i:Int)).1.data.toList=none:=λi hi=>by
  rw[zy cS hi];exact zp
 exact⟨acq cS (by omega) (by omega) (by omega) 0 (by omega),.inl ⟨rfl,rfl,G6 (hz 0 (by omega)),G6 (hz 1 (by omega))⟩,rfl,rfl,rfl,GH,kx,λq hq=>(by cases hq),eE _,⟨eE _,eE _⟩⟩
def VG.add{n:Nat}{D:aY}{J:PJ}{hd:gp}{mb:aA}{qs:List j0}{g:Nat}{q:j0}(h:VG n D J hd mb qs g)(nu:12<=n)(cS:n<=4096)(hq:Hg q)(hr:room J (bs (dH q)).size)(hg:g+1<256):
 uO D J (fk D n+1) (bs (dH q))=Sep.Dn J (bs (dH q)) (eY D J.at' J.hi (fk D n+1) (bs (dv (J.seq+1) (bs (dH q)))))/\(eY D J.at' J.hi (fk D n+1) (bs (dv (J.seq+1) (bs (dH q))))).1.Ok/\
 (((eY D J.at' J.hi (fk D n+1) (bs (dv (J.seq+1) (bs (dH q))))).2=0/\VG n (eY D J.at' J.hi (fk D n+1) (bs (dv (J.seq+1) (bs (dH q))))).1 (J.more (bs (dH q))) hd mb (qs++[q]) (g+1))\/
  ((eY D J.at' J.hi (fk D n+1) (bs (dv (J.seq+1) (bs (dH q))))).2=8/\∀mask torn cut,
    VG n ((eY D J.at' J.hi (fk D n+1) (bs (dv (J.seq+1) (bs (dH q))))).1.fJ mask torn cut) J hd mb qs (g+1)\/
    VG n ((eY D J.at' J.hi (fk D n+1) (bs (dv (J.seq+1) (bs (dH q))))).1.fJ mask torn cut) (J.more (bs (dH q))) hd mb (qs++[q]) (g+1))):=by
 obtain⟨x,hx,hxg,hjx⟩:=h.jg.zD (by omega);have hm:fk D n+1=((x+1:Nat):Int):=by omega
 rw[hm];have HK:=h.FK;have htr:=h.bu;have Aj:=h.lo;have y3:=h.hi;obtain⟨a1,a2,a3⟩:=hjx.add (m:=x+1) (s:=bs (dH q)) h.dK cS (by omega) (by omega) hr (by omega);have j2:=h.jg.yl.Ey;obtain⟨a,ha⟩:=bh (show 0<=J.at' by omega);have Cj:=tD (J.seq+1) (bs (dH q));have r3:=hr.2.2;rw[ak] at r3;have hcg:∀D',Aft (eY D J.at' J.hi ((x+1:Nat):Int) (bs (dv (J.seq+1) (bs (dH q))))) D'->CG n D' hd mb:=λD' hA=>by
  rw[ha,y3] at hA;obtain⟨k1,k2,k3,k4,k5,-,-⟩:=lsx (n:=n) (a:=a) (t:=n) (m:=x+1) (g:=x) h.jg.ok h.jg.IW h.jg.len hjx.ends cS (by omega) (by omega) (by rw[Cj];omega) (aI _) hA;have UT:=(pZ nu hd.bu);have Z8:fj n hd.bu+dm n<=2+2* dm n:=by unfold fj;split<;>omega
  exact h.cg.mw nu h.jg.len k3 (λj hj=>k5 j (by omega) (.inl (by omega))) (λj hj1 HN=>k5 j (by omega) (.inl (by omega)))
 have Z9:∀r∈qs++[q],Hg r:=λr hr=>by
  rcases dB.1 hr with hr|hr
  ·exact h.pc r hr
  ·cases(show r=q by simpa using hr);exact hq
 have Mn:(qs++[q]).map dH=qs.map dH++[(bs (dH q)).data.toList]:=by rw[cF];rfl
 refine⟨a1,a2,?_⟩;rcases a3 with⟨z,hj⟩|z
 ·left
  refine⟨z,⟨?_,hcg _ (.inr ⟨z,rfl⟩),Aj,y3,h.dK,h.zE,h.ground,Z9,by show J.seq+1<=((g+1:Nat):Int);omega,by omega⟩⟩;rw[Mn];exact hj.mono (by omega)
 ·right
  refine⟨z,λmask torn cut=>?_⟩;obtain⟨f1,f2,f3,f4⟩:=fly hjx cS (show x<x+1 by omega) (by omega) hr (by omega) mask torn cut;have hc:=hcg _ (.inl ⟨mask,torn,cut,rfl⟩);by_cases hw:∀i:Nat,i<gH (12+(bs (dH q)).size)->(((eY D J.at' J.hi ((x+1:Nat):Int) (bs (dv (J.seq+1) (bs (dH q))))).1.fJ mask torn cut).read (J.at'+i)).1=leaf ((x+1:Nat):Int) i (Sep.part (bs (dv (J.seq+1) (bs (dH q)))) i)
  ·right
   refine⟨?_,hc,Aj,y3,h.dK,h.zE,h.ground,Z9,by show J.seq+1<=((g+1:Nat):Int);omega,by omega⟩;rw[Mn];exact(f3 hw).mono (by omega)
  ·left
   exact⟨(f4 hw).mono (by omega),hc,Aj,y3,h.dK,h.zE,h.ground,h.pc,by omega,by omega⟩
def L6{t:Int}(h:0<=t/\t<1152921504606846976):low (t+1)=1-low t:=by
 rw[L7 (by omega),L7 (by omega),gX (by omega),gX (by omega)];omega
def VG.put{n:Nat}{D:aY}{J:PJ}{hd:gp}{mb m:aA}{qs:List j0}{g:Nat}(h:VG n D J hd mb qs g)(nu:12<=n)(cS:n<=4096)(hg:g+2<256)(A9:gH (cT (bo m)).length<=dm n):
 ((put D n (hd.bu+1) (fk D n+1) (bs (cT (bo m)))).2=0\/(put D n (hd.bu+1) (fk D n+1) (bs (cT (bo m)))).2=8)/\
 ∀D',Aft (put D n (hd.bu+1) (fk D n+1) (bs (cT (bo m)))) D'->VG n D' J hd mb qs (g+1)/\
  ((put D n (hd.bu+1) (fk D n+1) (bs (cT (bo m)))).2=0->∀q:Nat,q<gH (cT (bo m)).length->(D'.read ((fj n (hd.bu+1)+q:Nat):Int)).1=leaf (fk D n+1) q (Sep.part (bs (cT (bo m))) q)):=by
 obtain⟨x,hx,hxg,hjx⟩:=h.jg.zD (by omega);have hm:fk D n+1=((x+1:Nat):Int):=by omega
 rw[hm,A0];have xt:=pZ nu (hd.bu+1);have htr:=h.bu;have Aj:=h.lo;have y3:=h.hi;have HK:=h.FK;refine⟨EV (n:=n) (a:=fj n (hd.bu+1)) (t:=fj n (hd.bu+1)+dm n) (number:=((x+1:Nat):Int)) h.jg.len cS (by omega) (by rw[bV];omega) (by omega),λD' hA=>?_⟩;obtain⟨k1,k2,k3,k4,k5,k6,k7⟩:=lsx (n:=n) (a:=fj n (hd.bu+1)) (t:=fj n (hd.bu+1)+dm n) (m:=x+1) (g:=x) h.jg.ok h.jg.IW h.jg.len hjx.ends cS (by omega) (by omega) (by rw[bV];omega) (by omega) hA;rw[bV] at k5 k6;have hap:=NX (n:=n) hd.bu (hd.bu+1) (by rw[L6 (by omega)];have:=wQ hd.bu;omega);have Z8:fj n (hd.bu+1)+dm n<=2+2* dm n:=by unfold fj;split<;>omega
 refine⟨⟨Gq h.jg k1 k2 k3 (λj hj1 HN=>?_) (λj hj=>(k4 j hj).mono (by omega)),h.cg.mw nu h.jg.len k3 (λj hj=>k5 j (by omega) (.inl (by omega))) (λj hj1 HN=>k5 j (by have:=(pZ nu hd.bu).2.1;omega) (by omega)),Aj,y3,h.dK,h.zE,h.ground,h.pc,by omega,by omega⟩,k6⟩;obtain⟨k,rfl⟩:=bh (show 0<=j by omega);exact k5 k (by omega) (.inr (by omega))
def VG.aeJ{n:Nat}{D:aY}{J:PJ}{hd:gp}{mb m:aA}{qs:List j0}{g:Nat}{number:Int}(h:VG n D J hd mb qs g)(nu:12<=n)(cS:n<=4096)(x:Nat)(hx:fk D n<=x)(hxg:x<=g)(hg:g+1<256)(qG:1<=number/\number<=(g:Int))
 (A9:gH (cT (bo m)).length<=dm n)(hlen:(cT (bo m)).length<=425984)(dY:eB (bo m))(uX:Md.bW m)
 (adi:∀q:Nat,q<gH (cT (bo m)).length->(D.read ((fj n (hd.bu+1)+q:Nat):Int)).1=leaf number q (Sep.part (bs (cT (bo m))) q)):
 ((uL D ((x+1:Nat):Int) ⟨hd.bu+1,number,((cT (bo m)).length:Int),J.seq⟩).2=0\/(uL D ((x+1:Nat):Int) ⟨hd.bu+1,number,((cT (bo m)).length:Int),J.seq⟩).2=8)/\
 ∀D',Aft (uL D ((x+1:Nat):Int) ⟨hd.bu+1,number,((cT (bo m)).length:Int),J.seq⟩) D'->
  (VG n D' {J with at':=J.lo} ⟨hd.bu+1,number,((cT (bo m)).length:Int),J.seq⟩ m [] (g+1)\/
   ((uL D ((x+1:Nat):Int) ⟨hd.bu+1,number,((cT (bo m)).length:Int),J.seq⟩).2=8/\VG n D' J hd mb qs (g+1))):=by
 have sf:∀j:Nat,j<n->Sep.Ends x (D.read (j:Int)).1:=by
  obtain⟨y,hy,hyg,hjy⟩:=h.jg.zD (by omega);intro j hj;exact(hjy.ends j hj).mono (by omega)
 have htr:=h.bu;have HK:=h.FK;have Aj:=h.lo;have y3:=h.hi;have Yl:=h.jg.yl.seq;obtain⟨hH,Jc⟩:∃hH:gp,hH=⟨hd.bu+1,number,((cT (bo m)).length:Int),J.seq⟩:=⟨_,rfl⟩;rw[<-Jc];have hHt:hH.bu=hd.bu+1:=by rw[Jc]
 have hHs:hH.seq=J.seq:=by rw[Jc]
 have hHn:hH.number=number:=by rw[Jc]
 have hHz:hH.size=((cT (bo m)).length:Int):=by rw[Jc]
 have hHG:oo hH:=by rw[Jc];unfold oo;dsimp only;omega
 obtain⟨b,hb,xa,e⟩:=QH (D:=D) (number:=((x+1:Nat):Int)) hHG;have Ov:=GW hH;rw[e];refine⟨EV (n:=n) (a:=b) (t:=b+1) (number:=((x+1:Nat):Int)) h.jg.len cS (by omega) (by rw[Ov];omega) (by omega),λD' hA=>?_⟩;obtain⟨k1,k2,k3,k4,k5,k6,k7⟩:=lsx (n:=n) (a:=b) (t:=b+1) (m:=x+1) (g:=x) h.jg.ok h.jg.IW h.jg.len sf cS (by omega) (by omega) (by rw[Ov];omega) (by omega) hA;rw[Ov] at k5 k6 k7;have hbl:(b:Int)=1-low hd.bu:=by rw[hb,hHt];exact L6 (by omega)
 have Mo:=wQ hd.bu;have xt:=pZ nu (hd.bu+1);have aiw:=pZ nu hd.bu;have UT:2<=2+2* dm n:=by omega
 have EZ:=k7 0 (by decide);rw[gM,IG] at EZ;have jg1:∀g',g'>=x+1->JG n D' J hd.seq (qs.map dH) g':=λg' Yn=>Gq h.jg k1 k2 k3 (λj hj1 HN=>by
  obtain⟨k,rfl⟩:=bh (show 0<=j by omega)
  exact k5 k (by omega) (.inr (by omega))) (λj hj=>(k4 j hj).mono Yn)
 have A6:∀j:Nat,j<n->j≠b->(D'.read (j:Int)).1=(D.read (j:Int)).1:=λj hj kJ=>k5 j hj (by omega);have whole:(D'.read (b:Int)).1=leaf ((x+1:Nat):Int) 0 (bs (ku hH))->VG n D' {J with at':=J.lo} hH m [] (g+1):=λhw=>by
  have jr:=Oi (jg1 (g+1) (by omega));refine⟨by rw[hHs];exact jr,.inr ⟨hHG,⟨b,((x+1:Nat):Int),hb,by omega,by omega,hw,λp hp=>?_⟩,hHz,A9,λq hq=>?_⟩,Aj,y3,h.dK,dY,uX,λq hq=>(by cases hq),by show J.seq<=((g+1:Nat):Int);omega,by rw[hHt];omega⟩
  ·rw[hHt];have GB:Bl D (1-b)=some p:=by rw[<-hp];exact(Dm (by have:=h.jg.len;omega) (by omega) (A6 (1-b) (by omega) (by omega))).symm
   rcases h.cg with⟨z1,z2,z3,z4⟩|⟨Ou,⟨a,k,ha,WL,td,hra,hpa⟩,-⟩
   ·by_cases hb0:b=0
    ·subst hb0;rw[z4] at GB;cases GB
    ·have:b=1:=by omega
     subst this;rw[z3] at GB;cases GB
   ·have WS:a=1-b:=by omega
    have eA:Bl D a=some hd:=M0 (n:=k) ⟨WL,td⟩ Ou ha (by
     have:=Aa (D:=D) (i:=a) (by have:=h.jg.len;omega)
     rw[<-hra,<-this])
    rw[<-WS,eA] at GB;cases GB
    omega
  ·rw[hHt,hHn,A6 _ (by omega) (by omega)];exact adi q hq
 have ac0:Bl D' b=none\/(D'.read (b:Int)).1=(D.read (b:Int)).1->VG n D' J hd mb qs (g+1):=λhn=>by
  refine⟨jg1 (g+1) (by omega),?_,Aj,y3,h.dK,h.zE,h.ground,h.pc,by omega,by omega⟩;rcases hn with hn|hn
  ·rcases h.cg with⟨z1,z2,z3,z4⟩|⟨Ou,⟨a,k,ha,WL,td,hra,hpa⟩,hs,hc,hq⟩
   ·have hc1:Bl D' (1-b)=none:=by
     rw[Dm (by have:=h.jg.len;omega) (by omega) (A6 (1-b) (by omega) (by omega))];by_cases hb0:b=0
     ·subst hb0;exact z4
     ·have:b=1:=by omega
      subst this;exact z3
    refine .inl ⟨z1,z2,?_,?_⟩
    ·by_cases hb0:b=0
     ·subst hb0;exact hn
     ·have:b=1:=by omega
      subst this;exact hc1
    ·by_cases hb0:b=0
     ·subst hb0;exact hc1
     ·have:b=1:=by omega
      subst this;exact hn
   ·have WS:1-a=b:=by omega
    refine .inr ⟨Ou,⟨a,k,ha,WL,td,by rw[A6 a (by omega) (by omega)];exact hra,λp hp=>by rw[WS,hn] at hp;cases hp⟩,hs,hc,λq hqq=>?_⟩;rw[A6 _ (by omega) (by omega)];exact hq q hqq
  ·exact h.cg.mw nu h.jg.len k3 (λj hj=>by
    by_cases hjb:j=b
    ·subst hjb;exact hn
    ·exact A6 j (by omega) hjb) (λj hj1 HN=>A6 j (by omega) (by omega))
 by_cases hw:(D'.read (b:Int)).1=leaf ((x+1:Nat):Int) 0 (bs (ku hH))
 ·exact .inl (whole hw)
 ·right
  have hc8:(eY D (b:Int) ((b+1:Nat):Int) ((x+1:Nat):Int) (bs (ku hH))).2=8:=by
   rcases EV (n:=n) (a:=b) (t:=b+1) (number:=((x+1:Nat):Int)) (s:=bs (ku hH)) h.jg.len cS (by omega) (by rw[Ov];omega) (by omega) with h0|h8
   ·have:=k6 h0 0 (by decide);rw[gM,IG] at this;exact aT this hw
   ·exact h8
  refine⟨hc8,?_⟩;rcases EZ with hh|hh|hh
  ·exact ac0 (.inr hh)
  ·exact aT hh hw
  ·exact ac0 (.inl (G6 hh))
def tN(n:Nat)(D:aY)(m:aA)(g:Nat):Prop:=∃J hd mb qs,VG n D J hd mb qs g/\Aw mb qs=m
def tN.mono{n:Nat}{D:aY}{m:aA}{g g':Nat}(h:tN n D m g)(hg:g<=g'):tN n D m g':=by
 obtain⟨J,hd,mb,qs,h1,h2⟩:=h;exact⟨J,hd,mb,qs,h1.mono hg,h2⟩
structure VW(n:Nat)(S:VS)(m:aA)(g:Nat):Prop where
 dK:S.dK=false
 is:∃hd mb qs,VG n S.D S.J hd mb qs g/\Aw mb qs=m/\S.bu=hd.bu
structure VX(n:Nat)(S:VS)(m mf:aA)(g:Nat):Prop where
 dK:S.dK=true
 ok:HZ S
 len:S.D.safe.length=n
 seq:S.J.seq<=g
 fJ:∀mask torn cut,tN n (S.D.fJ mask torn cut) m g\/tN n (S.D.fJ mask torn cut) mf g
def VW.mono{n:Nat}{S:VS}{m:aA}{g g':Nat}(h:VW n S m g)(hg:g<=g'):VW n S m g':=by
 obtain⟨h1,hd,mb,qs,h2,h3,h4⟩:=h;exact⟨h1,hd,mb,qs,h2.mono hg,h3,h4⟩
def VX.mono{n:Nat}{S:VS}{m mf:aA}{g g':Nat}(h:VX n S m mf g)(hg:g<=g'):VX n S m mf g':=
 ⟨h.dK,h.ok,h.len,by have:=h.seq;omega,λa b c=>(h.fJ a b c).imp (λx=>x.mono hg) (λx=>x.mono hg)⟩
def VW.ok{n:Nat}{S:VS}{m:aA}{g:Nat}(h:VW n S m g)(hg:g<256):HZ S:=by
 obtain⟨h1,hd,mb,qs,h2,h3,h4⟩:=h;have:=h2.bu;exact⟨h2.jg.ok,by rw[h2.jg.IW];decide,h2.jg.yl,by omega⟩
def VW.len{n:Nat}{S:VS}{m:aA}{g:Nat}(h:VW n S m g):S.D.safe.length=n:=by
 obtain⟨h1,hd,mb,qs,h2,h3,h4⟩:=h;exact h2.jg.len
def VG.fJ{n:Nat}{D:aY}{J:PJ}{hd:gp}{mb:aA}{qs:List j0}{g:Nat}(h:VG n D J hd mb qs g)(nu:12<=n)(mask torn cut:Int):VG n (D.fJ mask torn cut) J hd mb qs g:=by
 have hr:=λj=>Bf h.jg.IW mask torn cut j;have e:D.fJ mask torn cut=⟨D.safe,[],D.ops,0⟩:=by rw[oa,h.jg.IW];rfl
 have iz:(D.fJ mask torn cut).Ok:=Cq h.jg.ok mask torn cut;have hl:(D.fJ mask torn cut).safe.length=n:=by rw[vd];exact h.jg.len
 exact⟨h.jg.congr iz (by rw[e]) hl (λj _ _=>by rw[hr]),h.cg.mw nu h.jg.len hl (λj _=>by rw[hr]) (λj _ _=>by rw[hr]),h.lo,h.hi,h.dK,h.zE,h.ground,h.pc,h.FK,h.bu⟩
def VW.fJ{n:Nat}{S:VS}{m:aA}{g:Nat}(h:VW n S m g)(nu:12<=n)(mask torn cut:Int):tN n (S.D.fJ mask torn cut) m g:=by
 obtain⟨h1,hd,mb,qs,h2,h3,h4⟩:=h;exact⟨S.J,hd,mb,qs,h2.fJ nu mask torn cut,h3⟩
def VG.same{n:Nat}{D D':aY}{J:PJ}{hd:gp}{mb:aA}{qs:List j0}{g:Nat}(h:VG n D J hd mb qs g)(nu:12<=n)(iz:D'.Ok)(A7:D'.later=[])(hl:D'.safe.length=n)(hr:∀j:Int,D'.read j=D.read j):VG n D' J hd mb qs g:=
 ⟨h.jg.congr iz A7 hl (λj _ _=>by rw[hr]),h.cg.mw nu h.jg.len hl (λj _=>by rw[hr]) (λj _ _=>by rw[hr]),h.lo,h.hi,h.dK,h.zE,h.ground,h.pc,h.FK,h.bu⟩
def VW.uC{n:Nat}{S:VS}{m:aA}{g:Nat}(h:VW n S m g)(nu:12<=n)(k:Int):VW n {S with D:=S.D.uC k} m g:=by
 obtain⟨h1,hd,mb,qs,h2,h3,h4⟩:=h;have ho:=h2.jg.ok;exact⟨h1,hd,mb,qs,h2.same nu ⟨ho.safe,ho.later,ho.oJ,ho.less⟩ h2.jg.IW h2.jg.len (λj=>rfl),h3,h4⟩
def VX.uC{n:Nat}{S:VS}{m mf:aA}{g:Nat}(h:VX n S m mf g)(k:Int):VX n {S with D:=S.D.uC k} m mf g:=by
 have ho:=h.ok;refine⟨h.dK,⟨⟨ho.ok.safe,ho.ok.later,ho.ok.oJ,ho.ok.less⟩,ho.oJ,⟨ho.yl.lo,ho.yl.Ey,ho.yl.QQ,ho.yl.hi,ho.yl.seq⟩,ho.bu⟩,h.len,h.seq,λa b c=>?_⟩;have e:(S.D.uC k).fJ a b c=S.D.fJ a b c:=by rw[oa,oa];rfl
 show tN n ((S.D.uC k).fJ a b c) m g\/tN n ((S.D.uC k).fJ a b c) mf g;rw[e];exact h.fJ a b c
def Bz{n:Nat}{S:VS}{m:aA}{g:Nat}(h:VW n S m g)(nu:12<=n)(cS:n<=4096)(hg:g+2<256)(dY:eB (bo m))(uX:Md.bW m):
 ((fh n m S).2=0/\VW n (fh n m S).1 m (g+2)/\(fh n m S).1.bu=S.bu+1/\(fh n m S).1.J.seq=S.J.seq/\(fh n m S).1.J.at'=S.J.lo/\(fh n m S).1.J.lo=S.J.lo/\(fh n m S).1.J.hi=S.J.hi)\/
 ((fh n m S).2=3/\(fh n m S).1=S/\ ¬gH (cT (bo m)).length<=dm n)\/
 ((fh n m S).2=8/\VX n (fh n m S).1 m m (g+2)/\(fh n m S).1.bu=S.bu/\(fh n m S).1.J.seq=S.J.seq):=by
 have hgl:=xV dY;have xu:=dY.oJ;have xr:=dY.many;have hlen:(cT (bo m)).length<=425984:=by omega
 obtain⟨h1,hd,mb,qs,h2,h3,h4⟩:=h;have htr:=h2.bu;have Aj:=h2.lo;have y3:=h2.hi;have HK:=h2.FK;have UT:2+2* dm n<n:=by unfold dm;omega
 unfold fh;rw[ag (by rw[h1];decide),h4,h2.jg.len];by_cases A9:gH (cT (bo m)).length<=dm n
 rotate_left
 ·rw[ai A9]
  right;left
  exact⟨rfl,rfl,A9⟩
 rw[ag (λhh=>hh A9)];obtain⟨p1,p2⟩:=h2.put (m:=m) nu cS hg A9;obtain⟨x,hx,hxg,hjx⟩:=h2.jg.zD (by omega);have xt:=pZ nu (hd.bu+1);have oJ:∀{a t:Nat} {k:Int} {s:BA} {D:aY},D.Ok->D.later=[]->gH s.size<900000->(eY D a t k s).1.later.length<1000000:=λ{a t k s D} ho hl hc=>by
  have:=Oh (at':=(a:Int)) (toX:=(t:Int)) (number:=k) (s:=s) ho (by rw[hl,cR];omega);rw[hl,cR] at this;omega
 have Qx:gH (bs (cT (bo m))).size<900000:=by rw[bV];have:=xt.2.1;omega
 by_cases z1:(put S.D n (hd.bu+1) (fk S.D n+1) (bs (cT (bo m)))).2=0
 rotate_left
 ·have z8:(put S.D n (hd.bu+1) (fk S.D n+1) (bs (cT (bo m)))).2=8:=by rcases p1 with p1|p1;exact aT p1 z1;exact p1
  rw[ai z1]
  right;right
  have c0:=p2 _ (.inl ⟨0,0,0,rfl⟩);have SX:(put S.D n (hd.bu+1) (fk S.D n+1) (bs (cT (bo m)))).1.safe.length=n:=by rw[<-vd _ 0 0 0];exact c0.1.jg.len
  have abu:(put S.D n (hd.bu+1) (fk S.D n+1) (bs (cT (bo m)))).1.Ok:=by rw[A0];exact L4 h2.jg.ok (by rw[h2.jg.IW,cR];omega)
  have yq:=h2.jg.yl;refine⟨z8,⟨rfl,⟨abu,by rw[A0];exact oJ h2.jg.ok h2.jg.IW Qx,⟨yq.lo,yq.Ey,yq.QQ,by rw[SX];have:=yq.hi;rw[h2.jg.len] at this;exact this,yq.seq⟩,by show 0<=hd.bu/\hd.bu<_;omega⟩,SX,by show S.J.seq<=_;omega,λa b c=>?_⟩,rfl,rfl⟩
  left
  obtain⟨c1,c2⟩:=p2 _ (.inl ⟨a,b,c,rfl⟩);exact⟨S.J,hd,mb,qs,c1.mono (by omega),h3⟩
 ·rw[ag (λhh=>hh z1)];obtain⟨c1,c2⟩:=p2 _ (.inr ⟨z1,rfl⟩);have c2:=c2 z1;generalize hD1:(put S.D n (hd.bu+1) (fk S.D n+1) (bs (cT (bo m)))).1=D1 at c1 c2⊢;have afr:fk D1 n<=((x+1:Nat):Int):=by
   have hA:Aft (put S.D n (hd.bu+1) (fk S.D n+1) (bs (cT (bo m)))) D1:=.inr ⟨z1,hD1.symm⟩;rw[A0,show fk S.D n+1=((x+1:Nat):Int) by omega] at hA;obtain⟨_,_,_,k4,_⟩:=lsx (n:=n) (a:=fj n (hd.bu+1)) (t:=fj n (hd.bu+1)+dm n) (m:=x+1) (g:=x) h2.jg.ok h2.jg.IW h2.jg.len hjx.ends cS (by omega) (by omega) (by rw[bV];omega) (by omega) hA;exact Am (by omega) n k4
  have e2:fk S.D n+2=((x+1+1:Nat):Int):=by omega
  rw[e2];obtain⟨q1,q2⟩:=c1.aeJ (m:=m) (number:=fk S.D n+1) nu cS (x+1) afr (by omega) (by omega) (by omega) A9 hlen dY uX c2;have hHG:oo ⟨hd.bu+1,fk S.D n+1,((cT (bo m)).length:Int),S.J.seq⟩:=by have:=h2.jg.yl.seq;unfold oo;dsimp only;omega
  obtain⟨b,hb,xa,ec⟩:=QH (D:=D1) (number:=((x+1+1:Nat):Int)) hHG;by_cases z2:(uL D1 ((x+1+1:Nat):Int) ⟨hd.bu+1,fk S.D n+1,((cT (bo m)).length:Int),S.J.seq⟩).2=0
  ·rw[ag (λhh=>hh z2)]
   left
   rcases q2 _ (.inr ⟨z2,rfl⟩) with hv|⟨h8,_⟩
   ·exact⟨rfl,⟨h1,_,m,[],hv.mono (by omega),rfl,rfl⟩,rfl,rfl,rfl,rfl,rfl⟩
   ·rw[z2] at h8;exact aT h8 (by decide)
  ·have z8:(uL D1 ((x+1+1:Nat):Int) ⟨hd.bu+1,fk S.D n+1,((cT (bo m)).length:Int),S.J.seq⟩).2=8:=by rcases q1 with q1|q1;exact aT q1 z2;exact q1
   rw[ai z2]
   right;right
   have SX:(uL D1 ((x+1+1:Nat):Int) ⟨hd.bu+1,fk S.D n+1,((cT (bo m)).length:Int),S.J.seq⟩).1.safe.length=n:=by
    rw[<-vd _ 0 0 0];rcases q2 _ (.inl ⟨0,0,0,rfl⟩) with hv|⟨_,hv⟩
    ·exact hv.jg.len
    ·exact hv.jg.len
   have abu:(uL D1 ((x+1+1:Nat):Int) ⟨hd.bu+1,fk S.D n+1,((cT (bo m)).length:Int),S.J.seq⟩).1.Ok:=by rw[ec];exact L4 c1.jg.ok (by rw[c1.jg.IW,cR,GW];omega)
   have yq:=h2.jg.yl;refine⟨z8,⟨rfl,⟨abu,by rw[ec];exact oJ c1.jg.ok c1.jg.IW (by rw[GW];omega),⟨yq.lo,yq.Ey,yq.QQ,by rw[SX];have:=yq.hi;rw[h2.jg.len] at this;exact this,yq.seq⟩,by show 0<=hd.bu/\hd.bu<_;omega⟩,SX,by show S.J.seq<=_;omega,λa b' c=>?_⟩,rfl,rfl⟩
   left
   rcases q2 _ (.inl ⟨a,b',c,rfl⟩) with hv|⟨_,hv⟩
   ·exact⟨_,_,m,[],hv.mono (by omega),rfl⟩
   ·exact⟨S.J,hd,mb,qs,hv.mono (by omega),h3⟩
def Fq{n:Nat}{S:VS}{m:aA}{g:Nat}{q:j0}(h:VW n S m g)(nu:12<=n)(cS:n<=4096)(hg:g+1<256)(hq:Hg q):
 ((ph S (bs (dH q))).2=0/\VW n (ph S (bs (dH q))).1 (bD m q).2.2 (g+1)/\(ph S (bs (dH q))).1.bu=S.bu/\(ph S (bs (dH q))).1.J.seq=S.J.seq+1)\/
 ((ph S (bs (dH q))).2=6/\(ph S (bs (dH q))).1=S/\ ¬room S.J (bs (dH q)).size)\/
 ((ph S (bs (dH q))).2=8/\VX n (ph S (bs (dH q))).1 m (bD m q).2.2 (g+1)/\(ph S (bs (dH q))).1.bu=S.bu/\(ph S (bs (dH q))).1.J.seq=S.J.seq):=by
 obtain⟨h1,hd,mb,qs,h2,h3,h4⟩:=h;have htr:=h2.bu;have Aj:=h2.lo;have y3:=h2.hi;have HK:=h2.FK;have hgi:=(yt S.D n).1;obtain⟨x,hx,hxg,hjx⟩:=h2.jg.zD (by omega);unfold ph;rw[h2.jg.len];by_cases hr:room S.J (bs (dH q)).size
 ·obtain⟨a1,a2,a3⟩:=h2.add nu cS hq hr hg;have ado:Aw mb (qs++[q])=(bD m q).2.2:=by rw[Iw,h3]
  rcases a3 with⟨z,hv⟩|⟨z,hv⟩
  ·have e:uO S.D S.J (fk S.D n+1) (bs (dH q))=((eY S.D S.J.at' S.J.hi (fk S.D n+1) (bs (dv (S.J.seq+1) (bs (dH q))))).1,S.J.more (bs (dH q)),0):=by
    rw[a1];unfold Sep.Dn;rw[ag (λhh=>hh z)];rfl
   rw[e]
   left
   exact⟨rfl,⟨by show(S.dK||_)=false;rw[h1];rfl,hd,mb,qs++[q],hv,ado,h4⟩,rfl,rfl⟩
  ·have e:uO S.D S.J (fk S.D n+1) (bs (dH q))=((eY S.D S.J.at' S.J.hi (fk S.D n+1) (bs (dv (S.J.seq+1) (bs (dH q))))).1,{S.J with dK:=true},8):=by
    rw[a1];unfold Sep.Dn;rw[ai (by rw[z];decide),z]
   rw[e]
   right;right
   have SX:(eY S.D S.J.at' S.J.hi (fk S.D n+1) (bs (dv (S.J.seq+1) (bs (dH q))))).1.safe.length=n:=by
    rw[<-vd _ 0 0 0];rcases hv 0 0 0 with hh|hh
    ·exact hh.jg.len
    ·exact hh.jg.len
   have yq:=h2.jg.yl;have Cj:=tD (S.J.seq+1) (bs (dH q));have hcn:gH (12+(bs (dH q)).size)<=4096:=by have:=hr.2.2;rw[ak] at this;have:=yq.lo;have:=yq.Ey;omega
   have xu:=Oh (at':=S.J.at') (toX:=S.J.hi) (number:=fk S.D n+1) (s:=bs (dv (S.J.seq+1) (bs (dH q)))) h2.jg.ok (by rw[h2.jg.IW,cR,Cj];omega);rw[h2.jg.IW,cR,Cj] at xu;refine⟨rfl,⟨by show(S.dK||_)=true;rw[h1];rfl,⟨a2,by show(eY S.D S.J.at' S.J.hi (fk S.D n+1) (bs (dv (S.J.seq+1) (bs (dH q))))).1.later.length<1000000;omega,⟨yq.lo,yq.Ey,yq.QQ,by rw[SX];have:=yq.hi;rw[h2.jg.len] at this;exact this,yq.seq⟩,by show 0<=S.bu/\S.bu<_;omega⟩,SX,by show S.J.seq<=_;omega,λa b c=>?_⟩,rfl,rfl⟩;rcases hv a b c with hh|hh
   ·exact .inl ⟨_,hd,mb,qs,hh,h3⟩
   ·exact .inr ⟨_,hd,mb,qs++[q],hh,ado⟩
 ·have e:uO S.D S.J (fk S.D n+1) (bs (dH q))=(S.D,S.J,6):=by
   unfold uO;rw[ag (by rw[h2.dK];decide),ag (by omega),ai (.inl hr)]
  rw[e]
  right;left
  refine⟨rfl,?_,hr⟩;have:(S.dK||(6:Int)==8)=S.dK:=by cases S.dK<;>rfl
  dsimp only;rw[this]
def aav{n:Nat}{S:VS}{m:aA}{g:Nat}{q:j0}(h:VW n S m g)(nu:12<=n)(cS:n<=4096)(hg:g+3<256)(dY:eB (bo m))(uX:Md.bW m)(hw:jy q=true)(he:fo q=true)(hA:∀a∈q.aC,yJ a)(hT:∀t∈q.cA,yF t):
 ((wZ n m S q).2=((bD m q).2.2,(bD m q).1,(bD m q).2.1)/\VW n (wZ n m S q).1 (bD m q).2.2 (g+3)/\(wZ n m S q).1.J.seq=S.J.seq+1)\/
 (∃e,(e=3\/e=6)/\(wZ n m S q).2=(m,e,[])/\VW n (wZ n m S q).1 m (g+3)/\(wZ n m S q).1.J.seq=S.J.seq)\/
 ((wZ n m S q).2=(m,8,[])/\VX n (wZ n m S q).1 m (bD m q).2.2 (g+3)/\(wZ n m S q).1.J.seq=S.J.seq):=by
 have Eu:Hg q:=⟨hw,he,hA,hT⟩;unfold wZ;rw[ag (by rw[hw];decide),ag (by rw[h.dK];decide)];have main:∀(S1:VS)(g1:Nat),VW n S1 m g1->g1+1<=g+3->S1.J.seq=S.J.seq->iH n m S (bs (dH q))=ph S1 (bs (dH q))->
                                          ((if(iH n m S (bs (dH q))).2≠0 then((iH n m S (bs (dH q))).1,m,(iH n m S (bs (dH q))).2,[]) else((iH n m S (bs (dH q))).1,(bD m q).2.2,(bD m q).1,(bD m q).2.1):VS×aA×Int×List Int)).2=((bD m q).2.2,(bD m q).1,(bD m q).2.1)/\VW n (if(iH n m S (bs (dH q))).2≠0 then((iH n m S (bs (dH q))).1,m,(iH n m S (bs (dH q))).2,[]) else((iH n m S (bs (dH q))).1,(bD m q).2.2,(bD m q).1,(bD m q).2.1):VS×aA×Int×List Int).1 (bD m q).2.2 (g+3)/\((if(iH n m S (bs (dH q))).2≠0 then((iH n m S (bs (dH q))).1,m,(iH n m S (bs (dH q))).2,[]) else((iH n m S (bs (dH q))).1,(bD m q).2.2,(bD m q).1,(bD m q).2.1):VS×aA×Int×List Int)).1.J.seq=S.J.seq+1\/
                                          (∃e,(e=3\/e=6)/\((if(iH n m S (bs (dH q))).2≠0 then((iH n m S (bs (dH q))).1,m,(iH n m S (bs (dH q))).2,[]) else((iH n m S (bs (dH q))).1,(bD m q).2.2,(bD m q).1,(bD m q).2.1):VS×aA×Int×List Int)).2=(m,e,[])/\VW n (if(iH n m S (bs (dH q))).2≠0 then((iH n m S (bs (dH q))).1,m,(iH n m S (bs (dH q))).2,[]) else((iH n m S (bs (dH q))).1,(bD m q).2.2,(bD m q).1,(bD m q).2.1):VS×aA×Int×List Int).1 m (g+3)/\((if(iH n m S (bs (dH q))).2≠0 then((iH n m S (bs (dH q))).1,m,(iH n m S (bs (dH q))).2,[]) else((iH n m S (bs (dH q))).1,(bD m q).2.2,(bD m q).1,(bD m q).2.1):VS×aA×Int×List Int)).1.J.seq=S.J.seq)\/
                                          (((if(iH n m S (bs (dH q))).2≠0 then((iH n m S (bs (dH q))).1,m,(iH n m S (bs (dH q))).2,[]) else((iH n m S (bs (dH q))).1,(bD m q).2.2,(bD m q).1,(bD m q).2.1):VS×aA×Int×List Int)).2=(m,8,[])/\VX n (if(iH n m S (bs (dH q))).2≠0 then((iH n m S (bs (dH q))).1,m,(iH n m S (bs (dH q))).2,[]) else((iH n m S (bs (dH q))).1,(bD m q).2.2,(bD m q).1,(bD m q).2.1):VS×aA×Int×List Int).1 m (bD m q).2.2 (g+3)/\((if(iH n m S (bs (dH q))).2≠0 then((iH n m S (bs (dH q))).1,m,(iH n m S (bs (dH q))).2,[]) else((iH n m S (bs (dH q))).1,(bD m q).2.2,(bD m q).1,(bD m q).2.1):VS×aA×Int×List Int)).1.J.seq=S.J.seq):=λS1 g1 hw1 Nu Et hva=>by
  rw[hva];rcases Fq (q:=q) hw1 nu cS (by omega) Eu with⟨z,a,b,c⟩|⟨z,a,b⟩|⟨z,a,b,c⟩
  ·left
   rw[ag (λhh=>hh z)];exact⟨rfl,a.mono Nu,by rw[<-Et];exact c⟩
  ·right;left
   rw[ai (by rw[z];decide),z,a];exact⟨6,.inr rfl,rfl,hw1.mono (by omega),Et⟩
  ·right;right
   rw[ai (by rw[z];decide),z];exact⟨rfl,a.mono Nu,by rw[<-Et];exact c⟩
 by_cases hr:room S.J (bs (dH q)).size
 ·exact main S g h (by omega) rfl (by unfold iH;rw[ai hr])
 ·rcases Bz h nu cS (by omega) dY uX with⟨z,a,b,c,_⟩|⟨z,a,_⟩|⟨z,a,b,c⟩
  ·exact main (fh n m S).1 (g+2) a (by omega) c (by unfold iH;rw[ag hr,ag (λhh=>hh z)])
  ·have hva:iH n m S (bs (dH q))=fh n m S:=by unfold iH;rw[ag hr,ai (by rw[z];decide)]
   rw[hva,ai (by rw[z];decide)]
   right;left
   exact⟨3,.inl rfl,by rw[z],by rw[a];exact h.mono (by omega),by rw[a]⟩
  ·have hva:iH n m S (bs (dH q))=fh n m S:=by unfold iH;rw[ag hr,ai (by rw[z];decide)]
   rw[hva,ai (by rw[z];decide)]
   right;right
   refine⟨by rw[z],⟨a.dK,a.ok,a.len,by show(fh n m S).1.J.seq<=_;have:=a.seq;omega,λx y w=>?_⟩,c⟩
   left
   rcases a.fJ x y w with hh|hh
   ·exact hh.mono (by omega)
   ·exact hh.mono (by omega)
def sL{m:aA}{q:j0}(hw:jy q=true)(he:fo q=true):(bD m q).1=0:=by
 have h2:lJ q=true:=by
  have WG:q.op=1\/q.op=2\/q.op=3:=aR he;have ha:o8 q=false:=by
   unfold o8;rw[ag (by omega),ag (by omega)]
  unfold jy at hw;rw[ha,Bool.or_false,df] at hw;exact hw.1
 unfold bD;rw[ag (by rw[h2];decide)];split
 ·rfl
 ·split<;>rfl
def Tr{n:Nat}{S:VS}{m:aA}{g:Nat}{q:j0}(h:VW n S m g)(U':600<=n)(cS:n<=4096)(hg:g+3<256)(dY:eB (bo m))(uX:Md.bW m)(hw:jy q=true)(he:fo q=true)(hA:∀a∈q.aC,yJ a)(hT:∀t∈q.cA,yF t):
 (wZ n m S q).2.2.1≠3/\(wZ n m S q).2.2.1≠6:=by
 have Eu:Hg q:=⟨hw,he,hA,hT⟩;have tr:=pk dY;have hrl:=u4 hw he;have hc:=Cs (k:=12+(bs (dH q)).size) (by rw[bV];omega);have ez:=sL (m:=m) hw he;unfold wZ;rw[ag (by rw[hw];decide),ag (by rw[h.dK];decide)];have key:(iH n m S (bs (dH q))).2≠3/\(iH n m S (bs (dH q))).2≠6:=by
  by_cases hr:room S.J (bs (dH q)).size
  ·have e:iH n m S (bs (dH q))=ph S (bs (dH q)):=by unfold iH;rw[ai hr]
   rw[e];rcases Fq (q:=q) h (by omega) cS (by omega) Eu with⟨z,_⟩|⟨_,_,b⟩|⟨z,_⟩
   ·omega
   ·exact aT hr b
   ·omega
  ·rcases Bz h (by omega) cS (by omega) dY uX with⟨z,a,_,_,b1,b2,b3⟩|⟨_,_,b⟩|⟨z,_⟩
   ·have e:iH n m S (bs (dH q))=ph (fh n m S).1 (bs (dH q)):=by unfold iH;rw[ag hr,ag (λhh=>hh z)]
    rw[e];have A5:120<=S.J.hi-S.J.lo:=by
     obtain⟨_,hd,mb,qs,h2,_⟩:=h;rw[h2.lo,h2.hi];unfold dm;omega
    rcases Fq (q:=q) a (by omega) cS (by omega) Eu with⟨z,_⟩|⟨_,_,b⟩|⟨z,_⟩
    ·omega
    ·refine aT ?_ b;refine⟨by omega,by rw[bV];omega,?_⟩;rw[ak,b1,b3];omega
    ·omega
   ·exact aT (sh U' tr) b
   ·have e:iH n m S (bs (dH q))=fh n m S:=by unfold iH;rw[ag hr,ai (by rw[z];decide)]
    rw[e];omega
 generalize iH n m S (bs (dH q))=A at key⊢;by_cases hz:A.2≠0
 ·rw[ai hz];exact key
 ·rw[ag hz];generalize bD m q=B at ez⊢;dsimp only;rw[ez];decide
structure Stp where
 kind:Int
 q:j0
 s:wG
 mask:Int
 torn:Int
 cut:Int
 n:Int
section
variable {x1 x2 x3 x4 x5 x6 x7 x8 x9 Fi Fh Fg Ff Jx NC NA ZC ZB:Value} {x:Stp}
end
def St.nil{W w:World}{L:LH}(h:St W w L):St W w []:=by
 induction L with
 |nil=>exact h
 |cons A L ih=>exact ih h.drop
instance(priority:=low) Has.nil{L:LH}:Has [] L:=⟨λh=>St.nil h⟩
def xG(m m2:aA):Prop:=(bo m).aC=(bo m2).aC/\m.ax=m2.ax/\m.clock=m2.clock/\m.ay=m2.ay
instance(m m2:aA):Decidable (xG m m2):=by unfold xG;infer_instance
def xG.refl(m:aA):xG m m:=⟨rfl,rfl,rfl,rfl⟩
def JL:∀{l:List Nat} {x:Nat},x∈l->x<=l.sum
 |[],x,h=>by cases h
 |y::l,x,h=>by
  rw[List.sum_cons];rcases ka.1 h with h|h
  ·subst h;omega
  ·have:=JL h;omega
section
variable {W:World} {L R M:LH} {K:VK} {X:WK} {q:j0} {s:wG} {p v d n pb pj:Nat} {m m2:aA} {mb kb:OA} {mc kc:Nat} {S:VS} {D:aY} {J:PJ} {hd:gp} {qs:List j0} {g:Nat} {f:aY->LH}
def Fs(G:oH W)(nu:12<=n)(cS:n<=4096)(hv:VG n D J hd m qs g)(hg:g<256)
 (h:∀v pb pj,Md.bW (Aw m qs)->T W (VL v d n pb pj (Aw m qs) ⟨D,J,hd.bu,false⟩ R) (K (.tuple ⟨[.p (ah v),.i 0]⟩))):
 T W (gN d D::R) (kX (ah d) K):=by
 have ho:=hv.jg.opened;have Aj:=hv.lo;have y3:=hv.hi;rw[Aj,y3] at ho;have HK:=hv.FK;have hq0:=hv.jg.q0;have Yl:=hv.jg.seq;refine W6 G hv.jg.ok nu cS hv.jg.len (hv.cg.base hv.jg.len nu cS) hv.zE hv.ground ⟨hq0,by omega⟩ (qs:=qs) (by rw[ho]) hv.pc λv pb pj oB=>?_;rw[ho];have e:(⟨((2+2* dm n:Nat):Int),(n:Int),J.at',J.seq,false⟩:PJ)=J:=by
  cases J with
  |mk lo hi at' seq dK=>
   have h1:=hv.dK;dsimp only at Aj y3 h1;subst Aj y3 h1
   rfl
 dsimp only;rw[e];exact h v pb pj oB
def Q2[i:Lc (gN d) L D f]{mask torn cut:Int}(iz:D.Ok)(hl:D.later.length<1099511627776)(h:T W (f (D.fJ mask torn cut)) (K (.tuple ⟨[]⟩))):T W L (ni (ah d) mask torn cut K):=λw hs=>by
 obtain⟨k,hk,e⟩:=i.at_;exact EB hs hk iz λw' h'=>h w' (by rw[e];exact h')
end
def yx(n:Nat)(m:aA)(S:VS)(q:j0):VS×aA×Int×List Int×List bP×List cH:=
 if fo q=true then((wZ n m S q).1,(wZ n m S q).2.1,(wZ n m S q).2.2.1,(wZ n m S q).2.2.2,[],[])
 else(S,m,(ask m q).1,[],(ask m q).2.1,(ask m q).2.2)
def MD{m:aA}{q:j0}(hw:jy q=true)(he:fo q=true):(bD m q).1=0:=sL hw he
def Zf{m:aA}{q:j0}(hg:eB (bo m))(hi:q.ids.length<=16\/o8 q=false\/q.op=6):(ask m q).2.1.length<=10000/\(ask m q).2.2.length<=10000:=by
 unfold ask;split
 ·simp
 ·rename_i kJ;have h16:q.op=4\/q.op=5->q.ids.length<=16:=λho=>by
   have KY:o8 q=true:=by simpa using kJ
   unfold o8 at KY;rw[ai ho,df,decide_eq_true_eq,decide_eq_true_eq] at KY;exact KY.2
  split
  ·rename_i h4;have:=h16 (.inl h4);have h2:=List.length_filterMap_le (bo m).find q.ids;dsimp only;exact⟨by omega,by simp⟩
  ·split
   ·rename_i h5;have:=h16 (.inr h5);have h2:=List.length_filterMap_le (λid=>((bo m).named id).map (·.move)) q.ids;dsimp only;exact⟨by simp,by omega⟩
   ·rw[<-LW hg];dsimp only;refine⟨by simp,?_⟩;unfold Uo;rw[bQ,aD];have h3:((if q.rv=true then(bo m).ax.reverse else(bo m).ax).filter λk=>Cc q.ky q.yu k.move.ay&&fits q k).length<=(if q.rv=true then(bo m).ax.reverse else(bo m).ax).length:=List.length_filter_le _ _;have h4:(if q.rv=true then(bo m).ax.reverse else(bo m).ax).length=(bo m).ax.length:=by split<;>simp
    have:=hg.many;omega
section
variable {W:World} {L R M:LH} {K:VK} {X:WK} {q:j0} {s:wG} {p p2 v d n pb pj:Nat} {m m2 m3:aA} {mb kb rh kN:OA} {mc kc q9 kM:Nat} {S S2:VS} {D:aY} {J:PJ} {g:Nat}
def Tm{n:Nat}{S:VS}{m:aA}{g:Nat}(h:VW n S m g)(nu:12<=n)(cS:n<=4096)(hg:g+2<256)(dY:eB (bo m))(uX:Md.bW m):HZ (fh n m S).1:=by
 rcases Bz h nu cS hg dY uX with⟨_,a,_⟩|⟨_,a,_⟩|⟨_,a,_⟩
 ·exact a.ok (by omega)
 ·rw[a];exact h.ok (by omega)
 ·exact a.ok
def th(n:Nat):VS:=⟨aY.new n,⟨((2+2* dm n:Nat):Int),n,((2+2* dm n:Nat):Int),0,false⟩,0,false⟩
def acj{n:Nat}(nu:12<=n)(cS:n<=4096):Rm n 0 (th n):=by
 have hb:2+2* dm n<=n:=by unfold dm;omega
 refine⟨Cz cS,λj hj=>?_,rfl,rfl,eE _,by show((2+2* dm n:Nat):Int)<=(n:Int);omega,⟨eE _,by show(0:Int)<=1000000;decide⟩,rfl,rfl,⟨eE _,eE _⟩⟩;show Sep.Ends 0 ((aY.new n).read (j:Int)).1;rw[zy cS hj];exact Bd
def Hc{n:Nat}(nu:12<=n)(cS:n<=4096):VW n (th n) mY 0:=
 ⟨rfl,Fc,mY,[],V5 nu cS,rfl,rfl⟩
def qT:j0:=⟨3,[],[],5,[],0,0,0,false,false,false,0⟩
end
def BT{α σ:Type}(f:σ->α->Int×σ)(lk:α->Bool):∀(n:Nat)(s:σ)(l:List α),(iu f lk n s l).1.length<=l.length
 |0,s,l=>aF _
 |n+1,s,[]=>aF _
 |n+1,s,x::l=>by
  have hle:=vL (linked:=lk) (x::l);have hd:((x::l).drop (cy lk (x::l)).1).length=(x::l).length-(cy lk (x::l)).1:=aS;rw[iu];by_cases hw:(cy lk (x::l)).2=false
  ·rw[ai hw];dsimp only;rw[lg];exact hle
  rw[ag hw];cases iw f s ((x::l).take (cy lk (x::l)).1) 0 with
  |mk o s'=>
   cases o with
   |none=>
    have:=BT f lk n s' ((x::l).drop (cy lk (x::l)).1);dsimp only;rw[av,lg];omega
   |some e=>
    have:=BT f lk n s ((x::l).drop (cy lk (x::l)).1);dsimp only;rw[av,lg];omega
def GP(m:aA)(q:j0):(bD m q).2.1.length<=q.aC.length+q.cA.length:=by
 unfold bD;split
 ·exact aF _
 ·split
  ·have:=BT aA.make Bq q.aC.length m q.aC;dsimp only;omega
  ·split
   ·have:=BT aA.rI Bp q.cA.length m q.cA;dsimp only;omega
   ·exact aF _
section
variable {W:World} {L R M:LH} {K:VK} {X:WK} {q:j0} {s:wG} {p p2 v d n pb pj:Nat} {m m2 m3:aA} {mb kb rh kN:OA} {mc kc q9 kM:Nat} {S S2:VS} {D:aY} {J:PJ} {g:Nat}
end
section
variable {W:World} {L R M:LH} {K:VK} {X:WK} {q:j0} {s:wG} {p p2 v d n pb pj:Nat} {m m2 m3:aA} {mb kb rh kN:OA} {mc kc q9 kM:Nat} {S S2:VS} {D:aY} {J:PJ} {g:Nat}
end
def VZ(n:Nat)(S:VS)(m:aA)(g:Nat):Prop:=VW n S m g\/∃mf,VX n S m mf g
section
variable {n g g':Nat} {S:VS} {m mf:aA} {q:j0}
def VX.save(h:VX n S m mf g){m2:aA}:fh n m2 S=(S,9):=by
 unfold fh;rw[ai h.dK]
def VZ.vok(h:VZ n S m g)(hg:g<256):HZ S:=by
 rcases h with h|⟨mf,h⟩
 ·exact h.ok hg
 ·exact h.ok
def VZ.W2(h:VZ n S m g)(nu:12<=n)(cS:n<=4096)(hg:g+2<256)(dY:eB (bo m))(oB:Md.bW m):HZ (fh n m S).1:=by
 rcases h with h|⟨mf,h⟩
 ·exact Tm h nu cS hg dY oB
 ·rw[h.save];exact h.ok
end
section
variable {W:World} {L R R0 R' M:LH} {K:VK} {X:WK} {q:j0} {s:wG} {p p2 v d n pb pj:Nat} {m m2 m3:aA} {mb kb rh kN:OA} {mc kc q9 kM:Nat} {S S2:VS} {D:aY} {J:PJ} {g:Nat} {f:aY->LH}
def aeT[i:Lc (gN d) L D f](h:T W L (K (.i D.ops))):T W L (k9 (ah d) K):=λw hs=>by
 obtain⟨k,hk,e⟩:=i.at_;exact H6 hs hk (h w hs)
end
def Jz(a:bP):bP:={a with dp:=0,dq:=0,cp:=0,cq:=0,aq:=a.aq%8}
def K8{l:List cr}{a:bP}(h:a.dp=0/\a.dq=0/\a.cp=0/\a.cq=0/\0<=a.aq/\a.aq<8):Jz (Md.full l a)=a:=by
 obtain⟨h1,h2,h3,h4,h5,h6⟩:=h;cases a
 simp only[Jz,Md.full] at *;subst h1 h2 h3 h4
 congr 1
 split<;>omega
def xG.model{m m2:aA}(h:xG m m2)(g:Md.bW m)(g2:Md.bW m2):m=m2:=by
 obtain⟨h1,h2,h3,h4⟩:=h;have e:∀m:aA,Md.bW m->(bo m).aC.map Jz=m.cW:=λm g=>by
  show(m.cW.map (Md.full m.ax)).map Jz=m.cW;rw[sY]
  conv=>rhs;rw[<-List.map_id m.cW]
  exact jv λa ha=>K8 (g.zero a ha)
 have h5:=e m g;rw[h1,e m2 g2] at h5;cases m
 cases m2
 dsimp only at h2 h3 h4 h5;subst h2 h3 h4 h5
 rfl
def KI(n:Nat)(S:VS)(m mf:aA)(g:Nat):Prop:=(VW n S m g/\mf=m)\/VX n S m mf g
section
variable {W:World} {L R R0 R' M:LH} {K:VK} {X:WK} {q:j0} {s:wG} {p p2 v d n pb pj:Nat} {m m2 m3 mf:aA} {mb kb rh kN:OA} {mc kc q9 kM:Nat} {S S2:VS} {D:aY} {J:PJ} {g:Nat} {f:aY->LH}
def Fl(p:Nat)(m:aA)(pf:Nat)(mf:aA)(L R':LH):Prop:=(pf=p/\mf=m/\R'=L)\/∃fb fc gb gc,R'=ML pf mf fb fc gb gc L
def XM(G:oH W)(nu:12<=n)(cS:n<=4096)(hv:tN n D m g)(hg:g<256)
 (h:∀v pb pj S,VW n S m g->Md.bW m->T W (VL v d n pb pj m S R) (K (.tuple ⟨[.p (ah v),.i 0]⟩))):T W (gN d D::R) (kX (ah d) K):=by
 obtain⟨J,hd,mb,qs,h2,rfl⟩:=hv;exact Fs G nu cS h2 hg λv pb pj oB=>h v pb pj _ ⟨rfl,hd,mb,qs,h2,rfl,rfl⟩ oB
class Ex(L:LH)(i:Nat)(x:outParam HP)(L':outParam (LH)):Prop where
 is:L.Perm (x::L')
instance{L:LH}{x:HP}:Ex (x::L) 0 x L:=⟨.refl _⟩
instance{L L':LH}{x y:HP}{i:Nat}[h:Ex L i x L']:Ex (y::L) (i+1) x (y::L'):=⟨(h.is.cons y).trans (.swap ..)⟩
class Pl(L:LH)(is:List Nat)(M:outParam (LH)):Prop where
 is:L.Perm M
instance{L:LH}:Pl L [] L:=⟨.refl _⟩
instance{L L' M:LH}{i:Nat}{is:List Nat}{x:HP}[h:Ex L i x L'][g:Pl L' is M]:Pl L (i::is) (x::M):=⟨h.is.trans (g.is.cons x)⟩
def T.pl(is:List Nat)[h:Pl L is M](g:T W M X):T W L X:=T.perm g h.is
set_option maxHeartbeats 1000000 in
end
section
variable {n g:Nat} {S:VS} {m mf:aA} {q:j0}
def aeI(h:VZ n S m g)(U':600<=n)(cS:n<=4096)(hg:g+3<256)(dY:eB (bo m))(oB:Md.bW m)(hw:jy q=true)(hA:∀a∈q.aC,yJ a)(hT:∀t∈q.cA,yF t):
 (fo q=false/\yx n m S q=(S,m,(ask m q).1,[],(ask m q).2.1,(ask m q).2.2))\/
 (fo q=true/\S.dK=true/\yx n m S q=(S,m,9,[],[],[]))\/
 (fo q=true/\S.dK=false/\∃S1,yx n m S q=(S1,m,8,[],[],[])/\VX n S1 m (bD m q).2.2 (g+3))\/
 (fo q=true/\S.dK=false/\(bD m q).1=0/\∃S1,yx n m S q=(S1,(bD m q).2.2,0,(bD m q).2.1,[],[])/\VW n S1 (bD m q).2.2 (g+3)/\S1.J.seq=S.J.seq+1):=by
 unfold yx;cases he:fo q with
 |false=>left;rw[ag (by decide)];exact⟨rfl,rfl⟩
 |true=>
  right
  rw[ai rfl];rcases h with h|⟨mx,h⟩
  ·right
   have ez:=MD (m:=m) hw he;obtain⟨r1,r2⟩:=Tr h U' cS hg dY oB hw he hA hT;rcases aav h (by omega) cS hg dY oB hw he hA hT with⟨a,b,c⟩|⟨e,Qw,a,-⟩|⟨a,b,-⟩
   ·right
    refine⟨rfl,h.dK,ez,(wZ n m S q).1,?_,b,c⟩;rw[a];dsimp only;rw[ez]
   ·exfalso;rw[a] at r1 r2;rcases Qw with e2|e2
    ·exact r1 e2
    ·exact r2 e2
   ·left
    refine⟨rfl,h.dK,(wZ n m S q).1,?_,b⟩;rw[a]
  ·left
   have e:wZ n m S q=(S,m,9,[]):=by unfold wZ;rw[ag (by rw[hw];decide),ai h.dK]
   rw[e];exact⟨rfl,h.dK,rfl⟩
def Xn(h:VZ n S m g)(U':600<=n)(cS:n<=4096)(hg:g+2<256)(dY:eB (bo m))(oB:Md.bW m):
 (S.dK=true/\fh n m S=(S,9))\/(S.dK=false/\(fh n m S).2=0/\VW n (fh n m S).1 m (g+2)/\(fh n m S).1.bu=S.bu+1/\(fh n m S).1.J.seq=S.J.seq)\/(S.dK=false/\(fh n m S).2=8/\VX n (fh n m S).1 m m (g+2)):=by
 rcases h with h|⟨mx,h⟩
 ·right
  rcases Bz h (by omega) cS hg dY oB with⟨a,b,c,d,_⟩|⟨_,_,a⟩|⟨a,b,_⟩
  ·exact .inl ⟨h.dK,a,b,c,d⟩
  ·exact aT (sh U' (pk dY)) a
  ·exact .inr ⟨h.dK,a,b⟩
 ·exact .inl ⟨h.dK,h.save⟩
def KI.vz(h:KI n S m mf g):VZ n S m g:=by
 rcases h with⟨a,_⟩|a
 ·exact .inl a
 ·exact .inr ⟨_,a⟩
def KI.IF(h:KI n S m mf g)(nu:12<=n)(mask torn cut:Int):∃m0,(m0=m\/m0=mf)/\tN n (S.D.fJ mask torn cut) m0 g:=by
 rcases h with⟨a,_⟩|a
 ·exact⟨m,.inl rfl,a.fJ nu _ _ _⟩
 ·rcases a.fJ mask torn cut with b|b
  ·exact⟨m,.inl rfl,b⟩
  ·exact⟨mf,.inr rfl,b⟩
def KI.uC(h:KI n S m mf g)(nu:12<=n)(k:Int):KI n {S with D:=S.D.uC k} m mf g:=by
 rcases h with⟨a,b⟩|a
 ·exact .inl ⟨a.uC nu k,b⟩
 ·exact .inr (a.uC k)
def KI.mono{g':Nat}(h:KI n S m mf g)(hg:g<=g'):KI n S m mf g':=by
 rcases h with⟨a,b⟩|a
 ·exact .inl ⟨a.mono hg,b⟩
 ·exact .inr (a.mono hg)
end
def St.sps{W w:World}:∀{M L:LH},St W w (wM M::L)->St W w (M++L)
 |[],L,h=>h.drop
 |A::M,L,h=>(St.sps (h.split.perm (.swap ..))).perm iM
def St.Ib{W w:World}:∀{M L:LH},St W w (M++L)->St W w (wM M::L)
 |[],L,h=>h.push trivial
 |A::M,L,h=>((St.Ib (M:=M) (h.perm iM.symm)).perm (.swap ..)).join
section
variable {W:World} {L M:LH} {X:WK} {α:Type} {f:α->HP} {A:HP} {p:Prop}
def T.sps(h:T W (M++L) X):T W (wM M::L) X:=λw hs=>h w (St.sps hs)
def T.Ib(h:T W (wM M::L) X):T W (M++L) X:=λw hs=>h w (St.Ib hs)
def T.ex(h:∀x,T W (f x::L) X):T W (S8 f::L) X:=λw hs=>let⟨x,hx⟩:=hs.ex;h x w hx
def T.abm(x:α)(h:T W (S8 f::L) X):T W (f x::L) X:=λw hs=>h w (.rA x hs)
def T.and(h:p->T W (A::L) X):T W (G9 p A::L) X:=λw hs=>h hs.and.1 w hs.and.2
def T.Z5(hp:p)(h:T W (G9 p A::L) X):T W (A::L) X:=λw hs=>h w (.and_intro hp hs)
def T.foc{P:α->HP}{x:α}{g:α->LH}[i:Lc P L x g](h:∀M,(∀y N Y,T W (N++g y) Y->T W (P y::(N++M)) Y)->T W (P x::M) X):T W L X:=λw hs=>by
 obtain⟨k,hk,e⟩:=i.at_;refine h (L.eraseIdx k) (λy N Y hy w' h'=>hy w' ?_) w (hs.focus hk);rw[e];exact h'.perm (iM.symm.trans ((set_perm hk).append_left N))
end
structure SZ where
 d:Nat
 v:Nat
 pb:Nat
 pj:Nat
def JO(d v:Nat):LV:=[.p (ah d),.p (ah v)]
instance{d v:Nat}:Gt (JO d v) 0 (.p (ah d)):=⟨rfl⟩
instance{d v:Nat}:Gt (JO d v) 1 (.p (ah v)):=⟨rfl⟩
instance{d v v':Nat}:Wr (JO d v) 1 [.p (ah v')] (JO d v'):=⟨rfl,by show 2<=2;decide,λu hu=>by simp at hu;subst hu;rfl⟩
def u3(n s:Nat)(x:VS×aA):HP:=S8 λz:SZ=>wM (VL z.v z.d n z.pb z.pj x.2 x.1 [Sep.pt s (JO z.d z.v)])
def Hn(n:Nat)(m:aA)(S:VS)(l:List UInt8):VS×aA×List UInt8:=
 if 16384<l.length then(S,m,pM 3 [] [] []) else if qD l=true then((yx n m S (gV l).1).1,(yx n m S (gV l).1).2.1,pM (yx n m S (gV l).1).2.2.1 (yx n m S (gV l).1).2.2.2.1 (yx n m S (gV l).1).2.2.2.2.1 (yx n m S (gV l).1).2.2.2.2.2)
 else(S,m,pM 4 [] [] [])
section
variable {W:World} {L R M:LH} {K:VK} {X:WK} {q:j0} {n s d v pb pj:Nat} {m m0:aA} {S:VS} {g:VS×aA->LH} {l:List UInt8}
def Tz(h:T W (u3 n s (S,m)::M) X):T W (VL v d n pb pj m S (Sep.pt s (JO d v)::M)) X:=
 T.Ib (M:=VL v d n pb pj m S [Sep.pt s (JO d v)]) (T.abm (f:=λz:SZ=>wM (VL z.v z.d n z.pb z.pj m S [Sep.pt s (JO z.d z.v)])) ⟨d,v,pb,pj⟩ h)
def zb[i:Lc (u3 n s) L (S,m) g](h:∀d v pb pj M,(∀d' v' Ug Uf S' m' N Y,T W (N++g (S',m')) Y->T W (N++(VL v' d' n Ug Uf m' S' (Sep.pt s (JO d' v')::M))) Y)->T W (VL v d n pb pj m S (Sep.pt s (JO d v)::M)) X):T W L X:=
 T.foc (P:=u3 n s) λM hM=>T.ex λz=>T.sps (M:=VL z.v z.d n z.pb z.pj m S [Sep.pt s (JO z.d z.v)]) (h z.d z.v z.pb z.pj M λd' v' Ug Uf S' m' N Y hy=>by
  apply T.perm (L:=VL v' d' n Ug Uf m' S' [Sep.pt s (JO d' v')]++(N++M)) (Tz (hM (S',m') N Y hy))
  show(N++(VL v' d' n Ug Uf m' S' [Sep.pt s (JO d' v')]++M)).Perm (VL v' d' n Ug Uf m' S' [Sep.pt s (JO d' v')]++(N++M))
  rw[<-aH,<-aH]
  exact bG.append_right M)
def wg[i:Lc (u3 n s) L (S,m) g](h:eB (bo m)->T W L X):T W L X:=by
 refine zb (n:=n) (s:=s) λd v pb pj M hM=>?_;refine qZ (p:=pb) (b:=bo m) (hs:=[]) λdY=>?_;refine hM d v pb pj S m [] _ ?_;rw[cQ,i.same];exact h dY
def qC[i:Lc (u3 n s) L (S,m) g](h:∀p,T W (cL p (bo m,[])::L) (K (.p (ah p)))):T W L (dG (ah s) K):=by
 refine zb (n:=n) (s:=s) λd v pb pj M hM=>?_;unfold dG;apply ws;refine Tv λp=>?_;apply ws;refine hM d v pb pj S m [_] _ ?_;rw[i.same];exact h p
def we[i:Lc (u3 n s) L (S,m) g](h:T W L (K (.b S.dK))):T W L (gr (ah s) K):=by
 refine zb (n:=n) (s:=s) λd v pb pj M hM=>?_;unfold gr;apply ws;refine W5 ?_;apply ws;refine hM d v pb pj S m [] _ ?_;rw[cQ,i.same];exact h
def NY[i:Lc (u3 n s) L (S,m) g](h:T W L (K (.i S.J.seq))):T W L (kF (ah s) K):=by
 refine zb (n:=n) (s:=s) λd v pb pj M hM=>?_;unfold kF;apply ws;refine aaw ?_;apply ws;refine hM d v pb pj S m [] _ ?_;rw[cQ,i.same];exact h
def T1[i:Lc (u3 n s) L (S,m) g](h:T W L (K (.i S.D.ops))):T W L (k8 (ah s) λy=>xP (λp=>k9 p K) y):=by
 refine zb (n:=n) (s:=s) λd v pb pj M hM=>?_;unfold k8;apply ws;refine aeT (d:=d) ?_;refine hM d v pb pj S m [] _ ?_;rw[cQ,i.same];exact h
def JQ[i:Lc (u3 n s) L (S,m) g](iz:HZ S)(nu:12<=n)(cS:n<=4096)(h:T W (g ((fh n m S).1,m)) (K (.i (fh n m S).2))):T W L (jM (ah s) K):=by
 refine zb (n:=n) (s:=s) λd v pb pj M hM=>?_;unfold jM;apply ws;apply V9 iz.ok iz.oJ nu cS iz.bu;apply ws;exact hM d v pb pj _ m [] _ h
def aaX[i:Lc (u3 n s) L (S,m) g]{k:Int}(h:T W (g ({S with D:=S.D.uC k},m)) (K (.tuple ⟨[]⟩))):T W L (nO (ah s) k K):=by
 refine zb (n:=n) (s:=s) λd v pb pj M hM=>?_;unfold nO;apply ws;apply aeV (d:=d);apply ws;exact hM d v pb pj {S with D:=S.D.uC k} m [] _ h
def T0(G:oH W)[i:Lc (u3 n s) L (S,m) g]{mask torn cut:Int}{gg:Nat}(nu:12<=n)(cS:n<=4096)(iz:HZ S)(hv:tN n (S.D.fJ mask torn cut) m0 gg)(hgg:gg<256)
 (h:∀S',VW n S' m0 gg->Md.bW m0->T W (g (S',m0)) (K (.i 0))):T W L (iJ (ah s) mask torn cut K):=by
 refine zb (n:=n) (s:=s) λd v pb pj M hM=>?_;unfold iJ;apply ws;refine Q2 (d:=d) iz.ok (by have:=iz.oJ;omega) ?_;apply ws;refine T.pl [3] ?_;refine XM G nu cS hv hgg λv' Ug Uf S' hw abz=>?_;apply ws;apply ir (by decide);apply ws;refine T.sub (M:=VL v' d n Ug Uf m0 S' (Sep.pt s (JO d v')::M)) ?_ (by exact qo);exact hM d v' Ug Uf S' m0 [] _ (h S' hw abz)
def zm(G:oH W)(nu:12<=n)(cS:n<=4096)(h:∀s,T W (u3 n s (th n,mY)::L) (K (.tuple ⟨[.p (ah s),.i 0]⟩))):T W L (jO (n:Int) K):=by
 unfold jO;refine Uj λd=>?_;apply tz;refine Fs G (n:=n) nu cS (V5 nu cS) (by decide) λv pb pj oB=>?_;show T W (VL v d n pb pj mY (th n) L) _;apply ws;apply ef (by decide);apply Ds (d:=d);apply kd;have e:((th n).D.safe.length:Int)=(n:Int):=by rw[(Hc nu cS).len]
 rw[e];unfold jO.j1;apply ef (by simp);apply ws;intros;rename_i r1;refine T.pl [1,1,1,1] ?_;exact Tz (h r1)
def XB{α:Type}{b:OA}{c e:Nat}{g:α->LV}{xs:List α}{f:HP->LH}[i:wX b xs.length c L e (xs.flatMap g) f](hg:∀x,(g x).length=e):mE W L g e b xs:=λw hw i' x hx=>by
 obtain⟨k,hk,_⟩:=i.at_;obtain⟨hl,h0|⟨r,sp,hb,vX,A5,hs⟩⟩:=hw.oU hk
 ·have:=(ar.1 hx).1;omega
 ·refine⟨⟨r,0,none⟩,hb,?_⟩;subst hb;rw[ia,aB];exact Au hw hk (ry hg xs i' x hx)
def YZ(hg:eB (bo m))(hw:jy q=true)(DU:q.aC.length<=255)(cn:q.cA.length<=255):(yx n m S q).2.2.2.1.length<1000000/\(yx n m S q).2.2.2.2.1.length<1000000/\(yx n m S q).2.2.2.2.2.length<1000000:=by
 unfold yx;split
 ·refine⟨?_,by show 0<1000000;decide,by show 0<1000000;decide⟩;have h0:jy q=true:=hw;have hf:=nT hw;have:=GP m q;unfold wZ;split
  ·show 0<1000000;decide
  split
  ·show 0<1000000;decide
  split
  ·show 0<1000000;decide
  ·show(bD m q).2.1.length<1000000;omega
 ·have hi:q.ids.length<=16\/o8 q=false\/q.op=6:=by
   rename_i he;rcases nT hw with h|h|h|h|h
   ·exact aT (aw (.inl h.1)) he
   ·exact aT (aw (.inr (.inl h.1))) he
   ·exact aT (aw (.inr (.inr h.1))) he
   ·exact .inl h.2
   ·exact .inr (.inr h.1)
  obtain⟨h1,h2⟩:=Zf hg hi;exact⟨by show 0<1000000;decide,by show(ask m q).2.1.length<_;omega,by show(ask m q).2.2.length<_;omega⟩
def aaz{sl:wG}(G:oH W)(hg:Md.bW m)(hS:HZ S)(hS2:HZ (fh n m S).1)(nu:12<=n)(cS:n<=4096)(hq:pw W R q sl)(hA:∀a∈q.aC,yJ a)(hT:∀t∈q.cA,yF t)(DU:q.aC.length<1000000)(cn:q.cA.length<1000000)
 (h:∀rb rc ab ac tb tc,Md.bW (yx n m S q).2.1->T W (own rb (yx n m S q).2.2.2.1.length rc 1 ((yx n m S q).2.2.2.1.flatMap I1)::own ab (yx n m S q).2.2.2.2.1.length ac 14 ((yx n m S q).2.2.2.2.1.flatMap aO)::own tb (yx n m S q).2.2.2.2.2.length tc 16 ((yx n m S q).2.2.2.2.2.flatMap aN)::VL v d n pb pj (yx n m S q).2.1 (yx n m S q).1 R)
  (K (.agg ⟨qg (yx n m S q).2.2.1 rb (yx n m S q).2.2.2.1.length rc ab (yx n m S q).2.2.2.2.1.length ac tb (yx n m S q).2.2.2.2.2.length tc⟩))):
 T W (VL v d n pb pj m S R) (na (ah v) (gP q sl) K):=by
 unfold yx at h;cases he:fo q with
 |true=>
  rw[ai he] at h;refine aay G hg hS hS2 nu cS hq hA hT DU cn he λrb rc oB=>?_;refine im (e:=14) ?_;refine im (e:=16) ?_;exact T.pl [2,1,0] (h rb rc none 0 none 0 oB)
 |false=>
  rw[ag (by rw[he];decide)] at h;refine aaA hq he λab ac tb tc=>?_;refine im (e:=1) ?_;exact h none 0 ab ac tb tc hg
def AA(G:oH W)[i:Lc (u3 n s) L (S,m) g](hg:Md.bW m)(hS:HZ S)(hS2:eB (bo m)->HZ (fh n m S).1)(nu:12<=n)(cS:n<=4096)(hl:l.length<1099511627776)
 (h:Md.bW (Hn n m S l).2.1->eB (bo m)->T W (g ((Hn n m S l).1,(Hn n m S l).2.1)) (K (.s (bs (Hn n m S l).2.2)))):T W L (fA (ah s) (bs l) K):=by
 refine zb (n:=n) (s:=s) λd v pb pj M hM=>?_;unfold fA;refine qZ (p:=pb) (b:=bo m) (hs:=[]) λdY=>?_;unfold Hn at h;have same:∀l',T W (g (S,m)) (K (.s (bs l')))->T W (VL v d n pb pj m S (Sep.pt s (JO d v)::M)) (K (.s (bs l'))):=λl' h=>hM d v pb pj S m [] _ h;apply ws;apply ga<;>intro g1
 ·rw[bV] at g1;rw[ai (by omega)] at h;apply ws;refine NG (qz ?_);exact same _ (h hg dY)
 rw[bV] at g1;rw[ag (by omega)] at h;refine zS hl (λhr=>?_) (λhr A sl hq=>?_)
 ·rw[ag (by rw[hr];decide)] at h;apply ws;intros;apply ir (by decide);apply ws;refine NG (qz ?_);exact T.drop (same _ (h hg dY))
 ·rw[ai hr] at h;obtain⟨o1,o2,o3,o4⟩:=BX l;apply ws;intros;rename_i r1;refine ef (by decide) ?_;apply ws;refine T.pl [2,2,2,2] ?_;have DU:(gV l).1.aC.length<1000000:=by omega
  have cn:(gV l).1.cA.length<1000000:=by omega
  have Z':pw W (Sep.pt r1 (gP (gV l).1 sl)::A::Sep.pt s (JO d v)::M) (gV l).1 sl:=pw.two hq;have len:=YZ (n:=n) (S:=S) dY (nX hr) o3 o4;clear o3 o4;generalize (gV l).1=q at o1 o2 DU cn Z' len h⊢;refine aaz G hg hS (hS2 dY) nu cS Z' o1 o2 DU cn λrb rc ab ac tb tc adE=>?_;generalize yx n m S q=Z at len adE h⊢;apply Eg (by rfl);refine K3 (hh:=Has.refl) (XB (λ_=>rfl)) (XB (λ_=>rfl)) (XB (λ_=>rfl)) len.1 len.2.1 len.2.2 ?_;apply qz;refine T.sub (M:=VL v d n pb pj Z.2.1 Z.1 (Sep.pt s (JO d v)::M)) (hM d v pb pj Z.1 Z.2.1 [] _ (h adE dY)) (by exact qo)
end
structure TS where
 kind:Int
 b:List UInt8
 mask:Int
 torn:Int
 cut:Int
 n:Int
def TS.q(x:TS):j0:=(gV x.b).1
def TS.wr(x:TS):Prop:=x.kind=0/\qD x.b=true/\fo x.q=true
inductive u1(x:TS)(S:VS)(m mf:aA)(g:Nat):VS->aA->aA->Prop where
 |none (h0:x.wr->S.dK=true) (h1:x.kind=1->S.dK=true) (h2:x.kind≠2) (h3:x.kind≠3):u1 x S m mf g S m mf
 |did (h:x.wr) (hs:S.dK=false) (S1:VS) (e:yx 600 m S x.q=(S1,(bD m x.q).2.2,0,(bD m x.q).2.1,[],[])) (v:VW 600 S1 (bD m x.q).2.2 (g+3)) (e2:S1.J.seq=S.J.seq+1):u1 x S m mf g S1 (bD m x.q).2.2 (bD m x.q).2.2
 |YH (h:x.wr) (hs:S.dK=false) (S1:VS) (e:yx 600 m S x.q=(S1,m,8,[],[],[])) (v:VX 600 S1 m (bD m x.q).2.2 (g+3)):u1 x S m mf g S1 m (bD m x.q).2.2
 |saved (h:x.kind=1) (hs:S.dK=false) (e:(fh 600 m S).2=0) (v:VW 600 (fh 600 m S).1 m (g+2)):u1 x S m mf g (fh 600 m S).1 m mf
 |BN (h:x.kind=1) (hs:S.dK=false) (e:(fh 600 m S).2=8) (v:VX 600 (fh 600 m S).1 m m (g+2)):u1 x S m mf g (fh 600 m S).1 m mf
 |IF (h:x.kind=2) (m0:aA) (hm:m0=m\/m0=mf) (S1:VS) (v:VW 600 S1 m0 g):u1 x S m mf g S1 m0 m0
 |arm (h:x.kind=3):u1 x S m mf g {S with D:=S.D.uC x.n} m mf
section
variable {x:TS} {S S':VS} {m mf m' KU:aA} {g n:Nat} {q:j0} {P:aA->Prop}
def KI.same(h:KI n S m mf g)(hs:S.dK=false):mf=m/\VW n S m g:=by
 rcases h with⟨a,b⟩|a
 ·exact⟨b,a⟩
 ·have:=a.dK;rw[hs] at this;cases this
def u1.ki(w:u1 x S m mf g S' m' KU)(h:KI 600 S m mf g):KI 600 S' m' KU (g+3):=by
 cases w with
 |none _ _ _ _=>exact h.mono (by omega)
 |did _ _ _ _ v _=>exact .inl ⟨v,rfl⟩
 |YH _ _ _ _ v=>exact .inr v
 |saved _ hs _ v=>exact .inl ⟨v.mono (by omega),(h.same hs).1⟩
 |BN _ hs _ v=>rw[(h.same hs).1];exact .inr (v.mono (by omega))
 |IF _ _ _ _ v=>exact .inl ⟨v.mono (by omega),rfl⟩
 |arm _=>exact(h.uC (by decide) _).mono (by omega)
def u1.inv(w:u1 x S m mf g S' m' KU)(hP:∀q,P m->P (bD m q).2.2)(h:P m)(hf:P mf):P m'/\P KU:=by
 cases w with
 |none _ _ _ _=>exact⟨h,hf⟩
 |did _ _ _ _ _ _=>exact⟨hP _ h,hP _ h⟩
 |YH _ _ _ _ _=>exact⟨h,hP _ h⟩
 |saved _ _ _ _=>exact⟨h,hf⟩
 |BN _ _ _ _=>exact⟨h,hf⟩
 |IF _ m0 hm _ _=>rcases hm with e|e<;>subst e<;>first|exact⟨h,h⟩|exact⟨hf,hf⟩
 |arm _=>exact⟨h,hf⟩
def u1.rel{Q:aA->aA->Prop}(w:u1 x S m mf g S' m' KU)(hr:∀m,Q m m)(hq:∀q,Q m (bD m q).2.2)(hf:Q m mf):Q m m'/\Q m' KU:=by
 cases w with
 |none _ _ _ _=>exact⟨hr _,hf⟩
 |did _ _ _ _ _ _=>exact⟨hq _,hr _⟩
 |YH _ _ _ _ _=>exact⟨hr _,hq _⟩
 |saved _ _ _ _=>exact⟨hr _,hf⟩
 |BN _ _ _ _=>exact⟨hr _,hf⟩
 |IF _ m0 hm _ _=>rcases hm with e|e<;>subst e<;>first|exact⟨hr _,hr _⟩|exact⟨hf,hr _⟩
 |arm _=>exact⟨hr _,hf⟩
def KI.Qz:KI 600 (th 600) mY mY 0:=.inl ⟨Hc (by decide) (by decide),rfl⟩
def acV(h:Rm n g S)(Et:S.J.seq<1000000)(hn:600<=n/\n<=4096)(hg:g+3<256)(dY:eB (bo m))(hw:jy q=true):Rm n (g+3) (yx n m S q).1/\(fo q=true->(yx n m S q).2.2.1=0):=by
 unfold yx;cases he:fo q with
 |false=>
  rw[ag (by decide)];exact⟨h.mono (by omega),λhh=>by cases hh⟩
 |true=>
  rw[ai rfl];have tr:=pk dY;have hrl:=u4 hw he;have hc:=Cs (k:=12+(bs (dH q)).size) (by rw[bV];omega);have Ak:=h.Ey;have Aj:=h.lo;have y3:=h.hi;have A5:120<=S.J.hi-S.J.lo:=by rw[Aj,y3];unfold dm;omega
  have ez:=sL (m:=m) hw he;obtain⟨a1,a2,a3,a4⟩:=zU (m:=m) (s:=bs (dH q)) h hn.2 (by omega) hg (sh hn.1 tr) (by omega) Et (by rw[bV];omega) (by omega);unfold wZ;rw[ag (by rw[hw];decide),ag (by rw[h.dK];decide),ag (λhh=>hh a1)];dsimp only;refine⟨?_,λ_=>ez⟩;rcases a4 with⟨b1,_⟩|⟨b1,_⟩
  ·exact b1.mono (by omega)
  ·exact b1
end
def QB{m:aA}(h:RM m):∀a∈m.cW.map m.full,yJ a:=λa ha=>by
 obtain⟨b,hb,rfl⟩:=cV.1 ha;rw[h.ground.full hb];have h1:=h.cW b hb;obtain⟨z1,z2,z3,z4,z5,z6⟩:=h.ground.zero b hb;have d:=h.ground.zJ b hb;have c:=h.ground.wz b hb;refine⟨h1.id,?_,?_,?_,?_,h1.bJ,h1.code,?_,h1.ay⟩
 ·show b.dp+_<_;omega
 ·show b.dq+_<_;omega
 ·show b.cp+_<_;omega
 ·show b.cq+_<_;omega
 ·show vS (if _ then b.aq else b.aq%8+8);have e:0<=b.aq%8+8/\b.aq%8+8<=15:=by omega
  unfold vS;split
  ·omega
  ·exact⟨Int.le_trans (by decide) e.1,Int.le_trans e.2 (by decide)⟩
def Ly(m:aA)(q:j0):List UInt8:=if fo q=true then pM (bD m q).1 (bD m q).2.1 [] [] else pM (u0 (m.cW.map m.full) m.ax q).1 [] (u0 (m.cW.map m.full) m.ax q).2.1 (u0 (m.cW.map m.full) m.ax q).2.2
def Lz(m:aA)(q:j0):aA:=if fo q=true then(bD m q).2.2 else m
def y9(m:aA)(l:List UInt8):List UInt8:=if qD l=true then Ly m (gV l).1 else pM 4 [] [] []
def uT(m:aA)(l:List UInt8):aA:=if qD l=true then Lz m (gV l).1 else m
def rM(l:List UInt8):Bool:=qD l&&fo (gV l).1
def Bb{α β:Type}{f:α->List β}{k:Nat}(h:∀x,(f x).length<=k):∀l:List α,(l.flatMap f).length<=l.length* k
 |[]=>by simp
 |x::l=>by
  have:=h x;have:=Bb h l;rw[iQ,av,bE,mG];omega
def M1{al:List bP}{kl:List cr}{q:j0}:(∀a∈(u0 al kl q).2.1,a∈al)/\(∀t∈(u0 al kl q).2.2,∃k∈kl,k.move=t):=by
 unfold u0;split
 ·exact⟨λa h=>(by cases h),λa h=>(by cases h)⟩
 split
 ·refine⟨λa h=>?_,λa h=>(by cases h)⟩;obtain⟨id,_,h2⟩:=List.mem_flatMap.1 h;exact(Bn.1 h2).1
 split
 ·refine⟨λa h=>(by cases h),λa h=>?_⟩;obtain⟨id,_,h2⟩:=List.mem_flatMap.1 h;obtain⟨k,hk,e⟩:=cV.1 h2;exact⟨k,(Bn.1 hk).1,e⟩
 ·refine⟨λa h=>(by cases h),λa h=>?_⟩;obtain⟨k,hk,e⟩:=cV.1 h;have:=(Bn.1 (List.mem_of_mem_take hk)).1;refine⟨k,?_,e⟩;split at this
  ·exact List.mem_reverse.1 this
  ·exact this
def VR{al:List bP}{kl:List cr}{q:j0}(hw:jy q=true)(hx:fo q=false)(ha:al.length<=100)(hk:kl.length<=100):(u0 al kl q).2.1.length<1000000/\(u0 al kl q).2.2.length<1000000:=by
 have WG: ¬(q.op=1\/q.op=2\/q.op=3):=bj hx;have hf:=nT hw;unfold u0;split
 ·exact⟨by show 0<_;decide,by show 0<_;decide⟩
 split
 ·refine⟨?_,by show 0<_;decide⟩;have h2:=Bb (f:=λid=>al.filter λa=>decide (a.id=id)) (k:=100) (λid=>wJ (List.length_filter_le _ _) ha) q.ids;have:q.ids.length<=16:=by rcases hf with h|h|h|h|h<;>first|exact h.2|omega
  show(q.ids.flatMap λid=>al.filter λa=>decide (a.id=id)).length<_;omega
 split
 ·refine⟨by show 0<_;decide,?_⟩;have h2:=Bb (f:=λid=>(kl.filter λk=>decide (k.move.id=id)).map (·.move)) (k:=100) (λid=>by rw[bQ];exact wJ (List.length_filter_le _ _) hk) q.ids;have:q.ids.length<=16:=by rcases hf with h|h|h|h|h<;>first|exact h.2|omega
  show(q.ids.flatMap λid=>(kl.filter λk=>decide (k.move.id=id)).map (·.move)).length<_;omega
 ·refine⟨by show 0<_;decide,?_⟩;show(List.map _ (List.take _ _)).length<_;rw[bQ,aD];have:q.lz<=16:=by rcases hf with h|h|h|h|h<;>first|exact h.2.2.2.2|omega
  omega
section
variable {W:World} {L R M:LH} {K:VK} {X:WK} {q:j0} {s:wG} {p:Nat} {m:aA} {mb kb:OA} {mc kc:Nat} {l:List UInt8}
def F0(hm:RM m)(hw:jy q=true)(hq:pw W R q s)(DU:q.aC.length<=255)(cn:q.cA.length<=255)(hA:∀a∈q.aC,yJ a)(hT:∀t∈q.cA,yF t)
 (h:∀p2 rh q9 kN kM R',Bk p m mb mc kb kc R p2 (Lz m q) rh q9 kN kM R'->RM (Lz m q)->T W (ML p2 (Lz m q) rh q9 kN kM R') (K (.tuple ⟨[.s (bs (Ly m q)),.p (ah p2)]⟩))):
 T W (ML p m mb mc kb kc R) (lK (ah p) (gP q s) K):=by
 have hmf:=hm.oJ;have hmm:=hm.many;unfold lK;apply ws;intros;rename_i r1;apply zu;unfold Ly Lz at h;cases he:fo q with
 |true=>
  rw[ai he,ai he] at h;apply ws;apply Rq (R:=R) hq (by omega) (by omega);rw[hw];apply ws;refine T.pl [1,1,1] ?_;refine XG hm ⟨hq.aC.mono,hq.cA.mono,hq.ids.mono,hq.ca,hq.ct,hq.ci⟩ (by omega) (by omega) (λ_=>hA) (λ_=>hT) λp2 rh q9 kN kM ob oc R' Ck KW=>?_;have hlen:=GP m q;apply acD;apply uE;apply kd;apply tz;refine yc (hh:=Has.refl) (ab:=none) (tb:=none) (ac:=0) (tc:=0) (al:=[]) (tl:=[]) (XB (λ_=>rfl)) mE.nil mE.nil (by omega) (by decide) (by decide) (λa h=>by cases h) (λa h=>by cases h) ?_;apply qz;rcases Ck with⟨rfl,rfl,No,rfl,rfl,rfl,rfl⟩|rfl
  ·exact T.sub (h p2 rh q9 kN kM R (.inl ⟨rfl,rfl,No,rfl,rfl,rfl,rfl⟩) KW) (by exact qo)
  ·exact T.sub (h p2 rh q9 kN kM _ (.inr rfl) KW) (by exact qo)
 |false=>
  rw[ag (by rw[he];decide),ag (by rw[he];decide)] at h;have h:=h p mb mc kb kc R (.inl ⟨rfl,rfl,rfl,rfl,rfl,rfl,rfl⟩) hm;apply ws;refine T.pl [1,1,1] ?_;refine DJ (by omega) (by omega) hm.rkA hm.rkK λob oc=>?_;apply ws;have WH:m.cW.length=(m.cW.map m.full).length:=(bQ _).symm;have afL:(m.cW.map m.full).length<=100:=by rw[bQ];omega
  rw[WH];refine N4 (R:=R) (al:=m.cW.map m.full) (kl:=m.ax) hq (by omega) (by omega) λb1 c1 b2 c2=>?_;obtain⟨m1,m2⟩:=M1 (al:=m.cW.map m.full) (kl:=m.ax) (q:=q);obtain⟨l1,l2⟩:=VR hw he afL (by omega:m.ax.length<=100);have hA2:∀a∈(u0 (m.cW.map m.full) m.ax q).2.1,yJ a:=λa ha=>QB hm a (m1 a ha);have WU:∀t∈(u0 (m.cW.map m.full) m.ax q).2.2,yF t:=λt ht=>by
   obtain⟨k,hk,e⟩:=m2 t ht;rw[<-e];exact(hm.ax k hk).move
  generalize u0 (m.cW.map m.full) m.ax q=Z at l1 l2 hA2 WU h⊢;apply ws;refine yc (hh:=Has.refl) (rb:=none) (rc:=0) (res:=[]) mE.nil (XB (λ_=>rfl)) (XB (λ_=>rfl)) (by decide) l1 l2 hA2 WU ?_;apply ws;refine T.sub h (by exact qo)
end
def Bk.less{p p2:Nat}{m m2:aA}{mb kb rh kN:OA}{mc kc q9 kM:Nat}{A B:HP}{R R':LH}{W:World}{X:WK}(hb:Bk p m mb mc kb kc (A::B::R) p2 m2 rh q9 kN kM R')
 (h:∀R2,Bk p m mb mc kb kc R p2 m2 rh q9 kN kM R2->T W (ML p2 m2 rh q9 kN kM R2) X):T W (ML p2 m2 rh q9 kN kM R') X:=by
 rcases hb with⟨rfl,rfl,No,rfl,rfl,rfl,rfl⟩|rfl
 ·exact T.sub (h R (.inl ⟨rfl,rfl,No,rfl,rfl,rfl,rfl⟩)) (by exact qo)
 ·exact T.sub (h _ (.inr rfl)) (by exact qo)
section
variable {W:World} {L R M:LH} {K:VK} {X:WK} {q:j0} {s:wG} {p:Nat} {m:aA} {mb kb:OA} {mc kc:Nat} {l:List UInt8}
def NJ(hm:RM m)(hl:l.length<1099511627776)
 (h:∀p2 rh q9 kN kM R',Bk p m mb mc kb kc R p2 (uT m l) rh q9 kN kM R'->RM (uT m l)->T W (ML p2 (uT m l) rh q9 kN kM R') (K (.tuple ⟨[.s (bs (y9 m l)),.p (ah p2),.b (rM l)]⟩))):
 T W (ML p m mb mc kb kc R) (pH (ah p) (bs l) K):=by
 unfold pH;unfold uT y9 rM at h;refine zS hl (λhr=>?_) (λhr A sl hq=>?_)
 ·rw[ag (by rw[hr];decide),ag (by rw[hr];decide),hr] at h;have h:=h p mb mc kb kc R (.inl ⟨rfl,rfl,rfl,rfl,rfl,rfl,rfl⟩) hm;apply ws;intros;apply ir (by decide);apply qE;apply ws;exact T.drop h
 ·rw[ai hr,ai hr,hr] at h;obtain⟨o1,o2,o3,o4⟩:=BX l;have hw:=nX hr;apply ws;intros;rename_i r1;refine ef (by decide) ?_;apply ws;refine T.pl [2,2,2] ?_;have Z':pw W (Sep.pt r1 (gP (gV l).1 sl)::A::R) (gV l).1 sl:=pw.two hq;generalize (gV l).1=q at o1 o2 o3 o4 hw Z' h⊢;refine F0 hm hw Z' o3 o4 o1 o2 λp2 rh q9 kN kM R' Ck KW=>?_;have hL:∃g,Lc (Sep.pt r1) R' (gP q sl) g:=by
   rcases Ck with⟨rfl,-⟩|rfl
   ·exact⟨_,inferInstance⟩
   ·exact⟨_,inferInstance⟩
  obtain⟨g,hL⟩:=hL;apply ws;apply zu;apply ws;exact Bk.less Ck λR2 xa=>h p2 rh q9 kN kM R2 xa KW
end
def wC(s p pf:Nat):LV:=[.p (ah s),.p (ah p),.p (ah pf)]
section
variable {s p pf p':Nat}
instance:Gt (wC s p pf) 0 (.p (ah s)):=⟨rfl⟩
instance:Gt (wC s p pf) 1 (.p (ah p)):=⟨rfl⟩
instance:Gt (wC s p pf) 2 (.p (ah pf)):=⟨rfl⟩
instance:Wr (wC s p pf) 1 [.p (ah p')] (wC s p' pf):=⟨rfl,by show 2<=3;decide,λu hu=>by simp at hu;subst hu;rfl⟩
instance:Wr (wC s p pf) 2 [.p (ah p')] (wC s p p'):=⟨rfl,by show 3<=3;decide,λu hu=>by simp at hu;subst hu;rfl⟩
end
structure WZ where
 s:Nat
 p:Nat
 pf:Nat
 mb:OA
 mc:Nat
 kb:OA
 kc:Nat
structure WX where
 S:VS
 ms:aA
 m:aA
 mf:aA
abbrev KS(w:Nat)(z:WZ)(x:WX)(R:LH):LH:=Sep.pt w (wC z.s z.p z.pf)::u3 600 z.s (x.S,x.ms)::ML z.p x.m z.mb z.mc z.kb z.kc R
def wd(w:Nat)(x:WX):HP:=S8 λy:WZ×LH=>G9 (Fl y.1.p x.m y.1.pf x.mf [] y.2/\RM x.m/\RM x.mf) (wM (KS w y.1 x y.2))
section
variable {W:World} {L R M:LH} {K:VK} {X:WK} {w:Nat} {x:WX} {f:WX->LH}
def Fl.app{p pf:Nat}{m mf:aA}{E:LH}(h:Fl p m pf mf [] E):Fl p m pf mf M (E++M):=by
 rcases h with⟨a,b,rfl⟩|⟨fb,fc,gb,gc,rfl⟩
 ·exact .inl ⟨a,b,rfl⟩
 ·exact .inr ⟨fb,fc,gb,gc,rfl⟩
def Fl.ZF{p pf:Nat}{m mf:aA}{R':LH}(h:Fl p m pf mf M R'):∃E,Fl p m pf mf [] E/\R'=E++M:=by
 rcases h with⟨a,b,rfl⟩|⟨fb,fc,gb,gc,rfl⟩
 ·exact⟨[],.inl ⟨a,b,rfl⟩,rfl⟩
 ·exact⟨_,.inr ⟨fb,fc,gb,gc,rfl⟩,rfl⟩
def aaE[i:Lc (wd w) L x f](h:∀z M R',Fl z.p x.m z.pf x.mf M R'->RM x.m->RM x.mf->(∀z' x' Ny N Y,Fl z'.p x'.m z'.pf x'.mf M Ny->RM x'.m->RM x'.mf->T W (N++f x') Y->T W (N++KS w z' x' Ny) Y)->T W (KS w z x R') X):T W L X:=
 T.foc (P:=wd w) λM hM=>T.ex λy=>T.and λ⟨h1,h2,h3⟩=>T.sps (M:=KS w y.1 x y.2) (h y.1 M (y.2++M) h1.app h2 h3 λz' x' Ny N Y hf k1 k2 hy=>by
  obtain⟨E,hE,rfl⟩:=hf.ZF
  refine T.perm (L:=KS w z' x' E++(N++M)) (T.Ib (M:=KS w z' x' E) (T.Z5 (p:=Fl z'.p x'.m z'.pf x'.mf [] E/\RM x'.m/\RM x'.mf) ⟨hE,k1,k2⟩ (T.abm (f:=λy:WZ×LH=>G9 (Fl y.1.p x'.m y.1.pf x'.mf [] y.2/\RM x'.m/\RM x'.mf) (wM (KS w y.1 x' y.2))) (z',E) (hM x' N Y hy)))) ?_
  show(N++(KS w z' x' E++M)).Perm (KS w z' x' E++(N++M))
  rw[<-aH,<-aH]
  exact bG.append_right M)
def acA[i:Lc (wd w) L x f](h:eB (bo x.ms)->RM x.m->RM x.mf->T W L X):T W L X:=by
 refine aaE (w:=w) λz M R' hf h2 h3 hM=>?_;refine wg (n:=600) (s:=z.s) λhg=>?_;refine hM z x R' [] _ hf h2 h3 ?_;rw[cQ,i.same];exact h hg h2 h3
def Tl[i:Lc (wd w) L x f]{F:OA->WK}(h:∀p,T W (cL p (bo x.ms,[])::L) (F (ah p))):T W L (lP ⟨w,0,none⟩ λs=>dG s (xP F)):=by
 refine aaE (w:=w) λz M R' hf h2 h3 hM=>?_;apply ws;refine qC (n:=600) (s:=z.s) λp=>?_;refine tz ?_;refine hM z x R' [_] _ hf h2 h3 ?_;rw[i.same];exact h p
end
def CR{S:VS}{ms CH:aA}{g:Nat}{l:List UInt8}(hk:KI 600 S ms CH g)(hg:g+3<256)(dY:eB (bo ms))(oB:Md.bW ms)(hl:l.length<=16384):
 (rM l=false/\Hn 600 ms S l=(S,ms,y9 ms l))\/
 (rM l=true/\S.dK=true/\Hn 600 ms S l=(S,ms,pM 9 [] [] []))\/
 (rM l=true/\S.dK=false/\∃S1,yx 600 ms S (gV l).1=(S1,ms,8,[],[],[])/\Hn 600 ms S l=(S1,ms,pM 8 [] [] [])/\VX 600 S1 ms (bD ms (gV l).1).2.2 (g+3))\/
 (rM l=true/\S.dK=false/\∃S1,yx 600 ms S (gV l).1=(S1,(bD ms (gV l).1).2.2,0,(bD ms (gV l).1).2.1,[],[])/\Hn 600 ms S l=(S1,(bD ms (gV l).1).2.2,y9 ms l)/\
  VW 600 S1 (bD ms (gV l).1).2.2 (g+3)/\S1.J.seq=S.J.seq+1/\y9 ms l=pM 0 (bD ms (gV l).1).2.1 [] []/\oQ 0 (bD ms (gV l).1).2.1 [] []=true):=by
 obtain⟨o1,o2,o3,o4⟩:=BX l;unfold Hn y9 rM;rw[ag (by omega)];cases hr:qD l with
 |false=>left;exact⟨rfl,by rw[ag (by decide),ag (by decide)]⟩
 |true=>
  have hw:=nX hr;rw[ai rfl,ai rfl];generalize (gV l).1=q at o1 o2 o3 o4 hw⊢;rcases aeI (q:=q) hk.vz (by decide) (by decide) hg dY oB hw o1 o2 with⟨a,b⟩|⟨a,b,c⟩|⟨a,b,S1,c,d⟩|⟨a,b,c,S1,d,e,e2⟩
  ·left
   refine⟨by rw[a];rfl,?_⟩;have abF:u0 (ms.cW.map ms.full) ms.ax q=ask ms q:=by
    rw[<-QT dY];have:ms.cW.map ms.full=(bo ms).aC:=jv λa ha=>oB.full ha;rw[this];rfl
   unfold Ly;rw[b,ag (by rw[a];decide),abF]
  ·right;left
   exact⟨by rw[a];rfl,b,by rw[c]⟩
  ·right;right;left
   exact⟨by rw[a];rfl,b,S1,c,by rw[c],d⟩
  ·right;right;right
   have he:lJ q=true:=by
    have WG:q.op=1\/q.op=2\/q.op=3:=aR a;unfold jy at hw;have:o8 q=false:=by unfold o8;rw[ag (by omega),ag (by omega)]
    rw[this,Bool.or_false,df] at hw;exact hw.1
   have hf:=D4 (m:=ms) oB he;rw[c] at hf;have e3:Ly ms q=pM 0 (bD ms q).2.1 [] []:=by unfold Ly;rw[ai a,c]
   exact⟨by rw[a];rfl,b,S1,d,by rw[d,e3],e,e2,e3,hf⟩
def Dz(x:TS):LV:=[.i x.kind,.s (bs x.b),.u x.mask,.i x.torn,.i x.cut,.i x.n]
section
variable {x:TS} {x1 x2 x3 x4 x5 x6:Value}
instance:Ln (Dz x) 6:=⟨rfl⟩
instance:Gt (Dz x) 0 (.i x.kind):=⟨rfl⟩
instance:Gt (Dz x) 1 (.s (bs x.b)):=⟨rfl⟩
instance:Gt (Dz x) 2 (.u x.mask):=⟨rfl⟩
instance:Gt (Dz x) 3 (.i x.torn):=⟨rfl⟩
instance:Gt (Dz x) 4 (.i x.cut):=⟨rfl⟩
instance:Gt (Dz x) 5 (.i x.n):=⟨rfl⟩
def W9(x:TS):∀v∈Dz x,v.oneCell'=true:=λv hv=>by simp[Dz] at hv;rcases hv with rfl|rfl|rfl|rfl|rfl|rfl<;>rfl
instance:Wr [x1,x2,x3,x4,x5,x6] 0 (Dz x) (Dz x):=⟨rfl,aI _,W9 x⟩
instance:Sub (Dz x) 0 6 (Dz x):=⟨rfl,λj v h=>by rw[aB];exact h⟩
end
section
variable {W:World} {L R R' M:LH} {K:VK} {X:WK} {w:Nat} {x:WX} {f:WX->LH} {p p3 pf:Nat} {m m3 mf:aA} {mb EU kb EY:OA} {mc ET kc EX:Nat} {R3:LH} {A B C:HP}
def Nx(p:Nat)(m:aA)(mb:OA)(mc:Nat)(kb:OA)(kc p3:Nat)(m3:aA)(EU:OA)(ET:Nat)(EY:OA)(EX:Nat)(R' R3:LH):Prop:=
 (p3=p/\m3=m/\EU=mb/\ET=mc/\EY=kb/\EX=kc/\R3=R')\/R3=ML p m mb mc kb kc R'
def Nx.both(hn:Nx p m mb mc kb kc p3 m3 EU ET EY EX R' R3)(hf:Fl p m pf mf M R')(h:T W (A::B::ML p3 m3 EU ET EY EX M) X):T W (A::B::ML p3 m3 EU ET EY EX R3) X:=by
 rcases hn with⟨_,_,_,_,_,_,rfl⟩|rfl
 ·rcases hf with⟨_,_,rfl⟩|⟨fb,fc,gb,gc,rfl⟩
  ·exact h
  ·exact T.sub h (by exact qo)
 ·rcases hf with⟨_,_,rfl⟩|⟨fb,fc,gb,gc,rfl⟩
  ·exact T.sub h (by exact qo)
  ·exact T.sub h (by exact qo)
def Nx.may(hn:Nx p m mb mc kb kc p3 m3 EU ET EY EX R' R3)(hf:Fl p m pf mf M R')(h:∀R4,Fl p m p3 m3 M R4->T W (A::B::ML p m mb mc kb kc R4) X):T W (A::B::ML p3 m3 EU ET EY EX R3) X:=by
 rcases hn with⟨rfl,rfl,rfl,rfl,rfl,rfl,rfl⟩|rfl
 ·have h:=h M (.inl ⟨rfl,rfl,rfl⟩);rcases hf with⟨_,_,rfl⟩|⟨fb,fc,gb,gc,rfl⟩
  ·exact h
  ·exact T.sub h (by exact qo)
 ·have h:=h _ (.inr ⟨EU,ET,EY,EX,rfl⟩);rcases hf with⟨_,_,rfl⟩|⟨fb,fc,gb,gc,rfl⟩
  ·exact T.pl [0,0,3,3,3] h
  ·exact T.pl [0,0,3,3,3] (T.sub h (by exact qo))
def Nx.none(hn:Nx p m mb mc kb kc p3 m3 EU ET EY EX R' R3)(hf:Fl p m pf mf M R')(h:∀R4,Fl p m pf mf M R4->T W (A::B::ML p m mb mc kb kc R4) X):T W (A::B::ML p3 m3 EU ET EY EX R3) X:=by
 rcases hn with⟨rfl,rfl,rfl,rfl,rfl,rfl,rfl⟩|rfl
 ·exact h _ hf
 ·exact T.sub (h _ hf) (by exact qo)
def Nx.one(hn:Nx p m mb mc kb kc p3 m3 EU ET EY EX R' R3)(hf:Fl p m pf mf M R')(h:∀R4,Fl p3 m3 pf mf M R4->T W (A::B::ML p3 m3 EU ET EY EX R4) X):T W (A::B::ML p3 m3 EU ET EY EX R3) X:=by
 rcases hn with⟨rfl,rfl,rfl,rfl,rfl,rfl,rfl⟩|rfl
 ·exact h _ hf
 ·rcases hf with⟨rfl,rfl,rfl⟩|⟨fb,fc,gb,gc,rfl⟩
  ·exact h _ (.inr ⟨mb,mc,kb,kc,rfl⟩)
  ·exact T.sub (h _ (.inr ⟨fb,fc,gb,gc,rfl⟩)) (by exact qo)
end
def qA(a b:List UInt8):nG (bs a) (bs b)=decide (a=b):=by
 rw[tB,decide_eq_decide];exact Bj
def Ig{m:aA}{l:List UInt8}(h:rM l=false):uT m l=m:=by
 unfold uT;split
 ·rename_i hr;unfold rM at h;rw[hr,dQ] at h;unfold Lz;rw[ag (by rw[h];decide)]
 ·rfl
def CI{m:aA}{l:List UInt8}(h:rM l=true):uT m l=(bD m (gV l).1).2.2:=by
 unfold rM at h;rw[df] at h;unfold uT Lz;rw[ai h.1,ai h.2]
section
variable {W:World} {L R R' M:LH} {K:VK} {X:WK} {w:Nat} {f:WX->LH} {p p3 pf:Nat} {m m3 mf:aA} {mb EU kb EY:OA} {mc ET kc EX:Nat} {R3:LH} {A B C:HP} {S:VS} {ms CH:aA} {g:Nat} {x:TS}
def Bk.nx(hb:Bk p m mb mc kb kc (A::B::C::R') p3 m3 EU ET EY EX R3)(h:∀R4,Nx p m mb mc kb kc p3 m3 EU ET EY EX R' R4->T W (A::B::C::ML p3 m3 EU ET EY EX R4) X):T W (ML p3 m3 EU ET EY EX R3) X:=by
 rcases hb with⟨rfl,rfl,rfl,rfl,rfl,rfl,rfl⟩|rfl
 ·exact T.pl [3,3,3] (h _ (.inl ⟨rfl,rfl,rfl,rfl,rfl,rfl,rfl⟩))
 ·exact T.pl [6,6,6] (h _ (.inr rfl))
def adf{s p' pf':Nat}(hm:RM m)(h:T W (ML p m mb mc kb kc (Sep.pt w (wC s p' pf')::u3 600 s (S,ms)::R)) (K (.b (decide (xG m ms))))):
 T W (ML p m mb mc kb kc (Sep.pt w (wC s p' pf')::u3 600 s (S,ms)::R)) (nB (ah w) (ah p) K):=by
 unfold nB;apply ws;refine qC (n:=600) (s:=s) λp3=>?_;apply tz;refine rX (p:=p3) λab ac=>?_;apply uE;refine yG (p:=p3) λxb xc=>?_;apply uE;apply yH (p:=p3);apply kd;refine yC (p:=p3) ?_;refine kd ?_;refine T.pl [3,3,3] ?_;apply PR hm;apply oF;have e:decide (m.cW.map m.full=(bo ms).aC/\m.ax=(bo ms).ax/\m.clock=(bo ms).clock/\m.ay=(bo ms).ay)=decide (xG m ms):=by
  have e1:m.cW.map m.full=(bo m).aC:=jv λa ha=>hm.ground.full ha;rw[e1,decide_eq_decide];exact Iff.rfl
 rw[e];exact T.sub h (by exact qo)
set_option maxHeartbeats 1000000 in
def ahN(G:oH W)[i:Lc (wd w) L ⟨S,ms,m,mf⟩ f](hl:x.b.length<=16384)(hk:KI 600 S ms CH g)(hg:g+3<256)(oB:Md.bW ms)(Ym:Md.bW CH)
 (h:∀b S' yP mfs' m' KU,u1 x S ms CH g S' yP mfs'->Md.bW yP->Md.bW mfs'->(m=ms/\mf=CH->b=true/\m'=yP/\KU=mfs')->T W (f ⟨S',yP,m',KU⟩) (K (.b b))):T W L (aP (ah w) (Dz x) K):=by
 unfold aP;refine aaE (w:=w) λz M R' hf k1 k2 hM=>?_;have fin:∀{b:Bool} {S':VS} {yP mfs' m' KU:aA} {z':WZ} {Ny:LH},Fl z'.p m' z'.pf KU M Ny->RM m'->RM KU->u1 x S ms CH g S' yP mfs'->Md.bW yP->Md.bW mfs'->(m=ms/\mf=CH->b=true/\m'=yP/\KU=mfs')->T W (KS w z' ⟨S',yP,m',KU⟩ Ny) (K (.b b)):=
  λ{b S' yP mfs' m' KU z' Ny} a1 a2 a3 a4 a5 a6 a7=>hM z' ⟨S',yP,m',KU⟩ Ny [] _ a1 a2 a3 (h b S' yP mfs' m' KU a4 a5 a6 a7)
 have hvz:=hk.vz;have iz:=hvz.vok (by omega);dsimp only[KS];apply ws;intros;rename_i r1;apply dz<;>intro g4
 ·have k0:x.kind=0:=by simpa using g4
  have hwr:rM x.b=true->x.wr:=λhh=>by
   unfold rM at hh;rw[df] at hh;exact⟨k0,hh.1,hh.2⟩
  have ae':x.wr->rM x.b=true:=λhh=>by
   unfold rM;rw[hh.2.1];exact hh.2.2
  apply ws;refine T.pl [3,3,3] ?_;refine NJ k1 (by omega) λp3 EU ET EY EX R3 Ck Yc=>?_;refine Ck.nx λR4 hn=>?_;apply ws;apply we (n:=600) (s:=z.s);apply ws;refine AA G (n:=600) (s:=z.s) oB iz (λdY=>hvz.W2 (by decide) (by decide) (by omega) dY oB) (by decide) (by decide) (by omega) λGF dY=>?_;have hc:=CR hk hg dY oB hl;have jD:∀{S':VS} {yP mfs':aA},u1 x S ms CH g S' yP mfs'->Md.bW yP->Md.bW mfs'->S'.dK=S.dK->(m=ms/\mf=CH->uT m x.b=yP/\(S.dK=false->mfs'=yP)/\(S.dK=true->mfs'=CH))->
   T W (Sep.pt r1 (Dz x)::Sep.pt w (wC z.s z.p z.pf)::u3 600 z.s (S',yP)::ML p3 (uT m x.b) EU ET EY EX R4) (aP.j1 K (ah w) (ah p3) S.dK):=by
   intro S' yP mfs' a1 a2 a3 a4 a5;unfold aP.j1 aP.j2;cases hs:S.dK with
   |true=>
    apply ws;apply we (n:=600) (s:=z.s);apply ws;rw[a4,hs];apply T.drop;refine hn.one hf λR5 hf5=>?_;exact fin (z':=⟨z.s,p3,z.pf,EU,ET,EY,EX⟩) hf5 Yc k2 a1 a2 a3 λhh=>⟨rfl,(a5 hh).1,by rw[(a5 hh).2.2 hs];exact hh.2⟩
   |false=>
    apply ws;apply we (n:=600) (s:=z.s);apply ws;rw[a4,hs];refine T.drop ?_;refine hn.both hf ?_;exact fin (z':=⟨z.s,p3,p3,EU,ET,EY,EX⟩) (.inl ⟨rfl,rfl,rfl⟩) Yc Yc a1 a2 a3 λhh=>⟨rfl,(a5 hh).1,by rw[(a5 hh).2.1 hs];exact(a5 hh).1⟩
  have jN:∀{b:Bool} {S':VS} {yP mfs':aA},u1 x S ms CH g S' yP mfs'->Md.bW yP->Md.bW mfs'->(m=ms/\mf=CH->b=true/\m=yP/\mf=mfs')->
   T W (Sep.pt r1 (Dz x)::Sep.pt w (wC z.s z.p z.pf)::u3 600 z.s (S',yP)::ML p3 (uT m x.b) EU ET EY EX R4) (K (.b b)):=by
   intro b S' yP mfs' a1 a2 a3 a5;refine T.drop (hn.none hf λR5 hf5=>?_);exact fin (z':=z) hf5 k1 k2 a1 a2 a3 a5
  have j4:∀{S':VS} {yP mfs':aA} {l:List UInt8},u1 x S ms CH g S' yP mfs'->Md.bW yP->Md.bW mfs'->S'.dK=S.dK->(m=ms/\mf=CH->l=y9 m x.b/\uT m x.b=yP/\(S.dK=false->mfs'=yP)/\(S.dK=true->mfs'=CH))->
   T W (Sep.pt r1 (Dz x)::Sep.pt w (wC z.s z.p z.pf)::u3 600 z.s (S',yP)::ML p3 (uT m x.b) EU ET EY EX R4) (aP.j4 K (ah w) (ah p3) (bs l) (bs (y9 m x.b)) S.dK false):=by
   intro S' yP mfs' l a1 a2 a3 a4 a5;unfold aP.j4;rw[qA];by_cases hls:l=y9 m x.b
   ·rw[aw hls];apply ws;exact jD a1 a2 a3 a4 λhh=>(a5 hh).2
   ·rw[ao hls];apply ws;exact jN a1 a2 a3 λhh=>aT (a5 hh).1 hls
  rcases hc with⟨c1,c2⟩|⟨c1,c2,c3⟩|⟨c1,c2,S1,c3,c4,c5⟩|⟨c1,c2,S1,c3,c4,c5,c6,c7,c8⟩
  ·rw[c2,c1];have hw:u1 x S ms CH g S ms CH:=.none (λhh=>by have:=ae' hh;rw[c1] at this;cases this) (λhh=>by omega) (by omega) (by omega);unfold aP.j3;apply ws;refine j4 hw oB Ym rfl λhh=>⟨by rw[hh.1],(Ig c1).trans hh.1,λhs=>(hk.same hs).1,λ_=>rfl⟩
  ·rw[c3,c1,c2];have hw:u1 x S ms CH g S ms CH:=.none (λ_=>c2) (λhh=>by omega) (by omega) (by omega);unfold aP.j3;apply ws;apply qE;apply ws;rw[qA,aw rfl];exact jN hw oB Ym λhh=>⟨rfl,hh.1,hh.2⟩
  ·rw[c4,c1,c2];have hx:=hwr c1;have hw:u1 x S ms CH g S1 ms (bD ms x.q).2.2:=.YH hx c2 S1 c3 c5;unfold aP.j3 aP.j4;apply ws;apply qE;apply ws;rw[qA,aw rfl];apply ws;apply we (n:=600) (s:=z.s);apply ws;rw[c5.dK];refine T.drop (hn.may hf λR5 hf5=>?_);exact fin (z':=⟨z.s,z.p,p3,z.mb,z.mc,z.kb,z.kc⟩) hf5 k1 Yc hw oB (wT oB _) λhh=>⟨rfl,hh.1,by rw[CI c1,hh.1];rfl⟩
  ·rw[c4,c1,c2];rw[c4] at GF;have hx:=hwr c1;have hw:u1 x S ms CH g S1 (bD ms x.q).2.2 (bD ms x.q).2.2:=.did hx c2 S1 c3 c5 c6;have kJ:y9 ms x.b≠pM 8 [] [] []:=by rw[c7];exact aa6 c8 (by decide) (by decide)
   unfold aP.j3;apply ws;apply qE;apply ws;rw[qA,ao kJ];have:=j4 (l:=y9 ms x.b) hw (wT oB _) (wT oB _) (by rw[c5.dK,c2]) λhh=>⟨by rw[hh.1],by rw[CI c1,hh.1];rfl,λ_=>rfl,λhs=>by rw[c2] at hs;cases hs⟩;rw[c2] at this;exact this
 have k0:x.kind≠0:=by simpa using g4
 have nw:x.wr->S.dK=true:=λhh=>aT hh.1 k0;apply dz<;>intro g5
 ·have k1':x.kind=1:=by simpa using g5
  apply ws;refine wg (n:=600) (s:=z.s) λdY=>?_;apply we (n:=600) (s:=z.s);apply ws;apply JQ (n:=600) (s:=z.s) iz (by decide) (by decide);have jE:∀{b:Bool} {S':VS} {yP mfs':aA},u1 x S ms CH g S' yP mfs'->Md.bW yP->Md.bW mfs'->(m=ms/\mf=CH->b=true/\m=yP/\mf=mfs')->T W (Sep.pt r1 (Dz x)::Sep.pt w (wC z.s z.p z.pf)::u3 600 z.s (S',yP)::ML z.p m z.mb z.mc z.kb z.kc R') (K (.b b)):=by
   intro b S' yP mfs' a1 a2 a3 a5;exact T.drop (fin (z':=z) hf k1 k2 a1 a2 a3 a5)
  rcases Xn hvz (by decide) (by decide) (by omega) dY oB with⟨a,b⟩|⟨a,b,c,_⟩|⟨a,b,c⟩
  ·rw[b,a];unfold aP.j5;apply ws;apply ir rfl;exact jE (mfs':=CH) (.none nw (λ_=>a) (by omega) (by omega)) oB Ym λhh=>⟨rfl,hh.1,hh.2⟩
  ·rw[b,a];unfold aP.j5 aP.j6;apply ws;apply ir (by decide);apply ws;apply we (n:=600) (s:=z.s);apply ws;rw[c.dK];apply aaO;exact jE (.saved k1' a b c) oB Ym λhh=>⟨rfl,hh.1,hh.2⟩
  ·rw[b,a];unfold aP.j5 aP.j6;apply ws;apply ef (by decide);apply ws;apply ir (by decide);apply ws;apply we (n:=600) (s:=z.s);apply ws;rw[c.dK];exact jE (.BN k1' a b c) oB Ym λhh=>⟨rfl,hh.1,hh.2⟩
 have k1':x.kind≠1:=by simpa using g5
 apply dz<;>intro g6
 ·have k2':x.kind=2:=by simpa using g6
  apply ws;obtain⟨m0,RZ,hold⟩:=hk.IF (by decide) x.mask x.torn x.cut;refine T0 G (n:=600) (s:=z.s) (by decide) (by decide) iz hold (by omega) λS' hw Ou=>?_;apply kd;apply ef (by decide);apply ws;unfold aP.j7;have Qn:u1 x S ms CH g S' m0 m0:=.IF k2' m0 RZ S' hw;rcases hf with⟨h1,h2,h3⟩|⟨fb,fc,gb,gc,rfl⟩
  ·rw[h1,h3];refine T.pl [3,3,3,1,1] ?_;apply adf k1;have e0:m=ms/\mf=CH->m=m0:=λhh=>by
    rcases RZ with e|e
    ·rw[e];exact hh.1
    ·rw[e,<-hh.2];exact h2.symm
   apply oF;have e1:∀X,T W (KS w ⟨z.s,z.p,z.p,z.mb,z.mc,z.kb,z.kc⟩ ⟨S',m0,m,m⟩ M) X->T W (ML z.p m z.mb z.mc z.kb z.kc (Sep.pt w (wC z.s z.p z.p)::u3 600 z.s (S',m0)::Sep.pt r1 (Dz x)::M)) X:=λX hX=>T.pl [3,3,0,0,0] (T.sub hX (by exact qo));apply dz<;>intro g7
   ·apply ws;refine e1 _ (fin (.inl ⟨rfl,rfl,rfl⟩) k1 k1 Qn Ou Ou λhh=>⟨rfl,e0 hh,e0 hh⟩)
   ·apply ws;refine e1 _ (fin (.inl ⟨rfl,rfl,rfl⟩) k1 k1 Qn Ou Ou λhh=>⟨rfl,e0 hh,e0 hh⟩)
  ·refine T.pl [6,6,6,1,1] ?_;apply adf k2;apply oF;apply ga<;>intro g7
   ·have e0:=g7.model k2.ground Ou;apply ws;refine T.pl [3,3,0,0,0] (T.sub (M:=KS w ⟨z.s,z.pf,z.pf,fb,fc,gb,gc⟩ ⟨S',m0,mf,mf⟩ M) ?_ (by exact qo));exact fin (.inl ⟨rfl,rfl,rfl⟩) k2 k2 Qn Ou Ou λhh=>⟨rfl,e0,e0⟩
   ·have e0:m=ms/\mf=CH->m=m0:=λhh=>by
     rcases RZ with e|e
     ·rw[e];exact hh.1
     ·rw[e,<-hh.2] at g7;exact aT (xG.refl mf) g7
    apply ws;refine T.pl [3,3,4,4,4] (T.sub (M:=KS w ⟨z.s,z.p,z.p,z.mb,z.mc,z.kb,z.kc⟩ ⟨S',m0,m,m⟩ M) ?_ (by exact qo));exact fin (.inl ⟨rfl,rfl,rfl⟩) k1 k1 Qn Ou Ou λhh=>⟨rfl,e0 hh,e0 hh⟩
 have k2':x.kind≠2:=by simpa using g6
 apply dz<;>intro g7
 ·have k3':x.kind=3:=by simpa using g7
  apply ws;apply aaX (n:=600) (s:=z.s);apply ws;exact T.drop (fin (z':=z) hf k1 k2 (.arm k3') oB Ym λhh=>⟨rfl,hh.1,hh.2⟩)
 ·have k3':x.kind≠3:=by simpa using g7
  exact T.drop (fin (z':=z) hf k1 k2 (.none nw (λhh=>aT hh k1') k2' k3') oB Ym λhh=>⟨rfl,hh.1,hh.2⟩)
end
section
variable {W:World} {L R M:LH} {K:VK} {X:WK} {w:Nat} {x:WX} {f:WX->LH} {m:aA} {q:j0}
def acE{z:WZ}{Ny:LH}(hf:Fl z.p x.m z.pf x.mf M Ny)(k1:RM x.m)(k2:RM x.mf)(h:T W (wd w x::M) X):T W (KS w z x Ny) X:=by
 obtain⟨E,hE,rfl⟩:=hf.ZF;exact T.Ib (M:=KS w z x E) (T.Z5 (p:=Fl z.p x.m z.pf x.mf [] E/\RM x.m/\RM x.mf) ⟨hE,k1,k2⟩ (T.abm (f:=λy:WZ×LH=>G9 (Fl y.1.p x.m y.1.pf x.mf [] y.2/\RM x.m/\RM x.mf) (wM (KS w y.1 x y.2))) (z,E) h))
def T4:RM mY:=RM.EK GH kx
def Xh(G:oH W)(h:∀w,T W (wd w ⟨th 600,mY,mY,mY⟩::L) (K (.p (ah w)))):T W L (pG K):=by
 unfold pG;refine zm G (n:=600) (by decide) (by decide) λs=>?_;apply ws;intros;rename_i r1 r2;show T W (Sep.pt r2 (wC s r1 r1)::Sep.pt r1 (ES mY none 0 none 0)::u3 600 s (th 600,mY)::L) _;refine im (e:=33) ?_;refine im (e:=14) ?_;refine T.pl (M:=KS r2 ⟨s,r1,r1,none,0,none,0⟩ ⟨th 600,mY,mY,mY⟩ L) [2,3,2,0,0] ?_;exact acE (.inl ⟨rfl,rfl,rfl⟩) T4 T4 (h r2)
def Rp(h:T W L (K (.s (bs (dH qT))))):T W L (lM (gP qT s0) K):=by
 unfold lM
 repeat' first|apply ws;intros|apply wb|refine IE ?_
 have e1:qT.op=3:=rfl;rw[e1];apply ef (by decide);apply ef (by decide);apply ir (by decide)
 repeat' first|apply ws|apply wb|refine T' ?_
 refine dU (by rw[bV,bV,aQ,aQ];decide) ?_;rw[me];exact T.drop h
def PN:qD (dH qT)=true/\(gV (dH qT)).1=qT:=by
 have h1:jy qT=true:=by decide
 have h2:fo qT=true:=by decide
 refine⟨DI h1 h2 (λa h=>by cases h) (λa h=>by cases h),?_⟩;rw[CV h1 h2 (λa h=>by cases h) (λa h=>by cases h)]
 rfl
def Zh(G:oH W)(h:T W L (K (.b true))):T W L (iS K):=by
 unfold iS;refine zm G (n:=600) (by decide) (by decide) λs=>?_;apply ws;apply ir (by decide);have hv0:=Hc (n:=600) (by decide) (by decide);have hz0:VZ 600 (th 600) mY 0:=.inl hv0;have KW:=acj (n:=600) (by decide) (by decide);have iz:=hz0.vok (by decide);have RX:eB (bo mY)->HZ (fh 600 mY (th 600)).1:=λhg=>hz0.W2 (by decide) (by decide) (by decide) hg kx;show T W _ (fA (ah s) (bs []) _);refine AA G (n:=600) (s:=s) (l:=[]) kx iz RX (by decide) (by decide) (by decide) λ_ _=>?_;have e0:Hn 600 mY (th 600) []=(th 600,mY,pM 4 [] [] []):=rfl;rw[e0];apply qz;apply qE;apply qz;rw[qA,aw rfl];unfold iS.j1;apply qe;apply dU ⟨rfl,rfl,trivial⟩;show T W _ (lM (gP qT s0) _);apply Rp;apply qz;have hlen:(dH qT).length<=924:=u4 (by decide) (by decide);refine AA G (n:=600) (s:=s) kx iz RX (by decide) (by decide) (by omega) λ_ dY=>?_;rcases CR (l:=dH qT) (KI.Qz) (by decide) dY kx (by omega) with⟨c1,_⟩|⟨_,c2,_⟩|⟨c1,c2,S1,c3,c4,c5⟩|⟨c1,c2,S1,c3,c4,c5,c6,c7,c8⟩
 ·have:rM (dH qT)=true:=by unfold rM;rw[PN.1,PN.2];rfl
  rw[this] at c1;cases c1
 ·cases c2
 ·have:=(acV (q:=qT) (m:=mY) KW (by decide) (by decide) (by decide) dY (by decide)).2 (by decide);rw[PN.2] at c3;rw[c3] at this;cases this
 ·rw[c4,c7,PN.2];have e2:bD mY qT=(0,[],mY.time 5):=rfl;rw[e2];apply qz;show T W _ (br (nG (bs (pM 0 [] [] [])) (bs [0,0,0,0])) _ _);rw[qA,aw (by rfl)];apply qe;refine qC (n:=600) (s:=s) λp=>?_;apply tz;apply yH (p:=p);apply kd;exact T.drop (T.drop h)
end
def JA(x:TS):(Dz x).length=6:=rfl
def ach(l:List TS):Prop:=l.length<=maxLen/\∀x∈l,x.b.length<=140737488355328
section
variable {W:World} {L R M:LH} {K:VK} {X:WK} {w:Nat} {x:WX} {f:WX->LH} {m:aA} {q:j0} {sb:OA} {sc:Nat} {l:List TS}
def YC(hr:mE W [] Dz 6 sb l)(xt:ach l)
 (h:∀b:Bool,(b=false->l.length<=60/\∀x∈l,x.b.length<=16384)->T W L (K (.b b))):T W L (pI sb l.length sc K):=by
 obtain⟨hl,xt⟩:=xt;unfold maxLen at hl;unfold pI;intro w jS;refine⟨λvv w=>∃(i:Nat)(n:Int),i<=l.length/\(l.length<=60->n=(((l.take i).map λx=>x.b.length).sum:Nat))/\vv=[.b false,.i n,.l sb l.length sc,.i (l.length:Int),.i (i:Int)]/\St W w L,
  mq 4 l.length,⟨0,0,aF _,(λ_=>rfl),rfl,jS⟩,?_⟩
 rintro b1 n1 ov mo qf n2 n3 w2 ⟨i,nn,hi,Om,e,ib⟩;cases e
 refine T.at ?_ ib;have hbound:∀j,j<=l.length->l.length<=60->((l.take j).map λx=>x.b.length).sum<=j* 140737488355328:=λj=>by
  induction j with
  |zero=>intro _ _;simp
  |succ j ih=>
   intro hj Jd;have:=ih (by omega) Jd;have gx:=aj (show j<l.length by omega);have hx:=xt _ (bF (show j<l.length by omega));rw[bg,gx,cF,List.sum_append];simp only[Option.toList_some,dx,ou,List.sum_cons,List.sum_nil];omega
 apply ga<;>intro g1
 ·have cn:i<l.length:=by omega
  have e5:=nI i;have gx:=aj cn;have hx:=xt _ (bF cn);have tj:l.take (i+1)=l.take i++[l[i]]:=by rw[bg,gx];rfl
  generalize l[i]=x at gx hx tj;refine iq hr ⟨by omega,by omega⟩ rfl λa ha=>?_;rw[ak];apply kY hr ha gx (JA x);apply ws;intros;rw[e5];refine T.drop λw3 h3=>⟨⟨i+1,_,cn,λJd=>?_,rfl,h3⟩,dn (by omega)⟩;have hb:=hbound i (by omega) Jd;rw[Om Jd,tj,cF,List.sum_append,bV];simp only[dx,ou,List.sum_cons,List.sum_nil];rw[aX (by omega)];omega
 ·have iZ:i=l.length:=by omega
  subst iZ;rw[aV] at Om;apply ga<;>intro g2
  ·exact h true (λhh=>by cases hh)
  ·have Jd:l.length<=60:=by omega
   have hs:=Om Jd;refine h _ (λhh=>⟨Jd,λx hx=>?_⟩);have hh:=bj hh;have:x.b.length<=(l.map λx=>x.b.length).sum:=JL (List.mem_map_of_mem hx);omega
def abe(hr:mE W [] Dz 6 sb l)(hl:l.length<=maxLen){i:Nat}{x:TS}(gx:l[i]?=some x){F:Nat->WK}(h:∀r,T W (Sep.pt r (Dz x)::L) (F r)):
 T W L (iW sb l.length (i:Int) 6 λa=>aJ a 6 λcs=>mk Nz λr=>bK 6 (ad r 0) cs (F r)):=by
 have cn:=(ar.1 gx).1;refine iq hr ⟨by omega,by omega⟩ rfl λa ha=>?_;rw[ak];apply kY hr ha gx (JA x);refine uF λr=>?_;apply dU (JA x);exact ZJ (h r)
end
section
variable {W:World} {L R M rest E:LH} {K:VK} {X:WK} {w:Nat} {x:WX} {f:WX->LH} {m:aA} {q:j0} {z:WZ}
def sC(b:List UInt8):LV:=[.s (bs b)]
def Fx{l:List (List UInt8)}{s:OA}{i:Nat}{x:List UInt8}{a:Addr}[hh:Has R L](hr:mE W R sC 1 s l)(hs:s=some a)(hx:l[i]?=some x)(h:T W L (K (.s (bs x)))):T W L (ld (a.add (i* 1)) K):=λw hw=>by
 obtain⟨a',ha,hh⟩:=hr w (hh.sub hw) i x hx;rw[hs] at ha;cases ha
 exact IU (hh 0 _ rfl) (h w hw)
end
end Go.Up
namespace Go.Prog.N
abbrev lG:Nat:=61
end Go.Prog.N
namespace Go.Prog
open Go.Den
def lG(p1:OA)(K:VK):WK:=
aM p1 1 (xI .i64 λn1=>
K (.i n1))
def lG.u:WP|[.pointer p1],K=>lG p1 K|_,_=>no
def nS(p1:OA)(v1:Value)(K:VK):WK:=
aM p1 1 (xI .i64 λn1=>
(lp [.l none 0 0,.l none 0 0,.i n1,.i 0] λI1 kS=>
∀wc vw wN ov mo qf n2 n3 w2,I1 [.l wc vw wN,.l ov mo qf,.i n2,.i n3] w2->(
br (decide (n3<n2)) (
cK p1 (xB λb1=>
br b1 (
K (.l ov mo qf)) (
xF [(N.aM,aM.u),(N.cK,cK.u),(N.lG,lG.u)] v1 [.p p1] (xI .i64 λn4=>
cw (1=1/\True) (mk [.i n4] λr1=>
iP 1 8 [.i 0] ov mo qf (ah r1) 1 λo9 nJ pa=>
(ct I1 kS [.l wc vw wN,.l o9 nJ pa,.i n2,.i (aa.wrap (n3+1))] [.l wc vw wN,.l ov mo qf,.i n2,.i n3] w2)))))) (
K (.l ov mo qf))) w2))
def qw(s1:BA)(K:VK):WK:=
mk Jw λr1=>
oO s1 (xP λp1=>
aM p1 1 (xI .i64 λn1=>
nS p1 (.func (.func N.lG) ⟨[]⟩ ⟨[]⟩) (xL λwc vw wN=>
kU p1 (.func (.func N.om) ⟨[]⟩ ⟨[]⟩) (xL λov mo qf=>
kf p1 (.func (.func N.m9) ⟨[]⟩ ⟨[]⟩) (xL λo9 nJ pa=>
cw (1=1/\(1=1/\(1=1/\(1=1/\True)))) (
mk Jw λr2=>
cw (4=4) (jY (ad r2 0) [.i n1,.l wc vw wN,.l ov mo qf,.l o9 nJ pa] (
kE p1 (xB λb1=>
br (!b1) (
cw True (
cw (4=4) (jY (ad r1 0) Jw (
aJ (ad r1 0) 4 λQG=>
K (.tuple ⟨[.agg ⟨QG⟩,.i 4]⟩))))) (
aJ (ad r2 0) 4 λGU=>
pX GU (xB λb2=>
br (!b2) (
cw True (
cw (4=4) (jY (ad r1 0) Jw (
aJ (ad r1 0) 4 λHW=>
K (.tuple ⟨[.agg ⟨HW⟩,.i 4]⟩))))) (
aJ (ad r2 0) 4 λMJ=>
bK 4 (ad r1 0) MJ (
aJ (ad r1 0) 4 λOK=>
K (.tuple ⟨[.agg ⟨OK⟩,.i 0]⟩))))))))))))))
end Go.Prog
namespace Go.Up
open Go.Sep Go.Den Go.RowKit Go.Prog Go.Md Go.cG
section
variable {W:World} {L R:LH} {K:VK} {X:WK} {r:Nat} {x:RS} {g:RS->LH} {l:List UInt8}
def X2[i:Lc (rd r) L x g](hl:x.1.length<1099511627776)
 (h:∀b c,T W (own b (many (eV 1) (jm 1) (jm 1 x).toNat (eV 1 x)).1.length c 1 ((many (eV 1) (jm 1) (jm 1 x).toNat (eV 1 x)).1.flatMap I1)::g (many (eV 1) (jm 1) (jm 1 x).toNat (eV 1 x)).2) (K (.l b (many (eV 1) (jm 1) (jm 1 x).toNat (eV 1 x)).1.length c))):
 T W L (nS (ah r) (.func (.func N.lG) ⟨[]⟩ ⟨[]⟩) K):=by
 unfold nS;apply sV hl;apply kd;have hn:=i.next;have hb:=Rz x;obtain⟨n,en⟩:∃n:Nat,jm 1 x=(n:Int):=⟨(jm 1 x).toNat,by omega⟩;rw[en,ak] at h;rw[en];refine im (e:=1) ?_;intro w jS;refine⟨λvv w=>∃(i:Nat)(bo:OA)(cc:Nat)(done:List Int)(y:RS),i<=n/\done.length<=i/\y.1.length<1099511627776/\many (eV 1) (jm 1) n (eV 1 x)=(done++(many (eV 1) (jm 1) (n-i) y).1,(many (eV 1) (jm 1) (n-i) y).2)/\
                                                                                                                               vv=[.l none 0 0,.l bo done.length cc,.i (n:Int),.i (i:Int)]/\St W w (own bo done.length cc 1 (done.flatMap I1)::g y),
  mq 3 n,⟨0,none,0,[],eV 1 x,aF _,aI _,pD hl,by simp,rfl,jS⟩,?_⟩
 rintro wc vw wN bo mo cc n2 n3 w2 ⟨i,b0,c0,done,y,hi,Bu,hy,hm,e,ib⟩;cases e
 refine T.at ?_ ib;have e5:=nI i
 haveI:=hn y
 apply ga<;>intro g1
 ·have cn:i<n:=by omega
  obtain⟨k,hk⟩:∃k,n-i=k+1:=⟨n-i-1,by omega⟩;rw[hk] at hm;apply yD (r:=r);apply oF;cases ht:y.2 with
  |true=>
   apply ws;rw[qa,ai ht] at hm;simp only[bR] at hm;have:=h bo cc;rw[hm] at this;exact this
  |false=>
   apply ws;rw[qa,ag (by rw[ht];decide)] at hm;show T W _ (lG (ah r) _);unfold lG;apply sV (r:=r) hy;apply ws;intros;refine kZ (b:=bo) (g:=I1) (x:=jm 1 y) rfl rfl rfl (by omega) (by omega) (KL _) λb2 c2=>?_;rw[e5];apply T.drop;refine λw3 h3=>⟨⟨i+1,b2,c2,done++[jm 1 y],(eV 1) y,cn,by simp;omega,qJ (tS 1 y) hy,?_,by simp,by simpa using h3⟩,dn (by omega)⟩;rw[hm,show n-(i+1)=k by omega];simp
 ·have iZ:i=n:=by omega
  subst iZ;rw[kR] at hm;rw[Af,bR] at hm;have:=h bo cc;rw[hm] at this;exact this
def DH{e:Int}{res:List Int}{al:List bP}{tl:List cH}(hl:l.length<1099511627776)(iz:BY l=true)(hp:zq l=(e,res,al,tl,([],false)))(l1:res.length<=255)(l2:al.length<=255)(l3:tl.length<=255)
 (h:∀rb rc ab ac tb tc,T W (own tb tl.length tc 16 (tl.flatMap aN)::own ab al.length ac 14 (al.flatMap aO)::own rb res.length rc 1 (res.flatMap I1)::L) (K (.tuple ⟨[.agg ⟨qg e rb res.length rc ab al.length ac tb tl.length tc⟩,.i 0]⟩))):T W L (qw (bs l) K):=by
 have A9:oQ e res al tl=true:=by
  unfold BY at iz;rw[hp] at iz;exact(df _ _▸iz).2
 unfold zq at hp;dsimp only at hp;obtain⟨p1,p2⟩:=Prod.mk.inj hp;obtain⟨p2,p3⟩:=Prod.mk.inj p2;obtain⟨p3,p4⟩:=Prod.mk.inj p3;obtain⟨p4,p5⟩:=Prod.mk.inj p4;have hx1:=pD (m:=1) (x:=(l,false)) hl;unfold qw;refine uF λr1=>?_;refine NP λp=>?_;apply tz;refine sV hl (kd ?_);rw[p1];have b1:(many (eV 1) (jm 1) (jm 1 (eV 1 (l,false))).toNat (eV 1 (eV 1 (l,false)))).2.1.length<1099511627776:=qJ (A1 (tS 1) _ _) (pD hx1);refine X2 hx1 λrb rc=>?_;rw[p2];generalize (many (eV 1) (jm 1) (jm 1 (eV 1 (l,false))).toNat (eV 1 (eV 1 (l,false)))).2=y at p3 p4 p5 b1⊢;apply uE;have b2:(many El Em (jm 1 y).toNat (eV 1 y)).2.1.length<1099511627776:=qJ (A1 P4 _ _) (pD b1);refine P8 b1 λab ac=>?_;rw[p3];generalize (many El Em (jm 1 y).toNat (eV 1 y)).2=z at p4 p5 b2⊢;apply uE;refine P7 b2 λtb tc=>?_;rw[p4,p5];apply ws;intros;rename_i r2;apply O7 (r:=p);apply ws;apply ef rfl;apply ws;refine Pk (hh:=Has.refl) (XB (λ_=>rfl)) (XB (λ_=>rfl)) (XB (λ_=>rfl)) (by omega) (by omega) (by omega) ?_;rw[A9];apply ws;exact T.sub (h rb rc ab ac tb tc) (by exact qo)
def PQ(e:Int)(res:List Int)(al:List bP)(tl:List cH):Int×List Int×List bP×List cH:=if oQ e res al tl=true then(e,res,al,tl) else(3,[],[],[])
def FX{e:Int}{res:List Int}{al:List bP}{tl:List cH}(hA:∀a∈al,yJ a)(hT:∀t∈tl,yF t)
 (h:∀rb rc ab ac tb tc,T W (own tb (PQ e res al tl).2.2.2.length tc 16 ((PQ e res al tl).2.2.2.flatMap aN)::own ab (PQ e res al tl).2.2.1.length ac 14 ((PQ e res al tl).2.2.1.flatMap aO)::own rb (PQ e res al tl).2.1.length rc 1 ((PQ e res al tl).2.1.flatMap I1)::L) (K (.tuple ⟨[.agg ⟨qg (PQ e res al tl).1 rb (PQ e res al tl).2.1.length rc ab (PQ e res al tl).2.2.1.length ac tb (PQ e res al tl).2.2.2.length tc⟩,.i 0]⟩))):T W L (qw (bs (pM e res al tl)) K):=by
 obtain⟨h1,h2⟩:=JU (e:=e) (res:=res) hA hT;have hlen:=T6 (e:=e) (res:=res) (al:=al) (tl:=tl);unfold PQ at h;by_cases hf:oQ e res al tl=true
 ·rw[ai hf] at h h2;obtain⟨_,_,_,_,f5,f6,f7⟩:=vy hf;exact DH (by omega) h1 h2 (by omega) (by omega) (by omega) h
 ·rw[ag hf] at h h2;exact DH (by omega) h1 h2 (by decide) (by decide) (by decide) h
end
def SIn(l:List (List UInt8)):Prop:=l.length<=maxLen/\∀x∈l,x.length<=140737488355328
def Zq(n:Nat)(m:aA)(S:VS):Prop:=∀q,jy q=true->fo q=true->(wZ n m S q).2=((bD m q).2.2,(bD m q).1,(bD m q).2.1)
def CS(n:Nat)(m:aA)(S:VS)(l:List UInt8):VS:=if rM l=true then(wZ n m S (gV l).1).1 else S
section
variable {n k g:Nat} {m:aA} {S:VS} {l:List UInt8}
def zl(hl:l.length<=16384)(hd:Zq n m S)(dY:eB (bo m))(oB:Md.bW m):Hn n m S l=(CS n m S l,uT m l,y9 m l):=by
 unfold Hn CS uT y9 rM;rw[ag (by omega)];cases hr:qD l with
 |false=>rfl
 |true=>
  have hw:=nX hr;rw[ai rfl,ai rfl,ai rfl,dQ];generalize (gV l).1=q at hw⊢;unfold yx Lz Ly;cases he:fo q with
  |false=>
   have abF:u0 (m.cW.map m.full) m.ax q=ask m q:=by
    rw[<-QT dY];have:m.cW.map m.full=(bo m).aC:=jv λa ha=>oB.full ha;rw[this];rfl
   rw[abF]
   rfl
  |true=>
   rw[hd q hw he]
   rfl
def RI.Vt(h:RI n k S)(hn:600<=n/\n<=4096)(hk:k<180)(hg:eB (bo m)):Zq n m S:=λq hw he=>(Ts h hn hk hg he).2.2 hw
def Q4{s:BA}:S.bu<=(iH n m S s).1.bu:=by
 have hv:S.bu<=(fh n m S).1.bu:=by
  unfold fh;split
  ·exact eE _
  split
  ·exact eE _
  split
  ·exact eE _
  split
  ·exact eE _
  ·show S.bu<=S.bu+1;omega
 unfold iH;split
 ·exact eE _
 split
 ·exact hv
 ·exact hv
def RI.Hn(h:RI n k S)(hn:600<=n/\n<=4096)(hk:k<180)(hg:eB (bo m)):RI n (k+1) (CS n m S l)/\(CS n m S l).J.seq=S.J.seq+(if rM l=true then 1 else 0)/\S.bu<=(CS n m S l).bu:=by
 unfold CS;by_cases ht:rM l=true
 ·rw[ai ht,ai ht];have I4:=ht;unfold rM at I4;rw[df] at I4;have hw:=nX I4.1;have he:=I4.2;generalize (gV l).1=q at hw he⊢;refine⟨(Ts h hn hk hg he).1,?_⟩;obtain⟨a1,_⟩:=Pm (m:=m) h hn hk hg hw he;obtain⟨g,s,h1,h2,h3,h4⟩:=h;have tr:=pk hg;have hrl:=u4 hw he;have hc:=Cs (k:=12+(bs (dH q)).size) (by rw[bV];omega);have Ak:=h1.Ey;have Aj:=h1.lo;have y3:=h1.hi;have A5:120<=S.J.hi-S.J.lo:=by rw[Aj,y3];unfold dm;omega
  obtain⟨_,_,b3,_⟩:=zU (m:=m) (s:=bs (dH q)) h1 hn.2 (by omega) (by omega) (sh hn.1 tr) (by omega) (by omega) (by rw[bV];omega) (by omega);have b4:=Q4 (n:=n) (m:=m) (S:=S) (s:=bs (dH q));have e:(wZ n m S q).1=(iH n m S (bs (dH q))).1:=by
   unfold wZ;rw[ag (by rw[hw];decide),ag (by rw[h1.dK];decide),ag (λhh=>hh a1)]
  rw[e];exact⟨b3,b4⟩
 ·rw[ag ht,ag ht];exact⟨h.mono (by omega),by omega,eE _⟩
def RI.save(h:RI n k S)(hn:600<=n/\n<=4096)(hk:k<=180)(hg:eB (bo m)):(fh n m S).2=0/\RI n (k+2) (fh n m S).1/\(fh n m S).1.J.seq=S.J.seq/\(fh n m S).1.bu=S.bu+1:=by
 obtain⟨g,s,h1,h2,h3,h4⟩:=h;have tr:=pk hg;have Ak:=h1.Ey;obtain⟨b1,b2,b3,b4,b5,b6⟩:=AR (m:=m) h1 hn.2 (by omega) (by omega) (sh hn.1 tr) (by omega);exact⟨b1,⟨g+2,s,b2,by omega,by omega,by omega⟩,b5,b6⟩
def RI.dK(h:RI n k S):S.dK=false:=by obtain⟨g,s,h1,_⟩:=h;exact h1.dK
def VW.rm(h:VW n S m g)(ha:S.D.arm=0)(hg:g<256):Rm n g S:=by
 obtain⟨h1,hd,mb,qs,h2,h3,h4⟩:=h;have hj:=h2.jg.yl;have hs:=h2.FK;have ht:=h2.bu;exact⟨⟨h2.jg.ok,ha,by rw[h2.jg.IW];decide,h2.jg.len⟩,h2.jg.ends,h2.lo,h2.hi,hj.Ey,hj.QQ,⟨hj.seq.1,by omega⟩,h2.dK,h1,by rw[h4];exact ht⟩
def Rm.Vt(h:Rm n g S)(Et:S.J.seq<1000000)(hn:600<=n/\n<=4096)(hg:g+3<256)(dY:eB (bo m)):Zq n m S:=λq hw he=>by
 have tr:=pk dY;have hrl:=u4 hw he;have hc:=Cs (k:=12+(bs (dH q)).size) (by rw[bV];omega);have Ak:=h.Ey;have Aj:=h.lo;have y3:=h.hi;have A5:120<=S.J.hi-S.J.lo:=by rw[Aj,y3];unfold dm;omega
 obtain⟨a1,_⟩:=zU (m:=m) (s:=bs (dH q)) h hn.2 (by omega) hg (sh hn.1 tr) (by omega) Et (by rw[bV];omega) (by omega);unfold wZ;rw[ag (by rw[hw];decide),ag (by rw[h.dK];decide),ag (λhh=>hh a1)]
def VW.Hn(h:VW 600 S m g)(hd:Zq 600 m S)(hg:g+3<256)(dY:eB (bo m))(oB:Md.bW m)(hl:l.length<=16384):VW 600 (CS 600 m S l) (uT m l) (g+3):=by
 have e:=zl hl hd dY oB;have hk:KI 600 S m m g:=.inl ⟨h,rfl⟩;rcases CR hk hg dY oB hl with⟨c1,c2⟩|⟨c1,c2,c3⟩|⟨c1,c2,S1,c3,c4,c5⟩|⟨c1,c2,S1,c3,c4,c5,c6,c7,c8⟩
 ·rw[c2] at e;have e1:S=CS 600 m S l:=congrArg (·.1) e;rw[<-e1,Ig c1];exact h.mono (by omega)
 ·have:=h.dK;rw[c2] at this;cases this
 ·exfalso;have hx:=c1;unfold rM at hx;rw[df] at hx;have hv:=hd (gV l).1 (nX hx.1) hx.2;unfold yx at c3;rw[ai hx.2] at c3;have e1:(wZ 600 m S (gV l).1).2.2.1=8:=congrArg (λy=>y.2.2.1) c3;rw[hv,sL (nX hx.1) hx.2] at e1;cases e1
 ·rw[c4] at e;have e1:S1=CS 600 m S l:=congrArg (·.1) e;rw[<-e1,CI c1];exact c5
def Xa(h:RM m)(l:List UInt8):∃e res al tl,y9 m l=pM e res al tl/\(∀a∈al,yJ a)/\(∀t∈tl,yF t)/\(rM l=true->PQ e res al tl=(0,res,al,tl)):=by
 unfold y9 rM;cases hr:qD l with
 |false=>exact⟨4,[],[],[],rfl,λa h=>(by cases h),λa h=>(by cases h),λhh=>(by cases hh)⟩
 |true=>
  have hw:=nX hr;rw[ai rfl,dQ];generalize (gV l).1=q at hw⊢;unfold Ly;cases he:fo q with
  |false=>
   obtain⟨m1,m2⟩:=M1 (al:=m.cW.map m.full) (kl:=m.ax) (q:=q);exact⟨_,_,_,_,rfl,λa ha=>QB h a (m1 a ha),λt ht=>by
    obtain⟨k,hk,e⟩:=m2 t ht
    rw[<-e];exact(h.ax k hk).move,λhh=>(by cases hh)⟩
  |true=>
   have eg:lJ q=true:=by
    have WG:q.op=1\/q.op=2\/q.op=3:=aR he;unfold jy at hw;have:o8 q=false:=by unfold o8;rw[ag (by omega),ag (by omega)]
    rw[this,Bool.or_false,df] at hw;exact hw.1
   have hf:=D4 (m:=m) h.ground eg;have hz:=sL (m:=m) hw he;refine⟨(bD m q).1,(bD m q).2.1,[],[],rfl,λa h=>(by cases h),λa h=>(by cases h),λ_=>?_⟩;unfold PQ;rw[ai hf,hz]
end
end Go.Up
namespace Go.Prog
open Go.Den
def iU(K:VK):WK:=
jO 12 (x2 λv1 v2=>(xP λp1=>
(xI .i64 λn1=>
br (n1==0) (
fA p1 (⟨#[]⟩:BA) (xS λs1=>
br (nG s1 (⟨#[4,0,0,0]⟩:BA)) (
dG p1 (xP λp2=>
hO p2 (xI .i64 λn2=>
K (.b (n2==0))))) (
K (.b false)))) (
K (.b false))) v2) v1)
def iT(wc:OA)(vw wN:Nat)(K:VK):WK:=
(lp [.b false,.i 0,.l wc vw wN,.i (vw:Int),.i 0] λI1 kS=>
∀b1 n1 ov mo qf n2 n3 w2,I1 [.b b1,.i n1,.l ov mo qf,.i n2,.i n3] w2->(
br (decide (n3<n2)) (
iW ov mo n3 1 λa1=>
lS a1 λs1=>
(ct I1 kS [.b b1,.i (aa.wrap (n1+(s1.size:Int))),.l ov mo qf,.i n2,.i (aa.wrap (n3+1))] [.b b1,.i n1,.l ov mo qf,.i n2,.i n3] w2)) (
br (decide ((vw:Int)>60)) (
K (.b true)) (
K (.b (decide (n1>16384)))))) w2)
def lV(p1:OA)(s1:BA)(K:VK):WK:=
jn s1 (x2 λv1 v2=>(xA 13 λQG=>
(xI .i64 λn1=>
mk ke λr1=>
bK 13 (ad r1 0) QG (
br (n1 !=0) (
fL 4 (xS λs2=>
K (.tuple ⟨[.s s2,.p p1]⟩))) (
aJ (ad r1 0) 13 λGU=>
lK p1 GU (x2 λv3 v4=>(xS λs3=>
(xP λp2=>
K (.tuple ⟨[.s s3,.p p2]⟩)) v4) v3)))) v2) v1)
def mD(p1 p2:OA)(K:VK):WK:=
dG p1 (xP λp3=>
fK p3 (xL λwc vw wN=>
hG p3 (xL λov mo qf=>
hO p3 (xI .i64 λn1=>
gZ p3 (xI .i64 λn2=>
jb p2 wc vw wN ov mo qf n1 n2 (xB λb1=>
K (.b b1)))))))
def mW(p1:OA)(K:VK):WK:=
br (p1.isNone) (
K (.i 0)) (
nn p1 λa1=>
lP (a1.add 1) λp2=>
qK p2 (xI .i64 λn1=>
K (.i n1)))
end Go.Prog
namespace Go.Sep
open Go.Den Go.RowKit Go.ChangeShapes Go.WideShapes
inductive NK where
 |c(k:CK)
 |sl(ks:List CK)
def ac2(P:Program)(f:TypeId->Option (List NK)):Nat->List Field->Option (List NK)
 |_,[]=>some []
 |o,fd::r=>match f fd.type with
  |some a=>if fd.offset=o/\P.cellsOf fd.type=a.length then(ac2 P f (o+a.length) r).map (a++·) else none
  |none=>none
def nk(P:Program):Nat->TypeId->Option (List NK)
 |0,_=>none
 |n+1,t=>match P.underlying t with
  |some (.int k)=>some [.c (.i k)]
  |some .bool=>some [.c .b]
  |some (.slice e)=>match flat P n e with
   |some ks=>if P.cellsOf e=ks.length/\0<P.bytesOf e then some [.sl ks] else none
   |none=>none
  |some (.struct fs)=>ac2 P (nk P n) 0 fs.toList
  |_=>none
section
variable {H:Type} {enc:TypeId×Value->H} {P:Program} {w:World} {base:Nat} {spare:Nat->Bool} {held:Bool}
end
end Go.Sep
namespace Go.Up
open Go.Sep Go.Den Go.RowKit Go.Prog Go.Md Go.cG
section
variable {xs:LV} {o j:Nat}
end
def acU{α:Type}{W:World}{b:OA}{n e:Nat}{xs:LV}{g:α->LV}{l:List α}(hr:Ro W b n e xs)(hn:l.length=n)(hg:∀a,(g a).length=e)
 (hx:∀i a,l[i]?=some a->∀j,j<e->xs[i* e+j]?=(g a)[j]?):mE W [] g e b l:=λw hw i x hi=>by
 have cn:=(ar.1 hi).1;cases b with
 |none=>have:=hr.2.1 rfl;omega
 |some a=>
  refine⟨a,rfl,λj v hv=>?_⟩;have hj:j<e:=by rw[<-hg x];exact(ar.1 hv).1
  rw[add_add];exact hr.cell rfl hw (by rw[hx i x hi j hj];exact hv)
def GS{α:Type}{W:World}{b:OA}{n e:Nat}{xs:LV}{g:α->LV}{P:α->Prop}(hg:∀x,(g x).length=e)(hr:Ro W b n e xs)(he:∀i,i<n->∃x,P x/\∀j,j<e->xs[i* e+j]?=(g x)[j]?):∃l:List α,l.length=n/\mE W [] g e b l/\∀x∈l,P x:=by
 have key:∀m,m<=n->∃l:List α,l.length=m/\(∀i x,l[i]?=some x->∀j,j<e->xs[i* e+j]?=(g x)[j]?)/\∀x∈l,P x:=by
  intro m
  induction m with
  |zero=>exact λ_=>⟨[],rfl,λi x h=>by simp at h,by simp⟩
  |succ m ih=>
   intro hm;obtain⟨l,h1,h2,h3⟩:=ih (by omega);obtain⟨x,hx,hc⟩:=he m (by omega);refine⟨l++[x],by simp[h1],λi y hi=>?_,λy hy=>?_⟩
   ·by_cases cn:i<l.length
    ·rw[ch cn] at hi;exact h2 i y hi
    ·rw[iN (by omega)] at hi;have e:i=m:=by
      have:=(ar.1 hi).1;simp at this;omega
     subst e;rw[h1,kR] at hi;cases hi
     exact hc
   ·rcases dB.1 hy with h|h
    ·exact h3 y h
    ·simp at h;subst h;exact hx
 obtain⟨l,h1,h2,h3⟩:=key n (aI n);exact⟨l,h1,acU hr h1 hg h2,h3⟩
abbrev tsK:List CK:=[.i .i64,.s,.i .u64,.i .i64,.i .i64,.i .i64]
def tss{W:World}{b:OA}{n:Nat}{xs:LV}(hr:Ro W b n 6 xs)(he:zR tsK n xs)(hm:n<=maxLen):∃l:List TS,n=l.length/\mE W [] Dz 6 b l/\ach l:=by
 have KX:reachBytes<=140737488355328:=by decide
 obtain⟨l,h1,h2,h3⟩:=GS (g:=Dz) (P:=λx=>x.b.length<=140737488355328) (λ_=>rfl) hr λi hi=>by
  have h:=he i hi;obtain⟨_,q0,n0,rfl,_⟩:=h 0 _ rfl;obtain⟨_,q1,n1,rfl,hs⟩:=h 1 _ rfl;obtain⟨_,q2,n2,rfl,_⟩:=h 2 _ rfl;obtain⟨_,q3,n3,rfl,_⟩:=h 3 _ rfl;obtain⟨_,q4,n4,rfl,_⟩:=h 4 _ rfl;obtain⟨_,q5,n5,rfl,_⟩:=h 5 _ rfl;refine⟨⟨n0,n1.data.toList,n2,n3,n4,n5⟩,wJ hs KX,λj hj=>?_⟩
  match j,hj with
  |0,_=>exact q0
  |1,_=>exact q1
  |2,_=>exact q2
  |3,_=>exact q3
  |4,_=>exact q4
  |5,_=>exact q5
  |j+6,h=>exact aT h (by omega)
 exact⟨l,h1.symm,h2,by rw[h1];exact hm,h3⟩
def bC(b:Bool):LV:=[.b b]
def bls{W:World}{b:OA}{n:Nat}{xs:LV}(hr:Ro W b n 1 xs)(he:zR [.b] n xs):∃l:List Bool,n=l.length/\mE W [] bC 1 b l:=by
 obtain⟨l,h1,h2,h3⟩:=GS (e:=1) (g:=bC) (P:=λ_=>True) (λ_=>rfl) hr λi hi=>by
  have h:=he i hi;obtain⟨_,q0,n0,rfl⟩:=h 0 _ rfl;refine⟨n0,trivial,λj hj=>?_⟩;have:j=0:=Nat.lt_one_iff.1 hj;subst this;exact q0
 exact⟨l,h1.symm,h2⟩
def Xl{W:World}{b:OA}{n:Nat}{xs:LV}(hr:Ro W b n 1 xs)(he:zR [.s] n xs)(hm:n<=maxLen):∃l:List (List UInt8),n=l.length/\mE W [] sC 1 b l/\SIn l:=by
 have KX:reachBytes<=140737488355328:=by decide
 obtain⟨l,h1,h2,h3⟩:=GS (g:=sC) (P:=λx=>x.length<=140737488355328) (λ_=>rfl) hr λi hi=>by
  have h:=he i hi;obtain⟨_,q0,n0,rfl,hs⟩:=h 0 _ rfl;refine⟨n0.data.toList,wJ hs KX,λj hj=>?_⟩
  match j,hj with
  |0,_=>exact q0
  |j+1,h=>exact aT h (by simp)
 exact⟨l,h1.symm,h2,by rw[h1];exact hm,h3⟩
end Go.Up
namespace Go.Den
inductive Kd
 |i(k:IntKind)|b|s|p|q|l|g|v
abbrev Fu:List Kd->Type
 |[]=>VK->WK
 | .i _::r=>Int->Fu r
 | .b::r=>Bool->Fu r
 | .s::r=>BA->Fu r
 | .p::r=>OA->Fu r
 | .q::r=>Addr->Fu r
 | .l::r=>OA->Nat->Nat->Fu r
 | .g::r=>LV->Fu r
 | .v::r=>Value->Fu r
abbrev Kd.n:Kd:=.i .i64
abbrev vi:Value:=.i 0
abbrev vu:Value:=.u 0
abbrev vp:Value:=.p none
abbrev vq:Value:=.p (some ⟨0,0,none⟩)
abbrev vl:Value:=.l none 0 0
abbrev vb:Value:=.bool false
def U:(k:List Kd)->Fu k->WP
 |[],F=>λa K=>match a with|[]=>F K|_=>no
 | .i t::r,F=>λa K=>match a with| .int t' n::a=>if t'=t then U r (F n) a K else no|_=>no
 | .b::r,F=>λa K=>match a with| .bool x::a=>U r (F x) a K|_=>no
 | .s::r,F=>λa K=>match a with| .string x::a=>U r (F x) a K|_=>no
 | .p::r,F=>λa K=>match a with| .pointer x::a=>U r (F x) a K|_=>no
 | .q::r,F=>λa K=>match a with| .pointer (some x)::a=>U r (F x) a K|_=>no
 | .l::r,F=>λa K=>match a with| .slice x n c::a=>U r (F x n c) a K|_=>no
 | .g::r,F=>λa K=>match a with| .agg ⟨x⟩::a=>U r (F x) a K|_=>no
 | .v::r,F=>λa K=>match a with|x::a=>U r (F x) a K|_=>no
def cur:(k:List Kd)->WP->Fu k
 |[],B=>B []
 | .i t::r,B=>λn=>cur r λa=>B (.int t n::a)
 | .b::r,B=>λx=>cur r λa=>B (.bool x::a)
 | .s::r,B=>λx=>cur r λa=>B (.string x::a)
 | .p::r,B=>λx=>cur r λa=>B (.p x::a)
 | .q::r,B=>λx=>cur r λa=>B (.p (some x)::a)
 | .l::r,B=>λx n c=>cur r λa=>B (.l x n c::a)
 | .g::r,B=>λx=>cur r λa=>B (.agg ⟨x⟩::a)
 | .v::r,B=>λx=>cur r λa=>B (x::a)
def CC:∀(k:List Kd)(B:WP) {a:LV} {K:VK} {w:World},U k (cur k B) a K w->a.length=k.length/\B a K w
 |[],B,a,K,w,h=>by
  unfold U at h;split at h
  ·exact⟨rfl,h⟩
  ·exact h.elim
 | .i t::r,B,a,K,w,h=>by
   unfold U at h;split at h
   ·split at h
    ·rename_i e;subst e;obtain⟨h1,h2⟩:=CC r _ h;exact⟨by rw[bE,h1];rfl,h2⟩
    ·exact h.elim
   ·exact h.elim
 | .b::r,B,a,K,w,h=>by
   unfold U at h;split at h
   ·obtain⟨h1,h2⟩:=CC r _ h;exact⟨by rw[bE,h1];rfl,h2⟩
   ·exact h.elim
 | .s::r,B,a,K,w,h=>by
   unfold U at h;split at h
   ·obtain⟨h1,h2⟩:=CC r _ h;exact⟨by rw[bE,h1];rfl,h2⟩
   ·exact h.elim
 | .p::r,B,a,K,w,h=>by
   unfold U at h;split at h
   ·obtain⟨h1,h2⟩:=CC r _ h;exact⟨by rw[bE,h1];rfl,h2⟩
   ·exact h.elim
 | .q::r,B,a,K,w,h=>by
   unfold U at h;split at h
   ·obtain⟨h1,h2⟩:=CC r _ h;exact⟨by rw[bE,h1];rfl,h2⟩
   ·exact h.elim
 | .l::r,B,a,K,w,h=>by
   unfold U at h;split at h
   ·obtain⟨h1,h2⟩:=CC r _ h;exact⟨by rw[bE,h1];rfl,h2⟩
   ·exact h.elim
 | .g::r,B,a,K,w,h=>by
   unfold U at h;split at h
   ·obtain⟨h1,h2⟩:=CC r _ h;exact⟨by rw[bE,h1];rfl,h2⟩
   ·exact h.elim
 | .v::r,B,a,K,w,h=>by
   unfold U at h;split at h
   ·obtain⟨h1,h2⟩:=CC r _ h;exact⟨by rw[bE,h1];rfl,h2⟩
   ·exact h.elim
def Dr(FF:Fence):Prop:=FF=Fence.wide\/∃l,FF=Fence.wide.inRound l
def Dr.fn{FF:Fence}(h:Dr FF)(f:FuncId):FF.fn f:=by rcases h with rfl|⟨l,rfl⟩<;>exact trivial
def Dr.depth{FF:Fence}(h:Dr FF):FF.depth=none:=by rcases h with rfl|⟨l,rfl⟩<;>rfl
def Dr.calls{FF:Fence}(h:Dr FF){n:Nat}{P:Program}{f:FuncId}{args:Array Value}{w:World}{R:Ending->World->Prop}(hc:Calls P f args w R):CallsIn FF n P f args w R:=by
 rcases h with rfl|⟨l,rfl⟩
 ·exact callsIn_wide.2 hc
 ·exact CallsIn.inRound l (callsIn_wide.2 hc)
def S3(F:Fn)(ds:List Deferred)(e:Env)(a:Act):Prop:=S2 F e {a with defers:=[]}/\a.defers=ds
def QI(F:Fn)(ds:List Deferred)(Q:Exit->Env->WK):Exit->Act->World->Prop:=λex a w=>(∃e,S3 F ds e a/\Q ex e w)/\∀c,ex≠.panic c
def S3.get{F:Fn}{ds:List Deferred}{e:Env}{a:Act}(h:S3 F ds e a){t:Nat}{v:Value}(hl:lk e t=some v):a.tmps[t]?=some v:=h.1.1.get t v hl
def S3.eval{F:Fn}{ds:List Deferred}{e:Env}{a:Act}(h:S3 F ds e a){x:Operand}{v:Value}(hx:ev e x=some v):a.eval x=v:=h.1.1.eval hx
def S3.nil{F:Fn}{ds:List Deferred}{e:Env}{a:Act}(h:S3 F ds e a):S3 F ds [] a:=⟨⟨⟨h.1.1.size,rfl,λt v hl=>by simp[lk] at hl⟩,h.1.2⟩,h.2⟩
def S3.cons{F:Fn}{ds:List Deferred}{e:Env}{a:Act}{t:Nat}{v:Value}(hv:a.tmps[t]?=some v)(h:S3 F ds e a):S3 F ds ((t,v)::e) a:=
 ⟨⟨⟨h.1.1.size,rfl,λs u hl=>by
   rw[yh] at hl
   split at hl
   ·rename_i KV;subst KV;cases hl;exact hv
   ·exact h.1.1.get s u hl⟩,h.1.2⟩,h.2⟩
def S3.start{F:Fn}{a:Act}(hC:F.C=[])(hn:a.tmps.size=F.n):S3 F a.defers [] a:=
 ⟨⟨⟨hn,rfl,λt v hl=>by simp[lk] at hl⟩,⟨hn,rfl,λt v hl=>by rw[hC] at hl;simp[lk] at hl⟩⟩,rfl⟩
def Ue{F:Fn}{ds:List Deferred}{w:World}{e:Env}{a:Act}{d:Option Tmp}{v:Value}{K:Env->WK}(hs:S3 F ds e a)(h:pt F.n F.C e d v K w):∃e',S3 F ds e' (a.put d v)/\K e' w:=by
 obtain⟨e',h1,h2⟩:=vA (a:={a with defers:=[]}) hs.1 h;refine⟨e',⟨?_,?_⟩,h2⟩
 ·cases d<;>exact h1
 ·cases d<;>exact hs.2
def S3.put{F:Fn}{ds:List Deferred}{e:Env}{a:Act}{t:Tmp}{v:Value}(w:World)(hs:S3 F ds e a)(ht:(Nat.blt t F.n&&cover F.C t)=true):S3 F ds ((t,v)::e) (a.put (some t) v):=by
 obtain⟨e',h1,h2⟩:=Ue (d:=some t) (v:=v) (K:=λe' _=>e'=(t,v)::e) (w:=w) hs (by simp only[pt,ht,cond_true]);subst h2;exact h1
def Va{F:Fn}{ds:List Deferred}{w:World}{e:Env}{a:Act}{ops:Array Oper}{o:Oper}{run skip:Env->WK}{X:Prop}(hs:S3 F ds e a)(h:guarded ops o e run skip w)
 (hr:∀e',S3 F ds e' a->Region.wanted o (yielded ops a.tmps)=true->run e' w->X)
 (hk:∀e',S3 F ds e' a->Region.wanted o (yielded ops a.tmps)=false->skip e' w->X):X:=
 tV (a:={a with defers:=[]}) hs.1 h (λe' h1=>hr e' ⟨h1,hs.2⟩) (λe' h1=>hk e' ⟨h1,hs.2⟩)
def S3.zip{F:Fn}{ds:List Deferred}{e:Env}{a:Act}(hs:S3 F ds e a){l:List (Nat×Value)}{vs:LV}(h:xf e l=some vs):S3 F ds (Bx l vs F.C) a:=⟨S2.zip (a:={a with defers:=[]}) hs.1 h,hs.2⟩
section
variable {F:Fn} {ds:List Deferred} {P:Program} {w:World} {e:Env} {a:Act} {ops:Array Oper} {FF:Fence} {n:Nat}
def To.XV{o:Oper}{K:VK}(h:To P (execOp a.eval o) w K):∀c,o.op≠.defer c:=by
 intro c hc;have key:∀r,(execOp a.eval o).run P w=.ok r w->True:=λ_ _=>trivial;have hx:execOp a.eval o=(do pure (.defer (<-resolve a.eval c o.type))):=by simp only[execOp,hc]
 rw[hx] at h;unfold To at h;simp only[Sem.run_bind] at h;cases hr:(resolve a.eval c o.type).run P w with
 |ok d w1=>simp[hr,Result.andThen,Sem.run_pure] at h
 |halt x w1=>simp[hr,Result.andThen] at h
def ND(hW:Dr FF){o:Oper}{K:VK}{next:Act->World->Prop}{Q:Exit->Act->World->Prop}(h:To P (execOp a.eval o) w K)(hk:∀v w',K v w'->next (a.put o.dst v) w'):o.wpIn FF n P a w next Q:=by
 refine⟨λf _=>hW.fn f,?_⟩;rw[Oper.semAt_eq _ _ _ h.XV];rcases h with⟨v,w',hr,h⟩|⟨w',hr,h⟩|⟨g,args,w',hr,h⟩
 ·rw[hr];exact hk _ _ h
 ·rw[hr];exact hk _ _ h
 ·rw[hr];refine⟨λhd=>(by rw[hW.depth] at hd;cases hd),?_⟩;refine CallsIn.mono (hW.calls h) λe w'' ⟨v,he,hv⟩=>?_;subst he;exact hk _ _ hv
def CQ(hW:Dr FF)(hF:Ok F){Q:Exit->Act->World->Prop}{K:Env->WK}{tail:List Nat}(hK:∀e a w,S3 F ds e a->K e w->wpOpsIn FF n F.P ops Q tail a w):
 ∀(l:List Nat)(os:List Oper)(e:Env)(a:Act)(w:World),l.length=os.length->(∀k i:Nat,l[k]?=some i->ops[i]?=os[k]?)->S3 F ds e a->zk F ops os K e w->wpOpsIn FF n F.P ops Q (l++tail) a w
 |[],[],e,a,w,_,_,hs,h=>hK e a w hs h
 |[],_::_,_,_,_,hl,_,_,_=>by simp at hl
 |_::_,[],_,_,_,hl,_,_,_=>by simp at hl
 |i::l,o::os,e,a,w,hl,hi,hs,h=>by
  have hio:ops[i]?=some o:=hi 0 i rfl;have rest:=λe a w=>CQ hW hF hK l os e a w (by simpa using hl) (λ(k j:Nat)(hk:l[k]?=some j)=>hi (k+1) j (by simpa using hk));rw[lY,wpOpsIn_cons];unfold wpOpIn;simp only[hio];refine Va (F:=F) hs (AE h) (λe' fF hw hr=>?_) (λe' fF hw hr=>?_)
  ·rw[ai hw];refine ND (a:=a) hW (Gg (a:={a with defers:=[]}) hF.eqs hF.Ij fF.1.1 hr) λv w' hv=>?_;obtain⟨Vq,yY,hk⟩:=Ue fF hv;exact rest _ _ _ yY hk
  ·rw[ag (by rw[hw];exact cO)];refine⟨λf _=>hW.fn f,?_⟩;obtain⟨Vq,yY,hk⟩:=Ue fF hr;exact rest _ _ _ yY hk
def Iv(hW:Dr FF)(hF:Ok F){id:Nat}{Q:Exit->Act->World->Prop}{K:Env->WK}(k:Nat)(hk:k<=ops.size)(hs:S3 F ds e a)
 (h:zk F ops (ops.toList.take k) K e w)(hK:∀e a w,S3 F ds e a->K e w->wpOpsIn FF n F.P ops Q (List.range' k (ops.size-k)) a w):(Code.region id ops false).wpIn FF n F.P Q a w:=by
 apply wpIn_region;have e1:qk ops.size=List.range' 0 k++List.range' k (ops.size-k):=by
  rw[List.range_eq_range'];have:=List.range'_append_1 (s:=0) (m:=k) (n:=ops.size-k);rw[aB] at this;rw[this];congr 1;omega
 rw[e1];refine CQ hW hF hK _ (ops.toList.take k) e a w (by simp;omega) (λj i hj=>?_) hs h;have Nq:j<k:=by have:=(ar.1 hj).1;simpa using this
 rw[List.getElem?_range'] at hj
 ·cases hj
  rw[s8,ai Nq];simp
 ·exact Nq
def Xc(hW:Dr FF)(hF:Ok F){Q:Exit->Act->World->Prop}{K:Env->WK}(k:Nat)(hk:k<=ops.size)(hs:S3 F ds e a)
 (h:zk F ops (ops.toList.drop k) K e w)(hK:∀e a w,S3 F ds e a->K e w->Q .normal a w):wpOpsIn FF n F.P ops Q (List.range' k (ops.size-k)) a w:=by
 have:=CQ (FF:=FF) (n:=n) (Q:=Q) (tail:=[]) hW hF (λe a w hs hk=>hK e a w hs hk) (List.range' k (ops.size-k)) (ops.toList.drop k) e a w (by simp) (λj i hj=>?_) hs h
 ·simpa using this
 ·have Nq:j<ops.size-k:=by have:=(ar.1 hj).1;simpa using this
  rw[List.getElem?_range'] at hj
  ·cases hj
   rw[ta];simp
  ·exact Nq
def drawn:Code->Bool
 | .region _ _ d=>d
 | .seq x y=>drawn x||drawn y
 | .cond _ x y=>drawn x||drawn y
 | .block _ c=>drawn c
 | .loop c=>drawn c
 |_=>false
def ab4(hW:Dr FF)(hF:Ok F):∀(c:Code)(Q:Exit->Env->WK)(e:Env)(a:Act)(w:World),drawn c=false->S3 F ds e a->den F c Q e w->c.wpIn FF n F.P (QI F ds Q) a w:=by
 intro c
 induction c with
 |skip=>intro Q e a w _ hs h;exact wpIn_skip ⟨⟨e,hs,h⟩,by simp⟩
 |ret=>intro Q e a w _ hs h;exact wpIn_ret ⟨⟨e,hs,h⟩,by simp⟩
 |exit i=>intro Q e a w _ hs h;exact wpIn_exit ⟨⟨e,hs,h⟩,by simp⟩
 |seq x y ihx ihy=>
  intro Q e a w hd hs h;simp only[drawn,Bool.or_eq_false_iff] at hd;refine wpIn_seq (wpIn_mono (ihx _ e a w hd.1 hs h) ?_);rintro ex a' w' ⟨⟨e',fF,hq⟩,hp⟩;cases ex<;>simp only[Ra] at hq
  case normal=>exact ihy Q e' a' w' hd.2 fF hq
  all_goals exact⟨⟨e',fF,hq⟩,hp⟩
 |cond x c1 c2 ih1 WA=>
  intro Q e a w hd hs h;simp only[drawn,Bool.or_eq_false_iff] at hd;simp only[den] at h;cases hx:ev e x with
  |none=>simp only[hx,no] at h
  |some v=>
   cases v<;>simp only[hx,no] at h
   rename_i b;cases b with
   |true=>exact wpIn_cond_true (hs.eval hx) (ih1 Q e a w hd.1 hs h)
   |false=>exact wpIn_cond_false (hs.eval hx) (WA Q e a w hd.2 hs h)
 |block i c ih=>
  intro Q e a w hd hs h;refine wpIn_block (wpIn_mono (ih _ e a w hd hs h) ?_);rintro ex a' w' ⟨⟨e',fF,hq⟩,hp⟩;cases ex<;>simp only[OU] at hq
  case exit j=>
   simp only[Exit.inBlock];cases hb:iB j i with
   |true=>rw[ai (eS hb)];simp only[hb,cond_true] at hq;exact⟨⟨e',fF,hq⟩,by simp⟩
   |false=>
    have kJ:j≠i:=λh=>by simp[h] at hb
    rw[ag kJ];simp only[hb,cond_false] at hq;exact⟨⟨e',fF,hq⟩,by simp⟩
  all_goals exact⟨⟨e',fF,hq⟩,hp⟩
 |loop c ih=>
  intro Q e a w hd hs h;simp only[den] at h;cases hl:QU F.Kv (key c) with
  |none=>simp only[hl,no] at h
  |some l=>
   simp only[hl] at h;cases hv:xf e l with
   |none=>simp only[hv,no] at h
   |some vs=>
    simp only[hv] at h;obtain⟨I,μ,h0,On⟩:=h;have UQ:=(ox hs.1.1 hv).2.1;refine wpIn_loop (λa w=>S3 F ds (Bx l (l.map λp=>a.tmps.getD p.1 undef) F.C) a/\I (l.map λp=>a.tmps.getD p.1 undef) w/\∀f,G' (l.map (·.2)) f->f (l.map λp=>a.tmps.getD p.1 undef))
     (λa w=>μ (l.map λp=>a.tmps.getD p.1 undef) w) ?_ ?_
    ·rw[<-UQ];exact⟨hs.zip hv,h0,(ox hs.1.1 hv).2.2⟩
    ·intro a1 w1 ⟨Bs,hI1,fI⟩;have hr:=fI _ On w1 hI1;apply wpIn_mono (ih _ _ a1 w1 hd Bs hr);rintro ex a' w' ⟨⟨e',fF,hq⟩,hp⟩;cases ex<;>simp only[Ra] at hq
     case normal=>
      simp only[UE] at hq;cases DR:xf e' l with
      |none=>simp only[DR,no] at hq
      |some Hm=>
       simp only[DR] at hq;have Oo:=(ox fF.1.1 DR).2.1;simp only[Exit.then];rw[<-Oo];exact⟨⟨fF.zip DR,hq.1,(ox fF.1.1 DR).2.2⟩,hq.2⟩
     all_goals exact⟨⟨e',fF,hq⟩,hp⟩
 |region id ops draw=>
  intro Q e a w hd hs h;simp only[drawn] at hd;subst hd;simp only[den,cond_false] at h;refine Iv hW hF ops.size (aI _) (K:=λe w=>Q .normal e w) hs (by rw[bU (by simp)];exact h) (λe a w hs hk=>?_);rw[kR];exact⟨⟨e,hs,hk⟩,by simp⟩
 |_=>intro Q e a w _ hs h;exact h.elim
def EJ(hW:Dr FF)(hF:Ok F){c:Code}{Q:Exit->Act->World->Prop}(hd:drawn c=false)(hs:S3 F ds e a)
 (h:den F c (λex e w=>∀a,S3 F ds e a->Q ex a w) e w):c.wpIn FF n F.P Q a w:=
 wpIn_mono (ab4 hW hF c _ e a w hd hs h) (by rintro ex a' w' ⟨⟨e',fF,hq⟩,-⟩;exact hq a' fF)
def AU(hW:Dr FF)(hF:Ok F){x y:Code}{Q:Exit->Act->World->Prop}(hd:drawn x=false)(hs:S3 F ds e a)
 (h:den F x (λex e w=>∀a,S3 F ds e a->Exit.then (y.wpIn FF n F.P Q) Q ex a w) e w):(x.seq y).wpIn FF n F.P Q a w:=
 wpIn_seq (EJ hW hF hd hs h)
end
def GJ:Code->Code| .seq x _=>x|c=>c
def yW:Code->Code| .seq _ y=>y|c=>c
def inC:Code->Code| .block _ c=>c| .loop c=>c|c=>c
def ahU:Code->Code| .rangeFunc _ _ a _=>a|c=>c
def ahQ:Code->Code| .rangeFunc _ _ _ b=>b|c=>c
def Gd:Code->Array Oper| .region _ ops _=>ops|_=>#[]
end Go.Den
