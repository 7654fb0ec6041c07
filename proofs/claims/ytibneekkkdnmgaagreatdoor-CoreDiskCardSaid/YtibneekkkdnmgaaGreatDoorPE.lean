/- Part of the proof: see the last text. -/
import Derived.Test.YtibneekkkdnmgaaGreatDoorPD
import Derived.Test.YtibneekkkdnmgaaGreatDoorPB
import Derived.Test.YtibneekkkdnmgaaGreatDoorPA
import Derived.RangeFuncRecord
import Derived.RangeFuncCalls
import Derived.OrdersIn
import Derived.TacticsIn
set_option linter.all false
set_option maxRecDepth 100000
set_option synthInstance.maxSize 100000
open Bool renaming eq_iff_iff→cf,false_ne_true→cN,false_eq_true→cJ,and_eq_true→dI,true_and→eG,false_and→fV
open Decidable renaming not_not→bm
open Go.IntKind renaming i64→aa
open Int renaming toNat_natCast→ak,tmod_eq_emod_of_nonneg→dX,fdiv_eq_ediv_of_nonneg→HH,eq_ofNat_of_zero_le→bt,le_refl→tw
open List renaming getElem?_eq_getElem→aj,getElem?_eq_some_iff→ao,length_append→aw,length_take→aD,take_length→aS,take_add_one→bg,append_nil→bO,getElem_mem→bP,length_map→bU,take_append_drop→dy,drop_eq_getElem_cons→ij,getElem?_append_right→iW,getElem?_drop→sJ,perm_append_comm→bp,map_append→cY,length_cons→bE,length_nil→cO,Perm→bZ,nil_append→cw,mem_of_getElem?→bD,mem_or_eq_of_mem_set→eE,length_set→jm,append_assoc→aI,length_drop→aT,Sublist→bj,map_cons→cW,mem_cons_of_mem→iy,drop_zero→jn,mem_cons→kf,take_zero→ox,mem_cons_self→qa,length_singleton→qg,mem_map→cA,mem_append→dF,find?_eq_none→nJ,set_set→jM,getElem?_append_left→bh,getElem?_cons_succ→bT,take_of_length_le→bS,getElem?_set→da,drop_of_length_le→gL,drop_drop→kd,getElem?_of_mem→qM,take_take→yO,flatMap_cons→iY,filter_cons_of_pos→lQ,filter_cons_of_neg→lR,flatMap_append→gA,getElem?_map→eo,getElem?_range→rD,map_congr_left→eg,map_map→pD,perm_middle→iq,mem_filter→qy,map_nil→uS,cons_append→lV,range→pZ,getElem?_take→sH
open Nat renaming zero_le→aE,add_zero→eL,sub_self→mg,min_eq_left→rr,zero_add→aC,le_refl→aH,pow_succ→AB,pow_le_pow_right→gS,mul_le_mul_right→iI,add_mul→mA,mul_comm→wN,le_trans→AD,mod_eq_of_lt→fN,eq_of_beq_eq_true→fa,beq→iJ
open Option renaming map_some→fw,some→aY
namespace Go.Up
open Go.Sep Go.Den Go.RowKit Go.Prog Go.Md Go.cF
def wu{α:Type}(f:α->α)(i:Nat)(l:List α):List α:=(l.take i).map f++l.drop i
def S7{α:Type}{f:α->α}{i:Nat}{l:List α}:(wu f i l).length=l.length:=by unfold wu;rw[aw,bU,<-aw,dy]
def O'{α:Type}{f:α->α}{l:List α}:wu f 0 l=l:=rfl
def S8{α:Type}{f:α->α}{l:List α}:wu f l.length l=l.map f:=by unfold wu;rw[aS,List.drop_length,bO]
def MR{α:Type}{f:α->α}{i:Nat}{l:List α}{x:α}(hx:l[i]?=some x):(wu f i l)[i]?=some x:=by
 obtain⟨hi,he⟩:=ao.1 hx;unfold wu;rw[iW (by simp;omega),bU,aD,rr (by omega),mg,sJ,eL];exact hx
def Jq{α:Type}{f:α->α}{i:Nat}{l:List α}{x:α}(hx:l[i]?=some x):(wu f i l).set i (f x)=wu f (i+1) l:=by
 obtain⟨hi,he⟩:=ao.1 hx;unfold wu;have h1:((l.take i).map f).length=i:=by rw[bU,aD,rr (by omega)]
 rw[List.set_append_right _ _ (by omega),h1,mg,ij hi,List.set_cons_zero,bg,hx];simp
def Pa{α:Type}{f:α->α}{i:Nat}{l:List α}{x:α}(hx:l[i]?=some x)(hf:f x=x):wu f (i+1) l=wu f i l:=by
 rw[<-Jq hx,hf];have:=MR (f:=f) hx;obtain⟨hi,he⟩:=ao.1 this;rw[<-he,List.set_getElem_self]
section
variable {W:World} {L R:LH} {K:VK} {X:WK} {p:Nat} {m:aA} {mb kb:OA} {mc kc:Nat} {a:bJ} {t:cM}
def C7(hm:m.ax.length<1000000)(hb:∀k∈m.ax,aa.wrap (k.move.jh+k.move.cn)=k.move.jh+k.move.cn)
 (h:T W (ML p {m with ax:=m.ax.map (GX m.clock)} mb mc kb kc R) (K (.tuple ⟨[]⟩))):T W (ML p m mb mc kb kc R) (cR (ah p) K):=by
 unfold cR;apply ws;intros;intro w jO;refine⟨λvv w=>∃(i:Nat)(l:List ch),i<=m.ax.length/\l=wu (GX m.clock) i m.ax/\vv=[.l kb m.ax.length kc,.i (m.ax.length:Int),.i (i:Int)]/\St W w (Sep.pt p (HA m mb mc kb kc)::own mb m.cE.length mc 14 (m.cE.flatMap aL)::own kb m.ax.length kc 33 (l.flatMap bF)::R),
  λvs _=>match vs with|[_,_,.int _ d]=>m.ax.length-d.toNat|_=>0,⟨0,m.ax,aE _,O'.symm,rfl,jO⟩,?_⟩
 rintro jT jd ku n1 n2 w2 ⟨i,l,hi,hl,e,hO⟩;cases e
 refine T.at ?_ hO;have e5:=nK i;have Jk:l.length=m.ax.length:=by rw[hl];exact S7
 apply ga<;>intro g1
 ·have bX:i<m.ax.length:=by omega
  have gx:=aj bX;have hbx:=hb _ (bP bX);generalize m.ax[i]=x at gx hbx;have gl:l[i]?=some x:=by rw[hl];exact MR gx
  refine dL (b:=kb) ⟨by omega,by omega⟩ λrb wX=>?_;rw[ak];subst wX;refine gT jH gl ?_;have main:∀(r1:Nat)(b1:Bool),b1=decide (kJ m.clock x)->T W (Sep.pt r1 (bF x)::Sep.pt p (HA m mb mc (ah rb) kc)::own mb m.cE.length mc 14 (m.cE.flatMap aL)::own (ah rb) m.ax.length kc 33 (l.flatMap bF)::R)
                                                      (cR.j1 K (ah p) (i:Int) (λvv w=>∃(i:Nat)(l:List ch),i<=m.ax.length/\l=wu (GX m.clock) i m.ax/\vv=[.l (ah rb) m.ax.length kc,.i (m.ax.length:Int),.i (i:Int)]/\St W w (Sep.pt p (HA m mb mc (ah rb) kc)::own mb m.cE.length mc 14 (m.cE.flatMap aL)::own (ah rb) m.ax.length kc 33 (l.flatMap bF)::R)) (ah rb) m.ax.length kc (m.ax.length:Int) (λvs _=>match vs with|[_,_,.int _ d]=>m.ax.length-d.toNat|_=>0) w2 b1):=λr1 b1 O9=>by
   unfold cR.j1;rw[e5];cases b1 with
   |true=>
    have YL:=aR O9.symm;apply ws;intros;refine dL (b:=ah rb) ⟨by omega,by omega⟩ λrb2 wX=>?_;cases wX
    rw[ak];refine Qh ?_;refine FO (o:=i) (x:=x) (y:={x with fate:=4}) jH gl rfl (by decide) rfl ?_;refine T.drop λw3 h3=>⟨⟨i+1,_,bX,?_,rfl,h3⟩,by show m.ax.length-((i+1:Nat):Int).toNat<m.ax.length-(i:Int).toNat;omega⟩;rw[<-Jq gx,hl];unfold GX;rw[ai YL]
   |false=>
    have YL:=bn O9.symm;rw[eK];refine T.drop λw3 h3=>⟨⟨i+1,_,bX,?_,rfl,h3⟩,by show m.ax.length-((i+1:Nat):Int).toNat<m.ax.length-(i:Int).toNat;omega⟩;rw[Pa gx (by unfold GX;rw[ag YL]),hl]
  apply ws;intros;apply dj<;>intro g2
  ·have g2:x.fate=1:=by simpa using g2
   apply ws;intros;apply ga<;>intro g3
   ·apply ws;intros;rw[hbx];refine main _ _ ?_;rw[decide_eq_decide];exact⟨λhh=>⟨g2,g3,hh⟩,λhh=>hh.2.2⟩
   ·exact main _ _ (ar (λhh=>g3 hh.2.1)).symm
  ·have g2: ¬x.fate=1:=by simpa using g2
   exact main _ _ (ar (λhh=>g2 hh.1)).symm
 ·have jk:i=m.ax.length:=by omega
  subst jk;rw[S8] at hl;subst hl;unfold ML HA at h;simp only[bU] at h;exact h
instance acM{m:aA}{mb kb:OA}{mc kc:Nat}{c:Int}:Wr (HA m mb mc kb kc) 2 [.i c] (HA {m with clock:=c} mb mc kb kc):=⟨rfl,by show 3<=4;decide,λv h=>by simp at h;subst h;rfl⟩
def X5{now:Int}(hm:m.ax.length<1000000)(hb:∀k∈m.ax,aa.wrap (k.move.jh+k.move.cn)=k.move.jh+k.move.cn)
 (h:T W (ML p (m.time now) mb mc kb kc R) (K (.tuple ⟨[]⟩))):T W (ML p m mb mc kb kc R) (kR (ah p) now K):=by
 unfold kR;rw[JS] at h;unfold ve at h;apply ws;intros;apply ga<;>intro g1
 ·apply ga<;>intro g2
  ·rw[ai ⟨g1,g2⟩] at h;apply ws;intros;refine C7 (m:={m with clock:=now}) hm hb ?_;apply ws;intros;exact h
  ·rw[ag (λhh=>g2 hh.2)] at h;refine C7 hm hb ?_;apply ws;intros;exact h
 ·rw[ag (λhh=>g1 hh.1)] at h;refine C7 hm hb ?_;apply ws;intros;exact h
end
def yF{f b:Int}(h0:0<=f)(h1:f<1000000)(hb:1<=b):aa.wrap (f.tdiv b)=f/b:=by
 rw[Int.tdiv_eq_ediv_of_nonneg h0];have h2:=Int.ediv_nonneg h0 (show 0<=b by omega);have h3:=Int.ediv_le_self b h0;exact aW (by omega)
def PF{f b:Int}(h0:0<=f)(h1:f<1000000)(hb:1<=b):(((aa.wrap (f.tdiv b)).tmod (2:Int))==1)=decide (has f b):=by
 rw[yF h0 h1 hb,dX (Int.ediv_nonneg h0 (by omega))];rw[cf,wO,decide_eq_true_eq];exact Iff.rfl
section
variable {W:World} {L R:LH} {K:VK} {X:WK} {a b:bJ} {t u:cM}
def L6{f n:Int}(h0:0<=f/\f<1000000)(hn:1<=n)(h:T W L (K (.b (decide (has f n))))):T W L (nj f n K):=by
 unfold nj;refine dO (by omega) ?_;refine dO (by decide) ?_;rw[PF h0.1 h0.2 hn];exact h
def OI(ha:0<=a.aq/\a.aq<256)(hb:0<=b.aq/\b.aq<256)(h:T W L (K (.i (ux a b)))):T W L (im (aL a) (aL b) K):=by
 unfold im im.j1;have e1:(aa.wrap (a.aq.tdiv 2)).tmod 4=a.aq/2%4:=by rw[yF ha.1 (by omega) (by decide),dX (by omega)]
 have e2:(aa.wrap (b.aq.tdiv 2)).tmod 4=b.aq/2%4:=by rw[yF hb.1 (by omega) (by decide),dX (by omega)]
 unfold ux at h;apply ws;intros;apply dj<;>intro g1
 ·have g1:a.ba=b.ba:=by simpa using g1
  apply ws;intros;apply dj<;>intro g2
  ·have g2:a.code=b.code:=by simpa using g2
   repeat' first|apply ws;intros|apply wb|with_reducible refine dO (by decide) ?_|fail
   apply dj<;>intro g3
   ·rw[e1,e2] at g3;have g3:a.aq/2%4=b.aq/2%4:=by simpa using g3
    rw[ai ⟨g1,g2,g3⟩] at h;exact T.dp h
   ·rw[e1,e2] at g3;have g3: ¬a.aq/2%4=b.aq/2%4:=by simpa using g3
    rw[ag (λhh=>g3 hh.2.2)] at h;exact T.dp h
  ·have g2: ¬a.code=b.code:=by simpa using g2
   rw[ag (λhh=>g2 hh.2.1)] at h;exact T.dp h
 ·have g1: ¬a.ba=b.ba:=by simpa using g1
  rw[ag (λhh=>g1 hh.1)] at h;apply ws;intros;exact T.dp h
def lE{n:Int}(h0:0<=t.aq/\t.aq<1000000)(hn:1<=n)(h:T W L (K (.b (decide (has t.aq n))))):T W L (bW (aM t) n K):=by
 unfold bW;apply ws;intros;refine dO (by omega) ?_;refine dO (by decide) ?_;rw[PF h0.1 h0.2 hn];exact T.dp h
def xo(h0:0<=t.aq/\t.aq<1000000)(h:T W L (K (.b (decide (ke t.aq))))):T W L (gZ (aM t) K):=by
 unfold gZ;apply ws;intros;refine lE h0 (by decide) ?_;apply ws;intros;by_cases h4:has t.aq 4
 ·rw[av (show ke t.aq from .inl h4)] at h;rw[av h4];apply ws;intros;exact T.dp h
 ·rw[ar h4];apply ws;intros;refine lE h0 (by decide) ?_;apply ws;intros;have e:decide (ke t.aq)=decide (has t.aq 8):=by rw[decide_eq_decide];exact⟨λhh=>hh.resolve_left h4,.inr⟩
  rw[e] at h;exact T.dp h
end
def sL(x:Int):IntKind.u64.wrap x=x%18446744073709551616:=by
 unfold IntKind.wrap;simp[IntKind.signed,IntKind.bits]
section
variable {W:World} {L R:LH} {K:VK} {X:WK} {a b:Nat}
def Bb{r3:Nat}{n1 n2 n7:Int}{b1:Bool}(hb:b1=decide (¬a+b<bG))(h0: ¬b1=true->n7=(((a+b)/18446744073709551616:Nat):Int)/\IntKind.u64.wrap (n1+n2)=(((a+b)%18446744073709551616:Nat):Int))
 (h:T W L (K (.tuple ⟨[.agg ⟨nm (add a b)⟩,.b (decide (a+b<bG))]⟩))):T W (Sep.pt r3 [.u 0,.u 0]::L) (cU.j1 K r3 n1 n2 n7 b1):=by
 unfold cU.j1;unfold add at h;cases b1 with
 |true=>
  have hb:=aR hb.symm;rw[ag hb,ar hb] at h;apply ws;intros;exact T.dp h
 |false=>
  have hb:=bn hb.symm;have wX:a+b<bG:=by omega
  rw[ai wX,av wX] at h;obtain⟨e1,e2⟩:=h0 (by decide);rw[e1,e2];apply ws;intros;exact T.dp h
def qE(ha:a<bG)(hb:b<bG)(h:T W L (K (.tuple ⟨[.agg ⟨nm (add a b)⟩,.b (decide (a+b<bG))]⟩))):T W L (cU (nm a) (nm b) K):=by
 unfold cU;unfold nm;unfold bG at ha hb;have e1:IntKind.u64.wrap (((a%18446744073709551616:Nat):Int)+((b%18446744073709551616:Nat):Int))=(((a+b)%18446744073709551616:Nat):Int):=by rw[sL];omega
 apply ws;intros;apply ga<;>intro g1
 ·rw[e1] at g1;apply ga<;>intro g2
  ·rw[sL] at g2;refine Bb (a:=a) (b:=b) (av (by unfold bG;omega)).symm (λhh=>aQ rfl hh) ?_;exact T.dp h
  ·rw[sL] at g2;refine Bb (a:=a) (b:=b) ?_ (λhh=>⟨?_,e1⟩) ?_
   ·rw[cf,wO,decide_eq_true_eq,sL,sL];unfold bG;omega
   ·rw[wO,sL,sL] at hh;rw[sL,sL];omega
   ·exact T.dp h
 ·rw[e1] at g1;refine Bb (a:=a) (b:=b) ?_ (λhh=>⟨?_,e1⟩) ?_
  ·rw[decide_eq_decide,sL];unfold bG;omega
  ·rw[decide_eq_true_eq,sL] at hh;rw[sL];omega
  ·exact T.dp h
def Cd(ha:a<bG)(hb:b<bG)(h:T W L (K (.agg ⟨nm (add a b)⟩))):T W L (jW (nm a) (nm b) K):=by
 unfold jW;apply ws;intros;refine qE ha hb ?_;apply ws;intros;exact T.dp h
end
def DB(I1:LV->World->Prop)(lj:LV->World->Nat)(w2:World)(a4 a5:Addr)(qU:OA)(pn qS:Nat)(n2 n3:Int):WK:=λw3=>
 I1 [.p (some a4),.p (some a5),.l qU pn qS,.i n2,.i (aa.wrap (n3+1))] w3/\lj [.p (some a4),.p (some a5),.l qU pn qS,.i n2,.i (aa.wrap (n3+1))] w3<lj [.p (some a4),.p (some a5),.l qU pn qS,.i n2,.i n3] w2
section
variable {W w2:World} {L R:LH} {K:VK} {r2 r3 r4:Nat} {a:bJ} {k:ch} {I1:LV->World->Prop} {lj:LV->World->Nat} {a4:Addr} {qU:OA} {pn qS:Nat} {n2 n3:Int}
def WH{b:Bool}(hf:0<=a.aq/\a.aq<1000000)(hb:b=decide (kQ a.id k))
 (h:T W (Sep.pt r4 (aM k.move)::Sep.pt r3 (bF k)::Sep.pt r2 (aL {a with aq:=if kQ a.id k then a.aq%8+8 else a.aq})::L) (DB I1 lj w2 a4 (ad r2 0) qU pn qS n2 n3)):
 T W (Sep.pt r4 (aM k.move)::Sep.pt r3 (bF k)::Sep.pt r2 (aL a)::L) (au.H6 K (ad r2 0) I1 a4 qU pn qS n2 n3 lj w2 b):=by
 unfold au.H6;have e1:aa.wrap (a.aq.tmod 8+8)=a.aq%8+8:=by rw[dX hf.1];exact aW (by omega)
 cases b with
 |true=>
  rw[ai (aR hb.symm)] at h
  repeat' first|apply ws;intros|apply wb|with_reducible refine dO (by decide) ?_|fail
  rw[e1];exact h
 |false=>
  rw[ag (bn hb.symm)] at h;rw[eK];exact h
def WI{b:Bool}(hf:0<=a.aq/\a.aq<1000000)(hb:b=decide (has k.move.aq 64/\k.move.bw=a.id\/has k.move.aq 128/\k.move.aP=a.id))
 (h:T W (Sep.pt r4 (aM k.move)::Sep.pt r3 (bF k)::Sep.pt r2 (aL {a with aq:=if kQ a.id k then a.aq%8+8 else a.aq})::L) (DB I1 lj w2 a4 (ad r2 0) qU pn qS n2 n3)):
 T W (Sep.pt r4 (aM k.move)::Sep.pt r3 (bF k)::Sep.pt r2 (aL a)::L) (au.Bl K r3 (ad r2 0) I1 a4 qU pn qS n2 n3 lj w2 b):=by
 unfold au.Bl;cases b with
 |true=>
  have hc:=aR hb.symm;apply ws;intros;apply dj<;>intro g1
  ·have g1:k.fate=1:=by simpa using g1
   exact WH hf (av (show kQ a.id k from⟨hc,.inl g1⟩)).symm h
  ·have g1: ¬k.fate=1:=by simpa using g1
   apply ws;intros;refine WH hf ?_ h;rw[cf,wO,decide_eq_true_eq];exact⟨λhh=>⟨hc,.inr hh⟩,λhh=>hh.2.resolve_left g1⟩
 |false=>
  have hc:=bn hb.symm;rw[eK];exact WH hf (ar (show ¬kQ a.id k from λhh=>hc hh.1)).symm h
def aaC{b:Bool}(hf:0<=a.aq/\a.aq<1000000)(hm:0<=k.move.aq/\k.move.aq<1000000)(hb:b=decide (has k.move.aq 64/\k.move.bw=a.id))
 (h:T W (Sep.pt r4 (aM k.move)::Sep.pt r3 (bF k)::Sep.pt r2 (aL {a with aq:=if kQ a.id k then a.aq%8+8 else a.aq})::L) (DB I1 lj w2 a4 (ad r2 0) qU pn qS n2 n3)):
 T W (Sep.pt r4 (aM k.move)::Sep.pt r3 (bF k)::Sep.pt r2 (aL a)::L) (au.Jd K r3 (ad r2 0) I1 a4 qU pn qS n2 n3 lj w2 r4 b):=by
 unfold au.Jd;cases b with
 |true=>
  have hc:=aR hb.symm;rw[lz];exact WI hf (av (.inl hc)).symm h
 |false=>
  have hc:=bn hb.symm;rw[eK];apply ws;intros;refine lE hm (by decide) ?_;apply ws;intros;by_cases g1:has k.move.aq 128
  ·rw[av g1];apply ws;intros;refine WI hf ?_ h;rw[decide_eq_decide];exact⟨λhh=>.inr ⟨g1,hh⟩,λhh=>(hh.resolve_left hc).2⟩
  ·rw[ar g1];apply ws;intros;exact WI hf (ar (λhh=>g1 (hh.resolve_left hc).1)).symm h
def aia(hf:0<=a.aq/\a.aq<1000000)(hm:0<=k.move.aq/\k.move.aq<1000000)
 (h:T W (Sep.pt r4 (aM k.move)::Sep.pt r3 (bF k)::Sep.pt r2 (aL {a with aq:=if kQ a.id k then a.aq%8+8 else a.aq})::L) (DB I1 lj w2 a4 (ad r2 0) qU pn qS n2 n3)):
 T W (Sep.pt r4 (aM k.move)::Sep.pt r3 (bF k)::Sep.pt r2 (aL a)::L) (au.j9 K r4 (ad r2 0) r3 I1 a4 qU pn qS n2 n3 lj w2):=by
 unfold au.j9;apply ws;intros;refine lE hm (by decide) ?_;apply ws;intros;by_cases g1:has k.move.aq 64
 ·rw[av g1];apply ws;intros;refine aaC hf hm ?_ h;rw[decide_eq_decide];exact⟨λhh=>⟨g1,hh⟩,λhh=>hh.2⟩
 ·rw[ar g1];apply ws;intros;exact aaC hf hm (ar (λhh=>g1 hh.1)).symm h
def aib{b:Bool}(h1:a.cp<bG)(h2:k.move.aU<bG)(h:T W (Sep.pt r4 (aM k.move)::Sep.pt r3 (bF k)::Sep.pt r2 (aL {a with cp:=if b=true then add a.cp k.move.aU else a.cp})::L) (au.j9 K r4 (ad r2 0) r3 I1 a4 qU pn qS n2 n3 lj w2)):T W (Sep.pt r4 (aM k.move)::Sep.pt r3 (bF k)::Sep.pt r2 (aL a)::L) (au.j8 K (ad r2 0) r4 r3 I1 a4 qU pn qS n2 n3 lj w2 b):=by
 unfold au.j8;cases b with
 |true=>
  rw[ai rfl] at h;apply ws;intros;refine Cd h1 h2 ?_;apply ws;intros;exact h
 |false=>
  rw[ag cN] at h;rw[eK];exact h
def aic(h1:a.cp<bG)(h2:k.move.aU<bG)(h:T W (Sep.pt r4 (aM k.move)::Sep.pt r3 (bF k)::Sep.pt r2 (aL {a with cp:=if k.fate=1/\k.move.aP=a.id then add a.cp k.move.aU else a.cp})::L) (au.j9 K r4 (ad r2 0) r3 I1 a4 qU pn qS n2 n3 lj w2)):T W (Sep.pt r4 (aM k.move)::Sep.pt r3 (bF k)::Sep.pt r2 (aL a)::L) (au.j7 K r3 r4 (ad r2 0) I1 a4 qU pn qS n2 n3 lj w2):=by
 unfold au.j7;have fin:∀b:Bool,b=decide (k.fate=1/\k.move.aP=a.id)->T W (Sep.pt r4 (aM k.move)::Sep.pt r3 (bF k)::Sep.pt r2 (aL a)::L) (au.j8 K (ad r2 0) r4 r3 I1 a4 qU pn qS n2 n3 lj w2 b):=λb hb=>by
  refine aib h1 h2 ?_;have e:(if b=true then add a.cp k.move.aU else a.cp)=(if k.fate=1/\k.move.aP=a.id then add a.cp k.move.aU else a.cp):=by
   subst hb;by_cases hc:k.fate=1/\k.move.aP=a.id
   ·rw[ai (av hc),ai hc]
   ·rw[ag (by rw[ar hc];exact cN),ag hc]
  rw[e];exact h
 apply ws;intros;apply dj<;>intro g1
 ·have g1:k.fate=1:=by simpa using g1
  apply ws;intros;refine fin _ ?_;rw[decide_eq_decide];exact⟨λhh=>⟨g1,hh⟩,λhh=>hh.2⟩
 ·have g1: ¬k.fate=1:=by simpa using g1
  exact fin _ (ar (λhh=>g1 hh.1)).symm
def aid{b:Bool}(h1:a.dp<bG)(h2:k.move.aU<bG)(h:T W (Sep.pt r4 (aM k.move)::Sep.pt r3 (bF k)::Sep.pt r2 (aL {a with dp:=if b=true then add a.dp k.move.aU else a.dp})::L) (au.j7 K r3 r4 (ad r2 0) I1 a4 qU pn qS n2 n3 lj w2)):T W (Sep.pt r4 (aM k.move)::Sep.pt r3 (bF k)::Sep.pt r2 (aL a)::L) (au.j6 K (ad r2 0) r4 r3 I1 a4 qU pn qS n2 n3 lj w2 b):=by
 unfold au.j6;cases b with
 |true=>
  rw[ai rfl] at h;apply ws;intros;refine Cd h1 h2 ?_;apply ws;intros;exact h
 |false=>
  rw[ag cN] at h;rw[eK];exact h
def aie(h1:a.dp<bG)(h2:k.move.aU<bG)(h:T W (Sep.pt r4 (aM k.move)::Sep.pt r3 (bF k)::Sep.pt r2 (aL {a with dp:=if k.fate=1/\k.move.bw=a.id then add a.dp k.move.aU else a.dp})::L) (au.j7 K r3 r4 (ad r2 0) I1 a4 qU pn qS n2 n3 lj w2)):T W (Sep.pt r4 (aM k.move)::Sep.pt r3 (bF k)::Sep.pt r2 (aL a)::L) (au.j5 K r3 r4 (ad r2 0) I1 a4 qU pn qS n2 n3 lj w2):=by
 unfold au.j5;have fin:∀b:Bool,b=decide (k.fate=1/\k.move.bw=a.id)->T W (Sep.pt r4 (aM k.move)::Sep.pt r3 (bF k)::Sep.pt r2 (aL a)::L) (au.j6 K (ad r2 0) r4 r3 I1 a4 qU pn qS n2 n3 lj w2 b):=λb hb=>by
  refine aid h1 h2 ?_;have e:(if b=true then add a.dp k.move.aU else a.dp)=(if k.fate=1/\k.move.bw=a.id then add a.dp k.move.aU else a.dp):=by
   subst hb;by_cases hc:k.fate=1/\k.move.bw=a.id
   ·rw[ai (av hc),ai hc]
   ·rw[ag (by rw[ar hc];exact cN),ag hc]
  rw[e];exact h
 apply ws;intros;apply dj<;>intro g1
 ·have g1:k.fate=1:=by simpa using g1
  apply ws;intros;refine fin _ ?_;rw[decide_eq_decide];exact⟨λhh=>⟨g1,hh⟩,λhh=>hh.2⟩
 ·have g1: ¬k.fate=1:=by simpa using g1
  exact fin _ (ar (λhh=>g1 hh.1)).symm
def aif{b:Bool}(h1:a.cq<bG)(h2:k.move.aU<bG)(h:T W (Sep.pt r4 (aM k.move)::Sep.pt r3 (bF k)::Sep.pt r2 (aL {a with cq:=if b=true then add a.cq k.move.aU else a.cq})::L) (au.j5 K r3 r4 (ad r2 0) I1 a4 qU pn qS n2 n3 lj w2)):T W (Sep.pt r4 (aM k.move)::Sep.pt r3 (bF k)::Sep.pt r2 (aL a)::L) (au.j4 K (ad r2 0) r4 r3 I1 a4 qU pn qS n2 n3 lj w2 b):=by
 unfold au.j4;cases b with
 |true=>
  rw[ai rfl] at h;apply ws;intros;refine Cd h1 h2 ?_;apply ws;intros;exact h
 |false=>
  rw[ag cN] at h;rw[eK];exact h
def aih{b1:Bool}(h1:a.cq<bG)(h2:k.move.aU<bG)(h:T W (Sep.pt r4 (aM k.move)::Sep.pt r3 (bF k)::Sep.pt r2 (aL {a with cq:=if b1=true/\k.move.aP=a.id then add a.cq k.move.aU else a.cq})::L) (au.j5 K r3 r4 (ad r2 0) I1 a4 qU pn qS n2 n3 lj w2)):T W (Sep.pt r4 (aM k.move)::Sep.pt r3 (bF k)::Sep.pt r2 (aL a)::L) (au.j3 K b1 r4 (ad r2 0) r3 I1 a4 qU pn qS n2 n3 lj w2):=by
 unfold au.j3;have fin:∀b:Bool,b=decide (b1=true/\k.move.aP=a.id)->T W (Sep.pt r4 (aM k.move)::Sep.pt r3 (bF k)::Sep.pt r2 (aL a)::L) (au.j4 K (ad r2 0) r4 r3 I1 a4 qU pn qS n2 n3 lj w2 b):=λb hb=>by
  refine aif h1 h2 ?_;have e:(if b=true then add a.cq k.move.aU else a.cq)=(if b1=true/\k.move.aP=a.id then add a.cq k.move.aU else a.cq):=by
   subst hb;by_cases hc:b1=true/\k.move.aP=a.id
   ·rw[ai (av hc),ai hc]
   ·rw[ag (by rw[ar hc];exact cN),ag hc]
  rw[e];exact h
 cases b1 with
 |true=>
  apply ws;intros;refine fin _ ?_;rw[decide_eq_decide];exact⟨λhh=>⟨rfl,hh⟩,λhh=>hh.2⟩
 |false=>
  rw[eK];exact fin _ (ar (λhh=>cN hh.1)).symm
def aii{b:Bool}{b1:Bool}(h1:a.dq<bG)(h2:k.move.aU<bG)(h:T W (Sep.pt r4 (aM k.move)::Sep.pt r3 (bF k)::Sep.pt r2 (aL {a with dq:=if b=true then add a.dq k.move.aU else a.dq})::L) (au.j3 K b1 r4 (ad r2 0) r3 I1 a4 qU pn qS n2 n3 lj w2)):T W (Sep.pt r4 (aM k.move)::Sep.pt r3 (bF k)::Sep.pt r2 (aL a)::L) (au.j2 K (ad r2 0) r4 b1 r3 I1 a4 qU pn qS n2 n3 lj w2 b):=by
 unfold au.j2;cases b with
 |true=>
  rw[ai rfl] at h;apply ws;intros;refine Cd h1 h2 ?_;apply ws;intros;exact h
 |false=>
  rw[ag cN] at h;rw[eK];exact h
def aij{b1:Bool}(h1:a.dq<bG)(h2:k.move.aU<bG)(h:T W (Sep.pt r4 (aM k.move)::Sep.pt r3 (bF k)::Sep.pt r2 (aL {a with dq:=if b1=true/\k.move.bw=a.id then add a.dq k.move.aU else a.dq})::L) (au.j3 K b1 r4 (ad r2 0) r3 I1 a4 qU pn qS n2 n3 lj w2)):T W (Sep.pt r4 (aM k.move)::Sep.pt r3 (bF k)::Sep.pt r2 (aL a)::L) (au.j1 K r4 (ad r2 0) r3 I1 a4 qU pn qS n2 n3 lj w2 b1):=by
 unfold au.j1;have fin:∀b:Bool,b=decide (b1=true/\k.move.bw=a.id)->T W (Sep.pt r4 (aM k.move)::Sep.pt r3 (bF k)::Sep.pt r2 (aL a)::L) (au.j2 K (ad r2 0) r4 b1 r3 I1 a4 qU pn qS n2 n3 lj w2 b):=λb hb=>by
  refine aii h1 h2 ?_;have e:(if b=true then add a.dq k.move.aU else a.dq)=(if b1=true/\k.move.bw=a.id then add a.dq k.move.aU else a.dq):=by
   subst hb;by_cases hc:b1=true/\k.move.bw=a.id
   ·rw[ai (av hc),ai hc]
   ·rw[ag (by rw[ar hc];exact cN),ag hc]
  rw[e];exact h
 cases b1 with
 |true=>
  apply ws;intros;refine fin _ ?_;rw[decide_eq_decide];exact⟨λhh=>⟨rfl,hh⟩,λhh=>hh.2⟩
 |false=>
  rw[eK];exact fin _ (ar (λhh=>cN hh.1)).symm
end
def NH(a:bJ):Prop:=a.dp<bG/\a.dq<bG/\a.cp<bG/\a.cq<bG/\0<=a.aq/\a.aq<1000000
def RkK(k:ch):Prop:=k.move.aU<bG/\0<=k.move.aq/\k.move.aq<1000000
def Hj(a b:Nat):add a b<bG:=by
 unfold add;split
 ·assumption
 ·unfold bG;decide
def X4{a:bJ}{k:ch}(h:NH a):NH (xn a k):=by
 obtain⟨h1,h2,h3,h4,h5,h6⟩:=h;refine⟨?_,?_,?_,?_,?_,?_⟩
 ·show(if _ then _ else _)<bG;split;exact Hj _ _;exact h1
 ·show(if _ then _ else _)<bG;split;exact Hj _ _;exact h2
 ·show(if _ then _ else _)<bG;split;exact Hj _ _;exact h3
 ·show(if _ then _ else _)<bG;split;exact Hj _ _;exact h4
 ·show 0<=(if kQ a.id k then a.aq%8+8 else a.aq);split<;>omega
 ·show(if kQ a.id k then a.aq%8+8 else a.aq)<1000000;split<;>omega
def LZ{a:bJ}(l:List ch)(h:NH a):NH (l.foldl xn a):=by
 induction l generalizing a with
 |nil=>exact h
 |cons k l ih=>exact ih (X4 h)
section
variable {W w2:World} {L R:LH} {K:VK} {r2 r3 r4 p:Nat} {a:bJ} {k:ch} {m:aA} {mb kb:OA} {mc kc:Nat} {I1:LV->World->Prop} {lj:LV->World->Nat} {a4:Addr} {qU:OA} {pn qS:Nat} {n2 n3:Int}
def acy{b1:Bool}(ha:NH a)(hk:RkK k)(hb:b1=decide (jo k))
 (h:T W (Sep.pt r4 (aM k.move)::Sep.pt r3 (bF k)::Sep.pt r2 (aL (xn a k))::L) (DB I1 lj w2 a4 (ad r2 0) qU pn qS n2 n3)):
 T W (Sep.pt r4 (aM k.move)::Sep.pt r3 (bF k)::Sep.pt r2 (aL a)::L) (au.j1 K r4 (ad r2 0) r3 I1 a4 qU pn qS n2 n3 lj w2 b1):=by
 obtain⟨h1,h2,h3,h4,h5,h6⟩:=ha;obtain⟨k1,k2,k3⟩:=hk;have e:∀(P:Prop) [Decidable P](x y:Nat),(if b1=true/\P then x else y)=if jo k/\P then x else y:=λP _ x y=>by
  subst hb;by_cases hc:jo k
  ·by_cases hp:P
   ·rw[ai ⟨av hc,hp⟩,ai ⟨hc,hp⟩]
   ·rw[ag (λhh=>hp hh.2),ag (λhh=>hp hh.2)]
  ·rw[ag (λhh=>hc (aR hh.1)),ag (λhh=>hc hh.1)]
 refine aij h2 k1 ?_;refine aih h4 k1 ?_;refine aie h1 k1 ?_;refine aic h3 k1 ?_;refine aia (show 0<=a.aq/\a.aq<1000000 from⟨h5,h6⟩) ⟨k2,k3⟩ ?_;rw[e,e];exact h
def Cb{i:Nat}(hn:m.ax.length<1000000)(hx:m.cE[i]?=some a)(ha:NH a)(hk:∀k∈m.ax,RkK k)
 (h:T W (ML p m mb mc kb kc R) (K (.agg ⟨aL (m.ax.foldl xn a)⟩))):T W (ML p m mb mc kb kc R) (au (ah p) (i:Int) K):=by
 unfold au;have SX:=(ao.1 hx).1;apply ws;intros;rename_i r1;refine dL (b:=mb) ⟨by omega,by omega⟩ λrb hb=>?_;rw[ak];subst hb;refine gT j0 hx ?_;apply ws;intros;rename_i r2;intro w jO;refine⟨λvv w=>∃j:Nat,j<=m.ax.length/\vv=[.p (some (ad r1 0)),.p (some (ad r2 0)),.l kb m.ax.length kc,.i (m.ax.length:Int),.i (j:Int)]/\St W w (Sep.pt r2 (aL ((m.ax.take j).foldl xn a))::Sep.pt r1 (aL zA)::ML p m (ah rb) mc kb kc R),
  λvs _=>match vs with|[_,_,_,_,.int _ d]=>m.ax.length-d.toNat|_=>0,⟨0,aE _,rfl,jO⟩,?_⟩
 rintro a4 a5 qU pn qS n2 n3 w2 ⟨j,hj,e,hO⟩;cases e
 refine T.at ?_ hO;have e5:=nK j;apply ga<;>intro g1
 ·have bX:j<m.ax.length:=by omega
  have gx:=aj bX;have Vx:=hk _ (bP bX);generalize m.ax[j]=x at gx Vx;refine dL (b:=kb) ⟨by omega,by omega⟩ λrk wX=>?_;rw[ak];subst wX;refine gT jH gx ?_;apply ws;intros;rename_i r3 r4;have afK:=LZ (m.ax.take j) ha;have gM:(m.ax.take (j+1)).foldl xn a=xn ((m.ax.take j).foldl xn a) x:=by rw[bg,gx,List.foldl_append];rfl
  have fin:∀b1:Bool,b1=decide (jo x)->T W (Sep.pt r4 (aM x.move)::Sep.pt r3 (bF x)::Sep.pt r2 (aL ((m.ax.take j).foldl xn a))::Sep.pt r1 (aL zA)::ML p m (ah rb) mc (ah rk) kc R)
   (au.j1 K r4 (ad r2 0) r3 (λvv w=>∃j:Nat,j<=m.ax.length/\vv=[.p (some (ad r1 0)),.p (some (ad r2 0)),.l (ah rk) m.ax.length kc,.i (m.ax.length:Int),.i (j:Int)]/\St W w (Sep.pt r2 (aL ((m.ax.take j).foldl xn a))::Sep.pt r1 (aL zA)::ML p m (ah rb) mc (ah rk) kc R)) (ad r1 0) (ah rk) m.ax.length kc (m.ax.length:Int) (j:Int) (λvs _=>match vs with|[_,_,_,_,.int _ d]=>m.ax.length-d.toNat|_=>0) w2 b1):=λb1 O9=>by
   refine acy afK Vx O9 ?_;unfold DB;rw[e5];refine T.drop (T.drop λw3 h3=>⟨⟨j+1,bX,rfl,by rw[gM];exact h3⟩,by show m.ax.length-((j+1:Nat):Int).toNat<m.ax.length-(j:Int).toNat;omega⟩)
  refine lE ⟨Vx.2.1,Vx.2.2⟩ (by decide) ?_;apply ws;intros;by_cases g2:has x.move.aq 2
  ·rw[av g2];apply ws;intros;exact fin _ (ar (λhh=>hh.1 g2)).symm
  ·rw[ar g2];apply ws;intros;refine lE ⟨Vx.2.1,Vx.2.2⟩ (by decide) ?_;apply ws;intros;refine fin _ ?_;by_cases g3:has x.move.aq 8
   ·rw[av g3];exact(ar (λhh=>hh.2 g3)).symm
   ·rw[ar g3];exact(av (show jo x from⟨g2,g3⟩)).symm
 ·have jk:j=m.ax.length:=by omega
  subst jk;rw[aS];apply ws;intros;exact T.dp h
def DT(hm:m.cE.length<1000000)(hn:m.ax.length<1000000)(ha:∀a∈m.cE,NH a)(hk:∀k∈m.ax,RkK k)
 (h:∀ob oc,T W (ML p m mb mc kb kc (own ob m.cE.length oc 14 ((m.cE.map m.full).flatMap aL)::R)) (K (.l ob m.cE.length oc))):T W (ML p m mb mc kb kc R) (il (ah p) K):=by
 unfold il;apply ws;intros;refine iB (e:=14) ?_;refine T.perm (L:=ML p m mb mc kb kc (own none 0 0 14 []::R)) ?_ (bp (l₁:=[own none 0 0 14 []]) (l₂:=[_,_,_])|>.append_right R);intro w jO;refine⟨λvv w=>∃(i:Nat)(ob:OA)(oc:Nat)(out:List bJ),i<=m.cE.length/\out=(m.cE.take i).map m.full/\vv=[.l none 0 0,.l ob i oc,.i (m.cE.length:Int),.i (i:Int)]/\St W w (ML p m mb mc kb kc (own ob i oc 14 (out.flatMap aL)::R)),
  λvs _=>match vs with|[_,_,_,.int _ d]=>m.cE.length-d.toNat|_=>0,⟨0,none,0,[],aE _,rfl,rfl,jO⟩,?_⟩
 rintro jT jd ku ob i oc n1 n2 w2 ⟨i0,ob0,oc0,out,hi,zf,e,hO⟩;cases e
 refine T.at ?_ hO;have e5:=nK i;apply ga<;>intro g1
 ·have bX:i<m.cE.length:=by omega
  have gx:=aj bX;have hax:=ha _ (bP bX);generalize m.cE[i]=x at gx hax;refine Cb hn gx hax hk ?_;apply ws;intros;refine jS (g:=aL) (l:=out) (x:=m.full x) (bO _) rfl rfl (by omega) (by omega) (iT _) λb' c'=>?_;rw[e5];refine T.drop λw3 h3=>⟨⟨i+1,b',c',out++[m.full x],bX,?_,rfl,h3⟩,by show m.cE.length-((i+1:Nat):Int).toNat<m.cE.length-(i:Int).toNat;omega⟩;rw[bg,gx,cY,zf];rfl
 ·have jk:i=m.cE.length:=by omega
  subst jk;rw[aS] at zf;subst zf;exact h ob oc
end
instance acL{m:aA}{mb kb:OA}{mc kc:Nat}{c:Int}:Wr (HA m mb mc kb kc) 3 [.i c] (HA {m with ay:=c} mb mc kb kc):=⟨rfl,by show 4<=4;decide,λv h=>by simp at h;subst h;rfl⟩
instance adr{m:aA}{mb kb b:OA}{mc kc n c:Nat}:Wr (HA m mb mc kb kc) 1 [.l b n c] [.l mb m.cE.length mc,.l b n c,.i m.clock,.i m.ay]:=⟨rfl,by show 2<=4;decide,λv h=>by simp at h;subst h;rfl⟩
instance adq{m:aA}{mb kb b:OA}{mc kc n c:Nat}:Wr (HA m mb mc kb kc) 0 [.l b n c] [.l b n c,.l kb m.ax.length kc,.i m.clock,.i m.ay]:=⟨rfl,by show 1<=4;decide,λv h=>by simp at h;subst h;rfl⟩
section
variable {W w2:World} {L R:LH} {K:VK} {p:Nat} {a:bJ} {t u:cM} {m:aA} {mb kb:OA} {mc kc:Nat}
def Kc{fate:Int}(hn:m.ax.length<1000000)(hs:0<=m.ay/\m.ay<1000000)
 (h:∀b c,T W (ML p (m.kY t u fate) mb mc b c R) (K (.tuple ⟨[]⟩))):T W (ML p m mb mc kb kc R) (iv (ah p) (aM t) (aM u) fate K):=by
 unfold iv;have e1:aa.wrap (m.ay+1)=m.ay+1:=aW (by omega);apply ws;intros;rw[e1];refine jS (b:=kb) (g:=bF) (l:=m.ax) (x:=⟨t,{u with ay:=m.ay+1,jh:=m.clock},fate⟩) (bO _) rfl rfl (by show(m.ax.length+1)* 264<=_;omega) (by show m.ax.length+1<=_;omega) (ni _) λb' c'=>?_;apply ws;intros;have:=h b' c';unfold aA.kY ML HA at this;simp only[aw,bE,cO,aC] at this;refine T.sub this ?_;exact qo
end
section
variable {W:World} {L R:LH} {K:VK} {X:WK} {p r e:Nat} {A B:HP} {m:aA} {mb kb:OA} {mc kc:Nat}
def CW(e:Nat)(h:T W (own (ah r) 0 0 e []::L) X):T W (Sep.pt r []::L) X:=λw hs=>
 h w (St.C9 (k:=0) (L:=Sep.pt r []::L) (xs:=[]) (sp:=[]) (n:=0) (c:=0) (e:=e) (by simp) (by simp) (aH _) (by simp) hs)
def T.swap(h:T W (B::A::L) X):T W (A::B::L) X:=T.perm h (bZ.swap _ _ _)
def T.Uw{C:HP}(h:T W (A::C::B::L) X):T W (A::B::C::L) X:=T.perm h ((bZ.swap _ _ _).cons _)
def Ke(hm:m.cE.length<1000000)(hn:m.ax.length<1000000)
 (h:∀p2 mb2 mc2 kb2 kc2,T W (ML p2 m mb2 mc2 kb2 kc2 (ML p m mb mc kb kc R)) (K (.p (ah p2)))):T W (ML p m mb mc kb kc R) (iw (ah p) K):=by
 unfold iw
 repeat' first|apply ws;intros|apply wb
 ·rename_i r1;refine CW 14 ?_;refine se (l0:=([]:List bJ)) (l1:=m.cE) j0 rfl (by omega) iT λb2 c2=>?_;rw[aC,cw];apply ws;intros;refine CW 33 ?_;refine se (l0:=([]:List ch)) (l1:=m.ax) jH rfl (by omega) ni λb3 c3=>?_;rw[aC,cw];apply ws;intros;exact T.Uw (h _ _ _ _ _)
 ·rename_i r1 r4;refine T.swap ?_;refine CW 14 ?_;refine se (l0:=([]:List bJ)) (l1:=m.cE) j0 rfl (by omega) iT λb2 c2=>?_;rw[aC,cw];refine T.swap ?_;apply ws;intros;refine CW 33 ?_;refine se (l0:=([]:List ch)) (l1:=m.ax) jH rfl (by omega) ni λb3 c3=>?_;rw[aC,cw];apply ws;intros;exact T.Uw (h _ _ _ _ _)
 ·rename_i r6 r7;refine CW 14 ?_;refine se (l0:=([]:List bJ)) (l1:=m.cE) j0 rfl (by omega) iT λb2 c2=>?_;rw[aC,cw];refine T.swap ?_;apply ws;intros;refine CW 33 ?_;refine se (l0:=([]:List ch)) (l1:=m.ax) jH rfl (by omega) ni λb3 c3=>?_;rw[aC,cw];apply ws;intros;exact T.Uw (h _ _ _ _ _)
end
section
variable {W:World} {L R:LH} {K:VK} {X:WK} {p r e:Nat} {a:bJ} {m:aA} {mb kb:OA} {mc kc:Nat}
def W7{ks:List ch}(hl:ks.length=m.ax.length)(h:T W (ML p {m with ax:=ks} mb mc kb kc R) X):T W (Sep.pt p (HA m mb mc kb kc)::own mb m.cE.length mc 14 (m.cE.flatMap aL)::own kb m.ax.length kc 33 (ks.flatMap bF)::R) X:=by
 unfold ML HA at h;rw[hl] at h;exact h
def Sj{Zt i id:Nat}{x:ch}(hm:m.cE.length<1000000)(hn:m.ax.length<1000000)(gx:m.ax[Zt]?=some x)(hi:GK (λx:bJ=>decide (x.id=id)) m.cE=(i:Int))(hx:m.cE[i]?=some a)(ha:NH a)(hk:∀k∈m.ax,RkK k)
 (h:T W (ML p m mb mc kb kc R) (K (.b (decide (8<=((m.ax.set Zt {x with fate:=3}).foldl xn a).aq))))):T W (ML p m mb mc kb kc R) (gR (ah p) (nm id) (Zt:Int) K):=by
 unfold gR;have hbl:=(ao.1 gx).1;have Vx:RkK x:=hk x (bD gx);apply ws;intros;rename_i r1;refine T.perm (L:=ML p m mb mc kb kc (Sep.pt r1 (nm id)::R)) ?_ (bp (l₁:=[Sep.pt r1 (nm id)]) (l₂:=[_,_,_])|>.append_right R);refine Ke hm hn λp2 mb2 mc2 kb2 kc2=>?_;apply ws;intros;refine dL (b:=kb2) ⟨by omega,by omega⟩ λrb hb=>?_;rw[ak];subst hb;refine Qh ?_;refine FO (o:=Zt) (x:=x) (y:={x with fate:=3}) jH gx rfl (by decide) rfl ?_;apply ws;intros;refine W7 (ks:=m.ax.set Zt {x with fate:=3}) jm ?_;refine yi (m:={m with ax:=m.ax.set Zt {x with fate:=3}}) hm ?_;rw[hi];apply ws;intros;refine Cb (m:={m with ax:=m.ax.set Zt {x with fate:=3}}) (by rw[jm];exact hn) hx ha (λk q8=>?_) ?_
 ·rcases eE q8 with hh|hh
  ·exact hk k hh
  ·subst hh;exact Vx
 apply ws;intros;intro w hw;refine⟨_,rfl,?_⟩
 revert w hw
 show T W _ _;apply ws;intros;refine T.sub h ?_;exact qo
end
section
variable {W:World} {L R:LH} {K:VK} {X:WK} {t u:cM}
def So(h:T W L (K (.agg ⟨nm (bG-1)⟩))):T W L (oH K):=by
 unfold oH;apply ws;intros;exact T.dp h
def Gl(ht:0<=t.aq/\t.aq<1000000)(hu:0<=u.aq/\u.aq<1000000)(h:T W L (K (.i (tt t u)))):T W L (lK (aM t) (aM u) K):=by
 unfold lK;unfold tt at h
 repeat' first|apply ws;intros|apply wb|with_reducible refine dO (by decide) ?_|fail
 rw[yF ht.1 ht.2 (by decide)]
 repeat' first|apply ws;intros|apply wb|with_reducible refine dO (by decide) ?_|fail
 rw[yF hu.1 hu.2 (by decide)]
 repeat' first|apply ws;intros|apply wb|with_reducible refine Qm ?_|fail
 apply ga<;>intro g1
 ·rw[ai g1] at h;exact T.dp h
 ·rw[ag g1] at h;exact T.dp h
end
def Qv{m j:Nat}(hj:j<=64):shr .u64 (m:Int) (j:Int)=((m/2^j:Nat):Int):=by
 unfold shr;rw[ak,show min j IntKind.u64.bits=j from rr hj,HH _ (by exact Int.le_of_lt (Int.pow_pos (by decide)))];rw[show((2:Int)^j)=((2^j:Nat):Int) by push_cast;rfl];exact(Int.natCast_ediv _ _).symm
def Ry(m:Nat):aa.wrap (((m:Nat):Int).tmod (2:Int))=((m%2:Nat):Int):=by
 rw[dX (by omega)];rw[aW (by omega)];omega
section
variable {W:World} {L R:LH} {K:VK} {X:WK}
def tR{n j:Nat}(hn:n<bG)(hj:j<128)(h:T W L (K (.i ((n/2^j%2:Nat):Int)))):T W L (gr (nm n) (j:Int) K):=by
 unfold gr;unfold nm;apply ws;intros;apply ga<;>intro g1
 ·obtain⟨i,rfl⟩:∃i:Nat,j=64+i:=⟨j-64,by omega⟩;have e1:aa.wrap (((64+i:Nat):Int) -64)=(i:Int):=by rw[aW (by omega)];omega
  have e2:IntKind.u64.wrap (i:Int)=(i:Int):=by rw[Go.Up.sL];omega
  rw[e1,e2];apply ws;intros;refine dO (by omega) ?_;refine dO (by decide) ?_;rw[Qv (by omega),Ry];have e3:n/2^(64+i)=n/18446744073709551616/2^i:=by rw[Nat.div_div_eq_div_mul,Nat.pow_add]
  rw[e3] at h;exact T.dp h
 ·have e2:IntKind.u64.wrap (j:Int)=(j:Int):=by rw[Go.Up.sL];omega
  rw[e2];apply ws;intros;refine dO (by omega) ?_;refine dO (by decide) ?_;rw[Qv (by omega),Ry];have e3:n%18446744073709551616/2^j%2=n/2^j%2:=by
   rw[show(18446744073709551616:Nat)=2^j* 2^(64-j) by rw[<-Nat.pow_add,show j+(64-j)=64 by omega],Nat.mod_mul_right_div_self];exact Nat.mod_mod_of_dvd _ ⟨2^(63-j),by rw[show 64-j=1+(63-j) by omega,Nat.pow_add]⟩
  rw[e3];exact T.dp h
end
def CA(a i:Nat):a/2^i/2=a/2^(i+1):=by rw[Nat.div_div_eq_div_mul,AB]
def Vk{a b i:Nat}(h:a/2^(i+1)=b/2^(i+1))(kN:a/2^i%2≠b/2^i%2):decide (((a/2^i%2:Nat):Int)<((b/2^i%2:Nat):Int))=decide (a<b):=by
 rw[<-CA,<-CA] at h;rw[decide_eq_decide]
 constructor
 ·intro hl;have:a/2^i<b/2^i:=by omega
  exact Nat.lt_of_not_le λhh=>aQ (Nat.div_le_div_right (c:=2^i) hh) (by omega)
 ·intro hl;have:=Nat.div_le_div_right (c:=2^i) (Nat.le_of_lt hl);omega
section
variable {W:World} {L R:LH} {K:VK} {X:WK}
def uV{a b:Nat}(ha:a<bG)(hb:b<bG)(h:T W L (K (.b (decide (a<b))))):T W L (hG (nm a) (nm b) K):=by
 unfold hG;apply ws;intros;rename_i r1 r2;intro w jO;refine⟨λvv w=>∃j:Nat,j<=128/\a/2^j=b/2^j/\vv=[.p (some (ad r1 0)),.p (some (ad r2 0)),.b false,.i ((j:Int) -1)]/\St W w (Sep.pt r2 (nm b)::Sep.pt r1 (nm a)::L),
  λvs _=>match vs with|[_,_,_,.int _ d]=>(d+1).toNat|_=>0,⟨128,aH _,by rw[Nat.div_eq_of_lt (show a<2^128 from ha),Nat.div_eq_of_lt (show b<2^128 from hb)],rfl,jO⟩,?_⟩
 rintro a1 a2 b1 n1 w2 ⟨j,hj,heq,e,hO⟩;cases e
 refine T.at ?_ hO;apply ga<;>intro g1
 ·obtain⟨i,rfl⟩:∃i:Nat,j=i+1:=⟨j-1,by omega⟩;have e1:(((i+1:Nat):Int) -1)=(i:Int):=by omega
  have e2:aa.wrap ((i:Int) -1)=(i:Int) -1:=aW (by omega);rw[e1,e2];apply ws;intros;refine tR ha (by omega) ?_;apply ws;intros;refine tR hb (by omega) ?_;apply ws;intros;apply dj<;>intro g2
  ·have g2:a/2^i%2≠b/2^i%2:=λhh=>by rw[hh] at g2;simp at g2
   apply ws;intros;refine tR ha (by omega) ?_;apply ws;intros;refine tR hb (by omega) ?_;apply ws;intros;rw[Vk heq g2];exact T.dp h
  ·have g2:a/2^i%2=b/2^i%2:=by
    have: ¬((a/2^i%2:Nat):Int)≠((b/2^i%2:Nat):Int):=λhh=>by rw[fP.2 hh] at g2;cases g2
    omega
   exact λw3 h3=>⟨⟨i,by omega,by have h1:=CA a i;have h2:=CA b i;omega,rfl,h3⟩,by show((i:Int) -1+1).toNat<((i:Int)+1).toNat;omega⟩
 ·have hz:j=0:=by omega
  subst hz;rw[Nat.pow_zero,Nat.div_one,Nat.div_one] at heq;rw[ar (by omega)] at h;exact T.dp h
end
section
variable {W:World} {L R:LH} {K:VK} {X:WK}
def Gg{a b:Nat}(ha:a<bG)(hb:b<bG)(h:T W L (K (.agg ⟨nm (if a<b then a else b)⟩))):T W L (lH (nm a) (nm b) K):=by
 unfold lH;apply ws;intros;refine uV ha hb ?_;by_cases g1:a<b
 ·rw[ai g1] at h;rw[av g1];apply ws;intros;exact T.dp h
 ·rw[ag g1] at h;rw[ar g1];apply ws;intros;exact T.dp h
end
section
variable {W:World} {L R:LH} {K:VK} {X:WK} {t:cM}
def H0(ht:0<=t.aq/\t.aq<1000000)(h:T W L (K (.b (decide (jy t.aq))))):T W L (bQ (aM t) K):=by
 have he:jy t.aq↔ ¬(has t.aq 2/\has t.aq 4\/has t.aq 2/\has t.aq 8\/has t.aq 4/\has t.aq 8)/\ ¬((has t.aq 4\/has t.aq 8)/\16<=t.aq)/\(t.aq<64\/has t.aq 2):=Iff.rfl;obtain⟨b2,h2⟩:∃b,b=decide (has t.aq 2):=⟨_,rfl⟩;obtain⟨b4,h4⟩:∃b,b=decide (has t.aq 4):=⟨_,rfl⟩;obtain⟨b8,h8⟩:∃b,b=decide (has t.aq 8):=⟨_,rfl⟩;have H2:∀{L':LH} {K':VK},T W L' (K' (.b b2))->T W L' (bW (aM t) 2 K'):=λhh=>lE ht (by decide) (by rw[<-h2];exact hh);have H4:∀{L':LH} {K':VK},T W L' (K' (.b b4))->T W L' (bW (aM t) 4 K'):=λhh=>lE ht (by decide) (by rw[<-h4];exact hh);have H8:∀{L':LH} {K':VK},T W L' (K' (.b b8))->T W L' (bW (aM t) 8 K'):=λhh=>lE ht (by decide) (by rw[<-h8];exact hh);have hE:∀{L':LH} {K':VK},T W L' (K' (.b (b4||b8)))->T W L' (gZ (aM t) K'):=λ{L'} {K'} hh=>xo ht (by
  have e:decide (ke t.aq)=(b4||b8):=by rw[h4,h8];exact Bool.decide_or (has t.aq 4) (has t.aq 8)
  rw[e];exact hh)
 unfold bQ bQ.j3 bQ.j4 bQ.j1 bQ.j2;have h2:=h2.symm;have h4:=h4.symm;have h8:=h8.symm;cases b2<;>cases b4<;>cases b8<;>simp only[decide_eq_true_eq,decide_eq_false_iff_not] at h2 h4 h8<;>simp only[Bool.or_true,Bool.or_false,Bool.true_or,Bool.false_or] at hE
 all_goals
  repeat' first|apply ws;intros|apply wb|with_reducible first|refine H2 ?_|refine H4 ?_|refine H8 ?_|refine hE ?_|refine dj (λh1=>?_) (λh1=>?_)|fail
 all_goals
  refine T.fin (T.dp h) ?_
  congr 1
  clear H2 H4 H8 hE h
  (try simp only[decide_eq_true_eq,decide_eq_false_iff_not] at *)
  rw[cf,decide_eq_true_eq,he];simp only[h2,h4,h8,Bool.true_eq_false,cJ,eq_self,true_and,and_true,false_and,and_false,or_true,or_false,true_or,false_or,not_true_eq_false,not_false_eq_true,true_iff,false_iff]
  try omega
end
def TW(d:Nat):LV:=[.i (d:Int)]
def Ff(d:Nat):(TW d).length=1:=rfl
def wZ:List Nat->Nat
 |[]=>0
 |d::l=>d* 10^l.length+wZ l
def wA(l:List Nat):List UInt8:=l.map λd=>UInt8.ofNat (48+d)
def Fe:∀(l:List Nat),(∀d∈l,d<10)->wZ l<10^l.length
 |[],_=>by show 0<1;decide
 |d::l,h=>by
  have ih:=Fe l (λx hx=>h x (iy _ hx));have hd:=h d qa;have:d* 10^l.length<=9* 10^l.length:=iI _ (by omega);simp only[wZ,bE,AB];omega
def M9:∀(l m:List Nat),(∀d∈l,d<10)->(∀d∈m,d<10)->l.length=m.length->wZ l=wZ m->l=m
 |[],m,_,_,hl,_=>by cases m with|nil=>rfl|cons a b=>simp at hl
 |d::l,[],_,_,hl,_=>by simp at hl
 |d::l,e::m,h1,h2,hl,hv=>by
  have O5:l.length=m.length:=by simpa using hl
  have a1:=Fe l (λx hx=>h1 x (iy _ hx));have a2:=Fe m (λx hx=>h2 x (iy _ hx));simp only[wZ,O5] at hv a1;have hp:0<10^m.length:=Nat.pow_pos (by decide);have hde:d=e:=by
   have e1:(d* 10^m.length+wZ l)/10^m.length=d:=by rw[wN,Nat.mul_add_div hp,Nat.div_eq_of_lt a1,eL]
   have e2:(e* 10^m.length+wZ m)/10^m.length=e:=by rw[wN,Nat.mul_add_div hp,Nat.div_eq_of_lt a2,eL]
   rw[<-e1,hv,e2]
  subst hde;rw[M9 l m (λx hx=>h1 x (iy _ hx)) (λx hx=>h2 x (iy _ hx)) O5 (by omega)]
structure Ir(a j:Nat)(l:List Nat):Prop where
 val:wZ l=a/2^j
 small:∀d∈l,d<10
 norm:l.length=1\/10^(l.length-1)<=wZ l
 len:1<=l.length/\l.length<=129-j
def Ir.step{a j c:Nat}{l tl:List Nat}(h:Ir a (j+1) l)(hj:j<128)(hl:tl.length=l.length)(ht:∀d∈tl,d<10)(hc:c<=1)(he:2* wZ l+a/2^j%2=c* 10^l.length+wZ tl):
 (c=0->Ir a j tl)/\(0<c->Ir a j (c::tl)):=by
 have hv:=h.val;have h2:=CA a j;have hle:=h.len;have e:2* wZ l+a/2^j%2=a/2^j:=by rw[hv,<-h2];omega
 refine⟨λh0=>?_,λh0=>?_⟩
 ·subst h0;rw[Nat.zero_mul,aC] at he;refine⟨by rw[<-he,e],ht,?_,by rw[hl];omega⟩;rw[hl];rcases h.norm with hn|hn
  ·exact .inl hn
  ·exact .inr (by omega)
 ·have h1:c=1:=by omega
  subst h1;refine⟨by simp only[wZ,hl];omega,λd hd=>?_,.inr ?_,by simp only[bE,hl];omega⟩
  ·rcases kf.1 hd with hd|hd
   ·omega
   ·exact ht d hd
  ·simp only[wZ,bE,Nat.add_sub_cancel];omega
def Ir.first{a:Nat}(ha:a<bG):Ir a 128 [0]:=⟨by rw[Nat.div_eq_of_lt (show a<2^128 from ha)];rfl,λd hd=>by simp at hd;omega,.inl rfl,by simp⟩
def Ti:List Nat:=[3,4,0,2,8,2,3,6,6,9,2,0,9,3,8,4,6,3,4,6,3,3,7,4,6,0,7,4,3,1,7,6,8,2,1,1,4,5,5]
def Jy:∀(l m:List Nat),(∀d∈l,d<10)->(∀d∈m,d<10)->wA l=wA m->l=m
 |[],[],_,_,_=>rfl
 |[],e::m,_,_,h=>by simp[wA] at h
 |d::l,[],_,_,h=>by simp[wA] at h
 |d::l,e::m,h1,h2,h=>by
  simp only[wA,cW,List.cons.injEq] at h;obtain⟨hd,ht⟩:=h;have b1:=h1 d qa;have b2:=h2 e qa;have:d=e:=by
   have:=congrArg UInt8.toNat hd;simp only[UInt8.toNat_ofNat'] at this;omega
  subst this;rw[Jy l m (λx hx=>h1 x (iy _ hx)) (λx hx=>h2 x (iy _ hx)) ht]
def Ir.last{a:Nat}{l:List Nat}(h:Ir a 0 l):(wA l=wA Ti↔a=bG-1):=by
 have hv:wZ l=a:=by have:=h.val;rwa[Nat.pow_zero,Nat.div_one] at this
 have hmx:∀d∈Ti,d<10:=by decide
 have tX:wZ Ti=bG-1:=by decide+kernel
 constructor
 ·intro he;have:=Jy l Ti h.small hmx he;rw[<-hv,this,tX]
 ·intro he;have hlen:l.length=39:=by
   have h1:=Fe l h.small;rw[hv,he] at h1;rcases h.norm with hn|hn
   ·rw[hn] at h1;exact aQ h1 (by decide)
   ·rw[hv,he] at hn;have a1:l.length-1<39:=Nat.lt_of_not_le λhh=>aQ (AD (gS (by decide) hh) hn) (by decide+kernel);have a2:38<l.length:=Nat.lt_of_not_le λhh=>aQ (Nat.lt_of_lt_of_le h1 (gS (by decide) hh)) (by decide+kernel);have:=h.len;omega
  rw[M9 l Ti h.small hmx hlen (by rw[hv,he,tX])]
section
variable {W:World} {L R:LH} {K:VK} {X:WK}
def Qi{r d:Nat}(h:T W (own (ah r) 1 1 1 ([d].flatMap TW)::L) X):T W (Sep.pt r [.i (d:Int)]::L) X:=λw hs=>
 h w (St.C9 (k:=0) (L:=Sep.pt r [.i (d:Int)]::L) (xs:=[d].flatMap TW) (sp:=[]) (n:=1) (c:=1) (e:=1) (by simp) (by simp[TW]) (aH _) (by simp) hs)
def Sq{a:Nat}(ha:a<bG)(h:∀s:BA,pG s (⟨#[51,52,48,50,56,50,51,54,54,57,50,48,57,51,56,52,54,51,52,54,51,51,55,52,54,48,55,52,51,49,55,54,56,50,49,49,52,53,53]⟩:BA)=decide (a=bG-1)->T W L (K (.s s))):T W L (kH (nm a) K):=by
 unfold kH;apply ws;intros;rename_i r1 r2;refine Qi (d:=0) ?_;intro w jO;refine⟨λvv w=>∃(j:Nat)(l:List Nat)(b:OA)(c:Nat),j<=128/\Ir a j l/\vv=[.p (some (ad r1 0)),.s .empty,.l b l.length c,.i ((j:Int) -1)]/\St W w (own b l.length c 1 (l.flatMap TW)::Sep.pt r1 (nm a)::L),
  λvs _=>match vs with|[_,_,_,.int _ d]=>(d+1).toNat|_=>0,⟨128,[0],_,_,aH _,Ir.first ha,rfl,jO⟩,?_⟩
 rintro a1 s1 uK s8 uU n1 w2 ⟨j,l,b,c,hj,hd,e,hO⟩;cases e
 refine T.at ?_ hO;apply ga<;>intro g1
 ·obtain⟨i,rfl⟩:∃i:Nat,j=i+1:=⟨j-1,by omega⟩;have e1:(((i+1:Nat):Int) -1)=(i:Int):=by omega
  have e2:aa.wrap ((i:Int) -1)=(i:Int) -1:=aW (by omega);have hlen:=hd.len;rw[e1];apply ws;intros;refine tR ha (by omega) ?_;apply ws;intros;rw[aW (show-9223372036854775808<=(l.length:Int) -1/\(l.length:Int) -1<=9223372036854775807 by omega)];have afO:a/2^i%2<=1:=by omega
  intro w3 xf;refine⟨λvv w=>∃(k cc:Nat)(tl:List Nat),k<=l.length/\tl.length=l.length-k/\(∀d∈tl,d<10)/\cc<=1/\2* wZ (l.drop k)+a/2^i%2=cc* 10^(l.length-k)+wZ tl/\
   vv=[.p (some (ad r1 0)),.s .empty,.l uK l.length uU,.i (i:Int),.i (cc:Int),.i ((k:Int) -1)]/\St W w (own uK l.length uU 1 ((l.take k++tl).flatMap TW)::Sep.pt r1 (nm a)::L),
   λvs _=>match vs with|[_,_,_,_,_,.int _ d]=>(d+1).toNat|_=>0,⟨l.length,a/2^i%2,[],aH _,by simp,(λd hd=>by cases hd),afO,by rw[List.drop_length,mg];simp[wZ],rfl,by rw[aS,bO];exact xf⟩,?_⟩
  rintro a2 s2 jT jd ku n3 n4 n5 w4 ⟨k,cc,tl,hk,EF,htd,VI,qi,e,zi⟩;cases e
  refine T.at ?_ zi;apply ga<;>intro g2
  ·obtain⟨q,rfl⟩:∃q:Nat,k=q+1:=⟨k-1,by omega⟩;have e3:(((q+1:Nat):Int) -1)=(q:Int):=by omega
   rw[e3];have gx:=aj (show q<l.length by omega);have hdx:=hd.small _ (bP (show q<l.length by omega));have MN:l.drop q=l[q]::l.drop (q+1):=ij (by omega);have yX:l.take (q+1)=l.take q++[l[q]]:=by rw[bg,gx];rfl
   generalize l[q]=d at gx hdx MN yX;have hlq:(l.take q).length=q:=by rw[aD,rr (by omega)]
   have gy:(l.take (q+1)++tl)[q]?=some d:=by
    rw[yX,aI,iW (by omega),hlq,mg];rfl
   refine dL (b:=uK) ⟨by omega,by omega⟩ λrb hb=>?_;rw[ak];subst hb;refine FT (g:=TW) Ff gy rfl ?_;refine nQ ?_;refine dO (by decide) ?_;refine dL (b:=some ⟨rb,0,none⟩) ⟨by omega,by omega⟩ λrb2 hb=>?_;rw[ak];cases hb
   have w1:aa.wrap (2* (d:Int))=2* (d:Int):=aW (by omega);have w2':aa.wrap (2* (d:Int)+(cc:Int))=((2* d+cc:Nat):Int):=by rw[aW (by omega)];omega
   have w3':((2* d+cc:Nat):Int).tmod 10=(((2* d+cc)%10:Nat):Int):=by rw[dX (by omega)];omega
   have w4':aa.wrap (((2* d+cc:Nat):Int).tdiv 10)=(((2* d+cc)/10:Nat):Int):=by rw[Int.tdiv_eq_ediv_of_nonneg (by omega),aW (by omega)];omega
   have w5':aa.wrap ((q:Int) -1)=(q:Int) -1:=aW (by omega);rw[w1,w2',w3',w4',w5'];refine FO (o:=q) (j:=0) (x:=d) (y:=(2* d+cc)%10) (g:=TW) Ff gy rfl (by decide) rfl ?_;refine dO (by decide) ?_;have MB:(l.take (q+1)++tl).set q ((2* d+cc)%10)=l.take q++((2* d+cc)%10::tl):=by
    rw[yX,aI,List.set_append_right _ _ (by omega),hlq,mg];rfl
   rw[MB];have AW:(l.drop (q+1)).length=l.length-(q+1):=aT;intro w5 Q';refine⟨⟨q,(2* d+cc)/10,(2* d+cc)%10::tl,by omega,by simp only[bE];omega,λx hx=>?_,by omega,?_,rfl,Q'⟩,by show((q:Int) -1+1).toNat<((q:Int)+1).toNat;omega⟩
   ·rcases kf.1 hx with hx|hx
    ·omega
    ·exact htd x hx
   ·rw[MN];simp only[wZ];rw[EF,AW,show l.length-q=(l.length-(q+1))+1 by omega,AB];generalize 10^(l.length-(q+1))=P at qi⊢;have:2* (d* P)+cc* P=(2* d+cc)/10* (P* 10)+(2* d+cc)%10* P:=by
     have hh:2* d+cc=(2* d+cc)/10* 10+(2* d+cc)%10:=by omega
     calc 2* (d* P)+cc* P=(2* d+cc)* P:=by rw[mA,Nat.mul_assoc]
      _=((2* d+cc)/10* 10+(2* d+cc)%10)* P:=by rw[<-hh]
      _=_:=by rw[mA,Nat.mul_assoc,wN 10 P]
    omega
  ·have hz:k=0:=by omega
   subst hz;rw[jn,Nat.sub_zero] at qi;rw[Nat.sub_zero] at EF;rw[ox,cw,e2];obtain⟨s0,s1⟩:=hd.step (by omega) EF htd VI qi;apply ga<;>intro g3
   ·have g3:0<cc:=by omega
    refine dO ⟨rfl,trivial⟩ ?_;refine uH λr3=>?_;refine Qi (d:=cc) ?_;rw[<-EF];refine se (l0:=[cc]) (l1:=tl) Ff rfl (by omega) (λx v hv=>by simp[TW] at hv;subst hv;rfl) λb2 c2=>?_;have hs:=s1 g3;refine T.sub (M:=own b2 (1+tl.length) c2 1 (([cc]++tl).flatMap TW)::Sep.pt r1 (nm a)::L) ?_ (by repeat (first|exact bj.refl _|apply bj.cons_cons|apply bj.cons));rw[show 1+tl.length=(cc::tl).length by simp only[bE];omega];intro w6 hs6;exact⟨⟨i,cc::tl,b2,c2,by omega,hs,rfl,hs6⟩,by show((i:Int) -1+1).toNat<((i:Int)+1).toNat;omega⟩
   ·have hs:=s0 (by omega);rw[<-EF];intro w6 hs6;exact⟨⟨i,tl,_,_,by omega,hs,rfl,hs6⟩,by show((i:Int) -1+1).toNat<((i:Int)+1).toNat;omega⟩
 ·have hz:j=0:=by omega
  subst hz;have hlen:=hd.len;intro w3 xf;refine⟨λvv w=>∃k:Nat,k<=l.length/\vv=[.s .empty,.s (bs (wA (l.take k))),.l uK l.length uU,.i (l.length:Int),.i (k:Int)]/\St W w (own uK l.length uU 1 (l.flatMap TW)::Sep.pt r1 (nm a)::L),
   λvs _=>match vs with|[_,_,_,_,.int _ d]=>l.length-d.toNat|_=>0,⟨0,aE _,rfl,xf⟩,?_⟩
  rintro s3 s4 tD sK tC n7 n8 w9 ⟨k,hk,e,hs9⟩;cases e
  refine T.at ?_ hs9;apply ga<;>intro g2
  ·have bX:k<l.length:=by omega
   have gx:=aj bX;have hdx:=hd.small _ (bP bX);have yX:l.take (k+1)=l.take k++[l[k]]:=by rw[bg,gx];rfl
   generalize l[k]=d at gx hdx yX;refine dL (b:=uK) ⟨by omega,by omega⟩ λrb hb=>?_;rw[ak];subst hb;refine FT (g:=TW) Ff gx rfl ?_;refine nQ ?_;refine dO ⟨rfl,trivial⟩ ?_;refine uH λr4=>?_;have e4:Value.int .u8 (IntKind.u8.wrap (aa.wrap (48+(d:Int))))=vZ (UInt8.ofNat (48+d)):=by
    have:=uT (n:=((48+d:Nat):Int)) (by omega);rw[ak] at this;rw[this,aW (by omega)]
    congr 1
    have:((48+d:Nat):Int)=48+(d:Int):=by omega
    rw[this];unfold IntKind.wrap;simp[IntKind.signed,IntKind.bits];omega
   rw[e4];refine Us (l:=[UInt8.ofNat (48+d)]) ?_;have e5:bs (wA (l.take k))++bs [UInt8.ofNat (48+d)]=bs (wA (l.take (k+1))):=by rw[l7,yX];unfold wA;rw[cY];rfl
   have e6:=nK k;refine dO ?_ ?_
   ·rw[cj,cj];unfold wA;rw[bU,aD,qg];omega
   rw[e5,e6];refine T.drop λw5 Q'=>⟨⟨k+1,bX,rfl,Q'⟩,by show l.length-((k+1:Nat):Int).toNat<l.length-(k:Int).toNat;omega⟩
  ·have jk:k=l.length:=by omega
   subst jk;rw[aS];refine T.drop (T.drop (h _ ?_));rw[s7,decide_eq_decide,<-hd.last];exact BC (a:=wA l) (b:=wA Ti)
end
section
variable {W:World} {L R:LH} {K:VK} {X Y:WK} {a:bJ} {t:cM} {r1 r2:Nat}
def Uj{n:Nat}(hn:n<bG)(h:T W L (br (decide (n=bG-1)) X Y)):T W L (kH (nm n) (xS λs1=>br (pG s1 (⟨#[51,52,48,50,56,50,51,54,54,57,50,48,57,51,56,52,54,51,52,54,51,51,55,52,54,48,55,52,51,49,55,54,56,50,49,49,52,53,53]⟩:BA)) X Y)):=
 Sq hn λs hs=>y7 (by rw[hs];exact h)
def Wn(a:bJ):Int:=if a.dp≠0\/a.dq≠0\/a.cp≠0\/a.cq≠0\/a.ay≠0 then 7 else if a.ba<=0\/4294967296<=a.ba then 8 else if a.code<=0\/65536<=a.code then 9 else 0
def QO{b:Bool}(h:T W (Sep.pt r2 [.u 0,.u 0]::Sep.pt r1 (aL a)::L) (K (.i (if b=true then 6 else Wn a)))):T W (Sep.pt r2 [.u 0,.u 0]::Sep.pt r1 (aL a)::L) (bB.j2 K r1 r2 b):=by
 unfold bB.j2 bB.j5 bB.j6 bB.j3 bB.j4;cases b with
 |true=>
  apply ws;intros;exact h
 |false=>
  rw[ag (by decide)] at h
  repeat' first|apply ws;intros|apply wb|with_reducible refine dj (λh1=>?_) (λh1=>?_)|fail
  all_goals try simp only[bz] at *
  all_goals
   refine T.fin (T.dp h) ?_
   congr 1
   unfold Wn
   repeat' split
  all_goals omega
def OG(ha:xR a)(h:T W L (K (.i (uw a)))):T W L (bB (aL a) K):=by
 unfold bB bB.j1;have e:uw a=if a.aq<0\/7<a.aq then 3 else if a.id=0 then 4 else if a.id=bG-1 then 5 else if has a.aq 2/\has a.aq 4 then 6 else Wn a:=rfl
 rw[e] at h;by_cases hr:0<=a.aq/\a.aq<=7
 ·rw[ag (by omega)] at h;have hf:0<=a.aq/\a.aq<1000000:=by omega
  have e1:decide (a.aq<0)=false:=ar (by omega);have e2:decide (a.aq>7)=false:=ar (by omega);apply ws;intros;rw[e1];apply ws;intros;rw[e2];apply ws;intros;apply ga<;>intro h1
  ·rw[ai h1] at h;exact T.dp h
  rw[ag h1] at h;apply ws;intros;refine Uj ha.id ?_;apply ga<;>intro h1
  ·rw[ai h1] at h;exact T.dp h
  rw[ag h1] at h
  repeat' first|apply ws;intros|apply wb|with_reducible refine L6 hf (by decide) ?_|fail
  apply ga<;>intro h1
  ·repeat' first|apply ws;intros|apply wb|with_reducible refine L6 hf (by decide) ?_|fail
   refine QO ?_;refine T.fin (T.dp h) ?_
   congr 1
   by_cases h4:has a.aq 4
   ·rw[ai (av h4),ai ⟨h1,h4⟩]
   ·rw[ag (λhh=>h4 (aR hh)),ag (λhh=>h4 hh.2)]
  ·refine QO ?_;rw[ag (λhh=>h1 hh.1)] at h;exact T.dp h
 ·rw[ai (by omega)] at h;apply ws;intros;apply ga<;>intro h1
  ·apply ws;intros;exact T.dp h
  ·have e2:decide (a.aq>7)=true:=av (by omega);apply ws;intros;rw[e2];apply ws;intros;exact T.dp h
def EW{n:Int}(h:T W (Sep.pt r2 [.u 0,.u 0]::Sep.pt r1 (aM t)::L) (K (.i (if t.ba<n\/4294967296<=t.ba then 8 else if t.code<n\/65536<=t.code then 9 else 0)))):T W (Sep.pt r2 [.u 0,.u 0]::Sep.pt r1 (aM t)::L) (aV.j4 K r1 n):=by
 unfold aV.j4 aV.j5
 repeat' first|apply ws;intros|apply wb|with_reducible refine dj (λh1=>?_) (λh1=>?_)|fail
 all_goals try simp only[bz] at *
 all_goals
  refine T.fin (T.dp h) ?_
  congr 1
  repeat' split
 all_goals omega
def EX{b:Bool}(hf:0<=t.aq/\t.aq<1000000)(h:T W (Sep.pt r2 [.u 0,.u 0]::Sep.pt r1 (aM t)::L) (K (.i (if b=true then 17 else if ke t.aq then Tr t else Tq t)))):T W (Sep.pt r2 [.u 0,.u 0]::Sep.pt r1 (aM t)::L) (aV.j3 K r1 r2 b):=by
 unfold aV.j3;cases b with
 |true=>
  apply ws;intros;exact h
 |false=>
  rw[ag (by decide)] at h
  repeat' first|apply ws;intros|apply wb|with_reducible refine xo hf ?_|fail
  apply ga<;>intro h1
  ·rw[ai h1] at h;apply ws;intros;unfold Tr at h;apply ga<;>intro h1
   ·rw[ai h1] at h;exact h
   ·rw[ag h1] at h;exact EW h
  ·rw[ag h1] at h;unfold Tq at h;apply ws;intros;apply ga<;>intro h1
   ·rw[ai (h1)] at h;exact h
   rw[ag (h1)] at h;apply ws;intros;apply ga<;>intro h1
   ·rw[ai (h1)] at h;exact h
   rw[ag (h1)] at h;apply ws;intros;apply ga<;>intro h1
   ·rw[ai (h1)] at h;exact h
   rw[ag (h1)] at h;apply ws;intros;by_cases h5:t.pending=0
   ·rw[ag (λhh=>hh h5)] at h;rw[av h5];apply ws;intros;apply ga<;>intro h1
    ·repeat' first|apply ws;intros|apply wb|with_reducible refine lE hf (by decide) ?_|fail
     by_cases h6:has t.aq 16
     ·rw[av h6];rw[ag (λhh=>hh.2.1 h6)] at h;apply ws;intros;exact EW h
     ·rw[ar h6]
      repeat' first|apply ws;intros|apply wb|with_reducible refine lE hf (by decide) ?_|fail
      by_cases h7:has t.aq 32
      ·rw[av h7];rw[ag (λhh=>hh.2.2 h7)] at h;apply ws;intros;exact EW h
      ·rw[ar h7];rw[ai ⟨h1,h6,h7⟩] at h;apply ws;intros;exact h
    ·rw[ag (λhh=>h1 hh.1)] at h;exact EW h
   ·rw[ai h5] at h;rw[ar h5];apply ws;intros;exact h
def Bc(ht:Ab t)(h:T W L (K (.i (nG t)))):T W L (aV (aM t) K):=by
 unfold aV aV.j1;have e:nG t=if t.aq<0\/255<t.aq then 3 else if t.id=0 then 4 else if t.id=bG-1 then 5 else if ¬jy t.aq then 6
  else if t.ay≠0\/t.jh≠0 then 7 else if t.cn<0\/1073741824<t.cn\/0<t.cn/\ ¬has t.aq 2 then 17 else if ke t.aq then Tr t else Tq t:=rfl
 rw[e] at h;by_cases hr:0<=t.aq/\t.aq<=255
 ·rw[ag (by omega)] at h;have hf:0<=t.aq/\t.aq<1000000:=by omega
  have e1:decide (t.aq<0)=false:=ar (by omega);have e2:decide (t.aq>255)=false:=ar (by omega);apply ws;intros;rw[e1];apply ws;intros;rw[e2];apply ws;intros;apply ga<;>intro h1
  ·rw[ai h1] at h;exact T.dp h
  rw[ag h1] at h;apply ws;intros;refine Uj ht.id ?_;apply ga<;>intro h1
  ·rw[ai h1] at h;exact T.dp h
  rw[ag h1] at h
  repeat' first|apply ws;intros|apply wb|with_reducible refine H0 hf ?_|fail
  by_cases h2:jy t.aq
  ·rw[ag (λhh=>hh h2)] at h;rw[av h2];apply ws;intros;unfold aV.j2 aV.j6;by_cases h3:t.ay≠0\/t.jh≠0
   ·rw[ai h3] at h;apply dj<;>intro h1
    ·apply ws;intros;exact T.dp h
    ·have h1:t.ay=0:=by simpa using h1
     have e3:(t.jh !=0)=true:=by rw[fP];omega
     apply ws;intros;rw[e3];apply ws;intros;exact T.dp h
   ·rw[ag h3] at h;have e3:(t.ay !=0)=false:=by rw[bne_eq_false_iff_eq];omega
    have e4:(t.jh !=0)=false:=by rw[bne_eq_false_iff_eq];omega
    rw[e3];apply ws;intros;rw[e4];apply ws;intros;apply ga<;>intro h4
    ·rw[ai (.inl h4)] at h;apply ws;intros;refine EX hf ?_;exact T.dp h
    apply ws;intros;apply ga<;>intro h5
    ·rw[ai (.inr (.inl h5))] at h;refine EX hf ?_;exact T.dp h
    apply ws;intros;apply ga<;>intro h6
    ·repeat' first|apply ws;intros|apply wb|with_reducible refine lE hf (by decide) ?_|fail
     refine EX hf ?_;by_cases h7:has t.aq 2
     ·rw[av h7];rw[ag (by rintro(hh|hh|hh);exact h4 hh;exact h5 hh;exact hh.2 h7)] at h;exact T.dp h
     ·rw[ar h7];rw[ai (.inr (.inr ⟨h6,h7⟩))] at h;exact T.dp h
    ·refine EX hf ?_;rw[ag (by rintro(hh|hh|hh);exact h4 hh;exact h5 hh;exact h6 hh.1)] at h;exact T.dp h
  ·rw[ai h2] at h;rw[ar h2];apply ws;intros;exact T.dp h
 ·rw[ai (by omega)] at h;apply ws;intros;apply ga<;>intro h1
  ·apply ws;intros;exact T.dp h
  ·have e2:decide (t.aq>255)=true:=av (by omega);apply ws;intros;rw[e2];apply ws;intros;exact T.dp h
end
def Qw{j:Nat}(hj:j<64):shl .u64 1 (j:Int)=((2^j:Nat):Int):=by
 unfold shl;have h1:2^j<2^64:=Nat.pow_lt_pow_right (by decide) hj;have h2:(2:Nat)^64=18446744073709551616:=by decide
 have h3:((2:Int)^j)=((2^j:Nat):Int):=by push_cast;rfl
 rw[ak,show min j IntKind.u64.bits=j from rr (Nat.le_of_lt hj),Go.Up.sL,Int.one_mul,h3];generalize 2^j=P at h1;omega
def D4(a i:Nat):a%2^(i+1)=a%2^i+a/2^i%2* 2^i:=by
 rw[AB,Nat.mod_mul,wN (2^i)]
section
variable {W:World} {L R:LH} {K:VK} {X Y:WK} {a:bJ} {t:cM} {r1 r2:Nat}
def UR{n j:Nat}(hn:n<2^j)(hj:j<128)(h:T W L (K (.agg ⟨nm (n+2^j)⟩))):T W L (pB (nm n) (j:Int) K):=by
 unfold pB;unfold nm;apply ws;intros;apply ga<;>intro g1
 ·obtain⟨i,rfl⟩:∃i:Nat,j=64+i:=⟨j-64,by omega⟩;have e1:aa.wrap (((64+i:Nat):Int) -64)=(i:Int):=by rw[aW (by omega)];omega
  have e2:IntKind.u64.wrap (i:Int)=(i:Int):=by rw[Go.Up.sL];omega
  rw[e1,e2,Qw (by omega)];apply ws;intros;refine dO (by omega) ?_;apply ws;intros;have hp:2^(64+i)=18446744073709551616* 2^i:=by rw[Nat.pow_add]
  have hq:2^i<=2^63:=gS (by decide) (by omega);have YI:(2:Nat)^63=9223372036854775808:=by decide
  have h1:n/18446744073709551616<2^i:=Nat.div_lt_of_lt_mul (by rw[<-hp];exact hn);have e3:IntKind.u64.wrap (((n/18446744073709551616:Nat):Int)+((2^i:Nat):Int))=(((n+2^(64+i))/18446744073709551616:Nat):Int):=by
   rw[Go.Up.sL,hp,Nat.add_mul_div_left _ _ (by decide)];omega
  have e4:(n+2^(64+i))%18446744073709551616=n%18446744073709551616:=by rw[hp,Nat.add_mul_mod_self_left]
  unfold nm at h;rw[e4] at h;rw[e3];exact T.dp h
 ·have Ks:j<64:=by omega
  have e2:IntKind.u64.wrap (j:Int)=(j:Int):=by rw[Go.Up.sL];omega
  rw[e2,Qw Ks];apply ws;intros;refine dO (by omega) ?_;apply ws;intros;have hq:2^j<=2^63:=gS (by decide) (by omega);have YI:(2:Nat)^63=9223372036854775808:=by decide
  have e3:IntKind.u64.wrap (((n%18446744073709551616:Nat):Int)+((2^j:Nat):Int))=(((n+2^j)%18446744073709551616:Nat):Int):=by
   rw[Go.Up.sL];omega
  have e4:(n+2^j)/18446744073709551616=n/18446744073709551616:=by omega
  unfold nm at h;rw[e4] at h;rw[e3];exact T.dp h
def Uy{a b i c out:Nat}(hv:out+b%2^i=a%2^i+c* 2^i)(c2 n2:Nat)(hn:(n2:Int)=((a/2^i%2:Nat):Int) -((b/2^i%2:Nat):Int) -(c:Int)+2* (c2:Int)):
 out+n2* 2^i+b%2^(i+1)=a%2^(i+1)+c2* 2^(i+1):=by
 rw[D4,D4,AB];have hh:n2+b/2^i%2+c=a/2^i%2+2* c2:=by omega
 have:=congrArg (·* 2^i) hh;simp only[mA] at this;rw[show c2* (2^i* 2)=2* c2* 2^i by rw[wN (2^i) 2,<-Nat.mul_assoc,wN c2 2]];omega
def L7{a b:Nat}(ha:a<bG)(hb:b<bG)(h:T W L (K (.tuple ⟨[.agg ⟨nm (a-b)⟩,.b (decide (b<=a))]⟩))):T W L (gp (nm a) (nm b) K):=by
 unfold gp gp.j1;apply ws;intros;refine uV ha hb ?_;apply ws;intros;by_cases bX:a<b
 ·rw[show a-b=0 by omega,ar (by omega)] at h;rw[av bX];apply ws;intros;exact T.dp h
 ·rw[av (by omega)] at h;rw[ar bX];apply ws;intros;rename_i r1 r2 r3 r4;intro w jO;refine⟨λvv w=>∃i c out:Nat,i<=128/\c<=1/\out<2^i/\out+b%2^i=a%2^i+c* 2^i/\vv=[.p (some (ad r1 0)),.p (some (ad r2 0)),.p (some (ad r3 0)),.b false,.p (some (ad r4 0)),.i (c:Int),.i (i:Int)]/\
     St W w (Sep.pt r4 (nm out)::Sep.pt r3 [.u 0,.u 0]::Sep.pt r2 (nm b)::Sep.pt r1 (nm a)::L),
   λvs _=>match vs with|[_,_,_,_,_,_,.int _ d]=>128-d.toNat|_=>0,⟨0,0,0,by omega,by omega,by decide,by rw[Nat.pow_zero];omega,rfl,jO⟩,?_⟩
  rintro a1 a2 a3 b2 a4 n1 n2 w2 ⟨i,c,out,hi,hc,zf,hv,e,hO⟩;cases e
  refine T.at ?_ hO;apply ga<;>intro g1
  ·have yx:i<128:=by omega
   apply ws;intros;refine tR ha yx ?_;apply ws;intros;refine tR hb yx ?_;apply ws;intros;have Xu:a/2^i%2<=1:=by omega
   have TR:b/2^i%2<=1:=by omega
   have e1:aa.wrap (aa.wrap (((a/2^i%2:Nat):Int) -((b/2^i%2:Nat):Int)) -(c:Int))=((a/2^i%2:Nat):Int) -((b/2^i%2:Nat):Int) -(c:Int):=by
    rw[aW (n:=((a/2^i%2:Nat):Int) -((b/2^i%2:Nat):Int)) (by omega),aW (by omega)]
   have e5:=nK i;rw[e1,e5];have hp:2^(i+1)=2* 2^i:=by rw[AB,wN]
   have key:∀(c2 n2:Nat),c2<=1->n2<=1->(n2:Int)=((a/2^i%2:Nat):Int) -((b/2^i%2:Nat):Int) -(c:Int)+2* (c2:Int)->
    T W (Sep.pt r4 (nm out)::Sep.pt r3 [.u 0,.u 0]::Sep.pt r2 (nm b)::Sep.pt r1 (nm a)::L) (gp.j1 K (ad r4 0) (i:Int) (λvv w=>∃i c out:Nat,i<=128/\c<=1/\out<2^i/\out+b%2^i=a%2^i+c* 2^i/\vv=[.p (some (ad r1 0)),.p (some (ad r2 0)),.p (some (ad r3 0)),.b false,.p (some (ad r4 0)),.i (c:Int),.i (i:Int)]/\
    St W w (Sep.pt r4 (nm out)::Sep.pt r3 [.u 0,.u 0]::Sep.pt r2 (nm b)::Sep.pt r1 (nm a)::L)) (ad r1 0) (ad r2 0) (ad r3 0) false (λvs _=>match vs with|[_,_,_,_,_,_,.int _ d]=>128-d.toNat|_=>0) (c:Int) w2 (c2:Int) (n2:Int)):=λc2 n2 Ri YO hn=>by
    unfold gp.j1;rw[e5];have uZ:=Uy hv c2 n2 hn;apply dj<;>intro g2
    ·have g2:n2=1:=by have:(n2:Int)=1:=by simpa using g2
                      omega
     subst g2;rw[Nat.one_mul] at uZ;apply ws;intros;refine UR zf yx ?_;refine Ez (by rfl) ?_;apply ws;intros;exact λw3 h3=>⟨⟨i+1,c2,out+2^i,yx,Ri,by omega,uZ,rfl,h3⟩,by show 128-((i+1:Nat):Int).toNat<128-(i:Int).toNat;omega⟩
    ·have g2:n2=0:=by have: ¬(n2:Int)=1:=by simpa using g2
                      omega
     subst g2;rw[Nat.zero_mul,eL] at uZ;exact λw3 h3=>⟨⟨i+1,c2,out,yx,Ri,by omega,uZ,rfl,h3⟩,by show 128-((i+1:Nat):Int).toNat<128-(i:Int).toNat;omega⟩
   unfold gp.j1 at key;rw[e5] at key;apply ga<;>intro g2
   ·rw[aW (by omega)];obtain⟨n2,YO⟩:=bt (show 0<=((a/2^i%2:Nat):Int) -((b/2^i%2:Nat):Int) -(c:Int)+2 by omega);rw[YO];exact key 1 n2 (by omega) (by omega) (by omega)
   ·obtain⟨n2,YO⟩:=bt (show 0<=((a/2^i%2:Nat):Int) -((b/2^i%2:Nat):Int) -(c:Int) by omega);rw[YO];exact key 0 n2 (by omega) (by omega) (by omega)
  ·have jk:i=128:=by omega
   subst jk;rw[fN (show a<2^128 from ha),fN (show b<2^128 from hb)] at hv;have hh:out=a-b:=by
    have:c=0:=by
     rcases Nat.eq_zero_or_pos c with hz|hz
     ·exact hz
     ·have:c=1:=by omega
      subst this;omega
    subst this;omega
   rw[hh];apply ws;intros;exact T.dp h
def Gk{r3 r4 r5:Nat}{x y z:Nat}(hx:x<bG)(hy:y<bG)(hz:z<bG)(h:T W L (K (.agg ⟨nm (x-(y+z))⟩))):T W (Sep.pt r5 (nm z)::Sep.pt r4 (nm y)::Sep.pt r3 (nm x)::Sep.pt r2 [.u 0,.u 0]::L) (dD.j1 K r4 r5 r3 r2):=by
 unfold dD.j1 dD.j2;apply ws;intros;refine qE hy hz ?_;unfold add;by_cases hs:y+z<bG
 ·rw[ai hs,av hs];apply ws;intros;refine L7 hx hs ?_;apply ws;intros;exact T.dp h
 ·rw[ag hs,ar hs];apply ws;intros;refine So ?_;apply ws;intros;refine L7 hx (by unfold bG;decide) ?_;apply ws;intros;rw[show x-(bG-1)=x-(y+z) by omega];exact T.dp h
def C8{p:Bool}(ha:a.dp<bG/\a.dq<bG/\a.cp<bG/\a.cq<bG)(h:T W L (K (.agg ⟨nm (iR a p)⟩))):T W L (dD (aL a) p K):=by
 obtain⟨h1,h2,h3,h4⟩:=ha;unfold dD;apply ws;intros;cases p with
 |true=>
  apply ws;intros;refine Gk h4 h1 h2 ?_;exact T.dp h
 |false=>
  apply ws;intros;refine Gk h2 h3 h4 ?_;exact T.dp h
end
def FZ(a:bJ)(d:Bool):Nat:=if d then a.dp else a.cp
def FY(a:bJ)(d:Bool):Nat:=if d then a.dq else a.cq
def QP(a:bJ)(d:Bool)(x y:Nat):bJ:=if d then{a with dp:=x,dq:=y} else{a with cp:=x,cq:=y}
def IF(d:Bool):Int:=if d then 2 else 4
def Ys(a:bJ)(d:Bool)(n:Nat)(p:Bool):more a d n p=
 if bG<=FZ a d+FY a d+n then(a,32) else if has a.aq (IF d)/\iR a d<n then(a,if d then 33 else 34)
 else(QP a d (if p then FZ a d+n else FZ a d) (if p then FY a d else FY a d+n),0):=by
 cases d<;>cases p<;>rfl
section
variable {W:World} {L R:LH} {K:VK} {X Y:WK} {a:bJ} {t:cM} {r1 r2 r3 r4 r5:Nat}
def Gh{d:Bool}{x y n:Nat}(h:T W L (K (.tuple ⟨[.agg ⟨aL (QP a d x y)⟩,.i 0]⟩))):T W (Sep.pt r5 (nm y)::Sep.pt r4 (nm x)::Sep.pt r3 (aL zA)::Sep.pt r2 (nm n)::Sep.pt r1 (aL a)::L) (cm.j4 K d r4 r1 r5 r3):=by
 unfold cm.j4;unfold QP at h;cases d with
 |true=>
  apply ws;intros;exact T.dp h
 |false=>
  apply ws;intros;exact T.dp h
def Gi{d p b:Bool}{x y n:Nat}(hx:x<bG)(hy:y<bG)(hn:n<bG)(hs:x+y+n<bG)
 (h:T W L (K (.tuple ⟨[.agg ⟨aL (if b=true then a else QP a d (if p then x+n else x) (if p then y else y+n))⟩,.i (if b=true then(if d then 33 else 34) else 0)]⟩))):
 T W (Sep.pt r5 (nm y)::Sep.pt r4 (nm x)::Sep.pt r3 (aL zA)::Sep.pt r2 (nm n)::Sep.pt r1 (aL a)::L) (cm.j3 K d r1 r3 p r4 r2 r5 b):=by
 unfold cm.j3;cases b with
 |true=>
  rw[ai rfl,ai rfl] at h;cases d with
  |true=>
   apply ws;intros;exact T.dp h
  |false=>
   apply ws;intros;exact T.dp h
 |false=>
  rw[ag cN,ag cN] at h;cases p with
  |true=>
   have e:add x n=x+n:=ai (by omega);apply ws;intros;refine qE hx hn ?_;rw[e];apply ws;intros;exact Gh h
  |false=>
   have e:add y n=y+n:=ai (by omega);apply ws;intros;refine qE hy hn ?_;rw[e];apply ws;intros;exact Gh h
def Gj{d p:Bool}{n:Nat}(ha:a.dp<bG/\a.dq<bG/\a.cp<bG/\a.cq<bG)(hn:n<bG)(hf:0<=a.aq/\a.aq<256)(h:T W L (K (.tuple ⟨[.agg ⟨aL (more a d n p).1⟩,.i (more a d n p).2]⟩))):
 T W (Sep.pt r5 (nm (FY a d))::Sep.pt r4 (nm (FZ a d))::Sep.pt r3 (aL zA)::Sep.pt r2 (nm n)::Sep.pt r1 (aL a)::L) (cm.j1 K r4 r5 r2 r1 r3 d p (IF d)):=by
 unfold cm.j1 cm.j2;have hx:FZ a d<bG:=by unfold FZ;split<;>omega
 have hy:FY a d<bG:=by unfold FY;split<;>omega
 have hand:dm .i64 .and a.aq (IF d)=0↔ ¬has a.aq (IF d):=by
  cases d
  ·exact Nr hf.1 hf.2
  ·exact Ns hf.1 hf.2
 rw[Ys] at h;generalize hX:FZ a d=x at *;generalize hY:FY a d=y at *;apply ws;intros;refine qE hx hy ?_;apply ws;intros;refine qE (Hj _ _) hn ?_;apply ws;intros;by_cases hs:x+y<bG
 ·rw[av hs];have e:add x y=x+y:=ai hs;rw[e];apply ws;intros;by_cases hO:x+y+n<bG
  ·rw[ag (by omega)] at h;rw[av hO];apply ws;intros;apply dj<;>intro g1
   ·have g1:has a.aq (IF d):=Decidable.byContradiction λhh=>by rw[hand.2 hh] at g1;simp at g1
    apply ws;intros;refine C8 ha ?_;apply ws;intros;refine uV ?_ hn ?_
    ·unfold iR;split<;>omega
    apply ws;intros;rename_i r6 r7;refine T.drop (T.drop (Gi hx hy hn hO ?_));by_cases hl:iR a d<n
    ·rw[ai ⟨g1,hl⟩] at h;rw[ai (av hl),ai (av hl)];exact h
    ·rw[ag (λhh=>hl hh.2)] at h;rw[ag (λhh=>hl (aR hh)),ag (λhh=>hl (aR hh))];exact h
   ·have g1: ¬has a.aq (IF d):=hand.1 (by simpa using g1);rw[ag (λhh=>g1 hh.1)] at h;exact T.drop (T.drop (Gi hx hy hn hO (by rw[ag cN,ag cN];exact h)))
  ·rw[ai (by omega)] at h;rw[ar hO];apply ws;intros;exact T.dp h
 ·rw[ai (by omega)] at h;rw[ar hs];apply ws;intros;exact T.dp h
def IT{d p:Bool}{n:Nat}(ha:a.dp<bG/\a.dq<bG/\a.cp<bG/\a.cq<bG)(hn:n<bG)(hf:0<=a.aq/\a.aq<256)(h:T W L (K (.tuple ⟨[.agg ⟨aL (more a d n p).1⟩,.i (more a d n p).2]⟩))):T W L (cm (aL a) d (nm n) p K):=by
 unfold cm;apply ws;intros;cases d with
 |true=>
  apply ws;intros;exact Gj (d:=true) ha hn hf h
 |false=>
  apply ws;intros;exact Gj (d:=false) ha hn hf h
end
structure KM(k:ch):Prop where
 asked:Ab k.asked
 move:Ab k.move
 vP:0<=k.asked.aq/\k.asked.aq<256
 xq:0<=k.move.aq/\k.move.aq<256
 cn:0<=k.move.cn/\k.move.cn<=1073741824
 jh:0<=k.move.jh/\k.move.jh<=1099511627776
structure RM(m:aA):Prop where
 ground:Md.bK m
 clock:0<=m.clock/\m.clock<=1099511627776
 ay:m.ay=m.cE.length+m.ax.length
 cE:∀a∈m.cE,xR a
 ax:∀k∈m.ax,KM k
def RM.Yh{m:aA}(hg:ft (bo m))(rS:Md.bK m):RM m:=by
 refine⟨rS,hg.clock,?_,λa ha=>?_,λk hk=>?_⟩
 ·have:=hg.ay;unfold bo at this;simpa using this
 ·have h1:=(hg.T0 (Md.full m.ax a) (List.mem_map_of_mem ha)).ok;obtain⟨z1,z2,z3,z4,z5,z6⟩:=rS.zero a ha;exact⟨h1.id,by rw[z1];decide,by rw[z2];decide,by rw[z3];decide,by rw[z4];decide,h1.ba,h1.code,⟨by omega,by omega⟩,h1.ay⟩
 ·have h1:=hg.TJ k hk;exact⟨h1.asked,h1.move,h1.vP,h1.xq,h1.cn,h1.jh⟩
def RM.rkA{m:aA}(h:RM m):∀a∈m.cE,NH a:=λa ha=>by
 obtain⟨z1,z2,z3,z4,z5,z6⟩:=h.ground.zero a ha;have:(0:Nat)<bG:=by decide
 exact⟨by omega,by omega,by omega,by omega,by omega,by omega⟩
def RM.rkK{m:aA}(h:RM m):∀k∈m.ax,RkK k:=λk hk=>by
 have h1:=h.ax k hk;exact⟨h1.move.aU,h1.xq.1,by have:=h1.xq.2;omega⟩
def RM.og{m:aA}(h:RM m):m.cE.length<=32:=h.ground.og
def RM.many{m:aA}(h:RM m):m.ax.length<=96:=h.ground.some_
def JH{a:bJ}(h:uw a=0):0<=a.aq/\a.aq<=7:=by
 unfold uw at h;by_cases h1:a.aq<0\/7<a.aq
 ·rw[ai h1] at h;omega
 ·omega
def xM{t:cM}(h:nG t=0):(0<=t.aq/\t.aq<=255)/\0<=t.cn/\t.cn<=1073741824:=by
 unfold nG at h;by_cases h1:t.aq<0\/255<t.aq
 ·rw[ai h1] at h;omega
 rw[ag h1] at h;by_cases h2:t.id=0
 ·rw[ai h2] at h;omega
 rw[ag h2] at h;by_cases h3:t.id=bG-1
 ·rw[ai h3] at h;omega
 rw[ag h3] at h;by_cases h4: ¬jy t.aq
 ·rw[ai h4] at h;omega
 rw[ag h4] at h;by_cases h5:t.ay≠0\/t.jh≠0
 ·rw[ai h5] at h;omega
 rw[ag h5] at h;by_cases h6:t.cn<0\/1073741824<t.cn\/0<t.cn/\ ¬has t.aq 2
 ·rw[ai h6] at h;omega
 ·omega
def Zv{m:aA}(hg:Md.bK m)(a:bJ):Md.bK (m.make a).2:=((qK m).make hg).2.2
def Zu{m:aA}(hg:Md.bK m)(t:cM):Md.bK (m.move t).2:=((qK m).move hg).2.2
def Zw{m:aA}(hg:Md.bK m)(t:cM):Md.bK (m.py t).2:=((qK m).py hg).2.2
def RM.make{m:aA}{a:bJ}(h:RM m)(ha:xR a):RM (m.make a).2:=by
 have rS:=Zv h.ground a;have e:(m.make a).2=m\/(uw a=0/\(m.make a).2={m with ay:=m.ay+1,cE:=m.cE++[{a with ay:=m.ay+1,aq:=a.aq/2* 2}]}):=by
  unfold aA.make;by_cases h1:uw a≠0
  ·rw[ai h1];exact .inl rfl
  ·rw[ag h1];split
   ·exact .inl rfl
   ·by_cases h2:32<=m.cE.length
    ·rw[ai h2];exact .inl rfl
    ·rw[ag h2];exact .inr ⟨by omega,rfl⟩
 rcases e with e|⟨hc,e⟩
 ·rw[e];exact h
 ·rw[e] at rS⊢;have hf:=JH hc;have xy:=h.og;have xw:=h.many;have uZ:=h.ay;refine⟨rS,h.clock,?_,λx hx=>?_,h.ax⟩
  ·show m.ay+1=((m.cE++[_]).length:Int)+(m.ax.length:Int);rw[aw,qg];omega
  ·rcases dF.1 hx with hx|hx
   ·exact h.cE x hx
   ·cases(show x=_ by simpa using hx)
    exact⟨ha.id,ha.dp,ha.dq,ha.cp,ha.cq,ha.ba,ha.code,⟨by show _<=a.aq/2* 2;omega,by show a.aq/2* 2<=_;omega⟩,⟨by show _<=m.ay+1;omega,by show m.ay+1<=_;omega⟩⟩
def RM.kY{m:aA}{t u:cM}{fate:Int}(h:RM m)(rS:Md.bK (m.kY t u fate))(hm:m.ax.length<96)(ht:Ab t)(hu:Ab u)(hf:0<=t.aq/\t.aq<256)(huf:u.aq=t.aq)(htm:0<=u.cn/\u.cn<=1073741824):RM (m.kY t u fate):=by
 have uZ:=h.ay;have xy:=h.og;have hck:=h.clock;refine⟨rS,h.clock,?_,h.cE,λk hk=>?_⟩
 ·show m.ay+1=(m.cE.length:Int)+((m.ax++[_]).length:Int);rw[aw,qg];omega
 ·rcases dF.1 hk with hk|hk
  ·exact h.ax k hk
  ·cases(show k=_ by simpa using hk)
   exact⟨ht,⟨hu.id,hu.bw,hu.aP,hu.aU,hu.pending,hu.cn,hu.ba,hu.code,hu.aq,⟨by show _<=m.ay+1;omega,by show m.ay+1<=_;omega⟩,⟨by show _<=m.clock;omega,by show m.clock<=_;omega⟩⟩,hf,by show 0<=u.aq/\u.aq<256;omega,htm,h.clock⟩
def RM.dH{m:aA}(h:RM m)(i:Nat)(f:Int)(rS:Md.bK (m.dH i f)):RM (m.dH i f):=by
 refine⟨rS,h.clock,?_,h.cE,λk hk=>?_⟩
 ·show m.ay=(m.cE.length:Int)+((m.ax.modify i _).length:Int);rw[List.length_modify];exact h.ay
 ·have hk:k∈m.ax.modify i λk=>{k with fate:=f}:=hk;by_cases hi:i<m.ax.length
  ·rw[modify_eq _ _ _ hi] at hk;rcases eE hk with hh|hh
   ·exact h.ax k hh
   ·have:=h.ax _ (bP hi);subst hh;exact⟨this.asked,this.move,this.vP,this.xq,this.cn,this.jh⟩
  ·have:m.ax.modify i (λk=>{k with fate:=f})=m.ax:=List.modify_eq_self (by omega);rw[this] at hk;exact h.ax k hk
def H5{t:cM}{named:Option ch}{d c:Option bJ}{many:Nat}(h:(jU t named d c many).1=0):(jU t named d c many).2<bG:=by
 obtain⟨d',c',-,-,-,-,-,-,-,-,-,h1,-⟩:=wo h;omega
def RM.move{m:aA}{t:cM}(h:RM m)(ht:Ab t):RM (m.move t).2:=by
 have rS:=Zu h.ground t;unfold aA.move at rS⊢;dsimp only at rS⊢;by_cases h1:(jU t (m.named t.id) ((m.find t.bw).map m.full) ((m.find t.aP).map m.full) m.ax.length).1≠0
 ·rw[ai h1];exact h
 ·rw[ag h1] at rS⊢;have h1:=bm.1 h1;have ham:=H5 h1;obtain⟨d',c',-,-,-,hc,-,-,-,-,xw,-⟩:=wo h1;obtain⟨z1,z2⟩:=xM hc;exact h.kY rS xw ht ⟨ht.id,ht.bw,ht.aP,ham,ht.pending,ht.cn,ht.ba,ht.code,ht.aq,ht.ay,ht.jh⟩ ⟨z1.1,by omega⟩ rfl z2
def RM.py{m:aA}{t:cM}(h:RM m)(ht:Ab t):RM (m.py t).2:=by
 have rS:=Zw h.ground t;unfold aA.py at rS⊢;cases hn:m.name t.pending with
 |none=>exact h
 |some i=>
  rw[hn] at rS;dsimp only at rS⊢;cases hk:m.ax[i]? with
  |none=>exact h
  |some k=>
   rw[hk] at rS;dsimp only at rS⊢;by_cases h1:oy t (m.named t.id) (some k) (m.closed k.move.bw i) (m.closed k.move.aP i) m.ax.length≠0
   ·rw[ai h1];exact h
   ·rw[ag h1] at rS⊢;have h1:=bm.1 h1;obtain⟨SX,hie⟩:=ao.1 hk;have oB:=bD hk;have hf:=h.ground.vB k oB;obtain⟨-,hc,he,hw,YV,-,xw⟩:=Bv h1 hf.1;obtain⟨z1,z2⟩:=xM hc;have MJ:=h.ax k oB;have afC:m.ax[i].fate=1:=by rw[hie];have:=hf.2.2.1 hw;omega
    have MB:=h.ground.dH SX afC (f:=cK t) (by unfold cK;split<;>omega);refine(h.dH i (cK t) MB).kY rS (by show(m.ax.modify i _).length<96;rw[List.length_modify];exact xw) ht ?_ ⟨z1.1,by omega⟩ rfl z2;refine⟨ht.id,MJ.move.bw,MJ.move.aP,?_,ht.pending,ht.cn,MJ.move.ba,MJ.move.code,ht.aq,ht.ay,ht.jh⟩;show cV t k.move<bG;unfold cV;split
    ·exact MJ.move.aU
    ·exact ht.aU
def RM.rA{m:aA}{t:cM}(h:RM m)(ht:Ab t):RM (m.rA t).2:=by
 unfold aA.rA;split
 ·exact h.py ht
 ·exact h.move ht
def RM.time{m:aA}(h:RM m)(now:Int)(h0:0<=now):RM (m.time now):=by
 refine⟨DK h.ground now,?_,?_,h.cE,λk hk=>?_⟩
 ·show 0<=(if m.clock<now/\now<=1099511627776 then now else m.clock)/\(if m.clock<now/\now<=1099511627776 then now else m.clock)<=1099511627776;have:=h.clock;split<;>omega
 ·show m.ay=(m.cE.length:Int)+((m.ax.map _).length:Int);rw[bU];exact h.ay
 ·obtain⟨x,hx,rfl⟩:=cA.1 hk;have:=h.ax x hx;have hx':∀(p:Prop) [Decidable p],KM (if p then{x with fate:=4} else x):=λp _=>by
   by_cases hp:p
   ·rw[ai hp];exact⟨this.asked,this.move,this.vP,this.xq,this.cn,this.jh⟩
   ·rw[ag hp];exact this
  exact hx' _
def rR{α:Type}(P:α->Bool)(l:List α):(l.find? P=none/\l.findIdx? P=none/\GK P l= -1)\/∃i x,l[i]?=some x/\P x=true/\l.find? P=some x/\l.findIdx? P=some i/\GK P l=(i:Int):=by
 cases h:l.findIdx? P with
 |none=>
  left
  have h2:=List.findIdx?_eq_none_iff.1 h;refine⟨nJ.2 λx hx=>by rw[h2 x hx];decide,rfl,?_⟩;unfold GK;rw[h]
 |some i=>
  right
  obtain⟨hi,h1,h2⟩:=List.findIdx?_eq_some_iff_getElem.1 h;refine⟨i,l[i],aj hi,h1,?_,rfl,?_⟩
  ·rw[List.find?_eq_some_iff_getElem];exact⟨h1,i,hi,rfl,λj hj=>by simpa using h2 j hj⟩
  ·unfold GK;rw[h]
section
variable {W:World} {L R:LH} {K:VK} {X:WK} {p:Nat} {m:aA} {mb kb:OA} {mc kc:Nat} {a:bJ} {t:cM}
def T.TG{A:HP}(h:T W (ML p m mb mc kb kc (A::R)) X):T W (A::ML p m mb mc kb kc R) X:=
 T.perm h (bp (l₁:=[A]) (l₂:=[_,_,_])|>.append_right R)
def T.in1{A:HP}(h:T W (A::ML p m mb mc kb kc R) X):T W (ML p m mb mc kb kc (A::R)) X:=
 T.perm h (bp (l₁:=[_,_,_]) (l₂:=[A])|>.append_right R)
def X7(hm:RM m)(ha:xR a)(h:∀sS sR,T W (ML p (m.make a).2 sS sR kb kc R) (K (.i (m.make a).1))):T W (ML p m mb mc kb kc R) (kT (ah p) (aL a) K):=by
 unfold kT;have xy:=hm.og;have xw:=hm.many;have uZ:=hm.ay;apply ws;intros;rename_i r1;refine OG ha ?_;apply ws;intros;unfold aA.make at h;apply dj<;>intro g1
 ·have g1:uw a≠0:=by simpa using g1
  rw[ai g1] at h;have:=h mb mc;exact T.dp this
 have g1:uw a=0:=by simpa using g1
 rw[ag (λhh=>hh g1)] at h;have Re:=JH g1;apply ws;intros;refine T.TG ?_;refine yi (by omega) ?_;apply ws;intros;unfold aA.find at h;rcases rR (λx:bJ=>decide (x.id=a.id)) m.cE with⟨f1,f2,f3⟩|⟨i,x,f1,f2,f3,f4,f5⟩
 ·rw[f1] at h;dsimp only at h;rw[f3];refine fW (by decide) ?_;apply ws;intros;apply ga<;>intro g2
  ·rw[ai (by omega)] at h;refine T.in1 ?_;exact T.drop (h mb mc)
  ·rw[ag (by omega)] at h;have e1:aa.wrap (m.ay+1)=m.ay+1:=aW (by omega);have e2:aa.wrap (aa.wrap (a.aq.tdiv 2)* 2)=a.aq/2* 2:=by rw[yF Re.1 (by omega) (by decide),aW (by omega)]
   apply ws;intros;rw[e1];refine dO (by decide) ?_;rw[e2];apply ws;intros;refine jS (b:=mb) (g:=aL) (l:=m.cE) (x:={a with ay:=m.ay+1,aq:=a.aq/2* 2}) (bO _) rfl rfl (by show(m.cE.length+1)* 112<=_;omega) (by show m.cE.length+1<=_;omega) (iT _) λb' c'=>?_;apply ws;intros;have:=h b' c';unfold ML HA at this;simp only[aw,bE,cO,aC] at this;refine T.sub this ?_;exact qo
 ·rw[f3] at h;dsimp only at h;rw[f5];have SX:=(ao.1 f1).1;have hz:=hm.ground.zero x (bD f1);refine mP (av (by omega)) ?_;apply ws;intros;refine dL (b:=mb) ⟨by omega,by omega⟩ λrb hb=>?_;rw[ak];subst hb;refine gT j0 f1 ?_;refine OI (by omega) (by omega) ?_;apply ws;intros;refine T.in1 ?_;exact T.drop (h _ mc)
end
def mvA(m:aA)(t:cM)(d c:bJ)(n:Nat):Int×aA:=
 if(more d true n (decide (has t.aq 2))).2≠0 then((more d true n (decide (has t.aq 2))).2,m)
 else if(more c false n (decide (has t.aq 2))).2≠0 then((more c false n (decide (has t.aq 2))).2,m)
 else(0,m.kY t {t with aU:=n} (waits t))
def mvB(m:aA)(t:cM)(d c:bJ)(n:Nat):Int×aA:=
 if has t.aq 32 then(if min n (iR c false)=0 then(34,m) else mvA m t d c (min n (iR c false))) else mvA m t d c n
def mvC(m:aA)(t:cM)(d c:bJ)(n:Nat):Int×aA:=
 if has t.aq 16 then(if min n (iR d true)=0 then(33,m) else mvB m t d c (min n (iR d true))) else mvB m t d c n
def ado{m:aA}{t:cM}{d c:bJ}(h1:nG t=0)(h2: ¬ke t.aq)(h3:m.named t.id=none)(hd:(m.find t.bw).map m.full=some d)(hc:(m.find t.aP).map m.full=some c)
 (h4:d.ba=c.ba)(h5:d.ba=t.ba)(h6: ¬8<=d.aq)(h7: ¬8<=c.aq)(h8: ¬96<=m.ax.length):m.move t=mvC m t d c (if t.aU=0 then bG-1 else t.aU):=by
 unfold aA.move jU;rw[hd,hc,h3];dsimp only;rw[ag (show ¬nG t≠0 from λhh=>hh h1),ag h2,ag (show ¬d.ba≠c.ba from λhh=>hh h4),ag (show ¬d.ba≠t.ba from λhh=>hh h5),ag h6,ag h7,ag h8];have key:∀n:Nat,dh t d c=(n,0)->(let r:=(if(dh t d c).2≠0 then((dh t d c).2,0) else if(more d true (dh t d c).1 (decide (has t.aq 2))).2≠0 then((more d true (dh t d c).1 (decide (has t.aq 2))).2,0)
                      else if(more c false (dh t d c).1 (decide (has t.aq 2))).2≠0 then((more c false (dh t d c).1 (decide (has t.aq 2))).2,0) else(0,(dh t d c).1):Int×Nat)
                      if r.1≠0 then(r.1,m) else(0,m.kY t {t with aU:=r.2} (waits t)))=mvA m t d c n:=λn he=>by
  rw[he];dsimp only;rw[ag (show ¬((0:Int)≠0) from λhh=>hh rfl)];unfold mvA;by_cases g1:(more d true n (decide (has t.aq 2))).2≠0
  ·rw[ai g1,ai g1,ai g1]
  ·rw[ag g1,ag g1];by_cases g2:(more c false n (decide (has t.aq 2))).2≠0
   ·rw[ai g2,ai g2,ai g2]
   ·rw[ag g2,ag g2]
    rfl
 have bad:∀r:Int,r≠0->dh t d c=(0,r)->(let r:=(if(dh t d c).2≠0 then((dh t d c).2,0) else if(more d true (dh t d c).1 (decide (has t.aq 2))).2≠0 then((more d true (dh t d c).1 (decide (has t.aq 2))).2,0)
  else if(more c false (dh t d c).1 (decide (has t.aq 2))).2≠0 then((more c false (dh t d c).1 (decide (has t.aq 2))).2,0) else(0,(dh t d c).1):Int×Nat)
  if r.1≠0 then(r.1,m) else(0,m.kY t {t with aU:=r.2} (waits t)))=(r,m):=λr hr he=>by
  rw[he];dsimp only;rw[ai hr,ai hr]
 unfold mvC mvB;generalize hn:(if t.aU=0 then bG-1 else t.aU)=n;by_cases a1:has t.aq 16
 ·rw[ai a1];by_cases a2:min n (iR d true)=0
  ·rw[ai a2];refine bad 33 (by decide) ?_;unfold dh;rw[hn];simp only[ai a1,a1,a2,and_self,if_true]
  ·rw[ag a2];by_cases a3:has t.aq 32
   ·rw[ai a3];by_cases a4:min (min n (iR d true)) (iR c false)=0
    ·rw[ai a4];refine bad 34 (by decide) ?_;unfold dh;rw[hn];simp only[ai a1,ai a3,a1,a2,a3,a4,and_self,if_true,and_false,if_false]
    ·rw[ag a4];refine key _ ?_;unfold dh;rw[hn];simp only[ai a1,ai a3,a1,a2,a3,a4,and_self,if_true,and_false,if_false]
   ·rw[ag a3];refine key _ ?_;unfold dh;rw[hn];simp only[ai a1,ag a3,a1,a2,a3,and_self,if_true,and_false,false_and,if_false]
 ·rw[ag a1];by_cases a3:has t.aq 32
  ·rw[ai a3];by_cases a4:min n (iR c false)=0
   ·rw[ai a4];refine bad 34 (by decide) ?_;unfold dh;rw[hn];simp only[ag a1,ai a3,a1,a3,a4,and_self,if_true,and_false,false_and,if_false]
   ·rw[ag a4];refine key _ ?_;unfold dh;rw[hn];simp only[ag a1,ai a3,a1,a3,a4,and_self,if_true,and_false,false_and,if_false]
  ·rw[ag a3];refine key _ ?_;unfold dh;rw[hn];simp only[ag a1,ag a3,a1,a3,and_self,if_true,and_false,false_and,if_false]
section
variable {W:World} {L R:LH} {K:VK} {X:WK} {p:Nat} {m:aA} {mb kb:OA} {mc kc:Nat} {a d c:bJ} {t:cM} {r1 r2 r3 r4 r5:Nat} {n:Nat}
def T.Lt{L':LH}{A:HP}(h:T W (ML p m mb mc kb kc (A::L')) X):T W (A::ML p m mb mc kb kc L') X:=T.TG h
def L2(hm:m.ax.length<1000000)(hs:0<=m.ay/\m.ay<1000000)(hd:NH d)(hc:NH c)(Xs:d.aq<256)(Xt:c.aq<256)(hf:0<=t.aq/\t.aq<1000000)(hn:n<bG)
 (h:∀lO lN,T W (ML p (mvA m t d c n).2 mb mc lO lN R) (K (.i (mvA m t d c n).1))):
 T W (ML p m mb mc kb kc (Sep.pt r5 (nm n)::Sep.pt r4 [.u 0,.u 0]::Sep.pt r3 (aL c)::Sep.pt r2 (aL d)::Sep.pt r1 (aM t)::R)) (bV.j3 K r1 r2 r5 r3 (ah p)):=by
 obtain⟨d1,d2,d3,d4,d5,d6⟩:=hd;obtain⟨c1,c2,c3,c4,c5,c6⟩:=hc;unfold bV.j3;unfold mvA at h;apply ws;intros;refine lE hf (by decide) ?_;apply ws;intros;refine IT ⟨d1,d2,d3,d4⟩ hn ⟨d5,Xs⟩ ?_;refine aaV ?_;refine Ez (by rfl) ?_;apply ws;intros;apply dj<;>intro g1
 ·have g1:=fP.1 g1;rw[ai g1] at h;refine T.sub (h kb kc) ?_;exact qo
 have g1:(more d true n (decide (has t.aq 2))).2=0:=by simpa using g1
 rw[ag (λhh=>hh g1)] at h;apply ws;intros;refine IT ⟨c1,c2,c3,c4⟩ hn ⟨c5,Xt⟩ ?_;refine aaV ?_;refine Ez (by rfl) ?_;apply ws;intros;apply dj<;>intro g2
 ·have g2:=fP.1 g2;rw[ai g2] at h;refine T.sub (h kb kc) ?_;exact qo
 have g2:(more c false n (decide (has t.aq 2))).2=0:=by simpa using g2
 rw[ag (λhh=>hh g2)] at h;apply ws;intros;rename_i r6;refine T.Lt ?_;by_cases hw:has t.aq 2
 ·rw[av hw];rw[show waits t=1 from ai hw] at h;apply ws;intros;refine Kc hm hs λb' c'=>?_;apply ws;intros;refine T.sub (h b' c') ?_;exact qo
 ·rw[ar hw];rw[show waits t=0 from ag hw] at h;apply ws;intros;refine Kc hm hs λb' c'=>?_;apply ws;intros;refine T.sub (h b' c') ?_;exact qo
def Ja(a b:Nat):(if a<b then a else b)=min a b:=by split<;>omega
def Jp{a:bJ}{b:Bool}(h:NH a):iR a b<bG:=by
 obtain⟨h1,h2,h3,h4,_⟩:=h;unfold iR;split<;>omega
def L3(hm:m.ax.length<1000000)(hs:0<=m.ay/\m.ay<1000000)(hd:NH d)(hc:NH c)(Xs:d.aq<256)(Xt:c.aq<256)(hf:0<=t.aq/\t.aq<1000000)(hn:n<bG)
 (h:∀lO lN,T W (ML p (mvB m t d c n).2 mb mc lO lN R) (K (.i (mvB m t d c n).1))):
 T W (ML p m mb mc kb kc (Sep.pt r5 (nm n)::Sep.pt r4 [.u 0,.u 0]::Sep.pt r3 (aL c)::Sep.pt r2 (aL d)::Sep.pt r1 (aM t)::R)) (bV.j2 K r1 r5 r3 r4 r2 (ah p)):=by
 have hl:=Jp (b:=false) hc;unfold bV.j2;unfold mvB at h;apply ws;intros;refine lE hf (by decide) ?_;by_cases hw:has t.aq 32
 ·rw[av hw];rw[ai hw] at h;apply ws;intros;refine C8 ⟨hc.1,hc.2.1,hc.2.2.1,hc.2.2.2.1⟩ ?_;refine Ez (by rfl) ?_;apply ws;intros;refine Gg hn hl ?_;refine Ez (by rfl) ?_;rw[Ja];apply ws;intros;apply ga<;>intro g1
  ·rw[ai g1] at h;refine T.sub (h kb kc) ?_;exact qo
  ·rw[ag g1] at h;exact L2 hm hs hd hc Xs Xt hf (by omega) h
 ·rw[ar hw];rw[ag hw] at h;apply ws;intros;exact L2 hm hs hd hc Xs Xt hf hn h
def L4(hm:m.ax.length<1000000)(hs:0<=m.ay/\m.ay<1000000)(hd:NH d)(hc:NH c)(Xs:d.aq<256)(Xt:c.aq<256)(hf:0<=t.aq/\t.aq<1000000)(hn:n<bG)
 (h:∀lO lN,T W (ML p (mvC m t d c n).2 mb mc lO lN R) (K (.i (mvC m t d c n).1))):
 T W (ML p m mb mc kb kc (Sep.pt r5 (nm n)::Sep.pt r4 [.u 0,.u 0]::Sep.pt r3 (aL c)::Sep.pt r2 (aL d)::Sep.pt r1 (aM t)::R)) (bV.j1 K r1 r5 r2 r4 r3 (ah p)):=by
 have hl:=Jp (b:=true) hd;unfold bV.j1;unfold mvC at h;apply ws;intros;refine lE hf (by decide) ?_;by_cases hw:has t.aq 16
 ·rw[av hw];rw[ai hw] at h;apply ws;intros;refine C8 ⟨hd.1,hd.2.1,hd.2.2.1,hd.2.2.2.1⟩ ?_;refine Ez (by rfl) ?_;apply ws;intros;refine Gg hn hl ?_;refine Ez (by rfl) ?_;rw[Ja];apply ws;intros;apply ga<;>intro g1
  ·rw[ai g1] at h;refine T.sub (h kb kc) ?_;exact qo
  ·rw[ag g1] at h;exact L3 hm hs hd hc Xs Xt hf (by omega) h
 ·rw[ar hw];rw[ag hw] at h;apply ws;intros;exact L3 hm hs hd hc Xs Xt hf hn h
end
section
variable {W:World} {L R:LH} {K:VK} {X:WK} {p:Nat} {m:aA} {mb kb:OA} {mc kc:Nat} {a d c:bJ} {t:cM} {r1 r2 r3 r4 r5:Nat} {n:Nat}
def Of{α:Type}{r n c e o j q:Nat}{l:List α}{x:α}{g:α->LV}{f:HP->LH}{ys:LV}{K:LV->WK}[i:u9 (ah r) n c L e (l.flatMap g) f](hf:∀x,(g x).length=e)(hx:l[o]?=some x)[s:Sub (g x) j q ys](h:T W L (K ys)):T W L (aJ ⟨r,o* e+j,none⟩ q K):=λw hs=>by
 obtain⟨k,hk,_⟩:=i.at_;exact E6 hs hk s.is.1 (λu v hu=>by rw[Nat.add_assoc];exact ra hf l o x hx _ v (s.is.2 u v hu)) (h w hs)
def Og{α:Type}{r n c e o q:Nat}{l:List α}{x:α}{g:α->LV}{f:HP->LH}{ys:LV}{K:LV->WK}[i:u9 (ah r) n c L e (l.flatMap g) f](hf:∀x,(g x).length=e)(hx:l[o]?=some x)[s:Sub (g x) 0 q ys](h:T W L (K ys)):T W L (aJ ⟨r,o* e,none⟩ q K):=Of (j:=0) hf hx h
def Eh{m:aA}(h:RM m){a:bJ}(ha:a∈m.cE):NH (m.full a)/\(m.full a).aq<256/\(m.full a).ba=a.ba:=by
 have h1:=LZ m.ax (h.rkA a ha);refine⟨h1,?_,?_⟩
 ·rw[h.ground.full ha];obtain⟨z1,z2,z3,z4,z5,z6⟩:=h.ground.zero a ha;show(if S (u1 a.id) m.ax=0 then a.aq else a.aq%8+8)<256;split<;>omega
 ·rw[h.ground.full ha];rfl
def Wx{m:aA}{t:cM}{r:Int}(hr:r≠0)(h:jU t (m.named t.id) ((m.find t.bw).map m.full) ((m.find t.aP).map m.full) m.ax.length=(r,0)):m.move t=(r,m):=by
 unfold aA.move;rw[h];dsimp only;rw[ai hr]
def QL(hm:RM m)(ht:Ab t)(h:∀lO lN,T W (ML p (m.move t).2 mb mc lO lN R) (K (.i (m.move t).1))):T W (ML p m mb mc kb kc R) (bV (ah p) (aM t) K):=by
 unfold bV;have xy:=hm.og;have xw:=hm.many;have uZ:=hm.ay;apply ws;intros;rename_i r1;refine Bc ht ?_;apply ws;intros;have tX:∀r:Int,r≠0->jU t (m.named t.id) ((m.find t.bw).map m.full) ((m.find t.aP).map m.full) m.ax.length=(r,0)->∀lO lN,T W (ML p m mb mc lO lN R) (K (.i r)):=λr hr he lO lN=>by
  have:=h lO lN;rw[Wx hr he] at this;exact this
 unfold jU at tX;apply dj<;>intro g1
 ·have g1:nG t≠0:=by simpa using g1
  rw[ai g1] at tX;have:=tX _ g1 rfl kb kc;exact T.dp this
 have g1:nG t=0:=by simpa using g1
 rw[ag (λhh=>hh g1)] at tX;obtain⟨Re,htm⟩:=xM g1;have hf:0<=t.aq/\t.aq<1000000:=by omega
 apply ws;intros;refine xo hf ?_;apply ws;intros;apply ga<;>intro g2
 ·rw[ai g2] at tX;have:=tX _ (by decide) rfl kb kc;exact T.dp this
 rw[ag g2] at tX;apply ws;intros;refine T.TG ?_;refine Kb (by omega) ?_;apply ws;intros;have Rb:m.named t.id=m.ax.find? λk=>decide (k.move.id=t.id):=rfl;rcases rR (λx:ch=>decide (x.move.id=t.id)) m.ax with⟨f1,f2,f3⟩|⟨i,x,f1,f2,f3,f4,f5⟩
 rotate_left
 ·rw[Rb,f3] at tX;dsimp only at tX;rw[f5];have SX:=(ao.1 f1).1;have hx:=hm.ax x (bD f1);refine mP (av (by omega)) ?_;apply ws;intros;refine dL (b:=kb) ⟨by omega,by omega⟩ λrb hb=>?_;rw[ak];subst hb;refine Og jH f1 ?_;refine Gl hf ⟨hx.vP.1,by have:=hx.vP.2;omega⟩ ?_;apply ws;intros;refine T.sub (tX _ (tr _ _) rfl (ah rb) kc) ?_;exact qo
 rw[Rb,f1] at tX;dsimp only at tX;rw[f3];refine fW (by decide) ?_;apply ws;intros;refine yi (by omega) ?_;apply ws;intros;refine yi (by omega) ?_;apply ws;intros;have hfd:m.find t.bw=m.cE.find? λa=>decide (a.id=t.bw):=rfl;have hfc:m.find t.aP=m.cE.find? λa=>decide (a.id=t.aP):=rfl;rcases rR (λx:bJ=>decide (x.id=t.bw)) m.cE with⟨d1,d2,d3⟩|⟨i,d,d1,d2,d3,d4,d5⟩
 ·rw[hfd,d1] at tX;rw[d3];refine mP (by decide) ?_;refine T.sub (tX 19 (by decide) rfl kb kc) ?_;exact qo
 rw[hfd,d3] at tX;rw[d5];refine fW (ar (by omega)) ?_;rcases rR (λx:bJ=>decide (x.id=t.aP)) m.cE with⟨c1,c2,c3⟩|⟨j,c,c1,c2,c3,c4,c5⟩
 ·rw[hfc,c1] at tX;rw[c3];refine mP (by decide) ?_;refine T.sub (tX 20 (by decide) rfl kb kc) ?_;exact qo
 rw[hfc,c3] at tX;rw[c5];refine fW (ar (by omega)) ?_;dsimp only[fw] at tX;have Fc:=bD d1;have TQ:=bD c1;obtain⟨hda,Xs,AW⟩:=Eh hm Fc;obtain⟨hca,Xt,qj⟩:=Eh hm TQ;refine Cb (by omega) d1 (hm.rkA d Fc) hm.rkK ?_;refine Ez (by rfl) ?_;apply ws;intros;rename_i r2;refine T.Lt ?_;refine Cb (by omega) c1 (hm.rkA c TQ) hm.rkK ?_;refine Ez (by rfl) ?_;apply ws;intros;rename_i r3;refine T.Lt ?_;have ed:m.ax.foldl xn d=m.full d:=rfl;have ec:m.ax.foldl xn c=m.full c:=rfl;rw[ed,ec];apply dj<;>intro g3
 ·have g3:=fP.1 g3;rw[ai g3] at tX;refine T.sub (tX _ (by decide) rfl kb kc) ?_;exact qo
 have g3:(m.full d).ba=(m.full c).ba:=by simpa using g3
 rw[ag (λhh=>hh g3)] at tX;apply ws;intros;apply dj<;>intro g4
 ·have g4:=fP.1 g4;rw[ai g4] at tX;refine T.sub (tX _ (by decide) rfl kb kc) ?_;exact qo
 have g4:(m.full d).ba=t.ba:=by simpa using g4
 rw[ag (λhh=>hh g4)] at tX;apply ws;intros;apply ga<;>intro g5
 ·rw[ai (show 8<=(m.full d).aq by omega)] at tX;refine T.sub (tX _ (by decide) rfl kb kc) ?_;exact qo
 rw[ag (show ¬8<=(m.full d).aq by omega)] at tX;apply ws;intros;apply ga<;>intro g6
 ·rw[ai (show 8<=(m.full c).aq by omega)] at tX;refine T.sub (tX _ (by decide) rfl kb kc) ?_;exact qo
 rw[ag (show ¬8<=(m.full c).aq by omega)] at tX;apply ws;intros;apply ga<;>intro g7
 ·rw[ai (show 96<=m.ax.length by omega)] at tX;refine T.sub (tX _ (by decide) rfl kb kc) ?_;exact qo
 have hmi:=ado (m:=m) (t:=t) (d:=m.full d) (c:=m.full c) g1 g2 (by rw[Rb,f1]) (by rw[hfd,d3];rfl) (by rw[hfc,c3];rfl) g3 g4 (by omega) (by omega) (by omega);rw[hmi] at h;apply ws;intros;rename_i r4 r5;apply ga<;>intro g8
 ·rw[ai g8] at h;apply ws;intros;have ew:([.u 18446744073709551615,.u 18446744073709551615]:LV)=nm (bG-1):=by unfold nm bG;rfl
  rw[ew];refine T.perm (L:=ML p m mb mc kb kc (Sep.pt r5 (nm (bG-1))::Sep.pt r4 [.u 0,.u 0]::Sep.pt r3 (aL (m.full c))::Sep.pt r2 (aL (m.full d))::Sep.pt r1 (aM t)::R)) ?_ (bp (l₁:=[Sep.pt r5 (nm (bG-1)),Sep.pt r4 [.u 0,.u 0]]) (l₂:=[_,_,_])|>.append_right _);exact L4 (by omega) (by omega) hda hca Xs Xt hf (by unfold bG;decide) h
 ·rw[ag g8] at h;refine T.perm (L:=ML p m mb mc kb kc (Sep.pt r5 (nm t.aU)::Sep.pt r4 [.u 0,.u 0]::Sep.pt r3 (aL (m.full c))::Sep.pt r2 (aL (m.full d))::Sep.pt r1 (aM t)::R)) ?_ (bp (l₁:=[Sep.pt r5 (nm t.aU),Sep.pt r4 [.u 0,.u 0]]) (l₂:=[_,_,_])|>.append_right _);exact L4 (by omega) (by omega) hda hca Xs Xt hf ht.aU h
end
def V4(m:aA)(t:cM)(i:Nat)(k:ch):Int×aA:=
 if mq t k.move then(26,m) else if has t.aq 4/\m.closed k.move.bw i=true then(30,m) else if has t.aq 4/\m.closed k.move.aP i=true then(31,m) else if 96<=m.ax.length then(35,m)
 else(0,(m.dH i (cK t)).kY t (mJ t k.move) 0)
def ad7{m:aA}{t:cM}{i:Nat}{k:ch}(h1:nG t=0)(h2:ke t.aq)(h3:m.named t.id=none)(hi:m.name t.pending=some i)(hk:m.ax[i]?=some k)
 (h4:has k.move.aq 2)(h5: ¬gi t k.move)(h6: ¬1<k.fate):m.py t=V4 m t i k:=by
 unfold aA.py oy;rw[hi];dsimp only;rw[hk,h3];dsimp only;rw[ag (show ¬nG t≠0 from λhh=>hh h1),ag (show ¬ ¬ke t.aq from λhh=>hh h2),ag (show ¬ ¬has k.move.aq 2 from λhh=>hh h4),ag h5,ag h6];unfold V4;by_cases a1:mq t k.move
 ·rw[ai a1,ai a1];rfl
 rw[ag a1,ag a1];by_cases a2:has t.aq 4/\m.closed k.move.bw i=true
 ·rw[ai a2,ai a2];rfl
 rw[ag a2,ag a2];by_cases a3:has t.aq 4/\m.closed k.move.aP i=true
 ·rw[ai a3,ai a3];rfl
 rw[ag a3,ag a3];by_cases a4:96<=m.ax.length
 ·rw[ai a4,ai a4];rfl
 rw[ag a4,ag a4];rfl
def LO{m:aA}{i:Nat}{x:ch}(hx:m.ax[i]?=some x)(f:Int):m.dH i f={m with ax:=m.ax.set i {x with fate:=f}}:=by
 obtain⟨hi,he⟩:=ao.1 hx;unfold aA.dH;rw[modify_eq _ _ _ hi,he]
def Py{m:aA}{i:Nat}{x:ch}{id:Nat}{a:bJ}(hx:m.ax[i]?=some x)(hf:m.find id=some a):m.closed id i=decide (8<=((m.ax.set i {x with fate:=3}).foldl xn a).aq):=by
 obtain⟨hi,he⟩:=ao.1 hx;unfold aA.closed;rw[hf];dsimp only;rw[modify_eq _ _ _ hi,he]
section
variable {W:World} {L R:LH} {K:VK} {X:WK} {p:Nat} {m:aA} {mb kb:OA} {mc kc:Nat} {a d c:bJ} {t u:cM} {r1 r2 r3 r4 r5:Nat} {n i:Nat} {x:ch}
def Gb(hm:RM m)(hx:m.ax[i]?=some x){id:Nat}(tG:id∈m.cE.map (·.id))(h:T W (ML p m mb mc kb kc R) (K (.b (m.closed id i)))):T W (ML p m mb mc kb kc R) (gR (ah p) (nm id) (i:Int) K):=by
 have xy:=hm.og;have xw:=hm.many;rcases rR (λx:bJ=>decide (x.id=id)) m.cE with⟨f1,f2,f3⟩|⟨j,y,f1,f2,f3,f4,f5⟩
 ·obtain⟨a,ha,he⟩:=cA.1 tG;have:=nJ.1 f1 a ha;rw[he] at this;exact aQ (av rfl) this
 ·rw[Py hx (show m.find id=some y from f3)] at h;exact Sj (by omega) (by omega) hx f5 f1 (hm.rkA y (bD f1)) hm.rkK h
def QM(hs:0<=m.ay/\m.ay<1000000)(hm:m.ax.length<1000000)(hn:n=cV t u)
 (h:∀lO lN,T W (ML p (m.kY t (mJ t u) 0) mb mc lO lN R) (K (.i 0))):
 T W (ML p m mb mc kb kc (Sep.pt r4 (nm n)::Sep.pt r3 [.u 0,.u 0]::Sep.pt r2 (aM u)::Sep.pt r1 (aM t)::R)) (az.j6 K r1 r2 r4 (ah p)):=by
 unfold az.j6;subst hn;apply ws;intros;rename_i r5;refine T.Lt ?_;refine Kc (u:=mJ t u) hm hs λb' c'=>?_;apply ws;intros;refine T.sub (h b' c') ?_;exact qo
def QN(hm:RM m)(hx:m.ax[i]?=some x)(YV: ¬1<x.fate)
 (h:∀lO lN,T W (ML p (V4 m t i x).2 mb mc lO lN R) (K (.i (V4 m t i x).1)))(ht:t.aU<bG):
 T W (ML p m mb mc kb kc (Sep.pt r4 (nm (cV t x.move))::Sep.pt r3 [.u 0,.u 0]::Sep.pt r2 (aM x.move)::Sep.pt r1 (aM t)::R)) (az.j2 K (decide (has t.aq 4)) r2 r4 (ah p) (i:Int) r1):=by
 have xy:=hm.og;have xw:=hm.many;have uZ:=hm.ay;have oB:=bD hx;have SX:=(ao.1 hx).1;have Xm:=hm.ground.wg x oB;have Vx:=hm.ax x oB;have hea:cV t x.move<bG:=by unfold cV;split;exact Vx.move.aU;exact ht
 have MB:∀f:Int,∀lO lN,T W (ML p (m.dH i f) mb mc lO lN (Sep.pt r4 (nm (cV t x.move))::Sep.pt r3 [.u 0,.u 0]::Sep.pt r2 (aM x.move)::Sep.pt r1 (aM t)::R)) (az.j6 K r1 r2 r4 (ah p))->
  T W (Sep.pt p (HA m mb mc lO lN)::own mb m.cE.length mc 14 (m.cE.flatMap aL)::own lO m.ax.length lN 33 ((m.ax.set i {x with fate:=f}).flatMap bF)::(Sep.pt r4 (nm (cV t x.move))::Sep.pt r3 [.u 0,.u 0]::Sep.pt r2 (aM x.move)::Sep.pt r1 (aM t)::R)) (az.j6 K r1 r2 r4 (ah p)):=λf lO lN hh=>by
  rw[LO hx] at hh;exact W7 jm hh
 have j5:∀b:Bool,((has t.aq 4/\m.closed x.move.bw i=true)->False)-> ¬mq t x.move->b=decide (has t.aq 4/\m.closed x.move.aP i=true)->
  T W (ML p m mb mc kb kc (Sep.pt r4 (nm (cV t x.move))::Sep.pt r3 [.u 0,.u 0]::Sep.pt r2 (aM x.move)::Sep.pt r1 (aM t)::R)) (az.j5 K (ah p) (i:Int) (decide (has t.aq 4)) r1 r2 r4 b):=λb E9 kN hb=>by
  unfold az.j5;unfold V4 at h;rw[ag kN,ag E9] at h;cases b with
  |true=>
   rw[ai (aR hb.symm)] at h;apply ws;intros;refine T.sub (h kb kc) ?_;exact qo
  |false=>
   rw[ag (bn hb.symm)] at h;apply ws;intros;apply ga<;>intro g1
   ·rw[ai (by omega)] at h;refine T.sub (h kb kc) ?_;exact qo
   rw[ag (by omega)] at h;apply ws;intros;refine dL (b:=kb) ⟨by omega,by omega⟩ λrb wX=>?_;rw[ak];subst wX;refine Qh ?_;refine FO (o:=i) (x:=x) (y:={x with fate:=3}) jH hx rfl (by decide) rfl ?_;have hsl:m.ax.length=(m.ax.set i {x with fate:=3}).length:=jm.symm;by_cases h4:has t.aq 4
   ·rw[av h4];rw[show cK t=2 from ai h4] at h;apply ws;intros;refine dL (b:=ah rb) ⟨by omega,by omega⟩ λrb2 wX=>?_;rw[ak];cases wX
    refine Qh ?_;refine FO (o:=i) (x:={x with fate:=3}) (y:={x with fate:=2}) jH (by rw[List.getElem?_set_self (by omega)]) rfl (by decide) rfl ?_;rw[jM];refine MB 2 _ _ ?_;refine QM (m:=m.dH i 2) (by show 0<=m.ay/\m.ay<1000000;omega) (by show(m.ax.modify i _).length<_;rw[List.length_modify];omega) rfl h
   ·rw[ar h4];rw[show cK t=3 from ag h4] at h;apply ws;intros;refine MB 3 _ _ ?_;refine QM (m:=m.dH i 3) (by show 0<=m.ay/\m.ay<1000000;omega) (by show(m.ax.modify i _).length<_;rw[List.length_modify];omega) rfl h
 have j4:∀b:Bool,¬mq t x.move->b=decide (has t.aq 4/\m.closed x.move.bw i=true)->
  T W (ML p m mb mc kb kc (Sep.pt r4 (nm (cV t x.move))::Sep.pt r3 [.u 0,.u 0]::Sep.pt r2 (aM x.move)::Sep.pt r1 (aM t)::R)) (az.j4 K (decide (has t.aq 4)) r2 (ah p) (i:Int) r1 r4 b):=λb kN hb=>by
  unfold az.j4;cases b with
  |true=>
   unfold V4 at h;rw[ag kN,ai (aR hb.symm)] at h;apply ws;intros;refine T.sub (h kb kc) ?_;exact qo
  |false=>
   have E9:=bn hb.symm;by_cases h4:has t.aq 4
   ·rw[av h4] at j5⊢;apply ws;intros;refine Gb hm hx Xm.2.2 ?_;refine oU ?_;refine j5 _ E9 kN ?_;cases qj:m.closed x.move.aP i
    ·exact(ar (λhh=>aQ hh.2 (by decide))).symm
    ·exact(av ⟨h4,rfl⟩).symm
   ·rw[ar h4] at j5⊢;apply ws;intros;exact j5 _ E9 kN (ar (λhh=>h4 hh.1)).symm
 have j3:∀b:Bool,b=decide (mq t x.move)->
  T W (ML p m mb mc kb kc (Sep.pt r4 (nm (cV t x.move))::Sep.pt r3 [.u 0,.u 0]::Sep.pt r2 (aM x.move)::Sep.pt r1 (aM t)::R)) (az.j3 K (decide (has t.aq 4)) r2 (ah p) (i:Int) r1 r4 b):=λb hb=>by
  unfold az.j3;cases b with
  |true=>
   unfold V4 at h;rw[ai (aR hb.symm)] at h;apply ws;intros;refine T.sub (h kb kc) ?_;exact qo
  |false=>
   have kN:=bn hb.symm;by_cases h4:has t.aq 4
   ·rw[av h4] at j4⊢;apply ws;intros;refine Gb hm hx Xm.2.1 ?_;refine oU ?_;refine j4 _ kN ?_;cases qj:m.closed x.move.bw i
    ·exact(ar (λhh=>aQ hh.2 (by decide))).symm
    ·exact(av ⟨h4,rfl⟩).symm
   ·rw[ar h4] at j4⊢;apply ws;intros;exact j4 _ kN (ar (λhh=>h4 hh.1)).symm
 unfold az.j2 az.j7;by_cases h4:has t.aq 4
 ·rw[av h4] at j3⊢;apply ws;intros;refine uV Vx.move.aU hea ?_;apply ws;intros;apply ga<;>intro g1
  ·exact j3 _ (av (show mq t x.move from .inl ⟨h4,g1⟩)).symm
  ·apply ws;intros;refine j3 _ (ar (λhh:mq t x.move=>?_)).symm;rcases hh with hh|hh
   ·exact g1 hh.2
   ·exact hh.1 h4
 ·rw[ar h4] at j3⊢;apply ws;intros;refine j3 _ ?_;by_cases he:cV t x.move=x.move.aU
  ·rw[av he];refine(ar (λhh:mq t x.move=>?_)).symm;rcases hh with hh|hh
   ·exact h4 hh.1
   ·exact hh.2 he
  ·rw[ar he];exact(av (show mq t x.move from .inr ⟨h4,he⟩)).symm
end
section
variable {W:World} {L R:LH} {K:VK} {X:WK} {p:Nat} {m:aA} {mb kb:OA} {mc kc:Nat} {a d c:bJ} {t u:cM} {r1 r2 r3 r4 r5:Nat} {n i:Nat} {x:ch}
def Zx{m:aA}{t:cM}{i:Nat}{k:ch}{r:Int}(hi:m.name t.pending=some i)(hk:m.ax[i]?=some k)(hr:r≠0)(h:oy t (m.named t.id) (some k) (m.closed k.move.bw i) (m.closed k.move.aP i) m.ax.length=r):m.py t=(r,m):=by
 unfold aA.py;rw[hi];dsimp only;rw[hk];dsimp only;rw[h,ai hr]
def X9{b:Bool}(hm:RM m)(hx:m.ax[i]?=some x)(htf:0<=t.aq/\t.aq<1000000)(ht:t.aU<bG)(hb:b=decide (gi t x.move))
 (h1:gi t x.move->∀lO lN,T W (ML p m mb mc lO lN R) (K (.i 25)))
 (h2: ¬gi t x.move->1<x.fate->∀lO lN,T W (ML p m mb mc lO lN R) (K (.i (25+x.fate))))
 (h: ¬gi t x.move-> ¬1<x.fate->∀lO lN,T W (ML p (V4 m t i x).2 mb mc lO lN R) (K (.i (V4 m t i x).1))):
 T W (ML p m mb mc kb kc (Sep.pt r3 [.u 0,.u 0]::Sep.pt r2 (aM x.move)::Sep.pt r1 (aM t)::R)) (az.j1 K (ah p) (i:Int) r1 r3 r2 b):=by
 have xw:=hm.many;have oB:=bD hx;have SX:=(ao.1 hx).1;have hft:=hm.ground.vB x oB;unfold az.j1;cases b with
 |true=>
  apply ws;intros;refine T.sub (h1 (aR hb.symm) kb kc) ?_;exact qo
 |false=>
  have hn:=bn hb.symm;apply ws;intros;refine dL (b:=kb) ⟨by omega,by omega⟩ λrb wX=>?_;rw[ak];subst wX;refine Qk ?_;refine CX (o:=i) (x:=x) jH hx rfl ?_;apply ws;intros;apply ga<;>intro g1
  ·apply ws;intros;refine dL (b:=ah rb) ⟨by omega,by omega⟩ λrb2 wX=>?_;rw[ak];cases wX
   refine Qk ?_;refine CX (o:=i) (x:=x) jH hx rfl ?_;apply ws;intros;rw[aW (by omega)];refine T.sub (h2 hn g1 (ah rb) kc) ?_;exact qo
  ·apply ws;intros;refine lE htf (by decide) ?_;apply ws;intros;rename_i r4;have fin:=h hn g1;apply ga<;>intro g2
   ·apply ws;intros;refine T.Lt ?_;have e:cV t x.move=x.move.aU:=ai g2;rw[<-e];exact QN hm hx g1 fin ht
   ·refine T.Lt ?_;have e:cV t x.move=t.aU:=ag g2;rw[<-e];exact QN hm hx g1 fin ht
def X8{b:Bool}(hm:RM m)(hx:m.ax[i]?=some x)(htf:0<=t.aq/\t.aq<1000000)(ht:t.aU<bG)(hb:b=decide (t.bw≠0/\t.bw≠x.move.bw))
 (h1:gi t x.move->∀lO lN,T W (ML p m mb mc lO lN R) (K (.i 25)))
 (h2: ¬gi t x.move->1<x.fate->∀lO lN,T W (ML p m mb mc lO lN R) (K (.i (25+x.fate))))
 (h: ¬gi t x.move-> ¬1<x.fate->∀lO lN,T W (ML p (V4 m t i x).2 mb mc lO lN R) (K (.i (V4 m t i x).1))):
 T W (ML p m mb mc kb kc (Sep.pt r3 [.u 0,.u 0]::Sep.pt r2 (aM x.move)::Sep.pt r1 (aM t)::R)) (az.j8 K (ah p) (i:Int) r1 r3 r2 b):=by
 have j1:∀b:Bool,b=decide (gi t x.move)->T W (ML p m mb mc kb kc (Sep.pt r3 [.u 0,.u 0]::Sep.pt r2 (aM x.move)::Sep.pt r1 (aM t)::R)) (az.j1 K (ah p) (i:Int) r1 r3 r2 b):=λb hb=>X9 hm hx htf ht hb h1 h2 h;have Bl:∀b:Bool,b=decide ((t.bw≠0/\t.bw≠x.move.bw)\/(t.aP≠0/\t.aP≠x.move.aP)\/(t.ba≠0/\t.ba≠x.move.ba))->
  T W (ML p m mb mc kb kc (Sep.pt r3 [.u 0,.u 0]::Sep.pt r2 (aM x.move)::Sep.pt r1 (aM t)::R)) (az.Bl K (ah p) (i:Int) r1 r3 r2 b):=λb hb=>by
  unfold az.Bl;cases b with
  |true=>
   have hc:=aR hb.symm;refine j1 true (av ?_).symm;rcases hc with hc|hc|hc
   ·exact .inl hc
   ·exact .inr (.inl hc)
   ·exact .inr (.inr (.inl hc))
  |false=>
   have hc:=bn hb.symm;apply ws;intros;apply dj<;>intro g1
   ·have g1:=fP.1 g1;apply ws;intros;refine j1 _ ?_;rw[cf,fP,decide_eq_true_eq];refine⟨λhh=>.inr (.inr (.inr ⟨g1,hh⟩)),λhh=>?_⟩;rcases hh with hh|hh|hh|hh
    ·exact aQ (.inl hh) hc
    ·exact aQ (.inr (.inl hh)) hc
    ·exact aQ (.inr (.inr hh)) hc
    ·exact hh.2
   ·have g1:t.code=0:=by simpa using g1
    refine j1 false (ar (λhh=>?_)).symm;rcases hh with hh|hh|hh|hh
    ·exact aQ (.inl hh) hc
    ·exact aQ (.inr (.inl hh)) hc
    ·exact aQ (.inr (.inr hh)) hc
    ·exact hh.1 g1
 have j9:∀b:Bool,b=decide ((t.bw≠0/\t.bw≠x.move.bw)\/(t.aP≠0/\t.aP≠x.move.aP))->
  T W (ML p m mb mc kb kc (Sep.pt r3 [.int .u64 0,.int .u64 0]::Sep.pt r2 (aM x.move)::Sep.pt r1 (aM t)::R)) (az.j9 K (some ⟨p,0,none⟩) (i:Int) r1 r3 r2 b):=λb hb=>by
  unfold az.j9;cases b with
  |true=>
   have hc:=aR hb.symm;refine Bl true (av ?_).symm;rcases hc with hc|hc
   ·exact .inl hc
   ·exact .inr (.inl hc)
  |false=>
   have hc:=bn hb.symm;apply ws;intros;apply dj<;>intro g1
   ·have g1:=fP.1 g1;apply ws;intros;refine Bl _ ?_;rw[cf,fP,decide_eq_true_eq];refine⟨λhh=>.inr (.inr ⟨g1,hh⟩),λhh=>?_⟩;rcases hh with hh|hh|hh
    ·exact aQ (.inl hh) hc
    ·exact aQ (.inr hh) hc
    ·exact hh.2
   ·have g1:t.ba=0:=by simpa using g1
    refine Bl false (ar (λhh=>?_)).symm;rcases hh with hh|hh|hh
    ·exact aQ (.inl hh) hc
    ·exact aQ (.inr hh) hc
    ·exact hh.1 g1
 unfold az.j8;cases b with
 |true=>exact j9 true (av (.inl (aR hb.symm))).symm
 |false=>
  have hc:=bn hb.symm;apply ws;intros;by_cases g1:t.aP=0
  ·rw[av g1];refine j9 false (ar (λhh=>?_)).symm;rcases hh with hh|hh
   ·exact hc hh
   ·exact hh.1 g1
  ·rw[ar g1];apply ws;intros;refine j9 _ ?_;by_cases g2:t.aP=x.move.aP
   ·rw[av g2];refine(ar (λhh=>?_)).symm;rcases hh with hh|hh
    ·exact hc hh
    ·exact hh.2 g2
   ·rw[ar g2];exact(av (.inr ⟨g1,g2⟩)).symm
def abl(hm:RM m)(ht:Ab t)(h:∀lO lN,T W (ML p (m.py t).2 mb mc lO lN R) (K (.i (m.py t).1))):T W (ML p m mb mc kb kc R) (az (ah p) (aM t) K):=by
 unfold az;have xy:=hm.og;have xw:=hm.many;have uZ:=hm.ay;apply ws;intros;rename_i r1;refine Bc ht ?_;apply ws;intros;have MG:m.name t.pending=none->∀r:Int,oy t (m.named t.id) none false false m.ax.length=r->∀lO lN,T W (ML p m mb mc lO lN R) (K (.i r)):=λhn r he lO lN=>by
  have:=h lO lN;unfold aA.py at this;rw[hn] at this;dsimp only at this;rw[he] at this;exact this
 have MF:∀i k,m.name t.pending=some i->m.ax[i]?=some k->∀r:Int,r≠0->oy t (m.named t.id) (some k) (m.closed k.move.bw i) (m.closed k.move.aP i) m.ax.length=r->∀lO lN,T W (ML p m mb mc lO lN R) (K (.i r)):=λi k hi hk r hr he lO lN=>by
  have:=h lO lN;rw[Zx hi hk hr he] at this;exact this
 have tX:∀r:Int,r≠0->(∀pd dC cC,oy t (m.named t.id) pd dC cC m.ax.length=r)->∀lO lN,T W (ML p m mb mc lO lN R) (K (.i r)):=λr hr he=>by
  rcases rR (λx:ch=>decide (x.move.id=t.pending)) m.ax with⟨f1,f2,f3⟩|⟨i,x,f1,f2,f3,f4,f5⟩
  ·exact MG f2 r (he _ _ _)
  ·exact MF i x f4 f1 r hr (he _ _ _)
 unfold oy at tX MG MF;apply dj<;>intro g1
 ·have g1:nG t≠0:=by simpa using g1
  have:=tX _ g1 (λ_ _ _=>ai g1) kb kc;exact T.dp this
 have g1:nG t=0:=by simpa using g1
 simp only[ag (show ¬nG t≠0 from λhh=>hh g1)] at tX MG MF;obtain⟨Re,htm⟩:=xM g1;have hf:0<=t.aq/\t.aq<1000000:=by omega
 apply ws;intros;refine xo hf ?_;apply ws;intros;by_cases g2:ke t.aq
 rotate_left
 ·rw[ar g2];have:=tX 6 (by decide) (λ_ _ _=>ai g2) kb kc;apply ws;intros;exact T.dp this
 rw[av g2];simp only[ag (show ¬ ¬ke t.aq from λhh=>hh g2)] at tX MG MF;apply ws;intros;refine T.TG ?_;refine Kb (by omega) ?_;apply ws;intros;have Rb:m.named t.id=m.ax.find? λk=>decide (k.move.id=t.id):=rfl;rcases rR (λx:ch=>decide (x.move.id=t.id)) m.ax with⟨f1,f2,f3⟩|⟨i,x,f1,f2,f3,f4,f5⟩
 rotate_left
 ·rw[Rb,f3] at tX;dsimp only at tX;rw[f5];have SX:=(ao.1 f1).1;have hx:=hm.ax x (bD f1);refine mP (av (by omega)) ?_;apply ws;intros;refine dL (b:=kb) ⟨by omega,by omega⟩ λrb hb=>?_;rw[ak];subst hb;refine Og jH f1 ?_;refine Gl hf ⟨hx.vP.1,by have:=hx.vP.2;omega⟩ ?_;apply ws;intros;refine T.sub (tX _ (tr _ _) (λ_ _ _=>rfl) (ah rb) kc) ?_;exact qo
 rw[Rb,f1] at tX MG;have NT:m.named t.id=none:=by rw[Rb,f1]
 rw[NT] at MF;dsimp only at tX MG MF;rw[f3];refine fW (by decide) ?_;apply ws;intros;refine Kb (by omega) ?_;apply ws;intros;rcases rR (λx:ch=>decide (x.move.id=t.pending)) m.ax with⟨d1,d2,d3⟩|⟨i,x,d1,d2,d3,d4,d5⟩
 ·rw[d3];refine mP (by decide) ?_;refine T.sub (MG d2 23 rfl kb kc) ?_;exact qo
 have tX:=MF i x d4 d1;clear MG MF;have SX:=(ao.1 d1).1;have oB:=bD d1;have hx:=hm.ax x oB;rw[d5];refine fW (ar (by omega)) ?_;apply ws;intros;refine dL (b:=kb) ⟨by omega,by omega⟩ λrb hb=>?_;rw[ak];subst hb;refine Um ?_;refine Of jH d1 ?_;apply ws;intros;rename_i r2 r3;have hxf:0<=x.move.aq/\x.move.aq<1000000:=⟨hx.xq.1,by have:=hx.xq.2;omega⟩;refine lE hxf (by decide) ?_;apply ws;intros;by_cases g3:has x.move.aq 2
 rotate_left
 ·rw[ai g3] at tX;rw[ar g3];apply ws;intros;refine T.sub (tX 24 (by decide) rfl (ah rb) kc) ?_;exact qo
 rw[ag (λhh=>hh g3)] at tX;rw[av g3];apply ws;intros;have fin:∀b:Bool,b=decide (t.bw≠0/\t.bw≠x.move.bw)->T W (Sep.pt r3 [.u 0,.u 0]::Sep.pt r2 (aM x.move)::ML p m mb mc (ah rb) kc (Sep.pt r1 (aM t)::R)) (az.j8 K (ah p) (i:Int) r1 r3 r2 b):=λb hb=>by
  refine T.perm (L:=ML p m mb mc (ah rb) kc (Sep.pt r3 [.u 0,.u 0]::Sep.pt r2 (aM x.move)::Sep.pt r1 (aM t)::R)) ?_ (bp (l₁:=[Sep.pt r3 [.u 0,.u 0],Sep.pt r2 (aM x.move)]) (l₂:=[_,_,_])|>.append_right _);refine X8 hm d1 hf ht.aU hb (λhn=>tX 25 (by decide) (ai hn)) (λhn YV=>tX (25+x.fate) (by omega) (by rw[ag hn,ai YV])) (λhn YV lO lN=>?_);have:=h lO lN;rw[ad7 g1 g2 NT d4 d1 g3 hn YV] at this;exact this
 by_cases g4:t.bw=0
 ·rw[av g4];exact fin false (ar (λhh=>hh.1 g4)).symm
 ·rw[ar g4];apply ws;intros;refine fin _ ?_;by_cases g5:t.bw=x.move.bw
  ·rw[av g5];exact(ar (λhh=>hh.2 g5)).symm
  ·rw[ar g5];exact(av ⟨g4,g5⟩).symm
end
inductive It where
 |a(x:bJ)
 |t(x:cM)
def BK:It->LV
 | .a x=>.b true::(aL x++aM zT)
 | .t x=>.b false::(aL zA++aM x)
def xY(m:aA):It->Int×aA
 | .a x=>m.make x
 | .t x=>m.rA x
def Bi:It->Bool
 | .a x=>BJ x
 | .t x=>BH x
def PW:It->Prop
 | .a x=>xR x
 | .t x=>Ab x
def Q6(x:It):(BK x).length=31:=by cases x<;>rfl
instance{x:bJ}{t:cM}{b:Value}:Gt (b::(aL x++aM t)) 13 (.i x.aq):=⟨rfl⟩
instance{x:bJ}{t:cM}{b:Value}:Gt (b::(aL x++aM t)) 28 (.i t.aq):=⟨rfl⟩
def Q5(x:It):∀v∈BK x,v.oneCell'=true:=λv hv=>by
 cases x with
 |a x=>
  rcases kf.1 hv with h|h
  ·subst h;rfl
  ·rcases dF.1 h with h|h
   ·exact iT _ v h
   ·exact pK _ v h
 |t x=>
  rcases kf.1 hv with h|h
  ·subst h;rfl
  ·rcases dF.1 h with h|h
   ·exact iT _ v h
   ·exact pK _ v h
instance{x:bJ}{t:cM}{b:Value}:Sub (b::(aL x++aM t)) 1 14 (aL x):=⟨rfl,λj v h=>by
 rw[Nat.add_comm 1 j,bT,bh (ao.1 h).1];exact h⟩
instance{x:bJ}{t:cM}{b:Value}:Sub (b::(aL x++aM t)) 15 16 (aM t):=⟨rfl,λj v h=>by
 have hl:(aL x).length=14:=rfl
 rw[show 15+j=14+j+1 by omega,bT,iW (by omega),hl,Nat.add_sub_cancel_left];exact h⟩
def RM.xY{m:aA}{x:It}(h:RM m)(hx:PW x):RM (xY m x).2:=by
 cases x with
 |a x=>exact h.make hx
 |t x=>exact h.rA hx
def Lx(n:Int):(n.tmod 2!=0)=decide (n%2=1):=by
 rw[cf,fP,decide_eq_true_eq];rcases Int.le_total 0 n with h|h
 ·rw[dX h];omega
 ·obtain⟨k,rfl⟩:∃k:Int,n= -k:=⟨-n,by omega⟩;rw[Int.neg_tmod,dX (by omega)];omega
section
variable {W:World} {L R:LH} {K:VK} {X:WK} {p:Nat} {m:aA} {mb kb:OA} {mc kc:Nat} {x:It}
def L5(h:T W L (K (.b (Bi x)))):T W L (ny (BK x) K):=by
 unfold ny;cases x with
 |a x=>
  rw[show BK (It.a x)=.b true::(aL x++aM zT) from rfl];apply ws;intros;refine dO (by decide) ?_;rw[Lx];exact T.dp h
 |t x=>
  rw[show BK (It.t x)=.b false::(aL zA++aM x) from rfl];apply ws;intros;refine dO (by decide) ?_;rw[Lx];exact T.dp h
def Yb(hm:RM m)(hx:PW x)(h:∀sS sR lO lN,T W (ML p (xY m x).2 sS sR lO lN R) (K (.i (xY m x).1))):T W (ML p m mb mc kb kc R) (jx (ah p) (BK x) K):=by
 unfold jx jx.j1;cases x with
 |a x=>
  rw[show BK (It.a x)=.b true::(aL x++aM zT) from rfl];apply ws;intros;refine T.TG ?_;refine X7 hm hx λsS sR=>?_;apply ws;intros;refine T.sub (h sS sR kb kc) ?_
  repeat (first|exact bj.refl _|apply bj.cons_cons|apply bj.cons)
 |t x=>
  rw[show BK (It.t x)=.b false::(aL zA++aM x) from rfl];apply ws;intros;refine Bc hx ?_;rw[show xY m (It.t x)=m.rA x from rfl] at h;unfold aA.rA at h;apply ws;intros;apply dj<;>intro g1
  ·have g1:nG x=0:=by simpa using g1
   obtain⟨Re,htm⟩:=xM g1;apply ws;intros;refine xo (by omega) ?_;apply ws;intros;by_cases g2:ke x.aq
   ·rw[av g2];rw[ai ⟨g1,g2⟩] at h;apply ws;intros;refine T.TG ?_;refine abl hm hx λlO lN=>?_;apply ws;intros;refine T.sub (h mb mc lO lN) ?_;exact qo
   ·rw[ar g2];rw[ag (λhh=>g2 hh.2)] at h;apply ws;intros;refine T.TG ?_;refine QL hm hx λlO lN=>?_;apply ws;intros;refine T.sub (h mb mc lO lN) ?_;exact qo
  ·have g1: ¬nG x=0:=by simpa using g1
   rw[ag (λhh=>g1 hh.1)] at h;apply ws;intros;refine T.TG ?_;refine QL hm hx λlO lN=>?_;apply ws;intros;refine T.sub (h mb mc lO lN) ?_;exact qo
def HZ{s:OA}{c:Nat}{l:List bJ}[hh:Has R L](hr:mZ W R aL 14 s l)(hl:l.length<=1000000)
 (h:∀b c,T W (own b l.length c 31 ((l.map It.a).flatMap BK)::L) (K (.l b l.length c))):T W L (me s l.length c K):=by
 unfold me;refine iB (e:=31) ?_;intro w jO;refine⟨λvv w=>∃(i:Nat)(b:OA)(c2:Nat)(out:List It),i<=l.length/\out=(l.take i).map It.a/\vv=[.l none 0 0,.l b i c2,.l s l.length c,.i (l.length:Int),.i (i:Int)]/\St W w (own b i c2 31 (out.flatMap BK)::L),
  λvs _=>match vs with|[_,_,_,_,.int _ d]=>l.length-d.toNat|_=>0,⟨0,none,0,[],aE _,rfl,rfl,jO⟩,?_⟩
 rintro jT jd ku b i c2 tD sK tC n1 n2 w2 ⟨i0,b0,c0,out,hi,zf,e,hO⟩;cases e
 refine T.at ?_ hO;have e5:=nK i;apply ga<;>intro g1
 ·have bX:i<l.length:=by omega
  have gx:=aj bX;generalize l[i]=x at gx;refine iU hr ⟨by omega,by omega⟩ rfl λa ha=>?_;rw[ak];refine jR hr ha gx (j0 x) ?_;apply ws;intros;refine jS (g:=BK) (l:=out) (x:=It.a x) (by rw[bO];rfl) rfl rfl (by omega) (by omega) (Q5 _) λb' c'=>?_;rw[e5];refine T.drop (T.sub (M:=own b' (i+1) c' 31 ((out++[It.a x]).flatMap BK)::L) (λw3 h3=>⟨⟨i+1,b',c',out++[It.a x],bX,?_,rfl,h3⟩,by show l.length-((i+1:Nat):Int).toNat<l.length-(i:Int).toNat;omega⟩) (by repeat (first|exact bj.refl _|apply bj.cons_cons|apply bj.cons)));rw[bg,gx,cY,zf];rfl
 ·have jk:i=l.length:=by omega
  subst jk;rw[aS] at zf;subst zf;exact h _ _
def Gf{s:OA}{c:Nat}{l:List cM}[hh:Has R L](hr:mZ W R aM 16 s l)(hl:l.length<=1000000)
 (h:∀b c,T W (own b l.length c 31 ((l.map It.t).flatMap BK)::L) (K (.l b l.length c))):T W L (lC s l.length c K):=by
 unfold lC;refine iB (e:=31) ?_;intro w jO;refine⟨λvv w=>∃(i:Nat)(b:OA)(c2:Nat)(out:List It),i<=l.length/\out=(l.take i).map It.t/\vv=[.l none 0 0,.l b i c2,.l s l.length c,.i (l.length:Int),.i (i:Int)]/\St W w (own b i c2 31 (out.flatMap BK)::L),
  λvs _=>match vs with|[_,_,_,_,.int _ d]=>l.length-d.toNat|_=>0,⟨0,none,0,[],aE _,rfl,rfl,jO⟩,?_⟩
 rintro jT jd ku b i c2 tD sK tC n1 n2 w2 ⟨i0,b0,c0,out,hi,zf,e,hO⟩;cases e
 refine T.at ?_ hO;have e5:=nK i;apply ga<;>intro g1
 ·have bX:i<l.length:=by omega
  have gx:=aj bX;generalize l[i]=x at gx;refine iU hr ⟨by omega,by omega⟩ rfl λa ha=>?_;rw[ak];refine jR hr ha gx (Dd x) ?_;apply ws;intros;refine jS (g:=BK) (l:=out) (x:=It.t x) (by rw[bO,bO];rfl) rfl rfl (by omega) (by omega) (Q5 _) λb' c'=>?_;rw[e5];refine T.drop (T.sub (M:=own b' (i+1) c' 31 ((out++[It.t x]).flatMap BK)::L) (λw3 h3=>⟨⟨i+1,b',c',out++[It.t x],bX,?_,rfl,h3⟩,by show l.length-((i+1:Nat):Int).toNat<l.length-(i:Int).toNat;omega⟩) (by repeat (first|exact bj.refl _|apply bj.cons_cons|apply bj.cons)));rw[bg,gx,cY,zf];rfl
 ·have jk:i=l.length:=by omega
  subst jk;rw[aS] at zf;subst zf;exact h _ _
end
def Bk(p:Nat)(m:aA)(mb:OA)(mc:Nat)(kb:OA)(kc:Nat)(R:LH)(p2:Nat)(m':aA)(sS:OA)(sR:Nat)(lO:OA)(lN:Nat)(R':LH):Prop:=
 (R'=R/\p2=p/\m'=m/\sS=mb/\sR=mc/\lO=kb/\lN=kc)\/R'=ML p m mb mc kb kc R
def U2{n:Nat}{o:Option (Nat×Int)}{q:Nat}(hq:q<n):(lg n o)[q]?=some (match o with|none=>0|some (i,c)=>if q=i then c else 1):=by
 unfold lg;cases o with
 |none=>simp[hq]
 |some e=>
  obtain⟨i,c⟩:=e;dsimp only;rw[da];by_cases h:i=q
  ·subst h;rw[ai rfl,ai (by simpa using hq),ai rfl]
  ·rw[ag h,ag (λhh=>h hh.symm)];simp[hq]
def PX(x:Int):∀v∈I1 x,v.oneCell'=true:=λv hv=>by simp[I1] at hv;subst hv;rfl
section
variable {W:World} {L R:LH} {K:VK} {X:WK} {p:Nat} {m:aA} {mb kb:OA} {mc kc:Nat} {x:It}
def W0(W:World)(R:LH)(p:Nat)(m:aA)(mb:OA)(mc:Nat)(kb:OA)(kc:Nat)(l:List It)(lb:OA)(lc:Nat)(vv:LV)(w:World):Prop:=
 ∃(at_ fuel:Nat)(m':aA)(done:List Int)(p2:Nat)(sS:OA)(sR:Nat)(lO:OA)(lN:Nat)(ob:OA)(oc:Nat)(R':LH),at_<=l.length/\done.length=at_/\l.length<=fuel+at_/\
  iC xY Bi l.length m l=(done++(iC xY Bi fuel m' (l.drop at_)).1,(iC xY Bi fuel m' (l.drop at_)).2)/\RM m'/\Bk p m mb mc kb kc R p2 m' sS sR lO lN R'/\
  vv=[.p (ah p2),.l none 0 0,.p none,.l ob at_ oc,.i (at_:Int)]/\
  St W w (ML p2 m' sS sR lO lN (own ob at_ oc 1 (done.flatMap I1)::own lb l.length lc 31 (l.flatMap BK)::R'))
def Rmu(n:Nat)(vs:LV)(_:World):Nat:=match vs with|[_,_,_,_,.int _ d]=>n-d.toNat|_=>0
def Ka{w2:World}{l:List It}{lb:OA}{lc:Nat}{at_ fuel n:Nat}{m' mN:aA}{done:List Int}{p2 p6:Nat}{sS lO nb nk ob:OA}{sR lN nc Va oc:Nat}{R':LH}{o:Option (Nat×Int)}{bad code:Int}
 (hl:l.length<=1000)(hn:0<n)(CQ:at_+n<=l.length)(AW:done.length=at_)(TP:l.length<=fuel+(at_+n))(ho:(o=none/\bad<0)\/∃i,o=some (i,code)/\i<n/\bad=((at_+i:Nat):Int))(NU:RM m')(hmN:RM mN)
 (AY:Bk p m mb mc kb kc R p2 m' sS sR lO lN R')
 (pM:iC xY Bi l.length m l=(done++lg n o++(iC xY Bi fuel (if o=none then mN else m') (l.drop (at_+n))).1,(iC xY Bi fuel (if o=none then mN else m') (l.drop (at_+n))).2)):
 T W (ML p6 mN nb nc nk Va (ML p2 m' sS sR lO lN (own ob at_ oc 1 (done.flatMap I1)::own lb l.length lc 31 (l.flatMap BK)::R')))
   (cB.j3 K (W0 W R p m mb mc kb kc l lb lc) (Rmu l.length) (ah p2) none 0 0 none ob at_ oc (at_:Int) w2 (ah p2) none 0 0 none ob at_ oc (at_:Int) ((at_+n-1:Nat):Int) bad code (ah p6)):=by
 unfold cB.j3;intro w jO;refine⟨λvv w=>∃(q:Nat)(b:OA)(c:Nat),q<=n/\vv=[.p (ah p2),.l none 0 0,.p none,.l b (at_+q) c,.i (at_:Int),.i ((at_+n-1:Nat):Int),.i bad,.i code,.p (ah p6),.i ((at_+q:Nat):Int)]/\
  St W w (ML p6 mN nb nc nk Va (ML p2 m' sS sR lO lN (own b (at_+q) c 1 ((done++(lg n o).take q).flatMap I1)::own lb l.length lc 31 (l.flatMap BK)::R'))),
  λvs _=>match vs with|[_,_,_,_,_,_,_,_,_,.int _ d]=>at_+n-d.toNat|_=>0,⟨0,ob,oc,aE _,rfl,by rw[ox,bO];exact jO⟩,?_⟩
 rintro IY Hv FW Hu Ye b J3 c Bf DZ Dc SC U0 n15 w4 ⟨q,b0,c0,hq,e,zi⟩;cases e
 refine T.at ?_ zi;have e5:aa.wrap (((at_+q:Nat):Int)+1)=((at_+(q+1):Nat):Int):=by rw[aW (by omega)];omega
 apply ga<;>intro g1
 ·have bX:q<n:=by omega
  have Cu:=U2 (o:=o) bX;have rI:(lg n o).take (q+1)=(lg n o).take q++[match o with|none=>0|some (i,c)=>if q=i then c else 1]:=by rw[bg,Cu];rfl
  rcases ho with⟨rfl,hb⟩|⟨i,rfl,hi,rfl⟩
  ·refine mP (av hb) ?_;refine dO ⟨rfl,trivial⟩ ?_;refine uH λr1=>?_;refine jS (g:=I1) (l:=done++(lg n _).take q) (x:=(0:Int)) rfl rfl rfl (by omega) (by omega) (PX _) λb' c'=>?_;rw[e5];refine T.drop λw5 h5=>⟨⟨q+1,b',c',bX,rfl,by rw[rI,<-aI];exact h5⟩,by show at_+n-((at_+(q+1):Nat):Int).toNat<at_+n-((at_+q:Nat):Int).toNat;omega⟩
  ·refine fW (ar (by omega)) ?_;by_cases hqi:q=i
   ·subst hqi;refine mP (by simp) ?_;dsimp only at rI;rw[ai rfl] at rI;refine dO ⟨rfl,trivial⟩ ?_;refine uH λr1=>?_;refine jS (g:=I1) (l:=done++(lg n _).take q) (x:=code) rfl rfl rfl (by omega) (by omega) (PX _) λb' c'=>?_;rw[e5];refine T.drop λw5 h5=>⟨⟨q+1,b',c',bX,rfl,by rw[rI,<-aI];exact h5⟩,by show at_+n-((at_+(q+1):Nat):Int).toNat<at_+n-((at_+q:Nat):Int).toNat;omega⟩
   ·refine fW (by simp;omega) ?_;dsimp only at rI;rw[ag hqi] at rI;refine dO ⟨rfl,trivial⟩ ?_;refine uH λr1=>?_;refine jS (g:=I1) (l:=done++(lg n _).take q) (x:=(1:Int)) rfl rfl rfl (by omega) (by omega) (PX _) λb' c'=>?_;rw[e5];refine T.drop λw5 h5=>⟨⟨q+1,b',c',bX,rfl,by rw[rI,<-aI];exact h5⟩,by show at_+n-((at_+(q+1):Nat):Int).toNat<at_+n-((at_+q:Nat):Int).toNat;omega⟩
 ·have jk:q=n:=by omega
  subst jk;rw[bS (Nat.le_of_eq (kX q o))];have e6:aa.wrap (((at_+q-1:Nat):Int)+1)=((at_+q:Nat):Int):=by rw[aW (by omega)];omega
  rw[e6];rcases ho with⟨rfl,hb⟩|⟨i,rfl,hi,rfl⟩
  ·refine mP (av hb) ?_;rw[ai rfl] at pM;have fin:∀N5,Bk p m mb mc kb kc R p6 mN nb nc nk Va N5->T W (ML p6 mN nb nc nk Va (own b (at_+q) c 1 ((done++lg q none).flatMap I1)::own lb l.length lc 31 (l.flatMap BK)::N5))
                           (λw8=>W0 W R p m mb mc kb kc l lb lc [.p (ah p6),.l none 0 0,.p none,.l b (at_+q) c,.i ((at_+q:Nat):Int)] w8/\Rmu l.length [.p (ah p6),.l none 0 0,.p none,.l b (at_+q) c,.i ((at_+q:Nat):Int)] w8<Rmu l.length [.p (ah p2),.l none 0 0,.p none,.l ob at_ oc,.i (at_:Int)] w2):=λN5 afU w8 h8=>by
    refine⟨⟨at_+q,fuel,mN,done++lg q none,p6,nb,nc,nk,Va,b,c,N5,CQ,by rw[aw,kX];omega,TP,pM,hmN,afU,rfl,h8⟩,?_⟩;show l.length-((at_+q:Nat):Int).toNat<l.length-(at_:Int).toNat;omega
   rcases AY with⟨rfl,rfl,rfl,rfl,rfl,rfl,rfl⟩|rfl
   ·refine T.perm (fin _ (.inr rfl)) ?_;exact(bp (l₁:=[Sep.pt p2 (HA m' sS sR lO lN),own sS m'.cE.length sR 14 (m'.cE.flatMap aL),own lO m'.ax.length lN 33 (m'.ax.flatMap bF)]) (l₂:=[_,_])|>.append_right R').append_left [_,_,_]
   ·refine T.sub (fin _ (.inr rfl)) ?_;exact qo
  ·refine fW (ar (by omega)) ?_;rw[ag (by simp)] at pM;refine T.drop (T.drop (T.drop λw8 h8=>?_));refine⟨⟨at_+q,fuel,m',done++lg q (some (i,code)),p2,sS,sR,lO,lN,b,c,R',CQ,by rw[aw,kX];omega,TP,pM,NU,AY,rfl,h8⟩,?_⟩;show l.length-((at_+q:Nat):Int).toNat<l.length-(at_:Int).toNat;omega
def QK{w2:World}{l:List It}{lb:OA}{lc:Nat}{at_ fuel n:Nat}{m':aA}{done:List Int}{p2:Nat}{sS lO ob:OA}{sR lN oc:Nat}{R':LH}{bad code:Int}
 (iH:∀x∈l,PW x)(hl:l.length<=1000)(hn:0<n)(CQ:at_+n<=l.length)(AW:done.length=at_)(TP:l.length<=fuel+(at_+n))(NU:RM m')
 (AY:Bk p m mb mc kb kc R p2 m' sS sR lO lN R')
 (Kt:cz Bi (l.drop at_)=(n,decide (bad<0)))(AI:(bad= -1/\code=0)\/(bad=((at_+n-1:Nat):Int)/\code=2/\at_+n=l.length))
 (pM:iC xY Bi l.length m l=(done++(iC xY Bi (fuel+1) m' (l.drop at_)).1,(iC xY Bi (fuel+1) m' (l.drop at_)).2)):
 T W (ML p2 m' sS sR lO lN (own ob at_ oc 1 (done.flatMap I1)::own lb l.length lc 31 (l.flatMap BK)::R'))
   (cB.j2 K (ah p2) none 0 0 none ob at_ oc (at_:Int) lb l.length (W0 W R p m mb mc kb kc l lb lc) (Rmu l.length) (ah p2) none 0 0 none ob at_ oc (at_:Int) w2 ((at_+n-1:Nat):Int) bad code):=by
 unfold cB.j2 cB.j4;have hmf:=NU.og;have hmm:=NU.many;refine Ke (by omega) (by omega) λp6 nb0 nc0 nk0 aff=>?_;apply ws;intros;have kN:l.drop at_≠[]:=λhh=>by have:=congrArg List.length hh;rw[aT] at this;simp at this;omega
 have gM:=C2 (f:=xY) (lk:=Bi) (n:=fuel) (s:=m') kN;have hdd:(l.drop at_).drop n=l.drop (at_+n):=kd;rw[Kt] at gM;dsimp only at gM;rw[hdd] at gM;intro w jO;refine⟨λvv w=>∃(i:Nat)(bd cd:Int)(mN:aA)(nb:OA)(nc:Nat)(nk:OA)(Va:Nat),i<=n/\RM mN/\
                                                                                                      ((bd<0/\bad<0/\iE xY m' ((l.drop at_).take i) 0=(none,mN))\/(∃q s,bd=((at_+q:Nat):Int)/\q<n/\bad<0/\iE xY m' ((l.drop at_).take n) 0=(some (q,cd),s))\/(bd=bad/\cd=code/\ ¬bad<0))/\
                                                                                                      vv=[.p (ah p2),.l none 0 0,.p none,.l ob at_ oc,.i (at_:Int),.i ((at_+n-1:Nat):Int),.i bd,.i cd,.p (ah p6),.i ((at_+i:Nat):Int)]/\
                                                                                                      St W w (ML p6 mN nb nc nk Va (ML p2 m' sS sR lO lN (own ob at_ oc 1 (done.flatMap I1)::own lb l.length lc 31 (l.flatMap BK)::R'))),
  λvs _=>match vs with|[_,_,_,_,_,_,_,_,_,.int _ d]=>at_+n-d.toNat|_=>0,⟨0,bad,code,m',nb0,nc0,nk0,aff,aE _,NU,?_,rfl,jO⟩,?_⟩
 ·by_cases hb:bad<0
  ·exact .inl ⟨hb,hb,rfl⟩
  ·exact .inr (.inr ⟨rfl,rfl,hb⟩)
 rintro p13 aiD aix aiA p14 ob1 KP oc1 zH n17 bd cd p15 n20 w11 ⟨i,bd0,cd0,mN,nb,nc,nk,Va,hi,hmN,uZ,e,hO⟩;cases e
 refine T.at ?_ hO;have e5:aa.wrap (((at_+i:Nat):Int)+1)=((at_+(i+1):Nat):Int):=by rw[aW (by omega)];omega
 have leave:(i=n\/ ¬bd<0)->T W (ML p6 mN nb nc nk Va (ML p2 m' sS sR lO lN (own ob at_ oc 1 (done.flatMap I1)::own lb l.length lc 31 (l.flatMap BK)::R')))
  (cB.j3 K (W0 W R p m mb mc kb kc l lb lc) (Rmu l.length) (ah p2) none 0 0 none ob at_ oc (at_:Int) w2 (ah p2) none 0 0 none ob at_ oc (at_:Int) ((at_+n-1:Nat):Int) bd cd (ah p6)):=λhlv=>by
  rcases uZ with⟨h1,h2,h3⟩|⟨q,s,h1,h2,h3,h4⟩|⟨h1,h2,h3⟩
  ·have tG:i=n:=by rcases hlv with hh|hh;exact hh;exact aQ h1 hh
   subst tG;refine Ka (fuel:=fuel) (o:=none) hl hn CQ AW TP (.inl ⟨rfl,h1⟩) NU hmN AY ?_;rw[ag (by rw[av h2];decide),h3] at gM;dsimp only at gM;rw[ai rfl,pM,gM];simp
  ·refine Ka (fuel:=fuel) (o:=some (q,cd)) hl hn CQ AW TP (.inr ⟨q,rfl,h2,h1⟩) NU hmN AY ?_;rw[ag (by rw[av h3];decide),h4] at gM;dsimp only at gM;rw[ag (by simp),pM,gM];simp
  ·subst h1 h2;rcases AI with⟨hb,_⟩|⟨hb,hc,Xr⟩
   ·omega
   refine Ka (fuel:=fuel) (o:=some (n-1,cd)) hl hn CQ AW TP (.inr ⟨n-1,rfl,by omega,by rw[hb];omega⟩) NU hmN AY ?_;rw[ai (by rw[ar h3])] at gM;rw[ag (by simp),pM,gM,hc];rw[show l.drop (at_+n)=[] from gL (by omega),xm];simp
 by_cases hlv:i=n\/ ¬bd<0
 ·have:=leave hlv;apply ga<;>intro g1
  ·have hb: ¬bd<0:=by rcases hlv with hh|hh;omega;exact hh
   rw[ar hb];exact this
  ·exact this
 ·have bX:i<n:=Decidable.byContradiction λhh=>hlv (.inl (by omega));have hb:bd<0:=Decidable.byContradiction λhh=>hlv (.inr hh);have Rf:bad<0/\iE xY m' ((l.drop at_).take i) 0=(none,mN):=by
   rcases uZ with⟨h1,h2,h3⟩|⟨q,s,h1,h2,h3,h4⟩|⟨h1,h2,h3⟩
   ·exact⟨h2,h3⟩
   ·omega
   ·omega
  have gx:=aj (show at_+i<l.length by omega);have Kp:=iH _ (bP (show at_+i<l.length by omega));generalize l[at_+i]=x at gx Kp;have gx2:(l.drop at_)[i]?=some x:=by rw[sJ];exact gx
  have rI:(l.drop at_).take (i+1)=(l.drop at_).take i++[x]:=by rw[bg,gx2];rfl
  have hti:((l.drop at_).take i).length=i:=by rw[aD,aT];omega
  refine mP (av (by omega)) ?_;rw[av hb];refine wQ ?_;refine dL (b:=lb) ⟨by omega,by omega⟩ λrb Ko=>?_;rw[ak];subst Ko;refine gT (g:=BK) Q6 gx ?_;refine Yb hmN Kp λnb' nc' nk' adg=>?_;apply ws;intros;rw[e5];apply dj<;>intro g2
  ·have g2:(xY mN x).1≠0:=by simpa using g2
   refine λw3 h3=>⟨⟨i+1,_,(xY mN x).1,_,nb',nc',nk',adg,bX,hmN.xY Kp,.inr (.inl ⟨i,mN,rfl,bX,Rf.1,?_⟩),rfl,h3⟩,by show at_+n-((at_+(i+1):Nat):Int).toNat<at_+n-((at_+i:Nat):Int).toNat;omega⟩;have vw:(l.drop at_).take n=(l.drop at_).take i++x::((l.drop at_).take n).drop (i+1):=by
    have e1:((l.drop at_).take n)[i]?=some x:=by rw[List.getElem?_take_of_lt bX];exact gx2
    obtain⟨SX,hie⟩:=ao.1 e1;have e2:=dy i ((l.drop at_).take n);rw[ij SX,hie,yO,rr (by omega)] at e2;exact e2.symm
   rw[vw,tg _ _ _ _ _ Rf.2,iE,ai g2,hti,aC]
  ·have g2:(xY mN x).1=0:=by simpa using g2
   refine λw3 h3=>⟨⟨i+1,bd,_,_,nb',nc',nk',adg,bX,hmN.xY Kp,.inl ⟨hb,Rf.1,?_⟩,rfl,h3⟩,by show at_+n-((at_+(i+1):Nat):Int).toNat<at_+n-((at_+i:Nat):Int).toNat;omega⟩;rw[rI,tg _ _ _ _ _ Rf.2,iE,ag (by omega)]
   rfl
def UN{l:List It}{lb:OA}{lc:Nat}(hm:RM m)(iH:∀x∈l,PW x)(hl:l.length<=1000)
 (h:∀p2 sS sR lO lN ob oc R',Bk p m mb mc kb kc R p2 (iC xY Bi l.length m l).2 sS sR lO lN R'->RM (iC xY Bi l.length m l).2->(iC xY Bi l.length m l).1.length=l.length->
  T W (ML p2 (iC xY Bi l.length m l).2 sS sR lO lN (own ob l.length oc 1 ((iC xY Bi l.length m l).1.flatMap I1)::own lb l.length lc 31 (l.flatMap BK)::R')) (K (.tuple ⟨[.l ob l.length oc,.p (some ⟨p2,0,none⟩)]⟩))):
 T W (ML p m mb mc kb kc (own lb l.length lc 31 (l.flatMap BK)::R)) (cB (some ⟨p,0,none⟩) lb l.length lc K):=by
 unfold cB cB.j1;refine iB (e:=1) ?_;refine T.Lt ?_;intro w jO;refine⟨W0 W R p m mb mc kb kc l lb lc,Rmu l.length,⟨0,l.length,m,[],p,mb,mc,kb,kc,none,0,R,aE _,rfl,by omega,by simp,hm,.inl ⟨rfl,rfl,rfl,rfl,rfl,rfl,rfl⟩,rfl,jO⟩,?_⟩;rintro p2v jT jd ku p3 ob at_ oc n1 w2 ⟨at0,fuel,m',done,p2,sS,sR,lO,lN,ob0,oc0,R',CQ,AW,TP,pM,NU,AY,e,hO⟩;cases e
 refine T.at ?_ hO;apply ga<;>intro g1
 ·have bX:at_<l.length:=by omega
  intro w3 xf;refine⟨λvv w=>∃e:Nat,at_<=e/\e<=l.length/\(∀j y,j<e-at_->(l.drop at_)[j]?=some y->Bi y=true)/\vv=[.p (some ⟨p2,0,none⟩),.l none 0 0,.p none,.l ob at_ oc,.i (at_:Int),.i (e:Int)]/\
   St W w (ML p2 m' sS sR lO lN (own ob at_ oc 1 (done.flatMap I1)::own lb l.length lc 31 (l.flatMap BK)::R')),
   λvs _=>match vs with|[_,_,_,_,_,.int _ d]=>l.length-d.toNat|_=>0,⟨at_,aH _,CQ,(λj y hj=>by omega),rfl,xf⟩,?_⟩
  rintro p16 aiC aiw aiz p17 aiB aiv aiy n22 n23 w15 ⟨en,aiS,aiR,fG,e,Q'⟩;cases e
  refine T.at ?_ Q';obtain⟨fuel,rfl⟩:∃k,fuel=k+1:=⟨fuel-1,by omega⟩;apply ga<;>intro g2
  ·have yx:en<l.length:=by omega
   have gx:=aj yx;generalize l[en]=x at gx;have gx2:(l.drop at_)[en-at_]?=some x:=by rw[sJ,show at_+(en-at_)=en by omega];exact gx
   refine dL (b:=lb) ⟨by omega,by omega⟩ λrb Ko=>?_;rw[ak];subst Ko;refine gT (g:=BK) Q6 gx ?_;refine L5 ?_;refine oU ?_;cases hlk:Bi x with
   |true=>
    refine wQ ?_;have e5:=nK en;rw[e5];refine λw6 h6=>⟨⟨en+1,by omega,yx,λj y hj hy=>?_,rfl,h6⟩,by show l.length-((en+1:Nat):Int).toNat<l.length-(en:Int).toNat;omega⟩;by_cases hje:j=en-at_
    ·subst hje;rw[gx2] at hy;cases hy
     exact hlk
    ·exact fG j y (by omega) hy
   |false=>
    refine ph ?_;refine fW (by simp;omega) ?_;have hc:=yL (linked:=Bi) fG gx2 hlk;have:=QK (W:=W) (R:=R) (K:=K) (p:=p) (m:=m) (mb:=mb) (mc:=mc) (kb:=kb) (kc:=kc) (w2:=w2) (lb:=some ⟨rb,0,none⟩) (lc:=lc) (n:=en-at_+1) (bad:= -1) (code:=0) (fuel:=fuel) (ob:=ob) (oc:=oc) (done:=done) iH hl (by omega) (by omega) AW (by omega) NU AY (by rw[hc];rfl) (.inl ⟨rfl,rfl⟩) pM;rw[show at_+(en-at_+1) -1=en by omega] at this;exact this
  ·have jk:en=l.length:=by omega
   subst jk;refine mP (by simp) ?_;have xz:(l.drop at_).length=l.length-at_:=aT;have hc:=wH (linked:=Bi) (l:=l.drop at_) λx hx=>by
    obtain⟨j,hj⟩:=qM hx;exact fG j x (by have:=(ao.1 hj).1;omega) hj
   have:=QK (W:=W) (R:=R) (K:=K) (p:=p) (m:=m) (mb:=mb) (mc:=mc) (kb:=kb) (kc:=kc) (w2:=w2) (lb:=lb) (lc:=lc) (n:=l.length-at_) (bad:=((l.length-1:Nat):Int)) (code:=2) (fuel:=fuel) (ob:=ob) (oc:=oc) (done:=done) iH hl (by omega) (by omega) AW (by omega) NU AY (by rw[hc,xz];rw[ar (by omega)]) (.inr ⟨by congr 1;omega,rfl,by omega⟩) pM;have e7:aa.wrap ((l.length:Int) -1)=((l.length-1:Nat):Int):=by rw[aW (by omega)];omega
   rw[show at_+(l.length-at_) -1=l.length-1 by omega] at this;rw[e7];exact this
 ·have jk:at_=l.length:=by omega
  subst jk;rw[List.drop_length,xm] at pM;simp only[bO] at pM;rw[pM] at h;exact h p2 sS sR lO lN ob oc R' AY NU AW
end
def Eo{α β:Type}(f:α->β)(lk:β->Bool):∀l:List α,cz lk (l.map f)=cz (λx=>lk (f x)) l
 |[]=>rfl
 |x::l=>by
  simp only[cW,cz];rw[Eo f lk l]
def JB{α β σ:Type}(f:α->β)(g:σ->β->Int×σ):∀(l:List α)(s:σ)(i:Nat),iE g s (l.map f) i=iE (λs x=>g s (f x)) s l i
 |[],s,i=>rfl
 |x::l,s,i=>by
  simp only[cW,iE];rw[JB f g l]
def F4{α β σ:Type}(f:α->β)(g:σ->β->Int×σ)(lk:β->Bool):∀(n:Nat)(s:σ)(l:List α),iC g lk n s (l.map f)=iC (λs x=>g s (f x)) (λx=>lk (f x)) n s l
 |0,s,l=>rfl
 |n+1,s,[]=>rfl
 |n+1,s,x::l=>by
  have e:=Eo f lk (x::l);rw[cW] at e;rw[cW];unfold iC;rw[e,<-cW,<-List.map_take,<-List.map_drop,JB];simp only[F4 f g lk n]
section
variable {W:World} {L R:LH} {K:VK} {X:WK} {p:Nat} {m:aA} {mb kb:OA} {mc kc:Nat} {q:kh} {s:wK}
def QE(m:aA)(l:List bJ):iC xY Bi l.length m (l.map It.a)=iC aA.make BJ l.length m l:=F4 It.a xY Bi _ m l
def QD(m:aA)(l:List cM):iC xY Bi l.length m (l.map It.t)=iC aA.rA BH l.length m l:=F4 It.t xY Bi _ m l
def RM.bI{m:aA}{q:kh}(h:RM m)(h1:q.op=1->∀a∈q.aB,xR a)(h2:q.op=2->∀t∈q.cy,Ab t):RM (bI m q).2.2:=by
 have run:∀(n:Nat)(l:List It)(m:aA),(∀x∈l,PW x)->RM m->RM (iC Up.xY Bi n m l).2:=by
  intro n
  induction n with
  |zero=>intro l m _ hm;exact hm
  |succ n ih=>
   intro l m iH hm;cases l with
   |nil=>exact hm
   |cons x l=>
    have fG:∀(l:List It)(m:aA)(i:Nat),(∀x∈l,PW x)->RM m->(iE Up.xY m l i).1=none->RM (iE Up.xY m l i).2:=by
     intro l
     induction l with
     |nil=>intro m i _ hm _;exact hm
     |cons y l Xj=>
      intro m i iH hm hn;unfold iE at hn⊢;by_cases hc:(Up.xY m y).1≠0
      ·rw[ai hc] at hn;cases hn
      ·rw[ag hc] at hn⊢;exact Xj _ _ (λz hz=>iH z (iy _ hz)) (hm.xY (iH y qa)) hn
    rw[iC];by_cases hw:(cz Bi (x::l)).2=false
    ·rw[ai hw];exact hm
    rw[ag hw];cases hd:iE Up.xY m ((x::l).take (cz Bi (x::l)).1) 0 with
    |mk o s'=>
     have MN:∀z∈(x::l).drop (cz Bi (x::l)).1,PW z:=λz hz=>iH z (List.mem_of_mem_drop hz);cases o with
     |none=>
      have:=fG _ m 0 (λz hz=>iH z (List.mem_of_mem_take hz)) hm (by rw[hd]);rw[hd] at this;exact ih _ _ MN this
     |some e=>exact ih _ _ MN hm
 unfold Up.bI;by_cases he:lZ q=false
 ·rw[ai he];exact h
 rw[ag he];by_cases o1:q.op=1
 ·rw[ai o1,<-QE];exact run _ _ _ (λx hx=>by obtain⟨a,ha,rfl⟩:=cA.1 hx;exact h1 o1 a ha) h
 rw[ag o1];by_cases o2:q.op=2
 ·rw[ai o2,<-QD];exact run _ _ _ (λx hx=>by obtain⟨a,ha,rfl⟩:=cA.1 hx;exact h2 o2 a ha) h
 rw[ag o2];refine h.time _ ?_;unfold lZ at he;rw[ag o1,ag o2] at he;by_cases o3:q.op=3
 ·rw[ai o3] at he;have he:(decide (0<=q.now)&&decide (q.now<=1099511627776))=true:=by simpa using he
  simp only[dI,decide_eq_true_eq] at he;exact he.1
 ·rw[ag o3] at he;exact aQ rfl he
def X'(hm:RM m)(hq:qf W R q s)(Ed:q.aB.length<1000000)(bX:q.cy.length<1000000)(h1:q.op=1->∀a∈q.aB,xR a)(h2:q.op=2->∀t∈q.cy,Ab t)
 (h:∀p2 sS sR lO lN ob oc R',Bk p m mb mc kb kc R p2 (bI m q).2.2 sS sR lO lN R'->RM (bI m q).2.2->
  T W (ML p2 (bI m q).2.2 sS sR lO lN (own ob (bI m q).2.1.length oc 1 ((bI m q).2.1.flatMap I1)::R')) (K (.tuple ⟨[.l ob (bI m q).2.1.length oc,.i (bI m q).1,.p (ah p2)]⟩))):
 T W (ML p m mb mc kb kc R) (jv (ah p) (gX q s) K):=by
 unfold jv jv.j1;have hmf:=hm.og;have hmm:=hm.many;have Xr:=hm.bI h1 h2;apply ws;intros;rename_i r1;refine IQ ?_;by_cases he:lZ q=false
 ·rw[he];apply ws;intros;have e:bI m q=(1,[],m):=by unfold bI;rw[ai he]
  rw[e] at h Xr;refine T.drop ?_;refine iB (e:=1) ?_;refine T.TG ?_;exact h p mb mc kb kc none 0 R (.inl ⟨rfl,rfl,rfl,rfl,rfl,rfl,rfl⟩) hm
 have N1:lZ q=true:=by simpa using he
 rw[N1];apply ws;intros;apply dj<;>intro g1
 ·have g1:q.op=3:=by simpa using g1
  have e:bI m q=(0,[],m.time q.now):=by unfold bI;rw[ag he,ag (by omega),ag (by omega)]
  rw[e] at h Xr;refine T.TG ?_;refine Ke (by omega) (by omega) λp2 nb nc nk Va=>?_;apply ws;intros;refine X5 (by omega) (λk hk=>?_) ?_
  ·have:=hm.ax k hk;have t1:=this.cn;have t2:=this.jh;exact aW (by omega)
  apply ws;intros;refine iB (e:=1) ?_;refine T.Lt ?_;refine T.sub (h p2 nb nc nk Va none 0 _ (.inr rfl) Xr) ?_
  repeat (first|exact bj.refl _|apply bj.cons_cons|apply bj.cons)
 ·have g1: ¬q.op=3:=by simpa using g1
  have aiL:q.op=1\/q.op=2:=by
   unfold lZ at N1;by_cases o1:q.op=1
   ·exact .inl o1
   ·by_cases o2:q.op=2
    ·exact .inr o2
    ·rw[ag o1,ag o2,ag g1] at N1;cases N1
  apply ws;intros;refine HZ (R:=R) hq.aB (by omega) λb c=>?_;apply ws;intros;have hl8:q.op=1->q.aB.length<=8:=λo1=>by
   unfold lZ at N1;rw[ai o1] at N1;simp only[dI,decide_eq_true_eq] at N1;exact N1.2
  have afv:q.op=2->q.cy.length<=8:=λo2=>by
   unfold lZ at N1;rw[ag (by omega),ai o2] at N1;simp only[dI,decide_eq_true_eq] at N1;exact N1.2
  apply dj<;>intro g2
  ·have g2:q.op=2:=by simpa using g2
   have e:bI m q=(0,iC xY Bi (q.cy.map It.t).length m (q.cy.map It.t)):=by unfold bI;rw[ag he,ag (by omega),ai g2,bU,QD]
   rw[e] at h Xr;apply ws;intros;refine Gf (R:=R) hq.cy (by omega) λb2 c2=>?_;apply ws;intros;refine T.sub (M:=own b2 q.cy.length c2 31 ((q.cy.map It.t).flatMap BK)::ML p m mb mc kb kc R) ?_ (by repeat (first|exact bj.refl _|apply bj.cons_cons|apply bj.cons));refine T.TG ?_;have O5:q.cy.length=(q.cy.map It.t).length:=(bU _).symm;rw[O5];refine UN hm (λx hx=>by obtain⟨t,ht,rfl⟩:=cA.1 hx;exact h2 g2 t ht) (by rw[bU];have:=afv g2;omega) λp2 sS sR lO lN ob oc R' AY Ji hlen=>?_;apply ws;intros;have hh:=h p2 sS sR lO lN ob oc R' AY Ji;dsimp only at hh;rw[hlen] at hh;refine T.sub hh ?_;exact qo
  ·have g2: ¬q.op=2:=by simpa using g2
   have o1:q.op=1:=by omega
   have e:bI m q=(0,iC xY Bi (q.aB.map It.a).length m (q.aB.map It.a)):=by unfold bI;rw[ag he,ai o1,bU,QE]
   rw[e] at h Xr;refine T.sub (M:=own b q.aB.length c 31 ((q.aB.map It.a).flatMap BK)::ML p m mb mc kb kc R) ?_ (by repeat (first|exact bj.refl _|apply bj.cons_cons|apply bj.cons));refine T.TG ?_;have O5:q.aB.length=(q.aB.map It.a).length:=(bU _).symm;rw[O5];refine UN hm (λx hx=>by obtain⟨t,ht,rfl⟩:=cA.1 hx;exact h1 o1 t ht) (by rw[bU];have:=hl8 o1;omega) λp2 sS sR lO lN ob oc R' AY Ji hlen=>?_;apply ws;intros;have hh:=h p2 sS sR lO lN ob oc R' AY Ji;dsimp only at hh;rw[hlen] at hh;refine T.sub hh ?_;exact qo
end
def Cp(from_ toX s:Int):Bool:=decide (from_<=s/\(toX=0\/s<=toX))
def L9{s:Int}:∀{l:List oC},(∀p∈l,s<=p.1)->pos s l=0
 |[],_=>rfl
 |p::l,h=>by unfold pos;rw[ag (by have:=h p qa;omega)]
def Ac{toX:Int}(h0: ¬toX=0){l:List oC}(h:∀p∈l,toX<p.1):vV toX l=0:=by
 unfold vV;rw[ag h0,L9 λp hp=>by have:=h p hp;omega];cases l with
 |nil=>rfl
 |cons q l=>
  have:=h q qa;show(if q.1=toX then 0+1 else 0)=0;rw[ag (by omega)]
def Iw{toX:Int}(h0: ¬toX=0){p:oC}{l:List oC}(fG:∀q∈l,p.1<q.1):vV toX (p::l)=if p.1<toX+1 then vV toX l+1 else 0:=by
 by_cases h1:p.1<toX
 ·rw[ai (by omega)];unfold vV;rw[ag h0,ag h0,pos,ai h1,bT];cases l[pos toX l]? with
  |none=>rfl
  |some q=>
   dsimp only;split<;>rfl
 ·by_cases h2:p.1=toX
  ·rw[ai (by omega),Ac (l:=l) h0 λq hq=>by have:=fG q hq;omega];unfold vV;rw[ag h0,show pos toX (p::l)=0 by rw[pos,ag h1]];show(if p.1=toX then 0+1 else 0)=1;rw[ai h2]
  ·rw[ag (by omega)];exact Ac h0 λq hq=>by
    rcases kf.1 hq with hq|hq
    ·subst hq;omega
    ·have:=fG q hq;omega
def AM(from_ toX:Int):∀(l:List oC),tv l->qR from_ toX l=l.filter λp=>Cp from_ toX p.1
 |[],_=>by unfold qR;simp
 |p::l,hr=>by
  have O3:tv l:=(List.pairwise_cons.1 hr).2;have fG:∀q∈l,p.1<q.1:=(List.pairwise_cons.1 hr).1;have ih:=AM from_ toX l O3;unfold qR at ih⊢;by_cases h1:p.1<from_
  ·have e1:pos from_ (p::l)=pos from_ l+1:=by rw[pos,ai h1]
   have e2:Cp from_ toX p.1=false:=ar (by omega);rw[e1,lR (by rw[e2];decide),List.drop_succ_cons,<-ih];by_cases h2:toX=0
   ·unfold vV;rw[ai h2,ai h2];simp only[bE,Nat.add_sub_add_right]
   ·rw[Iw h2 fG];by_cases h3:p.1<toX+1
    ·rw[ai h3,Nat.add_sub_add_right]
    ·rw[ag h3,Ac h2 λq hq=>by have:=fG q hq;omega];simp
  ·have e1:pos from_ (p::l)=0:=by rw[pos,ag h1]
   have e3:pos from_ l=0:=L9 λq hq=>by have:=fG q hq;omega
   rw[e3,Nat.sub_zero,jn] at ih;rw[e1,Nat.sub_zero,jn];by_cases h2:toX=0
   ·have e2:Cp from_ toX p.1=true:=av (by omega);unfold vV at ih⊢;rw[ai h2] at ih⊢;rw[lQ (p:=λp:oC=>Cp from_ toX p.1) (a:=p) (l:=l) e2,<-ih];simp
   ·rw[Iw h2 fG];by_cases h3:p.1<toX+1
    ·have e2:Cp from_ toX p.1=true:=av (by omega);rw[ai h3,List.take_succ_cons,ih,lQ (p:=λp:oC=>Cp from_ toX p.1) (a:=p) (l:=l) e2]
    ·have e2:Cp from_ toX p.1=false:=ar (by omega);rw[Ac h2 λq hq=>by have:=fG q hq;omega,ox] at ih;rw[ag h3,ox,lR (by rw[e2];decide),<-ih]
def yT{b:aZ}(P:Int->Bool):∀(l:List ch)(i:Nat),(∀j,j<l.length->b.ax[i+j]?=l[j]?)->((fH i l).filter λp=>P p.1).map (yq b)=l.filter λk=>P k.move.ay
 |[],i,_=>rfl
 |k::l,i,h=>by
  have h0:=h 0 (by simp);rw[eL] at h0;have hka:yq b (k.move.ay,(i:Int))=k:=by unfold yq;dsimp only;rw[ak,h0];rfl
  have ih:=yT P l (i+1) λj hj=>by
   have:=h (j+1) (by simpa using hj);rw[bT] at this;rw[<-this];congr 1;omega
  unfold fH;by_cases hp:P k.move.ay=true
  ·rw[lQ (by exact hp),lQ (by exact hp),cW,hka,ih]
  ·rw[lR (by exact hp),lR (by exact hp),ih]
def acp{b:aZ}(hg:ft b)(from_ toX:Int)(yp:Bool):btw b from_ toX yp=(if yp then b.ax.reverse else b.ax).filter λk=>Cp from_ toX k.move.ay:=by
 have h:=AM from_ toX _ hg.zy;have h2:=yT (b:=b) (Cp from_ toX) b.ax 0 λj hj=>by rw[aC]
 unfold btw;rw[h];cases yp with
 |true=>
  rw[ai rfl,ai rfl,List.map_reverse,h2,List.filter_reverse]
 |false=>
  rw[ag cN,ag cN,h2]
def zS{α:Type}{key:α->Nat}:∀(l:List α)(id:Nat),(l.map key).Nodup->(l.filter λx=>decide (key x=id))=(l.find? λx=>decide (key x=id)).toList
 |[],id,_=>rfl
 |x::l,id,hn=>by
  rw[cW,List.nodup_cons] at hn;by_cases h:key x=id
  ·rw[lQ (p:=λx=>decide (key x=id)) (a:=x) (l:=l) (av h),List.find?_cons_of_pos (p:=λx=>decide (key x=id)) (a:=x) (av h)];have:l.filter (λx=>decide (key x=id))=[]:=by
    rw[List.filter_eq_nil_iff];intro y hy hh;exact hn.1 (by rw[h,<-aR hh];exact List.mem_map_of_mem hy)
   rw[this];rfl
  ·rw[lR (p:=λx=>decide (key x=id)) (a:=x) (l:=l) (by rw[ar h];decide),List.find?_cons_of_neg (p:=λx=>decide (key x=id)) (a:=x) (by rw[ar h];decide),zS l id hn.2]
def vA{α β:Type}(f:α->Option β):∀l:List α,l.filterMap f=l.flatMap λx=>(f x).toList
 |[]=>rfl
 |x::l=>by
  rw[iY,<-vA f l,List.filterMap_cons];cases f x<;>rfl
def findAll{b:aZ}(hg:ft b)(ids:List Nat):(ids.flatMap λid=>b.aB.filter λa=>decide (a.id=id))=ids.filterMap b.find:=by
 rw[vA]
 congr 1
 funext id
 exact zS (key:=λa:bJ=>a.id) b.aB id hg.ids
def Vc{b:aZ}(hg:ft b)(ids:List Nat):(ids.flatMap λid=>(b.ax.filter λk=>decide (k.move.id=id)).map (·.move))=ids.filterMap λid=>(b.named id).map (·.move):=by
 rw[vA]
 congr 1
 funext id
 rw[zS (key:=λk:ch=>k.move.id) b.ax id hg.names];show _=((b.ax.find? _).map _).toList;cases b.ax.find? (λx=>decide (x.move.id=id))<;>rfl
def U4(b:aZ)(q:kh):List cM:=((((if q.q9 then b.ax.reverse else b.ax).filter λk=>Cp q.kA q.yB k.move.ay&&fits q k).take q.lu.toNat)).map (·.move)
def Mf{b:aZ}(hg:ft b)(q:kh):U4 b q=ofL b q:=by
 unfold U4 ofL;rw[acp hg,List.filter_filter]
 congr 2
 apply List.filter_congr;intro k _;rw[Bool.and_comm]
section
variable {W:World} {L R:LH} {K:VK} {X:WK} {q:kh} {s:wK}
def HY{ab:OA}{ac:Nat}{al:List bJ}{f:HP->LH}[i:u9 ab al.length ac L 14 (al.flatMap aL) f][hh:Has R L]{s:OA}{c:Nat}{ids:List Nat}(hr:mZ W R nm 2 s ids)(hl:ids.length<=1000)(hal:al.length<=1000)
 (h:∀b' c' out,out=(ids.flatMap λid=>al.filter λa=>decide (a.id=id))->T W (own b' out.length c' 14 (out.flatMap aL)::L) (K (.l b' out.length c'))):T W L (ma ab al.length ac s ids.length c K):=by
 unfold ma;refine iB (e:=14) ?_;intro w jO;refine⟨λvv w=>∃(i:Nat)(bo:OA)(cc:Nat)(done:List bJ),i<=ids.length/\done=((ids.take i).flatMap λid=>al.filter λa=>decide (a.id=id))/\done.length<=1000* i/\vv=[.l none 0 0,.l bo done.length cc,.l s ids.length c,.i (ids.length:Int),.i (i:Int)]/\
  St W w (own bo done.length cc 14 (done.flatMap aL)::L),
  λvs _=>match vs with|[_,_,_,_,.int _ d]=>ids.length-d.toNat|_=>0,⟨0,none,0,[],aE _,by simp,by simp,rfl,jO⟩,?_⟩
 rintro jT jd ku bo pn cc tD sK tC n3 n4 w2 ⟨i,b0,c0,done,hi,lY,AW,e,hO⟩;cases e
 refine T.at ?_ hO;apply ga<;>intro g1
 ·have bX:i<ids.length:=by omega
  have gx:=aj bX;generalize ids[i]=x at gx;have gM:((ids.take (i+1)).flatMap λid=>al.filter λa=>decide (a.id=id))=done++al.filter λa=>decide (a.id=x):=by
   rw[bg,gx,gA,<-lY];simp
  refine iU hr ⟨by omega,by omega⟩ rfl λa ha=>?_;rw[ak];refine jR hr ha gx rfl ?_;apply ws;intros;rename_i r1;intro w3 xf;refine⟨λvv w=>∃(j:Nat)(bo:OA)(cc:Nat)(dn:List bJ),j<=al.length/\dn=done++((al.take j).filter λa=>decide (a.id=x))/\dn.length<=1000* i+j/\vv=[.l none 0 0,.l bo dn.length cc,.p (some (ad r1 0)),.l s ids.length c,.i (ids.length:Int),.i (i:Int),.l ab al.length ac,.i (al.length:Int),.i (j:Int)]/\
                                                    St W w (Sep.pt r1 (nm x)::own bo dn.length cc 14 (dn.flatMap aL)::L),
   λvs _=>match vs with|[_,_,_,_,_,_,_,_,.int _ d]=>al.length-d.toNat|_=>0,⟨0,bo,cc,done,aE _,by simp,by omega,rfl,xf⟩,?_⟩
  rintro B0 BF BG bo2 EV cc2 a2 Hv FW Hu n5 n6 Le J3 LP n7 n8 w4 ⟨j,b1,c1,dn,hj,YW,afH,e,zi⟩;cases e
  refine T.at ?_ zi;have e5:=nK j;apply ga<;>intro g2
  ·have yx:j<al.length:=by omega
   have gy:=aj yx;generalize al[j]=y at gy;refine dL (b:=ab) ⟨by omega,by omega⟩ λrb hb=>?_;rw[ak];subst hb;refine gT j0 gy ?_;apply ws;intros;rw[e5];apply dj<;>intro g3
   ·have H7:done++((al.take (j+1)).filter λa=>decide (a.id=x))=dn++[y]:=by
     rw[bg,gy,List.filter_append,<-aI,<-YW]
     congr 1
     show[y].filter _=[y];rw[lQ (by exact g3)];rfl
    apply ws;intros;refine jS (g:=aL) (l:=dn) (x:=y) (bO _) rfl rfl (by omega) (by omega) (iT _) λb2 c2=>?_;refine T.drop (T.drop λw5 h5=>⟨⟨j+1,b2,c2,dn++[y],yx,H7.symm,by simp;omega,by simp,by simpa using h5⟩,by show al.length-((j+1:Nat):Int).toNat<al.length-(j:Int).toNat;omega⟩)
   ·have H7:done++((al.take (j+1)).filter λa=>decide (a.id=x))=dn:=by
     rw[bg,gy,List.filter_append,<-aI,<-YW];have:[y].filter (λa:bJ=>decide (a.id=x))=[]:=by rw[lR (by rw[g3];decide)];rfl
     show dn++[y].filter _=dn;rw[this,bO]
    refine T.drop λw5 h5=>⟨⟨j+1,bo2,cc2,dn,yx,H7.symm,by omega,rfl,h5⟩,by show al.length-((j+1:Nat):Int).toNat<al.length-(j:Int).toNat;omega⟩
  ·have jk:j=al.length:=by omega
   subst jk;rw[aS] at YW;have e6:=nK i;rw[e6];refine T.drop λw5 h5=>⟨⟨i+1,bo2,cc2,dn,bX,by rw[gM,YW],by omega,rfl,h5⟩,by show ids.length-((i+1:Nat):Int).toNat<ids.length-(i:Int).toNat;omega⟩
 ·have jk:i=ids.length:=by omega
  subst jk;rw[aS] at lY;exact h bo cc done lY
def Ge{ab:OA}{ac:Nat}{al:List ch}{f:HP->LH}[i:u9 ab al.length ac L 33 (al.flatMap bF) f][hh:Has R L]{s:OA}{c:Nat}{ids:List Nat}(hr:mZ W R nm 2 s ids)(hl:ids.length<=1000)(hal:al.length<=1000)
 (h:∀b' c' out,out=(ids.flatMap λid=>(al.filter λk=>decide (k.move.id=id)).map (·.move))->T W (own b' out.length c' 16 (out.flatMap aM)::L) (K (.l b' out.length c'))):T W L (lA ab al.length ac s ids.length c K):=by
 unfold lA;refine iB (e:=16) ?_;intro w jO;refine⟨λvv w=>∃(i:Nat)(bo:OA)(cc:Nat)(done:List cM),i<=ids.length/\done=((ids.take i).flatMap λid=>(al.filter λk=>decide (k.move.id=id)).map (·.move))/\done.length<=1000* i/\vv=[.l none 0 0,.l bo done.length cc,.l s ids.length c,.i (ids.length:Int),.i (i:Int)]/\
  St W w (own bo done.length cc 16 (done.flatMap aM)::L),
  λvs _=>match vs with|[_,_,_,_,.int _ d]=>ids.length-d.toNat|_=>0,⟨0,none,0,[],aE _,by simp,by simp,rfl,jO⟩,?_⟩
 rintro jT jd ku bo pn cc tD sK tC n3 n4 w2 ⟨i,b0,c0,done,hi,lY,AW,e,hO⟩;cases e
 refine T.at ?_ hO;apply ga<;>intro g1
 ·have bX:i<ids.length:=by omega
  have gx:=aj bX;generalize ids[i]=x at gx;have gM:((ids.take (i+1)).flatMap λid=>(al.filter λk=>decide (k.move.id=id)).map (·.move))=done++(al.filter λk=>decide (k.move.id=x)).map (·.move):=by
   rw[bg,gx,gA,<-lY];simp
  refine iU hr ⟨by omega,by omega⟩ rfl λa ha=>?_;rw[ak];refine jR hr ha gx rfl ?_;apply ws;intros;rename_i r1;intro w3 xf;refine⟨λvv w=>∃(j:Nat)(bo:OA)(cc:Nat)(dn:List cM),j<=al.length/\dn=done++((al.take j).filter λk=>decide (k.move.id=x)).map (·.move)/\dn.length<=1000* i+j/\vv=[.l none 0 0,.l bo dn.length cc,.p (some (ad r1 0)),.l s ids.length c,.i (ids.length:Int),.i (i:Int),.l ab al.length ac,.i (al.length:Int),.i (j:Int)]/\
                                                    St W w (Sep.pt r1 (nm x)::own bo dn.length cc 16 (dn.flatMap aM)::L),
   λvs _=>match vs with|[_,_,_,_,_,_,_,_,.int _ d]=>al.length-d.toNat|_=>0,⟨0,bo,cc,done,aE _,by simp,by omega,rfl,xf⟩,?_⟩
  rintro B0 BF BG bo2 EV cc2 a2 Hv FW Hu n5 n6 Le J3 LP n7 n8 w4 ⟨j,b1,c1,dn,hj,YW,afH,e,zi⟩;cases e
  refine T.at ?_ zi;have e5:=nK j;apply ga<;>intro g2
  ·have yx:j<al.length:=by omega
   have gy:=aj yx;generalize al[j]=y at gy;refine dL (b:=ab) ⟨by omega,by omega⟩ λrb hb=>?_;rw[ak];subst hb;refine gT jH gy ?_;apply ws;intros;rw[e5];apply dj<;>intro g3
   ·have H7:done++((al.take (j+1)).filter λk=>decide (k.move.id=x)).map (·.move)=dn++[y.move]:=by
     rw[bg,gy,List.filter_append,cY,<-aI,<-YW]
     congr 1
     show([y].filter _).map _=[y.move];rw[lQ (by exact g3)];rfl
    apply ws;intros;refine jS (g:=aM) (l:=dn) (x:=y.move) (bO _) rfl rfl (by omega) (by omega) (pK _) λb2 c2=>?_;refine T.drop (T.drop λw5 h5=>⟨⟨j+1,b2,c2,dn++[y.move],yx,H7.symm,by simp;omega,by simp,by simpa using h5⟩,by show al.length-((j+1:Nat):Int).toNat<al.length-(j:Int).toNat;omega⟩)
   ·have H7:done++((al.take (j+1)).filter λk=>decide (k.move.id=x)).map (·.move)=dn:=by
     rw[bg,gy,List.filter_append,cY,<-aI,<-YW];have:[y].filter (λk:ch=>decide (k.move.id=x))=[]:=by rw[lR (by rw[g3];decide)];rfl
     show dn++([y].filter _).map _=dn;rw[this];simp
    refine T.drop λw5 h5=>⟨⟨j+1,bo2,cc2,dn,yx,H7.symm,by omega,rfl,h5⟩,by show al.length-((j+1:Nat):Int).toNat<al.length-(j:Int).toNat;omega⟩
  ·have jk:j=al.length:=by omega
   subst jk;rw[aS] at YW;have e6:=nK i;rw[e6];refine T.drop λw5 h5=>⟨⟨i+1,bo2,cc2,dn,bX,by rw[gM,YW],by omega,rfl,h5⟩,by show ids.length-((i+1:Nat):Int).toNat<ids.length-(i:Int).toNat;omega⟩
 ·have jk:i=ids.length:=by omega
  subst jk;rw[aS] at lY;exact h bo cc done lY
end
instance{t:cM}:Sub (aM t) 2 2 (nm t.bw):=⟨rfl,(AE (cs:=aM t) (o:=2) (n:=t.bw) rfl rfl).2⟩
instance{t:cM}:Sub (aM t) 4 2 (nm t.aP):=⟨rfl,(AE (cs:=aM t) (o:=4) (n:=t.aP) rfl rfl).2⟩
section
variable {W:World} {L R M:LH} {K:VK} {X:WK} {q:kh} {s:wK}
def Sc{I1:LV->World->Prop}{lj:LV->World->Nat}{r1 r2 cc:Nat}{bo:OA}{done:List cM}{x:ch}{n3 n4:Int}{w2:World}{g:LV->LH}
 (hA:(done.length<q.lu.toNat/\(Cp q.kA q.yB x.move.ay&&fits q x)=true)->∀b2 c2,T W (own b2 (done.length+1) c2 16 ((done++[x.move]).flatMap aM)::M) (λw3=>I1 [.p (some (ad r1 0)),.l none 0 0,.l b2 (done.length+1) c2,.i n3,.i (aa.wrap (n4+1))] w3/\
  lj [.p (some (ad r1 0)),.l none 0 0,.l b2 (done.length+1) c2,.i n3,.i (aa.wrap (n4+1))] w3<lj [.p (some (ad r1 0)),.l none 0 0,.l bo done.length cc,.i n3,.i n4] w2))
 (hN: ¬(done.length<q.lu.toNat/\(Cp q.kA q.yB x.move.ay&&fits q x)=true)->T W (own bo done.length cc 16 (done.flatMap aM)::M) (λw3=>I1 [.p (some (ad r1 0)),.l none 0 0,.l bo done.length cc,.i n3,.i (aa.wrap (n4+1))] w3/\
  lj [.p (some (ad r1 0)),.l none 0 0,.l bo done.length cc,.i n3,.i (aa.wrap (n4+1))] w3<lj [.p (some (ad r1 0)),.l none 0 0,.l bo done.length cc,.i n3,.i n4] w2))
 [i1:Lc (Sep.pt r1) M (qk q) g](Kr:0<=q.lu/\q.lu<=16)(hd:done.length<=1000):
 T W (Sep.pt r2 (bF x)::own bo done.length cc 16 (done.flatMap aM)::M) (bR.j1 K r2 (ad r1 0) I1 none 0 0 bo done.length cc n3 n4 lj w2):=by
 have j3:∀(r3:Nat)(yes:Bool),(yes=true↔done.length<q.lu.toNat/\(Cp q.kA q.yB x.move.ay&&fits q x)=true)->T W (Sep.pt r3 (aM x.move)::Sep.pt r2 (bF x)::own bo done.length cc 16 (done.flatMap aM)::M) (bR.j3 K r3 bo done.length cc I1 (ad r1 0) none 0 0 n3 n4 lj w2 yes):=λr3 yes hy=>by
  unfold bR.j3;cases yes with
  |true=>
   apply ws;intros;refine jS (b:=bo) (g:=aM) (l:=done) (x:=x.move) (bO _) rfl rfl (by omega) (by omega) (pK _) λb2 c2=>?_;exact T.drop (T.drop (T.drop (hA (hy.1 rfl) b2 c2)))
  |false=>
   apply ws;intros;exact T.drop (T.drop (hN λhh=>by have:=hy.2 hh;cases this))
 have j4:∀(r3:Nat)(b2:Bool),b2=(q.xE&&decide (x.move.bw=q.yY))->done.length<q.lu.toNat->Cp q.kA q.yB x.move.ay=true->T W (Sep.pt r3 (aM x.move)::Sep.pt r2 (bF x)::own bo done.length cc 16 (done.flatMap aM)::M) (bR.j4 K r3 bo done.length cc I1 (ad r1 0) none 0 0 n3 n4 lj w2 b2):=λr3 b2 hb hl hi=>by
  unfold bR.j4;have hf:fits q x=(b2||(q.uD&&decide (x.move.aP=q.yY))):=by rw[hb];rfl
  cases b2 with
  |true=>
   apply ws;intros;refine j3 r3 true ⟨λ_=>⟨hl,by rw[hi,hf];rfl⟩,λ_=>rfl⟩
  |false=>
   rw[Bool.false_or] at hf;apply ws;intros;cases hc:q.uD with
   |true=>
    apply ws;intros;rw[hc,eG] at hf;refine j3 r3 _ ⟨λh=>⟨hl,by rw[hi,hf,h];rfl⟩,λh=>by rw[hi,hf,eG] at h;exact h.2⟩
   |false=>
    apply ws;intros;rw[hc,fV] at hf;refine j3 r3 false ⟨λh=>(by cases h),λh=>by rw[hf,Bool.and_false] at h;cases h.2⟩
 have j2:∀(r3:Nat)(b2:Bool),(b2=true↔Cp q.kA q.yB x.move.ay=false\/ ¬done.length<q.lu.toNat)->T W (Sep.pt r3 (aM x.move)::Sep.pt r2 (bF x)::own bo done.length cc 16 (done.flatMap aM)::M) (bR.j2 K I1 (ad r1 0) none 0 0 bo done.length cc n3 n4 lj w2 r3 b2):=λr3 b2 hb=>by
  unfold bR.j2;cases b2 with
  |true=>
   apply ws;intros;refine T.drop (T.drop (hN λhh=>?_));rcases hb.1 rfl with h|h
   ·rw[h,fV] at hh;cases hh.2
   ·exact h hh.1
  |false=>
   have hi:Cp q.kA q.yB x.move.ay=true:=by
    cases h:Cp q.kA q.yB x.move.ay with
    |true=>rfl
    |false=>have:=hb.2 (.inl h);cases this
   have hl:done.length<q.lu.toNat:=Decidable.byContradiction λh=>by have:=hb.2 (.inr h);cases this
   apply ws;intros;cases Rg:q.xE with
   |true=>
    apply ws;intros;refine j4 r3 _ ?_ hl hi;rw[Rg,eG]
   |false=>
    apply ws;intros;refine j4 r3 _ ?_ hl hi;rw[Rg,fV]
 unfold bR.j1 bR.j5;apply ws;intros;rename_i r3;apply ga<;>intro g1
 ·refine j2 r3 true ⟨λ_=>.inl (ar (by omega)),λ_=>rfl⟩
 ·apply ws;intros;apply dj<;>intro g2
  ·have g2:=fP.1 g2;apply ws;intros;apply ga<;>intro g3
   ·refine j2 r3 true ⟨λ_=>.inl (ar (by omega)),λ_=>rfl⟩
   ·have hi:Cp q.kA q.yB x.move.ay=true:=av (by omega);apply ws;intros;refine j2 r3 _ ⟨λh=>.inr (by have:=aR h;omega),λh=>?_⟩;rcases h with h|h
    ·rw[hi] at h;cases h
    ·exact av (by omega)
  ·have g2:q.yB=0:=by simpa using g2
   have hi:Cp q.kA q.yB x.move.ay=true:=av (by omega);apply ws;intros;refine j2 r3 _ ⟨λh=>.inr (by have:=aR h;omega),λh=>?_⟩;rcases h with h|h
   ·rw[hi] at h;cases h
   ·exact av (by omega)
def Ya{ab:OA}{ac:Nat}{al:List ch}{f:HP->LH}[ii:u9 ab al.length ac L 33 (al.flatMap bF) f](hal:al.length<=1000)(Kr:0<=q.lu/\q.lu<=16)
 (h:∀b' c' out,out=((((if q.q9 then al.reverse else al).filter λk=>Cp q.kA q.yB k.move.ay&&fits q k).take q.lu.toNat)).map (·.move)->T W (own b' out.length c' 16 (out.flatMap aM)::L) (K (.l b' out.length c'))):
 T W L (bR ab al.length ac (qk q) K):=by
 unfold bR;apply ws;intros;rename_i r1;obtain⟨l,hl⟩:∃l,l=if q.q9 then al.reverse else al:=⟨_,rfl⟩
 have Jk:l.length=al.length:=by rw[hl];split<;>simp
 rw[<-hl] at h;refine iB (e:=16) ?_;intro w jO;refine⟨λvv w=>∃(i:Nat)(bo:OA)(cc:Nat)(done:List cM),i<=l.length/\done=(((l.take i).filter λk=>Cp q.kA q.yB k.move.ay&&fits q k).take q.lu.toNat).map (·.move)/\done.length<=i/\vv=[.p (some (ad r1 0)),.l none 0 0,.l bo done.length cc,.i (al.length:Int),.i (i:Int)]/\
    St W w (own bo done.length cc 16 (done.flatMap aM)::Sep.pt r1 (qk q)::L),
  λvs _=>match vs with|[_,_,_,_,.int _ d]=>al.length-d.toNat|_=>0,⟨0,none,0,[],aE _,by simp,aH _,rfl,jO⟩,?_⟩
 rintro a1 jT jd ku bo pn cc n3 n4 w2 ⟨i,b0,c0,done,hi,lY,AW,e,hO⟩;cases e
 refine T.at ?_ hO;have e5:=nK i;apply ga<;>intro g1
 ·have bX:i<l.length:=by omega
  have gx:=aj bX;generalize l[i]=x at gx;have gM:=DM (P:=λk=>Cp q.kA q.yB k.move.ay&&fits q k) (n:=q.lu.toNat) gx;have xz:done.length=(((l.take i).filter λk=>Cp q.kA q.yB k.move.ay&&fits q k).take q.lu.toNat).length:=by rw[lY,bU]
  rw[<-xz] at gM;have wq:(((l.take (i+1)).filter λk=>Cp q.kA q.yB k.move.ay&&fits q k).take q.lu.toNat).map (·.move)=if done.length<q.lu.toNat/\(Cp q.kA q.yB x.move.ay&&fits q x)=true then done++[x.move] else done:=by
   rw[gM];by_cases c1:done.length<q.lu.toNat
   ·rw[ai c1];by_cases c2:(Cp q.kA q.yB x.move.ay&&fits q x)=true
    ·rw[ai c2,ai ⟨c1,c2⟩,cY,<-lY];rfl
    ·rw[ag c2,ag (λh=>c2 h.2),<-lY]
   ·rw[ag c1,ag (λh=>c1 h.1),<-lY]
  have abN:i<al.length:=by omega
  have gy:=aj abN;refine dL (b:=ab) ⟨by omega,by omega⟩ λrb hb=>?_;subst hb;rw[ak];refine gT jH gy ?_;apply ws;intros;rename_i r2;have fin:T W (Sep.pt r2 (bF x)::own bo done.length cc 16 (done.flatMap aM)::Sep.pt r1 (qk q)::L) (bR.j1 K r2 (ad r1 0) (λvv w=>∃(i:Nat)(bo:OA)(cc:Nat)(done:List cM),i<=l.length/\done=(((l.take i).filter λk=>Cp q.kA q.yB k.move.ay&&fits q k).take q.lu.toNat).map (·.move)/\done.length<=i/\vv=[.p (some (ad r1 0)),.l none 0 0,.l bo done.length cc,.i (al.length:Int),.i (i:Int)]/\
   St W w (own bo done.length cc 16 (done.flatMap aM)::Sep.pt r1 (qk q)::L)) none 0 0 bo done.length cc (al.length:Int) (i:Int) (λvs _=>match vs with|[_,_,_,_,.int _ d]=>al.length-d.toNat|_=>0) w2):=by
   refine Sc (q:=q) (x:=x) (M:=Sep.pt r1 (qk q)::L) (λhy b2 c2=>?_) (λhy=>?_) Kr (by omega)
   ·rw[e5];rw[ai hy] at wq;exact λw3 h3=>⟨⟨i+1,b2,c2,done++[x.move],bX,wq.symm,by simp;omega,by simp,by simpa using h3⟩,by show al.length-((i+1:Nat):Int).toNat<al.length-(i:Int).toNat;omega⟩
   ·rw[e5];rw[ag hy] at wq;exact λw3 h3=>⟨⟨i+1,bo,cc,done,bX,wq.symm,by omega,rfl,h3⟩,by show al.length-((i+1:Nat):Int).toNat<al.length-(i:Int).toNat;omega⟩
  cases Ed:q.q9 with
  |true=>
   rw[Ed,ai rfl] at hl;apply ws;intros;have e7:aa.wrap (aa.wrap ((al.length:Int) -1) -(i:Int))=((al.length-1-i:Nat):Int):=by rw[aW (n:=(al.length:Int) -1) (by omega),aW (by omega)];omega
   rw[e7];refine dL (b:=ah rb) ⟨by omega,by omega⟩ λrb2 hb=>?_;cases hb
   rw[ak];have gz:al[al.length-1-i]?=some x:=by rw[hl,List.getElem?_reverse abN] at gx;exact gx
   refine gT jH gz ?_;apply ws;intros;exact fin
  |false=>
   rw[Ed,ag cN] at hl;subst hl;rw[gx] at gy;have hxy:x=l[i]'abN:=by injection gy
   rw[<-hxy];apply ws;intros;exact fin
 ·have jk:i=l.length:=by omega
  subst jk;rw[aS] at lY;have:=h bo cc done lY;refine T.sub this ?_;exact qo
end
section
variable {W:World} {L R M:LH} {K:VK} {X:WK} {q:kh} {s:wK}
def vQ(al:List bJ)(kl:List ch)(q:kh):Int×List bJ×List cM:=
 if pO q=false then(1,[],[])
 else if q.op=4 then(0,(q.ids.flatMap λid=>al.filter λa=>decide (a.id=id)),[])
 else if q.op=5 then(0,[],q.ids.flatMap λid=>(kl.filter λk=>decide (k.move.id=id)).map (·.move))
 else(0,[],((((if q.q9 then kl.reverse else kl).filter λk=>Cp q.kA q.yB k.move.ay&&fits q k).take q.lu.toNat)).map (·.move))
def ZB{m:aA}(hg:ft (bo m))(q:kh):vQ (bo m).aB (bo m).ax q=ask m q:=by
 unfold vQ ask;rw[findAll hg,Vc hg,<-Mf hg]
 rfl
def OE{ab kb:OA}{ac kc:Nat}{al:List bJ}{kl:List ch}{f g:HP->LH}[i1:u9 ab al.length ac L 14 (al.flatMap aL) f][i2:u9 kb kl.length kc L 33 (kl.flatMap bF) g][hh:Has R L](hq:qf W R q s)
 (hal:al.length<=1000)(hkl:kl.length<=1000)
 (h:∀b1 c1 b2 c2,T W (own b1 (vQ al kl q).2.1.length c1 14 ((vQ al kl q).2.1.flatMap aL)::own b2 (vQ al kl q).2.2.length c2 16 ((vQ al kl q).2.2.flatMap aM)::L)
  (K (.tuple ⟨[.l b1 (vQ al kl q).2.1.length c1,.l b2 (vQ al kl q).2.2.length c2,.i (vQ al kl q).1]⟩))):
 T W L (oa ab al.length ac kb kl.length kc (gX q s) K):=by
 unfold oa;apply ws;intros;refine IP ?_;unfold vQ at h;by_cases ge:pO q=false
 ·rw[ai ge] at h;rw[ge];apply ws;intros;refine T.drop ?_;refine iB (e:=16) ?_;refine iB (e:=14) ?_;exact h none 0 none 0
 rw[ag ge] at h;have Y4:pO q=true:=by simpa using ge
 rw[Y4];apply ws;intros;have adL:q.op=4\/q.op=5->q.ids.length<=16:=λho=>by
  unfold pO at Y4;rw[ai ho,dI,decide_eq_true_eq,decide_eq_true_eq] at Y4;exact Y4.2
 apply dj<;>intro g1
 ·have g1:q.op=4:=by simpa using g1
  rw[ai g1] at h;have:=adL (.inl g1);apply ws;intros;refine HY (R:=R) (al:=al) hq.ids (by omega) hal λb' c' out ho=>?_;rw[<-ho] at h;apply ws;intros;refine iB (e:=16) ?_;refine T.swap ?_;refine T.sub (h b' c' none 0) ?_
  repeat (first|exact bj.refl _|apply bj.cons_cons|apply bj.cons)
 ·have g1: ¬q.op=4:=by simpa using g1
  rw[ag g1] at h;apply ws;intros;apply dj<;>intro g2
  ·have g2:q.op=5:=by simpa using g2
   rw[ai g2] at h;have:=adL (.inr g2);apply ws;intros;refine Ge (R:=R) (al:=kl) hq.ids (by omega) hkl λb' c' out ho=>?_;rw[<-ho] at h;apply ws;intros;refine iB (e:=14) ?_;refine T.sub (h none 0 b' c') ?_
   repeat (first|exact bj.refl _|apply bj.cons_cons|apply bj.cons)
  ·have g2: ¬q.op=5:=by simpa using g2
   rw[ag g2] at h;have Kr:0<=q.lu/\q.lu<=16:=by
    unfold pO at Y4;rw[ag (by omega)] at Y4;by_cases o6:q.op=6
    ·rw[ai o6,dI,decide_eq_true_eq] at Y4;omega
    ·rw[ag o6] at Y4;cases Y4
   apply ws;intros;refine Ya (al:=kl) hkl Kr λb' c' out ho=>?_;rw[<-ho] at h;apply ws;intros;refine iB (e:=14) ?_;refine T.sub (h none 0 b' c') ?_
   repeat (first|exact bj.refl _|apply bj.cons_cons|apply bj.cons)
def Ny{α:Type}[DecidableEq α]{l m:List α}{i:Nat}{x y:α}(hx:l[i]?=some x)(hy:m[i]?=some y)(h:l.take i=m.take i)(he:x=y):l.take (i+1)=m.take (i+1):=by
 rw[bg,bg,hx,hy,h,he]
def Nz{α:Type}{l m:List α}{i:Nat}{x y:α}(hx:l[i]?=some x)(hy:m[i]?=some y)(he: ¬x=y): ¬l=m:=λh=>by
 rw[h,hy] at hx;injection hx with hx;exact he hx.symm
end
section
variable {W:World} {L R:LH} {K:VK} {X:WK} {e:Int} {res:List Int} {al:List bJ} {tl:List cM} {rb ab tb:OA} {rc ac tc:Nat} {n:Int} {a:bJ} {t:cM}
def IW(h:T W L (K (.s (bs (le .i64 1 n))))):T W L (bN 1 n K):=λw hs=>Ai hs λw' h'=>h w' h'
def aae(h:T W L (K (.s (bs (le .i64 2 n))))):T W L (bN 2 n K):=λw hs=>Ai hs λw' h'=>h w' h'
def aad(h:T W L (K (.s (bs (le .i64 4 n))))):T W L (bN 4 n K):=λw hs=>Ai hs λw' h'=>h w' h'
def UQ(h:T W L (K (.s (bs (le .i64 8 n))))):T W L (bN 8 n K):=λw hs=>Ai hs λw' h'=>h w' h'
def ah7(x k:Nat)(hk:k<8):2* (x/2^(k+1)%2^(7-k))+x/2^k%2=x/2^k%2^(8-k):=by
 match k,hk with
 |0,_|1,_|2,_|3,_|4,_|5,_|6,_|7,_=>omega
def Gm{m:Nat}(hm:m<bG)(h:T W L (K (.s (bs (nb m))))):T W L (dw (nm m) K):=by
 unfold dw;apply ws;intros;rename_i r1;intro w jO;refine⟨λvv w=>∃i:Nat,i<=16/\vv=[.p (some (ad r1 0)),.s .empty,.s (bs ((nb m).take i)),.i (i:Int)]/\St W w (Sep.pt r1 (nm m)::L),
  λvs _=>match vs with|[_,_,_,.int _ d]=>16-d.toNat|_=>0,⟨0,aE _,rfl,jO⟩,?_⟩
 rintro a1 s1 s2 n1 w2 ⟨i,hi,e1,hO⟩;cases e1
 refine T.at ?_ hO;have e5:=nK i;apply ga<;>intro g1
 ·have bX:i<16:=by omega
  intro w jO;refine⟨λvv w=>∃k:Nat,k<=8/\vv=[.p (some (ad r1 0)),.s .empty,.s (bs ((nb m).take i)),.i (i:Int),.i ((m/256^i/2^k%2^(8-k):Nat):Int),.i ((k:Int) -1)]/\St W w (Sep.pt r1 (nm m)::L),
   λvs _=>match vs with|[_,_,_,_,_,.int _ d]=>(d+1).toNat|_=>0,⟨8,aH _,by simp,jO⟩,?_⟩
  rintro a2 s3 s4 n2 n3 n4 w4 ⟨k,hk,e2,zi⟩;cases e2
  refine T.at ?_ zi;apply ga<;>intro g2
  ·obtain⟨k,rfl⟩:∃j,k=j+1:=⟨k-1,by omega⟩;have e3:aa.wrap (aa.wrap (8* (i:Int))+(((k+1:Nat):Int) -1))=((8* i+k:Nat):Int):=by
    rw[aW (n:=8* (i:Int)) (by omega),aW (by omega)];omega
   have e4:m/2^(8* i+k)=m/256^i/2^k:=by rw[Nat.pow_add,Nat.pow_mul,Nat.div_div_eq_div_mul]
   apply ws;intros;rw[e3];refine tR hm (by omega) ?_;refine nQ ?_;rw[e4];have hb:=ah7 (m/256^i) k (by omega);have h6:m/256^i/2^k%2^(8-k)<256:=Nat.lt_of_lt_of_le (Nat.mod_lt _ (Nat.pow_pos (by decide))) (show 2^(8-k)<=2^8 from gS (by decide) (by omega));rw[show 8-(k+1)=7-k by omega];have h7:((k+1:Nat):Int) -1=(k:Int):=by omega
   rw[h7];generalize m/256^i/2^(k+1)%2^(7-k)=y at hb⊢;generalize m/256^i/2^k%2=z at hb⊢;rw[aW (n:=2* (y:Int)) (by omega),aW (n:=2* (y:Int)+(z:Int)) (by omega),aW (n:=(k:Int) -1) (by omega)];refine λw5 h5=>⟨⟨k,by omega,?_,h5⟩,?_⟩
   ·rw[<-hb];rfl
   ·show(((k:Int) -1)+1).toNat<((k:Int)+1).toNat;omega
  ·obtain rfl:k=0:=by omega
   refine dO ⟨rfl,trivial⟩ ?_;refine uH λr2=>?_;have h8:m/256^i/2^0%2^(8-0)=m/256^i%256:=by simp
   rw[h8];have e6:Value.int .u8 (IntKind.u8.wrap ((m/256^i%256:Nat):Int))=vZ (UInt8.ofNat (m/256^i%256)):=by
    have:=uT (n:=((m/256^i%256:Nat):Int)) (by omega);rw[ak] at this;rw[this]
    congr 1
    unfold IntKind.wrap;simp[IntKind.signed,IntKind.bits]
   rw[e6];refine Us (l:=[UInt8.ofNat (m/256^i%256)]) ?_;have e7:(nb m)[i]?=some (UInt8.ofNat (m/256^i%256)):=by
    unfold nb;rw[eo,rD bX];rfl
   have e8:bs ((nb m).take i)++bs [UInt8.ofNat (m/256^i%256)]=bs ((nb m).take (i+1)):=by rw[l7,bg,e7];rfl
   refine dO (by rw[cj,cj,aD,sn,qg];omega) ?_;rw[e8,e5];refine T.drop λw5 h5=>⟨⟨i+1,bX,rfl,h5⟩,by show 16-((i+1:Nat):Int).toNat<16-(i:Int).toNat;omega⟩
 ·obtain rfl:i=16:=by omega
  have e9:(nb m).take 16=nb m:=bS (by rw[sn];omega);rw[e9];exact T.drop h
def OH(ha:xR a)(h:T W L (K (.s (bs (jQ a))))):T W L (lM (aL a) K):=by
 unfold lM;have:=ha.id;have:=ha.dp;have:=ha.dq;have:=ha.cp;have:=ha.cq
 repeat' first|apply ws;intros|apply wb|with_reducible first|refine Gm (by assumption) ?_|refine aad ?_|refine aae ?_|refine UQ ?_|refine dO (by simp only[l7,cj,aw,sn,aO];omega) ?_|fail
 simp only[l7];exact T.dp h
def OF(ht:Ab t)(h:T W L (K (.s (bs (o0 t))))):T W L (lJ (aM t) K):=by
 unfold lJ;have:=ht.id;have:=ht.bw;have:=ht.aP;have:=ht.aU;have:=ht.pending
 repeat' first|apply ws;intros|apply wb|with_reducible first|refine Gm (by assumption) ?_|refine aad ?_|refine aae ?_|refine UQ ?_|refine dO (by simp only[l7,cj,aw,sn,aO];omega) ?_|fail
 simp only[l7];exact T.dp h
def U8{x:Bool}(h:true= !x):x=false:=by cases x with|false=>rfl|true=>cases h
def U9{x:Bool}(h:false= !x):x=true:=by cases x with|true=>rfl|false=>cases h
def Sm[hh:Has R L](h1:mZ W R I1 1 rb res)(h2:mZ W R aL 14 ab al)(h3:mZ W R aM 16 tb tl)(l1:res.length<1000000)(l2:al.length<1000000)(l3:tl.length<1000000)(h:T W L (K (.b (sf e res al tl)))):
 T W L (cD e rb res.length rc ab al.length ac tb tl.length tc K):=by
 have j1:∀b:Bool,b= !(decide (0<=e/\e<=255)&&decide (res.length<=16/\al.length<=16/\tl.length<=16))->T W L (cD.j1 K rb res.length rc ab al.length ac tb tl.length tc b):=λb hb=>by
  unfold cD.j1;rw[LW] at h;cases b with
  |true=>
   rw[U8 hb,Bool.and_false,Bool.and_false,Bool.and_false] at h;exact h
  |false=>
   rw[U9 hb,Bool.and_true] at h;refine ph ?_;intro w jO;refine⟨λvv w=>∃i:Nat,i<=res.length/\(res.take i).all okR=true/\vv=[.b false,.l rb res.length rc,.i (res.length:Int),.i (i:Int)]/\St W w L,
    λvs _=>match vs with|[_,_,_,.int _ d]=>res.length-d.toNat|_=>0,⟨0,aE _,rfl,rfl,jO⟩,?_⟩
   rintro b1 jT jd ku n1 n2 w2 ⟨i,hi,fG,e1,hO⟩;cases e1
   refine T.at ?_ hO;have e5:=nK i;apply ga<;>intro g1
   ·have bX:i<res.length:=by omega
    have gx:=aj bX;generalize res[i]=x at gx;refine iU h1 ⟨by omega,by omega⟩ rfl λa ha=>?_;rw[ak];refine JW h1 ha gx ?_;refine nQ ?_;have bad: ¬(0<=x/\x<=255)->T W L (K (.b false)):=λhx=>by
     rw[all_false (P:=okR) gx (ar hx),fV] at h;exact h
    refine ga (λg2=>bad (by omega)) (λg2=>?_);refine ga (λg3=>bad (by omega)) (λg3=>?_);rw[e5];exact λw3 h3=>⟨⟨i+1,bX,by rw[rq gx fG];exact av (by omega),rfl,h3⟩,by show res.length-((i+1:Nat):Int).toNat<res.length-(i:Int).toNat;omega⟩
   have jk:i=res.length:=by omega
   subst jk;rw[aS] at fG;rw[fG,eG] at h;intro w jO;refine⟨λvv w=>∃i:Nat,i<=al.length/\(al.take i).all (λa=>decide (nq a))=true/\vv=[.b false,.l ab al.length ac,.i (al.length:Int),.i (i:Int)]/\St W w L,
    λvs _=>match vs with|[_,_,_,.int _ d]=>al.length-d.toNat|_=>0,⟨0,aE _,rfl,rfl,jO⟩,?_⟩
   rintro b1 jT jd ku n1 n2 w2 ⟨i,hi,fG,e1,hO⟩;cases e1
   refine T.at ?_ hO;have e5:=nK i;apply ga<;>intro g1
   ·have bX:i<al.length:=by omega
    have gx:=aj bX;generalize al[i]=x at gx;refine iU h2 ⟨by omega,by omega⟩ rfl λa ha=>?_;rw[ak];refine jR h2 ha gx rfl ?_
    repeat' first|apply ws;intros|apply wb|with_reducible refine IV ?_|fail
    rw[e5];by_cases hg:nq x
    ·rw[av hg];apply ws;intros;refine T.drop λw3 h3=>⟨⟨i+1,bX,by rw[rq gx fG];exact av hg,rfl,h3⟩,by show al.length-((i+1:Nat):Int).toNat<al.length-(i:Int).toNat;omega⟩
    ·rw[ar hg];apply ws;intros;rw[all_false (P:=λa=>decide (nq a)) gx (ar hg),fV] at h;exact T.dp h
   have jk:i=al.length:=by omega
   subst jk;rw[aS] at fG;rw[fG,eG] at h;intro w jO;refine⟨λvv w=>∃i:Nat,i<=tl.length/\(tl.take i).all (λa=>decide (kL a))=true/\vv=[.b false,.l tb tl.length tc,.i (tl.length:Int),.i (i:Int)]/\St W w L,
    λvs _=>match vs with|[_,_,_,.int _ d]=>tl.length-d.toNat|_=>0,⟨0,aE _,rfl,rfl,jO⟩,?_⟩
   rintro b1 jT jd ku n1 n2 w2 ⟨i,hi,fG,e1,hO⟩;cases e1
   refine T.at ?_ hO;have e5:=nK i;apply ga<;>intro g1
   ·have bX:i<tl.length:=by omega
    have gx:=aj bX;generalize tl[i]=x at gx;refine iU h3 ⟨by omega,by omega⟩ rfl λa ha=>?_;rw[ak];refine jR h3 ha gx rfl ?_
    repeat' first|apply ws;intros|apply wb|with_reducible refine IU ?_|fail
    rw[e5];by_cases hg:kL x
    ·rw[av hg];apply ws;intros;refine T.drop λw3 h3=>⟨⟨i+1,bX,by rw[rq gx fG];exact av hg,rfl,h3⟩,by show tl.length-((i+1:Nat):Int).toNat<tl.length-(i:Int).toNat;omega⟩
    ·rw[ar hg];apply ws;intros;rw[all_false (P:=λa=>decide (kL a)) gx (ar hg)] at h;exact T.dp h
   have jk:i=tl.length:=by omega
   subst jk;rw[aS] at fG;rw[fG] at h;exact h
 have j3:∀b:Bool,b= !(decide (0<=e/\e<=255)&&decide (res.length<=16))->T W L (cD.j3 K rb res.length rc ab al.length ac tb tl.length tc b):=λb hb=>by
  unfold cD.j3;cases b with
  |true=>
   have hb: ¬((0<=e/\e<=255)/\res.length<=16):=λhh=>by have:=U8 hb;rw[av hh.1,av hh.2] at this;cases this
   refine wQ (j1 _ ?_);rw[cf];simp;omega
  |false=>
   have hb:(0<=e/\e<=255)/\res.length<=16:=by have:=U9 hb;rw[dI,decide_eq_true_eq,decide_eq_true_eq] at this;exact this
   refine ph ?_;refine ga (λg=>j1 _ (by rw[cf];simp;omega)) (λg=>j1 _ ?_);rw[cf];simp;omega
 have j2:∀b:Bool,b= !decide (0<=e/\e<=255)->T W L (cD.j2 K rb res.length rc ab al.length ac tb tl.length tc b):=λb hb=>by
  unfold cD.j2;cases b with
  |true=>
   have hb: ¬(0<=e/\e<=255):=bn (U8 hb);refine wQ (j3 _ ?_);rw[cf];simp;omega
  |false=>
   have hb:(0<=e/\e<=255):=aR (U9 hb);refine ph (j3 _ ?_);rw[cf];simp;omega
 unfold cD;refine ga (λg=>j2 _ (by rw[cf];simp;omega)) (λg=>j2 _ ?_);rw[cf];simp;omega
def Ba[hh:Has R L](h1:mZ W R I1 1 rb res)(h2:mZ W R aL 14 ab al)(h3:mZ W R aM 16 tb tl)(l1:res.length<1000000)(l2:al.length<1000000)(l3:tl.length<1000000)(hA:∀a∈al,xR a)(hT:∀t∈tl,Ab t)(h:T W L (K (.s (bs (td e res al tl))))):
 T W L (ik e rb res.length rc ab al.length ac tb tl.length tc K):=by
 unfold ik;refine Sm h1 h2 h3 l1 l2 l3 ?_;refine oU ?_;cases hf:sf e res al tl with
 |false=>
  rw[show td e res al tl=[3,0,0,0] by unfold td;rw[ag (by rw[hf];decide)];rfl] at h;exact h
 |true=>
  obtain⟨f1,f2,f3,f4,f5,f6,f7⟩:=B8 hf;unfold td at h;rw[ai hf] at h;have k2:(al.flatMap jQ).length=al.length* 96:=eB oT al;have k1:(res.flatMap λr=>le .i64 1 r).length=res.length* 1:=eB (λr=>aO _ _ _) res;have k3:=eB pT tl;refine vg (IW (y7 (IW (y7 ?_))));refine dO (by rw[cj,cj,aO,aO];decide) ?_;rw[l7];intro w jO;refine⟨λvv w=>∃i:Nat,i<=res.length/\vv=[.s .empty,.s (bs (le .i64 1 e++le .i64 1 (res.length:Int)++(res.take i).flatMap λr=>le .i64 1 r)),.l rb res.length rc,.i (res.length:Int),.i (i:Int)]/\St W w L,
   λvs _=>match vs with|[_,_,_,_,.int _ d]=>res.length-d.toNat|_=>0,⟨0,aE _,by simp,jO⟩,?_⟩
  rintro s3 s4 tD sK tC n2 n3 w2 ⟨i,hi,e1,hO⟩;cases e1
  refine T.at ?_ hO;have e5:=nK i;have hlen:(le .i64 1 e++le .i64 1 (res.length:Int)++(res.take i).flatMap λr=>le .i64 1 r).length<=18:=by
   rw[aw,aw,eB (e:=1) (λr=>aO _ _ _),aD,aO,aO];omega
  apply ga<;>intro g1
  ·have bX:i<res.length:=by omega
   have gx:=aj bX;generalize res[i]=x at gx;refine iU h1 ⟨by omega,by omega⟩ rfl λa ha=>?_;rw[ak];refine JW h1 ha gx ?_;refine nQ (IW (y7 ?_));refine dO (by rw[cj,cj,aO];omega) ?_;rw[e5,l7];refine λw3 h3=>⟨⟨i+1,bX,?_,h3⟩,by show res.length-((i+1:Nat):Int).toNat<res.length-(i:Int).toNat;omega⟩;rw[bg,gx,gA];simp[aI]
  have jk:i=res.length:=by omega
  subst jk;rw[aS] at hlen⊢;refine IW (y7 ?_);refine dO (by rw[cj,cj,aO];omega) ?_;rw[l7];generalize hP:le .i64 1 e++le .i64 1 (res.length:Int)++(res.flatMap λr=>le .i64 1 r)++le .i64 1 (al.length:Int)=P;have hPl:P.length<=19:=by rw[<-hP,aw,aO];omega
  intro w jO;refine⟨λvv w=>∃i:Nat,i<=al.length/\vv=[.s .empty,.s (bs (P++(al.take i).flatMap jQ)),.l ab al.length ac,.i (al.length:Int),.i (i:Int)]/\St W w L,
   λvs _=>match vs with|[_,_,_,_,.int _ d]=>al.length-d.toNat|_=>0,⟨0,aE _,by simp,jO⟩,?_⟩
  rintro s3 s4 tD sK tC n2 n3 w2 ⟨i,hi,e1,hO⟩;cases e1
  refine T.at ?_ hO;have e5:=nK i;have AT:(P++(al.take i).flatMap jQ).length<=2000:=by
   rw[aw,eB oT,aD];omega
  apply ga<;>intro g1
  ·have bX:i<al.length:=by omega
   have gx:=aj bX;have gm:=hA _ (bP bX);generalize al[i]=x at gx gm;refine iU h2 ⟨by omega,by omega⟩ rfl λa ha=>?_;rw[ak];refine jR h2 ha gx rfl ?_
   repeat' first|apply ws;intros|apply wb|with_reducible refine OH gm ?_|fail
   refine dO (by rw[cj,cj,oT];omega) ?_;rw[e5,l7];refine T.drop λw3 h3=>⟨⟨i+1,bX,?_,h3⟩,by show al.length-((i+1:Nat):Int).toNat<al.length-(i:Int).toNat;omega⟩;rw[bg,gx,gA];simp[aI]
  have jk:i=al.length:=by omega
  subst jk;rw[aS] at AT⊢;refine IW (y7 ?_);refine dO (by rw[cj,cj,aO];omega) ?_;rw[l7];generalize hQ:P++al.flatMap jQ++le .i64 1 (tl.length:Int)=Q;have hQl:Q.length<=2001:=by rw[<-hQ,aw,aO];omega
  intro w jO;refine⟨λvv w=>∃i:Nat,i<=tl.length/\vv=[.s .empty,.s (bs (Q++(tl.take i).flatMap o0)),.l tb tl.length tc,.i (tl.length:Int),.i (i:Int)]/\St W w L,
   λvs _=>match vs with|[_,_,_,_,.int _ d]=>tl.length-d.toNat|_=>0,⟨0,aE _,by simp,jO⟩,?_⟩
  rintro s3 s4 tD sK tC n2 n3 w2 ⟨i,hi,e1,hO⟩;cases e1
  refine T.at ?_ hO;have e5:=nK i;have air:(Q++(tl.take i).flatMap o0).length<=5000:=by
   rw[aw,eB pT,aD];omega
  apply ga<;>intro g1
  ·have bX:i<tl.length:=by omega
   have gx:=aj bX;have gm:=hT _ (bP bX);generalize tl[i]=x at gx gm;refine iU h3 ⟨by omega,by omega⟩ rfl λa ha=>?_;rw[ak];refine jR h3 ha gx rfl ?_
   repeat' first|apply ws;intros|apply wb|with_reducible refine OF gm ?_|fail
   refine dO (by rw[cj,cj,pT];omega) ?_;rw[e5,l7];refine T.drop λw3 h3=>⟨⟨i+1,bX,?_,h3⟩,by show tl.length-((i+1:Nat):Int).toNat<tl.length-(i:Int).toNat;omega⟩;rw[bg,gx,gA];simp[aI]
  have jk:i=tl.length:=by omega
  subst jk;rw[aS];have:F9 e res al tl=Q++tl.flatMap o0:=by rw[<-hQ,<-hP];unfold F9;simp only[aI]
  rw[this] at h;exact h
def UO(h:T W L (K (.s (bs (td e [] [] []))))):T W L (ik e none 0 0 none 0 0 none 0 0 K):=
 Ba (R:=L) (rb:=none) (ab:=none) (tb:=none) (rc:=0) (ac:=0) (tc:=0) (res:=[]) (al:=[]) (tl:=[]) mZ.nil mZ.nil mZ.nil (by decide) (by decide) (by decide) (λa h=>by cases h) (λa h=>by cases h) h
def vn(h:T W L (K (.s (bs (td e [] [] []))))):T W L (jb e K):=by
 unfold jb;exact UO (y7 h)
end
section
variable {W:World} {L R M:LH} {K:VK} {X:WK} {q:kh} {s:wK} {p:Nat} {m:aA} {mb kb:OA} {mc kc:Nat}
def IS{r1:Nat}{ob kb ab xb:OA}{oc kc ac xc:Nat}{ol al:List bJ}{kl xl:List ch}{ck st Zp Z8:Int}{f0:LV->LH}{f1 f2 f3 f4:HP->LH}
 [i0:Lc (Sep.pt r1) L [.l ob ol.length oc,.l kb kl.length kc,.i ck,.i st] f0]
 [i1:u9 ob ol.length oc L 14 (ol.flatMap aL) f1][i2:u9 ab al.length ac L 14 (al.flatMap aL) f2][i3:u9 kb kl.length kc L 33 (kl.flatMap bF) f3][i4:u9 xb xl.length xc L 33 (xl.flatMap bF) f4](ha:ol.length<=100000)(hk:kl.length<=100000)
 (h:T W L (K (.b (decide (ol=al/\kl=xl/\ck=Zp/\st=Z8))))):T W L (cT (some (ad r1 0)) ab al.length ac xb xl.length xc Zp Z8 K):=by
 have bad: ¬(ol=al/\kl=xl/\ck=Zp/\st=Z8)->T W L (K (.b false)):=λhh=>by rw[ar hh] at h;exact h
 have j1:∀b:Bool,(b=true-> ¬(ol=al/\kl=xl/\ck=Zp/\st=Z8))->(b=false->ol.length=al.length/\kl.length=xl.length/\ck=Zp/\st=Z8)->T W L (cT.j1 K al.length (some (ad r1 0)) ab xl.length xb b):=λb O9 wX=>by
  unfold cT.j1;cases b with
  |true=>exact bad (O9 rfl)
  |false=>
   obtain⟨hl1,SW,hck,uZ⟩:=wX rfl;refine ph ?_;intro w jO;refine⟨λvv w=>∃i:Nat,i<=al.length/\ol.take i=al.take i/\vv=[.b false,.i (al.length:Int),.i (i:Int)]/\St W w L,λvs _=>match vs with|[_,_,.int _ d]=>al.length-d.toNat|_=>0,⟨0,aE _,rfl,rfl,jO⟩,?_⟩;rintro b1 n1 n2 w2 ⟨i,hi,heq,e,hO⟩;cases e
   refine T.at ?_ hO;have e5:=nK i;apply ga<;>intro g1
   ·have bX:i<al.length:=by omega
    have gx:=aj (show i<ol.length by omega);have gy:=aj bX;generalize ol[i]=x at gx;generalize al[i]=y at gy;refine JT ?_;refine EA ?_;refine nR (i:=i0) rfl ?_;refine um ?_;refine dL (b:=ob) ⟨by omega,by omega⟩ λrb hb=>?_;rw[ak];subst hb;refine gT j0 gx ?_;refine dL (b:=ab) ⟨by omega,by omega⟩ λrb2 hb=>?_;rw[ak];subst hb;refine gT j0 gy ?_;refine ac0 ?_;by_cases g2:x=y
    ·rw[av g2,e5];refine vg ?_;exact λw3 h3=>⟨⟨i+1,bX,Ny gx gy heq g2,rfl,h3⟩,by show al.length-((i+1:Nat):Int).toNat<al.length-(i:Int).toNat;omega⟩
    ·rw[ar g2];exact bad λhh=>Nz gx gy g2 hh.1
   ·have jk:i=al.length:=by omega
    subst jk;rw[aS,<-hl1,aS] at heq;intro w3 xf;refine⟨λvv w=>∃i:Nat,i<=xl.length/\kl.take i=xl.take i/\vv=[.b false,.i (xl.length:Int),.i (i:Int)]/\St W w L,λvs _=>match vs with|[_,_,.int _ d]=>xl.length-d.toNat|_=>0,⟨0,aE _,rfl,rfl,xf⟩,?_⟩;rintro b1 n1 n2 w4 ⟨i,hi,abQ,e,zi⟩;cases e
    refine T.at ?_ zi;have e5:=nK i;apply ga<;>intro g1
    ·have bX:i<xl.length:=by omega
     have gx:=aj (show i<kl.length by omega);have gy:=aj bX;generalize kl[i]=x at gx;generalize xl[i]=y at gy;refine JT ?_;refine EA ?_;refine FQ ?_;refine nR (i:=i0) (o:=1) rfl ?_;refine um ?_;refine dL (b:=kb) ⟨by omega,by omega⟩ λrb hb=>?_;rw[ak];subst hb;refine gT jH gx ?_;refine dL (b:=xb) ⟨by omega,by omega⟩ λrb2 hb=>?_;rw[ak];subst hb;refine gT jH gy ?_;refine acZ ?_;by_cases g2:x=y
     ·rw[av g2,e5];refine vg ?_;exact λw3 h3=>⟨⟨i+1,bX,Ny gx gy abQ g2,rfl,h3⟩,by show xl.length-((i+1:Nat):Int).toNat<xl.length-(i:Int).toNat;omega⟩
     ·rw[ar g2];exact bad λhh=>Nz gx gy g2 hh.2.1
    ·have jk:i=xl.length:=by omega
     subst jk;rw[aS,<-SW,aS] at abQ;rw[av ⟨heq,abQ,hck,uZ⟩] at h;exact h
 unfold cT cT.j2 cT.j3;refine EA ?_;refine nR (i:=i0) rfl ?_;refine um ?_;by_cases hlen:ol.length=al.length
 ·refine fW (by simp;omega) ?_;refine EA ?_;refine FQ ?_;refine nR (i:=i0) (o:=1) rfl ?_;refine um ?_;by_cases AT:kl.length=xl.length
  ·refine fW (by simp;omega) ?_;refine EA ?_;refine FQ ?_;refine nR (i:=i0) (o:=2) rfl ?_;refine nQ ?_;by_cases hc:ck=Zp
   ·refine fW (by simpa using hc) ?_;refine EA ?_;refine FQ ?_;refine nR (i:=i0) (o:=3) rfl ?_;refine nQ ?_;refine j1 _ (λhb=>?_) (λhb=>⟨hlen,AT,hc,by simpa using hb⟩);have:=fP.1 hb;exact λhh=>this hh.2.2.2
   ·refine mP (by simpa using hc) ?_;exact j1 true (λ_ hh=>hc hh.2.2.1) (λhb=>by cases hb)
  ·refine mP (by rw[fP];omega) ?_;refine wQ ?_;exact j1 true (λ_ hh=>AT (by rw[hh.2.1])) (λhb=>by cases hb)
 ·refine mP (by rw[fP];omega) ?_;refine wQ ?_;refine wQ ?_;exact j1 true (λ_ hh=>hlen (by rw[hh.1])) (λhb=>by cases hb)
def X6{ab xb:OA}{ac xc:Nat}{al:List bJ}{xl:List ch}{Zp Z8:Int}{f2 f4:HP->LH}(hm:RM m)
 [i2:u9 ab al.length ac R 14 (al.flatMap aL) f2][i4:u9 xb xl.length xc R 33 (xl.flatMap bF) f4]
 (h:T W (ML p m mb mc kb kc R) (K (.b (decide (m.cE.map m.full=al/\m.ax=xl/\m.clock=Zp/\m.ay=Z8))))):T W (ML p m mb mc kb kc R) (kS (ah p) ab al.length ac xb xl.length xc Zp Z8 K):=by
 unfold kS;have hmf:=hm.og;have hmm:=hm.many;apply ws;intros;refine DT (by omega) (by omega) hm.rkA hm.rkK λob oc=>?_;apply ws;intros;rename_i r1;have O5:m.cE.length=(m.cE.map m.full).length:=(bU _).symm;rw[O5];refine IS (ob:=ob) (ol:=m.cE.map m.full) (kl:=m.ax) (by rw[bU];omega) (by omega) ?_;apply ws;intros;refine T.drop ?_;refine T.sub h ?_;exact qo
end
section
variable {W:World} {L R M:LH} {K:VK} {X:WK} {q:kh} {s:wK} {p:Nat} {m:aA} {mb kb:OA} {mc kc:Nat}
end
end Go.Up
namespace Go.Sep
open Go.Den Go.RowKit Go.Prog Go.cF
section
variable {W w:World} {L:LH}
end
def Ru{D:aX}{number:Int}{h:gF}(hg:od h):∃a:Nat,(a:Int)=low h.bC/\a<2/\uv D number h=fj D a (a+1:Nat) number (bs (kz h)):=by
 have hl:=wU h.bC;refine⟨(low h.bC).toNat,by omega,by omega,?_⟩;unfold uv fj;rw[ai hg];have e1:(((low h.bC).toNat:Nat):Int)=low h.bC:=by omega
 have e2:(((low h.bC).toNat+1:Nat):Int)=low h.bC+1:=by omega
 rw[e1,e2]
def G2(h:gF):gN (bs (kz h)).size=1:=by rw[cj,qJ];rfl
def IX(h:gF):part (bs (kz h)) 0=bs (kz h):=by
 apply kZ;unfold part;rw[extract_toList,Nat.mul_zero,jn,bS];show(kz h).length<=_;rw[qJ];decide
def Nt{D:aX}{i:Nat}{n:Int}{h:gF}(hn:1<=n/\n<=1152921504606846976)(hg:od h)(hi:(i:Int)=low h.bC)(hr:D.read (i:Int)=(leaf n 0 (bs (kz h)),0)):BD D i=some h:=by
 have Br:ft n 0 (bs (kz h)):=⟨hn.1,hn.2,by decide,by decide,by rw[cj,qJ];decide⟩;unfold BD;rw[hr];dsimp only;rw[nN Br,pq Br];dsimp only;rw[ag (by simp),show(bs (kz h)).data.toList=kz h from rfl,MM hg];dsimp only;rw[ag (λhh=>hh hi.symm)]
def He{D:aX}{i:Nat}(hr:mw (D.read (i:Int)).1.data.toList=none):BD D i=none:=by
 unfold BD;rw[hr]
def Ms{n:Int}(h:0<=n/\n<=1152921504606846977):low n=n.tmod 2:=by
 obtain⟨m,rfl⟩:=bt h.1;have e:m%2^64=m:=fN (by omega);rw[QX,BitVec.ofInt_natCast,BitVec.toNat_ofNat,e,dX (by omega)];omega
def Ah{D:aX}{i:Nat}(h:i<D.safe.length):(D.read (i:Int)).2=0:=by
 unfold aX.read;rw[ai ⟨by omega,by omega⟩]
section
variable {W w:World} {L:LH}
end
def xW(a:gF×gF)(h:gF):gF×gF:=if low h.bC=0 then(h,a.2) else(a.1,h)
def Dz{D D':aX}{i:Nat}(h1:i<D.safe.length)(h2:i<D'.safe.length)(h:(D'.read (i:Int)).1=(D.read (i:Int)).1):BD D' i=BD D i:=by
 have e:D'.read (i:Int)=D.read (i:Int):=by
  have a:=Ah h1;have b:=Ah h2;exact Prod.ext h (by rw[a,b])
 unfold BD;rw[e]
def AU(h:gF):∀v∈cr h,v.oneCell'=true:=by simp[cr,Value.oneCell']
section
variable {W w:World} {L:LH} {k:Nat}
end
end Go.Sep
namespace Go.Up
open Go.Sep Go.Den Go.RowKit Go.Prog Go.Md Go.cF
def GD{n:Nat}{D D':aX}{J:PJ}{q0:Int}{oV:List (List UInt8)}{g g':Nat}(h:JG n D J q0 oV g)(iH:D'.Ok)(Bq:D'.later=[])(hlen:D'.safe.length=n)
 (hr:∀j:Int,J.lo<=j->j<J.hi->(D'.read j).1=(D.read j).1)(he:∀j:Nat,j<n->Sep.Ends g' (D'.read (j:Int)).1):JG n D' J q0 oV g':=by
 have hl:D'.safe.length=D.safe.length:=by rw[hlen,h.len]
 have j2:=h.yW.KP;have j3:=h.yW.RC;refine⟨iH,Bq,hlen,⟨h.yW.lo,j2,j3,by rw[hl];exact h.yW.hi,h.yW.seq⟩,wG hl _ h.chain (λj a b=>hr j (by omega) (by omega)),h.seq,h.q0,λj a b m d hv=>?_,?_,he⟩
 ·rw[hr j a b] at hv;exact h.low j a b m d hv
 ·rw[DY hl (λj a b=>hr j (by omega) (by omega))];exact h.stop
def OV{n:Nat}{D:aX}{J:PJ}{q0:Int}{oV:List (List UInt8)}{g:Nat}(h:JG n D J q0 oV g):JG n D {J with at':=J.lo} J.seq [] g:=by
 have hq0:=h.q0;have H9:=h.seq;have j2:=h.yW.KP;have j3:=h.yW.RC;refine⟨h.ok,h.Jc,h.len,⟨h.yW.lo,tw _,by show J.lo<=J.hi;omega,h.yW.hi,h.yW.seq⟩,rfl,by show J.seq=J.seq+_;simp,h.yW.seq.1,h.low,?_,h.ends⟩;show my D J.lo J.hi (J.seq+1)=none;cases EH:oV with
 |nil=>
  have Kt:=h.chain;rw[EH] at Kt;unfold Sep.kE at Kt;rw[Kt];exact h.stop
 |cons s r=>
  have Kt:=h.chain;rw[EH] at Kt;obtain⟨a2,h1,h2⟩:=Kt;obtain⟨m,d,x1,x2,hv,SO⟩:=I6 (by omega) h1;obtain⟨i1,i2,i3,i4,i5,i6⟩:=qq h1;have VF:=sx (12+s.length);have CO:=h.yW.seq;have BN:=h.yW.hi;have hlen:=h.ok.og;have abG:=wi (seq:=q0+1) (s:=bs s) ⟨by omega,by
   have:(oV.length:Int)>=1:=by rw[EH,bE];omega
   omega⟩ (by rw[cj];omega)
  refine Da (λm2 d2 Vq=>?_);rw[hv] at Vq;simp only[aY.injEq,Prod.mk.injEq] at Vq;obtain⟨-,-,rfl⟩:=Vq;have VB:Sep.ft m ((0:Nat):Int) (Sep.part (bs (dv (q0+1) (bs s))) 0):=⟨x1,x2,by omega,by omega,nM _ 0⟩;have r0:=SO 0 VF;rw[show J.lo+((0:Nat):Int)=J.lo from by omega] at r0;rw[r0,nN VB,pq VB] at hv;simp only[aY.injEq,Prod.mk.injEq] at hv;obtain⟨-,-,hd⟩:=hv;rw[<-hd,abG.1];rw[EH,bE] at H9;omega
def Aft(L:aX×Int)(D':aX):Prop:=(∃mask torn cut,D'=L.1.eY mask torn cut)\/(L.2=0/\D'=L.1)
def lsx{n a t m g:Nat}{D D':aX}{s:BA}(iH:D.Ok)(Bq:D.later=[])(hlen:D.safe.length=n)(rT:∀j:Nat,j<n->Sep.Ends g (D.read (j:Int)).1)(cS:n<=4096)(hm:g<m)(Lg:m<256)(hl:a+gN s.size<=t)(htn:t<=n)
 (hA:Aft (fj D (a:Int) (t:Int) (m:Int) s) D'):
 D'.Ok/\D'.later=[]/\D'.safe.length=n/\(∀j:Nat,j<n->Sep.Ends m (D'.read (j:Int)).1)/\(∀j:Nat,j<n->(j<a\/a+gN s.size<=j)->(D'.read (j:Int)).1=(D.read (j:Int)).1)/\
  ((fj D (a:Int) (t:Int) (m:Int) s).2=0->∀q:Nat,q<gN s.size->(D'.read ((a+q:Nat):Int)).1=leaf m q (Sep.part s q))/\
  (∀q:Nat,q<gN s.size->(D'.read ((a+q:Nat):Int)).1=(D.read ((a+q:Nat):Int)).1\/(D'.read ((a+q:Nat):Int)).1=leaf m q (Sep.part s q)\/mw (D'.read ((a+q:Nat):Int)).1.data.toList=none):=by
 have hcp:=sx s.size;have key:∀mask torn cut:Int,∀X:aX,X=(fj D (a:Int) (t:Int) (m:Int) s).1.eY mask torn cut->X.Ok/\X.later=[]/\X.safe.length=n/\(∀j:Nat,j<n->Sep.Ends m (X.read (j:Int)).1)/\(∀j:Nat,j<n->(j<a\/a+gN s.size<=j)->(X.read (j:Int)).1=(D.read (j:Int)).1)/\
  ((fj D (a:Int) (t:Int) (m:Int) s).2=0->∀q:Nat,q<gN s.size->(X.read ((a+q:Nat):Int)).1=leaf m q (Sep.part s q))/\
  (∀q:Nat,q<gN s.size->(X.read ((a+q:Nat):Int)).1=(D.read ((a+q:Nat):Int)).1\/(X.read ((a+q:Nat):Int)).1=leaf m q (Sep.part s q)\/mw (X.read ((a+q:Nat):Int)).1.data.toList=none):=λmask torn cut X hX=>by
  obtain⟨c1,c2,c3,c4⟩:=Mq (n:=n) (a:=a) (t:=t) (number:=(m:Int)) (mask:=mask) (torn:=torn) (cut:=cut) (s:=s) iH Bq hlen cS (by omega) hl htn;rw[<-hX] at c1 c2 c3 c4;have Br:∀i:Nat,i<4096->Sep.ft (m:Int) (i:Int) (Sep.part s i):=λi hi=>⟨by omega,by omega,by omega,by omega,nM _ i⟩;have adJ:X.later=[]:=by rw[hX,nW]
  refine⟨c3,adJ,c4,λj hj=>?_,λj hj zf=>?_,c2,λq hq=>?_⟩
  ·rcases c1 j hj with hh|⟨i,h1,h2,h3⟩
   ·rw[hh];exact(rT j hj).mono (by omega)
   ·exact(De hm Lg (Br i (by omega)) (rT j hj) h3).1
  ·rcases c1 j hj with hh|⟨i,h1,h2,h3⟩
   ·exact hh
   ·omega
  ·rcases c1 (a+q) (by omega) with hh|⟨i,h1,h2,h3⟩
   ·exact .inl hh
   ·have:i=q:=by omega
    subst this;exact(De hm Lg (Br i (by omega)) (rT (a+i) (by omega)) h3).2
 rcases hA with⟨mask,torn,cut,hX⟩|⟨h0,hX⟩
 ·exact key mask torn cut D' hX
 ·have hlz:=QV h0;obtain⟨k1,k2,k3,k4,k5,k6,k7⟩:=key 0 (-1) 0 _ rfl;have Xo:∀j:Int,((fj D (a:Int) (t:Int) (m:Int) s).1.eY 0 (-1) 0).read j=D'.read j:=λj=>by rw[hX];exact yI hlz 0 (-1) 0 j
  refine⟨by rw[hX];exact Mp iH (by rw[Bq,cO];omega),by rw[hX];exact hlz,by rw[hX,<-tp _ 0 (-1) 0];exact k3,λj hj=>by rw[<-Xo];exact k4 j hj,λj hj ho=>by rw[<-Xo];exact k5 j hj ho,λh q hq=>by rw[<-Xo];exact k6 h q hq,λq hq=>by rw[<-Xo];exact k7 q hq⟩
def CG(n:Nat)(D:aX)(hd:gF)(mb:aA):Prop:=
 (hd=Fs/\mb=je/\BD D 0=none/\BD D 1=none)\/
 (od hd/\(∃(a:Nat)(k:Int),(a:Int)=low hd.bC/\1<=k/\k<=1152921504606846976/\(D.read (a:Int)).1=leaf k 0 (bs (kz hd))/\(∀p,BD D (1-a)=some p->p.bC<hd.bC))/\
  hd.size=((cQ (bo mb)).length:Int)/\gN (cQ (bo mb)).length<=dB n/\∀q:Nat,q<gN (cQ (bo mb)).length->(D.read ((fq n hd.bC+q:Nat):Int)).1=leaf hd.number q (Sep.part (bs (cQ (bo mb))) q))
def CG.base{n:Nat}{D:aX}{hd:gF}{mb:aA}(h:CG n D hd mb)(hlen:D.safe.length=n)(nF:12<=n)(cS:n<=4096):acH D n hd mb:=by
 rcases h with⟨h1,h2,h3,h4⟩|⟨hg,⟨a,k,ha,TN,q8,hr,hp⟩,hs,hc,hq⟩
 ·left
  rw[h3,h4];exact⟨rfl,h1,h2⟩
 ·right
  have MI:=wU hd.bC;have eA:BD D a=some hd:=Nt (n:=k) ⟨TN,q8⟩ hg ha (by
   have:=Ah (D:=D) (i:=a) (by omega)
   rw[<-hr,<-this])
  constructor
  ·by_cases ha0:a=0
   ·subst ha0;rw[eA];cases hb:BD D 1 with
    |none=>rfl
    |some p=>
     have:=hp p hb;show(if hd.bC<p.bC then some p else some hd)=some hd;rw[ag (by omega)]
   ·have:a=1:=by omega
    subst this;rw[eA];cases hb:BD D 0 with
    |none=>rfl
    |some p=>
     have:=hp p hb;show(if p.bC<hd.bC then some hd else some p)=some hd;rw[ai this]
  ·have:=Y3 (n:=n) (D:=D) (which:=hd.bC) (number:=hd.number) (s:=bs (cQ (bo mb))) hlen nF cS ⟨hg.2.2.1,hg.2.2.2.1⟩ (by rw[cj];exact hc) (λq hqq=>by
    rw[show(((fq n hd.bC:Nat):Int)+(q:Int))=((fq n hd.bC+q:Nat):Int) from by omega]
    exact hq q hqq)
   rw[cj,<-hs] at this;exact this
def CG.kY{n:Nat}{D D':aX}{hd:gF}{mb:aA}(h:CG n D hd mb)(nF:12<=n)(hlen:D.safe.length=n)(adI:D'.safe.length=n)
 (h01:∀j:Nat,j<2->(D'.read (j:Int)).1=(D.read (j:Int)).1)(hsl:∀j:Nat,fq n hd.bC<=j->j<fq n hd.bC+dB n->(D'.read (j:Int)).1=(D.read (j:Int)).1):CG n D' hd mb:=by
 have CQ:∀i:Nat,i<2->BD D' i=BD D i:=λi hi=>Dz (by omega) (by omega) (h01 i hi);rcases h with⟨h1,h2,h3,h4⟩|⟨hg,⟨a,k,ha,TN,q8,hr,hp⟩,hs,hc,hq⟩
 ·exact .inl ⟨h1,h2,by rw[CQ 0 (by decide)];exact h3,by rw[CQ 1 (by decide)];exact h4⟩
 ·have MI:=wU hd.bC;refine .inr ⟨hg,⟨a,k,ha,TN,q8,by rw[h01 a (by omega)];exact hr,λp Vw=>hp p (by rw[<-CQ (1-a) (by omega)];exact Vw)⟩,hs,hc,λq hqq=>?_⟩;rw[hsl _ (by omega) (by omega)];exact hq q hqq
structure VG(n:Nat)(D:aX)(J:PJ)(hd:gF)(mb:aA)(qs:List kh)(g:Nat):Prop where
 jg:JG n D J hd.seq (qs.map dR) g
 cg:CG n D hd mb
 lo:J.lo=((2+2* dB n:Nat):Int)
 hi:J.hi=(n:Int)
 dJ:J.dJ=false
 zP:ft (bo mb)
 ground:Md.bK mb
 oV:∀q∈qs,Hm q
 HS:J.seq<=g
 bC:0<=hd.bC/\hd.bC<=g
def VG.mono{n:Nat}{D:aX}{J:PJ}{hd:gF}{mb:aA}{qs:List kh}{g g':Nat}(h:VG n D J hd mb qs g)(hg:g<=g'):VG n D J hd mb qs g':=
 ⟨h.jg.mono hg,h.cg,h.lo,h.hi,h.dJ,h.zP,h.ground,h.oV,by have:=h.HS;omega,by have:=h.bC;omega⟩
def WQ{n:Nat}(nF:12<=n)(cS:n<=4096):VG n (aX.new n) ⟨((2+2* dB n:Nat):Int),n,((2+2* dB n:Nat):Int),0,false⟩ Fs je [] 0:=by
 have hb:2+2* dB n<n:=by unfold dB;omega
 have hz:∀i:Nat,i<n->mw ((aX.new n).read (i:Int)).1.data.toList=none:=λi hi=>by
  rw[Cm cS hi];exact zz
 exact⟨acF cS (by omega) (by omega) (by omega) 0 (by omega),.inl ⟨rfl,rfl,He (hz 0 (by omega)),He (hz 1 (by omega))⟩,rfl,rfl,rfl,GQ,px,λq hq=>(by cases hq),tw _,⟨tw _,tw _⟩⟩
def VG.add{n:Nat}{D:aX}{J:PJ}{hd:gF}{mb:aA}{qs:List kh}{g:Nat}{q:kh}(h:VG n D J hd mb qs g)(nF:12<=n)(cS:n<=4096)(hq:Hm q)(hr:room J (bs (dR q)).size)(hg:g+1<256):
 uy D J (fr D n+1) (bs (dR q))=Sep.DA J (bs (dR q)) (fj D J.at' J.hi (fr D n+1) (bs (dv (J.seq+1) (bs (dR q)))))/\(fj D J.at' J.hi (fr D n+1) (bs (dv (J.seq+1) (bs (dR q))))).1.Ok/\
 (((fj D J.at' J.hi (fr D n+1) (bs (dv (J.seq+1) (bs (dR q))))).2=0/\VG n (fj D J.at' J.hi (fr D n+1) (bs (dv (J.seq+1) (bs (dR q))))).1 (J.more (bs (dR q))) hd mb (qs++[q]) (g+1))\/
  ((fj D J.at' J.hi (fr D n+1) (bs (dv (J.seq+1) (bs (dR q))))).2=8/\∀mask torn cut,
    VG n ((fj D J.at' J.hi (fr D n+1) (bs (dv (J.seq+1) (bs (dR q))))).1.eY mask torn cut) J hd mb qs (g+1)\/
    VG n ((fj D J.at' J.hi (fr D n+1) (bs (dv (J.seq+1) (bs (dR q))))).1.eY mask torn cut) (J.more (bs (dR q))) hd mb (qs++[q]) (g+1))):=by
 obtain⟨x,hx,hxg,hjx⟩:=h.jg.zO (by omega);have hm:fr D n+1=((x+1:Nat):Int):=by omega
 rw[hm];have H9:=h.HS;have htr:=h.bC;have CP:=h.lo;have BN:=h.hi;obtain⟨a1,a2,a3⟩:=hjx.add (m:=x+1) (s:=bs (dR q)) h.dJ cS (by omega) (by omega) hr (by omega);have j2:=h.jg.yW.KP;obtain⟨a,ha⟩:=bt (show 0<=J.at' by omega);have Cv:=te (J.seq+1) (bs (dR q));have r3:=hr.2.2;rw[ak] at r3;have hcg:∀D',Aft (fj D J.at' J.hi ((x+1:Nat):Int) (bs (dv (J.seq+1) (bs (dR q))))) D'->CG n D' hd mb:=λD' hA=>by
  rw[ha,BN] at hA;obtain⟨k1,k2,k3,k4,k5,-,-⟩:=lsx (n:=n) (a:=a) (t:=n) (m:=x+1) (g:=x) h.jg.ok h.jg.Jc h.jg.len hjx.ends cS (by omega) (by omega) (by rw[Cv];omega) (aH _) hA;have Vv:=(pR nF hd.bC);have hsl:fq n hd.bC+dB n<=2+2* dB n:=by unfold fq;split<;>omega
  exact h.cg.kY nF h.jg.len k3 (λj hj=>k5 j (by omega) (.inl (by omega))) (λj hj1 Ks=>k5 j (by omega) (.inl (by omega)))
 have aaj:∀r∈qs++[q],Hm r:=λr hr=>by
  rcases dF.1 hr with hr|hr
  ·exact h.oV r hr
  ·cases(show r=q by simpa using hr);exact hq
 have MH:(qs++[q]).map dR=qs.map dR++[(bs (dR q)).data.toList]:=by rw[cY];rfl
 refine⟨a1,a2,?_⟩;rcases a3 with⟨z,hj⟩|z
 ·left
  refine⟨z,⟨?_,hcg _ (.inr ⟨z,rfl⟩),CP,BN,h.dJ,h.zP,h.ground,aaj,by show J.seq+1<=((g+1:Nat):Int);omega,by omega⟩⟩;rw[MH];exact hj.mono (by omega)
 ·right
  refine⟨z,λmask torn cut=>?_⟩;obtain⟨f1,f2,f3,f4⟩:=fly hjx cS (show x<x+1 by omega) (by omega) hr (by omega) mask torn cut;have hc:=hcg _ (.inl ⟨mask,torn,cut,rfl⟩);by_cases hw:∀i:Nat,i<gN (12+(bs (dR q)).size)->(((fj D J.at' J.hi ((x+1:Nat):Int) (bs (dv (J.seq+1) (bs (dR q))))).1.eY mask torn cut).read (J.at'+i)).1=leaf ((x+1:Nat):Int) i (Sep.part (bs (dv (J.seq+1) (bs (dR q)))) i)
  ·right
   refine⟨?_,hc,CP,BN,h.dJ,h.zP,h.ground,aaj,by show J.seq+1<=((g+1:Nat):Int);omega,by omega⟩;rw[MH];exact(f3 hw).mono (by omega)
  ·left
   exact⟨(f4 hw).mono (by omega),hc,CP,BN,h.dJ,h.zP,h.ground,h.oV,by omega,by omega⟩
def Mr{t:Int}(h:0<=t/\t<1152921504606846976):low (t+1)=1-low t:=by
 rw[Ms (by omega),Ms (by omega),dX (by omega),dX (by omega)];omega
def VG.put{n:Nat}{D:aX}{J:PJ}{hd:gF}{mb m:aA}{qs:List kh}{g:Nat}(h:VG n D J hd mb qs g)(nF:12<=n)(cS:n<=4096)(hg:g+2<256)(Dn:gN (cQ (bo m)).length<=dB n):
 ((put D n (hd.bC+1) (fr D n+1) (bs (cQ (bo m)))).2=0\/(put D n (hd.bC+1) (fr D n+1) (bs (cQ (bo m)))).2=8)/\
 ∀D',Aft (put D n (hd.bC+1) (fr D n+1) (bs (cQ (bo m)))) D'->VG n D' J hd mb qs (g+1)/\
  ((put D n (hd.bC+1) (fr D n+1) (bs (cQ (bo m)))).2=0->∀q:Nat,q<gN (cQ (bo m)).length->(D'.read ((fq n (hd.bC+1)+q:Nat):Int)).1=leaf (fr D n+1) q (Sep.part (bs (cQ (bo m))) q)):=by
 obtain⟨x,hx,hxg,hjx⟩:=h.jg.zO (by omega);have hm:fr D n+1=((x+1:Nat):Int):=by omega
 rw[hm,Bd];have tG:=pR nF (hd.bC+1);have htr:=h.bC;have CP:=h.lo;have BN:=h.hi;have H9:=h.HS;refine⟨E5 (n:=n) (a:=fq n (hd.bC+1)) (t:=fq n (hd.bC+1)+dB n) (number:=((x+1:Nat):Int)) h.jg.len cS (by omega) (by rw[cj];omega) (by omega),λD' hA=>?_⟩;obtain⟨k1,k2,k3,k4,k5,k6,k7⟩:=lsx (n:=n) (a:=fq n (hd.bC+1)) (t:=fq n (hd.bC+1)+dB n) (m:=x+1) (g:=x) h.jg.ok h.jg.Jc h.jg.len hjx.ends cS (by omega) (by omega) (by rw[cj];omega) (by omega) hA;rw[cj] at k5 k6;have hap:=Ou (n:=n) hd.bC (hd.bC+1) (by rw[Mr (by omega)];have:=wU hd.bC;omega);have hsl:fq n (hd.bC+1)+dB n<=2+2* dB n:=by unfold fq;split<;>omega
 refine⟨⟨GD h.jg k1 k2 k3 (λj hj1 Ks=>?_) (λj hj=>(k4 j hj).mono (by omega)),h.cg.kY nF h.jg.len k3 (λj hj=>k5 j (by omega) (.inl (by omega))) (λj hj1 Ks=>k5 j (by have:=(pR nF hd.bC).2.1;omega) (by omega)),CP,BN,h.dJ,h.zP,h.ground,h.oV,by omega,by omega⟩,k6⟩;obtain⟨k,rfl⟩:=bt (show 0<=j by omega);exact k5 k (by omega) (.inr (by omega))
def VG.aeW{n:Nat}{D:aX}{J:PJ}{hd:gF}{mb m:aA}{qs:List kh}{g:Nat}{number:Int}(h:VG n D J hd mb qs g)(nF:12<=n)(cS:n<=4096)(x:Nat)(hx:fr D n<=x)(hxg:x<=g)(hg:g+1<256)(qt:1<=number/\number<=(g:Int))
 (Dn:gN (cQ (bo m)).length<=dB n)(hlen:(cQ (bo m)).length<=425984)(eJ:ft (bo m))(uN:Md.bK m)
 (adu:∀q:Nat,q<gN (cQ (bo m)).length->(D.read ((fq n (hd.bC+1)+q:Nat):Int)).1=leaf number q (Sep.part (bs (cQ (bo m))) q)):
 ((uv D ((x+1:Nat):Int) ⟨hd.bC+1,number,((cQ (bo m)).length:Int),J.seq⟩).2=0\/(uv D ((x+1:Nat):Int) ⟨hd.bC+1,number,((cQ (bo m)).length:Int),J.seq⟩).2=8)/\
 ∀D',Aft (uv D ((x+1:Nat):Int) ⟨hd.bC+1,number,((cQ (bo m)).length:Int),J.seq⟩) D'->
  (VG n D' {J with at':=J.lo} ⟨hd.bC+1,number,((cQ (bo m)).length:Int),J.seq⟩ m [] (g+1)\/
   ((uv D ((x+1:Nat):Int) ⟨hd.bC+1,number,((cQ (bo m)).length:Int),J.seq⟩).2=8/\VG n D' J hd mb qs (g+1))):=by
 have rT:∀j:Nat,j<n->Sep.Ends x (D.read (j:Int)).1:=by
  obtain⟨y,hy,hyg,hjy⟩:=h.jg.zO (by omega);intro j hj;exact(hjy.ends j hj).mono (by omega)
 have htr:=h.bC;have H9:=h.HS;have CP:=h.lo;have BN:=h.hi;have YR:=h.jg.yW.seq;obtain⟨hH,Jr⟩:∃hH:gF,hH=⟨hd.bC+1,number,((cQ (bo m)).length:Int),J.seq⟩:=⟨_,rfl⟩;rw[<-Jr];have hHt:hH.bC=hd.bC+1:=by rw[Jr]
 have hHs:hH.seq=J.seq:=by rw[Jr]
 have hHn:hH.number=number:=by rw[Jr]
 have hHz:hH.size=((cQ (bo m)).length:Int):=by rw[Jr]
 have hHG:od hH:=by rw[Jr];unfold od;dsimp only;omega
 obtain⟨b,hb,wX,e⟩:=Ru (D:=D) (number:=((x+1:Nat):Int)) hHG;have O7:=G2 hH;rw[e];refine⟨E5 (n:=n) (a:=b) (t:=b+1) (number:=((x+1:Nat):Int)) h.jg.len cS (by omega) (by rw[O7];omega) (by omega),λD' hA=>?_⟩;obtain⟨k1,k2,k3,k4,k5,k6,k7⟩:=lsx (n:=n) (a:=b) (t:=b+1) (m:=x+1) (g:=x) h.jg.ok h.jg.Jc h.jg.len rT cS (by omega) (by omega) (by rw[O7];omega) (by omega) hA;rw[O7] at k5 k6 k7;have hbl:(b:Int)=1-low hd.bC:=by rw[hb,hHt];exact Mr (by omega)
 have MI:=wU hd.bC;have tG:=pR nF (hd.bC+1);have aiN:=pR nF hd.bC;have Vv:2<=2+2* dB n:=by omega
 have D9:=k7 0 (by decide);rw[eL,IX] at D9;have jg1:∀g',g'>=x+1->JG n D' J hd.seq (qs.map dR) g':=λg' YT=>GD h.jg k1 k2 k3 (λj hj1 Ks=>by
  obtain⟨k,rfl⟩:=bt (show 0<=j by omega)
  exact k5 k (by omega) (.inr (by omega))) (λj hj=>(k4 j hj).mono YT)
 have Bp:∀j:Nat,j<n->j≠b->(D'.read (j:Int)).1=(D.read (j:Int)).1:=λj hj kN=>k5 j hj (by omega);have whole:(D'.read (b:Int)).1=leaf ((x+1:Nat):Int) 0 (bs (kz hH))->VG n D' {J with at':=J.lo} hH m [] (g+1):=λhw=>by
  have jr:=OV (jg1 (g+1) (by omega));refine⟨by rw[hHs];exact jr,.inr ⟨hHG,⟨b,((x+1:Nat):Int),hb,by omega,by omega,hw,λp hp=>?_⟩,hHz,Dn,λq hq=>?_⟩,CP,BN,h.dJ,eJ,uN,λq hq=>(by cases hq),by show J.seq<=((g+1:Nat):Int);omega,by rw[hHt];omega⟩
  ·rw[hHt];have Ec:BD D (1-b)=some p:=by rw[<-hp];exact(Dz (by have:=h.jg.len;omega) (by omega) (Bp (1-b) (by omega) (by omega))).symm
   rcases h.cg with⟨z1,z2,z3,z4⟩|⟨N0,⟨a,k,ha,TN,q8,YH,hpa⟩,-⟩
   ·by_cases N3:b=0
    ·subst N3;rw[z4] at Ec;cases Ec
    ·have:b=1:=by omega
     subst this;rw[z3] at Ec;cases Ec
   ·have Xu:a=1-b:=by omega
    have eA:BD D a=some hd:=Nt (n:=k) ⟨TN,q8⟩ N0 ha (by
     have:=Ah (D:=D) (i:=a) (by have:=h.jg.len;omega)
     rw[<-YH,<-this])
    rw[<-Xu,eA] at Ec;cases Ec
    omega
  ·rw[hHt,hHn,Bp _ (by omega) (by omega)];exact adu q hq
 have adf:BD D' b=none\/(D'.read (b:Int)).1=(D.read (b:Int)).1->VG n D' J hd mb qs (g+1):=λhn=>by
  refine⟨jg1 (g+1) (by omega),?_,CP,BN,h.dJ,h.zP,h.ground,h.oV,by omega,by omega⟩;rcases hn with hn|hn
  ·rcases h.cg with⟨z1,z2,z3,z4⟩|⟨N0,⟨a,k,ha,TN,q8,YH,hpa⟩,hs,hc,hq⟩
   ·have hc1:BD D' (1-b)=none:=by
     rw[Dz (by have:=h.jg.len;omega) (by omega) (Bp (1-b) (by omega) (by omega))];by_cases N3:b=0
     ·subst N3;exact z4
     ·have:b=1:=by omega
      subst this;exact z3
    refine .inl ⟨z1,z2,?_,?_⟩
    ·by_cases N3:b=0
     ·subst N3;exact hn
     ·have:b=1:=by omega
      subst this;exact hc1
    ·by_cases N3:b=0
     ·subst N3;exact hc1
     ·have:b=1:=by omega
      subst this;exact hn
   ·have Xu:1-a=b:=by omega
    refine .inr ⟨N0,⟨a,k,ha,TN,q8,by rw[Bp a (by omega) (by omega)];exact YH,λp hp=>by rw[Xu,hn] at hp;cases hp⟩,hs,hc,λq hqq=>?_⟩;rw[Bp _ (by omega) (by omega)];exact hq q hqq
  ·exact h.cg.kY nF h.jg.len k3 (λj hj=>by
    by_cases hjb:j=b
    ·subst hjb;exact hn
    ·exact Bp j (by omega) hjb) (λj hj1 Ks=>Bp j (by omega) (by omega))
 by_cases hw:(D'.read (b:Int)).1=leaf ((x+1:Nat):Int) 0 (bs (kz hH))
 ·exact .inl (whole hw)
 ·right
  have hc8:(fj D (b:Int) ((b+1:Nat):Int) ((x+1:Nat):Int) (bs (kz hH))).2=8:=by
   rcases E5 (n:=n) (a:=b) (t:=b+1) (number:=((x+1:Nat):Int)) (s:=bs (kz hH)) h.jg.len cS (by omega) (by rw[O7];omega) (by omega) with h0|h8
   ·have:=k6 h0 0 (by decide);rw[eL,IX] at this;exact aQ this hw
   ·exact h8
  refine⟨hc8,?_⟩;rcases D9 with hh|hh|hh
  ·exact adf (.inr hh)
  ·exact aQ hh hw
  ·exact adf (.inl (He hh))
def uA(n:Nat)(D:aX)(m:aA)(g:Nat):Prop:=∃J hd mb qs,VG n D J hd mb qs g/\AF mb qs=m
def uA.mono{n:Nat}{D:aX}{m:aA}{g g':Nat}(h:uA n D m g)(hg:g<=g'):uA n D m g':=by
 obtain⟨J,hd,mb,qs,h1,h2⟩:=h;exact⟨J,hd,mb,qs,h1.mono hg,h2⟩
structure VW(n:Nat)(S:VS)(m:aA)(g:Nat):Prop where
 dJ:S.dJ=false
 is:∃hd mb qs,VG n S.D S.J hd mb qs g/\AF mb qs=m/\S.bC=hd.bC
structure VX(n:Nat)(S:VS)(m mf:aA)(g:Nat):Prop where
 dJ:S.dJ=true
 ok:Il S
 len:S.D.safe.length=n
 seq:S.J.seq<=g
 eY:∀mask torn cut,uA n (S.D.eY mask torn cut) m g\/uA n (S.D.eY mask torn cut) mf g
def VW.mono{n:Nat}{S:VS}{m:aA}{g g':Nat}(h:VW n S m g)(hg:g<=g'):VW n S m g':=by
 obtain⟨h1,hd,mb,qs,h2,h3,h4⟩:=h;exact⟨h1,hd,mb,qs,h2.mono hg,h3,h4⟩
def VX.mono{n:Nat}{S:VS}{m mf:aA}{g g':Nat}(h:VX n S m mf g)(hg:g<=g'):VX n S m mf g':=
 ⟨h.dJ,h.ok,h.len,by have:=h.seq;omega,λa b c=>(h.eY a b c).imp (λx=>x.mono hg) (λx=>x.mono hg)⟩
def VW.ok{n:Nat}{S:VS}{m:aA}{g:Nat}(h:VW n S m g)(hg:g<256):Il S:=by
 obtain⟨h1,hd,mb,qs,h2,h3,h4⟩:=h;have:=h2.bC;exact⟨h2.jg.ok,by rw[h2.jg.Jc];decide,h2.jg.yW,by omega⟩
def VW.len{n:Nat}{S:VS}{m:aA}{g:Nat}(h:VW n S m g):S.D.safe.length=n:=by
 obtain⟨h1,hd,mb,qs,h2,h3,h4⟩:=h;exact h2.jg.len
def VG.eY{n:Nat}{D:aX}{J:PJ}{hd:gF}{mb:aA}{qs:List kh}{g:Nat}(h:VG n D J hd mb qs g)(nF:12<=n)(mask torn cut:Int):VG n (D.eY mask torn cut) J hd mb qs g:=by
 have hr:=λj=>yI h.jg.Jc mask torn cut j;have e:D.eY mask torn cut=⟨D.safe,[],D.ops,0⟩:=by rw[nW,h.jg.Jc];rfl
 have iH:(D.eY mask torn cut).Ok:=zW h.jg.ok mask torn cut;have hl:(D.eY mask torn cut).safe.length=n:=by rw[tp];exact h.jg.len
 exact⟨h.jg.congr iH (by rw[e]) hl (λj _ _=>by rw[hr]),h.cg.kY nF h.jg.len hl (λj _=>by rw[hr]) (λj _ _=>by rw[hr]),h.lo,h.hi,h.dJ,h.zP,h.ground,h.oV,h.HS,h.bC⟩
def VW.eY{n:Nat}{S:VS}{m:aA}{g:Nat}(h:VW n S m g)(nF:12<=n)(mask torn cut:Int):uA n (S.D.eY mask torn cut) m g:=by
 obtain⟨h1,hd,mb,qs,h2,h3,h4⟩:=h;exact⟨S.J,hd,mb,qs,h2.eY nF mask torn cut,h3⟩
def VG.same{n:Nat}{D D':aX}{J:PJ}{hd:gF}{mb:aA}{qs:List kh}{g:Nat}(h:VG n D J hd mb qs g)(nF:12<=n)(iH:D'.Ok)(Bq:D'.later=[])(hl:D'.safe.length=n)(hr:∀j:Int,D'.read j=D.read j):VG n D' J hd mb qs g:=
 ⟨h.jg.congr iH Bq hl (λj _ _=>by rw[hr]),h.cg.kY nF h.jg.len hl (λj _=>by rw[hr]) (λj _ _=>by rw[hr]),h.lo,h.hi,h.dJ,h.zP,h.ground,h.oV,h.HS,h.bC⟩
def VW.rl{n:Nat}{S:VS}{m:aA}{g:Nat}(h:VW n S m g)(nF:12<=n)(k:Int):VW n {S with D:=S.D.rl k} m g:=by
 obtain⟨h1,hd,mb,qs,h2,h3,h4⟩:=h;have ho:=h2.jg.ok;exact⟨h1,hd,mb,qs,h2.same nF ⟨ho.safe,ho.later,ho.og,ho.less⟩ h2.jg.Jc h2.jg.len (λj=>rfl),h3,h4⟩
def VX.rl{n:Nat}{S:VS}{m mf:aA}{g:Nat}(h:VX n S m mf g)(k:Int):VX n {S with D:=S.D.rl k} m mf g:=by
 have ho:=h.ok;refine⟨h.dJ,⟨⟨ho.ok.safe,ho.ok.later,ho.ok.og,ho.ok.less⟩,ho.og,⟨ho.yW.lo,ho.yW.KP,ho.yW.RC,ho.yW.hi,ho.yW.seq⟩,ho.bC⟩,h.len,h.seq,λa b c=>?_⟩;have e:(S.D.rl k).eY a b c=S.D.eY a b c:=by rw[nW,nW];rfl
 show uA n ((S.D.rl k).eY a b c) m g\/uA n ((S.D.rl k).eY a b c) mf g;rw[e];exact h.eY a b c
def BQ{n:Nat}{S:VS}{m:aA}{g:Nat}(h:VW n S m g)(nF:12<=n)(cS:n<=4096)(hg:g+2<256)(eJ:ft (bo m))(uN:Md.bK m):
 ((fJ n m S).2=0/\VW n (fJ n m S).1 m (g+2)/\(fJ n m S).1.bC=S.bC+1/\(fJ n m S).1.J.seq=S.J.seq/\(fJ n m S).1.J.at'=S.J.lo/\(fJ n m S).1.J.lo=S.J.lo/\(fJ n m S).1.J.hi=S.J.hi)\/
 ((fJ n m S).2=3/\(fJ n m S).1=S/\ ¬gN (cQ (bo m)).length<=dB n)\/
 ((fJ n m S).2=8/\VX n (fJ n m S).1 m m (g+2)/\(fJ n m S).1.bC=S.bC/\(fJ n m S).1.J.seq=S.J.seq):=by
 have hgl:=ye eJ;have xy:=eJ.og;have xw:=eJ.many;have hlen:(cQ (bo m)).length<=425984:=by omega
 obtain⟨h1,hd,mb,qs,h2,h3,h4⟩:=h;have htr:=h2.bC;have CP:=h2.lo;have BN:=h2.hi;have H9:=h2.HS;have Vv:2+2* dB n<n:=by unfold dB;omega
 unfold fJ;rw[ag (by rw[h1];decide),h4,h2.jg.len];by_cases Dn:gN (cQ (bo m)).length<=dB n
 rotate_left
 ·rw[ai Dn]
  right;left
  exact⟨rfl,rfl,Dn⟩
 rw[ag (λhh=>hh Dn)];obtain⟨p1,p2⟩:=h2.put (m:=m) nF cS hg Dn;obtain⟨x,hx,hxg,hjx⟩:=h2.jg.zO (by omega);have tG:=pR nF (hd.bC+1);have og:∀{a t:Nat} {k:Int} {s:BA} {D:aX},D.Ok->D.later=[]->gN s.size<900000->(fj D a t k s).1.later.length<1000000:=λ{a t k s D} ho hl hc=>by
  have:=OT (at':=(a:Int)) (toX:=(t:Int)) (number:=k) (s:=s) ho (by rw[hl,cO];omega);rw[hl,cO] at this;omega
 have Rh:gN (bs (cQ (bo m))).size<900000:=by rw[cj];have:=tG.2.1;omega
 by_cases z1:(put S.D n (hd.bC+1) (fr S.D n+1) (bs (cQ (bo m)))).2=0
 rotate_left
 ·have z8:(put S.D n (hd.bC+1) (fr S.D n+1) (bs (cQ (bo m)))).2=8:=by rcases p1 with p1|p1;exact aQ p1 z1;exact p1
  rw[ai z1]
  right;right
  have c0:=p2 _ (.inl ⟨0,0,0,rfl⟩);have TM:(put S.D n (hd.bC+1) (fr S.D n+1) (bs (cQ (bo m)))).1.safe.length=n:=by rw[<-tp _ 0 0 0];exact c0.1.jg.len
  have abJ:(put S.D n (hd.bC+1) (fr S.D n+1) (bs (cQ (bo m)))).1.Ok:=by rw[Bd];exact Mp h2.jg.ok (by rw[h2.jg.Jc,cO];omega)
  have yy:=h2.jg.yW;refine⟨z8,⟨rfl,⟨abJ,by rw[Bd];exact og h2.jg.ok h2.jg.Jc Rh,⟨yy.lo,yy.KP,yy.RC,by rw[TM];have:=yy.hi;rw[h2.jg.len] at this;exact this,yy.seq⟩,by show 0<=hd.bC/\hd.bC<_;omega⟩,TM,by show S.J.seq<=_;omega,λa b c=>?_⟩,rfl,rfl⟩
  left
  obtain⟨c1,c2⟩:=p2 _ (.inl ⟨a,b,c,rfl⟩);exact⟨S.J,hd,mb,qs,c1.mono (by omega),h3⟩
 ·rw[ag (λhh=>hh z1)];obtain⟨c1,c2⟩:=p2 _ (.inr ⟨z1,rfl⟩);have c2:=c2 z1;generalize hD1:(put S.D n (hd.bC+1) (fr S.D n+1) (bs (cQ (bo m)))).1=D1 at c1 c2⊢;have afB:fr D1 n<=((x+1:Nat):Int):=by
   have hA:Aft (put S.D n (hd.bC+1) (fr S.D n+1) (bs (cQ (bo m)))) D1:=.inr ⟨z1,hD1.symm⟩;rw[Bd,show fr S.D n+1=((x+1:Nat):Int) by omega] at hA;obtain⟨_,_,_,k4,_⟩:=lsx (n:=n) (a:=fq n (hd.bC+1)) (t:=fq n (hd.bC+1)+dB n) (m:=x+1) (g:=x) h2.jg.ok h2.jg.Jc h2.jg.len hjx.ends cS (by omega) (by omega) (by rw[cj];omega) (by omega) hA;exact Aq (by omega) n k4
  have e2:fr S.D n+2=((x+1+1:Nat):Int):=by omega
  rw[e2];obtain⟨q1,q2⟩:=c1.aeW (m:=m) (number:=fr S.D n+1) nF cS (x+1) afB (by omega) (by omega) (by omega) Dn hlen eJ uN c2;have hHG:od ⟨hd.bC+1,fr S.D n+1,((cQ (bo m)).length:Int),S.J.seq⟩:=by have:=h2.jg.yW.seq;unfold od;dsimp only;omega
  obtain⟨b,hb,wX,ec⟩:=Ru (D:=D1) (number:=((x+1+1:Nat):Int)) hHG;by_cases z2:(uv D1 ((x+1+1:Nat):Int) ⟨hd.bC+1,fr S.D n+1,((cQ (bo m)).length:Int),S.J.seq⟩).2=0
  ·rw[ag (λhh=>hh z2)]
   left
   rcases q2 _ (.inr ⟨z2,rfl⟩) with hv|⟨h8,_⟩
   ·exact⟨rfl,⟨h1,_,m,[],hv.mono (by omega),rfl,rfl⟩,rfl,rfl,rfl,rfl,rfl⟩
   ·rw[z2] at h8;exact aQ h8 (by decide)
  ·have z8:(uv D1 ((x+1+1:Nat):Int) ⟨hd.bC+1,fr S.D n+1,((cQ (bo m)).length:Int),S.J.seq⟩).2=8:=by rcases q1 with q1|q1;exact aQ q1 z2;exact q1
   rw[ai z2]
   right;right
   have TM:(uv D1 ((x+1+1:Nat):Int) ⟨hd.bC+1,fr S.D n+1,((cQ (bo m)).length:Int),S.J.seq⟩).1.safe.length=n:=by
    rw[<-tp _ 0 0 0];rcases q2 _ (.inl ⟨0,0,0,rfl⟩) with hv|⟨_,hv⟩
    ·exact hv.jg.len
    ·exact hv.jg.len
   have abJ:(uv D1 ((x+1+1:Nat):Int) ⟨hd.bC+1,fr S.D n+1,((cQ (bo m)).length:Int),S.J.seq⟩).1.Ok:=by rw[ec];exact Mp c1.jg.ok (by rw[c1.jg.Jc,cO,G2];omega)
   have yy:=h2.jg.yW;refine⟨z8,⟨rfl,⟨abJ,by rw[ec];exact og c1.jg.ok c1.jg.Jc (by rw[G2];omega),⟨yy.lo,yy.KP,yy.RC,by rw[TM];have:=yy.hi;rw[h2.jg.len] at this;exact this,yy.seq⟩,by show 0<=hd.bC/\hd.bC<_;omega⟩,TM,by show S.J.seq<=_;omega,λa b' c=>?_⟩,rfl,rfl⟩
   left
   rcases q2 _ (.inl ⟨a,b',c,rfl⟩) with hv|⟨_,hv⟩
   ·exact⟨_,_,m,[],hv.mono (by omega),rfl⟩
   ·exact⟨S.J,hd,mb,qs,hv.mono (by omega),h3⟩
def FI{n:Nat}{S:VS}{m:aA}{g:Nat}{q:kh}(h:VW n S m g)(nF:12<=n)(cS:n<=4096)(hg:g+1<256)(hq:Hm q):
 ((oY S (bs (dR q))).2=0/\VW n (oY S (bs (dR q))).1 (bI m q).2.2 (g+1)/\(oY S (bs (dR q))).1.bC=S.bC/\(oY S (bs (dR q))).1.J.seq=S.J.seq+1)\/
 ((oY S (bs (dR q))).2=6/\(oY S (bs (dR q))).1=S/\ ¬room S.J (bs (dR q)).size)\/
 ((oY S (bs (dR q))).2=8/\VX n (oY S (bs (dR q))).1 m (bI m q).2.2 (g+1)/\(oY S (bs (dR q))).1.bC=S.bC/\(oY S (bs (dR q))).1.J.seq=S.J.seq):=by
 obtain⟨h1,hd,mb,qs,h2,h3,h4⟩:=h;have htr:=h2.bC;have CP:=h2.lo;have BN:=h2.hi;have H9:=h2.HS;have hgi:=(yA S.D n).1;obtain⟨x,hx,hxg,hjx⟩:=h2.jg.zO (by omega);unfold oY;rw[h2.jg.len];by_cases hr:room S.J (bs (dR q)).size
 ·obtain⟨a1,a2,a3⟩:=h2.add nF cS hq hr hg;have ady:AF mb (qs++[q])=(bI m q).2.2:=by rw[IL,h3]
  rcases a3 with⟨z,hv⟩|⟨z,hv⟩
  ·have e:uy S.D S.J (fr S.D n+1) (bs (dR q))=((fj S.D S.J.at' S.J.hi (fr S.D n+1) (bs (dv (S.J.seq+1) (bs (dR q))))).1,S.J.more (bs (dR q)),0):=by
    rw[a1];unfold Sep.DA;rw[ag (λhh=>hh z)];rfl
   rw[e]
   left
   exact⟨rfl,⟨by show(S.dJ||_)=false;rw[h1];rfl,hd,mb,qs++[q],hv,ady,h4⟩,rfl,rfl⟩
  ·have e:uy S.D S.J (fr S.D n+1) (bs (dR q))=((fj S.D S.J.at' S.J.hi (fr S.D n+1) (bs (dv (S.J.seq+1) (bs (dR q))))).1,{S.J with dJ:=true},8):=by
    rw[a1];unfold Sep.DA;rw[ai (by rw[z];decide),z]
   rw[e]
   right;right
   have TM:(fj S.D S.J.at' S.J.hi (fr S.D n+1) (bs (dv (S.J.seq+1) (bs (dR q))))).1.safe.length=n:=by
    rw[<-tp _ 0 0 0];rcases hv 0 0 0 with hh|hh
    ·exact hh.jg.len
    ·exact hh.jg.len
   have yy:=h2.jg.yW;have Cv:=te (S.J.seq+1) (bs (dR q));have hcn:gN (12+(bs (dR q)).size)<=4096:=by have:=hr.2.2;rw[ak] at this;have:=yy.lo;have:=yy.KP;omega
   have xy:=OT (at':=S.J.at') (toX:=S.J.hi) (number:=fr S.D n+1) (s:=bs (dv (S.J.seq+1) (bs (dR q)))) h2.jg.ok (by rw[h2.jg.Jc,cO,Cv];omega);rw[h2.jg.Jc,cO,Cv] at xy;refine⟨rfl,⟨by show(S.dJ||_)=true;rw[h1];rfl,⟨a2,by show(fj S.D S.J.at' S.J.hi (fr S.D n+1) (bs (dv (S.J.seq+1) (bs (dR q))))).1.later.length<1000000;omega,⟨yy.lo,yy.KP,yy.RC,by rw[TM];have:=yy.hi;rw[h2.jg.len] at this;exact this,yy.seq⟩,by show 0<=S.bC/\S.bC<_;omega⟩,TM,by show S.J.seq<=_;omega,λa b c=>?_⟩,rfl,rfl⟩;rcases hv a b c with hh|hh
   ·exact .inl ⟨_,hd,mb,qs,hh,h3⟩
   ·exact .inr ⟨_,hd,mb,qs++[q],hh,ady⟩
 ·have e:uy S.D S.J (fr S.D n+1) (bs (dR q))=(S.D,S.J,6):=by
   unfold uy;rw[ag (by rw[h2.dJ];decide),ag (by omega),ai (.inl hr)]
  rw[e]
  right;left
  refine⟨rfl,?_,hr⟩;have:(S.dJ||(6:Int)==8)=S.dJ:=by cases S.dJ<;>rfl
  dsimp only;rw[this]
def aaN{n:Nat}{S:VS}{m:aA}{g:Nat}{q:kh}(h:VW n S m g)(nF:12<=n)(cS:n<=4096)(hg:g+3<256)(eJ:ft (bo m))(uN:Md.bK m)(hw:k9 q=true)(he:gJ q=true)(hA:∀a∈q.aB,xR a)(hT:∀t∈q.cy,Ab t):
 ((AK n m S q).2=((bI m q).2.2,(bI m q).1,(bI m q).2.1)/\VW n (AK n m S q).1 (bI m q).2.2 (g+3)/\(AK n m S q).1.J.seq=S.J.seq+1)\/
 (∃e,(e=3\/e=6)/\(AK n m S q).2=(m,e,[])/\VW n (AK n m S q).1 m (g+3)/\(AK n m S q).1.J.seq=S.J.seq)\/
 ((AK n m S q).2=(m,8,[])/\VX n (AK n m S q).1 m (bI m q).2.2 (g+3)/\(AK n m S q).1.J.seq=S.J.seq):=by
 have EH:Hm q:=⟨hw,he,hA,hT⟩;unfold AK;rw[ag (by rw[hw];decide),ag (by rw[h.dJ];decide)];have main:∀(S1:VS)(g1:Nat),VW n S1 m g1->g1+1<=g+3->S1.J.seq=S.J.seq->ji n m S (bs (dR q))=oY S1 (bs (dR q))->
                                          ((if(ji n m S (bs (dR q))).2≠0 then((ji n m S (bs (dR q))).1,m,(ji n m S (bs (dR q))).2,[]) else((ji n m S (bs (dR q))).1,(bI m q).2.2,(bI m q).1,(bI m q).2.1):VS×aA×Int×List Int)).2=((bI m q).2.2,(bI m q).1,(bI m q).2.1)/\VW n (if(ji n m S (bs (dR q))).2≠0 then((ji n m S (bs (dR q))).1,m,(ji n m S (bs (dR q))).2,[]) else((ji n m S (bs (dR q))).1,(bI m q).2.2,(bI m q).1,(bI m q).2.1):VS×aA×Int×List Int).1 (bI m q).2.2 (g+3)/\((if(ji n m S (bs (dR q))).2≠0 then((ji n m S (bs (dR q))).1,m,(ji n m S (bs (dR q))).2,[]) else((ji n m S (bs (dR q))).1,(bI m q).2.2,(bI m q).1,(bI m q).2.1):VS×aA×Int×List Int)).1.J.seq=S.J.seq+1\/
                                          (∃e,(e=3\/e=6)/\((if(ji n m S (bs (dR q))).2≠0 then((ji n m S (bs (dR q))).1,m,(ji n m S (bs (dR q))).2,[]) else((ji n m S (bs (dR q))).1,(bI m q).2.2,(bI m q).1,(bI m q).2.1):VS×aA×Int×List Int)).2=(m,e,[])/\VW n (if(ji n m S (bs (dR q))).2≠0 then((ji n m S (bs (dR q))).1,m,(ji n m S (bs (dR q))).2,[]) else((ji n m S (bs (dR q))).1,(bI m q).2.2,(bI m q).1,(bI m q).2.1):VS×aA×Int×List Int).1 m (g+3)/\((if(ji n m S (bs (dR q))).2≠0 then((ji n m S (bs (dR q))).1,m,(ji n m S (bs (dR q))).2,[]) else((ji n m S (bs (dR q))).1,(bI m q).2.2,(bI m q).1,(bI m q).2.1):VS×aA×Int×List Int)).1.J.seq=S.J.seq)\/
                                          (((if(ji n m S (bs (dR q))).2≠0 then((ji n m S (bs (dR q))).1,m,(ji n m S (bs (dR q))).2,[]) else((ji n m S (bs (dR q))).1,(bI m q).2.2,(bI m q).1,(bI m q).2.1):VS×aA×Int×List Int)).2=(m,8,[])/\VX n (if(ji n m S (bs (dR q))).2≠0 then((ji n m S (bs (dR q))).1,m,(ji n m S (bs (dR q))).2,[]) else((ji n m S (bs (dR q))).1,(bI m q).2.2,(bI m q).1,(bI m q).2.1):VS×aA×Int×List Int).1 m (bI m q).2.2 (g+3)/\((if(ji n m S (bs (dR q))).2≠0 then((ji n m S (bs (dR q))).1,m,(ji n m S (bs (dR q))).2,[]) else((ji n m S (bs (dR q))).1,(bI m q).2.2,(bI m q).1,(bI m q).2.1):VS×aA×Int×List Int)).1.J.seq=S.J.seq):=λS1 g1 hw1 NZ EG SN=>by
  rw[SN];rcases FI (q:=q) hw1 nF cS (by omega) EH with⟨z,a,b,c⟩|⟨z,a,b⟩|⟨z,a,b,c⟩
  ·left
   rw[ag (λhh=>hh z)];exact⟨rfl,a.mono NZ,by rw[<-EG];exact c⟩
  ·right;left
   rw[ai (by rw[z];decide),z,a];exact⟨6,.inr rfl,rfl,hw1.mono (by omega),EG⟩
  ·right;right
   rw[ai (by rw[z];decide),z];exact⟨rfl,a.mono NZ,by rw[<-EG];exact c⟩
 by_cases hr:room S.J (bs (dR q)).size
 ·exact main S g h (by omega) rfl (by unfold ji;rw[ai hr])
 ·rcases BQ h nF cS (by omega) eJ uN with⟨z,a,b,c,_⟩|⟨z,a,_⟩|⟨z,a,b,c⟩
  ·exact main (fJ n m S).1 (g+2) a (by omega) c (by unfold ji;rw[ag hr,ag (λhh=>hh z)])
  ·have SN:ji n m S (bs (dR q))=fJ n m S:=by unfold ji;rw[ag hr,ai (by rw[z];decide)]
   rw[SN,ai (by rw[z];decide)]
   right;left
   exact⟨3,.inl rfl,by rw[z],by rw[a];exact h.mono (by omega),by rw[a]⟩
  ·have SN:ji n m S (bs (dR q))=fJ n m S:=by unfold ji;rw[ag hr,ai (by rw[z];decide)]
   rw[SN,ai (by rw[z];decide)]
   right;right
   refine⟨by rw[z],⟨a.dJ,a.ok,a.len,by show(fJ n m S).1.J.seq<=_;have:=a.seq;omega,λx y w=>?_⟩,c⟩
   left
   rcases a.eY x y w with hh|hh
   ·exact hh.mono (by omega)
   ·exact hh.mono (by omega)
def yD{m:aA}{q:kh}(hw:k9 q=true)(he:gJ q=true):(bI m q).1=0:=by
 have h2:lZ q=true:=by
  have YM:q.op=1\/q.op=2\/q.op=3:=aR he;have ha:pO q=false:=by
   unfold pO;rw[ag (by omega),ag (by omega)]
  unfold k9 at hw;rw[ha,Bool.or_false,dI] at hw;exact hw.1
 unfold bI;rw[ag (by rw[h2];decide)];split
 ·rfl
 ·split<;>rfl
def Ub{n:Nat}{S:VS}{m:aA}{g:Nat}{q:kh}(h:VW n S m g)(VQ:600<=n)(cS:n<=4096)(hg:g+3<256)(eJ:ft (bo m))(uN:Md.bK m)(hw:k9 q=true)(he:gJ q=true)(hA:∀a∈q.aB,xR a)(hT:∀t∈q.cy,Ab t):
 (AK n m S q).2.2.1≠3/\(AK n m S q).2.2.1≠6:=by
 have EH:Hm q:=⟨hw,he,hA,hT⟩;have uZ:=wc eJ;have hrl:=C4 hw he;have hc:=Rw (k:=12+(bs (dR q)).size) (by rw[cj];omega);have ez:=yD (m:=m) hw he;unfold AK;rw[ag (by rw[hw];decide),ag (by rw[h.dJ];decide)];have key:(ji n m S (bs (dR q))).2≠3/\(ji n m S (bs (dR q))).2≠6:=by
  by_cases hr:room S.J (bs (dR q)).size
  ·have e:ji n m S (bs (dR q))=oY S (bs (dR q)):=by unfold ji;rw[ai hr]
   rw[e];rcases FI (q:=q) h (by omega) cS (by omega) EH with⟨z,_⟩|⟨_,_,b⟩|⟨z,_⟩
   ·omega
   ·exact aQ hr b
   ·omega
  ·rcases BQ h (by omega) cS (by omega) eJ uN with⟨z,a,_,_,b1,b2,b3⟩|⟨_,_,b⟩|⟨z,_⟩
   ·have e:ji n m S (bs (dR q))=oY (fJ n m S).1 (bs (dR q)):=by unfold ji;rw[ag hr,ag (λhh=>hh z)]
    rw[e];have CO:120<=S.J.hi-S.J.lo:=by
     obtain⟨_,hd,mb,qs,h2,_⟩:=h;rw[h2.lo,h2.hi];unfold dB;omega
    rcases FI (q:=q) a (by omega) cS (by omega) EH with⟨z,_⟩|⟨_,_,b⟩|⟨z,_⟩
    ·omega
    ·refine aQ ?_ b;refine⟨by omega,by rw[cj];omega,?_⟩;rw[ak,b1,b3];omega
    ·omega
   ·exact aQ (As VQ uZ) b
   ·have e:ji n m S (bs (dR q))=fJ n m S:=by unfold ji;rw[ag hr,ai (by rw[z];decide)]
    rw[e];omega
 generalize ji n m S (bs (dR q))=A at key⊢;by_cases hz:A.2≠0
 ·rw[ai hz];exact key
 ·rw[ag hz];generalize bI m q=B at ez⊢;dsimp only;rw[ez];decide
structure Stp where
 kind:Int
 q:kh
 s:wK
 mask:Int
 torn:Int
 cut:Int
 n:Int
section
variable {x1 x2 x3 x4 x5 x6 x7 x8 x9 Fz Fy Fx Fw JN N8 N7 ZW ZV:Value} {x:Stp}
end
def St.nil{W w:World}{L:LH}(h:St W w L):St W w []:=by
 induction L with
 |nil=>exact h
 |cons A L ih=>exact ih h.drop
instance(priority:=low) Has.nil{L:LH}:Has [] L:=⟨λh=>St.nil h⟩
def sE(m m2:aA):Prop:=(bo m).aB=(bo m2).aB/\m.ax=m2.ax/\m.clock=m2.clock/\m.ay=m2.ay
instance(m m2:aA):Decidable (sE m m2):=by unfold sE;infer_instance
def sE.refl(m:aA):sE m m:=⟨rfl,rfl,rfl,rfl⟩
def Qr:∀{l:List Nat} {x:Nat},x∈l->x<=l.sum
 |[],x,h=>by cases h
 |y::l,x,h=>by
  rw[List.sum_cons];rcases kf.1 h with h|h
  ·subst h;omega
  ·have:=Qr h;omega
section
variable {W:World} {L R M:LH} {K:VK} {X:WK} {q:kh} {s:wK} {p v d n pb pj:Nat} {m m2:aA} {mb kb:OA} {mc kc:Nat} {S:VS} {D:aX} {J:PJ} {hd:gF} {qs:List kh} {g:Nat} {f:aX->LH}
def FJ(G:mY W)(nF:12<=n)(cS:n<=4096)(hv:VG n D J hd m qs g)(hg:g<256)
 (h:∀v pb pj,Md.bK (AF m qs)->T W (VL v d n pb pj (AF m qs) ⟨D,J,hd.bC,false⟩ R) (K (.tuple ⟨[.p (ah v),.i 0]⟩))):
 T W (gU d D::R) (m9 (ah d) K):=by
 have ho:=hv.jg.opened;have CP:=hv.lo;have BN:=hv.hi;rw[CP,BN] at ho;have H9:=hv.HS;have hq0:=hv.jg.q0;have YR:=hv.jg.seq;refine XH G hv.jg.ok nF cS hv.jg.len (hv.cg.base hv.jg.len nF cS) hv.zP hv.ground ⟨hq0,by omega⟩ (qs:=qs) (by rw[ho]) hv.oV λv pb pj rS=>?_;rw[ho];have e:(⟨((2+2* dB n:Nat):Int),(n:Int),J.at',J.seq,false⟩:PJ)=J:=by
  cases J with
  |mk lo hi at' seq dJ=>
   have h1:=hv.dJ;dsimp only at CP BN h1;subst CP BN h1
   rfl
 dsimp only;rw[e];exact h v pb pj rS
def RN[i:Lc (gU d) L D f]{mask torn cut:Int}(iH:D.Ok)(hl:D.later.length<1099511627776)(h:T W (f (D.eY mask torn cut)) (K (.tuple ⟨[]⟩))):T W L (nh (ah d) mask torn cut K):=λw hs=>by
 obtain⟨k,hk,e⟩:=i.at_;exact EO hs hk iH λw' h'=>h w' (by rw[e];exact h')
end
def zg(n:Nat)(m:aA)(S:VS)(q:kh):VS×aA×Int×List Int×List bJ×List cM:=
 if gJ q=true then((AK n m S q).1,(AK n m S q).2.1,(AK n m S q).2.2.1,(AK n m S q).2.2.2,[],[])
 else(S,m,(ask m q).1,[],(ask m q).2.1,(ask m q).2.2)
def M3{m:aA}{q:kh}(hw:k9 q=true)(he:gJ q=true):(bI m q).1=0:=yD hw he
def ZA{m:aA}{q:kh}(hg:ft (bo m))(hi:q.ids.length<=16\/pO q=false\/q.op=6):(ask m q).2.1.length<=10000/\(ask m q).2.2.length<=10000:=by
 unfold ask;split
 ·simp
 ·rename_i kN;have h16:q.op=4\/q.op=5->q.ids.length<=16:=λho=>by
   have Li:pO q=true:=by simpa using kN
   unfold pO at Li;rw[ai ho,dI,decide_eq_true_eq,decide_eq_true_eq] at Li;exact Li.2
  split
  ·rename_i h4;have:=h16 (.inl h4);have h2:=List.length_filterMap_le (bo m).find q.ids;dsimp only;exact⟨by omega,by simp⟩
  ·split
   ·rename_i h5;have:=h16 (.inr h5);have h2:=List.length_filterMap_le (λid=>((bo m).named id).map (·.move)) q.ids;dsimp only;exact⟨by simp,by omega⟩
   ·rw[<-Mf hg];dsimp only;refine⟨by simp,?_⟩;unfold U4;rw[bU,aD];have h3:((if q.q9=true then(bo m).ax.reverse else(bo m).ax).filter λk=>Cp q.kA q.yB k.move.ay&&fits q k).length<=(if q.q9=true then(bo m).ax.reverse else(bo m).ax).length:=List.length_filter_le _ _;have h4:(if q.q9=true then(bo m).ax.reverse else(bo m).ax).length=(bo m).ax.length:=by split<;>simp
    have:=hg.many;omega
section
variable {W:World} {L R M:LH} {K:VK} {X:WK} {q:kh} {s:wK} {p p2 v d n pb pj:Nat} {m m2 m3:aA} {mb kb sS lO:OA} {mc kc sR lN:Nat} {S S2:VS} {D:aX} {J:PJ} {g:Nat}
def T9{n:Nat}{S:VS}{m:aA}{g:Nat}(h:VW n S m g)(nF:12<=n)(cS:n<=4096)(hg:g+2<256)(eJ:ft (bo m))(uN:Md.bK m):Il (fJ n m S).1:=by
 rcases BQ h nF cS hg eJ uN with⟨_,a,_⟩|⟨_,a,_⟩|⟨_,a,_⟩
 ·exact a.ok (by omega)
 ·rw[a];exact h.ok (by omega)
 ·exact a.ok
def zG(n:Nat):VS:=⟨aX.new n,⟨((2+2* dB n:Nat):Int),n,((2+2* dB n:Nat):Int),0,false⟩,0,false⟩
def PR{n:Nat}(nF:12<=n)(cS:n<=4096):Rm n 0 (zG n):=by
 have hb:2+2* dB n<=n:=by unfold dB;omega
 refine⟨G8 cS,λj hj=>?_,rfl,rfl,tw _,by show((2+2* dB n:Nat):Int)<=(n:Int);omega,⟨tw _,by show(0:Int)<=1000000;decide⟩,rfl,rfl,⟨tw _,tw _⟩⟩;show Sep.Ends 0 ((aX.new n).read (j:Int)).1;rw[Cm cS hj];exact GZ
def KV{n:Nat}(nF:12<=n)(cS:n<=4096):VW n (zG n) je 0:=
 ⟨rfl,Fs,je,[],WQ nF cS,rfl,rfl⟩
def qT:kh:=⟨3,[],[],5,[],0,0,0,false,false,false,0⟩
end
def B6{α σ:Type}(f:σ->α->Int×σ)(lk:α->Bool):∀(n:Nat)(s:σ)(l:List α),(iC f lk n s l).1.length<=l.length
 |0,s,l=>aE _
 |n+1,s,[]=>aE _
 |n+1,s,x::l=>by
  have hle:=vH (linked:=lk) (x::l);have hd:((x::l).drop (cz lk (x::l)).1).length=(x::l).length-(cz lk (x::l)).1:=aT;rw[iC];by_cases hw:(cz lk (x::l)).2=false
  ·rw[ai hw];dsimp only;rw[kX];exact hle
  rw[ag hw];cases iE f s ((x::l).take (cz lk (x::l)).1) 0 with
  |mk o s'=>
   cases o with
   |none=>
    have:=B6 f lk n s' ((x::l).drop (cz lk (x::l)).1);dsimp only;rw[aw,kX];omega
   |some e=>
    have:=B6 f lk n s ((x::l).drop (cz lk (x::l)).1);dsimp only;rw[aw,kX];omega
def GY(m:aA)(q:kh):(bI m q).2.1.length<=q.aB.length+q.cy.length:=by
 unfold bI;split
 ·exact aE _
 ·split
  ·have:=B6 aA.make BJ q.aB.length m q.aB;dsimp only;omega
  ·split
   ·have:=B6 aA.rA BH q.cy.length m q.cy;dsimp only;omega
   ·exact aE _
section
variable {W:World} {L R M:LH} {K:VK} {X:WK} {q:kh} {s:wK} {p p2 v d n pb pj:Nat} {m m2 m3:aA} {mb kb sS lO:OA} {mc kc sR lN:Nat} {S S2:VS} {D:aX} {J:PJ} {g:Nat}
end
section
variable {W:World} {L R M:LH} {K:VK} {X:WK} {q:kh} {s:wK} {p p2 v d n pb pj:Nat} {m m2 m3:aA} {mb kb sS lO:OA} {mc kc sR lN:Nat} {S S2:VS} {D:aX} {J:PJ} {g:Nat}
end
def VZ(n:Nat)(S:VS)(m:aA)(g:Nat):Prop:=VW n S m g\/∃mf,VX n S m mf g
section
variable {n g g':Nat} {S:VS} {m mf:aA} {q:kh}
def VX.save(h:VX n S m mf g){m2:aA}:fJ n m2 S=(S,9):=by
 unfold fJ;rw[ai h.dJ]
def VZ.vok(h:VZ n S m g)(hg:g<256):Il S:=by
 rcases h with h|⟨mf,h⟩
 ·exact h.ok hg
 ·exact h.ok
def VZ.XE(h:VZ n S m g)(nF:12<=n)(cS:n<=4096)(hg:g+2<256)(eJ:ft (bo m))(rS:Md.bK m):Il (fJ n m S).1:=by
 rcases h with h|⟨mf,h⟩
 ·exact T9 h nF cS hg eJ rS
 ·rw[h.save];exact h.ok
end
section
variable {W:World} {L R R0 R' M:LH} {K:VK} {X:WK} {q:kh} {s:wK} {p p2 v d n pb pj:Nat} {m m2 m3:aA} {mb kb sS lO:OA} {mc kc sR lN:Nat} {S S2:VS} {D:aX} {J:PJ} {g:Nat} {f:aX->LH}
def aaF[i:Lc (gU d) L D f](h:T W L (K (.i D.ops))):T W L (ia (ah d) K):=λw hs=>by
 obtain⟨k,hk,e⟩:=i.at_;exact Ip hs hk (h w hs)
end
def JQ(a:bJ):bJ:={a with dp:=0,dq:=0,cp:=0,cq:=0,aq:=a.aq%8}
def Ls{l:List ch}{a:bJ}(h:a.dp=0/\a.dq=0/\a.cp=0/\a.cq=0/\0<=a.aq/\a.aq<8):JQ (Md.full l a)=a:=by
 obtain⟨h1,h2,h3,h4,h5,h6⟩:=h;cases a
 simp only[JQ,Md.full] at *;subst h1 h2 h3 h4
 congr 1
 split<;>omega
def sE.model{m m2:aA}(h:sE m m2)(g:Md.bK m)(g2:Md.bK m2):m=m2:=by
 obtain⟨h1,h2,h3,h4⟩:=h;have e:∀m:aA,Md.bK m->(bo m).aB.map JQ=m.cE:=λm g=>by
  show(m.cE.map (Md.full m.ax)).map JQ=m.cE;rw[pD]
  conv=>rhs;rw[<-List.map_id m.cE]
  exact eg λa ha=>Ls (g.zero a ha)
 have h5:=e m g;rw[h1,e m2 g2] at h5;cases m
 cases m2
 dsimp only at h2 h3 h4 h5;subst h2 h3 h4 h5
 rfl
def KI(n:Nat)(S:VS)(m mf:aA)(g:Nat):Prop:=(VW n S m g/\mf=m)\/VX n S m mf g
section
variable {W:World} {L R R0 R' M:LH} {K:VK} {X:WK} {q:kh} {s:wK} {p p2 v d n pb pj:Nat} {m m2 m3 mf:aA} {mb kb sS lO:OA} {mc kc sR lN:Nat} {S S2:VS} {D:aX} {J:PJ} {g:Nat} {f:aX->LH}
def Fl(p:Nat)(m:aA)(pf:Nat)(mf:aA)(L R':LH):Prop:=(pf=p/\mf=m/\R'=L)\/∃fb fc gb gc,R'=ML pf mf fb fc gb gc L
def Yg(G:mY W)(nF:12<=n)(cS:n<=4096)(hv:uA n D m g)(hg:g<256)
 (h:∀v pb pj S,VW n S m g->Md.bK m->T W (VL v d n pb pj m S R) (K (.tuple ⟨[.p (ah v),.i 0]⟩))):T W (gU d D::R) (m9 (ah d) K):=by
 obtain⟨J,hd,mb,qs,h2,rfl⟩:=hv;exact FJ G nF cS h2 hg λv pb pj rS=>h v pb pj _ ⟨rfl,hd,mb,qs,h2,rfl,rfl⟩ rS
class Ex(L:LH)(i:Nat)(x:outParam HP)(L':outParam (LH)):Prop where
 is:L.Perm (x::L')
instance{L:LH}{x:HP}:Ex (x::L) 0 x L:=⟨.refl _⟩
instance{L L':LH}{x y:HP}{i:Nat}[h:Ex L i x L']:Ex (y::L) (i+1) x (y::L'):=⟨(h.is.cons y).trans (.swap ..)⟩
class Pl(L:LH)(is:List Nat)(M:outParam (LH)):Prop where
 is:L.Perm M
instance{L:LH}:Pl L [] L:=⟨.refl _⟩
instance{L L' M:LH}{i:Nat}{is:List Nat}{x:HP}[h:Ex L i x L'][g:Pl L' is M]:Pl L (i::is) (x::M):=⟨h.is.trans (g.is.cons x)⟩
def T.pl(is:List Nat)[h:Pl L is M](g:T W M X):T W L X:=T.perm g h.is
set_option maxHeartbeats 1000000 in
end
section
variable {n g:Nat} {S:VS} {m mf:aA} {q:kh}
def aeV(h:VZ n S m g)(VQ:600<=n)(cS:n<=4096)(hg:g+3<256)(eJ:ft (bo m))(rS:Md.bK m)(hw:k9 q=true)(hA:∀a∈q.aB,xR a)(hT:∀t∈q.cy,Ab t):
 (gJ q=false/\zg n m S q=(S,m,(ask m q).1,[],(ask m q).2.1,(ask m q).2.2))\/
 (gJ q=true/\S.dJ=true/\zg n m S q=(S,m,9,[],[],[]))\/
 (gJ q=true/\S.dJ=false/\∃S1,zg n m S q=(S1,m,8,[],[],[])/\VX n S1 m (bI m q).2.2 (g+3))\/
 (gJ q=true/\S.dJ=false/\(bI m q).1=0/\∃S1,zg n m S q=(S1,(bI m q).2.2,0,(bI m q).2.1,[],[])/\VW n S1 (bI m q).2.2 (g+3)/\S1.J.seq=S.J.seq+1):=by
 unfold zg;cases he:gJ q with
 |false=>left;rw[ag (by decide)];exact⟨rfl,rfl⟩
 |true=>
  right
  rw[ai rfl];rcases h with h|⟨mx,h⟩
  ·right
   have ez:=M3 (m:=m) hw he;obtain⟨r1,r2⟩:=Ub h VQ cS hg eJ rS hw he hA hT;rcases aaN h (by omega) cS hg eJ rS hw he hA hT with⟨a,b,c⟩|⟨e,N1,a,-⟩|⟨a,b,-⟩
   ·right
    refine⟨rfl,h.dJ,ez,(AK n m S q).1,?_,b,c⟩;rw[a];dsimp only;rw[ez]
   ·exfalso;rw[a] at r1 r2;rcases N1 with e2|e2
    ·exact r1 e2
    ·exact r2 e2
   ·left
    refine⟨rfl,h.dJ,(AK n m S q).1,?_,b⟩;rw[a]
  ·left
   have e:AK n m S q=(S,m,9,[]):=by unfold AK;rw[ag (by rw[hw];decide),ai h.dJ]
   rw[e];exact⟨rfl,h.dJ,rfl⟩
def Qx(h:VZ n S m g)(VQ:600<=n)(cS:n<=4096)(hg:g+2<256)(eJ:ft (bo m))(rS:Md.bK m):
 (S.dJ=true/\fJ n m S=(S,9))\/(S.dJ=false/\(fJ n m S).2=0/\VW n (fJ n m S).1 m (g+2)/\(fJ n m S).1.bC=S.bC+1/\(fJ n m S).1.J.seq=S.J.seq)\/(S.dJ=false/\(fJ n m S).2=8/\VX n (fJ n m S).1 m m (g+2)):=by
 rcases h with h|⟨mx,h⟩
 ·right
  rcases BQ h (by omega) cS hg eJ rS with⟨a,b,c,d,_⟩|⟨_,_,a⟩|⟨a,b,_⟩
  ·exact .inl ⟨h.dJ,a,b,c,d⟩
  ·exact aQ (As VQ (wc eJ)) a
  ·exact .inr ⟨h.dJ,a,b⟩
 ·exact .inl ⟨h.dJ,h.save⟩
def KI.vz(h:KI n S m mf g):VZ n S m g:=by
 rcases h with⟨a,_⟩|a
 ·exact .inl a
 ·exact .inr ⟨_,a⟩
def KI.AN(h:KI n S m mf g)(nF:12<=n)(mask torn cut:Int):∃m0,(m0=m\/m0=mf)/\uA n (S.D.eY mask torn cut) m0 g:=by
 rcases h with⟨a,_⟩|a
 ·exact⟨m,.inl rfl,a.eY nF _ _ _⟩
 ·rcases a.eY mask torn cut with b|b
  ·exact⟨m,.inl rfl,b⟩
  ·exact⟨mf,.inr rfl,b⟩
def KI.rl(h:KI n S m mf g)(nF:12<=n)(k:Int):KI n {S with D:=S.D.rl k} m mf g:=by
 rcases h with⟨a,b⟩|a
 ·exact .inl ⟨a.rl nF k,b⟩
 ·exact .inr (a.rl k)
def KI.mono{g':Nat}(h:KI n S m mf g)(hg:g<=g'):KI n S m mf g':=by
 rcases h with⟨a,b⟩|a
 ·exact .inl ⟨a.mono hg,b⟩
 ·exact .inr (a.mono hg)
end
def St.sps{W w:World}:∀{M L:LH},St W w (vW M::L)->St W w (M++L)
 |[],L,h=>h.drop
 |A::M,L,h=>(St.sps (h.split.perm (.swap ..))).perm iq
def St.FL{W w:World}:∀{M L:LH},St W w (M++L)->St W w (vW M::L)
 |[],L,h=>h.push trivial
 |A::M,L,h=>((St.FL (M:=M) (h.perm iq.symm)).perm (.swap ..)).join
section
variable {W:World} {L M:LH} {X:WK} {α:Type} {f:α->HP} {A:HP} {p:Prop}
def T.sps(h:T W (M++L) X):T W (vW M::L) X:=λw hs=>h w (St.sps hs)
def T.FL(h:T W (vW M::L) X):T W (M++L) X:=λw hs=>h w (St.FL hs)
def T.ex(h:∀x,T W (f x::L) X):T W (TT f::L) X:=λw hs=>let⟨x,hx⟩:=hs.ex;h x w hx
def T.YE(x:α)(h:T W (TT f::L) X):T W (f x::L) X:=λw hs=>h w (.rh x hs)
def T.and(h:p->T W (A::L) X):T W (EL p A::L) X:=λw hs=>h hs.and.1 w hs.and.2
def T.Vo(hp:p)(h:T W (EL p A::L) X):T W (A::L) X:=λw hs=>h w (.and_intro hp hs)
def T.foc{P:α->HP}{x:α}{g:α->LH}[i:Lc P L x g](h:∀M,(∀y N Y,T W (N++g y) Y->T W (P y::(N++M)) Y)->T W (P x::M) X):T W L X:=λw hs=>by
 obtain⟨k,hk,e⟩:=i.at_;refine h (L.eraseIdx k) (λy N Y hy w' h'=>hy w' ?_) w (hs.focus hk);rw[e];exact h'.perm (iq.symm.trans ((set_perm hk).append_left N))
end
structure SZ where
 d:Nat
 v:Nat
 pb:Nat
 pj:Nat
def HQ(d v:Nat):LV:=[.p (ah d),.p (ah v)]
instance{d v:Nat}:Gt (HQ d v) 0 (.p (ah d)):=⟨rfl⟩
instance{d v:Nat}:Gt (HQ d v) 1 (.p (ah v)):=⟨rfl⟩
instance{d v v':Nat}:Wr (HQ d v) 1 [.p (ah v')] (HQ d v'):=⟨rfl,by show 2<=2;decide,λu hu=>by simp at hu;subst hu;rfl⟩
def EU(n s:Nat)(x:VS×aA):HP:=TT λz:SZ=>vW (VL z.v z.d n z.pb z.pj x.2 x.1 [Sep.pt s (HQ z.d z.v)])
def TH(n:Nat)(m:aA)(S:VS)(l:List UInt8):VS×aA×List UInt8:=
 if 16384<l.length then(S,m,td 3 [] [] []) else if sh l=true then((zg n m S (iZ l).1).1,(zg n m S (iZ l).1).2.1,td (zg n m S (iZ l).1).2.2.1 (zg n m S (iZ l).1).2.2.2.1 (zg n m S (iZ l).1).2.2.2.2.1 (zg n m S (iZ l).1).2.2.2.2.2)
 else(S,m,td 4 [] [] [])
section
variable {W:World} {L R M:LH} {K:VK} {X:WK} {q:kh} {n s d v pb pj:Nat} {m m0:aA} {S:VS} {g:VS×aA->LH} {l:List UInt8}
def Oe(h:T W (EU n s (S,m)::M) X):T W (VL v d n pb pj m S (Sep.pt s (HQ d v)::M)) X:=
 T.FL (M:=VL v d n pb pj m S [Sep.pt s (HQ d v)]) (T.YE (f:=λz:SZ=>vW (VL z.v z.d n z.pb z.pj m S [Sep.pt s (HQ z.d z.v)])) ⟨d,v,pb,pj⟩ h)
def AL[i:Lc (EU n s) L (S,m) g](h:∀d v pb pj M,(∀d' v' UY UX S' m' N Y,T W (N++g (S',m')) Y->T W (N++(VL v' d' n UY UX m' S' (Sep.pt s (HQ d' v')::M))) Y)->T W (VL v d n pb pj m S (Sep.pt s (HQ d v)::M)) X):T W L X:=
 T.foc (P:=EU n s) λM hM=>T.ex λz=>T.sps (M:=VL z.v z.d n z.pb z.pj m S [Sep.pt s (HQ z.d z.v)]) (h z.d z.v z.pb z.pj M λd' v' UY UX S' m' N Y hy=>by
  refine T.perm (L:=VL v' d' n UY UX m' S' [Sep.pt s (HQ d' v')]++(N++M)) (Oe (hM (S',m') N Y hy)) ?_
  show(N++(VL v' d' n UY UX m' S' [Sep.pt s (HQ d' v')]++M)).Perm (VL v' d' n UY UX m' S' [Sep.pt s (HQ d' v')]++(N++M))
  rw[<-aI,<-aI]
  exact bp.append_right M)
def QB[i:Lc (EU n s) L (S,m) g](h:ft (bo m)->T W L X):T W L X:=by
 refine AL (n:=n) (s:=s) λd v pb pj M hM=>?_;refine qP (p:=pb) (b:=bo m) (hs:=[]) λeJ=>?_;refine hM d v pb pj S m [] _ ?_;rw[cw,i.same];exact h eJ
def xj[i:Lc (EU n s) L (S,m) g](h:∀p,T W (cL p (bo m,[])::L) (K (.p (ah p)))):T W L (dW (ah s) K):=by
 refine AL (n:=n) (s:=s) λd v pb pj M hM=>?_;unfold dW;apply ws;intros;refine Ue λp=>?_;apply ws;intros;refine hM d v pb pj S m [_] _ ?_;rw[i.same];exact h p
def wh[i:Lc (EU n s) L (S,m) g](h:T W L (K (.b S.dJ))):T W L (fQ (ah s) K):=by
 refine AL (n:=n) (s:=s) λd v pb pj M hM=>?_;unfold fQ;apply ws;intros;refine XG ?_;apply ws;intros;refine hM d v pb pj S m [] _ ?_;rw[cw,i.same];exact h
def J5[i:Lc (EU n s) L (S,m) g](h:T W L (K (.i S.J.seq))):T W L (jK (ah s) K):=by
 refine AL (n:=n) (s:=s) λd v pb pj M hM=>?_;unfold jK;apply ws;intros;refine aaO ?_;apply ws;intros;refine hM d v pb pj S m [] _ ?_;rw[cw,i.same];exact h
def aa'[i:Lc (EU n s) L (S,m) g](h:T W L (K (.i S.D.ops))):T W L (iM (ah s) λy=>xP (λp=>ia p K) y):=by
 refine AL (n:=n) (s:=s) λd v pb pj M hM=>?_;unfold iM;apply ws;intros;refine aaF (d:=d) ?_;refine hM d v pb pj S m [] _ ?_;rw[cw,i.same];exact h
def Qy[i:Lc (EU n s) L (S,m) g](iH:Il S)(nF:12<=n)(cS:n<=4096)(h:T W (g ((fJ n m S).1,m)) (K (.i (fJ n m S).2))):T W L (mU (ah s) K):=by
 refine AL (n:=n) (s:=s) λd v pb pj M hM=>?_;unfold mU;apply ws;intros;refine WU iH.ok iH.og nF cS iH.bC ?_;apply ws;intros;exact hM d v pb pj _ m [] _ h
def UH[i:Lc (EU n s) L (S,m) g]{k:Int}(h:T W (g ({S with D:=S.D.rl k},m)) (K (.tuple ⟨[]⟩))):T W L (nL (ah s) k K):=by
 refine AL (n:=n) (s:=s) λd v pb pj M hM=>?_;unfold nL;apply ws;intros;refine ae8 (d:=d) ?_;apply ws;intros;exact hM d v pb pj {S with D:=S.D.rl k} m [] _ h
def LQ(G:mY W)[i:Lc (EU n s) L (S,m) g]{mask torn cut:Int}{gg:Nat}(nF:12<=n)(cS:n<=4096)(iH:Il S)(hv:uA n (S.D.eY mask torn cut) m0 gg)(hgg:gg<256)
 (h:∀S',VW n S' m0 gg->Md.bK m0->T W (g (S',m0)) (K (.i 0))):T W L (iQ (ah s) mask torn cut K):=by
 refine AL (n:=n) (s:=s) λd v pb pj M hM=>?_;unfold iQ;apply ws;intros;refine RN (d:=d) iH.ok (by have:=iH.og;omega) ?_;apply ws;intros;refine T.pl [3] ?_;refine Yg G nF cS hv hgg λv' UY UX S' hw adO=>?_;apply ws;intros;refine mP (by decide) ?_;apply ws;intros;refine T.sub (M:=VL v' d n UY UX m0 S' (Sep.pt s (HQ d v')::M)) ?_ (by exact qo);exact hM d v' UY UX S' m0 [] _ (h S' hw adO)
def UF(G:mY W)(nF:12<=n)(cS:n<=4096)(h:∀s,T W (EU n s (zG n,je)::L) (K (.tuple ⟨[.p (ah s),.i 0]⟩))):T W L (qD (n:Int) K):=by
 unfold qD;refine abn λd=>?_;refine vf ?_;refine FJ G (n:=n) nF cS (WQ nF cS) (by decide) λv pb pj rS=>?_;show T W (VL v d n pb pj je (zG n) L) _;apply ws;intros;refine fW (by decide) ?_;refine JL (d:=d) ?_;refine nQ ?_;have e:((zG n).D.safe.length:Int)=(n:Int):=by rw[(KV nF cS).len]
 rw[e];unfold qD.j1;refine fW (by simp) ?_;apply ws;intros;rename_i r1;refine T.pl [1,1,1,1] ?_;exact Oe (h r1)
def QJ{α:Type}{b:OA}{c e:Nat}{g:α->LV}{xs:List α}{f:HP->LH}[i:u9 b xs.length c L e (xs.flatMap g) f](hg:∀x,(g x).length=e):mZ W L g e b xs:=λw hw i' x hx=>by
 obtain⟨k,hk,_⟩:=i.at_;obtain⟨hl,h0|⟨r,sp,hb,vX,CO,hs⟩⟩:=hw.oN hk
 ·have:=(ao.1 hx).1;omega
 ·refine⟨⟨r,0,none⟩,hb,?_⟩;subst hb;rw[ig,aC];exact Az hw hk (ra hg xs i' x hx)
def Zj(hg:ft (bo m))(hw:k9 q=true)(Ed:q.aB.length<=255)(bX:q.cy.length<=255):(zg n m S q).2.2.2.1.length<1000000/\(zg n m S q).2.2.2.2.1.length<1000000/\(zg n m S q).2.2.2.2.2.length<1000000:=by
 unfold zg;split
 ·refine⟨?_,by show 0<1000000;decide,by show 0<1000000;decide⟩;have h0:k9 q=true:=hw;have hf:=nP hw;have:=GY m q;unfold AK;split
  ·show 0<1000000;decide
  split
  ·show 0<1000000;decide
  split
  ·show 0<1000000;decide
  ·show(bI m q).2.1.length<1000000;omega
 ·have hi:q.ids.length<=16\/pO q=false\/q.op=6:=by
   rename_i he;rcases nP hw with h|h|h|h|h
   ·exact aQ (av (.inl h.1)) he
   ·exact aQ (av (.inr (.inl h.1))) he
   ·exact aQ (av (.inr (.inr h.1))) he
   ·exact .inl h.2
   ·exact .inr (.inr h.1)
  obtain⟨h1,h2⟩:=ZA hg hi;exact⟨by show 0<1000000;decide,by show(ask m q).2.1.length<_;omega,by show(ask m q).2.2.length<_;omega⟩
def aaR{sl:wK}(G:mY W)(hg:Md.bK m)(hS:Il S)(hS2:Il (fJ n m S).1)(nF:12<=n)(cS:n<=4096)(hq:qf W R q sl)(hA:∀a∈q.aB,xR a)(hT:∀t∈q.cy,Ab t)(Ed:q.aB.length<1000000)(bX:q.cy.length<1000000)
 (h:∀rb rc ab ac tb tc,Md.bK (zg n m S q).2.1->T W (own rb (zg n m S q).2.2.2.1.length rc 1 ((zg n m S q).2.2.2.1.flatMap I1)::own ab (zg n m S q).2.2.2.2.1.length ac 14 ((zg n m S q).2.2.2.2.1.flatMap aL)::own tb (zg n m S q).2.2.2.2.2.length tc 16 ((zg n m S q).2.2.2.2.2.flatMap aM)::VL v d n pb pj (zg n m S q).2.1 (zg n m S q).1 R)
  (K (.agg ⟨sg (zg n m S q).2.2.1 rb (zg n m S q).2.2.2.1.length rc ab (zg n m S q).2.2.2.2.1.length ac tb (zg n m S q).2.2.2.2.2.length tc⟩))):
 T W (VL v d n pb pj m S R) (m8 (ah v) (gX q sl) K):=by
 unfold zg at h;cases he:gJ q with
 |true=>
  rw[ai he] at h;refine aaQ G hg hS hS2 nF cS hq hA hT Ed bX he λrb rc rS=>?_;refine iB (e:=14) ?_;refine iB (e:=16) ?_;exact T.pl [2,1,0] (h rb rc none 0 none 0 rS)
 |false=>
  rw[ag (by rw[he];decide)] at h;refine aaS hq he λab ac tb tc=>?_;refine iB (e:=1) ?_;exact h none 0 ab ac tb tc hg
def LR(G:mY W)[i:Lc (EU n s) L (S,m) g](hg:Md.bK m)(hS:Il S)(hS2:ft (bo m)->Il (fJ n m S).1)(nF:12<=n)(cS:n<=4096)(hl:l.length<1099511627776)
 (h:Md.bK (TH n m S l).2.1->ft (bo m)->T W (g ((TH n m S l).1,(TH n m S l).2.1)) (K (.s (bs (TH n m S l).2.2)))):T W L (kn (ah s) (bs l) K):=by
 refine AL (n:=n) (s:=s) λd v pb pj M hM=>?_;unfold kn;refine qP (p:=pb) (b:=bo m) (hs:=[]) λeJ=>?_;unfold TH at h;have same:∀l',T W (g (S,m)) (K (.s (bs l')))->T W (VL v d n pb pj m S (Sep.pt s (HQ d v)::M)) (K (.s (bs l'))):=λl' h=>hM d v pb pj S m [] _ h;apply ws;intros;apply ga<;>intro g1
 ·rw[cj] at g1;rw[ai (by omega)] at h;apply ws;intros;refine T7 (y7 ?_);exact same _ (h hg eJ)
 rw[cj] at g1;rw[ag (by omega)] at h;refine EP hl (λhr=>?_) (λhr A sl hq=>?_)
 ·rw[ag (by rw[hr];decide)] at h;apply ws;intros;refine mP (by decide) ?_;apply ws;intros;refine T7 (y7 ?_);exact T.drop (same _ (h hg eJ))
 ·rw[ai hr] at h;obtain⟨o1,o2,o3,o4⟩:=F' l;apply ws;intros;rename_i r1;refine fW (by decide) ?_;apply ws;intros;refine T.pl [2,2,2,2] ?_;have Ed:(iZ l).1.aB.length<1000000:=by omega
  have bX:(iZ l).1.cy.length<1000000:=by omega
  have hqR:qf W (Sep.pt r1 (gX (iZ l).1 sl)::A::Sep.pt s (HQ d v)::M) (iZ l).1 sl:=qf.two hq;have len:=Zj (n:=n) (S:=S) eJ (qp hr) o3 o4;clear o3 o4;generalize (iZ l).1=q at o1 o2 Ed bX hqR len h⊢;refine aaR G hg hS (hS2 eJ) nF cS hqR o1 o2 Ed bX λrb rc ab ac tb tc VA=>?_;generalize zg n m S q=Z at len VA h⊢;refine Ez (by rfl) ?_;refine Lm (hh:=Has.refl) (QJ (λ_=>rfl)) (QJ (λ_=>rfl)) (QJ (λ_=>rfl)) len.1 len.2.1 len.2.2 ?_;refine y7 ?_;refine T.sub (M:=VL v d n pb pj Z.2.1 Z.1 (Sep.pt s (HQ d v)::M)) (hM d v pb pj Z.1 Z.2.1 [] _ (h VA eJ)) (by exact qo)
end
structure TS where
 kind:Int
 b:List UInt8
 mask:Int
 torn:Int
 cut:Int
 n:Int
def TS.q(x:TS):kh:=(iZ x.b).1
def TS.wr(x:TS):Prop:=x.kind=0/\sh x.b=true/\gJ x.q=true
inductive uh(x:TS)(S:VS)(m mf:aA)(g:Nat):VS->aA->aA->Prop where
 |none (h0:x.wr->S.dJ=true) (h1:x.kind=1->S.dJ=true) (h2:x.kind≠2) (h3:x.kind≠3):uh x S m mf g S m mf
 |did (h:x.wr) (hs:S.dJ=false) (S1:VS) (e:zg 600 m S x.q=(S1,(bI m x.q).2.2,0,(bI m x.q).2.1,[],[])) (v:VW 600 S1 (bI m x.q).2.2 (g+3)) (e2:S1.J.seq=S.J.seq+1):uh x S m mf g S1 (bI m x.q).2.2 (bI m x.q).2.2
 |Pj (h:x.wr) (hs:S.dJ=false) (S1:VS) (e:zg 600 m S x.q=(S1,m,8,[],[],[])) (v:VX 600 S1 m (bI m x.q).2.2 (g+3)):uh x S m mf g S1 m (bI m x.q).2.2
 |saved (h:x.kind=1) (hs:S.dJ=false) (e:(fJ 600 m S).2=0) (v:VW 600 (fJ 600 m S).1 m (g+2)):uh x S m mf g (fJ 600 m S).1 m mf
 |vk (h:x.kind=1) (hs:S.dJ=false) (e:(fJ 600 m S).2=8) (v:VX 600 (fJ 600 m S).1 m m (g+2)):uh x S m mf g (fJ 600 m S).1 m mf
 |AN (h:x.kind=2) (m0:aA) (hm:m0=m\/m0=mf) (S1:VS) (v:VW 600 S1 m0 g):uh x S m mf g S1 m0 m0
 |arm (h:x.kind=3):uh x S m mf g {S with D:=S.D.rl x.n} m mf
section
variable {x:TS} {S S':VS} {m mf m' Am:aA} {g n:Nat} {q:kh} {P:aA->Prop}
def KI.same(h:KI n S m mf g)(hs:S.dJ=false):mf=m/\VW n S m g:=by
 rcases h with⟨a,b⟩|a
 ·exact⟨b,a⟩
 ·have:=a.dJ;rw[hs] at this;cases this
def uh.ki(w:uh x S m mf g S' m' Am)(h:KI 600 S m mf g):KI 600 S' m' Am (g+3):=by
 cases w with
 |none _ _ _ _=>exact h.mono (by omega)
 |did _ _ _ _ v _=>exact .inl ⟨v,rfl⟩
 |Pj _ _ _ _ v=>exact .inr v
 |saved _ hs _ v=>exact .inl ⟨v.mono (by omega),(h.same hs).1⟩
 |vk _ hs _ v=>rw[(h.same hs).1];exact .inr (v.mono (by omega))
 |AN _ _ _ _ v=>exact .inl ⟨v.mono (by omega),rfl⟩
 |arm _=>exact(h.rl (by decide) _).mono (by omega)
def uh.inv(w:uh x S m mf g S' m' Am)(hP:∀q,P m->P (bI m q).2.2)(h:P m)(hf:P mf):P m'/\P Am:=by
 cases w with
 |none _ _ _ _=>exact⟨h,hf⟩
 |did _ _ _ _ _ _=>exact⟨hP _ h,hP _ h⟩
 |Pj _ _ _ _ _=>exact⟨h,hP _ h⟩
 |saved _ _ _ _=>exact⟨h,hf⟩
 |vk _ _ _ _=>exact⟨h,hf⟩
 |AN _ m0 hm _ _=>rcases hm with e|e<;>subst e<;>first|exact⟨h,h⟩|exact⟨hf,hf⟩
 |arm _=>exact⟨h,hf⟩
def KI.wv:KI 600 (zG 600) je je 0:=.inl ⟨KV (by decide) (by decide),rfl⟩
def LU(h:Rm n g S)(EG:S.J.seq<1000000)(hn:600<=n/\n<=4096)(hg:g+3<256)(eJ:ft (bo m))(hw:k9 q=true):Rm n (g+3) (zg n m S q).1/\(gJ q=true->(zg n m S q).2.2.1=0):=by
 unfold zg;cases he:gJ q with
 |false=>
  rw[ag (by decide)];exact⟨h.mono (by omega),λhh=>by cases hh⟩
 |true=>
  rw[ai rfl];have uZ:=wc eJ;have hrl:=C4 hw he;have hc:=Rw (k:=12+(bs (dR q)).size) (by rw[cj];omega);have CQ:=h.KP;have CP:=h.lo;have BN:=h.hi;have CO:120<=S.J.hi-S.J.lo:=by rw[CP,BN];unfold dB;omega
  have ez:=yD (m:=m) hw he;obtain⟨a1,a2,a3,a4⟩:=RP (m:=m) (s:=bs (dR q)) h hn.2 (by omega) hg (As hn.1 uZ) (by omega) EG (by rw[cj];omega) (by omega);unfold AK;rw[ag (by rw[hw];decide),ag (by rw[h.dJ];decide),ag (λhh=>hh a1)];dsimp only;refine⟨?_,λ_=>ez⟩;rcases a4 with⟨b1,_⟩|⟨b1,_⟩
  ·exact b1.mono (by omega)
  ·exact b1
def J7(h:Rm n g S)(hn:600<=n/\n<=4096)(hg:g+2<256)(eJ:ft (bo m)):(fJ n m S).2=0/\Rm n (g+2) (fJ n m S).1:=by
 have uZ:=wc eJ;obtain⟨a,b,_⟩:=FD (m:=m) h hn.2 (by omega) hg (As hn.1 uZ) (by omega);exact⟨a,b⟩
end
def Rl{m:aA}(h:RM m):∀a∈m.cE.map m.full,xR a:=λa ha=>by
 obtain⟨b,hb,rfl⟩:=cA.1 ha;rw[h.ground.full hb];have h1:=h.cE b hb;obtain⟨z1,z2,z3,z4,z5,z6⟩:=h.ground.zero b hb;have d:=h.ground.yG b hb;have c:=h.ground.uO b hb;refine⟨h1.id,?_,?_,?_,?_,h1.ba,h1.code,?_,h1.ay⟩
 ·show b.dp+_<_;omega
 ·show b.dq+_<_;omega
 ·show b.cp+_<_;omega
 ·show b.cq+_<_;omega
 ·show vS (if _ then b.aq else b.aq%8+8);have e:0<=b.aq%8+8/\b.aq%8+8<=15:=by omega
  unfold vS;split
  ·omega
  ·exact⟨Int.le_trans (by decide) e.1,Int.le_trans e.2 (by decide)⟩
def Si(m:aA)(q:kh):List UInt8:=if gJ q=true then td (bI m q).1 (bI m q).2.1 [] [] else td (vQ (m.cE.map m.full) m.ax q).1 [] (vQ (m.cE.map m.full) m.ax q).2.1 (vQ (m.cE.map m.full) m.ax q).2.2
def OB(m:aA)(q:kh):aA:=if gJ q=true then(bI m q).2.2 else m
def Ey(m:aA)(l:List UInt8):List UInt8:=if sh l=true then Si m (iZ l).1 else td 4 [] [] []
def zp(m:aA)(l:List UInt8):aA:=if sh l=true then OB m (iZ l).1 else m
def sX(l:List UInt8):Bool:=sh l&&gJ (iZ l).1
def Bt{α β:Type}{f:α->List β}{k:Nat}(h:∀x,(f x).length<=k):∀l:List α,(l.flatMap f).length<=l.length* k
 |[]=>by simp
 |x::l=>by
  have:=h x;have:=Bt h l;rw[iY,aw,bE,mA];omega
def WC{al:List bJ}{kl:List ch}{q:kh}:(∀a∈(vQ al kl q).2.1,a∈al)/\(∀t∈(vQ al kl q).2.2,∃k∈kl,k.move=t):=by
 unfold vQ;split
 ·exact⟨λa h=>(by cases h),λa h=>(by cases h)⟩
 split
 ·refine⟨λa h=>?_,λa h=>(by cases h)⟩;obtain⟨id,_,h2⟩:=List.mem_flatMap.1 h;exact(qy.1 h2).1
 split
 ·refine⟨λa h=>(by cases h),λa h=>?_⟩;obtain⟨id,_,h2⟩:=List.mem_flatMap.1 h;obtain⟨k,hk,e⟩:=cA.1 h2;exact⟨k,(qy.1 hk).1,e⟩
 ·refine⟨λa h=>(by cases h),λa h=>?_⟩;obtain⟨k,hk,e⟩:=cA.1 h;have:=(qy.1 (List.mem_of_mem_take hk)).1;refine⟨k,?_,e⟩;split at this
  ·exact List.mem_reverse.1 this
  ·exact this
def WD{al:List bJ}{kl:List ch}{q:kh}(hw:k9 q=true)(hx:gJ q=false)(ha:al.length<=100)(hk:kl.length<=100):(vQ al kl q).2.1.length<1000000/\(vQ al kl q).2.2.length<1000000:=by
 have YM: ¬(q.op=1\/q.op=2\/q.op=3):=bn hx;have hf:=nP hw;unfold vQ;split
 ·exact⟨by show 0<_;decide,by show 0<_;decide⟩
 split
 ·refine⟨?_,by show 0<_;decide⟩;have h2:=Bt (f:=λid=>al.filter λa=>decide (a.id=id)) (k:=100) (λid=>AD (List.length_filter_le _ _) ha) q.ids;have:q.ids.length<=16:=by rcases hf with h|h|h|h|h<;>first|exact h.2|omega
  show(q.ids.flatMap λid=>al.filter λa=>decide (a.id=id)).length<_;omega
 split
 ·refine⟨by show 0<_;decide,?_⟩;have h2:=Bt (f:=λid=>(kl.filter λk=>decide (k.move.id=id)).map (·.move)) (k:=100) (λid=>by rw[bU];exact AD (List.length_filter_le _ _) hk) q.ids;have:q.ids.length<=16:=by rcases hf with h|h|h|h|h<;>first|exact h.2|omega
  show(q.ids.flatMap λid=>(kl.filter λk=>decide (k.move.id=id)).map (·.move)).length<_;omega
 ·refine⟨by show 0<_;decide,?_⟩;show(List.map _ (List.take _ _)).length<_;rw[bU,aD];have:q.lu<=16:=by rcases hf with h|h|h|h|h<;>first|exact h.2.2.2.2|omega
  omega
section
variable {W:World} {L R M:LH} {K:VK} {X:WK} {q:kh} {s:wK} {p:Nat} {m:aA} {mb kb:OA} {mc kc:Nat} {l:List UInt8}
def OD(hm:RM m)(hw:k9 q=true)(hq:qf W R q s)(Ed:q.aB.length<=255)(bX:q.cy.length<=255)(hA:∀a∈q.aB,xR a)(hT:∀t∈q.cy,Ab t)
 (h:∀p2 sS sR lO lN R',Bk p m mb mc kb kc R p2 (OB m q) sS sR lO lN R'->RM (OB m q)->T W (ML p2 (OB m q) sS sR lO lN R') (K (.tuple ⟨[.s (bs (Si m q)),.p (ah p2)]⟩))):
 T W (ML p m mb mc kb kc R) (nZ (ah p) (gX q s) K):=by
 have hmf:=hm.og;have hmm:=hm.many;unfold nZ;apply ws;intros;rename_i r1;refine zC ?_;unfold Si OB at h;cases he:gJ q with
 |true=>
  rw[ai he,ai he] at h;apply ws;intros;refine Sl (R:=R) hq (by omega) (by omega) ?_;rw[hw];apply ws;intros;refine T.pl [1,1,1] ?_;refine X' hm ⟨hq.aB.mono,hq.cy.mono,hq.ids.mono,hq.ca,hq.ct,hq.ci⟩ (by omega) (by omega) (λ_=>hA) (λ_=>hT) λp2 sS sR lO lN ob oc R' AY Ji=>?_;have hlen:=GY m q;refine acR ?_;refine um ?_;refine nQ ?_;refine vf ?_;refine Ba (hh:=Has.refl) (ab:=none) (tb:=none) (ac:=0) (tc:=0) (al:=[]) (tl:=[]) (QJ (λ_=>rfl)) mZ.nil mZ.nil (by omega) (by decide) (by decide) (λa h=>by cases h) (λa h=>by cases h) ?_;refine y7 ?_;rcases AY with⟨rfl,rfl,NU,rfl,rfl,rfl,rfl⟩|rfl
  ·exact T.sub (h p2 sS sR lO lN R (.inl ⟨rfl,rfl,NU,rfl,rfl,rfl,rfl⟩) Ji) (by exact qo)
  ·exact T.sub (h p2 sS sR lO lN _ (.inr rfl) Ji) (by exact qo)
 |false=>
  rw[ag (by rw[he];decide),ag (by rw[he];decide)] at h;have h:=h p mb mc kb kc R (.inl ⟨rfl,rfl,rfl,rfl,rfl,rfl,rfl⟩) hm;apply ws;intros;refine T.pl [1,1,1] ?_;refine DT (by omega) (by omega) hm.rkA hm.rkK λob oc=>?_;apply ws;intros;have O5:m.cE.length=(m.cE.map m.full).length:=(bU _).symm;have afT:(m.cE.map m.full).length<=100:=by rw[bU];omega
  rw[O5];refine OE (R:=R) (al:=m.cE.map m.full) (kl:=m.ax) hq (by omega) (by omega) λb1 c1 b2 c2=>?_;obtain⟨m1,m2⟩:=WC (al:=m.cE.map m.full) (kl:=m.ax) (q:=q);obtain⟨l1,l2⟩:=WD hw he afT (by omega:m.ax.length<=100);have hA2:∀a∈(vQ (m.cE.map m.full) m.ax q).2.1,xR a:=λa ha=>Rl hm a (m1 a ha);have Xw:∀t∈(vQ (m.cE.map m.full) m.ax q).2.2,Ab t:=λt ht=>by
   obtain⟨k,hk,e⟩:=m2 t ht;rw[<-e];exact(hm.ax k hk).move
  generalize vQ (m.cE.map m.full) m.ax q=Z at l1 l2 hA2 Xw h⊢;apply ws;intros;refine Ba (hh:=Has.refl) (rb:=none) (rc:=0) (res:=[]) mZ.nil (QJ (λ_=>rfl)) (QJ (λ_=>rfl)) (by decide) l1 l2 hA2 Xw ?_;apply ws;intros;refine T.sub h (by exact qo)
end
def Bk.less{p p2:Nat}{m m2:aA}{mb kb sS lO:OA}{mc kc sR lN:Nat}{A B:HP}{R R':LH}{W:World}{X:WK}(hb:Bk p m mb mc kb kc (A::B::R) p2 m2 sS sR lO lN R')
 (h:∀R2,Bk p m mb mc kb kc R p2 m2 sS sR lO lN R2->T W (ML p2 m2 sS sR lO lN R2) X):T W (ML p2 m2 sS sR lO lN R') X:=by
 rcases hb with⟨rfl,rfl,NU,rfl,rfl,rfl,rfl⟩|rfl
 ·exact T.sub (h R (.inl ⟨rfl,rfl,NU,rfl,rfl,rfl,rfl⟩)) (by exact qo)
 ·exact T.sub (h _ (.inr rfl)) (by exact qo)
section
variable {W:World} {L R M:LH} {K:VK} {X:WK} {q:kh} {s:wK} {p:Nat} {m:aA} {mb kb:OA} {mc kc:Nat} {l:List UInt8}
def Oc(hm:RM m)(hl:l.length<1099511627776)
 (h:∀p2 sS sR lO lN R',Bk p m mb mc kb kc R p2 (zp m l) sS sR lO lN R'->RM (zp m l)->T W (ML p2 (zp m l) sS sR lO lN R') (K (.tuple ⟨[.s (bs (Ey m l)),.p (ah p2),.b (sX l)]⟩))):
 T W (ML p m mb mc kb kc R) (pA (ah p) (bs l) K):=by
 unfold pA;unfold zp Ey sX at h;refine EP hl (λhr=>?_) (λhr A sl hq=>?_)
 ·rw[ag (by rw[hr];decide),ag (by rw[hr];decide),hr] at h;have h:=h p mb mc kb kc R (.inl ⟨rfl,rfl,rfl,rfl,rfl,rfl,rfl⟩) hm;apply ws;intros;refine mP (by decide) ?_;refine vn ?_;apply ws;intros;exact T.drop h
 ·rw[ai hr,ai hr,hr] at h;obtain⟨o1,o2,o3,o4⟩:=F' l;have hw:=qp hr;apply ws;intros;rename_i r1;refine fW (by decide) ?_;apply ws;intros;refine T.pl [2,2,2] ?_;have hqR:qf W (Sep.pt r1 (gX (iZ l).1 sl)::A::R) (iZ l).1 sl:=qf.two hq;generalize (iZ l).1=q at o1 o2 o3 o4 hw hqR h⊢;refine OD hm hw hqR o3 o4 o1 o2 λp2 sS sR lO lN R' AY Ji=>?_;have hL:∃g,Lc (Sep.pt r1) R' (gX q sl) g:=by
   rcases AY with⟨rfl,-⟩|rfl
   ·exact⟨_,inferInstance⟩
   ·exact⟨_,inferInstance⟩
  obtain⟨g,hL⟩:=hL;apply ws;intros;refine zC ?_;apply ws;intros;exact Bk.less AY λR2 wX=>h p2 sS sR lO lN R2 wX Ji
end
def wC(s p pf:Nat):LV:=[.p (ah s),.p (ah p),.p (ah pf)]
section
variable {s p pf p':Nat}
instance:Gt (wC s p pf) 0 (.p (ah s)):=⟨rfl⟩
instance:Gt (wC s p pf) 1 (.p (ah p)):=⟨rfl⟩
instance:Gt (wC s p pf) 2 (.p (ah pf)):=⟨rfl⟩
instance:Wr (wC s p pf) 1 [.p (ah p')] (wC s p' pf):=⟨rfl,by show 2<=3;decide,λu hu=>by simp at hu;subst hu;rfl⟩
instance:Wr (wC s p pf) 2 [.p (ah p')] (wC s p p'):=⟨rfl,by show 3<=3;decide,λu hu=>by simp at hu;subst hu;rfl⟩
end
structure WZ where
 s:Nat
 p:Nat
 pf:Nat
 mb:OA
 mc:Nat
 kb:OA
 kc:Nat
structure WX where
 S:VS
 ms:aA
 m:aA
 mf:aA
abbrev xV(w:Nat)(z:WZ)(x:WX)(R:LH):LH:=Sep.pt w (wC z.s z.p z.pf)::EU 600 z.s (x.S,x.ms)::ML z.p x.m z.mb z.mc z.kb z.kc R
def wd(w:Nat)(x:WX):HP:=TT λy:WZ×LH=>EL (Fl y.1.p x.m y.1.pf x.mf [] y.2/\RM x.m/\RM x.mf) (vW (xV w y.1 x y.2))
section
variable {W:World} {L R M:LH} {K:VK} {X:WK} {w:Nat} {x:WX} {f:WX->LH}
def Fl.app{p pf:Nat}{m mf:aA}{E:LH}(h:Fl p m pf mf [] E):Fl p m pf mf M (E++M):=by
 rcases h with⟨a,b,rfl⟩|⟨fb,fc,gb,gc,rfl⟩
 ·exact .inl ⟨a,b,rfl⟩
 ·exact .inr ⟨fb,fc,gb,gc,rfl⟩
def Fl.ZZ{p pf:Nat}{m mf:aA}{R':LH}(h:Fl p m pf mf M R'):∃E,Fl p m pf mf [] E/\R'=E++M:=by
 rcases h with⟨a,b,rfl⟩|⟨fb,fc,gb,gc,rfl⟩
 ·exact⟨[],.inl ⟨a,b,rfl⟩,rfl⟩
 ·exact⟨_,.inr ⟨fb,fc,gb,gc,rfl⟩,rfl⟩
def FN[i:Lc (wd w) L x f](h:∀z M R',Fl z.p x.m z.pf x.mf M R'->RM x.m->RM x.mf->(∀z' x' N5 N Y,Fl z'.p x'.m z'.pf x'.mf M N5->RM x'.m->RM x'.mf->T W (N++f x') Y->T W (N++xV w z' x' N5) Y)->T W (xV w z x R') X):T W L X:=
 T.foc (P:=wd w) λM hM=>T.ex λy=>T.and λ⟨h1,h2,h3⟩=>T.sps (M:=xV w y.1 x y.2) (h y.1 M (y.2++M) h1.app h2 h3 λz' x' N5 N Y hf k1 k2 hy=>by
  obtain⟨E,hE,rfl⟩:=hf.ZZ
  refine T.perm (L:=xV w z' x' E++(N++M)) (T.FL (M:=xV w z' x' E) (T.Vo (p:=Fl z'.p x'.m z'.pf x'.mf [] E/\RM x'.m/\RM x'.mf) ⟨hE,k1,k2⟩ (T.YE (f:=λy:WZ×LH=>EL (Fl y.1.p x'.m y.1.pf x'.mf [] y.2/\RM x'.m/\RM x'.mf) (vW (xV w y.1 x' y.2))) (z',E) (hM x' N Y hy)))) ?_
  show(N++(xV w z' x' E++M)).Perm (xV w z' x' E++(N++M))
  rw[<-aI,<-aI]
  exact bp.append_right M)
def Iv[i:Lc (wd w) L x f](h:ft (bo x.ms)->RM x.m->RM x.mf->T W L X):T W L X:=by
 refine FN (w:=w) λz M R' hf h2 h3 hM=>?_;refine QB (n:=600) (s:=z.s) λhg=>?_;refine hM z x R' [] _ hf h2 h3 ?_;rw[cw,i.same];exact h hg h2 h3
def zn[i:Lc (wd w) L x f]{F:OA->WK}(h:∀p,T W (cL p (bo x.ms,[])::L) (F (ah p))):T W L (lP ⟨w,0,none⟩ λs=>dW s (xP F)):=by
 refine FN (w:=w) λz M R' hf h2 h3 hM=>?_;apply ws;intros;refine xj (n:=600) (s:=z.s) λp=>?_;refine vf ?_;refine hM z x R' [_] _ hf h2 h3 ?_;rw[i.same];exact h p
def JP[i:Lc (wd w) L x f]{F:Bool->WK}(h:T W L (F x.S.dJ)):T W L (lP ⟨w,0,none⟩ λs=>fQ s (xB F)):=by
 refine FN (w:=w) λz M R' hf h2 h3 hM=>?_;apply ws;intros;refine wh (n:=600) (s:=z.s) ?_;refine oU ?_;refine hM z x R' [] _ hf h2 h3 ?_;rw[cw,i.same];exact h
def aaJ[i:Lc (wd w) L x f]{F:Int->WK}(h:T W L (F x.S.J.seq)):T W L (lP ⟨w,0,none⟩ λs=>jK s (xI .i64 F)):=by
 refine FN (w:=w) λz M R' hf h2 h3 hM=>?_;apply ws;intros;refine J5 (n:=600) (s:=z.s) ?_;refine nQ ?_;refine hM z x R' [] _ hf h2 h3 ?_;rw[cw,i.same];exact h
def N'[i:Lc (wd w) L x f]{F:Int->WK}(h:T W L (F x.S.D.ops)):T W L (lP ⟨w,0,none⟩ λs=>iM s (xP λp=>ia p (xI .i64 F))):=by
 refine FN (w:=w) λz M R' hf h2 h3 hM=>?_;apply ws;intros;refine aa' (n:=600) (s:=z.s) ?_;refine nQ ?_;refine hM z x R' [] _ hf h2 h3 ?_;rw[cw,i.same];exact h
def XC[i:Lc (wd w) L x f]{F:Int->WK}(iH:Il x.S)(h:T W (f ⟨(fJ 600 x.ms x.S).1,x.ms,x.m,x.mf⟩) (F (fJ 600 x.ms x.S).2)):T W L (lP ⟨w,0,none⟩ λs=>mU s (xI .i64 F)):=by
 refine FN (w:=w) λz M R' hf h2 h3 hM=>?_;apply ws;intros;refine Qy (n:=600) (s:=z.s) iH (by decide) (by decide) ?_;refine nQ ?_;exact hM z ⟨(fJ 600 x.ms x.S).1,x.ms,x.m,x.mf⟩ R' [] _ hf h2 h3 h
def aaM[i:Lc (wd w) L x f]{k:Int}{X:WK}(h:T W (f ⟨{x.S with D:=x.S.D.rl k},x.ms,x.m,x.mf⟩) X):T W L (lP ⟨w,0,none⟩ λs=>nL s k (x0 X)):=by
 refine FN (w:=w) λz M R' hf h2 h3 hM=>?_;apply ws;intros;refine UH (n:=600) (s:=z.s) ?_;refine BV ?_;exact hM z ⟨{x.S with D:=x.S.D.rl k},x.ms,x.m,x.mf⟩ R' [] _ hf h2 h3 h
def T6(G:mY W)[i:Lc (wd w) L x f]{mask torn cut:Int}{m0:aA}{gg:Nat}{F:Int->WK}(iH:Il x.S)(hv:uA 600 (x.S.D.eY mask torn cut) m0 gg)(hgg:gg<256)
 (h:∀S',VW 600 S' m0 gg->Md.bK m0->T W (f ⟨S',m0,x.m,x.mf⟩) (F 0)):T W L (lP ⟨w,0,none⟩ λs=>iQ s mask torn cut (xI .i64 F)):=by
 refine FN (w:=w) λz M R' hf h2 h3 hM=>?_;apply ws;intros;refine LQ G (n:=600) (s:=z.s) (by decide) (by decide) iH hv hgg λS' hw hg=>?_;refine nQ ?_;exact hM z ⟨S',m0,x.m,x.mf⟩ R' [] _ hf h2 h3 (h S' hw hg)
end
def C1{S:VS}{ms CN:aA}{g:Nat}{l:List UInt8}(hk:KI 600 S ms CN g)(hg:g+3<256)(eJ:ft (bo ms))(rS:Md.bK ms)(hl:l.length<=16384):
 (sX l=false/\TH 600 ms S l=(S,ms,Ey ms l))\/
 (sX l=true/\S.dJ=true/\TH 600 ms S l=(S,ms,td 9 [] [] []))\/
 (sX l=true/\S.dJ=false/\∃S1,zg 600 ms S (iZ l).1=(S1,ms,8,[],[],[])/\TH 600 ms S l=(S1,ms,td 8 [] [] [])/\VX 600 S1 ms (bI ms (iZ l).1).2.2 (g+3))\/
 (sX l=true/\S.dJ=false/\∃S1,zg 600 ms S (iZ l).1=(S1,(bI ms (iZ l).1).2.2,0,(bI ms (iZ l).1).2.1,[],[])/\TH 600 ms S l=(S1,(bI ms (iZ l).1).2.2,Ey ms l)/\
  VW 600 S1 (bI ms (iZ l).1).2.2 (g+3)/\S1.J.seq=S.J.seq+1/\Ey ms l=td 0 (bI ms (iZ l).1).2.1 [] []/\sf 0 (bI ms (iZ l).1).2.1 [] []=true):=by
 obtain⟨o1,o2,o3,o4⟩:=F' l;unfold TH Ey sX;rw[ag (by omega)];cases hr:sh l with
 |false=>left;exact⟨rfl,by rw[ag (by decide),ag (by decide)]⟩
 |true=>
  have hw:=qp hr;rw[ai rfl,ai rfl];generalize (iZ l).1=q at o1 o2 o3 o4 hw⊢;rcases aeV (q:=q) hk.vz (by decide) (by decide) hg eJ rS hw o1 o2 with⟨a,b⟩|⟨a,b,c⟩|⟨a,b,S1,c,d⟩|⟨a,b,c,S1,d,e,e2⟩
  ·left
   refine⟨by rw[a];rfl,?_⟩;have afQ:vQ (ms.cE.map ms.full) ms.ax q=ask ms q:=by
    rw[<-ZB eJ];have:ms.cE.map ms.full=(bo ms).aB:=eg λa ha=>rS.full ha;rw[this];rfl
   unfold Si;rw[b,ag (by rw[a];decide),afQ]
  ·right;left
   exact⟨by rw[a];rfl,b,by rw[c]⟩
  ·right;right;left
   exact⟨by rw[a];rfl,b,S1,c,by rw[c],d⟩
  ·right;right;right
   have he:lZ q=true:=by
    have YM:q.op=1\/q.op=2\/q.op=3:=aR a;unfold k9 at hw;have:pO q=false:=by unfold pO;rw[ag (by omega),ag (by omega)]
    rw[this,Bool.or_false,dI] at hw;exact hw.1
   have hf:=M5 (m:=ms) rS he;rw[c] at hf;have e3:Si ms q=td 0 (bI ms q).2.1 [] []:=by unfold Si;rw[ai a,c]
   exact⟨by rw[a];rfl,b,S1,d,by rw[d,e3],e,e2,e3,hf⟩
def yR(x:TS):LV:=[.i x.kind,.s (bs x.b),.u x.mask,.i x.torn,.i x.cut,.i x.n]
section
variable {x:TS} {x1 x2 x3 x4 x5 x6:Value}
instance:Ln (yR x) 6:=⟨rfl⟩
instance:Gt (yR x) 0 (.i x.kind):=⟨rfl⟩
instance:Gt (yR x) 1 (.s (bs x.b)):=⟨rfl⟩
instance:Gt (yR x) 2 (.u x.mask):=⟨rfl⟩
instance:Gt (yR x) 3 (.i x.torn):=⟨rfl⟩
instance:Gt (yR x) 4 (.i x.cut):=⟨rfl⟩
instance:Gt (yR x) 5 (.i x.n):=⟨rfl⟩
def XL(x:TS):∀v∈yR x,v.oneCell'=true:=λv hv=>by simp[yR] at hv;rcases hv with rfl|rfl|rfl|rfl|rfl|rfl<;>rfl
instance:Wr [x1,x2,x3,x4,x5,x6] 0 (yR x) (yR x):=⟨rfl,aH _,XL x⟩
instance:Sub (yR x) 0 6 (yR x):=⟨rfl,λj v h=>by rw[aC];exact h⟩
end
section
variable {W:World} {L R R' M:LH} {K:VK} {X:WK} {w:Nat} {x:WX} {f:WX->LH} {p p3 pf:Nat} {m m3 mf:aA} {mb E4 kb E8:OA} {mc E3 kc E7:Nat} {R3:LH} {A B C:HP}
def Nx(p:Nat)(m:aA)(mb:OA)(mc:Nat)(kb:OA)(kc p3:Nat)(m3:aA)(E4:OA)(E3:Nat)(E8:OA)(E7:Nat)(R' R3:LH):Prop:=
 (p3=p/\m3=m/\E4=mb/\E3=mc/\E8=kb/\E7=kc/\R3=R')\/R3=ML p m mb mc kb kc R'
def Nx.both(hn:Nx p m mb mc kb kc p3 m3 E4 E3 E8 E7 R' R3)(hf:Fl p m pf mf M R')(h:T W (A::B::ML p3 m3 E4 E3 E8 E7 M) X):T W (A::B::ML p3 m3 E4 E3 E8 E7 R3) X:=by
 rcases hn with⟨_,_,_,_,_,_,rfl⟩|rfl
 ·rcases hf with⟨_,_,rfl⟩|⟨fb,fc,gb,gc,rfl⟩
  ·exact h
  ·exact T.sub h (by exact qo)
 ·rcases hf with⟨_,_,rfl⟩|⟨fb,fc,gb,gc,rfl⟩
  ·exact T.sub h (by exact qo)
  ·exact T.sub h (by exact qo)
def Nx.may(hn:Nx p m mb mc kb kc p3 m3 E4 E3 E8 E7 R' R3)(hf:Fl p m pf mf M R')(h:∀R4,Fl p m p3 m3 M R4->T W (A::B::ML p m mb mc kb kc R4) X):T W (A::B::ML p3 m3 E4 E3 E8 E7 R3) X:=by
 rcases hn with⟨rfl,rfl,rfl,rfl,rfl,rfl,rfl⟩|rfl
 ·have h:=h M (.inl ⟨rfl,rfl,rfl⟩);rcases hf with⟨_,_,rfl⟩|⟨fb,fc,gb,gc,rfl⟩
  ·exact h
  ·exact T.sub h (by exact qo)
 ·have h:=h _ (.inr ⟨E4,E3,E8,E7,rfl⟩);rcases hf with⟨_,_,rfl⟩|⟨fb,fc,gb,gc,rfl⟩
  ·exact T.pl [0,0,3,3,3] h
  ·exact T.pl [0,0,3,3,3] (T.sub h (by exact qo))
def Nx.none(hn:Nx p m mb mc kb kc p3 m3 E4 E3 E8 E7 R' R3)(hf:Fl p m pf mf M R')(h:∀R4,Fl p m pf mf M R4->T W (A::B::ML p m mb mc kb kc R4) X):T W (A::B::ML p3 m3 E4 E3 E8 E7 R3) X:=by
 rcases hn with⟨rfl,rfl,rfl,rfl,rfl,rfl,rfl⟩|rfl
 ·exact h _ hf
 ·exact T.sub (h _ hf) (by exact qo)
def Nx.one(hn:Nx p m mb mc kb kc p3 m3 E4 E3 E8 E7 R' R3)(hf:Fl p m pf mf M R')(h:∀R4,Fl p3 m3 pf mf M R4->T W (A::B::ML p3 m3 E4 E3 E8 E7 R4) X):T W (A::B::ML p3 m3 E4 E3 E8 E7 R3) X:=by
 rcases hn with⟨rfl,rfl,rfl,rfl,rfl,rfl,rfl⟩|rfl
 ·exact h _ hf
 ·rcases hf with⟨rfl,rfl,rfl⟩|⟨fb,fc,gb,gc,rfl⟩
  ·exact h _ (.inr ⟨mb,mc,kb,kc,rfl⟩)
  ·exact T.sub (h _ (.inr ⟨fb,fc,gb,gc,rfl⟩)) (by exact qo)
end
def vh(a b:List UInt8):pG (bs a) (bs b)=decide (a=b):=by
 rw[s7,decide_eq_decide];exact BC
def Iz{m:aA}{l:List UInt8}(h:sX l=false):zp m l=m:=by
 unfold zp;split
 ·rename_i hr;unfold sX at h;rw[hr,eG] at h;unfold OB;rw[ag (by rw[h];decide)]
 ·rfl
def CS{m:aA}{l:List UInt8}(h:sX l=true):zp m l=(bI m (iZ l).1).2.2:=by
 unfold sX at h;rw[dI] at h;unfold zp OB;rw[ai h.1,ai h.2]
section
variable {W:World} {L R R' M:LH} {K:VK} {X:WK} {w:Nat} {f:WX->LH} {p p3 pf:Nat} {m m3 mf:aA} {mb E4 kb E8:OA} {mc E3 kc E7:Nat} {R3:LH} {A B C:HP} {S:VS} {ms CN:aA} {g:Nat} {x:TS}
def Bk.nx(hb:Bk p m mb mc kb kc (A::B::C::R') p3 m3 E4 E3 E8 E7 R3)(h:∀R4,Nx p m mb mc kb kc p3 m3 E4 E3 E8 E7 R' R4->T W (A::B::C::ML p3 m3 E4 E3 E8 E7 R4) X):T W (ML p3 m3 E4 E3 E8 E7 R3) X:=by
 rcases hb with⟨rfl,rfl,rfl,rfl,rfl,rfl,rfl⟩|rfl
 ·exact T.pl [3,3,3] (h _ (.inl ⟨rfl,rfl,rfl,rfl,rfl,rfl,rfl⟩))
 ·exact T.pl [6,6,6] (h _ (.inr rfl))
def Vn{s p' pf':Nat}(hm:RM m)(h:T W (ML p m mb mc kb kc (Sep.pt w (wC s p' pf')::EU 600 s (S,ms)::R)) (K (.b (decide (sE m ms))))):
 T W (ML p m mb mc kb kc (Sep.pt w (wC s p' pf')::EU 600 s (S,ms)::R)) (dT (ah w) (ah p) K):=by
 unfold dT;apply ws;intros;refine xj (n:=600) (s:=s) λp3=>?_;refine vf ?_;refine qw (p:=p3) λab ac=>?_;refine um ?_;refine uR (p:=p3) λxb xc=>?_;refine um ?_;refine AA (p:=p3) ?_;refine nQ ?_;refine Av (p:=p3) ?_;refine nQ ?_;refine T.pl [3,3,3] ?_;refine X6 hm ?_;refine oU ?_;have e:decide (m.cE.map m.full=(bo ms).aB/\m.ax=(bo ms).ax/\m.clock=(bo ms).clock/\m.ay=(bo ms).ay)=decide (sE m ms):=by
  have e1:m.cE.map m.full=(bo m).aB:=eg λa ha=>hm.ground.full ha;rw[e1,decide_eq_decide];exact Iff.rfl
 rw[e];exact T.sub h (by exact qo)
set_option maxHeartbeats 1000000 in
def KF(G:mY W)[i:Lc (wd w) L ⟨S,ms,m,mf⟩ f](hl:x.b.length<=16384)(hk:KI 600 S ms CN g)(hg:g+3<256)(rS:Md.bK ms)(Ct:Md.bK CN)
 (h:∀b S' yV mfs' m' Am,uh x S ms CN g S' yV mfs'->Md.bK yV->Md.bK mfs'->(m=ms/\mf=CN->b=true/\m'=yV/\Am=mfs')->T W (f ⟨S',yV,m',Am⟩) (K (.b b))):T W L (aG (ah w) (yR x) K):=by
 unfold aG;refine FN (w:=w) λz M R' hf k1 k2 hM=>?_;have fin:∀{b:Bool} {S':VS} {yV mfs' m' Am:aA} {z':WZ} {N5:LH},Fl z'.p m' z'.pf Am M N5->RM m'->RM Am->uh x S ms CN g S' yV mfs'->Md.bK yV->Md.bK mfs'->(m=ms/\mf=CN->b=true/\m'=yV/\Am=mfs')->T W (xV w z' ⟨S',yV,m',Am⟩ N5) (K (.b b)):=
  λ{b S' yV mfs' m' Am z' N5} a1 a2 a3 a4 a5 a6 a7=>hM z' ⟨S',yV,m',Am⟩ N5 [] _ a1 a2 a3 (h b S' yV mfs' m' Am a4 a5 a6 a7)
 have hvz:=hk.vz;have iH:=hvz.vok (by omega);dsimp only[xV];apply ws;intros;rename_i r1;apply dj<;>intro g4
 ·have k0:x.kind=0:=by simpa using g4
  have hwr:sX x.b=true->x.wr:=λhh=>by
   unfold sX at hh;rw[dI] at hh;exact⟨k0,hh.1,hh.2⟩
  have afh:x.wr->sX x.b=true:=λhh=>by
   unfold sX;rw[hh.2.1];exact hh.2.2
  apply ws;intros;refine T.pl [3,3,3] ?_;refine Oc k1 (by omega) λp3 E4 E3 E8 E7 R3 AY YG=>?_;refine AY.nx λR4 hn=>?_;apply ws;intros;refine wh (n:=600) (s:=z.s) ?_;apply ws;intros;refine LR G (n:=600) (s:=z.s) rS iH (λeJ=>hvz.XE (by decide) (by decide) (by omega) eJ rS) (by decide) (by decide) (by omega) λhgs eJ=>?_;have hc:=C1 hk hg eJ rS hl;have jD:∀{S':VS} {yV mfs':aA},uh x S ms CN g S' yV mfs'->Md.bK yV->Md.bK mfs'->S'.dJ=S.dJ->(m=ms/\mf=CN->zp m x.b=yV/\(S.dJ=false->mfs'=yV)/\(S.dJ=true->mfs'=CN))->
   T W (Sep.pt r1 (yR x)::Sep.pt w (wC z.s z.p z.pf)::EU 600 z.s (S',yV)::ML p3 (zp m x.b) E4 E3 E8 E7 R4) (aG.j1 K (ah w) (ah p3) S.dJ):=by
   intro S' yV mfs' a1 a2 a3 a4 a5;unfold aG.j1 aG.j2;cases hs:S.dJ with
   |true=>
    apply ws;intros;refine wh (n:=600) (s:=z.s) ?_;apply ws;intros;rw[a4,hs];refine T.drop ?_;refine hn.one hf λR5 hf5=>?_;exact fin (z':=⟨z.s,p3,z.pf,E4,E3,E8,E7⟩) hf5 YG k2 a1 a2 a3 λhh=>⟨rfl,(a5 hh).1,by rw[(a5 hh).2.2 hs];exact hh.2⟩
   |false=>
    apply ws;intros;refine wh (n:=600) (s:=z.s) ?_;apply ws;intros;rw[a4,hs];refine T.drop ?_;refine hn.both hf ?_;exact fin (z':=⟨z.s,p3,p3,E4,E3,E8,E7⟩) (.inl ⟨rfl,rfl,rfl⟩) YG YG a1 a2 a3 λhh=>⟨rfl,(a5 hh).1,by rw[(a5 hh).2.1 hs];exact(a5 hh).1⟩
  have jN:∀{b:Bool} {S':VS} {yV mfs':aA},uh x S ms CN g S' yV mfs'->Md.bK yV->Md.bK mfs'->(m=ms/\mf=CN->b=true/\m=yV/\mf=mfs')->
   T W (Sep.pt r1 (yR x)::Sep.pt w (wC z.s z.p z.pf)::EU 600 z.s (S',yV)::ML p3 (zp m x.b) E4 E3 E8 E7 R4) (K (.b b)):=by
   intro b S' yV mfs' a1 a2 a3 a5;refine T.drop (hn.none hf λR5 hf5=>?_);exact fin (z':=z) hf5 k1 k2 a1 a2 a3 a5
  have j4:∀{S':VS} {yV mfs':aA} {l:List UInt8},uh x S ms CN g S' yV mfs'->Md.bK yV->Md.bK mfs'->S'.dJ=S.dJ->(m=ms/\mf=CN->l=Ey m x.b/\zp m x.b=yV/\(S.dJ=false->mfs'=yV)/\(S.dJ=true->mfs'=CN))->
   T W (Sep.pt r1 (yR x)::Sep.pt w (wC z.s z.p z.pf)::EU 600 z.s (S',yV)::ML p3 (zp m x.b) E4 E3 E8 E7 R4) (aG.j4 K (ah w) (ah p3) (bs l) (bs (Ey m x.b)) S.dJ false):=by
   intro S' yV mfs' l a1 a2 a3 a4 a5;unfold aG.j4;rw[vh];by_cases hls:l=Ey m x.b
   ·rw[av hls];apply ws;intros;exact jD a1 a2 a3 a4 λhh=>(a5 hh).2
   ·rw[ar hls];apply ws;intros;exact jN a1 a2 a3 λhh=>aQ (a5 hh).1 hls
  rcases hc with⟨c1,c2⟩|⟨c1,c2,c3⟩|⟨c1,c2,S1,c3,c4,c5⟩|⟨c1,c2,S1,c3,c4,c5,c6,c7,c8⟩
  ·rw[c2,c1];have hw:uh x S ms CN g S ms CN:=.none (λhh=>by have:=afh hh;rw[c1] at this;cases this) (λhh=>by omega) (by omega) (by omega);unfold aG.j3;apply ws;intros;refine j4 hw rS Ct rfl λhh=>⟨by rw[hh.1],(Iz c1).trans hh.1,λhs=>(hk.same hs).1,λ_=>rfl⟩
  ·rw[c3,c1,c2];have hw:uh x S ms CN g S ms CN:=.none (λ_=>c2) (λhh=>by omega) (by omega) (by omega);unfold aG.j3;apply ws;intros;refine vn ?_;apply ws;intros;rw[vh,av rfl];exact jN hw rS Ct λhh=>⟨rfl,hh.1,hh.2⟩
  ·rw[c4,c1,c2];have hx:=hwr c1;have hw:uh x S ms CN g S1 ms (bI ms x.q).2.2:=.Pj hx c2 S1 c3 c5;unfold aG.j3 aG.j4;apply ws;intros;refine vn ?_;apply ws;intros;rw[vh,av rfl];apply ws;intros;refine wh (n:=600) (s:=z.s) ?_;apply ws;intros;rw[c5.dJ];refine T.drop (hn.may hf λR5 hf5=>?_);exact fin (z':=⟨z.s,z.p,p3,z.mb,z.mc,z.kb,z.kc⟩) hf5 k1 YG hw rS (wY rS _) λhh=>⟨rfl,hh.1,by rw[CS c1,hh.1];rfl⟩
  ·rw[c4,c1,c2];rw[c4] at hgs;have hx:=hwr c1;have hw:uh x S ms CN g S1 (bI ms x.q).2.2 (bI ms x.q).2.2:=.did hx c2 S1 c3 c5 c6;have kN:Ey ms x.b≠td 8 [] [] []:=by rw[c7];exact abk c8 (by decide) (by decide)
   unfold aG.j3;apply ws;intros;refine vn ?_;apply ws;intros;rw[vh,ar kN];have:=j4 (l:=Ey ms x.b) hw (wY rS _) (wY rS _) (by rw[c5.dJ,c2]) λhh=>⟨by rw[hh.1],by rw[CS c1,hh.1];rfl,λ_=>rfl,λhs=>by rw[c2] at hs;cases hs⟩;rw[c2] at this;exact this
 have k0:x.kind≠0:=by simpa using g4
 have nw:x.wr->S.dJ=true:=λhh=>aQ hh.1 k0;apply dj<;>intro g5
 ·have k1':x.kind=1:=by simpa using g5
  apply ws;intros;refine QB (n:=600) (s:=z.s) λeJ=>?_;refine wh (n:=600) (s:=z.s) ?_;apply ws;intros;refine Qy (n:=600) (s:=z.s) iH (by decide) (by decide) ?_;have jE:∀{b:Bool} {S':VS} {yV mfs':aA},uh x S ms CN g S' yV mfs'->Md.bK yV->Md.bK mfs'->(m=ms/\mf=CN->b=true/\m=yV/\mf=mfs')->T W (Sep.pt r1 (yR x)::Sep.pt w (wC z.s z.p z.pf)::EU 600 z.s (S',yV)::ML z.p m z.mb z.mc z.kb z.kc R') (K (.b b)):=by
   intro b S' yV mfs' a1 a2 a3 a5;exact T.drop (fin (z':=z) hf k1 k2 a1 a2 a3 a5)
  rcases Qx hvz (by decide) (by decide) (by omega) eJ rS with⟨a,b⟩|⟨a,b,c,_⟩|⟨a,b,c⟩
  ·rw[b,a];unfold aG.j5;apply ws;intros;refine mP rfl ?_;exact jE (mfs':=CN) (.none nw (λ_=>a) (by omega) (by omega)) rS Ct λhh=>⟨rfl,hh.1,hh.2⟩
  ·rw[b,a];unfold aG.j5 aG.j6;apply ws;intros;refine mP (by decide) ?_;apply ws;intros;refine wh (n:=600) (s:=z.s) ?_;apply ws;intros;rw[c.dJ];refine aa4 ?_;exact jE (.saved k1' a b c) rS Ct λhh=>⟨rfl,hh.1,hh.2⟩
  ·rw[b,a];unfold aG.j5 aG.j6;apply ws;intros;refine fW (by decide) ?_;apply ws;intros;refine mP (by decide) ?_;apply ws;intros;refine wh (n:=600) (s:=z.s) ?_;apply ws;intros;rw[c.dJ];exact jE (.vk k1' a b c) rS Ct λhh=>⟨rfl,hh.1,hh.2⟩
 have k1':x.kind≠1:=by simpa using g5
 apply dj<;>intro g6
 ·have k2':x.kind=2:=by simpa using g6
  apply ws;intros;obtain⟨m0,E',hold⟩:=hk.AN (by decide) x.mask x.torn x.cut;refine LQ G (n:=600) (s:=z.s) (by decide) (by decide) iH hold (by omega) λS' hw N0=>?_;refine nQ ?_;refine fW (by decide) ?_;apply ws;intros;unfold aG.j7;have Q8:uh x S ms CN g S' m0 m0:=.AN k2' m0 E' S' hw;rcases hf with⟨h1,h2,h3⟩|⟨fb,fc,gb,gc,rfl⟩
  ·rw[h1,h3];refine T.pl [3,3,3,1,1] ?_;refine Vn k1 ?_;have e0:m=ms/\mf=CN->m=m0:=λhh=>by
    rcases E' with e|e
    ·rw[e];exact hh.1
    ·rw[e,<-hh.2];exact h2.symm
   refine oU ?_;have e1:∀X,T W (xV w ⟨z.s,z.p,z.p,z.mb,z.mc,z.kb,z.kc⟩ ⟨S',m0,m,m⟩ M) X->T W (ML z.p m z.mb z.mc z.kb z.kc (Sep.pt w (wC z.s z.p z.p)::EU 600 z.s (S',m0)::Sep.pt r1 (yR x)::M)) X:=λX hX=>T.pl [3,3,0,0,0] (T.sub hX (by exact qo));apply dj<;>intro g7
   ·apply ws;intros;refine e1 _ (fin (.inl ⟨rfl,rfl,rfl⟩) k1 k1 Q8 N0 N0 λhh=>⟨rfl,e0 hh,e0 hh⟩)
   ·apply ws;intros;refine e1 _ (fin (.inl ⟨rfl,rfl,rfl⟩) k1 k1 Q8 N0 N0 λhh=>⟨rfl,e0 hh,e0 hh⟩)
  ·refine T.pl [6,6,6,1,1] ?_;refine Vn k2 ?_;refine oU ?_;apply ga<;>intro g7
   ·have e0:=g7.model k2.ground N0;apply ws;intros;refine T.pl [3,3,0,0,0] (T.sub (M:=xV w ⟨z.s,z.pf,z.pf,fb,fc,gb,gc⟩ ⟨S',m0,mf,mf⟩ M) ?_ (by exact qo));exact fin (.inl ⟨rfl,rfl,rfl⟩) k2 k2 Q8 N0 N0 λhh=>⟨rfl,e0,e0⟩
   ·have e0:m=ms/\mf=CN->m=m0:=λhh=>by
     rcases E' with e|e
     ·rw[e];exact hh.1
     ·rw[e,<-hh.2] at g7;exact aQ (sE.refl mf) g7
    apply ws;intros;refine T.pl [3,3,4,4,4] (T.sub (M:=xV w ⟨z.s,z.p,z.p,z.mb,z.mc,z.kb,z.kc⟩ ⟨S',m0,m,m⟩ M) ?_ (by exact qo));exact fin (.inl ⟨rfl,rfl,rfl⟩) k1 k1 Q8 N0 N0 λhh=>⟨rfl,e0 hh,e0 hh⟩
 have k2':x.kind≠2:=by simpa using g6
 apply dj<;>intro g7
 ·have k3':x.kind=3:=by simpa using g7
  apply ws;intros;refine UH (n:=600) (s:=z.s) ?_;apply ws;intros;exact T.drop (fin (z':=z) hf k1 k2 (.arm k3') rS Ct λhh=>⟨rfl,hh.1,hh.2⟩)
 ·have k3':x.kind≠3:=by simpa using g7
  exact T.drop (fin (z':=z) hf k1 k2 (.none nw (λhh=>aQ hh k1') k2' k3') rS Ct λhh=>⟨rfl,hh.1,hh.2⟩)
end
section
variable {W:World} {L R M:LH} {K:VK} {X:WK} {w:Nat} {x:WX} {f:WX->LH} {m:aA} {q:kh}
def acS{z:WZ}{N5:LH}(hf:Fl z.p x.m z.pf x.mf M N5)(k1:RM x.m)(k2:RM x.mf)(h:T W (wd w x::M) X):T W (xV w z x N5) X:=by
 obtain⟨E,hE,rfl⟩:=hf.ZZ;exact T.FL (M:=xV w z x E) (T.Vo (p:=Fl z.p x.m z.pf x.mf [] E/\RM x.m/\RM x.mf) ⟨hE,k1,k2⟩ (T.YE (f:=λy:WZ×LH=>EL (Fl y.1.p x.m y.1.pf x.mf [] y.2/\RM x.m/\RM x.mf) (vW (xV w y.1 x y.2))) (z,E) h))
def UJ:RM je:=RM.Yh GQ px
def uI(G:mY W)(h:∀w,T W (wd w ⟨zG 600,je,je,je⟩::L) (K (.p (ah w)))):T W L (fE K):=by
 unfold fE;refine UF G (n:=600) (by decide) (by decide) λs=>?_;apply ws;intros;rename_i r1 r2;show T W (Sep.pt r2 (wC s r1 r1)::Sep.pt r1 (HA je none 0 none 0)::EU 600 s (zG 600,je)::L) _;refine iB (e:=33) ?_;refine iB (e:=14) ?_;refine T.pl (M:=xV r2 ⟨s,r1,r1,none,0,none,0⟩ ⟨zG 600,je,je,je⟩ L) [2,3,2,0,0] ?_;exact acS (.inl ⟨rfl,rfl,rfl⟩) UJ UJ (h r2)
def Sk(h:T W L (K (.s (bs (dR qT))))):T W L (lG (gX qT s0) K):=by
 unfold lG
 repeat' first|apply ws;intros|apply wb|with_reducible refine IW ?_|fail
 have e1:qT.op=3:=rfl;rw[e1];refine fW (by decide) ?_;refine fW (by decide) ?_;refine mP (by decide) ?_
 repeat' first|apply ws;intros|apply wb|with_reducible refine UQ ?_|fail
 refine dO (by rw[cj,cj,aO,aO];decide) ?_;rw[l7];exact T.drop h
def QG:sh (dR qT)=true/\(iZ (dR qT)).1=qT:=by
 have h1:k9 qT=true:=by decide
 have h2:gJ qT=true:=by decide
 refine⟨DS h1 h2 (λa h=>by cases h) (λa h=>by cases h),?_⟩;rw[C5 h1 h2 (λa h=>by cases h) (λa h=>by cases h)]
 rfl
def wI(G:mY W)(h:T W L (K (.b true))):T W L (dN K):=by
 unfold dN;refine UF G (n:=600) (by decide) (by decide) λs=>?_;apply ws;intros;refine mP (by decide) ?_;have hv0:=KV (n:=600) (by decide) (by decide);have hz0:VZ 600 (zG 600) je 0:=.inl hv0;have Ji:=PR (n:=600) (by decide) (by decide);have iH:=hz0.vok (by decide);have SR:ft (bo je)->Il (fJ 600 je (zG 600)).1:=λhg=>hz0.XE (by decide) (by decide) (by decide) hg px;show T W _ (kn (ah s) (bs []) _);refine LR G (n:=600) (s:=s) (l:=[]) px iH SR (by decide) (by decide) (by decide) λ_ _=>?_;have e0:TH 600 je (zG 600) []=(zG 600,je,td 4 [] [] []):=rfl;rw[e0];refine y7 ?_;refine vn ?_;refine y7 ?_;rw[vh,av rfl];unfold dN.j1;refine wQ ?_;refine dO ⟨rfl,rfl,trivial⟩ ?_;show T W _ (lG (gX qT s0) _);refine Sk ?_;refine y7 ?_;have hlen:(dR qT).length<=924:=C4 (by decide) (by decide);refine LR G (n:=600) (s:=s) px iH SR (by decide) (by decide) (by omega) λ_ eJ=>?_;rcases C1 (l:=dR qT) (KI.wv) (by decide) eJ px (by omega) with⟨c1,_⟩|⟨_,c2,_⟩|⟨c1,c2,S1,c3,c4,c5⟩|⟨c1,c2,S1,c3,c4,c5,c6,c7,c8⟩
 ·have:sX (dR qT)=true:=by unfold sX;rw[QG.1,QG.2];rfl
  rw[this] at c1;cases c1
 ·cases c2
 ·have:=(LU (q:=qT) (m:=je) Ji (by decide) (by decide) (by decide) eJ (by decide)).2 (by decide);rw[QG.2] at c3;rw[c3] at this;cases this
 ·rw[c4,c7,QG.2];have e2:bI je qT=(0,[],je.time 5):=rfl;rw[e2];refine y7 ?_;show T W _ (br (pG (bs (td 0 [] [] [])) (bs [0,0,0,0])) _ _);rw[vh,av (by rfl)];refine wQ ?_;refine xj (n:=600) (s:=s) λp=>?_;refine vf ?_;refine AA (p:=p) ?_;refine nQ ?_;exact T.drop (T.drop h)
end
def JR(x:TS):(yR x).length=6:=rfl
def Im(l:List TS):Prop:=l.length<=maxLen/\∀x∈l,x.b.length<=140737488355328
section
variable {W:World} {L R M:LH} {K:VK} {X:WK} {w:Nat} {x:WX} {f:WX->LH} {m:aA} {q:kh} {sb:OA} {sc:Nat} {l:List TS}
def wx(hr:mZ W [] yR 6 sb l)(tG:Im l)
 (h:∀b:Bool,(b=false->l.length<=60/\∀x∈l,x.b.length<=16384)->T W L (K (.b b))):T W L (gn sb l.length sc K):=by
 obtain⟨hl,tG⟩:=tG;unfold maxLen at hl;unfold gn;intro w jO;refine⟨λvv w=>∃(i:Nat)(n:Int),i<=l.length/\(l.length<=60->n=(((l.take i).map λx=>x.b.length).sum:Nat))/\vv=[.b false,.i n,.l sb l.length sc,.i (l.length:Int),.i (i:Int)]/\St W w L,
  λvs _=>match vs with|[_,_,_,_,.int _ d]=>l.length-d.toNat|_=>0,⟨0,0,aE _,(λ_=>rfl),rfl,jO⟩,?_⟩
 rintro b1 n1 jT jd ku n2 n3 w2 ⟨i,nn,hi,abC,e,hO⟩;cases e
 refine T.at ?_ hO;have hbound:∀j,j<=l.length->l.length<=60->((l.take j).map λx=>x.b.length).sum<=j* 140737488355328:=λj=>by
  induction j with
  |zero=>intro _ _;simp
  |succ j ih=>
   intro hj Pe;have:=ih (by omega) Pe;have gx:=aj (show j<l.length by omega);have hx:=tG _ (bP (show j<l.length by omega));rw[bg,gx,cY,List.sum_append];simp only[Option.toList_some,cW,uS,List.sum_cons,List.sum_nil];omega
 apply ga<;>intro g1
 ·have bX:i<l.length:=by omega
  have e5:=nK i;have gx:=aj bX;have hx:=tG _ (bP bX);have rI:l.take (i+1)=l.take i++[l[i]]:=by rw[bg,gx];rfl
  generalize l[i]=x at gx hx rI;refine iU hr ⟨by omega,by omega⟩ rfl λa ha=>?_;rw[ak];refine jR hr ha gx (JR x) ?_;apply ws;intros;rw[e5];refine T.drop λw3 h3=>⟨⟨i+1,_,bX,λPe=>?_,rfl,h3⟩,by show l.length-((i+1:Nat):Int).toNat<l.length-(i:Int).toNat;omega⟩;have hb:=hbound i (by omega) Pe;rw[abC Pe,rI,cY,List.sum_append,cj];simp only[cW,uS,List.sum_cons,List.sum_nil];rw[aW (by omega)];omega
 ·have jk:i=l.length:=by omega
  subst jk;rw[aS] at abC;apply ga<;>intro g2
  ·exact h true (λhh=>by cases hh)
  ·have Pe:l.length<=60:=by omega
   have hs:=abC Pe;refine h _ (λhh=>⟨Pe,λx hx=>?_⟩);have hh:=bn hh;have:x.b.length<=(l.map λx=>x.b.length).sum:=Qr (List.mem_map_of_mem hx);omega
def FC[i:Lc (wd w) L x f]{F:Bool->WK}(h:T W L (F (decide (sE x.m x.ms)))):T W L (lP ⟨w,1,none⟩ λp=>dT (ah w) p (xB F)):=by
 refine FN (w:=w) λz M R' hf h2 h3 hM=>?_;apply ws;intros;refine T.pl [2,2,2,0,0] ?_;refine Vn h2 ?_;refine oU ?_;refine T.pl (M:=xV w z x R') [3,3,0,0,0] ?_;refine hM z x R' [] _ hf h2 h3 ?_;rw[cw,i.same];exact h
def aaK[i:Lc (wd w) L x f]{F:Bool->WK}(h:T W L (F (decide (sE x.mf x.ms)))):T W L (lP ⟨w,2,none⟩ λp=>dT (ah w) p (xB F)):=by
 refine FN (w:=w) λz M R' hf h2 h3 hM=>?_;apply ws;intros;have fin:T W (xV w z x R') (F (decide (sE x.mf x.ms))):=by
  refine hM z x R' [] _ hf h2 h3 ?_;rw[cw,i.same];exact h
 rcases hf with⟨h1,e2,e3⟩|⟨fb,fc,gb,gc,rfl⟩
 ·rw[h1];rw[e2] at fin;refine T.pl [2,2,2,0,0] ?_;refine Vn h2 ?_;refine oU ?_;exact T.pl (M:=xV w z x R') [3,3,0,0,0] fin
 ·refine T.pl [5,5,5,0,0] ?_;refine Vn h3 ?_;refine oU ?_;exact T.pl [3,3,3,3,3,0,0,0] fin
def Bh(G:mY W){P:Nat->VS->aA->aA->Prop}{B:LI->LM->Bool->OA->OA->Nat->Nat->Int->Int->World->WK}{E:Bool->OA->OA->Nat->Nat->Int->Int->WK}{S0:VS}
 (hl:l.length<=maxLen)(h0:KI 600 S0 je je 0)(hp0:P 0 S0 je je)
 (gM:∀i x,l[i]?=some x->∀S m mf,KI 600 S m mf (3* i)->Md.bK m->Md.bK mf->P i S m mf->∀I μ w2,
  (∀S' m' Am,KI 600 S' m' Am (3* i+3)->Md.bK m'->Md.bK Am->P (i+1) S' m' Am->T W (wd w ⟨S',m',m',Am⟩::L) (ct I μ [.b false,.p (ah w),.l sb l.length sc,.i (l.length:Int),.i (aa.wrap ((i:Int)+1))] [.b false,.p (ah w),.l sb l.length sc,.i (l.length:Int),.i (i:Int)] w2))->
  T W (wd w ⟨S,m,m,mf⟩::L) (B I μ false (ah w) sb l.length sc (l.length:Int) (i:Int) w2))
 (abS:∀S m mf,KI 600 S m mf (3* l.length)->Md.bK m->Md.bK mf->P l.length S m mf->T W (wd w ⟨S,m,m,mf⟩::L) (E false (ah w) sb l.length sc (l.length:Int) (l.length:Int))):
 T W (wd w ⟨S0,je,je,je⟩::L) (lp [.b false,.p (ah w),.l sb l.length sc,.i (l.length:Int),.i 0] λI1 lj=>∀b3 p2 jT jd ku n1 n2 w2,I1 [.b b3,.p p2,.l jT jd ku,.i n1,.i n2] w2->(br (decide (n2<n1)) (B I1 lj b3 p2 jT jd ku n1 n2 w2) (E b3 p2 jT jd ku n1 n2)) w2):=by
 unfold maxLen at hl;obtain⟨I1,hI⟩:∃I1:LI,I1=λvv w'=>∃(i:Nat)(S:VS)(m mf:aA),i<=l.length/\KI 600 S m mf (3* i)/\Md.bK m/\Md.bK mf/\P i S m mf/\vv=[.b false,.p (ah w),.l sb l.length sc,.i (l.length:Int),.i (i:Int)]/\St W w' (wd w ⟨S,m,m,mf⟩::L):=⟨_,rfl⟩;obtain⟨lj,hμ⟩:∃lj:LM,lj=λvs _=>match vs with|[_,_,_,_,.int _ d]=>l.length-d.toNat|_=>0:=⟨_,rfl⟩
 intro w' jO;refine⟨I1,lj,by rw[hI];exact⟨0,S0,je,je,aE _,h0,px,px,hp0,rfl,jO⟩,?_⟩;intro b3 p2 jT jd ku n1 n2 w2 hI2;rw[hI] at hI2;obtain⟨i,S,m,mf,hi,hk,hg,Ct,hp,e,hO⟩:=hI2;cases e
 refine T.at ?_ hO;apply ga<;>intro g1
 ·have bX:i<l.length:=by omega
  have e5:=nK i;refine gM i _ (aj bX) S m mf hk hg Ct hp I1 lj w2 λS' m' Am a1 a2 a3 a4=>?_;rw[e5];refine λw5 h5=>⟨?_,?_⟩
  ·rw[hI];exact⟨i+1,S',m',Am,bX,a1,a2,a3,a4,rfl,h5⟩
  ·rw[hμ];show l.length-((i+1:Nat):Int).toNat<l.length-(i:Int).toNat;omega
 ·have jk:i=l.length:=by omega
  subst jk;exact abS S m mf hk hg Ct hp
def zF(hr:mZ W [] yR 6 sb l)(hl:l.length<=maxLen){i:Nat}{x:TS}(gx:l[i]?=some x){F:Nat->WK}(h:∀r,T W (Sep.pt r (yR x)::L) (F r)):
 T W L (iV sb l.length (i:Int) 6 λa=>aJ a 6 λcs=>mk wP λr=>bA 6 (ad r 0) cs (F r)):=by
 have bX:=(ao.1 gx).1;refine iU hr ⟨by omega,by omega⟩ rfl λa ha=>?_;rw[ak];refine jR hr ha gx (JR x) ?_;refine uH λr=>?_;refine dO (JR x) ?_;exact Z5 (h r)
end
section
variable {W:World} {L R M rest E:LH} {K:VK} {X:WK} {w:Nat} {x:WX} {f:WX->LH} {m:aA} {q:kh} {z:WZ}
def Qf(h:∀z E,Fl z.p x.m z.pf x.mf [] E->RM x.m->RM x.mf->T W (xV w z x (rest++E)) X):T W (wd w x::rest) X:=
 T.ex λy=>T.and λ⟨h1,h2,h3⟩=>T.sps (M:=xV w y.1 x y.2) (T.perm (h y.1 y.2 h1 h2 h3) ((bp (l₁:=y.2) (l₂:=rest)).append_left (xV w y.1 x [])))
def Qg(hf:Fl z.p x.m z.pf x.mf [] E)(k1:RM x.m)(k2:RM x.mf)(h:T W (wd w x::rest) X):T W (xV w z x (rest++E)) X:=
 T.perm (T.FL (M:=xV w z x E) (T.Vo (p:=Fl z.p x.m z.pf x.mf [] E/\RM x.m/\RM x.mf) ⟨hf,k1,k2⟩ (T.YE (f:=λy:WZ×LH=>EL (Fl y.1.p x.m y.1.pf x.mf [] y.2/\RM x.m/\RM x.mf) (vW (xV w y.1 x y.2))) (z,E) h))) ((bp (l₁:=rest) (l₂:=E)).append_left (xV w z x []))
def sC(b:List UInt8):LV:=[.s (bs b)]
def aaY{l:List (List UInt8)}{s:OA}{i:Nat}{x:List UInt8}{a:Addr}[hh:Has R L](hr:mZ W R sC 1 s l)(hs:s=some a)(hx:l[i]?=some x)(h:T W L (K (.s (bs x)))):T W L (ld (a.add (i* 1)) K):=λw hw=>by
 obtain⟨a',ha,hh⟩:=hr w (hh.sub hw) i x hx;rw[hs] at ha;cases ha
 exact Mv (hh 0 _ rfl) (h w hw)
def KI.seq{n:Nat}{S:VS}{m mf:aA}{g:Nat}(h:KI n S m mf g):S.J.seq<=g:=by
 rcases h with⟨⟨_,hd,mb,qs,h2,_⟩,_⟩|h
 ·exact h2.HS
 ·exact h.seq
def uh.rm{y:TS}{S S':VS}{m mf m' Am:aA}{g:Nat}(h:uh y S m mf g S' m' Am)(hr:Rm 600 g S)(hk:KI 600 S m mf g)(hg:g+3<256)(eJ:ft (bo m))(hy:y.kind<2):Rm 600 (g+3) S'/\Am=m':=by
 have EG:=hk.seq;have hs:=hr.dJ;have hm:=(hk.same hs).1;cases h with
 |none _ _ _ _=>exact⟨hr.mono (by omega),hm⟩
 |did hx _ _ e _ _=>
  have:=(LU (q:=y.q) (m:=m) hr (by omega) (by decide) hg eJ (qp hx.2.1)).1;rw[e] at this;exact⟨this,rfl⟩
 |Pj hx _ _ e _=>
  have:=(LU (q:=y.q) (m:=m) hr (by omega) (by decide) hg eJ (qp hx.2.1)).2 hx.2.2;rw[e] at this;cases this
 |saved _ _ _ _=>exact⟨(J7 hr (by decide) (by omega) eJ).2.mono (by omega),hm⟩
 |vk _ _ e _=>
  have:=(J7 (m:=m) hr (by decide) (by omega) eJ).1;rw[e] at this;cases this
 |AN h _ _ _ _=>omega
 |arm h=>omega
end
end Go.Up
namespace Go.Sep
open Go.Den Go.RowKit Go.ChangeShapes Go.WideShapes
inductive NK where
 |c(k:CK)
 |sl(ks:List CK)
def adh(P:Program)(f:TypeId->Option (List NK)):Nat->List Field->Option (List NK)
 |_,[]=>some []
 |o,fd::r=>match f fd.type with
  |some a=>if fd.offset=o/\P.cellsOf fd.type=a.length then(adh P f (o+a.length) r).map (a++·) else none
  |none=>none
def nk(P:Program):Nat->TypeId->Option (List NK)
 |0,_=>none
 |n+1,t=>match P.underlying t with
  |some (.int k)=>some [.c (.i k)]
  |some .bool=>some [.c .b]
  |some (.slice e)=>match flat P n e with
   |some ks=>if P.cellsOf e=ks.length/\0<P.bytesOf e then some [.sl ks] else none
   |none=>none
  |some (.struct fs)=>adh P (nk P n) 0 fs.toList
  |_=>none
section
variable {H:Type} {enc:TypeId×Value->H} {P:Program} {w:World} {base:Nat} {spare:Nat->Bool} {held:Bool}
end
end Go.Sep
namespace Go.Up
open Go.Sep Go.Den Go.RowKit Go.Prog Go.Md Go.cF
section
variable {xs:LV} {o j:Nat}
end
def ac9{α:Type}{W:World}{b:OA}{n e:Nat}{xs:LV}{g:α->LV}{l:List α}(hr:Ro W b n e xs)(hn:l.length=n)(hg:∀a,(g a).length=e)
 (hx:∀i a,l[i]?=some a->∀j,j<e->xs[i* e+j]?=(g a)[j]?):mZ W [] g e b l:=λw hw i x hi=>by
 have bX:=(ao.1 hi).1;cases b with
 |none=>have:=hr.2.1 rfl;omega
 |some a=>
  refine⟨a,rfl,λj v hv=>?_⟩;have hj:j<e:=by rw[<-hg x];exact(ao.1 hv).1
  rw[add_add];exact hr.cell rfl hw (by rw[hx i x hi j hj];exact hv)
def M'{α:Type}{W:World}{b:OA}{n e:Nat}{xs:LV}{g:α->LV}{P:α->Prop}(hg:∀x,(g x).length=e)(hr:Ro W b n e xs)(he:∀i,i<n->∃x,P x/\∀j,j<e->xs[i* e+j]?=(g x)[j]?):∃l:List α,l.length=n/\mZ W [] g e b l/\∀x∈l,P x:=by
 have key:∀m,m<=n->∃l:List α,l.length=m/\(∀i x,l[i]?=some x->∀j,j<e->xs[i* e+j]?=(g x)[j]?)/\∀x∈l,P x:=by
  intro m
  induction m with
  |zero=>exact λ_=>⟨[],rfl,λi x h=>by simp at h,by simp⟩
  |succ m ih=>
   intro hm;obtain⟨l,h1,h2,h3⟩:=ih (by omega);obtain⟨x,hx,hc⟩:=he m (by omega);refine⟨l++[x],by simp[h1],λi y hi=>?_,λy hy=>?_⟩
   ·by_cases bX:i<l.length
    ·rw[bh bX] at hi;exact h2 i y hi
    ·rw[iW (by omega)] at hi;have e:i=m:=by
      have:=(ao.1 hi).1;simp at this;omega
     subst e;rw[h1,mg] at hi;cases hi
     exact hc
   ·rcases dF.1 hy with h|h
    ·exact h3 y h
    ·simp at h;subst h;exact hx
 obtain⟨l,h1,h2,h3⟩:=key n (aH n);exact⟨l,h1,ac9 hr h1 hg h2,h3⟩
abbrev XK:List CK:=[.i .i64,.s,.i .u64,.i .i64,.i .i64,.i .i64]
def Z2{W:World}{b:OA}{n:Nat}{xs:LV}(hr:Ro W b n 6 xs)(he:y5 XK n xs)(hm:n<=maxLen):∃l:List TS,n=l.length/\mZ W [] yR 6 b l/\Im l:=by
 have Lg:reachBytes<=140737488355328:=by decide
 obtain⟨l,h1,h2,h3⟩:=M' (g:=yR) (P:=λx=>x.b.length<=140737488355328) (λ_=>rfl) hr λi hi=>by
  have h:=he i hi;obtain⟨_,q0,n0,rfl,_⟩:=h 0 _ rfl;obtain⟨_,q1,n1,rfl,hs⟩:=h 1 _ rfl;obtain⟨_,q2,n2,rfl,_⟩:=h 2 _ rfl;obtain⟨_,q3,n3,rfl,_⟩:=h 3 _ rfl;obtain⟨_,q4,n4,rfl,_⟩:=h 4 _ rfl;obtain⟨_,q5,n5,rfl,_⟩:=h 5 _ rfl;refine⟨⟨n0,n1.data.toList,n2,n3,n4,n5⟩,AD hs Lg,λj hj=>?_⟩
  match j,hj with
  |0,_=>exact q0
  |1,_=>exact q1
  |2,_=>exact q2
  |3,_=>exact q3
  |4,_=>exact q4
  |5,_=>exact q5
  |j+6,h=>exact aQ h (by omega)
 exact⟨l,h1.symm,h2,by rw[h1];exact hm,h3⟩
def scs{W:World}{b:OA}{n:Nat}{xs:LV}(hr:Ro W b n 1 xs)(he:y5 [.s] n xs):∃l:List (List UInt8),n=l.length/\mZ W [] sC 1 b l:=by
 obtain⟨l,h1,h2,h3⟩:=M' (g:=sC) (P:=λ_=>True) (λ_=>rfl) hr λi hi=>by
  have h:=he i hi;obtain⟨_,q0,n0,rfl,_⟩:=h 0 _ rfl;refine⟨n0.data.toList,trivial,λj hj=>?_⟩
  match j,hj with
  |0,_=>exact q0
  |j+1,h=>exact aQ h (by simp)
 exact⟨l,h1.symm,h2⟩
end Go.Up
namespace Go.Den
inductive Kd
 |i(k:IntKind)|b|s|p|q|l|g|v
abbrev Fu:List Kd->Type
 |[]=>VK->WK
 | .i _::r=>Int->Fu r
 | .b::r=>Bool->Fu r
 | .s::r=>BA->Fu r
 | .p::r=>OA->Fu r
 | .q::r=>Addr->Fu r
 | .l::r=>OA->Nat->Nat->Fu r
 | .g::r=>LV->Fu r
 | .v::r=>Value->Fu r
abbrev Kd.n:Kd:=.i .i64
abbrev vi:Value:=.i 0
abbrev vu:Value:=.u 0
abbrev vp:Value:=.p none
abbrev vq:Value:=.p (some ⟨0,0,none⟩)
abbrev vl:Value:=.l none 0 0
abbrev vb:Value:=.bool false
def U:(k:List Kd)->Fu k->WP
 |[],F=>λa K=>match a with|[]=>F K|_=>no
 | .i t::r,F=>λa K=>match a with| .int t' n::a=>if t'=t then U r (F n) a K else no|_=>no
 | .b::r,F=>λa K=>match a with| .bool x::a=>U r (F x) a K|_=>no
 | .s::r,F=>λa K=>match a with| .string x::a=>U r (F x) a K|_=>no
 | .p::r,F=>λa K=>match a with| .pointer x::a=>U r (F x) a K|_=>no
 | .q::r,F=>λa K=>match a with| .pointer (some x)::a=>U r (F x) a K|_=>no
 | .l::r,F=>λa K=>match a with| .slice x n c::a=>U r (F x n c) a K|_=>no
 | .g::r,F=>λa K=>match a with| .agg ⟨x⟩::a=>U r (F x) a K|_=>no
 | .v::r,F=>λa K=>match a with|x::a=>U r (F x) a K|_=>no
def cur:(k:List Kd)->WP->Fu k
 |[],B=>B []
 | .i t::r,B=>λn=>cur r λa=>B (.int t n::a)
 | .b::r,B=>λx=>cur r λa=>B (.bool x::a)
 | .s::r,B=>λx=>cur r λa=>B (.string x::a)
 | .p::r,B=>λx=>cur r λa=>B (.p x::a)
 | .q::r,B=>λx=>cur r λa=>B (.p (some x)::a)
 | .l::r,B=>λx n c=>cur r λa=>B (.l x n c::a)
 | .g::r,B=>λx=>cur r λa=>B (.agg ⟨x⟩::a)
 | .v::r,B=>λx=>cur r λa=>B (x::a)
def CI:∀(k:List Kd)(B:WP) {a:LV} {K:VK} {w:World},U k (cur k B) a K w->a.length=k.length/\B a K w
 |[],B,a,K,w,h=>by
  unfold U at h;split at h
  ·exact⟨rfl,h⟩
  ·exact h.elim
 | .i t::r,B,a,K,w,h=>by
   unfold U at h;split at h
   ·split at h
    ·rename_i e;subst e;obtain⟨h1,h2⟩:=CI r _ h;exact⟨by rw[bE,h1];rfl,h2⟩
    ·exact h.elim
   ·exact h.elim
 | .b::r,B,a,K,w,h=>by
   unfold U at h;split at h
   ·obtain⟨h1,h2⟩:=CI r _ h;exact⟨by rw[bE,h1];rfl,h2⟩
   ·exact h.elim
 | .s::r,B,a,K,w,h=>by
   unfold U at h;split at h
   ·obtain⟨h1,h2⟩:=CI r _ h;exact⟨by rw[bE,h1];rfl,h2⟩
   ·exact h.elim
 | .p::r,B,a,K,w,h=>by
   unfold U at h;split at h
   ·obtain⟨h1,h2⟩:=CI r _ h;exact⟨by rw[bE,h1];rfl,h2⟩
   ·exact h.elim
 | .q::r,B,a,K,w,h=>by
   unfold U at h;split at h
   ·obtain⟨h1,h2⟩:=CI r _ h;exact⟨by rw[bE,h1];rfl,h2⟩
   ·exact h.elim
 | .l::r,B,a,K,w,h=>by
   unfold U at h;split at h
   ·obtain⟨h1,h2⟩:=CI r _ h;exact⟨by rw[bE,h1];rfl,h2⟩
   ·exact h.elim
 | .g::r,B,a,K,w,h=>by
   unfold U at h;split at h
   ·obtain⟨h1,h2⟩:=CI r _ h;exact⟨by rw[bE,h1];rfl,h2⟩
   ·exact h.elim
 | .v::r,B,a,K,w,h=>by
   unfold U at h;split at h
   ·obtain⟨h1,h2⟩:=CI r _ h;exact⟨by rw[bE,h1];rfl,h2⟩
   ·exact h.elim
def DD(FF:Fence):Prop:=FF=Fence.wide\/∃l,FF=Fence.wide.inRound l
def DD.fn{FF:Fence}(h:DD FF)(f:FuncId):FF.fn f:=by rcases h with rfl|⟨l,rfl⟩<;>exact trivial
def DD.depth{FF:Fence}(h:DD FF):FF.depth=none:=by rcases h with rfl|⟨l,rfl⟩<;>rfl
def DD.calls{FF:Fence}(h:DD FF){n:Nat}{P:Program}{f:FuncId}{args:Array Value}{w:World}{R:Ending->World->Prop}(hc:Calls P f args w R):CallsIn FF n P f args w R:=by
 rcases h with rfl|⟨l,rfl⟩
 ·exact callsIn_wide.2 hc
 ·exact CallsIn.inRound l (callsIn_wide.2 hc)
def S3(F:Fn)(ds:List Deferred)(e:Env)(a:Act):Prop:=S2 F e {a with defers:=[]}/\a.defers=ds
def QI(F:Fn)(ds:List Deferred)(Q:Exit->Env->WK):Exit->Act->World->Prop:=λex a w=>(∃e,S3 F ds e a/\Q ex e w)/\∀c,ex≠.panic c
def S3.get{F:Fn}{ds:List Deferred}{e:Env}{a:Act}(h:S3 F ds e a){t:Nat}{v:Value}(hl:lk e t=some v):a.tmps[t]?=some v:=h.1.1.get t v hl
def S3.eval{F:Fn}{ds:List Deferred}{e:Env}{a:Act}(h:S3 F ds e a){x:Operand}{v:Value}(hx:ev e x=some v):a.eval x=v:=h.1.1.eval hx
def S3.nil{F:Fn}{ds:List Deferred}{e:Env}{a:Act}(h:S3 F ds e a):S3 F ds [] a:=⟨⟨⟨h.1.1.size,rfl,λt v hl=>by simp[lk] at hl⟩,h.1.2⟩,h.2⟩
def S3.cons{F:Fn}{ds:List Deferred}{e:Env}{a:Act}{t:Nat}{v:Value}(hv:a.tmps[t]?=some v)(h:S3 F ds e a):S3 F ds ((t,v)::e) a:=
 ⟨⟨⟨h.1.1.size,rfl,λs u hl=>by
   rw[yn] at hl
   split at hl
   ·rename_i OX;subst OX;cases hl;exact hv
   ·exact h.1.1.get s u hl⟩,h.1.2⟩,h.2⟩
def S3.start{F:Fn}{a:Act}(hC:F.C=[])(hn:a.tmps.size=F.n):S3 F a.defers [] a:=
 ⟨⟨⟨hn,rfl,λt v hl=>by simp[lk] at hl⟩,⟨hn,rfl,λt v hl=>by rw[hC] at hl;simp[lk] at hl⟩⟩,rfl⟩
def UW{F:Fn}{ds:List Deferred}{w:World}{e:Env}{a:Act}{d:Option Tmp}{v:Value}{K:Env->WK}(hs:S3 F ds e a)(h:pt F.n F.C e d v K w):∃e',S3 F ds e' (a.put d v)/\K e' w:=by
 obtain⟨e',h1,h2⟩:=vo (a:={a with defers:=[]}) hs.1 h;refine⟨e',⟨?_,?_⟩,h2⟩
 ·cases d<;>exact h1
 ·cases d<;>exact hs.2
def S3.put{F:Fn}{ds:List Deferred}{e:Env}{a:Act}{t:Tmp}{v:Value}(w:World)(hs:S3 F ds e a)(ht:(Nat.blt t F.n&&cover F.C t)=true):S3 F ds ((t,v)::e) (a.put (some t) v):=by
 obtain⟨e',h1,h2⟩:=UW (d:=some t) (v:=v) (K:=λe' _=>e'=(t,v)::e) (w:=w) hs (by simp only[pt,ht,cond_true]);subst h2;exact h1
def VR{F:Fn}{ds:List Deferred}{w:World}{e:Env}{a:Act}{ops:Array Oper}{o:Oper}{run skip:Env->WK}{X:Prop}(hs:S3 F ds e a)(h:guarded ops o e run skip w)
 (hr:∀e',S3 F ds e' a->Region.wanted o (yielded ops a.tmps)=true->run e' w->X)
 (hk:∀e',S3 F ds e' a->Region.wanted o (yielded ops a.tmps)=false->skip e' w->X):X:=
 tH (a:={a with defers:=[]}) hs.1 h (λe' h1=>hr e' ⟨h1,hs.2⟩) (λe' h1=>hk e' ⟨h1,hs.2⟩)
def S3.zip{F:Fn}{ds:List Deferred}{e:Env}{a:Act}(hs:S3 F ds e a){l:List (Nat×Value)}{vs:LV}(h:xh e l=some vs):S3 F ds (BO l vs F.C) a:=⟨S2.zip (a:={a with defers:=[]}) hs.1 h,hs.2⟩
section
variable {F:Fn} {ds:List Deferred} {P:Program} {w:World} {e:Env} {a:Act} {ops:Array Oper} {FF:Fence} {n:Nat}
def To.Yp{o:Oper}{K:VK}(h:To P (execOp a.eval o) w K):∀c,o.op≠.defer c:=by
 intro c hc;have key:∀r,(execOp a.eval o).run P w=.ok r w->True:=λ_ _=>trivial;have hx:execOp a.eval o=(do pure (.defer (<-resolve a.eval c o.type))):=by simp only[execOp,hc]
 rw[hx] at h;unfold To at h;simp only[Sem.run_bind] at h;cases hr:(resolve a.eval c o.type).run P w with
 |ok d w1=>simp[hr,Result.andThen,Sem.run_pure] at h
 |halt x w1=>simp[hr,Result.andThen] at h
def N9(hW:DD FF){o:Oper}{K:VK}{next:Act->World->Prop}{Q:Exit->Act->World->Prop}(h:To P (execOp a.eval o) w K)(hk:∀v w',K v w'->next (a.put o.dst v) w'):o.wpIn FF n P a w next Q:=by
 refine⟨λf _=>hW.fn f,?_⟩;rw[Oper.semAt_eq _ _ _ h.Yp];rcases h with⟨v,w',hr,h⟩|⟨w',hr,h⟩|⟨g,args,w',hr,h⟩
 ·rw[hr];exact hk _ _ h
 ·rw[hr];exact hk _ _ h
 ·rw[hr];refine⟨λhd=>(by rw[hW.depth] at hd;cases hd),?_⟩;refine CallsIn.mono (hW.calls h) λe w'' ⟨v,he,hv⟩=>?_;subst he;exact hk _ _ hv
def C0(hW:DD FF)(hF:Ok F){Q:Exit->Act->World->Prop}{K:Env->WK}{tail:List Nat}(hK:∀e a w,S3 F ds e a->K e w->wpOpsIn FF n F.P ops Q tail a w):
 ∀(l:List Nat)(os:List Oper)(e:Env)(a:Act)(w:World),l.length=os.length->(∀k i:Nat,l[k]?=some i->ops[i]?=os[k]?)->S3 F ds e a->zx F ops os K e w->wpOpsIn FF n F.P ops Q (l++tail) a w
 |[],[],e,a,w,_,_,hs,h=>hK e a w hs h
 |[],_::_,_,_,_,hl,_,_,_=>by simp at hl
 |_::_,[],_,_,_,hl,_,_,_=>by simp at hl
 |i::l,o::os,e,a,w,hl,hi,hs,h=>by
  have hio:ops[i]?=some o:=hi 0 i rfl;have rest:=λe a w=>C0 hW hF hK l os e a w (by simpa using hl) (λ(k j:Nat)(hk:l[k]?=some j)=>hi (k+1) j (by simpa using hk));rw[lV,wpOpsIn_cons];unfold wpOpIn;simp only[hio];refine VR (F:=F) hs (AP h) (λe' fM hw hr=>?_) (λe' fM hw hr=>?_)
  ·rw[ai hw];refine N9 (a:=a) hW (Gu (a:={a with defers:=[]}) hF.eqs hF.IC fM.1.1 hr) λv w' hv=>?_;obtain⟨V8,ze,hk⟩:=UW fM hv;exact rest _ _ _ ze hk
  ·rw[ag (by rw[hw];exact cN)];refine⟨λf _=>hW.fn f,?_⟩;obtain⟨V8,ze,hk⟩:=UW fM hr;exact rest _ _ _ ze hk
def IK(hW:DD FF)(hF:Ok F){id:Nat}{Q:Exit->Act->World->Prop}{K:Env->WK}(k:Nat)(hk:k<=ops.size)(hs:S3 F ds e a)
 (h:zx F ops (ops.toList.take k) K e w)(hK:∀e a w,S3 F ds e a->K e w->wpOpsIn FF n F.P ops Q (List.range' k (ops.size-k)) a w):(Code.region id ops false).wpIn FF n F.P Q a w:=by
 refine wpIn_region ?_;have e1:pZ ops.size=List.range' 0 k++List.range' k (ops.size-k):=by
  rw[List.range_eq_range'];have:=List.range'_append_1 (s:=0) (m:=k) (n:=ops.size-k);rw[aC] at this;rw[this];congr 1;omega
 rw[e1];refine C0 hW hF hK _ (ops.toList.take k) e a w (by simp;omega) (λj i hj=>?_) hs h;have NW:j<k:=by have:=(ao.1 hj).1;simpa using this
 rw[List.getElem?_range'] at hj
 ·cases hj
  rw[sH,ai NW];simp
 ·exact NW
def XN(hW:DD FF)(hF:Ok F){Q:Exit->Act->World->Prop}{K:Env->WK}(k:Nat)(hk:k<=ops.size)(hs:S3 F ds e a)
 (h:zx F ops (ops.toList.drop k) K e w)(hK:∀e a w,S3 F ds e a->K e w->Q .normal a w):wpOpsIn FF n F.P ops Q (List.range' k (ops.size-k)) a w:=by
 have:=C0 (FF:=FF) (n:=n) (Q:=Q) (tail:=[]) hW hF (λe a w hs hk=>hK e a w hs hk) (List.range' k (ops.size-k)) (ops.toList.drop k) e a w (by simp) (λj i hj=>?_) hs h
 ·simpa using this
 ·have NW:j<ops.size-k:=by have:=(ao.1 hj).1;simpa using this
  rw[List.getElem?_range'] at hj
  ·cases hj
   rw[sJ];simp
  ·exact NW
def drawn:Code->Bool
 | .region _ _ d=>d
 | .seq x y=>drawn x||drawn y
 | .cond _ x y=>drawn x||drawn y
 | .block _ c=>drawn c
 | .loop c=>drawn c
 |_=>false
def aci(hW:DD FF)(hF:Ok F):∀(c:Code)(Q:Exit->Env->WK)(e:Env)(a:Act)(w:World),drawn c=false->S3 F ds e a->den F c Q e w->c.wpIn FF n F.P (QI F ds Q) a w:=by
 intro c
 induction c with
 |skip=>intro Q e a w _ hs h;exact wpIn_skip ⟨⟨e,hs,h⟩,by simp⟩
 |ret=>intro Q e a w _ hs h;exact wpIn_ret ⟨⟨e,hs,h⟩,by simp⟩
 |exit i=>intro Q e a w _ hs h;exact wpIn_exit ⟨⟨e,hs,h⟩,by simp⟩
 |seq x y ihx ihy=>
  intro Q e a w hd hs h;simp only[drawn,Bool.or_eq_false_iff] at hd;refine wpIn_seq (wpIn_mono (ihx _ e a w hd.1 hs h) ?_);rintro ex a' w' ⟨⟨e',fM,hq⟩,hp⟩;cases ex<;>simp only[RY] at hq
  case normal=>exact ihy Q e' a' w' hd.2 fM hq
  all_goals exact⟨⟨e',fM,hq⟩,hp⟩
 |cond x c1 c2 ih1 Xj=>
  intro Q e a w hd hs h;simp only[drawn,Bool.or_eq_false_iff] at hd;simp only[den] at h;cases hx:ev e x with
  |none=>simp only[hx,no] at h
  |some v=>
   cases v<;>simp only[hx,no] at h
   rename_i b;cases b with
   |true=>exact wpIn_cond_true (hs.eval hx) (ih1 Q e a w hd.1 hs h)
   |false=>exact wpIn_cond_false (hs.eval hx) (Xj Q e a w hd.2 hs h)
 |block i c ih=>
  intro Q e a w hd hs h;refine wpIn_block (wpIn_mono (ih _ e a w hd hs h) ?_);rintro ex a' w' ⟨⟨e',fM,hq⟩,hp⟩;cases ex<;>simp only[PE] at hq
  case exit j=>
   simp only[Exit.inBlock];cases hb:iJ j i with
   |true=>rw[ai (fa hb)];simp only[hb,cond_true] at hq;exact⟨⟨e',fM,hq⟩,by simp⟩
   |false=>
    have kN:j≠i:=λh=>by simp[h] at hb
    rw[ag kN];simp only[hb,cond_false] at hq;exact⟨⟨e',fM,hq⟩,by simp⟩
  all_goals exact⟨⟨e',fM,hq⟩,hp⟩
 |loop c ih=>
  intro Q e a w hd hs h;simp only[den] at h;cases hl:RE F.KR (key c) with
  |none=>simp only[hl,no] at h
  |some l=>
   simp only[hl] at h;cases hv:xh e l with
   |none=>simp only[hv,no] at h
   |some vs=>
    simp only[hv] at h;obtain⟨I,μ,h0,OZ⟩:=h;have Vt:=(oo hs.1.1 hv).2.1;refine wpIn_loop (λa w=>S3 F ds (BO l (l.map λp=>a.tmps.getD p.1 undef) F.C) a/\I (l.map λp=>a.tmps.getD p.1 undef) w/\∀f,Hh (l.map (·.2)) f->f (l.map λp=>a.tmps.getD p.1 undef))
     (λa w=>μ (l.map λp=>a.tmps.getD p.1 undef) w) ?_ ?_
    ·rw[<-Vt];exact⟨hs.zip hv,h0,(oo hs.1.1 hv).2.2⟩
    ·intro a1 w1 ⟨BL,hI1,fG⟩;have hr:=fG _ OZ w1 hI1;refine wpIn_mono (ih _ _ a1 w1 hd BL hr) ?_;rintro ex a' w' ⟨⟨e',fM,hq⟩,hp⟩;cases ex<;>simp only[RY] at hq
     case normal=>
      simp only[Vj] at hq;cases D7:xh e' l with
      |none=>simp only[D7,no] at hq
      |some HJ=>
       simp only[D7] at hq;have O0:=(oo fM.1.1 D7).2.1;simp only[Exit.then];rw[<-O0];exact⟨⟨fM.zip D7,hq.1,(oo fM.1.1 D7).2.2⟩,hq.2⟩
     all_goals exact⟨⟨e',fM,hq⟩,hp⟩
 |region id ops draw=>
  intro Q e a w hd hs h;simp only[drawn] at hd;subst hd;simp only[den,cond_false] at h;refine IK hW hF ops.size (aH _) (K:=λe w=>Q .normal e w) hs (by rw[bS (by simp)];exact h) (λe a w hs hk=>?_);rw[mg];exact⟨⟨e,hs,hk⟩,by simp⟩
 |_=>intro Q e a w _ hs h;exact h.elim
def EY(hW:DD FF)(hF:Ok F){c:Code}{Q:Exit->Act->World->Prop}(hd:drawn c=false)(hs:S3 F ds e a)
 (h:den F c (λex e w=>∀a,S3 F ds e a->Q ex a w) e w):c.wpIn FF n F.P Q a w:=
 wpIn_mono (aci hW hF c _ e a w hd hs h) (by rintro ex a' w' ⟨⟨e',fM,hq⟩,-⟩;exact hq a' fM)
def A6(hW:DD FF)(hF:Ok F){x y:Code}{Q:Exit->Act->World->Prop}(hd:drawn x=false)(hs:S3 F ds e a)
 (h:den F x (λex e w=>∀a,S3 F ds e a->Exit.then (y.wpIn FF n F.P Q) Q ex a w) e w):(x.seq y).wpIn FF n F.P Q a w:=
 wpIn_seq (EY hW hF hd hs h)
end
def GS:Code->Code| .seq x _=>x|c=>c
def y8:Code->Code| .seq _ y=>y|c=>c
def inC:Code->Code| .block _ c=>c| .loop c=>c|c=>c
def ah':Code->Code| .rangeFunc _ _ a _=>a|c=>c
def ah6:Code->Code| .rangeFunc _ _ _ b=>b|c=>c
def Gq:Code->Array Oper| .region _ ops _=>ops|_=>#[]
end Go.Den
