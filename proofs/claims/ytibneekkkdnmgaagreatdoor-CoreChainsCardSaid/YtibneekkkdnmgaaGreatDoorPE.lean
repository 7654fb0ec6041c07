/- Part of the proof: see the last text. -/
import Derived.Test.YtibneekkkdnmgaaGreatDoorPD
import Derived.Test.YtibneekkkdnmgaaGreatDoorPB
import Derived.Test.YtibneekkkdnmgaaGreatDoorPA
import Derived.RangeFuncRecord
import Derived.RangeFuncCalls
import Derived.OrdersIn
import Derived.TacticsIn
import Derived.RangeFuncOwn
import Derived.Test.YtibneekkkdnmgaaGreatDoorPC
import Derived.Test.YtibneekkkdnmgaaGreatDoorProg
set_option linter.all false
set_option maxRecDepth 100000
set_option synthInstance.maxSize 100000
open Bool renaming eq_iff_iff→bZ,false_eq_true→cG,false_ne_true→cJ,and_eq_true→dh,true_and→dI,false_and→fK
open Decidable renaming not_not→bp
open Go.IntKind renaming i64→aa
open Int renaming toNat_natCast→ak,tmod_eq_emod_of_nonneg→dB,fdiv_eq_ediv_of_nonneg→GI,eq_ofNat_of_zero_le→bw,le_refl→sS
open List renaming getElem?_eq_getElem→aj,getElem?_eq_some_iff→av,take_length→aV,take_add_one→ba,perm_append_comm→bt,append_nil→bO,getElem_mem→cb,map_append→cU,length_append→au,length_cons→aW,length_nil→cK,Perm→bX,nil_append→cT,mem_of_getElem?→cn,mem_or_eq_of_mem_set→fm,length_set→iH,length_take→aC,append_assoc→aH,length_drop→aR,Sublist→bl,length_map→bY,map_cons→dA,mem_cons_of_mem→fJ,drop_eq_getElem_cons→gZ,getElem?_append_right→iJ,drop_zero→iK,mem_cons→jX,take_zero→og,mem_cons_self→pL,length_singleton→pT,drop_length→Hc,mem_map→dF,mem_append→dY,find?_eq_none→pM,set_set→jC,getElem?_cons_succ→bT,getElem?_append_left→cO,take_of_length_le→bG,getElem?_set→cW,take_append_drop→dk,drop_of_length_le→fB,drop_drop→iL,getElem?_drop→lC,getElem?_of_mem→qB,take_take→xV,flatMap_cons→iP,filter_cons_of_pos→lF,filter_cons_of_neg→lG,flatMap_append→gi,getElem?_map→dU,getElem?_range→q8,map_congr_left→mI,map_map→um,perm_middle→iI,mem_filter→AQ,map_nil→uk,ext_getElem?→oz,cons_append→lH,range→pK,getElem?_take→sj
open Nat renaming zero_le→aE,zero_add→aD,le_refl→aF,min_eq_left→nA,pow_succ→zx,add_zero→gK,pow_le_pow_right→gM,mul_le_mul_right→iw,sub_self→jS,add_mul→mn,mul_comm→vK,le_trans→zy,mod_eq_of_lt→fD,add_sub_cancel_left→M1,lt_of_le_of_lt→qk,eq_of_beq_eq_true→eH,beq→ix
open Option renaming map_some→fF,some→bE
namespace Go.Up
open Go.Sep Go.Den Go.RowKit Go.Prog Go.Md Go.cH
def MC(a:bN):Prop:=a.dp<bJ/\a.dq<bJ/\a.cp<bJ/\a.cq<bJ/\0<=a.ao/\a.ao<1000000
def RkK(k:cr):Prop:=k.move.aT<bJ/\0<=k.move.ao/\k.move.ao<1000000
def Gq(a b:Nat):add a b<bJ:=by
 unfold add;split
 ·assumption
 ·unfold bJ;decide
def WN{a:bN}{k:cr}(h:MC a):MC (xg a k):=by
 obtain⟨h1,h2,h3,h4,h5,h6⟩:=h;refine⟨?_,?_,?_,?_,?_,?_⟩
 ·show(if _ then _ else _)<bJ;split;exact Gq _ _;exact h1
 ·show(if _ then _ else _)<bJ;split;exact Gq _ _;exact h2
 ·show(if _ then _ else _)<bJ;split;exact Gq _ _;exact h3
 ·show(if _ then _ else _)<bJ;split;exact Gq _ _;exact h4
 ·show 0<=(if kF a.id k then a.ao%8+8 else a.ao);split<;>omega
 ·show(if kF a.id k then a.ao%8+8 else a.ao)<1000000;split<;>omega
def KT{a:bN}(l:List cr)(h:MC a):MC (l.foldl xg a):=by
 induction l generalizing a with
 |nil=>exact h
 |cons k l ih=>exact ih (WN h)
section
variable {W w2:World} {L R:LH} {K:VK} {r2 r3 r4 p:Nat} {a:bN} {k:cr} {m:aA} {mb kb:OA} {mc kc:Nat} {I1:LV->World->Prop} {μ1:LV->World->Nat} {a4:Addr} {sr:OA} {oD sq:Nat} {n2 n3:Int}
def abW{b1:Bool}(ha:MC a)(hk:RkK k)(hb:b1=decide (lK k))
 (h:T W (Sep.pt r4 (aM k.move)::Sep.pt r3 (bM k)::Sep.pt r2 (aO (xg a k))::L) (CR I1 μ1 w2 a4 (ad r2 0) sr oD sq n2 n3)):
 T W (Sep.pt r4 (aM k.move)::Sep.pt r3 (bM k)::Sep.pt r2 (aO a)::L) (ar.j1 K r4 (ad r2 0) r3 I1 a4 sr oD sq n2 n3 μ1 w2 b1):=by
 obtain⟨h1,h2,h3,h4,h5,h6⟩:=ha;obtain⟨k1,k2,k3⟩:=hk;have e:∀(P:Prop) [Decidable P](x y:Nat),(if b1=true/\P then x else y)=if lK k/\P then x else y:=λP _ x y=>by
  subst hb;by_cases hc:lK k
  ·by_cases hp:P
   ·rw[ai ⟨aw hc,hp⟩,ai ⟨hc,hp⟩]
   ·rw[af (λhh=>hp hh.2),af (λhh=>hp hh.2)]
  ·rw[af (λhh=>hc (aS hh.1)),af (λhh=>hc hh.1)]
 refine ah' h2 k1 ?_;refine ah8 h4 k1 ?_;refine ah6 h1 k1 ?_;refine ah4 h3 k1 ?_;refine ah2 (show 0<=a.ao/\a.ao<1000000 from⟨h5,h6⟩) ⟨k2,k3⟩ ?_;rw[e,e];exact h
def DW{i:Nat}(hn:m.ax.length<1000000)(hx:m.dj[i]?=some a)(ha:MC a)(hk:∀k∈m.ax,RkK k)
 (h:T W (ML p m mb mc kb kc R) (K (.agg ⟨aO (m.ax.foldl xg a)⟩))):T W (ML p m mb mc kb kc R) (ar (ah p) (i:Int) K):=by
 unfold ar;have Rs:=(av.1 hx).1;apply ws;intros;rename_i r1;refine dT (b:=mb) ⟨by omega,by omega⟩ λrb hb=>?_;rw[ak];subst hb;apply ij jR hx;apply ws;intros;rename_i r2;intro w jo;refine⟨λvv w=>∃j:Nat,j<=m.ax.length/\vv=[.p (some (ad r1 0)),.p (some (ad r2 0)),.l kb m.ax.length kc,.i (m.ax.length:Int),.i (j:Int)]/\St W w (Sep.pt r2 (aO ((m.ax.take j).foldl xg a))::Sep.pt r1 (aO zA)::ML p m (ah rb) mc kb kc R),
  mq 4 m.ax.length,⟨0,aE _,rfl,jo⟩,?_⟩
 rintro a4 a5 sr oD sq n2 n3 w2 ⟨j,hj,e,gI⟩;cases e
 refine T.at ?_ gI;have e5:=m9 j;apply fZ<;>intro g1
 ·have cj:j<m.ax.length:=by omega
  have gx:=aj cj;have T8:=hk _ (cb cj);generalize m.ax[j]=x at gx T8;refine dT (b:=kb) ⟨by omega,by omega⟩ λrk wE=>?_;rw[ak];subst wE;apply ij jy gx;apply ws;intros;rename_i r3 r4;have afy:=KT (m.ax.take j) ha;have gA:(m.ax.take (j+1)).foldl xg a=xg ((m.ax.take j).foldl xg a) x:=by rw[ba,gx,List.foldl_append];rfl
  have fin:∀b1:Bool,b1=decide (lK x)->T W (Sep.pt r4 (aM x.move)::Sep.pt r3 (bM x)::Sep.pt r2 (aO ((m.ax.take j).foldl xg a))::Sep.pt r1 (aO zA)::ML p m (ah rb) mc (ah rk) kc R)
   (ar.j1 K r4 (ad r2 0) r3 (λvv w=>∃j:Nat,j<=m.ax.length/\vv=[.p (some (ad r1 0)),.p (some (ad r2 0)),.l (ah rk) m.ax.length kc,.i (m.ax.length:Int),.i (j:Int)]/\St W w (Sep.pt r2 (aO ((m.ax.take j).foldl xg a))::Sep.pt r1 (aO zA)::ML p m (ah rb) mc (ah rk) kc R)) (ad r1 0) (ah rk) m.ax.length kc (m.ax.length:Int) (j:Int) (mq 4 m.ax.length) w2 b1):=λb1 V1=>by
   apply abW afy T8 V1;unfold CR;rw[e5];refine T.drop (T.drop λw3 h3=>⟨⟨j+1,cj,rfl,by rw[gA];exact h3⟩,dn (by omega)⟩)
  apply lj ⟨T8.2.1,T8.2.2⟩ (by decide);apply ws;by_cases g2:has x.move.ao 2
  ·rw[aw g2];apply ws;exact fin _ (aq (λhh=>hh.1 g2)).symm
  ·rw[aq g2];apply ws;apply lj ⟨T8.2.1,T8.2.2⟩ (by decide);apply ws;apply fin _;by_cases g3:has x.move.ao 8
   ·rw[aw g3];exact(aq (λhh=>hh.2 g3)).symm
   ·rw[aq g3];exact(aw (show lK x from⟨g2,g3⟩)).symm
 ·have iO:j=m.ax.length:=by omega
  subst iO;rw[aV];apply ws;exact T.dp h
def C9(hm:m.dj.length<1000000)(hn:m.ax.length<1000000)(ha:∀a∈m.dj,MC a)(hk:∀k∈m.ax,RkK k)
 (h:∀ob oc,T W (ML p m mb mc kb kc (own ob m.dj.length oc 14 ((m.dj.map m.full).flatMap aO)::R)) (K (.l ob m.dj.length oc))):T W (ML p m mb mc kb kc R) (ia (ah p) K):=by
 unfold ia;apply ws;refine iR (e:=14) ?_;refine T.perm (L:=ML p m mb mc kb kc (own none 0 0 14 []::R)) ?_ (bt (l₁:=[own none 0 0 14 []]) (l₂:=[_,_,_])|>.append_right R);intro w jo;refine⟨λvv w=>∃(i:Nat)(ob:OA)(oc:Nat)(out:List bN),i<=m.dj.length/\out=(m.dj.take i).map m.full/\vv=[.l none 0 0,.l ob i oc,.i (m.dj.length:Int),.i (i:Int)]/\St W w (ML p m mb mc kb kc (own ob i oc 14 (out.flatMap aO)::R)),
  mq 3 m.dj.length,⟨0,none,0,[],aE _,rfl,rfl,jo⟩,?_⟩
 rintro jJ iX jV ob i oc n1 n2 w2 ⟨i0,ob0,oc0,out,hi,yp,e,gI⟩;cases e
 refine T.at ?_ gI;have e5:=m9 i;apply fZ<;>intro g1
 ·have cj:i<m.dj.length:=by omega
  have gx:=aj cj;have hax:=ha _ (cb cj);generalize m.dj[i]=x at gx hax;apply DW hn gx hax hk;apply ws;intros;refine kP (g:=aO) (l:=out) (x:=m.full x) (bO _) rfl rfl (by omega) (by omega) (iW _) λb' c'=>?_;rw[e5];refine T.drop λw3 h3=>⟨⟨i+1,b',c',out++[m.full x],cj,?_,rfl,h3⟩,dn (by omega)⟩;rw[ba,gx,cU,yp];rfl
 ·have iO:i=m.dj.length:=by omega
  subst iO;rw[aV] at yp;subst yp;exact h ob oc
end
instance aca{m:aA}{mb kb:OA}{mc kc:Nat}{c:Int}:Wr (GD m mb mc kb kc) 3 [.i c] (GD {m with ay:=c} mb mc kb kc):=⟨rfl,by show 4<=4;decide,λv h=>by simp at h;subst h;rfl⟩
instance ac0{m:aA}{mb kb b:OA}{mc kc n c:Nat}:Wr (GD m mb mc kb kc) 1 [.l b n c] [.l mb m.dj.length mc,.l b n c,.i m.clock,.i m.ay]:=⟨rfl,by show 2<=4;decide,λv h=>by simp at h;subst h;rfl⟩
instance acZ{m:aA}{mb kb b:OA}{mc kc n c:Nat}:Wr (GD m mb mc kb kc) 0 [.l b n c] [.l b n c,.l kb m.ax.length kc,.i m.clock,.i m.ay]:=⟨rfl,by show 1<=4;decide,λv h=>by simp at h;subst h;rfl⟩
section
variable {W w2:World} {L R:LH} {K:VK} {p:Nat} {a:bN} {t u:cx} {m:aA} {mb kb:OA} {mc kc:Nat}
def I9{fate:Int}(hn:m.ax.length<1000000)(hs:0<=m.ay/\m.ay<1000000)
 (h:∀b c,T W (ML p (m.nj t u fate) mb mc b c R) (K (.tuple ⟨[]⟩))):T W (ML p m mb mc kb kc R) (ie (ah p) (aM t) (aM u) fate K):=by
 unfold ie;have e1:aa.wrap (m.ay+1)=m.ay+1:=aX (by omega);apply ws;intros;rw[e1];refine kP (b:=kb) (g:=bM) (l:=m.ax) (x:=⟨t,{u with ay:=m.ay+1,jO:=m.clock},fate⟩) (bO _) rfl rfl (by show(m.ax.length+1)* 264<=_;omega) (by show m.ax.length+1<=_;omega) (mW _) λb' c'=>?_;apply ws;have:=h b' c';unfold aA.nj ML GD at this;simp only[au,aW,cK,aD] at this;apply T.sub this;exact pX
end
section
variable {W:World} {L R:LH} {K:VK} {X:WK} {p r e:Nat} {A B:HP} {m:aA} {mb kb:OA} {mc kc:Nat}
def Cb(e:Nat)(h:T W (own (ah r) 0 0 e []::L) X):T W (Sep.pt r []::L) X:=λw hs=>
 h w (St.Cp (k:=0) (L:=Sep.pt r []::L) (xs:=[]) (sp:=[]) (n:=0) (c:=0) (e:=e) (by simp) (by simp) (aF _) (by simp) hs)
def T.swap(h:T W (B::A::L) X):T W (A::B::L) X:=T.perm h (bX.swap _ _ _)
def T.Tb{C:HP}(h:T W (A::C::B::L) X):T W (A::B::C::L) X:=T.perm h ((bX.swap _ _ _).cons _)
def I'(hm:m.dj.length<1000000)(hn:m.ax.length<1000000)
 (h:∀p2 mb2 mc2 kb2 kc2,T W (ML p2 m mb2 mc2 kb2 kc2 (ML p m mb mc kb kc R)) (K (.p (ah p2)))):T W (ML p m mb mc kb kc R) (ig (ah p) K):=by
 unfold ig
 repeat' first|apply ws;intros|apply wb
 ·rename_i r1;refine Cb 14 ?_;refine rI (l0:=([]:List bN)) (l1:=m.dj) jR rfl (by omega) iW λb2 c2=>?_;rw[aD,cT];apply ws;intros;refine Cb 33 ?_;refine rI (l0:=([]:List cr)) (l1:=m.ax) jy rfl (by omega) mW λb3 c3=>?_;rw[aD,cT];apply ws;intros;exact T.Tb (h _ _ _ _ _)
 ·rename_i r1 r4;refine T.swap ?_;refine Cb 14 ?_;refine rI (l0:=([]:List bN)) (l1:=m.dj) jR rfl (by omega) iW λb2 c2=>?_;rw[aD,cT];refine T.swap ?_;apply ws;refine Cb 33 ?_;refine rI (l0:=([]:List cr)) (l1:=m.ax) jy rfl (by omega) mW λb3 c3=>?_;rw[aD,cT];apply ws;intros;exact T.Tb (h _ _ _ _ _)
 ·rename_i r6 r7;refine Cb 14 ?_;refine rI (l0:=([]:List bN)) (l1:=m.dj) jR rfl (by omega) iW λb2 c2=>?_;rw[aD,cT];refine T.swap ?_;apply ws;refine Cb 33 ?_;refine rI (l0:=([]:List cr)) (l1:=m.ax) jy rfl (by omega) mW λb3 c3=>?_;rw[aD,cT];apply ws;intros;exact T.Tb (h _ _ _ _ _)
end
section
variable {W:World} {L R:LH} {K:VK} {X:WK} {p r e:Nat} {a:bN} {m:aA} {mb kb:OA} {mc kc:Nat}
def Vr{ks:List cr}(hl:ks.length=m.ax.length)(h:T W (ML p {m with ax:=ks} mb mc kb kc R) X):T W (Sep.pt p (GD m mb mc kb kc)::own mb m.dj.length mc 14 (m.dj.flatMap aO)::own kb m.ax.length kc 33 (ks.flatMap bM)::R) X:=by
 unfold ML GD at h;rw[hl] at h;exact h
def QW{Yl i id:Nat}{x:cr}(hm:m.dj.length<1000000)(hn:m.ax.length<1000000)(gx:m.ax[Yl]?=some x)(hi:FM (λx:bN=>decide (x.id=id)) m.dj=(i:Int))(hx:m.dj[i]?=some a)(ha:MC a)(hk:∀k∈m.ax,RkK k)
 (h:T W (ML p m mb mc kb kc R) (K (.b (decide (8<=((m.ax.set Yl {x with fate:=3}).foldl xg a).ao))))):T W (ML p m mb mc kb kc R) (gJ (ah p) (nm id) (Yl:Int) K):=by
 unfold gJ;have hbl:=(av.1 gx).1;have T8:RkK x:=hk x (cn gx);apply ws;intros;rename_i r1;refine T.perm (L:=ML p m mb mc kb kc (Sep.pt r1 (nm id)::R)) ?_ (bt (l₁:=[Sep.pt r1 (nm id)]) (l₂:=[_,_,_])|>.append_right R);refine I' hm hn λp2 mb2 mc2 kb2 kc2=>?_;apply ws;refine dT (b:=kb2) ⟨by omega,by omega⟩ λrb hb=>?_;rw[ak];subst hb;apply O0;refine EO (o:=Yl) (x:=x) (y:={x with fate:=3}) jy gx rfl (by decide) rfl ?_;apply ws;refine Vr (ks:=m.ax.set Yl {x with fate:=3}) iH ?_;apply xi (m:={m with ax:=m.ax.set Yl {x with fate:=3}}) hm;rw[hi];apply ws;refine DW (m:={m with ax:=m.ax.set Yl {x with fate:=3}}) (by rw[iH];exact hn) hx ha (λk ux=>?_) ?_
 ·rcases fm ux with hh|hh
  ·exact hk k hh
  ·subst hh;exact T8
 apply ws;intro w hw;refine⟨_,rfl,?_⟩
 revert w hw
 show T W _ _;apply ws;apply T.sub h;exact pX
end
section
variable {W:World} {L R:LH} {K:VK} {X:WK} {t u:cx}
def Q0(h:T W L (K (.agg ⟨nm (bJ-1)⟩))):T W L (oy K):=by
 unfold oy;apply ws;intros;exact T.dp h
def Fo(ht:0<=t.ao/\t.ao<1000000)(hu:0<=u.ao/\u.ao<1000000)(h:T W L (K (.i (qf t u)))):T W L (lv (aM t) (aM u) K):=by
 unfold lv;unfold qf at h
 repeat' first|apply ws;intros|apply wb|with_reducible refine dJ (by decide) ?_
 rw[zp ht.1 ht.2 (by decide)]
 repeat' first|apply ws|apply wb|with_reducible refine dJ (by decide) ?_
 rw[zp hu.1 hu.2 (by decide)]
 repeat' first|apply ws|apply wb|refine Y1 ?_
 apply fZ<;>intro g1
 ·rw[ai g1] at h;exact T.dp h
 ·rw[af g1] at h;exact T.dp h
end
def Pe{m j:Nat}(hj:j<=64):shr .u64 (m:Int) (j:Int)=((m/2^j:Nat):Int):=by
 unfold shr;rw[ak,show min j IntKind.u64.bits=j from nA hj,GI _ (by exact Int.le_of_lt (Int.pow_pos (by decide)))];rw[show((2:Int)^j)=((2^j:Nat):Int) by push_cast;rfl];exact(Int.natCast_ediv _ _).symm
def Ql(m:Nat):aa.wrap (((m:Nat):Int).tmod (2:Int))=((m%2:Nat):Int):=by
 rw[dB (by omega)];rw[aX (by omega)];omega
section
variable {W:World} {L R:LH} {K:VK} {X:WK}
def tu{n j:Nat}(hn:n<bJ)(hj:j<128)(h:T W L (K (.i ((n/2^j%2:Nat):Int)))):T W L (fS (nm n) (j:Int) K):=by
 unfold fS;unfold nm;apply ws;intros;apply fZ<;>intro g1
 ·obtain⟨i,rfl⟩:∃i:Nat,j=64+i:=⟨j-64,by omega⟩;have e1:aa.wrap (((64+i:Nat):Int) -64)=(i:Int):=by rw[aX (by omega)];omega
  have e2:IntKind.u64.wrap (i:Int)=(i:Int):=by rw[Go.Up.sm];omega
  rw[e1,e2];apply ws;apply dJ (by omega);apply dJ (by decide);rw[Pe (by omega),Ql];have e3:n/2^(64+i)=n/18446744073709551616/2^i:=by rw[Nat.div_div_eq_div_mul,Nat.pow_add]
  rw[e3] at h;exact T.dp h
 ·have e2:IntKind.u64.wrap (j:Int)=(j:Int):=by rw[Go.Up.sm];omega
  rw[e2];apply ws;apply dJ (by omega);apply dJ (by decide);rw[Pe (by omega),Ql];have e3:n%18446744073709551616/2^j%2=n/2^j%2:=by
   rw[show(18446744073709551616:Nat)=2^j* 2^(64-j) by rw[<-Nat.pow_add,show j+(64-j)=64 by omega],Nat.mod_mul_right_div_self];exact Nat.mod_mod_of_dvd _ ⟨2^(63-j),by rw[show 64-j=1+(63-j) by omega,Nat.pow_add]⟩
  rw[e3];exact T.dp h
end
def BQ(a i:Nat):a/2^i/2=a/2^(i+1):=by rw[Nat.div_div_eq_div_mul,zx]
def TU{a b i:Nat}(h:a/2^(i+1)=b/2^(i+1))(jW:a/2^i%2≠b/2^i%2):decide (((a/2^i%2:Nat):Int)<((b/2^i%2:Nat):Int))=decide (a<b):=by
 rw[<-BQ,<-BQ] at h;rw[decide_eq_decide]
 constructor
 ·intro hl;have:a/2^i<b/2^i:=by omega
  exact Nat.lt_of_not_le λhh=>aQ (Nat.div_le_div_right (c:=2^i) hh) (by omega)
 ·intro hl;have:=Nat.div_le_div_right (c:=2^i) (Nat.le_of_lt hl);omega
section
variable {W:World} {L R:LH} {K:VK} {X:WK}
def zg{a b:Nat}(ha:a<bJ)(hb:b<bJ)(h:T W L (K (.b (decide (a<b))))):T W L (jd (nm a) (nm b) K):=by
 unfold jd;apply ws;intros;rename_i r1 r2;intro w jo;refine⟨λvv w=>∃j:Nat,j<=128/\a/2^j=b/2^j/\vv=[.p (some (ad r1 0)),.p (some (ad r2 0)),.b false,.i ((j:Int) -1)]/\St W w (Sep.pt r2 (nm b)::Sep.pt r1 (nm a)::L),
  λvs _=>match vs with|[_,_,_,.int _ d]=>(d+1).toNat|_=>0,⟨128,aF _,by rw[Nat.div_eq_of_lt (show a<2^128 from ha),Nat.div_eq_of_lt (show b<2^128 from hb)],rfl,jo⟩,?_⟩
 rintro a1 a2 b1 n1 w2 ⟨j,hj,heq,e,gI⟩;cases e
 refine T.at ?_ gI;apply fZ<;>intro g1
 ·obtain⟨i,rfl⟩:∃i:Nat,j=i+1:=⟨j-1,by omega⟩;have e1:(((i+1:Nat):Int) -1)=(i:Int):=by omega
  have e2:aa.wrap ((i:Int) -1)=(i:Int) -1:=aX (by omega);rw[e1,e2];apply ws;apply tu ha (by omega);apply ws;apply tu hb (by omega);apply ws;apply db<;>intro g2
  ·have g2:a/2^i%2≠b/2^i%2:=λhh=>by rw[hh] at g2;simp at g2
   apply ws;apply tu ha (by omega);apply ws;apply tu hb (by omega);apply ws;rw[TU heq g2];exact T.dp h
  ·have g2:a/2^i%2=b/2^i%2:=by
    have: ¬((a/2^i%2:Nat):Int)≠((b/2^i%2:Nat):Int):=λhh=>by rw[eY.2 hh] at g2;cases g2
    omega
   exact λw3 h3=>⟨⟨i,by omega,by have h1:=BQ a i;have h2:=BQ b i;omega,rfl,h3⟩,by show((i:Int) -1+1).toNat<((i:Int)+1).toNat;omega⟩
 ·have hz:j=0:=by omega
  subst hz;rw[Nat.pow_zero,Nat.div_one,Nat.div_one] at heq;rw[aq (by omega)] at h;exact T.dp h
end
section
variable {W:World} {L R:LH} {K:VK} {X:WK}
def Fh{a b:Nat}(ha:a<bJ)(hb:b<bJ)(h:T W L (K (.agg ⟨nm (if a<b then a else b)⟩))):T W L (lq (nm a) (nm b) K):=by
 unfold lq;apply ws;intros;apply zg ha hb;by_cases g1:a<b
 ·rw[ai g1] at h;rw[aw g1];apply ws;exact T.dp h
 ·rw[af g1] at h;rw[aq g1];apply ws;exact T.dp h
end
section
variable {W:World} {L R:LH} {K:VK} {X:WK} {t:cx}
def GW(ht:0<=t.ao/\t.ao<1000000)(h:T W L (K (.b (decide (jn t.ao))))):T W L (bP (aM t) K):=by
 have he:jn t.ao↔ ¬(has t.ao 2/\has t.ao 4\/has t.ao 2/\has t.ao 8\/has t.ao 4/\has t.ao 8)/\ ¬((has t.ao 4\/has t.ao 8)/\16<=t.ao)/\(t.ao<64\/has t.ao 2):=Iff.rfl;obtain⟨b2,h2⟩:∃b,b=decide (has t.ao 2):=⟨_,rfl⟩;obtain⟨b4,h4⟩:∃b,b=decide (has t.ao 4):=⟨_,rfl⟩;obtain⟨b8,h8⟩:∃b,b=decide (has t.ao 8):=⟨_,rfl⟩;have H2:∀{L':LH} {K':VK},T W L' (K' (.b b2))->T W L' (bV (aM t) 2 K'):=λhh=>lj ht (by decide) (by rw[<-h2];exact hh);have H4:∀{L':LH} {K':VK},T W L' (K' (.b b4))->T W L' (bV (aM t) 4 K'):=λhh=>lj ht (by decide) (by rw[<-h4];exact hh);have H8:∀{L':LH} {K':VK},T W L' (K' (.b b8))->T W L' (bV (aM t) 8 K'):=λhh=>lj ht (by decide) (by rw[<-h8];exact hh);have hE:∀{L':LH} {K':VK},T W L' (K' (.b (b4||b8)))->T W L' (gQ (aM t) K'):=λ{L'} {K'} hh=>wm ht (by
  have e:decide (jM t.ao)=(b4||b8):=by rw[h4,h8];exact Bool.decide_or (has t.ao 4) (has t.ao 8)
  rw[e];exact hh)
 unfold bP bP.j3 bP.j4 bP.j1 bP.j2;have h2:=h2.symm;have h4:=h4.symm;have h8:=h8.symm;cases b2<;>cases b4<;>cases b8<;>simp only[decide_eq_true_eq,decide_eq_false_iff_not] at h2 h4 h8<;>simp only[Bool.or_true,Bool.or_false,Bool.true_or,Bool.false_or] at hE
 all_goals
  repeat' first|apply ws;intros|apply wb|first|refine H2 ?_|refine H4 ?_|refine H8 ?_|refine hE ?_|apply db<;>intro h1
 all_goals
  apply T.fin (T.dp h)
  congr 1
  clear H2 H4 H8 hE h
  (try simp only[decide_eq_true_eq,decide_eq_false_iff_not] at *)
  rw[bZ,decide_eq_true_eq,he];simp only[h2,h4,h8,Bool.true_eq_false,cG,eq_self,true_and,and_true,false_and,and_false,or_true,or_false,true_or,false_or,not_true_eq_false,not_false_eq_true,true_iff,false_iff]
  try omega
end
def Sq(d:Nat):LV:=[.i (d:Int)]
def Ei(d:Nat):(Sq d).length=1:=rfl
def vU:List Nat->Nat
 |[]=>0
 |d::l=>d* 10^l.length+vU l
def vw(l:List Nat):List UInt8:=l.map λd=>UInt8.ofNat (48+d)
def Eh:∀(l:List Nat),(∀d∈l,d<10)->vU l<10^l.length
 |[],_=>by show 0<1;decide
 |d::l,h=>by
  have ih:=Eh l (λx hx=>h x (fJ _ hx));have hd:=h d pL;have:d* 10^l.length<=9* 10^l.length:=iw _ (by omega);simp only[vU,aW,zx];omega
def L7:∀(l m:List Nat),(∀d∈l,d<10)->(∀d∈m,d<10)->l.length=m.length->vU l=vU m->l=m
 |[],m,_,_,hl,_=>by cases m with|nil=>rfl|cons a b=>simp at hl
 |d::l,[],_,_,hl,_=>by simp at hl
 |d::l,e::m,h1,h2,hl,hv=>by
  have VQ:l.length=m.length:=by simpa using hl
  have a1:=Eh l (λx hx=>h1 x (fJ _ hx));have a2:=Eh m (λx hx=>h2 x (fJ _ hx));simp only[vU,VQ] at hv a1;have hp:0<10^m.length:=Nat.pow_pos (by decide);have hde:d=e:=by
   have e1:(d* 10^m.length+vU l)/10^m.length=d:=by rw[vK,Nat.mul_add_div hp,Nat.div_eq_of_lt a1,gK]
   have e2:(e* 10^m.length+vU m)/10^m.length=e:=by rw[vK,Nat.mul_add_div hp,Nat.div_eq_of_lt a2,gK]
   rw[<-e1,hv,e2]
  subst hde;rw[L7 l m (λx hx=>h1 x (fJ _ hx)) (λx hx=>h2 x (fJ _ hx)) VQ (by omega)]
structure Ha(a j:Nat)(l:List Nat):Prop where
 val:vU l=a/2^j
 small:∀d∈l,d<10
 norm:l.length=1\/10^(l.length-1)<=vU l
 len:1<=l.length/\l.length<=129-j
def Ha.step{a j c:Nat}{l tl:List Nat}(h:Ha a (j+1) l)(hj:j<128)(hl:tl.length=l.length)(ht:∀d∈tl,d<10)(hc:c<=1)(he:2* vU l+a/2^j%2=c* 10^l.length+vU tl):
 (c=0->Ha a j tl)/\(0<c->Ha a j (c::tl)):=by
 have hv:=h.val;have h2:=BQ a j;have hle:=h.len;have e:2* vU l+a/2^j%2=a/2^j:=by rw[hv,<-h2];omega
 refine⟨λh0=>?_,λh0=>?_⟩
 ·subst h0;rw[Nat.zero_mul,aD] at he;refine⟨by rw[<-he,e],ht,?_,by rw[hl];omega⟩;rw[hl];rcases h.norm with hn|hn
  ·exact .inl hn
  ·exact .inr (by omega)
 ·have h1:c=1:=by omega
  subst h1;refine⟨by simp only[vU,hl];omega,λd hd=>?_,.inr ?_,by simp only[aW,hl];omega⟩
  ·rcases jX.1 hd with hd|hd
   ·omega
   ·exact ht d hd
  ·simp only[vU,aW,Nat.add_sub_cancel];omega
def Ha.first{a:Nat}(ha:a<bJ):Ha a 128 [0]:=⟨by rw[Nat.div_eq_of_lt (show a<2^128 from ha)];rfl,λd hd=>by simp at hd;omega,.inl rfl,by simp⟩
def RL:List Nat:=[3,4,0,2,8,2,3,6,6,9,2,0,9,3,8,4,6,3,4,6,3,3,7,4,6,0,7,4,3,1,7,6,8,2,1,1,4,5,5]
def Ik:∀(l m:List Nat),(∀d∈l,d<10)->(∀d∈m,d<10)->vw l=vw m->l=m
 |[],[],_,_,_=>rfl
 |[],e::m,_,_,h=>by simp[vw] at h
 |d::l,[],_,_,h=>by simp[vw] at h
 |d::l,e::m,h1,h2,h=>by
  simp only[vw,dA,List.cons.injEq] at h;obtain⟨hd,ht⟩:=h;have b1:=h1 d pL;have b2:=h2 e pL;have:d=e:=by
   have:=congrArg UInt8.toNat hd;simp only[UInt8.toNat_ofNat'] at this;omega
  subst this;rw[Ik l m (λx hx=>h1 x (fJ _ hx)) (λx hx=>h2 x (fJ _ hx)) ht]
def Ha.last{a:Nat}{l:List Nat}(h:Ha a 0 l):(vw l=vw RL↔a=bJ-1):=by
 have hv:vU l=a:=by have:=h.val;rwa[Nat.pow_zero,Nat.div_one] at this
 have hmx:∀d∈RL,d<10:=by decide
 have tC:vU RL=bJ-1:=by decide+kernel
 constructor
 ·intro he;have:=Ik l RL h.small hmx he;rw[<-hv,this,tC]
 ·intro he;have hlen:l.length=39:=by
   have h1:=Eh l h.small;rw[hv,he] at h1;rcases h.norm with hn|hn
   ·rw[hn] at h1;exact aQ h1 (by decide)
   ·rw[hv,he] at hn;have a1:l.length-1<39:=Nat.lt_of_not_le λhh=>aQ (zy (gM (by decide) hh) hn) (by decide+kernel);have a2:38<l.length:=Nat.lt_of_not_le λhh=>aQ (Nat.lt_of_lt_of_le h1 (gM (by decide) hh)) (by decide+kernel);have:=h.len;omega
  rw[L7 l RL h.small hmx hlen (by rw[hv,he,tC])]
section
variable {W:World} {L R:LH} {K:VK} {X:WK}
def O3{r d:Nat}(h:T W (own (ah r) 1 1 1 ([d].flatMap Sq)::L) X):T W (Sep.pt r [.i (d:Int)]::L) X:=λw hs=>
 h w (St.Cp (k:=0) (L:=Sep.pt r [.i (d:Int)]::L) (xs:=[d].flatMap Sq) (sp:=[]) (n:=1) (c:=1) (e:=1) (by simp) (by simp[Sq]) (aF _) (by simp) hs)
def Q1{a:Nat}(ha:a<bJ)(h:∀s:BA,pP s (⟨#[51,52,48,50,56,50,51,54,54,57,50,48,57,51,56,52,54,51,52,54,51,51,55,52,54,48,55,52,51,49,55,54,56,50,49,49,52,53,53]⟩:BA)=decide (a=bJ-1)->T W L (K (.s s))):T W L (kv (nm a) K):=by
 unfold kv;apply ws;intros;rename_i r1 r2;refine O3 (d:=0) ?_;intro w jo;refine⟨λvv w=>∃(j:Nat)(l:List Nat)(b:OA)(c:Nat),j<=128/\Ha a j l/\vv=[.p (some (ad r1 0)),.s .empty,.l b l.length c,.i ((j:Int) -1)]/\St W w (own b l.length c 1 (l.flatMap Sq)::Sep.pt r1 (nm a)::L),
  λvs _=>match vs with|[_,_,_,.int _ d]=>(d+1).toNat|_=>0,⟨128,[0],_,_,aF _,Ha.first ha,rfl,jo⟩,?_⟩
 rintro a1 s1 yn ya Ah n1 w2 ⟨j,l,b,c,hj,hd,e,gI⟩;cases e
 refine T.at ?_ gI;apply fZ<;>intro g1
 ·obtain⟨i,rfl⟩:∃i:Nat,j=i+1:=⟨j-1,by omega⟩;have e1:(((i+1:Nat):Int) -1)=(i:Int):=by omega
  have e2:aa.wrap ((i:Int) -1)=(i:Int) -1:=aX (by omega);have hlen:=hd.len;rw[e1];apply ws;apply tu ha (by omega);apply ws;rw[aX (show-9223372036854775808<=(l.length:Int) -1/\(l.length:Int) -1<=9223372036854775807 by omega)];have afE:a/2^i%2<=1:=by omega
  intro w3 vY;refine⟨λvv w=>∃(k cc:Nat)(tl:List Nat),k<=l.length/\tl.length=l.length-k/\(∀d∈tl,d<10)/\cc<=1/\2* vU (l.drop k)+a/2^i%2=cc* 10^(l.length-k)+vU tl/\
   vv=[.p (some (ad r1 0)),.s .empty,.l yn l.length Ah,.i (i:Int),.i (cc:Int),.i ((k:Int) -1)]/\St W w (own yn l.length Ah 1 ((l.take k++tl).flatMap Sq)::Sep.pt r1 (nm a)::L),
   λvs _=>match vs with|[_,_,_,_,_,.int _ d]=>(d+1).toNat|_=>0,⟨l.length,a/2^i%2,[],aF _,by simp,(λd hd=>by cases hd),afE,by rw[Hc,jS];simp[vU],rfl,by rw[aV,bO];exact vY⟩,?_⟩
  rintro a2 s2 jJ iX jV n3 n4 n5 w4 ⟨k,cc,tl,hk,DM,htd,Uf,Aw,e,yt⟩;cases e
  refine T.at ?_ yt;apply fZ<;>intro g2
  ·obtain⟨q,rfl⟩:∃q:Nat,k=q+1:=⟨k-1,by omega⟩;have e3:(((q+1:Nat):Int) -1)=(q:Int):=by omega
   rw[e3];have gx:=aj (show q<l.length by omega);have hdx:=hd.small _ (cb (show q<l.length by omega));have LL:l.drop q=l[q]::l.drop (q+1):=gZ (by omega);have yd:l.take (q+1)=l.take q++[l[q]]:=by rw[ba,gx];rfl
   generalize l[q]=d at gx hdx LL yd;have hlq:(l.take q).length=q:=by rw[aC,nA (by omega)]
   have gy:(l.take (q+1)++tl)[q]?=some d:=by
    rw[yd,aH,iJ (by omega),hlq,jS];rfl
   refine dT (b:=yn) ⟨by omega,by omega⟩ λrb hb=>?_;rw[ak];subst hb;apply Cc (g:=Sq) Ei gy rfl;apply mg;apply dJ (by decide);refine dT (b:=some ⟨rb,0,none⟩) ⟨by omega,by omega⟩ λrb2 hb=>?_;rw[ak];cases hb
   have w1:aa.wrap (2* (d:Int))=2* (d:Int):=aX (by omega);have w2':aa.wrap (2* (d:Int)+(cc:Int))=((2* d+cc:Nat):Int):=by rw[aX (by omega)];omega
   have w3':((2* d+cc:Nat):Int).tmod 10=(((2* d+cc)%10:Nat):Int):=by rw[dB (by omega)];omega
   have w4':aa.wrap (((2* d+cc:Nat):Int).tdiv 10)=(((2* d+cc)/10:Nat):Int):=by rw[Int.tdiv_eq_ediv_of_nonneg (by omega),aX (by omega)];omega
   have w5':aa.wrap ((q:Int) -1)=(q:Int) -1:=aX (by omega);rw[w1,w2',w3',w4',w5'];apply EO (o:=q) (j:=0) (x:=d) (y:=(2* d+cc)%10) (g:=Sq) Ei gy rfl (by decide) rfl;apply dJ (by decide);have Rk:(l.take (q+1)++tl).set q ((2* d+cc)%10)=l.take q++((2* d+cc)%10::tl):=by
    rw[yd,aH,List.set_append_right _ _ (by omega),hlq,jS];rfl
   rw[Rk];have zF:(l.drop (q+1)).length=l.length-(q+1):=aR;intro w5 P0;refine⟨⟨q,(2* d+cc)/10,(2* d+cc)%10::tl,by omega,by simp only[aW];omega,λx hx=>?_,by omega,?_,rfl,P0⟩,by show((q:Int) -1+1).toNat<((q:Int)+1).toNat;omega⟩
   ·rcases jX.1 hx with hx|hx
    ·omega
    ·exact htd x hx
   ·rw[LL];simp only[vU];rw[DM,zF,show l.length-q=(l.length-(q+1))+1 by omega,zx];generalize 10^(l.length-(q+1))=P at Aw⊢;have:2* (d* P)+cc* P=(2* d+cc)/10* (P* 10)+(2* d+cc)%10* P:=by
     have hh:2* d+cc=(2* d+cc)/10* 10+(2* d+cc)%10:=by omega
     calc 2* (d* P)+cc* P=(2* d+cc)* P:=by rw[mn,Nat.mul_assoc]
      _=((2* d+cc)/10* 10+(2* d+cc)%10)* P:=by rw[<-hh]
      _=_:=by rw[mn,Nat.mul_assoc,vK 10 P]
    omega
  ·have hz:k=0:=by omega
   subst hz;rw[iK,Nat.sub_zero] at Aw;rw[Nat.sub_zero] at DM;rw[og,cT,e2];obtain⟨s0,s1⟩:=hd.step (by omega) DM htd Uf Aw;apply fZ<;>intro g3
   ·have g3:0<cc:=by omega
    refine dJ ⟨rfl,trivial⟩ ?_;refine tN λr3=>?_;refine O3 (d:=cc) ?_;rw[<-DM];refine rI (l0:=[cc]) (l1:=tl) Ei rfl (by omega) (λx v hv=>by simp[Sq] at hv;subst hv;rfl) λb2 c2=>?_;have hs:=s1 g3;refine T.sub (M:=own b2 (1+tl.length) c2 1 (([cc]++tl).flatMap Sq)::Sep.pt r1 (nm a)::L) ?_ (by repeat (first|exact bl.refl _|apply bl.cons_cons|apply bl.cons));rw[show 1+tl.length=(cc::tl).length by simp only[aW];omega];intro w6 hs6;exact⟨⟨i,cc::tl,b2,c2,by omega,hs,rfl,hs6⟩,by show((i:Int) -1+1).toNat<((i:Int)+1).toNat;omega⟩
   ·have hs:=s0 (by omega);rw[<-DM];intro w6 hs6;exact⟨⟨i,tl,_,_,by omega,hs,rfl,hs6⟩,by show((i:Int) -1+1).toNat<((i:Int)+1).toNat;omega⟩
 ·have hz:j=0:=by omega
  subst hz;have hlen:=hd.len;intro w3 vY;refine⟨λvv w=>∃k:Nat,k<=l.length/\vv=[.s .empty,.s (bs (vw (l.take k))),.l yn l.length Ah,.i (l.length:Int),.i (k:Int)]/\St W w (own yn l.length Ah 1 (l.flatMap Sq)::Sep.pt r1 (nm a)::L),
   mq 4 l.length,⟨0,aE _,rfl,vY⟩,?_⟩
  rintro s3 s4 vc rA u6 n7 n8 w9 ⟨k,hk,e,hs9⟩;cases e
  refine T.at ?_ hs9;apply fZ<;>intro g2
  ·have cj:k<l.length:=by omega
   have gx:=aj cj;have hdx:=hd.small _ (cb cj);have yd:l.take (k+1)=l.take k++[l[k]]:=by rw[ba,gx];rfl
   generalize l[k]=d at gx hdx yd;refine dT (b:=yn) ⟨by omega,by omega⟩ λrb hb=>?_;rw[ak];subst hb;apply Cc (g:=Sq) Ei gx rfl;apply mg;apply dJ ⟨rfl,trivial⟩;refine tN λr4=>?_;have e4:Value.int .u8 (IntKind.u8.wrap (aa.wrap (48+(d:Int))))=vf (UInt8.ofNat (48+d)):=by
    have:=uo (n:=((48+d:Nat):Int)) (by omega);rw[ak] at this;rw[this,aX (by omega)]
    congr 1
    have:((48+d:Nat):Int)=48+(d:Int):=by omega
    rw[this];unfold IntKind.wrap;simp[IntKind.signed,IntKind.bits];omega
   rw[e4];apply S8 (l:=[UInt8.ofNat (48+d)]);have e5:bs (vw (l.take k))++bs [UInt8.ofNat (48+d)]=bs (vw (l.take (k+1))):=by rw[lR,yd];unfold vw;rw[cU];rfl
   have e6:=m9 k;refine dJ ?_ ?_
   ·rw[cf,cf];unfold vw;rw[bY,aC,pT];omega
   rw[e5,e6];refine T.drop λw5 P0=>⟨⟨k+1,cj,rfl,P0⟩,dn (by omega)⟩
  ·have iO:k=l.length:=by omega
   subst iO;rw[aV];refine T.drop (T.drop (h _ ?_));rw[sE,decide_eq_decide,<-hd.last];exact AM (a:=vw l) (b:=vw RL)
end
section
variable {W:World} {L R:LH} {K:VK} {X Y:WK} {a:bN} {t:cx} {r1 r2:Nat}
def SQ{n:Nat}(hn:n<bJ)(h:T W L (br (decide (n=bJ-1)) X Y)):T W L (kv (nm n) (xS λs1=>br (pP s1 (⟨#[51,52,48,50,56,50,51,54,54,57,50,48,57,51,56,52,54,51,52,54,51,51,55,52,54,48,55,52,51,49,55,54,56,50,49,49,52,53,53]⟩:BA)) X Y)):=
 Q1 hn λs hs=>wc (by rw[hs];exact h)
def UN(a:bN):Int:=if a.dp≠0\/a.dq≠0\/a.cp≠0\/a.cq≠0\/a.ay≠0 then 7 else if a.bF<=0\/4294967296<=a.bF then 8 else if a.code<=0\/65536<=a.code then 9 else 0
def Pw{b:Bool}(h:T W (Sep.pt r2 [.u 0,.u 0]::Sep.pt r1 (aO a)::L) (K (.i (if b=true then 6 else UN a)))):T W (Sep.pt r2 [.u 0,.u 0]::Sep.pt r1 (aO a)::L) (bA.j2 K r1 r2 b):=by
 unfold bA.j2 bA.j5 bA.j6 bA.j3 bA.j4;cases b with
 |true=>
  apply ws;exact h
 |false=>
  rw[af (by decide)] at h
  repeat' first|apply ws|apply wb|apply db<;>intro h1
  all_goals try simp only[bz] at *
  all_goals
   apply T.fin (T.dp h)
   congr 1
   unfold UN
   repeat' split
  all_goals omega
def ND(ha:yi a)(h:T W L (K (.i (tH a)))):T W L (bA (aO a) K):=by
 unfold bA bA.j1;have e:tH a=if a.ao<0\/7<a.ao then 3 else if a.id=0 then 4 else if a.id=bJ-1 then 5 else if has a.ao 2/\has a.ao 4 then 6 else UN a:=rfl
 rw[e] at h;by_cases hr:0<=a.ao/\a.ao<=7
 ·rw[af (by omega)] at h;have hf:0<=a.ao/\a.ao<1000000:=by omega
  have e1:decide (a.ao<0)=false:=aq (by omega);have e2:decide (a.ao>7)=false:=aq (by omega);apply ws;intros;rw[e1];apply ws;rw[e2];apply ws;apply fZ<;>intro h1
  ·rw[ai h1] at h;exact T.dp h
  rw[af h1] at h;apply ws;apply SQ ha.id;apply fZ<;>intro h1
  ·rw[ai h1] at h;exact T.dp h
  rw[af h1] at h
  repeat' first|apply ws|apply wb|refine K0 hf (by decide) ?_
  apply fZ<;>intro h1
  ·repeat' first|apply ws|apply wb|refine K0 hf (by decide) ?_
   apply Pw;apply T.fin (T.dp h)
   congr 1
   by_cases h4:has a.ao 4
   ·rw[ai (aw h4),ai ⟨h1,h4⟩]
   ·rw[af (λhh=>h4 (aS hh)),af (λhh=>h4 hh.2)]
  ·apply Pw;rw[af (λhh=>h1 hh.1)] at h;exact T.dp h
 ·rw[ai (by omega)] at h;apply ws;intros;apply fZ<;>intro h1
  ·apply ws;exact T.dp h
  ·have e2:decide (a.ao>7)=true:=aw (by omega);apply ws;rw[e2];apply ws;exact T.dp h
def DX{n:Int}(h:T W (Sep.pt r2 [.u 0,.u 0]::Sep.pt r1 (aM t)::L) (K (.i (if t.bF<n\/4294967296<=t.bF then 8 else if t.code<n\/65536<=t.code then 9 else 0)))):T W (Sep.pt r2 [.u 0,.u 0]::Sep.pt r1 (aM t)::L) (aY.j4 K r1 n):=by
 unfold aY.j4 aY.j5
 repeat' first|apply ws|apply wb|apply db<;>intro h1
 all_goals try simp only[bz] at *
 all_goals
  apply T.fin (T.dp h)
  congr 1
  repeat' split
 all_goals omega
def DY{b:Bool}(hf:0<=t.ao/\t.ao<1000000)(h:T W (Sep.pt r2 [.u 0,.u 0]::Sep.pt r1 (aM t)::L) (K (.i (if b=true then 17 else if jM t.ao then RV t else RU t)))):T W (Sep.pt r2 [.u 0,.u 0]::Sep.pt r1 (aM t)::L) (aY.j3 K r1 r2 b):=by
 unfold aY.j3;cases b with
 |true=>
  apply ws;exact h
 |false=>
  rw[af (by decide)] at h
  repeat' first|apply ws|apply wb|refine wm hf ?_
  apply fZ<;>intro h1
  ·rw[ai h1] at h;apply ws;unfold RV at h;apply fZ<;>intro h1
   ·rw[ai h1] at h;exact h
   ·rw[af h1] at h;exact DX h
  ·rw[af h1] at h;unfold RU at h;apply ws;apply fZ<;>intro h1
   ·rw[ai (h1)] at h;exact h
   rw[af (h1)] at h;apply ws;apply fZ<;>intro h1
   ·rw[ai (h1)] at h;exact h
   rw[af (h1)] at h;apply ws;apply fZ<;>intro h1
   ·rw[ai (h1)] at h;exact h
   rw[af (h1)] at h;apply ws;by_cases h5:t.pending=0
   ·rw[af (λhh=>hh h5)] at h;rw[aw h5];apply ws;apply fZ<;>intro h1
    ·repeat' first|apply ws|apply wb|refine lj hf (by decide) ?_
     by_cases h6:has t.ao 16
     ·rw[aw h6];rw[af (λhh=>hh.2.1 h6)] at h;apply ws;exact DX h
     ·rw[aq h6]
      repeat' first|apply ws|apply wb|refine lj hf (by decide) ?_
      by_cases h7:has t.ao 32
      ·rw[aw h7];rw[af (λhh=>hh.2.2 h7)] at h;apply ws;exact DX h
      ·rw[aq h7];rw[ai ⟨h1,h6,h7⟩] at h;apply ws;exact h
    ·rw[af (λhh=>h1 hh.1)] at h;exact DX h
   ·rw[ai h5] at h;rw[aq h5];apply ws;exact h
def Aq(ht:yf t)(h:T W L (K (.i (mM t)))):T W L (aY (aM t) K):=by
 unfold aY aY.j1;have e:mM t=if t.ao<0\/255<t.ao then 3 else if t.id=0 then 4 else if t.id=bJ-1 then 5 else if ¬jn t.ao then 6
  else if t.ay≠0\/t.jO≠0 then 7 else if t.cA<0\/1073741824<t.cA\/0<t.cA/\ ¬has t.ao 2 then 17 else if jM t.ao then RV t else RU t:=rfl
 rw[e] at h;by_cases hr:0<=t.ao/\t.ao<=255
 ·rw[af (by omega)] at h;have hf:0<=t.ao/\t.ao<1000000:=by omega
  have e1:decide (t.ao<0)=false:=aq (by omega);have e2:decide (t.ao>255)=false:=aq (by omega);apply ws;intros;rw[e1];apply ws;rw[e2];apply ws;apply fZ<;>intro h1
  ·rw[ai h1] at h;exact T.dp h
  rw[af h1] at h;apply ws;apply SQ ht.id;apply fZ<;>intro h1
  ·rw[ai h1] at h;exact T.dp h
  rw[af h1] at h
  repeat' first|apply ws|apply wb|refine GW hf ?_
  by_cases h2:jn t.ao
  ·rw[af (λhh=>hh h2)] at h;rw[aw h2];apply ws;unfold aY.j2 aY.j6;by_cases h3:t.ay≠0\/t.jO≠0
   ·rw[ai h3] at h;apply db<;>intro h1
    ·apply ws;exact T.dp h
    ·have h1:t.ay=0:=by simpa using h1
     have e3:(t.jO !=0)=true:=by rw[eY];omega
     apply ws;rw[e3];apply ws;exact T.dp h
   ·rw[af h3] at h;have e3:(t.ay !=0)=false:=by rw[bne_eq_false_iff_eq];omega
    have e4:(t.jO !=0)=false:=by rw[bne_eq_false_iff_eq];omega
    rw[e3];apply ws;rw[e4];apply ws;apply fZ<;>intro h4
    ·rw[ai (.inl h4)] at h;apply ws;apply DY hf;exact T.dp h
    apply ws;apply fZ<;>intro h5
    ·rw[ai (.inr (.inl h5))] at h;apply DY hf;exact T.dp h
    apply ws;apply fZ<;>intro h6
    ·repeat' first|apply ws|apply wb|refine lj hf (by decide) ?_
     apply DY hf;by_cases h7:has t.ao 2
     ·rw[aw h7];rw[af (by rintro(hh|hh|hh);exact h4 hh;exact h5 hh;exact hh.2 h7)] at h;exact T.dp h
     ·rw[aq h7];rw[ai (.inr (.inr ⟨h6,h7⟩))] at h;exact T.dp h
    ·apply DY hf;rw[af (by rintro(hh|hh|hh);exact h4 hh;exact h5 hh;exact h6 hh.1)] at h;exact T.dp h
  ·rw[ai h2] at h;rw[aq h2];apply ws;exact T.dp h
 ·rw[ai (by omega)] at h;apply ws;intros;apply fZ<;>intro h1
  ·apply ws;exact T.dp h
  ·have e2:decide (t.ao>255)=true:=aw (by omega);apply ws;rw[e2];apply ws;exact T.dp h
end
def Pf{j:Nat}(hj:j<64):shl .u64 1 (j:Int)=((2^j:Nat):Int):=by
 unfold shl;have h1:2^j<2^64:=Nat.pow_lt_pow_right (by decide) hj;have h2:(2:Nat)^64=18446744073709551616:=by decide
 have h3:((2:Int)^j)=((2^j:Nat):Int):=by push_cast;rfl
 rw[ak,show min j IntKind.u64.bits=j from nA (Nat.le_of_lt hj),Go.Up.sm,Int.one_mul,h3];generalize 2^j=P at h1;omega
def De(a i:Nat):a%2^(i+1)=a%2^i+a/2^i%2* 2^i:=by
 rw[zx,Nat.mod_mul,vK (2^i)]
section
variable {W:World} {L R:LH} {K:VK} {X Y:WK} {a:bN} {t:cx} {r1 r2:Nat}
def Tu{n j:Nat}(hn:n<2^j)(hj:j<128)(h:T W L (K (.agg ⟨nm (n+2^j)⟩))):T W L (pq (nm n) (j:Int) K):=by
 unfold pq;unfold nm;apply ws;intros;apply fZ<;>intro g1
 ·obtain⟨i,rfl⟩:∃i:Nat,j=64+i:=⟨j-64,by omega⟩;have e1:aa.wrap (((64+i:Nat):Int) -64)=(i:Int):=by rw[aX (by omega)];omega
  have e2:IntKind.u64.wrap (i:Int)=(i:Int):=by rw[Go.Up.sm];omega
  rw[e1,e2,Pf (by omega)];apply ws;apply dJ (by omega);apply ws;have hp:2^(64+i)=18446744073709551616* 2^i:=by rw[Nat.pow_add]
  have hq:2^i<=2^63:=gM (by decide) (by omega);have Xw:(2:Nat)^63=9223372036854775808:=by decide
  have h1:n/18446744073709551616<2^i:=Nat.div_lt_of_lt_mul (by rw[<-hp];exact hn);have e3:IntKind.u64.wrap (((n/18446744073709551616:Nat):Int)+((2^i:Nat):Int))=(((n+2^(64+i))/18446744073709551616:Nat):Int):=by
   rw[Go.Up.sm,hp,Nat.add_mul_div_left _ _ (by decide)];omega
  have e4:(n+2^(64+i))%18446744073709551616=n%18446744073709551616:=by rw[hp,Nat.add_mul_mod_self_left]
  unfold nm at h;rw[e4] at h;rw[e3];exact T.dp h
 ·have Jp:j<64:=by omega
  have e2:IntKind.u64.wrap (j:Int)=(j:Int):=by rw[Go.Up.sm];omega
  rw[e2,Pf Jp];apply ws;apply dJ (by omega);apply ws;have hq:2^j<=2^63:=gM (by decide) (by omega);have Xw:(2:Nat)^63=9223372036854775808:=by decide
  have e3:IntKind.u64.wrap (((n%18446744073709551616:Nat):Int)+((2^j:Nat):Int))=(((n+2^j)%18446744073709551616:Nat):Int):=by
   rw[Go.Up.sm];omega
  have e4:(n+2^j)/18446744073709551616=n/18446744073709551616:=by omega
  unfold nm at h;rw[e4] at h;rw[e3];exact T.dp h
def Td{a b i c out:Nat}(hv:out+b%2^i=a%2^i+c* 2^i)(c2 n2:Nat)(hn:(n2:Int)=((a/2^i%2:Nat):Int) -((b/2^i%2:Nat):Int) -(c:Int)+2* (c2:Int)):
 out+n2* 2^i+b%2^(i+1)=a%2^(i+1)+c2* 2^(i+1):=by
 rw[De,De,zx];have hh:n2+b/2^i%2+c=a/2^i%2+2* c2:=by omega
 have:=congrArg (·* 2^i) hh;simp only[mn] at this;rw[show c2* (2^i* 2)=2* c2* 2^i by rw[vK (2^i) 2,<-Nat.mul_assoc,vK c2 2]];omega
def K1{a b:Nat}(ha:a<bJ)(hb:b<bJ)(h:T W L (K (.tuple ⟨[.agg ⟨nm (a-b)⟩,.b (decide (b<=a))]⟩))):T W L (fR (nm a) (nm b) K):=by
 unfold fR fR.j1;apply ws;intros;apply zg ha hb;apply ws;by_cases cj:a<b
 ·rw[show a-b=0 by omega,aq (by omega)] at h;rw[aw cj];apply ws;exact T.dp h
 ·rw[aw (by omega)] at h;rw[aq cj];apply ws;intros;rename_i r1 r2 r3 r4;intro w jo;refine⟨λvv w=>∃i c out:Nat,i<=128/\c<=1/\out<2^i/\out+b%2^i=a%2^i+c* 2^i/\vv=[.p (some (ad r1 0)),.p (some (ad r2 0)),.p (some (ad r3 0)),.b false,.p (some (ad r4 0)),.i (c:Int),.i (i:Int)]/\
     St W w (Sep.pt r4 (nm out)::Sep.pt r3 [.u 0,.u 0]::Sep.pt r2 (nm b)::Sep.pt r1 (nm a)::L),
   mq 6 128,⟨0,0,0,by omega,by omega,by decide,by rw[Nat.pow_zero];omega,rfl,jo⟩,?_⟩
  rintro a1 a2 a3 b2 a4 n1 n2 w2 ⟨i,c,out,hi,hc,yp,hv,e,gI⟩;cases e
  refine T.at ?_ gI;apply fZ<;>intro g1
  ·have xx:i<128:=by omega
   apply ws;apply tu ha xx;apply ws;apply tu hb xx;apply ws;have V2:a/2^i%2<=1:=by omega
   have hbb:b/2^i%2<=1:=by omega
   have e1:aa.wrap (aa.wrap (((a/2^i%2:Nat):Int) -((b/2^i%2:Nat):Int)) -(c:Int))=((a/2^i%2:Nat):Int) -((b/2^i%2:Nat):Int) -(c:Int):=by
    rw[aX (n:=((a/2^i%2:Nat):Int) -((b/2^i%2:Nat):Int)) (by omega),aX (by omega)]
   have e5:=m9 i;rw[e1,e5];have hp:2^(i+1)=2* 2^i:=by rw[zx,vK]
   have key:∀(c2 n2:Nat),c2<=1->n2<=1->(n2:Int)=((a/2^i%2:Nat):Int) -((b/2^i%2:Nat):Int) -(c:Int)+2* (c2:Int)->
    T W (Sep.pt r4 (nm out)::Sep.pt r3 [.u 0,.u 0]::Sep.pt r2 (nm b)::Sep.pt r1 (nm a)::L) (fR.j1 K (ad r4 0) (i:Int) (λvv w=>∃i c out:Nat,i<=128/\c<=1/\out<2^i/\out+b%2^i=a%2^i+c* 2^i/\vv=[.p (some (ad r1 0)),.p (some (ad r2 0)),.p (some (ad r3 0)),.b false,.p (some (ad r4 0)),.i (c:Int),.i (i:Int)]/\
    St W w (Sep.pt r4 (nm out)::Sep.pt r3 [.u 0,.u 0]::Sep.pt r2 (nm b)::Sep.pt r1 (nm a)::L)) (ad r1 0) (ad r2 0) (ad r3 0) false (mq 6 128) (c:Int) w2 (c2:Int) (n2:Int)):=λc2 n2 Sn hn2 hn=>by
    unfold fR.j1;rw[e5];have u7:=Td hv c2 n2 hn;apply db<;>intro g2
    ·have g2:n2=1:=by have:(n2:Int)=1:=by simpa using g2
                      omega
     subst g2;rw[Nat.one_mul] at u7;apply ws;apply Tu yp xx;apply DE (by rfl);apply ws;exact λw3 h3=>⟨⟨i+1,c2,out+2^i,xx,Sn,by omega,u7,rfl,h3⟩,dn (by omega)⟩
    ·have g2:n2=0:=by have: ¬(n2:Int)=1:=by simpa using g2
                      omega
     subst g2;rw[Nat.zero_mul,gK] at u7;exact λw3 h3=>⟨⟨i+1,c2,out,xx,Sn,by omega,u7,rfl,h3⟩,dn (by omega)⟩
   unfold fR.j1 at key;rw[e5] at key;apply fZ<;>intro g2
   ·rw[aX (by omega)];obtain⟨n2,hn2⟩:=bw (show 0<=((a/2^i%2:Nat):Int) -((b/2^i%2:Nat):Int) -(c:Int)+2 by omega);rw[hn2];exact key 1 n2 (by omega) (by omega) (by omega)
   ·obtain⟨n2,hn2⟩:=bw (show 0<=((a/2^i%2:Nat):Int) -((b/2^i%2:Nat):Int) -(c:Int) by omega);rw[hn2];exact key 0 n2 (by omega) (by omega) (by omega)
  ·have iO:i=128:=by omega
   subst iO;rw[fD (show a<2^128 from ha),fD (show b<2^128 from hb)] at hv;have hh:out=a-b:=by
    have:c=0:=by
     rcases Nat.eq_zero_or_pos c with hz|hz
     ·exact hz
     ·have:c=1:=by omega
      subst this;omega
    subst this;omega
   rw[hh];apply ws;exact T.dp h
def Fm{r3 r4 r5:Nat}{x y z:Nat}(hx:x<bJ)(hy:y<bJ)(hz:z<bJ)(h:T W L (K (.agg ⟨nm (x-(y+z))⟩))):T W (Sep.pt r5 (nm z)::Sep.pt r4 (nm y)::Sep.pt r3 (nm x)::Sep.pt r2 [.u 0,.u 0]::L) (dy.j1 K r4 r5 r3 r2):=by
 unfold dy.j1 dy.j2;apply ws;apply uq hy hz;unfold add;by_cases hs:y+z<bJ
 ·rw[ai hs,aw hs];apply ws;intros;apply K1 hx hs;apply ws;intros;exact T.dp h
 ·rw[af hs,aq hs];apply ws;intros;apply Q0;apply ws;refine K1 hx (by unfold bJ;decide) ?_;apply ws;intros;rw[show x-(bJ-1)=x-(y+z) by omega];exact T.dp h
def Co{p:Bool}(ha:a.dp<bJ/\a.dq<bJ/\a.cp<bJ/\a.cq<bJ)(h:T W L (K (.agg ⟨nm (iU a p)⟩))):T W L (dy (aO a) p K):=by
 obtain⟨h1,h2,h3,h4⟩:=ha;unfold dy;apply ws;intros;cases p with
 |true=>
  apply ws;apply Fm h4 h1 h2;exact T.dp h
 |false=>
  apply ws;apply Fm h2 h3 h4;exact T.dp h
end
def EY(a:bN)(d:Bool):Nat:=if d then a.dp else a.cp
def EX(a:bN)(d:Bool):Nat:=if d then a.dq else a.cq
def Px(a:bN)(d:Bool)(x y:Nat):bN:=if d then{a with dp:=x,dq:=y} else{a with cp:=x,cq:=y}
def Hn(d:Bool):Int:=if d then 2 else 4
def Xf(a:bN)(d:Bool)(n:Nat)(p:Bool):more a d n p=
 if bJ<=EY a d+EX a d+n then(a,32) else if has a.ao (Hn d)/\iU a d<n then(a,if d then 33 else 34)
 else(Px a d (if p then EY a d+n else EY a d) (if p then EX a d else EX a d+n),0):=by
 cases d<;>cases p<;>rfl
section
variable {W:World} {L R:LH} {K:VK} {X Y:WK} {a:bN} {t:cx} {r1 r2 r3 r4 r5:Nat}
def Fi{d:Bool}{x y n:Nat}(h:T W L (K (.tuple ⟨[.agg ⟨aO (Px a d x y)⟩,.i 0]⟩))):T W (Sep.pt r5 (nm y)::Sep.pt r4 (nm x)::Sep.pt r3 (aO zA)::Sep.pt r2 (nm n)::Sep.pt r1 (aO a)::L) (ch.j4 K d r4 r1 r5 r3):=by
 unfold ch.j4;unfold Px at h;cases d with
 |true=>
  apply ws;exact T.dp h
 |false=>
  apply ws;exact T.dp h
def Fj{d p b:Bool}{x y n:Nat}(hx:x<bJ)(hy:y<bJ)(hn:n<bJ)(hs:x+y+n<bJ)
 (h:T W L (K (.tuple ⟨[.agg ⟨aO (if b=true then a else Px a d (if p then x+n else x) (if p then y else y+n))⟩,.i (if b=true then(if d then 33 else 34) else 0)]⟩))):
 T W (Sep.pt r5 (nm y)::Sep.pt r4 (nm x)::Sep.pt r3 (aO zA)::Sep.pt r2 (nm n)::Sep.pt r1 (aO a)::L) (ch.j3 K d r1 r3 p r4 r2 r5 b):=by
 unfold ch.j3;cases b with
 |true=>
  rw[ai rfl,ai rfl] at h;cases d with
  |true=>
   apply ws;exact T.dp h
  |false=>
   apply ws;exact T.dp h
 |false=>
  rw[af cJ,af cJ] at h;cases p with
  |true=>
   have e:add x n=x+n:=ai (by omega);apply ws;apply uq hx hn;rw[e];apply ws;exact Fi h
  |false=>
   have e:add y n=y+n:=ai (by omega);apply ws;apply uq hy hn;rw[e];apply ws;exact Fi h
def Fk{d p:Bool}{n:Nat}(ha:a.dp<bJ/\a.dq<bJ/\a.cp<bJ/\a.cq<bJ)(hn:n<bJ)(hf:0<=a.ao/\a.ao<256)(h:T W L (K (.tuple ⟨[.agg ⟨aO (more a d n p).1⟩,.i (more a d n p).2]⟩))):
 T W (Sep.pt r5 (nm (EX a d))::Sep.pt r4 (nm (EY a d))::Sep.pt r3 (aO zA)::Sep.pt r2 (nm n)::Sep.pt r1 (aO a)::L) (ch.j1 K r4 r5 r2 r1 r3 d p (Hn d)):=by
 unfold ch.j1 ch.j2;have hx:EY a d<bJ:=by unfold EY;split<;>omega
 have hy:EX a d<bJ:=by unfold EX;split<;>omega
 have hand:de .i64 .and a.ao (Hn d)=0↔ ¬has a.ao (Hn d):=by
  cases d
  ·exact Mp hf.1 hf.2
  ·exact Mq hf.1 hf.2
 rw[Xf] at h;generalize hX:EY a d=x at *;generalize hY:EX a d=y at *;apply ws;apply uq hx hy;apply ws;intros;apply uq (Gq _ _) hn;apply ws;intros;by_cases hs:x+y<bJ
 ·rw[aw hs];have e:add x y=x+y:=ai hs;rw[e];apply ws;by_cases gI:x+y+n<bJ
  ·rw[af (by omega)] at h;rw[aw gI];apply ws;apply db<;>intro g1
   ·have g1:has a.ao (Hn d):=Decidable.byContradiction λhh=>by rw[hand.2 hh] at g1;simp at g1
    apply ws;apply Co ha;apply ws;refine zg ?_ hn ?_
    ·unfold iU;split<;>omega
    apply ws;rename_i r6 r7;refine T.drop (T.drop (Fj hx hy hn gI ?_));by_cases hl:iU a d<n
    ·rw[ai ⟨g1,hl⟩] at h;rw[ai (aw hl),ai (aw hl)];exact h
    ·rw[af (λhh=>hl hh.2)] at h;rw[af (λhh=>hl (aS hh)),af (λhh=>hl (aS hh))];exact h
   ·have g1: ¬has a.ao (Hn d):=hand.1 (by simpa using g1);rw[af (λhh=>g1 hh.1)] at h;exact T.drop (T.drop (Fj hx hy hn gI (by rw[af cJ,af cJ];exact h)))
  ·rw[ai (by omega)] at h;rw[aq gI];apply ws;exact T.dp h
 ·rw[ai (by omega)] at h;rw[aq hs];apply ws;exact T.dp h
def HA{d p:Bool}{n:Nat}(ha:a.dp<bJ/\a.dq<bJ/\a.cp<bJ/\a.cq<bJ)(hn:n<bJ)(hf:0<=a.ao/\a.ao<256)(h:T W L (K (.tuple ⟨[.agg ⟨aO (more a d n p).1⟩,.i (more a d n p).2]⟩))):T W L (ch (aO a) d (nm n) p K):=by
 unfold ch;apply ws;intros;cases d with
 |true=>
  apply ws;exact Fk (d:=true) ha hn hf h
 |false=>
  apply ws;exact Fk (d:=false) ha hn hf h
end
structure KM(k:cr):Prop where
 asked:yf k.asked
 move:yf k.move
 uZ:0<=k.asked.ao/\k.asked.ao<256
 wq:0<=k.move.ao/\k.move.ao<256
 cA:0<=k.move.cA/\k.move.cA<=1073741824
 jO:0<=k.move.jO/\k.move.jO<=1099511627776
structure RM(m:aA):Prop where
 ground:Md.bS m
 clock:0<=m.clock/\m.clock<=1099511627776
 ay:m.ay=m.dj.length+m.ax.length
 dj:∀a∈m.dj,yi a
 ax:∀k∈m.ax,KM k
def RM.W4{m:aA}(hg:fk (bo m))(rC:Md.bS m):RM m:=by
 refine⟨rC,hg.clock,?_,λa ha=>?_,λk hk=>?_⟩
 ·have:=hg.ay;unfold bo at this;simpa using this
 ·have h1:=(hg.Su (Md.full m.ax a) (List.mem_map_of_mem ha)).ok;obtain⟨z1,z2,z3,z4,z5,z6⟩:=rC.zero a ha;exact⟨h1.id,by rw[z1];decide,by rw[z2];decide,by rw[z3];decide,by rw[z4];decide,h1.bF,h1.code,⟨by omega,by omega⟩,h1.ay⟩
 ·have h1:=hg.Sh k hk;exact⟨h1.asked,h1.move,h1.uZ,h1.wq,h1.cA,h1.jO⟩
def RM.rkA{m:aA}(h:RM m):∀a∈m.dj,MC a:=λa ha=>by
 obtain⟨z1,z2,z3,z4,z5,z6⟩:=h.ground.zero a ha;have:(0:Nat)<bJ:=by decide
 exact⟨by omega,by omega,by omega,by omega,by omega,by omega⟩
def RM.rkK{m:aA}(h:RM m):∀k∈m.ax,RkK k:=λk hk=>by
 have h1:=h.ax k hk;exact⟨h1.move.aT,h1.wq.1,by have:=h1.wq.2;omega⟩
def RM.oS{m:aA}(h:RM m):m.dj.length<=32:=h.ground.oS
def RM.many{m:aA}(h:RM m):m.ax.length<=96:=h.ground.some_
def Iu{a:bN}(h:tH a=0):0<=a.ao/\a.ao<=7:=by
 unfold tH at h;by_cases h1:a.ao<0\/7<a.ao
 ·rw[ai h1] at h;omega
 ·omega
def wL{t:cx}(h:mM t=0):(0<=t.ao/\t.ao<=255)/\0<=t.cA/\t.cA<=1073741824:=by
 unfold mM at h;by_cases h1:t.ao<0\/255<t.ao
 ·rw[ai h1] at h;omega
 rw[af h1] at h;by_cases h2:t.id=0
 ·rw[ai h2] at h;omega
 rw[af h2] at h;by_cases h3:t.id=bJ-1
 ·rw[ai h3] at h;omega
 rw[af h3] at h;by_cases h4: ¬jn t.ao
 ·rw[ai h4] at h;omega
 rw[af h4] at h;by_cases h5:t.ay≠0\/t.jO≠0
 ·rw[ai h5] at h;omega
 rw[af h5] at h;by_cases h6:t.cA<0\/1073741824<t.cA\/0<t.cA/\ ¬has t.ao 2
 ·rw[ai h6] at h;omega
 ·omega
def Yn{m:aA}(hg:Md.bS m)(a:bN):Md.bS (m.make a).2:=((rY m).make hg).2.2
def Ym{m:aA}(hg:Md.bS m)(t:cx):Md.bS (m.move t).2:=((rY m).move hg).2.2
def Yo{m:aA}(hg:Md.bS m)(t:cx):Md.bS (m.oT t).2:=((rY m).oT hg).2.2
def RM.make{m:aA}{a:bN}(h:RM m)(ha:yi a):RM (m.make a).2:=by
 have rC:=Yn h.ground a;have e:(m.make a).2=m\/(tH a=0/\(m.make a).2={m with ay:=m.ay+1,dj:=m.dj++[{a with ay:=m.ay+1,ao:=a.ao/2* 2}]}):=by
  unfold aA.make;by_cases h1:tH a≠0
  ·rw[ai h1];exact .inl rfl
  ·rw[af h1];split
   ·exact .inl rfl
   ·by_cases h2:32<=m.dj.length
    ·rw[ai h2];exact .inl rfl
    ·rw[af h2];exact .inr ⟨by omega,rfl⟩
 rcases e with e|⟨hc,e⟩
 ·rw[e];exact h
 ·rw[e] at rC⊢;have hf:=Iu hc;have wB:=h.oS;have wA:=h.many;have u7:=h.ay;refine⟨rC,h.clock,?_,λx hx=>?_,h.ax⟩
  ·show m.ay+1=((m.dj++[_]).length:Int)+(m.ax.length:Int);rw[au,pT];omega
  ·rcases dY.1 hx with hx|hx
   ·exact h.dj x hx
   ·cases(show x=_ by simpa using hx)
    exact⟨ha.id,ha.dp,ha.dq,ha.cp,ha.cq,ha.bF,ha.code,⟨by show _<=a.ao/2* 2;omega,by show a.ao/2* 2<=_;omega⟩,⟨by show _<=m.ay+1;omega,by show m.ay+1<=_;omega⟩⟩
def RM.nj{m:aA}{t u:cx}{fate:Int}(h:RM m)(rC:Md.bS (m.nj t u fate))(hm:m.ax.length<96)(ht:yf t)(hu:yf u)(hf:0<=t.ao/\t.ao<256)(huf:u.ao=t.ao)(htm:0<=u.cA/\u.cA<=1073741824):RM (m.nj t u fate):=by
 have u7:=h.ay;have wB:=h.oS;have hck:=h.clock;refine⟨rC,h.clock,?_,h.dj,λk hk=>?_⟩
 ·show m.ay+1=(m.dj.length:Int)+((m.ax++[_]).length:Int);rw[au,pT];omega
 ·rcases dY.1 hk with hk|hk
  ·exact h.ax k hk
  ·cases(show k=_ by simpa using hk)
   exact⟨ht,⟨hu.id,hu.bC,hu.aU,hu.aT,hu.pending,hu.cA,hu.bF,hu.code,hu.ao,⟨by show _<=m.ay+1;omega,by show m.ay+1<=_;omega⟩,⟨by show _<=m.clock;omega,by show m.clock<=_;omega⟩⟩,hf,by show 0<=u.ao/\u.ao<256;omega,htm,h.clock⟩
def RM.eS{m:aA}(h:RM m)(i:Nat)(f:Int)(rC:Md.bS (m.eS i f)):RM (m.eS i f):=by
 refine⟨rC,h.clock,?_,h.dj,λk hk=>?_⟩
 ·show m.ay=(m.dj.length:Int)+((m.ax.modify i _).length:Int);rw[List.length_modify];exact h.ay
 ·have hk:k∈m.ax.modify i λk=>{k with fate:=f}:=hk;by_cases hi:i<m.ax.length
  ·rw[modify_eq _ _ _ hi] at hk;rcases fm hk with hh|hh
   ·exact h.ax k hh
   ·have:=h.ax _ (cb hi);subst hh;exact⟨this.asked,this.move,this.uZ,this.wq,this.cA,this.jO⟩
  ·have:m.ax.modify i (λk=>{k with fate:=f})=m.ax:=List.modify_eq_self (by omega);rw[this] at hk;exact h.ax k hk
def GY{t:cx}{named:Option cr}{d c:Option bN}{many:Nat}(h:(iT t named d c many).1=0):(iT t named d c many).2<bJ:=by
 obtain⟨d',c',-,-,-,-,-,-,-,-,-,h1,-⟩:=vn h;omega
def RM.move{m:aA}{t:cx}(h:RM m)(ht:yf t):RM (m.move t).2:=by
 have rC:=Ym h.ground t;unfold aA.move at rC⊢;dsimp only at rC⊢;by_cases h1:(iT t (m.named t.id) ((m.find t.bC).map m.full) ((m.find t.aU).map m.full) m.ax.length).1≠0
 ·rw[ai h1];exact h
 ·rw[af h1] at rC⊢;have h1:=bp.1 h1;have ham:=GY h1;obtain⟨d',c',-,-,-,hc,-,-,-,-,wA,-⟩:=vn h1;obtain⟨z1,z2⟩:=wL hc;exact h.nj rC wA ht ⟨ht.id,ht.bC,ht.aU,ham,ht.pending,ht.cA,ht.bF,ht.code,ht.ao,ht.ay,ht.jO⟩ ⟨z1.1,by omega⟩ rfl z2
def RM.oT{m:aA}{t:cx}(h:RM m)(ht:yf t):RM (m.oT t).2:=by
 have rC:=Yo h.ground t;unfold aA.oT at rC⊢;cases hn:m.name t.pending with
 |none=>exact h
 |some i=>
  rw[hn] at rC;dsimp only at rC⊢;cases hk:m.ax[i]? with
  |none=>exact h
  |some k=>
   rw[hk] at rC;dsimp only at rC⊢;by_cases h1:kM t (m.named t.id) (some k) (m.closed k.move.bC i) (m.closed k.move.aU i) m.ax.length≠0
   ·rw[ai h1];exact h
   ·rw[af h1] at rC⊢;have h1:=bp.1 h1;obtain⟨Rs,hie⟩:=av.1 hk;have qe:=cn hk;have hf:=h.ground.wH k qe;obtain⟨-,hc,he,hw,XH,-,wA⟩:=F4 h1 hf.1;obtain⟨z1,z2⟩:=wL hc;have P6:=h.ax k qe;have afq:m.ax[i].fate=1:=by rw[hie];have:=hf.2.2.1 hw;omega
    have Rk:=h.ground.eS Rs afq (f:=dP t) (by unfold dP;split<;>omega);refine(h.eS i (dP t) Rk).nj rC (by show(m.ax.modify i _).length<96;rw[List.length_modify];exact wA) ht ?_ ⟨z1.1,by omega⟩ rfl z2;refine⟨ht.id,P6.move.bC,P6.move.aU,?_,ht.pending,ht.cA,P6.move.bF,P6.move.code,ht.ao,ht.ay,ht.jO⟩;show dw t k.move<bJ;unfold dw;split
    ·exact P6.move.aT
    ·exact ht.aT
def RM.lO{m:aA}{t:cx}(h:RM m)(ht:yf t):RM (m.lO t).2:=by
 unfold aA.lO;split
 ·exact h.oT ht
 ·exact h.move ht
def RM.time{m:aA}(h:RM m)(now:Int)(h0:0<=now):RM (m.time now):=by
 refine⟨C0 h.ground now,?_,?_,h.dj,λk hk=>?_⟩
 ·show 0<=(if m.clock<now/\now<=1099511627776 then now else m.clock)/\(if m.clock<now/\now<=1099511627776 then now else m.clock)<=1099511627776;have:=h.clock;split<;>omega
 ·show m.ay=(m.dj.length:Int)+((m.ax.map _).length:Int);rw[bY];exact h.ay
 ·obtain⟨x,hx,rfl⟩:=dF.1 hk;have:=h.ax x hx;have hx':∀(p:Prop) [Decidable p],KM (if p then{x with fate:=4} else x):=λp _=>by
   by_cases hp:p
   ·rw[ai hp];exact⟨this.asked,this.move,this.uZ,this.wq,this.cA,this.jO⟩
   ·rw[af hp];exact this
  exact hx' _
def rv{α:Type}(P:α->Bool)(l:List α):(l.find? P=none/\l.findIdx? P=none/\FM P l= -1)\/∃i x,l[i]?=some x/\P x=true/\l.find? P=some x/\l.findIdx? P=some i/\FM P l=(i:Int):=by
 cases h:l.findIdx? P with
 |none=>
  left
  have h2:=List.findIdx?_eq_none_iff.1 h;refine⟨pM.2 λx hx=>by rw[h2 x hx];decide,rfl,?_⟩;unfold FM;rw[h]
 |some i=>
  right
  obtain⟨hi,h1,h2⟩:=List.findIdx?_eq_some_iff_getElem.1 h;refine⟨i,l[i],aj hi,h1,?_,rfl,?_⟩
  ·rw[List.find?_eq_some_iff_getElem];exact⟨h1,i,hi,rfl,λj hj=>by simpa using h2 j hj⟩
  ·unfold FM;rw[h]
section
variable {W:World} {L R:LH} {K:VK} {X:WK} {p:Nat} {m:aA} {mb kb:OA} {mc kc:Nat} {a:bN} {t:cx}
def T.Sf{A:HP}(h:T W (ML p m mb mc kb kc (A::R)) X):T W (A::ML p m mb mc kb kc R) X:=
 T.perm h (bt (l₁:=[A]) (l₂:=[_,_,_])|>.append_right R)
def T.in1{A:HP}(h:T W (A::ML p m mb mc kb kc R) X):T W (ML p m mb mc kb kc (A::R)) X:=
 T.perm h (bt (l₁:=[_,_,_]) (l₂:=[A])|>.append_right R)
def WR(hm:RM m)(ha:yi a)(h:∀su ss,T W (ML p (m.make a).2 su ss kb kc R) (K (.i (m.make a).1))):T W (ML p m mb mc kb kc R) (kI (ah p) (aO a) K):=by
 unfold kI;have wB:=hm.oS;have wA:=hm.many;have u7:=hm.ay;apply ws;intros;rename_i r1;apply ND ha;apply ws;unfold aA.make at h;apply db<;>intro g1
 ·have g1:tH a≠0:=by simpa using g1
  rw[ai g1] at h;have:=h mb mc;exact T.dp this
 have g1:tH a=0:=by simpa using g1
 rw[af (λhh=>hh g1)] at h;have Jq:=Iu g1;apply ws;apply T.Sf;apply xi (by omega);apply ws;unfold aA.find at h;rcases rv (λx:bN=>decide (x.id=a.id)) m.dj with⟨f1,f2,f3⟩|⟨i,x,f1,f2,f3,f4,f5⟩
 ·rw[f1] at h;dsimp only at h;rw[f3];apply eO (by decide);apply ws;apply fZ<;>intro g2
  ·rw[ai (by omega)] at h;apply T.in1;exact T.drop (h mb mc)
  ·rw[af (by omega)] at h;have e1:aa.wrap (m.ay+1)=m.ay+1:=aX (by omega);have e2:aa.wrap (aa.wrap (a.ao.tdiv 2)* 2)=a.ao/2* 2:=by rw[zp Jq.1 (by omega) (by decide),aX (by omega)]
   apply ws;rw[e1];apply dJ (by decide);rw[e2];apply ws;intros;refine kP (b:=mb) (g:=aO) (l:=m.dj) (x:={a with ay:=m.ay+1,ao:=a.ao/2* 2}) (bO _) rfl rfl (by show(m.dj.length+1)* 112<=_;omega) (by show m.dj.length+1<=_;omega) (iW _) λb' c'=>?_;apply ws;have:=h b' c';unfold ML GD at this;simp only[au,aW,cK,aD] at this;apply T.sub this;exact pX
 ·rw[f3] at h;dsimp only at h;rw[f5];have Rs:=(av.1 f1).1;have hz:=hm.ground.zero x (cn f1);apply kL (aw (by omega));apply ws;refine dT (b:=mb) ⟨by omega,by omega⟩ λrb hb=>?_;rw[ak];subst hb;apply ij jR f1;apply NH (by omega) (by omega);apply ws;apply T.in1;exact T.drop (h _ mc)
end
def mvA(m:aA)(t:cx)(d c:bN)(n:Nat):Int×aA:=
 if(more d true n (decide (has t.ao 2))).2≠0 then((more d true n (decide (has t.ao 2))).2,m)
 else if(more c false n (decide (has t.ao 2))).2≠0 then((more c false n (decide (has t.ao 2))).2,m)
 else(0,m.nj t {t with aT:=n} (waits t))
def mvB(m:aA)(t:cx)(d c:bN)(n:Nat):Int×aA:=
 if has t.ao 32 then(if min n (iU c false)=0 then(34,m) else mvA m t d c (min n (iU c false))) else mvA m t d c n
def mvC(m:aA)(t:cx)(d c:bN)(n:Nat):Int×aA:=
 if has t.ao 16 then(if min n (iU d true)=0 then(33,m) else mvB m t d c (min n (iU d true))) else mvB m t d c n
def acX{m:aA}{t:cx}{d c:bN}(h1:mM t=0)(h2: ¬jM t.ao)(h3:m.named t.id=none)(hd:(m.find t.bC).map m.full=some d)(hc:(m.find t.aU).map m.full=some c)
 (h4:d.bF=c.bF)(h5:d.bF=t.bF)(h6: ¬8<=d.ao)(h7: ¬8<=c.ao)(h8: ¬96<=m.ax.length):m.move t=mvC m t d c (if t.aT=0 then bJ-1 else t.aT):=by
 unfold aA.move iT;rw[hd,hc,h3];dsimp only;rw[af (show ¬mM t≠0 from λhh=>hh h1),af h2,af (show ¬d.bF≠c.bF from λhh=>hh h4),af (show ¬d.bF≠t.bF from λhh=>hh h5),af h6,af h7,af h8];have key:∀n:Nat,cN t d c=(n,0)->(let r:=(if(cN t d c).2≠0 then((cN t d c).2,0) else if(more d true (cN t d c).1 (decide (has t.ao 2))).2≠0 then((more d true (cN t d c).1 (decide (has t.ao 2))).2,0)
                      else if(more c false (cN t d c).1 (decide (has t.ao 2))).2≠0 then((more c false (cN t d c).1 (decide (has t.ao 2))).2,0) else(0,(cN t d c).1):Int×Nat)
                      if r.1≠0 then(r.1,m) else(0,m.nj t {t with aT:=r.2} (waits t)))=mvA m t d c n:=λn he=>by
  rw[he];dsimp only;rw[af (show ¬((0:Int)≠0) from λhh=>hh rfl)];unfold mvA;by_cases g1:(more d true n (decide (has t.ao 2))).2≠0
  ·rw[ai g1,ai g1,ai g1]
  ·rw[af g1,af g1];by_cases g2:(more c false n (decide (has t.ao 2))).2≠0
   ·rw[ai g2,ai g2,ai g2]
   ·rw[af g2,af g2]
    rfl
 have bad:∀r:Int,r≠0->cN t d c=(0,r)->(let r:=(if(cN t d c).2≠0 then((cN t d c).2,0) else if(more d true (cN t d c).1 (decide (has t.ao 2))).2≠0 then((more d true (cN t d c).1 (decide (has t.ao 2))).2,0)
  else if(more c false (cN t d c).1 (decide (has t.ao 2))).2≠0 then((more c false (cN t d c).1 (decide (has t.ao 2))).2,0) else(0,(cN t d c).1):Int×Nat)
  if r.1≠0 then(r.1,m) else(0,m.nj t {t with aT:=r.2} (waits t)))=(r,m):=λr hr he=>by
  rw[he];dsimp only;rw[ai hr,ai hr]
 unfold mvC mvB;generalize hn:(if t.aT=0 then bJ-1 else t.aT)=n;by_cases a1:has t.ao 16
 ·rw[ai a1];by_cases a2:min n (iU d true)=0
  ·rw[ai a2];apply bad 33 (by decide);unfold cN;rw[hn];simp only[ai a1,a1,a2,and_self,if_true]
  ·rw[af a2];by_cases a3:has t.ao 32
   ·rw[ai a3];by_cases a4:min (min n (iU d true)) (iU c false)=0
    ·rw[ai a4];apply bad 34 (by decide);unfold cN;rw[hn];simp only[ai a1,ai a3,a1,a2,a3,a4,and_self,if_true,and_false,if_false]
    ·rw[af a4];apply key _;unfold cN;rw[hn];simp only[ai a1,ai a3,a1,a2,a3,a4,and_self,if_true,and_false,if_false]
   ·rw[af a3];apply key _;unfold cN;rw[hn];simp only[ai a1,af a3,a1,a2,a3,and_self,if_true,and_false,false_and,if_false]
 ·rw[af a1];by_cases a3:has t.ao 32
  ·rw[ai a3];by_cases a4:min n (iU c false)=0
   ·rw[ai a4];apply bad 34 (by decide);unfold cN;rw[hn];simp only[af a1,ai a3,a1,a3,a4,and_self,if_true,and_false,false_and,if_false]
   ·rw[af a4];apply key _;unfold cN;rw[hn];simp only[af a1,ai a3,a1,a3,a4,and_self,if_true,and_false,false_and,if_false]
  ·rw[af a3];apply key _;unfold cN;rw[hn];simp only[af a1,af a3,a1,a3,and_self,if_true,and_false,false_and,if_false]
section
variable {W:World} {L R:LH} {K:VK} {X:WK} {p:Nat} {m:aA} {mb kb:OA} {mc kc:Nat} {a d c:bN} {t:cx} {r1 r2 r3 r4 r5:Nat} {n:Nat}
def T.Kq{L':LH}{A:HP}(h:T W (ML p m mb mc kb kc (A::L')) X):T W (A::ML p m mb mc kb kc L') X:=T.Sf h
def KW(hm:m.ax.length<1000000)(hs:0<=m.ay/\m.ay<1000000)(hd:MC d)(hc:MC c)(VV:d.ao<256)(V0:c.ao<256)(hf:0<=t.ao/\t.ao<1000000)(hn:n<bJ)
 (h:∀lE lD,T W (ML p (mvA m t d c n).2 mb mc lE lD R) (K (.i (mvA m t d c n).1))):
 T W (ML p m mb mc kb kc (Sep.pt r5 (nm n)::Sep.pt r4 [.u 0,.u 0]::Sep.pt r3 (aO c)::Sep.pt r2 (aO d)::Sep.pt r1 (aM t)::R)) (bU.j3 K r1 r2 r5 r3 (ah p)):=by
 obtain⟨d1,d2,d3,d4,d5,d6⟩:=hd;obtain⟨c1,c2,c3,c4,c5,c6⟩:=hc;unfold bU.j3;unfold mvA at h;apply ws;apply lj hf (by decide);apply ws;apply HA ⟨d1,d2,d3,d4⟩ hn ⟨d5,VV⟩;apply aae;apply DE (by rfl);apply ws;apply db<;>intro g1
 ·have g1:=eY.1 g1;rw[ai g1] at h;apply T.sub (h kb kc);exact pX
 have g1:(more d true n (decide (has t.ao 2))).2=0:=by simpa using g1
 rw[af (λhh=>hh g1)] at h;apply ws;apply HA ⟨c1,c2,c3,c4⟩ hn ⟨c5,V0⟩;apply aae;apply DE (by rfl);apply ws;apply db<;>intro g2
 ·have g2:=eY.1 g2;rw[ai g2] at h;apply T.sub (h kb kc);exact pX
 have g2:(more c false n (decide (has t.ao 2))).2=0:=by simpa using g2
 rw[af (λhh=>hh g2)] at h;apply ws;intros;rename_i r6;apply T.Kq;by_cases hw:has t.ao 2
 ·rw[aw hw];rw[show waits t=1 from ai hw] at h;apply ws;refine I9 hm hs λb' c'=>?_;apply ws;apply T.sub (h b' c');exact pX
 ·rw[aq hw];rw[show waits t=0 from af hw] at h;apply ws;refine I9 hm hs λb' c'=>?_;apply ws;apply T.sub (h b' c');exact pX
def HR(a b:Nat):(if a<b then a else b)=min a b:=by split<;>omega
def H'{a:bN}{b:Bool}(h:MC a):iU a b<bJ:=by
 obtain⟨h1,h2,h3,h4,_⟩:=h;unfold iU;split<;>omega
def KX(hm:m.ax.length<1000000)(hs:0<=m.ay/\m.ay<1000000)(hd:MC d)(hc:MC c)(VV:d.ao<256)(V0:c.ao<256)(hf:0<=t.ao/\t.ao<1000000)(hn:n<bJ)
 (h:∀lE lD,T W (ML p (mvB m t d c n).2 mb mc lE lD R) (K (.i (mvB m t d c n).1))):
 T W (ML p m mb mc kb kc (Sep.pt r5 (nm n)::Sep.pt r4 [.u 0,.u 0]::Sep.pt r3 (aO c)::Sep.pt r2 (aO d)::Sep.pt r1 (aM t)::R)) (bU.j2 K r1 r5 r3 r4 r2 (ah p)):=by
 have hl:=H' (b:=false) hc;unfold bU.j2;unfold mvB at h;apply ws;apply lj hf (by decide);by_cases hw:has t.ao 32
 ·rw[aw hw];rw[ai hw] at h;apply ws;apply Co ⟨hc.1,hc.2.1,hc.2.2.1,hc.2.2.2.1⟩;apply DE (by rfl);apply ws;apply Fh hn hl;apply DE (by rfl);rw[HR];apply ws;apply fZ<;>intro g1
  ·rw[ai g1] at h;apply T.sub (h kb kc);exact pX
  ·rw[af g1] at h;exact KW hm hs hd hc VV V0 hf (by omega) h
 ·rw[aq hw];rw[af hw] at h;apply ws;exact KW hm hs hd hc VV V0 hf hn h
def KY(hm:m.ax.length<1000000)(hs:0<=m.ay/\m.ay<1000000)(hd:MC d)(hc:MC c)(VV:d.ao<256)(V0:c.ao<256)(hf:0<=t.ao/\t.ao<1000000)(hn:n<bJ)
 (h:∀lE lD,T W (ML p (mvC m t d c n).2 mb mc lE lD R) (K (.i (mvC m t d c n).1))):
 T W (ML p m mb mc kb kc (Sep.pt r5 (nm n)::Sep.pt r4 [.u 0,.u 0]::Sep.pt r3 (aO c)::Sep.pt r2 (aO d)::Sep.pt r1 (aM t)::R)) (bU.j1 K r1 r5 r2 r4 r3 (ah p)):=by
 have hl:=H' (b:=true) hd;unfold bU.j1;unfold mvC at h;apply ws;apply lj hf (by decide);by_cases hw:has t.ao 16
 ·rw[aw hw];rw[ai hw] at h;apply ws;apply Co ⟨hd.1,hd.2.1,hd.2.2.1,hd.2.2.2.1⟩;apply DE (by rfl);apply ws;apply Fh hn hl;apply DE (by rfl);rw[HR];apply ws;apply fZ<;>intro g1
  ·rw[ai g1] at h;apply T.sub (h kb kc);exact pX
  ·rw[af g1] at h;exact KX hm hs hd hc VV V0 hf (by omega) h
 ·rw[aq hw];rw[af hw] at h;apply ws;exact KX hm hs hd hc VV V0 hf hn h
end
section
variable {W:World} {L R:LH} {K:VK} {X:WK} {p:Nat} {m:aA} {mb kb:OA} {mc kc:Nat} {a d c:bN} {t:cx} {r1 r2 r3 r4 r5:Nat} {n:Nat}
def SS{α:Type}{r n c e o j q:Nat}{l:List α}{x:α}{g:α->LV}{f:HP->LH}{ys:LV}{K:LV->WK}[i:vI (ah r) n c L e (l.flatMap g) f](hf:∀x,(g x).length=e)(hx:l[o]?=some x)[s:Sub (g x) j q ys](h:T W L (K ys)):T W L (aJ ⟨r,o* e+j,none⟩ q K):=λw hs=>by
 obtain⟨k,hk,_⟩:=i.at_;exact Ec hs hk s.is.1 (λu v hu=>by rw[Nat.add_assoc];exact qP hf l o x hx _ v (s.is.2 u v hu)) (h w hs)
def SU{α:Type}{r n c e o q:Nat}{l:List α}{x:α}{g:α->LV}{f:HP->LH}{ys:LV}{K:LV->WK}[i:vI (ah r) n c L e (l.flatMap g) f](hf:∀x,(g x).length=e)(hx:l[o]?=some x)[s:Sub (g x) 0 q ys](h:T W L (K ys)):T W L (aJ ⟨r,o* e,none⟩ q K):=SS (j:=0) hf hx h
def Dn{m:aA}(h:RM m){a:bN}(ha:a∈m.dj):MC (m.full a)/\(m.full a).ao<256/\(m.full a).bF=a.bF:=by
 have h1:=KT m.ax (h.rkA a ha);refine⟨h1,?_,?_⟩
 ·rw[h.ground.full ha];obtain⟨z1,z2,z3,z4,z5,z6⟩:=h.ground.zero a ha;show(if S (uR a.id) m.ax=0 then a.ao else a.ao%8+8)<256;split<;>omega
 ·rw[h.ground.full ha];rfl
def UY{m:aA}{t:cx}{r:Int}(hr:r≠0)(h:iT t (m.named t.id) ((m.find t.bC).map m.full) ((m.find t.aU).map m.full) m.ax.length=(r,0)):m.move t=(r,m):=by
 unfold aA.move;rw[h];dsimp only;rw[ai hr]
def Pt(hm:RM m)(ht:yf t)(h:∀lE lD,T W (ML p (m.move t).2 mb mc lE lD R) (K (.i (m.move t).1))):T W (ML p m mb mc kb kc R) (bU (ah p) (aM t) K):=by
 unfold bU;have wB:=hm.oS;have wA:=hm.many;have u7:=hm.ay;apply ws;intros;rename_i r1;apply Aq ht;apply ws;have tC:∀r:Int,r≠0->iT t (m.named t.id) ((m.find t.bC).map m.full) ((m.find t.aU).map m.full) m.ax.length=(r,0)->∀lE lD,T W (ML p m mb mc lE lD R) (K (.i r)):=λr hr he lE lD=>by
  have:=h lE lD;rw[UY hr he] at this;exact this
 unfold iT at tC;apply db<;>intro g1
 ·have g1:mM t≠0:=by simpa using g1
  rw[ai g1] at tC;have:=tC _ g1 rfl kb kc;exact T.dp this
 have g1:mM t=0:=by simpa using g1
 rw[af (λhh=>hh g1)] at tC;obtain⟨Jq,htm⟩:=wL g1;have hf:0<=t.ao/\t.ao<1000000:=by omega
 apply ws;apply wm hf;apply ws;apply fZ<;>intro g2
 ·rw[ai g2] at tC;have:=tC _ (by decide) rfl kb kc;exact T.dp this
 rw[af g2] at tC;apply ws;apply T.Sf;apply I8 (by omega);apply ws;have P4:m.named t.id=m.ax.find? λk=>decide (k.move.id=t.id):=rfl;rcases rv (λx:cr=>decide (x.move.id=t.id)) m.ax with⟨f1,f2,f3⟩|⟨i,x,f1,f2,f3,f4,f5⟩
 rotate_left
 ·rw[P4,f3] at tC;dsimp only at tC;rw[f5];have Rs:=(av.1 f1).1;have hx:=hm.ax x (cn f1);apply kL (aw (by omega));apply ws;refine dT (b:=kb) ⟨by omega,by omega⟩ λrb hb=>?_;rw[ak];subst hb;apply SU jy f1;refine Fo hf ⟨hx.uZ.1,by have:=hx.uZ.2;omega⟩ ?_;apply ws;apply T.sub (tC _ (qz _ _) rfl (ah rb) kc);exact pX
 rw[P4,f1] at tC;dsimp only at tC;rw[f3];apply eO (by decide);apply ws;apply xi (by omega);apply ws;apply xi (by omega);apply ws;have ZC:m.find t.bC=m.dj.find? λa=>decide (a.id=t.bC):=rfl;have ZD:m.find t.aU=m.dj.find? λa=>decide (a.id=t.aU):=rfl;rcases rv (λx:bN=>decide (x.id=t.bC)) m.dj with⟨d1,d2,d3⟩|⟨i,d,d1,d2,d3,d4,d5⟩
 ·rw[ZC,d1] at tC;rw[d3];apply kL (by decide);apply T.sub (tC 19 (by decide) rfl kb kc);exact pX
 rw[ZC,d3] at tC;rw[d5];apply eO (aq (by omega));rcases rv (λx:bN=>decide (x.id=t.aU)) m.dj with⟨c1,c2,c3⟩|⟨j,c,c1,c2,c3,c4,c5⟩
 ·rw[ZD,c1] at tC;rw[c3];apply kL (by decide);apply T.sub (tC 20 (by decide) rfl kb kc);exact pX
 rw[ZD,c3] at tC;rw[c5];apply eO (aq (by omega));dsimp only[fF] at tC;have Jr:=cn d1;have Sm:=cn c1;obtain⟨hda,VV,zF⟩:=Dn hm Jr;obtain⟨hca,V0,pV⟩:=Dn hm Sm;apply DW (by omega) d1 (hm.rkA d Jr) hm.rkK;apply DE (by rfl);apply ws;intros;rename_i r2;apply T.Kq;apply DW (by omega) c1 (hm.rkA c Sm) hm.rkK;apply DE (by rfl);apply ws;intros;rename_i r3;apply T.Kq;have ed:m.ax.foldl xg d=m.full d:=rfl;have ec:m.ax.foldl xg c=m.full c:=rfl;rw[ed,ec];apply db<;>intro g3
 ·have g3:=eY.1 g3;rw[ai g3] at tC;apply T.sub (tC _ (by decide) rfl kb kc);exact pX
 have g3:(m.full d).bF=(m.full c).bF:=by simpa using g3
 rw[af (λhh=>hh g3)] at tC;apply ws;apply db<;>intro g4
 ·have g4:=eY.1 g4;rw[ai g4] at tC;apply T.sub (tC _ (by decide) rfl kb kc);exact pX
 have g4:(m.full d).bF=t.bF:=by simpa using g4
 rw[af (λhh=>hh g4)] at tC;apply ws;apply fZ<;>intro g5
 ·rw[ai (show 8<=(m.full d).ao by omega)] at tC;apply T.sub (tC _ (by decide) rfl kb kc);exact pX
 rw[af (show ¬8<=(m.full d).ao by omega)] at tC;apply ws;apply fZ<;>intro g6
 ·rw[ai (show 8<=(m.full c).ao by omega)] at tC;apply T.sub (tC _ (by decide) rfl kb kc);exact pX
 rw[af (show ¬8<=(m.full c).ao by omega)] at tC;apply ws;apply fZ<;>intro g7
 ·rw[ai (show 96<=m.ax.length by omega)] at tC;apply T.sub (tC _ (by decide) rfl kb kc);exact pX
 have hmi:=acX (m:=m) (t:=t) (d:=m.full d) (c:=m.full c) g1 g2 (by rw[P4,f1]) (by rw[ZC,d3];rfl) (by rw[ZD,c3];rfl) g3 g4 (by omega) (by omega) (by omega);rw[hmi] at h;apply ws;intros;rename_i r4 r5;apply fZ<;>intro g8
 ·rw[ai g8] at h;apply ws;have ew:([.u 18446744073709551615,.u 18446744073709551615]:LV)=nm (bJ-1):=by unfold nm bJ;rfl
  rw[ew];refine T.perm (L:=ML p m mb mc kb kc (Sep.pt r5 (nm (bJ-1))::Sep.pt r4 [.u 0,.u 0]::Sep.pt r3 (aO (m.full c))::Sep.pt r2 (aO (m.full d))::Sep.pt r1 (aM t)::R)) ?_ (bt (l₁:=[Sep.pt r5 (nm (bJ-1)),Sep.pt r4 [.u 0,.u 0]]) (l₂:=[_,_,_])|>.append_right _);exact KY (by omega) (by omega) hda hca VV V0 hf (by unfold bJ;decide) h
 ·rw[af g8] at h;refine T.perm (L:=ML p m mb mc kb kc (Sep.pt r5 (nm t.aT)::Sep.pt r4 [.u 0,.u 0]::Sep.pt r3 (aO (m.full c))::Sep.pt r2 (aO (m.full d))::Sep.pt r1 (aM t)::R)) ?_ (bt (l₁:=[Sep.pt r5 (nm t.aT),Sep.pt r4 [.u 0,.u 0]]) (l₂:=[_,_,_])|>.append_right _);exact KY (by omega) (by omega) hda hca VV V0 hf ht.aT h
end
def Uw(m:aA)(t:cx)(i:Nat)(k:cr):Int×aA:=
 if mA t k.move then(26,m) else if has t.ao 4/\m.closed k.move.bC i=true then(30,m) else if has t.ao 4/\m.closed k.move.aU i=true then(31,m) else if 96<=m.ax.length then(35,m)
 else(0,(m.eS i (dP t)).nj t (nL t k.move) 0)
def adP{m:aA}{t:cx}{i:Nat}{k:cr}(h1:mM t=0)(h2:jM t.ao)(h3:m.named t.id=none)(hi:m.name t.pending=some i)(hk:m.ax[i]?=some k)
 (h4:has k.move.ao 2)(h5: ¬fP t k.move)(h6: ¬1<k.fate):m.oT t=Uw m t i k:=by
 unfold aA.oT kM;rw[hi];dsimp only;rw[hk,h3];dsimp only;rw[af (show ¬mM t≠0 from λhh=>hh h1),af (show ¬ ¬jM t.ao from λhh=>hh h2),af (show ¬ ¬has k.move.ao 2 from λhh=>hh h4),af h5,af h6];unfold Uw;by_cases a1:mA t k.move
 ·rw[ai a1,ai a1];rfl
 rw[af a1,af a1];by_cases a2:has t.ao 4/\m.closed k.move.bC i=true
 ·rw[ai a2,ai a2];rfl
 rw[af a2,af a2];by_cases a3:has t.ao 4/\m.closed k.move.aU i=true
 ·rw[ai a3,ai a3];rfl
 rw[af a3,af a3];by_cases a4:96<=m.ax.length
 ·rw[ai a4,ai a4];rfl
 rw[af a4,af a4];rfl
def KF{m:aA}{i:Nat}{x:cr}(hx:m.ax[i]?=some x)(f:Int):m.eS i f={m with ax:=m.ax.set i {x with fate:=f}}:=by
 obtain⟨hi,he⟩:=av.1 hx;unfold aA.eS;rw[modify_eq _ _ _ hi,he]
def On{m:aA}{i:Nat}{x:cr}{id:Nat}{a:bN}(hx:m.ax[i]?=some x)(hf:m.find id=some a):m.closed id i=decide (8<=((m.ax.set i {x with fate:=3}).foldl xg a).ao):=by
 obtain⟨hi,he⟩:=av.1 hx;unfold aA.closed;rw[hf];dsimp only;rw[modify_eq _ _ _ hi,he]
section
variable {W:World} {L R:LH} {K:VK} {X:WK} {p:Nat} {m:aA} {mb kb:OA} {mc kc:Nat} {a d c:bN} {t u:cx} {r1 r2 r3 r4 r5:Nat} {n i:Nat} {x:cr}
def Fc(hm:RM m)(hx:m.ax[i]?=some x){id:Nat}(AV:id∈m.dj.map (·.id))(h:T W (ML p m mb mc kb kc R) (K (.b (m.closed id i)))):T W (ML p m mb mc kb kc R) (gJ (ah p) (nm id) (i:Int) K):=by
 have wB:=hm.oS;have wA:=hm.many;rcases rv (λx:bN=>decide (x.id=id)) m.dj with⟨f1,f2,f3⟩|⟨j,y,f1,f2,f3,f4,f5⟩
 ·obtain⟨a,ha,he⟩:=dF.1 AV;have:=pM.1 f1 a ha;rw[he] at this;exact aQ (aw rfl) this
 ·rw[On hx (show m.find id=some y from f3)] at h;exact QW (by omega) (by omega) hx f5 f1 (hm.rkA y (cn f1)) hm.rkK h
def Pu(hs:0<=m.ay/\m.ay<1000000)(hm:m.ax.length<1000000)(hn:n=dw t u)
 (h:∀lE lD,T W (ML p (m.nj t (nL t u) 0) mb mc lE lD R) (K (.i 0))):
 T W (ML p m mb mc kb kc (Sep.pt r4 (nm n)::Sep.pt r3 [.u 0,.u 0]::Sep.pt r2 (aM u)::Sep.pt r1 (aM t)::R)) (az.j6 K r1 r2 r4 (ah p)):=by
 unfold az.j6;subst hn;apply ws;intros;rename_i r5;apply T.Kq;refine I9 (u:=nL t u) hm hs λb' c'=>?_;apply ws;apply T.sub (h b' c');exact pX
def Pv(hm:RM m)(hx:m.ax[i]?=some x)(XH: ¬1<x.fate)
 (h:∀lE lD,T W (ML p (Uw m t i x).2 mb mc lE lD R) (K (.i (Uw m t i x).1)))(ht:t.aT<bJ):
 T W (ML p m mb mc kb kc (Sep.pt r4 (nm (dw t x.move))::Sep.pt r3 [.u 0,.u 0]::Sep.pt r2 (aM x.move)::Sep.pt r1 (aM t)::R)) (az.j2 K (decide (has t.ao 4)) r2 r4 (ah p) (i:Int) r1):=by
 have wB:=hm.oS;have wA:=hm.many;have u7:=hm.ay;have qe:=cn hx;have Rs:=(av.1 hx).1;have VM:=hm.ground.yF x qe;have T8:=hm.ax x qe;have hea:dw t x.move<bJ:=by unfold dw;split;exact T8.move.aT;exact ht
 have Rk:∀f:Int,∀lE lD,T W (ML p (m.eS i f) mb mc lE lD (Sep.pt r4 (nm (dw t x.move))::Sep.pt r3 [.u 0,.u 0]::Sep.pt r2 (aM x.move)::Sep.pt r1 (aM t)::R)) (az.j6 K r1 r2 r4 (ah p))->
  T W (Sep.pt p (GD m mb mc lE lD)::own mb m.dj.length mc 14 (m.dj.flatMap aO)::own lE m.ax.length lD 33 ((m.ax.set i {x with fate:=f}).flatMap bM)::(Sep.pt r4 (nm (dw t x.move))::Sep.pt r3 [.u 0,.u 0]::Sep.pt r2 (aM x.move)::Sep.pt r1 (aM t)::R)) (az.j6 K r1 r2 r4 (ah p)):=λf lE lD hh=>by
  rw[KF hx] at hh;exact Vr iH hh
 have j5:∀b:Bool,((has t.ao 4/\m.closed x.move.bC i=true)->False)-> ¬mA t x.move->b=decide (has t.ao 4/\m.closed x.move.aU i=true)->
  T W (ML p m mb mc kb kc (Sep.pt r4 (nm (dw t x.move))::Sep.pt r3 [.u 0,.u 0]::Sep.pt r2 (aM x.move)::Sep.pt r1 (aM t)::R)) (az.j5 K (ah p) (i:Int) (decide (has t.ao 4)) r1 r2 r4 b):=λb Kb jW hb=>by
  unfold az.j5;unfold Uw at h;rw[af jW,af Kb] at h;cases b with
  |true=>
   rw[ai (aS hb.symm)] at h;apply ws;apply T.sub (h kb kc);exact pX
  |false=>
   rw[af (bq hb.symm)] at h;apply ws;apply fZ<;>intro g1
   ·rw[ai (by omega)] at h;apply T.sub (h kb kc);exact pX
   rw[af (by omega)] at h;apply ws;refine dT (b:=kb) ⟨by omega,by omega⟩ λrb wE=>?_;rw[ak];subst wE;apply O0;apply EO (o:=i) (x:=x) (y:={x with fate:=3}) jy hx rfl (by decide) rfl;have Zq:m.ax.length=(m.ax.set i {x with fate:=3}).length:=iH.symm;by_cases h4:has t.ao 4
   ·rw[aw h4];rw[show dP t=2 from ai h4] at h;apply ws;refine dT (b:=ah rb) ⟨by omega,by omega⟩ λrb2 wE=>?_;rw[ak];cases wE
    apply O0;refine EO (o:=i) (x:={x with fate:=3}) (y:={x with fate:=2}) jy (by rw[List.getElem?_set_self (by omega)]) rfl (by decide) rfl ?_;rw[jC];apply Rk 2 _ _;refine Pu (m:=m.eS i 2) (by show 0<=m.ay/\m.ay<1000000;omega) (by show(m.ax.modify i _).length<_;rw[List.length_modify];omega) rfl h
   ·rw[aq h4];rw[show dP t=3 from af h4] at h;apply ws;apply Rk 3 _ _;refine Pu (m:=m.eS i 3) (by show 0<=m.ay/\m.ay<1000000;omega) (by show(m.ax.modify i _).length<_;rw[List.length_modify];omega) rfl h
 have j4:∀b:Bool,¬mA t x.move->b=decide (has t.ao 4/\m.closed x.move.bC i=true)->
  T W (ML p m mb mc kb kc (Sep.pt r4 (nm (dw t x.move))::Sep.pt r3 [.u 0,.u 0]::Sep.pt r2 (aM x.move)::Sep.pt r1 (aM t)::R)) (az.j4 K (decide (has t.ao 4)) r2 (ah p) (i:Int) r1 r4 b):=λb jW hb=>by
  unfold az.j4;cases b with
  |true=>
   unfold Uw at h;rw[af jW,ai (aS hb.symm)] at h;apply ws;apply T.sub (h kb kc);exact pX
  |false=>
   have Kb:=bq hb.symm;by_cases h4:has t.ao 4
   ·rw[aw h4] at j5⊢;apply ws;apply Fc hm hx VM.2.2;apply sA;apply j5 _ Kb jW;cases pV:m.closed x.move.aU i
    ·exact(aq (λhh=>aQ hh.2 (by decide))).symm
    ·exact(aw ⟨h4,rfl⟩).symm
   ·rw[aq h4] at j5⊢;apply ws;exact j5 _ Kb jW (aq (λhh=>h4 hh.1)).symm
 have j3:∀b:Bool,b=decide (mA t x.move)->
  T W (ML p m mb mc kb kc (Sep.pt r4 (nm (dw t x.move))::Sep.pt r3 [.u 0,.u 0]::Sep.pt r2 (aM x.move)::Sep.pt r1 (aM t)::R)) (az.j3 K (decide (has t.ao 4)) r2 (ah p) (i:Int) r1 r4 b):=λb hb=>by
  unfold az.j3;cases b with
  |true=>
   unfold Uw at h;rw[ai (aS hb.symm)] at h;apply ws;apply T.sub (h kb kc);exact pX
  |false=>
   have jW:=bq hb.symm;by_cases h4:has t.ao 4
   ·rw[aw h4] at j4⊢;apply ws;apply Fc hm hx VM.2.1;apply sA;apply j4 _ jW;cases pV:m.closed x.move.bC i
    ·exact(aq (λhh=>aQ hh.2 (by decide))).symm
    ·exact(aw ⟨h4,rfl⟩).symm
   ·rw[aq h4] at j4⊢;apply ws;exact j4 _ jW (aq (λhh=>h4 hh.1)).symm
 unfold az.j2 az.j7;by_cases h4:has t.ao 4
 ·rw[aw h4] at j3⊢;apply ws;apply zg T8.move.aT hea;apply ws;apply fZ<;>intro g1
  ·exact j3 _ (aw (show mA t x.move from .inl ⟨h4,g1⟩)).symm
  ·apply ws;refine j3 _ (aq (λhh:mA t x.move=>?_)).symm;rcases hh with hh|hh
   ·exact g1 hh.2
   ·exact hh.1 h4
 ·rw[aq h4] at j3⊢;apply ws;apply j3 _;by_cases he:dw t x.move=x.move.aT
  ·rw[aw he];refine(aq (λhh:mA t x.move=>?_)).symm;rcases hh with hh|hh
   ·exact h4 hh.1
   ·exact hh.2 he
  ·rw[aq he];exact(aw (show mA t x.move from .inr ⟨h4,he⟩)).symm
end
section
variable {W:World} {L R:LH} {K:VK} {X:WK} {p:Nat} {m:aA} {mb kb:OA} {mc kc:Nat} {a d c:bN} {t u:cx} {r1 r2 r3 r4 r5:Nat} {n i:Nat} {x:cr}
def Yp{m:aA}{t:cx}{i:Nat}{k:cr}{r:Int}(hi:m.name t.pending=some i)(hk:m.ax[i]?=some k)(hr:r≠0)(h:kM t (m.named t.id) (some k) (m.closed k.move.bC i) (m.closed k.move.aU i) m.ax.length=r):m.oT t=(r,m):=by
 unfold aA.oT;rw[hi];dsimp only;rw[hk];dsimp only;rw[h,ai hr]
def WT{b:Bool}(hm:RM m)(hx:m.ax[i]?=some x)(htf:0<=t.ao/\t.ao<1000000)(ht:t.aT<bJ)(hb:b=decide (fP t x.move))
 (h1:fP t x.move->∀lE lD,T W (ML p m mb mc lE lD R) (K (.i 25)))
 (h2: ¬fP t x.move->1<x.fate->∀lE lD,T W (ML p m mb mc lE lD R) (K (.i (25+x.fate))))
 (h: ¬fP t x.move-> ¬1<x.fate->∀lE lD,T W (ML p (Uw m t i x).2 mb mc lE lD R) (K (.i (Uw m t i x).1))):
 T W (ML p m mb mc kb kc (Sep.pt r3 [.u 0,.u 0]::Sep.pt r2 (aM x.move)::Sep.pt r1 (aM t)::R)) (az.j1 K (ah p) (i:Int) r1 r3 r2 b):=by
 have wA:=hm.many;have qe:=cn hx;have Rs:=(av.1 hx).1;have hft:=hm.ground.wH x qe;unfold az.j1;cases b with
 |true=>
  apply ws;apply T.sub (h1 (aS hb.symm) kb kc);exact pX
 |false=>
  have hn:=bq hb.symm;apply ws;refine dT (b:=kb) ⟨by omega,by omega⟩ λrb wE=>?_;rw[ak];subst wE;apply SY;apply ES (o:=i) (x:=x) jy hx rfl;apply ws;apply fZ<;>intro g1
  ·apply ws;refine dT (b:=ah rb) ⟨by omega,by omega⟩ λrb2 wE=>?_;rw[ak];cases wE
   apply SY;apply ES (o:=i) (x:=x) jy hx rfl;apply ws;rw[aX (by omega)];apply T.sub (h2 hn g1 (ah rb) kc);exact pX
  ·apply ws;apply lj htf (by decide);apply ws;intros;rename_i r4;have fin:=h hn g1;apply fZ<;>intro g2
   ·apply ws;apply T.Kq;have e:dw t x.move=x.move.aT:=ai g2;rw[<-e];exact Pv hm hx g1 fin ht
   ·apply T.Kq;have e:dw t x.move=t.aT:=af g2;rw[<-e];exact Pv hm hx g1 fin ht
def WS{b:Bool}(hm:RM m)(hx:m.ax[i]?=some x)(htf:0<=t.ao/\t.ao<1000000)(ht:t.aT<bJ)(hb:b=decide (t.bC≠0/\t.bC≠x.move.bC))
 (h1:fP t x.move->∀lE lD,T W (ML p m mb mc lE lD R) (K (.i 25)))
 (h2: ¬fP t x.move->1<x.fate->∀lE lD,T W (ML p m mb mc lE lD R) (K (.i (25+x.fate))))
 (h: ¬fP t x.move-> ¬1<x.fate->∀lE lD,T W (ML p (Uw m t i x).2 mb mc lE lD R) (K (.i (Uw m t i x).1))):
 T W (ML p m mb mc kb kc (Sep.pt r3 [.u 0,.u 0]::Sep.pt r2 (aM x.move)::Sep.pt r1 (aM t)::R)) (az.j8 K (ah p) (i:Int) r1 r3 r2 b):=by
 have j1:∀b:Bool,b=decide (fP t x.move)->T W (ML p m mb mc kb kc (Sep.pt r3 [.u 0,.u 0]::Sep.pt r2 (aM x.move)::Sep.pt r1 (aM t)::R)) (az.j1 K (ah p) (i:Int) r1 r3 r2 b):=λb hb=>WT hm hx htf ht hb h1 h2 h;have Jh:∀b:Bool,b=decide ((t.bC≠0/\t.bC≠x.move.bC)\/(t.aU≠0/\t.aU≠x.move.aU)\/(t.bF≠0/\t.bF≠x.move.bF))->
  T W (ML p m mb mc kb kc (Sep.pt r3 [.u 0,.u 0]::Sep.pt r2 (aM x.move)::Sep.pt r1 (aM t)::R)) (az.Jh K (ah p) (i:Int) r1 r3 r2 b):=λb hb=>by
  unfold az.Jh;cases b with
  |true=>
   have hc:=aS hb.symm;refine j1 true (aw ?_).symm;rcases hc with hc|hc|hc
   ·exact .inl hc
   ·exact .inr (.inl hc)
   ·exact .inr (.inr (.inl hc))
  |false=>
   have hc:=bq hb.symm;apply ws;apply db<;>intro g1
   ·have g1:=eY.1 g1;apply ws;apply j1 _;rw[bZ,eY,decide_eq_true_eq];refine⟨λhh=>.inr (.inr (.inr ⟨g1,hh⟩)),λhh=>?_⟩;rcases hh with hh|hh|hh|hh
    ·exact aQ (.inl hh) hc
    ·exact aQ (.inr (.inl hh)) hc
    ·exact aQ (.inr (.inr hh)) hc
    ·exact hh.2
   ·have g1:t.code=0:=by simpa using g1
    refine j1 false (aq (λhh=>?_)).symm;rcases hh with hh|hh|hh|hh
    ·exact aQ (.inl hh) hc
    ·exact aQ (.inr (.inl hh)) hc
    ·exact aQ (.inr (.inr hh)) hc
    ·exact hh.1 g1
 have j9:∀b:Bool,b=decide ((t.bC≠0/\t.bC≠x.move.bC)\/(t.aU≠0/\t.aU≠x.move.aU))->
  T W (ML p m mb mc kb kc (Sep.pt r3 [.int .u64 0,.int .u64 0]::Sep.pt r2 (aM x.move)::Sep.pt r1 (aM t)::R)) (az.j9 K (some ⟨p,0,none⟩) (i:Int) r1 r3 r2 b):=λb hb=>by
  unfold az.j9;cases b with
  |true=>
   have hc:=aS hb.symm;refine Jh true (aw ?_).symm;rcases hc with hc|hc
   ·exact .inl hc
   ·exact .inr (.inl hc)
  |false=>
   have hc:=bq hb.symm;apply ws;apply db<;>intro g1
   ·have g1:=eY.1 g1;apply ws;apply Jh _;rw[bZ,eY,decide_eq_true_eq];refine⟨λhh=>.inr (.inr ⟨g1,hh⟩),λhh=>?_⟩;rcases hh with hh|hh|hh
    ·exact aQ (.inl hh) hc
    ·exact aQ (.inr hh) hc
    ·exact hh.2
   ·have g1:t.bF=0:=by simpa using g1
    refine Jh false (aq (λhh=>?_)).symm;rcases hh with hh|hh|hh
    ·exact aQ (.inl hh) hc
    ·exact aQ (.inr hh) hc
    ·exact hh.1 g1
 unfold az.j8;cases b with
 |true=>exact j9 true (aw (.inl (aS hb.symm))).symm
 |false=>
  have hc:=bq hb.symm;apply ws;by_cases g1:t.aU=0
  ·rw[aw g1];refine j9 false (aq (λhh=>?_)).symm;rcases hh with hh|hh
   ·exact hc hh
   ·exact hh.1 g1
  ·rw[aq g1];apply ws;apply j9 _;by_cases g2:t.aU=x.move.aU
   ·rw[aw g2];refine(aq (λhh=>?_)).symm;rcases hh with hh|hh
    ·exact hc hh
    ·exact hh.2 g2
   ·rw[aq g2];exact(aw (.inr ⟨g1,g2⟩)).symm
def aaJ(hm:RM m)(ht:yf t)(h:∀lE lD,T W (ML p (m.oT t).2 mb mc lE lD R) (K (.i (m.oT t).1))):T W (ML p m mb mc kb kc R) (az (ah p) (aM t) K):=by
 unfold az;have wB:=hm.oS;have wA:=hm.many;have u7:=hm.ay;apply ws;intros;rename_i r1;apply Aq ht;apply ws;have LC:m.name t.pending=none->∀r:Int,kM t (m.named t.id) none false false m.ax.length=r->∀lE lD,T W (ML p m mb mc lE lD R) (K (.i r)):=λhn r he lE lD=>by
  have:=h lE lD;unfold aA.oT at this;rw[hn] at this;dsimp only at this;rw[he] at this;exact this
 have LB:∀i k,m.name t.pending=some i->m.ax[i]?=some k->∀r:Int,r≠0->kM t (m.named t.id) (some k) (m.closed k.move.bC i) (m.closed k.move.aU i) m.ax.length=r->∀lE lD,T W (ML p m mb mc lE lD R) (K (.i r)):=λi k hi hk r hr he lE lD=>by
  have:=h lE lD;rw[Yp hi hk hr he] at this;exact this
 have tC:∀r:Int,r≠0->(∀pd dC cC,kM t (m.named t.id) pd dC cC m.ax.length=r)->∀lE lD,T W (ML p m mb mc lE lD R) (K (.i r)):=λr hr he=>by
  rcases rv (λx:cr=>decide (x.move.id=t.pending)) m.ax with⟨f1,f2,f3⟩|⟨i,x,f1,f2,f3,f4,f5⟩
  ·exact LC f2 r (he _ _ _)
  ·exact LB i x f4 f1 r hr (he _ _ _)
 unfold kM at tC LC LB;apply db<;>intro g1
 ·have g1:mM t≠0:=by simpa using g1
  have:=tC _ g1 (λ_ _ _=>ai g1) kb kc;exact T.dp this
 have g1:mM t=0:=by simpa using g1
 simp only[af (show ¬mM t≠0 from λhh=>hh g1)] at tC LC LB;obtain⟨Jq,htm⟩:=wL g1;have hf:0<=t.ao/\t.ao<1000000:=by omega
 apply ws;apply wm hf;apply ws;by_cases g2:jM t.ao
 rotate_left
 ·rw[aq g2];have:=tC 6 (by decide) (λ_ _ _=>ai g2) kb kc;apply ws;exact T.dp this
 rw[aw g2];simp only[af (show ¬ ¬jM t.ao from λhh=>hh g2)] at tC LC LB;apply ws;apply T.Sf;apply I8 (by omega);apply ws;have P4:m.named t.id=m.ax.find? λk=>decide (k.move.id=t.id):=rfl;rcases rv (λx:cr=>decide (x.move.id=t.id)) m.ax with⟨f1,f2,f3⟩|⟨i,x,f1,f2,f3,f4,f5⟩
 rotate_left
 ·rw[P4,f3] at tC;dsimp only at tC;rw[f5];have Rs:=(av.1 f1).1;have hx:=hm.ax x (cn f1);apply kL (aw (by omega));apply ws;refine dT (b:=kb) ⟨by omega,by omega⟩ λrb hb=>?_;rw[ak];subst hb;apply SU jy f1;refine Fo hf ⟨hx.uZ.1,by have:=hx.uZ.2;omega⟩ ?_;apply ws;refine T.sub (tC _ (qz _ _) (λ_ _ _=>rfl) (ah rb) kc) ?_;exact pX
 rw[P4,f1] at tC LC;have MO:m.named t.id=none:=by rw[P4,f1]
 rw[MO] at LB;dsimp only at tC LC LB;rw[f3];apply eO (by decide);apply ws;apply I8 (by omega);apply ws;rcases rv (λx:cr=>decide (x.move.id=t.pending)) m.ax with⟨d1,d2,d3⟩|⟨i,x,d1,d2,d3,d4,d5⟩
 ·rw[d3];apply kL (by decide);apply T.sub (LC d2 23 rfl kb kc);exact pX
 have tC:=LB i x d4 d1;clear LC LB;have Rs:=(av.1 d1).1;have qe:=cn d1;have hx:=hm.ax x qe;rw[d5];apply eO (aq (by omega));apply ws;refine dT (b:=kb) ⟨by omega,by omega⟩ λrb hb=>?_;rw[ak];subst hb;apply aag;apply SS jy d1;apply ws;intros;rename_i r2 r3;have hxf:0<=x.move.ao/\x.move.ao<1000000:=⟨hx.wq.1,by have:=hx.wq.2;omega⟩;apply lj hxf (by decide);apply ws;by_cases g3:has x.move.ao 2
 rotate_left
 ·rw[ai g3] at tC;rw[aq g3];apply ws;apply T.sub (tC 24 (by decide) rfl (ah rb) kc);exact pX
 rw[af (λhh=>hh g3)] at tC;rw[aw g3];apply ws;have fin:∀b:Bool,b=decide (t.bC≠0/\t.bC≠x.move.bC)->T W (Sep.pt r3 [.u 0,.u 0]::Sep.pt r2 (aM x.move)::ML p m mb mc (ah rb) kc (Sep.pt r1 (aM t)::R)) (az.j8 K (ah p) (i:Int) r1 r3 r2 b):=λb hb=>by
  refine T.perm (L:=ML p m mb mc (ah rb) kc (Sep.pt r3 [.u 0,.u 0]::Sep.pt r2 (aM x.move)::Sep.pt r1 (aM t)::R)) ?_ (bt (l₁:=[Sep.pt r3 [.u 0,.u 0],Sep.pt r2 (aM x.move)]) (l₂:=[_,_,_])|>.append_right _);refine WS hm d1 hf ht.aT hb (λhn=>tC 25 (by decide) (ai hn)) (λhn XH=>tC (25+x.fate) (by omega) (by rw[af hn,ai XH])) (λhn XH lE lD=>?_);have:=h lE lD;rw[adP g1 g2 MO d4 d1 g3 hn XH] at this;exact this
 by_cases g4:t.bC=0
 ·rw[aw g4];exact fin false (aq (λhh=>hh.1 g4)).symm
 ·rw[aq g4];apply ws;apply fin _;by_cases g5:t.bC=x.move.bC
  ·rw[aw g5];exact(aq (λhh=>hh.2 g5)).symm
  ·rw[aq g5];exact(aw ⟨g4,g5⟩).symm
end
inductive It where
 |a(x:bN)
 |t(x:cx)
def AR:It->LV
 | .a x=>.b true::(aO x++aM zT)
 | .t x=>.b false::(aO zA++aM x)
def wS(m:aA):It->Int×aA
 | .a x=>m.make x
 | .t x=>m.lO x
def Au:It->Bool
 | .a x=>yQ x
 | .t x=>sY x
def OL:It->Prop
 | .a x=>yi x
 | .t x=>yf x
def PU(x:It):(AR x).length=31:=by cases x<;>rfl
instance{x:bN}{t:cx}{b:Value}:Gt (b::(aO x++aM t)) 13 (.i x.ao):=⟨rfl⟩
instance{x:bN}{t:cx}{b:Value}:Gt (b::(aO x++aM t)) 28 (.i t.ao):=⟨rfl⟩
def PT(x:It):∀v∈AR x,v.oneCell'=true:=λv hv=>by
 cases x with
 |a x=>
  rcases jX.1 hv with h|h
  ·subst h;rfl
  ·rcases dY.1 h with h|h
   ·exact iW _ v h
   ·exact py _ v h
 |t x=>
  rcases jX.1 hv with h|h
  ·subst h;rfl
  ·rcases dY.1 h with h|h
   ·exact iW _ v h
   ·exact py _ v h
instance{x:bN}{t:cx}{b:Value}:Sub (b::(aO x++aM t)) 1 14 (aO x):=⟨rfl,λj v h=>by
 rw[Nat.add_comm 1 j,bT,cO (av.1 h).1];exact h⟩
instance{x:bN}{t:cx}{b:Value}:Sub (b::(aO x++aM t)) 15 16 (aM t):=⟨rfl,λj v h=>by
 have hl:(aO x).length=14:=rfl
 rw[show 15+j=14+j+1 by omega,bT,iJ (by omega),hl,M1];exact h⟩
def RM.wS{m:aA}{x:It}(h:RM m)(hx:OL x):RM (wS m x).2:=by
 cases x with
 |a x=>exact h.make hx
 |t x=>exact h.lO hx
def Kt(n:Int):(n.tmod 2!=0)=decide (n%2=1):=by
 rw[bZ,eY,decide_eq_true_eq];rcases Int.le_total 0 n with h|h
 ·rw[dB h];omega
 ·obtain⟨k,rfl⟩:∃k:Int,n= -k:=⟨-n,by omega⟩;rw[Int.neg_tmod,dB (by omega)];omega
section
variable {W:World} {L R:LH} {K:VK} {X:WK} {p:Nat} {m:aA} {mb kb:OA} {mc kc:Nat} {x:It}
def KZ(h:T W L (K (.b (Au x)))):T W L (nh (AR x) K):=by
 unfold nh;cases x with
 |a x=>
  rw[show AR (It.a x)=.b true::(aO x++aM zT) from rfl];apply ws;intros;apply dJ (by decide);rw[Kt];exact T.dp h
 |t x=>
  rw[show AR (It.t x)=.b false::(aO zA++aM x) from rfl];apply ws;intros;apply dJ (by decide);rw[Kt];exact T.dp h
def WW(hm:RM m)(hx:OL x)(h:∀su ss lE lD,T W (ML p (wS m x).2 su ss lE lD R) (K (.i (wS m x).1))):T W (ML p m mb mc kb kc R) (jk (ah p) (AR x) K):=by
 unfold jk jk.j1;cases x with
 |a x=>
  rw[show AR (It.a x)=.b true::(aO x++aM zT) from rfl];apply ws;intros;apply T.Sf;refine WR hm hx λsu ss=>?_;apply ws;apply T.sub (h su ss kb kc)
  repeat (first|exact bl.refl _|apply bl.cons_cons|apply bl.cons)
 |t x=>
  rw[show AR (It.t x)=.b false::(aO zA++aM x) from rfl];apply ws;intros;apply Aq hx;rw[show wS m (It.t x)=m.lO x from rfl] at h;unfold aA.lO at h;apply ws;apply db<;>intro g1
  ·have g1:mM x=0:=by simpa using g1
   obtain⟨Jq,htm⟩:=wL g1;apply ws;apply wm (by omega);apply ws;by_cases g2:jM x.ao
   ·rw[aw g2];rw[ai ⟨g1,g2⟩] at h;apply ws;apply T.Sf;refine aaJ hm hx λlE lD=>?_;apply ws;apply T.sub (h mb mc lE lD);exact pX
   ·rw[aq g2];rw[af (λhh=>g2 hh.2)] at h;apply ws;apply T.Sf;refine Pt hm hx λlE lD=>?_;apply ws;apply T.sub (h mb mc lE lD);exact pX
  ·have g1: ¬mM x=0:=by simpa using g1
   rw[af (λhh=>g1 hh.1)] at h;apply ws;apply T.Sf;refine Pt hm hx λlE lD=>?_;apply ws;apply T.sub (h mb mc lE lD);exact pX
def GV{s:OA}{c:Nat}{l:List bN}[hh:Has R L](hr:np W R aO 14 s l)(hl:l.length<=1000000)
 (h:∀b c,T W (own b l.length c 31 ((l.map It.a).flatMap AR)::L) (K (.l b l.length c))):T W L (lX s l.length c K):=by
 unfold lX;refine iR (e:=31) ?_;intro w jo;refine⟨λvv w=>∃(i:Nat)(b:OA)(c2:Nat)(out:List It),i<=l.length/\out=(l.take i).map It.a/\vv=[.l none 0 0,.l b i c2,.l s l.length c,.i (l.length:Int),.i (i:Int)]/\St W w (own b i c2 31 (out.flatMap AR)::L),
  mq 4 l.length,⟨0,none,0,[],aE _,rfl,rfl,jo⟩,?_⟩
 rintro jJ iX jV b i c2 vc rA u6 n1 n2 w2 ⟨i0,b0,c0,out,hi,yp,e,gI⟩;cases e
 refine T.at ?_ gI;have e5:=m9 i;apply fZ<;>intro g1
 ·have cj:i<l.length:=by omega
  have gx:=aj cj;generalize l[i]=x at gx;refine iq hr ⟨by omega,by omega⟩ rfl λa ha=>?_;rw[ak];apply kd hr ha gx (jR x);apply ws;intros;refine kP (g:=AR) (l:=out) (x:=It.a x) (by rw[bO];rfl) rfl rfl (by omega) (by omega) (PT _) λb' c'=>?_;rw[e5];refine T.drop (T.sub (M:=own b' (i+1) c' 31 ((out++[It.a x]).flatMap AR)::L) (λw3 h3=>⟨⟨i+1,b',c',out++[It.a x],cj,?_,rfl,h3⟩,dn (by omega)⟩) (by repeat (first|exact bl.refl _|apply bl.cons_cons|apply bl.cons)));rw[ba,gx,cU,yp];rfl
 ·have iO:i=l.length:=by omega
  subst iO;rw[aV] at yp;subst yp;exact h _ _
def Fg{s:OA}{c:Nat}{l:List cx}[hh:Has R L](hr:np W R aM 16 s l)(hl:l.length<=1000000)
 (h:∀b c,T W (own b l.length c 31 ((l.map It.t).flatMap AR)::L) (K (.l b l.length c))):T W L (k9 s l.length c K):=by
 unfold k9;refine iR (e:=31) ?_;intro w jo;refine⟨λvv w=>∃(i:Nat)(b:OA)(c2:Nat)(out:List It),i<=l.length/\out=(l.take i).map It.t/\vv=[.l none 0 0,.l b i c2,.l s l.length c,.i (l.length:Int),.i (i:Int)]/\St W w (own b i c2 31 (out.flatMap AR)::L),
  mq 4 l.length,⟨0,none,0,[],aE _,rfl,rfl,jo⟩,?_⟩
 rintro jJ iX jV b i c2 vc rA u6 n1 n2 w2 ⟨i0,b0,c0,out,hi,yp,e,gI⟩;cases e
 refine T.at ?_ gI;have e5:=m9 i;apply fZ<;>intro g1
 ·have cj:i<l.length:=by omega
  have gx:=aj cj;generalize l[i]=x at gx;refine iq hr ⟨by omega,by omega⟩ rfl λa ha=>?_;rw[ak];apply kd hr ha gx (Cu x);apply ws;intros;refine kP (g:=AR) (l:=out) (x:=It.t x) (by rw[bO,bO];rfl) rfl rfl (by omega) (by omega) (PT _) λb' c'=>?_;rw[e5];refine T.drop (T.sub (M:=own b' (i+1) c' 31 ((out++[It.t x]).flatMap AR)::L) (λw3 h3=>⟨⟨i+1,b',c',out++[It.t x],cj,?_,rfl,h3⟩,dn (by omega)⟩) (by repeat (first|exact bl.refl _|apply bl.cons_cons|apply bl.cons)));rw[ba,gx,cU,yp];rfl
 ·have iO:i=l.length:=by omega
  subst iO;rw[aV] at yp;subst yp;exact h _ _
end
def Bk(p:Nat)(m:aA)(mb:OA)(mc:Nat)(kb:OA)(kc:Nat)(R:LH)(p2:Nat)(m':aA)(su:OA)(ss:Nat)(lE:OA)(lD:Nat)(R':LH):Prop:=
 (R'=R/\p2=p/\m'=m/\su=mb/\ss=mc/\lE=kb/\lD=kc)\/R'=ML p m mb mc kb kc R
def TB{n:Nat}{o:Option (Nat×Int)}{q:Nat}(hq:q<n):(ga n o)[q]?=some (match o with|none=>0|some (i,c)=>if q=i then c else 1):=by
 unfold ga;cases o with
 |none=>simp[hq]
 |some e=>
  obtain⟨i,c⟩:=e;dsimp only;rw[cW];by_cases h:i=q
  ·subst h;rw[ai rfl,ai (by simpa using hq),ai rfl]
  ·rw[af h,af (λhh=>h hh.symm)];simp[hq]
def J6(x:Int):∀v∈I1 x,v.oneCell'=true:=λv hv=>by simp[I1] at hv;subst hv;rfl
section
variable {W:World} {L R:LH} {K:VK} {X:WK} {p:Nat} {m:aA} {mb kb:OA} {mc kc:Nat} {x:It}
def Vm(W:World)(R:LH)(p:Nat)(m:aA)(mb:OA)(mc:Nat)(kb:OA)(kc:Nat)(l:List It)(lb:OA)(lc:Nat)(vv:LV)(w:World):Prop:=
 ∃(at_ fuel:Nat)(m':aA)(done:List Int)(p2:Nat)(su:OA)(ss:Nat)(lE:OA)(lD:Nat)(ob:OA)(oc:Nat)(R':LH),at_<=l.length/\done.length=at_/\l.length<=fuel+at_/\
  eW wS Au l.length m l=(done++(eW wS Au fuel m' (l.drop at_)).1,(eW wS Au fuel m' (l.drop at_)).2)/\RM m'/\Bk p m mb mc kb kc R p2 m' su ss lE lD R'/\
  vv=[.p (ah p2),.l none 0 0,.p none,.l ob at_ oc,.i (at_:Int)]/\
  St W w (ML p2 m' su ss lE lD (own ob at_ oc 1 (done.flatMap I1)::own lb l.length lc 31 (l.flatMap AR)::R'))
def Rmu(n:Nat)(vs:LV)(_:World):Nat:=match vs with|[_,_,_,_,.int _ d]=>n-d.toNat|_=>0
def I7{w2:World}{l:List It}{lb:OA}{lc:Nat}{at_ fuel n:Nat}{m' mN:aA}{done:List Int}{p2 p6:Nat}{su lE nb nk ob:OA}{ss lD nc TJ oc:Nat}{R':LH}{o:Option (Nat×Int)}{bad code:Int}
 (hl:l.length<=1000)(hn:0<n)(BJ:at_+n<=l.length)(zF:done.length=at_)(Sl:l.length<=fuel+(at_+n))(ho:(o=none/\bad<0)\/∃i,o=some (i,code)/\i<n/\bad=((at_+i:Nat):Int))(MP:RM m')(Zv:RM mN)
 (FU:Bk p m mb mc kb kc R p2 m' su ss lE lD R')
 (nu:eW wS Au l.length m l=(done++ga n o++(eW wS Au fuel (if o=none then mN else m') (l.drop (at_+n))).1,(eW wS Au fuel (if o=none then mN else m') (l.drop (at_+n))).2)):
 T W (ML p6 mN nb nc nk TJ (ML p2 m' su ss lE lD (own ob at_ oc 1 (done.flatMap I1)::own lb l.length lc 31 (l.flatMap AR)::R')))
   (cz.j3 K (Vm W R p m mb mc kb kc l lb lc) (Rmu l.length) (ah p2) none 0 0 none ob at_ oc (at_:Int) w2 (ah p2) none 0 0 none ob at_ oc (at_:Int) ((at_+n-1:Nat):Int) bad code (ah p6)):=by
 unfold cz.j3;intro w jo;refine⟨λvv w=>∃(q:Nat)(b:OA)(c:Nat),q<=n/\vv=[.p (ah p2),.l none 0 0,.p none,.l b (at_+q) c,.i (at_:Int),.i ((at_+n-1:Nat):Int),.i bad,.i code,.p (ah p6),.i ((at_+q:Nat):Int)]/\
  St W w (ML p6 mN nb nc nk TJ (ML p2 m' su ss lE lD (own b (at_+q) c 1 ((done++(ga n o).take q).flatMap I1)::own lb l.length lc 31 (l.flatMap AR)::R'))),
  mq 9 (at_+n),⟨0,ob,oc,aE _,rfl,by rw[og,bO];exact jo⟩,?_⟩
 rintro p10 Pg Nn QM p11 b sn9 c MK Ld VE Rb Zi NP w4 ⟨q,b0,c0,hq,e,yt⟩;cases e
 refine T.at ?_ yt;have e5:aa.wrap (((at_+q:Nat):Int)+1)=((at_+(q+1):Nat):Int):=by rw[aX (by omega)];omega
 apply fZ<;>intro g1
 ·have cj:q<n:=by omega
  have zE:=TB (o:=o) cj;have rB:(ga n o).take (q+1)=(ga n o).take q++[match o with|none=>0|some (i,c)=>if q=i then c else 1]:=by rw[ba,zE];rfl
  rcases ho with⟨rfl,hb⟩|⟨i,rfl,hi,rfl⟩
  ·apply kL (aw hb);apply dJ ⟨rfl,trivial⟩;refine tN λr1=>?_;refine kP (g:=I1) (l:=done++(ga n _).take q) (x:=(0:Int)) rfl rfl rfl (by omega) (by omega) (J6 _) λb' c'=>?_;rw[e5];refine T.drop λw5 h5=>⟨⟨q+1,b',c',cj,rfl,by rw[rB,<-aH];exact h5⟩,dn (by omega)⟩
  ·apply eO (aq (by omega));by_cases hqi:q=i
   ·subst hqi;apply kL (by simp);dsimp only at rB;rw[ai rfl] at rB;apply dJ ⟨rfl,trivial⟩;refine tN λr1=>?_;refine kP (g:=I1) (l:=done++(ga n _).take q) (x:=code) rfl rfl rfl (by omega) (by omega) (J6 _) λb' c'=>?_;rw[e5];refine T.drop λw5 h5=>⟨⟨q+1,b',c',cj,rfl,by rw[rB,<-aH];exact h5⟩,dn (by omega)⟩
   ·refine eO (by simp;omega) ?_;dsimp only at rB;rw[af hqi] at rB;apply dJ ⟨rfl,trivial⟩;refine tN λr1=>?_;refine kP (g:=I1) (l:=done++(ga n _).take q) (x:=(1:Int)) rfl rfl rfl (by omega) (by omega) (J6 _) λb' c'=>?_;rw[e5];refine T.drop λw5 h5=>⟨⟨q+1,b',c',cj,rfl,by rw[rB,<-aH];exact h5⟩,dn (by omega)⟩
 ·have iO:q=n:=by omega
  subst iO;rw[bG (Nat.le_of_eq (iA q o))];have e6:aa.wrap (((at_+q-1:Nat):Int)+1)=((at_+q:Nat):Int):=by rw[aX (by omega)];omega
  rw[e6];rcases ho with⟨rfl,hb⟩|⟨i,rfl,hi,rfl⟩
  ·apply kL (aw hb);rw[ai rfl] at nu;have fin:∀M0,Bk p m mb mc kb kc R p6 mN nb nc nk TJ M0->T W (ML p6 mN nb nc nk TJ (own b (at_+q) c 1 ((done++ga q none).flatMap I1)::own lb l.length lc 31 (l.flatMap AR)::M0))
                       (λw8=>Vm W R p m mb mc kb kc l lb lc [.p (ah p6),.l none 0 0,.p none,.l b (at_+q) c,.i ((at_+q:Nat):Int)] w8/\Rmu l.length [.p (ah p6),.l none 0 0,.p none,.l b (at_+q) c,.i ((at_+q:Nat):Int)] w8<Rmu l.length [.p (ah p2),.l none 0 0,.p none,.l ob at_ oc,.i (at_:Int)] w2):=λM0 afK w8 h8=>by
    refine⟨⟨at_+q,fuel,mN,done++ga q none,p6,nb,nc,nk,TJ,b,c,M0,BJ,by rw[au,iA];omega,Sl,nu,Zv,afK,rfl,h8⟩,?_⟩;show l.length-((at_+q:Nat):Int).toNat<l.length-(at_:Int).toNat;omega
   rcases FU with⟨rfl,rfl,rfl,rfl,rfl,rfl,rfl⟩|rfl
   ·apply T.perm (fin _ (.inr rfl));exact(bt (l₁:=[Sep.pt p2 (GD m' su ss lE lD),own su m'.dj.length ss 14 (m'.dj.flatMap aO),own lE m'.ax.length lD 33 (m'.ax.flatMap bM)]) (l₂:=[_,_])|>.append_right R').append_left [_,_,_]
   ·apply T.sub (fin _ (.inr rfl));exact pX
  ·apply eO (aq (by omega));rw[af (by simp)] at nu;refine T.drop (T.drop (T.drop λw8 h8=>?_));refine⟨⟨at_+q,fuel,m',done++ga q (some (i,code)),p2,su,ss,lE,lD,b,c,R',BJ,by rw[au,iA];omega,Sl,nu,MP,FU,rfl,h8⟩,?_⟩;show l.length-((at_+q:Nat):Int).toNat<l.length-(at_:Int).toNat;omega
def Ps{w2:World}{l:List It}{lb:OA}{lc:Nat}{at_ fuel n:Nat}{m':aA}{done:List Int}{p2:Nat}{su lE ob:OA}{ss lD oc:Nat}{R':LH}{bad code:Int}
 (iE:∀x∈l,OL x)(hl:l.length<=1000)(hn:0<n)(BJ:at_+n<=l.length)(zF:done.length=at_)(Sl:l.length<=fuel+(at_+n))(MP:RM m')
 (FU:Bk p m mb mc kb kc R p2 m' su ss lE lD R')
 (Jt:bI Au (l.drop at_)=(n,decide (bad<0)))(zG:(bad= -1/\code=0)\/(bad=((at_+n-1:Nat):Int)/\code=2/\at_+n=l.length))
 (nu:eW wS Au l.length m l=(done++(eW wS Au (fuel+1) m' (l.drop at_)).1,(eW wS Au (fuel+1) m' (l.drop at_)).2)):
 T W (ML p2 m' su ss lE lD (own ob at_ oc 1 (done.flatMap I1)::own lb l.length lc 31 (l.flatMap AR)::R'))
   (cz.j2 K (ah p2) none 0 0 none ob at_ oc (at_:Int) lb l.length (Vm W R p m mb mc kb kc l lb lc) (Rmu l.length) (ah p2) none 0 0 none ob at_ oc (at_:Int) w2 ((at_+n-1:Nat):Int) bad code):=by
 unfold cz.j2 cz.j4;have hmf:=MP.oS;have hmm:=MP.many;refine I' (by omega) (by omega) λp6 nb0 nc0 nk0 ae6=>?_;apply ws;have jW:l.drop at_≠[]:=λhh=>by have:=congrArg List.length hh;rw[aR] at this;simp at this;omega
 have gA:=Ci (f:=wS) (lk:=Au) (n:=fuel) (s:=m') jW;have hdd:(l.drop at_).drop n=l.drop (at_+n):=iL;rw[Jt] at gA;dsimp only at gA;rw[hdd] at gA;intro w jo;refine⟨λvv w=>∃(i:Nat)(bd cd:Int)(mN:aA)(nb:OA)(nc:Nat)(nk:OA)(TJ:Nat),i<=n/\RM mN/\
                                                                                                      ((bd<0/\bad<0/\gL wS m' ((l.drop at_).take i) 0=(none,mN))\/(∃q s,bd=((at_+q:Nat):Int)/\q<n/\bad<0/\gL wS m' ((l.drop at_).take n) 0=(some (q,cd),s))\/(bd=bad/\cd=code/\ ¬bad<0))/\
                                                                                                      vv=[.p (ah p2),.l none 0 0,.p none,.l ob at_ oc,.i (at_:Int),.i ((at_+n-1:Nat):Int),.i bd,.i cd,.p (ah p6),.i ((at_+i:Nat):Int)]/\
                                                                                                      St W w (ML p6 mN nb nc nk TJ (ML p2 m' su ss lE lD (own ob at_ oc 1 (done.flatMap I1)::own lb l.length lc 31 (l.flatMap AR)::R'))),
  mq 9 (at_+n),⟨0,bad,code,m',nb0,nc0,nk0,ae6,aE _,MP,?_,rfl,jo⟩,?_⟩
 ·by_cases hb:bad<0
  ·exact .inl ⟨hb,hb,rfl⟩
  ·exact .inr (.inr ⟨rfl,rfl,hb⟩)
 rintro p13 Wy Wt Ww p14 ob1 Ms oc1 yb n17 bd cd p15 n20 w11 ⟨i,bd0,cd0,mN,nb,nc,nk,TJ,hi,Zv,u7,e,gI⟩;cases e
 refine T.at ?_ gI;have e5:aa.wrap (((at_+i:Nat):Int)+1)=((at_+(i+1):Nat):Int):=by rw[aX (by omega)];omega
 have leave:(i=n\/ ¬bd<0)->T W (ML p6 mN nb nc nk TJ (ML p2 m' su ss lE lD (own ob at_ oc 1 (done.flatMap I1)::own lb l.length lc 31 (l.flatMap AR)::R')))
  (cz.j3 K (Vm W R p m mb mc kb kc l lb lc) (Rmu l.length) (ah p2) none 0 0 none ob at_ oc (at_:Int) w2 (ah p2) none 0 0 none ob at_ oc (at_:Int) ((at_+n-1:Nat):Int) bd cd (ah p6)):=λZw=>by
  rcases u7 with⟨h1,h2,h3⟩|⟨q,s,h1,h2,h3,h4⟩|⟨h1,h2,h3⟩
  ·have AV:i=n:=by rcases Zw with hh|hh;exact hh;exact aQ h1 hh
   subst AV;apply I7 (fuel:=fuel) (o:=none) hl hn BJ zF Sl (.inl ⟨rfl,h1⟩) MP Zv FU;rw[af (by rw[aw h2];decide),h3] at gA;dsimp only at gA;rw[ai rfl,nu,gA];simp
  ·apply I7 (fuel:=fuel) (o:=some (q,cd)) hl hn BJ zF Sl (.inr ⟨q,rfl,h2,h1⟩) MP Zv FU;rw[af (by rw[aw h3];decide),h4] at gA;dsimp only at gA;rw[af (by simp),nu,gA];simp
  ·subst h1 h2;rcases zG with⟨hb,_⟩|⟨hb,hc,Ru⟩
   ·omega
   refine I7 (fuel:=fuel) (o:=some (n-1,cd)) hl hn BJ zF Sl (.inr ⟨n-1,rfl,by omega,by rw[hb];omega⟩) MP Zv FU ?_;rw[ai (by rw[aq h3])] at gA;rw[af (by simp),nu,gA,hc];rw[show l.drop (at_+n)=[] from fB (by omega),wj];simp
 by_cases Zw:i=n\/ ¬bd<0
 ·have:=leave Zw;apply fZ<;>intro g1
  ·have hb: ¬bd<0:=by rcases Zw with hh|hh;omega;exact hh
   rw[aq hb];exact this
  ·exact this
 ·have cj:i<n:=Decidable.byContradiction λhh=>Zw (.inl (by omega));have hb:bd<0:=Decidable.byContradiction λhh=>Zw (.inr hh);have P9:bad<0/\gL wS m' ((l.drop at_).take i) 0=(none,mN):=by
   rcases u7 with⟨h1,h2,h3⟩|⟨q,s,h1,h2,h3,h4⟩|⟨h1,h2,h3⟩
   ·exact⟨h2,h3⟩
   ·omega
   ·omega
  have gx:=aj (show at_+i<l.length by omega);have Jl:=iE _ (cb (show at_+i<l.length by omega));generalize l[at_+i]=x at gx Jl;have Um:(l.drop at_)[i]?=some x:=by rw[lC];exact gx
  have rB:(l.drop at_).take (i+1)=(l.drop at_).take i++[x]:=by rw[ba,Um];rfl
  have hti:((l.drop at_).take i).length=i:=by rw[aC,aR];omega
  apply kL (aw (by omega));rw[aw hb];apply vN;refine dT (b:=lb) ⟨by omega,by omega⟩ λrb hrb=>?_;rw[ak];subst hrb;apply ij (g:=AR) PU gx;refine WW Zv Jl λnb' nc' nk' acQ=>?_;apply ws;rw[e5];apply db<;>intro g2
  ·have g2:(wS mN x).1≠0:=by simpa using g2
   refine λw3 h3=>⟨⟨i+1,_,(wS mN x).1,_,nb',nc',nk',acQ,cj,Zv.wS Jl,.inr (.inl ⟨i,mN,rfl,cj,P9.1,?_⟩),rfl,h3⟩,dn (by omega)⟩;have uP:(l.drop at_).take n=(l.drop at_).take i++x::((l.drop at_).take n).drop (i+1):=by
    have e1:((l.drop at_).take n)[i]?=some x:=by rw[List.getElem?_take_of_lt cj];exact Um
    obtain⟨Rs,hie⟩:=av.1 e1;have e2:=dk i ((l.drop at_).take n);rw[gZ Rs,hie,xV,nA (by omega)] at e2;exact e2.symm
   rw[uP,sJ _ _ _ _ _ P9.2,gL,ai g2,hti,aD]
  ·have g2:(wS mN x).1=0:=by simpa using g2
   refine λw3 h3=>⟨⟨i+1,bd,_,_,nb',nc',nk',acQ,cj,Zv.wS Jl,.inl ⟨hb,P9.1,?_⟩,rfl,h3⟩,dn (by omega)⟩;rw[rB,sJ _ _ _ _ _ P9.2,gL,af (by omega)]
   rfl
def Tr{l:List It}{lb:OA}{lc:Nat}(hm:RM m)(iE:∀x∈l,OL x)(hl:l.length<=1000)
 (h:∀p2 su ss lE lD ob oc R',Bk p m mb mc kb kc R p2 (eW wS Au l.length m l).2 su ss lE lD R'->RM (eW wS Au l.length m l).2->(eW wS Au l.length m l).1.length=l.length->
  T W (ML p2 (eW wS Au l.length m l).2 su ss lE lD (own ob l.length oc 1 ((eW wS Au l.length m l).1.flatMap I1)::own lb l.length lc 31 (l.flatMap AR)::R')) (K (.tuple ⟨[.l ob l.length oc,.p (some ⟨p2,0,none⟩)]⟩))):
 T W (ML p m mb mc kb kc (own lb l.length lc 31 (l.flatMap AR)::R)) (cz (some ⟨p,0,none⟩) lb l.length lc K):=by
 unfold cz cz.j1;refine iR (e:=1) ?_;apply T.Kq;intro w jo;refine⟨Vm W R p m mb mc kb kc l lb lc,Rmu l.length,⟨0,l.length,m,[],p,mb,mc,kb,kc,none,0,R,aE _,rfl,by omega,by simp,hm,.inl ⟨rfl,rfl,rfl,rfl,rfl,rfl,rfl⟩,rfl,jo⟩,?_⟩;rintro p2v jJ iX jV p3 ob at_ oc n1 w2 ⟨at0,fuel,m',done,p2,su,ss,lE,lD,ob0,oc0,R',BJ,zF,Sl,nu,MP,FU,e,gI⟩;cases e
 refine T.at ?_ gI;apply fZ<;>intro g1
 ·have cj:at_<l.length:=by omega
  intro w3 vY;refine⟨λvv w=>∃e:Nat,at_<=e/\e<=l.length/\(∀j y,j<e-at_->(l.drop at_)[j]?=some y->Au y=true)/\vv=[.p (some ⟨p2,0,none⟩),.l none 0 0,.p none,.l ob at_ oc,.i (at_:Int),.i (e:Int)]/\
   St W w (ML p2 m' su ss lE lD (own ob at_ oc 1 (done.flatMap I1)::own lb l.length lc 31 (l.flatMap AR)::R')),
   mq 5 l.length,⟨at_,aF _,BJ,(λj y hj=>by omega),rfl,vY⟩,?_⟩
  rintro p16 aat Wq aar p17 acF IT acC n22 n23 w15 ⟨en,aiA,aiz,fx,e,P0⟩;cases e
  refine T.at ?_ P0;obtain⟨fuel,rfl⟩:∃k,fuel=k+1:=⟨fuel-1,by omega⟩;apply fZ<;>intro g2
  ·have xx:en<l.length:=by omega
   have gx:=aj xx;generalize l[en]=x at gx;have Um:(l.drop at_)[en-at_]?=some x:=by rw[lC,show at_+(en-at_)=en by omega];exact gx
   refine dT (b:=lb) ⟨by omega,by omega⟩ λrb hrb=>?_;rw[ak];subst hrb;apply ij (g:=AR) PU gx;apply KZ;apply sA;cases XB:Au x with
   |true=>
    apply vN;have e5:=m9 en;rw[e5];refine λw6 h6=>⟨⟨en+1,by omega,xx,λj y hj hy=>?_,rfl,h6⟩,dn (by omega)⟩;by_cases hje:j=en-at_
    ·subst hje;rw[Um] at hy;cases hy
     exact XB
    ·exact fx j y (by omega) hy
   |false=>
    apply sB;refine eO (by simp;omega) ?_;have hc:=xN (linked:=Au) fx Um XB;have:=Ps (W:=W) (R:=R) (K:=K) (p:=p) (m:=m) (mb:=mb) (mc:=mc) (kb:=kb) (kc:=kc) (w2:=w2) (lb:=some ⟨rb,0,none⟩) (lc:=lc) (n:=en-at_+1) (bad:= -1) (code:=0) (fuel:=fuel) (ob:=ob) (oc:=oc) (done:=done) iE hl (by omega) (by omega) zF (by omega) MP FU (by rw[hc];rfl) (.inl ⟨rfl,rfl⟩) nu;rw[show at_+(en-at_+1) -1=en by omega] at this;exact this
  ·have iO:en=l.length:=by omega
   subst iO;apply kL (by simp);have wD:(l.drop at_).length=l.length-at_:=aR;have hc:=vF (linked:=Au) (l:=l.drop at_) λx hx=>by
    obtain⟨j,hj⟩:=qB hx;exact fx j x (by have:=(av.1 hj).1;omega) hj
   have:=Ps (W:=W) (R:=R) (K:=K) (p:=p) (m:=m) (mb:=mb) (mc:=mc) (kb:=kb) (kc:=kc) (w2:=w2) (lb:=lb) (lc:=lc) (n:=l.length-at_) (bad:=((l.length-1:Nat):Int)) (code:=2) (fuel:=fuel) (ob:=ob) (oc:=oc) (done:=done) iE hl (by omega) (by omega) zF (by omega) MP FU (by rw[hc,wD];rw[aq (by omega)]) (.inr ⟨by congr 1;omega,rfl,by omega⟩) nu;have e7:aa.wrap ((l.length:Int) -1)=((l.length-1:Nat):Int):=by rw[aX (by omega)];omega
   rw[show at_+(l.length-at_) -1=l.length-1 by omega] at this;rw[e7];exact this
 ·have iO:at_=l.length:=by omega
  subst iO;rw[Hc,wj] at nu;simp only[bO] at nu;rw[nu] at h;exact h p2 su ss lE lD ob oc R' FU MP zF
end
def Dv{α β:Type}(f:α->β)(lk:β->Bool):∀l:List α,bI lk (l.map f)=bI (λx=>lk (f x)) l
 |[]=>rfl
 |x::l=>by
  simp only[dA,bI];rw[Dv f lk l]
def Io{α β σ:Type}(f:α->β)(g:σ->β->Int×σ):∀(l:List α)(s:σ)(i:Nat),gL g s (l.map f) i=gL (λs x=>g s (f x)) s l i
 |[],s,i=>rfl
 |x::l,s,i=>by
  simp only[dA,gL];rw[Io f g l]
def E4{α β σ:Type}(f:α->β)(g:σ->β->Int×σ)(lk:β->Bool):∀(n:Nat)(s:σ)(l:List α),eW g lk n s (l.map f)=eW (λs x=>g s (f x)) (λx=>lk (f x)) n s l
 |0,s,l=>rfl
 |n+1,s,[]=>rfl
 |n+1,s,x::l=>by
  have e:=Dv f lk (x::l);rw[dA] at e;rw[dA];unfold eW;rw[e,<-dA,<-List.map_take,<-List.map_drop,Io];simp only[E4 f g lk n]
section
variable {W:World} {L R:LH} {K:VK} {X:WK} {p:Nat} {m:aA} {mb kb:OA} {mc kc:Nat} {q:jY} {s:vH}
def Po(m:aA)(l:List bN):eW wS Au l.length m (l.map It.a)=eW aA.make yQ l.length m l:=E4 It.a wS Au _ m l
def Pn(m:aA)(l:List cx):eW wS Au l.length m (l.map It.t)=eW aA.lO sY l.length m l:=E4 It.t wS Au _ m l
def RM.bn{m:aA}{q:jY}(h:RM m)(h1:q.op=1->∀a∈q.aB,yi a)(h2:q.op=2->∀t∈q.bQ,yf t):RM (bn m q).2.2:=by
 have run:∀(n:Nat)(l:List It)(m:aA),(∀x∈l,OL x)->RM m->RM (eW Up.wS Au n m l).2:=by
  intro n
  induction n with
  |zero=>intro l m _ hm;exact hm
  |succ n ih=>
   intro l m iE hm;cases l with
   |nil=>exact hm
   |cons x l=>
    have fx:∀(l:List It)(m:aA)(i:Nat),(∀x∈l,OL x)->RM m->(gL Up.wS m l i).1=none->RM (gL Up.wS m l i).2:=by
     intro l
     induction l with
     |nil=>intro m i _ hm _;exact hm
     |cons y l VH=>
      intro m i iE hm hn;unfold gL at hn⊢;by_cases hc:(Up.wS m y).1≠0
      ·rw[ai hc] at hn;cases hn
      ·rw[af hc] at hn⊢;exact VH _ _ (λz hz=>iE z (fJ _ hz)) (hm.wS (iE y pL)) hn
    rw[eW];by_cases hw:(bI Au (x::l)).2=false
    ·rw[ai hw];exact hm
    rw[af hw];cases hd:gL Up.wS m ((x::l).take (bI Au (x::l)).1) 0 with
    |mk o s'=>
     have LL:∀z∈(x::l).drop (bI Au (x::l)).1,OL z:=λz hz=>iE z (List.mem_of_mem_drop hz);cases o with
     |none=>
      have:=fx _ m 0 (λz hz=>iE z (List.mem_of_mem_take hz)) hm (by rw[hd]);rw[hd] at this;exact ih _ _ LL this
     |some e=>exact ih _ _ LL hm
 unfold Up.bn;by_cases he:kz q=false
 ·rw[ai he];exact h
 rw[af he];by_cases o1:q.op=1
 ·rw[ai o1,<-Po];exact run _ _ _ (λx hx=>by obtain⟨a,ha,rfl⟩:=dF.1 hx;exact h1 o1 a ha) h
 rw[af o1];by_cases o2:q.op=2
 ·rw[ai o2,<-Pn];exact run _ _ _ (λx hx=>by obtain⟨a,ha,rfl⟩:=dF.1 hx;exact h2 o2 a ha) h
 rw[af o2];apply h.time _;unfold kz at he;rw[af o1,af o2] at he;by_cases o3:q.op=3
 ·rw[ai o3] at he;have he:(decide (0<=q.now)&&decide (q.now<=1099511627776))=true:=by simpa using he
  simp only[dh,decide_eq_true_eq] at he;exact he.1
 ·rw[af o3] at he;exact aQ rfl he
def WU(hm:RM m)(hq:oq W R q s)(AT:q.aB.length<1000000)(cj:q.bQ.length<1000000)(h1:q.op=1->∀a∈q.aB,yi a)(h2:q.op=2->∀t∈q.bQ,yf t)
 (h:∀p2 su ss lE lD ob oc R',Bk p m mb mc kb kc R p2 (bn m q).2.2 su ss lE lD R'->RM (bn m q).2.2->
  T W (ML p2 (bn m q).2.2 su ss lE lD (own ob (bn m q).2.1.length oc 1 ((bn m q).2.1.flatMap I1)::R')) (K (.tuple ⟨[.l ob (bn m q).2.1.length oc,.i (bn m q).1,.p (ah p2)]⟩))):
 T W (ML p m mb mc kb kc R) (jj (ah p) (fU q s) K):=by
 unfold jj jj.j1;have hmf:=hm.oS;have hmm:=hm.many;have Ru:=hm.bn h1 h2;apply ws;intros;rename_i r1;apply Hy;by_cases he:kz q=false
 ·rw[he];apply ws;have e:bn m q=(1,[],m):=by unfold bn;rw[ai he]
  rw[e] at h Ru;refine T.drop ?_;refine iR (e:=1) ?_;apply T.Sf;exact h p mb mc kb kc none 0 R (.inl ⟨rfl,rfl,rfl,rfl,rfl,rfl,rfl⟩) hm
 have MX:kz q=true:=by simpa using he
 rw[MX];apply ws;apply db<;>intro g1
 ·have g1:q.op=3:=by simpa using g1
  have e:bn m q=(0,[],m.time q.now):=by unfold bn;rw[af he,af (by omega),af (by omega)]
  rw[e] at h Ru;apply T.Sf;refine I' (by omega) (by omega) λp2 nb nc nk TJ=>?_;apply ws;refine WO (by omega) (λk hk=>?_) ?_
  ·have:=hm.ax k hk;have t1:=this.cA;have t2:=this.jO;exact aX (by omega)
  apply ws;refine iR (e:=1) ?_;apply T.Kq;apply T.sub (h p2 nb nc nk TJ none 0 _ (.inr rfl) Ru)
  repeat (first|exact bl.refl _|apply bl.cons_cons|apply bl.cons)
 ·have g1: ¬q.op=3:=by simpa using g1
  have ait:q.op=1\/q.op=2:=by
   unfold kz at MX;by_cases o1:q.op=1
   ·exact .inl o1
   ·by_cases o2:q.op=2
    ·exact .inr o2
    ·rw[af o1,af o2,af g1] at MX;cases MX
  apply ws;refine GV (R:=R) hq.aB (by omega) λb c=>?_;apply ws;have hl8:q.op=1->q.aB.length<=8:=λo1=>by
   unfold kz at MX;rw[ai o1] at MX;simp only[dh,decide_eq_true_eq] at MX;exact MX.2
  have afj:q.op=2->q.bQ.length<=8:=λo2=>by
   unfold kz at MX;rw[af (by omega),ai o2] at MX;simp only[dh,decide_eq_true_eq] at MX;exact MX.2
  apply db<;>intro g2
  ·have g2:q.op=2:=by simpa using g2
   have e:bn m q=(0,eW wS Au (q.bQ.map It.t).length m (q.bQ.map It.t)):=by unfold bn;rw[af he,af (by omega),ai g2,bY,Pn]
   rw[e] at h Ru;apply ws;refine Fg (R:=R) hq.bQ (by omega) λb2 c2=>?_;apply ws;refine T.sub (M:=own b2 q.bQ.length c2 31 ((q.bQ.map It.t).flatMap AR)::ML p m mb mc kb kc R) ?_ (by repeat (first|exact bl.refl _|apply bl.cons_cons|apply bl.cons));apply T.Sf;have VQ:q.bQ.length=(q.bQ.map It.t).length:=(bY _).symm;rw[VQ];refine Tr hm (λx hx=>by obtain⟨t,ht,rfl⟩:=dF.1 hx;exact h2 g2 t ht) (by rw[bY];have:=afj g2;omega) λp2 su ss lE lD ob oc R' FU VO hlen=>?_;apply ws;have hh:=h p2 su ss lE lD ob oc R' FU VO;dsimp only at hh;rw[hlen] at hh;apply T.sub hh;exact pX
  ·have g2: ¬q.op=2:=by simpa using g2
   have o1:q.op=1:=by omega
   have e:bn m q=(0,eW wS Au (q.aB.map It.a).length m (q.aB.map It.a)):=by unfold bn;rw[af he,ai o1,bY,Po]
   rw[e] at h Ru;refine T.sub (M:=own b q.aB.length c 31 ((q.aB.map It.a).flatMap AR)::ML p m mb mc kb kc R) ?_ (by repeat (first|exact bl.refl _|apply bl.cons_cons|apply bl.cons));apply T.Sf;have VQ:q.aB.length=(q.aB.map It.a).length:=(bY _).symm;rw[VQ];refine Tr hm (λx hx=>by obtain⟨t,ht,rfl⟩:=dF.1 hx;exact h1 o1 t ht) (by rw[bY];have:=hl8 o1;omega) λp2 su ss lE lD ob oc R' FU VO hlen=>?_;apply ws;have hh:=h p2 su ss lE lD ob oc R' FU VO;dsimp only at hh;rw[hlen] at hh;apply T.sub hh;exact pX
end
def BC(from_ toX s:Int):Bool:=decide (from_<=s/\(toX=0\/s<=toX))
def K3{s:Int}:∀{l:List ou},(∀p∈l,s<=p.1)->pos s l=0
 |[],_=>rfl
 |p::l,h=>by unfold pos;rw[af (by have:=h p pL;omega)]
def y7{toX:Int}(h0: ¬toX=0){l:List ou}(h:∀p∈l,toX<p.1):wa toX l=0:=by
 unfold wa;rw[af h0,K3 λp hp=>by have:=h p hp;omega];cases l with
 |nil=>rfl
 |cons q l=>
  have:=h q pL;show(if q.1=toX then 0+1 else 0)=0;rw[af (by omega)]
def Hd{toX:Int}(h0: ¬toX=0){p:ou}{l:List ou}(fx:∀q∈l,p.1<q.1):wa toX (p::l)=if p.1<toX+1 then wa toX l+1 else 0:=by
 by_cases h1:p.1<toX
 ·rw[ai (by omega)];unfold wa;rw[af h0,af h0,pos,ai h1,bT];cases l[pos toX l]? with
  |none=>rfl
  |some q=>
   dsimp only;split<;>rfl
 ·by_cases h2:p.1=toX
  ·rw[ai (by omega),y7 (l:=l) h0 λq hq=>by have:=fx q hq;omega];unfold wa;rw[af h0,show pos toX (p::l)=0 by rw[pos,af h1]];show(if p.1=toX then 0+1 else 0)=1;rw[ai h2]
  ·rw[af (by omega)];exact y7 h0 λq hq=>by
    rcases jX.1 hq with hq|hq
    ·subst hq;omega
    ·have:=fx q hq;omega
def zM(from_ toX:Int):∀(l:List ou),sR l->qF from_ toX l=l.filter λp=>BC from_ toX p.1
 |[],_=>by unfold qF;simp
 |p::l,hr=>by
  have G1:sR l:=(List.pairwise_cons.1 hr).2;have fx:∀q∈l,p.1<q.1:=(List.pairwise_cons.1 hr).1;have ih:=zM from_ toX l G1;unfold qF at ih⊢;by_cases h1:p.1<from_
  ·have e1:pos from_ (p::l)=pos from_ l+1:=by rw[pos,ai h1]
   have e2:BC from_ toX p.1=false:=aq (by omega);rw[e1,lG (by rw[e2];decide),List.drop_succ_cons,<-ih];by_cases h2:toX=0
   ·unfold wa;rw[ai h2,ai h2];simp only[aW,Nat.add_sub_add_right]
   ·rw[Hd h2 fx];by_cases h3:p.1<toX+1
    ·rw[ai h3,Nat.add_sub_add_right]
    ·rw[af h3,y7 h2 λq hq=>by have:=fx q hq;omega];simp
  ·have e1:pos from_ (p::l)=0:=by rw[pos,af h1]
   have e3:pos from_ l=0:=K3 λq hq=>by have:=fx q hq;omega
   rw[e3,Nat.sub_zero,iK] at ih;rw[e1,Nat.sub_zero,iK];by_cases h2:toX=0
   ·have e2:BC from_ toX p.1=true:=aw (by omega);unfold wa at ih⊢;rw[ai h2] at ih⊢;rw[lF (p:=λp:ou=>BC from_ toX p.1) (a:=p) (l:=l) e2,<-ih];simp
   ·rw[Hd h2 fx];by_cases h3:p.1<toX+1
    ·have e2:BC from_ toX p.1=true:=aw (by omega);rw[ai h3,List.take_succ_cons,ih,lF (p:=λp:ou=>BC from_ toX p.1) (a:=p) (l:=l) e2]
    ·have e2:BC from_ toX p.1=false:=aq (by omega);rw[y7 h2 λq hq=>by have:=fx q hq;omega,og] at ih;rw[af h3,og,lG (by rw[e2];decide),<-ih]
def xZ{b:bh}(P:Int->Bool):∀(l:List cr)(i:Nat),(∀j,j<l.length->b.ax[i+j]?=l[j]?)->((ft i l).filter λp=>P p.1).map (xr b)=l.filter λk=>P k.move.ay
 |[],i,_=>rfl
 |k::l,i,h=>by
  have h0:=h 0 (by simp);rw[gK] at h0;have hka:xr b (k.move.ay,(i:Int))=k:=by unfold xr;dsimp only;rw[ak,h0];rfl
  have ih:=xZ P l (i+1) λj hj=>by
   have:=h (j+1) (by simpa using hj);rw[bT] at this;rw[<-this];congr 1;omega
  unfold ft;by_cases hp:P k.move.ay=true
  ·rw[lF (by exact hp),lF (by exact hp),dA,hka,ih]
  ·rw[lG (by exact hp),lG (by exact hp),ih]
def abO{b:bh}(hg:fk b)(from_ toX:Int)(xq:Bool):btw b from_ toX xq=(if xq then b.ax.reverse else b.ax).filter λk=>BC from_ toX k.move.ay:=by
 have h:=zM from_ toX _ hg.yH;have h2:=xZ (b:=b) (BC from_ toX) b.ax 0 λj hj=>by rw[aD]
 unfold btw;rw[h];cases xq with
 |true=>
  rw[ai rfl,ai rfl,List.map_reverse,h2,List.filter_reverse]
 |false=>
  rw[af cJ,af cJ,h2]
def yY{α:Type}{key:α->Nat}:∀(l:List α)(id:Nat),(l.map key).Nodup->(l.filter λx=>decide (key x=id))=(l.find? λx=>decide (key x=id)).toList
 |[],id,_=>rfl
 |x::l,id,hn=>by
  rw[dA,List.nodup_cons] at hn;by_cases h:key x=id
  ·rw[lF (p:=λx=>decide (key x=id)) (a:=x) (l:=l) (aw h),List.find?_cons_of_pos (p:=λx=>decide (key x=id)) (a:=x) (aw h)];have:l.filter (λx=>decide (key x=id))=[]:=by
    rw[List.filter_eq_nil_iff];intro y hy hh;exact hn.1 (by rw[h,<-aS hh];exact List.mem_map_of_mem hy)
   rw[this];rfl
  ·rw[lG (p:=λx=>decide (key x=id)) (a:=x) (l:=l) (by rw[aq h];decide),List.find?_cons_of_neg (p:=λx=>decide (key x=id)) (a:=x) (by rw[aq h];decide),yY l id hn.2]
def uQ{α β:Type}(f:α->Option β):∀l:List α,l.filterMap f=l.flatMap λx=>(f x).toList
 |[]=>rfl
 |x::l=>by
  rw[iP,<-uQ f l,List.filterMap_cons];cases f x<;>rfl
def findAll{b:bh}(hg:fk b)(ids:List Nat):(ids.flatMap λid=>b.aB.filter λa=>decide (a.id=id))=ids.filterMap b.find:=by
 rw[uQ]
 congr 1
 funext id
 exact yY (key:=λa:bN=>a.id) b.aB id hg.ids
def TL{b:bh}(hg:fk b)(ids:List Nat):(ids.flatMap λid=>(b.ax.filter λk=>decide (k.move.id=id)).map (·.move))=ids.filterMap λid=>(b.named id).map (·.move):=by
 rw[uQ]
 congr 1
 funext id
 rw[yY (key:=λk:cr=>k.move.id) b.ax id hg.names];show _=((b.ax.find? _).map _).toList;cases b.ax.find? (λx=>decide (x.move.id=id))<;>rfl
def TD(b:bh)(q:jY):List cx:=((((if q.qO then b.ax.reverse else b.ax).filter λk=>BC q.kq q.xD k.move.ay&&fits q k).take q.kX.toNat)).map (·.move)
def K7{b:bh}(hg:fk b)(q:jY):TD b q=ofL b q:=by
 unfold TD ofL;rw[abO hg,List.filter_filter]
 congr 2
 apply List.filter_congr;intro k _;rw[Bool.and_comm]
section
variable {W:World} {L R:LH} {K:VK} {X:WK} {q:jY} {s:vH}
def GU{ab:OA}{ac:Nat}{al:List bN}{f:HP->LH}[i:vI ab al.length ac L 14 (al.flatMap aO) f][hh:Has R L]{s:OA}{c:Nat}{ids:List Nat}(hr:np W R nm 2 s ids)(hl:ids.length<=1000)(hal:al.length<=1000)
 (h:∀b' c' out,out=(ids.flatMap λid=>al.filter λa=>decide (a.id=id))->T W (own b' out.length c' 14 (out.flatMap aO)::L) (K (.l b' out.length c'))):T W L (lW ab al.length ac s ids.length c K):=by
 unfold lW;refine iR (e:=14) ?_;intro w jo;refine⟨λvv w=>∃(i:Nat)(bo:OA)(cc:Nat)(done:List bN),i<=ids.length/\done=((ids.take i).flatMap λid=>al.filter λa=>decide (a.id=id))/\done.length<=1000* i/\vv=[.l none 0 0,.l bo done.length cc,.l s ids.length c,.i (ids.length:Int),.i (i:Int)]/\
  St W w (own bo done.length cc 14 (done.flatMap aO)::L),
  mq 4 ids.length,⟨0,none,0,[],aE _,by simp,by simp,rfl,jo⟩,?_⟩
 rintro jJ iX jV bo oD cc vc rA u6 n3 n4 w2 ⟨i,b0,c0,done,hi,lN,zF,e,gI⟩;cases e
 refine T.at ?_ gI;apply fZ<;>intro g1
 ·have cj:i<ids.length:=by omega
  have gx:=aj cj;generalize ids[i]=x at gx;have gA:((ids.take (i+1)).flatMap λid=>al.filter λa=>decide (a.id=id))=done++al.filter λa=>decide (a.id=x):=by
   rw[ba,gx,gi,<-lN];simp
  refine iq hr ⟨by omega,by omega⟩ rfl λa ha=>?_;rw[ak];apply kd hr ha gx rfl;apply ws;intros;rename_i r1;intro w3 vY;refine⟨λvv w=>∃(j:Nat)(bo:OA)(cc:Nat)(dn:List bN),j<=al.length/\dn=done++((al.take j).filter λa=>decide (a.id=x))/\dn.length<=1000* i+j/\vv=[.l none 0 0,.l bo dn.length cc,.p (some (ad r1 0)),.l s ids.length c,.i (ids.length:Int),.i (i:Int),.l ab al.length ac,.i (al.length:Int),.i (j:Int)]/\
                                                    St W w (Sep.pt r1 (nm x)::own bo dn.length cc 14 (dn.flatMap aO)::L),
   mq 8 al.length,⟨0,bo,cc,done,aE _,by simp,by omega,rfl,vY⟩,?_⟩
  rintro sb6 Y5 Y7 bo2 Tg cc2 a2 Pg Nn QM n5 n6 sb9 sn9 sc9 n7 n8 w4 ⟨j,b1,c1,dn,hj,XI,afv,e,yt⟩;cases e
  refine T.at ?_ yt;have e5:=m9 j;apply fZ<;>intro g2
  ·have xx:j<al.length:=by omega
   have gy:=aj xx;generalize al[j]=y at gy;refine dT (b:=ab) ⟨by omega,by omega⟩ λrb hb=>?_;rw[ak];subst hb;apply ij jR gy;apply ws;intros;rw[e5];apply db<;>intro g3
   ·have GZ:done++((al.take (j+1)).filter λa=>decide (a.id=x))=dn++[y]:=by
     rw[ba,gy,List.filter_append,<-aH,<-XI]
     congr 1
     show[y].filter _=[y];rw[lF (by exact g3)];rfl
    apply ws;intros;refine kP (g:=aO) (l:=dn) (x:=y) (bO _) rfl rfl (by omega) (by omega) (iW _) λb2 c2=>?_;refine T.drop (T.drop λw5 h5=>⟨⟨j+1,b2,c2,dn++[y],xx,GZ.symm,by simp;omega,by simp,by simpa using h5⟩,Sep.dn (by omega)⟩)
   ·have GZ:done++((al.take (j+1)).filter λa=>decide (a.id=x))=dn:=by
     rw[ba,gy,List.filter_append,<-aH,<-XI];have:[y].filter (λa:bN=>decide (a.id=x))=[]:=by rw[lG (by rw[g3];decide)];rfl
     show dn++[y].filter _=dn;rw[this,bO]
    refine T.drop λw5 h5=>⟨⟨j+1,bo2,cc2,dn,xx,GZ.symm,by omega,rfl,h5⟩,Sep.dn (by omega)⟩
  ·have iO:j=al.length:=by omega
   subst iO;rw[aV] at XI;have e6:=m9 i;rw[e6];refine T.drop λw5 h5=>⟨⟨i+1,bo2,cc2,dn,cj,by rw[gA,XI],by omega,rfl,h5⟩,Sep.dn (by omega)⟩
 ·have iO:i=ids.length:=by omega
  subst iO;rw[aV] at lN;exact h bo cc done lN
def Ff{ab:OA}{ac:Nat}{al:List cr}{f:HP->LH}[i:vI ab al.length ac L 33 (al.flatMap bM) f][hh:Has R L]{s:OA}{c:Nat}{ids:List Nat}(hr:np W R nm 2 s ids)(hl:ids.length<=1000)(hal:al.length<=1000)
 (h:∀b' c' out,out=(ids.flatMap λid=>(al.filter λk=>decide (k.move.id=id)).map (·.move))->T W (own b' out.length c' 16 (out.flatMap aM)::L) (K (.l b' out.length c'))):T W L (k8 ab al.length ac s ids.length c K):=by
 unfold k8;refine iR (e:=16) ?_;intro w jo;refine⟨λvv w=>∃(i:Nat)(bo:OA)(cc:Nat)(done:List cx),i<=ids.length/\done=((ids.take i).flatMap λid=>(al.filter λk=>decide (k.move.id=id)).map (·.move))/\done.length<=1000* i/\vv=[.l none 0 0,.l bo done.length cc,.l s ids.length c,.i (ids.length:Int),.i (i:Int)]/\
  St W w (own bo done.length cc 16 (done.flatMap aM)::L),
  mq 4 ids.length,⟨0,none,0,[],aE _,by simp,by simp,rfl,jo⟩,?_⟩
 rintro jJ iX jV bo oD cc vc rA u6 n3 n4 w2 ⟨i,b0,c0,done,hi,lN,zF,e,gI⟩;cases e
 refine T.at ?_ gI;apply fZ<;>intro g1
 ·have cj:i<ids.length:=by omega
  have gx:=aj cj;generalize ids[i]=x at gx;have gA:((ids.take (i+1)).flatMap λid=>(al.filter λk=>decide (k.move.id=id)).map (·.move))=done++(al.filter λk=>decide (k.move.id=x)).map (·.move):=by
   rw[ba,gx,gi,<-lN];simp
  refine iq hr ⟨by omega,by omega⟩ rfl λa ha=>?_;rw[ak];apply kd hr ha gx rfl;apply ws;intros;rename_i r1;intro w3 vY;refine⟨λvv w=>∃(j:Nat)(bo:OA)(cc:Nat)(dn:List cx),j<=al.length/\dn=done++((al.take j).filter λk=>decide (k.move.id=x)).map (·.move)/\dn.length<=1000* i+j/\vv=[.l none 0 0,.l bo dn.length cc,.p (some (ad r1 0)),.l s ids.length c,.i (ids.length:Int),.i (i:Int),.l ab al.length ac,.i (al.length:Int),.i (j:Int)]/\
                                                    St W w (Sep.pt r1 (nm x)::own bo dn.length cc 16 (dn.flatMap aM)::L),
   mq 8 al.length,⟨0,bo,cc,done,aE _,by simp,by omega,rfl,vY⟩,?_⟩
  rintro sb6 Y5 Y7 bo2 Tg cc2 a2 Pg Nn QM n5 n6 sb9 sn9 sc9 n7 n8 w4 ⟨j,b1,c1,dn,hj,XI,afv,e,yt⟩;cases e
  refine T.at ?_ yt;have e5:=m9 j;apply fZ<;>intro g2
  ·have xx:j<al.length:=by omega
   have gy:=aj xx;generalize al[j]=y at gy;refine dT (b:=ab) ⟨by omega,by omega⟩ λrb hb=>?_;rw[ak];subst hb;apply ij jy gy;apply ws;intros;rw[e5];apply db<;>intro g3
   ·have GZ:done++((al.take (j+1)).filter λk=>decide (k.move.id=x)).map (·.move)=dn++[y.move]:=by
     rw[ba,gy,List.filter_append,cU,<-aH,<-XI]
     congr 1
     show([y].filter _).map _=[y.move];rw[lF (by exact g3)];rfl
    apply ws;intros;refine kP (g:=aM) (l:=dn) (x:=y.move) (bO _) rfl rfl (by omega) (by omega) (py _) λb2 c2=>?_;refine T.drop (T.drop λw5 h5=>⟨⟨j+1,b2,c2,dn++[y.move],xx,GZ.symm,by simp;omega,by simp,by simpa using h5⟩,Sep.dn (by omega)⟩)
   ·have GZ:done++((al.take (j+1)).filter λk=>decide (k.move.id=x)).map (·.move)=dn:=by
     rw[ba,gy,List.filter_append,cU,<-aH,<-XI];have:[y].filter (λk:cr=>decide (k.move.id=x))=[]:=by rw[lG (by rw[g3];decide)];rfl
     show dn++([y].filter _).map _=dn;rw[this];simp
    refine T.drop λw5 h5=>⟨⟨j+1,bo2,cc2,dn,xx,GZ.symm,by omega,rfl,h5⟩,Sep.dn (by omega)⟩
  ·have iO:j=al.length:=by omega
   subst iO;rw[aV] at XI;have e6:=m9 i;rw[e6];refine T.drop λw5 h5=>⟨⟨i+1,bo2,cc2,dn,cj,by rw[gA,XI],by omega,rfl,h5⟩,Sep.dn (by omega)⟩
 ·have iO:i=ids.length:=by omega
  subst iO;rw[aV] at lN;exact h bo cc done lN
end
instance{t:cx}:Sub (aM t) 2 2 (nm t.bC):=⟨rfl,(zz (cs:=aM t) (o:=2) (n:=t.bC) rfl rfl).2⟩
instance{t:cx}:Sub (aM t) 4 2 (nm t.aU):=⟨rfl,(zz (cs:=aM t) (o:=4) (n:=t.aU) rfl rfl).2⟩
section
variable {W:World} {L R M:LH} {K:VK} {X:WK} {q:jY} {s:vH}
def QP{I1:LV->World->Prop}{μ1:LV->World->Nat}{r1 r2 cc:Nat}{bo:OA}{done:List cx}{x:cr}{n3 n4:Int}{w2:World}{g:LV->LH}
 (hA:(done.length<q.kX.toNat/\(BC q.kq q.xD x.move.ay&&fits q x)=true)->∀b2 c2,T W (own b2 (done.length+1) c2 16 ((done++[x.move]).flatMap aM)::M) (λw3=>I1 [.p (some (ad r1 0)),.l none 0 0,.l b2 (done.length+1) c2,.i n3,.i (aa.wrap (n4+1))] w3/\
  μ1 [.p (some (ad r1 0)),.l none 0 0,.l b2 (done.length+1) c2,.i n3,.i (aa.wrap (n4+1))] w3<μ1 [.p (some (ad r1 0)),.l none 0 0,.l bo done.length cc,.i n3,.i n4] w2))
 (hN: ¬(done.length<q.kX.toNat/\(BC q.kq q.xD x.move.ay&&fits q x)=true)->T W (own bo done.length cc 16 (done.flatMap aM)::M) (λw3=>I1 [.p (some (ad r1 0)),.l none 0 0,.l bo done.length cc,.i n3,.i (aa.wrap (n4+1))] w3/\
  μ1 [.p (some (ad r1 0)),.l none 0 0,.l bo done.length cc,.i n3,.i (aa.wrap (n4+1))] w3<μ1 [.p (some (ad r1 0)),.l none 0 0,.l bo done.length cc,.i n3,.i n4] w2))
 [i1:Lc (Sep.pt r1) M (pW q) g](Jo:0<=q.kX/\q.kX<=16)(hd:done.length<=1000):
 T W (Sep.pt r2 (bM x)::own bo done.length cc 16 (done.flatMap aM)::M) (bR.j1 K r2 (ad r1 0) I1 none 0 0 bo done.length cc n3 n4 μ1 w2):=by
 have j3:∀(r3:Nat)(yes:Bool),(yes=true↔done.length<q.kX.toNat/\(BC q.kq q.xD x.move.ay&&fits q x)=true)->T W (Sep.pt r3 (aM x.move)::Sep.pt r2 (bM x)::own bo done.length cc 16 (done.flatMap aM)::M) (bR.j3 K r3 bo done.length cc I1 (ad r1 0) none 0 0 n3 n4 μ1 w2 yes):=λr3 yes hy=>by
  unfold bR.j3;cases yes with
  |true=>
   apply ws;intros;refine kP (b:=bo) (g:=aM) (l:=done) (x:=x.move) (bO _) rfl rfl (by omega) (by omega) (py _) λb2 c2=>?_;exact T.drop (T.drop (T.drop (hA (hy.1 rfl) b2 c2)))
  |false=>
   apply ws;exact T.drop (T.drop (hN λhh=>by have:=hy.2 hh;cases this))
 have j4:∀(r3:Nat)(b2:Bool),b2=(q.wG&&decide (x.move.bC=q.ye))->done.length<q.kX.toNat->BC q.kq q.xD x.move.ay=true->T W (Sep.pt r3 (aM x.move)::Sep.pt r2 (bM x)::own bo done.length cc 16 (done.flatMap aM)::M) (bR.j4 K r3 bo done.length cc I1 (ad r1 0) none 0 0 n3 n4 μ1 w2 b2):=λr3 b2 hb hl hi=>by
  unfold bR.j4;have hf:fits q x=(b2||(q.tW&&decide (x.move.aU=q.ye))):=by rw[hb];rfl
  cases b2 with
  |true=>
   apply ws;refine j3 r3 true ⟨λ_=>⟨hl,by rw[hi,hf];rfl⟩,λ_=>rfl⟩
  |false=>
   rw[Bool.false_or] at hf;apply ws;cases hc:q.tW with
   |true=>
    apply ws;rw[hc,dI] at hf;refine j3 r3 _ ⟨λh=>⟨hl,by rw[hi,hf,h];rfl⟩,λh=>by rw[hi,hf,dI] at h;exact h.2⟩
   |false=>
    apply ws;rw[hc,fK] at hf;refine j3 r3 false ⟨λh=>(by cases h),λh=>by rw[hf,Bool.and_false] at h;cases h.2⟩
 have j2:∀(r3:Nat)(b2:Bool),(b2=true↔BC q.kq q.xD x.move.ay=false\/ ¬done.length<q.kX.toNat)->T W (Sep.pt r3 (aM x.move)::Sep.pt r2 (bM x)::own bo done.length cc 16 (done.flatMap aM)::M) (bR.j2 K I1 (ad r1 0) none 0 0 bo done.length cc n3 n4 μ1 w2 r3 b2):=λr3 b2 hb=>by
  unfold bR.j2;cases b2 with
  |true=>
   apply ws;refine T.drop (T.drop (hN λhh=>?_));rcases hb.1 rfl with h|h
   ·rw[h,fK] at hh;cases hh.2
   ·exact h hh.1
  |false=>
   have hi:BC q.kq q.xD x.move.ay=true:=by
    cases h:BC q.kq q.xD x.move.ay with
    |true=>rfl
    |false=>have:=hb.2 (.inl h);cases this
   have hl:done.length<q.kX.toNat:=Decidable.byContradiction λh=>by have:=hb.2 (.inr h);cases this
   apply ws;cases VY:q.wG with
   |true=>
    apply ws;refine j4 r3 _ ?_ hl hi;rw[VY,dI]
   |false=>
    apply ws;refine j4 r3 _ ?_ hl hi;rw[VY,fK]
 unfold bR.j1 bR.j5;apply ws;intros;rename_i r3;apply fZ<;>intro g1
 ·refine j2 r3 true ⟨λ_=>.inl (aq (by omega)),λ_=>rfl⟩
 ·apply ws;apply db<;>intro g2
  ·have g2:=eY.1 g2;apply ws;apply fZ<;>intro g3
   ·refine j2 r3 true ⟨λ_=>.inl (aq (by omega)),λ_=>rfl⟩
   ·have hi:BC q.kq q.xD x.move.ay=true:=aw (by omega);apply ws;refine j2 r3 _ ⟨λh=>.inr (by have:=aS h;omega),λh=>?_⟩;rcases h with h|h
    ·rw[hi] at h;cases h
    ·exact aw (by omega)
  ·have g2:q.xD=0:=by simpa using g2
   have hi:BC q.kq q.xD x.move.ay=true:=aw (by omega);apply ws;refine j2 r3 _ ⟨λh=>.inr (by have:=aS h;omega),λh=>?_⟩;rcases h with h|h
   ·rw[hi] at h;cases h
   ·exact aw (by omega)
def WV{ab:OA}{ac:Nat}{al:List cr}{f:HP->LH}[ii:vI ab al.length ac L 33 (al.flatMap bM) f](hal:al.length<=1000)(Jo:0<=q.kX/\q.kX<=16)
 (h:∀b' c' out,out=((((if q.qO then al.reverse else al).filter λk=>BC q.kq q.xD k.move.ay&&fits q k).take q.kX.toNat)).map (·.move)->T W (own b' out.length c' 16 (out.flatMap aM)::L) (K (.l b' out.length c'))):
 T W L (bR ab al.length ac (pW q) K):=by
 unfold bR;apply ws;intros;rename_i r1;obtain⟨l,hl⟩:∃l,l=if q.qO then al.reverse else al:=⟨_,rfl⟩
 have H3:l.length=al.length:=by rw[hl];split<;>simp
 rw[<-hl] at h;refine iR (e:=16) ?_;intro w jo;refine⟨λvv w=>∃(i:Nat)(bo:OA)(cc:Nat)(done:List cx),i<=l.length/\done=(((l.take i).filter λk=>BC q.kq q.xD k.move.ay&&fits q k).take q.kX.toNat).map (·.move)/\done.length<=i/\vv=[.p (some (ad r1 0)),.l none 0 0,.l bo done.length cc,.i (al.length:Int),.i (i:Int)]/\
    St W w (own bo done.length cc 16 (done.flatMap aM)::Sep.pt r1 (pW q)::L),
  mq 4 al.length,⟨0,none,0,[],aE _,by simp,aF _,rfl,jo⟩,?_⟩
 rintro a1 jJ iX jV bo oD cc n3 n4 w2 ⟨i,b0,c0,done,hi,lN,zF,e,gI⟩;cases e
 refine T.at ?_ gI;have e5:=m9 i;apply fZ<;>intro g1
 ·have cj:i<l.length:=by omega
  have gx:=aj cj;generalize l[i]=x at gx;have gA:=C1 (P:=λk=>BC q.kq q.xD k.move.ay&&fits q k) (n:=q.kX.toNat) gx;have wD:done.length=(((l.take i).filter λk=>BC q.kq q.xD k.move.ay&&fits q k).take q.kX.toNat).length:=by rw[lN,bY]
  rw[<-wD] at gA;have tU:(((l.take (i+1)).filter λk=>BC q.kq q.xD k.move.ay&&fits q k).take q.kX.toNat).map (·.move)=if done.length<q.kX.toNat/\(BC q.kq q.xD x.move.ay&&fits q x)=true then done++[x.move] else done:=by
   rw[gA];by_cases c1:done.length<q.kX.toNat
   ·rw[ai c1];by_cases c2:(BC q.kq q.xD x.move.ay&&fits q x)=true
    ·rw[ai c2,ai ⟨c1,c2⟩,cU,<-lN];rfl
    ·rw[af c2,af (λh=>c2 h.2),<-lN]
   ·rw[af c1,af (λh=>c1 h.1),<-lN]
  have abe:i<al.length:=by omega
  have gy:=aj abe;refine dT (b:=ab) ⟨by omega,by omega⟩ λrb hb=>?_;subst hb;rw[ak];apply ij jy gy;apply ws;intros;rename_i r2;have fin:T W (Sep.pt r2 (bM x)::own bo done.length cc 16 (done.flatMap aM)::Sep.pt r1 (pW q)::L) (bR.j1 K r2 (ad r1 0) (λvv w=>∃(i:Nat)(bo:OA)(cc:Nat)(done:List cx),i<=l.length/\done=(((l.take i).filter λk=>BC q.kq q.xD k.move.ay&&fits q k).take q.kX.toNat).map (·.move)/\done.length<=i/\vv=[.p (some (ad r1 0)),.l none 0 0,.l bo done.length cc,.i (al.length:Int),.i (i:Int)]/\
   St W w (own bo done.length cc 16 (done.flatMap aM)::Sep.pt r1 (pW q)::L)) none 0 0 bo done.length cc (al.length:Int) (i:Int) (mq 4 al.length) w2):=by
   refine QP (q:=q) (x:=x) (M:=Sep.pt r1 (pW q)::L) (λhy b2 c2=>?_) (λhy=>?_) Jo (by omega)
   ·rw[e5];rw[ai hy] at tU;exact λw3 h3=>⟨⟨i+1,b2,c2,done++[x.move],cj,tU.symm,by simp;omega,by simp,by simpa using h3⟩,dn (by omega)⟩
   ·rw[e5];rw[af hy] at tU;exact λw3 h3=>⟨⟨i+1,bo,cc,done,cj,tU.symm,by omega,rfl,h3⟩,dn (by omega)⟩
  cases AT:q.qO with
  |true=>
   rw[AT,ai rfl] at hl;apply ws;have e7:aa.wrap (aa.wrap ((al.length:Int) -1) -(i:Int))=((al.length-1-i:Nat):Int):=by rw[aX (n:=(al.length:Int) -1) (by omega),aX (by omega)];omega
   rw[e7];refine dT (b:=ah rb) ⟨by omega,by omega⟩ λrb2 hb=>?_;cases hb
   rw[ak];have gz:al[al.length-1-i]?=some x:=by rw[hl,List.getElem?_reverse abe] at gx;exact gx
   apply ij jy gz;apply ws;exact fin
  |false=>
   rw[AT,af cJ] at hl;subst hl;rw[gx] at gy;have hxy:x=l[i]'abe:=by injection gy
   rw[<-hxy];apply ws;exact fin
 ·have iO:i=l.length:=by omega
  subst iO;rw[aV] at lN;have:=h bo cc done lN;apply T.sub this;exact pX
end
section
variable {W:World} {L R M:LH} {K:VK} {X:WK} {q:jY} {s:vH}
def u0(al:List bN)(kl:List cr)(q:jY):Int×List bN×List cx:=
 if nQ q=false then(1,[],[])
 else if q.op=4 then(0,(q.ids.flatMap λid=>al.filter λa=>decide (a.id=id)),[])
 else if q.op=5 then(0,[],q.ids.flatMap λid=>(kl.filter λk=>decide (k.move.id=id)).map (·.move))
 else(0,[],((((if q.qO then kl.reverse else kl).filter λk=>BC q.kq q.xD k.move.ay&&fits q k).take q.kX.toNat)).map (·.move))
def Yt{m:aA}(hg:fk (bo m))(q:jY):u0 (bo m).aB (bo m).ax q=ask m q:=by
 unfold u0 ask;rw[findAll hg,TL hg,<-K7 hg]
 rfl
def NA{ab kb:OA}{ac kc:Nat}{al:List bN}{kl:List cr}{f g:HP->LH}[i1:vI ab al.length ac L 14 (al.flatMap aO) f][i2:vI kb kl.length kc L 33 (kl.flatMap bM) g][hh:Has R L](hq:oq W R q s)
 (hal:al.length<=1000)(hkl:kl.length<=1000)
 (h:∀b1 c1 b2 c2,T W (own b1 (u0 al kl q).2.1.length c1 14 ((u0 al kl q).2.1.flatMap aO)::own b2 (u0 al kl q).2.2.length c2 16 ((u0 al kl q).2.2.flatMap aM)::L)
  (K (.tuple ⟨[.l b1 (u0 al kl q).2.1.length c1,.l b2 (u0 al kl q).2.2.length c2,.i (u0 al kl q).1]⟩))):
 T W L (nP ab al.length ac kb kl.length kc (fU q s) K):=by
 unfold nP;apply ws;intros;apply Hx;unfold u0 at h;by_cases ge:nQ q=false
 ·rw[ai ge] at h;rw[ge];apply ws;refine T.drop ?_;refine iR (e:=16) ?_;refine iR (e:=14) ?_;exact h none 0 none 0
 rw[af ge] at h;have XT:nQ q=true:=by simpa using ge
 rw[XT];apply ws;have adq:q.op=4\/q.op=5->q.ids.length<=16:=λho=>by
  unfold nQ at XT;rw[ai ho,dh,decide_eq_true_eq,decide_eq_true_eq] at XT;exact XT.2
 apply db<;>intro g1
 ·have g1:q.op=4:=by simpa using g1
  rw[ai g1] at h;have:=adq (.inl g1);apply ws;refine GU (R:=R) (al:=al) hq.ids (by omega) hal λb' c' out ho=>?_;rw[<-ho] at h;apply ws;refine iR (e:=16) ?_;apply T.swap;apply T.sub (h b' c' none 0)
  repeat (first|exact bl.refl _|apply bl.cons_cons|apply bl.cons)
 ·have g1: ¬q.op=4:=by simpa using g1
  rw[af g1] at h;apply ws;apply db<;>intro g2
  ·have g2:q.op=5:=by simpa using g2
   rw[ai g2] at h;have:=adq (.inr g2);apply ws;refine Ff (R:=R) (al:=kl) hq.ids (by omega) hkl λb' c' out ho=>?_;rw[<-ho] at h;apply ws;refine iR (e:=14) ?_;apply T.sub (h none 0 b' c')
   repeat (first|exact bl.refl _|apply bl.cons_cons|apply bl.cons)
  ·have g2: ¬q.op=5:=by simpa using g2
   rw[af g2] at h;have Jo:0<=q.kX/\q.kX<=16:=by
    unfold nQ at XT;rw[af (by omega)] at XT;by_cases o6:q.op=6
    ·rw[ai o6,dh,decide_eq_true_eq] at XT;omega
    ·rw[af o6] at XT;cases XT
   apply ws;refine WV (al:=kl) hkl Jo λb' c' out ho=>?_;rw[<-ho] at h;apply ws;refine iR (e:=14) ?_;apply T.sub (h none 0 b' c')
   repeat (first|exact bl.refl _|apply bl.cons_cons|apply bl.cons)
def Mw{α:Type}[DecidableEq α]{l m:List α}{i:Nat}{x y:α}(hx:l[i]?=some x)(hy:m[i]?=some y)(h:l.take i=m.take i)(he:x=y):l.take (i+1)=m.take (i+1):=by
 rw[ba,ba,hx,hy,h,he]
def Mx{α:Type}{l m:List α}{i:Nat}{x y:α}(hx:l[i]?=some x)(hy:m[i]?=some y)(he: ¬x=y): ¬l=m:=λh=>by
 rw[h,hy] at hx;injection hx with hx;exact he hx.symm
end
section
variable {W:World} {L R:LH} {K:VK} {X:WK} {e:Int} {res:List Int} {al:List bN} {tl:List cx} {rb ab tb:OA} {rc ac tc:Nat} {n:Int} {a:bN} {t:cx}
def HE(h:T W L (K (.s (bs (le .i64 1 n))))):T W L (bK 1 n K):=λw hs=>zf hs λw' h'=>h w' h'
def Zd(h:T W L (K (.s (bs (le .i64 2 n))))):T W L (bK 2 n K):=λw hs=>zf hs λw' h'=>h w' h'
def Zc(h:T W L (K (.s (bs (le .i64 4 n))))):T W L (bK 4 n K):=λw hs=>zf hs λw' h'=>h w' h'
def Tt(h:T W L (K (.s (bs (le .i64 8 n))))):T W L (bK 8 n K):=λw hs=>zf hs λw' h'=>h w' h'
def ahY(x k:Nat)(hk:k<8):2* (x/2^(k+1)%2^(7-k))+x/2^k%2=x/2^k%2^(8-k):=by
 match k,hk with
 |0,_|1,_|2,_|3,_|4,_|5,_|6,_|7,_=>omega
def Fp{m:Nat}(hm:m<bJ)(h:T W L (K (.s (bs (nb m))))):T W L (dg (nm m) K):=by
 unfold dg;apply ws;intros;rename_i r1;intro w jo;refine⟨λvv w=>∃i:Nat,i<=16/\vv=[.p (some (ad r1 0)),.s .empty,.s (bs ((nb m).take i)),.i (i:Int)]/\St W w (Sep.pt r1 (nm m)::L),
  mq 3 16,⟨0,aE _,rfl,jo⟩,?_⟩
 rintro a1 s1 s2 n1 w2 ⟨i,hi,e1,gI⟩;cases e1
 refine T.at ?_ gI;have e5:=m9 i;apply fZ<;>intro g1
 ·have cj:i<16:=by omega
  intro w jo;refine⟨λvv w=>∃k:Nat,k<=8/\vv=[.p (some (ad r1 0)),.s .empty,.s (bs ((nb m).take i)),.i (i:Int),.i ((m/256^i/2^k%2^(8-k):Nat):Int),.i ((k:Int) -1)]/\St W w (Sep.pt r1 (nm m)::L),
   λvs _=>match vs with|[_,_,_,_,_,.int _ d]=>(d+1).toNat|_=>0,⟨8,aF _,by simp,jo⟩,?_⟩
  rintro a2 s3 s4 n2 n3 n4 w4 ⟨k,hk,e2,yt⟩;cases e2
  refine T.at ?_ yt;apply fZ<;>intro g2
  ·obtain⟨k,rfl⟩:∃j,k=j+1:=⟨k-1,by omega⟩;have e3:aa.wrap (aa.wrap (8* (i:Int))+(((k+1:Nat):Int) -1))=((8* i+k:Nat):Int):=by
    rw[aX (n:=8* (i:Int)) (by omega),aX (by omega)];omega
   have e4:m/2^(8* i+k)=m/256^i/2^k:=by rw[Nat.pow_add,Nat.pow_mul,Nat.div_div_eq_div_mul]
   apply ws;rw[e3];apply tu hm (by omega);apply mg;rw[e4];have hb:=ahY (m/256^i) k (by omega);have h6:m/256^i/2^k%2^(8-k)<256:=Nat.lt_of_lt_of_le (Nat.mod_lt _ (Nat.pow_pos (by decide))) (show 2^(8-k)<=2^8 from gM (by decide) (by omega));rw[show 8-(k+1)=7-k by omega];have h7:((k+1:Nat):Int) -1=(k:Int):=by omega
   rw[h7];generalize m/256^i/2^(k+1)%2^(7-k)=y at hb⊢;generalize m/256^i/2^k%2=z at hb⊢;rw[aX (n:=2* (y:Int)) (by omega),aX (n:=2* (y:Int)+(z:Int)) (by omega),aX (n:=(k:Int) -1) (by omega)];refine λw5 h5=>⟨⟨k,by omega,?_,h5⟩,?_⟩
   ·rw[<-hb];rfl
   ·show(((k:Int) -1)+1).toNat<((k:Int)+1).toNat;omega
  ·obtain rfl:k=0:=by omega
   apply dJ ⟨rfl,trivial⟩;refine tN λr2=>?_;have h8:m/256^i/2^0%2^(8-0)=m/256^i%256:=by simp
   rw[h8];have e6:Value.int .u8 (IntKind.u8.wrap ((m/256^i%256:Nat):Int))=vf (UInt8.ofNat (m/256^i%256)):=by
    have:=uo (n:=((m/256^i%256:Nat):Int)) (by omega);rw[ak] at this;rw[this]
    congr 1
    unfold IntKind.wrap;simp[IntKind.signed,IntKind.bits]
   rw[e6];apply S8 (l:=[UInt8.ofNat (m/256^i%256)]);have e7:(nb m)[i]?=some (UInt8.ofNat (m/256^i%256)):=by
    unfold nb;rw[dU,q8 cj];rfl
   have e8:bs ((nb m).take i)++bs [UInt8.ofNat (m/256^i%256)]=bs ((nb m).take (i+1)):=by rw[lR,ba,e7];rfl
   refine dJ (by rw[cf,cf,aC,rN,pT];omega) ?_;rw[e8,e5];refine T.drop λw5 h5=>⟨⟨i+1,cj,rfl,h5⟩,dn (by omega)⟩
 ·obtain rfl:i=16:=by omega
  have e9:(nb m).take 16=nb m:=bG (by rw[rN];omega);rw[e9];exact T.drop h
def NG(ha:yi a)(h:T W L (K (.s (bs (jl a))))):T W L (lz (aO a) K):=by
 unfold lz;have:=ha.id;have:=ha.dp;have:=ha.dq;have:=ha.cp;have:=ha.cq
 repeat' first|apply ws;intros|apply wb|first|refine Fp (by assumption) ?_|refine Zc ?_|refine Zd ?_|refine Tt ?_|refine dJ (by simp only[lR,cf,au,rN,aP];omega) ?_
 simp only[lR];exact T.dp h
def NC(ht:yf t)(h:T W L (K (.s (bs (oL t))))):T W L (lu (aM t) K):=by
 unfold lu;have:=ht.id;have:=ht.bC;have:=ht.aU;have:=ht.aT;have:=ht.pending
 repeat' first|apply ws;intros|apply wb|first|refine Fp (by assumption) ?_|refine Zc ?_|refine Zd ?_|refine Tt ?_|refine dJ (by simp only[lR,cf,au,rN,aP];omega) ?_
 simp only[lR];exact T.dp h
def TF{x:Bool}(h:true= !x):x=false:=by cases x with|false=>rfl|true=>cases h
def TG{x:Bool}(h:false= !x):x=true:=by cases x with|true=>rfl|false=>cases h
def QZ[hh:Has R L](h1:np W R I1 1 rb res)(h2:np W R aO 14 ab al)(h3:np W R aM 16 tb tl)(l1:res.length<1000000)(l2:al.length<1000000)(l3:tl.length<1000000)(h:T W L (K (.b (oE e res al tl)))):
 T W L (cB e rb res.length rc ab al.length ac tb tl.length tc K):=by
 have j1:∀b:Bool,b= !(decide (0<=e/\e<=255)&&decide (res.length<=16/\al.length<=16/\tl.length<=16))->T W L (cB.j1 K rb res.length rc ab al.length ac tb tl.length tc b):=λb hb=>by
  unfold cB.j1;rw[KQ] at h;cases b with
  |true=>
   rw[TF hb,Bool.and_false,Bool.and_false,Bool.and_false] at h;exact h
  |false=>
   rw[TG hb,Bool.and_true] at h;apply sB;intro w jo;refine⟨λvv w=>∃i:Nat,i<=res.length/\(res.take i).all okR=true/\vv=[.b false,.l rb res.length rc,.i (res.length:Int),.i (i:Int)]/\St W w L,
    mq 3 res.length,⟨0,aE _,rfl,rfl,jo⟩,?_⟩
   rintro b1 jJ iX jV n1 n2 w2 ⟨i,hi,fx,e1,gI⟩;cases e1
   refine T.at ?_ gI;have e5:=m9 i;apply fZ<;>intro g1
   ·have cj:i<res.length:=by omega
    have gx:=aj cj;generalize res[i]=x at gx;refine iq h1 ⟨by omega,by omega⟩ rfl λa ha=>?_;rw[ak];apply Ae h1 ha gx;apply mg;have bad: ¬(0<=x/\x<=255)->T W L (K (.b false)):=λhx=>by
     rw[all_false (P:=okR) gx (aq hx),fK] at h;exact h
    refine fZ (λg2=>bad (by omega)) (λg2=>?_);refine fZ (λg3=>bad (by omega)) (λg3=>?_);rw[e5];exact λw3 h3=>⟨⟨i+1,cj,by rw[qV gx fx];exact aw (by omega),rfl,h3⟩,dn (by omega)⟩
   have iO:i=res.length:=by omega
   subst iO;rw[aV] at fx;rw[fx,dI] at h;intro w jo;refine⟨λvv w=>∃i:Nat,i<=al.length/\(al.take i).all (λa=>decide (m8 a))=true/\vv=[.b false,.l ab al.length ac,.i (al.length:Int),.i (i:Int)]/\St W w L,
    mq 3 al.length,⟨0,aE _,rfl,rfl,jo⟩,?_⟩
   rintro b1 jJ iX jV n1 n2 w2 ⟨i,hi,fx,e1,gI⟩;cases e1
   refine T.at ?_ gI;have e5:=m9 i;apply fZ<;>intro g1
   ·have cj:i<al.length:=by omega
    have gx:=aj cj;generalize al[i]=x at gx;refine iq h2 ⟨by omega,by omega⟩ rfl λa ha=>?_;rw[ak];apply kd h2 ha gx rfl
    repeat' first|apply ws;intros|apply wb|refine HC ?_
    rw[e5];by_cases hg:m8 x
    ·rw[aw hg];apply ws;refine T.drop λw3 h3=>⟨⟨i+1,cj,by rw[qV gx fx];exact aw hg,rfl,h3⟩,dn (by omega)⟩
    ·rw[aq hg];apply ws;rw[all_false (P:=λa=>decide (m8 a)) gx (aq hg),fK] at h;exact T.dp h
   have iO:i=al.length:=by omega
   subst iO;rw[aV] at fx;rw[fx,dI] at h;intro w jo;refine⟨λvv w=>∃i:Nat,i<=tl.length/\(tl.take i).all (λa=>decide (kB a))=true/\vv=[.b false,.l tb tl.length tc,.i (tl.length:Int),.i (i:Int)]/\St W w L,
    mq 3 tl.length,⟨0,aE _,rfl,rfl,jo⟩,?_⟩
   rintro b1 jJ iX jV n1 n2 w2 ⟨i,hi,fx,e1,gI⟩;cases e1
   refine T.at ?_ gI;have e5:=m9 i;apply fZ<;>intro g1
   ·have cj:i<tl.length:=by omega
    have gx:=aj cj;generalize tl[i]=x at gx;refine iq h3 ⟨by omega,by omega⟩ rfl λa ha=>?_;rw[ak];apply kd h3 ha gx rfl
    repeat' first|apply ws;intros|apply wb|refine HB ?_
    rw[e5];by_cases hg:kB x
    ·rw[aw hg];apply ws;refine T.drop λw3 h3=>⟨⟨i+1,cj,by rw[qV gx fx];exact aw hg,rfl,h3⟩,dn (by omega)⟩
    ·rw[aq hg];apply ws;rw[all_false (P:=λa=>decide (kB a)) gx (aq hg)] at h;exact T.dp h
   have iO:i=tl.length:=by omega
   subst iO;rw[aV] at fx;rw[fx] at h;exact h
 have j3:∀b:Bool,b= !(decide (0<=e/\e<=255)&&decide (res.length<=16))->T W L (cB.j3 K rb res.length rc ab al.length ac tb tl.length tc b):=λb hb=>by
  unfold cB.j3;cases b with
  |true=>
   have hb: ¬((0<=e/\e<=255)/\res.length<=16):=λhh=>by have:=TF hb;rw[aw hh.1,aw hh.2] at this;cases this
   refine vN (j1 _ ?_);rw[bZ];simp;omega
  |false=>
   have hb:(0<=e/\e<=255)/\res.length<=16:=by have:=TG hb;rw[dh,decide_eq_true_eq,decide_eq_true_eq] at this;exact this
   apply sB;refine fZ (λg=>j1 _ (by rw[bZ];simp;omega)) (λg=>j1 _ ?_);rw[bZ];simp;omega
 have j2:∀b:Bool,b= !decide (0<=e/\e<=255)->T W L (cB.j2 K rb res.length rc ab al.length ac tb tl.length tc b):=λb hb=>by
  unfold cB.j2;cases b with
  |true=>
   have hb: ¬(0<=e/\e<=255):=bq (TF hb);refine vN (j3 _ ?_);rw[bZ];simp;omega
  |false=>
   have hb:(0<=e/\e<=255):=aS (TG hb);refine sB (j3 _ ?_);rw[bZ];simp;omega
 unfold cB;refine fZ (λg=>j2 _ (by rw[bZ];simp;omega)) (λg=>j2 _ ?_);rw[bZ];simp;omega
def Ao[hh:Has R L](h1:np W R I1 1 rb res)(h2:np W R aO 14 ab al)(h3:np W R aM 16 tb tl)(l1:res.length<1000000)(l2:al.length<1000000)(l3:tl.length<1000000)(hA:∀a∈al,yi a)(hT:∀t∈tl,yf t)(h:T W L (K (.s (bs (qq e res al tl))))):
 T W L (hO e rb res.length rc ab al.length ac tb tl.length tc K):=by
 unfold hO;apply QZ h1 h2 h3 l1 l2 l3;apply sA;cases hf:oE e res al tl with
 |false=>
  rw[show qq e res al tl=[3,0,0,0] by unfold qq;rw[af (by rw[hf];decide)];rfl] at h;exact h
 |true=>
  obtain⟨f1,f2,f3,f4,f5,f6,f7⟩:=uL hf;unfold qq at h;rw[ai hf] at h;have k2:(al.flatMap jl).length=al.length* 96:=dE nD al;have k1:(res.flatMap λr=>le .i64 1 r).length=res.length* 1:=dE (λr=>aP _ _ _) res;have k3:=dE oK tl;refine EU (HE (wc (HE (wc ?_))));refine dJ (by rw[cf,cf,aP,aP];decide) ?_;rw[lR];intro w jo;refine⟨λvv w=>∃i:Nat,i<=res.length/\vv=[.s .empty,.s (bs (le .i64 1 e++le .i64 1 (res.length:Int)++(res.take i).flatMap λr=>le .i64 1 r)),.l rb res.length rc,.i (res.length:Int),.i (i:Int)]/\St W w L,
   mq 4 res.length,⟨0,aE _,by simp,jo⟩,?_⟩
  rintro s3 s4 vc rA u6 n2 n3 w2 ⟨i,hi,e1,gI⟩;cases e1
  refine T.at ?_ gI;have e5:=m9 i;have hlen:(le .i64 1 e++le .i64 1 (res.length:Int)++(res.take i).flatMap λr=>le .i64 1 r).length<=18:=by
   rw[au,au,dE (e:=1) (λr=>aP _ _ _),aC,aP,aP];omega
  apply fZ<;>intro g1
  ·have cj:i<res.length:=by omega
   have gx:=aj cj;generalize res[i]=x at gx;refine iq h1 ⟨by omega,by omega⟩ rfl λa ha=>?_;rw[ak];apply Ae h1 ha gx;refine mg (HE (wc ?_));refine dJ (by rw[cf,cf,aP];omega) ?_;rw[e5,lR];refine λw3 h3=>⟨⟨i+1,cj,?_,h3⟩,dn (by omega)⟩;rw[ba,gx,gi];simp[aH]
  have iO:i=res.length:=by omega
  subst iO;rw[aV] at hlen⊢;refine HE (wc ?_);refine dJ (by rw[cf,cf,aP];omega) ?_;rw[lR];generalize hP:le .i64 1 e++le .i64 1 (res.length:Int)++(res.flatMap λr=>le .i64 1 r)++le .i64 1 (al.length:Int)=P;have hPl:P.length<=19:=by rw[<-hP,au,aP];omega
  intro w jo;refine⟨λvv w=>∃i:Nat,i<=al.length/\vv=[.s .empty,.s (bs (P++(al.take i).flatMap jl)),.l ab al.length ac,.i (al.length:Int),.i (i:Int)]/\St W w L,
   mq 4 al.length,⟨0,aE _,by simp,jo⟩,?_⟩
  rintro s3 s4 vc rA u6 n2 n3 w2 ⟨i,hi,e1,gI⟩;cases e1
  refine T.at ?_ gI;have e5:=m9 i;have zS:(P++(al.take i).flatMap jl).length<=2000:=by
   rw[au,dE nD,aC];omega
  apply fZ<;>intro g1
  ·have cj:i<al.length:=by omega
   have gx:=aj cj;have gm:=hA _ (cb cj);generalize al[i]=x at gx gm;refine iq h2 ⟨by omega,by omega⟩ rfl λa ha=>?_;rw[ak];apply kd h2 ha gx rfl
   repeat' first|apply ws;intros|apply wb|refine NG gm ?_
   refine dJ (by rw[cf,cf,nD];omega) ?_;rw[e5,lR];refine T.drop λw3 h3=>⟨⟨i+1,cj,?_,h3⟩,dn (by omega)⟩;rw[ba,gx,gi];simp[aH]
  have iO:i=al.length:=by omega
  subst iO;rw[aV] at zS⊢;refine HE (wc ?_);refine dJ (by rw[cf,cf,aP];omega) ?_;rw[lR];generalize hQ:P++al.flatMap jl++le .i64 1 (tl.length:Int)=Q;have hQl:Q.length<=2001:=by rw[<-hQ,au,aP];omega
  intro w jo;refine⟨λvv w=>∃i:Nat,i<=tl.length/\vv=[.s .empty,.s (bs (Q++(tl.take i).flatMap oL)),.l tb tl.length tc,.i (tl.length:Int),.i (i:Int)]/\St W w L,
   mq 4 tl.length,⟨0,aE _,by simp,jo⟩,?_⟩
  rintro s3 s4 vc rA u6 n2 n3 w2 ⟨i,hi,e1,gI⟩;cases e1
  refine T.at ?_ gI;have e5:=m9 i;have aij:(Q++(tl.take i).flatMap oL).length<=5000:=by
   rw[au,dE oK,aC];omega
  apply fZ<;>intro g1
  ·have cj:i<tl.length:=by omega
   have gx:=aj cj;have gm:=hT _ (cb cj);generalize tl[i]=x at gx gm;refine iq h3 ⟨by omega,by omega⟩ rfl λa ha=>?_;rw[ak];apply kd h3 ha gx rfl
   repeat' first|apply ws;intros|apply wb|refine NC gm ?_
   refine dJ (by rw[cf,cf,oK];omega) ?_;rw[e5,lR];refine T.drop λw3 h3=>⟨⟨i+1,cj,?_,h3⟩,dn (by omega)⟩;rw[ba,gx,gi];simp[aH]
  have iO:i=tl.length:=by omega
  subst iO;rw[aV];have:yI e res al tl=Q++tl.flatMap oL:=by rw[<-hQ,<-hP];unfold yI;simp only[aH]
  rw[this] at h;exact h
def Ts(h:T W L (K (.s (bs (qq e [] [] []))))):T W L (hO e none 0 0 none 0 0 none 0 0 K):=
 Ao (R:=L) (rb:=none) (ab:=none) (tb:=none) (rc:=0) (ac:=0) (tc:=0) (res:=[]) (al:=[]) (tl:=[]) np.nil np.nil np.nil (by decide) (by decide) (by decide) (λa h=>by cases h) (λa h=>by cases h) h
def uM(h:T W L (K (.s (bs (qq e [] [] []))))):T W L (iV e K):=by
 unfold iV;exact Ts (wc h)
end
section
variable {W:World} {L R M:LH} {K:VK} {X:WK} {q:jY} {s:vH} {p:Nat} {m:aA} {mb kb:OA} {mc kc:Nat}
def Hz{r1:Nat}{ob kb ab xb:OA}{oc kc ac xc:Nat}{ol al:List bN}{kl xl:List cr}{ck st Yh Y4:Int}{f0:LV->LH}{f1 f2 f3 f4:HP->LH}
 [i0:Lc (Sep.pt r1) L [.l ob ol.length oc,.l kb kl.length kc,.i ck,.i st] f0]
 [i1:vI ob ol.length oc L 14 (ol.flatMap aO) f1][i2:vI ab al.length ac L 14 (al.flatMap aO) f2][i3:vI kb kl.length kc L 33 (kl.flatMap bM) f3][i4:vI xb xl.length xc L 33 (xl.flatMap bM) f4](ha:ol.length<=100000)(hk:kl.length<=100000)
 (h:T W L (K (.b (decide (ol=al/\kl=xl/\ck=Yh/\st=Y4))))):T W L (cQ (some (ad r1 0)) ab al.length ac xb xl.length xc Yh Y4 K):=by
 have bad: ¬(ol=al/\kl=xl/\ck=Yh/\st=Y4)->T W L (K (.b false)):=λhh=>by rw[aq hh] at h;exact h
 have j1:∀b:Bool,(b=true-> ¬(ol=al/\kl=xl/\ck=Yh/\st=Y4))->(b=false->ol.length=al.length/\kl.length=xl.length/\ck=Yh/\st=Y4)->T W L (cQ.j1 K al.length (some (ad r1 0)) ab xl.length xb b):=λb V1 wE=>by
  unfold cQ.j1;cases b with
  |true=>exact bad (V1 rfl)
  |false=>
   obtain⟨hl1,XC,hck,u7⟩:=wE rfl;apply sB;intro w jo;refine⟨λvv w=>∃i:Nat,i<=al.length/\ol.take i=al.take i/\vv=[.b false,.i (al.length:Int),.i (i:Int)]/\St W w L,mq 2 al.length,⟨0,aE _,rfl,rfl,jo⟩,?_⟩;rintro b1 n1 n2 w2 ⟨i,hi,heq,e,gI⟩;cases e
   refine T.at ?_ gI;have e5:=m9 i;apply fZ<;>intro g1
   ·have cj:i<al.length:=by omega
    have gx:=aj (show i<ol.length by omega);have gy:=aj cj;generalize ol[i]=x at gx;generalize al[i]=y at gy;apply IJ;apply DF;apply nF (i:=i0) rfl;apply tZ;refine dT (b:=ob) ⟨by omega,by omega⟩ λrb hb=>?_;rw[ak];subst hb;apply ij jR gx;refine dT (b:=ab) ⟨by omega,by omega⟩ λrb2 hb=>?_;rw[ak];subst hb;apply ij jR gy;apply acr;by_cases g2:x=y
    ·rw[aw g2,e5];apply EU;exact λw3 h3=>⟨⟨i+1,cj,Mw gx gy heq g2,rfl,h3⟩,dn (by omega)⟩
    ·rw[aq g2];exact bad λhh=>Mx gx gy g2 hh.1
   ·have iO:i=al.length:=by omega
    subst iO;rw[aV,<-hl1,aV] at heq;intro w3 vY;refine⟨λvv w=>∃i:Nat,i<=xl.length/\kl.take i=xl.take i/\vv=[.b false,.i (xl.length:Int),.i (i:Int)]/\St W w L,mq 2 xl.length,⟨0,aE _,rfl,rfl,vY⟩,?_⟩;rintro b1 n1 n2 w4 ⟨i,hi,abh,e,yt⟩;cases e
    refine T.at ?_ yt;have e5:=m9 i;apply fZ<;>intro g1
    ·have cj:i<xl.length:=by omega
     have gx:=aj (show i<kl.length by omega);have gy:=aj cj;generalize kl[i]=x at gx;generalize xl[i]=y at gy;apply IJ;apply DF;apply ER;apply nF (i:=i0) (o:=1) rfl;apply tZ;refine dT (b:=kb) ⟨by omega,by omega⟩ λrb hb=>?_;rw[ak];subst hb;apply ij jy gx;refine dT (b:=xb) ⟨by omega,by omega⟩ λrb2 hb=>?_;rw[ak];subst hb;apply ij jy gy;apply acq;by_cases g2:x=y
     ·rw[aw g2,e5];apply EU;exact λw3 h3=>⟨⟨i+1,cj,Mw gx gy abh g2,rfl,h3⟩,dn (by omega)⟩
     ·rw[aq g2];exact bad λhh=>Mx gx gy g2 hh.2.1
    ·have iO:i=xl.length:=by omega
     subst iO;rw[aV,<-XC,aV] at abh;rw[aw ⟨heq,abh,hck,u7⟩] at h;exact h
 unfold cQ cQ.j2 cQ.j3;apply DF;apply nF (i:=i0) rfl;apply tZ;by_cases hlen:ol.length=al.length
 ·refine eO (by simp;omega) ?_;apply DF;apply ER;apply nF (i:=i0) (o:=1) rfl;apply tZ;by_cases zS:kl.length=xl.length
  ·refine eO (by simp;omega) ?_;apply DF;apply ER;apply nF (i:=i0) (o:=2) rfl;apply mg;by_cases hc:ck=Yh
   ·apply eO (by simpa using hc);apply DF;apply ER;apply nF (i:=i0) (o:=3) rfl;apply mg;refine j1 _ (λhb=>?_) (λhb=>⟨hlen,zS,hc,by simpa using hb⟩);have:=eY.1 hb;exact λhh=>this hh.2.2.2
   ·apply kL (by simpa using hc);exact j1 true (λ_ hh=>hc hh.2.2.1) (λhb=>by cases hb)
  ·refine kL (by rw[eY];omega) ?_;apply vN;exact j1 true (λ_ hh=>zS (by rw[hh.2.1])) (λhb=>by cases hb)
 ·refine kL (by rw[eY];omega) ?_;apply vN;apply vN;exact j1 true (λ_ hh=>hlen (by rw[hh.1])) (λhb=>by cases hb)
def WQ{ab xb:OA}{ac xc:Nat}{al:List bN}{xl:List cr}{Yh Y4:Int}{f2 f4:HP->LH}(hm:RM m)
 [i2:vI ab al.length ac R 14 (al.flatMap aO) f2][i4:vI xb xl.length xc R 33 (xl.flatMap bM) f4]
 (h:T W (ML p m mb mc kb kc R) (K (.b (decide (m.dj.map m.full=al/\m.ax=xl/\m.clock=Yh/\m.ay=Y4))))):T W (ML p m mb mc kb kc R) (kH (ah p) ab al.length ac xb xl.length xc Yh Y4 K):=by
 unfold kH;have hmf:=hm.oS;have hmm:=hm.many;apply ws;refine C9 (by omega) (by omega) hm.rkA hm.rkK λob oc=>?_;apply ws;intros;rename_i r1;have VQ:m.dj.length=(m.dj.map m.full).length:=(bY _).symm;rw[VQ];refine Hz (ob:=ob) (ol:=m.dj.map m.full) (kl:=m.ax) (by rw[bY];omega) (by omega) ?_;apply ws;apply T.drop;apply T.sub h;exact pX
end
instance{e:Int}{rb ab tb:OA}{rn rc an ac tn tc:Nat}:Sub (nX e rb rn rc ab an ac tb tn tc) 0 4 (nX e rb rn rc ab an ac tb tn tc):=⟨rfl,λj v h=>by rw[aD];exact h⟩
instance{x1 x2 x3 x4:Value}{e:Int}{rb ab tb:OA}{rn rc an ac tn tc:Nat}:Wr [x1,x2,x3,x4] 0 (nX e rb rn rc ab an ac tb tn tc) (nX e rb rn rc ab an ac tb tn tc):=⟨rfl,aF _,λv hv=>by simp[nX] at hv;rcases hv with rfl|rfl|rfl|rfl<;>rfl⟩
section
variable {W:World} {L R M:LH} {K:VK} {X:WK} {q:jY} {s:vH} {p:Nat} {m:aA} {mb kb:OA} {mc kc:Nat}
end
end Go.Up
namespace Go.Sep
open Go.Den Go.RowKit Go.Prog Go.cH
section
variable {W w:World} {L:LH}
end
def Qh{D:aZ}{number:Int}{h:gn}(hg:nS h):∃a:Nat,(a:Int)=low h.bB/\a<2/\tS D number h=eQ D a (a+1:Nat) number (bs (ko h)):=by
 have hl:=vR h.bB;refine⟨(low h.bB).toNat,by omega,by omega,?_⟩;unfold tS eQ;rw[ai hg];have e1:(((low h.bB).toNat:Nat):Int)=low h.bB:=by omega
 have e2:(((low h.bB).toNat+1:Nat):Int)=low h.bB+1:=by omega
 rw[e1,e2]
def F8(h:gn):gB (bs (ko h)).size=1:=by rw[cf,qy];rfl
def HF(h:gn):part (bs (ko h)) 0=bs (ko h):=by
 apply kQ;unfold part;rw[extract_toList,Nat.mul_zero,iK,bG];show(ko h).length<=_;rw[qy];decide
def Mr{D:aZ}{i:Nat}{n:Int}{h:gn}(hn:1<=n/\n<=1152921504606846976)(hg:nS h)(hi:(i:Int)=low h.bB)(hr:D.read (i:Int)=(leaf n 0 (bs (ko h)),0)):AN D i=some h:=by
 have AA:fk n 0 (bs (ko h)):=⟨hn.1,hn.2,by decide,by decide,by rw[cf,qy];decide⟩;unfold AN;rw[hr];dsimp only;rw[nC AA,pg AA];dsimp only;rw[af (by simp),show(bs (ko h)).data.toList=ko h from rfl,LK hg];dsimp only;rw[af (λhh=>hh hi.symm)]
def Gj{D:aZ}{i:Nat}(hr:mh (D.read (i:Int)).1.data.toList=none):AN D i=none:=by
 unfold AN;rw[hr]
def Ll{n:Int}(h:0<=n/\n<=1152921504606846977):low n=n.tmod 2:=by
 obtain⟨m,rfl⟩:=bw h.1;have e:m%2^64=m:=fD (by omega);rw[PI,BitVec.ofInt_natCast,BitVec.toNat_ofNat,e,dB (by omega)];omega
def ze{D:aZ}{i:Nat}(h:i<D.safe.length):(D.read (i:Int)).2=0:=by
 unfold aZ.read;rw[ai ⟨by omega,by omega⟩]
section
variable {W w:World} {L:LH}
end
def wR(a:gn×gn)(h:gn):gn×gn:=if low h.bB=0 then(h,a.2) else(a.1,h)
def CP{D D':aZ}{i:Nat}(h1:i<D.safe.length)(h2:i<D'.safe.length)(h:(D'.read (i:Int)).1=(D.read (i:Int)).1):AN D' i=AN D i:=by
 have e:D'.read (i:Int)=D.read (i:Int):=by
  have a:=ze h1;have b:=ze h2;exact Prod.ext h (by rw[a,b])
 unfold AN;rw[e]
def zU(h:gn):∀v∈cm h,v.oneCell'=true:=by simp[cm,Value.oneCell']
section
variable {W w:World} {L:LH} {k:Nat}
end
end Go.Sep
namespace Go.Up
open Go.Sep Go.Den Go.RowKit Go.Prog Go.Md Go.cH
def FG{n:Nat}{D D':aZ}{J:PJ}{q0:Int}{oR:List (List UInt8)}{g g':Nat}(h:JG n D J q0 oR g)(iE:D'.Ok)(Az:D'.later=[])(hlen:D'.safe.length=n)
 (hr:∀j:Int,J.lo<=j->j<J.hi->(D'.read j).1=(D.read j).1)(he:∀j:Nat,j<n->Sep.Ends g' (D'.read (j:Int)).1):JG n D' J q0 oR g':=by
 have hl:D'.safe.length=D.safe.length:=by rw[hlen,h.len]
 have j2:=h.yc.Ms;have j3:=h.yc.Ss;refine⟨iE,Az,hlen,⟨h.yc.lo,j2,j3,by rw[hl];exact h.yc.hi,h.yc.seq⟩,vE hl _ h.chain (λj a b=>hr j (by omega) (by omega)),h.seq,h.q0,λj a b m d hv=>?_,?_,he⟩
 ·rw[hr j a b] at hv;exact h.low j a b m d hv
 ·rw[Dc hl (λj a b=>hr j (by omega) (by omega))];exact h.stop
def NY{n:Nat}{D:aZ}{J:PJ}{q0:Int}{oR:List (List UInt8)}{g:Nat}(h:JG n D J q0 oR g):JG n D {J with at':=J.lo} J.seq [] g:=by
 have hq0:=h.q0;have G0:=h.seq;have j2:=h.yc.Ms;have j3:=h.yc.Ss;refine⟨h.ok,h.Jg,h.len,⟨h.yc.lo,sS _,by show J.lo<=J.hi;omega,h.yc.hi,h.yc.seq⟩,rfl,by show J.seq=J.seq+_;simp,h.yc.seq.1,h.low,?_,h.ends⟩;show mj D J.lo J.hi (J.seq+1)=none;cases DN:oR with
 |nil=>
  have Jt:=h.chain;rw[DN] at Jt;unfold Sep.ku at Jt;rw[Jt];exact h.stop
 |cons s r=>
  have Jt:=h.chain;rw[DN] at Jt;obtain⟨a2,h1,h2⟩:=Jt;obtain⟨m,d,x1,x2,hv,Rl⟩:=HL (by omega) h1;obtain⟨i1,i2,i3,i4,i5,i6⟩:=qc h1;have Ud:=rV (12+s.length);have B4:=h.yc.seq;have AW:=h.yc.hi;have hlen:=h.ok.oS;have aa7:=vj (seq:=q0+1) (s:=bs s) ⟨by omega,by
   have:(oR.length:Int)>=1:=by rw[DN,aW];omega
   omega⟩ (by rw[cf];omega)
  refine Cr (λm2 d2 NZ=>?_);rw[hv] at NZ;simp only[bE.injEq,Prod.mk.injEq] at NZ;obtain⟨-,-,rfl⟩:=NZ;have Ua:Sep.fk m ((0:Nat):Int) (Sep.part (bs (df (q0+1) (bs s))) 0):=⟨x1,x2,by omega,by omega,nB _ 0⟩;have r0:=Rl 0 Ud;rw[show J.lo+((0:Nat):Int)=J.lo from by omega] at r0;rw[r0,nC Ua,pg Ua] at hv;simp only[bE.injEq,Prod.mk.injEq] at hv;obtain⟨-,-,hd⟩:=hv;rw[<-hd,aa7.1];rw[DN,aW] at G0;omega
def Aft(L:aZ×Int)(D':aZ):Prop:=(∃mask torn cut,D'=L.1.fM mask torn cut)\/(L.2=0/\D'=L.1)
def lsx{n a t m g:Nat}{D D':aZ}{s:BA}(iE:D.Ok)(Az:D.later=[])(hlen:D.safe.length=n)(ry:∀j:Nat,j<n->Sep.Ends g (D.read (j:Int)).1)(cS:n<=4096)(hm:g<m)(Jn:m<256)(hl:a+gB s.size<=t)(htn:t<=n)
 (hA:Aft (eQ D (a:Int) (t:Int) (m:Int) s) D'):
 D'.Ok/\D'.later=[]/\D'.safe.length=n/\(∀j:Nat,j<n->Sep.Ends m (D'.read (j:Int)).1)/\(∀j:Nat,j<n->(j<a\/a+gB s.size<=j)->(D'.read (j:Int)).1=(D.read (j:Int)).1)/\
  ((eQ D (a:Int) (t:Int) (m:Int) s).2=0->∀q:Nat,q<gB s.size->(D'.read ((a+q:Nat):Int)).1=leaf m q (Sep.part s q))/\
  (∀q:Nat,q<gB s.size->(D'.read ((a+q:Nat):Int)).1=(D.read ((a+q:Nat):Int)).1\/(D'.read ((a+q:Nat):Int)).1=leaf m q (Sep.part s q)\/mh (D'.read ((a+q:Nat):Int)).1.data.toList=none):=by
 have hcp:=rV s.size;have key:∀mask torn cut:Int,∀X:aZ,X=(eQ D (a:Int) (t:Int) (m:Int) s).1.fM mask torn cut->X.Ok/\X.later=[]/\X.safe.length=n/\(∀j:Nat,j<n->Sep.Ends m (X.read (j:Int)).1)/\(∀j:Nat,j<n->(j<a\/a+gB s.size<=j)->(X.read (j:Int)).1=(D.read (j:Int)).1)/\
  ((eQ D (a:Int) (t:Int) (m:Int) s).2=0->∀q:Nat,q<gB s.size->(X.read ((a+q:Nat):Int)).1=leaf m q (Sep.part s q))/\
  (∀q:Nat,q<gB s.size->(X.read ((a+q:Nat):Int)).1=(D.read ((a+q:Nat):Int)).1\/(X.read ((a+q:Nat):Int)).1=leaf m q (Sep.part s q)\/mh (X.read ((a+q:Nat):Int)).1.data.toList=none):=λmask torn cut X hX=>by
  obtain⟨c1,c2,c3,c4⟩:=Lj (n:=n) (a:=a) (t:=t) (number:=(m:Int)) (mask:=mask) (torn:=torn) (cut:=cut) (s:=s) iE Az hlen cS (by omega) hl htn;rw[<-hX] at c1 c2 c3 c4;have AA:∀i:Nat,i<4096->Sep.fk (m:Int) (i:Int) (Sep.part s i):=λi hi=>⟨by omega,by omega,by omega,by omega,nB _ i⟩;have adn:X.later=[]:=by rw[hX,oN]
  refine⟨c3,adn,c4,λj hj=>?_,λj hj yp=>?_,c2,λq hq=>?_⟩
  ·rcases c1 j hj with hh|⟨i,h1,h2,h3⟩
   ·rw[hh];exact(ry j hj).mono (by omega)
   ·exact(Cv hm Jn (AA i (by omega)) (ry j hj) h3).1
  ·rcases c1 j hj with hh|⟨i,h1,h2,h3⟩
   ·exact hh
   ·omega
  ·rcases c1 (a+q) (by omega) with hh|⟨i,h1,h2,h3⟩
   ·exact .inl hh
   ·have:i=q:=by omega
    subst this;exact(Cv hm Jn (AA i (by omega)) (ry (a+i) (by omega)) h3).2
 rcases hA with⟨mask,torn,cut,hX⟩|⟨h0,hX⟩
 ·exact key mask torn cut D' hX
 ·have hlz:=PG h0;obtain⟨k1,k2,k3,k4,k5,k6,k7⟩:=key 0 (-1) 0 _ rfl;have VP:∀j:Int,((eQ D (a:Int) (t:Int) (m:Int) s).1.fM 0 (-1) 0).read j=D'.read j:=λj=>by rw[hX];exact AI hlz 0 (-1) 0 j
  refine⟨by rw[hX];exact Li iE (by rw[Az,cK];omega),by rw[hX];exact hlz,by rw[hX,<-uz _ 0 (-1) 0];exact k3,λj hj=>by rw[<-VP];exact k4 j hj,λj hj ho=>by rw[<-VP];exact k5 j hj ho,λh q hq=>by rw[<-VP];exact k6 h q hq,λq hq=>by rw[<-VP];exact k7 q hq⟩
def CG(n:Nat)(D:aZ)(hd:gn)(mb:aA):Prop:=
 (hd=Ew/\mb=nZ/\AN D 0=none/\AN D 1=none)\/
 (nS hd/\(∃(a:Nat)(k:Int),(a:Int)=low hd.bB/\1<=k/\k<=1152921504606846976/\(D.read (a:Int)).1=leaf k 0 (bs (ko hd))/\(∀p,AN D (1-a)=some p->p.bB<hd.bB))/\
  hd.size=((cL (bo mb)).length:Int)/\gB (cL (bo mb)).length<=dv n/\∀q:Nat,q<gB (cL (bo mb)).length->(D.read ((fa n hd.bB+q:Nat):Int)).1=leaf hd.number q (Sep.part (bs (cL (bo mb))) q))
def CG.base{n:Nat}{D:aZ}{hd:gn}{mb:aA}(h:CG n D hd mb)(hlen:D.safe.length=n)(nU:12<=n)(cS:n<=4096):ab7 D n hd mb:=by
 rcases h with⟨h1,h2,h3,h4⟩|⟨hg,⟨a,k,ha,VU,ux,hr,hp⟩,hs,hc,hq⟩
 ·left
  rw[h3,h4];exact⟨rfl,h1,h2⟩
 ·right
  have LG:=vR hd.bB;have eA:AN D a=some hd:=Mr (n:=k) ⟨VU,ux⟩ hg ha (by
   have:=ze (D:=D) (i:=a) (by omega)
   rw[<-hr,<-this])
  constructor
  ·by_cases ha0:a=0
   ·subst ha0;rw[eA];cases hb:AN D 1 with
    |none=>rfl
    |some p=>
     have:=hp p hb;show(if hd.bB<p.bB then some p else some hd)=some hd;rw[af (by omega)]
   ·have:a=1:=by omega
    subst this;rw[eA];cases hb:AN D 0 with
    |none=>rfl
    |some p=>
     have:=hp p hb;show(if p.bB<hd.bB then some hd else some p)=some hd;rw[ai this]
  ·have:=XS (n:=n) (D:=D) (which:=hd.bB) (number:=hd.number) (s:=bs (cL (bo mb))) hlen nU cS ⟨hg.2.2.1,hg.2.2.2.1⟩ (by rw[cf];exact hc) (λq hqq=>by
    rw[show(((fa n hd.bB:Nat):Int)+(q:Int))=((fa n hd.bB+q:Nat):Int) from by omega]
    exact hq q hqq)
   rw[cf,<-hs] at this;exact this
def CG.nj{n:Nat}{D D':aZ}{hd:gn}{mb:aA}(h:CG n D hd mb)(nU:12<=n)(hlen:D.safe.length=n)(adm:D'.safe.length=n)
 (h01:∀j:Nat,j<2->(D'.read (j:Int)).1=(D.read (j:Int)).1)(Zq:∀j:Nat,fa n hd.bB<=j->j<fa n hd.bB+dv n->(D'.read (j:Int)).1=(D.read (j:Int)).1):CG n D' hd mb:=by
 have BJ:∀i:Nat,i<2->AN D' i=AN D i:=λi hi=>CP (by omega) (by omega) (h01 i hi);rcases h with⟨h1,h2,h3,h4⟩|⟨hg,⟨a,k,ha,VU,ux,hr,hp⟩,hs,hc,hq⟩
 ·exact .inl ⟨h1,h2,by rw[BJ 0 (by decide)];exact h3,by rw[BJ 1 (by decide)];exact h4⟩
 ·have LG:=vR hd.bB;refine .inr ⟨hg,⟨a,k,ha,VU,ux,by rw[h01 a (by omega)];exact hr,λp T6=>hp p (by rw[<-BJ (1-a) (by omega)];exact T6)⟩,hs,hc,λq hqq=>?_⟩;rw[Zq _ (by omega) (by omega)];exact hq q hqq
structure VG(n:Nat)(D:aZ)(J:PJ)(hd:gn)(mb:aA)(qs:List jY)(g:Nat):Prop where
 jg:JG n D J hd.seq (qs.map dN) g
 cg:CG n D hd mb
 lo:J.lo=((2+2* dv n:Nat):Int)
 hi:J.hi=(n:Int)
 dL:J.dL=false
 yV:fk (bo mb)
 ground:Md.bS mb
 oR:∀q∈qs,Gu q
 IV:J.seq<=g
 bB:0<=hd.bB/\hd.bB<=g
def VG.mono{n:Nat}{D:aZ}{J:PJ}{hd:gn}{mb:aA}{qs:List jY}{g g':Nat}(h:VG n D J hd mb qs g)(hg:g<=g'):VG n D J hd mb qs g':=
 ⟨h.jg.mono hg,h.cg,h.lo,h.hi,h.dL,h.yV,h.ground,h.oR,by have:=h.IV;omega,by have:=h.bB;omega⟩
def Vd{n:Nat}(nU:12<=n)(cS:n<=4096):VG n (aZ.new n) ⟨((2+2* dv n:Nat):Int),n,((2+2* dv n:Nat):Int),0,false⟩ Ew nZ [] 0:=by
 have hb:2+2* dv n<n:=by unfold dv;omega
 have hz:∀i:Nat,i<n->mh ((aZ.new n).read (i:Int)).1.data.toList=none:=λi hi=>by
  rw[By cS hi];exact yJ
 exact⟨ab5 cS (by omega) (by omega) (by omega) 0 (by omega),.inl ⟨rfl,rfl,Gj (hz 0 (by omega)),Gj (hz 1 (by omega))⟩,rfl,rfl,rfl,FW,od,λq hq=>(by cases hq),sS _,⟨sS _,sS _⟩⟩
def VG.add{n:Nat}{D:aZ}{J:PJ}{hd:gn}{mb:aA}{qs:List jY}{g:Nat}{q:jY}(h:VG n D J hd mb qs g)(nU:12<=n)(cS:n<=4096)(hq:Gu q)(hr:room J (bs (dN q)).size)(hg:g+1<256):
 tT D J (fe D n+1) (bs (dN q))=Sep.CQ J (bs (dN q)) (eQ D J.at' J.hi (fe D n+1) (bs (df (J.seq+1) (bs (dN q)))))/\(eQ D J.at' J.hi (fe D n+1) (bs (df (J.seq+1) (bs (dN q))))).1.Ok/\
 (((eQ D J.at' J.hi (fe D n+1) (bs (df (J.seq+1) (bs (dN q))))).2=0/\VG n (eQ D J.at' J.hi (fe D n+1) (bs (df (J.seq+1) (bs (dN q))))).1 (J.more (bs (dN q))) hd mb (qs++[q]) (g+1))\/
  ((eQ D J.at' J.hi (fe D n+1) (bs (df (J.seq+1) (bs (dN q))))).2=8/\∀mask torn cut,
    VG n ((eQ D J.at' J.hi (fe D n+1) (bs (df (J.seq+1) (bs (dN q))))).1.fM mask torn cut) J hd mb qs (g+1)\/
    VG n ((eQ D J.at' J.hi (fe D n+1) (bs (df (J.seq+1) (bs (dN q))))).1.fM mask torn cut) (J.more (bs (dN q))) hd mb (qs++[q]) (g+1))):=by
 obtain⟨x,hx,hxg,ZA⟩:=h.jg.yU (by omega);have hm:fe D n+1=((x+1:Nat):Int):=by omega
 rw[hm];have G0:=h.IV;have htr:=h.bB;have B5:=h.lo;have AW:=h.hi;obtain⟨a1,a2,a3⟩:=ZA.add (m:=x+1) (s:=bs (dN q)) h.dL cS (by omega) (by omega) hr (by omega);have j2:=h.jg.yc.Ms;obtain⟨a,ha⟩:=bw (show 0<=J.at' by omega);have BH:=sG (J.seq+1) (bs (dN q));have r3:=hr.2.2;rw[ak] at r3;have hcg:∀D',Aft (eQ D J.at' J.hi ((x+1:Nat):Int) (bs (df (J.seq+1) (bs (dN q))))) D'->CG n D' hd mb:=λD' hA=>by
  rw[ha,AW] at hA;obtain⟨k1,k2,k3,k4,k5,-,-⟩:=lsx (n:=n) (a:=a) (t:=n) (m:=x+1) (g:=x) h.jg.ok h.jg.Jg h.jg.len ZA.ends cS (by omega) (by omega) (by rw[BH];omega) (aF _) hA;have T5:=(pD nU hd.bB);have Zq:fa n hd.bB+dv n<=2+2* dv n:=by unfold fa;split<;>omega
  exact h.cg.nj nU h.jg.len k3 (λj hj=>k5 j (by omega) (.inl (by omega))) (λj hj1 Jp=>k5 j (by omega) (.inl (by omega)))
 have Zr:∀r∈qs++[q],Gu r:=λr hr=>by
  rcases dY.1 hr with hr|hr
  ·exact h.oR r hr
  ·cases(show r=q by simpa using hr);exact hq
 have LF:(qs++[q]).map dN=qs.map dN++[(bs (dN q)).data.toList]:=by rw[cU];rfl
 refine⟨a1,a2,?_⟩;rcases a3 with⟨z,hj⟩|z
 ·left
  refine⟨z,⟨?_,hcg _ (.inr ⟨z,rfl⟩),B5,AW,h.dL,h.yV,h.ground,Zr,by show J.seq+1<=((g+1:Nat):Int);omega,by omega⟩⟩;rw[LF];exact hj.mono (by omega)
 ·right
  refine⟨z,λmask torn cut=>?_⟩;obtain⟨f1,f2,f3,f4⟩:=fly ZA cS (show x<x+1 by omega) (by omega) hr (by omega) mask torn cut;have hc:=hcg _ (.inl ⟨mask,torn,cut,rfl⟩);by_cases hw:∀i:Nat,i<gB (12+(bs (dN q)).size)->(((eQ D J.at' J.hi ((x+1:Nat):Int) (bs (df (J.seq+1) (bs (dN q))))).1.fM mask torn cut).read (J.at'+i)).1=leaf ((x+1:Nat):Int) i (Sep.part (bs (df (J.seq+1) (bs (dN q)))) i)
  ·right
   refine⟨?_,hc,B5,AW,h.dL,h.yV,h.ground,Zr,by show J.seq+1<=((g+1:Nat):Int);omega,by omega⟩;rw[LF];exact(f3 hw).mono (by omega)
  ·left
   exact⟨(f4 hw).mono (by omega),hc,B5,AW,h.dL,h.yV,h.ground,h.oR,by omega,by omega⟩
def Lk{t:Int}(h:0<=t/\t<1152921504606846976):low (t+1)=1-low t:=by
 rw[Ll (by omega),Ll (by omega),dB (by omega),dB (by omega)];omega
def VG.put{n:Nat}{D:aZ}{J:PJ}{hd:gn}{mb m:aA}{qs:List jY}{g:Nat}(h:VG n D J hd mb qs g)(nU:12<=n)(cS:n<=4096)(hg:g+2<256)(AB:gB (cL (bo m)).length<=dv n):
 ((put D n (hd.bB+1) (fe D n+1) (bs (cL (bo m)))).2=0\/(put D n (hd.bB+1) (fe D n+1) (bs (cL (bo m)))).2=8)/\
 ∀D',Aft (put D n (hd.bB+1) (fe D n+1) (bs (cL (bo m)))) D'->VG n D' J hd mb qs (g+1)/\
  ((put D n (hd.bB+1) (fe D n+1) (bs (cL (bo m)))).2=0->∀q:Nat,q<gB (cL (bo m)).length->(D'.read ((fa n (hd.bB+1)+q:Nat):Int)).1=leaf (fe D n+1) q (Sep.part (bs (cL (bo m))) q)):=by
 obtain⟨x,hx,hxg,ZA⟩:=h.jg.yU (by omega);have hm:fe D n+1=((x+1:Nat):Int):=by omega
 rw[hm,Ar];have AV:=pD nU (hd.bB+1);have htr:=h.bB;have B5:=h.lo;have AW:=h.hi;have G0:=h.IV;refine⟨Eb (n:=n) (a:=fa n (hd.bB+1)) (t:=fa n (hd.bB+1)+dv n) (number:=((x+1:Nat):Int)) h.jg.len cS (by omega) (by rw[cf];omega) (by omega),λD' hA=>?_⟩;obtain⟨k1,k2,k3,k4,k5,k6,k7⟩:=lsx (n:=n) (a:=fa n (hd.bB+1)) (t:=fa n (hd.bB+1)+dv n) (m:=x+1) (g:=x) h.jg.ok h.jg.Jg h.jg.len ZA.ends cS (by omega) (by omega) (by rw[cf];omega) (by omega) hA;rw[cf] at k5 k6;have hap:=Np (n:=n) hd.bB (hd.bB+1) (by rw[Lk (by omega)];have:=vR hd.bB;omega);have Zq:fa n (hd.bB+1)+dv n<=2+2* dv n:=by unfold fa;split<;>omega
 refine⟨⟨FG h.jg k1 k2 k3 (λj hj1 Jp=>?_) (λj hj=>(k4 j hj).mono (by omega)),h.cg.nj nU h.jg.len k3 (λj hj=>k5 j (by omega) (.inl (by omega))) (λj hj1 Jp=>k5 j (by have:=(pD nU hd.bB).2.1;omega) (by omega)),B5,AW,h.dL,h.yV,h.ground,h.oR,by omega,by omega⟩,k6⟩;obtain⟨k,rfl⟩:=bw (show 0<=j by omega);exact k5 k (by omega) (.inr (by omega))
def VG.aeE{n:Nat}{D:aZ}{J:PJ}{hd:gn}{mb m:aA}{qs:List jY}{g:Nat}{number:Int}(h:VG n D J hd mb qs g)(nU:12<=n)(cS:n<=4096)(x:Nat)(hx:fe D n<=x)(hxg:x<=g)(hg:g+1<256)(qd:1<=number/\number<=(g:Int))
 (AB:gB (cL (bo m)).length<=dv n)(hlen:(cL (bo m)).length<=425984)(im:fk (bo m))(uh:Md.bS m)
 (ac5:∀q:Nat,q<gB (cL (bo m)).length->(D.read ((fa n (hd.bB+1)+q:Nat):Int)).1=leaf number q (Sep.part (bs (cL (bo m))) q)):
 ((tS D ((x+1:Nat):Int) ⟨hd.bB+1,number,((cL (bo m)).length:Int),J.seq⟩).2=0\/(tS D ((x+1:Nat):Int) ⟨hd.bB+1,number,((cL (bo m)).length:Int),J.seq⟩).2=8)/\
 ∀D',Aft (tS D ((x+1:Nat):Int) ⟨hd.bB+1,number,((cL (bo m)).length:Int),J.seq⟩) D'->
  (VG n D' {J with at':=J.lo} ⟨hd.bB+1,number,((cL (bo m)).length:Int),J.seq⟩ m [] (g+1)\/
   ((tS D ((x+1:Nat):Int) ⟨hd.bB+1,number,((cL (bo m)).length:Int),J.seq⟩).2=8/\VG n D' J hd mb qs (g+1))):=by
 have ry:∀j:Nat,j<n->Sep.Ends x (D.read (j:Int)).1:=by
  obtain⟨y,hy,hyg,hjy⟩:=h.jg.yU (by omega);intro j hj;exact(hjy.ends j hj).mono (by omega)
 have htr:=h.bB;have G0:=h.IV;have B5:=h.lo;have AW:=h.hi;have XE:=h.jg.yc.seq;obtain⟨hH,Ib⟩:∃hH:gn,hH=⟨hd.bB+1,number,((cL (bo m)).length:Int),J.seq⟩:=⟨_,rfl⟩;rw[<-Ib];have hHt:hH.bB=hd.bB+1:=by rw[Ib]
 have hHs:hH.seq=J.seq:=by rw[Ib]
 have hHn:hH.number=number:=by rw[Ib]
 have hHz:hH.size=((cL (bo m)).length:Int):=by rw[Ib]
 have hHG:nS hH:=by rw[Ib];unfold nS;dsimp only;omega
 obtain⟨b,hb,wE,e⟩:=Qh (D:=D) (number:=((x+1:Nat):Int)) hHG;have N7:=F8 hH;rw[e];refine⟨Eb (n:=n) (a:=b) (t:=b+1) (number:=((x+1:Nat):Int)) h.jg.len cS (by omega) (by rw[N7];omega) (by omega),λD' hA=>?_⟩;obtain⟨k1,k2,k3,k4,k5,k6,k7⟩:=lsx (n:=n) (a:=b) (t:=b+1) (m:=x+1) (g:=x) h.jg.ok h.jg.Jg h.jg.len ry cS (by omega) (by omega) (by rw[N7];omega) (by omega) hA;rw[N7] at k5 k6 k7;have hbl:(b:Int)=1-low hd.bB:=by rw[hb,hHt];exact Lk (by omega)
 have LG:=vR hd.bB;have AV:=pD nU (hd.bB+1);have aiv:=pD nU hd.bB;have T5:2<=2+2* dv n:=by omega
 have T3:=k7 0 (by decide);rw[gK,HF] at T3;have jg1:∀g',g'>=x+1->JG n D' J hd.seq (qs.map dN) g':=λg' XF=>FG h.jg k1 k2 k3 (λj hj1 Jp=>by
  obtain⟨k,rfl⟩:=bw (show 0<=j by omega)
  exact k5 k (by omega) (.inr (by omega))) (λj hj=>(k4 j hj).mono XF)
 have Ay:∀j:Nat,j<n->j≠b->(D'.read (j:Int)).1=(D.read (j:Int)).1:=λj hj jW=>k5 j hj (by omega);have whole:(D'.read (b:Int)).1=leaf ((x+1:Nat):Int) 0 (bs (ko hH))->VG n D' {J with at':=J.lo} hH m [] (g+1):=λhw=>by
  have jr:=NY (jg1 (g+1) (by omega));refine⟨by rw[hHs];exact jr,.inr ⟨hHG,⟨b,((x+1:Nat):Int),hb,by omega,by omega,hw,λp hp=>?_⟩,hHz,AB,λq hq=>?_⟩,B5,AW,h.dL,im,uh,λq hq=>(by cases hq),by show J.seq<=((g+1:Nat):Int);omega,by rw[hHt];omega⟩
  ·rw[hHt];have Jk:AN D (1-b)=some p:=by rw[<-hp];exact(CP (by have:=h.jg.len;omega) (by omega) (Ay (1-b) (by omega) (by omega))).symm
   rcases h.cg with⟨z1,z2,z3,z4⟩|⟨N6,⟨a,k,ha,VU,ux,hra,hpa⟩,-⟩
   ·by_cases hb0:b=0
    ·subst hb0;rw[z4] at Jk;cases Jk
    ·have:b=1:=by omega
     subst this;rw[z3] at Jk;cases Jk
   ·have V2:a=1-b:=by omega
    have eA:AN D a=some hd:=Mr (n:=k) ⟨VU,ux⟩ N6 ha (by
     have:=ze (D:=D) (i:=a) (by have:=h.jg.len;omega)
     rw[<-hra,<-this])
    rw[<-V2,eA] at Jk;cases Jk
    omega
  ·rw[hHt,hHn,Ay _ (by omega) (by omega)];exact ac5 q hq
 have acP:AN D' b=none\/(D'.read (b:Int)).1=(D.read (b:Int)).1->VG n D' J hd mb qs (g+1):=λhn=>by
  refine⟨jg1 (g+1) (by omega),?_,B5,AW,h.dL,h.yV,h.ground,h.oR,by omega,by omega⟩;rcases hn with hn|hn
  ·rcases h.cg with⟨z1,z2,z3,z4⟩|⟨N6,⟨a,k,ha,VU,ux,hra,hpa⟩,hs,hc,hq⟩
   ·have hc1:AN D' (1-b)=none:=by
     rw[CP (by have:=h.jg.len;omega) (by omega) (Ay (1-b) (by omega) (by omega))];by_cases hb0:b=0
     ·subst hb0;exact z4
     ·have:b=1:=by omega
      subst this;exact z3
    refine .inl ⟨z1,z2,?_,?_⟩
    ·by_cases hb0:b=0
     ·subst hb0;exact hn
     ·have:b=1:=by omega
      subst this;exact hc1
    ·by_cases hb0:b=0
     ·subst hb0;exact hc1
     ·have:b=1:=by omega
      subst this;exact hn
   ·have V2:1-a=b:=by omega
    refine .inr ⟨N6,⟨a,k,ha,VU,ux,by rw[Ay a (by omega) (by omega)];exact hra,λp hp=>by rw[V2,hn] at hp;cases hp⟩,hs,hc,λq hqq=>?_⟩;rw[Ay _ (by omega) (by omega)];exact hq q hqq
  ·exact h.cg.nj nU h.jg.len k3 (λj hj=>by
    by_cases hjb:j=b
    ·subst hjb;exact hn
    ·exact Ay j (by omega) hjb) (λj hj1 Jp=>Ay j (by omega) (by omega))
 by_cases hw:(D'.read (b:Int)).1=leaf ((x+1:Nat):Int) 0 (bs (ko hH))
 ·exact .inl (whole hw)
 ·right
  have hc8:(eQ D (b:Int) ((b+1:Nat):Int) ((x+1:Nat):Int) (bs (ko hH))).2=8:=by
   rcases Eb (n:=n) (a:=b) (t:=b+1) (number:=((x+1:Nat):Int)) (s:=bs (ko hH)) h.jg.len cS (by omega) (by rw[N7];omega) (by omega) with h0|h8
   ·have:=k6 h0 0 (by decide);rw[gK,HF] at this;exact aQ this hw
   ·exact h8
  refine⟨hc8,?_⟩;rcases T3 with hh|hh|hh
  ·exact acP (.inr hh)
  ·exact aQ hh hw
  ·exact acP (.inl (Gj hh))
def u3(n:Nat)(D:aZ)(m:aA)(g:Nat):Prop:=∃J hd mb qs,VG n D J hd mb qs g/\zB mb qs=m
def u3.mono{n:Nat}{D:aZ}{m:aA}{g g':Nat}(h:u3 n D m g)(hg:g<=g'):u3 n D m g':=by
 obtain⟨J,hd,mb,qs,h1,h2⟩:=h;exact⟨J,hd,mb,qs,h1.mono hg,h2⟩
structure VW(n:Nat)(S:VS)(m:aA)(g:Nat):Prop where
 dL:S.dL=false
 is:∃hd mb qs,VG n S.D S.J hd mb qs g/\zB mb qs=m/\S.bB=hd.bB
structure VX(n:Nat)(S:VS)(m mf:aA)(g:Nat):Prop where
 dL:S.dL=true
 ok:JV S
 len:S.D.safe.length=n
 seq:S.J.seq<=g
 fM:∀mask torn cut,u3 n (S.D.fM mask torn cut) m g\/u3 n (S.D.fM mask torn cut) mf g
def VW.mono{n:Nat}{S:VS}{m:aA}{g g':Nat}(h:VW n S m g)(hg:g<=g'):VW n S m g':=by
 obtain⟨h1,hd,mb,qs,h2,h3,h4⟩:=h;exact⟨h1,hd,mb,qs,h2.mono hg,h3,h4⟩
def VX.mono{n:Nat}{S:VS}{m mf:aA}{g g':Nat}(h:VX n S m mf g)(hg:g<=g'):VX n S m mf g':=
 ⟨h.dL,h.ok,h.len,by have:=h.seq;omega,λa b c=>(h.fM a b c).imp (λx=>x.mono hg) (λx=>x.mono hg)⟩
def VW.ok{n:Nat}{S:VS}{m:aA}{g:Nat}(h:VW n S m g)(hg:g<256):JV S:=by
 obtain⟨h1,hd,mb,qs,h2,h3,h4⟩:=h;have:=h2.bB;exact⟨h2.jg.ok,by rw[h2.jg.Jg];decide,h2.jg.yc,by omega⟩
def VW.len{n:Nat}{S:VS}{m:aA}{g:Nat}(h:VW n S m g):S.D.safe.length=n:=by
 obtain⟨h1,hd,mb,qs,h2,h3,h4⟩:=h;exact h2.jg.len
def VG.fM{n:Nat}{D:aZ}{J:PJ}{hd:gn}{mb:aA}{qs:List jY}{g:Nat}(h:VG n D J hd mb qs g)(nU:12<=n)(mask torn cut:Int):VG n (D.fM mask torn cut) J hd mb qs g:=by
 have hr:=λj=>AI h.jg.Jg mask torn cut j;have e:D.fM mask torn cut=⟨D.safe,[],D.ops,0⟩:=by rw[oN,h.jg.Jg];rfl
 have iE:(D.fM mask torn cut).Ok:=BR h.jg.ok mask torn cut;have hl:(D.fM mask torn cut).safe.length=n:=by rw[uz];exact h.jg.len
 exact⟨h.jg.congr iE (by rw[e]) hl (λj _ _=>by rw[hr]),h.cg.nj nU h.jg.len hl (λj _=>by rw[hr]) (λj _ _=>by rw[hr]),h.lo,h.hi,h.dL,h.yV,h.ground,h.oR,h.IV,h.bB⟩
def VW.fM{n:Nat}{S:VS}{m:aA}{g:Nat}(h:VW n S m g)(nU:12<=n)(mask torn cut:Int):u3 n (S.D.fM mask torn cut) m g:=by
 obtain⟨h1,hd,mb,qs,h2,h3,h4⟩:=h;exact⟨S.J,hd,mb,qs,h2.fM nU mask torn cut,h3⟩
def VG.same{n:Nat}{D D':aZ}{J:PJ}{hd:gn}{mb:aA}{qs:List jY}{g:Nat}(h:VG n D J hd mb qs g)(nU:12<=n)(iE:D'.Ok)(Az:D'.later=[])(hl:D'.safe.length=n)(hr:∀j:Int,D'.read j=D.read j):VG n D' J hd mb qs g:=
 ⟨h.jg.congr iE Az hl (λj _ _=>by rw[hr]),h.cg.nj nU h.jg.len hl (λj _=>by rw[hr]) (λj _ _=>by rw[hr]),h.lo,h.hi,h.dL,h.yV,h.ground,h.oR,h.IV,h.bB⟩
def VW.tL{n:Nat}{S:VS}{m:aA}{g:Nat}(h:VW n S m g)(nU:12<=n)(k:Int):VW n {S with D:=S.D.tL k} m g:=by
 obtain⟨h1,hd,mb,qs,h2,h3,h4⟩:=h;have ho:=h2.jg.ok;exact⟨h1,hd,mb,qs,h2.same nU ⟨ho.safe,ho.later,ho.oS,ho.less⟩ h2.jg.Jg h2.jg.len (λj=>rfl),h3,h4⟩
def VX.tL{n:Nat}{S:VS}{m mf:aA}{g:Nat}(h:VX n S m mf g)(k:Int):VX n {S with D:=S.D.tL k} m mf g:=by
 have ho:=h.ok;refine⟨h.dL,⟨⟨ho.ok.safe,ho.ok.later,ho.ok.oS,ho.ok.less⟩,ho.oS,⟨ho.yc.lo,ho.yc.Ms,ho.yc.Ss,ho.yc.hi,ho.yc.seq⟩,ho.bB⟩,h.len,h.seq,λa b c=>?_⟩;have e:(S.D.tL k).fM a b c=S.D.fM a b c:=by rw[oN,oN];rfl
 show u3 n ((S.D.tL k).fM a b c) m g\/u3 n ((S.D.tL k).fM a b c) mf g;rw[e];exact h.fM a b c
def A4{n:Nat}{S:VS}{m:aA}{g:Nat}(h:VW n S m g)(nU:12<=n)(cS:n<=4096)(hg:g+2<256)(im:fk (bo m))(uh:Md.bS m):
 ((fY n m S).2=0/\VW n (fY n m S).1 m (g+2)/\(fY n m S).1.bB=S.bB+1/\(fY n m S).1.J.seq=S.J.seq/\(fY n m S).1.J.at'=S.J.lo/\(fY n m S).1.J.lo=S.J.lo/\(fY n m S).1.J.hi=S.J.hi)\/
 ((fY n m S).2=3/\(fY n m S).1=S/\ ¬gB (cL (bo m)).length<=dv n)\/
 ((fY n m S).2=8/\VX n (fY n m S).1 m m (g+2)/\(fY n m S).1.bB=S.bB/\(fY n m S).1.J.seq=S.J.seq):=by
 have hgl:=xa im;have wB:=im.oS;have wA:=im.many;have hlen:(cL (bo m)).length<=425984:=by omega
 obtain⟨h1,hd,mb,qs,h2,h3,h4⟩:=h;have htr:=h2.bB;have B5:=h2.lo;have AW:=h2.hi;have G0:=h2.IV;have T5:2+2* dv n<n:=by unfold dv;omega
 unfold fY;rw[af (by rw[h1];decide),h4,h2.jg.len];by_cases AB:gB (cL (bo m)).length<=dv n
 rotate_left
 ·rw[ai AB]
  right;left
  exact⟨rfl,rfl,AB⟩
 rw[af (λhh=>hh AB)];obtain⟨p1,p2⟩:=h2.put (m:=m) nU cS hg AB;obtain⟨x,hx,hxg,ZA⟩:=h2.jg.yU (by omega);have AV:=pD nU (hd.bB+1);have oS:∀{a t:Nat} {k:Int} {s:BA} {D:aZ},D.Ok->D.later=[]->gB s.size<900000->(eQ D a t k s).1.later.length<1000000:=λ{a t k s D} ho hl hc=>by
  have:=NW (at':=(a:Int)) (toX:=(t:Int)) (number:=k) (s:=s) ho (by rw[hl,cK];omega);rw[hl,cK] at this;omega
 have P':gB (bs (cL (bo m))).size<900000:=by rw[cf];have:=AV.2.1;omega
 by_cases z1:(put S.D n (hd.bB+1) (fe S.D n+1) (bs (cL (bo m)))).2=0
 rotate_left
 ·have z8:(put S.D n (hd.bB+1) (fe S.D n+1) (bs (cL (bo m)))).2=8:=by rcases p1 with p1|p1;exact aQ p1 z1;exact p1
  rw[ai z1]
  right;right
  have c0:=p2 _ (.inl ⟨0,0,0,rfl⟩);have Sk:(put S.D n (hd.bB+1) (fe S.D n+1) (bs (cL (bo m)))).1.safe.length=n:=by rw[<-uz _ 0 0 0];exact c0.1.jg.len
  have aa':(put S.D n (hd.bB+1) (fe S.D n+1) (bs (cL (bo m)))).1.Ok:=by rw[Ar];exact Li h2.jg.ok (by rw[h2.jg.Jg,cK];omega)
  have xy:=h2.jg.yc;refine⟨z8,⟨rfl,⟨aa',by rw[Ar];exact oS h2.jg.ok h2.jg.Jg P',⟨xy.lo,xy.Ms,xy.Ss,by rw[Sk];have:=xy.hi;rw[h2.jg.len] at this;exact this,xy.seq⟩,by show 0<=hd.bB/\hd.bB<_;omega⟩,Sk,by show S.J.seq<=_;omega,λa b c=>?_⟩,rfl,rfl⟩
  left
  obtain⟨c1,c2⟩:=p2 _ (.inl ⟨a,b,c,rfl⟩);exact⟨S.J,hd,mb,qs,c1.mono (by omega),h3⟩
 ·rw[af (λhh=>hh z1)];obtain⟨c1,c2⟩:=p2 _ (.inr ⟨z1,rfl⟩);have c2:=c2 z1;generalize hD1:(put S.D n (hd.bB+1) (fe S.D n+1) (bs (cL (bo m)))).1=D1 at c1 c2⊢;have afo:fe D1 n<=((x+1:Nat):Int):=by
   have hA:Aft (put S.D n (hd.bB+1) (fe S.D n+1) (bs (cL (bo m)))) D1:=.inr ⟨z1,hD1.symm⟩;rw[Ar,show fe S.D n+1=((x+1:Nat):Int) by omega] at hA;obtain⟨_,_,_,k4,_⟩:=lsx (n:=n) (a:=fa n (hd.bB+1)) (t:=fa n (hd.bB+1)+dv n) (m:=x+1) (g:=x) h2.jg.ok h2.jg.Jg h2.jg.len ZA.ends cS (by omega) (by omega) (by rw[cf];omega) (by omega) hA;exact zn (by omega) n k4
  have e2:fe S.D n+2=((x+1+1:Nat):Int):=by omega
  rw[e2];obtain⟨q1,q2⟩:=c1.aeE (m:=m) (number:=fe S.D n+1) nU cS (x+1) afo (by omega) (by omega) (by omega) AB hlen im uh c2;have hHG:nS ⟨hd.bB+1,fe S.D n+1,((cL (bo m)).length:Int),S.J.seq⟩:=by have:=h2.jg.yc.seq;unfold nS;dsimp only;omega
  obtain⟨b,hb,wE,ec⟩:=Qh (D:=D1) (number:=((x+1+1:Nat):Int)) hHG;by_cases z2:(tS D1 ((x+1+1:Nat):Int) ⟨hd.bB+1,fe S.D n+1,((cL (bo m)).length:Int),S.J.seq⟩).2=0
  ·rw[af (λhh=>hh z2)]
   left
   rcases q2 _ (.inr ⟨z2,rfl⟩) with hv|⟨h8,_⟩
   ·exact⟨rfl,⟨h1,_,m,[],hv.mono (by omega),rfl,rfl⟩,rfl,rfl,rfl,rfl,rfl⟩
   ·rw[z2] at h8;exact aQ h8 (by decide)
  ·have z8:(tS D1 ((x+1+1:Nat):Int) ⟨hd.bB+1,fe S.D n+1,((cL (bo m)).length:Int),S.J.seq⟩).2=8:=by rcases q1 with q1|q1;exact aQ q1 z2;exact q1
   rw[ai z2]
   right;right
   have Sk:(tS D1 ((x+1+1:Nat):Int) ⟨hd.bB+1,fe S.D n+1,((cL (bo m)).length:Int),S.J.seq⟩).1.safe.length=n:=by
    rw[<-uz _ 0 0 0];rcases q2 _ (.inl ⟨0,0,0,rfl⟩) with hv|⟨_,hv⟩
    ·exact hv.jg.len
    ·exact hv.jg.len
   have aa':(tS D1 ((x+1+1:Nat):Int) ⟨hd.bB+1,fe S.D n+1,((cL (bo m)).length:Int),S.J.seq⟩).1.Ok:=by rw[ec];exact Li c1.jg.ok (by rw[c1.jg.Jg,cK,F8];omega)
   have xy:=h2.jg.yc;refine⟨z8,⟨rfl,⟨aa',by rw[ec];exact oS c1.jg.ok c1.jg.Jg (by rw[F8];omega),⟨xy.lo,xy.Ms,xy.Ss,by rw[Sk];have:=xy.hi;rw[h2.jg.len] at this;exact this,xy.seq⟩,by show 0<=hd.bB/\hd.bB<_;omega⟩,Sk,by show S.J.seq<=_;omega,λa b' c=>?_⟩,rfl,rfl⟩
   left
   rcases q2 _ (.inl ⟨a,b',c,rfl⟩) with hv|⟨_,hv⟩
   ·exact⟨_,_,m,[],hv.mono (by omega),rfl⟩
   ·exact⟨S.J,hd,mb,qs,hv.mono (by omega),h3⟩
def EI{n:Nat}{S:VS}{m:aA}{g:Nat}{q:jY}(h:VW n S m g)(nU:12<=n)(cS:n<=4096)(hg:g+1<256)(hq:Gu q):
 ((oW S (bs (dN q))).2=0/\VW n (oW S (bs (dN q))).1 (bn m q).2.2 (g+1)/\(oW S (bs (dN q))).1.bB=S.bB/\(oW S (bs (dN q))).1.J.seq=S.J.seq+1)\/
 ((oW S (bs (dN q))).2=6/\(oW S (bs (dN q))).1=S/\ ¬room S.J (bs (dN q)).size)\/
 ((oW S (bs (dN q))).2=8/\VX n (oW S (bs (dN q))).1 m (bn m q).2.2 (g+1)/\(oW S (bs (dN q))).1.bB=S.bB/\(oW S (bs (dN q))).1.J.seq=S.J.seq):=by
 obtain⟨h1,hd,mb,qs,h2,h3,h4⟩:=h;have htr:=h2.bB;have B5:=h2.lo;have AW:=h2.hi;have G0:=h2.IV;have hgi:=(xC S.D n).1;obtain⟨x,hx,hxg,ZA⟩:=h2.jg.yU (by omega);unfold oW;rw[h2.jg.len];by_cases hr:room S.J (bs (dN q)).size
 ·obtain⟨a1,a2,a3⟩:=h2.add nU cS hq hr hg;have ada:zB mb (qs++[q])=(bn m q).2.2:=by rw[Hu,h3]
  rcases a3 with⟨z,hv⟩|⟨z,hv⟩
  ·have e:tT S.D S.J (fe S.D n+1) (bs (dN q))=((eQ S.D S.J.at' S.J.hi (fe S.D n+1) (bs (df (S.J.seq+1) (bs (dN q))))).1,S.J.more (bs (dN q)),0):=by
    rw[a1];unfold Sep.CQ;rw[af (λhh=>hh z)];rfl
   rw[e]
   left
   exact⟨rfl,⟨by show(S.dL||_)=false;rw[h1];rfl,hd,mb,qs++[q],hv,ada,h4⟩,rfl,rfl⟩
  ·have e:tT S.D S.J (fe S.D n+1) (bs (dN q))=((eQ S.D S.J.at' S.J.hi (fe S.D n+1) (bs (df (S.J.seq+1) (bs (dN q))))).1,{S.J with dL:=true},8):=by
    rw[a1];unfold Sep.CQ;rw[ai (by rw[z];decide),z]
   rw[e]
   right;right
   have Sk:(eQ S.D S.J.at' S.J.hi (fe S.D n+1) (bs (df (S.J.seq+1) (bs (dN q))))).1.safe.length=n:=by
    rw[<-uz _ 0 0 0];rcases hv 0 0 0 with hh|hh
    ·exact hh.jg.len
    ·exact hh.jg.len
   have xy:=h2.jg.yc;have BH:=sG (S.J.seq+1) (bs (dN q));have hcn:gB (12+(bs (dN q)).size)<=4096:=by have:=hr.2.2;rw[ak] at this;have:=xy.lo;have:=xy.Ms;omega
   have wB:=NW (at':=S.J.at') (toX:=S.J.hi) (number:=fe S.D n+1) (s:=bs (df (S.J.seq+1) (bs (dN q)))) h2.jg.ok (by rw[h2.jg.Jg,cK,BH];omega);rw[h2.jg.Jg,cK,BH] at wB;refine⟨rfl,⟨by show(S.dL||_)=true;rw[h1];rfl,⟨a2,by show(eQ S.D S.J.at' S.J.hi (fe S.D n+1) (bs (df (S.J.seq+1) (bs (dN q))))).1.later.length<1000000;omega,⟨xy.lo,xy.Ms,xy.Ss,by rw[Sk];have:=xy.hi;rw[h2.jg.len] at this;exact this,xy.seq⟩,by show 0<=S.bB/\S.bB<_;omega⟩,Sk,by show S.J.seq<=_;omega,λa b c=>?_⟩,rfl,rfl⟩;rcases hv a b c with hh|hh
   ·exact .inl ⟨_,hd,mb,qs,hh,h3⟩
   ·exact .inr ⟨_,hd,mb,qs++[q],hh,ada⟩
 ·have e:tT S.D S.J (fe S.D n+1) (bs (dN q))=(S.D,S.J,6):=by
   unfold tT;rw[af (by rw[h2.dL];decide),af (by omega),ai (.inl hr)]
  rw[e]
  right;left
  refine⟨rfl,?_,hr⟩;have:(S.dL||(6:Int)==8)=S.dL:=by cases S.dL<;>rfl
  dsimp only;rw[this]
def Z8{n:Nat}{S:VS}{m:aA}{g:Nat}{q:jY}(h:VW n S m g)(nU:12<=n)(cS:n<=4096)(hg:g+3<256)(im:fk (bo m))(uh:Md.bS m)(hw:j0 q=true)(he:fW q=true)(hA:∀a∈q.aB,yi a)(hT:∀t∈q.bQ,yf t):
 ((zL n m S q).2=((bn m q).2.2,(bn m q).1,(bn m q).2.1)/\VW n (zL n m S q).1 (bn m q).2.2 (g+3)/\(zL n m S q).1.J.seq=S.J.seq+1)\/
 (∃e,(e=3\/e=6)/\(zL n m S q).2=(m,e,[])/\VW n (zL n m S q).1 m (g+3)/\(zL n m S q).1.J.seq=S.J.seq)\/
 ((zL n m S q).2=(m,8,[])/\VX n (zL n m S q).1 m (bn m q).2.2 (g+3)/\(zL n m S q).1.J.seq=S.J.seq):=by
 have DN:Gu q:=⟨hw,he,hA,hT⟩;unfold zL;rw[af (by rw[hw];decide),af (by rw[h.dL];decide)];have main:∀(S1:VS)(g1:Nat),VW n S1 m g1->g1+1<=g+3->S1.J.seq=S.J.seq->ja n m S (bs (dN q))=oW S1 (bs (dN q))->
                                          ((if(ja n m S (bs (dN q))).2≠0 then((ja n m S (bs (dN q))).1,m,(ja n m S (bs (dN q))).2,[]) else((ja n m S (bs (dN q))).1,(bn m q).2.2,(bn m q).1,(bn m q).2.1):VS×aA×Int×List Int)).2=((bn m q).2.2,(bn m q).1,(bn m q).2.1)/\VW n (if(ja n m S (bs (dN q))).2≠0 then((ja n m S (bs (dN q))).1,m,(ja n m S (bs (dN q))).2,[]) else((ja n m S (bs (dN q))).1,(bn m q).2.2,(bn m q).1,(bn m q).2.1):VS×aA×Int×List Int).1 (bn m q).2.2 (g+3)/\((if(ja n m S (bs (dN q))).2≠0 then((ja n m S (bs (dN q))).1,m,(ja n m S (bs (dN q))).2,[]) else((ja n m S (bs (dN q))).1,(bn m q).2.2,(bn m q).1,(bn m q).2.1):VS×aA×Int×List Int)).1.J.seq=S.J.seq+1\/
                                          (∃e,(e=3\/e=6)/\((if(ja n m S (bs (dN q))).2≠0 then((ja n m S (bs (dN q))).1,m,(ja n m S (bs (dN q))).2,[]) else((ja n m S (bs (dN q))).1,(bn m q).2.2,(bn m q).1,(bn m q).2.1):VS×aA×Int×List Int)).2=(m,e,[])/\VW n (if(ja n m S (bs (dN q))).2≠0 then((ja n m S (bs (dN q))).1,m,(ja n m S (bs (dN q))).2,[]) else((ja n m S (bs (dN q))).1,(bn m q).2.2,(bn m q).1,(bn m q).2.1):VS×aA×Int×List Int).1 m (g+3)/\((if(ja n m S (bs (dN q))).2≠0 then((ja n m S (bs (dN q))).1,m,(ja n m S (bs (dN q))).2,[]) else((ja n m S (bs (dN q))).1,(bn m q).2.2,(bn m q).1,(bn m q).2.1):VS×aA×Int×List Int)).1.J.seq=S.J.seq)\/
                                          (((if(ja n m S (bs (dN q))).2≠0 then((ja n m S (bs (dN q))).1,m,(ja n m S (bs (dN q))).2,[]) else((ja n m S (bs (dN q))).1,(bn m q).2.2,(bn m q).1,(bn m q).2.1):VS×aA×Int×List Int)).2=(m,8,[])/\VX n (if(ja n m S (bs (dN q))).2≠0 then((ja n m S (bs (dN q))).1,m,(ja n m S (bs (dN q))).2,[]) else((ja n m S (bs (dN q))).1,(bn m q).2.2,(bn m q).1,(bn m q).2.1):VS×aA×Int×List Int).1 m (bn m q).2.2 (g+3)/\((if(ja n m S (bs (dN q))).2≠0 then((ja n m S (bs (dN q))).1,m,(ja n m S (bs (dN q))).2,[]) else((ja n m S (bs (dN q))).1,(bn m q).2.2,(bn m q).1,(bn m q).2.1):VS×aA×Int×List Int)).1.J.seq=S.J.seq):=λS1 g1 hw1 MW Lu hva=>by
  rw[hva];rcases EI (q:=q) hw1 nU cS (by omega) DN with⟨z,a,b,c⟩|⟨z,a,b⟩|⟨z,a,b,c⟩
  ·left
   rw[af (λhh=>hh z)];exact⟨rfl,a.mono MW,by rw[<-Lu];exact c⟩
  ·right;left
   rw[ai (by rw[z];decide),z,a];exact⟨6,.inr rfl,rfl,hw1.mono (by omega),Lu⟩
  ·right;right
   rw[ai (by rw[z];decide),z];exact⟨rfl,a.mono MW,by rw[<-Lu];exact c⟩
 by_cases hr:room S.J (bs (dN q)).size
 ·exact main S g h (by omega) rfl (by unfold ja;rw[ai hr])
 ·rcases A4 h nU cS (by omega) im uh with⟨z,a,b,c,_⟩|⟨z,a,_⟩|⟨z,a,b,c⟩
  ·exact main (fY n m S).1 (g+2) a (by omega) c (by unfold ja;rw[af hr,af (λhh=>hh z)])
  ·have hva:ja n m S (bs (dN q))=fY n m S:=by unfold ja;rw[af hr,ai (by rw[z];decide)]
   rw[hva,ai (by rw[z];decide)]
   right;left
   exact⟨3,.inl rfl,by rw[z],by rw[a];exact h.mono (by omega),by rw[a]⟩
  ·have hva:ja n m S (bs (dN q))=fY n m S:=by unfold ja;rw[af hr,ai (by rw[z];decide)]
   rw[hva,ai (by rw[z];decide)]
   right;right
   refine⟨by rw[z],⟨a.dL,a.ok,a.len,by show(fY n m S).1.J.seq<=_;have:=a.seq;omega,λx y w=>?_⟩,c⟩
   left
   rcases a.fM x y w with hh|hh
   ·exact hh.mono (by omega)
   ·exact hh.mono (by omega)
def xG{m:aA}{q:jY}(hw:j0 q=true)(he:fW q=true):(bn m q).1=0:=by
 have h2:kz q=true:=by
  have Lz:q.op=1\/q.op=2\/q.op=3:=aS he;have ha:nQ q=false:=by
   unfold nQ;rw[af (by omega),af (by omega)]
  unfold j0 at hw;rw[ha,Bool.or_false,dh] at hw;exact hw.1
 unfold bn;rw[af (by rw[h2];decide)];split
 ·rfl
 ·split<;>rfl
def SG{n:Nat}{S:VS}{m:aA}{g:Nat}{q:jY}(h:VW n S m g)(Ul:600<=n)(cS:n<=4096)(hg:g+3<256)(im:fk (bo m))(uh:Md.bS m)(hw:j0 q=true)(he:fW q=true)(hA:∀a∈q.aB,yi a)(hT:∀t∈q.bQ,yf t):
 (zL n m S q).2.2.1≠3/\(zL n m S q).2.2.1≠6:=by
 have DN:Gu q:=⟨hw,he,hA,hT⟩;have u7:=yE im;have hrl:=Ck hw he;have hc:=Qj (k:=12+(bs (dN q)).size) (by rw[cf];omega);have ez:=xG (m:=m) hw he;unfold zL;rw[af (by rw[hw];decide),af (by rw[h.dL];decide)];have key:(ja n m S (bs (dN q))).2≠3/\(ja n m S (bs (dN q))).2≠6:=by
  by_cases hr:room S.J (bs (dN q)).size
  ·have e:ja n m S (bs (dN q))=oW S (bs (dN q)):=by unfold ja;rw[ai hr]
   rw[e];rcases EI (q:=q) h (by omega) cS (by omega) DN with⟨z,_⟩|⟨_,_,b⟩|⟨z,_⟩
   ·omega
   ·exact aQ hr b
   ·omega
  ·rcases A4 h (by omega) cS (by omega) im uh with⟨z,a,_,_,b1,b2,b3⟩|⟨_,_,b⟩|⟨z,_⟩
   ·have e:ja n m S (bs (dN q))=oW (fY n m S).1 (bs (dN q)):=by unfold ja;rw[af hr,af (λhh=>hh z)]
    rw[e];have B4:120<=S.J.hi-S.J.lo:=by
     obtain⟨_,hd,mb,qs,h2,_⟩:=h;rw[h2.lo,h2.hi];unfold dv;omega
    rcases EI (q:=q) a (by omega) cS (by omega) DN with⟨z,_⟩|⟨_,_,b⟩|⟨z,_⟩
    ·omega
    ·refine aQ ?_ b;refine⟨by omega,by rw[cf];omega,?_⟩;rw[ak,b1,b3];omega
    ·omega
   ·exact aQ (CN Ul u7) b
   ·have e:ja n m S (bs (dN q))=fY n m S:=by unfold ja;rw[af hr,ai (by rw[z];decide)]
    rw[e];omega
 generalize ja n m S (bs (dN q))=A at key⊢;by_cases hz:A.2≠0
 ·rw[ai hz];exact key
 ·rw[af hz];generalize bn m q=B at ez⊢;dsimp only;rw[ez];decide
structure Stp where
 kind:Int
 q:jY
 s:vH
 mask:Int
 torn:Int
 cut:Int
 n:Int
section
variable {x1 x2 x3 x4 x5 x6 x7 x8 x9 EC EB EA Ez ID M5 M4 YP YO:Value} {x:Stp}
end
def St.nil{W w:World}{L:LH}(h:St W w L):St W w []:=by
 induction L with
 |nil=>exact h
 |cons A L ih=>exact ih h.drop
instance(priority:=low) Has.nil{L:LH}:Has [] L:=⟨λh=>St.nil h⟩
def BZ(m m2:aA):Prop:=(bo m).aB=(bo m2).aB/\m.ax=m2.ax/\m.clock=m2.clock/\m.ay=m2.ay
instance(m m2:aA):Decidable (BZ m m2):=by unfold BZ;infer_instance
def BZ.refl(m:aA):BZ m m:=⟨rfl,rfl,rfl,rfl⟩
def O':∀{l:List Nat} {x:Nat},x∈l->x<=l.sum
 |[],x,h=>by cases h
 |y::l,x,h=>by
  rw[List.sum_cons];rcases jX.1 h with h|h
  ·subst h;omega
  ·have:=O' h;omega
section
variable {W:World} {L R M:LH} {K:VK} {X:WK} {q:jY} {s:vH} {p v d n pb pj:Nat} {m m2:aA} {mb kb:OA} {mc kc:Nat} {S:VS} {D:aZ} {J:PJ} {hd:gn} {qs:List jY} {g:Nat} {f:aZ->LH}
def Kn(G:qi W)(nU:12<=n)(cS:n<=4096)(hv:VG n D J hd m qs g)(hg:g<256)
 (h:∀v pb pj,Md.bS (zB m qs)->T W (VL v d n pb pj (zB m qs) ⟨D,J,hd.bB,false⟩ R) (K (.tuple ⟨[.p (ah v),.i 0]⟩))):
 T W (gT d D::R) (mR (ah d) K):=by
 have ho:=hv.jg.opened;have B5:=hv.lo;have AW:=hv.hi;rw[B5,AW] at ho;have G0:=hv.IV;have hq0:=hv.jg.q0;have XE:=hv.jg.seq;refine Wc G hv.jg.ok nU cS hv.jg.len (hv.cg.base hv.jg.len nU cS) hv.yV hv.ground ⟨hq0,by omega⟩ (qs:=qs) (by rw[ho]) hv.oR λv pb pj rC=>?_;rw[ho];have e:(⟨((2+2* dv n:Nat):Int),(n:Int),J.at',J.seq,false⟩:PJ)=J:=by
  cases J with
  |mk lo hi at' seq dL=>
   have h1:=hv.dL;dsimp only at B5 AW h1;subst B5 AW h1
   rfl
 dsimp only;rw[e];exact h v pb pj rC
def YF[i:Lc (gT d) L D f]{mask torn cut:Int}(iE:D.Ok)(hl:D.later.length<1099511627776)(h:T W (f (D.fM mask torn cut)) (K (.tuple ⟨[]⟩))):T W L (mV (ah d) mask torn cut K):=λw hs=>by
 obtain⟨k,hk,e⟩:=i.at_;exact DT hs hk iE λw' h'=>h w' (by rw[e];exact h')
end
def yq(n:Nat)(m:aA)(S:VS)(q:jY):VS×aA×Int×List Int×List bN×List cx:=
 if fW q=true then((zL n m S q).1,(zL n m S q).2.1,(zL n m S q).2.2.1,(zL n m S q).2.2.2,[],[])
 else(S,m,(ask m q).1,[],(ask m q).2.1,(ask m q).2.2)
def L0{m:aA}{q:jY}(hw:j0 q=true)(he:fW q=true):(bn m q).1=0:=xG hw he
def Ys{m:aA}{q:jY}(hg:fk (bo m))(hi:q.ids.length<=16\/nQ q=false\/q.op=6):(ask m q).2.1.length<=10000/\(ask m q).2.2.length<=10000:=by
 unfold ask;split
 ·simp
 ·rename_i jW;have h16:q.op=4\/q.op=5->q.ids.length<=16:=λho=>by
   have Ke:nQ q=true:=by simpa using jW
   unfold nQ at Ke;rw[ai ho,dh,decide_eq_true_eq,decide_eq_true_eq] at Ke;exact Ke.2
  split
  ·rename_i h4;have:=h16 (.inl h4);have h2:=List.length_filterMap_le (bo m).find q.ids;dsimp only;exact⟨by omega,by simp⟩
  ·split
   ·rename_i h5;have:=h16 (.inr h5);have h2:=List.length_filterMap_le (λid=>((bo m).named id).map (·.move)) q.ids;dsimp only;exact⟨by simp,by omega⟩
   ·rw[<-K7 hg];dsimp only;refine⟨by simp,?_⟩;unfold TD;rw[bY,aC];have h3:((if q.qO=true then(bo m).ax.reverse else(bo m).ax).filter λk=>BC q.kq q.xD k.move.ay&&fits q k).length<=(if q.qO=true then(bo m).ax.reverse else(bo m).ax).length:=List.length_filter_le _ _;have h4:(if q.qO=true then(bo m).ax.reverse else(bo m).ax).length=(bo m).ax.length:=by split<;>simp
    have:=hg.many;omega
section
variable {W:World} {L R M:LH} {K:VK} {X:WK} {q:jY} {s:vH} {p p2 v d n pb pj:Nat} {m m2 m3:aA} {mb kb su lE:OA} {mc kc ss lD:Nat} {S S2:VS} {D:aZ} {J:PJ} {g:Nat}
def SC{n:Nat}{S:VS}{m:aA}{g:Nat}(h:VW n S m g)(nU:12<=n)(cS:n<=4096)(hg:g+2<256)(im:fk (bo m))(uh:Md.bS m):JV (fY n m S).1:=by
 rcases A4 h nU cS hg im uh with⟨_,a,_⟩|⟨_,a,_⟩|⟨_,a,_⟩
 ·exact a.ok (by omega)
 ·rw[a];exact h.ok (by omega)
 ·exact a.ok
def Ct(n:Nat):VS:=⟨aZ.new n,⟨((2+2* dv n:Nat):Int),n,((2+2* dv n:Nat):Int),0,false⟩,0,false⟩
def abY{n:Nat}(nU:12<=n)(cS:n<=4096):Rm n 0 (Ct n):=by
 have hb:2+2* dv n<=n:=by unfold dv;omega
 refine⟨Gd cS,λj hj=>?_,rfl,rfl,sS _,by show((2+2* dv n:Nat):Int)<=(n:Int);omega,⟨sS _,by show(0:Int)<=1000000;decide⟩,rfl,rfl,⟨sS _,sS _⟩⟩;show Sep.Ends 0 ((aZ.new n).read (j:Int)).1;rw[By cS hj];exact F3
def OH{n:Nat}(nU:12<=n)(cS:n<=4096):VW n (Ct n) nZ 0:=
 ⟨rfl,Ew,nZ,[],Vd nU cS,rfl,rfl⟩
def qT:jY:=⟨3,[],[],5,[],0,0,0,false,false,false,0⟩
end
def Bj{α σ:Type}(f:σ->α->Int×σ)(lk:α->Bool):∀(n:Nat)(s:σ)(l:List α),(eW f lk n s l).1.length<=l.length
 |0,s,l=>aE _
 |n+1,s,[]=>aE _
 |n+1,s,x::l=>by
  have hle:=sO (linked:=lk) (x::l);have hd:((x::l).drop (bI lk (x::l)).1).length=(x::l).length-(bI lk (x::l)).1:=aR;rw[eW];by_cases hw:(bI lk (x::l)).2=false
  ·rw[ai hw];dsimp only;rw[iA];exact hle
  rw[af hw];cases gL f s ((x::l).take (bI lk (x::l)).1) 0 with
  |mk o s'=>
   cases o with
   |none=>
    have:=Bj f lk n s' ((x::l).drop (bI lk (x::l)).1);dsimp only;rw[au,iA];omega
   |some e=>
    have:=Bj f lk n s ((x::l).drop (bI lk (x::l)).1);dsimp only;rw[au,iA];omega
def AH(m:aA)(q:jY):(bn m q).2.1.length<=q.aB.length+q.bQ.length:=by
 unfold bn;split
 ·exact aE _
 ·split
  ·have:=Bj aA.make yQ q.aB.length m q.aB;dsimp only;omega
  ·split
   ·have:=Bj aA.lO sY q.bQ.length m q.bQ;dsimp only;omega
   ·exact aE _
section
variable {W:World} {L R M:LH} {K:VK} {X:WK} {q:jY} {s:vH} {p p2 v d n pb pj:Nat} {m m2 m3:aA} {mb kb su lE:OA} {mc kc ss lD:Nat} {S S2:VS} {D:aZ} {J:PJ} {g:Nat}
end
section
variable {W:World} {L R M:LH} {K:VK} {X:WK} {q:jY} {s:vH} {p p2 v d n pb pj:Nat} {m m2 m3:aA} {mb kb su lE:OA} {mc kc ss lD:Nat} {S S2:VS} {D:aZ} {J:PJ} {g:Nat}
end
def VZ(n:Nat)(S:VS)(m:aA)(g:Nat):Prop:=VW n S m g\/∃mf,VX n S m mf g
section
variable {n g g':Nat} {S:VS} {m mf:aA} {q:jY}
def VX.save(h:VX n S m mf g){m2:aA}:fY n m2 S=(S,9):=by
 unfold fY;rw[ai h.dL]
def VZ.vok(h:VZ n S m g)(hg:g<256):JV S:=by
 rcases h with h|⟨mf,h⟩
 ·exact h.ok hg
 ·exact h.ok
def VZ.SD(h:VZ n S m g)(nU:12<=n)(cS:n<=4096)(hg:g+2<256)(im:fk (bo m))(rC:Md.bS m):JV (fY n m S).1:=by
 rcases h with h|⟨mf,h⟩
 ·exact SC h nU cS hg im rC
 ·rw[h.save];exact h.ok
end
section
variable {W:World} {L R R0 R' M:LH} {K:VK} {X:WK} {q:jY} {s:vH} {p p2 v d n pb pj:Nat} {m m2 m3:aA} {mb kb su lE:OA} {mc kc ss lD:Nat} {S S2:VS} {D:aZ} {J:PJ} {g:Nat} {f:aZ->LH}
end
def IF(a:bN):bN:={a with dp:=0,dq:=0,cp:=0,cq:=0,ao:=a.ao%8}
def Kp{l:List cr}{a:bN}(h:a.dp=0/\a.dq=0/\a.cp=0/\a.cq=0/\0<=a.ao/\a.ao<8):IF (Md.full l a)=a:=by
 obtain⟨h1,h2,h3,h4,h5,h6⟩:=h;cases a
 simp only[IF,Md.full] at *;subst h1 h2 h3 h4
 congr 1
 split<;>omega
def BZ.model{m m2:aA}(h:BZ m m2)(g:Md.bS m)(g2:Md.bS m2):m=m2:=by
 obtain⟨h1,h2,h3,h4⟩:=h;have e:∀m:aA,Md.bS m->(bo m).aB.map IF=m.dj:=λm g=>by
  show(m.dj.map (Md.full m.ax)).map IF=m.dj;rw[um]
  conv=>rhs;rw[<-List.map_id m.dj]
  exact mI λa ha=>Kp (g.zero a ha)
 have h5:=e m g;rw[h1,e m2 g2] at h5;cases m
 cases m2
 dsimp only at h2 h3 h4 h5;subst h2 h3 h4 h5
 rfl
def KI(n:Nat)(S:VS)(m mf:aA)(g:Nat):Prop:=(VW n S m g/\mf=m)\/VX n S m mf g
section
variable {W:World} {L R R0 R' M:LH} {K:VK} {X:WK} {q:jY} {s:vH} {p p2 v d n pb pj:Nat} {m m2 m3 mf:aA} {mb kb su lE:OA} {mc kc ss lD:Nat} {S S2:VS} {D:aZ} {J:PJ} {g:Nat} {f:aZ->LH}
def Fl(p:Nat)(m:aA)(pf:Nat)(mf:aA)(L R':LH):Prop:=(pf=p/\mf=m/\R'=L)\/∃fb fc gb gc,R'=ML pf mf fb fc gb gc L
def W3(G:qi W)(nU:12<=n)(cS:n<=4096)(hv:u3 n D m g)(hg:g<256)
 (h:∀v pb pj S,VW n S m g->Md.bS m->T W (VL v d n pb pj m S R) (K (.tuple ⟨[.p (ah v),.i 0]⟩))):T W (gT d D::R) (mR (ah d) K):=by
 obtain⟨J,hd,mb,qs,h2,rfl⟩:=hv;exact Kn G nU cS h2 hg λv pb pj rC=>h v pb pj _ ⟨rfl,hd,mb,qs,h2,rfl,rfl⟩ rC
class Ex(L:LH)(i:Nat)(x:outParam HP)(L':outParam (LH)):Prop where
 is:L.Perm (x::L')
instance{L:LH}{x:HP}:Ex (x::L) 0 x L:=⟨.refl _⟩
instance{L L':LH}{x y:HP}{i:Nat}[h:Ex L i x L']:Ex (y::L) (i+1) x (y::L'):=⟨(h.is.cons y).trans (.swap ..)⟩
class Pl(L:LH)(is:List Nat)(M:outParam (LH)):Prop where
 is:L.Perm M
instance{L:LH}:Pl L [] L:=⟨.refl _⟩
instance{L L' M:LH}{i:Nat}{is:List Nat}{x:HP}[h:Ex L i x L'][g:Pl L' is M]:Pl L (i::is) (x::M):=⟨h.is.trans (g.is.cons x)⟩
def T.pl(is:List Nat)[h:Pl L is M](g:T W M X):T W L X:=T.perm g h.is
set_option maxHeartbeats 1000000 in
end
section
variable {n g:Nat} {S:VS} {m mf:aA} {q:jY}
def aeD(h:VZ n S m g)(Ul:600<=n)(cS:n<=4096)(hg:g+3<256)(im:fk (bo m))(rC:Md.bS m)(hw:j0 q=true)(hA:∀a∈q.aB,yi a)(hT:∀t∈q.bQ,yf t):
 (fW q=false/\yq n m S q=(S,m,(ask m q).1,[],(ask m q).2.1,(ask m q).2.2))\/
 (fW q=true/\S.dL=true/\yq n m S q=(S,m,9,[],[],[]))\/
 (fW q=true/\S.dL=false/\∃S1,yq n m S q=(S1,m,8,[],[],[])/\VX n S1 m (bn m q).2.2 (g+3))\/
 (fW q=true/\S.dL=false/\(bn m q).1=0/\∃S1,yq n m S q=(S1,(bn m q).2.2,0,(bn m q).2.1,[],[])/\VW n S1 (bn m q).2.2 (g+3)/\S1.J.seq=S.J.seq+1):=by
 unfold yq;cases he:fW q with
 |false=>left;rw[af (by decide)];exact⟨rfl,rfl⟩
 |true=>
  right
  rw[ai rfl];rcases h with h|⟨mx,h⟩
  ·right
   have ez:=L0 (m:=m) hw he;obtain⟨r1,r2⟩:=SG h Ul cS hg im rC hw he hA hT;rcases Z8 h (by omega) cS hg im rC hw he hA hT with⟨a,b,c⟩|⟨e,MX,a,-⟩|⟨a,b,-⟩
   ·right
    refine⟨rfl,h.dL,ez,(zL n m S q).1,?_,b,c⟩;rw[a];dsimp only;rw[ez]
   ·exfalso;rw[a] at r1 r2;rcases MX with e2|e2
    ·exact r1 e2
    ·exact r2 e2
   ·left
    refine⟨rfl,h.dL,(zL n m S q).1,?_,b⟩;rw[a]
  ·left
   have e:zL n m S q=(S,m,9,[]):=by unfold zL;rw[af (by rw[hw];decide),ai h.dL]
   rw[e];exact⟨rfl,h.dL,rfl⟩
def WA(h:VZ n S m g)(Ul:600<=n)(cS:n<=4096)(hg:g+2<256)(im:fk (bo m))(rC:Md.bS m):
 (S.dL=true/\fY n m S=(S,9))\/(S.dL=false/\(fY n m S).2=0/\VW n (fY n m S).1 m (g+2)/\(fY n m S).1.bB=S.bB+1/\(fY n m S).1.J.seq=S.J.seq)\/(S.dL=false/\(fY n m S).2=8/\VX n (fY n m S).1 m m (g+2)):=by
 rcases h with h|⟨mx,h⟩
 ·right
  rcases A4 h (by omega) cS hg im rC with⟨a,b,c,d,_⟩|⟨_,_,a⟩|⟨a,b,_⟩
  ·exact .inl ⟨h.dL,a,b,c,d⟩
  ·exact aQ (CN Ul (yE im)) a
  ·exact .inr ⟨h.dL,a,b⟩
 ·exact .inl ⟨h.dL,h.save⟩
def KI.vz(h:KI n S m mf g):VZ n S m g:=by
 rcases h with⟨a,_⟩|a
 ·exact .inl a
 ·exact .inr ⟨_,a⟩
def KI.Py(h:KI n S m mf g)(nU:12<=n)(mask torn cut:Int):∃m0,(m0=m\/m0=mf)/\u3 n (S.D.fM mask torn cut) m0 g:=by
 rcases h with⟨a,_⟩|a
 ·exact⟨m,.inl rfl,a.fM nU _ _ _⟩
 ·rcases a.fM mask torn cut with b|b
  ·exact⟨m,.inl rfl,b⟩
  ·exact⟨mf,.inr rfl,b⟩
def KI.tL(h:KI n S m mf g)(nU:12<=n)(k:Int):KI n {S with D:=S.D.tL k} m mf g:=by
 rcases h with⟨a,b⟩|a
 ·exact .inl ⟨a.tL nU k,b⟩
 ·exact .inr (a.tL k)
def KI.mono{g':Nat}(h:KI n S m mf g)(hg:g<=g'):KI n S m mf g':=by
 rcases h with⟨a,b⟩|a
 ·exact .inl ⟨a.mono hg,b⟩
 ·exact .inr (a.mono hg)
end
def St.sps{W w:World}:∀{M L:LH},St W w (va M::L)->St W w (M++L)
 |[],L,h=>h.drop
 |A::M,L,h=>(St.sps (h.split.perm (.swap ..))).perm iI
def St.EK{W w:World}:∀{M L:LH},St W w (M++L)->St W w (va M::L)
 |[],L,h=>h.push trivial
 |A::M,L,h=>((St.EK (M:=M) (h.perm iI.symm)).perm (.swap ..)).join
section
variable {W:World} {L M:LH} {X:WK} {α:Type} {f:α->HP} {A:HP} {p:Prop}
def T.sps(h:T W (M++L) X):T W (va M::L) X:=λw hs=>h w (St.sps hs)
def T.EK(h:T W (va M::L) X):T W (M++L) X:=λw hs=>h w (St.EK hs)
def T.ex(h:∀x,T W (f x::L) X):T W (So f::L) X:=λw hs=>let⟨x,hx⟩:=hs.ex;h x w hx
def T.Xr(x:α)(h:T W (So f::L) X):T W (f x::L) X:=λw hs=>h w (.qR x hs)
def T.and(h:p->T W (A::L) X):T W (DQ p A::L) X:=λw hs=>h hs.and.1 w hs.and.2
def T.TX(hp:p)(h:T W (DQ p A::L) X):T W (A::L) X:=λw hs=>h w (.and_intro hp hs)
def T.foc{P:α->HP}{x:α}{g:α->LH}[i:Lc P L x g](h:∀M,(∀y N Y,T W (N++g y) Y->T W (P y::(N++M)) Y)->T W (P x::M) X):T W L X:=λw hs=>by
 obtain⟨k,hk,e⟩:=i.at_;refine h (L.eraseIdx k) (λy N Y hy w' h'=>hy w' ?_) w (hs.focus hk);rw[e];exact h'.perm (iI.symm.trans ((set_perm hk).append_left N))
end
structure SZ where
 d:Nat
 v:Nat
 pb:Nat
 pj:Nat
def Ka(d v:Nat):LV:=[.p (ah d),.p (ah v)]
instance{d v:Nat}:Gt (Ka d v) 0 (.p (ah d)):=⟨rfl⟩
instance{d v:Nat}:Gt (Ka d v) 1 (.p (ah v)):=⟨rfl⟩
instance{d v v':Nat}:Wr (Ka d v) 1 [.p (ah v')] (Ka d v'):=⟨rfl,by show 2<=2;decide,λu hu=>by simp at hu;subst hu;rfl⟩
def Hl(n s:Nat)(x:VS×aA):HP:=So λz:SZ=>va (VL z.v z.d n z.pb z.pj x.2 x.1 [Sep.pt s (Ka z.d z.v)])
def Cg(n:Nat)(m:aA)(S:VS)(l:List UInt8):VS×aA×List UInt8:=
 if 16384<l.length then(S,m,qq 3 [] [] []) else if rK l=true then((yq n m S (gV l).1).1,(yq n m S (gV l).1).2.1,qq (yq n m S (gV l).1).2.2.1 (yq n m S (gV l).1).2.2.2.1 (yq n m S (gV l).1).2.2.2.2.1 (yq n m S (gV l).1).2.2.2.2.2)
 else(S,m,qq 4 [] [] [])
section
variable {W:World} {L R M:LH} {K:VK} {X:WK} {q:jY} {n s d v pb pj:Nat} {m m0:aA} {S:VS} {g:VS×aA->LH} {l:List UInt8}
def SP(h:T W (Hl n s (S,m)::M) X):T W (VL v d n pb pj m S (Sep.pt s (Ka d v)::M)) X:=
 T.EK (M:=VL v d n pb pj m S [Sep.pt s (Ka d v)]) (T.Xr (f:=λz:SZ=>va (VL z.v z.d n z.pb z.pj m S [Sep.pt s (Ka z.d z.v)])) ⟨d,v,pb,pj⟩ h)
def EN[i:Lc (Hl n s) L (S,m) g](h:∀d v pb pj M,(∀d' v' Zf Ze S' m' N Y,T W (N++g (S',m')) Y->T W (N++(VL v' d' n Zf Ze m' S' (Sep.pt s (Ka d' v')::M))) Y)->T W (VL v d n pb pj m S (Sep.pt s (Ka d v)::M)) X):T W L X:=
 T.foc (P:=Hl n s) λM hM=>T.ex λz=>T.sps (M:=VL z.v z.d n z.pb z.pj m S [Sep.pt s (Ka z.d z.v)]) (h z.d z.v z.pb z.pj M λd' v' Zf Ze S' m' N Y hy=>by
  apply T.perm (L:=VL v' d' n Zf Ze m' S' [Sep.pt s (Ka d' v')]++(N++M)) (SP (hM (S',m') N Y hy))
  show(N++(VL v' d' n Zf Ze m' S' [Sep.pt s (Ka d' v')]++M)).Perm (VL v' d' n Zf Ze m' S' [Sep.pt s (Ka d' v')]++(N++M))
  rw[<-aH,<-aH]
  exact bt.append_right M)
def Pk[i:Lc (Hl n s) L (S,m) g](h:fk (bo m)->T W L X):T W L X:=by
 refine EN (n:=n) (s:=s) λd v pb pj M hM=>?_;refine qD (p:=pb) (b:=bo m) (hs:=[]) λim=>?_;refine hM d v pb pj S m [] _ ?_;rw[cT,i.same];exact h im
def E3[i:Lc (Hl n s) L (S,m) g](h:∀p,T W (cR p (bo m,[])::L) (K (.p (ah p)))):T W L (ff (ah s) K):=by
 refine EN (n:=n) (s:=s) λd v pb pj M hM=>?_;unfold ff;apply ws;refine SJ λp=>?_;apply ws;refine hM d v pb pj S m [_] _ ?_;rw[i.same];exact h p
def vh[i:Lc (Hl n s) L (S,m) g](h:T W L (K (.b S.dL))):T W L (gR (ah s) K):=by
 refine EN (n:=n) (s:=s) λd v pb pj M hM=>?_;unfold gR;apply ws;refine Wa ?_;apply ws;refine hM d v pb pj S m [] _ ?_;rw[cT,i.same];exact h
def WC[i:Lc (Hl n s) L (S,m) g](iE:JV S)(nU:12<=n)(cS:n<=4096)(h:T W (g ((fY n m S).1,m)) (K (.i (fY n m S).2))):T W L (qo (ah s) K):=by
 refine EN (n:=n) (s:=s) λd v pb pj M hM=>?_;unfold qo;apply ws;apply Vi iE.ok iE.oS nU cS iE.bB;apply ws;exact hM d v pb pj _ m [] _ h
def aaz[i:Lc (Hl n s) L (S,m) g]{k:Int}(h:T W (g ({S with D:=S.D.tL k},m)) (K (.tuple ⟨[]⟩))):T W L (qW (ah s) k K):=by
 refine EN (n:=n) (s:=s) λd v pb pj M hM=>?_;unfold qW;apply ws;apply aeP (d:=d);apply ws;exact hM d v pb pj {S with D:=S.D.tL k} m [] _ h
def KL(G:qi W)[i:Lc (Hl n s) L (S,m) g]{mask torn cut:Int}{gg:Nat}(nU:12<=n)(cS:n<=4096)(iE:JV S)(hv:u3 n (S.D.fM mask torn cut) m0 gg)(hgg:gg<256)
 (h:∀S',VW n S' m0 gg->Md.bS m0->T W (g (S',m0)) (K (.i 0))):T W L (nH (ah s) mask torn cut K):=by
 refine EN (n:=n) (s:=s) λd v pb pj M hM=>?_;unfold nH;apply ws;refine YF (d:=d) iE.ok (by have:=iE.oS;omega) ?_;apply ws;refine T.pl [3] ?_;refine W3 G nU cS hv hgg λv' Zf Ze S' hw afp=>?_;apply ws;apply kL (by decide);apply ws;refine T.sub (M:=VL v' d n Zf Ze m0 S' (Sep.pt s (Ka d v')::M)) ?_ (by exact pX);exact hM d v' Zf Ze S' m0 [] _ (h S' hw afp)
def Tj(G:qi W)(nU:12<=n)(cS:n<=4096)(h:∀s,T W (Hl n s (Ct n,nZ)::L) (K (.tuple ⟨[.p (ah s),.i 0]⟩))):T W L (qp (n:Int) K):=by
 unfold qp;refine aaL λd=>?_;apply yj;refine Kn G (n:=n) nU cS (Vd nU cS) (by decide) λv pb pj rC=>?_;show T W (VL v d n pb pj nZ (Ct n) L) _;apply ws;apply eO (by decide);apply Iz (d:=d);apply mg;have e:((Ct n).D.safe.length:Int)=(n:Int):=by rw[(OH nU cS).len]
 rw[e];unfold qp.j1;apply eO (by simp);apply ws;intros;rename_i r1;refine T.pl [1,1,1,1] ?_;exact SP (h r1)
def VD{α:Type}{b:OA}{c e:Nat}{g:α->LV}{xs:List α}{f:HP->LH}[i:vI b xs.length c L e (xs.flatMap g) f](hg:∀x,(g x).length=e):np W L g e b xs:=λw hw i' x hx=>by
 obtain⟨k,hk,_⟩:=i.at_;obtain⟨hl,h0|⟨r,sp,hb,vd,B4,hs⟩⟩:=hw.oI hk
 ·have:=(av.1 hx).1;omega
 ·refine⟨⟨r,0,none⟩,hb,?_⟩;subst hb;rw[gY,aD];exact zw hw hk (qP hg xs i' x hx)
def Ya(hg:fk (bo m))(hw:j0 q=true)(AT:q.aB.length<=255)(cj:q.bQ.length<=255):(yq n m S q).2.2.2.1.length<1000000/\(yq n m S q).2.2.2.2.1.length<1000000/\(yq n m S q).2.2.2.2.2.length<1000000:=by
 unfold yq;split
 ·refine⟨?_,by show 0<1000000;decide,by show 0<1000000;decide⟩;have h0:j0 q=true:=hw;have hf:=mE hw;have:=AH m q;unfold zL;split
  ·show 0<1000000;decide
  split
  ·show 0<1000000;decide
  split
  ·show 0<1000000;decide
  ·show(bn m q).2.1.length<1000000;omega
 ·have hi:q.ids.length<=16\/nQ q=false\/q.op=6:=by
   rename_i he;rcases mE hw with h|h|h|h|h
   ·exact aQ (aw (.inl h.1)) he
   ·exact aQ (aw (.inr (.inl h.1))) he
   ·exact aQ (aw (.inr (.inr h.1))) he
   ·exact .inl h.2
   ·exact .inr (.inr h.1)
  obtain⟨h1,h2⟩:=Ys hg hi;exact⟨by show 0<1000000;decide,by show(ask m q).2.1.length<_;omega,by show(ask m q).2.2.length<_;omega⟩
def aaa{sl:vH}(G:qi W)(hg:Md.bS m)(hS:JV S)(XO:JV (fY n m S).1)(nU:12<=n)(cS:n<=4096)(hq:oq W R q sl)(hA:∀a∈q.aB,yi a)(hT:∀t∈q.bQ,yf t)(AT:q.aB.length<1000000)(cj:q.bQ.length<1000000)
 (h:∀rb rc ab ac tb tc,Md.bS (yq n m S q).2.1->T W (own rb (yq n m S q).2.2.2.1.length rc 1 ((yq n m S q).2.2.2.1.flatMap I1)::own ab (yq n m S q).2.2.2.2.1.length ac 14 ((yq n m S q).2.2.2.2.1.flatMap aO)::own tb (yq n m S q).2.2.2.2.2.length tc 16 ((yq n m S q).2.2.2.2.2.flatMap aM)::VL v d n pb pj (yq n m S q).2.1 (yq n m S q).1 R)
  (K (.agg ⟨nX (yq n m S q).2.2.1 rb (yq n m S q).2.2.2.1.length rc ab (yq n m S q).2.2.2.2.1.length ac tb (yq n m S q).2.2.2.2.2.length tc⟩))):
 T W (VL v d n pb pj m S R) (mQ (ah v) (fU q sl) K):=by
 unfold yq at h;cases he:fW q with
 |true=>
  rw[ai he] at h;refine Z' G hg hS XO nU cS hq hA hT AT cj he λrb rc rC=>?_;refine iR (e:=14) ?_;refine iR (e:=16) ?_;exact T.pl [2,1,0] (h rb rc none 0 none 0 rC)
 |false=>
  rw[af (by rw[he];decide)] at h;refine aab hq he λab ac tb tc=>?_;refine iR (e:=1) ?_;exact h none 0 ab ac tb tc hg
def KN(G:qi W)[i:Lc (Hl n s) L (S,m) g](hg:Md.bS m)(hS:JV S)(XO:fk (bo m)->JV (fY n m S).1)(nU:12<=n)(cS:n<=4096)(hl:l.length<1099511627776)
 (h:Md.bS (Cg n m S l).2.1->fk (bo m)->T W (g ((Cg n m S l).1,(Cg n m S l).2.1)) (K (.s (bs (Cg n m S l).2.2)))):T W L (gS (ah s) (bs l) K):=by
 refine EN (n:=n) (s:=s) λd v pb pj M hM=>?_;unfold gS;refine qD (p:=pb) (b:=bo m) (hs:=[]) λim=>?_;unfold Cg at h;have same:∀l',T W (g (S,m)) (K (.s (bs l')))->T W (VL v d n pb pj m S (Sep.pt s (Ka d v)::M)) (K (.s (bs l'))):=λl' h=>hM d v pb pj S m [] _ h;apply ws;apply fZ<;>intro g1
 ·rw[cf] at g1;rw[ai (by omega)] at h;apply ws;refine SA (wc ?_);exact same _ (h hg im)
 rw[cf] at g1;rw[af (by omega)] at h;refine A2 hl (λhr=>?_) (λhr A sl hq=>?_)
 ·rw[af (by rw[hr];decide)] at h;apply ws;intros;apply kL (by decide);apply ws;refine SA (wc ?_);exact T.drop (same _ (h hg im))
 ·rw[ai hr] at h;obtain⟨o1,o2,o3,o4⟩:=yK l;apply ws;intros;rename_i r1;refine eO (by decide) ?_;apply ws;refine T.pl [2,2,2,2] ?_;have AT:(gV l).1.aB.length<1000000:=by omega
  have cj:(gV l).1.bQ.length<1000000:=by omega
  have N4:oq W (Sep.pt r1 (fU (gV l).1 sl)::A::Sep.pt s (Ka d v)::M) (gV l).1 sl:=oq.two hq;have len:=Ya (n:=n) (S:=S) im (tt hr) o3 o4;clear o3 o4;generalize (gV l).1=q at o1 o2 AT cj N4 len h⊢;refine aaa G hg hS (XO im) nU cS N4 o1 o2 AT cj λrb rc ab ac tb tc adt=>?_;generalize yq n m S q=Z at len adt h⊢;apply DE (by rfl);refine Kj (hh:=Has.refl) (VD (λ_=>rfl)) (VD (λ_=>rfl)) (VD (λ_=>rfl)) len.1 len.2.1 len.2.2 ?_;apply wc;refine T.sub (M:=VL v d n pb pj Z.2.1 Z.1 (Sep.pt s (Ka d v)::M)) (hM d v pb pj Z.1 Z.2.1 [] _ (h adt im)) (by exact pX)
end
structure TS where
 kind:Int
 b:List UInt8
 mask:Int
 torn:Int
 cut:Int
 n:Int
def TS.q(x:TS):jY:=(gV x.b).1
def TS.wr(x:TS):Prop:=x.kind=0/\rK x.b=true/\fW x.q=true
inductive wO(x:TS)(S:VS)(m mf:aA)(g:Nat):VS->aA->aA->Prop where
 |none (h0:x.wr->S.dL=true) (h1:x.kind=1->S.dL=true) (h2:x.kind≠2) (h3:x.kind≠3):wO x S m mf g S m mf
 |did (h:x.wr) (hs:S.dL=false) (S1:VS) (e:yq 600 m S x.q=(S1,(bn m x.q).2.2,0,(bn m x.q).2.1,[],[])) (v:VW 600 S1 (bn m x.q).2.2 (g+3)) (e2:S1.J.seq=S.J.seq+1):wO x S m mf g S1 (bn m x.q).2.2 (bn m x.q).2.2
 |adM (h:x.wr) (hs:S.dL=false) (S1:VS) (e:yq 600 m S x.q=(S1,m,8,[],[],[])) (v:VX 600 S1 m (bn m x.q).2.2 (g+3)):wO x S m mf g S1 m (bn m x.q).2.2
 |saved (h:x.kind=1) (hs:S.dL=false) (e:(fY 600 m S).2=0) (v:VW 600 (fY 600 m S).1 m (g+2)):wO x S m mf g (fY 600 m S).1 m mf
 |KK (h:x.kind=1) (hs:S.dL=false) (e:(fY 600 m S).2=8) (v:VX 600 (fY 600 m S).1 m m (g+2)):wO x S m mf g (fY 600 m S).1 m mf
 |Py (h:x.kind=2) (m0:aA) (hm:m0=m\/m0=mf) (S1:VS) (v:VW 600 S1 m0 g):wO x S m mf g S1 m0 m0
 |arm (h:x.kind=3):wO x S m mf g {S with D:=S.D.tL x.n} m mf
section
variable {x:TS} {S S':VS} {m mf m' mf':aA} {g n:Nat} {q:jY} {P:aA->Prop}
def KI.same(h:KI n S m mf g)(hs:S.dL=false):mf=m/\VW n S m g:=by
 rcases h with⟨a,b⟩|a
 ·exact⟨b,a⟩
 ·have:=a.dL;rw[hs] at this;cases this
def wO.ki(w:wO x S m mf g S' m' mf')(h:KI 600 S m mf g):KI 600 S' m' mf' (g+3):=by
 cases w with
 |none _ _ _ _=>exact h.mono (by omega)
 |did _ _ _ _ v _=>exact .inl ⟨v,rfl⟩
 |adM _ _ _ _ v=>exact .inr v
 |saved _ hs _ v=>exact .inl ⟨v.mono (by omega),(h.same hs).1⟩
 |KK _ hs _ v=>rw[(h.same hs).1];exact .inr (v.mono (by omega))
 |Py _ _ _ _ v=>exact .inl ⟨v.mono (by omega),rfl⟩
 |arm _=>exact(h.tL (by decide) _).mono (by omega)
def KI.Jw:KI 600 (Ct 600) nZ nZ 0:=.inl ⟨OH (by decide) (by decide),rfl⟩
def acI(h:Rm n g S)(Lu:S.J.seq<1000000)(hn:600<=n/\n<=4096)(hg:g+3<256)(im:fk (bo m))(hw:j0 q=true):Rm n (g+3) (yq n m S q).1/\(fW q=true->(yq n m S q).2.2.1=0):=by
 unfold yq;cases he:fW q with
 |false=>
  rw[af (by decide)];exact⟨h.mono (by omega),λhh=>by cases hh⟩
 |true=>
  rw[ai rfl];have u7:=yE im;have hrl:=Ck hw he;have hc:=Qj (k:=12+(bs (dN q)).size) (by rw[cf];omega);have BJ:=h.Ms;have B5:=h.lo;have AW:=h.hi;have B4:120<=S.J.hi-S.J.lo:=by rw[B5,AW];unfold dv;omega
  have ez:=xG (m:=m) hw he;obtain⟨a1,a2,a3,a4⟩:=QB (m:=m) (s:=bs (dN q)) h hn.2 (by omega) hg (CN hn.1 u7) (by omega) Lu (by rw[cf];omega) (by omega);unfold zL;rw[af (by rw[hw];decide),af (by rw[h.dL];decide),af (λhh=>hh a1)];dsimp only;refine⟨?_,λ_=>ez⟩;rcases a4 with⟨b1,_⟩|⟨b1,_⟩
  ·exact b1.mono (by omega)
  ·exact b1
end
def XU{m:aA}(h:RM m):∀a∈m.dj.map m.full,yi a:=λa ha=>by
 obtain⟨b,hb,rfl⟩:=dF.1 ha;rw[h.ground.full hb];have h1:=h.dj b hb;obtain⟨z1,z2,z3,z4,z5,z6⟩:=h.ground.zero b hb;have d:=h.ground.yZ b hb;have c:=h.ground.vA b hb;refine⟨h1.id,?_,?_,?_,?_,h1.bF,h1.code,?_,h1.ay⟩
 ·show b.dp+_<_;omega
 ·show b.dq+_<_;omega
 ·show b.cp+_<_;omega
 ·show b.cq+_<_;omega
 ·show u2 (if _ then b.ao else b.ao%8+8);have e:0<=b.ao%8+8/\b.ao%8+8<=15:=by omega
  unfold u2;split
  ·omega
  ·exact⟨Int.le_trans (by decide) e.1,Int.le_trans e.2 (by decide)⟩
def QV(m:aA)(q:jY):List UInt8:=if fW q=true then qq (bn m q).1 (bn m q).2.1 [] [] else qq (u0 (m.dj.map m.full) m.ax q).1 [] (u0 (m.dj.map m.full) m.ax q).2.1 (u0 (m.dj.map m.full) m.ax q).2.2
def Nv(m:aA)(q:jY):aA:=if fW q=true then(bn m q).2.2 else m
def EM(m:aA)(l:List UInt8):List UInt8:=if rK l=true then QV m (gV l).1 else qq 4 [] [] []
def B6(m:aA)(l:List UInt8):aA:=if rK l=true then Nv m (gV l).1 else m
def vM(l:List UInt8):Bool:=rK l&&fW (gV l).1
def AE{α β:Type}{f:α->List β}{k:Nat}(h:∀x,(f x).length<=k):∀l:List α,(l.flatMap f).length<=l.length* k
 |[]=>by simp
 |x::l=>by
  have:=h x;have:=AE h l;rw[iP,au,aW,mn];omega
def U3{al:List bN}{kl:List cr}{q:jY}:(∀a∈(u0 al kl q).2.1,a∈al)/\(∀t∈(u0 al kl q).2.2,∃k∈kl,k.move=t):=by
 unfold u0;split
 ·exact⟨λa h=>(by cases h),λa h=>(by cases h)⟩
 split
 ·refine⟨λa h=>?_,λa h=>(by cases h)⟩;obtain⟨id,_,h2⟩:=List.mem_flatMap.1 h;exact(AQ.1 h2).1
 split
 ·refine⟨λa h=>(by cases h),λa h=>?_⟩;obtain⟨id,_,h2⟩:=List.mem_flatMap.1 h;obtain⟨k,hk,e⟩:=dF.1 h2;exact⟨k,(AQ.1 hk).1,e⟩
 ·refine⟨λa h=>(by cases h),λa h=>?_⟩;obtain⟨k,hk,e⟩:=dF.1 h;have:=(AQ.1 (List.mem_of_mem_take hk)).1;refine⟨k,?_,e⟩;split at this
  ·exact List.mem_reverse.1 this
  ·exact this
def U4{al:List bN}{kl:List cr}{q:jY}(hw:j0 q=true)(hx:fW q=false)(ha:al.length<=100)(hk:kl.length<=100):(u0 al kl q).2.1.length<1000000/\(u0 al kl q).2.2.length<1000000:=by
 have Lz: ¬(q.op=1\/q.op=2\/q.op=3):=bq hx;have hf:=mE hw;unfold u0;split
 ·exact⟨by show 0<_;decide,by show 0<_;decide⟩
 split
 ·refine⟨?_,by show 0<_;decide⟩;have h2:=AE (f:=λid=>al.filter λa=>decide (a.id=id)) (k:=100) (λid=>zy (List.length_filter_le _ _) ha) q.ids;have:q.ids.length<=16:=by rcases hf with h|h|h|h|h<;>first|exact h.2|omega
  show(q.ids.flatMap λid=>al.filter λa=>decide (a.id=id)).length<_;omega
 split
 ·refine⟨by show 0<_;decide,?_⟩;have h2:=AE (f:=λid=>(kl.filter λk=>decide (k.move.id=id)).map (·.move)) (k:=100) (λid=>by rw[bY];exact zy (List.length_filter_le _ _) hk) q.ids;have:q.ids.length<=16:=by rcases hf with h|h|h|h|h<;>first|exact h.2|omega
  show(q.ids.flatMap λid=>(kl.filter λk=>decide (k.move.id=id)).map (·.move)).length<_;omega
 ·refine⟨by show 0<_;decide,?_⟩;show(List.map _ (List.take _ _)).length<_;rw[bY,aC];have:q.kX<=16:=by rcases hf with h|h|h|h|h<;>first|exact h.2.2.2.2|omega
  omega
section
variable {W:World} {L R M:LH} {K:VK} {X:WK} {q:jY} {s:vH} {p:Nat} {m:aA} {mb kb:OA} {mc kc:Nat} {l:List UInt8}
def Nz(hm:RM m)(hw:j0 q=true)(hq:oq W R q s)(AT:q.aB.length<=255)(cj:q.bQ.length<=255)(hA:∀a∈q.aB,yi a)(hT:∀t∈q.bQ,yf t)
 (h:∀p2 su ss lE lD R',Bk p m mb mc kb kc R p2 (Nv m q) su ss lE lD R'->RM (Nv m q)->T W (ML p2 (Nv m q) su ss lE lD R') (K (.tuple ⟨[.s (bs (QV m q)),.p (ah p2)]⟩))):
 T W (ML p m mb mc kb kc R) (nO (ah p) (fU q s) K):=by
 have hmf:=hm.oS;have hmm:=hm.many;unfold nO;apply ws;intros;rename_i r1;apply C';unfold QV Nv at h;cases he:fW q with
 |true=>
  rw[ai he,ai he] at h;apply ws;apply QY (R:=R) hq (by omega) (by omega);rw[hw];apply ws;refine T.pl [1,1,1] ?_;refine WU hm ⟨hq.aB.mono,hq.bQ.mono,hq.ids.mono,hq.ca,hq.ct,hq.ci⟩ (by omega) (by omega) (λ_=>hA) (λ_=>hT) λp2 su ss lE lD ob oc R' FU VO=>?_;have hlen:=AH m q;apply ach;apply tZ;apply mg;apply yj;refine Ao (hh:=Has.refl) (ab:=none) (tb:=none) (ac:=0) (tc:=0) (al:=[]) (tl:=[]) (VD (λ_=>rfl)) np.nil np.nil (by omega) (by decide) (by decide) (λa h=>by cases h) (λa h=>by cases h) ?_;apply wc;rcases FU with⟨rfl,rfl,MP,rfl,rfl,rfl,rfl⟩|rfl
  ·exact T.sub (h p2 su ss lE lD R (.inl ⟨rfl,rfl,MP,rfl,rfl,rfl,rfl⟩) VO) (by exact pX)
  ·exact T.sub (h p2 su ss lE lD _ (.inr rfl) VO) (by exact pX)
 |false=>
  rw[af (by rw[he];decide),af (by rw[he];decide)] at h;have h:=h p mb mc kb kc R (.inl ⟨rfl,rfl,rfl,rfl,rfl,rfl,rfl⟩) hm;apply ws;refine T.pl [1,1,1] ?_;refine C9 (by omega) (by omega) hm.rkA hm.rkK λob oc=>?_;apply ws;have VQ:m.dj.length=(m.dj.map m.full).length:=(bY _).symm;have afJ:(m.dj.map m.full).length<=100:=by rw[bY];omega
  rw[VQ];refine NA (R:=R) (al:=m.dj.map m.full) (kl:=m.ax) hq (by omega) (by omega) λb1 c1 b2 c2=>?_;obtain⟨m1,m2⟩:=U3 (al:=m.dj.map m.full) (kl:=m.ax) (q:=q);obtain⟨l1,l2⟩:=U4 hw he afJ (by omega:m.ax.length<=100);have hA2:∀a∈(u0 (m.dj.map m.full) m.ax q).2.1,yi a:=λa ha=>XU hm a (m1 a ha);have V4:∀t∈(u0 (m.dj.map m.full) m.ax q).2.2,yf t:=λt ht=>by
   obtain⟨k,hk,e⟩:=m2 t ht;rw[<-e];exact(hm.ax k hk).move
  generalize u0 (m.dj.map m.full) m.ax q=Z at l1 l2 hA2 V4 h⊢;apply ws;refine Ao (hh:=Has.refl) (rb:=none) (rc:=0) (res:=[]) np.nil (VD (λ_=>rfl)) (VD (λ_=>rfl)) (by decide) l1 l2 hA2 V4 ?_;apply ws;refine T.sub h (by exact pX)
end
def Bk.less{p p2:Nat}{m m2:aA}{mb kb su lE:OA}{mc kc ss lD:Nat}{A B:HP}{R R':LH}{W:World}{X:WK}(hb:Bk p m mb mc kb kc (A::B::R) p2 m2 su ss lE lD R')
 (h:∀R2,Bk p m mb mc kb kc R p2 m2 su ss lE lD R2->T W (ML p2 m2 su ss lE lD R2) X):T W (ML p2 m2 su ss lE lD R') X:=by
 rcases hb with⟨rfl,rfl,MP,rfl,rfl,rfl,rfl⟩|rfl
 ·exact T.sub (h R (.inl ⟨rfl,rfl,MP,rfl,rfl,rfl,rfl⟩)) (by exact pX)
 ·exact T.sub (h _ (.inr rfl)) (by exact pX)
section
variable {W:World} {L R M:LH} {K:VK} {X:WK} {q:jY} {s:vH} {p:Nat} {m:aA} {mb kb:OA} {mc kc:Nat} {l:List UInt8}
def M'(hm:RM m)(hl:l.length<1099511627776)
 (h:∀p2 su ss lE lD R',Bk p m mb mc kb kc R p2 (B6 m l) su ss lE lD R'->RM (B6 m l)->T W (ML p2 (B6 m l) su ss lE lD R') (K (.tuple ⟨[.s (bs (EM m l)),.p (ah p2),.b (vM l)]⟩))):
 T W (ML p m mb mc kb kc R) (po (ah p) (bs l) K):=by
 unfold po;unfold B6 EM vM at h;refine A2 hl (λhr=>?_) (λhr A sl hq=>?_)
 ·rw[af (by rw[hr];decide),af (by rw[hr];decide),hr] at h;have h:=h p mb mc kb kc R (.inl ⟨rfl,rfl,rfl,rfl,rfl,rfl,rfl⟩) hm;apply ws;intros;apply kL (by decide);apply uM;apply ws;exact T.drop h
 ·rw[ai hr,ai hr,hr] at h;obtain⟨o1,o2,o3,o4⟩:=yK l;have hw:=tt hr;apply ws;intros;rename_i r1;refine eO (by decide) ?_;apply ws;refine T.pl [2,2,2] ?_;have N4:oq W (Sep.pt r1 (fU (gV l).1 sl)::A::R) (gV l).1 sl:=oq.two hq;generalize (gV l).1=q at o1 o2 o3 o4 hw N4 h⊢;refine Nz hm hw N4 o3 o4 o1 o2 λp2 su ss lE lD R' FU VO=>?_;have hL:∃g,Lc (Sep.pt r1) R' (fU q sl) g:=by
   rcases FU with⟨rfl,-⟩|rfl
   ·exact⟨_,inferInstance⟩
   ·exact⟨_,inferInstance⟩
  obtain⟨g,hL⟩:=hL;apply ws;apply C';apply ws;exact Bk.less FU λR2 wE=>h p2 su ss lE lD R2 wE VO
end
def wC(s p pf:Nat):LV:=[.p (ah s),.p (ah p),.p (ah pf)]
section
variable {s p pf p':Nat}
instance:Gt (wC s p pf) 0 (.p (ah s)):=⟨rfl⟩
instance:Gt (wC s p pf) 1 (.p (ah p)):=⟨rfl⟩
instance:Gt (wC s p pf) 2 (.p (ah pf)):=⟨rfl⟩
instance:Wr (wC s p pf) 1 [.p (ah p')] (wC s p' pf):=⟨rfl,by show 2<=3;decide,λu hu=>by simp at hu;subst hu;rfl⟩
instance:Wr (wC s p pf) 2 [.p (ah p')] (wC s p p'):=⟨rfl,by show 3<=3;decide,λu hu=>by simp at hu;subst hu;rfl⟩
end
structure WZ where
 s:Nat
 p:Nat
 pf:Nat
 mb:OA
 mc:Nat
 kb:OA
 kc:Nat
structure WX where
 S:VS
 ms:aA
 m:aA
 mf:aA
abbrev A1(w:Nat)(z:WZ)(x:WX)(R:LH):LH:=Sep.pt w (wC z.s z.p z.pf)::Hl 600 z.s (x.S,x.ms)::ML z.p x.m z.mb z.mc z.kb z.kc R
def wd(w:Nat)(x:WX):HP:=So λy:WZ×LH=>DQ (Fl y.1.p x.m y.1.pf x.mf [] y.2/\RM x.m/\RM x.mf) (va (A1 w y.1 x y.2))
section
variable {W:World} {L R M:LH} {K:VK} {X:WK} {w:Nat} {x:WX} {f:WX->LH}
def Fl.app{p pf:Nat}{m mf:aA}{E:LH}(h:Fl p m pf mf [] E):Fl p m pf mf M (E++M):=by
 rcases h with⟨a,b,rfl⟩|⟨fb,fc,gb,gc,rfl⟩
 ·exact .inl ⟨a,b,rfl⟩
 ·exact .inr ⟨fb,fc,gb,gc,rfl⟩
def Fl.YU{p pf:Nat}{m mf:aA}{R':LH}(h:Fl p m pf mf M R'):∃E,Fl p m pf mf [] E/\R'=E++M:=by
 rcases h with⟨a,b,rfl⟩|⟨fb,fc,gb,gc,rfl⟩
 ·exact⟨[],.inl ⟨a,b,rfl⟩,rfl⟩
 ·exact⟨_,.inr ⟨fb,fc,gb,gc,rfl⟩,rfl⟩
def SN[i:Lc (wd w) L x f](h:∀z M R',Fl z.p x.m z.pf x.mf M R'->RM x.m->RM x.mf->(∀z' x' M0 N Y,Fl z'.p x'.m z'.pf x'.mf M M0->RM x'.m->RM x'.mf->T W (N++f x') Y->T W (N++A1 w z' x' M0) Y)->T W (A1 w z x R') X):T W L X:=
 T.foc (P:=wd w) λM hM=>T.ex λy=>T.and λ⟨h1,h2,h3⟩=>T.sps (M:=A1 w y.1 x y.2) (h y.1 M (y.2++M) h1.app h2 h3 λz' x' M0 N Y hf k1 k2 hy=>by
  obtain⟨E,hE,rfl⟩:=hf.YU
  refine T.perm (L:=A1 w z' x' E++(N++M)) (T.EK (M:=A1 w z' x' E) (T.TX (p:=Fl z'.p x'.m z'.pf x'.mf [] E/\RM x'.m/\RM x'.mf) ⟨hE,k1,k2⟩ (T.Xr (f:=λy:WZ×LH=>DQ (Fl y.1.p x'.m y.1.pf x'.mf [] y.2/\RM x'.m/\RM x'.mf) (va (A1 w y.1 x' y.2))) (z',E) (hM x' N Y hy)))) ?_
  show(N++(A1 w z' x' E++M)).Perm (A1 w z' x' E++(N++M))
  rw[<-aH,<-aH]
  exact bt.append_right M)
def OV[i:Lc (wd w) L x f](h:fk (bo x.ms)->RM x.m->RM x.mf->T W L X):T W L X:=by
 refine SN (w:=w) λz M R' hf h2 h3 hM=>?_;refine Pk (n:=600) (s:=z.s) λhg=>?_;refine hM z x R' [] _ hf h2 h3 ?_;rw[cT,i.same];exact h hg h2 h3
def A3[i:Lc (wd w) L x f]{F:OA->WK}(h:∀p,T W (cR p (bo x.ms,[])::L) (F (ah p))):T W L (lP ⟨w,0,none⟩ λs=>ff s (xP F)):=by
 refine SN (w:=w) λz M R' hf h2 h3 hM=>?_;apply ws;refine E3 (n:=600) (s:=z.s) λp=>?_;refine yj ?_;refine hM z x R' [_] _ hf h2 h3 ?_;rw[i.same];exact h p
def OT[i:Lc (wd w) L x f]{F:Bool->WK}(h:T W L (F x.S.dL)):T W L (lP ⟨w,0,none⟩ λs=>gR s (xB F)):=by
 refine SN (w:=w) λz M R' hf h2 h3 hM=>?_;apply ws;refine vh (n:=600) (s:=z.s) ?_;refine sA ?_;refine hM z x R' [] _ hf h2 h3 ?_;rw[cT,i.same];exact h
def YR(G:qi W)[i:Lc (wd w) L x f]{l:List UInt8}{F:BA->WK}(hg:Md.bS x.ms)(hS:JV x.S)(XO:fk (bo x.ms)->JV (fY 600 x.ms x.S).1)(hl:l.length<1099511627776)
 (h:Md.bS (Cg 600 x.ms x.S l).2.1->fk (bo x.ms)->T W (f ⟨(Cg 600 x.ms x.S l).1,(Cg 600 x.ms x.S l).2.1,x.m,x.mf⟩) (F (bs (Cg 600 x.ms x.S l).2.2))):T W L (lP ⟨w,0,none⟩ λs=>gS s (bs l) (xS F)):=by
 refine SN (w:=w) λz M R' hf h2 h3 hM=>?_;apply ws;refine KN G (n:=600) (s:=z.s) hg hS XO (by decide) (by decide) hl λk1 k2=>?_;apply wc;exact hM z ⟨(Cg 600 x.ms x.S l).1,(Cg 600 x.ms x.S l).2.1,x.m,x.mf⟩ R' [] _ hf h2 h3 (h k1 k2)
end
def wh{S:VS}{ms zC:aA}{g:Nat}{l:List UInt8}(hk:KI 600 S ms zC g)(hg:g+3<256)(im:fk (bo ms))(rC:Md.bS ms)(hl:l.length<=16384):
 (vM l=false/\Cg 600 ms S l=(S,ms,EM ms l))\/
 (vM l=true/\S.dL=true/\Cg 600 ms S l=(S,ms,qq 9 [] [] []))\/
 (vM l=true/\S.dL=false/\∃S1,yq 600 ms S (gV l).1=(S1,ms,8,[],[],[])/\Cg 600 ms S l=(S1,ms,qq 8 [] [] [])/\VX 600 S1 ms (bn ms (gV l).1).2.2 (g+3))\/
 (vM l=true/\S.dL=false/\∃S1,yq 600 ms S (gV l).1=(S1,(bn ms (gV l).1).2.2,0,(bn ms (gV l).1).2.1,[],[])/\Cg 600 ms S l=(S1,(bn ms (gV l).1).2.2,EM ms l)/\
  VW 600 S1 (bn ms (gV l).1).2.2 (g+3)/\S1.J.seq=S.J.seq+1/\EM ms l=qq 0 (bn ms (gV l).1).2.1 [] []/\oE 0 (bn ms (gV l).1).2.1 [] []=true):=by
 obtain⟨o1,o2,o3,o4⟩:=yK l;unfold Cg EM vM;rw[af (by omega)];cases hr:rK l with
 |false=>left;exact⟨rfl,by rw[af (by decide),af (by decide)]⟩
 |true=>
  have hw:=tt hr;rw[ai rfl,ai rfl];generalize (gV l).1=q at o1 o2 o3 o4 hw⊢;rcases aeD (q:=q) hk.vz (by decide) (by decide) hg im rC hw o1 o2 with⟨a,b⟩|⟨a,b,c⟩|⟨a,b,S1,c,d⟩|⟨a,b,c,S1,d,e,e2⟩
  ·left
   refine⟨by rw[a];rfl,?_⟩;have afG:u0 (ms.dj.map ms.full) ms.ax q=ask ms q:=by
    rw[<-Yt im];have:ms.dj.map ms.full=(bo ms).aB:=mI λa ha=>rC.full ha;rw[this];rfl
   unfold QV;rw[b,af (by rw[a];decide),afG]
  ·right;left
   exact⟨by rw[a];rfl,b,by rw[c]⟩
  ·right;right;left
   exact⟨by rw[a];rfl,b,S1,c,by rw[c],d⟩
  ·right;right;right
   have he:kz q=true:=by
    have Lz:q.op=1\/q.op=2\/q.op=3:=aS a;unfold j0 at hw;have:nQ q=false:=by unfold nQ;rw[af (by omega),af (by omega)]
    rw[this,Bool.or_false,dh] at hw;exact hw.1
   have hf:=L2 (m:=ms) rC he;rw[c] at hf;have e3:QV ms q=qq 0 (bn ms q).2.1 [] []:=by unfold QV;rw[ai a,c]
   exact⟨by rw[a];rfl,b,S1,d,by rw[d,e3],e,e2,e3,hf⟩
def wZ(x:TS):LV:=[.i x.kind,.s (bs x.b),.u x.mask,.i x.torn,.i x.cut,.i x.n]
section
variable {x:TS} {x1 x2 x3 x4 x5 x6:Value}
instance:Ln (wZ x) 6:=⟨rfl⟩
instance:Gt (wZ x) 0 (.i x.kind):=⟨rfl⟩
instance:Gt (wZ x) 1 (.s (bs x.b)):=⟨rfl⟩
instance:Gt (wZ x) 2 (.u x.mask):=⟨rfl⟩
instance:Gt (wZ x) 3 (.i x.torn):=⟨rfl⟩
instance:Gt (wZ x) 4 (.i x.cut):=⟨rfl⟩
instance:Gt (wZ x) 5 (.i x.n):=⟨rfl⟩
def Wf(x:TS):∀v∈wZ x,v.oneCell'=true:=λv hv=>by simp[wZ] at hv;rcases hv with rfl|rfl|rfl|rfl|rfl|rfl<;>rfl
instance:Wr [x1,x2,x3,x4,x5,x6] 0 (wZ x) (wZ x):=⟨rfl,aF _,Wf x⟩
instance:Sub (wZ x) 0 6 (wZ x):=⟨rfl,λj v h=>by rw[aD];exact h⟩
end
section
variable {W:World} {L R R' M:LH} {K:VK} {X:WK} {w:Nat} {x:WX} {f:WX->LH} {p p3 pf:Nat} {m m3 mf:aA} {mb Ea kb Ee:OA} {mc D9 kc Ed:Nat} {R3:LH} {A B C:HP}
def Nx(p:Nat)(m:aA)(mb:OA)(mc:Nat)(kb:OA)(kc p3:Nat)(m3:aA)(Ea:OA)(D9:Nat)(Ee:OA)(Ed:Nat)(R' R3:LH):Prop:=
 (p3=p/\m3=m/\Ea=mb/\D9=mc/\Ee=kb/\Ed=kc/\R3=R')\/R3=ML p m mb mc kb kc R'
def Nx.both(hn:Nx p m mb mc kb kc p3 m3 Ea D9 Ee Ed R' R3)(hf:Fl p m pf mf M R')(h:T W (A::B::ML p3 m3 Ea D9 Ee Ed M) X):T W (A::B::ML p3 m3 Ea D9 Ee Ed R3) X:=by
 rcases hn with⟨_,_,_,_,_,_,rfl⟩|rfl
 ·rcases hf with⟨_,_,rfl⟩|⟨fb,fc,gb,gc,rfl⟩
  ·exact h
  ·exact T.sub h (by exact pX)
 ·rcases hf with⟨_,_,rfl⟩|⟨fb,fc,gb,gc,rfl⟩
  ·exact T.sub h (by exact pX)
  ·exact T.sub h (by exact pX)
def Nx.may(hn:Nx p m mb mc kb kc p3 m3 Ea D9 Ee Ed R' R3)(hf:Fl p m pf mf M R')(h:∀R4,Fl p m p3 m3 M R4->T W (A::B::ML p m mb mc kb kc R4) X):T W (A::B::ML p3 m3 Ea D9 Ee Ed R3) X:=by
 rcases hn with⟨rfl,rfl,rfl,rfl,rfl,rfl,rfl⟩|rfl
 ·have h:=h M (.inl ⟨rfl,rfl,rfl⟩);rcases hf with⟨_,_,rfl⟩|⟨fb,fc,gb,gc,rfl⟩
  ·exact h
  ·exact T.sub h (by exact pX)
 ·have h:=h _ (.inr ⟨Ea,D9,Ee,Ed,rfl⟩);rcases hf with⟨_,_,rfl⟩|⟨fb,fc,gb,gc,rfl⟩
  ·exact T.pl [0,0,3,3,3] h
  ·exact T.pl [0,0,3,3,3] (T.sub h (by exact pX))
def Nx.none(hn:Nx p m mb mc kb kc p3 m3 Ea D9 Ee Ed R' R3)(hf:Fl p m pf mf M R')(h:∀R4,Fl p m pf mf M R4->T W (A::B::ML p m mb mc kb kc R4) X):T W (A::B::ML p3 m3 Ea D9 Ee Ed R3) X:=by
 rcases hn with⟨rfl,rfl,rfl,rfl,rfl,rfl,rfl⟩|rfl
 ·exact h _ hf
 ·exact T.sub (h _ hf) (by exact pX)
def Nx.one(hn:Nx p m mb mc kb kc p3 m3 Ea D9 Ee Ed R' R3)(hf:Fl p m pf mf M R')(h:∀R4,Fl p3 m3 pf mf M R4->T W (A::B::ML p3 m3 Ea D9 Ee Ed R4) X):T W (A::B::ML p3 m3 Ea D9 Ee Ed R3) X:=by
 rcases hn with⟨rfl,rfl,rfl,rfl,rfl,rfl,rfl⟩|rfl
 ·exact h _ hf
 ·rcases hf with⟨rfl,rfl,rfl⟩|⟨fb,fc,gb,gc,rfl⟩
  ·exact h _ (.inr ⟨mb,mc,kb,kc,rfl⟩)
  ·exact T.sub (h _ (.inr ⟨fb,fc,gb,gc,rfl⟩)) (by exact pX)
end
def we(a b:List UInt8):pP (bs a) (bs b)=decide (a=b):=by
 rw[sE,decide_eq_decide];exact AM
def QC{m:aA}{l:List UInt8}(h:vM l=false):B6 m l=m:=by
 unfold B6;split
 ·rename_i hr;unfold vM at h;rw[hr,dI] at h;unfold Nv;rw[af (by rw[h];decide)]
 ·rfl
def Hg{m:aA}{l:List UInt8}(h:vM l=true):B6 m l=(bn m (gV l).1).2.2:=by
 unfold vM at h;rw[dh] at h;unfold B6 Nv;rw[ai h.1,ai h.2]
section
variable {W:World} {L R R' M:LH} {K:VK} {X:WK} {w:Nat} {f:WX->LH} {p p3 pf:Nat} {m m3 mf:aA} {mb Ea kb Ee:OA} {mc D9 kc Ed:Nat} {R3:LH} {A B C:HP} {S:VS} {ms zC:aA} {g:Nat} {x:TS}
def Bk.nx(hb:Bk p m mb mc kb kc (A::B::C::R') p3 m3 Ea D9 Ee Ed R3)(h:∀R4,Nx p m mb mc kb kc p3 m3 Ea D9 Ee Ed R' R4->T W (A::B::C::ML p3 m3 Ea D9 Ee Ed R4) X):T W (ML p3 m3 Ea D9 Ee Ed R3) X:=by
 rcases hb with⟨rfl,rfl,rfl,rfl,rfl,rfl,rfl⟩|rfl
 ·exact T.pl [3,3,3] (h _ (.inl ⟨rfl,rfl,rfl,rfl,rfl,rfl,rfl⟩))
 ·exact T.pl [6,6,6] (h _ (.inr rfl))
def ac1{s p' pf':Nat}(hm:RM m)(h:T W (ML p m mb mc kb kc (Sep.pt w (wC s p' pf')::Hl 600 s (S,ms)::R)) (K (.b (decide (BZ m ms))))):
 T W (ML p m mb mc kb kc (Sep.pt w (wC s p' pf')::Hl 600 s (S,ms)::R)) (ng (ah w) (ah p) K):=by
 unfold ng;apply ws;refine E3 (n:=600) (s:=s) λp3=>?_;apply yj;refine u5 (p:=p3) λab ac=>?_;apply tZ;refine xR (p:=p3) λxb xc=>?_;apply tZ;apply B2 (p:=p3);apply mg;refine Eo (p:=p3) ?_;refine mg ?_;refine T.pl [3,3,3] ?_;apply WQ hm;apply sA;have e:decide (m.dj.map m.full=(bo ms).aB/\m.ax=(bo ms).ax/\m.clock=(bo ms).clock/\m.ay=(bo ms).ay)=decide (BZ m ms):=by
  have e1:m.dj.map m.full=(bo m).aB:=mI λa ha=>hm.ground.full ha;rw[e1,decide_eq_decide];exact Iff.rfl
 rw[e];exact T.sub h (by exact pX)
set_option maxHeartbeats 1000000 in
def aeC(G:qi W)[i:Lc (wd w) L ⟨S,ms,m,mf⟩ f](hl:x.b.length<=16384)(hk:KI 600 S ms zC g)(hg:g+3<256)(rC:Md.bS ms)(MV:Md.bS zC)
 (h:∀b S' qH mfs' m' mf',wO x S ms zC g S' qH mfs'->Md.bS qH->Md.bS mfs'->(m=ms/\mf=zC->b=true/\m'=qH/\mf'=mfs')->T W (f ⟨S',qH,m',mf'⟩) (K (.b b))):T W L (aN (ah w) (wZ x) K):=by
 unfold aN;refine SN (w:=w) λz M R' hf k1 k2 hM=>?_;have fin:∀{b:Bool} {S':VS} {qH mfs' m' mf':aA} {z':WZ} {M0:LH},Fl z'.p m' z'.pf mf' M M0->RM m'->RM mf'->wO x S ms zC g S' qH mfs'->Md.bS qH->Md.bS mfs'->(m=ms/\mf=zC->b=true/\m'=qH/\mf'=mfs')->T W (A1 w z' ⟨S',qH,m',mf'⟩ M0) (K (.b b)):=
  λ{b S' qH mfs' m' mf' z' M0} a1 a2 a3 a4 a5 a6 a7=>hM z' ⟨S',qH,m',mf'⟩ M0 [] _ a1 a2 a3 (h b S' qH mfs' m' mf' a4 a5 a6 a7)
 have Xs:=hk.vz;have iE:=Xs.vok (by omega);dsimp only[A1];apply ws;intros;rename_i r1;apply db<;>intro g4
 ·have k0:x.kind=0:=by simpa using g4
  have hwr:vM x.b=true->x.wr:=λhh=>by
   unfold vM at hh;rw[dh] at hh;exact⟨k0,hh.1,hh.2⟩
  have ae8:x.wr->vM x.b=true:=λhh=>by
   unfold vM;rw[hh.2.1];exact hh.2.2
  apply ws;refine T.pl [3,3,3] ?_;refine M' k1 (by omega) λp3 Ea D9 Ee Ed R3 FU Xu=>?_;refine FU.nx λR4 hn=>?_;apply ws;apply vh (n:=600) (s:=z.s);apply ws;refine KN G (n:=600) (s:=z.s) rC iE (λim=>Xs.SD (by decide) (by decide) (by omega) im rC) (by decide) (by decide) (by omega) λMU im=>?_;have hc:=wh hk hg im rC hl;have jD:∀{S':VS} {qH mfs':aA},wO x S ms zC g S' qH mfs'->Md.bS qH->Md.bS mfs'->S'.dL=S.dL->(m=ms/\mf=zC->B6 m x.b=qH/\(S.dL=false->mfs'=qH)/\(S.dL=true->mfs'=zC))->
   T W (Sep.pt r1 (wZ x)::Sep.pt w (wC z.s z.p z.pf)::Hl 600 z.s (S',qH)::ML p3 (B6 m x.b) Ea D9 Ee Ed R4) (aN.j1 K (ah w) (ah p3) S.dL):=by
   intro S' qH mfs' a1 a2 a3 a4 a5;unfold aN.j1 aN.j2;cases hs:S.dL with
   |true=>
    apply ws;apply vh (n:=600) (s:=z.s);apply ws;rw[a4,hs];apply T.drop;refine hn.one hf λR5 hf5=>?_;exact fin (z':=⟨z.s,p3,z.pf,Ea,D9,Ee,Ed⟩) hf5 Xu k2 a1 a2 a3 λhh=>⟨rfl,(a5 hh).1,by rw[(a5 hh).2.2 hs];exact hh.2⟩
   |false=>
    apply ws;apply vh (n:=600) (s:=z.s);apply ws;rw[a4,hs];refine T.drop ?_;refine hn.both hf ?_;exact fin (z':=⟨z.s,p3,p3,Ea,D9,Ee,Ed⟩) (.inl ⟨rfl,rfl,rfl⟩) Xu Xu a1 a2 a3 λhh=>⟨rfl,(a5 hh).1,by rw[(a5 hh).2.1 hs];exact(a5 hh).1⟩
  have jN:∀{b:Bool} {S':VS} {qH mfs':aA},wO x S ms zC g S' qH mfs'->Md.bS qH->Md.bS mfs'->(m=ms/\mf=zC->b=true/\m=qH/\mf=mfs')->
   T W (Sep.pt r1 (wZ x)::Sep.pt w (wC z.s z.p z.pf)::Hl 600 z.s (S',qH)::ML p3 (B6 m x.b) Ea D9 Ee Ed R4) (K (.b b)):=by
   intro b S' qH mfs' a1 a2 a3 a5;refine T.drop (hn.none hf λR5 hf5=>?_);exact fin (z':=z) hf5 k1 k2 a1 a2 a3 a5
  have j4:∀{S':VS} {qH mfs':aA} {l:List UInt8},wO x S ms zC g S' qH mfs'->Md.bS qH->Md.bS mfs'->S'.dL=S.dL->(m=ms/\mf=zC->l=EM m x.b/\B6 m x.b=qH/\(S.dL=false->mfs'=qH)/\(S.dL=true->mfs'=zC))->
   T W (Sep.pt r1 (wZ x)::Sep.pt w (wC z.s z.p z.pf)::Hl 600 z.s (S',qH)::ML p3 (B6 m x.b) Ea D9 Ee Ed R4) (aN.j4 K (ah w) (ah p3) (bs l) (bs (EM m x.b)) S.dL false):=by
   intro S' qH mfs' l a1 a2 a3 a4 a5;unfold aN.j4;rw[we];by_cases hls:l=EM m x.b
   ·rw[aw hls];apply ws;exact jD a1 a2 a3 a4 λhh=>(a5 hh).2
   ·rw[aq hls];apply ws;exact jN a1 a2 a3 λhh=>aQ (a5 hh).1 hls
  rcases hc with⟨c1,c2⟩|⟨c1,c2,c3⟩|⟨c1,c2,S1,c3,c4,c5⟩|⟨c1,c2,S1,c3,c4,c5,c6,c7,c8⟩
  ·rw[c2,c1];have hw:wO x S ms zC g S ms zC:=.none (λhh=>by have:=ae8 hh;rw[c1] at this;cases this) (λhh=>by omega) (by omega) (by omega);unfold aN.j3;apply ws;refine j4 hw rC MV rfl λhh=>⟨by rw[hh.1],(QC c1).trans hh.1,λhs=>(hk.same hs).1,λ_=>rfl⟩
  ·rw[c3,c1,c2];have hw:wO x S ms zC g S ms zC:=.none (λ_=>c2) (λhh=>by omega) (by omega) (by omega);unfold aN.j3;apply ws;apply uM;apply ws;rw[we,aw rfl];exact jN hw rC MV λhh=>⟨rfl,hh.1,hh.2⟩
  ·rw[c4,c1,c2];have hx:=hwr c1;have hw:wO x S ms zC g S1 ms (bn ms x.q).2.2:=.adM hx c2 S1 c3 c5;unfold aN.j3 aN.j4;apply ws;apply uM;apply ws;rw[we,aw rfl];apply ws;apply vh (n:=600) (s:=z.s);apply ws;rw[c5.dL];refine T.drop (hn.may hf λR5 hf5=>?_);exact fin (z':=⟨z.s,z.p,p3,z.mb,z.mc,z.kb,z.kc⟩) hf5 k1 Xu hw rC (td rC _) λhh=>⟨rfl,hh.1,by rw[Hg c1,hh.1];rfl⟩
  ·rw[c4,c1,c2];rw[c4] at MU;have hx:=hwr c1;have hw:wO x S ms zC g S1 (bn ms x.q).2.2 (bn ms x.q).2.2:=.did hx c2 S1 c3 c5 c6;have jW:EM ms x.b≠qq 8 [] [] []:=by rw[c7];exact aaI c8 (by decide) (by decide)
   unfold aN.j3;apply ws;apply uM;apply ws;rw[we,aq jW];have:=j4 (l:=EM ms x.b) hw (td rC _) (td rC _) (by rw[c5.dL,c2]) λhh=>⟨by rw[hh.1],by rw[Hg c1,hh.1];rfl,λ_=>rfl,λhs=>by rw[c2] at hs;cases hs⟩;rw[c2] at this;exact this
 have k0:x.kind≠0:=by simpa using g4
 have nw:x.wr->S.dL=true:=λhh=>aQ hh.1 k0;apply db<;>intro g5
 ·have k1':x.kind=1:=by simpa using g5
  apply ws;refine Pk (n:=600) (s:=z.s) λim=>?_;apply vh (n:=600) (s:=z.s);apply ws;apply WC (n:=600) (s:=z.s) iE (by decide) (by decide);have jE:∀{b:Bool} {S':VS} {qH mfs':aA},wO x S ms zC g S' qH mfs'->Md.bS qH->Md.bS mfs'->(m=ms/\mf=zC->b=true/\m=qH/\mf=mfs')->T W (Sep.pt r1 (wZ x)::Sep.pt w (wC z.s z.p z.pf)::Hl 600 z.s (S',qH)::ML z.p m z.mb z.mc z.kb z.kc R') (K (.b b)):=by
   intro b S' qH mfs' a1 a2 a3 a5;exact T.drop (fin (z':=z) hf k1 k2 a1 a2 a3 a5)
  rcases WA Xs (by decide) (by decide) (by omega) im rC with⟨a,b⟩|⟨a,b,c,_⟩|⟨a,b,c⟩
  ·rw[b,a];unfold aN.j5;apply ws;apply kL rfl;exact jE (mfs':=zC) (.none nw (λ_=>a) (by omega) (by omega)) rC MV λhh=>⟨rfl,hh.1,hh.2⟩
  ·rw[b,a];unfold aN.j5 aN.j6;apply ws;apply kL (by decide);apply ws;apply vh (n:=600) (s:=z.s);apply ws;rw[c.dL];apply aam;exact jE (.saved k1' a b c) rC MV λhh=>⟨rfl,hh.1,hh.2⟩
  ·rw[b,a];unfold aN.j5 aN.j6;apply ws;apply eO (by decide);apply ws;apply kL (by decide);apply ws;apply vh (n:=600) (s:=z.s);apply ws;rw[c.dL];exact jE (.KK k1' a b c) rC MV λhh=>⟨rfl,hh.1,hh.2⟩
 have k1':x.kind≠1:=by simpa using g5
 apply db<;>intro g6
 ·have k2':x.kind=2:=by simpa using g6
  apply ws;obtain⟨m0,hm0,hold⟩:=hk.Py (by decide) x.mask x.torn x.cut;refine KL G (n:=600) (s:=z.s) (by decide) (by decide) iE hold (by omega) λS' hw N6=>?_;apply mg;apply eO (by decide);apply ws;unfold aN.j7;have PY:wO x S ms zC g S' m0 m0:=.Py k2' m0 hm0 S' hw;rcases hf with⟨h1,h2,h3⟩|⟨fb,fc,gb,gc,rfl⟩
  ·rw[h1,h3];refine T.pl [3,3,3,1,1] ?_;apply ac1 k1;have e0:m=ms/\mf=zC->m=m0:=λhh=>by
    rcases hm0 with e|e
    ·rw[e];exact hh.1
    ·rw[e,<-hh.2];exact h2.symm
   apply sA;have e1:∀X,T W (A1 w ⟨z.s,z.p,z.p,z.mb,z.mc,z.kb,z.kc⟩ ⟨S',m0,m,m⟩ M) X->T W (ML z.p m z.mb z.mc z.kb z.kc (Sep.pt w (wC z.s z.p z.p)::Hl 600 z.s (S',m0)::Sep.pt r1 (wZ x)::M)) X:=λX hX=>T.pl [3,3,0,0,0] (T.sub hX (by exact pX));apply db<;>intro g7
   ·apply ws;refine e1 _ (fin (.inl ⟨rfl,rfl,rfl⟩) k1 k1 PY N6 N6 λhh=>⟨rfl,e0 hh,e0 hh⟩)
   ·apply ws;refine e1 _ (fin (.inl ⟨rfl,rfl,rfl⟩) k1 k1 PY N6 N6 λhh=>⟨rfl,e0 hh,e0 hh⟩)
  ·refine T.pl [6,6,6,1,1] ?_;apply ac1 k2;apply sA;apply fZ<;>intro g7
   ·have e0:=g7.model k2.ground N6;apply ws;refine T.pl [3,3,0,0,0] (T.sub (M:=A1 w ⟨z.s,z.pf,z.pf,fb,fc,gb,gc⟩ ⟨S',m0,mf,mf⟩ M) ?_ (by exact pX));exact fin (.inl ⟨rfl,rfl,rfl⟩) k2 k2 PY N6 N6 λhh=>⟨rfl,e0,e0⟩
   ·have e0:m=ms/\mf=zC->m=m0:=λhh=>by
     rcases hm0 with e|e
     ·rw[e];exact hh.1
     ·rw[e,<-hh.2] at g7;exact aQ (BZ.refl mf) g7
    apply ws;refine T.pl [3,3,4,4,4] (T.sub (M:=A1 w ⟨z.s,z.p,z.p,z.mb,z.mc,z.kb,z.kc⟩ ⟨S',m0,m,m⟩ M) ?_ (by exact pX));exact fin (.inl ⟨rfl,rfl,rfl⟩) k1 k1 PY N6 N6 λhh=>⟨rfl,e0 hh,e0 hh⟩
 have k2':x.kind≠2:=by simpa using g6
 apply db<;>intro g7
 ·have k3':x.kind=3:=by simpa using g7
  apply ws;apply aaz (n:=600) (s:=z.s);apply ws;exact T.drop (fin (z':=z) hf k1 k2 (.arm k3') rC MV λhh=>⟨rfl,hh.1,hh.2⟩)
 ·have k3':x.kind≠3:=by simpa using g7
  exact T.drop (fin (z':=z) hf k1 k2 (.none nw (λhh=>aQ hh k1') k2' k3') rC MV λhh=>⟨rfl,hh.1,hh.2⟩)
end
section
variable {W:World} {L R M:LH} {K:VK} {X:WK} {w:Nat} {x:WX} {f:WX->LH} {m:aA} {q:jY}
def aci{z:WZ}{M0:LH}(hf:Fl z.p x.m z.pf x.mf M M0)(k1:RM x.m)(k2:RM x.mf)(h:T W (wd w x::M) X):T W (A1 w z x M0) X:=by
 obtain⟨E,hE,rfl⟩:=hf.YU;exact T.EK (M:=A1 w z x E) (T.TX (p:=Fl z.p x.m z.pf x.mf [] E/\RM x.m/\RM x.mf) ⟨hE,k1,k2⟩ (T.Xr (f:=λy:WZ×LH=>DQ (Fl y.1.p x.m y.1.pf x.mf [] y.2/\RM x.m/\RM x.mf) (va (A1 w y.1 x y.2))) (z,E) h))
def Tm:RM nZ:=RM.W4 FW od
def Pa(G:qi W)(h:∀w,T W (wd w ⟨Ct 600,nZ,nZ,nZ⟩::L) (K (.p (ah w)))):T W L (mX K):=by
 unfold mX;refine Tj G (n:=600) (by decide) (by decide) λs=>?_;apply ws;intros;rename_i r1 r2;show T W (Sep.pt r2 (wC s r1 r1)::Sep.pt r1 (GD nZ none 0 none 0)::Hl 600 s (Ct 600,nZ)::L) _;refine iR (e:=33) ?_;refine iR (e:=14) ?_;refine T.pl (M:=A1 r2 ⟨s,r1,r1,none,0,none,0⟩ ⟨Ct 600,nZ,nZ,nZ⟩ L) [2,3,2,0,0] ?_;exact aci (.inl ⟨rfl,rfl,rfl⟩) Tm Tm (h r2)
def QX(h:T W L (K (.s (bs (dN qT))))):T W L (ln (fU qT s0) K):=by
 unfold ln
 repeat' first|apply ws;intros|apply wb|refine HE ?_
 have e1:qT.op=3:=rfl;rw[e1];apply eO (by decide);apply eO (by decide);apply kL (by decide)
 repeat' first|apply ws|apply wb|refine Tt ?_
 refine dJ (by rw[cf,cf,aP,aP];decide) ?_;rw[lR];exact T.drop h
def Pq:rK (dN qT)=true/\(gV (dN qT)).1=qT:=by
 have h1:j0 qT=true:=by decide
 have h2:fW qT=true:=by decide
 refine⟨C8 h1 h2 (λa h=>by cases h) (λa h=>by cases h),?_⟩;rw[Cl h1 h2 (λa h=>by cases h) (λa h=>by cases h)]
 rfl
def Qr(G:qi W)(h:T W L (K (.b true))):T W L (il K):=by
 unfold il;refine Tj G (n:=600) (by decide) (by decide) λs=>?_;apply ws;apply kL (by decide);have hv0:=OH (n:=600) (by decide) (by decide);have hz0:VZ 600 (Ct 600) nZ 0:=.inl hv0;have VO:=abY (n:=600) (by decide) (by decide);have iE:=hz0.vok (by decide);have LA:fk (bo nZ)->JV (fY 600 nZ (Ct 600)).1:=λhg=>hz0.SD (by decide) (by decide) (by decide) hg od;show T W _ (gS (ah s) (bs []) _);refine KN G (n:=600) (s:=s) (l:=[]) od iE LA (by decide) (by decide) (by decide) λ_ _=>?_;have e0:Cg 600 nZ (Ct 600) []=(Ct 600,nZ,qq 4 [] [] []):=rfl;rw[e0];apply wc;apply uM;apply wc;rw[we,aw rfl];unfold il.j1;apply vN;apply dJ ⟨rfl,rfl,trivial⟩;show T W _ (ln (fU qT s0) _);apply QX;apply wc;have hlen:(dN qT).length<=924:=Ck (by decide) (by decide);refine KN G (n:=600) (s:=s) od iE LA (by decide) (by decide) (by omega) λ_ im=>?_;rcases wh (l:=dN qT) (KI.Jw) (by decide) im od (by omega) with⟨c1,_⟩|⟨_,c2,_⟩|⟨c1,c2,S1,c3,c4,c5⟩|⟨c1,c2,S1,c3,c4,c5,c6,c7,c8⟩
 ·have:vM (dN qT)=true:=by unfold vM;rw[Pq.1,Pq.2];rfl
  rw[this] at c1;cases c1
 ·cases c2
 ·have:=(acI (q:=qT) (m:=nZ) VO (by decide) (by decide) (by decide) im (by decide)).2 (by decide);rw[Pq.2] at c3;rw[c3] at this;cases this
 ·rw[c4,c7,Pq.2];have e2:bn nZ qT=(0,[],nZ.time 5):=rfl;rw[e2];apply wc;show T W _ (br (pP (bs (qq 0 [] [] [])) (bs [0,0,0,0])) _ _);rw[we,aw (by rfl)];apply vN;refine E3 (n:=600) (s:=s) λp=>?_;apply yj;apply B2 (p:=p);apply mg;exact T.drop (T.drop h)
end
def IG(x:TS):(wZ x).length=6:=rfl
def Ve(l:List TS):Prop:=l.length<=maxLen/\∀x∈l,x.b.length<=140737488355328
section
variable {W:World} {L R M:LH} {K:VK} {X:WK} {w:Nat} {x:WX} {f:WX->LH} {m:aA} {q:jY} {sb:OA} {sc:Nat} {l:List TS}
def Jx(hr:np W [] wZ 6 sb l)(AV:Ve l)
 (h:∀b:Bool,(b=false->l.length<=60/\∀x∈l,x.b.length<=16384)->T W L (K (.b b))):T W L (kS sb l.length sc K):=by
 obtain⟨hl,AV⟩:=AV;unfold maxLen at hl;unfold kS;intro w jo;refine⟨λvv w=>∃(i:Nat)(n:Int),i<=l.length/\(l.length<=60->n=(((l.take i).map λx=>x.b.length).sum:Nat))/\vv=[.b false,.i n,.l sb l.length sc,.i (l.length:Int),.i (i:Int)]/\St W w L,
  mq 4 l.length,⟨0,0,aE _,(λ_=>rfl),rfl,jo⟩,?_⟩
 rintro b1 n1 jJ iX jV n2 n3 w2 ⟨i,nn,hi,aa3,e,gI⟩;cases e
 refine T.at ?_ gI;have hbound:∀j,j<=l.length->l.length<=60->((l.take j).map λx=>x.b.length).sum<=j* 140737488355328:=λj=>by
  induction j with
  |zero=>intro _ _;simp
  |succ j ih=>
   intro hj XQ;have:=ih (by omega) XQ;have gx:=aj (show j<l.length by omega);have hx:=AV _ (cb (show j<l.length by omega));rw[ba,gx,cU,List.sum_append];simp only[Option.toList_some,dA,uk,List.sum_cons,List.sum_nil];omega
 apply fZ<;>intro g1
 ·have cj:i<l.length:=by omega
  have e5:=m9 i;have gx:=aj cj;have hx:=AV _ (cb cj);have rB:l.take (i+1)=l.take i++[l[i]]:=by rw[ba,gx];rfl
  generalize l[i]=x at gx hx rB;refine iq hr ⟨by omega,by omega⟩ rfl λa ha=>?_;rw[ak];apply kd hr ha gx (IG x);apply ws;intros;rw[e5];refine T.drop λw3 h3=>⟨⟨i+1,_,cj,λXQ=>?_,rfl,h3⟩,dn (by omega)⟩;have hb:=hbound i (by omega) XQ;rw[aa3 XQ,rB,cU,List.sum_append,cf];simp only[dA,uk,List.sum_cons,List.sum_nil];rw[aX (by omega)];omega
 ·have iO:i=l.length:=by omega
  subst iO;rw[aV] at aa3;apply fZ<;>intro g2
  ·exact h true (λhh=>by cases hh)
  ·have XQ:l.length<=60:=by omega
   have hs:=aa3 XQ;refine h _ (λhh=>⟨XQ,λx hx=>?_⟩);have hh:=bq hh;have:x.b.length<=(l.map λx=>x.b.length).sum:=O' (List.mem_map_of_mem hx);omega
def aaW(G:qi W){P:Nat->VS->aA->aA->Prop}{B:LI->LM->Bool->OA->OA->Nat->Nat->Int->Int->World->WK}{E:Bool->OA->OA->Nat->Nat->Int->Int->WK}{S0:VS}
 (hl:l.length<=maxLen)(h0:KI 600 S0 nZ nZ 0)(hp0:P 0 S0 nZ nZ)
 (gA:∀i x,l[i]?=some x->∀S m mf,KI 600 S m mf (3* i)->Md.bS m->Md.bS mf->P i S m mf->∀I μ w2,
  (∀S' m' mf',KI 600 S' m' mf' (3* i+3)->Md.bS m'->Md.bS mf'->P (i+1) S' m' mf'->T W (wd w ⟨S',m',m',mf'⟩::L) (ct I μ [.b false,.p (ah w),.l sb l.length sc,.i (l.length:Int),.i (aa.wrap ((i:Int)+1))] [.b false,.p (ah w),.l sb l.length sc,.i (l.length:Int),.i (i:Int)] w2))->
  T W (wd w ⟨S,m,m,mf⟩::L) (B I μ false (ah w) sb l.length sc (l.length:Int) (i:Int) w2))
 (abj:∀S m mf,KI 600 S m mf (3* l.length)->Md.bS m->Md.bS mf->P l.length S m mf->T W (wd w ⟨S,m,m,mf⟩::L) (E false (ah w) sb l.length sc (l.length:Int) (l.length:Int))):
 T W (wd w ⟨S0,nZ,nZ,nZ⟩::L) (lp [.b false,.p (ah w),.l sb l.length sc,.i (l.length:Int),.i 0] λI1 μ1=>∀b3 p2 jJ iX jV n1 n2 w2,I1 [.b b3,.p p2,.l jJ iX jV,.i n1,.i n2] w2->(br (decide (n2<n1)) (B I1 μ1 b3 p2 jJ iX jV n1 n2 w2) (E b3 p2 jJ iX jV n1 n2)) w2):=by
 unfold maxLen at hl;obtain⟨I1,hI⟩:∃I1:LI,I1=λvv w'=>∃(i:Nat)(S:VS)(m mf:aA),i<=l.length/\KI 600 S m mf (3* i)/\Md.bS m/\Md.bS mf/\P i S m mf/\vv=[.b false,.p (ah w),.l sb l.length sc,.i (l.length:Int),.i (i:Int)]/\St W w' (wd w ⟨S,m,m,mf⟩::L):=⟨_,rfl⟩;obtain⟨μ1,TY⟩:∃μ1:LM,μ1=mq 4 l.length:=⟨_,rfl⟩;intro w' jo;refine⟨I1,μ1,by rw[hI];exact⟨0,S0,nZ,nZ,aE _,h0,od,od,hp0,rfl,jo⟩,?_⟩;intro b3 p2 jJ iX jV n1 n2 w2 hI2;rw[hI] at hI2;obtain⟨i,S,m,mf,hi,hk,hg,MV,hp,e,gI⟩:=hI2;cases e
 refine T.at ?_ gI;apply fZ<;>intro g1
 ·have cj:i<l.length:=by omega
  have e5:=m9 i;refine gA i _ (aj cj) S m mf hk hg MV hp I1 μ1 w2 λS' m' mf' a1 a2 a3 a4=>?_;rw[e5];refine λw5 h5=>⟨?_,?_⟩
  ·rw[hI];exact⟨i+1,S',m',mf',cj,a1,a2,a3,a4,rfl,h5⟩
  ·rw[TY];show l.length-((i+1:Nat):Int).toNat<l.length-(i:Int).toNat;omega
 ·have iO:i=l.length:=by omega
  subst iO;exact abj S m mf hk hg MV hp
def NN(hr:np W [] wZ 6 sb l)(hl:l.length<=maxLen){i:Nat}{x:TS}(gx:l[i]?=some x){F:Nat->WK}(h:∀r,T W (Sep.pt r (wZ x)::L) (F r)):
 T W L (iY sb l.length (i:Int) 6 λa=>aJ a 6 λcs=>mk Et λr=>bD 6 (ad r 0) cs (F r)):=by
 have cj:=(av.1 gx).1;refine iq hr ⟨by omega,by omega⟩ rfl λa ha=>?_;rw[ak];apply kd hr ha gx (IG x);refine tN λr=>?_;apply dJ (IG x);exact Y0 (h r)
end
section
variable {W:World} {L R M rest E:LH} {K:VK} {X:WK} {w:Nat} {x:WX} {f:WX->LH} {m:aA} {q:jY} {z:WZ}
def YY(h:∀z E,Fl z.p x.m z.pf x.mf [] E->RM x.m->RM x.mf->T W (A1 w z x (rest++E)) X):T W (wd w x::rest) X:=
 T.ex λy=>T.and λ⟨h1,h2,h3⟩=>T.sps (M:=A1 w y.1 x y.2) (T.perm (h y.1 y.2 h1 h2 h3) ((bt (l₁:=y.2) (l₂:=rest)).append_left (A1 w y.1 x [])))
def YZ(hf:Fl z.p x.m z.pf x.mf [] E)(k1:RM x.m)(k2:RM x.mf)(h:T W (wd w x::rest) X):T W (A1 w z x (rest++E)) X:=
 T.perm (T.EK (M:=A1 w z x E) (T.TX (p:=Fl z.p x.m z.pf x.mf [] E/\RM x.m/\RM x.mf) ⟨hf,k1,k2⟩ (T.Xr (f:=λy:WZ×LH=>DQ (Fl y.1.p x.m y.1.pf x.mf [] y.2/\RM x.m/\RM x.mf) (va (A1 w y.1 x y.2))) (z,E) h))) ((bt (l₁:=rest) (l₂:=E)).append_left (A1 w z x []))
end
end Go.Up
namespace Go.Prog.N
abbrev lh:Nat:=72
end Go.Prog.N
namespace Go.Prog
open Go.Den
def lh(p1:OA)(K:VK):WK:=
aL p1 1 (xI .i64 λn1=>
K (.i n1))
def lh.u:WP|[.pointer p1],K=>lh p1 K|_,_=>no
def nE(p1:OA)(v1:Value)(K:VK):WK:=
aL p1 1 (xI .i64 λn1=>
(lp [.l none 0 0,.l none 0 0,.i n1,.i 0] λI1 μ1=>
∀yn ya Ah jJ iX jV n2 n3 w2,I1 [.l yn ya Ah,.l jJ iX jV,.i n2,.i n3] w2->(
br (decide (n3<n2)) (
cF p1 (xB λb1=>
br b1 (
K (.l jJ iX jV)) (
wN [(N.aL,aL.u),(N.cF,cF.u),(N.lh,lh.u)] v1 [.p p1] (xI .i64 λn4=>
cu (1=1/\True) (mk [.i n4] λr1=>
iN 1 8 [.i 0] jJ iX jV (ah r1) 1 λsr oD sq=>
(ct I1 μ1 [.l yn ya Ah,.l sr oD sq,.i n2,.i (aa.wrap (n3+1))] [.l yn ya Ah,.l jJ iX jV,.i n2,.i n3] w2)))))) (
K (.l jJ iX jV))) w2))
def iQ(s1:BA)(K:VK):WK:=
mk Ab λr1=>
oB s1 (xP λp1=>
aL p1 1 (xI .i64 λn1=>
nE p1 (.func (.func N.lh) ⟨[]⟩ ⟨[]⟩) (xL λyn ya Ah=>
kK p1 (.func (.func N.nR) ⟨[]⟩ ⟨[]⟩) (xL λjJ iX jV=>
jZ p1 (.func (.func N.mP) ⟨[]⟩ ⟨[]⟩) (xL λsr oD sq=>
cu (1=1/\(1=1/\(1=1/\(1=1/\True)))) (
mk Ab λr2=>
cu (4=4) (jU (ad r2 0) [.i n1,.l yn ya Ah,.l jJ iX jV,.l sr oD sq] (
ky p1 (xB λb1=>
br (!b1) (
cu True (
cu (4=4) (jU (ad r1 0) Ab (
aJ (ad r1 0) 4 λV6=>
K (.tuple ⟨[.agg ⟨V6⟩,.i 4]⟩))))) (
aJ (ad r2 0) 4 λJM=>
pB JM (xB λb2=>
br (!b2) (
cu True (
cu (4=4) (jU (ad r1 0) Ab (
aJ (ad r1 0) 4 λJL=>
K (.tuple ⟨[.agg ⟨JL⟩,.i 4]⟩))))) (
aJ (ad r2 0) 4 λJK=>
bD 4 (ad r1 0) JK (
aJ (ad r1 0) 4 λL8=>
K (.tuple ⟨[.agg ⟨L8⟩,.i 0]⟩))))))))))))))
def gX(yn:OA)(ya Ah:Nat)(K:VK):WK:=
(lp [.i 0,.i 0,.l yn ya Ah,.i (ya:Int),.i 0] λI1 μ1=>
∀n1 n2 jJ iX jV n3 n4 w2,I1 [.i n1,.i n2,.l jJ iX jV,.i n3,.i n4] w2->(
br (decide (n4<n3)) (
iY jJ iX n4 1 λa1=>
lI a1 λn5=>
br (n5==0) (
(ct I1 μ1 [.i n1,.i (aa.wrap (n2+1)),.l jJ iX jV,.i n3,.i (aa.wrap (n4+1))] [.i n1,.i n2,.l jJ iX jV,.i n3,.i n4] w2)) (
(ct I1 μ1 [.i n1,.i n2,.l jJ iX jV,.i n3,.i (aa.wrap (n4+1))] [.i n1,.i n2,.l jJ iX jV,.i n3,.i n4] w2))) (
K (.i n2))) w2)
end Go.Prog
namespace Go.Up
open Go.Sep Go.Den Go.RowKit Go.Prog Go.Md Go.cH
section
variable {W:World} {L R:LH} {K:VK} {X:WK} {r:Nat} {x:RS} {g:RS->LH} {l:List UInt8}
def Xi[i:Lc (rd r) L x g](hl:x.1.length<1099511627776)
 (h:∀b c,T W (own b (many (eJ 1) (jm 1) (jm 1 x).toNat (eJ 1 x)).1.length c 1 ((many (eJ 1) (jm 1) (jm 1 x).toNat (eJ 1 x)).1.flatMap I1)::g (many (eJ 1) (jm 1) (jm 1 x).toNat (eJ 1 x)).2) (K (.l b (many (eJ 1) (jm 1) (jm 1 x).toNat (eJ 1 x)).1.length c))):
 T W L (nE (ah r) (.func (.func N.lh) ⟨[]⟩ ⟨[]⟩) K):=by
 unfold nE;apply sf hl;apply mg;have hn:=i.next;have hb:=Q5 x;obtain⟨n,en⟩:∃n:Nat,jm 1 x=(n:Int):=⟨(jm 1 x).toNat,by omega⟩;rw[en,ak] at h;rw[en];refine iR (e:=1) ?_;intro w jo;refine⟨λvv w=>∃(i:Nat)(bo:OA)(cc:Nat)(done:List Int)(y:RS),i<=n/\done.length<=i/\y.1.length<1099511627776/\many (eJ 1) (jm 1) n (eJ 1 x)=(done++(many (eJ 1) (jm 1) (n-i) y).1,(many (eJ 1) (jm 1) (n-i) y).2)/\
                                                                                                                               vv=[.l none 0 0,.l bo done.length cc,.i (n:Int),.i (i:Int)]/\St W w (own bo done.length cc 1 (done.flatMap I1)::g y),
  mq 3 n,⟨0,none,0,[],eJ 1 x,aE _,aF _,pk hl,by simp,rfl,jo⟩,?_⟩
 rintro yn ya Ah bo iX cc n2 n3 w2 ⟨i,b0,c0,done,y,hi,zF,hy,hm,e,gI⟩;cases e
 refine T.at ?_ gI;have e5:=m9 i
 haveI:=hn y
 apply fZ<;>intro g1
 ·have cj:i<n:=by omega
  obtain⟨k,hk⟩:∃k,n-i=k+1:=⟨n-i-1,by omega⟩;rw[hk] at hm;apply xO (r:=r);apply sA;cases ht:y.2 with
  |true=>
   apply ws;rw[pE,ai ht] at hm;simp only[bO] at hm;have:=h bo cc;rw[hm] at this;exact this
  |false=>
   apply ws;rw[pE,af (by rw[ht];decide)] at hm;show T W _ (lh (ah r) _);unfold lh;apply sf (r:=r) hy;apply ws;intros;refine kP (b:=bo) (g:=I1) (x:=jm 1 y) rfl rfl rfl (by omega) (by omega) (J6 _) λb2 c2=>?_;rw[e5];apply T.drop;refine λw3 h3=>⟨⟨i+1,b2,c2,done++[jm 1 y],(eJ 1) y,cj,by simp;omega,qk (sW 1 y) hy,?_,by simp,by simpa using h3⟩,dn (by omega)⟩;rw[hm,show n-(i+1)=k by omega];simp
 ·have iO:i=n:=by omega
  subst iO;rw[jS] at hm;rw[zj,bO] at hm;have:=h bo cc;rw[hm] at this;exact this
def C7{e:Int}{res:List Int}{al:List bN}{tl:List cx}(hl:l.length<1099511627776)(iE:Bn l=true)(hp:yL l=(e,res,al,tl,([],false)))(l1:res.length<=255)(l2:al.length<=255)(l3:tl.length<=255)
 (h:∀rb rc ab ac tb tc,T W (own tb tl.length tc 16 (tl.flatMap aM)::own ab al.length ac 14 (al.flatMap aO)::own rb res.length rc 1 (res.flatMap I1)::L) (K (.tuple ⟨[.agg ⟨nX e rb res.length rc ab al.length ac tb tl.length tc⟩,.i 0]⟩))):T W L (iQ (bs l) K):=by
 have AB:oE e res al tl=true:=by
  unfold Bn at iE;rw[hp] at iE;exact(dh _ _▸iE).2
 unfold yL at hp;dsimp only at hp;obtain⟨p1,p2⟩:=Prod.mk.inj hp;obtain⟨p2,p3⟩:=Prod.mk.inj p2;obtain⟨p3,p4⟩:=Prod.mk.inj p3;obtain⟨p4,p5⟩:=Prod.mk.inj p4;have hx1:=pk (m:=1) (x:=(l,false)) hl;unfold iQ;refine tN λr1=>?_;refine Ng λp=>?_;apply yj;refine sf hl (mg ?_);rw[p1];have b1:(many (eJ 1) (jm 1) (jm 1 (eJ 1 (l,false))).toNat (eJ 1 (eJ 1 (l,false)))).2.1.length<1099511627776:=qk (At (sW 1) _ _) (pk hx1);refine Xi hx1 λrb rc=>?_;rw[p2];generalize (many (eJ 1) (jm 1) (jm 1 (eJ 1 (l,false))).toNat (eJ 1 (eJ 1 (l,false)))).2=y at p3 p4 p5 b1⊢;apply tZ;have b2:(many DJ DK (jm 1 y).toNat (eJ 1 y)).2.1.length<1099511627776:=qk (At PB _ _) (pk b1);refine PF b1 λab ac=>?_;rw[p3];generalize (many DJ DK (jm 1 y).toNat (eJ 1 y)).2=z at p4 p5 b2⊢;apply tZ;refine PE b2 λtb tc=>?_;rw[p4,p5];apply ws;intros;rename_i r2;apply OJ (r:=p);apply ws;apply eO rfl;apply ws;refine OX (hh:=Has.refl) (VD (λ_=>rfl)) (VD (λ_=>rfl)) (VD (λ_=>rfl)) (by omega) (by omega) (by omega) ?_;rw[AB];apply ws;exact T.sub (h rb rc ab ac tb tc) (by exact pX)
def Ny(e:Int)(res:List Int)(al:List bN)(tl:List cx):Int×List Int×List bN×List cx:=if oE e res al tl=true then(e,res,al,tl) else(3,[],[],[])
def xh{e:Int}{res:List Int}{al:List bN}{tl:List cx}(hA:∀a∈al,yi a)(hT:∀t∈tl,yf t)
 (h:∀rb rc ab ac tb tc,T W (own tb (Ny e res al tl).2.2.2.length tc 16 ((Ny e res al tl).2.2.2.flatMap aM)::own ab (Ny e res al tl).2.2.1.length ac 14 ((Ny e res al tl).2.2.1.flatMap aO)::own rb (Ny e res al tl).2.1.length rc 1 ((Ny e res al tl).2.1.flatMap I1)::L) (K (.tuple ⟨[.agg ⟨nX (Ny e res al tl).1 rb (Ny e res al tl).2.1.length rc ab (Ny e res al tl).2.2.1.length ac tb (Ny e res al tl).2.2.2.length tc⟩,.i 0]⟩))):T W L (iQ (bs (qq e res al tl)) K):=by
 obtain⟨h1,h2⟩:=I0 (e:=e) (res:=res) hA hT;have hlen:=Tp (e:=e) (res:=res) (al:=al) (tl:=tl);unfold Ny at h;by_cases hf:oE e res al tl=true
 ·rw[ai hf] at h h2;obtain⟨_,_,_,_,f5,f6,f7⟩:=uL hf;exact C7 (by omega) h1 h2 (by omega) (by omega) (by omega) h
 ·rw[af hf] at h h2;exact C7 (by omega) h1 h2 (by decide) (by decide) (by decide) h
end
end Go.Up
namespace Go.Up
open Go.Md
def xE{α:Type}{p:α->Bool}{l m:List α}:(l++m).find? p=(l.find? p).or (m.find? p):=List.find?_append
def IC(a:bN)(s:aA):Prop:=tH a=0/\∃y,s.find a.id=some y/\qG a y=10
def IC.again{a:bN}{s:aA}(h:IC a s):s.make a=(10,s):=by
 obtain⟨h1,y,h2,h3⟩:=h;unfold aA.make;rw[af (λhh=>hh h1),h2];dsimp only;rw[h3]
def Re(s:aA)(a:bN)(h:(s.make a).1=0):IC a (s.make a).2:=by
 unfold aA.make at h⊢;by_cases h1:tH a≠0
 ·rw[ai h1] at h;exact aQ h h1
 rw[af h1] at h⊢;cases hf:s.find a.id with
 |some y=>rw[hf] at h;exact aQ h (R7 _ _)
 |none=>
  rw[hf] at h;dsimp only at h⊢;by_cases h2:32<=s.dj.length
  ·rw[ai h2] at h;exact aQ h (by simp)
  rw[af h2];refine⟨by simpa using h1,{a with ay:=s.ay+1,ao:=a.ao/2* 2},?_,?_⟩
  ·show(s.dj++[_]).find? _=_;rw[xE,show s.dj.find? (λx=>x.id=a.id)=none from hf];simp
  ·unfold qG;rw[ai ⟨rfl,rfl,by show a.ao/2%4=a.ao/2* 2/2%4;omega⟩]
def NV(s:aA)(x a:bN)(h:IC a s):IC a (s.make x).2:=by
 obtain⟨h1,y,h2,h3⟩:=h;refine⟨h1,y,?_,h3⟩;unfold aA.make;split
 ·exact h2
 ·split
  ·exact h2
  ·split
   ·exact h2
   ·show(s.dj++[_]).find? _=_;rw[xE,show s.dj.find? (λx=>x.id=a.id)=some y from h2]
    rfl
def asks(s:aA):List (Nat×cx):=s.ax.map λk=>(k.move.id,k.asked)
def IB(t:cx)(s:aA):Prop:=mM t=0/\(asks s).find? (λp=>p.1=t.id)=some (t.id,t)
def FC{s:aA}{id:Nat}:(asks s).find? (λp=>p.1=id)=(s.named id).map λk=>(k.move.id,k.asked):=by
 unfold asks aA.named;rw[List.find?_map]
 rfl
def Dy(t:cx):qf t t=10:=by unfold qf;rw[ai rfl]
def IB.again{t:cx}{s:aA}(h:IB t s):s.lO t=(10,s):=by
 obtain⟨h1,h2⟩:=h;rw[FC] at h2;cases hn:s.named t.id with
 |none=>rw[hn] at h2;cases h2
 |some k=>
  rw[hn] at h2;have hk:k.asked=t:=by have:=bE.inj h2;exact(Prod.mk.inj this).2
  have eB:∀(p:Option cr)(d c:Bool)(many:Nat),jM t.ao->kM t (some k) p d c many=10:=λp d c many he=>by
   unfold kM;rw[af (λhh=>hh h1),af (λhh=>hh he)];dsimp only;rw[hk];exact Dy t
  unfold aA.lO;by_cases he:jM t.ao
  ·rw[ai ⟨h1,he⟩];unfold aA.oT;rw[hn];cases hi:s.name t.pending with
   |none=>dsimp only;rw[eB _ _ _ _ he]
   |some i=>
    dsimp only;cases ux:s.ax[i]? with
    |none=>dsimp only;rw[eB _ _ _ _ he]
    |some k2=>
     dsimp only;rw[eB _ _ _ _ he,ai (by decide)]
  ·rw[af λhh=>he hh.2];unfold aA.move;have eM:∀d c many,iT t (some k) d c many=(10,0):=λd c many=>by
    unfold iT;rw[af (λhh=>hh h1),af he];dsimp only;rw[hk,Dy]
   rw[hn,eM]
   rfl
def Ix(s:aA)(asked t:cx)(f:Int):asks (s.nj asked t f)=asks s++[(t.id,asked)]:=by
 unfold asks;show List.map _ (s.ax++[_])=_;rw[cU];rfl
def RZ{s:aA}{i:Nat}(hi:i<s.ax.length)(f:Int):asks (s.eS i f)=asks s:=by
 unfold asks;rw[qb hi,List.map_set];refine oz λj=>?_;rw[cW];by_cases e:i=j
 ·subst e;rw[ai rfl,ai (by rw[bY];exact hi),dU,aj hi];rfl
 ·rw[af e]
def F6(s:aA)(t:cx):((s.lO t).1=0->mM t=0/\s.named t.id=none/\asks (s.lO t).2=asks s++[(t.id,t)])/\((s.lO t).1≠0->(s.lO t).2=s):=by
 unfold aA.lO;by_cases hc:mM t=0/\jM t.ao
 ·rw[ai hc];unfold aA.oT;cases hi:s.name t.pending with
  |none=>dsimp only;exact⟨λh=>aQ h (xH t _ _ _ _),λ_=>rfl⟩
  |some i=>
   dsimp only;cases ux:s.ax[i]? with
   |none=>dsimp only;exact⟨λh=>aQ h (xH t _ _ _ _),λ_=>rfl⟩
   |some k2=>
    obtain⟨cj,ek⟩:=av.1 ux;dsimp only;by_cases h1:kM t (s.named t.id) (some k2) (s.closed k2.move.bC i) (s.closed k2.move.aU i) s.ax.length≠0
    ·rw[ai h1];exact⟨λh=>aQ h h1,λ_=>rfl⟩
    ·rw[af h1];refine⟨λ_=>⟨hc.1,?_,?_⟩,λh=>aQ rfl h⟩
     ·cases hn:s.named t.id with
      |none=>rfl
      |some k=>
       exfalso;apply h1;rw[hn];unfold kM;rw[af (λhh=>hh hc.1),af (λhh=>hh hc.2)];exact qz _ _
     ·rw[Ix,RZ cj];rfl
 ·rw[af hc];unfold aA.move;dsimp only;by_cases h1:(iT t (s.named t.id) ((s.find t.bC).map s.full) ((s.find t.aU).map s.full) s.ax.length).1≠0
  ·rw[ai h1];exact⟨λh=>aQ h h1,λ_=>rfl⟩
  ·rw[af h1];obtain⟨_,_,_,_,e3,e4,_⟩:=vn (by simpa using h1);exact⟨λ_=>⟨e4,e3,by rw[Ix]⟩,λh=>aQ rfl h⟩
def UE(s:aA)(t:cx)(h:(s.lO t).1=0):IB t (s.lO t).2:=by
 obtain⟨h1,h2,h3⟩:=(F6 s t).1 h;refine⟨h1,?_⟩;rw[h3,xE,FC,h2];simp
def RJ(s:aA)(x t:cx)(h:IB t s):IB t (s.lO x).2:=by
 refine⟨h.1,?_⟩;by_cases hz:(s.lO x).1=0
 ·rw[((F6 s x).1 hz).2.2,xE,h.2];rfl
 ·rw[(F6 s x).2 hz];exact h.2
def JF{m:aA}{q:jY}(Lz:q.op=1\/q.op=2)(AT:∀a∈q.aB,yQ a=false)(cj:∀t∈q.bQ,sY t=false)(hz:∀c∈(bn m q).2.1,c=0)(he:kz q=true):
 (bn (bn m q).2.2 q).2.2=(bn m q).2.2/\(bn (bn m q).2.2 q).2.1=(bn m q).2.1.map λ_=>10:=by
 have jW: ¬kz q=false:=by rw[he];decide
 rcases Lz with h|h
 ·have e:∀s:aA,bn s q=(0,eW aA.make yQ q.aB.length s q.aB):=λs=>by unfold bn;rw[af jW,ai h]
  rw[e m] at hz⊢;dsimp only at hz⊢;obtain⟨i1,-⟩:=Al (P:=IC) Re NV _ m q.aB (aF _) AT hz;rw[e];dsimp only;rw[Am _ _ (aF _) AT λx hx=>by rw[(i1 x hx).again]];refine⟨rfl,?_⟩;have hl:(eW aA.make yQ q.aB.length m q.aB).1.length=q.aB.length:=vP _ _ _ (aF _) AT;dsimp only;rw[List.map_const',List.map_const',hl]
 ·have h1: ¬q.op=1:=by omega
  have e:∀s:aA,bn s q=(0,eW aA.lO sY q.bQ.length s q.bQ):=λs=>by unfold bn;rw[af jW,af h1,ai h]
  rw[e m] at hz⊢;dsimp only at hz⊢;obtain⟨i1,-⟩:=Al (P:=IB) UE RJ _ m q.bQ (aF _) cj hz;rw[e];dsimp only;rw[Am _ _ (aF _) cj λx hx=>by rw[(i1 x hx).again]];refine⟨rfl,?_⟩;have hl:(eW aA.lO sY q.bQ.length m q.bQ).1.length=q.bQ.length:=vP _ _ _ (aF _) cj;dsimp only;rw[List.map_const',List.map_const',hl]
end Go.Up
namespace Go.Up
open Go.Sep Go.Den Go.RowKit Go.Prog Go.Md Go.cH
section
variable {W:World} {L R:LH} {K:VK} {X:WK}
def Qg{b:OA}{c:Nat}{l:List Int}[hh:Has R L](hr:np W R I1 1 b l)(hl:l.length<=100000)(h:T W L (K (.i (fO l:Int)))):T W L (gX b l.length c K):=by
 unfold gX;intro w jo;refine⟨λvv w=>∃(i:Nat),i<=l.length/\vv=[.i 0,.i (fO (l.take i):Int),.l b l.length c,.i (l.length:Int),.i (i:Int)]/\St W w L,
  λvs _=>match vs with|[_,_,_,_,.int _ d]=>l.length-d.toNat|_=>0,⟨0,aE _,rfl,jo⟩,?_⟩
 rintro n1 n2 jJ iX jV n3 n4 w2 ⟨i,hi,e,gI⟩;cases e
 refine T.at ?_ gI;have e5:=m9 i;apply fZ<;>intro g1
 ·have cj:i<l.length:=by omega
  have gx:=aj cj;have hz:fO (l.take (i+1))=fO (l.take i)+fO [l[i]]:=by rw[ba,gx,wT];rfl
  have hzl:fO (l.take i)<=i:=by unfold fO;have:=List.countP_le_length (p:=(·==(0:Int))) (l:=l.take i);rw[aC] at this;omega
  generalize l[i]=y at gx hz;refine iq hr ⟨by omega,by omega⟩ rfl λa ha=>?_;rw[ak];refine Ae hr ha gx ?_;refine mg ?_;rw[e5];apply db<;>intro g2
  ·have g2:y=0:=by simpa using g2
   have:fO (l.take (i+1))=fO (l.take i)+1:=by rw[hz,g2];rfl
   rw[m9 (fO (l.take i)) (by omega)];refine λw3 h3=>⟨⟨i+1,cj,by rw[this],h3⟩,by show l.length-((i+1:Nat):Int).toNat<l.length-(i:Int).toNat;omega⟩
  ·have g2:y≠0:=by simpa using g2
   have:fO (l.take (i+1))=fO (l.take i):=by rw[hz];unfold fO;simp[g2]
   refine λw3 h3=>⟨⟨i+1,cj,by rw[this],h3⟩,by show l.length-((i+1:Nat):Int).toNat<l.length-(i:Int).toNat;omega⟩
 ·have iO:i=l.length:=by omega
  subst iO;rw[aV];exact h
def UD{b:OA}{c:Nat}{l:List Int}{f:HP->LH}[ii:vI b l.length c L 1 (l.flatMap I1) f](hl:l.length<=100000)(h:T W L (K (.i (fO l:Int)))):T W L (gX b l.length c K):=Qg (hh:=Has.refl) (VD AO) hl h
def Qz{l:List Int}(h:fO l=l.length):∀c∈l,c=0:=λc hc=>by
 unfold fO at h;have:=List.countP_eq_length.1 h c hc;simpa using this
def wk{e:Int}(he:0<=e/\e<=255)(h:∀rb rc ab ac tb tc,T W (own tb 0 tc 16 []::own ab 0 ac 14 []::own rb 0 rc 1 []::L) (K (.tuple ⟨[.agg ⟨nX e rb 0 rc ab 0 ac tb 0 tc⟩,.i 0]⟩))):T W L (iQ (bs (qq e [] [] [])) K):=by
 have:=xh (W:=W) (L:=L) (K:=K) (e:=e) (res:=[]) (al:=[]) (tl:=[]) (λa h=>by cases h) (λa h=>by cases h);unfold Ny at this;rw[ai (Hr he)] at this;exact this h
end
def E'(l:List UInt8):((gV l).1.op≠1->(gV l).1.aB=[])/\((gV l).1.op≠2->(gV l).1.bQ=[]):=by
 unfold gV;dsimp only;split
 ·exact⟨λh=>aQ rfl h,λ_=>rfl⟩
 split
 ·exact⟨λ_=>rfl,λh=>aQ rfl h⟩
 split
 ·exact⟨λ_=>rfl,λ_=>rfl⟩
 split
 ·exact⟨λ_=>rfl,λ_=>rfl⟩
 ·exact⟨λ_=>rfl,λ_=>rfl⟩
def LS{q:jY}(hw:j0 q=true)(hk:(q.op≠1->q.aB=[])/\(q.op≠2->q.bQ=[])):(∀a∈q.aB,0<=a.ao)/\∀t∈q.bQ,0<=t.ao:=by
 have hf:=mE hw;refine⟨λa ha=>?_,λt ht=>?_⟩
 ·by_cases h1:q.op=1
  ·rcases hf with h|h|h|h|h
   ·exact(h.2.2 a ha).2.2.1
   all_goals omega
  ·rw[hk.1 h1] at ha;cases ha
 ·by_cases h1:q.op=2
  ·rcases hf with h|h|h|h|h
   ·omega
   ·exact(h.2.2 t ht).2.2.2.1
   all_goals omega
  ·rw[hk.2 h1] at ht;cases ht
end Go.Up
namespace Go.Sep
open Go.Den Go.RowKit Go.ChangeShapes Go.WideShapes
inductive NK where
 |c(k:CK)
 |sl(ks:List CK)
def acR(P:Program)(f:TypeId->Option (List NK)):Nat->List Field->Option (List NK)
 |_,[]=>some []
 |o,fd::r=>match f fd.type with
  |some a=>if fd.offset=o/\P.cellsOf fd.type=a.length then(acR P f (o+a.length) r).map (a++·) else none
  |none=>none
def nk(P:Program):Nat->TypeId->Option (List NK)
 |0,_=>none
 |n+1,t=>match P.underlying t with
  |some (.int k)=>some [.c (.i k)]
  |some .bool=>some [.c .b]
  |some (.slice e)=>match flat P n e with
   |some ks=>if P.cellsOf e=ks.length/\0<P.bytesOf e then some [.sl ks] else none
   |none=>none
  |some (.struct fs)=>acR P (nk P n) 0 fs.toList
  |_=>none
section
variable {H:Type} {enc:TypeId×Value->H} {P:Program} {w:World} {base:Nat} {spare:Nat->Bool} {held:Bool}
end
end Go.Sep
namespace Go.Up
open Go.Sep Go.Den Go.RowKit Go.Prog Go.Md Go.cH
section
variable {xs:LV} {o j:Nat}
end
def acH{α:Type}{W:World}{b:OA}{n e:Nat}{xs:LV}{g:α->LV}{l:List α}(hr:Ro W b n e xs)(hn:l.length=n)(hg:∀a,(g a).length=e)
 (hx:∀i a,l[i]?=some a->∀j,j<e->xs[i* e+j]?=(g a)[j]?):np W [] g e b l:=λw hw i x hi=>by
 have cj:=(av.1 hi).1;cases b with
 |none=>have:=hr.2.1 rfl;omega
 |some a=>
  refine⟨a,rfl,λj v hv=>?_⟩;have hj:j<e:=by rw[<-hg x];exact(av.1 hv).1
  rw[add_add];exact hr.cell rfl hw (by rw[hx i x hi j hj];exact hv)
def UF{α:Type}{W:World}{b:OA}{n e:Nat}{xs:LV}{g:α->LV}{P:α->Prop}(hg:∀x,(g x).length=e)(hr:Ro W b n e xs)(he:∀i,i<n->∃x,P x/\∀j,j<e->xs[i* e+j]?=(g x)[j]?):∃l:List α,l.length=n/\np W [] g e b l/\∀x∈l,P x:=by
 have key:∀m,m<=n->∃l:List α,l.length=m/\(∀i x,l[i]?=some x->∀j,j<e->xs[i* e+j]?=(g x)[j]?)/\∀x∈l,P x:=by
  intro m
  induction m with
  |zero=>exact λ_=>⟨[],rfl,λi x h=>by simp at h,by simp⟩
  |succ m ih=>
   intro hm;obtain⟨l,h1,h2,h3⟩:=ih (by omega);obtain⟨x,hx,hc⟩:=he m (by omega);refine⟨l++[x],by simp[h1],λi y hi=>?_,λy hy=>?_⟩
   ·by_cases cj:i<l.length
    ·rw[cO cj] at hi;exact h2 i y hi
    ·rw[iJ (by omega)] at hi;have e:i=m:=by
      have:=(av.1 hi).1;simp at this;omega
     subst e;rw[h1,jS] at hi;cases hi
     exact hc
   ·rcases dY.1 hy with h|h
    ·exact h3 y h
    ·simp at h;subst h;exact hx
 obtain⟨l,h1,h2,h3⟩:=key n (aF n);exact⟨l,h1,acH hr h1 hg h2,h3⟩
abbrev tsK:List CK:=[.i .i64,.s,.i .u64,.i .i64,.i .i64,.i .i64]
def tss{W:World}{b:OA}{n:Nat}{xs:LV}(hr:Ro W b n 6 xs)(he:MG tsK n xs)(hm:n<=maxLen):∃l:List TS,n=l.length/\np W [] wZ 6 b l/\Ve l:=by
 have Jn:reachBytes<=140737488355328:=by decide
 obtain⟨l,h1,h2,h3⟩:=UF (g:=wZ) (P:=λx=>x.b.length<=140737488355328) (λ_=>rfl) hr λi hi=>by
  have h:=he i hi;obtain⟨_,q0,n0,rfl,_⟩:=h 0 _ rfl;obtain⟨_,q1,n1,rfl,hs⟩:=h 1 _ rfl;obtain⟨_,q2,n2,rfl,_⟩:=h 2 _ rfl;obtain⟨_,q3,n3,rfl,_⟩:=h 3 _ rfl;obtain⟨_,q4,n4,rfl,_⟩:=h 4 _ rfl;obtain⟨_,q5,n5,rfl,_⟩:=h 5 _ rfl;refine⟨⟨n0,n1.data.toList,n2,n3,n4,n5⟩,zy hs Jn,λj hj=>?_⟩
  match j,hj with
  |0,_=>exact q0
  |1,_=>exact q1
  |2,_=>exact q2
  |3,_=>exact q3
  |4,_=>exact q4
  |5,_=>exact q5
  |j+6,h=>exact aQ h (by omega)
 exact⟨l,h1.symm,h2,by rw[h1];exact hm,h3⟩
end Go.Up
namespace Go.Den
inductive Kd
 |i(k:IntKind)|b|s|p|q|l|g|v
abbrev Fu:List Kd->Type
 |[]=>VK->WK
 | .i _::r=>Int->Fu r
 | .b::r=>Bool->Fu r
 | .s::r=>BA->Fu r
 | .p::r=>OA->Fu r
 | .q::r=>Addr->Fu r
 | .l::r=>OA->Nat->Nat->Fu r
 | .g::r=>LV->Fu r
 | .v::r=>Value->Fu r
abbrev Kd.n:Kd:=.i .i64
abbrev vi:Value:=.i 0
abbrev vu:Value:=.u 0
abbrev vp:Value:=.p none
abbrev vq:Value:=.p (some ⟨0,0,none⟩)
abbrev vl:Value:=.l none 0 0
abbrev vb:Value:=.bool false
def U:(k:List Kd)->Fu k->WP
 |[],F=>λa K=>match a with|[]=>F K|_=>no
 | .i t::r,F=>λa K=>match a with| .int t' n::a=>if t'=t then U r (F n) a K else no|_=>no
 | .b::r,F=>λa K=>match a with| .bool x::a=>U r (F x) a K|_=>no
 | .s::r,F=>λa K=>match a with| .string x::a=>U r (F x) a K|_=>no
 | .p::r,F=>λa K=>match a with| .pointer x::a=>U r (F x) a K|_=>no
 | .q::r,F=>λa K=>match a with| .pointer (some x)::a=>U r (F x) a K|_=>no
 | .l::r,F=>λa K=>match a with| .slice x n c::a=>U r (F x n c) a K|_=>no
 | .g::r,F=>λa K=>match a with| .agg ⟨x⟩::a=>U r (F x) a K|_=>no
 | .v::r,F=>λa K=>match a with|x::a=>U r (F x) a K|_=>no
def cur:(k:List Kd)->WP->Fu k
 |[],B=>B []
 | .i t::r,B=>λn=>cur r λa=>B (.int t n::a)
 | .b::r,B=>λx=>cur r λa=>B (.bool x::a)
 | .s::r,B=>λx=>cur r λa=>B (.string x::a)
 | .p::r,B=>λx=>cur r λa=>B (.p x::a)
 | .q::r,B=>λx=>cur r λa=>B (.p (some x)::a)
 | .l::r,B=>λx n c=>cur r λa=>B (.l x n c::a)
 | .g::r,B=>λx=>cur r λa=>B (.agg ⟨x⟩::a)
 | .v::r,B=>λx=>cur r λa=>B (x::a)
def BY:∀(k:List Kd)(B:WP) {a:LV} {K:VK} {w:World},U k (cur k B) a K w->a.length=k.length/\B a K w
 |[],B,a,K,w,h=>by
  unfold U at h;split at h
  ·exact⟨rfl,h⟩
  ·exact h.elim
 | .i t::r,B,a,K,w,h=>by
   unfold U at h;split at h
   ·split at h
    ·rename_i e;subst e;obtain⟨h1,h2⟩:=BY r _ h;exact⟨by rw[aW,h1];rfl,h2⟩
    ·exact h.elim
   ·exact h.elim
 | .b::r,B,a,K,w,h=>by
   unfold U at h;split at h
   ·obtain⟨h1,h2⟩:=BY r _ h;exact⟨by rw[aW,h1];rfl,h2⟩
   ·exact h.elim
 | .s::r,B,a,K,w,h=>by
   unfold U at h;split at h
   ·obtain⟨h1,h2⟩:=BY r _ h;exact⟨by rw[aW,h1];rfl,h2⟩
   ·exact h.elim
 | .p::r,B,a,K,w,h=>by
   unfold U at h;split at h
   ·obtain⟨h1,h2⟩:=BY r _ h;exact⟨by rw[aW,h1];rfl,h2⟩
   ·exact h.elim
 | .q::r,B,a,K,w,h=>by
   unfold U at h;split at h
   ·obtain⟨h1,h2⟩:=BY r _ h;exact⟨by rw[aW,h1];rfl,h2⟩
   ·exact h.elim
 | .l::r,B,a,K,w,h=>by
   unfold U at h;split at h
   ·obtain⟨h1,h2⟩:=BY r _ h;exact⟨by rw[aW,h1];rfl,h2⟩
   ·exact h.elim
 | .g::r,B,a,K,w,h=>by
   unfold U at h;split at h
   ·obtain⟨h1,h2⟩:=BY r _ h;exact⟨by rw[aW,h1];rfl,h2⟩
   ·exact h.elim
 | .v::r,B,a,K,w,h=>by
   unfold U at h;split at h
   ·obtain⟨h1,h2⟩:=BY r _ h;exact⟨by rw[aW,h1];rfl,h2⟩
   ·exact h.elim
def CT(FF:Fence):Prop:=FF=Fence.wide\/∃l,FF=Fence.wide.inRound l
def CT.fn{FF:Fence}(h:CT FF)(f:FuncId):FF.fn f:=by rcases h with rfl|⟨l,rfl⟩<;>exact trivial
def CT.depth{FF:Fence}(h:CT FF):FF.depth=none:=by rcases h with rfl|⟨l,rfl⟩<;>rfl
def CT.calls{FF:Fence}(h:CT FF){n:Nat}{P:Program}{f:FuncId}{args:Array Value}{w:World}{R:Ending->World->Prop}(hc:Calls P f args w R):CallsIn FF n P f args w R:=by
 rcases h with rfl|⟨l,rfl⟩
 ·exact callsIn_wide.2 hc
 ·exact CallsIn.inRound l (callsIn_wide.2 hc)
def S3(F:Fn)(ds:List Deferred)(e:Env)(a:Act):Prop:=S2 F e {a with defers:=[]}/\a.defers=ds
def QI(F:Fn)(ds:List Deferred)(Q:Exit->Env->WK):Exit->Act->World->Prop:=λex a w=>(∃e,S3 F ds e a/\Q ex e w)/\∀c,ex≠.panic c
def S3.get{F:Fn}{ds:List Deferred}{e:Env}{a:Act}(h:S3 F ds e a){t:Nat}{v:Value}(hl:lk e t=some v):a.tmps[t]?=some v:=h.1.1.get t v hl
def S3.eval{F:Fn}{ds:List Deferred}{e:Env}{a:Act}(h:S3 F ds e a){x:Operand}{v:Value}(hx:ev e x=some v):a.eval x=v:=h.1.1.eval hx
def S3.nil{F:Fn}{ds:List Deferred}{e:Env}{a:Act}(h:S3 F ds e a):S3 F ds [] a:=⟨⟨⟨h.1.1.size,rfl,λt v hl=>by simp[lk] at hl⟩,h.1.2⟩,h.2⟩
def S3.cons{F:Fn}{ds:List Deferred}{e:Env}{a:Act}{t:Nat}{v:Value}(hv:a.tmps[t]?=some v)(h:S3 F ds e a):S3 F ds ((t,v)::e) a:=
 ⟨⟨⟨h.1.1.size,rfl,λs u hl=>by
   rw[xo] at hl
   split at hl
   ·rename_i N0;subst N0;cases hl;exact hv
   ·exact h.1.1.get s u hl⟩,h.1.2⟩,h.2⟩
def S3.start{F:Fn}{a:Act}(hC:F.C=[])(hn:a.tmps.size=F.n):S3 F a.defers [] a:=
 ⟨⟨⟨hn,rfl,λt v hl=>by simp[lk] at hl⟩,⟨hn,rfl,λt v hl=>by rw[hC] at hl;simp[lk] at hl⟩⟩,rfl⟩
def Ty{F:Fn}{ds:List Deferred}{w:World}{e:Env}{a:Act}{d:Option Tmp}{v:Value}{K:Env->WK}(hs:S3 F ds e a)(h:pt F.n F.C e d v K w):∃e',S3 F ds e' (a.put d v)/\K e' w:=by
 obtain⟨e',h1,h2⟩:=uN (a:={a with defers:=[]}) hs.1 h;refine⟨e',⟨?_,?_⟩,h2⟩
 ·cases d<;>exact h1
 ·cases d<;>exact hs.2
def S3.put{F:Fn}{ds:List Deferred}{e:Env}{a:Act}{t:Tmp}{v:Value}(w:World)(hs:S3 F ds e a)(ht:(Nat.blt t F.n&&cover F.C t)=true):S3 F ds ((t,v)::e) (a.put (some t) v):=by
 obtain⟨e',h1,h2⟩:=Ty (d:=some t) (v:=v) (K:=λe' _=>e'=(t,v)::e) (w:=w) hs (by simp only[pt,ht,cond_true]);subst h2;exact h1
def Un{F:Fn}{ds:List Deferred}{w:World}{e:Env}{a:Act}{ops:Array Oper}{o:Oper}{run skip:Env->WK}{X:Prop}(hs:S3 F ds e a)(h:guarded ops o e run skip w)
 (hr:∀e',S3 F ds e' a->Region.wanted o (yielded ops a.tmps)=true->run e' w->X)
 (hk:∀e',S3 F ds e' a->Region.wanted o (yielded ops a.tmps)=false->skip e' w->X):X:=
 s8 (a:={a with defers:=[]}) hs.1 h (λe' h1=>hr e' ⟨h1,hs.2⟩) (λe' h1=>hk e' ⟨h1,hs.2⟩)
def S3.zip{F:Fn}{ds:List Deferred}{e:Env}{a:Act}(hs:S3 F ds e a){l:List (Nat×Value)}{vs:LV}(h:wg e l=some vs):S3 F ds (AZ l vs F.C) a:=⟨S2.zip (a:={a with defers:=[]}) hs.1 h,hs.2⟩
section
variable {F:Fn} {ds:List Deferred} {P:Program} {w:World} {e:Env} {a:Act} {ops:Array Oper} {FF:Fence} {n:Nat}
def To.Xc{o:Oper}{K:VK}(h:To P (execOp a.eval o) w K):∀c,o.op≠.defer c:=by
 intro c hc;have key:∀r,(execOp a.eval o).run P w=.ok r w->True:=λ_ _=>trivial;have hx:execOp a.eval o=(do pure (.defer (<-resolve a.eval c o.type))):=by simp only[execOp,hc]
 rw[hx] at h;unfold To at h;simp only[Sem.run_bind] at h;cases hr:(resolve a.eval c o.type).run P w with
 |ok d w1=>simp[hr,Result.andThen,Sem.run_pure] at h
 |halt x w1=>simp[hr,Result.andThen] at h
def M6(hW:CT FF){o:Oper}{K:VK}{next:Act->World->Prop}{Q:Exit->Act->World->Prop}(h:To P (execOp a.eval o) w K)(hk:∀v w',K v w'->next (a.put o.dst v) w'):o.wpIn FF n P a w next Q:=by
 refine⟨λf _=>hW.fn f,?_⟩;rw[Oper.semAt_eq _ _ _ h.Xc];rcases h with⟨v,w',hr,h⟩|⟨w',hr,h⟩|⟨g,args,w',hr,h⟩
 ·rw[hr];exact hk _ _ h
 ·rw[hr];exact hk _ _ h
 ·rw[hr];refine⟨λhd=>(by rw[hW.depth] at hd;cases hd),?_⟩;refine CallsIn.mono (hW.calls h) λe w'' ⟨v,he,hv⟩=>?_;subst he;exact hk _ _ hv
def Cf(hW:CT FF)(hF:Ok F){Q:Exit->Act->World->Prop}{K:Env->WK}{tail:List Nat}(hK:∀e a w,S3 F ds e a->K e w->wpOpsIn FF n F.P ops Q tail a w):
 ∀(l:List Nat)(os:List Oper)(e:Env)(a:Act)(w:World),l.length=os.length->(∀k i:Nat,l[k]?=some i->ops[i]?=os[k]?)->S3 F ds e a->yG F ops os K e w->wpOpsIn FF n F.P ops Q (l++tail) a w
 |[],[],e,a,w,_,_,hs,h=>hK e a w hs h
 |[],_::_,_,_,_,hl,_,_,_=>by simp at hl
 |_::_,[],_,_,_,hl,_,_,_=>by simp at hl
 |i::l,o::os,e,a,w,hl,hi,hs,h=>by
  have hio:ops[i]?=some o:=hi 0 i rfl;have rest:=λe a w=>Cf hW hF hK l os e a w (by simpa using hl) (λ(k j:Nat)(hk:l[k]?=some j)=>hi (k+1) j (by simpa using hk));rw[lH,wpOpsIn_cons];unfold wpOpIn;simp only[hio];refine Un (F:=F) hs (zO h) (λe' fC hw hr=>?_) (λe' fC hw hr=>?_)
  ·rw[ai hw];refine M6 (a:=a) hW (Fx (a:={a with defers:=[]}) hF.eqs hF.Hj fC.1.1 hr) λv w' hv=>?_;obtain⟨UA,yo,hk⟩:=Ty fC hv;exact rest _ _ _ yo hk
  ·rw[af (by rw[hw];exact cJ)];refine⟨λf _=>hW.fn f,?_⟩;obtain⟨UA,yo,hk⟩:=Ty fC hr;exact rest _ _ _ yo hk
def Ht(hW:CT FF)(hF:Ok F){id:Nat}{Q:Exit->Act->World->Prop}{K:Env->WK}(k:Nat)(hk:k<=ops.size)(hs:S3 F ds e a)
 (h:yG F ops (ops.toList.take k) K e w)(hK:∀e a w,S3 F ds e a->K e w->wpOpsIn FF n F.P ops Q (List.range' k (ops.size-k)) a w):(Code.region id ops false).wpIn FF n F.P Q a w:=by
 apply wpIn_region;have e1:pK ops.size=List.range' 0 k++List.range' k (ops.size-k):=by
  rw[List.range_eq_range'];have:=List.range'_append_1 (s:=0) (m:=k) (n:=ops.size-k);rw[aD] at this;rw[this];congr 1;omega
 rw[e1];refine Cf hW hF hK _ (ops.toList.take k) e a w (by simp;omega) (λj i hj=>?_) hs h;have MR:j<k:=by have:=(av.1 hj).1;simpa using this
 rw[List.getElem?_range'] at hj
 ·cases hj
  rw[sj,ai MR];simp
 ·exact MR
def Wh(hW:CT FF)(hF:Ok F){Q:Exit->Act->World->Prop}{K:Env->WK}(k:Nat)(hk:k<=ops.size)(hs:S3 F ds e a)
 (h:yG F ops (ops.toList.drop k) K e w)(hK:∀e a w,S3 F ds e a->K e w->Q .normal a w):wpOpsIn FF n F.P ops Q (List.range' k (ops.size-k)) a w:=by
 have:=Cf (FF:=FF) (n:=n) (Q:=Q) (tail:=[]) hW hF (λe a w hs hk=>hK e a w hs hk) (List.range' k (ops.size-k)) (ops.toList.drop k) e a w (by simp) (λj i hj=>?_) hs h
 ·simpa using this
 ·have MR:j<ops.size-k:=by have:=(av.1 hj).1;simpa using this
  rw[List.getElem?_range'] at hj
  ·cases hj
   rw[lC];simp
  ·exact MR
def drawn:Code->Bool
 | .region _ _ d=>d
 | .seq x y=>drawn x||drawn y
 | .cond _ x y=>drawn x||drawn y
 | .block _ c=>drawn c
 | .loop c=>drawn c
 |_=>false
def abJ(hW:CT FF)(hF:Ok F):∀(c:Code)(Q:Exit->Env->WK)(e:Env)(a:Act)(w:World),drawn c=false->S3 F ds e a->den F c Q e w->c.wpIn FF n F.P (QI F ds Q) a w:=by
 intro c
 induction c with
 |skip=>intro Q e a w _ hs h;exact wpIn_skip ⟨⟨e,hs,h⟩,by simp⟩
 |ret=>intro Q e a w _ hs h;exact wpIn_ret ⟨⟨e,hs,h⟩,by simp⟩
 |exit i=>intro Q e a w _ hs h;exact wpIn_exit ⟨⟨e,hs,h⟩,by simp⟩
 |seq x y ihx ihy=>
  intro Q e a w hd hs h;simp only[drawn,Bool.or_eq_false_iff] at hd;refine wpIn_seq (wpIn_mono (ihx _ e a w hd.1 hs h) ?_);rintro ex a' w' ⟨⟨e',fC,hq⟩,hp⟩;cases ex<;>simp only[QK] at hq
  case normal=>exact ihy Q e' a' w' hd.2 fC hq
  all_goals exact⟨⟨e',fC,hq⟩,hp⟩
 |cond x c1 c2 ih1 VH=>
  intro Q e a w hd hs h;simp only[drawn,Bool.or_eq_false_iff] at hd;simp only[den] at h;cases hx:ev e x with
  |none=>simp only[hx,no] at h
  |some v=>
   cases v<;>simp only[hx,no] at h
   rename_i b;cases b with
   |true=>exact wpIn_cond_true (hs.eval hx) (ih1 Q e a w hd.1 hs h)
   |false=>exact wpIn_cond_false (hs.eval hx) (VH Q e a w hd.2 hs h)
 |block i c ih=>
  intro Q e a w hd hs h;refine wpIn_block (wpIn_mono (ih _ e a w hd hs h) ?_);rintro ex a' w' ⟨⟨e',fC,hq⟩,hp⟩;cases ex<;>simp only[Ow] at hq
  case exit j=>
   simp only[Exit.inBlock];cases hb:ix j i with
   |true=>rw[ai (eH hb)];simp only[hb,cond_true] at hq;exact⟨⟨e',fC,hq⟩,by simp⟩
   |false=>
    have jW:j≠i:=λh=>by simp[h] at hb
    rw[af jW];simp only[hb,cond_false] at hq;exact⟨⟨e',fC,hq⟩,by simp⟩
  all_goals exact⟨⟨e',fC,hq⟩,hp⟩
 |loop c ih=>
  intro Q e a w hd hs h;simp only[den] at h;cases hl:Qq F.JR (key c) with
  |none=>simp only[hl,no] at h
  |some l=>
   simp only[hl] at h;cases hv:wg e l with
   |none=>simp only[hv,no] at h
   |some vs=>
    simp only[hv] at h;obtain⟨I,μ,h0,N2⟩:=h;have T2:=(nW hs.1.1 hv).2.1;refine wpIn_loop (λa w=>S3 F ds (AZ l (l.map λp=>a.tmps.getD p.1 undef) F.C) a/\I (l.map λp=>a.tmps.getD p.1 undef) w/\∀f,Gm (l.map (·.2)) f->f (l.map λp=>a.tmps.getD p.1 undef))
     (λa w=>μ (l.map λp=>a.tmps.getD p.1 undef) w) ?_ ?_
    ·rw[<-T2];exact⟨hs.zip hv,h0,(nW hs.1.1 hv).2.2⟩
    ·intro a1 w1 ⟨AS,hI1,fx⟩;have hr:=fx _ N2 w1 hI1;apply wpIn_mono (ih _ _ a1 w1 hd AS hr);rintro ex a' w' ⟨⟨e',fC,hq⟩,hp⟩;cases ex<;>simp only[QK] at hq
     case normal=>
      simp only[TT] at hq;cases Dh:wg e' l with
      |none=>simp only[Dh,no] at hq
      |some GA=>
       simp only[Dh] at hq;have N3:=(nW fC.1.1 Dh).2.1;simp only[Exit.then];rw[<-N3];exact⟨⟨fC.zip Dh,hq.1,(nW fC.1.1 Dh).2.2⟩,hq.2⟩
     all_goals exact⟨⟨e',fC,hq⟩,hp⟩
 |region id ops draw=>
  intro Q e a w hd hs h;simp only[drawn] at hd;subst hd;simp only[den,cond_false] at h;refine Ht hW hF ops.size (aF _) (K:=λe w=>Q .normal e w) hs (by rw[bG (by simp)];exact h) (λe a w hs hk=>?_);rw[jS];exact⟨⟨e,hs,hk⟩,by simp⟩
 |_=>intro Q e a w _ hs h;exact h.elim
def DZ(hW:CT FF)(hF:Ok F){c:Code}{Q:Exit->Act->World->Prop}(hd:drawn c=false)(hs:S3 F ds e a)
 (h:den F c (λex e w=>∀a,S3 F ds e a->Q ex a w) e w):c.wpIn FF n F.P Q a w:=
 wpIn_mono (abJ hW hF c _ e a w hd hs h) (by rintro ex a' w' ⟨⟨e',fC,hq⟩,-⟩;exact hq a' fC)
def Ag(hW:CT FF)(hF:Ok F){x y:Code}{Q:Exit->Act->World->Prop}(hd:drawn x=false)(hs:S3 F ds e a)
 (h:den F x (λex e w=>∀a,S3 F ds e a->Exit.then (y.wpIn FF n F.P Q) Q ex a w) e w):(x.seq y).wpIn FF n F.P Q a w:=
 wpIn_seq (DZ hW hF hd hs h)
end
def FY:Code->Code| .seq x _=>x|c=>c
def yk:Code->Code| .seq _ y=>y|c=>c
def inC:Code->Code| .block _ c=>c| .loop c=>c|c=>c
def ah1:Code->Code| .rangeFunc _ _ a _=>a|c=>c
def ahX:Code->Code| .rangeFunc _ _ _ b=>b|c=>c
def Ft:Code->Array Oper| .region _ ops _=>ops|_=>#[]
end Go.Den
namespace Go.Den
open Go.RowKit Go.Sep
section
variable {FF:Fence} {n:Nat} {P:Program} {a:Act} {w:World} {Q:Exit->Act->World->Prop}
def Cx{J:Nat->Prop}(h:∃k,J k):∃m,J m/\∀k,J k->m<=k:=by
 obtain⟨k,hk⟩:=h
 induction k using Nat.strongRecOn with
 |_ k ih=>
  by_cases hx:∃j,j<k/\J j
  ·obtain⟨j,hj,hJ⟩:=hx;exact ih j hj hJ
  ·refine⟨k,hk,λj hJ=>?_⟩;rcases Nat.lt_or_ge j k with h|h
   ·exact aQ ⟨j,h,hJ⟩ hx
   ·exact h
def Ki{c:Code}(J:Nat->Act->World->Prop)(h0:∃k,J k a w)
 (hr:∀k a w,J k a w->c.wpIn FF n P (Exit.then (λa' w'=>∃j,j<k/\J j a' w') Q) a w):(Code.loop c).wpIn FF n P Q a w:=by
 classical
 let μ:Act->World->Nat:=λa w=>if h:∃k,J k a w then Classical.choose (Cx h) else 0
 have TY:∀{a w}(h:∃k,J k a w),J (μ a w) a w/\∀k,J k a w->μ a w<=k:=λ{a w} h=>by
  have e:μ a w=Classical.choose (Cx h):=dif_pos h;rw[e];exact Classical.choose_spec (Cx h)
 refine wpIn_loop (λa w=>∃k,J k a w) μ h0 λa w h=>?_;refine wpIn_mono (hr _ a w (TY h).1) λex a' w' hq=>?_;cases ex<;>first|exact hq|skip
 obtain⟨j,hj,hJ⟩:=hq;exact⟨⟨j,hJ⟩,qk ((TY ⟨j,hJ⟩).2 j hJ) hj⟩
def GQ{o:Oper}{x:Operand}{xs:Array Operand}{ts:Array TypeId}{l:Nat}(ho:o.op=.call {callee:=.value x,args:=xs,argTypes:=ts})(hx:a.eval x=.func (.yield l) #[] #[]):
 (execOp a.eval o).run P w=(Instr.yield l (xs.map a.eval)).run P w:=by
 simp only[execOp,ho,resolve,Deferred.ofValue,hx,Sem.run_bind,Sem.run_pure,Result.andThen_ok,invoke,Array.empty_append]
def Tq(hW:FF=Fence.wide){g:Operand}{ps:Array Tmp}{assign body:Code}{gf:Nat}{lb:Array Value}(hg:a.eval g=.func (.func gf) #[] lb)
 {fg:Func}(h1:P.funcs[gf]?=some fg)(h2:(fg.name== "runtime.NumGoroutine")=false)(h3:fg.body.isNone=false)
 (h:∀fn,CallsIn FF (n-1) P gf (#[.func (.yield (w.heap.size+1)) #[] #[]]++lb) ((w.alloc (.deferred (some []))).alloc (.loop {state:=.ready,pending:=none,fn,tmps:=a.tmps,params:=ps,assign,body,defers:=w.heap.size}))
  (rangePost FF n P (w.heap.size+1) Q {a with defers:={target:=.collected w.heap.size,args:=#[]}::a.defers})):(Code.rangeFunc g ps assign body).wpIn FF n P Q a w:=by
 subst hW;apply wpIn_rangeFunc;intro fn hfn;obtain⟨W1,hW1⟩:∃W1,(w.alloc (.deferred (some []))).alloc (.loop {state:=.ready,pending:=none,fn:=fn,tmps:=a.tmps,params:=ps,assign:=assign,body:=body,defers:=w.heap.size})=W1:=⟨_,rfl⟩;have h:=h fn;rw[hW1] at h;refine⟨w.heap.size+1,[{target:=.collected w.heap.size,args:=#[]}],W1,{target:=.fn (.func gf) lb,args:=#[.func (.yield (w.heap.size+1)) #[] #[]]},W1,gf,
  #[.func (.yield (w.heap.size+1)) #[] #[]]++lb,W1,?_,?_,?_,?_,?_,?_⟩
 ·rw[<-hW1];exact run_enterLoop_outer _ _ _ _ _
 ·simp only[resolve,hg];simp[go_sem]
 ·intro f' hf';exact trivial
 ·simp only[invoke];exact Bg h1 h2 h3 _
 ·intro hd;cases hd
 ·simpa only[lH,cT] using h
end
end Go.Den
namespace Go.Sep
open Go.Den Go.RowKit
def SE{w:World}{b:Nat}{o:Obj}(hb:b<w.heap.size)(ho:∀c t fz,o≠.cells c t fz):view (w.putObj b o) b=some (.obj o):=by
 unfold view;rw[World.putObj_heap_same hb];cases o<;>first|rfl|exact aQ rfl (ho _ _ _)
def St.acS{W w:World}{L:LH}(h:St W w L)(o:Obj)(ho:∀c t fz,o≠.cells c t fz):St W (w.alloc o) (ob w.heap.size o::L):=by
 apply h.acT o (x:=.obj o);unfold view;rw[World.alloc_heap_new];cases o<;>first|rfl|exact aQ rfl (ho _ _ _)
def St.put{W w:World}{L:LH}{k b:Nat}{o:Obj}(o':Obj)(h:St W w L)(hk:L[k]?=some (ob b o))(ho:∀c t fz,o'≠.cells c t fz):St W (w.putObj b o') (L.set k (ob b o')):=by
 obtain⟨h1,h2⟩:=h.obj hk;have cj:b<w.heap.size:=(Array.getElem?_eq_some_iff.1 h1).1;refine h.YW hk ⟨h.1.os,h.1.tape,h.1.output,by rw[World.putObj_size];exact h.1.size,λj hj=>?_⟩ (SE cj ho) λj hj _=>World.putObj_heap_other hj;rw[World.putObj_heap_other (by omega)];exact h.1.block j hj
end Go.Sep
namespace Go.Proofs.YtibneekkkdnmgaaGreatDoor
open Go.Den Go.Prog Go.RowKit
noncomputable def T82:GH:=[(182,eg.u),(183,tB.u),(184,dW.u)]
noncomputable abbrev J8:Den.Fn:=⟨Tryz.prog,T82,[],20,[],[]⟩
noncomputable def c82:Code:=(Tryz.f134.body).getD .skip
noncomputable def q0:Code:=FY c82
noncomputable def q1:Code:=FY (yk c82)
noncomputable def q2:Code:=FY (yk (yk c82))
noncomputable def q3:Code:=FY (FY (yk (yk (yk c82))))
noncomputable def rf:Code:=inC (yk (FY (yk (yk (yk c82)))))
noncomputable def Qp:Code:=ah1 rf
noncomputable def bd:Code:=ahX rf
noncomputable def q7:Code:=FY (yk (yk (yk (yk c82))))
def abN:Tryz.f134.body=some (.seq q0 (.seq q1 (.seq q2 (.seq (.seq q3 (.block 0 (.rangeFunc (.tmp 11) #[12] Qp bd))) (.seq q7 .ret))))):=by kernel_rfl
def JI:drawn q0=false/\drawn q1=false/\drawn q2=false/\drawn q3=false/\drawn Qp=false/\drawn bd=false/\drawn q7=false:=⟨by kernel_rfl,by kernel_rfl,by kernel_rfl,by kernel_rfl,by kernel_rfl,by kernel_rfl,by kernel_rfl⟩
def n82:Tryz.f134.ntmps=20/\Tryz.f134.results=#[.tmp 4]:=⟨by kernel_rfl,by kernel_rfl⟩
def d0(Q:Exit->Env->WK)(p:OA)(n:Int):den J8 q0 Q [(1,.i n),(0,.pointer p)]=mk [.pointer p] (λr=>Q .normal [(4,.i 0),(2,.pointer (some (ad r 0))),(1,.i n),(0,.pointer p)]):=by kernel_rfl
def d1(Q:Exit->Env->WK)(r:Nat)(n:Int)(e:Env):den J8 q1 Q ((4,.i 0)::(2,.pointer (some (ad r 0)))::(1,.i n)::e)=
 ld (ad r 0) (xP λp=>eg p n (x0 (Q .normal ((9,.tuple ⟨[]⟩)::(8,.i n)::(7,.pointer p)::(4,.i 0)::(2,.pointer (some (ad r 0)))::(1,.i n)::e)))):=by kernel_rfl
def d2(Q:Exit->Env->WK)(e:Env):den J8 q2 Q e=mk [.i 0] (λr=>st (ad r 0) (.i 0) (Q .normal ((5,.pointer (some (ad r 0)))::e))):=by kernel_rfl
def d3(Q:Exit->Env->WK)(r5 r:Nat)(v9 v8 v7 v4:Value)(e:Env):den J8 q3 Q ((5,.pointer (some (ad r5 0)))::(9,v9)::(8,v8)::(7,v7)::(4,v4)::(2,.pointer (some (ad r 0)))::e)=
 ld (ad r 0) (xP λp=>tB p (λv=>Q .normal ((11,v)::(10,.pointer p)::(5,.pointer (some (ad r5 0)))::(9,v9)::(8,v8)::(7,v7)::(4,v4)::(2,.pointer (some (ad r 0)))::e))):=by kernel_rfl
def das(Q:Exit->Env->WK)(cs:LV)(e:Env):den J8 Qp Q ((12,.agg ⟨cs⟩)::e)=mk [.u 0,.u 0,.u 0,.u 0,.u 0,.u 0,.u 0,.u 0,.u 0,.u 0,.i 0,.i 0,.i 0,.i 0,.i 0,.i 0] (λr=>cu (cs.length=16) (jU (ad r 0) cs (Q .normal ((6,.pointer (some (ad r 0)))::(12,.agg ⟨cs⟩)::e)))):=by kernel_rfl
def dbd(Q:Exit->Env->WK)(r6 r5 r2:Nat)(cs:LV)(e:Env):den J8 bd Q ((6,.pointer (some (ad r6 0)))::(12,.agg ⟨cs⟩)::(5,.pointer (some (ad r5 0)))::(2,.pointer (some (ad r2 0)))::e)=
 ld (ad r2 0) (xP λp=>aJ (ad r6 0) 16 (λJM=>cu True (dW p JM [.u 0,.u 0] 4 (x0 (ld (ad r5 0) (xI .i64 λn=>st (ad r5 0) (.i (aa.wrap (n+1))) (Q .normal ((18,.i (aa.wrap (n+1)))::(17,.i n)::(16,.tuple ⟨[]⟩)::(15,.agg ⟨[.u 0,.u 0]⟩)::(14,.agg ⟨JM⟩)::(13,.pointer p)::(6,.pointer (some (ad r6 0)))::(12,.agg ⟨cs⟩)::(5,.pointer (some (ad r5 0)))::(2,.pointer (some (ad r2 0)))::e)))))))):=by kernel_rfl
def d7(Q:Exit->Env->WK)(r5:Nat)(e:Env):den J8 q7 Q ((5,.pointer (some (ad r5 0)))::e)=ld (ad r5 0) (xI .i64 λn=>Q .normal ((4,.i n)::(19,.i n)::(5,.pointer (some (ad r5 0)))::e)):=by kernel_rfl
noncomputable def abX:GH:=[(230,fq.u)]
noncomputable abbrev zH:Den.Fn:=⟨Tryz.prog,abX,[],22,[],[]⟩
noncomputable def aeF:Code:=(Tryz.f229.body).getD .skip
noncomputable def s0:Code:=FY aeF
noncomputable def lb:Code:=inC (inC (yk aeF))
noncomputable def s1:Code:=FY lb
noncomputable def s3:Code:=FY (inC (FY (yk lb)))
noncomputable def s4:Code:=yk (yk lb)
def Yk:Tryz.f229.body=some (.seq s0 (.block 0 (.loop (.seq s1 (.seq (.block 1 (.seq (.region 3 (Ft s3) false) (.cond (.tmp 20) .ret .skip))) s4))))):=by kernel_rfl
def F5:drawn s0=false/\drawn s1=false/\drawn s4=false:=⟨by kernel_rfl,by kernel_rfl,by kernel_rfl⟩
def n193:Tryz.f229.ntmps=22/\Tryz.f229.results=#[]:=⟨by kernel_rfl,by kernel_rfl⟩
def ds0(Q:Exit->Env->WK)(y:Value)(r1:Nat):den zH s0 Q [(1,.pointer (some (ad r1 0))),(0,y)]=
 ld (ad r1 0) (xP λp=>fq p (x2 λv1 v2=>(xA 33 λcs=>(xB λb=>mk [.u 0,.u 0,.u 0,.u 0,.u 0,.u 0,.u 0,.u 0,.u 0,.u 0,.i 0,.i 0,.i 0,.i 0,.i 0,.i 0,.u 0,.u 0,.u 0,.u 0,.u 0,.u 0,.u 0,.u 0,.u 0,.u 0,.i 0,.i 0,.i 0,.i 0,.i 0,.i 0,.i 0] (λr=>cu (cs.length=33) (jU (ad r 0) cs (Q .normal ((4,.bool b)::(3,.pointer (some (ad r 0)))::(9,.bool b)::(8,.agg ⟨cs⟩)::(5,.tuple ⟨[.agg ⟨cs⟩,.bool b]⟩)::(7,.tuple ⟨[.agg ⟨cs⟩,.bool b]⟩)::(6,.pointer p)::[(1,.pointer (some (ad r1 0))),(0,y)]))))) v2) v1)):=by kernel_rfl
def ds1(Q:Exit->Env->WK)(b:Bool)(e:Env):den zH s1 Q ((4,.bool b)::e)=br b (Q .normal ((10,.bool b)::(4,.bool b)::e)) (Q (.exit 0) ((10,.bool b)::(4,.bool b)::e)):=by kernel_rfl
def ds3(K:Env->WK)(r3 r1:Nat)(y:Value)(v4:Value):yG zH (Ft s3) ((Ft s3).toList.take 3) K ((4,v4)::(3,.pointer (some (ad r3 0)))::(1,.pointer (some (ad r1 0)))::[(0,y)])=
 aJ (ad r3 16) 16 (λcs=>K ((18,.agg ⟨cs⟩)::(17,.pointer (some (ad r3 16)))::(16,y)::(4,v4)::(3,.pointer (some (ad r3 0)))::(1,.pointer (some (ad r1 0)))::[(0,y)])):=by kernel_rfl
noncomputable def o3:Oper:=((Ft s3)[3]?).getD ⟨none,.move (.tmp 0),0,"",#[],none⟩
def Oi:(Ft s3)[3]?=some o3/\o3.dst=some 19/\o3.op=.call {callee:=.value (.tmp 16),args:=#[.tmp 18],argTypes:=#[52]}/\o3.guard=none/\(Ft s3).size=5:=⟨by kernel_rfl,by kernel_rfl,by kernel_rfl,by kernel_rfl,by kernel_rfl⟩
def ahV(K:Env->WK)(b:Bool)(e:Env):yG zH (Ft s3) ((Ft s3).toList.drop 4) K ((19,.bool b)::e)=K ((20,.bool (!b))::(19,.bool b)::e):=by kernel_rfl
def ds4(Q:Exit->Env->WK)(r3 r1:Nat)(y:Value):den zH s4 Q ((3,.pointer (some (ad r3 0)))::(1,.pointer (some (ad r1 0)))::[(0,y)])=
 aJ (ad r3 0) 33 (λcs0=>mk [.u 0,.u 0,.u 0,.u 0,.u 0,.u 0,.u 0,.u 0,.u 0,.u 0,.i 0,.i 0,.i 0,.i 0,.i 0,.i 0,.u 0,.u 0,.u 0,.u 0,.u 0,.u 0,.u 0,.u 0,.u 0,.u 0,.i 0,.i 0,.i 0,.i 0,.i 0,.i 0,.i 0] (λr=>cu (cs0.length=33) (jU (ad r 0) cs0 (ld (ad r1 0) (xP λp=>fq p (x2 λv1 v2=>(xA 33 λcs=>(xB λb=>cu (cs.length=33) (jU (ad r 0) cs (Q .normal ((4,.bool b)::(15,.bool b)::(14,.agg ⟨cs⟩)::(11,.tuple ⟨[.agg ⟨cs⟩,.bool b]⟩)::(13,.tuple ⟨[.agg ⟨cs⟩,.bool b]⟩)::(12,.pointer p)::(3,.pointer (some (ad r 0)))::(21,.agg ⟨cs0⟩)::(3,.pointer (some (ad r3 0)))::(1,.pointer (some (ad r1 0)))::[(0,y)])))) v2) v1)))))):=by kernel_rfl
end Go.Proofs.YtibneekkkdnmgaaGreatDoor
