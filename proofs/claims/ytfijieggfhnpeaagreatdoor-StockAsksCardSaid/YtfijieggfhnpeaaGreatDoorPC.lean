/- Part of the proof: see the last text. -/
import Derived.Test.YtfijieggfhnpeaaGreatDoorPB
import Derived.Test.YtfijieggfhnpeaaGreatDoorPA
set_option linter.all false
set_option maxRecDepth 100000
set_option synthInstance.maxSize 100000
open Array renaming toList_map→AB
open Bool renaming false_eq_true→cn,false_ne_true→py,eq_iff_iff→ec,true_and→dX,false_and→gI
open Decidable renaming not_not→bh
open Go.IntKind renaming i64→ag
open Int renaming toNat_natCast→aq,le_refl→u0,fdiv_eq_ediv_of_nonneg→CR
open List renaming getElem?_eq_some_iff→ar,replicate→aM,length_cons→bw,getElem?_set→cA,length_replicate→gi,mem_of_getElem?→iF,length_set→jC,set_cons_succ→kf,getElem?_of_mem→qO,mem_or_eq_of_mem_set→ru,getElem?_eq_getElem→ao,Perm→bA,take_length→bF,perm_middle→fD,take_succ_eq_append_getElem→nD,length_append→ak,length_take→aG,append_assoc→aI,length_drop→aV,take_add_one→bP,flatMap_cons→eP,flatMap_append→fC,length_reverse→ga,getElem?_eq_none→gj,ext_getElem?→jq,pairwise_iff_getElem→nh,getElem?_drop→px,take_append_drop→u2,perm_append_comm→bC,getElem?_append_left→bM,drop_of_length_le→eH,drop_eq_getElem_cons→jX,getElem?_take→pw,length_singleton→Hy,Sublist→cm,mem_map→dK,mem_cons→gK,nil_append→dm,set_set→gW,take_zero→qM,reverse_cons→uL,take_left→zX,map_append→cS,mem_append→dG,map_cons→fq,mem_singleton→fO,mem_of_find?_eq_some→jW,map_congr_left→od,find?_eq_none→sX,map_map→y6,getElem_mem→bT,length_map→cu,getElem?_map→dC,getElem?_cons_succ→aW,cons_append→fE,Mem→cJ,append_nil→bN,getElem?_append_right→jo,filter_cons_of_pos→oA,filter_cons_of_neg→oB,drop_drop→Jv
open Nat renaming mod_eq_of_lt→eX,pow_le_pow_right→ja,zero_add→az,le_refl→aC,add_zero→iL,zero_le→aL,mul_le_mul_right→fS,add_mul→lq,sub_self→sH,mul_one→mQ
open Option renaming some→bj,map_some→dN,isSome_some→cB,isSome_none→dj,getD_some→dk,getD_none→eV,map→so
namespace Go.Up
open Go.Sep Go.Den Go.RowKit Go.Prog Go.Md Go.bE
structure Cell where
 key:Nat
 at_:Int
 kind:Int
def kM(c:Cell):LV:=nm c.key++[.i c.at_,.int .u8 c.kind]
def pU(c:Cell):(kM c).length=4:=rfl
instance{c:Cell}:Ln (kM c) 4:=⟨rfl⟩
instance{c:Cell}:Gt (kM c) 3 (.int .u8 c.kind):=⟨rfl⟩
def wx(c:Cell):∀v∈kM c,v.oneCell'=true:=lW (jL _) λv h=>by simp at h;rcases h with rfl|rfl<;>rfl
def JR(n1 n2:Int):Int:=IntKind.u64.wrap ((ch .u64 .xor (ch .u64 .xor n1 (shl .u64 n2 31)) (shr .u64 n2 33))* 11400714819323198485)
def JQ(x:Int):Int:=ch .u64 .xor x (shr .u64 x 29)
def spread(k:Nat):Int:=JQ (JR ((k%18446744073709551616:Nat):Int) ((k/18446744073709551616:Nat):Int))
def Pow(N:Nat):Prop:=∃j,3<=j/\j<=20/\N=2^j
def Pow.ge{N:Nat}(h:Pow N):8<=N:=by
 obtain⟨j,h1,h2,rfl⟩:=h;exact ja (by decide) h1 (n:=2)
def Pow.le{N:Nat}(h:Pow N):N<=1048576:=by
 obtain⟨j,h1,h2,rfl⟩:=h;exact ja (by decide) h2 (n:=2)
def Hp{N x:Nat}(h:Pow N)(hx:x<18446744073709551616):ch .u64 .and (x:Int) ((N:Int) -1)=((x%N:Nat):Int):=by
 have h1:=h.ge;have h2:=h.le;obtain⟨j,-,-,rfl⟩:=h;have e:((2^j:Nat):Int) -1=((2^j-1:Nat):Int):=by omega
 rw[e];unfold ch;show IntKind.u64.wrap (((BitVec.ofInt 64 (x:Int)&&&BitVec.ofInt 64 ((2^j-1:Nat):Int)).toNat:Nat):Int)=_;rw[BitVec.toNat_and];have t1:(BitVec.ofInt 64 (x:Int)).toNat=x:=by simp only[BitVec.toNat_ofInt];omega
 have t2:(BitVec.ofInt 64 ((2^j-1:Nat):Int)).toNat=2^j-1:=by simp only[BitVec.toNat_ofInt];omega
 rw[t1,t2,Nat.and_two_pow_sub_one_eq_mod];have:x%2^j<=x:=Nat.mod_le _ _;exact Bv (by omega)
def O'(op:BinOp)(x y:Int)(h:op=.and\/op=.or\/op=.xor\/op=.andNot):0<=ch .u64 op x y/\ch .u64 op x y<18446744073709551616:=by
 rcases h with h|h|h|h<;>subst h<;>(unfold ch;dsimp only;simp only[IntKind.wrap,IntKind.bits,IntKind.signed];simp;omega)
def hh(N k:Nat):Nat:=(spread k).toNat%N
def ZN{N:Nat}(h:0<N)(k:Nat):hh N k<N:=Nat.mod_lt _ h
def H3(k:Nat):0<=spread k/\spread k<18446744073709551616:=by
 unfold spread;generalize JR _ _=x;unfold JQ;generalize shr .u64 x 29=y;exact O' .xor x y (by simp)
def H4{N k:Nat}(h:Pow N):ch .u64 .and (spread k) ((N:Int) -1)=((hh N k:Nat):Int):=by
 obtain⟨h1,h2⟩:=H3 k;unfold hh;generalize spread k=x at h1 h2;obtain⟨n,rfl⟩:∃n:Nat,x=n:=⟨x.toNat,by omega⟩;rw[aq];exact Hp h (by omega)
def NF(cs:List Cell)(i:Nat):Prop:=∃c:Cell,cs[i]?=some c/\c.kind≠0
structure TI(cs:List Cell)(m:Nat->Option Int)(u lf:Nat):Prop where
 pow:Pow cs.length
 kinds:∀c∈cs,c.kind=0\/c.kind=1\/c.kind=2
 used:cs.countP (λc:Cell=>c.kind=1)=u
 left:cs.countP (λc:Cell=>c.kind=2)=lf
 room:4* (u+lf)<=3* cs.length
 run:∀(i:Nat)(c:Cell),cs[i]?=some c->c.kind=1->∃d,d<cs.length/\i=(hh cs.length c.key+d)%cs.length/\∀j,j<d->NF cs ((hh cs.length c.key+j)%cs.length)
 is:∀(i:Nat)(c:Cell),cs[i]?=some c->c.kind=1->m c.key=some c.at_
 has:∀k v,m k=some v->∃(i:Nat)(c:Cell),cs[i]?=some c/\c.kind=1/\c.key=k
 one:∀(i j:Nat)(c d:Cell),cs[i]?=some c->cs[j]?=some d->c.kind=1->d.kind=1->c.key=d.key->i=j
def PT:∀(cs:List Cell),(∀c∈cs,c.kind=0\/c.kind=1\/c.kind=2)->cs.countP (λc:Cell=>c.kind=0)+cs.countP (λc:Cell=>c.kind=1)+cs.countP (λc:Cell=>c.kind=2)=cs.length
 |[],_=>rfl
 |c::cs,h=>by
  have ih:=PT cs λd hd=>h d (by simp[hd]);simp only[List.countP_cons,bw];rcases h c (by simp) with e|e|e<;>simp[e]<;>omega
def countP_set{p:Cell->Bool}:∀(cs:List Cell)(i:Nat)(c x:Cell),cs[i]?=some c->(cs.set i x).countP p+(if p c then 1 else 0)=cs.countP p+(if p x then 1 else 0)
 |[],i,c,x,h=>by simp at h
 |d::cs,0,c,x,h=>by
  simp at h;subst h;simp only[List.set_cons_zero,List.countP_cons];omega
 |d::cs,i+1,c,x,h=>by
  have ih:=countP_set (p:=p) cs i c x (by simpa using h);simp only[kf,List.countP_cons];omega
def TI.free{cs:List Cell}{m:Nat->Option Int}{u lf:Nat}(h:TI cs m u lf)(s:Nat)(ha:∀j,j<cs.length->NF cs ((s+j)%cs.length)):False:=by
 have h8:=h.pow.ge;have hc:=PT cs h.kinds;rw[h.used,h.left] at hc;have h0:0<cs.countP (λc:Cell=>c.kind=0):=by have:=h.room;omega
 rw[List.countP_pos_iff] at h0;obtain⟨c,hm,hk⟩:=h0;obtain⟨i,hi⟩:=qO hm;have bW:=(ar.1 hi).1;have e:(s+(i+cs.length-s%cs.length)%cs.length)%cs.length=i:=by
  have h1:s%cs.length<cs.length:=Nat.mod_lt _ (by omega);rw[Nat.add_mod_mod,Nat.add_mod,];have:s+(i+cs.length-s%cs.length)=cs.length* (s/cs.length+1)+i:=by
   have:=Nat.div_add_mod s cs.length;rw[Nat.mul_add];omega
  rw[<-Nat.add_mod,this,Nat.mul_add_mod,eX bW]
 obtain⟨d,hd,hn⟩:=ha ((i+cs.length-s%cs.length)%cs.length) (Nat.mod_lt _ (by omega));rw[e,hi] at hd;cases hd
 simp at hk;exact hn hk
structure FR(cs:List Cell)(k p:Nat):Prop where
 place:∃(c:Cell)(d:Nat),cs[p]?=some c/\c.kind≠1/\d<cs.length/\p=(hh cs.length k+d)%cs.length/\∀j,j<d->NF cs ((hh cs.length k+j)%cs.length)
 none_:∀(i:Nat)(c:Cell),cs[i]?=some c->c.kind=1->c.key≠k
def tQ(m:Nat->Option Int)(k:Nat)(v:Option Int):Nat->Option Int:=λj=>if j=k then v else m j
def NF.set{cs:List Cell}{i p:Nat}{x:Cell}(h:NF cs i)(hx:x.kind≠0):NF (cs.set p x) i:=by
 obtain⟨c,hc,hk⟩:=h;have bW:=(ar.1 hc).1;unfold NF;rw[cA];by_cases e:p=i
 ·rw[aj e,aj (by omega)];exact⟨x,rfl,hx⟩
 ·rw[ah e];exact⟨c,hc,hk⟩
def TI.zR{cs:List Cell}{m:Nat->Option Int}{u lf k:Nat}(h:TI cs m u lf)(hn:∀(i:Nat)(c:Cell),cs[i]?=some c->c.kind=1->c.key≠k):m k=none:=by
 cases hm:m k with
 |none=>rfl
 |some v=>
  obtain⟨i,c,h1,h2,h3⟩:=h.has k v hm;exact aR h3 (hn i c h1 h2)
def sy{cs:List Cell}{p i:Nat}{x c:Cell}(h:(cs.set p x)[i]?=some c):(i=p/\c=x/\p<cs.length)\/(i≠p/\cs[i]?=some c):=by
 rw[cA] at h;by_cases e:p=i
 ·rw[aj e] at h;by_cases hl:p<cs.length
  ·rw[aj (by omega)] at h;cases h;exact .inl ⟨e.symm,rfl,hl⟩
  ·rw[ah (by omega)] at h;cases h
 ·rw[ah e] at h;exact .inr ⟨λh=>e h.symm,h⟩
def TI.put{cs:List Cell}{m:Nat->Option Int}{u lf k p:Nat}{v:Int}{c:Cell}(h:TI cs m u lf)(f:FR cs k p)(hp:cs[p]?=some c)(hr:4* (u+lf+1)<=3* cs.length):
 TI (cs.set p ⟨k,v,1⟩) (tQ m k (some v)) (u+1) (if c.kind=2 then lf-1 else lf):=by
 obtain⟨⟨c',d,GN,hk,hd,hpd,hj⟩,lH⟩:=f;rw[hp] at GN;cases GN
 have bW:=(ar.1 hp).1;have hl:(cs.set p ⟨k,v,1⟩).length=cs.length:=jC;have c1:=countP_set (p:=λc:Cell=>c.kind=1) cs p c ⟨k,v,1⟩ hp;have c2:=countP_set (p:=λc:Cell=>c.kind=2) cs p c ⟨k,v,1⟩ hp;have qJ:c∈cs:=iF hp;have hnk:=h.zR lH;rw[h.used] at c1;rw[h.left] at c2;refine⟨by rw[hl];exact h.pow,?_,?_,?_,?_,?_,?_,?_,?_⟩
 ·intro x hx;rcases ru hx with hx|hx
  ·exact h.kinds x hx
  ·subst hx;exact .inr (.inl rfl)
 ·simp[hk] at c1;simpa using c1
 ·by_cases e:c.kind=2
  ·rw[aj e];simp[e] at c2;simpa using by omega
  ·rw[ah e];simp[e] at c2;simpa using c2
 ·rw[hl];split<;>omega
 ·rw[hl];intro i x hi hx;rcases sy hi with⟨rfl,rfl,_⟩|⟨hZ,hi⟩
  ·exact⟨d,hd,hpd,λj h1=>(hj j h1).set (show(1:Int)≠0 by decide)⟩
  ·obtain⟨d',h1,h2,h3⟩:=h.run i x hi hx;exact⟨d',h1,h2,λj h4=>(h3 j h4).set (show(1:Int)≠0 by decide)⟩
 ·intro i x hi hx;rcases sy hi with⟨rfl,rfl,_⟩|⟨hZ,hi⟩
  ·simp[tQ]
  ·unfold tQ;rw[ah (lH i x hi hx)];exact h.is i x hi hx
 ·intro k' v' Aj;unfold tQ at Aj;by_cases e:k'=k
  ·subst e;exact⟨p,⟨k',v,1⟩,by rw[cA,aj rfl,aj bW],rfl,rfl⟩
  ·rw[ah e] at Aj;obtain⟨i,x,h1,h2,h3⟩:=h.has k' v' Aj;refine⟨i,x,?_,h2,h3⟩;rw[cA,ah]
   ·exact h1
   ·intro e2;subst e2;rw[hp] at h1;cases h1;exact hk h2
 ·intro i j x y hi HH hx hy he;rcases sy hi with⟨rfl,rfl,_⟩|⟨hZ,hi⟩<;>rcases sy HH with⟨rfl,rfl,_⟩|⟨ado,HH⟩
  ·rfl
  ·exact aR he.symm (lH j y HH hy)
  ·exact aR he (lH i x (by assumption) hx)
  ·exact h.one i j x y (by assumption) (by assumption) hx hy he
def TI.drop{cs:List Cell}{m:Nat->Option Int}{u lf p:Nat}{c:Cell}(h:TI cs m u lf)(hp:cs[p]?=some c)(hk:c.kind=1):
 TI (cs.set p ⟨0,0,2⟩) (tQ m c.key none) (u-1) (lf+1)/\1<=u:=by
 have bW:=(ar.1 hp).1;have hl:(cs.set p ⟨0,0,2⟩).length=cs.length:=jC;have c1:=countP_set (p:=λc:Cell=>c.kind=1) cs p c ⟨0,0,2⟩ hp;have c2:=countP_set (p:=λc:Cell=>c.kind=2) cs p c ⟨0,0,2⟩ hp;rw[h.used] at c1;rw[h.left] at c2;have hu:1<=u:=by simp[hk] at c1;omega
 refine⟨⟨by rw[hl];exact h.pow,?_,?_,?_,by rw[hl];have:=h.room;omega,?_,?_,?_,?_⟩,hu⟩
 ·intro x hx;rcases ru hx with hx|hx
  ·exact h.kinds x hx
  ·subst hx;exact .inr (.inr rfl)
 ·simp[hk] at c1;simpa using by omega
 ·simp[hk] at c2;simpa using c2
 ·rw[hl];intro i x hi hx;rcases sy hi with⟨rfl,rfl,_⟩|⟨hZ,hi⟩
  ·exact aR hx (by decide)
  ·obtain⟨d',h1,h2,h3⟩:=h.run i x hi hx;exact⟨d',h1,h2,λj h4=>(h3 j h4).set (by decide)⟩
 ·intro i x hi hx;rcases sy hi with⟨rfl,rfl,_⟩|⟨hZ,hi⟩
  ·exact aR hx (by decide)
  ·have:x.key≠c.key:=λe=>hZ (h.one i p x c hi hp hx hk e);unfold tQ;rw[ah this];exact h.is i x hi hx
 ·intro k' v' Aj;unfold tQ at Aj;by_cases e:k'=c.key
  ·rw[aj e] at Aj;cases Aj
  ·rw[ah e] at Aj;obtain⟨i,x,h1,h2,h3⟩:=h.has k' v' Aj;refine⟨i,x,?_,h2,h3⟩;rw[cA,ah]
   ·exact h1
   ·intro e2;subst e2;rw[hp] at h1;cases h1;exact e h3.symm
 ·intro i j x y hi HH hx hy he;rcases sy hi with⟨rfl,rfl,_⟩|⟨hZ,hi⟩<;>rcases sy HH with⟨rfl,rfl,_⟩|⟨ado,HH⟩
  ·rfl
  ·exact aR hx (by decide)
  ·exact aR hy (by decide)
  ·exact h.one i j x y (by assumption) (by assumption) hx hy he
def TI.new{N:Nat}(h:Pow N):TI (aM N ⟨0,0,0⟩) (λ_=>none) 0 0:=by
 refine⟨by rw[gi];exact h,?_,?_,?_,by omega,?_,?_,?_,?_⟩
 ·intro c hc;rw[List.eq_of_mem_replicate hc];exact .inl rfl
 ·rw[List.countP_replicate];rfl
 ·rw[List.countP_replicate];rfl
 ·intro i c hi hk;have:=List.eq_of_mem_replicate (iF hi);subst this;exact aR hk (by decide)
 ·intro i c hi hk;have:=List.eq_of_mem_replicate (iF hi);subst this;exact aR hk (by decide)
 ·intro k v hk;cases hk
 ·intro i j c d hi hj hk;have:=List.eq_of_mem_replicate (iF hi);subst this;exact aR hk (by decide)
def Seen(cs:List Cell)(k d:Nat):Prop:=∀j,j<d->∃c:Cell,cs[(hh cs.length k+j)%cs.length]?=some c/\c.kind≠0/\ ¬(c.kind=1/\c.key=k)
def Seen.nf{cs:List Cell}{k d:Nat}(h:Seen cs k d):∀j,j<d->NF cs ((hh cs.length k+j)%cs.length):=λj hj=>by
 obtain⟨c,h1,h2,_⟩:=h j hj;exact⟨c,h1,h2⟩
def Seen.succ{cs:List Cell}{k d:Nat}{c:Cell}(h:Seen cs k d)(hc:cs[(hh cs.length k+d)%cs.length]?=some c)(h0:c.kind≠0)(h1: ¬(c.kind=1/\c.key=k)):Seen cs k (d+1):=λj hj=>by
 by_cases e:j=d
 ·subst e;exact⟨c,hc,h0,h1⟩
 ·exact h j (by omega)
def Seen.zR{cs:List Cell}{m:Nat->Option Int}{u lf k d:Nat}{c:Cell}(ht:TI cs m u lf)(h:Seen cs k d)(hd:d<cs.length)(hc:cs[(hh cs.length k+d)%cs.length]?=some c)(h0:c.kind=0):
 ∀(i:Nat)(c:Cell),cs[i]?=some c->c.kind=1->c.key≠k:=by
 intro i x hi hx he;obtain⟨d',h1,h2,h3⟩:=ht.run i x hi hx;rw[he] at h2 h3;by_cases e1:d'<d
 ·obtain⟨y,g1,g2,g3⟩:=h d' e1;rw[<-h2,hi] at g1;cases g1;exact g3 ⟨hx,he⟩
 ·by_cases e2:d<d'
  ·obtain⟨y,g1,g2⟩:=h3 d e2;rw[hc] at g1;cases g1;exact g2 h0
  ·have:d=d':=by omega
   subst this;rw[<-h2,hi] at hc;cases hc;rw[h0] at hx;cases hx
section
variable {y z:Cell} {x1 x2 x3 x4:Value}
instance:Wr [x1,x2,x3,x4] 0 (kM y) (kM y):=⟨rfl,aC _,wx y⟩
instance:Sub (kM y) 0 2 (nm y.key):=⟨sJ rfl rfl⟩
instance:Sub (kM y) 0 4 (kM y):=⟨rfl,λj v h=>by rw[az];exact h⟩
end
def l9(t:Nat)(x:(Nat->Option Int)×Nat):HP:=
 Py λq:OA×Nat×List Cell×Nat=>ML (TI q.2.2.1 x.1 x.2 q.2.2.2) (sep (Sep.pt t [.l q.1 q.2.2.1.length q.2.1,.i (x.2:Int),.i (q.2.2.2:Int)]) (own q.1 q.2.2.1.length q.2.1 4 (q.2.2.1.flatMap kM)))
section
variable {W:World} {L:LH} {K:VK} {X:WK} {t:Nat} {x:(Nat->Option Int)×Nat} {f:(Nat->Option Int)×Nat->LH}
def NP[i:Lc (l9 t) L x f](h:∀b c cs lf R,TI cs x.1 x.2 lf->(∀b' c' sS u' HE m' Y,TI sS m' u' HE->T W (f (m',u')) Y->T W (Sep.pt t [.l b' sS.length c',.i (u':Int),.i (HE:Int)]::own b' sS.length c' 4 (sS.flatMap kM)::R) Y)->
 T W (Sep.pt t [.l b cs.length c,.i (x.2:Int),.i (lf:Int)]::own b cs.length c 4 (cs.flatMap kM)::R) X):T W L X:=
 NS (P:=l9 t) λR hc w hs=>by
  obtain⟨⟨b,c,cs,lf⟩,hs⟩:=hs.ex;obtain⟨ht,hs⟩:=hs.and;refine h b c cs lf R ht (λb' c' sS u' HE m' Y IF hy w h'=>hc (m',u') Y hy w ?_) w hs.split;exact St.nT (b',c',sS,HE) (St.and_intro IF (St.join h'))
def T.ac7{A B C:HP}{R:LH}(h:T W (A::B::C::R) X):T W (C::A::B::R) X:=T.perm h (fD (l₁:=[A,B])).symm
def N7{k:Nat}(h:T W L (K (.u (spread k)))):T W L (qX (nm k) K):=by
 unfold qX
 repeat' first|apply ws;intros|apply wb|refine dv (by decide) ?_
 apply T.fin (T.dp h)
 rfl
def Vu{N:Nat}(h1:1<=N)(h2:N<=1048576):IntKind.u64.wrap (ag.wrap ((N:Int) -1))=(N:Int) -1:=by
 rw[aS (by omega)];obtain⟨n,hn⟩:∃n:Nat,(N:Int) -1=n:=⟨N-1,by omega⟩;rw[hn];exact Bv (by omega)
def Dw{N a d:Nat}(ha:a<N)(hd:d<N):((a+d)%N+N-a)%N=d:=by
 by_cases h:a+d<N
 ·rw[eX h,show a+d+N-a=N+d by omega,Nat.add_mod_left,eX hd]
 ·have:(a+d)%N=a+d-N:=by rw[Nat.mod_eq_sub_mod (by omega),eX (by omega)]
  rw[this,show a+d-N+N-a=d by omega,eX hd]
def N4{N a d:Nat}(hN:Pow N):ch .u64 .and (IntKind.u64.wrap ((((a+d)%N:Nat):Int)+1)) ((N:Int) -1)=(((a+(d+1))%N:Nat):Int):=by
 have h1:=hN.le;have h2:=hN.ge;have h3:(a+d)%N<N:=Nat.mod_lt _ (by omega);rw[show(((a+d)%N:Nat):Int)+1=(((a+d)%N+1:Nat):Int) by omega,Bv (by omega),Hp hN (by omega)]
 congr 1
 rw[Nat.mod_add_mod];rfl
def EX{b:OA}{c u lf k:Nat}{cs:List Cell}{m:Nat->Option Int}{x1 x2:Value}{f:LV->LH}{g:HP->LH}[i:Lc (Sep.pt t) L [.l b cs.length c,x1,x2] f][j:xF b cs.length c L 4 (cs.flatMap kM) g](ht:TI cs m u lf)
 (h1:∀(i:Nat)(y:Cell),cs[i]?=some y->y.kind=1->y.key=k->T W L (K (.tuple ⟨[.i (i:Int),.b true]⟩)))
 (h2:∀p:Nat,FR cs k p->T W L (K (.tuple ⟨[.i (p:Int),.b false]⟩))):T W L (cz (ai t) (nm k) K):=by
 have hN8:=ht.pow.ge;have hNl:=ht.pow.le;have ZM:=ZN (N:=cs.length) (by omega) k;unfold cz
 repeat' first|apply ws;intros|apply wb|refine N7 ?_
 rename_i r1;intro w hs;rw[Vu (by omega) hNl,H4 ht.pow];refine⟨λvs w=>∃(d:Nat)(put:Int),d<cs.length/\Seen cs k d/\(put= -1\/∃(dp:Nat)(z:Cell),dp<d/\put=(((hh cs.length k+dp)%cs.length:Nat):Int)/\cs[(hh cs.length k+dp)%cs.length]?=some z/\z.kind=2)/\
                           vs=[.p (some (ad r1 0)),.i 0,.b false,.u ((cs.length:Int) -1),.i put,.u (((hh cs.length k+d)%cs.length:Nat):Int)]/\St W w (Sep.pt r1 (nm k)::L),
  λvs _=>match vs with|[_,_,_,_,_,.int _ n]=>cs.length-(n.toNat+cs.length-hh cs.length k)%cs.length|_=>0,
  ⟨0,-1,by omega,λj hj=>by omega,.inl rfl,by rw[iL,eX ZM],hs⟩,?_⟩
 rintro a1 n1 b1 n2 put n4 w2 ⟨d,agp,hd,GG,L0,e,hs⟩;cases e
 refine T.at ?_ hs;have bW:(hh cs.length k+d)%cs.length<cs.length:=Nat.mod_lt _ (by omega);have hy:=ao bW;generalize cs[(hh cs.length k+d)%cs.length]=y at hy;have qJ:y∈cs:=iF hy;have ewr:ag.wrap (((hh cs.length k+d)%cs.length:Nat):Int)=(((hh cs.length k+d)%cs.length:Nat):Int):=aS (by omega);apply ws;refine gu ⟨by omega,by omega⟩ λr hr=>?_;subst hr;rw[aq];apply jH pU hy;have next:∀(r2:Nat)(OF:Int),y.kind≠0-> ¬(y.kind=1/\y.key=k)->(OF=put\/OF=(((hh cs.length k+d)%cs.length:Nat):Int)/\y.kind=2)->
                                                                                                                                                                                                                                                                                                                                                                 T W (Sep.pt r2 (kM y)::Sep.pt r1 (nm k)::L) (λw4=>(∃(d':Nat)(put:Int),d'<cs.length/\Seen cs k d'/\(put= -1\/∃(dp:Nat)(z:Cell),dp<d'/\put=(((hh cs.length k+dp)%cs.length:Nat):Int)/\cs[(hh cs.length k+dp)%cs.length]?=some z/\z.kind=2)/\
                                                                                                                                                                                                                                                                                                                                                                 [Value.pointer (some (ad r1 0)),.i 0,.b false,.u ((cs.length:Int) -1),.i OF,.u (((hh cs.length k+(d+1))%cs.length:Nat):Int)]=[.p (some (ad r1 0)),.i 0,.b false,.u ((cs.length:Int) -1),.i put,.u (((hh cs.length k+d')%cs.length:Nat):Int)]/\St W w4 (Sep.pt r1 (nm k)::L))/\
                                                                                                                                                                                                                                                                                                                                                                 cs.length-((((hh cs.length k+(d+1))%cs.length:Nat):Int).toNat+cs.length-hh cs.length k)%cs.length<cs.length-((((hh cs.length k+d)%cs.length:Nat):Int).toNat+cs.length-hh cs.length k)%cs.length):=by
  intro r2 OF k0 k1 hp';have Pc:=GG.succ hy k0 k1;have Ua:d+1<cs.length:=by
   by_cases hc:d+1<cs.length
   ·exact hc
   ·exact aR (λj hj=>Pc.nf j (by omega)) λhh=>ht.free _ hh
  refine T.drop λw3 h3=>⟨⟨d+1,OF,Ua,Pc,?_,rfl,h3⟩,?_⟩
  ·rcases hp' with rfl|⟨rfl,h2k⟩
   ·exact L0.imp id λ⟨dp,z,g1,g2,g3,g4⟩=>⟨dp,z,by omega,g2,g3,g4⟩
   ·exact .inr ⟨d,y,by omega,rfl,hy,h2k⟩
  ·rw[aq,aq,Dw ZM hd,Dw ZM Ua];omega
 apply ws;intros;rename_i r2;unfold cz.j1 cz.j2 cz.j3;simp only[N4 ht.pow,ewr];apply dz<;>intro g0
 ·have k0:y.kind=0:=by simpa using g0
  apply dz<;>intro g1
  ·refine T.drop (T.drop (h2 _ ⟨⟨y,d,hy,by omega,hd,rfl,GG.nf⟩,GG.zR ht hd hy k0⟩))
  ·have g2: ¬put<0:=by simpa using g1
   apply ws;apply hG (by simpa using k0);rcases L0 with rfl|⟨dp,z,q1,rfl,q3,q4⟩
   ·omega
   ·refine T.drop (T.drop (h2 _ ⟨⟨z,dp,q3,by omega,by omega,rfl,λj hj=>GG.nf j (by omega)⟩,GG.zR ht hd hy k0⟩))
 ·have k0:y.kind≠0:=by simpa using g0
  apply ws;apply cW (by simpa using k0);apply ws;apply dz<;>intro g1
  ·have k2:y.kind=2:=by simpa using g1
   apply dz<;>intro g2
   ·exact next r2 _ k0 (by omega) (.inr ⟨rfl,k2⟩)
   ·apply ws;refine cW (by rw[k2];rfl) ?_;apply ws;exact next r2 put k0 (by omega) (.inl rfl)
  ·have k1:y.kind=1:=by
    have:=ht.kinds y qJ;have:y.kind≠2:=by simpa using g1
    omega
   apply ws;refine hG (by rw[k1];rfl) ?_;apply ws;apply dz<;>intro g2
   ·refine T.drop (T.drop (h1 _ y hy k1 (by simpa using g2)))
   ·exact next r2 put k0 (λhh=>by simp[hh.2] at g2) (.inl rfl)
def Ay{k:Nat}[i:Lc (l9 t) L x f](h:T W L (K (.tuple ⟨[.i ((x.1 k).getD 0),.b (x.1 k).isSome]⟩))):T W L (fk (ai t) (nm k) K):=by
 unfold fk;refine jy λr1=>cW rfl ?_;apply ws;refine NP (t:=t) λb c cs lf R ht hc=>?_;have close:=hc b c cs x.2 lf x.1;have hL:f (x.1,x.2)=L:=i.same;rw[<-hL] at h;refine EX ht (λi y hy hk he=>?_) (λp hp=>?_)
 ·apply ws;have bW:=(ar.1 hy).1;refine gu ⟨by omega,by omega⟩ λr hr=>?_;subst hr;rw[aq];apply YK;apply Er (r:=r) (j:=2) pU hy rfl;apply ws;have e:=ht.is i y hy hk;rw[he] at e;rw[e] at h;exact close _ ht (T.drop h)
 ·apply ws;rw[ht.zR hp.none_] at h;exact close _ ht (T.drop h)
def Qy{k:Nat}[i:Lc (l9 t) L x f](hu:x.2<=1000)(h:(x.1 k).isSome=true->T W (f (tQ x.1 k none,x.2-1)) (K (.b true)))(h0:x.1 k=none->T W L (K (.b false))):T W L (k6 (ai t) (nm k) K):=by
 unfold k6;refine jy λr1=>cW rfl ?_;apply ws;refine NP (t:=t) λb c cs lf R ht hc=>?_;have hL:f (x.1,x.2)=L:=i.same;rw[<-hL] at h0;refine EX ht (λi y hy hk he=>?_) (λp hp=>?_)
 ·apply ws;have bW:=(ar.1 hy).1;refine gu ⟨by omega,by omega⟩ λr hr=>?_;subst hr;rw[aq];have hN:=ht.pow.le;have GI:=ht.room;obtain⟨IF,hu1⟩:=ht.drop hy hk;rw[he] at IF;have e:=ht.is i y hy hk;rw[he] at e;apply dv rfl;show T W _ (fH _ (kM ⟨0,0,2⟩) _);apply oh pU bW (wx _);apply ws;rw[aS (by omega),aS (by omega),show(x.2:Int) -1=((x.2-1:Nat):Int) by omega,show(lf:Int)+1=((lf+1:Nat):Int) by omega];have:=hc (ai r) c _ _ _ _ _ IF (T.drop (h (by rw[e];rfl)));rw[jC] at this;exact this
 ·apply ws;exact hc _ _ _ _ _ _ _ ht (T.drop (h0 (ht.zR hp.none_)))
structure Part(cs:List Cell)(i:Nat)(m':Nat->Option Int)(u':Nat):Prop where
 toX:∀(k:Nat)(v:Int),m' k=some v->∃(j:Nat)(y:Cell),j<i/\cs[j]?=some y/\y.kind=1/\y.key=k/\y.at_=v
 from_:∀(j:Nat)(y:Cell),j<i->cs[j]?=some y->y.kind=1->m' y.key=some y.at_
 n:u'=(cs.take i).countP (λc:Cell=>c.kind=1)
def Part.same{cs:List Cell}{m m':Nat->Option Int}{u lf u':Nat}(ht:TI cs m u lf)(hp:Part cs cs.length m' u'):m'=m/\u'=u:=by
 constructor
 ·funext k
  cases hm:m' k with
  |some v=>
   obtain⟨j,y,h1,h2,h3,h4,h5⟩:=hp.toX k v hm;have:=ht.is j y h2 h3;rw[h4,h5] at this;exact this.symm
  |none=>
   cases hk:m k with
   |none=>rfl
   |some v=>
    obtain⟨j,y,h2,h3,h4⟩:=ht.has k v hk;have:=hp.from_ j y (ar.1 h2).1 h2 h3;rw[h4,hm] at this;cases this
 ·rw[hp.n,bF,ht.used]
def va(cs:List Cell)(p:Cell->Bool){i:Nat}{y:Cell}(hy:cs[i]?=some y):(cs.take (i+1)).countP p=(cs.take i).countP p+(if p y then 1 else 0):=by
 have bW:=(ar.1 hy).1;rw[nD bW,List.countP_append];have:cs[i]=y:=by rw[ao bW] at hy;exact bj.inj hy
 rw[this,List.countP_singleton]
def Xc{b:OA}{c u lf:Nat}{cs:List Cell}{m:Nat->Option Int}{R:LH}(ht:TI cs m u lf)(hu:u<=1000)
 (h:∀b' c' sS,TI sS m u 0->3* (u+1)<=sS.length->T W (Sep.pt t [.l b' sS.length c',.i (u:Int),.i 0]::own b' sS.length c' 4 (sS.flatMap kM)::R) (K (.tuple ⟨[]⟩))):
 T W (Sep.pt t [.l b cs.length c,.i (u:Int),.i (lf:Int)]::own b cs.length c 4 (cs.flatMap kM)::R) (nt (ai t) K):=by
 unfold nt;have hN8:=ht.pow.ge;have hNl:=ht.pow.le;apply ws;intro w hs;refine⟨λvs w=>∃n:Nat,Pow n/\n<=6* (u+1)+8/\vs=[.l b cs.length c,.i (n:Int)]/\St W w (Sep.pt t [.l b cs.length c,.i (u:Int),.i (lf:Int)]::own b cs.length c 4 (cs.flatMap kM)::R),
  λvs _=>match vs with|[_,.int _ n]=>3* (u+1) -n.toNat|_=>0,⟨8,⟨3,by decide,by decide,rfl⟩,by omega,rfl,hs⟩,?_⟩
 rintro mg jJ mP n1 w2 ⟨n,hn,hnb,e,hs⟩;cases e
 refine T.at ?_ hs;have hn8:=hn.ge;apply ws;rw[aS (show-9223372036854775808<=(u:Int)+1/\(u:Int)+1<=9223372036854775807 by omega),aS (by omega)];apply gO<;>intro h1
 ·have h1:(n:Int)<3* ((u:Int)+1):=h1;rw[aS (by omega)];refine λw3 h3=>⟨⟨n* 2,?_,by omega,by rw[show(n:Int)* 2=((n* 2:Nat):Int) by omega],h3⟩,?_⟩
  ·obtain⟨j,j1,j2,j3⟩:=hn;refine⟨j+1,by omega,?_,by rw[Nat.pow_succ,j3]⟩;by_cases hj:j+1<=20
   ·exact hj
   ·have:j=20:=by omega
    subst this;have:n=1048576:=by rw[j3]
    omega
  ·show 3* (u+1) -((n:Int)* 2).toNat<3* (u+1) -(n:Int).toNat;omega
 have h1: ¬(n:Int)<3* ((u:Int)+1):=h1;refine Ep ⟨by omega,by omega,by omega,by omega⟩ λr=>?_;rw[aq,oR (g:=kM) (z:=⟨0,0,0⟩) (zs:=[.u 0,.u 0,.i 0,.int .u8 0]) rfl];show T W (own (ai r) n n 4 ((aM n (⟨0,0,0⟩:Cell)).flatMap kM)::_) _;apply ws;intro w4 hs;refine⟨λvs w=>∃(i:Nat)(sS:List Cell)(m':Nat->Option Int)(u':Nat),i<=cs.length/\sS.length=n/\TI sS m' u' 0/\Part cs i m' u'/\vs=[.l b cs.length c,.i (cs.length:Int),.i (i:Int)]/\
                                                                                                St W w (own (ai r) n n 4 (sS.flatMap kM)::Sep.pt t [.l (ai r) n n,.i (u:Int),.i 0]::own b cs.length c 4 (cs.flatMap kM)::R),
  λvs _=>match vs with|[_,_,.int _ i]=>cs.length-i.toNat|_=>0,
  ⟨0,aM n ⟨0,0,0⟩,λ_=>none,0,by omega,gi,TI.new hn,⟨(λk v hh=>by cases hh),(λj y hj=>by omega),by simp⟩,rfl,hs⟩,?_⟩
 rintro xx wF xY n3 n4 w5 ⟨i,sS,m',u',hi,HG,IF,hp,e,hs⟩;cases e
 refine T.at ?_ hs;apply gO<;>intro g1
 ·have bW:i<cs.length:=by omega
  have e5:=oe i;have hy:=ao bW;generalize cs[i]=y at hy;have hut:u'+(if y.kind=1 then 1 else 0)<=u:=by
   have e1:=va cs (λc:Cell=>c.kind=1) hy;have e2:(cs.take (i+1)).countP (λc:Cell=>c.kind=1)<=cs.countP (λc:Cell=>c.kind=1):=(List.take_sublist _ _).countP_le;rw[ht.used,e1,<-hp.n] at e2;simpa using e2
  refine gu ⟨by omega,by omega⟩ λrb hrb=>?_;subst hrb;rw[aq];apply jH pU hy;apply ws;intros;rw[e5];apply dz<;>intro g2
  ·have k1:y.kind=1:=by simpa using g2
   rw[aj k1] at hut;apply ws;subst HG;have lH:m' y.key=none:=by
    cases hm:m' y.key with
    |none=>rfl
    |some v=>
     obtain⟨j,z,q1,q2,q3,q4,q5⟩:=hp.toX _ _ hm;have:=ht.one j i z y q2 hy q3 k1 q4;omega
   refine EX IF (λi2 z hz hk he=>?_) (λp Pj=>?_)
   ·have:=IF.is i2 z hz hk;rw[he,lH] at this;cases this
   apply ws;obtain⟨z,d,hz,Wy,_⟩:=Pj.place;have WI:=(ar.1 hz).1;refine nM ⟨by omega,by omega⟩ ?_;rw[aq];apply ws;apply oh pU WI (wx _);have Nk:=IF.put (v:=y.at_) Pj hz (by omega);have Yl:z.kind≠2:=λhh=>by
    have:=List.countP_eq_zero.1 IF.left z (iF hz);simp[hh] at this
   rw[ah Yl] at Nk;have ey:(⟨y.key,y.at_,1⟩:Cell)=y:=by rw[<-k1]
   rw[ey] at Nk;refine T.drop λw6 h6=>⟨⟨i+1,sS.set p y,tQ m' y.key (some y.at_),u'+1,bW,jC,Nk,⟨?_,?_,?_⟩,rfl,h6⟩,dn (by omega)⟩
   ·intro k v hk;unfold tQ at hk;by_cases ek:k=y.key
    ·rw[aj ek] at hk;cases hk;exact⟨i,y,by omega,hy,k1,ek.symm,rfl⟩
    ·rw[ah ek] at hk;obtain⟨j,z,q1,q2⟩:=hp.toX k v hk;exact⟨j,z,by omega,q2⟩
   ·intro j z hj QH Wy;unfold tQ;by_cases ek:z.key=y.key
    ·have:=ht.one j i z y QH hy Wy k1 ek;subst this;rw[hy] at QH;cases QH
     rw[aj rfl]
    ·rw[ah ek];refine hp.from_ j z ?_ QH Wy;by_cases ej:j=i
     ·subst ej;rw[hy] at QH;cases QH;exact aR rfl ek
     ·omega
   ·rw[va cs _ hy,hp.n];simp[k1]
  ·have k1: ¬y.kind=1:=by simpa using g2
   refine T.drop λw6 h6=>⟨⟨i+1,sS,m',u',bW,HG,IF,⟨?_,?_,?_⟩,rfl,h6⟩,dn (by omega)⟩
   ·intro k v hk;obtain⟨j,z,q1,q2⟩:=hp.toX k v hk;exact⟨j,z,by omega,q2⟩
   ·intro j z hj QH Wy;refine hp.from_ j z ?_ QH Wy;by_cases ej:j=i
    ·subst ej;rw[hy] at QH;cases QH;exact aR Wy k1
    ·omega
   ·rw[va cs _ hy,hp.n];simp[k1]
 ·have he:i=cs.length:=by omega
  subst he;obtain⟨rfl,rfl⟩:=hp.same ht;subst HG;have:=h (ai r) sS.length sS IF (by omega);exact λw hs=>this w ((hs.perm (bA.swap _ _ _)).focus (k:=2) rfl).drop
def Ge{b:OA}{c u lf k:Nat}{v:Int}{cs:List Cell}{m:Nat->Option Int}{R:LH}{r1:Nat}{g:LV->LH}[i:Lc (Sep.pt r1) R (nm k) g](ht:TI cs m u lf)(hr:4* (u+lf+1)<=3* cs.length)(hk:m k=none)
 (h:∀b' c' sS HE,TI sS (tQ m k (some v)) (u+1) HE->T W (Sep.pt t [.l b' sS.length c',.i ((u+1:Nat):Int),.i (HE:Int)]::own b' sS.length c' 4 (sS.flatMap kM)::R) (K (.b true))):
 T W (Sep.pt t [.l b cs.length c,.i (u:Int),.i (lf:Int)]::own b cs.length c 4 (cs.flatMap kM)::R) (cX.j1 K r1 (ai t) v):=by
 unfold cX.j1;apply ws;refine EX ht (λi2 z hz ZH he=>?_) (λp Pj=>?_)
 ·have:=ht.is i2 z hz ZH;rw[he,hk] at this;cases this
 obtain⟨z,d,hz,Wy,_⟩:=Pj.place;have WI:=(ar.1 hz).1;have hN:=ht.pow.le;apply ws;refine gu ⟨by omega,by omega⟩ λr hr=>?_;subst hr;rw[aq];simp only[dh,az];apply Er (r:=r) (j:=3) pU hz rfl;have Nk:=ht.put (v:=v) Pj hz hr;have Y0:∀HE:Nat,HE=(if z.kind=2 then lf-1 else lf)->T W (Sep.pt t [.l (ai r) cs.length c,.i (u:Int),.i (HE:Int)]::own (ai r) cs.length c 4 (cs.flatMap kM)::R) (cX.j2 K (ai t) r1 (p:Int) v):=by
  intro HE hlf;unfold cX.j2;apply ws;refine nM ⟨by omega,by omega⟩ ?_;rw[aq];apply dv rfl;show T W _ (fH _ (kM ⟨k,v,1⟩) _);apply oh pU WI (wx _);apply ws;have GI:=ht.room;rw[aS (by omega),show(u:Int)+1=((u+1:Nat):Int) by omega];have:=h (ai r) c (cs.set p ⟨k,v,1⟩) HE (by rw[hlf];exact Nk);rw[jC] at this;exact this
 have GI:=ht.room;apply ws;apply dz<;>intro g2
 ·have k2:z.kind=2:=by simpa using g2
  have h1:1<=lf:=by
   rw[<-ht.left];exact List.countP_pos_iff.2 ⟨z,iF hz,by simpa using k2⟩
  apply ws;rw[aS (by omega),show(lf:Int) -1=((lf-1:Nat):Int) by omega];exact Y0 (lf-1) (by rw[aj k2])
 ·have k2: ¬z.kind=2:=by simpa using g2
  exact Y0 lf (by rw[ah k2])
def KW{k:Nat}{v:Int}[i:Lc (l9 t) L x f](hu:x.2<=1000)(hk:x.1 k=none)(h:T W (f (tQ x.1 k (some v),x.2+1)) (K (.b true))):T W L (cX (ai t) (nm k) v K):=by
 refine NP (t:=t) λb c cs lf R ht hc=>?_;unfold cX;refine jy λr1=>cW rfl ?_;apply T.ac7;have hN:=ht.pow.le;have GI:=ht.room;have fin:∀b' c' sS HE,TI sS (tQ x.1 k (some v)) (x.2+1) HE->T W (Sep.pt t [.l b' sS.length c',.i ((x.2+1:Nat):Int),.i (HE:Int)]::own b' sS.length c' 4 (sS.flatMap kM)::Sep.pt r1 (nm k)::R) (K (.b true)):=
  λb' c' sS HE IF w hs=>hc _ _ _ _ _ _ _ IF h w (hs.focus (k:=2) rfl).drop
 have hw1:ag.wrap ((x.2:Int)+lf)=(x.2:Int)+lf:=aS (by omega);have Zm:ag.wrap ((x.2:Int)+lf+1)=(x.2:Int)+lf+1:=aS (by omega);have Zl:ag.wrap (4* ((x.2:Int)+lf+1))=4* ((x.2:Int)+lf+1):=aS (by omega);have hw4:ag.wrap (3* (cs.length:Int))=3* (cs.length:Int):=aS (by omega);apply ws;rw[hw1,Zm,Zl,hw4];apply gO<;>intro g
 ·refine Xc ht hu λb' c' sS IF HG=>?_;apply ws;exact Ge (lf:=0) IF (by omega) hk fin
 ·have:=g;exact Ge ht (by omega) hk fin
def Vg(h:∀t,T W (l9 t (λ_=>none,0)::L) (K (.p (ai t)))):T W L (tr K):=by
 unfold tr;refine Ep ⟨by decide,by decide,by decide,by decide⟩ λr=>?_;rw[show((8:Int).toNat)=8 from rfl,oR (g:=kM) (z:=⟨0,0,0⟩) (zs:=[.u 0,.u 0,.i 0,.int .u8 0]) rfl];apply ws;intros;rename_i r1;refine λw hs=>h r1 w ?_;exact St.nT (ai r,8,aM 8 ⟨0,0,0⟩,0) (St.and_intro (TI.new ⟨3,by decide,by decide,rfl⟩) (St.join hs))
end
section
variable {W:World} {L:LH} {K:VK} {X:WK} {α:Type} {r o:Nat} {pre post:LV} {g:α->LV} {e:Nat} {l:List α} {f:List α->LH}
def jr{e:Nat}(h:T W (own none 0 0 e []::L) X):T W L X:=λw hs=>h w (hs.push (qh e))
def mU{b:OA}{n c bytes r1:Nat}{zero:LV}{x:α}{ys:LV}{f:HP->LH}{f1:LV->LH}{K:OA->Nat->Nat->WK}[i:xF b n c L e (l.flatMap g) f][j:Lc (Sep.pt r1) L ys f1](hy:ys=g x)(hg:(g x).length=e)(hz:zero.length=e)
 (hb:(n+1)* bytes<=140737488355328)(hm:n+1<=9223372036854775807)(h1:∀v∈g x,v.oneCell'=true)(h:∀b' c',T W (f (own b' (n+1) c' e ((l++[x]).flatMap g))) (K b' (n+1) c')):T W L (jO e bytes zero b n c (ai r1) 1 K):=by
 refine N2 (ys:=ys) (by rw[hy];exact hg) hz hb (by rw[hy];exact h1) (λb' c'=>?_) hm;have:=h b' c';rw[fC] at this;simpa [hy] using this
def BQ{b:OA}{n c e i:Nat}{xs:LV}(hi:i<=n):∀h,own b n c e xs h->own b i c e (xs.take (i* e)) h:=λh=>by
 rintro⟨hl,h0|⟨r,sp,hb,sh,AJ,hp⟩⟩
 ·obtain⟨rfl,rfl,rfl⟩:=h0;have:i=0:=by omega
  subst this;exact⟨by simp,.inl ⟨rfl,rfl,rfl⟩⟩
 ·have hie:i* e<=n* e:=fS e hi;refine⟨by rw[aG];omega,.inr ⟨r,xs.drop (i* e)++sp,hb,by omega,?_,?_⟩⟩
  ·rw[ak,aV,AJ,hl,Nat.sub_mul,Nat.sub_mul];have:n* e<=c* e:=fS e sh;omega
  ·rw[<-aI,u2];exact hp
def DZ{g:α->LV}(hg:∀x,(g x).length=e):∀(l:List α)(i:Nat),(l.flatMap g).take (i* e)=(l.take i).flatMap g
 |[],i=>by simp
 |x::l,0=>by simp
 |x::l,i+1=>by
  rw[eP,List.take_succ_cons,eP,<-DZ hg l i,show(i+1)* e=(g x).length+i* e by rw[hg,lq];omega,List.take_length_add_append]
def xR{b:OA}{n c i:Nat}{f:HP->LH}[j:xF b n c L e (l.flatMap g) f](hg:∀x,(g x).length=e)(hi:i<=n)(h:T W (f (own b i c e ((l.take i).flatMap g))) X):T W L X:=λw hs=>by
 obtain⟨k,hk,e1⟩:=j.at_;apply h w;rw[e1,<-DZ hg];exact St.oS ((hs.focus hk).mono (BQ hi)) hk
def wZ{b:OA}{n c i:Nat}{K:OA->Nat->Nat->WK}(hi:i<=c)(h:T W L (K b i c)):T W L (oW b n c e none (some (i:Int)) K):=by
 unfold oW;refine dv ⟨by omega,by omega⟩ ?_;dsimp only;rw[Oc,aq];exact h
def nY{b:OA}{n c:Nat}{f:HP->LH}{xs:LV}[j:xF b n c L e xs f](h:n<=c->xs.length=n* e->T W L X):T W L X:=λw hs=>by
 obtain⟨k,hk,_⟩:=j.at_;obtain⟨hl,h0|⟨r,sp,hb,sh,_⟩⟩:=hs.k8 hk
 ·exact h (by omega) hl w hs
 ·exact h sh hl w hs
end
abbrev kR:=Int×Int
def mj(p:kR):LV:=[.i p.1,.i p.2]
def k7(p:kR):(mj p).length=2:=rfl
instance{p:kR}:Ln (mj p) 2:=⟨rfl⟩
instance{p:kR}:Gt (mj p) 1 (.i p.2):=⟨rfl⟩
def ra(p:kR):∀v∈mj p,v.oneCell'=true:=λv h=>by simp[mj] at h;rcases h with rfl|rfl<;>rfl
instance{x1 x2:Value}{p:kR}:Wr [x1,x2] 0 (mj p) (mj p):=⟨rfl,aC _,ra p⟩
def pos(s:Int):List kR->Nat
 |[]=>0
 |p::l=>if p.1<s then pos s l+1 else 0
def EG(s:Int):∀l:List kR,pos s l<=l.length
 |[]=>aC _
 |p::l=>by unfold pos;split<;>simp;exact EG s l
def pX(l:List kR):Prop:=l.Pairwise λa b=>a.1<b.1
def Iv(s:Int):∀(l:List kR)(i:Nat),i<=l.length->(∀(j:Nat)(p:kR),j<i->l[j]?=some p->p.1<s)->(∀(j:Nat)(p:kR),i<=j->l[j]?=some p->s<=p.1)->i=pos s l
 |[],i,hi,_,_=>by simp at hi;subst hi;rfl
 |q::l,0,hi,h1,h2=>by
  unfold pos;rw[ah];have:=h2 0 q (aC _) rfl;omega
 |q::l,i+1,hi,h1,h2=>by
  unfold pos;rw[aj (h1 0 q (by omega) rfl),<-Iv s l i (by simpa using hi) (λj p hj hp=>h1 (j+1) p (by omega) (by simpa using hp)) (λj p hj hp=>h2 (j+1) p (by omega) (by simpa using hp))]
def half{i j:Nat}(h:i+j<4611686018427387904):ag.wrap (shr .u64 (IntKind.u64.wrap (ag.wrap ((i:Int)+j))) 1)=(((i+j)/2:Nat):Int):=by
 have e0:ag.wrap ((i:Int)+j)=((i+j:Nat):Int):=by rw[aS (by omega)];omega
 rw[e0,Bv (by omega)];unfold shr;have e:min (1:Int).toNat IntKind.u64.bits=1:=rfl;rw[e,CR _ (by decide)];rw[aS (by omega)];omega
def yX(s:Int)(l:List kR)(i:Nat):Bool:=match l[i]? with|some p=>decide (s<=p.1)|none=>true
section
variable {W:World} {L:LH} {K:VK} {X:WK} {r o:Nat} {l:List kR}
def Qj{n:Nat}{v:Value}(P:Nat->Bool)(hn:n<1099511627776)(T6:∀i j,i<=j->P i=true->P j=true)
 (Z1:∀(i:Nat)(K:VK),i<n->T W L (K (.b (P i)))->T W L (tL [(N.dS,dS.u)] v [.i (i:Int)] K))
 (h:∀i:Nat,i<=n->(∀j,j<i->P j=false)->(∀j,i<=j->j<n->P j=true)->T W L (K (.i (i:Int)))):T W L (sq (n:Int) v K):=by
 unfold sq;intro w hs;refine⟨λvs w=>∃i j:Nat,i<=j/\j<=n/\(∀k,k<i->P k=false)/\(∀k,j<=k->k<n->P k=true)/\vs=[.i 0,.i (i:Int),.i (j:Int)]/\St W w L,
  λvs _=>match vs with|[_,.int _ i,.int _ j]=>j.toNat-i.toNat|_=>0,⟨0,n,aL _,aC _,(λk hk=>by omega),(λk h1 h2=>by omega),rfl,hs⟩,?_⟩
 rintro n2 n3 n4 w2 ⟨i,j,Ks,hjn,hi,hj,e,hs⟩;cases e
 refine T.at ?_ hs;rw[half (by omega)];apply gO<;>intro g
 ·have bW:i<j:=by omega
  refine dv (by decide) (Z1 _ _ (by omega) ?_);refine mO (dz (λg2=>?_) (λg2=>?_))
  ·have p0:P ((i+j)/2)=false:=by simpa using g2
   have e1:ag.wrap ((((i+j)/2:Nat):Int)+1)=(((i+j)/2+1:Nat):Int):=by rw[aS (by omega)];omega
   rw[e1];refine λw3 h3=>⟨⟨(i+j)/2+1,j,by omega,hjn,λk hk=>?_,hj,rfl,h3⟩,dn (by omega)⟩;cases hp:P k with
   |false=>rfl
   |true=>rw[T6 k ((i+j)/2) (by omega) hp] at p0;cases p0
  ·have p1:P ((i+j)/2)=true:=by simpa using g2
   refine λw3 h3=>⟨⟨i,(i+j)/2,by omega,by omega,hi,λk hk _=>T6 _ k hk p1,rfl,h3⟩,by show(((i+j)/2:Nat):Int).toNat-(i:Int).toNat<(j:Int).toNat-(i:Int).toNat;omega⟩
 ·have:i=j:=by omega
  subst this;exact h i hjn hi hj
def AW{s:Int}{cs:LV}{b:OA}{c:Nat}{f:LV->LH}{g:HP->LH}(hv:cs[o]?=some (.l b l.length c))(hr:pX l)(hl:l.length<1099511627776)[i:Lc (Sep.pt r) L cs f][j:xF b l.length c L 2 (l.flatMap mj) g](h:T W L (K (.i (pos s l:Int)))):T W L (iS (some ⟨r,o,none⟩) s K):=by
 unfold iS
 repeat' first|apply ws;intros|apply wb|refine ma hv ?_
 rename_i r1 r2;refine Qj (yX s l) hl ?_ ?_ ?_
 ·intro i j Ks hi;unfold yX at *;by_cases hj:j<l.length
  ·have sj:i<l.length:=by omega
   rw[ao sj] at hi;rw[ao hj];simp only[decide_eq_true_eq] at *;by_cases e:i=j
   ·subst e;exact hi
   ·have:=nh.1 hr i j sj hj (by omega);omega
  ·rw[gj (by omega)]
 ·intro i K hi hK;show T W _ (dS (i:Int) (ad r1 0) (ad r2 0) K);unfold dS
  repeat' first|apply ws|apply wb|refine ma hv ?_
  refine gu ⟨by omega,by omega⟩ λrb hb=>?_;subst hb;rw[aq];refine HT k7 (ao hi) rfl ?_;apply ws;apply T.fin (T.dp hK);unfold yX;rw[ao hi]
 ·intro i hi h1 h2;apply ws;have e:i=pos s l:=Iv s l i hi (λj p hj hp=>by
   have:=h1 j hj
   unfold yX at this
   rw[hp] at this
   simpa using this) (λj p hj hp=>by
   have:=h2 j hj (ar.1 hp).1
   unfold yX at this
   rw[hp] at this
   simpa using this)
  subst e;exact T.drop (T.drop h)
def J7{s:Int}:∀{l:List kR},(∀p∈l,p.1<s)->pos s l=l.length
 |[],_=>rfl
 |p::l,h=>by unfold pos;rw[aj (h p (by simp)),J7 λq hq=>h q (by simp[hq])];rfl
def Eo{r o:Nat}{cs:LV}{v:Value}{u:Value}{f:LV->LH}[i:Lc (Sep.pt r) L cs f](hv:cs[o]?=some u)(h1:v.oneCell'=true)(h:T W (f (cs.set o v)) X):T W L (st ⟨r,o,none⟩ v X):=vf (ar.1 hv).1 h1 h
def qy{cs:LV}{o:Nat}{u v:Value}(hv:cs[o]?=some u):(cs.set o v)[o]?=some v:=by rw[cA,aj rfl,aj (ar.1 hv).1]
def ve{b:OA}{n c i e:Nat}{K:OA->Nat->Nat->WK}(hi:i<=n)(h:T W L (K (rF b c i e) (n-i) (c-i))):T W L (oW b n c e (some (i:Int)) none K):=by
 unfold oW;refine dv ⟨by omega,by omega⟩ ?_;rw[aq];exact h
def KT(w:World)(e:Nat)(b:OA):Src w 0 e b []:=⟨by simp,λa ha j v hj=>by simp at hj⟩
def YP{e n m:Nat}{b b':OA}{K:Nat->WK}(hm:min m n=0)(h:T W L (K 0)):T W L (PS e b n b' m K):=λw hs=>by
 unfold PS;rw[hm];exact⟨[],KT w e b',λ_=>rfl,λ_=>h w hs,λa _=>⟨⟨by simp,λj hj=>by simp at hj⟩,h w hs⟩⟩
def VP{b b':OA}{n c e bytes:Nat}{zero:LV}{K:OA->Nat->Nat->WK}{xs:LV}{f:HP->LH}[i:xF b n c L e xs f](h:T W L (K b n c)):T W L (jO e bytes zero b n c b' 0 K):=
 nY (b:=b) λsh _ w hs=>⟨[],KT w e b',λ_=>rfl,λ_=>⟨λa _=>⟨⟨by simp,λj hj=>by simp at hj⟩,h w hs⟩,λ_=>h w hs⟩,λbW=>by omega⟩
section
variable {R:LH} {cs:LV} {b:OA} {c:Nat}
def We{s a:Int}(hv:cs[o]?=some (.l b l.length c))(hr:pX l)(hl:l.length<1099511627)(hs:∀p∈l,p.1<s)
 (h:∀b' c',T W (Sep.pt r (cs.set o (.l b' (l.length+1) c'))::own b' (l.length+1) c' 2 ((l++[(s,a)]).flatMap mj)::R) (K (.b true))):
 T W (Sep.pt r cs::own b l.length c 2 (l.flatMap mj)::R) (gg (some ⟨r,o,none⟩) s a K):=by
 unfold gg;apply vh;apply AW hv hr (by omega);rw[J7 hs]
 repeat' first|apply ws|apply wb|refine ma hv ?_
 apply cW (by simp);unfold gg.j1
 repeat' first|apply ws;intros|apply wb|refine ma hv ?_
 refine mU (x:=((0:Int),(0:Int))) rfl rfl rfl (by omega) (by omega) (ra _) λb' c'=>?_
 repeat' first|apply ws|apply wb|first|refine Eo hv rfl ?_|refine ma (qy hv) ?_
 have e1:ag.wrap ((l.length:Int)+1)=((l.length+1:Nat):Int):=by rw[aS (by omega)];omega
 rw[e1];apply ve (aC _)
 repeat' first|apply ws|apply wb|refine ma (qy hv) ?_
 apply ve (by omega);apply YP (by omega)
 repeat' first|apply ws|apply wb|first|refine vg (qy hv) ?_|refine ma (qy hv) ?_
 refine nY (b:=b') λsh hlen=>?_;refine gu ⟨by omega,by omega⟩ λrb hb=>?_;subst hb;rw[aq];apply dv rfl;show T W _ (fH _ (mj (s,a)) _);apply oh k7 (by simp) (ra _);have:=h (ai rb) c';rw[List.set_append_right _ _ (aC _)];simpa using T.drop this
def Rz{s a:Int}{l0:List kR}(hv:cs[o]?=some (.l b l.length c))(hr:pX l)(hl:l.length<1099511627)(hs:l=l0++[(s,a)])
 (h:∀b' c',T W (Sep.pt r (cs.set o (.l b' l0.length c'))::own b' l0.length c' 2 (l0.flatMap mj)::R) (K (.b true))):
 T W (Sep.pt r cs::own b l.length c 2 (l.flatMap mj)::R) (gn (some ⟨r,o,none⟩) s K):=by
 have hlen:l.length=l0.length+1:=by rw[hs];simp
 have hp:pos s l=l0.length:=by
  refine(Iv s l l0.length (by omega) (λj p hj T3=>?_) (λj p hj T3=>?_)).symm
  ·have bW:=(ar.1 T3).1;have:=nh.1 hr j l0.length bW (by omega) hj;rw[ao bW] at T3;rw[bj.inj T3] at this;have e:l[l0.length]=(s,a):=by simp[hs]
   rw[e] at this;exact this
  ·have bW:=(ar.1 T3).1;have:j=l0.length:=by omega
   subst this;rw[hs] at T3;simp at T3;rw[<-T3];exact u0 _
 have hg:l[l0.length]?=some (s,a):=by rw[hs];simp
 unfold gn;apply vh;apply AW hv hr (by omega);rw[hp]
 repeat' first|apply ws|apply wb|refine ma hv ?_
 refine cW (by simp;omega) ?_
 repeat' first|apply ws|apply wb|refine ma hv ?_
 refine gu ⟨by omega,by omega⟩ λrb hb=>?_;subst hb;rw[aq];apply HT k7 hg rfl;apply ws;unfold gn.j1;apply cW (by simp)
 repeat' first|apply ws|apply wb|refine ma hv ?_
 refine nY (b:=ai rb) λsh Cc=>?_;apply wZ (by omega)
 repeat' first|apply ws|apply wb|refine ma hv ?_
 have e1:ag.wrap ((l0.length:Int)+1)=((l0.length+1:Nat):Int):=by rw[aS (by omega)];omega
 rw[e1];apply ve (by omega);rw[hlen] at hv;rw[hlen,sH];have et:l.take l0.length=l0:=by rw[hs];simp
 refine xR (b:=ai rb) (i:=l0.length) k7 (by omega) ?_;rw[et];apply VP (b:=ai rb)
 repeat' first|apply ws|apply wb|first|refine vg hv ?_|refine Eo hv rfl ?_
 exact h _ _
def ta(toX:Int)(l:List kR):Nat:=if toX=0 then l.length else match l[pos toX l]? with|some p=>if p.1=toX then pos toX l+1 else pos toX l|none=>pos toX l
def Q2(toX:Int)(l:List kR):ta toX l<=l.length:=by
 unfold ta;have:=EG toX l;split
 ·exact aC _
 ·split
  ·rename_i p hp;have:=(ar.1 hp).1;split<;>omega
  ·omega
def nI(from_ toX:Int)(l:List kR):List kR:=(l.drop (pos from_ l)).take (ta toX l-pos from_ l)
def Rq{m out:List kR}{i:Nat}(hl:m.length=out.length)(hm:∀j,j<out.length->m[j]?=if j<i\/out.length-1-j<i then out[out.length-1-j]? else out[j]?)(hi:out.length<=2* i+1):m=out.reverse:=by
 apply jq;intro j;by_cases hj:j<out.length
 ·rw[hm j hj,List.getElem?_reverse hj];by_cases h:j<i\/out.length-1-j<i
  ·rw[aj h]
  ·rw[ah h];congr 1;omega
 ·rw[gj (by omega),gj (by simpa using hj)]
def OQ{from_ toX:Int}{wu:Bool}{f:LV->LH}{g:HP->LH}(hv:cs[o]?=some (.l b l.length c))(hr:pX l)(hl:l.length<100000)[i:Lc (Sep.pt r) L cs f][j:xF b l.length c L 2 (l.flatMap mj) g]
 (h:∀b' c' out,out=(if wu then(nI from_ toX l).reverse else nI from_ toX l)->T W (own b' out.length c' 2 (out.flatMap mj)::L) (K (.l b' out.length c'))):T W L (eu (some ⟨r,o,none⟩) from_ toX wu K):=by
 unfold eu;apply vh
 repeat' first|apply ws|apply wb|refine ma hv ?_
 apply AW hv hr (by omega)
 repeat' first|apply ws|apply wb|refine vg hv ?_
 have j1:T W L (eu.j1 K (pos from_ l:Int) (some ⟨r,o,none⟩) wu (ta toX l:Int)):=by
  have hul:=Q2 toX l;unfold eu.j1;refine jr (e:=2) ?_;intro w hs;refine⟨λvs w=>∃(k:Nat)(out:List kR)(b':OA)(c':Nat),pos from_ l<=k/\(k<=ta toX l\/k=pos from_ l)/\out=(l.drop (pos from_ l)).take (k-pos from_ l)/\out.length=k-pos from_ l/\
   vs=[.l none 0 0,.i (k:Int),.i (ta toX l:Int),.l b' out.length c']/\St W w (own b' out.length c' 2 (out.flatMap mj)::L),
   λvs _=>match vs with|[_,.int _ k,.int _ n,_]=>n.toNat-k.toNat|_=>0,⟨pos from_ l,[],none,0,aC _,.inr rfl,by simp,by simp,rfl,hs⟩,?_⟩
  rintro mg jJ mP n5 n6 b' oP c' w2 ⟨k,out,b0,c0,hk1,wI,WL,hol,e,hs⟩;cases e
  refine T.at ?_ hs;have Pf:=EG from_ l;apply gO<;>intro g1
  ·have bW:k<ta toX l:=by omega
   have e5:=oe k;have hg:=ao (show k<l.length by omega);generalize l[k]=p at hg
   repeat' first|apply ws|apply wb|refine ma hv ?_
   refine gu ⟨by omega,by omega⟩ λrb hb=>?_;subst hb;rw[aq,e5];apply jH k7 hg;apply ws;intros;refine mU (x:=p) rfl rfl rfl (by omega) (by omega) (ra _) λb2 c2=>?_;refine T.drop λw3 h3=>⟨⟨k+1,out++[p],b2,c2,by omega,.inl bW,?_,by simp;omega,by simp,by simpa using h3⟩,dn (by omega)⟩;rw[show k+1-pos from_ l=(k-pos from_ l)+1 by omega,bP,<-WL,px,show pos from_ l+(k-pos from_ l)=k by omega,hg]
   rfl
  ·have kP:ta toX l<=k:=by omega
   have Zr:out=nI from_ toX l:=by
    rw[WL];unfold nI;rcases wI with h2|h2
    ·rw[show k=ta toX l by omega]
    ·rw[h2,sH,show ta toX l-pos from_ l=0 by omega]
   apply dz<;>intro g2
   ·subst g2;intro w2 hs;refine⟨λvs w=>∃(i:Nat)(m:List kR),i<=out.length/\m.length=out.length/\(∀j,j<out.length->m[j]?=if j<i\/out.length-1-j<i then out[out.length-1-j]? else out[j]?)/\
     vs=[.l none 0 0,.l b' out.length c',.i (i:Int),.i ((out.length:Int) -1-i)]/\St W w (own b' out.length c' 2 (m.flatMap mj)::L),
     λvs _=>match vs with|[_,_,.int _ k,_]=>out.length-k.toNat|_=>0,⟨0,out,aL _,rfl,λj hj=>by simp,by rw[aS (by omega)];simp,hs⟩,?_⟩
    rintro sb6 sn6 sc6 sb7 sn7 sc7 n7 n8 w5 ⟨i,m,hi,GJ,hm,e,hs⟩;cases e
    refine T.at ?_ hs;apply gO<;>intro g3
    ·have bW:(i:Int)<(out.length:Int) -1-i:=g3;obtain⟨k2,adu⟩:∃k2:Nat,k2=out.length-1-i:=⟨_,rfl⟩;have ek:(out.length:Int) -1-i=(k2:Int):=by omega
     have e5:=oe i;have e6:ag.wrap ((k2:Int) -1)=(out.length:Int) -1-((i+1:Nat):Int):=by rw[aS (by omega)];omega
     have g4:=ao (show i<m.length by omega);have g5:=ao (show k2<m.length by omega);have g6:=hm i (by omega);have g7:=hm k2 (by omega);rw[ah (by omega)] at g6;rw[ah (by omega)] at g7;generalize m[i]=x at g4;generalize m[k2]=y at g5;rw[ek,e5,e6];apply ws;refine gu ⟨by omega,by omega⟩ λrb hb=>?_;subst hb;rw[aq];apply jH k7 g5;refine nM ⟨by omega,by omega⟩ ?_;rw[aq];apply jH k7 g4;refine nM ⟨by omega,by omega⟩ ?_;rw[aq];refine dv rfl (oh k7 (by omega) (ra _) ?_);refine nM ⟨by omega,by omega⟩ ?_;rw[aq];refine dv rfl (oh k7 (by simp;omega) (ra _) ?_);refine λw3 h3=>⟨⟨i+1,(m.set i y).set k2 x,by omega,by simp[GJ],λj hj=>?_,rfl,h3⟩,dn (by omega)⟩;rw[cA,cA];by_cases q1:k2=j
     ·subst q1;rw[aj rfl,aj (by simp;omega),aj (by omega),show out.length-1-k2=i by omega,<-g6,g4]
     ·rw[ah q1];by_cases q2:i=j
      ·subst q2;rw[aj rfl,aj (by omega),aj (by omega),<-adu,<-g7,g5]
      ·rw[ah q2,hm j hj];by_cases q3:j<i\/out.length-1-j<i
       ·rw[aj q3,aj (by omega)]
       ·rw[ah q3,ah (by omega)]
    ·have agy: ¬(i:Int)<(out.length:Int) -1-i:=g3;have:=Rq GJ hm (by omega);subst this;have:=h b' c' out.reverse (by rw[aj rfl,Zr]);rw[ga] at this;exact this
   ·subst g2;exact h b' c' out (by rw[ah (by decide),Zr])
 apply dz<;>intro g1
 ·have QJ:toX≠0:=by simpa using g1
  apply AW hv hr (by omega);have hpt:=EG toX l
  repeat' first|apply ws|apply wb|refine ma hv ?_
  unfold ta at j1;rw[ah QJ] at j1;apply gO<;>intro g2
  ·have bW:pos toX l<l.length:=by omega
   have hg:=ao bW;generalize l[pos toX l]=p at hg;have e5:ag.wrap ((pos toX l:Int)+1)=((pos toX l+1:Nat):Int):=by rw[aS (by omega)];omega
   rw[hg] at j1;dsimp only at j1
   repeat' first|apply ws|apply wb|refine ma hv ?_
   rw[e5];refine gu ⟨by omega,by omega⟩ λrb hb=>?_;subst hb;rw[aq];apply HT k7 hg rfl;apply ws;apply dz<;>intro g3
   ·rw[aj (by simpa using g3)] at j1;exact j1
   ·rw[ah (by simpa using g3)] at j1;exact j1
  ·have kP:l.length<=pos toX l:=by omega
   rw[gj kP] at j1;exact j1
 ·have QJ:toX=0:=by simpa using g1
  unfold ta at j1;rw[aj QJ] at j1;exact j1
end
end
structure Item where
 due:Int
 aw:Int
 id:Nat
def eW(x:Item):LV:=[.i x.due,.i x.aw]++nm x.id
def fM(x:Item):(eW x).length=4:=rfl
instance{x:Item}:Ln (eW x) 4:=⟨rfl⟩
instance{x:Item}:Gt (eW x) 0 (.i x.due):=⟨rfl⟩
instance{x:Item}:Gt (eW x) 1 (.i x.aw):=⟨rfl⟩
def nw(x:Item):∀v∈eW x,v.oneCell'=true:=lW (λv h=>by simp at h;rcases h with rfl|rfl<;>rfl) (jL _)
instance{x1 x2 x3 x4:Value}{p:Item}:Wr [x1,x2,x3,x4] 0 (eW p) (eW p):=⟨rfl,aC _,nw p⟩
instance{p:Item}:Sub (eW p) 0 4 (eW p):=⟨rfl,λj v h=>by rw[az];exact h⟩
def bf(a b:Item):Prop:=a.due<b.due\/a.due=b.due/\a.aw<b.aw
instance(a b:Item):Decidable (bf a b):=by unfold bf;infer_instance
def KH{a b:Item}(h:bf a b): ¬bf b a:=by unfold bf at *;omega
def Hk{a b c:Item}(h:bf a b)(g:bf b c):bf a c:=by unfold bf at *;omega
def B0{a b c:Item}(h: ¬bf a b)(g: ¬bf b c): ¬bf a c:=by unfold bf at *;omega
def OT{a b c:Item}(h: ¬bf a c)(g:bf b c): ¬bf a b:=λhh=>h (Hk hh g)
def Jh(a:Item): ¬bf a a:=by unfold bf;omega
def par(j:Nat):Nat:=(j-1)/2
def NB(h:List Item)(i j:Nat):Prop:=∀x y,h[i]?=some x->h[j]?=some y-> ¬bf x y
def sn(h:List Item):Prop:=∀j,0<j->NB h j (par j)
def HU(h:List Item)(i:Nat):Prop:=(∀j,0<j->j≠i->NB h j (par j))/\(∀j,0<j->par j=i->0<i->NB h j (par i))
def HD(h:List Item)(i:Nat):Prop:=(∀j,0<j->par j≠i->NB h j (par j))/\(∀j,0<j->par j=i->0<i->NB h j (par i))
def Kids(h:List Item)(i:Nat):Prop:=∀j,0<j->par j=i->NB h j i
def sn.hu{h:List Item}(hh:sn h)(i:Nat):HU h i:=by
 refine⟨λj h0 _=>hh j h0,λj h0 hp hi x y hx hy=>?_⟩;have bW:j<h.length:=(ar.1 hx).1;have hil:i<h.length:=by unfold par at hp;omega
 have a1:=hh j h0 x _ hx (by rw[hp];exact ao hil);exact B0 a1 (hh i hi _ y (ao hil) hy)
def HU.heap{h:List Item}{i:Nat}(hu:HU h i)(hx:i=0\/NB h i (par i)):sn h:=λj h0=>by
 by_cases e:j=i
 ·subst e;rcases hx with hx|hx
  ·omega
  ·exact hx
 ·exact hu.1 j h0 e
def HD.heap{h:List Item}{i:Nat}(hd:HD h i)(hk:Kids h i):sn h:=λj h0=>by
 by_cases e:par j=i
 ·rw[e];exact hk j h0 e
 ·exact hd.1 j h0 e
def Q8(h:List Item)(i k:Nat)(x y:Item):List Item:=(h.set i y).set k x
def JM(h:List Item)(i k:Nat)(x y:Item):(Q8 h i k x y).length=h.length:=by simp[Q8]
section
variable {h:List Item} {i k:Nat} {x y:Item}
def JN(hx:h[i]?=some x)(hy:h[k]?=some y)(Sa:i≠k)(j:Nat):(Q8 h i k x y)[j]?=if j=i then some y else if j=k then some x else h[j]?:=by
 have l1:=(ar.1 hx).1;have l2:=(ar.1 hy).1;unfold Q8;rw[cA,cA];by_cases e1:k=j
 ·subst e1;rw[aj rfl,aj (by simpa using l2),ah (by omega),aj rfl]
 ·rw[ah e1];by_cases e2:i=j
  ·subst e2;rw[aj rfl,aj l1,aj rfl]
  ·rw[ah e2,ah (by omega),ah (by omega)]
def vZ:∀{h:List Item} {i:Nat} {x y:Item},h[i]?=some x->(x::h.set i y).Perm (y::h)
 |[],i,x,y,hx=>by simp at hx
 |a::h,0,x,y,hx=>by simp at hx;subst hx;exact bA.swap _ _ _
 |a::h,i+1,x,y,hx=>by
  have ih:=vZ (y:=y) (show h[i]?=some x by simpa using hx);rw[kf];exact(bA.swap _ _ _).trans ((ih.cons a).trans (bA.swap _ _ _))
def FY(hx:h[i]?=some x)(hy:h[k]?=some y)(Sa:i≠k):(Q8 h i k x y).Perm h:=by
 have h1:=vZ (y:=y) hx;have hy2:(h.set i y)[k]?=some y:=by rw[cA,ah Sa];exact hy
 have h2:=vZ (y:=x) hy2;exact(List.perm_cons y).1 (h2.trans h1)
def HU.step(hu:HU h i)(hi:0<i)(hx:h[i]?=some x)(hy:h[par i]?=some y)(hb:bf x y):HU (Q8 h i (par i) x y) (par i):=by
 have Sa:i≠par i:=by unfold par;omega
 have g:=JN hx hy Sa
 constructor
 ·intro j h0 hj a b ha oJ;rw[g] at ha oJ;by_cases e1:j=i
  ·subst e1;rw[aj rfl] at ha;cases ha
   rw[ah (λh=>Sa h.symm),aj rfl] at oJ;cases oJ
   exact KH hb
  ·rw[ah e1,ah hj] at ha;by_cases e2:par j=i
   ·rw[aj e2] at oJ;cases oJ
    exact hu.2 j h0 e2 hi a y ha hy
   ·rw[ah e2] at oJ;by_cases e3:par j=par i
    ·rw[aj e3] at oJ;cases oJ
     exact OT (hu.1 j h0 e1 a y ha (by rw[e3];exact hy)) hb
    ·rw[ah e3] at oJ;exact hu.1 j h0 e1 a b ha oJ
 ·intro j h0 hp R4 a b ha oJ;have n1:par (par i)≠i:=by unfold par;omega
  have n2:par (par i)≠par i:=by unfold par at *;omega
  rw[g] at ha oJ;rw[ah n1,ah n2] at oJ;have top:=hu.1 (par i) R4 (λh=>Sa h.symm) y b hy oJ;by_cases e1:j=i
  ·subst e1;rw[aj rfl] at ha;cases ha
   exact top
  ·have n3:j≠par i:=by intro h;rw[h] at hp;exact n2 hp
   rw[ah e1,ah n3] at ha;exact B0 (hu.1 j h0 e1 a y ha (by rw[hp];exact hy)) top
def HD.step(hd:HD h i)(hk:par k=i)(h0k:0<k)(hx:h[i]?=some x)(hy:h[k]?=some y)(hb:bf y x)(wH:∀j,0<j->par j=i->NB h j k):HD (Q8 h i k x y) k:=by
 have Sa:i≠k:=by intro h;unfold par at hk;omega
 have g:=JN hx hy Sa
 constructor
 ·intro j h0 hj a b ha oJ;rw[g] at ha oJ;by_cases e1:j=i
  ·subst e1;rw[aj rfl] at ha;cases ha
   have n1:par j≠j:=by unfold par;omega
   rw[ah n1,ah hj] at oJ;exact hd.2 k h0k hk h0 y b hy oJ
  ·rw[ah e1] at ha;by_cases e2:j=k
   ·subst e2;rw[aj rfl] at ha;cases ha
    rw[aj hk] at oJ;cases oJ
    exact KH hb
   ·rw[ah e2] at ha;by_cases e3:par j=i
    ·rw[aj e3] at oJ;cases oJ
     exact wH j h0 e3 a y ha hy
    ·rw[ah e3,ah hj] at oJ;exact hd.1 j h0 e3 a b ha oJ
 ·intro j h0 hp hk0 a b ha oJ;rw[g] at ha oJ;rw[aj hk] at oJ;cases oJ
  have n1:j≠i:=by intro h;unfold par at hp hk;omega
  have n2:j≠k:=by intro h;unfold par at hp;omega
  rw[ah n1,ah n2] at ha;exact hd.1 j h0 (by rw[hp];exact λh=>Sa h.symm) a y ha (by rw[hp];exact hy)
def sn.first(hh:sn h)(hx:h[0]?=some x):∀y∈h,¬bf y x:=by
 have key:∀(n j:Nat),j<=n->∀y:Item,h[j]?=some y-> ¬bf y x:=by
  intro n
  induction n with
  |zero=>intro j hj y hy;have:j=0:=by omega
         subst this;rw[hx] at hy;cases hy;exact Jh x
  |succ n ih=>
   intro j hj y hy;by_cases h0:j=0
   ·subst h0;rw[hx] at hy;cases hy;exact Jh x
   ·have bW:=(ar.1 hy).1;have hp:par j<h.length:=by unfold par;omega
    exact B0 (hh j (by omega) y _ hy (ao hp)) (ih (par j) (by unfold par;omega) _ (ao hp))
 intro y hy;obtain⟨j,hj⟩:=qO hy;exact key j j (aC _) y hj
def JE{z:Item}{n:Nat}(hh:sn h)(hl:h.length=n+1)(hi:i<n)(hz:h[n]?=some z):
 (i=0\/NB ((h.set i z).take n) i (par i))->HD ((h.set i z).take n) i:=by
 have g:∀j,((h.set i z).take n)[j]?=if j<n then(if j=i then some z else h[j]?) else none:=by
  intro j;rw[pw];by_cases h1:j<n
  ·rw[aj h1,aj h1,cA];by_cases h2:i=j
   ·subst h2;rw[aj rfl,aj (by omega),aj rfl]
   ·rw[ah h2,ah (by omega)]
  ·rw[ah h1,ah h1]
 have old:∀j a,j≠i->((h.set i z).take n)[j]?=some a->h[j]?=some a:=by
  intro j a hj ha;rw[g] at ha;rw[ah hj] at ha;split at ha
  ·exact ha
  ·cases ha
 intro ht;refine⟨λj h0 hp a b ha hb=>?_,λj h0 hp ZL a b ha hb=>?_⟩
 ·by_cases e:j=i
  ·subst e;rcases ht with ht|ht
   ·omega
   ·exact ht a b ha hb
  ·exact hh j h0 a b (old j a e ha) (old _ b hp hb)
 ·have n1:j≠i:=by intro h;unfold par at hp;omega
  have n2:par i≠i:=by unfold par;omega
  exact(hh.hu i).2 j h0 hp ZL a b (old j a n1 ha) (old _ b n2 hb)
def Q4{z:Item}{n:Nat}(hh:sn h)(hl:h.length=n+1)(hi:i<n)(hz:h[n]?=some z)(h0i:0<i){y:Item}(hy:h[par i]?=some y)(hb:bf z y):
 HU ((h.set i z).take n) i/\Kids ((h.set i z).take n) i:=by
 have g:∀j,((h.set i z).take n)[j]?=if j<n then(if j=i then some z else h[j]?) else none:=by
  intro j;rw[pw];by_cases h1:j<n
  ·rw[aj h1,aj h1,cA];by_cases h2:i=j
   ·subst h2;rw[aj rfl,aj (by omega),aj rfl]
   ·rw[ah h2,ah (by omega)]
  ·rw[ah h1,ah h1]
 have old:∀j a,j≠i->((h.set i z).take n)[j]?=some a->h[j]?=some a:=by
  intro j a hj ha;rw[g] at ha;rw[ah hj] at ha;split at ha
  ·exact ha
  ·cases ha
 have top:=(hh.hu i).2;have kids:Kids ((h.set i z).take n) i:=λj h0 hp a b ha oJ=>by
  have n1:j≠i:=by intro h;unfold par at hp;omega
  rw[g,aj hi,aj rfl] at oJ;cases oJ
  exact OT (top j h0 hp h0i a y (old j a n1 ha) hy) hb
 refine⟨⟨λj h0 hj a b ha oJ=>?_,λj h0 hp ZL a b ha oJ=>?_⟩,kids⟩
 ·by_cases e:par j=i
  ·rw[e] at oJ;exact kids j h0 e a b ha oJ
  ·exact hh j h0 a b (old j a hj ha) (old _ b e oJ)
 ·have n1:j≠i:=by intro h;unfold par at hp;omega
  have n2:par i≠i:=by unfold par;omega
  exact top j h0 hp ZL a b (old j a n1 ha) (old _ b n2 oJ)
end
section
variable {W:World} {R:LH} {L:LH} {K:VK} {X:WK} {r o:Nat} {cs:LV} {b:OA} {c:Nat} {h:List Item}
def Hl{x y:Item}(hk:T W L (K (.b (decide (bf x y))))):T W L (oZ (eW x) (eW y) K):=by
 unfold oZ
 repeat' first|apply ws;intros|apply wb|apply dz<;>intro h1
 all_goals apply T.fin (T.dp hk)
 ·have:=bG h1;rw[aA (show bf x y from .inl this)]
 ·rename_i h2;have h2:=cD h2;have h3:x.due=y.due:=by simpa using h1
  congr 1
  rw[decide_eq_decide];unfold bf;omega
 ·rename_i h2;have h2:=cD h2;have h3: ¬x.due=y.due:=by simpa using h1
  rw[ay (show ¬bf x y by unfold bf;omega)]
def GO{i:Nat}(h0:0<i)(h:i<1099511627776):ag.wrap ((ag.wrap ((i:Int) -1)).tdiv (2:Int))=((par i:Nat):Int):=by
 have e0:ag.wrap ((i:Int) -1)=((i-1:Nat):Int):=by rw[aS (by omega)];omega
 rw[e0];unfold par;have e1:((i-1:Nat):Int).tdiv 2=(((i-1)/2:Nat):Int):=by rw[Int.tdiv_eq_ediv_of_nonneg (by omega)];omega
 rw[e1,aS (by omega)]
def YG{i:Nat}(hv:cs[o]?=some (.l b h.length c))(hl:h.length<100000)(hi:i<h.length)(hu:HU h i)
 (hk:∀h',sn h'->h'.Perm h->T W (Sep.pt r cs::own b h.length c 4 (h'.flatMap eW)::R) (K (.tuple ⟨[]⟩))):
 T W (Sep.pt r cs::own b h.length c 4 (h.flatMap eW)::R) (gb (some ⟨r,o,none⟩) (i:Int) K):=by
 unfold gb;intro w hs;refine⟨λvs w=>∃(j:Nat)(m:List Item),j<h.length/\m.length=h.length/\m.Perm h/\HU m j/\vs=[.i (j:Int)]/\St W w (Sep.pt r cs::own b h.length c 4 (m.flatMap eW)::R),
  λvs _=>match vs with|[.int _ j]=>j.toNat|_=>0,⟨i,h,hi,rfl,bA.refl _,hu,rfl,hs⟩,?_⟩
 rintro n2 w2 ⟨j,m,hj,GJ,hp,hum,e,hs⟩;cases e
 refine T.at ?_ hs;apply ws;apply gO<;>intro g1
 ·have h0:0<j:=by omega
  have Pf:par j<m.length:=by unfold par;omega
  have gx:=ao (show j<m.length by omega);have gy:=ao Pf;generalize m[j]=x at gx;generalize m[par j]=y at gy;have hZ:j≠par j:=by unfold par;omega
  simp only[GO h0 (by omega:j<1099511627776)]
  repeat' first|apply ws|apply wb|refine ma hv ?_
  refine gu ⟨by omega,by omega⟩ λrb hb=>?_;subst hb;rw[aq];apply jH fM gx
  repeat' first|apply ws|apply wb|first|refine ma hv ?_|refine dv (by decide) ?_
  refine nM ⟨by omega,by omega⟩ ?_;rw[aq];apply jH fM gy
  repeat' first|apply ws|apply wb|first|refine Hl ?_|refine vg hv ?_
  unfold gb.j1;simp only[GO h0 (by omega:j<1099511627776)];apply gO<;>intro g2
  ·have hb:=g2
   repeat' first|apply ws|apply wb|first|refine ma hv ?_|refine dv (by decide) ?_
   refine nM ⟨by omega,by omega⟩ ?_;rw[aq];apply jH fM gy
   repeat' first|apply ws|apply wb|first|refine ma hv ?_|refine dv (by decide) ?_
   refine nM ⟨by omega,by omega⟩ ?_;rw[aq];apply jH fM gx;refine nM ⟨by omega,by omega⟩ ?_;rw[aq];refine dv rfl (oh fM (by omega) (nw _) ?_);refine nM ⟨by omega,by omega⟩ ?_;rw[aq];refine dv rfl (oh fM (by simp;omega) (nw _) ?_);refine dv (by decide) λw3 h3=>⟨⟨par j,Q8 m j (par j) x y,by omega,by rw[JM];exact GJ,(FY gx gy hZ).trans hp,hum.step h0 gx gy hb,rfl,h3⟩,by show(par j:Int).toNat<(j:Int).toNat;unfold par;omega⟩
  ·refine hk m (hum.heap (.inr ?_)) hp;intro a b ha oJ;rw[gx] at ha;rw[gy] at oJ;cases ha;cases oJ
   exact g2
 ·have h0:j=0:=by omega
  unfold gb.j1;apply fG;exact hk m (hum.heap (.inl h0)) hp
def Xu{i:Nat}(hv:cs[o]?=some (.l b h.length c))(hl:h.length<100000)(hi:i<h.length)(hd:HD h i\/Kids h i)
 (hk:∀h',(sn h'\/h'=h/\Kids h i)->h'.Perm h->T W (Sep.pt r cs::own b h.length c 4 (h'.flatMap eW)::R) (K (.tuple ⟨[]⟩))):
 T W (Sep.pt r cs::own b h.length c 4 (h.flatMap eW)::R) (dO (some ⟨r,o,none⟩) (i:Int) K):=by
 unfold dO;intro w hs;refine⟨λvs w=>∃(j:Nat)(m:List Item),j<h.length/\m.length=h.length/\m.Perm h/\(HD m j\/m=h/\j=i/\Kids h i)/\vs=[.i (j:Int)]/\St W w (Sep.pt r cs::own b h.length c 4 (m.flatMap eW)::R),
  λvs _=>match vs with|[.int _ j]=>h.length-j.toNat|_=>0,⟨i,h,hi,rfl,bA.refl _,hd.imp id λhh=>⟨rfl,rfl,hh⟩,rfl,hs⟩,?_⟩
 rintro n2 w2 ⟨j,m,hj,GJ,hp,HI,e,hs⟩;cases e
 have e1:ag.wrap (ag.wrap (2* (j:Int))+1)=((2* j+1:Nat):Int):=by
  have:ag.wrap (2* (j:Int))=2* j:=aS (by omega);rw[this,aS (by omega)];omega
 have e2:ag.wrap (ag.wrap (2* (j:Int))+2)=((2* j+2:Nat):Int):=by
  have:ag.wrap (2* (j:Int))=2* j:=aS (by omega);rw[this,aS (by omega)];omega
 rw[e1];refine⟨λvs w=>∃(k d:Nat),2* j+1<=d/\d<=2* j+3/\(k=j\/0<k/\par k=j/\∃x y,m[k]?=some x/\m[j]?=some y/\bf x y)/\(∀q,0<q->par q=j->q<d->NB m q k)/\k<h.length/\
    vs=[.i (j:Int),.i (k:Int),.i (d:Int)]/\St W w (Sep.pt r cs::own b h.length c 4 (m.flatMap eW)::R),
  mq 2 (2* j+3),⟨j,2* j+1,aC _,by omega,.inl rfl,(λq h0 hq bW=>by unfold par at hq;omega),hj,rfl,hs⟩,?_⟩
 rintro n5 n6 n7 w5 ⟨k,d,hd1,ZW,ZH,wH,WR,e,hs⟩;cases e
 refine T.at ?_ hs;rw[e2];have out:(∀q,0<q->par q=j->NB m q k)->T W (Sep.pt r cs::own b h.length c 4 (m.flatMap eW)::R) (dO.j1 K (some ⟨r,o,none⟩) (λvs w=>∃(j:Nat)(m:List Item),j<h.length/\m.length=h.length/\m.Perm h/\(HD m j\/m=h/\j=i/\Kids h i)/\vs=[.i (j:Int)]/\St W w (Sep.pt r cs::own b h.length c 4 (m.flatMap eW)::R))
                      (λvs _=>match vs with|[.int _ j]=>h.length-j.toNat|_=>0) (j:Int) w2 (j:Int) (k:Int)):=by
  intro gV;unfold dO.j1;apply dz<;>intro g1
  ·have:k=j:=by have:(k:Int)=j:=by simpa using g1
                omega
   subst this;refine hk m ?_ hp;rcases HI with HI|⟨hm,GL,WS⟩
   ·exact .inl (HI.heap gV)
   ·exact .inr ⟨hm,WS⟩
  ·have hZ:k≠j:=by
    intro hh;subst hh;simp at g1
   obtain⟨h0,hpk,x,y,gx,gy,hb⟩:=ZH.resolve_left hZ;have adA:HD m j:=by
    rcases HI with HI|⟨hm,GL,WS⟩
    ·exact HI
    ·subst hm;subst GL;exact aR hb (WS k h0 hpk x y gx gy)
   repeat' first|apply ws|apply wb|refine ma hv ?_
   refine gu ⟨by omega,by omega⟩ λrb oJ=>?_;subst oJ;rw[aq];apply jH fM gx
   repeat' first|apply ws|apply wb|refine ma hv ?_
   refine nM ⟨by omega,by omega⟩ ?_;rw[aq];apply jH fM gy;refine nM ⟨by omega,by omega⟩ ?_;rw[aq];refine dv rfl (oh fM (by omega) (nw _) ?_);refine nM ⟨by omega,by omega⟩ ?_;rw[aq];refine dv rfl (oh fM (by simp;omega) (nw _) ?_);refine λw3 h3=>⟨⟨k,Q8 m j k y x,WR,by rw[JM];exact GJ,(FY gy gx (λhh=>hZ hh.symm)).trans hp,.inl (adA.step hpk h0 gy gx hb gV),rfl,h3⟩,by show h.length-(k:Int).toNat<h.length-(j:Int).toNat;unfold par at hpk;omega⟩
 apply gO<;>intro g1
 ·have hle:d<=2* j+2:=by omega
  repeat' first|apply ws|apply wb|refine ma hv ?_
  unfold dO.j2;apply gO<;>intro g2
  ·have bW:d<h.length:=by omega
   have gx:=ao (show d<m.length by omega);have gy:=ao (show k<m.length by omega);generalize m[d]=x at gx;generalize hmk:m[k]'(by omega)=y at gy;have hpd:par d=j:=by unfold par;omega
   have e5:=oe d
   repeat' first|apply ws|apply wb|refine ma hv ?_
   refine gu ⟨by omega,by omega⟩ λrb hb=>?_;subst hb;rw[aq];apply jH fM gx
   repeat' first|apply ws|apply wb|refine ma hv ?_
   refine nM ⟨by omega,by omega⟩ ?_;rw[aq];apply jH fM gy
   repeat' first|apply ws|apply wb|first|refine Hl ?_|refine vg hv ?_
   rw[e5];apply gO<;>intro g3
   ·have hb:=g3;refine λw3 h3=>⟨⟨d,d+1,by omega,by omega,.inr ⟨by omega,hpd,x,?_⟩,λq h0 hq ZE a b' ha Kw=>?_,bW,rfl,h3⟩,dn (by omega)⟩
    ·rcases ZH with rfl|⟨h0,hpk,x1,y1,q1,q2,q3⟩
     ·exact⟨y,gx,gy,hb⟩
     ·rw[gy] at q1;cases q1
      exact⟨y1,gx,q2,Hk hb q3⟩
    ·rw[gx] at Kw;cases Kw
     by_cases hqd:q=d
     ·subst hqd;rw[gx] at ha;cases ha;exact Jh x
     ·exact OT (wH q h0 hq (by omega) a y ha gy) hb
   ·have hb:=g3;refine λw3 h3=>⟨⟨k,d+1,by omega,by omega,ZH,λq h0 hq ZE=>?_,WR,rfl,h3⟩,dn (by omega)⟩;by_cases hqd:q=d
    ·subst hqd;intro a b' ha Kw;rw[gx] at ha;rw[gy] at Kw;cases ha;cases Kw;exact hb
    ·exact wH q h0 hq (by omega)
  ·have kP:h.length<=d:=by omega
   refine out λq h0 hq a b' ha Kw=>?_;have:=(ar.1 ha).1;exact wH q h0 hq (by omega) a b' ha Kw
 ·have Kt:2* j+2<d:=by omega
  unfold dO.j2;apply fG;exact out λq h0 hq=>wH q h0 hq (by unfold par at hq;omega)
def Ly{z x:Item}{i n:Nat}(hl:h.length=n+1)(hi:i<n)(hz:h[n]?=some z)(hx:h[i]?=some x):(x::(h.set i z).take n).Perm h:=by
 have h1:=vZ (y:=z) hx;have h2:h.set i z=(h.set i z).take n++[z]:=by
  conv=>lhs;rw[<-u2 n (h.set i z)]
  congr 1
  have:(h.set i z)[n]?=some z:=by rw[cA,ah (by omega)];exact hz
  rw[jX (by simp;omega),eH (by simp;omega)];rw[ao (by simp;omega)] at this;rw[bj.inj this]
 rw[h2] at h1;have h3:(x::((h.set i z).take n++[z])).Perm (z::x::(h.set i z).take n):=((bC (l₁:=(h.set i z).take n) (l₂:=[z])).cons x).trans (bA.swap _ _ _);exact(List.perm_cons z).1 (h3.symm.trans h1)
def VF{α:Type}{r n c e o:Nat}{l:List α}{x:α}{g:α->LV}{f:HP->LH}[i:xF (ai r) n c L e (l.flatMap g) f](hf:∀x,(g x).length=e)(hx:l[o]?=some x)(h:T W L X):T W L (kp ⟨r,o* e,none⟩ (g x) X):=λw hs=>by
 obtain⟨k,hk,_⟩:=i.at_;exact⟨wC hs hk (pd hf l o x hx),h w hs⟩
def T.Rn{A B C D:HP}(h:T W (A::B::C::D::R) X):T W (C::D::A::B::R) X:=T.perm h (bC (l₁:=[C,D]) (l₂:=[A,B])|>.append_right R)
def T.TH{A B C:HP}(h:T W (A::B::C::R) X):T W (C::A::B::R) X:=T.perm h (bC (l₁:=[C]) (l₂:=[A,B])|>.append_right R)
def T.TJ{A B C:HP}(h:T W (A::B::C::R) X):T W (B::C::A::R) X:=T.perm h (bC (l₁:=[B,C]) (l₂:=[A])|>.append_right R)
def VB{i:Nat}{x:Item}(hv:cs[o]?=some (.l b h.length c))(hl:h.length<100000)(hx:h[i]?=some x)(hh:sn h)
 (hk:∀h',sn h'->(x::h').Perm h->T W (Sep.pt r (cs.set o (.l b h'.length c))::own b h'.length c 4 (h'.flatMap eW)::R) (K (.agg ⟨eW x⟩))):
 T W (Sep.pt r cs::own b h.length c 4 (h.flatMap eW)::R) (nr (some ⟨r,o,none⟩) (i:Int) K):=by
 have hi:=(ar.1 hx).1;obtain⟨n,hn⟩:∃n,h.length=n+1:=⟨h.length-1,by omega⟩;have gz:=ao (show n<h.length by omega);generalize h[n]=z at gz;have e1:ag.wrap ((h.length:Int) -1)=(n:Int):=by rw[aS (by omega)];omega
 unfold nr
 repeat' first|apply ws;intros|apply wb|refine ma hv ?_
 refine gu ⟨by omega,by omega⟩ λrb hb=>?_;subst hb;rw[aq];apply jH fM hx
 repeat' first|apply ws;intros|apply wb|first|refine ma hv ?_|refine vg hv ?_
 apply VF fM hx
 repeat' first|apply ws|apply wb|first|refine ma hv ?_|refine vg hv ?_
 rw[e1];refine nM ⟨by omega,by omega⟩ ?_;rw[aq];apply jH fM gz;refine nM ⟨by omega,by omega⟩ ?_;rw[aq];refine dv rfl (oh fM hi (nw _) ?_)
 repeat' first|apply ws|apply wb|first|refine ma hv ?_|refine vg hv ?_
 refine nY (b:=ai rb) λsh _=>?_;refine wZ (by omega) ?_;refine xR (b:=ai rb) (i:=n) fM (by omega) ?_
 repeat' first|apply ws|apply wb|refine Eo hv rfl ?_
 have Ah:=qy (v:=.l (ai rb) n c) hv;apply gO<;>intro g1
 ·have bW:i<n:=by omega
  have hp:=Ly hn bW gz hx;have GJ:((h.set i z).take n).length=n:=by simp;omega
  rename_i r1 r2;apply T.Rn;have key:HD ((h.set i z).take n) i\/HU ((h.set i z).take n) i/\Kids ((h.set i z).take n) i:=by
   by_cases h0:i=0
   ·exact .inl (JE hh hn bW gz (.inl h0))
   ·have Pf:par i<h.length:=by unfold par;omega
    have gy:=ao Pf;generalize h[par i]=y at gy;by_cases hb:bf z y
    ·exact .inr (Q4 hh hn bW gz (by omega) gy hb)
    ·refine .inl (JE hh hn bW gz (.inr ?_));intro a b' ha oJ;have R4:par i≠i:=by unfold par;omega
     have hpn:par i<n:=by unfold par;omega
     rw[pw,aj bW,cA,aj rfl,aj hi] at ha;rw[pw,aj hpn,cA,ah (λh=>R4 h.symm),gy] at oJ;cases ha;cases oJ;exact hb
  generalize (h.set i z).take n=m at hp GJ key;subst GJ;refine Xu Ah (by omega) bW (key.imp id (·.2)) λm2 L4 AK=>?_;apply ws;have Yo:=AK.length_eq;rw[<-Yo];have hv2:=qy (v:=.l (ai rb) m2.length c) hv;have hu2:HU m2 i:=by
   rcases L4 with L4|⟨rfl,WS⟩
   ·exact L4.hu i
   ·rcases key with k1|k1
    ·exact(k1.heap WS).hu i
    ·exact k1.1
  refine YG hv2 (by omega) (by omega) hu2 λm3 hm3 Zx=>?_;apply ws;have QN:=Zx.length_eq;have:=hk m3 hm3 ((Zx.trans AK).cons x|>.trans hp);rw[QN] at this;exact T.Rn (T.drop (T.drop this))
 ·have hie:i=n:=by omega
  subst hie;apply ws;have hm:(h.set i z).take i=h.take i:=by rw[List.take_set_of_le (aC _)]
  rw[hm];have GJ:(h.take i).length=i:=by simp;omega
  have hh':sn (h.take i):=λj h0 a b' ha oJ=>by
   rw[pw] at ha oJ;split at ha
   ·split at oJ
    ·exact hh j h0 a b' ha oJ
    ·cases oJ
   ·cases ha
  have:=hk (h.take i) hh' (by
   conv=>rhs;rw[<-u2 i h]
   have:h.drop i=[x]:=by
    rw[jX hi,eH (by omega)]
    rw[ao hi] at hx
    rw[bj.inj hx]
   rw[this]
   exact bC (l₁:=[x]) (l₂:=h.take i))
  rw[GJ] at this;exact T.dp this
def V8{x:Item}(hv:cs[o]?=some (.l b h.length c))(hl:h.length<10000)(hh:sn h)
 (hk:∀b' c' h',sn h'->h'.Perm (h++[x])->T W (Sep.pt r (cs.set o (.l b' h'.length c'))::own b' h'.length c' 4 (h'.flatMap eW)::R) (K (.tuple ⟨[]⟩))):
 T W (Sep.pt r cs::own b h.length c 4 (h.flatMap eW)::R) (iR (some ⟨r,o,none⟩) (eW x) K):=by
 unfold iR;refine jy λr1=>VM ?_
 repeat' first|apply ws;intros|apply wb|first|refine ma hv ?_|refine vg hv ?_
 refine mU (x:=x) (by simp) rfl rfl (by omega) (by omega) (nw _) λb' c'=>?_
 repeat' first|apply ws|apply wb|first|refine Eo hv rfl ?_|refine ma (qy hv) ?_
 rename_i r2;have e1:ag.wrap (((h.length+1:Nat):Int) -1)=(h.length:Int):=by rw[aS (by omega)];omega
 rw[e1];apply T.Rn;have hu:HU (h++[x]) h.length:=by
  refine⟨λj h0 hj a b' ha oJ=>?_,λj h0 hp hi a b' ha oJ=>?_⟩
  ·have bW:=(ar.1 ha).1;simp at bW;rw[bM (by omega)] at ha;rw[bM (by unfold par;omega)] at oJ;exact hh j h0 a b' ha oJ
  ·have bW:=(ar.1 ha).1;simp at bW;unfold par at hp;omega
 have Ah:=qy (v:=.l b' (h.length+1) c') hv;have HG:(h++[x]).length=h.length+1:=by simp
 rw[<-HG] at Ah⊢;refine YG Ah (by omega) (by simp) hu λm hm hp=>?_;apply ws;have:=hk b' c' m hm hp;rw[hp.length_eq] at this;exact T.Rn (T.drop (T.drop this))
def Rv{s:Int}(hv:cs[o]?=some (.l b h.length c))(hl:h.length<10000)(hh:sn h)
 (h1:∀x m,x.aw=s->sn m->(x::m).Perm h->T W (Sep.pt r (cs.set o (.l b m.length c))::own b m.length c 4 (m.flatMap eW)::R) (K (.b true)))
 (h0:(∀x∈h,x.aw≠s)->T W (Sep.pt r cs::own b h.length c 4 (h.flatMap eW)::R) (K (.b false))):
 T W (Sep.pt r cs::own b h.length c 4 (h.flatMap eW)::R) (jz (some ⟨r,o,none⟩) s K):=by
 unfold jz;apply vh
 repeat' first|apply ws|apply wb|refine ma hv ?_
 intro w hs;refine⟨λvs w=>∃(i:Nat),i<=h.length/\(∀j x,j<i->h[j]?=some x->x.aw≠s)/\vs=[.b false,.l b h.length c,.i (h.length:Int),.i (i:Int)]/\St W w (Sep.pt r cs::own b h.length c 4 (h.flatMap eW)::R),
  mq 3 h.length,⟨0,aL _,(λj x hj=>by omega),rfl,hs⟩,?_⟩
 rintro b1 mg jJ mP n2 n3 w2 ⟨i,hi,ET,e,hs⟩;cases e
 refine T.at ?_ hs;apply gO<;>intro g1
 ·have bW:i<h.length:=by omega
  have gx:=ao bW;generalize h[i]=x at gx;have e5:=oe i;refine gu ⟨by omega,by omega⟩ λrb hb=>?_;subst hb;rw[aq];apply jH fM gx;apply ws;intros;rename_i r1;rw[e5];apply dz<;>intro g2
  ·apply T.TH;refine VB hv (by omega) gx hh λm hm hp=>?_;apply ws;refine T.TJ (T.drop ?_);exact h1 x m (by simpa using g2) hm hp
  ·refine T.drop λw3 h3=>⟨⟨i+1,bW,λj y hj hy=>?_,rfl,h3⟩,dn (by omega)⟩;by_cases GL:j=i
   ·subst GL;rw[gx] at hy;cases hy;simpa using g2
   ·exact ET j y (by omega) hy
 ·have kP:i=h.length:=by omega
  refine h0 λx hx=>?_;obtain⟨j,hj⟩:=qO hx;exact ET j x (by have:=(ar.1 hj).1;omega) hj
end
class QY{α β:Type}(P:α->HP)(Q:β->HP)(L:LH)(x:outParam α)(y:outParam β)(F:outParam (α->β->LH)):Prop where
 at_:∃R:LH,L.Perm (P x::Q y::R)/\∀x' y',(F x' y').Perm (P x'::Q y'::R)
section
variable {α β:Type} {P:α->HP} {Q:β->HP} {L:LH} {x:α} {y:β}
def Lc.perm{f:α->LH}(h:Lc P L x f):∃R:LH,L.Perm (P x::R)/\∀x',(f x').Perm (P x'::R):=by
 obtain⟨k,h1,h2⟩:=h.at_;exact⟨L.eraseIdx k,qm h1,λy=>by rw[h2];exact(set_perm h1).symm⟩
instance(priority:=low) QY.tail{A:HP}{F:α->β->LH}[h:QY P Q L x y F]:QY P Q (A::L) x y (λa b=>A::F a b):=by
 obtain⟨R,h1,h2⟩:=h.at_;exact⟨A::R,(h1.cons A).trans ((bA.swap _ _ _).trans ((bA.swap _ _ _).cons _)),λa b=>((h2 a b).cons A).trans ((bA.swap _ _ _).trans ((bA.swap _ _ _).cons _))⟩
instance QY.afU{f:α->LH}[h:Lc P L x f]:QY P Q (Q y::L) x y (λa b=>Q b::f a):=by
 obtain⟨R,h1,h2⟩:=h.perm;exact⟨R,(h1.cons _).trans (bA.swap _ _ _),λa b=>((h2 a).cons _).trans (bA.swap _ _ _)⟩
def AT{W:World}{X:WK}{F:α->β->LH}[i:QY P Q L x y F](h:∀R,(∀M a b Y,T W (M++F a b) Y->T W (M++P a::Q b::R) Y)->T W (P x::Q y::R) X):T W L X:=by
 obtain⟨R,h1,h2⟩:=i.at_;exact T.perm (h R λM a b Y hy=>T.perm hy ((h2 a b).symm.append_left M)) h1
end
def St.pM{W w:World}:∀(M R:LH),St W w (uU M::R)->St W w (M++R)
 |[],R,h=>h.drop
 |A::M,R,h=>(St.pM M (A::R) (h.split.perm (bA.swap _ _ _))).perm fD
def St.om{W w:World}:∀(M R:LH),St W w (M++R)->St W w (uU M::R)
 |[],R,h=>h.push trivial
 |A::M,R,h=>St.join ((St.om M (A::R) (h.perm fD.symm)).perm (bA.swap _ _ _))
structure Core where
 la:Nat
 lk:Nat
 ti:Nat
 tn:Nat
 vs:LV
 cH:List kR
 ends:List Item
 clock:Int
 aw:Int
def fY(q:Core)(b1:OA)(c1:Nat)(b2:OA)(c2:Nat)(b3:OA)(n3 c3:Nat):LV:=
 [.l b1 q.vs.length c1,.p (some (ad q.la 0)),.p (some (ad q.lk 0)),.p (some (ad q.ti 0)),.p (some (ad q.tn 0)),.l b2 q.cH.length c2,.l b3 n3 c3,.i q.clock,.i q.aw]
def coreS(p:Nat)(q:Core)(b1:OA)(c1:Nat)(b2:OA)(c2:Nat)(b3:OA)(c3:Nat)(h:List Item):LH:=
 [Sep.pt p (fY q b1 c1 b2 c2 b3 h.length c3),own b1 q.vs.length c1 1 q.vs,own b2 q.cH.length c2 2 (q.cH.flatMap mj),own b3 h.length c3 4 (h.flatMap eW)]
def fb(p:Nat)(q:Core):HP:=
 Py λz:(OA×Nat)×(OA×Nat)×(OA×Nat)×List Item=>ML (sn z.2.2.2/\z.2.2.2.Perm q.ends) (uU (coreS p q z.1.1 z.1.2 z.2.1.1 z.2.1.2 z.2.2.1.1 z.2.2.1.2 z.2.2.2))
def vP(q:Core)(o:Nat):Option Value:=match o with
 |1=>some (.p (some (ad q.la 0)))
 |2=>some (.p (some (ad q.lk 0)))
 |3=>some (.p (some (ad q.ti 0)))
 |4=>some (.p (some (ad q.tn 0)))
 |7=>some (.i q.clock)
 |8=>some (.i q.aw)
 |_=>none
section
variable {W:World} {L:LH} {K:VK} {X:WK} {p o:Nat} {q:Core} {f:Core->LH} {v:Value}
def Ed{R:LH}(hx:∀b1 c1 b2 c2 b3 c3 h,sn h->h.Perm q.ends->T W (Sep.pt p (fY q b1 c1 b2 c2 b3 h.length c3)::own b1 q.vs.length c1 1 q.vs::own b2 q.cH.length c2 2 (q.cH.flatMap mj)::own b3 h.length c3 4 (h.flatMap eW)::R) X):T W (fb p q::R) X:=λw hs=>by
 obtain⟨⟨⟨b1,c1⟩,⟨b2,c2⟩,⟨b3,c3⟩,hp⟩,hs⟩:=hs.ex;obtain⟨⟨h1,h2⟩,hs⟩:=hs.and;exact hx b1 c1 b2 c2 b3 c3 hp h1 h2 w (St.pM _ _ hs)
def xr{R:LH}{b1:OA}{c1:Nat}{b2:OA}{c2:Nat}{b3:OA}{c3:Nat}{h:List Item}(h1:sn h)(h2:h.Perm q.ends)(hx:T W (fb p q::R) X):T W (Sep.pt p (fY q b1 c1 b2 c2 b3 h.length c3)::own b1 q.vs.length c1 1 q.vs::own b2 q.cH.length c2 2 (q.cH.flatMap mj)::own b3 h.length c3 4 (h.flatMap eW)::R) X:=λw hs=>
 hx w (St.nT ((b1,c1),(b2,c2),(b3,c3),h) (St.and_intro ⟨h1,h2⟩ (St.om _ _ hs)))
def AS{α:Type}{P:α->HP}{a:α}{f:α->LH}[i:Lc P L a f](h:∀R,(∀M y Y,T W (M++f y) Y->T W (M++P y::R) Y)->T W (P a::R) X):T W L X:=by
 obtain⟨R,h1,h2⟩:=i.perm;exact T.perm (h R λM y Y hy=>T.perm hy ((h2 y).symm.append_left M)) h1
def T.EA{R:LH}{A B C:HP}(h:T W (A::C::B::R) X):T W (A::B::C::R) X:=T.perm h ((bA.swap _ _ _).cons _)
def T.Ik{R:LH}{A B C D:HP}(h:T W (A::D::B::C::R) X):T W (A::B::C::D::R) X:=T.perm h ((bC (l₁:=[B,C]) (l₂:=[D])|>.append_right R).cons _)
def T.BH{R:LH}{A B C D:HP}(h:T W (A::B::C::D::R) X):T W (A::D::B::C::R) X:=T.perm h ((bC (l₁:=[D]) (l₂:=[B,C])|>.append_right R).cons _)
def nH[i:Lc (fb p) L q f](hx:∀b1 c1 b2 c2 b3 c3 h R,sn h->h.Perm q.ends->
 (∀M q' b1 c1 b2 c2 b3 c3 h Y,sn h->h.Perm q'.ends->T W (M++f q') Y->T W (M++Sep.pt p (fY q' b1 c1 b2 c2 b3 h.length c3)::own b1 q'.vs.length c1 1 q'.vs::own b2 q'.cH.length c2 2 (q'.cH.flatMap mj)::own b3 h.length c3 4 (h.flatMap eW)::R) Y)->T W (Sep.pt p (fY q b1 c1 b2 c2 b3 h.length c3)::own b1 q.vs.length c1 1 q.vs::own b2 q.cH.length c2 2 (q.cH.flatMap mj)::own b3 h.length c3 4 (h.flatMap eW)::R) X):T W L X:=
 AS (P:=fb p) λR hc=>Ed λb1 c1 b2 c2 b3 c3 h h1 h2=>hx b1 c1 b2 c2 b3 c3 h R h1 h2 λM q' b1 c1 b2 c2 b3 c3 h Y g1 g2 hy=>
  T.perm (xr (R:=M++R) g1 g2 (T.perm (hc M q' Y hy) (fD.symm))) (by
   have:=bC (l₁:=M) (l₂:=[Sep.pt p (fY q' b1 c1 b2 c2 b3 h.length c3),own b1 q'.vs.length c1 1 q'.vs,own b2 q'.cH.length c2 2 (q'.cH.flatMap mj),own b3 h.length c3 4 (h.flatMap eW)])|>.append_right R
   simpa using this)
def yS{b1:OA}{c1:Nat}{b2:OA}{c2:Nat}{b3:OA}{c3 n:Nat}(hv:vP q o=some v):(fY q b1 c1 b2 c2 b3 n c3)[o]?=some v:=by
 unfold vP at hv;split at hv<;>first|exact hv|cases hv
def YQ[i:Lc (fb p) L q f](hv:vP q o=some v)(h:T W L (K v)):T W L (ld ⟨p,o,none⟩ K):=by
 have hL:f q=L:=i.same;refine nH (p:=p) λb1 c1 b2 c2 b3 c3 hp R h1 h2 hc=>?_;apply ma (r:=p) (yS hv);exact hc [] q _ _ _ _ _ _ _ _ h1 h2 (by rw[hL];exact h)
def YR[i:Lc (fb p) L q f](hv:vP q o=some v)(h:T W L X):T W L (kp ⟨p,o,none⟩ [v] X):=by
 have hL:f q=L:=i.same;refine nH (p:=p) λb1 c1 b2 c2 b3 c3 hp R h1 h2 hc=>?_;apply vg (r:=p) (yS hv);exact hc [] q _ _ _ _ _ _ _ _ h1 h2 (by rw[hL];exact h)
class Gc(q:Core)(o:Nat)(v:outParam Value):Prop where
 is:vP q o=some v
instance:Gc q 1 (.p (some (ad q.la 0))):=⟨rfl⟩
instance:Gc q 2 (.p (some (ad q.lk 0))):=⟨rfl⟩
instance:Gc q 3 (.p (some (ad q.ti 0))):=⟨rfl⟩
instance:Gc q 4 (.p (some (ad q.tn 0))):=⟨rfl⟩
instance:Gc q 7 (.i q.clock):=⟨rfl⟩
instance:Gc q 8 (.i q.aw):=⟨rfl⟩
instance[i:Lc (fb p) L q f][g:Gc q o v]:Lv L p o v:=⟨λh=>YQ (i:=i) g.is h,λh=>YR (i:=i) g.is h⟩
def HW[i:Lc (fb p) L q f]{t:Int}(h:T W (f {q with clock:=t}) X):T W L (st ⟨p,7,none⟩ (.i t) X):=by
 refine nH (p:=p) λb1 c1 b2 c2 b3 c3 hp R h1 h2 hc=>?_;unfold fY;apply ws;exact hc [] {q with clock:=t} _ _ _ _ _ _ _ _ h1 h2 h
def HV[i:Lc (fb p) L q f]{t:Int}(h:T W (f {q with aw:=t}) X):T W L (st ⟨p,8,none⟩ (.i t) X):=by
 refine nH (p:=p) λb1 c1 b2 c2 b3 c3 hp R h1 h2 hc=>?_;unfold fY;apply ws;exact hc [] {q with aw:=t} _ _ _ _ _ _ _ _ h1 h2 h
def sV[i:Lc (fb p) L q f](hl:q.vs.length<1000000)(h1v:v.oneCell'=true)(hcv:dJ v=[v])(h:T W (f {q with vs:=q.vs++[v]}) (K (.tuple ⟨[]⟩))):T W L (fr (ai p) v K):=by
 refine nH (p:=p) λb1 c1 b2 c2 b3 c3 hp R h1 h2 hc=>?_;unfold fr fY;rw[hcv];apply ws;intros;refine N2 (ys:=[v]) (n:=q.vs.length) (bytes:=8) rfl rfl (by omega) (λu hu=>by simp at hu;rw[hu];exact h1v) (λb' c'=>?_) (by omega);apply ws;have:=hc [] {q with vs:=q.vs++[v]} b' c' b2 c2 b3 c3 hp _ h1 h2 h;unfold fY at this;simp only[ak,Hy] at this;exact T.drop this
def X3[i:Lc (fb p) L q f](h:T W L (K (.i (q.vs.length:Int)))):T W L (qb (ai p) K):=by
 have hL:f q=L:=i.same;refine nH (p:=p) λb1 c1 b2 c2 b3 c3 hp R h1 h2 hc=>?_;unfold qb fY;apply ws;exact hc [] q _ _ _ _ _ _ _ _ h1 h2 (by rw[hL];exact h)
def KD[i:Lc (fb p) L q f]{s a:Int}(hr:pX q.cH)(hl:q.cH.length<1099511627)(hs:∀x∈q.cH,x.1<s)(h:T W (f {q with cH:=q.cH++[(s,a)]}) (K (.b true))):T W L (gg (some ⟨p,5,none⟩) s a K):=by
 refine nH (p:=p) λb1 c1 b2 c2 b3 c3 hp R h1 h2 hc=>?_;apply T.EA;refine We rfl hr hl hs λb' c'=>?_;apply T.EA;have:=hc [] {q with cH:=q.cH++[(s,a)]} b1 c1 b' c' b3 c3 hp _ h1 h2 h;simp only[fY,ak,Hy] at this;exact this
def PU[i:Lc (fb p) L q f]{s a:Int}{l0:List kR}(hr:pX q.cH)(hl:q.cH.length<1099511627)(hs:q.cH=l0++[(s,a)])(h:T W (f {q with cH:=l0}) (K (.b true))):T W L (gn (some ⟨p,5,none⟩) s K):=by
 refine nH (p:=p) λb1 c1 b2 c2 b3 c3 hp R h1 h2 hc=>?_;apply T.EA;refine Rz rfl hr hl hs λb' c'=>?_;apply T.EA;exact hc [] {q with cH:=l0} b1 c1 b' c' b3 c3 hp _ h1 h2 h
def MD[i:Lc (fb p) L q f]{from_ toX:Int}{wu:Bool}(hr:pX q.cH)(hl:q.cH.length<100000)
 (h:∀b' c' out,out=(if wu then(nI from_ toX q.cH).reverse else nI from_ toX q.cH)->T W (own b' out.length c' 2 (out.flatMap mj)::L) (K (.l b' out.length c'))):T W L (eu (some ⟨p,5,none⟩) from_ toX wu K):=by
 have hL:f q=L:=i.same;refine nH (p:=p) λb1 c1 b2 c2 b3 c3 hp R h1 h2 hc=>?_;refine OQ (b:=b2) (c:=c2) rfl hr hl λb' c' out ho=>?_;exact hc [_] q b1 c1 b2 c2 b3 c3 hp _ h1 h2 (by rw[hL];exact h b' c' out ho)
def E6[i:Lc (fb p) L q f]{x:Item}{e':List Item}(hl:q.ends.length<10000)(he:e'.Perm (q.ends++[x]))(h:T W (f {q with ends:=e'}) (K (.tuple ⟨[]⟩))):T W L (iR (some ⟨p,6,none⟩) (eW x) K):=by
 refine nH (p:=p) λb1 c1 b2 c2 b3 c3 hp R h1 h2 hc=>?_;apply T.Ik;refine V8 rfl (by rw[h2.length_eq];exact hl) h1 λb' c' h' g1 g2=>?_;apply T.BH;exact hc [] {q with ends:=e'} b1 c1 b2 c2 b' c' h' _ g1 (g2.trans ((h2.append_right _).trans he.symm)) h
def G7[i:Lc (fb p) L q f]{s:Int}(hl:q.ends.length<10000)
 (h1:∀x e',x.aw=s->(x::e').Perm q.ends->T W (f {q with ends:=e'}) (K (.b true)))(h0:(∀x∈q.ends,x.aw≠s)->T W L (K (.b false))):T W L (jz (some ⟨p,6,none⟩) s K):=by
 have hL:f q=L:=i.same;rw[<-hL] at h0;refine nH (p:=p) λb1 c1 b2 c2 b3 c3 hp R g1 g2 hc=>?_;apply T.Ik;refine Rv rfl (by rw[g2.length_eq];exact hl) g1 (λx m hx hm hpm=>?_) (λET=>?_)
 ·apply T.BH;exact hc [] {q with ends:=m} b1 c1 b2 c2 b3 c3 m _ hm (bA.refl _) (h1 x m hx (hpm.trans g2))
 ·apply T.BH;exact hc [] q b1 c1 b2 c2 b3 c3 hp _ g1 g2 (h0 λx hx=>ET x (g2.mem_iff.2 hx))
end
def pV(a:bp):(aP a).length=14:=rfl
def tC(k:bS):(bU k).length=33:=rfl
section
variable {x1 x2 x3 x4 x5 x6 x7 x8 x9 Bn Bm Bl Bk Ej HM HL Tw Tv Vt Vs Vr Vq Vp Vo Vn Vm Vl Vk x29 x30 x31 x32 x33:Value} {k k':bS} {i:Int} {m t:cj}
def zK:bS:=⟨zT,zT,0⟩
instance:Wr [x1,x2,x3,x4,x5,x6,x7,x8,x9,Bn,Bm,Bl,Bk,Ej,HM,HL,Tw,Tv,Vt,Vs,Vr,Vq,Vp,Vo,Vn,Vm,Vl,Vk,x29,x30,x31,x32,x33] 0 (bU k) (bU k):=⟨rfl,aC _,m8 k⟩
instance:Wr (bU k) 0 (bU k') (bU k'):=⟨rfl,aC _,m8 k'⟩
instance:Wr [x1,x2,x3,x4,x5,x6,x7,x8,x9,Bn,Bm,Bl,Bk,Ej,HM,HL,Tw,Tv,Vt,Vs,Vr,Vq,Vp,Vo,Vn,Vm,Vl,Vk,x29,x30,x31,x32,x33] 0 [.u 0,.u 0,.u 0,.u 0,.u 0,.u 0,.u 0,.u 0,.u 0,.u 0,.i 0,.i 0,.i 0,.i 0,.i 0,.i 0,.u 0,.u 0,.u 0,.u 0,.u 0,.u 0,.u 0,.u 0,.u 0,.u 0,.i 0,.i 0,.i 0,.i 0,.i 0,.i 0,.i 0] (bU zK):=⟨rfl,aC _,m8 zK⟩
instance:Wr (bU k) 32 [.i i] (bU {k with fate:=i}):=⟨rfl,by show 33<=33;decide,λv h=>by simp at h;subst h;rfl⟩
instance:Wr (bU k) 30 [.i i] (bU {k with move:={k.move with aw:=i}}):=⟨rfl,by show 31<=33;decide,λv h=>by simp at h;subst h;rfl⟩
instance:Wr (bU k) 31 [.i i] (bU {k with move:={k.move with kQ:=i}}):=⟨rfl,by show 32<=33;decide,λv h=>by simp at h;subst h;rfl⟩
instance:Sub (bU k) 16 2 (nm k.move.id):=⟨sJ rfl rfl⟩
instance:Wr [x1,x2,x3,x4,x5,x6,x7,x8,x9,Bn,Bm,Bl,Bk,Ej,HM,HL,Tw,Tv,Vt,Vs,Vr,Vq,Vp,Vo,Vn,Vm,Vl,Vk,x29,x30,x31,x32,x33] 0 (aX m++(aX t++[.i i])) (bU ⟨m,t,i⟩):=⟨rfl,aC _,m8 ⟨m,t,i⟩⟩
end
class QX(M L:LH):Prop where
 is:M.Sublist L
instance{L:LH}:QX L L:=⟨cm.refl _⟩
instance(priority:=low){M L:LH}{A:HP}[h:QX M L]:QX M (A::L):=⟨h.is.cons A⟩
instance{M L:LH}{A:HP}[h:QX M L]:QX (A::M) (A::L):=⟨h.is.cons_cons A⟩
instance{R L:LH}[h:QX R L]:QX ([]++R) L:=⟨h.is⟩
instance{M R L:LH}{A:HP}[h:QX (A::(M++R)) L]:QX (A::M++R) L:=⟨h.is⟩
def sg{M L:LH}[h:QX M L]:M.Sublist L:=h.is
def T.sub{W:World}{L M:LH}{X:WK}(h:T W M X)(s:M.Sublist L):T W L X:=by
 obtain⟨D,hD⟩:=s.exists_perm_append;have key:∀(D:LH),T W (D++M) X:=λD=>by
  induction D with
  |nil=>exact h
  |cons A D ih=>exact T.drop ih
 exact T.perm (key D) (hD.trans bC)
def pE{α:Type}(g:α->LV)(e l:Nat)(x:Nat×List α):HP:=
 Py λz:OA×Nat=>uU [Sep.pt l [.l z.1 x.2.length z.2,.p (some (ad x.1 0))],own z.1 x.2.length z.2 e (x.2.flatMap g)]
def FU{W:World}{L:LH}{α:Type}{b b':OA}{n c m c1 e bytes:Nat}{zero:LV}{l0 l1:List α}{g:α->LV}{f f':HP->LH}{K:OA->Nat->Nat->WK}[i:xF b n c L e (l0.flatMap g) f][j:xF b' m c1 L e (l1.flatMap g) f'](hg:∀x,(g x).length=e)(hz:zero.length=e)
 (hb:(n+m)* bytes<=140737488355328/\n+m<=9223372036854775807)(h1:∀x,∀v∈g x,v.oneCell'=true)(h:∀b2 c2,T W (f (own b2 (n+m) c2 e ((l0++l1).flatMap g))) (K b2 (n+m) c2)):T W L (jO e bytes zero b n c b' m K):=λw hs=>by
 obtain⟨k,hk,e1⟩:=i.at_;obtain⟨k2,wI,_⟩:=j.at_;obtain⟨xj,lH⟩:=KS (m:=m) hs wI;refine rq hs hk xj lH hz hb.1 hb.2 (λv hv=>?_) λb2 c2 w' h'=>h b2 c2 w' (by rw[e1,fC];exact h');obtain⟨x,_,hx⟩:=List.mem_flatMap.1 hv;exact h1 x v hx
section
variable {W:World} {L R:LH} {K:VK} {X:WK} {α:Type} {g:α->LV} {e l p:Nat} {items:List α} {f:Nat×List α->LH}
def o7(h:∀b c,T W (Sep.pt l [.l b items.length c,.p (some (ad p 0))]::own b items.length c e (items.flatMap g)::R) X):T W (pE g e l (p,items)::R) X:=λw hs=>by
 obtain⟨⟨b,c⟩,hs⟩:=hs.ex;exact h b c w (St.pM _ _ hs)
def rh{b:OA}{n c:Nat}(hn:n=items.length)(h:T W (pE g e l (p,items)::R) X):T W (Sep.pt l [.l b n c,.p (some (ad p 0))]::own b n c e (items.flatMap g)::R) X:=λw hs=>by
 subst hn;exact h w (St.nT (b,c) (St.om _ _ hs))
def um{M:LH}{b:OA}{n c:Nat}(hn:n=items.length)(h:T W (M++pE g e l (p,items)::R) X):T W (M++Sep.pt l [.l b n c,.p (some (ad p 0))]::own b n c e (items.flatMap g)::R) X:=
 T.perm (rh (g:=g) (e:=e) (l:=l) (p:=p) (R:=M++R) hn (T.perm h fD.symm)) (by
  have:=bC (l₁:=M) (l₂:=[Sep.pt l [.l b n c,.p (some (ad p 0))],own b n c e (items.flatMap g)])|>.append_right R
  simpa using this)
def Dp[i:Lc (pE g e l) L (p,items) f](h:∀b c R,(∀M b' n' c' B6 Y,n'=B6.length->T W (M++f (p,B6)) Y->T W (M++Sep.pt l [.l b' n' c',.p (some (ad p 0))]::own b' n' c' e (B6.flatMap g)::R) Y)->
 T W (Sep.pt l [.l b items.length c,.p (some (ad p 0))]::own b items.length c e (items.flatMap g)::R) X):T W L X:=
 AS (P:=pE g e l) λR hc=>o7 λb c=>h b c R λM b' n' c' B6 Y hn hy=>
  T.perm (rh (g:=g) (e:=e) (l:=l) (p:=p) (R:=M++R) hn (T.perm (hc M _ Y hy) fD.symm)) (by
   have:=bC (l₁:=M) (l₂:=[Sep.pt l [.l b' n' c',.p (some (ad p 0))],own b' n' c' e (B6.flatMap g)])|>.append_right R
   simpa using this)
end
section
variable {W:World} {L R:LH} {K:VK} {X:WK} {l p:Nat} {items:List bp} {f:Nat×List bp->LH} {F:Nat×List bp->Core->LH} {q:Core} {x y:bp}
def Ju[i:Lc (pE aP 14 l) L (p,items) f](h:T W L (K (.i (items.length:Int)))):T W L (ef (ai l) K):=by
 have hL:f (p,items)=L:=i.same;refine Dp (g:=aP) (e:=14) (l:=l) λb c R hc=>?_;unfold ef;apply ws;exact hc [] _ _ _ _ _ rfl (by rw[hL];exact h)
def QB{b:OA}{c:Nat}{v:Value}{n:Nat}{f1:LV->LH}{f2:HP->LH}[i:Lc (Sep.pt l) L [.l b items.length c,v] f1][j:xF b items.length c L 14 (items.flatMap aP) f2](hx:items[n]?=some x)(hl:items.length<1000000)
 (h:T W L (K (.tuple ⟨[.agg ⟨aP x⟩,.b true]⟩))):T W L (cM (ai l) (n:Int) K):=by
 have bW:=(ar.1 hx).1;unfold cM;apply ws;intros;apply cW (by simp);unfold ef;apply ws;unfold cM.j1;refine cW (by simp;omega) ?_;apply ws;refine gu ⟨by omega,by omega⟩ λr hr=>?_;subst hr;rw[aq];apply jH pV hx;apply ws;exact T.dp h
def acb[i:Lc (pE aP 14 l) L (p,items) f]{n:Nat}(hx:items[n]?=some x)(hl:items.length<1000000)(h:T W L (K (.tuple ⟨[.agg ⟨aP x⟩,.b true]⟩))):T W L (cM (ai l) (n:Int) K):=by
 have hL:f (p,items)=L:=i.same;refine Dp (g:=aP) (e:=14) (l:=l) λb c R hc=>?_;apply QB hx hl;exact hc [] _ _ _ _ _ rfl (by rw[hL];exact h)
abbrev yV(r1 r3:Nat):Value:=.func (.func N.bJ) ⟨[]⟩ ⟨[.p (some (ad r1 0)),.p (some (ad r3 0))]⟩
abbrev A9(r4 r1 r2:Nat):Value:=.func (.func N.bI) ⟨[]⟩ ⟨[.p (some (ad r4 0)),.p (some (ad r1 0)),.p (some (ad r2 0))]⟩
def QC[i:Lc (pE aP 14 l) L (p,items) f][j:QY (pE aP 14 l) (fb p) L (p,items) q F](hl:items.length<1000000)(hv:q.vs.length<1000000)
 (h:∀r1 r3,T W (Sep.pt r3 [.i (items.length:Int)]::Sep.pt r1 [.p (some (ad l 0))]::F (p,items++[x]) {q with vs:=q.vs++[yV r1 r3]}) (K (.i (items.length:Int)))):
 T W L (fP (ai l) (aP x) K):=by
 refine AT (P:=pE aP 14 l) (Q:=fb p) λR hc=>?_;refine o7 λb c=>?_;unfold fP;apply ws;intros;refine mU (x:=x) (by simp) rfl rfl (by omega) (by omega) (iZ _) λb' c'=>?_;apply ws;apply sV (p:=p) hv rfl rfl;apply ws;rename_i r1 r2 r3 r4;refine T.sub (M:=[Sep.pt r3 _,Sep.pt r1 _]++Sep.pt l _::own b' _ c' 14 _::fb p _::R) ?_ (by repeat (first|exact cm.refl _|apply cm.cons_cons|apply cm.cons));exact um (by simp) (hc [_,_] _ _ _ (h r1 r3))
def Yc[i:Lc (pE aP 14 l) L (p,items) f][j:QY (pE aP 14 l) (fb p) L (p,items) q F]{n:Nat}(hx:items[n]?=some y)(hl:items.length<1000000)(hv:q.vs.length<1000000)
 (h:∀r4 r1 r2,T W (Sep.pt r4 (aP y)::Sep.pt r2 [.i (n:Int)]::Sep.pt r1 [.p (some (ad l 0))]::F (p,items.set n x) {q with vs:=q.vs++[A9 r4 r1 r2]}) (K (.b true))):
 T W L (ij (ai l) (n:Int) (aP x) K):=by
 have bW:=(ar.1 hx).1;refine AT (P:=pE aP 14 l) (Q:=fb p) λR hc=>?_;refine o7 λb c=>?_;unfold ij
 repeat' first|apply ws;intros|apply wb|refine QB hx hl ?_
 refine gu ⟨by omega,by omega⟩ λr hr=>?_;subst hr;rw[aq];refine dv rfl (oh pV bW (iZ _) ?_);apply ws;apply sV (p:=p) hv rfl rfl;apply ws;rename_i r1 r2 r3 r4;refine T.sub (M:=[Sep.pt r4 _,Sep.pt r2 _,Sep.pt r1 _]++Sep.pt l _::own (ai r) _ c 14 _::fb p _::R) ?_ (by repeat (first|exact cm.refl _|apply cm.cons_cons|apply cm.cons));exact um (by simp) (hc [_,_,_] _ _ _ (h r4 r1 r2))
def Yd[i:Lc (pE aP 14 l) L (p,items) f](hl:items.length<1000000)(h:∀b c,T W (own b items.length c 14 (items.flatMap aP)::L) (K (.l b items.length c))):T W L (ik (ai l) K):=by
 have hL:f (p,items)=L:=i.same;refine Dp (g:=aP) (e:=14) (l:=l) λb c R hc=>?_;unfold ik;apply ws;refine jr (e:=14) ?_;refine FU (b:=none) (l0:=([]:List bp)) (l1:=items) pV rfl (by omega) iZ λb' c'=>?_;have:=hc [own b' items.length c' 14 (items.flatMap aP)] b items.length c items _ rfl (by rw[hL];exact h b' c');simpa using this
end
section
variable {W:World} {L R:LH} {K:VK} {X:WK} {l p:Nat} {items:List bS} {f:Nat×List bS->LH} {F:Nat×List bS->Core->LH} {q:Core} {x y:bS}
def Jr[i:Lc (pE bU 33 l) L (p,items) f](h:T W L (K (.i (items.length:Int)))):T W L (eB (ai l) K):=by
 have hL:f (p,items)=L:=i.same;refine Dp (g:=bU) (e:=33) (l:=l) λb c R hc=>?_;unfold eB;apply ws;exact hc [] _ _ _ _ _ rfl (by rw[hL];exact h)
def Qt{b:OA}{c:Nat}{v:Value}{n:Nat}{f1:LV->LH}{f2:HP->LH}[i:Lc (Sep.pt l) L [.l b items.length c,v] f1][j:xF b items.length c L 33 (items.flatMap bU) f2](hx:items[n]?=some x)(hl:items.length<1000000)
 (h:T W L (K (.tuple ⟨[.agg ⟨bU x⟩,.b true]⟩))):T W L (cK (ai l) (n:Int) K):=by
 have bW:=(ar.1 hx).1;unfold cK;apply ws;intros;apply cW (by simp);unfold eB;apply ws;unfold cK.j1;refine cW (by simp;omega) ?_;apply ws;refine gu ⟨by omega,by omega⟩ λr hr=>?_;subst hr;rw[aq];apply jH tC hx;apply ws;exact T.dp h
def Qs[i:Lc (pE bU 33 l) L (p,items) f]{n:Nat}(hx:items[n]?=some x)(hl:items.length<1000000)(h:T W L (K (.tuple ⟨[.agg ⟨bU x⟩,.b true]⟩))):T W L (cK (ai l) (n:Int) K):=by
 have hL:f (p,items)=L:=i.same;refine Dp (g:=bU) (e:=33) (l:=l) λb c R hc=>?_;apply Qt hx hl;exact hc [] _ _ _ _ _ rfl (by rw[hL];exact h)
abbrev sE(r1 r3:Nat):Value:=.func (.func N.cf) ⟨[]⟩ ⟨[.p (some (ad r1 0)),.p (some (ad r3 0))]⟩
abbrev yU(r4 r1 r2:Nat):Value:=.func (.func N.cb) ⟨[]⟩ ⟨[.p (some (ad r4 0)),.p (some (ad r1 0)),.p (some (ad r2 0))]⟩
def Qu[i:Lc (pE bU 33 l) L (p,items) f][j:QY (pE bU 33 l) (fb p) L (p,items) q F](hl:items.length<1000000)(hv:q.vs.length<1000000)
 (h:∀r1 r3,T W (Sep.pt r3 [.i (items.length:Int)]::Sep.pt r1 [.p (some (ad l 0))]::F (p,items++[x]) {q with vs:=q.vs++[sE r1 r3]}) (K (.i (items.length:Int)))):
 T W L (gN (ai l) (bU x) K):=by
 refine AT (P:=pE bU 33 l) (Q:=fb p) λR hc=>?_;refine o7 λb c=>?_;unfold gN;apply ws;intros;refine mU (x:=x) (by simp) rfl rfl (by omega) (by omega) (m8 _) λb' c'=>?_;apply ws;apply sV (p:=p) hv rfl rfl;apply ws;rename_i r1 r2 r3 r4;refine T.sub (M:=[Sep.pt r3 _,Sep.pt r1 _]++Sep.pt l _::own b' _ c' 33 _::fb p _::R) ?_ (by repeat (first|exact cm.refl _|apply cm.cons_cons|apply cm.cons));exact um (by simp) (hc [_,_] _ _ _ (h r1 r3))
def X5[i:Lc (pE bU 33 l) L (p,items) f][j:QY (pE bU 33 l) (fb p) L (p,items) q F]{n:Nat}(hx:items[n]?=some y)(hl:items.length<1000000)(hv:q.vs.length<1000000)
 (h:∀r4 r1 r2,T W (Sep.pt r4 (bU y)::Sep.pt r2 [.i (n:Int)]::Sep.pt r1 [.p (some (ad l 0))]::F (p,items.set n x) {q with vs:=q.vs++[yU r4 r1 r2]}) (K (.b true))):
 T W L (jc (ai l) (n:Int) (bU x) K):=by
 have bW:=(ar.1 hx).1;refine AT (P:=pE bU 33 l) (Q:=fb p) λR hc=>?_;refine o7 λb c=>?_;unfold jc
 repeat' first|apply ws;intros|apply wb|refine Qt hx hl ?_
 refine gu ⟨by omega,by omega⟩ λr hr=>?_;subst hr;rw[aq];refine dv rfl (oh tC bW (m8 _) ?_);apply ws;apply sV (p:=p) hv rfl rfl;apply ws;rename_i r1 r2 r3 r4;refine T.sub (M:=[Sep.pt r4 _,Sep.pt r2 _,Sep.pt r1 _]++Sep.pt l _::own (ai r) _ c 33 _::fb p _::R) ?_ (by repeat (first|exact cm.refl _|apply cm.cons_cons|apply cm.cons));exact um (by simp) (hc [_,_,_] _ _ _ (h r4 r1 r2))
def X6[i:Lc (pE bU 33 l) L (p,items) f](hl:items.length<1000000)(h:∀b c,T W (own b items.length c 33 (items.flatMap bU)::L) (K (.l b items.length c))):T W L (jd (ai l) K):=by
 have hL:f (p,items)=L:=i.same;refine Dp (g:=bU) (e:=33) (l:=l) λb c R hc=>?_;unfold jd;apply ws;refine jr (e:=33) ?_;refine FU (b:=none) (l0:=([]:List bS)) (l1:=items) tC rfl (by omega) m8 λb' c'=>?_;have:=hc [own b' items.length c' 33 (items.flatMap bU)] b items.length c items _ rfl (by rw[hL];exact h b' c');simpa using this
end
def sT(bx:List (Nat×LV)):HP:=uU (bx.map λx=>Sep.pt x.1 x.2)
def St.Oh{W w:World}{M R:LH}{A:HP}(h:St W w (uU M::R))(hm:A∈M):∃R',St W w (A::R')/\∀w',St W w' (A::R')->St W w' (uU M::R):=by
 obtain⟨k,hk⟩:=qO hm;have p:=qm hk;exact⟨M.eraseIdx k++R,(St.pM M R h).perm (p.append_right R),λw' h'=>St.om M R (h'.perm (p.symm.append_right R))⟩
section
variable {W:World} {L:LH} {K:VK} {X:WK} {r o n:Nat} {cs xs:LV} {v:Value} {bx:List (Nat×LV)} {f:List (Nat×LV)->LH}
def Cx(hm:(r,cs)∈bx)[i:Lc sT L bx f]{w:World}(hs:St W w L):∃R,St W w (Sep.pt r cs::R):=by
 obtain⟨k,hk,_⟩:=i.at_;obtain⟨R,h1,_⟩:=St.Oh (M:=bx.map λx=>Sep.pt x.1 x.2) (hs.focus hk) (dK.2 ⟨(r,cs),hm,rfl⟩);exact⟨R,h1⟩
def pD[i:Lc sT L bx f](hm:(r,cs)∈bx)(hv:cs[o]?=some v)(h:T W L (K v)):T W L (ld ⟨r,o,none⟩ K):=λw hs=>by
 obtain⟨R,hr⟩:=Cx hm hs;exact cy hr (k:=0) rfl hv (h w hs)
def By[i:Lc sT L bx f](hm:(r,cs)∈bx)(hv:cs[o]?=some v)(h:T W L X):T W L (kp ⟨r,o,none⟩ [v] X):=λw hs=>by
 obtain⟨R,hr⟩:=Cx hm hs;exact ig hr (k:=0) rfl hv (h w hs)
def Bx{K:LV->WK}[i:Lc sT L bx f](hm:(r,cs)∈bx)[s:Sub cs o n xs](h:T W L (K xs)):T W L (aD ⟨r,o,none⟩ n K):=λw hs=>by
 obtain⟨R,hr⟩:=Cx hm hs;exact gU hr (k:=0) rfl s.is.1 s.is.2 (h w hs)
def dg[i:Lc sT L bx f](h:T W (f ((r,cs)::bx)) X):T W (Sep.pt r cs::L) X:=by
 obtain⟨R,h1,h2⟩:=i.perm;refine T.perm (λw hs=>?_) (h1.cons _);refine T.perm h (h2 _).symm w (St.om (((r,cs)::bx).map λx=>Sep.pt x.1 x.2) R ?_);exact(St.pM (bx.map λx=>Sep.pt x.1 x.2) (Sep.pt r cs::R) (hs.perm (bA.swap _ _ _))).perm fD
end
structure C where
 aB:List bp
 ax:List bS
 mB:(Nat->Option Int)×Nat
 fm:(Nat->Option Int)×Nat
 cH:List kR
 ends:List Item
 clock:Int
 aw:Int
abbrev xN(a:Nat):Value:=.func (.func N.c7) ⟨[]⟩ ⟨[.p (some (ad a 0))]⟩
abbrev Ty(a a2:Nat):Value:=.func (.func N.c8) ⟨[]⟩ ⟨[.p (some (ad a 0)),.p (some (ad a2 0))]⟩
abbrev NG(a a2:Nat):Value:=.func (.func N.da) ⟨[]⟩ ⟨[.p (some (ad a 0)),.p (some (ad a2 0))]⟩
abbrev Bu(a a2 a3:Nat):Value:=.func (.func N.dc) ⟨[]⟩ ⟨[.p (some (ad a 0)),.p (some (ad a2 0)),.p (some (ad a3 0))]⟩
abbrev HQ(a a2:Nat):Value:=.func (.func N.db) ⟨[]⟩ ⟨[.p (some (ad a 0)),.p (some (ad a2 0))]⟩
abbrev Vw(a a2:Nat):Value:=.func (.func N.dx) ⟨[]⟩ ⟨[.p (some (ad a 0)),.p (some (ad a2 0))]⟩
inductive AA(p la lk:Nat)(bx:List (Nat×LV)):Value->C->C->Prop
 |next {c:C} {a:Nat} {s:Int} (h1:(a,[.pointer (some (ad p 0))])∈bx) (hs:ag.wrap (c.aw-1)=s):AA p la lk bx (xN a) c {c with aw:=s}
 |time {c:C} {a a2:Nat} {t:Int} (h1:(a,[.int .i64 t])∈bx) (h2:(a2,[.pointer (some (ad p 0))])∈bx):AA p la lk bx (Ty a a2) c {c with clock:=t}
 |open_ {c:C} {a a2:Nat} {x:bp} {m:(Nat->Option Int)×Nat} (h1:(a,[.pointer (some (ad p 0))])∈bx) (h2:(a2,aP x)∈bx) (hu:c.mB.2<=1000) (hi:(c.mB.1 x.id).isSome=true) (hm:(tQ c.mB.1 x.id none,c.mB.2-1)=m):
  AA p la lk bx (NG a a2) c {c with mB:=m}
 |S9 {c:C} {a a2 n:Nat} (h1:(a,[.pointer (some (ad la 0))])∈bx) (h2:(a2,[.int .i64 (n:Int)])∈bx) (hn:n<=c.aB.length):AA p la lk bx (yV a a2) c {c with aB:=c.aB.take n}
 |S8 {c:C} {a a2 n:Nat} (h1:(a,[.pointer (some (ad lk 0))])∈bx) (h2:(a2,[.int .i64 (n:Int)])∈bx) (hn:n<=c.ax.length):AA p la lk bx (sE a a2) c {c with ax:=c.ax.take n}
 |Rb {c:C} {a1 a2 a3 n:Nat} {x:bp} (h1:(a1,aP x)∈bx) (h2:(a2,[.pointer (some (ad la 0))])∈bx) (h3:(a3,[.int .i64 (n:Int)])∈bx) (hn:n<c.aB.length):AA p la lk bx (A9 a1 a2 a3) c {c with aB:=c.aB.set n x}
 |Ra {c:C} {a1 a2 a3 n:Nat} {x:bS} (h1:(a1,bU x)∈bx) (h2:(a2,[.pointer (some (ad lk 0))])∈bx) (h3:(a3,[.int .i64 (n:Int)])∈bx) (hn:n<c.ax.length):AA p la lk bx (yU a1 a2 a3) c {c with ax:=c.ax.set n x}
 |Km {c:C} {a a2 a3:Nat} {t:cj} {k:bS} {l0:List kR} {at_:Int} {m:(Nat->Option Int)×Nat} (h1:(a,[.pointer (some (ad p 0))])∈bx) (h2:(a2,aX t)∈bx) (h3:(a3,bU k)∈bx)
  (hu:c.fm.2<=1000) (hi:(c.fm.1 t.id).isSome=true) (hr:pX c.cH) (hl:c.cH.length<100000) (hs:c.cH=l0++[(k.move.aw,at_)]) (hm:(tQ c.fm.1 t.id none,c.fm.2-1)=m):
  AA p la lk bx (Bu a a2 a3) c {c with fm:=m,cH:=l0}
 |Kl {c:C} {a a2:Nat} {x:Item} {e':List Item} (h1:(a,[.pointer (some (ad p 0))])∈bx) (h2:(a2,eW x)∈bx) (hl:c.ends.length<10000) (he:(x::e').Perm c.ends) (hn:∀y∈e',y.aw≠x.aw):
  AA p la lk bx (HQ a a2) c {c with ends:=e'}
 |end_ {c:C} {a a2:Nat} {x:Item} {e':List Item} (h1:(a,[.pointer (some (ad p 0))])∈bx) (h2:(a2,eW x)∈bx) (hl:c.ends.length<10000) (he:e'.Perm (c.ends++[x])):AA p la lk bx (Vw a a2) c {c with ends:=e'}
def AA.mono{p la lk:Nat}{bx lg:List (Nat×LV)}{v:Value}{c c':C}(h:AA p la lk bx v c c')(hs:∀x∈bx,x∈lg):AA p la lk lg v c c':=by
 cases h with
 |next h1 h2=>exact .next (hs _ h1) h2
 |time h1 h2=>exact .time (hs _ h1) (hs _ h2)
 |open_ h1 h2 h3 h4 h5=>exact .open_ (hs _ h1) (hs _ h2) h3 h4 h5
 |S9 h1 h2 h3=>exact .S9 (hs _ h1) (hs _ h2) h3
 |S8 h1 h2 h3=>exact .S8 (hs _ h1) (hs _ h2) h3
 |Rb h1 h2 h3 h4=>exact .Rb (hs _ h1) (hs _ h2) (hs _ h3) h4
 |Ra h1 h2 h3 h4=>exact .Ra (hs _ h1) (hs _ h2) (hs _ h3) h4
 |Km h1 h2 h3 h4 h5 h6 h7 h8 h9=>exact .Km (hs _ h1) (hs _ h2) (hs _ h3) h4 h5 h6 h7 h8 h9
 |Kl h1 h2 h3 h4 h5=>exact .Kl (hs _ h1) (hs _ h2) h3 h4 h5
 |end_ h1 h2 h3 h4=>exact .end_ (hs _ h1) (hs _ h2) h3 h4
def kH(p la lk:Nat)(bx:List (Nat×LV)):LV->List C->C->Prop
 |[],[],_=>True
 |v::vs,c'::hs,c=>AA p la lk bx v c c'/\kH p la lk bx vs hs c'
 |_,_,_=>False
def kH.mono{p la lk:Nat}{bx lg:List (Nat×LV)}(hs:∀x∈bx,x∈lg):∀{vs:LV} {h:List C} {c:C},kH p la lk bx vs h c->kH p la lk lg vs h c
 |[],[],_,_=>trivial
 |v::vs,c'::h,c,hc=>⟨hc.1.mono hs,kH.mono hs hc.2⟩
def kH.len{p la lk:Nat}{bx:List (Nat×LV)}:∀{vs:LV} {h:List C} {c:C},kH p la lk bx vs h c->vs.length=h.length
 |[],[],_,_=>rfl
 |v::vs,c'::h,c,hc=>by simp[kH.len hc.2]
abbrev eK(la lk ti tn:Nat)(vs:LV)(c:C):Core:=⟨la,lk,ti,tn,vs.reverse,c.cH,c.ends,c.clock,c.aw⟩
def Ga(p la lk ti tn:Nat)(vs:LV)(bx:List (Nat×LV))(c:C)(R:LH):LH:=
 fb p (eK la lk ti tn vs c)::pE aP 14 la (p,c.aB)::pE bU 33 lk (p,c.ax)::l9 ti c.mB::l9 tn c.fm::sT bx::R
section
variable {W:World} {R:LH} {K:VK} {X:WK} {p la lk ti tn:Nat} {vs:LV} {bx:List (Nat×LV)} {c c':C} {v:Value}
def abZ:CQ:=[(N.dx,dx.u),(N.dc,dc.u),(N.db,db.u),(N.da,da.u),(N.c8,c8.u),(N.c7,c7.u),(N.bJ,bJ.u),(N.bI,bI.u),(N.cf,cf.u),(N.cb,cb.u)]
def T.Ec{q:Core}{e e':List Item}(he:e.Perm e')(h:T W (fb p {q with ends:=e'}::R) X):T W (fb p {q with ends:=e}::R) X:=
 Ed λb1 c1 b2 c2 b3 c3 hp h1 h2=>xr (q:={q with ends:=e'}) h1 (h2.trans he) h
def T.Ij{A B:HP}(h:T W (B::A::R) X):T W (A::B::R) X:=T.perm h (bA.swap _ _ _)
def T.TG{A B:HP}(h:T W (A::B::R) X):T W (B::A::R) X:=T.perm h (bA.swap _ _ _)
def T.V1{A B D:HP}(h:T W (D::A::B::R) X):T W (A::B::D::R) X:=T.TJ (R:=R) h
def T.TF{A B D:HP}(h:T W (A::B::D::R) X):T W (D::A::B::R) X:=T.TH (R:=R) h
def Dl{x y:Item}{e' e2 e:List Item}(h1:(x::e').Perm e)(h2:(y::e2).Perm e)(hy:y.aw=x.aw)(hn:∀z∈e',z.aw≠x.aw):e2.Perm e':=by
 have:y∈x::e':=h1.mem_iff.2 (h2.mem_iff.1 (by simp));rcases gK.1 this with rfl|hm
 ·exact(List.perm_cons y).1 (h2.trans h1.symm)
 ·exact aR hy (hn y hm)
def YX(hc:AA p la lk bx v c c')(h:T W (Ga p la lk ti tn vs bx c' R) (K (.tuple ⟨[]⟩))):T W (Ga p la lk ti tn vs bx c R) (tL abZ v [] K):=by
 unfold Ga at *;cases hc with
 |next h1 hs=>
  rename_i a s;show T W _ (c7 (ad a 0) K);unfold c7
  repeat' first|apply ws|apply wb|first|refine pD h1 rfl ?_|refine HV ?_
  rw[show ag.wrap ((eK la lk ti tn vs c).aw-1)=s from hs];exact h
 |time h1 h2=>
  rename_i a a2 t;show T W _ (c8 (ad a 0) (ad a2 0) K);unfold c8
  repeat' first|apply ws|apply wb|first|refine pD h2 rfl ?_|refine pD h1 rfl ?_|refine HW ?_
  exact h
 |open_ h1 h2 h3 h4 h5=>
  rename_i a a2 x m;show T W _ (da (ad a 0) (ad a2 0) K);unfold da
  repeat' first|apply ws|apply wb|first|refine pD h1 rfl ?_|refine By h1 rfl ?_
  apply Bx h2;refine Qy h3 (λ_=>?_) (λhn=>by rw[hn] at h4;cases h4)
  repeat' first|apply ws|apply wb|refine By h1 rfl ?_
  rw[h5];exact h
 |S9 h1 h2 h3=>
  rename_i a a2 n;show T W _ (bJ (ad a 0) (ad a2 0) K);apply T.Ij;refine o7 λb cc=>?_;unfold bJ
  repeat' first|apply ws|apply wb|first|refine pD h1 rfl ?_|refine pD h2 rfl ?_
  refine nY (b:=b) λsh _=>?_;refine wZ (by omega) ?_;refine xR (b:=b) (i:=n) pV (by omega) ?_;apply ws;exact rh (g:=aP) (e:=14) (by rw[aG];omega) (T.TG h)
 |S8 h1 h2 h3=>
  rename_i a a2 n;show T W _ (cf (ad a 0) (ad a2 0) K);apply T.V1;refine o7 λb cc=>?_;unfold cf
  repeat' first|apply ws|apply wb|first|refine pD h1 rfl ?_|refine pD h2 rfl ?_
  refine nY (b:=b) λsh _=>?_;refine wZ (by omega) ?_;refine xR (b:=b) (i:=n) tC (by omega) ?_;apply ws;exact rh (g:=bU) (e:=33) (by rw[aG];omega) (T.TF h)
 |Rb h1 h2 h3 h4=>
  rename_i a1 a2 a3 n x;show T W _ (bI (ad a1 0) (ad a2 0) (ad a3 0) K);apply T.Ij;refine o7 λb cc=>?_;unfold bI
  repeat' first|apply ws|apply wb|first|refine pD h2 rfl ?_|refine pD h3 rfl ?_
  apply Bx h1;refine gu ⟨by omega,by omega⟩ λr hr=>?_;subst hr;rw[aq];refine dv rfl (oh pV h4 (iZ _) ?_);exact rh (g:=aP) (e:=14) (by simp) (T.TG h)
 |Ra h1 h2 h3 h4=>
  rename_i a1 a2 a3 n x;show T W _ (cb (ad a1 0) (ad a2 0) (ad a3 0) K);apply T.V1;refine o7 λb cc=>?_;unfold cb
  repeat' first|apply ws|apply wb|first|refine pD h2 rfl ?_|refine pD h3 rfl ?_
  apply Bx h1;refine gu ⟨by omega,by omega⟩ λr hr=>?_;subst hr;rw[aq];refine dv rfl (oh tC h4 (m8 _) ?_);exact rh (g:=bU) (e:=33) (by simp) (T.TF h)
 |Km h1 h2 h3 h4 h5 h6 h7 h8 h9=>
  rename_i a a2 a3 t k l0 at_ m;show T W _ (dc (ad a 0) (ad a2 0) (ad a3 0) K);unfold dc
  repeat' first|apply ws|apply wb|first|refine pD h1 rfl ?_|refine By h1 rfl ?_
  apply Bx h2;refine Qy h4 (λ_=>?_) (λhn=>by rw[hn] at h5;cases h5)
  repeat' first|apply ws|apply wb|first|refine pD h1 rfl ?_|refine By h1 rfl ?_|refine pD h3 rfl ?_
  simp only[dh,az];refine PU (p:=p) (q:=eK la lk ti tn vs c) h6 (by show c.cH.length<_;omega) h8 ?_
  repeat' first|apply ws|apply wb|refine By h1 rfl ?_
  rw[h9];exact h
 |Kl h1 h2 h3 h4 h5=>
  rename_i a a2 x e';show T W _ (db (ad a 0) (ad a2 0) K);unfold db
  repeat' first|apply ws|apply wb|first|refine pD h1 rfl ?_|refine pD h2 rfl ?_
  simp only[dh,az];refine G7 (p:=p) (q:=eK la lk ti tn vs c) h3 (λy e2 hy hp=>?_) (λET=>aR rfl (ET x (h4.mem_iff.1 (by simp))))
  repeat' first|apply ws|apply wb|refine By h1 rfl ?_
  exact T.Ec (Dl h4 hp hy h5) h
 |end_ h1 h2 h3 h4=>
  rename_i a a2 x e';show T W _ (dx (ad a 0) (ad a2 0) K);unfold dx
  repeat' first|apply ws|apply wb|refine pD h1 rfl ?_
  apply Bx h2;simp only[dh,az];apply E6 (p:=p) (q:=eK la lk ti tn vs c) h3 h4
  repeat' first|apply ws|apply wb|refine By h1 rfl ?_
  exact h
end
structure afM where
 la:Nat
 lk:Nat
 ti:Nat
 tn:Nat
def cP(p:Nat)(x:C×List C):HP:=
 Py λz:afM×LV×List (Nat×LV)=>ML (kH p z.1.la z.1.lk z.2.2 z.2.1 x.2 x.1) (uU (Ga p z.1.la z.1.lk z.1.ti z.1.tn z.2.1 z.2.2 x.1 []))
section
variable {W:World} {L R:LH} {K:VK} {X:WK} {p:Nat} {c:C} {hs:List C} {f:C×List C->LH}
def PZ(h:∀la lk ti tn vs bx,kH p la lk bx vs hs c->T W (fb p (eK la lk ti tn vs c)::pE aP 14 la (p,c.aB)::pE bU 33 lk (p,c.ax)::l9 ti c.mB::l9 tn c.fm::sT bx::R) X):T W (cP p (c,hs)::R) X:=λw hw=>by
 obtain⟨⟨⟨la,lk,ti,tn⟩,vs,bx⟩,hw⟩:=hw.ex;obtain⟨hc,hw⟩:=hw.and;exact h la lk ti tn vs bx hc w (St.pM _ _ hw)
def Bb{la lk ti tn:Nat}{vs:LV}{bx:List (Nat×LV)}(hc:kH p la lk bx vs hs c)(h:T W (cP p (c,hs)::R) X):
 T W (fb p (eK la lk ti tn vs c)::pE aP 14 la (p,c.aB)::pE bU 33 lk (p,c.ax)::l9 ti c.mB::l9 tn c.fm::sT bx::R) X:=λw hw=>
 h w (St.nT (⟨la,lk,ti,tn⟩,vs,bx) (St.and_intro hc (St.om _ _ hw)))
def t_c[i:Lc (cP p) L (c,hs) f](h:∀la lk ti tn vs bx R,kH p la lk bx vs hs c->
 (∀M c' dM CN lg Y,kH p la lk lg CN dM c'->T W (M++f (c',dM)) Y->T W (M++fb p (eK la lk ti tn CN c')::pE aP 14 la (p,c'.aB)::pE bU 33 lk (p,c'.ax)::l9 ti c'.mB::l9 tn c'.fm::sT lg::R) Y)->
 T W (fb p (eK la lk ti tn vs c)::pE aP 14 la (p,c.aB)::pE bU 33 lk (p,c.ax)::l9 ti c.mB::l9 tn c.fm::sT bx::R) X):T W L X:=
 AS (P:=cP p) λR nR=>PZ λla lk ti tn vs bx hc=>h la lk ti tn vs bx R hc λM c' dM CN lg Y GN hy=>
  T.perm (Bb (R:=M++R) GN (T.perm (nR M (c',dM) Y hy) fD.symm)) (by
   have:=bC (l₁:=M) (l₂:=[fb p (eK la lk ti tn CN c'),pE aP 14 la (p,c'.aB),pE bU 33 lk (p,c'.ax),l9 ti c'.mB,l9 tn c'.fm,sT lg])|>.append_right R
   simpa using this)
def zb{b:OA}{n c e i:Nat}{xs:LV}{f:HP->LH}[j:xF b n c L e xs f](hi:i<=n)(h:T W (f (own b i c e (xs.take (i* e)))) X):T W L X:=λw hs=>by
 obtain⟨k,hk,e1⟩:=j.at_;apply h w;rw[e1];exact St.oS ((hs.focus hk).mono (BQ hi)) hk
def NT{r n c e o:Nat}{xs:LV}{v:Value}{f:HP->LH}[j:xF (ai r) n c L e xs f](hv:xs[o]?=some v)(h:T W L (K v)):T W L (ld ⟨r,o,none⟩ K):=λw hs=>by
 obtain⟨k,hk,_⟩:=j.at_;exact zz hs hk hv (h w hs)
def NX{b:OA}{n c e:Nat}{xs ys:LV}{f:HP->LH}[j:xF b n c L e xs f](hl:ys.length=xs.length)(h1:∀v∈ys,v.oneCell'=true)(h:∀zs,T W (f (own b n c e zs)) X):T W L (SQ ys b n X):=λw hs=>by
 obtain⟨k,hk,e1⟩:=j.at_;refine⟨λ_=>h xs w (by rw[e1,kr hk];exact hs),λa ha _=>?_⟩;obtain⟨hlx,h0|⟨r,sp,hb,sh,AJ,gJ⟩⟩:=hs.k8 hk
 ·rw[h0.1] at ha;cases ha
 ·rw[hb] at ha;cases ha
  obtain⟨hc,y8⟩:=St.vk ys 0 0 gJ (gR hk) (by simp;omega) h1;refine⟨hc,h ys _ ?_⟩;rw[gW,iL] at y8;have e2:over (xs++sp) 0 ys=ys++sp:=by
   unfold over;rw[qM,dm,az,hl,List.drop_left' rfl]
  rw[e2] at y8;rw[e1,hb];exact St.EH ((ar.1 hk).1) (by rw[hl];exact hlx) sh AJ y8
def rV(n:Nat):C->List C->C×List C
 |c,[]=>(c,[])
 |c,c'::hs=>if n<=hs.length then rV n c' hs else(c,c'::hs)
def Aw{n:Nat}(hn:hs.length<=n):rV n c hs=(c,hs):=by
 cases hs with
 |nil=>rfl
 |cons c' hs=>unfold rV;rw[ah (by simp at hn;omega)]
def MC{q:Core}{w:World}(h:St W w (fb p q::R)):∃b c,w.cell? ⟨p,0,none⟩=some (.l b q.vs.length c):=by
 obtain⟨⟨⟨b1,c1⟩,⟨b2,c2⟩,⟨b3,c3⟩,hp⟩,hs⟩:=h.ex;obtain⟨_,hs⟩:=hs.and;have:=(St.pM _ _ hs).cell (k:=0) (o:=0) rfl;exact⟨b1,c1,this.1⟩
def Yk(p:Nat)(w:World):Nat:=match w.cell? ⟨p,0,none⟩ with|some (.slice _ m _)=>m|_=>0
def OX{q:Core}{w:World}(h:St W w (fb p q::R)):Yk p w=q.vs.length:=by
 obtain⟨b,cc,e⟩:=MC h;unfold Yk;rw[e]
def Yb[i:Lc (cP p) L (c,hs) f]{n:Nat}(hl:hs.length<1000000)(h:T W (f (rV n c hs)) (K (.tuple ⟨[]⟩))):T W L (qc (ai p) (n:Int) K):=by
 refine t_c (p:=p) λla lk ti tn vs bx R hc nR=>?_;unfold qc;apply vh;intro w hw;refine⟨λa w=>∃vs dM c',a=[]/\dM.length<1000000/\kH p la lk bx vs dM c'/\rV n c' dM=rV n c hs/\St W w (Ga p la lk ti tn vs bx c' R),
  λ_ w=>Yk p w,⟨vs,hs,c,rfl,hl,hc,rfl,hw⟩,?_⟩
 rintro w2 ⟨CN,dM,c',-,HG,GN,hb,hw⟩;have hmu:Yk p w2=CN.length:=by
  have:=OX (q:=eK la lk ti tn CN c') hw;rw[this];simp
 refine T.at ?_ hw;have hlen:=GN.len;have R7:max2 (n:Int) 0=n:=by unfold max2;split<;>omega
 rw[R7];unfold Ga;refine nH (p:=p) λb1 c1 b2 c2 b3 c3 hp R2 g1 g2 Se=>?_;unfold fY;have hrl:(eK la lk ti tn CN c').vs.length=CN.length:=ga;apply ws;apply gO<;>intro g
 ·have Kt:n<CN.length:=by omega
  match CN,dM,GN,hlen,HG,Kt with
  |v::u1,c2'::gJ,GN,hlen,HG,Kt=>
  simp only[bw] at Kt HG hlen;have hrl:(eK la lk ti tn (v::u1) c').vs.length=u1.length+1:=by show(v::u1).reverse.length=_;simp
  have e1:ag.wrap (((eK la lk ti tn (v::u1) c').vs.length:Int) -1)=(u1.length:Int):=by rw[aS (by omega)];omega
  apply ws;rw[e1];refine gu ⟨by omega,by omega⟩ λr hr=>?_;subst hr;rw[aq,mQ];refine NT (v:=v) (by simp) ?_;refine Se [] (eK la lk ti tn (v::u1) c') _ _ _ _ _ _ _ _ g1 g2 ?_;apply YX (c':=c2') (vs:=v::u1) GN.1;unfold Ga;refine nH (p:=p) λb1 c1 b2 c2 b3 c3 hp R2 g1 g2 adB=>?_;unfold fY;apply ws;refine nY (b:=b1) λsh _=>?_;have sh:(eK la lk ti tn (v::u1) c').vs.length<=c1:=sh;apply wZ (by omega);refine zb (b:=b1) (i:=u1.length) (show u1.length<=(eK la lk ti tn (v::u1) c').vs.length by omega) ?_;apply ws;have et:List.take (u1.length* 1) (v::u1).reverse=u1.reverse:=by rw[mQ,uL,<-ga,zX]
  rw[et];have:=adB [] (eK la lk ti tn u1 c2') b1 c1 b2 c2 b3 c3 hp (λw3=>(∃vs dM c',([]:LV)=[]/\dM.length<1000000/\kH p la lk bx vs dM c'/\rV n c' dM=rV n c hs/\St W w3 (Ga p la lk ti tn vs bx c' R))/\Yk p w3<Yk p w2) g1 g2 ?_
  ·unfold fY at this;rw[show(eK la lk ti tn u1 c2').vs.length=u1.length from ga] at this;exact this
  ·intro w3 h3;refine⟨⟨u1,gJ,c2',rfl,by omega,GN.2,?_,h3⟩,?_⟩
   ·rw[<-hb]
    conv=>rhs;unfold rV
    rw[aj (by omega)]
   ·have:=OX (q:=eK la lk ti tn u1 c2') h3;rw[this,hmu];simp
 ·have hle:CN.length<=n:=by omega
  rw[Aw (by omega)] at hb;rw[<-hb] at h;refine Se [] (eK la lk ti tn CN c') _ _ _ _ _ _ _ _ g1 g2 ?_;exact nR [] c' dM CN bx _ GN h
def Tn[i:Lc (cP p) L (c,hs) f](hl:hs.length<1000000)(h:T W (f (c,[])) (K (.tuple ⟨[]⟩))):T W L (jG (ai p) K):=by
 refine t_c (p:=p) λla lk ti tn vs bx R hc nR=>?_;have hlen:=hc.len;refine nH (p:=p) λb1 c1 b2 c2 b3 c3 hp R2 g1 g2 Se=>?_;unfold jG fY;apply ws;refine nY (b:=b1) λsh L7=>?_;refine NX (b:=b1) (by rw[kW,L7];simp) (λv hv=>?_) λzs=>?_
 ·simp only[Builtin.zeroCells,AB,dK] at hv;obtain⟨j,_,rfl⟩:=hv;have:(⟨[Value.nilFunc]⟩:Array Value)[j%(⟨[Value.nilFunc]⟩:Array Value).size]! =.nilFunc:=by
   have:j%(⟨[Value.nilFunc]⟩:Array Value).size=0:=Nat.mod_one j;rw[this];rfl
  rw[this];rfl
 apply ws;refine wZ (i:=0) (by omega) ?_;refine zb (b:=b1) (i:=0) (by omega) ?_;apply ws;rw[Nat.zero_mul,qM];refine Se [] (eK la lk ti tn [] c) b1 c1 b2 c2 b3 c3 hp _ g1 g2 ?_;exact nR [] c [] [] bx _ trivial h
end
end Go.Up
namespace Go.Md
structure cR(m:aK):Prop where
 zero:∀a∈m.eS,a.dp=0/\a.dq=0/\a.cp=0/\a.cq=0/\0<=a.au/\a.au<8
 ids:(m.eS.map (·.id)).Nodup
 oK:m.eS.length<=32
 names:(m.ax.map (·.move.id)).Nodup
 vL:∀k∈m.ax,0<=k.fate/\k.fate<=4/\(has k.move.au 2↔1<=k.fate)
 wL:∀k∈m.ax,k.move.bq≠k.move.aU/\k.move.bq∈m.eS.map (·.id)/\k.move.aU∈m.eS.map (·.id)
 some_:m.ax.length<=96
 xn:∀a∈m.eS,S (xD a.id) m.ax+S (zH a.id) m.ax<bV
 uG:∀a∈m.eS,S (xE a.id) m.ax+S (zJ a.id) m.ax<bV
 sC:∀a∈m.eS,S (sf a.id) m.ax<=1
structure mC(b:aO)(m:aK):Prop where
 aB:b.aB=m.eS.map (full m.ax)
 ax:b.ax=m.ax
 clock:b.clock=m.clock
 aw:b.aw=m.aw
def cR.full{m:aK}(h:cR m){a:bp}(ha:a∈m.eS):m.full a=Md.full m.ax a:=by
 obtain⟨h1,h2,h3,h4,_⟩:=h.zero a ha;have d:=h.xn a ha;have c:=h.uG a ha;exact IS a m.ax (by omega) (by omega) (by omega) (by omega)
def yN{l:List bp}{id:Nat}{a:bp}(h:l.find? (λa=>a.id=id)=some a):a∈l/\a.id=id:=
 ⟨jW h,by simpa using List.find?_some h⟩
def mC.find{b:aO}{m:aK}(h:mC b m)(id:Nat):b.find id=(m.find id).map (Md.full m.ax):=by
 unfold aO.find aK.find;rw[h.aB,List.find?_map]
 rfl
def DX(l:List bS)(k:bS)(a:bp):full (l++[k]) a=full [k] (full l a):=(Am a l [k]).symm
def yK(k:bS)(a:bp):full [k] a={a with dp:=a.dp+xD a.id k,dq:=a.dq+zH a.id k,cp:=a.cp+xE a.id k,cq:=a.cq+zJ a.id k,au:=if nC a.id k then a.au%8+8 else a.au}:=by
 unfold full;simp only[pq,vT,iL]
 congr 1
 unfold sf;by_cases h:nC a.id k
 ·rw[aj h,aj h,ah (by omega)]
 ·rw[ah h,ah h,aj rfl]
def tN(t b:cj):rW t b≠0:=by unfold rW;split<;>decide
def Gu{t:cj}{named:Option bS}{d c:Option bp}{many:Nat}(h:(kd t named d c many).1=0):
 ∃d' c',d=some d'/\c=some c'/\named=none/\pC t=0/\ ¬lM t.au/\d'.bt=c'.bt/\d'.au<8/\c'.au<8/\many<96/\
  d'.dp+d'.dq+(kd t named d c many).2<bV/\c'.cp+c'.cq+(kd t named d c many).2<bV/\
  ¬(has d'.au 2/\ky d' true<(kd t named d c many).2)/\ ¬(has c'.au 4/\ky c' false<(kd t named d c many).2):=by
 unfold kd at h⊢;by_cases h1:pC t≠0
 ·rw[aj h1] at h;exact aR h h1
 rw[ah h1] at h⊢;by_cases h2:lM t.au
 ·rw[aj h2] at h;exact aR h (by decide)
 rw[ah h2] at h⊢;cases named with
 |some k=>exact aR h (tN t k.asked)
 |none=>
  cases d with
  |none=>exact aR h (show ¬(19:Int)=0 by decide)
  |some d=>
   cases c with
   |none=>exact aR h (show ¬(20:Int)=0 by decide)
   |some c=>
    dsimp only at h⊢;by_cases h3:d.bt≠c.bt
    ·rw[aj h3] at h;exact aR h (by decide)
    rw[ah h3] at h⊢;by_cases h4:d.bt≠t.bt
    ·rw[aj h4] at h;exact aR h (by decide)
    rw[ah h4] at h⊢;by_cases h5:8<=d.au
    ·rw[aj h5] at h;exact aR h (by decide)
    rw[ah h5] at h⊢;by_cases h6:8<=c.au
    ·rw[aj h6] at h;exact aR h (by decide)
    rw[ah h6] at h⊢;by_cases h7:96<=many
    ·rw[aj h7] at h;exact aR h (by decide)
    rw[ah h7] at h⊢;by_cases h8:(dV t d c).2≠0
    ·rw[aj h8] at h;exact aR h h8
    rw[ah h8] at h⊢;by_cases h9:(more d true (dV t d c).1 (decide (has t.au 2))).2≠0
    ·rw[aj h9] at h;exact aR h h9
    rw[ah h9] at h⊢;by_cases h10:(more c false (dV t d c).1 (decide (has t.au 2))).2≠0
    ·rw[aj h10] at h;exact aR h h10
    rw[ah h10];dsimp only;refine⟨d,c,rfl,rfl,rfl,bh.1 h1,h2,bh.1 h3,by omega,by omega,by omega,?_,?_,?_,?_⟩
    ·by_cases hh:bV<=d.dp+d.dq+(dV t d c).1
     ·exfalso;apply h9;unfold more;rw[aj rfl,aj hh];exact(show(32:Int)≠0 by decide)
     ·omega
    ·by_cases hh:bV<=c.cp+c.cq+(dV t d c).1
     ·exfalso;apply h10;unfold more;rw[ah py,aj hh];exact(show(32:Int)≠0 by decide)
     ·omega
    ·intro hh;apply h9;unfold more;rw[aj rfl];by_cases h0:bV<=d.dp+d.dq+(dV t d c).1
     ·rw[aj h0];exact(show(32:Int)≠0 by decide)
     ·rw[ah h0,aj hh];exact(show(33:Int)≠0 by decide)
    ·intro hh;apply h10;unfold more;rw[ah py];by_cases h0:bV<=c.cp+c.cq+(dV t d c).1
     ·rw[aj h0];exact(show(32:Int)≠0 by decide)
     ·rw[ah h0,aj hh];exact(show(34:Int)≠0 by decide)
def oo{l:List bp}(hn:(l.map (·.id)).Nodup){a:bp}(ha:a∈l):l.find? (λx=>x.id=a.id)=some a:=by
 induction l with
 |nil=>simp at ha
 |cons x l ih=>
  simp only[fq,List.nodup_cons] at hn;rcases gK.1 ha with rfl|ha
  ·simp
  ·rw[List.find?_cons];by_cases hx:x.id=a.id
   ·exact aR (dK.2 ⟨a,ha,hx.symm⟩) hn.1
   ·simp only[hx,decide_false];exact ih hn.2 ha
def IP{a:bp}{k:bS}(h1:k.move.bq≠a.id)(h2:k.move.aU≠a.id):full [k] a=a:=by
 rw[yK];unfold xD zH xE zJ nC;simp[h1,h2]
def A1(a:bp)(b:Bool)(n:Nat)(p:Bool):(more a b n p).1.id=a.id/\(more a b n p).1.aw=a.aw:=by
 unfold more;split<;>split<;>(try exact⟨rfl,rfl⟩)<;>split<;>(try exact⟨rfl,rfl⟩)<;>split<;>exact⟨rfl,rfl⟩
def yT(a:bp)(yes:Prop)[Decidable yes]:(close a yes).id=a.id/\(close a yes).aw=a.aw:=by unfold close;split<;>exact⟨rfl,rfl⟩
def IC{d c x:bp}{t:cj}{n:Nat}{st ck:Int}(W2:t.bq≠t.aU)(hd:d.id=t.bq)(hc:c.id=t.aU)(sx: ¬lM t.au)(WE:d.dp+d.dq+n<bV)(hsc:c.cp+c.cq+n<bV)(hxd:x.id=t.bq->x=d)(hxc:x.id=t.aU->x=c)
 (Nl: ¬(has d.au 2/\ky d true<n))(sh: ¬(has c.au 4/\ky c false<n))(q1:has t.au 64->has t.au 2)(q2:has t.au 128->has t.au 2):
 (λy:bp=>if y.id=(close (more c false n (decide (has t.au 2))).1 (has t.au 128)).id then{close (more c false n (decide (has t.au 2))).1 (has t.au 128) with aw:=y.aw} else y)
  ((λy:bp=>if y.id=(close (more d true n (decide (has t.au 2))).1 (has t.au 64)).id then{close (more d true n (decide (has t.au 2))).1 (has t.au 64) with aw:=y.aw} else y) x)
 =full [⟨t,{t with aZ:=n,aw:=st,kQ:=ck},waits t⟩] x:=by
 have i1:(close (more d true n (decide (has t.au 2))).1 (has t.au 64)).id=t.bq:=by rw[(yT _ _).1,(A1 _ _ _ _).1,hd]
 have i2:(close (more c false n (decide (has t.au 2))).1 (has t.au 128)).id=t.aU:=by rw[(yT _ _).1,(A1 _ _ _ _).1,hc]
 have s1:(close (more d true n (decide (has t.au 2))).1 (has t.au 64)).aw=d.aw:=by rw[(yT _ _).2,(A1 _ _ _ _).2]
 have s2:(close (more c false n (decide (has t.au 2))).1 (has t.au 128)).aw=c.aw:=by rw[(yT _ _).2,(A1 _ _ _ _).2]
 have e4: ¬has t.au 4:=λh=>sx (.inl h);have e8: ¬has t.au 8:=λh=>sx (.inr h);dsimp only;rw[i1,i2];by_cases h1:x.id=t.bq
 ·have hx:=hxd h1;subst hx;rw[aj h1];rw[ah (show ¬t.bq=t.aU from W2),yK];unfold xD zH xE zJ nC lV waits close more;have hZ: ¬t.aU=x.id:=λh=>W2 (by rw[h,h1]);simp only[if_true,ah (show ¬bV<=x.dp+x.dq+n by omega),ah Nl];by_cases hw:has t.au 2<;>by_cases nR:has t.au 64<;>(try exact aR (q1 nR) hw)<;>simp[hw,nR,e8,h1.symm,hZ]
 ·rw[ah h1];by_cases h2:x.id=t.aU
  ·have hx:=hxc h2;subst hx;rw[aj h2,yK];unfold xD zH xE zJ nC lV waits close more;have hZ: ¬t.bq=x.id:=λh=>h1 h.symm;simp only[cn,if_false,ah (show ¬bV<=x.cp+x.cq+n by omega),ah sh];by_cases hw:has t.au 2<;>by_cases nR:has t.au 128<;>(try exact aR (q2 nR) hw)<;>simp[hw,nR,e8,h2.symm,hZ]
  ·rw[ah h2,IP (λh=>h1 h.symm) (λh=>h2 h.symm)]
def MF{t:cj}(h:pC t=0)(he: ¬lM t.au):t.bq≠t.aU/\0<=t.au/\t.au<=255/\(has t.au 64->has t.au 2)/\(has t.au 128->has t.au 2):=by
 unfold pC at h;by_cases h1:t.au<0\/255<t.au
 ·rw[aj h1] at h;exact aR h (by decide)
 rw[ah h1] at h;have ht:jv t.au:=by
  by_cases h2:t.id=0
  ·rw[aj h2] at h;exact aR h (by decide)
  rw[ah h2] at h;by_cases h3:t.id=bV-1
  ·rw[aj h3] at h;exact aR h (by decide)
  rw[ah h3] at h;by_cases h4: ¬jv t.au
  ·rw[aj h4] at h;exact aR h (by decide)
  exact bh.1 h4
 have Sj:∀b:Int,(b=64\/b=128)->has t.au b->has t.au 2:=λb hb hh=>by
  rcases ht.2.2 with h0|h0
  ·unfold has at hh;rcases hb with rfl|rfl<;>omega
  ·exact h0
 refine⟨λW2=>?_,by omega,by omega,Sj 64 (.inl rfl),Sj 128 (.inr rfl)⟩;by_cases h2:t.id=0
 ·rw[aj h2] at h;exact aR h (by decide)
 rw[ah h2] at h;by_cases h3:t.id=bV-1
 ·rw[aj h3] at h;exact aR h (by decide)
 rw[ah h3] at h;by_cases h4: ¬jv t.au
 ·rw[aj h4] at h;exact aR h (by decide)
 rw[ah h4] at h;by_cases h5:t.aw≠0\/t.kQ≠0
 ·rw[aj h5] at h;exact aR h (by decide)
 rw[ah h5] at h;by_cases h6:t.cL<0\/1073741824<t.cL\/0<t.cL/\ ¬has t.au 2
 ·rw[aj h6] at h;exact aR h (by decide)
 rw[ah h6,ah he] at h;by_cases h7:t.bq=0
 ·rw[aj h7] at h;exact aR h (by decide)
 rw[ah h7] at h;by_cases h8:t.aU=0
 ·rw[aj h8] at h;exact aR h (by decide)
 rw[ah h8,aj W2] at h;exact aR h (by decide)
def Cg{l:List bS}{a:bp}(h0:0<=a.au)(h:(full l a).au<8):S (sf a.id) l=0:=by
 by_cases hs:S (sf a.id) l=0
 ·exact hs
 ·exfalso;have e:(full l a).au=a.au%8+8:=ah hs;rw[e] at h;omega
def mC.EL{b:aO}{m:aK}(h:mC b m)(id:Nat):b.named id=m.named id:=by unfold aO.named aK.named;rw[h.ax]
def cR.Pu{m:aK}(h:cR m)(id:Nat):(m.find id).map m.full=(m.find id).map (Md.full m.ax):=by
 cases hf:m.find id with
 |none=>rfl
 |some a=>rw[dN,dN,h.full (yN hf).1]
def cR.one{m:aK}(h:cR m){id:Nat}{d:bp}(hf:(m.find id).map (Md.full m.ax)=some d){a:bp}(ha:a∈m.eS)(Cd:a.id=id):Md.full m.ax a=d:=by
 have:=oo h.ids ha;rw[Cd] at this;unfold aK.find at hf;rw[this] at hf;simpa using hf
def mC.move{b:aO}{m:aK}{t:cj}(hs:mC b m)(hg:cR m):(b.move t).1=(m.move t).1/\mC (b.move t).2 (m.move t).2/\cR (m.move t).2:=by
 have e:kd t (b.named t.id) (b.find t.bq) (b.find t.aU) b.ax.length=kd t (m.named t.id) ((m.find t.bq).map m.full) ((m.find t.aU).map m.full) m.ax.length:=by
  rw[hs.EL,hs.find,hs.find,hg.Pu,hg.Pu,hs.ax]
 unfold aO.move aK.move;dsimp only;rw[e];by_cases hr:(kd t (m.named t.id) ((m.find t.bq).map m.full) ((m.find t.aU).map m.full) m.ax.length).1≠0
 ·rw[aj hr,aj hr];exact⟨rfl,hs,hg⟩
 rw[ah hr,ah hr];have WH:=bh.1 hr;obtain⟨d,c,hd,hc,hn,qK,sx,hlg,hfd,hfc,ZD,WE,hsc,Nl,sh⟩:=Gu WH;generalize (kd t (m.named t.id) ((m.find t.bq).map m.full) ((m.find t.aU).map m.full) m.ax.length).2=n at *;obtain⟨W2,agA,agz,hq1,hq2⟩:=MF qK sx;rw[hg.Pu] at hd hc;have hbd:b.find t.bq=some d:=by rw[hs.find];exact hd
 have hbc:b.find t.aU=some c:=by rw[hs.find];exact hc
 obtain⟨d0,hd0,rfl⟩:=Option.map_eq_some_iff.1 hd;obtain⟨c0,hc0,rfl⟩:=Option.map_eq_some_iff.1 hc;obtain⟨HI,HJ⟩:=yN hd0;obtain⟨Sd,EV⟩:=yN hc0;refine⟨rfl,⟨?_,?_,?_,?_⟩,?_⟩
 ·unfold aO.Af;rw[hbd,hbc];show((b.aB.map _).map _)=m.eS.map (Md.full (m.ax++[_]));rw[hs.aB,y6,y6];apply od;intro a ha;rw[DX];exact IC (d:=Md.full m.ax d0) (c:=Md.full m.ax c0) (x:=Md.full m.ax a) W2 HJ EV sx WE hsc (λhx=>hg.one hd ha hx) (λhx=>hg.one hc ha hx) Nl sh hq1 hq2
 ·unfold aO.Af;rw[hbd,hbc];show b.ax++[(⟨t,{{t with aZ:=n} with aw:=b.aw+1,kQ:=b.clock},waits t⟩:bS)]=m.ax++[_];rw[hs.ax,hs.aw,hs.clock]
 ·unfold aO.Af;rw[hbd,hbc];exact hs.clock
 ·unfold aO.Af;rw[hbd,hbc];show b.aw+1=m.aw+1;rw[hs.aw]
 ·have hdz:=hg.zero d0 HI;have hcz:=hg.zero c0 Sd;have hle:∀id(k:bS),k.move.bq=t.bq->k.move.aZ=n->k.move.au=t.au->k.fate=waits t->xD id k+zH id k<=if t.bq=id then n else 0:=λid k e1 e2 e3 e4=>by
   have hx:k.fate=1-> ¬lV k:=λh1 h2=>by
    rw[e4] at h1;unfold waits at h1;by_cases h3:has t.au 2
    ·exact h2.1 (by rw[e3];exact h3)
    ·rw[ah h3] at h1;exact aR h1 (by decide)
   unfold xD zH;rw[e1,e2];by_cases h1:t.bq=id
   ·by_cases h2:k.fate=1
    ·simp[h1,h2,hx h2]
    ·simp[h1,h2];split<;>omega
   ·simp[h1]
  have ads:∀id(k:bS),k.move.aU=t.aU->k.move.aZ=n->k.move.au=t.au->k.fate=waits t->xE id k+zJ id k<=if t.aU=id then n else 0:=λid k e1 e2 e3 e4=>by
   have hx:k.fate=1-> ¬lV k:=λh1 h2=>by
    rw[e4] at h1;unfold waits at h1;by_cases h3:has t.au 2
    ·exact h2.1 (by rw[e3];exact h3)
    ·rw[ah h3] at h1;exact aR h1 (by decide)
   unfold xE zJ;rw[e1,e2];by_cases h1:t.aU=id
   ·by_cases h2:k.fate=1
    ·simp[h1,h2,hx h2]
    ·simp[h1,h2];split<;>omega
   ·simp[h1]
  refine⟨hg.zero,hg.ids,hg.oK,?_,λk hk=>?_,λk hk=>?_,?_,λa ha=>?_,λa ha=>?_,λa ha=>?_⟩
  ·show((m.ax++[_]).map _).Nodup;rw[cS,List.nodup_append];refine⟨hg.names,by simp,λx hx y hy=>?_⟩;simp only[fq,List.map_nil,fO] at hy;obtain⟨k,hk,rfl⟩:=dK.1 hx;intro hxy;unfold aK.named at hn;have:=sX.1 hn k hk;simp[hxy,hy] at this
  ·rcases dG.1 hk with hk|hk
   ·exact hg.vL k hk
   ·simp only[fO] at hk;subst hk;unfold waits;by_cases h2:has t.au 2
    ·simp only[aj h2];exact⟨by decide,by decide,by simp[h2]⟩
    ·simp only[ah h2];exact⟨by decide,by decide,by simp[h2]⟩
  ·rcases dG.1 hk with hk|hk
   ·exact hg.wL k hk
   ·simp only[fO] at hk;subst hk;exact⟨W2,dK.2 ⟨d0,HI,HJ⟩,dK.2 ⟨c0,Sd,EV⟩⟩
  ·show(m.ax++[_]).length<=96;rw[ak,Hy];omega
  ·show S (xD a.id) (m.ax++[_])+S (zH a.id) (m.ax++[_])<bV;rw[sU,sU];generalize hK:bS.mk t _ (waits t)=K;have h1:=hle a.id K (by rw[<-hK]) (by rw[<-hK]) (by rw[<-hK]) (by rw[<-hK]);have h2:=hg.xn a ha;by_cases W6:t.bq=a.id
   ·rw[aj W6] at h1;have h3:=hg.one hd ha W6.symm;rw[<-h3] at WE;have h4:=hg.zero a ha;have e1:(Md.full m.ax a).dp=a.dp+S (xD a.id) m.ax:=rfl;have e2:(Md.full m.ax a).dq=a.dq+S (zH a.id) m.ax:=rfl;omega
   ·rw[ah W6] at h1;omega
  ·show S (xE a.id) (m.ax++[_])+S (zJ a.id) (m.ax++[_])<bV;rw[sU,sU];generalize hK:bS.mk t _ (waits t)=K;have h1:=ads a.id K (by rw[<-hK]) (by rw[<-hK]) (by rw[<-hK]) (by rw[<-hK]);have h2:=hg.uG a ha;by_cases W6:t.aU=a.id
   ·rw[aj W6] at h1;have h3:=hg.one hc ha W6.symm;rw[<-h3] at hsc;have e1:(Md.full m.ax a).cp=a.cp+S (xE a.id) m.ax:=rfl;have e2:(Md.full m.ax a).cq=a.cq+S (zJ a.id) m.ax:=rfl;omega
   ·rw[ah W6] at h1;omega
  ·show S (sf a.id) (m.ax++[_])<=1;rw[sU];have h2:=hg.sC a ha;generalize hK:bS.mk t _ (waits t)=K;by_cases nR:nC a.id K
   ·have h3:sf a.id K=1:=aj nR;have h0:S (sf a.id) m.ax=0:=by
     rcases nR.1 with⟨_,hh⟩|⟨_,hh⟩
     ·rw[<-hK] at hh;have:=hg.one hd ha (show a.id=t.bq from hh.symm);rw[<-this] at hfd;exact Cg (hg.zero a ha).2.2.2.2.1 hfd
     ·rw[<-hK] at hh;have:=hg.one hc ha (show a.id=t.aU from hh.symm);rw[<-this] at hfc;exact Cg (hg.zero a ha).2.2.2.2.1 hfc
    omega
   ·have h3:sf a.id K=0:=ah nR;omega
def modify_eq{α:Type}(f:α->α):∀(l:List α)(i:Nat)(h:i<l.length),l.modify i f=l.set i (f l[i])
 |[],i,h=>by simp at h
 |x::l,0,h=>by simp[List.modify]
 |x::l,i+1,h=>by
  have:=modify_eq f l i (by simpa using h);simp[List.modify_succ_cons,this]
def ended{l:List bS}{i:Nat}(hi:i<l.length){f:Int}(h1:l[i].fate=1)(hw:has l[i].move.au 2)(hf:f=2\/f=3\/f=4)(id:Nat):
 S (xD id) (l.set i {l[i] with fate:=f})+(if l[i].move.bq=id then l[i].move.aZ else 0)=S (xD id) l/\
 S (xE id) (l.set i {l[i] with fate:=f})+(if l[i].move.aU=id then l[i].move.aZ else 0)=S (xE id) l/\
 S (zH id) (l.set i {l[i] with fate:=f})=S (zH id) l/\S (zJ id) (l.set i {l[i] with fate:=f})=S (zJ id) l/\
 S (sf id) (l.set i {l[i] with fate:=f})+(if f≠2/\(has l[i].move.au 64/\l[i].move.bq=id\/has l[i].move.au 128/\l[i].move.aU=id) then 1 else 0)=S (sf id) l:=by
 have a1:=Eh (xD id) l i {l[i] with fate:=f} hi;have a2:=Eh (xE id) l i {l[i] with fate:=f} hi;have a3:=Eh (zH id) l i {l[i] with fate:=f} hi;have a4:=Eh (zJ id) l i {l[i] with fate:=f} hi;have a5:=Eh (sf id) l i {l[i] with fate:=f} hi;have b1:xD id {l[i] with fate:=f}=0:=by unfold xD;rw[ah (by rintro⟨hh,_⟩;dsimp only at hh;omega)]
 have b2:xE id {l[i] with fate:=f}=0:=by unfold xE;rw[ah (by rintro⟨hh,_⟩;dsimp only at hh;omega)]
 have b3:zH id {l[i] with fate:=f}=zH id l[i]:=rfl;have b4:zJ id {l[i] with fate:=f}=zJ id l[i]:=rfl;have c1:xD id l[i]=if l[i].move.bq=id then l[i].move.aZ else 0:=by
  unfold xD;by_cases h:l[i].move.bq=id
  ·rw[aj ⟨h1,h⟩,aj h]
  ·rw[ah (λhh=>h hh.2),ah h]
 have c2:xE id l[i]=if l[i].move.aU=id then l[i].move.aZ else 0:=by
  unfold xE;by_cases h:l[i].move.aU=id
  ·rw[aj ⟨h1,h⟩,aj h]
  ·rw[ah (λhh=>h hh.2),ah h]
 rw[b1,c1] at a1;rw[b2,c2] at a2;rw[b3] at a3;rw[b4] at a4;refine⟨by omega,by omega,by omega,by omega,?_⟩;by_cases nR:has l[i].move.au 64/\l[i].move.bq=id\/has l[i].move.au 128/\l[i].move.aU=id
 ·have d1:sf id l[i]=1:=aj ⟨nR,.inl h1⟩;by_cases A4:f=2
  ·have d2:sf id {l[i] with fate:=f}=1:=aj ⟨nR,.inr A4⟩;rw[ah (λhh=>hh.1 A4)];omega
  ·have d2:sf id {l[i] with fate:=f}=0:=ah (by rintro⟨_,hh⟩;dsimp only at hh;omega);rw[aj ⟨A4,nR⟩];omega
 ·have d1:sf id l[i]=0:=ah (λhh=>nR hh.1);have d2:sf id {l[i] with fate:=f}=0:=ah (λhh=>nR hh.1);rw[ah (λhh=>nR hh.2)];omega
def EB(d:bp)(p:cj)(n:Nat)(f:Int):(xe d p n f).id=d.id/\(xe d p n f).aw=d.aw:=by unfold xe open_;split<;>(try exact⟨rfl,rfl⟩);split<;>exact⟨rfl,rfl⟩
def EC(d:bp)(p:cj)(n:Nat)(f:Int):(yl d p n f).id=d.id/\(yl d p n f).aw=d.aw:=by unfold yl open_;split<;>(try exact⟨rfl,rfl⟩);split<;>exact⟨rfl,rfl⟩
def F8{l:List bS}{i:Nat}(hi:i<l.length){f:Int}{n:Nat}{a:bp}(h1:l[i].fate=1)(hw:has l[i].move.au 2)(hf:f=2\/f=3\/f=4)(hZ:l[i].move.bq≠l[i].move.aU)(ha0:0<=a.au)(ha8:a.au<8)(nR:S (sf a.id) l<=1)
 {d c:bp}(hd:d.id=l[i].move.bq)(hc:c.id=l[i].move.aU)(hxd:a.id=l[i].move.bq->full l a=d)(hxc:a.id=l[i].move.aU->full l a=c):
 (λy:bp=>if y.id=(yl c l[i].move n f).id then{yl c l[i].move n f with aw:=y.aw} else y) ((λy:bp=>if y.id=(xe d l[i].move n f).id then{xe d l[i].move n f with aw:=y.aw} else y) (full l a))
 ={full (l.set i {l[i] with fate:=f}) a with dq:=(full l a).dq+(if f=2/\l[i].move.bq=a.id then n else 0),cq:=(full l a).cq+(if f=2/\l[i].move.aU=a.id then n else 0)}:=by
 have Cd:(full l a).id=a.id:=rfl;obtain⟨e1,e2,e3,e4,e5⟩:=ended hi h1 hw hf a.id;dsimp only;rw[(EC c _ n f).1,(EB d _ n f).1,hd,hc];generalize hk:l[i]=k at *;generalize hl:l.set i {k with fate:=f}=l' at *;by_cases L9:a.id=k.move.bq
 ·have hx:=hxd L9;rw[aj (show(full l a).id=k.move.bq by rw[Cd];exact L9),ah (show ¬k.move.bq=k.move.aU from hZ),<-hx];have WN: ¬k.move.aU=a.id:=λhh=>hZ (by rw[hh,L9]);rw[aj L9.symm] at e1;rw[ah WN] at e2;unfold xe open_ full;dsimp only;by_cases h2:f=2
  ·subst h2;simp only[if_true,true_and,L9.symm,WN,if_false,iL];rw[ah (by rintro⟨hh,_⟩;exact hh rfl)] at e5;have:S (sf a.id) l'=S (sf a.id) l:=by omega
   simp only[this,e3,e4]
   congr 1<;>omega
  ·have hb:∀p:Prop,¬(f=2/\p):=λp hh=>h2 hh.1;rw[ah h2,ah (hb _),ah (hb _)];by_cases Sj:has k.move.au 64
   ·rw[aj ⟨h2,.inl ⟨Sj,L9.symm⟩⟩] at e5;have z1:S (sf a.id) l'=0:=by omega
    have z2: ¬S (sf a.id) l=0:=by omega
    simp only[z1,z2,Sj,if_true,if_false,e3,e4]
    congr 1<;>omega
   ·rw[ah (by rintro⟨_,hh|hh⟩;exact Sj hh.1;exact WN hh.2)] at e5;have:S (sf a.id) l'=S (sf a.id) l:=by omega
    simp only[this,Sj,if_false,e3,e4]
    congr 1<;>omega
 ·rw[ah (show ¬(full l a).id=k.move.bq by rw[Cd];exact L9)];have L3: ¬k.move.bq=a.id:=λhh=>L9 hh.symm;by_cases No:a.id=k.move.aU
  ·have hx:=hxc No;rw[aj (show(full l a).id=k.move.aU by rw[Cd];exact No),<-hx];rw[ah L3] at e1;rw[aj No.symm] at e2;unfold yl open_ full;dsimp only;by_cases h2:f=2
   ·subst h2;simp only[if_true,true_and,No.symm,L3,if_false,iL];rw[ah (by rintro⟨hh,_⟩;exact hh rfl)] at e5;have:S (sf a.id) l'=S (sf a.id) l:=by omega
    simp only[this,e3,e4]
    congr 1<;>omega
   ·have hb:∀p:Prop,¬(f=2/\p):=λp hh=>h2 hh.1;rw[ah h2,ah (hb _),ah (hb _)];by_cases IN:has k.move.au 128
    ·rw[aj ⟨h2,.inr ⟨IN,No.symm⟩⟩] at e5;have z1:S (sf a.id) l'=0:=by omega
     have z2: ¬S (sf a.id) l=0:=by omega
     simp only[z1,z2,IN,if_true,if_false,e3,e4]
     congr 1<;>omega
    ·rw[ah (by rintro⟨_,hh|hh⟩;exact L3 hh.2;exact IN hh.1)] at e5;have:S (sf a.id) l'=S (sf a.id) l:=by omega
     simp only[this,IN,if_false,e3,e4]
     congr 1<;>omega
  ·rw[ah (show ¬(full l a).id=k.move.aU by rw[Cd];exact No)];have WO: ¬k.move.aU=a.id:=λhh=>No hh.symm;rw[ah L3] at e1;rw[ah WO] at e2;rw[ah (by rintro⟨_,hh|hh⟩;exact L3 hh.2;exact WO hh.2)] at e5;have:S (sf a.id) l'=S (sf a.id) l:=by omega
   unfold full;simp only[this,L3,WO,and_false,if_false,iL,e3,e4]
   congr 1<;>omega
def Ao{l:List bS}{p:bS->Bool}:l.find? p=(l.findIdx? p).bind λi=>l[i]?:=by
 induction l with
 |nil=>rfl
 |cons x l ih=>
  rw[List.find?_cons,List.findIdx?_cons];cases hp:p x with
  |true=>rfl
  |false=>
   simp only[ih];cases l.findIdx? p with
   |none=>rfl
   |some i=>simp
def mC.make{b:aO}{m:aK}{a:bp}(hs:mC b m)(hg:cR m):(b.make a).1=(m.make a).1/\mC (b.make a).2 (m.make a).2/\cR (m.make a).2:=by
 unfold aO.make aK.make;by_cases h1:tJ a≠0
 ·rw[aj h1,aj h1];exact⟨rfl,hs,hg⟩
 rw[ah h1,ah h1,hs.find];cases hf:m.find a.id with
 |some x=>
  refine⟨?_,hs,hg⟩;show ow a (Md.full m.ax x)=ow a x;have hz:=hg.zero x (yN hf).1;unfold ow Md.full;dsimp only;have:(if S (sf x.id) m.ax=0 then x.au else x.au%8+8)/2%4=x.au/2%4:=by split<;>omega
  rw[this]
 |none=>
  have hlen:b.aB.length=m.eS.length:=by rw[hs.aB,cu]
  dsimp only[Option.map_none];rw[hlen];by_cases h2:32<=m.eS.length
  ·rw[aj h2,aj h2];exact⟨rfl,hs,hg⟩
  rw[ah h2,ah h2];have qK:=bh.1 h1;have lH:∀x∈m.eS,x.id≠a.id:=λx hx=>by
   have:=sX.1 hf x hx;simpa using this
  have hc:0<=a.au/\a.au<=7/\a.dp=0/\a.dq=0/\a.cp=0/\a.cq=0:=by
   unfold tJ at qK;by_cases c1:a.au<0\/7<a.au
   ·rw[aj c1] at qK;exact aR qK (by decide)
   rw[ah c1] at qK;by_cases c2:a.id=0
   ·rw[aj c2] at qK;exact aR qK (by decide)
   rw[ah c2] at qK;by_cases c3:a.id=bV-1
   ·rw[aj c3] at qK;exact aR qK (by decide)
   rw[ah c3] at qK;by_cases c4:has a.au 2/\has a.au 4
   ·rw[aj c4] at qK;exact aR qK (by decide)
   rw[ah c4] at qK;by_cases c5:a.dp≠0\/a.dq≠0\/a.cp≠0\/a.cq≠0\/a.aw≠0
   ·rw[aj c5] at qK;exact aR qK (by decide)
   omega
  have z:∀k∈m.ax,k.move.bq≠a.id/\k.move.aU≠a.id:=λk hk=>by
   obtain⟨_,s1,s2⟩:=hg.wL k hk;obtain⟨x,hx,hxe⟩:=dK.1 s1;obtain⟨y,hy,hye⟩:=dK.1 s2;exact⟨λh=>lH x hx (by rw[hxe,h]),λh=>lH y hy (by rw[hye,h])⟩
  have S0:∀f:bS->Nat,(∀k∈m.ax,f k=0)->S f m.ax=0:=λf hf=>by
   have:∀l:List bS,(∀k∈l,f k=0)->S f l=0:=λl=>by
    induction l with
    |nil=>intro _;rfl
    |cons x l ih=>intro h;rw[pq,h x (by simp),ih λk hk=>h k (by simp[hk])]
   exact this _ hf
  have z1:S (xD a.id) m.ax=0:=S0 _ λk hk=>ah (λhh=>(z k hk).1 hh.2);have z2:S (xE a.id) m.ax=0:=S0 _ λk hk=>ah (λhh=>(z k hk).2 hh.2);have z3:S (zH a.id) m.ax=0:=S0 _ λk hk=>ah (λhh=>(z k hk).1 hh.2);have z4:S (zJ a.id) m.ax=0:=S0 _ λk hk=>ah (λhh=>(z k hk).2 hh.2);have z5:S (sf a.id) m.ax=0:=S0 _ λk hk=>ah (λhh=>by
   rcases hh.1 with h|h
   ·exact(z k hk).1 h.2
   ·exact(z k hk).2 h.2)
  refine⟨rfl,⟨?_,hs.ax,hs.clock,by show b.aw+1=m.aw+1;rw[hs.aw]⟩,?_⟩
  ·show b.aB++[_]=(m.eS++[_]).map (Md.full m.ax);rw[cS,hs.aB,hs.aw]
   congr 1
   simp only[fq,List.map_nil]
   congr 1
   unfold Md.full;dsimp only;rw[z1,z2,z3,z4,z5,aj rfl];simp
  ·have key:∀x∈m.eS++[({a with aw:=m.aw+1,au:=a.au/2* 2}:bp)],x∈m.eS\/x={a with aw:=m.aw+1,au:=a.au/2* 2}:=λx hx=>by
    rcases dG.1 hx with h|h
    ·exact .inl h
    ·exact .inr (by simpa using h)
   refine⟨λx hx=>?_,?_,?_,hg.names,hg.vL,λk hk=>?_,hg.some_,λx hx=>?_,λx hx=>?_,λx hx=>?_⟩
   ·rcases key x hx with h|rfl
    ·exact hg.zero x h
    ·exact⟨hc.2.2.1,hc.2.2.2.1,hc.2.2.2.2.1,hc.2.2.2.2.2,by show 0<=a.au/2* 2;omega,by show a.au/2* 2<8;omega⟩
   ·show((m.eS++[_]).map _).Nodup;rw[cS,List.nodup_append];refine⟨hg.ids,by simp,λx hx y hy=>?_⟩;simp only[fq,List.map_nil,fO] at hy;obtain⟨u,hu,rfl⟩:=dK.1 hx;rw[hy];exact lH u hu
   ·show(m.eS++[_]).length<=32;rw[ak,Hy];omega
   ·obtain⟨s0,s1,s2⟩:=hg.wL k hk;refine⟨s0,?_,?_⟩
    ·show _∈(m.eS++[_]).map _;rw[cS];exact List.mem_append_left _ s1
    ·show _∈(m.eS++[_]).map _;rw[cS];exact List.mem_append_left _ s2
   ·rcases key x hx with h|rfl
    ·exact hg.xn x h
    ·show S (xD a.id) m.ax+S (zH a.id) m.ax<bV;rw[z1,z3];decide
   ·rcases key x hx with h|rfl
    ·exact hg.uG x h
    ·show S (xE a.id) m.ax+S (zJ a.id) m.ax<bV;rw[z2,z4];decide
   ·rcases key x hx with h|rfl
    ·exact hg.sC x h
    ·show S (sf a.id) m.ax<=1;rw[z5];decide
def aK.OW{m:aK}{id:Nat}{k:bS}(h:m.named id=some k):∃i,m.name id=some i/\∃hi:i<m.ax.length,m.ax[i]=k/\k.move.id=id:=by
 unfold aK.named at h;rw[Ao] at h;unfold aK.name;cases hx:m.ax.findIdx? (λk=>decide (k.move.id=id)) with
 |none=>rw[hx] at h;cases h
 |some i=>
  rw[hx] at h;simp only[Option.bind_some] at h;obtain⟨hi,hk⟩:=ar.1 h;refine⟨i,rfl,hi,hk,?_⟩;have:=(List.findIdx?_eq_some_iff_getElem.1 hx);obtain⟨_,hp,_⟩:=this;rw[hk] at hp;simpa using hp
def aK.LP{m:aK}{id:Nat}(h:m.named id=none):m.name id=none:=by
 unfold aK.named at h;rw[Ao] at h;unfold aK.name;cases hx:m.ax.findIdx? (λk=>decide (k.move.id=id)) with
 |none=>rfl
 |some i=>
  rw[hx] at h;simp only[Option.bind_some] at h;have:=(List.findIdx?_eq_some_iff_getElem.1 hx).1;rw[ao this] at h;cases h
def LO{l:List bS}(hn:(l.map (·.move.id)).Nodup){i j:Nat}(hi:i<l.length)(hj:j<l.length)(h:l[i].move.id=l[j].move.id):i=j:=by
 have e1:(l.map (·.move.id))[i]?=some (l[i].move.id):=by rw[dC,ao hi];rfl
 have e2:(l.map (·.move.id))[j]?=some (l[i].move.id):=by rw[dC,ao hj,h];rfl
 exact(List.getElem?_inj (by simpa using hi) hn).1 (e1.trans e2.symm)
def GV{l:List bS}(hn:(l.map (·.move.id)).Nodup){i:Nat}(hi:i<l.length)(h1:l[i].fate=1)(f:Int):(l.map λk=>if k.move.id=l[i].move.id/\k.fate=1 then{k with fate:=f} else k)=l.set i {l[i] with fate:=f}:=by
 apply jq;intro j;rw[dC,cA];by_cases Ks:i=j
 ·subst Ks;rw[ao hi,aj rfl,aj hi,dN,aj ⟨rfl,h1⟩]
 ·rw[ah Ks];cases hj:l[j]? with
  |none=>rfl
  |some k=>
   obtain⟨QO,hk⟩:=ar.1 hj;rw[dN,ah];rintro⟨hh,_⟩;rw[<-hk] at hh;exact Ks (LO hn hi QO hh.symm)
def pL{m:aK}{i:Nat}(hi:i<m.ax.length)(f:Int):(m.fA i f).ax=m.ax.set i {m.ax[i] with fate:=f}:=by
 unfold aK.fA;rw[modify_eq _ _ _ hi]
def cR.fA{m:aK}(hg:cR m){i:Nat}(hi:i<m.ax.length)(h1:m.ax[i].fate=1){f:Int}(hf:f=2\/f=3\/f=4):cR (m.fA i f):=by
 have hk:=pL (m:=m) hi f;have qJ:=bT hi;have hw:has m.ax[i].move.au 2:=(hg.vL _ qJ).2.2.2 (by omega);have afS:(m.fA i f).eS=m.eS:=rfl;have key:∀k∈(m.fA i f).ax,∃k0∈m.ax,k.move=k0.move/\k.asked=k0.asked/\(k=k0\/k.fate=f/\k0.fate=1):=λk T8=>by
  rw[hk] at T8;rcases ru T8 with h|h
  ·exact⟨k,h,rfl,rfl,.inl rfl⟩
  ·subst h;exact⟨m.ax[i],qJ,rfl,rfl,.inr ⟨rfl,h1⟩⟩
 refine⟨hg.zero,hg.ids,hg.oK,?_,λk T8=>?_,λk T8=>?_,?_,λa ha=>?_,λa ha=>?_,λa ha=>?_⟩
 ·rw[hk,List.map_set];have:m.ax[i].move.id=(m.ax.map (·.move.id))[i]'(by simpa using hi):=by simp
  have e:(m.ax.map (·.move.id)).set i ({m.ax[i] with fate:=f}:bS).move.id=m.ax.map (·.move.id):=by
   show(m.ax.map (·.move.id)).set i m.ax[i].move.id=_;rw[this,List.set_getElem_self]
  rw[e];exact hg.names
 ·obtain⟨k0,h0,e1,e2,e3⟩:=key k T8;have:=hg.vL k0 h0;rcases e3 with rfl|⟨e3,e4⟩
  ·exact this
  ·rw[e1];have h2:=this.2.2.2 (by omega);exact⟨by omega,by omega,λ_=>by omega,λ_=>h2⟩
 ·obtain⟨k0,h0,e1,e2,e3⟩:=key k T8;rw[e1];exact hg.wL k0 h0
 ·rw[hk,jC];exact hg.some_
 ·have:=hg.xn a ha;obtain⟨e1,e2,e3,e4,e5⟩:=ended hi h1 hw hf a.id;rw[hk];omega
 ·have:=hg.uG a ha;obtain⟨e1,e2,e3,e4,e5⟩:=ended hi h1 hw hf a.id;rw[hk];omega
 ·have:=hg.sC a ha;obtain⟨e1,e2,e3,e4,e5⟩:=ended hi h1 hw hf a.id;rw[hk];omega
def mC.release{b:aO}{m:aK}(hs:mC b m)(hg:cR m){i:Nat}(hi:i<m.ax.length)(h1:m.ax[i].fate=1){f:Int}(hf:f=3\/f=4)(n:Nat):mC (b.release m.ax[i].move n f) (m.fA i f):=by
 have qJ:=bT hi;have hw:has m.ax[i].move.au 2:=(hg.vL _ qJ).2.2.2 (by omega);obtain⟨hZ,hd,hc⟩:=hg.wL _ qJ;obtain⟨d0,HI,HJ⟩:=dK.1 hd;obtain⟨c0,Sd,EV⟩:=dK.1 hc;have fd:b.find m.ax[i].move.bq=some (Md.full m.ax d0):=by
  rw[hs.find];unfold aK.find;rw[<-HJ,oo hg.ids HI];rfl
 have fc:b.find m.ax[i].move.aU=some (Md.full m.ax c0):=by
  rw[hs.find];unfold aK.find;rw[<-EV,oo hg.ids Sd];rfl
 unfold aO.release;rw[fd,fc];have hk:=pL (m:=m) hi f;refine⟨?_,?_,hs.clock,hs.aw⟩
 ·show((b.aB.map _).map _)=m.eS.map (Md.full (m.fA i f).ax);rw[hk,hs.aB,y6,y6];apply od;intro a ha;have hz:=hg.zero a ha;have:=F8 (l:=m.ax) (n:=n) (a:=a) (d:=Md.full m.ax d0) (c:=Md.full m.ax c0) hi h1 hw (.inr hf) hZ hz.2.2.2.2.1 hz.2.2.2.2.2 (hg.sC a ha) HJ EV
   (λh=>by
    have e:(m.find m.ax[i].move.bq).map (Md.full m.ax)=some (Md.full m.ax d0):=by rw[<-hs.find];exact fd
    exact hg.one e ha h)
   (λh=>by
    have e:(m.find m.ax[i].move.aU).map (Md.full m.ax)=some (Md.full m.ax c0):=by rw[<-hs.find];exact fc
    exact hg.one e ha h)
  apply Eq.trans this;have h2: ¬f=2:=by omega
  obtain⟨e1,e2,e3,e4,e5⟩:=ended hi h1 hw (.inr hf) a.id;rw[ah (λhh=>h2 hh.1),ah (λhh=>h2 hh.1)];unfold Md.full;dsimp only;rw[e3,e4]
  rfl
 ·show(b.ax.map _)=_;rw[hs.ax,hk];exact GV hg.names hi h1 f
def G0{t:cj}{named:Option bS}{k:bS}{d1 c1 d2 c2:Bool}{many:Nat}(h:has k.move.au 2-> ¬1<k.fate->d1=d2/\c1=c2):nV t named (some k) d1 c1 many=nV t named (some k) d2 c2 many:=by
 unfold nV;split
 ·rfl
 split
 ·rfl
 split
 ·rfl
 ·dsimp only;split
  ·rfl
  rename_i h2;split
  ·rfl
  split
  ·rfl
  rename_i h3;obtain⟨e1,e2⟩:=h (bh.1 h2) h3;rw[e1,e2]
def IX{t:cj}{named:Option bS}{k:bS}{d c:Bool}{many:Nat}(h:nV t named (some k) d c many=0)(hk:0<=k.fate):named=none/\pC t=0/\lM t.au/\has k.move.au 2/\ ¬1<k.fate/\ ¬ot t k.move/\many<96:=by
 unfold nV at h;by_cases h1:pC t≠0
 ·rw[aj h1] at h;exact aR h h1
 rw[ah h1] at h;by_cases h2: ¬lM t.au
 ·rw[aj h2] at h;exact aR h (by decide)
 rw[ah h2] at h;cases named with
 |some x=>exact aR h (tN t x.asked)
 |none=>
  dsimp only at h;by_cases h3: ¬has k.move.au 2
  ·rw[aj h3] at h;exact aR h (by decide)
  rw[ah h3] at h;by_cases h4:gT t k.move
  ·rw[aj h4] at h;exact aR h (by decide)
  rw[ah h4] at h;by_cases h5:1<k.fate
  ·rw[aj h5] at h;omega
  rw[ah h5] at h;by_cases h6:ot t k.move
  ·rw[aj h6] at h;exact aR h (by decide)
  rw[ah h6] at h;by_cases h7:has t.au 4/\d=true
  ·rw[aj h7] at h;exact aR h (by decide)
  rw[ah h7] at h;by_cases h8:has t.au 4/\c=true
  ·rw[aj h8] at h;exact aR h (by decide)
  rw[ah h8] at h;by_cases h9:96<=many
  ·rw[aj h9] at h;exact aR h (by decide)
  exact⟨rfl,bh.1 h1,bh.1 h2,bh.1 h3,h5,h6,by omega⟩
def Ha{t:cj}(h:pC t=0)(he:lM t.au): ¬has t.au 2/\(has t.au 8↔ ¬has t.au 4)/\ ¬has t.au 64/\ ¬has t.au 128:=by
 unfold pC at h;by_cases h1:t.au<0\/255<t.au
 ·rw[aj h1] at h;exact aR h (by decide)
 rw[ah h1] at h;by_cases h2:t.id=0
 ·rw[aj h2] at h;exact aR h (by decide)
 rw[ah h2] at h;by_cases h3:t.id=bV-1
 ·rw[aj h3] at h;exact aR h (by decide)
 rw[ah h3] at h;by_cases h4: ¬jv t.au
 ·rw[aj h4] at h;exact aR h (by decide)
 have h4:=bh.1 h4;unfold jv at h4;unfold lM at h4 he;obtain⟨g1,g2,g3⟩:=h4;refine⟨λh2=>?_,⟨λh8 h4=>g1 (.inr (.inr ⟨h4,h8⟩)),λh4=>he.resolve_left h4⟩,λSj=>?_,λIN=>?_⟩
 ·rcases he with he|he
  ·exact g1 (.inl ⟨h2,he⟩)
  ·exact g1 (.inr (.inl ⟨h2,he⟩))
 ·have: ¬16<=t.au:=λhh=>g2 ⟨he,hh⟩;unfold has at Sj;omega
 ·have: ¬16<=t.au:=λhh=>g2 ⟨he,hh⟩;unfold has at IN;omega
def At{b:aO}{m:aK}(hs:mC b m)(hg:cR m){i:Nat}(hi:i<m.ax.length)(h1:m.ax[i].fate=1){id:Nat}{F:Int}
 (Cd:id=m.ax[i].move.bq/\F=64\/id=m.ax[i].move.aU/\F=128):b.jA id (has m.ax[i].move.au F)=m.closed id i:=by
 have qJ:=bT hi;have hw:has m.ax[i].move.au 2:=(hg.vL _ qJ).2.2.2 (by omega);obtain⟨hZ,hd,hc⟩:=hg.wL _ qJ;have Kr:id∈m.eS.map (·.id):=by
  rcases Cd with⟨h,_⟩|⟨h,_⟩<;>rw[h]<;>assumption
 obtain⟨a,ha,hai⟩:=dK.1 Kr;have hfm:m.find id=some a:=by unfold aK.find;rw[<-hai];exact oo hg.ids ha
 have hz:=hg.zero a ha;have hg3:=hg.fA hi h1 (f:=3) (.inr (.inl rfl));have T9:=pL (m:=m) hi 3;have Ys:=hg3.full (a:=a) ha;unfold aK.full at Ys;have e1:m.closed id i=decide (8<=(Md.full (m.fA i 3).ax a).au):=by
  unfold aK.closed;rw[hfm];dsimp only;have:(m.ax.modify i λk=>{k with fate:=3})=(m.fA i 3).ax:=rfl;rw[this,Ys]
 have e2:b.jA id (has m.ax[i].move.au F)=decide (8<=(Md.full m.ax a).au/\ ¬has m.ax[i].move.au F):=by
  unfold aO.jA;rw[hs.find,hfm]
  rfl
 rw[e1,e2,decide_eq_decide];have WV:∀l,8<=(Md.full l a).au↔S (sf a.id) l≠0:=λl=>by
  by_cases h0:S (sf a.id) l=0
  ·have:(Md.full l a).au=a.au:=aj h0;rw[this];exact⟨λh=>by omega,λh=>aR h0 h⟩
  ·have:(Md.full l a).au=a.au%8+8:=ah h0;rw[this];exact⟨λ_=>h0,λ_=>by omega⟩
 rw[WV,WV,T9];obtain⟨_,_,_,_,e5⟩:=ended hi h1 hw (f:=3) (.inr (.inl rfl)) a.id;have nR:=hg.sC a ha;rcases Cd with⟨h,rfl⟩|⟨h,rfl⟩
 ·have L9:m.ax[i].move.bq=a.id:=by rw[hai,h]
  have No: ¬m.ax[i].move.aU=a.id:=λhh=>hZ (by rw[L9,hh]);by_cases hF:has m.ax[i].move.au 64
  ·rw[aj ⟨by decide,.inl ⟨hF,L9⟩⟩] at e5;exact⟨λhh=>aR hF hh.2,λhh=>aR (show S (sf a.id) _=0 by omega) hh⟩
  ·rw[ah (by rintro⟨_,hh|hh⟩;exact hF hh.1;exact No hh.2)] at e5;exact⟨λhh=>by have:=hh.1;omega,λhh=>⟨by omega,hF⟩⟩
 ·have No:m.ax[i].move.aU=a.id:=by rw[hai,h]
  have L9: ¬m.ax[i].move.bq=a.id:=λhh=>hZ (by rw[hh,No]);by_cases hF:has m.ax[i].move.au 128
  ·rw[aj ⟨by decide,.inr ⟨hF,No⟩⟩] at e5;exact⟨λhh=>aR hF hh.2,λhh=>aR (show S (sf a.id) _=0 by omega) hh⟩
  ·rw[ah (by rintro⟨_,hh|hh⟩;exact L9 hh.2;exact hF hh.1)] at e5;exact⟨λhh=>by have:=hh.1;omega,λhh=>⟨by omega,hF⟩⟩
def mC.qZ{b:aO}{m:aK}{t:cj}(hs:mC b m)(hg:cR m):(b.qZ t).1=(m.qZ t).1/\mC (b.qZ t).2 (m.qZ t).2/\cR (m.qZ t).2:=by
 unfold aO.qZ aK.qZ;rw[hs.EL,hs.EL,hs.ax];cases hp:m.named t.pending with
 |none=>
  rw[aK.LP hp];exact⟨rfl,hs,hg⟩
 |some k=>
  obtain⟨i,hn,hi,hk,_⟩:=aK.OW hp;rw[hn];dsimp only;rw[ao hi,hk];dsimp only;have qJ:k∈m.ax:=by rw[<-hk];exact bT hi
  have hft:=hg.vL k qJ;have ZY:nV t (m.named t.id) (some k) (b.jA k.move.bq (has k.move.au 64)) (b.jA k.move.aU (has k.move.au 128)) m.ax.length=nV t (m.named t.id) (some k) (m.closed k.move.bq i) (m.closed k.move.aU i) m.ax.length:=by
   refine G0 (λh2 h3=>?_);have h1:m.ax[i].fate=1:=by rw[hk];have:=hft.2.2.1 h2;omega
   have c1:=At hs hg hi h1 (id:=k.move.bq) (F:=64) (by rw[hk];exact .inl ⟨rfl,rfl⟩);have c2:=At hs hg hi h1 (id:=k.move.aU) (F:=128) (by rw[hk];exact .inr ⟨rfl,rfl⟩);rw[hk] at c1 c2;exact⟨c1,c2⟩
  rw[ZY];by_cases hr:nV t (m.named t.id) (some k) (m.closed k.move.bq i) (m.closed k.move.aU i) m.ax.length≠0
  ·rw[aj hr,aj hr];exact⟨rfl,hs,hg⟩
  rw[ah hr,ah hr];obtain⟨Yn,qK,sx,hw,hfa,zE,ZD⟩:=IX (bh.1 hr) hft.1;have h1:m.ax[i].fate=1:=by rw[hk];have:=hft.2.2.1 hw;omega
  obtain⟨f2,f8,f64,f128⟩:=Ha qK sx;have hf:di t=2\/di t=3:=by unfold di;split<;>simp
  have WW:di t=2\/di t=3\/di t=4:=by rcases hf with h|h<;>simp[h]
  have A4:di t=2↔has t.au 4:=by unfold di;split<;>simp_all
  have L8:=hg.fA hi h1 WW;have R9:=pL (m:=m) hi (di t);obtain⟨hZ,hd,hc⟩:=hg.wL k qJ;obtain⟨d0,HI,HJ⟩:=dK.1 hd;obtain⟨c0,Sd,EV⟩:=dK.1 hc;have fd:b.find k.move.bq=some (Md.full m.ax d0):=by
   rw[hs.find];unfold aK.find;rw[<-HJ,oo hg.ids HI];rfl
  have fc:b.find k.move.aU=some (Md.full m.ax c0):=by
   rw[hs.find];unfold aK.find;rw[<-EV,oo hg.ids Sd];rfl
  have r1:∀id st ck,xD id ⟨t,{mK t k.move with aw:=st,kQ:=ck},0⟩=0:=λid st ck=>ah (λhh=>aR hh.1 (show ¬(0:Int)=1 by decide));have r2:∀id st ck,xE id ⟨t,{mK t k.move with aw:=st,kQ:=ck},0⟩=0:=λid st ck=>ah (λhh=>aR hh.1 (show ¬(0:Int)=1 by decide));have rp:∀st ck,lV ⟨t,{mK t k.move with aw:=st,kQ:=ck},0⟩↔di t=2:=λst ck=>by
   rw[A4];show(¬has t.au 2/\ ¬has t.au 8)↔_
   constructor
   ·rintro⟨_,hh⟩;by_cases h4:has t.au 4
    ·exact h4
    ·exact aR (f8.2 h4) hh
   ·intro h4;exact⟨f2,λh8=>f8.1 h8 h4⟩
  have r3:∀id st ck,zH id ⟨t,{mK t k.move with aw:=st,kQ:=ck},0⟩=if di t=2/\k.move.bq=id then eO t k.move else 0:=λid st ck=>by
   unfold zH;by_cases h:di t=2/\k.move.bq=id
   ·rw[aj h,aj ⟨(rp st ck).2 h.1,h.2⟩];rfl
   ·rw[ah h,ah (λhh=>h ⟨(rp st ck).1 hh.1,hh.2⟩)]
  have r4:∀id st ck,zJ id ⟨t,{mK t k.move with aw:=st,kQ:=ck},0⟩=if di t=2/\k.move.aU=id then eO t k.move else 0:=λid st ck=>by
   unfold zJ;by_cases h:di t=2/\k.move.aU=id
   ·rw[aj h,aj ⟨(rp st ck).2 h.1,h.2⟩];rfl
   ·rw[ah h,ah (λhh=>h ⟨(rp st ck).1 hh.1,hh.2⟩)]
  have r5:∀id st ck,sf id ⟨t,{mK t k.move with aw:=st,kQ:=ck},0⟩=0:=λid st ck=>ah (λhh=>by
   rcases hh.1 with h|h
   ·exact f64 h.1
   ·exact f128 h.1)
  have Si:di t=2->eO t k.move<=k.move.aZ:=λh2=>by
   have h4:=A4.1 h2;by_cases bW:k.move.aZ<eO t k.move
   ·exact aR (.inl ⟨h4,bW⟩) zE
   ·omega
  refine⟨rfl,⟨?_,?_,?_,?_⟩,?_⟩
  ·unfold aO.release;rw[fd,fc];show((b.aB.map _).map _)=m.eS.map (Md.full ((m.fA i (di t)).ax++[_]));rw[R9,hs.aB,y6,y6];apply od;intro a ha;have hz:=hg.zero a ha;have:=F8 (l:=m.ax) (n:=eO t k.move) (a:=a) (d:=Md.full m.ax d0) (c:=Md.full m.ax c0) hi h1 (by rw[hk];exact hw) WW (by rw[hk];exact hZ) hz.2.2.2.2.1 hz.2.2.2.2.2 (hg.sC a ha) (by rw[hk];exact HJ) (by rw[hk];exact EV)
    (λh=>by
     rw[hk] at h
     have e:(m.find k.move.bq).map (Md.full m.ax)=some (Md.full m.ax d0):=by rw[<-hs.find];exact fd
     exact hg.one e ha h)
    (λh=>by
     rw[hk] at h
     have e:(m.find k.move.aU).map (Md.full m.ax)=some (Md.full m.ax c0):=by rw[<-hs.find];exact fc
     exact hg.one e ha h)
   rw[hk] at this;apply Eq.trans this;obtain⟨e1,e2,e3,e4,e5⟩:=ended hi h1 (by rw[hk];exact hw) WW a.id;rw[hk] at e3 e4;rw[DX,yK,r1,r2,r3,r4,hk];have Cd:(Md.full (m.ax.set i {k with fate:=di t}) a).id=a.id:=rfl;rw[Cd];have adp: ¬nC a.id ⟨t,{mK t k.move with aw:=(m.fA i (di t)).aw+1,kQ:=(m.fA i (di t)).clock},0⟩:=λhh=>by
    rcases hh.1 with h|h
    ·exact f64 h.1
    ·exact f128 h.1
   rw[ah adp];have q1:(Md.full m.ax a).dq=a.dq+S (zH a.id) m.ax:=rfl;have q2:(Md.full m.ax a).cq=a.cq+S (zJ a.id) m.ax:=rfl;rw[q1,q2,<-e3,<-e4]
   rfl
  ·unfold aO.release;rw[fd,fc];show(b.ax.map _)++[_]=(m.fA i (di t)).ax++[_];have hms:(m.fA i (di t)).aw=m.aw:=rfl;have hmc:(m.fA i (di t)).clock=m.clock:=rfl;rw[R9,hs.ax,hms,hmc]
   congr 1
   ·have:=GV hg.names hi h1 (di t);rw[hk] at this⊢;exact this
   ·show[(⟨t,{mK t k.move with aw:=b.aw+1,kQ:=b.clock},0⟩:bS)]=_;rw[hs.aw,hs.clock]
  ·unfold aO.release;rw[fd,fc];exact hs.clock
  ·unfold aO.release;rw[fd,fc];show b.aw+1=m.aw+1;rw[hs.aw]
  ·refine⟨L8.zero,L8.ids,L8.oK,?_,λx hx=>?_,λx hx=>?_,?_,λa ha=>?_,λa ha=>?_,λa ha=>?_⟩
   ·show(((m.fA i (di t)).ax++[_]).map _).Nodup;rw[cS,List.nodup_append];refine⟨L8.names,by simp,λx hx y hy=>?_⟩;simp only[fq,List.map_nil,fO] at hy;rw[R9,List.map_set] at hx;have e:(m.ax.map (·.move.id)).set i ({m.ax[i] with fate:=di t}:bS).move.id=m.ax.map (·.move.id):=by
     have:m.ax[i].move.id=(m.ax.map (·.move.id))[i]'(by simpa using hi):=by simp
     show(m.ax.map (·.move.id)).set i m.ax[i].move.id=_;rw[this,List.set_getElem_self]
    rw[e] at hx;obtain⟨z,hz,rfl⟩:=dK.1 hx;intro hxy;unfold aK.named at Yn;have:=sX.1 Yn z hz;rw[hy] at hxy;have h5:z.move.id=t.id:=hxy;simp[h5] at this
   ·rcases dG.1 hx with hx|hx
    ·exact L8.vL x hx
    ·simp only[fO] at hx;subst hx;refine⟨by show(0:Int)<=0;decide,by show(0:Int)<=4;decide,?_⟩;show has t.au 2↔(1:Int)<=0;exact⟨λh=>aR h f2,λh=>aR h (by decide)⟩
   ·rcases dG.1 hx with hx|hx
    ·exact L8.wL x hx
    ·simp only[fO] at hx;subst hx;exact⟨hZ,hd,hc⟩
   ·show((m.fA i (di t)).ax++[_]).length<=96;rw[ak,Hy,R9,jC];omega
   ·show S (xD a.id) ((m.fA i (di t)).ax++[_])+S (zH a.id) ((m.fA i (di t)).ax++[_])<bV;rw[sU,sU,r1,r3,R9];obtain⟨e1,e2,e3,e4,e5⟩:=ended hi h1 (by rw[hk];exact hw) WW a.id;have:=hg.xn a ha;rw[hk] at e1 e3;rw[hk];by_cases hq:di t=2/\k.move.bq=a.id
    ·have:=Si hq.1;rw[aj hq.2] at e1;rw[aj hq];omega
    ·rw[ah hq];omega
   ·show S (xE a.id) ((m.fA i (di t)).ax++[_])+S (zJ a.id) ((m.fA i (di t)).ax++[_])<bV;rw[sU,sU,r2,r4,R9];obtain⟨e1,e2,e3,e4,e5⟩:=ended hi h1 (by rw[hk];exact hw) WW a.id;have:=hg.uG a ha;rw[hk] at e2 e4;rw[hk];by_cases hq:di t=2/\k.move.aU=a.id
    ·have:=Si hq.1;rw[aj hq.2] at e2;rw[aj hq];omega
    ·rw[ah hq];omega
   ·show S (sf a.id) ((m.fA i (di t)).ax++[_])<=1;rw[sU,r5,R9];obtain⟨e1,e2,e3,e4,e5⟩:=ended hi h1 (by rw[hk];exact hw) WW a.id;have:=hg.sC a ha;rw[hk] at e5;rw[hk];omega
def mC.qC{b:aO}{m:aK}{t:cj}(hs:mC b m)(hg:cR m):(b.qC t).1=(m.qC t).1/\mC (b.qC t).2 (m.qC t).2/\cR (m.qC t).2:=by
 unfold aO.qC aK.qC;split
 ·exact hs.qZ hg
 ·exact hs.move hg
def GW{m:aK}{i:Nat}(hi:i<m.ax.length)(clock:Int):((m.fA i 4).ax.map λk=>if lE clock k then{k with fate:=4} else k)=(m.ax.map λk=>if lE clock k then{k with fate:=4} else k)\/ ¬lE clock m.ax[i]:=by
 by_cases ho:lE clock m.ax[i]
 ·left
  rw[pL hi];apply jq;intro j;rw[dC,dC,cA];by_cases Ks:i=j
  ·subst Ks;rw[aj rfl,aj hi,ao hi,dN,dN,aj ho];rw[ah (by rintro⟨hh,_⟩;exact aR hh (show ¬(4:Int)=1 by decide))]
  ·rw[ah Ks]
 ·exact .inr ho
def GX{m:aK}{clock:Int}(h:∀k∈m.ax,¬lE clock k):(m.ax.map λk=>if lE clock k then{k with fate:=4} else k)=m.ax:=by
 have:m.ax.map (λk=>if lE clock k then{k with fate:=4} else k)=m.ax.map id:=od λk hk=>ah (h k hk);rw[this,List.map_id]
section
variable {α σ τ:Type}
def bQ(linked:α->Bool):List α->Nat×Bool
 |[]=>(0,false)
 |x::l=>if linked x then((bQ linked l).1+1,(bQ linked l).2) else(1,true)
def fR(f:σ->α->Int×σ):σ->List α->Nat->Option (Nat×Int)×σ
 |s,[],_=>(none,s)
 |s,x::l,i=>if(f s x).1≠0 then(some (i,(f s x).1),s) else fR f (f s x).2 l (i+1)
def mH(n:Nat):Option (Nat×Int)->List Int
 |none=>aM n 0
 |some (i,c)=>(aM n 1).set i c
def iQ(f:σ->α->Int×σ)(linked:α->Bool):Nat->σ->List α->List Int×σ
 |0,s,_=>([],s)
 |_+1,s,[]=>([],s)
 |fuel+1,s,x::l=>
  if(bQ linked (x::l)).2=false then(mH (bQ linked (x::l)).1 (some ((bQ linked (x::l)).1-1,2)),s)
  else match fR f s ((x::l).take (bQ linked (x::l)).1) 0 with
   |(none,s')=>(mH (bQ linked (x::l)).1 none++(iQ f linked fuel s' ((x::l).drop (bQ linked (x::l)).1)).1,(iQ f linked fuel s' ((x::l).drop (bQ linked (x::l)).1)).2)
   |(some e,_)=>(mH (bQ linked (x::l)).1 (some e)++(iQ f linked fuel s ((x::l).drop (bQ linked (x::l)).1)).1,(iQ f linked fuel s ((x::l).drop (bQ linked (x::l)).1)).2)
def D7{f:σ->α->Int×σ}{g:τ->α->Int×τ}{R:σ->τ->Prop}(h:∀s t x,R s t->(f s x).1=(g t x).1/\R (f s x).2 (g t x).2):
 ∀(l:List α)(s:σ)(t:τ)(i:Nat),R s t->(fR f s l i).1=(fR g t l i).1/\((fR f s l i).1=none->R (fR f s l i).2 (fR g t l i).2)
 |[],s,t,i,hr=>⟨rfl,λ_=>hr⟩
 |x::l,s,t,i,hr=>by
  obtain⟨h1,h2⟩:=h s t x hr;unfold fR;rw[h1];by_cases h0:(g t x).1≠0
  ·rw[aj h0,aj h0];exact⟨rfl,λhh=>by cases hh⟩
  ·rw[ah h0,ah h0];exact D7 h l _ _ _ h2
def yf{f:σ->α->Int×σ}{g:τ->α->Int×τ}{R:σ->τ->Prop}(linked:α->Bool)(h:∀s t x,R s t->(f s x).1=(g t x).1/\R (f s x).2 (g t x).2):
 ∀(n:Nat)(l:List α)(s:σ)(t:τ),R s t->(iQ f linked n s l).1=(iQ g linked n t l).1/\R (iQ f linked n s l).2 (iQ g linked n t l).2
 |0,l,s,t,hr=>⟨rfl,hr⟩
 |n+1,[],s,t,hr=>⟨rfl,hr⟩
 |n+1,x::l,s,t,hr=>by
  unfold iQ;by_cases hw:(bQ linked (x::l)).2=false
  ·rw[aj hw,aj hw];exact⟨rfl,hr⟩
  rw[ah hw,ah hw];obtain⟨e1,e2⟩:=D7 h ((x::l).take (bQ linked (x::l)).1) s t 0 hr;cases hf:fR f s ((x::l).take (bQ linked (x::l)).1) 0 with
  |mk o s'=>
   cases hg:fR g t ((x::l).take (bQ linked (x::l)).1) 0 with
   |mk o' t'=>
    rw[hf,hg] at e1 e2;dsimp only at e1 e2;subst e1;cases o with
    |none=>
     obtain⟨i1,i2⟩:=yf linked h n ((x::l).drop (bQ linked (x::l)).1) s' t' (e2 rfl);dsimp only;rw[i1];exact⟨rfl,i2⟩
    |some e=>
     obtain⟨i1,i2⟩:=yf linked h n ((x::l).drop (bQ linked (x::l)).1) s t hr;dsimp only;rw[i1];exact⟨rfl,i2⟩
end
end Go.Md
namespace Go.Up
open Go.Sep Go.Den Go.RowKit Go.Prog Go.Md Go.bE
abbrev aO:=Go.Md.aO
structure AG(a:bp):Prop where
 ok:wD a
 good:oO a
 au:0<=a.au/\a.au<16
 aw:0<=a.aw/\a.aw<1000
structure KG(k:bS):Prop where
 asked:Bf k.asked
 move:Bf k.move
 Jk:jR k.asked
 J':jR k.move
 Jl:0<=k.asked.au/\k.asked.au<256
 Gs:0<=k.move.au/\k.move.au<256
 fate:0<=k.fate/\k.fate<=4
 cL:0<=k.move.cL/\k.move.cL<=1073741824
 kQ:0<=k.move.kQ/\k.move.kQ<=1099511627776
structure eL(b:aO):Prop where
 ids:(b.aB.map (·.id)).Nodup
 names:(b.ax.map (·.move.id)).Nodup
 oK:b.aB.length<=32
 many:b.ax.length<=96
 P':∀a∈b.aB,AG a
 O8:∀k∈b.ax,KG k
 rising:b.ax.Pairwise λx y=>x.move.aw<y.move.aw
 cH:∀k∈b.ax,1<=k.move.aw/\k.move.aw<=b.aw
 clock:0<=b.clock/\b.clock<=1099511627776
 aw:b.aw=b.aB.length+b.ax.length
def idxOf{α:Type}(key:α->Nat)(l:List α):(Nat->Option Int)×Nat:=(λid=>(l.findIdx? λx=>key x=id).map Int.ofNat,l.length)
section
variable {α:Type} {key:α->Nat} {l:List α} {x y:α} {i id:Nat}
def tE(h:l.findIdx? (λx=>key x=id)=some i):∃hi:i<l.length,key l[i]=id/\l.find? (λx=>key x=id)=some l[i]:=by
 obtain⟨hi,h1,h2⟩:=List.findIdx?_eq_some_iff_getElem.1 h;refine⟨hi,by simpa using h1,?_⟩;rw[List.find?_eq_some_iff_getElem];exact⟨h1,i,hi,rfl,λj hj=>by simpa using h2 j hj⟩
def yH(h:l.findIdx? (λx=>key x=id)=none):l.find? (λx=>key x=id)=none:=by
 rw[List.findIdx?_eq_none_iff] at h;rw[sX];intro a ha;have:=h a ha;simpa using this
def nS(h:l.find? (λx=>key x=id)=none):l.findIdx? (λx=>key x=id)=none:=by
 rw[sX] at h;rw[List.findIdx?_eq_none_iff];intro a ha;have:=h a ha;simpa using this
def yG(h:l.find? (λa=>key a=key x)=none):idxOf key (l++[x])=(tQ (idxOf key l).1 (key x) (some (l.length:Int)),(idxOf key l).2+1):=by
 unfold idxOf;refine Prod.ext ?_ (by simp)
 funext id
 dsimp only[tQ];rw[List.findIdx?_append];by_cases e:id=key x
 ·subst e;rw[aj rfl,nS h];simp
 ·rw[ah e];have:List.findIdx? (λa=>decide (key a=id)) [x]=none:=by simp;exact λh=>e h.symm
  rw[this];cases l.findIdx? λx=>decide (key x=id)<;>simp
def Kn(hi:i<l.length)(hk:key x=key l[i]):idxOf key (l.set i x)=idxOf key l:=by
 unfold idxOf;refine Prod.ext ?_ (by simp)
 funext id
 dsimp only
 congr 1
 have adf:∀(l:List α)(i:Nat)(hi:i<l.length),key x=key l[i]->(l.set i x).findIdx? (λx=>key x=id)=l.findIdx? λx=>key x=id:=by
  intro l
  induction l with
  |nil=>intro i hi;simp at hi
  |cons a l ih=>
   intro i hi hk;cases i with
   |zero=>simp only[List.set_cons_zero,List.findIdx?_cons];simp at hk;rw[hk]
   |succ i=>simp only[kf,List.findIdx?_cons];rw[ih i (by simpa using hi) (by simpa using hk)]
 exact adf l i hi hk
def wj(hn:(l.map key).Nodup)(hi:i<l.length):l.findIdx? (λx=>key x=key l[i])=some i:=by
 rw[List.findIdx?_eq_some_iff_getElem];refine⟨hi,by simp,λj hj=>?_⟩;have bW:j<l.length:=by omega
 have:=nh.1 hn j i (by simpa using bW) (by simpa using hi) hj;simpa using this
def map_set(hn:(l.map key).Nodup)(hi:i<l.length)(g:α->α):(l.map λx=>if key x=key l[i] then g x else x)=l.set i (g l[i]):=by
 apply List.ext_getElem (by simp);intro j h1 h2;simp only[cu] at h1;rw[List.getElem_map,List.getElem_set];by_cases e:i=j
 ·subst e;simp
 ·rw[ah e,ah];intro hk;have a:=wj hn h1;rw[hk,wj hn hi] at a;exact e (bj.inj a)
end
def dD:Nat->List bS->List kR
 |_,[]=>[]
 |i,k::l=>(k.move.aw,(i:Int))::dD (i+1) l
def ji:∀(i:Nat)(l:List bS),(dD i l).length=l.length
 |_,[]=>rfl
 |i,k::l=>by simp[dD,ji (i+1) l]
def jj:∀(i:Nat)(l:List bS)(j:Nat),(dD i l)[j]?=(l[j]?).map λk=>(k.move.aw,((i+j:Nat):Int))
 |_,[],j=>by simp[dD]
 |i,k::l,0=>by simp[dD]
 |i,k::l,j+1=>by simp only[dD,aW,jj (i+1) l j];rw[show i+1+j=i+(j+1) by omega]
def sK:∀(i:Nat)(l:List bS)(k:bS),dD i (l++[k])=dD i l++[(k.move.aw,((i+l.length:Nat):Int))]
 |i,[],k=>by simp[dD]
 |i,x::l,k=>by simp only[fE,dD,sK (i+1) l k];simp;omega
def xU{i:Nat}{l:List bS}{x:kR}(h:x∈dD i l):∃k∈l,x.1=k.move.aw:=by
 obtain⟨j,hj⟩:=qO h;rw[jj] at hj;cases hk:l[j]? with
 |none=>rw[hk] at hj;cases hj
 |some k=>rw[hk] at hj;cases hj;exact⟨k,iF hk,rfl⟩
def Ew{l:List bS}{j:Nat}{k:bS}(i:Nat)(hj:j<l.length)(hk:k.move.aw=l[j].move.aw):dD i (l.set j k)=dD i l:=by
 apply jq;intro n;rw[jj,jj,cA];by_cases e:j=n
 ·subst e;rw[aj rfl,aj hj,ao hj];simp[hk]
 ·rw[ah e]
def eo(k:bS):Option Item:=if k.fate=1/\0<k.move.cL then some ⟨k.move.kQ+k.move.cL,k.move.aw,k.move.id⟩ else none
abbrev EP(l:List bp):=idxOf (λx:bp=>x.id) l
abbrev CO(l:List bS):=idxOf (λx:bS=>x.move.id) l
def dT(b:aO):C:=⟨b.aB,b.ax,EP b.aB,CO b.ax,dD 0 b.ax,b.ax.filterMap eo,b.clock,b.aw⟩
def oL{k:bS}{x:Item}(h:eo k=some x):x.aw=k.move.aw/\x.id=k.move.id/\x.due=k.move.kQ+k.move.cL/\k.fate=1/\0<k.move.cL:=by
 unfold eo at h;split at h
 ·rename_i hc;cases h;exact⟨rfl,rfl,rfl,hc⟩
 ·cases h
section
variable {b:aO}
def eL.vo(h:eL b):pX (dD 0 b.ax):=by
 unfold pX;rw[nh];intro i j hi hj Ks;have sj:i<b.ax.length:=by simpa [ji] using hi
 have HH:j<b.ax.length:=by simpa [ji] using hj
 have e1:=jj 0 b.ax i;have e2:=jj 0 b.ax j;rw[ao hi,ao sj] at e1;rw[ao hj,ao HH] at e2;have e1:=bj.inj e1;have e2:=bj.inj e2;rw[e1,e2];exact nh.1 h.rising i j sj HH Ks
def yQ(b:aO):(b.ax.filterMap eo).length<=b.ax.length:=List.length_filterMap_le _ _
def eL.K7(h:eL b){i j:Nat}(hi:i<b.ax.length)(hj:j<b.ax.length)(he:b.ax[i].move.aw=b.ax[j].move.aw):i=j:=by
 rcases Nat.lt_trichotomy i j with h1|h1|h1
 ·have:=nh.1 h.rising i j hi hj h1;omega
 ·exact h1
 ·have:=nh.1 h.rising j i hj hi h1;omega
def eL.PB(h:eL b){i:Nat}(hi:i<b.ax.length){k:bS}(hk:eo k=none){x:Item}(hx:eo b.ax[i]=some x):
 (x::(b.ax.set i k).filterMap eo).Perm (b.ax.filterMap eo)/\∀y∈(b.ax.set i k).filterMap eo,y.aw≠x.aw:=by
 constructor
 ·have key:∀(l:List bS)(i:Nat)(hi:i<l.length),eo l[i]=some x->(x::(l.set i k).filterMap eo).Perm (l.filterMap eo):=by
   intro l
   induction l with
   |nil=>intro i hi;simp at hi
   |cons a l ih=>
    intro i hi hx;cases i with
    |zero=>
     simp only[List.set_cons_zero,List.getElem_cons_zero] at hx⊢;rw[List.filterMap_cons_none hk,List.filterMap_cons_some hx]
    |succ i=>
     simp only[kf,List.getElem_cons_succ] at hx⊢;have:=ih i (by simpa using hi) hx;cases ha:eo a with
     |none=>rw[List.filterMap_cons_none ha,List.filterMap_cons_none ha];exact this
     |some y=>rw[List.filterMap_cons_some ha,List.filterMap_cons_some ha];exact(bA.swap _ _ _).trans (this.cons y)
  exact key _ i hi hx
 ·intro y hy he;obtain⟨a,ha,hay⟩:=List.mem_filterMap.1 hy;obtain⟨j,hj⟩:=qO ha;rw[cA] at hj;by_cases e:i=j
  ·subst e;rw[aj rfl,aj hi] at hj;cases hj;rw[hk] at hay;cases hay
  ·rw[ah e] at hj;have QO:=(ar.1 hj).1;have s1:=(oL hay).1;have s2:=(oL hx).1;have WT:b.ax[j]=a:=by rw[ao QO] at hj;exact bj.inj hj
   exact e (h.K7 hi QO (by rw[WT];omega))
def Dc{l:List bS}{i:Nat}(hi:i<l.length){k:bS}(hk:eo k=none)(hx:eo l[i]=none):(l.set i k).filterMap eo=l.filterMap eo:=by
 induction l generalizing i with
 |nil=>simp at hi
 |cons a l ih=>
  cases i with
  |zero=>simp only[List.set_cons_zero,List.getElem_cons_zero] at hx⊢;rw[List.filterMap_cons_none hk,List.filterMap_cons_none hx]
  |succ i=>
   simp only[kf,List.getElem_cons_succ] at hx⊢;rw[List.filterMap_cons,List.filterMap_cons,ih (by simpa using hi) hx]
end
def Ext(c:C)(hs:List C)(c':C)(dM:List C)(n:Nat):Prop:=∃Wt,dM=Wt++hs/\(c'::Wt).getLast?=some c/\Wt.length<=n
def Ext.refl(c:C)(hs:List C)(n:Nat):Ext c hs c hs n:=⟨[],rfl,rfl,aL _⟩
def Ext.trans{c c' c'':C}{hs dM uX:List C}{n m:Nat}(h1:Ext c hs c' dM n)(h2:Ext c' dM c'' uX m):Ext c hs c'' uX (n+m):=by
 obtain⟨m1,rfl,h3,h4⟩:=h1;obtain⟨m2,rfl,h5,h6⟩:=h2;refine⟨m2++m1,by simp,?_,by simp;omega⟩;cases m1 with
 |nil=>simp at h3;subst h3;simpa using h5
 |cons a m1=>
  rw[List.getLast?_cons_cons] at h3;rw[<-fE,List.getLast?_append,h3];rfl
def Ext.mono{c c':C}{hs dM:List C}{n m:Nat}(h:Ext c hs c' dM n)(hm:n<=m):Ext c hs c' dM m:=by
 obtain⟨m1,h1,h3,h4⟩:=h;exact⟨m1,h1,h3,by omega⟩
def Ext.len{c c':C}{hs dM:List C}{n:Nat}(h:Ext c hs c' dM n):dM.length<=hs.length+n:=by
 obtain⟨m1,rfl,h3,h4⟩:=h;simp;omega
def Ext.back{c c':C}{hs dM:List C}{n:Nat}(h:Ext c hs c' dM n):rV hs.length c' dM=(c,hs):=by
 obtain⟨m1,rfl,h3,-⟩:=h
 induction m1 generalizing c' with
 |nil=>simp at h3;subst h3;exact Aw (aC _)
 |cons a m1 ih=>
  rw[List.getLast?_cons_cons] at h3;rw[fE];unfold rV;rw[aj (by simp)];exact ih h3
def bX(p:Nat)(x:aO×List C):HP:=ML (eL x.1) (cP p (dT x.1,x.2))
section
variable {W:World} {L R:LH} {K:VK} {X:WK} {p:Nat} {b:aO} {hs:List C} {f:aO×List C->LH} {id:Nat} {a old:bp}
def HA[i:Lc (bX p) L (b,hs) f](h:∀la lk ti tn vs bx R,eL b->kH p la lk bx vs hs (dT b)->
 (∀M b' dM CN lg Y,eL b'->kH p la lk lg CN dM (dT b')->T W (M++f (b',dM)) Y->T W (M++fb p (eK la lk ti tn CN (dT b'))::pE aP 14 la (p,(dT b').aB)::pE bU 33 lk (p,(dT b').ax)::l9 ti (dT b').mB::l9 tn (dT b').fm::sT lg::R) Y)->
 T W (fb p (eK la lk ti tn vs (dT b))::pE aP 14 la (p,(dT b).aB)::pE bU 33 lk (p,(dT b).ax)::l9 ti (dT b).mB::l9 tn (dT b).fm::sT bx::R) X):T W L X:=
 AS (P:=bX p) λR nR w hw=>by
  obtain⟨hg,hw⟩:=hw.and;refine PZ (λla lk ti tn vs bx hc=>h la lk ti tn vs bx R hg hc λM b' dM CN lg Y ZQ GN hy=>?_) w hw;refine T.perm (Bb (R:=M++R) GN (T.perm ?_ fD.symm)) (by
   have:=bC (l₁:=M) (l₂:=[fb p (eK la lk ti tn CN (dT b')),pE aP 14 la (p,(dT b').aB),pE bU 33 lk (p,(dT b').ax),l9 ti (dT b').mB,l9 tn (dT b').fm,sT lg])|>.append_right R
   simpa using this)
  refine λw' Nj=>nR M (b',dM) Y hy w' ?_;have:=(Nj.perm fD);exact(St.and_intro ZQ this).perm fD.symm
def nG[i:Lc (bX p) L (b,hs) f](h:eL b->T W L X):T W L X:=λw hw=>by
 obtain⟨k,hk,_⟩:=i.at_;exact h ((hw.focus hk).and).1 w hw
def CM{f1:Core->LH}{f2:Nat×List bp->LH}{f3:(Nat->Option Int)×Nat->LH}{q:Core}[i1:Lc (fb p) L q f1][i2:Lc (pE aP 14 q.la) L (p,b.aB) f2][i3:Lc (l9 q.ti) L (EP b.aB) f3](oK:b.aB.length<=32)
 (h:T W L (K (.tuple ⟨[.agg ⟨aP ((b.find id).getD zA)⟩,.b (b.find id).isSome]⟩))):T W L (cT (ai p) (nm id) K):=by
 unfold cT;apply ws;intros;apply Ay (t:=q.ti) (x:=EP b.aB);cases hi:(b.aB.findIdx? λx=>x.id=id) with
 |none=>
  have e1:(EP b.aB).1 id=none:=by show so _ _=_;rw[hi];rfl
  have e2:b.find id=none:=yH (key:=λx:bp=>x.id) hi;rw[e1];rw[e2] at h;simp only[dj,cB,eV,dk] at h⊢;apply ws;exact T.dp h
 |some n=>
  have e1:(EP b.aB).1 id=some (n:Int):=by show so _ _=_;rw[hi];rfl
  obtain⟨hn,hk,hf⟩:=tE (key:=λx:bp=>x.id) hi;have e2:b.find id=some b.aB[n]:=hf;rw[e1];rw[e2] at h;simp only[dj,cB,eV,dk] at h⊢;apply ws;refine acb (l:=q.la) (x:=b.aB[n]) (ao hn) (by omega) ?_;apply ws;exact T.dp h
def tP[i:Lc (bX p) L (b,hs) f](h:T W L (K (.tuple ⟨[.agg ⟨aP ((b.find id).getD zA)⟩,.b (b.find id).isSome]⟩))):T W L (cT (ai p) (nm id) K):=by
 have hL:f (b,hs)=L:=i.same;refine HA (p:=p) λla lk ti tn vs bx R hg hc nR=>?_;exact CM (b:=b) hg.oK (nR [] b hs vs bx _ hg hc (by rw[hL];exact h))
def Fq{f1:Core->LH}{f2:Nat×List bS->LH}{f3:(Nat->Option Int)×Nat->LH}{q:Core}[i1:Lc (fb p) L q f1][i2:Lc (pE bU 33 q.lk) L (p,b.ax) f2][i3:Lc (l9 q.tn) L (CO b.ax) f3](oK:b.ax.length<=96)
 (h:T W L (K (.tuple ⟨[.agg ⟨bU ((b.named id).getD zK)⟩,.b (b.named id).isSome]⟩))):T W L (fw (ai p) (nm id) K):=by
 unfold fw;apply ws;intros;apply Ay (t:=q.tn) (x:=CO b.ax);cases hi:(b.ax.findIdx? λx=>x.move.id=id) with
 |none=>
  have e1:(CO b.ax).1 id=none:=by show so _ _=_;rw[hi];rfl
  have e2:b.named id=none:=yH (key:=λx:bS=>x.move.id) hi;rw[e1];rw[e2] at h;simp only[dj,cB,eV,dk] at h⊢;apply ws;exact T.dp h
 |some n=>
  have e1:(CO b.ax).1 id=some (n:Int):=by show so _ _=_;rw[hi];rfl
  obtain⟨hn,hk,hf⟩:=tE (key:=λx:bS=>x.move.id) hi;have e2:b.named id=some b.ax[n]:=hf;rw[e1];rw[e2] at h;simp only[dj,cB,eV,dk] at h⊢;apply ws;refine Qs (l:=q.lk) (x:=b.ax[n]) (ao hn) (by omega) ?_;apply ws;exact T.dp h
def Fp[i:Lc (bX p) L (b,hs) f](h:T W L (K (.tuple ⟨[.agg ⟨bU ((b.named id).getD zK)⟩,.b (b.named id).isSome]⟩))):T W L (fw (ai p) (nm id) K):=by
 have hL:f (b,hs)=L:=i.same;refine HA (p:=p) λla lk ti tn vs bx R hg hc nR=>?_;exact Fq (b:=b) hg.many (nR [] b hs vs bx _ hg hc (by rw[hL];exact h))
def Qm[i:Lc (bX p) L (b,hs) f](h:T W L (K (.b (decide (b.ax.length<96))))):T W L (lj (some ⟨p,0,none⟩) K):=by
 have hL:f (b,hs)=L:=i.same;refine HA (p:=p) λla lk ti tn vs bx R hg hc nR=>?_;have fin:=nR [] b hs vs bx _ hg hc (by rw[hL];exact h);unfold lj
 repeat' first|apply ws|apply wb|refine Jr ?_
 apply T.fin fin
 congr 1
 rw[decide_eq_decide];show((b.ax.length:Nat):Int)<96↔_;omega
def JX[i:Lc (bX p) L (b,hs) f](h:T W L (K (.i (hs.length:Int)))):T W L (dP (ai p) K):=by
 have hL:f (b,hs)=L:=i.same;refine HA (p:=p) λla lk ti tn vs bx R hg hc nR=>?_;have fin:=nR [] b hs vs bx _ hg hc (by rw[hL];exact h);unfold dP;apply vh;apply K2;apply X3 (p:=p);apply ws;have:(eK la lk ti tn vs (dT b)).vs.length=hs.length:=by show vs.reverse.length=_;rw[ga,hc.len]
 rw[this];exact fin
def FM(hg:eL b){n:Nat}(hn:n<b.aB.length)(hk:b.aB[n].id=a.id):dT (b.bB a)={dT b with aB:=b.aB.set n {a with aw:=b.aB[n].aw}}:=by
 have e:(b.bB a).aB=b.aB.set n {a with aw:=b.aB[n].aw}:=by
  show(b.aB.map λx=>if x.id=a.id then{a with aw:=x.aw} else x)=_;have:=map_set (key:=λx:bp=>x.id) hg.ids hn λx=>{a with aw:=x.aw};simp only[hk] at this;exact this
 unfold dT;have e9:EP (b.aB.set n {a with aw:=b.aB[n].aw})=EP b.aB:=Kn hn hk.symm;rw[e,e9]
 rfl
def eL.bB(hg:eL b){n:Nat}(hn:n<b.aB.length)(hk:b.aB[n].id=a.id)(ha:AG {a with aw:=b.aB[n].aw}):eL (b.bB a):=by
 have e:(b.bB a).aB=b.aB.set n {a with aw:=b.aB[n].aw}:=congrArg C.aB (FM hg hn hk);have adI:(b.bB a).aB.map (·.id)=b.aB.map (·.id):=by
  rw[e,List.map_set];refine List.ext_getElem (by simp) λi h1 h2=>?_;rw[List.getElem_set];split
  ·rename_i he;subst he;simp[hk]
  ·rfl
 refine⟨by rw[adI];exact hg.ids,hg.names,by rw[e,jC];exact hg.oK,hg.many,?_,hg.O8,hg.rising,hg.cH,hg.clock,?_⟩
 ·rw[e];intro x hx;rcases ru hx with hx|hx
  ·exact hg.P' x hx
  ·subst hx;exact ha
 ·rw[e,jC];exact hg.aw
def Ff[i:Lc (bX p) L (b,hs) f](hf:b.find a.id=some old)(ha:AG {a with aw:=old.aw})(hl:hs.length<900000)
 (h:∀dM,Ext (dT b) hs (dT (b.bB a)) dM 1->T W (f (b.bB a,dM)) (K (.i 0))):T W L (iv (ai p) (aP a) K):=by
 refine HA (p:=p) λla lk ti tn vs bx R hg hc nR=>?_;have oK:=hg.oK;obtain⟨n,hi⟩:∃n,(b.aB.findIdx? λx=>x.id=a.id)=some n:=by
  cases hi:(b.aB.findIdx? λx=>x.id=a.id) with
  |none=>rw[show b.find a.id=none from yH (key:=λx:bp=>x.id) hi] at hf;cases hf
  |some n=>exact⟨n,rfl⟩
 obtain⟨hn,hk,Ys⟩:=tE (key:=λx:bp=>x.id) hi;have e2:b.find a.id=some b.aB[n]:=Ys;rw[hf] at e2;have e3:=bj.inj e2;subst e3;have e1:(EP b.aB).1 a.id=some (n:Int):=by show so _ _=_;rw[hi];rfl
 have C':=FM hg hn hk;have Ko:(eK la lk ti tn vs (dT b)).vs.length<1000000:=by show vs.reverse.length<_;rw[ga,hc.len];omega
 unfold iv;apply ws;intros;apply CM (b:=b) hg.oK;rw[hf];simp only[cB,dk];apply ws;intros;refine Ay (t:=ti) (x:=(dT b).mB) ?_;rw[show(dT b).mB.1 a.id=some (n:Int) from e1];simp only[cB,dk];apply ws;refine Yc (l:=la) (y:=b.aB[n]) (ao hn) (show b.aB.length<_ by omega) Ko λr4 r1 r2=>?_;apply ws;refine dg (dg (dg (dg (dg ?_))));have QT:∀lg,(∀x∈bx,x∈lg)->(r4,aP b.aB[n])∈lg->(r1,[.p (some (ad la 0))])∈lg->(r2,[.i (n:Int)])∈lg->kH p la lk lg (A9 r4 r1 r2::vs) (dT b::hs) (dT (b.bB a)):=by
  intro lg xC m1 m2 m3;refine⟨?_,hc.mono xC⟩;have:=AA.Rb (p:=p) (la:=la) (lk:=lk) (c:=dT (b.bB a)) m1 m2 m3 (by rw[C'];simpa using hn);have ee:{dT (b.bB a) with aB:=(dT (b.bB a)).aB.set n b.aB[n]}=dT b:=by
   rw[C'];simp only[gW,List.set_getElem_self]
   rfl
  rw[ee] at this;exact this
 have fin:=λlg c1=>nR [] (b.bB a) (dT b::hs) (A9 r4 r1 r2::vs) lg _ (hg.bB hn hk ha) c1 (h _ ⟨[dT b],rfl,rfl,aC _⟩);rw[C'] at fin;simp only[eK,uL] at fin;exact fin _ (C'▸QT _ (λx hx=>by simp[hx]) (by simp) (by simp) (by simp))
end
section
variable {W:World} {L R:LH} {K:VK} {X:WK} {p:Nat} {b:aO} {hs:List C} {f:aO×List C->LH} {id:Nat} {a old:bp}
def KX{q:Core}{f1:Core->LH}[i:Lc (fb p) L q f1](hl:q.vs.length<1000000)(hs:0<=q.aw/\q.aw<1000000)
 (h:∀r,T W (Sep.pt r [.p (some (ad p 0))]::f1 {q with vs:=q.vs++[xN r],aw:=q.aw+1}) (K (.i (q.aw+1)))):T W L (lh (ai p) K):=by
 unfold lh
 repeat' first|apply ws;intros|apply wb|refine HV ?_
 rename_i r;rw[aS (by omega)];have i2:=i.next {q with aw:=q.aw+1};apply sV (p:=p) (q:={q with aw:=q.aw+1}) hl rfl rfl;have i3:=i.next {q with vs:=q.vs++[xN r],aw:=q.aw+1};apply ws;exact h r
def aO.more(b:aO)(a:bp):aO:={b with aw:=b.aw+1,aB:=b.aB++[{a with aw:=b.aw+1}]}
def eL.more(hg:eL b)(hf:b.find a.id=none)(oK:b.aB.length<32)(ha:AG {a with aw:=b.aw+1}):eL (b.more a):=by
 have uy:=hg.aw;have many:=hg.many;refine⟨?_,hg.names,by show(b.aB++[_]).length<=32;simp;omega,hg.many,?_,hg.O8,hg.rising,λk hk=>⟨(hg.cH k hk).1,by have:=(hg.cH k hk).2;show _<=b.aw+1;omega⟩,hg.clock,by show b.aw+1=(((b.aB++[_]).length:Nat):Int)+(b.ax.length:Int);simp;omega⟩
 ·show((b.aB++[_]).map _).Nodup;rw[cS];rw[List.nodup_append];refine⟨hg.ids,by simp,?_⟩;intro x hx y hy;simp at hy;subst hy;obtain⟨z,hz,rfl⟩:=dK.1 hx;have:=sX.1 hf z hz;simpa using this
 ·intro x hx;rcases dG.1 hx with hx|hx
  ·exact hg.P' x hx
  ·simp at hx;subst hx;exact ha
def Wq(hf:b.find a.id=none):dT (b.more a)={dT b with aw:=b.aw+1,mB:=(tQ (dT b).mB.1 a.id (some (b.aB.length:Int)),(dT b).mB.2+1),aB:=b.aB++[{a with aw:=b.aw+1}]}:=by
 have e9:EP (b.aB++[{a with aw:=b.aw+1}])=(tQ (EP b.aB).1 a.id (some (b.aB.length:Int)),(EP b.aB).2+1):=yG (key:=λx:bp=>x.id) (x:={a with aw:=b.aw+1}) hf;unfold dT aO.more;dsimp only;rw[e9]
def FK{m:Nat->Option Int}{k:Nat}{v:Int}{n:Nat}(h:m k=none):(tQ (tQ m k (some v)) k none,n+1-1)=(m,n):=by
 refine Prod.ext ?_ rfl
 funext j
 dsimp only[tQ];by_cases e:j=k
 ·subst e;rw[aj rfl,h]
 ·rw[ah e,ah e]
def Ri[i:Lc (bX p) L (b,hs) f](hf:b.find a.id=none)(oK:b.aB.length<32)(ha:AG {a with aw:=b.aw+1})(hl:hs.length<900000)
 (h:∀dM,Ext (dT b) hs (dT (b.more a)) dM 3->T W (f (b.more a,dM)) (K (.i 0))):T W L (jB (ai p) (aP a) K):=by
 refine HA (p:=p) λla lk ti tn vs bx R hg hc nR=>?_;have uy:=hg.aw;have many:=hg.many;have lH:(EP b.aB).1 a.id=none:=by show so _ _=_;rw[nS (key:=λx:bp=>x.id) hf];rfl
 have Ko:vs.reverse.length<900000:=by rw[ga,hc.len];omega
 unfold jB;apply ws;intros;apply Ju (l:=la);apply ws;refine cW (by show decide (((b.aB.length:Nat):Int)>=32)=false;simp;omega) ?_;apply ws;refine Ay (t:=ti) (x:=(dT b).mB) ?_;rw[show(dT b).mB.1 a.id=none from lH];simp only[dj,eV];apply ws;refine KX (p:=p) (q:=eK la lk ti tn vs (dT b)) (by show vs.reverse.length<_;omega) (by show 0<=b.aw/\b.aw<_;omega) λr3=>?_;apply ws;apply Ju (l:=la);apply ws;refine KW (t:=ti) (x:=(dT b).mB) (show b.aB.length<=1000 by omega) lH ?_;apply ws;refine sV (p:=p) (by show(vs.reverse++[_]).length<_;simp at Ko⊢;omega) rfl rfl ?_;apply ws;refine QC (l:=la) (x:={a with aw:=b.aw+1}) (show b.aB.length<_ by omega) (by show((vs.reverse++[_])++[_]).length<_;simp at Ko⊢;omega) λr4 r5=>?_;apply ws;rename_i r1 r2;refine dg (dg (dg (dg (dg ?_))));have C':=Wq (a:=a) hf;have QT:∀lg,(∀x∈bx,x∈lg)->(r1,[.p (some (ad p 0))])∈lg->(r2,aP {a with aw:=b.aw+1})∈lg->(r3,[.p (some (ad p 0))])∈lg->(r4,[.p (some (ad la 0))])∈lg->(r5,[.i (b.aB.length:Int)])∈lg->
                                                                                                                                                                                  kH p la lk lg (yV r4 r5::NG r1 r2::xN r3::vs) ({dT b with aw:=b.aw+1,mB:=(tQ (dT b).mB.1 a.id (some (b.aB.length:Int)),(dT b).mB.2+1)}::{dT b with aw:=b.aw+1}::dT b::hs) (dT (b.more a)):=by
  intro lg xC m1 m2 m3 m4 m5;refine⟨?_,?_,?_,hc.mono xC⟩
  ·have:=AA.S9 (p:=p) (la:=la) (lk:=lk) (c:=dT (b.more a)) m4 m5 (by show b.aB.length<=(b.aB++[_]).length;simp);have ee:{dT (b.more a) with aB:=(dT (b.more a)).aB.take b.aB.length}={dT b with aw:=b.aw+1,mB:=(tQ (dT b).mB.1 a.id (some (b.aB.length:Int)),(dT b).mB.2+1)}:=by
    rw[C'];dsimp only;rw[zX];rfl
   rw[ee] at this;exact this
  ·have:=AA.open_ (p:=p) (la:=la) (lk:=lk) (c:={dT b with aw:=b.aw+1,mB:=(tQ (dT b).mB.1 a.id (some (b.aB.length:Int)),(dT b).mB.2+1)}) (x:={a with aw:=b.aw+1}) m1 m2 (show b.aB.length+1<=1000 by omega) (by show(tQ _ _ _ _).isSome=true;unfold tQ;rw[aj rfl];rfl) (FK (show(dT b).mB.1 a.id=none from lH));exact this
  ·exact AA.next (c:={dT b with aw:=b.aw+1}) m3 (by show ag.wrap (b.aw+1-1)=b.aw;rw[aS (by omega)];omega)
 have fin:=λlg c1=>nR [] (b.more a) _ (yV r4 r5::NG r1 r2::xN r3::vs) lg _ (hg.more hf oK ha) c1 (h _ ⟨[{dT b with aw:=b.aw+1,mB:=(tQ (dT b).mB.1 a.id (some (b.aB.length:Int)),(dT b).mB.2+1)},{dT b with aw:=b.aw+1},dT b],rfl,rfl,aC _⟩);rw[C'] at fin;simp only[eK,uL] at fin;exact fin _ (C'▸QT _ (λx hx=>by simp[hx]) (by repeat (first|exact cJ.head _|apply cJ.tail)) (by repeat (first|exact cJ.head _|apply cJ.tail)) (by repeat (first|exact cJ.head _|apply cJ.tail)) (by repeat (first|exact cJ.head _|apply cJ.tail)) (by repeat (first|exact cJ.head _|apply cJ.tail)))
end
section
variable {W:World} {L R:LH} {K:VK} {X:WK} {p:Nat} {b:aO} {hs:List C} {f:aO×List C->LH} {id:Nat} {k:bS} {asked t:cj} {fate:Int}
instance{x1 x2 x3 x4:Value}{x y:Int}{n:Nat}:Wr [x1,x2,x3,x4] 0 ([.i x,.i y]++(nm n++[])) (eW ⟨x,y,n⟩):=⟨by simp[over,eW,nm],by simp[nm],λv h=>nw ⟨x,y,n⟩ v (by simpa [eW] using h)⟩
def T.I7{la lk ti tn:Nat}{vs:LV}{st:List kR}{e e':List Item}{x y:Int}(he:e.Perm e')(h:T W (fb p ⟨la,lk,ti,tn,vs,st,e',x,y⟩::R) X):T W (fb p ⟨la,lk,ti,tn,vs,st,e,x,y⟩::R) X:=T.Ec (q:=⟨la,lk,ti,tn,vs,st,e,x,y⟩) he h
def I4(k:bS):Item:=⟨k.move.kQ+k.move.cL,k.move.aw,k.move.id⟩
def PE(hk:KG k)(h:T W L (K (.tuple ⟨[.agg ⟨eW (I4 k)⟩,.b (eo k).isSome]⟩))):T W L (rl (bU k) K):=by
 have h1:=hk.cL;have h2:=hk.kQ;unfold rl;apply ws;intros;rw[aS (by omega)];have hd:(eo k).isSome=decide (k.fate=1/\0<k.move.cL):=by
  unfold eo;split
  ·rename_i hc;simp[hc]
  ·rename_i hc;simp[hc]
 rw[hd] at h;apply dz<;>intro g
 ·have g:k.fate=1:=by simpa using g
  apply ws;refine T.fin (by exact T.dp h) ?_;simp[g];rfl
 ·have g: ¬k.fate=1:=by simpa using g
  apply ws;refine T.fin (by exact T.dp h) ?_;simp[g];rfl
def eL.pQ(hg:eL b)(hf:b.named t.id=none)(many:b.ax.length<96)(hk:KG ⟨asked,{t with aw:=b.aw+1,kQ:=b.clock},fate⟩):eL (b.pQ asked t fate):=by
 have uy:=hg.aw;refine⟨hg.ids,?_,hg.oK,by show(b.ax++[_]).length<=96;simp;omega,hg.P',?_,?_,?_,hg.clock,by show b.aw+1=_+(((b.ax++[_]).length:Nat):Int);simp;show _=(b.aB.length:Int)+_;omega⟩
 ·show((b.ax++[_]).map _).Nodup;rw[cS,List.nodup_append];refine⟨hg.names,by simp,?_⟩;intro x hx y hy;simp at hy;subst hy;obtain⟨z,hz,rfl⟩:=dK.1 hx;have:=sX.1 hf z hz;simpa using this
 ·intro x hx;rcases dG.1 hx with hx|hx
  ·exact hg.O8 x hx
  ·simp at hx;subst hx;exact hk
 ·show(b.ax++[_]).Pairwise _;rw[List.pairwise_append];refine⟨hg.rising,by simp,λx hx y hy=>?_⟩;simp at hy;subst hy;have:=(hg.cH x hx).2;show _<b.aw+1;omega
 ·intro x hx;rcases dG.1 hx with hx|hx
  ·have:=hg.cH x hx;show _/\_<=b.aw+1;omega
  ·simp at hx;subst hx;show 1<=b.aw+1/\b.aw+1<=b.aw+1;omega
abbrev qw(b:aO)(asked t:cj)(fate:Int):bS:=⟨asked,{t with aw:=b.aw+1,kQ:=b.clock},fate⟩
def Wv(hf:b.named t.id=none):dT (b.pQ asked t fate)={dT b with aw:=b.aw+1,ax:=b.ax++[qw b asked t fate],fm:=(tQ (dT b).fm.1 t.id (some (b.ax.length:Int)),(dT b).fm.2+1),cH:=(dT b).cH++[(b.aw+1,(b.ax.length:Int))],ends:=(dT b).ends++(eo (qw b asked t fate)).toList}:=by
 have e9:CO (b.ax++[qw b asked t fate])=(tQ (CO b.ax).1 t.id (some (b.ax.length:Int)),(CO b.ax).2+1):=yG (key:=λx:bS=>x.move.id) (x:=qw b asked t fate) hf;unfold dT aO.pQ;dsimp only;rw[e9,sK,List.filterMap_append,az]
 congr 1
def JY{waits:Bool}[i:Lc (bX p) L (b,hs) f](hf:b.named t.id=none)(many:b.ax.length<96)(hk:KG (qw b asked t fate))(hw:fate=if waits then 1 else 0)(hl:hs.length<900000)
 (h:∀dM,Ext (dT b) hs (dT (b.pQ asked t fate)) dM 4->T W (f (b.pQ asked t fate,dM)) (K (.i 0))):T W L (fx (ai p) (aX asked) (aX t) waits K):=by
 refine HA (p:=p) λla lk ti tn vs bx R hg hc nR=>?_;have uy:=hg.aw;have oK:=hg.oK;have lH:(CO b.ax).1 t.id=none:=by show so _ _=_;rw[nS (key:=λx:bS=>x.move.id) hf];rfl
 have Ko:vs.reverse.length<900000:=by rw[ga,hc.len];omega
 unfold fx;apply ws;intros;apply Jr (l:=lk);apply ws;refine cW (by show decide (((b.ax.length:Nat):Int)>=96)=false;simp;omega) ?_;apply ws;refine Ay (t:=tn) (x:=(dT b).fm) ?_;rw[show(dT b).fm.1 t.id=none from lH];simp only[dj,eV];apply ws;intros;rename_i r1 r2 r3 r4;have main:T W (Sep.pt r4 (bU ⟨asked,t,fate⟩)::Sep.pt r3 (aX t)::Sep.pt r2 (aX asked)::Sep.pt r1 [.p (some (ad p 0))]::fb p (eK la lk ti tn vs (dT b))::pE aP 14 la (p,(dT b).aB)::pE bU 33 lk (p,(dT b).ax)::l9 ti (dT b).mB::l9 tn (dT b).fm::sT bx::R) (fx.j1 K r1 r4 r3):=by
  unfold fx.j1;apply ws;refine KX (p:=p) (q:=eK la lk ti tn vs (dT b)) (by show vs.reverse.length<_;omega) (by show 0<=b.aw/\b.aw<_;omega) λr5=>?_;apply ws;refine Qu (l:=lk) (x:=qw b asked t fate) (show b.ax.length<_ by omega) (by show(vs.reverse++[_]).length<_;simp at Ko⊢;omega) λr6 r7=>?_;apply ws;refine KW (t:=tn) (x:=(dT b).fm) (show b.ax.length<=1000 by omega) lH ?_;apply ws;refine KD (p:=p) hg.vo (by show(dD 0 b.ax).length<_;rw[ji];omega) (λx hx=>by
   obtain⟨k,hk,e⟩:=xU hx
   have:=(hg.cH k hk).2
   show x.1<b.aw+1
   omega) ?_
  apply ws;refine sV (p:=p) (by show((vs.reverse++[_])++[_]).length<_;simp at Ko⊢;omega) rfl rfl ?_;apply ws;apply PE (k:=qw b asked t fate) hk;apply ws;intros;rename_i r8;have C':=Wv (asked:=asked) (fate:=fate) hf;have QT:∀lg,(∀x∈bx,x∈lg)->(r1,[.p (some (ad p 0))])∈lg->(r3,aX t)∈lg->(r4,bU (qw b asked t fate))∈lg->(r5,[.p (some (ad p 0))])∈lg->(r6,[.p (some (ad lk 0))])∈lg->(r7,[.i (b.ax.length:Int)])∈lg->
   kH p la lk lg (Bu r1 r3 r4::sE r6 r7::xN r5::vs) ({dT b with aw:=b.aw+1,ax:=b.ax++[qw b asked t fate]}::{dT b with aw:=b.aw+1}::dT b::hs)
    {dT b with aw:=b.aw+1,ax:=b.ax++[qw b asked t fate],fm:=(tQ (dT b).fm.1 t.id (some (b.ax.length:Int)),(dT b).fm.2+1),cH:=(dT b).cH++[(b.aw+1,(b.ax.length:Int))]}:=by
   intro lg xC m1 m2 m3 m4 m5 m6;refine⟨?_,?_,?_,hc.mono xC⟩
   ·exact AA.Km (p:=p) (la:=la) (lk:=lk) (c:={dT b with aw:=b.aw+1,ax:=b.ax++[qw b asked t fate],fm:=(tQ (dT b).fm.1 t.id (some (b.ax.length:Int)),(dT b).fm.2+1),cH:=(dT b).cH++[(b.aw+1,(b.ax.length:Int))]}) (t:=t) (k:=qw b asked t fate) (l0:=(dT b).cH) m1 m2 m3 (show b.ax.length+1<=1000 by omega) (by show(tQ _ _ _ _).isSome=true;unfold tQ;rw[aj rfl];rfl)
     (by have:=(hg.pQ hf many hk).vo
         have e:dD 0 (b.pQ asked t fate).ax=(dT b).cH++[(b.aw+1,(b.ax.length:Int))]:=congrArg C.cH C'
         rw[e] at this;exact this)
     (by show(dD 0 b.ax++[_]).length<_;rw[ak,ji];simp;omega) rfl (FK (show(dT b).fm.1 t.id=none from lH))
   ·have:=AA.S8 (p:=p) (la:=la) (lk:=lk) (c:={dT b with aw:=b.aw+1,ax:=b.ax++[qw b asked t fate]}) m5 m6 (by show b.ax.length<=(b.ax++[_]).length;simp);have ee:({({dT b with aw:=b.aw+1,ax:=b.ax++[qw b asked t fate]}:C) with ax:=(b.ax++[qw b asked t fate]).take b.ax.length}:C)={dT b with aw:=b.aw+1}:=by rw[zX];rfl
    rw[ee] at this;exact this
   ·exact AA.next (c:={dT b with aw:=b.aw+1}) m4 (by show ag.wrap (b.aw+1-1)=b.aw;rw[aS (by omega)];omega)
  cases hd:eo (qw b asked t fate) with
  |none=>
   simp only[dj];apply ws;refine dg (dg (dg (dg (dg (dg (dg (dg ?_)))))));rw[hd] at C';simp only[Option.toList_none,bN] at C';have fin:=λlg c1=>nR [] (b.pQ asked t fate) _ (Bu r1 r3 r4::sE r6 r7::xN r5::vs) lg _ (hg.pQ hf many hk) c1 (h _ ⟨[{dT b with aw:=b.aw+1,ax:=b.ax++[qw b asked t fate]},{dT b with aw:=b.aw+1},dT b],rfl,rfl,by simp⟩);rw[C'] at fin;simp only[eK,uL] at fin;exact fin _ (QT _ (λx hx=>by simp[hx]) (by repeat (first|exact cJ.head _|apply cJ.tail)) (by repeat (first|exact cJ.head _|apply cJ.tail)) (by repeat (first|exact cJ.head _|apply cJ.tail)) (by repeat (first|exact cJ.head _|apply cJ.tail)) (by repeat (first|exact cJ.head _|apply cJ.tail)) (by repeat (first|exact cJ.head _|apply cJ.tail)))
  |some x=>
   have ex:I4 (qw b asked t fate)=x:=by
    unfold eo at hd;split at hd
    ·cases hd;rfl
    ·cases hd
   simp only[cB];apply ws;simp only[dh,az];rw[ex];refine E6 (p:=p) (e':=(dT b).ends++[x]) (by have:=yQ b;show(b.ax.filterMap eo).length<_;omega) (bA.refl _) ?_;apply ws;refine sV (p:=p) (by show(((vs.reverse++[_])++[_])++[_]).length<_;simp at Ko⊢;omega) rfl rfl ?_;apply ws;refine dg (dg (dg (dg (dg (dg (dg (dg ?_)))))));rw[hd] at C';simp only[Option.toList_some] at C';have hsx:=(oL hd).1;have Pn:∀lg,(∀x∈bx,x∈lg)->(r1,[.p (some (ad p 0))])∈lg->(r3,aX t)∈lg->(r4,bU (qw b asked t fate))∈lg->(r5,[.p (some (ad p 0))])∈lg->(r6,[.p (some (ad lk 0))])∈lg->(r7,[.i (b.ax.length:Int)])∈lg->(r8,eW x)∈lg->
                                              kH p la lk lg (HQ r1 r8::Bu r1 r3 r4::sE r6 r7::xN r5::vs) ({dT b with aw:=b.aw+1,ax:=b.ax++[qw b asked t fate],fm:=(tQ (dT b).fm.1 t.id (some (b.ax.length:Int)),(dT b).fm.2+1),cH:=(dT b).cH++[(b.aw+1,(b.ax.length:Int))]}::{dT b with aw:=b.aw+1,ax:=b.ax++[qw b asked t fate]}::{dT b with aw:=b.aw+1}::dT b::hs)
                                               (dT (b.pQ asked t fate)):=by
    intro lg xC m1 m2 m3 m4 m5 m6 m7;refine⟨?_,QT lg xC m1 m2 m3 m4 m5 m6⟩;rw[C'];exact AA.Kl (p:=p) (la:=la) (lk:=lk) (c:={dT b with aw:=b.aw+1,ax:=b.ax++[qw b asked t fate],fm:=(tQ (dT b).fm.1 t.id (some (b.ax.length:Int)),(dT b).fm.2+1),cH:=(dT b).cH++[(b.aw+1,(b.ax.length:Int))],ends:=(dT b).ends++[x]}) (e':=(dT b).ends) m1 m7
     (by have:=yQ b;show(b.ax.filterMap eo++[x]).length<_;simp;omega) (bC (l₁:=[x])) (λy hy=>by
      obtain⟨k,hk,e⟩:=List.mem_filterMap.1 hy
      have h1:=(oL e).1
      have h2:=(hg.cH k hk).2
      rw[hsx]
      show y.aw≠b.aw+1
      omega)
   have fin:=λlg c1=>nR [] (b.pQ asked t fate) _ (HQ r1 r8::Bu r1 r3 r4::sE r6 r7::xN r5::vs) lg _ (hg.pQ hf many hk) c1 (h _ ⟨[{dT b with aw:=b.aw+1,ax:=b.ax++[qw b asked t fate],fm:=(tQ (dT b).fm.1 t.id (some (b.ax.length:Int)),(dT b).fm.2+1),cH:=(dT b).cH++[(b.aw+1,(b.ax.length:Int))]},{dT b with aw:=b.aw+1,ax:=b.ax++[qw b asked t fate]},{dT b with aw:=b.aw+1},dT b],rfl,rfl,by simp⟩);rw[C'] at fin Pn;simp only[eK,uL] at fin;exact fin _ (Pn _ (λx hx=>by simp[hx]) (by repeat (first|exact cJ.head _|apply cJ.tail)) (by repeat (first|exact cJ.head _|apply cJ.tail)) (by repeat (first|exact cJ.head _|apply cJ.tail)) (by repeat (first|exact cJ.head _|apply cJ.tail)) (by repeat (first|exact cJ.head _|apply cJ.tail)) (by repeat (first|exact cJ.head _|apply cJ.tail)) (by repeat (first|exact cJ.head _|apply cJ.tail)))
 apply dz<;>intro g
 ·rw[g] at hw;apply ws;rw[aj rfl] at hw;rw[hw] at main;exact main
 ·rw[g,ah (by decide)] at hw;rw[hw] at main;exact main
def Pv(hg:eL b){n:Nat}(hn:n<b.ax.length)(h1:b.ax[n].fate=1)(A4:fate=2\/fate=3\/fate=4):dT (b.fate b.ax[n].move.id fate)={dT b with ax:=b.ax.set n {b.ax[n] with fate:=fate},ends:=(b.ax.set n {b.ax[n] with fate:=fate}).filterMap eo}:=by
 have e:(b.fate b.ax[n].move.id fate).ax=b.ax.set n {b.ax[n] with fate:=fate}:=by
  show(b.ax.map λk=>if k.move.id=b.ax[n].move.id/\k.fate=1 then{k with fate:=fate} else k)=_;have:=map_set (key:=λx:bS=>x.move.id) hg.names hn λk=>if k.fate=1 then{k with fate:=fate} else k
  rw[aj h1] at this;rw[<-this];apply od;intro k hk;by_cases e1:k.move.id=b.ax[n].move.id<;>by_cases e2:k.fate=1<;>simp[e1,e2]
 have e9:CO (b.ax.set n {b.ax[n] with fate:=fate})=CO b.ax:=Kn (key:=λx:bS=>x.move.id) hn rfl;unfold dT;rw[e,e9,Ew (k:={b.ax[n] with fate:=fate}) 0 hn rfl]
 rfl
def eL.aac(hg:eL b){n:Nat}(hn:n<b.ax.length)(h1:b.ax[n].fate=1)(A4:fate=2\/fate=3\/fate=4):eL (b.fate b.ax[n].move.id fate):=by
 have e:(b.fate b.ax[n].move.id fate).ax=b.ax.set n {b.ax[n] with fate:=fate}:=congrArg C.ax (Pv hg hn h1 A4);have em:∀{β:Type}(g:bS->β),(∀k:bS,g {k with fate:=fate}=g k)->(b.fate b.ax[n].move.id fate).ax.map g=b.ax.map g:=by
  intro β g hgg;rw[e,List.map_set];refine List.ext_getElem (by simp) λi h1 h2=>?_;rw[List.getElem_set];split
  ·rename_i he;subst he;simp[hgg]
  ·rfl
 have hk:=hg.O8 _ (bT hn);refine⟨hg.ids,by rw[em (λx=>x.move.id) λ_=>rfl];exact hg.names,hg.oK,by rw[e,jC];exact hg.many,hg.P',?_,?_,?_,hg.clock,by rw[e,jC];exact hg.aw⟩
 ·rw[e];intro x hx;rcases ru hx with hx|hx
  ·exact hg.O8 x hx
  ·subst hx;exact⟨hk.asked,hk.move,hk.Jk,hk.J',hk.Jl,hk.Gs,by show 0<=fate/\fate<=4;omega,hk.cL,hk.kQ⟩
 ·have h2:=hg.rising;have:((b.fate b.ax[n].move.id fate).ax.map λx=>x.move.aw).Pairwise (·<·):=by
   rw[em (λx=>x.move.aw) λ_=>rfl];exact List.pairwise_map.2 h2
  exact List.pairwise_map.1 this
 ·rw[e];intro x hx;rcases ru hx with hx|hx
  ·exact hg.cH x hx
  ·subst hx;exact hg.cH b.ax[n] (bT hn)
def VV[i:Lc (bX p) L (b,hs) f](hn:b.named id=some k)(h1:k.fate=1)(A4:fate=2\/fate=3\/fate=4)(hl:hs.length<900000)
 (h:∀dM,Ext (dT b) hs (dT (b.fate id fate)) dM 2->T W (f (b.fate id fate,dM)) (K (.i 0))):T W L (cr (ai p) (nm id) fate K):=by
 refine HA (p:=p) λla lk ti tn vs bx R hg hc nR=>?_;have oK:=hg.oK;have many:=hg.many;obtain⟨n,hi⟩:∃n,(b.ax.findIdx? λx=>x.move.id=id)=some n:=by
  cases hi:(b.ax.findIdx? λx=>x.move.id=id) with
  |none=>rw[show b.named id=none from yH (key:=λx:bS=>x.move.id) hi] at hn;cases hn
  |some n=>exact⟨n,rfl⟩
 obtain⟨WM,hk,Ys⟩:=tE (key:=λx:bS=>x.move.id) hi;have e2:b.named id=some b.ax[n]:=Ys;rw[hn] at e2;have e3:=bj.inj e2;subst e3;subst hk;have e1:(CO b.ax).1 b.ax[n].move.id=some (n:Int):=by show so _ _=_;rw[hi];rfl
 have C':=Pv hg WM h1 A4;have ZI:=hg.O8 _ (bT WM);have Ko:vs.reverse.length<900000:=by rw[ga,hc.len];omega
 have Nl:eo {b.ax[n] with fate:=fate}=none:=by unfold eo;rw[ah];show ¬(fate=1/\_);omega
 unfold cr;apply ws;intros;apply Fq (b:=b) hg.many;rw[hn];simp only[cB,dk];apply ws;intros;rename_i r1 r2 r3;unfold cr.j1;apply cW (by simpa using h1);unfold cr.j2;refine cW (by simp;omega) ?_;refine cW (by simp;omega) ?_;apply ws;apply PE (k:=b.ax[n]) ZI;apply ws;intros;rename_i r4;have main:∀(q:Core)(u1:LV)(gJ:List C)(c2:C),q=eK la lk ti tn u1 c2->c2={dT b with ends:=q.ends}->q.ends.Perm ((b.ax.set n {b.ax[n] with fate:=fate}).filterMap eo)->u1.length<=vs.length+1->
                                                      (∀lg,(∀x∈bx,x∈lg)->(r1,[.p (some (ad p 0))])∈lg->(r4,eW (I4 b.ax[n]))∈lg->kH p la lk lg u1 gJ {dT b with ends:=(b.ax.set n {b.ax[n] with fate:=fate}).filterMap eo})->
                                                      Ext (dT b) hs (dT (b.fate b.ax[n].move.id fate)) ({dT b with ends:=(b.ax.set n {b.ax[n] with fate:=fate}).filterMap eo}::gJ) 2->
                                                      T W (Sep.pt r4 (eW (I4 b.ax[n]))::Sep.pt r3 (bU b.ax[n])::Sep.pt r2 (nm b.ax[n].move.id)::Sep.pt r1 [.p (some (ad p 0))]::fb p q::pE aP 14 la (p,b.aB)::pE bU 33 lk (p,b.ax)::l9 ti (EP b.aB)::l9 tn (CO b.ax)::sT bx::R) (cr.j4 K r1 r2 r3 fate):=by
  rintro q u1 gJ c2 rfl Fy hpm adh QT adw;unfold cr.j4;have hlv:(eK la lk ti tn u1 c2).vs.length<1000000:=by show u1.reverse.length<_;rw[ga];rw[ga] at Ko;omega
  apply ws;apply Ay (t:=tn) (x:=CO b.ax);rw[e1];simp only[cB,dk];apply ws;refine X5 (l:=lk) (y:=b.ax[n]) (x:={b.ax[n] with fate:=fate}) (ao WM) (by omega) hlv λr5 r6 r7=>?_;apply ws;refine dg (dg (dg (dg (dg (dg (dg ?_))))));refine T.I7 (e':=(b.ax.set n {b.ax[n] with fate:=fate}).filterMap eo) hpm ?_;have fin:=λlg(c1:kH p la lk lg (yU r5 r6 r7::u1) ({dT b with ends:=(b.ax.set n {b.ax[n] with fate:=fate}).filterMap eo}::gJ) (dT (b.fate b.ax[n].move.id fate)))=>nR [] (b.fate b.ax[n].move.id fate) _ (yU r5 r6 r7::u1) lg _ (hg.aac WM h1 A4) c1 (h _ adw);have Pn:∀lg,(∀x∈bx,x∈lg)->(r1,[.p (some (ad p 0))])∈lg->(r4,eW (I4 b.ax[n]))∈lg->(r5,bU b.ax[n])∈lg->(r6,[.p (some (ad lk 0))])∈lg->(r7,[.i (n:Int)])∈lg->
                                            kH p la lk lg (yU r5 r6 r7::u1) ({dT b with ends:=(b.ax.set n {b.ax[n] with fate:=fate}).filterMap eo}::gJ) (dT (b.fate b.ax[n].move.id fate)):=by
   intro lg xC m1 m2 m3 m4 m5;refine⟨?_,QT lg xC m1 m2⟩;have:=AA.Ra (p:=p) (la:=la) (lk:=lk) (c:=dT (b.fate b.ax[n].move.id fate)) m3 m4 m5 (by rw[C'];simpa using WM);have ee:{dT (b.fate b.ax[n].move.id fate) with ax:=(dT (b.fate b.ax[n].move.id fate)).ax.set n b.ax[n]}={dT b with ends:=(b.ax.set n {b.ax[n] with fate:=fate}).filterMap eo}:=by
    rw[C'];simp only[gW,List.set_getElem_self]
    rfl
   rw[ee] at this;exact this
  rw[C'] at fin Pn;simp only[eK,uL] at fin;rw[Fy];exact fin _ (Pn _ (λx hx=>by simp[hx]) (by repeat (first|exact cJ.head _|apply cJ.tail)) (by repeat (first|exact cJ.head _|apply cJ.tail)) (by repeat (first|exact cJ.head _|apply cJ.tail)) (by repeat (first|exact cJ.head _|apply cJ.tail)) (by repeat (first|exact cJ.head _|apply cJ.tail)))
 cases hd:eo b.ax[n] with
 |none=>
  simp only[dj];apply ws;unfold cr.j3;apply fG;have hes:=Dc WM Nl hd;have Se:({dT b with ends:=(b.ax.set n {b.ax[n] with fate:=fate}).filterMap eo}:C)=dT b:=by rw[hes];rfl
  refine main (eK la lk ti tn vs (dT b)) vs hs (dT b) rfl rfl (by rw[hes];exact bA.refl _) (by omega) (λlg xC _ _=>by rw[Se];exact hc.mono xC) (by rw[Se];exact⟨[dT b],rfl,rfl,by simp⟩)
 |some x=>
  have ex:I4 b.ax[n]=x:=by
   unfold eo at hd;split at hd
   ·cases hd;rfl
   ·cases hd
  obtain⟨QM,AK⟩:=hg.PB WM Nl hd;simp only[cB];apply ws;simp only[dh,az];have hsx:b.ax[n].move.aw=x.aw:=(oL hd).1.symm;refine G7 (p:=p) (q:=eK la lk ti tn vs (dT b)) (by have:=yQ b;show(b.ax.filterMap eo).length<_;omega) (λy e' hy hpy=>?_) (λET=>?_)
  ·apply ws;unfold cr.j3;apply ib;apply ws;refine sV (p:=p) (by show vs.reverse.length<_;omega) rfl rfl ?_;apply ws;have hpe:e'.Perm ((b.ax.set n {b.ax[n] with fate:=fate}).filterMap eo):=Dl QM hpy (by rw[hy,<-ex]) AK;have:=main ⟨la,lk,ti,tn,vs.reverse++[Vw r1 r4],(dT b).cH,e',(dT b).clock,(dT b).aw⟩ (Vw r1 r4::vs) (dT b::hs) {dT b with ends:=e'} (by simp[eK]) rfl hpe (by simp) (λlg xC m1 m2=>⟨?_,hc.mono xC⟩) ⟨[{dT b with ends:=(b.ax.set n {b.ax[n] with fate:=fate}).filterMap eo},dT b],rfl,rfl,by simp⟩
   ·exact this
   ·rw[ex] at m2;exact AA.end_ (p:=p) (la:=la) (lk:=lk) (c:={dT b with ends:=(b.ax.set n {b.ax[n] with fate:=fate}).filterMap eo}) (e':=(dT b).ends) m1 m2 (by have h3:=List.length_filterMap_le eo (b.ax.set n {b.ax[n] with fate:=fate});rw[jC] at h3;show List.length (List.filterMap _ _)<_;omega) (QM.symm.trans (bC (l₁:=[x])))
  ·refine aR ?_ (ET x (QM.mem_iff.1 (by simp)));rw[<-ex]
end
def gQ(d c:bp):LV:=aP d++aP c
def zg(d c:bp):∀v∈gQ d c,v.oneCell'=true:=lW (iZ _) (iZ _)
instance{d c:bp}:Ln (gQ d c) 28:=⟨rfl⟩
instance{d c:bp}:Gt (gQ d c) 12 (.i d.au):=⟨rfl⟩
instance{d c:bp}:Gt (gQ d c) 26 (.i c.au):=⟨rfl⟩
section
variable {d c e:bp} {i:Int} {x1 x2 x3 x4 x5 x6 x7 x8 x9 Bn Bm Bl Bk Ej HM HL Tw Tv Vt Vs Vr Vq Vp Vo Vn Vm Vl Vk:Value}
instance:Sub (gQ d c) 0 28 (gQ d c):=⟨rfl,λj v h=>by rw[az];exact h⟩
instance:Sub (gQ d c) 0 14 (aP d):=⟨rfl,λj v h=>by rw[az];unfold gQ;rw[bM (ar.1 h).1];exact h⟩
instance:Sub (gQ d c) 14 14 (aP c):=⟨rfl,λj v h=>by
 have hl:(aP d).length=14:=rfl
 unfold gQ
 rw[jo (by omega),hl,show 14+j-14=j by omega];exact h⟩
instance:Wr (gQ d c) 0 (aP e) (gQ e c):=⟨rfl,by show 14<=28;decide,iZ e⟩
instance:Wr (gQ d c) 14 (aP e) (gQ d e):=⟨rfl,by show 28<=28;decide,iZ e⟩
instance:Wr (gQ d c) 12 [.i i] (gQ {d with au:=i} c):=⟨rfl,by show 13<=28;decide,λv h=>by simp at h;subst h;rfl⟩
instance:Wr (gQ d c) 26 [.i i] (gQ d {c with au:=i}):=⟨rfl,by show 27<=28;decide,λv h=>by simp at h;subst h;rfl⟩
instance:Wr [x1,x2,x3,x4,x5,x6,x7,x8,x9,Bn,Bm,Bl,Bk,Ej,HM,HL,Tw,Tv,Vt,Vs,Vr,Vq,Vp,Vo,Vn,Vm,Vl,Vk] 0 (gQ d c) (gQ d c):=⟨rfl,aC _,zg d c⟩
instance:Wr [x1,x2,x3,x4,x5,x6,x7,x8,x9,Bn,Bm,Bl,Bk,Ej,HM,HL,Tw,Tv,Vt,Vs,Vr,Vq,Vp,Vo,Vn,Vm,Vl,Vk] 0 (aP d++(aP c++[])) (gQ d c):=⟨rfl,aC _,by rw[bN];exact zg d c⟩
instance:Wr [x1,x2,x3,x4,x5,x6,x7,x8,x9,Bn,Bm,Bl,Bk,Ej,HM,HL,Tw,Tv,Vt,Vs,Vr,Vq,Vp,Vo,Vn,Vm,Vl,Vk] 0 [.u 0,.u 0,.u 0,.u 0,.u 0,.u 0,.u 0,.u 0,.u 0,.u 0,.i 0,.i 0,.i 0,.i 0,.u 0,.u 0,.u 0,.u 0,.u 0,.u 0,.u 0,.u 0,.u 0,.u 0,.i 0,.i 0,.i 0,.i 0] (gQ zA zA):=⟨rfl,aC _,zg zA zA⟩
end
def qR(d c:Option bp)(t:cj):Int:=match d with
 |none=>19
 |some d=>match c with
  |none=>20
  |some c=>if d.bt≠c.bt then 21 else if d.bt≠t.bt then 22 else if 8<=d.au then 30 else if 8<=c.au then 31 else 0
def Sf{f:Int}(h0:0<=f)(h1:f<16):(ch .i64 .and f 8!=0)=decide (8<=f):=by
 rw[ec];simp only[mz,ne_eq,decide_eq_true_eq];rw[P6 h0 (by omega)];unfold has;omega
section
variable {W:World} {L R:LH} {K:VK} {X:WK} {p:Nat} {b:aO} {hs:List C} {f:aO×List C->LH} {t:cj} {d c:bp} {n:Nat}
def RO[i:Lc (bX p) L (b,hs) f](h0:∀d c,qR (b.find t.bq) (b.find t.aU) t≠0->T W L (K (.tuple ⟨[.agg ⟨gQ d c⟩,.i (qR (b.find t.bq) (b.find t.aU) t)]⟩)))
 (h:∀d c,b.find t.bq=some d->b.find t.aU=some c->qR (b.find t.bq) (b.find t.aU) t=0->T W L (K (.tuple ⟨[.agg ⟨gQ d c⟩,.i 0]⟩))):T W L (wk (ai p) (aX t) K):=by
 refine nG (p:=p) λhg=>?_;unfold wk
 repeat' first|apply ws;intros|apply wb|refine tP ?_
 cases hd:b.find t.bq with
 |none=>
  rw[hd] at h0;simp only[dj,eV];have:=h0 zA zA (by show(19:Int)≠0;decide);apply ws;exact T.dp this
 |some d=>
  cases hc:b.find t.aU with
  |none=>
   rw[hd,hc] at h0;simp only[dj,eV,cB,dk];have:=h0 zA zA (by show(20:Int)≠0;decide);apply ws;exact T.dp this
  |some c=>
   rw[hd,hc] at h0 h;have fd:=(hg.P' d (jW hd)).au;have fc:=(hg.P' c (jW hc)).au;simp only[cB,dk];apply ws;apply dz<;>intro g1
   ·have g1:d.bt≠c.bt:=by simpa using g1
    have e:qR (some d) (some c) t=21:=aj g1;rw[e] at h0;have:=h0 zA zA (by decide);apply ws;exact T.dp this
   have g1: ¬d.bt≠c.bt:=by simpa using g1
   apply ws;apply dz<;>intro g2
   ·have g2:d.bt≠t.bt:=by simpa using g2
    have e:qR (some d) (some c) t=22:=by unfold qR;dsimp only;rw[ah g1,aj g2]
    rw[e] at h0;have:=h0 zA zA (by decide);apply ws;exact T.dp this
   have g2: ¬d.bt≠t.bt:=by simpa using g2
   apply ws;rw[Sf fd.1 fd.2];apply gO<;>intro g3
   ·have e:qR (some d) (some c) t=30:=by unfold qR;dsimp only;rw[ah g1,ah g2,aj (g3)]
    rw[e] at h0;have:=h0 zA zA (by decide);apply ws;exact T.dp this
   apply ws;rw[Sf fc.1 fc.2];apply gO<;>intro g4
   ·have e:qR (some d) (some c) t=31:=by unfold qR;dsimp only;rw[ah g1,ah g2,ah g3,aj (g4)]
    rw[e] at h0;have:=h0 zA zA (by decide);apply ws;exact T.dp this
   have:=h d c rfl rfl (by unfold qR;dsimp only;rw[ah g1,ah g2,ah g3,ah g4]);apply ws;exact T.dp this
def Z6{f:Int}(h0:0<=f)(h1:f<256):(ch .i64 .and f 16!=0)=decide (has f 16):=by
 rw[ec];simp only[mz,ne_eq,decide_eq_true_eq];rw[XL h0 h1,bh]
def Z5{f:Int}(h0:0<=f)(h1:f<256):(ch .i64 .and f 32!=0)=decide (has f 32):=by
 rw[ec];simp only[mz,ne_eq,decide_eq_true_eq];rw[XK h0 h1,bh]
def Ue{f:Int}(h0:0<=f)(h1:f<256):(ch .i64 .and f 64!=0)=decide (has f 64):=by
 rw[ec];simp only[mz,ne_eq,decide_eq_true_eq];rw[P7 h0 h1,bh]
def Pp{f:Int}(h0:0<=f)(h1:f<256):(ch .i64 .and f 128!=0)=decide (has f 128):=by
 rw[ec];simp only[mz,ne_eq,decide_eq_true_eq];rw[KL h0 h1,bh]
def adF{f:Int}(h0:0<=f)(h1:f<256):(ch .i64 .and f 4!=0)=decide (has f 4):=by
 rw[ec];simp only[mz,ne_eq,decide_eq_true_eq];rw[KI h0 h1,bh]
def LS(G:nX W)(hd:wD d)(hc:wD c)(ht:t.aZ<bV)(hf:0<=t.au/\t.au<256)(hz:t.aZ=0->has t.au 16\/has t.au 32)
 (h:T W L (K (.tuple ⟨[.agg ⟨nm (dV t d c).1⟩,.i (dV t d c).2]⟩))):T W L (eE (gQ d c) (aX t) K):=by
 unfold eE;have j3:∀(r1 r2 r3 r4 n1:Nat),n1<bV->((if has t.au 32/\(if has t.au 32 then min n1 (ky c false) else n1)=0 then((0:Nat),(34:Int)) else(if has t.au 32 then min n1 (ky c false) else n1,0))=dV t d c)->
  T W (Sep.pt r4 (nm n1)::Sep.pt r3 (nm 0)::Sep.pt r2 (aX t)::Sep.pt r1 (gQ d c)::L) (eE.j3 K r2 r4 r1 r3):=by
  intro r1 r2 r3 r4 n1 hn1 he;unfold eE.j3;apply ws;rw[Z5 hf.1 hf.2];apply gO<;>intro g1
  ·rw[aj g1] at he
   repeat' first|apply ws|apply wb|first|refine Ft G hc ?_|refine Vh ?_|refine rX ?_
   apply gO<;>intro g2
   ·rw[aj ⟨g1,g2⟩] at he;rw[<-he] at h;rw[g2];apply ws;exact T.dp h
   ·rw[ah (λhh=>g2 hh.2)] at he;rw[<-he] at h;apply ws;exact T.dp h
  ·rw[ah (λhh=>g1 hh.1),ah g1] at he;rw[<-he] at h;apply ws;exact T.dp h
 have j2:∀(r1 r2 r3 r4:Nat),T W (Sep.pt r4 (nm (if t.aZ=0 then bV-1 else t.aZ))::Sep.pt r3 (nm 0)::Sep.pt r2 (aX t)::Sep.pt r1 (gQ d c)::L) (eE.j2 K r2 r4 r1 r3):=by
  intro r1 r2 r3 r4;have hn0:(if t.aZ=0 then bV-1 else t.aZ)<bV:=by unfold bV at *;split<;>omega
  unfold eE.j2;apply ws;rw[Z6 hf.1 hf.2];apply gO<;>intro g1
  ·repeat' first|apply ws|apply wb|first|refine Ft G hd ?_|refine Vh ?_|refine rX ?_
   apply gO<;>intro g2
   ·have he:dV t d c=(0,33):=by unfold dV;simp only[g1,g2,if_true,true_and]
    rw[he] at h;rw[g2];apply ws;exact T.dp h
   ·refine j3 _ _ _ _ _ (by have:=Cf (p:=true) hd;omega) ?_;unfold dV;simp only[g1,g2,if_true,true_and,if_false]
  ·apply j3 _ _ _ _ _ hn0;unfold dV;simp only[g1,if_false,false_and]
 have agB:(has t.au 16\/has t.au 32)->t.aZ=0->(if t.aZ=0 then bV-1 else t.aZ)=bV-1:=λ_ h=>aj h
 repeat' first|apply ws;intros|apply wb|refine CL hf ?_
 rename_i r1 r2 r3 r4;apply gO<;>intro g1
 ·repeat' first|apply ws|apply wb|refine rX ?_
  unfold eE.j1;apply gO<;>intro g2
  ·apply JH ⟨vB _,G.LR⟩;apply ws;have:=j2 r1 r2 r3 r4;rw[aj g2] at this;exact this
  ·have:=j2 r1 r2 r3 r4;rw[ah g2] at this;exact this
 ·unfold eE.j1;apply fG;have:=j2 r1 r2 r3 r4;rw[ah (λhh=>g1 (hz hh))] at this;exact this
end
structure afQ(t:cj):Prop where
 au:0<=t.au/\t.au<=255
 id0:t.id≠0
 idM:t.id≠bV-1
 tog:jv t.au
 fresh:t.aw=0/\t.kQ=0
 cL:0<=t.cL/\t.cL<=1073741824
 waits:0<t.cL->has t.au 2
 ends:lM t.au->t.pending≠0/\(0<=t.bt/\t.bt<4294967296)/\(0<=t.code/\t.code<65536)
 cx: ¬lM t.au->t.bq≠t.aU/\t.pending=0/\(t.aZ=0->has t.au 16\/has t.au 32)/\(1<=t.bt/\t.bt<4294967296)/\(1<=t.code/\t.code<65536)
def zO{t:cj}(h:pC t=0):afQ t:=by
 unfold pC at h;by_cases h1:t.au<0\/255<t.au
 ·rw[aj h1] at h;exact aR h (by decide)
 rw[ah h1] at h;by_cases h2:t.id=0
 ·rw[aj h2] at h;exact aR h (by decide)
 rw[ah h2] at h;by_cases h3:t.id=bV-1
 ·rw[aj h3] at h;exact aR h (by decide)
 rw[ah h3] at h;by_cases h4: ¬jv t.au
 ·rw[aj h4] at h;exact aR h (by decide)
 rw[ah h4] at h;by_cases h5:t.aw≠0\/t.kQ≠0
 ·rw[aj h5] at h;exact aR h (by decide)
 rw[ah h5] at h;by_cases h6:t.cL<0\/1073741824<t.cL\/0<t.cL/\ ¬has t.au 2
 ·rw[aj h6] at h;exact aR h (by decide)
 rw[ah h6] at h;have hw:0<t.cL->has t.au 2:=λh0=>bh.1 λhh=>h6 (.inr (.inr ⟨h0,hh⟩));by_cases he:lM t.au
 ·rw[aj he] at h;by_cases g1:t.pending=0
  ·rw[aj g1] at h;exact aR h (by decide)
  rw[ah g1] at h;by_cases g2:t.bt<0\/4294967296<=t.bt
  ·rw[aj g2] at h;exact aR h (by decide)
  rw[ah g2] at h;by_cases g3:t.code<0\/65536<=t.code
  ·rw[aj g3] at h;exact aR h (by decide)
  exact⟨by omega,h2,h3,bh.1 h4,by omega,by omega,hw,λ_=>⟨g1,by omega,by omega⟩,λhh=>aR he hh⟩
 ·rw[ah he] at h;by_cases g1:t.bq=0
  ·rw[aj g1] at h;exact aR h (by decide)
  rw[ah g1] at h;by_cases g2:t.aU=0
  ·rw[aj g2] at h;exact aR h (by decide)
  rw[ah g2] at h;by_cases g3:t.bq=t.aU
  ·rw[aj g3] at h;exact aR h (by decide)
  rw[ah g3] at h;by_cases g4:t.pending≠0
  ·rw[aj g4] at h;exact aR h (by decide)
  rw[ah g4] at h;by_cases g5:t.aZ=0/\ ¬has t.au 16/\ ¬has t.au 32
  ·rw[aj g5] at h;exact aR h (by decide)
  rw[ah g5] at h;by_cases g6:t.bt<1\/4294967296<=t.bt
  ·rw[aj g6] at h;exact aR h (by decide)
  rw[ah g6] at h;by_cases g7:t.code<1\/65536<=t.code
  ·rw[aj g7] at h;exact aR h (by decide)
  refine⟨by omega,h2,h3,bh.1 h4,by omega,by omega,hw,λhh=>aR hh he,λ_=>⟨g3,by omega,λh0=>?_,by omega,by omega⟩⟩;by_cases q:has t.au 16
  ·exact .inl q
  ·by_cases q2:has t.au 32
   ·exact .inr q2
   ·exact aR ⟨h0,q,q2⟩ g5
section
variable {b:aO} {t:cj} {d c:bp} {n:Nat} {q:Bool}
def tF(hg:eL b){id:Nat}(hd:b.find id=some d):AG d/\d.id=id:=⟨hg.P' d (jW hd),by simpa using List.find?_some hd⟩
def Ka{s:Bool}(hd:AG d)(hm:(more d s n q).2=0):AG (more d s n q).1/\(more d s n q).1.id=d.id/\(more d s n q).1.aw=d.aw:=by
 obtain⟨⟨i1,i2,i3,i4,i5,i6,i7,i8,i9⟩,i10,i11,i12⟩:=hd;unfold more at hm⊢;cases s with
 |false=>
  simp only[cn,if_false] at hm⊢;by_cases h1:bV<=d.cp+d.cq+n
  ·rw[aj h1] at hm;exact aR hm (by show ¬(32:Int)=0;decide)
  by_cases h2:has d.au 4/\ky d false<n
  ·rw[ah h1,aj h2] at hm;exact aR hm (by show ¬(34:Int)=0;decide)
  rw[ah h1,ah h2];cases q with
  |true=>exact⟨⟨⟨i1,i2,i3,by show d.cp+n<bV;omega,i5,i6,i7,i8,i9⟩,i10,i11,i12⟩,rfl,rfl⟩
  |false=>exact⟨⟨⟨i1,i2,i3,i4,by show d.cq+n<bV;omega,i6,i7,i8,i9⟩,i10,i11,i12⟩,rfl,rfl⟩
 |true=>
  simp only[if_true] at hm⊢;by_cases h1:bV<=d.dp+d.dq+n
  ·rw[aj h1] at hm;exact aR hm (by show ¬(32:Int)=0;decide)
  by_cases h2:has d.au 2/\ky d true<n
  ·rw[ah h1,aj h2] at hm;exact aR hm (by show ¬(33:Int)=0;decide)
  rw[ah h1,ah h2];cases q with
  |true=>exact⟨⟨⟨i1,by show d.dp+n<bV;omega,i3,i4,i5,i6,i7,i8,i9⟩,i10,i11,i12⟩,rfl,rfl⟩
  |false=>exact⟨⟨⟨i1,i2,by show d.dq+n<bV;omega,i4,i5,i6,i7,i8,i9⟩,i10,i11,i12⟩,rfl,rfl⟩
def G9(hd:AG d){yes:Prop}[Decidable yes]:AG (close d yes)/\(close d yes).id=d.id/\(close d yes).aw=d.aw:=by
 obtain⟨⟨i1,i2,i3,i4,i5,i6,i7,i8,i9⟩,i10,i11,i12⟩:=hd;unfold close;split
 ·have hf:0<=d.au%8+8/\d.au%8+8<16:=by omega
  exact⟨⟨⟨i1,i2,i3,i4,i5,i6,i7,by show oc (d.au%8+8);unfold oc;omega,i9⟩,⟨i10.1,i10.2.1,by show 0<=d.au%8+8/\d.au%8+8<=65535;omega⟩,hf,i12⟩,rfl,rfl⟩
 ·exact⟨⟨⟨i1,i2,i3,i4,i5,i6,i7,i8,i9⟩,i10,i11,i12⟩,rfl,rfl⟩
def Dm{a x:bp}{id:Nat}(hx:b.find id=some x)(hZ:a.id≠id):(b.bB a).find id=some x:=by
 unfold aO.find at *;show(b.aB.map λx=>if x.id=a.id then{a with aw:=x.aw} else x).find? _=_;rw[List.find?_map];have:((λy:bp=>decide (y.id=id))∘λx=>if x.id=a.id then{a with aw:=x.aw} else x)=λy:bp=>decide (y.id=id):=by
  funext y
  simp only[Function.comp];by_cases e:y.id=a.id<;>simp[e]
 rw[this,hx];have hxi:x.id=id:=by simpa using List.find?_some hx
 simp only[dN];rw[ah (by rw[hxi];exact λh=>hZ h.symm)]
def sF(hg:eL b){id:Nat}{k:bS}(hk:b.named id=some k):KG k/\k.move.id=id:=⟨hg.O8 k (jW hk),by simpa using List.find?_some hk⟩
end
section
variable {W:World} {L R:LH} {K:VK} {X:WK} {p:Nat} {b:aO} {hs:List C} {f:aO×List C->LH} {t:cj} {d c:bp} {n:Nat}
def LQ(h1:pC t=0)(h2: ¬lM t.au)(h3:b.named t.id=none)(h4:b.find t.bq=some d)(h5:b.find t.aU=some c)(h6:qR (some d) (some c) t=0):
 kd t (b.named t.id) (b.find t.bq) (b.find t.aU) b.ax.length=(if 96<=b.ax.length then(35,0)
  else if(dV t d c).2≠0 then((dV t d c).2,0)
  else if(more d true (dV t d c).1 (decide (has t.au 2))).2≠0 then((more d true (dV t d c).1 (decide (has t.au 2))).2,0)
  else if(more c false (dV t d c).1 (decide (has t.au 2))).2≠0 then((more c false (dV t d c).1 (decide (has t.au 2))).2,0)
  else(0,(dV t d c).1)):=by
 unfold qR at h6;dsimp only at h6;unfold kd;rw[ah (by simpa using h1),ah h2,h3,h4,h5];dsimp only;by_cases g1:d.bt≠c.bt
 ·rw[aj g1] at h6;cases h6
 by_cases g2:d.bt≠t.bt
 ·rw[ah g1,aj g2] at h6;cases h6
 by_cases g3:8<=d.au
 ·rw[ah g1,ah g2,aj g3] at h6;cases h6
 by_cases g4:8<=c.au
 ·rw[ah g1,ah g2,ah g3,aj g4] at h6;cases h6
 rw[ah g1,ah g2,ah g3,ah g4]
def TU(G:nX W)(ht:Bf t)(Pa:jR t)(hl:hs.length<800000)[i:Lc (bX p) L (b,hs) f]
 (h:∀dM,Ext (dT b) hs (dT (b.move t).2) dM 6->T W (f ((b.move t).2,dM)) (K (.i (b.move t).1))):T W L (mI (ai p) (aX t) K):=by
 have hL:f (b,hs)=L:=i.same;refine nG (p:=p) λhg=>?_;have bad:∀r:Int,r≠0->(kd t (b.named t.id) (b.find t.bq) (b.find t.aU) b.ax.length).1=r->T W L (K (.i r)):=by
  intro r hr he;have e:b.move t=(r,b):=by unfold aO.move;dsimp only;rw[he,aj hr]
  rw[e] at h;have:=h hs (Ext.refl _ _ _);rw[hL] at this;exact this
 unfold mI
 repeat' first|apply ws;intros|apply wb|refine FV G ht ?_
 apply dz<;>intro g1
 ·have g1:pC t≠0:=by simpa using g1
  have:=bad (pC t) g1 (by unfold kd;rw[aj g1]);exact T.dp this
 have g1:pC t=0:=by simpa using g1
 have ck:=zO g1;have hf:0<=t.au/\t.au<256:=by have:=ck.au;omega
 repeat' first|apply ws|apply wb|refine Fw hf ?_
 apply gO<;>intro g2
 ·have:=bad 6 (by decide) (by unfold kd;rw[ah (by simpa using g1),aj g2]);exact T.dp this
 repeat' first|apply ws;intros|apply wb|refine Fp ?_
 cases hn:b.named t.id with
 |some k=>
  obtain⟨hk,_⟩:=sF hg hn;simp only[cB,dk]
  repeat' first|apply ws|apply wb|refine FW hf hk.Jl ?_
  have:=bad (rW t k.asked) (tN _ _) (by unfold kd;rw[ah (by simpa using g1),ah g2,hn]);exact T.dp this
 |none=>
 simp only[dj,eV];have key:∀(d c:Option bp),b.find t.bq=d->b.find t.aU=c->qR d c t≠0->(kd t (b.named t.id) (b.find t.bq) (b.find t.aU) b.ax.length).1=qR d c t:=by
  intro d c hd hc hZ;rw[hd,hc,hn];unfold kd;rw[ah (by simpa using g1),ah g2];dsimp only;cases d with
  |none=>rfl
  |some d=>
   cases c with
   |none=>rfl
   |some c=>
    unfold qR at hZ⊢;dsimp only at hZ⊢;by_cases g1:d.bt≠c.bt
    ·rw[aj g1,aj g1]
    by_cases g2:d.bt≠t.bt
    ·rw[ah g1,aj g2,ah g1,aj g2]
    by_cases g3:8<=d.au
    ·rw[ah g1,ah g2,aj g3,ah g1,ah g2,aj g3]
    by_cases g4:8<=c.au
    ·rw[ah g1,ah g2,ah g3,aj g4,ah g1,ah g2,ah g3,aj g4]
    rw[ah g1,ah g2,ah g3,ah g4] at hZ;exact aR rfl hZ
 apply ws;refine RO (λd c hZ=>?_) (λd c hd hc he=>?_)
 ·apply ws;intros;apply hG (by simpa using hZ);have:=bad _ hZ (key _ _ rfl rfl hZ);exact T.dp this
 apply ws;intros;obtain⟨gd,HJ⟩:=tF hg hd;obtain⟨gc,EV⟩:=tF hg hc;rw[hd,hc] at he;have Kv:=LQ (b:=b) g1 g2 hn hd hc he;apply cW (by simp)
 repeat' first|apply ws|apply wb|refine Qm ?_
 by_cases g3:96<=b.ax.length
 ·rw[ay (by omega)];apply ws;have:=bad 35 (by decide) (by rw[Kv,aj g3]);exact T.dp this
 rw[aA (by omega)];rw[ah g3] at Kv;obtain⟨hZ,afR,Si,agw,afV⟩:=ck.cx g2
 repeat' first|apply ws;intros|apply wb|refine LS G gd.ok gc.ok ht.aZ hf Si ?_
 apply dz<;>intro g4
 ·have g4:(dV t d c).2≠0:=by simpa using g4
  have:=bad _ g4 (by rw[Kv,aj g4]);exact T.dp this
 have g4: ¬(dV t d c).2≠0:=by simpa using g4
 rw[ah g4] at Kv;have DO:(dV t d c).1<bV:=by
  have h1:=Cf (p:=true) gd.ok;have h2:=Cf (p:=false) gc.ok;have h3:=ht.aZ;unfold dV bV at *;dsimp only
  repeat' split
  all_goals first|(show(0:Nat)<_;omega)|(show min _ _<_;omega)|(show _<_;split<;>omega)|omega
 generalize hN:(dV t d c).1=N at *
 repeat' first|apply ws|apply wb|first|refine rr hf ?_|refine Tl G gd.ok DO ⟨gd.au.1,by have:=gd.au.2;omega⟩ ?_
 apply dz<;>intro g5
 ·have g5:(more d true N (decide (has t.au 2))).2≠0:=by simpa using g5
  have:=bad _ g5 (by rw[Kv,aj g5]);exact T.dp this
 have g5: ¬(more d true N (decide (has t.au 2))).2≠0:=by simpa using g5
 rw[ah g5] at Kv
 repeat' first|apply ws|apply wb|first|refine rr hf ?_|refine Qz G gc.ok DO ⟨gc.au.1,by have:=gc.au.2;omega⟩ ?_
 apply dz<;>intro g6
 ·have g6:(more c false N (decide (has t.au 2))).2≠0:=by simpa using g6
  have:=bad _ g6 (by rw[Kv,aj g6]);exact T.dp this
 have g6: ¬(more c false N (decide (has t.au 2))).2≠0:=by simpa using g6
 rw[ah g6] at Kv;obtain⟨md,mdi,mds⟩:=Ka (q:=decide (has t.au 2)) gd (bh.1 g5);obtain⟨mc,mci,mcs⟩:=Ka (q:=decide (has t.au 2)) gc (bh.1 g6);have e:b.move t=(0,b.Af t N):=by unfold aO.move;dsimp only;rw[Kv];rfl
 rw[e] at h;have em:b.Af t N=((b.bB (close (more d true N (decide (has t.au 2))).1 (has t.au 64))).bB (close (more c false N (decide (has t.au 2))).1 (has t.au 128))).pQ t {t with aZ:=N} (waits t):=by unfold aO.Af;rw[hd,hc]
 rw[em] at h;have last:∀(D C:bp)(r1 r2 r3 r4:Nat),AG D->AG C->D.id=d.id->C.id=c.id->D.aw=d.aw->C.aw=c.aw->
    (∀dM,Ext (dT b) hs (dT (((b.bB D).bB C).pQ t {t with aZ:=N} (waits t))) dM 6->T W (f (((b.bB D).bB C).pQ t {t with aZ:=N} (waits t),dM)) (K (.i 0)))->
    T W (Sep.pt r4 (nm N)::Sep.pt r3 (gQ D C)::Sep.pt r2 (bU zK)::Sep.pt r1 (aX t)::L) (mI.j2 K r3 (ai p) r1 r4):=by
  intro D C r1 r2 r3 r4 gD gC hDi hCi hDs hCs hh;have hfd:b.find D.id=some d:=by rw[hDi,HJ];exact hd
  have eD:({D with aw:=d.aw}:bp)=D:=by rw[<-hDs]
  have eC:({C with aw:=c.aw}:bp)=C:=by rw[<-hCs]
  have hfc:(b.bB D).find C.id=some c:=Dm (by rw[hCi,EV];exact hc) (by rw[hDi,hCi,HJ,EV];exact hZ);have uy:=hg.aw;have oK:=hg.oK;have many:=hg.many;unfold mI.j2;apply ws;refine Ff (p:=p) hfd (by rw[eD];exact gD) (by omega) λxC x1=>?_;have l1:=x1.len;have i1:=i.next (b.bB D,xC);apply ws;refine Ff (p:=p) hfc (by rw[eC];exact gC) (by omega) λgJ x2=>?_;have l2:=x2.len;have i2:=i.next ((b.bB D).bB C,gJ)
  repeat' first|apply ws;intros|apply wb|refine rr hf ?_
  have ZI:KG (qw ((b.bB D).bB C) t {t with aZ:=N} (waits t)):=by
   have cl:=hg.clock;refine⟨ht,⟨ht.id,ht.bq,ht.aU,DO,ht.pending,ht.cL,ht.bt,ht.code,ht.au,?_,?_⟩,Pa,Pa,hf,hf,?_,ck.cL,cl⟩
   ·show oc (b.aw+1);unfold oc;omega
   ·show oc b.clock;unfold oc;omega
   ·show 0<=waits t/\waits t<=4;unfold Md.waits;split<;>decide
  have L2:((b.bB D).bB C).named ({t with aZ:=N}:cj).id=none:=hn;refine JY (p:=p) (waits:=decide (has t.au 2)) L2 (show b.ax.length<96 by omega) ZI (by unfold Md.waits;by_cases q:has t.au 2<;>simp[q]) (by omega) λy8 x3=>?_;apply ws;have:=hh y8 (((x1.trans x2).trans x3).mono (by omega));exact T.dp this
 obtain⟨cd,cdi,cds⟩:=G9 (yes:=has t.au 64) md;obtain⟨cc,cci,ccs⟩:=G9 (yes:=has t.au 128) mc;have TV:∀(D:bp)(r1 r2 r3 r4:Nat),D=close (more d true N (decide (has t.au 2))).1 (has t.au 64)->T W (Sep.pt r4 (nm N)::Sep.pt r3 (gQ D (more c false N (decide (has t.au 2))).1)::Sep.pt r2 (bU zK)::Sep.pt r1 (aX t)::L) (mI.j1 K r1 r3 (ai p) r4):=by
  intro D r1 r2 r3 r4 hD;unfold mI.j1;apply ws;rw[Pp hf.1 hf.2];have fin:=last D (close (more c false N (decide (has t.au 2))).1 (has t.au 128)) r1 r2 r3 r4 (by rw[hD];exact cd) cc (by rw[hD,cdi,mdi]) (by rw[cci,mci]) (by rw[hD,cds,mds]) (by rw[ccs,mcs]) (by rw[hD];exact h);apply gO<;>intro q
  ·apply ws;rw[ab1 mc.au.1 mc.au.2];unfold close at fin;rw[aj q] at fin;exact fin
  ·unfold close at fin;rw[ah q] at fin;exact fin
 apply ws;rw[Ue hf.1 hf.2];apply gO<;>intro q
 ·apply ws;rw[ab1 md.au.1 md.au.2];exact TV _ _ _ _ _ (by unfold close;rw[aj q])
 ·exact TV _ _ _ _ _ (by unfold close;rw[ah q])
end
section
variable {m t:cj} {x1 x2 x3 x4 x5 x6 x7 x8 x9 Bn Bm Bl Bk Ej HM HL:Value} {n:Nat} {i:Int}
instance:Wr (aX m) 2 (nm n) (aX {m with bq:=n}):=⟨rfl,by show 4<=16;decide,jL n⟩
instance:Wr (aX m) 4 (nm n) (aX {m with aU:=n}):=⟨rfl,by show 6<=16;decide,jL n⟩
end
section
variable {W:World} {L R:LH} {K:VK} {X:WK} {p:Nat} {b:aO} {hs:List C} {f:aO×List C->LH} {t q:cj} {d c:bp} {n:Nat} {fate:Int} {k:bS}
def RH(h:T W L (K (.b (decide (¬gT t q))))):T W L (eJ (aX t) (aX q) K):=by
 unfold eJ;have j3:∀(r1 r2:Nat)(x:Bool),((x=true/\(t.code=0\/t.code=q.code))↔ ¬gT t q)->T W (Sep.pt r2 (aX q)::Sep.pt r1 (aX t)::L) (eJ.j3 K r1 r2 x):=by
  intro r1 r2 x hx;unfold eJ.j3;apply dz<;>intro g
  ·repeat' first|apply ws|apply wb|apply dz<;>intro h1
   ·have h1:t.code=0:=by simpa using h1
    rw[aA (hx.1 ⟨g,.inl h1⟩)] at h;exact T.dp h
   ·have h1: ¬t.code=0:=by simpa using h1
    apply T.fin (T.dp h)
    congr 1
    rw[ec];simp only[beq_iff_eq,decide_eq_true_eq];rw[<-hx]
    constructor
    ·exact λe=>⟨g,.inr e⟩
    ·rintro⟨_,e|e⟩
     ·exact aR e h1
     ·exact e
  ·rw[ay (λhh=>by rw[(hx.2 hh).1] at g;cases g)] at h;exact T.dp h
 have j2:∀(r1 r2:Nat)(x:Bool),((x=true/\(t.bt=0\/t.bt=q.bt)/\(t.code=0\/t.code=q.code))↔ ¬gT t q)->T W (Sep.pt r2 (aX q)::Sep.pt r1 (aX t)::L) (eJ.j2 K r1 r2 x):=by
  intro r1 r2 x hx;unfold eJ.j2;apply dz<;>intro g
  ·repeat' first|apply ws|apply wb|with_reducible apply dz<;>intro h1
   ·have h1:t.bt=0:=by simpa using h1
    exact j3 _ _ _ (by rw[<-hx];simp[g,h1])
   ·have h1: ¬t.bt=0:=by simpa using h1
    exact j3 _ _ _ (by rw[<-hx];simp[g,h1])
  ·exact j3 _ _ _ (by rw[<-hx];simp[g])
 have j1:∀(r1 r2:Nat)(x:Bool),((x=true/\(t.aU=0\/t.aU=q.aU)/\(t.bt=0\/t.bt=q.bt)/\(t.code=0\/t.code=q.code))↔ ¬gT t q)->T W (Sep.pt r2 (aX q)::Sep.pt r1 (aX t)::L) (eJ.j1 K r1 r2 x):=by
  intro r1 r2 x hx;unfold eJ.j1;apply dz<;>intro g
  ·repeat' first|apply ws|apply wb|with_reducible first|refine rX ?_|apply dz<;>intro h1
   ·have h1:=bG h1;exact j2 _ _ _ (by rw[<-hx];simp[g,h1])
   ·have h1:=cD h1;exact j2 _ _ _ (by rw[<-hx];simp[g,h1])
  ·exact j2 _ _ _ (by rw[<-hx];simp[g])
 have ET:((t.bq=0\/t.bq=q.bq)/\(t.aU=0\/t.aU=q.aU)/\(t.bt=0\/t.bt=q.bt)/\(t.code=0\/t.code=q.code))↔ ¬gT t q:=by unfold gT;omega
 repeat' first|apply ws;intros|apply wb|with_reducible first|refine rX ?_|apply dz<;>intro h1
 ·have h1:=bG h1;exact j1 _ _ _ (by rw[<-ET];simp[h1])
 ·have h1:=cD h1;exact j1 _ _ _ (by rw[<-ET];simp[h1])
def kK(pend:Option bS)(t:cj):Int:=match pend with
 |none=>23
 |some k=>if ¬has k.move.au 2 then 24 else if gT t k.move then 25 else if 1<k.fate then 25+k.fate else 0
def Sb(G:nX W)[i:Lc (bX p) L (b,hs) f](h0:∀m,kK (b.named t.pending) t≠0->T W L (K (.tuple ⟨[.agg ⟨aX m⟩,.i (kK (b.named t.pending) t)]⟩)))
 (h:∀k,b.named t.pending=some k->kK (b.named t.pending) t=0->T W L (K (.tuple ⟨[.agg ⟨aX k.move⟩,.i 0]⟩))):T W L (wq (ai p) (aX t) K):=by
 refine nG (p:=p) λhg=>?_;unfold wq
 repeat' first|apply ws;intros|apply wb|refine Fp ?_
 cases hn:b.named t.pending with
 |none=>
  rw[hn] at h0;simp only[dj,eV];have:=h0 zT (by show(23:Int)≠0;decide);apply ws;exact T.dp this
 |some k=>
  rw[hn] at h0 h;obtain⟨kg,_⟩:=sF hg hn;simp only[cB,dk]
  repeat' first|apply ws|apply wb|refine rr kg.Gs ?_
  by_cases g1:has k.move.au 2
  ·rw[aA g1]
   repeat' first|apply ws|apply wb|refine RH ?_
   by_cases g2:gT t k.move
   ·have e:kK (some k) t=25:=by unfold kK;dsimp only;rw[ah (λh=>h g1),aj g2]
    rw[e] at h0;have:=h0 zT (by decide);rw[ay (λh=>h g2)];apply ws;exact T.dp this
   ·rw[aA g2];obtain⟨f1,f2⟩:=kg.fate;have e:kK (some k) t=if 1<k.fate then 25+k.fate else 0:=by unfold kK;dsimp only;rw[ah (λh=>h g1),ah g2]
    obtain⟨fn,T'⟩:∃fn:Nat,k.fate=fn:=⟨k.fate.toNat,by omega⟩;have WV:fn<5:=by omega
    have QJ:([.i 0,.i 0,.i 27,.i 28,.i 29]:LV)[fn]?=some (.i (if 1<k.fate then 25+k.fate else 0)):=by
     rw[T']
     match fn,WV with
     |0,_=>rfl
     |1,_=>rfl
     |2,_=>rfl
     |3,_=>rfl
     |4,_=>rfl
    apply ws;refine dv ⟨f1,by omega⟩ ?_;have hnt:k.fate.toNat* 1=fn:=by omega
    rw[hnt];have wT:=G.told fn _ QJ;refine λw gJ=>⟨_,by rw[gJ.old (Ba wT)];exact wT,?_⟩;refine T.at ?_ gJ;apply ws;refine λw gJ=>⟨λj v hj=>?_,?_⟩
    ·match j,hj with
     |0,hj=>
      simp at hj;subst hj;have Fy:=wT;rw[dh,az] at Fy;rw[dh,iL,gJ.old (Ba Fy)];exact Fy
    refine T.at ?_ gJ;apply ws;rw[<-e];by_cases g3:kK (some k) t=0
    ·rw[g3];have:=h k rfl g3;exact T.dp this
    ·have:=h0 k.move g3;exact T.dp this
  ·have e:kK (some k) t=24:=by unfold kK;dsimp only;rw[aj g1]
   rw[e] at h0;have:=h0 zT (by decide);rw[ay g1];apply ws;exact T.dp this
def Z4{f:Int}(h0:0<=f)(h1:f<256):(ch .i64 .and f 8!=0)=decide (has f 8):=by
 rw[ec];simp only[mz,ne_eq,decide_eq_true_eq];rw[P6 h0 h1,bh]
def Mb(hf:0<=t.au/\t.au<256)(Xb:has t.au 8↔ ¬has t.au 4)(h0:ot t q->T W L (K (.tuple ⟨[.agg ⟨nm 0⟩,.i 26]⟩)))
 (h: ¬ot t q->T W L (K (.tuple ⟨[.agg ⟨nm (eO t q)⟩,.i 0]⟩))):T W L (lG (aX t) (aX q) K):=by
 unfold lG
 repeat' first|apply ws;intros|apply wb|refine rX ?_
 apply gO<;>intro g1
 ·have e:eO t q=q.aZ:=aj g1;have hb: ¬ot t q:=by unfold ot;rw[e];omega
  have:=h hb;rw[e] at this;apply ws;exact T.dp this
 have e:eO t q=t.aZ:=ah g1;unfold lG.j1;apply ws;rw[Z4 hf.1 hf.2];apply gO<;>intro g2
 ·apply ws;by_cases g3:t.aZ=q.aZ
  ·have hb: ¬ot t q:=by
    unfold ot;rw[e];have:=Xb.1 g2;rintro(⟨h4,_⟩|⟨_,h4⟩)
    ·exact this h4
    ·exact h4 g3
   have:=h hb;rw[e] at this;rw[aA g3]
   repeat' first|apply ws|apply wb|refine zW ?_
   refine cW (by simp;omega) ?_;apply ws;exact T.dp this
  ·have hb:ot t q:=.inr ⟨Xb.1 g2,by rw[e];exact g3⟩;have:=h0 hb;rw[ay g3];apply ws;exact T.dp this
 ·have g4:has t.au 4:=bh.1 λhh=>g2 (Xb.2 hh)
  repeat' first|apply ws|apply wb|refine zW ?_
  apply gO<;>intro g3
  ·have:=h0 (.inl ⟨g4,by rw[e];exact g3⟩);apply ws;exact T.dp this
  ·have:=h (by
    rintro(⟨_,h4⟩|⟨h4,_⟩)
    ·rw[e] at h4;exact g3 h4
    ·exact h4 g4)
   rw[e] at this;apply ws;exact T.dp this
def W5{f:Int}(h0:0<=f)(h1:f<256):(ch .i64 .and f 64==0)=decide (¬has f 64):=by
 rw[ec];simp only[beq_iff_eq,decide_eq_true_eq];rw[P7 h0 h1]
def Sg{f:Int}(h0:0<=f)(h1:f<256):(ch .i64 .and f 128==0)=decide (¬has f 128):=by
 rw[ec];simp only[beq_iff_eq,decide_eq_true_eq];rw[KL h0 h1]
def Ma[i:Lc (bX p) L (b,hs) f](hq:0<=q.au/\q.au<256)(hd:b.find q.bq=some d)(hc:b.find q.aU=some c)
 (h:T W L (K (.i (if 8<=d.au/\ ¬has q.au 64 then 30 else if 8<=c.au/\ ¬has q.au 128 then 31 else 0)))):T W L (kx (ai p) (aX q) K):=by
 refine nG (p:=p) λhg=>?_;have fd:=(hg.P' d (jW hd)).au;have fc:=(hg.P' c (jW hc)).au;unfold kx
 repeat' first|apply ws;intros|apply wb|refine tP ?_
 rw[hd,hc];simp only[cB,dk];rename_i r1 r2 r3;have j1:∀x:Bool,(x=true↔(8<=d.au/\ ¬has q.au 64))->T W (Sep.pt r3 (aP c)::Sep.pt r2 (aP d)::Sep.pt r1 (aX q)::L) (kx.j1 K r3 r1 x):=by
  intro x hx;unfold kx.j1;apply dz<;>intro g
  ·rw[aj (hx.1 g)] at h;exact T.dp h
  rw[ah (λhh=>by rw[hx.2 hh] at g;cases g)] at h;apply ws;rw[Sf fc.1 fc.2];apply gO<;>intro g1
  ·apply ws;rw[Sg hq.1 hq.2];apply gO<;>intro g2
   ·rw[aj ⟨g1,g2⟩] at h;exact T.dp h
   ·rw[ah (λhh=>g2 hh.2)] at h;exact T.dp h
  ·rw[ah (λhh=>g1 hh.1)] at h;exact T.dp h
 rw[Sf fd.1 fd.2];apply gO<;>intro g1
 ·apply ws;rw[W5 hq.1 hq.2];exact j1 _ (by simp[g1])
 ·exact j1 _ (by simp[g1])
end
section
variable {b:aO} {t q:cj} {d c:bp} {n:Nat} {fate:Int}
def Rr(hd:AG d)(hn:fate=2->d.dq+n<bV):AG (xe d q n fate):=by
 obtain⟨⟨i1,i2,i3,i4,i5,i6,i7,i8,i9⟩,i10,i11,i12⟩:=hd;have hf:0<=d.au%8/\d.au%8<16:=by omega
 unfold xe open_;split
 ·exact⟨⟨i1,by show d.dp-q.aZ<bV;omega,by show d.dq+n<bV;exact hn (by assumption),i4,i5,i6,i7,i8,i9⟩,i10,i11,i12⟩
 ·split
  ·exact⟨⟨i1,by show d.dp-q.aZ<bV;omega,i3,i4,i5,i6,i7,by show oc (d.au%8);unfold oc;omega,i9⟩,⟨i10.1,i10.2.1,by show 0<=d.au%8/\d.au%8<=65535;omega⟩,hf,i12⟩
  ·exact⟨⟨i1,by show d.dp-q.aZ<bV;omega,i3,i4,i5,i6,i7,i8,i9⟩,i10,i11,i12⟩
def Rs(hd:AG d)(hn:fate=2->d.cq+n<bV):AG (yl d q n fate):=by
 obtain⟨⟨i1,i2,i3,i4,i5,i6,i7,i8,i9⟩,i10,i11,i12⟩:=hd;have hf:0<=d.au%8/\d.au%8<16:=by omega
 unfold yl open_;split
 ·exact⟨⟨i1,i2,i3,by show d.cp-q.aZ<bV;omega,by show d.cq+n<bV;exact hn (by assumption),i6,i7,i8,i9⟩,i10,i11,i12⟩
 ·split
  ·exact⟨⟨i1,i2,i3,by show d.cp-q.aZ<bV;omega,i5,i6,i7,by show oc (d.au%8);unfold oc;omega,i9⟩,⟨i10.1,i10.2.1,by show 0<=d.au%8/\d.au%8<=65535;omega⟩,hf,i12⟩
  ·exact⟨⟨i1,i2,i3,by show d.cp-q.aZ<bV;omega,i5,i6,i7,i8,i9⟩,i10,i11,i12⟩
end
section
variable {W:World} {L R:LH} {K:VK} {X:WK} {p:Nat} {b:aO} {hs:List C} {f:aO×List C->LH} {t q:cj} {d c:bp} {n:Nat} {fate:Int} {k:bS}
def Dy[i:Lc (bX p) L (b,hs) f](hk:b.named q.id=some k)(R9:k.fate=1)(hq:0<=q.au/\q.au<256)(hqa:q.aZ<bV)(DO:n<bV)(hd:b.find q.bq=some d)(hc:b.find q.aU=some c)(hZ:q.bq≠q.aU)(hf:fate=2\/fate=3\/fate=4)
 (Nl:fate=2->d.dq+n<bV)(sh:fate=2->c.cq+n<bV)(hl:hs.length<800000)
 (h:∀dM,Ext (dT b) hs (dT (b.release q n fate)) dM 4->T W (f (b.release q n fate,dM)) (K (.tuple ⟨[]⟩))):T W L (cZ (ai p) (aX q) (nm n) fate K):=by
 refine nG (p:=p) λhg=>?_;obtain⟨gd,HJ⟩:=tF hg hd;obtain⟨gc,EV⟩:=tF hg hc;have er:b.release q n fate=((b.bB (xe d q n fate)).bB (yl c q n fate)).fate q.id fate:=by unfold aO.release;rw[hd,hc]
 rw[er] at h;have last:∀(D E:bp)(r1 r2 r3 r4:Nat),D=xe d q n fate->E=yl c q n fate->T W (Sep.pt r4 (aP E)::Sep.pt r3 (aP D)::Sep.pt r2 (nm n)::Sep.pt r1 (aX q)::L) (cZ.j1 K r3 (ai p) r4 r1 fate):=by
  intro D E r1 r2 r3 r4 hD hE;have hDi:D.id=d.id:=by rw[hD];exact(EB _ _ _ _).1
  have hEi:E.id=c.id:=by rw[hE];exact(EC _ _ _ _).1
  have gD:AG {D with aw:=d.aw}:=by
   have:=Rr (q:=q) (n:=n) (fate:=fate) gd Nl;rw[<-hD] at this;have es:D.aw=d.aw:=by rw[hD];exact(EB _ _ _ _).2
   have e2:({D with aw:=d.aw}:bp)=D:=by rw[<-es]
   rw[e2];exact this
  have gE:AG {E with aw:=c.aw}:=by
   have:=Rs (q:=q) (n:=n) (fate:=fate) gc sh;rw[<-hE] at this;have es:E.aw=c.aw:=by rw[hE];exact(EC _ _ _ _).2
   have e2:({E with aw:=c.aw}:bp)=E:=by rw[<-es]
   rw[e2];exact this
  rw[<-hD,<-hE] at h;unfold cZ.j1;apply ws;refine Ff (p:=p) (by rw[hDi,HJ];exact hd) gD (by omega) λxC x1=>?_;have l1:=x1.len;have i1:=i.next (b.bB D,xC);apply ws;refine Ff (p:=p) (old:=c) (Dm (by rw[hEi,EV];exact hc) (by rw[hDi,hEi,HJ,EV];exact hZ)) gE (by omega) λgJ x2=>?_;have l2:=x2.len;have i2:=i.next ((b.bB D).bB E,gJ);apply ws;refine VV (p:=p) (k:=k) (show((b.bB D).bB E).named q.id=some k from hk) R9 hf (by omega) λy8 x3=>?_;apply ws;have:=h y8 (((x1.trans x2).trans x3).mono (by omega));exact T.dp this
 have YV:∀x y:Nat,(if x<y then 0 else x-y)=x-y:=λx y=>by split<;>omega
 unfold cZ
 repeat' first|apply ws;intros|apply wb|refine tP ?_
 rw[hd,hc];simp only[cB,dk]
 repeat' first|apply ws|apply wb|first|refine KR gd.ok.dp hqa ?_|refine KR gc.ok.cp hqa ?_
 rw[YV,YV];apply dz<;>intro g1
 ·have g1:fate=2:=by simpa using g1
  repeat' first|apply ws|apply wb|first|refine vV gd.ok.dq DO ?_|refine vV gc.ok.cq DO ?_
  rw[aj (Nl g1),aj (sh g1)];refine last _ _ _ _ _ _ ?_ ?_
  ·unfold xe;rw[aj g1]
  ·unfold yl;rw[aj g1]
 ·have g1: ¬fate=2:=by simpa using g1
  have j2:∀(D:bp)(r1 r2 r3 r4:Nat),D=xe d q n fate->T W (Sep.pt r4 (aP {c with cp:=c.cp-q.aZ})::Sep.pt r3 (aP D)::Sep.pt r2 (nm n)::Sep.pt r1 (aX q)::L) (cZ.j2 K r1 r4 r3 (ai p) fate):=by
   intro D r1 r2 r3 r4 hD;unfold cZ.j2;apply ws;rw[Pp hq.1 hq.2];apply gO<;>intro g2
   ·apply ws;rw[U' gc.au.1 gc.au.2];apply last _ _ _ _ _ _ hD;unfold yl open_;rw[ah g1,aj g2]
   ·apply last _ _ _ _ _ _ hD;unfold yl open_;rw[ah g1,ah g2]
  apply ws;rw[Ue hq.1 hq.2];apply gO<;>intro g2
  ·apply ws;rw[U' gd.au.1 gd.au.2];apply j2 _ _ _ _ _;unfold xe open_;rw[ah g1,aj g2]
  ·apply j2 _ _ _ _ _;unfold xe open_;rw[ah g1,ah g2]
structure Hs(b:aO)(k:bS):Prop where
 bq:∃d,b.find k.move.bq=some d/\k.move.aZ<=d.dp/\d.dp+d.dq<bV
 aU:∃c,b.find k.move.aU=some c/\k.move.aZ<=c.cp/\c.cp+c.cq<bV
 ne:k.move.bq≠k.move.aU
def IT{id:Nat}(hn:b.named id=none){id':Nat}:(b.fate id' fate).named id=none:=by
 unfold aO.named at *;rw[sX] at *;intro x hx;obtain⟨y,hy,rfl⟩:=dK.1 hx;have:=hn y hy;split<;>exact this
def C2{id:Nat}(hn:b.named id=none):(b.release q n fate).named id=none:=by
 unfold aO.release;split
 ·exact IT hn
 ·exact hn
def WY(G:nX W)(ht:Bf t)(Pa:jR t)(qK:pC t=0)(sx:lM t.au)(hw:∀k∈b.ax,has k.move.au 2->k.fate<=1->k.fate=1/\Hs b k)(hl:hs.length<800000)[i:Lc (bX p) L (b,hs) f]
 (h:∀dM,Ext (dT b) hs (dT (b.qZ t).2) dM 8->T W (f ((b.qZ t).2,dM)) (K (.i (b.qZ t).1))):T W L (pa (ai p) (aX t) K):=by
 have hL:f (b,hs)=L:=i.same;refine nG (p:=p) λhg=>?_;have ck:=zO qK;have hf:0<=t.au/\t.au<256:=by have:=ck.au;omega
 have bad:∀r:Int,r≠0->(b.qZ t)=(r,b)->T W L (K (.i r)):=by
  intro r hr e;rw[e] at h;have:=h hs (Ext.refl _ _ _);rw[hL] at this;exact this
 unfold pa
 repeat' first|apply ws;intros|apply wb|refine Fp ?_
 cases hn:b.named t.id with
 |some k=>
  obtain⟨hk,_⟩:=sF hg hn;simp only[cB,dk]
  repeat' first|apply ws|apply wb|refine FW hf hk.Jl ?_
  have:=bad (rW t k.asked) (tN _ _) (by
   unfold aO.qZ
   have e1:∀(pend:Option bS)(x y:Bool)(m:Nat),nV t (some k) pend x y m=rW t k.asked:=by
    intro pend x y m;unfold nV;rw[ah (by simpa using qK),ah (by simpa using sx)]
   rw[hn]
   cases b.named t.pending with
   |none=>dsimp only;rw[e1]
   |some k2=>dsimp only;rw[e1,aj (tN _ _)])
  exact T.dp this
 |none=>
 simp only[dj,eV];apply ws;have Kv:∀(k2:bS),b.named t.pending=some k2->∀(x y:Bool)(m:Nat),nV t none (some k2) x y m=(if kK (some k2) t≠0 then kK (some k2) t else if ot t k2.move then 26 else if has t.au 4/\x=true then 30 else if has t.au 4/\y=true then 31 else if 96<=m then 35 else 0):=by
  intro k2 _ x y m;unfold nV;rw[ah (by simpa using qK),ah (by simpa using sx)];dsimp only;by_cases g1: ¬has k2.move.au 2
  ·have hv:kK (some k2) t=24:=by unfold kK;dsimp only;rw[aj g1]
   rw[hv,aj g1,aj (by decide)]
  by_cases g2:gT t k2.move
  ·have hv:kK (some k2) t=25:=by unfold kK;dsimp only;rw[ah g1,aj g2]
   rw[hv,ah g1,aj g2,aj (by decide)]
  by_cases g3:1<k2.fate
  ·have hv:kK (some k2) t=25+k2.fate:=by unfold kK;dsimp only;rw[ah g1,ah g2,aj g3]
   rw[hv,ah g1,ah g2,aj g3,aj (by omega)]
  ·have hv:kK (some k2) t=0:=by unfold kK;dsimp only;rw[ah g1,ah g2,ah g3]
   rw[hv,ah g1,ah g2,ah g3,ah (show ¬((0:Int)≠0) by decide)]
 refine Sb G (λm hZ=>?_) (λk2 wI he=>?_)
 ·apply ws;intros;apply hG (by simpa using hZ);have:=bad _ hZ (by
   unfold aO.qZ
   rw[hn]
   cases hp:b.named t.pending with
   |none=>
    dsimp only
    have:nV t none none false false b.ax.length=23:=by unfold nV;rw[ah (by simpa using qK),ah (by simpa using sx)]
    rw[this];rfl
   |some k2=>
    rw[hp] at hZ
    dsimp only
    rw[Kv k2 hp,aj hZ,aj hZ])
  exact T.dp this
 apply ws;intros;rw[wI] at he;obtain⟨kg,adt⟩:=sF hg wI;have T8:k2∈b.ax:=jW wI;have h2p:has k2.move.au 2/\k2.fate<=1:=by
  unfold kK at he;dsimp only at he;by_cases g1: ¬has k2.move.au 2
  ·rw[aj g1] at he;cases he
  rw[ah g1] at he;by_cases g2:gT t k2.move
  ·rw[aj g2] at he;cases he
  rw[ah g2] at he;by_cases g3:1<k2.fate
  ·rw[aj g3] at he;omega
  exact⟨bh.1 g1,by omega⟩
 obtain⟨hf1,⟨⟨d,hd,hda,hds⟩,⟨c,hc,hca,QR⟩,hZ⟩⟩:=hw k2 T8 h2p.1 h2p.2;have e0:∀r:Int,r=(if ot t k2.move then 26 else if has t.au 4/\b.jA k2.move.bq (has k2.move.au 64)=true then 30 else if has t.au 4/\b.jA k2.move.aU (has k2.move.au 128)=true then 31 else if 96<=b.ax.length then 35 else 0)->
  b.qZ t=(if r≠0 then(r,b) else(0,(b.release k2.move (eO t k2.move) (di t)).pQ t (mK t k2.move) 0)):=by
  intro r hr;subst hr;unfold aO.qZ;rw[wI,hn];dsimp only;rw[Kv k2 wI,he,ah (show ¬((0:Int)≠0) by decide)]
 have Xb:has t.au 8↔ ¬has t.au 4:=(Ha qK sx).2.1;apply cW (by simp);apply ws;refine Mb hf Xb (λhb=>?_) (λhb=>?_)
 ·apply ws;intros;have:=bad 26 (by decide) (by rw[e0 26 (by rw[aj hb])];rfl);exact T.dp this
 have hN:eO t k2.move<bV:=by unfold eO;split;exact kg.move.aZ;exact ht.aZ
 have Z9:has t.au 4->eO t k2.move<=k2.move.aZ:=λh4=>by
  unfold ot at hb;by_cases hx:k2.move.aZ<eO t k2.move
  ·exact aR (.inl ⟨h4,hx⟩) hb
  ·omega
 have uy:=hg.aw;have oK:=hg.oK;have many:=hg.many;have cl:=hg.clock;have fin:∀(r1 r2 r3 r4:Nat)(fate:Int),fate=di t->(if 96<=b.ax.length then b.qZ t=(35,b) else b.qZ t=(0,(b.release k2.move (eO t k2.move) (di t)).pQ t (mK t k2.move) 0))->
  T W (Sep.pt r4 (nm (eO t k2.move))::Sep.pt r3 (aX k2.move)::Sep.pt r2 (bU zK)::Sep.pt r1 (aX t)::L) (pa.j1 K (ai p) r3 r4 r1 fate):=by
  intro r1 r2 r3 r4 fate hfa C7;unfold pa.j1
  repeat' first|apply ws|apply wb|refine Qm ?_
  by_cases g3:96<=b.ax.length
  ·rw[aj g3] at C7;rw[ay (by omega)];apply ws;have:=bad 35 (by decide) C7;exact T.dp this
  rw[ah g3] at C7;rw[aA (by omega)];rw[C7,<-hfa] at h;apply ws;have hf3:fate=2\/fate=3\/fate=4:=by rw[hfa];unfold di;split<;>simp
  have h24:fate=2->has t.au 4:=λe=>by
   rw[hfa] at e;unfold di at e;split at e
   ·assumption
   ·cases e
  refine Dy (p:=p) (k:=k2) (d:=d) (c:=c) (by rw[adt];exact wI) hf1 kg.Gs kg.move.aZ hN hd hc hZ hf3 (λe=>by have:=Z9 (h24 e);omega) (λe=>by have:=Z9 (h24 e);omega) hl λxC x1=>?_;have l1:=x1.len;have i1:=i.next (b.release k2.move (eO t k2.move) fate,xC);apply ws;intros;have hrk:(b.release k2.move (eO t k2.move) fate).ax.length=b.ax.length:=by unfold aO.release;rw[hd,hc];show(List.map _ _).length=_;rw[cu];rfl
  have hrs:(b.release k2.move (eO t k2.move) fate).aw=b.aw:=by unfold aO.release;rw[hd,hc];rfl
  have hrc:(b.release k2.move (eO t k2.move) fate).clock=b.clock:=by unfold aO.release;rw[hd,hc];rfl
  have ZI:KG (qw (b.release k2.move (eO t k2.move) fate) t (mK t k2.move) 0):=by
   have kt:=kg.J';have agr:=Pa;refine⟨ht,⟨ht.id,kg.move.bq,kg.move.aU,hN,ht.pending,ht.cL,kg.move.bt,kg.move.code,ht.au,?_,?_⟩,Pa,⟨Pa.1,kt.2.1,kt.2.2.1,Pa.2.2.2⟩,hf,hf,by show(0:Int)<=0/\(0:Int)<=4;decide,ck.cL,?_⟩
   ·show oc (aO.aw _+1);rw[hrs];unfold oc;omega
   ·show oc (aO.clock _);rw[hrc];unfold oc;omega
   ·show 0<=aO.clock _/\aO.clock _<=_;rw[hrc];exact cl
  refine JY (p:=p) (t:=mK t k2.move) (waits:=false) (fate:=0) (C2 hn) (by rw[hrk];omega) ZI rfl (by omega) λgJ x2=>?_;apply ws;have:=h gJ ((x1.trans x2).mono (by omega));exact T.dp this
 apply ws;intros;apply cW (by decide);apply ws;rw[adF hf.1 hf.2];apply gO<;>intro g4
 ·apply ws;apply Ma (p:=p) kg.Gs hd hc;have c1:(b.jA k2.move.bq (has k2.move.au 64)=true)↔(8<=d.au/\ ¬has k2.move.au 64):=by unfold aO.jA;rw[hd];simp
  have c2:(b.jA k2.move.aU (has k2.move.au 128)=true)↔(8<=c.au/\ ¬has k2.move.au 128):=by unfold aO.jA;rw[hc];simp
  by_cases g5:8<=d.au/\ ¬has k2.move.au 64
  ·rw[aj g5];apply ws;apply hG (by decide);have:=bad 30 (by decide) (by rw[e0 30 (by rw[ah hb,aj ⟨g4,c1.2 g5⟩])];rfl);exact T.dp this
  rw[ah g5];by_cases g6:8<=c.au/\ ¬has k2.move.au 128
  ·rw[aj g6];apply ws;apply hG (by decide);have:=bad 31 (by decide) (by rw[e0 31 (by rw[ah hb,ah (λhh=>g5 (c1.1 hh.2)),aj ⟨g4,c2.2 g6⟩])];rfl);exact T.dp this
  rw[ah g6];apply ws;apply cW (by decide);refine fin _ _ _ _ _ (by unfold di;rw[aj g4]) ?_;by_cases g7:96<=b.ax.length
  ·rw[aj g7,e0 35 (by rw[ah hb,ah (λhh=>g5 (c1.1 hh.2)),ah (λhh=>g6 (c2.1 hh.2)),aj g7])];rfl
  ·rw[ah g7,e0 0 (by rw[ah hb,ah (λhh=>g5 (c1.1 hh.2)),ah (λhh=>g6 (c2.1 hh.2)),ah g7])];rfl
 ·refine fin _ _ _ _ _ (by unfold di;rw[ah g4]) ?_;by_cases g7:96<=b.ax.length
  ·rw[aj g7,e0 35 (by rw[ah hb,ah (λhh=>g4 hh.1),ah (λhh=>g4 hh.1),aj g7])];rfl
  ·rw[ah g7,e0 0 (by rw[ah hb,ah (λhh=>g4 hh.1),ah (λhh=>g4 hh.1),ah g7])];rfl
def Z'(G:nX W)(ht:Bf t)(Pa:jR t)(hw:∀k∈b.ax,has k.move.au 2->k.fate<=1->k.fate=1/\Hs b k)(hl:hs.length<800000)[i:Lc (bX p) L (b,hs) f]
 (h:∀dM,Ext (dT b) hs (dT (b.qC t).2) dM 8->T W (f ((b.qC t).2,dM)) (K (.i (b.qC t).1))):T W L (kS (ai p) (aX t) K):=by
 unfold kS
 repeat' first|apply ws;intros|apply wb|refine FV G ht ?_
 unfold kS.j1;apply dz<;>intro g1
 ·have g1:pC t≠0:=by simpa using g1
  have e:b.qC t=b.move t:=by unfold aO.qC;rw[ah (λhh=>g1 hh.1)]
  rw[e] at h;apply ws;refine TU G ht Pa hl λdM hx=>?_;apply ws;have:=h dM (hx.mono (by omega));exact T.dp this
 have g1:pC t=0:=by simpa using g1
 have ck:=zO g1
 repeat' first|apply ws|apply wb|refine Fw (show 0<=t.au/\t.au<256 by have:=ck.au;omega) ?_
 by_cases g2:lM t.au
 ·have e:b.qC t=b.qZ t:=by unfold aO.qC;rw[aj ⟨g1,g2⟩]
  rw[e] at h;rw[aA g2];apply ws;refine WY G ht Pa g1 g2 hw hl λdM hx=>?_;apply ws;have:=h dM hx;exact T.dp this
 ·have e:b.qC t=b.move t:=by unfold aO.qC;rw[ah (λhh=>g2 hh.2)]
  rw[e] at h;rw[ay g2];apply ws;refine TU G ht Pa hl λdM hx=>?_;apply ws;have:=h dM (hx.mono (by omega));exact T.dp this
end
section
variable {W:World} {L R:LH} {K:VK} {X:WK} {p:Nat} {b:aO} {hs:List C} {f:aO×List C->LH}
def zI:Item:=⟨0,0,0⟩
instance{x1 x2 x3 x4:Value}:Wr [x1,x2,x3,x4] 0 [.i 0,.i 0,.u 0,.u 0] (eW zI):=⟨rfl,aC _,nw zI⟩
instance{x:Item}:Sub (eW x) 2 2 (nm x.id):=⟨rfl,λj v h=>by
 match j with
 |0=>exact h
 |1=>exact h
 |j+2=>simp[nm] at h⟩
def OD{r o:Nat}{cs:LV}{bb:OA}{c:Nat}{h:List Item}(hv:cs[o]?=some (.l bb h.length c))(hl:h.length<10000)
 (hx:∀x,h[0]?=some x->T W (Sep.pt r cs::own bb h.length c 4 (h.flatMap eW)::R) (K (.tuple ⟨[.agg ⟨eW x⟩,.b true]⟩)))
 (h0:h=[]->T W (Sep.pt r cs::own bb h.length c 4 (h.flatMap eW)::R) (K (.tuple ⟨[.agg ⟨eW zI⟩,.b false]⟩))):
 T W (Sep.pt r cs::own bb h.length c 4 (h.flatMap eW)::R) (ku (some ⟨r,o,none⟩) K):=by
 unfold ku qH;refine jy λr1=>?_;apply vh;apply K2;apply ma hv;apply wE;apply oU;apply dz<;>intro g
 ·have g:h=[]:=by
   have:((h.length:Nat):Int)=0:=by simpa using g
   exact List.length_eq_zero_iff.1 (by omega)
  apply ws;have:=h0 g;exact T.dp this
 ·have g:0<h.length:=by
   have: ¬((h.length:Nat):Int)=0:=by simpa using g
   omega
  apply K2;apply ma hv;apply wE;have gx:=ao g;refine gu ⟨by omega,by omega⟩ λrb hb=>?_;subst hb;apply jH (o:=0) fM gx;apply ws;have:=hx _ gx;exact T.dp this
def MB{q:Core}{f:Core->LH}[i:Lc (fb p) L q f](hl:q.ends.length<10000)
 (h1:∀x,x∈q.ends->(∀y∈q.ends,¬bf y x)->T W L (K (.tuple ⟨[.agg ⟨eW x⟩,.b true]⟩)))(h0:q.ends=[]->T W L (K (.tuple ⟨[.agg ⟨eW zI⟩,.b false]⟩))):T W L (ku (some ⟨p,6,none⟩) K):=by
 have hL:f q=L:=i.same;rw[<-hL] at h0 h1;refine nH (p:=p) λb1 c1 b2 c2 b3 c3 hp R g1 g2 hc=>?_;apply T.Ik;refine OD rfl (by rw[g2.length_eq];exact hl) (λx hx=>?_) (λhn=>?_)
 ·apply T.BH;exact hc [] q b1 c1 b2 c2 b3 c3 hp _ g1 g2 (h1 x (g2.mem_iff.1 (iF hx)) λy hy=>g1.first hx y (g2.mem_iff.2 hy))
 ·apply T.BH;exact hc [] q b1 c1 b2 c2 b3 c3 hp _ g1 g2 (h0 (by subst hn;exact(List.nil_perm.1 g2)))
def tick(b:aO)(now:Int):aO:={b with clock:=if b.clock<now/\now<=1099511627776 then now else b.clock}
def Rh[i:Lc (bX p) L (b,hs) f]{now:Int}(hl:hs.length<900000)
 (h:∀dM,Ext (dT b) hs (dT (Go.Up.tick b now)) dM 1->T W (f (Go.Up.tick b now,dM)) (K (.tuple ⟨[]⟩))):T W L (c9 (ai p) now K):=by
 refine HA (p:=p) λla lk ti tn vs bx R hg hc nR=>?_;have Ko:vs.reverse.length<900000:=by rw[ga,hc.len];omega
 have hck:=hg.clock;have same: ¬(b.clock<now/\now<=1099511627776)->Go.Up.tick b now=b:=λhn=>by unfold Go.Up.tick;rw[ah hn]
 unfold c9;apply ws;intros;rename_i r1;apply gO<;>intro g
 ·have g:now<=b.clock:=g;have e:=same (by omega);rw[e] at h;have fin:=nR [] b hs vs bx _ hg hc (h hs (Ext.refl _ _ _));unfold c9.j1;apply ws;exact T.dp fin
 have g: ¬now<=b.clock:=g;unfold c9.j1;apply gO<;>intro g2
 ·have g2:now>1099511627776:=g2;have e:=same (by omega);rw[e] at h;have fin:=nR [] b hs vs bx _ hg hc (h hs (Ext.refl _ _ _));exact T.dp fin
 have g2: ¬now>1099511627776:=g2;have e:Go.Up.tick b now={b with clock:=now}:=by unfold Go.Up.tick;rw[aj ⟨by omega,by omega⟩]
 rw[e] at h;apply ws;intros;rename_i r2;apply HW (p:=p);apply ws;refine sV (p:=p) (by show vs.reverse.length<_;omega) rfl rfl ?_;apply ws;refine dg (dg ?_);have m9:eL {b with clock:=now}:={hg with clock:=by show 0<=now/\now<=_;omega};have fin:=λlg c1=>nR [] {b with clock:=now} _ (Ty r2 r1::vs) lg _ m9 c1 (h _ ⟨[dT b],rfl,rfl,by simp⟩);simp only[eK,uL] at fin;refine fin _ ⟨?_,hc.mono λx hx=>by simp[hx]⟩;exact AA.time (c:=dT {b with clock:=now}) (by repeat (first|exact cJ.head _|apply cJ.tail)) (by repeat (first|exact cJ.head _|apply cJ.tail))
def Ot[i:Lc (bX p) L (b,hs) f]
 (h1:∀k,k∈b.ax->lE b.clock k->T W L (K (.tuple ⟨[.agg ⟨bU k⟩,.b true]⟩)))
 (h0:(∀k∈b.ax,¬lE b.clock k)->T W L (K (.tuple ⟨[.agg ⟨bU zK⟩,.b false]⟩))):T W L (dB (ai p) K):=by
 have hL:f (b,hs)=L:=i.same;refine HA (p:=p) λla lk ti tn vs bx R hg hc nR=>?_;have many:=hg.many;unfold dB;apply ws;intros;refine MB (p:=p) (by have:=yQ b;show(b.ax.filterMap eo).length<_;omega) (λx hx wH=>?_) (λhn=>?_)
 ·obtain⟨k,hk,hkd⟩:=List.mem_filterMap.1 hx;obtain⟨e1,e2,e3,e4,e5⟩:=oL hkd;have hn:b.named x.id=some k:=by
   obtain⟨n,hn,rfl⟩:=List.getElem_of_mem hk;have:=wj (key:=λx:bS=>x.move.id) hg.names hn;rw[e2];exact(tE (key:=λx:bS=>x.move.id) this).2.2
  apply ws;intros;unfold dB.j1;apply gO<;>intro g
  ·have g:x.due<=b.clock:=g;have fin:=nR [] b hs vs bx _ hg hc (by rw[hL];exact h1 k hk ⟨e4,e5,by omega⟩);apply ws;apply Fq (b:=b) (q:=eK la lk ti tn vs (dT b)) many;rw[hn];simp only[cB,dk];apply ws;exact T.dp fin
  ·have g: ¬x.due<=b.clock:=g;have fin:=nR [] b hs vs bx _ hg hc (by
    rw[hL]
    refine h0 λk' Aj ho=>?_
    have Ua:eo k'=some ⟨k'.move.kQ+k'.move.cL,k'.move.aw,k'.move.id⟩:=by unfold eo;rw[aj ⟨ho.1,ho.2.1⟩]
    have:=wH _ (List.mem_filterMap.2 ⟨k',Aj,Ua⟩)
    have h3:=ho.2.2
    unfold bf at this
    dsimp only at this
    omega)
   apply ws;exact T.dp fin
 ·have fin:=nR [] b hs vs bx _ hg hc (by
   rw[hL]
   refine h0 λk' Aj ho=>?_
   have Ua:eo k'=some ⟨k'.move.kQ+k'.move.cL,k'.move.aw,k'.move.id⟩:=by unfold eo;rw[aj ⟨ho.1,ho.2.1⟩]
   have:_∈b.ax.filterMap eo:=List.mem_filterMap.2 ⟨k',Aj,Ua⟩
   rw[show b.ax.filterMap eo=[] from hn] at this
   cases this)
  apply ws;intros;unfold dB.j1;apply ws;exact T.dp fin
end
def D0{b:aO}{m:aK}(hs:mC b m)(hg:Md.cR m){id:Nat}(h:id∈m.eS.map (·.id)):∃a,a∈m.eS/\a.id=id/\b.find id=some (Md.full m.ax a):=by
 obtain⟨a,ha,rfl⟩:=dK.1 h;refine⟨a,ha,rfl,?_⟩;rw[hs.find];unfold aK.find;rw[oo hg.ids ha];rfl
def CE{b:aO}{m:aK}(hs:mC b m)(hg:Md.cR m){k:bS}(hk:k∈m.ax)(h1:k.fate=1):Hs b k:=by
 obtain⟨hZ,hd,hc⟩:=hg.wL k hk;obtain⟨d,HI,HJ,fd⟩:=D0 hs hg hd;obtain⟨c,Sd,EV,fc⟩:=D0 hs hg hc;have zd:=hg.zero d HI;have zc:=hg.zero c Sd;refine⟨⟨_,fd,?_,?_⟩,⟨_,fc,?_,?_⟩,hZ⟩
 ·have:=Qk (xD d.id) m.ax k hk;have e:xD d.id k=k.move.aZ:=aj ⟨h1,HJ.symm⟩;show k.move.aZ<=d.dp+S (xD d.id) m.ax;omega
 ·show d.dp+S (xD d.id) m.ax+(d.dq+S (zH d.id) m.ax)<bV;have:=hg.xn d HI;omega
 ·have:=Qk (xE c.id) m.ax k hk;have e:xE c.id k=k.move.aZ:=aj ⟨h1,EV.symm⟩;show k.move.aZ<=c.cp+S (xE c.id) m.ax;omega
 ·show c.cp+S (xE c.id) m.ax+(c.cq+S (zJ c.id) m.ax)<bV;have:=hg.uG c Sd;omega
def Tf{b:aO}{m:aK}(hs:mC b m)(hg:Md.cR m):∀k∈b.ax,has k.move.au 2->k.fate<=1->k.fate=1/\Hs b k:=λk hk h2 hf=>by
 rw[hs.ax] at hk;have:=hg.vL k hk;have h1:k.fate=1:=by have:=this.2.2.1 h2;omega
 exact⟨h1,CE hs hg hk h1⟩
def Px(c:Int)(k:bS):bS:=if lE c k then{k with fate:=4} else k
def BR(c:Int)(l:List bS):Nat:=(l.filter λk=>lE c k).length
def DD{c:Int}:∀{l:List bS} {i:Nat}(hi:i<l.length),lE c l[i]->BR c (l.set i {l[i] with fate:=4})+1=BR c l
 |x::l,0,hi,h=>by
  have h2: ¬lE c {x with fate:=4}:=λhh=>aR hh.1 (show ¬(4:Int)=1 by decide);have h:lE c x:=h;show((({x with fate:=4}:bS)::l).filter _).length+1=((x::l).filter _).length;rw[oB (by simpa using h2),oA (by simpa using h),bw]
 |x::l,i+1,hi,h=>by
  have:=DD (c:=c) (l:=l) (i:=i) (by simpa using hi) h;show((x::l.set i _).filter _).length+1=((x::l).filter _).length;by_cases hx:lE c x
  ·rw[oA (by simpa using hx),oA (by simpa using hx),bw,bw];exact congrArg (·+1) this
  ·rw[oB (by simpa using hx),oB (by simpa using hx)];exact this
structure X'(m m':aK):Prop where
 eS:m'.eS=m.eS
 aw:m'.aw=m.aw
 clock:m'.clock=m.clock
 ax:m'.ax.map (Px m.clock)=m.ax.map (Px m.clock)
def X'.refl(m:aK):X' m m:=⟨rfl,rfl,rfl,rfl⟩
def Lz{b:aO}{m0 m:aK}(hs:mC b m)(hg:Md.cR m)(hx:X' m0 m){k:bS}(hk:k∈b.ax)(ho:lE b.clock k):
 b.named k.move.id=some k/\Hs b k/\∃m',mC (b.release k.move 0 4) m'/\Md.cR m'/\X' m0 m'/\BR m0.clock m'.ax+1=BR m0.clock m.ax:=by
 rw[hs.ax] at hk;rw[hs.clock] at ho;obtain⟨i,hi,rfl⟩:=List.getElem_of_mem hk;have Yn:b.named m.ax[i].move.id=some m.ax[i]:=by
  have:=wj (key:=λx:bS=>x.move.id) hg.names hi;rw[hs.EL];exact(tE (key:=λx:bS=>x.move.id) this).2.2
 refine⟨Yn,CE hs hg hk ho.1,m.fA i 4,hs.release hg hi ho.1 (.inr rfl) 0,hg.fA hi ho.1 (.inr (.inr rfl)),⟨hx.eS,hx.aw,hx.clock,?_⟩,?_⟩
 ·rw[<-hx.ax];rw[hx.clock] at ho;exact(GW hi m0.clock).resolve_right (λhh=>hh ho)
 ·rw[hx.clock] at ho;rw[pL hi];exact DD hi ho
def LA{b:aO}{m0 m:aK}(hs:mC b m)(hx:X' m0 m)(h:∀k∈b.ax,¬lE b.clock k):m={m0 with ax:=m0.ax.map (Px m0.clock)}:=by
 have h2:m.ax.map (Px m0.clock)=m.ax:=GX (m:=m) (clock:=m0.clock) λk hk=>by
  have:=h k (by rw[hs.ax];exact hk);rwa[hs.clock,hx.clock] at this
 rw[<-hx.ax,h2];obtain⟨x1,x2,x3,x4⟩:=hx;cases m;cases m0
 simp only at x1 x2 x3;subst x1;subst x2;subst x3;rfl
def te(m:aK)(now:Int):aK:={m with clock:=if m.clock<now/\now<=1099511627776 then now else m.clock}
def Q3(m:aK)(now:Int):m.time now={te m now with ax:=(te m now).ax.map (Px (te m now).clock)}:=rfl
def MO{b:aO}{m:aK}(hs:mC b m)(now:Int):mC (Go.Up.tick b now) (te m now):=⟨hs.aB,hs.ax,by unfold Go.Up.tick te;simp only[hs.clock],hs.aw⟩
def Hw{m:aK}(hg:Md.cR m)(now:Int):Md.cR (te m now):=⟨hg.zero,hg.ids,hg.oK,hg.names,hg.vL,hg.wL,hg.some_,hg.xn,hg.uG,hg.sC⟩
def LY(n:Int):ch .i64 .and n 1=n%2:=by
 unfold ch;have e1:(BitVec.ofInt ag.bits n&&&BitVec.ofInt ag.bits 1).toNat=(BitVec.ofInt 64 n).toNat%2:=by
  rw[BitVec.toNat_and];show(BitVec.ofInt 64 n).toNat&&&1=_;exact Nat.and_one_is_mod _
 dsimp only;rw[e1];have e2:(((BitVec.ofInt 64 n).toNat%2:Nat):Int)=n%2:=by
  rw[BitVec.toNat_ofInt];omega
 rw[e2];exact aS (by omega)
def LX{n:Int}(h0:0<=n)(h1:n<=7):ch .i64 .andNot n 1=n/2* 2:=by
 have:n=0\/n=1\/n=2\/n=3\/n=4\/n=5\/n=6\/n=7:=by omega
 rcases this with rfl|rfl|rfl|rfl|rfl|rfl|rfl|rfl<;>rfl
section
variable {α:Type} {W:World} {R L:LH} {K:VK} {X:WK} {g:α->LV} {e:Nat} {s:OA} {l:List α}
def kF(W:World)(R:LH)(g:α->LV)(e:Nat)(s:OA)(l:List α):Prop:=
 ∀w,St W w R->∀i x,l[i]?=some x->∃a,s=some a/\uQ w (a.add (i* e)) (g x)
def iu{i:Int}{n:Nat}{K:Addr->WK}[hh:Has R L](hr:kF W R g e s l)(hi:0<=i/\i<l.length)(hn:n=l.length)(h:∀a,s=some a->T W L (K (a.add (i.toNat* e)))):T W L (gp s n i e K):=λw hs=>by
 obtain⟨a,ha,-⟩:=hr w (hh.sub hs) i.toNat _ (ao (by omega));exact⟨a,ha,⟨hi.1,by omega⟩,h a ha w hs⟩
def je{i:Nat}{x:α}{a:Addr}{K:LV->WK}[hh:Has R L](hr:kF W R g e s l)(hs:s=some a)(hx:l[i]?=some x)(hg:(g x).length=e)(h:T W L (K (g x))):T W L (aD (a.add (i* e)) e K):=λw hw=>by
 obtain⟨a',ha,hh⟩:=hr w (hh.sub hw) i x hx;rw[hs] at ha;cases ha
 exact⟨g x,hg,hh,h w hw⟩
def kF.drop{c i:Nat}(hr:kF W R g e s l)(hi:i<=l.length)(hc:l.length<=c):kF W R g e (rF s c i e) (l.drop i):=λw hw j x hx=>by
 rw[px] at hx;obtain⟨a,ha,hh⟩:=hr w hw (i+j) x hx;have bW:=(ar.1 hx).1;unfold rF;rw[ah (by omega),ha];refine⟨a.add (i* e),rfl,?_⟩;rw[add_add,<-lq];exact hh
def kF.take{i:Nat}(hr:kF W R g e s l):kF W R g e s (l.take i):=λw hw j x hx=>by
 apply hr w hw j x;rw[pw] at hx;split at hx
 ·exact hx
 ·cases hx
def AR{b:OA}{n c i j e:Nat}{K:OA->Nat->Nat->WK}(hi:i<=j)(hj:j<=c)(h:T W L (K (rF b c i e) (j-i) (c-i))):T W L (oW b n c e (some (i:Int)) (some (j:Int)) K):=by
 unfold oW;refine dv ⟨by omega,by omega⟩ ?_;dsimp only;refine dv ⟨by omega,by omega⟩ ?_;rw[aq,aq];exact h
end
def I1(i:Int):LV:=[.i i]
def vU(i:Int):(I1 i).length=1:=rfl
section
variable {W:World} {L:LH} {K:VK} {X:WK} {f:HP->LH}
def EY{r N C o n i:Nat}{c:Nat}{v:Int}{l:List Int}[j:xF (some ⟨r,0,none⟩) N C L 1 (l.flatMap I1) f](ho:o+n<=l.length)(hi:i<n)(hn:n<1000000)
 (h:T W (f (own (some ⟨r,0,none⟩) N C 1 ((l.take o++mH n (some (i,v))++l.drop (o+n)).flatMap I1))) (K (.tuple ⟨[]⟩))):T W L (gv (some ⟨r,o,none⟩) n c i v K):=by
 unfold gv;intro w hs;obtain⟨k,hk,e1⟩:=j.at_;have wH:min o l.length=o:=Nat.min_eq_left (by omega)
 let st:Nat->List Int:=λm=>l.take o++aM m 1++l.drop (o+m)
 have uy:∀m,m<=n->(st m).length=l.length:=λm hm=>by simp only[st,ak,aG,wH,gi,aV];omega
 refine⟨λvs w=>∃m:Nat,m<=n/\vs=[.i (n:Int),.i (m:Int)]/\St W w (f (own (some ⟨r,0,none⟩) N C 1 ((st m).flatMap I1))),mq 1 n,⟨0,aL _,rfl,?_⟩,?_⟩
 ·have:st 0=l:=by simp[st]
  rw[this,e1,kr hk];exact hs
 rintro n3 n4 w2 ⟨m,hm,e,gJ⟩;cases e
 rw[e1] at gJ;have wI:(L.set k (own (some ⟨r,0,none⟩) N C 1 ((st m).flatMap I1)))[k]?=some (own (some ⟨r,0,none⟩) N C 1 ((st m).flatMap I1)):=gR hk;have one:∀v∈I1 1,v.oneCell'=true:=λv hv=>by simp[I1] at hv;subst hv;rfl
 by_cases bW:m<n
 ·rw[aA (by omega)];rw[jm];refine⟨_,rfl,⟨by omega,by omega⟩,?_⟩;rw[dh,aq,mQ];refine Ey gJ wI (by rw[yL vU,uy m hm];omega) rfl λw3 y8=>?_;have e5:=oe m;rw[e5];refine⟨⟨m+1,bW,rfl,?_⟩,dn (by omega)⟩;rw[e1];rw[gW] at y8;have e6:((st m).flatMap I1).set (o+m) (Value.int ag 1)=(st (m+1)).flatMap I1:=by
   have:=zF (g:=I1) (l:=st m) (o:=o+m) (y:=1) (j:=0) (v:=.i 1) vU (ao (by rw[uy m hm];omega)) rfl (by decide);have e7:(st m).set (o+m) 1=st (m+1):=by
    have hd:l.drop (o+m)=l[o+m]'(by omega)::l.drop (o+m+1):=jX (by omega);have hAB:(l.take o++aM m (1:Int)).length=o+m:=by rw[ak,aG,gi,wH]
    simp only[st];rw[hd,List.set_append_right _ _ (by omega),hAB,sH,List.set_cons_zero,List.replicate_succ'];simp[Nat.add_assoc]
   rw[<-e7,<-this,mQ,iL]
  rw[e6] at y8;exact y8
 ·have hmn:m=n:=by omega
  subst hmn;rw[ay (by omega),fo];refine⟨_,rfl,⟨by omega,by omega⟩,?_⟩;rw[dh,aq,mQ];refine Ey gJ wI (by rw[yL vU,uy m hm];omega) rfl λw3 y8=>?_;apply h w3;rw[e1];rw[gW] at y8;have e6:((st m).flatMap I1).set (o+i) (Value.int ag v)=(l.take o++mH m (some (i,v))++l.drop (o+m)).flatMap I1:=by
   have:=zF (g:=I1) (l:=st m) (o:=o+i) (y:=v) (j:=0) (v:=.i v) vU (ao (by rw[uy m hm];omega)) rfl (by decide);have e7:(st m).set (o+i) v=l.take o++mH m (some (i,v))++l.drop (o+m):=by
    simp only[st,mH];rw[aI,List.set_append_right _ _ (by rw[aG,wH];omega),List.set_append_left _ _ (by rw[aG,wH,gi];omega),<-aI]
    congr 3
    rw[aG,wH];omega
   rw[<-e7,<-this,mQ,iL]
  rw[e6] at y8;exact y8
end
section
variable {α σ:Type}
def xt{linked:α->Bool}:∀{l:List α} {i:Nat} {x:α},(∀j y,j<i->l[j]?=some y->linked y=true)->l[i]?=some x->linked x=false->bQ linked l=(i+1,true)
 |[],i,x,_,hx,_=>by simp at hx
 |y::l,0,x,_,hx,hn=>by simp at hx;subst hx;unfold bQ;rw[ah (by simp[hn])]
 |y::l,i+1,x,h,hx,hn=>by
  unfold bQ;rw[aj (h 0 y (by omega) rfl),xt (l:=l) (i:=i) (λj z hj hz=>h (j+1) z (by omega) (by simpa using hz)) (by simpa using hx) hn]
def vQ{linked:α->Bool}:∀{l:List α},(∀x∈l,linked x=true)->bQ linked l=(l.length,false)
 |[],_=>rfl
 |y::l,h=>by unfold bQ;rw[aj (h y (by simp)),vQ λx hx=>h x (by simp[hx])];rfl
def rR{linked:α->Bool}:∀(l:List α),(bQ linked l).1<=l.length
 |[]=>aC _
 |y::l=>by unfold bQ;split<;>simp;exact rR l
def Au{linked:α->Bool}(x:α)(l:List α):0<(bQ linked (x::l)).1:=by unfold bQ;split<;>simp
def uH{linked:α->Bool}:∀{l:List α},(bQ linked l).2=false->(bQ linked l).1=l.length
 |[],_=>rfl
 |y::l,h=>by
  unfold bQ at h⊢;split at h
  ·rename_i hy;rw[aj hy];show _+1=_;rw[uH h];rfl
  ·cases h
def tH{f:σ->α->Int×σ}:∀(l m:List α)(s s':σ)(i:Nat),fR f s l i=(none,s')->fR f s (l++m) i=fR f s' m (i+l.length)
 |[],m,s,s',i,h=>by cases h;rfl
 |x::l,m,s,s',i,h=>by
  unfold fR at h;split at h
  ·cases h
  ·rename_i h0;rw[fE];show fR f s (x::(l++m)) i=_;rw[fR,ah h0,tH l m _ _ _ h,bw,Nat.add_right_comm,Nat.add_assoc]
def ki(n:Nat)(e:Option (Nat×Int)):(mH n e).length=n:=by cases e<;>simp[mH]
end
section
variable {W:World} {L R:LH} {K:VK} {X:WK} {p:Nat} {b:aO} {hs:List C} {f:aO×List C->LH}
def Rj[i:Lc (bX p) L (b,hs) f]{a:bp}(oK:32<=b.aB.length)(h:T W L (K (.i 6))):T W L (jB (ai p) (aP a) K):=by
 have hL:f (b,hs)=L:=i.same;refine HA (p:=p) λla lk ti tn vs bx R hg hc nR=>?_;have fin:=nR [] b hs vs bx _ hg hc (by rw[hL];exact h);unfold jB;apply ws;intros;apply Ju (l:=la);apply ws;refine hG (by show decide (((b.aB.length:Nat):Int)>=32)=true;simp;omega) ?_;exact T.dp fin
def J0[i:Lc (bX p) L (b,hs) f]{b0:aO}{l7:List C}{n:Nat}(hg:eL b0)(hx:Ext (dT b0) l7 (dT b) hs n)(hl:hs.length<1000000)(h:T W (f (b0,l7)) (K (.tuple ⟨[]⟩))):T W L (dQ (ai p) (l7.length:Int) K):=λw hw=>by
 obtain⟨k,hk,e1⟩:=i.at_;have h1:=hw.focus hk;obtain⟨-,h2⟩:=h1.and;refine(show T W (cP p (dT b,hs)::L.eraseIdx k) _ from ?_) w h2;unfold dQ;apply ws;apply Yb (p:=p) hl;rw[hx.back];apply ws;intro w2 Zm;apply h w2;rw[e1];exact St.oS (A:=bX p (b,hs)) (St.and_intro hg Zm) hk
def I'{a:bp}(h:tJ a=0):0<=a.au/\a.au<=7/\a.dp=0/\a.dq=0/\a.cp=0/\a.cq=0/\a.aw=0/\(1<=a.bt/\a.bt<=4294967295)/\1<=a.code/\a.code<=65535:=by
 unfold tJ at h
 repeat' (first|(split at h;first|(exact aR h (by decide))|skip)|skip)
 omega
def SR(G:nX W){a:bp}(ha:wD a)[i:Lc (bX p) L (b,hs) f](hl:hs.length<900000)
 (h:∀dM,Ext (dT b) hs (dT (b.make a).2) dM 8->T W (f ((b.make a).2,dM)) (K (.i (b.make a).1))):T W L (iT (ai p) (aP a) K):=by
 have hL:f (b,hs)=L:=i.same;refine nG (p:=p) λhg=>?_;unfold iT
 repeat' first|apply ws;intros|apply wb|refine Qe G ha ?_
 have stay:∀r:Int,b.make a=(r,b)->T W L (K (.int .i64 r)):=λr e=>by
  rw[e] at h;have:=h hs (Ext.refl _ _ _);rw[hL] at this;exact this
 apply dz<;>intro g1
 ·have g1:tJ a≠0:=by simpa using g1
  have:=stay (tJ a) (by unfold aO.make;rw[aj g1]);exact T.dp this
 have g1:tJ a=0:=by simpa using g1
 have ck:=I' g1
 repeat' first|apply ws;intros|apply wb|refine tP (p:=p) ?_
 cases hf:b.find a.id with
 |some x=>
  simp only[cB,dk];obtain⟨gx,hxi⟩:=tF hg hf
  repeat' first|apply ws|apply wb|refine Qf ⟨ck.1,by omega⟩ ⟨gx.au.1,by have:=gx.au.2;omega⟩ ?_
  have:=stay (ow a x) (by unfold aO.make;rw[ah (by omega),hf]);exact T.dp this
 |none=>
  simp only[dj,eV];apply ws;rw[LX ck.1 ck.2.1];by_cases oK:b.aB.length<32
  ·have hga:AG {({a with au:=a.au/2* 2}:bp) with aw:=b.aw+1}:=by
    have uy:=hg.aw;have many:=hg.many;refine⟨⟨ha.id,ha.dp,ha.dq,ha.cp,ha.cq,?_,?_,?_,?_⟩,⟨⟨by show 0<=a.bt;omega,by show a.bt<=_;omega⟩,⟨by show 0<=a.code;omega,by show a.code<=_;omega⟩,by show 0<=a.au/2* 2;omega,by show a.au/2* 2<=_;omega⟩,⟨by show 0<=a.au/2* 2;omega,by show a.au/2* 2<_;omega⟩,by show 0<=b.aw+1;omega,by show b.aw+1<_;omega⟩
    ·show oc a.bt;unfold oc;omega
    ·show oc a.code;unfold oc;omega
    ·show oc (a.au/2* 2);unfold oc;omega
    ·show oc (b.aw+1);unfold oc;omega
   refine Ri (p:=p) (a:={a with au:=a.au/2* 2}) hf oK hga hl λdM hx=>?_;apply ws;have e:b.make a=(0,b.more {a with au:=a.au/2* 2}):=by
    unfold aO.make aO.more;rw[ah (by omega),hf];dsimp only;rw[ah (by omega)]
   rw[e] at h;have:=h dM (hx.mono (by omega));exact T.dp this
  ·apply Rj (p:=p) (a:={a with au:=a.au/2* 2}) (by omega);apply ws;have:=stay 35 (by unfold aO.make;rw[ah (by omega),hf];dsimp only;rw[aj (by omega)]);exact T.dp this
end
def Is(b:aO):Prop:=∃m,mC b m/\Md.cR m
def Is.make{b:aO}(h:Is b)(a:bp):Is (b.make a).2:=by obtain⟨m,hs,hg⟩:=h;exact⟨_,(hs.make hg).2⟩
def Is.qC{b:aO}(h:Is b)(t:cj):Is (b.qC t).2:=by obtain⟨m,hs,hg⟩:=h;exact⟨_,(hs.qC hg).2⟩
def DL(n:Int):(ch .i64 .and n 1!=0)=decide (n%2=1):=by
 rw[LY,ec];simp only[mz,ne_eq,decide_eq_true_eq];omega
def DH(t:cj):(aX t).length=16:=rfl
def xz(a:bp):Bool:=decide (a.au%2=1)
def y7(t:cj):Bool:=decide (t.au%2=1)
section
variable {α σ:Type}
def wc{f:σ->α->Int×σ}{lk:α->Bool}{n:Nat}{s:σ}{l:List α}(hl:l≠[]):
 iQ f lk (n+1) s l=if(bQ lk l).2=false then(mH (bQ lk l).1 (some ((bQ lk l).1-1,2)),s)
  else match fR f s (l.take (bQ lk l).1) 0 with
  |(none,s')=>(mH (bQ lk l).1 none++(iQ f lk n s' (l.drop (bQ lk l).1)).1,(iQ f lk n s' (l.drop (bQ lk l).1)).2)
  |(some e,_)=>(mH (bQ lk l).1 (some e)++(iQ f lk n s (l.drop (bQ lk l).1)).1,(iQ f lk n s (l.drop (bQ lk l).1)).2):=by
 cases l with
 |nil=>exact aR rfl hl
 |cons x l=>
  rw[iQ]<;>congr 1
def yg{f:σ->α->Int×σ}{lk:α->Bool}(n:Nat)(s:σ):iQ f lk n s []=([],s):=by cases n<;>rfl
end
section
variable {W:World} {L R:LH} {K:VK} {X:WK} {p:Nat} {b:aO} {hs:List C}
def Sq{s:OA}{c nn:Nat}{l:List bp}[hh:Has R L](hr:kF W R aP 14 s l)(L2:nn=l.length)(hl:l.length<1000000)
 (h:T W L (K (.tuple ⟨[.i ((bQ xz l).1:Int),.b (bQ xz l).2]⟩))):T W L (jl s nn c (.func (.func N.eY) ⟨[]⟩ ⟨[]⟩) K):=by
 subst L2;unfold jl;intro w hs;refine⟨λvs w=>∃i:Nat,i<=l.length/\(∀j y,j<i->l[j]?=some y->xz y=true)/\vs=[.i 0,.b false,.l s l.length c,.i (l.length:Int),.i (i:Int)]/\St W w L,
  mq 4 l.length,⟨0,aL _,λj y hj=>by omega,rfl,hs⟩,?_⟩
 rintro n1 b1 mg jJ mP n2 n3 w2 ⟨i,hi,gV,e,gJ⟩;cases e
 refine T.at ?_ gJ;have e5:=oe i;apply gO<;>intro g1
 ·have bW:i<l.length:=by omega
  have gx:=ao bW;generalize l[i]=x at gx;refine iu hr ⟨by omega,by omega⟩ rfl λa ha=>?_;rw[aq];apply je hr ha gx (pV x);apply ws;intros;show T W _ (eY (aP x) _);unfold eY;apply ws;intros;rw[DL];rw[e5];apply dz<;>intro g2
  ·have g2:xz x=false:=by simpa [xz] using g2
   rw[xt gV gx g2] at h;exact T.dp h
  ·have g2:xz x=true:=by simpa [xz] using g2
   refine T.drop (T.drop ?_);refine λw3 h3=>⟨⟨i+1,bW,λj y hj hy=>?_,rfl,h3⟩,dn (by omega)⟩;by_cases GL:j=i
   ·subst GL;rw[gx] at hy;cases hy;exact g2
   ·exact gV j y (by omega) hy
 ·have kP:i=l.length:=by omega
  subst kP;rw[vQ λx hx=>by obtain⟨j,hj⟩:=qO hx;exact gV j x (ar.1 hj).1 hj] at h;exact h
def Wd(G:nX W){s:OA}{c c2 nn:Nat}{l:List bp}{r q o:Nat}{res:List Int}(hr:kF W R aP 14 s l)(L2:nn=l.length)(iw:∀x∈l,wD x)(hP:Is b)(hl:hs.length+8* l.length<800000)
 (ho:o+l.length<=res.length)(Ca:0<l.length)
 (h0:∀dM b',fR aO.make b l 0=(none,b')->Is b'->dM.length<=hs.length+8* l.length->T W (bX p (b',dM)::own (ai r) q q 1 (res.flatMap I1)::R) (K (.tuple ⟨[]⟩)))
 (h1:∀e b',fR aO.make b l 0=(some e,b')->e.1<l.length->T W (bX p (b,hs)::own (ai r) q q 1 ((res.take o++mH l.length (some e)++res.drop (o+l.length)).flatMap I1)::R) (K (.tuple ⟨[]⟩))):
 T W (bX p (b,hs)::own (ai r) q q 1 (res.flatMap I1)::R) (jV (ai p) s nn c (some ⟨r,o,none⟩) nn c2 (.func (.func N.iT) ⟨[]⟩ ⟨[]⟩) K):=by
 subst L2;unfold jV;refine nG (p:=p) λhg=>?_;apply JX (p:=p);apply ws;intro w l7;refine⟨λvs w=>∃(i:Nat)(b':aO)(dM:List C),i<=l.length/\fR aO.make b (l.take i) 0=(none,b')/\Is b'/\Ext (dT b) hs (dT b') dM (8* i)/\vs=[.i (hs.length:Int),.l s l.length c,.i (l.length:Int),.i (i:Int)]/\
  St W w (bX p (b',dM)::own (ai r) q q 1 (res.flatMap I1)::R),
  mq 3 l.length,⟨0,b,hs,aL _,rfl,hP,Ext.refl _ _ _,rfl,l7⟩,?_⟩
 rintro n2 qf oP qQ n3 n4 w2 ⟨i,b',dM,hi,Sc,HK,hx,e,gJ⟩;cases e
 refine T.at ?_ gJ;have e5:=oe i;have hxl:=hx.len;apply gO<;>intro g1
 ·have bW:i<l.length:=by omega
  have gx:=ao bW;have qJ:l[i]∈l:=bT bW;have uz:l=l.take i++l[i]::l.drop (i+1):=by rw[<-jX bW,u2]
  have GF:l.take (i+1)=l.take i++[l[i]]:=by rw[bP,gx];rfl
  generalize l[i]=x at gx qJ uz GF;have R5:=iw x qJ;refine iu hr ⟨by omega,by omega⟩ rfl λa ha=>?_;rw[aq];apply je hr ha gx (pV x);apply ws;intros;show T W _ (iT (ai p) (aP x) _);refine SR (p:=p) G R5 (by omega) λWG Wz=>?_;have W0:fR aO.make b l 0=fR aO.make b' (x::l.drop (i+1)) (0+(l.take i).length):=by
   conv=>lhs;rw[uz]
   exact tH _ _ _ _ _ Sc
  have hti:(l.take i).length=i:=by rw[aG];omega
  apply ws;apply dz<;>intro g2
  ·have g2:(b'.make x).1≠0:=by simpa using g2
   apply T.drop;have hx3:=Wz.len;apply J0 (p:=p) hg (hx.trans Wz) (by omega);apply ws;apply EY (r:=r) (N:=q) (C:=q) ho bW (by omega);apply ws;refine h1 (i,(b'.make x).1) b' ?_ bW;rw[W0,hti,fR,aj g2,az]
  ·have g2:(b'.make x).1=0:=by simpa using g2
   rw[e5];apply T.drop;refine λw3 h3=>⟨⟨i+1,_,WG,bW,?_,HK.make x,(hx.trans Wz).mono (by omega),rfl,h3⟩,dn (by omega)⟩;rw[GF,tH _ _ _ _ _ Sc,fR,ah (by omega)]
   rfl
 ·have kP:i=l.length:=by omega
  subst kP;rw[bF] at Sc;exact h0 dM b' Sc HK (by omega)
def V0(G:nX W){s:OA}{c:Nat}{l:List bp}(hr:kF W R aP 14 s l)(hc:l.length<=c)(iw:∀x∈l,wD x)(hP:Is b)(L7:l.length<=10000)(hl:hs.length+8* l.length<800000)
 (h:∀r dM,dM.length<=hs.length+8* l.length->Is (iQ aO.make xz l.length b l).2->(iQ aO.make xz l.length b l).1.length=l.length->
  T W (bX p ((iQ aO.make xz l.length b l).2,dM)::own (some ⟨r,0,none⟩) l.length l.length 1 ((iQ aO.make xz l.length b l).1.flatMap I1)::R) (K (.l (some ⟨r,0,none⟩) l.length l.length))):
 T W (bX p (b,hs)::R) (ph (some ⟨p,0,none⟩) s l.length c K):=by
 unfold ph mA;refine Ep ⟨by omega,by omega,by omega,by omega⟩ λr=>?_;rw[aq,show(Builtin.zeroCells ⟨[Value.int ag 0]⟩ l.length).toList=(aM l.length (0:Int)).flatMap I1 from oR (g:=I1) (z:=0) rfl _];show T W (own (some ⟨r,0,none⟩) l.length l.length 1 _::bX p (b,hs)::R) _;refine T.perm (M:=own (some ⟨r,0,none⟩) l.length l.length 1 _::bX p (b,hs)::R) (L:=bX p (b,hs)::own (some ⟨r,0,none⟩) l.length l.length 1 _::R) ?_ (bA.swap _ _ _);intro w l7;refine⟨λvs w=>∃(at_ fuel:Nat)(b':aO)(dM:List C)(done:List Int),at_<=l.length/\done.length=at_/\l.length<=fuel+at_/\
                                                                        iQ aO.make xz l.length b l=(done++(iQ aO.make xz fuel b' (l.drop at_)).1,(iQ aO.make xz fuel b' (l.drop at_)).2)/\Is b'/\dM.length<=hs.length+8* at_/\
                                                                        vs=[.l none 0 0,.l (some ⟨r,0,none⟩) l.length l.length,.i (at_:Int)]/\
                                                                        St W w (bX p (b',dM)::own (some ⟨r,0,none⟩) l.length l.length 1 ((done++aM (l.length-at_) 0).flatMap I1)::R),
  mq 2 l.length,⟨0,l.length,b,hs,[],aL _,rfl,by omega,by simp,hP,by omega,rfl,l7⟩,?_⟩
 rintro qf oP qQ xx wF xY n1 w2 ⟨at_,fuel,b',dM,done,QU,Ku,hfu,rN,HK,hsl,e,gJ⟩;cases e
 refine T.at ?_ gJ;apply gO<;>intro g1
 ·have bW:at_<l.length:=by omega
  have hZ:l.drop at_≠[]:=λhh=>by have:=congrArg List.length hh;rw[aV] at this;simp at this;omega
  have yI:(l.drop at_).length=l.length-at_:=aV;apply ve (by omega);have QL:=hr.drop (i:=at_) (c:=c) (by omega) hc;apply Sq QL yI.symm (by omega);apply ws;obtain⟨n,hn⟩:∃n,(bQ xz (l.drop at_)).1=n:=⟨_,rfl⟩;have adn:n<=l.length-at_:=by rw[<-hn,<-yI];exact rR _
  have ZA:0<n:=by
   rw[<-hn];cases hd:l.drop at_ with
   |nil=>exact aR hd hZ
   |cons x l'=>exact Au x l'
  rw[hn];have e6:ag.wrap ((at_:Int)+(n:Int))=((at_+n:Nat):Int):=by rw[aS (by omega)];omega
  rw[e6];apply AR (by omega) (by omega);have ea:rF (some ⟨r,0,none⟩) l.length at_ 1=some ⟨r,at_,none⟩:=by unfold rF;rw[ah (by omega)];show some (Addr.add ⟨r,0,none⟩ (at_* 1))=_;rw[dh,az,mQ]
  rw[ea,Nat.add_sub_cancel_left];obtain⟨fuel,rfl⟩:∃m,fuel=m+1:=⟨fuel-1,by omega⟩;have jZ:=wc (f:=aO.make) (lk:=xz) (n:=fuel) (s:=b') hZ;have hdd:(l.drop at_).drop n=l.drop (at_+n):=Jv;have C7:(done++aM (l.length-at_) (0:Int)).length=l.length:=by rw[ak,gi];omega
  have B9:(done++aM (l.length-at_) (0:Int)).drop (at_+n)=aM (l.length-(at_+n)) 0:=by
   rw[List.drop_append,eH (by omega),dm,List.drop_replicate];congr 1;omega
  have rM:(done++aM (l.length-at_) (0:Int)).take at_=done:=by rw[<-Ku,zX]
  apply dz<;>intro g2
  ·have g2:(bQ xz (l.drop at_)).2=false:=by simpa using g2
   have L2:n=l.length-at_:=by rw[<-hn,uH g2,yI]
   have e7:ag.wrap ((n:Int) -1)=((n-1:Nat):Int):=by rw[aS (by omega)];omega
   rw[e7];refine EY (r:=r) (N:=l.length) (C:=l.length) (o:=at_) (n:=n) (by rw[C7];omega) (by omega) (by omega) ?_;apply ws;rw[rM,B9];refine λw3 h3=>⟨⟨at_+n,fuel,b',dM,done++mH n (some (n-1,2)),by omega,by rw[ak,ki];omega,by omega,?_,HK,by omega,rfl,h3⟩,dn (by omega)⟩;rw[aj g2,hn] at jZ;rw[rN,jZ,show l.drop (at_+n)=[] from eH (by omega),yg];simp
  ·have g2:(bQ xz (l.drop at_)).2=true:=by simpa using g2
   rw[ah (by rw[g2];decide),hn,hdd] at jZ;apply AR (by omega) (by omega);rw[Nat.add_sub_cancel_left];have ER:((l.drop at_).take n).length=n:=by rw[aG];omega
   have hr3:=QL.take (i:=n);refine Wd (p:=p) G (l:=(l.drop at_).take n) (o:=at_) hr3 ER.symm (λx hx=>iw x (List.mem_of_mem_drop (List.mem_of_mem_take hx))) HK (by omega) (by rw[C7];omega) (by omega) (λy8 b3 hd hP3 QN=>?_) (λe b3 hd he=>?_)
   ·apply ws;rw[ER] at QN;rw[hd] at jZ;refine λw3 h3=>⟨⟨at_+n,fuel,b3,y8,done++mH n none,by omega,by rw[ak,ki];omega,by omega,?_,hP3,by omega,rfl,?_⟩,dn (by omega)⟩
    ·rw[rN,jZ];simp
    ·have e8:done++aM (l.length-at_) (0:Int)=done++mH n none++aM (l.length-(at_+n)) 0:=by
      rw[aI];congr 1;show _=aM n 0++_;rw[List.replicate_append_replicate];congr 1;omega
     rw[<-e8];exact h3
   ·apply ws;rw[ER];rw[hd] at jZ;rw[rM,B9];refine λw3 h3=>⟨⟨at_+n,fuel,b',dM,done++mH n (some e),by omega,by rw[ak,ki];omega,by omega,?_,HK,by omega,rfl,h3⟩,dn (by omega)⟩;rw[rN,jZ];simp
 ·have kP:at_=l.length:=by omega
  subst kP;rw[List.drop_length,yg] at rN;simp only[bN] at rN;rw[rN] at h;have:=h r dM (by omega) HK Ku;rw[sH,List.replicate_zero,bN];apply ws;exact this
end
def TOk(t:cj):Prop:=Bf t/\jR t
section
variable {W:World} {L R:LH} {K:VK} {X:WK} {p:Nat} {b:aO} {hs:List C}
def Sp{s:OA}{c nn:Nat}{l:List cj}[hh:Has R L](hr:kF W R aX 16 s l)(L2:nn=l.length)(hl:l.length<1000000)
 (h:T W L (K (.tuple ⟨[.i ((bQ y7 l).1:Int),.b (bQ y7 l).2]⟩))):T W L (iJ s nn c (.func (.func N.eG) ⟨[]⟩ ⟨[]⟩) K):=by
 subst L2;unfold iJ;intro w hs;refine⟨λvs w=>∃i:Nat,i<=l.length/\(∀j y,j<i->l[j]?=some y->y7 y=true)/\vs=[.i 0,.b false,.l s l.length c,.i (l.length:Int),.i (i:Int)]/\St W w L,
  mq 4 l.length,⟨0,aL _,λj y hj=>by omega,rfl,hs⟩,?_⟩
 rintro n1 b1 mg jJ mP n2 n3 w2 ⟨i,hi,gV,e,gJ⟩;cases e
 refine T.at ?_ gJ;have e5:=oe i;apply gO<;>intro g1
 ·have bW:i<l.length:=by omega
  have gx:=ao bW;generalize l[i]=x at gx;refine iu hr ⟨by omega,by omega⟩ rfl λa ha=>?_;rw[aq];apply je hr ha gx (DH x);apply ws;intros;show T W _ (eG (aX x) _);unfold eG;apply ws;intros;rw[DL];rw[e5];apply dz<;>intro g2
  ·have g2:y7 x=false:=by simpa [y7] using g2
   rw[xt gV gx g2] at h;exact T.dp h
  ·have g2:y7 x=true:=by simpa [y7] using g2
   refine T.drop (T.drop ?_);refine λw3 h3=>⟨⟨i+1,bW,λj y hj hy=>?_,rfl,h3⟩,dn (by omega)⟩;by_cases GL:j=i
   ·subst GL;rw[gx] at hy;cases hy;exact g2
   ·exact gV j y (by omega) hy
 ·have kP:i=l.length:=by omega
  subst kP;rw[vQ λx hx=>by obtain⟨j,hj⟩:=qO hx;exact gV j x (ar.1 hj).1 hj] at h;exact h
def Wc(G:nX W){s:OA}{c c2 nn:Nat}{l:List cj}{r q o:Nat}{res:List Int}(hr:kF W R aX 16 s l)(L2:nn=l.length)(iw:∀x∈l,TOk x)(hP:Is b)(hl:hs.length+8* l.length<800000)
 (ho:o+l.length<=res.length)(Ca:0<l.length)
 (h0:∀dM b',fR aO.qC b l 0=(none,b')->Is b'->dM.length<=hs.length+8* l.length->T W (bX p (b',dM)::own (ai r) q q 1 (res.flatMap I1)::R) (K (.tuple ⟨[]⟩)))
 (h1:∀e b',fR aO.qC b l 0=(some e,b')->e.1<l.length->T W (bX p (b,hs)::own (ai r) q q 1 ((res.take o++mH l.length (some e)++res.drop (o+l.length)).flatMap I1)::R) (K (.tuple ⟨[]⟩))):
 T W (bX p (b,hs)::own (ai r) q q 1 (res.flatMap I1)::R) (jk (ai p) s nn c (some ⟨r,o,none⟩) nn c2 (.func (.func N.kS) ⟨[]⟩ ⟨[]⟩) K):=by
 subst L2;unfold jk;refine nG (p:=p) λhg=>?_;apply JX (p:=p);apply ws;intro w l7;refine⟨λvs w=>∃(i:Nat)(b':aO)(dM:List C),i<=l.length/\fR aO.qC b (l.take i) 0=(none,b')/\Is b'/\Ext (dT b) hs (dT b') dM (8* i)/\vs=[.i (hs.length:Int),.l s l.length c,.i (l.length:Int),.i (i:Int)]/\
  St W w (bX p (b',dM)::own (ai r) q q 1 (res.flatMap I1)::R),
  mq 3 l.length,⟨0,b,hs,aL _,rfl,hP,Ext.refl _ _ _,rfl,l7⟩,?_⟩
 rintro n2 qf oP qQ n3 n4 w2 ⟨i,b',dM,hi,Sc,HK,hx,e,gJ⟩;cases e
 refine T.at ?_ gJ;have e5:=oe i;have hxl:=hx.len;apply gO<;>intro g1
 ·have bW:i<l.length:=by omega
  have gx:=ao bW;have qJ:l[i]∈l:=bT bW;have uz:l=l.take i++l[i]::l.drop (i+1):=by rw[<-jX bW,u2]
  have GF:l.take (i+1)=l.take i++[l[i]]:=by rw[bP,gx];rfl
  generalize l[i]=x at gx qJ uz GF;have R5:=iw x qJ;refine iu hr ⟨by omega,by omega⟩ rfl λa ha=>?_;rw[aq];apply je hr ha gx (DH x);apply ws;intros;show T W _ (kS (ai p) (aX x) _);refine Z' (p:=p) G R5.1 R5.2 (by obtain⟨m,h3,h4⟩:=HK;exact Tf h3 h4) (by omega) λWG Wz=>?_;have W0:fR aO.qC b l 0=fR aO.qC b' (x::l.drop (i+1)) (0+(l.take i).length):=by
   conv=>lhs;rw[uz]
   exact tH _ _ _ _ _ Sc
  have hti:(l.take i).length=i:=by rw[aG];omega
  apply ws;apply dz<;>intro g2
  ·have g2:(b'.qC x).1≠0:=by simpa using g2
   apply T.drop;have hx3:=Wz.len;apply J0 (p:=p) hg (hx.trans Wz) (by omega);apply ws;apply EY (r:=r) (N:=q) (C:=q) ho bW (by omega);apply ws;refine h1 (i,(b'.qC x).1) b' ?_ bW;rw[W0,hti,fR,aj g2,az]
  ·have g2:(b'.qC x).1=0:=by simpa using g2
   rw[e5];apply T.drop;refine λw3 h3=>⟨⟨i+1,_,WG,bW,?_,HK.qC x,(hx.trans Wz).mono (by omega),rfl,h3⟩,dn (by omega)⟩;rw[GF,tH _ _ _ _ _ Sc,fR,ah (by omega)]
   rfl
 ·have kP:i=l.length:=by omega
  subst kP;rw[bF] at Sc;exact h0 dM b' Sc HK (by omega)
def VZ(G:nX W){s:OA}{c:Nat}{l:List cj}(hr:kF W R aX 16 s l)(hc:l.length<=c)(iw:∀x∈l,TOk x)(hP:Is b)(L7:l.length<=10000)(hl:hs.length+8* l.length<800000)
 (h:∀r dM,dM.length<=hs.length+8* l.length->Is (iQ aO.qC y7 l.length b l).2->(iQ aO.qC y7 l.length b l).1.length=l.length->
  T W (bX p ((iQ aO.qC y7 l.length b l).2,dM)::own (some ⟨r,0,none⟩) l.length l.length 1 ((iQ aO.qC y7 l.length b l).1.flatMap I1)::R) (K (.l (some ⟨r,0,none⟩) l.length l.length))):
 T W (bX p (b,hs)::R) (nZ (some ⟨p,0,none⟩) s l.length c K):=by
 unfold nZ lY;refine Ep ⟨by omega,by omega,by omega,by omega⟩ λr=>?_;rw[aq,show(Builtin.zeroCells ⟨[Value.int ag 0]⟩ l.length).toList=(aM l.length (0:Int)).flatMap I1 from oR (g:=I1) (z:=0) rfl _];show T W (own (some ⟨r,0,none⟩) l.length l.length 1 _::bX p (b,hs)::R) _;refine T.perm (M:=own (some ⟨r,0,none⟩) l.length l.length 1 _::bX p (b,hs)::R) (L:=bX p (b,hs)::own (some ⟨r,0,none⟩) l.length l.length 1 _::R) ?_ (bA.swap _ _ _);intro w l7;refine⟨λvs w=>∃(at_ fuel:Nat)(b':aO)(dM:List C)(done:List Int),at_<=l.length/\done.length=at_/\l.length<=fuel+at_/\
                                                                        iQ aO.qC y7 l.length b l=(done++(iQ aO.qC y7 fuel b' (l.drop at_)).1,(iQ aO.qC y7 fuel b' (l.drop at_)).2)/\Is b'/\dM.length<=hs.length+8* at_/\
                                                                        vs=[.l none 0 0,.l (some ⟨r,0,none⟩) l.length l.length,.i (at_:Int)]/\
                                                                        St W w (bX p (b',dM)::own (some ⟨r,0,none⟩) l.length l.length 1 ((done++aM (l.length-at_) 0).flatMap I1)::R),
  mq 2 l.length,⟨0,l.length,b,hs,[],aL _,rfl,by omega,by simp,hP,by omega,rfl,l7⟩,?_⟩
 rintro qf oP qQ xx wF xY n1 w2 ⟨at_,fuel,b',dM,done,QU,Ku,hfu,rN,HK,hsl,e,gJ⟩;cases e
 refine T.at ?_ gJ;apply gO<;>intro g1
 ·have bW:at_<l.length:=by omega
  have hZ:l.drop at_≠[]:=λhh=>by have:=congrArg List.length hh;rw[aV] at this;simp at this;omega
  have yI:(l.drop at_).length=l.length-at_:=aV;apply ve (by omega);have QL:=hr.drop (i:=at_) (c:=c) (by omega) hc;apply Sp QL yI.symm (by omega);apply ws;obtain⟨n,hn⟩:∃n,(bQ y7 (l.drop at_)).1=n:=⟨_,rfl⟩;have adn:n<=l.length-at_:=by rw[<-hn,<-yI];exact rR _
  have ZA:0<n:=by
   rw[<-hn];cases hd:l.drop at_ with
   |nil=>exact aR hd hZ
   |cons x l'=>exact Au x l'
  rw[hn];have e6:ag.wrap ((at_:Int)+(n:Int))=((at_+n:Nat):Int):=by rw[aS (by omega)];omega
  rw[e6];apply AR (by omega) (by omega);have ea:rF (some ⟨r,0,none⟩) l.length at_ 1=some ⟨r,at_,none⟩:=by unfold rF;rw[ah (by omega)];show some (Addr.add ⟨r,0,none⟩ (at_* 1))=_;rw[dh,az,mQ]
  rw[ea,Nat.add_sub_cancel_left];obtain⟨fuel,rfl⟩:∃m,fuel=m+1:=⟨fuel-1,by omega⟩;have jZ:=wc (f:=aO.qC) (lk:=y7) (n:=fuel) (s:=b') hZ;have hdd:(l.drop at_).drop n=l.drop (at_+n):=Jv;have C7:(done++aM (l.length-at_) (0:Int)).length=l.length:=by rw[ak,gi];omega
  have B9:(done++aM (l.length-at_) (0:Int)).drop (at_+n)=aM (l.length-(at_+n)) 0:=by
   rw[List.drop_append,eH (by omega),dm,List.drop_replicate];congr 1;omega
  have rM:(done++aM (l.length-at_) (0:Int)).take at_=done:=by rw[<-Ku,zX]
  apply dz<;>intro g2
  ·have g2:(bQ y7 (l.drop at_)).2=false:=by simpa using g2
   have L2:n=l.length-at_:=by rw[<-hn,uH g2,yI]
   have e7:ag.wrap ((n:Int) -1)=((n-1:Nat):Int):=by rw[aS (by omega)];omega
   rw[e7];refine EY (r:=r) (N:=l.length) (C:=l.length) (o:=at_) (n:=n) (by rw[C7];omega) (by omega) (by omega) ?_;apply ws;rw[rM,B9];refine λw3 h3=>⟨⟨at_+n,fuel,b',dM,done++mH n (some (n-1,2)),by omega,by rw[ak,ki];omega,by omega,?_,HK,by omega,rfl,h3⟩,dn (by omega)⟩;rw[aj g2,hn] at jZ;rw[rN,jZ,show l.drop (at_+n)=[] from eH (by omega),yg];simp
  ·have g2:(bQ y7 (l.drop at_)).2=true:=by simpa using g2
   rw[ah (by rw[g2];decide),hn,hdd] at jZ;apply AR (by omega) (by omega);rw[Nat.add_sub_cancel_left];have ER:((l.drop at_).take n).length=n:=by rw[aG];omega
   have hr3:=QL.take (i:=n);refine Wc (p:=p) G (l:=(l.drop at_).take n) (o:=at_) hr3 ER.symm (λx hx=>iw x (List.mem_of_mem_drop (List.mem_of_mem_take hx))) HK (by omega) (by rw[C7];omega) (by omega) (λy8 b3 hd hP3 QN=>?_) (λe b3 hd he=>?_)
   ·apply ws;rw[ER] at QN;rw[hd] at jZ;refine λw3 h3=>⟨⟨at_+n,fuel,b3,y8,done++mH n none,by omega,by rw[ak,ki];omega,by omega,?_,hP3,by omega,rfl,?_⟩,dn (by omega)⟩
    ·rw[rN,jZ];simp
    ·have e8:done++aM (l.length-at_) (0:Int)=done++mH n none++aM (l.length-(at_+n)) 0:=by
      rw[aI];congr 1;show _=aM n 0++_;rw[List.replicate_append_replicate];congr 1;omega
     rw[<-e8];exact h3
   ·apply ws;rw[ER];rw[hd] at jZ;rw[rM,B9];refine λw3 h3=>⟨⟨at_+n,fuel,b',dM,done++mH n (some e),by omega,by rw[ak,ki];omega,by omega,?_,HK,by omega,rfl,h3⟩,dn (by omega)⟩;rw[rN,jZ];simp
 ·have kP:at_=l.length:=by omega
  subst kP;rw[List.drop_length,yg] at rN;simp only[bN] at rN;rw[rN] at h;have:=h r dM (by omega) HK Ku;rw[sH,List.replicate_zero,bN];apply ws;exact this
end
end Go.Up
namespace Go.Prog
open Go.Den Go.Up Go.Md
def ri(p:OA)(now:Int)(K:VK):WK:=λw=>∃(W:World)(L:List Sep.HP)(a:Nat)(b:Up.aO)(m:aK)(hs:List C),
 p=ai a/\Sep.St W w (bX a (b,hs)::L)/\mC b m/\Md.cR m/\hs.length<=100000/\
 ∀(n:Int)(b':Up.aO)(dM:List C)(w':World),mC b' (m.time now)->Md.cR (m.time now)->dM.length<=200000->Sep.St W w' (bX a (b',dM)::L)->K (.i n) w'
def ri.u:WP:=λargs K=>match args with|[.pointer p,.int .i64 n]=>ri p n K|_=>no
end Go.Prog
namespace Go.Prog
open Go.Den
def lZ(c:LV)(a:Int)(K:VK):WK:=mk c λb=>br (decide (a>=64)) (lU (ad b 0) λd=>aY ((0:Int)<=(IntKind.u64.wrap (ag.wrap (a-64)))) (aY ((2:Int)≠0) (K (.i (ag.wrap ((shr .u64 d (IntKind.u64.wrap (ag.wrap (a-64)))).tmod (2:Int))))))) (lU (ad b 1) λe=>aY ((0:Int)<=(IntKind.u64.wrap a)) (aY ((2:Int)≠0) (K (.i (ag.wrap ((shr .u64 e (IntKind.u64.wrap a)).tmod (2:Int)))))))
def tG(b:OA)(f:LV)(K:VK):WK:=mk f λc=>mk CS λa=>br (b.isNone) (aY (1=1/\True) (aY (4=4) (fH (ad a 0) [.i 2,.l none 0 0,.l none 0 0,.l none 0 0] (aD (ad a 0) 4 λg=>K (.agg ⟨g⟩))))) (aD (ad c 0) 13 λh=>qB h (xB λj=>br (!j) (aY (1=1/\True) (aY (4=4) (fH (ad a 0) [.i 1,.l none 0 0,.l none 0 0,.l none 0 0] (aD (ad a 0) 4 λk=>K (.agg ⟨k⟩))))) (mk CS λd=>lI (ad c 0) λe=>br (e==1) (lL (ad c 1) λm n o=>ph b m n o (xL λp q r=>st (ad d 1) (.l p q r) (iK b (x0 (aD (ad d 0) 4 λs=>aT 4 (ad a 0) s (aD (ad a 0) 4 λt=>K (.agg ⟨t⟩))))))) (br (e==2) (lL (ad c 2) λu v w=>nZ b u v w (xL λx y z=>st (ad d 1) (.l x y z) (iK b (x0 (aD (ad d 0) 4 λA=>aT 4 (ad a 0) A (aD (ad a 0) 4 λB=>K (.agg ⟨B⟩))))))) (lI (ad c 3) λC=>ri b C (xI .i64 λF=>iK b (x0 (aD (ad d 0) 4 λD=>aT 4 (ad a 0) D (aD (ad a 0) 4 λE=>K (.agg ⟨E⟩))))))))))
def lO.j1(K:VK)(k:Nat)(a:OA)(m:LI)(b:OA)(c:Int)(d:Addr)(e:OA)(f g:Nat)(h j:Int)(n:LM)(o:World)(q:Bool):WK:=br q (K (.tuple ⟨[.p none,.i 4]⟩)) (aD (ad k 0) 13 λr=>tG a r (xA 4 λs=>(ct m n [.p b,.i c,.p a,.p (some d),.l e f g,.i h,.i (ag.wrap (j+1))] [.p b,.i c,.p a,.p (some d),.l e f g,.i h,.i j] o)))
def lO(a:OA)(K:VK):WK:=br (a.isNone) (K (.tuple ⟨[.p none,.i 2]⟩)) (dL a (xI .i64 λA=>qU A (x2 λB C=>(xA 5 λD=>(xI .i64 λt=>mk zi5 λc=>aT 5 (ad c 0) D (br (t !=0) (K (.tuple ⟨[.p none,.i t]⟩)) (aD (ad c 0) 5 λE=>tU a E (x3 λF G H=>(xP λu=>(xA 4 λI=>(xI .i64 λv=>mk zi4 λm=>aT 4 (ad m 0) I (br (v !=0) (K (.tuple ⟨[.p none,.i v]⟩)) (lI (ad c 3) λJ=>lI (ad c 4) λM=>lI (ad m 3) λO=>iy a J M O (x3 λP Q R=>(xP λS=>(xL λT w V=>(xI .i64 λx=>br (x !=0) (K (.tuple ⟨[.p none,.i x]⟩)) (aD (ad c 0) 5 λy=>lI (ad m 0) λW=>aY (1=1/\(y.length=5/\(1=1/\(1=1/\(1=1/\True))))) (mk (([.p a]:LV)++(y++([.p u,.p S,.i W,.b false]:LV))) λX=>(lp [.p none,.i 0,.p u,.p (some (ad X 0)),.l T w V,.i (w:Int),.i 0] λn z=>∀o q r e f g s h d j,n [.p o,.i q,.p r,.p (some e),.l f g s,.i h,.i d] j->(br (decide (d<h)) (gp f g d 1 λY=>lS Y λZ=>iG Z (x2 λv9 v10=>(xA 13 λs7=>(xI .i64 λRI=>mk bR λk=>aT 13 (ad k 0) s7 (br (RI !=0) (lO.j1 K k r n o q e f g s h d z j true) (aD (ad k 0) 13 λCn=>nU Cn (xB λb2=>lO.j1 K k r n o q e f g s h d z j (!b2))))) v10) v9)) (K (.tuple ⟨[.p (some e),.i 0]⟩))) j)))) R) Q) P)))) H) G) F)))) C) B)))
def jE(b:OA)(f:LV)(K:VK):WK:=mk f λc=>mk CS λa=>br (b.isNone) (aY (1=1/\True) (aY (4=4) (fH (ad a 0) [.i 2,.l none 0 0,.l none 0 0,.l none 0 0] (aD (ad a 0) 4 λg=>K (.agg ⟨g⟩))))) (aD (ad c 0) 13 λh=>nU h (xB λj=>br (!j) (tick (nn b λk=>lP (k.add 6) λm=>aD (ad c 0) 13 λn=>E8 m n (xA 4 λo=>aT 4 (ad a 0) o (aD (ad a 0) 4 λp=>K (.agg ⟨p⟩))))) (aD (ad c 0) 13 λq=>tR q (x2 λr s=>(xS λt=>(xI .i64 λd=>br (d !=0) (aY (1=1/\True) (aY (4=4) (fH (ad a 0) [.i d,.l none 0 0,.l none 0 0,.l none 0 0] (aD (ad a 0) 4 λu=>K (.agg ⟨u⟩))))) (nn b λv=>lT (v.add 9) λw=>br w (aY (1=1/\True) (aY (4=4) (fH (ad a 0) [.i 9,.l none 0 0,.l none 0 0,.l none 0 0] (aD (ad a 0) 4 λx=>K (.agg ⟨x⟩))))) (gl b t (xI .i64 λe=>br (e !=0) (aY (1=1/\True) (aY (4=4) (fH (ad a 0) [.i e,.l none 0 0,.l none 0 0,.l none 0 0] (aD (ad a 0) 4 λy=>K (.agg ⟨y⟩))))) (tick (nn b λz=>lP (z.add 6) λA=>aD (ad c 0) 13 λB=>tG A B (xA 4 λC=>aT 4 (ad a 0) C (aD (ad a 0) 4 λD=>K (.agg ⟨D⟩))))))))) s) r))))
end Go.Prog
namespace Go.Up
open Go.Sep Go.Den Go.RowKit Go.Prog Go.Md Go.bE
structure iA where
 op:Int
 aB:List bp
 cx:List cj
 now:Int
 ids:List Nat
 wX:Nat
 pG:Int
 FA:Int
 vK:Bool
 sz:Bool
 pF:Bool
 oQ:Int
structure rY where
 sa:OA
 ca:Nat
 st:OA
 ct:Nat
 si:OA
 ci:Nat
def qA(q:iA):LV:=nm q.wX++[.i q.pG,.i q.FA,.b q.vK,.b q.sz,.b q.pF,.i q.oQ]
def ff(q:iA)(s:rY):LV:=[.i q.op,.l s.sa q.aB.length s.ca,.l s.st q.cx.length s.ct,.i q.now,.l s.si q.ids.length s.ci]++qA q
def Ow(q:iA)(s:rY):(ff q s).length=13:=rfl
instance{q:iA}{s:rY}:Ln (ff q s) 13:=⟨rfl⟩
instance{q:iA}:Ln (qA q) 8:=⟨rfl⟩
instance{q:iA}{s:rY}:Gt (ff q s) 0 (.i q.op):=⟨rfl⟩
instance{q:iA}{s:rY}:Gt (ff q s) 1 (.l s.sa q.aB.length s.ca):=⟨rfl⟩
instance{q:iA}{s:rY}:Gt (ff q s) 2 (.l s.st q.cx.length s.ct):=⟨rfl⟩
instance{q:iA}{s:rY}:Gt (ff q s) 3 (.i q.now):=⟨rfl⟩
instance{q:iA}{s:rY}:Gt (ff q s) 4 (.l s.si q.ids.length s.ci):=⟨rfl⟩
instance{q:iA}:Gt (qA q) 2 (.i q.pG):=⟨rfl⟩
instance{q:iA}:Gt (qA q) 3 (.i q.FA):=⟨rfl⟩
instance{q:iA}:Gt (qA q) 4 (.b q.vK):=⟨rfl⟩
instance{q:iA}:Gt (qA q) 5 (.b q.sz):=⟨rfl⟩
instance{q:iA}:Gt (qA q) 6 (.b q.pF):=⟨rfl⟩
instance{q:iA}:Gt (qA q) 7 (.i q.oQ):=⟨rfl⟩
def yj(q:iA)(s:rY):∀v∈ff q s,v.oneCell'=true:=λv h=>by
 simp[ff,qA,nm] at h;rcases h with rfl|rfl|rfl|rfl|rfl|rfl|rfl|rfl|rfl|rfl|rfl|rfl|rfl<;>rfl
instance{q:iA}{s:rY}:Sub (ff q s) 0 13 (ff q s):=⟨rfl,λj v h=>by rw[az];exact h⟩
instance{q:iA}{s:rY}:Sub (ff q s) 5 8 (qA q):=⟨rfl,λj v h=>by
 show([_,_,_,_,_]++qA q)[5+j]?=some v
 rw[jo (by simp)];simpa using h⟩
instance{x1 x2 x3 x4 x5 x6 x7 x8 x9 Bn Bm Bl Bk:Value}{q:iA}{s:rY}:Wr [x1,x2,x3,x4,x5,x6,x7,x8,x9,Bn,Bm,Bl,Bk] 0 (ff q s) (ff q s):=⟨rfl,aC _,yj q s⟩
def kF.mono{α:Type}{W:World}{R R':LH}{g:α->LV}{e:Nat}{s:OA}{l:List α}[h:Has R R'](hr:kF W R g e s l):kF W R' g e s l:=λw hw=>hr w (h.sub hw)
structure qE(W:World)(R:LH)(q:iA)(s:rY):Prop where
 aB:kF W R aP 14 s.sa q.aB
 cx:kF W R aX 16 s.st q.cx
 ids:kF W R nm 2 s.si q.ids
 ca:q.aB.length<=s.ca
 ct:q.cx.length<=s.ct
 ci:q.ids.length<=s.ci
def ie(e:Int)(rb:OA)(rn rc:Nat)(ab:OA)(an ac:Nat)(tb:OA)(tn tc:Nat):LV:=[.i e,.l rb rn rc,.l ab an ac,.l tb tn tc]
instance{e:Int}{rb ab tb:OA}{rn rc an ac tn tc:Nat}:Ln (ie e rb rn rc ab an ac tb tn tc) 4:=⟨rfl⟩
instance{e:Int}{rb ab tb:OA}{rn rc an ac tn tc:Nat}:Gt (ie e rb rn rc ab an ac tb tn tc) 0 (.i e):=⟨rfl⟩
instance{e:Int}{rb ab tb:OA}{rn rc an ac tn tc:Nat}:Gt (ie e rb rn rc ab an ac tb tn tc) 1 (.l rb rn rc):=⟨rfl⟩
instance{e:Int}{rb ab tb:OA}{rn rc an ac tn tc:Nat}:Gt (ie e rb rn rc ab an ac tb tn tc) 2 (.l ab an ac):=⟨rfl⟩
instance{e:Int}{rb ab tb:OA}{rn rc an ac tn tc:Nat}:Gt (ie e rb rn rc ab an ac tb tn tc) 3 (.l tb tn tc):=⟨rfl⟩
def yk{e:Int}{rb:OA}{rn rc:Nat}{ab:OA}{an ac:Nat}{tb:OA}{tn tc:Nat}:∀v∈ie e rb rn rc ab an ac tb tn tc,v.oneCell'=true:=λv h=>by
 simp[ie] at h;rcases h with rfl|rfl|rfl|rfl<;>rfl
instance{x1 x2 x3 x4:Value}{e:Int}{rb:OA}{rn rc:Nat}{ab:OA}{an ac:Nat}{tb:OA}{tn tc:Nat}:Wr [x1,x2,x3,x4] 0 (ie e rb rn rc ab an ac tb tn tc) (ie e rb rn rc ab an ac tb tn tc):=⟨rfl,aC _,yk⟩
instance{x1 x2 x3 x4:Value}{e:Int}{rb:OA}{rn rc:Nat}{ab:OA}{an ac:Nat}{tb:OA}{tn tc:Nat}:Wr [x1,x2,x3,x4] 0 [.i e,.l rb rn rc,.l ab an ac,.l tb tn tc] (ie e rb rn rc ab an ac tb tn tc):=⟨rfl,aC _,yk⟩
instance{e:Int}{rb:OA}{rn rc:Nat}{ab:OA}{an ac:Nat}{tb:OA}{tn tc:Nat}:Sub (ie e rb rn rc ab an ac tb tn tc) 0 4 (ie e rb rn rc ab an ac tb tn tc):=⟨rfl,λj v h=>by rw[az];exact h⟩
instance{e:Int}{rb:OA}{rn rc:Nat}{ab:OA}{an ac:Nat}{tb:OA}{tn tc:Nat}:Sub [.i e,.l rb rn rc,.l ab an ac,.l tb tn tc] 0 4 (ie e rb rn rc ab an ac tb tn tc):=⟨rfl,λj v h=>by rw[az];exact h⟩
def na(q:iA):Bool:=
 if q.op=1 then decide (1<=q.aB.length)&&decide (q.aB.length<=8) else if q.op=2 then decide (1<=q.cx.length)&&decide (q.cx.length<=8) else if q.op=3 then decide (0<=q.now)&&decide (q.now<=1099511627776) else false
def fN(q:iA):Bool:=decide (q.op=1\/q.op=2\/q.op=3)
def bo(m:aK):aO:=⟨m.eS.map (Md.full m.ax),m.ax,m.clock,m.aw⟩
def wy(m:aK):mC (bo m) m:=⟨rfl,rfl,rfl,rfl⟩
def Ez{b:aO}{m:aK}(h:mC b m):b=bo m:=by
 obtain⟨h1,h2,h3,h4⟩:=h;cases b
 simp only at h1 h2 h3 h4;subst h1 h2 h3 h4;rfl
def cC(m:aK)(q:iA):Int×List Int×aK:=
 if na q=false then(1,[],m)
 else if q.op=1 then(0,iQ aK.make xz q.aB.length m q.aB)
 else if q.op=2 then(0,iQ aK.qC y7 q.cx.length m q.cx)
 else(0,[],m.time q.now)
def Od{m:aK}(hg:Md.cR m)(l:List bp)(n:Nat):(iQ aO.make xz n (bo m) l).1=(iQ aK.make xz n m l).1/\(iQ aO.make xz n (bo m) l).2=bo (iQ aK.make xz n m l).2/\Md.cR (iQ aK.make xz n m l).2:=by
 obtain⟨h1,h2⟩:=yf (f:=aO.make) (g:=aK.make) (R:=λ(b:aO)(m:aK)=>mC b m/\Md.cR m) xz (λs t x h=>h.1.make h.2) n l (bo m) m ⟨wy m,hg⟩;exact⟨h1,Ez h2.1,h2.2⟩
def Q'{m:aK}(hg:Md.cR m)(l:List cj)(n:Nat):(iQ aO.qC y7 n (bo m) l).1=(iQ aK.qC y7 n m l).1/\(iQ aO.qC y7 n (bo m) l).2=bo (iQ aK.qC y7 n m l).2/\Md.cR (iQ aK.qC y7 n m l).2:=by
 obtain⟨h1,h2⟩:=yf (f:=aO.qC) (g:=aK.qC) (R:=λ(b:aO)(m:aK)=>mC b m/\Md.cR m) y7 (λs t x h=>h.1.qC h.2) n l (bo m) m ⟨wy m,hg⟩;exact⟨h1,Ez h2.1,h2.2⟩
section
variable {W:World} {L R:LH} {K:VK} {X:WK} {p:Nat} {q:iA} {s:rY}
def T.V2{A B C D:HP}(h:T W (D::A::B::C::R) X):T W (A::B::C::D::R) X:=T.perm h (bC (l₁:=[A,B,C]) (l₂:=[D])|>.append_right R)
def KC(h:T W L (K (.b (na q)))):T W L (qB (ff q s) K):=by
 unfold qB;apply ws;intros;apply dz<;>intro g1
 ·have g1:q.op=1:=by simpa using g1
  unfold na at h;rw[aj g1] at h;apply ws;apply gO<;>intro g2
  ·rw[aA (by omega),dX] at h;apply ws;apply T.fin (T.dp h);congr 1;rw[decide_eq_decide];omega
  ·rw[ay (by omega),gI] at h;exact T.dp h
 have g1: ¬q.op=1:=by simpa using g1
 apply dz<;>intro g2
 ·have g2:q.op=2:=by simpa using g2
  unfold na at h;rw[ah g1,aj g2] at h;apply ws;apply gO<;>intro g2
  ·rw[aA (by omega),dX] at h;apply ws;apply T.fin (T.dp h);congr 1;rw[decide_eq_decide];omega
  ·rw[ay (by omega),gI] at h;exact T.dp h
 have g2: ¬q.op=2:=by simpa using g2
 unfold na at h;rw[ah g1,ah g2] at h;apply dz<;>intro g3
 ·have g3:q.op=3:=by simpa using g3
  rw[aj g3] at h;apply ws;apply gO<;>intro g2
  ·rw[aA (by omega),dX] at h;apply ws;exact T.dp h
  ·rw[ay (by omega),gI] at h;exact T.dp h
 have g3: ¬q.op=3:=by simpa using g3
 rw[ah g3] at h;exact T.dp h
def zN(h:T W L (K (.b (fN q)))):T W L (nU (ff q s) K):=by
 unfold nU;unfold fN at h;apply ws;intros;apply dz<;>intro g1
 ·have g1:q.op=1:=by simpa using g1
  rw[aA (.inl g1)] at h;exact T.dp h
 have g1: ¬q.op=1:=by simpa using g1
 apply ws;apply dz<;>intro g2
 ·have g2:q.op=2:=by simpa using g2
  rw[aA (.inr (.inl g2))] at h;exact T.dp h
 have g2: ¬q.op=2:=by simpa using g2
 apply ws;apply T.fin (T.dp h)
 congr 1
 rw[ec];simp[g1,g2]
def BG{b:aO}{hs:List C}{f:aO×List C->LH}[i:Lc (bX p) L (b,hs) f](hl:hs.length<1000000)(h:T W (f (b,[])) (K (.tuple ⟨[]⟩))):T W L (iK (ai p) K):=λw hw=>by
 obtain⟨k,hk,e1⟩:=i.at_;have h1:=hw.focus hk;obtain⟨hg,h2⟩:=h1.and;refine(show T W (cP p (dT b,hs)::L.eraseIdx k) _ from ?_) w h2;unfold iK;apply ws;apply Tn (p:=p) hl;apply ws;intro w2 Zm;apply h w2;rw[e1];exact St.oS (A:=bX p (b,hs)) (St.and_intro hg Zm) hk
def GY(G:nX W){m:aK}(hg:Md.cR m)(hq:qE W R q s)(hA:q.op=1->∀a∈q.aB,wD a)(hT:q.op=2->∀t∈q.cx,TOk t)
 (h:∀rb rc,Md.cR (cC m q).2.2->T W (bX p (bo (cC m q).2.2,[])::own rb (cC m q).2.1.length rc 1 ((cC m q).2.1.flatMap I1)::R) (K (.agg ⟨ie (cC m q).1 rb (cC m q).2.1.length rc none 0 0 none 0 0⟩))):
 T W (bX p (bo m,[])::R) (tG (ai p) (ff q s) K):=by
 unfold tG
 repeat' first|apply ws;intros|apply wb|refine KC ?_
 cases ge:na q with
 |false=>
  have e:cC m q=(1,[],m):=by unfold cC;rw[aj ge]
  rw[e] at h;apply ws;refine T.drop (T.drop ?_);refine jr (e:=1) ?_;exact T.perm (h none 0 hg) (bA.swap _ _ _)
 |true=>
  apply ws;intros;apply dz<;>intro g1
  ·have g1:q.op=1:=by simpa using g1
   have e:cC m q=(0,iQ aK.make xz q.aB.length m q.aB):=by unfold cC;rw[ah (by rw[ge];decide),aj g1]
   rw[e] at h;dsimp only at h;have hlen:1<=q.aB.length/\q.aB.length<=8:=by
    unfold na at ge;rw[aj g1] at ge;simpa using ge
   obtain⟨s1,s2,s3⟩:=Od hg q.aB q.aB.length;apply ws;apply T.V2;refine V0 G (hs:=[]) (R:=_::_::_::R) hq.aB.mono hq.ca (hA g1) ⟨m,wy m,hg⟩ (by omega) (by show 0+_<_;omega) λr dM HG his ZF=>?_;rw[s1,s2];rw[s1] at ZF;apply ws;refine BG (p:=p) (by have:dM.length<=0+_:=HG;omega) ?_;apply ws;have:=h (ai r) q.aB.length s3;rw[ZF] at this;apply T.sub this;exact sg
  have g1: ¬q.op=1:=by simpa using g1
  apply dz<;>intro g2
  ·have g2:q.op=2:=by simpa using g2
   have e:cC m q=(0,iQ aK.qC y7 q.cx.length m q.cx):=by unfold cC;rw[ah (by rw[ge];decide),ah g1,aj g2]
   rw[e] at h;dsimp only at h;have hlen:1<=q.cx.length/\q.cx.length<=8:=by
    unfold na at ge;rw[ah g1,aj g2] at ge;simpa using ge
   obtain⟨s1,s2,s3⟩:=Q' hg q.cx q.cx.length;apply ws;apply T.V2;refine VZ G (hs:=[]) (R:=_::_::_::R) hq.cx.mono hq.ct (hT g2) ⟨m,wy m,hg⟩ (by omega) (by show 0+_<_;omega) λr dM HG his ZF=>?_;rw[s1,s2];rw[s1] at ZF;apply ws;refine BG (p:=p) (by have:dM.length<=0+_:=HG;omega) ?_;apply ws;have:=h (ai r) q.cx.length s3;rw[ZF] at this;apply T.sub this;exact sg
  ·have g2: ¬q.op=2:=by simpa using g2
   have g3:q.op=3/\0<=q.now/\q.now<=1099511627776:=by
    unfold na at ge;rw[ah g1,ah g2] at ge;by_cases g3:q.op=3
    ·rw[aj g3] at ge;exact⟨g3,by simpa using ge⟩
    ·rw[ah g3] at ge;cases ge
   have e:cC m q=(0,[],m.time q.now):=by unfold cC;rw[ah (by rw[ge];decide),ah g1,ah g2]
   rw[e] at h;dsimp only at h;apply ws;apply T.V2;intro w hw;refine⟨W,_::_::_::R,p,bo m,m,[],rfl,hw,wy m,hg,by simp,λn b' dM w' xC L8 hl1 hw1=>?_⟩;have hb:=Ez xC;subst hb;refine T.at ?_ hw1;apply ws;apply BG (p:=p) (by omega);apply ws;have:=h none 0 L8;refine jr (e:=1) (T.Ij ?_);apply T.sub this
   repeat (first|exact cm.refl _|apply cm.cons_cons|apply cm.cons)
end
end Go.Up
