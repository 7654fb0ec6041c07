/- Part of the proof: see the last text. -/
import Derived.Test.YtibneekkkdnmgaaGreatDoorPD
import Derived.Test.YtibneekkkdnmgaaGreatDoorPB
import Derived.Test.YtibneekkkdnmgaaGreatDoorPA
set_option linter.all false
set_option maxRecDepth 100000
set_option synthInstance.maxSize 100000
open Bool renaming eq_iff_iff→bV,false_eq_true→cB,false_ne_true→cG,and_eq_true→dW,true_and→dV,false_and→fD
open Decidable renaming not_not→bh
open Go.IntKind renaming i64→aa
open Int renaming toNat_natCast→ao,tmod_eq_emod_of_nonneg→dN,fdiv_eq_ediv_of_nonneg→F3,eq_ofNat_of_zero_le→bm,le_refl→sH
open List renaming length_append→au,length_cons→bt,append_nil→bI,length_nil→cH,Perm→bU,nil_append→de,getElem?_eq_some_iff→aw,perm_append_comm→bu,mem_of_getElem?→cb,mem_or_eq_of_mem_set→eY,length_set→iP,getElem?_eq_getElem→aj,length_take→aD,append_assoc→aH,take_length→aR,length_drop→aS,take_add_one→a8,Sublist→ba,length_map→bP,getElem_mem→bR,map_cons→cN,map_append→cR,drop_eq_getElem_cons→gO,mem_cons_of_mem→gW,getElem?_append_right→iz,drop_zero→iQ,mem_cons→jB,take_zero→nG,mem_cons_self→pv,length_singleton→pD,mem_map→cw,mem_append→dF,find?_eq_none→mW,set_set→jk,getElem?_cons_succ→bO,getElem?_append_left→dB,take_of_length_le→bM,getElem?_set→dc,take_append_drop→dj,drop_of_length_le→ga,drop_drop→jz,getElem?_of_mem→qj,getElem?_drop→rW,take_take→xz,flatMap_cons→iB,filter_cons_of_pos→kT,filter_cons_of_neg→kU,flatMap_append→fQ,getElem?_map→eK,getElem?_range→qO,map_congr_left→dS,map_map→oU,perm_middle→iy,mem_filter→pU,map_nil→ud
open Nat renaming zero_add→aC,le_refl→aG,min_eq_left→qG,pow_succ→y8,zero_le→aE,add_zero→dZ,pow_le_pow_right→gv,mul_le_mul_right→ie,sub_self→lu,add_mul→lO,mul_comm→vB,le_trans→y9,mod_eq_of_lt→fw
open Option renaming map_some→eW,some→bE
namespace Go.Up
open Go.Sep Go.Den Go.RowKit Go.Prog Go.Md Go.cD
instance aa8{m:aA}{mb kb:OA}{mc kc:Nat}{c:Int}:Wr (FX m mb mc kb kc) 3 [.i c] (FX {m with ay:=c} mb mc kb kc):=⟨rfl,by show 4<=4;decide,λv h=>by simp at h;subst h;rfl⟩
instance abR{m:aA}{mb kb b:OA}{mc kc n c:Nat}:Wr (FX m mb mc kb kc) 1 [.l b n c] [.l mb m.cy.length mc,.l b n c,.i m.clock,.i m.ay]:=⟨rfl,by show 2<=4;decide,λv h=>by simp at h;subst h;rfl⟩
instance abQ{m:aA}{mb kb b:OA}{mc kc n c:Nat}:Wr (FX m mb mc kb kc) 0 [.l b n c] [.l b n c,.l kb m.ax.length kc,.i m.clock,.i m.ay]:=⟨rfl,by show 1<=4;decide,λv h=>by simp at h;subst h;rfl⟩
section
variable {W w2:World} {L R:LH} {K:VK} {p:Nat} {a:bC} {t u:cE} {m:aA} {mb kb:OA} {mc kc:Nat}
def Ip{fate:Int}(hn:m.ax.length<1000000)(hs:0<=m.ay/\m.ay<1000000)
 (h:∀b c,T W (ML p (m.mD t u fate) mb mc b c R) (K (.tuple ⟨[]⟩))):T W (ML p m mb mc kb kc R) (gT (ah p) (aL t) (aL u) fate K):=by
 unfold gT;have e1:aa.wrap (m.ay+1)=m.ay+1:=aW (by omega);apply ws;intros;rw[e1];refine jm (b:=kb) (g:=bG) (l:=m.ax) (x:=⟨t,{u with ay:=m.ay+1,jj:=m.clock},fate⟩) (bI _) rfl rfl (by show(m.ax.length+1)* 264<=_;omega) (by show m.ax.length+1<=_;omega) (mC _) λb' c'=>?_;apply ws;have:=h b' c';unfold aA.mD ML FX at this;simp only[au,bt,cH,aC] at this;refine T.sub this ?_;exact qv
end
section
variable {W:World} {L R:LH} {K:VK} {X:WK} {p r e:Nat} {A B:HP} {m:aA} {mb kb:OA} {mc kc:Nat}
def Bv(e:Nat)(h:T W (own (ah r) 0 0 e []::L) X):T W (Sep.pt r []::L) X:=λw hs=>
 h w (St.BH (k:=0) (L:=Sep.pt r []::L) (xs:=[]) (sp:=[]) (n:=0) (c:=0) (e:=e) (by simp) (by simp) (aG _) (by simp) hs)
def T.swap(h:T W (B::A::L) X):T W (A::B::L) X:=T.perm h (bU.swap _ _ _)
def T.RR{C:HP}(h:T W (A::C::B::L) X):T W (A::B::C::L) X:=T.perm h ((bU.swap _ _ _).cons _)
def Iq(hm:m.cy.length<1000000)(hn:m.ax.length<1000000)
 (h:∀p2 mb2 mc2 kb2 kc2,T W (ML p2 m mb2 mc2 kb2 kc2 (ML p m mb mc kb kc R)) (K (.p (ah p2)))):T W (ML p m mb mc kb kc R) (gU (ah p) K):=by
 unfold gU
 repeat' first|apply ws;intros|apply wb
 ·rename_i r1;refine Bv 14 ?_;refine rB (l0:=([]:List bC)) (l1:=m.cy) jx rfl (by omega) iv λb2 c2=>?_;rw[aC,de];apply ws;intros;refine Bv 33 ?_;refine rB (l0:=([]:List bW)) (l1:=m.ax) je rfl (by omega) mC λb3 c3=>?_;rw[aC,de];apply ws;intros;exact T.RR (h _ _ _ _ _)
 ·rename_i r1 r4;refine T.swap ?_;refine Bv 14 ?_;refine rB (l0:=([]:List bC)) (l1:=m.cy) jx rfl (by omega) iv λb2 c2=>?_;rw[aC,de];refine T.swap ?_;apply ws;refine Bv 33 ?_;refine rB (l0:=([]:List bW)) (l1:=m.ax) je rfl (by omega) mC λb3 c3=>?_;rw[aC,de];apply ws;intros;exact T.RR (h _ _ _ _ _)
 ·rename_i r6 r7;refine Bv 14 ?_;refine rB (l0:=([]:List bC)) (l1:=m.cy) jx rfl (by omega) iv λb2 c2=>?_;rw[aC,de];refine T.swap ?_;apply ws;refine Bv 33 ?_;refine rB (l0:=([]:List bW)) (l1:=m.ax) je rfl (by omega) mC λb3 c3=>?_;rw[aC,de];apply ws;intros;exact T.RR (h _ _ _ _ _)
end
section
variable {W:World} {L R:LH} {K:VK} {X:WK} {p r e:Nat} {a:bC} {m:aA} {mb kb:OA} {mc kc:Nat}
def Ui{ks:List bW}(hl:ks.length=m.ax.length)(h:T W (ML p {m with ax:=ks} mb mc kb kc R) X):T W (Sep.pt p (FX m mb mc kb kc)::own mb m.cy.length mc 14 (m.cy.flatMap aK)::own kb m.ax.length kc 33 (ks.flatMap bG)::R) X:=by
 unfold ML FX at h;rw[hl] at h;exact h
def PM{Xb i id:Nat}{x:bW}(hm:m.cy.length<1000000)(hn:m.ax.length<1000000)(gx:m.ax[Xb]?=some x)(hi:EZ (λx:bC=>decide (x.id=id)) m.cy=(i:Int))(hx:m.cy[i]?=some a)(ha:LD a)(hk:∀k∈m.ax,RkK k)
 (h:T W (ML p m mb mc kb kc R) (K (.b (decide (8<=((m.ax.set Xb {x with fate:=3}).foldl vX a).ak))))):T W (ML p m mb mc kb kc R) (gu (ah p) (nm id) (Xb:Int) K):=by
 unfold gu;have hbl:=(aw.1 gx).1;have SW:RkK x:=hk x (cb gx);apply ws;intros;rename_i r1;refine T.perm (L:=ML p m mb mc kb kc (Sep.pt r1 (nm id)::R)) ?_ (bu (l₁:=[Sep.pt r1 (nm id)]) (l₂:=[_,_,_])|>.append_right R);refine Iq hm hn λp2 mb2 mc2 kb2 kc2=>?_;apply ws;refine dM (b:=kb2) ⟨by omega,by omega⟩ λrb hb=>?_;rw[ao];subst hb;refine NQ ?_;refine DZ (o:=Xb) (x:=x) (y:={x with fate:=3}) je gx rfl (by decide) rfl ?_;apply ws;refine Ui (ks:=m.ax.set Xb {x with fate:=3}) iP ?_;refine wS (m:={m with ax:=m.ax.set Xb {x with fate:=3}}) hm ?_;rw[hi];apply ws;refine AK (m:={m with ax:=m.ax.set Xb {x with fate:=3}}) (by rw[iP];exact hn) hx ha (λk rq=>?_) ?_
 ·rcases eY rq with hh|hh
  ·exact hk k hh
  ·subst hh;exact SW
 apply ws;intro w hw;refine⟨_,rfl,?_⟩
 revert w hw
 show T W _ _;apply ws;refine T.sub h ?_;exact qv
end
section
variable {W:World} {L R:LH} {K:VK} {X:WK} {t u:cE}
def PS(h:T W L (K (.agg ⟨nm (bB-1)⟩))):T W L (nS K):=by
 unfold nS;apply ws;intros;exact T.dp h
def EB(ht:0<=t.ak/\t.ak<1000000)(hu:0<=u.ak/\u.ak<1000000)(h:T W L (K (.i (sE t u)))):T W L (kP (aL t) (aL u) K):=by
 unfold kP;unfold sE at h
 repeat' first|apply ws;intros|apply wb|with_reducible refine dD (by decide) ?_
 rw[xp ht.1 ht.2 (by decide)]
 repeat' first|apply ws|apply wb|with_reducible refine dD (by decide) ?_
 rw[xp hu.1 hu.2 (by decide)]
 repeat' first|apply ws|apply wb|refine XP ?_
 apply fV<;>intro g1
 ·rw[ai g1] at h;exact T.dp h
 ·rw[ag g1] at h;exact T.dp h
end
def N2{m j:Nat}(hj:j<=64):shr .u64 (m:Int) (j:Int)=((m/2^j:Nat):Int):=by
 unfold shr;rw[ao,show min j IntKind.u64.bits=j from qG hj,F3 _ (by exact Int.le_of_lt (Int.pow_pos (by decide)))];rw[show((2:Int)^j)=((2^j:Nat):Int) by push_cast;rfl];exact(Int.natCast_ediv _ _).symm
def O7(m:Nat):aa.wrap (((m:Nat):Int).tmod (2:Int))=((m%2:Nat):Int):=by
 rw[dN (by omega)];rw[aW (by omega)];omega
section
variable {W:World} {L R:LH} {K:VK} {X:WK}
def td{n j:Nat}(hn:n<bB)(hj:j<128)(h:T W L (K (.i ((n/2^j%2:Nat):Int)))):T W L (fL (nm n) (j:Int) K):=by
 unfold fL;unfold nm;apply ws;intros;apply fV<;>intro g1
 ·obtain⟨i,rfl⟩:∃i:Nat,j=64+i:=⟨j-64,by omega⟩;have e1:aa.wrap (((64+i:Nat):Int) -64)=(i:Int):=by rw[aW (by omega)];omega
  have e2:IntKind.u64.wrap (i:Int)=(i:Int):=by rw[Go.Up.rX];omega
  rw[e1,e2];apply ws;refine dD (by omega) ?_;refine dD (by decide) ?_;rw[N2 (by omega),O7];have e3:n/2^(64+i)=n/18446744073709551616/2^i:=by rw[Nat.div_div_eq_div_mul,Nat.pow_add]
  rw[e3] at h;exact T.dp h
 ·have e2:IntKind.u64.wrap (j:Int)=(j:Int):=by rw[Go.Up.rX];omega
  rw[e2];apply ws;refine dD (by omega) ?_;refine dD (by decide) ?_;rw[N2 (by omega),O7];have e3:n%18446744073709551616/2^j%2=n/2^j%2:=by
   rw[show(18446744073709551616:Nat)=2^j* 2^(64-j) by rw[<-Nat.pow_add,show j+(64-j)=64 by omega],Nat.mod_mul_right_div_self];exact Nat.mod_mod_of_dvd _ ⟨2^(63-j),by rw[show 64-j=1+(63-j) by omega,Nat.pow_add]⟩
  rw[e3];exact T.dp h
end
def A7(a i:Nat):a/2^i/2=a/2^(i+1):=by rw[Nat.div_div_eq_div_mul,y8]
def SJ{a b i:Nat}(h:a/2^(i+1)=b/2^(i+1))(kd:a/2^i%2≠b/2^i%2):decide (((a/2^i%2:Nat):Int)<((b/2^i%2:Nat):Int))=decide (a<b):=by
 rw[<-A7,<-A7] at h;rw[decide_eq_decide]
 constructor
 ·intro hl;have:a/2^i<b/2^i:=by omega
  exact Nat.lt_of_not_le λhh=>aT (Nat.div_le_div_right (c:=2^i) hh) (by omega)
 ·intro hl;have:=Nat.div_le_div_right (c:=2^i) (Nat.le_of_lt hl);omega
section
variable {W:World} {L R:LH} {K:VK} {X:WK}
def uf{a b:Nat}(ha:a<bB)(hb:b<bB)(h:T W L (K (.b (decide (a<b))))):T W L (gH (nm a) (nm b) K):=by
 unfold gH;apply ws;intros;rename_i r1 r2;intro w jW;refine⟨λvv w=>∃j:Nat,j<=128/\a/2^j=b/2^j/\vv=[.p (some (ad r1 0)),.p (some (ad r2 0)),.b false,.i ((j:Int) -1)]/\St W w (Sep.pt r2 (nm b)::Sep.pt r1 (nm a)::L),
  λvs _=>match vs with|[_,_,_,.int _ d]=>(d+1).toNat|_=>0,⟨128,aG _,by rw[Nat.div_eq_of_lt (show a<2^128 from ha),Nat.div_eq_of_lt (show b<2^128 from hb)],rfl,jW⟩,?_⟩
 rintro a1 a2 b1 n1 w2 ⟨j,hj,heq,e,gX⟩;cases e
 refine T.at ?_ gX;apply fV<;>intro g1
 ·obtain⟨i,rfl⟩:∃i:Nat,j=i+1:=⟨j-1,by omega⟩;have e1:(((i+1:Nat):Int) -1)=(i:Int):=by omega
  have e2:aa.wrap ((i:Int) -1)=(i:Int) -1:=aW (by omega);rw[e1,e2];apply ws;refine td ha (by omega) ?_;apply ws;refine td hb (by omega) ?_;apply ws;apply dh<;>intro g2
  ·have g2:a/2^i%2≠b/2^i%2:=λhh=>by rw[hh] at g2;simp at g2
   apply ws;refine td ha (by omega) ?_;apply ws;refine td hb (by omega) ?_;apply ws;rw[SJ heq g2];exact T.dp h
  ·have g2:a/2^i%2=b/2^i%2:=by
    have: ¬((a/2^i%2:Nat):Int)≠((b/2^i%2:Nat):Int):=λhh=>by rw[fy.2 hh] at g2;cases g2
    omega
   exact λw3 h3=>⟨⟨i,by omega,by have h1:=A7 a i;have h2:=A7 b i;omega,rfl,h3⟩,by show((i:Int) -1+1).toNat<((i:Int)+1).toNat;omega⟩
 ·have hz:j=0:=by omega
  subst hz;rw[Nat.pow_zero,Nat.div_one,Nat.div_one] at heq;rw[aq (by omega)] at h;exact T.dp h
end
section
variable {W:World} {L R:LH} {K:VK} {X:WK}
def Ev{a b:Nat}(ha:a<bB)(hb:b<bB)(h:T W L (K (.agg ⟨nm (if a<b then a else b)⟩))):T W L (kN (nm a) (nm b) K):=by
 unfold kN;apply ws;intros;refine uf ha hb ?_;by_cases g1:a<b
 ·rw[ai g1] at h;rw[av g1];apply ws;exact T.dp h
 ·rw[ag g1] at h;rw[aq g1];apply ws;exact T.dp h
end
section
variable {W:World} {L R:LH} {K:VK} {X:WK} {t:cE}
def Gk(ht:0<=t.ak/\t.ak<1000000)(h:T W L (K (.b (decide (iY t.ak))))):T W L (bJ (aL t) K):=by
 have he:iY t.ak↔ ¬(has t.ak 2/\has t.ak 4\/has t.ak 2/\has t.ak 8\/has t.ak 4/\has t.ak 8)/\ ¬((has t.ak 4\/has t.ak 8)/\16<=t.ak)/\(t.ak<64\/has t.ak 2):=Iff.rfl;obtain⟨b2,h2⟩:∃b,b=decide (has t.ak 2):=⟨_,rfl⟩;obtain⟨b4,h4⟩:∃b,b=decide (has t.ak 4):=⟨_,rfl⟩;obtain⟨b8,h8⟩:∃b,b=decide (has t.ak 8):=⟨_,rfl⟩;have H2:∀{L':LH} {K':VK},T W L' (K' (.b b2))->T W L' (bS (aL t) 2 K'):=λhh=>kK ht (by decide) (by rw[<-h2];exact hh);have H4:∀{L':LH} {K':VK},T W L' (K' (.b b4))->T W L' (bS (aL t) 4 K'):=λhh=>kK ht (by decide) (by rw[<-h4];exact hh);have H8:∀{L':LH} {K':VK},T W L' (K' (.b b8))->T W L' (bS (aL t) 8 K'):=λhh=>kK ht (by decide) (by rw[<-h8];exact hh);have hE:∀{L':LH} {K':VK},T W L' (K' (.b (b4||b8)))->T W L' (gG (aL t) K'):=λ{L'} {K'} hh=>vY ht (by
  have e:decide (jA t.ak)=(b4||b8):=by rw[h4,h8];exact Bool.decide_or (has t.ak 4) (has t.ak 8)
  rw[e];exact hh)
 unfold bJ bJ.j3 bJ.j4 bJ.j1 bJ.j2;have h2:=h2.symm;have h4:=h4.symm;have h8:=h8.symm;cases b2<;>cases b4<;>cases b8<;>simp only[decide_eq_true_eq,decide_eq_false_iff_not] at h2 h4 h8<;>simp only[Bool.or_true,Bool.or_false,Bool.true_or,Bool.false_or] at hE
 all_goals
  repeat' first|apply ws;intros|apply wb|first|refine H2 ?_|refine H4 ?_|refine H8 ?_|refine hE ?_|apply dh<;>intro h1
 all_goals
  refine T.fin (T.dp h) ?_
  congr 1
  clear H2 H4 H8 hE h
  (try simp only[decide_eq_true_eq,decide_eq_false_iff_not] at *)
  rw[bV,decide_eq_true_eq,he];simp only[h2,h4,h8,Bool.true_eq_false,cB,eq_self,true_and,and_true,false_and,and_false,or_true,or_false,true_or,false_or,not_true_eq_false,not_false_eq_true,true_iff,false_iff]
  try omega
end
def Rd(d:Nat):LV:=[.i (d:Int)]
def Dy(d:Nat):(Rd d).length=1:=rfl
def vN:List Nat->Nat
 |[]=>0
 |d::l=>d* 10^l.length+vN l
def vj(l:List Nat):List UInt8:=l.map λd=>UInt8.ofNat (48+d)
def Dx:∀(l:List Nat),(∀d∈l,d<10)->vN l<10^l.length
 |[],_=>by show 0<1;decide
 |d::l,h=>by
  have ih:=Dx l (λx hx=>h x (gW _ hx));have hd:=h d pv;have:d* 10^l.length<=9* 10^l.length:=ie _ (by omega);simp only[vN,bt,y8];omega
def K8:∀(l m:List Nat),(∀d∈l,d<10)->(∀d∈m,d<10)->l.length=m.length->vN l=vN m->l=m
 |[],m,_,_,hl,_=>by cases m with|nil=>rfl|cons a b=>simp at hl
 |d::l,[],_,_,hl,_=>by simp at hl
 |d::l,e::m,h1,h2,hl,hv=>by
  have Qo:l.length=m.length:=by simpa using hl
  have a1:=Dx l (λx hx=>h1 x (gW _ hx));have a2:=Dx m (λx hx=>h2 x (gW _ hx));simp only[vN,Qo] at hv a1;have hp:0<10^m.length:=Nat.pow_pos (by decide);have hde:d=e:=by
   have e1:(d* 10^m.length+vN l)/10^m.length=d:=by rw[vB,Nat.mul_add_div hp,Nat.div_eq_of_lt a1,dZ]
   have e2:(e* 10^m.length+vN m)/10^m.length=e:=by rw[vB,Nat.mul_add_div hp,Nat.div_eq_of_lt a2,dZ]
   rw[<-e1,hv,e2]
  subst hde;rw[K8 l m (λx hx=>h1 x (gW _ hx)) (λx hx=>h2 x (gW _ hx)) Qo (by omega)]
structure GC(a j:Nat)(l:List Nat):Prop where
 val:vN l=a/2^j
 small:∀d∈l,d<10
 norm:l.length=1\/10^(l.length-1)<=vN l
 len:1<=l.length/\l.length<=129-j
def GC.step{a j c:Nat}{l tl:List Nat}(h:GC a (j+1) l)(hj:j<128)(hl:tl.length=l.length)(ht:∀d∈tl,d<10)(hc:c<=1)(he:2* vN l+a/2^j%2=c* 10^l.length+vN tl):
 (c=0->GC a j tl)/\(0<c->GC a j (c::tl)):=by
 have hv:=h.val;have h2:=A7 a j;have hle:=h.len;have e:2* vN l+a/2^j%2=a/2^j:=by rw[hv,<-h2];omega
 refine⟨λh0=>?_,λh0=>?_⟩
 ·subst h0;rw[Nat.zero_mul,aC] at he;refine⟨by rw[<-he,e],ht,?_,by rw[hl];omega⟩;rw[hl];rcases h.norm with hn|hn
  ·exact .inl hn
  ·exact .inr (by omega)
 ·have h1:c=1:=by omega
  subst h1;refine⟨by simp only[vN,hl];omega,λd hd=>?_,.inr ?_,by simp only[bt,hl];omega⟩
  ·rcases jB.1 hd with hd|hd
   ·omega
   ·exact ht d hd
  ·simp only[vN,bt,Nat.add_sub_cancel];omega
def GC.first{a:Nat}(ha:a<bB):GC a 128 [0]:=⟨by rw[Nat.div_eq_of_lt (show a<2^128 from ha)];rfl,λd hd=>by simp at hd;omega,.inl rfl,by simp⟩
def QF:List Nat:=[3,4,0,2,8,2,3,6,6,9,2,0,9,3,8,4,6,3,4,6,3,3,7,4,6,0,7,4,3,1,7,6,8,2,1,1,4,5,5]
def HC:∀(l m:List Nat),(∀d∈l,d<10)->(∀d∈m,d<10)->vj l=vj m->l=m
 |[],[],_,_,_=>rfl
 |[],e::m,_,_,h=>by simp[vj] at h
 |d::l,[],_,_,h=>by simp[vj] at h
 |d::l,e::m,h1,h2,h=>by
  simp only[vj,cN,List.cons.injEq] at h;obtain⟨hd,ht⟩:=h;have b1:=h1 d pv;have b2:=h2 e pv;have:d=e:=by
   have:=congrArg UInt8.toNat hd;simp only[UInt8.toNat_ofNat'] at this;omega
  subst this;rw[HC l m (λx hx=>h1 x (gW _ hx)) (λx hx=>h2 x (gW _ hx)) ht]
def GC.last{a:Nat}{l:List Nat}(h:GC a 0 l):(vj l=vj QF↔a=bB-1):=by
 have hv:vN l=a:=by have:=h.val;rwa[Nat.pow_zero,Nat.div_one] at this
 have hmx:∀d∈QF,d<10:=by decide
 have tp:vN QF=bB-1:=by decide+kernel
 constructor
 ·intro he;have:=HC l QF h.small hmx he;rw[<-hv,this,tp]
 ·intro he;have hlen:l.length=39:=by
   have h1:=Dx l h.small;rw[hv,he] at h1;rcases h.norm with hn|hn
   ·rw[hn] at h1;exact aT h1 (by decide)
   ·rw[hv,he] at hn;have a1:l.length-1<39:=Nat.lt_of_not_le λhh=>aT (y9 (gv (by decide) hh) hn) (by decide+kernel);have a2:38<l.length:=Nat.lt_of_not_le λhh=>aT (Nat.lt_of_lt_of_le h1 (gv (by decide) hh)) (by decide+kernel);have:=h.len;omega
  rw[K8 l QF h.small hmx hlen (by rw[hv,he,tp])]
section
variable {W:World} {L R:LH} {K:VK} {X:WK}
def NR{r d:Nat}(h:T W (own (ah r) 1 1 1 ([d].flatMap Rd)::L) X):T W (Sep.pt r [.i (d:Int)]::L) X:=λw hs=>
 h w (St.BH (k:=0) (L:=Sep.pt r [.i (d:Int)]::L) (xs:=[d].flatMap Rd) (sp:=[]) (n:=1) (c:=1) (e:=1) (by simp) (by simp[Rd]) (aG _) (by simp) hs)
def PW{a:Nat}(ha:a<bB)(h:∀s:BA,py s (⟨#[51,52,48,50,56,50,51,54,54,57,50,48,57,51,56,52,54,51,52,54,51,51,55,52,54,48,55,52,51,49,55,54,56,50,49,49,52,53,53]⟩:BA)=decide (a=bB-1)->T W L (K (.s s))):T W L (jX (nm a) K):=by
 unfold jX;apply ws;intros;rename_i r1 r2;refine NR (d:=0) ?_;intro w jW;refine⟨λvv w=>∃(j:Nat)(l:List Nat)(b:OA)(c:Nat),j<=128/\GC a j l/\vv=[.p (some (ad r1 0)),.s .empty,.l b l.length c,.i ((j:Int) -1)]/\St W w (own b l.length c 1 (l.flatMap Rd)::Sep.pt r1 (nm a)::L),
  λvs _=>match vs with|[_,_,_,.int _ d]=>(d+1).toNat|_=>0,⟨128,[0],_,_,aG _,GC.first ha,rfl,jW⟩,?_⟩
 rintro a1 s1 Ge GQ GV n1 w2 ⟨j,l,b,c,hj,hd,e,gX⟩;cases e
 refine T.at ?_ gX;apply fV<;>intro g1
 ·obtain⟨i,rfl⟩:∃i:Nat,j=i+1:=⟨j-1,by omega⟩;have e1:(((i+1:Nat):Int) -1)=(i:Int):=by omega
  have e2:aa.wrap ((i:Int) -1)=(i:Int) -1:=aW (by omega);have hlen:=hd.len;rw[e1];apply ws;refine td ha (by omega) ?_;apply ws;rw[aW (show-9223372036854775808<=(l.length:Int) -1/\(l.length:Int) -1<=9223372036854775807 by omega)];have aep:a/2^i%2<=1:=by omega
  intro w3 vQ;refine⟨λvv w=>∃(k cc:Nat)(tl:List Nat),k<=l.length/\tl.length=l.length-k/\(∀d∈tl,d<10)/\cc<=1/\2* vN (l.drop k)+a/2^i%2=cc* 10^(l.length-k)+vN tl/\
   vv=[.p (some (ad r1 0)),.s .empty,.l Ge l.length GV,.i (i:Int),.i (cc:Int),.i ((k:Int) -1)]/\St W w (own Ge l.length GV 1 ((l.take k++tl).flatMap Rd)::Sep.pt r1 (nm a)::L),
   λvs _=>match vs with|[_,_,_,_,_,.int _ d]=>(d+1).toNat|_=>0,⟨l.length,a/2^i%2,[],aG _,by simp,(λd hd=>by cases hd),aep,by rw[List.drop_length,lu];simp[vN],rfl,by rw[aR,bI];exact vQ⟩,?_⟩
  rintro a2 s2 qI oW re n3 n4 n5 w4 ⟨k,cc,tl,hk,C3,htd,S9,Gn,e,yb⟩;cases e
  refine T.at ?_ yb;apply fV<;>intro g2
  ·obtain⟨q,rfl⟩:∃q:Nat,k=q+1:=⟨k-1,by omega⟩;have e3:(((q+1:Nat):Int) -1)=(q:Int):=by omega
   rw[e3];have gx:=aj (show q<l.length by omega);have hdx:=hd.small _ (bR (show q<l.length by omega));have KO:l.drop q=l[q]::l.drop (q+1):=gO (by omega);have xK:l.take (q+1)=l.take q++[l[q]]:=by rw[a8,gx];rfl
   generalize l[q]=d at gx hdx KO xK;have hlq:(l.take q).length=q:=by rw[aD,qG (by omega)]
   have gy:(l.take (q+1)++tl)[q]?=some d:=by
    rw[xK,aH,iz (by omega),hlq,lu];rfl
   refine dM (b:=Ge) ⟨by omega,by omega⟩ λrb hb=>?_;rw[ao];subst hb;refine D6 (g:=Rd) Dy gy rfl ?_;refine pF ?_;refine dD (by decide) ?_;refine dM (b:=some ⟨rb,0,none⟩) ⟨by omega,by omega⟩ λZv hb=>?_;rw[ao];cases hb
   have w1:aa.wrap (2* (d:Int))=2* (d:Int):=aW (by omega);have w2':aa.wrap (2* (d:Int)+(cc:Int))=((2* d+cc:Nat):Int):=by rw[aW (by omega)];omega
   have w3':((2* d+cc:Nat):Int).tmod 10=(((2* d+cc)%10:Nat):Int):=by rw[dN (by omega)];omega
   have w4':aa.wrap (((2* d+cc:Nat):Int).tdiv 10)=(((2* d+cc)/10:Nat):Int):=by rw[Int.tdiv_eq_ediv_of_nonneg (by omega),aW (by omega)];omega
   have w5':aa.wrap ((q:Int) -1)=(q:Int) -1:=aW (by omega);rw[w1,w2',w3',w4',w5'];refine DZ (o:=q) (j:=0) (x:=d) (y:=(2* d+cc)%10) (g:=Rd) Dy gy rfl (by decide) rfl ?_;refine dD (by decide) ?_;have Kz:(l.take (q+1)++tl).set q ((2* d+cc)%10)=l.take q++((2* d+cc)%10::tl):=by
    rw[xK,aH,List.set_append_right _ _ (by omega),hlq,lu];rfl
   rw[Kz];have zv:(l.drop (q+1)).length=l.length-(q+1):=aS;intro w5 OG;refine⟨⟨q,(2* d+cc)/10,(2* d+cc)%10::tl,by omega,by simp only[bt];omega,λx hx=>?_,by omega,?_,rfl,OG⟩,by show((q:Int) -1+1).toNat<((q:Int)+1).toNat;omega⟩
   ·rcases jB.1 hx with hx|hx
    ·omega
    ·exact htd x hx
   ·rw[KO];simp only[vN];rw[C3,zv,show l.length-q=(l.length-(q+1))+1 by omega,y8];generalize 10^(l.length-(q+1))=P at Gn⊢;have:2* (d* P)+cc* P=(2* d+cc)/10* (P* 10)+(2* d+cc)%10* P:=by
     have hh:2* d+cc=(2* d+cc)/10* 10+(2* d+cc)%10:=by omega
     calc 2* (d* P)+cc* P=(2* d+cc)* P:=by rw[lO,Nat.mul_assoc]
      _=((2* d+cc)/10* 10+(2* d+cc)%10)* P:=by rw[<-hh]
      _=_:=by rw[lO,Nat.mul_assoc,vB 10 P]
    omega
  ·have hz:k=0:=by omega
   subst hz;rw[iQ,Nat.sub_zero] at Gn;rw[Nat.sub_zero] at C3;rw[nG,de,e2];obtain⟨s0,s1⟩:=hd.step (by omega) C3 htd S9 Gn;apply fV<;>intro g3
   ·have g3:0<cc:=by omega
    refine dD ⟨rfl,trivial⟩ ?_;refine tS λr3=>?_;refine NR (d:=cc) ?_;rw[<-C3];refine rB (l0:=[cc]) (l1:=tl) Dy rfl (by omega) (λx v hv=>by simp[Rd] at hv;subst hv;rfl) λb2 c2=>?_;have hs:=s1 g3;refine T.sub (M:=own b2 (1+tl.length) c2 1 (([cc]++tl).flatMap Rd)::Sep.pt r1 (nm a)::L) ?_ (by repeat (first|exact ba.refl _|apply ba.cons_cons|apply ba.cons));rw[show 1+tl.length=(cc::tl).length by simp only[bt];omega];intro w6 Z0;exact⟨⟨i,cc::tl,b2,c2,by omega,hs,rfl,Z0⟩,by show((i:Int) -1+1).toNat<((i:Int)+1).toNat;omega⟩
   ·have hs:=s0 (by omega);rw[<-C3];intro w6 Z0;exact⟨⟨i,tl,_,_,by omega,hs,rfl,Z0⟩,by show((i:Int) -1+1).toNat<((i:Int)+1).toNat;omega⟩
 ·have hz:j=0:=by omega
  subst hz;have hlen:=hd.len;intro w3 vQ;refine⟨λvv w=>∃k:Nat,k<=l.length/\vv=[.s .empty,.s (bs (vj (l.take k))),.l Ge l.length GV,.i (l.length:Int),.i (k:Int)]/\St W w (own Ge l.length GV 1 (l.flatMap Rd)::Sep.pt r1 (nm a)::L),
   λvs _=>match vs with|[_,_,_,_,.int _ d]=>l.length-d.toNat|_=>0,⟨0,aE _,rfl,vQ⟩,?_⟩
  rintro s3 s4 xG vT wO n7 n8 w9 ⟨k,hk,e,hs9⟩;cases e
  refine T.at ?_ hs9;apply fV<;>intro g2
  ·have cf:k<l.length:=by omega
   have gx:=aj cf;have hdx:=hd.small _ (bR cf);have xK:l.take (k+1)=l.take k++[l[k]]:=by rw[a8,gx];rfl
   generalize l[k]=d at gx hdx xK;refine dM (b:=Ge) ⟨by omega,by omega⟩ λrb hb=>?_;rw[ao];subst hb;refine D6 (g:=Rd) Dy gx rfl ?_;refine pF ?_;refine dD ⟨rfl,trivial⟩ ?_;refine tS λr4=>?_;have e4:Value.int .u8 (IntKind.u8.wrap (aa.wrap (48+(d:Int))))=u4 (UInt8.ofNat (48+d)):=by
    have:=ue (n:=((48+d:Nat):Int)) (by omega);rw[ao] at this;rw[this,aW (by omega)]
    congr 1
    have:((48+d:Nat):Int)=48+(d:Int):=by omega
    rw[this];unfold IntKind.wrap;simp[IntKind.signed,IntKind.bits];omega
   rw[e4];refine RN (l:=[UInt8.ofNat (48+d)]) ?_;have e5:bs (vj (l.take k))++bs [UInt8.ofNat (48+d)]=bs (vj (l.take (k+1))):=by rw[lg,xK];unfold vj;rw[cR];rfl
   have e6:=nL k;refine dD ?_ ?_
   ·rw[bY,bY];unfold vj;rw[bP,aD,pD];omega
   rw[e5,e6];refine T.drop λw5 OG=>⟨⟨k+1,cf,rfl,OG⟩,by show l.length-((k+1:Nat):Int).toNat<l.length-(k:Int).toNat;omega⟩
  ·have iM:k=l.length:=by omega
   subst iM;rw[aR];refine T.drop (T.drop (h _ ?_));rw[sr,decide_eq_decide,<-hd.last];exact Ae (a:=vj l) (b:=vj QF)
end
section
variable {W:World} {L R:LH} {K:VK} {X Y:WK} {a:bC} {t:cE} {r1 r2:Nat}
def RC{n:Nat}(hn:n<bB)(h:T W L (br (decide (n=bB-1)) X Y)):T W L (jX (nm n) (xS λs1=>br (py s1 (⟨#[51,52,48,50,56,50,51,54,54,57,50,48,57,51,56,52,54,51,52,54,51,51,55,52,54,48,55,52,51,49,55,54,56,50,49,49,52,53,53]⟩:BA)) X Y)):=
 PW hn λs hs=>xU (by rw[hs];exact h)
def TH(a:bC):Int:=if a.dp≠0\/a.dq≠0\/a.cp≠0\/a.cq≠0\/a.ay≠0 then 7 else if a.aZ<=0\/4294967296<=a.aZ then 8 else if a.code<=0\/65536<=a.code then 9 else 0
def Og{b:Bool}(h:T W (Sep.pt r2 [.u 0,.u 0]::Sep.pt r1 (aK a)::L) (K (.i (if b=true then 6 else TH a)))):T W (Sep.pt r2 [.u 0,.u 0]::Sep.pt r1 (aK a)::L) (bq.j2 K r1 r2 b):=by
 unfold bq.j2 bq.j5 bq.j6 bq.j3 bq.j4;cases b with
 |true=>
  apply ws;exact h
 |false=>
  rw[ag (by decide)] at h
  repeat' first|apply ws|apply wb|apply dh<;>intro h1
  all_goals try simp only[bz] at *
  all_goals
   refine T.fin (T.dp h) ?_
   congr 1
   unfold TH
   repeat' split
  all_goals omega
def Mw(ha:wD a)(h:T W L (K (.i (tI a)))):T W L (bq (aK a) K):=by
 unfold bq bq.j1;have e:tI a=if a.ak<0\/7<a.ak then 3 else if a.id=0 then 4 else if a.id=bB-1 then 5 else if has a.ak 2/\has a.ak 4 then 6 else TH a:=rfl
 rw[e] at h;by_cases hr:0<=a.ak/\a.ak<=7
 ·rw[ag (by omega)] at h;have hf:0<=a.ak/\a.ak<1000000:=by omega
  have e1:decide (a.ak<0)=false:=aq (by omega);have e2:decide (a.ak>7)=false:=aq (by omega);apply ws;intros;rw[e1];apply ws;rw[e2];apply ws;apply fV<;>intro h1
  ·rw[ai h1] at h;exact T.dp h
  rw[ag h1] at h;apply ws;refine RC ha.id ?_;apply fV<;>intro h1
  ·rw[ai h1] at h;exact T.dp h
  rw[ag h1] at h
  repeat' first|apply ws|apply wb|refine J5 hf (by decide) ?_
  apply fV<;>intro h1
  ·repeat' first|apply ws|apply wb|refine J5 hf (by decide) ?_
   refine Og ?_;refine T.fin (T.dp h) ?_
   congr 1
   by_cases h4:has a.ak 4
   ·rw[ai (av h4),ai ⟨h1,h4⟩]
   ·rw[ag (λhh=>h4 (aQ hh)),ag (λhh=>h4 hh.2)]
  ·refine Og ?_;rw[ag (λhh=>h1 hh.1)] at h;exact T.dp h
 ·rw[ai (by omega)] at h;apply ws;intros;apply fV<;>intro h1
  ·apply ws;exact T.dp h
  ·have e2:decide (a.ak>7)=true:=av (by omega);apply ws;rw[e2];apply ws;exact T.dp h
def Dd{n:Int}(h:T W (Sep.pt r2 [.u 0,.u 0]::Sep.pt r1 (aL t)::L) (K (.i (if t.aZ<n\/4294967296<=t.aZ then 8 else if t.code<n\/65536<=t.code then 9 else 0)))):T W (Sep.pt r2 [.u 0,.u 0]::Sep.pt r1 (aL t)::L) (aV.j4 K r1 n):=by
 unfold aV.j4 aV.j5
 repeat' first|apply ws|apply wb|apply dh<;>intro h1
 all_goals try simp only[bz] at *
 all_goals
  refine T.fin (T.dp h) ?_
  congr 1
  repeat' split
 all_goals omega
def De{b:Bool}(hf:0<=t.ak/\t.ak<1000000)(h:T W (Sep.pt r2 [.u 0,.u 0]::Sep.pt r1 (aL t)::L) (K (.i (if b=true then 17 else if jA t.ak then QO t else QN t)))):T W (Sep.pt r2 [.u 0,.u 0]::Sep.pt r1 (aL t)::L) (aV.j3 K r1 r2 b):=by
 unfold aV.j3;cases b with
 |true=>
  apply ws;exact h
 |false=>
  rw[ag (by decide)] at h
  repeat' first|apply ws|apply wb|refine vY hf ?_
  apply fV<;>intro h1
  ·rw[ai h1] at h;apply ws;unfold QO at h;apply fV<;>intro h1
   ·rw[ai h1] at h;exact h
   ·rw[ag h1] at h;exact Dd h
  ·rw[ag h1] at h;unfold QN at h;apply ws;apply fV<;>intro h1
   ·rw[ai (h1)] at h;exact h
   rw[ag (h1)] at h;apply ws;apply fV<;>intro h1
   ·rw[ai (h1)] at h;exact h
   rw[ag (h1)] at h;apply ws;apply fV<;>intro h1
   ·rw[ai (h1)] at h;exact h
   rw[ag (h1)] at h;apply ws;by_cases h5:t.pending=0
   ·rw[ag (λhh=>hh h5)] at h;rw[av h5];apply ws;apply fV<;>intro h1
    ·repeat' first|apply ws|apply wb|refine kK hf (by decide) ?_
     by_cases h6:has t.ak 16
     ·rw[av h6];rw[ag (λhh=>hh.2.1 h6)] at h;apply ws;exact Dd h
     ·rw[aq h6]
      repeat' first|apply ws|apply wb|refine kK hf (by decide) ?_
      by_cases h7:has t.ak 32
      ·rw[av h7];rw[ag (λhh=>hh.2.2 h7)] at h;apply ws;exact Dd h
      ·rw[aq h7];rw[ai ⟨h1,h6,h7⟩] at h;apply ws;exact h
    ·rw[ag (λhh=>h1 hh.1)] at h;exact Dd h
   ·rw[ai h5] at h;rw[aq h5];apply ws;exact h
def zN(ht:yJ t)(h:T W L (K (.i (mT t)))):T W L (aV (aL t) K):=by
 unfold aV aV.j1;have e:mT t=if t.ak<0\/255<t.ak then 3 else if t.id=0 then 4 else if t.id=bB-1 then 5 else if ¬iY t.ak then 6
  else if t.ay≠0\/t.jj≠0 then 7 else if t.cu<0\/1073741824<t.cu\/0<t.cu/\ ¬has t.ak 2 then 17 else if jA t.ak then QO t else QN t:=rfl
 rw[e] at h;by_cases hr:0<=t.ak/\t.ak<=255
 ·rw[ag (by omega)] at h;have hf:0<=t.ak/\t.ak<1000000:=by omega
  have e1:decide (t.ak<0)=false:=aq (by omega);have e2:decide (t.ak>255)=false:=aq (by omega);apply ws;intros;rw[e1];apply ws;rw[e2];apply ws;apply fV<;>intro h1
  ·rw[ai h1] at h;exact T.dp h
  rw[ag h1] at h;apply ws;refine RC ht.id ?_;apply fV<;>intro h1
  ·rw[ai h1] at h;exact T.dp h
  rw[ag h1] at h
  repeat' first|apply ws|apply wb|refine Gk hf ?_
  by_cases h2:iY t.ak
  ·rw[ag (λhh=>hh h2)] at h;rw[av h2];apply ws;unfold aV.j2 aV.j6;by_cases h3:t.ay≠0\/t.jj≠0
   ·rw[ai h3] at h;apply dh<;>intro h1
    ·apply ws;exact T.dp h
    ·have h1:t.ay=0:=by simpa using h1
     have e3:(t.jj !=0)=true:=by rw[fy];omega
     apply ws;rw[e3];apply ws;exact T.dp h
   ·rw[ag h3] at h;have e3:(t.ay !=0)=false:=by rw[bne_eq_false_iff_eq];omega
    have e4:(t.jj !=0)=false:=by rw[bne_eq_false_iff_eq];omega
    rw[e3];apply ws;rw[e4];apply ws;apply fV<;>intro h4
    ·rw[ai (.inl h4)] at h;apply ws;refine De hf ?_;exact T.dp h
    apply ws;apply fV<;>intro h5
    ·rw[ai (.inr (.inl h5))] at h;refine De hf ?_;exact T.dp h
    apply ws;apply fV<;>intro h6
    ·repeat' first|apply ws|apply wb|refine kK hf (by decide) ?_
     refine De hf ?_;by_cases h7:has t.ak 2
     ·rw[av h7];rw[ag (by rintro(hh|hh|hh);exact h4 hh;exact h5 hh;exact hh.2 h7)] at h;exact T.dp h
     ·rw[aq h7];rw[ai (.inr (.inr ⟨h6,h7⟩))] at h;exact T.dp h
    ·refine De hf ?_;rw[ag (by rintro(hh|hh|hh);exact h4 hh;exact h5 hh;exact h6 hh.1)] at h;exact T.dp h
  ·rw[ai h2] at h;rw[aq h2];apply ws;exact T.dp h
 ·rw[ai (by omega)] at h;apply ws;intros;apply fV<;>intro h1
  ·apply ws;exact T.dp h
  ·have e2:decide (t.ak>255)=true:=av (by omega);apply ws;rw[e2];apply ws;exact T.dp h
end
def N3{j:Nat}(hj:j<64):shl .u64 1 (j:Int)=((2^j:Nat):Int):=by
 unfold shl;have h1:2^j<2^64:=Nat.pow_lt_pow_right (by decide) hj;have h2:(2:Nat)^64=18446744073709551616:=by decide
 have h3:((2:Int)^j)=((2^j:Nat):Int):=by push_cast;rfl
 rw[ao,show min j IntKind.u64.bits=j from qG (Nat.le_of_lt hj),Go.Up.rX,Int.one_mul,h3];generalize 2^j=P at h1;omega
def Cw(a i:Nat):a%2^(i+1)=a%2^i+a/2^i%2* 2^i:=by
 rw[y8,Nat.mod_mul,vB (2^i)]
section
variable {W:World} {L R:LH} {K:VK} {X Y:WK} {a:bC} {t:cE} {r1 r2:Nat}
def Si{n j:Nat}(hn:n<2^j)(hj:j<128)(h:T W L (K (.agg ⟨nm (n+2^j)⟩))):T W L (oS (nm n) (j:Int) K):=by
 unfold oS;unfold nm;apply ws;intros;apply fV<;>intro g1
 ·obtain⟨i,rfl⟩:∃i:Nat,j=64+i:=⟨j-64,by omega⟩;have e1:aa.wrap (((64+i:Nat):Int) -64)=(i:Int):=by rw[aW (by omega)];omega
  have e2:IntKind.u64.wrap (i:Int)=(i:Int):=by rw[Go.Up.rX];omega
  rw[e1,e2,N3 (by omega)];apply ws;refine dD (by omega) ?_;apply ws;have hp:2^(64+i)=18446744073709551616* 2^i:=by rw[Nat.pow_add]
  have hq:2^i<=2^63:=gv (by decide) (by omega);have Wg:(2:Nat)^63=9223372036854775808:=by decide
  have h1:n/18446744073709551616<2^i:=Nat.div_lt_of_lt_mul (by rw[<-hp];exact hn);have e3:IntKind.u64.wrap (((n/18446744073709551616:Nat):Int)+((2^i:Nat):Int))=(((n+2^(64+i))/18446744073709551616:Nat):Int):=by
   rw[Go.Up.rX,hp,Nat.add_mul_div_left _ _ (by decide)];omega
  have e4:(n+2^(64+i))%18446744073709551616=n%18446744073709551616:=by rw[hp,Nat.add_mul_mod_self_left]
  unfold nm at h;rw[e4] at h;rw[e3];exact T.dp h
 ·have IH:j<64:=by omega
  have e2:IntKind.u64.wrap (j:Int)=(j:Int):=by rw[Go.Up.rX];omega
  rw[e2,N3 IH];apply ws;refine dD (by omega) ?_;apply ws;have hq:2^j<=2^63:=gv (by decide) (by omega);have Wg:(2:Nat)^63=9223372036854775808:=by decide
  have e3:IntKind.u64.wrap (((n%18446744073709551616:Nat):Int)+((2^j:Nat):Int))=(((n+2^j)%18446744073709551616:Nat):Int):=by
   rw[Go.Up.rX];omega
  have e4:(n+2^j)/18446744073709551616=n/18446744073709551616:=by omega
  unfold nm at h;rw[e4] at h;rw[e3];exact T.dp h
def RU{a b i c out:Nat}(hv:out+b%2^i=a%2^i+c* 2^i)(c2 n2:Nat)(hn:(n2:Int)=((a/2^i%2:Nat):Int) -((b/2^i%2:Nat):Int) -(c:Int)+2* (c2:Int)):
 out+n2* 2^i+b%2^(i+1)=a%2^(i+1)+c2* 2^(i+1):=by
 rw[Cw,Cw,y8];have hh:n2+b/2^i%2+c=a/2^i%2+2* c2:=by omega
 have:=congrArg (·* 2^i) hh;simp only[lO] at this;rw[show c2* (2^i* 2)=2* c2* 2^i by rw[vB (2^i) 2,<-Nat.mul_assoc,vB c2 2]];omega
def J6{a b:Nat}(ha:a<bB)(hb:b<bB)(h:T W L (K (.tuple ⟨[.agg ⟨nm (a-b)⟩,.b (decide (b<=a))]⟩))):T W L (fK (nm a) (nm b) K):=by
 unfold fK fK.j1;apply ws;intros;refine uf ha hb ?_;apply ws;by_cases cf:a<b
 ·rw[show a-b=0 by omega,aq (by omega)] at h;rw[av cf];apply ws;exact T.dp h
 ·rw[av (by omega)] at h;rw[aq cf];apply ws;intros;rename_i r1 r2 r3 r4;intro w jW;refine⟨λvv w=>∃i c out:Nat,i<=128/\c<=1/\out<2^i/\out+b%2^i=a%2^i+c* 2^i/\vv=[.p (some (ad r1 0)),.p (some (ad r2 0)),.p (some (ad r3 0)),.b false,.p (some (ad r4 0)),.i (c:Int),.i (i:Int)]/\
     St W w (Sep.pt r4 (nm out)::Sep.pt r3 [.u 0,.u 0]::Sep.pt r2 (nm b)::Sep.pt r1 (nm a)::L),
   λvs _=>match vs with|[_,_,_,_,_,_,.int _ d]=>128-d.toNat|_=>0,⟨0,0,0,by omega,by omega,by decide,by rw[Nat.pow_zero];omega,rfl,jW⟩,?_⟩
  rintro a1 a2 a3 b2 a4 n1 n2 w2 ⟨i,c,out,hi,hc,xY,hv,e,gX⟩;cases e
  refine T.at ?_ gX;apply fV<;>intro g1
  ·have xh:i<128:=by omega
   apply ws;refine td ha xh ?_;apply ws;refine td hb xh ?_;apply ws;have UO:a/2^i%2<=1:=by omega
   have hbb:b/2^i%2<=1:=by omega
   have e1:aa.wrap (aa.wrap (((a/2^i%2:Nat):Int) -((b/2^i%2:Nat):Int)) -(c:Int))=((a/2^i%2:Nat):Int) -((b/2^i%2:Nat):Int) -(c:Int):=by
    rw[aW (n:=((a/2^i%2:Nat):Int) -((b/2^i%2:Nat):Int)) (by omega),aW (by omega)]
   have e5:=nL i;rw[e1,e5];have hp:2^(i+1)=2* 2^i:=by rw[y8,vB]
   have key:∀(c2 n2:Nat),c2<=1->n2<=1->(n2:Int)=((a/2^i%2:Nat):Int) -((b/2^i%2:Nat):Int) -(c:Int)+2* (c2:Int)->
    T W (Sep.pt r4 (nm out)::Sep.pt r3 [.u 0,.u 0]::Sep.pt r2 (nm b)::Sep.pt r1 (nm a)::L) (fK.j1 K (ad r4 0) (i:Int) (λvv w=>∃i c out:Nat,i<=128/\c<=1/\out<2^i/\out+b%2^i=a%2^i+c* 2^i/\vv=[.p (some (ad r1 0)),.p (some (ad r2 0)),.p (some (ad r3 0)),.b false,.p (some (ad r4 0)),.i (c:Int),.i (i:Int)]/\
    St W w (Sep.pt r4 (nm out)::Sep.pt r3 [.u 0,.u 0]::Sep.pt r2 (nm b)::Sep.pt r1 (nm a)::L)) (ad r1 0) (ad r2 0) (ad r3 0) false (λvs _=>match vs with|[_,_,_,_,_,_,.int _ d]=>128-d.toNat|_=>0) (c:Int) w2 (c2:Int) (n2:Int)):=λc2 n2 OQ hn2 hn=>by
    unfold fK.j1;rw[e5];have uX:=RU hv c2 n2 hn;apply dh<;>intro g2
    ·have g2:n2=1:=by have:(n2:Int)=1:=by simpa using g2
                      omega
     subst g2;rw[Nat.one_mul] at uX;apply ws;refine Si xY xh ?_;refine CX (by rfl) ?_;apply ws;exact λw3 h3=>⟨⟨i+1,c2,out+2^i,xh,OQ,by omega,uX,rfl,h3⟩,by show 128-((i+1:Nat):Int).toNat<128-(i:Int).toNat;omega⟩
    ·have g2:n2=0:=by have: ¬(n2:Int)=1:=by simpa using g2
                      omega
     subst g2;rw[Nat.zero_mul,dZ] at uX;exact λw3 h3=>⟨⟨i+1,c2,out,xh,OQ,by omega,uX,rfl,h3⟩,by show 128-((i+1:Nat):Int).toNat<128-(i:Int).toNat;omega⟩
   unfold fK.j1 at key;rw[e5] at key;apply fV<;>intro g2
   ·rw[aW (by omega)];obtain⟨n2,hn2⟩:=bm (show 0<=((a/2^i%2:Nat):Int) -((b/2^i%2:Nat):Int) -(c:Int)+2 by omega);rw[hn2];exact key 1 n2 (by omega) (by omega) (by omega)
   ·obtain⟨n2,hn2⟩:=bm (show 0<=((a/2^i%2:Nat):Int) -((b/2^i%2:Nat):Int) -(c:Int) by omega);rw[hn2];exact key 0 n2 (by omega) (by omega) (by omega)
  ·have iM:i=128:=by omega
   subst iM;rw[fw (show a<2^128 from ha),fw (show b<2^128 from hb)] at hv;have hh:out=a-b:=by
    have:c=0:=by
     rcases Nat.eq_zero_or_pos c with hz|hz
     ·exact hz
     ·have:c=1:=by omega
      subst this;omega
    subst this;omega
   rw[hh];apply ws;exact T.dp h
def EA{r3 r4 r5:Nat}{x y z:Nat}(hx:x<bB)(hy:y<bB)(hz:z<bB)(h:T W L (K (.agg ⟨nm (x-(y+z))⟩))):T W (Sep.pt r5 (nm z)::Sep.pt r4 (nm y)::Sep.pt r3 (nm x)::Sep.pt r2 [.u 0,.u 0]::L) (dw.j1 K r4 r5 r3 r2):=by
 unfold dw.j1 dw.j2;apply ws;refine qb hy hz ?_;unfold add;by_cases hs:y+z<bB
 ·rw[ai hs,av hs];apply ws;intros;refine J6 hx hs ?_;apply ws;intros;exact T.dp h
 ·rw[ag hs,aq hs];apply ws;intros;refine PS ?_;apply ws;refine J6 hx (by unfold bB;decide) ?_;apply ws;intros;rw[show x-(bB-1)=x-(y+z) by omega];exact T.dp h
def BG{p:Bool}(ha:a.dp<bB/\a.dq<bB/\a.cp<bB/\a.cq<bB)(h:T W L (K (.agg ⟨nm (iu a p)⟩))):T W L (dw (aK a) p K):=by
 obtain⟨h1,h2,h3,h4⟩:=ha;unfold dw;apply ws;intros;cases p with
 |true=>
  apply ws;refine EA h4 h1 h2 ?_;exact T.dp h
 |false=>
  apply ws;refine EA h2 h3 h4 ?_;exact T.dp h
end
def Eb(a:bC)(d:Bool):Nat:=if d then a.dp else a.cp
def Ea(a:bC)(d:Bool):Nat:=if d then a.dq else a.cq
def Oh(a:bC)(d:Bool)(x y:Nat):bC:=if d then{a with dp:=x,dq:=y} else{a with cp:=x,cq:=y}
def GR(d:Bool):Int:=if d then 2 else 4
def VY(a:bC)(d:Bool)(n:Nat)(p:Bool):more a d n p=
 if bB<=Eb a d+Ea a d+n then(a,32) else if has a.ak (GR d)/\iu a d<n then(a,if d then 33 else 34)
 else(Oh a d (if p then Eb a d+n else Eb a d) (if p then Ea a d else Ea a d+n),0):=by
 cases d<;>cases p<;>rfl
section
variable {W:World} {L R:LH} {K:VK} {X Y:WK} {a:bC} {t:cE} {r1 r2 r3 r4 r5:Nat}
def Ew{d:Bool}{x y n:Nat}(h:T W L (K (.tuple ⟨[.agg ⟨aK (Oh a d x y)⟩,.i 0]⟩))):T W (Sep.pt r5 (nm y)::Sep.pt r4 (nm x)::Sep.pt r3 (aK zA)::Sep.pt r2 (nm n)::Sep.pt r1 (aK a)::L) (bX.j4 K d r4 r1 r5 r3):=by
 unfold bX.j4;unfold Oh at h;cases d with
 |true=>
  apply ws;exact T.dp h
 |false=>
  apply ws;exact T.dp h
def Ey{d p b:Bool}{x y n:Nat}(hx:x<bB)(hy:y<bB)(hn:n<bB)(hs:x+y+n<bB)
 (h:T W L (K (.tuple ⟨[.agg ⟨aK (if b=true then a else Oh a d (if p then x+n else x) (if p then y else y+n))⟩,.i (if b=true then(if d then 33 else 34) else 0)]⟩))):
 T W (Sep.pt r5 (nm y)::Sep.pt r4 (nm x)::Sep.pt r3 (aK zA)::Sep.pt r2 (nm n)::Sep.pt r1 (aK a)::L) (bX.j3 K d r1 r3 p r4 r2 r5 b):=by
 unfold bX.j3;cases b with
 |true=>
  rw[ai rfl,ai rfl] at h;cases d with
  |true=>
   apply ws;exact T.dp h
  |false=>
   apply ws;exact T.dp h
 |false=>
  rw[ag cG,ag cG] at h;cases p with
  |true=>
   have e:add x n=x+n:=ai (by omega);apply ws;refine qb hx hn ?_;rw[e];apply ws;exact Ew h
  |false=>
   have e:add y n=y+n:=ai (by omega);apply ws;refine qb hy hn ?_;rw[e];apply ws;exact Ew h
def Ez{d p:Bool}{n:Nat}(ha:a.dp<bB/\a.dq<bB/\a.cp<bB/\a.cq<bB)(hn:n<bB)(hf:0<=a.ak/\a.ak<256)(h:T W L (K (.tuple ⟨[.agg ⟨aK (more a d n p).1⟩,.i (more a d n p).2]⟩))):
 T W (Sep.pt r5 (nm (Ea a d))::Sep.pt r4 (nm (Eb a d))::Sep.pt r3 (aK zA)::Sep.pt r2 (nm n)::Sep.pt r1 (aK a)::L) (bX.j1 K r4 r5 r2 r1 r3 d p (GR d)):=by
 unfold bX.j1 bX.j2;have hx:Eb a d<bB:=by unfold Eb;split<;>omega
 have hy:Ea a d<bB:=by unfold Ea;split<;>omega
 have hand:db .i64 .and a.ak (GR d)=0↔ ¬has a.ak (GR d):=by
  cases d
  ·exact Lo hf.1 hf.2
  ·exact Lp hf.1 hf.2
 rw[VY] at h;generalize hX:Eb a d=x at *;generalize hY:Ea a d=y at *;apply ws;refine qb hx hy ?_;apply ws;intros;refine qb (FG _ _) hn ?_;apply ws;intros;by_cases hs:x+y<bB
 ·rw[av hs];have e:add x y=x+y:=ai hs;rw[e];apply ws;by_cases gX:x+y+n<bB
  ·rw[ag (by omega)] at h;rw[av gX];apply ws;apply dh<;>intro g1
   ·have g1:has a.ak (GR d):=Decidable.byContradiction λhh=>by rw[hand.2 hh] at g1;simp at g1
    apply ws;refine BG ha ?_;apply ws;refine uf ?_ hn ?_
    ·unfold iu;split<;>omega
    apply ws;rename_i r6 r7;refine T.drop (T.drop (Ey hx hy hn gX ?_));by_cases hl:iu a d<n
    ·rw[ai ⟨g1,hl⟩] at h;rw[ai (av hl),ai (av hl)];exact h
    ·rw[ag (λhh=>hl hh.2)] at h;rw[ag (λhh=>hl (aQ hh)),ag (λhh=>hl (aQ hh))];exact h
   ·have g1: ¬has a.ak (GR d):=hand.1 (by simpa using g1);rw[ag (λhh=>g1 hh.1)] at h;exact T.drop (T.drop (Ey hx hy hn gX (by rw[ag cG,ag cG];exact h)))
  ·rw[ai (by omega)] at h;rw[aq gX];apply ws;exact T.dp h
 ·rw[ai (by omega)] at h;rw[aq hs];apply ws;exact T.dp h
def G4{d p:Bool}{n:Nat}(ha:a.dp<bB/\a.dq<bB/\a.cp<bB/\a.cq<bB)(hn:n<bB)(hf:0<=a.ak/\a.ak<256)(h:T W L (K (.tuple ⟨[.agg ⟨aK (more a d n p).1⟩,.i (more a d n p).2]⟩))):T W L (bX (aK a) d (nm n) p K):=by
 unfold bX;apply ws;intros;cases d with
 |true=>
  apply ws;exact Ez (d:=true) ha hn hf h
 |false=>
  apply ws;exact Ez (d:=false) ha hn hf h
end
structure KM(k:bW):Prop where
 asked:yJ k.asked
 move:yJ k.move
 uR:0<=k.asked.ak/\k.asked.ak<256
 wa:0<=k.move.ak/\k.move.ak<256
 cu:0<=k.move.cu/\k.move.cu<=1073741824
 jj:0<=k.move.jj/\k.move.jj<=1099511627776
structure RM(m:aA):Prop where
 ground:Md.bN m
 clock:0<=m.clock/\m.clock<=1099511627776
 ay:m.ay=m.cy.length+m.ax.length
 cy:∀a∈m.cy,wD a
 ax:∀k∈m.ax,KM k
def RM.VD{m:aA}(hg:fk (bo m))(rr:Md.bN m):RM m:=by
 refine⟨rr,hg.clock,?_,λa ha=>?_,λk hk=>?_⟩
 ·have:=hg.ay;unfold bo at this;simpa using this
 ·have h1:=(hg.Rg (Md.full m.ax a) (List.mem_map_of_mem ha)).ok;obtain⟨z1,z2,z3,z4,z5,z6⟩:=rr.zero a ha;exact⟨h1.id,by rw[z1];decide,by rw[z2];decide,by rw[z3];decide,by rw[z4];decide,h1.aZ,h1.code,⟨by omega,by omega⟩,h1.ay⟩
 ·have h1:=hg.Q3 k hk;exact⟨h1.asked,h1.move,h1.uR,h1.wa,h1.cu,h1.jj⟩
def RM.Zq{m:aA}(h:RM m):∀a∈m.cy,LD a:=λa ha=>by
 obtain⟨z1,z2,z3,z4,z5,z6⟩:=h.ground.zero a ha;have:(0:Nat)<bB:=by decide
 exact⟨by omega,by omega,by omega,by omega,by omega,by omega⟩
def RM.rkK{m:aA}(h:RM m):∀k∈m.ax,RkK k:=λk hk=>by
 have h1:=h.ax k hk;exact⟨h1.move.aU,h1.wa.1,by have:=h1.wa.2;omega⟩
def RM.ou{m:aA}(h:RM m):m.cy.length<=32:=h.ground.ou
def RM.many{m:aA}(h:RM m):m.ax.length<=96:=h.ground.some_
def HM{a:bC}(h:tI a=0):0<=a.ak/\a.ak<=7:=by
 unfold tI at h;by_cases h1:a.ak<0\/7<a.ak
 ·rw[ai h1] at h;omega
 ·omega
def wy{t:cE}(h:mT t=0):(0<=t.ak/\t.ak<=255)/\0<=t.cu/\t.cu<=1073741824:=by
 unfold mT at h;by_cases h1:t.ak<0\/255<t.ak
 ·rw[ai h1] at h;omega
 rw[ag h1] at h;by_cases h2:t.id=0
 ·rw[ai h2] at h;omega
 rw[ag h2] at h;by_cases h3:t.id=bB-1
 ·rw[ai h3] at h;omega
 rw[ag h3] at h;by_cases h4: ¬iY t.ak
 ·rw[ai h4] at h;omega
 rw[ag h4] at h;by_cases h5:t.ay≠0\/t.jj≠0
 ·rw[ai h5] at h;omega
 rw[ag h5] at h;by_cases h6:t.cu<0\/1073741824<t.cu\/0<t.cu/\ ¬has t.ak 2
 ·rw[ai h6] at h;omega
 ·omega
def Xd{m:aA}(hg:Md.bN m)(a:bC):Md.bN (m.make a).2:=((qh m).make hg).2.2
def Xc{m:aA}(hg:Md.bN m)(t:cE):Md.bN (m.move t).2:=((qh m).move hg).2.2
def Xe{m:aA}(hg:Md.bN m)(t:cE):Md.bN (m.oN t).2:=((qh m).oN hg).2.2
def RM.make{m:aA}{a:bC}(h:RM m)(ha:wD a):RM (m.make a).2:=by
 have rr:=Xd h.ground a;have e:(m.make a).2=m\/(tI a=0/\(m.make a).2={m with ay:=m.ay+1,cy:=m.cy++[{a with ay:=m.ay+1,ak:=a.ak/2* 2}]}):=by
  unfold aA.make;by_cases h1:tI a≠0
  ·rw[ai h1];exact .inl rfl
  ·rw[ag h1];split
   ·exact .inl rfl
   ·by_cases h2:32<=m.cy.length
    ·rw[ai h2];exact .inl rfl
    ·rw[ag h2];exact .inr ⟨by omega,rfl⟩
 rcases e with e|⟨hc,e⟩
 ·rw[e];exact h
 ·rw[e] at rr⊢;have hf:=HM hc;have wj:=h.ou;have wi:=h.many;have uX:=h.ay;refine⟨rr,h.clock,?_,λx hx=>?_,h.ax⟩
  ·show m.ay+1=((m.cy++[_]).length:Int)+(m.ax.length:Int);rw[au,pD];omega
  ·rcases dF.1 hx with hx|hx
   ·exact h.cy x hx
   ·cases(show x=_ by simpa using hx)
    exact⟨ha.id,ha.dp,ha.dq,ha.cp,ha.cq,ha.aZ,ha.code,⟨by show _<=a.ak/2* 2;omega,by show a.ak/2* 2<=_;omega⟩,⟨by show _<=m.ay+1;omega,by show m.ay+1<=_;omega⟩⟩
def RM.mD{m:aA}{t u:cE}{fate:Int}(h:RM m)(rr:Md.bN (m.mD t u fate))(hm:m.ax.length<96)(ht:yJ t)(hu:yJ u)(hf:0<=t.ak/\t.ak<256)(huf:u.ak=t.ak)(htm:0<=u.cu/\u.cu<=1073741824):RM (m.mD t u fate):=by
 have uX:=h.ay;have wj:=h.ou;have hck:=h.clock;refine⟨rr,h.clock,?_,h.cy,λk hk=>?_⟩
 ·show m.ay+1=(m.cy.length:Int)+((m.ax++[_]).length:Int);rw[au,pD];omega
 ·rcases dF.1 hk with hk|hk
  ·exact h.ax k hk
  ·cases(show k=_ by simpa using hk)
   exact⟨ht,⟨hu.id,hu.bp,hu.aP,hu.aU,hu.pending,hu.cu,hu.aZ,hu.code,hu.ak,⟨by show _<=m.ay+1;omega,by show m.ay+1<=_;omega⟩,⟨by show _<=m.clock;omega,by show m.clock<=_;omega⟩⟩,hf,by show 0<=u.ak/\u.ak<256;omega,htm,h.clock⟩
def RM.dE{m:aA}(h:RM m)(i:Nat)(f:Int)(rr:Md.bN (m.dE i f)):RM (m.dE i f):=by
 refine⟨rr,h.clock,?_,h.cy,λk hk=>?_⟩
 ·show m.ay=(m.cy.length:Int)+((m.ax.modify i _).length:Int);rw[List.length_modify];exact h.ay
 ·have hk:k∈m.ax.modify i λk=>{k with fate:=f}:=hk;by_cases hi:i<m.ax.length
  ·rw[modify_eq _ _ _ hi] at hk;rcases eY hk with hh|hh
   ·exact h.ax k hh
   ·have:=h.ax _ (bR hi);subst hh;exact⟨this.asked,this.move,this.uR,this.wa,this.cu,this.jj⟩
  ·have:m.ax.modify i (λk=>{k with fate:=f})=m.ax:=List.modify_eq_self (by omega);rw[this] at hk;exact h.ax k hk
def Gm{t:cE}{named:Option bW}{d c:Option bC}{many:Nat}(h:(jn t named d c many).1=0):(jn t named d c many).2<bB:=by
 obtain⟨d',c',-,-,-,-,-,-,-,-,-,h1,-⟩:=vd h;omega
def RM.move{m:aA}{t:cE}(h:RM m)(ht:yJ t):RM (m.move t).2:=by
 have rr:=Xc h.ground t;unfold aA.move at rr⊢;dsimp only at rr⊢;by_cases h1:(jn t (m.named t.id) ((m.find t.bp).map m.full) ((m.find t.aP).map m.full) m.ax.length).1≠0
 ·rw[ai h1];exact h
 ·rw[ag h1] at rr⊢;have h1:=bh.1 h1;have ham:=Gm h1;obtain⟨d',c',-,-,-,hc,-,-,-,-,wi,-⟩:=vd h1;obtain⟨z1,z2⟩:=wy hc;exact h.mD rr wi ht ⟨ht.id,ht.bp,ht.aP,ham,ht.pending,ht.cu,ht.aZ,ht.code,ht.ak,ht.ay,ht.jj⟩ ⟨z1.1,by omega⟩ rfl z2
def RM.oN{m:aA}{t:cE}(h:RM m)(ht:yJ t):RM (m.oN t).2:=by
 have rr:=Xe h.ground t;unfold aA.oN at rr⊢;cases hn:m.name t.pending with
 |none=>exact h
 |some i=>
  rw[hn] at rr;dsimp only at rr⊢;cases hk:m.ax[i]? with
  |none=>exact h
  |some k=>
   rw[hk] at rr;dsimp only at rr⊢;by_cases h1:nH t (m.named t.id) (some k) (m.closed k.move.bp i) (m.closed k.move.aP i) m.ax.length≠0
   ·rw[ai h1];exact h
   ·rw[ag h1] at rr⊢;have h1:=bh.1 h1;obtain⟨Qp,hie⟩:=aw.1 hk;have nM:=cb hk;have hf:=h.ground.uJ k nM;obtain⟨-,hc,he,hw,Ww,-,wi⟩:=z7 h1 hf.1;obtain⟨z1,z2⟩:=wy hc;have OK:=h.ax k nM;have aed:m.ax[i].fate=1:=by rw[hie];have:=hf.2.2.1 hw;omega
    have Kz:=h.ground.dE Qp aed (f:=cJ t) (by unfold cJ;split<;>omega);refine(h.dE i (cJ t) Kz).mD rr (by show(m.ax.modify i _).length<96;rw[List.length_modify];exact wi) ht ?_ ⟨z1.1,by omega⟩ rfl z2;refine⟨ht.id,OK.move.bp,OK.move.aP,?_,ht.pending,ht.cu,OK.move.aZ,OK.move.code,ht.ak,ht.ay,ht.jj⟩;show cM t k.move<bB;unfold cM;split
    ·exact OK.move.aU
    ·exact ht.aU
def RM.qL{m:aA}{t:cE}(h:RM m)(ht:yJ t):RM (m.qL t).2:=by
 unfold aA.qL;split
 ·exact h.oN ht
 ·exact h.move ht
def RM.time{m:aA}(h:RM m)(now:Int)(h0:0<=now):RM (m.time now):=by
 refine⟨Ch h.ground now,?_,?_,h.cy,λk hk=>?_⟩
 ·show 0<=(if m.clock<now/\now<=1099511627776 then now else m.clock)/\(if m.clock<now/\now<=1099511627776 then now else m.clock)<=1099511627776;have:=h.clock;split<;>omega
 ·show m.ay=(m.cy.length:Int)+((m.ax.map _).length:Int);rw[bP];exact h.ay
 ·obtain⟨x,hx,rfl⟩:=cw.1 hk;have:=h.ax x hx;have ZT:∀(p:Prop) [Decidable p],KM (if p then{x with fate:=4} else x):=λp _=>by
   by_cases hp:p
   ·rw[ai hp];exact⟨this.asked,this.move,this.uR,this.wa,this.cu,this.jj⟩
   ·rw[ag hp];exact this
  exact ZT _
def ri{α:Type}(P:α->Bool)(l:List α):(l.find? P=none/\l.findIdx? P=none/\EZ P l= -1)\/∃i x,l[i]?=some x/\P x=true/\l.find? P=some x/\l.findIdx? P=some i/\EZ P l=(i:Int):=by
 cases h:l.findIdx? P with
 |none=>
  left
  have h2:=List.findIdx?_eq_none_iff.1 h;refine⟨mW.2 λx hx=>by rw[h2 x hx];decide,rfl,?_⟩;unfold EZ;rw[h]
 |some i=>
  right
  obtain⟨hi,h1,h2⟩:=List.findIdx?_eq_some_iff_getElem.1 h;refine⟨i,l[i],aj hi,h1,?_,rfl,?_⟩
  ·rw[List.find?_eq_some_iff_getElem];exact⟨h1,i,hi,rfl,λj hj=>by simpa using h2 j hj⟩
  ·unfold EZ;rw[h]
section
variable {W:World} {L R:LH} {K:VK} {X:WK} {p:Nat} {m:aA} {mb kb:OA} {mc kc:Nat} {a:bC} {t:cE}
def T.Q2{A:HP}(h:T W (ML p m mb mc kb kc (A::R)) X):T W (A::ML p m mb mc kb kc R) X:=
 T.perm h (bu (l₁:=[A]) (l₂:=[_,_,_])|>.append_right R)
def T.in1{A:HP}(h:T W (A::ML p m mb mc kb kc R) X):T W (ML p m mb mc kb kc (A::R)) X:=
 T.perm h (bu (l₁:=[_,_,_]) (l₂:=[A])|>.append_right R)
def Vt(hm:RM m)(ha:wD a)(h:∀sh sg,T W (ML p (m.make a).2 sh sg kb kc R) (K (.i (m.make a).1))):T W (ML p m mb mc kb kc R) (km (ah p) (aK a) K):=by
 unfold km;have wj:=hm.ou;have wi:=hm.many;have uX:=hm.ay;apply ws;intros;rename_i r1;refine Mw ha ?_;apply ws;unfold aA.make at h;apply dh<;>intro g1
 ·have g1:tI a≠0:=by simpa using g1
  rw[ai g1] at h;have:=h mb mc;exact T.dp this
 have g1:tI a=0:=by simpa using g1
 rw[ag (λhh=>hh g1)] at h;have OM:=HM g1;apply ws;refine T.Q2 ?_;refine wS (by omega) ?_;apply ws;unfold aA.find at h;rcases ri (λx:bC=>decide (x.id=a.id)) m.cy with⟨f1,f2,f3⟩|⟨i,x,f1,f2,f3,f4,f5⟩
 ·rw[f1] at h;dsimp only at h;rw[f3];refine gL (by decide) ?_;apply ws;apply fV<;>intro g2
  ·rw[ai (by omega)] at h;refine T.in1 ?_;exact T.drop (h mb mc)
  ·rw[ag (by omega)] at h;have e1:aa.wrap (m.ay+1)=m.ay+1:=aW (by omega);have e2:aa.wrap (aa.wrap (a.ak.tdiv 2)* 2)=a.ak/2* 2:=by rw[xp OM.1 (by omega) (by decide),aW (by omega)]
   apply ws;rw[e1];refine dD (by decide) ?_;rw[e2];apply ws;intros;refine jm (b:=mb) (g:=aK) (l:=m.cy) (x:={a with ay:=m.ay+1,ak:=a.ak/2* 2}) (bI _) rfl rfl (by show(m.cy.length+1)* 112<=_;omega) (by show m.cy.length+1<=_;omega) (iv _) λb' c'=>?_;apply ws;have:=h b' c';unfold ML FX at this;simp only[au,bt,cH,aC] at this;refine T.sub this ?_;exact qv
 ·rw[f3] at h;dsimp only at h;rw[f5];have Qp:=(aw.1 f1).1;have hz:=hm.ground.zero x (cb f1);refine mR (av (by omega)) ?_;apply ws;refine dM (b:=mb) ⟨by omega,by omega⟩ λrb hb=>?_;rw[ao];subst hb;refine gI jx f1 ?_;refine My (by omega) (by omega) ?_;apply ws;refine T.in1 ?_;exact T.drop (h _ mc)
end
def ZI(m:aA)(t:cE)(d c:bC)(n:Nat):Int×aA:=
 if(more d true n (decide (has t.ak 2))).2≠0 then((more d true n (decide (has t.ak 2))).2,m)
 else if(more c false n (decide (has t.ak 2))).2≠0 then((more c false n (decide (has t.ak 2))).2,m)
 else(0,m.mD t {t with aU:=n} (waits t))
def mvB(m:aA)(t:cE)(d c:bC)(n:Nat):Int×aA:=
 if has t.ak 32 then(if min n (iu c false)=0 then(34,m) else ZI m t d c (min n (iu c false))) else ZI m t d c n
def mvC(m:aA)(t:cE)(d c:bC)(n:Nat):Int×aA:=
 if has t.ak 16 then(if min n (iu d true)=0 then(33,m) else mvB m t d c (min n (iu d true))) else mvB m t d c n
def abO{m:aA}{t:cE}{d c:bC}(h1:mT t=0)(h2: ¬jA t.ak)(h3:m.named t.id=none)(hd:(m.find t.bp).map m.full=some d)(hc:(m.find t.aP).map m.full=some c)
 (h4:d.aZ=c.aZ)(h5:d.aZ=t.aZ)(h6: ¬8<=d.ak)(h7: ¬8<=c.ak)(h8: ¬96<=m.ax.length):m.move t=mvC m t d c (if t.aU=0 then bB-1 else t.aU):=by
 unfold aA.move jn;rw[hd,hc,h3];dsimp only;rw[ag (show ¬mT t≠0 from λhh=>hh h1),ag h2,ag (show ¬d.aZ≠c.aZ from λhh=>hh h4),ag (show ¬d.aZ≠t.aZ from λhh=>hh h5),ag h6,ag h7,ag h8];have key:∀n:Nat,cZ t d c=(n,0)->(let r:=(if(cZ t d c).2≠0 then((cZ t d c).2,0) else if(more d true (cZ t d c).1 (decide (has t.ak 2))).2≠0 then((more d true (cZ t d c).1 (decide (has t.ak 2))).2,0)
                      else if(more c false (cZ t d c).1 (decide (has t.ak 2))).2≠0 then((more c false (cZ t d c).1 (decide (has t.ak 2))).2,0) else(0,(cZ t d c).1):Int×Nat)
                      if r.1≠0 then(r.1,m) else(0,m.mD t {t with aU:=r.2} (waits t)))=ZI m t d c n:=λn he=>by
  rw[he];dsimp only;rw[ag (show ¬((0:Int)≠0) from λhh=>hh rfl)];unfold ZI;by_cases g1:(more d true n (decide (has t.ak 2))).2≠0
  ·rw[ai g1,ai g1,ai g1]
  ·rw[ag g1,ag g1];by_cases g2:(more c false n (decide (has t.ak 2))).2≠0
   ·rw[ai g2,ai g2,ai g2]
   ·rw[ag g2,ag g2]
    rfl
 have bad:∀r:Int,r≠0->cZ t d c=(0,r)->(let r:=(if(cZ t d c).2≠0 then((cZ t d c).2,0) else if(more d true (cZ t d c).1 (decide (has t.ak 2))).2≠0 then((more d true (cZ t d c).1 (decide (has t.ak 2))).2,0)
  else if(more c false (cZ t d c).1 (decide (has t.ak 2))).2≠0 then((more c false (cZ t d c).1 (decide (has t.ak 2))).2,0) else(0,(cZ t d c).1):Int×Nat)
  if r.1≠0 then(r.1,m) else(0,m.mD t {t with aU:=r.2} (waits t)))=(r,m):=λr hr he=>by
  rw[he];dsimp only;rw[ai hr,ai hr]
 unfold mvC mvB;generalize hn:(if t.aU=0 then bB-1 else t.aU)=n;by_cases a1:has t.ak 16
 ·rw[ai a1];by_cases a2:min n (iu d true)=0
  ·rw[ai a2];refine bad 33 (by decide) ?_;unfold cZ;rw[hn];simp only[ai a1,a1,a2,and_self,if_true]
  ·rw[ag a2];by_cases a3:has t.ak 32
   ·rw[ai a3];by_cases a4:min (min n (iu d true)) (iu c false)=0
    ·rw[ai a4];refine bad 34 (by decide) ?_;unfold cZ;rw[hn];simp only[ai a1,ai a3,a1,a2,a3,a4,and_self,if_true,and_false,if_false]
    ·rw[ag a4];refine key _ ?_;unfold cZ;rw[hn];simp only[ai a1,ai a3,a1,a2,a3,a4,and_self,if_true,and_false,if_false]
   ·rw[ag a3];refine key _ ?_;unfold cZ;rw[hn];simp only[ai a1,ag a3,a1,a2,a3,and_self,if_true,and_false,false_and,if_false]
 ·rw[ag a1];by_cases a3:has t.ak 32
  ·rw[ai a3];by_cases a4:min n (iu c false)=0
   ·rw[ai a4];refine bad 34 (by decide) ?_;unfold cZ;rw[hn];simp only[ag a1,ai a3,a1,a3,a4,and_self,if_true,and_false,false_and,if_false]
   ·rw[ag a4];refine key _ ?_;unfold cZ;rw[hn];simp only[ag a1,ai a3,a1,a3,a4,and_self,if_true,and_false,false_and,if_false]
  ·rw[ag a3];refine key _ ?_;unfold cZ;rw[hn];simp only[ag a1,ag a3,a1,a3,and_self,if_true,and_false,false_and,if_false]
section
variable {W:World} {L R:LH} {K:VK} {X:WK} {p:Nat} {m:aA} {mb kb:OA} {mc kc:Nat} {a d c:bC} {t:cE} {r1 r2 r3 r4 r5:Nat} {n:Nat}
def T.JB{L':LH}{A:HP}(h:T W (ML p m mb mc kb kc (A::L')) X):T W (A::ML p m mb mc kb kc L') X:=T.Q2 h
def J0(hm:m.ax.length<1000000)(hs:0<=m.ay/\m.ay<1000000)(hd:LD d)(hc:LD c)(UK:d.ak<256)(UM:c.ak<256)(hf:0<=t.ak/\t.ak<1000000)(hn:n<bB)
 (h:∀kS kR,T W (ML p (ZI m t d c n).2 mb mc kS kR R) (K (.i (ZI m t d c n).1))):
 T W (ML p m mb mc kb kc (Sep.pt r5 (nm n)::Sep.pt r4 [.u 0,.u 0]::Sep.pt r3 (aK c)::Sep.pt r2 (aK d)::Sep.pt r1 (aL t)::R)) (bQ.j3 K r1 r2 r5 r3 (ah p)):=by
 obtain⟨d1,d2,d3,d4,d5,d6⟩:=hd;obtain⟨c1,c2,c3,c4,c5,c6⟩:=hc;unfold bQ.j3;unfold ZI at h;apply ws;refine kK hf (by decide) ?_;apply ws;refine G4 ⟨d1,d2,d3,d4⟩ hn ⟨d5,UK⟩ ?_;refine Y3 ?_;refine CX (by rfl) ?_;apply ws;apply dh<;>intro g1
 ·have g1:=fy.1 g1;rw[ai g1] at h;refine T.sub (h kb kc) ?_;exact qv
 have g1:(more d true n (decide (has t.ak 2))).2=0:=by simpa using g1
 rw[ag (λhh=>hh g1)] at h;apply ws;refine G4 ⟨c1,c2,c3,c4⟩ hn ⟨c5,UM⟩ ?_;refine Y3 ?_;refine CX (by rfl) ?_;apply ws;apply dh<;>intro g2
 ·have g2:=fy.1 g2;rw[ai g2] at h;refine T.sub (h kb kc) ?_;exact qv
 have g2:(more c false n (decide (has t.ak 2))).2=0:=by simpa using g2
 rw[ag (λhh=>hh g2)] at h;apply ws;intros;rename_i r6;refine T.JB ?_;by_cases hw:has t.ak 2
 ·rw[av hw];rw[show waits t=1 from ai hw] at h;apply ws;refine Ip hm hs λb' c'=>?_;apply ws;refine T.sub (h b' c') ?_;exact qv
 ·rw[aq hw];rw[show waits t=0 from ag hw] at h;apply ws;refine Ip hm hs λb' c'=>?_;apply ws;refine T.sub (h b' c') ?_;exact qv
def Hh(a b:Nat):(if a<b then a else b)=min a b:=by split<;>omega
def Ht{a:bC}{b:Bool}(h:LD a):iu a b<bB:=by
 obtain⟨h1,h2,h3,h4,_⟩:=h;unfold iu;split<;>omega
def J1(hm:m.ax.length<1000000)(hs:0<=m.ay/\m.ay<1000000)(hd:LD d)(hc:LD c)(UK:d.ak<256)(UM:c.ak<256)(hf:0<=t.ak/\t.ak<1000000)(hn:n<bB)
 (h:∀kS kR,T W (ML p (mvB m t d c n).2 mb mc kS kR R) (K (.i (mvB m t d c n).1))):
 T W (ML p m mb mc kb kc (Sep.pt r5 (nm n)::Sep.pt r4 [.u 0,.u 0]::Sep.pt r3 (aK c)::Sep.pt r2 (aK d)::Sep.pt r1 (aL t)::R)) (bQ.j2 K r1 r5 r3 r4 r2 (ah p)):=by
 have hl:=Ht (b:=false) hc;unfold bQ.j2;unfold mvB at h;apply ws;refine kK hf (by decide) ?_;by_cases hw:has t.ak 32
 ·rw[av hw];rw[ai hw] at h;apply ws;refine BG ⟨hc.1,hc.2.1,hc.2.2.1,hc.2.2.2.1⟩ ?_;refine CX (by rfl) ?_;apply ws;refine Ev hn hl ?_;refine CX (by rfl) ?_;rw[Hh];apply ws;apply fV<;>intro g1
  ·rw[ai g1] at h;refine T.sub (h kb kc) ?_;exact qv
  ·rw[ag g1] at h;exact J0 hm hs hd hc UK UM hf (by omega) h
 ·rw[aq hw];rw[ag hw] at h;apply ws;exact J0 hm hs hd hc UK UM hf hn h
def J3(hm:m.ax.length<1000000)(hs:0<=m.ay/\m.ay<1000000)(hd:LD d)(hc:LD c)(UK:d.ak<256)(UM:c.ak<256)(hf:0<=t.ak/\t.ak<1000000)(hn:n<bB)
 (h:∀kS kR,T W (ML p (mvC m t d c n).2 mb mc kS kR R) (K (.i (mvC m t d c n).1))):
 T W (ML p m mb mc kb kc (Sep.pt r5 (nm n)::Sep.pt r4 [.u 0,.u 0]::Sep.pt r3 (aK c)::Sep.pt r2 (aK d)::Sep.pt r1 (aL t)::R)) (bQ.j1 K r1 r5 r2 r4 r3 (ah p)):=by
 have hl:=Ht (b:=true) hd;unfold bQ.j1;unfold mvC at h;apply ws;refine kK hf (by decide) ?_;by_cases hw:has t.ak 16
 ·rw[av hw];rw[ai hw] at h;apply ws;refine BG ⟨hd.1,hd.2.1,hd.2.2.1,hd.2.2.2.1⟩ ?_;refine CX (by rfl) ?_;apply ws;refine Ev hn hl ?_;refine CX (by rfl) ?_;rw[Hh];apply ws;apply fV<;>intro g1
  ·rw[ai g1] at h;refine T.sub (h kb kc) ?_;exact qv
  ·rw[ag g1] at h;exact J1 hm hs hd hc UK UM hf (by omega) h
 ·rw[aq hw];rw[ag hw] at h;apply ws;exact J1 hm hs hd hc UK UM hf hn h
end
section
variable {W:World} {L R:LH} {K:VK} {X:WK} {p:Nat} {m:aA} {mb kb:OA} {mc kc:Nat} {a d c:bC} {t:cE} {r1 r2 r3 r4 r5:Nat} {n:Nat}
def RE{α:Type}{r n c e o j q:Nat}{l:List α}{x:α}{g:α->LV}{f:HP->LH}{ys:LV}{K:LV->WK}[i:ux (ah r) n c L e (l.flatMap g) f](hf:∀x,(g x).length=e)(hx:l[o]?=some x)[s:Sub (g x) j q ys](h:T W L (K ys)):T W L (aI ⟨r,o* e+j,none⟩ q K):=λw hs=>by
 obtain⟨k,hk,_⟩:=i.at_;exact Dq hs hk s.is.1 (λu v hu=>by rw[Nat.add_assoc];exact qz hf l o x hx _ v (s.is.2 u v hu)) (h w hs)
def RF{α:Type}{r n c e o q:Nat}{l:List α}{x:α}{g:α->LV}{f:HP->LH}{ys:LV}{K:LV->WK}[i:ux (ah r) n c L e (l.flatMap g) f](hf:∀x,(g x).length=e)(hx:l[o]?=some x)[s:Sub (g x) 0 q ys](h:T W L (K ys)):T W L (aI ⟨r,o* e,none⟩ q K):=RE (j:=0) hf hx h
def CH{m:aA}(h:RM m){a:bC}(ha:a∈m.cy):LD (m.full a)/\(m.full a).ak<256/\(m.full a).aZ=a.aZ:=by
 have h1:=JX m.ax (h.Zq a ha);refine⟨h1,?_,?_⟩
 ·rw[h.ground.full ha];obtain⟨z1,z2,z3,z4,z5,z6⟩:=h.ground.zero a ha;show(if S (uk a.id) m.ax=0 then a.ak else a.ak%8+8)<256;split<;>omega
 ·rw[h.ground.full ha];rfl
def TO{m:aA}{t:cE}{r:Int}(hr:r≠0)(h:jn t (m.named t.id) ((m.find t.bp).map m.full) ((m.find t.aP).map m.full) m.ax.length=(r,0)):m.move t=(r,m):=by
 unfold aA.move;rw[h];dsimp only;rw[ai hr]
def Od(hm:RM m)(ht:yJ t)(h:∀kS kR,T W (ML p (m.move t).2 mb mc kS kR R) (K (.i (m.move t).1))):T W (ML p m mb mc kb kc R) (bQ (ah p) (aL t) K):=by
 unfold bQ;have wj:=hm.ou;have wi:=hm.many;have uX:=hm.ay;apply ws;intros;rename_i r1;refine zN ht ?_;apply ws;have tp:∀r:Int,r≠0->jn t (m.named t.id) ((m.find t.bp).map m.full) ((m.find t.aP).map m.full) m.ax.length=(r,0)->∀kS kR,T W (ML p m mb mc kS kR R) (K (.i r)):=λr hr he kS kR=>by
  have:=h kS kR;rw[TO hr he] at this;exact this
 unfold jn at tp;apply dh<;>intro g1
 ·have g1:mT t≠0:=by simpa using g1
  rw[ai g1] at tp;have:=tp _ g1 rfl kb kc;exact T.dp this
 have g1:mT t=0:=by simpa using g1
 rw[ag (λhh=>hh g1)] at tp;obtain⟨OM,htm⟩:=wy g1;have hf:0<=t.ak/\t.ak<1000000:=by omega
 apply ws;refine vY hf ?_;apply ws;apply fV<;>intro g2
 ·rw[ai g2] at tp;have:=tp _ (by decide) rfl kb kc;exact T.dp this
 rw[ag g2] at tp;apply ws;refine T.Q2 ?_;refine Io (by omega) ?_;apply ws;have OI:m.named t.id=m.ax.find? λk=>decide (k.move.id=t.id):=rfl;rcases ri (λx:bW=>decide (x.move.id=t.id)) m.ax with⟨f1,f2,f3⟩|⟨i,x,f1,f2,f3,f4,f5⟩
 rotate_left
 ·rw[OI,f3] at tp;dsimp only at tp;rw[f5];have Qp:=(aw.1 f1).1;have hx:=hm.ax x (cb f1);refine mR (av (by omega)) ?_;apply ws;refine dM (b:=kb) ⟨by omega,by omega⟩ λrb hb=>?_;rw[ao];subst hb;refine RF je f1 ?_;refine EB hf ⟨hx.uR.1,by have:=hx.uR.2;omega⟩ ?_;apply ws;refine T.sub (tp _ (sC _ _) rfl (ah rb) kc) ?_;exact qv
 rw[OI,f1] at tp;dsimp only at tp;rw[f3];refine gL (by decide) ?_;apply ws;refine wS (by omega) ?_;apply ws;refine wS (by omega) ?_;apply ws;have Yn:m.find t.bp=m.cy.find? λa=>decide (a.id=t.bp):=rfl;have Yo:m.find t.aP=m.cy.find? λa=>decide (a.id=t.aP):=rfl;rcases ri (λx:bC=>decide (x.id=t.bp)) m.cy with⟨d1,d2,d3⟩|⟨i,d,d1,d2,d3,d4,d5⟩
 ·rw[Yn,d1] at tp;rw[d3];refine mR (by decide) ?_;refine T.sub (tp 19 (by decide) rfl kb kc) ?_;exact qv
 rw[Yn,d3] at tp;rw[d5];refine gL (aq (by omega)) ?_;rcases ri (λx:bC=>decide (x.id=t.aP)) m.cy with⟨c1,c2,c3⟩|⟨j,c,c1,c2,c3,c4,c5⟩
 ·rw[Yo,c1] at tp;rw[c3];refine mR (by decide) ?_;refine T.sub (tp 20 (by decide) rfl kb kc) ?_;exact qv
 rw[Yo,c3] at tp;rw[c5];refine gL (aq (by omega)) ?_;dsimp only[eW] at tp;have Dv:=cb d1;have Q':=cb c1;obtain⟨hda,UK,zv⟩:=CH hm Dv;obtain⟨hca,UM,pG⟩:=CH hm Q';refine AK (by omega) d1 (hm.Zq d Dv) hm.rkK ?_;refine CX (by rfl) ?_;apply ws;intros;rename_i r2;refine T.JB ?_;refine AK (by omega) c1 (hm.Zq c Q') hm.rkK ?_;refine CX (by rfl) ?_;apply ws;intros;rename_i r3;refine T.JB ?_;have ed:m.ax.foldl vX d=m.full d:=rfl;have ec:m.ax.foldl vX c=m.full c:=rfl;rw[ed,ec];apply dh<;>intro g3
 ·have g3:=fy.1 g3;rw[ai g3] at tp;refine T.sub (tp _ (by decide) rfl kb kc) ?_;exact qv
 have g3:(m.full d).aZ=(m.full c).aZ:=by simpa using g3
 rw[ag (λhh=>hh g3)] at tp;apply ws;apply dh<;>intro g4
 ·have g4:=fy.1 g4;rw[ai g4] at tp;refine T.sub (tp _ (by decide) rfl kb kc) ?_;exact qv
 have g4:(m.full d).aZ=t.aZ:=by simpa using g4
 rw[ag (λhh=>hh g4)] at tp;apply ws;apply fV<;>intro g5
 ·rw[ai (show 8<=(m.full d).ak by omega)] at tp;refine T.sub (tp _ (by decide) rfl kb kc) ?_;exact qv
 rw[ag (show ¬8<=(m.full d).ak by omega)] at tp;apply ws;apply fV<;>intro g6
 ·rw[ai (show 8<=(m.full c).ak by omega)] at tp;refine T.sub (tp _ (by decide) rfl kb kc) ?_;exact qv
 rw[ag (show ¬8<=(m.full c).ak by omega)] at tp;apply ws;apply fV<;>intro g7
 ·rw[ai (show 96<=m.ax.length by omega)] at tp;refine T.sub (tp _ (by decide) rfl kb kc) ?_;exact qv
 have hmi:=abO (m:=m) (t:=t) (d:=m.full d) (c:=m.full c) g1 g2 (by rw[OI,f1]) (by rw[Yn,d3];rfl) (by rw[Yo,c3];rfl) g3 g4 (by omega) (by omega) (by omega);rw[hmi] at h;apply ws;intros;rename_i r4 r5;apply fV<;>intro g8
 ·rw[ai g8] at h;apply ws;have ew:([.u 18446744073709551615,.u 18446744073709551615]:LV)=nm (bB-1):=by unfold nm bB;rfl
  rw[ew];refine T.perm (L:=ML p m mb mc kb kc (Sep.pt r5 (nm (bB-1))::Sep.pt r4 [.u 0,.u 0]::Sep.pt r3 (aK (m.full c))::Sep.pt r2 (aK (m.full d))::Sep.pt r1 (aL t)::R)) ?_ (bu (l₁:=[Sep.pt r5 (nm (bB-1)),Sep.pt r4 [.u 0,.u 0]]) (l₂:=[_,_,_])|>.append_right _);exact J3 (by omega) (by omega) hda hca UK UM hf (by unfold bB;decide) h
 ·rw[ag g8] at h;refine T.perm (L:=ML p m mb mc kb kc (Sep.pt r5 (nm t.aU)::Sep.pt r4 [.u 0,.u 0]::Sep.pt r3 (aK (m.full c))::Sep.pt r2 (aK (m.full d))::Sep.pt r1 (aL t)::R)) ?_ (bu (l₁:=[Sep.pt r5 (nm t.aU),Sep.pt r4 [.u 0,.u 0]]) (l₂:=[_,_,_])|>.append_right _);exact J3 (by omega) (by omega) hda hca UK UM hf ht.aU h
end
def Tq(m:aA)(t:cE)(i:Nat)(k:bW):Int×aA:=
 if lF t k.move then(26,m) else if has t.ak 4/\m.closed k.move.bp i=true then(30,m) else if has t.ak 4/\m.closed k.move.aP i=true then(31,m) else if 96<=m.ax.length then(35,m)
 else(0,(m.dE i (cJ t)).mD t (l7 t k.move) 0)
def acB{m:aA}{t:cE}{i:Nat}{k:bW}(h1:mT t=0)(h2:jA t.ak)(h3:m.named t.id=none)(hi:m.name t.pending=some i)(hk:m.ax[i]?=some k)
 (h4:has k.move.ak 2)(h5: ¬fH t k.move)(h6: ¬1<k.fate):m.oN t=Tq m t i k:=by
 unfold aA.oN nH;rw[hi];dsimp only;rw[hk,h3];dsimp only;rw[ag (show ¬mT t≠0 from λhh=>hh h1),ag (show ¬ ¬jA t.ak from λhh=>hh h2),ag (show ¬ ¬has k.move.ak 2 from λhh=>hh h4),ag h5,ag h6];unfold Tq;by_cases a1:lF t k.move
 ·rw[ai a1,ai a1];rfl
 rw[ag a1,ag a1];by_cases a2:has t.ak 4/\m.closed k.move.bp i=true
 ·rw[ai a2,ai a2];rfl
 rw[ag a2,ag a2];by_cases a3:has t.ak 4/\m.closed k.move.aP i=true
 ·rw[ai a3,ai a3];rfl
 rw[ag a3,ag a3];by_cases a4:96<=m.ax.length
 ·rw[ai a4,ai a4];rfl
 rw[ag a4,ag a4];rfl
def JS{m:aA}{i:Nat}{x:bW}(hx:m.ax[i]?=some x)(f:Int):m.dE i f={m with ax:=m.ax.set i {x with fate:=f}}:=by
 obtain⟨hi,he⟩:=aw.1 hx;unfold aA.dE;rw[modify_eq _ _ _ hi,he]
def Nc{m:aA}{i:Nat}{x:bW}{id:Nat}{a:bC}(hx:m.ax[i]?=some x)(hf:m.find id=some a):m.closed id i=decide (8<=((m.ax.set i {x with fate:=3}).foldl vX a).ak):=by
 obtain⟨hi,he⟩:=aw.1 hx;unfold aA.closed;rw[hf];dsimp only;rw[modify_eq _ _ _ hi,he]
section
variable {W:World} {L R:LH} {K:VK} {X:WK} {p:Nat} {m:aA} {mb kb:OA} {mc kc:Nat} {a d c:bC} {t u:cE} {r1 r2 r3 r4 r5:Nat} {n i:Nat} {x:bW}
def Er(hm:RM m)(hx:m.ax[i]?=some x){id:Nat}(CC:id∈m.cy.map (·.id))(h:T W (ML p m mb mc kb kc R) (K (.b (m.closed id i)))):T W (ML p m mb mc kb kc R) (gu (ah p) (nm id) (i:Int) K):=by
 have wj:=hm.ou;have wi:=hm.many;rcases ri (λx:bC=>decide (x.id=id)) m.cy with⟨f1,f2,f3⟩|⟨j,y,f1,f2,f3,f4,f5⟩
 ·obtain⟨a,ha,he⟩:=cw.1 CC;have:=mW.1 f1 a ha;rw[he] at this;exact aT (av rfl) this
 ·rw[Nc hx (show m.find id=some y from f3)] at h;exact PM (by omega) (by omega) hx f5 f1 (hm.Zq y (cb f1)) hm.rkK h
def Oe(hs:0<=m.ay/\m.ay<1000000)(hm:m.ax.length<1000000)(hn:n=cM t u)
 (h:∀kS kR,T W (ML p (m.mD t (l7 t u) 0) mb mc kS kR R) (K (.i 0))):
 T W (ML p m mb mc kb kc (Sep.pt r4 (nm n)::Sep.pt r3 [.u 0,.u 0]::Sep.pt r2 (aL u)::Sep.pt r1 (aL t)::R)) (az.j6 K r1 r2 r4 (ah p)):=by
 unfold az.j6;subst hn;apply ws;intros;rename_i r5;refine T.JB ?_;refine Ip (u:=l7 t u) hm hs λb' c'=>?_;apply ws;refine T.sub (h b' c') ?_;exact qv
def Of(hm:RM m)(hx:m.ax[i]?=some x)(Ww: ¬1<x.fate)
 (h:∀kS kR,T W (ML p (Tq m t i x).2 mb mc kS kR R) (K (.i (Tq m t i x).1)))(ht:t.aU<bB):
 T W (ML p m mb mc kb kc (Sep.pt r4 (nm (cM t x.move))::Sep.pt r3 [.u 0,.u 0]::Sep.pt r2 (aL x.move)::Sep.pt r1 (aL t)::R)) (az.j2 K (decide (has t.ak 4)) r2 r4 (ah p) (i:Int) r1):=by
 have wj:=hm.ou;have wi:=hm.many;have uX:=hm.ay;have nM:=cb hx;have Qp:=(aw.1 hx).1;have UC:=hm.ground.u6 x nM;have SW:=hm.ax x nM;have hea:cM t x.move<bB:=by unfold cM;split;exact SW.move.aU;exact ht
 have Kz:∀f:Int,∀kS kR,T W (ML p (m.dE i f) mb mc kS kR (Sep.pt r4 (nm (cM t x.move))::Sep.pt r3 [.u 0,.u 0]::Sep.pt r2 (aL x.move)::Sep.pt r1 (aL t)::R)) (az.j6 K r1 r2 r4 (ah p))->
  T W (Sep.pt p (FX m mb mc kS kR)::own mb m.cy.length mc 14 (m.cy.flatMap aK)::own kS m.ax.length kR 33 ((m.ax.set i {x with fate:=f}).flatMap bG)::(Sep.pt r4 (nm (cM t x.move))::Sep.pt r3 [.u 0,.u 0]::Sep.pt r2 (aL x.move)::Sep.pt r1 (aL t)::R)) (az.j6 K r1 r2 r4 (ah p)):=λf kS kR hh=>by
  rw[JS hx] at hh;exact Ui iP hh
 have j5:∀b:Bool,((has t.ak 4/\m.closed x.move.bp i=true)->False)-> ¬lF t x.move->b=decide (has t.ak 4/\m.closed x.move.aP i=true)->
  T W (ML p m mb mc kb kc (Sep.pt r4 (nm (cM t x.move))::Sep.pt r3 [.u 0,.u 0]::Sep.pt r2 (aL x.move)::Sep.pt r1 (aL t)::R)) (az.j5 K (ah p) (i:Int) (decide (has t.ak 4)) r1 r2 r4 b):=λb KD kd hb=>by
  unfold az.j5;unfold Tq at h;rw[ag kd,ag KD] at h;cases b with
  |true=>
   rw[ai (aQ hb.symm)] at h;apply ws;refine T.sub (h kb kc) ?_;exact qv
  |false=>
   rw[ag (bj hb.symm)] at h;apply ws;apply fV<;>intro g1
   ·rw[ai (by omega)] at h;refine T.sub (h kb kc) ?_;exact qv
   rw[ag (by omega)] at h;apply ws;refine dM (b:=kb) ⟨by omega,by omega⟩ λrb wm=>?_;rw[ao];subst wm;refine NQ ?_;refine DZ (o:=i) (x:=x) (y:={x with fate:=3}) je hx rfl (by decide) rfl ?_;have X':m.ax.length=(m.ax.set i {x with fate:=3}).length:=iP.symm;by_cases h4:has t.ak 4
   ·rw[av h4];rw[show cJ t=2 from ai h4] at h;apply ws;refine dM (b:=ah rb) ⟨by omega,by omega⟩ λZv wm=>?_;rw[ao];cases wm
    refine NQ ?_;refine DZ (o:=i) (x:={x with fate:=3}) (y:={x with fate:=2}) je (by rw[List.getElem?_set_self (by omega)]) rfl (by decide) rfl ?_;rw[jk];refine Kz 2 _ _ ?_;refine Oe (m:=m.dE i 2) (by show 0<=m.ay/\m.ay<1000000;omega) (by show(m.ax.modify i _).length<_;rw[List.length_modify];omega) rfl h
   ·rw[aq h4];rw[show cJ t=3 from ag h4] at h;apply ws;refine Kz 3 _ _ ?_;refine Oe (m:=m.dE i 3) (by show 0<=m.ay/\m.ay<1000000;omega) (by show(m.ax.modify i _).length<_;rw[List.length_modify];omega) rfl h
 have j4:∀b:Bool,¬lF t x.move->b=decide (has t.ak 4/\m.closed x.move.bp i=true)->
  T W (ML p m mb mc kb kc (Sep.pt r4 (nm (cM t x.move))::Sep.pt r3 [.u 0,.u 0]::Sep.pt r2 (aL x.move)::Sep.pt r1 (aL t)::R)) (az.j4 K (decide (has t.ak 4)) r2 (ah p) (i:Int) r1 r4 b):=λb kd hb=>by
  unfold az.j4;cases b with
  |true=>
   unfold Tq at h;rw[ag kd,ai (aQ hb.symm)] at h;apply ws;refine T.sub (h kb kc) ?_;exact qv
  |false=>
   have KD:=bj hb.symm;by_cases h4:has t.ak 4
   ·rw[av h4] at j5⊢;apply ws;refine Er hm hx UC.2.2 ?_;refine u0 ?_;refine j5 _ KD kd ?_;cases pG:m.closed x.move.aP i
    ·exact(aq (λhh=>aT hh.2 (by decide))).symm
    ·exact(av ⟨h4,rfl⟩).symm
   ·rw[aq h4] at j5⊢;apply ws;exact j5 _ KD kd (aq (λhh=>h4 hh.1)).symm
 have j3:∀b:Bool,b=decide (lF t x.move)->
  T W (ML p m mb mc kb kc (Sep.pt r4 (nm (cM t x.move))::Sep.pt r3 [.u 0,.u 0]::Sep.pt r2 (aL x.move)::Sep.pt r1 (aL t)::R)) (az.j3 K (decide (has t.ak 4)) r2 (ah p) (i:Int) r1 r4 b):=λb hb=>by
  unfold az.j3;cases b with
  |true=>
   unfold Tq at h;rw[ai (aQ hb.symm)] at h;apply ws;refine T.sub (h kb kc) ?_;exact qv
  |false=>
   have kd:=bj hb.symm;by_cases h4:has t.ak 4
   ·rw[av h4] at j4⊢;apply ws;refine Er hm hx UC.2.1 ?_;refine u0 ?_;refine j4 _ kd ?_;cases pG:m.closed x.move.bp i
    ·exact(aq (λhh=>aT hh.2 (by decide))).symm
    ·exact(av ⟨h4,rfl⟩).symm
   ·rw[aq h4] at j4⊢;apply ws;exact j4 _ kd (aq (λhh=>h4 hh.1)).symm
 unfold az.j2 az.j7;by_cases h4:has t.ak 4
 ·rw[av h4] at j3⊢;apply ws;refine uf SW.move.aU hea ?_;apply ws;apply fV<;>intro g1
  ·exact j3 _ (av (show lF t x.move from .inl ⟨h4,g1⟩)).symm
  ·apply ws;refine j3 _ (aq (λhh:lF t x.move=>?_)).symm;rcases hh with hh|hh
   ·exact g1 hh.2
   ·exact hh.1 h4
 ·rw[aq h4] at j3⊢;apply ws;refine j3 _ ?_;by_cases he:cM t x.move=x.move.aU
  ·rw[av he];refine(aq (λhh:lF t x.move=>?_)).symm;rcases hh with hh|hh
   ·exact h4 hh.1
   ·exact hh.2 he
  ·rw[aq he];exact(av (show lF t x.move from .inr ⟨h4,he⟩)).symm
end
section
variable {W:World} {L R:LH} {K:VK} {X:WK} {p:Nat} {m:aA} {mb kb:OA} {mc kc:Nat} {a d c:bC} {t u:cE} {r1 r2 r3 r4 r5:Nat} {n i:Nat} {x:bW}
def Xf{m:aA}{t:cE}{i:Nat}{k:bW}{r:Int}(hi:m.name t.pending=some i)(hk:m.ax[i]?=some k)(hr:r≠0)(h:nH t (m.named t.id) (some k) (m.closed k.move.bp i) (m.closed k.move.aP i) m.ax.length=r):m.oN t=(r,m):=by
 unfold aA.oN;rw[hi];dsimp only;rw[hk];dsimp only;rw[h,ai hr]
def Vv{b:Bool}(hm:RM m)(hx:m.ax[i]?=some x)(htf:0<=t.ak/\t.ak<1000000)(ht:t.aU<bB)(hb:b=decide (fH t x.move))
 (h1:fH t x.move->∀kS kR,T W (ML p m mb mc kS kR R) (K (.i 25)))
 (h2: ¬fH t x.move->1<x.fate->∀kS kR,T W (ML p m mb mc kS kR R) (K (.i (25+x.fate))))
 (h: ¬fH t x.move-> ¬1<x.fate->∀kS kR,T W (ML p (Tq m t i x).2 mb mc kS kR R) (K (.i (Tq m t i x).1))):
 T W (ML p m mb mc kb kc (Sep.pt r3 [.u 0,.u 0]::Sep.pt r2 (aL x.move)::Sep.pt r1 (aL t)::R)) (az.j1 K (ah p) (i:Int) r1 r3 r2 b):=by
 have wi:=hm.many;have nM:=cb hx;have Qp:=(aw.1 hx).1;have hft:=hm.ground.uJ x nM;unfold az.j1;cases b with
 |true=>
  apply ws;refine T.sub (h1 (aQ hb.symm) kb kc) ?_;exact qv
 |false=>
  have hn:=bj hb.symm;apply ws;refine dM (b:=kb) ⟨by omega,by omega⟩ λrb wm=>?_;rw[ao];subst wm;refine RH ?_;refine D5 (o:=i) (x:=x) je hx rfl ?_;apply ws;apply fV<;>intro g1
  ·apply ws;refine dM (b:=ah rb) ⟨by omega,by omega⟩ λZv wm=>?_;rw[ao];cases wm
   refine RH ?_;refine D5 (o:=i) (x:=x) je hx rfl ?_;apply ws;rw[aW (by omega)];refine T.sub (h2 hn g1 (ah rb) kc) ?_;exact qv
  ·apply ws;refine kK htf (by decide) ?_;apply ws;intros;rename_i r4;have fin:=h hn g1;apply fV<;>intro g2
   ·apply ws;refine T.JB ?_;have e:cM t x.move=x.move.aU:=ai g2;rw[<-e];exact Of hm hx g1 fin ht
   ·refine T.JB ?_;have e:cM t x.move=t.aU:=ag g2;rw[<-e];exact Of hm hx g1 fin ht
def Vu{b:Bool}(hm:RM m)(hx:m.ax[i]?=some x)(htf:0<=t.ak/\t.ak<1000000)(ht:t.aU<bB)(hb:b=decide (t.bp≠0/\t.bp≠x.move.bp))
 (h1:fH t x.move->∀kS kR,T W (ML p m mb mc kS kR R) (K (.i 25)))
 (h2: ¬fH t x.move->1<x.fate->∀kS kR,T W (ML p m mb mc kS kR R) (K (.i (25+x.fate))))
 (h: ¬fH t x.move-> ¬1<x.fate->∀kS kR,T W (ML p (Tq m t i x).2 mb mc kS kR R) (K (.i (Tq m t i x).1))):
 T W (ML p m mb mc kb kc (Sep.pt r3 [.u 0,.u 0]::Sep.pt r2 (aL x.move)::Sep.pt r1 (aL t)::R)) (az.j8 K (ah p) (i:Int) r1 r3 r2 b):=by
 have j1:∀b:Bool,b=decide (fH t x.move)->T W (ML p m mb mc kb kc (Sep.pt r3 [.u 0,.u 0]::Sep.pt r2 (aL x.move)::Sep.pt r1 (aL t)::R)) (az.j1 K (ah p) (i:Int) r1 r3 r2 b):=λb hb=>Vv hm hx htf ht hb h1 h2 h;have Kv:∀b:Bool,b=decide ((t.bp≠0/\t.bp≠x.move.bp)\/(t.aP≠0/\t.aP≠x.move.aP)\/(t.aZ≠0/\t.aZ≠x.move.aZ))->
  T W (ML p m mb mc kb kc (Sep.pt r3 [.u 0,.u 0]::Sep.pt r2 (aL x.move)::Sep.pt r1 (aL t)::R)) (az.Kv K (ah p) (i:Int) r1 r3 r2 b):=λb hb=>by
  unfold az.Kv;cases b with
  |true=>
   have hc:=aQ hb.symm;refine j1 true (av ?_).symm;rcases hc with hc|hc|hc
   ·exact .inl hc
   ·exact .inr (.inl hc)
   ·exact .inr (.inr (.inl hc))
  |false=>
   have hc:=bj hb.symm;apply ws;apply dh<;>intro g1
   ·have g1:=fy.1 g1;apply ws;refine j1 _ ?_;rw[bV,fy,decide_eq_true_eq];refine⟨λhh=>.inr (.inr (.inr ⟨g1,hh⟩)),λhh=>?_⟩;rcases hh with hh|hh|hh|hh
    ·exact aT (.inl hh) hc
    ·exact aT (.inr (.inl hh)) hc
    ·exact aT (.inr (.inr hh)) hc
    ·exact hh.2
   ·have g1:t.code=0:=by simpa using g1
    refine j1 false (aq (λhh=>?_)).symm;rcases hh with hh|hh|hh|hh
    ·exact aT (.inl hh) hc
    ·exact aT (.inr (.inl hh)) hc
    ·exact aT (.inr (.inr hh)) hc
    ·exact hh.1 g1
 have j9:∀b:Bool,b=decide ((t.bp≠0/\t.bp≠x.move.bp)\/(t.aP≠0/\t.aP≠x.move.aP))->
  T W (ML p m mb mc kb kc (Sep.pt r3 [.int .u64 0,.int .u64 0]::Sep.pt r2 (aL x.move)::Sep.pt r1 (aL t)::R)) (az.j9 K (some ⟨p,0,none⟩) (i:Int) r1 r3 r2 b):=λb hb=>by
  unfold az.j9;cases b with
  |true=>
   have hc:=aQ hb.symm;refine Kv true (av ?_).symm;rcases hc with hc|hc
   ·exact .inl hc
   ·exact .inr (.inl hc)
  |false=>
   have hc:=bj hb.symm;apply ws;apply dh<;>intro g1
   ·have g1:=fy.1 g1;apply ws;refine Kv _ ?_;rw[bV,fy,decide_eq_true_eq];refine⟨λhh=>.inr (.inr ⟨g1,hh⟩),λhh=>?_⟩;rcases hh with hh|hh|hh
    ·exact aT (.inl hh) hc
    ·exact aT (.inr hh) hc
    ·exact hh.2
   ·have g1:t.aZ=0:=by simpa using g1
    refine Kv false (aq (λhh=>?_)).symm;rcases hh with hh|hh|hh
    ·exact aT (.inl hh) hc
    ·exact aT (.inr hh) hc
    ·exact hh.1 g1
 unfold az.j8;cases b with
 |true=>exact j9 true (av (.inl (aQ hb.symm))).symm
 |false=>
  have hc:=bj hb.symm;apply ws;by_cases g1:t.aP=0
  ·rw[av g1];refine j9 false (aq (λhh=>?_)).symm;rcases hh with hh|hh
   ·exact hc hh
   ·exact hh.1 g1
  ·rw[aq g1];apply ws;refine j9 _ ?_;by_cases g2:t.aP=x.move.aP
   ·rw[av g2];refine(aq (λhh=>?_)).symm;rcases hh with hh|hh
    ·exact hc hh
    ·exact hh.2 g2
   ·rw[aq g2];exact(av (.inr ⟨g1,g2⟩)).symm
def Zw(hm:RM m)(ht:yJ t)(h:∀kS kR,T W (ML p (m.oN t).2 mb mc kS kR R) (K (.i (m.oN t).1))):T W (ML p m mb mc kb kc R) (az (ah p) (aL t) K):=by
 unfold az;have wj:=hm.ou;have wi:=hm.many;have uX:=hm.ay;apply ws;intros;rename_i r1;refine zN ht ?_;apply ws;have KF:m.name t.pending=none->∀r:Int,nH t (m.named t.id) none false false m.ax.length=r->∀kS kR,T W (ML p m mb mc kS kR R) (K (.i r)):=λhn r he kS kR=>by
  have:=h kS kR;unfold aA.oN at this;rw[hn] at this;dsimp only at this;rw[he] at this;exact this
 have KE:∀i k,m.name t.pending=some i->m.ax[i]?=some k->∀r:Int,r≠0->nH t (m.named t.id) (some k) (m.closed k.move.bp i) (m.closed k.move.aP i) m.ax.length=r->∀kS kR,T W (ML p m mb mc kS kR R) (K (.i r)):=λi k hi hk r hr he kS kR=>by
  have:=h kS kR;rw[Xf hi hk hr he] at this;exact this
 have tp:∀r:Int,r≠0->(∀pd dC cC,nH t (m.named t.id) pd dC cC m.ax.length=r)->∀kS kR,T W (ML p m mb mc kS kR R) (K (.i r)):=λr hr he=>by
  rcases ri (λx:bW=>decide (x.move.id=t.pending)) m.ax with⟨f1,f2,f3⟩|⟨i,x,f1,f2,f3,f4,f5⟩
  ·exact KF f2 r (he _ _ _)
  ·exact KE i x f4 f1 r hr (he _ _ _)
 unfold nH at tp KF KE;apply dh<;>intro g1
 ·have g1:mT t≠0:=by simpa using g1
  have:=tp _ g1 (λ_ _ _=>ai g1) kb kc;exact T.dp this
 have g1:mT t=0:=by simpa using g1
 simp only[ag (show ¬mT t≠0 from λhh=>hh g1)] at tp KF KE;obtain⟨OM,htm⟩:=wy g1;have hf:0<=t.ak/\t.ak<1000000:=by omega
 apply ws;refine vY hf ?_;apply ws;by_cases g2:jA t.ak
 rotate_left
 ·rw[aq g2];have:=tp 6 (by decide) (λ_ _ _=>ai g2) kb kc;apply ws;exact T.dp this
 rw[av g2];simp only[ag (show ¬ ¬jA t.ak from λhh=>hh g2)] at tp KF KE;apply ws;refine T.Q2 ?_;refine Io (by omega) ?_;apply ws;have OI:m.named t.id=m.ax.find? λk=>decide (k.move.id=t.id):=rfl;rcases ri (λx:bW=>decide (x.move.id=t.id)) m.ax with⟨f1,f2,f3⟩|⟨i,x,f1,f2,f3,f4,f5⟩
 rotate_left
 ·rw[OI,f3] at tp;dsimp only at tp;rw[f5];have Qp:=(aw.1 f1).1;have hx:=hm.ax x (cb f1);refine mR (av (by omega)) ?_;apply ws;refine dM (b:=kb) ⟨by omega,by omega⟩ λrb hb=>?_;rw[ao];subst hb;refine RF je f1 ?_;refine EB hf ⟨hx.uR.1,by have:=hx.uR.2;omega⟩ ?_;apply ws;refine T.sub (tp _ (sC _ _) (λ_ _ _=>rfl) (ah rb) kc) ?_;exact qv
 rw[OI,f1] at tp KF;have LP:m.named t.id=none:=by rw[OI,f1]
 rw[LP] at KE;dsimp only at tp KF KE;rw[f3];refine gL (by decide) ?_;apply ws;refine Io (by omega) ?_;apply ws;rcases ri (λx:bW=>decide (x.move.id=t.pending)) m.ax with⟨d1,d2,d3⟩|⟨i,x,d1,d2,d3,d4,d5⟩
 ·rw[d3];refine mR (by decide) ?_;refine T.sub (KF d2 23 rfl kb kc) ?_;exact qv
 have tp:=KE i x d4 d1;clear KF KE;have Qp:=(aw.1 d1).1;have nM:=cb d1;have hx:=hm.ax x nM;rw[d5];refine gL (aq (by omega)) ?_;apply ws;refine dM (b:=kb) ⟨by omega,by omega⟩ λrb hb=>?_;rw[ao];subst hb;refine Y6 ?_;refine RE je d1 ?_;apply ws;intros;rename_i r2 r3;have hxf:0<=x.move.ak/\x.move.ak<1000000:=⟨hx.wa.1,by have:=hx.wa.2;omega⟩;refine kK hxf (by decide) ?_;apply ws;by_cases g3:has x.move.ak 2
 rotate_left
 ·rw[ai g3] at tp;rw[aq g3];apply ws;refine T.sub (tp 24 (by decide) rfl (ah rb) kc) ?_;exact qv
 rw[ag (λhh=>hh g3)] at tp;rw[av g3];apply ws;have fin:∀b:Bool,b=decide (t.bp≠0/\t.bp≠x.move.bp)->T W (Sep.pt r3 [.u 0,.u 0]::Sep.pt r2 (aL x.move)::ML p m mb mc (ah rb) kc (Sep.pt r1 (aL t)::R)) (az.j8 K (ah p) (i:Int) r1 r3 r2 b):=λb hb=>by
  refine T.perm (L:=ML p m mb mc (ah rb) kc (Sep.pt r3 [.u 0,.u 0]::Sep.pt r2 (aL x.move)::Sep.pt r1 (aL t)::R)) ?_ (bu (l₁:=[Sep.pt r3 [.u 0,.u 0],Sep.pt r2 (aL x.move)]) (l₂:=[_,_,_])|>.append_right _);refine Vu hm d1 hf ht.aU hb (λhn=>tp 25 (by decide) (ai hn)) (λhn Ww=>tp (25+x.fate) (by omega) (by rw[ag hn,ai Ww])) (λhn Ww kS kR=>?_);have:=h kS kR;rw[acB g1 g2 LP d4 d1 g3 hn Ww] at this;exact this
 by_cases g4:t.bp=0
 ·rw[av g4];exact fin false (aq (λhh=>hh.1 g4)).symm
 ·rw[aq g4];apply ws;refine fin _ ?_;by_cases g5:t.bp=x.move.bp
  ·rw[av g5];exact(aq (λhh=>hh.2 g5)).symm
  ·rw[aq g5];exact(av ⟨g4,g5⟩).symm
end
inductive It where
 |a(x:bC)
 |t(x:cE)
def Aj:It->LV
 | .a x=>.b true::(aK x++aL zT)
 | .t x=>.b false::(aK zA++aL x)
def wF(m:aA):It->Int×aA
 | .a x=>m.make x
 | .t x=>m.qL x
def zQ:It->Bool
 | .a x=>Ai x
 | .t x=>Ah x
def Ny:It->Prop
 | .a x=>wD x
 | .t x=>yJ x
def OC(x:It):(Aj x).length=31:=by cases x<;>rfl
instance{x:bC}{t:cE}{b:Value}:Gt (b::(aK x++aL t)) 13 (.i x.ak):=⟨rfl⟩
instance{x:bC}{t:cE}{b:Value}:Gt (b::(aK x++aL t)) 28 (.i t.ak):=⟨rfl⟩
def OB(x:It):∀v∈Aj x,v.oneCell'=true:=λv hv=>by
 cases x with
 |a x=>
  rcases jB.1 hv with h|h
  ·subst h;rfl
  ·rcases dF.1 h with h|h
   ·exact iv _ v h
   ·exact o0 _ v h
 |t x=>
  rcases jB.1 hv with h|h
  ·subst h;rfl
  ·rcases dF.1 h with h|h
   ·exact iv _ v h
   ·exact o0 _ v h
instance{x:bC}{t:cE}{b:Value}:Sub (b::(aK x++aL t)) 1 14 (aK x):=⟨rfl,λj v h=>by
 rw[Nat.add_comm 1 j,bO,dB (aw.1 h).1];exact h⟩
instance{x:bC}{t:cE}{b:Value}:Sub (b::(aK x++aL t)) 15 16 (aL t):=⟨rfl,λj v h=>by
 have hl:(aK x).length=14:=rfl
 rw[show 15+j=14+j+1 by omega,bO,iz (by omega),hl,Nat.add_sub_cancel_left];exact h⟩
def RM.wF{m:aA}{x:It}(h:RM m)(hx:Ny x):RM (wF m x).2:=by
 cases x with
 |a x=>exact h.make hx
 |t x=>exact h.qL hx
def JE(n:Int):(n.tmod 2!=0)=decide (n%2=1):=by
 rw[bV,fy,decide_eq_true_eq];rcases Int.le_total 0 n with h|h
 ·rw[dN h];omega
 ·obtain⟨k,rfl⟩:∃k:Int,n= -k:=⟨-n,by omega⟩;rw[Int.neg_tmod,dN (by omega)];omega
section
variable {W:World} {L R:LH} {K:VK} {X:WK} {p:Nat} {m:aA} {mb kb:OA} {mc kc:Nat} {x:It}
def J4(h:T W L (K (.b (zQ x)))):T W L (mL (Aj x) K):=by
 unfold mL;cases x with
 |a x=>
  rw[show Aj (It.a x)=.b true::(aK x++aL zT) from rfl];apply ws;intros;refine dD (by decide) ?_;rw[JE];exact T.dp h
 |t x=>
  rw[show Aj (It.t x)=.b false::(aK zA++aL x) from rfl];apply ws;intros;refine dD (by decide) ?_;rw[JE];exact T.dp h
def Vy(hm:RM m)(hx:Ny x)(h:∀sh sg kS kR,T W (ML p (wF m x).2 sh sg kS kR R) (K (.i (wF m x).1))):T W (ML p m mb mc kb kc R) (iW (ah p) (Aj x) K):=by
 unfold iW iW.j1;cases x with
 |a x=>
  rw[show Aj (It.a x)=.b true::(aK x++aL zT) from rfl];apply ws;intros;refine T.Q2 ?_;refine Vt hm hx λsh sg=>?_;apply ws;refine T.sub (h sh sg kb kc) ?_
  repeat (first|exact ba.refl _|apply ba.cons_cons|apply ba.cons)
 |t x=>
  rw[show Aj (It.t x)=.b false::(aK zA++aL x) from rfl];apply ws;intros;refine zN hx ?_;rw[show wF m (It.t x)=m.qL x from rfl] at h;unfold aA.qL at h;apply ws;apply dh<;>intro g1
  ·have g1:mT x=0:=by simpa using g1
   obtain⟨OM,htm⟩:=wy g1;apply ws;refine vY (by omega) ?_;apply ws;by_cases g2:jA x.ak
   ·rw[av g2];rw[ai ⟨g1,g2⟩] at h;apply ws;refine T.Q2 ?_;refine Zw hm hx λkS kR=>?_;apply ws;refine T.sub (h mb mc kS kR) ?_;exact qv
   ·rw[aq g2];rw[ag (λhh=>g2 hh.2)] at h;apply ws;refine T.Q2 ?_;refine Od hm hx λkS kR=>?_;apply ws;refine T.sub (h mb mc kS kR) ?_;exact qv
  ·have g1: ¬mT x=0:=by simpa using g1
   rw[ag (λhh=>g1 hh.1)] at h;apply ws;refine T.Q2 ?_;refine Od hm hx λkS kR=>?_;apply ws;refine T.sub (h mb mc kS kR) ?_;exact qv
def Gj{s:OA}{c:Nat}{l:List bC}[hh:Has R L](hr:nK W R aK 14 s l)(hl:l.length<=1000000)
 (h:∀b c,T W (own b l.length c 31 ((l.map It.a).flatMap Aj)::L) (K (.l b l.length c))):T W L (lq s l.length c K):=by
 unfold lq;refine gZ (e:=31) ?_;intro w jW;refine⟨λvv w=>∃(i:Nat)(b:OA)(c2:Nat)(out:List It),i<=l.length/\out=(l.take i).map It.a/\vv=[.l none 0 0,.l b i c2,.l s l.length c,.i (l.length:Int),.i (i:Int)]/\St W w (own b i c2 31 (out.flatMap Aj)::L),
  λvs _=>match vs with|[_,_,_,_,.int _ d]=>l.length-d.toNat|_=>0,⟨0,none,0,[],aE _,rfl,rfl,jW⟩,?_⟩
 rintro qI oW re b i c2 xG vT wO n1 n2 w2 ⟨i0,b0,c0,out,hi,xY,e,gX⟩;cases e
 refine T.at ?_ gX;have e5:=nL i;apply fV<;>intro g1
 ·have cf:i<l.length:=by omega
  have gx:=aj cf;generalize l[i]=x at gx;refine iN hr ⟨by omega,by omega⟩ rfl λa ha=>?_;rw[ao];refine jH hr ha gx (jx x) ?_;apply ws;intros;refine jm (g:=Aj) (l:=out) (x:=It.a x) (by rw[bI];rfl) rfl rfl (by omega) (by omega) (OB _) λb' c'=>?_;rw[e5];refine T.drop (T.sub (M:=own b' (i+1) c' 31 ((out++[It.a x]).flatMap Aj)::L) (λw3 h3=>⟨⟨i+1,b',c',out++[It.a x],cf,?_,rfl,h3⟩,by show l.length-((i+1:Nat):Int).toNat<l.length-(i:Int).toNat;omega⟩) (by repeat (first|exact ba.refl _|apply ba.cons_cons|apply ba.cons)));rw[a8,gx,cR,xY];rfl
 ·have iM:i=l.length:=by omega
  subst iM;rw[aR] at xY;subst xY;exact h _ _
def Eu{s:OA}{c:Nat}{l:List cE}[hh:Has R L](hr:nK W R aL 16 s l)(hl:l.length<=1000000)
 (h:∀b c,T W (own b l.length c 31 ((l.map It.t).flatMap Aj)::L) (K (.l b l.length c))):T W L (kI s l.length c K):=by
 unfold kI;refine gZ (e:=31) ?_;intro w jW;refine⟨λvv w=>∃(i:Nat)(b:OA)(c2:Nat)(out:List It),i<=l.length/\out=(l.take i).map It.t/\vv=[.l none 0 0,.l b i c2,.l s l.length c,.i (l.length:Int),.i (i:Int)]/\St W w (own b i c2 31 (out.flatMap Aj)::L),
  λvs _=>match vs with|[_,_,_,_,.int _ d]=>l.length-d.toNat|_=>0,⟨0,none,0,[],aE _,rfl,rfl,jW⟩,?_⟩
 rintro qI oW re b i c2 xG vT wO n1 n2 w2 ⟨i0,b0,c0,out,hi,xY,e,gX⟩;cases e
 refine T.at ?_ gX;have e5:=nL i;apply fV<;>intro g1
 ·have cf:i<l.length:=by omega
  have gx:=aj cf;generalize l[i]=x at gx;refine iN hr ⟨by omega,by omega⟩ rfl λa ha=>?_;rw[ao];refine jH hr ha gx (BN x) ?_;apply ws;intros;refine jm (g:=Aj) (l:=out) (x:=It.t x) (by rw[bI,bI];rfl) rfl rfl (by omega) (by omega) (OB _) λb' c'=>?_;rw[e5];refine T.drop (T.sub (M:=own b' (i+1) c' 31 ((out++[It.t x]).flatMap Aj)::L) (λw3 h3=>⟨⟨i+1,b',c',out++[It.t x],cf,?_,rfl,h3⟩,by show l.length-((i+1:Nat):Int).toNat<l.length-(i:Int).toNat;omega⟩) (by repeat (first|exact ba.refl _|apply ba.cons_cons|apply ba.cons)));rw[a8,gx,cR,xY];rfl
 ·have iM:i=l.length:=by omega
  subst iM;rw[aR] at xY;subst xY;exact h _ _
end
def Bk(p:Nat)(m:aA)(mb:OA)(mc:Nat)(kb:OA)(kc:Nat)(R:LH)(p2:Nat)(m':aA)(sh:OA)(sg:Nat)(kS:OA)(kR:Nat)(R':LH):Prop:=
 (R'=R/\p2=p/\m'=m/\sh=mb/\sg=mc/\kS=kb/\kR=kc)\/R'=ML p m mb mc kb kc R
def Sp{n:Nat}{o:Option (Nat×Int)}{q:Nat}(hq:q<n):(kA n o)[q]?=some (match o with|none=>0|some (i,c)=>if q=i then c else 1):=by
 unfold kA;cases o with
 |none=>simp[hq]
 |some e=>
  obtain⟨i,c⟩:=e;dsimp only;rw[dc];by_cases h:i=q
  ·subst h;rw[ai rfl,ai (by simpa using hq),ai rfl]
  ·rw[ag h,ag (λhh=>h hh.symm)];simp[hq]
def Nz(x:Int):∀v∈I1 x,v.oneCell'=true:=λv hv=>by simp[I1] at hv;subst hv;rfl
section
variable {W:World} {L R:LH} {K:VK} {X:WK} {p:Nat} {m:aA} {mb kb:OA} {mc kc:Nat} {x:It}
def Uc(W:World)(R:LH)(p:Nat)(m:aA)(mb:OA)(mc:Nat)(kb:OA)(kc:Nat)(l:List It)(lb:OA)(lc:Nat)(vv:LV)(w:World):Prop:=
 ∃(at_ fuel:Nat)(m':aA)(done:List Int)(p2:Nat)(sh:OA)(sg:Nat)(kS:OA)(kR:Nat)(ob:OA)(oc:Nat)(R':LH),at_<=l.length/\done.length=at_/\l.length<=fuel+at_/\
  hG wF zQ l.length m l=(done++(hG wF zQ fuel m' (l.drop at_)).1,(hG wF zQ fuel m' (l.drop at_)).2)/\RM m'/\Bk p m mb mc kb kc R p2 m' sh sg kS kR R'/\
  vv=[.p (ah p2),.l none 0 0,.p none,.l ob at_ oc,.i (at_:Int)]/\
  St W w (ML p2 m' sh sg kS kR (own ob at_ oc 1 (done.flatMap I1)::own lb l.length lc 31 (l.flatMap Aj)::R'))
def Rmu(n:Nat)(vs:LV)(_:World):Nat:=match vs with|[_,_,_,_,.int _ d]=>n-d.toNat|_=>0
def Im{w2:World}{l:List It}{lb:OA}{lc:Nat}{at_ fuel n:Nat}{m' mN:aA}{done:List Int}{p2 p6:Nat}{sh kS nb nk ob:OA}{sg kR nc Sz oc:Nat}{R':LH}{o:Option (Nat×Int)}{bad code:Int}
 (hl:l.length<=1000)(hn:0<n)(Bp:at_+n<=l.length)(zv:done.length=at_)(Q9:l.length<=fuel+(at_+n))(ho:(o=none/\bad<0)\/∃i,o=some (i,code)/\i<n/\bad=((at_+i:Nat):Int))(LR:RM m')(Ye:RM mN)
 (Bo:Bk p m mb mc kb kc R p2 m' sh sg kS kR R')
 (o7:hG wF zQ l.length m l=(done++kA n o++(hG wF zQ fuel (if o=none then mN else m') (l.drop (at_+n))).1,(hG wF zQ fuel (if o=none then mN else m') (l.drop (at_+n))).2)):
 T W (ML p6 mN nb nc nk Sz (ML p2 m' sh sg kS kR (own ob at_ oc 1 (done.flatMap I1)::own lb l.length lc 31 (l.flatMap Aj)::R')))
   (cr.j3 K (Uc W R p m mb mc kb kc l lb lc) (Rmu l.length) (ah p2) none 0 0 none ob at_ oc (at_:Int) w2 (ah p2) none 0 0 none ob at_ oc (at_:Int) ((at_+n-1:Nat):Int) bad code (ah p6)):=by
 unfold cr.j3;intro w jW;refine⟨λvv w=>∃(q:Nat)(b:OA)(c:Nat),q<=n/\vv=[.p (ah p2),.l none 0 0,.p none,.l b (at_+q) c,.i (at_:Int),.i ((at_+n-1:Nat):Int),.i bad,.i code,.p (ah p6),.i ((at_+q:Nat):Int)]/\
  St W w (ML p6 mN nb nc nk Sz (ML p2 m' sh sg kS kR (own b (at_+q) c 1 ((done++(kA n o).take q).flatMap I1)::own lb l.length lc 31 (l.flatMap Aj)::R'))),
  λvs _=>match vs with|[_,_,_,_,_,_,_,_,_,.int _ d]=>at_+n-d.toNat|_=>0,⟨0,ob,oc,aE _,rfl,by rw[nG,bI];exact jW⟩,?_⟩
 rintro p10 Ve Uv Vc p11 b sn9 c VU VT VR VQ p12 n15 w4 ⟨q,b0,c0,hq,e,yb⟩;cases e
 refine T.at ?_ yb;have e5:aa.wrap (((at_+q:Nat):Int)+1)=((at_+(q+1):Nat):Int):=by rw[aW (by omega)];omega
 apply fV<;>intro g1
 ·have cf:q<n:=by omega
  have A1:=Sp (o:=o) cf;have qV:(kA n o).take (q+1)=(kA n o).take q++[match o with|none=>0|some (i,c)=>if q=i then c else 1]:=by rw[a8,A1];rfl
  rcases ho with⟨rfl,hb⟩|⟨i,rfl,hi,rfl⟩
  ·refine mR (av hb) ?_;refine dD ⟨rfl,trivial⟩ ?_;refine tS λr1=>?_;refine jm (g:=I1) (l:=done++(kA n _).take q) (x:=(0:Int)) rfl rfl rfl (by omega) (by omega) (Nz _) λb' c'=>?_;rw[e5];refine T.drop λw5 h5=>⟨⟨q+1,b',c',cf,rfl,by rw[qV,<-aH];exact h5⟩,by show at_+n-((at_+(q+1):Nat):Int).toNat<at_+n-((at_+q:Nat):Int).toNat;omega⟩
  ·refine gL (aq (by omega)) ?_;by_cases hqi:q=i
   ·subst hqi;refine mR (by simp) ?_;dsimp only at qV;rw[ai rfl] at qV;refine dD ⟨rfl,trivial⟩ ?_;refine tS λr1=>?_;refine jm (g:=I1) (l:=done++(kA n _).take q) (x:=code) rfl rfl rfl (by omega) (by omega) (Nz _) λb' c'=>?_;rw[e5];refine T.drop λw5 h5=>⟨⟨q+1,b',c',cf,rfl,by rw[qV,<-aH];exact h5⟩,by show at_+n-((at_+(q+1):Nat):Int).toNat<at_+n-((at_+q:Nat):Int).toNat;omega⟩
   ·refine gL (by simp;omega) ?_;dsimp only at qV;rw[ag hqi] at qV;refine dD ⟨rfl,trivial⟩ ?_;refine tS λr1=>?_;refine jm (g:=I1) (l:=done++(kA n _).take q) (x:=(1:Int)) rfl rfl rfl (by omega) (by omega) (Nz _) λb' c'=>?_;rw[e5];refine T.drop λw5 h5=>⟨⟨q+1,b',c',cf,rfl,by rw[qV,<-aH];exact h5⟩,by show at_+n-((at_+(q+1):Nat):Int).toNat<at_+n-((at_+q:Nat):Int).toNat;omega⟩
 ·have iM:q=n:=by omega
  subst iM;rw[bM (Nat.le_of_eq (kv q o))];have e6:aa.wrap (((at_+q-1:Nat):Int)+1)=((at_+q:Nat):Int):=by rw[aW (by omega)];omega
  rw[e6];rcases ho with⟨rfl,hb⟩|⟨i,rfl,hi,rfl⟩
  ·refine mR (av hb) ?_;rw[ai rfl] at o7;have fin:∀L1,Bk p m mb mc kb kc R p6 mN nb nc nk Sz L1->T W (ML p6 mN nb nc nk Sz (own b (at_+q) c 1 ((done++kA q none).flatMap I1)::own lb l.length lc 31 (l.flatMap Aj)::L1))
                           (λw8=>Uc W R p m mb mc kb kc l lb lc [.p (ah p6),.l none 0 0,.p none,.l b (at_+q) c,.i ((at_+q:Nat):Int)] w8/\Rmu l.length [.p (ah p6),.l none 0 0,.p none,.l b (at_+q) c,.i ((at_+q:Nat):Int)] w8<Rmu l.length [.p (ah p2),.l none 0 0,.p none,.l ob at_ oc,.i (at_:Int)] w2):=λL1 aev w8 h8=>by
    refine⟨⟨at_+q,fuel,mN,done++kA q none,p6,nb,nc,nk,Sz,b,c,L1,Bp,by rw[au,kv];omega,Q9,o7,Ye,aev,rfl,h8⟩,?_⟩;show l.length-((at_+q:Nat):Int).toNat<l.length-(at_:Int).toNat;omega
   rcases Bo with⟨rfl,rfl,rfl,rfl,rfl,rfl,rfl⟩|rfl
   ·refine T.perm (fin _ (.inr rfl)) ?_;exact(bu (l₁:=[Sep.pt p2 (FX m' sh sg kS kR),own sh m'.cy.length sg 14 (m'.cy.flatMap aK),own kS m'.ax.length kR 33 (m'.ax.flatMap bG)]) (l₂:=[_,_])|>.append_right R').append_left [_,_,_]
   ·refine T.sub (fin _ (.inr rfl)) ?_;exact qv
  ·refine gL (aq (by omega)) ?_;rw[ag (by simp)] at o7;refine T.drop (T.drop (T.drop λw8 h8=>?_));refine⟨⟨at_+q,fuel,m',done++kA q (some (i,code)),p2,sh,sg,kS,kR,b,c,R',Bp,by rw[au,kv];omega,Q9,o7,LR,Bo,rfl,h8⟩,?_⟩;show l.length-((at_+q:Nat):Int).toNat<l.length-(at_:Int).toNat;omega
def Oc{w2:World}{l:List It}{lb:OA}{lc:Nat}{at_ fuel n:Nat}{m':aA}{done:List Int}{p2:Nat}{sh kS ob:OA}{sg kR oc:Nat}{R':LH}{bad code:Int}
 (ix:∀x∈l,Ny x)(hl:l.length<=1000)(hn:0<n)(Bp:at_+n<=l.length)(zv:done.length=at_)(Q9:l.length<=fuel+(at_+n))(LR:RM m')
 (Bo:Bk p m mb mc kb kc R p2 m' sh sg kS kR R')
 (II:cn zQ (l.drop at_)=(n,decide (bad<0)))(zg:(bad= -1/\code=0)\/(bad=((at_+n-1:Nat):Int)/\code=2/\at_+n=l.length))
 (o7:hG wF zQ l.length m l=(done++(hG wF zQ (fuel+1) m' (l.drop at_)).1,(hG wF zQ (fuel+1) m' (l.drop at_)).2)):
 T W (ML p2 m' sh sg kS kR (own ob at_ oc 1 (done.flatMap I1)::own lb l.length lc 31 (l.flatMap Aj)::R'))
   (cr.j2 K (ah p2) none 0 0 none ob at_ oc (at_:Int) lb l.length (Uc W R p m mb mc kb kc l lb lc) (Rmu l.length) (ah p2) none 0 0 none ob at_ oc (at_:Int) w2 ((at_+n-1:Nat):Int) bad code):=by
 unfold cr.j2 cr.j4;have hmf:=LR.ou;have hmm:=LR.many;refine Iq (by omega) (by omega) λp6 nb0 nc0 nk0 adR=>?_;apply ws;have kd:l.drop at_≠[]:=λhh=>by have:=congrArg List.length hh;rw[aS] at this;simp at this;omega
 have gi:=Bz (f:=wF) (lk:=zQ) (n:=fuel) (s:=m') kd;have hdd:(l.drop at_).drop n=l.drop (at_+n):=jz;rw[II] at gi;dsimp only at gi;rw[hdd] at gi;intro w jW;refine⟨λvv w=>∃(i:Nat)(bd cd:Int)(mN:aA)(nb:OA)(nc:Nat)(nk:OA)(Sz:Nat),i<=n/\RM mN/\
                                                                                                      ((bd<0/\bad<0/\ia wF m' ((l.drop at_).take i) 0=(none,mN))\/(∃q s,bd=((at_+q:Nat):Int)/\q<n/\bad<0/\ia wF m' ((l.drop at_).take n) 0=(some (q,cd),s))\/(bd=bad/\cd=code/\ ¬bad<0))/\
                                                                                                      vv=[.p (ah p2),.l none 0 0,.p none,.l ob at_ oc,.i (at_:Int),.i ((at_+n-1:Nat):Int),.i bd,.i cd,.p (ah p6),.i ((at_+i:Nat):Int)]/\
                                                                                                      St W w (ML p6 mN nb nc nk Sz (ML p2 m' sh sg kS kR (own ob at_ oc 1 (done.flatMap I1)::own lb l.length lc 31 (l.flatMap Aj)::R'))),
  λvs _=>match vs with|[_,_,_,_,_,_,_,_,_,.int _ d]=>at_+n-d.toNat|_=>0,⟨0,bad,code,m',nb0,nc0,nk0,adR,aE _,LR,?_,rfl,jW⟩,?_⟩
 ·by_cases hb:bad<0
  ·exact .inl ⟨hb,hb,rfl⟩
  ·exact .inr (.inr ⟨rfl,rfl,hb⟩)
 rintro p13 ahg aha ahd p14 ob1 Lr oc1 zn n17 bd cd p15 n20 w11 ⟨i,bd0,cd0,mN,nb,nc,nk,Sz,hi,Ye,uX,e,gX⟩;cases e
 refine T.at ?_ gX;have e5:aa.wrap (((at_+i:Nat):Int)+1)=((at_+(i+1):Nat):Int):=by rw[aW (by omega)];omega
 have leave:(i=n\/ ¬bd<0)->T W (ML p6 mN nb nc nk Sz (ML p2 m' sh sg kS kR (own ob at_ oc 1 (done.flatMap I1)::own lb l.length lc 31 (l.flatMap Aj)::R')))
  (cr.j3 K (Uc W R p m mb mc kb kc l lb lc) (Rmu l.length) (ah p2) none 0 0 none ob at_ oc (at_:Int) w2 (ah p2) none 0 0 none ob at_ oc (at_:Int) ((at_+n-1:Nat):Int) bd cd (ah p6)):=λYg=>by
  rcases uX with⟨h1,h2,h3⟩|⟨q,s,h1,h2,h3,h4⟩|⟨h1,h2,h3⟩
  ·have CC:i=n:=by rcases Yg with hh|hh;exact hh;exact aT h1 hh
   subst CC;refine Im (fuel:=fuel) (o:=none) hl hn Bp zv Q9 (.inl ⟨rfl,h1⟩) LR Ye Bo ?_;rw[ag (by rw[av h2];decide),h3] at gi;dsimp only at gi;rw[ai rfl,o7,gi];simp
  ·refine Im (fuel:=fuel) (o:=some (q,cd)) hl hn Bp zv Q9 (.inr ⟨q,rfl,h2,h1⟩) LR Ye Bo ?_;rw[ag (by rw[av h3];decide),h4] at gi;dsimp only at gi;rw[ag (by simp),o7,gi];simp
  ·subst h1 h2;rcases zg with⟨hb,_⟩|⟨hb,hc,UJ⟩
   ·omega
   refine Im (fuel:=fuel) (o:=some (n-1,cd)) hl hn Bp zv Q9 (.inr ⟨n-1,rfl,by omega,by rw[hb];omega⟩) LR Ye Bo ?_;rw[ai (by rw[aq h3])] at gi;rw[ag (by simp),o7,gi,hc];rw[show l.drop (at_+n)=[] from ga (by omega),vW];simp
 by_cases Yg:i=n\/ ¬bd<0
 ·have:=leave Yg;apply fV<;>intro g1
  ·have hb: ¬bd<0:=by rcases Yg with hh|hh;omega;exact hh
   rw[aq hb];exact this
  ·exact this
 ·have cf:i<n:=Decidable.byContradiction λhh=>Yg (.inl (by omega));have hb:bd<0:=Decidable.byContradiction λhh=>Yg (.inr hh);have OO:bad<0/\ia wF m' ((l.drop at_).take i) 0=(none,mN):=by
   rcases uX with⟨h1,h2,h3⟩|⟨q,s,h1,h2,h3,h4⟩|⟨h1,h2,h3⟩
   ·exact⟨h2,h3⟩
   ·omega
   ·omega
  have gx:=aj (show at_+i<l.length by omega);have IE:=ix _ (bR (show at_+i<l.length by omega));generalize l[at_+i]=x at gx IE;have gx2:(l.drop at_)[i]?=some x:=by rw[rW];exact gx
  have qV:(l.drop at_).take (i+1)=(l.drop at_).take i++[x]:=by rw[a8,gx2];rfl
  have hti:((l.drop at_).take i).length=i:=by rw[aD,aS];omega
  refine mR (av (by omega)) ?_;rw[av hb];refine vE ?_;refine dM (b:=lb) ⟨by omega,by omega⟩ λrb We=>?_;rw[ao];subst We;refine gI (g:=Aj) OC gx ?_;refine Vy Ye IE λnb' nc' nk' abH=>?_;apply ws;rw[e5];apply dh<;>intro g2
  ·have g2:(wF mN x).1≠0:=by simpa using g2
   refine λw3 h3=>⟨⟨i+1,_,(wF mN x).1,_,nb',nc',nk',abH,cf,Ye.wF IE,.inr (.inl ⟨i,mN,rfl,cf,OO.1,?_⟩),rfl,h3⟩,by show at_+n-((at_+(i+1):Nat):Int).toNat<at_+n-((at_+i:Nat):Int).toNat;omega⟩;have uH:(l.drop at_).take n=(l.drop at_).take i++x::((l.drop at_).take n).drop (i+1):=by
    have e1:((l.drop at_).take n)[i]?=some x:=by rw[List.getElem?_take_of_lt cf];exact gx2
    obtain⟨Qp,hie⟩:=aw.1 e1;have e2:=dj i ((l.drop at_).take n);rw[gO Qp,hie,xz,qG (by omega)] at e2;exact e2.symm
   rw[uH,sy _ _ _ _ _ OO.2,ia,ai g2,hti,aC]
  ·have g2:(wF mN x).1=0:=by simpa using g2
   refine λw3 h3=>⟨⟨i+1,bd,_,_,nb',nc',nk',abH,cf,Ye.wF IE,.inl ⟨hb,OO.1,?_⟩,rfl,h3⟩,by show at_+n-((at_+(i+1):Nat):Int).toNat<at_+n-((at_+i:Nat):Int).toNat;omega⟩;rw[qV,sy _ _ _ _ _ OO.2,ia,ag (by omega)]
   rfl
def Se{l:List It}{lb:OA}{lc:Nat}(hm:RM m)(ix:∀x∈l,Ny x)(hl:l.length<=1000)
 (h:∀p2 sh sg kS kR ob oc R',Bk p m mb mc kb kc R p2 (hG wF zQ l.length m l).2 sh sg kS kR R'->RM (hG wF zQ l.length m l).2->(hG wF zQ l.length m l).1.length=l.length->
  T W (ML p2 (hG wF zQ l.length m l).2 sh sg kS kR (own ob l.length oc 1 ((hG wF zQ l.length m l).1.flatMap I1)::own lb l.length lc 31 (l.flatMap Aj)::R')) (K (.tuple ⟨[.l ob l.length oc,.p (some ⟨p2,0,none⟩)]⟩))):
 T W (ML p m mb mc kb kc (own lb l.length lc 31 (l.flatMap Aj)::R)) (cr (some ⟨p,0,none⟩) lb l.length lc K):=by
 unfold cr cr.j1;refine gZ (e:=1) ?_;refine T.JB ?_;intro w jW;refine⟨Uc W R p m mb mc kb kc l lb lc,Rmu l.length,⟨0,l.length,m,[],p,mb,mc,kb,kc,none,0,R,aE _,rfl,by omega,by simp,hm,.inl ⟨rfl,rfl,rfl,rfl,rfl,rfl,rfl⟩,rfl,jW⟩,?_⟩;rintro p2v qI oW re p3 ob at_ oc n1 w2 ⟨at0,fuel,m',done,p2,sh,sg,kS,kR,ob0,oc0,R',Bp,zv,Q9,o7,LR,Bo,e,gX⟩;cases e
 refine T.at ?_ gX;apply fV<;>intro g1
 ·have cf:at_<l.length:=by omega
  intro w3 vQ;refine⟨λvv w=>∃e:Nat,at_<=e/\e<=l.length/\(∀j y,j<e-at_->(l.drop at_)[j]?=some y->zQ y=true)/\vv=[.p (some ⟨p2,0,none⟩),.l none 0 0,.p none,.l ob at_ oc,.i (at_:Int),.i (e:Int)]/\
   St W w (ML p2 m' sh sg kS kR (own ob at_ oc 1 (done.flatMap I1)::own lb l.length lc 31 (l.flatMap Aj)::R')),
   λvs _=>match vs with|[_,_,_,_,_,.int _ d]=>l.length-d.toNat|_=>0,⟨at_,aG _,Bp,(λj y hj=>by omega),rfl,vQ⟩,?_⟩
  rintro p16 ahf ag' ahc p17 ahe ag9 ahb n22 n23 w15 ⟨en,ahu,aht,gh,e,OG⟩;cases e
  refine T.at ?_ OG;obtain⟨fuel,rfl⟩:∃k,fuel=k+1:=⟨fuel-1,by omega⟩;apply fV<;>intro g2
  ·have xh:en<l.length:=by omega
   have gx:=aj xh;generalize l[en]=x at gx;have gx2:(l.drop at_)[en-at_]?=some x:=by rw[rW,show at_+(en-at_)=en by omega];exact gx
   refine dM (b:=lb) ⟨by omega,by omega⟩ λrb We=>?_;rw[ao];subst We;refine gI (g:=Aj) OC gx ?_;refine J4 ?_;refine u0 ?_;cases hlk:zQ x with
   |true=>
    refine vE ?_;have e5:=nL en;rw[e5];refine λw6 h6=>⟨⟨en+1,by omega,xh,λj y hj hy=>?_,rfl,h6⟩,by show l.length-((en+1:Nat):Int).toNat<l.length-(en:Int).toNat;omega⟩;by_cases hje:j=en-at_
    ·subst hje;rw[gx2] at hy;cases hy
     exact hlk
    ·exact gh j y (by omega) hy
   |false=>
    refine vF ?_;refine gL (by simp;omega) ?_;have hc:=xv (linked:=zQ) gh gx2 hlk;have:=Oc (W:=W) (R:=R) (K:=K) (p:=p) (m:=m) (mb:=mb) (mc:=mc) (kb:=kb) (kc:=kc) (w2:=w2) (lb:=some ⟨rb,0,none⟩) (lc:=lc) (n:=en-at_+1) (bad:= -1) (code:=0) (fuel:=fuel) (ob:=ob) (oc:=oc) (done:=done) ix hl (by omega) (by omega) zv (by omega) LR Bo (by rw[hc];rfl) (.inl ⟨rfl,rfl⟩) o7;rw[show at_+(en-at_+1) -1=en by omega] at this;exact this
  ·have iM:en=l.length:=by omega
   subst iM;refine mR (by simp) ?_;have wk:(l.drop at_).length=l.length-at_:=aS;have hc:=vt (linked:=zQ) (l:=l.drop at_) λx hx=>by
    obtain⟨j,hj⟩:=qj hx;exact gh j x (by have:=(aw.1 hj).1;omega) hj
   have:=Oc (W:=W) (R:=R) (K:=K) (p:=p) (m:=m) (mb:=mb) (mc:=mc) (kb:=kb) (kc:=kc) (w2:=w2) (lb:=lb) (lc:=lc) (n:=l.length-at_) (bad:=((l.length-1:Nat):Int)) (code:=2) (fuel:=fuel) (ob:=ob) (oc:=oc) (done:=done) ix hl (by omega) (by omega) zv (by omega) LR Bo (by rw[hc,wk];rw[aq (by omega)]) (.inr ⟨by congr 1;omega,rfl,by omega⟩) o7;have e7:aa.wrap ((l.length:Int) -1)=((l.length-1:Nat):Int):=by rw[aW (by omega)];omega
   rw[show at_+(l.length-at_) -1=l.length-1 by omega] at this;rw[e7];exact this
 ·have iM:at_=l.length:=by omega
  subst iM;rw[List.drop_length,vW] at o7;simp only[bI] at o7;rw[o7] at h;exact h p2 sh sg kS kR ob oc R' Bo LR zv
end
def CP{α β:Type}(f:α->β)(lk:β->Bool):∀l:List α,cn lk (l.map f)=cn (λx=>lk (f x)) l
 |[]=>rfl
 |x::l=>by
  simp only[cN,cn];rw[CP f lk l]
def HG{α β σ:Type}(f:α->β)(g:σ->β->Int×σ):∀(l:List α)(s:σ)(i:Nat),ia g s (l.map f) i=ia (λs x=>g s (f x)) s l i
 |[],s,i=>rfl
 |x::l,s,i=>by
  simp only[cN,ia];rw[HG f g l]
def Ei{α β σ:Type}(f:α->β)(g:σ->β->Int×σ)(lk:β->Bool):∀(n:Nat)(s:σ)(l:List α),hG g lk n s (l.map f)=hG (λs x=>g s (f x)) (λx=>lk (f x)) n s l
 |0,s,l=>rfl
 |n+1,s,[]=>rfl
 |n+1,s,x::l=>by
  have e:=CP f lk (x::l);rw[cN] at e;rw[cN];unfold hG;rw[e,<-cN,<-List.map_take,<-List.map_drop,HG];simp only[Ei f g lk n]
section
variable {W:World} {L R:LH} {K:VK} {X:WK} {p:Nat} {m:aA} {mb kb:OA} {mc kc:Nat} {q:jF} {s:vx}
def N9(m:aA)(l:List bC):hG wF zQ l.length m (l.map It.a)=hG aA.make Ai l.length m l:=Ei It.a wF zQ _ m l
def N8(m:aA)(l:List cE):hG wF zQ l.length m (l.map It.t)=hG aA.qL Ah l.length m l:=Ei It.t wF zQ _ m l
def RM.bD{m:aA}{q:jF}(h:RM m)(h1:q.op=1->∀a∈q.aB,wD a)(h2:q.op=2->∀t∈q.cm,yJ t):RM (bD m q).2.2:=by
 have run:∀(n:Nat)(l:List It)(m:aA),(∀x∈l,Ny x)->RM m->RM (hG Up.wF zQ n m l).2:=by
  intro n
  induction n with
  |zero=>intro l m _ hm;exact hm
  |succ n ih=>
   intro l m ix hm;cases l with
   |nil=>exact hm
   |cons x l=>
    have gh:∀(l:List It)(m:aA)(i:Nat),(∀x∈l,Ny x)->RM m->(ia Up.wF m l i).1=none->RM (ia Up.wF m l i).2:=by
     intro l
     induction l with
     |nil=>intro m i _ hm _;exact hm
     |cons y l Uz=>
      intro m i ix hm hn;unfold ia at hn⊢;by_cases hc:(Up.wF m y).1≠0
      ·rw[ai hc] at hn;cases hn
      ·rw[ag hc] at hn⊢;exact Uz _ _ (λz hz=>ix z (gW _ hz)) (hm.wF (ix y pv)) hn
    rw[hG];by_cases hw:(cn zQ (x::l)).2=false
    ·rw[ai hw];exact hm
    rw[ag hw];cases hd:ia Up.wF m ((x::l).take (cn zQ (x::l)).1) 0 with
    |mk o s'=>
     have KO:∀z∈(x::l).drop (cn zQ (x::l)).1,Ny z:=λz hz=>ix z (List.mem_of_mem_drop hz);cases o with
     |none=>
      have:=gh _ m 0 (λz hz=>ix z (List.mem_of_mem_take hz)) hm (by rw[hd]);rw[hd] at this;exact ih _ _ KO this
     |some e=>exact ih _ _ KO hm
 unfold Up.bD;by_cases he:k8 q=false
 ·rw[ai he];exact h
 rw[ag he];by_cases o1:q.op=1
 ·rw[ai o1,<-N9];exact run _ _ _ (λx hx=>by obtain⟨a,ha,rfl⟩:=cw.1 hx;exact h1 o1 a ha) h
 rw[ag o1];by_cases o2:q.op=2
 ·rw[ai o2,<-N8];exact run _ _ _ (λx hx=>by obtain⟨a,ha,rfl⟩:=cw.1 hx;exact h2 o2 a ha) h
 rw[ag o2];refine h.time _ ?_;unfold k8 at he;rw[ag o1,ag o2] at he;by_cases o3:q.op=3
 ·rw[ai o3] at he;have he:(decide (0<=q.now)&&decide (q.now<=1099511627776))=true:=by simpa using he
  simp only[dW,decide_eq_true_eq] at he;exact he.1
 ·rw[ag o3] at he;exact aT rfl he
def Vw(hm:RM m)(hq:pC W R q s)(CB:q.aB.length<1000000)(cf:q.cm.length<1000000)(h1:q.op=1->∀a∈q.aB,wD a)(h2:q.op=2->∀t∈q.cm,yJ t)
 (h:∀p2 sh sg kS kR ob oc R',Bk p m mb mc kb kc R p2 (bD m q).2.2 sh sg kS kR R'->RM (bD m q).2.2->
  T W (ML p2 (bD m q).2.2 sh sg kS kR (own ob (bD m q).2.1.length oc 1 ((bD m q).2.1.flatMap I1)::R')) (K (.tuple ⟨[.l ob (bD m q).2.1.length oc,.i (bD m q).1,.p (ah p2)]⟩))):
 T W (ML p m mb mc kb kc R) (iV (ah p) (gB q s) K):=by
 unfold iV iV.j1;have hmf:=hm.ou;have hmm:=hm.many;have UJ:=hm.bD h1 h2;apply ws;intros;rename_i r1;refine G3 ?_;by_cases he:k8 q=false
 ·rw[he];apply ws;have e:bD m q=(1,[],m):=by unfold bD;rw[ai he]
  rw[e] at h UJ;refine T.drop ?_;refine gZ (e:=1) ?_;refine T.Q2 ?_;exact h p mb mc kb kc none 0 R (.inl ⟨rfl,rfl,rfl,rfl,rfl,rfl,rfl⟩) hm
 have ON:k8 q=true:=by simpa using he
 rw[ON];apply ws;apply dh<;>intro g1
 ·have g1:q.op=3:=by simpa using g1
  have e:bD m q=(0,[],m.time q.now):=by unfold bD;rw[ag he,ag (by omega),ag (by omega)]
  rw[e] at h UJ;refine T.Q2 ?_;refine Iq (by omega) (by omega) λp2 nb nc nk Sz=>?_;apply ws;refine Vr (by omega) (λk hk=>?_) ?_
  ·have:=hm.ax k hk;have t1:=this.cu;have t2:=this.jj;exact aW (by omega)
  apply ws;refine gZ (e:=1) ?_;refine T.JB ?_;refine T.sub (h p2 nb nc nk Sz none 0 _ (.inr rfl) UJ) ?_
  repeat (first|exact ba.refl _|apply ba.cons_cons|apply ba.cons)
 ·have g1: ¬q.op=3:=by simpa using g1
  have ahn:q.op=1\/q.op=2:=by
   unfold k8 at ON;by_cases o1:q.op=1
   ·exact .inl o1
   ·by_cases o2:q.op=2
    ·exact .inr o2
    ·rw[ag o1,ag o2,ag g1] at ON;cases ON
  apply ws;refine Gj (R:=R) hq.aB (by omega) λb c=>?_;apply ws;have hl8:q.op=1->q.aB.length<=8:=λo1=>by
   unfold k8 at ON;rw[ai o1] at ON;simp only[dW,decide_eq_true_eq] at ON;exact ON.2
  have ad6:q.op=2->q.cm.length<=8:=λo2=>by
   unfold k8 at ON;rw[ag (by omega),ai o2] at ON;simp only[dW,decide_eq_true_eq] at ON;exact ON.2
  apply dh<;>intro g2
  ·have g2:q.op=2:=by simpa using g2
   have e:bD m q=(0,hG wF zQ (q.cm.map It.t).length m (q.cm.map It.t)):=by unfold bD;rw[ag he,ag (by omega),ai g2,bP,N8]
   rw[e] at h UJ;apply ws;refine Eu (R:=R) hq.cm (by omega) λb2 c2=>?_;apply ws;refine T.sub (M:=own b2 q.cm.length c2 31 ((q.cm.map It.t).flatMap Aj)::ML p m mb mc kb kc R) ?_ (by repeat (first|exact ba.refl _|apply ba.cons_cons|apply ba.cons));refine T.Q2 ?_;have Qo:q.cm.length=(q.cm.map It.t).length:=(bP _).symm;rw[Qo];refine Se hm (λx hx=>by obtain⟨t,ht,rfl⟩:=cw.1 hx;exact h2 g2 t ht) (by rw[bP];have:=ad6 g2;omega) λp2 sh sg kS kR ob oc R' Bo MQ hlen=>?_;apply ws;have hh:=h p2 sh sg kS kR ob oc R' Bo MQ;dsimp only at hh;rw[hlen] at hh;refine T.sub hh ?_;exact qv
  ·have g2: ¬q.op=2:=by simpa using g2
   have o1:q.op=1:=by omega
   have e:bD m q=(0,hG wF zQ (q.aB.map It.a).length m (q.aB.map It.a)):=by unfold bD;rw[ag he,ai o1,bP,N9]
   rw[e] at h UJ;refine T.sub (M:=own b q.aB.length c 31 ((q.aB.map It.a).flatMap Aj)::ML p m mb mc kb kc R) ?_ (by repeat (first|exact ba.refl _|apply ba.cons_cons|apply ba.cons));refine T.Q2 ?_;have Qo:q.aB.length=(q.aB.map It.a).length:=(bP _).symm;rw[Qo];refine Se hm (λx hx=>by obtain⟨t,ht,rfl⟩:=cw.1 hx;exact h1 o1 t ht) (by rw[bP];have:=hl8 o1;omega) λp2 sh sg kS kR ob oc R' Bo MQ hlen=>?_;apply ws;have hh:=h p2 sh sg kS kR ob oc R' Bo MQ;dsimp only at hh;rw[hlen] at hh;refine T.sub hh ?_;exact qv
end
def AX(from_ toX s:Int):Bool:=decide (from_<=s/\(toX=0\/s<=toX))
def J9{s:Int}:∀{l:List nN},(∀p∈l,s<=p.1)->pos s l=0
 |[],_=>rfl
 |p::l,h=>by unfold pos;rw[ag (by have:=h p pv;omega)]
def yL{toX:Int}(h0: ¬toX=0){l:List nN}(h:∀p∈l,toX<p.1):uZ toX l=0:=by
 unfold uZ;rw[ag h0,J9 λp hp=>by have:=h p hp;omega];cases l with
 |nil=>rfl
 |cons q l=>
  have:=h q pv;show(if q.1=toX then 0+1 else 0)=0;rw[ag (by omega)]
def GF{toX:Int}(h0: ¬toX=0){p:nN}{l:List nN}(gh:∀q∈l,p.1<q.1):uZ toX (p::l)=if p.1<toX+1 then uZ toX l+1 else 0:=by
 by_cases h1:p.1<toX
 ·rw[ai (by omega)];unfold uZ;rw[ag h0,ag h0,pos,ai h1,bO];cases l[pos toX l]? with
  |none=>rfl
  |some q=>
   dsimp only;split<;>rfl
 ·by_cases h2:p.1=toX
  ·rw[ai (by omega),yL (l:=l) h0 λq hq=>by have:=gh q hq;omega];unfold uZ;rw[ag h0,show pos toX (p::l)=0 by rw[pos,ag h1]];show(if p.1=toX then 0+1 else 0)=1;rw[ai h2]
  ·rw[ag (by omega)];exact yL h0 λq hq=>by
    rcases jB.1 hq with hq|hq
    ·subst hq;omega
    ·have:=gh q hq;omega
def zj(from_ toX:Int):∀(l:List nN),sG l->qo from_ toX l=l.filter λp=>AX from_ toX p.1
 |[],_=>by unfold qo;simp
 |p::l,hr=>by
  have UF:sG l:=(List.pairwise_cons.1 hr).2;have gh:∀q∈l,p.1<q.1:=(List.pairwise_cons.1 hr).1;have ih:=zj from_ toX l UF;unfold qo at ih⊢;by_cases h1:p.1<from_
  ·have e1:pos from_ (p::l)=pos from_ l+1:=by rw[pos,ai h1]
   have e2:AX from_ toX p.1=false:=aq (by omega);rw[e1,kU (by rw[e2];decide),List.drop_succ_cons,<-ih];by_cases h2:toX=0
   ·unfold uZ;rw[ai h2,ai h2];simp only[bt,Nat.add_sub_add_right]
   ·rw[GF h2 gh];by_cases h3:p.1<toX+1
    ·rw[ai h3,Nat.add_sub_add_right]
    ·rw[ag h3,yL h2 λq hq=>by have:=gh q hq;omega];simp
  ·have e1:pos from_ (p::l)=0:=by rw[pos,ag h1]
   have e3:pos from_ l=0:=J9 λq hq=>by have:=gh q hq;omega
   rw[e3,Nat.sub_zero,iQ] at ih;rw[e1,Nat.sub_zero,iQ];by_cases h2:toX=0
   ·have e2:AX from_ toX p.1=true:=av (by omega);unfold uZ at ih⊢;rw[ai h2] at ih⊢;rw[kT (p:=λp:nN=>AX from_ toX p.1) (a:=p) (l:=l) e2,<-ih];simp
   ·rw[GF h2 gh];by_cases h3:p.1<toX+1
    ·have e2:AX from_ toX p.1=true:=av (by omega);rw[ai h3,List.take_succ_cons,ih,kT (p:=λp:nN=>AX from_ toX p.1) (a:=p) (l:=l) e2]
    ·have e2:AX from_ toX p.1=false:=aq (by omega);rw[yL h2 λq hq=>by have:=gh q hq;omega,nG] at ih;rw[ag h3,nG,kU (by rw[e2];decide),<-ih]
def xF{b:aY}(P:Int->Bool):∀(l:List bW)(i:Nat),(∀j,j<l.length->b.ax[i+j]?=l[j]?)->((fo i l).filter λp=>P p.1).map (xa b)=l.filter λk=>P k.move.ay
 |[],i,_=>rfl
 |k::l,i,h=>by
  have h0:=h 0 (by simp);rw[dZ] at h0;have hka:xa b (k.move.ay,(i:Int))=k:=by unfold xa;dsimp only;rw[ao,h0];rfl
  have ih:=xF P l (i+1) λj hj=>by
   have:=h (j+1) (by simpa using hj);rw[bO] at this;rw[<-this];congr 1;omega
  unfold fo;by_cases hp:P k.move.ay=true
  ·rw[kT (by exact hp),kT (by exact hp),cN,hka,ih]
  ·rw[kU (by exact hp),kU (by exact hp),ih]
def aaK{b:aY}(hg:fk b)(from_ toX:Int)(wZ:Bool):btw b from_ toX wZ=(if wZ then b.ax.reverse else b.ax).filter λk=>AX from_ toX k.move.ay:=by
 have h:=zj from_ toX _ hg.yo;have h2:=xF (b:=b) (AX from_ toX) b.ax 0 λj hj=>by rw[aC]
 unfold btw;rw[h];cases wZ with
 |true=>
  rw[ai rfl,ai rfl,List.map_reverse,h2,List.filter_reverse]
 |false=>
  rw[ag cG,ag cG,h2]
def yE{α:Type}{key:α->Nat}:∀(l:List α)(id:Nat),(l.map key).Nodup->(l.filter λx=>decide (key x=id))=(l.find? λx=>decide (key x=id)).toList
 |[],id,_=>rfl
 |x::l,id,hn=>by
  rw[cN,List.nodup_cons] at hn;by_cases h:key x=id
  ·rw[kT (p:=λx=>decide (key x=id)) (a:=x) (l:=l) (av h),List.find?_cons_of_pos (p:=λx=>decide (key x=id)) (a:=x) (av h)];have:l.filter (λx=>decide (key x=id))=[]:=by
    rw[List.filter_eq_nil_iff];intro y hy hh;exact hn.1 (by rw[h,<-aQ hh];exact List.mem_map_of_mem hy)
   rw[this];rfl
  ·rw[kU (p:=λx=>decide (key x=id)) (a:=x) (l:=l) (by rw[aq h];decide),List.find?_cons_of_neg (p:=λx=>decide (key x=id)) (a:=x) (by rw[aq h];decide),yE l id hn.2]
def uI{α β:Type}(f:α->Option β):∀l:List α,l.filterMap f=l.flatMap λx=>(f x).toList
 |[]=>rfl
 |x::l=>by
  rw[iB,<-uI f l,List.filterMap_cons];cases f x<;>rfl
def findAll{b:aY}(hg:fk b)(ids:List Nat):(ids.flatMap λid=>b.aB.filter λa=>decide (a.id=id))=ids.filterMap b.find:=by
 rw[uI]
 congr 1
 funext id
 exact yE (key:=λa:bC=>a.id) b.aB id hg.ids
def SB{b:aY}(hg:fk b)(ids:List Nat):(ids.flatMap λid=>(b.ax.filter λk=>decide (k.move.id=id)).map (·.move))=ids.filterMap λid=>(b.named id).map (·.move):=by
 rw[uI]
 congr 1
 funext id
 rw[yE (key:=λk:bW=>k.move.id) b.ax id hg.names];show _=((b.ax.find? _).map _).toList;cases b.ax.find? (λx=>decide (x.move.id=id))<;>rfl
def Sr(b:aY)(q:jF):List cE:=((((if q.qy then b.ax.reverse else b.ax).filter λk=>AX q.jT q.xm k.move.ay&&fits q k).take q.kE.toNat)).map (·.move)
def Kb{b:aY}(hg:fk b)(q:jF):Sr b q=ofL b q:=by
 unfold Sr ofL;rw[aaK hg,List.filter_filter]
 congr 2
 apply List.filter_congr;intro k _;rw[Bool.and_comm]
section
variable {W:World} {L R:LH} {K:VK} {X:WK} {q:jF} {s:vx}
def Gi{ab:OA}{ac:Nat}{al:List bC}{f:HP->LH}[i:ux ab al.length ac L 14 (al.flatMap aK) f][hh:Has R L]{s:OA}{c:Nat}{ids:List Nat}(hr:nK W R nm 2 s ids)(hl:ids.length<=1000)(hal:al.length<=1000)
 (h:∀b' c' out,out=(ids.flatMap λid=>al.filter λa=>decide (a.id=id))->T W (own b' out.length c' 14 (out.flatMap aK)::L) (K (.l b' out.length c'))):T W L (ln ab al.length ac s ids.length c K):=by
 unfold ln;refine gZ (e:=14) ?_;intro w jW;refine⟨λvv w=>∃(i:Nat)(bo:OA)(cc:Nat)(done:List bC),i<=ids.length/\done=((ids.take i).flatMap λid=>al.filter λa=>decide (a.id=id))/\done.length<=1000* i/\vv=[.l none 0 0,.l bo done.length cc,.l s ids.length c,.i (ids.length:Int),.i (i:Int)]/\
  St W w (own bo done.length cc 14 (done.flatMap aK)::L),
  λvs _=>match vs with|[_,_,_,_,.int _ d]=>ids.length-d.toNat|_=>0,⟨0,none,0,[],aE _,by simp,by simp,rfl,jW⟩,?_⟩
 rintro qI oW re bo qQ cc xG vT wO n3 n4 w2 ⟨i,b0,c0,done,hi,kZ,zv,e,gX⟩;cases e
 refine T.at ?_ gX;apply fV<;>intro g1
 ·have cf:i<ids.length:=by omega
  have gx:=aj cf;generalize ids[i]=x at gx;have gi:((ids.take (i+1)).flatMap λid=>al.filter λa=>decide (a.id=id))=done++al.filter λa=>decide (a.id=x):=by
   rw[a8,gx,fQ,<-kZ];simp
  refine iN hr ⟨by omega,by omega⟩ rfl λa ha=>?_;rw[ao];refine jH hr ha gx rfl ?_;apply ws;intros;rename_i r1;intro w3 vQ;refine⟨λvv w=>∃(j:Nat)(bo:OA)(cc:Nat)(dn:List bC),j<=al.length/\dn=done++((al.take j).filter λa=>decide (a.id=x))/\dn.length<=1000* i+j/\vv=[.l none 0 0,.l bo dn.length cc,.p (some (ad r1 0)),.l s ids.length c,.i (ids.length:Int),.i (i:Int),.l ab al.length ac,.i (al.length:Int),.i (j:Int)]/\
                                                    St W w (Sep.pt r1 (nm x)::own bo dn.length cc 14 (dn.flatMap aK)::L),
   λvs _=>match vs with|[_,_,_,_,_,_,_,_,.int _ d]=>al.length-d.toNat|_=>0,⟨0,bo,cc,done,aE _,by simp,by omega,rfl,vQ⟩,?_⟩
  rintro Jp Jo Ig bo2 Pt cc2 a2 Ve Uv Vc n5 n6 sb9 sn9 sc9 n7 n8 w4 ⟨j,b1,c1,dn,hj,Wx,aei,e,yb⟩;cases e
  refine T.at ?_ yb;have e5:=nL j;apply fV<;>intro g2
  ·have xh:j<al.length:=by omega
   have gy:=aj xh;generalize al[j]=y at gy;refine dM (b:=ab) ⟨by omega,by omega⟩ λrb hb=>?_;rw[ao];subst hb;refine gI jx gy ?_;apply ws;intros;rw[e5];apply dh<;>intro g3
   ·have Gp:done++((al.take (j+1)).filter λa=>decide (a.id=x))=dn++[y]:=by
     rw[a8,gy,List.filter_append,<-aH,<-Wx]
     congr 1
     show[y].filter _=[y];rw[kT (by exact g3)];rfl
    apply ws;intros;refine jm (g:=aK) (l:=dn) (x:=y) (bI _) rfl rfl (by omega) (by omega) (iv _) λb2 c2=>?_;refine T.drop (T.drop λw5 h5=>⟨⟨j+1,b2,c2,dn++[y],xh,Gp.symm,by simp;omega,by simp,by simpa using h5⟩,by show al.length-((j+1:Nat):Int).toNat<al.length-(j:Int).toNat;omega⟩)
   ·have Gp:done++((al.take (j+1)).filter λa=>decide (a.id=x))=dn:=by
     rw[a8,gy,List.filter_append,<-aH,<-Wx];have:[y].filter (λa:bC=>decide (a.id=x))=[]:=by rw[kU (by rw[g3];decide)];rfl
     show dn++[y].filter _=dn;rw[this,bI]
    refine T.drop λw5 h5=>⟨⟨j+1,bo2,cc2,dn,xh,Gp.symm,by omega,rfl,h5⟩,by show al.length-((j+1:Nat):Int).toNat<al.length-(j:Int).toNat;omega⟩
  ·have iM:j=al.length:=by omega
   subst iM;rw[aR] at Wx;have e6:=nL i;rw[e6];refine T.drop λw5 h5=>⟨⟨i+1,bo2,cc2,dn,cf,by rw[gi,Wx],by omega,rfl,h5⟩,by show ids.length-((i+1:Nat):Int).toNat<ids.length-(i:Int).toNat;omega⟩
 ·have iM:i=ids.length:=by omega
  subst iM;rw[aR] at kZ;exact h bo cc done kZ
def Et{ab:OA}{ac:Nat}{al:List bW}{f:HP->LH}[i:ux ab al.length ac L 33 (al.flatMap bG) f][hh:Has R L]{s:OA}{c:Nat}{ids:List Nat}(hr:nK W R nm 2 s ids)(hl:ids.length<=1000)(hal:al.length<=1000)
 (h:∀b' c' out,out=(ids.flatMap λid=>(al.filter λk=>decide (k.move.id=id)).map (·.move))->T W (own b' out.length c' 16 (out.flatMap aL)::L) (K (.l b' out.length c'))):T W L (kH ab al.length ac s ids.length c K):=by
 unfold kH;refine gZ (e:=16) ?_;intro w jW;refine⟨λvv w=>∃(i:Nat)(bo:OA)(cc:Nat)(done:List cE),i<=ids.length/\done=((ids.take i).flatMap λid=>(al.filter λk=>decide (k.move.id=id)).map (·.move))/\done.length<=1000* i/\vv=[.l none 0 0,.l bo done.length cc,.l s ids.length c,.i (ids.length:Int),.i (i:Int)]/\
  St W w (own bo done.length cc 16 (done.flatMap aL)::L),
  λvs _=>match vs with|[_,_,_,_,.int _ d]=>ids.length-d.toNat|_=>0,⟨0,none,0,[],aE _,by simp,by simp,rfl,jW⟩,?_⟩
 rintro qI oW re bo qQ cc xG vT wO n3 n4 w2 ⟨i,b0,c0,done,hi,kZ,zv,e,gX⟩;cases e
 refine T.at ?_ gX;apply fV<;>intro g1
 ·have cf:i<ids.length:=by omega
  have gx:=aj cf;generalize ids[i]=x at gx;have gi:((ids.take (i+1)).flatMap λid=>(al.filter λk=>decide (k.move.id=id)).map (·.move))=done++(al.filter λk=>decide (k.move.id=x)).map (·.move):=by
   rw[a8,gx,fQ,<-kZ];simp
  refine iN hr ⟨by omega,by omega⟩ rfl λa ha=>?_;rw[ao];refine jH hr ha gx rfl ?_;apply ws;intros;rename_i r1;intro w3 vQ;refine⟨λvv w=>∃(j:Nat)(bo:OA)(cc:Nat)(dn:List cE),j<=al.length/\dn=done++((al.take j).filter λk=>decide (k.move.id=x)).map (·.move)/\dn.length<=1000* i+j/\vv=[.l none 0 0,.l bo dn.length cc,.p (some (ad r1 0)),.l s ids.length c,.i (ids.length:Int),.i (i:Int),.l ab al.length ac,.i (al.length:Int),.i (j:Int)]/\
                                                    St W w (Sep.pt r1 (nm x)::own bo dn.length cc 16 (dn.flatMap aL)::L),
   λvs _=>match vs with|[_,_,_,_,_,_,_,_,.int _ d]=>al.length-d.toNat|_=>0,⟨0,bo,cc,done,aE _,by simp,by omega,rfl,vQ⟩,?_⟩
  rintro Jp Jo Ig bo2 Pt cc2 a2 Ve Uv Vc n5 n6 sb9 sn9 sc9 n7 n8 w4 ⟨j,b1,c1,dn,hj,Wx,aei,e,yb⟩;cases e
  refine T.at ?_ yb;have e5:=nL j;apply fV<;>intro g2
  ·have xh:j<al.length:=by omega
   have gy:=aj xh;generalize al[j]=y at gy;refine dM (b:=ab) ⟨by omega,by omega⟩ λrb hb=>?_;rw[ao];subst hb;refine gI je gy ?_;apply ws;intros;rw[e5];apply dh<;>intro g3
   ·have Gp:done++((al.take (j+1)).filter λk=>decide (k.move.id=x)).map (·.move)=dn++[y.move]:=by
     rw[a8,gy,List.filter_append,cR,<-aH,<-Wx]
     congr 1
     show([y].filter _).map _=[y.move];rw[kT (by exact g3)];rfl
    apply ws;intros;refine jm (g:=aL) (l:=dn) (x:=y.move) (bI _) rfl rfl (by omega) (by omega) (o0 _) λb2 c2=>?_;refine T.drop (T.drop λw5 h5=>⟨⟨j+1,b2,c2,dn++[y.move],xh,Gp.symm,by simp;omega,by simp,by simpa using h5⟩,by show al.length-((j+1:Nat):Int).toNat<al.length-(j:Int).toNat;omega⟩)
   ·have Gp:done++((al.take (j+1)).filter λk=>decide (k.move.id=x)).map (·.move)=dn:=by
     rw[a8,gy,List.filter_append,cR,<-aH,<-Wx];have:[y].filter (λk:bW=>decide (k.move.id=x))=[]:=by rw[kU (by rw[g3];decide)];rfl
     show dn++([y].filter _).map _=dn;rw[this];simp
    refine T.drop λw5 h5=>⟨⟨j+1,bo2,cc2,dn,xh,Gp.symm,by omega,rfl,h5⟩,by show al.length-((j+1:Nat):Int).toNat<al.length-(j:Int).toNat;omega⟩
  ·have iM:j=al.length:=by omega
   subst iM;rw[aR] at Wx;have e6:=nL i;rw[e6];refine T.drop λw5 h5=>⟨⟨i+1,bo2,cc2,dn,cf,by rw[gi,Wx],by omega,rfl,h5⟩,by show ids.length-((i+1:Nat):Int).toNat<ids.length-(i:Int).toNat;omega⟩
 ·have iM:i=ids.length:=by omega
  subst iM;rw[aR] at kZ;exact h bo cc done kZ
end
instance{t:cE}:Sub (aL t) 2 2 (nm t.bp):=⟨rfl,(zb (cs:=aL t) (o:=2) (n:=t.bp) rfl rfl).2⟩
instance{t:cE}:Sub (aL t) 4 2 (nm t.aP):=⟨rfl,(zb (cs:=aL t) (o:=4) (n:=t.aP) rfl rfl).2⟩
section
variable {W:World} {L R M:LH} {K:VK} {X:WK} {q:jF} {s:vx}
def PD{I1:LV->World->Prop}{pI:LV->World->Nat}{r1 r2 cc:Nat}{bo:OA}{done:List cE}{x:bW}{n3 n4:Int}{w2:World}{g:LV->LH}
 (hA:(done.length<q.kE.toNat/\(AX q.jT q.xm x.move.ay&&fits q x)=true)->∀b2 c2,T W (own b2 (done.length+1) c2 16 ((done++[x.move]).flatMap aL)::M) (λw3=>I1 [.p (some (ad r1 0)),.l none 0 0,.l b2 (done.length+1) c2,.i n3,.i (aa.wrap (n4+1))] w3/\
  pI [.p (some (ad r1 0)),.l none 0 0,.l b2 (done.length+1) c2,.i n3,.i (aa.wrap (n4+1))] w3<pI [.p (some (ad r1 0)),.l none 0 0,.l bo done.length cc,.i n3,.i n4] w2))
 (hN: ¬(done.length<q.kE.toNat/\(AX q.jT q.xm x.move.ay&&fits q x)=true)->T W (own bo done.length cc 16 (done.flatMap aL)::M) (λw3=>I1 [.p (some (ad r1 0)),.l none 0 0,.l bo done.length cc,.i n3,.i (aa.wrap (n4+1))] w3/\
  pI [.p (some (ad r1 0)),.l none 0 0,.l bo done.length cc,.i n3,.i (aa.wrap (n4+1))] w3<pI [.p (some (ad r1 0)),.l none 0 0,.l bo done.length cc,.i n3,.i n4] w2))
 [i1:Lc (Sep.pt r1) M (pH q) g](IG:0<=q.kE/\q.kE<=16)(hd:done.length<=1000):
 T W (Sep.pt r2 (bG x)::own bo done.length cc 16 (done.flatMap aL)::M) (bK.j1 K r2 (ad r1 0) I1 none 0 0 bo done.length cc n3 n4 pI w2):=by
 have j3:∀(r3:Nat)(yes:Bool),(yes=true↔done.length<q.kE.toNat/\(AX q.jT q.xm x.move.ay&&fits q x)=true)->T W (Sep.pt r3 (aL x.move)::Sep.pt r2 (bG x)::own bo done.length cc 16 (done.flatMap aL)::M) (bK.j3 K r3 bo done.length cc I1 (ad r1 0) none 0 0 n3 n4 pI w2 yes):=λr3 yes hy=>by
  unfold bK.j3;cases yes with
  |true=>
   apply ws;intros;refine jm (b:=bo) (g:=aL) (l:=done) (x:=x.move) (bI _) rfl rfl (by omega) (by omega) (o0 _) λb2 c2=>?_;exact T.drop (T.drop (T.drop (hA (hy.1 rfl) b2 c2)))
  |false=>
   apply ws;exact T.drop (T.drop (hN λhh=>by have:=hy.2 hh;cases this))
 have j4:∀(r3:Nat)(b2:Bool),b2=(q.wu&&decide (x.move.bp=q.xM))->done.length<q.kE.toNat->AX q.jT q.xm x.move.ay=true->T W (Sep.pt r3 (aL x.move)::Sep.pt r2 (bG x)::own bo done.length cc 16 (done.flatMap aL)::M) (bK.j4 K r3 bo done.length cc I1 (ad r1 0) none 0 0 n3 n4 pI w2 b2):=λr3 b2 hb hl hi=>by
  unfold bK.j4;have hf:fits q x=(b2||(q.tO&&decide (x.move.aP=q.xM))):=by rw[hb];rfl
  cases b2 with
  |true=>
   apply ws;refine j3 r3 true ⟨λ_=>⟨hl,by rw[hi,hf];rfl⟩,λ_=>rfl⟩
  |false=>
   rw[Bool.false_or] at hf;apply ws;cases hc:q.tO with
   |true=>
    apply ws;rw[hc,dV] at hf;refine j3 r3 _ ⟨λh=>⟨hl,by rw[hi,hf,h];rfl⟩,λh=>by rw[hi,hf,dV] at h;exact h.2⟩
   |false=>
    apply ws;rw[hc,fD] at hf;refine j3 r3 false ⟨λh=>(by cases h),λh=>by rw[hf,Bool.and_false] at h;cases h.2⟩
 have j2:∀(r3:Nat)(b2:Bool),(b2=true↔AX q.jT q.xm x.move.ay=false\/ ¬done.length<q.kE.toNat)->T W (Sep.pt r3 (aL x.move)::Sep.pt r2 (bG x)::own bo done.length cc 16 (done.flatMap aL)::M) (bK.j2 K I1 (ad r1 0) none 0 0 bo done.length cc n3 n4 pI w2 r3 b2):=λr3 b2 hb=>by
  unfold bK.j2;cases b2 with
  |true=>
   apply ws;refine T.drop (T.drop (hN λhh=>?_));rcases hb.1 rfl with h|h
   ·rw[h,fD] at hh;cases hh.2
   ·exact h hh.1
  |false=>
   have hi:AX q.jT q.xm x.move.ay=true:=by
    cases h:AX q.jT q.xm x.move.ay with
    |true=>rfl
    |false=>have:=hb.2 (.inl h);cases this
   have hl:done.length<q.kE.toNat:=Decidable.byContradiction λh=>by have:=hb.2 (.inr h);cases this
   apply ws;cases UL:q.wu with
   |true=>
    apply ws;refine j4 r3 _ ?_ hl hi;rw[UL,dV]
   |false=>
    apply ws;refine j4 r3 _ ?_ hl hi;rw[UL,fD]
 unfold bK.j1 bK.j5;apply ws;intros;rename_i r3;apply fV<;>intro g1
 ·refine j2 r3 true ⟨λ_=>.inl (aq (by omega)),λ_=>rfl⟩
 ·apply ws;apply dh<;>intro g2
  ·have g2:=fy.1 g2;apply ws;apply fV<;>intro g3
   ·refine j2 r3 true ⟨λ_=>.inl (aq (by omega)),λ_=>rfl⟩
   ·have hi:AX q.jT q.xm x.move.ay=true:=av (by omega);apply ws;refine j2 r3 _ ⟨λh=>.inr (by have:=aQ h;omega),λh=>?_⟩;rcases h with h|h
    ·rw[hi] at h;cases h
    ·exact av (by omega)
  ·have g2:q.xm=0:=by simpa using g2
   have hi:AX q.jT q.xm x.move.ay=true:=av (by omega);apply ws;refine j2 r3 _ ⟨λh=>.inr (by have:=aQ h;omega),λh=>?_⟩;rcases h with h|h
   ·rw[hi] at h;cases h
   ·exact av (by omega)
def Vx{ab:OA}{ac:Nat}{al:List bW}{f:HP->LH}[ii:ux ab al.length ac L 33 (al.flatMap bG) f](hal:al.length<=1000)(IG:0<=q.kE/\q.kE<=16)
 (h:∀b' c' out,out=((((if q.qy then al.reverse else al).filter λk=>AX q.jT q.xm k.move.ay&&fits q k).take q.kE.toNat)).map (·.move)->T W (own b' out.length c' 16 (out.flatMap aL)::L) (K (.l b' out.length c'))):
 T W L (bK ab al.length ac (pH q) K):=by
 unfold bK;apply ws;intros;rename_i r1;obtain⟨l,hl⟩:∃l,l=if q.qy then al.reverse else al:=⟨_,rfl⟩
 have Ho:l.length=al.length:=by rw[hl];split<;>simp
 rw[<-hl] at h;refine gZ (e:=16) ?_;intro w jW;refine⟨λvv w=>∃(i:Nat)(bo:OA)(cc:Nat)(done:List cE),i<=l.length/\done=(((l.take i).filter λk=>AX q.jT q.xm k.move.ay&&fits q k).take q.kE.toNat).map (·.move)/\done.length<=i/\vv=[.p (some (ad r1 0)),.l none 0 0,.l bo done.length cc,.i (al.length:Int),.i (i:Int)]/\
    St W w (own bo done.length cc 16 (done.flatMap aL)::Sep.pt r1 (pH q)::L),
  λvs _=>match vs with|[_,_,_,_,.int _ d]=>al.length-d.toNat|_=>0,⟨0,none,0,[],aE _,by simp,aG _,rfl,jW⟩,?_⟩
 rintro a1 qI oW re bo qQ cc n3 n4 w2 ⟨i,b0,c0,done,hi,kZ,zv,e,gX⟩;cases e
 refine T.at ?_ gX;have e5:=nL i;apply fV<;>intro g1
 ·have cf:i<l.length:=by omega
  have gx:=aj cf;generalize l[i]=x at gx;have gi:=Cj (P:=λk=>AX q.jT q.xm k.move.ay&&fits q k) (n:=q.kE.toNat) gx;have wk:done.length=(((l.take i).filter λk=>AX q.jT q.xm k.move.ay&&fits q k).take q.kE.toNat).length:=by rw[kZ,bP]
  rw[<-wk] at gi;have ve:(((l.take (i+1)).filter λk=>AX q.jT q.xm k.move.ay&&fits q k).take q.kE.toNat).map (·.move)=if done.length<q.kE.toNat/\(AX q.jT q.xm x.move.ay&&fits q x)=true then done++[x.move] else done:=by
   rw[gi];by_cases c1:done.length<q.kE.toNat
   ·rw[ai c1];by_cases c2:(AX q.jT q.xm x.move.ay&&fits q x)=true
    ·rw[ai c2,ai ⟨c1,c2⟩,cR,<-kZ];rfl
    ·rw[ag c2,ag (λh=>c2 h.2),<-kZ]
   ·rw[ag c1,ag (λh=>c1 h.1),<-kZ]
  have aaa:i<al.length:=by omega
  have gy:=aj aaa;refine dM (b:=ab) ⟨by omega,by omega⟩ λrb hb=>?_;subst hb;rw[ao];refine gI je gy ?_;apply ws;intros;rename_i r2;have fin:T W (Sep.pt r2 (bG x)::own bo done.length cc 16 (done.flatMap aL)::Sep.pt r1 (pH q)::L) (bK.j1 K r2 (ad r1 0) (λvv w=>∃(i:Nat)(bo:OA)(cc:Nat)(done:List cE),i<=l.length/\done=(((l.take i).filter λk=>AX q.jT q.xm k.move.ay&&fits q k).take q.kE.toNat).map (·.move)/\done.length<=i/\vv=[.p (some (ad r1 0)),.l none 0 0,.l bo done.length cc,.i (al.length:Int),.i (i:Int)]/\
   St W w (own bo done.length cc 16 (done.flatMap aL)::Sep.pt r1 (pH q)::L)) none 0 0 bo done.length cc (al.length:Int) (i:Int) (λvs _=>match vs with|[_,_,_,_,.int _ d]=>al.length-d.toNat|_=>0) w2):=by
   refine PD (q:=q) (x:=x) (M:=Sep.pt r1 (pH q)::L) (λhy b2 c2=>?_) (λhy=>?_) IG (by omega)
   ·rw[e5];rw[ai hy] at ve;exact λw3 h3=>⟨⟨i+1,b2,c2,done++[x.move],cf,ve.symm,by simp;omega,by simp,by simpa using h3⟩,by show al.length-((i+1:Nat):Int).toNat<al.length-(i:Int).toNat;omega⟩
   ·rw[e5];rw[ag hy] at ve;exact λw3 h3=>⟨⟨i+1,bo,cc,done,cf,ve.symm,by omega,rfl,h3⟩,by show al.length-((i+1:Nat):Int).toNat<al.length-(i:Int).toNat;omega⟩
  cases CB:q.qy with
  |true=>
   rw[CB,ai rfl] at hl;apply ws;have e7:aa.wrap (aa.wrap ((al.length:Int) -1) -(i:Int))=((al.length-1-i:Nat):Int):=by rw[aW (n:=(al.length:Int) -1) (by omega),aW (by omega)];omega
   rw[e7];refine dM (b:=ah rb) ⟨by omega,by omega⟩ λZv hb=>?_;cases hb
   rw[ao];have gz:al[al.length-1-i]?=some x:=by rw[hl,List.getElem?_reverse aaa] at gx;exact gx
   refine gI je gz ?_;apply ws;exact fin
  |false=>
   rw[CB,ag cG] at hl;subst hl;rw[gx] at gy;have hxy:x=l[i]'aaa:=by injection gy
   rw[<-hxy];apply ws;exact fin
 ·have iM:i=l.length:=by omega
  subst iM;rw[aR] at kZ;have:=h bo cc done kZ;refine T.sub this ?_;exact qv
end
section
variable {W:World} {L R M:LH} {K:VK} {X:WK} {q:jF} {s:vx}
def uS(al:List bC)(kl:List bW)(q:jF):Int×List bC×List cE:=
 if o9 q=false then(1,[],[])
 else if q.op=4 then(0,(q.ids.flatMap λid=>al.filter λa=>decide (a.id=id)),[])
 else if q.op=5 then(0,[],q.ids.flatMap λid=>(kl.filter λk=>decide (k.move.id=id)).map (·.move))
 else(0,[],((((if q.qy then kl.reverse else kl).filter λk=>AX q.jT q.xm k.move.ay&&fits q k).take q.kE.toNat)).map (·.move))
def Xj{m:aA}(hg:fk (bo m))(q:jF):uS (bo m).aB (bo m).ax q=ask m q:=by
 unfold uS ask;rw[findAll hg,SB hg,<-Kb hg]
 rfl
def Mu{ab kb:OA}{ac kc:Nat}{al:List bC}{kl:List bW}{f g:HP->LH}[i1:ux ab al.length ac L 14 (al.flatMap aK) f][i2:ux kb kl.length kc L 33 (kl.flatMap bG) g][hh:Has R L](hq:pC W R q s)
 (hal:al.length<=1000)(hkl:kl.length<=1000)
 (h:∀b1 c1 b2 c2,T W (own b1 (uS al kl q).2.1.length c1 14 ((uS al kl q).2.1.flatMap aK)::own b2 (uS al kl q).2.2.length c2 16 ((uS al kl q).2.2.flatMap aL)::L)
  (K (.tuple ⟨[.l b1 (uS al kl q).2.1.length c1,.l b2 (uS al kl q).2.2.length c2,.i (uS al kl q).1]⟩))):
 T W L (nr ab al.length ac kb kl.length kc (gB q s) K):=by
 unfold nr;apply ws;intros;refine G2 ?_;unfold uS at h;by_cases ge:o9 q=false
 ·rw[ai ge] at h;rw[ge];apply ws;refine T.drop ?_;refine gZ (e:=16) ?_;refine gZ (e:=14) ?_;exact h none 0 none 0
 rw[ag ge] at h;have WH:o9 q=true:=by simpa using ge
 rw[WH];apply ws;have acd:q.op=4\/q.op=5->q.ids.length<=16:=λho=>by
  unfold o9 at WH;rw[ai ho,dW,decide_eq_true_eq,decide_eq_true_eq] at WH;exact WH.2
 apply dh<;>intro g1
 ·have g1:q.op=4:=by simpa using g1
  rw[ai g1] at h;have:=acd (.inl g1);apply ws;refine Gi (R:=R) (al:=al) hq.ids (by omega) hal λb' c' out ho=>?_;rw[<-ho] at h;apply ws;refine gZ (e:=16) ?_;refine T.swap ?_;refine T.sub (h b' c' none 0) ?_
  repeat (first|exact ba.refl _|apply ba.cons_cons|apply ba.cons)
 ·have g1: ¬q.op=4:=by simpa using g1
  rw[ag g1] at h;apply ws;apply dh<;>intro g2
  ·have g2:q.op=5:=by simpa using g2
   rw[ai g2] at h;have:=acd (.inr g2);apply ws;refine Et (R:=R) (al:=kl) hq.ids (by omega) hkl λb' c' out ho=>?_;rw[<-ho] at h;apply ws;refine gZ (e:=14) ?_;refine T.sub (h none 0 b' c') ?_
   repeat (first|exact ba.refl _|apply ba.cons_cons|apply ba.cons)
  ·have g2: ¬q.op=5:=by simpa using g2
   rw[ag g2] at h;have IG:0<=q.kE/\q.kE<=16:=by
    unfold o9 at WH;rw[ag (by omega)] at WH;by_cases o6:q.op=6
    ·rw[ai o6,dW,decide_eq_true_eq] at WH;omega
    ·rw[ag o6] at WH;cases WH
   apply ws;refine Vx (al:=kl) hkl IG λb' c' out ho=>?_;rw[<-ho] at h;apply ws;refine gZ (e:=14) ?_;refine T.sub (h none 0 b' c') ?_
   repeat (first|exact ba.refl _|apply ba.cons_cons|apply ba.cons)
def Lw{α:Type}[DecidableEq α]{l m:List α}{i:Nat}{x y:α}(hx:l[i]?=some x)(hy:m[i]?=some y)(h:l.take i=m.take i)(he:x=y):l.take (i+1)=m.take (i+1):=by
 rw[a8,a8,hx,hy,h,he]
def Lx{α:Type}{l m:List α}{i:Nat}{x y:α}(hx:l[i]?=some x)(hy:m[i]?=some y)(he: ¬x=y): ¬l=m:=λh=>by
 rw[h,hy] at hx;injection hx with hx;exact he hx.symm
end
section
variable {W:World} {L R:LH} {K:VK} {X:WK} {e:Int} {res:List Int} {al:List bC} {tl:List cE} {rb ab tb:OA} {rc ac tc:Nat} {n:Int} {a:bC} {t:cE}
def G7(h:T W L (K (.s (bs (le .i64 1 n))))):T W L (bF 1 n K):=λw hs=>yR hs λw' h'=>h w' h'
def XZ(h:T W L (K (.s (bs (le .i64 2 n))))):T W L (bF 2 n K):=λw hs=>yR hs λw' h'=>h w' h'
def XY(h:T W L (K (.s (bs (le .i64 4 n))))):T W L (bF 4 n K):=λw hs=>yR hs λw' h'=>h w' h'
def Sh(h:T W L (K (.s (bs (le .i64 8 n))))):T W L (bF 8 n K):=λw hs=>yR hs λw' h'=>h w' h'
def agM(x k:Nat)(hk:k<8):2* (x/2^(k+1)%2^(7-k))+x/2^k%2=x/2^k%2^(8-k):=by
 match k,hk with
 |0,_|1,_|2,_|3,_|4,_|5,_|6,_|7,_=>omega
def EC{m:Nat}(hm:m<bB)(h:T W L (K (.s (bs (nb m))))):T W L (dg (nm m) K):=by
 unfold dg;apply ws;intros;rename_i r1;intro w jW;refine⟨λvv w=>∃i:Nat,i<=16/\vv=[.p (some (ad r1 0)),.s .empty,.s (bs ((nb m).take i)),.i (i:Int)]/\St W w (Sep.pt r1 (nm m)::L),
  λvs _=>match vs with|[_,_,_,.int _ d]=>16-d.toNat|_=>0,⟨0,aE _,rfl,jW⟩,?_⟩
 rintro a1 s1 s2 n1 w2 ⟨i,hi,e1,gX⟩;cases e1
 refine T.at ?_ gX;have e5:=nL i;apply fV<;>intro g1
 ·have cf:i<16:=by omega
  intro w jW;refine⟨λvv w=>∃k:Nat,k<=8/\vv=[.p (some (ad r1 0)),.s .empty,.s (bs ((nb m).take i)),.i (i:Int),.i ((m/256^i/2^k%2^(8-k):Nat):Int),.i ((k:Int) -1)]/\St W w (Sep.pt r1 (nm m)::L),
   λvs _=>match vs with|[_,_,_,_,_,.int _ d]=>(d+1).toNat|_=>0,⟨8,aG _,by simp,jW⟩,?_⟩
  rintro a2 s3 s4 n2 n3 n4 w4 ⟨k,hk,e2,yb⟩;cases e2
  refine T.at ?_ yb;apply fV<;>intro g2
  ·obtain⟨k,rfl⟩:∃j,k=j+1:=⟨k-1,by omega⟩;have e3:aa.wrap (aa.wrap (8* (i:Int))+(((k+1:Nat):Int) -1))=((8* i+k:Nat):Int):=by
    rw[aW (n:=8* (i:Int)) (by omega),aW (by omega)];omega
   have e4:m/2^(8* i+k)=m/256^i/2^k:=by rw[Nat.pow_add,Nat.pow_mul,Nat.div_div_eq_div_mul]
   apply ws;rw[e3];refine td hm (by omega) ?_;refine pF ?_;rw[e4];have hb:=agM (m/256^i) k (by omega);have h6:m/256^i/2^k%2^(8-k)<256:=Nat.lt_of_lt_of_le (Nat.mod_lt _ (Nat.pow_pos (by decide))) (show 2^(8-k)<=2^8 from gv (by decide) (by omega));rw[show 8-(k+1)=7-k by omega];have h7:((k+1:Nat):Int) -1=(k:Int):=by omega
   rw[h7];generalize m/256^i/2^(k+1)%2^(7-k)=y at hb⊢;generalize m/256^i/2^k%2=z at hb⊢;rw[aW (n:=2* (y:Int)) (by omega),aW (n:=2* (y:Int)+(z:Int)) (by omega),aW (n:=(k:Int) -1) (by omega)];refine λw5 h5=>⟨⟨k,by omega,?_,h5⟩,?_⟩
   ·rw[<-hb];rfl
   ·show(((k:Int) -1)+1).toNat<((k:Int)+1).toNat;omega
  ·obtain rfl:k=0:=by omega
   refine dD ⟨rfl,trivial⟩ ?_;refine tS λr2=>?_;have h8:m/256^i/2^0%2^(8-0)=m/256^i%256:=by simp
   rw[h8];have e6:Value.int .u8 (IntKind.u8.wrap ((m/256^i%256:Nat):Int))=u4 (UInt8.ofNat (m/256^i%256)):=by
    have:=ue (n:=((m/256^i%256:Nat):Int)) (by omega);rw[ao] at this;rw[this]
    congr 1
    unfold IntKind.wrap;simp[IntKind.signed,IntKind.bits]
   rw[e6];refine RN (l:=[UInt8.ofNat (m/256^i%256)]) ?_;have e7:(nb m)[i]?=some (UInt8.ofNat (m/256^i%256)):=by
    unfold nb;rw[eK,qO cf];rfl
   have e8:bs ((nb m).take i)++bs [UInt8.ofNat (m/256^i%256)]=bs ((nb m).take (i+1)):=by rw[lg,a8,e7];rfl
   refine dD (by rw[bY,bY,aD,rH,pD];omega) ?_;rw[e8,e5];refine T.drop λw5 h5=>⟨⟨i+1,cf,rfl,h5⟩,by show 16-((i+1:Nat):Int).toNat<16-(i:Int).toNat;omega⟩
 ·obtain rfl:i=16:=by omega
  have e9:(nb m).take 16=nb m:=bM (by rw[rH];omega);rw[e9];exact T.drop h
def Mx(ha:wD a)(h:T W L (K (.s (bs (jl a))))):T W L (kQ (aK a) K):=by
 unfold kQ;have:=ha.id;have:=ha.dp;have:=ha.dq;have:=ha.cp;have:=ha.cq
 repeat' first|apply ws;intros|apply wb|first|refine EC (by assumption) ?_|refine XY ?_|refine XZ ?_|refine Sh ?_|refine dD (by simp only[lg,bY,au,rH,aO];omega) ?_
 simp only[lg];exact T.dp h
def Mv(ht:yJ t)(h:T W L (K (.s (bs (oA t))))):T W L (kO (aL t) K):=by
 unfold kO;have:=ht.id;have:=ht.bp;have:=ht.aP;have:=ht.aU;have:=ht.pending
 repeat' first|apply ws;intros|apply wb|first|refine EC (by assumption) ?_|refine XY ?_|refine XZ ?_|refine Sh ?_|refine dD (by simp only[lg,bY,au,rH,aO];omega) ?_
 simp only[lg];exact T.dp h
def Sw{x:Bool}(h:true= !x):x=false:=by cases x with|false=>rfl|true=>cases h
def Sx{x:Bool}(h:false= !x):x=true:=by cases x with|true=>rfl|false=>cases h
def PQ[hh:Has R L](h1:nK W R I1 1 rb res)(h2:nK W R aK 14 ab al)(h3:nK W R aL 16 tb tl)(l1:res.length<1000000)(l2:al.length<1000000)(l3:tl.length<1000000)(h:T W L (K (.b (rC e res al tl)))):
 T W L (cx e rb res.length rc ab al.length ac tb tl.length tc K):=by
 have j1:∀b:Bool,b= !(decide (0<=e/\e<=255)&&decide (res.length<=16/\al.length<=16/\tl.length<=16))->T W L (cx.j1 K rb res.length rc ab al.length ac tb tl.length tc b):=λb hb=>by
  unfold cx.j1;rw[JU] at h;cases b with
  |true=>
   rw[Sw hb,Bool.and_false,Bool.and_false,Bool.and_false] at h;exact h
  |false=>
   rw[Sx hb,Bool.and_true] at h;refine vF ?_;intro w jW;refine⟨λvv w=>∃i:Nat,i<=res.length/\(res.take i).all okR=true/\vv=[.b false,.l rb res.length rc,.i (res.length:Int),.i (i:Int)]/\St W w L,
    λvs _=>match vs with|[_,_,_,.int _ d]=>res.length-d.toNat|_=>0,⟨0,aE _,rfl,rfl,jW⟩,?_⟩
   rintro b1 qI oW re n1 n2 w2 ⟨i,hi,gh,e1,gX⟩;cases e1
   refine T.at ?_ gX;have e5:=nL i;apply fV<;>intro g1
   ·have cf:i<res.length:=by omega
    have gx:=aj cf;generalize res[i]=x at gx;refine iN h1 ⟨by omega,by omega⟩ rfl λa ha=>?_;rw[ao];refine H6 h1 ha gx ?_;refine pF ?_;have bad: ¬(0<=x/\x<=255)->T W L (K (.b false)):=λhx=>by
     rw[all_false (P:=okR) gx (aq hx),fD] at h;exact h
    refine fV (λg2=>bad (by omega)) (λg2=>?_);refine fV (λg3=>bad (by omega)) (λg3=>?_);rw[e5];exact λw3 h3=>⟨⟨i+1,cf,by rw[qE gx gh];exact av (by omega),rfl,h3⟩,by show res.length-((i+1:Nat):Int).toNat<res.length-(i:Int).toNat;omega⟩
   have iM:i=res.length:=by omega
   subst iM;rw[aR] at gh;rw[gh,dV] at h;intro w jW;refine⟨λvv w=>∃i:Nat,i<=al.length/\(al.take i).all (λa=>decide (mG a))=true/\vv=[.b false,.l ab al.length ac,.i (al.length:Int),.i (i:Int)]/\St W w L,
    λvs _=>match vs with|[_,_,_,.int _ d]=>al.length-d.toNat|_=>0,⟨0,aE _,rfl,rfl,jW⟩,?_⟩
   rintro b1 qI oW re n1 n2 w2 ⟨i,hi,gh,e1,gX⟩;cases e1
   refine T.at ?_ gX;have e5:=nL i;apply fV<;>intro g1
   ·have cf:i<al.length:=by omega
    have gx:=aj cf;generalize al[i]=x at gx;refine iN h2 ⟨by omega,by omega⟩ rfl λa ha=>?_;rw[ao];refine jH h2 ha gx rfl ?_
    repeat' first|apply ws;intros|apply wb|refine G6 ?_
    rw[e5];by_cases hg:mG x
    ·rw[av hg];apply ws;refine T.drop λw3 h3=>⟨⟨i+1,cf,by rw[qE gx gh];exact av hg,rfl,h3⟩,by show al.length-((i+1:Nat):Int).toNat<al.length-(i:Int).toNat;omega⟩
    ·rw[aq hg];apply ws;rw[all_false (P:=λa=>decide (mG a)) gx (aq hg),fD] at h;exact T.dp h
   have iM:i=al.length:=by omega
   subst iM;rw[aR] at gh;rw[gh,dV] at h;intro w jW;refine⟨λvv w=>∃i:Nat,i<=tl.length/\(tl.take i).all (λa=>decide (j0 a))=true/\vv=[.b false,.l tb tl.length tc,.i (tl.length:Int),.i (i:Int)]/\St W w L,
    λvs _=>match vs with|[_,_,_,.int _ d]=>tl.length-d.toNat|_=>0,⟨0,aE _,rfl,rfl,jW⟩,?_⟩
   rintro b1 qI oW re n1 n2 w2 ⟨i,hi,gh,e1,gX⟩;cases e1
   refine T.at ?_ gX;have e5:=nL i;apply fV<;>intro g1
   ·have cf:i<tl.length:=by omega
    have gx:=aj cf;generalize tl[i]=x at gx;refine iN h3 ⟨by omega,by omega⟩ rfl λa ha=>?_;rw[ao];refine jH h3 ha gx rfl ?_
    repeat' first|apply ws;intros|apply wb|refine G5 ?_
    rw[e5];by_cases hg:j0 x
    ·rw[av hg];apply ws;refine T.drop λw3 h3=>⟨⟨i+1,cf,by rw[qE gx gh];exact av hg,rfl,h3⟩,by show tl.length-((i+1:Nat):Int).toNat<tl.length-(i:Int).toNat;omega⟩
    ·rw[aq hg];apply ws;rw[all_false (P:=λa=>decide (j0 a)) gx (aq hg)] at h;exact T.dp h
   have iM:i=tl.length:=by omega
   subst iM;rw[aR] at gh;rw[gh] at h;exact h
 have j3:∀b:Bool,b= !(decide (0<=e/\e<=255)&&decide (res.length<=16))->T W L (cx.j3 K rb res.length rc ab al.length ac tb tl.length tc b):=λb hb=>by
  unfold cx.j3;cases b with
  |true=>
   have hb: ¬((0<=e/\e<=255)/\res.length<=16):=λhh=>by have:=Sw hb;rw[av hh.1,av hh.2] at this;cases this
   refine vE (j1 _ ?_);rw[bV];simp;omega
  |false=>
   have hb:(0<=e/\e<=255)/\res.length<=16:=by have:=Sx hb;rw[dW,decide_eq_true_eq,decide_eq_true_eq] at this;exact this
   refine vF ?_;refine fV (λg=>j1 _ (by rw[bV];simp;omega)) (λg=>j1 _ ?_);rw[bV];simp;omega
 have j2:∀b:Bool,b= !decide (0<=e/\e<=255)->T W L (cx.j2 K rb res.length rc ab al.length ac tb tl.length tc b):=λb hb=>by
  unfold cx.j2;cases b with
  |true=>
   have hb: ¬(0<=e/\e<=255):=bj (Sw hb);refine vE (j3 _ ?_);rw[bV];simp;omega
  |false=>
   have hb:(0<=e/\e<=255):=aQ (Sx hb);refine vF (j3 _ ?_);rw[bV];simp;omega
 unfold cx;refine fV (λg=>j2 _ (by rw[bV];simp;omega)) (λg=>j2 _ ?_);rw[bV];simp;omega
def zL[hh:Has R L](h1:nK W R I1 1 rb res)(h2:nK W R aK 14 ab al)(h3:nK W R aL 16 tb tl)(l1:res.length<1000000)(l2:al.length<1000000)(l3:tl.length<1000000)(hA:∀a∈al,wD a)(hT:∀t∈tl,yJ t)(h:T W L (K (.s (bs (su e res al tl))))):
 T W L (gP e rb res.length rc ab al.length ac tb tl.length tc K):=by
 unfold gP;refine PQ h1 h2 h3 l1 l2 l3 ?_;refine u0 ?_;cases hf:rC e res al tl with
 |false=>
  rw[show su e res al tl=[3,0,0,0] by unfold su;rw[ag (by rw[hf];decide)];rfl] at h;exact h
 |true=>
  obtain⟨f1,f2,f3,f4,f5,f6,f7⟩:=AH hf;unfold su at h;rw[ai hf] at h;have k2:(al.flatMap jl).length=al.length* 96:=dU oq al;have k1:(res.flatMap λr=>le .i64 1 r).length=res.length* 1:=dU (λr=>aO _ _ _) res;have k3:=dU pg tl;refine H9 (G7 (xU (G7 (xU ?_))));refine dD (by rw[bY,bY,aO,aO];decide) ?_;rw[lg];intro w jW;refine⟨λvv w=>∃i:Nat,i<=res.length/\vv=[.s .empty,.s (bs (le .i64 1 e++le .i64 1 (res.length:Int)++(res.take i).flatMap λr=>le .i64 1 r)),.l rb res.length rc,.i (res.length:Int),.i (i:Int)]/\St W w L,
   λvs _=>match vs with|[_,_,_,_,.int _ d]=>res.length-d.toNat|_=>0,⟨0,aE _,by simp,jW⟩,?_⟩
  rintro s3 s4 xG vT wO n2 n3 w2 ⟨i,hi,e1,gX⟩;cases e1
  refine T.at ?_ gX;have e5:=nL i;have hlen:(le .i64 1 e++le .i64 1 (res.length:Int)++(res.take i).flatMap λr=>le .i64 1 r).length<=18:=by
   rw[au,au,dU (e:=1) (λr=>aO _ _ _),aD,aO,aO];omega
  apply fV<;>intro g1
  ·have cf:i<res.length:=by omega
   have gx:=aj cf;generalize res[i]=x at gx;refine iN h1 ⟨by omega,by omega⟩ rfl λa ha=>?_;rw[ao];refine H6 h1 ha gx ?_;refine pF (G7 (xU ?_));refine dD (by rw[bY,bY,aO];omega) ?_;rw[e5,lg];refine λw3 h3=>⟨⟨i+1,cf,?_,h3⟩,by show res.length-((i+1:Nat):Int).toNat<res.length-(i:Int).toNat;omega⟩;rw[a8,gx,fQ];simp[aH]
  have iM:i=res.length:=by omega
  subst iM;rw[aR] at hlen⊢;refine G7 (xU ?_);refine dD (by rw[bY,bY,aO];omega) ?_;rw[lg];generalize hP:le .i64 1 e++le .i64 1 (res.length:Int)++(res.flatMap λr=>le .i64 1 r)++le .i64 1 (al.length:Int)=P;have hPl:P.length<=19:=by rw[<-hP,au,aO];omega
  intro w jW;refine⟨λvv w=>∃i:Nat,i<=al.length/\vv=[.s .empty,.s (bs (P++(al.take i).flatMap jl)),.l ab al.length ac,.i (al.length:Int),.i (i:Int)]/\St W w L,
   λvs _=>match vs with|[_,_,_,_,.int _ d]=>al.length-d.toNat|_=>0,⟨0,aE _,by simp,jW⟩,?_⟩
  rintro s3 s4 xG vT wO n2 n3 w2 ⟨i,hi,e1,gX⟩;cases e1
  refine T.at ?_ gX;have e5:=nL i;have zq:(P++(al.take i).flatMap jl).length<=2000:=by
   rw[au,dU oq,aD];omega
  apply fV<;>intro g1
  ·have cf:i<al.length:=by omega
   have gx:=aj cf;have gm:=hA _ (bR cf);generalize al[i]=x at gx gm;refine iN h2 ⟨by omega,by omega⟩ rfl λa ha=>?_;rw[ao];refine jH h2 ha gx rfl ?_
   repeat' first|apply ws;intros|apply wb|refine Mx gm ?_
   refine dD (by rw[bY,bY,oq];omega) ?_;rw[e5,lg];refine T.drop λw3 h3=>⟨⟨i+1,cf,?_,h3⟩,by show al.length-((i+1:Nat):Int).toNat<al.length-(i:Int).toNat;omega⟩;rw[a8,gx,fQ];simp[aH]
  have iM:i=al.length:=by omega
  subst iM;rw[aR] at zq⊢;refine G7 (xU ?_);refine dD (by rw[bY,bY,aO];omega) ?_;rw[lg];generalize hQ:P++al.flatMap jl++le .i64 1 (tl.length:Int)=Q;have hQl:Q.length<=2001:=by rw[<-hQ,au,aO];omega
  intro w jW;refine⟨λvv w=>∃i:Nat,i<=tl.length/\vv=[.s .empty,.s (bs (Q++(tl.take i).flatMap oA)),.l tb tl.length tc,.i (tl.length:Int),.i (i:Int)]/\St W w L,
   λvs _=>match vs with|[_,_,_,_,.int _ d]=>tl.length-d.toNat|_=>0,⟨0,aE _,by simp,jW⟩,?_⟩
  rintro s3 s4 xG vT wO n2 n3 w2 ⟨i,hi,e1,gX⟩;cases e1
  refine T.at ?_ gX;have e5:=nL i;have ag5:(Q++(tl.take i).flatMap oA).length<=5000:=by
   rw[au,dU pg,aD];omega
  apply fV<;>intro g1
  ·have cf:i<tl.length:=by omega
   have gx:=aj cf;have gm:=hT _ (bR cf);generalize tl[i]=x at gx gm;refine iN h3 ⟨by omega,by omega⟩ rfl λa ha=>?_;rw[ao];refine jH h3 ha gx rfl ?_
   repeat' first|apply ws;intros|apply wb|refine Mv gm ?_
   refine dD (by rw[bY,bY,pg];omega) ?_;rw[e5,lg];refine T.drop λw3 h3=>⟨⟨i+1,cf,?_,h3⟩,by show tl.length-((i+1:Nat):Int).toNat<tl.length-(i:Int).toNat;omega⟩;rw[a8,gx,fQ];simp[aH]
  have iM:i=tl.length:=by omega
  subst iM;rw[aR];have:En e res al tl=Q++tl.flatMap oA:=by rw[<-hQ,<-hP];unfold En;simp only[aH]
  rw[this] at h;exact h
def Sf(h:T W L (K (.s (bs (su e [] [] []))))):T W L (gP e none 0 0 none 0 0 none 0 0 K):=
 zL (R:=L) (rb:=none) (ab:=none) (tb:=none) (rc:=0) (ac:=0) (tc:=0) (res:=[]) (al:=[]) (tl:=[]) nK.nil nK.nil nK.nil (by decide) (by decide) (by decide) (λa h=>by cases h) (λa h=>by cases h) h
def uE(h:T W L (K (.s (bs (su e [] [] []))))):T W L (iF e K):=by
 unfold iF;exact Sf (xU h)
end
section
variable {W:World} {L R M:LH} {K:VK} {X:WK} {q:jF} {s:vx} {p:Nat} {m:aA} {mb kb:OA} {mc kc:Nat}
def PT{r1:Nat}{ob kb ab xb:OA}{oc kc ac xc:Nat}{ol al:List bC}{kl xl:List bW}{ck st W7 XS:Int}{f0:LV->LH}{f1 f2 f3 f4:HP->LH}
 [i0:Lc (Sep.pt r1) L [.l ob ol.length oc,.l kb kl.length kc,.i ck,.i st] f0]
 [i1:ux ob ol.length oc L 14 (ol.flatMap aK) f1][i2:ux ab al.length ac L 14 (al.flatMap aK) f2][i3:ux kb kl.length kc L 33 (kl.flatMap bG) f3][i4:ux xb xl.length xc L 33 (xl.flatMap bG) f4](ha:ol.length<=100000)(hk:kl.length<=100000)
 (h:T W L (K (.b (decide (ol=al/\kl=xl/\ck=W7/\st=XS))))):T W L (cX (some (ad r1 0)) ab al.length ac xb xl.length xc W7 XS K):=by
 have bad: ¬(ol=al/\kl=xl/\ck=W7/\st=XS)->T W L (K (.b false)):=λhh=>by rw[aq hh] at h;exact h
 have j1:∀b:Bool,(b=true-> ¬(ol=al/\kl=xl/\ck=W7/\st=XS))->(b=false->ol.length=al.length/\kl.length=xl.length/\ck=W7/\st=XS)->T W L (cX.j1 K al.length (some (ad r1 0)) ab xl.length xb b):=λb MV wm=>by
  unfold cX.j1;cases b with
  |true=>exact bad (MV rfl)
  |false=>
   obtain⟨hl1,Wo,hck,uX⟩:=wm rfl;refine vF ?_;intro w jW;refine⟨λvv w=>∃i:Nat,i<=al.length/\ol.take i=al.take i/\vv=[.b false,.i (al.length:Int),.i (i:Int)]/\St W w L,λvs _=>match vs with|[_,_,.int _ d]=>al.length-d.toNat|_=>0,⟨0,aE _,rfl,rfl,jW⟩,?_⟩;rintro b1 n1 n2 w2 ⟨i,hi,heq,e,gX⟩;cases e
   refine T.at ?_ gX;have e5:=nL i;apply fV<;>intro g1
   ·have cf:i<al.length:=by omega
    have gx:=aj (show i<ol.length by omega);have gy:=aj cf;generalize ol[i]=x at gx;generalize al[i]=y at gy;refine H0 ?_;refine CY ?_;refine m9 (i:=i0) rfl ?_;refine wL ?_;refine dM (b:=ob) ⟨by omega,by omega⟩ λrb hb=>?_;rw[ao];subst hb;refine gI jx gx ?_;refine dM (b:=ab) ⟨by omega,by omega⟩ λZv hb=>?_;rw[ao];subst hb;refine gI jx gy ?_;refine abo ?_;by_cases g2:x=y
    ·rw[av g2,e5];refine H9 ?_;exact λw3 h3=>⟨⟨i+1,cf,Lw gx gy heq g2,rfl,h3⟩,by show al.length-((i+1:Nat):Int).toNat<al.length-(i:Int).toNat;omega⟩
    ·rw[aq g2];exact bad λhh=>Lx gx gy g2 hh.1
   ·have iM:i=al.length:=by omega
    subst iM;rw[aR,<-hl1,aR] at heq;intro w3 vQ;refine⟨λvv w=>∃i:Nat,i<=xl.length/\kl.take i=xl.take i/\vv=[.b false,.i (xl.length:Int),.i (i:Int)]/\St W w L,λvs _=>match vs with|[_,_,.int _ d]=>xl.length-d.toNat|_=>0,⟨0,aE _,rfl,rfl,vQ⟩,?_⟩;rintro b1 n1 n2 w4 ⟨i,hi,aac,e,yb⟩;cases e
    refine T.at ?_ yb;have e5:=nL i;apply fV<;>intro g1
    ·have cf:i<xl.length:=by omega
     have gx:=aj (show i<kl.length by omega);have gy:=aj cf;generalize kl[i]=x at gx;generalize xl[i]=y at gy;refine H0 ?_;refine CY ?_;refine D4 ?_;refine m9 (i:=i0) (o:=1) rfl ?_;refine wL ?_;refine dM (b:=kb) ⟨by omega,by omega⟩ λrb hb=>?_;rw[ao];subst hb;refine gI je gx ?_;refine dM (b:=xb) ⟨by omega,by omega⟩ λZv hb=>?_;rw[ao];subst hb;refine gI je gy ?_;refine abn ?_;by_cases g2:x=y
     ·rw[av g2,e5];refine H9 ?_;exact λw3 h3=>⟨⟨i+1,cf,Lw gx gy aac g2,rfl,h3⟩,by show xl.length-((i+1:Nat):Int).toNat<xl.length-(i:Int).toNat;omega⟩
     ·rw[aq g2];exact bad λhh=>Lx gx gy g2 hh.2.1
    ·have iM:i=xl.length:=by omega
     subst iM;rw[aR,<-Wo,aR] at aac;rw[av ⟨heq,aac,hck,uX⟩] at h;exact h
 unfold cX cX.j2 cX.j3;refine CY ?_;refine m9 (i:=i0) rfl ?_;refine wL ?_;by_cases hlen:ol.length=al.length
 ·refine gL (by simp;omega) ?_;refine CY ?_;refine D4 ?_;refine m9 (i:=i0) (o:=1) rfl ?_;refine wL ?_;by_cases zq:kl.length=xl.length
  ·refine gL (by simp;omega) ?_;refine CY ?_;refine D4 ?_;refine m9 (i:=i0) (o:=2) rfl ?_;refine pF ?_;by_cases hc:ck=W7
   ·refine gL (by simpa using hc) ?_;refine CY ?_;refine D4 ?_;refine m9 (i:=i0) (o:=3) rfl ?_;refine pF ?_;refine j1 _ (λhb=>?_) (λhb=>⟨hlen,zq,hc,by simpa using hb⟩);have:=fy.1 hb;exact λhh=>this hh.2.2.2
   ·refine mR (by simpa using hc) ?_;exact j1 true (λ_ hh=>hc hh.2.2.1) (λhb=>by cases hb)
  ·refine mR (by rw[fy];omega) ?_;refine vE ?_;exact j1 true (λ_ hh=>zq (by rw[hh.2.1])) (λhb=>by cases hb)
 ·refine mR (by rw[fy];omega) ?_;refine vE ?_;refine vE ?_;exact j1 true (λ_ hh=>hlen (by rw[hh.1])) (λhb=>by cases hb)
def Vs{ab xb:OA}{ac xc:Nat}{al:List bC}{xl:List bW}{W7 XS:Int}{f2 f4:HP->LH}(hm:RM m)
 [i2:ux ab al.length ac R 14 (al.flatMap aK) f2][i4:ux xb xl.length xc R 33 (xl.flatMap bG) f4]
 (h:T W (ML p m mb mc kb kc R) (K (.b (decide (m.cy.map m.full=al/\m.ax=xl/\m.clock=W7/\m.ay=XS))))):T W (ML p m mb mc kb kc R) (kk (ah p) ab al.length ac xb xl.length xc W7 XS K):=by
 unfold kk;have hmf:=hm.ou;have hmm:=hm.many;apply ws;refine Cq (by omega) (by omega) hm.Zq hm.rkK λob oc=>?_;apply ws;intros;rename_i r1;have Qo:m.cy.length=(m.cy.map m.full).length:=(bP _).symm;rw[Qo];refine PT (ob:=ob) (ol:=m.cy.map m.full) (kl:=m.ax) (by rw[bP];omega) (by omega) ?_;apply ws;refine T.drop ?_;refine T.sub h ?_;exact qv
end
section
variable {W:World} {L R M:LH} {K:VK} {X:WK} {q:jF} {s:vx} {p:Nat} {m:aA} {mb kb:OA} {mc kc:Nat}
end
end Go.Up
namespace Go.Sep
open Go.Den Go.RowKit Go.Prog Go.cD
section
variable {W w:World} {L:LH}
end
def O3{D:aX}{number:Int}{h:fS}(hg:nt h):∃a:Nat,(a:Int)=low h.bA/\a<2/\tH D number h=eO D a (a+1:Nat) number (bs (jS h)):=by
 have hl:=vJ h.bA;refine⟨(low h.bA).toNat,by omega,by omega,?_⟩;unfold tH eO;rw[ai hg];have e1:(((low h.bA).toNat:Nat):Int)=low h.bA:=by omega
 have e2:(((low h.bA).toNat+1:Nat):Int)=low h.bA+1:=by omega
 rw[e1,e2]
def Fj(h:fS):gj (bs (jS h)).size=1:=by rw[bY,qg];rfl
def G8(h:fS):part (bs (jS h)) 0=bs (jS h):=by
 apply kx;unfold part;rw[extract_toList,Nat.mul_zero,iQ,bM];show(jS h).length<=_;rw[qg];decide
def Lq{D:aX}{i:Nat}{n:Int}{h:fS}(hn:1<=n/\n<=1152921504606846976)(hg:nt h)(hi:(i:Int)=low h.bA)(hr:D.read (i:Int)=(leaf n 0 (bs (jS h)),0)):Af D i=some h:=by
 have zW:fk n 0 (bs (jS h)):=⟨hn.1,hn.2,by decide,by decide,by rw[bY,qg];decide⟩;unfold Af;rw[hr];dsimp only;rw[mY zW,oK zW];dsimp only;rw[ag (by simp),show(bs (jS h)).data.toList=jS h from rfl,KN hg];dsimp only;rw[ag (λhh=>hh hi.symm)]
def Fz{D:aX}{i:Nat}(hr:lJ (D.read (i:Int)).1.data.toList=none):Af D i=none:=by
 unfold Af;rw[hr]
def Kp{n:Int}(h:0<=n/\n<=1152921504606846977):low n=n.tmod 2:=by
 obtain⟨m,rfl⟩:=bm h.1;have e:m%2^64=m:=fw (by omega);rw[Oq,BitVec.ofInt_natCast,BitVec.toNat_ofNat,e,dN (by omega)];omega
def yQ{D:aX}{i:Nat}(h:i<D.safe.length):(D.read (i:Int)).2=0:=by
 unfold aX.read;rw[ai ⟨by omega,by omega⟩]
section
variable {W w:World} {L:LH}
end
def wE(a:fS×fS)(h:fS):fS×fS:=if low h.bA=0 then(h,a.2) else(a.1,h)
def B5{D D':aX}{i:Nat}(h1:i<D.safe.length)(h2:i<D'.safe.length)(h:(D'.read (i:Int)).1=(D.read (i:Int)).1):Af D' i=Af D i:=by
 have e:D'.read (i:Int)=D.read (i:Int):=by
  have a:=yQ h1;have b:=yQ h2;exact Prod.ext h (by rw[a,b])
 unfold Af;rw[e]
def zt(h:fS):∀v∈bZ h,v.oneCell'=true:=by simp[bZ,Value.oneCell']
section
variable {W w:World} {L:LH} {k:Nat}
end
end Go.Sep
namespace Go.Up
open Go.Sep Go.Den Go.RowKit Go.Prog Go.Md Go.cD
def ET{n:Nat}{D D':aX}{J:PJ}{q0:Int}{ov:List (List UInt8)}{g g':Nat}(h:JG n D J q0 ov g)(ix:D'.Ok)(zV:D'.later=[])(hlen:D'.safe.length=n)
 (hr:∀j:Int,J.lo<=j->j<J.hi->(D'.read j).1=(D.read j).1)(he:∀j:Nat,j<n->Sep.Ends g' (D'.read (j:Int)).1):JG n D' J q0 ov g':=by
 have hl:D'.safe.length=D.safe.length:=by rw[hlen,h.len]
 have j2:=h.xJ.Lr;have j3:=h.xJ.Rf;refine⟨ix,zV,hlen,⟨h.xJ.lo,j2,j3,by rw[hl];exact h.xJ.hi,h.xJ.seq⟩,vr hl _ h.chain (λj a b=>hr j (by omega) (by omega)),h.seq,h.q0,λj a b m d hv=>?_,?_,he⟩
 ·rw[hr j a b] at hv;exact h.low j a b m d hv
 ·rw[Cu hl (λj a b=>hr j (by omega) (by omega))];exact h.stop
def MM{n:Nat}{D:aX}{J:PJ}{q0:Int}{ov:List (List UInt8)}{g:Nat}(h:JG n D J q0 ov g):JG n D {J with at':=J.lo} J.seq [] g:=by
 have hq0:=h.q0;have Gq:=h.seq;have j2:=h.xJ.Lr;have j3:=h.xJ.Rf;refine⟨h.ok,h.IB,h.len,⟨h.xJ.lo,sH _,by show J.lo<=J.hi;omega,h.xJ.hi,h.xJ.seq⟩,rfl,by show J.seq=J.seq+_;simp,h.xJ.seq.1,h.low,?_,h.ends⟩;show lK D J.lo J.hi (J.seq+1)=none;cases C4:ov with
 |nil=>
  have II:=h.chain;rw[C4] at II;unfold Sep.jV at II;rw[II];exact h.stop
 |cons s r=>
  have II:=h.chain;rw[C4] at II;obtain⟨a2,h1,h2⟩:=II;obtain⟨m,d,x1,x2,hv,Qi⟩:=Hc (by omega) h1;obtain⟨i1,i2,i3,i4,i5,i6⟩:=pN h1;have S7:=rO (12+s.length);have Bm:=h.xJ.seq;have Am:=h.xJ.hi;have hlen:=h.ok.ou;have Z2:=u7 (seq:=q0+1) (s:=bs s) ⟨by omega,by
   have:(ov.length:Int)>=1:=by rw[C4,bt];omega
   omega⟩ (by rw[bY];omega)
  refine BK (λm2 d2 Wa=>?_);rw[hv] at Wa;simp only[bE.injEq,Prod.mk.injEq] at Wa;obtain⟨-,-,rfl⟩:=Wa;have S4:Sep.fk m ((0:Nat):Int) (Sep.part (bs (df (q0+1) (bs s))) 0):=⟨x1,x2,by omega,by omega,mX _ 0⟩;have r0:=Qi 0 S7;rw[show J.lo+((0:Nat):Int)=J.lo from by omega] at r0;rw[r0,mY S4,oK S4] at hv;simp only[bE.injEq,Prod.mk.injEq] at hv;obtain⟨-,-,hd⟩:=hv;rw[<-hd,Z2.1];rw[C4,bt] at Gq;omega
def Aft(L:aX×Int)(D':aX):Prop:=(∃mask torn cut,D'=L.1.fI mask torn cut)\/(L.2=0/\D'=L.1)
def lsx{n a t m g:Nat}{D D':aX}{s:BA}(ix:D.Ok)(zV:D.later=[])(hlen:D.safe.length=n)(rj:∀j:Nat,j<n->Sep.Ends g (D.read (j:Int)).1)(cQ:n<=4096)(hm:g<m)(LQ:m<256)(hl:a+gj s.size<=t)(ZV:t<=n)
 (hA:Aft (eO D (a:Int) (t:Int) (m:Int) s) D'):
 D'.Ok/\D'.later=[]/\D'.safe.length=n/\(∀j:Nat,j<n->Sep.Ends m (D'.read (j:Int)).1)/\(∀j:Nat,j<n->(j<a\/a+gj s.size<=j)->(D'.read (j:Int)).1=(D.read (j:Int)).1)/\
  ((eO D (a:Int) (t:Int) (m:Int) s).2=0->∀q:Nat,q<gj s.size->(D'.read ((a+q:Nat):Int)).1=leaf m q (Sep.part s q))/\
  (∀q:Nat,q<gj s.size->(D'.read ((a+q:Nat):Int)).1=(D.read ((a+q:Nat):Int)).1\/(D'.read ((a+q:Nat):Int)).1=leaf m q (Sep.part s q)\/lJ (D'.read ((a+q:Nat):Int)).1.data.toList=none):=by
 have hcp:=rO s.size;have key:∀mask torn cut:Int,∀X:aX,X=(eO D (a:Int) (t:Int) (m:Int) s).1.fI mask torn cut->X.Ok/\X.later=[]/\X.safe.length=n/\(∀j:Nat,j<n->Sep.Ends m (X.read (j:Int)).1)/\(∀j:Nat,j<n->(j<a\/a+gj s.size<=j)->(X.read (j:Int)).1=(D.read (j:Int)).1)/\
  ((eO D (a:Int) (t:Int) (m:Int) s).2=0->∀q:Nat,q<gj s.size->(X.read ((a+q:Nat):Int)).1=leaf m q (Sep.part s q))/\
  (∀q:Nat,q<gj s.size->(X.read ((a+q:Nat):Int)).1=(D.read ((a+q:Nat):Int)).1\/(X.read ((a+q:Nat):Int)).1=leaf m q (Sep.part s q)\/lJ (X.read ((a+q:Nat):Int)).1.data.toList=none):=λmask torn cut X hX=>by
  obtain⟨c1,c2,c3,c4⟩:=Kn (n:=n) (a:=a) (t:=t) (number:=(m:Int)) (mask:=mask) (torn:=torn) (cut:=cut) (s:=s) ix zV hlen cQ (by omega) hl ZV;rw[<-hX] at c1 c2 c3 c4;have zW:∀i:Nat,i<4096->Sep.fk (m:Int) (i:Int) (Sep.part s i):=λi hi=>⟨by omega,by omega,by omega,by omega,mX _ i⟩;have ab':X.later=[]:=by rw[hX,od]
  refine⟨c3,ab',c4,λj hj=>?_,λj hj xY=>?_,c2,λq hq=>?_⟩
  ·rcases c1 j hj with hh|⟨i,h1,h2,h3⟩
   ·rw[hh];exact(rj j hj).mono (by omega)
   ·exact(BO hm LQ (zW i (by omega)) (rj j hj) h3).1
  ·rcases c1 j hj with hh|⟨i,h1,h2,h3⟩
   ·exact hh
   ·omega
  ·rcases c1 (a+q) (by omega) with hh|⟨i,h1,h2,h3⟩
   ·exact .inl hh
   ·have:i=q:=by omega
    subst this;exact(BO hm LQ (zW i (by omega)) (rj (a+i) (by omega)) h3).2
 rcases hA with⟨mask,torn,cut,hX⟩|⟨h0,hX⟩
 ·exact key mask torn cut D' hX
 ·have hlz:=On h0;obtain⟨k1,k2,k3,k4,k5,k6,k7⟩:=key 0 (-1) 0 _ rfl;have UE:∀j:Int,((eO D (a:Int) (t:Int) (m:Int) s).1.fI 0 (-1) 0).read j=D'.read j:=λj=>by rw[hX];exact Aa hlz 0 (-1) 0 j
  refine⟨by rw[hX];exact Km ix (by rw[zV,cH];omega),by rw[hX];exact hlz,by rw[hX,<-uo _ 0 (-1) 0];exact k3,λj hj=>by rw[<-UE];exact k4 j hj,λj hj ho=>by rw[<-UE];exact k5 j hj ho,λh q hq=>by rw[<-UE];exact k6 h q hq,λq hq=>by rw[<-UE];exact k7 q hq⟩
def CG(n:Nat)(D:aX)(hd:fS)(mb:aA):Prop:=
 (hd=DJ/\mb=nZ/\Af D 0=none/\Af D 1=none)\/
 (nt hd/\(∃(a:Nat)(k:Int),(a:Int)=low hd.bA/\1<=k/\k<=1152921504606846976/\(D.read (a:Int)).1=leaf k 0 (bs (jS hd))/\(∀p,Af D (1-a)=some p->p.bA<hd.bA))/\
  hd.size=((cI (bo mb)).length:Int)/\gj (cI (bo mb)).length<=dv n/\∀q:Nat,q<gj (cI (bo mb)).length->(D.read ((eS n hd.bA+q:Nat):Int)).1=leaf hd.number q (Sep.part (bs (cI (bo mb))) q))
def CG.base{n:Nat}{D:aX}{hd:fS}{mb:aA}(h:CG n D hd mb)(hlen:D.safe.length=n)(ny:12<=n)(cQ:n<=4096):aa4 D n hd mb:=by
 rcases h with⟨h1,h2,h3,h4⟩|⟨hg,⟨a,k,ha,UI,rq,hr,hp⟩,hs,hc,hq⟩
 ·left
  rw[h3,h4];exact⟨rfl,h1,h2⟩
 ·right
  have KJ:=vJ hd.bA;have eA:Af D a=some hd:=Lq (n:=k) ⟨UI,rq⟩ hg ha (by
   have:=yQ (D:=D) (i:=a) (by omega)
   rw[<-hr,<-this])
  constructor
  ·by_cases ha0:a=0
   ·subst ha0;rw[eA];cases hb:Af D 1 with
    |none=>rfl
    |some p=>
     have:=hp p hb;show(if hd.bA<p.bA then some p else some hd)=some hd;rw[ag (by omega)]
   ·have:a=1:=by omega
    subst this;rw[eA];cases hb:Af D 0 with
    |none=>rfl
    |some p=>
     have:=hp p hb;show(if p.bA<hd.bA then some hd else some p)=some hd;rw[ai this]
  ·have:=WG (n:=n) (D:=D) (which:=hd.bA) (number:=hd.number) (s:=bs (cI (bo mb))) hlen ny cQ ⟨hg.2.2.1,hg.2.2.2.1⟩ (by rw[bY];exact hc) (λq hqq=>by
    rw[show(((eS n hd.bA:Nat):Int)+(q:Int))=((eS n hd.bA+q:Nat):Int) from by omega]
    exact hq q hqq)
   rw[bY,<-hs] at this;exact this
def CG.mD{n:Nat}{D D':aX}{hd:fS}{mb:aA}(h:CG n D hd mb)(ny:12<=n)(hlen:D.safe.length=n)(ab9:D'.safe.length=n)
 (h01:∀j:Nat,j<2->(D'.read (j:Int)).1=(D.read (j:Int)).1)(X':∀j:Nat,eS n hd.bA<=j->j<eS n hd.bA+dv n->(D'.read (j:Int)).1=(D.read (j:Int)).1):CG n D' hd mb:=by
 have Bp:∀i:Nat,i<2->Af D' i=Af D i:=λi hi=>B5 (by omega) (by omega) (h01 i hi);rcases h with⟨h1,h2,h3,h4⟩|⟨hg,⟨a,k,ha,UI,rq,hr,hp⟩,hs,hc,hq⟩
 ·exact .inl ⟨h1,h2,by rw[Bp 0 (by decide)];exact h3,by rw[Bp 1 (by decide)];exact h4⟩
 ·have KJ:=vJ hd.bA;refine .inr ⟨hg,⟨a,k,ha,UI,rq,by rw[h01 a (by omega)];exact hr,λp SU=>hp p (by rw[<-Bp (1-a) (by omega)];exact SU)⟩,hs,hc,λq hqq=>?_⟩;rw[X' _ (by omega) (by omega)];exact hq q hqq
structure VG(n:Nat)(D:aX)(J:PJ)(hd:fS)(mb:aA)(qs:List jF)(g:Nat):Prop where
 jg:JG n D J hd.seq (qs.map dI) g
 cg:CG n D hd mb
 lo:J.lo=((2+2* dv n:Nat):Int)
 hi:J.hi=(n:Int)
 dK:J.dK=false
 yB:fk (bo mb)
 ground:Md.bN mb
 ov:∀q∈qs,FJ q
 Ie:J.seq<=g
 bA:0<=hd.bA/\hd.bA<=g
def VG.mono{n:Nat}{D:aX}{J:PJ}{hd:fS}{mb:aA}{qs:List jF}{g g':Nat}(h:VG n D J hd mb qs g)(hg:g<=g'):VG n D J hd mb qs g':=
 ⟨h.jg.mono hg,h.cg,h.lo,h.hi,h.dK,h.yB,h.ground,h.ov,by have:=h.Ie;omega,by have:=h.bA;omega⟩
def T5{n:Nat}(ny:12<=n)(cQ:n<=4096):VG n (aX.new n) ⟨((2+2* dv n:Nat):Int),n,((2+2* dv n:Nat):Int),0,false⟩ DJ nZ [] 0:=by
 have hb:2+2* dv n<n:=by unfold dv;omega
 have hz:∀i:Nat,i<n->lJ ((aX.new n).read (i:Int)).1.data.toList=none:=λi hi=>by
  rw[AU cQ hi];exact yp
 exact⟨aa2 cQ (by omega) (by omega) (by omega) 0 (by omega),.inl ⟨rfl,rfl,Fz (hz 0 (by omega)),Fz (hz 1 (by omega))⟩,rfl,rfl,rfl,E7,pP,λq hq=>(by cases hq),sH _,⟨sH _,sH _⟩⟩
def VG.add{n:Nat}{D:aX}{J:PJ}{hd:fS}{mb:aA}{qs:List jF}{g:Nat}{q:jF}(h:VG n D J hd mb qs g)(ny:12<=n)(cQ:n<=4096)(hq:FJ q)(hr:room J (bs (dI q)).size)(hg:g+1<256):
 tK D J (eV D n+1) (bs (dI q))=Sep.B6 J (bs (dI q)) (eO D J.at' J.hi (eV D n+1) (bs (df (J.seq+1) (bs (dI q)))))/\(eO D J.at' J.hi (eV D n+1) (bs (df (J.seq+1) (bs (dI q))))).1.Ok/\
 (((eO D J.at' J.hi (eV D n+1) (bs (df (J.seq+1) (bs (dI q))))).2=0/\VG n (eO D J.at' J.hi (eV D n+1) (bs (df (J.seq+1) (bs (dI q))))).1 (J.more (bs (dI q))) hd mb (qs++[q]) (g+1))\/
  ((eO D J.at' J.hi (eV D n+1) (bs (df (J.seq+1) (bs (dI q))))).2=8/\∀mask torn cut,
    VG n ((eO D J.at' J.hi (eV D n+1) (bs (df (J.seq+1) (bs (dI q))))).1.fI mask torn cut) J hd mb qs (g+1)\/
    VG n ((eO D J.at' J.hi (eV D n+1) (bs (df (J.seq+1) (bs (dI q))))).1.fI mask torn cut) (J.more (bs (dI q))) hd mb (qs++[q]) (g+1))):=by
 obtain⟨x,hx,hxg,Yk⟩:=h.jg.yA (by omega);have hm:eV D n+1=((x+1:Nat):Int):=by omega
 rw[hm];have Gq:=h.Ie;have htr:=h.bA;have Bn:=h.lo;have Am:=h.hi;obtain⟨a1,a2,a3⟩:=Yk.add (m:=x+1) (s:=bs (dI q)) h.dK cQ (by omega) (by omega) hr (by omega);have j2:=h.jg.xJ.Lr;obtain⟨a,ha⟩:=bm (show 0<=J.at' by omega);have A2:=sw (J.seq+1) (bs (dI q));have r3:=hr.2.2;rw[ao] at r3;have hcg:∀D',Aft (eO D J.at' J.hi ((x+1:Nat):Int) (bs (df (J.seq+1) (bs (dI q))))) D'->CG n D' hd mb:=λD' hA=>by
  rw[ha,Am] at hA;obtain⟨k1,k2,k3,k4,k5,-,-⟩:=lsx (n:=n) (a:=a) (t:=n) (m:=x+1) (g:=x) h.jg.ok h.jg.IB h.jg.len Yk.ends cQ (by omega) (by omega) (by rw[A2];omega) (aG _) hA;have SS:=(pe ny hd.bA);have X':eS n hd.bA+dv n<=2+2* dv n:=by unfold eS;split<;>omega
  exact h.cg.mD ny h.jg.len k3 (λj hj=>k5 j (by omega) (.inl (by omega))) (λj hj1 IH=>k5 j (by omega) (.inl (by omega)))
 have Ya:∀r∈qs++[q],FJ r:=λr hr=>by
  rcases dF.1 hr with hr|hr
  ·exact h.ov r hr
  ·cases(show r=q by simpa using hr);exact hq
 have KH:(qs++[q]).map dI=qs.map dI++[(bs (dI q)).data.toList]:=by rw[cR];rfl
 refine⟨a1,a2,?_⟩;rcases a3 with⟨z,hj⟩|z
 ·left
  refine⟨z,⟨?_,hcg _ (.inr ⟨z,rfl⟩),Bn,Am,h.dK,h.yB,h.ground,Ya,by show J.seq+1<=((g+1:Nat):Int);omega,by omega⟩⟩;rw[KH];exact hj.mono (by omega)
 ·right
  refine⟨z,λmask torn cut=>?_⟩;obtain⟨f1,f2,f3,f4⟩:=fly Yk cQ (show x<x+1 by omega) (by omega) hr (by omega) mask torn cut;have hc:=hcg _ (.inl ⟨mask,torn,cut,rfl⟩);by_cases hw:∀i:Nat,i<gj (12+(bs (dI q)).size)->(((eO D J.at' J.hi ((x+1:Nat):Int) (bs (df (J.seq+1) (bs (dI q))))).1.fI mask torn cut).read (J.at'+i)).1=leaf ((x+1:Nat):Int) i (Sep.part (bs (df (J.seq+1) (bs (dI q)))) i)
  ·right
   refine⟨?_,hc,Bn,Am,h.dK,h.yB,h.ground,Ya,by show J.seq+1<=((g+1:Nat):Int);omega,by omega⟩;rw[KH];exact(f3 hw).mono (by omega)
  ·left
   exact⟨(f4 hw).mono (by omega),hc,Bn,Am,h.dK,h.yB,h.ground,h.ov,by omega,by omega⟩
def Ko{t:Int}(h:0<=t/\t<1152921504606846976):low (t+1)=1-low t:=by
 rw[Kp (by omega),Kp (by omega),dN (by omega),dN (by omega)];omega
def VG.put{n:Nat}{D:aX}{J:PJ}{hd:fS}{mb m:aA}{qs:List jF}{g:Nat}(h:VG n D J hd mb qs g)(ny:12<=n)(cQ:n<=4096)(hg:g+2<256)(BV:gj (cI (bo m)).length<=dv n):
 ((put D n (hd.bA+1) (eV D n+1) (bs (cI (bo m)))).2=0\/(put D n (hd.bA+1) (eV D n+1) (bs (cI (bo m)))).2=8)/\
 ∀D',Aft (put D n (hd.bA+1) (eV D n+1) (bs (cI (bo m)))) D'->VG n D' J hd mb qs (g+1)/\
  ((put D n (hd.bA+1) (eV D n+1) (bs (cI (bo m)))).2=0->∀q:Nat,q<gj (cI (bo m)).length->(D'.read ((eS n (hd.bA+1)+q:Nat):Int)).1=leaf (eV D n+1) q (Sep.part (bs (cI (bo m))) q)):=by
 obtain⟨x,hx,hxg,Yk⟩:=h.jg.yA (by omega);have hm:eV D n+1=((x+1:Nat):Int):=by omega
 rw[hm,zO];have CC:=pe ny (hd.bA+1);have htr:=h.bA;have Bn:=h.lo;have Am:=h.hi;have Gq:=h.Ie;refine⟨Dp (n:=n) (a:=eS n (hd.bA+1)) (t:=eS n (hd.bA+1)+dv n) (number:=((x+1:Nat):Int)) h.jg.len cQ (by omega) (by rw[bY];omega) (by omega),λD' hA=>?_⟩;obtain⟨k1,k2,k3,k4,k5,k6,k7⟩:=lsx (n:=n) (a:=eS n (hd.bA+1)) (t:=eS n (hd.bA+1)+dv n) (m:=x+1) (g:=x) h.jg.ok h.jg.IB h.jg.len Yk.ends cQ (by omega) (by omega) (by rw[bY];omega) (by omega) hA;rw[bY] at k5 k6;have hap:=Mm (n:=n) hd.bA (hd.bA+1) (by rw[Ko (by omega)];have:=vJ hd.bA;omega);have X':eS n (hd.bA+1)+dv n<=2+2* dv n:=by unfold eS;split<;>omega
 refine⟨⟨ET h.jg k1 k2 k3 (λj hj1 IH=>?_) (λj hj=>(k4 j hj).mono (by omega)),h.cg.mD ny h.jg.len k3 (λj hj=>k5 j (by omega) (.inl (by omega))) (λj hj1 IH=>k5 j (by have:=(pe ny hd.bA).2.1;omega) (by omega)),Bn,Am,h.dK,h.yB,h.ground,h.ov,by omega,by omega⟩,k6⟩;obtain⟨k,rfl⟩:=bm (show 0<=j by omega);exact k5 k (by omega) (.inr (by omega))
def VG.ads{n:Nat}{D:aX}{J:PJ}{hd:fS}{mb m:aA}{qs:List jF}{g:Nat}{number:Int}(h:VG n D J hd mb qs g)(ny:12<=n)(cQ:n<=4096)(x:Nat)(hx:eV D n<=x)(hxg:x<=g)(hg:g+1<256)(pO:1<=number/\number<=(g:Int))
 (BV:gj (cI (bo m)).length<=dv n)(hlen:(cI (bo m)).length<=425984)(iq:fk (bo m))(tW:Md.bN m)
 (abW:∀q:Nat,q<gj (cI (bo m)).length->(D.read ((eS n (hd.bA+1)+q:Nat):Int)).1=leaf number q (Sep.part (bs (cI (bo m))) q)):
 ((tH D ((x+1:Nat):Int) ⟨hd.bA+1,number,((cI (bo m)).length:Int),J.seq⟩).2=0\/(tH D ((x+1:Nat):Int) ⟨hd.bA+1,number,((cI (bo m)).length:Int),J.seq⟩).2=8)/\
 ∀D',Aft (tH D ((x+1:Nat):Int) ⟨hd.bA+1,number,((cI (bo m)).length:Int),J.seq⟩) D'->
  (VG n D' {J with at':=J.lo} ⟨hd.bA+1,number,((cI (bo m)).length:Int),J.seq⟩ m [] (g+1)\/
   ((tH D ((x+1:Nat):Int) ⟨hd.bA+1,number,((cI (bo m)).length:Int),J.seq⟩).2=8/\VG n D' J hd mb qs (g+1))):=by
 have rj:∀j:Nat,j<n->Sep.Ends x (D.read (j:Int)).1:=by
  obtain⟨y,hy,hyg,hjy⟩:=h.jg.yA (by omega);intro j hj;exact(hjy.ends j hj).mono (by omega)
 have htr:=h.bA;have Gq:=h.Ie;have Bn:=h.lo;have Am:=h.hi;have Wt:=h.jg.xJ.seq;obtain⟨hH,Hv⟩:∃hH:fS,hH=⟨hd.bA+1,number,((cI (bo m)).length:Int),J.seq⟩:=⟨_,rfl⟩;rw[<-Hv];have hHt:hH.bA=hd.bA+1:=by rw[Hv]
 have hHs:hH.seq=J.seq:=by rw[Hv]
 have hHn:hH.number=number:=by rw[Hv]
 have hHz:hH.size=((cI (bo m)).length:Int):=by rw[Hv]
 have hHG:nt hH:=by rw[Hv];unfold nt;dsimp only;omega
 obtain⟨b,hb,wm,e⟩:=O3 (D:=D) (number:=((x+1:Nat):Int)) hHG;have MU:=Fj hH;rw[e];refine⟨Dp (n:=n) (a:=b) (t:=b+1) (number:=((x+1:Nat):Int)) h.jg.len cQ (by omega) (by rw[MU];omega) (by omega),λD' hA=>?_⟩;obtain⟨k1,k2,k3,k4,k5,k6,k7⟩:=lsx (n:=n) (a:=b) (t:=b+1) (m:=x+1) (g:=x) h.jg.ok h.jg.IB h.jg.len rj cQ (by omega) (by omega) (by rw[MU];omega) (by omega) hA;rw[MU] at k5 k6 k7;have hbl:(b:Int)=1-low hd.bA:=by rw[hb,hHt];exact Ko (by omega)
 have KJ:=vJ hd.bA;have CC:=pe ny (hd.bA+1);have ahp:=pe ny hd.bA;have SS:2<=2+2* dv n:=by omega
 have Wf:=k7 0 (by decide);rw[dZ,G8] at Wf;have jg1:∀g',g'>=x+1->JG n D' J hd.seq (qs.map dI) g':=λg' Wu=>ET h.jg k1 k2 k3 (λj hj1 IH=>by
  obtain⟨k,rfl⟩:=bm (show 0<=j by omega)
  exact k5 k (by omega) (.inr (by omega))) (λj hj=>(k4 j hj).mono Wu)
 have zU:∀j:Nat,j<n->j≠b->(D'.read (j:Int)).1=(D.read (j:Int)).1:=λj hj kd=>k5 j hj (by omega);have whole:(D'.read (b:Int)).1=leaf ((x+1:Nat):Int) 0 (bs (jS hH))->VG n D' {J with at':=J.lo} hH m [] (g+1):=λhw=>by
  have jr:=MM (jg1 (g+1) (by omega));refine⟨by rw[hHs];exact jr,.inr ⟨hHG,⟨b,((x+1:Nat):Int),hb,by omega,by omega,hw,λp hp=>?_⟩,hHz,BV,λq hq=>?_⟩,Bn,Am,h.dK,iq,tW,λq hq=>(by cases hq),by show J.seq<=((g+1:Nat):Int);omega,by rw[hHt];omega⟩
  ·rw[hHt];have E2:Af D (1-b)=some p:=by rw[<-hp];exact(B5 (by have:=h.jg.len;omega) (by omega) (zU (1-b) (by omega) (by omega))).symm
   rcases h.cg with⟨z1,z2,z3,z4⟩|⟨MT,⟨a,k,ha,UI,rq,hra,Z4⟩,-⟩
   ·by_cases UN:b=0
    ·subst UN;rw[z4] at E2;cases E2
    ·have:b=1:=by omega
     subst this;rw[z3] at E2;cases E2
   ·have UO:a=1-b:=by omega
    have eA:Af D a=some hd:=Lq (n:=k) ⟨UI,rq⟩ MT ha (by
     have:=yQ (D:=D) (i:=a) (by have:=h.jg.len;omega)
     rw[<-hra,<-this])
    rw[<-UO,eA] at E2;cases E2
    omega
  ·rw[hHt,hHn,zU _ (by omega) (by omega)];exact abW q hq
 have abG:Af D' b=none\/(D'.read (b:Int)).1=(D.read (b:Int)).1->VG n D' J hd mb qs (g+1):=λhn=>by
  refine⟨jg1 (g+1) (by omega),?_,Bn,Am,h.dK,h.yB,h.ground,h.ov,by omega,by omega⟩;rcases hn with hn|hn
  ·rcases h.cg with⟨z1,z2,z3,z4⟩|⟨MT,⟨a,k,ha,UI,rq,hra,Z4⟩,hs,hc,hq⟩
   ·have hc1:Af D' (1-b)=none:=by
     rw[B5 (by have:=h.jg.len;omega) (by omega) (zU (1-b) (by omega) (by omega))];by_cases UN:b=0
     ·subst UN;exact z4
     ·have:b=1:=by omega
      subst this;exact z3
    refine .inl ⟨z1,z2,?_,?_⟩
    ·by_cases UN:b=0
     ·subst UN;exact hn
     ·have:b=1:=by omega
      subst this;exact hc1
    ·by_cases UN:b=0
     ·subst UN;exact hc1
     ·have:b=1:=by omega
      subst this;exact hn
   ·have UO:1-a=b:=by omega
    refine .inr ⟨MT,⟨a,k,ha,UI,rq,by rw[zU a (by omega) (by omega)];exact hra,λp hp=>by rw[UO,hn] at hp;cases hp⟩,hs,hc,λq hqq=>?_⟩;rw[zU _ (by omega) (by omega)];exact hq q hqq
  ·exact h.cg.mD ny h.jg.len k3 (λj hj=>by
    by_cases hjb:j=b
    ·subst hjb;exact hn
    ·exact zU j (by omega) hjb) (λj hj1 IH=>zU j (by omega) (by omega))
 by_cases hw:(D'.read (b:Int)).1=leaf ((x+1:Nat):Int) 0 (bs (jS hH))
 ·exact .inl (whole hw)
 ·right
  have hc8:(eO D (b:Int) ((b+1:Nat):Int) ((x+1:Nat):Int) (bs (jS hH))).2=8:=by
   rcases Dp (n:=n) (a:=b) (t:=b+1) (number:=((x+1:Nat):Int)) (s:=bs (jS hH)) h.jg.len cQ (by omega) (by rw[MU];omega) (by omega) with h0|h8
   ·have:=k6 h0 0 (by decide);rw[dZ,G8] at this;exact aT this hw
   ·exact h8
  refine⟨hc8,?_⟩;rcases Wf with hh|hh|hh
  ·exact abG (.inr hh)
  ·exact aT hh hw
  ·exact abG (.inl (Fz hh))
def uV(n:Nat)(D:aX)(m:aA)(g:Nat):Prop:=∃J hd mb qs,VG n D J hd mb qs g/\ze mb qs=m
def uV.mono{n:Nat}{D:aX}{m:aA}{g g':Nat}(h:uV n D m g)(hg:g<=g'):uV n D m g':=by
 obtain⟨J,hd,mb,qs,h1,h2⟩:=h;exact⟨J,hd,mb,qs,h1.mono hg,h2⟩
structure VW(n:Nat)(S:VS)(m:aA)(g:Nat):Prop where
 dK:S.dK=false
 is:∃hd mb qs,VG n S.D S.J hd mb qs g/\ze mb qs=m/\S.bA=hd.bA
structure VX(n:Nat)(S:VS)(m mf:aA)(g:Nat):Prop where
 dK:S.dK=true
 ok:LB S
 len:S.D.safe.length=n
 seq:S.J.seq<=g
 fI:∀mask torn cut,uV n (S.D.fI mask torn cut) m g\/uV n (S.D.fI mask torn cut) mf g
def VW.mono{n:Nat}{S:VS}{m:aA}{g g':Nat}(h:VW n S m g)(hg:g<=g'):VW n S m g':=by
 obtain⟨h1,hd,mb,qs,h2,h3,h4⟩:=h;exact⟨h1,hd,mb,qs,h2.mono hg,h3,h4⟩
def VX.mono{n:Nat}{S:VS}{m mf:aA}{g g':Nat}(h:VX n S m mf g)(hg:g<=g'):VX n S m mf g':=
 ⟨h.dK,h.ok,h.len,by have:=h.seq;omega,λa b c=>(h.fI a b c).imp (λx=>x.mono hg) (λx=>x.mono hg)⟩
def VW.ok{n:Nat}{S:VS}{m:aA}{g:Nat}(h:VW n S m g)(hg:g<256):LB S:=by
 obtain⟨h1,hd,mb,qs,h2,h3,h4⟩:=h;have:=h2.bA;exact⟨h2.jg.ok,by rw[h2.jg.IB];decide,h2.jg.xJ,by omega⟩
def VW.len{n:Nat}{S:VS}{m:aA}{g:Nat}(h:VW n S m g):S.D.safe.length=n:=by
 obtain⟨h1,hd,mb,qs,h2,h3,h4⟩:=h;exact h2.jg.len
def VG.fI{n:Nat}{D:aX}{J:PJ}{hd:fS}{mb:aA}{qs:List jF}{g:Nat}(h:VG n D J hd mb qs g)(ny:12<=n)(mask torn cut:Int):VG n (D.fI mask torn cut) J hd mb qs g:=by
 have hr:=λj=>Aa h.jg.IB mask torn cut j;have e:D.fI mask torn cut=⟨D.safe,[],D.ops,0⟩:=by rw[od,h.jg.IB];rfl
 have ix:(D.fI mask torn cut).Ok:=A8 h.jg.ok mask torn cut;have hl:(D.fI mask torn cut).safe.length=n:=by rw[uo];exact h.jg.len
 exact⟨h.jg.congr ix (by rw[e]) hl (λj _ _=>by rw[hr]),h.cg.mD ny h.jg.len hl (λj _=>by rw[hr]) (λj _ _=>by rw[hr]),h.lo,h.hi,h.dK,h.yB,h.ground,h.ov,h.Ie,h.bA⟩
def VW.fI{n:Nat}{S:VS}{m:aA}{g:Nat}(h:VW n S m g)(ny:12<=n)(mask torn cut:Int):uV n (S.D.fI mask torn cut) m g:=by
 obtain⟨h1,hd,mb,qs,h2,h3,h4⟩:=h;exact⟨S.J,hd,mb,qs,h2.fI ny mask torn cut,h3⟩
def VG.same{n:Nat}{D D':aX}{J:PJ}{hd:fS}{mb:aA}{qs:List jF}{g:Nat}(h:VG n D J hd mb qs g)(ny:12<=n)(ix:D'.Ok)(zV:D'.later=[])(hl:D'.safe.length=n)(hr:∀j:Int,D'.read j=D.read j):VG n D' J hd mb qs g:=
 ⟨h.jg.congr ix zV hl (λj _ _=>by rw[hr]),h.cg.mD ny h.jg.len hl (λj _=>by rw[hr]) (λj _ _=>by rw[hr]),h.lo,h.hi,h.dK,h.yB,h.ground,h.ov,h.Ie,h.bA⟩
def VW.tz{n:Nat}{S:VS}{m:aA}{g:Nat}(h:VW n S m g)(ny:12<=n)(k:Int):VW n {S with D:=S.D.tz k} m g:=by
 obtain⟨h1,hd,mb,qs,h2,h3,h4⟩:=h;have ho:=h2.jg.ok;exact⟨h1,hd,mb,qs,h2.same ny ⟨ho.safe,ho.later,ho.ou,ho.less⟩ h2.jg.IB h2.jg.len (λj=>rfl),h3,h4⟩
def VX.tz{n:Nat}{S:VS}{m mf:aA}{g:Nat}(h:VX n S m mf g)(k:Int):VX n {S with D:=S.D.tz k} m mf g:=by
 have ho:=h.ok;refine⟨h.dK,⟨⟨ho.ok.safe,ho.ok.later,ho.ok.ou,ho.ok.less⟩,ho.ou,⟨ho.xJ.lo,ho.xJ.Lr,ho.xJ.Rf,ho.xJ.hi,ho.xJ.seq⟩,ho.bA⟩,h.len,h.seq,λa b c=>?_⟩;have e:(S.D.tz k).fI a b c=S.D.fI a b c:=by rw[od,od];rfl
 show uV n ((S.D.tz k).fI a b c) m g\/uV n ((S.D.tz k).fI a b c) mf g;rw[e];exact h.fI a b c
def Ap{n:Nat}{S:VS}{m:aA}{g:Nat}(h:VW n S m g)(ny:12<=n)(cQ:n<=4096)(hg:g+2<256)(iq:fk (bo m))(tW:Md.bN m):
 ((fO n m S).2=0/\VW n (fO n m S).1 m (g+2)/\(fO n m S).1.bA=S.bA+1/\(fO n m S).1.J.seq=S.J.seq/\(fO n m S).1.J.at'=S.J.lo/\(fO n m S).1.J.lo=S.J.lo/\(fO n m S).1.J.hi=S.J.hi)\/
 ((fO n m S).2=3/\(fO n m S).1=S/\ ¬gj (cI (bo m)).length<=dv n)\/
 ((fO n m S).2=8/\VX n (fO n m S).1 m m (g+2)/\(fO n m S).1.bA=S.bA/\(fO n m S).1.J.seq=S.J.seq):=by
 have hgl:=wM iq;have wj:=iq.ou;have wi:=iq.many;have hlen:(cI (bo m)).length<=425984:=by omega
 obtain⟨h1,hd,mb,qs,h2,h3,h4⟩:=h;have htr:=h2.bA;have Bn:=h2.lo;have Am:=h2.hi;have Gq:=h2.Ie;have SS:2+2* dv n<n:=by unfold dv;omega
 unfold fO;rw[ag (by rw[h1];decide),h4,h2.jg.len];by_cases BV:gj (cI (bo m)).length<=dv n
 rotate_left
 ·rw[ai BV]
  right;left
  exact⟨rfl,rfl,BV⟩
 rw[ag (λhh=>hh BV)];obtain⟨p1,p2⟩:=h2.put (m:=m) ny cQ hg BV;obtain⟨x,hx,hxg,Yk⟩:=h2.jg.yA (by omega);have CC:=pe ny (hd.bA+1);have ou:∀{a t:Nat} {k:Int} {s:BA} {D:aX},D.Ok->D.later=[]->gj s.size<900000->(eO D a t k s).1.later.length<1000000:=λ{a t k s D} ho hl hc=>by
  have:=MJ (at':=(a:Int)) (toX:=(t:Int)) (number:=k) (s:=s) ho (by rw[hl,cH];omega);rw[hl,cH] at this;omega
 have OP:gj (bs (cI (bo m))).size<900000:=by rw[bY];have:=CC.2.1;omega
 by_cases z1:(put S.D n (hd.bA+1) (eV S.D n+1) (bs (cI (bo m)))).2=0
 rotate_left
 ·have z8:(put S.D n (hd.bA+1) (eV S.D n+1) (bs (cI (bo m)))).2=8:=by rcases p1 with p1|p1;exact aT p1 z1;exact p1
  rw[ai z1]
  right;right
  have c0:=p2 _ (.inl ⟨0,0,0,rfl⟩);have Q6:(put S.D n (hd.bA+1) (eV S.D n+1) (bs (cI (bo m)))).1.safe.length=n:=by rw[<-uo _ 0 0 0];exact c0.1.jg.len
  have Z6:(put S.D n (hd.bA+1) (eV S.D n+1) (bs (cI (bo m)))).1.Ok:=by rw[zO];exact Km h2.jg.ok (by rw[h2.jg.IB,cH];omega)
  have xi:=h2.jg.xJ;refine⟨z8,⟨rfl,⟨Z6,by rw[zO];exact ou h2.jg.ok h2.jg.IB OP,⟨xi.lo,xi.Lr,xi.Rf,by rw[Q6];have:=xi.hi;rw[h2.jg.len] at this;exact this,xi.seq⟩,by show 0<=hd.bA/\hd.bA<_;omega⟩,Q6,by show S.J.seq<=_;omega,λa b c=>?_⟩,rfl,rfl⟩
  left
  obtain⟨c1,c2⟩:=p2 _ (.inl ⟨a,b,c,rfl⟩);exact⟨S.J,hd,mb,qs,c1.mono (by omega),h3⟩
 ·rw[ag (λhh=>hh z1)];obtain⟨c1,c2⟩:=p2 _ (.inr ⟨z1,rfl⟩);have c2:=c2 z1;generalize hD1:(put S.D n (hd.bA+1) (eV S.D n+1) (bs (cI (bo m)))).1=D1 at c1 c2⊢;have aea:eV D1 n<=((x+1:Nat):Int):=by
   have hA:Aft (put S.D n (hd.bA+1) (eV S.D n+1) (bs (cI (bo m)))) D1:=.inr ⟨z1,hD1.symm⟩;rw[zO,show eV S.D n+1=((x+1:Nat):Int) by omega] at hA;obtain⟨_,_,_,k4,_⟩:=lsx (n:=n) (a:=eS n (hd.bA+1)) (t:=eS n (hd.bA+1)+dv n) (m:=x+1) (g:=x) h2.jg.ok h2.jg.IB h2.jg.len Yk.ends cQ (by omega) (by omega) (by rw[bY];omega) (by omega) hA;exact yX (by omega) n k4
  have e2:eV S.D n+2=((x+1+1:Nat):Int):=by omega
  rw[e2];obtain⟨q1,q2⟩:=c1.ads (m:=m) (number:=eV S.D n+1) ny cQ (x+1) aea (by omega) (by omega) (by omega) BV hlen iq tW c2;have hHG:nt ⟨hd.bA+1,eV S.D n+1,((cI (bo m)).length:Int),S.J.seq⟩:=by have:=h2.jg.xJ.seq;unfold nt;dsimp only;omega
  obtain⟨b,hb,wm,ec⟩:=O3 (D:=D1) (number:=((x+1+1:Nat):Int)) hHG;by_cases z2:(tH D1 ((x+1+1:Nat):Int) ⟨hd.bA+1,eV S.D n+1,((cI (bo m)).length:Int),S.J.seq⟩).2=0
  ·rw[ag (λhh=>hh z2)]
   left
   rcases q2 _ (.inr ⟨z2,rfl⟩) with hv|⟨h8,_⟩
   ·exact⟨rfl,⟨h1,_,m,[],hv.mono (by omega),rfl,rfl⟩,rfl,rfl,rfl,rfl,rfl⟩
   ·rw[z2] at h8;exact aT h8 (by decide)
  ·have z8:(tH D1 ((x+1+1:Nat):Int) ⟨hd.bA+1,eV S.D n+1,((cI (bo m)).length:Int),S.J.seq⟩).2=8:=by rcases q1 with q1|q1;exact aT q1 z2;exact q1
   rw[ai z2]
   right;right
   have Q6:(tH D1 ((x+1+1:Nat):Int) ⟨hd.bA+1,eV S.D n+1,((cI (bo m)).length:Int),S.J.seq⟩).1.safe.length=n:=by
    rw[<-uo _ 0 0 0];rcases q2 _ (.inl ⟨0,0,0,rfl⟩) with hv|⟨_,hv⟩
    ·exact hv.jg.len
    ·exact hv.jg.len
   have Z6:(tH D1 ((x+1+1:Nat):Int) ⟨hd.bA+1,eV S.D n+1,((cI (bo m)).length:Int),S.J.seq⟩).1.Ok:=by rw[ec];exact Km c1.jg.ok (by rw[c1.jg.IB,cH,Fj];omega)
   have xi:=h2.jg.xJ;refine⟨z8,⟨rfl,⟨Z6,by rw[ec];exact ou c1.jg.ok c1.jg.IB (by rw[Fj];omega),⟨xi.lo,xi.Lr,xi.Rf,by rw[Q6];have:=xi.hi;rw[h2.jg.len] at this;exact this,xi.seq⟩,by show 0<=hd.bA/\hd.bA<_;omega⟩,Q6,by show S.J.seq<=_;omega,λa b' c=>?_⟩,rfl,rfl⟩
   left
   rcases q2 _ (.inl ⟨a,b',c,rfl⟩) with hv|⟨_,hv⟩
   ·exact⟨_,_,m,[],hv.mono (by omega),rfl⟩
   ·exact⟨S.J,hd,mb,qs,hv.mono (by omega),h3⟩
def DU{n:Nat}{S:VS}{m:aA}{g:Nat}{q:jF}(h:VW n S m g)(ny:12<=n)(cQ:n<=4096)(hg:g+1<256)(hq:FJ q):
 ((oy S (bs (dI q))).2=0/\VW n (oy S (bs (dI q))).1 (bD m q).2.2 (g+1)/\(oy S (bs (dI q))).1.bA=S.bA/\(oy S (bs (dI q))).1.J.seq=S.J.seq+1)\/
 ((oy S (bs (dI q))).2=6/\(oy S (bs (dI q))).1=S/\ ¬room S.J (bs (dI q)).size)\/
 ((oy S (bs (dI q))).2=8/\VX n (oy S (bs (dI q))).1 m (bD m q).2.2 (g+1)/\(oy S (bs (dI q))).1.bA=S.bA/\(oy S (bs (dI q))).1.J.seq=S.J.seq):=by
 obtain⟨h1,hd,mb,qs,h2,h3,h4⟩:=h;have htr:=h2.bA;have Bn:=h2.lo;have Am:=h2.hi;have Gq:=h2.Ie;have hgi:=(xk S.D n).1;obtain⟨x,hx,hxg,Yk⟩:=h2.jg.yA (by omega);unfold oy;rw[h2.jg.len];by_cases hr:room S.J (bs (dI q)).size
 ·obtain⟨a1,a2,a3⟩:=h2.add ny cQ hq hr hg;have ab0:ze mb (qs++[q])=(bD m q).2.2:=by rw[GZ,h3]
  rcases a3 with⟨z,hv⟩|⟨z,hv⟩
  ·have e:tK S.D S.J (eV S.D n+1) (bs (dI q))=((eO S.D S.J.at' S.J.hi (eV S.D n+1) (bs (df (S.J.seq+1) (bs (dI q))))).1,S.J.more (bs (dI q)),0):=by
    rw[a1];unfold Sep.B6;rw[ag (λhh=>hh z)];rfl
   rw[e]
   left
   exact⟨rfl,⟨by show(S.dK||_)=false;rw[h1];rfl,hd,mb,qs++[q],hv,ab0,h4⟩,rfl,rfl⟩
  ·have e:tK S.D S.J (eV S.D n+1) (bs (dI q))=((eO S.D S.J.at' S.J.hi (eV S.D n+1) (bs (df (S.J.seq+1) (bs (dI q))))).1,{S.J with dK:=true},8):=by
    rw[a1];unfold Sep.B6;rw[ai (by rw[z];decide),z]
   rw[e]
   right;right
   have Q6:(eO S.D S.J.at' S.J.hi (eV S.D n+1) (bs (df (S.J.seq+1) (bs (dI q))))).1.safe.length=n:=by
    rw[<-uo _ 0 0 0];rcases hv 0 0 0 with hh|hh
    ·exact hh.jg.len
    ·exact hh.jg.len
   have xi:=h2.jg.xJ;have A2:=sw (S.J.seq+1) (bs (dI q));have hcn:gj (12+(bs (dI q)).size)<=4096:=by have:=hr.2.2;rw[ao] at this;have:=xi.lo;have:=xi.Lr;omega
   have wj:=MJ (at':=S.J.at') (toX:=S.J.hi) (number:=eV S.D n+1) (s:=bs (df (S.J.seq+1) (bs (dI q)))) h2.jg.ok (by rw[h2.jg.IB,cH,A2];omega);rw[h2.jg.IB,cH,A2] at wj;refine⟨rfl,⟨by show(S.dK||_)=true;rw[h1];rfl,⟨a2,by show(eO S.D S.J.at' S.J.hi (eV S.D n+1) (bs (df (S.J.seq+1) (bs (dI q))))).1.later.length<1000000;omega,⟨xi.lo,xi.Lr,xi.Rf,by rw[Q6];have:=xi.hi;rw[h2.jg.len] at this;exact this,xi.seq⟩,by show 0<=S.bA/\S.bA<_;omega⟩,Q6,by show S.J.seq<=_;omega,λa b c=>?_⟩,rfl,rfl⟩;rcases hv a b c with hh|hh
   ·exact .inl ⟨_,hd,mb,qs,hh,h3⟩
   ·exact .inr ⟨_,hd,mb,qs++[q],hh,ab0⟩
 ·have e:tK S.D S.J (eV S.D n+1) (bs (dI q))=(S.D,S.J,6):=by
   unfold tK;rw[ag (by rw[h2.dK];decide),ag (by omega),ai (.inl hr)]
  rw[e]
  right;left
  refine⟨rfl,?_,hr⟩;have:(S.dK||(6:Int)==8)=S.dK:=by cases S.dK<;>rfl
  dsimp only;rw[this]
def YW{n:Nat}{S:VS}{m:aA}{g:Nat}{q:jF}(h:VW n S m g)(ny:12<=n)(cQ:n<=4096)(hg:g+3<256)(iq:fk (bo m))(tW:Md.bN m)(hw:kz q=true)(he:fY q=true)(hA:∀a∈q.aB,wD a)(hT:∀t∈q.cm,yJ t):
 ((zi n m S q).2=((bD m q).2.2,(bD m q).1,(bD m q).2.1)/\VW n (zi n m S q).1 (bD m q).2.2 (g+3)/\(zi n m S q).1.J.seq=S.J.seq+1)\/
 (∃e,(e=3\/e=6)/\(zi n m S q).2=(m,e,[])/\VW n (zi n m S q).1 m (g+3)/\(zi n m S q).1.J.seq=S.J.seq)\/
 ((zi n m S q).2=(m,8,[])/\VX n (zi n m S q).1 m (bD m q).2.2 (g+3)/\(zi n m S q).1.J.seq=S.J.seq):=by
 have C4:FJ q:=⟨hw,he,hA,hT⟩;unfold zi;rw[ag (by rw[hw];decide),ag (by rw[h.dK];decide)];have main:∀(S1:VS)(g1:Nat),VW n S1 m g1->g1+1<=g+3->S1.J.seq=S.J.seq->iJ n m S (bs (dI q))=oy S1 (bs (dI q))->
                                          ((if(iJ n m S (bs (dI q))).2≠0 then((iJ n m S (bs (dI q))).1,m,(iJ n m S (bs (dI q))).2,[]) else((iJ n m S (bs (dI q))).1,(bD m q).2.2,(bD m q).1,(bD m q).2.1):VS×aA×Int×List Int)).2=((bD m q).2.2,(bD m q).1,(bD m q).2.1)/\VW n (if(iJ n m S (bs (dI q))).2≠0 then((iJ n m S (bs (dI q))).1,m,(iJ n m S (bs (dI q))).2,[]) else((iJ n m S (bs (dI q))).1,(bD m q).2.2,(bD m q).1,(bD m q).2.1):VS×aA×Int×List Int).1 (bD m q).2.2 (g+3)/\((if(iJ n m S (bs (dI q))).2≠0 then((iJ n m S (bs (dI q))).1,m,(iJ n m S (bs (dI q))).2,[]) else((iJ n m S (bs (dI q))).1,(bD m q).2.2,(bD m q).1,(bD m q).2.1):VS×aA×Int×List Int)).1.J.seq=S.J.seq+1\/
                                          (∃e,(e=3\/e=6)/\((if(iJ n m S (bs (dI q))).2≠0 then((iJ n m S (bs (dI q))).1,m,(iJ n m S (bs (dI q))).2,[]) else((iJ n m S (bs (dI q))).1,(bD m q).2.2,(bD m q).1,(bD m q).2.1):VS×aA×Int×List Int)).2=(m,e,[])/\VW n (if(iJ n m S (bs (dI q))).2≠0 then((iJ n m S (bs (dI q))).1,m,(iJ n m S (bs (dI q))).2,[]) else((iJ n m S (bs (dI q))).1,(bD m q).2.2,(bD m q).1,(bD m q).2.1):VS×aA×Int×List Int).1 m (g+3)/\((if(iJ n m S (bs (dI q))).2≠0 then((iJ n m S (bs (dI q))).1,m,(iJ n m S (bs (dI q))).2,[]) else((iJ n m S (bs (dI q))).1,(bD m q).2.2,(bD m q).1,(bD m q).2.1):VS×aA×Int×List Int)).1.J.seq=S.J.seq)\/
                                          (((if(iJ n m S (bs (dI q))).2≠0 then((iJ n m S (bs (dI q))).1,m,(iJ n m S (bs (dI q))).2,[]) else((iJ n m S (bs (dI q))).1,(bD m q).2.2,(bD m q).1,(bD m q).2.1):VS×aA×Int×List Int)).2=(m,8,[])/\VX n (if(iJ n m S (bs (dI q))).2≠0 then((iJ n m S (bs (dI q))).1,m,(iJ n m S (bs (dI q))).2,[]) else((iJ n m S (bs (dI q))).1,(bD m q).2.2,(bD m q).1,(bD m q).2.1):VS×aA×Int×List Int).1 m (bD m q).2.2 (g+3)/\((if(iJ n m S (bs (dI q))).2≠0 then((iJ n m S (bs (dI q))).1,m,(iJ n m S (bs (dI q))).2,[]) else((iJ n m S (bs (dI q))).1,(bD m q).2.2,(bD m q).1,(bD m q).2.1):VS×aA×Int×List Int)).1.J.seq=S.J.seq):=λS1 g1 ZU LY Ky hva=>by
  rw[hva];rcases DU (q:=q) ZU ny cQ (by omega) C4 with⟨z,a,b,c⟩|⟨z,a,b⟩|⟨z,a,b,c⟩
  ·left
   rw[ag (λhh=>hh z)];exact⟨rfl,a.mono LY,by rw[<-Ky];exact c⟩
  ·right;left
   rw[ai (by rw[z];decide),z,a];exact⟨6,.inr rfl,rfl,ZU.mono (by omega),Ky⟩
  ·right;right
   rw[ai (by rw[z];decide),z];exact⟨rfl,a.mono LY,by rw[<-Ky];exact c⟩
 by_cases hr:room S.J (bs (dI q)).size
 ·exact main S g h (by omega) rfl (by unfold iJ;rw[ai hr])
 ·rcases Ap h ny cQ (by omega) iq tW with⟨z,a,b,c,_⟩|⟨z,a,_⟩|⟨z,a,b,c⟩
  ·exact main (fO n m S).1 (g+2) a (by omega) c (by unfold iJ;rw[ag hr,ag (λhh=>hh z)])
  ·have hva:iJ n m S (bs (dI q))=fO n m S:=by unfold iJ;rw[ag hr,ai (by rw[z];decide)]
   rw[hva,ai (by rw[z];decide)]
   right;left
   exact⟨3,.inl rfl,by rw[z],by rw[a];exact h.mono (by omega),by rw[a]⟩
  ·have hva:iJ n m S (bs (dI q))=fO n m S:=by unfold iJ;rw[ag hr,ai (by rw[z];decide)]
   rw[hva,ai (by rw[z];decide)]
   right;right
   refine⟨by rw[z],⟨a.dK,a.ok,a.len,by show(fO n m S).1.J.seq<=_;have:=a.seq;omega,λx y w=>?_⟩,c⟩
   left
   rcases a.fI x y w with hh|hh
   ·exact hh.mono (by omega)
   ·exact hh.mono (by omega)
def xo{m:aA}{q:jF}(hw:kz q=true)(he:fY q=true):(bD m q).1=0:=by
 have h2:k8 q=true:=by
  have Wl:q.op=1\/q.op=2\/q.op=3:=aQ he;have ha:o9 q=false:=by
   unfold o9;rw[ag (by omega),ag (by omega)]
  unfold kz at hw;rw[ha,Bool.or_false,dW] at hw;exact hw.1
 unfold bD;rw[ag (by rw[h2];decide)];split
 ·rfl
 ·split<;>rfl
def Ru{n:Nat}{S:VS}{m:aA}{g:Nat}{q:jF}(h:VW n S m g)(Tf:600<=n)(cQ:n<=4096)(hg:g+3<256)(iq:fk (bo m))(tW:Md.bN m)(hw:kz q=true)(he:fY q=true)(hA:∀a∈q.aB,wD a)(hT:∀t∈q.cm,yJ t):
 (zi n m S q).2.2.1≠3/\(zi n m S q).2.2.1≠6:=by
 have C4:FJ q:=⟨hw,he,hA,hT⟩;have uX:=yl iq;have hrl:=BC hw he;have hc:=O5 (k:=12+(bs (dI q)).size) (by rw[bY];omega);have ez:=xo (m:=m) hw he;unfold zi;rw[ag (by rw[hw];decide),ag (by rw[h.dK];decide)];have key:(iJ n m S (bs (dI q))).2≠3/\(iJ n m S (bs (dI q))).2≠6:=by
  by_cases hr:room S.J (bs (dI q)).size
  ·have e:iJ n m S (bs (dI q))=oy S (bs (dI q)):=by unfold iJ;rw[ai hr]
   rw[e];rcases DU (q:=q) h (by omega) cQ (by omega) C4 with⟨z,_⟩|⟨_,_,b⟩|⟨z,_⟩
   ·omega
   ·exact aT hr b
   ·omega
  ·rcases Ap h (by omega) cQ (by omega) iq tW with⟨z,a,_,_,b1,b2,b3⟩|⟨_,_,b⟩|⟨z,_⟩
   ·have e:iJ n m S (bs (dI q))=oy (fO n m S).1 (bs (dI q)):=by unfold iJ;rw[ag hr,ag (λhh=>hh z)]
    rw[e];have Bm:120<=S.J.hi-S.J.lo:=by
     obtain⟨_,hd,mb,qs,h2,_⟩:=h;rw[h2.lo,h2.hi];unfold dv;omega
    rcases DU (q:=q) a (by omega) cQ (by omega) C4 with⟨z,_⟩|⟨_,_,b⟩|⟨z,_⟩
    ·omega
    ·refine aT ?_ b;refine⟨by omega,by rw[bY];omega,?_⟩;rw[ao,b1,b3];omega
    ·omega
   ·exact aT (B3 Tf uX) b
   ·have e:iJ n m S (bs (dI q))=fO n m S:=by unfold iJ;rw[ag hr,ai (by rw[z];decide)]
    rw[e];omega
 generalize iJ n m S (bs (dI q))=A at key⊢;by_cases hz:A.2≠0
 ·rw[ai hz];exact key
 ·rw[ag hz];generalize bD m q=B at ez⊢;dsimp only;rw[ez];decide
structure Stp where
 kind:Int
 q:jF
 s:vx
 mask:Int
 torn:Int
 cut:Int
 n:Int
section
variable {x1 x2 x3 x4 x5 x6 x7 x8 x9 DO DN DM DL HT L5 L4 XH XG:Value} {x:Stp}
end
def St.nil{W w:World}{L:LH}(h:St W w L):St W w []:=by
 induction L with
 |nil=>exact h
 |cons A L ih=>exact ih h.drop
instance(priority:=low) Has.nil{L:LH}:Has [] L:=⟨λh=>St.nil h⟩
def Bg(m m2:aA):Prop:=(bo m).aB=(bo m2).aB/\m.ax=m2.ax/\m.clock=m2.clock/\m.ay=m2.ay
instance(m m2:aA):Decidable (Bg m m2):=by unfold Bg;infer_instance
def Bg.refl(m:aA):Bg m m:=⟨rfl,rfl,rfl,rfl⟩
def NY:∀{l:List Nat} {x:Nat},x∈l->x<=l.sum
 |[],x,h=>by cases h
 |y::l,x,h=>by
  rw[List.sum_cons];rcases jB.1 h with h|h
  ·subst h;omega
  ·have:=NY h;omega
section
variable {W:World} {L R M:LH} {K:VK} {X:WK} {q:jF} {s:vx} {p v d n pb pj:Nat} {m m2:aA} {mb kb:OA} {mc kc:Nat} {S:VS} {D:aX} {J:PJ} {hd:fS} {qs:List jF} {g:Nat} {f:aX->LH}
def Jy(G:qF W)(ny:12<=n)(cQ:n<=4096)(hv:VG n D J hd m qs g)(hg:g<256)
 (h:∀v pb pj,Md.bN (ze m qs)->T W (VL v d n pb pj (ze m qs) ⟨D,J,hd.bA,false⟩ R) (K (.tuple ⟨[.p (ah v),.i 0]⟩))):
 T W (gJ d D::R) (mu (ah d) K):=by
 have ho:=hv.jg.opened;have Bn:=hv.lo;have Am:=hv.hi;rw[Bn,Am] at ho;have Gq:=hv.Ie;have hq0:=hv.jg.q0;have Wt:=hv.jg.seq;refine UZ G hv.jg.ok ny cQ hv.jg.len (hv.cg.base hv.jg.len ny cQ) hv.yB hv.ground ⟨hq0,by omega⟩ (qs:=qs) (by rw[ho]) hv.ov λv pb pj rr=>?_;rw[ho];have e:(⟨((2+2* dv n:Nat):Int),(n:Int),J.at',J.seq,false⟩:PJ)=J:=by
  cases J with
  |mk lo hi at' seq dK=>
   have h1:=hv.dK;dsimp only at Bn Am h1;subst Bn Am h1
   rfl
 dsimp only;rw[e];exact h v pb pj rr
def Xx[i:Lc (gJ d) L D f]{mask torn cut:Int}(ix:D.Ok)(hl:D.later.length<1099511627776)(h:T W (f (D.fI mask torn cut)) (K (.tuple ⟨[]⟩))):T W L (mB (ah d) mask torn cut K):=λw hs=>by
 obtain⟨k,hk,e⟩:=i.at_;exact C' hs hk ix λw' h'=>h w' (by rw[e];exact h')
end
def xZ(n:Nat)(m:aA)(S:VS)(q:jF):VS×aA×Int×List Int×List bC×List cE:=
 if fY q=true then((zi n m S q).1,(zi n m S q).2.1,(zi n m S q).2.2.1,(zi n m S q).2.2.2,[],[])
 else(S,m,(ask m q).1,[],(ask m q).2.1,(ask m q).2.2)
def K2{m:aA}{q:jF}(hw:kz q=true)(he:fY q=true):(bD m q).1=0:=xo hw he
def Xi{m:aA}{q:jF}(hg:fk (bo m))(hi:q.ids.length<=16\/o9 q=false\/q.op=6):(ask m q).2.1.length<=10000/\(ask m q).2.2.length<=10000:=by
 unfold ask;split
 ·simp
 ·rename_i kd;have h16:q.op=4\/q.op=5->q.ids.length<=16:=λho=>by
   have Jq:o9 q=true:=by simpa using kd
   unfold o9 at Jq;rw[ai ho,dW,decide_eq_true_eq,decide_eq_true_eq] at Jq;exact Jq.2
  split
  ·rename_i h4;have:=h16 (.inl h4);have h2:=List.length_filterMap_le (bo m).find q.ids;dsimp only;exact⟨by omega,by simp⟩
  ·split
   ·rename_i h5;have:=h16 (.inr h5);have h2:=List.length_filterMap_le (λid=>((bo m).named id).map (·.move)) q.ids;dsimp only;exact⟨by simp,by omega⟩
   ·rw[<-Kb hg];dsimp only;refine⟨by simp,?_⟩;unfold Sr;rw[bP,aD];have h3:((if q.qy=true then(bo m).ax.reverse else(bo m).ax).filter λk=>AX q.jT q.xm k.move.ay&&fits q k).length<=(if q.qy=true then(bo m).ax.reverse else(bo m).ax).length:=List.length_filter_le _ _;have h4:(if q.qy=true then(bo m).ax.reverse else(bo m).ax).length=(bo m).ax.length:=by split<;>simp
    have:=hg.many;omega
section
variable {W:World} {L R M:LH} {K:VK} {X:WK} {q:jF} {s:vx} {p p2 v d n pb pj:Nat} {m m2 m3:aA} {mb kb sh kS:OA} {mc kc sg kR:Nat} {S S2:VS} {D:aX} {J:PJ} {g:Nat}
def Rr{n:Nat}{S:VS}{m:aA}{g:Nat}(h:VW n S m g)(ny:12<=n)(cQ:n<=4096)(hg:g+2<256)(iq:fk (bo m))(tW:Md.bN m):LB (fO n m S).1:=by
 rcases Ap h ny cQ hg iq tW with⟨_,a,_⟩|⟨_,a,_⟩|⟨_,a,_⟩
 ·exact a.ok (by omega)
 ·rw[a];exact h.ok (by omega)
 ·exact a.ok
def BM(n:Nat):VS:=⟨aX.new n,⟨((2+2* dv n:Nat):Int),n,((2+2* dv n:Nat):Int),0,false⟩,0,false⟩
def aaW{n:Nat}(ny:12<=n)(cQ:n<=4096):Rm n 0 (BM n):=by
 have hb:2+2* dv n<=n:=by unfold dv;omega
 refine⟨Fs cQ,λj hj=>?_,rfl,rfl,sH _,by show((2+2* dv n:Nat):Int)<=(n:Int);omega,⟨sH _,by show(0:Int)<=1000000;decide⟩,rfl,rfl,⟨sH _,sH _⟩⟩;show Sep.Ends 0 ((aX.new n).read (j:Int)).1;rw[AU cQ hj];exact Ff
def Nu{n:Nat}(ny:12<=n)(cQ:n<=4096):VW n (BM n) nZ 0:=
 ⟨rfl,DJ,nZ,[],T5 ny cQ,rfl,rfl⟩
def qT:jF:=⟨3,[],[],5,[],0,0,0,false,false,false,0⟩
end
def AE{α σ:Type}(f:σ->α->Int×σ)(lk:α->Bool):∀(n:Nat)(s:σ)(l:List α),(hG f lk n s l).1.length<=l.length
 |0,s,l=>aE _
 |n+1,s,[]=>aE _
 |n+1,s,x::l=>by
  have hle:=uM (linked:=lk) (x::l);have hd:((x::l).drop (cn lk (x::l)).1).length=(x::l).length-(cn lk (x::l)).1:=aS;rw[hG];by_cases hw:(cn lk (x::l)).2=false
  ·rw[ai hw];dsimp only;rw[kv];exact hle
  rw[ag hw];cases ia f s ((x::l).take (cn lk (x::l)).1) 0 with
  |mk o s'=>
   cases o with
   |none=>
    have:=AE f lk n s' ((x::l).drop (cn lk (x::l)).1);dsimp only;rw[au,kv];omega
   |some e=>
    have:=AE f lk n s ((x::l).drop (cn lk (x::l)).1);dsimp only;rw[au,kv];omega
def Fe(m:aA)(q:jF):(bD m q).2.1.length<=q.aB.length+q.cm.length:=by
 unfold bD;split
 ·exact aE _
 ·split
  ·have:=AE aA.make Ai q.aB.length m q.aB;dsimp only;omega
  ·split
   ·have:=AE aA.qL Ah q.cm.length m q.cm;dsimp only;omega
   ·exact aE _
section
variable {W:World} {L R M:LH} {K:VK} {X:WK} {q:jF} {s:vx} {p p2 v d n pb pj:Nat} {m m2 m3:aA} {mb kb sh kS:OA} {mc kc sg kR:Nat} {S S2:VS} {D:aX} {J:PJ} {g:Nat}
end
section
variable {W:World} {L R M:LH} {K:VK} {X:WK} {q:jF} {s:vx} {p p2 v d n pb pj:Nat} {m m2 m3:aA} {mb kb sh kS:OA} {mc kc sg kR:Nat} {S S2:VS} {D:aX} {J:PJ} {g:Nat}
end
def VZ(n:Nat)(S:VS)(m:aA)(g:Nat):Prop:=VW n S m g\/∃mf,VX n S m mf g
section
variable {n g g':Nat} {S:VS} {m mf:aA} {q:jF}
def VX.save(h:VX n S m mf g){m2:aA}:fO n m2 S=(S,9):=by
 unfold fO;rw[ai h.dK]
def VZ.vok(h:VZ n S m g)(hg:g<256):LB S:=by
 rcases h with h|⟨mf,h⟩
 ·exact h.ok hg
 ·exact h.ok
def VZ.abd(h:VZ n S m g)(ny:12<=n)(cQ:n<=4096)(hg:g+2<256)(iq:fk (bo m))(rr:Md.bN m):LB (fO n m S).1:=by
 rcases h with h|⟨mf,h⟩
 ·exact Rr h ny cQ hg iq rr
 ·rw[h.save];exact h.ok
end
section
variable {W:World} {L R R0 R' M:LH} {K:VK} {X:WK} {q:jF} {s:vx} {p p2 v d n pb pj:Nat} {m m2 m3:aA} {mb kb sh kS:OA} {mc kc sg kR:Nat} {S S2:VS} {D:aX} {J:PJ} {g:Nat} {f:aX->LH}
end
def HX(a:bC):bC:={a with dp:=0,dq:=0,cp:=0,cq:=0,ak:=a.ak%8}
def JA{l:List bW}{a:bC}(h:a.dp=0/\a.dq=0/\a.cp=0/\a.cq=0/\0<=a.ak/\a.ak<8):HX (Md.full l a)=a:=by
 obtain⟨h1,h2,h3,h4,h5,h6⟩:=h;cases a
 simp only[HX,Md.full] at *;subst h1 h2 h3 h4
 congr 1
 split<;>omega
def Bg.model{m m2:aA}(h:Bg m m2)(g:Md.bN m)(g2:Md.bN m2):m=m2:=by
 obtain⟨h1,h2,h3,h4⟩:=h;have e:∀m:aA,Md.bN m->(bo m).aB.map HX=m.cy:=λm g=>by
  show(m.cy.map (Md.full m.ax)).map HX=m.cy;rw[oU]
  conv=>rhs;rw[<-List.map_id m.cy]
  exact dS λa ha=>JA (g.zero a ha)
 have h5:=e m g;rw[h1,e m2 g2] at h5;cases m
 cases m2
 dsimp only at h2 h3 h4 h5;subst h2 h3 h4 h5
 rfl
def KI(n:Nat)(S:VS)(m mf:aA)(g:Nat):Prop:=(VW n S m g/\mf=m)\/VX n S m mf g
section
variable {W:World} {L R R0 R' M:LH} {K:VK} {X:WK} {q:jF} {s:vx} {p p2 v d n pb pj:Nat} {m m2 m3 mf:aA} {mb kb sh kS:OA} {mc kc sg kR:Nat} {S S2:VS} {D:aX} {J:PJ} {g:Nat} {f:aX->LH}
def Fl(p:Nat)(m:aA)(pf:Nat)(mf:aA)(L R':LH):Prop:=(pf=p/\mf=m/\R'=L)\/∃fb fc gb gc,R'=ML pf mf fb fc gb gc L
def VC(G:qF W)(ny:12<=n)(cQ:n<=4096)(hv:uV n D m g)(hg:g<256)
 (h:∀v pb pj S,VW n S m g->Md.bN m->T W (VL v d n pb pj m S R) (K (.tuple ⟨[.p (ah v),.i 0]⟩))):T W (gJ d D::R) (mu (ah d) K):=by
 obtain⟨J,hd,mb,qs,h2,rfl⟩:=hv;exact Jy G ny cQ h2 hg λv pb pj rr=>h v pb pj _ ⟨rfl,hd,mb,qs,h2,rfl,rfl⟩ rr
class Ex(L:LH)(i:Nat)(x:outParam HP)(L':outParam (LH)):Prop where
 is:L.Perm (x::L')
instance{L:LH}{x:HP}:Ex (x::L) 0 x L:=⟨.refl _⟩
instance{L L':LH}{x y:HP}{i:Nat}[h:Ex L i x L']:Ex (y::L) (i+1) x (y::L'):=⟨(h.is.cons y).trans (.swap ..)⟩
class Pl(L:LH)(is:List Nat)(M:outParam (LH)):Prop where
 is:L.Perm M
instance{L:LH}:Pl L [] L:=⟨.refl _⟩
instance{L L' M:LH}{i:Nat}{is:List Nat}{x:HP}[h:Ex L i x L'][g:Pl L' is M]:Pl L (i::is) (x::M):=⟨h.is.trans (g.is.cons x)⟩
def T.pl(is:List Nat)[h:Pl L is M](g:T W M X):T W L X:=T.perm g h.is
set_option maxHeartbeats 1000000 in
end
section
variable {n g:Nat} {S:VS} {m mf:aA} {q:jF}
def adr(h:VZ n S m g)(Tf:600<=n)(cQ:n<=4096)(hg:g+3<256)(iq:fk (bo m))(rr:Md.bN m)(hw:kz q=true)(hA:∀a∈q.aB,wD a)(hT:∀t∈q.cm,yJ t):
 (fY q=false/\xZ n m S q=(S,m,(ask m q).1,[],(ask m q).2.1,(ask m q).2.2))\/
 (fY q=true/\S.dK=true/\xZ n m S q=(S,m,9,[],[],[]))\/
 (fY q=true/\S.dK=false/\∃S1,xZ n m S q=(S1,m,8,[],[],[])/\VX n S1 m (bD m q).2.2 (g+3))\/
 (fY q=true/\S.dK=false/\(bD m q).1=0/\∃S1,xZ n m S q=(S1,(bD m q).2.2,0,(bD m q).2.1,[],[])/\VW n S1 (bD m q).2.2 (g+3)/\S1.J.seq=S.J.seq+1):=by
 unfold xZ;cases he:fY q with
 |false=>left;rw[ag (by decide)];exact⟨rfl,rfl⟩
 |true=>
  right
  rw[ai rfl];rcases h with h|⟨mx,h⟩
  ·right
   have ez:=K2 (m:=m) hw he;obtain⟨r1,r2⟩:=Ru h Tf cQ hg iq rr hw he hA hT;rcases YW h (by omega) cQ hg iq rr hw he hA hT with⟨a,b,c⟩|⟨e,ON,a,-⟩|⟨a,b,-⟩
   ·right
    refine⟨rfl,h.dK,ez,(zi n m S q).1,?_,b,c⟩;rw[a];dsimp only;rw[ez]
   ·exfalso;rw[a] at r1 r2;rcases ON with e2|e2
    ·exact r1 e2
    ·exact r2 e2
   ·left
    refine⟨rfl,h.dK,(zi n m S q).1,?_,b⟩;rw[a]
  ·left
   have e:zi n m S q=(S,m,9,[]):=by unfold zi;rw[ag (by rw[hw];decide),ai h.dK]
   rw[e];exact⟨rfl,h.dK,rfl⟩
def Vf(h:VZ n S m g)(Tf:600<=n)(cQ:n<=4096)(hg:g+2<256)(iq:fk (bo m))(rr:Md.bN m):
 (S.dK=true/\fO n m S=(S,9))\/(S.dK=false/\(fO n m S).2=0/\VW n (fO n m S).1 m (g+2)/\(fO n m S).1.bA=S.bA+1/\(fO n m S).1.J.seq=S.J.seq)\/(S.dK=false/\(fO n m S).2=8/\VX n (fO n m S).1 m m (g+2)):=by
 rcases h with h|⟨mx,h⟩
 ·right
  rcases Ap h (by omega) cQ hg iq rr with⟨a,b,c,d,_⟩|⟨_,_,a⟩|⟨a,b,_⟩
  ·exact .inl ⟨h.dK,a,b,c,d⟩
  ·exact aT (B3 Tf (yl iq)) a
  ·exact .inr ⟨h.dK,a,b⟩
 ·exact .inl ⟨h.dK,h.save⟩
def KI.vz(h:KI n S m mf g):VZ n S m g:=by
 rcases h with⟨a,_⟩|a
 ·exact .inl a
 ·exact .inr ⟨_,a⟩
def KI.J8(h:KI n S m mf g)(ny:12<=n)(mask torn cut:Int):∃m0,(m0=m\/m0=mf)/\uV n (S.D.fI mask torn cut) m0 g:=by
 rcases h with⟨a,_⟩|a
 ·exact⟨m,.inl rfl,a.fI ny _ _ _⟩
 ·rcases a.fI mask torn cut with b|b
  ·exact⟨m,.inl rfl,b⟩
  ·exact⟨mf,.inr rfl,b⟩
def KI.tz(h:KI n S m mf g)(ny:12<=n)(k:Int):KI n {S with D:=S.D.tz k} m mf g:=by
 rcases h with⟨a,b⟩|a
 ·exact .inl ⟨a.tz ny k,b⟩
 ·exact .inr (a.tz k)
def KI.mono{g':Nat}(h:KI n S m mf g)(hg:g<=g'):KI n S m mf g':=by
 rcases h with⟨a,b⟩|a
 ·exact .inl ⟨a.mono hg,b⟩
 ·exact .inr (a.mono hg)
end
def St.sps{W w:World}:∀{M L:LH},St W w (vH M::L)->St W w (M++L)
 |[],L,h=>h.drop
 |A::M,L,h=>(St.sps (h.split.perm (.swap ..))).perm iy
def St.GG{W w:World}:∀{M L:LH},St W w (M++L)->St W w (vH M::L)
 |[],L,h=>h.push trivial
 |A::M,L,h=>((St.GG (M:=M) (h.perm iy.symm)).perm (.swap ..)).join
section
variable {W:World} {L M:LH} {X:WK} {α:Type} {f:α->HP} {A:HP} {p:Prop}
def T.sps(h:T W (M++L) X):T W (vH M::L) X:=λw hs=>h w (St.sps hs)
def T.GG(h:T W (vH M::L) X):T W (M++L) X:=λw hs=>h w (St.GG hs)
def T.ex(h:∀x,T W (f x::L) X):T W (Ra f::L) X:=λw hs=>let⟨x,hx⟩:=hs.ex;h x w hx
def T.ZR(x:α)(h:T W (Ra f::L) X):T W (f x::L) X:=λw hs=>h w (.qB x hs)
def T.and(h:p->T W (A::L) X):T W (FC p A::L) X:=λw hs=>h hs.and.1 w hs.and.2
def T.X8(hp:p)(h:T W (FC p A::L) X):T W (A::L) X:=λw hs=>h w (.and_intro hp hs)
def T.foc{P:α->HP}{x:α}{g:α->LH}[i:Lc P L x g](h:∀M,(∀y N Y,T W (N++g y) Y->T W (P y::(N++M)) Y)->T W (P x::M) X):T W L X:=λw hs=>by
 obtain⟨k,hk,e⟩:=i.at_;refine h (L.eraseIdx k) (λy N Y hy w' h'=>hy w' ?_) w (hs.focus hk);rw[e];exact h'.perm (iy.symm.trans ((set_perm hk).append_left N))
end
structure SZ where
 d:Nat
 v:Nat
 pb:Nat
 pj:Nat
def Jn(d v:Nat):LV:=[.p (ah d),.p (ah v)]
instance{d v:Nat}:Gt (Jn d v) 0 (.p (ah d)):=⟨rfl⟩
instance{d v:Nat}:Gt (Jn d v) 1 (.p (ah v)):=⟨rfl⟩
instance{d v v':Nat}:Wr (Jn d v) 1 [.p (ah v')] (Jn d v'):=⟨rfl,by show 2<=2;decide,λu hu=>by simp at hu;subst hu;rfl⟩
def GO(n s:Nat)(x:VS×aA):HP:=Ra λz:SZ=>vH (VL z.v z.d n z.pb z.pj x.2 x.1 [Sep.pt s (Jn z.d z.v)])
def RY(n:Nat)(m:aA)(S:VS)(l:List UInt8):VS×aA×List UInt8:=
 if 16384<l.length then(S,m,su 3 [] [] []) else if rE l=true then((xZ n m S (iL l).1).1,(xZ n m S (iL l).1).2.1,su (xZ n m S (iL l).1).2.2.1 (xZ n m S (iL l).1).2.2.2.1 (xZ n m S (iL l).1).2.2.2.2.1 (xZ n m S (iL l).1).2.2.2.2.2)
 else(S,m,su 4 [] [] [])
section
variable {W:World} {L R M:LH} {K:VK} {X:WK} {q:jF} {n s d v pb pj:Nat} {m m0:aA} {S:VS} {g:VS×aA->LH} {l:List UInt8}
def RB(h:T W (GO n s (S,m)::M) X):T W (VL v d n pb pj m S (Sep.pt s (Jn d v)::M)) X:=
 T.GG (M:=VL v d n pb pj m S [Sep.pt s (Jn d v)]) (T.ZR (f:=λz:SZ=>vH (VL z.v z.d n z.pb z.pj m S [Sep.pt s (Jn z.d z.v)])) ⟨d,v,pb,pj⟩ h)
def DY[i:Lc (GO n s) L (S,m) g](h:∀d v pb pj M,(∀d' v' X1 X0 S' m' N Y,T W (N++g (S',m')) Y->T W (N++(VL v' d' n X1 X0 m' S' (Sep.pt s (Jn d' v')::M))) Y)->T W (VL v d n pb pj m S (Sep.pt s (Jn d v)::M)) X):T W L X:=
 T.foc (P:=GO n s) λM hM=>T.ex λz=>T.sps (M:=VL z.v z.d n z.pb z.pj m S [Sep.pt s (Jn z.d z.v)]) (h z.d z.v z.pb z.pj M λd' v' X1 X0 S' m' N Y hy=>by
  refine T.perm (L:=VL v' d' n X1 X0 m' S' [Sep.pt s (Jn d' v')]++(N++M)) (RB (hM (S',m') N Y hy)) ?_
  show(N++(VL v' d' n X1 X0 m' S' [Sep.pt s (Jn d' v')]++M)).Perm (VL v' d' n X1 X0 m' S' [Sep.pt s (Jn d' v')]++(N++M))
  rw[<-aH,<-aH]
  exact bu.append_right M)
def N6[i:Lc (GO n s) L (S,m) g](h:fk (bo m)->T W L X):T W L X:=by
 refine DY (n:=n) (s:=s) λd v pb pj M hM=>?_;refine qm (p:=pb) (b:=bo m) (hs:=[]) λiq=>?_;refine hM d v pb pj S m [] _ ?_;rw[de,i.same];exact h iq
def Eh[i:Lc (GO n s) L (S,m) g](h:∀p,T W (cO p (bo m,[])::L) (K (.p (ah p)))):T W L (jJ (ah s) K):=by
 refine DY (n:=n) (s:=s) λd v pb pj M hM=>?_;unfold jJ;apply ws;refine Rx λp=>?_;apply ws;refine hM d v pb pj S m [_] _ ?_;rw[i.same];exact h p
def wP[i:Lc (GO n s) L (S,m) g](h:T W L (K (.b S.dK))):T W L (iH (ah s) K):=by
 refine DY (n:=n) (s:=s) λd v pb pj M hM=>?_;unfold iH;apply ws;refine UY ?_;apply ws;refine hM d v pb pj S m [] _ ?_;rw[de,i.same];exact h
def Vh[i:Lc (GO n s) L (S,m) g](ix:LB S)(ny:12<=n)(cQ:n<=4096)(h:T W (g ((fO n m S).1,m)) (K (.i (fO n m S).2))):T W L (pZ (ah s) K):=by
 refine DY (n:=n) (s:=s) λd v pb pj M hM=>?_;unfold pZ;apply ws;refine T9 ix.ok ix.ou ny cQ ix.bA ?_;apply ws;exact hM d v pb pj _ m [] _ h
def Zj[i:Lc (GO n s) L (S,m) g]{k:Int}(h:T W (g ({S with D:=S.D.tz k},m)) (K (.tuple ⟨[]⟩))):T W L (qH (ah s) k K):=by
 refine DY (n:=n) (s:=s) λd v pb pj M hM=>?_;unfold qH;apply ws;refine adI (d:=d) ?_;apply ws;exact hM d v pb pj {S with D:=S.D.tz k} m [] _ h
def R6(G:qF W)[i:Lc (GO n s) L (S,m) g]{mask torn cut:Int}{gg:Nat}(ny:12<=n)(cQ:n<=4096)(ix:LB S)(hv:uV n (S.D.fI mask torn cut) m0 gg)(hgg:gg<256)
 (h:∀S',VW n S' m0 gg->Md.bN m0->T W (g (S',m0)) (K (.i 0))):T W L (pz (ah s) mask torn cut K):=by
 refine DY (n:=n) (s:=s) λd v pb pj M hM=>?_;unfold pz;apply ws;refine Xx (d:=d) ix.ok (by have:=ix.ou;omega) ?_;apply ws;refine T.pl [3] ?_;refine VC G ny cQ hv hgg λv' X1 X0 S' hw aeb=>?_;apply ws;refine mR (by decide) ?_;apply ws;refine T.sub (M:=VL v' d n X1 X0 m0 S' (Sep.pt s (Jn d v')::M)) ?_ (by exact qv);exact hM d v' X1 X0 S' m0 [] _ (h S' hw aeb)
def R7(G:qF W)(ny:12<=n)(cQ:n<=4096)(h:∀s,T W (GO n s (BM n,nZ)::L) (K (.tuple ⟨[.p (ah s),.i 0]⟩))):T W L (qa (n:Int) K):=by
 unfold qa;refine Zy λd=>?_;refine za ?_;refine Jy G (n:=n) ny cQ (T5 ny cQ) (by decide) λv pb pj rr=>?_;show T W (VL v d n pb pj nZ (BM n) L) _;apply ws;refine gL (by decide) ?_;refine HR (d:=d) ?_;refine pF ?_;have e:((BM n).D.safe.length:Int)=(n:Int):=by rw[(Nu ny cQ).len]
 rw[e];unfold qa.j1;refine gL (by simp) ?_;apply ws;intros;rename_i r1;refine T.pl [1,1,1,1] ?_;exact RB (h r1)
def Uy{α:Type}{b:OA}{c e:Nat}{g:α->LV}{xs:List α}{f:HP->LH}[i:ux b xs.length c L e (xs.flatMap g) f](hg:∀x,(g x).length=e):nK W L g e b xs:=λw hw i' x hx=>by
 obtain⟨k,hk,_⟩:=i.at_;obtain⟨hl,h0|⟨r,sp,hb,u1,Bm,hs⟩⟩:=hw.nY hk
 ·have:=(aw.1 hx).1;omega
 ·refine⟨⟨r,0,none⟩,hb,?_⟩;subst hb;rw[gN,aC];exact y7 hw hk (qz hg xs i' x hx)
def W0(hg:fk (bo m))(hw:kz q=true)(CB:q.aB.length<=255)(cf:q.cm.length<=255):(xZ n m S q).2.2.2.1.length<1000000/\(xZ n m S q).2.2.2.2.1.length<1000000/\(xZ n m S q).2.2.2.2.2.length<1000000:=by
 unfold xZ;split
 ·refine⟨?_,by show 0<1000000;decide,by show 0<1000000;decide⟩;have h0:kz q=true:=hw;have hf:=m8 hw;have:=Fe m q;unfold zi;split
  ·show 0<1000000;decide
  split
  ·show 0<1000000;decide
  split
  ·show 0<1000000;decide
  ·show(bD m q).2.1.length<1000000;omega
 ·have hi:q.ids.length<=16\/o9 q=false\/q.op=6:=by
   rename_i he;rcases m8 hw with h|h|h|h|h
   ·exact aT (av (.inl h.1)) he
   ·exact aT (av (.inr (.inl h.1))) he
   ·exact aT (av (.inr (.inr h.1))) he
   ·exact .inl h.2
   ·exact .inr (.inr h.1)
  obtain⟨h1,h2⟩:=Xi hg hi;exact⟨by show 0<1000000;decide,by show(ask m q).2.1.length<_;omega,by show(ask m q).2.2.length<_;omega⟩
def YZ{sl:vx}(G:qF W)(hg:Md.bN m)(hS:LB S)(hS2:LB (fO n m S).1)(ny:12<=n)(cQ:n<=4096)(hq:pC W R q sl)(hA:∀a∈q.aB,wD a)(hT:∀t∈q.cm,yJ t)(CB:q.aB.length<1000000)(cf:q.cm.length<1000000)
 (h:∀rb rc ab ac tb tc,Md.bN (xZ n m S q).2.1->T W (own rb (xZ n m S q).2.2.2.1.length rc 1 ((xZ n m S q).2.2.2.1.flatMap I1)::own ab (xZ n m S q).2.2.2.2.1.length ac 14 ((xZ n m S q).2.2.2.2.1.flatMap aK)::own tb (xZ n m S q).2.2.2.2.2.length tc 16 ((xZ n m S q).2.2.2.2.2.flatMap aL)::VL v d n pb pj (xZ n m S q).2.1 (xZ n m S q).1 R)
  (K (.agg ⟨rD (xZ n m S q).2.2.1 rb (xZ n m S q).2.2.2.1.length rc ab (xZ n m S q).2.2.2.2.1.length ac tb (xZ n m S q).2.2.2.2.2.length tc⟩))):
 T W (VL v d n pb pj m S R) (mr (ah v) (gB q sl) K):=by
 unfold xZ at h;cases he:fY q with
 |true=>
  rw[ai he] at h;refine YY G hg hS hS2 ny cQ hq hA hT CB cf he λrb rc rr=>?_;refine gZ (e:=14) ?_;refine gZ (e:=16) ?_;exact T.pl [2,1,0] (h rb rc none 0 none 0 rr)
 |false=>
  rw[ag (by rw[he];decide)] at h;refine Y0 hq he λab ac tb tc=>?_;refine gZ (e:=1) ?_;exact h none 0 ab ac tb tc hg
def R9(G:qF W)[i:Lc (GO n s) L (S,m) g](hg:Md.bN m)(hS:LB S)(hS2:fk (bo m)->LB (fO n m S).1)(ny:12<=n)(cQ:n<=4096)(hl:l.length<1099511627776)
 (h:Md.bN (RY n m S l).2.1->fk (bo m)->T W (g ((RY n m S l).1,(RY n m S l).2.1)) (K (.s (bs (RY n m S l).2.2)))):T W L (my (ah s) (bs l) K):=by
 refine DY (n:=n) (s:=s) λd v pb pj M hM=>?_;unfold my;refine qm (p:=pb) (b:=bo m) (hs:=[]) λiq=>?_;unfold RY at h;have same:∀l',T W (g (S,m)) (K (.s (bs l')))->T W (VL v d n pb pj m S (Sep.pt s (Jn d v)::M)) (K (.s (bs l'))):=λl' h=>hM d v pb pj S m [] _ h;apply ws;apply fV<;>intro g1
 ·rw[bY] at g1;rw[ai (by omega)] at h;apply ws;refine Rn (xU ?_);exact same _ (h hg iq)
 rw[bY] at g1;rw[ag (by omega)] at h;refine HW hl (λhr=>?_) (λhr A sl hq=>?_)
 ·rw[ag (by rw[hr];decide)] at h;apply ws;intros;refine mR (by decide) ?_;apply ws;refine Rn (xU ?_);exact T.drop (same _ (h hg iq))
 ·rw[ai hr] at h;obtain⟨o1,o2,o3,o4⟩:=Eo l;apply ws;intros;rename_i r1;refine gL (by decide) ?_;apply ws;refine T.pl [2,2,2,2] ?_;have CB:(iL l).1.aB.length<1000000:=by omega
  have cf:(iL l).1.cm.length<1000000:=by omega
  have hqR:pC W (Sep.pt r1 (gB (iL l).1 sl)::A::Sep.pt s (Jn d v)::M) (iL l).1 sl:=pC.two hq;have len:=W0 (n:=n) (S:=S) iq (yq hr) o3 o4;clear o3 o4;generalize (iL l).1=q at o1 o2 CB cf hqR len h⊢;refine YZ G hg hS (hS2 iq) ny cQ hqR o1 o2 CB cf λrb rc ab ac tb tc acg=>?_;generalize xZ n m S q=Z at len acg h⊢;refine CX (by rfl) ?_;refine Ju (hh:=Has.refl) (Uy (λ_=>rfl)) (Uy (λ_=>rfl)) (Uy (λ_=>rfl)) len.1 len.2.1 len.2.2 ?_;refine xU ?_;refine T.sub (M:=VL v d n pb pj Z.2.1 Z.1 (Sep.pt s (Jn d v)::M)) (hM d v pb pj Z.1 Z.2.1 [] _ (h acg iq)) (by exact qv)
end
structure TS where
 kind:Int
 b:List UInt8
 mask:Int
 torn:Int
 cut:Int
 n:Int
def TS.q(x:TS):jF:=(iL x.b).1
def TS.wr(x:TS):Prop:=x.kind=0/\rE x.b=true/\fY x.q=true
inductive u2(x:TS)(S:VS)(m mf:aA)(g:Nat):VS->aA->aA->Prop where
 |none (h0:x.wr->S.dK=true) (h1:x.kind=1->S.dK=true) (h2:x.kind≠2) (h3:x.kind≠3):u2 x S m mf g S m mf
 |did (h:x.wr) (hs:S.dK=false) (S1:VS) (e:xZ 600 m S x.q=(S1,(bD m x.q).2.2,0,(bD m x.q).2.1,[],[])) (v:VW 600 S1 (bD m x.q).2.2 (g+3)) (e2:S1.J.seq=S.J.seq+1):u2 x S m mf g S1 (bD m x.q).2.2 (bD m x.q).2.2
 |aaj (h:x.wr) (hs:S.dK=false) (S1:VS) (e:xZ 600 m S x.q=(S1,m,8,[],[],[])) (v:VX 600 S1 m (bD m x.q).2.2 (g+3)):u2 x S m mf g S1 m (bD m x.q).2.2
 |saved (h:x.kind=1) (hs:S.dK=false) (e:(fO 600 m S).2=0) (v:VW 600 (fO 600 m S).1 m (g+2)):u2 x S m mf g (fO 600 m S).1 m mf
 |Ef (h:x.kind=1) (hs:S.dK=false) (e:(fO 600 m S).2=8) (v:VX 600 (fO 600 m S).1 m m (g+2)):u2 x S m mf g (fO 600 m S).1 m mf
 |J8 (h:x.kind=2) (m0:aA) (hm:m0=m\/m0=mf) (S1:VS) (v:VW 600 S1 m0 g):u2 x S m mf g S1 m0 m0
 |arm (h:x.kind=3):u2 x S m mf g {S with D:=S.D.tz x.n} m mf
section
variable {x:TS} {S S':VS} {m mf m' EO:aA} {g n:Nat} {q:jF} {P:aA->Prop}
def KI.same(h:KI n S m mf g)(hs:S.dK=false):mf=m/\VW n S m g:=by
 rcases h with⟨a,b⟩|a
 ·exact⟨b,a⟩
 ·have:=a.dK;rw[hs] at this;cases this
def u2.ki(w:u2 x S m mf g S' m' EO)(h:KI 600 S m mf g):KI 600 S' m' EO (g+3):=by
 cases w with
 |none _ _ _ _=>exact h.mono (by omega)
 |did _ _ _ _ v _=>exact .inl ⟨v,rfl⟩
 |aaj _ _ _ _ v=>exact .inr v
 |saved _ hs _ v=>exact .inl ⟨v.mono (by omega),(h.same hs).1⟩
 |Ef _ hs _ v=>rw[(h.same hs).1];exact .inr (v.mono (by omega))
 |J8 _ _ _ _ v=>exact .inl ⟨v.mono (by omega),rfl⟩
 |arm _=>exact(h.tz (by decide) _).mono (by omega)
def u2.inv(w:u2 x S m mf g S' m' EO)(hP:∀q,P m->P (bD m q).2.2)(h:P m)(hf:P mf):P m'/\P EO:=by
 cases w with
 |none _ _ _ _=>exact⟨h,hf⟩
 |did _ _ _ _ _ _=>exact⟨hP _ h,hP _ h⟩
 |aaj _ _ _ _ _=>exact⟨h,hP _ h⟩
 |saved _ _ _ _=>exact⟨h,hf⟩
 |Ef _ _ _ _=>exact⟨h,hf⟩
 |J8 _ m0 hm _ _=>rcases hm with e|e<;>subst e<;>first|exact⟨h,h⟩|exact⟨hf,hf⟩
 |arm _=>exact⟨h,hf⟩
def KI.OS:KI 600 (BM 600) nZ nZ 0:=.inl ⟨Nu (by decide) (by decide),rfl⟩
def abz(h:Rm n g S)(Ky:S.J.seq<1000000)(hn:600<=n/\n<=4096)(hg:g+3<256)(iq:fk (bo m))(hw:kz q=true):Rm n (g+3) (xZ n m S q).1/\(fY q=true->(xZ n m S q).2.2.1=0):=by
 unfold xZ;cases he:fY q with
 |false=>
  rw[ag (by decide)];exact⟨h.mono (by omega),λhh=>by cases hh⟩
 |true=>
  rw[ai rfl];have uX:=yl iq;have hrl:=BC hw he;have hc:=O5 (k:=12+(bs (dI q)).size) (by rw[bY];omega);have Bp:=h.Lr;have Bn:=h.lo;have Am:=h.hi;have Bm:120<=S.J.hi-S.J.lo:=by rw[Bn,Am];unfold dv;omega
  have ez:=xo (m:=m) hw he;obtain⟨a1,a2,a3,a4⟩:=Pn (m:=m) (s:=bs (dI q)) h hn.2 (by omega) hg (B3 hn.1 uX) (by omega) Ky (by rw[bY];omega) (by omega);unfold zi;rw[ag (by rw[hw];decide),ag (by rw[h.dK];decide),ag (λhh=>hh a1)];dsimp only;refine⟨?_,λ_=>ez⟩;rcases a4 with⟨b1,_⟩|⟨b1,_⟩
  ·exact b1.mono (by omega)
  ·exact b1
end
def OU{m:aA}(h:RM m):∀a∈m.cy.map m.full,wD a:=λa ha=>by
 obtain⟨b,hb,rfl⟩:=cw.1 ha;rw[h.ground.full hb];have h1:=h.cy b hb;obtain⟨z1,z2,z3,z4,z5,z6⟩:=h.ground.zero b hb;have d:=h.ground.xq b hb;have c:=h.ground.tX b hb;refine⟨h1.id,?_,?_,?_,?_,h1.aZ,h1.code,?_,h1.ay⟩
 ·show b.dp+_<_;omega
 ·show b.dq+_<_;omega
 ·show b.cp+_<_;omega
 ·show b.cq+_<_;omega
 ·show uU (if _ then b.ak else b.ak%8+8);have e:0<=b.ak%8+8/\b.ak%8+8<=15:=by omega
  unfold uU;split
  ·omega
  ·exact⟨Int.le_trans (by decide) e.1,Int.le_trans e.2 (by decide)⟩
def PK(m:aA)(q:jF):List UInt8:=if fY q=true then su (bD m q).1 (bD m q).2.1 [] [] else su (uS (m.cy.map m.full) m.ax q).1 [] (uS (m.cy.map m.full) m.ax q).2.1 (uS (m.cy.map m.full) m.ax q).2.2
def Mr(m:aA)(q:jF):aA:=if fY q=true then(bD m q).2.2 else m
def DX(m:aA)(l:List UInt8):List UInt8:=if rE l=true then PK m (iL l).1 else su 4 [] [] []
def Bq(m:aA)(l:List UInt8):aA:=if rE l=true then Mr m (iL l).1 else m
def yg(l:List UInt8):Bool:=rE l&&fY (iL l).1
def zY{α β:Type}{f:α->List β}{k:Nat}(h:∀x,(f x).length<=k):∀l:List α,(l.flatMap f).length<=l.length* k
 |[]=>by simp
 |x::l=>by
  have:=h x;have:=zY h l;rw[iB,au,bt,lO];omega
def TU{al:List bC}{kl:List bW}{q:jF}:(∀a∈(uS al kl q).2.1,a∈al)/\(∀t∈(uS al kl q).2.2,∃k∈kl,k.move=t):=by
 unfold uS;split
 ·exact⟨λa h=>(by cases h),λa h=>(by cases h)⟩
 split
 ·refine⟨λa h=>?_,λa h=>(by cases h)⟩;obtain⟨id,_,h2⟩:=List.mem_flatMap.1 h;exact(pU.1 h2).1
 split
 ·refine⟨λa h=>(by cases h),λa h=>?_⟩;obtain⟨id,_,h2⟩:=List.mem_flatMap.1 h;obtain⟨k,hk,e⟩:=cw.1 h2;exact⟨k,(pU.1 hk).1,e⟩
 ·refine⟨λa h=>(by cases h),λa h=>?_⟩;obtain⟨k,hk,e⟩:=cw.1 h;have:=(pU.1 (List.mem_of_mem_take hk)).1;refine⟨k,?_,e⟩;split at this
  ·exact List.mem_reverse.1 this
  ·exact this
def TV{al:List bC}{kl:List bW}{q:jF}(hw:kz q=true)(hx:fY q=false)(ha:al.length<=100)(hk:kl.length<=100):(uS al kl q).2.1.length<1000000/\(uS al kl q).2.2.length<1000000:=by
 have Wl: ¬(q.op=1\/q.op=2\/q.op=3):=bj hx;have hf:=m8 hw;unfold uS;split
 ·exact⟨by show 0<_;decide,by show 0<_;decide⟩
 split
 ·refine⟨?_,by show 0<_;decide⟩;have h2:=zY (f:=λid=>al.filter λa=>decide (a.id=id)) (k:=100) (λid=>y9 (List.length_filter_le _ _) ha) q.ids;have:q.ids.length<=16:=by rcases hf with h|h|h|h|h<;>first|exact h.2|omega
  show(q.ids.flatMap λid=>al.filter λa=>decide (a.id=id)).length<_;omega
 split
 ·refine⟨by show 0<_;decide,?_⟩;have h2:=zY (f:=λid=>(kl.filter λk=>decide (k.move.id=id)).map (·.move)) (k:=100) (λid=>by rw[bP];exact y9 (List.length_filter_le _ _) hk) q.ids;have:q.ids.length<=16:=by rcases hf with h|h|h|h|h<;>first|exact h.2|omega
  show(q.ids.flatMap λid=>(kl.filter λk=>decide (k.move.id=id)).map (·.move)).length<_;omega
 ·refine⟨by show 0<_;decide,?_⟩;show(List.map _ (List.take _ _)).length<_;rw[bP,aD];have:q.kE<=16:=by rcases hf with h|h|h|h|h<;>first|exact h.2.2.2.2|omega
  omega
section
variable {W:World} {L R M:LH} {K:VK} {X:WK} {q:jF} {s:vx} {p:Nat} {m:aA} {mb kb:OA} {mc kc:Nat} {l:List UInt8}
def Mt(hm:RM m)(hw:kz q=true)(hq:pC W R q s)(CB:q.aB.length<=255)(cf:q.cm.length<=255)(hA:∀a∈q.aB,wD a)(hT:∀t∈q.cm,yJ t)
 (h:∀p2 sh sg kS kR R',Bk p m mb mc kb kc R p2 (Mr m q) sh sg kS kR R'->RM (Mr m q)->T W (ML p2 (Mr m q) sh sg kS kR R') (K (.tuple ⟨[.s (bs (PK m q)),.p (ah p2)]⟩))):
 T W (ML p m mb mc kb kc R) (nq (ah p) (gB q s) K):=by
 have hmf:=hm.ou;have hmm:=hm.many;unfold nq;apply ws;intros;rename_i r1;refine Cr ?_;unfold PK Mr at h;cases he:fY q with
 |true=>
  rw[ai he,ai he] at h;apply ws;refine PO (R:=R) hq (by omega) (by omega) ?_;rw[hw];apply ws;refine T.pl [1,1,1] ?_;refine Vw hm ⟨hq.aB.mono,hq.cm.mono,hq.ids.mono,hq.ca,hq.ct,hq.ci⟩ (by omega) (by omega) (λ_=>hA) (λ_=>hT) λp2 sh sg kS kR ob oc R' Bo MQ=>?_;have hlen:=Fe m q;refine abf ?_;refine wL ?_;refine pF ?_;refine za ?_;refine zL (hh:=Has.refl) (ab:=none) (tb:=none) (ac:=0) (tc:=0) (al:=[]) (tl:=[]) (Uy (λ_=>rfl)) nK.nil nK.nil (by omega) (by decide) (by decide) (λa h=>by cases h) (λa h=>by cases h) ?_;refine xU ?_;rcases Bo with⟨rfl,rfl,LR,rfl,rfl,rfl,rfl⟩|rfl
  ·exact T.sub (h p2 sh sg kS kR R (.inl ⟨rfl,rfl,LR,rfl,rfl,rfl,rfl⟩) MQ) (by exact qv)
  ·exact T.sub (h p2 sh sg kS kR _ (.inr rfl) MQ) (by exact qv)
 |false=>
  rw[ag (by rw[he];decide),ag (by rw[he];decide)] at h;have h:=h p mb mc kb kc R (.inl ⟨rfl,rfl,rfl,rfl,rfl,rfl,rfl⟩) hm;apply ws;refine T.pl [1,1,1] ?_;refine Cq (by omega) (by omega) hm.Zq hm.rkK λob oc=>?_;apply ws;have Qo:m.cy.length=(m.cy.map m.full).length:=(bP _).symm;have aeu:(m.cy.map m.full).length<=100:=by rw[bP];omega
  rw[Qo];refine Mu (R:=R) (al:=m.cy.map m.full) (kl:=m.ax) hq (by omega) (by omega) λb1 c1 b2 c2=>?_;obtain⟨m1,m2⟩:=TU (al:=m.cy.map m.full) (kl:=m.ax) (q:=q);obtain⟨l1,l2⟩:=TV hw he aeu (by omega:m.ax.length<=100);have hA2:∀a∈(uS (m.cy.map m.full) m.ax q).2.1,wD a:=λa ha=>OU hm a (m1 a ha);have UQ:∀t∈(uS (m.cy.map m.full) m.ax q).2.2,yJ t:=λt ht=>by
   obtain⟨k,hk,e⟩:=m2 t ht;rw[<-e];exact(hm.ax k hk).move
  generalize uS (m.cy.map m.full) m.ax q=Z at l1 l2 hA2 UQ h⊢;apply ws;refine zL (hh:=Has.refl) (rb:=none) (rc:=0) (res:=[]) nK.nil (Uy (λ_=>rfl)) (Uy (λ_=>rfl)) (by decide) l1 l2 hA2 UQ ?_;apply ws;refine T.sub h (by exact qv)
end
def Bk.less{p p2:Nat}{m m2:aA}{mb kb sh kS:OA}{mc kc sg kR:Nat}{A B:HP}{R R':LH}{W:World}{X:WK}(hb:Bk p m mb mc kb kc (A::B::R) p2 m2 sh sg kS kR R')
 (h:∀R2,Bk p m mb mc kb kc R p2 m2 sh sg kS kR R2->T W (ML p2 m2 sh sg kS kR R2) X):T W (ML p2 m2 sh sg kS kR R') X:=by
 rcases hb with⟨rfl,rfl,LR,rfl,rfl,rfl,rfl⟩|rfl
 ·exact T.sub (h R (.inl ⟨rfl,rfl,LR,rfl,rfl,rfl,rfl⟩)) (by exact qv)
 ·exact T.sub (h _ (.inr rfl)) (by exact qv)
section
variable {W:World} {L R M:LH} {K:VK} {X:WK} {q:jF} {s:vx} {p:Nat} {m:aA} {mb kb:OA} {mc kc:Nat} {l:List UInt8}
def Ma(hm:RM m)(hl:l.length<1099511627776)
 (h:∀p2 sh sg kS kR R',Bk p m mb mc kb kc R p2 (Bq m l) sh sg kS kR R'->RM (Bq m l)->T W (ML p2 (Bq m l) sh sg kS kR R') (K (.tuple ⟨[.s (bs (DX m l)),.p (ah p2),.b (yg l)]⟩))):
 T W (ML p m mb mc kb kc R) (oQ (ah p) (bs l) K):=by
 unfold oQ;unfold Bq DX yg at h;refine HW hl (λhr=>?_) (λhr A sl hq=>?_)
 ·rw[ag (by rw[hr];decide),ag (by rw[hr];decide),hr] at h;have h:=h p mb mc kb kc R (.inl ⟨rfl,rfl,rfl,rfl,rfl,rfl,rfl⟩) hm;apply ws;intros;refine mR (by decide) ?_;refine uE ?_;apply ws;exact T.drop h
 ·rw[ai hr,ai hr,hr] at h;obtain⟨o1,o2,o3,o4⟩:=Eo l;have hw:=yq hr;apply ws;intros;rename_i r1;refine gL (by decide) ?_;apply ws;refine T.pl [2,2,2] ?_;have hqR:pC W (Sep.pt r1 (gB (iL l).1 sl)::A::R) (iL l).1 sl:=pC.two hq;generalize (iL l).1=q at o1 o2 o3 o4 hw hqR h⊢;refine Mt hm hw hqR o3 o4 o1 o2 λp2 sh sg kS kR R' Bo MQ=>?_;have hL:∃g,Lc (Sep.pt r1) R' (gB q sl) g:=by
   rcases Bo with⟨rfl,-⟩|rfl
   ·exact⟨_,inferInstance⟩
   ·exact⟨_,inferInstance⟩
  obtain⟨g,hL⟩:=hL;apply ws;refine Cr ?_;apply ws;exact Bk.less Bo λR2 wm=>h p2 sh sg kS kR R2 wm MQ
end
def wC(s p pf:Nat):LV:=[.p (ah s),.p (ah p),.p (ah pf)]
section
variable {s p pf p':Nat}
instance:Gt (wC s p pf) 0 (.p (ah s)):=⟨rfl⟩
instance:Gt (wC s p pf) 1 (.p (ah p)):=⟨rfl⟩
instance:Gt (wC s p pf) 2 (.p (ah pf)):=⟨rfl⟩
instance:Wr (wC s p pf) 1 [.p (ah p')] (wC s p' pf):=⟨rfl,by show 2<=3;decide,λu hu=>by simp at hu;subst hu;rfl⟩
instance:Wr (wC s p pf) 2 [.p (ah p')] (wC s p p'):=⟨rfl,by show 3<=3;decide,λu hu=>by simp at hu;subst hu;rfl⟩
end
structure WZ where
 s:Nat
 p:Nat
 pf:Nat
 mb:OA
 mc:Nat
 kb:OA
 kc:Nat
structure WX where
 S:VS
 ms:aA
 m:aA
 mf:aA
abbrev Jm(w:Nat)(z:WZ)(x:WX)(R:LH):LH:=Sep.pt w (wC z.s z.p z.pf)::GO 600 z.s (x.S,x.ms)::ML z.p x.m z.mb z.mc z.kb z.kc R
def wd(w:Nat)(x:WX):HP:=Ra λy:WZ×LH=>FC (Fl y.1.p x.m y.1.pf x.mf [] y.2/\RM x.m/\RM x.mf) (vH (Jm w y.1 x y.2))
section
variable {W:World} {L R M:LH} {K:VK} {X:WK} {w:Nat} {x:WX} {f:WX->LH}
def Fl.app{p pf:Nat}{m mf:aA}{E:LH}(h:Fl p m pf mf [] E):Fl p m pf mf M (E++M):=by
 rcases h with⟨a,b,rfl⟩|⟨fb,fc,gb,gc,rfl⟩
 ·exact .inl ⟨a,b,rfl⟩
 ·exact .inr ⟨fb,fc,gb,gc,rfl⟩
def Fl.XK{p pf:Nat}{m mf:aA}{R':LH}(h:Fl p m pf mf M R'):∃E,Fl p m pf mf [] E/\R'=E++M:=by
 rcases h with⟨a,b,rfl⟩|⟨fb,fc,gb,gc,rfl⟩
 ·exact⟨[],.inl ⟨a,b,rfl⟩,rfl⟩
 ·exact⟨_,.inr ⟨fb,fc,gb,gc,rfl⟩,rfl⟩
def Y4[i:Lc (wd w) L x f](h:∀z M R',Fl z.p x.m z.pf x.mf M R'->RM x.m->RM x.mf->(∀z' x' L1 N Y,Fl z'.p x'.m z'.pf x'.mf M L1->RM x'.m->RM x'.mf->T W (N++f x') Y->T W (N++Jm w z' x' L1) Y)->T W (Jm w z x R') X):T W L X:=
 T.foc (P:=wd w) λM hM=>T.ex λy=>T.and λ⟨h1,h2,h3⟩=>T.sps (M:=Jm w y.1 x y.2) (h y.1 M (y.2++M) h1.app h2 h3 λz' x' L1 N Y hf k1 k2 hy=>by
  obtain⟨E,hE,rfl⟩:=hf.XK
  refine T.perm (L:=Jm w z' x' E++(N++M)) (T.GG (M:=Jm w z' x' E) (T.X8 (p:=Fl z'.p x'.m z'.pf x'.mf [] E/\RM x'.m/\RM x'.mf) ⟨hE,k1,k2⟩ (T.ZR (f:=λy:WZ×LH=>FC (Fl y.1.p x'.m y.1.pf x'.mf [] y.2/\RM x'.m/\RM x'.mf) (vH (Jm w y.1 x' y.2))) (z',E) (hM x' N Y hy)))) ?_
  show(N++(Jm w z' x' E++M)).Perm (Jm w z' x' E++(N++M))
  rw[<-aH,<-aH]
  exact bu.append_right M)
def abb[i:Lc (wd w) L x f](h:fk (bo x.ms)->RM x.m->RM x.mf->T W L X):T W L X:=by
 refine Y4 (w:=w) λz M R' hf h2 h3 hM=>?_;refine N6 (n:=600) (s:=z.s) λhg=>?_;refine hM z x R' [] _ hf h2 h3 ?_;rw[de,i.same];exact h hg h2 h3
def Rq[i:Lc (wd w) L x f]{F:OA->WK}(h:∀p,T W (cO p (bo x.ms,[])::L) (F (ah p))):T W L (lP ⟨w,0,none⟩ λs=>jJ s (xP F)):=by
 refine Y4 (w:=w) λz M R' hf h2 h3 hM=>?_;apply ws;refine Eh (n:=600) (s:=z.s) λp=>?_;refine za ?_;refine hM z x R' [_] _ hf h2 h3 ?_;rw[i.same];exact h p
end
def GU{S:VS}{ms Bl:aA}{g:Nat}{l:List UInt8}(hk:KI 600 S ms Bl g)(hg:g+3<256)(iq:fk (bo ms))(rr:Md.bN ms)(hl:l.length<=16384):
 (yg l=false/\RY 600 ms S l=(S,ms,DX ms l))\/
 (yg l=true/\S.dK=true/\RY 600 ms S l=(S,ms,su 9 [] [] []))\/
 (yg l=true/\S.dK=false/\∃S1,xZ 600 ms S (iL l).1=(S1,ms,8,[],[],[])/\RY 600 ms S l=(S1,ms,su 8 [] [] [])/\VX 600 S1 ms (bD ms (iL l).1).2.2 (g+3))\/
 (yg l=true/\S.dK=false/\∃S1,xZ 600 ms S (iL l).1=(S1,(bD ms (iL l).1).2.2,0,(bD ms (iL l).1).2.1,[],[])/\RY 600 ms S l=(S1,(bD ms (iL l).1).2.2,DX ms l)/\
  VW 600 S1 (bD ms (iL l).1).2.2 (g+3)/\S1.J.seq=S.J.seq+1/\DX ms l=su 0 (bD ms (iL l).1).2.1 [] []/\rC 0 (bD ms (iL l).1).2.1 [] []=true):=by
 obtain⟨o1,o2,o3,o4⟩:=Eo l;unfold RY DX yg;rw[ag (by omega)];cases hr:rE l with
 |false=>left;exact⟨rfl,by rw[ag (by decide),ag (by decide)]⟩
 |true=>
  have hw:=yq hr;rw[ai rfl,ai rfl];generalize (iL l).1=q at o1 o2 o3 o4 hw⊢;rcases adr (q:=q) hk.vz (by decide) (by decide) hg iq rr hw o1 o2 with⟨a,b⟩|⟨a,b,c⟩|⟨a,b,S1,c,d⟩|⟨a,b,c,S1,d,e,e2⟩
  ·left
   refine⟨by rw[a];rfl,?_⟩;have aer:uS (ms.cy.map ms.full) ms.ax q=ask ms q:=by
    rw[<-Xj iq];have:ms.cy.map ms.full=(bo ms).aB:=dS λa ha=>rr.full ha;rw[this];rfl
   unfold PK;rw[b,ag (by rw[a];decide),aer]
  ·right;left
   exact⟨by rw[a];rfl,b,by rw[c]⟩
  ·right;right;left
   exact⟨by rw[a];rfl,b,S1,c,by rw[c],d⟩
  ·right;right;right
   have he:k8 q=true:=by
    have Wl:q.op=1\/q.op=2\/q.op=3:=aQ a;unfold kz at hw;have:o9 q=false:=by unfold o9;rw[ag (by omega),ag (by omega)]
    rw[this,Bool.or_false,dW] at hw;exact hw.1
   have hf:=K4 (m:=ms) rr he;rw[c] at hf;have e3:PK ms q=su 0 (bD ms q).2.1 [] []:=by unfold PK;rw[ai a,c]
   exact⟨by rw[a];rfl,b,S1,d,by rw[d,e3],e,e2,e3,hf⟩
def Cg(x:TS):LV:=[.i x.kind,.s (bs x.b),.u x.mask,.i x.torn,.i x.cut,.i x.n]
section
variable {x:TS} {x1 x2 x3 x4 x5 x6:Value}
instance:Ln (Cg x) 6:=⟨rfl⟩
instance:Gt (Cg x) 0 (.i x.kind):=⟨rfl⟩
instance:Gt (Cg x) 1 (.s (bs x.b)):=⟨rfl⟩
instance:Gt (Cg x) 2 (.u x.mask):=⟨rfl⟩
instance:Gt (Cg x) 3 (.i x.torn):=⟨rfl⟩
instance:Gt (Cg x) 4 (.i x.cut):=⟨rfl⟩
instance:Gt (Cg x) 5 (.i x.n):=⟨rfl⟩
def U2(x:TS):∀v∈Cg x,v.oneCell'=true:=λv hv=>by simp[Cg] at hv;rcases hv with rfl|rfl|rfl|rfl|rfl|rfl<;>rfl
instance:Wr [x1,x2,x3,x4,x5,x6] 0 (Cg x) (Cg x):=⟨rfl,aG _,U2 x⟩
instance:Sub (Cg x) 0 6 (Cg x):=⟨rfl,λj v h=>by rw[aC];exact h⟩
end
section
variable {W:World} {L R R' M:LH} {K:VK} {X:WK} {w:Nat} {x:WX} {f:WX->LH} {p p3 pf:Nat} {m m3 mf:aA} {mb Dn kb Ds:OA} {mc Dm kc Dr:Nat} {R3:LH} {A B C:HP}
def Nx(p:Nat)(m:aA)(mb:OA)(mc:Nat)(kb:OA)(kc p3:Nat)(m3:aA)(Dn:OA)(Dm:Nat)(Ds:OA)(Dr:Nat)(R' R3:LH):Prop:=
 (p3=p/\m3=m/\Dn=mb/\Dm=mc/\Ds=kb/\Dr=kc/\R3=R')\/R3=ML p m mb mc kb kc R'
def Nx.both(hn:Nx p m mb mc kb kc p3 m3 Dn Dm Ds Dr R' R3)(hf:Fl p m pf mf M R')(h:T W (A::B::ML p3 m3 Dn Dm Ds Dr M) X):T W (A::B::ML p3 m3 Dn Dm Ds Dr R3) X:=by
 rcases hn with⟨_,_,_,_,_,_,rfl⟩|rfl
 ·rcases hf with⟨_,_,rfl⟩|⟨fb,fc,gb,gc,rfl⟩
  ·exact h
  ·exact T.sub h (by exact qv)
 ·rcases hf with⟨_,_,rfl⟩|⟨fb,fc,gb,gc,rfl⟩
  ·exact T.sub h (by exact qv)
  ·exact T.sub h (by exact qv)
def Nx.may(hn:Nx p m mb mc kb kc p3 m3 Dn Dm Ds Dr R' R3)(hf:Fl p m pf mf M R')(h:∀R4,Fl p m p3 m3 M R4->T W (A::B::ML p m mb mc kb kc R4) X):T W (A::B::ML p3 m3 Dn Dm Ds Dr R3) X:=by
 rcases hn with⟨rfl,rfl,rfl,rfl,rfl,rfl,rfl⟩|rfl
 ·have h:=h M (.inl ⟨rfl,rfl,rfl⟩);rcases hf with⟨_,_,rfl⟩|⟨fb,fc,gb,gc,rfl⟩
  ·exact h
  ·exact T.sub h (by exact qv)
 ·have h:=h _ (.inr ⟨Dn,Dm,Ds,Dr,rfl⟩);rcases hf with⟨_,_,rfl⟩|⟨fb,fc,gb,gc,rfl⟩
  ·exact T.pl [0,0,3,3,3] h
  ·exact T.pl [0,0,3,3,3] (T.sub h (by exact qv))
def Nx.none(hn:Nx p m mb mc kb kc p3 m3 Dn Dm Ds Dr R' R3)(hf:Fl p m pf mf M R')(h:∀R4,Fl p m pf mf M R4->T W (A::B::ML p m mb mc kb kc R4) X):T W (A::B::ML p3 m3 Dn Dm Ds Dr R3) X:=by
 rcases hn with⟨rfl,rfl,rfl,rfl,rfl,rfl,rfl⟩|rfl
 ·exact h _ hf
 ·exact T.sub (h _ hf) (by exact qv)
def Nx.one(hn:Nx p m mb mc kb kc p3 m3 Dn Dm Ds Dr R' R3)(hf:Fl p m pf mf M R')(h:∀R4,Fl p3 m3 pf mf M R4->T W (A::B::ML p3 m3 Dn Dm Ds Dr R4) X):T W (A::B::ML p3 m3 Dn Dm Ds Dr R3) X:=by
 rcases hn with⟨rfl,rfl,rfl,rfl,rfl,rfl,rfl⟩|rfl
 ·exact h _ hf
 ·rcases hf with⟨rfl,rfl,rfl⟩|⟨fb,fc,gb,gc,rfl⟩
  ·exact h _ (.inr ⟨mb,mc,kb,kc,rfl⟩)
  ·exact T.sub (h _ (.inr ⟨fb,fc,gb,gc,rfl⟩)) (by exact qv)
end
def vS(a b:List UInt8):py (bs a) (bs b)=decide (a=b):=by
 rw[sr,decide_eq_decide];exact Ae
def Po{m:aA}{l:List UInt8}(h:yg l=false):Bq m l=m:=by
 unfold Bq;split
 ·rename_i hr;unfold yg at h;rw[hr,dV] at h;unfold Mr;rw[ag (by rw[h];decide)]
 ·rfl
def GJ{m:aA}{l:List UInt8}(h:yg l=true):Bq m l=(bD m (iL l).1).2.2:=by
 unfold yg at h;rw[dW] at h;unfold Bq Mr;rw[ai h.1,ai h.2]
section
variable {W:World} {L R R' M:LH} {K:VK} {X:WK} {w:Nat} {f:WX->LH} {p p3 pf:Nat} {m m3 mf:aA} {mb Dn kb Ds:OA} {mc Dm kc Dr:Nat} {R3:LH} {A B C:HP} {S:VS} {ms Bl:aA} {g:Nat} {x:TS}
def Bk.nx(hb:Bk p m mb mc kb kc (A::B::C::R') p3 m3 Dn Dm Ds Dr R3)(h:∀R4,Nx p m mb mc kb kc p3 m3 Dn Dm Ds Dr R' R4->T W (A::B::C::ML p3 m3 Dn Dm Ds Dr R4) X):T W (ML p3 m3 Dn Dm Ds Dr R3) X:=by
 rcases hb with⟨rfl,rfl,rfl,rfl,rfl,rfl,rfl⟩|rfl
 ·exact T.pl [3,3,3] (h _ (.inl ⟨rfl,rfl,rfl,rfl,rfl,rfl,rfl⟩))
 ·exact T.pl [6,6,6] (h _ (.inr rfl))
def abS{s p' pf':Nat}(hm:RM m)(h:T W (ML p m mb mc kb kc (Sep.pt w (wC s p' pf')::GO 600 s (S,ms)::R)) (K (.b (decide (Bg m ms))))):
 T W (ML p m mb mc kb kc (Sep.pt w (wC s p' pf')::GO 600 s (S,ms)::R)) (mK (ah w) (ah p) K):=by
 unfold mK;apply ws;refine Eh (n:=600) (s:=s) λp3=>?_;refine za ?_;refine xy (p:=p3) λab ac=>?_;refine wL ?_;refine DF (p:=p3) λxb xc=>?_;refine wL ?_;refine Jl (p:=p3) ?_;refine pF ?_;refine Pd (p:=p3) ?_;refine pF ?_;refine T.pl [3,3,3] ?_;refine Vs hm ?_;refine u0 ?_;have e:decide (m.cy.map m.full=(bo ms).aB/\m.ax=(bo ms).ax/\m.clock=(bo ms).clock/\m.ay=(bo ms).ay)=decide (Bg m ms):=by
  have e1:m.cy.map m.full=(bo m).aB:=dS λa ha=>hm.ground.full ha;rw[e1,decide_eq_decide];exact Iff.rfl
 rw[e];exact T.sub h (by exact qv)
set_option maxHeartbeats 1000000 in
def agG(G:qF W)[i:Lc (wd w) L ⟨S,ms,m,mf⟩ f](hl:x.b.length<=16384)(hk:KI 600 S ms Bl g)(hg:g+3<256)(rr:Md.bN ms)(Q8:Md.bN Bl)
 (h:∀b S' xH mfs' m' EO,u2 x S ms Bl g S' xH mfs'->Md.bN xH->Md.bN mfs'->(m=ms/\mf=Bl->b=true/\m'=xH/\EO=mfs')->T W (f ⟨S',xH,m',EO⟩) (K (.b b))):T W L (aM (ah w) (Cg x) K):=by
 unfold aM;refine Y4 (w:=w) λz M R' hf k1 k2 hM=>?_;have fin:∀{b:Bool} {S':VS} {xH mfs' m' EO:aA} {z':WZ} {L1:LH},Fl z'.p m' z'.pf EO M L1->RM m'->RM EO->u2 x S ms Bl g S' xH mfs'->Md.bN xH->Md.bN mfs'->(m=ms/\mf=Bl->b=true/\m'=xH/\EO=mfs')->T W (Jm w z' ⟨S',xH,m',EO⟩ L1) (K (.b b)):=
  λ{b S' xH mfs' m' EO z' L1} a1 a2 a3 a4 a5 a6 a7=>hM z' ⟨S',xH,m',EO⟩ L1 [] _ a1 a2 a3 (h b S' xH mfs' m' EO a4 a5 a6 a7)
 have hvz:=hk.vz;have ix:=hvz.vok (by omega);dsimp only[Jm];apply ws;intros;rename_i r1;apply dh<;>intro g4
 ·have k0:x.kind=0:=by simpa using g4
  have hwr:yg x.b=true->x.wr:=λhh=>by
   unfold yg at hh;rw[dW] at hh;exact⟨k0,hh.1,hh.2⟩
  have adT:x.wr->yg x.b=true:=λhh=>by
   unfold yg;rw[hh.2.1];exact hh.2.2
  apply ws;refine T.pl [3,3,3] ?_;refine Ma k1 (by omega) λp3 Dn Dm Ds Dr R3 Bo Wd=>?_;refine Bo.nx λR4 hn=>?_;apply ws;refine wP (n:=600) (s:=z.s) ?_;apply ws;refine R9 G (n:=600) (s:=z.s) rr ix (λiq=>hvz.abd (by decide) (by decide) (by omega) iq rr) (by decide) (by decide) (by omega) λhgs iq=>?_;have hc:=GU hk hg iq rr hl;have jD:∀{S':VS} {xH mfs':aA},u2 x S ms Bl g S' xH mfs'->Md.bN xH->Md.bN mfs'->S'.dK=S.dK->(m=ms/\mf=Bl->Bq m x.b=xH/\(S.dK=false->mfs'=xH)/\(S.dK=true->mfs'=Bl))->
   T W (Sep.pt r1 (Cg x)::Sep.pt w (wC z.s z.p z.pf)::GO 600 z.s (S',xH)::ML p3 (Bq m x.b) Dn Dm Ds Dr R4) (aM.j1 K (ah w) (ah p3) S.dK):=by
   intro S' xH mfs' a1 a2 a3 a4 a5;unfold aM.j1 aM.j2;cases hs:S.dK with
   |true=>
    apply ws;refine wP (n:=600) (s:=z.s) ?_;apply ws;rw[a4,hs];refine T.drop ?_;refine hn.one hf λR5 hf5=>?_;exact fin (z':=⟨z.s,p3,z.pf,Dn,Dm,Ds,Dr⟩) hf5 Wd k2 a1 a2 a3 λhh=>⟨rfl,(a5 hh).1,by rw[(a5 hh).2.2 hs];exact hh.2⟩
   |false=>
    apply ws;refine wP (n:=600) (s:=z.s) ?_;apply ws;rw[a4,hs];refine T.drop ?_;refine hn.both hf ?_;exact fin (z':=⟨z.s,p3,p3,Dn,Dm,Ds,Dr⟩) (.inl ⟨rfl,rfl,rfl⟩) Wd Wd a1 a2 a3 λhh=>⟨rfl,(a5 hh).1,by rw[(a5 hh).2.1 hs];exact(a5 hh).1⟩
  have jN:∀{b:Bool} {S':VS} {xH mfs':aA},u2 x S ms Bl g S' xH mfs'->Md.bN xH->Md.bN mfs'->(m=ms/\mf=Bl->b=true/\m=xH/\mf=mfs')->
   T W (Sep.pt r1 (Cg x)::Sep.pt w (wC z.s z.p z.pf)::GO 600 z.s (S',xH)::ML p3 (Bq m x.b) Dn Dm Ds Dr R4) (K (.b b)):=by
   intro b S' xH mfs' a1 a2 a3 a5;refine T.drop (hn.none hf λR5 hf5=>?_);exact fin (z':=z) hf5 k1 k2 a1 a2 a3 a5
  have j4:∀{S':VS} {xH mfs':aA} {l:List UInt8},u2 x S ms Bl g S' xH mfs'->Md.bN xH->Md.bN mfs'->S'.dK=S.dK->(m=ms/\mf=Bl->l=DX m x.b/\Bq m x.b=xH/\(S.dK=false->mfs'=xH)/\(S.dK=true->mfs'=Bl))->
   T W (Sep.pt r1 (Cg x)::Sep.pt w (wC z.s z.p z.pf)::GO 600 z.s (S',xH)::ML p3 (Bq m x.b) Dn Dm Ds Dr R4) (aM.j4 K (ah w) (ah p3) (bs l) (bs (DX m x.b)) S.dK false):=by
   intro S' xH mfs' l a1 a2 a3 a4 a5;unfold aM.j4;rw[vS];by_cases hls:l=DX m x.b
   ·rw[av hls];apply ws;exact jD a1 a2 a3 a4 λhh=>(a5 hh).2
   ·rw[aq hls];apply ws;exact jN a1 a2 a3 λhh=>aT (a5 hh).1 hls
  rcases hc with⟨c1,c2⟩|⟨c1,c2,c3⟩|⟨c1,c2,S1,c3,c4,c5⟩|⟨c1,c2,S1,c3,c4,c5,c6,c7,c8⟩
  ·rw[c2,c1];have hw:u2 x S ms Bl g S ms Bl:=.none (λhh=>by have:=adT hh;rw[c1] at this;cases this) (λhh=>by omega) (by omega) (by omega);unfold aM.j3;apply ws;refine j4 hw rr Q8 rfl λhh=>⟨by rw[hh.1],(Po c1).trans hh.1,λhs=>(hk.same hs).1,λ_=>rfl⟩
  ·rw[c3,c1,c2];have hw:u2 x S ms Bl g S ms Bl:=.none (λ_=>c2) (λhh=>by omega) (by omega) (by omega);unfold aM.j3;apply ws;refine uE ?_;apply ws;rw[vS,av rfl];exact jN hw rr Q8 λhh=>⟨rfl,hh.1,hh.2⟩
  ·rw[c4,c1,c2];have hx:=hwr c1;have hw:u2 x S ms Bl g S1 ms (bD ms x.q).2.2:=.aaj hx c2 S1 c3 c5;unfold aM.j3 aM.j4;apply ws;refine uE ?_;apply ws;rw[vS,av rfl];apply ws;refine wP (n:=600) (s:=z.s) ?_;apply ws;rw[c5.dK];refine T.drop (hn.may hf λR5 hf5=>?_);exact fin (z':=⟨z.s,z.p,p3,z.mb,z.mc,z.kb,z.kc⟩) hf5 k1 Wd hw rr (vM rr _) λhh=>⟨rfl,hh.1,by rw[GJ c1,hh.1];rfl⟩
  ·rw[c4,c1,c2];rw[c4] at hgs;have hx:=hwr c1;have hw:u2 x S ms Bl g S1 (bD ms x.q).2.2 (bD ms x.q).2.2:=.did hx c2 S1 c3 c5 c6;have kd:DX ms x.b≠su 8 [] [] []:=by rw[c7];exact Zt c8 (by decide) (by decide)
   unfold aM.j3;apply ws;refine uE ?_;apply ws;rw[vS,aq kd];have:=j4 (l:=DX ms x.b) hw (vM rr _) (vM rr _) (by rw[c5.dK,c2]) λhh=>⟨by rw[hh.1],by rw[GJ c1,hh.1];rfl,λ_=>rfl,λhs=>by rw[c2] at hs;cases hs⟩;rw[c2] at this;exact this
 have k0:x.kind≠0:=by simpa using g4
 have nw:x.wr->S.dK=true:=λhh=>aT hh.1 k0;apply dh<;>intro g5
 ·have k1':x.kind=1:=by simpa using g5
  apply ws;refine N6 (n:=600) (s:=z.s) λiq=>?_;refine wP (n:=600) (s:=z.s) ?_;apply ws;refine Vh (n:=600) (s:=z.s) ix (by decide) (by decide) ?_;have jE:∀{b:Bool} {S':VS} {xH mfs':aA},u2 x S ms Bl g S' xH mfs'->Md.bN xH->Md.bN mfs'->(m=ms/\mf=Bl->b=true/\m=xH/\mf=mfs')->T W (Sep.pt r1 (Cg x)::Sep.pt w (wC z.s z.p z.pf)::GO 600 z.s (S',xH)::ML z.p m z.mb z.mc z.kb z.kc R') (K (.b b)):=by
   intro b S' xH mfs' a1 a2 a3 a5;exact T.drop (fin (z':=z) hf k1 k2 a1 a2 a3 a5)
  rcases Vf hvz (by decide) (by decide) (by omega) iq rr with⟨a,b⟩|⟨a,b,c,_⟩|⟨a,b,c⟩
  ·rw[b,a];unfold aM.j5;apply ws;refine mR rfl ?_;exact jE (mfs':=Bl) (.none nw (λ_=>a) (by omega) (by omega)) rr Q8 λhh=>⟨rfl,hh.1,hh.2⟩
  ·rw[b,a];unfold aM.j5 aM.j6;apply ws;refine mR (by decide) ?_;apply ws;refine wP (n:=600) (s:=z.s) ?_;apply ws;rw[c.dK];refine Zb ?_;exact jE (.saved k1' a b c) rr Q8 λhh=>⟨rfl,hh.1,hh.2⟩
  ·rw[b,a];unfold aM.j5 aM.j6;apply ws;refine gL (by decide) ?_;apply ws;refine mR (by decide) ?_;apply ws;refine wP (n:=600) (s:=z.s) ?_;apply ws;rw[c.dK];exact jE (.Ef k1' a b c) rr Q8 λhh=>⟨rfl,hh.1,hh.2⟩
 have k1':x.kind≠1:=by simpa using g5
 apply dh<;>intro g6
 ·have k2':x.kind=2:=by simpa using g6
  apply ws;obtain⟨m0,Yf,hold⟩:=hk.J8 (by decide) x.mask x.torn x.cut;refine R6 G (n:=600) (s:=z.s) (by decide) (by decide) ix hold (by omega) λS' hw MT=>?_;refine pF ?_;refine gL (by decide) ?_;apply ws;unfold aM.j7;have OE:u2 x S ms Bl g S' m0 m0:=.J8 k2' m0 Yf S' hw;rcases hf with⟨h1,h2,h3⟩|⟨fb,fc,gb,gc,rfl⟩
  ·rw[h1,h3];refine T.pl [3,3,3,1,1] ?_;refine abS k1 ?_;have e0:m=ms/\mf=Bl->m=m0:=λhh=>by
    rcases Yf with e|e
    ·rw[e];exact hh.1
    ·rw[e,<-hh.2];exact h2.symm
   refine u0 ?_;have e1:∀X,T W (Jm w ⟨z.s,z.p,z.p,z.mb,z.mc,z.kb,z.kc⟩ ⟨S',m0,m,m⟩ M) X->T W (ML z.p m z.mb z.mc z.kb z.kc (Sep.pt w (wC z.s z.p z.p)::GO 600 z.s (S',m0)::Sep.pt r1 (Cg x)::M)) X:=λX hX=>T.pl [3,3,0,0,0] (T.sub hX (by exact qv));apply dh<;>intro g7
   ·apply ws;refine e1 _ (fin (.inl ⟨rfl,rfl,rfl⟩) k1 k1 OE MT MT λhh=>⟨rfl,e0 hh,e0 hh⟩)
   ·apply ws;refine e1 _ (fin (.inl ⟨rfl,rfl,rfl⟩) k1 k1 OE MT MT λhh=>⟨rfl,e0 hh,e0 hh⟩)
  ·refine T.pl [6,6,6,1,1] ?_;refine abS k2 ?_;refine u0 ?_;apply fV<;>intro g7
   ·have e0:=g7.model k2.ground MT;apply ws;refine T.pl [3,3,0,0,0] (T.sub (M:=Jm w ⟨z.s,z.pf,z.pf,fb,fc,gb,gc⟩ ⟨S',m0,mf,mf⟩ M) ?_ (by exact qv));exact fin (.inl ⟨rfl,rfl,rfl⟩) k2 k2 OE MT MT λhh=>⟨rfl,e0,e0⟩
   ·have e0:m=ms/\mf=Bl->m=m0:=λhh=>by
     rcases Yf with e|e
     ·rw[e];exact hh.1
     ·rw[e,<-hh.2] at g7;exact aT (Bg.refl mf) g7
    apply ws;refine T.pl [3,3,4,4,4] (T.sub (M:=Jm w ⟨z.s,z.p,z.p,z.mb,z.mc,z.kb,z.kc⟩ ⟨S',m0,m,m⟩ M) ?_ (by exact qv));exact fin (.inl ⟨rfl,rfl,rfl⟩) k1 k1 OE MT MT λhh=>⟨rfl,e0 hh,e0 hh⟩
 have k2':x.kind≠2:=by simpa using g6
 apply dh<;>intro g7
 ·have k3':x.kind=3:=by simpa using g7
  apply ws;refine Zj (n:=600) (s:=z.s) ?_;apply ws;exact T.drop (fin (z':=z) hf k1 k2 (.arm k3') rr Q8 λhh=>⟨rfl,hh.1,hh.2⟩)
 ·have k3':x.kind≠3:=by simpa using g7
  exact T.drop (fin (z':=z) hf k1 k2 (.none nw (λhh=>aT hh k1') k2' k3') rr Q8 λhh=>⟨rfl,hh.1,hh.2⟩)
end
section
variable {W:World} {L R M:LH} {K:VK} {X:WK} {w:Nat} {x:WX} {f:WX->LH} {m:aA} {q:jF}
def abg{z:WZ}{L1:LH}(hf:Fl z.p x.m z.pf x.mf M L1)(k1:RM x.m)(k2:RM x.mf)(h:T W (wd w x::M) X):T W (Jm w z x L1) X:=by
 obtain⟨E,hE,rfl⟩:=hf.XK;exact T.GG (M:=Jm w z x E) (T.X8 (p:=Fl z.p x.m z.pf x.mf [] E/\RM x.m/\RM x.mf) ⟨hE,k1,k2⟩ (T.ZR (f:=λy:WZ×LH=>FC (Fl y.1.p x.m y.1.pf x.mf [] y.2/\RM x.m/\RM x.mf) (vH (Jm w y.1 x y.2))) (z,E) h))
def Sb:RM nZ:=RM.VD E7 pP
def U9(G:qF W)(h:∀w,T W (wd w ⟨BM 600,nZ,nZ,nZ⟩::L) (K (.p (ah w)))):T W L (oP K):=by
 unfold oP;refine R7 G (n:=600) (by decide) (by decide) λs=>?_;apply ws;intros;rename_i r1 r2;show T W (Sep.pt r2 (wC s r1 r1)::Sep.pt r1 (FX nZ none 0 none 0)::GO 600 s (BM 600,nZ)::L) _;refine gZ (e:=33) ?_;refine gZ (e:=14) ?_;refine T.pl (M:=Jm r2 ⟨s,r1,r1,none,0,none,0⟩ ⟨BM 600,nZ,nZ,nZ⟩ L) [2,3,2,0,0] ?_;exact abg (.inl ⟨rfl,rfl,rfl⟩) Sb Sb (h r2)
def PN(h:T W L (K (.s (bs (dI qT))))):T W L (kM (gB qT s0) K):=by
 unfold kM
 repeat' first|apply ws;intros|apply wb|refine G7 ?_
 have e1:qT.op=3:=rfl;rw[e1];refine gL (by decide) ?_;refine gL (by decide) ?_;refine mR (by decide) ?_
 repeat' first|apply ws|apply wb|refine Sh ?_
 refine dD (by rw[bY,bY,aO,aO];decide) ?_;rw[lg];exact T.drop h
def Oa:rE (dI qT)=true/\(iL (dI qT)).1=qT:=by
 have h1:kz qT=true:=by decide
 have h2:fY qT=true:=by decide
 refine⟨Cp h1 h2 (λa h=>by cases h) (λa h=>by cases h),?_⟩;rw[BD h1 h2 (λa h=>by cases h) (λa h=>by cases h)]
 rfl
def Xl(G:qF W)(h:T W L (K (.b true))):T W L (iE K):=by
 unfold iE;refine R7 G (n:=600) (by decide) (by decide) λs=>?_;apply ws;refine mR (by decide) ?_;have hv0:=Nu (n:=600) (by decide) (by decide);have hz0:VZ 600 (BM 600) nZ 0:=.inl hv0;have MQ:=aaW (n:=600) (by decide) (by decide);have ix:=hz0.vok (by decide);have Ql:fk (bo nZ)->LB (fO 600 nZ (BM 600)).1:=λhg=>hz0.abd (by decide) (by decide) (by decide) hg pP;show T W _ (my (ah s) (bs []) _);refine R9 G (n:=600) (s:=s) (l:=[]) pP ix Ql (by decide) (by decide) (by decide) λ_ _=>?_;have e0:RY 600 nZ (BM 600) []=(BM 600,nZ,su 4 [] [] []):=rfl;rw[e0];refine xU ?_;refine uE ?_;refine xU ?_;rw[vS,av rfl];unfold iE.j1;refine vE ?_;refine dD ⟨rfl,rfl,trivial⟩ ?_;show T W _ (kM (gB qT s0) _);refine PN ?_;refine xU ?_;have hlen:(dI qT).length<=924:=BC (by decide) (by decide);refine R9 G (n:=600) (s:=s) pP ix Ql (by decide) (by decide) (by omega) λ_ iq=>?_;rcases GU (l:=dI qT) (KI.OS) (by decide) iq pP (by omega) with⟨c1,_⟩|⟨_,c2,_⟩|⟨c1,c2,S1,c3,c4,c5⟩|⟨c1,c2,S1,c3,c4,c5,c6,c7,c8⟩
 ·have:yg (dI qT)=true:=by unfold yg;rw[Oa.1,Oa.2];rfl
  rw[this] at c1;cases c1
 ·cases c2
 ·have:=(abz (q:=qT) (m:=nZ) MQ (by decide) (by decide) (by decide) iq (by decide)).2 (by decide);rw[Oa.2] at c3;rw[c3] at this;cases this
 ·rw[c4,c7,Oa.2];have e2:bD nZ qT=(0,[],nZ.time 5):=rfl;rw[e2];refine xU ?_;show T W _ (br (py (bs (su 0 [] [] [])) (bs [0,0,0,0])) _ _);rw[vS,av (by rfl)];refine vE ?_;refine Eh (n:=600) (s:=s) λp=>?_;refine za ?_;refine Jl (p:=p) ?_;refine pF ?_;exact T.drop (T.drop h)
end
def HY(x:TS):(Cg x).length=6:=rfl
def aaU(l:List TS):Prop:=l.length<=maxLen/\∀x∈l,x.b.length<=140737488355328
section
variable {W:World} {L R M:LH} {K:VK} {X:WK} {w:Nat} {x:WX} {f:WX->LH} {m:aA} {q:jF} {sb:OA} {sc:Nat} {l:List TS}
def WE(hr:nK W [] Cg 6 sb l)(CC:aaU l)
 (h:∀b:Bool,(b=false->l.length<=60/\∀x∈l,x.b.length<=16384)->T W L (K (.b b))):T W L (oR sb l.length sc K):=by
 obtain⟨hl,CC⟩:=CC;unfold maxLen at hl;unfold oR;intro w jW;refine⟨λvv w=>∃(i:Nat)(n:Int),i<=l.length/\(l.length<=60->n=(((l.take i).map λx=>x.b.length).sum:Nat))/\vv=[.b false,.i n,.l sb l.length sc,.i (l.length:Int),.i (i:Int)]/\St W w L,
  λvs _=>match vs with|[_,_,_,_,.int _ d]=>l.length-d.toNat|_=>0,⟨0,0,aE _,(λ_=>rfl),rfl,jW⟩,?_⟩
 rintro b1 n1 qI oW re n2 n3 w2 ⟨i,nn,hi,ZX,e,gX⟩;cases e
 refine T.at ?_ gX;have hbound:∀j,j<=l.length->l.length<=60->((l.take j).map λx=>x.b.length).sum<=j* 140737488355328:=λj=>by
  induction j with
  |zero=>intro _ _;simp
  |succ j ih=>
   intro hj Yv;have:=ih (by omega) Yv;have gx:=aj (show j<l.length by omega);have hx:=CC _ (bR (show j<l.length by omega));rw[a8,gx,cR,List.sum_append];simp only[Option.toList_some,cN,ud,List.sum_cons,List.sum_nil];omega
 apply fV<;>intro g1
 ·have cf:i<l.length:=by omega
  have e5:=nL i;have gx:=aj cf;have hx:=CC _ (bR cf);have qV:l.take (i+1)=l.take i++[l[i]]:=by rw[a8,gx];rfl
  generalize l[i]=x at gx hx qV;refine iN hr ⟨by omega,by omega⟩ rfl λa ha=>?_;rw[ao];refine jH hr ha gx (HY x) ?_;apply ws;intros;rw[e5];refine T.drop λw3 h3=>⟨⟨i+1,_,cf,λYv=>?_,rfl,h3⟩,by show l.length-((i+1:Nat):Int).toNat<l.length-(i:Int).toNat;omega⟩;have hb:=hbound i (by omega) Yv;rw[ZX Yv,qV,cR,List.sum_append,bY];simp only[cN,ud,List.sum_cons,List.sum_nil];rw[aW (by omega)];omega
 ·have iM:i=l.length:=by omega
  subst iM;rw[aR] at ZX;apply fV<;>intro g2
  ·exact h true (λhh=>by cases hh)
  ·have Yv:l.length<=60:=by omega
   have hs:=ZX Yv;refine h _ (λhh=>⟨Yv,λx hx=>?_⟩);have hh:=bj hh;have:x.b.length<=(l.map λx=>x.b.length).sum:=NY (List.mem_map_of_mem hx);omega
def ZM(G:qF W){P:Nat->VS->aA->aA->Prop}{B:LI->LM->Bool->OA->OA->Nat->Nat->Int->Int->World->WK}{E:Bool->OA->OA->Nat->Nat->Int->Int->WK}{S0:VS}
 (hl:l.length<=maxLen)(h0:KI 600 S0 nZ nZ 0)(hp0:P 0 S0 nZ nZ)
 (gi:∀i x,l[i]?=some x->∀S m mf,KI 600 S m mf (3* i)->Md.bN m->Md.bN mf->P i S m mf->∀I μ w2,
  (∀S' m' EO,KI 600 S' m' EO (3* i+3)->Md.bN m'->Md.bN EO->P (i+1) S' m' EO->T W (wd w ⟨S',m',m',EO⟩::L) (ct I μ [.b false,.p (ah w),.l sb l.length sc,.i (l.length:Int),.i (aa.wrap ((i:Int)+1))] [.b false,.p (ah w),.l sb l.length sc,.i (l.length:Int),.i (i:Int)] w2))->
  T W (wd w ⟨S,m,m,mf⟩::L) (B I μ false (ah w) sb l.length sc (l.length:Int) (i:Int) w2))
 (aae:∀S m mf,KI 600 S m mf (3* l.length)->Md.bN m->Md.bN mf->P l.length S m mf->T W (wd w ⟨S,m,m,mf⟩::L) (E false (ah w) sb l.length sc (l.length:Int) (l.length:Int))):
 T W (wd w ⟨S0,nZ,nZ,nZ⟩::L) (lp [.b false,.p (ah w),.l sb l.length sc,.i (l.length:Int),.i 0] λI1 pI=>∀b3 p2 qI oW re n1 n2 w2,I1 [.b b3,.p p2,.l qI oW re,.i n1,.i n2] w2->(br (decide (n2<n1)) (B I1 pI b3 p2 qI oW re n1 n2 w2) (E b3 p2 qI oW re n1 n2)) w2):=by
 unfold maxLen at hl;obtain⟨I1,hI⟩:∃I1:LI,I1=λvv w'=>∃(i:Nat)(S:VS)(m mf:aA),i<=l.length/\KI 600 S m mf (3* i)/\Md.bN m/\Md.bN mf/\P i S m mf/\vv=[.b false,.p (ah w),.l sb l.length sc,.i (l.length:Int),.i (i:Int)]/\St W w' (wd w ⟨S,m,m,mf⟩::L):=⟨_,rfl⟩;obtain⟨pI,hμ⟩:∃pI:LM,pI=λvs _=>match vs with|[_,_,_,_,.int _ d]=>l.length-d.toNat|_=>0:=⟨_,rfl⟩
 intro w' jW;refine⟨I1,pI,by rw[hI];exact⟨0,S0,nZ,nZ,aE _,h0,pP,pP,hp0,rfl,jW⟩,?_⟩;intro b3 p2 qI oW re n1 n2 w2 hI2;rw[hI] at hI2;obtain⟨i,S,m,mf,hi,hk,hg,Q8,hp,e,gX⟩:=hI2;cases e
 refine T.at ?_ gX;apply fV<;>intro g1
 ·have cf:i<l.length:=by omega
  have e5:=nL i;refine gi i _ (aj cf) S m mf hk hg Q8 hp I1 pI w2 λS' m' EO a1 a2 a3 a4=>?_;rw[e5];refine λw5 h5=>⟨?_,?_⟩
  ·rw[hI];exact⟨i+1,S',m',EO,cf,a1,a2,a3,a4,rfl,h5⟩
  ·rw[hμ];show l.length-((i+1:Nat):Int).toNat<l.length-(i:Int).toNat;omega
 ·have iM:i=l.length:=by omega
  subst iM;exact aae S m mf hk hg Q8 hp
def ZG(hr:nK W [] Cg 6 sb l)(hl:l.length<=maxLen){i:Nat}{x:TS}(gx:l[i]?=some x){F:Nat->WK}(h:∀r,T W (Sep.pt r (Cg x)::L) (F r)):
 T W L (iX sb l.length (i:Int) 6 λa=>aI a 6 λcs=>mk L2 λr=>bw 6 (ad r 0) cs (F r)):=by
 have cf:=(aw.1 gx).1;refine iN hr ⟨by omega,by omega⟩ rfl λa ha=>?_;rw[ao];refine jH hr ha gx (HY x) ?_;refine tS λr=>?_;refine dD (HY x) ?_;exact XO (h r)
end
section
variable {W:World} {L R M rest E:LH} {K:VK} {X:WK} {w:Nat} {x:WX} {f:WX->LH} {m:aA} {q:jF} {z:WZ}
end
end Go.Up
namespace Go.Up
open Go.Md
def XA(m:aA):Prop:=∀a∈m.cy,(has a.ak 2->S (tN a.id) m.ax+S (tB a.id) m.ax<=S (tC a.id) m.ax)/\(has a.ak 4->S (tP a.id) m.ax+S (tC a.id) m.ax<=S (tB a.id) m.ax)
def Xs(m:aA):Prop:=∀k∈m.ax,∀d∈m.cy,∀c∈m.cy,d.id=k.move.bp->c.id=k.move.aP->d.aZ=c.aZ
def yw{m:aA}(hg:Md.bN m){a d:bC}(ha:a∈m.cy)(hd:d∈m.cy)(h:a.id=d.id):a=d:=by
 have h1:=oM hg.ids ha;have h2:=oM hg.ids hd;rw[h,h2] at h1;exact(bE.inj h1).symm
def BZ{l:List bC}{id:Nat}(h:l.find? (λa=>a.id=id)=none){a:bC}(ha:a∈l):a.id≠id:=by
 have:=mW.1 h a ha;simpa using this
def KT{l:List bW}{a:bC}(h0:0<=a.ak)(h8:a.ak<8):(has (Md.full l a).ak 2↔has a.ak 2)/\(has (Md.full l a).ak 4↔has a.ak 4):=by
 unfold Md.full has;dsimp only;split<;>constructor<;>omega
def I'{f:bW->Nat}{l:List bW}(h:∀k∈l,f k=0):S f l=0:=by
 induction l with
 |nil=>rfl
 |cons x l ih=>rw[pq,h x (pv),ih λk hk=>h k (gW _ hk)]
def YF{f g:bW->Nat}{F:bW->bW}{l:List bW}(h:∀k,f (F k)<=g k):S f (l.map F)<=S g l:=by
 induction l with
 |nil=>exact aG _
 |cons x l ih=>rw[cN,pq,pq];have:=h x;omega
def XA.step{m m':aA}(hg:Md.bN m)(h:XA m)(hs:Step m m'):XA m':=by
 cases hs with
 |same=>exact h
 |make a hc hn hf=>
  intro x hx;rcases dF.1 hx with hx|hx
  ·exact h x hx
  ·have hx:x={a with ay:=m.ay+1,ak:=a.ak/2* 2}:=by simpa using hx
   have hz:∀k∈m.ax,k.move.bp≠a.id/\k.move.aP≠a.id:=λk hk=>by
    obtain⟨_,h1,h2⟩:=hg.u6 k hk;obtain⟨y,hy,e⟩:=cw.1 h1;obtain⟨z,hz,e2⟩:=cw.1 h2;exact⟨by rw[<-e];exact BZ hn hy,by rw[<-e2];exact BZ hn hz⟩
   have z1:S (tN a.id) m.ax=0:=I' λk hk=>by unfold tN;rw[ag λhh=>(hz k hk).1 hh.2]
   have z2:S (tB a.id) m.ax=0:=I' λk hk=>by unfold tB;rw[ag λhh=>(hz k hk).1 hh.2]
   have z3:S (tP a.id) m.ax=0:=I' λk hk=>by unfold tP;rw[ag λhh=>(hz k hk).2 hh.2]
   have z4:S (tC a.id) m.ax=0:=I' λk hk=>by unfold tC;rw[ag λhh=>(hz k hk).2 hh.2]
   have e:x.id=a.id:=by rw[hx]
   show(_->S (tN x.id) m.ax+S (tB x.id) m.ax<=S (tC x.id) m.ax)/\(_->S (tP x.id) m.ax+S (tC x.id) m.ax<=S (tB x.id) m.ax);rw[e,z1,z2,z3,z4];exact⟨λ_=>aG _,λ_=>aG _⟩
 |move t n d c hk he hn hd hc E5 Dw hl hm hb wm=>
  intro x hx;have hx:x∈m.cy:=hx;obtain⟨o1,o2⟩:=h x hx;have kd:=(HL hk he).1;have h8: ¬has t.ak 8:=λhh=>he (.inr hh);show(_->S (tN x.id) (m.ax++[_])+S (tB x.id) (m.ax++[_])<=S (tC x.id) (m.ax++[_]))/\(_->S (tP x.id) (m.ax++[_])+S (tC x.id) (m.ax++[_])<=S (tB x.id) (m.ax++[_]));simp only[tL];have w:waits t=1↔has t.ak 2:=by unfold waits;split<;>simp_all
  have dd:∀y∈m.cy,(has (Md.full m.ax y).ak 2↔has y.ak 2)/\(has (Md.full m.ax y).ak 4↔has y.ak 4)/\(Md.full m.ax y).dp=S (tN y.id) m.ax/\(Md.full m.ax y).dq=S (tB y.id) m.ax/\(Md.full m.ax y).cp=S (tP y.id) m.ax/\(Md.full m.ax y).cq=S (tC y.id) m.ax:=λy hy=>by
   obtain⟨a1,a2,a3,a4,a5,a6⟩:=hg.zero y hy;obtain⟨b1,b2⟩:=KT (l:=m.ax) a5 a6;refine⟨b1,b2,?_,?_,?_,?_⟩<;>(unfold Md.full;dsimp only;omega)
  unfold tN tB tP tC iR;dsimp only;simp only[w,h8,not_false_eq_true,and_true]
  change (has x.ak 2->S (tN x.id) m.ax+_+(S (tB x.id) m.ax+_)<=S (tC x.id) m.ax+_)/\(has x.ak 4->S (tP x.id) m.ax+_+(S (tC x.id) m.ax+_)<=S (tB x.id) m.ax+_)
  by_cases e1:t.bp=x.id
  ·have ex:=yw hg hx hd (by rw[E5,e1]);subst ex;have e2: ¬t.aP=x.id:=λhh=>kd (by rw[e1,hh]);obtain⟨p1,p2,p3,p4,p5,p6⟩:=dd x hx;have hh:has x.ak 2->n<=S (tC x.id) m.ax-(S (tN x.id) m.ax+S (tB x.id) m.ax):=λh2=>by
    have: ¬iu (Md.full m.ax x) true<n:=λh3=>hb ⟨p1.2 h2,h3⟩;unfold iu at this;rw[ai rfl,p3,p4,p6] at this;omega
   by_cases h2:has t.ak 2
   ·simp only[e1,e2,h2,and_true,and_false,true_and,not_true_eq_false,false_and,if_true,if_false,dZ];refine⟨λhf=>?_,λhf=>?_⟩
    ·have:=o1 hf;have:=hh hf;omega
    ·have:=o2 hf;omega
   ·simp only[e1,e2,h2,and_true,and_false,true_and,not_false_eq_true,false_and,if_true,if_false,dZ];refine⟨λhf=>?_,λhf=>?_⟩
    ·have:=o1 hf;have:=hh hf;omega
    ·have:=o2 hf;omega
  ·by_cases e2:t.aP=x.id
   ·have ex:=yw hg hx hc (by rw[Dw,e2]);subst ex;obtain⟨p1,p2,p3,p4,p5,p6⟩:=dd x hx;have hh:has x.ak 4->n<=S (tB x.id) m.ax-(S (tP x.id) m.ax+S (tC x.id) m.ax):=λh2=>by
     have: ¬iu (Md.full m.ax x) false<n:=λh3=>wm ⟨p2.2 h2,h3⟩;unfold iu at this;rw[ag (by decide),p4,p5,p6] at this;omega
    by_cases h2:has t.ak 2
    ·simp only[e1,e2,h2,and_true,and_false,true_and,not_true_eq_false,false_and,if_true,if_false,dZ];refine⟨λhf=>?_,λhf=>?_⟩
     ·have:=o1 hf;omega
     ·have:=o2 hf;have:=hh hf;omega
    ·simp only[e1,e2,h2,and_true,and_false,true_and,not_false_eq_true,false_and,if_true,if_false,dZ];refine⟨λhf=>?_,λhf=>?_⟩
     ·have:=o1 hf;omega
     ·have:=o2 hf;have:=hh hf;omega
   ·simp only[e1,e2,and_false,if_false,dZ];exact⟨o1,o2⟩
 |ends t i k hi hk he hn hw h1 hb hm=>
  obtain⟨cf,ek⟩:=aw.1 hi;intro x hx;have hx:x∈m.cy:=hx;obtain⟨o1,o2⟩:=h x hx;obtain⟨c1,c2,c3,c4⟩:=Fk hk he;have hf:cJ t=2\/cJ t=3\/cJ t=4:=by unfold cJ;split<;>simp
  obtain⟨s1,s2,s3,s4,-⟩:=ended cf (f:=cJ t) (by rw[ek];exact h1) (by rw[ek];exact hw) hf x.id;rw[ek] at s1 s2 s3 s4;have Kz:(m.dE i (cJ t)).ax=m.ax.set i {k with fate:=cJ t}:=by rw[pM cf,ek]
  show(_->S (tN x.id) ((m.dE i (cJ t)).ax++[_])+S (tB x.id) ((m.dE i (cJ t)).ax++[_])<=S (tC x.id) ((m.dE i (cJ t)).ax++[_]))/\(_->S (tP x.id) ((m.dE i (cJ t)).ax++[_])+S (tC x.id) ((m.dE i (cJ t)).ax++[_])<=S (tB x.id) ((m.dE i (cJ t)).ax++[_]));rw[Kz];simp only[tL,s3,s4];have f1:∀(id:Nat)(r:bW),r.fate=0->tN id r=0:=λid r hr=>by unfold tN;rw[ag (by rw[hr];simp)]
  have f2:∀(id:Nat)(r:bW),r.fate=0->tP id r=0:=λid r hr=>by unfold tP;rw[ag (by rw[hr];simp)]
  rw[f1 _ _ rfl,f2 _ _ rfl];have Yb:∀r:bW,r.move.ak=t.ak->(iR r↔has t.ak 4):=λr hr=>by
   unfold iR;rw[hr]
   constructor
   ·intro hh;exact Decidable.byContradiction λh4=>hh.2 (c2.2 h4)
   ·intro h4;exact⟨c1,λh8=>c2.1 h8 h4⟩
  have am:has t.ak 4->cM t k.move<=k.move.aU:=λh4=>by
   have: ¬(has t.ak 4/\k.move.aU<cM t k.move):=λhh=>hb (.inl hh);have: ¬k.move.aU<cM t k.move:=λhh=>this ⟨h4,hh⟩;omega
  have g1:∀(id:Nat)(r:bW),r.move.ak=t.ak->tB id r=if has t.ak 4/\r.move.bp=id then r.move.aU else 0:=λid r hr=>by unfold tB;simp only[Yb r hr]
  have g2:∀(id:Nat)(r:bW),r.move.ak=t.ak->tC id r=if has t.ak 4/\r.move.aP=id then r.move.aU else 0:=λid r hr=>by unfold tC;simp only[Yb r hr]
  rw[g1 _ _ rfl,g2 _ _ rfl]
  change (has x.ak 2->S (tN x.id) _+0+(S (tB x.id) m.ax+if has t.ak 4/\k.move.bp=x.id then cM t k.move else 0)<=S (tC x.id) m.ax+if has t.ak 4/\k.move.aP=x.id then cM t k.move else 0)/\(has x.ak 4->S (tP x.id) _+0+(S (tC x.id) m.ax+if has t.ak 4/\k.move.aP=x.id then cM t k.move else 0)<=S (tB x.id) m.ax+if has t.ak 4/\k.move.bp=x.id then cM t k.move else 0)
  by_cases h4:has t.ak 4
  ·have:=am h4;simp only[h4,true_and];by_cases e1:k.move.bp=x.id<;>by_cases e2:k.move.aP=x.id<;>simp only[e1,e2,if_true,if_false] at s1 s2⊢<;>exact⟨λhf=>by have:=o1 hf;omega,λhf=>by have:=o2 hf;omega⟩
  ·simp only[h4,false_and,if_false];by_cases e1:k.move.bp=x.id<;>by_cases e2:k.move.aP=x.id<;>simp only[e1,e2,if_true,if_false] at s1 s2⊢<;>exact⟨λhf=>by have:=o1 hf;omega,λhf=>by have:=o2 hf;omega⟩
 |time now=>
  intro x hx;have hx:x∈m.cy:=hx;obtain⟨o1,o2⟩:=h x hx;have hp:∀k:bW,iR {k with fate:=4}↔iR k:=λk=>Iff.rfl;generalize hc:(m.time now).clock=ck;have ek:(m.time now).ax=m.ax.map λk=>if kY ck k then{k with fate:=4} else k:=by rw[<-hc];rfl
  rw[ek];have a1:S (tN x.id) (m.ax.map λk=>if kY ck k then{k with fate:=4} else k)<=S (tN x.id) m.ax:=YF λk=>by
   split
   ·unfold tN;rw[ag (by simp)];exact aE _
   ·exact aG _
  have a2:S (tP x.id) (m.ax.map λk=>if kY ck k then{k with fate:=4} else k)<=S (tP x.id) m.ax:=YF λk=>by
   split
   ·unfold tP;rw[ag (by simp)];exact aE _
   ·exact aG _
  have a3:∀f:bW->Nat,(∀k:bW,f {k with fate:=4}=f k)->S f (m.ax.map λk=>if kY ck k then{k with fate:=4} else k)=S f m.ax:=λf hf=>by
   unfold S;rw[oU]
   congr 1
   refine dS λk _=>?_;show f (if _ then _ else _)=_;split
   ·exact hf k
   ·rfl
  rw[a3 (tB x.id) (λk=>rfl),a3 (tC x.id) (λk=>rfl)];exact⟨λhf=>by have:=o1 hf;omega,λhf=>by have:=o2 hf;omega⟩
def Xs.step{m m':aA}(hg:Md.bN m)(h:Xs m)(hs:Step m m'):Xs m':=by
 cases hs with
 |same=>exact h
 |make a hc hn hf=>
  intro k hk d hd c OQ e1 e2;have hk:k∈m.ax:=hk;obtain⟨_,h1,h2⟩:=hg.u6 k hk;obtain⟨y,hy,i1⟩:=cw.1 h1;obtain⟨z,hz,i2⟩:=cw.1 h2;have old:∀x∈m.cy++[{a with ay:=m.ay+1,ak:=a.ak/2* 2}],∀y∈m.cy,x.id=y.id->x∈m.cy:=λx hx y hy e=>by
   rcases dF.1 hx with hx|hx
   ·exact hx
   ·have hx:x={a with ay:=m.ay+1,ak:=a.ak/2* 2}:=by simpa using hx
    rw[hx] at e;exact aT e.symm (BZ hn hy)
  exact h k hk d (old d hd y hy (by rw[e1];exact i1.symm)) c (old c OQ z hz (by rw[e2];exact i2.symm)) e1 e2
 |move t n d c hk he hn hd hc E5 Dw hl hm hb wm=>
  intro k rq x hx y hy e1 e2;rcases dF.1 rq with rq|rq
  ·exact h k rq x hx y hy e1 e2
  ·have rq:k=⟨t,{{t with aU:=n} with ay:=m.ay+1,jj:=m.clock},waits t⟩:=by simpa using rq
   rw[rq] at e1 e2;rw[yw hg hx hd (by rw[e1,E5]),yw hg hy hc (by rw[e2,Dw])];exact hl
 |ends t i k0 hi hk he hn hw h1 hb hm=>
  obtain⟨cf,ek⟩:=aw.1 hi;have Yf:=cb hi;intro k rq x hx y hy e1 e2;rcases dF.1 rq with rq|rq
  ·rw[pM cf] at rq;rcases eY rq with hh|hh
   ·exact h k hh x hx y hy e1 e2
   ·rw[hh] at e1 e2;rw[ek] at e1 e2;exact h k0 Yf x hx y hy e1 e2
  ·have rq:k=⟨t,{l7 t k0.move with ay:=(m.dE i (cJ t)).ay+1,jj:=(m.dE i (cJ t)).clock},0⟩:=by simpa using rq
   rw[rq] at e1 e2;exact h k0 Yf x hx y hy e1 e2
 |time now=>
  intro k hk x hx y hy e1 e2;obtain⟨k0,hk0,e⟩:=cw.1 hk;have hi:∀(P:Prop) [Decidable P],(if P then({k0 with fate:=4}:bW) else k0).move=k0.move:=λP _=>by split<;>rfl
  have em:k.move=k0.move:=by rw[<-e];exact hi _
  rw[em] at e1 e2;exact h k0 hk0 x hx y hy e1 e2
def NX(n x:Nat):∀{F:List bC},(F.map (·.id)).Nodup->(F.map λa=>if x=a.id then n else 0).sum=if x∈F.map (·.id) then n else 0
 |[],_=>by simp
 |a::F,h=>by
  rw[cN,List.nodup_cons] at h;rw[cN,List.sum_cons,NX n x h.2,cN];by_cases e:x=a.id
  ·subst e;rw[ai rfl,ag h.1,ai pv];rfl
  ·rw[ag e,aC];by_cases hm:x∈F.map (·.id)
   ·rw[ai hm,ai (gW _ hm)]
   ·rw[ag hm,ag λhh=>(jB.1 hh).elim e hm]
def sum_add{α:Type}(f g:α->Nat):∀F:List α,(F.map λa=>f a+g a).sum=(F.map f).sum+(F.map g).sum
 |[]=>rfl
 |a::F=>by simp only[cN,List.sum_cons,sum_add f g F];omega
def K0{F:List bC}(hn:(F.map (·.id)).Nodup):∀l:List bW,(∀k∈l,(k.move.bp∈F.map (·.id)↔k.move.aP∈F.map (·.id)))->
 (F.map λa=>S (tB a.id) l).sum=(F.map λa=>S (tC a.id) l).sum/\(F.map λa=>S (tN a.id) l).sum=(F.map λa=>S (tP a.id) l).sum
 |[],_=>by simp only[xO,and_self]
 |k::l,h=>by
  obtain⟨i1,i2⟩:=K0 hn l λk hk=>h k (gW _ hk);have hk:=h k pv;simp only[pq,sum_add,i1,i2];have key:∀P:Prop,[Decidable P]->(F.map λa=>if P/\k.move.bp=a.id then k.move.aU else 0).sum=(F.map λa=>if P/\k.move.aP=a.id then k.move.aU else 0).sum:=λP _=>by
   by_cases hp:P
   ·simp only[hp,true_and,NX _ _ hn,hk]
   ·simp only[hp,false_and,if_false]
  have k1:=key (iR k);have k2:=key (k.fate=1);unfold tB tC tN tP;rw[k1,k2];exact⟨rfl,rfl⟩
def K1{m:aA}(hg:Md.bN m)(hl:Xs m)(L:Int):
 (((bo m).aB.filter λa=>a.aZ=L).map (·.dq)).sum=(((bo m).aB.filter λa=>a.aZ=L).map (·.cq)).sum/\(((bo m).aB.filter λa=>a.aZ=L).map (·.dp)).sum=(((bo m).aB.filter λa=>a.aZ=L).map (·.cp)).sum:=by
 have hF:(bo m).aB.filter (λa=>a.aZ=L)=(m.cy.filter λa=>a.aZ=L).map (Md.full m.ax):=by
  show(m.cy.map (Md.full m.ax)).filter _=_;rw[List.filter_map]
  rfl
 rw[hF];simp only[oU];generalize hf:(m.cy.filter λa=>a.aZ=L)=F;have nM:∀a∈F,a∈m.cy/\a.aZ=L:=λa ha=>by rw[<-hf] at ha;simpa using pU.1 ha
 have hn:(F.map (·.id)).Nodup:=hg.ids.sublist (by rw[<-hf];exact List.filter_sublist.map _);have hs:∀k∈m.ax,(k.move.bp∈F.map (·.id)↔k.move.aP∈F.map (·.id)):=λk hk=>by
  obtain⟨_,h1,h2⟩:=hg.u6 k hk;obtain⟨d,hd,i1⟩:=cw.1 h1;obtain⟨c,hc,i2⟩:=cw.1 h2;have he:=hl k hk d hd c hc i1 i2;have side:∀x,x∈m.cy->(x.id∈F.map (·.id)↔x.aZ=L):=λx hx=>by
   constructor
   ·intro hh;obtain⟨y,hy,e⟩:=cw.1 hh;rw[yw hg hx (nM y hy).1 e.symm];exact(nM y hy).2
   ·intro hh;exact List.mem_map_of_mem (by rw[<-hf];exact pU.2 ⟨hx,by simpa using hh⟩)
  have i1:d.id=k.move.bp:=i1;have i2:c.id=k.move.aP:=i2;rw[<-i1,<-i2,side d hd,side c hc,he]
 obtain⟨e1,e2⟩:=K0 hn m.ax hs;have t:∀a∈F,(Md.full m.ax a).dq=S (tB a.id) m.ax/\(Md.full m.ax a).cq=S (tC a.id) m.ax/\(Md.full m.ax a).dp=S (tN a.id) m.ax/\(Md.full m.ax a).cp=S (tP a.id) m.ax:=λa ha=>by
  obtain⟨a1,a2,a3,a4,_⟩:=hg.zero a (nM a ha).1;refine⟨?_,?_,?_,?_⟩<;>(unfold Md.full;dsimp only;omega)
 rw[show F.map ((λx=>x.dq)∘Md.full m.ax)=F.map λa=>S (tB a.id) m.ax from dS λa ha=>(t a ha).1,
  show F.map ((λx=>x.cq)∘Md.full m.ax)=F.map λa=>S (tC a.id) m.ax from dS λa ha=>(t a ha).2.1,
  show F.map ((λx=>x.dp)∘Md.full m.ax)=F.map λa=>S (tN a.id) m.ax from dS λa ha=>(t a ha).2.2.1,
  show F.map ((λx=>x.cp)∘Md.full m.ax)=F.map λa=>S (tP a.id) m.ax from dS λa ha=>(t a ha).2.2.2]
 exact⟨e1,e2⟩
end Go.Up
namespace Go.Prog
open Go.Den
def iG(Ge:OA)(GQ GV:Nat)(K:VK):WK:=
mk [.u 0,.u 0] λr1=>
ch True (
mk [.u 0,.u 0] λr2=>
ch (2=2) (jC (ad r2 0) [.u 0,.u 0] (
(lp [.p (some (ad r1 0)),.b false,.p (some (ad r2 0)),.l Ge GQ GV,.i (GQ:Int),.i 0] λI1 pI=>
∀a1 b1 a2 qI oW re n1 n2 w2,I1 [.p (some a1),.b b1,.p (some a2),.l qI oW re,.i n1,.i n2] w2->(
br (decide (n2<n1)) (
iX qI oW n2 2 λa3=>
aI a3 2 λO0=>
mk [.u 0,.u 0] λr3=>
bw 2 (ad r3 0) O0 (
aI a2 2 λFh=>
aI (ad r3 0) 2 λGy=>
cL Fh Gy (x2 λv1 v2=>(xA 2 λC6=>
(xB λb2=>
mk [.u 0,.u 0] λr4=>
bw 2 (ad r4 0) C6 (
br (!b2) (
aI a2 2 λIX=>
bw 2 a1 IX (
aI a1 2 λQH=>
K (.tuple ⟨[.agg ⟨QH⟩,.b false]⟩))) (
aI (ad r4 0) 2 λRe=>
bw 2 a2 Re (
(ct I1 pI [.p (some a1),.b b1,.p (some a2),.l qI oW re,.i n1,.i (aa.wrap (n2+1))] [.p (some a1),.b b1,.p (some a2),.l qI oW re,.i n1,.i n2] w2))))) v2) v1))) (
aI a2 2 λQG=>
bw 2 a1 QG (
aI a1 2 λcs9=>
K (.tuple ⟨[.agg ⟨cs9⟩,.b true]⟩)))) w2))))
def dQ.j2(K:VK)(b4 b5:Bool)(r8 r9:Nat)(b7:Bool):WK:=
br b7 (
br (!b4) (
K (.b true)) (
br (!b5) (
K (.b true)) (
aI (ad r8 0) 2 λaaG=>
aI (ad r9 0) 2 λaaF=>
rl [.u 0,.u 0] aaG aaF λb8=>
K (.b b8)))) (
K (.b false))
def dQ.j1(K:VK)(b4 b5:Bool)(r8 r9 r6 r7:Nat)(b6:Bool):WK:=
br b6 (
dQ.j2 K b4 b5 r8 r9 true) (
aI (ad r6 0) 2 λagI=>
aI (ad r7 0) 2 λagH=>
rl [.u 0,.u 0] agI agH λb9=>
dQ.j2 K b4 b5 r8 r9 b9)
def dQ(Ge:OA)(GQ GV:Nat)(n1:Int)(K:VK):WK:=
(lp [.b false,.l none 0 0,.l none 0 0,.l none 0 0,.l none 0 0,.l Ge GQ GV,.i (GQ:Int),.i 0] λI1 pI=>
∀b1 qI oW re ta qQ sO xG vT wO Gb FP FQ Jp Jo Ig n2 n3 w2,I1 [.b b1,.l qI oW re,.l ta qQ sO,.l xG vT wO,.l Gb FP FQ,.l Jp Jo Ig,.i n2,.i n3] w2->(
br (decide (n3<n2)) (
iX Jp Jo n3 14 λa1=>
aI a1 14 λO0=>
mk dR λr1=>
bw 14 (ad r1 0) O0 (
lI (ad r1 10) λn4=>
br (n4==n1) (
aI (ad r1 4) 2 λFh=>
F0 2 Fh λr2=>
gY 2 16 [.u 0,.u 0] qI oW re (ah r2) 1 λUw Pt Vd=>
aI (ad r1 8) 2 λGy=>
F0 2 Gy λr3=>
gY 2 16 [.u 0,.u 0] ta qQ sO (ah r3) 1 λVe Uv Vc=>
aI (ad r1 2) 2 λC6=>
F0 2 C6 λr4=>
gY 2 16 [.u 0,.u 0] xG vT wO (ah r4) 1 λsb9 sn9 sc9=>
aI (ad r1 6) 2 λIX=>
F0 2 IX λr5=>
gY 2 16 [.u 0,.u 0] Gb FP FQ (ah r5) 1 λGd Ga CZ=>
(ct I1 pI [.b b1,.l Uw Pt Vd,.l Ve Uv Vc,.l sb9 sn9 sc9,.l Gd Ga CZ,.l Jp Jo Ig,.i n2,.i (aa.wrap (n3+1))] [.b b1,.l qI oW re,.l ta qQ sO,.l xG vT wO,.l Gb FP FQ,.l Jp Jo Ig,.i n2,.i n3] w2)) (
(ct I1 pI [.b b1,.l qI oW re,.l ta qQ sO,.l xG vT wO,.l Gb FP FQ,.l Jp Jo Ig,.i n2,.i (aa.wrap (n3+1))] [.b b1,.l qI oW re,.l ta qQ sO,.l xG vT wO,.l Gb FP FQ,.l Jp Jo Ig,.i n2,.i n3] w2)))) (
iG qI oW re (x2 λv1 v2=>(xA 2 λQH=>
(xB λb2=>
mk [.u 0,.u 0] λr6=>
bw 2 (ad r6 0) QH (
iG ta qQ sO (x2 λv3 v4=>(xA 2 λRe=>
(xB λb3=>
mk [.u 0,.u 0] λr7=>
bw 2 (ad r7 0) Re (
iG xG vT wO (x2 λv5 v6=>(xA 2 λQG=>
(xB λb4=>
mk [.u 0,.u 0] λr8=>
bw 2 (ad r8 0) QG (
iG Gb FP FQ (x2 λv7 v8=>(xA 2 λcs9=>
(xB λb5=>
mk [.u 0,.u 0] λr9=>
bw 2 (ad r9 0) cs9 (
br (!b2) (
dQ.j1 K b4 b5 r8 r9 r6 r7 true) (
dQ.j1 K b4 b5 r8 r9 r6 r7 (!b3)))) v8) v7))) v6) v5))) v4) v3))) v2) v1))) w2)
def nR(Ge:OA)(GQ GV:Nat)(n1:Int)(K:VK):WK:=
dQ Ge GQ GV n1 (xB λb1=>
K (.b b1))
end Go.Prog
namespace Go.Up
open Go.Sep Go.Den Go.RowKit Go.Prog Go.Md Go.cD
section
variable {W:World} {L R M:LH} {K:VK} {X:WK} {a:bC} {m:aA}
def Ci:∀(l:List Nat)(i:Nat),(l.take i).sum<=l.sum
 |[],i=>by simp
 |x::l,0=>by simp
 |x::l,i+1=>by
  have:=Ci l i;simp only[List.take_succ_cons,List.sum_cons];omega
def Sg{b:OA}{c:Nat}{l:List Nat}{f:HP->LH}[ii:ux b l.length c L 2 (l.flatMap nm) f](hl:l.length<=1000)(hb:∀n∈l,n<bB)
 (h:∀x,(l.sum<bB->x=l.sum)->T W L (K (.tuple ⟨[.agg ⟨nm x⟩,.b (decide (l.sum<bB))]⟩))):T W L (iG b l.length c K):=by
 unfold iG;apply ws;intros;rename_i r1 r2;have hz:∀r,Sep.pt r [Value.int .u64 0,.u 0]=Sep.pt r (nm 0):=λr=>rfl;intro w jW;refine⟨λvv w=>∃(i x:Nat),i<=l.length/\(l.take i).sum=x/\x<bB/\vv=[.p (some (ad r1 0)),.b false,.p (some (ad r2 0)),.l b l.length c,.i (l.length:Int),.i (i:Int)]/\St W w (Sep.pt r2 (nm x)::Sep.pt r1 (nm 0)::L),
  λvs _=>match vs with|[_,_,_,_,_,.int _ d]=>l.length-d.toNat|_=>0,⟨0,0,aE _,by simp,by decide,rfl,jW⟩,?_⟩
 rintro a1 b1 a2 qI oW re n1 n2 w2 ⟨i,x,hi,hx,hxb,e,gX⟩;cases e
 refine T.at ?_ gX;have e5:=nL i;apply fV<;>intro g1
 ·have cf:i<l.length:=by omega
  have gx:=aj cf;have hyb:=hb _ (bR cf);have qV:(l.take (i+1)).sum=x+l[i]:=by rw[a8,gx,List.sum_append,hx];simp
  have hle:=Ci l (i+1);generalize l[i]=y at gx hyb qV;refine dM (b:=b) ⟨by omega,by omega⟩ λrb We=>?_;rw[ao];subst We;refine gI (g:=nm) (λ_=>rfl) gx ?_;apply ws;intros;refine qb hxb hyb ?_;by_cases Wj:x+y<bB
  ·have ea:add x y=x+y:=by unfold add;rw[ai Wj]
   rw[av Wj,ea];apply ws;intros;rw[e5];refine T.drop (T.drop λw3 h3=>⟨⟨i+1,x+y,cf,qV,Wj,rfl,h3⟩,by show l.length-((i+1:Nat):Int).toNat<l.length-(i:Int).toNat;omega⟩)
  ·have FZ: ¬l.sum<bB:=by omega
   rw[aq Wj];have h:=h x (λhh=>aT hh FZ);rw[aq FZ] at h;apply ws;intros;exact T.dp h
 ·have iM:i=l.length:=by omega
  subst iM;rw[aR] at hx;have h:=h x (λ_=>hx.symm);rw[av (by omega)] at h;apply ws;exact T.dp h
def zP(n:Int)(al:List bC):List bC:=al.filter λa=>a.aZ=n
def P0{n:Int}{al:List bC}{i:Nat}{x:bC}(gx:al[i]?=some x):zP n (al.take (i+1))=if x.aZ=n then zP n (al.take i)++[x] else zP n (al.take i):=by
 unfold zP;rw[a8,gx,List.filter_append];by_cases h:x.aZ=n
 ·rw[ai h];simp[h]
 ·rw[ag h];simp[h]
def Ss{n:Int}{al:List bC}{a:bC}(h:a∈zP n al):a∈al:=(pU.1 h).1
def Kc(n:Int)(al:List bC):(zP n al).length<=al.length:=List.length_filter_le _ _
def PU{ab:OA}{ac:Nat}{al:List bC}{n:Int}{ff:HP->LH}[ii:ux ab al.length ac L 14 (al.flatMap aK) ff](hA:∀a∈al,wD a)(hl:al.length<=100)
 (e1:((zP n al).map (·.dq)).sum=((zP n al).map (·.cq)).sum)(e2:((zP n al).map (·.dp)).sum=((zP n al).map (·.cp)).sum)(h:T W L (K (.b true))):T W L (dQ ab al.length ac n K):=by
 unfold dQ;refine gZ (e:=2) (gZ (e:=2) (gZ (e:=2) (gZ (e:=2) ?_)));intro w jW;refine⟨λvv w=>∃(i:Nat)(b1 b2 b3 b4:OA)(c1 c2 c3 c4:Nat)(d:List bC),i<=al.length/\d=zP n (al.take i)/\vv=[.b false,.l b1 d.length c1,.l b2 d.length c2,.l b3 d.length c3,.l b4 d.length c4,.l ab al.length ac,.i (al.length:Int),.i (i:Int)]/\
  St W w (own b1 d.length c1 2 (d.flatMap λa=>nm a.dq)::own b2 d.length c2 2 (d.flatMap λa=>nm a.cq)::own b3 d.length c3 2 (d.flatMap λa=>nm a.dp)::own b4 d.length c4 2 (d.flatMap λa=>nm a.cp)::L),
  λvs _=>match vs with|[_,_,_,_,_,_,_,.int _ d]=>al.length-d.toNat|_=>0,⟨0,none,none,none,none,0,0,0,0,[],aE _,rfl,rfl,jW⟩,?_⟩
 rintro b1 p1 oW c1 p2 qQ c2 p3 vT c3 p4 FP c4 Jp Jo Ig n2 n3 w2 ⟨i,_,_,_,_,_,_,_,_,d,hi,hd,e,gX⟩;cases e
 refine T.at ?_ gX;have e5:=nL i;apply fV<;>intro g1
 ·have cf:i<al.length:=by omega
  have gx:=aj cf;have hxA:=hA _ (bR cf);have zv:d.length<=100:=by rw[hd];have:=Kc n (al.take i);rw[aD] at this;omega
  generalize al[i]=x at gx hxA;have qV:=P0 (n:=n) gx;rw[<-hd] at qV;refine iN (R:=L) (Uy (λ_=>rfl)) ⟨by omega,by omega⟩ rfl λa ha=>?_;rw[ao];refine jH (R:=L) (Uy (g:=aK) (λ_=>rfl)) ha gx rfl ?_;apply ws;intros;rename_i r1;apply dh<;>intro g2
  ·have g2:x.aZ=n:=by simpa using g2
   rw[ai g2] at qV;apply ws;intros;rename_i r2;refine jm (b:=p1) (g:=λa:bC=>nm a.dq) (l:=d) (x:=x) (bI _) rfl rfl (by omega) (by omega) (l6 _) λq1 k1=>?_;apply ws;intros;rename_i r3;refine jm (b:=p2) (g:=λa:bC=>nm a.cq) (l:=d) (x:=x) (bI _) rfl rfl (by omega) (by omega) (l6 _) λq2 k2=>?_;apply ws;intros;rename_i r4;refine jm (b:=p3) (g:=λa:bC=>nm a.dp) (l:=d) (x:=x) (bI _) rfl rfl (by omega) (by omega) (l6 _) λq3 k3=>?_;apply ws;intros;rename_i r5;refine jm (b:=p4) (g:=λa:bC=>nm a.cp) (l:=d) (x:=x) (bI _) rfl rfl (by omega) (by omega) (l6 _) λq4 k4=>?_;rw[e5];refine T.drop (T.drop (T.drop (T.drop (T.drop λw3 h3=>⟨⟨i+1,q1,q2,q3,q4,k1,k2,k3,k4,d++[x],cf,qV.symm,by simp,by simpa using h3⟩,by show al.length-((i+1:Nat):Int).toNat<al.length-(i:Int).toNat;omega⟩))))
  ·have g2: ¬x.aZ=n:=by simpa using g2
   rw[ag g2] at qV;rw[e5];refine T.drop λw3 h3=>⟨⟨i+1,p1,p2,p3,p4,c1,c2,c3,c4,d,cf,qV.symm,rfl,h3⟩,by show al.length-((i+1:Nat):Int).toNat<al.length-(i:Int).toNat;omega⟩
 ·have iM:i=al.length:=by omega
  subst iM;rw[aR] at hd;rw[<-hd] at e1 e2;have zv:d.length<=100:=by rw[hd];have:=Kc n al;omega
  have Dv:∀a∈d,wD a:=λa ha=>hA a (Ss (hd▸ha));have fm:∀f:bC->Nat,(d.flatMap λa=>nm (f a))=(d.map f).flatMap nm:=λf=>by rw[List.flatMap_map]
  have lm:∀f:bC->Nat,d.length=(d.map f).length:=λf=>(bP _).symm;simp only[fm];have key:∀{p:OA} {c:Nat} {f:bC->Nat} {L':LH} {ff:HP->LH} {F:VK} [ux p d.length c L' 2 ((d.map f).flatMap nm) ff],(∀a∈d,f a<bB)->(∀x,((d.map f).sum<bB->x=(d.map f).sum)->T W L' (F (.tuple ⟨[.agg ⟨nm x⟩,.b (decide ((d.map f).sum<bB))]⟩)))->T W L' (iG p d.length c F):=λ{p c f L' ff F} i hf hh=>by
   have Qo:d.length=(d.map f).length:=(bP _).symm;have i2:ux p (d.map f).length c L' 2 ((d.map f).flatMap nm) ff:=by rw[<-Qo];exact i
   rw[Qo];exact Sg (by rw[bP];exact y9 zv (by decide)) (λn hn=>by obtain⟨a,ha,rfl⟩:=cw.1 hn;exact hf a ha) hh
  refine key (f:=(·.dq)) (λa ha=>(Dv a ha).dq) λx1 hx1=>?_;apply ws;intros;rename_i r6;refine key (f:=(·.cq)) (λa ha=>(Dv a ha).cq) λx2 SN=>?_;apply ws;intros;rename_i r7;refine key (f:=(·.dp)) (λa ha=>(Dv a ha).dp) λx3 hx3=>?_;apply ws;intros;rename_i r8;refine key (f:=(·.cp)) (λa ha=>(Dv a ha).cp) λx4 hx4=>?_;apply ws;intros;rename_i r9;rw[<-e1] at SN⊢;rw[<-e2] at hx4⊢;generalize (d.map (·.dq)).sum=s1 at hx1 SN⊢;generalize (d.map (·.dp)).sum=s2 at hx3 hx4⊢;have j2:T W (Sep.pt r9 (nm x4)::Sep.pt r8 (nm x3)::Sep.pt r7 (nm x2)::Sep.pt r6 (nm x1)::own p1 d.length c1 2 ((d.map (·.dq)).flatMap nm)::own p2 d.length c2 2 ((d.map (·.cq)).flatMap nm)::own p3 d.length c3 2 ((d.map (·.dp)).flatMap nm)::own p4 d.length c4 2 ((d.map (·.cp)).flatMap nm)::L) (dQ.j2 K (decide (s2<bB)) (decide (s2<bB)) r8 r9 true):=by
   unfold dQ.j2;by_cases hs:s2<bB
   ·rw[av hs,hx3 hs,hx4 hs];apply ws;rw[av rfl];exact T.dp h
   ·rw[aq hs];apply ws;exact T.dp h
  unfold dQ.j1;by_cases hs:s1<bB
  ·rw[av hs];have q1:=hx1 hs;have q2:=SN hs;apply ws;rw[q1,q2,av rfl];rw[q1,q2] at j2;exact j2
  ·rw[aq hs];apply ws;exact j2
end
end Go.Up
namespace Go.Prog
open Go.Den
def dm.j2(K:VK)(r1 r3:Nat)(b4:Bool):WK:=
br b4 (
K (.b false)) (
lI (ad r1 12) λn1=>
ch ((4:Int)≠0) (
ch ((2:Int)≠0) (
br (((aa.wrap (n1.tdiv (4:Int))).tmod (2:Int))==0) (
K (.b true)) (
aI (ad r1 4) 2 λQG=>
aI (ad r3 0) 2 λcs9=>
gH QG cs9 (xB λb5=>
K (.b (!b5)))))))
def dm.j1(K:VK)(r1 r2 r3:Nat)(b3:Bool):WK:=
br b3 (
K (.b false)) (
lI (ad r1 12) λn2=>
ch ((2:Int)≠0) (
ch ((2:Int)≠0) (
br (((aa.wrap (n2.tdiv (2:Int))).tmod (2:Int))==1) (
aI (ad r1 8) 2 λaaG=>
aI (ad r2 0) 2 λaaF=>
gH aaG aaF (xB λb6=>
dm.j2 K r1 r3 b6)) (
dm.j2 K r1 r3 false))))
def dm(O0:LV)(K:VK):WK:=
mk O0 λr1=>
aI (ad r1 2) 2 λFh=>
aI (ad r1 4) 2 λGy=>
cL Fh Gy (x2 λv1 v2=>(xA 2 λC6=>
(xB λb1=>
mk [.u 0,.u 0] λr2=>
bw 2 (ad r2 0) C6 (
aI (ad r1 6) 2 λIX=>
aI (ad r1 8) 2 λQH=>
cL IX QH (x2 λv3 v4=>(xA 2 λRe=>
(xB λb2=>
mk [.u 0,.u 0] λr3=>
bw 2 (ad r3 0) Re (
br (!b1) (
dm.j1 K r1 r2 r3 true) (
dm.j1 K r1 r2 r3 (!b2)))) v4) v3))) v2) v1)
def mg(O0:LV)(K:VK):WK:=
mk O0 λr1=>
aI (ad r1 0) 14 λFh=>
dm Fh (xB λb1=>
K (.b b1))
def ko(Ge:OA)(GQ GV:Nat)(K:VK):WK:=
iE (xB λb1=>
br (!b1) (
K (.b false)) (
oR Ge GQ GV (xB λb2=>
br b2 (
K (.b true)) (
oP (xP λp1=>
(lp [.b false,.p p1,.l Ge GQ GV,.i (GQ:Int),.i 0] λI1 pI=>
∀b3 p2 qI oW re n1 n2 w2,I1 [.b b3,.p p2,.l qI oW re,.i n1,.i n2] w2->(
br (decide (n2<n1)) (
iX qI oW n2 6 λa1=>
aI a1 6 λO0=>
mk L2 λr1=>
bw 6 (ad r1 0) O0 (
aI (ad r1 0) 6 λFh=>
aM p2 Fh (xB λb4=>
nn p2 λa2=>
lP a2 λp3=>
jJ p3 (xP λp4=>
iD p4 (xL λta qQ sO=>
jU p4 (xL λxG vT wO=>
ch (1=1/\True) (
mk [.l none 0 0,.l xG vT wO,.i 0,.i 0] λr2=>
(lp [.b b3,.p p2,.l ta qQ sO,.p (some (ad r2 0)),.l qI oW re,.i n1,.i n2,.l ta qQ sO,.i (qQ:Int),.i 0] λI2 μ2=>
∀b5 p5 Gb FP FQ a3 Jp Jo Ig n3 n4 Uw Pt Vd n5 n6 w4,I2 [.b b5,.p p5,.l Gb FP FQ,.p (some a3),.l Jp Jo Ig,.i n3,.i n4,.l Uw Pt Vd,.i n5,.i n6] w4->(
br (decide (n6<n5)) (
iX Uw Pt n6 14 λa4=>
aI a4 14 λGy=>
mk dR λr3=>
bw 14 (ad r3 0) Gy (
tick (
lL a3 λVe Uv Vc=>
aI (ad r3 0) 2 λC6=>
lI (ad r3 10) λn7=>
lI (ad r3 11) λn8=>
lI (ad r3 12) λn9=>
ch ((8:Int)≠0) (
lI (ad r3 13) λX4=>
ch (C6.length=2/\(1=1/\(1=1/\(1=1/\(1=1/\True))))) (
ch ((C6++([.u 0,.u 0,.u 0,.u 0,.u 0,.u 0,.u 0,.u 0,.i n7,.i n8,.i (n9.tmod (8:Int)),.i X4]:LV)).length=14/\True) (mk ((C6++([.u 0,.u 0,.u 0,.u 0,.u 0,.u 0,.u 0,.u 0,.i n7,.i n8,.i (n9.tmod (8:Int)),.i X4]:LV))++[]) λr4=>
kp (ad r3 13) [.i X4] (
kp (ad r3 12) [.i n9] (
kp (ad r3 11) [.i n8] (
kp (ad r3 10) [.i n7] (
kp (ad r3 0) C6 (
kp a3 [.l Ve Uv Vc] (
gY 14 112 dR Ve Uv Vc (ah r4) 1 λsb9 sn9 sc9=>
kp (ad r3 13) [.i X4] (
kp (ad r3 12) [.i n9] (
kp (ad r3 11) [.i n8] (
kp (ad r3 10) [.i n7] (
kp (ad r3 0) C6 (
st a3 (.l sb9 sn9 sc9) (
(ct I2 μ2 [.b b5,.p p5,.l Gb FP FQ,.p (some a3),.l Jp Jo Ig,.i n3,.i n4,.l Uw Pt Vd,.i n5,.i (aa.wrap (n6+1))] [.b b5,.p p5,.l Gb FP FQ,.p (some a3),.l Jp Jo Ig,.i n3,.i n4,.l Uw Pt Vd,.i n5,.i n6] w4))))))))))))))))))) (
(lp [.b b5,.p p5,.l Gb FP FQ,.p (some a3),.l Jp Jo Ig,.i n3,.i n4,.l Gb FP FQ,.i (FP:Int),.i 0] λI3 YI=>
∀b6 p6 Gd Ga CZ a5 PB Pv Pz VU VT PA Pu RZ VR VQ w7,I3 [.b b6,.p p6,.l Gd Ga CZ,.p (some a5),.l PB Pv Pz,.i VU,.i VT,.l PA Pu RZ,.i VR,.i VQ] w7->(
br (decide (VQ<VR)) (
iX PA Pu VQ 14 λa6=>
aI a6 14 λIX=>
mk dR λr5=>
bw 14 (ad r5 0) IX (
tick (
lI (ad r5 10) λn15=>
nR Gd Ga CZ n15 (xB λb7=>
br (!b7) (
K (.b false)) (
aI (ad r5 0) 14 λQH=>
mg QH (xB λb8=>
br (!b8) (
K (.b false)) (
aI (ad r5 0) 14 λRe=>
ar (some a5) VQ (xA 14 λQG=>
kp (ad r5 0) Re (
rl dR QG Re λb9=>
br (!b9) (
K (.b false)) (
(ct I3 YI [.b b6,.p p6,.l Gd Ga CZ,.p (some a5),.l PB Pv Pz,.i VU,.i VT,.l PA Pu RZ,.i VR,.i (aa.wrap (VQ+1))] [.b b6,.p p6,.l Gd Ga CZ,.p (some a5),.l PB Pv Pz,.i VU,.i VT,.l PA Pu RZ,.i VR,.i VQ] w7))))))))))) (
(ct I1 pI [.b b6,.p p6,.l PB Pv Pz,.i VU,.i (aa.wrap (VT+1))] [.b b3,.p p2,.l qI oW re,.i n1,.i n2] w2))) w7))) w4)))))))) (
K (.b true))) w2))))))
end Go.Prog
namespace Go.Up
open Go.Sep Go.Den Go.RowKit Go.Prog Go.Md Go.cD
section
variable {W:World} {L R M:LH} {K:VK} {X:WK} {a:bC} {m:aA}
def Iu(ha:wD a)(hf:0<=a.ak/\a.ak<1000000)(hd:a.dp+a.dq<bB)(hc:a.cp+a.cq<bB)(h2:has a.ak 2->a.dp+a.dq<=a.cq)(h4:has a.ak 4->a.cp+a.cq<=a.dq)(h:T W L (K (.b true))):T W L (dm (aK a) K):=by
 unfold dm;apply ws;intros;rename_i r1;refine qb ha.dp ha.dq ?_;rw[av hd];apply ws;intros;rename_i r2;refine qb ha.cp ha.cq ?_;rw[av hc];apply ws;intros;rename_i r3;have ea:add a.dp a.dq=a.dp+a.dq:=by unfold add;rw[ai hd]
 have ec:add a.cp a.cq=a.cp+a.cq:=by unfold add;rw[ai hc]
 rw[ea,ec];have j2:T W (Sep.pt r3 (nm (a.cp+a.cq))::Sep.pt r2 (nm (a.dp+a.dq))::Sep.pt r1 (aK a)::L) (dm.j2 K r1 r3 false):=by
  unfold dm.j2;apply ws;refine dD (by decide) (dD (by decide) ?_);apply dh<;>intro g
  ·exact T.dp h
  ·have g4:has a.ak 4:=by
    rw[xp hf.1 hf.2 (by decide),dN (Int.ediv_nonneg hf.1 (by decide))] at g;have g:=(beq_eq_false_iff_ne ..).1 g;unfold has;omega
   apply ws;refine uf ha.dq hc ?_;rw[aq (by have:=h4 g4;omega)];apply ws;exact T.dp h
 unfold dm.j1;apply ws;refine dD (by decide) (dD (by decide) ?_);rw[Nk hf.1 hf.2 (by decide)];apply fV<;>intro g
 ·apply ws;refine uf ha.cq hd ?_;rw[aq (by have:=h2 g;omega)];apply ws;exact j2
 ·exact j2
def Ir(ha:wD a)(hf:0<=a.ak/\a.ak<1000000)(hd:a.dp+a.dq<bB)(hc:a.cp+a.cq<bB)(h2:has a.ak 2->a.dp+a.dq<=a.cq)(h4:has a.ak 4->a.cp+a.cq<=a.dq)(h:T W L (K (.b true))):T W L (mg (aK a) K):=by
 unfold mg;apply ws;intros;refine Iu ha hf hd hc h2 h4 ?_;apply ws;exact T.drop h
def adx(hm:RM m):∀a∈(bo m).aB,wD a:=by
 have e1:m.cy.map m.full=(bo m).aB:=dS λa ha=>hm.ground.full ha;rw[<-e1];exact OU hm
def aaL(hm:RM m)(hb:XA m):∀a∈(bo m).aB,(0<=a.ak/\a.ak<1000000)/\a.dp+a.dq<bB/\a.cp+a.cq<bB/\(has a.ak 2->a.dp+a.dq<=a.cq)/\(has a.ak 4->a.cp+a.cq<=a.dq):=λa ha=>by
 obtain⟨b,MV,rfl⟩:=cw.1 ha;obtain⟨z1,z2,z3,z4,z5,z6⟩:=hm.ground.zero b MV;have d:=hm.ground.xq b MV;have c:=hm.ground.tX b MV;obtain⟨f2,f4⟩:=KT (l:=m.ax) z5 z6;obtain⟨k2,k4⟩:=hb b MV;rw[f2,f4];have OM:0<=(Md.full m.ax b).ak/\(Md.full m.ax b).ak<1000000:=by
  have e:0<=b.ak%8+8/\b.ak%8+8<=15:=by omega
  show 0<=(if _ then b.ak else b.ak%8+8)/\(if _ then b.ak else b.ak%8+8)<1000000;split
  ·omega
  ·exact⟨e.1,Int.lt_of_le_of_lt e.2 (by decide)⟩
 refine⟨OM,?_,?_,λh=>?_,λh=>?_⟩
 ·show b.dp+_+(b.dq+_)<_;omega
 ·show b.cp+_+(b.cq+_)<_;omega
 ·have:=k2 h;show b.dp+_+(b.dq+_)<=b.cq+_;omega
 ·have:=k4 h;show b.cp+_+(b.cq+_)<=b.dq+_;omega
end
def bare(a:bC):bC:=⟨a.id,0,0,0,0,a.aZ,a.code,a.ak.tmod 8,a.ay⟩
def QR{m:aA}(hg:Md.bN m):(bo m).aB.map bare=m.cy:=by
 show(m.cy.map (Md.full m.ax)).map bare=m.cy;rw[oU]
 conv=>rhs;rw[<-List.map_id m.cy]
 refine dS λa ha=>?_;obtain⟨z1,z2,z3,z4,z5,z6⟩:=hg.zero a ha;have e:(if S (uk a.id) m.ax=0 then a.ak else a.ak%8+8).tmod 8=a.ak:=by
  have e2:0<=a.ak%8+8:=by omega
  split
  ·rw[dN z5];omega
  ·rw[dN e2];omega
 show bare (Md.full m.ax a)=a;unfold bare Md.full;dsimp only;rw[e];cases a
 dsimp only at z1 z2 z3 z4⊢;rw[z1,z2,z3,z4]
def ady(y:bC):nm y.id++([.u 0,.u 0,.u 0,.u 0,.u 0,.u 0,.u 0,.u 0,.i y.aZ,.i y.code,.i (y.ak.tmod 8),.i y.ay]:LV)++[]=aK (bare y):=by
 simp[aK,bare,nm]
section
variable {W:World} {L:LH} {K:VK} {X:WK}
def PR{ab:OA}{ac:Nat}{al:List bC}{n:Int}{ff:HP->LH}[ii:ux ab al.length ac L 14 (al.flatMap aK) ff](hA:∀a∈al,wD a)(hl:al.length<=100)
 (e1:((zP n al).map (·.dq)).sum=((zP n al).map (·.cq)).sum)(e2:((zP n al).map (·.dp)).sum=((zP n al).map (·.cp)).sum)(h:T W L (K (.b true))):T W L (nR ab al.length ac n K):=by
 unfold nR;exact PU hA hl e1 e2 (u0 h)
end
set_option maxHeartbeats 1000000 in
def NC{W:World}{L:LH}{K:VK}{sb:OA}{sc:Nat}{l:List TS}(G:qF W)(hr:nK W [] Cg 6 sb l)(CC:aaU l)(h:T W L (K (.b true))):T W L (ko sb l.length sc K):=by
 unfold ko;refine Xl G (u0 (H9 ?_));refine WE hr CC λb hb=>?_;refine u0 ?_;cases b with
 |true=>exact h
 |false=>
 obtain⟨Yv,adZ⟩:=hb rfl;refine vF ?_;refine U9 G λw=>?_;refine za ?_;have UN:XA nZ/\Xs nZ:=⟨(λa ha=>by cases ha),(λa ha=>by cases ha)⟩;refine ZM G (P:=λi S m mf=>(XA m/\Xs m)/\XA mf/\Xs mf) CC.1 KI.OS ⟨UN,UN⟩ (λi x gx S m mf hk hg Q8 hp I μ w2 fin=>?_) (λS m mf _ _ _ _=>T.drop h);have hi:i<l.length:=(aw.1 gx).1;refine ZG hr CC.1 gx λr=>?_;apply ws;refine agG (w:=w) G (adZ x (cb gx)) hk (by omega) hg Q8 λb S' m' EO m2 mf2 hw KL aec he=>?_;obtain⟨rfl,rfl,rfl⟩:=he ⟨rfl,rfl⟩;have E2:=hw.inv (P:=λm=>XA m/\Xs m) (λq h=>M5 (P:=λm=>XA m/\Xs m) (λ_ _ a b c=>⟨b.1.step a c,b.2.step a c⟩) hg h) hp.1 hp.2;apply ws;refine abb (w:=w) λiq MQ _=>?_;have ou:(bo m2).aB.length<=32:=iq.ou;have many:(bo m2).ax.length<=96:=iq.many;refine Rq (w:=w) λp=>?_;refine xy (p:=p) λb1 c1=>?_;refine wL ?_;refine DF (p:=p) λb2 c2=>?_;apply ws;intros;rename_i r2;have hbo:=aaL MQ E2.1.1;have Bo:=adx MQ;have hev:=K1 KL E2.1.2;have Tb:=QR KL;have Ym:∀j a,(bo m2).aB[j]?=some a->∃y,m2.cy[j]?=some y/\m2.ax.foldl vX y=a:=λj a ha=>by
  have e1:m2.cy.map m2.full=(bo m2).aB:=dS λa ha=>KL.full ha;rw[<-e1,eK] at ha;cases hy:m2.cy[j]? with
  |none=>rw[hy] at ha;cases ha
  |some y=>
   rw[hy] at ha;refine⟨y,hy,?_⟩;show m2.full y=a;simpa using ha
 dsimp only at hbo Bo⊢;have hkk:(bo m2).ax=m2.ax:=rfl;rw[hkk] at many⊢;generalize hal:(bo m2).aB=al at hbo Bo ou Tb Ym hev⊢;refine T.sub (M:=Sep.pt r2 [.l none 0 0,.l b2 m2.ax.length c2,.i 0,.i 0]::own b2 m2.ax.length c2 33 (m2.ax.flatMap bG)::own b1 al.length c1 14 (al.flatMap aK)::wd w ⟨S',m2,m2,mf2⟩::L) ?_ (by exact qv);refine gZ (e:=14) ?_;intro w' jW;refine⟨λvv w'=>∃(j:Nat)(ob:OA)(oc:Nat),j<=al.length/\vv=[.b false,.p (ah w),.l b1 al.length c1,.p (some (ad r2 0)),.l sb l.length sc,.i (l.length:Int),.i (i:Int),.l b1 al.length c1,.i (al.length:Int),.i (j:Int)]/\
                                                         St W w' (own ob j oc 14 (((al.take j).map bare).flatMap aK)::Sep.pt r2 [.l ob j oc,.l b2 m2.ax.length c2,.i 0,.i 0]::own b2 m2.ax.length c2 33 (m2.ax.flatMap bG)::own b1 al.length c1 14 (al.flatMap aK)::wd w ⟨S',m2,m2,mf2⟩::L),
  λvs _=>match vs with|[_,_,_,_,_,_,_,_,_,.int _ d]=>al.length-d.toNat|_=>0,⟨0,none,0,aE _,rfl,jW⟩,?_⟩
 rintro b5 p5 Gb FP FQ a3 Jp Jo Ig n3 n4 Uw Pt Vd n5 n6 w4 ⟨j,ob,oc,hj,e,gX⟩;cases e
 refine T.at ?_ gX;have e5:=nL j;apply fV<;>intro g1
 ·have cf:j<al.length:=by omega
  have gy:=aj cf;generalize al[j]=y at gy;refine dM (b:=b1) ⟨by omega,by omega⟩ λrb We=>?_;rw[ao];subst We;refine gI (g:=aK) (λ_=>rfl) gy ?_
  repeat' first|apply ws;intros|apply wb|refine dD (by decide) ?_
  rename_i r3 r4;rw[ady];refine jm (b:=ob) (g:=aK) (l:=(al.take j).map bare) (x:=bare y) rfl rfl rfl (by omega) (by omega) (iv _) λb9 c9=>?_;apply ws;rw[e5];refine T.drop (T.drop λw3 h3=>⟨⟨j+1,b9,c9,cf,rfl,?_⟩,by show al.length-((j+1:Nat):Int).toNat<al.length-(j:Int).toNat;omega⟩);rw[a8,gy,cR];exact h3
 ·have iM:j=al.length:=by omega
  subst iM;rw[aR,Tb];have IF:m2.cy.length=al.length:=by rw[<-Tb,bP]
  have e6:∀X,Sep.pt r2 [.l ob al.length oc,.l b2 m2.ax.length c2,.i 0,.i 0]::own ob al.length oc 14 (m2.cy.flatMap aK)::own b2 m2.ax.length c2 33 (m2.ax.flatMap bG)::X=ML r2 ⟨m2.cy,m2.ax,0,0⟩ ob oc b2 c2 X:=λX=>by rw[<-IF];rfl
  refine T.pl [1] ?_;rw[e6];intro w' jW;refine⟨λvv w'=>∃(j:Nat),j<=al.length/\vv=[.b false,.p (ah w),.l b1 al.length c1,.p (some (ad r2 0)),.l sb l.length sc,.i (l.length:Int),.i (i:Int),.l b1 al.length c1,.i (al.length:Int),.i (j:Int)]/\
                        St W w' (ML r2 ⟨m2.cy,m2.ax,0,0⟩ ob oc b2 c2 (own b1 al.length c1 14 (al.flatMap aK)::wd w ⟨S',m2,m2,mf2⟩::L)),
   λvs _=>match vs with|[_,_,_,_,_,_,_,_,_,.int _ d]=>al.length-d.toNat|_=>0,⟨0,aE _,rfl,jW⟩,?_⟩
  rintro b5 p5 Gb FP FQ a3 Jp Jo Ig n3 n4 Uw Pt Vd n5 n6 w4 ⟨j,hj,e,gX⟩;cases e
  refine T.at ?_ gX;have e5:=nL j;apply fV<;>intro g1
  ·have cf:j<al.length:=by omega
   have gy:=aj cf;have hy:=hbo _ (bR cf);have hyk:=Bo _ (bR cf);generalize al[j]=y at gy hy hyk;obtain⟨y0,gy0,hf0⟩:=Ym j y gy;refine iN (hh:=Has.refl) (Uy (g:=aK) (λ_=>rfl)) ⟨by omega,by omega⟩ rfl λa ha=>?_;rw[ao];refine jH (hh:=Has.refl) (Uy (g:=aK) (λ_=>rfl)) ha gy rfl ?_;apply ws;intros;rename_i r5;refine PR Bo (by omega) (hev y.aZ).1 (hev y.aZ).2 ?_;apply ws;refine Ir hyk hy.1 hy.2.1 hy.2.2.1 hy.2.2.2.1 hy.2.2.2.2 ?_;apply ws;refine T.pl [1,1,1] ?_;refine AK (m:=⟨m2.cy,m2.ax,0,0⟩) (by show m2.ax.length<_;omega) gy0 (MQ.Zq y0 (cb gy0)) MQ.rkK ?_;dsimp only;rw[hf0];apply ws;refine JJ rfl rfl ?_;rw[OY,av rfl];apply ws;rw[e5];refine T.pl [3] (T.drop λw3 h3=>⟨⟨j+1,cf,rfl,h3⟩,by show al.length-((j+1:Nat):Int).toNat<al.length-(j:Int).toNat;omega⟩)
  ·exact T.drop (T.drop (T.drop (T.drop (fin S' m2 mf2 (hw.ki hk) KL aec E2))))
end Go.Up
namespace Go.Sep
open Go.Den Go.RowKit Go.ChangeShapes Go.WideShapes
inductive NK where
 |c(k:CK)
 |sl(ks:List CK)
def abI(P:Program)(f:TypeId->Option (List NK)):Nat->List Field->Option (List NK)
 |_,[]=>some []
 |o,fd::r=>match f fd.type with
  |some a=>if fd.offset=o/\P.cellsOf fd.type=a.length then(abI P f (o+a.length) r).map (a++·) else none
  |none=>none
def nk(P:Program):Nat->TypeId->Option (List NK)
 |0,_=>none
 |n+1,t=>match P.underlying t with
  |some (.int k)=>some [.c (.i k)]
  |some .bool=>some [.c .b]
  |some (.slice e)=>match flat P n e with
   |some ks=>if P.cellsOf e=ks.length/\0<P.bytesOf e then some [.sl ks] else none
   |none=>none
  |some (.struct fs)=>abI P (nk P n) 0 fs.toList
  |_=>none
section
variable {H:Type} {enc:TypeId×Value->H} {P:Program} {w:World} {base:Nat} {spare:Nat->Bool} {held:Bool}
end
end Go.Sep
namespace Go.Up
open Go.Sep Go.Den Go.RowKit Go.Prog Go.Md Go.cD
section
variable {xs:LV} {o j:Nat}
end
def aby{α:Type}{W:World}{b:OA}{n e:Nat}{xs:LV}{g:α->LV}{l:List α}(hr:Ro W b n e xs)(hn:l.length=n)(hg:∀a,(g a).length=e)
 (hx:∀i a,l[i]?=some a->∀j,j<e->xs[i* e+j]?=(g a)[j]?):nK W [] g e b l:=λw hw i x hi=>by
 have cf:=(aw.1 hi).1;cases b with
 |none=>have:=hr.2.1 rfl;omega
 |some a=>
  refine⟨a,rfl,λj v hv=>?_⟩;have hj:j<e:=by rw[<-hg x];exact(aw.1 hv).1
  rw[add_add];exact hr.cell rfl hw (by rw[hx i x hi j hj];exact hv)
def Ty{α:Type}{W:World}{b:OA}{n e:Nat}{xs:LV}{g:α->LV}{P:α->Prop}(hg:∀x,(g x).length=e)(hr:Ro W b n e xs)(he:∀i,i<n->∃x,P x/\∀j,j<e->xs[i* e+j]?=(g x)[j]?):∃l:List α,l.length=n/\nK W [] g e b l/\∀x∈l,P x:=by
 have key:∀m,m<=n->∃l:List α,l.length=m/\(∀i x,l[i]?=some x->∀j,j<e->xs[i* e+j]?=(g x)[j]?)/\∀x∈l,P x:=by
  intro m
  induction m with
  |zero=>exact λ_=>⟨[],rfl,λi x h=>by simp at h,by simp⟩
  |succ m ih=>
   intro hm;obtain⟨l,h1,h2,h3⟩:=ih (by omega);obtain⟨x,hx,hc⟩:=he m (by omega);refine⟨l++[x],by simp[h1],λi y hi=>?_,λy hy=>?_⟩
   ·by_cases cf:i<l.length
    ·rw[dB cf] at hi;exact h2 i y hi
    ·rw[iz (by omega)] at hi;have e:i=m:=by
      have:=(aw.1 hi).1;simp at this;omega
     subst e;rw[h1,lu] at hi;cases hi
     exact hc
   ·rcases dF.1 hy with h|h
    ·exact h3 y h
    ·simp at h;subst h;exact hx
 obtain⟨l,h1,h2,h3⟩:=key n (aG n);exact⟨l,h1,aby hr h1 hg h2,h3⟩
abbrev tsK:List CK:=[.i .i64,.s,.i .u64,.i .i64,.i .i64,.i .i64]
def tss{W:World}{b:OA}{n:Nat}{xs:LV}(hr:Ro W b n 6 xs)(he:Uo tsK n xs)(hm:n<=maxLen):∃l:List TS,n=l.length/\nK W [] Cg 6 b l/\aaU l:=by
 have LQ:reachBytes<=140737488355328:=by decide
 obtain⟨l,h1,h2,h3⟩:=Ty (g:=Cg) (P:=λx=>x.b.length<=140737488355328) (λ_=>rfl) hr λi hi=>by
  have h:=he i hi;obtain⟨_,q0,n0,rfl,_⟩:=h 0 _ rfl;obtain⟨_,q1,n1,rfl,hs⟩:=h 1 _ rfl;obtain⟨_,q2,n2,rfl,_⟩:=h 2 _ rfl;obtain⟨_,q3,n3,rfl,_⟩:=h 3 _ rfl;obtain⟨_,q4,n4,rfl,_⟩:=h 4 _ rfl;obtain⟨_,q5,n5,rfl,_⟩:=h 5 _ rfl;refine⟨⟨n0,n1.data.toList,n2,n3,n4,n5⟩,y9 hs LQ,λj hj=>?_⟩
  match j,hj with
  |0,_=>exact q0
  |1,_=>exact q1
  |2,_=>exact q2
  |3,_=>exact q3
  |4,_=>exact q4
  |5,_=>exact q5
  |j+6,h=>exact aT h (by omega)
 exact⟨l,h1.symm,h2,by rw[h1];exact hm,h3⟩
end Go.Up
namespace Go.Den
inductive Kd
 |i(k:IntKind)|b|s|p|q|l|g|v
abbrev Fu:List Kd->Type
 |[]=>VK->WK
 | .i _::r=>Int->Fu r
 | .b::r=>Bool->Fu r
 | .s::r=>BA->Fu r
 | .p::r=>OA->Fu r
 | .q::r=>Addr->Fu r
 | .l::r=>OA->Nat->Nat->Fu r
 | .g::r=>LV->Fu r
 | .v::r=>Value->Fu r
abbrev Kd.n:Kd:=.i .i64
abbrev vi:Value:=.i 0
abbrev vu:Value:=.u 0
abbrev vp:Value:=.p none
abbrev vq:Value:=.p (some ⟨0,0,none⟩)
abbrev vl:Value:=.l none 0 0
abbrev vb:Value:=.bool false
def U:(k:List Kd)->Fu k->WP
 |[],F=>λa K=>match a with|[]=>F K|_=>no
 | .i t::r,F=>λa K=>match a with| .int t' n::a=>if t'=t then U r (F n) a K else no|_=>no
 | .b::r,F=>λa K=>match a with| .bool x::a=>U r (F x) a K|_=>no
 | .s::r,F=>λa K=>match a with| .string x::a=>U r (F x) a K|_=>no
 | .p::r,F=>λa K=>match a with| .pointer x::a=>U r (F x) a K|_=>no
 | .q::r,F=>λa K=>match a with| .pointer (some x)::a=>U r (F x) a K|_=>no
 | .l::r,F=>λa K=>match a with| .slice x n c::a=>U r (F x n c) a K|_=>no
 | .g::r,F=>λa K=>match a with| .agg ⟨x⟩::a=>U r (F x) a K|_=>no
 | .v::r,F=>λa K=>match a with|x::a=>U r (F x) a K|_=>no
def cur:(k:List Kd)->WP->Fu k
 |[],B=>B []
 | .i t::r,B=>λn=>cur r λa=>B (.int t n::a)
 | .b::r,B=>λx=>cur r λa=>B (.bool x::a)
 | .s::r,B=>λx=>cur r λa=>B (.string x::a)
 | .p::r,B=>λx=>cur r λa=>B (.p x::a)
 | .q::r,B=>λx=>cur r λa=>B (.p (some x)::a)
 | .l::r,B=>λx n c=>cur r λa=>B (.l x n c::a)
 | .g::r,B=>λx=>cur r λa=>B (.agg ⟨x⟩::a)
 | .v::r,B=>λx=>cur r λa=>B (x::a)
def Bf:∀(k:List Kd)(B:WP) {a:LV} {K:VK} {w:World},U k (cur k B) a K w->a.length=k.length/\B a K w
 |[],B,a,K,w,h=>by
  unfold U at h;split at h
  ·exact⟨rfl,h⟩
  ·exact h.elim
 | .i t::r,B,a,K,w,h=>by
   unfold U at h;split at h
   ·split at h
    ·rename_i e;subst e;obtain⟨h1,h2⟩:=Bf r _ h;exact⟨by rw[bt,h1];rfl,h2⟩
    ·exact h.elim
   ·exact h.elim
 | .b::r,B,a,K,w,h=>by
   unfold U at h;split at h
   ·obtain⟨h1,h2⟩:=Bf r _ h;exact⟨by rw[bt,h1];rfl,h2⟩
   ·exact h.elim
 | .s::r,B,a,K,w,h=>by
   unfold U at h;split at h
   ·obtain⟨h1,h2⟩:=Bf r _ h;exact⟨by rw[bt,h1];rfl,h2⟩
   ·exact h.elim
 | .p::r,B,a,K,w,h=>by
   unfold U at h;split at h
   ·obtain⟨h1,h2⟩:=Bf r _ h;exact⟨by rw[bt,h1];rfl,h2⟩
   ·exact h.elim
 | .q::r,B,a,K,w,h=>by
   unfold U at h;split at h
   ·obtain⟨h1,h2⟩:=Bf r _ h;exact⟨by rw[bt,h1];rfl,h2⟩
   ·exact h.elim
 | .l::r,B,a,K,w,h=>by
   unfold U at h;split at h
   ·obtain⟨h1,h2⟩:=Bf r _ h;exact⟨by rw[bt,h1];rfl,h2⟩
   ·exact h.elim
 | .g::r,B,a,K,w,h=>by
   unfold U at h;split at h
   ·obtain⟨h1,h2⟩:=Bf r _ h;exact⟨by rw[bt,h1];rfl,h2⟩
   ·exact h.elim
 | .v::r,B,a,K,w,h=>by
   unfold U at h;split at h
   ·obtain⟨h1,h2⟩:=Bf r _ h;exact⟨by rw[bt,h1];rfl,h2⟩
   ·exact h.elim
end Go.Den
