/- Part of the proof: see the last text. -/
import Derived.Test.YtfijieggfhnpeaaGreatDoorPC
import Derived.Test.YtfijieggfhnpeaaGreatDoorPB
import Derived.Test.YtfijieggfhnpeaaGreatDoorPA
import Derived.RangeFuncRecord
import Derived.RangeFuncCalls
import Derived.OrdersIn
import Derived.TacticsIn
import Derived.RangeFuncOwn
set_option linter.all false
set_option maxRecDepth 100000
set_option synthInstance.maxSize 100000
open Array renaming toList_map→AB
open Bool renaming true_and→dX,eq_iff_iff→ec,false_and→gI,and_eq_true→cY,false_eq_true→cn,false_ne_true→py
open Go.IntKind renaming i64→ag
open Int renaming toNat_natCast→aq,eq_ofNat_of_zero_le→bD,fdiv_eq_ediv_of_nonneg→CR,le_refl→u0
open List renaming getElem?_eq_getElem→ao,length_take→aG,length_drop→aV,take_length→bF,take_add_one→bP,getElem_mem→bT,length_map→cu,map_append→cS,length_reverse→ga,getElem?_of_mem→qO,take_of_length_le→bg,append_nil→bN,Sublist→cm,filter_cons_of_pos→oA,filter_cons_of_neg→oB,mem_of_getElem?→iF,length_append→ak,append_assoc→aI,length_cons→bw,Perm→bA,nil_append→dm,getElem?_map→dC,flatMap_cons→eP,flatMap_append→fC,getElem?_eq_some_iff→ar,perm_append_comm→bC,range→mD,map_congr_left→od,all_eq_true→kh,mem_map→dK,ext_getElem?→jq,pairwise_iff_getElem→nh,getElem?_take→pw,take_zero→qM,find?_eq_none→sX,length_nil→dH,drop_eq_getElem_cons→jX,getElem?_cons_succ→aW,drop_zero→oC,set_set→gW,set_cons_succ→kf,getElem?_append_left→bM,getElem?_append_right→jo,perm_middle→fD,mem_append→dG,mem_or_eq_of_mem_set→ru,mem_cons→gK,map_cons→fq,mem_cons_self→mE,getElem?_range→lz,length_singleton→Hy,replicate→aM,cons_append→fE,length_replicate→gi,mem_cons_of_mem→qN,mem_singleton→fO,getElem?_eq_none→gj,drop_of_length_le→eH,getElem?_drop→px,drop_drop→Jv,length_set→jC
open Nat renaming zero_add→az,le_refl→aC,zero_le→aL,pow_le_pow_right→ja,lt_of_le_of_lt→ni,sub_self→sH,mul_le_mul_right→fS,add_mul→lq,mod_eq_of_lt→eX,reduceAdd→ae,reduceMul→af,le_of_ble_eq_true→aH,mul_one→mQ,add_zero→iL,eq_of_beq_eq_true→df,beq→fe
open Option renaming isSome_some→cB,isSome_none→dj,getD_some→dk,getD_none→eV,map→so,some→bj,map_some→dN
namespace Go.Up
open Go.Sep Go.Den Go.RowKit Go.Prog Go.Md Go.bE
def uu(b:aO)(p:kR):bS:=(b.ax[p.2.toNat]?).getD zK
def XH(b:aO)(from_ toX:Int)(ur:Bool):List bS:=
 (if ur then(nI from_ toX (dD 0 b.ax)).reverse else nI from_ toX (dD 0 b.ax)).map (uu b)
def BM{from_ toX:Int}{l:List kR}{x:kR}(h:x∈nI from_ toX l):x∈l:=List.mem_of_mem_drop (List.mem_of_mem_take h)
def C0{l:List bS}{x:kR}(h:x∈dD 0 l):∃(j:Nat)(k:bS),l[j]?=some k/\x=(k.move.aw,(j:Int)):=by
 obtain⟨j,hj⟩:=qO h;rw[jj] at hj;cases hl:l[j]? with
 |none=>rw[hl] at hj;cases hj
 |some k=>rw[hl] at hj;simp at hj;exact⟨j,k,hl,hj.symm⟩
def O9(k:bS):(bU k).length=33:=rfl
section
variable {W:World} {L R:LH} {K:VK} {X:WK} {p:Nat} {b:aO} {hs:List C} {f:aO×List C->LH}
def MU[i:Lc (bX p) L (b,hs) f]{from_ toX:Int}{ur:Bool}(h:∀b' c' out,out=XH b from_ toX ur->T W (own b' out.length c' 33 (out.flatMap bU)::L) (K (.l b' out.length c'))):
 T W L (kT (ai p) from_ toX ur K):=by
 have hL:f (b,hs)=L:=i.same;refine HA (p:=p) λla lk ti tn vs bx R hg hc nR=>?_;have many:=hg.many;unfold kT;apply vh;apply K2;simp only[dh,az];refine MD (p:=p) hg.vo (by show(dD 0 b.ax).length<_;rw[ji];omega) λb' c' out ho=>?_;have qJ:∀x∈out,∃(j:Nat)(k:bS),b.ax[j]?=some k/\x=(k.move.aw,(j:Int)):=λx hx=>C0 (by
  rw[ho] at hx
  split at hx
  ·exact BM (List.mem_reverse.1 hx)
  ·exact BM hx)
 have WL:out.length<=96:=by
  have h1:∀x:List kR,x=nI from_ toX (dD 0 b.ax)->x.length<=96:=λx hx=>by
   rw[hx];unfold nI;rw[aG,aV,ji];omega
  rw[ho];split
  ·rw[ga];exact h1 _ rfl
  ·exact h1 _ rfl
 have adC:out.map (uu b)=XH b from_ toX ur:=by rw[ho];rfl
 clear ho;refine wE ?_;refine jr (e:=33) ?_;intro w l7;refine⟨λvv w=>∃(i:Nat)(bo:OA)(cc:Nat)(done:List bS),i<=out.length/\done=(out.take i).map (uu b)/\vv=[.l none 0 0,.l bo done.length cc,.l b' out.length c',.i (out.length:Int),.i (i:Int)]/\
  St W w (own bo done.length cc 33 (done.flatMap bU)::own b' out.length c' 2 (out.flatMap mj)::fb p (eK la lk ti tn vs (dT b))::pE aP 14 la (p,(dT b).aB)::pE bU 33 lk (p,(dT b).ax)::l9 ti (dT b).mB::l9 tn (dT b).fm::sT bx::R),
  mq 4 out.length,⟨0,none,0,[],aL _,by simp,rfl,l7⟩,?_⟩
 rintro mg jJ mP bo oP cc xx wF xY n3 n4 w2 ⟨i,b0,c0,done,hi,pc,e,gJ⟩;cases e
 refine T.at ?_ gJ;have e5:=oe i;have Ku:done.length=i:=by rw[pc,cu,aG];omega
 apply gO<;>intro g1
 ·have bW:i<out.length:=by omega
  have gx:=ao bW;have gm:=bT bW;generalize out[i]=x at gx gm;obtain⟨j,k,hk,rfl⟩:=qJ x gm;have hka:uu b (k.move.aw,(j:Int))=k:=by unfold uu;dsimp only;rw[aq,hk];rfl
  have sw:(done++[k])=(out.take (i+1)).map (uu b):=by rw[bP,gx,cS,<-pc];simp[hka]
  refine gu (b:=b') ⟨by omega,by omega⟩ λrb hb=>?_;subst hb;rw[aq];apply jH k7 gx
  repeat' first|apply ws;intros|apply wb
  ·refine Qs (l:=lk) (x:=k) hk (by show b.ax.length<_;omega) ?_;apply ws;intros;refine mU (b:=bo) (x:=k) rfl rfl rfl (by omega) (by omega) (m8 _) λb2 c2=>?_;rw[e5];refine T.drop (T.drop (T.drop ?_));exact λw3 h3=>⟨⟨i+1,b2,c2,done++[k],bW,sw,by simp,by simpa using h3⟩,dn (by omega)⟩
  ·refine Qs (l:=lk) (x:=k) hk (by show b.ax.length<_;omega) ?_;apply ws;intros;refine mU (b:=bo) (x:=k) rfl rfl rfl (by omega) (by omega) (m8 _) λb2 c2=>?_;rw[e5];refine T.drop (T.drop (T.drop ?_));exact λw3 h3=>⟨⟨i+1,b2,c2,done++[k],bW,sw,by simp,by simpa using h3⟩,dn (by omega)⟩
 ·have kP:i=out.length:=by omega
  subst kP;rw[bF] at pc;have:=nR [_] b hs vs bx _ hg hc (by rw[hL];exact h bo cc done (pc.trans adC));apply T.sub this;exact sg
def XP[i:Lc (bX p) L (b,hs) f][hh:Has R L]{s:OA}{c:Nat}{ids:List Nat}(hr:kF W R nm 2 s ids)(hl:ids.length<=1000)
 (h:∀b' c' out,out=ids.filterMap b.find->T W (own b' out.length c' 14 (out.flatMap aP)::L) (K (.l b' out.length c'))):T W L (q8 (some ⟨p,0,none⟩) s ids.length c K):=by
 unfold q8;refine jr (e:=14) ?_;intro w l7;refine⟨λvv w=>∃(i:Nat)(bo:OA)(cc:Nat)(done:List bp),i<=ids.length/\done=(ids.take i).filterMap b.find/\done.length<=i/\vv=[.l none 0 0,.l bo done.length cc,.l s ids.length c,.i (ids.length:Int),.i (i:Int)]/\
  St W w (own bo done.length cc 14 (done.flatMap aP)::L),
  mq 4 ids.length,⟨0,none,0,[],aL _,by simp,aC _,rfl,l7⟩,?_⟩
 rintro mg jJ mP bo oP cc xx wF xY n3 n4 w2 ⟨i,b0,c0,done,hi,pc,Ku,e,gJ⟩;cases e
 refine T.at ?_ gJ;have e5:=oe i;apply gO<;>intro g1
 ·have bW:i<ids.length:=by omega
  have gx:=ao bW;generalize ids[i]=x at gx;have jZ:(ids.take (i+1)).filterMap b.find=done++(b.find x).toList:=by
   rw[bP,gx,List.filterMap_append,<-pc]
   congr 1
  refine iu hr ⟨by omega,by omega⟩ rfl λa ha=>?_;rw[aq];apply je hr ha gx rfl
  repeat' first|apply ws;intros|apply wb|refine tP (p:=p) ?_
  rw[e5];cases hf:b.find x with
  |none=>
   rw[hf] at jZ;simp only[dj,eV];apply ws;refine T.drop (T.drop ?_);exact λw3 h3=>⟨⟨i+1,bo,cc,done,bW,by simp[jZ],by omega,rfl,h3⟩,dn (by omega)⟩
  |some a2=>
   rw[hf] at jZ;simp only[cB,dk];apply ws;intros;refine mU (b:=bo) (x:=a2) rfl rfl rfl (by omega) (by omega) (iZ _) λb2 c2=>?_;refine T.drop (T.drop (T.drop ?_));exact λw3 h3=>⟨⟨i+1,b2,c2,done++[a2],bW,by simpa using jZ.symm,by simp;omega,by simp,by simpa using h3⟩,dn (by omega)⟩
 ·have kP:i=ids.length:=by omega
  subst kP;rw[bF] at pc;exact h bo cc done pc
def XO[i:Lc (bX p) L (b,hs) f][hh:Has R L]{s:OA}{c:Nat}{ids:List Nat}(hr:kF W R nm 2 s ids)(hl:ids.length<=1000)
 (h:∀b' c' out,out=ids.filterMap (λid=>(b.named id).map (·.move))->T W (own b' out.length c' 16 (out.flatMap aX)::L) (K (.l b' out.length c'))):T W L (qn (some ⟨p,0,none⟩) s ids.length c K):=by
 unfold qn;refine jr (e:=16) ?_;intro w l7;refine⟨λvv w=>∃(i:Nat)(bo:OA)(cc:Nat)(done:List cj),i<=ids.length/\done=(ids.take i).filterMap (λid=>(b.named id).map (·.move))/\done.length<=i/\vv=[.l none 0 0,.l bo done.length cc,.l s ids.length c,.i (ids.length:Int),.i (i:Int)]/\
  St W w (own bo done.length cc 16 (done.flatMap aX)::L),
  mq 4 ids.length,⟨0,none,0,[],aL _,by simp,aC _,rfl,l7⟩,?_⟩
 rintro mg jJ mP bo oP cc xx wF xY n3 n4 w2 ⟨i,b0,c0,done,hi,pc,Ku,e,gJ⟩;cases e
 refine T.at ?_ gJ;have e5:=oe i;apply gO<;>intro g1
 ·have bW:i<ids.length:=by omega
  have gx:=ao bW;generalize ids[i]=x at gx;have jZ:(ids.take (i+1)).filterMap (λid=>(b.named id).map (·.move))=done++((b.named x).map (·.move)).toList:=by
   rw[bP,gx,List.filterMap_append,<-pc]
   congr 1
  refine iu hr ⟨by omega,by omega⟩ rfl λa ha=>?_;rw[aq];apply je hr ha gx rfl
  repeat' first|apply ws;intros|apply wb|refine Fp (p:=p) ?_
  rw[e5];cases hf:b.named x with
  |none=>
   rw[hf] at jZ;simp only[dj,eV];apply ws;refine T.drop (T.drop ?_);exact λw3 h3=>⟨⟨i+1,bo,cc,done,bW,by simp[jZ],by omega,rfl,h3⟩,dn (by omega)⟩
  |some a2=>
   rw[hf] at jZ;simp only[cB,dk];apply ws;intros;refine mU (b:=bo) (x:=a2.move) rfl rfl rfl (by omega) (by omega) (qv _) λb2 c2=>?_;refine T.drop (T.drop (T.drop ?_));exact λw3 h3=>⟨⟨i+1,b2,c2,done++[a2.move],bW,by simpa using jZ.symm,by simp;omega,by simp,by simpa using h3⟩,dn (by omega)⟩
 ·have kP:i=ids.length:=by omega
  subst kP;rw[bF] at pc;exact h bo cc done pc
end
instance{q:iA}:Sub (qA q) 0 2 (nm q.wX):=⟨rfl,λj v h=>by
 rw[az]
 match j with
 |0=>exact h
 |1=>exact h
 |j+2=>simp[nm] at h⟩
instance{k:bS}:Sub (bU k) 18 2 (nm k.move.bq):=⟨rfl,(sJ (cs:=bU k) (o:=18) (n:=k.move.bq) rfl rfl).2⟩
instance{k:bS}:Sub (bU k) 20 2 (nm k.move.aU):=⟨rfl,(sJ (cs:=bU k) (o:=20) (n:=k.move.aU) rfl rfl).2⟩
def GS(q:iA):∀v∈qA q,v.oneCell'=true:=λv h=>by
 simp[qA,nm] at h;rcases h with rfl|rfl|rfl|rfl|rfl|rfl|rfl|rfl<;>rfl
instance{x1 x2 x3 x4 x5 x6 x7 x8:Value}{q:iA}:Wr [x1,x2,x3,x4,x5,x6,x7,x8] 0 (qA q) (qA q):=⟨rfl,aC _,GS q⟩
def fits(q:iA)(k:bS):Bool:=(q.vK&&decide (k.move.bq=q.wX))||(q.sz&&decide (k.move.aU=q.wX))
def Y5(b:aO)(q:iA):List cj:=(((XH b q.pG q.FA q.pF).filter (fits q)).take q.oQ.toNat).map (·.move)
def FP{α:Type}{P:α->Bool}{l:List α}{i n:Nat}{x:α}(hx:l[i]?=some x):
 ((l.take (i+1)).filter P).take n=if(((l.take i).filter P).take n).length<n then(if P x then((l.take i).filter P).take n++[x] else((l.take i).filter P).take n) else((l.take i).filter P).take n:=by
 rw[bP,hx,List.filter_append];show(_++[x].filter P).take n=_;generalize (l.take i).filter P=A;rw[aG];by_cases h:min n A.length<n
 ·rw[aj h];have hA:A.length<n:=by omega
  by_cases hp:P x=true
  ·rw[aj hp,oA hp,List.filter_nil,bg (by simp;omega),bg (by omega)]
  ·rw[ah hp,oB hp,List.filter_nil,bN]
 ·rw[ah h,List.take_append_of_le_length (by omega)]
section
variable {W:World} {L R:LH} {K:VK} {X:WK} {p:Nat} {b:aO} {hs:List C} {f:aO×List C->LH} {q:iA} {s:rY}
def OO{I1:LV->World->Prop}{pz:LV->World->Nat}{M:LH}{r1 r2 cc wF xY:Nat}{bo xx:OA}{done:List cj}{x:bS}{n3 n4:Int}{w2:World}{g:LV->LH}
 (hA:(done.length<q.oQ.toNat/\fits q x=true)->∀b2 c2,T W (own b2 (done.length+1) c2 16 ((done++[x.move]).flatMap aX)::M) (λw3=>I1 [.p (some (ad r1 0)),.l none 0 0,.l b2 (done.length+1) c2,.l xx wF xY,.i n3,.i (ag.wrap (n4+1))] w3/\
  pz [.p (some (ad r1 0)),.l none 0 0,.l b2 (done.length+1) c2,.l xx wF xY,.i n3,.i (ag.wrap (n4+1))] w3<pz [.p (some (ad r1 0)),.l none 0 0,.l bo done.length cc,.l xx wF xY,.i n3,.i n4] w2))
 (hN: ¬(done.length<q.oQ.toNat/\fits q x=true)->T W (own bo done.length cc 16 (done.flatMap aX)::M) (λw3=>I1 [.p (some (ad r1 0)),.l none 0 0,.l bo done.length cc,.l xx wF xY,.i n3,.i (ag.wrap (n4+1))] w3/\
  pz [.p (some (ad r1 0)),.l none 0 0,.l bo done.length cc,.l xx wF xY,.i n3,.i (ag.wrap (n4+1))] w3<pz [.p (some (ad r1 0)),.l none 0 0,.l bo done.length cc,.l xx wF xY,.i n3,.i n4] w2))
 [i1:Lc (Sep.pt r1) M (qA q) g](R8:0<=q.oQ/\q.oQ<=16)(hd:done.length<=1000):
 T W (Sep.pt r2 (bU x)::own bo done.length cc 16 (done.flatMap aX)::M) (br q.vK (aD (ad r2 18) 2 λsY=>aD (ad r1 0) 2 λA6=>lK [.u 0,.u 0] sY A6 λb8=>ke.j1 K (ad r1 0) r2 done.length bo cc I1 none 0 0 xx wF xY n3 n4 pz w2 b8)
   (ke.j1 K (ad r1 0) r2 done.length bo cc I1 none 0 0 xx wF xY n3 n4 pz w2 false)):=by
 have j3:∀yes:Bool,(yes=true↔done.length<q.oQ.toNat/\fits q x=true)->T W (Sep.pt r2 (bU x)::own bo done.length cc 16 (done.flatMap aX)::M) (ke.j3 K r2 bo done.length cc I1 (ad r1 0) none 0 0 xx wF xY n3 n4 pz w2 yes):=λyes hy=>by
  unfold ke.j3;cases yes with
  |true=>
   apply ws;intros;refine mU (b:=bo) (x:=x.move) rfl rfl rfl (by omega) (by omega) (qv _) λb2 c2=>?_;exact T.drop (T.drop (hA (hy.1 rfl) b2 c2))
  |false=>
   apply ws;exact T.drop (hN λhh=>by have:=hy.2 hh;cases this)
 have j2:∀b2 b3:Bool,(b2||b3)=fits q x->T W (Sep.pt r2 (bU x)::own bo done.length cc 16 (done.flatMap aX)::M) (ke.j2 K (ad r1 0) done.length b2 r2 bo cc I1 none 0 0 xx wF xY n3 n4 pz w2 b3):=λb2 b3 hb=>by
  unfold ke.j2;apply ws;apply gO<;>intro g1
  ·cases b2 with
   |true=>
    apply ws;refine j3 true ⟨λ_=>⟨by omega,by rw[<-hb];rfl⟩,λ_=>rfl⟩
   |false=>
    apply ws;rw[Bool.false_or] at hb;refine j3 b3 ⟨λh=>⟨by omega,by rw[<-hb];exact h⟩,λh=>by rw[hb];exact h.2⟩
  ·refine j3 false ⟨λh=>(by cases h),λh=>(by omega)⟩
 have j1:∀b2:Bool,b2=(q.vK&&decide (x.move.bq=q.wX))->T W (Sep.pt r2 (bU x)::own bo done.length cc 16 (done.flatMap aX)::M) (ke.j1 K (ad r1 0) r2 done.length bo cc I1 none 0 0 xx wF xY n3 n4 pz w2 b2):=λb2 hb=>by
  unfold ke.j1;apply ws;cases hc:q.sz with
  |true=>
   apply ws;apply j2 _ _;unfold fits;rw[hb,hc,dX]
  |false=>
   apply ws;apply j2 _ _;unfold fits;rw[hb,hc,gI]
 cases ZW:q.vK with
 |true=>
  apply ws;apply j1 _;rw[ZW,dX]
 |false=>
  apply ws;apply j1 _;rw[ZW,gI]
def afN[i:Lc (bX p) L (b,hs) f](R8:0<=q.oQ/\q.oQ<=16)(h:∀b' c' out,out=Y5 b q->T W (own b' out.length c' 16 (out.flatMap aX)::L) (K (.l b' out.length c'))):
 T W L (ke (ai p) (qA q) K):=by
 unfold ke;refine nG (p:=p) λhg=>?_;have many:=hg.many;have Z2:(XH b q.pG q.FA q.pF).length<=96:=by
  unfold XH;rw[cu];have h1:(nI q.pG q.FA (dD 0 b.ax)).length<=96:=by unfold nI;rw[aG,aV,ji];omega
  split
  ·rw[ga];exact h1
  ·exact h1
 apply ws;intros;rename_i r1;refine MU (p:=p) λbb bc l hl=>?_;rw[<-hl] at Z2;apply ws;refine jr (e:=16) ?_;intro w l7;refine⟨λvv w=>∃(i:Nat)(bo:OA)(cc:Nat)(done:List cj),i<=l.length/\done=(((l.take i).filter (fits q)).take q.oQ.toNat).map (·.move)/\done.length<=i/\vv=[.p (some (ad r1 0)),.l none 0 0,.l bo done.length cc,.l bb l.length bc,.i (l.length:Int),.i (i:Int)]/\
                                                                 St W w (own bo done.length cc 16 (done.flatMap aX)::own bb l.length bc 33 (l.flatMap bU)::Sep.pt r1 (qA q)::L),
  mq 5 l.length,⟨0,none,0,[],aL _,by simp,aC _,rfl,l7⟩,?_⟩
 rintro a1 mg jJ mP bo oP cc xx wF xY n3 n4 w2 ⟨i,b0,c0,done,hi,pc,Ku,e,gJ⟩;cases e
 refine T.at ?_ gJ;have e5:=oe i;apply gO<;>intro g1
 ·have bW:i<l.length:=by omega
  have gx:=ao bW;generalize l[i]=x at gx;have jZ:=FP (P:=fits q) (n:=q.oQ.toNat) gx;have yI:done.length=(((l.take i).filter (fits q)).take q.oQ.toNat).length:=by rw[pc,cu]
  rw[<-yI] at jZ;have sw:(((l.take (i+1)).filter (fits q)).take q.oQ.toNat).map (·.move)=if done.length<q.oQ.toNat/\fits q x=true then done++[x.move] else done:=by
   rw[jZ];by_cases c1:done.length<q.oQ.toNat
   ·rw[aj c1];by_cases c2:fits q x=true
    ·rw[aj c2,aj ⟨c1,c2⟩,cS,<-pc];rfl
    ·rw[ah c2,ah (λh=>c2 h.2),<-pc]
   ·rw[ah c1,ah (λh=>c1 h.1),<-pc]
  refine gu (b:=bb) ⟨by omega,by omega⟩ λrb hb=>?_;subst hb;rw[aq];apply jH O9 gx;apply ws;intros;rename_i r2;refine OO (r1:=r1) (r2:=r2) (bo:=bo) (x:=x) (M:=own (ai rb) l.length bc 33 (l.flatMap bU)::Sep.pt r1 (qA q)::L) (λhy b2 c2=>?_) (λhy=>?_) R8 (by omega)
  ·rw[e5];rw[aj hy] at sw;exact λw3 h3=>⟨⟨i+1,b2,c2,done++[x.move],bW,sw.symm,by simp;omega,by simp,by simpa using h3⟩,dn (by omega)⟩
  ·rw[e5];rw[ah hy] at sw;exact λw3 h3=>⟨⟨i+1,bo,cc,done,bW,sw.symm,by omega,rfl,h3⟩,dn (by omega)⟩
 ·have kP:i=l.length:=by omega
  subst kP;rw[bF] at pc;have:=h bo cc done (by rw[pc,hl];rfl);apply T.sub this;exact sg
def oN(q:iA):Bool:=
 if q.op=4\/q.op=5 then decide (1<=q.ids.length)&&decide (q.ids.length<=16)
 else if q.op=6 then decide (0<=q.pG/\0<=q.FA/\1<=q.oQ/\q.oQ<=16)&&(q.vK||q.sz) else false
def ask(m:aK)(q:iA):Int×List bp×List cj:=
 if oN q=false then(1,[],[])
 else if q.op=4 then(0,q.ids.filterMap (bo m).find,[])
 else if q.op=5 then(0,[],q.ids.filterMap λid=>((bo m).named id).map (·.move))
 else(0,[],Y5 (bo m) q)
def Hr(h:T W L (K (.b (oN q)))):T W L (fp (ff q s) K):=by
 have main:∀(r1:Nat)(b1:Bool),b1=decide (q.op=4\/q.op=5)->T W (Sep.pt r1 (ff q s)::L) (fp.j1 K r1 q.op b1):=λr1 b1 hb=>by
  unfold fp.j1;unfold oN at h;by_cases h45:q.op=4\/q.op=5
  ·rw[aj h45] at h;rw[aA h45] at hb;subst hb;apply ws;apply gO<;>intro g2
   ·rw[aA (by omega),dX] at h;apply ws;apply T.fin (T.dp h);congr 1;rw[decide_eq_decide];omega
   ·rw[ay (by omega),gI] at h;exact T.dp h
  ·rw[ah h45] at h;rw[ay h45] at hb;subst hb;rw[fo];apply dz<;>intro g6
   ·have g6:q.op=6:=by simpa using g6
    rw[aj g6] at h;apply ws;intros;rename_i r2;have j4:∀b4:Bool,b4=decide (0<=q.pG/\0<=q.FA/\1<=q.oQ/\q.oQ<=16)->T W (Sep.pt r2 (qA q)::Sep.pt r1 (ff q s)::L) (fp.j4 K r2 b4):=λb4 h4=>by
     unfold fp.j4;rw[<-h4] at h;cases b4 with
     |true=>
      apply ws;rw[dX] at h;cases hd:q.vK with
      |true=>
       rw[hd] at h;apply ws;exact T.dp h
      |false=>
       rw[hd,Bool.false_or] at h;apply ws;exact T.dp h
     |false=>
      apply ws;rw[gI] at h;exact T.dp h
    have j3:∀b3:Bool,b3=decide (0<=q.pG/\0<=q.FA/\1<=q.oQ)->T W (Sep.pt r2 (qA q)::Sep.pt r1 (ff q s)::L) (fp.j3 K r2 b3):=λb3 h3=>by
     unfold fp.j3;cases b3 with
     |true=>
      apply ws;apply j4 _;have:=bG h3.symm;rw[decide_eq_decide];omega
     |false=>
      apply ws;apply j4 _;have:=cD h3.symm;exact(ay (by omega)).symm
    have j2:∀b2:Bool,b2=decide (0<=q.pG/\0<=q.FA)->T W (Sep.pt r2 (qA q)::Sep.pt r1 (ff q s)::L) (fp.j2 K r2 b2):=λb2 h2=>by
     unfold fp.j2;cases b2 with
     |true=>
      apply ws;apply j3 _;have:=bG h2.symm;rw[decide_eq_decide];omega
     |false=>
      apply ws;apply j3 _;have:=cD h2.symm;exact(ay (by omega)).symm
    apply gO<;>intro g1
    ·apply ws;apply j2 _;rw[decide_eq_decide];omega
    ·apply j2 _;exact(ay (by omega)).symm
   ·have g6: ¬q.op=6:=by simpa using g6
    rw[ah g6] at h;exact T.dp h
 unfold fp;apply ws;intros;apply dz<;>intro g1
 ·have g1':q.op=4:=by simpa using g1
  exact main _ _ (by rw[g1];exact(aA (.inl g1')).symm)
 ·have g1': ¬q.op=4:=by simpa using g1
  exact main _ _ (by rw[ec];simp[g1'])
def ab7{m:aK}(hq:qE W R q s)
 (h:∀ab ac tb tc,T W (own ab (ask m q).2.1.length ac 14 ((ask m q).2.1.flatMap aP)::own tb (ask m q).2.2.length tc 16 ((ask m q).2.2.flatMap aX)::bX p (bo m,[])::R) (K (.agg ⟨ie (ask m q).1 none 0 0 ab (ask m q).2.1.length ac tb (ask m q).2.2.length tc⟩))):
 T W (bX p (bo m,[])::R) (E8 (ai p) (ff q s) K):=by
 unfold E8
 repeat' first|apply ws;intros|apply wb|refine Hr ?_
 cases ge:oN q with
 |false=>
  have e:ask m q=(1,[],[]):=by unfold ask;rw[aj ge]
  rw[e] at h;apply ws;refine T.drop (T.drop ?_);exact jr (e:=16) (jr (e:=14) (h none 0 none 0))
 |true=>
  apply ws;apply dz<;>intro g1
  ·have g1:q.op=4:=by simpa using g1
   have e:ask m q=(0,q.ids.filterMap (bo m).find,[]):=by unfold ask;rw[ah (by rw[ge];decide),aj g1]
   rw[e] at h;have hlen:q.ids.length<=16:=by unfold oN at ge;rw[aj (.inl g1)] at ge;simp at ge;exact ge.2
   apply ws;refine XP (R:=R) (p:=p) hq.ids (by omega) λab ac out ho=>?_;subst ho;apply ws;have:=h ab ac none 0;refine jr (e:=16) (T.Ij ?_);apply T.sub this
   repeat (first|exact cm.refl _|apply cm.cons_cons|apply cm.cons)
  have g1: ¬q.op=4:=by simpa using g1
  apply dz<;>intro g2
  ·have g2:q.op=5:=by simpa using g2
   have e:ask m q=(0,[],q.ids.filterMap λid=>((bo m).named id).map (·.move)):=by unfold ask;rw[ah (by rw[ge];decide),ah g1,aj g2]
   rw[e] at h;have hlen:q.ids.length<=16:=by unfold oN at ge;rw[aj (.inr g2)] at ge;simp at ge;exact ge.2
   apply ws;refine XO (R:=R) (p:=p) hq.ids (by omega) λab ac out ho=>?_;subst ho;apply ws;have:=h none 0 ab ac;refine jr (e:=14) ?_;apply T.sub this
   repeat (first|exact cm.refl _|apply cm.cons_cons|apply cm.cons)
  ·have g2: ¬q.op=5:=by simpa using g2
   have e:ask m q=(0,[],Y5 (bo m) q):=by unfold ask;rw[ah (by rw[ge];decide),ah g1,ah g2]
   rw[e] at h;have R8:0<=q.oQ/\q.oQ<=16:=by
    unfold oN at ge;rw[ah (by omega)] at ge;split at ge
    ·simp at ge;omega
    ·cases ge
   apply ws;refine afN (p:=p) R8 λab ac out ho=>?_;subst ho;apply ws;have:=h none 0 ab ac;refine jr (e:=14) ?_;apply T.sub this
   repeat (first|exact cm.refl _|apply cm.cons_cons|apply cm.cons)
end
def many{α:Type}(nx:RS->RS)(nv:RS->α):Nat->RS->List α×RS
 |0,x=>([],x)
 |n+1,x=>if x.2=true then([],x) else(nv x::(many nx nv n (nx x)).1,(many nx nv n (nx x)).2)
def mu{α:Type}{nx:RS->RS}{nv:RS->α}(n:Nat)(x:RS):many nx nv (n+1) x=if x.2=true then([],x) else(nv x::(many nx nv n (nx x)).1,(many nx nv n (nx x)).2):=rfl
def wm{α:Type}{nx:RS->RS}{nv:RS->α}(x:RS):many nx nv 0 x=([],x):=rfl
def tv{α:Type}{nx:RS->RS}{nv:RS->α}:∀(n:Nat)(x:RS),(many nx nv n x).1.length<=n
 |0,x=>aC _
 |n+1,x=>by unfold many;split<;>simp;exact tv n _
def xi{α:Type}{nx:RS->RS}{nv:RS->α}(h:∀x,(nx x).1.length<=x.1.length):∀(n:Nat)(x:RS),(many nx nv n x).2.1.length<=x.1.length
 |0,x=>aC _
 |n+1,x=>by
  unfold many;split
  ·exact aC _
  ·exact Nat.le_trans (xi h n _) (h x)
def LD(x:RS):0<=gH 1 x/\gH 1 x<=255:=by
 unfold gH;split
 ·omega
 ·have h1:=pZ (x.1.take 1);have h2:(x.1.take 1).length<=1:=by rw[aG];omega
  have h3:256^(x.1.take 1).length<=256^1:=ja (by decide) h2;have h4:(256:Nat)^1=256:=rfl;rw[mZ (by omega)];omega
def HC(x:RS):RS:=if 1<gH 1 x then((dw 1 x).1,true) else dw 1 x
def nvF(x:RS):Bool:=gH 1 x==1
section
variable {W:World} {L R:LH} {K:VK} {X:WK} {r:Nat} {x:RS} {g:RS->LH} {q:iA} {s:rY}
def J8(x:RS):(AF x).1.length<=x.1.length:=by
 unfold AF vD;repeat (first|exact aC _|refine Nat.le_trans (qi _ _) ?_)
def RA(x:RS):(AY x).1.length<=x.1.length:=by
 unfold AY vD;repeat (first|exact aC _|refine Nat.le_trans (qi _ _) ?_)
def Fm[i:Lc (rd r) L x g](hl:x.1.length<1099511627776)(h:T W (g (HC x)) (K (.b (nvF x)))):T W L (jx (ai r) K):=by
 unfold jx;apply pr hl;apply oU;have hn:=i.next;rw[Option.isNone_some,Bool.not_false,jm];apply gO<;>intro g1
 ·have g1:gH 1 x>1:=g1;intro w hs;obtain⟨k,hk,e⟩:=(hn (dw 1 x)).at_;rw[A0,dh,az];refine mV hs (show(g (dw 1 x))[k]?=some (Sep.pt r [.s (bs (dw 1 x).1),.b (dw 1 x).2]) from hk) (by show 1<2;decide) rfl λw' dM=>?_;apply h w';have e2:HC x=((dw 1 x).1,true):=by unfold HC;rw[aj g1]
  rw[e2,e];exact dM
 ·have g1: ¬gH 1 x>1:=g1;have e2:HC x=dw 1 x:=by unfold HC;rw[ah g1]
  rw[e2] at h;exact h
def Kc[i:Lc (rd r) L x g](hl:x.1.length<1099511627776)
 (h:∀b c,T W (own b (many AF AH (gH 1 x).toNat (dw 1 x)).1.length c 14 ((many AF AH (gH 1 x).toNat (dw 1 x)).1.flatMap aP)::g (many AF AH (gH 1 x).toNat (dw 1 x)).2) (K (.l b (many AF AH (gH 1 x).toNat (dw 1 x)).1.length c))):
 T W L (im (ai r) (.func (.func N.kE) ⟨[]⟩ ⟨[]⟩) K):=by
 unfold im;apply pr hl;apply oU;have hn:=i.next;have hb:=LD x;obtain⟨n,en⟩:∃n:Nat,gH 1 x=(n:Int):=⟨(gH 1 x).toNat,by omega⟩;rw[en,aq] at h;rw[en];refine jr (e:=14) ?_;intro w l7;refine⟨λvv w=>∃(i:Nat)(bo:OA)(cc:Nat)(done:List bp)(y:RS),i<=n/\done.length<=i/\y.1.length<1099511627776/\many AF AH n (dw 1 x)=(done++(many AF AH (n-i) y).1,(many AF AH (n-i) y).2)/\
                                                                                                                               vv=[.l none 0 0,.l bo done.length cc,.i (n:Int),.i (i:Int)]/\St W w (own bo done.length cc 14 (done.flatMap aP)::g y),
  mq 3 n,⟨0,none,0,[],dw 1 x,aL _,aC _,lX hl,by simp,rfl,l7⟩,?_⟩
 rintro sL qG tq bo jJ cc n2 n3 w2 ⟨i,b0,c0,done,y,hi,Ku,hy,hm,e,gJ⟩;cases e
 refine T.at ?_ gJ;have e5:=oe i
 haveI:=hn y
 apply gO<;>intro g1
 ·have bW:i<n:=by omega
  obtain⟨k,hk⟩:∃k,n-i=k+1:=⟨n-i-1,by omega⟩;rw[hk] at hm;apply uJ (r:=r);apply mO;cases ht:y.2 with
  |true=>
   apply ws;rw[mu,aj ht] at hm;simp only[bN] at hm;have:=h bo cc;rw[hm] at this;exact this
  |false=>
   apply ws;rw[mu,ah (by rw[ht];decide)] at hm;show T W _ (kE (ai r) _);apply Qd hy;apply ws;intros;refine mU (b:=bo) (x:=AH y) rfl rfl rfl (by omega) (by omega) (iZ _) λb2 c2=>?_;rw[e5];apply T.drop;refine λw3 h3=>⟨⟨i+1,b2,c2,done++[AH y],AF y,bW,by simp;omega,ni (J8 y) hy,?_,by simp,by simpa using h3⟩,dn (by omega)⟩;rw[hm,show n-(i+1)=k by omega];simp
 ·have kP:i=n:=by omega
  subst kP;rw[sH] at hm;rw[wm,bN] at hm;have:=h bo cc;rw[hm] at this;exact this
def Kb[i:Lc (rd r) L x g](hl:x.1.length<1099511627776)
 (h:∀b c,T W (own b (many AY AZ (gH 1 x).toNat (dw 1 x)).1.length c 16 ((many AY AZ (gH 1 x).toNat (dw 1 x)).1.flatMap aX)::g (many AY AZ (gH 1 x).toNat (dw 1 x)).2) (K (.l b (many AY AZ (gH 1 x).toNat (dw 1 x)).1.length c))):
 T W L (gM (ai r) (.func (.func N.jD) ⟨[]⟩ ⟨[]⟩) K):=by
 unfold gM;apply pr hl;apply oU;have hn:=i.next;have hb:=LD x;obtain⟨n,en⟩:∃n:Nat,gH 1 x=(n:Int):=⟨(gH 1 x).toNat,by omega⟩;rw[en,aq] at h;rw[en];refine jr (e:=16) ?_;intro w l7;refine⟨λvv w=>∃(i:Nat)(bo:OA)(cc:Nat)(done:List cj)(y:RS),i<=n/\done.length<=i/\y.1.length<1099511627776/\many AY AZ n (dw 1 x)=(done++(many AY AZ (n-i) y).1,(many AY AZ (n-i) y).2)/\
                                                                                                                               vv=[.l none 0 0,.l bo done.length cc,.i (n:Int),.i (i:Int)]/\St W w (own bo done.length cc 16 (done.flatMap aX)::g y),
  mq 3 n,⟨0,none,0,[],dw 1 x,aL _,aC _,lX hl,by simp,rfl,l7⟩,?_⟩
 rintro sL qG tq bo jJ cc n2 n3 w2 ⟨i,b0,c0,done,y,hi,Ku,hy,hm,e,gJ⟩;cases e
 refine T.at ?_ gJ;have e5:=oe i
 haveI:=hn y
 apply gO<;>intro g1
 ·have bW:i<n:=by omega
  obtain⟨k,hk⟩:∃k,n-i=k+1:=⟨n-i-1,by omega⟩;rw[hk] at hm;apply uJ (r:=r);apply mO;cases ht:y.2 with
  |true=>
   apply ws;rw[mu,aj ht] at hm;simp only[bN] at hm;have:=h bo cc;rw[hm] at this;exact this
  |false=>
   apply ws;rw[mu,ah (by rw[ht];decide)] at hm;show T W _ (jD (ai r) _);apply H0 hy;apply ws;intros;refine mU (b:=bo) (x:=AZ y) rfl rfl rfl (by omega) (by omega) (qv _) λb2 c2=>?_;rw[e5];apply T.drop;refine λw3 h3=>⟨⟨i+1,b2,c2,done++[AZ y],AY y,bW,by simp;omega,ni (RA y) hy,?_,by simp,by simpa using h3⟩,dn (by omega)⟩;rw[hm,show n-(i+1)=k by omega];simp
 ·have kP:i=n:=by omega
  subst kP;rw[sH] at hm;rw[wm,bN] at hm;have:=h bo cc;rw[hm] at this;exact this
def RQ[i:Lc (rd r) L x g](hl:x.1.length<1099511627776)
 (h:∀b c,T W (own b (many (dw 16) wP (gH 1 x).toNat (dw 1 x)).1.length c 2 ((many (dw 16) wP (gH 1 x).toNat (dw 1 x)).1.flatMap nm)::g (many (dw 16) wP (gH 1 x).toNat (dw 1 x)).2) (K (.l b (many (dw 16) wP (gH 1 x).toNat (dw 1 x)).1.length c))):
 T W L (mF (ai r) (.func (.func N.bY) ⟨[]⟩ ⟨[]⟩) K):=by
 unfold mF;apply pr hl;apply oU;have hn:=i.next;have hb:=LD x;obtain⟨n,en⟩:∃n:Nat,gH 1 x=(n:Int):=⟨(gH 1 x).toNat,by omega⟩;rw[en,aq] at h;rw[en];refine jr (e:=2) ?_;intro w l7;refine⟨λvv w=>∃(i:Nat)(bo:OA)(cc:Nat)(done:List Nat)(y:RS),i<=n/\done.length<=i/\y.1.length<1099511627776/\many (dw 16) wP n (dw 1 x)=(done++(many (dw 16) wP (n-i) y).1,(many (dw 16) wP (n-i) y).2)/\
                                                                                                                               vv=[.l none 0 0,.l bo done.length cc,.i (n:Int),.i (i:Int)]/\St W w (own bo done.length cc 2 (done.flatMap nm)::g y),
  mq 3 n,⟨0,none,0,[],dw 1 x,aL _,aC _,lX hl,by simp,rfl,l7⟩,?_⟩
 rintro sL qG tq bo jJ cc n2 n3 w2 ⟨i,b0,c0,done,y,hi,Ku,hy,hm,e,gJ⟩;cases e
 refine T.at ?_ gJ;have e5:=oe i
 haveI:=hn y
 apply gO<;>intro g1
 ·have bW:i<n:=by omega
  obtain⟨k,hk⟩:∃k,n-i=k+1:=⟨n-i-1,by omega⟩;rw[hk] at hm;apply uJ (r:=r);apply mO;cases ht:y.2 with
  |true=>
   apply ws;rw[mu,aj ht] at hm;simp only[bN] at hm;have:=h bo cc;rw[hm] at this;exact this
  |false=>
   apply ws;rw[mu,ah (by rw[ht];decide)] at hm;show T W _ (bY (ai r) _);apply Fk hy;apply ws;intros;refine mU (b:=bo) (x:=wP y) rfl rfl rfl (by omega) (by omega) (jL _) λb2 c2=>?_;rw[e5];apply T.drop;refine λw3 h3=>⟨⟨i+1,b2,c2,done++[wP y],(dw 16) y,bW,by simp;omega,ni (qi 16 y) hy,?_,by simp,by simpa using h3⟩,dn (by omega)⟩;rw[hm,show n-(i+1)=k by omega];simp
 ·have kP:i=n:=by omega
  subst kP;rw[sH] at hm;rw[wm,bN] at hm;have:=h bo cc;rw[hm] at this;exact this
def pR(q:iA):Bool:=if q.op=1 then q.aB.all λa=>decide (oO a) else if q.op=2 then q.cx.all λt=>decide (jR t) else true
def iV(q:iA):Bool:=(na q||oN q)&&pR q
def vS{α:Type}{P:α->Bool}{l:List α}{i:Nat}{x:α}(hx:l[i]?=some x)(h:(l.take i).all P=true):(l.take (i+1)).all P=P x:=by
 rw[bP,hx,List.all_append,h];simp
def all_false{α:Type}{P:α->Bool}{l:List α}{i:Nat}{x:α}(hx:l[i]?=some x)(h:P x=false):l.all P=false:=by
 rw[List.all_eq_false];exact⟨x,iF hx,by rw[h];decide⟩
def FI[hh:Has R L](hq:qE W R q s)(Fx:q.aB.length<1000000)(bW:q.cx.length<1000000){r1:Nat}{b1:Bool}(h:T W (Sep.pt r1 (ff q s)::L) (K (.b (!b1&&pR q)))):T W (Sep.pt r1 (ff q s)::L) (mn.j1 K r1 b1):=by
 unfold mn.j1;cases b1 with
 |true=>rw[jm];exact h
 |false=>
  rw[Bool.not_false,dX] at h;rw[fo];apply ws;apply dz<;>intro g1
  ·have g1:q.op=1:=by simpa using g1
   unfold pR at h;rw[aj g1] at h;apply ws;intro w l7;refine⟨λvv w=>∃i:Nat,i<=q.aB.length/\(q.aB.take i).all (λx=>decide (oO x))=true/\vv=[.b false,.l s.sa q.aB.length s.ca,.i (q.aB.length:Int),.i (i:Int)]/\St W w (Sep.pt r1 (ff q s)::L),
    mq 3 q.aB.length,⟨0,aL _,rfl,rfl,l7⟩,?_⟩
   rintro b2 mg jJ mP n2 n3 w2 ⟨i,hi,gV,e,gJ⟩;cases e
   refine T.at ?_ gJ;have e5:=oe i;apply gO<;>intro g1
   ·have bW:i<q.aB.length:=by omega
    have gx:=ao bW;generalize q.aB[i]=x at gx;refine iu hq.aB ⟨by omega,by omega⟩ rfl λa ha=>?_;rw[aq];apply je hq.aB ha gx rfl
    repeat' first|apply ws;intros|apply wb|refine Fb ?_
    rw[e5];by_cases hg:oO x
    ·rw[aA hg];apply ws;refine T.drop λw3 h3=>⟨⟨i+1,bW,?_,rfl,h3⟩,dn (by omega)⟩;rw[vS gx gV];exact aA hg
    ·rw[ay hg];apply ws;rw[all_false gx (ay hg)] at h;exact T.drop h
   ·have kP:i=q.aB.length:=by omega
    subst kP;rw[bF] at gV;rw[gV] at h;exact h
  have g1: ¬q.op=1:=by simpa using g1
  apply dz<;>intro g2
  ·have g2:q.op=2:=by simpa using g2
   unfold pR at h;rw[ah g1,aj g2] at h;apply ws;intro w l7;refine⟨λvv w=>∃i:Nat,i<=q.cx.length/\(q.cx.take i).all (λx=>decide (jR x))=true/\vv=[.b false,.l s.st q.cx.length s.ct,.i (q.cx.length:Int),.i (i:Int)]/\St W w (Sep.pt r1 (ff q s)::L),
    mq 3 q.cx.length,⟨0,aL _,rfl,rfl,l7⟩,?_⟩
   rintro b2 mg jJ mP n2 n3 w2 ⟨i,hi,gV,e,gJ⟩;cases e
   refine T.at ?_ gJ;have e5:=oe i;apply gO<;>intro g1
   ·have bW:i<q.cx.length:=by omega
    have gx:=ao bW;generalize q.cx[i]=x at gx;refine iu hq.cx ⟨by omega,by omega⟩ rfl λa ha=>?_;rw[aq];apply je hq.cx ha gx rfl
    repeat' first|apply ws;intros|apply wb|refine Et ?_
    rw[e5];by_cases hg:jR x
    ·rw[aA hg];apply ws;refine T.drop λw3 h3=>⟨⟨i+1,bW,?_,rfl,h3⟩,dn (by omega)⟩;rw[vS gx gV];exact aA hg
    ·rw[ay hg];apply ws;rw[all_false gx (ay hg)] at h;exact T.drop h
   ·have kP:i=q.cx.length:=by omega
    subst kP;rw[bF] at gV;rw[gV] at h;exact h
  ·have g2: ¬q.op=2:=by simpa using g2
   unfold pR at h;rw[ah g1,ah g2] at h;exact h
def Jz[hh:Has R L](hq:qE W R q s)(Fx:q.aB.length<1000000)(bW:q.cx.length<1000000)(h:T W L (K (.b (iV q)))):T W L (mn (ff q s) K):=by
 unfold mn
 repeat' first|apply ws;intros|apply wb|refine KC ?_
 unfold iV at h;cases he:na q with
 |true=>
  rw[he,Bool.true_or] at h;apply ws;exact FI hq Fx bW (T.drop h)
 |false=>
  rw[he,Bool.false_or] at h
  repeat' first|apply ws|apply wb|refine Hr ?_
  refine FI hq Fx bW (T.drop ?_);rw[Bool.not_not];exact h
end
def An(b:Bool):List UInt8:=[if b then 1 else 0]
def Sn(q:iA):List UInt8:=nb q.wX++le .i64 8 q.pG++le .i64 8 q.FA++An q.vK++An q.sz++An q.pF++le .i64 1 q.oQ
def kO(q:iA):List UInt8:=le .i64 1 q.op++
 (if q.op=1 then le .i64 1 (q.aB.length:Int)++q.aB.flatMap gr
 else if q.op=2 then le .i64 1 (q.cx.length:Int)++q.cx.flatMap lF
 else if q.op=3 then le .i64 8 q.now
 else if q.op=6 then Sn q
 else le .i64 1 (q.ids.length:Int)++q.ids.flatMap nb)
section
variable {W:World} {L R:LH} {K:VK} {X:WK} {p:Nat} {l:List UInt8} {f:List UInt8->LH} {q:iA} {s:rY}
def HX(h:T W (buf p []::L) X):T W (Sep.pt p [.l none 0 0]::L) X:=λw hs=>by
 have h2:=(hs.push (A:=own none 0 0 1 (([]:List UInt8).map og)) (qh 1)).perm (bA.swap _ _ _);exact h w (rk (k:=0) (L:=buf p []::L) (A:=buf p []) rfl rfl h2)
def c6{α:Type}{g:α->List UInt8}{e:Nat}(hg:∀x,(g x).length=e)(l:List α):(l.flatMap g).length=l.length* e:=by
 induction l with
 |nil=>simp
 |cons x l ih=>rw[eP,ak,ih,hg,bw,lq];omega
def YE[i:Lc (buf p) L l f][hh:∀y,Has R (f y)]{sl:OA}{c:Nat}{items:List bp}(hr:kF W R aP 14 sl items)(hg:∀x∈items,oO x)(hi:items.length<=1000)(hl:l.length<1000000)
 (h:T W (f (l++le .i64 1 (items.length:Int)++items.flatMap gr)) (K (.tuple ⟨[]⟩))):T W L (iB (ai p) sl items.length c K):=by
 unfold iB;apply K2;refine po (by omega) (za ?_);intro w l7;refine⟨λvv w=>∃i:Nat,i<=items.length/\vv=[.l sl items.length c,.i (items.length:Int),.i (i:Int)]/\St W w (f (l++le .i64 1 (items.length:Int)++(items.take i).flatMap gr)),
  mq 2 items.length,⟨0,aL _,rfl,by simpa using l7⟩,?_⟩
 rintro mg jJ mP n1 n2 w2 ⟨i,hii,e,gJ⟩;cases e
 refine T.at ?_ gJ;have hn:=Lc.next (P:=buf p) inferInstance (l++le .i64 1 (items.length:Int)++(items.take i).flatMap gr) (L:=L) (x:=l) (f:=f);have IK:=hh (l++le .i64 1 (items.length:Int)++(items.take i).flatMap gr);have hlen:(l++le .i64 1 (items.length:Int)++(items.take i).flatMap gr).length<549755813888:=by
  rw[ak,ak,c6 ln,aG,aJ];have:min i items.length<=1000:=by omega
  have:min i items.length* (100-4)<=1000* (100-4):=fS _ this;omega
 have e5:=oe i;apply gO<;>intro g1
 ·have bW:i<items.length:=by omega
  have gx:=ao bW;have gm:=hg _ (bT bW);generalize items[i]=x at gx gm;refine iu hr ⟨by omega,by omega⟩ rfl λa ha=>?_;rw[aq];apply je hr ha gx rfl
  repeat' first|apply ws;intros|apply wb|refine Qc (p:=p) gm hlen ?_
  rw[e5];refine T.drop λw3 h3=>⟨⟨i+1,bW,rfl,?_⟩,dn (by omega)⟩;rw[bP,gx,fC];simpa [aI] using h3
 ·have kP:i=items.length:=by omega
  subst kP;rw[bF];exact h
def YD[i:Lc (buf p) L l f][hh:∀y,Has R (f y)]{sl:OA}{c:Nat}{items:List cj}(hr:kF W R aX 16 sl items)(hg:∀x∈items,jR x)(hi:items.length<=1000)(hl:l.length<1000000)
 (h:T W (f (l++le .i64 1 (items.length:Int)++items.flatMap lF)) (K (.tuple ⟨[]⟩))):T W L (il (ai p) sl items.length c K):=by
 unfold il;apply K2;refine po (by omega) (za ?_);intro w l7;refine⟨λvv w=>∃i:Nat,i<=items.length/\vv=[.l sl items.length c,.i (items.length:Int),.i (i:Int)]/\St W w (f (l++le .i64 1 (items.length:Int)++(items.take i).flatMap lF)),
  mq 2 items.length,⟨0,aL _,rfl,by simpa using l7⟩,?_⟩
 rintro mg jJ mP n1 n2 w2 ⟨i,hii,e,gJ⟩;cases e
 refine T.at ?_ gJ;have hn:=Lc.next (P:=buf p) inferInstance (l++le .i64 1 (items.length:Int)++(items.take i).flatMap lF) (L:=L) (x:=l) (f:=f);have IK:=hh (l++le .i64 1 (items.length:Int)++(items.take i).flatMap lF);have hlen:(l++le .i64 1 (items.length:Int)++(items.take i).flatMap lF).length<549755813888:=by
  rw[ak,ak,c6 mr,aG,aJ];have:min i items.length<=1000:=by omega
  have:min i items.length* 108<=1000* 108:=fS _ this;omega
 have e5:=oe i;apply gO<;>intro g1
 ·have bW:i<items.length:=by omega
  have gx:=ao bW;have gm:=hg _ (bT bW);generalize items[i]=x at gx gm;refine iu hr ⟨by omega,by omega⟩ rfl λa ha=>?_;rw[aq];apply je hr ha gx rfl
  repeat' first|apply ws;intros|apply wb|refine HZ (p:=p) gm hlen ?_
  rw[e5];refine T.drop λw3 h3=>⟨⟨i+1,bW,rfl,?_⟩,dn (by omega)⟩;rw[bP,gx,fC];simpa [aI] using h3
 ·have kP:i=items.length:=by omega
  subst kP;rw[bF];exact h
def Vv[i:Lc (buf p) L l f](hl:l.length<1000000)(h:T W (f (l++Sn q)) (K (.tuple ⟨[]⟩))):T W L (lN (ai p) (qA q) K):=by
 unfold lN;have hn0:=i.next
 repeat' first|apply ws;intros|apply wb|refine Fc (by omega) ?_
 rename_i r1
 repeat' first|apply ws|apply wb|refine wz (by simp only[ak,o0,aJ];omega) ?_
 intro w l7;refine⟨λvv w=>∃i:Nat,i<=3/\vv=[.p (some (ad r1 0)),.agg ⟨[.b q.vK,.b q.sz,.b q.pF]⟩,.i (i:Int)]/\St W w (Sep.pt r1 (qA q)::f (l++nb q.wX++le .i64 8 q.pG++le .i64 8 q.FA++([q.vK,q.sz,q.pF].take i).flatMap An)),
  mq 2 3,⟨0,aL _,rfl,by simpa using l7⟩,?_⟩
 rintro a4 sR n3 w2 ⟨i,hi,e,gJ⟩;cases e
 refine T.at ?_ gJ;have hn:=Lc.next (P:=buf p) inferInstance (l++nb q.wX++le .i64 8 q.pG++le .i64 8 q.FA++([q.vK,q.sz,q.pF].take i).flatMap An) (L:=L) (x:=l) (f:=f);have WV:(([q.vK,q.sz,q.pF].take i).flatMap An).length<=3:=by rw[c6 (e:=1) (λ_=>rfl),aG];simp;omega
 have e5:=oe i;apply gO<;>intro g1
 ·have bW:i<3:=by omega
  obtain⟨b,hb⟩:∃b,[q.vK,q.sz,q.pF][i]?=some b:=⟨_,ao (by simpa using bW)⟩;have hv:[Value.bool q.vK,.b q.sz,.b q.pF][i]?=some (.b b):=by
   have:=congrArg (so Value.bool) hb;rw[<-dC] at this;exact this
  apply JI bW hv
  repeat' first|apply ws|apply wb|refine Tc (by simp only[ak,o0,aJ];omega) ?_
  rw[e5];refine λw3 h3=>⟨⟨i+1,bW,rfl,?_⟩,dn (by omega)⟩;rw[bP,hb,fC];simpa [aI,An] using h3
 ·have kP:i=3:=by omega
  subst kP
  repeat' first|apply ws|apply wb|refine po (by simp only[ak,o0,aJ];omega) ?_
  have e2:l++nb q.wX++le .i64 8 q.pG++le .i64 8 q.FA++([q.vK,q.sz,q.pF].take 3).flatMap An++le .i64 1 q.oQ=l++Sn q:=by
   unfold Sn;simp[aI]
  rw[e2];exact T.drop h
def lD(h:iV q=true):(q.op=1/\q.aB.length<=8/\∀a∈q.aB,oO a)\/(q.op=2/\q.cx.length<=8/\∀t∈q.cx,jR t)\/(q.op=3/\0<=q.now/\q.now<=1099511627776)\/((q.op=4\/q.op=5)/\q.ids.length<=16)\/(q.op=6/\0<=q.pG/\0<=q.FA/\1<=q.oQ/\q.oQ<=16):=by
 unfold iV na oN pR at h;simp only[cY,Bool.or_eq_true] at h;obtain⟨h1,h2⟩:=h;by_cases o1:q.op=1
 ·rw[aj o1] at h1 h2;rw[ah (by omega),ah (by omega)] at h1;simp at h1 h2;exact .inl ⟨o1,h1.2,h2⟩
 by_cases o2:q.op=2
 ·rw[ah o1,aj o2] at h1 h2;rw[ah (by omega),ah (by omega)] at h1;simp at h1 h2;exact .inr (.inl ⟨o2,h1.2,h2⟩)
 by_cases o3:q.op=3
 ·rw[ah o1,ah o2,aj o3] at h1;rw[ah (by omega),ah (by omega)] at h1;simp at h1;exact .inr (.inr (.inl ⟨o3,h1⟩))
 rw[ah o1,ah o2,ah o3] at h1;by_cases o4:q.op=4\/q.op=5
 ·rw[aj o4] at h1;simp at h1;exact .inr (.inr (.inr (.inl ⟨o4,h1.2⟩)))
 rw[ah o4] at h1;by_cases o6:q.op=6
 ·rw[aj o6] at h1;simp at h1;exact .inr (.inr (.inr (.inr ⟨o6,h1.1⟩)))
 ·rw[ah o6] at h1;simp at h1
def Ny[hh:Has R L](hq:qE W R q s)(Fx:q.aB.length<1000000)(bW:q.cx.length<1000000)(h1:iV q=true->T W L (K (.tuple ⟨[.s (bs (kO q)),.i 0]⟩)))(h0:iV q=false->T W L (K (.tuple ⟨[.s .empty,.i 1]⟩))):T W L (tR (ff q s) K):=by
 unfold tR
 repeat' first|apply ws;intros|apply wb|refine Jz hq Fx bW ?_
 rename_i r1;cases hw:iV q with
 |false=>
  apply ws;exact T.drop (h0 hw)
 |true=>
  have h1:=h1 hw;have hf:=lD hw;apply ws;intros;rename_i r2;apply HX
  repeat' first|apply ws|apply wb|refine po (by simp) ?_
  unfold kO at h1;apply dz<;>intro g1
  ·have g1:q.op=1:=by simpa using g1
   rw[aj g1] at h1;have A4:q.aB.length<=8/\∀a∈q.aB,oO a:=by rcases hf with h|h|h|h|h<;>first|exact h.2|omega
   apply ws;apply YE (R:=R) hq.aB A4.2 (by omega) (by simp[aJ])
   repeat' first|apply ws|apply wb|refine pW ?_
   rw[dm,aI];exact T.dp h1
  have g1: ¬q.op=1:=by simpa using g1
  rw[ah g1] at h1;apply dz<;>intro g2
  ·have g2:q.op=2:=by simpa using g2
   rw[aj g2] at h1;have A4:q.cx.length<=8/\∀a∈q.cx,jR a:=by rcases hf with h|h|h|h|h<;>first|exact h.2|omega
   apply ws;apply YD (R:=R) hq.cx A4.2 (by omega) (by simp[aJ])
   repeat' first|apply ws|apply wb|refine pW ?_
   rw[dm,aI];exact T.dp h1
  have g2: ¬q.op=2:=by simpa using g2
  rw[ah g2] at h1;apply dz<;>intro g3
  ·have g3:q.op=3:=by simpa using g3
   rw[aj g3] at h1
   repeat' first|apply ws|apply wb|first|refine wz (by simp[aJ]) ?_|refine pW ?_
   rw[dm];exact T.dp h1
  have g3: ¬q.op=3:=by simpa using g3
  rw[ah g3] at h1;apply dz<;>intro g6
  ·have g6:q.op=6:=by simpa using g6
   rw[aj g6] at h1;apply ws;apply Vv (by simp[aJ])
   repeat' first|apply ws|apply wb|refine pW ?_
   rw[dm];exact T.dp h1
  have g6: ¬q.op=6:=by simpa using g6
  rw[ah g6] at h1;have A4:q.ids.length<=16:=by rcases hf with h|h|h|h|h<;>first|exact h.2|omega
  repeat' first|apply ws|apply wb|refine po (by simp[aJ]) ?_
  intro w l7;refine⟨λvv w=>∃i:Nat,i<=q.ids.length/\vv=[.s .empty,.i 0,.p (some (ad r2 0)),.l s.si q.ids.length s.ci,.i (q.ids.length:Int),.i (i:Int)]/\
   St W w (buf r2 (le .i64 1 q.op++(le .i64 1 (q.ids.length:Int)++(q.ids.take i).flatMap nb))::Sep.pt r1 (ff q s)::L),
   mq 5 q.ids.length,⟨0,aL _,rfl,by simpa using l7⟩,?_⟩
  rintro s5 n4 a1 JV K8 Lf n5 n6 w2 ⟨i,hi,e,gJ⟩;cases e
  refine T.at ?_ gJ;have hlen:(le .i64 1 q.op++(le .i64 1 (q.ids.length:Int)++(q.ids.take i).flatMap nb)).length<1099511627776:=by
   rw[ak,ak,c6 o0,aG,aJ,aJ];have:min i q.ids.length<=16:=by omega
   omega
  have e5:=oe i;apply gO<;>intro g1
  ·have bW:i<q.ids.length:=by omega
   have gx:=ao bW;generalize q.ids[i]=x at gx;refine iu hq.ids ⟨by omega,by omega⟩ rfl λa ha=>?_;rw[aq];apply je hq.ids ha gx rfl
   repeat' first|apply ws;intros|apply wb|refine Fc hlen ?_
   rw[e5];refine T.drop λw3 h3=>⟨⟨i+1,bW,rfl,?_⟩,dn (by omega)⟩;rw[bP,gx,fC];simpa [aI] using h3
  ·have kP:i=q.ids.length:=by omega
   subst kP;rw[bF]
   repeat' first|apply ws|apply wb|refine pW ?_
   exact T.dp h1
end
def q0:iA:=⟨0,[],[],0,[],0,0,0,false,false,false,0⟩
def s0:rY:=⟨none,0,none,0,none,0⟩
instance{q q':iA}{s s':rY}:Wr (ff q s) 0 (ff q' s') (ff q' s'):=⟨rfl,aC _,yj q' s'⟩
instance{q:iA}{s:rY}:Wr (ff q s) 0 [.i 0,.l none 0 0,.l none 0 0,.i 0,.l none 0 0,.u 0,.u 0,.i 0,.i 0,.b false,.b false,.b false,.i 0] (ff q0 s0):=⟨rfl,aC _,yj q0 s0⟩
instance{q:iA}{s:rY}{a:Nat}{f t m:Int}{d c l:Bool}:Wr (ff q s) 5 (nm a++([.i f,.i t,.b d,.b c,.b l,.i m]:LV)) (ff ⟨q.op,q.aB,q.cx,q.now,q.ids,a,f,t,d,c,l,m⟩ s):=⟨rfl,by show 13<=13;decide,GS ⟨q.op,q.aB,q.cx,q.now,q.ids,a,f,t,d,c,l,m⟩⟩
def Iy(n:Int):iA:=⟨n,[],[],0,[],0,0,0,false,false,false,0⟩
def opC(n:Int):ff (Iy n) s0=[.i n,.l none 0 0,.l none 0 0,.i 0,.l none 0 0,.u 0,.u 0,.i 0,.i 0,.b false,.b false,.b false,.i 0]:=by
 simp[ff,qA,nm,Iy,s0]
instance{x1 x2 x3 x4 x5 x6 x7 x8 x9 Bn Bm Bl Bk:Value}{n:Int}:Wr [x1,x2,x3,x4,x5,x6,x7,x8,x9,Bn,Bm,Bl,Bk] 0 [.i n,.l none 0 0,.l none 0 0,.i 0,.l none 0 0,.u 0,.u 0,.i 0,.i 0,.b false,.b false,.b false,.i 0] (ff (Iy n) s0):=by
 rw[<-opC n];exact⟨rfl,aC _,yj _ _⟩
def iX(l:List UInt8):iA×RS:=
 let x:RS:=(l,false)
 let y:=dw 1 x
 if gH 1 x=1 then({q0 with op:=1,aB:=(many AF AH (gH 1 y).toNat (dw 1 y)).1},(many AF AH (gH 1 y).toNat (dw 1 y)).2)
 else if gH 1 x=2 then({q0 with op:=2,cx:=(many AY AZ (gH 1 y).toNat (dw 1 y)).1},(many AY AZ (gH 1 y).toNat (dw 1 y)).2)
 else if gH 1 x=3 then({q0 with op:=3,now:=gH 8 y},dw 8 y)
 else if gH 1 x=6 then({q0 with op:=6,wX:=wP y,pG:=gH 8 (dw 16 y),FA:=gH 8 (dw 8 (dw 16 y)),vK:=nvF (dw 8 (dw 8 (dw 16 y))),sz:=nvF (HC (dw 8 (dw 8 (dw 16 y)))),pF:=nvF (HC (HC (dw 8 (dw 8 (dw 16 y))))),oQ:=gH 1 (HC (HC (HC (dw 8 (dw 8 (dw 16 y))))))},
  dw 1 (HC (HC (HC (dw 8 (dw 8 (dw 16 y)))))))
 else({q0 with op:=gH 1 x,ids:=(many (dw 16) wP (gH 1 y).toNat (dw 1 y)).1},(many (dw 16) wP (gH 1 y).toNat (dw 1 y)).2)
def pN(l:List UInt8):Bool:=(!(iX l).2.2&&decide ((iX l).2.1=[]))&&iV (iX l).1
def EJ(x:RS):(HC x).1.length<=x.1.length:=by
 unfold HC;split
 ·exact qi _ _
 ·exact qi _ _
section
variable {W:World} {L R:LH} {K:VK} {X:WK} {p r:Nat} {l:List UInt8} {q:iA} {s:rY} {A:HP}
def HY(h:∀r,T W (rd r (l,false)::L) (K (.p (ai r)))):T W L (kY (bs l) K):=λw hs=>pK hs λr w' h'=>h r w' h'
def kF.own{α:Type}{b:OA}{n c e:Nat}{g:α->LV}{xs:List α}(hg:∀x,(g x).length=e)(hn:n=xs.length):kF W (Sep.own b n c e (xs.flatMap g)::L) g e b xs:=λw hw i x hx=>by
 obtain⟨hl,h0|⟨r,sp,hb,sh,AJ,hs⟩⟩:=hw.k8 (k:=0) rfl
 ·have:=(ar.1 hx).1;omega
 ·refine⟨⟨r,0,none⟩,hb,?_⟩;subst hb;rw[dh,az];exact wC (k:=0) hw rfl (pd hg xs i x hx)
def kF.nil{α:Type}{b:OA}{e:Nat}{g:α->LV}:kF W R g e b []:=λw hw i x hx=>by simp at hx
def Nw{r1 r2:Nat}{x:RS}(hq:qE W (A::L) q s)(Fx:q.aB.length<1000000)(bW:q.cx.length<1000000)
 (h0:((!x.2&&decide (x.1=[]))&&iV q)=false->T W L (K (.tuple ⟨[.agg ⟨ff q0 s0⟩,.i 4]⟩)))
 (h1:((!x.2&&decide (x.1=[]))&&iV q)=true->T W (A::L) (K (.tuple ⟨[.agg ⟨ff q s⟩,.i 0]⟩))):
 T W (Sep.pt r2 (ff q s)::rd p x::Sep.pt r1 (ff q0 s0)::A::L) (iG.j1 K (ai p) r1 r2):=by
 unfold iG.j1;apply Jq (r:=p);apply mO;cases he:(!x.2&&decide (x.1=[])) with
 |false=>
  rw[he,gI] at h0;have h0:=h0 rfl;rw[Bool.not_false,jm];apply ws;exact T.dp h0
 |true=>
  rw[he,dX] at h0 h1;rw[Bool.not_true,fo]
  repeat' first|apply ws|apply wb|refine Jz (R:=A::L) hq Fx bW ?_
  cases hw:iV q with
  |false=>
   have h0:=h0 hw;apply ws;exact T.dp h0
  |true=>
   have h1:=h1 hw;apply ws;exact T.dp h1
def Jy(hl:l.length<1099511627776)
 (h0:pN l=false->T W L (K (.tuple ⟨[.agg ⟨ff q0 s0⟩,.i 4]⟩)))
 (h1:pN l=true->∀A s,(∀L',qE W (A::L') (iX l).1 s)->T W (A::L) (K (.tuple ⟨[.agg ⟨ff (iX l).1 s⟩,.i 0]⟩))):T W L (iG (bs l) K):=by
 unfold iG;refine jy λr1=>?_;refine HY λp=>?_;apply vd;refine pr hl (oU ?_);apply dv ⟨rfl,trivial⟩;refine jy λr2=>?_;apply ws;have hy:=lX (m:=1) (x:=(l,false)) hl;have hb:=LD (dw 1 (l,false));have fin:∀(q:iA)(x:RS)(A:HP)(s:rY),iX l=(q,x)->(∀L',qE W (A::L') q s)->q.aB.length<1000000->q.cx.length<1000000->
  T W (A::Sep.pt r2 (ff q s)::rd p x::Sep.pt r1 (ff q0 s0)::L) (iG.j1 K (ai p) r1 r2):=by
  intro q x A s he hq Fx bW;unfold pN at h0 h1;rw[he] at h0 h1;exact T.perm (Nw (hq L) Fx bW h0 λhh=>h1 hh A s hq) (bC (l₁:=[A]) (l₂:=[Sep.pt r2 (ff q s),rd p x,Sep.pt r1 (ff q0 s0)])|>.append_right L)
 unfold iX at fin;dsimp only at fin;generalize gH 1 (l,false)=op at fin⊢;generalize dw 1 (l,false)=y at fin hy hb⊢;apply dz<;>intro g1
 ·have g1:op=1:=by simpa [Iy] using g1
  subst g1;rw[aj rfl] at fin;refine Kc hy λb c=>?_;have GJ:=tv (nx:=AF) (nv:=AH) (gH 1 y).toNat (dw 1 y);obtain⟨out,ho⟩:∃out,(many AF AH (gH 1 y).toNat (dw 1 y)).1=out:=⟨_,rfl⟩;obtain⟨z,hz⟩:∃z,(many AF AH (gH 1 y).toNat (dw 1 y)).2=z:=⟨_,rfl⟩;rw[ho,hz] at fin⊢;rw[ho] at GJ;apply wE;refine nY (b:=b) λsh _=>?_;apply vf (r:=r2) (cs:=ff (Iy 1) s0) (o:=1) (v:=.l b out.length c) (by decide) rfl;exact fin _ _ (Sep.own b out.length c 14 (out.flatMap aP)) ⟨b,c,none,0,none,0⟩ rfl (λ_=>⟨kF.own (λ_=>rfl) rfl,kF.nil,kF.nil,sh,aC _,aC _⟩) (by show out.length<_;omega) (by show 0<_;decide)
 have g1: ¬op=1:=by simpa [Iy] using g1
 rw[ah g1] at fin;apply dz<;>intro g2
 ·have g2:op=2:=by simpa [Iy] using g2
  subst g2;rw[aj rfl] at fin;refine Kb hy λb c=>?_;have GJ:=tv (nx:=AY) (nv:=AZ) (gH 1 y).toNat (dw 1 y);obtain⟨out,ho⟩:∃out,(many AY AZ (gH 1 y).toNat (dw 1 y)).1=out:=⟨_,rfl⟩;obtain⟨z,hz⟩:∃z,(many AY AZ (gH 1 y).toNat (dw 1 y)).2=z:=⟨_,rfl⟩;rw[ho,hz] at fin⊢;rw[ho] at GJ;apply wE;refine nY (b:=b) λsh _=>?_;apply vf (r:=r2) (cs:=ff (Iy 2) s0) (o:=2) (v:=.l b out.length c) (by decide) rfl;exact fin _ _ (Sep.own b out.length c 16 (out.flatMap aX)) ⟨none,0,b,c,none,0⟩ rfl (λ_=>⟨kF.nil,kF.own (λ_=>rfl) rfl,kF.nil,aC _,sh,aC _⟩) (by show 0<_;decide) (by show out.length<_;omega)
 have g2: ¬op=2:=by simpa [Iy] using g2
 rw[ah g2] at fin;apply dz<;>intro g3
 ·have g3:op=3:=by simpa [Iy] using g3
  subst g3;rw[aj rfl] at fin;refine uK hy (oU ?_);refine vf (r:=r2) (cs:=ff (Iy 3) s0) (o:=3) (v:=.i (gH 8 y)) (by decide) rfl ?_;refine jr (e:=1) ?_;exact fin _ _ (Sep.own none 0 0 1 []) s0 rfl (λ_=>⟨kF.nil,kF.nil,kF.nil,aC _,aC _,aC _⟩) (by show 0<_;decide) (by show 0<_;decide)
 have g3: ¬op=3:=by simpa [Iy] using g3
 rw[ah g3] at fin;apply dz<;>intro g6
 ·have g6:op=6:=by simpa [Iy] using g6
  subst g6;rw[aj rfl] at fin;have b1:=lX (m:=16) hy;have b2:=lX (m:=8) b1;have b3:=lX (m:=8) b2;have b4:=ni (EJ _) b3;have b5:=ni (EJ _) b4;have b6:=ni (EJ _) b5;refine Fk hy (FQ rfl ?_);refine uK b1 (oU ?_);refine uK b2 (oU ?_);refine Fm b3 (mO ?_);refine Fm b4 (mO ?_);refine Fm b5 (mO ?_);refine pr b6 (oU ?_);apply dv ⟨rfl,rfl,rfl,rfl,rfl,rfl,rfl,trivial⟩;refine dv rfl ?_;apply ws;refine jr (e:=1) ?_;exact fin _ _ (Sep.own none 0 0 1 []) s0 rfl (λ_=>⟨kF.nil,kF.nil,kF.nil,aC _,aC _,aC _⟩) (by show 0<_;decide) (by show 0<_;decide)
 have g6: ¬op=6:=by simpa [Iy] using g6
 rw[ah g6] at fin;refine RQ hy λb c=>?_;have GJ:=tv (nx:=dw 16) (nv:=wP) (gH 1 y).toNat (dw 1 y);obtain⟨out,ho⟩:∃out,(many (dw 16) wP (gH 1 y).toNat (dw 1 y)).1=out:=⟨_,rfl⟩;obtain⟨z,hz⟩:∃z,(many (dw 16) wP (gH 1 y).toNat (dw 1 y)).2=z:=⟨_,rfl⟩;rw[ho,hz] at fin⊢;rw[ho] at GJ;apply wE;refine nY (b:=b) λsh _=>?_;refine vf (r:=r2) (cs:=ff (Iy op) s0) (o:=4) (v:=.l b out.length c) (by rw[Ow];decide) rfl ?_;exact fin _ _ (Sep.own b out.length c 2 (out.flatMap nm)) ⟨none,0,none,0,b,c⟩ rfl (λ_=>⟨kF.nil,kF.nil,kF.own (λ_=>rfl) rfl,aC _,aC _,sh⟩) (by show 0<_;decide) (by show 0<_;decide)
end
def Jc{n:Int}{i:Nat}(hi:i<8):Go.Sep.byteOf ag n i=Go.Sep.byteOf ag (n+18446744073709551616) i:=by
 unfold Go.Sep.byteOf shr;have h1:(8* (i:Int)).toNat=8* i:=by omega
 have h2:min (8* i) ag.bits=8* i:=by show min (8* i) 64=_;omega
 rw[h1,h2];have hp:(0:Int)<2^(8* i):=Int.pow_pos (by decide);rw[CR _ (Int.le_of_lt hp),CR _ (Int.le_of_lt hp)];have hq:(18446744073709551616:Int)=256* 2^(56-8* i)* 2^(8* i):=by
  have:(256:Int)* 2^(56-8* i)* 2^(8* i)=2^(8+(56-8* i)+8* i):=by
   rw[Int.pow_add,Int.pow_add];rfl
  rw[this,show 8+(56-8* i)+8* i=64 by omega];rfl
 rw[hq,Int.add_mul_ediv_right _ _ (by omega)]
 congr 2
 generalize n/2^(8* i)=a;generalize (2:Int)^(56-8* i)=c;simp only[IntKind.wrap,IntKind.bits,IntKind.signed];simp
def LF{n:Int}(h:oc n):lu (le .i64 8 n)=n:=by
 unfold oc at h;by_cases h0:0<=n
 ·obtain⟨m,rfl⟩:=bD h0;unfold lu;rw[qa m 8 (by omega)];have h8:(256:Nat)^8=18446744073709551616:=rfl;rw[h8,eX (by omega),aS (by omega)]
 ·obtain⟨m,hm⟩:=bD (show 0<=n+18446744073709551616 by omega);have e:le .i64 8 n=le .i64 8 (m:Int):=by
   unfold le;apply od;intro i hi;rw[List.mem_range] at hi;rw[Jc hi,hm]
  rw[e];unfold lu;rw[qa m 8 (by omega)];have h8:(256:Nat)^8=18446744073709551616:=rfl;rw[h8,eX (by omega)];simp[IntKind.wrap,IntKind.bits,IntKind.signed];split<;>omega
def Br(n:Nat):∀w:Nat,ka ((mD w).map λi=>UInt8.ofNat (n/256^i%256))=n%256^w
 |0=>by simp[ka,Nat.mod_one]
 |w+1=>by
  rw[List.range_succ,cS,Bs,Br n w,cu,List.length_range,Nat.mod_pow_succ]
  congr 2
  have e:(UInt8.ofNat (n/256^w%256)).toNat=n/256^w%256:=UInt8.toNat_ofNat_of_lt' (Nat.mod_lt _ (by decide));show(UInt8.ofNat (n/256^w%256)).toNat+256* 0=_;rw[e];omega
def QZ{n:Nat}(h:n<bV):ka (nb n)=n:=by
 unfold nb;rw[Br];exact eX (by unfold bV at h;exact h)
section
variable {r:List UInt8} {n:Int} {m:Nat}
def F'(l:List UInt8)(k:Nat)(hl:l.length=k):dw k (l++r,false)=(r,false):=by
 unfold dw;rw[ah (by simp only[cn,false_or,ak];omega),vN _ _ k hl]
def J3(l:List UInt8)(k:Nat)(hl:l.length=k):gH k (l++r,false)=lu l:=by
 unfold gH;rw[ah (by simp only[cn,false_or,ak];omega),vc _ _ k hl]
def QE(h:0<=n/\n<=255):gH 1 (le .i64 1 n++r,false)=n:=by
 obtain⟨k,rfl⟩:=bD h.1;rw[J3 _ _ (aJ _ _ _),mZ (by rw[aJ];omega),qa k 1 (by omega)];have:(256:Nat)^1=256:=rfl;rw[this,eX (by omega)]
def Yh(h:0<=n/\n<=65535):gH 2 (le .i64 2 n++r,false)=n:=by
 obtain⟨k,rfl⟩:=bD h.1;rw[J3 _ _ (aJ _ _ _),mZ (by rw[aJ];omega),qa k 2 (by omega)];have:(256:Nat)^2=65536:=rfl;rw[this,eX (by omega)]
def rd4(h:0<=n/\n<=4294967295):gH 4 (le .i64 4 n++r,false)=n:=by
 obtain⟨k,rfl⟩:=bD h.1;rw[J3 _ _ (aJ _ _ _),mZ (by rw[aJ];omega),qa k 4 (by omega)];have:(256:Nat)^4=4294967296:=rfl;rw[this,eX (by omega)]
def Yg(h:oc n):gH 8 (le .i64 8 n++r,false)=n:=by
 rw[J3 _ _ (aJ _ _ _),LF h]
def QD(h:m<bV):wP (nb m++r,false)=m:=by
 unfold wP C5;rw[ah (by simp),ah (by show ¬(nb m++r).length<16;rw[ak,o0];omega)];show ka ((nb m++r).take 16)=m;rw[vc _ _ 16 (o0 m),QZ h]
def RD:dw 1 (le .i64 1 n++r,false)=(r,false):=F' _ _ (aJ _ _ _)
def Yj:dw 2 (le .i64 2 n++r,false)=(r,false):=F' _ _ (aJ _ _ _)
def nx4:dw 4 (le .i64 4 n++r,false)=(r,false):=F' _ _ (aJ _ _ _)
def Wf:dw 8 (le .i64 8 n++r,false)=(r,false):=F' _ _ (aJ _ _ _)
def RC:dw 16 (nb m++r,false)=(r,false):=F' _ _ (o0 _)
def yx(a:bp):AF (gr a++r,false)=(r,false):=by
 have e:gr a++r=nb a.id++(nb a.dp++(nb a.dq++(nb a.cp++(nb a.cq++(le .i64 4 a.bt++(le .i64 2 a.code++(le .i64 2 a.au++(le .i64 8 a.aw++r)))))))):=by
  unfold gr;simp[aI]
 rw[e];unfold AF;simp only[vD,RC,nx4,Yj,Wf]
def BW{a:bp}(ha:wD a)(hg:oO a):AH (gr a++r,false)=a:=by
 unfold AH;rw[yx,ah (by simp)];have e:gr a++r=nb a.id++(nb a.dp++(nb a.dq++(nb a.cp++(nb a.cq++(le .i64 4 a.bt++(le .i64 2 a.code++(le .i64 2 a.au++(le .i64 8 a.aw++r)))))))):=by
  unfold gr;simp[aI]
 rw[e];simp only[vD,RC,nx4,Yj,Wf];rw[QD ha.id,QD ha.dp,QD ha.dq,QD ha.cp,QD ha.cq,rd4 hg.1,Yh hg.2.1,Yh hg.2.2,Yg ha.aw]
def Gv(t:cj):lF t++r=nb t.id++(nb t.bq++(nb t.aU++(nb t.aZ++(nb t.pending++(le .i64 4 t.cL++(le .i64 4 t.bt++(le .i64 2 t.code++(le .i64 2 t.au++(le .i64 8 t.aw++(le .i64 8 t.kQ++r)))))))))):=by
 unfold lF;simp[aI]
def vA(t:cj):AY (lF t++r,false)=(r,false):=by
 rw[Gv];unfold AY;simp only[vD,RC,nx4,Yj,Wf]
def yy{t:cj}(ht:Bf t)(hg:jR t):AZ (lF t++r,false)=t:=by
 unfold AZ;rw[vA,ah (by simp),Gv];simp only[vD,RC,nx4,Yj,Wf];rw[QD ht.id,QD ht.bq,QD ht.aU,QD ht.aZ,QD ht.pending,rd4 hg.1,rd4 hg.2.1,Yh hg.2.2.1,Yh hg.2.2.2,Yg ht.aw,Yg ht.kQ]
def tw{α:Type}{nx:RS->RS}{nv:RS->α}{g:α->List UInt8}:∀(l:List α),(∀x∈l,∀r,nx (g x++r,false)=(r,false)/\nv (g x++r,false)=x)->∀r,many nx nv l.length (l.flatMap g++r,false)=(l,(r,false))
 |[],_,r=>rfl
 |x::l,h,r=>by
  rw[bw,mu,eP,aI,(h x (by simp) _).1,(h x (by simp) _).2,tw l (λy hy=>h y (by simp[hy])) r]
  rfl
end
def canon(q:iA):iA:=if q.op=1 then{q0 with op:=1,aB:=q.aB} else if q.op=2 then{q0 with op:=2,cx:=q.cx} else{q0 with op:=3,now:=q.now}
def zj{q:iA}(hw:iV q=true)(he:fN q=true)(hA:∀a∈q.aB,wD a)(hT:∀t∈q.cx,Bf t):iX (kO q)=(canon q,([],false)):=by
 have T5:q.op=1\/q.op=2\/q.op=3:=bG he;have hf:=lD hw;unfold iX kO canon;dsimp only;rw[QE (by omega),RD];by_cases o1:q.op=1
 ·have A4:q.aB.length<=8/\∀a∈q.aB,oO a:=by rcases hf with h|h|h|h|h<;>first|exact h.2|omega
  rw[aj o1,aj o1,aj o1,QE (by omega),RD,aq];have:=tw (nx:=AF) (nv:=AH) (g:=gr) q.aB (λa ha r=>⟨yx a,BW (hA a ha) (A4.2 a ha)⟩) [];rw[bN] at this;rw[this]
 by_cases o2:q.op=2
 ·have A4:q.cx.length<=8/\∀a∈q.cx,jR a:=by rcases hf with h|h|h|h|h<;>first|exact h.2|omega
  rw[ah o1,ah o1,ah o1,aj o2,aj o2,aj o2,QE (by omega),RD,aq];have:=tw (nx:=AY) (nv:=AZ) (g:=lF) q.cx (λa ha r=>⟨vA a,yy (hT a ha) (A4.2 a ha)⟩) [];rw[bN] at this;rw[this]
 ·have o3:q.op=3:=by omega
  have A4:0<=q.now/\q.now<=1099511627776:=by rcases hf with h|h|h|h|h<;>first|exact h.2|omega
  rw[ah o1,ah o1,ah o1,ah o2,ah o2,ah o2,aj o3,aj o3];have e8:le .i64 8 q.now=le .i64 8 q.now++[]:=(bN _).symm;rw[e8,Yg (by unfold oc;omega),Wf]
def Cr(m:aK){q:iA}(he:fN q=true):cC m (canon q)=cC m q/\na (canon q)=na q:=by
 have T5:q.op=1\/q.op=2\/q.op=3:=bG he;unfold canon;by_cases o1:q.op=1
 ·rw[aj o1];unfold cC na;simp[o1]
 by_cases o2:q.op=2
 ·rw[ah o1,aj o2];unfold cC na;simp[o2]
 ·have o3:q.op=3:=by omega
  rw[ah o1,ah o2];unfold cC na;simp[o3]
def Cs{q:iA}(hw:iV q=true)(he:fN q=true):iV (canon q)=true/\fN (canon q)=true:=by
 have T5:q.op=1\/q.op=2\/q.op=3:=bG he;unfold iV oN pR at *;rw[(Cr ⟨[],[],0,0⟩ he).2];unfold fN canon;by_cases o1:q.op=1
 ·simp[o1] at hw⊢;exact hw
 by_cases o2:q.op=2
 ·simp[o2] at hw⊢;exact hw
 ·have o3:q.op=3:=by omega
  simp[o3] at hw⊢;exact hw
def Ac{q:iA}(hw:iV q=true)(he:fN q=true)(hA:∀a∈q.aB,wD a)(hT:∀t∈q.cx,Bf t):pN (kO q)=true:=by
 unfold pN;rw[zj hw he hA hT,(Cs hw he).1];rfl
def oX(e:Int)(res:List Int)(al:List bp)(tl:List cj):Bool:=
 res.all (λr=>decide (0<=r/\r<=255))&&al.all (λa=>decide (oO a))&&tl.all (λt=>decide (jR t))&&decide (0<=e/\e<=255)&&decide (res.length<=16/\al.length<=16/\tl.length<=16)
def z8(e:Int)(res:List Int)(al:List bp)(tl:List cj):List UInt8:=
 le .i64 1 e++(le .i64 1 res.length++(res.flatMap (λr=>le .i64 1 r)++(le .i64 1 al.length++(al.flatMap gr++(le .i64 1 tl.length++tl.flatMap lF)))))
def uh(e:Int)(res:List Int)(al:List bp)(tl:List cj):List UInt8:=if oX e res al tl=true then z8 e res al tl else z8 3 [] [] []
def vw(l:List UInt8):Int×List Int×List bp×List cj×RS:=
 let x1:=dw 1 (l,false)
 let r:=many (dw 1) (gH 1) (gH 1 x1).toNat (dw 1 x1)
 let a:=many AF AH (gH 1 r.2).toNat (dw 1 r.2)
 let t:=many AY AZ (gH 1 a.2).toNat (dw 1 a.2)
 (gH 1 (l,false),r.1,a.1,t.1,t.2)
def yn(l:List UInt8):Bool:=(!(vw l).2.2.2.2.2&&decide ((vw l).2.2.2.2.1=[]))&&oX (vw l).1 (vw l).2.1 (vw l).2.2.1 (vw l).2.2.2.1
def yi{e:Int}{res:List Int}{al:List bp}{tl:List cj}(h:oX e res al tl=true):(∀r∈res,0<=r/\r<=255)/\(∀a∈al,oO a)/\(∀t∈tl,jR t)/\(0<=e/\e<=255)/\res.length<=16/\al.length<=16/\tl.length<=16:=by
 unfold oX at h;simp only[cY,kh,decide_eq_true_eq] at h;obtain⟨⟨⟨⟨h1,h2⟩,h3⟩,h4⟩,h5⟩:=h;exact⟨h1,h2,h3,h4,h5⟩
def BL{e:Int}{res:List Int}{al:List bp}{tl:List cj}(h:oX e res al tl=true)(hA:∀a∈al,wD a)(hT:∀t∈tl,Bf t):vw (z8 e res al tl)=(e,res,al,tl,([],false)):=by
 obtain⟨h1,h2,h3,h4,h5,h6,h7⟩:=yi h;unfold vw z8;have nn:∀n:Nat,n<=16->((n:Int)).toNat=n:=λn _=>aq n;simp only[RD,QE (n:=e) h4,QE (n:=(res.length:Int)) (by omega)];rw[aq,tw (g:=λr=>le .i64 1 r) res (λx hx r=>⟨RD,QE (h1 x hx)⟩)];simp only[RD,QE (n:=(al.length:Int)) (by omega)];rw[aq,tw (g:=gr) al (λx hx r=>⟨yx x,BW (hA x hx) (h2 x hx)⟩)];simp only[RD,QE (n:=(tl.length:Int)) (by omega)];have:=tw (nx:=AY) (nv:=AZ) (g:=lF) tl (λx hx r=>⟨vA x,yy (hT x hx) (h3 x hx)⟩) [];rw[bN] at this;rw[aq,this]
def ED{e:Int}{res:List Int}{al:List bp}{tl:List cj}(hA:∀a∈al,wD a)(hT:∀t∈tl,Bf t):yn (uh e res al tl)=true/\
 vw (uh e res al tl)=if oX e res al tl=true then(e,res,al,tl,([],false)) else(3,[],[],[],([],false)):=by
 unfold uh;by_cases h:oX e res al tl=true
 ·rw[aj h,aj h];have:=BL h hA hT;unfold yn;rw[this];exact⟨by rw[h];rfl,rfl⟩
 ·rw[ah h,ah h];have h0:oX 3 [] [] []=true:=by decide
  have:=BL h0 (λa ha=>by cases ha) (λt ht=>by cases ht);unfold yn;rw[this];exact⟨by rw[h0];rfl,rfl⟩
def Ox{e:Int}{res:List Int}{al:List bp}{tl:List cj}:(uh e res al tl).length<=20000:=by
 unfold uh;split
 ·rename_i h;obtain⟨_,_,_,_,h5,h6,h7⟩:=yi h;unfold z8;have f1:(res.flatMap λr=>le .i64 1 r).length=res.length* 1:=c6 (λr=>aJ _ _ _) res;have f2:(al.flatMap gr).length=al.length* 96:=c6 ln al;have f3:=c6 mr tl;simp only[ak,aJ,f1,f2,f3];omega
 ·simp[z8,aJ]
section
variable {W:World} {L R:LH} {K:VK} {X:WK} {p:Nat} {b:aO}
def ME{q:Core}{f:Core->LH}[i:Lc (fb p) L q f](hl:q.vs.length<1000000)(h:T W (f {q with vs:=[]}) (K (.tuple ⟨[]⟩))):T W L (jG (ai p) K):=by
 refine nH (p:=p) λb1 c1 b2 c2 b3 c3 hp R2 g1 g2 Se=>?_;unfold jG fY;apply ws;refine nY (b:=b1) λsh L7=>?_;refine NX (b:=b1) (by rw[kW,L7];simp) (λv hv=>?_) λzs=>?_
 ·simp only[Builtin.zeroCells,AB,dK] at hv;obtain⟨j,_,rfl⟩:=hv;have:(⟨[Value.nilFunc]⟩:Array Value)[j%(⟨[Value.nilFunc]⟩:Array Value).size]! =.nilFunc:=by
   have:j%(⟨[Value.nilFunc]⟩:Array Value).size=0:=Nat.mod_one j;rw[this];rfl
  rw[this];rfl
 apply ws;refine wZ (i:=0) (by omega) ?_;refine zb (b:=b1) (i:=0) (by omega) ?_;apply ws;rw[Nat.zero_mul,qM];exact Se [] {q with vs:=[]} b1 c1 b2 c2 b3 c3 hp _ g1 g2 h
def FT{α:Type}{g:α->LV}{e l:Nat}(h:T W (pE g e l (p,[])::L) X):T W (Sep.pt l [.l none 0 0,.p (some (ad p 0))]::L) X:=λw hw=>by
 have h2:=(hw.push (A:=own none 0 0 e []) (qh e)).perm (bA.swap _ _ _);exact h w (St.nT (none,0) (St.om [_,_] L h2))
def P5(h:∀p la lk ti tn,T W (fb p ⟨la,lk,ti,tn,[],[],[],0,0⟩::pE aP 14 la (p,[])::pE bU 33 lk (p,[])::l9 ti (λ_=>none,0)::l9 tn (λ_=>none,0)::L) (K (.p (ai p)))):T W L (rm K):=by
 unfold rm;refine Vg λti=>?_;apply vd;refine Vg λtn=>?_;apply vd;apply dv ⟨rfl,rfl,trivial⟩;refine jy λr=>?_;unfold nF pJ;apply En;apply dv ⟨rfl,trivial⟩;refine jy λla=>?_;apply vd;apply dv ⟨rfl,trivial⟩;refine jy λlk=>?_;apply vd;refine vf (r:=r) (cs:=[.l none 0 0,.p none,.p none,.p (ai ti),.p (ai tn),.l none 0 0,.l none 0 0,.i 0,.i 0]) (o:=1) (v:=.p (ai la)) (by show 1<9;decide) rfl ?_;refine vf (r:=r) (cs:=[.l none 0 0,.p (ai la),.p none,.p (ai ti),.p (ai tn),.l none 0 0,.l none 0 0,.i 0,.i 0]) (o:=2) (v:=.p (ai lk)) (by show 2<9;decide) rfl ?_;refine FT (g:=bU) (e:=33) ?_;refine T.Ij (FT (g:=aP) (e:=14) ?_);refine jr (e:=4) (jr (e:=2) (jr (e:=1) ?_));have:=xr (W:=W) (p:=r) (q:=⟨la,lk,ti,tn,[],[],[],0,0⟩) (b1:=none) (c1:=0) (b2:=none) (c2:=0) (b3:=none) (c3:=0) (h:=[]) (X:=K (.p (ai r))) (λj hj x y hx=>by simp at hx) (bA.refl _) (h r la lk ti tn);apply T.perm this;exact(bC (l₁:=[_,_,_,_,_]) (l₂:=[_])|>.append_right (_::_::L)).trans (bA.append_left [_,_,_,_,_,_] (bA.swap _ _ _))
def DM{α:Type}{key:α->Nat}{l:List α}(hn:(l.map key).Nodup){i:Nat}{x:α}(hx:l[i]?=some x):(l.take i).find? (λa=>key a=key x)=none:=by
 obtain⟨hi,rfl⟩:=ar.1 hx;rw[sX];intro a ha hk;obtain⟨j,hj,rfl⟩:=List.getElem_of_mem ha;rw[aG] at hj;rw[List.getElem_take] at hk;have:=nh.1 hn j i (by simpa using by omega) (by simpa using hi) (by omega);simp only[List.getElem_map] at this;exact this (by simpa using hk)
def CZ(l:List bS)(j:Nat):dD 0 (l.take j)=(dD 0 l).take j:=by
 apply jq;intro i;rw[jj,pw,pw,jj];split<;>rfl
def X4(hg:eL b){sa sk:OA}{ca ck:Nat}[hh:Has R L](hA:kF W R aP 14 sa b.aB)(hK:kF W R bU 33 sk b.ax)
 (h:∀p,T W (bX p (b,[])::L) (K (.tuple ⟨[.p (ai p),.i 0]⟩))):T W L (de sa b.aB.length ca sk b.ax.length ck b.clock b.aw K):=by
 have oK:=hg.oK;have many:=hg.many;have uy:=hg.aw;have hck:=hg.clock;unfold de;refine P5 λp la lk ti tn=>?_;apply vd;refine cW (by simp;omega) ?_;unfold de.j3;rw[show decide (((b.ax.length:Nat):Int)>96)=false by simp;omega,fo];unfold de.j4;rw[show decide (b.clock<0)=false by simp;omega,fo];unfold de.j5;rw[show decide (b.clock>1099511627776)=false by simp;omega,fo];refine cW (by simp;omega) ?_;rw[show decide (b.aw>1099511627776)=false by simp;omega];unfold de.j1;rw[fo];intro w T1;refine⟨λvv w=>∃(i:Nat)(vs:LV),i<=b.aB.length/\vs.length=i/\vv=[.p none,.i 0,.p (ai p),.l sa b.aB.length ca,.i (b.aB.length:Int),.i (i:Int)]/\
                                                                                                                                                                  St W w (fb p ⟨la,lk,ti,tn,vs,[],[],0,0⟩::pE aP 14 la (p,b.aB.take i)::pE bU 33 lk (p,[])::l9 ti (EP (b.aB.take i))::l9 tn (λ_=>none,0)::L),
  mq 5 b.aB.length,⟨0,[],aL _,rfl,rfl,T1⟩,?_⟩
 rintro p2 n3 p3 qf oP qQ n4 n5 w2 ⟨i,vs,hi,hvs,e,gJ⟩;cases e
 refine T.at ?_ gJ;have e5:=oe i;apply gO<;>intro g1
 ·have bW:i<b.aB.length:=by omega
  have gx:=ao bW;generalize b.aB[i]=x at gx;have Pj:=DM (key:=λx:bp=>x.id) hg.ids gx;have lH:(EP (b.aB.take i)).1 x.id=none:=by show so _ _=_;rw[nS (key:=λx:bp=>x.id) Pj];rfl
  have ER:(b.aB.take i).length=i:=by rw[aG];omega
  have hsn:=yG (key:=λx:bp=>x.id) Pj;have rM:b.aB.take (i+1)=b.aB.take i++[x]:=by rw[bP,gx];rfl
  refine iu hA ⟨by omega,by omega⟩ rfl λa ha=>?_;rw[aq];apply je hA ha gx rfl;apply ws;intros;apply Ay (t:=ti) (x:=EP (b.aB.take i));rw[lH];simp only[dj,eV];apply ws;refine QC (p:=p) (l:=la) (x:=x) (items:=b.aB.take i) (by rw[ER];omega) (by show vs.length<_;omega) λr3 r4=>?_;apply ws;refine KW (t:=ti) (x:=EP (b.aB.take i)) (by show(b.aB.take i).length<=1000;omega) lH ?_;apply ws;rw[e5];refine T.drop (T.drop (T.drop ?_));refine λw3 h3=>⟨⟨i+1,vs++[yV r3 r4],bW,by simp;omega,rfl,?_⟩,dn (by omega)⟩;rw[rM];rw[show EP (b.aB.take i++[x])=_ from hsn];exact h3
 ·have kP:i=b.aB.length:=by omega
  subst kP;rw[bF];intro w3 Zl;refine⟨λvv w=>∃(j:Nat)(vs:LV),j<=b.ax.length/\vs.length<=1000+j/\vv=[.p none,.i 0,.p (ai p),.l sk b.ax.length ck,.i (b.ax.length:Int),.i (j:Int)]/\
              St W w (fb p ⟨la,lk,ti,tn,vs,dD 0 (b.ax.take j),(b.ax.take j).filterMap eo,0,0⟩::pE aP 14 la (p,b.aB)::pE bU 33 lk (p,b.ax.take j)::l9 ti (EP b.aB)::l9 tn (CO (b.ax.take j))::L),
   mq 5 b.ax.length,⟨0,vs,aL _,by omega,rfl,Zl⟩,?_⟩
  rintro p7 n8 p8 xx wF xY n9 Wn w5 ⟨j,u1,hj,adh,e,T2⟩;cases e
  refine T.at ?_ T2;have e6:=oe j;apply gO<;>intro g1
  ·have bW:j<b.ax.length:=by omega
   have gx:=ao bW;have gk:=hg.O8 _ (bT bW);have L5:∀k∈b.ax.take j,k.move.aw<(b.ax[j]'bW).move.aw:=λk hk=>by
    obtain⟨m,hm,rfl⟩:=List.getElem_of_mem hk;rw[aG] at hm;rw[List.getElem_take];exact nh.1 hg.rising m j (by omega) bW (by omega)
   generalize b.ax[j]=x at gx gk L5;have Pj:=DM (key:=λx:bS=>x.move.id) hg.names gx;have lH:(CO (b.ax.take j)).1 x.move.id=none:=by show so _ _=_;rw[nS (key:=λx:bS=>x.move.id) Pj];rfl
   have ER:(b.ax.take j).length=j:=by rw[aG];omega
   have hsn:=yG (key:=λx:bS=>x.move.id) Pj;have rM:b.ax.take (j+1)=b.ax.take j++[x]:=by rw[bP,gx];rfl
   have Zs:pX (dD 0 (b.ax.take j)):=by rw[CZ];exact List.Pairwise.sublist (List.take_sublist _ _) hg.vo
   refine iu hK ⟨by omega,by omega⟩ rfl λa ha=>?_;rw[aq];apply je hK ha gx rfl;apply ws;intros;rename_i r2;apply Ay (t:=tn) (x:=CO (b.ax.take j));rw[lH];simp only[dj,eV];apply ws;refine cW (by have:=gk.fate;simp;omega) ?_;apply ws;refine cW (by have:=gk.fate;simp;omega) ?_;apply ws;apply Jr (l:=lk);rw[ER];apply ws;refine KD (p:=p) Zs (by rw[ji];omega) (λy hy=>?_) ?_
   ·obtain⟨k,hk,e⟩:=xU hy;rw[e];exact L5 k hk
   apply ws;unfold de.j2;rw[Bool.not_true,fo];apply ws;refine Qu (p:=p) (l:=lk) (x:=x) (items:=b.ax.take j) (by rw[ER];omega) (by show u1.length<_;omega) λr3 r4=>?_;rw[ER];apply ws;refine KW (t:=tn) (x:=CO (b.ax.take j)) (by show(b.ax.take j).length<=1000;omega) lH ?_;apply ws;apply PE (k:=x) gk;apply ws;intros;rename_i r5;rw[e6];have Zo:dD 0 (b.ax.take (j+1))=dD 0 (b.ax.take j)++[(x.move.aw,(j:Int))]:=by rw[rM,sK,ER,az]
   have ZK:CO (b.ax.take (j+1))=(tQ (CO (b.ax.take j)).1 x.move.id (some (j:Int)),(CO (b.ax.take j)).2+1):=by rw[rM];rw[show CO (b.ax.take j++[x])=_ from hsn,ER]
   cases hd:eo x with
   |none=>
    simp only[dj];apply ws;refine T.drop (T.drop (T.drop (T.drop ?_)));refine λw3 h3=>⟨⟨j+1,u1++[sE r3 r4],bW,by simp;omega,rfl,?_⟩,dn (by omega)⟩;have hen:(b.ax.take (j+1)).filterMap eo=(b.ax.take j).filterMap eo:=by rw[rM,List.filterMap_append];simp[hd]
    rw[Zo,ZK,hen,rM];exact h3
   |some y=>
    have ey:I4 x=y:=by
     unfold eo at hd;split at hd
     ·cases hd;rfl
     ·cases hd
    simp only[cB];rw[ey];apply ws;simp only[dh,az];refine E6 (p:=p) (e':=(b.ax.take j).filterMap eo++[y]) (by
     have:=List.length_filterMap_le eo (b.ax.take j)
     show((b.ax.take j).filterMap eo).length<_
     omega) (bA.refl _) ?_
    apply ws;refine T.drop (T.drop (T.drop (T.drop ?_)));refine λw3 h3=>⟨⟨j+1,u1++[sE r3 r4],bW,by simp;omega,rfl,?_⟩,dn (by omega)⟩;have hen:(b.ax.take (j+1)).filterMap eo=(b.ax.take j).filterMap eo++[y]:=by rw[rM,List.filterMap_append];simp[hd]
    rw[Zo,ZK,hen,rM];exact h3
  ·have kP:j=b.ax.length:=by omega
   subst kP;rw[bF];apply ws;apply HW (p:=p);apply ws;apply HV (p:=p);apply ws;refine ME (p:=p) (by show u1.length<_;omega) ?_;apply ws;have fin:=h p;intro w7 hw7;have h2:=hw7.push (A:=sT []) trivial;refine Bb (p:=p) (la:=la) (lk:=lk) (ti:=ti) (tn:=tn) (vs:=[]) (bx:=[]) (c:=dT b) (hs:=[]) (R:=L) trivial (λw hw=>fin w (St.and_intro hg hw)) w7 ?_;exact h2.perm (bC (l₁:=[sT []]) (l₂:=[_,_,_,_,_])|>.append_right L)
end
def mJ(k:bS):List UInt8:=lF k.asked++lF k.move++le .i64 1 k.fate
def tD(k:bS):(mJ k).length=217:=by unfold mJ;rw[ak,ak,mr,mr,aJ]
def wS(b:aO):List UInt8:=le .i64 1 1++le .i64 8 b.clock++le .i64 8 b.aw++le .i64 2 (b.aB.length:Int)++le .i64 2 (b.ax.length:Int)
def DT(b:aO):(wS b).length=21:=by simp only[wS,ak,aJ]
def cU(b:aO):List UInt8:=wS b++b.aB.flatMap gr++b.ax.flatMap mJ
section
variable {W:World} {L R:LH} {K:VK} {X:WK} {p:Nat} {b:aO} {hs:List C} {f:aO×List C->LH}
def Tm[i:Lc (bX p) L (b,hs) f](h:T W L (K (.i b.clock))):T W L (mM (ai p) K):=by
 have hL:f (b,hs)=L:=i.same;refine HA (p:=p) λla lk ti tn vs bx R hg hc nR=>?_;have fin:=nR [] b hs vs bx _ hg hc (by rw[hL];exact h);unfold mM;apply ws;exact fin
def Te[i:Lc (bX p) L (b,hs) f](h:T W L (K (.i b.aw))):T W L (mL (ai p) K):=by
 have hL:f (b,hs)=L:=i.same;refine HA (p:=p) λla lk ti tn vs bx R hg hc nR=>?_;have fin:=nR [] b hs vs bx _ hg hc (by rw[hL];exact h);unfold mL;apply ws;exact fin
def oy[i:Lc (bX p) L (b,hs) f](h:∀bb c,T W (own bb b.aB.length c 14 (b.aB.flatMap aP)::L) (K (.l bb b.aB.length c))):T W L (fJ (ai p) K):=by
 have hL:f (b,hs)=L:=i.same;refine HA (p:=p) λla lk ti tn vs bx R hg hc nR=>?_;have oK:=hg.oK;unfold fJ;apply ws;refine Yd (l:=la) (by show b.aB.length<_;omega) λbb c=>?_;apply ws;exact nR [_] b hs vs bx _ hg hc (by rw[hL];exact h bb c)
def KY[i:Lc (bX p) L (b,hs) f](h:∀bb c,T W (own bb b.ax.length c 33 (b.ax.flatMap bU)::L) (K (.l bb b.ax.length c))):T W L (kA (ai p) K):=by
 have hL:f (b,hs)=L:=i.same;refine HA (p:=p) λla lk ti tn vs bx R hg hc nR=>?_;have many:=hg.many;unfold kA;apply ws;refine X6 (l:=lk) (by show b.ax.length<_;omega) λbb c=>?_;apply ws;exact nR [_] b hs vs bx _ hg hc (by rw[hL];exact h bb c)
def Dt[i:Lc (bX p) L (b,hs) f](h:T W L (K (.s (bs (cU b))))):T W L (qp (ai p) K):=by
 refine nG (p:=p) λhg=>?_;have oK:=hg.oK;have many:=hg.many;unfold qp;apply NY;refine jy λr1=>?_;apply HX;refine po (by simp) (za ?_);refine Tm (p:=p) (oU ?_);refine wz (by simp only[ak,dH,aJ];omega) (za ?_);refine Te (p:=p) (oU ?_);refine wz (by simp only[ak,dH,aJ];omega) (za ?_);refine oy (p:=p) λb1 c1=>?_;apply wE;refine Bd (by simp only[ak,dH,aJ];omega) (za ?_);refine KY (p:=p) λb2 c2=>?_;apply wE;refine Bd (by simp only[ak,dH,aJ];omega) (za ?_);refine oy (p:=p) λb3 c3=>?_;apply wE;have e0:[]++le .i64 1 1++le .i64 8 b.clock++le .i64 8 b.aw++le .i64 2 (b.aB.length:Int)++le .i64 2 (b.ax.length:Int)=wS b:=by unfold wS;simp
 rw[e0];intro w T1;refine⟨λvv w=>∃i:Nat,i<=b.aB.length/\vv=[.s .empty,.p (some (ad r1 0)),.l b3 b.aB.length c3,.i (b.aB.length:Int),.i (i:Int)]/\
    St W w (own b3 b.aB.length c3 14 (b.aB.flatMap aP)::own b2 b.ax.length c2 33 (b.ax.flatMap bU)::own b1 b.aB.length c1 14 (b.aB.flatMap aP)::buf r1 (wS b++(b.aB.take i).flatMap gr)::L),
  mq 4 b.aB.length,⟨0,aL _,rfl,by simpa using T1⟩,?_⟩
 rintro s1 a1 xx wF xY n3 n4 w2 ⟨i,hi,e,gJ⟩;cases e
 refine T.at ?_ gJ;have e5:=oe i;have hlen:(wS b++(b.aB.take i).flatMap gr).length<=21+32* 96:=by
  rw[ak,DT,c6 ln,aG];have:min i b.aB.length* 96<=32* 96:=fS _ (by omega);omega
 apply gO<;>intro g1
 ·have bW:i<b.aB.length:=by omega
  have gx:=ao bW;have gm:=(hg.P' _ (bT bW)).good;generalize b.aB[i]=x at gx gm;refine gu (b:=b3) ⟨by omega,by omega⟩ λrb hb=>?_;subst hb;rw[aq];refine jH (λ_=>rfl) gx ?_
  repeat' first|apply ws;intros|apply wb|with_reducible refine Qc gm (by omega) ?_|fail
  rw[e5];refine T.drop λw3 h3=>⟨⟨i+1,bW,rfl,?_⟩,dn (by omega)⟩;rw[bP,gx,fC];simpa [aI] using h3
 ·have kP:i=b.aB.length:=by omega
  subst kP;rw[bF] at hlen⊢;refine KY (p:=p) λb5 c5=>?_;apply wE;intro w4 hw4;refine⟨λvv w=>∃j:Nat,j<=b.ax.length/\vv=[.s .empty,.p (some (ad r1 0)),.l b5 b.ax.length c5,.i (b.ax.length:Int),.i (j:Int)]/\
              St W w (own b5 b.ax.length c5 33 (b.ax.flatMap bU)::own b3 b.aB.length c3 14 (b.aB.flatMap aP)::own b2 b.ax.length c2 33 (b.ax.flatMap bU)::own b1 b.aB.length c1 14 (b.aB.flatMap aP)::buf r1 (wS b++b.aB.flatMap gr++(b.ax.take j).flatMap mJ)::L),
   mq 4 b.ax.length,⟨0,aL _,rfl,by simpa using hw4⟩,?_⟩
  rintro s2 a3 sb6 sn6 sc6 n5 n6 w5 ⟨j,hj,e,T2⟩;cases e
  refine T.at ?_ T2;have e6:=oe j;have Cc:(wS b++b.aB.flatMap gr++(b.ax.take j).flatMap mJ).length<=21+32* 96+96* 217:=by
   rw[ak,c6 tD,aG];have:min j b.ax.length* 217<=96* 217:=fS _ (by omega);omega
  apply gO<;>intro g1
  ·have bW:j<b.ax.length:=by omega
   have gx:=ao bW;have gm:=hg.O8 _ (bT bW);generalize b.ax[j]=x at gx gm;refine gu (b:=b5) ⟨by omega,by omega⟩ λrb hb=>?_;subst hb;rw[aq];refine jH (λ_=>rfl) gx ?_
   repeat' first|apply ws;intros|apply wb|with_reducible refine HZ gm.Jk (by omega) ?_|fail
   refine HZ gm.J' (by rw[ak,mr];omega) (za ?_)
   repeat' first|apply ws|apply wb|with_reducible refine po (by simp only[ak,mr] at Cc⊢;omega) ?_|fail
   rw[e6];refine T.drop λw3 h3=>⟨⟨j+1,bW,rfl,?_⟩,dn (by omega)⟩;rw[bP,gx,fC];simpa [aI,mJ] using h3
  ·have kP:j=b.ax.length:=by omega
   subst kP;rw[bF];refine pW (p:=r1) (xQ ?_);exact T.dp h
end
section
variable {W:World} {L R:LH} {K:VK} {X:WK} {p:Nat} {b:aO}
def tZ{b:aO}(hg:eL b):(cU b).length=21+b.aB.length* 96+b.ax.length* 217:=by
 unfold cU;rw[ak,ak,DT,c6 ln,c6 tD]
def F1(hg:eL b)(h:∀p,T W (bX p (b,[])::L) (K (.tuple ⟨[.p (ai p),.i 0]⟩))):T W L (lQ (bs (cU b)) K):=by
 have oK:=hg.oK;have many:=hg.many;have uy:=hg.aw;have hck:=hg.clock;have hlen:=tZ hg;have uA:cU b=le .i64 1 1++(le .i64 8 b.clock++(le .i64 8 b.aw++(le .i64 2 (b.aB.length:Int)++(le .i64 2 (b.ax.length:Int)++(b.aB.flatMap gr++b.ax.flatMap mJ))))):=by
  unfold cU wS;simp only[aI]
 unfold lQ;refine HY λr=>?_;apply vd;refine pr (by show(cU b).length<_;omega) (oU ?_);rw[uA];rw[QE (by omega),RD];apply cW (by decide);have Yo:(le .i64 8 b.clock++(le .i64 8 b.aw++(le .i64 2 (b.aB.length:Int)++(le .i64 2 (b.ax.length:Int)++(b.aB.flatMap gr++b.ax.flatMap mJ))))).length<1099511627776:=by
  rw[uA,ak] at hlen;omega
 refine uK Yo (oU ?_);rw[Yg (by unfold oc;omega),Wf];rw[ak] at Yo;have QN:(le .i64 8 b.aw++(le .i64 2 (b.aB.length:Int)++(le .i64 2 (b.ax.length:Int)++(b.aB.flatMap gr++b.ax.flatMap mJ)))).length<1099511627776:=by omega
 refine uK QN (oU ?_);rw[Yg (by unfold oc;omega),Wf];rw[ak] at QN;have hl4:(le .i64 2 (b.aB.length:Int)++(le .i64 2 (b.ax.length:Int)++(b.aB.flatMap gr++b.ax.flatMap mJ))).length<1099511627776:=by omega
 refine Be hl4 (oU ?_);rw[Yh (by omega),Yj];rw[ak] at hl4;have hl5:(le .i64 2 (b.ax.length:Int)++(b.aB.flatMap gr++b.ax.flatMap mJ)).length<1099511627776:=by omega
 refine Be hl5 (oU ?_);rw[Yh (by omega),Yj];refine uJ (r:=r) (mO ?_);rw[fo];refine Tg (r:=r) (oU ?_);have B9:(b.aB.flatMap gr++b.ax.flatMap mJ).length=b.aB.length* 96+b.ax.length* 217:=by
  rw[ak,c6 ln,c6 tD]
 have e1:ag.wrap ((b.aB.length:Int)* 96)=(b.aB.length:Int)* 96:=aS (by omega);have e2:ag.wrap ((b.ax.length:Int)* 217)=(b.ax.length:Int)* 217:=aS (by omega);have e3:ag.wrap ((b.aB.length:Int)* 96+(b.ax.length:Int)* 217)=(b.aB.length:Int)* 96+(b.ax.length:Int)* 217:=aS (by omega);rw[e1,e2,e3];rw[ah (by simp),show((((b.aB.flatMap gr++b.ax.flatMap mJ).length:Nat):Int)!=(b.aB.length:Int)* 96+(b.ax.length:Int)* 217)=false by rw[B9];simp];unfold lQ.j1;rw[fo];refine jr (e:=14) ?_;intro w T1;refine⟨λvv w=>∃(i:Nat)(bo:OA)(cc:Nat),i<=b.aB.length/\vv=[.p none,.i 0,.p (ai r),.i b.clock,.i b.aw,.i (b.ax.length:Int),.l bo (b.aB.take i).length cc,.i (b.aB.length:Int),.i (i:Int)]/\
                                                                                                                                                                                                                                                                                           St W w (own bo (b.aB.take i).length cc 14 ((b.aB.take i).flatMap aP)::rd r ((b.aB.drop i).flatMap gr++b.ax.flatMap mJ,false)::L),
  mq 8 b.aB.length,⟨0,none,0,aL _,rfl,T1⟩,?_⟩
 rintro p2 n6 p3 n7 n8 n9 bo qG cc Wn RJ w2 ⟨i,b0,c0,hi,e,gJ⟩;cases e
 refine T.at ?_ gJ;have e5:=oe i;have ER:(b.aB.take i).length=i:=by rw[aG];omega
 apply gO<;>intro g1
 ·have bW:i<b.aB.length:=by omega
  have gm:=hg.P' _ (bT bW);have gx:=ao bW;have ZV:b.aB.drop i=b.aB[i]::b.aB.drop (i+1):=jX bW;generalize b.aB[i]=x at gm gx ZV;have AJ:(b.aB.drop i).flatMap gr++b.ax.flatMap mJ=gr x++((b.aB.drop (i+1)).flatMap gr++b.ax.flatMap mJ):=by rw[ZV,eP,aI]
  have L7:((b.aB.drop i).flatMap gr++b.ax.flatMap mJ).length<1099511627776:=by
   rw[ak,c6 ln,c6 tD,aV];have:(b.aB.length-i)* 96<=32* 96:=fS _ (by omega);have:b.ax.length* 217<=96* 217:=fS _ (by omega);omega
  rw[AJ] at L7⊢;apply Qd L7;rw[yx,BW gm.ok gm.good];apply ws;intros;refine mU (b:=bo) (x:=x) rfl rfl rfl (by omega) (by omega) (iZ _) λb2 c2=>?_;rw[e5];have rM:b.aB.take (i+1)=b.aB.take i++[x]:=by rw[bP,gx];rfl
  refine T.drop λw3 h3=>⟨⟨i+1,b2,c2,bW,?_,?_⟩,dn (by omega)⟩
  ·rw[rM];simp
  ·rw[rM];simpa using h3
 ·have kP:i=b.aB.length:=by omega
  subst kP;rw[bF,List.drop_length,List.flatMap_nil,dm];refine jr (e:=33) ?_;intro w3 Zl;refine⟨λvv w=>∃(j:Nat)(bk:OA)(ck:Nat),j<=b.ax.length/\vv=[.p none,.i 0,.p (ai r),.i b.clock,.i b.aw,.l bo b.aB.length cc,.l bk (b.ax.take j).length ck,.i (b.ax.length:Int),.i (j:Int)]/\
              St W w (own bk (b.ax.take j).length ck 33 ((b.ax.take j).flatMap bU)::own bo b.aB.length cc 14 (b.aB.flatMap aP)::rd r ((b.ax.drop j).flatMap mJ,false)::L),
   mq 8 b.ax.length,⟨0,none,0,aL _,rfl,Zl⟩,?_⟩
  rintro p4 RI p5 Wm Za qf oP qQ bk wF ck Wl vD w5 ⟨j,b1,c1,hj,e,T2⟩;cases e
  refine T.at ?_ T2;have e6:=oe j;have agq:(b.ax.take j).length=j:=by rw[aG];omega
  apply gO<;>intro g2
  ·have bW:j<b.ax.length:=by omega
   have gm:=hg.O8 _ (bT bW);have gx:=ao bW;have ZV:b.ax.drop j=b.ax[j]::b.ax.drop (j+1):=jX bW;generalize b.ax[j]=x at gm gx ZV;have AJ:(b.ax.drop j).flatMap mJ=lF x.asked++(lF x.move++(le .i64 1 x.fate++(b.ax.drop (j+1)).flatMap mJ)):=by rw[ZV,eP];simp[mJ,aI]
   have L7:((b.ax.drop j).flatMap mJ).length<1099511627776:=by
    rw[c6 tD,aV];have:(b.ax.length-j)* 217<=96* 217:=fS _ (by omega);omega
   rw[AJ] at L7⊢;have ZG:(lF x.move++(le .i64 1 x.fate++(b.ax.drop (j+1)).flatMap mJ)).length<1099511627776:=by rw[ak] at L7;omega
   have adr:(le .i64 1 x.fate++(b.ax.drop (j+1)).flatMap mJ).length<1099511627776:=by rw[ak] at ZG;omega
   apply H0 L7;rw[vA,yy gm.asked gm.Jk];apply ws;apply H0 ZG;rw[vA,yy gm.move gm.J'];apply ws;refine pr adr (oU ?_);rw[QE (by have:=gm.fate;omega),RD];apply dv ⟨rfl,rfl,rfl,trivial⟩;apply dv ⟨rfl,trivial⟩;refine jy λr3=>?_;refine mU (b:=bk) (x:=x) (by show(aX x.asked++(aX x.move++[.i x.fate]))++[]=bU x;rw[bN];rfl) rfl rfl (by omega) (by omega) (m8 _) λb2 c2=>?_;rw[e6];have rM:b.ax.take (j+1)=b.ax.take j++[x]:=by rw[bP,gx];rfl
   refine T.drop λw6 h6=>⟨⟨j+1,b2,c2,bW,?_,?_⟩,dn (by omega)⟩
   ·rw[rM];simp
   ·rw[rM];simpa using h6
  ·have kP:j=b.ax.length:=by omega
   subst kP;rw[bF,List.drop_length,List.flatMap_nil];refine X4 (R:=own bk b.ax.length ck 33 (b.ax.flatMap bU)::own bo b.aB.length cc 14 (b.aB.flatMap aP)::rd r ([],false)::L) hg ?_ (kF.own (λ_=>rfl) rfl) λp=>?_
   ·have:=kF.own (W:=W) (L:=rd r ([],false)::L) (b:=bo) (n:=b.aB.length) (c:=cc) (e:=14) (g:=aP) (xs:=b.aB) (λ_=>rfl) rfl;exact this.mono
   apply ws;apply cW (by decide);refine Jq (r:=r) (mO ?_);apply T.sub (h p);exact sg
end
end Go.Up
namespace Go.Sep
open Go.Den Go.RowKit Go.Prog Go.bE
def BZ{D:ba}{a toX q a2:Int}{s:List UInt8}(h:oG D a toX q=some (s,a2)):a<a2/\a2<=toX/\0<=a/\toX<=(D.safe.length:Int)/\s.length<=32768/\a2=a+(fX (12+s.length):Int):=by
 unfold oG at h;split at h
 ·cases h
 rename_i ha;split at h
 ·cases h
 rename_i m j d hv;split at h
 ·cases h
 rename_i hj;split at h
 ·cases h
 rename_i hc;split at h
 ·cases h
 rename_i t ht;obtain⟨l1,l2,l3,l4,l5⟩:=take_length ht;simp only[bj.injEq,Prod.mk.injEq] at h;obtain⟨h1,h2⟩:=h;subst h1;have hn: ¬32768<gH 4 (dw 8 (d.data.toList,false)):=λhh=>hc (.inr hh);have h4:=J9 (dw 8 (d.data.toList,false));generalize gH 4 (dw 8 (d.data.toList,false))=n6 at *;have hp:=A8 (12+n6).toNat;have e:(12+n6).toNat=12+(t.drop 12).length:=by rw[aV];omega
 rw[e] at h2 l3 hp;rw[<-h2];have hl:(t.drop 12).length=t.length-12:=aV;exact⟨by omega,by omega,l2,l4,by omega,rfl⟩
def wN(D:ba)(toX:Int):Nat->Int->Int->List (List UInt8)×Int×Int
 |0,a,q=>([],a,q)
 |f+1,a,q=>match oG D a toX (q+1) with
  |none=>([],a,q)
  |some (s,a2)=>(s::(wN D toX f a2 (q+1)).1,(wN D toX f a2 (q+1)).2)
def iq(D:ba)(toX a q:Int):List (List UInt8)×Int×Int:=wN D toX (toX-a).toNat a q
def DG{D:ba}{a toX q:Int}(h:toX<=a):oG D a toX q=none:=by unfold oG;rw[aj h]
def yu{D:ba}{toX:Int}:∀(f f':Nat)(a q:Int),(toX-a).toNat<=f->(toX-a).toNat<=f'->wN D toX f a q=wN D toX f' a q
 |0,f',a,q,h1,h2=>by
  have hn:=DG (D:=D) (a:=a) (toX:=toX) (q:=q+1) (by omega);cases f' with
  |zero=>rfl
  |succ f'=>simp only[wN,hn]
 |f+1,0,a,q,h1,h2=>by
  have hn:=DG (D:=D) (a:=a) (toX:=toX) (q:=q+1) (by omega);simp only[wN,hn]
 |f+1,f'+1,a,q,h1,h2=>by
  simp only[wN];cases hn:oG D a toX (q+1) with
  |none=>rfl
  |some y=>
   obtain⟨s,a2⟩:=y;have:=BZ hn;dsimp only;rw[yu f f' a2 (q+1) (by omega) (by omega)]
def xh{D:ba}{toX a q:Int}(h:oG D a toX (q+1)=none):iq D toX a q=([],a,q):=by
 unfold iq;cases hf:(toX-a).toNat with
 |zero=>rfl
 |succ f=>simp only[wN,h]
def BT{D:ba}{toX a q a2:Int}{s:List UInt8}(h:oG D a toX (q+1)=some (s,a2)):iq D toX a q=(s::(iq D toX a2 (q+1)).1,(iq D toX a2 (q+1)).2):=by
 have hi:=BZ h;unfold iq;obtain⟨f,hf⟩:∃f,(toX-a).toNat=f+1:=⟨(toX-a).toNat-1,by omega⟩;rw[hf];simp only[wN,h];rw[yu f (toX-a2).toNat a2 (q+1) (by omega) (by omega)]
section
variable {W w:World} {L:LH} {k d:Nat} {D:ba}
def C3(l:List UInt8):Value:=.s (bs l)
def Gg{lo hi:Int}{K:VK}(h:St W w L)(hk:L[k]?=some (ft d D))(hK:K (.b (decide (0<=lo/\lo<hi/\hi<=(D.safe.length:Int)))) w):o8 (ai d) lo hi K w:=by
 have no: ¬(0<=lo/\lo<hi/\hi<=(D.safe.length:Int))->K (.b false) w:=λhn=>by rw[ay hn] at hK;exact hK
 unfold o8;refine dY (λh1=>?_) (λh1=>no (by omega));refine dY (λh2=>?_) (λh2=>no (by omega));refine kG h hk ?_;simp only[nz,ae,af];have:decide (hi<=(D.safe.length:Int))=decide (0<=lo/\lo<hi/\hi<=(D.safe.length:Int)):=by rw[decide_eq_decide];omega
 rw[this];exact hK
def MQ{lo hi q:Int}{K:VK}(h:St W w L)(hk:L[k]?=some (ft d D))(iw:D.Ok)(hp:0<=lo/\lo<hi/\hi<=(D.safe.length:Int))(hq:0<=q/\q<=1152921504606846976)
 (hK:∀r b c w',(∃n:Nat,n<=4096/\(iq D hi lo q).1.length=n/\(iq D hi lo q).2.2=q+n/\lo<=(iq D hi lo q).2.1/\(iq D hi lo q).2.1<=hi)->St W w' (own b (iq D hi lo q).1.length c 1 ((iq D hi lo q).1.map C3)::pt r (o9 d ⟨lo,hi,(iq D hi lo q).2.1,(iq D hi lo q).2.2,false⟩)::L)->
  K (.tuple ⟨[.p (ai r),.l b (iq D hi lo q).1.length c,.i 0]⟩) w'):iy (ai d) lo hi q K w:=by
 have C8:=iw.oK;unfold iy;simp only[nz,ae,af];refine Gg h hk ?_;rw[aA hp];simp only[nz,ae,af];refine dY (λh1=>by omega) (λ_=>?_);have e0:decide (q>1152921504606846976)=false:=ay (by omega);rw[e0];unfold iy.j1;simp only[nz,ae,af];refine gh h λr w h=>?_;have h0:=h.push (A:=own none 0 0 1 (([]:List (List UInt8)).map C3)) (qh 1);refine⟨λus w'=>∃(acc:List (List UInt8))(a:Int)(b:OA)(n c:Nat),us=[.p none,.l none 0 0,.i 0,.p (ai r),.l b n c]/\acc.length=n/\lo+n<=a/\a<=hi/\
                                                                   iq D hi lo q=(acc++(iq D hi a (q+n)).1,(iq D hi a (q+n)).2)/\St W w' (own b n c 1 (acc.map C3)::pt r (o9 d ⟨lo,hi,a,q+n,false⟩)::L),
  λus _=>match us with|[_,_,_,_,.slice _ n _]=>5000-n|_=>0,⟨[],lo,none,0,0,rfl,rfl,by omega,by omega,by simp,?_⟩,?_⟩
 ·have:o9 d ⟨lo,hi,lo,q+((0:Nat):Int),false⟩=[.p (ai d),.i lo,.i hi,.i lo,.i q,.b false]:=by
   rw[show q+((0:Nat):Int)=q from by omega];rfl
  rw[this];exact h0
 rintro p2 sL qG tq n4 a1 mg jJ mP w2 ⟨acc,a,b,n,c,he,hn,ha,hah,ho,h⟩;cases he
 refine km h λw h=>?_;refine cy (k:=1) h rfl (v:=.i a) rfl ?_;simp only[nz,ae,af];refine cy (k:=1) h rfl (v:=.i (q+jJ)) rfl ?_;simp only[nz,ae,af];have ew:ag.wrap (q+(jJ:Int)+1)=q+(jJ:Int)+1:=aS (by omega);rw[ew];refine LL (k:=k+2) h (by rw[aW,aW];exact hk) iw (by omega) (by omega) λw h=>?_;cases hx:oG D a hi (q+(jJ:Int)+1) with
 |none=>
  unfold yz;simp only[nz,ae,af];refine ig (k:=1) h rfl rfl ?_;rw[xh hx,bN] at ho;have:=hK r mg mP w;rw[ho] at this;dsimp only at this;rw[hn] at this;exact this ⟨jJ,by omega,rfl,rfl,by omega,by omega⟩ h
 |some y=>
  obtain⟨s,a2⟩:=y;obtain⟨b1,b2,b3,b4,b5,b6⟩:=BZ hx;unfold yz;simp only[nz,ae,af];refine ig (k:=1) h rfl rfl ?_;refine⟨trivial,gh h λr2 w h=>?_⟩;refine rq (k:=1) (ys:=[C3 s]) h rfl (CD (k':=0) h rfl rfl λj v hj=>by rw[az];exact hj) (by simp) rfl (by omega) (by omega) (by simp[C3,Value.oneCell']) λb' c' w h=>?_;simp only[nz,ae,af] at h⊢;refine cy (k:=2) h rfl (v:=.i (q+jJ)) rfl ?_;simp only[nz,ae,af];refine mV (k:=2) h rfl (aH rfl) rfl λw h=>?_;simp only[nz,ae,af] at h;refine mV (k:=2) h rfl (aH rfl) rfl λw h=>?_;simp only[nz,ae,af] at h;rw[ew] at h;refine⟨⟨acc++[s],a2,b',jJ+1,c',rfl,by rw[ak,hn];rfl,by omega,by omega,?_,?_⟩,by omega⟩
  ·rw[ho,BT hx,show q+(jJ:Int)+1=q+((jJ+1:Nat):Int) from by omega,aI];rfl
  ·rw[cS];have:o9 d ⟨lo,hi,a2,q+((jJ+1:Nat):Int),false⟩=[.p (ai d),.i lo,.i hi,.i a2,.i (q+(jJ:Int)+1),.b false]:=by
    rw[show q+((jJ+1:Nat):Int)=q+(jJ:Int)+1 from by omega];rfl
   rw[this];exact h.drop
end
def F5(d:BA):Int:=gH 8 (d.data.toList,false)
def P4(l:List UInt8):(part (bs l) 0).data.toList=l.take 104:=by
 unfold part;rw[extract_toList,Nat.mul_zero,oC]
 rfl
def GQ(seq:Int)(s:BA):iE seq s=le .i64 8 seq++(le .i64 4 s.size++s.data.toList):=by simp only[iE,aI]
def Iw(seq:Int)(s:BA):∃r,(part (bs (iE seq s)) 0).data.toList=le .i64 8 seq++(le .i64 4 s.size++r):=by
 rw[P4,GQ];refine⟨s.data.toList.take 92,?_⟩;have h8:(le .i64 8 seq).length=8:=aJ _ _ _;have h4:(le .i64 4 (s.size:Int)).length=4:=aJ _ _ _;rw[List.take_append,List.take_append,h8,h4,bg (by rw[h8];omega),bg (l:=le .i64 4 (s.size:Int)) (by rw[h4];omega)]
def NC{m:Nat}(h:m<4294967296):ka (le .i64 4 (m:Int))=m:=by
 rw[qa m 4 (by omega)];exact eX h
def LG{n:Int}(h:0<=n/\n<9223372036854775808):lu (le .i64 8 n)=n:=by
 obtain⟨m,rfl⟩:=bD h.1;unfold lu;rw[qa m 8 (by omega)];have h8:(256:Nat)^8=18446744073709551616:=rfl;rw[h8,eX (by omega),aS (by omega)]
def Gh{seq:Int}{s:BA}(hq:0<=seq/\seq<9223372036854775808)(hs:s.size<=32768):
 F5 (part (bs (iE seq s)) 0)=seq/\(dw 4 (dw 8 ((part (bs (iE seq s)) 0).data.toList,false))).2=false/\gH 4 (dw 8 ((part (bs (iE seq s)) 0).data.toList,false))=(s.size:Int):=by
 obtain⟨r,hr⟩:=Iw seq s;unfold F5;rw[hr];have h8:(le .i64 8 seq).length=8:=aJ _ _ _;have h4:(le .i64 4 (s.size:Int)).length=4:=aJ _ _ _;have e1:dw 8 (le .i64 8 seq++(le .i64 4 s.size++r),false)=(le .i64 4 s.size++r,false):=by
  unfold dw;rw[ah (by simp only[cn,false_or,ak,h8];omega),vN _ _ 8 h8]
 have e2:gH 8 (le .i64 8 seq++(le .i64 4 s.size++r),false)=seq:=by
  unfold gH;rw[ah (by simp only[cn,false_or,ak,h8];omega),vc _ _ 8 h8,LG hq]
 have e3:dw 4 (le .i64 4 (s.size:Int)++r,false)=(r,false):=by
  unfold dw;rw[ah (by simp only[cn,false_or,ak,h4];omega),vN _ _ 4 h4]
 have e4:gH 4 (le .i64 4 (s.size:Int)++r,false)=(s.size:Int):=by
  unfold gH;rw[ah (by simp only[cn,false_or,ak,h4];omega),vc _ _ 4 h4,mZ (by rw[h4];omega),NC (by omega)]
 rw[e1,e2,e3,e4];exact⟨rfl,rfl,rfl⟩
def Ci(seq:Int)(s:BA):(bs (iE seq s)).size=12+s.size:=by rw[bn,wV]
def FO{D:ba}{a toX n:Int}{s:BA}(hn:1<=n/\n<=1152921504606846976)(h0:0<=a)(QJ:a+(fX s.size:Int)<=toX)(hlen:toX<=(D.safe.length:Int))(C8:D.safe.length<=4096)
 (hr:∀i:Nat,i<fX s.size->(D.read (a+i)).1=leaf n i (part s i)):take D a toX n s.size=some s.data.toList:=by
 have hb:s.size<=104* fX s.size:=by unfold fX;split<;>omega
 have Zw:∀q:Nat,(part s q).size=min (104* (q+1)) s.size-104* q:=λq=>by unfold part;rw[vj]
 have oI:s.size<=425984:=by omega
 unfold take;rw[ah (by rw[aq];omega),aq,y9 (s:=s) (fX s.size) 0 (λq _ hq=>by
  have hg:eL n q (part s q):=⟨hn.1,hn.2,by omega,by omega,tu s q⟩
  rw[hr q (by omega),tz hg]
  exact⟨ui hg,by rw[Zw];omega⟩)]
 congr 1
 rw[Nat.mul_zero,oC,bg (by rw[fa];exact hb)]
def Gp{D:ba}{a toX n q:Int}{s:BA}(hn:1<=n/\n<=1152921504606846976)(hq:0<=q/\q<9223372036854775808)(hs:s.size<=32768)(h0:0<=a)(QJ:a+(fX (12+s.size):Int)<=toX)(hlen:toX<=(D.safe.length:Int))(C8:D.safe.length<=4096)
 (hr:∀i:Nat,i<fX (12+s.size)->(D.read (a+i)).1=leaf n i (part (bs (iE q s)) i)):oG D a toX q=some (s.data.toList,a+(fX (12+s.size):Int)):=by
 have DR:=Ci q s;have hp:=A8 (12+s.size);obtain⟨p1,p2,p3⟩:=Gh hq hs;have h00:=hr 0 hp;rw[show a+((0:Nat):Int)=a from by omega] at h00;have hg:eL n ((0:Nat):Int) (part (bs (iE q s)) 0):=⟨hn.1,hn.2,by omega,by omega,tu _ 0⟩;have ht:=FO (D:=D) (a:=a) (toX:=toX) (s:=bs (iE q s)) hn h0 (by rw[DR];exact QJ) hlen C8 (by rw[DR];exact hr);unfold oG;rw[ah (by omega),h00,tz hg,ui hg];dsimp only;unfold F5 at p1;rw[ah (by rintro(hh|hh);exact hh rfl;exact hh p1),p2,p3,ah (by rintro(hh|hh);cases hh;omega)];rw[DR] at ht;have e1:((12+s.size:Nat):Int)=12+(s.size:Int):=by omega
 rw[e1] at ht;rw[ht];dsimp only;have e2:(12+(s.size:Int)).toNat=12+s.size:=by omega
 have e3:(bs (iE q s)).data.toList.drop 12=s.data.toList:=by
  show(iE q s).drop 12=_;unfold iE;exact vN _ _ 12 (by rw[ak,aJ,aJ])
 rw[e2,e3]
def LN{D:ba}{a toX q:Int}(h:∀m d,oY (D.read a).1.data.toList=some (m,0,d)->F5 d≠q):oG D a toX q=none:=by
 unfold oG;split
 ·rfl
 split
 ·rfl
 rename_i m j d hv;by_cases hj:j=0
 ·subst hj;rw[aj (.inr (h m d hv))]
 ·rw[aj (.inl hj)]
def kH(D:ba)(toX:Int):Int->Int->List (List UInt8)->Int->Prop
 |a,_,[],e=>a=e
 |a,q,s::r,e=>∃a2,oG D a toX (q+1)=some (s,a2)/\kH D toX a2 (q+1) r e
def Cq{D:ba}{toX:Int}:∀(r:List (List UInt8)) {a q e:Int},kH D toX a q r e->oG D e toX (q+r.length+1)=none->iq D toX a q=(r,e,q+r.length)
 |[],a,q,e,h,hn=>by
  unfold kH at h;subst h;have e0:q+(([]:List (List UInt8)).length:Int)=q:=by simp
  rw[e0] at hn⊢;exact xh hn
 |s::r,a,q,e,⟨a2,h1,h2⟩,hn=>by
  have e1:q+((s::r).length:Int)=q+1+(r.length:Int):=by rw[bw];omega
  rw[e1] at hn⊢;rw[BT h1,Cq r h2 hn]
def PJ.more(J:PJ)(s:BA):PJ:={J with at':=J.at'+(fX (12+s.size):Int),seq:=J.seq+1}
def Qb{n:Nat}{D:ba}{J:PJ}{number:Int}{s:BA}(hc:Calm n D)(eQ:n<=4096)(hJ:J.Ok D)(WC:J.iD=false)(sQ:1<=number/\number<=1152921504606846976)(WD:J.seq<1152921504606846976)(hr:room J s.size):
 ∃D',uZ D J number s=(D',J.more s,0)/\Calm n D'/\D'.later=[]/\(J.more s).Ok D'/\(∀i:Nat,i<fX (12+s.size)->(D'.read (J.at'+i)).1=leaf number i (part (bs (iE (J.seq+1) s)) i))/\
  (∀j:Int,0<=j->j<n->(j<J.at'\/J.at'+(fX (12+s.size):Int)<=j)->(D'.read j).1=(D.read j).1)/\oG D' J.at' J.hi (J.seq+1)=some (s.data.toList,J.at'+(fX (12+s.size):Int)):=by
 obtain⟨j1,j2,j3,j4,j5⟩:=hJ;obtain⟨r1,r2,r3⟩:=hr;rw[aq] at r3;have hlen:=hc.len;have DR:=Ci (J.seq+1) s;obtain⟨a,ha⟩:=bD (show 0<=J.at' by omega);obtain⟨t,ht⟩:=bD (show 0<=J.hi by omega);obtain⟨p1,p2,p3,p4⟩:=Ke (n:=n) (a:=a) (t:=t) (number:=number) (s:=bs (iE (J.seq+1) s)) hc eQ sQ (by rw[DR];omega) (by omega);have p5:=O5 (n:=n) (a:=a) (t:=t) (number:=number) (s:=bs (iE (J.seq+1) s)) hc eQ sQ (by rw[DR];omega) (by omega);rw[DR] at p3 p4;rw[<-ha,<-ht] at p1 p2 p3 p4 p5;have Cc:=p2.len;refine⟨(oH D J.at' J.hi number (bs (iE (J.seq+1) s))).1,?_,p2,p5,⟨j1,?_,?_,?_,?_⟩,p3,λj h1 h2 h3=>?_,?_⟩
 ·unfold uZ;rw[ah (by rw[WC];exact Bool.noConfusion),ah (by omega),ah (by rintro(hh|hh);exact hh ⟨r1,r2,by rw[aq];exact r3⟩;omega)];unfold Fa;rw[ah (λhh=>hh p1)]
  rfl
 ·show J.lo<=J.at'+_;omega
 ·show J.at'+_<=J.hi;omega
 ·show J.hi<=_;omega
 ·show 0<=J.seq+1/\J.seq+1<=_;omega
 ·obtain⟨m,rfl⟩:=bD h1;exact p4 m (by omega) (by omega)
 ·exact Gp sQ (by omega) (by omega) (by omega) (by omega) (by omega) (by omega) p3
def Ae{D:ba}{a toX q:Int}(h:(D.read a).1=jY 128):oG D a toX q=none:=
 LN (λm d hv=>by rw[h,vr] at hv;cases hv)
def zu{n:Nat}(h:n<=4096){j:Int}(h0:0<=j)(hj:j<n):((ba.new n).read j).1=jY 128:=by
 obtain⟨m,rfl⟩:=bD h0;exact yB h (by omega)
def Gj{n:Nat}(h:n<=4096){lo hi q:Int}(h0:0<=lo)(hj:lo<n):iq (ba.new n) hi lo q=([],lo,q):=xh (Ae (zu h h0 hj))
section
variable {W w:World} {L:LH} {k d:Nat} {D:ba}
end
section
variable {W w:World} {L:LH}
end
structure JG(n:Nat)(D:ba)(J:PJ)(q0:Int)(F9:List (List UInt8))(g:Nat):Prop where
 ok:D.Ok
 lat:D.later=[]
 len:D.safe.length=n
 Zg:J.Ok D
 chain:kH D J.hi J.lo q0 F9 J.at'
 seq:J.seq=q0+F9.length
 q0:0<=q0
 low:∀j:Int,J.lo<=j->j<J.hi->∀m d,oY (D.read j).1.data.toList=some (m,0,d)->F5 d<=J.seq+1
 stop:oG D J.at' J.hi (J.seq+1)=none
 ends:∀j:Nat,j<n->Ends g (D.read (j:Int)).1
def JG.opened{n:Nat}{D:ba}{J:PJ}{q0:Int}{F9:List (List UInt8)}{g:Nat}(h:JG n D J q0 F9 g):iq D J.hi J.lo q0=(F9,J.at',J.seq):=by
 have:=h.stop;rw[h.seq] at this;rw[Cq F9 h.chain this,h.seq]
section
variable {W w:World} {L:LH}
end
def X7{n:Nat}(h:n<=4096){lo hi:Int}(h0:0<=lo)(h1:lo<hi)(h2:hi<=n)(q0:Int)(hq:0<=q0/\q0<=1152921504606846976):JG n (ba.new n) ⟨lo,hi,lo,q0,false⟩ q0 [] 0:=by
 have hc:=Ct h;refine⟨hc.ok,rfl,hc.len,⟨h0,u0 _,by show lo<=hi;omega,by show hi<=_;rw[hc.len];exact h2,by show 0<=q0/\q0<=_;omega⟩,rfl,by show q0=q0+_;simp,hq.1,λj a b m d hv=>?_,?_,λj hj=>?_⟩
 ·dsimp only at a b;rw[zu h (by omega) (by omega),vr] at hv;cases hv
 ·exact Ae (zu h h0 (by show lo<(n:Int);omega))
 ·rw[yB h hj];exact Cl
section
variable {W w:World} {L:LH} {k:Nat}
end
section
variable {W w:World} {L:LH}
end
end Go.Sep
namespace Go.Sep
open Go.Den Go.RowKit
section
variable {H:Type} {enc:TypeId×Value->H} {P:Program} {w:World} {base:Nat} {spare:Nat->Bool} {held:Bool}
end
end Go.Sep
namespace Go.Sep
open Go.Den Go.RowKit Go.Prog Go.bE
section
variable {W w:World} {L:LH}
end
section
variable {W w:World} {L:LH} {k:Nat}
end
def yA(a b:Option fB):Option fB:=
 match b with
 |none=>a
 |some hb=>match a with
  |none=>some hb
  |some ha=>if ha.bB<hb.bB then some hb else some ha
def xq(D:ba)(number:Int)(h:fB):ba×Int:=
 if mN h then(if(lay D (low h.bB) (low h.bB+1) number (bs (j0 h))).2≠0 then lay D (low h.bB) (low h.bB+1) number (bs (j0 h)) else(lay D (low h.bB) (low h.bB+1) number (bs (j0 h))).1.sync) else(D,1)
section
variable {W w:World} {L:LH} {k d:Nat} {D:ba}
def MG{number:Int}{h:fB}{K:VK}(hs:St W w L)(hk:L[k]?=some (ft d D))(iw:D.Ok)(hl:D.later.length+5000<1099511627776)
 (hK:∀w',St W w' (L.set k (ft d (xq D number h).1))->K (.i (xq D number h).2) w'):rj (ai d) number (bm h) K w:=by
 unfold rj;refine gh hs λr w hs=>?_;refine gU (k:=0) (xs:=bm h) hs rfl rfl (λj v hj=>by rw[az];exact hj) ?_;refine Hh hs λw hs=>?_;simp only[nz,ae,af];unfold xq at hK;unfold A5;by_cases hg:mN h
 ·rw[aj hg] at hK⊢;dsimp only;refine rU (λhh=>aR rfl hh) (λ_=>?_);apply cy (k:=0) hs rfl rfl;simp only[nz,ae,af];apply cy (k:=0) hs rfl rfl;simp only[nz,ae,af];have L5:=EN h.bB;have ew:ag.wrap (ch .i64 .and h.bB 1+1)=low h.bB+1:=by
   show ag.wrap (low h.bB+1)=_;rw[aS (by omega)]
  rw[ew];have e0:ch .i64 .and h.bB 1=low h.bB:=rfl;rw[e0];have oI:(bs (j0 h)).size=32:=by rw[bn,qY]
  have ZZ:fX (bs (j0 h)).size=1:=by rw[oI];rfl
  have wI:(pt r (bm h)::L)[k+1]?=some (ft d D):=by rw[aW];exact hk
  refine CI (k:=k+1) hs wI iw (by omega) (by rw[oI];decide) λw hs=>?_;rw[kf] at hs;simp only[nz,ae,af];have L6:=(EO (at':=low h.bB) (toX:=low h.bB+1) (number:=number) (s:=bs (j0 h)) iw (by rw[ZZ];omega)).1;refine rU (λhZ=>?_) (λh0=>?_)
  ·rw[aj hZ] at hK;exact hK w hs.drop
  ·rw[ah (λhh=>hh h0)] at hK;refine se (k:=k+1) hs (by rw[aW];exact gR hk) L6 λw hs=>?_;rw[kf,gW] at hs;simp only[nz,ae,af];exact hK w hs.drop
 ·rw[ah hg] at hK⊢;dsimp only;refine rU (λ_=>?_) (λhh=>by simp at hh);apply hK w;rw[kr hk];exact hs.drop
def C9(o:Option fB):fB:=o.getD Bi
def xk(o:Option fB):nA o=.tuple ⟨[.agg ⟨bm (C9 o)⟩,.b o.isSome]⟩:=by cases o<;>rfl
def Hv{K:VK}(hs:St W w L)(hk:L[k]?=some (ft d D))(iw:D.Ok)(hK:∀w',St W w' L->K (nA (yA (CP D 0) (CP D 1))) w'):pg (ai d) K w:=by
 unfold pg;refine gh hs λr1 w hs=>?_;refine KM (i:=0) (k:=k+1) hs (by rw[aW];exact hk) iw λw hs=>?_;rw[xk];simp only[nz,ae,af];simp only[uM];refine⟨rfl,?_⟩;simp only[nz,ae,af];refine gh hs λr2 w hs=>?_;refine⟨rfl,ic (k:=0) hs rfl (aH rfl) (by simp[Value.oneCell',bm]) λw hs=>?_⟩;rw[fI (by simp[bm])] at hs;simp only[nz,ae,af] at hs;refine KM (i:=1) (k:=k+2) hs (by rw[aW,aW];exact hk) iw λw hs=>?_;rw[xk];simp only[nz,ae,af];simp only[uM];refine⟨rfl,?_⟩;simp only[nz,ae,af];refine gh hs λr3 w hs=>?_;refine⟨rfl,ic (k:=0) hs rfl (aH rfl) (by simp[Value.oneCell',bm]) λw hs=>?_⟩;rw[fI (by simp[bm])] at hs;simp only[nz,ae,af] at hs;generalize CP D 0=a at *;generalize CP D 1=b at *;have tell:∀(i:Nat)(o:Option fB)(r:Nat)(f:Bool),(i=0/\r=r3/\C9 o=C9 b\/i=1/\r=r2/\C9 o=C9 a)->(f=o.isSome)->(∀w',St W w' L->K (nA o) w')->
                                                                                                       aD ⟨r,0,none⟩ 4 (λcs=>aY (cs.length=4) (fH ⟨r1,0,none⟩ cs (aD ⟨r1,0,none⟩ 4 λsS=>K (.tuple ⟨[.agg ⟨sS⟩,.b f]⟩)))) w:=λi o r f hi hf hK=>by
  have IM:(pt r3 (bm (C9 b))::pt r2 (bm (C9 a))::pt r1 [.i 0,.i 0,.i 0,.i 0]::L)[i]?=some (pt r (bm (C9 o))):=by
   rcases hi with⟨rfl,rfl,h⟩|⟨rfl,rfl,h⟩<;>rw[h]<;>rfl
  refine gU (xs:=bm (C9 o)) hs IM rfl (λj v hj=>by rw[az];exact hj) ?_;refine⟨rfl,?_⟩;refine ic (k:=2) hs rfl (aH rfl) (by simp[Value.oneCell',bm]) λw hs=>?_;rw[fI (by simp[bm])] at hs;simp only[nz,ae,af] at hs;refine gU (k:=2) (xs:=bm (C9 o)) hs rfl rfl (λj v hj=>by rw[az];exact hj) ?_;have:=hK w hs.drop.drop.drop;rw[xk] at this;rw[hf];exact this
 cases b with
 |none=>
  exact tell 1 a r2 _ (.inr ⟨rfl,rfl,rfl⟩) rfl hK
 |some hb=>
  cases a with
  |none=>exact tell 0 (some hb) r3 true (.inl ⟨rfl,rfl,rfl⟩) rfl hK
  |some ha=>
   have e1:(some hb:Option fB).isSome=true:=rfl;have e2:(some ha:Option fB).isSome=true:=rfl;rw[e1,e2];simp only[nz,ae,af];apply cy (k:=0) hs rfl (v:=.i hb.bB) rfl;simp only[nz,ae,af];apply cy (k:=1) hs rfl (v:=.i ha.bB) rfl;simp only[nz,ae,af];unfold yA at hK;dsimp only at hK;refine dY (λKt=>?_) (λhle=>?_)
   ·rw[aj Kt] at hK;exact tell 0 (some hb) r3 true (.inl ⟨rfl,rfl,rfl⟩) rfl hK
   ·rw[ah hle] at hK;exact tell 1 (some ha) r2 true (.inr ⟨rfl,rfl,rfl⟩) rfl hK
end
end Go.Sep
namespace Go.Up
open Go.Sep Go.Den Go.RowKit Go.Prog Go.Md Go.bE
section
variable {W:World} {L R:LH} {K:VK} {X:WK} {d r n:Nat} {D:ba} {J:PJ} {f:ba->LH} {g:PJ->LH} {s:BA}
abbrev jP(d r:Nat)(J:PJ):HP:=Sep.pt r (o9 d J)
def Eg[i:Lc (ft d) L D f](h:T W L (K (.i (D.safe.length:Int)))):T W L (dL (ai d) K):=λw hs=>by
 obtain⟨k,hk,e⟩:=i.at_;exact kG hs hk (h w hs)
def V'{n:Int}(h:∀d,T W (ft d (ba.new n)::L) (K (.p (ai d)))):T W L (qt n K):=λw hs=>Qr hs λd w' h'=>h d w' h'
def aca(sm:12<=n)(eQ:n<=4096)(h:T W L (K (.tuple ⟨[.agg ⟨dF n⟩,.i 0]⟩))):T W L (qU n K):=λw hs=>Th hs sm eQ λw' h'=>h w' h'
def VT[i:Lc (ft d) L D f]{which number:Int}(iw:D.Ok)(sm:12<=n)(eQ:n<=4096)(hl:D.later.length+5000<1099511627776)(hs:s.size<=reachBytes)
 (h:T W (f (put D n which number s).1) (K (.i (put D n which number s).2))):T W L (nN (dF n) (ai d) which number s K):=λw hw=>by
 obtain⟨k,hk,e⟩:=i.at_;exact Qp hw hk iw sm eQ hl hs λw' h'=>h w' (by rw[e];exact h')
def VU[i:Lc (ft d) L D f]{which number size:Int}(iw:D.Ok)(sm:12<=n)(eQ:n<=4096)(h:T W L (K (qd (get D n which number size)))):T W L (nO (dF n) (ai d) which number size K):=λw hw=>by
 obtain⟨k,hk,e⟩:=i.at_;exact Qv hw hk iw sm eQ λw' h'=>h w' h'
def Qq[i:Lc (ft d) L D f](iw:D.Ok)(h:T W L (K (nA (yA (CP D 0) (CP D 1))))):T W L (pg (ai d) K):=λw hw=>by
 obtain⟨k,hk,e⟩:=i.at_;exact Hv hw hk iw λw' h'=>h w' h'
def XE[i:Lc (ft d) L D f]{number:Int}{hd:fB}(iw:D.Ok)(hl:D.later.length+5000<1099511627776)(h:T W (f (xq D number hd).1) (K (.i (xq D number hd).2))):T W L (rj (ai d) number (bm hd) K):=λw hw=>by
 obtain⟨k,hk,e⟩:=i.at_;exact MG hw hk iw hl λw' h'=>h w' (by rw[e];exact h')
def CJ[i:Lc (ft d) L D f](iw:D.Ok)(h:T W L (K (.i (gL D D.safe.length)))):T W L (kZ (ai d) K):=λw hw=>by
 obtain⟨k,hk,e⟩:=i.at_;exact Df hw hk iw λw' h'=>h w' h'
def Ww[i:Lc (jP d r) L J g](h:T W L (K (.i J.seq))):T W L (iY (ai r) K):=λw hw=>by
 obtain⟨k,hk,e⟩:=i.at_;exact Qi hw hk (h w hw)
def MP[i:Lc (jP d r) L J g](h:T W (g {J with at':=J.lo}) (K (.tuple ⟨[]⟩))):T W L (gB (ai r) K):=λw hw=>by
 obtain⟨k,hk,e⟩:=i.at_;exact Fj hw hk λw' h'=>h w' (by rw[e];exact h')
def RW[i:Lc (jP d r) L J g]{m:Int}(hJ:J.Ok D)(iw:D.Ok)(h:T W L (K (.b (decide (room J m))))):T W L (gA (ai r) m K):=λw hw=>by
 obtain⟨k,hk,e⟩:=i.at_;exact B5 hw hk hJ iw λw' h'=>h w' h'
def Wx{number:Int}(hJ:J.Ok D)(iw:D.Ok)(hl:D.later.length<1000000)(hs:s.size<=reachBytes)
 (h:T W (jP d r (uZ D J number s).2.1::ft d (uZ D J number s).1::R) (K (.i (uZ D J number s).2.2))):T W (jP d r J::ft d D::R) (bu (ai r) number s K):=λw hw=>
 LU (k:=0) (k2:=1) hw rfl rfl (by decide) hJ iw hl hs λw' h'=>h w' h'
def RX[i:Lc (ft d) L D f]{lo hi q:Int}(iw:D.Ok)(hp:0<=lo/\lo<hi/\hi<=(D.safe.length:Int))(hq:0<=q/\q<=1152921504606846976)
 (h:∀r b c,(∃n:Nat,n<=4096/\(iq D hi lo q).1.length=n/\(iq D hi lo q).2.2=q+n/\lo<=(iq D hi lo q).2.1/\(iq D hi lo q).2.1<=hi)->T W (own b (iq D hi lo q).1.length c 1 ((iq D hi lo q).1.map C3)::jP d r ⟨lo,hi,(iq D hi lo q).2.1,(iq D hi lo q).2.2,false⟩::L)
  (K (.tuple ⟨[.p (ai r),.l b (iq D hi lo q).1.length c,.i 0]⟩))):T W L (iy (ai d) lo hi q K):=λw hw=>by
 obtain⟨k,hk,e⟩:=i.at_;exact MQ hw hk iw hp hq λr b c w' he h'=>h r b c he w' h'
end
end Go.Up
namespace Go.Sep
open Go.Den Go.RowKit Go.Prog Go.bE
def Wu{D:ba}{at' toX number:Int}{s:BA}(h:D.Ok)(hl:D.later.length+fX s.size<1099511627776):(oH D at' toX number s).1.later.length<=D.later.length+fX s.size:=by
 have hL:(lay D at' toX number s).1.later.length<=D.later.length+fX s.size:=by
  unfold lay;split
  ·exact Nat.le_add_right _ _
  ·split
   ·exact Nat.le_add_right _ _
   ·exact(A2 _ 0 h hl).2.2
 unfold oH;split
 ·exact hL
 ·exact Nat.le_trans Dk.FX.2 hL
section
variable {W w:World} {L:LH}
end
end Go.Sep
namespace Go.Up
open Go.Sep Go.Den Go.RowKit Go.Prog Go.Md Go.bE
structure VS where
 D:ba
 J:PJ
 bB:Int
 iD:Bool
def vC(d n pb pj:Nat)(bB:Int)(iD:Bool):LV:=[.p (ai d)]++(dF n++[.p (ai pb),.p (ai pj),.i bB,.b iD])
instance{h:fB}:Ln (bm h) 4:=⟨rfl⟩
instance{n:Nat}:Ln (dF n) 5:=⟨rfl⟩
instance{h:fB}:Gt (bm h) 0 (.i h.bB):=⟨rfl⟩
instance{h:fB}:Gt (bm h) 1 (.i h.number):=⟨rfl⟩
instance{h:fB}:Gt (bm h) 2 (.i h.size):=⟨rfl⟩
instance{h:fB}:Gt (bm h) 3 (.i h.seq):=⟨rfl⟩
instance{n:Nat}:Gt (dF n) 3 (.i (2+2* cQ n:Nat)):=⟨rfl⟩
instance{n:Nat}:Gt (dF n) 4 (.i n):=⟨rfl⟩
instance{d n pb pj:Nat}{bB:Int}{iD:Bool}:Gt (vC d n pb pj bB iD) 0 (.p (ai d)):=⟨rfl⟩
instance{d n pb pj:Nat}{bB:Int}{iD:Bool}:Gt (vC d n pb pj bB iD) 6 (.p (ai pb)):=⟨rfl⟩
instance{d n pb pj:Nat}{bB:Int}{iD:Bool}:Gt (vC d n pb pj bB iD) 7 (.p (ai pj)):=⟨rfl⟩
instance{d n pb pj:Nat}{bB:Int}{iD:Bool}:Gt (vC d n pb pj bB iD) 8 (.i bB):=⟨rfl⟩
instance{d n pb pj:Nat}{bB:Int}{iD:Bool}:Gt (vC d n pb pj bB iD) 9 (.b iD):=⟨rfl⟩
instance{d n pb pj:Nat}{bB:Int}{iD:Bool}:Sub (vC d n pb pj bB iD) 1 5 (dF n):=⟨rfl,λj v h=>by
 show([_]++(dF n++_))[1+j]?=some v
 rw[jo (by simp),bM (by have:=(ar.1 h).1;simpa using this)]
 simpa using h⟩
instance{d n pb pj:Nat}{bB t2:Int}{iD:Bool}:Wr (vC d n pb pj bB iD) 8 [.i t2] (vC d n pb pj t2 iD):=⟨rfl,by show 9<=10;decide,λv h=>by simp at h;subst h;rfl⟩
instance{d n pb pj:Nat}{bB:Int}{iD s2:Bool}:Wr (vC d n pb pj bB iD) 9 [.b s2] (vC d n pb pj bB s2):=⟨rfl,by show 10<=10;decide,λv h=>by simp at h;subst h;rfl⟩
abbrev VL(v d n pb pj:Nat)(m:aK)(S:VS)(R:LH):LH:=Sep.pt v (vC d n pb pj S.bB S.iD)::bX pb (bo m,[])::jP d pj S.J::ft d S.D::R
def nE(n:Nat)(m:aK)(S:VS):VS×Int:=
 if S.iD=true then(S,9)
 else if ¬fX (cU (bo m)).length<=cQ n then(S,3)
 else if(put S.D n (S.bB+1) (gL S.D S.D.safe.length+1) (bs (cU (bo m)))).2≠0 then(⟨(put S.D n (S.bB+1) (gL S.D S.D.safe.length+1) (bs (cU (bo m)))).1,S.J,S.bB,true⟩,(put S.D n (S.bB+1) (gL S.D S.D.safe.length+1) (bs (cU (bo m)))).2)
 else if(xq (put S.D n (S.bB+1) (gL S.D S.D.safe.length+1) (bs (cU (bo m)))).1 (gL S.D S.D.safe.length+2) ⟨S.bB+1,gL S.D S.D.safe.length+1,((cU (bo m)).length:Int),S.J.seq⟩).2≠0 then
  (⟨(xq (put S.D n (S.bB+1) (gL S.D S.D.safe.length+1) (bs (cU (bo m)))).1 (gL S.D S.D.safe.length+2) ⟨S.bB+1,gL S.D S.D.safe.length+1,((cU (bo m)).length:Int),S.J.seq⟩).1,S.J,S.bB,true⟩,(xq (put S.D n (S.bB+1) (gL S.D S.D.safe.length+1) (bs (cU (bo m)))).1 (gL S.D S.D.safe.length+2) ⟨S.bB+1,gL S.D S.D.safe.length+1,((cU (bo m)).length:Int),S.J.seq⟩).2)
 else(⟨(xq (put S.D n (S.bB+1) (gL S.D S.D.safe.length+1) (bs (cU (bo m)))).1 (gL S.D S.D.safe.length+2) ⟨S.bB+1,gL S.D S.D.safe.length+1,((cU (bo m)).length:Int),S.J.seq⟩).1,{S.J with at':=S.J.lo},S.bB+1,S.iD⟩,0)
section
variable {W:World} {L R:LH} {K:VK} {X:WK} {v d n pb pj:Nat} {m:aK} {S:VS}
def X9{k:Nat}(hk:k<1099511627776000)(h:T W L (K (.b (decide (fX k<=cQ n))))):T W L (mW (dF n) k K):=λw hs=>MS hs hk λw' h'=>h w' h'
def Iu{D:ba}{which number:Int}{s:BA}:put D n which number s=oH D (fV n which) ((fV n which+cQ n:Nat):Int) number s:=rfl
def KU{e:Int}{J2:PJ}{D2:ba}(ht:0<=S.bB/\S.bB<1152921504606846976)
 (h1:e≠0->T W (Sep.pt v (vC d n pb pj S.bB true)::bX pb (bo m,[])::jP d pj J2::ft d D2::R) (K (.i e)))
 (h0:e=0->T W (Sep.pt v (vC d n pb pj (S.bB+1) S.iD)::bX pb (bo m,[])::jP d pj {J2 with at':=J2.lo}::ft d D2::R) (K (.i 0))):
 T W (Sep.pt v (vC d n pb pj S.bB S.iD)::bX pb (bo m,[])::jP d pj J2::ft d D2::R) (fL.j1 K (ai v) e):=by
 unfold fL.j1;apply dz<;>intro g1
 ·have g1:e≠0:=by simpa using g1
  apply ws;exact h1 g1
 ·have g1:e=0:=by simpa using g1
  have e5:ag.wrap (S.bB+1)=S.bB+1:=aS (by omega);apply ws;rw[e5];apply MP (d:=d) (r:=pj);apply ws;exact h0 g1
def XY(iw:S.D.Ok)(agx:S.D.later.length<1000000)(sm:12<=n)(eQ:n<=4096)(ht:0<=S.bB/\S.bB<1152921504606846976)
 (h:T W (VL v d n pb pj m (nE n m S).1 R) (K (.i (nE n m S).2))):T W (VL v d n pb pj m S R) (fL (ai v) K):=by
 unfold fL;refine nG (p:=pb) (b:=bo m) (hs:=[]) λhg=>?_;have hsl:=tZ hg;have oK:=hg.oK;have many:=hg.many;apply ws;unfold nE at h;cases Ai:S.iD with
 |true=>
  rw[aj Ai] at h;rw[jm];exact h
 |false=>
  rw[ah (by rw[Ai];decide)] at h;rw[fo]
  repeat' first|apply ws|apply wb|refine Dt (p:=pb) ?_
  rw[bn];refine X9 (by omega) (mO ?_);by_cases hf:fX (cU (bo m)).length<=cQ n
  ·rw[ah (λhh=>hh hf)] at h;rw[aA hf,Bool.not_true,fo];obtain⟨L8,QQ⟩:=yJ S.D S.D.safe.length;have e1:ag.wrap (gL S.D S.D.safe.length+1)=gL S.D S.D.safe.length+1:=aS (by omega);have e2:ag.wrap (gL S.D S.D.safe.length+1+1)=gL S.D S.D.safe.length+2:=by rw[aS (by omega)];omega
   have e3:ag.wrap (S.bB+1)=S.bB+1:=aS (by omega)
   repeat' first|apply ws|apply wb|refine CJ (d:=d) iw ?_
   rw[e1,e2,e3];have gJ:(bs (cU (bo m))).size<=reachBytes:=by rw[bn,hsl];unfold reachBytes;omega
   apply VT iw sm eQ (by omega) gJ;have Zz:(put S.D n (S.bB+1) (gL S.D S.D.safe.length+1) (bs (cU (bo m)))).1.Ok:=by
    rw[Iu];exact Zd iw (by rw[bn];unfold cQ at hf;omega)
   have ZS:(put S.D n (S.bB+1) (gL S.D S.D.safe.length+1) (bs (cU (bo m)))).1.later.length<1010000:=by
    rw[Iu];have:=Wu (D:=S.D) (at':=(fV n (S.bB+1):Nat)) (toX:=((fV n (S.bB+1)+cQ n:Nat):Int)) (number:=gL S.D S.D.safe.length+1) (s:=bs (cU (bo m))) iw (by rw[bn];unfold cQ at hf;omega);rw[bn] at this;unfold cQ at hf;omega
   generalize put S.D n (S.bB+1) (gL S.D S.D.safe.length+1) (bs (cU (bo m)))=P1 at h Zz ZS⊢;generalize gL S.D S.D.safe.length=G at h⊢;apply ws;apply dz<;>intro g1
   ·have g1:P1.2=0:=by simpa using g1
    rw[ah (by omega)] at h
    repeat' first|apply ws|apply wb|refine Ww (d:=d) (r:=pj) ?_
    rw[e3];show T W _ (rj (ai d) (G+2) (bm (⟨S.bB+1,G+1,((cU (bo m)).length:Int),S.J.seq⟩:fB)) _);apply XE Zz (by omega);generalize xq P1.1 (G+2) (⟨S.bB+1,G+1,((cU (bo m)).length:Int),S.J.seq⟩:fB)=P2 at h⊢;apply ws;refine KU (S:=S) ht (λhe=>?_) (λhe=>?_)
    ·rw[aj he] at h;exact h
    ·rw[ah (by omega)] at h;exact h
   ·have g1:P1.2≠0:=by simpa using g1
    rw[aj g1] at h;refine KU (S:=S) ht (λhe=>?_) (λhe=>aR he g1);exact h
  ·rw[aj hf] at h;rw[ay hf,Bool.not_false,jm];exact h
end
def uN(S:VS)(s:BA):VS×Int:=
 (⟨(uZ S.D S.J (gL S.D S.D.safe.length+1) s).1,(uZ S.D S.J (gL S.D S.D.safe.length+1) s).2.1,S.bB,S.iD||(uZ S.D S.J (gL S.D S.D.safe.length+1) s).2.2==8⟩,(uZ S.D S.J (gL S.D S.D.safe.length+1) s).2.2)
def u9(n:Nat)(m:aK)(S:VS)(s:BA):VS×Int:=
 if room S.J s.size then uN S s else if(nE n m S).2≠0 then nE n m S else uN (nE n m S).1 s
def Dg(n:Nat)(m:aK)(S:VS)(q:iA):VS×aK×Int×List Int:=
 if iV q=false then(S,m,1,[])
 else if S.iD=true then(S,m,9,[])
 else if(u9 n m S (bs (kO q))).2≠0 then((u9 n m S (bs (kO q))).1,m,(u9 n m S (bs (kO q))).2,[])
 else((u9 n m S (bs (kO q))).1,(cC m q).2.2,(cC m q).1,(cC m q).2.1)
structure Nq(S:VS):Prop where
 ok:S.D.Ok
 oK:S.D.later.length<1000000
 Zg:S.J.Ok S.D
 bB:0<=S.bB/\S.bB<1152921504606846976
section
variable {W:World} {L R:LH} {K:VK} {X:WK} {v d n pb pj:Nat} {m:aK} {S:VS} {s:BA} {q:iA} {sl:rY}
def T.eng{A B C D E F G:HP}(h:T W (B::C::A::D::E::R) X):T W (A::B::C::D::E::F::G::R) X:=
 T.perm (L:=B::C::A::D::E::F::G::R) (T.sub h (by exact sg)) (bC (l₁:=[A]) (l₂:=[B,C])|>.append_right _)
def QA(hS:Nq S)(hs:s.size<=reachBytes)(h:T W (VL v d n pb pj m (uN S s).1 R) (K (.i (uN S s).2))):T W (VL v d n pb pj m S R) (gl.j1 K (ai v) s):=by
 unfold gl.j1;obtain⟨L8,QQ⟩:=yJ S.D S.D.safe.length;have e1:ag.wrap (gL S.D S.D.safe.length+1)=gL S.D S.D.safe.length+1:=aS (by omega)
 repeat' first|apply ws|apply wb|refine CJ (d:=d) hS.ok ?_
 rw[e1];refine T.perm (L:=jP d pj S.J::ft d S.D::Sep.pt v (vC d n pb pj S.bB S.iD)::bX pb (bo m,[])::R) ?_ (bC (l₁:=[_,_]) (l₂:=[_,_])|>.append_right R);apply Wx hS.Zg hS.ok hS.oK hs;unfold uN at h;generalize uZ S.D S.J (gL S.D S.D.safe.length+1) s=A at h⊢;refine T.perm (L:=Sep.pt v (vC d n pb pj S.bB S.iD)::bX pb (bo m,[])::jP d pj A.2.1::ft d A.1::R) ?_ (bC (l₁:=[_,_]) (l₂:=[_,_])|>.append_right R);cases Ai:S.iD with
 |true=>
  rw[Ai,Bool.true_or] at h;apply ws;exact h
 |false=>
  rw[Ai,Bool.false_or] at h;apply ws;exact h
def ab9(hS:Nq S)(Xa:Nq (nE n m S).1)(sm:12<=n)(eQ:n<=4096)(hs:s.size<=100000)(h:T W (VL v d n pb pj m (u9 n m S s).1 R) (K (.i (u9 n m S s).2))):T W (VL v d n pb pj m S R) (gl (ai v) s K):=by
 have hsr:s.size<=reachBytes:=by unfold reachBytes;omega
 unfold gl;apply ws;apply RW (d:=d) (r:=pj) (D:=S.D) hS.Zg hS.ok;unfold u9 at h;by_cases hr:room S.J s.size
 ·rw[aj hr] at h;rw[aA hr];apply ws;exact QA hS hsr h
 ·rw[ah hr] at h;rw[ay hr];apply ws;apply XY hS.ok hS.oK sm eQ hS.bB;apply ws;apply dz<;>intro g1
  ·have g1:(nE n m S).2≠0:=by simpa using g1
   rw[aj g1] at h;exact h
  ·have g1:(nE n m S).2=0:=by simpa using g1
   rw[ah (by omega)] at h;exact QA Xa hsr h
def F7(hw:iV q=true)(he:fN q=true):(kO q).length<=2000:=by
 have T5:q.op=1\/q.op=2\/q.op=3:=bG he;have hf:=lD hw;unfold kO;rw[ak,aJ];split
 ·rw[ak,aJ,c6 ln];omega
 ·split
  ·rw[ak,aJ,c6 mr];omega
  ·split
   ·rw[aJ];omega
   ·omega
def Vx(G:nX W)(hg:Md.cR m)(hS:Nq S)(Xa:Nq (nE n m S).1)(sm:12<=n)(eQ:n<=4096)(hq:qE W R q sl)(hA:∀a∈q.aB,wD a)(hT:∀t∈q.cx,Bf t)(Fx:q.aB.length<1000000)(bW:q.cx.length<1000000)(he:fN q=true)
 (h:∀rb rc,Md.cR (Dg n m S q).2.1->T W (own rb (Dg n m S q).2.2.2.length rc 1 ((Dg n m S q).2.2.2.flatMap I1)::VL v d n pb pj (Dg n m S q).2.1 (Dg n m S q).1 R) (K (.agg ⟨ie (Dg n m S q).2.2.1 rb (Dg n m S q).2.2.2.length rc none 0 0 none 0 0⟩))):
 T W (VL v d n pb pj m S R) (jE (ai v) (ff q sl) K):=by
 unfold jE
 repeat' first|apply ws;intros|apply wb|refine zN ?_
 rw[he];apply ws;refine Ny (R:=R) hq Fx bW (λhw=>?_) (λhw=>?_)
 ·apply ws;unfold Dg at h;rw[ah (by rw[hw];decide)] at h;apply cW (by decide);apply ws;cases Ai:S.iD with
  |true=>
   rw[aj Ai] at h;apply ws;refine jr (e:=1) ?_;apply T.sub (h none 0 hg)
   repeat (first|exact cm.refl _|apply cm.cons_cons|apply cm.cons)
  |false=>
   rw[ah (by rw[Ai];decide)] at h;rw[fo];have hrl:=F7 hw he;have W9:q.op=2->∀t∈q.cx,TOk t:=λho t ht=>⟨hT t ht,by
    have hf:=lD hw
    have:∀a∈q.cx,jR a:=by rcases hf with h|h|h|h|h<;>first|exact h.2.2|omega
    exact this t ht⟩
   refine T.perm (L:=VL v d n pb pj m S (_::_::R)) ?_ (bC (l₁:=[_,_]) (l₂:=[_,_,_,_])|>.append_right R);refine ab9 hS Xa sm eQ (by rw[bn];omega) ?_;generalize u9 n m S (bs (kO q))=A at h⊢;apply ws;apply dz<;>intro g1
   ·have g1:A.2≠0:=by simpa using g1
    rw[aj g1] at h;apply ws;refine jr (e:=1) ?_;apply T.sub (h none 0 hg)
    repeat (first|exact cm.refl _|apply cm.cons_cons|apply cm.cons)
   ·have g1:A.2=0:=by simpa using g1
    rw[ah (by omega)] at h;apply ws;apply T.Ij;refine GY G hg ⟨hq.aB.mono,hq.cx.mono,hq.ids.mono,hq.ca,hq.ct,hq.ci⟩ (λ_=>hA) W9 λrb rc QQ=>?_;apply ws;have fin:=h rb rc QQ;exact T.eng fin
 ·apply ws;unfold Dg at h;rw[aj hw] at h;refine hG (by decide) ?_;apply ws;refine jr (e:=1) ?_;apply T.sub (h none 0 hg)
  repeat (first|exact cm.refl _|apply cm.cons_cons|apply cm.cons)
end
section
variable {W:World} {L R:LH} {K:VK} {X:WK} {v d n pb pj:Nat} {m:aK} {S:VS} {s:BA} {q:iA} {sl:rY}
def T.ask{O1 O2 B V J D F G:HP}(h:T W (O1::O2::V::B::J::D::R) X):T W (O1::O2::B::V::J::D::F::G::R) X:=
 T.perm (L:=O1::O2::V::B::J::D::F::G::R) (T.sub h (by exact sg)) (bA.append_left [O1,O2] (bA.swap _ _ _))
def T.in2{F G V B J D:HP}(h:T W (B::V::J::D::F::G::R) X):T W (F::G::V::B::J::D::R) X:=
 T.perm h ((bC (l₁:=[F,G]) (l₂:=[V,B,J,D])|>.append_right R).trans (bA.swap _ _ _))
def Vz(hq:qE W R q sl)(he:fN q=false)
 (h:∀ab ac tb tc,T W (own ab (ask m q).2.1.length ac 14 ((ask m q).2.1.flatMap aP)::own tb (ask m q).2.2.length tc 16 ((ask m q).2.2.flatMap aX)::VL v d n pb pj m S R) (K (.agg ⟨ie (ask m q).1 none 0 0 ab (ask m q).2.1.length ac tb (ask m q).2.2.length tc⟩))):
 T W (VL v d n pb pj m S R) (jE (ai v) (ff q sl) K):=by
 unfold jE
 repeat' first|apply ws;intros|apply wb|refine zN ?_
 rw[he];apply ws;apply T.in2;refine ab7 ⟨hq.aB.mono,hq.cx.mono,hq.ids.mono,hq.ca,hq.ct,hq.ci⟩ λab ac tb tc=>?_;apply ws;exact T.ask (h ab ac tb tc)
def NH(h:∀p,T W (bX p (bo m,[])::VL v d n pb pj m S R) (K (.p (ai p)))):T W (VL v d n pb pj m S R) (mG (ai v) K):=by
 refine nG (p:=pb) (b:=bo m) (hs:=[]) λhg=>?_;unfold mG
 repeat' first|apply ws|apply wb|refine Dt (p:=pb) ?_
 refine F1 hg λp=>?_;apply ws;exact h p
end
def uV:aK:=⟨[],[],0,0⟩
def GP:eL (bo uV):=⟨List.nodup_nil,List.nodup_nil,(by show 0<=32;decide),(by show 0<=96;decide),λa h=>(by cases h),λa h=>(by cases h),List.Pairwise.nil,λa h=>(by cases h),(by show(0:Int)<=0/\(0:Int)<=1099511627776;decide),rfl⟩
def xl:Md.cR uV:=⟨λa h=>(by cases h),List.nodup_nil,(by show 0<=32;decide),List.nodup_nil,λa h=>(by cases h),λa h=>(by cases h),(by show 0<=96;decide),λa h=>(by cases h),λa h=>(by cases h),λa h=>(by cases h)⟩
def wR(h:fB):∀v∈bm h,v.oneCell'=true:=λv hv=>by simp[bm] at hv;rcases hv with rfl|rfl|rfl|rfl<;>rfl
instance{x1 x2 x3 x4:Value}{h:fB}:Wr [x1,x2,x3,x4] 0 (bm h) (bm h):=⟨rfl,aC _,wR h⟩
instance{h:fB}:Sub (bm h) 0 4 (bm h):=⟨rfl,λj v h=>by rw[az];exact h⟩
def C4(n:Nat):∀v∈dF n,v.oneCell'=true:=λv hv=>by simp[dF] at hv;rcases hv with rfl|rfl|rfl|rfl|rfl<;>rfl
instance{x1 x2 x3 x4 x5:Value}{n:Nat}:Wr [x1,x2,x3,x4,x5] 0 (dF n) (dF n):=⟨rfl,aC _,C4 n⟩
instance{n:Nat}:Sub (dF n) 0 5 (dF n):=⟨rfl,λj v h=>by rw[az];exact h⟩
def Ya(D:ba)(n:Nat)(hd:fB)(mb:aK):Prop:=
 (yA (CP D 0) (CP D 1)=none/\hd=Bi/\mb=uV)\/(yA (CP D 0) (CP D 1)=some hd/\get D n hd.bB hd.number hd.size=some (cU (bo mb)))
section
variable {W:World} {L R:LH} {K:VK} {X:WK} {v d n pb pj:Nat} {D:ba} {f:ba->LH} {mb:aK} {hd:fB}
def SW(h:∀p,T W (bX p (bo uV,[])::L) (K (.p (ai p)))):T W L (rm K):=by
 refine P5 λp la lk ti tn=>?_;intro w7 hw7;have h2:=hw7.push (A:=sT []) trivial;refine Bb (p:=p) (la:=la) (lk:=lk) (ti:=ti) (tn:=tn) (vs:=[]) (bx:=[]) (c:=dT (bo uV)) (hs:=[]) (R:=L) trivial (λw hw=>h p w (St.and_intro GP hw)) w7 ?_;exact h2.perm (bC (l₁:=[sT []]) (l₂:=[_,_,_,_,_])|>.append_right L)
def Q1[i:Lc (ft d) L D f](iw:D.Ok)(sm:12<=n)(eQ:n<=4096)(hb:Ya D n hd mb)(hg:eL (bo mb))(h:∀pb,T W (bX pb (bo mb,[])::L) (K (.tuple ⟨[.p (ai pb),.agg ⟨bm hd⟩,.i 0]⟩))):
 T W L (tU (ai d) (dF n) K):=by
 unfold tU;apply ws;intros;apply Qq iw;rcases hb with⟨h1,rfl,rfl⟩|⟨h1,h2⟩
 ·rw[h1];unfold nA;apply ws;intros;refine SW λp=>?_;apply ws;apply Q7 (n:=4) (xs:=bm Bi);apply ws;apply T.sub (h p);exact sg
 ·rw[h1];unfold nA;apply ws;intros;apply VU iw sm eQ;rw[h2];unfold qd;apply ws;refine F1 hg λp=>?_;apply ws;apply T.sub (h p);exact sg
end
structure Vf(q:iA):Prop where
 good:iV q=true
 writes:fN q=true
 aB:∀a∈q.aB,wD a
 cx:∀t∈q.cx,Bf t
def ym(m:aK)(qs:List iA):aK:=qs.foldl (λm q=>(cC m q).2.2) m
def Lr(m:aK)(qs:List iA)(q:iA):ym m (qs++[q])=(cC (ym m qs) q).2.2:=by unfold ym;rw[List.foldl_append];rfl
def He{q:iA}:(∀a∈(canon q).aB,a∈q.aB)/\(∀t∈(canon q).cx,t∈q.cx)/\(canon q).aB.length<=q.aB.length/\(canon q).cx.length<=q.cx.length:=by
 unfold canon;split
 ·exact⟨λa h=>h,λt h=>(by cases h),aC _,aL _⟩
 ·split
  ·exact⟨λa h=>(by cases h),λt h=>h,aL _,aC _⟩
  ·exact⟨λa h=>(by cases h),λt h=>(by cases h),aL _,aL _⟩
section
variable {W:World} {L R:LH} {K:VK} {X:WK} {v d n pb pj:Nat} {D:ba} {f:ba->LH} {mb:aK} {hd:fB} {qs:List iA}
def qE.two{Y A:HP}{q:iA}{s:rY}(hq:∀L',qE W (A::L') q s):qE W (Y::A::L) q s:=⟨(hq L).aB.mono,(hq L).cx.mono,(hq L).ids.mono,(hq L).ca,(hq L).ct,(hq L).ci⟩
def T.Y4{V O J H B P Dk:HP}(h:T W (B::V::J::Dk::O::R) X):T W (V::O::J::H::B::P::Dk::R) X:=
 T.perm (L:=B::V::J::Dk::O::H::P::R) (T.sub h (by exact sg)) (by
  have e1:([V,O,J,H,B,P,Dk]:LH).Perm (B::[V,O,J,H,P,Dk]):=fD (l₁:=[V,O,J,H]) (l₂:=[P,Dk])
  have e2:([O,J,H,P,Dk]:LH).Perm (J::[O,H,P,Dk]):=fD (l₁:=[O]) (l₂:=[H,P,Dk])
  have e3:([O,H,P,Dk]:LH).Perm (Dk::[O,H,P]):=fD (l₁:=[O,H,P]) (l₂:=[])
  exact(e1.trans (bA.cons _ (bA.cons _ (e2.trans (bA.cons _ e3))))).append_right R)
def Q0(G:nX W)(iw:D.Ok)(sm:12<=n)(eQ:n<=4096)(hlen:D.safe.length=n)(hb:Ya D n hd mb)(hg:eL (bo mb))(EU:Md.cR mb)(WD:0<=hd.seq/\hd.seq<=1152921504606846976)
 (Zt:(iq D n (2+2* cQ n:Nat) hd.seq).1=qs.map kO)(hqs:∀q∈qs,Vf q)
 (h:∀v pb pj,Md.cR (ym mb qs)->T W (VL v d n pb pj (ym mb qs) ⟨D,⟨(2+2* cQ n:Nat),n,(iq D n (2+2* cQ n:Nat) hd.seq).2.1,(iq D n (2+2* cQ n:Nat) hd.seq).2.2,false⟩,hd.bB,false⟩ R) (K (.tuple ⟨[.p (ai v),.i 0]⟩))):
 T W (ft d D::R) (lO (ai d) K):=by
 unfold lO;have Zw:2+2* cQ n<n:=by unfold cQ;omega
 repeat' first|apply ws|apply wb|refine Eg (d:=d) ?_
 rw[hlen];apply aca sm eQ;apply ws;intros;apply cW (by decide);apply ws;refine Q1 (mb:=mb) (hd:=hd) iw sm eQ hb hg λpb=>?_;apply ws;intros;apply cW (by decide);apply ws;refine RX (D:=D) iw (by rw[hlen];omega) WD λpj bb c hex=>?_;apply ws;apply cW (by decide);apply ws;intros;rename_i v;rw[Zt];apply T.Y4;rw[cu];have hql:qs.length<=4096:=by obtain⟨n',h1,h2,-⟩:=hex;rw[Zt,cu] at h2;omega
 intro w T1;refine⟨λvv w=>∃i:Nat,i<=qs.length/\vv=[.p none,.i 0,.p (ai pb),.p (some (ad v 0)),.l bb qs.length c,.i (qs.length:Int),.i (i:Int)]/\Md.cR (ym mb (qs.take i))/\
  St W w (bX pb (bo (ym mb (qs.take i)),[])::Sep.pt v (vC d n pb pj hd.bB false)::jP d pj ⟨(2+2* cQ n:Nat),n,(iq D n (2+2* cQ n:Nat) hd.seq).2.1,(iq D n (2+2* cQ n:Nat) hd.seq).2.2,false⟩::ft d D::own bb qs.length c 1 ((qs.map kO).map C3)::R),
  λvs _=>match vs with|[_,_,_,_,_,_,.int _ k]=>qs.length-k.toNat|_=>0,⟨0,aL _,rfl,EU,T1⟩,?_⟩
 rintro p4 n9 p5 a1 mg jJ mP Wn RJ w2 ⟨i,hi,e,ZP,gJ⟩;cases e
 refine T.at ?_ gJ;have e5:=oe i;apply gO<;>intro g1
 ·have bW:i<qs.length:=by omega
  have gx:=ao bW;have gq:=hqs _ (bT bW);have rM:qs.take (i+1)=qs.take i++[qs[i]]:=by rw[bP,gx];rfl
  generalize qs[i]=q at gx gq rM;have Z3:=zj gq.good gq.writes gq.aB gq.cx;have hcg:=Cs gq.good gq.writes;refine gu (b:=bb) ⟨by omega,by omega⟩ λrb hb=>?_;subst hb;rw[aq,mQ];refine NT (v:=C3 (kO q)) (by rw[dC,dC,gx];rfl) ?_;unfold C3;apply xQ;refine Jy (by have:=F7 gq.good gq.writes;omega) (λzE=>by rw[Ac gq.good gq.writes gq.aB gq.cx] at zE;cases zE) (λ_ A sl hq=>?_);rw[Z3] at hq⊢;dsimp only at hq⊢;apply ws;intros;apply cW (by decide)
  repeat' first|apply ws|apply wb|refine zN ?_
  rw[hcg.2];unfold lO.j1;apply ws;apply T.V1;have EV:=He (q:=q);have W9:(canon q).op=2->∀t∈(canon q).cx,TOk t:=λho t ht=>⟨gq.cx t (EV.2.1 t ht),by
   have hf:=lD hcg.1
   have:∀a∈(canon q).cx,jR a:=by rcases hf with h|h|h|h|h<;>first|exact h.2.2|omega
   exact this t ht⟩
  have su:=Cr (ym mb (qs.take i)) gq.writes;refine GY G ZP (qE.two hq) (λ_ a ha=>gq.aB a (EV.1 a ha)) W9 λYi rc2 QQ=>?_;apply ws;rw[su.1] at QQ⊢;rw[e5];have hre:ym mb (qs.take (i+1))=(cC (ym mb (qs.take i)) q).2.2:=by rw[rM,Lr]
  refine T.sub (M:=bX pb (bo (cC (ym mb (qs.take i)) q).2.2,[])::Sep.pt v (vC d n pb pj hd.bB false)::jP d pj ⟨(2+2* cQ n:Nat),n,(iq D n (2+2* cQ n:Nat) hd.seq).2.1,(iq D n (2+2* cQ n:Nat) hd.seq).2.2,false⟩::ft d D::own (ai rb) qs.length c 1 ((qs.map kO).map C3)::R) (λw3 h3=>?_) ?_
  ·exact⟨⟨i+1,bW,rfl,by rw[hre];exact QQ,by rw[hre];exact h3⟩,dn (by omega)⟩
  ·repeat (first|exact cm.refl _|apply cm.cons_cons|apply cm.cons)
 ·have kP:i=qs.length:=by omega
  subst kP;rw[bF] at ZP⊢;have fin:=h v pb pj ZP;apply T.Ij;apply T.sub fin;exact sg
end
end Go.Up
namespace Go.Up
open Go.Md
def jY(l:List Int):Nat:=l.countP (·==0)
def ug{α σ:Type}(f:σ->α->Int×σ)(lk:α->Bool):∀(n:Nat)(s:σ)(l:List α),(iQ f lk n s l).1.length<=l.length
 |0,s,l=>aL _
 |n+1,s,[]=>aL _
 |n+1,s,x::l=>by
  have hle:=rR (linked:=lk) (x::l);have hd:((x::l).drop (bQ lk (x::l)).1).length=(x::l).length-(bQ lk (x::l)).1:=aV;rw[iQ];by_cases hw:(bQ lk (x::l)).2=false
  ·rw[aj hw];dsimp only;rw[ki];exact hle
  rw[ah hw];cases fR f s ((x::l).take (bQ lk (x::l)).1) 0 with
  |mk o s'=>
   cases o with
   |none=>
    have:=ug f lk n s' ((x::l).drop (bQ lk (x::l)).1);dsimp only;rw[ak,ki];omega
   |some e=>
    have:=ug f lk n s ((x::l).drop (bQ lk (x::l)).1);dsimp only;rw[ak,ki];omega
def uT(c:Int):Prop:=0<=c/\c<=255
def G'(t:cj):uT (pC t):=by
 unfold pC uT
 repeat' split
 all_goals omega
def PW(a:bp):uT (tJ a):=by
 unfold tJ uT
 repeat' split
 all_goals omega
def CC(t b:cj):uT (rW t b):=by unfold rW uT;split<;>omega
def Jo(t b:bp):uT (ow t b):=by unfold ow uT;split<;>omega
def Jn(t:cj)(d c:bp):uT (dV t d c).2:=by
 unfold dV uT;dsimp only;by_cases h1:has t.au 16/\(if has t.au 16 then min (if t.aZ=0 then bV-1 else t.aZ) (ky d true) else if t.aZ=0 then bV-1 else t.aZ)=0
 ·rw[aj h1];simp
 ·rw[ah h1];by_cases h2:has t.au 32/\(if has t.au 32 then min (if has t.au 16 then min (if t.aZ=0 then bV-1 else t.aZ) (ky d true) else if t.aZ=0 then bV-1 else t.aZ) (ky c false) else if has t.au 16 then min (if t.aZ=0 then bV-1 else t.aZ) (ky d true) else if t.aZ=0 then bV-1 else t.aZ)=0
  ·rw[aj h2];simp
  ·rw[ah h2];simp
def Gw(a:bp)(b:Bool)(n:Nat)(p:Bool):uT (more a b n p).2:=by
 unfold more uT
 repeat' split
 all_goals simp
def ID(t:cj)(named:Option bS)(d c:Option bp)(many:Nat):uT (kd t named d c many).1:=by
 unfold kd;have h1:=G' t;split
 ·exact h1
 split
 ·unfold uT;simp
 cases named with
 |some k=>exact CC _ _
 |none=>
  cases d with
  |none=>unfold uT;simp
  |some d=>
   cases c with
   |none=>unfold uT;simp
   |some c=>
    have h2:=Jn t d c;have h3:=Gw d true (dV t d c).1 (decide (has t.au 2));have h4:=Gw c false (dV t d c).1 (decide (has t.au 2));dsimp only
    repeat' split
    all_goals first|exact h2|exact h3|exact h4|(unfold uT;dsimp only;decide)
def zM(t:cj)(named:Option bS){pend:Option bS}(hp:∀k,pend=some k->k.fate<=4)(d c:Bool)(many:Nat):uT (nV t named pend d c many):=by
 unfold nV;have h1:=G' t;split
 ·exact h1
 split
 ·unfold uT;decide
 cases named with
 |some k=>exact CC _ _
 |none=>
  cases pend with
  |none=>unfold uT;dsimp only;decide
  |some k=>
   have:=hp k rfl;unfold uT;dsimp only
   repeat' split
   all_goals omega
def Sz{m:aK}(hg:Md.cR m)(t:cj):uT (m.qC t).1:=by
 unfold aK.qC;split
 ·unfold aK.qZ;cases hi:m.name t.pending with
  |none=>dsimp only;exact zM t _ (λk h=>by cases h) _ _ _
  |some i=>
   dsimp only;cases hk:m.ax[i]? with
   |none=>dsimp only;exact zM t _ (λk h=>by cases h) _ _ _
   |some k=>
    have hf:=(hg.vL k (iF hk)).2.1;dsimp only;split
    ·exact zM t _ (pend:=some k) (λk2 h=>by cases h;exact hf) _ _ _
    ·unfold uT;dsimp only;decide
 ·unfold aK.move;dsimp only;split
  ·exact ID t _ _ _ _
  ·unfold uT;dsimp only;decide
def O3(m:aK)(a:bp):uT (m.make a).1:=by
 unfold aK.make;split
 ·exact PW a
 ·split
  ·exact Jo _ _
  ·split
   ·unfold uT;dsimp only;decide
   ·unfold uT;dsimp only;decide
def zt{n:Nat}{o:Option (Nat×Int)}(h:∀i c,o=some (i,c)->uT c):∀c∈mH n o,uT c:=λc hc=>by
 unfold mH at hc;cases o with
 |none=>rw[(List.mem_replicate.1 hc).2];unfold uT;decide
 |some e=>
  obtain⟨i,x⟩:=e;rcases ru hc with hh|hh
  ·rw[(List.mem_replicate.1 hh).2];unfold uT;decide
  ·rw[hh];exact h i x rfl
section
variable {σ α:Type} {f:σ->α->Int×σ} {P:σ->Prop}
def D6(hP:∀s x,P s->P (f s x).2/\uT (f s x).1):∀(l:List α)(s:σ)(i:Nat),P s->P (fR f s l i).2/\∀j c,(fR f s l i).1=some (j,c)->uT c
 |[],s,i,h=>⟨h,λj c e=>by cases e⟩
 |x::l,s,i,h=>by
  unfold fR;split
  ·exact⟨h,λj c e=>by cases e;exact(hP s x h).2⟩
  ·exact D6 hP l _ _ (hP s x h).1
def ye(lk:α->Bool)(hP:∀s x,P s->P (f s x).2/\uT (f s x).1):∀(n:Nat)(s:σ)(l:List α),P s->∀c∈(iQ f lk n s l).1,uT c
 |0,s,l,_,c,hc=>by cases hc
 |n+1,s,[],_,c,hc=>by cases hc
 |n+1,s,x::l,h,c,hc=>by
  rw[iQ] at hc;split at hc
  ·exact zt (o:=some ((bQ lk (x::l)).1-1,2)) (λi c e=>by cases e;unfold uT;decide) c hc
  ·have hd:=D6 hP ((x::l).take (bQ lk (x::l)).1) s 0 h;generalize fR f s ((x::l).take (bQ lk (x::l)).1) 0=r at hd hc
   match r,hd,hc with
   |(none,s'),hd,hc=>
    rcases dG.1 hc with hc|hc
    ·exact zt (o:=none) (λi c e=>by cases e) c hc
    ·exact ye lk hP n _ _ hd.1 c hc
   |(some e,s'),hd,hc=>
    rcases dG.1 hc with hc|hc
    ·exact zt (o:=some e) (λi c' e'=>by cases e';exact hd.2 _ _ rfl) c hc
    ·exact ye lk hP n _ _ h c hc
end
def GZ{m:aK}{q:iA}(hg:Md.cR m)(he:na q=true):oX (cC m q).1 (cC m q).2.1 [] []=true:=by
 have hZ: ¬na q=false:=by rw[he];decide
 have fin:∀(res:List Int),(∀c∈res,uT c)->res.length<=16->oX 0 res [] []=true:=λres h1 h2=>by
  unfold oX;simp only[cY,kh,decide_eq_true_eq,dH];exact⟨⟨⟨⟨λc hc=>h1 c hc,λa ha=>(by cases ha)⟩,λa ha=>(by cases ha)⟩,by omega⟩,by omega⟩
 have hl:q.op=1/\q.aB.length<=8\/q.op=2/\q.cx.length<=8\/q.op≠1/\q.op≠2:=by
  unfold na at he;by_cases h1:q.op=1
  ·left;rw[aj h1] at he;simp at he;exact⟨h1,by omega⟩
  ·by_cases h2:q.op=2
   ·right;left;rw[ah h1,aj h2] at he;simp at he;exact⟨h2,by omega⟩
   ·exact .inr (.inr ⟨h1,h2⟩)
 unfold cC;rw[ah hZ];rcases hl with⟨h1,h2⟩|⟨h1,h2⟩|⟨h1,h2⟩
 ·rw[aj h1];refine fin _ (ye (P:=λ_=>True) _ (λs x _=>⟨trivial,O3 s x⟩) _ _ _ trivial) ?_;have:=ug aK.make xz q.aB.length m q.aB;dsimp only;omega
 ·rw[ah (by omega),aj h1];refine fin _ (ye (P:=Md.cR) _ (λs x h=>⟨(Md.mC.qC (wy s) h).2.2,Sz h x⟩) _ _ _ hg) ?_;have:=ug aK.qC y7 q.cx.length m q.cx;dsimp only;omega
 ·rw[ah h1,ah h2];exact fin [] (λc hc=>by cases hc) (by simp)
end Go.Up
namespace Go.Up
open Go.Sep Go.Den Go.RowKit Go.Prog Go.Md Go.bE
def RF(l:List UInt8):C5 l<bV:=by
 unfold C5;split
 ·decide
 ·have h1:=pZ (l.take 16);have h2:(l.take 16).length<=16:=by rw[aG];omega
  have h3:256^(l.take 16).length<=256^16:=ja (by decide) h2;have h4:(256:Nat)^16=bV:=rfl;omega
def sP(x:RS):wP x<bV:=by
 unfold wP;split
 ·decide
 ·exact RF _
def qj(n:Nat)(x:RS):oc (gH n x):=by
 unfold gH oc;split
 ·omega
 ·unfold lu;simp only[IntKind.wrap,IntKind.bits,IntKind.signed];simp;split<;>omega
def wQ:oc 0:=by unfold oc;omega
def Wi(x:RS):wD (AH x):=by
 unfold AH;split
 ·exact⟨by decide,by decide,by decide,by decide,by decide,wQ,wQ,wQ,wQ⟩
 ·exact⟨sP _,sP _,sP _,sP _,sP _,qj _ _,qj _ _,qj _ _,qj _ _⟩
def Wh(x:RS):Bf (AZ x):=by
 unfold AZ;split
 ·exact⟨by decide,by decide,by decide,by decide,by decide,wQ,wQ,wQ,wQ,wQ,wQ⟩
 ·exact⟨sP _,sP _,sP _,sP _,sP _,qj _ _,qj _ _,qj _ _,qj _ _,qj _ _,qj _ _⟩
def IE{α:Type}{nx:RS->RS}{nv:RS->α}{P:α->Prop}(h:∀x,P (nv x)):∀(n:Nat)(x:RS),∀y∈(many nx nv n x).1,P y
 |0,x,y,hy=>by cases hy
 |n+1,x,y,hy=>by
  rw[mu] at hy;split at hy
  ·cases hy
  ·rcases gK.1 hy with e|e
   ·rw[e];exact h x
   ·exact IE h n _ y e
def Oz(l:List UInt8):(∀a∈(iX l).1.aB,wD a)/\(∀t∈(iX l).1.cx,Bf t)/\(iX l).1.aB.length<=255/\(iX l).1.cx.length<=255:=by
 have hb:=LD (dw 1 (l,false));have h1:=tv (nx:=AF) (nv:=AH) (gH 1 (dw 1 (l,false))).toNat (dw 1 (dw 1 (l,false)));have h2:=tv (nx:=AY) (nv:=AZ) (gH 1 (dw 1 (l,false))).toNat (dw 1 (dw 1 (l,false)));unfold iX;dsimp only;split
 ·exact⟨IE Wi _ _,λt h=>(by cases h),by dsimp only;omega,aL _⟩
 split
 ·exact⟨λt h=>(by cases h),IE Wh _ _,aL _,by dsimp only;omega⟩
 split
 ·exact⟨λt h=>(by cases h),λt h=>(by cases h),aL _,aL _⟩
 split
 ·exact⟨λt h=>(by cases h),λt h=>(by cases h),aL _,aL _⟩
 ·exact⟨λt h=>(by cases h),λt h=>(by cases h),aL _,aL _⟩
def vx{l:List UInt8}(h:pN l=true):iV (iX l).1=true:=by
 unfold pN at h;exact(cY _ _▸h).2
end Go.Up
namespace Go.Prog
open Go.Den
def kq(a:OA)(K:VK):WK:=br (a.isNone) (K (.p none)) (nn a λb=>lP (b.add 1) λc=>mG c (xP λd=>K (.p d)))
def mm.j1(K:VK)(a:Addr)(c:Bool):WK:=br c (lL (a.add 1) λg d h=>lL (a.add 2) λi e j=>lL (a.add 3) λk f l=>K (.b (decide ((max2 (max2 (d:Int) (e:Int)) (f:Int))<=16)))) (K (.b false))
def mm(P:LV)(K:VK):WK:=mk P λC=>lL (ad C 1) λQ D R=>(lp [.p (some (ad C 0)),.b false,.l Q D R,.i (D:Int),.i 0] λE S=>∀c h j k v m d w,E [.p (some c),.b h,.l j k v,.i m,.i d] w->(br (decide (d<m)) (gp j k d 1 λT=>lI T λF=>br (decide (F<0)) (K (.b false)) (br (decide (F>255)) (K (.b false)) ((ct E S [.p (some c),.b h,.l j k v,.i m,.i (ag.wrap (d+1))] [.p (some c),.b h,.l j k v,.i m,.i d] w)))) (lL (c.add 2) λV G W=>(lp [.p (some c),.b h,.l V G W,.i (G:Int),.i 0] λH X=>∀e n o q x r f y,H [.p (some e),.b n,.l o q x,.i r,.i f] y->(br (decide (f<r)) (gp o q f 14 λY=>aD Y 14 λZ=>mk cN λI=>aT 14 (ad I 0) Z (aD (ad I 0) 14 λsR=>fZ sR (xB λb3=>br (!b3) (K (.b false)) ((ct H X [.p (some e),.b n,.l o q x,.i r,.i (ag.wrap (f+1))] [.p (some e),.b n,.l o q x,.i r,.i f] y))))) (lL (e.add 3) λJV J Lf=>(lp [.p (some e),.b n,.l JV J Lf,.i (J:Int),.i 0] λM μ3=>∀a z s t A u g B,M [.p (some a),.b z,.l s t A,.i u,.i g] B->(br (decide (g<u)) (gp s t g 16 λa6=>aD a6 16 λqL=>mk bZ λO=>aT 16 (ad O 0) qL (aD (ad O 0) 16 λs7=>dW s7 (xB λb5=>br (!b5) (K (.b false)) ((ct M μ3 [.p (some a),.b z,.l s t A,.i u,.i (ag.wrap (g+1))] [.p (some a),.b z,.l s t A,.i u,.i g] B))))) (lI a λn8=>br (decide (n8>=0)) (lI a λn9=>mm.j1 K a (decide (n9<=255))) (mm.j1 K a false))) B))) y))) w)
def ir.j1(K:VK)(b:Nat):WK:=aY True (mk [.l none 0 0] λh=>tick (lI (ad b 0) λr=>aQ (some (ad h 0)) 1 r (x0 (tick (lL (ad b 1) λt n u=>aQ (some (ad h 0)) 1 (n:Int) (x0 (kp (ad b 1) [.l t n u] (lL (ad b 1) λv o w=>(lp [.p (some (ad b 0)),.s .empty,.p (some (ad h 0)),.l v o w,.i (o:Int),.i 0] λq x=>∀c j a e f k g d m,q [.p (some c),.s j,.p (some a),.l e f k,.i g,.i d] m->(br (decide (d<g)) (gp e f d 1 λy=>lI y λz=>aQ (some a) 1 z (x0 ((ct q x [.p (some c),.s j,.p (some a),.l e f k,.i g,.i (ag.wrap (d+1))] [.p (some c),.s j,.p (some a),.l e f k,.i g,.i d] m)))) (lL (c.add 2) λA B C=>iB (some a) A B C (x0 (lL (c.add 3) λD E F=>il (some a) D E F (x0 (cF (some a) (xS λG=>K (.s G)))))))) m)))))))))
def ir(b:LV)(K:VK):WK:=mk b λa=>aD (ad a 0) 4 λc=>mm c (xB λd=>br (!d) (aY (1=1/\True) (aY (4=4) (fH (ad a 0) [.i 3,.l none 0 0,.l none 0 0,.l none 0 0] (ir.j1 K a)))) (ir.j1 K a))
def oV(a:OA)(b:BA)(K:VK):WK:=br (a.isNone) (aY (1=1/\True) (ir [.i 2,.l none 0 0,.l none 0 0,.l none 0 0] (xS λe=>K (.s e)))) (br (decide ((b.size:Int)>16384)) (aY (1=1/\True) (ir [.i 3,.l none 0 0,.l none 0 0,.l none 0 0] (xS λf=>K (.s f)))) (iG b (x2 λg h=>(xA 13 λj=>(xI .i64 λc=>mk bR λd=>aT 13 (ad d 0) j (br (c !=0) (aY (1=1/\True) (ir [.i c,.l none 0 0,.l none 0 0,.l none 0 0] (xS λk=>K (.s k)))) (tick (nn a λm=>lP (m.add 1) λn=>aD (ad d 0) 13 λo=>jE n o (xA 4 λp=>ir p (xS λq=>K (.s q))))))) h) g)))
def nq.j1(K:VK)(a b:OA)(c:Bool):WK:=br c (K (.tuple ⟨[.p none,.i 1]⟩)) (aY (1=1/\(1=1/\True)) (mk [.p a,.p b] λd=>K (.tuple ⟨[.p (some (ad d 0)),.i 0]⟩)))
def nq(b:Int)(K:VK):WK:=qt b (xP λa=>lO a (x2 λd e=>(xP λc=>(xI .i64 λf=>br (f !=0) (nq.j1 K a c true) (dL a (xI .i64 λg=>nq.j1 K a c (g !=b)))) e) d))
def cw(r:LV)(K:VK):WK:=mk r λt=>(lp [.p (some (ad t 0)),.s .empty,.s .empty,.i 0] λn u=>∀j k e f l,n [.p (some j),.s k,.s e,.i f] l->(br (decide (f<16)) ((lp [.p (some j),.s k,.s e,.i f,.i 0,.i 7] λo v=>∀a g b c h d m,o [.p (some a),.s g,.s b,.i c,.i h,.i d] m->(br (decide (d>=0)) (aD a 2 λw=>lZ w (ag.wrap ((ag.wrap (8* c))+d)) (xI .i64 λx=>(ct o v [.p (some a),.s g,.s b,.i c,.i (ag.wrap ((ag.wrap (2* h))+x)),.i (ag.wrap (d-1))] [.p (some a),.s g,.s b,.i c,.i h,.i d] m))) (aY (1=1/\True) (mk [.int .u8 (IntKind.u8.wrap h)] λy=>Np (ai y) 1 λq=>aY (((b.size+q.size:Nat):Int)<=9223372036854775807) ((ct n u [.p (some a),.s g,.s (b++q),.i (ag.wrap (c+1))] [.p (some j),.s k,.s e,.i f] l))))) m)) (K (.s e))) l)
def kD(t:LV)(K:VK):WK:=mk t λa=>tick (aD (ad a 0) 2 λu=>aD (ad a 2) 2 λp=>aD (ad a 4) 2 λm=>aD (ad a 6) 2 λj=>aD (ad a 8) 2 λg=>cw u (xS λb=>kp (ad a 8) g (kp (ad a 6) j (kp (ad a 4) m (kp (ad a 2) p (cw p (xS λc=>kp (ad a 8) g (kp (ad a 6) j (kp (ad a 4) m (aY (((b.size+c.size:Nat):Int)<=9223372036854775807) (cw m (xS λd=>kp (ad a 8) g (kp (ad a 6) j (aY ((((b++c).size+d.size:Nat):Int)<=9223372036854775807) (cw j (xS λe=>kp (ad a 8) g (aY (((((b++c)++d).size+e.size:Nat):Int)<=9223372036854775807) (cw g (xS λf=>aY ((((((b++c)++d)++e).size+f.size:Nat):Int)<=9223372036854775807) (tick (lI (ad a 10) λv=>lI (ad a 11) λq=>lI (ad a 12) λn=>lI (ad a 13) λk=>bl 4 v (xS λh=>kp (ad a 13) [.i k] (kp (ad a 12) [.i n] (kp (ad a 11) [.i q] (aY (((((((b++c)++d)++e)++f).size+h.size:Nat):Int)<=9223372036854775807) (bl 2 q (xS λl=>kp (ad a 13) [.i k] (kp (ad a 12) [.i n] (aY ((((((((b++c)++d)++e)++f)++h).size+l.size:Nat):Int)<=9223372036854775807) (bl 2 n (xS λo=>kp (ad a 13) [.i k] (aY (((((((((b++c)++d)++e)++f)++h)++l).size+o.size:Nat):Int)<=9223372036854775807) (bl 8 k (xS λr=>aY ((((((((((b++c)++d)++e)++f)++h)++l)++o).size+r.size:Nat):Int)<=9223372036854775807) (K (.s ((((((((b++c)++d)++e)++f)++h)++l)++o)++r)))))))))))))))))))))))))))))))))))))
def kC(w:LV)(K:VK):WK:=mk w λa=>tick (aD (ad a 0) 2 λx=>aD (ad a 2) 2 λr=>aD (ad a 4) 2 λo=>aD (ad a 6) 2 λl=>aD (ad a 8) 2 λj=>cw x (xS λb=>kp (ad a 8) j (kp (ad a 6) l (kp (ad a 4) o (kp (ad a 2) r (cw r (xS λc=>kp (ad a 8) j (kp (ad a 6) l (kp (ad a 4) o (aY (((b.size+c.size:Nat):Int)<=9223372036854775807) (cw o (xS λd=>kp (ad a 8) j (kp (ad a 6) l (aY ((((b++c).size+d.size:Nat):Int)<=9223372036854775807) (cw l (xS λe=>kp (ad a 8) j (aY (((((b++c)++d).size+e.size:Nat):Int)<=9223372036854775807) (cw j (xS λf=>aY ((((((b++c)++d)++e).size+f.size:Nat):Int)<=9223372036854775807) (tick (lI (ad a 10) λy=>lI (ad a 11) λt=>lI (ad a 12) λp=>lI (ad a 13) λm=>bl 4 y (xS λg=>kp (ad a 13) [.i m] (kp (ad a 12) [.i p] (kp (ad a 11) [.i t] (aY (((((((b++c)++d)++e)++f).size+g.size:Nat):Int)<=9223372036854775807) (bl 4 t (xS λh=>kp (ad a 13) [.i m] (kp (ad a 12) [.i p] (aY ((((((((b++c)++d)++e)++f)++g).size+h.size:Nat):Int)<=9223372036854775807) (bl 2 p (xS λk=>kp (ad a 13) [.i m] (aY (((((((((b++c)++d)++e)++f)++g)++h).size+k.size:Nat):Int)<=9223372036854775807) (bl 2 m (xS λn=>aY ((((((((((b++c)++d)++e)++f)++g)++h)++k).size+n.size:Nat):Int)<=9223372036854775807) (tick (lI (ad a 14) λz=>lI (ad a 15) λu=>bl 8 z (xS λq=>kp (ad a 15) [.i u] (aY (((((((((((b++c)++d)++e)++f)++g)++h)++k)++n).size+q.size:Nat):Int)<=9223372036854775807) (bl 8 u (xS λv=>aY ((((((((((((b++c)++d)++e)++f)++g)++h)++k)++n)++q).size+v.size:Nat):Int)<=9223372036854775807) (K (.s ((((((((((b++c)++d)++e)++f)++g)++h)++k)++n)++q)++v)))))))))))))))))))))))))))))))))))))))))))
def kV(a:Bool)(K:VK):WK:=br a (K (.s ⟨#[1]⟩)) (K (.s ⟨#[0]⟩))
def fh(pA:LV)(K:VK):WK:=mk pA λd=>lI (ad d 0) λn1=>bl 1 n1 (xS λc=>lI (ad d 0) λv=>br (v==1) (lL (ad d 1) λsL qG tq=>bl 1 (qG:Int) (xS λW=>aY (((c.size+W.size:Nat):Int)<=9223372036854775807) (lL (ad d 1) λmg X mP=>(lp [.s .empty,.s (c++W),.l mg X mP,.i (X:Int),.i 0] λY pz=>∀H k w x I y m J,Y [.s H,.s k,.l w x I,.i y,.i m] J->(br (decide (m<y)) (gp w x m 14 λa1=>aD a1 14 λuE=>mk cN λZ=>aT 14 (ad Z 0) uE (aD (ad Z 0) 14 λsR=>kD sR (xS λs5=>aY (((k.size+s5.size:Nat):Int)<=9223372036854775807) ((ct Y pz [.s H,.s (k++s5),.l w x I,.i y,.i (ag.wrap (m+1))] [.s H,.s k,.l w x I,.i y,.i m] J))))) (K (.s k))) J)))) (br (v==2) (lL (ad d 2) λxx wF xY=>bl 1 (wF:Int) (xS λs6=>aY (((c.size+s6.size:Nat):Int)<=9223372036854775807) (lL (ad d 2) λJV K8 Lf=>(lp [.s .empty,.s (c++s6),.l JV K8 Lf,.i (K8:Int),.i 0] λI2 μ2=>∀M n z A O B o P,I2 [.s M,.s n,.l z A O,.i B,.i o] P->(br (decide (o<B)) (gp z A o 16 λa2=>aD a2 16 λqL=>mk bZ λr3=>aT 16 (ad r3 0) qL (aD (ad r3 0) 16 λs7=>kC s7 (xS λs9=>aY (((n.size+s9.size:Nat):Int)<=9223372036854775807) ((ct I2 μ2 [.s M,.s (n++s9),.l z A O,.i B,.i (ag.wrap (o+1))] [.s M,.s n,.l z A O,.i B,.i o] P))))) (K (.s n))) P)))) (br (v==3) (lI (ad d 3) λn7=>bl 8 n7 (xS λs10=>aY (((c.size+s10.size:Nat):Int)<=9223372036854775807) (K (.s (c++s10))))) (br (v==6) (aD (ad d 5) 8 λsY=>mk FC λa=>aT 8 (ad a 0) sY (tick (aD (ad a 0) 2 λA6=>lI (ad a 2) λn8=>lI (ad a 3) λQ=>lT (ad a 4) λC=>lT (ad a 5) λp=>lT (ad a 6) λh=>lI (ad a 7) λf=>cw A6 (xS λe=>kp (ad a 7) [.i f] (kp (ad a 6) [.b h] (kp (ad a 5) [.b p] (kp (ad a 4) [.b C] (kp (ad a 3) [.i Q] (kp (ad a 2) [.i n8] (aY (((c.size+e.size:Nat):Int)<=9223372036854775807) (bl 8 n8 (xS λg=>kp (ad a 7) [.i f] (kp (ad a 6) [.b h] (kp (ad a 5) [.b p] (kp (ad a 4) [.b C] (kp (ad a 3) [.i Q] (aY ((((c++e).size+g.size:Nat):Int)<=9223372036854775807) (bl 8 Q (xS λj=>kp (ad a 7) [.i f] (kp (ad a 6) [.b h] (kp (ad a 5) [.b p] (kp (ad a 4) [.b C] (aY (((((c++e)++g).size+j.size:Nat):Int)<=9223372036854775807) (kV C (xS λq=>kp (ad a 7) [.i f] (kp (ad a 6) [.b h] (kp (ad a 5) [.b p] (aY ((((((c++e)++g)++j).size+q.size:Nat):Int)<=9223372036854775807) (kV p (xS λD=>kp (ad a 7) [.i f] (kp (ad a 6) [.b h] (aY (((((((c++e)++g)++j)++q).size+D.size:Nat):Int)<=9223372036854775807) (kV h (xS λR=>kp (ad a 7) [.i f] (aY ((((((((c++e)++g)++j)++q)++D).size+R.size:Nat):Int)<=9223372036854775807) (bl 1 f (xS λs17=>aY (((((((((c++e)++g)++j)++q)++D)++R).size+s17.size:Nat):Int)<=9223372036854775807) (K (.s (((((((c++e)++g)++j)++q)++D)++R)++s17)))))))))))))))))))))))))))))))))))))))) (lL (ad d 4) λsb7 sn7 sc7=>bl 1 (sn7:Int) (xS λs18=>aY (((c.size+s18.size:Nat):Int)<=9223372036854775807) (lL (ad d 4) λsb8 sn8 sc8=>(lp [.s .empty,.s (c++s18),.l sb8 sn8 sc8,.i (sn8:Int),.i 0] λI3 μ3=>∀S r E F T G t V,I3 [.s S,.s r,.l E F T,.i G,.i t] V->(br (decide (t<G)) (gp E F t 2 λa3=>aD a3 2 λCn=>mk [.u 0,.u 0] λr5=>aT 2 (ad r5 0) Cn (aD (ad r5 0) 2 λI6=>cw I6 (xS λs21=>aY (((r.size+s21.size:Nat):Int)<=9223372036854775807) ((ct I3 μ3 [.s S,.s (r++s21),.l E F T,.i G,.i (ag.wrap (t+1))] [.s S,.s r,.l E F T,.i G,.i t] V))))) (K (.s r))) V))))))))
end Go.Prog
namespace Go.Up
open Go.Sep Go.Den Go.RowKit Go.Prog Go.Md Go.bE
def okR(r:Int):Bool:=decide (0<=r/\r<=255)
def Ov(e:Int)(res:List Int)(al:List bp)(tl:List cj):oX e res al tl=(res.all okR&&(al.all (λa=>decide (oO a))&&(tl.all (λt=>decide (jR t))&&(decide (0<=e/\e<=255)&&decide (res.length<=16/\al.length<=16/\tl.length<=16))))):=by
 unfold oX okR;simp only[Bool.and_assoc]
instance{e:Int}{rb ab tb:OA}{rn rc an ac tn tc:Nat}:Wr (ie e rb rn rc ab an ac tb tn tc) 0 [.i 3,.l none 0 0,.l none 0 0,.l none 0 0] (ie 3 none 0 0 none 0 0 none 0 0):=⟨rfl,aC _,yk⟩
section
variable {W:World} {L R:LH} {K:VK} {X:WK} {e:Int} {res:List Int} {al:List bp} {tl:List cj} {rb ab tb:OA} {rc ac tc:Nat}
def HS{l:List Int}{s:OA}{i:Nat}{x:Int}{a:Addr}[hh:Has R L](hr:kF W R I1 1 s l)(hs:s=some a)(hx:l[i]?=some x)(h:T W L (K (.i x))):T W L (ld (a.add (i* 1)) K):=λw hw=>by
 obtain⟨a',ha,hh⟩:=hr w (hh.sub hw) i x hx;rw[hs] at ha;cases ha
 exact O7 (hh 0 _ rfl) (h w hw)
def JA[hh:Has R L](h1:kF W R I1 1 rb res)(h2:kF W R aP 14 ab al)(h3:kF W R aX 16 tb tl)(l1:res.length<1000000)(l2:al.length<1000000)(l3:tl.length<1000000)(h:T W L (K (.b (oX e res al tl)))):
 T W L (mm (ie e rb res.length rc ab al.length ac tb tl.length tc) K):=by
 unfold mm;rw[Ov] at h;apply ws;intros;rename_i r1;intro w l7;refine⟨λvv w=>∃i:Nat,i<=res.length/\(res.take i).all okR=true/\vv=[.p (some (ad r1 0)),.b false,.l rb res.length rc,.i (res.length:Int),.i (i:Int)]/\St W w (Sep.pt r1 (ie e rb res.length rc ab al.length ac tb tl.length tc)::L),
  mq 4 res.length,⟨0,aL _,rfl,rfl,l7⟩,?_⟩
 rintro a1 b1 mg jJ mP n1 n2 w2 ⟨i,hi,gV,e1,gJ⟩;cases e1
 refine T.at ?_ gJ;have e5:=oe i;apply gO<;>intro g1
 ·have bW:i<res.length:=by omega
  have gx:=ao bW;generalize res[i]=x at gx;refine iu h1 ⟨by omega,by omega⟩ rfl λa ha=>?_;rw[aq];apply HS h1 ha gx;apply oU;have bad: ¬(0<=x/\x<=255)->T W (Sep.pt r1 (ie e rb res.length rc ab al.length ac tb tl.length tc)::L) (K (.b false)):=λhx=>by
   rw[all_false (P:=okR) gx (ay hx),gI] at h;exact T.dp h
  refine gO (λg2=>bad (by omega)) (λg2=>?_);refine gO (λg3=>bad (by omega)) (λg3=>?_);rw[e5];exact λw3 h3=>⟨⟨i+1,bW,by rw[vS gx gV];exact aA (by omega),rfl,h3⟩,dn (by omega)⟩
 have kP:i=res.length:=by omega
 subst kP;rw[bF] at gV;rw[gV,dX] at h;apply ws;intro w l7;refine⟨λvv w=>∃i:Nat,i<=al.length/\(al.take i).all (λa=>decide (oO a))=true/\vv=[.p (some (ad r1 0)),.b false,.l ab al.length ac,.i (al.length:Int),.i (i:Int)]/\St W w (Sep.pt r1 (ie e rb res.length rc ab al.length ac tb tl.length tc)::L),
  mq 4 al.length,⟨0,aL _,rfl,rfl,l7⟩,?_⟩
 rintro a1 b1 mg jJ mP n1 n2 w2 ⟨i,hi,gV,e1,gJ⟩;cases e1
 refine T.at ?_ gJ;have e5:=oe i;apply gO<;>intro g1
 ·have bW:i<al.length:=by omega
  have gx:=ao bW;generalize al[i]=x at gx;refine iu h2 ⟨by omega,by omega⟩ rfl λa ha=>?_;rw[aq];apply je h2 ha gx rfl
  repeat' first|apply ws;intros|apply wb|refine Fb ?_
  rw[e5];by_cases hg:oO x
  ·rw[aA hg];apply ws;refine T.drop λw3 h3=>⟨⟨i+1,bW,by rw[vS gx gV];exact aA hg,rfl,h3⟩,dn (by omega)⟩
  ·rw[ay hg];apply ws;rw[all_false (P:=λa=>decide (oO a)) gx (ay hg),gI] at h;exact T.dp h
 have kP:i=al.length:=by omega
 subst kP;rw[bF] at gV;rw[gV,dX] at h;apply ws;intro w l7;refine⟨λvv w=>∃i:Nat,i<=tl.length/\(tl.take i).all (λa=>decide (jR a))=true/\vv=[.p (some (ad r1 0)),.b false,.l tb tl.length tc,.i (tl.length:Int),.i (i:Int)]/\St W w (Sep.pt r1 (ie e rb res.length rc ab al.length ac tb tl.length tc)::L),
  mq 4 tl.length,⟨0,aL _,rfl,rfl,l7⟩,?_⟩
 rintro a1 b1 mg jJ mP n1 n2 w2 ⟨i,hi,gV,e1,gJ⟩;cases e1
 refine T.at ?_ gJ;have e5:=oe i;apply gO<;>intro g1
 ·have bW:i<tl.length:=by omega
  have gx:=ao bW;generalize tl[i]=x at gx;refine iu h3 ⟨by omega,by omega⟩ rfl λa ha=>?_;rw[aq];apply je h3 ha gx rfl
  repeat' first|apply ws;intros|apply wb|refine Et ?_
  rw[e5];by_cases hg:jR x
  ·rw[aA hg];apply ws;refine T.drop λw3 h3=>⟨⟨i+1,bW,by rw[vS gx gV];exact aA hg,rfl,h3⟩,dn (by omega)⟩
  ·rw[ay hg];apply ws;rw[all_false (P:=λa=>decide (jR a)) gx (ay hg),gI] at h;exact T.dp h
 have kP:i=tl.length:=by omega
 subst kP;rw[bF] at gV;rw[gV,dX] at h;apply ws;have j1:∀b:Bool,b=decide (0<=e/\e<=255)->T W (Sep.pt r1 (ie e rb res.length rc ab al.length ac tb tl.length tc)::L) (mm.j1 K (ad r1 0) b):=λb hb=>by
  unfold mm.j1;rw[<-hb] at h;cases b with
  |false=>rw[gI] at h;apply ws;exact T.dp h
  |true=>
   rw[dX] at h;apply ws;apply T.fin (T.dp h)
   congr 1
   rw[decide_eq_decide];unfold max2;split<;>split<;>omega
 apply gO<;>intro g2
 ·apply ws;exact j1 _ (by rw[decide_eq_decide];omega)
 ·exact j1 _ (ay (by omega)).symm
def Jx[hh:Has R L]{r1:Nat}(h1:kF W R I1 1 rb res)(h2:kF W R aP 14 ab al)(h3:kF W R aX 16 tb tl)(hf:oX e res al tl=true)(h:T W L (K (.s (bs (z8 e res al tl))))):
 T W (Sep.pt r1 (ie e rb res.length rc ab al.length ac tb tl.length tc)::L) (ir.j1 K r1):=by
 obtain⟨f1,f2,f3,f4,f5,f6,f7⟩:=yi hf;unfold ir.j1;apply ws;intros;rename_i r2;apply HX
 repeat' first|apply ws|apply wb|refine po (by simp[aJ]) ?_
 intro w l7;refine⟨λvv w=>∃i:Nat,i<=res.length/\vv=[.p (some (ad r1 0)),.s .empty,.p (some (ad r2 0)),.l rb res.length rc,.i (res.length:Int),.i (i:Int)]/\St W w (buf r2 (le .i64 1 e++le .i64 1 (res.length:Int)++(res.take i).flatMap λr=>le .i64 1 r)::Sep.pt r1 (ie e rb res.length rc ab al.length ac tb tl.length tc)::L),
  mq 5 res.length,⟨0,aL _,rfl,by simpa using l7⟩,?_⟩
 rintro a1 s1 a2 qf oP qQ n2 n3 w2 ⟨i,hi,e1,gJ⟩;cases e1
 refine T.at ?_ gJ;have e5:=oe i;have hlen:(le .i64 1 e++le .i64 1 (res.length:Int)++(res.take i).flatMap λr=>le .i64 1 r).length<=18:=by
  rw[ak,ak,c6 (e:=1) (λr=>aJ _ _ _),aG,aJ,aJ];omega
 apply gO<;>intro g1
 ·have bW:i<res.length:=by omega
  have gx:=ao bW;generalize res[i]=x at gx;refine iu h1 ⟨by omega,by omega⟩ rfl λa ha=>?_;rw[aq];apply HS h1 ha gx;apply oU;refine po (by omega) (za ?_);rw[e5];refine λw3 h3=>⟨⟨i+1,bW,rfl,?_⟩,dn (by omega)⟩;rw[bP,gx,fC];simpa [aI] using h3
 have kP:i=res.length:=by omega
 subst kP;rw[bF] at hlen⊢;have k2:(al.flatMap gr).length=al.length* 96:=c6 ln al;apply ws;apply YE (R:=R) h2 f2 (by omega) (by omega);apply ws;refine YD (R:=R) h3 f3 (by omega) (by rw[ak,ak,k2,aJ];omega) ?_
 repeat' first|apply ws|apply wb|refine pW ?_
 unfold z8 at h;simp only[aI];exact T.dp h
def FH[hh:Has R L](h1:kF W R I1 1 rb res)(h2:kF W R aP 14 ab al)(h3:kF W R aX 16 tb tl)(l1:res.length<1000000)(l2:al.length<1000000)(l3:tl.length<1000000)(h:T W L (K (.s (bs (uh e res al tl))))):
 T W L (ir (ie e rb res.length rc ab al.length ac tb tl.length tc) K):=by
 unfold ir
 repeat' first|apply ws;intros|apply wb|refine JA h1 h2 h3 l1 l2 l3 ?_
 rename_i r1;unfold uh at h;cases hf:oX e res al tl with
 |true=>
  rw[aj hf] at h;apply ws;exact Jx h1 h2 h3 hf h
 |false=>
  rw[ah (by rw[hf];decide)] at h;apply ws;exact Jx (R:=L) (rb:=none) (ab:=none) (tb:=none) (res:=[]) (al:=[]) (tl:=[]) kF.nil kF.nil kF.nil (by decide) h
def Nx(h:T W L (K (.s (bs (uh e [] [] []))))):T W L (ir [.i e,.l none 0 0,.l none 0 0,.l none 0 0] K):=
 FH (R:=L) (rb:=none) (ab:=none) (tb:=none) (rc:=0) (ac:=0) (tc:=0) (res:=[]) (al:=[]) (tl:=[]) kF.nil kF.nil kF.nil (by decide) (by decide) (by decide) h
end
structure Rm(n g:Nat)(S:VS):Prop where
 calm:Sep.Calm n S.D
 ends:∀j:Nat,j<n->Sep.Ends g (S.D.read (j:Int)).1
 lo:S.J.lo=((2+2* cQ n:Nat):Int)
 hi:S.J.hi=(n:Int)
 XN:S.J.lo<=S.J.at'
 YA:S.J.at'<=S.J.hi
 seq:0<=S.J.seq/\S.J.seq<=1000000
 js:S.J.iD=false
 iD:S.iD=false
 bB:0<=S.bB/\S.bB<=g
def Rm.ok{n g:Nat}{S:VS}(h:Rm n g S)(hn:n<=4096)(hg:g<=1000):Nq S:=by
 have h1:=h.calm.later;have h2:=h.lo;have h3:=h.XN;have h4:=h.YA;have h5:=h.seq;have h6:=h.bB;have h7:=h.hi;exact⟨h.calm.ok,by omega,⟨by omega,h3,h4,by rw[h.calm.len];omega,by omega⟩,by omega⟩
def GA{n a t g:Nat}{D:ba}{number:Int}{s:BA}(hc:Sep.Calm n D)(he:∀j:Nat,j<n->Sep.Ends g (D.read (j:Int)).1)(eQ:n<=4096)(h1:1<=number)(h2:number<=g+1)(hg:g+1<256)(hl:a+fX s.size<=t)(htn:t<=n):
 (oH D (a:Nat) (t:Nat) number s).2=0/\Sep.Calm n (oH D (a:Nat) (t:Nat) number s).1/\∀j:Nat,j<n->Sep.Ends (g+1) ((oH D (a:Nat) (t:Nat) number s).1.read (j:Int)).1:=by
 obtain⟨f1,f2,f3,f4⟩:=Ke (a:=a) (t:=t) (number:=number) (s:=s) hc eQ ⟨h1,by omega⟩ hl htn;refine⟨f1,f2,λj hj=>?_⟩;by_cases Kr:a<=j/\j<a+fX s.size
 ·obtain⟨q,rfl⟩:∃q,j=a+q:=⟨j-a,by omega⟩;have:=f3 q (by omega);rw[show((a+q:Nat):Int)=(a:Int)+q from by omega,this];obtain⟨m,rfl⟩:=bD (show 0<=number by omega);have Yq:Sep.eL m (q:Int) (Sep.part s q):=⟨h1,by omega,by omega,by omega,by
   unfold Sep.part;rw[ByteArray.size_extract];omega⟩
  exact(D5 Yq).mono (by omega)
 ·rw[f4 j hj (by omega)];exact(he j hj).mono (by omega)
def Bq{n g:Nat}{m:aK}{S:VS}(h:Rm n g S)(eQ:n<=4096)(sm:12<=n)(hg:g+2<256)(uY:fX (cU (bo m)).length<=cQ n)(hlen:(cU (bo m)).length<=425984):
 (nE n m S).2=0/\Rm n (g+2) (nE n m S).1/\(nE n m S).1.J.at'=S.J.lo/\(nE n m S).1.J.lo=S.J.lo/\(nE n m S).1.J.seq=S.J.seq/\(nE n m S).1.bB=S.bB+1:=by
 have EU:=DV (by omega) n h.ends;have ZP:=(yJ S.D n).1;have Kr:=vY sm (S.bB+1);have ht:=h.bB;have HF:=h.seq;obtain⟨p1,p2,p3⟩:=GA (a:=fV n (S.bB+1)) (t:=fV n (S.bB+1)+cQ n) (g:=g) (number:=gL S.D n+1) (s:=bs (cU (bo m))) h.calm h.ends eQ (by omega) (by omega) (by omega) (by rw[bn];omega) Kr.2.1;have L5:=EN (S.bB+1);obtain⟨lw,hlw⟩:∃lw:Nat,low (S.bB+1)=(lw:Int)/\lw<2:=by
  rcases L5 with hh|hh
  ·exact⟨0,hh,by decide⟩
  ·exact⟨1,hh,by decide⟩
 have hH:mN ⟨S.bB+1,gL S.D n+1,((cU (bo m)).length:Int),S.J.seq⟩:=by
  unfold mN;dsimp only;omega
 have ZM:(j0 ⟨S.bB+1,gL S.D n+1,((cU (bo m)).length:Int),S.J.seq⟩).length=32:=by simp only[j0,ak,aJ]
 have Cc:=h.calm.len;have cp:∀D1:ba,Sep.Calm n D1->(∀j:Nat,j<n->Sep.Ends (g+1) (D1.read (j:Int)).1)->(xq D1 (gL S.D n+2) ⟨S.bB+1,gL S.D n+1,((cU (bo m)).length:Int),S.J.seq⟩).2=0/\Sep.Calm n (xq D1 (gL S.D n+2) ⟨S.bB+1,gL S.D n+1,((cU (bo m)).length:Int),S.J.seq⟩).1/\
  ∀j:Nat,j<n->Sep.Ends (g+2) ((xq D1 (gL S.D n+2) ⟨S.bB+1,gL S.D n+1,((cU (bo m)).length:Int),S.J.seq⟩).1.read (j:Int)).1:=by
  intro D1 c1 e1;have:=GA (a:=lw) (t:=lw+1) (g:=g+1) (number:=gL S.D n+2) (s:=bs (j0 ⟨S.bB+1,gL S.D n+1,((cU (bo m)).length:Int),S.J.seq⟩)) c1 e1 eQ (by omega) (by omega) (by omega) (by rw[bn,ZM];show lw+1<=lw+1;omega) (by omega);have e:xq D1 (gL S.D n+2) ⟨S.bB+1,gL S.D n+1,((cU (bo m)).length:Int),S.J.seq⟩=oH D1 ((lw:Nat):Int) ((lw+1:Nat):Int) (gL S.D n+2) (bs (j0 ⟨S.bB+1,gL S.D n+1,((cU (bo m)).length:Int),S.J.seq⟩)):=by
   unfold xq oH;rw[aj hH];dsimp only;rw[hlw.1]
   rfl
  rw[e];exact this
 unfold nE;rw[Cc,ah (by rw[h.iD];decide),ah (λhh=>hh uY),ah (by rw[Iu];exact λhh=>hh p1)];obtain⟨c1,c2,c3⟩:=cp (put S.D n (S.bB+1) (gL S.D n+1) (bs (cU (bo m)))).1 p2 p3;rw[ah (λhh=>hh c1)];refine⟨rfl,⟨c2,c3,h.lo,h.hi,u0 _,?_,h.seq,h.js,h.iD,?_⟩,rfl,rfl,rfl,rfl⟩
 ·have:=h.XN;have:=h.YA;show S.J.lo<=S.J.hi;omega
 ·show 0<=S.bB+1/\S.bB+1<=((g+2:Nat):Int);omega
def Rm.Zg{n g:Nat}{S:VS}(h:Rm n g S):S.J.Ok S.D:=by
 have h2:=h.lo;have h5:=h.seq;have h7:=h.hi;exact⟨by omega,h.XN,h.YA,by rw[h.calm.len];omega,by omega⟩
def Bt{n g:Nat}{S:VS}{s:BA}(h:Rm n g S)(eQ:n<=4096)(hg:g+1<256)(HF:S.J.seq<1000000)(hr:room S.J s.size):
 (uN S s).2=0/\Rm n (g+1) (uN S s).1/\(uN S s).1.J.at'=S.J.at'+(fX (12+s.size):Int)/\(uN S s).1.J.lo=S.J.lo/\(uN S s).1.J.seq=S.J.seq+1/\(uN S s).1.bB=S.bB:=by
 have EU:=DV (by omega) n h.ends;have ZP:=(yJ S.D n).1;have IJ:=h.lo;have QU:=h.XN;obtain⟨D',e1,e2,e3,e4,e5,e6,e7⟩:=Qb (n:=n) (number:=gL S.D n+1) (s:=s) h.calm eQ h.Zg h.js (by omega) (by omega) hr;unfold uN;rw[h.calm.len,e1];have sx:∀j:Nat,j<n->Sep.Ends (g+1) (D'.read (j:Int)).1:=λj hj=>by
  by_cases Kr:S.J.at'<=j/\(j:Int)<S.J.at'+(fX (12+s.size):Int)
  ·obtain⟨q,hq⟩:=bD (show 0<=(j:Int) -S.J.at' by omega);have:=e5 q (by omega);rw[show(j:Int)=S.J.at'+(q:Int) from by omega,this];obtain⟨m,hm⟩:=bD (show 0<=gL S.D n+1 by omega);rw[hm];have Yq:Sep.eL m (q:Int) (Sep.part (bs (iE (S.J.seq+1) s)) q):=⟨by omega,by omega,by omega,by omega,by
    unfold Sep.part;rw[ByteArray.size_extract];omega⟩
   exact(D5 Yq).mono (by omega)
  ·rw[e6 j (by omega) (by omega) (by omega)];exact(h.ends j hj).mono (by omega)
 have WC:=h.iD;have htu:=h.bB;have agt:=h.seq;refine⟨rfl,⟨e2,sx,h.lo,h.hi,e4.XN,e4.YA,⟨?_,?_⟩,h.js,?_,?_⟩,rfl,rfl,rfl,rfl⟩
 ·show 0<=S.J.seq+1;omega
 ·show S.J.seq+1<=1000000;omega
 ·show(S.iD||_)=false;rw[WC];rfl
 ·show 0<=S.bB/\S.bB<=((g+1:Nat):Int);omega
def K0{n g:Nat}{m:aK}{S:VS}{s:BA}(h:Rm n g S)(eQ:n<=4096)(sm:12<=n)(hg:g+3<256)(uY:fX (cU (bo m)).length<=cQ n)(hlen:(cU (bo m)).length<=425984)(HF:S.J.seq<1000000)(hs:s.size<=32768)(hj:(fX (12+s.size):Int)<=S.J.hi-S.J.lo):
 (u9 n m S s).2=0/\(u9 n m S s).1.J.lo=S.J.lo/\(u9 n m S s).1.J.seq=S.J.seq+1/\
  ((Rm n (g+1) (u9 n m S s).1/\(u9 n m S s).1.J.at'=S.J.at'+(fX (12+s.size):Int))\/
   (Rm n (g+3) (u9 n m S s).1/\(u9 n m S s).1.J.at'=S.J.lo+(fX (12+s.size):Int)/\S.J.hi<S.J.at'+(fX (12+s.size):Int))):=by
 unfold u9;by_cases hr:room S.J s.size
 ·rw[aj hr];obtain⟨a1,a2,a3,a4,a5,a6⟩:=Bt h eQ (by omega) HF hr;exact⟨a1,a4,a5,.inl ⟨a2,a3⟩⟩
 ·rw[ah hr];obtain⟨b1,b2,b3,b4,b5,b6⟩:=Bq h eQ sm (by omega) uY hlen;have IK:(nE n m S).1.J.hi=S.J.hi:=by rw[b2.hi,h.hi]
  have QL:room (nE n m S).1.J s.size:=by
   refine⟨by omega,by omega,?_⟩;rw[aq,IK,b3];exact hj
  obtain⟨a1,a2,a3,a4,a5,a6⟩:=Bt b2 eQ (by omega) (by omega) QL;rw[ah (λhh=>hh b1)];refine⟨a1,by rw[a4,b4],by rw[a5,b5],.inr ⟨a2,by rw[a3,b3],?_⟩⟩;unfold room at hr;rw[aq] at hr;omega
def Dx{q:iA}(hw:iV q=true)(he:fN q=true):(kO q).length<=924:=by
 have T5:q.op=1\/q.op=2\/q.op=3:=bG he;have hf:=lD hw;unfold kO;rw[ak,aJ];split
 ·rw[ak,aJ,c6 ln];omega
 ·split
  ·rw[ak,aJ,c6 mr];omega
  ·split
   ·rw[aJ];omega
   ·omega
def Rm.mono{n g g':Nat}{S:VS}(h:Rm n g S)(hg:g<=g'):Rm n g' S:=
 ⟨h.calm,λj hj=>(h.ends j hj).mono hg,h.lo,h.hi,h.XN,h.YA,h.seq,h.js,h.iD,⟨h.bB.1,by have:=h.bB.2;omega⟩⟩
def SO{k:Nat}(h:k<=936):fX k<=9:=by unfold fX;split<;>omega
def z7{b:aO}(hg:eL b):(cU b).length<=23925:=by
 have:=hg.oK;have:=hg.many;rw[tZ hg];omega
section
variable {W:World} {L R:LH} {K:VK} {X:WK} {a:bp} {t:cj} {q:iA} {s:rY}
end
section
variable {W:World} {L R:LH} {K:VK} {X:WK} {p:Nat} {m:aK} {mb kb:OA} {mc kc:Nat} {a:bp} {t:cj}
end
section
variable {W:World} {L R:LH} {K:VK} {X:WK} {p:Nat} {m:aK} {mb kb:OA} {mc kc:Nat} {a:bp} {t:cj}
end
section
variable {W:World} {L R:LH} {K:VK} {X:WK} {a b:bp} {t u:cj}
end
def Bv(x:Int):IntKind.u64.wrap x=x%18446744073709551616:=by
 unfold IntKind.wrap;simp[IntKind.signed,IntKind.bits]
section
variable {W:World} {L R:LH} {K:VK} {X:WK} {a b:Nat}
end
section
variable {W w2:World} {L R:LH} {K:VK} {r2 r3 r4:Nat} {a:bp} {k:bS} {I1:LV->World->Prop} {pz:LV->World->Nat} {a4:Addr} {qf:OA} {oP qQ:Nat} {n2 n3:Int}
end
section
variable {W w2:World} {L R:LH} {K:VK} {r2 r3 r4 p:Nat} {a:bp} {k:bS} {m:aK} {mb kb:OA} {mc kc:Nat} {I1:LV->World->Prop} {pz:LV->World->Nat} {a4:Addr} {qf:OA} {oP qQ:Nat} {n2 n3:Int}
end
section
variable {W w2:World} {L R:LH} {K:VK} {p:Nat} {a:bp} {t u:cj} {m:aK} {mb kb:OA} {mc kc:Nat}
end
section
variable {W:World} {L R:LH} {K:VK} {X:WK} {p r e:Nat} {A B:HP} {m:aK} {mb kb:OA} {mc kc:Nat}
end
section
variable {W:World} {L R:LH} {K:VK} {X:WK} {p r e:Nat} {a:bp} {m:aK} {mb kb:OA} {mc kc:Nat}
end
section
variable {W:World} {L R:LH} {K:VK} {X:WK} {t u:cj}
end
def JT{m j:Nat}(hj:j<=64):shr .u64 (m:Int) (j:Int)=((m/2^j:Nat):Int):=by
 unfold shr;rw[aq,show min j IntKind.u64.bits=j from Nat.min_eq_left hj,CR _ (by exact Int.le_of_lt (Int.pow_pos (by decide)))];rw[show((2:Int)^j)=((2^j:Nat):Int) by push_cast;rfl];exact(Int.natCast_ediv _ _).symm
def KF(m:Nat):ag.wrap (((m:Nat):Int).tmod (2:Int))=((m%2:Nat):Int):=by
 rw[Int.tmod_eq_emod_of_nonneg (by omega)];rw[aS (by omega)];omega
section
variable {W:World} {L R:LH} {K:VK} {X:WK}
def OC{n j:Nat}(hn:n<bV)(hj:j<128)(h:T W L (K (.i ((n/2^j%2:Nat):Int)))):T W L (lZ (nm n) (j:Int) K):=by
 unfold lZ;unfold nm;apply ws;intros;apply gO<;>intro g1
 ·obtain⟨i,rfl⟩:∃i:Nat,j=64+i:=⟨j-64,by omega⟩;have e1:ag.wrap (((64+i:Nat):Int) -64)=(i:Int):=by rw[aS (by omega)];omega
  have e2:IntKind.u64.wrap (i:Int)=(i:Int):=by rw[Go.Up.Bv];omega
  rw[e1,e2];apply ws;apply dv (by omega);apply dv (by decide);rw[JT (by omega),KF];have e3:n/2^(64+i)=n/18446744073709551616/2^i:=by rw[Nat.div_div_eq_div_mul,Nat.pow_add]
  rw[e3] at h;exact T.dp h
 ·have e2:IntKind.u64.wrap (j:Int)=(j:Int):=by rw[Go.Up.Bv];omega
  rw[e2];apply ws;apply dv (by omega);apply dv (by decide);rw[JT (by omega),KF];have e3:n%18446744073709551616/2^j%2=n/2^j%2:=by
   rw[show(18446744073709551616:Nat)=2^j* 2^(64-j) by rw[<-Nat.pow_add,show j+(64-j)=64 by omega],Nat.mod_mul_right_div_self];exact Nat.mod_mod_of_dvd _ ⟨2^(63-j),by rw[show 64-j=1+(63-j) by omega,Nat.pow_add]⟩
  rw[e3];exact T.dp h
end
section
variable {W:World} {L R:LH} {K:VK} {X:WK}
end
section
variable {W:World} {L R:LH} {K:VK} {X:WK}
end
section
variable {W:World} {L R:LH} {K:VK} {X:WK} {t:cj}
end
section
variable {W:World} {L R:LH} {K:VK} {X:WK}
end
section
variable {W:World} {L R:LH} {K:VK} {X Y:WK} {a:bp} {t:cj} {r1 r2:Nat}
end
section
variable {W:World} {L R:LH} {K:VK} {X Y:WK} {a:bp} {t:cj} {r1 r2:Nat}
end
section
variable {W:World} {L R:LH} {K:VK} {X Y:WK} {a:bp} {t:cj} {r1 r2 r3 r4 r5:Nat}
end
section
variable {W:World} {L R:LH} {K:VK} {X:WK} {p:Nat} {m:aK} {mb kb:OA} {mc kc:Nat} {a:bp} {t:cj}
end
section
variable {W:World} {L R:LH} {K:VK} {X:WK} {p:Nat} {m:aK} {mb kb:OA} {mc kc:Nat} {a d c:bp} {t:cj} {r1 r2 r3 r4 r5:Nat} {n:Nat}
end
section
variable {W:World} {L R:LH} {K:VK} {X:WK} {p:Nat} {m:aK} {mb kb:OA} {mc kc:Nat} {a d c:bp} {t:cj} {r1 r2 r3 r4 r5:Nat} {n:Nat}
end
section
variable {W:World} {L R:LH} {K:VK} {X:WK} {p:Nat} {m:aK} {mb kb:OA} {mc kc:Nat} {a d c:bp} {t u:cj} {r1 r2 r3 r4 r5:Nat} {n i:Nat} {x:bS}
end
section
variable {W:World} {L R:LH} {K:VK} {X:WK} {p:Nat} {m:aK} {mb kb:OA} {mc kc:Nat} {a d c:bp} {t u:cj} {r1 r2 r3 r4 r5:Nat} {n i:Nat} {x:bS}
end
inductive It where
 |a(x:bp)
 |t(x:cj)
section
variable {W:World} {L R:LH} {K:VK} {X:WK} {p:Nat} {m:aK} {mb kb:OA} {mc kc:Nat} {x:It}
end
def X8(x:Int):∀v∈I1 x,v.oneCell'=true:=λv hv=>by simp[I1] at hv;subst hv;rfl
section
variable {W:World} {L R:LH} {K:VK} {X:WK} {p:Nat} {m:aK} {mb kb:OA} {mc kc:Nat} {x:It}
end
section
variable {W:World} {L R:LH} {K:VK} {X:WK} {p:Nat} {m:aK} {mb kb:OA} {mc kc:Nat} {q:iA} {s:rY}
end
def Nh(from_ toX s:Int):Bool:=decide (from_<=s/\(toX=0\/s<=toX))
def Gf{s:Int}:∀{l:List kR},(∀p∈l,s<=p.1)->pos s l=0
 |[],_=>rfl
 |p::l,h=>by unfold pos;rw[ah (by have:=h p mE;omega)]
def vW{toX:Int}(h0: ¬toX=0){l:List kR}(h:∀p∈l,toX<p.1):ta toX l=0:=by
 unfold ta;rw[ah h0,Gf λp hp=>by have:=h p hp;omega];cases l with
 |nil=>rfl
 |cons q l=>
  have:=h q mE;show(if q.1=toX then 0+1 else 0)=0;rw[ah (by omega)]
def Di{toX:Int}(h0: ¬toX=0){p:kR}{l:List kR}(gV:∀q∈l,p.1<q.1):ta toX (p::l)=if p.1<toX+1 then ta toX l+1 else 0:=by
 by_cases h1:p.1<toX
 ·rw[aj (by omega)];unfold ta;rw[ah h0,ah h0,pos,aj h1,aW];cases l[pos toX l]? with
  |none=>rfl
  |some q=>
   dsimp only;split<;>rfl
 ·by_cases h2:p.1=toX
  ·rw[aj (by omega),vW (l:=l) h0 λq hq=>by have:=gV q hq;omega];unfold ta;rw[ah h0,show pos toX (p::l)=0 by rw[pos,ah h1]];show(if p.1=toX then 0+1 else 0)=1;rw[aj h2]
  ·rw[ah (by omega)];exact vW h0 λq hq=>by
    rcases gK.1 hq with hq|hq
    ·subst hq;omega
    ·have:=gV q hq;omega
def wM(from_ toX:Int):∀(l:List kR),pX l->nI from_ toX l=l.filter λp=>Nh from_ toX p.1
 |[],_=>by unfold nI;simp
 |p::l,hr=>by
  have QL:pX l:=(List.pairwise_cons.1 hr).2;have gV:∀q∈l,p.1<q.1:=(List.pairwise_cons.1 hr).1;have ih:=wM from_ toX l QL;unfold nI at ih⊢;by_cases h1:p.1<from_
  ·have e1:pos from_ (p::l)=pos from_ l+1:=by rw[pos,aj h1]
   have e2:Nh from_ toX p.1=false:=ay (by omega);rw[e1,oB (by rw[e2];decide),List.drop_succ_cons,<-ih];by_cases h2:toX=0
   ·unfold ta;rw[aj h2,aj h2];simp only[bw,Nat.add_sub_add_right]
   ·rw[Di h2 gV];by_cases h3:p.1<toX+1
    ·rw[aj h3,Nat.add_sub_add_right]
    ·rw[ah h3,vW h2 λq hq=>by have:=gV q hq;omega];simp
  ·have e1:pos from_ (p::l)=0:=by rw[pos,ah h1]
   have e3:pos from_ l=0:=Gf λq hq=>by have:=gV q hq;omega
   rw[e3,Nat.sub_zero,oC] at ih;rw[e1,Nat.sub_zero,oC];by_cases h2:toX=0
   ·have e2:Nh from_ toX p.1=true:=aA (by omega);unfold ta at ih⊢;rw[aj h2] at ih⊢;rw[oA (p:=λp:kR=>Nh from_ toX p.1) (a:=p) (l:=l) e2,<-ih];simp
   ·rw[Di h2 gV];by_cases h3:p.1<toX+1
    ·have e2:Nh from_ toX p.1=true:=aA (by omega);rw[aj h3,List.take_succ_cons,ih,oA (p:=λp:kR=>Nh from_ toX p.1) (a:=p) (l:=l) e2]
    ·have e2:Nh from_ toX p.1=false:=ay (by omega);rw[vW h2 λq hq=>by have:=gV q hq;omega,qM] at ih;rw[ah h3,qM,oB (by rw[e2];decide),<-ih]
def uP{b:aO}(P:Int->Bool):∀(l:List bS)(i:Nat),(∀j,j<l.length->b.ax[i+j]?=l[j]?)->((dD i l).filter λp=>P p.1).map (uu b)=l.filter λk=>P k.move.aw
 |[],i,_=>rfl
 |k::l,i,h=>by
  have h0:=h 0 (by simp);rw[iL] at h0;have hka:uu b (k.move.aw,(i:Int))=k:=by unfold uu;dsimp only;rw[aq,h0];rfl
  have ih:=uP P l (i+1) λj hj=>by
   have:=h (j+1) (by simpa using hj);rw[aW] at this;rw[<-this];congr 1;omega
  unfold dD;by_cases hp:P k.move.aw=true
  ·rw[oA (by exact hp),oA (by exact hp),fq,hka,ih]
  ·rw[oB (by exact hp),oB (by exact hp),ih]
def XG{b:aO}(hg:eL b)(from_ toX:Int)(ur:Bool):XH b from_ toX ur=(if ur then b.ax.reverse else b.ax).filter λk=>Nh from_ toX k.move.aw:=by
 have h:=wM from_ toX _ hg.vo;have h2:=uP (b:=b) (Nh from_ toX) b.ax 0 λj hj=>by rw[az]
 unfold XH;rw[h];cases ur with
 |true=>
  rw[aj rfl,aj rfl,List.map_reverse,h2,List.filter_reverse]
 |false=>
  rw[ah py,ah py,h2]
def vI{α:Type}{key:α->Nat}:∀(l:List α)(id:Nat),(l.map key).Nodup->(l.filter λx=>decide (key x=id))=(l.find? λx=>decide (key x=id)).toList
 |[],id,_=>rfl
 |x::l,id,hn=>by
  rw[fq,List.nodup_cons] at hn;by_cases h:key x=id
  ·rw[oA (p:=λx=>decide (key x=id)) (a:=x) (l:=l) (aA h),List.find?_cons_of_pos (p:=λx=>decide (key x=id)) (a:=x) (aA h)];have:l.filter (λx=>decide (key x=id))=[]:=by
    rw[List.filter_eq_nil_iff];intro y hy hh;exact hn.1 (by rw[h,<-bG hh];exact List.mem_map_of_mem hy)
   rw[this];rfl
  ·rw[oB (p:=λx=>decide (key x=id)) (a:=x) (l:=l) (by rw[ay h];decide),List.find?_cons_of_neg (p:=λx=>decide (key x=id)) (a:=x) (by rw[ay h];decide),vI l id hn.2]
def rO{α β:Type}(f:α->Option β):∀l:List α,l.filterMap f=l.flatMap λx=>(f x).toList
 |[]=>rfl
 |x::l=>by
  rw[eP,<-rO f l,List.filterMap_cons];cases f x<;>rfl
def findAll{b:aO}(hg:eL b)(ids:List Nat):(ids.flatMap λid=>b.aB.filter λa=>decide (a.id=id))=ids.filterMap b.find:=by
 rw[rO]
 congr 1
 funext id
 exact vI (key:=λa:bp=>a.id) b.aB id hg.ids
def OU{b:aO}(hg:eL b)(ids:List Nat):(ids.flatMap λid=>(b.ax.filter λk=>decide (k.move.id=id)).map (·.move))=ids.filterMap λid=>(b.named id).map (·.move):=by
 rw[rO]
 congr 1
 funext id
 rw[vI (key:=λk:bS=>k.move.id) b.ax id hg.names];show _=((b.ax.find? _).map _).toList;cases b.ax.find? (λx=>decide (x.move.id=id))<;>rfl
def OP(b:aO)(q:iA):List cj:=((((if q.pF then b.ax.reverse else b.ax).filter λk=>Nh q.pG q.FA k.move.aw&&fits q k).take q.oQ.toNat)).map (·.move)
def Gk{b:aO}(hg:eL b)(q:iA):OP b q=Y5 b q:=by
 unfold OP Y5;rw[XG hg,List.filter_filter]
 congr 2
 apply List.filter_congr;intro k _;rw[Bool.and_comm]
section
variable {W:World} {L R:LH} {K:VK} {X:WK} {q:iA} {s:rY}
end
instance{t:cj}:Sub (aX t) 2 2 (nm t.bq):=⟨rfl,(sJ (cs:=aX t) (o:=2) (n:=t.bq) rfl rfl).2⟩
instance{t:cj}:Sub (aX t) 4 2 (nm t.aU):=⟨rfl,(sJ (cs:=aX t) (o:=4) (n:=t.aU) rfl rfl).2⟩
section
variable {W:World} {L R M:LH} {K:VK} {X:WK} {q:iA} {s:rY}
end
section
variable {W:World} {L R M:LH} {K:VK} {X:WK} {q:iA} {s:rY}
def MJ(al:List bp)(kl:List bS)(q:iA):Int×List bp×List cj:=
 if oN q=false then(1,[],[])
 else if q.op=4 then(0,(q.ids.flatMap λid=>al.filter λa=>decide (a.id=id)),[])
 else if q.op=5 then(0,[],q.ids.flatMap λid=>(kl.filter λk=>decide (k.move.id=id)).map (·.move))
 else(0,[],((((if q.pF then kl.reverse else kl).filter λk=>Nh q.pG q.FA k.move.aw&&fits q k).take q.oQ.toNat)).map (·.move))
def S4{m:aK}(hg:eL (bo m))(q:iA):MJ (bo m).aB (bo m).ax q=ask m q:=by
 unfold MJ ask;rw[findAll hg,OU hg,<-Gk hg]
 rfl
end
section
variable {W:World} {L R:LH} {K:VK} {X:WK} {e:Int} {res:List Int} {al:List bp} {tl:List cj} {rb ab tb:OA} {rc ac tc:Nat} {n:Int} {a:bp} {t:cj}
def J6(h:T W L (K (.s (bs (le .i64 1 n))))):T W L (bl 1 n K):=λw hs=>wg hs λw' h'=>h w' h'
def TO(h:T W L (K (.s (bs (le .i64 2 n))))):T W L (bl 2 n K):=λw hs=>wg hs λw' h'=>h w' h'
def TN(h:T W L (K (.s (bs (le .i64 4 n))))):T W L (bl 4 n K):=λw hs=>wg hs λw' h'=>h w' h'
def TM(h:T W L (K (.s (bs (le .i64 8 n))))):T W L (bl 8 n K):=λw hs=>wg hs λw' h'=>h w' h'
def afI(x k:Nat)(hk:k<8):2* (x/2^(k+1)%2^(7-k))+x/2^k%2=x/2^k%2^(8-k):=by
 match k,hk with
 |0,_|1,_|2,_|3,_|4,_|5,_|6,_|7,_=>omega
def BN{m:Nat}(hm:m<bV)(h:T W L (K (.s (bs (nb m))))):T W L (cw (nm m) K):=by
 unfold cw;apply ws;intros;rename_i r1;intro w l7;refine⟨λvv w=>∃i:Nat,i<=16/\vv=[.p (some (ad r1 0)),.s .empty,.s (bs ((nb m).take i)),.i (i:Int)]/\St W w (Sep.pt r1 (nm m)::L),
  mq 3 16,⟨0,aL _,rfl,l7⟩,?_⟩
 rintro a1 s1 s2 n1 w2 ⟨i,hi,e1,gJ⟩;cases e1
 refine T.at ?_ gJ;have e5:=oe i;apply gO<;>intro g1
 ·have bW:i<16:=by omega
  intro w l7;refine⟨λvv w=>∃k:Nat,k<=8/\vv=[.p (some (ad r1 0)),.s .empty,.s (bs ((nb m).take i)),.i (i:Int),.i ((m/256^i/2^k%2^(8-k):Nat):Int),.i ((k:Int) -1)]/\St W w (Sep.pt r1 (nm m)::L),
   λvs _=>match vs with|[_,_,_,_,_,.int _ d]=>(d+1).toNat|_=>0,⟨8,aC _,by simp,l7⟩,?_⟩
  rintro a2 s3 s4 n2 n3 n4 w4 ⟨k,hk,e2,A3⟩;cases e2
  refine T.at ?_ A3;apply gO<;>intro g2
  ·obtain⟨k,rfl⟩:∃j,k=j+1:=⟨k-1,by omega⟩;have e3:ag.wrap (ag.wrap (8* (i:Int))+(((k+1:Nat):Int) -1))=((8* i+k:Nat):Int):=by
    rw[aS (n:=8* (i:Int)) (by omega),aS (by omega)];omega
   have e4:m/2^(8* i+k)=m/256^i/2^k:=by rw[Nat.pow_add,Nat.pow_mul,Nat.div_div_eq_div_mul]
   apply ws;rw[e3];apply OC hm (by omega);apply oU;rw[e4];have hb:=afI (m/256^i) k (by omega);have h6:m/256^i/2^k%2^(8-k)<256:=Nat.lt_of_lt_of_le (Nat.mod_lt _ (Nat.pow_pos (by decide))) (show 2^(8-k)<=2^8 from ja (by decide) (by omega));rw[show 8-(k+1)=7-k by omega];have h7:((k+1:Nat):Int) -1=(k:Int):=by omega
   rw[h7];generalize m/256^i/2^(k+1)%2^(7-k)=y at hb⊢;generalize m/256^i/2^k%2=z at hb⊢;rw[aS (n:=2* (y:Int)) (by omega),aS (n:=2* (y:Int)+(z:Int)) (by omega),aS (n:=(k:Int) -1) (by omega)];refine λw5 h5=>⟨⟨k,by omega,?_,h5⟩,?_⟩
   ·rw[<-hb];rfl
   ·show(((k:Int) -1)+1).toNat<((k:Int)+1).toNat;omega
  ·obtain rfl:k=0:=by omega
   apply dv ⟨rfl,trivial⟩;refine jy λr2=>?_;have h8:m/256^i/2^0%2^(8-0)=m/256^i%256:=by simp
   rw[h8];have e6:Value.int .u8 (IntKind.u8.wrap ((m/256^i%256:Nat):Int))=og (UInt8.ofNat (m/256^i%256)):=by
    have:=td (n:=((m/256^i%256:Nat):Int)) (by omega);rw[aq] at this;rw[this]
    congr 1
    unfold IntKind.wrap;simp[IntKind.signed,IntKind.bits]
   rw[e6];apply N0 (l:=[UInt8.ofNat (m/256^i%256)]);have e7:(nb m)[i]?=some (UInt8.ofNat (m/256^i%256)):=by
    unfold nb;rw[dC,lz bW];rfl
   have e8:bs ((nb m).take i)++bs [UInt8.ofNat (m/256^i%256)]=bs ((nb m).take (i+1)):=by rw[my,bP,e7];rfl
   refine dv (by rw[bn,bn,aG,o0,Hy];omega) ?_;rw[e8,e5];refine T.drop λw5 h5=>⟨⟨i+1,bW,rfl,h5⟩,dn (by omega)⟩
 ·obtain rfl:i=16:=by omega
  have e9:(nb m).take 16=nb m:=bg (by rw[o0];omega);rw[e9];exact T.drop h
def Ir(ha:wD a)(h:T W L (K (.s (bs (gr a))))):T W L (kD (aP a) K):=by
 unfold kD;have:=ha.id;have:=ha.dp;have:=ha.dq;have:=ha.cp;have:=ha.cq
 repeat' first|apply ws;intros|apply wb|first|refine BN (by assumption) ?_|refine TN ?_|refine TO ?_|refine TM ?_|refine dv (by simp only[my,bn,ak,o0,aJ];omega) ?_
 simp only[my];exact T.dp h
def Iq(ht:Bf t)(h:T W L (K (.s (bs (lF t))))):T W L (kC (aX t) K):=by
 unfold kC;have:=ht.id;have:=ht.bq;have:=ht.aU;have:=ht.aZ;have:=ht.pending
 repeat' first|apply ws;intros|apply wb|first|refine BN (by assumption) ?_|refine TN ?_|refine TO ?_|refine TM ?_|refine dv (by simp only[my,bn,ak,o0,aJ];omega) ?_
 simp only[my];exact T.dp h
end
section
variable {W:World} {L R M:LH} {K:VK} {X:WK} {q:iA} {s:rY} {p:Nat} {m:aK} {mb kb:OA} {mc kc:Nat}
end
instance{e:Int}{rb ab tb:OA}{rn rc an ac tn tc:Nat}:Sub (ie e rb rn rc ab an ac tb tn tc) 0 4 (ie e rb rn rc ab an ac tb tn tc):=⟨rfl,λj v h=>by rw[az];exact h⟩
instance{x1 x2 x3 x4:Value}{e:Int}{rb ab tb:OA}{rn rc an ac tn tc:Nat}:Wr [x1,x2,x3,x4] 0 (ie e rb rn rc ab an ac tb tn tc) (ie e rb rn rc ab an ac tb tn tc):=⟨rfl,aC _,λv hv=>by simp[ie] at hv;rcases hv with rfl|rfl|rfl|rfl<;>rfl⟩
section
variable {W:World} {L R M:LH} {K:VK} {X:WK} {q:iA} {s:rY} {p:Nat} {m:aK} {mb kb:OA} {mc kc:Nat}
end
end Go.Up
namespace Go.Sep
open Go.Den Go.RowKit Go.Prog Go.bE
section
variable {W w:World} {L:LH}
end
def P8{D:ba}{i:Nat}{n:Int}{h:fB}(hn:1<=n/\n<=1152921504606846976)(hg:mN h)(hi:(i:Int)=low h.bB)(hr:D.read (i:Int)=(leaf n 0 (bs (j0 h)),0)):CP D i=some h:=by
 have Yq:eL n 0 (bs (j0 h)):=⟨hn.1,hn.2,by decide,by decide,by rw[bn,qY];decide⟩;unfold CP;rw[hr];dsimp only;rw[tz Yq,ui Yq];dsimp only;rw[ah (by simp),show(bs (j0 h)).data.toList=j0 h from rfl,GM hg];dsimp only;rw[ah (λhh=>hh hi.symm)]
def Hm{D:ba}{i:Nat}(hr:oY (D.read (i:Int)).1.data.toList=none):CP D i=none:=by
 unfold CP;rw[hr]
def Lt{D:ba}{i:Nat}(h:i<D.safe.length):(D.read (i:Int)).2=0:=by
 unfold ba.read;rw[aj ⟨by omega,by omega⟩]
section
variable {W w:World} {L:LH}
end
def tQ(a:fB×fB)(h:fB):fB×fB:=if low h.bB=0 then(h,a.2) else(a.1,h)
def wR(h:fB):∀v∈bm h,v.oneCell'=true:=by simp[bm,Value.oneCell']
section
variable {W w:World} {L:LH} {k:Nat}
end
end Go.Sep
namespace Go.Up
open Go.Sep Go.Den Go.RowKit Go.Prog Go.Md Go.bE
def CG(n:Nat)(D:ba)(hd:fB)(mb:aK):Prop:=
 (hd=Bi/\mb=uV/\CP D 0=none/\CP D 1=none)\/
 (mN hd/\(∃(a:Nat)(k:Int),(a:Int)=low hd.bB/\1<=k/\k<=1152921504606846976/\(D.read (a:Int)).1=leaf k 0 (bs (j0 hd))/\(∀p,CP D (1-a)=some p->p.bB<hd.bB))/\
  hd.size=((cU (bo mb)).length:Int)/\fX (cU (bo mb)).length<=cQ n/\∀q:Nat,q<fX (cU (bo mb)).length->(D.read ((fV n hd.bB+q:Nat):Int)).1=leaf hd.number q (Sep.part (bs (cU (bo mb))) q))
def CG.base{n:Nat}{D:ba}{hd:fB}{mb:aK}(h:CG n D hd mb)(hlen:D.safe.length=n)(sm:12<=n)(eQ:n<=4096):Ya D n hd mb:=by
 rcases h with⟨h1,h2,h3,h4⟩|⟨hg,⟨a,k,ha,hk1,wI,hr,hp⟩,hs,hc,hq⟩
 ·left
  rw[h3,h4];exact⟨rfl,h1,h2⟩
 ·right
  have L5:=EN hd.bB;have eA:CP D a=some hd:=P8 (n:=k) ⟨hk1,wI⟩ hg ha (by
   have:=Lt (D:=D) (i:=a) (by omega)
   rw[<-hr,<-this])
  constructor
  ·by_cases ha0:a=0
   ·subst ha0;rw[eA];cases hb:CP D 1 with
    |none=>rfl
    |some p=>
     have:=hp p hb;show(if hd.bB<p.bB then some p else some hd)=some hd;rw[ah (by omega)]
   ·have:a=1:=by omega
    subst this;rw[eA];cases hb:CP D 0 with
    |none=>rfl
    |some p=>
     have:=hp p hb;show(if p.bB<hd.bB then some hd else some p)=some hd;rw[aj this]
  ·have:=Sk (n:=n) (D:=D) (which:=hd.bB) (number:=hd.number) (s:=bs (cU (bo mb))) hlen sm eQ ⟨hg.2.2.1,hg.2.2.2.1⟩ (by rw[bn];exact hc) (λq hqq=>by
    rw[show(((fV n hd.bB:Nat):Int)+(q:Int))=((fV n hd.bB+q:Nat):Int) from by omega]
    exact hq q hqq)
   rw[bn,<-hs] at this;exact this
structure VG(n:Nat)(D:ba)(J:PJ)(hd:fB)(mb:aK)(qs:List iA)(g:Nat):Prop where
 jg:JG n D J hd.seq (qs.map kO) g
 cg:CG n D hd mb
 lo:J.lo=((2+2* cQ n:Nat):Int)
 hi:J.hi=(n:Int)
 iD:J.iD=false
 good:eL (bo mb)
 ground:Md.cR mb
 F9:∀q∈qs,Vf q
 acI:J.seq<=g
 bB:0<=hd.bB/\hd.bB<=g
def Qh{n:Nat}(sm:12<=n)(eQ:n<=4096):VG n (ba.new n) ⟨((2+2* cQ n:Nat):Int),n,((2+2* cQ n:Nat):Int),0,false⟩ Bi uV [] 0:=by
 have hb:2+2* cQ n<n:=by unfold cQ;omega
 have hz:∀i:Nat,i<n->oY ((ba.new n).read (i:Int)).1.data.toList=none:=λi hi=>by
  rw[yB eQ hi];exact vr
 exact⟨X7 eQ (by omega) (by omega) (by omega) 0 (by omega),.inl ⟨rfl,rfl,Hm (hz 0 (by omega)),Hm (hz 1 (by omega))⟩,rfl,rfl,rfl,GP,xl,λq hq=>(by cases hq),u0 _,⟨u0 _,u0 _⟩⟩
structure VW(n:Nat)(S:VS)(m:aK)(g:Nat):Prop where
 iD:S.iD=false
 is:∃hd mb qs,VG n S.D S.J hd mb qs g/\ym mb qs=m/\S.bB=hd.bB
def VW.len{n:Nat}{S:VS}{m:aK}{g:Nat}(h:VW n S m g):S.D.safe.length=n:=by
 obtain⟨h1,hd,mb,qs,h2,h3,h4⟩:=h;exact h2.jg.len
def yP{m:aK}{q:iA}(hw:iV q=true)(he:fN q=true):(cC m q).1=0:=by
 have h2:na q=true:=by
  have T5:q.op=1\/q.op=2\/q.op=3:=bG he;have ha:oN q=false:=by
   unfold oN;rw[ah (by omega),ah (by omega)]
  unfold iV at hw;rw[ha,Bool.or_false,cY] at hw;exact hw.1
 unfold cC;rw[ah (by rw[h2];decide)];split
 ·rfl
 ·split<;>rfl
structure Stp where
 kind:Int
 q:iA
 s:rY
 adb:Int
 acd:Int
 cut:Int
 n:Int
section
variable {x1 x2 x3 x4 x5 x6 x7 x8 x9 Bn Bm Bl Bk Ej HM HL Tw Tv:Value} {x:Stp}
end
def St.nil{W w:World}{L:LH}(h:St W w L):St W w []:=by
 induction L with
 |nil=>exact h
 |cons A L ih=>exact ih h.drop
instance(priority:=low) Has.nil{L:LH}:Has [] L:=⟨λh=>St.nil h⟩
section
variable {W:World} {L R M:LH} {K:VK} {X:WK} {q:iA} {s:rY} {p v d n pb pj:Nat} {m m2:aK} {mb kb:OA} {mc kc:Nat} {S:VS} {D:ba} {J:PJ} {hd:fB} {qs:List iA} {g:Nat} {f:ba->LH}
def ND(G:nX W)(sm:12<=n)(eQ:n<=4096)(hv:VG n D J hd m qs g)(hg:g<256)
 (h:∀v pb pj,Md.cR (ym m qs)->T W (VL v d n pb pj (ym m qs) ⟨D,J,hd.bB,false⟩ R) (K (.tuple ⟨[.p (ai v),.i 0]⟩))):
 T W (ft d D::R) (lO (ai d) K):=by
 have ho:=hv.jg.opened;have IJ:=hv.lo;have IK:=hv.hi;rw[IJ,IK] at ho;have WD:=hv.acI;have hq0:=hv.jg.q0;have hjs:=hv.jg.seq;refine Q0 G hv.jg.ok sm eQ hv.jg.len (hv.cg.base hv.jg.len sm eQ) hv.good hv.ground ⟨hq0,by omega⟩ (qs:=qs) (by rw[ho]) hv.F9 λv pb pj EU=>?_;rw[ho];have e:(⟨((2+2* cQ n:Nat):Int),(n:Int),J.at',J.seq,false⟩:PJ)=J:=by
  cases J with
  |mk lo hi at' seq iD=>
   have h1:=hv.iD;dsimp only at IJ IK h1;subst IJ IK h1
   rfl
 dsimp only;rw[e];exact h v pb pj EU
end
def Ap(n:Nat)(m:aK)(S:VS)(q:iA):VS×aK×Int×List Int×List bp×List cj:=
 if fN q=true then((Dg n m S q).1,(Dg n m S q).2.1,(Dg n m S q).2.2.1,(Dg n m S q).2.2.2,[],[])
 else(S,m,(ask m q).1,[],(ask m q).2.1,(ask m q).2.2)
def SY{m:aK}{q:iA}(hg:eL (bo m))(hi:q.ids.length<=16\/oN q=false\/q.op=6):(ask m q).2.1.length<=10000/\(ask m q).2.2.length<=10000:=by
 unfold ask;split
 ·simp
 ·rename_i hZ;have h16:q.op=4\/q.op=5->q.ids.length<=16:=λho=>by
   have Fz:oN q=true:=by simpa using hZ
   unfold oN at Fz;rw[aj ho,cY,decide_eq_true_eq,decide_eq_true_eq] at Fz;exact Fz.2
  split
  ·rename_i h4;have:=h16 (.inl h4);have h2:=List.length_filterMap_le (bo m).find q.ids;dsimp only;exact⟨by omega,by simp⟩
  ·split
   ·rename_i h5;have:=h16 (.inr h5);have h2:=List.length_filterMap_le (λid=>((bo m).named id).map (·.move)) q.ids;dsimp only;exact⟨by simp,by omega⟩
   ·rw[<-Gk hg];dsimp only;refine⟨by simp,?_⟩;unfold OP;rw[cu,aG];have h3:((if q.pF=true then(bo m).ax.reverse else(bo m).ax).filter λk=>Nh q.pG q.FA k.move.aw&&fits q k).length<=(if q.pF=true then(bo m).ax.reverse else(bo m).ax).length:=List.length_filter_le _ _;have h4:(if q.pF=true then(bo m).ax.reverse else(bo m).ax).length=(bo m).ax.length:=by split<;>simp
    have:=hg.many;omega
section
variable {W:World} {L R M:LH} {K:VK} {X:WK} {q:iA} {s:rY} {p p2 v d n pb pj:Nat} {m m2 m3:aK} {mb kb mb' kb':OA} {mc kc mc' kc':Nat} {S S2:VS} {D:ba} {J:PJ} {g:Nat}
def Gq(n:Nat):VS:=⟨ba.new n,⟨((2+2* cQ n:Nat):Int),n,((2+2* cQ n:Nat):Int),0,false⟩,0,false⟩
def Qn{n:Nat}(sm:12<=n)(eQ:n<=4096):Rm n 0 (Gq n):=by
 have hb:2+2* cQ n<=n:=by unfold cQ;omega
 refine⟨Ct eQ,λj hj=>?_,rfl,rfl,u0 _,by show((2+2* cQ n:Nat):Int)<=(n:Int);omega,⟨u0 _,by show(0:Int)<=1000000;decide⟩,rfl,rfl,⟨u0 _,u0 _⟩⟩;show Sep.Ends 0 ((ba.new n).read (j:Int)).1;rw[yB eQ hj];exact Cl
def XW{n:Nat}(sm:12<=n)(eQ:n<=4096):VW n (Gq n) uV 0:=
 ⟨rfl,Bi,uV,[],Qh sm eQ,rfl,rfl⟩
end
def yh{α σ:Type}(f:σ->α->Int×σ)(lk:α->Bool):∀(n:Nat)(s:σ)(l:List α),(iQ f lk n s l).1.length<=l.length
 |0,s,l=>aL _
 |n+1,s,[]=>aL _
 |n+1,s,x::l=>by
  have hle:=rR (linked:=lk) (x::l);have hd:((x::l).drop (bQ lk (x::l)).1).length=(x::l).length-(bQ lk (x::l)).1:=aV;rw[iQ];by_cases hw:(bQ lk (x::l)).2=false
  ·rw[aj hw];dsimp only;rw[ki];exact hle
  rw[ah hw];cases fR f s ((x::l).take (bQ lk (x::l)).1) 0 with
  |mk o s'=>
   cases o with
   |none=>
    have:=yh f lk n s' ((x::l).drop (bQ lk (x::l)).1);dsimp only;rw[ak,ki];omega
   |some e=>
    have:=yh f lk n s ((x::l).drop (bQ lk (x::l)).1);dsimp only;rw[ak,ki];omega
def IW(m:aK)(q:iA):(cC m q).2.1.length<=q.aB.length+q.cx.length:=by
 unfold cC;split
 ·exact aL _
 ·split
  ·have:=yh aK.make xz q.aB.length m q.aB;dsimp only;omega
  ·split
   ·have:=yh aK.qC y7 q.cx.length m q.cx;dsimp only;omega
   ·exact aL _
section
variable {W:World} {L R M:LH} {K:VK} {X:WK} {q:iA} {s:rY} {p p2 v d n pb pj:Nat} {m m2 m3:aK} {mb kb mb' kb':OA} {mc kc mc' kc':Nat} {S S2:VS} {D:ba} {J:PJ} {g:Nat}
end
section
variable {W:World} {L R M:LH} {K:VK} {X:WK} {q:iA} {s:rY} {p p2 v d n pb pj:Nat} {m m2 m3:aK} {mb kb mb' kb':OA} {mc kc mc' kc':Nat} {S S2:VS} {D:ba} {J:PJ} {g:Nat}
end
section
variable {n g g':Nat} {S:VS} {m mf:aK} {q:iA}
end
section
variable {W:World} {L R R0 R' M:LH} {K:VK} {X:WK} {q:iA} {s:rY} {p p2 v d n pb pj:Nat} {m m2 m3:aK} {mb kb mb' kb':OA} {mc kc mc' kc':Nat} {S S2:VS} {D:ba} {J:PJ} {g:Nat} {f:ba->LH}
end
section
variable {W:World} {L R R0 R' M:LH} {K:VK} {X:WK} {q:iA} {s:rY} {p p2 v d n pb pj:Nat} {m m2 m3 mf:aK} {mb kb mb' kb':OA} {mc kc mc' kc':Nat} {S S2:VS} {D:ba} {J:PJ} {g:Nat} {f:ba->LH}
class Ex(L:LH)(i:Nat)(x:outParam HP)(L':outParam (LH)):Prop where
 is:L.Perm (x::L')
instance{L:LH}{x:HP}:Ex (x::L) 0 x L:=⟨.refl _⟩
instance{L L':LH}{x y:HP}{i:Nat}[h:Ex L i x L']:Ex (y::L) (i+1) x (y::L'):=⟨(h.is.cons y).trans (.swap ..)⟩
class Pl(L:LH)(is:List Nat)(M:outParam (LH)):Prop where
 is:L.Perm M
instance{L:LH}:Pl L [] L:=⟨.refl _⟩
instance{L L' M:LH}{i:Nat}{is:List Nat}{x:HP}[h:Ex L i x L'][g:Pl L' is M]:Pl L (i::is) (x::M):=⟨h.is.trans (g.is.cons x)⟩
def T.pl(is:List Nat)[h:Pl L is M](g:T W M X):T W L X:=T.perm g h.is
set_option maxHeartbeats 1000000 in
end
section
variable {n g:Nat} {S:VS} {m mf:aK} {q:iA}
end
def St.sps{W w:World}:∀{M L:LH},St W w (uU M::L)->St W w (M++L)
 |[],L,h=>h.drop
 |A::M,L,h=>(St.sps (h.split.perm (.swap ..))).perm fD
def St.JB{W w:World}:∀{M L:LH},St W w (M++L)->St W w (uU M::L)
 |[],L,h=>h.push trivial
 |A::M,L,h=>((St.JB (M:=M) (h.perm fD.symm)).perm (.swap ..)).join
section
variable {W:World} {L M:LH} {X:WK} {α:Type} {f:α->HP} {A:HP} {p:Prop}
def T.sps(h:T W (M++L) X):T W (uU M::L) X:=λw hs=>h w (St.sps hs)
def T.JB(h:T W (uU M::L) X):T W (M++L) X:=λw hs=>h w (St.JB hs)
def T.ex(h:∀x,T W (f x::L) X):T W (Py f::L) X:=λw hs=>let⟨x,hx⟩:=hs.ex;h x w hx
def T.adg(x:α)(h:T W (Py f::L) X):T W (f x::L) X:=λw hs=>h w (.nT x hs)
def T.foc{P:α->HP}{x:α}{g:α->LH}[i:Lc P L x g](h:∀M,(∀y N Y,T W (N++g y) Y->T W (P y::(N++M)) Y)->T W (P x::M) X):T W L X:=λw hs=>by
 obtain⟨k,hk,e⟩:=i.at_;refine h (L.eraseIdx k) (λy N Y hy w' h'=>hy w' ?_) w (hs.focus hk);rw[e];exact h'.perm (fD.symm.trans ((set_perm hk).append_left N))
end
structure SZ where
 d:Nat
 v:Nat
 pb:Nat
 pj:Nat
def JP(d v:Nat):LV:=[.p (ai d),.p (ai v)]
instance{d v:Nat}:Gt (JP d v) 1 (.p (ai v)):=⟨rfl⟩
def HB(n s:Nat)(x:VS×aK):HP:=Py λz:SZ=>uU (VL z.v z.d n z.pb z.pj x.2 x.1 [Sep.pt s (JP z.d z.v)])
def TE(n:Nat)(m:aK)(S:VS)(l:List UInt8):VS×aK×List UInt8:=
 if 16384<l.length then(S,m,uh 3 [] [] []) else if pN l=true then((Ap n m S (iX l).1).1,(Ap n m S (iX l).1).2.1,uh (Ap n m S (iX l).1).2.2.1 (Ap n m S (iX l).1).2.2.2.1 (Ap n m S (iX l).1).2.2.2.2.1 (Ap n m S (iX l).1).2.2.2.2.2)
 else(S,m,uh 4 [] [] [])
section
variable {W:World} {L R M:LH} {K:VK} {X:WK} {q:iA} {n s d v pb pj:Nat} {m m0:aK} {S:VS} {g:VS×aK->LH} {l:List UInt8}
def NQ(h:T W (HB n s (S,m)::M) X):T W (VL v d n pb pj m S (Sep.pt s (JP d v)::M)) X:=
 T.JB (M:=VL v d n pb pj m S [Sep.pt s (JP d v)]) (T.adg (f:=λz:SZ=>uU (VL z.v z.d n z.pb z.pj m S [Sep.pt s (JP z.d z.v)])) ⟨d,v,pb,pj⟩ h)
def NR[i:Lc (HB n s) L (S,m) g](h:∀d v pb pj M,(∀d' v' Y2 Y1 S' m' N Y,T W (N++g (S',m')) Y->T W (N++(VL v' d' n Y2 Y1 m' S' (Sep.pt s (JP d' v')::M))) Y)->T W (VL v d n pb pj m S (Sep.pt s (JP d v)::M)) X):T W L X:=
 T.foc (P:=HB n s) λM hM=>T.ex λz=>T.sps (M:=VL z.v z.d n z.pb z.pj m S [Sep.pt s (JP z.d z.v)]) (h z.d z.v z.pb z.pj M λd' v' Y2 Y1 S' m' N Y hy=>by
  apply T.perm (L:=VL v' d' n Y2 Y1 m' S' [Sep.pt s (JP d' v')]++(N++M)) (NQ (hM (S',m') N Y hy))
  show(N++(VL v' d' n Y2 Y1 m' S' [Sep.pt s (JP d' v')]++M)).Perm (VL v' d' n Y2 Y1 m' S' [Sep.pt s (JP d' v')]++(N++M))
  rw[<-aI,<-aI]
  exact bC.append_right M)
def JZ[i:Lc (HB n s) L (S,m) g](h:eL (bo m)->T W L X):T W L X:=by
 refine NR (n:=n) (s:=s) λd v pb pj M hM=>?_;refine nG (p:=pb) (b:=bo m) (hs:=[]) λm9=>?_;refine hM d v pb pj S m [] _ ?_;rw[dm,i.same];exact h m9
def vn[i:Lc (HB n s) L (S,m) g](h:∀p,T W (bX p (bo m,[])::L) (K (.p (ai p)))):T W L (kq (ai s) K):=by
 refine NR (n:=n) (s:=s) λd v pb pj M hM=>?_;unfold kq;apply ws;refine NH λp=>?_;apply ws;refine hM d v pb pj S m [_] _ ?_;rw[i.same];exact h p
def Oq(G:nX W)(sm:12<=n)(eQ:n<=4096)(h:∀s,T W (HB n s (Gq n,uV)::L) (K (.tuple ⟨[.p (ai s),.i 0]⟩))):T W L (nq (n:Int) K):=by
 unfold nq;refine V' λd=>?_;apply vd;refine ND G (n:=n) sm eQ (Qh sm eQ) (by decide) λv pb pj EU=>?_;show T W (VL v d n pb pj uV (Gq n) L) _;apply ws;apply cW (by decide);apply Eg (d:=d);apply oU;have e:((Gq n).D.safe.length:Int)=(n:Int):=by rw[(XW sm eQ).len]
 rw[e];unfold nq.j1;apply cW (by simp);apply ws;intros;rename_i r1;refine T.pl [1,1,1,1] ?_;exact NQ (h r1)
def Lw{α:Type}{b:OA}{c e:Nat}{g:α->LV}{xs:List α}{f:HP->LH}[i:xF b xs.length c L e (xs.flatMap g) f](hg:∀x,(g x).length=e):kF W L g e b xs:=λw hw i' x hx=>by
 obtain⟨k,hk,_⟩:=i.at_;obtain⟨hl,h0|⟨r,sp,hb,sh,AJ,hs⟩⟩:=hw.k8 hk
 ·have:=(ar.1 hx).1;omega
 ·refine⟨⟨r,0,none⟩,hb,?_⟩;subst hb;rw[dh,az];exact wC hw hk (pd hg xs i' x hx)
def SA(hg:eL (bo m))(hw:iV q=true)(Fx:q.aB.length<=255)(bW:q.cx.length<=255):(Ap n m S q).2.2.2.1.length<1000000/\(Ap n m S q).2.2.2.2.1.length<1000000/\(Ap n m S q).2.2.2.2.2.length<1000000:=by
 unfold Ap;split
 ·refine⟨?_,by show 0<1000000;decide,by show 0<1000000;decide⟩;have h0:iV q=true:=hw;have hf:=lD hw;have:=IW m q;unfold Dg;split
  ·show 0<1000000;decide
  split
  ·show 0<1000000;decide
  split
  ·show 0<1000000;decide
  ·show(cC m q).2.1.length<1000000;omega
 ·have hi:q.ids.length<=16\/oN q=false\/q.op=6:=by
   rename_i he;rcases lD hw with h|h|h|h|h
   ·exact aR (aA (.inl h.1)) he
   ·exact aR (aA (.inr (.inl h.1))) he
   ·exact aR (aA (.inr (.inr h.1))) he
   ·exact .inl h.2
   ·exact .inr (.inr h.1)
  obtain⟨h1,h2⟩:=SY hg hi;exact⟨by show 0<1000000;decide,by show(ask m q).2.1.length<_;omega,by show(ask m q).2.2.length<_;omega⟩
def Vy{sl:rY}(G:nX W)(hg:Md.cR m)(hS:Nq S)(Xa:Nq (nE n m S).1)(sm:12<=n)(eQ:n<=4096)(hq:qE W R q sl)(hA:∀a∈q.aB,wD a)(hT:∀t∈q.cx,Bf t)(Fx:q.aB.length<1000000)(bW:q.cx.length<1000000)
 (h:∀rb rc ab ac tb tc,Md.cR (Ap n m S q).2.1->T W (own rb (Ap n m S q).2.2.2.1.length rc 1 ((Ap n m S q).2.2.2.1.flatMap I1)::own ab (Ap n m S q).2.2.2.2.1.length ac 14 ((Ap n m S q).2.2.2.2.1.flatMap aP)::own tb (Ap n m S q).2.2.2.2.2.length tc 16 ((Ap n m S q).2.2.2.2.2.flatMap aX)::VL v d n pb pj (Ap n m S q).2.1 (Ap n m S q).1 R)
  (K (.agg ⟨ie (Ap n m S q).2.2.1 rb (Ap n m S q).2.2.2.1.length rc ab (Ap n m S q).2.2.2.2.1.length ac tb (Ap n m S q).2.2.2.2.2.length tc⟩))):
 T W (VL v d n pb pj m S R) (jE (ai v) (ff q sl) K):=by
 unfold Ap at h;cases he:fN q with
 |true=>
  rw[aj he] at h;refine Vx G hg hS Xa sm eQ hq hA hT Fx bW he λrb rc EU=>?_;refine jr (e:=14) ?_;refine jr (e:=16) ?_;exact T.pl [2,1,0] (h rb rc none 0 none 0 EU)
 |false=>
  rw[ah (by rw[he];decide)] at h;refine Vz hq he λab ac tb tc=>?_;refine jr (e:=1) ?_;exact h none 0 ab ac tb tc hg
def YW(G:nX W)[i:Lc (HB n s) L (S,m) g](hg:Md.cR m)(hS:Nq S)(Xa:eL (bo m)->Nq (nE n m S).1)(sm:12<=n)(eQ:n<=4096)(hl:l.length<1099511627776)
 (h:Md.cR (TE n m S l).2.1->eL (bo m)->T W (g ((TE n m S l).1,(TE n m S l).2.1)) (K (.s (bs (TE n m S l).2.2)))):T W L (oV (ai s) (bs l) K):=by
 refine NR (n:=n) (s:=s) λd v pb pj M hM=>?_;unfold oV;refine nG (p:=pb) (b:=bo m) (hs:=[]) λm9=>?_;unfold TE at h;have same:∀l',T W (g (S,m)) (K (.s (bs l')))->T W (VL v d n pb pj m S (Sep.pt s (JP d v)::M)) (K (.s (bs l'))):=λl' h=>hM d v pb pj S m [] _ h;apply ws;apply gO<;>intro g1
 ·rw[bn] at g1;rw[aj (by omega)] at h;apply ws;refine Nx (xQ ?_);exact same _ (h hg m9)
 rw[bn] at g1;rw[ah (by omega)] at h;refine Jy hl (λhr=>?_) (λhr A sl hq=>?_)
 ·rw[ah (by rw[hr];decide)] at h;apply ws;intros;apply hG (by decide);apply ws;refine Nx (xQ ?_);exact T.drop (same _ (h hg m9))
 ·rw[aj hr] at h;obtain⟨o1,o2,o3,o4⟩:=Oz l;apply ws;intros;rename_i r1;refine cW (by decide) ?_;apply ws;refine T.pl [2,2,2,2] ?_;have Fx:(iX l).1.aB.length<1000000:=by omega
  have bW:(iX l).1.cx.length<1000000:=by omega
  have hqR:qE W (Sep.pt r1 (ff (iX l).1 sl)::A::Sep.pt s (JP d v)::M) (iX l).1 sl:=qE.two hq;have len:=SA (n:=n) (S:=S) m9 (vx hr) o3 o4;clear o3 o4;generalize (iX l).1=q at o1 o2 Fx bW hqR len h⊢;refine Vy G hg hS (Xa m9) sm eQ hqR o1 o2 Fx bW λrb rc ab ac tb tc ZO=>?_;generalize Ap n m S q=Z at len ZO h⊢;apply FQ (by rfl);refine FH (hh:=Has.refl) (Lw (λ_=>rfl)) (Lw (λ_=>rfl)) (Lw (λ_=>rfl)) len.1 len.2.1 len.2.2 ?_;apply xQ;refine T.sub (M:=VL v d n pb pj Z.2.1 Z.1 (Sep.pt s (JP d v)::M)) (hM d v pb pj Z.1 Z.2.1 [] _ (h ZO m9)) (by exact sg)
end
structure TS where
 kind:Int
 b:List UInt8
 adb:Int
 acd:Int
 cut:Int
 n:Int
section
variable {x:TS} {S S':VS} {m mf m' mf':aK} {g n:Nat} {q:iA} {P:aK->Prop}
end
def V6(m:aK)(q:iA):List UInt8:=if fN q=true then uh (cC m q).1 (cC m q).2.1 [] [] else uh (MJ (m.eS.map m.full) m.ax q).1 [] (MJ (m.eS.map m.full) m.ax q).2.1 (MJ (m.eS.map m.full) m.ax q).2.2
def V7(m:aK)(q:iA):aK:=if fN q=true then(cC m q).2.2 else m
def FN(m:aK)(l:List UInt8):List UInt8:=if pN l=true then V6 m (iX l).1 else uh 4 [] [] []
def Em(m:aK)(l:List UInt8):aK:=if pN l=true then V7 m (iX l).1 else m
def El(l:List UInt8):Bool:=pN l&&fN (iX l).1
section
variable {W:World} {L R M:LH} {K:VK} {X:WK} {q:iA} {s:rY} {p:Nat} {m:aK} {mb kb:OA} {mc kc:Nat} {l:List UInt8}
end
section
variable {W:World} {L R M:LH} {K:VK} {X:WK} {q:iA} {s:rY} {p:Nat} {m:aK} {mb kb:OA} {mc kc:Nat} {l:List UInt8}
end
section
variable {s p pf p':Nat}
end
structure WZ where
 s:Nat
 p:Nat
 pf:Nat
 mb:OA
 mc:Nat
 kb:OA
 kc:Nat
structure WX where
 S:VS
 ms:aK
 m:aK
 mf:aK
section
variable {W:World} {L R M:LH} {K:VK} {X:WK} {w:Nat} {x:WX} {f:WX->LH}
end
section
variable {x:TS} {x1 x2 x3 x4 x5 x6:Value}
end
section
variable {W:World} {L R R' M:LH} {K:VK} {X:WK} {w:Nat} {x:WX} {f:WX->LH} {p p3 pf:Nat} {m m3 mf:aK} {mb mb3 kb kb3:OA} {mc mc3 kc kc3:Nat} {R3:LH} {A B C:HP}
end
def tf(a b:List UInt8):me (bs a) (bs b)=decide (a=b):=by
 rw[q9,decide_eq_decide];exact zP
def K1{m:aK}{l:List UInt8}(h:El l=true):Em m l=(cC m (iX l).1).2.2:=by
 unfold El at h;rw[cY] at h;unfold Em V7;rw[aj h.1,aj h.2]
section
variable {W:World} {L R R' M:LH} {K:VK} {X:WK} {w:Nat} {f:WX->LH} {p p3 pf:Nat} {m m3 mf:aK} {mb mb3 kb kb3:OA} {mc mc3 kc kc3:Nat} {R3:LH} {A B C:HP} {S:VS} {ms mfs:aK} {g:Nat} {x:TS}
set_option maxHeartbeats 1000000 in
end
section
variable {W:World} {L R M:LH} {K:VK} {X:WK} {w:Nat} {x:WX} {f:WX->LH} {m:aK} {q:iA}
end
section
variable {W:World} {L R M:LH} {K:VK} {X:WK} {w:Nat} {x:WX} {f:WX->LH} {m:aK} {q:iA} {sb:OA} {sc:Nat} {l:List TS}
end
section
variable {W:World} {L R M rest E:LH} {K:VK} {X:WK} {w:Nat} {x:WX} {f:WX->LH} {m:aK} {q:iA} {z:WZ}
end
end Go.Up
namespace Go.Prog.N
abbrev iC:Nat:=64
end Go.Prog.N
namespace Go.Prog
open Go.Den
def iC(p1:OA)(K:VK):WK:=
aF p1 1 (xI .i64 λn1=>
K (.i n1))
def iC.u:WP|[.pointer p1],K=>iC p1 K|_,_=>no
def kj(p1:OA)(v1:Value)(K:VK):WK:=
aF p1 1 (xI .i64 λn1=>
(lp [.l none 0 0,.l none 0 0,.i n1,.i 0] λI1 pz=>
∀sL qG tq mg jJ mP n2 n3 w2,I1 [.l sL qG tq,.l mg jJ mP,.i n2,.i n3] w2->(
br (decide (n3<n2)) (
bK p1 (xB λb1=>
br b1 (
K (.l mg jJ mP)) (
tL [(N.aF,aF.u),(N.bK,bK.u),(N.iC,iC.u)] v1 [.p p1] (xI .i64 λn4=>
aY (1=1/\True) (mk [.i n4] λr1=>
jO 1 8 [.i 0] mg jJ mP (ai r1) 1 λqf oP qQ=>
(ct I1 pz [.l sL qG tq,.l qf oP qQ,.i n2,.i (ag.wrap (n3+1))] [.l sL qG tq,.l mg jJ mP,.i n2,.i n3] w2)))))) (
K (.l mg jJ mP))) w2))
def mR(s1:BA)(K:VK):WK:=
mk CS λr1=>
kY s1 (xP λp1=>
aF p1 1 (xI .i64 λn1=>
kj p1 (.func (.func N.iC) ⟨[]⟩ ⟨[]⟩) (xL λsL qG tq=>
im p1 (.func (.func N.kE) ⟨[]⟩ ⟨[]⟩) (xL λmg jJ mP=>
gM p1 (.func (.func N.jD) ⟨[]⟩ ⟨[]⟩) (xL λqf oP qQ=>
aY (1=1/\(1=1/\(1=1/\(1=1/\True)))) (
mk CS λr2=>
aY (4=4) (fH (ad r2 0) [.i n1,.l sL qG tq,.l mg jJ mP,.l qf oP qQ] (
gZ p1 (xB λb1=>
br (!b1) (
aY True (
aY (4=4) (fH (ad r1 0) CS (
aD (ad r1 0) 4 λpA=>
K (.tuple ⟨[.agg ⟨pA⟩,.i 4]⟩))))) (
aD (ad r2 0) 4 λuE=>
mm uE (xB λb2=>
br (!b2) (
aY True (
aY (4=4) (fH (ad r1 0) CS (
aD (ad r1 0) 4 λsR=>
K (.tuple ⟨[.agg ⟨sR⟩,.i 4]⟩))))) (
aD (ad r2 0) 4 λqL=>
aT 4 (ad r1 0) qL (
aD (ad r1 0) 4 λs7=>
K (.tuple ⟨[.agg ⟨s7⟩,.i 0]⟩))))))))))))))
end Go.Prog
namespace Go.Up
open Go.Sep Go.Den Go.RowKit Go.Prog Go.Md Go.bE
section
variable {W:World} {L R:LH} {K:VK} {X:WK} {r:Nat} {x:RS} {g:RS->LH} {l:List UInt8}
def RP[i:Lc (rd r) L x g](hl:x.1.length<1099511627776)
 (h:∀b c,T W (own b (many (dw 1) (gH 1) (gH 1 x).toNat (dw 1 x)).1.length c 1 ((many (dw 1) (gH 1) (gH 1 x).toNat (dw 1 x)).1.flatMap I1)::g (many (dw 1) (gH 1) (gH 1 x).toNat (dw 1 x)).2) (K (.l b (many (dw 1) (gH 1) (gH 1 x).toNat (dw 1 x)).1.length c))):
 T W L (kj (ai r) (.func (.func N.iC) ⟨[]⟩ ⟨[]⟩) K):=by
 unfold kj;apply pr hl;apply oU;have hn:=i.next;have hb:=LD x;obtain⟨n,en⟩:∃n:Nat,gH 1 x=(n:Int):=⟨(gH 1 x).toNat,by omega⟩;rw[en,aq] at h;rw[en];refine jr (e:=1) ?_;intro w l7;refine⟨λvv w=>∃(i:Nat)(bo:OA)(cc:Nat)(done:List Int)(y:RS),i<=n/\done.length<=i/\y.1.length<1099511627776/\many (dw 1) (gH 1) n (dw 1 x)=(done++(many (dw 1) (gH 1) (n-i) y).1,(many (dw 1) (gH 1) (n-i) y).2)/\
                                                                                                                               vv=[.l none 0 0,.l bo done.length cc,.i (n:Int),.i (i:Int)]/\St W w (own bo done.length cc 1 (done.flatMap I1)::g y),
  mq 3 n,⟨0,none,0,[],dw 1 x,aL _,aC _,lX hl,by simp,rfl,l7⟩,?_⟩
 rintro sL qG tq bo jJ cc n2 n3 w2 ⟨i,b0,c0,done,y,hi,Ku,hy,hm,e,gJ⟩;cases e
 refine T.at ?_ gJ;have e5:=oe i
 haveI:=hn y
 apply gO<;>intro g1
 ·have bW:i<n:=by omega
  obtain⟨k,hk⟩:∃k,n-i=k+1:=⟨n-i-1,by omega⟩;rw[hk] at hm;apply uJ (r:=r);apply mO;cases ht:y.2 with
  |true=>
   apply ws;rw[mu,aj ht] at hm;simp only[bN] at hm;have:=h bo cc;rw[hm] at this;exact this
  |false=>
   apply ws;rw[mu,ah (by rw[ht];decide)] at hm;show T W _ (iC (ai r) _);unfold iC;apply pr (r:=r) hy;apply ws;intros;refine mU (b:=bo) (g:=I1) (x:=gH 1 y) rfl rfl rfl (by omega) (by omega) (X8 _) λb2 c2=>?_;rw[e5];apply T.drop;refine λw3 h3=>⟨⟨i+1,b2,c2,done++[gH 1 y],(dw 1) y,bW,by simp;omega,ni (qi 1 y) hy,?_,by simp,by simpa using h3⟩,dn (by omega)⟩;rw[hm,show n-(i+1)=k by omega];simp
 ·have kP:i=n:=by omega
  subst kP;rw[sH] at hm;rw[wm,bN] at hm;have:=h bo cc;rw[hm] at this;exact this
def Ab{e:Int}{res:List Int}{al:List bp}{tl:List cj}(hl:l.length<1099511627776)(iw:yn l=true)(hp:vw l=(e,res,al,tl,([],false)))(l1:res.length<=255)(l2:al.length<=255)(l3:tl.length<=255)
 (h:∀rb rc ab ac tb tc,T W (own tb tl.length tc 16 (tl.flatMap aX)::own ab al.length ac 14 (al.flatMap aP)::own rb res.length rc 1 (res.flatMap I1)::L) (K (.tuple ⟨[.agg ⟨ie e rb res.length rc ab al.length ac tb tl.length tc⟩,.i 0]⟩))):T W L (mR (bs l) K):=by
 have uY:oX e res al tl=true:=by
  unfold yn at iw;rw[hp] at iw;exact(cY _ _▸iw).2
 unfold vw at hp;dsimp only at hp;obtain⟨p1,p2⟩:=Prod.mk.inj hp;obtain⟨p2,p3⟩:=Prod.mk.inj p2;obtain⟨p3,p4⟩:=Prod.mk.inj p3;obtain⟨p4,p5⟩:=Prod.mk.inj p4;have T0:=lX (m:=1) (x:=(l,false)) hl;unfold mR;refine jy λr1=>?_;refine HY λp=>?_;apply vd;refine pr hl (oU ?_);rw[p1];have b1:(many (dw 1) (gH 1) (gH 1 (dw 1 (l,false))).toNat (dw 1 (dw 1 (l,false)))).2.1.length<1099511627776:=ni (xi (qi 1) _ _) (lX T0);refine RP T0 λrb rc=>?_;rw[p2];generalize (many (dw 1) (gH 1) (gH 1 (dw 1 (l,false))).toNat (dw 1 (dw 1 (l,false)))).2=y at p3 p4 p5 b1⊢;apply wE;have b2:(many AF AH (gH 1 y).toNat (dw 1 y)).2.1.length<1099511627776:=ni (xi J8 _ _) (lX b1);refine Kc b1 λab ac=>?_;rw[p3];generalize (many AF AH (gH 1 y).toNat (dw 1 y)).2=z at p4 p5 b2⊢;apply wE;refine Kb b2 λtb tc=>?_;rw[p4,p5];apply ws;intros;rename_i r2;apply Jq (r:=p);apply ws;apply cW rfl;apply ws;refine JA (hh:=Has.refl) (Lw (λ_=>rfl)) (Lw (λ_=>rfl)) (Lw (λ_=>rfl)) (by omega) (by omega) (by omega) ?_;rw[uY];apply ws;exact T.sub (h rb rc ab ac tb tc) (by exact sg)
def Lu(e:Int)(res:List Int)(al:List bp)(tl:List cj):Int×List Int×List bp×List cj:=if oX e res al tl=true then(e,res,al,tl) else(3,[],[],[])
def Im{e:Int}{res:List Int}{al:List bp}{tl:List cj}(hA:∀a∈al,wD a)(hT:∀t∈tl,Bf t)
 (h:∀rb rc ab ac tb tc,T W (own tb (Lu e res al tl).2.2.2.length tc 16 ((Lu e res al tl).2.2.2.flatMap aX)::own ab (Lu e res al tl).2.2.1.length ac 14 ((Lu e res al tl).2.2.1.flatMap aP)::own rb (Lu e res al tl).2.1.length rc 1 ((Lu e res al tl).2.1.flatMap I1)::L) (K (.tuple ⟨[.agg ⟨ie (Lu e res al tl).1 rb (Lu e res al tl).2.1.length rc ab (Lu e res al tl).2.2.1.length ac tb (Lu e res al tl).2.2.2.length tc⟩,.i 0]⟩))):T W L (mR (bs (uh e res al tl)) K):=by
 obtain⟨h1,h2⟩:=ED (e:=e) (res:=res) hA hT;have hlen:=Ox (e:=e) (res:=res) (al:=al) (tl:=tl);unfold Lu at h;by_cases hf:oX e res al tl=true
 ·rw[aj hf] at h h2;obtain⟨_,_,_,_,f5,f6,f7⟩:=yi hf;exact Ab (by omega) h1 h2 (by omega) (by omega) (by omega) h
 ·rw[ah hf] at h h2;exact Ab (by omega) h1 h2 (by decide) (by decide) (by decide) h
end
def afP(n:Nat)(m:aK)(S:VS):Prop:=∀q,iV q=true->fN q=true->(Dg n m S q).2=((cC m q).2.2,(cC m q).1,(cC m q).2.1)
def Ia(n:Nat)(m:aK)(S:VS)(l:List UInt8):VS:=if El l=true then(Dg n m S (iX l).1).1 else S
section
variable {n k g:Nat} {m:aK} {S:VS} {l:List UInt8}
def Oi(hl:l.length<=16384)(hd:afP n m S)(m9:eL (bo m))(EU:Md.cR m):TE n m S l=(Ia n m S l,Em m l,FN m l):=by
 unfold TE Ia Em FN El;rw[ah (by omega)];cases hr:pN l with
 |false=>rfl
 |true=>
  have hw:=vx hr;rw[aj rfl,aj rfl,aj rfl,dX];generalize (iX l).1=q at hw⊢;unfold Ap V7 V6;cases he:fN q with
  |false=>
   have adE:MJ (m.eS.map m.full) m.ax q=ask m q:=by
    rw[<-S4 m9];have:m.eS.map m.full=(bo m).aB:=od λa ha=>EU.full ha;rw[this];rfl
   rw[adE]
   rfl
  |true=>
   rw[hd q hw he]
   rfl
end
section
variable {W:World} {L R M:LH} {K:VK} {X:WK} {q:iA} {s:rY}
def Gd(h1:q.op=1)(hl:q.aB.length<=255)(hA:∀a∈q.aB,wD a)(hr:kF W L aP 14 s.sa q.aB)(h:T W L (K (.s (bs (kO q))))):T W L (fh (ff q s) K):=by
 unfold fh;unfold kO at h;rw[h1,aj rfl] at h
 repeat' first|apply ws;intros|apply wb|refine J6 ?_
 rename_i r1;rw[h1];apply hG (by decide);apply ws;refine J6 (xQ ?_);refine dv (by rw[bn,bn,aJ,aJ];decide) ?_;rw[my];apply ws;have Kp:kF W (Sep.pt r1 (ff q s)::L) aP 14 s.sa q.aB:=hr.mono;rw[<-aI] at h;generalize Sep.pt r1 (ff q s)=A at Kp⊢;generalize q.aB=al at hl hA Kp h⊢;generalize hP:le .i64 1 1++le .i64 1 (al.length:Int)=P at h⊢;have hPl:P.length=2:=by rw[<-hP,ak,aJ,aJ]
 intro w l7;refine⟨λvv w=>∃i:Nat,i<=al.length/\vv=[.s .empty,.s (bs (P++(al.take i).flatMap gr)),.l s.sa al.length s.ca,.i (al.length:Int),.i (i:Int)]/\St W w (A::L),
  mq 4 al.length,⟨0,aL _,by simp,l7⟩,?_⟩
 rintro s3 s4 xx wF xY n2 n3 w2 ⟨i,hi,e1,gJ⟩;cases e1
 refine T.at ?_ gJ;have e5:=oe i;have Cc:(P++(al.take i).flatMap gr).length<=100000:=by
  rw[ak,c6 ln,aG];omega
 apply gO<;>intro g1
 ·have bW:i<al.length:=by omega
  have gx:=ao bW;have gm:=hA _ (bT bW);generalize al[i]=x at gx gm;refine iu (hh:=Has.refl) Kp ⟨by omega,by omega⟩ rfl λa ha=>?_;rw[aq];apply je (hh:=Has.refl) Kp ha gx rfl
  repeat' first|apply ws;intros|apply wb|refine Ir gm ?_
  refine dv (by rw[bn,bn,ln];omega) ?_;rw[e5,my];refine T.drop λw3 h3=>⟨⟨i+1,bW,?_,h3⟩,dn (by omega)⟩;rw[bP,gx,fC];simp[aI]
 have kP:i=al.length:=by omega
 subst kP;rw[bF];exact T.drop h
def Gb(h1:q.op=2)(hl:q.cx.length<=255)(hA:∀a∈q.cx,Bf a)(hr:kF W L aX 16 s.st q.cx)(h:T W L (K (.s (bs (kO q))))):T W L (fh (ff q s) K):=by
 unfold fh;unfold kO at h;rw[h1,ah (by decide),aj rfl] at h
 repeat' first|apply ws;intros|apply wb|refine J6 ?_
 rename_i r1;rw[h1];apply cW (by decide);apply hG (by decide);apply ws;refine J6 (xQ ?_);refine dv (by rw[bn,bn,aJ,aJ];decide) ?_;rw[my];apply ws;have Kp:kF W (Sep.pt r1 (ff q s)::L) aX 16 s.st q.cx:=hr.mono;rw[<-aI] at h;generalize Sep.pt r1 (ff q s)=A at Kp⊢;generalize q.cx=al at hl hA Kp h⊢;generalize hP:le .i64 1 2++le .i64 1 (al.length:Int)=P at h⊢;have hPl:P.length=2:=by rw[<-hP,ak,aJ,aJ]
 intro w l7;refine⟨λvv w=>∃i:Nat,i<=al.length/\vv=[.s .empty,.s (bs (P++(al.take i).flatMap lF)),.l s.st al.length s.ct,.i (al.length:Int),.i (i:Int)]/\St W w (A::L),
  mq 4 al.length,⟨0,aL _,by simp,l7⟩,?_⟩
 rintro s3 s4 xx wF xY n2 n3 w2 ⟨i,hi,e1,gJ⟩;cases e1
 refine T.at ?_ gJ;have e5:=oe i;have Cc:(P++(al.take i).flatMap lF).length<=100000:=by
  rw[ak,c6 mr,aG];omega
 apply gO<;>intro g1
 ·have bW:i<al.length:=by omega
  have gx:=ao bW;have gm:=hA _ (bT bW);generalize al[i]=x at gx gm;refine iu (hh:=Has.refl) Kp ⟨by omega,by omega⟩ rfl λa ha=>?_;rw[aq];apply je (hh:=Has.refl) Kp ha gx rfl
  repeat' first|apply ws;intros|apply wb|refine Iq gm ?_
  refine dv (by rw[bn,bn,mr];omega) ?_;rw[e5,my];refine T.drop λw3 h3=>⟨⟨i+1,bW,?_,h3⟩,dn (by omega)⟩;rw[bP,gx,fC];simp[aI]
 have kP:i=al.length:=by omega
 subst kP;rw[bF];exact T.drop h
end
section
variable {n g:Nat} {m:aK} {S:VS} {l:List UInt8} {q:iA}
def Dq(hg:eL (bo m)){a k:Nat}(ha:m.eS.length<=a)(hk:m.ax.length<=k):(cU (bo m)).length<=21+96* a+217* k:=by
 have h1:(bo m).aB.length=m.eS.length:=cu _;have h2:(bo m).ax.length=m.ax.length:=rfl;rw[tZ hg,h1,h2];omega
def rmN(h:Rm n g S)(hn:12<=n/\n<=4096)(HF:S.J.seq<1000000)(hg:g+3<256)(uY:fX (cU (bo m)).length<=cQ n)(hlen:(cU (bo m)).length<=425984)(hj:9<=S.J.hi-S.J.lo)(hw:iV q=true)(he:fN q=true):
 Rm n (g+3) (Dg n m S q).1/\(Dg n m S q).2=((cC m q).2.2,(cC m q).1,(cC m q).2.1)/\(Dg n m S q).1.J.seq=S.J.seq+1:=by
 have hrl:=Dx hw he;have hc:=SO (k:=12+(bs (kO q)).size) (by rw[bn];omega);obtain⟨a1,a2,a3,a4⟩:=K0 (m:=m) (s:=bs (kO q)) h hn.2 hn.1 hg uY hlen HF (by rw[bn];omega) (by omega);unfold Dg;rw[ah (by rw[hw];decide),ah (by rw[h.iD];decide),ah (λhh=>hh a1)];generalize u9 n m S (bs (kO q))=A at a3 a4⊢;generalize cC m q=B;dsimp only;refine⟨?_,rfl,a3⟩;rcases a4 with⟨b1,_⟩|⟨b1,_⟩
 ·exact b1.mono (by omega)
 ·exact b1
def acJ(h:Rm n g S)(hn:12<=n/\n<=4096)(HF:S.J.seq<1000000)(hg:g+3<256)(m9:eL (bo m))(EU:Md.cR m)(uY:fX (cU (bo m)).length<=cQ n)(hj:9<=S.J.hi-S.J.lo)(hl:l.length<=16384):
 TE n m S l=(Ia n m S l,Em m l,FN m l)/\Rm n (g+3) (Ia n m S l)/\(Ia n m S l).J.seq<=S.J.seq+1:=by
 have hlen:(cU (bo m)).length<=425984:=by have:=z7 m9;omega
 refine⟨Oi hl (λq hw he=>(rmN h hn HF hg uY hlen hj hw he).2.1) m9 EU,?_⟩;unfold Ia;by_cases ht:El l=true
 ·rw[aj ht];have Nk:=ht;unfold El at Nk;rw[cY] at Nk;obtain⟨a,b,c⟩:=rmN h hn HF hg uY hlen hj (vx Nk.1) Nk.2;exact⟨a,by omega⟩
 ·rw[ah ht];exact⟨h.mono (by omega),by omega⟩
def V3(h:Rm n g S)(hn:12<=n/\n<=4096)(hg:g+2<256)(uY:fX (cU (bo m)).length<=cQ n)(m9:eL (bo m)):Nq S/\Nq (nE n m S).1:=by
 have hlen:(cU (bo m)).length<=425984:=by have:=z7 m9;omega
 obtain⟨_,b2,_⟩:=Bq (m:=m) h hn.2 hn.1 hg uY hlen;exact⟨h.ok hn.2 (by omega),b2.ok hn.2 (by omega)⟩
end
def Rt{q:iA}(hw:iV q=true)(he:fN q=true)(hA:∀a∈q.aB,wD a)(hT:∀t∈q.cx,Bf t):pN (kO q)=true/\(iX (kO q)).1=canon q:=
 ⟨Ac hw he hA hT,by rw[zj hw he hA hT]⟩
def nJ(c:UInt8):Bool:=decide (65<=c.toNat/\c.toNat<=90)||decide (48<=c.toNat/\c.toNat<=57)||decide (c.toNat=45)
def o5(s:List UInt8)(LR:Nat):Bool:=decide (s≠[])&&decide (s.length<=LR)&&s.all nJ
def vJ(s:List UInt8)(n:Nat):List UInt8:=s++aM (n-s.length) 0
def wG(good site:List UInt8):List UInt8:=vJ good 10++vJ site 4
def sO(good site:List UInt8)(st:Nat):List UInt8:=wG good site++[UInt8.ofNat st]++[1]
def cE(good site:List UInt8)(st:Nat):Nat:=C5 (sO good site st)
def cO(good site:List UInt8):Bool:=o5 good 10&&o5 site 4
section
variable {s t good site BD:List UInt8} {n st:Nat}
def D3(h:s.length<=n):(vJ s n).length=n:=by
 unfold vJ;rw[ak,gi];omega
def nu(h:o5 s n=true):s≠[]/\s.length<=n/\∀c∈s,nJ c=true:=by
 unfold o5 at h;simp only[cY,decide_eq_true_eq,kh] at h;exact⟨h.1.1,h.1.2,h.2⟩
def JS{c:UInt8}(h:nJ c=true):c≠0:=by
 rintro rfl;exact aR h (by decide)
def Mh(h1:∀c∈s,c≠0)(h2:∀c∈t,c≠0)(l1:s.length<=n)(l2:t.length<=n)(h:vJ s n=vJ t n):s=t:=by
 unfold vJ at h;have key:∀(a b:List UInt8)(i j:Nat),(∀c∈a,c≠0)->(∀c∈b,c≠0)->a++aM i 0=b++aM j 0->a=b:=by
  intro a
  induction a with
  |nil=>
   intro b i j _ hb e;cases b with
   |nil=>rfl
   |cons y b=>
    exfalso;cases i with
    |zero=>simp at e
    |succ i=>
     rw[dm,List.replicate_succ,fE] at e;exact hb y (mE ..) (List.cons.inj e).1.symm
  |cons x a ih=>
   intro b i j ha hb e;cases b with
   |nil=>
    exfalso;cases j with
    |zero=>simp at e
    |succ j=>
     rw[dm,List.replicate_succ,fE] at e;exact ha x (mE ..) (List.cons.inj e).1
   |cons y b=>
    rw[fE,fE] at e;obtain⟨e1,e2⟩:=List.cons.inj e;rw[e1,ih b i j (λc hc=>ha c (qN _ hc)) (λc hc=>hb c (qN _ hc)) e2]
 exact key s t _ _ h1 h2 h
def tB(h1:good.length<=10)(h2:site.length<=4):(wG good site).length=14:=by
 unfold wG;rw[ak,D3 h1,D3 h2]
def BP(h1:good.length<=10)(h2:site.length<=4):(sO good site st).length=16:=by
 unfold sO;rw[ak,ak,tB h1 h2];rfl
def zq(h1:good.length<=10)(h2:site.length<=4)(h3:st<=2):cE good site st=ka (wG good site)+st* 256^14+256^15/\ka (wG good site)<256^14:=by
 have hl:=tB h1 h2;have hb:=BP (st:=st) h1 h2;have hv:=pZ (wG good site);rw[hl] at hv;refine⟨?_,hv⟩;unfold cE C5;rw[ah (by omega),bg (by omega)];unfold sO;rw[mT,mT,ak,hl];have e:(UInt8.ofNat st).toNat=st:=UInt8.toNat_ofNat_of_lt' (by show st<256;omega);rw[e];show ka (wG good site)+st* 256^14+1* 256^(14+1)=_;omega
def key_inj(hg:∀c∈good,nJ c=true)(h1:o5 site 4=true)(h2:o5 BD 4=true)(hgl:good.length<=10)(h:ka (wG good site)=ka (wG good BD)):site=BD:=by
 obtain⟨_,a2,a3⟩:=nu h1;obtain⟨_,b2,b3⟩:=nu h2;have e:=Dh _ _ (by rw[tB hgl a2,tB hgl b2]) h;unfold wG at e;exact Mh (λc hc=>JS (a3 c hc)) (λc hc=>JS (b3 c hc)) a2 b2 (List.append_cancel_left e)
def yr{st':Nat}(h1:cO good site=true)(h2:cO good BD=true)(h3:st<=2)(h4:st'<=2)(hZ: ¬(site=BD/\st=st')):cE good site st≠cE good BD st':=by
 unfold cO at h1 h2;rw[cY] at h1 h2;obtain⟨_,g2,g3⟩:=nu h1.1;obtain⟨_,a2,_⟩:=nu h1.2;obtain⟨_,b2,_⟩:=nu h2.2;obtain⟨e1,e2⟩:=zq g2 a2 h3;obtain⟨f1,f2⟩:=zq g2 b2 h4;intro e;rw[e1,f1] at e;have uy:st=st':=by omega
 have hk:ka (wG good site)=ka (wG good BD):=by subst uy;omega
 exact hZ ⟨key_inj g3 h1.2 h2.2 g2 hk,uy⟩
def yq(h1:cO good site=true)(h3:st<=2):0<cE good site st/\cE good site st<bV-1:=by
 unfold cO at h1;rw[cY] at h1;obtain⟨_,g2,g3⟩:=nu h1.1;obtain⟨_,a2,_⟩:=nu h1.2;obtain⟨e1,e2⟩:=zq g2 a2 h3;rw[e1];unfold bV;omega
end
def l6(good site:List UInt8)(st:Nat)(fl:Int):bp:=⟨cE good site st,0,0,0,0,7,1,fl,0⟩
def BB(good site:List UInt8):iA:={q0 with op:=1,aB:=[l6 good site 0 1,l6 good site 1 5,l6 good site 2 0]}
def O0(good site:List UInt8)(k:Int):List bp:=[⟨cE good site 0,0,0,0,0,7,1,0,k+1⟩,⟨cE good site 1,0,0,0,0,7,1,4,k+2⟩,⟨cE good site 2,0,0,0,0,7,1,0,k+3⟩]
section
variable {m:aK} {good site:List UInt8}
def tj:iV (BB good site)=true/\fN (BB good site)=true:=⟨rfl,rfl⟩
def AU{st:Nat}{fl:Int}(h:cO good site=true)(hs:st<=2)(hf:fl=0\/fl=1\/fl=5):tJ (l6 good site st fl)=0:=by
 obtain⟨a,b⟩:=yq (st:=st) h hs;unfold tJ l6;dsimp only;rw[ah (by omega),ah (by omega),ah (by omega)];rcases hf with rfl|rfl|rfl<;>rfl
def B2{a:bp}(h1:tJ a=0)(h2:m.find a.id=none)(h3:m.eS.length<=31):m.make a=(0,{m with aw:=m.aw+1,eS:=m.eS++[{a with aw:=m.aw+1,au:=a.au/2* 2}]}):=by
 unfold aK.make;rw[ah (by rw[h1];decide),h2];dsimp only;rw[ah (by omega)]
def O4{a x:bp}(h1:tJ a=0)(h2:m.find a.id=some x):m.make a=(ow a x,m):=by
 unfold aK.make;rw[ah (by rw[h1];decide),h2]
def zG{m:aK}{x:bp}{s:Int}{id:Nat}(h:m.find id=none)(hx:x.id≠id):({m with aw:=s,eS:=m.eS++[x]}:aK).find id=none:=by
 unfold aK.find at h⊢;show List.find? _ (m.eS++[x])=none;rw[List.find?_append,h];simp[hx]
def N5:(cC m (BB good site))=(0,iQ aK.make xz 3 m [l6 good site 0 1,l6 good site 1 5,l6 good site 2 0]):=by
 unfold cC;rw[ah (show ¬na (BB good site)=false by show ¬(true=false);decide),aj (show(BB good site).op=1 from rfl)]
 rfl
def F0:bQ xz [l6 good site 0 1,l6 good site 1 5,l6 good site 2 0]=(3,true):=rfl
def Gj(h:cO good site=true)(hf:∀st,st<=2->m.find (cE good site st)=none)(hl:m.eS.length<=29):
 cC m (BB good site)=(0,[0,0,0],{m with aw:=m.aw+3,eS:=m.eS++O0 good site m.aw}):=by
 have n01:=yr (st:=0) (st':=1) h h (by decide) (by decide) (λhh=>aR hh.2 (by decide));have n02:=yr (st:=0) (st':=2) h h (by decide) (by decide) (λhh=>aR hh.2 (by decide));have RI:=yr (st:=1) (st':=2) h h (by decide) (by decide) (λhh=>aR hh.2 (by decide));have f0:=hf 0 (by decide);have f1:=hf 1 (by decide);have f2:=hf 2 (by decide);have c0:=AU (fl:=1) h (st:=0) (by decide) (by decide);have c1:=AU (fl:=5) h (st:=1) (by decide) (by decide);have c2:=AU (fl:=0) h (st:=2) (by decide) (by decide);rw[N5,wc (by simp),F0,ah (by decide)];have m0:=B2 (m:=m) (a:=l6 good site 0 1) c0 f0 (by omega);obtain⟨x0,hx0⟩:∃x:bp,x={l6 good site 0 1 with aw:=m.aw+1,au:=(l6 good site 0 1).au/2* 2}:=⟨_,rfl⟩;rw[<-hx0] at m0;have g1:=zG (s:=m.aw+1) (x:=x0) f1 (by rw[hx0];exact n01);have g2:=zG (s:=m.aw+1) (x:=x0) f2 (by rw[hx0];exact n02);obtain⟨m1,DP⟩:∃m1:aK,m1={m with aw:=m.aw+1,eS:=m.eS++[x0]}:=⟨_,rfl⟩;rw[<-DP] at m0 g1 g2;have l1:m1.eS.length<=30:=by rw[DP];show(m.eS++[x0]).length<=30;rw[ak];simp;omega
 have m1':=B2 (m:=m1) (a:=l6 good site 1 5) c1 g1 (by omega);obtain⟨x1,T0⟩:∃x:bp,x={l6 good site 1 5 with aw:=m1.aw+1,au:=(l6 good site 1 5).au/2* 2}:=⟨_,rfl⟩;rw[<-T0] at m1';have k2:=zG (s:=m1.aw+1) (x:=x1) g2 (by rw[T0];exact RI);obtain⟨m2,L4⟩:∃m2:aK,m2={m1 with aw:=m1.aw+1,eS:=m1.eS++[x1]}:=⟨_,rfl⟩;rw[<-L4] at m1' k2;have l2:m2.eS.length<=31:=by rw[L4];show(m1.eS++[x1]).length<=31;rw[ak];simp;omega
 have m2':=B2 (m:=m2) (a:=l6 good site 2 0) c2 k2 l2;have hd:fR aK.make m (List.take (3,true).fst [l6 good site 0 1,l6 good site 1 5,l6 good site 2 0]) 0=(none,{m2 with aw:=m2.aw+1,eS:=m2.eS++[{l6 good site 2 0 with aw:=m2.aw+1,au:=(l6 good site 2 0).au/2* 2}]}):=by
  show fR aK.make m [l6 good site 0 1,l6 good site 1 5,l6 good site 2 0] 0=_;unfold fR;rw[m0,ah (λhh=>hh rfl)];unfold fR;rw[m1',ah (λhh=>hh rfl)];unfold fR;rw[m2',ah (λhh=>hh rfl)]
  rfl
 rw[hd];dsimp only;have e1:m2.aw=m.aw+1+1:=by rw[L4,DP]
 have e2:m2.eS=m.eS++[x0]++[x1]:=by rw[L4,DP]
 have e3:m2.ax=m.ax/\m2.clock=m.clock:=by rw[L4,DP];exact⟨rfl,rfl⟩
 have e4:m1.aw=m.aw+1:=by rw[DP]
 have e5:m.eS++[x0]++[x1]++[{l6 good site 2 0 with aw:=m.aw+1+1+1,au:=(l6 good site 2 0).au/2* 2}]=m.eS++O0 good site m.aw:=by
  rw[aI,aI,T0,hx0,e4,show m.aw+1+1+1=m.aw+3 by omega,show m.aw+1+1=m.aw+2 by omega]
  rfl
 rw[e1,e2,e5,e3.1,e3.2,show m.aw+1+1+1=m.aw+3 by omega]
 rfl
def OM(h:cO good site=true){x:bp}(hf:m.find (cE good site 0)=some x):∃c,cC m (BB good site)=(0,[c,1,1],m)/\c≠0:=by
 have c0:=AU (fl:=1) h (st:=0) (by decide) (by decide);have m0:=O4 (m:=m) (a:=l6 good site 0 1) c0 hf;have hZ:ow (l6 good site 0 1) x≠0:=by unfold ow;split<;>decide
 refine⟨ow (l6 good site 0 1) x,?_,hZ⟩;rw[N5,wc (by simp),F0,ah (by decide)];have hd:fR aK.make m (List.take (3,true).fst [l6 good site 0 1,l6 good site 1 5,l6 good site 2 0]) 0=(some (0,ow (l6 good site 0 1) x),m):=by
  show fR aK.make m [l6 good site 0 1,l6 good site 1 5,l6 good site 2 0] 0=_;unfold fR;rw[m0,aj hZ]
 rw[hd]
 rfl
end
def qV(l:List UInt8):LV:=(mD 256).map λc=>.b (l.any λx=>x.toNat==c)
def qq(l:List UInt8):(qV l).length=256:=by simp[qV]
def Og:qV []=aM 256 (.b false):=by
 unfold qV;rw[List.eq_replicate_iff];refine⟨by simp,λv hv=>?_⟩;obtain⟨c,_,rfl⟩:=dK.1 hv
 rfl
def JU(l:List UInt8)(c:UInt8):(qV l)[c.toNat]?=some (.b (l.contains c)):=by
 unfold qV;rw[dC,lz c.toNat_lt,dN]
 congr 2
 rw[List.contains_eq_any_beq]
 congr 1
 funext x
 by_cases h:x=c
 ·subst h;simp
 ·have h1:x.toNat≠c.toNat:=λe=>h (UInt8.toNat_inj.1 e);have h2:(c==x)=false:=by simp;exact λe=>h e.symm
  rw[h2];simpa using h1
def Of(l:List UInt8)(c:UInt8):(qV l).set c.toNat (.b true)=qV (l++[c]):=by
 apply jq;intro i;by_cases hi:i=c.toNat
 ·subst hi;rw[List.getElem?_set_self (by rw[qq];exact c.toNat_lt)];rw[JU];simp
 ·rw[List.getElem?_set_ne (Ne.symm hi)];by_cases bW:i<256
  ·unfold qV;rw[dC,dC,lz bW,dN,dN,List.any_append]
   congr 2
   have:(c.toNat==i)=false:=by simp;omega
   simp[this]
  ·rw[gj (by rw[qq];omega),gj (by rw[qq];omega)]
def ue:List UInt8:=[65,66,67,68,69,70,71,72,73,74,75,76,77,78,79,80,81,82,83,84,85,86,87,88,89,90,48,49,50,51,52,53,54,55,56,57,45]
def Oe(c:UInt8):ue.contains c=nJ c:=by
 have key:∀n:Fin 256,ue.contains (UInt8.ofNat n.val)=nJ (UInt8.ofNat n.val):=by decide+kernel
 have:=key ⟨c.toNat,c.toNat_lt⟩;rwa[show UInt8.ofNat (⟨c.toNat,c.toNat_lt⟩:Fin 256).val=c from UInt8.ofNat_toNat] at this
def Lb(l:List UInt8):(l.all λc=>ue.contains c)=l.all nJ:=by
 congr 1;funext c;exact Oe c
def JD{m:aK}{q:iA}(hw:iV q=true)(he:fN q=true)(hA:∀a∈q.aB,wD a)(hT:∀t∈q.cx,Bf t)(hc:canon q=q):
 El (kO q)=true/\Em m (kO q)=(cC m q).2.2/\FN m (kO q)=uh 0 (cC m q).2.1 [] []:=by
 obtain⟨r1,r2⟩:=Rt hw he hA hT;rw[hc] at r2;have ht:El (kO q)=true:=by unfold El;rw[r1,r2,he];rfl
 refine⟨ht,by rw[K1 ht,r2],?_⟩;unfold FN V6;rw[aj r1,r2,aj he,yP hw he]
def N6{good site:List UInt8}(h:cO good site=true):∀a∈(BB good site).aB,wD a:=λa ha=>by
 have key:∀st fl,st<=2->oc fl->wD (l6 good site st fl):=λst fl hs hf=>by
  have:=yq h hs;have z:(0:Nat)<bV:=by decide
  have i0:oc 0:=by unfold oc;omega
  have i1:oc 1:=by unfold oc;omega
  have i7:oc 7:=by unfold oc;omega
  exact⟨by show cE good site st<bV;omega,z,z,z,z,i7,i1,hf,i0⟩
 have ha:a=l6 good site 0 1\/a=l6 good site 1 5\/a=l6 good site 2 0:=by
  have:a∈[l6 good site 0 1,l6 good site 1 5,l6 good site 2 0]:=ha;simpa using this
 rcases ha with rfl|rfl|rfl
 ·exact key 0 1 (by decide) (by unfold oc;omega)
 ·exact key 1 5 (by decide) (by unfold oc;omega)
 ·exact key 2 0 (by decide) (by unfold oc;omega)
def JO{m:aK}{good site:List UInt8}(h:cO good site=true):Em m (kO (BB good site))=(cC m (BB good site)).2.2/\FN m (kO (BB good site))=uh 0 (cC m (BB good site)).2.1 [] []:=
 (JD tj.1 tj.2 (N6 h) (λt ht=>by cases ht) rfl).2
def TL(id:Nat)(good site:List UInt8)(n:Nat):cj:=⟨id,cE good site 1,cE good site 0,n,0,0,7,1,0,0,0⟩
def Ng(t:cj):iA:={q0 with op:=2,cx:=[t]}
def yC{t:cj}(h:jR t):iV (Ng t)=true/\fN (Ng t)=true:=by
 refine⟨?_,rfl⟩;show((true||oN (Ng t))&&(List.all [t] λt=>decide (jR t)))=true;simp[h]
def RK{m:aK}{t:cj}(h:jR t)(h2:Bf t):Em m (kO (Ng t))=(cC m (Ng t)).2.2/\FN m (kO (Ng t))=uh 0 (cC m (Ng t)).2.1 [] []:=
 (JD (yC h).1 (yC h).2 (λa ha=>by cases ha) (λx hx=>by cases(fO.1 hx);exact h2) rfl).2
structure MR(good:List UInt8)(m:aK)(O:List (List UInt8)):Prop where
 oK:m.eS.length=3* O.length
 ax:m.ax=[]
 ok:∀s∈O,cO good s=true
 is:∀s,cO good s=true->∀st,st<=2->((m.find (cE good s st)).isSome=true↔s∈O)
def MR.nil{good:List UInt8}:MR good uV []:=⟨rfl,rfl,λs hs=>(by cases hs),λs _ st _=>by
 show(Option.isSome (List.find? _ [])=true)↔_
 simp⟩
def MR.new{good site:List UInt8}{m:aK}{O:List (List UInt8)}(h:MR good m O)(hs:cO good site=true)(hn:site∉O)(hl:O.length<=9):
 cC m (BB good site)=(0,[0,0,0],{m with aw:=m.aw+3,eS:=m.eS++O0 good site m.aw})/\MR good {m with aw:=m.aw+3,eS:=m.eS++O0 good site m.aw} (O++[site]):=by
 have oK:=h.oK;refine⟨Gj hs (λst uy=>?_) (by omega),?_,h.ax,λs gJ=>?_,λs gJ st uy=>?_⟩
 ·have:=(h.is site hs st uy);cases hf:m.find (cE good site st) with
  |none=>rfl
  |some x=>rw[hf] at this;exact aR (this.1 rfl) hn
 ·show(m.eS++O0 good site m.aw).length=3* (O++[site]).length;rw[ak,ak,oK];show 3* O.length+3=3* (O.length+1);omega
 ·rcases dG.1 gJ with hh|hh
  ·exact h.ok s hh
  ·rw[fO.1 hh];exact hs
 ·have h1:=h.is s gJ st uy;unfold aK.find at h1⊢;show(List.find? _ (m.eS++O0 good site m.aw)).isSome=true↔_;rw[List.find?_append];cases hf:m.eS.find? (λa=>decide (a.id=cE good s st)) with
  |some x=>
   rw[hf] at h1;simp only[Option.some_or,cB,true_iff];exact List.mem_append_left _ (h1.1 rfl)
  |none=>
   rw[hf] at h1;rw[Option.none_or,dG,fO];have h2:s∉O:=λhh=>by have:=h1.2 hh;simp at this
   by_cases he:s=site
   ·subst he
    constructor
    ·exact λ_=>.inr rfl
    ·intro _;rw[List.find?_isSome]
     match st,uy with
     |0,_=>exact⟨_,mE ..,by simp⟩
     |1,_=>exact⟨_,qN _ (mE ..),by simp⟩
     |2,_=>exact⟨_,qN _ (qN _ (mE ..)),by simp⟩
   ·constructor
    ·intro hh;exfalso;rw[List.find?_isSome] at hh;obtain⟨x,hx,e⟩:=hh;have e:=bG e;have key:∀k,k<=2->cE good site k≠cE good s st:=λk hk=>yr hs gJ hk uy (λhh=>he hh.1.symm);have hx:x.id=cE good site 0\/x.id=cE good site 1\/x.id=cE good site 2:=by
      unfold O0 at hx;rcases gK.1 hx with rfl|hx
      ·exact .inl rfl
      rcases gK.1 hx with rfl|hx
      ·exact .inr (.inl rfl)
      ·cases(fO.1 hx);exact .inr (.inr rfl)
     rcases hx with hx|hx|hx
     ·exact key 0 (by decide) (hx.symm.trans e)
     ·exact key 1 (by decide) (hx.symm.trans e)
     ·exact key 2 (by decide) (hx.symm.trans e)
    ·rintro(hh|hh)
     ·exact aR hh h2
     ·exact aR hh he
def MR.old{good site:List UInt8}{m:aK}{O:List (List UInt8)}(h:MR good m O)(hs:site∈O):∃c,cC m (BB good site)=(0,[c,1,1],m)/\c≠0:=by
 have hk:=h.ok site hs;obtain⟨x,hx⟩:=Option.isSome_iff_exists.1 ((h.is site hk 0 (by decide)).2 hs);exact OM hk hx
def MR.fit{good:List UInt8}{m:aK}{O:List (List UInt8)}(h:MR good m O)(hg:eL (bo m))(hl:O.length<=9):fX (cU (bo m)).length<=cQ 200:=by
 have:=Dq hg (a:=27) (k:=0) (by have:=h.oK;omega) (by rw[h.ax];decide);unfold fX cQ;split<;>omega
end Go.Up
namespace Go.Prog
open Go.Den
def rG(s1:BA)(n1:Int)(K:VK):WK:=
br (!(me s1 (⟨#[]⟩:BA))) (
br (decide ((s1.size:Int)<=n1)) (
cI s1 (⟨#[65,66,67,68,69,70,71,72,73,74,75,76,77,78,79,80,81,82,83,84,85,86,87,88,89,90,48,49,50,51,52,53,54,55,56,57,45]⟩:BA) (xS λs2=>
K (.b (me s2 (⟨#[]⟩:BA))))) (
K (.b false))) (
K (.b false))
def mX.j1(K:VK)(r1:Nat)(b2:Bool):WK:=
br b2 (
lI (ad r1 2) λn1=>
br (decide (n1>=0)) (
lI (ad r1 2) λn2=>
K (.b (decide (n2<=2)))) (
K (.b false))) (
K (.b false))
def mX(pA:LV)(K:VK):WK:=
mk pA λr1=>
lS (ad r1 0) λs1=>
rG s1 10 (xB λb1=>
br b1 (
lS (ad r1 1) λs2=>
rG s2 4 (xB λb3=>
mX.j1 K r1 b3)) (
mX.j1 K r1 false))
def xV(pA:LV)(K:VK):WK:=
mk pA λr1=>
mk [.u 0,.u 0] λr2=>
aD (ad r1 0) 3 λuE=>
mX uE (xB λb1=>
br (!b1) (
aY True (
aY (2=2) (fH (ad r2 0) [.u 0,.u 0] (
aD (ad r2 0) 2 λsR=>
K (.tuple ⟨[.agg ⟨sR⟩,.i 1]⟩))))) (
mk YC λr3=>
tick (
aY ((0<=(10:Int)/\(10:Int)<=((16:Nat):Int))/\(0<=(10:Int)/\(10:Int)<=((10:Int).toNat:Int))/\(0<=(0:Int)/\(0:Int)<=((10:Int).toNat:Int))) (
lS (ad r1 0) λs1=>
G8 (rF (some (ad r3 0)) 10 0 1) 10 s1 λm1=>
tick (
aY ((0<=(14:Int)/\(14:Int)<=((16:Nat):Int))/\(0<=(14:Int)/\(14:Int)<=((14:Int).toNat:Int))/\(0<=(10:Int)/\(10:Int)<=((14:Int).toNat:Int))) (
lS (ad r1 1) λs2=>
G8 (rF (some (ad r3 0)) 14 10 1) 4 s2 λm2=>
lI (ad r1 2) λn1=>
aY ((0:Int)<=14/\(14:Int)<16) (
st ((ad r3 0).add ((14:Int).toNat* 1)) (.int .u8 (IntKind.u8.wrap n1)) (
aY ((0:Int)<=15/\(15:Int)<16) (
st ((ad r3 0).add ((15:Int).toNat* 1)) (.int .u8 1) (
oW (some (ad r3 0)) 16 16 1 none none λsL qG tq=>
Np sL qG λs3=>
mS s3 (x2 λv1 v2=>(xA 2 λqL=>
(xB λb2=>
mk [.u 0,.u 0] λr4=>
aT 2 (ad r4 0) qL (
aD (ad r4 0) 2 λs7=>
aT 2 (ad r2 0) s7 (
aD (ad r2 0) 2 λsY=>
K (.tuple ⟨[.agg ⟨sY⟩,.i 0]⟩)))) v2) v1)))))))))))
def jh(s1 s2:BA)(K:VK):WK:=
mk wK λr1=>
mk wK λr2=>
(lp [.p (some (ad r1 0)),.i 0,.p (some (ad r2 0)),.i 0] λI1 pz=>
∀a1 n1 a2 n2 w2,I1 [.p (some a1),.i n1,.p (some a2),.i n2] w2->(
br (decide (n2<3)) (
aY (1=1/\(1=1/\(1=1/\True))) (
xV [.s s1,.s s2,.i n2] (x2 λv1 v2=>(xA 2 λpA=>
(xI .i64 λn3=>
mk [.u 0,.u 0] λr3=>
aT 2 (ad r3 0) pA (
br (n3 !=0) (
aD a2 6 λuE=>
aT 6 a1 uE (
aD a1 6 λsR=>
K (.tuple ⟨[.agg ⟨sR⟩,.i n3]⟩))) (
aD (ad r3 0) 2 λqL=>
aY ((0:Int)<=n2/\n2<3) (
aT 2 (a2.add (n2.toNat* 2)) qL (
(ct I1 pz [.p (some a1),.i n1,.p (some a2),.i (ag.wrap (n2+1))] [.p (some a1),.i n1,.p (some a2),.i n2] w2)))))) v2) v1))) (
aD a2 6 λs7=>
aT 6 a1 s7 (
aD a1 6 λsY=>
K (.tuple ⟨[.agg ⟨sY⟩,.i 0]⟩)))) w2)
def iO.j1(K:VK)(a2:Addr)(r5:Nat)(I1:LI)(a1:Addr)(n2:Int)(qL:LV)(n3:Int)(pz:LM)(w2:World):WK:=
lL (a2.add 1) λsL qG tq=>
aD (ad r5 0) 14 λsY=>
Je 14 sY λr6=>
jO 14 112 cN sL qG tq (ai r6) 1 λmg jJ mP=>
st (a2.add 1) (.l mg jJ mP) (
(ct I1 pz [.p (some a1),.i n2,.p (some a2),.agg ⟨qL⟩,.i (ag.wrap (n3+1))] [.p (some a1),.i n2,.p (some a2),.agg ⟨qL⟩,.i n3] w2))
def iO(s1 s2:BA)(K:VK):WK:=
mk bR λr1=>
jh s1 s2 (x2 λv1 v2=>(xA 6 λpA=>
(xI .i64 λn1=>
mk wK λr2=>
aT 6 (ad r2 0) pA (
br (n1 !=0) (
aY True (
aY (13=13) (fH (ad r1 0) bR (
aD (ad r1 0) 13 λuE=>
K (.tuple ⟨[.agg ⟨uE⟩,.i n1]⟩))))) (
aY (1=1/\True) (
mk bR λr3=>
aY (13=13) (fH (ad r3 0) [.i 1,.l none 0 0,.l none 0 0,.i 0,.l none 0 0,.u 0,.u 0,.i 0,.i 0,.b false,.b false,.b false,.i 0] (
aD (ad r2 0) 6 λsR=>
(lp [.p (some (ad r1 0)),.i 0,.p (some (ad r3 0)),.agg ⟨sR⟩,.i 0] λI1 pz=>
∀a1 n2 a2 qL n3 w2,I1 [.p (some a1),.i n2,.p (some a2),.agg ⟨qL⟩,.i n3] w2->(
br (decide (n3<3)) (
aY ((0:Int)<=n3/\n3<3) (
mk [.u 0,.u 0] λr4=>
aY (((qL.drop ((n3:Int).toNat* 2)).take 2).length=2) (fH (ad r4 0) ((qL.drop ((n3:Int).toNat* 2)).take 2) (
aD (ad r4 0) 2 λs7=>
aY (s7.length=2/\(1=1/\(1=1/\(1=1/\True)))) (
mk cN λr5=>
aY ((s7++([.u 0,.u 0,.u 0,.u 0,.u 0,.u 0,.u 0,.u 0,.i 7,.i 1,.i 1,.i 0]:LV)).length=14) (fH (ad r5 0) (s7++([.u 0,.u 0,.u 0,.u 0,.u 0,.u 0,.u 0,.u 0,.i 7,.i 1,.i 1,.i 0]:LV)) (
br (n3==1) (
lI (ad r5 12) λn4=>
st (ad r5 12) (.i (ch .i64 .or n4 4)) (
iO.j1 K a2 r5 I1 a1 n2 qL n3 pz w2)) (
iO.j1 K a2 r5 I1 a1 n2 qL n3 pz w2)))))))) (
lL (a2.add 1) λqf oP qQ=>
gp qf oP 2 14 λa3=>
lI (a3.add 12) λn5=>
gp qf oP 2 14 λa4=>
st (a4.add 12) (.i (ch .i64 .andNot n5 1)) (
aD a2 13 λA6=>
aT 13 a1 A6 (
aD a1 13 λCn=>
K (.tuple ⟨[.agg ⟨Cn⟩,.i 0]⟩))))) w2))))))) v2) v1)
def gX(pA:LV)(K:VK):WK:=
mk pA λr1=>
lL (ad r1 1) λsL qG tq=>
(lp [.p (some (ad r1 0)),.b false,.l sL qG tq,.i (qG:Int),.i 0] λI1 pz=>
∀a1 b1 mg jJ mP n1 n2 w2,I1 [.p (some a1),.b b1,.l mg jJ mP,.i n1,.i n2] w2->(
br (decide (n2<n1)) (
gp mg jJ n2 1 λa2=>
lI a2 λn3=>
br (n3 !=0) (
K (.b false)) (
(ct I1 pz [.p (some a1),.b b1,.l mg jJ mP,.i n1,.i (ag.wrap (n2+1))] [.p (some a1),.b b1,.l mg jJ mP,.i n1,.i n2] w2))) (
lI a1 λn4=>
br (n4==0) (
lL (a1.add 1) λqf oP qQ=>
K (.b (decide ((oP:Int)>0)))) (
K (.b false)))) w2)
def fK(p1:OA)(pA:LV)(n1:Int)(K:VK):WK:=
mk pA λr1=>
mk CS λr2=>
br (n1 !=0) (
aY (1=1/\True) (
aY (4=4) (fH (ad r2 0) [.i n1,.l none 0 0,.l none 0 0,.l none 0 0] (
aD (ad r2 0) 4 λuE=>
K (.agg ⟨uE⟩))))) (
aD (ad r1 0) 13 λsR=>
fh sR (xS λs1=>
oV p1 s1 (xS λs2=>
mR s2 (x2 λv1 v2=>(xA 4 λqL=>
(xI .i64 λn2=>
mk CS λr3=>
aT 4 (ad r3 0) qL (
br (n2 !=0) (
aY (1=1/\True) (
aY (4=4) (fH (ad r2 0) [.i n2,.l none 0 0,.l none 0 0,.l none 0 0] (
aD (ad r2 0) 4 λs7=>
K (.agg ⟨s7⟩))))) (
aD (ad r3 0) 4 λsY=>
aT 4 (ad r2 0) sY (
aD (ad r2 0) 4 λA6=>
K (.agg ⟨A6⟩))))) v2) v1))))
def tg(pA:LV)(K:VK):WK:=
mk pA λr1=>
mk bR λr2=>
aD (ad r1 0) 16 λuE=>
Je 16 uE λr3=>
aY (1=1/\(1=1/\True)) (
aY (13=13) (fH (ad r2 0) [.i 2,.l none 0 0,.l (ai r3) 1 1,.i 0,.l none 0 0,.u 0,.u 0,.i 0,.i 0,.b false,.b false,.b false,.i 0] (
aD (ad r2 0) 13 λsR=>
K (.tuple ⟨[.agg ⟨sR⟩,.i 0]⟩))))
def mo(pA:LV)(s1 s2:BA)(uE:LV)(K:VK):WK:=
mk pA λr1=>
mk uE λr2=>
mk bR λr3=>
jh s1 s2 (x2 λv1 v2=>(xA 6 λsR=>
(xI .i64 λn1=>
mk wK λr4=>
aT 6 (ad r4 0) sR (
br (n1 !=0) (
aY True (
aY (13=13) (fH (ad r3 0) bR (
aD (ad r3 0) 13 λqL=>
K (.tuple ⟨[.agg ⟨qL⟩,.i n1]⟩))))) (
aD (ad r1 0) 2 λs7=>
aY ((0:Int)<=1/\(1:Int)<3) (
aD ((ad r4 0).add ((1:Int).toNat* 2)) 2 λsY=>
aY ((0:Int)<=0/\(0:Int)<3) (
aD ((ad r4 0).add ((0:Int).toNat* 2)) 2 λA6=>
aD (ad r2 0) 2 λCn=>
aY (s7.length=2/\(sY.length=2/\(A6.length=2/\(Cn.length=2/\(1=1/\(1=1/\True)))))) (
tg (s7++(sY++(A6++(Cn++([.u 0,.u 0,.i 0,.i 7,.i 1,.i 0,.i 0,.i 0]:LV))))) (x2 λv3 v4=>(xA 13 λI6=>
(xI .i64 λn2=>
aT 13 (ad r3 0) I6 (
aD (ad r3 0) 13 λxp=>
K (.tuple ⟨[.agg ⟨xp⟩,.i n2]⟩))) v4) v3))))))) v2) v1)
def jN(n1:Int)(K:VK):WK:=
mk [.u 0,.u 0] λr1=>
aY (1=1/\True) (
aY (2=2) (fH (ad r1 0) [.u 0,.u (IntKind.u64.wrap n1)] (
aD (ad r1 0) 2 λpA=>
K (.agg ⟨pA⟩))))
def gF(K:VK):WK:=
nq 200 (x2 λv1 v2=>(xP λp1=>
(xI .i64 λn1=>
br (n1 !=0) (
K (.b false)) (
iO (⟨#[66,79,76,84]⟩:BA) (⟨#[78,89]⟩:BA) (x2 λv3 v4=>(xA 13 λpA=>
(xI .i64 λn2=>
mk bR λr1=>
aT 13 (ad r1 0) pA (
jN 5 (xA 2 λuE=>
jN 10 (xA 2 λsR=>
mo uE (⟨#[66,79,76,84]⟩:BA) (⟨#[78,89]⟩:BA) sR (x2 λv5 v6=>(xA 13 λqL=>
(xI .i64 λn3=>
mk bR λr2=>
aT 13 (ad r2 0) qL (
aD (ad r1 0) 13 λs7=>
fK p1 s7 n2 (xA 4 λsY=>
gX sY (xB λb1=>
br b1 (
aD (ad r2 0) 13 λA6=>
fK p1 A6 n3 (xA 4 λCn=>
gX Cn (xB λb2=>
K (.b b2)))) (
K (.b false)))))) v6) v5))))) v4) v3))) v2) v1)
def jI.j1(K:VK)(r2 r1:Nat)(b1:Bool):WK:=
br b1 (
aY True (
aY (6=6) (fH (ad r2 0) wK (
aD (ad r2 0) 6 λuE=>
K (.tuple ⟨[.agg ⟨uE⟩,.i 5]⟩))))) (
tick (
lL (ad r1 2) λsL qG tq=>
gp sL qG 0 14 λa1=>
aD a1 14 λsR=>
lL (ad r1 2) λmg jJ mP=>
gp mg jJ 1 14 λa2=>
aD a2 14 λqL=>
both (
mk cN λr3=>
kp a2 qL (
kp (ad r1 2) [.l mg jJ mP] (
kp a1 sR (
kp (ad r1 2) [.l sL qG tq] (
mk cN λr4=>
kp a2 qL (
kp (ad r1 2) [.l mg jJ mP] (
kp a1 sR (
kp (ad r1 2) [.l sL qG tq] (
aT 14 (ad r3 0) sR (
kp a2 qL (
kp (ad r1 2) [.l mg jJ mP] (
aT 14 (ad r4 0) qL (
aD (ad r3 4) 2 λs7=>
aD (ad r3 8) 2 λsY=>
kX s7 sY (x2 λv1 v2=>(xA 2 λA6=>
(xB λb2=>
mk [.u 0,.u 0] λr5=>
aT 2 (ad r5 0) A6 (
br (!b2) (
aY True (
aY (6=6) (fH (ad r2 0) wK (
aD (ad r2 0) 6 λCn=>
K (.tuple ⟨[.agg ⟨Cn⟩,.i 5]⟩))))) (
aD (ad r5 0) 2 λI6=>
aD (ad r3 6) 2 λxp=>
aD (ad r4 4) 2 λCo=>
aY (I6.length=2/\(xp.length=2/\(Co.length=2/\True))) (
aY ((I6++(xp++(Co++[]))).length=6) (fH (ad r2 0) (I6++(xp++(Co++[]))) (
aD (ad r2 0) 6 λE5=>
K (.tuple ⟨[.agg ⟨E5⟩,.i 0]⟩))))))) v2) v1)))))))))))))) (
mk cN λr6=>
kp a2 qL (
kp (ad r1 2) [.l mg jJ mP] (
kp a1 sR (
kp (ad r1 2) [.l sL qG tq] (
mk cN λr7=>
kp a2 qL (
kp (ad r1 2) [.l mg jJ mP] (
kp a1 sR (
kp (ad r1 2) [.l sL qG tq] (
aT 14 (ad r7 0) sR (
kp a2 qL (
kp (ad r1 2) [.l mg jJ mP] (
aT 14 (ad r6 0) qL (
aD (ad r7 4) 2 λE4=>
aD (ad r7 8) 2 λpe=>
kX E4 pe (x2 λv3 v4=>(xA 2 λnc=>
(xB λb3=>
mk [.u 0,.u 0] λr8=>
aT 2 (ad r8 0) nc (
br (!b3) (
aY True (
aY (6=6) (fH (ad r2 0) wK (
aD (ad r2 0) 6 λk9=>
K (.tuple ⟨[.agg ⟨k9⟩,.i 5]⟩))))) (
aD (ad r8 0) 2 λyR=>
aD (ad r7 6) 2 λxo=>
aD (ad r6 4) 2 λG6=>
aY (yR.length=2/\(xo.length=2/\(G6.length=2/\True))) (
aY ((yR++(xo++(G6++[]))).length=6) (fH (ad r2 0) (yR++(xo++(G6++[]))) (
aD (ad r2 0) 6 λMA=>
K (.tuple ⟨[.agg ⟨MA⟩,.i 0]⟩))))))) v4) v3))))))))))))))))
def jI(pA:LV)(K:VK):WK:=
mk pA λr1=>
mk wK λr2=>
lI (ad r1 0) λn1=>
br (n1 !=0) (
jI.j1 K r2 r1 true) (
lL (ad r1 2) λqf oP qQ=>
jI.j1 K r2 r1 ((oP:Int)!=2))
def bO.j3(K:VK)(I1:LI)(b2:Bool)(n2:Int)(pz:LM)(w2:World)(c1:UInt8)(b4:Bool):WK:=
br b4 (
(ct I1 pz [.b b2,.i (ag.wrap (n2+1))] [.b b2,.i n2] w2)) (
br (!((c1.toNat:Int)==45)) (
K (.b false)) (
(ct I1 pz [.b b2,.i (ag.wrap (n2+1))] [.b b2,.i n2] w2)))
def bO.j2(K:VK)(I1:LI)(b2:Bool)(n2:Int)(pz:LM)(w2:World)(c1:UInt8)(b3:Bool):WK:=
br b3 (
bO.j3 K I1 b2 n2 pz w2 c1 true) (
br (decide ((c1.toNat:Int)>=48)) (
bO.j3 K I1 b2 n2 pz w2 c1 (decide ((c1.toNat:Int)<=57))) (
bO.j3 K I1 b2 n2 pz w2 c1 false))
def bO.j1(K:VK)(s1:BA)(b1:Bool):WK:=
br b1 (
K (.b false)) (
(lp [.b false,.i 0] λI1 pz=>
∀b2 n2 w2,I1 [.b b2,.i n2] w2->(
br (decide (n2<(s1.size:Int))) (
ss s1 n2 λc1=>
br (decide ((c1.toNat:Int)>=65)) (
bO.j2 K I1 b2 n2 pz w2 c1 (decide ((c1.toNat:Int)<=90))) (
bO.j2 K I1 b2 n2 pz w2 c1 false)) (
K (.b true))) w2))
def bO(s1:BA)(n1:Int)(K:VK):WK:=
br ((s1.size:Int)==0) (
bO.j1 K s1 true) (
bO.j1 K s1 (decide ((s1.size:Int)>n1)))
def dE.j1(K:VK)(n1:Int)(b2:Bool):WK:=
br b2 (
br (decide (n1>=0)) (
K (.b (decide (n1<=2)))) (
K (.b false))) (
K (.b false))
def dE(s1 s2:BA)(n1:Int)(K:VK):WK:=
bO s1 10 (xB λb1=>
br b1 (
bO s2 4 (xB λb3=>
dE.j1 K n1 b3)) (
dE.j1 K n1 false))
end Go.Prog
namespace Go.Up
open Go.Sep Go.Den Go.RowKit Go.Prog Go.Md Go.bE
def DE{z ys:LV}(h:ys.length=z.length):over z 0 ys=ys:=by
 unfold over;rw[qM,dm,az,eH (by omega),bN]
def F4(l:List UInt8):∀v∈qV l,v.oneCell'=true:=λv hv=>by
 unfold qV at hv;obtain⟨c,_,rfl⟩:=dK.1 hv
 rfl
instance{l:List UInt8}:Ln (qV l) 256:=⟨qq l⟩
instance{l:List UInt8}:Sub (qV l) 0 256 (qV l):=⟨qq l,λj v h=>by rw[az];exact h⟩
instance{l:List UInt8}:Wr (qV l) 0 (qV l) (qV l):=⟨DE rfl,by rw[az];exact aC _,F4 l⟩
instance{l:List UInt8}:Wr Ns 0 (qV l) (qV l):=⟨DE (by rw[qq];rfl),by rw[az,qq];exact aC _,F4 l⟩
section
variable {W:World} {L:LH} {K:VK} {X:WK} {r:Nat} {f:LV->LH} {l cs:List UInt8}
def Cp{c:UInt8}[i:Lc (Sep.pt r) L (qV cs) f](h:T W L (K (.b (cs.contains c)))):T W L (fQ (ai r) (c.toNat:Int) K):=by
 unfold fQ;have bW:=c.toNat_lt;apply ws;refine dv ⟨by omega,by omega⟩ ?_;rw[aq,mQ];intro w hw;obtain⟨k,hk,_⟩:=i.at_;have hc:=(hw.cell (o:=c.toNat) hk).1;rw[JU] at hc;refine⟨.b (cs.contains c),?_,(mO h:T W L _) w hw⟩;rw[dh,az];exact hc
def RN(hs:∀c∈l,c.toNat<128)(hl:l.length<1099511627776)(h:T W L (K (.tuple ⟨[.agg ⟨qV l⟩,.b true]⟩))):T W L (ko (bs l) K):=by
 unfold ko;refine jy λr1=>?_;show T W (Sep.pt r1 (aM 256 (.b false))::L) _;rw[<-Og];intro w l7;refine⟨λvv w'=>∃i:Nat,i<=l.length/\vv=[.p (some (ad r1 0)),.b false,.i (i:Int)]/\St W w' (Sep.pt r1 (qV (l.take i))::L),
  mq 2 l.length,⟨0,aL _,rfl,l7⟩,?_⟩
 rintro a1 b1 n1 w2 ⟨i,hi,e,gJ⟩;cases e
 refine T.at ?_ gJ;have e5:=oe i;rw[bn];apply gO<;>intro g1
 ·have bW:i<l.length:=by omega
  have gx:=ao bW;have hx:=hs _ (bT bW);have rM:l.take (i+1)=l.take i++[l[i]]:=by rw[bP,gx];rfl
  generalize l[i]=c at gx hx rM;have hc:=c.toNat_lt;refine tY gx ?_;refine cW (ay (by omega)) ?_;refine dv ⟨by omega,by omega⟩ ?_;rw[aq,mQ];show T W _ (st ((⟨r1,0,none⟩:Addr).add c.toNat) _ _);rw[dh,az];refine vf (by rw[qq];exact hc) rfl ?_;rw[Of,<-rM,e5];exact λw3 h3=>⟨⟨i+1,bW,rfl,h3⟩,dn (by omega)⟩
 ·have kP:i=l.length:=by omega
  subst kP;rw[bF];apply ws;exact T.drop h
def NM[i:Lc (Sep.pt r) L (qV cs) f](hl:l.length<1099511627776)(hK:∀m,m<=l.length->(∀c∈l.drop m,cs.contains c=true)->(m=0\/∃h:m-1<l.length,cs.contains l[m-1]=false)->T W L (K (.s (bs (l.take m))))):
 T W L (jf (bs l) (ai r) K):=by
 unfold jf;intro w l7;refine⟨λus w'=>∃m:Nat,m<=l.length/\(∀c∈l.drop m,cs.contains c=true)/\us=[.s (bs (l.take m)),.s .empty]/\St W w' L,λus _=>match us with|[.string s,_]=>s.size|_=>0,
  ⟨l.length,aC _,λc hc=>(by rw[List.drop_length] at hc;cases hc),by rw[bF],l7⟩,?_⟩
 rintro s2 s3 w2 ⟨m,hm,hz,he,gJ⟩;cases he
 refine T.at ?_ gJ;have oI:(bs (l.take m)).size=m:=by rw[bn,aG];omega
 rw[oI];refine gO (λCa=>?_) (λPg=>hK m hm hz (.inl (by omega)));have DP:m-1<l.length:=by omega
 have ew:ag.wrap ((m:Int) -1)=((m-1:Nat):Int):=by rw[aS (by omega)];omega
 rw[ew];refine tY (c:=l[m-1]) (by rw[List.getElem?_take_of_lt (by omega),ao DP]) ?_;refine Cp (cs:=cs) (mO ?_);cases hc:cs.contains l[m-1] with
 |false=>exact hG rfl (hK m hm hz (.inr ⟨DP,hc⟩))
 |true=>
  refine cW rfl ?_;intro w3 h3;unfold iW;refine⟨⟨by omega,by rw[oI];omega⟩,?_⟩;rw[aq,ju,List.take_take,show min (m-1) m=m-1 from by omega];refine⟨⟨m-1,by omega,λc Fy=>?_,rfl,h3⟩,?_⟩
  ·rw[jX DP] at Fy;rcases gK.1 Fy with rfl|Fy
   ·exact hc
   ·exact hz c (by rw[show m-1+1=m by omega] at Fy;exact Fy)
  ·dsimp only;rw[bn,aG,bn,aG];omega
def NN[i:Lc (Sep.pt r) L (qV cs) f](hl:l.length<1099511627776)(hK:∀m,m<=l.length->(∀c∈l.take m,cs.contains c=true)->(m=l.length\/∃h:m<l.length,cs.contains l[m]=false)->T W L (K (.s (bs (l.drop m))))):
 T W L (jU (bs l) (ai r) K):=by
 unfold jU;intro w l7;refine⟨λus w'=>∃m:Nat,m<=l.length/\(∀c∈l.take m,cs.contains c=true)/\us=[.s (bs (l.drop m)),.s .empty]/\St W w' L,λus _=>match us with|[.string s,_]=>s.size|_=>0,
  ⟨0,aL _,λc hc=>(by cases hc),rfl,l7⟩,?_⟩
 rintro s2 s3 w2 ⟨m,hm,hz,he,gJ⟩;cases he
 refine T.at ?_ gJ;have oI:(bs (l.drop m)).size=l.length-m:=by rw[bn,aV]
 refine gO (λCa=>?_) (λPg=>hK m hm hz (.inl (by rw[oI] at Pg;omega)));rw[oI] at Ca;have DP:m<l.length:=by omega
 refine tY (i:=0) (c:=l[m]) (by rw[px,iL,ao DP]) ?_;refine Cp (cs:=cs) (mO ?_);cases hc:cs.contains l[m] with
 |false=>exact hG rfl (hK m hm hz (.inr ⟨DP,hc⟩))
 |true=>
  refine cW rfl ?_;intro w3 h3;unfold iW;refine⟨⟨by omega,by rw[oI];omega⟩,?_⟩;rw[show(1:Int).toNat=1 from rfl,kz,Jv];refine⟨⟨m+1,by omega,λc Fy=>?_,rfl,h3⟩,?_⟩
  ·rw[bP,ao DP] at Fy;rcases dG.1 Fy with Fy|Fy
   ·exact hz c Fy
   ·have:c=l[m]:=by simpa using Fy
    rw[this];exact hc
  ·dsimp only;rw[bn,aV,bn,aV];omega
def Td(hl:l.length<1099511627776)(h:∀r:List UInt8,(r=[]↔l.all nJ=true)->T W L (K (.s (bs r)))):T W L (cI (bs l) (bs ue) K):=by
 unfold cI;show T W L (br (me (bs l) (bs [])) _ (cI.j1 K (bs l) (bs ue) (me (bs ue) (bs []))));rw[tf,tf];by_cases hZ:l=[]
 ·rw[aA hZ];unfold cI.j1;subst hZ;exact ib (ib (h [] (by simp)))
 rw[ay hZ,ay (by decide)];unfold cI.j1;apply fG;apply fG;refine cW (by rfl) ?_;unfold cI.j3 cI.j2;apply fG;refine RN (by decide) (by decide) ?_;apply ws;intros;rename_i r1;refine NM (cs:=ue) hl λm hm hz DQ=>?_;apply xQ;refine NN (cs:=ue) (by rw[aG];omega) λq hq Yl zD=>?_;apply xQ;refine T.drop (h _ ?_);have bW:(l.take m).length=m:=by rw[aG];omega
 rw[<-Lb]
 constructor
 ·intro hd;have hqm:q=m:=by have:=congrArg List.length hd;rw[aV,dH] at this;omega
  subst hqm;rcases DQ with h0|⟨h1,h2⟩
  ·subst h0;rw[oC] at hz;exact kh.2 hz
  ·exfalso;rw[List.take_take,Nat.min_self] at Yl;have:=Yl l[q-1] (by
    have h3:q-1<(l.take q).length:=by
     rcases Nat.eq_zero_or_pos q with h0|h0
     ·exfalso
      subst h0
      have:=hz l[0-1] (by rw[oC];exact bT _)
      rw[h2] at this;cases this
     ·omega
    rw[<-List.getElem_take (h:=h3)]
    exact bT h3)
   rw[h2] at this;cases this
 ·intro ha;rw[kh] at ha;have hm0:m=0:=by
   rcases DQ with h0|⟨h1,h2⟩
   ·exact h0
   ·have:=ha _ (bT h1);rw[h2] at this;cases this
  subst hm0;simp
def OV{n:Nat}(hl:l.length<1099511627776)(h:T W L (K (.b (o5 l n)))):T W L (rG (bs l) (n:Int) K):=by
 unfold rG;unfold o5 at h;show T W L (br (!(me (bs l) (bs []))) (br _ (cI (bs l) (bs ue) (xS λs2=>K (.b (me s2 (bs []))))) _) _);rw[tf];by_cases hZ:l=[]
 ·rw[aA hZ];rw[ay (λhh=>hh hZ)] at h;exact cW rfl h
 rw[ay hZ];rw[aA hZ,dX] at h;refine hG rfl ?_;rw[bn];apply gO<;>intro g1
 ·rw[aA (by omega),dX] at h;refine Td hl λr hr=>?_;apply xQ;rw[tf];have e:decide (r=[])=l.all nJ:=by
   cases hq:l.all nJ with
   |true=>exact aA (hr.2 hq)
   |false=>exact ay λhh=>by have:=hr.1 hh;rw[hq] at this;cases this
  rw[e];exact h
 ·rw[ay (by omega),gI] at h;exact h
end
def NL(l:List UInt8):∀v∈l.map og,v.oneCell'=true:=λv hv=>by
 obtain⟨c,_,rfl⟩:=dK.1 hv
 rfl
def FZ(l:List UInt8):strCells (bs l)=l.map og:=rfl
instance{a b c:Value}:Sub [a,b,c] 0 3 [a,b,c]:=⟨rfl,λj v h=>by rw[az];exact h⟩
section
variable {W:World} {L:LH} {K:VK} {X:WK} {r n o:Nat} {cs:LV} {f:LV->LH} {s good site:List UInt8} {st:Nat}
def JJ{K:Nat->WK}[i:Lc (Sep.pt r) L cs f](hn:s.length<=n)(ho:o+s.length<=cs.length)(h:T W (f (over cs o (s.map og))) (K s.length)):T W L (G8 (some ⟨r,o,none⟩) n (bs s) K):=λw hs=>by
 obtain⟨k,hk,e⟩:=i.at_;have e1:min (bs s).size n=s.length:=by rw[bn];omega
 refine⟨λhh=>(by cases hh),λa ha=>?_⟩;cases ha
 rw[e1,ju,bF,FZ];obtain⟨hc,gJ⟩:=St.vk (s.map og) o 0 hs hk (by rw[cu];omega) (NL s);exact⟨hc,h _ (by rw[e];exact gJ)⟩
def XD(h:good.length<=10):over (aM 16 (.int .u8 0)) 0 (good.map og)=(good++aM (16-good.length) 0).map og:=by
 unfold over;rw[qM,dm,cu,az,List.drop_replicate,cS,List.map_replicate]
 rfl
def XC(h:good.length<=10)(h2:site.length<=4):over ((good++aM (16-good.length) 0).map og) 10 (site.map og)=(vJ good 10++(site++aM (6-site.length) 0)).map og:=by
 unfold over vJ;rw[cu,<-List.map_take,<-List.map_drop,<-cS,<-cS,List.take_append,bg (by omega),List.take_replicate,List.drop_append,eH (by omega),List.drop_replicate,dm,
  show min (10-good.length) (16-good.length)=10-good.length by omega,show 16-good.length-(10+site.length-good.length)=6-site.length by omega,aI,aI]
def XB(h:good.length<=10)(h2:site.length<=4):vJ good 10++(site++aM (6-site.length) 0)=wG good site++[0,0]:=by
 unfold wG vJ;rw[show 6-site.length=(4-site.length)+2 by omega,<-List.replicate_append_replicate];simp[aI]
def XA(h:good.length<=10)(h2:site.length<=4):(((wG good site++[0,0]).map og).set 14 (og (UInt8.ofNat st))).set 15 (og 1)=(sO good site st).map og:=by
 have hl:=tB h h2;rw[cS,List.set_append_right _ _ (by rw[cu];omega),List.set_append_right _ _ (by rw[cu];omega),cu,hl];unfold sO;rw[cS,cS,aI]
 rfl
def Ti(hg:good.length<1099511627776)(hs:site.length<1099511627776)(uy:st<=2)(h:T W L (K (.b (cO good site)))):T W L (mX [.s (bs good),.s (bs site),.i (st:Int)] K):=by
 unfold mX;apply ws;intros;rename_i r3;refine OV (n:=10) hg ?_;apply mO;unfold cO at h;unfold mX.j1;cases hb:o5 good 10 with
 |false=>
  rw[hb,gI] at h;apply fG;apply fG;exact T.drop h
 |true=>
  rw[hb,dX] at h;apply ib;apply ws;refine OV (n:=4) hs ?_;apply mO;cases hc:o5 site 4 with
  |false=>
   rw[hc] at h;apply fG;exact T.drop h
  |true=>
   rw[hc] at h;apply ib;apply ws;refine hG (aA (by omega)) ?_;apply ws;rw[aA (by omega)];exact T.drop h
def afO(hg:good.length<1099511627776)(hs:site.length<1099511627776)(uy:st<=2)(h:T W L (K (if cO good site=true then .tuple ⟨[.agg ⟨nm (cE good site st)⟩,.i 0]⟩ else .tuple ⟨[.agg ⟨nm 0⟩,.i 1]⟩))):
 T W L (xV [.s (bs good),.s (bs site),.i (st:Int)] K):=by
 unfold xV;apply ws;intros;rename_i r1 r2;refine Ti hg hs uy ?_;apply mO;cases hp:cO good site with
 |false=>
  rw[ah (by rw[hp];decide)] at h;refine hG rfl ?_;apply ws;exact T.drop (T.drop h)
 |true=>
  rw[aj hp] at h;have AK:=hp;unfold cO at AK;rw[cY] at AK;obtain⟨_,g2,_⟩:=nu AK.1;obtain⟨_,s2,_⟩:=nu AK.2;refine cW rfl ?_;refine jy λr3=>?_;refine En ?_;refine dv (by decide) ?_;apply ws;rw[Oc];refine JJ (r:=r3) (o:=0) g2 (by show 0+good.length<=16;omega) ?_;show T W (Sep.pt r3 (over (aM 16 (.int .u8 0)) 0 (good.map og))::_) _;rw[XD g2];refine En ?_;refine dv (by decide) ?_;apply ws;have e2:rF (some (ad r3 0)) 14 10 1=some ⟨r3,10,none⟩:=by
   unfold rF;rw[ah (by decide)];show some ((⟨r3,0,none⟩:Addr).add (10* 1))=_;rw[dh]
  rw[e2];refine JJ (r:=r3) (o:=10) s2 (by rw[cu,ak,gi];omega) ?_;rw[XC g2 s2,XB g2 s2];apply ws;refine dv (by decide) ?_;have a14:(ad r3 0).add ((14:Int).toNat* 1)=⟨r3,14,none⟩:=by show(⟨r3,0,none⟩:Addr).add 14=_;rw[dh]
  have a15:(ad r3 0).add ((15:Int).toNat* 1)=⟨r3,15,none⟩:=by show(⟨r3,0,none⟩:Addr).add 15=_;rw[dh]
  have ev:Value.int .u8 (IntKind.u8.wrap (st:Int))=og (UInt8.ofNat st):=by
   match st,uy with
   |0,_=>rfl
   |1,_=>rfl
   |2,_=>rfl
  have WR:=tB g2 s2;rw[a14,ev];refine vf (r:=r3) (by rw[cu,ak,WR];decide) rfl ?_;refine dv (by decide) ?_;rw[a15];refine vf (r:=r3) (by rw[jC,cu,ak,WR];decide) rfl ?_;show T W (Sep.pt r3 ((((wG good site++[0,0]).map og).set 14 (og (UInt8.ofNat st))).set 15 (og 1))::_) _;rw[XA g2 s2];refine JF ?_;have Pf:=BP (st:=st) g2 s2;refine T.under (A:=Sep.pt r3 []) (X:=K (.tuple ⟨[.agg ⟨nm (cE good site st)⟩,.i 0]⟩)) (L:=L) (λhh=>?_) h;have hb:∀{KK:BA->WK},T W (Sep.pt r3 ((sO good site st).map og)::Sep.pt r2 [.u 0,.u 0]::Sep.pt r1 [.s (bs good),.s (bs site),.i (st:Int)]::L) (KK (bs (sO good site st)))->T W (Sep.pt r3 ((sO good site st).map og)::Sep.pt r2 [.u 0,.u 0]::Sep.pt r1 [.s (bs good),.s (bs site),.i (st:Int)]::L) (Np (some (ad r3 0)) 16 KK):=by
   intro KK hK;have:=N0 (r:=r3) (l:=sO good site st) hK;rw[Pf] at this;exact this
  refine hb ?_;refine Az (by omega) ?_;apply ws;intros;exact T.drop (T.drop (T.drop (T.drop hh)))
end
abbrev mY(k:Int)(b:OA)(n c:Nat):LV:=[.i k,.l b n c,.l none 0 0,.i 0,.l none 0 0,.u 0,.u 0,.i 0,.i 0,.b false,.b false,.b false,.i 0]
def ON(k:Int)(b:OA)(n c:Nat):∀v∈mY k b n c,v.oneCell'=true:=λv hv=>by
 unfold mY at hv
 repeat (first|(rcases gK.1 hv with rfl|hv;·rfl)|cases hv)
section
variable {k k':Int} {b b':OA} {n c n' c':Nat}
instance:Ln (mY k b n c) 13:=⟨rfl⟩
instance:Sub (mY k b n c) 0 13 (mY k b n c):=⟨rfl,λj v h=>by rw[az];exact h⟩
instance:Wr (mY k b n c) 0 (mY k' b' n' c') (mY k' b' n' c'):=⟨rfl,aC _,ON k' b' n' c'⟩
end
def QG(good site:List UInt8):List bp:=[l6 good site 0 1,l6 good site 1 5,l6 good site 2 1]
abbrev re(a b c:Nat):LV:=nm a++(nm b++nm c)
def EK(a b c:Nat):∀v∈re a b c,v.oneCell'=true:=λv hv=>by
 simp[re,nm] at hv;rcases hv with rfl|rfl|rfl|rfl|rfl|rfl<;>rfl
section
variable {a b c a' b' c':Nat}
instance:Ln (re a b c) 6:=⟨rfl⟩
instance:Sub (re a b c) 0 6 (re a b c):=⟨rfl,λj v h=>by rw[az];exact h⟩
instance:Sub (re a b c) 0 2 (nm a):=⟨sJ rfl rfl⟩
instance:Sub (re a b c) 2 2 (nm b):=⟨sJ rfl rfl⟩
instance:Sub (re a b c) 4 2 (nm c):=⟨sJ rfl rfl⟩
instance:Wr wK 0 (re a b c) (re a b c):=⟨rfl,aC _,EK a b c⟩
instance:Wr (re a' b' c') 0 (re a b c) (re a b c):=⟨rfl,aC _,EK a b c⟩
instance:Wr (re a b c) 0 (nm a') (re a' b c):=⟨rfl,by show 2<=6;decide,jL a'⟩
instance:Wr (re a b c) 2 (nm b') (re a b' c):=⟨rfl,by show 4<=6;decide,jL b'⟩
instance:Wr (re a b c) 4 (nm c') (re a b c'):=⟨rfl,by show 6<=6;decide,jL c'⟩
end
def Vj:wK=re 0 0 0:=rfl
section
variable {W:World} {L R:LH} {K:VK} {X:WK} {r n o p:Nat} {good site:List UInt8} {st:Nat} {S:VS} {m:aK} {s:Nat} {f:VS×aK->LH}
def tt(hg:good.length<1099511627776)(hs:site.length<1099511627776)(h:T W L (K (if cO good site=true then .tuple ⟨[.agg ⟨re (cE good site 0) (cE good site 1) (cE good site 2)⟩,.i 0]⟩ else .tuple ⟨[.agg ⟨re 0 0 0⟩,.i 1]⟩))):
 T W L (jh (bs good) (bs site) K):=by
 unfold jh;refine jy λr1=>?_;refine jy λr2=>?_;rw[Vj];intro w l7;refine⟨λvv w'=>∃i:Nat,i<=3/\(0<i->cO good site=true)/\vv=[.p (some (ad r1 0)),.i 0,.p (some (ad r2 0)),.i (i:Int)]/\
                                                  St W w' (Sep.pt r2 (re (if 0<i then cE good site 0 else 0) (if 1<i then cE good site 1 else 0) (if 2<i then cE good site 2 else 0))::Sep.pt r1 (re 0 0 0)::L),
  mq 3 3,⟨0,by decide,λhh=>aR hh (by decide),rfl,l7⟩,?_⟩
 rintro a1 n1 a2 n2 w2 ⟨i,hi,iw,e,gJ⟩;cases e
 refine T.at ?_ gJ;have e5:=oe i;apply gO<;>intro g1
 ·refine dv (by decide) ?_;refine afO hg hs (by omega) ?_;cases hp:cO good site with
  |false=>
   have ZL:i=0:=by
    rcases Nat.eq_zero_or_pos i with h0|h0
    ·exact h0
    ·have:=iw h0;rw[hp] at this;cases this
   subst ZL;rw[ah (by rw[hp];decide)] at h;rw[ah (show ¬(false=true) by decide)];apply ws;intros;apply hG (by decide);apply ws;exact T.drop (T.drop (T.drop h))
  |true=>
   rw[aj (show true=true from rfl)];apply ws;intros;rename_i r3;apply cW (by decide);apply ws;refine dv ⟨by omega,by omega⟩ ?_;rw[e5];have Nn:i<3:=by omega
   have ea:∀k:Nat,(ad r2 0).add k=⟨r2,k,none⟩:=λk=>by show(⟨r2,0,none⟩:Addr).add k=_;rw[dh,az]
   match i,Nn with
   |0,_=>
    rw[show(ad r2 0).add (((0:Nat):Int).toNat* 2)=⟨r2,0,none⟩ from ea 0];apply ws;exact T.drop λw3 h3=>⟨⟨1,by decide,λ_=>rfl,rfl,h3⟩,dn (by decide)⟩
   |1,_=>
    rw[show(ad r2 0).add (((1:Nat):Int).toNat* 2)=⟨r2,2,none⟩ from ea 2];apply ws;exact T.drop λw3 h3=>⟨⟨2,by decide,λ_=>rfl,rfl,h3⟩,dn (by decide)⟩
   |2,_=>
    rw[show(ad r2 0).add (((2:Nat):Int).toNat* 2)=⟨r2,4,none⟩ from ea 4];apply ws;exact T.drop λw3 h3=>⟨⟨3,by decide,λ_=>rfl,rfl,h3⟩,dn (by decide)⟩
 ·have Nn:i=3:=by omega
  subst Nn;rw[aj (iw (by decide))] at h;apply ws;exact T.drop (T.drop h)
end
section
variable {W:World} {L R:LH} {K:VK} {X:WK} {r n o p:Nat} {good site:List UInt8}
def OS:nm 0=[.u 0,.u 0]:=rfl
def zf{st:Nat}:nm (cE good site st)++[.u 0,.u 0,.u 0,.u 0,.u 0,.u 0,.u 0,.u 0,.i 7,.i 1,.i 1,.i 0]=aP (l6 good site st 1):=by
 unfold aP l6;rw[OS]
 rfl
def Dr{b:OA}{c:Nat}:ff (BB good site) ⟨b,c,none,0,none,0⟩=mY 1 b 3 c:=by
 show[.i 1,.l b 3 c,.l none 0 0,.i 0,.l none 0 0]++(nm 0++[.i 0,.i 0,.b false,.b false,.b false,.i 0])=_;rw[OS];rfl
set_option maxHeartbeats 2000000 in
def Fo(hg:good.length<1099511627776)(hs:site.length<1099511627776)
 (h0:cO good site=false->T W L (K (.tuple ⟨[.agg ⟨ff q0 s0⟩,.i 1]⟩)))
 (h1:cO good site=true->∀ab ac,T W (own ab 3 ac 14 ((BB good site).aB.flatMap aP)::L) (K (.tuple ⟨[.agg ⟨ff (BB good site) ⟨ab,ac,none,0,none,0⟩⟩,.i 0]⟩))):
 T W L (iO (bs good) (bs site) K):=by
 unfold iO;refine jy λr1=>?_;refine tt hg hs ?_;cases hp:cO good site with
 |false=>
  rw[ah (by decide)];apply ws;intros;apply hG (by decide);apply ws;exact T.drop (T.drop (h0 hp))
 |true=>
  rw[aj rfl];have h1:=h1 hp;apply ws;intros;rename_i r2;apply cW (by decide);refine dv ⟨rfl,trivial⟩ ?_;refine jy λr3=>?_;show T W (Sep.pt r3 (mY 0 none 0 0)::_) (aY (13=13) (fH (ad r3 0) (mY 1 none 0 0) _));apply ws;refine T.sub (M:=Sep.pt r3 (mY 1 none 0 0)::Sep.pt r1 (mY 0 none 0 0)::L) ?_ (by exact sg);refine jr (e:=14) ?_;intro w l7;refine⟨λvv w'=>∃(i:Nat)(ab:OA)(ac:Nat),i<=3/\vv=[.p (some (ad r1 0)),.i 0,.p (some (ad r3 0)),.agg ⟨re (cE good site 0) (cE good site 1) (cE good site 2)⟩,.i (i:Int)]/\
     St W w' (own ab i ac 14 (((QG good site).take i).flatMap aP)::Sep.pt r3 (mY 1 ab i ac)::Sep.pt r1 (mY 0 none 0 0)::L),
   mq 4 3,⟨0,none,0,by decide,rfl,l7⟩,?_⟩
  rintro a1 n2 a2 qL n3 w2 ⟨i,ab,ac,hi,e,gJ⟩;cases e
  refine T.at ?_ gJ;have e5:=oe i;apply gO<;>intro g1
  ·have Nn:i<3:=by omega
   refine dv ⟨by omega,by omega⟩ ?_;refine jy λr4=>?_;have stepT:∀(fl:Int)(r5:Nat),(QG good site)[i]?=some (l6 good site i fl)->T W (Sep.pt r5 (aP (l6 good site i fl))::own ab i ac 14 (((QG good site).take i).flatMap aP)::Sep.pt r3 (mY 1 ab i ac)::Sep.pt r1 (mY 0 none 0 0)::L)
    (iO.j1 K (ad r3 0) r5 (λvv w'=>∃(i:Nat)(ab:OA)(ac:Nat),i<=3/\vv=[.p (some (ad r1 0)),.i 0,.p (some (ad r3 0)),.agg ⟨re (cE good site 0) (cE good site 1) (cE good site 2)⟩,.i (i:Int)]/\
     St W w' (own ab i ac 14 (((QG good site).take i).flatMap aP)::Sep.pt r3 (mY 1 ab i ac)::Sep.pt r1 (mY 0 none 0 0)::L)) (ad r1 0) 0 (re (cE good site 0) (cE good site 1) (cE good site 2)) (i:Int) (mq 4 3) w2):=by
    intro fl r5 hx;unfold iO.j1;have hlen:((QG good site).take i).length=i:=by rw[aG];show min i 3=i;omega
    apply ws;intros;rename_i r6;refine mU (b:=ab) (g:=aP) (l:=(QG good site).take i) (x:=l6 good site i fl) (bN _) rfl rfl (by omega) (by omega) (iZ _) λb2 c2=>?_;apply ws;rw[e5];refine T.sub (M:=own b2 (i+1) c2 14 (((QG good site).take (i+1)).flatMap aP)::Sep.pt r3 (mY 1 b2 (i+1) c2)::Sep.pt r1 (mY 0 none 0 0)::L) (λw3 h3=>⟨⟨i+1,b2,c2,Nn,rfl,h3⟩,dn (by omega)⟩) ?_;rw[show(QG good site).take (i+1)=(QG good site).take i++[l6 good site i fl] from by rw[bP,hx];rfl];exact sg
   rcases(show i=0\/i=1\/i=2 by omega) with rfl|rfl|rfl
   ·
    show T W _ (aY ((nm (cE good site 0)).length=2) (fH (ad r4 0) (nm (cE good site 0)) _));apply ws;intros;rename_i r5;rw[zf];apply ws;apply cW (by decide);exact T.sub (stepT 1 r5 rfl) (by exact sg)
   ·
    show T W _ (aY ((nm (cE good site 1)).length=2) (fH (ad r4 0) (nm (cE good site 1)) _));apply ws;intros;rename_i r5;rw[zf];apply ws;apply hG (by decide);apply ws;rw[show ch ag BinOp.or (l6 good site 1 1).au 4=5 from by show ch .i64 .or 1 4=5;decide];show T W (Sep.pt r5 (aP (l6 good site 1 5))::Sep.pt r4 (nm (cE good site 1))::_) _;exact T.sub (stepT 5 r5 rfl) (by exact sg)
   ·
    show T W _ (aY ((nm (cE good site 2)).length=2) (fH (ad r4 0) (nm (cE good site 2)) _));apply ws;intros;rename_i r5;rw[zf];apply ws;apply cW (by decide);exact T.sub (stepT 1 r5 rfl) (by exact sg)
  ·have Nn:i=3:=by omega
   subst Nn;show T W (own ab 3 ac 14 ((QG good site).flatMap aP)::_) _;apply ws;refine gu (b:=ab) ⟨by decide,by decide⟩ λrb hrb=>?_;subst hrb;show T W _ (ld (Addr.add ⟨rb,2* 14,none⟩ 12) _);rw[dh];refine Er (o:=2) (j:=12) (g:=aP) (x:=l6 good site 2 1) (λ_=>rfl) rfl rfl ?_;apply oU;refine gu (b:=ai rb) ⟨by decide,by decide⟩ λYi adl=>?_;obtain rfl:Yi=rb:=by cases adl;rfl
   rw[show ch ag BinOp.andNot (l6 good site 2 1).au 1=0 from by show ch .i64 .andNot 1 1=0;decide];show T W _ (st (Addr.add ⟨Yi,2* 14,none⟩ 12) (.i 0) _);rw[dh];refine VD (o:=2) (j:=12) (g:=aP) (x:=l6 good site 2 1) (y:=l6 good site 2 0) (λ_=>rfl) rfl rfl (by decide) rfl ?_;apply ws;show T W (own (ai Yi) 3 ac 14 ((BB good site).aB.flatMap aP)::_) _;have hh:=h1 (ai Yi) ac;rw[Dr] at hh;exact T.sub hh (by exact sg)
end
instance{e e':Int}{rb ab tb rb' ab' tb':OA}{rn rc an ac tn tc rn' rc' an' ac' tn' tc':Nat}:Wr (ie e rb rn rc ab an ac tb tn tc) 0 (ie e' rb' rn' rc' ab' an' ac' tb' tn' tc') (ie e' rb' rn' rc' ab' an' ac' tb' tn' tc'):=⟨rfl,aC _,yk⟩
def Bc(e:Int)(res:List Int):Bool:=decide (e=0)&&decide (0<res.length)&&res.all (·==0)
section
variable {W:World} {L R M:LH} {K:VK} {X:WK} {n p s g:Nat} {good site:List UInt8} {S:VS} {m:aK} {q:iA} {sl:rY}
def vO{e:Int}{rb ab tb:OA}{rc an ac tn tc:Nat}{res:List Int}(hr:kF W L I1 1 rb res)(hl:res.length<=100000)(h:T W L (K (.b (Bc e res)))):T W L (gX (ie e rb res.length rc ab an ac tb tn tc) K):=by
 unfold gX;apply ws;intros;rename_i r1;have Kp:kF W (Sep.pt r1 (ie e rb res.length rc ab an ac tb tn tc)::L) I1 1 rb res:=hr.mono;intro w l7;refine⟨λvv w=>∃(i:Nat),i<=res.length/\(∀c∈res.take i,c=0)/\vv=[.p (some (ad r1 0)),.b false,.l rb res.length rc,.i (res.length:Int),.i (i:Int)]/\St W w (Sep.pt r1 (ie e rb res.length rc ab an ac tb tn tc)::L),
  mq 4 res.length,⟨0,aL _,λc hc=>(by cases hc),rfl,l7⟩,?_⟩
 rintro a1 b1 mg jJ mP n1 n2 w2 ⟨i,hi,hz,he,gJ⟩;cases he
 refine T.at ?_ gJ;have e5:=oe i;unfold Bc at h;apply gO<;>intro g1
 ·have bW:i<res.length:=by omega
  have gx:=ao bW;have gm:=bT bW;have rM:res.take (i+1)=res.take i++[res[i]]:=by rw[bP,gx];rfl
  generalize res[i]=y at gx gm rM;refine iu (hh:=Has.refl) Kp ⟨by omega,by omega⟩ rfl λa ha=>?_;rw[aq];refine HS (hh:=Has.refl) Kp ha gx ?_;refine oU ?_;apply dz<;>intro g2
  ·have g2:y≠0:=by simpa using g2
   have gV:res.all (·==0)=false:=by
    rw[List.all_eq_false];exact⟨y,gm,by simpa using g2⟩
   rw[gV,Bool.and_false] at h;exact T.drop h
  ·have g2:y=0:=by simpa using g2
   rw[e5];refine λw3 h3=>⟨⟨i+1,bW,λc hc=>?_,rfl,h3⟩,dn (by omega)⟩;rw[rM] at hc;rcases dG.1 hc with hc|hc
   ·exact hz c hc
   ·rw[fO.1 hc];exact g2
 ·have kP:i=res.length:=by omega
  subst kP;rw[bF] at hz;have gV:res.all (·==0)=true:=by
   rw[kh];intro c hc;rw[hz c hc];rfl
  rw[gV,Bool.and_true] at h;apply ws;apply dz<;>intro g2
  ·have g2:e=0:=by simpa using g2
   rw[aA g2,dX] at h;apply ws;have e1:decide ((res.length:Int)>0)=decide (0<res.length):=by rw[decide_eq_decide];omega
   rw[e1];exact T.drop h
  ·have g2:e≠0:=by simpa using g2
   rw[ay g2,gI] at h;exact T.drop h
def P9{e:Int}(he:e≠0){p:OA}{cs:LV}(h:T W L (K (.agg ⟨ie e none 0 0 none 0 0 none 0 0⟩))):T W L (fK p cs e K):=by
 unfold fK;refine jy λr1=>?_;refine jy λr2=>?_;refine hG (by simpa using he) ?_;refine dv ⟨rfl,trivial⟩ ?_;show T W (Sep.pt r2 (ie 0 none 0 0 none 0 0 none 0 0)::_) (aY (4=4) (fH (ad r2 0) (ie e none 0 0 none 0 0 none 0 0) _));apply ws;exact T.drop (T.drop h)
def E9(G:nX W)(hR:Rm n g S)(hn:12<=n/\n<=4096)(HF:S.J.seq<1000000)(hg:g+3<256)(EU:Md.cR m)(hj:9<=S.J.hi-S.J.lo)(uY:eL (bo m)->fX (cU (bo m)).length<=cQ n)
 (hB:∀{L:LH} {K:VK},kF W L aP 14 sl.sa q.aB->kF W L aX 16 sl.st q.cx->T W L (K (.s (bs (kO q))))->T W L (fh (ff q sl) K))(hw:iV q=true)(he:fN q=true)(Fx:q.aB.length<=255)(bW:q.cx.length<=255)
 (Zv:kF W L aP 14 sl.sa q.aB)(hrm:kF W L aX 16 sl.st q.cx)
 (ht:Em m (kO q)=(cC m q).2.2/\FN m (kO q)=uh 0 (cC m q).2.1 [] [])
 (h:∀S' rb rc ab ac tb tc,Rm n (g+3) S'->S'.J.seq<=S.J.seq+1->Md.cR (cC m q).2.2->T W (own rb (cC m q).2.1.length rc 1 ((cC m q).2.1.flatMap I1)::HB n s (S',(cC m q).2.2)::L) (K (.agg ⟨ie 0 rb (cC m q).2.1.length rc ab 0 ac tb 0 tc⟩))):
 T W (HB n s (S,m)::L) (fK (ai s) (ff q sl) 0 K):=by
 unfold fK;refine jy λr1=>?_;refine jy λr2=>?_;refine cW rfl ?_;apply ws;have hq:=Dx hw he;refine hB ?_ ?_ ?_
 ·exact Zv.mono
 ·exact hrm.mono
 apply xQ;refine JZ (n:=n) (s:=s) λm9=>?_;have uY:=uY m9;obtain⟨k1,k2⟩:=V3 hR hn (by omega) uY m9;refine YW G (n:=n) (s:=s) EU k1 (λ_=>k2) hn.1 hn.2 (by omega) λhgs _=>?_;obtain⟨d1,d2,d3⟩:=acJ (l:=kO q) hR hn HF hg m9 EU uY hj (by omega);rw[d1] at hgs⊢;dsimp only at hgs⊢;rw[ht.1] at hgs⊢;rw[ht.2];generalize Ia n m S (kO q)=S1 at d2 d3⊢;apply xQ;have eg:na q=true:=by
  have T5:q.op=1\/q.op=2\/q.op=3:=bG he;unfold iV at hw;have:oN q=false:=by unfold oN;rw[ah (by omega),ah (by omega)]
  rw[this,Bool.or_false,cY] at hw;exact hw.1
 have hf:=GZ (m:=m) EU eg;rw[yP hw he] at hf;have Zu:Lu 0 (cC m q).2.1 [] []=(0,(cC m q).2.1,[],[]):=by unfold Lu;rw[aj hf]
 generalize (cC m q).2.1=res at h Zu⊢;refine Im (λa h=>by cases h) (λt h=>by cases h) λrb rc ab ac tb tc=>?_;rw[Zu];apply ws;intros;rename_i r3;refine cW rfl ?_;apply ws;exact T.sub (h S1 rb rc ab ac tb tc d2 d3 hgs) (by exact sg)
end
section
variable {W:World} {L R M:LH} {K:VK} {X:WK} {n p s g:Nat} {good site:List UInt8} {S:VS} {m:aK} {q:iA} {sl:rY} {id num:Nat}
def rdP{α:Type}{x:α}{g:α->LV}{e r:Nat}{cs:LV}{f:LV->LH}[i:Lc (Sep.pt r) R cs f](hc:cs=g x):kF W R g e (ai r) [x]:=λw hw j y hy=>by
 obtain⟨k,hk,_⟩:=i.at_;cases j with
 |zero=>
  simp at hy;subst hy;refine⟨⟨r,0,none⟩,rfl,λo v hv=>?_⟩;rw[Nat.zero_mul,dh,dh,az];rw[<-hc] at hv;rw[(hw.cell (o:=o) hk).1];exact hv
 |succ j=>simp at hy
def TR{k:Nat}(hk:k<18446744073709551616)(h:T W L (K (.agg ⟨nm k⟩))):T W L (jN (k:Int) K):=by
 unfold jN;have e:([.u 0,.u (IntKind.u64.wrap (k:Int))]:LV)=nm k:=by
  unfold nm;rw[show IntKind.u64.wrap (k:Int)=(k:Int) from by simp[IntKind.wrap,IntKind.bits,IntKind.signed];omega,Nat.div_eq_of_lt hk,eX hk]
  rfl
 rw[e];apply ws;intros;exact T.drop h
def zv{t:cj}{b:OA}{c:Nat}:ff (Ng t) ⟨none,0,b,c,none,0⟩=[.i 2,.l none 0 0,.l b 1 c,.i 0,.l none 0 0,.u 0,.u 0,.i 0,.i 0,.b false,.b false,.b false,.i 0]:=by
 show[.i 2,.l none 0 0,.l b 1 c,.i 0,.l none 0 0]++(nm 0++[.i 0,.i 0,.b false,.b false,.b false,.i 0])=_;rw[OS];rfl
def TP{t:cj}(h:∀r,T W (Sep.pt r (aX t)::L) (K (.tuple ⟨[.agg ⟨ff (Ng t) ⟨none,0,ai r,1,none,0⟩⟩,.i 0]⟩))):T W L (tg (aX t) K):=by
 unfold tg;refine jy λr1=>?_;refine jy λr2=>?_;show T W (Sep.pt r2 (ff q0 s0)::_) _;apply ws;intros;rename_i r3;rw[bN];rw[<-zv (t:=t)];apply ws;exact T.sub (h r3) (by exact sg)
def DB:nm id++(nm (cE good site 1)++(nm (cE good site 0)++(nm num++[.u 0,.u 0,.i 0,.i 7,.i 1,.i 0,.i 0,.i 0])))=aX (TL id good site num):=by
 unfold aX TL;rw[OS]
 rfl
def zU(hg:good.length<1099511627776)(hs:site.length<1099511627776)
 (h0:cO good site=false->T W L (K (.tuple ⟨[.agg ⟨ff q0 s0⟩,.i 1]⟩)))
 (h1:cO good site=true->∀r,T W (Sep.pt r (aX (TL id good site num))::L) (K (.tuple ⟨[.agg ⟨ff (Ng (TL id good site num)) ⟨none,0,ai r,1,none,0⟩⟩,.i 0]⟩))):
 T W L (mo (nm id) (bs good) (bs site) (nm num) K):=by
 unfold mo;refine jy λr1=>?_;refine jy λr2=>?_;refine jy λr3=>?_;refine tt hg hs ?_;cases hp:cO good site with
 |false=>
  show T W (Sep.pt r3 (mY 0 none 0 0)::_) _;rw[ah (show ¬(false=true) by decide)];apply ws;intros;apply hG (by decide);apply ws;exact T.sub (h0 hp) (by exact sg)
 |true=>
  rw[aj (show true=true from rfl)];have h1:=h1 hp;show T W (Sep.pt r3 (ff q0 s0)::_) _;apply ws;intros;rename_i r4;apply cW (by decide);apply ws;refine dv (by decide) ?_;rw[show(ad r4 0).add ((1:Int).toNat* 2)=⟨r4,2,none⟩ from by show(⟨r4,0,none⟩:Addr).add 2=_;rw[dh]];apply ws;refine dv (by decide) ?_;rw[show(ad r4 0).add ((0:Int).toNat* 2)=⟨r4,0,none⟩ from by show(⟨r4,0,none⟩:Addr).add 0=_;rw[dh]];apply ws;rw[DB];refine TP λr5=>?_;apply ws;exact T.sub (h1 r5) (by exact sg)
end
def De:List UInt8:=[66,79,76,84]
def ny:List UInt8:=[78,89]
def uI:cO De ny=true:=by decide
def Ru:(cC {uV with aw:=uV.aw+3,eS:=uV.eS++O0 De ny uV.aw} (Ng (TL 5 De ny 10))).2.1=[0]:=by decide+kernel
def EE:jR (TL 5 De ny 10):=by decide+kernel
def TK:Bf (TL 5 De ny 10):=by
 have h0:=yq (st:=0) uI (by decide);have h1:=yq (st:=1) uI (by decide);have i0:oc 0:=by unfold oc;omega
 have i1:oc 1:=by unfold oc;omega
 have i7:oc 7:=by unfold oc;omega
 exact⟨by decide,by show cE De ny 1<bV;omega,by show cE De ny 0<bV;omega,by decide,by decide,i0,i7,i1,i0,i0,i0⟩
section
variable {W:World} {L R M:LH} {K:VK} {X:WK} {n p s g:Nat} {good site l:List UInt8} {S:VS} {m:aK} {q:iA} {sl:rY} {id num:Nat}
def Rm.span{g:Nat}{S:VS}(h:Rm 200 g S):9<=S.J.hi-S.J.lo:=by
 have h1:=h.lo;have h2:=h.hi;rw[h1,h2];unfold cQ;omega
def aab{m:aK}{a k:Nat}(hg:eL (bo m))(ha:m.eS.length<=a)(hk:m.ax.length<=k)(h:21+96* a+217* k<=7000):fX (cU (bo m)).length<=cQ 200:=by
 have:=Dq hg ha hk;unfold fX cQ;split<;>omega
def Ds(hp:cO good site=true){ab:OA}{ac:Nat}{L:LH}{K:VK}(hr:kF W L aP 14 ab (BB good site).aB)(h:T W L (K (.s (bs (kO (BB good site)))))):T W L (fh (ff (BB good site) ⟨ab,ac,none,0,none,0⟩) K):=
 Gd rfl (by show 3<=255;decide) (N6 hp) hr h
def zQ(G:nX W)(h:T W L (K (.b true))):T W L (gF K):=by
 unfold gF;refine Oq G (n:=200) (by decide) (by decide) λs=>?_;apply ws;apply cW (by decide);show T W _ (iO (bs De) (bs ny) _);refine Fo (by decide) (by decide) (λhp=>aR (uI.symm.trans hp) (by decide)) λhp ab ac=>?_;apply ws;intros;rename_i r1;refine TR (k:=5) (by decide) ?_;apply ws;refine TR (k:=10) (by decide) ?_;apply ws;show T W _ (mo (nm 5) (bs De) (bs ny) (nm 10) _);refine zU (by decide) (by decide) (λhp=>aR (uI.symm.trans hp) (by decide)) λ_ r2=>?_;apply ws;intros;rename_i r3;refine T.pl [4] ?_;have hR0:Rm 200 0 (Gq 200):=Qn (by decide) (by decide);have he1:=(MR.nil (good:=De)).new uI (site:=ny) (by simp) (by decide);have ht1:=JO (m:=uV) uI;refine E9 G hR0 (by decide) (by decide) (by decide) xl hR0.span (λhg=>aab hg (a:=0) (k:=0) (aC _) (aC _) (by decide)) (λZv _ hh=>Ds uI Zv hh) tj.1 tj.2 (by show 3<=255;decide) (by decide)
  (Lw (λ_=>rfl)) kF.nil ht1 λS1 rb rc ab2 ac2 tb2 tc2 Z8 hq1 IL=>?_
 rw[he1.1] at IL⊢;have agu:S1.J.seq<=1:=hq1;apply FQ (by rfl);refine vO (Lw vU) (by decide) ?_;apply mO;apply ib;apply ws;refine T.pl [1] ?_;refine E9 G Z8 (by decide) (by omega) (by decide) IL Z8.span (λhg=>aab hg (a:=3) (k:=0) (aC _) (aC _) (by decide)) (λ_ hrm hh=>Gb rfl (by show 1<=255;decide) (λt ht=>by cases(fO.1 ht);exact TK) hrm hh) (yC EE).1 (yC EE).2 (by decide) (by show 1<=255;decide)
  kF.nil (rdP rfl) (RK EE TK) λS2 Yi rc2 ab3 ac3 tb3 tc3 _ _ _=>?_
 apply FQ (by rfl);rw[Ru];refine vO (Lw vU) (by decide) ?_;apply mO;exact T.sub h (by exact sg)
def Gr{n:Nat}(hl:l.length<1099511627776)(h:T W L (K (.b (o5 l n)))):T W L (bO (bs l) (n:Int) K):=by
 unfold bO;unfold o5 at h;rw[bn];by_cases hZ:l=[]
 ·subst hZ;refine hG rfl ?_;unfold bO.j1;exact ib h
 have hlen:l.length≠0:=λhh=>hZ (List.length_eq_zero_iff.1 hh);rw[aA hZ,dX] at h;refine cW (by simpa using hlen) ?_;unfold bO.j1;apply gO<;>intro g1
 ·rw[ay (by omega),gI] at h;exact h
 rw[aA (by omega),dX] at h;intro w l7;refine⟨λvv w=>∃(i:Nat),i<=l.length/\(∀c∈l.take i,nJ c=true)/\vv=[.b false,.i (i:Int)]/\St W w L,mq 1 l.length,⟨0,aL _,λc hc=>(by cases hc),rfl,l7⟩,?_⟩;rintro b2 n2 w2 ⟨i,hi,hz,he,gJ⟩;cases he
 refine T.at ?_ gJ;have e5:=oe i;apply gO<;>intro g1
 ·have bW:i<l.length:=by rw[bn] at g1;omega
  have gx:=ao bW;have gm:=bT bW;have rM:l.take (i+1)=l.take i++[l[i]]:=by rw[bP,gx];rfl
  generalize l[i]=c at gx gm rM;refine tY gx ?_;have hsg:nJ c=true↔((65<=c.toNat/\c.toNat<=90)\/(48<=c.toNat/\c.toNat<=57)\/c.toNat=45):=by
   unfold nJ;simp only[Bool.or_eq_true,decide_eq_true_eq,or_assoc]
  have good:((65<=c.toNat/\c.toNat<=90)\/(48<=c.toNat/\c.toNat<=57)\/c.toNat=45)->T W L (ct (λvv w=>∃(i:Nat),i<=l.length/\(∀c∈l.take i,nJ c=true)/\vv=[.b false,.i (i:Int)]/\St W w L) (mq 1 l.length) [.b false,.i (ag.wrap ((i:Int)+1))] [.b false,.i (i:Int)] w2):=λhc=>by
   rw[e5];refine λw3 h3=>⟨⟨i+1,bW,λd hd=>?_,rfl,h3⟩,dn (by omega)⟩;rw[rM] at hd;rcases dG.1 hd with hd|hd
   ·exact hz d hd
   ·rw[fO.1 hd];exact hsg.2 hc
  have bad: ¬((65<=c.toNat/\c.toNat<=90)\/(48<=c.toNat/\c.toNat<=57)\/c.toNat=45)->T W L (K (.bool false)):=λhc=>by
   have gV:l.all nJ=false:=by
    rw[List.all_eq_false];exact⟨c,gm,λhh=>hc (hsg.1 hh)⟩
   rw[gV] at h;exact h
  have xT: ¬(65<=c.toNat/\c.toNat<=90)-> ¬(48<=c.toNat/\c.toNat<=57)->T W L (br (!((c.toNat:Int)==45)) (K (.b false)) (ct (λvv w=>∃(i:Nat),i<=l.length/\(∀c∈l.take i,nJ c=true)/\vv=[.b false,.i (i:Int)]/\St W w L) (mq 1 l.length) [.b false,.i (ag.wrap ((i:Int)+1))] [.b false,.i (i:Int)] w2)):=λn1 n2=>by
   apply dz<;>intro a5
   ·have a5: ¬(c.toNat:Int)=45:=by simpa using a5
    exact bad (by omega)
   ·have a5:(c.toNat:Int)=45:=by simpa using a5
    exact good (by omega)
  unfold bO.j2 bO.j3;apply gO<;>intro a1
  ·apply gO<;>intro a2
   ·exact ib (good (.inl ⟨by omega,by omega⟩))
   ·apply gO<;>intro a3
    ·apply gO<;>intro a4
     ·exact good (.inr (.inl ⟨by omega,by omega⟩))
     ·exact xT (by omega) (by omega)
    ·exact fG (xT (by omega) (by omega))
  ·apply fG;apply gO<;>intro a3
   ·apply gO<;>intro a4
    ·exact good (.inr (.inl ⟨by omega,by omega⟩))
    ·exact xT (by omega) (by omega)
   ·exact fG (xT (by omega) (by omega))
 ·have kP:i=l.length:=by rw[bn] at g1;omega
  subst kP;rw[bF] at hz;rw[kh.2 hz] at h;exact h
def rZ(hg:good.length<1099511627776)(hs:site.length<1099511627776)(h:T W L (K (.b (cO good site)))):T W L (dE (bs good) (bs site) 0 K):=by
 unfold dE;unfold cO at h;refine Gr (n:=10) hg ?_;apply mO;unfold dE.j1;cases hb:o5 good 10 with
 |false=>
  rw[hb,gI] at h;exact fG (fG h)
 |true=>
  rw[hb,dX] at h;apply ib;refine Gr (n:=4) hs ?_;apply mO;cases hc:o5 site 4 with
  |false=>
   rw[hc] at h;exact fG h
  |true=>
   rw[hc] at h;refine ib (hG (by decide) ?_);exact h
def tX{α:Type}{g:α->LV}{e i:Nat}{s:OA}{l:List α}{x:α}{a:Addr}[hh:Has R L](hr:kF W R g e s l)(hs:s=some a)(hx:l[i]?=some x)(h:T W L X):T W L (kp (a.add (i* e)) (g x) X):=λw hw=>by
 obtain⟨a',ha,hh⟩:=hr w (hh.sub hw) i x hx;rw[hs] at ha;cases ha
 exact⟨hh,h w hw⟩
end
end Go.Up
namespace Go.Sep
open Go.Den Go.RowKit Go.ChangeShapes Go.WideShapes
inductive NK where
 |c(k:CK)
 |sl(ks:List CK)
def NK.is(W:World):NK->Value->Prop
 | .c k,v=>k.is v
 | .sl ks,v=>∃b n c xs,v=.slice b n c/\Ro W b n ks.length xs/\Qx ks n xs/\n<=reachBytes/\n<=c
def X1(W:World)(ks:List NK)(cs:LV)(o:Nat):Prop:=∀j k,ks[j]?=some k->∃v,cs[o+j]?=some v/\k.is W v
def LK(P:Program)(f:TypeId->Option (List NK)):Nat->List Field->Option (List NK)
 |_,[]=>some []
 |o,fd::r=>match f fd.type with
  |some a=>if fd.offset=o/\P.cellsOf fd.type=a.length then(LK P f (o+a.length) r).map (a++·) else none
  |none=>none
def nk(P:Program):Nat->TypeId->Option (List NK)
 |0,_=>none
 |n+1,t=>match P.underlying t with
  |some (.int k)=>some [.c (.i k)]
  |some .bool=>some [.c .b]
  |some (.slice e)=>match flat P n e with
   |some ks=>if P.cellsOf e=ks.length/\0<P.bytesOf e then some [.sl ks] else none
   |none=>none
  |some (.struct fs)=>LK P (nk P n) 0 fs.toList
  |_=>none
section
variable {H:Type} {enc:TypeId×Value->H} {P:Program} {w:World} {base:Nat} {spare:Nat->Bool} {held:Bool}
def K9{t e:TypeId}{N m:Nat}{cs:LV}{x:DataW H×List MemPlace}(Q:LV->Nat->Prop)(adq:∀xs cs o,(∀j,j<N->xs[o+j]?=cs[j]?)->Q cs 0->Q xs o)
 (hQ:∀n' cs x,DataW.trod enc P w base spare held n' e cs=some x->(∀n∈x.1.weights P e,n<=reachBytes)->cs.length=N->Q cs 0)
 (ht:P.underlying t=some (.slice e))(hc:P.cellsOf e=N)(hm:DataW.trod enc P w base spare held m t cs=some x)(hw:∀n∈x.1.weights P t,n<=reachBytes):
 ∃b n c xs,cs=[.slice b n c]/\Ro w b n N xs/\(∀i,i<n->Q xs (i* N))/\n<=maxLen/\n<=c/\n* P.bytesOf e<=reachBytes:=by
 rcases Go.Deep.open_slice ht hm with⟨rfl,rfl⟩|⟨a,n,c,k,n',D,Pl,rfl,hb,hl,hmx,hk,rfl,wT⟩
 ·exact⟨none,0,0,[],rfl,⟨by simp,λ_=>rfl,λa h=>by cases h⟩,λi h=>by omega,by decide,aC _,by simp⟩
 ·have hlk:n<=k:=by rw[hk];split<;>omega
  simp only[DataW.weights,ht] at hw;have nR:∀i,i<n->∀j,j<N->∃v,w.cell? (a.add (i* N+j))=some v:=λi hi j hj=>by
   obtain⟨sS,h1,h2⟩:=wT i (by omega);obtain⟨_,h3,h4⟩:=World.cells?_some h1;rw[hc] at h3 h4;refine⟨sS[j],?_⟩;rw[<-add_add,h4 j hj];simp[h3,hj]
  have IM:∀j,j<n* N->∃v,w.cell? (a.add j)=some v:=λj hj=>by
   have Ca:0<N:=by
    cases hks:N with
    |zero=>rw[hks] at hj;omega
    |succ x=>omega
   have h1:j/N<n:=by rw[Nat.div_lt_iff_lt_mul Ca];exact hj
   have h2:j%N<N:=Nat.mod_lt _ Ca;obtain⟨v,hv⟩:=nR _ h1 _ h2;refine⟨v,?_⟩;rw[<-hv];congr 2;have:=Nat.div_add_mod j N;rw[Nat.mul_comm] at this;omega
  refine⟨some a,n,c,(mD (n* N)).map λj=>(w.cell? (a.add j)).getD (.bool false),rfl,⟨by simp,λh=>(by cases h),λa' ha' j v hv=>?_⟩,λi hi=>?_,by omega,hl,?_⟩
  ·cases ha'
   rw[dC,Option.map_eq_some_iff] at hv;obtain⟨j',HH,rfl⟩:=hv;obtain⟨bW,rfl⟩:=ar.1 HH;simp only[List.length_range] at bW;simp only[List.getElem_range];obtain⟨v,hv⟩:=IM j bW;rw[hv];rfl
  ·obtain⟨sS,h1,h2⟩:=wT i (by omega);obtain⟨_,h3,h4⟩:=World.cells?_some h1;rw[hc] at h3 h4;refine adq _ sS _ (λj hj=>?_) (hQ n' sS (D i,Pl i) h2 (λx hx=>hw x (by
    simp only[gK,dG]
    refine .inr (.inl (u7 ?_ x hx))
    exact dK.2 ⟨i,List.mem_range.2 hi,rfl⟩)) h3)
   have bW:i* N+j<n* N:=by
    have:(i+1)* N<=n* N:=fS _ hi;rw[lq] at this;omega
   have hv:=h4 j hj;rw[dC,lz bW,dN,<-add_add,hv];simp[h3,hj]
  ·have:=hw _ (mE);simp only[cu,List.length_range] at this;exact Nat.le_trans (fS _ (by omega)) this
def Typed.loc{ks:List CK}{xs cs:LV}{o:Nat}(h:∀j,j<ks.length->xs[o+j]?=cs[j]?)(ht:Typed ks cs 0):Typed ks xs o:=λj k hk=>by
 obtain⟨v,hv,hi⟩:=ht j k hk;exact⟨v,by rw[h j (ar.1 hk).1,<-hv,az],hi⟩
def BY{f:TypeId->Option (List NK)}{m:Nat}{cs:LV}
 (hf:∀t ks cs x,f t=some ks->DataW.trod enc P w base spare held m t cs=some x->(∀n∈x.1.weights P t,n<=reachBytes)->X1 w ks cs 0):
 ∀(fs:List Field)(o:Nat)(ks:List NK)(xs:List (DataW H×List MemPlace)),LK P f o fs=some ks->
  (∀(i:Nat)(fd:Field),fs[i]?=some fd->DataW.trod enc P w base spare held m fd.type ((cs.drop fd.offset).take (P.cellsOf fd.type))=xs[i]?)->xs.length=fs.length->
  (∀n∈DataW.weightsEach P (fs.map (·.type)) (xs.map (·.1)),n<=reachBytes)->X1 w ks cs o
 |[],o,ks,xs,h,_,_,_=>by
  simp only[LK,bj.injEq] at h;subst h;intro j k hj;simp at hj
 |fd::r,o,ks,[],h,hx,hl,hw=>by simp at hl
 |fd::r,o,ks,x::xs,h,hx,hl,hw=>by
  simp only[LK] at h;cases ha:f fd.type with
  |none=>simp[ha] at h
  |some a=>
   simp only[ha] at h;split at h
   ·rename_i hc;cases hb:LK P f (o+a.length) r with
    |none=>simp[hb] at h
    |some b=>
     simp only[hb,dN,bj.injEq] at h;subst h;simp only[fq,DataW.weightsEach,dG] at hw;have h1:=hf fd.type a _ x ha (by have:=hx 0 fd rfl;simpa using this) (λn hn=>hw n (.inl hn));have h2:=BY hf r (o+a.length) b xs hb (λi g hg=>by have:=hx (i+1) g (by simpa using hg);simpa using this) (by simpa using hl) (λn hn=>hw n (.inr hn));intro j k hj;by_cases WT:j<a.length
     ·rw[bM WT] at hj;obtain⟨v,hv,hk⟩:=h1 j k hj;refine⟨v,?_,hk⟩;rw[hc.1,hc.2,az,List.getElem?_take_of_lt WT,px] at hv;exact hv
     ·rw[jo (by omega)] at hj;obtain⟨v,hv,hk⟩:=h2 (j-a.length) k hj;refine⟨v,?_,hk⟩;rw[show o+j=o+a.length+(j-a.length) from by omega];exact hv
   ·cases h
def Gn:∀(f:Nat)(m:Nat)(t:TypeId)(ks:List NK)(cs:LV)(x:DataW H×List MemPlace),nk P f t=some ks->DataW.trod enc P w base spare held m t cs=some x->
 (∀n∈x.1.weights P t,n<=reachBytes)->X1 w ks cs 0
 |0,_,_,_,_,_,h,_,_=>by simp[nk] at h
 |f+1,m,t,ks,cs,x,h,hx,hw=>by
  have one:∀(a:NK) v,a.is w v->X1 w [a] [v] 0:=λa v ha j k hj=>by
   cases j with
   |zero=>simp at hj;subst hj;exact⟨_,rfl,ha⟩
   |succ j=>simp at hj
  unfold nk at h;split at h
  ·rename_i k ht;cases h
   obtain⟨n,rfl,rfl,hwf⟩:=DataW.trod_int ht hx;exact one _ _ ⟨n,rfl,hwf⟩
  ·rename_i ht;cases h
   obtain⟨n,rfl,rfl⟩:=DataW.trod_bool ht hx;exact one _ _ ⟨n,rfl⟩
  ·rename_i e ht;split at h
   ·rename_i ks' hk;split at h
    ·rename_i hc;cases h
     obtain⟨b,n,c,xs,rfl,h1,h2,h3,h4,h5⟩:=K9 (Typed ks') (λ_ _ _ a b=>b.loc a) (λn' cs x h1 h2 _=>xm f n' e ks' cs x hk h1 h2) ht hc.1 hx hw;exact one _ _ ⟨b,n,c,xs,rfl,h1,h2,Nat.le_trans (Nat.le_mul_of_pos_right n hc.2) h5,h4⟩
    ·cases h
   ·cases h
  ·rename_i fs ht;obtain⟨xs,n,rfl,rfl,hl,hlen,hf⟩:=DataW.trod_struct ht hx;refine BY (m:=n) (λt ks cs x h1 h2 h3=>Gn f n t ks cs x h1 h2 h3) fs.toList 0 ks xs h (λi fd hi=>hf i fd (by simpa using hi)) (by simpa using hlen) (λn hn=>hw n ?_);simp only[DataW.weights,ht];exact hn
  ·cases h
end
end Go.Sep
namespace Go.Up
open Go.Sep Go.Den Go.RowKit Go.Prog Go.Md Go.bE
abbrev kU:CK:=.i .u64
abbrev kI:CK:=.i .i64
def Ta:List CK:=[kU,kU,kU,kU,kU,kU,kU,kU,kU,kU,kI,kI,kI,kI]
def ada:List CK:=[kU,kU,kU,kU,kU,kU,kU,kU,kU,kU,kI,kI,kI,kI,kI,kI]
def afk{xs:LV}{o j:Nat}{u v:Value}(h0:xs[o+j]?=some u)(h1:xs[o+(j+1)]?=some v)(hu:kU.is u)(hv:kU.is v):∃n,n<bV/\xs[o+j]?=(nm n)[0]?/\xs[o+(j+1)]?=(nm n)[1]?:=by
 obtain⟨a,rfl,ha⟩:=hu;obtain⟨b,rfl,hb⟩:=hv;simp[Lit.wf,IntKind.min,IntKind.max,IntKind.signed,IntKind.bits] at ha hb;obtain⟨x,rfl⟩:=bD (show 0<=a by omega);obtain⟨y,rfl⟩:=bD (show 0<=b by omega);refine⟨x* 18446744073709551616+y,by unfold bV;omega,?_,?_⟩
 ·rw[h0];show _=some (Value.int .u64 (((x* 18446744073709551616+y)/18446744073709551616:Nat):Int));rw[show(x* 18446744073709551616+y)/18446744073709551616=x from by omega]
 ·rw[h1];show _=some (Value.int .u64 (((x* 18446744073709551616+y)%18446744073709551616:Nat):Int));rw[show(x* 18446744073709551616+y)%18446744073709551616=y from by omega]
def afl{v:Value}(hv:kI.is v):∃n,v=.i n/\oc n:=by
 obtain⟨n,rfl,hn⟩:=hv;refine⟨n,rfl,?_⟩;simp[Lit.wf,IntKind.min,IntKind.max,IntKind.signed,IntKind.bits] at hn;unfold oc;omega
section
variable {xs:LV} {o j:Nat}
def Me{ks:List CK}(h:Typed ks xs o)(a:ks[j]?=some kU)(b:ks[j+1]?=some kU):∃n,n<bV/\xs[o+j]?=(nm n)[0]?/\xs[o+(j+1)]?=(nm n)[1]?:=by
 obtain⟨u,hu,h1⟩:=h _ _ a;obtain⟨v,hv,h2⟩:=h _ _ b;exact afk hu hv h1 h2
def Sl{ks:List CK}(h:Typed ks xs o)(a:ks[j]?=some kI):∃n,xs[o+j]?=some (.i n)/\oc n:=by
 obtain⟨v,hv,h1⟩:=h _ _ a;obtain⟨n,rfl,hn⟩:=afl h1;exact⟨n,hv,hn⟩
def adH(h:Typed Ta xs o):∃a,wD a/\∀j,j<Ta.length->xs[o+j]?=(aP a)[j]?:=by
 obtain⟨n0,b0,p0,q0⟩:=Me (j:=0) h rfl rfl;obtain⟨n1,b1,p1,q1⟩:=Me (j:=2) h rfl rfl;obtain⟨n2,b2,p2,q2⟩:=Me (j:=4) h rfl rfl;obtain⟨n3,b3,p3,q3⟩:=Me (j:=6) h rfl rfl;obtain⟨n4,b4,p4,q4⟩:=Me (j:=8) h rfl rfl;obtain⟨i0,r0,s0⟩:=Sl (j:=10) h rfl;obtain⟨i1,r1,s1⟩:=Sl (j:=11) h rfl;obtain⟨i2,r2,s2⟩:=Sl (j:=12) h rfl;obtain⟨i3,r3,s3⟩:=Sl (j:=13) h rfl;refine⟨⟨n0,n1,n2,n3,n4,i0,i1,i2,i3⟩,⟨b0,b1,b2,b3,b4,s0,s1,s2,s3⟩,λj hj=>?_⟩
 match j,hj with
 |0,_=>exact p0
 |1,_=>exact q0
 |2,_=>exact p1
 |3,_=>exact q1
 |4,_=>exact p2
 |5,_=>exact q2
 |6,_=>exact p3
 |7,_=>exact q3
 |8,_=>exact p4
 |9,_=>exact q4
 |10,_=>exact r0
 |11,_=>exact r1
 |12,_=>exact r2
 |13,_=>exact r3
 |j+14,h=>exact aR h (by simp[Ta])
def gNm(h:Typed [kU,kU] xs o):∃n,n<bV/\∀j,j<2->xs[o+j]?=(nm n)[j]?:=by
 obtain⟨n,b,p,q⟩:=Me (j:=0) h rfl rfl;refine⟨n,b,λj hj=>?_⟩
 match j,hj with
 |0,_=>exact p
 |1,_=>exact q
end
def YZ{α:Type}{W:World}{b:OA}{n e:Nat}{xs:LV}{g:α->LV}{l:List α}(hr:Ro W b n e xs)(hn:l.length=n)(hg:∀a,(g a).length=e)
 (hx:∀i a,l[i]?=some a->∀j,j<e->xs[i* e+j]?=(g a)[j]?):kF W [] g e b l:=λw hw i x hi=>by
 have bW:=(ar.1 hi).1;cases b with
 |none=>have:=hr.2.1 rfl;omega
 |some a=>
  refine⟨a,rfl,λj v hv=>?_⟩;have hj:j<e:=by rw[<-hg x];exact(ar.1 hv).1
  rw[add_add];exact hr.cell rfl hw (by rw[hx i x hi j hj];exact hv)
def GR{α:Type}{g:α->LV}{e:Nat}(hg:∀a,(g a).length=e):∀{l:List α} {i:Nat} {a:α} {j:Nat},l[i]?=some a->j<e->(l.flatMap g)[i* e+j]?=(g a)[j]?
 |[],i,a,j,h,_=>by simp at h
 |x::l,0,a,j,h,hj=>by
  simp at h;subst h;rw[eP,Nat.zero_mul,az,bM (by rw[hg];exact hj)]
 |x::l,i+1,a,j,h,hj=>by
  rw[aW] at h;rw[eP,lq,Nat.one_mul,jo (by rw[hg];omega),hg,show i* e+e+j-e=i* e+j from by omega];exact GR hg h hj
def Rp{α:Type}{W:World}{b:OA}{n e:Nat}{xs:LV}{g:α->LV}{ks:List CK}(q:α->Prop)(hk:ks.length=e)(hr:Ro W b n e xs)(he:Qx ks n xs)(hg:∀a,(g a).length=e)
 (dec:∀o,Typed ks xs o->∃a,q a/\∀j,j<ks.length->xs[o+j]?=(g a)[j]?):∃l:List α,l.length=n/\kF W [] g e b l/\∀a∈l,q a:=by
 subst hk;obtain⟨l,h1,h2,h3⟩:=IY g q hg dec he hr.1;exact⟨l,h1,YZ hr h1 hg λi a hi j hj=>by rw[h2];exact GR hg hi hj,h3⟩
end Go.Up
namespace Go.Sep
open Go.Den Go.RowKit Go.ChangeShapes Go.WideShapes
section
variable {H:Type} {enc:TypeId×Value->H} {P:Program} {w:World} {base:Nat} {spare:Nat->Bool} {held:Bool}
def EI{t:TypeId}{fs:Array Field}{f:Nat}{ks:List NK}{v:Value}{r:Reach}{b0:Nat}{d:DataW H}{ps:List MemPlace}(ht:P.underlying t=some (.struct fs))(he:nk P f t=some ks)(hc:P.cellsOf t=ks.length)
 (uW:Value.okWide P w r b0 t v)(hd:DataW.Trod enc P w base spare held t v d ps)(hw:∀n∈d.weights P t,n<=reachBytes):
 ∃cs:LV,v=.agg ⟨cs⟩/\cs.length=ks.length/\X1 w ks cs 0:=by
 obtain⟨cs,rfl,hl⟩:=okWide_struct ht uW;obtain⟨m,hm⟩:=hd;refine⟨cs.toList,rfl,by simp[hl,hc],?_⟩;exact Gn f m t ks cs.toList _ he (by simpa [Value.cells] using hm) hw
end
end Go.Sep
namespace Go.Up
open Go.Sep Go.Den Go.RowKit Go.Prog Go.Md Go.bE
def rpK:List NK:=[.c kI,.sl [kI],.sl Ta,.sl ada]
def Rl{W:World}{cs:LV}(hl:cs.length=4)(h:X1 W rpK cs 0):∃(e:Int)(rb ab tb:OA)(rn rc ac tn tc:Nat)(al:List bp),cs=ie e rb rn rc ab al.length ac tb tn tc/\kF W [] aP 14 ab al/\∀a∈al,wD a:=by
 obtain⟨v0,h0,e,rfl,_⟩:=h 0 _ rfl;obtain⟨v1,h1,rb,rn,rc,x1,rfl,_⟩:=h 1 _ rfl;obtain⟨v2,h2,ab,an,ac,x2,rfl,r2,e2,m2,_⟩:=h 2 _ rfl;obtain⟨v3,h3,tb,tn,tc,x3,rfl,_⟩:=h 3 _ rfl;obtain⟨al,a1,a2,a3⟩:=Rp wD rfl r2 e2 (g:=aP) (λ_=>rfl) λo h=>adH h;refine⟨e,rb,ab,tb,rn,rc,ac,tn,tc,al,?_,a2,a3⟩;subst a1
 match cs,hl with
 |[a,b,c,d],_=>
  simp at h0 h1 h2 h3;rw[h0,h1,h2,h3];rfl
def Gl{cs:LV}(hl:cs.length=2)(h:Typed [kU,kU] cs 0):∃n,n<bV/\cs=nm n:=by
 obtain⟨n,b,hn⟩:=gNm h;refine⟨n,b,?_⟩
 match cs,hl with
 |[x,y],_=>
  have h0:some x=some (Value.int .u64 ((n/18446744073709551616:Nat):Int)):=hn 0 (by decide);have h1:some y=some (Value.int .u64 ((n%18446744073709551616:Nat):Int)):=hn 1 (by decide);cases h0;cases h1;rfl
end Go.Up
namespace Go.Den
inductive Kd
 |i(k:IntKind)|b|s|p|q|l|g|v
abbrev Fu:List Kd->Type
 |[]=>VK->WK
 | .i _::r=>Int->Fu r
 | .b::r=>Bool->Fu r
 | .s::r=>BA->Fu r
 | .p::r=>OA->Fu r
 | .q::r=>Addr->Fu r
 | .l::r=>OA->Nat->Nat->Fu r
 | .g::r=>LV->Fu r
 | .v::r=>Value->Fu r
abbrev Kd.n:Kd:=.i .i64
abbrev vi:Value:=.i 0
abbrev vu:Value:=.u 0
abbrev vp:Value:=.p none
abbrev vq:Value:=.p (some ⟨0,0,none⟩)
abbrev vl:Value:=.l none 0 0
abbrev vb:Value:=.bool false
def U:(k:List Kd)->Fu k->WP
 |[],F=>λa K=>match a with|[]=>F K|_=>no
 | .i t::r,F=>λa K=>match a with| .int t' n::a=>if t'=t then U r (F n) a K else no|_=>no
 | .b::r,F=>λa K=>match a with| .bool x::a=>U r (F x) a K|_=>no
 | .s::r,F=>λa K=>match a with| .string x::a=>U r (F x) a K|_=>no
 | .p::r,F=>λa K=>match a with| .pointer x::a=>U r (F x) a K|_=>no
 | .q::r,F=>λa K=>match a with| .pointer (some x)::a=>U r (F x) a K|_=>no
 | .l::r,F=>λa K=>match a with| .slice x n c::a=>U r (F x n c) a K|_=>no
 | .g::r,F=>λa K=>match a with| .agg ⟨x⟩::a=>U r (F x) a K|_=>no
 | .v::r,F=>λa K=>match a with|x::a=>U r (F x) a K|_=>no
def cur:(k:List Kd)->WP->Fu k
 |[],B=>B []
 | .i t::r,B=>λn=>cur r λa=>B (.int t n::a)
 | .b::r,B=>λx=>cur r λa=>B (.bool x::a)
 | .s::r,B=>λx=>cur r λa=>B (.string x::a)
 | .p::r,B=>λx=>cur r λa=>B (.p x::a)
 | .q::r,B=>λx=>cur r λa=>B (.p (some x)::a)
 | .l::r,B=>λx n c=>cur r λa=>B (.l x n c::a)
 | .g::r,B=>λx=>cur r λa=>B (.agg ⟨x⟩::a)
 | .v::r,B=>λx=>cur r λa=>B (x::a)
def yY:∀(k:List Kd)(B:WP) {a:LV} {K:VK} {w:World},U k (cur k B) a K w->a.length=k.length/\B a K w
 |[],B,a,K,w,h=>by
  unfold U at h;split at h
  ·exact⟨rfl,h⟩
  ·exact h.elim
 | .i t::r,B,a,K,w,h=>by
   unfold U at h;split at h
   ·split at h
    ·rename_i e;subst e;obtain⟨h1,h2⟩:=yY r _ h;exact⟨by rw[bw,h1];rfl,h2⟩
    ·exact h.elim
   ·exact h.elim
 | .b::r,B,a,K,w,h=>by
   unfold U at h;split at h
   ·obtain⟨h1,h2⟩:=yY r _ h;exact⟨by rw[bw,h1];rfl,h2⟩
   ·exact h.elim
 | .s::r,B,a,K,w,h=>by
   unfold U at h;split at h
   ·obtain⟨h1,h2⟩:=yY r _ h;exact⟨by rw[bw,h1];rfl,h2⟩
   ·exact h.elim
 | .p::r,B,a,K,w,h=>by
   unfold U at h;split at h
   ·obtain⟨h1,h2⟩:=yY r _ h;exact⟨by rw[bw,h1];rfl,h2⟩
   ·exact h.elim
 | .q::r,B,a,K,w,h=>by
   unfold U at h;split at h
   ·obtain⟨h1,h2⟩:=yY r _ h;exact⟨by rw[bw,h1];rfl,h2⟩
   ·exact h.elim
 | .l::r,B,a,K,w,h=>by
   unfold U at h;split at h
   ·obtain⟨h1,h2⟩:=yY r _ h;exact⟨by rw[bw,h1];rfl,h2⟩
   ·exact h.elim
 | .g::r,B,a,K,w,h=>by
   unfold U at h;split at h
   ·obtain⟨h1,h2⟩:=yY r _ h;exact⟨by rw[bw,h1];rfl,h2⟩
   ·exact h.elim
 | .v::r,B,a,K,w,h=>by
   unfold U at h;split at h
   ·obtain⟨h1,h2⟩:=yY r _ h;exact⟨by rw[bw,h1];rfl,h2⟩
   ·exact h.elim
def zS(FF:Fence):Prop:=FF=Fence.wide\/∃l,FF=Fence.wide.inRound l
def zS.fn{FF:Fence}(h:zS FF)(f:FuncId):FF.fn f:=by rcases h with rfl|⟨l,rfl⟩<;>exact trivial
def zS.depth{FF:Fence}(h:zS FF):FF.depth=none:=by rcases h with rfl|⟨l,rfl⟩<;>rfl
def zS.calls{FF:Fence}(h:zS FF){n:Nat}{P:Program}{f:FuncId}{args:Array Value}{w:World}{R:Ending->World->Prop}(hc:Calls P f args w R):CallsIn FF n P f args w R:=by
 rcases h with rfl|⟨l,rfl⟩
 ·exact callsIn_wide.2 hc
 ·exact CallsIn.inRound l (callsIn_wide.2 hc)
def S3(F:Fn)(ds:List Deferred)(e:Env)(a:Act):Prop:=S2 F e {a with defers:=[]}/\a.defers=ds
def QI(F:Fn)(ds:List Deferred)(Q:Exit->Env->WK):Exit->Act->World->Prop:=λex a w=>(∃e,S3 F ds e a/\Q ex e w)/\∀c,ex≠.panic c
def S3.get{F:Fn}{ds:List Deferred}{e:Env}{a:Act}(h:S3 F ds e a){t:Nat}{v:Value}(hl:lk e t=some v):a.tmps[t]?=some v:=h.1.1.get t v hl
def S3.eval{F:Fn}{ds:List Deferred}{e:Env}{a:Act}(h:S3 F ds e a){x:Operand}{v:Value}(hx:ev e x=some v):a.eval x=v:=h.1.1.eval hx
def S3.nil{F:Fn}{ds:List Deferred}{e:Env}{a:Act}(h:S3 F ds e a):S3 F ds [] a:=⟨⟨⟨h.1.1.size,rfl,λt v hl=>by simp[lk] at hl⟩,h.1.2⟩,h.2⟩
def S3.cons{F:Fn}{ds:List Deferred}{e:Env}{a:Act}{t:Nat}{v:Value}(hv:a.tmps[t]?=some v)(h:S3 F ds e a):S3 F ds ((t,v)::e) a:=
 ⟨⟨⟨h.1.1.size,rfl,λs u hl=>by
   rw[uq] at hl
   split at hl
   ·rename_i DN;subst DN;cases hl;exact hv
   ·exact h.1.1.get s u hl⟩,h.1.2⟩,h.2⟩
def S3.start{F:Fn}{a:Act}(hC:F.C=[])(hn:a.tmps.size=F.n):S3 F a.defers [] a:=
 ⟨⟨⟨hn,rfl,λt v hl=>by simp[lk] at hl⟩,⟨hn,rfl,λt v hl=>by rw[hC] at hl;simp[lk] at hl⟩⟩,rfl⟩
def OG{F:Fn}{ds:List Deferred}{w:World}{e:Env}{a:Act}{d:Option Tmp}{v:Value}{K:Env->WK}(hs:S3 F ds e a)(h:pt F.n F.C e d v K w):∃e',S3 F ds e' (a.put d v)/\K e' w:=by
 obtain⟨e',h1,h2⟩:=rK (a:={a with defers:=[]}) hs.1 h;refine⟨e',⟨?_,?_⟩,h2⟩
 ·cases d<;>exact h1
 ·cases d<;>exact hs.2
def S3.put{F:Fn}{ds:List Deferred}{e:Env}{a:Act}{t:Tmp}{v:Value}(w:World)(hs:S3 F ds e a)(ht:(Nat.blt t F.n&&cover F.C t)=true):S3 F ds ((t,v)::e) (a.put (some t) v):=by
 obtain⟨e',h1,h2⟩:=OG (d:=some t) (v:=v) (K:=λe' _=>e'=(t,v)::e) (w:=w) hs (by simp only[pt,ht,cond_true]);subst h2;exact h1
def Ps{F:Fn}{ds:List Deferred}{w:World}{e:Env}{a:Act}{ops:Array Oper}{o:Oper}{run skip:Env->WK}{X:Prop}(hs:S3 F ds e a)(h:guarded ops o e run skip w)
 (hr:∀e',S3 F ds e' a->Region.wanted o (yielded ops a.tmps)=true->run e' w->X)
 (hk:∀e',S3 F ds e' a->Region.wanted o (yielded ops a.tmps)=false->skip e' w->X):X:=
 ql (a:={a with defers:=[]}) hs.1 h (λe' h1=>hr e' ⟨h1,hs.2⟩) (λe' h1=>hk e' ⟨h1,hs.2⟩)
def S3.zip{F:Fn}{ds:List Deferred}{e:Env}{a:Act}(hs:S3 F ds e a){l:List (Nat×Value)}{vs:LV}(h:tp e l=some vs):S3 F ds (xH l vs F.C) a:=⟨S2.zip (a:={a with defers:=[]}) hs.1 h,hs.2⟩
section
variable {F:Fn} {ds:List Deferred} {P:Program} {w:World} {e:Env} {a:Act} {ops:Array Oper} {FF:Fence} {n:Nat}
def To.RG{o:Oper}{K:VK}(h:To P (execOp a.eval o) w K):∀c,o.op≠.defer c:=by
 intro c hc;have key:∀r,(execOp a.eval o).run P w=.ok r w->True:=λ_ _=>trivial;have hx:execOp a.eval o=(do pure (.defer (<-resolve a.eval c o.type))):=by simp only[execOp,hc]
 rw[hx] at h;unfold To at h;simp only[Sem.run_bind] at h;cases hr:(resolve a.eval c o.type).run P w with
 |ok d w1=>simp[hr,Result.andThen,Sem.run_pure] at h
 |halt x w1=>simp[hr,Result.andThen] at h
def HN(hW:zS FF){o:Oper}{K:VK}{next:Act->World->Prop}{Q:Exit->Act->World->Prop}(h:To P (execOp a.eval o) w K)(hk:∀v w',K v w'->next (a.put o.dst v) w'):o.wpIn FF n P a w next Q:=by
 refine⟨λf _=>hW.fn f,?_⟩;rw[Oper.semAt_eq _ _ _ h.RG];rcases h with⟨v,w',hr,h⟩|⟨w',hr,h⟩|⟨g,args,w',hr,h⟩
 ·rw[hr];exact hk _ _ h
 ·rw[hr];exact hk _ _ h
 ·rw[hr];refine⟨λhd=>(by rw[hW.depth] at hd;cases hd),?_⟩;refine CallsIn.mono (hW.calls h) λe YF ⟨v,he,hv⟩=>?_;subst he;exact hk _ _ hv
def zh(hW:zS FF)(hF:Ok F){Q:Exit->Act->World->Prop}{K:Env->WK}{tail:List Nat}(hK:∀e a w,S3 F ds e a->K e w->wpOpsIn FF n F.P ops Q tail a w):
 ∀(l:List Nat)(os:List Oper)(e:Env)(a:Act)(w:World),l.length=os.length->(∀k i:Nat,l[k]?=some i->ops[i]?=os[k]?)->S3 F ds e a->vm F ops os K e w->wpOpsIn FF n F.P ops Q (l++tail) a w
 |[],[],e,a,w,_,_,hs,h=>hK e a w hs h
 |[],_::_,_,_,_,hl,_,_,_=>by simp at hl
 |_::_,[],_,_,_,hl,_,_,_=>by simp at hl
 |i::l,o::os,e,a,w,hl,hi,hs,h=>by
  have hio:ops[i]?=some o:=hi 0 i rfl;have rest:=λe a w=>zh hW hF hK l os e a w (by simpa using hl) (λ(k j:Nat)(hk:l[k]?=some j)=>hi (k+1) j (by simpa using hk));rw[fE,wpOpsIn_cons];unfold wpOpIn;simp only[hio];refine Ps (F:=F) hs (wO h) (λe' dM hw hr=>?_) (λe' dM hw hr=>?_)
  ·rw[aj hw];refine HN (a:=a) hW (BU (a:={a with defers:=[]}) hF.eqs hF.Dn dM.1.1 hr) λv w' hv=>?_;obtain⟨PD,uX,hk⟩:=OG dM hv;exact rest _ _ _ uX hk
  ·rw[ah (by rw[hw];exact py)];refine⟨λf _=>hW.fn f,?_⟩;obtain⟨PD,uX,hk⟩:=OG dM hr;exact rest _ _ _ uX hk
def Dz(hW:zS FF)(hF:Ok F){id:Nat}{Q:Exit->Act->World->Prop}{K:Env->WK}(k:Nat)(hk:k<=ops.size)(hs:S3 F ds e a)
 (h:vm F ops (ops.toList.take k) K e w)(hK:∀e a w,S3 F ds e a->K e w->wpOpsIn FF n F.P ops Q (List.range' k (ops.size-k)) a w):(Code.region id ops false).wpIn FF n F.P Q a w:=by
 apply wpIn_region;have e1:mD ops.size=List.range' 0 k++List.range' k (ops.size-k):=by
  rw[List.range_eq_range'];have:=List.range'_append_1 (s:=0) (m:=k) (n:=ops.size-k);rw[az] at this;rw[this];congr 1;omega
 rw[e1];refine zh hW hF hK _ (ops.toList.take k) e a w (by simp;omega) (λj i hj=>?_) hs h;have HH:j<k:=by have:=(ar.1 hj).1;simpa using this
 rw[List.getElem?_range'] at hj
 ·cases hj
  rw[pw,aj HH];simp
 ·exact HH
def Q5(hW:zS FF)(hF:Ok F){Q:Exit->Act->World->Prop}{K:Env->WK}(k:Nat)(hk:k<=ops.size)(hs:S3 F ds e a)
 (h:vm F ops (ops.toList.drop k) K e w)(hK:∀e a w,S3 F ds e a->K e w->Q .normal a w):wpOpsIn FF n F.P ops Q (List.range' k (ops.size-k)) a w:=by
 have:=zh (FF:=FF) (n:=n) (Q:=Q) (tail:=[]) hW hF (λe a w hs hk=>hK e a w hs hk) (List.range' k (ops.size-k)) (ops.toList.drop k) e a w (by simp) (λj i hj=>?_) hs h
 ·simpa using this
 ·have HH:j<ops.size-k:=by have:=(ar.1 hj).1;simpa using this
  rw[List.getElem?_range'] at hj
  ·cases hj
   rw[px];simp
  ·exact HH
def drawn:Code->Bool
 | .region _ _ d=>d
 | .seq x y=>drawn x||drawn y
 | .cond _ x y=>drawn x||drawn y
 | .block _ c=>drawn c
 | .loop c=>drawn c
 |_=>false
def Xv(hW:zS FF)(hF:Ok F):∀(c:Code)(Q:Exit->Env->WK)(e:Env)(a:Act)(w:World),drawn c=false->S3 F ds e a->den F c Q e w->c.wpIn FF n F.P (QI F ds Q) a w:=by
 intro c
 induction c with
 |skip=>intro Q e a w _ hs h;exact wpIn_skip ⟨⟨e,hs,h⟩,by simp⟩
 |ret=>intro Q e a w _ hs h;exact wpIn_ret ⟨⟨e,hs,h⟩,by simp⟩
 |exit i=>intro Q e a w _ hs h;exact wpIn_exit ⟨⟨e,hs,h⟩,by simp⟩
 |seq x y ihx ihy=>
  intro Q e a w hd hs h;simp only[drawn,Bool.or_eq_false_iff] at hd;refine wpIn_seq (wpIn_mono (ihx _ e a w hd.1 hs h) ?_);rintro ex a' w' ⟨⟨e',dM,hq⟩,hp⟩;cases ex<;>simp only[Ld] at hq
  case normal=>exact ihy Q e' a' w' hd.2 dM hq
  all_goals exact⟨⟨e',dM,hq⟩,hp⟩
 |cond x c1 c2 Zi TZ=>
  intro Q e a w hd hs h;simp only[drawn,Bool.or_eq_false_iff] at hd;simp only[den] at h;cases hx:ev e x with
  |none=>simp only[hx,no] at h
  |some v=>
   cases v<;>simp only[hx,no] at h
   rename_i b;cases b with
   |true=>exact wpIn_cond_true (hs.eval hx) (Zi Q e a w hd.1 hs h)
   |false=>exact wpIn_cond_false (hs.eval hx) (TZ Q e a w hd.2 hs h)
 |block i c ih=>
  intro Q e a w hd hs h;refine wpIn_block (wpIn_mono (ih _ e a w hd hs h) ?_);rintro ex a' w' ⟨⟨e',dM,hq⟩,hp⟩;cases ex<;>simp only[Jf] at hq
  case exit j=>
   simp only[Exit.inBlock];cases hb:fe j i with
   |true=>rw[aj (df hb)];simp only[hb,cond_true] at hq;exact⟨⟨e',dM,hq⟩,by simp⟩
   |false=>
    have hZ:j≠i:=λh=>by simp[h] at hb
    rw[ah hZ];simp only[hb,cond_false] at hq;exact⟨⟨e',dM,hq⟩,by simp⟩
  all_goals exact⟨⟨e',dM,hq⟩,hp⟩
 |loop c ih=>
  intro Q e a w hd hs h;simp only[den] at h;cases hl:KP F.E' (key c) with
  |none=>simp only[hl,no] at h
  |some l=>
   simp only[hl] at h;cases hv:tp e l with
   |none=>simp only[hv,no] at h
   |some vs=>
    simp only[hv] at h;obtain⟨I,μ,h0,IG⟩:=h;have Pd:=(kJ hs.1.1 hv).2.1;refine wpIn_loop (λa w=>S3 F ds (xH l (l.map λp=>a.tmps.getD p.1 undef) F.C) a/\I (l.map λp=>a.tmps.getD p.1 undef) w/\∀f,CB (l.map (·.2)) f->f (l.map λp=>a.tmps.getD p.1 undef))
     (λa w=>μ (l.map λp=>a.tmps.getD p.1 undef) w) ?_ ?_
    ·rw[<-Pd];exact⟨hs.zip hv,h0,(kJ hs.1.1 hv).2.2⟩
    ·intro a1 w1 ⟨xC,hI1,gV⟩;have hr:=gV _ IG w1 hI1;apply wpIn_mono (ih _ _ a1 w1 hd xC hr);rintro ex a' w' ⟨⟨e',dM,hq⟩,hp⟩;cases ex<;>simp only[Ld] at hq
     case normal=>
      simp only[O6] at hq;cases Ah:tp e' l with
      |none=>simp only[Ah,no] at hq
      |some CN=>
       simp only[Ah] at hq;have IH:=(kJ dM.1.1 Ah).2.1;simp only[Exit.then];rw[<-IH];exact⟨⟨dM.zip Ah,hq.1,(kJ dM.1.1 Ah).2.2⟩,hq.2⟩
     all_goals exact⟨⟨e',dM,hq⟩,hp⟩
 |region id ops draw=>
  intro Q e a w hd hs h;simp only[drawn] at hd;subst hd;simp only[den,cond_false] at h;refine Dz hW hF ops.size (aC _) (K:=λe w=>Q .normal e w) hs (by rw[bg (by simp)];exact h) (λe a w hs hk=>?_);rw[sH];exact⟨⟨e,hs,hk⟩,by simp⟩
 |_=>intro Q e a w _ hs h;exact h.elim
def AV(hW:zS FF)(hF:Ok F){c:Code}{Q:Exit->Act->World->Prop}(hd:drawn c=false)(hs:S3 F ds e a)
 (h:den F c (λex e w=>∀a,S3 F ds e a->Q ex a w) e w):c.wpIn FF n F.P Q a w:=
 wpIn_mono (Xv hW hF c _ e a w hd hs h) (by rintro ex a' w' ⟨⟨e',dM,hq⟩,-⟩;exact hq a' dM)
def w9(hW:zS FF)(hF:Ok F){x y:Code}{Q:Exit->Act->World->Prop}(hd:drawn x=false)(hs:S3 F ds e a)
 (h:den F x (λex e w=>∀a,S3 F ds e a->Exit.then (y.wpIn FF n F.P Q) Q ex a w) e w):(x.seq y).wpIn FF n F.P Q a w:=
 wpIn_seq (AV hW hF hd hs h)
end
def Ch:Code->Code| .seq x _=>x|c=>c
def uS:Code->Code| .seq _ y=>y|c=>c
def inC:Code->Code| .block _ c=>c| .loop c=>c|c=>c
def afL:Code->Code| .rangeFunc _ _ a _=>a|c=>c
def afH:Code->Code| .rangeFunc _ _ _ b=>b|c=>c
def BS:Code->Array Oper| .region _ ops _=>ops|_=>#[]
end Go.Den
namespace Go.Den
open Go.RowKit Go.Sep
section
variable {FF:Fence} {n:Nat} {P:Program} {a:Act} {w:World} {Q:Exit->Act->World->Prop}
def zx{J:Nat->Prop}(h:∃k,J k):∃m,J m/\∀k,J k->m<=k:=by
 obtain⟨k,hk⟩:=h
 induction k using Nat.strongRecOn with
 |_ k ih=>
  by_cases hx:∃j,j<k/\J j
  ·obtain⟨j,hj,hJ⟩:=hx;exact ih j hj hJ
  ·refine⟨k,hk,λj hJ=>?_⟩;rcases Nat.lt_or_ge j k with h|h
   ·exact aR ⟨j,h,hJ⟩ hx
   ·exact h
def FG{c:Code}(J:Nat->Act->World->Prop)(h0:∃k,J k a w)
 (hr:∀k a w,J k a w->c.wpIn FF n P (Exit.then (λa' w'=>∃j,j<k/\J j a' w') Q) a w):(Code.loop c).wpIn FF n P Q a w:=by
 classical
 let μ:Act->World->Nat:=λa w=>if h:∃k,J k a w then Classical.choose (zx h) else 0
 have Zj:∀{a w}(h:∃k,J k a w),J (μ a w) a w/\∀k,J k a w->μ a w<=k:=λ{a w} h=>by
  have e:μ a w=Classical.choose (zx h):=dif_pos h;rw[e];exact Classical.choose_spec (zx h)
 refine wpIn_loop (λa w=>∃k,J k a w) μ h0 λa w h=>?_;refine wpIn_mono (hr _ a w (Zj h).1) λex a' w' hq=>?_;cases ex<;>first|exact hq|skip
 obtain⟨j,hj,hJ⟩:=hq;exact⟨⟨j,hJ⟩,ni ((Zj ⟨j,hJ⟩).2 j hJ) hj⟩
def C1{o:Oper}{x:Operand}{xs:Array Operand}{ts:Array TypeId}{l:Nat}(ho:o.op=.call {callee:=.value x,args:=xs,argTypes:=ts})(hx:a.eval x=.func (.yield l) #[] #[]):
 (execOp a.eval o).run P w=(Instr.yield l (xs.map a.eval)).run P w:=by
 simp only[execOp,ho,resolve,Deferred.ofValue,hx,Sem.run_bind,Sem.run_pure,Result.andThen_ok,invoke,Array.empty_append]
def OB(hW:FF=Fence.wide){g:Operand}{ps:Array Tmp}{assign body:Code}{gf:Nat}{lb:Array Value}(hg:a.eval g=.func (.func gf) #[] lb)
 {fg:Func}(h1:P.funcs[gf]?=some fg)(h2:(fg.name== "runtime.NumGoroutine")=false)(h3:fg.body.isNone=false)
 (h:∀fn,CallsIn FF (n-1) P gf (#[.func (.yield (w.heap.size+1)) #[] #[]]++lb) ((w.alloc (.deferred (some []))).alloc (.loop {state:=.ready,pending:=none,fn,tmps:=a.tmps,params:=ps,assign,body,defers:=w.heap.size}))
  (rangePost FF n P (w.heap.size+1) Q {a with defers:={target:=.collected w.heap.size,args:=#[]}::a.defers})):(Code.rangeFunc g ps assign body).wpIn FF n P Q a w:=by
 subst hW;apply wpIn_rangeFunc;intro fn T';obtain⟨W1,hW1⟩:∃W1,(w.alloc (.deferred (some []))).alloc (.loop {state:=.ready,pending:=none,fn:=fn,tmps:=a.tmps,params:=ps,assign:=assign,body:=body,defers:=w.heap.size})=W1:=⟨_,rfl⟩;have h:=h fn;rw[hW1] at h;refine⟨w.heap.size+1,[{target:=.collected w.heap.size,args:=#[]}],W1,{target:=.fn (.func gf) lb,args:=#[.func (.yield (w.heap.size+1)) #[] #[]]},W1,gf,
  #[.func (.yield (w.heap.size+1)) #[] #[]]++lb,W1,?_,?_,?_,?_,?_,?_⟩
 ·rw[<-hW1];exact run_enterLoop_outer _ _ _ _ _
 ·simp only[resolve,hg];simp[go_sem]
 ·intro f' WW;exact trivial
 ·simp only[invoke];exact yd h1 h2 h3 _
 ·intro hd;cases hd
 ·simpa only[fE,dm] using h
end
end Go.Den
namespace Go.Sep
open Go.Den Go.RowKit
def Nz{w:World}{b:Nat}{o:Obj}(hb:b<w.heap.size)(ho:∀c t fz,o≠.cells c t fz):view (w.putObj b o) b=some (.obj o):=by
 unfold view;rw[World.putObj_heap_same hb];cases o<;>first|rfl|exact aR rfl (ho _ _ _)
def St.Y6{W w:World}{L:LH}(h:St W w L)(o:Obj)(ho:∀c t fz,o≠.cells c t fz):St W (w.alloc o) (ob w.heap.size o::L):=by
 apply h.Y7 o (x:=.obj o);unfold view;rw[World.alloc_heap_new];cases o<;>first|rfl|exact aR rfl (ho _ _ _)
def St.put{W w:World}{L:LH}{k b:Nat}{o:Obj}(o':Obj)(h:St W w L)(hk:L[k]?=some (ob b o))(ho:∀c t fz,o'≠.cells c t fz):St W (w.putObj b o') (L.set k (ob b o')):=by
 obtain⟨h1,h2⟩:=h.obj hk;have bW:b<w.heap.size:=(Array.getElem?_eq_some_iff.1 h1).1;refine h.TA hk ⟨h.1.os,h.1.tape,h.1.output,by rw[World.putObj_size];exact h.1.size,λj hj=>?_⟩ (Nz bW ho) λj hj _=>World.putObj_heap_other hj;rw[World.putObj_heap_other (by omega)];exact h.1.block j hj
end Go.Sep
