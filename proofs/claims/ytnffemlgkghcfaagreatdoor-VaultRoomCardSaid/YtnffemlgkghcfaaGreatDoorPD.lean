/- Part of the proof: see the last text. -/
import Derived.Test.YtnffemlgkghcfaaGreatDoorPC
import Derived.Test.YtnffemlgkghcfaaGreatDoorPA
import Derived.Test.YtnffemlgkghcfaaGreatDoorPB
set_option linter.all false
set_option maxRecDepth 100000
set_option synthInstance.maxSize 100000
open Bool renaming eq_iff_iff→adX,true_and→aeC,false_and→aeL,and_eq_true→aet,false_eq_true→ad0,noConfusion→ae4
open Decidable renaming not_not→adO
open Go.IntKind renaming i64→adx
open Int renaming toNat_natCast→adB,eq_ofNat_of_zero_le→adL,le_refl→ae5
open List renaming length_map→ad1,mem_map→aek,mem_of_find?_eq_some→aey,find?_eq_none→aeW,getElem?_eq_getElem→adA,mem_of_getElem?→ad3,Mem→aep,length_reverse→aew,reverse_cons→ae6,length_cons→adW,filter_cons_of_pos→aez,filter_cons_of_neg→aeA,getElem?_eq_some_iff→adC,length_append→adD,length_take→adF,append_assoc→adI,length_drop→adM,replicate→adQ,drop_eq_getElem_cons→aef,length_replicate→aeH,cons_append→aeN,set_set→aeO,getElem?_drop→aeQ,getElem?_take→ae1,take_length→adN,take_add_one→adT,append_nil→adV,getElem_mem→adZ,Perm→ad2,take_append_drop→ad5,nil_append→aed,drop_of_length_le→aeh,drop_drop→aeK,getElem?_of_mem→aeT,perm_append_comm→adJ,Sublist→adP,getElem?_append_right→aea,map_append→ad8,take_of_length_le→adS,getElem?_map→aen,flatMap_cons→aeo,flatMap_append→aex,map_congr_left→aeR,range→ae7,pairwise_iff_getElem→aeG,ext_getElem?→aeV,take_zero→ae0,length_nil→ad6,getElem?_cons_succ→adR,drop_zero→aeJ,take_take→ae9,set_cons_succ→aeP,getElem?_append_left→adY
open Nat renaming le_refl→adG,zero_le→adK,add_zero→aev,add_mul→aeU,sub_self→aeY,min_eq_left→ae2,mul_one→ae8,zero_add→adE,pow_le_pow_right→aer,mul_le_mul_right→aem,mod_eq_of_lt→aej,reduceAdd→ady,reduceMul→adz,le_of_ble_eq_true→adH
open Option renaming isSome_some→ad9,getD_some→aec,isSome_none→aeg,getD_none→aes,map→afd,some→adU,map_some→ael
namespace Go.Up
open Go.Sep Go.Den Go.RowKit Go.Prog Go.Md Go.bI
section
variable {b:ax} {t q:Move} {d c:aS} {n:Nat} {fate:Int}
def PI(hd:AG d)(hn:fate=2→d.dq+n<aO):AG (vc d q n fate):=by
 obtain⟨⟨i1,i2,i3,i4,i5,i6,i7,i8,i9⟩,i10,i11,i12⟩:=hd;have hf:0≤d.flags%8∧d.flags%8<16:=by omega
 unfold vc open_;split
 ·exact⟨⟨i1,by show d.dp-q.aC<aO;omega,by show d.dq+n<aO;exact hn (by assumption),i4,i5,i6,i7,i8,i9⟩,i10,i11,i12⟩
 ·split
  ·exact⟨⟨i1,by show d.dp-q.aC<aO;omega,i3,i4,i5,i6,i7,by show qZ (d.flags%8);unfold qZ;omega,i9⟩,⟨i10.1,i10.2.1,by show 0≤d.flags%8∧d.flags%8≤65535;omega⟩,hf,i12⟩
  ·exact⟨⟨i1,by show d.dp-q.aC<aO;omega,i3,i4,i5,i6,i7,i8,i9⟩,i10,i11,i12⟩
def PK(hd:AG d)(hn:fate=2→d.cq+n<aO):AG (vW d q n fate):=by
 obtain⟨⟨i1,i2,i3,i4,i5,i6,i7,i8,i9⟩,i10,i11,i12⟩:=hd;have hf:0≤d.flags%8∧d.flags%8<16:=by omega
 unfold vW open_;split
 ·exact⟨⟨i1,i2,i3,by show d.cp-q.aC<aO;omega,by show d.cq+n<aO;exact hn (by assumption),i6,i7,i8,i9⟩,i10,i11,i12⟩
 ·split
  ·exact⟨⟨i1,i2,i3,by show d.cp-q.aC<aO;omega,i5,i6,i7,by show qZ (d.flags%8);unfold qZ;omega,i9⟩,⟨i10.1,i10.2.1,by show 0≤d.flags%8∧d.flags%8≤65535;omega⟩,hf,i12⟩
  ·exact⟨⟨i1,i2,i3,by show d.cp-q.aC<aO;omega,i5,i6,i7,i8,i9⟩,i10,i11,i12⟩
end
section
variable {W:World} {L R:LH} {K:VK} {X:WK} {p:Nat} {b:ax} {hs:List C} {f:ax×List C→LH} {t q:Move} {d c:aS} {n:Nat} {fate:Int} {k:Kept}
def Ct[i:Lc (bn p) L (b,hs) f](hk:b.named q.id=some k)(Qw:k.fate=1)(hq:0≤q.flags∧q.flags<256)(TX:q.aC<aO)(CU:n<aO)(hd:b.find q.aH=some d)(hc:b.find q.ar=some c)(ji:q.aH≠q.ar)(hf:fate=2∨fate=3∨fate=4)
 (FO:fate=2→d.dq+n<aO)(qM:fate=2→c.cq+n<aO)(hl:hs.length<800000)
 (h:∀dh,Ext (dz b) hs (dz (b.release q n fate)) dh 4→T W (f (b.release q n fate,dh)) (K (.tuple ⟨[]⟩))):T W L (cw (some ⟨p,0,none⟩) (ai q) (nm n) fate K):=by
 refine nd (p:=p) fun hg=>?_;obtain⟨gd,Ez⟩:=rQ hg hd;obtain⟨gc,DX⟩:=rQ hg hc;have er:b.release q n fate=((b.aF (vc d q n fate)).aF (vW c q n fate)).fate q.id fate:=by unfold ax.release;rw[hd,hc]
 rw[er] at h;have last:∀(D E:aS)(r1 r2 r3 r4:Nat),D=vc d q n fate→E=vW c q n fate→T W (Sep.pt r4 (ak E)::Sep.pt r3 (ak D)::Sep.pt r2 (nm n)::Sep.pt r1 (ai q)::L) (cw.j1 K r3 (some ⟨p,0,none⟩) r4 r1 fate):=by
  intro D E r1 r2 r3 r4 hD hE;have XI:D.id=d.id:=by rw[hD];exact(DA _ _ _ _).1
  have hEi:E.id=c.id:=by rw[hE];exact(DB _ _ _ _).1
  have gD:AG {D with af:=d.af}:=by
   have:=PI (q:=q) (n:=n) (fate:=fate) gd FO;rw[←hD] at this;have es:D.af=d.af:=by rw[hD];exact(DA _ _ _ _).2
   have e2:({D with af:=d.af}:aS)=D:=by rw[←es]
   rw[e2];exact this
  have gE:AG {E with af:=c.af}:=by
   have:=PK (q:=q) (n:=n) (fate:=fate) gc qM;rw[←hE] at this;have es:E.af=c.af:=by rw[hE];exact(DB _ _ _ _).2
   have e2:({E with af:=c.af}:aS)=E:=by rw[←es]
   rw[e2];exact this
  rw[←hD,←hE] at h;unfold cw.j1
  repeat' first|apply ww|apply wm;intro _|apply wb
  refine Ei (p:=p) (by rw[XI,Ez];exact hd) gD (by omega) fun uI x1=>?_;have l1:=x1.len;have i1:=i.next (b.aF D,uI)
  repeat' first|apply ww|apply wm;intro _|apply wb
  refine Ei (p:=p) (old:=c) (Ci (by rw[hEi,DX];exact hc) (by rw[XI,hEi,Ez,DX];exact ji)) gE (by omega) fun gN x2=>?_;have l2:=x2.len;have i2:=i.next ((b.aF D).aF E,gN)
  repeat' first|apply ww|apply wm;intro _|apply wb
  refine Ti (p:=p) (k:=k) (show((b.aF D).aF E).named q.id=some k from hk) Qw hf (by omega) fun qL x3=>?_
  repeat' first|apply ww|apply wm;intro _|apply wb
  have:=h qL (((x1.trans x2).trans x3).mono (by omega));exact T.dp this
 have Wf:∀x y:Nat,(if x<y then 0 else x-y)=x-y:=fun x y=>by split<;>omega
 unfold cw
 repeat' first|apply ww|apply wm;intro _|apply wb|with_reducible refine rY ?_|fail
 rw[hd,hc];simp only[ad9,aec]
 repeat' first|apply ww|apply wm;intro _|apply wb|with_reducible first|refine Oi gd.ok.dp TX ?_|refine Oi gc.ok.cp TX ?_|fail
 rw[Wf,Wf];refine az (fun g1=>?_) (fun g1=>?_)
 ·have g1:fate=2:=by simpa using g1
  repeat' first|apply ww|apply wm;intro _|apply wb|with_reducible first|refine yQ gd.ok.dq CU ?_|refine yQ gc.ok.cq CU ?_|fail
  rw[if_pos (FO g1),if_pos (qM g1)];refine last _ _ _ _ _ _ ?_ ?_
  ·unfold vc;rw[if_pos g1]
  ·unfold vW;rw[if_pos g1]
 ·have g1: ¬fate=2:=by simpa using g1
  have j2:∀(D:aS)(r1 r2 r3 r4:Nat),D=vc d q n fate→T W (Sep.pt r4 (ak {c with cp:=c.cp-q.aC})::Sep.pt r3 (ak D)::Sep.pt r2 (nm n)::Sep.pt r1 (ai q)::L) (cw.j2 K r1 r4 r3 (some ⟨p,0,none⟩) fate):=by
   intro D r1 r2 r3 r4 hD;unfold cw.j2
   repeat' first|apply ww|apply wm;intro _|apply wb
   rw[Nv hq.1 hq.2];refine az (fun g2=>?_) (fun g2=>?_)
   ·have g2:=of_decide_eq_true g2
    repeat' first|apply ww|apply wm;intro _|apply wb
    rw[Su gc.flags.1 gc.flags.2];refine last _ _ _ _ _ _ hD ?_;unfold vW open_;rw[if_neg g1,if_pos g2]
   ·have g2:=of_decide_eq_false g2;refine last _ _ _ _ _ _ hD ?_;unfold vW open_;rw[if_neg g1,if_neg g2]
  repeat' first|apply ww|apply wm;intro _|apply wb
  rw[So hq.1 hq.2];refine az (fun g2=>?_) (fun g2=>?_)
  ·have g2:=of_decide_eq_true g2
   repeat' first|apply ww|apply wm;intro _|apply wb
   rw[Su gd.flags.1 gd.flags.2];refine j2 _ _ _ _ _ ?_;unfold vc open_;rw[if_neg g1,if_pos g2]
  ·have g2:=of_decide_eq_false g2;refine j2 _ _ _ _ _ ?_;unfold vc open_;rw[if_neg g1,if_neg g2]
structure GF(b:ax)(k:Kept):Prop where
 aH:∃d,b.find k.move.aH=some d∧k.move.aC≤d.dp∧d.dp+d.dq<aO
 ar:∃c,b.find k.move.ar=some c∧k.move.aC≤c.cp∧c.cp+c.cq<aO
 ne:k.move.aH≠k.move.ar
def HR{id:Nat}(hn:b.named id=none){id':Nat}:(b.fate id' fate).named id=none:=by
 unfold ax.named at *;rw[aeW] at *;intro x hx;obtain⟨y,hy,rfl⟩:=aek.1 hx;have:=hn y hy;split<;>exact this
def BT{id:Nat}(hn:b.named id=none):(b.release q n fate).named id=none:=by
 unfold ax.release;split
 ·exact HR hn
 ·exact hn
def Uf(G:pK W)(ht:uY t)(Nd:kN t)(pH:lE t=0)(nV:iR t.flags)(hw:∀k∈b.kept,has k.move.flags 2→k.fate≤1→k.fate=1∧GF b k)(hl:hs.length<800000)[i:Lc (bn p) L (b,hs) f]
 (h:∀dh,Ext (dz b) hs (dz (b.mH t).2) dh 8→T W (f ((b.mH t).2,dh)) (K (.i (b.mH t).1))):T W L (mo (some ⟨p,0,none⟩) (ai t) K):=by
 have hL:f (b,hs)=L:=i.same;refine nd (p:=p) fun hg=>?_;have ck:=xM pH;have hf:0≤t.flags∧t.flags<256:=by have:=ck.flags;omega
 have bad:∀r:Int,r≠0→(b.mH t)=(r,b)→T W L (K (.i r)):=by
  intro r hr e;rw[e] at h;have:=h hs (Ext.refl _ _ _);rw[hL] at this;exact this
 unfold mo
 repeat' first|apply ww|apply wm;intro _|apply wb|with_reducible refine Ep ?_|fail
 cases hn:b.named t.id with
 |some k=>
  obtain⟨hk,_⟩:=qX hg hn;simp only[ad9,aec]
  repeat' first|apply ww|apply wm;intro _|apply wb|with_reducible refine EX hf hk.qv ?_|fail
  have:=bad (qw t k.asked) (oW _ _) (by
   unfold ax.mH
   have e1:∀(Kn:Option Kept)(x y:Bool)(m:Nat),lO t (some k) Kn x y m=qw t k.asked:=by
    intro Kn x y m;unfold lO;rw[if_neg (by simpa using pH),if_neg (by simpa using nV)]
   rw[hn]
   cases b.named t.pending with
   |none=>dsimp only;rw[e1]
   |some k2=>dsimp only;rw[e1,if_pos (oW _ _)])
  exact T.dp this
 |none=>
 simp only[aeg,aes]
 repeat' first|apply ww|apply wm;intro _|apply wb
 have Jw:∀(k2:Kept),b.named t.pending=some k2→∀(x y:Bool)(m:Nat),lO t none (some k2) x y m=(if k8 (some k2) t≠0 then k8 (some k2) t else if jL t k2.move then 26 else if has t.flags 4∧x=true then 30 else if has t.flags 4∧y=true then 31 else if 96≤m then 35 else 0):=by
  intro k2 _ x y m;unfold lO;rw[if_neg (by simpa using pH),if_neg (by simpa using nV)];dsimp only;by_cases g1: ¬has k2.move.flags 2
  ·have hv:k8 (some k2) t=24:=by unfold k8;dsimp only;rw[if_pos g1]
   rw[hv,if_pos g1,if_pos (by decide)]
  by_cases g2:dA t k2.move
  ·have hv:k8 (some k2) t=25:=by unfold k8;dsimp only;rw[if_neg g1,if_pos g2]
   rw[hv,if_neg g1,if_pos g2,if_pos (by decide)]
  by_cases g3:1<k2.fate
  ·have hv:k8 (some k2) t=25+k2.fate:=by unfold k8;dsimp only;rw[if_neg g1,if_neg g2,if_pos g3]
   rw[hv,if_neg g1,if_neg g2,if_pos g3,if_pos (by omega)]
  ·have hv:k8 (some k2) t=0:=by unfold k8;dsimp only;rw[if_neg g1,if_neg g2,if_neg g3]
   rw[hv,if_neg g1,if_neg g2,if_neg g3,if_neg (show ¬((0:Int)≠0) by decide)]
 refine QA G (fun m ji=>?_) (fun k2 rj he=>?_)
 ·repeat' first|apply ww|apply wm;intro _|apply wb
  refine lh (by simpa using ji) ?_;have:=bad _ ji (by
   unfold ax.mH
   rw[hn]
   cases hp:b.named t.pending with
   |none=>
    dsimp only
    have:lO t none none false false b.kept.length=23:=by unfold lO;rw[if_neg (by simpa using pH),if_neg (by simpa using nV)]
    rw[this];rfl
   |some k2=>
    rw[hp] at ji
    dsimp only
    rw[Jw k2 hp,if_pos ji,if_pos ji])
  exact T.dp this
 repeat' first|apply ww|apply wm;intro _|apply wb
 rw[rj] at he;obtain⟨kg,aap⟩:=qX hg rj;have Jt:k2∈b.kept:=aey rj;have h2p:has k2.move.flags 2∧k2.fate≤1:=by
  unfold k8 at he;dsimp only at he;by_cases g1: ¬has k2.move.flags 2
  ·rw[if_pos g1] at he;cases he
  rw[if_neg g1] at he;by_cases g2:dA t k2.move
  ·rw[if_pos g2] at he;cases he
  rw[if_neg g2] at he;by_cases g3:1<k2.fate
  ·rw[if_pos g3] at he;omega
  exact⟨adO.1 g1,by omega⟩
 obtain⟨QB,⟨⟨d,hd,hda,hds⟩,⟨c,hc,hca,O6⟩,ji⟩⟩:=hw k2 Jt h2p.1 h2p.2;have e0:∀r:Int,r=(if jL t k2.move then 26 else if has t.flags 4∧b.jW k2.move.aH (has k2.move.flags 64)=true then 30 else if has t.flags 4∧b.jW k2.move.ar (has k2.move.flags 128)=true then 31 else if 96≤b.kept.length then 35 else 0)→
  b.mH t=(if r≠0 then(r,b) else(0,(b.release k2.move (bU t k2.move) (cf t)).kY t (kK t k2.move) 0)):=by
  intro r hr;subst hr;unfold ax.mH;rw[rj,hn];dsimp only;rw[Jw k2 rj,he,if_neg (show ¬((0:Int)≠0) by decide)]
 have Us:has t.flags 8↔ ¬has t.flags 4:=(Gk pH nV).2.1;refine fx (by simp) ?_
 repeat' first|apply ww|apply wm;intro _|apply wb
 refine KU hf Us (fun hb=>?_) (fun hb=>?_)
 ·repeat' first|apply ww|apply wm;intro _|apply wb
  have:=bad 26 (by decide) (by rw[e0 26 (by rw[if_pos hb])];rfl);exact T.dp this
 have hN:bU t k2.move<aO:=by unfold bU;split;exact kg.move.aC;exact ht.aC
 have XG:has t.flags 4→bU t k2.move≤k2.move.aC:=fun h4=>by
  unfold jL at hb;by_cases hx:k2.move.aC<bU t k2.move
  ·exact absurd (.inl ⟨h4,hx⟩) hb
  ·omega
 have qz:=hg.af;have mC:=hg.mC;have many:=hg.many;have cl:=hg.clock;have fin:∀(r1 r2 r3 r4:Nat)(fate:Int),fate=cf t→(if 96≤b.kept.length then b.mH t=(35,b) else b.mH t=(0,(b.release k2.move (bU t k2.move) (cf t)).kY t (kK t k2.move) 0))→
  T W (Sep.pt r4 (nm (bU t k2.move))::Sep.pt r3 (ai k2.move)::Sep.pt r2 (aM zK)::Sep.pt r1 (ai t)::L) (mo.j1 K (some ⟨p,0,none⟩) r3 r4 r1 fate):=by
  intro r1 r2 r3 r4 fate Y9 B4;unfold mo.j1
  repeat' first|apply ww|apply wm;intro _|apply wb|with_reducible refine Oq ?_|fail
  by_cases g3:96≤b.kept.length
  ·rw[if_pos g3] at B4;rw[decide_eq_false (by omega)]
   repeat' first|apply ww|apply wm;intro _|apply wb
   have:=bad 35 (by decide) B4;exact T.dp this
  rw[if_neg g3] at B4;rw[decide_eq_true (by omega)];rw[B4,←Y9] at h
  repeat' first|apply ww|apply wm;intro _|apply wb
  have hf3:fate=2∨fate=3∨fate=4:=by rw[Y9];unfold cf;split<;>simp
  have h24:fate=2→has t.flags 4:=fun e=>by
   rw[Y9] at e;unfold cf at e;split at e
   ·assumption
   ·cases e
  refine Ct (p:=p) (k:=k2) (d:=d) (c:=c) (by rw[aap];exact rj) QB kg.rG kg.move.aC hN hd hc ji hf3 (fun e=>by have:=XG (h24 e);omega) (fun e=>by have:=XG (h24 e);omega) hl fun uI x1=>?_;have l1:=x1.len;have i1:=i.next (b.release k2.move (bU t k2.move) fate,uI)
  repeat' first|apply ww|apply wm;intro _|apply wb
  have hrk:(b.release k2.move (bU t k2.move) fate).kept.length=b.kept.length:=by unfold ax.release;rw[hd,hc];show(List.map _ _).length=_;rw[ad1];rfl
  have hrs:(b.release k2.move (bU t k2.move) fate).af=b.af:=by unfold ax.release;rw[hd,hc];rfl
  have hrc:(b.release k2.move (bU t k2.move) fate).clock=b.clock:=by unfold ax.release;rw[hd,hc];rfl
  have Xe:KG (pv (b.release k2.move (bU t k2.move) fate) t (kK t k2.move) 0):=by
   have kt:=kg.I9;have ade:=Nd;refine⟨ht,⟨ht.id,kg.move.aH,kg.move.ar,hN,ht.pending,ht.timeout,kg.move.aJ,kg.move.code,ht.flags,?_,?_⟩,Nd,⟨Nd.1,kt.2.1,kt.2.2.1,Nd.2.2.2⟩,hf,hf,by show(0:Int)≤0∧(0:Int)≤4;decide,ck.timeout,?_⟩
   ·show qZ (ax.af _+1);rw[hrs];unfold qZ;omega
   ·show qZ (ax.clock _);rw[hrc];unfold qZ;omega
   ·show 0≤ax.clock _∧ax.clock _≤_;rw[hrc];exact cl
  refine IT (p:=p) (t:=kK t k2.move) (waits:=false) (fate:=0) (BT hn) (by rw[hrk];omega) Xe rfl (by omega) fun gN x2=>?_
  repeat' first|apply ww|apply wm;intro _|apply wb
  have:=h gN ((x1.trans x2).mono (by omega));exact T.dp this
 repeat' first|apply ww|apply wm;intro _|apply wb
 refine fx (by decide) ?_
 repeat' first|apply ww|apply wm;intro _|apply wb
 rw[aaI hf.1 hf.2];refine az (fun g4=>?_) (fun g4=>?_)
 ·have g4:=of_decide_eq_true g4
  repeat' first|apply ww|apply wm;intro _|apply wb
  refine KT (p:=p) kg.rG hd hc ?_;have c1:(b.jW k2.move.aH (has k2.move.flags 64)=true)↔(8≤d.flags∧¬has k2.move.flags 64):=by unfold ax.jW;rw[hd];simp
  have c2:(b.jW k2.move.ar (has k2.move.flags 128)=true)↔(8≤c.flags∧¬has k2.move.flags 128):=by unfold ax.jW;rw[hc];simp
  by_cases g5:8≤d.flags∧¬has k2.move.flags 64
  ·rw[if_pos g5]
   repeat' first|apply ww|apply wm;intro _|apply wb
   refine lh (by decide) ?_;have:=bad 30 (by decide) (by rw[e0 30 (by rw[if_neg hb,if_pos ⟨g4,c1.2 g5⟩])];rfl);exact T.dp this
  rw[if_neg g5];by_cases g6:8≤c.flags∧¬has k2.move.flags 128
  ·rw[if_pos g6]
   repeat' first|apply ww|apply wm;intro _|apply wb
   refine lh (by decide) ?_;have:=bad 31 (by decide) (by rw[e0 31 (by rw[if_neg hb,if_neg (fun hh=>g5 (c1.1 hh.2)),if_pos ⟨g4,c2.2 g6⟩])];rfl);exact T.dp this
  rw[if_neg g6]
  repeat' first|apply ww|apply wm;intro _|apply wb
  refine fx (by decide) ?_;refine fin _ _ _ _ _ (by unfold cf;rw[if_pos g4]) ?_;by_cases g7:96≤b.kept.length
  ·rw[if_pos g7,e0 35 (by rw[if_neg hb,if_neg (fun hh=>g5 (c1.1 hh.2)),if_neg (fun hh=>g6 (c2.1 hh.2)),if_pos g7])];rfl
  ·rw[if_neg g7,e0 0 (by rw[if_neg hb,if_neg (fun hh=>g5 (c1.1 hh.2)),if_neg (fun hh=>g6 (c2.1 hh.2)),if_neg g7])];rfl
 ·have g4:=of_decide_eq_false g4;refine fin _ _ _ _ _ (by unfold cf;rw[if_neg g4]) ?_;by_cases g7:96≤b.kept.length
  ·rw[if_pos g7,e0 35 (by rw[if_neg hb,if_neg (fun hh=>g4 hh.1),if_neg (fun hh=>g4 hh.1),if_pos g7])];rfl
  ·rw[if_neg g7,e0 0 (by rw[if_neg hb,if_neg (fun hh=>g4 hh.1),if_neg (fun hh=>g4 hh.1),if_neg g7])];rfl
def XH(G:pK W)(ht:uY t)(Nd:kN t)(hw:∀k∈b.kept,has k.move.flags 2→k.fate≤1→k.fate=1∧GF b k)(hl:hs.length<800000)[i:Lc (bn p) L (b,hs) f]
 (h:∀dh,Ext (dz b) hs (dz (b.oF t).2) dh 8→T W (f ((b.oF t).2,dh)) (K (.i (b.oF t).1))):T W L (lq (some ⟨p,0,none⟩) (ai t) K):=by
 unfold lq
 repeat' first|apply ww|apply wm;intro _|apply wb|with_reducible refine EW G ht ?_|fail
 unfold lq.j1;refine az (fun g1=>?_) (fun g1=>?_)
 ·have g1:lE t≠0:=by simpa using g1
  have e:b.oF t=b.move t:=by unfold ax.oF;rw[if_neg (fun hh=>g1 hh.1)]
  rw[e] at h
  repeat' first|apply ww|apply wm;intro _|apply wb
  refine R1 G ht Nd hl fun dh hx=>?_
  repeat' first|apply ww|apply wm;intro _|apply wb
  have:=h dh (hx.mono (by omega));exact T.dp this
 have g1:lE t=0:=by simpa using g1
 have ck:=xM g1
 repeat' first|apply ww|apply wm;intro _|apply wb|with_reducible refine Ew (show 0≤t.flags∧t.flags<256 by have:=ck.flags;omega) ?_|fail
 by_cases g2:iR t.flags
 ·have e:b.oF t=b.mH t:=by unfold ax.oF;rw[if_pos ⟨g1,g2⟩]
  rw[e] at h;rw[decide_eq_true g2]
  repeat' first|apply ww|apply wm;intro _|apply wb
  refine Uf G ht Nd g1 g2 hw hl fun dh hx=>?_
  repeat' first|apply ww|apply wm;intro _|apply wb
  have:=h dh hx;exact T.dp this
 ·have e:b.oF t=b.move t:=by unfold ax.oF;rw[if_neg (fun hh=>g2 hh.2)]
  rw[e] at h;rw[decide_eq_false g2]
  repeat' first|apply ww|apply wm;intro _|apply wb
  refine R1 G ht Nd hl fun dh hx=>?_
  repeat' first|apply ww|apply wm;intro _|apply wb
  have:=h dh (hx.mono (by omega));exact T.dp this
end
section
variable {W:World} {L R:LH} {K:VK} {X:WK} {p:Nat} {b:ax} {hs:List C} {f:ax×List C→LH}
def zI:Item:=⟨0,0,0⟩
instance{x1 x2 x3 x4:Value}:Wr [x1,x2,x3,x4] 0 [.i 0,.i 0,.u 0,.u 0] (eB zI):=⟨rfl,adG _,mV zI⟩
instance{x:Item}:Sub (eB x) 2 2 (nm x.id):=⟨rfl,fun j v h=>by
 match j with
 |0=>exact h
 |1=>exact h
 |j+2=>simp[nm] at h⟩
def MN{r o:Nat}{cs:LV}{bb:OA}{c:Nat}{h:List Item}(hv:cs[o]?=some (.l bb h.length c))(hl:h.length<10000)
 (hx:∀x,h[0]?=some x→T W (Sep.pt r cs::own bb h.length c 4 (h.flatMap eB)::R) (K (.tuple ⟨[.agg ⟨eB x⟩,.bool true]⟩)))
 (h0:h=[]→T W (Sep.pt r cs::own bb h.length c 4 (h.flatMap eB)::R) (K (.tuple ⟨[.agg ⟨eB zI⟩,.bool false]⟩))):
 T W (Sep.pt r cs::own bb h.length c 4 (h.flatMap eB)::R) (gS (some ⟨r,o,none⟩) K):=by
 unfold gS kn;refine qD fun r1=>?_;refine tz ?_;refine yS ?_;refine kB hv ?_;refine tt ?_;refine na ?_;refine az (fun g=>?_) (fun g=>?_)
 ·have g:h=[]:=by
   have:((h.length:Nat):Int)=0:=by simpa using g
   exact List.length_eq_zero_iff.1 (by omega)
  repeat' first|apply ww|apply wm;intro _|apply wb
  have:=h0 g;exact T.dp this
 ·have g:0<h.length:=by
   have: ¬((h.length:Nat):Int)=0:=by simpa using g
   omega
  refine yS ?_;refine kB hv ?_;refine tt ?_;have gx:=adA g;refine bV ⟨by omega,by omega⟩ fun rb hb=>?_;subst hb;refine dV (o:=0) gI gx ?_
  repeat' first|apply ww|apply wm;intro _|apply wb
  have:=hx _ gx;exact T.dp this
def K9{q:Core}{f:Core→LH}[i:Lc (eY p) L q f](hl:q.ends.length<10000)
 (h1:∀x,x∈q.ends→(∀y∈q.ends,¬bf y x)→T W L (K (.tuple ⟨[.agg ⟨eB x⟩,.bool true]⟩)))(h0:q.ends=[]→T W L (K (.tuple ⟨[.agg ⟨eB zI⟩,.bool false]⟩))):T W L (gS (some ⟨p,6,none⟩) K):=by
 have hL:f q=L:=i.same;rw[←hL] at h0 h1;refine ng (p:=p) fun b1 c1 b2 c2 b3 c3 hp R g1 g2 hc=>?_;refine T.Hk ?_;refine MN rfl (by rw[g2.length_eq];exact hl) (fun x hx=>?_) (fun hn=>?_)
 ·refine T.Ak ?_;exact hc [] q b1 c1 b2 c2 b3 c3 hp _ g1 g2 (h1 x (g2.mem_iff.1 (ad3 hx)) fun y hy=>g1.first hx y (g2.mem_iff.2 hy))
 ·refine T.Ak ?_;exact hc [] q b1 c1 b2 c2 b3 c3 hp _ g1 g2 (h0 (by subst hn;exact(List.nil_perm.1 g2)))
def tick(b:ax)(now:Int):ax:={b with clock:=if b.clock<now∧now≤1099511627776 then now else b.clock}
def PC[i:Lc (bn p) L (b,hs) f]{now:Int}(hl:hs.length<900000)
 (h:∀dh,Ext (dz b) hs (dz (Go.Up.tick b now)) dh 1→T W (f (Go.Up.tick b now,dh)) (K (.tuple ⟨[]⟩))):T W L (cG (some ⟨p,0,none⟩) now K):=by
 refine GP (p:=p) fun la lk ti tn vs bx R hg hc mF=>?_;have Jn:vs.reverse.length<900000:=by rw[aew,hc.len];omega
 have Xt:=hg.clock;have same: ¬(b.clock<now∧now≤1099511627776)→Go.Up.tick b now=b:=fun hn=>by unfold Go.Up.tick;rw[if_neg hn]
 unfold cG
 repeat' first|apply ww|apply wm;intro _|apply wb
 rename_i r1;refine az (fun g=>?_) (fun g=>?_)
 ·have g:now≤b.clock:=of_decide_eq_true g;have e:=same (by omega);rw[e] at h;have fin:=mF [] b hs vs bx _ hg hc (h hs (Ext.refl _ _ _));unfold cG.j1
  repeat' first|apply ww|apply wm;intro _|apply wb
  exact T.dp fin
 have g: ¬now≤b.clock:=of_decide_eq_false g;unfold cG.j1;refine az (fun g2=>?_) (fun g2=>?_)
 ·have g2:now>1099511627776:=of_decide_eq_true g2;have e:=same (by omega);rw[e] at h;have fin:=mF [] b hs vs bx _ hg hc (h hs (Ext.refl _ _ _))
  repeat' first|apply ww|apply wm;intro _|apply wb
  exact T.dp fin
 have g2: ¬now>1099511627776:=of_decide_eq_false g2;have e:Go.Up.tick b now={b with clock:=now}:=by unfold Go.Up.tick;rw[if_pos ⟨by omega,by omega⟩]
 rw[e] at h
 repeat' first|apply ww|apply wm;intro _|apply wb
 rename_i r2;refine G9 (p:=p) ?_
 repeat' first|apply ww|apply wm;intro _|apply wb
 refine rv (p:=p) (by show vs.reverse.length<_;omega) rfl rfl ?_
 repeat' first|apply ww|apply wm;intro _|apply wb
 refine cQ (cQ ?_);have mR:Good {b with clock:=now}:={hg with clock:=by show 0≤now∧now≤_;omega};have fin:=fun lF c1=>mF [] {b with clock:=now} _ (RF r2 r1::vs) lF _ mR c1 (h _ ⟨[dz b],rfl,rfl,by simp⟩);simp only[dW,ae6] at fin;refine fin _ ⟨?_,hc.mono fun x hx=>by simp[hx]⟩;exact yP.time (c:=dz {b with clock:=now}) (by repeat (first|exact aep.head _|apply aep.tail)) (by repeat (first|exact aep.head _|apply aep.tail))
def MG[i:Lc (bn p) L (b,hs) f]
 (h1:∀k,k∈b.kept→kk b.clock k→T W L (K (.tuple ⟨[.agg ⟨aM k⟩,.bool true]⟩)))
 (h0:(∀k∈b.kept,¬kk b.clock k)→T W L (K (.tuple ⟨[.agg ⟨aM zK⟩,.bool false]⟩))):T W L (cX (some ⟨p,0,none⟩) K):=by
 have hL:f (b,hs)=L:=i.same;refine GP (p:=p) fun la lk ti tn vs bx R hg hc mF=>?_;have many:=hg.many;unfold cX
 repeat' first|apply ww|apply wm;intro _|apply wb
 refine K9 (p:=p) (by have:=wI b;show(b.kept.filterMap dN).length<_;omega) (fun x hx uJ=>?_) (fun hn=>?_)
 ·obtain⟨k,hk,hkd⟩:=List.mem_filterMap.1 hx;obtain⟨e1,e2,e3,e4,e5⟩:=nY hkd;have hn:b.named x.id=some k:=by
   obtain⟨n,hn,rfl⟩:=List.getElem_of_mem hk;have:=um (key:=fun x:Kept=>x.move.id) hg.names hn;rw[e2];exact(rK (key:=fun x:Kept=>x.move.id) this).2.2
  repeat' first|apply ww|apply wm;intro _|apply wb
  unfold cX.j1;refine az (fun g=>?_) (fun g=>?_)
  ·have g:x.due≤b.clock:=of_decide_eq_true g;have fin:=mF [] b hs vs bx _ hg hc (by rw[hL];exact h1 k hk ⟨e4,e5,by omega⟩)
   repeat' first|apply ww|apply wm;intro _|apply wb
   refine Er (b:=b) (q:=dW la lk ti tn vs (dz b)) many ?_;rw[hn];simp only[ad9,aec]
   repeat' first|apply ww|apply wm;intro _|apply wb
   exact T.dp fin
  ·have g: ¬x.due≤b.clock:=of_decide_eq_false g;have fin:=mF [] b hs vs bx _ hg hc (by
    rw[hL]
    refine h0 fun k' xD ho=>?_
    have Sj:dN k'=some ⟨k'.move.born+k'.move.timeout,k'.move.af,k'.move.id⟩:=by unfold dN;rw[if_pos ⟨ho.1,ho.2.1⟩]
    have:=uJ _ (List.mem_filterMap.2 ⟨k',xD,Sj⟩)
    have h3:=ho.2.2
    unfold bf at this
    dsimp only at this
    omega)
   repeat' first|apply ww|apply wm;intro _|apply wb
   exact T.dp fin
 ·have fin:=mF [] b hs vs bx _ hg hc (by
   rw[hL]
   refine h0 fun k' xD ho=>?_
   have Sj:dN k'=some ⟨k'.move.born+k'.move.timeout,k'.move.af,k'.move.id⟩:=by unfold dN;rw[if_pos ⟨ho.1,ho.2.1⟩]
   have:_∈b.kept.filterMap dN:=List.mem_filterMap.2 ⟨k',xD,Sj⟩
   rw[show b.kept.filterMap dN=[] from hn] at this
   cases this)
  repeat' first|apply ww|apply wm;intro _|apply wb
  unfold cX.j1
  repeat' first|apply ww|apply wm;intro _|apply wb
  exact T.dp fin
end
def C7{b:ax}{m:Model}(hs:mI b m)(hg:Md.Ground m){id:Nat}(h:id∈m.made.map (·.id)):∃a,a∈m.made∧a.id=id∧b.find id=some (Md.full m.kept a):=by
 obtain⟨a,ha,rfl⟩:=aek.1 h;refine⟨a,ha,rfl,?_⟩;rw[hs.find];unfold Model.find;rw[nJ hg.ids ha];rfl
def BC{b:ax}{m:Model}(hs:mI b m)(hg:Md.Ground m){k:Kept}(hk:k∈m.kept)(h1:k.fate=1):GF b k:=by
 obtain⟨ji,hd,hc⟩:=hg.tB k hk;obtain⟨d,DW,Ez,fd⟩:=C7 hs hg hd;obtain⟨c,LP,DX,fc⟩:=C7 hs hg hc;have zd:=hg.zero d DW;have zc:=hg.zero c LP;refine⟨⟨_,fd,?_,?_⟩,⟨_,fc,?_,?_⟩,ji⟩
 ·have:=On (vF d.id) m.kept k hk;have e:vF d.id k=k.move.aC:=if_pos ⟨h1,Ez.symm⟩;show k.move.aC≤d.dp+S (vF d.id) m.kept;omega
 ·show d.dp+S (vF d.id) m.kept+(d.dq+S (xG d.id) m.kept)<aO;have:=hg.vo d DW;omega
 ·have:=On (vG c.id) m.kept k hk;have e:vG c.id k=k.move.aC:=if_pos ⟨h1,DX.symm⟩;show k.move.aC≤c.cp+S (vG c.id) m.kept;omega
 ·show c.cp+S (vG c.id) m.kept+(c.cq+S (xH c.id) m.kept)<aO;have:=hg.sO c LP;omega
def Rq{b:ax}{m:Model}(hs:mI b m)(hg:Md.Ground m):∀k∈b.kept,has k.move.flags 2→k.fate≤1→k.fate=1∧GF b k:=fun k hk h2 hf=>by
 rw[hs.kept] at hk;have:=hg.s7 k hk;have h1:k.fate=1:=by have:=this.2.2.1 h2;omega
 exact⟨h1,BC hs hg hk h1⟩
def Bd(c:Int)(k:Kept):Kept:=if kk c k then{k with fate:=4} else k
def yk(c:Int)(l:List Kept):Nat:=(l.filter fun k=>kk c k).length
def CE{c:Int}:∀{l:List Kept} {i:Nat}(hi:i<l.length),kk c l[i]→yk c (l.set i {l[i] with fate:=4})+1=yk c l
 |x::l,0,hi,h=>by
  have h2: ¬kk c {x with fate:=4}:=fun hh=>absurd hh.1 (show ¬(4:Int)=1 by decide);have h:kk c x:=h;show((({x with fate:=4}:Kept)::l).filter _).length+1=((x::l).filter _).length;rw[aeA (by simpa using h2),aez (by simpa using h),adW]
 |x::l,i+1,hi,h=>by
  have:=CE (c:=c) (l:=l) (i:=i) (by simpa using hi) h;show((x::l.set i _).filter _).length+1=((x::l).filter _).length;by_cases hx:kk c x
  ·rw[aez (by simpa using hx),aez (by simpa using hx),adW,adW];exact congrArg (·+1) this
  ·rw[aeA (by simpa using hx),aeA (by simpa using hx)];exact this
structure Ru(m m':Model):Prop where
 made:m'.made=m.made
 af:m'.af=m.af
 clock:m'.clock=m.clock
 kept:m'.kept.map (Bd m.clock)=m.kept.map (Bd m.clock)
def Ru.refl(m:Model):Ru m m:=⟨rfl,rfl,rfl,rfl⟩
def CF{b:ax}{m0 m:Model}(hs:mI b m)(hg:Md.Ground m)(hx:Ru m0 m){k:Kept}(hk:k∈b.kept)(ho:kk b.clock k):
 b.named k.move.id=some k∧GF b k∧∃m',mI (b.release k.move 0 4) m'∧Md.Ground m'∧Ru m0 m'∧yk m0.clock m'.kept+1=yk m0.clock m.kept:=by
 rw[hs.kept] at hk;rw[hs.clock] at ho;obtain⟨i,hi,rfl⟩:=List.getElem_of_mem hk;have Jq:b.named m.kept[i].move.id=some m.kept[i]:=by
  have:=um (key:=fun x:Kept=>x.move.id) hg.names hi;rw[hs.DM];exact(rK (key:=fun x:Kept=>x.move.id) this).2.2
 refine⟨Jq,BC hs hg hk ho.1,m.c7 i 4,hs.release hg hi ho.1 (.inr rfl) 0,hg.c7 hi ho.1 (.inr (.inr rfl)),⟨hx.made,hx.af,hx.clock,?_⟩,?_⟩
 ·rw[←hx.kept];rw[hx.clock] at ho;exact(F9 hi m0.clock).resolve_right (fun hh=>hh ho)
 ·rw[hx.clock] at ho;rw[oL hi];exact CE hi ho
def CH{b:ax}{m0 m:Model}(hs:mI b m)(hx:Ru m0 m)(h:∀k∈b.kept,¬kk b.clock k):m={m0 with kept:=m0.kept.map (Bd m0.clock)}:=by
 have h2:m.kept.map (Bd m0.clock)=m.kept:=F' (m:=m) (clock:=m0.clock) fun k hk=>by
  have:=h k (by rw[hs.kept];exact hk);rwa[hs.clock,hx.clock] at this
 rw[←hx.kept,h2];obtain⟨x1,x2,x3,x4⟩:=hx;cases m;cases m0
 simp only at x1 x2 x3;subst x1;subst x2;subst x3;rfl
def qf(m:Model)(now:Int):Model:={m with clock:=if m.clock<now∧now≤1099511627776 then now else m.clock}
def Dp(m:Model)(now:Int):m.time now={qf m now with kept:=(qf m now).kept.map (Bd (qf m now).clock)}:=rfl
def Lt{b:ax}{m:Model}(hs:mI b m)(now:Int):mI (Go.Up.tick b now) (qf m now):=⟨hs.ag,hs.kept,by unfold Go.Up.tick qf;simp only[hs.clock],hs.af⟩
def yN{m:Model}(hg:Md.Ground m)(now:Int):Md.Ground (qf m now):=⟨hg.zero,hg.ids,hg.mC,hg.names,hg.s7,hg.tB,hg.some_,hg.vo,hg.sO,hg.qS⟩
def KD(n:Int):bG .i64 .and n 1=n%2:=by
 unfold bG;have e1:(BitVec.ofInt adx.bits n&&&BitVec.ofInt adx.bits 1).toNat=(BitVec.ofInt 64 n).toNat%2:=by
  rw[BitVec.toNat_and];show(BitVec.ofInt 64 n).toNat&&&1=_;exact Nat.and_one_is_mod _
 dsimp only;rw[e1];have e2:(((BitVec.ofInt 64 n).toNat%2:Nat):Int)=n%2:=by
  rw[BitVec.toNat_ofInt];omega
 rw[e2];exact ah (by omega)
def KC{n:Int}(h0:0≤n)(h1:n≤7):bG .i64 .andNot n 1=n/2* 2:=by
 have:n=0∨n=1∨n=2∨n=3∨n=4∨n=5∨n=6∨n=7:=by omega
 rcases this with rfl|rfl|rfl|rfl|rfl|rfl|rfl|rfl<;>rfl
section
variable {α:Type} {W:World} {R L:LH} {K:VK} {X:WK} {g:α→LV} {e:Nat} {s:OA} {l:List α}
def oz(W:World)(R:LH)(g:α→LV)(e:Nat)(s:OA)(l:List α):Prop:=
 ∀w,St W w R→∀i x,l[i]?=some x→∃a,s=some a∧ta w (a.add (i* e)) (g x)
def kV{i:Int}{n:Nat}{K:Addr→WK}[hh:Has R L](hr:oz W R g e s l)(hi:0≤i∧i<l.length)(hn:n=l.length)(h:∀a,s=some a→T W L (K (a.add (i.toNat* e)))):T W L (iO s n i e K):=fun w hs=>by
 obtain⟨a,ha,-⟩:=hr w (hh.sub hs) i.toNat _ (adA (by omega));exact⟨a,ha,⟨hi.1,by omega⟩,h a ha w hs⟩
def kT{i:Nat}{x:α}{a:Addr}{K:LV→WK}[hh:Has R L](hr:oz W R g e s l)(hs:s=some a)(hx:l[i]?=some x)(hg:(g x).length=e)(h:T W L (K (g x))):T W L (aj (a.add (i* e)) e K):=fun w hw=>by
 obtain⟨a',ha,hh⟩:=hr w (hh.sub hw) i x hx;rw[hs] at ha;cases ha
 exact⟨g x,hg,hh,h w hw⟩
def oz.drop{c i:Nat}(hr:oz W R g e s l)(hi:i≤l.length)(hc:l.length≤c):oz W R g e (tA s c i e) (l.drop i):=fun w hw j x hx=>by
 rw[aeQ] at hx;obtain⟨a,ha,hh⟩:=hr w hw (i+j) x hx;have a8:=(adC.1 hx).1;unfold tA;rw[if_neg (by omega),ha];refine⟨a.add (i* e),rfl,?_⟩;rw[add_add,←aeU];exact hh
def oz.take{i:Nat}(hr:oz W R g e s l):oz W R g e s (l.take i):=fun w hw j x hx=>by
 refine hr w hw j x ?_;rw[ae1] at hx;split at hx
 ·exact hx
 ·cases hx
def zh{b:OA}{n c i j e:Nat}{K:OA→Nat→Nat→WK}(hi:i≤j)(hj:j≤c)(h:T W L (K (tA b c i e) (j-i) (c-i))):T W L (oC b n c e (some (i:Int)) (some (j:Int)) K):=by
 unfold oC;refine c9 ⟨by omega,by omega⟩ ?_;dsimp only;refine c9 ⟨by omega,by omega⟩ ?_;rw[adB,adB];exact h
end
def I1(i:Int):LV:=[.i i]
def xY(i:Int):(I1 i).length=1:=rfl
section
variable {W:World} {L:LH} {K:VK} {X:WK} {f:HP→LH}
def D6{r N C o n i:Nat}{c:Nat}{v:Int}{l:List Int}[j:pa (some ⟨r,0,none⟩) N C L 1 (l.flatMap I1) f](ho:o+n≤l.length)(hi:i<n)(hn:n<1000000)
 (h:T W (f (own (some ⟨r,0,none⟩) N C 1 ((l.take o++jy n (some (i,v))++l.drop (o+n)).flatMap I1))) (K (.tuple ⟨[]⟩))):T W L (il (some ⟨r,o,none⟩) n c i v K):=by
 unfold il;intro w hs;obtain⟨k,hk,e1⟩:=j.at_;have uJ:min o l.length=o:=ae2 (by omega)
 let st:Nat→List Int:=fun m=>l.take o++adQ m 1++l.drop (o+m)
 have qz:∀m,m≤n→(st m).length=l.length:=fun m hm=>by simp only[st,adD,adF,uJ,aeH,adM];omega
 refine⟨fun vs w=>∃m:Nat,m≤n∧vs=[.i (n:Int),.i (m:Int)]∧St W w (f (own (some ⟨r,0,none⟩) N C 1 ((st m).flatMap I1))),fun vs _=>match vs with|[_,.int _ d]=>n-d.toNat|_=>0,⟨0,adK _,rfl,?_⟩,?_⟩
 ·have:st 0=l:=by simp[st]
  rw[this,e1,kE hk];exact hs
 rintro n3 n4 w2 ⟨m,hm,e,gN⟩;cases e
 rw[e1] at gN;have rj:(L.set k (own (some ⟨r,0,none⟩) N C 1 ((st m).flatMap I1)))[k]?=some (own (some ⟨r,0,none⟩) N C 1 ((st m).flatMap I1)):=iF hk;have one:∀v∈I1 1,v.oneCell'=true:=fun v hv=>by simp[I1] at hv;subst hv;rfl
 by_cases a8:m<n
 ·rw[decide_eq_true (by omega)];rw[jk];refine⟨_,rfl,⟨by omega,by omega⟩,?_⟩;rw[ft,adB,ae8];refine Dw gN rj (by rw[wF xY,qz m hm];omega) rfl fun w3 qL=>?_;have e5:adx.wrap ((m:Int)+1)=((m+1:Nat):Int):=by rw[ah (by omega)];omega
  rw[e5];refine⟨⟨m+1,a8,rfl,?_⟩,by show n-((m+1:Nat):Int).toNat<n-(m:Int).toNat;omega⟩;rw[e1];rw[aeO] at qL;have e6:((st m).flatMap I1).set (o+m) (Value.int adx 1)=(st (m+1)).flatMap I1:=by
   have:=xF (g:=I1) (l:=st m) (o:=o+m) (y:=1) (j:=0) (v:=.i 1) xY (adA (by rw[qz m hm];omega)) rfl (by decide);have e7:(st m).set (o+m) 1=st (m+1):=by
    have hd:l.drop (o+m)=l[o+m]'(by omega)::l.drop (o+m+1):=aef (by omega);have hAB:(l.take o++adQ m (1:Int)).length=o+m:=by rw[adD,adF,aeH,uJ]
    simp only[st];rw[hd,List.set_append_right _ _ (by omega),hAB,aeY,List.set_cons_zero,List.replicate_succ'];simp[Nat.add_assoc]
   rw[←e7,←this,ae8,aev]
  rw[e6] at qL;exact qL
 ·have hmn:m=n:=by omega
  subst hmn;rw[decide_eq_false (by omega),cA];refine⟨_,rfl,⟨by omega,by omega⟩,?_⟩;rw[ft,adB,ae8];refine Dw gN rj (by rw[wF xY,qz m hm];omega) rfl fun w3 qL=>?_;refine h w3 ?_;rw[e1];rw[aeO] at qL;have e6:((st m).flatMap I1).set (o+i) (Value.int adx v)=(l.take o++jy m (some (i,v))++l.drop (o+m)).flatMap I1:=by
   have:=xF (g:=I1) (l:=st m) (o:=o+i) (y:=v) (j:=0) (v:=.i v) xY (adA (by rw[qz m hm];omega)) rfl (by decide);have e7:(st m).set (o+i) v=l.take o++jy m (some (i,v))++l.drop (o+m):=by
    simp only[st,jy];rw[adI,List.set_append_right _ _ (by rw[adF,uJ];omega),List.set_append_left _ _ (by rw[adF,uJ,aeH];omega),←adI]
    congr 3
    rw[adF,uJ];omega
   rw[←e7,←this,ae8,aev]
  rw[e6] at qL;exact qL
end
section
variable {α σ:Type}
def sR{linked:α→Bool}:∀{l:List α} {i:Nat} {x:α},(∀j y,j<i→l[j]?=some y→linked y=true)→l[i]?=some x→linked x=false→bu linked l=(i+1,true)
 |[],i,x,_,hx,_=>by simp at hx
 |y::l,0,x,_,hx,hn=>by simp at hx;subst hx;unfold bu;rw[if_neg (by simp[hn])]
 |y::l,i+1,x,h,hx,hn=>by
  unfold bu;rw[if_pos (h 0 y (by omega) rfl),sR (l:=l) (i:=i) (fun j z hj hz=>h (j+1) z (by omega) (by simpa using hz)) (by simpa using hx) hn]
def qW{linked:α→Bool}:∀{l:List α},(∀x∈l,linked x=true)→bu linked l=(l.length,false)
 |[],_=>rfl
 |y::l,h=>by unfold bu;rw[if_pos (h y (by simp)),qW fun x hx=>h x (by simp[hx])];rfl
def sQ{linked:α→Bool}:∀(l:List α),(bu linked l).1≤l.length
 |[]=>adG _
 |y::l=>by unfold bu;split<;>simp;exact sQ l
def yH{linked:α→Bool}(x:α)(l:List α):0<(bu linked (x::l)).1:=by unfold bu;split<;>simp
def sP{linked:α→Bool}:∀{l:List α},(bu linked l).2=false→(bu linked l).1=l.length
 |[],_=>rfl
 |y::l,h=>by
  unfold bu at h⊢;split at h
  ·rename_i hy;rw[if_pos hy];show _+1=_;rw[sP h];rfl
  ·cases h
def oU{f:σ→α→Int×σ}:∀(l m:List α)(s s':σ)(i:Nat),gU f s l i=(none,s')→gU f s (l++m) i=gU f s' m (i+l.length)
 |[],m,s,s',i,h=>by cases h;rfl
 |x::l,m,s,s',i,h=>by
  unfold gU at h;split at h
  ·cases h
  ·rename_i h0;rw[aeN];show gU f s (x::(l++m)) i=_;rw[gU,if_neg h0,oU l m _ _ _ h,adW,Nat.add_right_comm,Nat.add_assoc]
def kq(n:Nat)(e:Option (Nat×Int)):(jy n e).length=n:=by cases e<;>simp[jy]
end
section
variable {W:World} {L R:LH} {K:VK} {X:WK} {p:Nat} {b:ax} {hs:List C} {f:ax×List C→LH}
def PE[i:Lc (bn p) L (b,hs) f]{a:aS}(mC:32≤b.ag.length)(h:T W L (K (.i 6))):T W L (gK (some ⟨p,0,none⟩) (ak a) K):=by
 have hL:f (b,hs)=L:=i.same;refine GP (p:=p) fun la lk ti tn vs bx R hg hc mF=>?_;have fin:=mF [] b hs vs bx _ hg hc (by rw[hL];exact h);unfold gK
 repeat' first|apply ww|apply wm;intro _|apply wb
 refine Iw (l:=la) ?_
 repeat' first|apply ww|apply wm;intro _|apply wb
 refine lh (by show decide (((b.ag.length:Nat):Int)≥32)=true;simp;omega) ?_;exact T.dp fin
def IU[i:Lc (bn p) L (b,hs) f]{b0:ax}{ku:List C}{n:Nat}(hg:Good b0)(hx:Ext (dz b0) ku (dz b) hs n)(hl:hs.length<1000000)(h:T W (f (b0,ku)) (K (.tuple ⟨[]⟩))):T W L (dw (some ⟨p,0,none⟩) (ku.length:Int) K):=fun w hw=>by
 obtain⟨k,hk,e1⟩:=i.at_;have h1:=hw.focus hk;obtain⟨-,h2⟩:=h1.and;refine(show T W (cP p (dz b,hs)::L.eraseIdx k) _ from ?_) w h2;unfold dw
 repeat' first|apply ww|apply wm;intro _|apply wb
 refine Vi (p:=p) hl ?_;rw[hx.back]
 repeat' first|apply ww|apply wm;intro _|apply wb
 intro w2 TL;refine h w2 ?_;rw[e1];exact St.og (A:=bn p (b,hs)) (St.and_intro hg TL) hk
def H9{a:aS}(h:qE a=0):0≤a.flags∧a.flags≤7∧a.dp=0∧a.dq=0∧a.cp=0∧a.cq=0∧a.af=0∧(1≤a.aJ∧a.aJ≤4294967295)∧1≤a.code∧a.code≤65535:=by
 unfold qE at h
 repeat' (first|(split at h;first|(exact absurd h (by decide))|skip)|skip)
 omega
def Q7(G:pK W){a:aS}(ha:vy a)[i:Lc (bn p) L (b,hs) f](hl:hs.length<900000)
 (h:∀dh,Ext (dz b) hs (dz (b.make a).2) dh 8→T W (f ((b.make a).2,dh)) (K (.i (b.make a).1))):T W L (jD (some ⟨p,0,none⟩) (ak a) K):=by
 have hL:f (b,hs)=L:=i.same;refine nd (p:=p) fun hg=>?_;unfold jD
 repeat' first|apply ww|apply wm;intro _|apply wb|with_reducible refine Of G ha ?_|fail
 have stay:∀r:Int,b.make a=(r,b)→T W L (K (.int .i64 r)):=fun r e=>by
  rw[e] at h;have:=h hs (Ext.refl _ _ _);rw[hL] at this;exact this
 refine az (fun g1=>?_) (fun g1=>?_)
 ·have g1:qE a≠0:=by simpa using g1
  have:=stay (qE a) (by unfold ax.make;rw[if_pos g1]);exact T.dp this
 have g1:qE a=0:=by simpa using g1
 have ck:=H9 g1
 repeat' first|apply ww|apply wm;intro _|apply wb|with_reducible refine rY (p:=p) ?_|fail
 cases hf:b.find a.id with
 |some x=>
  simp only[ad9,aec];obtain⟨gx,hxi⟩:=rQ hg hf
  repeat' first|apply ww|apply wm;intro _|apply wb|with_reducible refine Og ⟨ck.1,by omega⟩ ⟨gx.flags.1,by have:=gx.flags.2;omega⟩ ?_|fail
  have:=stay (rr a x) (by unfold ax.make;rw[if_neg (by omega),hf]);exact T.dp this
 |none=>
  simp only[aeg,aes]
  repeat' first|apply ww|apply wm;intro _|apply wb
  rw[KC ck.1 ck.2.1]
  repeat' first|apply ww|apply wm;intro _|apply wb
  by_cases mC:b.ag.length<32
  ·have hga:AG {({a with flags:=a.flags/2* 2}:aS) with af:=b.af+1}:=by
    have qz:=hg.af;have many:=hg.many;refine⟨⟨ha.id,ha.dp,ha.dq,ha.cp,ha.cq,?_,?_,?_,?_⟩,⟨⟨by show 0≤a.aJ;omega,by show a.aJ≤_;omega⟩,⟨by show 0≤a.code;omega,by show a.code≤_;omega⟩,by show 0≤a.flags/2* 2;omega,by show a.flags/2* 2≤_;omega⟩,⟨by show 0≤a.flags/2* 2;omega,by show a.flags/2* 2<_;omega⟩,by show 0≤b.af+1;omega,by show b.af+1<_;omega⟩
    ·show qZ a.aJ;unfold qZ;omega
    ·show qZ a.code;unfold qZ;omega
    ·show qZ (a.flags/2* 2);unfold qZ;omega
    ·show qZ (b.af+1);unfold qZ;omega
   refine PD (p:=p) (a:={a with flags:=a.flags/2* 2}) hf mC hga hl fun dh hx=>?_
   repeat' first|apply ww|apply wm;intro _|apply wb
   have e:b.make a=(0,b.more {a with flags:=a.flags/2* 2}):=by
    unfold ax.make ax.more;rw[if_neg (by omega),hf];dsimp only;rw[if_neg (by omega)]
   rw[e] at h;have:=h dh (hx.mono (by omega));exact T.dp this
  ·refine PE (p:=p) (a:={a with flags:=a.flags/2* 2}) (by omega) ?_
   repeat' first|apply ww|apply wm;intro _|apply wb
   have:=stay 35 (by unfold ax.make;rw[if_neg (by omega),hf];dsimp only;rw[if_pos (by omega)]);exact T.dp this
end
def Is(b:ax):Prop:=∃m,mI b m∧Md.Ground m
def Is.make{b:ax}(h:Is b)(a:aS):Is (b.make a).2:=by obtain⟨m,hs,hg⟩:=h;exact⟨_,(hs.make hg).2⟩
def Is.oF{b:ax}(h:Is b)(t:Move):Is (b.oF t).2:=by obtain⟨m,hs,hg⟩:=h;exact⟨_,(hs.oF hg).2⟩
def CQ(n:Int):(bG .i64 .and n 1!=0)=decide (n%2=1):=by
 rw[KD,adX];simp only[bne_iff_ne,ne_eq,decide_eq_true_eq];omega
def rH(t:Move):(ai t).length=16:=rfl
def wu(a:aS):Bool:=decide (a.flags%2=1)
def wq(t:Move):Bool:=decide (t.flags%2=1)
section
variable {α σ:Type}
def xh{f:σ→α→Int×σ}{lk:α→Bool}{n:Nat}{s:σ}{l:List α}(hl:l≠[]):
 fX f lk (n+1) s l=if(bu lk l).2=false then(jy (bu lk l).1 (some ((bu lk l).1-1,2)),s)
  else match gU f s (l.take (bu lk l).1) 0 with
  |(none,s')=>(jy (bu lk l).1 none++(fX f lk n s' (l.drop (bu lk l).1)).1,(fX f lk n s' (l.drop (bu lk l).1)).2)
  |(some e,_)=>(jy (bu lk l).1 (some e)++(fX f lk n s (l.drop (bu lk l).1)).1,(fX f lk n s (l.drop (bu lk l).1)).2):=by
 cases l with
 |nil=>exact absurd rfl hl
 |cons x l=>
  rw[fX]
  congr 1
def rE{f:σ→α→Int×σ}{lk:α→Bool}(n:Nat)(s:σ):fX f lk n s []=([],s):=by cases n<;>rfl
end
section
variable {W:World} {L R:LH} {K:VK} {X:WK} {p:Nat} {b:ax} {hs:List C}
def QQ{s:OA}{c nn:Nat}{l:List aS}[hh:Has R L](hr:oz W R ak 14 s l)(GV:nn=l.length)(hl:l.length<1000000)
 (h:T W L (K (.tuple ⟨[.i ((bu wu l).1:Int),.bool (bu wu l).2]⟩))):T W L (fr s nn c (.func (.func N.eQ) ⟨[]⟩ ⟨[]⟩) K):=by
 subst GV;unfold fr;intro w hs;refine⟨fun vs w=>∃i:Nat,i≤l.length∧(∀j y,j<i→l[j]?=some y→wu y=true)∧vs=[.i 0,.bool false,.l s l.length c,.i (l.length:Int),.i (i:Int)]∧St W w L,
  fun vs _=>match vs with|[_,_,_,_,.int _ d]=>l.length-d.toNat|_=>0,⟨0,adK _,fun j y hj=>by omega,rfl,hs⟩,?_⟩
 rintro n1 b1 uF qg uE n2 n3 w2 ⟨i,hi,hU,e,gN⟩;cases e
 refine T.at ?_ gN;have e5:adx.wrap ((i:Int)+1)=((i+1:Nat):Int):=by rw[ah (by omega)];omega
 refine az (fun g1=>?_) (fun g1=>?_)
 ·have a8:i<l.length:=by have:=of_decide_eq_true g1;omega
  have gx:=adA a8;generalize l[i]=x at gx;refine kV hr ⟨by omega,by omega⟩ rfl fun a ha=>?_;rw[adB];refine kT hr ha gx (gL x) ?_
  repeat' first|apply ww|apply wm;intro _|apply wb
  show T W _ (eQ (ak x) _);unfold eQ
  repeat' first|apply ww|apply wm;intro _|apply wb
  rw[CQ]
  repeat' first|apply ww|apply wm;intro _|apply wb
  rw[e5];refine az (fun g2=>?_) (fun g2=>?_)
  ·have g2:wu x=false:=by simpa [wu] using g2
   rw[sR hU gx g2] at h;exact T.dp h
  ·have g2:wu x=true:=by simpa [wu] using g2
   refine T.drop (T.drop ?_);refine fun w3 h3=>⟨⟨i+1,a8,fun j y hj hy=>?_,rfl,h3⟩,by show l.length-((i+1:Nat):Int).toNat<l.length-(i:Int).toNat;omega⟩;by_cases FW:j=i
   ·subst FW;rw[gx] at hy;cases hy;exact g2
   ·exact hU j y (by omega) hy
 ·have iM:i=l.length:=by have:=of_decide_eq_false g1;omega
  subst iM;rw[qW fun x hx=>by obtain⟨j,hj⟩:=aeT hx;exact hU j x (adC.1 hj).1 hj] at h;exact h
def Tv(G:pK W){s:OA}{c c2 nn:Nat}{l:List aS}{r q o:Nat}{res:List Int}(hr:oz W R ak 14 s l)(GV:nn=l.length)(ik:∀x∈l,vy x)(hP:Is b)(hl:hs.length+8* l.length<800000)
 (ho:o+l.length≤res.length)(FM:0<l.length)
 (h0:∀dh b',gU ax.make b l 0=(none,b')→Is b'→dh.length≤hs.length+8* l.length→T W (bn p (b',dh)::own (some ⟨r,0,none⟩) q q 1 (res.flatMap I1)::R) (K (.tuple ⟨[]⟩)))
 (h1:∀e b',gU ax.make b l 0=(some e,b')→e.1<l.length→T W (bn p (b,hs)::own (some ⟨r,0,none⟩) q q 1 ((res.take o++jy l.length (some e)++res.drop (o+l.length)).flatMap I1)::R) (K (.tuple ⟨[]⟩))):
 T W (bn p (b,hs)::own (some ⟨r,0,none⟩) q q 1 (res.flatMap I1)::R) (fK (some ⟨p,0,none⟩) s nn c (some ⟨r,o,none⟩) nn c2 (.func (.func N.jD) ⟨[]⟩ ⟨[]⟩) K):=by
 subst GV;unfold fK;refine nd (p:=p) fun hg=>?_;refine IS (p:=p) ?_
 repeat' first|apply ww|apply wm;intro _|apply wb
 intro w ku;refine⟨fun vs w=>∃(i:Nat)(b':ax)(dh:List C),i≤l.length∧gU ax.make b (l.take i) 0=(none,b')∧Is b'∧Ext (dz b) hs (dz b') dh (8* i)∧vs=[.i (hs.length:Int),.l s l.length c,.i (l.length:Int),.i (i:Int)]∧
  St W w (bn p (b',dh)::own (some ⟨r,0,none⟩) q q 1 (res.flatMap I1)::R),
  fun vs _=>match vs with|[_,_,_,.int _ d]=>l.length-d.toNat|_=>0,⟨0,b,hs,adK _,rfl,hP,Ext.refl _ _ _,rfl,ku⟩,?_⟩
 rintro n2 rA pL rz n3 n4 w2 ⟨i,b',dh,hi,Ey,G2,hx,e,gN⟩;cases e
 refine T.at ?_ gN;have e5:adx.wrap ((i:Int)+1)=((i+1:Nat):Int):=by rw[ah (by omega)];omega
 have hxl:=hx.len;refine az (fun g1=>?_) (fun g1=>?_)
 ·have a8:i<l.length:=by have:=of_decide_eq_true g1;omega
  have gx:=adA a8;have mQ:l[i]∈l:=adZ a8;have qk:l=l.take i++l[i]::l.drop (i+1):=by rw[←aef a8,ad5]
  have sY:l.take (i+1)=l.take i++[l[i]]:=by rw[adT,gx];rfl
  generalize l[i]=x at gx mQ qk sY;have DT:=ik x mQ;refine kV hr ⟨by omega,by omega⟩ rfl fun a ha=>?_;rw[adB];refine kT hr ha gx (gL x) ?_
  repeat' first|apply ww|apply wm;intro _|apply wb
  show T W _ (jD (some ⟨p,0,none⟩) (ak x) _);refine Q7 (p:=p) G DT (by omega) fun TT TJ=>?_;have Ug:gU ax.make b l 0=gU ax.make b' (x::l.drop (i+1)) (0+(l.take i).length):=by
   conv=>lhs;rw[qk]
   exact oU _ _ _ _ _ Ey
  have WO:(l.take i).length=i:=by rw[adF];omega
  repeat' first|apply ww|apply wm;intro _|apply wb
  refine az (fun g2=>?_) (fun g2=>?_)
  ·have g2:(b'.make x).1≠0:=by simpa using g2
   refine T.drop ?_;have hx3:=TJ.len;refine IU (p:=p) hg (hx.trans TJ) (by omega) ?_
   repeat' first|apply ww|apply wm;intro _|apply wb
   refine D6 (r:=r) (N:=q) (C:=q) ho a8 (by omega) ?_
   repeat' first|apply ww|apply wm;intro _|apply wb
   refine h1 (i,(b'.make x).1) b' ?_ a8;rw[Ug,WO,gU,if_pos g2,adE]
  ·have g2:(b'.make x).1=0:=by simpa using g2
   rw[e5];refine T.drop ?_;refine fun w3 h3=>⟨⟨i+1,_,TT,a8,?_,G2.make x,(hx.trans TJ).mono (by omega),rfl,h3⟩,by show l.length-((i+1:Nat):Int).toNat<l.length-(i:Int).toNat;omega⟩;rw[sY,oU _ _ _ _ _ Ey,gU,if_neg (by omega)]
   rfl
 ·have iM:i=l.length:=by have:=of_decide_eq_false g1;omega
  subst iM;rw[adN] at Ey;exact h0 dh b' Ey G2 (by omega)
def Tm(G:pK W){s:OA}{c:Nat}{l:List aS}(hr:oz W R ak 14 s l)(hc:l.length≤c)(ik:∀x∈l,vy x)(hP:Is b)(CV:l.length≤10000)(hl:hs.length+8* l.length<800000)
 (h:∀r dh,dh.length≤hs.length+8* l.length→Is (fX ax.make wu l.length b l).2→(fX ax.make wu l.length b l).1.length=l.length→
  T W (bn p ((fX ax.make wu l.length b l).2,dh)::own (some ⟨r,0,none⟩) l.length l.length 1 ((fX ax.make wu l.length b l).1.flatMap I1)::R) (K (.l (some ⟨r,0,none⟩) l.length l.length))):
 T W (bn p (b,hs)::R) (ke (some ⟨p,0,none⟩) s l.length c K):=by
 unfold ke gY;refine Dr ⟨by omega,by omega,by omega,by omega⟩ fun r=>?_;rw[adB,show(Builtin.zeroCells ⟨[Value.int adx 0]⟩ l.length).toList=(adQ l.length (0:Int)).flatMap I1 from od (g:=I1) (z:=0) rfl _];show T W (own (some ⟨r,0,none⟩) l.length l.length 1 _::bn p (b,hs)::R) _;refine T.perm (M:=own (some ⟨r,0,none⟩) l.length l.length 1 _::bn p (b,hs)::R) (L:=bn p (b,hs)::own (some ⟨r,0,none⟩) l.length l.length 1 _::R) ?_ (ad2.swap _ _ _);intro w ku;refine⟨fun vs w=>∃(at_ fuel:Nat)(b':ax)(dh:List C)(done:List Int),at_≤l.length∧done.length=at_∧l.length≤fuel+at_∧
                                                                           fX ax.make wu l.length b l=(done++(fX ax.make wu fuel b' (l.drop at_)).1,(fX ax.make wu fuel b' (l.drop at_)).2)∧Is b'∧dh.length≤hs.length+8* at_∧
                                                                           vs=[.l none 0 0,.l (some ⟨r,0,none⟩) l.length l.length,.i (at_:Int)]∧
                                                                           St W w (bn p (b',dh)::own (some ⟨r,0,none⟩) l.length l.length 1 ((done++adQ (l.length-at_) 0).flatMap I1)::R),
  fun vs _=>match vs with|[_,_,.int _ d]=>l.length-d.toNat|_=>0,⟨0,l.length,b,hs,[],adK _,rfl,by omega,by simp,hP,by omega,rfl,ku⟩,?_⟩
 rintro rA pL rz yV yg yU n1 w2 ⟨at_,fuel,b',dh,done,vE,wC,LL,mn,G2,R6,e,gN⟩;cases e
 refine T.at ?_ gN;refine az (fun g1=>?_) (fun g1=>?_)
 ·have a8:at_<l.length:=by have:=of_decide_eq_true g1;omega
  have ji:l.drop at_≠[]:=fun hh=>by have:=congrArg List.length hh;rw[adM] at this;simp at this;omega
  have rO:(l.drop at_).length=l.length-at_:=adM;refine tu (by omega) ?_;have OV:=hr.drop (i:=at_) (c:=c) (by omega) hc;refine QQ OV rO.symm (by omega) ?_
  repeat' first|apply ww|apply wm;intro _|apply wb
  obtain⟨n,hn⟩:∃n,(bu wu (l.drop at_)).1=n:=⟨_,rfl⟩;have aah:n≤l.length-at_:=by rw[←hn,←rO];exact sQ _
  have W0:0<n:=by
   rw[←hn];cases hd:l.drop at_ with
   |nil=>exact absurd hd ji
   |cons x l'=>exact yH x l'
  rw[hn];have e6:adx.wrap ((at_:Int)+(n:Int))=((at_+n:Nat):Int):=by rw[ah (by omega)];omega
  rw[e6];refine zh (by omega) (by omega) ?_;have ea:tA (some ⟨r,0,none⟩) l.length at_ 1=some ⟨r,at_,none⟩:=by unfold tA;rw[if_neg (by omega)];show some (Addr.add ⟨r,0,none⟩ (at_* 1))=_;rw[ft,adE,ae8]
  rw[ea,Nat.add_sub_cancel_left];obtain⟨fuel,rfl⟩:∃m,fuel=m+1:=⟨fuel-1,by omega⟩;have fy:=xh (f:=ax.make) (lk:=wu) (n:=fuel) (s:=b') ji;have VH:(l.drop at_).drop n=l.drop (at_+n):=aeK;have B4:(done++adQ (l.length-at_) (0:Int)).length=l.length:=by rw[adD,aeH];omega
  have AY:(done++adQ (l.length-at_) (0:Int)).drop (at_+n)=adQ (l.length-(at_+n)) 0:=by
   rw[List.drop_append,aeh (by omega),aed,List.drop_replicate];congr 1;omega
  have oQ:(done++adQ (l.length-at_) (0:Int)).take at_=done:=by rw[←wC,List.take_left]
  refine az (fun g2=>?_) (fun g2=>?_)
  ·have g2:(bu wu (l.drop at_)).2=false:=by simpa using g2
   have GV:n=l.length-at_:=by rw[←hn,sP g2,rO]
   have e7:adx.wrap ((n:Int) -1)=((n-1:Nat):Int):=by rw[ah (by omega)];omega
   rw[e7];refine D6 (r:=r) (N:=l.length) (C:=l.length) (o:=at_) (n:=n) (by rw[B4];omega) (by omega) (by omega) ?_
   repeat' first|apply ww|apply wm;intro _|apply wb
   rw[oQ,AY];refine fun w3 h3=>⟨⟨at_+n,fuel,b',dh,done++jy n (some (n-1,2)),by omega,by rw[adD,kq];omega,by omega,?_,G2,by omega,rfl,h3⟩,by show l.length-((at_+n:Nat):Int).toNat<l.length-(at_:Int).toNat;omega⟩;rw[if_pos g2,hn] at fy;rw[mn,fy,show l.drop (at_+n)=[] from aeh (by omega),rE];simp
  ·have g2:(bu wu (l.drop at_)).2=true:=by simpa using g2
   rw[if_neg (by rw[g2];decide),hn,VH] at fy;refine zh (by omega) (by omega) ?_;rw[Nat.add_sub_cancel_left];have y4:((l.drop at_).take n).length=n:=by rw[adF];omega
   have VB:=OV.take (i:=n);refine Tv (p:=p) G (l:=(l.drop at_).take n) (o:=at_) VB y4.symm (fun x hx=>ik x (List.mem_of_mem_drop (List.mem_of_mem_take hx))) G2 (by omega) (by rw[B4];omega) (by omega) (fun qL b3 hd hP3 OY=>?_) (fun e b3 hd he=>?_)
   ·repeat' first|apply ww|apply wm;intro _|apply wb
    rw[y4] at OY;rw[hd] at fy;refine fun w3 h3=>⟨⟨at_+n,fuel,b3,qL,done++jy n none,by omega,by rw[adD,kq];omega,by omega,?_,hP3,by omega,rfl,?_⟩,by show l.length-((at_+n:Nat):Int).toNat<l.length-(at_:Int).toNat;omega⟩
    ·rw[mn,fy];simp
    ·have e8:done++adQ (l.length-at_) (0:Int)=done++jy n none++adQ (l.length-(at_+n)) 0:=by
      rw[adI];congr 1;show _=adQ n 0++_;rw[List.replicate_append_replicate];congr 1;omega
     rw[←e8];exact h3
   ·repeat' first|apply ww|apply wm;intro _|apply wb
    rw[y4];rw[hd] at fy;rw[oQ,AY];refine fun w3 h3=>⟨⟨at_+n,fuel,b',dh,done++jy n (some e),by omega,by rw[adD,kq];omega,by omega,?_,G2,by omega,rfl,h3⟩,by show l.length-((at_+n:Nat):Int).toNat<l.length-(at_:Int).toNat;omega⟩;rw[mn,fy];simp
 ·have iM:at_=l.length:=by have:=of_decide_eq_false g1;omega
  subst iM;rw[List.drop_length,rE] at mn;simp only[adV] at mn;rw[mn] at h;have:=h r dh (by omega) G2 wC;rw[aeY,List.replicate_zero,adV]
  repeat' first|apply ww|apply wm;intro _|apply wb
  exact this
end
def YK(t:Move):Prop:=uY t∧kN t
section
variable {W:World} {L R:LH} {K:VK} {X:WK} {p:Nat} {b:ax} {hs:List C}
def QP{s:OA}{c nn:Nat}{l:List Move}[hh:Has R L](hr:oz W R ai 16 s l)(GV:nn=l.length)(hl:l.length<1000000)
 (h:T W L (K (.tuple ⟨[.i ((bu wq l).1:Int),.bool (bu wq l).2]⟩))):T W L (eP s nn c (.func (.func N.dQ) ⟨[]⟩ ⟨[]⟩) K):=by
 subst GV;unfold eP;intro w hs;refine⟨fun vs w=>∃i:Nat,i≤l.length∧(∀j y,j<i→l[j]?=some y→wq y=true)∧vs=[.i 0,.bool false,.l s l.length c,.i (l.length:Int),.i (i:Int)]∧St W w L,
  fun vs _=>match vs with|[_,_,_,_,.int _ d]=>l.length-d.toNat|_=>0,⟨0,adK _,fun j y hj=>by omega,rfl,hs⟩,?_⟩
 rintro n1 b1 uF qg uE n2 n3 w2 ⟨i,hi,hU,e,gN⟩;cases e
 refine T.at ?_ gN;have e5:adx.wrap ((i:Int)+1)=((i+1:Nat):Int):=by rw[ah (by omega)];omega
 refine az (fun g1=>?_) (fun g1=>?_)
 ·have a8:i<l.length:=by have:=of_decide_eq_true g1;omega
  have gx:=adA a8;generalize l[i]=x at gx;refine kV hr ⟨by omega,by omega⟩ rfl fun a ha=>?_;rw[adB];refine kT hr ha gx (rH x) ?_
  repeat' first|apply ww|apply wm;intro _|apply wb
  show T W _ (dQ (ai x) _);unfold dQ
  repeat' first|apply ww|apply wm;intro _|apply wb
  rw[CQ]
  repeat' first|apply ww|apply wm;intro _|apply wb
  rw[e5];refine az (fun g2=>?_) (fun g2=>?_)
  ·have g2:wq x=false:=by simpa [wq] using g2
   rw[sR hU gx g2] at h;exact T.dp h
  ·have g2:wq x=true:=by simpa [wq] using g2
   refine T.drop (T.drop ?_);refine fun w3 h3=>⟨⟨i+1,a8,fun j y hj hy=>?_,rfl,h3⟩,by show l.length-((i+1:Nat):Int).toNat<l.length-(i:Int).toNat;omega⟩;by_cases FW:j=i
   ·subst FW;rw[gx] at hy;cases hy;exact g2
   ·exact hU j y (by omega) hy
 ·have iM:i=l.length:=by have:=of_decide_eq_false g1;omega
  subst iM;rw[qW fun x hx=>by obtain⟨j,hj⟩:=aeT hx;exact hU j x (adC.1 hj).1 hj] at h;exact h
def Tu(G:pK W){s:OA}{c c2 nn:Nat}{l:List Move}{r q o:Nat}{res:List Int}(hr:oz W R ai 16 s l)(GV:nn=l.length)(ik:∀x∈l,YK x)(hP:Is b)(hl:hs.length+8* l.length<800000)
 (ho:o+l.length≤res.length)(FM:0<l.length)
 (h0:∀dh b',gU ax.oF b l 0=(none,b')→Is b'→dh.length≤hs.length+8* l.length→T W (bn p (b',dh)::own (some ⟨r,0,none⟩) q q 1 (res.flatMap I1)::R) (K (.tuple ⟨[]⟩)))
 (h1:∀e b',gU ax.oF b l 0=(some e,b')→e.1<l.length→T W (bn p (b,hs)::own (some ⟨r,0,none⟩) q q 1 ((res.take o++jy l.length (some e)++res.drop (o+l.length)).flatMap I1)::R) (K (.tuple ⟨[]⟩))):
 T W (bn p (b,hs)::own (some ⟨r,0,none⟩) q q 1 (res.flatMap I1)::R) (fq (some ⟨p,0,none⟩) s nn c (some ⟨r,o,none⟩) nn c2 (.func (.func N.lq) ⟨[]⟩ ⟨[]⟩) K):=by
 subst GV;unfold fq;refine nd (p:=p) fun hg=>?_;refine IS (p:=p) ?_
 repeat' first|apply ww|apply wm;intro _|apply wb
 intro w ku;refine⟨fun vs w=>∃(i:Nat)(b':ax)(dh:List C),i≤l.length∧gU ax.oF b (l.take i) 0=(none,b')∧Is b'∧Ext (dz b) hs (dz b') dh (8* i)∧vs=[.i (hs.length:Int),.l s l.length c,.i (l.length:Int),.i (i:Int)]∧
  St W w (bn p (b',dh)::own (some ⟨r,0,none⟩) q q 1 (res.flatMap I1)::R),
  fun vs _=>match vs with|[_,_,_,.int _ d]=>l.length-d.toNat|_=>0,⟨0,b,hs,adK _,rfl,hP,Ext.refl _ _ _,rfl,ku⟩,?_⟩
 rintro n2 rA pL rz n3 n4 w2 ⟨i,b',dh,hi,Ey,G2,hx,e,gN⟩;cases e
 refine T.at ?_ gN;have e5:adx.wrap ((i:Int)+1)=((i+1:Nat):Int):=by rw[ah (by omega)];omega
 have hxl:=hx.len;refine az (fun g1=>?_) (fun g1=>?_)
 ·have a8:i<l.length:=by have:=of_decide_eq_true g1;omega
  have gx:=adA a8;have mQ:l[i]∈l:=adZ a8;have qk:l=l.take i++l[i]::l.drop (i+1):=by rw[←aef a8,ad5]
  have sY:l.take (i+1)=l.take i++[l[i]]:=by rw[adT,gx];rfl
  generalize l[i]=x at gx mQ qk sY;have DT:=ik x mQ;refine kV hr ⟨by omega,by omega⟩ rfl fun a ha=>?_;rw[adB];refine kT hr ha gx (rH x) ?_
  repeat' first|apply ww|apply wm;intro _|apply wb
  show T W _ (lq (some ⟨p,0,none⟩) (ai x) _);refine XH (p:=p) G DT.1 DT.2 (by obtain⟨m,h3,h4⟩:=G2;exact Rq h3 h4) (by omega) fun TT TJ=>?_;have Ug:gU ax.oF b l 0=gU ax.oF b' (x::l.drop (i+1)) (0+(l.take i).length):=by
   conv=>lhs;rw[qk]
   exact oU _ _ _ _ _ Ey
  have WO:(l.take i).length=i:=by rw[adF];omega
  repeat' first|apply ww|apply wm;intro _|apply wb
  refine az (fun g2=>?_) (fun g2=>?_)
  ·have g2:(b'.oF x).1≠0:=by simpa using g2
   refine T.drop ?_;have hx3:=TJ.len;refine IU (p:=p) hg (hx.trans TJ) (by omega) ?_
   repeat' first|apply ww|apply wm;intro _|apply wb
   refine D6 (r:=r) (N:=q) (C:=q) ho a8 (by omega) ?_
   repeat' first|apply ww|apply wm;intro _|apply wb
   refine h1 (i,(b'.oF x).1) b' ?_ a8;rw[Ug,WO,gU,if_pos g2,adE]
  ·have g2:(b'.oF x).1=0:=by simpa using g2
   rw[e5];refine T.drop ?_;refine fun w3 h3=>⟨⟨i+1,_,TT,a8,?_,G2.oF x,(hx.trans TJ).mono (by omega),rfl,h3⟩,by show l.length-((i+1:Nat):Int).toNat<l.length-(i:Int).toNat;omega⟩;rw[sY,oU _ _ _ _ _ Ey,gU,if_neg (by omega)]
   rfl
 ·have iM:i=l.length:=by have:=of_decide_eq_false g1;omega
  subst iM;rw[adN] at Ey;exact h0 dh b' Ey G2 (by omega)
def Tl(G:pK W){s:OA}{c:Nat}{l:List Move}(hr:oz W R ai 16 s l)(hc:l.length≤c)(ik:∀x∈l,YK x)(hP:Is b)(CV:l.length≤10000)(hl:hs.length+8* l.length<800000)
 (h:∀r dh,dh.length≤hs.length+8* l.length→Is (fX ax.oF wq l.length b l).2→(fX ax.oF wq l.length b l).1.length=l.length→
  T W (bn p ((fX ax.oF wq l.length b l).2,dh)::own (some ⟨r,0,none⟩) l.length l.length 1 ((fX ax.oF wq l.length b l).1.flatMap I1)::R) (K (.l (some ⟨r,0,none⟩) l.length l.length))):
 T W (bn p (b,hs)::R) (jC (some ⟨p,0,none⟩) s l.length c K):=by
 unfold jC gJ;refine Dr ⟨by omega,by omega,by omega,by omega⟩ fun r=>?_;rw[adB,show(Builtin.zeroCells ⟨[Value.int adx 0]⟩ l.length).toList=(adQ l.length (0:Int)).flatMap I1 from od (g:=I1) (z:=0) rfl _];show T W (own (some ⟨r,0,none⟩) l.length l.length 1 _::bn p (b,hs)::R) _;refine T.perm (M:=own (some ⟨r,0,none⟩) l.length l.length 1 _::bn p (b,hs)::R) (L:=bn p (b,hs)::own (some ⟨r,0,none⟩) l.length l.length 1 _::R) ?_ (ad2.swap _ _ _);intro w ku;refine⟨fun vs w=>∃(at_ fuel:Nat)(b':ax)(dh:List C)(done:List Int),at_≤l.length∧done.length=at_∧l.length≤fuel+at_∧
                                                                           fX ax.oF wq l.length b l=(done++(fX ax.oF wq fuel b' (l.drop at_)).1,(fX ax.oF wq fuel b' (l.drop at_)).2)∧Is b'∧dh.length≤hs.length+8* at_∧
                                                                           vs=[.l none 0 0,.l (some ⟨r,0,none⟩) l.length l.length,.i (at_:Int)]∧
                                                                           St W w (bn p (b',dh)::own (some ⟨r,0,none⟩) l.length l.length 1 ((done++adQ (l.length-at_) 0).flatMap I1)::R),
  fun vs _=>match vs with|[_,_,.int _ d]=>l.length-d.toNat|_=>0,⟨0,l.length,b,hs,[],adK _,rfl,by omega,by simp,hP,by omega,rfl,ku⟩,?_⟩
 rintro rA pL rz yV yg yU n1 w2 ⟨at_,fuel,b',dh,done,vE,wC,LL,mn,G2,R6,e,gN⟩;cases e
 refine T.at ?_ gN;refine az (fun g1=>?_) (fun g1=>?_)
 ·have a8:at_<l.length:=by have:=of_decide_eq_true g1;omega
  have ji:l.drop at_≠[]:=fun hh=>by have:=congrArg List.length hh;rw[adM] at this;simp at this;omega
  have rO:(l.drop at_).length=l.length-at_:=adM;refine tu (by omega) ?_;have OV:=hr.drop (i:=at_) (c:=c) (by omega) hc;refine QP OV rO.symm (by omega) ?_
  repeat' first|apply ww|apply wm;intro _|apply wb
  obtain⟨n,hn⟩:∃n,(bu wq (l.drop at_)).1=n:=⟨_,rfl⟩;have aah:n≤l.length-at_:=by rw[←hn,←rO];exact sQ _
  have W0:0<n:=by
   rw[←hn];cases hd:l.drop at_ with
   |nil=>exact absurd hd ji
   |cons x l'=>exact yH x l'
  rw[hn];have e6:adx.wrap ((at_:Int)+(n:Int))=((at_+n:Nat):Int):=by rw[ah (by omega)];omega
  rw[e6];refine zh (by omega) (by omega) ?_;have ea:tA (some ⟨r,0,none⟩) l.length at_ 1=some ⟨r,at_,none⟩:=by unfold tA;rw[if_neg (by omega)];show some (Addr.add ⟨r,0,none⟩ (at_* 1))=_;rw[ft,adE,ae8]
  rw[ea,Nat.add_sub_cancel_left];obtain⟨fuel,rfl⟩:∃m,fuel=m+1:=⟨fuel-1,by omega⟩;have fy:=xh (f:=ax.oF) (lk:=wq) (n:=fuel) (s:=b') ji;have VH:(l.drop at_).drop n=l.drop (at_+n):=aeK;have B4:(done++adQ (l.length-at_) (0:Int)).length=l.length:=by rw[adD,aeH];omega
  have AY:(done++adQ (l.length-at_) (0:Int)).drop (at_+n)=adQ (l.length-(at_+n)) 0:=by
   rw[List.drop_append,aeh (by omega),aed,List.drop_replicate];congr 1;omega
  have oQ:(done++adQ (l.length-at_) (0:Int)).take at_=done:=by rw[←wC,List.take_left]
  refine az (fun g2=>?_) (fun g2=>?_)
  ·have g2:(bu wq (l.drop at_)).2=false:=by simpa using g2
   have GV:n=l.length-at_:=by rw[←hn,sP g2,rO]
   have e7:adx.wrap ((n:Int) -1)=((n-1:Nat):Int):=by rw[ah (by omega)];omega
   rw[e7];refine D6 (r:=r) (N:=l.length) (C:=l.length) (o:=at_) (n:=n) (by rw[B4];omega) (by omega) (by omega) ?_
   repeat' first|apply ww|apply wm;intro _|apply wb
   rw[oQ,AY];refine fun w3 h3=>⟨⟨at_+n,fuel,b',dh,done++jy n (some (n-1,2)),by omega,by rw[adD,kq];omega,by omega,?_,G2,by omega,rfl,h3⟩,by show l.length-((at_+n:Nat):Int).toNat<l.length-(at_:Int).toNat;omega⟩;rw[if_pos g2,hn] at fy;rw[mn,fy,show l.drop (at_+n)=[] from aeh (by omega),rE];simp
  ·have g2:(bu wq (l.drop at_)).2=true:=by simpa using g2
   rw[if_neg (by rw[g2];decide),hn,VH] at fy;refine zh (by omega) (by omega) ?_;rw[Nat.add_sub_cancel_left];have y4:((l.drop at_).take n).length=n:=by rw[adF];omega
   have VB:=OV.take (i:=n);refine Tu (p:=p) G (l:=(l.drop at_).take n) (o:=at_) VB y4.symm (fun x hx=>ik x (List.mem_of_mem_drop (List.mem_of_mem_take hx))) G2 (by omega) (by rw[B4];omega) (by omega) (fun qL b3 hd hP3 OY=>?_) (fun e b3 hd he=>?_)
   ·repeat' first|apply ww|apply wm;intro _|apply wb
    rw[y4] at OY;rw[hd] at fy;refine fun w3 h3=>⟨⟨at_+n,fuel,b3,qL,done++jy n none,by omega,by rw[adD,kq];omega,by omega,?_,hP3,by omega,rfl,?_⟩,by show l.length-((at_+n:Nat):Int).toNat<l.length-(at_:Int).toNat;omega⟩
    ·rw[mn,fy];simp
    ·have e8:done++adQ (l.length-at_) (0:Int)=done++jy n none++adQ (l.length-(at_+n)) 0:=by
      rw[adI];congr 1;show _=adQ n 0++_;rw[List.replicate_append_replicate];congr 1;omega
     rw[←e8];exact h3
   ·repeat' first|apply ww|apply wm;intro _|apply wb
    rw[y4];rw[hd] at fy;rw[oQ,AY];refine fun w3 h3=>⟨⟨at_+n,fuel,b',dh,done++jy n (some e),by omega,by rw[adD,kq];omega,by omega,?_,G2,by omega,rfl,h3⟩,by show l.length-((at_+n:Nat):Int).toNat<l.length-(at_:Int).toNat;omega⟩;rw[mn,fy];simp
 ·have iM:at_=l.length:=by have:=of_decide_eq_false g1;omega
  subst iM;rw[List.drop_length,rE] at mn;simp only[adV] at mn;rw[mn] at h;have:=h r dh (by omega) G2 wC;rw[aeY,List.replicate_zero,adV]
  repeat' first|apply ww|apply wm;intro _|apply wb
  exact this
end
end Go.Up
namespace Go.Prog
open Go.Den Go.Up Go.Md
def pZ(p:OA)(now:Int)(K:VK):WK:=fun w=>∃(W:World)(L:List Sep.HP)(a:Nat)(b:Up.ax)(m:Model)(hs:List C),
 p=some ⟨a,0,none⟩∧Sep.St W w (bn a (b,hs)::L)∧mI b m∧Md.Ground m∧hs.length≤100000∧
 ∀(n:Int)(b':Up.ax)(dh:List C)(w':World),mI b' (m.time now)→Md.Ground (m.time now)→dh.length≤200000→Sep.St W w' (bn a (b',dh)::L)→K (.i n) w'
def pZ.u:WP:=fun args K=>match args with|[.pointer p,.int .i64 n]=>pZ p n K|_=>no
end Go.Prog
namespace Go.Prog
open Go.Den
def fL(b:LV)(K:VK):WK:=mk b fun a=>lI (ad a 0) fun c=>br (decide (c≥1)) (lI (ad a 0) fun d=>K (.bool (decide (d≤3)))) (K (.bool false))
def fL.u:WP|[.agg ⟨a⟩],K=>fL a K|_,_=>no
def bK.j1(K:VK)(a:Bool):WK:=K (.bool a)
def bK.j2(K:VK)(a:Bool):WK:=K (.bool a)
def bK(b:LV)(K:VK):WK:=mk b fun a=>lI (ad a 0) fun c=>br (c==1) (lL (ad a 1) fun l d m=>br (decide ((d:Int)>0)) (lL (ad a 1) fun n e o=>bK.j1 K (decide ((e:Int)<9))) (bK.j1 K false)) (lI (ad a 0) fun f=>br (f==2) (lL (ad a 2) fun p g q=>br (decide ((g:Int)>0)) (lL (ad a 2) fun r h s=>bK.j2 K (decide ((h:Int)<9))) (bK.j2 K false)) (lI (ad a 0) fun i=>br (i==3) (lI (ad a 3) fun j=>br (decide (j≥0)) (lI (ad a 3) fun k=>K (.bool (decide (k≤1099511627776)))) (K (.bool false))) (K (.bool false))))
def bK.u:WP|[.agg ⟨a⟩],K=>bK a K|_,_=>no
def au.j2(K:VK)(a:Bool):WK:=K (.bool a)
def au.j6(K:VK)(a:Nat)(b:Bool):WK:=br b (lT (ad a 4) fun c=>br c (K (.bool true)) (lT (ad a 5) fun d=>K (.bool d))) (K (.bool false))
def au.j5(K:VK)(a:Nat)(b:Bool):WK:=br b (lI (ad a 7) fun c=>au.j6 K a (decide (c<17))) (au.j6 K a false)
def au.j4(K:VK)(a:Nat)(b:Bool):WK:=br b (lI (ad a 7) fun c=>au.j5 K a (decide (c>0))) (au.j5 K a false)
def au.j3(K:VK)(a:Nat)(b:Bool):WK:=br b (lI (ad a 3) fun c=>au.j4 K a (decide (c≥0))) (au.j4 K a false)
def au.j1(K:VK)(a:Nat)(c:Bool):WK:=br c (lL (ad a 4) fun i d j=>br (decide ((d:Int)>0)) (lL (ad a 4) fun k e l=>au.j2 K (decide ((e:Int)<17))) (au.j2 K false)) (aj (ad a 5) 8 fun f=>mk EC fun b=>aN 8 (ad b 0) f (lI (ad a 0) fun g=>br (g==6) (lI (ad b 2) fun h=>au.j3 K b (decide (h≥0))) (au.j3 K b false)))
def au(b:LV)(K:VK):WK:=mk b fun a=>lI (ad a 0) fun c=>br (c==4) (au.j1 K a true) (lI (ad a 0) fun d=>au.j1 K a (d==5))
def au.u:WP|[.agg ⟨a⟩],K=>au a K|_,_=>no
def bg.j3(K:VK)(a:Nat)(b:Bool):WK:=br b (lI (ad a 12) fun c=>br (decide (c≥0)) (lI (ad a 12) fun d=>K (.bool (decide (d<65536)))) (K (.bool false))) (K (.bool false))
def bg.j2(K:VK)(a:Nat)(b:Bool):WK:=br b (lI (ad a 11) fun c=>bg.j3 K a (decide (c<65536))) (bg.j3 K a false)
def bg.j1(K:VK)(a:Nat)(b:Bool):WK:=br b (lI (ad a 11) fun c=>bg.j2 K a (decide (c≥0))) (bg.j2 K a false)
def bg(b:LV)(K:VK):WK:=mk b fun a=>lI (ad a 10) fun c=>br (decide (c≥0)) (lI (ad a 10) fun d=>bg.j1 K a (decide (d<4294967296))) (bg.j1 K a false)
def bg.u:WP|[.agg ⟨a⟩],K=>bg a K|_,_=>no
def aQ.j5(K:VK)(a:Nat)(b:Bool):WK:=br b (lI (ad a 13) fun c=>br (decide (c≥0)) (lI (ad a 13) fun d=>K (.bool (decide (d<65536)))) (K (.bool false))) (K (.bool false))
def aQ.j4(K:VK)(a:Nat)(b:Bool):WK:=br b (lI (ad a 12) fun c=>aQ.j5 K a (decide (c<65536))) (aQ.j5 K a false)
def aQ.j3(K:VK)(a:Nat)(b:Bool):WK:=br b (lI (ad a 12) fun c=>aQ.j4 K a (decide (c≥0))) (aQ.j4 K a false)
def aQ.j2(K:VK)(a:Nat)(b:Bool):WK:=br b (lI (ad a 11) fun c=>aQ.j3 K a (decide (c<4294967296))) (aQ.j3 K a false)
def aQ.j1(K:VK)(a:Nat)(b:Bool):WK:=br b (lI (ad a 11) fun c=>aQ.j2 K a (decide (c≥0))) (aQ.j2 K a false)
def aQ(b:LV)(K:VK):WK:=mk b fun a=>lI (ad a 10) fun c=>br (decide (c≥0)) (lI (ad a 10) fun d=>aQ.j1 K a (decide (d<4294967296))) (aQ.j1 K a false)
def aQ.u:WP|[.agg ⟨a⟩],K=>aQ a K|_,_=>no
def cL.j1(K:VK)(v:Nat)(C:Bool):WK:=br C (K (.bool false)) (lL (ad v 1) fun D w E=>(lp [.p (some (ad v 0)),.bool false,.l D w E,.i (w:Int),.i 0] fun t x=>∀a d e f n g b r,t [.p (some a),.bool d,.l e f n,.i g,.i b] r→(br (decide (b<g)) (iO e f b 14 fun F=>aj F 14 fun G=>mk c8 fun y=>aN 14 (ad y 0) G (lI a fun H=>br (H==1) (aj (ad y 0) 14 fun I=>bg I (xB fun J=>br (!J) (K (.bool false)) ((ct t x [.p (some a),.bool d,.l e f n,.i g,.i (adx.wrap (b+1))] [.p (some a),.bool d,.l e f n,.i g,.i b] r)))) ((ct t x [.p (some a),.bool d,.l e f n,.i g,.i (adx.wrap (b+1))] [.p (some a),.bool d,.l e f n,.i g,.i b] r)))) (lL (a.add 2) fun M z O=>(lp [.p (some a),.bool d,.l M z O,.i (z:Int),.i 0] fun u A=>∀h o j k q m c s,u [.p (some h),.bool o,.l j k q,.i m,.i c] s→(br (decide (c<m)) (iO j k c 16 fun P=>aj P 16 fun Q=>mk gM fun B=>aN 16 (ad B 0) Q (lI h fun R=>br (R==2) (aj (ad B 0) 16 fun S=>aQ S (xB fun T=>br (!T) (K (.bool false)) ((ct u A [.p (some h),.bool o,.l j k q,.i m,.i (adx.wrap (c+1))] [.p (some h),.bool o,.l j k q,.i m,.i c] s)))) ((ct u A [.p (some h),.bool o,.l j k q,.i m,.i (adx.wrap (c+1))] [.p (some h),.bool o,.l j k q,.i m,.i c] s)))) (K (.bool true))) s))) r))
def cL(b:LV)(K:VK):WK:=mk b fun a=>aj (ad a 0) 13 fun c=>bK c (xB fun d=>br (!d) (aj (ad a 0) 13 fun e=>au e (xB fun f=>cL.j1 K a (!f))) (cL.j1 K a false))
def cL.u:WP|[.agg ⟨a⟩],K=>cL a K|_,_=>no
def cz(n:OA)(K:VK):WK:=tick (nn n fun m=>lL m fun j k o=>nn n fun g=>lL (g.add 1) fun e f h=>nn n fun c=>lI (c.add 2) fun a=>nn n fun d=>lI (d.add 3) fun b=>both (bl True (mk [] fun q=>kp (d.add 3) [.i b] (kp (c.add 2) [.i a] (kp (g.add 1) [.l e f h] (kp m [.l j k o] (both (gj 14 112 c8 (some ⟨q,0,none⟩) 0 0 j k fun r s t=>kp (d.add 3) [.i b] (kp (c.add 2) [.i a] (kp (g.add 1) [.l e f h] (bl True (mk [] fun u=>kp (d.add 3) [.i b] (kp (c.add 2) [.i a] (kp (g.add 1) [.l e f h] (gj 33 264 bj (some ⟨u,0,none⟩) 0 0 e f fun v w x=>kp (d.add 3) [.i b] (kp (c.add 2) [.i a] (bl (1=1∧(1=1∧(1=1∧(1=1∧True)))) (mk [.l r s t,.l v w x,.i a,.i b] fun y=>kp (d.add 3) [.i b] (kp (c.add 2) [.i a] (K (.p (some (ad y 0)))))))))))))))) (bl True (mk [] fun z=>kp (d.add 3) [.i b] (kp (c.add 2) [.i a] (kp (g.add 1) [.l e f h] (kp m [.l j k o] (gj 14 112 c8 (some ⟨q,0,none⟩) 0 0 j k fun A B C=>kp (d.add 3) [.i b] (kp (c.add 2) [.i a] (kp (g.add 1) [.l e f h] (gj 33 264 bj (some ⟨z,0,none⟩) 0 0 e f fun D E F=>kp (d.add 3) [.i b] (kp (c.add 2) [.i a] (bl (1=1∧(1=1∧(1=1∧(1=1∧True)))) (mk [.l A B C,.l D E F,.i a,.i b] fun G=>kp (d.add 3) [.i b] (kp (c.add 2) [.i a] (K (.p (some (ad G 0))))))))))))))))))))))) (bl True (mk [] fun H=>kp (d.add 3) [.i b] (kp (c.add 2) [.i a] (kp (g.add 1) [.l e f h] (kp m [.l j k o] (bl True (mk [] fun I=>kp (d.add 3) [.i b] (kp (c.add 2) [.i a] (kp (g.add 1) [.l e f h] (kp m [.l j k o] (gj 14 112 c8 (some ⟨I,0,none⟩) 0 0 j k fun J M O=>kp (d.add 3) [.i b] (kp (c.add 2) [.i a] (kp (g.add 1) [.l e f h] (gj 33 264 bj (some ⟨H,0,none⟩) 0 0 e f fun P Q R=>kp (d.add 3) [.i b] (kp (c.add 2) [.i a] (bl (1=1∧(1=1∧(1=1∧(1=1∧True)))) (mk [.l J M O,.l P Q R,.i a,.i b] fun S=>kp (d.add 3) [.i b] (kp (c.add 2) [.i a] (K (.p (some (ad S 0)))))))))))))))))))))))
def cz.u:WP|[.pointer a],K=>cz a K|_,_=>no
def aV.j1(K:VK)(j:OA)(a:Int)(f:LI)(b:OA)(c d:Nat)(e:Int)(g:LM)(h:World)(k:Bool):WK:=br k (nn j fun m=>lL (m.add 1) fun n o q=>iO n o a 33 fun p=>st (p.add 32) (.i 4) ((ct f g [.l b c d,.i e,.i (adx.wrap (a+1))] [.l b c d,.i e,.i a] h))) ((ct f g [.l b c d,.i e,.i (adx.wrap (a+1))] [.l b c d,.i e,.i a] h))
def aV(b:OA)(K:VK):WK:=nn b fun n=>lL (n.add 1) fun o m p=>(lp [.l o m p,.i (m:Int),.i 0] fun h k=>∀c d j e a f,h [.l c d j,.i e,.i a] f→(br (decide (a<e)) (iO c d a 33 fun q=>aj q 33 fun r=>mk bj fun g=>aN 33 (ad g 0) r (tick (lI (ad g 32) fun s=>br (s==1) (lI (ad g 26) fun t=>br (decide (t>0)) (lI (ad g 31) fun u=>lI (ad g 26) fun v=>nn b fun w=>lI (w.add 2) fun x=>aV.j1 K b a h c d j e k f (decide ((adx.wrap (u+v))≤x))) (aV.j1 K b a h c d j e k f false)) (aV.j1 K b a h c d j e k f false)))) (K (.tuple ⟨[]⟩))) f)
def aV.u:WP|[.pointer a],K=>aV a K|_,_=>no
def dK(a:OA)(b:Int)(K:VK):WK:=nn a fun c=>lI (c.add 2) fun d=>br (decide (b>d)) (br (decide (b≤1099511627776)) (nn a fun e=>st (e.add 2) (.i b) (aV a (x0 (K (.tuple ⟨[]⟩))))) (aV a (x0 (K (.tuple ⟨[]⟩))))) (aV a (x0 (K (.tuple ⟨[]⟩))))
def dK.u:WP|[.pointer a,.int .i64 b],K=>dK a b K|_,_=>no
def eV(s:OA)(p t:Nat)(K:VK):WK:=(lp [.l none 0 0,.l none 0 0,.l s p t,.i (p:Int),.i 0] fun q u=>∀h j k b c d e f m g a n,q [.l h j k,.l b c d,.l e f m,.i g,.i a] n→(br (decide (a<g)) (iO e f a 14 fun v=>aj v 14 fun w=>mk c8 fun r=>aN 14 (ad r 0) w (aj (ad r 0) 14 fun o=>bl (1=1∧(o.length=14∧True)) (bl ((([.bool true]:LV)++(o++(gM:LV))).length=31∧True) (mk ((([.bool true]:LV)++(o++(gM:LV)))++[]) fun x=>gj 31 248 vI b c d (some ⟨x,0,none⟩) 1 fun y z A=>(ct q u [.l h j k,.l y z A,.l e f m,.i g,.i (adx.wrap (a+1))] [.l h j k,.l b c d,.l e f m,.i g,.i a] n))))) (K (.l b c d))) n)
def eV.u:WP|[.slice a b c],K=>eV a b c K|_,_=>no
def dZ(s:OA)(p t:Nat)(K:VK):WK:=(lp [.l none 0 0,.l none 0 0,.l s p t,.i (p:Int),.i 0] fun q u=>∀h j k b c d e f m g a n,q [.l h j k,.l b c d,.l e f m,.i g,.i a] n→(br (decide (a<g)) (iO e f a 16 fun v=>aj v 16 fun w=>mk gM fun r=>aN 16 (ad r 0) w (aj (ad r 0) 16 fun o=>bl (o.length=16∧True) (bl (((Iy:LV)++(o++[])).length=31∧True) (mk (((Iy:LV)++(o++[]))++[]) fun x=>gj 31 248 vI b c d (some ⟨x,0,none⟩) 1 fun y z A=>(ct q u [.l h j k,.l y z A,.l e f m,.i g,.i (adx.wrap (a+1))] [.l h j k,.l b c d,.l e f m,.i g,.i a] n))))) (K (.l b c d))) n)
def dZ.u:WP|[.slice a b c],K=>dZ a b c K|_,_=>no
def fM(b:LV)(K:VK):WK:=mk b fun a=>lT (ad a 0) fun c=>br c (lI (ad a 13) fun d=>bl ((2:Int)≠0) (K (.bool ((d.tmod (2:Int))!=0)))) (lI (ad a 28) fun e=>bl ((2:Int)≠0) (K (.bool ((e.tmod (2:Int))!=0))))
def fM.u:WP|[.agg ⟨a⟩],K=>fM a K|_,_=>no
def cK(c:LV)(a:Int)(K:VK):WK:=mk c fun b=>br (decide (a≥64)) (lU (ad b 0) fun d=>bl ((0:Int)≤(IntKind.u64.wrap (adx.wrap (a-64)))) (bl ((2:Int)≠0) (K (.i (adx.wrap ((shr .u64 d (IntKind.u64.wrap (adx.wrap (a-64)))).tmod (2:Int))))))) (lU (ad b 1) fun e=>bl ((0:Int)≤(IntKind.u64.wrap a)) (bl ((2:Int)≠0) (K (.i (adx.wrap ((shr .u64 e (IntKind.u64.wrap a)).tmod (2:Int)))))))
def cK.u:WP|[.agg ⟨a⟩,.int .i64 b],K=>cK a b K|_,_=>no
def eG(H:LV)(K:VK):WK:=mk H fun I=>bl (1=1∧True) (mk [.i 0] fun J=>(lp [.p (some (ad I 0)),.string .empty,.l (some ⟨J,0,none⟩) 1 1,.i 127] fun x C=>∀g h j a k d s,x [.p (some g),.string h,.l j a k,.i d] s→(br (decide (d≥0)) (aj g 2 fun M=>cK M d (xI .i64 fun O=>(lp [.p (some g),.string h,.l j a k,.i d,.i O,.i (adx.wrap ((a:Int) -1))] fun D P=>∀m n b c t o e f y,D [.p (some m),.string n,.l b c t,.i o,.i e,.i f] y→(br (decide (f≥0)) (iO b c f 1 fun Q=>lI Q fun E=>bl ((10:Int)≠0) (iO b c f 1 fun R=>st R (.i ((adx.wrap ((adx.wrap (2* E))+e)).tmod (10:Int))) (bl ((10:Int)≠0) ((ct D P [.p (some m),.string n,.l b c t,.i o,.i (adx.wrap ((adx.wrap ((adx.wrap (2* E))+e)).tdiv (10:Int))),.i (adx.wrap (f-1))] [.p (some m),.string n,.l b c t,.i o,.i e,.i f] y))))) (br (decide (e>0)) (bl (1=1∧True) (mk [.i e] fun S=>gj 1 8 [.i 0] (some ⟨S,0,none⟩) 1 1 b c fun T V W=>(ct x C [.p (some m),.string n,.l T V W,.i (adx.wrap (o-1))] [.p (some g),.string h,.l j a k,.i d] s))) ((ct x C [.p (some m),.string n,.l b c t,.i (adx.wrap (o-1))] [.p (some g),.string h,.l j a k,.i d] s)))) y))) ((lp [.string h,.string .empty,.l j a k,.i (a:Int),.i 0] fun F X=>∀z q u v A w r B,F [.string z,.string q,.l u v A,.i w,.i r] B→(br (decide (r<w)) (iO u v r 1 fun Y=>lI Y fun Z=>bl (1=1∧True) (mk [.int .u8 (IntKind.u8.wrap (adx.wrap (48+Z)))] fun r4=>Rg (some ⟨r4,0,none⟩) 1 fun G=>bl (((q.size+G.size:Nat):Int)≤9223372036854775807) ((ct F X [.string z,.string (q++G),.l u v A,.i w,.i (adx.wrap (r+1))] [.string z,.string q,.l u v A,.i w,.i r] B)))) (K (.string q))) B))) s))
def eG.u:WP|[.agg ⟨a⟩],K=>eG a K|_,_=>no
def gg(b a:Int)(K:VK):WK:=bl (a≠0) (bl ((2:Int)≠0) (K (.bool (((adx.wrap (b.tdiv a)).tmod (2:Int))==1))))
def gg.u:WP|[.int .i64 a,.int .i64 b],K=>gg a b K|_,_=>no
def ay.j4(K:VK)(a:Nat)(b:Bool):WK:=br b (K (.i 8)) (lI (ad a 11) fun c=>br (decide (c≤0)) (K (.i 9)) (lI (ad a 11) fun d=>br (decide (d≥65536)) (K (.i 9)) (K (.i 0))))
def ay.j3(K:VK)(a:Nat)(b:Bool):WK:=br b (K (.i 7)) (lI (ad a 10) fun c=>br (decide (c≤0)) (ay.j4 K a true) (lI (ad a 10) fun d=>ay.j4 K a (decide (d≥4294967296))))
def ay.j6(K:VK)(a b:Nat)(c:Bool):WK:=br c (ay.j3 K a true) (aj (ad a 8) 2 fun d=>aj (ad b 0) 2 fun e=>oa [.u 0,.u 0] d e fun f=>br (!f) (ay.j3 K a true) (lI (ad a 13) fun g=>ay.j3 K a (g !=0)))
def ay.j5(K:VK)(a b:Nat)(c:Bool):WK:=br c (ay.j6 K a b true) (aj (ad a 6) 2 fun d=>aj (ad b 0) 2 fun e=>oa [.u 0,.u 0] d e fun f=>ay.j6 K a b (!f))
def ay.j2(K:VK)(a b:Nat)(c:Bool):WK:=br c (K (.i 6)) (aj (ad a 2) 2 fun d=>aj (ad b 0) 2 fun e=>oa [.u 0,.u 0] d e fun f=>br (!f) (ay.j5 K a b true) (aj (ad a 4) 2 fun g=>aj (ad b 0) 2 fun h=>oa [.u 0,.u 0] g h fun j=>ay.j5 K a b (!j)))
def ay.j1(K:VK)(a b:Nat)(c:Bool):WK:=br c (K (.i 3)) (aj (ad a 0) 2 fun d=>aj (ad b 0) 2 fun e=>oa [.u 0,.u 0] d e fun f=>br f (K (.i 4)) (aj (ad a 0) 2 fun g=>eG g (xS fun h=>br (pq h (⟨#[51,52,48,50,56,50,51,54,54,57,50,48,57,51,56,52,54,51,52,54,51,51,55,52,54,48,55,52,51,49,55,54,56,50,49,49,52,53,53]⟩:BA)) (K (.i 5)) (lI (ad a 12) fun j=>gg j 2 (xB fun k=>br k (lI (ad a 12) fun l=>gg l 4 (xB fun m=>ay.j2 K a b m)) (ay.j2 K a b false))))))
def ay(c:LV)(K:VK):WK:=mk c fun a=>bl True (mk [.u 0,.u 0] fun b=>bl (2=2) (iN (ad b 0) [.u 0,.u 0] (lI (ad a 12) fun d=>br (decide (d<0)) (ay.j1 K a b true) (lI (ad a 12) fun e=>ay.j1 K a b (decide (e>7))))))
def ay.u:WP|[.agg ⟨a⟩],K=>ay a K|_,_=>no
def bP(n:OA)(o:LV)(K:VK):WK:=mk o fun q=>nn n fun r=>lL r fun s j t=>(lp [.p (some (ad q 0)),.i 0,.l s j t,.i (j:Int),.i 0] fun k v=>∀b f c d g e a h,k [.p (some b),.i f,.l c d g,.i e,.i a] h→(br (decide (a<e)) (iO c d a 14 fun w=>aj w 14 fun x=>mk c8 fun m=>aN 14 (ad m 0) x (aj (ad m 0) 2 fun y=>aj b 2 fun z=>oa [.u 0,.u 0] y z fun A=>br A (K (.i a)) ((ct k v [.p (some b),.i f,.l c d g,.i e,.i (adx.wrap (a+1))] [.p (some b),.i f,.l c d g,.i e,.i a] h)))) (K (.i (-1)))) h)
def bP.u:WP|[.pointer a,.agg ⟨b⟩],K=>bP a b K|_,_=>no
def cS.j1(K:VK)(a b:Nat)(c:Bool):WK:=br c (lI (ad a 12) fun d=>bl ((2:Int)≠0) (bl ((4:Int)≠0) (lI (ad b 12) fun e=>bl ((2:Int)≠0) (bl ((4:Int)≠0) (br (((adx.wrap (d.tdiv (2:Int))).tmod (4:Int))==((adx.wrap (e.tdiv (2:Int))).tmod (4:Int))) (K (.i 10)) (K (.i 11))))))) (K (.i 11))
def cS(c d:LV)(K:VK):WK:=mk c fun a=>mk d fun b=>lI (ad a 10) fun e=>lI (ad b 10) fun f=>br (e==f) (lI (ad a 11) fun g=>lI (ad b 11) fun h=>cS.j1 K a b (g==h)) (cS.j1 K a b false)
def cS.u:WP|[.agg ⟨a⟩,.agg ⟨b⟩],K=>cS a b K|_,_=>no
def dM(a:OA)(n:LV)(K:VK):WK:=mk n fun b=>aj (ad b 0) 14 fun o=>ay o (xI .i64 fun c=>br (c !=0) (K (.i c)) (aj (ad b 0) 2 fun p=>bP a p (xI .i64 fun d=>br (decide (d≥0)) (tick (aj (ad b 0) 14 fun q=>nn a fun e=>lL e fun f g r=>iO f g d 14 fun s=>aj s 14 fun t=>cS q t (xI .i64 fun u=>kp e [.l f g r] (K (.i u))))) (nn a fun v=>lL v fun J w M=>br (decide ((w:Int)≥32)) (K (.i 35)) (nn a fun x=>lI (x.add 3) fun y=>nn a fun z=>st (z.add 3) (.i (adx.wrap (y+1))) (nn a fun A=>lI (A.add 3) fun B=>st (ad b 13) (.i B) (lI (ad b 12) fun C=>bl ((2:Int)≠0) (st (ad b 12) (.i (adx.wrap ((adx.wrap (C.tdiv (2:Int)))* 2))) (tick (nn a fun h=>lL h fun j k m=>aj (ad b 0) 14 fun D=>EA 14 D fun E=>kp h [.l j k m] (gj 14 112 c8 j k m (some ⟨E,0,none⟩) 1 fun F G H=>nn a fun I=>st I (.l F G H) (K (.i 0)))))))))))))
def dM.u:WP|[.pointer a,.agg ⟨b⟩],K=>dM a b K|_,_=>no
def aL(b:LV)(a:Int)(K:VK):WK:=mk b fun c=>lI (ad c 13) fun d=>bl (a≠0) (bl ((2:Int)≠0) (K (.bool (((adx.wrap (d.tdiv a)).tmod (2:Int))==1))))
def aL.u:WP|[.agg ⟨a⟩,.int .i64 b],K=>aL a b K|_,_=>no
def cM(b:LV)(K:VK):WK:=mk b fun a=>aj (ad a 0) 16 fun c=>aL c 4 (xB fun d=>br d (K (.bool true)) (aj (ad a 0) 16 fun e=>aL e 8 (xB fun f=>K (.bool f))))
def cM.u:WP|[.agg ⟨a⟩],K=>cM a K|_,_=>no
def aE.j2(K:VK)(a:Nat)(b:Bool):WK:=br b (K (.bool false)) (lI (ad a 13) fun c=>br (decide (c<64)) (K (.bool true)) (aj (ad a 0) 16 fun d=>aL d 2 (xB fun e=>K (.bool e))))
def aE.j1(K:VK)(a:Nat)(b:Bool):WK:=br b (K (.bool false)) (aj (ad a 0) 16 fun c=>cM c (xB fun d=>br d (lI (ad a 13) fun e=>aE.j2 K a (decide (e≥16))) (aE.j2 K a false)))
def aE.j4(K:VK)(a:Nat)(b:Bool):WK:=br b (aE.j1 K a true) (aj (ad a 0) 16 fun c=>aL c 4 (xB fun d=>br d (aj (ad a 0) 16 fun e=>aL e 8 (xB fun f=>aE.j1 K a f)) (aE.j1 K a false)))
def aE.j3(K:VK)(a:Nat)(b:Bool):WK:=br b (aE.j4 K a true) (aj (ad a 0) 16 fun c=>aL c 2 (xB fun d=>br d (aj (ad a 0) 16 fun e=>aL e 8 (xB fun f=>aE.j4 K a f)) (aE.j4 K a false)))
def aE(b:LV)(K:VK):WK:=mk b fun a=>aj (ad a 0) 16 fun c=>aL c 2 (xB fun d=>br d (aj (ad a 0) 16 fun e=>aL e 4 (xB fun f=>aE.j3 K a f)) (aE.j3 K a false))
def aE.u:WP|[.agg ⟨a⟩],K=>aE a K|_,_=>no
def aq.j5(K:VK)(a:Nat)(b:Int)(c:Bool):WK:=br c (K (.i 8)) (lI (ad a 12) fun d=>br (decide (d<b)) (K (.i 9)) (lI (ad a 12) fun e=>br (decide (e≥65536)) (K (.i 9)) (K (.i 0))))
def aq.j4(K:VK)(a:Nat)(b:Int):WK:=lI (ad a 11) fun c=>br (decide (c<b)) (aq.j5 K a b true) (lI (ad a 11) fun d=>aq.j5 K a b (decide (d≥4294967296)))
def aq.j3(K:VK)(a b:Nat)(c:Bool):WK:=br c (K (.i 17)) (aj (ad a 0) 16 fun d=>cM d (xB fun e=>br e (aj (ad a 8) 2 fun f=>aj (ad b 0) 2 fun g=>oa [.u 0,.u 0] f g fun h=>br h (K (.i 16)) (aq.j4 K a 0)) (aj (ad a 2) 2 fun j=>aj (ad b 0) 2 fun k=>oa [.u 0,.u 0] j k fun l=>br l (K (.i 12)) (aj (ad a 4) 2 fun m=>aj (ad b 0) 2 fun n=>oa [.u 0,.u 0] m n fun o=>br o (K (.i 13)) (aj (ad a 2) 2 fun p=>aj (ad a 4) 2 fun q=>oa [.u 0,.u 0] p q fun r=>br r (K (.i 14)) (aj (ad a 8) 2 fun s=>aj (ad b 0) 2 fun t=>oa [.u 0,.u 0] s t fun v=>br (!v) (K (.i 15)) (aj (ad a 6) 2 fun w=>aj (ad b 0) 2 fun x=>oa [.u 0,.u 0] w x fun y=>br y (aj (ad a 0) 16 fun z=>aL z 16 (xB fun A=>br (!A) (aj (ad a 0) 16 fun B=>aL B 32 (xB fun C=>br (!C) (K (.i 18)) (aq.j4 K a 1))) (aq.j4 K a 1))) (aq.j4 K a 1))))))))
def aq.j6(K:VK)(a b:Nat)(c:Bool):WK:=br c (aq.j3 K a b true) (lI (ad a 10) fun d=>br (decide (d>0)) (aj (ad a 0) 16 fun e=>aL e 2 (xB fun f=>aq.j3 K a b (!f))) (aq.j3 K a b false))
def aq.j2(K:VK)(a b:Nat)(c:Bool):WK:=br c (K (.i 7)) (lI (ad a 10) fun d=>br (decide (d<0)) (aq.j6 K a b true) (lI (ad a 10) fun e=>aq.j6 K a b (decide (e>1073741824))))
def aq.j1(K:VK)(a b:Nat)(c:Bool):WK:=br c (K (.i 3)) (aj (ad a 0) 2 fun d=>aj (ad b 0) 2 fun e=>oa [.u 0,.u 0] d e fun f=>br f (K (.i 4)) (aj (ad a 0) 2 fun g=>eG g (xS fun h=>br (pq h (⟨#[51,52,48,50,56,50,51,54,54,57,50,48,57,51,56,52,54,51,52,54,51,51,55,52,54,48,55,52,51,49,55,54,56,50,49,49,52,53,53]⟩:BA)) (K (.i 5)) (aj (ad a 0) 16 fun j=>aE j (xB fun k=>br (!k) (K (.i 6)) (lI (ad a 14) fun l=>br (l !=0) (aq.j2 K a b true) (lI (ad a 15) fun m=>aq.j2 K a b (m !=0))))))))
def aq(c:LV)(K:VK):WK:=mk c fun a=>bl True (mk [.u 0,.u 0] fun b=>bl (2=2) (iN (ad b 0) [.u 0,.u 0] (lI (ad a 13) fun d=>br (decide (d<0)) (aq.j1 K a b true) (lI (ad a 13) fun e=>aq.j1 K a b (decide (e>255))))))
def aq.u:WP|[.agg ⟨a⟩],K=>aq a K|_,_=>no
def cx(n:OA)(o:LV)(K:VK):WK:=mk o fun q=>nn n fun r=>lL (r.add 1) fun s j t=>(lp [.p (some (ad q 0)),.i 0,.l s j t,.i (j:Int),.i 0] fun k v=>∀b f c d g e a h,k [.p (some b),.i f,.l c d g,.i e,.i a] h→(br (decide (a<e)) (iO c d a 33 fun w=>aj w 33 fun x=>mk bj fun m=>aN 33 (ad m 0) x (aj (ad m 16) 2 fun y=>aj b 2 fun z=>oa [.u 0,.u 0] y z fun A=>br A (K (.i a)) ((ct k v [.p (some b),.i f,.l c d g,.i e,.i (adx.wrap (a+1))] [.p (some b),.i f,.l c d g,.i e,.i a] h)))) (K (.i (-1)))) h)
def cx.u:WP|[.pointer a,.agg ⟨b⟩],K=>cx a b K|_,_=>no
def fh(c d:LV)(K:VK):WK:=mk c fun a=>mk d fun b=>lI (ad a 13) fun e=>bl ((2:Int)≠0) (st (ad a 13) (.i (adx.wrap (e.tdiv (2:Int)))) (lI (ad b 13) fun f=>bl ((2:Int)≠0) (st (ad b 13) (.i (adx.wrap (f.tdiv (2:Int)))) (aj (ad a 0) 16 fun g=>aj (ad b 0) 16 fun h=>oa gM g h fun j=>br j (K (.i 10)) (K (.i 11))))))
def fh.u:WP|[.agg ⟨a⟩,.agg ⟨b⟩],K=>fh a b K|_,_=>no
def dF(j k:LV)(K:VK):WK:=mk j fun l=>mk k fun m=>(lp [.p (some (ad l 0)),.p (some (ad m 0)),.bool false,.i 127] fun f n=>∀c b d a e,f [.p (some c),.p (some b),.bool d,.i a] e→(br (decide (a≥0)) (tick (aj c 2 fun o=>aj b 2 fun g=>cK o a (xI .i64 fun q=>kp b g (cK g a (xI .i64 fun r=>br (q !=r) (tick (aj c 2 fun s=>aj b 2 fun h=>cK s a (xI .i64 fun t=>kp b h (cK h a (xI .i64 fun u=>K (.bool (decide (t<u)))))))) ((ct f n [.p (some c),.p (some b),.bool d,.i (adx.wrap (a-1))] [.p (some c),.p (some b),.bool d,.i a] e))))))) (K (.bool false))) e)
def dF.u:WP|[.agg ⟨a⟩,.agg ⟨b⟩],K=>dF a b K|_,_=>no
def bp.j1(K:VK)(a:Nat)(b c d:Int)(e:Bool):WK:=br e (bl True (bl (2=2) (iN (ad a 0) [.u 0,.u 0] (aj (ad a 0) 2 fun f=>K (.tuple ⟨[.agg ⟨f⟩,.bool false]⟩))))) (bl (1=1∧(1=1∧True)) (bl (2=2) (iN (ad a 0) [.u d,.u (IntKind.u64.wrap (b+c))] (aj (ad a 0) 2 fun g=>K (.tuple ⟨[.agg ⟨g⟩,.bool true]⟩)))))
def bp(i j:LV)(K:VK):WK:=mk i fun c=>mk j fun g=>mk [.u 0,.u 0] fun f=>lU (ad c 1) fun d=>lU (ad g 1) fun e=>lU (ad c 0) fun a=>lU (ad g 0) fun b=>lU (ad c 0) fun h=>lU (ad c 1) fun k=>br (decide ((IntKind.u64.wrap (d+e))<k)) (br (decide ((IntKind.u64.wrap (a+b))<h)) (bp.j1 K f d e (IntKind.u64.wrap ((IntKind.u64.wrap (a+b))+1)) true) (bp.j1 K f d e (IntKind.u64.wrap ((IntKind.u64.wrap (a+b))+1)) ((IntKind.u64.wrap ((IntKind.u64.wrap (a+b))+1))==0))) (bp.j1 K f d e (IntKind.u64.wrap (a+b)) (decide ((IntKind.u64.wrap (a+b))<h)))
def bp.u:WP|[.agg ⟨a⟩,.agg ⟨b⟩],K=>bp a b K|_,_=>no
def ef(c d:LV)(K:VK):WK:=mk c fun e=>mk d fun f=>mk [.u 0,.u 0] fun a=>aj (ad e 0) 2 fun g=>aj (ad f 0) 2 fun h=>bp g h (x2 fun i j=>(xA 2 fun k=>(xB fun n=>mk [.u 0,.u 0] fun b=>aN 2 (ad b 0) k (aj (ad b 0) 2 fun l=>aN 2 (ad a 0) l (aj (ad a 0) 2 fun m=>K (.agg ⟨m⟩)))) j) i)
def ef.u:WP|[.agg ⟨a⟩,.agg ⟨b⟩],K=>ef a b K|_,_=>no
def aa.TG(K:VK)(a:Addr)(h:LI)(b:Addr)(c:OA)(d e:Nat)(f g:Int)(j:LM)(k:World)(m:Bool):WK:=br m (lI (a.add 12) fun n=>bl ((8:Int)≠0) (st (a.add 12) (.i (adx.wrap ((n.tmod (8:Int))+8))) ((ct h j [.p (some b),.p (some a),.l c d e,.i f,.i (adx.wrap (g+1))] [.p (some b),.p (some a),.l c d e,.i f,.i g] k)))) ((ct h j [.p (some b),.p (some a),.l c d e,.i f,.i (adx.wrap (g+1))] [.p (some b),.p (some a),.l c d e,.i f,.i g] k))
def aa.FI(K:VK)(k:Nat)(a:Addr)(b:LI)(c:Addr)(d:OA)(e f:Nat)(g h:Int)(i:LM)(j:World)(l:Bool):WK:=br l (lI (ad k 32) fun m=>br (m==1) (aa.TG K a b c d e f g h i j true) (lI (ad k 32) fun n=>aa.TG K a b c d e f g h i j (n==2))) (aa.TG K a b c d e f g h i j false)
def aa.Vz(K:VK)(b:Nat)(a:Addr)(c:LI)(d:Addr)(e:OA)(f g:Nat)(h i:Int)(j:LM)(k:World)(l:Nat)(m:Bool):WK:=br m (aa.FI K b a c d e f g h i j k true) (aj (ad l 0) 16 fun n=>aL n 128 (xB fun o=>br o (aj (ad l 4) 2 fun p=>aj a 2 fun q=>oa [.u 0,.u 0] p q fun r=>aa.FI K b a c d e f g h i j k r) (aa.FI K b a c d e f g h i j k false)))
def aa.j9(K:VK)(a:Nat)(b:Addr)(c:Nat)(d:LI)(e:Addr)(f:OA)(g h:Nat)(i j:Int)(k:LM)(l:World):WK:=aj (ad a 0) 16 fun m=>aL m 64 (xB fun n=>br n (aj (ad a 2) 2 fun o=>aj b 2 fun p=>oa [.u 0,.u 0] o p fun q=>aa.Vz K c b d e f g h i j k l a q) (aa.Vz K c b d e f g h i j k l a false))
def aa.j8(K:VK)(a:Addr)(b c:Nat)(d:LI)(e:Addr)(f:OA)(g h:Nat)(i j:Int)(k:LM)(l:World)(m:Bool):WK:=br m (aj (a.add 6) 2 fun n=>aj (ad b 6) 2 fun o=>ef n o (xA 2 fun p=>aN 2 (a.add 6) p (aa.j9 K b a c d e f g h i j k l))) (aa.j9 K b a c d e f g h i j k l)
def aa.j7(K:VK)(a b:Nat)(c:Addr)(d:LI)(e:Addr)(f:OA)(g h:Nat)(i j:Int)(k:LM)(l:World):WK:=lI (ad a 32) fun m=>br (m==1) (aj (ad b 4) 2 fun n=>aj c 2 fun o=>oa [.u 0,.u 0] n o fun p=>aa.j8 K c b a d e f g h i j k l p) (aa.j8 K c b a d e f g h i j k l false)
def aa.j6(K:VK)(a:Addr)(b c:Nat)(d:LI)(e:Addr)(f:OA)(g h:Nat)(i j:Int)(k:LM)(l:World)(m:Bool):WK:=br m (aj (a.add 2) 2 fun n=>aj (ad b 6) 2 fun o=>ef n o (xA 2 fun p=>aN 2 (a.add 2) p (aa.j7 K c b a d e f g h i j k l))) (aa.j7 K c b a d e f g h i j k l)
def aa.j5(K:VK)(a b:Nat)(c:Addr)(d:LI)(e:Addr)(f:OA)(g h:Nat)(i j:Int)(k:LM)(l:World):WK:=lI (ad a 32) fun m=>br (m==1) (aj (ad b 2) 2 fun n=>aj c 2 fun o=>oa [.u 0,.u 0] n o fun p=>aa.j6 K c b a d e f g h i j k l p) (aa.j6 K c b a d e f g h i j k l false)
def aa.j4(K:VK)(a:Addr)(b c:Nat)(d:LI)(e:Addr)(f:OA)(g h:Nat)(i j:Int)(k:LM)(l:World)(m:Bool):WK:=br m (aj (a.add 8) 2 fun n=>aj (ad b 6) 2 fun o=>ef n o (xA 2 fun p=>aN 2 (a.add 8) p (aa.j5 K c b a d e f g h i j k l))) (aa.j5 K c b a d e f g h i j k l)
def aa.j3(K:VK)(m:Bool)(a:Nat)(b:Addr)(c:Nat)(d:LI)(e:Addr)(f:OA)(g h:Nat)(i j:Int)(k:LM)(l:World):WK:=br m (aj (ad a 4) 2 fun n=>aj b 2 fun o=>oa [.u 0,.u 0] n o fun p=>aa.j4 K b a c d e f g h i j k l p) (aa.j4 K b a c d e f g h i j k l false)
def aa.j2(K:VK)(a:Addr)(b:Nat)(c:Bool)(d:Nat)(e:LI)(f:Addr)(g:OA)(h i:Nat)(j k:Int)(l:LM)(m:World)(n:Bool):WK:=br n (aj (a.add 4) 2 fun o=>aj (ad b 6) 2 fun p=>ef o p (xA 2 fun q=>aN 2 (a.add 4) q (aa.j3 K c b a d e f g h i j k l m))) (aa.j3 K c b a d e f g h i j k l m)
def aa.j1(K:VK)(a:Nat)(b:Addr)(d:Nat)(e:LI)(f:Addr)(g:OA)(h i:Nat)(j k:Int)(l:LM)(m:World)(c:Bool):WK:=br c (aj (ad a 2) 2 fun n=>aj b 2 fun o=>oa [.u 0,.u 0] n o fun p=>aa.j2 K b a c d e f g h i j k l m p) (aa.j2 K b a c d e f g h i j k l m false)
def aa(n:OA)(s:Int)(K:VK):WK:=mk c8 fun t=>nn n fun u=>lL u fun v w O=>iO v w s 14 fun x=>aj x 14 fun y=>mk c8 fun o=>aN 14 (ad o 0) y (nn n fun z=>lL (z.add 1) fun A q B=>(lp [.p (some (ad t 0)),.p (some (ad o 0)),.l A q B,.i (q:Int),.i 0] fun k r=>∀a d e f m g b h,k [.p (some a),.p (some d),.l e f m,.i g,.i b] h→(br (decide (b<g)) (iO e f b 33 fun C=>aj C 33 fun D=>mk bj fun j=>aN 33 (ad j 0) D (aj (ad j 16) 16 fun E=>mk gM fun c=>aN 16 (ad c 0) E (aj (ad c 0) 16 fun F=>aL F 2 (xB fun G=>br (!G) (aj (ad c 0) 16 fun H=>aL H 8 (xB fun I=>aa.j1 K c d j k a e f m g b r h (!I))) (aa.j1 K c d j k a e f m g b r h false))))) (aj d 14 fun J=>aN 14 a J (aj a 14 fun M=>K (.agg ⟨M⟩)))) h))
def aa.u:WP|[.pointer a,.int .i64 b],K=>aa a b K|_,_=>no
def bY(c:OA)(d:LV)(e:Int)(K:VK):WK:=mk d fun f=>cz c (xP fun a=>nn a fun g=>lL (g.add 1) fun h j p=>iO h j e 33 fun k=>st (k.add 32) (.i 3) (aj (ad f 0) 2 fun l=>bP a l (xI .i64 fun m=>aa a m (xA 14 fun n=>(fun w=>∃b,n[12]?=some b∧(xI .i64 fun o=>K (.bool (decide (o≥8)))) b w)))))
def bY.u:WP|[.pointer a,.agg ⟨b⟩,.int .i64 c],K=>bY a b c K|_,_=>no
def cy(a:OA)(m n:LV)(f:Int)(K:VK):WK:=mk m fun e=>mk n fun b=>nn a fun o=>lI (o.add 3) fun p=>nn a fun q=>st (q.add 3) (.i (adx.wrap (p+1))) (nn a fun r=>lI (r.add 3) fun s=>st (ad b 14) (.i s) (nn a fun t=>lI (t.add 2) fun u=>st (ad b 15) (.i u) (tick (nn a fun g=>lL (g.add 1) fun h j k=>aj (ad e 0) 16 fun c=>aj (ad b 0) 16 fun d=>bl (c.length=16∧(d.length=16∧(1=1∧True))) (bl ((c++(d++([.i f]:LV))).length=33∧True) (mk ((c++(d++([.i f]:LV)))++[]) fun v=>kp (ad b 0) d (kp (ad e 0) c (kp (g.add 1) [.l h j k] (gj 33 264 bj h j k (some ⟨v,0,none⟩) 1 fun w x y=>kp (ad b 0) d (kp (ad e 0) c (nn a fun z=>st (z.add 1) (.l w x y) (K (.tuple ⟨[]⟩)))))))))))))
def cy.u:WP|[.pointer a,.agg ⟨b⟩,.agg ⟨c⟩,.int .i64 d],K=>cy a b c d K|_,_=>no
def ae.j6(K:VK)(c b d:Nat)(e:OA):WK:=aj (ad c 0) 16 fun f=>mk gM fun a=>aN 16 (ad a 0) f (aj (ad b 2) 2 fun g=>aN 2 (ad a 2) g (aj (ad b 4) 2 fun h=>aN 2 (ad a 4) h (aj (ad d 0) 2 fun j=>aN 2 (ad a 6) j (lI (ad b 11) fun k=>st (ad a 11) (.i k) (lI (ad b 12) fun l=>st (ad a 12) (.i l) (aj (ad c 0) 16 fun m=>aj (ad a 0) 16 fun n=>cy e m n 0 (x0 (K (.i 0)))))))))
def ae.j5(K:VK)(a:OA)(b:Int)(f:Bool)(c d e:Nat)(g:Bool):WK:=br g (K (.i 31)) (nn a fun h=>lL (h.add 1) fun s j t=>br (decide ((j:Int)≥96)) (K (.i 35)) (nn a fun k=>lL (k.add 1) fun l m u=>iO l m b 33 fun n=>st (n.add 32) (.i 3) (br f (nn a fun o=>lL (o.add 1) fun p q v=>iO p q b 33 fun r=>st (r.add 32) (.i 2) (ae.j6 K c d e a)) (ae.j6 K c d e a))))
def ae.j4(K:VK)(a:Bool)(b:Nat)(c:OA)(d:Int)(e f:Nat)(g:Bool):WK:=br g (K (.i 30)) (br a (aj (ad b 4) 2 fun h=>bY c h d (xB fun j=>ae.j5 K c d a e b f j)) (ae.j5 K c d a e b f false))
def ae.j3(K:VK)(a:Bool)(b:Nat)(c:OA)(d:Int)(e f:Nat)(g:Bool):WK:=br g (K (.i 26)) (br a (aj (ad b 2) 2 fun h=>bY c h d (xB fun j=>ae.j4 K a b c d e f j)) (ae.j4 K a b c d e f false))
def ae.j7(K:VK)(a:Bool)(b:Nat)(d:OA)(e:Int)(f c:Nat)(g:Bool):WK:=br g (ae.j3 K a b d e f c true) (br (!a) (aj (ad c 0) 2 fun h=>aj (ad b 6) 2 fun i=>oa [.u 0,.u 0] h i fun j=>ae.j3 K a b d e f c (!j)) (ae.j3 K a b d e f c false))
def ae.j2(K:VK)(a:Bool)(b c:Nat)(d:OA)(e:Int)(f:Nat):WK:=br a (aj (ad b 6) 2 fun g=>aj (ad c 0) 2 fun h=>dF g h (xB fun i=>ae.j7 K a b d e f c i)) (ae.j7 K a b d e f c false)
def ae.j1(K:VK)(b:OA)(c:Int)(d g e:Nat)(h:Bool):WK:=br h (K (.i 25)) (nn b fun j=>lL (j.add 1) fun k l A=>iO k l c 33 fun m=>lI (m.add 32) fun n=>br (decide (n>1)) (nn b fun o=>lL (o.add 1) fun p q B=>iO p q c 33 fun r=>lI (r.add 32) fun s=>K (.i (adx.wrap (25+s)))) (aj (ad d 0) 16 fun t=>aL t 4 (xB fun f=>aj (ad d 6) 2 fun v=>mk [.u 0,.u 0] fun a=>aN 2 (ad a 0) v (aj (ad a 0) 2 fun w=>aj (ad g 0) 2 fun x=>oa [.u 0,.u 0] w x fun y=>br y (aj (ad e 6) 2 fun z=>aN 2 (ad a 0) z (ae.j2 K f e a b c d)) (ae.j2 K f e a b c d)))))
def ae.FI(K:VK)(c:OA)(d:Int)(a e b:Nat)(f:Bool):WK:=br f (ae.j1 K c d a e b true) (lI (ad a 12) fun g=>br (g !=0) (lI (ad a 12) fun h=>lI (ad b 12) fun i=>ae.j1 K c d a e b (h !=i)) (ae.j1 K c d a e b false))
def ae.j9(K:VK)(c:OA)(d:Int)(a e b:Nat)(f:Bool):WK:=br f (ae.FI K c d a e b true) (lI (ad a 11) fun g=>br (g !=0) (lI (ad a 11) fun h=>lI (ad b 11) fun i=>ae.FI K c d a e b (h !=i)) (ae.FI K c d a e b false))
def ae.j8(K:VK)(d:OA)(e:Int)(a b c:Nat)(f:Bool):WK:=br f (ae.j9 K d e a b c true) (aj (ad a 4) 2 fun g=>aj (ad b 0) 2 fun h=>oa [.u 0,.u 0] g h fun i=>br (!i) (aj (ad a 4) 2 fun j=>aj (ad c 4) 2 fun k=>oa [.u 0,.u 0] j k fun l=>ae.j9 K d e a b c (!l)) (ae.j9 K d e a b c false))
def ae(b:OA)(m:LV)(K:VK):WK:=mk m fun a=>aj (ad a 0) 16 fun n=>aq n (xI .i64 fun f=>br (f !=0) (K (.i f)) (aj (ad a 0) 16 fun o=>cM o (xB fun p=>br (!p) (K (.i 6)) (aj (ad a 0) 2 fun q=>cx b q (xI .i64 fun g=>br (decide (g≥0)) (tick (aj (ad a 0) 16 fun r=>nn b fun h=>lL (h.add 1) fun j k s=>iO j k g 33 fun t=>aj t 16 fun v=>fh r v (xI .i64 fun w=>kp (h.add 1) [.l j k s] (K (.i w))))) (aj (ad a 8) 2 fun x=>cx b x (xI .i64 fun d=>br (decide (d<0)) (K (.i 23)) (nn b fun y=>lL (y.add 1) fun z A O=>iO z A d 33 fun B=>aj (B.add 16) 16 fun C=>mk gM fun c=>aN 16 (ad c 0) C (bl True (mk [.u 0,.u 0] fun e=>bl (2=2) (iN (ad e 0) [.u 0,.u 0] (aj (ad c 0) 16 fun D=>aL D 2 (xB fun E=>br (!E) (K (.i 24)) (aj (ad a 2) 2 fun F=>aj (ad e 0) 2 fun G=>oa [.u 0,.u 0] F G fun H=>br (!H) (aj (ad a 2) 2 fun I=>aj (ad c 2) 2 fun J=>oa [.u 0,.u 0] I J fun M=>ae.j8 K b d a e c (!M)) (ae.j8 K b d a e c false)))))))))))))))
def ae.u:WP|[.pointer a,.agg ⟨b⟩],K=>ae a b K|_,_=>no
def ff(d e:LV)(K:VK):WK:=mk d fun b=>mk e fun c=>mk [.u 0,.u 0] fun a=>aj (ad b 0) 2 fun f=>aj (ad c 0) 2 fun g=>dF f g (xB fun h=>br h (aj (ad b 0) 2 fun i=>aN 2 (ad a 0) i (aj (ad a 0) 2 fun j=>K (.agg ⟨j⟩))) (aj (ad c 0) 2 fun k=>aN 2 (ad a 0) k (aj (ad a 0) 2 fun l=>K (.agg ⟨l⟩))))
def ff.u:WP|[.agg ⟨a⟩,.agg ⟨b⟩],K=>ff a b K|_,_=>no
def gQ(K:VK):WK:=mk [.u 0,.u 0] fun a=>bl (1=1∧(1=1∧True)) (bl (2=2) (iN (ad a 0) [.u 18446744073709551615,.u 18446744073709551615] (aj (ad a 0) 2 fun b=>K (.agg ⟨b⟩))))
def gQ.u:WP|[],K=>gQ K|_,_=>no
def im(d:LV)(a:Int)(K:VK):WK:=mk d fun b=>mk [.u 0,.u 0] fun c=>br (decide (a≥64)) (lU (ad b 0) fun e=>bl ((0:Int)≤(IntKind.u64.wrap (adx.wrap (a-64)))) (lU (ad b 1) fun f=>bl (1=1∧(1=1∧True)) (bl (2=2) (iN (ad c 0) [.u (IntKind.u64.wrap (e+(shl .u64 1 (IntKind.u64.wrap (adx.wrap (a-64)))))),.u f] (aj (ad c 0) 2 fun g=>K (.agg ⟨g⟩)))))) (lU (ad b 0) fun h=>lU (ad b 1) fun i=>bl ((0:Int)≤(IntKind.u64.wrap a)) (bl (1=1∧(1=1∧True)) (bl (2=2) (iN (ad c 0) [.u h,.u (IntKind.u64.wrap (i+(shl .u64 1 (IntKind.u64.wrap a))))] (aj (ad c 0) 2 fun j=>K (.agg ⟨j⟩))))))
def im.u:WP|[.agg ⟨a⟩,.int .i64 b],K=>im a b K|_,_=>no
def cm.j1(K:VK)(a:Addr)(b:Int)(g:LI)(c d e:Addr)(f:Bool)(h:LM)(j:Int)(k:World)(l m:Int):WK:=br (m==1) (aj a 2 fun n=>im n b (xA 2 fun o=>aN 2 a o ((ct g h [.p (some c),.p (some d),.p (some e),.bool f,.p (some a),.i l,.i (adx.wrap (b+1))] [.p (some c),.p (some d),.p (some e),.bool f,.p (some a),.i j,.i b] k)))) ((ct g h [.p (some c),.p (some d),.p (some e),.bool f,.p (some a),.i l,.i (adx.wrap (b+1))] [.p (some c),.p (some d),.p (some e),.bool f,.p (some a),.i j,.i b] k))
def cm(t v:LV)(K:VK):WK:=mk t fun n=>mk v fun o=>mk [.u 0,.u 0] fun h=>aj (ad n 0) 2 fun w=>aj (ad o 0) 2 fun x=>dF w x (xB fun y=>br y (bl True (bl (2=2) (iN (ad h 0) [.u 0,.u 0] (aj (ad h 0) 2 fun z=>K (.tuple ⟨[.agg ⟨z⟩,.bool false]⟩))))) (bl True (mk [.u 0,.u 0] fun q=>bl (2=2) (iN (ad q 0) [.u 0,.u 0] ((lp [.p (some (ad n 0)),.p (some (ad o 0)),.p (some (ad h 0)),.bool false,.p (some (ad q 0)),.i 0,.i 0] fun j r=>∀e c d k f a b g,j [.p (some e),.p (some c),.p (some d),.bool k,.p (some f),.i a,.i b] g→(br (decide (b<128)) (tick (aj e 2 fun A=>aj c 2 fun s=>cK A b (xI .i64 fun l=>kp c s (cK s b (xI .i64 fun m=>br (decide ((adx.wrap ((adx.wrap (l-m)) -a))<0)) (cm.j1 K f b j e c d k r a g 1 (adx.wrap ((adx.wrap ((adx.wrap (l-m)) -a))+2))) (cm.j1 K f b j e c d k r a g 0 (adx.wrap ((adx.wrap (l-m)) -a)))))))) (aj f 2 fun B=>aN 2 d B (aj d 2 fun C=>K (.tuple ⟨[.agg ⟨C⟩,.bool true]⟩)))) g))))))
def cm.u:WP|[.agg ⟨a⟩,.agg ⟨b⟩],K=>cm a b K|_,_=>no
def bq.j2(K:VK)(c d a:Nat):WK:=aj (ad c 0) 2 fun e=>aj (ad d 0) 2 fun f=>cm e f (x2 fun g h=>(xA 2 fun i=>(xB fun l=>mk [.u 0,.u 0] fun b=>aN 2 (ad b 0) i (aj (ad b 0) 2 fun j=>aN 2 (ad a 0) j (aj (ad a 0) 2 fun k=>K (.agg ⟨k⟩)))) h) g)
def bq.j1(K:VK)(d e b c:Nat):WK:=aj (ad d 0) 2 fun f=>aj (ad e 0) 2 fun g=>bp f g (x2 fun h i=>(xA 2 fun j=>(xB fun k=>mk [.u 0,.u 0] fun a=>aN 2 (ad a 0) j (br (!k) (gQ (xA 2 fun l=>aN 2 (ad a 0) l (bq.j2 K b a c))) (bq.j2 K b a c))) i) h)
def bq(f:LV)(g:Bool)(K:VK):WK:=mk f fun a=>mk [.u 0,.u 0] fun e=>aj (ad a 4) 2 fun h=>mk [.u 0,.u 0] fun b=>aN 2 (ad b 0) h (aj (ad a 6) 2 fun i=>mk [.u 0,.u 0] fun c=>aN 2 (ad c 0) i (aj (ad a 8) 2 fun j=>mk [.u 0,.u 0] fun d=>aN 2 (ad d 0) j (br g (aj (ad a 8) 2 fun k=>aN 2 (ad b 0) k (aj (ad a 2) 2 fun l=>aN 2 (ad c 0) l (aj (ad a 4) 2 fun m=>aN 2 (ad d 0) m (bq.j1 K c d b e)))) (bq.j1 K c d b e))))
def bq.u:WP|[.agg ⟨a⟩,.bool b],K=>bq a b K|_,_=>no
def aP.j4(K:VK)(e:Bool)(c a d b:Nat):WK:=br e (aj (ad c 0) 2 fun f=>aN 2 (ad a 2) f (aj (ad d 0) 2 fun g=>aN 2 (ad a 4) g (aj (ad a 0) 14 fun h=>aN 14 (ad b 0) h (aj (ad b 0) 14 fun j=>K (.tuple ⟨[.agg ⟨j⟩,.i 0]⟩))))) (aj (ad c 0) 2 fun k=>aN 2 (ad a 6) k (aj (ad d 0) 2 fun l=>aN 2 (ad a 8) l (aj (ad a 0) 14 fun m=>aN 14 (ad b 0) m (aj (ad b 0) 14 fun n=>K (.tuple ⟨[.agg ⟨n⟩,.i 0]⟩)))))
def aP.j3(K:VK)(e:Bool)(b a:Nat)(g:Bool)(c f d:Nat)(h:Bool):WK:=br h (br e (aj (ad b 0) 14 fun j=>aN 14 (ad a 0) j (aj (ad a 0) 14 fun k=>K (.tuple ⟨[.agg ⟨k⟩,.i 33]⟩))) (aj (ad b 0) 14 fun l=>aN 14 (ad a 0) l (aj (ad a 0) 14 fun m=>K (.tuple ⟨[.agg ⟨m⟩,.i 34]⟩)))) (br g (aj (ad c 0) 2 fun n=>aj (ad f 0) 2 fun o=>bp n o (x2 fun p q=>(xA 2 fun r=>(xB fun x=>aN 2 (ad c 0) r (aP.j4 K e c b d a)) q) p)) (aj (ad d 0) 2 fun s=>aj (ad f 0) 2 fun t=>bp s t (x2 fun u v=>(xA 2 fun w=>(xB fun y=>aN 2 (ad d 0) w (aP.j4 K e c b d a)) v) u)))
def aP.j2(K:VK)(a b:Nat)(k:Int)(c:Nat)(d f:Bool)(g h:Nat)(l:Bool):WK:=br l (aj (ad a 0) 14 fun m=>aN 14 (ad b 0) m (aj (ad b 0) 14 fun n=>K (.tuple ⟨[.agg ⟨n⟩,.i 32]⟩))) (tick (lI (ad a 12) fun e=>br ((bG .i64 .and e k)!=0) (aj (ad a 0) 14 fun o=>aj (ad c 0) 2 fun j=>bq o d (xA 2 fun p=>kp (ad c 0) j (kp (ad a 12) [.i e] (dF p j (xB fun q=>kp (ad a 12) [.i e] (aP.j3 K d a b f g c h q)))))) (aP.j3 K d a b f g c h false)))
def aP.j1(K:VK)(a b c d e:Nat)(f g:Bool)(h:Int):WK:=aj (ad a 0) 2 fun j=>aj (ad b 0) 2 fun k=>bp j k (x2 fun l m=>(xA 2 fun n=>(xB fun o=>mk [.u 0,.u 0] fun i=>aN 2 (ad i 0) n (aj (ad i 0) 2 fun p=>aj (ad c 0) 2 fun q=>bp p q (x2 fun r s=>(xA 2 fun t=>(xB fun v=>mk [.u 0,.u 0] fun w=>aN 2 (ad w 0) t (br (!o) (aP.j2 K d e h c f g a b true) (aP.j2 K d e h c f g a b (!v)))) s) r))) m) l)
def aP(h:LV)(d:Bool)(i:LV)(e:Bool)(K:VK):WK:=mk h fun a=>mk i fun f=>mk c8 fun g=>aj (ad a 6) 2 fun j=>mk [.u 0,.u 0] fun b=>aN 2 (ad b 0) j (aj (ad a 8) 2 fun k=>mk [.u 0,.u 0] fun c=>aN 2 (ad c 0) k (br d (aj (ad a 2) 2 fun l=>aN 2 (ad b 0) l (aj (ad a 4) 2 fun m=>aN 2 (ad c 0) m (aP.j1 K b c f a g d e 2))) (aP.j1 K b c f a g d e 4)))
def aP.u:WP|[.agg ⟨a⟩,.bool b,.agg ⟨c⟩,.bool d],K=>aP a b c d K|_,_=>no
def aG.j3(K:VK)(a h c j:Nat)(e:OA):WK:=aj (ad a 0) 16 fun k=>aL k 2 (xB fun d=>aj (ad h 0) 14 fun l=>aj (ad c 0) 2 fun m=>aP l true m d (x2 fun n o=>(xA 14 fun z=>(xI .i64 fun f=>br (f !=0) (K (.i f)) (aj (ad j 0) 14 fun p=>aj (ad c 0) 2 fun q=>aP p false q d (x2 fun r s=>(xA 14 fun A=>(xI .i64 fun g=>br (g !=0) (K (.i g)) (aj (ad a 0) 16 fun t=>mk gM fun b=>aN 16 (ad b 0) t (aj (ad c 0) 2 fun u=>aN 2 (ad b 6) u (br d (aj (ad a 0) 16 fun v=>aj (ad b 0) 16 fun w=>cy e v w 1 (x0 (K (.i 0)))) (aj (ad a 0) 16 fun x=>aj (ad b 0) 16 fun y=>cy e x y 0 (x0 (K (.i 0)))))))) s) r))) o) n))
def aG.j2(K:VK)(b a c g d:Nat)(e:OA):WK:=aj (ad b 0) 16 fun h=>aL h 32 (xB fun j=>br j (tick (aj (ad a 0) 2 fun f=>aj (ad c 0) 14 fun k=>bq k false (xA 2 fun l=>kp (ad a 0) f (ff f l (xA 2 fun m=>aN 2 (ad a 0) m (aj (ad a 0) 2 fun n=>aj (ad g 0) 2 fun o=>oa [.u 0,.u 0] n o fun p=>br p (K (.i 34)) (aG.j3 K b d a c e))))))) (aG.j3 K b d a c e))
def aG.j1(K:VK)(b a c d e:Nat)(f:OA):WK:=aj (ad b 0) 16 fun h=>aL h 16 (xB fun j=>br j (tick (aj (ad a 0) 2 fun g=>aj (ad c 0) 14 fun k=>bq k true (xA 2 fun l=>kp (ad a 0) g (ff g l (xA 2 fun m=>aN 2 (ad a 0) m (aj (ad a 0) 2 fun n=>aj (ad d 0) 2 fun o=>oa [.u 0,.u 0] n o fun p=>br p (K (.i 33)) (aG.j2 K b a e d c f))))))) (aG.j2 K b a e d c f))
def aG(b:OA)(p:LV)(K:VK):WK:=mk p fun a=>aj (ad a 0) 16 fun q=>aq q (xI .i64 fun g=>br (g !=0) (K (.i g)) (aj (ad a 0) 16 fun r=>cM r (xB fun s=>br s (K (.i 6)) (aj (ad a 0) 2 fun t=>cx b t (xI .i64 fun h=>br (decide (h≥0)) (tick (aj (ad a 0) 16 fun v=>nn b fun j=>lL (j.add 1) fun k m w=>iO k m h 33 fun x=>aj x 16 fun y=>fh v y (xI .i64 fun z=>kp (j.add 1) [.l k m w] (K (.i z))))) (aj (ad a 2) 2 fun A=>bP b A (xI .i64 fun n=>aj (ad a 4) 2 fun B=>bP b B (xI .i64 fun o=>br (decide (n<0)) (K (.i 19)) (br (decide (o<0)) (K (.i 20)) (aa b n (xA 14 fun C=>mk c8 fun c=>aN 14 (ad c 0) C (aa b o (xA 14 fun D=>mk c8 fun d=>aN 14 (ad d 0) D (lI (ad c 10) fun E=>lI (ad d 10) fun F=>br (E !=F) (K (.i 21)) (lI (ad c 10) fun G=>lI (ad a 11) fun H=>br (G !=H) (K (.i 22)) (lI (ad c 12) fun I=>br (decide (I≥8)) (K (.i 30)) (lI (ad d 12) fun J=>br (decide (J≥8)) (K (.i 31)) (nn b fun M=>lL (M.add 1) fun T O V=>br (decide ((O:Int)≥96)) (K (.i 35)) (bl True (mk [.u 0,.u 0] fun f=>bl (2=2) (iN (ad f 0) [.u 0,.u 0] (aj (ad a 6) 2 fun P=>mk [.u 0,.u 0] fun e=>aN 2 (ad e 0) P (aj (ad e 0) 2 fun Q=>aj (ad f 0) 2 fun R=>oa [.u 0,.u 0] Q R fun S=>br S (bl (1=1∧(1=1∧True)) (bl (2=2) (iN (ad e 0) [.u 18446744073709551615,.u 18446744073709551615] (aG.j1 K a e c f d b)))) (aG.j1 K a e c f d b))))))))))))))))))))))))
def aG.u:WP|[.pointer a,.agg ⟨b⟩],K=>aG a b K|_,_=>no
def dT.j1(K:VK)(a:Nat)(b:OA)(c:Bool):WK:=br c (aj (ad a 15) 16 fun d=>ae b d (xI .i64 fun e=>K (.i e))) (aj (ad a 15) 16 fun f=>aG b f (xI .i64 fun g=>K (.i g)))
def dT(b:OA)(c:LV)(K:VK):WK:=mk c fun a=>lT (ad a 0) fun d=>br d (aj (ad a 1) 14 fun e=>dM b e (xI .i64 fun f=>K (.i f))) (aj (ad a 15) 16 fun g=>aq g (xI .i64 fun h=>br (h==0) (aj (ad a 15) 16 fun j=>cM j (xB fun k=>dT.j1 K a b k)) (dT.j1 K a b false)))
def dT.u:WP|[.pointer a,.agg ⟨b⟩],K=>dT a b K|_,_=>no
def aT.j3(K:VK)(u:LI)(v:LM)(w x:OA)(y z:Nat)(A B:OA)(C D:Nat)(E:Int)(F:World)(H I:OA)(J M:Nat)(O P:OA)(Q R:Nat)(G S T V:Int)(W:OA):WK:=(lp [.p H,.l I J M,.p O,.l P Q R,.i G,.i S,.i T,.i V,.p W,.i G] fun s t=>∀m c d e f g h j q a b n o k r,s [.p m,.l c d e,.p f,.l g h j,.i q,.i a,.i b,.i n,.p o,.i k] r→(br (decide (k≤a)) (br (decide (b<0)) (bl (1=1∧True) (mk [.i 0] fun X=>gj 1 8 [.i 0] g h j (some ⟨X,0,none⟩) 1 fun Y Z Hh=>(ct s t [.p m,.l c d e,.p f,.l Y Z Hh,.i q,.i a,.i b,.i n,.p o,.i (adx.wrap (k+1))] [.p m,.l c d e,.p f,.l g h j,.i q,.i a,.i b,.i n,.p o,.i k] r))) (br (k==b) (bl (1=1∧True) (mk [.i n] fun r2=>gj 1 8 [.i 0] g h j (some ⟨r2,0,none⟩) 1 fun ZH ZA ZD=>(ct s t [.p m,.l c d e,.p f,.l ZH ZA ZD,.i q,.i a,.i b,.i n,.p o,.i (adx.wrap (k+1))] [.p m,.l c d e,.p f,.l g h j,.i q,.i a,.i b,.i n,.p o,.i k] r))) (bl (1=1∧True) (mk [.i 1] fun r3=>gj 1 8 [.i 0] g h j (some ⟨r3,0,none⟩) 1 fun ZG Zz ZC=>(ct s t [.p m,.l c d e,.p f,.l ZG Zz ZC,.i q,.i a,.i b,.i n,.p o,.i (adx.wrap (k+1))] [.p m,.l c d e,.p f,.l g h j,.i q,.i a,.i b,.i n,.p o,.i k] r))))) (br (decide (b<0)) ((ct u v [.p o,.l c d e,.p f,.l g h j,.i (adx.wrap (a+1))] [.p w,.l x y z,.p A,.l B C D,.i E] F)) ((ct u v [.p m,.l c d e,.p f,.l g h j,.i (adx.wrap (a+1))] [.p w,.l x y z,.p A,.l B C D,.i E] F)))) r)
def aT.j4(K:VK)(v:OA)(w:Nat)(a:Int)(b:OA)(s:LI)(c d:OA)(e f:Nat)(g h:OA)(j k:Nat)(m n:Int)(t:LM)(o q:Int)(u:World)(x:LI)(y:LM)(z A:OA)(B C:Nat)(D E:OA)(F G:Nat)(H:Int)(I:World)(J:Bool):WK:=br J (iO v w a 31 fun M=>aj M 31 fun O=>dT b O (xI .i64 fun r=>br (r !=0) ((ct s t [.p c,.l d e f,.p g,.l h j k,.i m,.i n,.i a,.i r,.p b,.i (adx.wrap (a+1))] [.p c,.l d e f,.p g,.l h j k,.i m,.i n,.i o,.i q,.p b,.i a] u)) ((ct s t [.p c,.l d e f,.p g,.l h j k,.i m,.i n,.i o,.i r,.p b,.i (adx.wrap (a+1))] [.p c,.l d e f,.p g,.l h j k,.i m,.i n,.i o,.i q,.p b,.i a] u)))) (aT.j3 K x y z A B C D E F G H I c d e f g h j k m n o q b)
def aT.j2(K:VK)(t M:OA)(O P:Nat)(Q R:OA)(S T:Nat)(u:Int)(v:OA)(w:Nat)(x:LI)(y:LM)(z A:OA)(B C:Nat)(D E:OA)(F G:Nat)(H:Int)(I:World)(V W X:Int):WK:=cz t (xP fun Y=>(lp [.p t,.l M O P,.p Q,.l R S T,.i u,.i V,.i W,.i X,.p Y,.i u] fun e J=>∀f g h j k m n o q a b r s c d,e [.p f,.l g h j,.p k,.l m n o,.i q,.i a,.i b,.i r,.p s,.i c] d→(br (decide (c≤a)) (aT.j4 K v w c s e f g h j k m n o q a J b r d x y z A B C D E F G H I (decide (b<0))) (aT.j4 K v w c s e f g h j k m n o q a J b r d x y z A B C D E F G H I false)) d))
def aT.j1(K:VK)(a:Nat)(b:OA)(c:LI)(d:LM)(e f:OA)(g h:Nat)(i j:OA)(k l:Nat)(m:Int)(n:World)(o p:OA)(q r:Nat)(s t:OA)(u v:Nat)(w x:Int):WK:=br (x==(a:Int)) (aT.j2 K o p q r s t u v w b a c d e f g h i j k l m n (adx.wrap ((a:Int) -1)) (adx.wrap ((a:Int) -1)) 2) (aT.j2 K o p q r s t u v w b a c d e f g h i j k l m n x (-1) 0)
def aT(D y:OA)(c I:Nat)(K:VK):WK:=(lp [.p D,.l none 0 0,.p none,.l none 0 0,.i 0] fun z B=>∀d t u v w e f g b x,z [.p d,.l t u v,.p w,.l e f g,.i b] x→(br (decide (b<(c:Int))) ((lp [.p d,.l t u v,.p w,.l e f g,.i b,.i b] fun C E=>∀h j k m n o q r s a A,C [.p h,.l j k m,.p n,.l o q r,.i s,.i a] A→(br (decide (a<(c:Int))) (iO y c a 31 fun F=>aj F 31 fun G=>fM G (xB fun H=>br H ((ct C E [.p h,.l j k m,.p n,.l o q r,.i s,.i (adx.wrap (a+1))] [.p h,.l j k m,.p n,.l o q r,.i s,.i a] A)) (aT.j1 K c y z B d t u v w e f g b x h j k m n o q r s a))) (aT.j1 K c y z B d t u v w e f g b x h j k m n o q r s a)) A)) (K (.tuple ⟨[.l e f g,.p d]⟩))) x)
def aT.u:WP|[.pointer a,.slice b c d],K=>aT a b c d K|_,_=>no
def dS.j1(K:VK)(a b:OA)(c d:Nat):WK:=aT a b c d (x2 fun e f=>(xL fun g h j=>(xP fun k=>K (.tuple ⟨[.l g h j,.i 0,.p k]⟩)) f) e)
def dS(b:OA)(d:LV)(K:VK):WK:=mk d fun a=>aj (ad a 0) 13 fun e=>bK e (xB fun f=>br (!f) (K (.tuple ⟨[.l none 0 0,.i 1,.p b]⟩)) (lI (ad a 0) fun g=>br (g==3) (cz b (xP fun c=>lI (ad a 3) fun h=>dK c h (x0 (K (.tuple ⟨[.l none 0 0,.i 0,.p c]⟩))))) (lL (ad a 1) fun j k m=>eV j k m (xL fun n o q=>lI (ad a 0) fun r=>br (r==2) (lL (ad a 2) fun s t u=>dZ s t u (xL fun v w x=>dS.j1 K b v w x)) (dS.j1 K b n o q)))))
def dS.u:WP|[.pointer a,.agg ⟨b⟩],K=>dS a b K|_,_=>no
def eS(S:OA)(M T:Nat)(V:OA)(O W:Nat)(K:VK):WK:=(lp [.l none 0 0,.l none 0 0,.l V O W,.i (O:Int),.i 0] fun P X=>∀D E F w x y z A G B t H,P [.l D E F,.l w x y,.l z A G,.i B,.i t] H→(br (decide (t<B)) (iO z A t 2 fun Y=>aj Y 2 fun Z=>mk [.u 0,.u 0] fun Q=>aN 2 (ad Q 0) Z ((lp [.l D E F,.l w x y,.p (some (ad Q 0)),.l z A G,.i B,.i t,.l S M T,.i (M:Int),.i 0] fun I R=>∀b c d e f g h j k m n o q r v s a C,I [.l b c d,.l e f g,.p (some h),.l j k m,.i n,.i o,.l q r v,.i s,.i a] C→(br (decide (a<s)) (iO q r a 14 fun a3=>aj a3 14 fun Q0=>mk c8 fun J=>aN 14 (ad J 0) Q0 (aj (ad J 0) 2 fun Yx=>aj h 2 fun Yw=>oa [.u 0,.u 0] Yx Yw fun b1=>br b1 (aj (ad J 0) 14 fun UR=>EA 14 UR fun r3=>gj 14 112 c8 e f g (some ⟨r3,0,none⟩) 1 fun MC Mz Hh=>(ct I R [.l b c d,.l MC Mz Hh,.p (some h),.l j k m,.i n,.i o,.l q r v,.i s,.i (adx.wrap (a+1))] [.l b c d,.l e f g,.p (some h),.l j k m,.i n,.i o,.l q r v,.i s,.i a] C)) ((ct I R [.l b c d,.l e f g,.p (some h),.l j k m,.i n,.i o,.l q r v,.i s,.i (adx.wrap (a+1))] [.l b c d,.l e f g,.p (some h),.l j k m,.i n,.i o,.l q r v,.i s,.i a] C)))) ((ct P X [.l b c d,.l e f g,.l j k m,.i n,.i (adx.wrap (o+1))] [.l D E F,.l w x y,.l z A G,.i B,.i t] H))) C))) (K (.l w x y))) H)
def eS.u:WP|[.slice a b c,.slice d e f],K=>eS a b c d e f K|_,_=>no
def dY(S:OA)(M T:Nat)(V:OA)(O W:Nat)(K:VK):WK:=(lp [.l none 0 0,.l none 0 0,.l V O W,.i (O:Int),.i 0] fun P X=>∀D E F w x y z A G B t H,P [.l D E F,.l w x y,.l z A G,.i B,.i t] H→(br (decide (t<B)) (iO z A t 2 fun Y=>aj Y 2 fun Z=>mk [.u 0,.u 0] fun Q=>aN 2 (ad Q 0) Z ((lp [.l D E F,.l w x y,.p (some (ad Q 0)),.l z A G,.i B,.i t,.l S M T,.i (M:Int),.i 0] fun I R=>∀b c d e f g h j k m n o q r v s a C,I [.l b c d,.l e f g,.p (some h),.l j k m,.i n,.i o,.l q r v,.i s,.i a] C→(br (decide (a<s)) (iO q r a 33 fun a3=>aj a3 33 fun Q0=>mk bj fun J=>aN 33 (ad J 0) Q0 (aj (ad J 16) 2 fun Yx=>aj h 2 fun Yw=>oa [.u 0,.u 0] Yx Yw fun b1=>br b1 (aj (ad J 16) 16 fun UR=>EA 16 UR fun r3=>gj 16 128 gM e f g (some ⟨r3,0,none⟩) 1 fun MC Mz Hh=>(ct I R [.l b c d,.l MC Mz Hh,.p (some h),.l j k m,.i n,.i o,.l q r v,.i s,.i (adx.wrap (a+1))] [.l b c d,.l e f g,.p (some h),.l j k m,.i n,.i o,.l q r v,.i s,.i a] C)) ((ct I R [.l b c d,.l e f g,.p (some h),.l j k m,.i n,.i o,.l q r v,.i s,.i (adx.wrap (a+1))] [.l b c d,.l e f g,.p (some h),.l j k m,.i n,.i o,.l q r v,.i s,.i a] C)))) ((ct P X [.l b c d,.l e f g,.l j k m,.i n,.i (adx.wrap (o+1))] [.l D E F,.l w x y,.l z A G,.i B,.i t] H))) C))) (K (.l w x y))) H)
def dY.u:WP|[.slice a b c,.slice d e f],K=>dY a b c d e f K|_,_=>no
def aI.j3(K:VK)(o:Nat)(a:OA)(b c:Nat)(k:LI)(d:Addr)(e:OA)(f g:Nat)(h j:Int)(m:LM)(n:World)(q:Bool):WK:=br q (aj (ad o 0) 16 fun r=>EA 16 r fun s=>gj 16 128 gM a b c (some ⟨s,0,none⟩) 1 fun t u v=>(ct k m [.p (some d),.l e f g,.l t u v,.i h,.i (adx.wrap (j+1))] [.p (some d),.l e f g,.l a b c,.i h,.i j] n)) ((ct k m [.p (some d),.l e f g,.l a b c,.i h,.i (adx.wrap (j+1))] [.p (some d),.l e f g,.l a b c,.i h,.i j] n))
def aI.j4(K:VK)(b:Nat)(c:OA)(d e:Nat)(f:LI)(a:Addr)(g:OA)(h i:Nat)(j k:Int)(l:LM)(m:World)(n:Bool):WK:=br n (aI.j3 K b c d e f a g h i j k l m true) (lT (a.add 5) fun o=>br o (aj (ad b 4) 2 fun p=>aj a 2 fun q=>oa [.u 0,.u 0] p q fun r=>aI.j3 K b c d e f a g h i j k l m r) (aI.j3 K b c d e f a g h i j k l m false))
def aI.j2(K:VK)(k:LI)(a:Addr)(b:OA)(c d:Nat)(e:OA)(f g:Nat)(h j:Int)(m:LM)(n:World)(o:Nat)(q:Bool):WK:=br q ((ct k m [.p (some a),.l b c d,.l e f g,.i h,.i (adx.wrap (j+1))] [.p (some a),.l b c d,.l e f g,.i h,.i j] n)) (lT (a.add 4) fun r=>br r (aj (ad o 2) 2 fun s=>aj a 2 fun t=>oa [.u 0,.u 0] s t fun v=>aI.j4 K o e f g k a b c d h j m n v) (aI.j4 K o e f g k a b c d h j m n false))
def aI.j5(K:VK)(c:LI)(a:Addr)(d:OA)(e f:Nat)(g:OA)(b h:Nat)(i j:Int)(k:LM)(l:World)(m:Nat)(n:Bool):WK:=br n (aI.j2 K c a d e f g b h i j k l m true) (lI (a.add 7) fun o=>aI.j2 K c a d e f g b h i j k l m (decide ((b:Int)≥o)))
def aI.j1(K:VK)(n:Nat)(a:Addr)(c:LI)(d:OA)(e f:Nat)(g:OA)(h i:Nat)(j k:Int)(l:LM)(m:World):WK:=aj (ad n 16) 16 fun o=>mk gM fun b=>aN 16 (ad b 0) o (lI (ad b 14) fun p=>lI (a.add 2) fun q=>br (decide (p<q)) (aI.j2 K c a d e f g h i j k l m b true) (lI (a.add 3) fun r=>br (r !=0) (lI (ad b 14) fun s=>lI (a.add 3) fun t=>aI.j5 K c a d e f g h i j k l m b (decide (s>t))) (aI.j5 K c a d e f g h i j k l m b false)))
def aI(q:OA)(b z:Nat)(s:LV)(K:VK):WK:=mk s fun t=>(lp [.p (some (ad t 0)),.l none 0 0,.l none 0 0,.i (b:Int),.i 0] fun k r=>∀c m n o d e f g a h,k [.p (some c),.l m n o,.l d e f,.i g,.i a] h→(br (decide (a<g)) (iO q b a 33 fun u=>aj u 33 fun v=>mk bj fun j=>aN 33 (ad j 0) v (lT (c.add 6) fun w=>br w (iO q b (adx.wrap ((adx.wrap ((b:Int) -1)) -a)) 33 fun x=>aj x 33 fun y=>aN 33 (ad j 0) y (aI.j1 K j c k m n o d e f g a r h)) (aI.j1 K j c k m n o d e f g a r h))) (K (.l d e f))) h)
def aI.u:WP|[.slice a b c,.agg ⟨d⟩],K=>aI a b c d K|_,_=>no
def ga(e:OA)(f g:Nat)(b:OA)(c d:Nat)(h:LV)(K:VK):WK:=mk h fun a=>aj (ad a 0) 13 fun j=>au j (xB fun k=>br (!k) (K (.tuple ⟨[.l none 0 0,.l none 0 0,.i 1]⟩)) (lI (ad a 0) fun m=>br (m==4) (lL (ad a 4) fun n o p=>eS e f g n o p (xL fun q r s=>K (.tuple ⟨[.l q r s,.l none 0 0,.i 0]⟩))) (lI (ad a 0) fun t=>br (t==5) (lL (ad a 4) fun u v w=>dY b c d u v w (xL fun x y z=>K (.tuple ⟨[.l none 0 0,.l x y z,.i 0]⟩))) (aj (ad a 5) 8 fun A=>aI b c d A (xL fun B C D=>K (.tuple ⟨[.l none 0 0,.l B C D,.i 0]⟩))))))
def ga.u:WP|[.slice a b c,.slice d e f,.agg ⟨g⟩],K=>ga a b c d e f g K|_,_=>no
def ch(k:OA)(K:VK):WK:=nn k fun n=>lL n fun v o w=>(lp [.l none 0 0,.l none 0 0,.i (o:Int),.i 0] fun m p=>∀f g h b c d e a j,m [.l f g h,.l b c d,.i e,.i a] j→(br (decide (a<e)) (aa k a (xA 14 fun q=>EA 14 q fun r=>gj 14 112 c8 b c d (some ⟨r,0,none⟩) 1 fun s t u=>(ct m p [.l f g h,.l s t u,.i e,.i (adx.wrap (a+1))] [.l f g h,.l b c d,.i e,.i a] j))) (K (.l b c d))) j)
def ch.u:WP|[.pointer a],K=>ch a K|_,_=>no
def db.j1(K:VK)(j:Nat)(n o:OA)(p k:Nat)(q r:OA)(s:Nat)(t:Bool):WK:=br t (K (.bool false)) ((lp [.bool false,.i (j:Int),.i 0] fun l u=>∀c d a f,l [.bool c,.i d,.i a] f→(br (decide (a<d)) (tick (iO n j a 14 fun v=>aj v 14 fun w=>iO o p a 14 fun x=>aj x 14 fun y=>oa c8 w y fun z=>br (!z) (K (.bool false)) ((ct l u [.bool c,.i d,.i (adx.wrap (a+1))] [.bool c,.i d,.i a] f)))) ((lp [.bool c,.i (k:Int),.i 0] fun m A=>∀g e b h,m [.bool g,.i e,.i b] h→(br (decide (b<e)) (tick (iO q k b 16 fun B=>aj B 16 fun C=>iO r s b 16 fun D=>aj D 16 fun E=>oa gM C E fun F=>br (!F) (K (.bool false)) ((ct m A [.bool g,.i e,.i (adx.wrap (b+1))] [.bool g,.i e,.i b] h)))) (K (.bool true))) h))) f))
def db(e:OA)(a i:Nat)(f:OA)(b j:Nat)(g:OA)(c k:Nat)(h:OA)(d l:Nat)(K:VK):WK:=br ((a:Int)!=(b:Int)) (db.j1 K a e f b c g h d true) (db.j1 K a e f b c g h d ((c:Int)!=(d:Int)))
def db.u:WP|[.slice a b c,.slice d e f,.slice g h i,.slice j k l],K=>db a b c d e f g h i j k l K|_,_=>no
def gP(h:OA)(c p:Nat)(j:OA)(f q:Nat)(K:VK):WK:=br ((c:Int)!=(f:Int)) (K (.bool false)) ((lp [.bool false,.i (c:Int),.i 0] fun g k=>∀d b a e,g [.bool d,.i b,.i a] e→(br (decide (a<b)) (tick (iO h c a 1 fun l=>lI l fun m=>iO j f a 1 fun n=>lI n fun o=>br (m !=o) (K (.bool false)) ((ct g k [.bool d,.i b,.i (adx.wrap (a+1))] [.bool d,.i b,.i a] e)))) (K (.bool true))) e))
def gP.u:WP|[.slice a b c,.slice d e f],K=>gP a b c d e f K|_,_=>no
def aX.j1(K:VK)(j:Nat)(k o:OA)(l:Nat)(p:OA)(q:Bool):WK:=br q (K (.bool false)) ((lp [.bool false,.i (j:Int),.i 0] fun m r=>∀c d a f,m [.bool c,.i d,.i a] f→(br (decide (a<d)) (tick (nn k fun s=>lL s fun t u J=>iO t u a 14 fun v=>aj v 14 fun w=>iO o j a 14 fun x=>aj x 14 fun y=>oa c8 w y fun z=>br (!z) (K (.bool false)) ((ct m r [.bool c,.i d,.i (adx.wrap (a+1))] [.bool c,.i d,.i a] f)))) ((lp [.bool c,.i (l:Int),.i 0] fun n A=>∀g e b h,n [.bool g,.i e,.i b] h→(br (decide (b<e)) (tick (nn k fun B=>lL (B.add 1) fun C D M=>iO C D b 33 fun E=>aj E 33 fun F=>iO p l b 33 fun G=>aj G 33 fun H=>oa bj F H fun I=>br (!I) (K (.bool false)) ((ct n A [.bool g,.i e,.i (adx.wrap (b+1))] [.bool g,.i e,.i b] h)))) (K (.bool true))) h))) f))
def aX.j3(K:VK)(b:Nat)(a c:OA)(d:Nat)(e:OA)(f:Int)(g:Bool):WK:=br g (aX.j1 K b a c d e true) (nn a fun h=>lI (h.add 3) fun i=>aX.j1 K b a c d e (i !=f))
def aX.j2(K:VK)(b:Nat)(a c:OA)(d:Nat)(e:OA)(f g:Int)(h:Bool):WK:=br h (aX.j3 K b a c d e f true) (nn a fun i=>lI (i.add 2) fun j=>aX.j3 K b a c d e f (j !=g))
def aX(a d:OA)(b l:Nat)(e:OA)(c m:Nat)(f g:Int)(K:VK):WK:=nn a fun h=>lL h fun n i o=>br ((i:Int)!=(b:Int)) (aX.j2 K b a d c e g f true) (nn a fun j=>lL (j.add 1) fun p k q=>aX.j2 K b a d c e g f ((k:Int)!=(c:Int)))
def aX.u:WP|[.pointer a,.slice b c d,.slice e f g,.int .i64 h,.int .i64 i],K=>aX a b c d e f g h i K|_,_=>no
def dL(a k:OA)(m n:Nat)(o:OA)(p q:Nat)(r s:Int)(K:VK):WK:=tick (nn a fun b=>lL (b.add 1) fun c d e=>nn a fun f=>lI (f.add 2) fun g=>nn a fun h=>lI (h.add 3) fun j=>ch a (xL fun t u v=>kp (h.add 3) [.i j] (kp (f.add 2) [.i g] (kp (b.add 1) [.l c d e] (bl (1=1∧(1=1∧(1=1∧(1=1∧True)))) (mk [.l t u v,.l c d e,.i g,.i j] fun w=>kp (h.add 3) [.i j] (kp (f.add 2) [.i g] (kp (b.add 1) [.l c d e] (aX (some (ad w 0)) k m n o p q r s (xB fun x=>K (.bool x)))))))))))
def dL.u:WP|[.pointer a,.slice b c d,.slice e f g,.int .i64 h,.int .i64 i],K=>dL a b c d e f g h i K|_,_=>no
def nX(b:OA)(f:LV)(K:VK):WK:=mk f fun c=>mk JV fun a=>br (b.isNone) (bl (1=1∧True) (bl (4=4) (iN (ad a 0) [.i 2,.l none 0 0,.l none 0 0,.l none 0 0] (aj (ad a 0) 4 fun g=>K (.agg ⟨g⟩))))) (aj (ad c 0) 13 fun h=>lN h (xB fun j=>br (!j) (bl (1=1∧True) (bl (4=4) (iN (ad a 0) [.i 1,.l none 0 0,.l none 0 0,.l none 0 0] (aj (ad a 0) 4 fun k=>K (.agg ⟨k⟩))))) (mk JV fun d=>lI (ad c 0) fun e=>br (e==1) (lL (ad c 1) fun m n o=>ke b m n o (xL fun p q r=>st (ad d 1) (.l p q r) (fR b (x0 (aj (ad d 0) 4 fun s=>aN 4 (ad a 0) s (aj (ad a 0) 4 fun t=>K (.agg ⟨t⟩))))))) (br (e==2) (lL (ad c 2) fun u v w=>jC b u v w (xL fun x y z=>st (ad d 1) (.l x y z) (fR b (x0 (aj (ad d 0) 4 fun A=>aN 4 (ad a 0) A (aj (ad a 0) 4 fun B=>K (.agg ⟨B⟩))))))) (lI (ad c 3) fun C=>pZ b C (xI .i64 fun F=>fR b (x0 (aj (ad d 0) 4 fun D=>aN 4 (ad a 0) D (aj (ad a 0) 4 fun E=>K (.agg ⟨E⟩))))))))))
def nX.u:WP|[.pointer a,.agg ⟨b⟩],K=>nX a b K|_,_=>no
def iB.j1(K:VK)(k:Nat)(a:OA)(m:LI)(b:OA)(c:Int)(d:Addr)(e:OA)(f g:Nat)(h j:Int)(n:LM)(o:World)(q:Bool):WK:=br q (K (.tuple ⟨[.p none,.i 4]⟩)) (aj (ad k 0) 13 fun r=>nX a r (xA 4 fun s=>(ct m n [.p b,.i c,.p a,.p (some d),.l e f g,.i h,.i (adx.wrap (j+1))] [.p b,.i c,.p a,.p (some d),.l e f g,.i h,.i j] o)))
def iB(a:OA)(K:VK):WK:=br (a.isNone) (K (.tuple ⟨[.p none,.i 2]⟩)) (cu a (xI .i64 fun z=>nw z (x2 fun A B=>(xA 5 fun C=>(xI .i64 fun s=>mk zi5 fun b=>aN 5 (ad b 0) C (br (s !=0) (K (.tuple ⟨[.p none,.i s]⟩)) (aj (ad b 0) 5 fun D=>nE a D (x3 fun E F G=>(xP fun t=>(xA 4 fun H=>(xI .i64 fun u=>mk Zm fun k=>aN 4 (ad k 0) H (br (u !=0) (K (.tuple ⟨[.p none,.i u]⟩)) (lI (ad b 3) fun I=>lI (ad b 4) fun J=>lI (ad k 3) fun M=>gH a I J M (x3 fun O P Q=>(xP fun R=>(xL fun S v T=>(xI .i64 fun w=>br (w !=0) (K (.tuple ⟨[.p none,.i w]⟩)) (aj (ad b 0) 5 fun x=>lI (ad k 0) fun V=>bl (1=1∧(x.length=5∧(1=1∧(1=1∧(1=1∧True))))) (mk (([.p a]:LV)++(x++([.p t,.p R,.i V,.bool false]:LV))) fun W=>(lp [.p none,.i 0,.p t,.p (some (ad W 0)),.l S v T,.i (v:Int),.i 0] fun m y=>∀n o q d e f r g c h,m [.p n,.i o,.p q,.p (some d),.l e f r,.i g,.i c] h→(br (decide (c<g)) (iO e f c 1 fun X=>lS X fun Y=>iK Y (x2 fun Z v10=>(xA 13 fun UR=>(xI .i64 fun Vt=>mk ni fun j=>aN 13 (ad j 0) UR (br (Vt !=0) (iB.j1 K j q m n o d e f r g c y h true) (aj (ad j 0) 13 fun cs8=>jS cs8 (xB fun b2=>iB.j1 K j q m n o d e f r g c y h (!b2))))) v10) Z)) (K (.tuple ⟨[.p (some d),.i 0]⟩))) h)))) Q) P) O)))) G) F) E)))) B) A)))
def iB.u:WP|[.pointer a],K=>iB a K|_,_=>no
def fw(b:OA)(f:LV)(K:VK):WK:=mk f fun c=>mk JV fun a=>br (b.isNone) (bl (1=1∧True) (bl (4=4) (iN (ad a 0) [.i 2,.l none 0 0,.l none 0 0,.l none 0 0] (aj (ad a 0) 4 fun g=>K (.agg ⟨g⟩))))) (aj (ad c 0) 13 fun h=>jS h (xB fun j=>br (!j) (tick (nn b fun k=>lP (k.add 6) fun m=>aj (ad c 0) 13 fun n=>vu m n (xA 4 fun o=>aN 4 (ad a 0) o (aj (ad a 0) 4 fun p=>K (.agg ⟨p⟩))))) (aj (ad c 0) 13 fun q=>nC q (x2 fun r s=>(xS fun t=>(xI .i64 fun d=>br (d !=0) (bl (1=1∧True) (bl (4=4) (iN (ad a 0) [.i d,.l none 0 0,.l none 0 0,.l none 0 0] (aj (ad a 0) 4 fun u=>K (.agg ⟨u⟩))))) (nn b fun v=>lT (v.add 9) fun w=>br w (bl (1=1∧True) (bl (4=4) (iN (ad a 0) [.i 9,.l none 0 0,.l none 0 0,.l none 0 0] (aj (ad a 0) 4 fun x=>K (.agg ⟨x⟩))))) (eH b t (xI .i64 fun e=>br (e !=0) (bl (1=1∧True) (bl (4=4) (iN (ad a 0) [.i e,.l none 0 0,.l none 0 0,.l none 0 0] (aj (ad a 0) 4 fun y=>K (.agg ⟨y⟩))))) (tick (nn b fun z=>lP (z.add 6) fun A=>aj (ad c 0) 13 fun B=>nX A B (xA 4 fun C=>aN 4 (ad a 0) C (aj (ad a 0) 4 fun D=>K (.agg ⟨D⟩))))))))) s) r))))
def fw.u:WP|[.pointer a,.agg ⟨b⟩],K=>fw a b K|_,_=>no
def cT.j1(K:VK)(a:OA)(b:Bool):WK:=br b (gR a (xP fun c=>fQ c (xI .i64 fun d=>br (d==5) (jA a (xI .i64 fun e=>K (.bool (e==1)))) (K (.bool false))))) (K (.bool false))
def cT(K:VK):WK:=kG 20 (xP fun a=>iB a (x2 fun d e=>(xP fun f=>(xI .i64 fun g=>br (g !=0) (K (.bool false)) (bl (1=1∧(1=1∧True)) (fw f [.i 3,.l none 0 0,.l none 0 0,.i 5,.l none 0 0,.u 0,.u 0,.i 0,.i 0,.bool false,.bool false,.bool false,.i 0] (xA 4 fun h=>mk JV fun b=>aN 4 (ad b 0) h (iB a (x2 fun j k=>(xP fun c=>(xI .i64 fun m=>lI (ad b 0) fun n=>br (n==0) (cT.j1 K c (m==0)) (cT.j1 K c false)) k) j)))))) e) d))
def cT.u:WP|[],K=>cT K|_,_=>no
def gh(n:OA)(g o:Nat)(K:VK):WK:=(lp [.bool false,.i 0,.l n g o,.i (g:Int),.i 0] fun m p=>∀h b c d j e a k,m [.bool h,.i b,.l c d j,.i e,.i a] k→(br (decide (a<e)) (iO c d a 18 fun q=>aj q 18 fun r=>mk qG fun f=>aN 18 (ad f 0) r (lL (ad f 2) fun v s w=>lL (ad f 3) fun x t y=>lL (ad f 5) fun z u A=>br (decide ((u:Int)>100)) (K (.bool true)) ((ct m p [.bool h,.i (adx.wrap (b+(adx.wrap ((s:Int)+(t:Int))))),.l c d j,.i e,.i (adx.wrap (a+1))] [.bool h,.i b,.l c d j,.i e,.i a] k)))) (br (decide ((g:Int)>60)) (K (.bool true)) (K (.bool (decide (b>150)))))) k)
def gh.u:WP|[.slice a b c],K=>gh a b c K|_,_=>no
def aw.j1(K:VK)(a:OA)(b:Bool):WK:=K (.tuple ⟨[.bool b,.p a]⟩)
def aw.j2(K:VK)(b:Nat)(a:OA)(c:Bool):WK:=br c (lL (ad b 1) fun e d f=>aw.j1 K a ((d:Int)==0)) (aw.j1 K a false)
def aw.j3(K:VK)(a:OA)(b:Bool):WK:=K (.tuple ⟨[.bool b,.p a]⟩)
def aw.j4(K:VK)(a:OA)(b:Bool):WK:=K (.tuple ⟨[.bool b,.p a]⟩)
def aw.j5(K:VK)(a:Nat)(b:OA)(c:Bool):WK:=br c (lL (ad a 1) fun g d h=>lL (ad a 2) fun i e j=>lL (ad a 3) fun k f l=>K (.tuple ⟨[.bool ((adx.wrap ((adx.wrap ((d:Int)+(e:Int)))+(f:Int)))==0),.p b]⟩)) (K (.tuple ⟨[.bool false,.p b]⟩))
def aw.j6(K:VK)(a:Nat)(b:OA)(c:Bool):WK:=br c (aw.j5 K a b true) (lI (ad a 0) fun d=>br (d==6) (aw.j5 K a b true) (lI (ad a 0) fun e=>aw.j5 K a b (e==3)))
def aw(j:LV)(b:OA)(k:LV)(K:VK):WK:=mk j fun a=>mk k fun c=>aj (ad c 0) 13 fun m=>fL m (xB fun n=>br (!n) (tick (nn b fun d=>lL (d.add 1) fun e f g=>aj (ad c 0) 13 fun h=>ch b (xL fun o p q=>kp (ad c 0) h (kp (d.add 1) [.l e f g] (ga o p q e f g h (x3 fun r s t=>(xL fun u v w=>(xL fun x y z=>(xI .i64 fun A=>lI (ad a 0) fun B=>br (B==A) (lL (ad a 2) fun C D E=>lL (ad a 3) fun F G H=>db C D E u v w F G H x y z (xB fun I=>aw.j2 K a b I)) (aw.j2 K a b false)) t) s) r)))))) (aj (ad c 0) 13 fun J=>cL J (xB fun M=>br (!M) (lI (ad a 0) fun O=>br (O==1) (lL (ad a 1) fun ZE P ZB=>aw.j3 K b ((P:Int)==0)) (aw.j3 K b false)) (aj (ad c 0) 13 fun Q=>dS b Q (x3 fun R S T=>(xL fun V W X=>(xI .i64 fun Y=>(xP fun i=>lI (ad a 0) fun Z=>br (Z==0) (br (Y==0) (lL (ad a 1) fun MC Mz Hh=>gP MC Mz Hh V W X (xB fun b8=>aw.j4 K i b8)) (aw.j4 K i false)) (lI (ad a 0) fun n6=>br (n6==8) (aw.j6 K a b true) (lI (ad a 0) fun n9=>aw.j6 K a b (n9==9)))) T) S) R)))))
def aw.u:WP|[.agg ⟨a⟩,.pointer b,.agg ⟨c⟩],K=>aw a b c K|_,_=>no
def fF(b c:OA)(K:VK):WK:=gR b (xP fun a=>dR a (xL fun d e f=>fP a (xL fun g h i=>fQ a (xI .i64 fun j=>gV a (xI .i64 fun k=>dL c d e f g h i j k (xB fun l=>K (.bool l)))))))
def fF.u:WP|[.pointer a,.pointer b],K=>fF a b K|_,_=>no
def av.j1(K:VK)(B C:Int)(D:OA)(y E:Nat)(F:Bool):WK:=br F (K (.bool true)) (kG B (xP fun G=>iB G (x2 fun H I=>(xP fun J=>(xI .i64 fun n3=>bl True (mk VY fun M=>(lp [.bool false,.p J,.p (some (ad M 0)),.i C,.i 0] fun z O=>∀v m n q r w,z [.bool v,.p m,.p n,.i q,.i r] w→(br (decide (r<q)) ((lp [.bool v,.p m,.p n,.i q,.i r,.l D y E,.i (y:Int),.i 0] fun s x=>∀c a j d e f g k h b o,s [.bool c,.p a,.p j,.i d,.i e,.l f g k,.i h,.i b] o→(br (decide (b<h)) (iO f g b 18 fun P=>aj P 18 fun Q=>mk qG fun t=>aN 18 (ad t 0) Q (lI (ad t 0) fun R=>br (R !=0) ((ct s x [.bool c,.p a,.p j,.i d,.i e,.l f g k,.i h,.i (adx.wrap (b+1))] [.bool c,.p a,.p j,.i d,.i e,.l f g k,.i h,.i b] o)) (aj (ad t 1) 13 fun S=>fw a S (xA 4 fun T=>mk JV fun u=>aN 4 (ad u 0) T (aj (ad u 0) 4 fun V=>aj (ad t 1) 13 fun W=>aw V j W (x2 fun X Y=>(xB fun Z=>(xP fun A=>br (!Z) (K (.bool false)) (lI (ad u 0) fun Vu=>br (Vu !=0) (lI (ad u 0) fun Vt=>br (Vt !=1) (K (.bool false)) ((ct s x [.bool c,.p a,.p A,.i d,.i e,.l f g k,.i h,.i (adx.wrap (b+1))] [.bool c,.p a,.p j,.i d,.i e,.l f g k,.i h,.i b] o))) ((ct s x [.bool c,.p a,.p A,.i d,.i e,.l f g k,.i h,.i (adx.wrap (b+1))] [.bool c,.p a,.p j,.i d,.i e,.l f g k,.i h,.i b] o)))) Y) X)))))) ((ct z O [.bool c,.p a,.p j,.i d,.i (adx.wrap (e+1))] [.bool v,.p m,.p n,.i q,.i r] w))) o)) (fF m n (xB fun b6=>br b6 (dj m (xI .i64 fun Vs=>br (Vs==0) (fF m n (xB fun b7=>K (.bool b7))) (K (.bool false)))) (K (.bool false))))) w))) I) H)))
def av.j3(K:VK)(b a:Int)(c:OA)(d e:Nat)(f:Bool):WK:=br f (av.j1 K b a c d e true) (br (decide (a<1)) (av.j1 K b a c d e true) (av.j1 K b a c d e (decide (a>3))))
def av.j2(K:VK)(a b:Int)(c:OA)(d e:Nat)(f:Bool):WK:=br f (av.j3 K a b c d e true) (av.j3 K a b c d e (decide (a>700)))
def av(a:Int)(b:OA)(c d:Nat)(e:Int)(K:VK):WK:=cT (xB fun f=>br (!f) (K (.bool false)) (gh b c d (xB fun g=>br g (av.j2 K a e b c d true) (av.j2 K a e b c d (decide (a<600))))))
def av.u:WP|[.int .i64 a,.slice b c d,.int .i64 e],K=>av a b c d e K|_,_=>no
end Go.Prog
namespace Go.Up
open Go.Sep Go.Den Go.RowKit Go.Prog Go.Md Go.bI
structure jG where
 op:Int
 ag:List aS
 aW:List Move
 now:Int
 ids:List Nat
 s8:Nat
 iw:Int
 rP:Int
 rR:Bool
 pN:Bool
 nq:Bool
 jt:Int
structure sf where
 sa:OA
 ca:Nat
 st:OA
 ct:Nat
 si:OA
 ci:Nat
def mG(q:jG):LV:=nm q.s8++[.i q.iw,.i q.rP,.bool q.rR,.bool q.pN,.bool q.nq,.i q.jt]
def eu(q:jG)(s:sf):LV:=[.i q.op,.l s.sa q.ag.length s.ca,.l s.st q.aW.length s.ct,.i q.now,.l s.si q.ids.length s.ci]++mG q
def MI(q:jG)(s:sf):(eu q s).length=13:=rfl
instance{q:jG}{s:sf}:Ln (eu q s) 13:=⟨rfl⟩
instance{q:jG}:Ln (mG q) 8:=⟨rfl⟩
instance{q:jG}{s:sf}:Gt (eu q s) 0 (.i q.op):=⟨rfl⟩
instance{q:jG}{s:sf}:Gt (eu q s) 1 (.l s.sa q.ag.length s.ca):=⟨rfl⟩
instance{q:jG}{s:sf}:Gt (eu q s) 2 (.l s.st q.aW.length s.ct):=⟨rfl⟩
instance{q:jG}{s:sf}:Gt (eu q s) 3 (.i q.now):=⟨rfl⟩
instance{q:jG}{s:sf}:Gt (eu q s) 4 (.l s.si q.ids.length s.ci):=⟨rfl⟩
instance{q:jG}:Gt (mG q) 2 (.i q.iw):=⟨rfl⟩
instance{q:jG}:Gt (mG q) 3 (.i q.rP):=⟨rfl⟩
instance{q:jG}:Gt (mG q) 4 (.bool q.rR):=⟨rfl⟩
instance{q:jG}:Gt (mG q) 5 (.bool q.pN):=⟨rfl⟩
instance{q:jG}:Gt (mG q) 6 (.bool q.nq):=⟨rfl⟩
instance{q:jG}:Gt (mG q) 7 (.i q.jt):=⟨rfl⟩
instance{L:LH}{X:WK}{r o:Nat}{q:jG}{s:sf}{cs:LV}{f:LV→LH}[i:Lc (Sep.pt r) L cs f][s2:Sub cs o 13 (eu q s)]:Wk L (kp ⟨r,o,none⟩ (eu q s) X) L X:=⟨fun _ h=>Mk (n:=13) h⟩
def tE(q:jG)(s:sf):∀v∈eu q s,v.oneCell'=true:=fun v h=>by
 simp[eu,mG,nm] at h;rcases h with rfl|rfl|rfl|rfl|rfl|rfl|rfl|rfl|rfl|rfl|rfl|rfl|rfl<;>rfl
instance{q:jG}{s:sf}:Sub (eu q s) 0 13 (eu q s):=⟨rfl,fun j v h=>by rw[adE];exact h⟩
instance{q:jG}{s:sf}:Sub (eu q s) 5 8 (mG q):=⟨rfl,fun j v h=>by
 show([_,_,_,_,_]++mG q)[5+j]?=some v
 rw[aea (by simp)];simpa using h⟩
instance{x1 x2 x3 x4 x5 x6 x7 x8 x9 zg zf ze zb:Value}{q:jG}{s:sf}:Wr [x1,x2,x3,x4,x5,x6,x7,x8,x9,zg,zf,ze,zb] 0 (eu q s) (eu q s):=⟨rfl,adG _,tE q s⟩
def oz.mono{α:Type}{W:World}{R R':LH}{g:α→LV}{e:Nat}{s:OA}{l:List α}[h:Has R R'](hr:oz W R g e s l):oz W R' g e s l:=fun w hw=>hr w (h.sub hw)
structure mu(W:World)(R:LH)(q:jG)(s:sf):Prop where
 ag:oz W R ak 14 s.sa q.ag
 aW:oz W R ai 16 s.st q.aW
 ids:oz W R nm 2 s.si q.ids
 ca:q.ag.length≤s.ca
 ct:q.aW.length≤s.ct
 ci:q.ids.length≤s.ci
def oo(e:Int)(rb:OA)(rn rc:Nat)(ab:OA)(an ac:Nat)(tb:OA)(tn tc:Nat):LV:=[.i e,.l rb rn rc,.l ab an ac,.l tb tn tc]
instance{e:Int}{rb ab tb:OA}{rn rc an ac tn tc:Nat}:Ln (oo e rb rn rc ab an ac tb tn tc) 4:=⟨rfl⟩
instance{e:Int}{rb ab tb:OA}{rn rc an ac tn tc:Nat}:Gt (oo e rb rn rc ab an ac tb tn tc) 0 (.i e):=⟨rfl⟩
instance{e:Int}{rb ab tb:OA}{rn rc an ac tn tc:Nat}:Gt (oo e rb rn rc ab an ac tb tn tc) 1 (.l rb rn rc):=⟨rfl⟩
instance{e:Int}{rb ab tb:OA}{rn rc an ac tn tc:Nat}:Gt (oo e rb rn rc ab an ac tb tn tc) 2 (.l ab an ac):=⟨rfl⟩
instance{e:Int}{rb ab tb:OA}{rn rc an ac tn tc:Nat}:Gt (oo e rb rn rc ab an ac tb tn tc) 3 (.l tb tn tc):=⟨rfl⟩
def E7{e:Int}{rb:OA}{rn rc:Nat}{ab:OA}{an ac:Nat}{tb:OA}{tn tc:Nat}:∀v∈oo e rb rn rc ab an ac tb tn tc,v.oneCell'=true:=fun v h=>by
 simp[oo] at h;rcases h with rfl|rfl|rfl|rfl<;>rfl
instance{x1 x2 x3 x4:Value}{e:Int}{rb:OA}{rn rc:Nat}{ab:OA}{an ac:Nat}{tb:OA}{tn tc:Nat}:Wr [x1,x2,x3,x4] 0 (oo e rb rn rc ab an ac tb tn tc) (oo e rb rn rc ab an ac tb tn tc):=⟨rfl,adG _,E7⟩
instance{x1 x2 x3 x4:Value}{e:Int}{rb:OA}{rn rc:Nat}{ab:OA}{an ac:Nat}{tb:OA}{tn tc:Nat}:Wr [x1,x2,x3,x4] 0 [.i e,.l rb rn rc,.l ab an ac,.l tb tn tc] (oo e rb rn rc ab an ac tb tn tc):=⟨rfl,adG _,E7⟩
instance{e:Int}{rb:OA}{rn rc:Nat}{ab:OA}{an ac:Nat}{tb:OA}{tn tc:Nat}:Sub (oo e rb rn rc ab an ac tb tn tc) 0 4 (oo e rb rn rc ab an ac tb tn tc):=⟨rfl,fun j v h=>by rw[adE];exact h⟩
instance{e:Int}{rb:OA}{rn rc:Nat}{ab:OA}{an ac:Nat}{tb:OA}{tn tc:Nat}:Sub [.i e,.l rb rn rc,.l ab an ac,.l tb tn tc] 0 4 (oo e rb rn rc ab an ac tb tn tc):=⟨rfl,fun j v h=>by rw[adE];exact h⟩
def km(q:jG):Bool:=
 if q.op=1 then decide (1≤q.ag.length)&&decide (q.ag.length≤8) else if q.op=2 then decide (1≤q.aW.length)&&decide (q.aW.length≤8) else if q.op=3 then decide (0≤q.now)&&decide (q.now≤1099511627776) else false
def eX(q:jG):Bool:=decide (q.op=1∨q.op=2∨q.op=3)
def bo(m:Model):ax:=⟨m.made.map (Md.full m.kept),m.kept,m.clock,m.af⟩
def o9(m:Model):mI (bo m) m:=⟨rfl,rfl,rfl,rfl⟩
def Dx{b:ax}{m:Model}(h:mI b m):b=bo m:=by
 obtain⟨h1,h2,h3,h4⟩:=h;cases b
 simp only at h1 h2 h3 h4;subst h1 h2 h3 h4;rfl
def aK(m:Model)(q:jG):Int×List Int×Model:=
 if km q=false then(1,[],m)
 else if q.op=1 then(0,fX Model.make wu q.ag.length m q.ag)
 else if q.op=2 then(0,fX Model.oF wq q.aW.length m q.aW)
 else(0,[],m.time q.now)
def MA{m:Model}(hg:Md.Ground m)(l:List aS)(n:Nat):(fX ax.make wu n (bo m) l).1=(fX Model.make wu n m l).1∧(fX ax.make wu n (bo m) l).2=bo (fX Model.make wu n m l).2∧Md.Ground (fX Model.make wu n m l).2:=by
 obtain⟨h1,h2⟩:=vU (f:=ax.make) (g:=Model.make) (R:=fun(b:ax)(m:Model)=>mI b m∧Md.Ground m) wu (fun s t x h=>h.1.make h.2) n l (bo m) m ⟨o9 m,hg⟩;exact⟨h1,Dx h2.1,h2.2⟩
def Py{m:Model}(hg:Md.Ground m)(l:List Move)(n:Nat):(fX ax.oF wq n (bo m) l).1=(fX Model.oF wq n m l).1∧(fX ax.oF wq n (bo m) l).2=bo (fX Model.oF wq n m l).2∧Md.Ground (fX Model.oF wq n m l).2:=by
 obtain⟨h1,h2⟩:=vU (f:=ax.oF) (g:=Model.oF) (R:=fun(b:ax)(m:Model)=>mI b m∧Md.Ground m) wq (fun s t x h=>h.1.oF h.2) n l (bo m) m ⟨o9 m,hg⟩;exact⟨h1,Dx h2.1,h2.2⟩
section
variable {W:World} {L R:LH} {K:VK} {X:WK} {p:Nat} {q:jG} {s:sf}
def T.Tp{A B C D:HP}(h:T W (D::A::B::C::R) X):T W (A::B::C::D::R) X:=T.perm h (adJ (l₁:=[A,B,C]) (l₂:=[D])|>.append_right R)
def JB(h:T W L (K (.bool (km q)))):T W L (lN (eu q s) K):=by
 unfold lN
 repeat' first|apply ww|apply wm;intro _|apply wb
 refine az (fun g1=>?_) (fun g1=>?_)
 ·have g1:q.op=1:=by simpa using g1
  unfold km at h;rw[if_pos g1] at h
  repeat' first|apply ww|apply wm;intro _|apply wb
  refine az (fun g2=>?_) (fun g2=>?_)
  ·have g2:=of_decide_eq_true g2;rw[decide_eq_true (by omega),aeC] at h
   repeat' first|apply ww|apply wm;intro _|apply wb
   refine T.fin (T.dp h) ?_;congr 1;rw[decide_eq_decide];omega
  ·have g2:=of_decide_eq_false g2;rw[decide_eq_false (by omega),aeL] at h;exact T.dp h
 have g1: ¬q.op=1:=by simpa using g1
 refine az (fun g2=>?_) (fun g2=>?_)
 ·have g2:q.op=2:=by simpa using g2
  unfold km at h;rw[if_neg g1,if_pos g2] at h
  repeat' first|apply ww|apply wm;intro _|apply wb
  refine az (fun g2=>?_) (fun g2=>?_)
  ·have g2:=of_decide_eq_true g2;rw[decide_eq_true (by omega),aeC] at h
   repeat' first|apply ww|apply wm;intro _|apply wb
   refine T.fin (T.dp h) ?_;congr 1;rw[decide_eq_decide];omega
  ·have g2:=of_decide_eq_false g2;rw[decide_eq_false (by omega),aeL] at h;exact T.dp h
 have g2: ¬q.op=2:=by simpa using g2
 unfold km at h;rw[if_neg g1,if_neg g2] at h;refine az (fun g3=>?_) (fun g3=>?_)
 ·have g3:q.op=3:=by simpa using g3
  rw[if_pos g3] at h
  repeat' first|apply ww|apply wm;intro _|apply wb
  refine az (fun g2=>?_) (fun g2=>?_)
  ·have g2:=of_decide_eq_true g2;rw[decide_eq_true (by omega),aeC] at h
   repeat' first|apply ww|apply wm;intro _|apply wb
   exact T.dp h
  ·have g2:=of_decide_eq_false g2;rw[decide_eq_false (by omega),aeL] at h;exact T.dp h
 have g3: ¬q.op=3:=by simpa using g3
 rw[if_neg g3] at h;exact T.dp h
def xK(h:T W L (K (.bool (eX q)))):T W L (jS (eu q s) K):=by
 unfold jS;unfold eX at h
 repeat' first|apply ww|apply wm;intro _|apply wb
 refine az (fun g1=>?_) (fun g1=>?_)
 ·have g1:q.op=1:=by simpa using g1
  rw[decide_eq_true (.inl g1)] at h;exact T.dp h
 have g1: ¬q.op=1:=by simpa using g1
 repeat' first|apply ww|apply wm;intro _|apply wb
 refine az (fun g2=>?_) (fun g2=>?_)
 ·have g2:q.op=2:=by simpa using g2
  rw[decide_eq_true (.inr (.inl g2))] at h;exact T.dp h
 have g2: ¬q.op=2:=by simpa using g2
 repeat' first|apply ww|apply wm;intro _|apply wb
 refine T.fin (T.dp h) ?_
 congr 1
 rw[adX];simp[g1,g2]
def Ai{b:ax}{hs:List C}{f:ax×List C→LH}[i:Lc (bn p) L (b,hs) f](hl:hs.length<1000000)(h:T W (f (b,[])) (K (.tuple ⟨[]⟩))):T W L (fR (some ⟨p,0,none⟩) K):=fun w hw=>by
 obtain⟨k,hk,e1⟩:=i.at_;have h1:=hw.focus hk;obtain⟨hg,h2⟩:=h1.and;refine(show T W (cP p (dz b,hs)::L.eraseIdx k) _ from ?_) w h2;unfold fR
 repeat' first|apply ww|apply wm;intro _|apply wb
 refine Rx (p:=p) hl ?_
 repeat' first|apply ww|apply wm;intro _|apply wb
 intro w2 TL;refine h w2 ?_;rw[e1];exact St.og (A:=bn p (b,hs)) (St.and_intro hg TL) hk
def Gb(G:pK W){m:Model}(hg:Md.Ground m)(hq:mu W R q s)(hA:q.op=1→∀a∈q.ag,vy a)(hT:q.op=2→∀t∈q.aW,YK t)
 (h:∀rb rc,Md.Ground (aK m q).2.2→T W (bn p (bo (aK m q).2.2,[])::own rb (aK m q).2.1.length rc 1 ((aK m q).2.1.flatMap I1)::R) (K (.agg ⟨oo (aK m q).1 rb (aK m q).2.1.length rc none 0 0 none 0 0⟩))):
 T W (bn p (bo m,[])::R) (nX (some ⟨p,0,none⟩) (eu q s) K):=by
 unfold nX
 repeat' first|apply ww|apply wm;intro _|apply wb|with_reducible refine JB ?_|fail
 cases ge:km q with
 |false=>
  have e:aK m q=(1,[],m):=by unfold aK;rw[if_pos ge]
  rw[e] at h
  repeat' first|apply ww|apply wm;intro _|apply wb
  refine T.drop (T.drop ?_);refine gB (e:=1) ?_;exact T.perm (h none 0 hg) (ad2.swap _ _ _)
 |true=>
  repeat' first|apply ww|apply wm;intro _|apply wb
  refine az (fun g1=>?_) (fun g1=>?_)
  ·have g1:q.op=1:=by simpa using g1
   have e:aK m q=(0,fX Model.make wu q.ag.length m q.ag):=by unfold aK;rw[if_neg (by rw[ge];decide),if_pos g1]
   rw[e] at h;dsimp only at h;have hlen:1≤q.ag.length∧q.ag.length≤8:=by
    unfold km at ge;rw[if_pos g1] at ge;simpa using ge
   obtain⟨s1,s2,s3⟩:=MA hg q.ag q.ag.length
   repeat' first|apply ww|apply wm;intro _|apply wb
   refine T.Tp ?_;refine Tm G (hs:=[]) (R:=_::_::_::R) hq.ag.mono hq.ca (hA g1) ⟨m,o9 m,hg⟩ (by omega) (by show 0+_<_;omega) fun r dh GX his W7=>?_;rw[s1,s2];rw[s1] at W7
   repeat' first|apply ww|apply wm;intro _|apply wb
   refine Ai (p:=p) (by have:dh.length≤0+_:=GX;omega) ?_
   repeat' first|apply ww|apply wm;intro _|apply wb
   have:=h (some ⟨r,0,none⟩) q.ag.length s3;rw[W7] at this;refine T.sub this ?_;exact nZ
  have g1: ¬q.op=1:=by simpa using g1
  refine az (fun g2=>?_) (fun g2=>?_)
  ·have g2:q.op=2:=by simpa using g2
   have e:aK m q=(0,fX Model.oF wq q.aW.length m q.aW):=by unfold aK;rw[if_neg (by rw[ge];decide),if_neg g1,if_pos g2]
   rw[e] at h;dsimp only at h;have hlen:1≤q.aW.length∧q.aW.length≤8:=by
    unfold km at ge;rw[if_neg g1,if_pos g2] at ge;simpa using ge
   obtain⟨s1,s2,s3⟩:=Py hg q.aW q.aW.length
   repeat' first|apply ww|apply wm;intro _|apply wb
   refine T.Tp ?_;refine Tl G (hs:=[]) (R:=_::_::_::R) hq.aW.mono hq.ct (hT g2) ⟨m,o9 m,hg⟩ (by omega) (by show 0+_<_;omega) fun r dh GX his W7=>?_;rw[s1,s2];rw[s1] at W7
   repeat' first|apply ww|apply wm;intro _|apply wb
   refine Ai (p:=p) (by have:dh.length≤0+_:=GX;omega) ?_
   repeat' first|apply ww|apply wm;intro _|apply wb
   have:=h (some ⟨r,0,none⟩) q.aW.length s3;rw[W7] at this;refine T.sub this ?_;exact nZ
  ·have g2: ¬q.op=2:=by simpa using g2
   have g3:q.op=3∧0≤q.now∧q.now≤1099511627776:=by
    unfold km at ge;rw[if_neg g1,if_neg g2] at ge;by_cases g3:q.op=3
    ·rw[if_pos g3] at ge;exact⟨g3,by simpa using ge⟩
    ·rw[if_neg g3] at ge;cases ge
   have e:aK m q=(0,[],m.time q.now):=by unfold aK;rw[if_neg (by rw[ge];decide),if_neg g1,if_neg g2]
   rw[e] at h;dsimp only at h
   repeat' first|apply ww|apply wm;intro _|apply wb
   refine T.Tp ?_;intro w hw;refine⟨W,_::_::_::R,p,bo m,m,[],rfl,hw,o9 m,hg,by simp,fun n b' dh w' uI G1 Xc TM=>?_⟩;have hb:=Dx uI;subst hb;refine T.at ?_ TM
   repeat' first|apply ww|apply wm;intro _|apply wb
   refine Ai (p:=p) (by omega) ?_
   repeat' first|apply ww|apply wm;intro _|apply wb
   have:=h none 0 G1;refine gB (e:=1) (T.Hj ?_);refine T.sub this ?_
   repeat (first|exact adP.refl _|apply adP.cons_cons|apply adP.cons)
end
def sz(b:ax)(p:ln):Kept:=(b.kept[p.2.toNat]?).getD zK
def UX(b:ax)(from_ to:Int)(sy:Bool):List Kept:=
 (if sy then(nh from_ to (da 0 b.kept)).reverse else nh from_ to (da 0 b.kept)).map (sz b)
def Ao{from_ to:Int}{l:List ln}{x:ln}(h:x∈nh from_ to l):x∈l:=List.mem_of_mem_drop (List.mem_of_mem_take h)
def BR{l:List Kept}{x:ln}(h:x∈da 0 l):∃(j:Nat)(k:Kept),l[j]?=some k∧x=(k.move.af,(j:Int)):=by
 obtain⟨j,hj⟩:=aeT h;rw[jK] at hj;cases hl:l[j]? with
 |none=>rw[hl] at hj;cases hj
 |some k=>rw[hl] at hj;simp at hj;exact⟨j,k,hl,hj.symm⟩
def hG(k:Kept):(aM k).length=33:=rfl
section
variable {W:World} {L R:LH} {K:VK} {X:WK} {p:Nat} {b:ax} {hs:List C} {f:ax×List C→LH}
def Lz[i:Lc (bn p) L (b,hs) f]{from_ to:Int}{sy:Bool}(h:∀b' c' out,out=UX b from_ to sy→T W (own b' out.length c' 33 (out.flatMap aM)::L) (K (.l b' out.length c'))):
 T W L (gO (some ⟨p,0,none⟩) from_ to sy K):=by
 have hL:f (b,hs)=L:=i.same;refine GP (p:=p) fun la lk ti tn vs bx R hg hc mF=>?_;have many:=hg.many;unfold gO;refine tz ?_;refine yS ?_;simp only[ft,adE];refine Lb (p:=p) hg.tD (by show(da 0 b.kept).length<_;rw[jJ];omega) fun b' c' out ho=>?_;have mQ:∀x∈out,∃(j:Nat)(k:Kept),b.kept[j]?=some k∧x=(k.move.af,(j:Int)):=fun x hx=>BR (by
  rw[ho] at hx
  split at hx
  ·exact Ao (List.mem_reverse.1 hx)
  ·exact Ao hx)
 have tg:out.length≤96:=by
  have h1:∀x:List ln,x=nh from_ to (da 0 b.kept)→x.length≤96:=fun x hx=>by
   rw[hx];unfold nh;rw[adF,adM,jJ];omega
  rw[ho];split
  ·rw[aew];exact h1 _ rfl
  ·exact h1 _ rfl
 have aaE:out.map (sz b)=UX b from_ to sy:=by rw[ho];rfl
 clear ho;refine tt ?_;refine gB (e:=33) ?_;intro w ku;refine⟨fun vv w=>∃(i:Nat)(bo:OA)(cc:Nat)(done:List Kept),i≤out.length∧done=(out.take i).map (sz b)∧vv=[.l none 0 0,.l bo done.length cc,.l b' out.length c',.i (out.length:Int),.i (i:Int)]∧
  St W w (own bo done.length cc 33 (done.flatMap aM)::own b' out.length c' 2 (out.flatMap mh)::eY p (dW la lk ti tn vs (dz b))::oH ak 14 la (p,(dz b).ag)::oH aM 33 lk (p,(dz b).kept)::me ti (dz b).mD::me tn (dz b).fB::rq bx::R),
  fun vs _=>match vs with|[_,_,_,_,.int _ d]=>out.length-d.toNat|_=>0,⟨0,none,0,[],adK _,by simp,rfl,ku⟩,?_⟩
 rintro uF qg uE bo pL cc yV yg yU n3 n4 w2 ⟨i,b0,c0,done,hi,jz,e,gN⟩;cases e
 refine T.at ?_ gN;have e5:adx.wrap ((i:Int)+1)=((i+1:Nat):Int):=by rw[ah (by omega)];omega
 have wC:done.length=i:=by rw[jz,ad1,adF];omega
 refine az (fun g1=>?_) (fun g1=>?_)
 ·have a8:i<out.length:=by have:=of_decide_eq_true g1;omega
  have gx:=adA a8;have gm:=adZ a8;generalize out[i]=x at gx gm;obtain⟨j,k,hk,rfl⟩:=mQ x gm;have hka:sz b (k.move.af,(j:Int))=k:=by unfold sz;dsimp only;rw[adB,hk];rfl
  have s6:(done++[k])=(out.take (i+1)).map (sz b):=by rw[adT,gx,ad8,←jz];simp[hka]
  refine bV (b:=b') ⟨by omega,by omega⟩ fun rb hb=>?_;subst hb;rw[adB];refine dV lA gx ?_
  repeat' first|apply ww|apply wm;intro _|apply wb
  ·refine OB (l:=lk) (x:=k) hk (by show b.kept.length<_;omega) ?_
   repeat' first|apply ww|apply wm;intro _|apply wb
   refine jm (b:=bo) (x:=k) rfl rfl rfl (by omega) (by omega) (j0 _) fun b2 c2=>?_;rw[e5];refine T.drop (T.drop (T.drop ?_));exact fun w3 h3=>⟨⟨i+1,b2,c2,done++[k],a8,s6,by simp,by simpa using h3⟩,by show out.length-((i+1:Nat):Int).toNat<out.length-(i:Int).toNat;omega⟩
  ·refine OB (l:=lk) (x:=k) hk (by show b.kept.length<_;omega) ?_
   repeat' first|apply ww|apply wm;intro _|apply wb
   refine jm (b:=bo) (x:=k) rfl rfl rfl (by omega) (by omega) (j0 _) fun b2 c2=>?_;rw[e5];refine T.drop (T.drop (T.drop ?_));exact fun w3 h3=>⟨⟨i+1,b2,c2,done++[k],a8,s6,by simp,by simpa using h3⟩,by show out.length-((i+1:Nat):Int).toNat<out.length-(i:Int).toNat;omega⟩
 ·have iM:i=out.length:=by have:=of_decide_eq_false g1;omega
  subst iM;rw[adN] at jz;have:=mF [_] b hs vs bx _ hg hc (by rw[hL];exact h bo cc done (jz.trans aaE));refine T.sub this ?_;exact nZ
def U3[i:Lc (bn p) L (b,hs) f][hh:Has R L]{s:OA}{c:Nat}{ids:List Nat}(hr:oz W R nm 2 s ids)(hl:ids.length≤1000)
 (h:∀b' c' out,out=ids.filterMap b.find→T W (own b' out.length c' 14 (out.flatMap ak)::L) (K (.l b' out.length c'))):T W L (l9 (some ⟨p,0,none⟩) s ids.length c K):=by
 unfold l9;refine gB (e:=14) ?_;intro w ku;refine⟨fun vv w=>∃(i:Nat)(bo:OA)(cc:Nat)(done:List aS),i≤ids.length∧done=(ids.take i).filterMap b.find∧done.length≤i∧vv=[.l none 0 0,.l bo done.length cc,.l s ids.length c,.i (ids.length:Int),.i (i:Int)]∧
  St W w (own bo done.length cc 14 (done.flatMap ak)::L),
  fun vs _=>match vs with|[_,_,_,_,.int _ d]=>ids.length-d.toNat|_=>0,⟨0,none,0,[],adK _,by simp,adG _,rfl,ku⟩,?_⟩
 rintro uF qg uE bo pL cc yV yg yU n3 n4 w2 ⟨i,b0,c0,done,hi,jz,wC,e,gN⟩;cases e
 refine T.at ?_ gN;have e5:adx.wrap ((i:Int)+1)=((i+1:Nat):Int):=by rw[ah (by omega)];omega
 refine az (fun g1=>?_) (fun g1=>?_)
 ·have a8:i<ids.length:=by have:=of_decide_eq_true g1;omega
  have gx:=adA a8;generalize ids[i]=x at gx;have fy:(ids.take (i+1)).filterMap b.find=done++(b.find x).toList:=by
   rw[adT,gx,List.filterMap_append,←jz]
   congr 1
  refine kV hr ⟨by omega,by omega⟩ rfl fun a ha=>?_;rw[adB];refine kT hr ha gx rfl ?_
  repeat' first|apply ww|apply wm;intro _|apply wb|with_reducible refine rY (p:=p) ?_|fail
  rw[e5];cases hf:b.find x with
  |none=>
   rw[hf] at fy;simp only[aeg,aes]
   repeat' first|apply ww|apply wm;intro _|apply wb
   refine T.drop (T.drop ?_);exact fun w3 h3=>⟨⟨i+1,bo,cc,done,a8,by simp[fy],by omega,rfl,h3⟩,by show ids.length-((i+1:Nat):Int).toNat<ids.length-(i:Int).toNat;omega⟩
  |some a2=>
   rw[hf] at fy;simp only[ad9,aec]
   repeat' first|apply ww|apply wm;intro _|apply wb
   refine jm (b:=bo) (x:=a2) rfl rfl rfl (by omega) (by omega) (gn _) fun b2 c2=>?_;refine T.drop (T.drop (T.drop ?_));exact fun w3 h3=>⟨⟨i+1,b2,c2,done++[a2],a8,by simpa using fy.symm,by simp;omega,by simp,by simpa using h3⟩,by show ids.length-((i+1:Nat):Int).toNat<ids.length-(i:Int).toNat;omega⟩
 ·have iM:i=ids.length:=by have:=of_decide_eq_false g1;omega
  subst iM;rw[adN] at jz;exact h bo cc done jz
def U2[i:Lc (bn p) L (b,hs) f][hh:Has R L]{s:OA}{c:Nat}{ids:List Nat}(hr:oz W R nm 2 s ids)(hl:ids.length≤1000)
 (h:∀b' c' out,out=ids.filterMap (fun id=>(b.named id).map (·.move))→T W (own b' out.length c' 16 (out.flatMap ai)::L) (K (.l b' out.length c'))):T W L (lg (some ⟨p,0,none⟩) s ids.length c K):=by
 unfold lg;refine gB (e:=16) ?_;intro w ku;refine⟨fun vv w=>∃(i:Nat)(bo:OA)(cc:Nat)(done:List Move),i≤ids.length∧done=(ids.take i).filterMap (fun id=>(b.named id).map (·.move))∧done.length≤i∧vv=[.l none 0 0,.l bo done.length cc,.l s ids.length c,.i (ids.length:Int),.i (i:Int)]∧
  St W w (own bo done.length cc 16 (done.flatMap ai)::L),
  fun vs _=>match vs with|[_,_,_,_,.int _ d]=>ids.length-d.toNat|_=>0,⟨0,none,0,[],adK _,by simp,adG _,rfl,ku⟩,?_⟩
 rintro uF qg uE bo pL cc yV yg yU n3 n4 w2 ⟨i,b0,c0,done,hi,jz,wC,e,gN⟩;cases e
 refine T.at ?_ gN;have e5:adx.wrap ((i:Int)+1)=((i+1:Nat):Int):=by rw[ah (by omega)];omega
 refine az (fun g1=>?_) (fun g1=>?_)
 ·have a8:i<ids.length:=by have:=of_decide_eq_true g1;omega
  have gx:=adA a8;generalize ids[i]=x at gx;have fy:(ids.take (i+1)).filterMap (fun id=>(b.named id).map (·.move))=done++((b.named x).map (·.move)).toList:=by
   rw[adT,gx,List.filterMap_append,←jz]
   congr 1
  refine kV hr ⟨by omega,by omega⟩ rfl fun a ha=>?_;rw[adB];refine kT hr ha gx rfl ?_
  repeat' first|apply ww|apply wm;intro _|apply wb|with_reducible refine Ep (p:=p) ?_|fail
  rw[e5];cases hf:b.named x with
  |none=>
   rw[hf] at fy;simp only[aeg,aes]
   repeat' first|apply ww|apply wm;intro _|apply wb
   refine T.drop (T.drop ?_);exact fun w3 h3=>⟨⟨i+1,bo,cc,done,a8,by simp[fy],by omega,rfl,h3⟩,by show ids.length-((i+1:Nat):Int).toNat<ids.length-(i:Int).toNat;omega⟩
  |some a2=>
   rw[hf] at fy;simp only[ad9,aec]
   repeat' first|apply ww|apply wm;intro _|apply wb
   refine jm (b:=bo) (x:=a2.move) rfl rfl rfl (by omega) (by omega) (ml _) fun b2 c2=>?_;refine T.drop (T.drop (T.drop ?_));exact fun w3 h3=>⟨⟨i+1,b2,c2,done++[a2.move],a8,by simpa using fy.symm,by simp;omega,by simp,by simpa using h3⟩,by show ids.length-((i+1:Nat):Int).toNat<ids.length-(i:Int).toNat;omega⟩
 ·have iM:i=ids.length:=by have:=of_decide_eq_false g1;omega
  subst iM;rw[adN] at jz;exact h bo cc done jz
end
instance{q:jG}:Sub (mG q) 0 2 (nm q.s8):=⟨rfl,fun j v h=>by
 rw[adE]
 match j with
 |0=>exact h
 |1=>exact h
 |j+2=>simp[nm] at h⟩
instance{k:Kept}:Sub (aM k) 18 2 (nm k.move.aH):=⟨rfl,(uC (cs:=aM k) (o:=18) (n:=k.move.aH) rfl rfl).2⟩
instance{k:Kept}:Sub (aM k) 20 2 (nm k.move.ar):=⟨rfl,(uC (cs:=aM k) (o:=20) (n:=k.move.ar) rfl rfl).2⟩
def F6(q:jG):∀v∈mG q,v.oneCell'=true:=fun v h=>by
 simp[mG,nm] at h;rcases h with rfl|rfl|rfl|rfl|rfl|rfl|rfl|rfl<;>rfl
instance{x1 x2 x3 x4 x5 x6 x7 x8:Value}{q:jG}:Wr [x1,x2,x3,x4,x5,x6,x7,x8] 0 (mG q) (mG q):=⟨rfl,adG _,F6 q⟩
def fits(q:jG)(k:Kept):Bool:=(q.rR&&decide (k.move.aH=q.s8))||(q.pN&&decide (k.move.ar=q.s8))
def Wp(b:ax)(q:jG):List Move:=(((UX b q.iw q.rP q.nq).filter (fits q)).take q.jt.toNat).map (·.move)
def yb{α:Type}{P:α→Bool}{l:List α}{i n:Nat}{x:α}(hx:l[i]?=some x):
 ((l.take (i+1)).filter P).take n=if(((l.take i).filter P).take n).length<n then(if P x then((l.take i).filter P).take n++[x] else((l.take i).filter P).take n) else((l.take i).filter P).take n:=by
 rw[adT,hx,List.filter_append];show(_++[x].filter P).take n=_;generalize (l.take i).filter P=A;rw[adF];by_cases h:min n A.length<n
 ·rw[if_pos h];have hA:A.length<n:=by omega
  by_cases hp:P x=true
  ·rw[if_pos hp,aez hp,List.filter_nil,adS (by simp;omega),adS (by omega)]
  ·rw[if_neg hp,aeA hp,List.filter_nil,adV]
 ·rw[if_neg h,List.take_append_of_le_length (by omega)]
section
variable {W:World} {L R:LH} {K:VK} {X:WK} {p:Nat} {b:ax} {hs:List C} {f:ax×List C→LH} {q:jG} {s:sf}
def MV{I1:LV→World→Prop}{pc:LV→World→Nat}{M:LH}{r1 r2 cc yg yU:Nat}{bo yV:OA}{done:List Move}{x:Kept}{n3 n4:Int}{w2:World}{g:LV→LH}
 (hA:(done.length<q.jt.toNat∧fits q x=true)→∀b2 c2,T W (own b2 (done.length+1) c2 16 ((done++[x.move]).flatMap ai)::M) (fun w3=>I1 [.p (some (ad r1 0)),.l none 0 0,.l b2 (done.length+1) c2,.l yV yg yU,.i n3,.i (adx.wrap (n4+1))] w3∧
  pc [.p (some (ad r1 0)),.l none 0 0,.l b2 (done.length+1) c2,.l yV yg yU,.i n3,.i (adx.wrap (n4+1))] w3<pc [.p (some (ad r1 0)),.l none 0 0,.l bo done.length cc,.l yV yg yU,.i n3,.i n4] w2))
 (hN: ¬(done.length<q.jt.toNat∧fits q x=true)→T W (own bo done.length cc 16 (done.flatMap ai)::M) (fun w3=>I1 [.p (some (ad r1 0)),.l none 0 0,.l bo done.length cc,.l yV yg yU,.i n3,.i (adx.wrap (n4+1))] w3∧
  pc [.p (some (ad r1 0)),.l none 0 0,.l bo done.length cc,.l yV yg yU,.i n3,.i (adx.wrap (n4+1))] w3<pc [.p (some (ad r1 0)),.l none 0 0,.l bo done.length cc,.l yV yg yU,.i n3,.i n4] w2))
 [i1:Lc (Sep.pt r1) M (mG q) g](DV:0≤q.jt∧q.jt≤16)(hd:done.length≤1000):
 T W (Sep.pt r2 (aM x)::own bo done.length cc 16 (done.flatMap ai)::M) (br q.rR (aj (ad r2 18) 2 fun cs6=>aj (ad r1 0) 2 fun cs7=>oa [.u 0,.u 0] cs6 cs7 fun b8=>jE.j1 K (ad r1 0) r2 done.length bo cc I1 none 0 0 yV yg yU n3 n4 pc w2 b8)
   (jE.j1 K (ad r1 0) r2 done.length bo cc I1 none 0 0 yV yg yU n3 n4 pc w2 false)):=by
 have j3:∀yes:Bool,(yes=true↔done.length<q.jt.toNat∧fits q x=true)→T W (Sep.pt r2 (aM x)::own bo done.length cc 16 (done.flatMap ai)::M) (jE.j3 K r2 bo done.length cc I1 (ad r1 0) none 0 0 yV yg yU n3 n4 pc w2 yes):=fun yes hy=>by
  unfold jE.j3;cases yes with
  |true=>
   repeat' first|apply ww|apply wm;intro _|apply wb
   refine jm (b:=bo) (x:=x.move) rfl rfl rfl (by omega) (by omega) (ml _) fun b2 c2=>?_;exact T.drop (T.drop (hA (hy.1 rfl) b2 c2))
  |false=>
   repeat' first|apply ww|apply wm;intro _|apply wb
   exact T.drop (hN fun hh=>by have:=hy.2 hh;cases this)
 have j2:∀b2 b3:Bool,(b2||b3)=fits q x→T W (Sep.pt r2 (aM x)::own bo done.length cc 16 (done.flatMap ai)::M) (jE.j2 K (ad r1 0) done.length b2 r2 bo cc I1 none 0 0 yV yg yU n3 n4 pc w2 b3):=fun b2 b3 hb=>by
  unfold jE.j2
  repeat' first|apply ww|apply wm;intro _|apply wb
  refine az (fun g1=>?_) (fun g1=>?_)
  ·have g1:=of_decide_eq_true g1;cases b2 with
   |true=>
    repeat' first|apply ww|apply wm;intro _|apply wb
    refine j3 true ⟨fun _=>⟨by omega,by rw[←hb];rfl⟩,fun _=>rfl⟩
   |false=>
    repeat' first|apply ww|apply wm;intro _|apply wb
    rw[Bool.false_or] at hb;refine j3 b3 ⟨fun h=>⟨by omega,by rw[←hb];exact h⟩,fun h=>by rw[hb];exact h.2⟩
  ·have g1:=of_decide_eq_false g1;refine j3 false ⟨fun h=>(by cases h),fun h=>(by omega)⟩
 have j1:∀b2:Bool,b2=(q.rR&&decide (x.move.aH=q.s8))→T W (Sep.pt r2 (aM x)::own bo done.length cc 16 (done.flatMap ai)::M) (jE.j1 K (ad r1 0) r2 done.length bo cc I1 none 0 0 yV yg yU n3 n4 pc w2 b2):=fun b2 hb=>by
  unfold jE.j1
  repeat' first|apply ww|apply wm;intro _|apply wb
  cases hc:q.pN with
  |true=>
   repeat' first|apply ww|apply wm;intro _|apply wb
   refine j2 _ _ ?_;unfold fits;rw[hb,hc,aeC]
  |false=>
   repeat' first|apply ww|apply wm;intro _|apply wb
   refine j2 _ _ ?_;unfold fits;rw[hb,hc,aeL]
 cases O5:q.rR with
 |true=>
  repeat' first|apply ww|apply wm;intro _|apply wb
  refine j1 _ ?_;rw[O5,aeC]
 |false=>
  repeat' first|apply ww|apply wm;intro _|apply wb
  refine j1 _ ?_;rw[O5,aeL]
def acU[i:Lc (bn p) L (b,hs) f](DV:0≤q.jt∧q.jt≤16)(h:∀b' c' out,out=Wp b q→T W (own b' out.length c' 16 (out.flatMap ai)::L) (K (.l b' out.length c'))):
 T W L (jE (some ⟨p,0,none⟩) (mG q) K):=by
 unfold jE;refine nd (p:=p) fun hg=>?_;have many:=hg.many;have Xw:(UX b q.iw q.rP q.nq).length≤96:=by
  unfold UX;rw[ad1];have h1:(nh q.iw q.rP (da 0 b.kept)).length≤96:=by unfold nh;rw[adF,adM,jJ];omega
  split
  ·rw[aew];exact h1
  ·exact h1
 repeat' first|apply ww|apply wm;intro _|apply wb
 rename_i r1;refine Lz (p:=p) fun bb bc l hl=>?_;rw[←hl] at Xw
 repeat' first|apply ww|apply wm;intro _|apply wb
 refine gB (e:=16) ?_;intro w ku;refine⟨fun vv w=>∃(i:Nat)(bo:OA)(cc:Nat)(done:List Move),i≤l.length∧done=(((l.take i).filter (fits q)).take q.jt.toNat).map (·.move)∧done.length≤i∧vv=[.p (some (ad r1 0)),.l none 0 0,.l bo done.length cc,.l bb l.length bc,.i (l.length:Int),.i (i:Int)]∧
  St W w (own bo done.length cc 16 (done.flatMap ai)::own bb l.length bc 33 (l.flatMap aM)::Sep.pt r1 (mG q)::L),
  fun vs _=>match vs with|[_,_,_,_,_,.int _ d]=>l.length-d.toNat|_=>0,⟨0,none,0,[],adK _,by simp,adG _,rfl,ku⟩,?_⟩
 rintro a1 uF qg uE bo pL cc yV yg yU n3 n4 w2 ⟨i,b0,c0,done,hi,jz,wC,e,gN⟩;cases e
 refine T.at ?_ gN;have e5:adx.wrap ((i:Int)+1)=((i+1:Nat):Int):=by rw[ah (by omega)];omega
 refine az (fun g1=>?_) (fun g1=>?_)
 ·have a8:i<l.length:=by have:=of_decide_eq_true g1;omega
  have gx:=adA a8;generalize l[i]=x at gx;have fy:=yb (P:=fits q) (n:=q.jt.toNat) gx;have rO:done.length=(((l.take i).filter (fits q)).take q.jt.toNat).length:=by rw[jz,ad1]
  rw[←rO] at fy;have s6:(((l.take (i+1)).filter (fits q)).take q.jt.toNat).map (·.move)=if done.length<q.jt.toNat∧fits q x=true then done++[x.move] else done:=by
   rw[fy];by_cases c1:done.length<q.jt.toNat
   ·rw[if_pos c1];by_cases c2:fits q x=true
    ·rw[if_pos c2,if_pos ⟨c1,c2⟩,ad8,←jz];rfl
    ·rw[if_neg c2,if_neg (fun h=>c2 h.2),←jz]
   ·rw[if_neg c1,if_neg (fun h=>c1 h.1),←jz]
  refine bV (b:=bb) ⟨by omega,by omega⟩ fun rb hb=>?_;subst hb;rw[adB];refine dV hG gx ?_
  repeat' first|apply ww|apply wm;intro _|apply wb
  rename_i r2;refine MV (r1:=r1) (r2:=r2) (bo:=bo) (x:=x) (M:=own (some ⟨rb,0,none⟩) l.length bc 33 (l.flatMap aM)::Sep.pt r1 (mG q)::L) (fun hy b2 c2=>?_) (fun hy=>?_) DV (by omega)
  ·rw[e5];rw[if_pos hy] at s6;exact fun w3 h3=>⟨⟨i+1,b2,c2,done++[x.move],a8,s6.symm,by simp;omega,by simp,by simpa using h3⟩,by show l.length-((i+1:Nat):Int).toNat<l.length-(i:Int).toNat;omega⟩
  ·rw[e5];rw[if_neg hy] at s6;exact fun w3 h3=>⟨⟨i+1,bo,cc,done,a8,s6.symm,by omega,rfl,h3⟩,by show l.length-((i+1:Nat):Int).toNat<l.length-(i:Int).toNat;omega⟩
 ·have iM:i=l.length:=by have:=of_decide_eq_false g1;omega
  subst iM;rw[adN] at jz;have:=h bo cc done (by rw[jz,hl];rfl);refine T.sub this ?_;exact nZ
def lV(q:jG):Bool:=
 if q.op=4∨q.op=5 then decide (1≤q.ids.length)&&decide (q.ids.length≤16)
 else if q.op=6 then decide (0≤q.iw∧0≤q.rP∧1≤q.jt∧q.jt≤16)&&(q.rR||q.pN) else false
def ask(m:Model)(q:jG):Int×List aS×List Move:=
 if lV q=false then(1,[],[])
 else if q.op=4 then(0,q.ids.filterMap (bo m).find,[])
 else if q.op=5 then(0,[],q.ids.filterMap fun id=>((bo m).named id).map (·.move))
 else(0,[],Wp (bo m) q)
def GD(h:T W L (K (.bool (lV q)))):T W L (eo (eu q s) K):=by
 have main:∀(r1:Nat)(b1:Bool),b1=decide (q.op=4∨q.op=5)→T W (Sep.pt r1 (eu q s)::L) (eo.j1 K r1 q.op b1):=fun r1 b1 hb=>by
  unfold eo.j1;unfold lV at h;by_cases LR:q.op=4∨q.op=5
  ·rw[if_pos LR] at h;rw[decide_eq_true LR] at hb;subst hb
   repeat' first|apply ww|apply wm;intro _|apply wb
   refine az (fun g2=>?_) (fun g2=>?_)
   ·have g2:=of_decide_eq_true g2;rw[decide_eq_true (by omega),aeC] at h
    repeat' first|apply ww|apply wm;intro _|apply wb
    refine T.fin (T.dp h) ?_;congr 1;rw[decide_eq_decide];omega
   ·have g2:=of_decide_eq_false g2;rw[decide_eq_false (by omega),aeL] at h;exact T.dp h
  ·rw[if_neg LR] at h;rw[decide_eq_false LR] at hb;subst hb;rw[cA];refine az (fun g6=>?_) (fun g6=>?_)
   ·have g6:q.op=6:=by simpa using g6
    rw[if_pos g6] at h
    repeat' first|apply ww|apply wm;intro _|apply wb
    rename_i r2;have j4:∀b4:Bool,b4=decide (0≤q.iw∧0≤q.rP∧1≤q.jt∧q.jt≤16)→T W (Sep.pt r2 (mG q)::Sep.pt r1 (eu q s)::L) (eo.j4 K r2 b4):=fun b4 h4=>by
     unfold eo.j4;rw[←h4] at h;cases b4 with
     |true=>
      repeat' first|apply ww|apply wm;intro _|apply wb
      rw[aeC] at h;cases hd:q.rR with
      |true=>
       rw[hd] at h
       repeat' first|apply ww|apply wm;intro _|apply wb
       exact T.dp h
      |false=>
       rw[hd,Bool.false_or] at h
       repeat' first|apply ww|apply wm;intro _|apply wb
       exact T.dp h
     |false=>
      repeat' first|apply ww|apply wm;intro _|apply wb
      rw[aeL] at h;exact T.dp h
    have j3:∀b3:Bool,b3=decide (0≤q.iw∧0≤q.rP∧1≤q.jt)→T W (Sep.pt r2 (mG q)::Sep.pt r1 (eu q s)::L) (eo.j3 K r2 b3):=fun b3 h3=>by
     unfold eo.j3;cases b3 with
     |true=>
      repeat' first|apply ww|apply wm;intro _|apply wb
      refine j4 _ ?_;have:=of_decide_eq_true h3.symm;rw[decide_eq_decide];omega
     |false=>
      repeat' first|apply ww|apply wm;intro _|apply wb
      refine j4 _ ?_;have:=of_decide_eq_false h3.symm;exact(decide_eq_false (by omega)).symm
    have j2:∀b2:Bool,b2=decide (0≤q.iw∧0≤q.rP)→T W (Sep.pt r2 (mG q)::Sep.pt r1 (eu q s)::L) (eo.j2 K r2 b2):=fun b2 h2=>by
     unfold eo.j2;cases b2 with
     |true=>
      repeat' first|apply ww|apply wm;intro _|apply wb
      refine j3 _ ?_;have:=of_decide_eq_true h2.symm;rw[decide_eq_decide];omega
     |false=>
      repeat' first|apply ww|apply wm;intro _|apply wb
      refine j3 _ ?_;have:=of_decide_eq_false h2.symm;exact(decide_eq_false (by omega)).symm
    refine az (fun g1=>?_) (fun g1=>?_)
    ·have g1:=of_decide_eq_true g1
     repeat' first|apply ww|apply wm;intro _|apply wb
     refine j2 _ ?_;rw[decide_eq_decide];omega
    ·have g1:=of_decide_eq_false g1;refine j2 _ ?_;exact(decide_eq_false (by omega)).symm
   ·have g6: ¬q.op=6:=by simpa using g6
    rw[if_neg g6] at h;exact T.dp h
 unfold eo
 repeat' first|apply ww|apply wm;intro _|apply wb
 refine az (fun g1=>?_) (fun g1=>?_)
 ·have Uv:q.op=4:=by simpa using g1
  exact main _ _ (by rw[g1];exact(decide_eq_true (.inl Uv)).symm)
 ·have Uv: ¬q.op=4:=by simpa using g1
  exact main _ _ (by rw[adX];simp[Uv])
def YH{m:Model}(hq:mu W R q s)
 (h:∀ab ac tb tc,T W (own ab (ask m q).2.1.length ac 14 ((ask m q).2.1.flatMap ak)::own tb (ask m q).2.2.length tc 16 ((ask m q).2.2.flatMap ai)::bn p (bo m,[])::R) (K (.agg ⟨oo (ask m q).1 none 0 0 ab (ask m q).2.1.length ac tb (ask m q).2.2.length tc⟩))):
 T W (bn p (bo m,[])::R) (vu (some ⟨p,0,none⟩) (eu q s) K):=by
 unfold vu
 repeat' first|apply ww|apply wm;intro _|apply wb|with_reducible refine GD ?_|fail
 cases ge:lV q with
 |false=>
  have e:ask m q=(1,[],[]):=by unfold ask;rw[if_pos ge]
  rw[e] at h
  repeat' first|apply ww|apply wm;intro _|apply wb
  refine T.drop (T.drop ?_);exact gB (e:=16) (gB (e:=14) (h none 0 none 0))
 |true=>
  repeat' first|apply ww|apply wm;intro _|apply wb
  refine az (fun g1=>?_) (fun g1=>?_)
  ·have g1:q.op=4:=by simpa using g1
   have e:ask m q=(0,q.ids.filterMap (bo m).find,[]):=by unfold ask;rw[if_neg (by rw[ge];decide),if_pos g1]
   rw[e] at h;have hlen:q.ids.length≤16:=by unfold lV at ge;rw[if_pos (.inl g1)] at ge;simp at ge;exact ge.2
   repeat' first|apply ww|apply wm;intro _|apply wb
   refine U3 (R:=R) (p:=p) hq.ids (by omega) fun ab ac out ho=>?_;subst ho
   repeat' first|apply ww|apply wm;intro _|apply wb
   have:=h ab ac none 0;refine gB (e:=16) (T.Hj ?_);refine T.sub this ?_
   repeat (first|exact adP.refl _|apply adP.cons_cons|apply adP.cons)
  have g1: ¬q.op=4:=by simpa using g1
  refine az (fun g2=>?_) (fun g2=>?_)
  ·have g2:q.op=5:=by simpa using g2
   have e:ask m q=(0,[],q.ids.filterMap fun id=>((bo m).named id).map (·.move)):=by unfold ask;rw[if_neg (by rw[ge];decide),if_neg g1,if_pos g2]
   rw[e] at h;have hlen:q.ids.length≤16:=by unfold lV at ge;rw[if_pos (.inr g2)] at ge;simp at ge;exact ge.2
   repeat' first|apply ww|apply wm;intro _|apply wb
   refine U2 (R:=R) (p:=p) hq.ids (by omega) fun ab ac out ho=>?_;subst ho
   repeat' first|apply ww|apply wm;intro _|apply wb
   have:=h none 0 ab ac;refine gB (e:=14) ?_;refine T.sub this ?_
   repeat (first|exact adP.refl _|apply adP.cons_cons|apply adP.cons)
  ·have g2: ¬q.op=5:=by simpa using g2
   have e:ask m q=(0,[],Wp (bo m) q):=by unfold ask;rw[if_neg (by rw[ge];decide),if_neg g1,if_neg g2]
   rw[e] at h;have DV:0≤q.jt∧q.jt≤16:=by
    unfold lV at ge;rw[if_neg (by omega)] at ge;split at ge
    ·simp at ge;omega
    ·cases ge
   repeat' first|apply ww|apply wm;intro _|apply wb
   refine acU (p:=p) DV fun ab ac out ho=>?_;subst ho
   repeat' first|apply ww|apply wm;intro _|apply wb
   have:=h none 0 ab ac;refine gB (e:=14) ?_;refine T.sub this ?_
   repeat (first|exact adP.refl _|apply adP.cons_cons|apply adP.cons)
end
def many{α:Type}(nx:RS→RS)(nv:RS→α):Nat→RS→List α×RS
 |0,x=>([],x)
 |n+1,x=>if x.2=true then([],x) else(nv x::(many nx nv n (nx x)).1,(many nx nv n (nx x)).2)
def oP{α:Type}{nx:RS→RS}{nv:RS→α}(n:Nat)(x:RS):many nx nv (n+1) x=if x.2=true then([],x) else(nv x::(many nx nv n (nx x)).1,(many nx nv n (nx x)).2):=rfl
def xu{α:Type}{nx:RS→RS}{nv:RS→α}(x:RS):many nx nv 0 x=([],x):=rfl
def wk{α:Type}{nx:RS→RS}{nv:RS→α}:∀(n:Nat)(x:RS),(many nx nv n x).1.length≤n
 |0,x=>adG _
 |n+1,x=>by unfold many;split<;>simp;exact wk n _
def P8(x:RS):0≤jF 1 x∧jF 1 x≤255:=by
 unfold jF;split
 ·omega
 ·have h1:=oZ (x.1.take 1);have h2:(x.1.take 1).length≤1:=by rw[adF];omega
  have h3:256^(x.1.take 1).length≤256^1:=aer (by decide) h2;have h4:(256:Nat)^1=256:=rfl;rw[kX (by omega)];omega
def GQ(x:RS):RS:=if 1<jF 1 x then((dG 1 x).1,true) else dG 1 x
def YR(x:RS):Bool:=jF 1 x==1
section
variable {W:World} {L R:LH} {K:VK} {X:WK} {r:Nat} {x:RS} {g:RS→LH} {q:jG} {s:sf}
def P5(x:RS):(B0 x).1.length≤x.1.length:=by
 unfold B0 uP;repeat (first|exact adG _|refine Nat.le_trans (qI _ _) ?_)
def P4(x:RS):(BZ x).1.length≤x.1.length:=by
 unfold BZ uP;repeat (first|exact adG _|refine Nat.le_trans (qI _ _) ?_)
def Eo[i:Lc (rd r) L x g](hl:x.1.length<1099511627776)(h:T W (g (GQ x)) (K (.bool (YR x)))):T W L (gF (some ⟨r,0,none⟩) K):=by
 unfold gF;refine qY hl ?_;refine na ?_;have hn:=i.next;rw[Option.isNone_some,Bool.not_false,jk];refine az (fun g1=>?_) (fun g1=>?_)
 ·have g1:jF 1 x>1:=of_decide_eq_true g1;intro w hs;obtain⟨k,hk,e⟩:=(hn (dG 1 x)).at_;rw[zq,ft,adE];refine mL hs (show(g (dG 1 x))[k]?=some (Sep.pt r [.string (bs (dG 1 x).1),.bool (dG 1 x).2]) from hk) (by show 1<2;decide) rfl fun w' dh=>?_;refine h w' ?_;have e2:GQ x=((dG 1 x).1,true):=by unfold GQ;rw[if_pos g1]
  rw[e2,e];exact dh
 ·have g1: ¬jF 1 x>1:=of_decide_eq_false g1;have e2:GQ x=dG 1 x:=by unfold GQ;rw[if_neg g1]
  rw[e2] at h;exact h
def Qi[i:Lc (rd r) L x g](hl:x.1.length<1099511627776)
 (h:∀b c,T W (own b (many B0 DL (jF 1 x).toNat (dG 1 x)).1.length c 14 ((many B0 DL (jF 1 x).toNat (dG 1 x)).1.flatMap ak)::g (many B0 DL (jF 1 x).toNat (dG 1 x)).2) (K (.l b (many B0 DL (jF 1 x).toNat (dG 1 x)).1.length c))):
 T W L (fH (some ⟨r,0,none⟩) (.func (.func N.lG) ⟨[]⟩ ⟨[]⟩) K):=by
 unfold fH;refine qY hl ?_;refine na ?_;have hn:=i.next;have hb:=P8 x;obtain⟨n,en⟩:∃n:Nat,jF 1 x=(n:Int):=⟨(jF 1 x).toNat,by omega⟩;rw[en,adB] at h;rw[en];refine gB (e:=14) ?_;intro w ku;refine⟨fun vv w=>∃(i:Nat)(bo:OA)(cc:Nat)(done:List aS)(y:RS),i≤n∧done.length≤i∧y.1.length<1099511627776∧many B0 DL n (dG 1 x)=(done++(many B0 DL (n-i) y).1,(many B0 DL (n-i) y).2)∧
                                                                                                                                       vv=[.l none 0 0,.l bo done.length cc,.i (n:Int),.i (i:Int)]∧St W w (own bo done.length cc 14 (done.flatMap ak)::g y),
  fun vs _=>match vs with|[_,_,_,.int _ d]=>n-d.toNat|_=>0,⟨0,none,0,[],dG 1 x,adK _,adG _,nK hl,by simp,rfl,ku⟩,?_⟩
 rintro MD Vm PB bo qg cc n2 n3 w2 ⟨i,b0,c0,done,y,hi,wC,hy,hm,e,gN⟩;cases e
 refine T.at ?_ gN;have e5:adx.wrap ((i:Int)+1)=((i+1:Nat):Int):=by rw[ah (by omega)];omega
 haveI:=hn y
 refine az (fun g1=>?_) (fun g1=>?_)
 ·have a8:i<n:=by have:=of_decide_eq_true g1;omega
  obtain⟨k,hk⟩:∃k,n-i=k+1:=⟨n-i-1,by omega⟩;rw[hk] at hm;refine uz (r:=r) ?_;refine qC ?_;cases ht:y.2 with
  |true=>
   repeat' first|apply ww|apply wm;intro _|apply wb
   rw[oP,if_pos ht] at hm;simp only[adV] at hm;have:=h bo cc;rw[hm] at this;exact this
  |false=>
   repeat' first|apply ww|apply wm;intro _|apply wb
   rw[oP,if_neg (by rw[ht];decide)] at hm;show T W _ (lG (some ⟨r,0,none⟩) _);refine Oe hy ?_
   repeat' first|apply ww|apply wm;intro _|apply wb
   refine jm (b:=bo) (x:=DL y) rfl rfl rfl (by omega) (by omega) (gn _) fun b2 c2=>?_;rw[e5];refine T.drop ?_;refine fun w3 h3=>⟨⟨i+1,b2,c2,done++[DL y],B0 y,a8,by simp;omega,Nat.lt_of_le_of_lt (P5 y) hy,?_,by simp,by simpa using h3⟩,by show n-((i+1:Nat):Int).toNat<n-(i:Int).toNat;omega⟩;rw[hm,show n-(i+1)=k by omega];simp
 ·have iM:i=n:=by have:=of_decide_eq_false g1;omega
  subst iM;rw[aeY] at hm;rw[xu,adV] at hm;have:=h bo cc;rw[hm] at this;exact this
def Qg[i:Lc (rd r) L x g](hl:x.1.length<1099511627776)
 (h:∀b c,T W (own b (many BZ DK (jF 1 x).toNat (dG 1 x)).1.length c 16 ((many BZ DK (jF 1 x).toNat (dG 1 x)).1.flatMap ai)::g (many BZ DK (jF 1 x).toNat (dG 1 x)).2) (K (.l b (many BZ DK (jF 1 x).toNat (dG 1 x)).1.length c))):
 T W L (fj (some ⟨r,0,none⟩) (.func (.func N.kx) ⟨[]⟩ ⟨[]⟩) K):=by
 unfold fj;refine qY hl ?_;refine na ?_;have hn:=i.next;have hb:=P8 x;obtain⟨n,en⟩:∃n:Nat,jF 1 x=(n:Int):=⟨(jF 1 x).toNat,by omega⟩;rw[en,adB] at h;rw[en];refine gB (e:=16) ?_;intro w ku;refine⟨fun vv w=>∃(i:Nat)(bo:OA)(cc:Nat)(done:List Move)(y:RS),i≤n∧done.length≤i∧y.1.length<1099511627776∧many BZ DK n (dG 1 x)=(done++(many BZ DK (n-i) y).1,(many BZ DK (n-i) y).2)∧
                                                                                                                                       vv=[.l none 0 0,.l bo done.length cc,.i (n:Int),.i (i:Int)]∧St W w (own bo done.length cc 16 (done.flatMap ai)::g y),
  fun vs _=>match vs with|[_,_,_,.int _ d]=>n-d.toNat|_=>0,⟨0,none,0,[],dG 1 x,adK _,adG _,nK hl,by simp,rfl,ku⟩,?_⟩
 rintro MD Vm PB bo qg cc n2 n3 w2 ⟨i,b0,c0,done,y,hi,wC,hy,hm,e,gN⟩;cases e
 refine T.at ?_ gN;have e5:adx.wrap ((i:Int)+1)=((i+1:Nat):Int):=by rw[ah (by omega)];omega
 haveI:=hn y
 refine az (fun g1=>?_) (fun g1=>?_)
 ·have a8:i<n:=by have:=of_decide_eq_true g1;omega
  obtain⟨k,hk⟩:∃k,n-i=k+1:=⟨n-i-1,by omega⟩;rw[hk] at hm;refine uz (r:=r) ?_;refine qC ?_;cases ht:y.2 with
  |true=>
   repeat' first|apply ww|apply wm;intro _|apply wb
   rw[oP,if_pos ht] at hm;simp only[adV] at hm;have:=h bo cc;rw[hm] at this;exact this
  |false=>
   repeat' first|apply ww|apply wm;intro _|apply wb
   rw[oP,if_neg (by rw[ht];decide)] at hm;show T W _ (kx (some ⟨r,0,none⟩) _);refine Ha hy ?_
   repeat' first|apply ww|apply wm;intro _|apply wb
   refine jm (b:=bo) (x:=DK y) rfl rfl rfl (by omega) (by omega) (ml _) fun b2 c2=>?_;rw[e5];refine T.drop ?_;refine fun w3 h3=>⟨⟨i+1,b2,c2,done++[DK y],BZ y,a8,by simp;omega,Nat.lt_of_le_of_lt (P4 y) hy,?_,by simp,by simpa using h3⟩,by show n-((i+1:Nat):Int).toNat<n-(i:Int).toNat;omega⟩;rw[hm,show n-(i+1)=k by omega];simp
 ·have iM:i=n:=by have:=of_decide_eq_false g1;omega
  subst iM;rw[aeY] at hm;rw[xu,adV] at hm;have:=h bo cc;rw[hm] at this;exact this
def Qh[i:Lc (rd r) L x g](hl:x.1.length<1099511627776)
 (h:∀b c,T W (own b (many (dG 16) vA (jF 1 x).toNat (dG 1 x)).1.length c 2 ((many (dG 16) vA (jF 1 x).toNat (dG 1 x)).1.flatMap nm)::g (many (dG 16) vA (jF 1 x).toNat (dG 1 x)).2) (K (.l b (many (dG 16) vA (jF 1 x).toNat (dG 1 x)).1.length c))):
 T W L (iz (some ⟨r,0,none⟩) (.func (.func N.bw) ⟨[]⟩ ⟨[]⟩) K):=by
 unfold iz;refine qY hl ?_;refine na ?_;have hn:=i.next;have hb:=P8 x;obtain⟨n,en⟩:∃n:Nat,jF 1 x=(n:Int):=⟨(jF 1 x).toNat,by omega⟩;rw[en,adB] at h;rw[en];refine gB (e:=2) ?_;intro w ku;refine⟨fun vv w=>∃(i:Nat)(bo:OA)(cc:Nat)(done:List Nat)(y:RS),i≤n∧done.length≤i∧y.1.length<1099511627776∧many (dG 16) vA n (dG 1 x)=(done++(many (dG 16) vA (n-i) y).1,(many (dG 16) vA (n-i) y).2)∧
                                                                                                                                       vv=[.l none 0 0,.l bo done.length cc,.i (n:Int),.i (i:Int)]∧St W w (own bo done.length cc 2 (done.flatMap nm)::g y),
  fun vs _=>match vs with|[_,_,_,.int _ d]=>n-d.toNat|_=>0,⟨0,none,0,[],dG 1 x,adK _,adG _,nK hl,by simp,rfl,ku⟩,?_⟩
 rintro MD Vm PB bo qg cc n2 n3 w2 ⟨i,b0,c0,done,y,hi,wC,hy,hm,e,gN⟩;cases e
 refine T.at ?_ gN;have e5:adx.wrap ((i:Int)+1)=((i+1:Nat):Int):=by rw[ah (by omega)];omega
 haveI:=hn y
 refine az (fun g1=>?_) (fun g1=>?_)
 ·have a8:i<n:=by have:=of_decide_eq_true g1;omega
  obtain⟨k,hk⟩:∃k,n-i=k+1:=⟨n-i-1,by omega⟩;rw[hk] at hm;refine uz (r:=r) ?_;refine qC ?_;cases ht:y.2 with
  |true=>
   repeat' first|apply ww|apply wm;intro _|apply wb
   rw[oP,if_pos ht] at hm;simp only[adV] at hm;have:=h bo cc;rw[hm] at this;exact this
  |false=>
   repeat' first|apply ww|apply wm;intro _|apply wb
   rw[oP,if_neg (by rw[ht];decide)] at hm;show T W _ (bw (some ⟨r,0,none⟩) _);refine Em hy ?_
   repeat' first|apply ww|apply wm;intro _|apply wb
   refine jm (b:=bo) (x:=vA y) rfl rfl rfl (by omega) (by omega) (lC _) fun b2 c2=>?_;rw[e5];refine T.drop ?_;refine fun w3 h3=>⟨⟨i+1,b2,c2,done++[vA y],(dG 16) y,a8,by simp;omega,Nat.lt_of_le_of_lt (qI 16 y) hy,?_,by simp,by simpa using h3⟩,by show n-((i+1:Nat):Int).toNat<n-(i:Int).toNat;omega⟩;rw[hm,show n-(i+1)=k by omega];simp
 ·have iM:i=n:=by have:=of_decide_eq_false g1;omega
  subst iM;rw[aeY] at hm;rw[xu,adV] at hm;have:=h bo cc;rw[hm] at this;exact this
def mA(q:jG):Bool:=if q.op=1 then q.ag.all fun a=>decide (m9 a) else if q.op=2 then q.aW.all fun t=>decide (kN t) else true
def iA(q:jG):Bool:=(km q||lV q)&&mA q
def wS{α:Type}{P:α→Bool}{l:List α}{i:Nat}{x:α}(hx:l[i]?=some x)(h:(l.take i).all P=true):(l.take (i+1)).all P=P x:=by
 rw[adT,hx,List.all_append,h];simp
def all_false{α:Type}{P:α→Bool}{l:List α}{i:Nat}{x:α}(hx:l[i]?=some x)(h:P x=false):l.all P=false:=by
 rw[List.all_eq_false];exact⟨x,ad3 hx,by rw[h];decide⟩
def EG[hh:Has R L](hq:mu W R q s)(y5:q.ag.length<1000000)(a8:q.aW.length<1000000){r1:Nat}{b1:Bool}(h:T W (Sep.pt r1 (eu q s)::L) (K (.bool (!b1&&mA q)))):T W (Sep.pt r1 (eu q s)::L) (jT.j1 K r1 b1):=by
 unfold jT.j1;cases b1 with
 |true=>rw[jk];exact h
 |false=>
  rw[Bool.not_false,aeC] at h;rw[cA]
  repeat' first|apply ww|apply wm;intro _|apply wb
  refine az (fun g1=>?_) (fun g1=>?_)
  ·have g1:q.op=1:=by simpa using g1
   unfold mA at h;rw[if_pos g1] at h
   repeat' first|apply ww|apply wm;intro _|apply wb
   intro w ku;refine⟨fun vv w=>∃i:Nat,i≤q.ag.length∧(q.ag.take i).all (fun x=>decide (m9 x))=true∧vv=[.bool false,.l s.sa q.ag.length s.ca,.i (q.ag.length:Int),.i (i:Int)]∧St W w (Sep.pt r1 (eu q s)::L),
    fun vs _=>match vs with|[_,_,_,.int _ d]=>q.ag.length-d.toNat|_=>0,⟨0,adK _,rfl,rfl,ku⟩,?_⟩
   rintro b2 uF qg uE n2 n3 w2 ⟨i,hi,hU,e,gN⟩;cases e
   refine T.at ?_ gN;have e5:adx.wrap ((i:Int)+1)=((i+1:Nat):Int):=by rw[ah (by omega)];omega
   refine az (fun g1=>?_) (fun g1=>?_)
   ·have a8:i<q.ag.length:=by have:=of_decide_eq_true g1;omega
    have gx:=adA a8;generalize q.ag[i]=x at gx;refine kV hq.ag ⟨by omega,by omega⟩ rfl fun a ha=>?_;rw[adB];refine kT hq.ag ha gx rfl ?_
    repeat' first|apply ww|apply wm;intro _|apply wb|with_reducible refine JM ?_|fail
    rw[e5];by_cases hg:m9 x
    ·rw[decide_eq_true hg]
     repeat' first|apply ww|apply wm;intro _|apply wb
     refine T.drop fun w3 h3=>⟨⟨i+1,a8,?_,rfl,h3⟩,by show q.ag.length-((i+1:Nat):Int).toNat<q.ag.length-(i:Int).toNat;omega⟩;rw[wS gx hU];exact decide_eq_true hg
    ·rw[decide_eq_false hg]
     repeat' first|apply ww|apply wm;intro _|apply wb
     rw[all_false gx (decide_eq_false hg)] at h;exact T.drop h
   ·have iM:i=q.ag.length:=by have:=of_decide_eq_false g1;omega
    subst iM;rw[adN] at hU;rw[hU] at h;exact h
  have g1: ¬q.op=1:=by simpa using g1
  refine az (fun g2=>?_) (fun g2=>?_)
  ·have g2:q.op=2:=by simpa using g2
   unfold mA at h;rw[if_neg g1,if_pos g2] at h
   repeat' first|apply ww|apply wm;intro _|apply wb
   intro w ku;refine⟨fun vv w=>∃i:Nat,i≤q.aW.length∧(q.aW.take i).all (fun x=>decide (kN x))=true∧vv=[.bool false,.l s.st q.aW.length s.ct,.i (q.aW.length:Int),.i (i:Int)]∧St W w (Sep.pt r1 (eu q s)::L),
    fun vs _=>match vs with|[_,_,_,.int _ d]=>q.aW.length-d.toNat|_=>0,⟨0,adK _,rfl,rfl,ku⟩,?_⟩
   rintro b2 uF qg uE n2 n3 w2 ⟨i,hi,hU,e,gN⟩;cases e
   refine T.at ?_ gN;have e5:adx.wrap ((i:Int)+1)=((i+1:Nat):Int):=by rw[ah (by omega)];omega
   refine az (fun g1=>?_) (fun g1=>?_)
   ·have a8:i<q.aW.length:=by have:=of_decide_eq_true g1;omega
    have gx:=adA a8;generalize q.aW[i]=x at gx;refine kV hq.aW ⟨by omega,by omega⟩ rfl fun a ha=>?_;rw[adB];refine kT hq.aW ha gx rfl ?_
    repeat' first|apply ww|apply wm;intro _|apply wb|with_reducible refine IH ?_|fail
    rw[e5];by_cases hg:kN x
    ·rw[decide_eq_true hg]
     repeat' first|apply ww|apply wm;intro _|apply wb
     refine T.drop fun w3 h3=>⟨⟨i+1,a8,?_,rfl,h3⟩,by show q.aW.length-((i+1:Nat):Int).toNat<q.aW.length-(i:Int).toNat;omega⟩;rw[wS gx hU];exact decide_eq_true hg
    ·rw[decide_eq_false hg]
     repeat' first|apply ww|apply wm;intro _|apply wb
     rw[all_false gx (decide_eq_false hg)] at h;exact T.drop h
   ·have iM:i=q.aW.length:=by have:=of_decide_eq_false g1;omega
    subst iM;rw[adN] at hU;rw[hU] at h;exact h
  ·have g2: ¬q.op=2:=by simpa using g2
   unfold mA at h;rw[if_neg g1,if_neg g2] at h;exact h
def Iz[hh:Has R L](hq:mu W R q s)(y5:q.ag.length<1000000)(a8:q.aW.length<1000000)(h:T W L (K (.bool (iA q)))):T W L (jT (eu q s) K):=by
 unfold jT
 repeat' first|apply ww|apply wm;intro _|apply wb|with_reducible refine JB ?_|fail
 unfold iA at h;cases he:km q with
 |true=>
  rw[he,Bool.true_or] at h
  repeat' first|apply ww|apply wm;intro _|apply wb
  exact EG hq y5 a8 (T.drop h)
 |false=>
  rw[he,Bool.false_or] at h
  repeat' first|apply ww|apply wm;intro _|apply wb|with_reducible refine GD ?_|fail
  refine EG hq y5 a8 (T.drop ?_);rw[Bool.not_not];exact h
end
def yD(b:Bool):List UInt8:=[if b then 1 else 0]
def QM(q:jG):List UInt8:=nb q.s8++le .i64 8 q.iw++le .i64 8 q.rP++yD q.rR++yD q.pN++yD q.nq++le .i64 1 q.jt
def cr(q:jG):List UInt8:=le .i64 1 q.op++
 (if q.op=1 then le .i64 1 (q.ag.length:Int)++q.ag.flatMap jv
 else if q.op=2 then le .i64 1 (q.aW.length:Int)++q.aW.flatMap nj
 else if q.op=3 then le .i64 8 q.now
 else if q.op=6 then QM q
 else le .i64 1 (q.ids.length:Int)++q.ids.flatMap nb)
section
variable {W:World} {L R:LH} {K:VK} {X:WK} {p:Nat} {l:List UInt8} {f:List UInt8→LH} {q:jG} {s:sf}
def Mo(h:T W (buf p []::L) X):T W (Sep.pt p [.l none 0 0]::L) X:=fun w hs=>by
 have h2:=(hs.push (A:=own none 0 0 1 (([]:List UInt8).map ry)) (o5 1)).perm (ad2.swap _ _ _);exact h w (qa (k:=0) (L:=buf p []::L) (A:=buf p []) rfl rfl h2)
def fb{α:Type}{g:α→List UInt8}{e:Nat}(hg:∀x,(g x).length=e)(l:List α):(l.flatMap g).length=l.length* e:=by
 induction l with
 |nil=>simp
 |cons x l ih=>rw[aeo,adD,ih,hg,adW,aeU];omega
def Zu[i:Lc (buf p) L l f][hh:∀y,Has R (f y)]{sl:OA}{c:Nat}{items:List aS}(hr:oz W R ak 14 sl items)(hg:∀x∈items,m9 x)(hi:items.length≤1000)(hl:l.length<1000000)
 (h:T W (f (l++le .i64 1 (items.length:Int)++items.flatMap jv)) (K (.tuple ⟨[]⟩))):T W L (fV (some ⟨p,0,none⟩) sl items.length c K):=by
 unfold fV;refine yS ?_;refine pS (by omega) (yR ?_);intro w ku;refine⟨fun vv w=>∃i:Nat,i≤items.length∧vv=[.l sl items.length c,.i (items.length:Int),.i (i:Int)]∧St W w (f (l++le .i64 1 (items.length:Int)++(items.take i).flatMap jv)),
  fun vs _=>match vs with|[_,_,.int _ d]=>items.length-d.toNat|_=>0,⟨0,adK _,rfl,by simpa using ku⟩,?_⟩
 rintro uF qg uE n1 n2 w2 ⟨i,hii,e,gN⟩;cases e
 refine T.at ?_ gN;have hn:=Lc.next (P:=buf p) inferInstance (l++le .i64 1 (items.length:Int)++(items.take i).flatMap jv) (L:=L) (x:=l) (f:=f);have vD:=hh (l++le .i64 1 (items.length:Int)++(items.take i).flatMap jv);have hlen:(l++le .i64 1 (items.length:Int)++(items.take i).flatMap jv).length<549755813888:=by
  rw[adD,adD,fb oX,adF,aB];have:min i items.length≤1000:=by omega
  have:min i items.length* (100-4)≤1000* (100-4):=aem _ this;omega
 have e5:adx.wrap ((i:Int)+1)=((i+1:Nat):Int):=by rw[ah (by omega)];omega
 refine az (fun g1=>?_) (fun g1=>?_)
 ·have a8:i<items.length:=by have:=of_decide_eq_true g1;omega
  have gx:=adA a8;have gm:=hg _ (adZ a8);generalize items[i]=x at gx gm;refine kV hr ⟨by omega,by omega⟩ rfl fun a ha=>?_;rw[adB];refine kT hr ha gx rfl ?_
  repeat' first|apply ww|apply wm;intro _|apply wb|with_reducible refine Od (p:=p) gm hlen ?_|fail
  rw[e5];refine T.drop fun w3 h3=>⟨⟨i+1,a8,rfl,?_⟩,by show items.length-((i+1:Nat):Int).toNat<items.length-(i:Int).toNat;omega⟩;rw[adT,gx,aex];simpa [adI] using h3
 ·have iM:i=items.length:=by have:=of_decide_eq_false g1;omega
  subst iM;rw[adN];exact h
def Zt[i:Lc (buf p) L l f][hh:∀y,Has R (f y)]{sl:OA}{c:Nat}{items:List Move}(hr:oz W R ai 16 sl items)(hg:∀x∈items,kN x)(hi:items.length≤1000)(hl:l.length<1000000)
 (h:T W (f (l++le .i64 1 (items.length:Int)++items.flatMap nj)) (K (.tuple ⟨[]⟩))):T W L (fG (some ⟨p,0,none⟩) sl items.length c K):=by
 unfold fG;refine yS ?_;refine pS (by omega) (yR ?_);intro w ku;refine⟨fun vv w=>∃i:Nat,i≤items.length∧vv=[.l sl items.length c,.i (items.length:Int),.i (i:Int)]∧St W w (f (l++le .i64 1 (items.length:Int)++(items.take i).flatMap nj)),
  fun vs _=>match vs with|[_,_,.int _ d]=>items.length-d.toNat|_=>0,⟨0,adK _,rfl,by simpa using ku⟩,?_⟩
 rintro uF qg uE n1 n2 w2 ⟨i,hii,e,gN⟩;cases e
 refine T.at ?_ gN;have hn:=Lc.next (P:=buf p) inferInstance (l++le .i64 1 (items.length:Int)++(items.take i).flatMap nj) (L:=L) (x:=l) (f:=f);have vD:=hh (l++le .i64 1 (items.length:Int)++(items.take i).flatMap nj);have hlen:(l++le .i64 1 (items.length:Int)++(items.take i).flatMap nj).length<549755813888:=by
  rw[adD,adD,fb oO,adF,aB];have:min i items.length≤1000:=by omega
  have:min i items.length* 108≤1000* 108:=aem _ this;omega
 have e5:adx.wrap ((i:Int)+1)=((i+1:Nat):Int):=by rw[ah (by omega)];omega
 refine az (fun g1=>?_) (fun g1=>?_)
 ·have a8:i<items.length:=by have:=of_decide_eq_true g1;omega
  have gx:=adA a8;have gm:=hg _ (adZ a8);generalize items[i]=x at gx gm;refine kV hr ⟨by omega,by omega⟩ rfl fun a ha=>?_;rw[adB];refine kT hr ha gx rfl ?_
  repeat' first|apply ww|apply wm;intro _|apply wb|with_reducible refine G' (p:=p) gm hlen ?_|fail
  rw[e5];refine T.drop fun w3 h3=>⟨⟨i+1,a8,rfl,?_⟩,by show items.length-((i+1:Nat):Int).toNat<items.length-(i:Int).toNat;omega⟩;rw[adT,gx,aex];simpa [adI] using h3
 ·have iM:i=items.length:=by have:=of_decide_eq_false g1;omega
  subst iM;rw[adN];exact h
def SO[i:Lc (buf p) L l f](hl:l.length<1000000)(h:T W (f (l++QM q)) (K (.tuple ⟨[]⟩))):T W L (ig (some ⟨p,0,none⟩) (mG q) K):=by
 unfold ig;have hn0:=i.next
 repeat' first|apply ww|apply wm;intro _|apply wb|with_reducible refine Eg (by omega) ?_|fail
 rename_i r1
 repeat' first|apply ww|apply wm;intro _|apply wb|with_reducible refine uy (by simp only[adD,ra,aB];omega) ?_|fail
 intro w ku;refine⟨fun vv w=>∃i:Nat,i≤3∧vv=[.p (some (ad r1 0)),.agg ⟨[.bool q.rR,.bool q.pN,.bool q.nq]⟩,.i (i:Int)]∧St W w (Sep.pt r1 (mG q)::f (l++nb q.s8++le .i64 8 q.iw++le .i64 8 q.rP++([q.rR,q.pN,q.nq].take i).flatMap yD)),
  fun vs _=>match vs with|[_,_,.int _ d]=>3-d.toNat|_=>0,⟨0,adK _,rfl,by simpa using ku⟩,?_⟩
 rintro a4 Yx n3 w2 ⟨i,hi,e,gN⟩;cases e
 refine T.at ?_ gN;have hn:=Lc.next (P:=buf p) inferInstance (l++nb q.s8++le .i64 8 q.iw++le .i64 8 q.rP++([q.rR,q.pN,q.nq].take i).flatMap yD) (L:=L) (x:=l) (f:=f);have LN:(([q.rR,q.pN,q.nq].take i).flatMap yD).length≤3:=by rw[fb (e:=1) (fun _=>rfl),adF];simp;omega
 have e5:adx.wrap ((i:Int)+1)=((i+1:Nat):Int):=by rw[ah (by omega)];omega
 refine az (fun g1=>?_) (fun g1=>?_)
 ·have a8:i<3:=by have:=of_decide_eq_true g1;omega
  obtain⟨b,hb⟩:∃b,[q.rR,q.pN,q.nq][i]?=some b:=⟨_,adA (by simpa using a8)⟩;have hv:[Value.bool q.rR,.bool q.pN,.bool q.nq][i]?=some (.bool b):=by
   have:=congrArg (afd Value.bool) hb;rw[←aen] at this;exact this
  refine IF a8 hv ?_
  repeat' first|apply ww|apply wm;intro _|apply wb|with_reducible refine Rp (by simp only[adD,ra,aB];omega) ?_|fail
  rw[e5];refine fun w3 h3=>⟨⟨i+1,a8,rfl,?_⟩,by show 3-((i+1:Nat):Int).toNat<3-(i:Int).toNat;omega⟩;rw[adT,hb,aex];simpa [adI,yD] using h3
 ·have iM:i=3:=by have:=of_decide_eq_false g1;omega
  subst iM
  repeat' first|apply ww|apply wm;intro _|apply wb|with_reducible refine pS (by simp only[adD,ra,aB];omega) ?_|fail
  have e2:l++nb q.s8++le .i64 8 q.iw++le .i64 8 q.rP++([q.rR,q.pN,q.nq].take 3).flatMap yD++le .i64 1 q.jt=l++QM q:=by
   unfold QM;simp[adI]
  rw[e2];exact T.drop h
def nQ(h:iA q=true):(q.op=1∧q.ag.length≤8∧∀a∈q.ag,m9 a)∨(q.op=2∧q.aW.length≤8∧∀t∈q.aW,kN t)∨(q.op=3∧0≤q.now∧q.now≤1099511627776)∨((q.op=4∨q.op=5)∧q.ids.length≤16)∨(q.op=6∧0≤q.iw∧0≤q.rP∧1≤q.jt∧q.jt≤16):=by
 unfold iA km lV mA at h;simp only[aet,Bool.or_eq_true] at h;obtain⟨h1,h2⟩:=h;by_cases o1:q.op=1
 ·rw[if_pos o1] at h1 h2;rw[if_neg (by omega),if_neg (by omega)] at h1;simp at h1 h2;exact .inl ⟨o1,h1.2,h2⟩
 by_cases o2:q.op=2
 ·rw[if_neg o1,if_pos o2] at h1 h2;rw[if_neg (by omega),if_neg (by omega)] at h1;simp at h1 h2;exact .inr (.inl ⟨o2,h1.2,h2⟩)
 by_cases o3:q.op=3
 ·rw[if_neg o1,if_neg o2,if_pos o3] at h1;rw[if_neg (by omega),if_neg (by omega)] at h1;simp at h1;exact .inr (.inr (.inl ⟨o3,h1⟩))
 rw[if_neg o1,if_neg o2,if_neg o3] at h1;by_cases o4:q.op=4∨q.op=5
 ·rw[if_pos o4] at h1;simp at h1;exact .inr (.inr (.inr (.inl ⟨o4,h1.2⟩)))
 rw[if_neg o4] at h1;by_cases o6:q.op=6
 ·rw[if_pos o6] at h1;simp at h1;exact .inr (.inr (.inr (.inr ⟨o6,h1.1⟩)))
 ·rw[if_neg o6] at h1;simp at h1
def L3[hh:Has R L](hq:mu W R q s)(y5:q.ag.length<1000000)(a8:q.aW.length<1000000)(h1:iA q=true→T W L (K (.tuple ⟨[.string (bs (cr q)),.i 0]⟩)))(h0:iA q=false→T W L (K (.tuple ⟨[.string .empty,.i 1]⟩))):T W L (nC (eu q s) K):=by
 unfold nC
 repeat' first|apply ww|apply wm;intro _|apply wb|with_reducible refine Iz hq y5 a8 ?_|fail
 rename_i r1;cases hw:iA q with
 |false=>
  repeat' first|apply ww|apply wm;intro _|apply wb
  exact T.drop (h0 hw)
 |true=>
  have h1:=h1 hw;have hf:=nQ hw
  repeat' first|apply ww|apply wm;intro _|apply wb
  rename_i r2;refine Mo ?_
  repeat' first|apply ww|apply wm;intro _|apply wb|with_reducible refine pS (by simp) ?_|fail
  unfold cr at h1;refine az (fun g1=>?_) (fun g1=>?_)
  ·have g1:q.op=1:=by simpa using g1
   rw[if_pos g1] at h1;have zv:q.ag.length≤8∧∀a∈q.ag,m9 a:=by rcases hf with h|h|h|h|h<;>first|exact h.2|omega
   repeat' first|apply ww|apply wm;intro _|apply wb
   refine Zu (R:=R) hq.ag zv.2 (by omega) (by simp[aB]) ?_
   repeat' first|apply ww|apply wm;intro _|apply wb|with_reducible refine qc ?_|fail
   rw[aed,adI];exact T.dp h1
  have g1: ¬q.op=1:=by simpa using g1
  rw[if_neg g1] at h1;refine az (fun g2=>?_) (fun g2=>?_)
  ·have g2:q.op=2:=by simpa using g2
   rw[if_pos g2] at h1;have zv:q.aW.length≤8∧∀a∈q.aW,kN a:=by rcases hf with h|h|h|h|h<;>first|exact h.2|omega
   repeat' first|apply ww|apply wm;intro _|apply wb
   refine Zt (R:=R) hq.aW zv.2 (by omega) (by simp[aB]) ?_
   repeat' first|apply ww|apply wm;intro _|apply wb|with_reducible refine qc ?_|fail
   rw[aed,adI];exact T.dp h1
  have g2: ¬q.op=2:=by simpa using g2
  rw[if_neg g2] at h1;refine az (fun g3=>?_) (fun g3=>?_)
  ·have g3:q.op=3:=by simpa using g3
   rw[if_pos g3] at h1
   repeat' first|apply ww|apply wm;intro _|apply wb|with_reducible first|refine uy (by simp[aB]) ?_|refine qc ?_|fail
   rw[aed];exact T.dp h1
  have g3: ¬q.op=3:=by simpa using g3
  rw[if_neg g3] at h1;refine az (fun g6=>?_) (fun g6=>?_)
  ·have g6:q.op=6:=by simpa using g6
   rw[if_pos g6] at h1
   repeat' first|apply ww|apply wm;intro _|apply wb
   refine SO (by simp[aB]) ?_
   repeat' first|apply ww|apply wm;intro _|apply wb|with_reducible refine qc ?_|fail
   rw[aed];exact T.dp h1
  have g6: ¬q.op=6:=by simpa using g6
  rw[if_neg g6] at h1;have zv:q.ids.length≤16:=by rcases hf with h|h|h|h|h<;>first|exact h.2|omega
  repeat' first|apply ww|apply wm;intro _|apply wb|with_reducible refine pS (by simp[aB]) ?_|fail
  intro w ku;refine⟨fun vv w=>∃i:Nat,i≤q.ids.length∧vv=[.string .empty,.i 0,.p (some (ad r2 0)),.l s.si q.ids.length s.ci,.i (q.ids.length:Int),.i (i:Int)]∧
   St W w (buf r2 (le .i64 1 q.op++(le .i64 1 (q.ids.length:Int)++(q.ids.take i).flatMap nb))::Sep.pt r1 (eu q s)::L),
   fun vs _=>match vs with|[_,_,_,_,_,.int _ d]=>q.ids.length-d.toNat|_=>0,⟨0,adK _,rfl,by simpa using ku⟩,?_⟩
  rintro s5 n4 a1 sb5 sn5 sc5 n5 n6 w2 ⟨i,hi,e,gN⟩;cases e
  refine T.at ?_ gN;have hlen:(le .i64 1 q.op++(le .i64 1 (q.ids.length:Int)++(q.ids.take i).flatMap nb)).length<1099511627776:=by
   rw[adD,adD,fb ra,adF,aB,aB];have:min i q.ids.length≤16:=by omega
   omega
  have e5:adx.wrap ((i:Int)+1)=((i+1:Nat):Int):=by rw[ah (by omega)];omega
  refine az (fun g1=>?_) (fun g1=>?_)
  ·have a8:i<q.ids.length:=by have:=of_decide_eq_true g1;omega
   have gx:=adA a8;generalize q.ids[i]=x at gx;refine kV hq.ids ⟨by omega,by omega⟩ rfl fun a ha=>?_;rw[adB];refine kT hq.ids ha gx rfl ?_
   repeat' first|apply ww|apply wm;intro _|apply wb|with_reducible refine Eg hlen ?_|fail
   rw[e5];refine T.drop fun w3 h3=>⟨⟨i+1,a8,rfl,?_⟩,by show q.ids.length-((i+1:Nat):Int).toNat<q.ids.length-(i:Int).toNat;omega⟩;rw[adT,gx,aex];simpa [adI] using h3
  ·have iM:i=q.ids.length:=by have:=of_decide_eq_false g1;omega
   subst iM;rw[adN]
   repeat' first|apply ww|apply wm;intro _|apply wb|with_reducible refine qc ?_|fail
   exact T.dp h1
end
def q0:jG:=⟨0,[],[],0,[],0,0,0,false,false,false,0⟩
def s0:sf:=⟨none,0,none,0,none,0⟩
instance{q q':jG}{s s':sf}:Wr (eu q s) 0 (eu q' s') (eu q' s'):=⟨rfl,adG _,tE q' s'⟩
instance{q:jG}{s:sf}:Wr (eu q s) 0 [.i 0,.l none 0 0,.l none 0 0,.i 0,.l none 0 0,.u 0,.u 0,.i 0,.i 0,.bool false,.bool false,.bool false,.i 0] (eu q0 s0):=⟨rfl,adG _,tE q0 s0⟩
instance{q:jG}{s:sf}{a:Nat}{f t m:Int}{d c l:Bool}:Wr (eu q s) 5 (nm a++([.i f,.i t,.bool d,.bool c,.bool l,.i m]:LV)) (eu ⟨q.op,q.ag,q.aW,q.now,q.ids,a,f,t,d,c,l,m⟩ s):=⟨rfl,by show 13≤13;decide,F6 ⟨q.op,q.ag,q.aW,q.now,q.ids,a,f,t,d,c,l,m⟩⟩
def Hs(n:Int):jG:=⟨n,[],[],0,[],0,0,0,false,false,false,0⟩
def opC(n:Int):eu (Hs n) s0=[.i n,.l none 0 0,.l none 0 0,.i 0,.l none 0 0,.u 0,.u 0,.i 0,.i 0,.bool false,.bool false,.bool false,.i 0]:=by
 simp[eu,mG,nm,Hs,s0]
instance{x1 x2 x3 x4 x5 x6 x7 x8 x9 zg zf ze zb:Value}{n:Int}:Wr [x1,x2,x3,x4,x5,x6,x7,x8,x9,zg,zf,ze,zb] 0 [.i n,.l none 0 0,.l none 0 0,.i 0,.l none 0 0,.u 0,.u 0,.i 0,.i 0,.bool false,.bool false,.bool false,.i 0] (eu (Hs n) s0):=by
 rw[←opC n];exact⟨rfl,adG _,tE _ _⟩
def vX(l:List UInt8):jG×RS:=
 let x:RS:=(l,false)
 let y:=dG 1 x
 if jF 1 x=1 then({q0 with op:=1,ag:=(many B0 DL (jF 1 y).toNat (dG 1 y)).1},(many B0 DL (jF 1 y).toNat (dG 1 y)).2)
 else if jF 1 x=2 then({q0 with op:=2,aW:=(many BZ DK (jF 1 y).toNat (dG 1 y)).1},(many BZ DK (jF 1 y).toNat (dG 1 y)).2)
 else if jF 1 x=3 then({q0 with op:=3,now:=jF 8 y},dG 8 y)
 else if jF 1 x=6 then({q0 with op:=6,s8:=vA y,iw:=jF 8 (dG 16 y),rP:=jF 8 (dG 8 (dG 16 y)),rR:=YR (dG 8 (dG 8 (dG 16 y))),pN:=YR (GQ (dG 8 (dG 8 (dG 16 y)))),nq:=YR (GQ (GQ (dG 8 (dG 8 (dG 16 y))))),jt:=jF 1 (GQ (GQ (GQ (dG 8 (dG 8 (dG 16 y))))))},
  dG 1 (GQ (GQ (GQ (dG 8 (dG 8 (dG 16 y)))))))
 else({q0 with op:=jF 1 x,ids:=(many (dG 16) vA (jF 1 y).toNat (dG 1 y)).1},(many (dG 16) vA (jF 1 y).toNat (dG 1 y)).2)
def An(l:List UInt8):Bool:=(!(vX l).2.2&&decide ((vX l).2.1=[]))&&iA (vX l).1
def DI(x:RS):(GQ x).1.length≤x.1.length:=by
 unfold GQ;split
 ·exact qI _ _
 ·exact qI _ _
section
variable {W:World} {L R:LH} {K:VK} {X:WK} {p r:Nat} {l:List UInt8} {q:jG} {s:sf} {A:HP}
def Ms(h:∀r,T W (rd r (l,false)::L) (K (.p (some ⟨r,0,none⟩)))):T W L (jV (bs l) K):=fun w hs=>oK hs fun r w' h'=>h r w' h'
def oz.own{α:Type}{b:OA}{n c e:Nat}{g:α→LV}{xs:List α}(hg:∀x,(g x).length=e)(hn:n=xs.length):oz W (Sep.own b n c e (xs.flatMap g)::L) g e b xs:=fun w hw i x hx=>by
 obtain⟨hl,h0|⟨r,sp,hb,qM,yt,hs⟩⟩:=hw.mz (k:=0) rfl
 ·have:=(adC.1 hx).1;omega
 ·refine⟨⟨r,0,none⟩,hb,?_⟩;subst hb;rw[ft,adE];exact xZ (k:=0) hw rfl (ov hg xs i x hx)
def oz.nil{α:Type}{b:OA}{e:Nat}{g:α→LV}:oz W R g e b []:=fun w hw i x hx=>by simp at hx
def L2{r1 r2:Nat}{x:RS}(hq:mu W (A::L) q s)(y5:q.ag.length<1000000)(a8:q.aW.length<1000000)
 (h0:((!x.2&&decide (x.1=[]))&&iA q)=false→T W L (K (.tuple ⟨[.agg ⟨eu q0 s0⟩,.i 4]⟩)))
 (h1:((!x.2&&decide (x.1=[]))&&iA q)=true→T W (A::L) (K (.tuple ⟨[.agg ⟨eu q s⟩,.i 0]⟩))):
 T W (Sep.pt r2 (eu q s)::rd p x::Sep.pt r1 (eu q0 s0)::A::L) (iK.j1 K (some ⟨p,0,none⟩) r1 r2):=by
 unfold iK.j1;refine Ou (r:=p) ?_;refine qC ?_;cases he:(!x.2&&decide (x.1=[])) with
 |false=>
  rw[he,aeL] at h0;have h0:=h0 rfl;rw[Bool.not_false,jk]
  repeat' first|apply ww|apply wm;intro _|apply wb
  exact T.dp h0
 |true=>
  rw[he,aeC] at h0 h1;rw[Bool.not_true,cA]
  repeat' first|apply ww|apply wm;intro _|apply wb|with_reducible refine Iz (R:=A::L) hq y5 a8 ?_|fail
  cases hw:iA q with
  |false=>
   have h0:=h0 hw
   repeat' first|apply ww|apply wm;intro _|apply wb
   exact T.dp h0
  |true=>
   have h1:=h1 hw
   repeat' first|apply ww|apply wm;intro _|apply wb
   exact T.dp h1
def Pg(hl:l.length<1099511627776)
 (h0:An l=false→T W L (K (.tuple ⟨[.agg ⟨eu q0 s0⟩,.i 4]⟩)))
 (h1:An l=true→∀A s,(∀L',mu W (A::L') (vX l).1 s)→T W (A::L) (K (.tuple ⟨[.agg ⟨eu (vX l).1 s⟩,.i 0]⟩))):T W L (iK (bs l) K):=by
 unfold iK;refine qD fun r1=>?_;refine Ms fun p=>?_;refine u1 ?_;refine qY hl (na ?_);refine c9 ⟨rfl,trivial⟩ ?_;refine qD fun r2=>?_
 repeat' first|apply ww|apply wm;intro _|apply wb
 have hy:=nK (m:=1) (x:=(l,false)) hl;have hb:=P8 (dG 1 (l,false));have fin:∀(q:jG)(x:RS)(A:HP)(s:sf),vX l=(q,x)→(∀L',mu W (A::L') q s)→q.ag.length<1000000→q.aW.length<1000000→
  T W (A::Sep.pt r2 (eu q s)::rd p x::Sep.pt r1 (eu q0 s0)::L) (iK.j1 K (some ⟨p,0,none⟩) r1 r2):=by
  intro q x A s he hq y5 a8;unfold An at h0 h1;rw[he] at h0 h1;exact T.perm (L2 (hq L) y5 a8 h0 fun hh=>h1 hh A s hq) (adJ (l₁:=[A]) (l₂:=[Sep.pt r2 (eu q s),rd p x,Sep.pt r1 (eu q0 s0)])|>.append_right L)
 unfold vX at fin;dsimp only at fin;generalize jF 1 (l,false)=op at fin⊢;generalize dG 1 (l,false)=y at fin hy hb⊢;refine az (fun g1=>?_) (fun g1=>?_)
 ·have g1:op=1:=by simpa [Hs] using g1
  subst g1;rw[if_pos rfl] at fin;refine Qi hy fun b c=>?_;have FT:=wk (nx:=B0) (nv:=DL) (jF 1 y).toNat (dG 1 y);obtain⟨out,ho⟩:∃out,(many B0 DL (jF 1 y).toNat (dG 1 y)).1=out:=⟨_,rfl⟩;obtain⟨z,hz⟩:∃z,(many B0 DL (jF 1 y).toNat (dG 1 y)).2=z:=⟨_,rfl⟩;rw[ho,hz] at fin⊢;rw[ho] at FT;refine tt ?_;refine ny (b:=b) fun qM _=>?_;refine yd (r:=r2) (cs:=eu (Hs 1) s0) (o:=1) (v:=.l b out.length c) (by decide) rfl ?_;exact fin _ _ (Sep.own b out.length c 14 (out.flatMap ak)) ⟨b,c,none,0,none,0⟩ rfl (fun _=>⟨oz.own (fun _=>rfl) rfl,oz.nil,oz.nil,qM,adG _,adG _⟩) (by show out.length<_;omega) (by show 0<_;decide)
 have g1: ¬op=1:=by simpa [Hs] using g1
 rw[if_neg g1] at fin;refine az (fun g2=>?_) (fun g2=>?_)
 ·have g2:op=2:=by simpa [Hs] using g2
  subst g2;rw[if_pos rfl] at fin;refine Qg hy fun b c=>?_;have FT:=wk (nx:=BZ) (nv:=DK) (jF 1 y).toNat (dG 1 y);obtain⟨out,ho⟩:∃out,(many BZ DK (jF 1 y).toNat (dG 1 y)).1=out:=⟨_,rfl⟩;obtain⟨z,hz⟩:∃z,(many BZ DK (jF 1 y).toNat (dG 1 y)).2=z:=⟨_,rfl⟩;rw[ho,hz] at fin⊢;rw[ho] at FT;refine tt ?_;refine ny (b:=b) fun qM _=>?_;refine yd (r:=r2) (cs:=eu (Hs 2) s0) (o:=2) (v:=.l b out.length c) (by decide) rfl ?_;exact fin _ _ (Sep.own b out.length c 16 (out.flatMap ai)) ⟨none,0,b,c,none,0⟩ rfl (fun _=>⟨oz.nil,oz.own (fun _=>rfl) rfl,oz.nil,adG _,qM,adG _⟩) (by show 0<_;decide) (by show out.length<_;omega)
 have g2: ¬op=2:=by simpa [Hs] using g2
 rw[if_neg g2] at fin;refine az (fun g3=>?_) (fun g3=>?_)
 ·have g3:op=3:=by simpa [Hs] using g3
  subst g3;rw[if_pos rfl] at fin;refine sS hy (na ?_);refine yd (r:=r2) (cs:=eu (Hs 3) s0) (o:=3) (v:=.i (jF 8 y)) (by decide) rfl ?_;refine gB (e:=1) ?_;exact fin _ _ (Sep.own none 0 0 1 []) s0 rfl (fun _=>⟨oz.nil,oz.nil,oz.nil,adG _,adG _,adG _⟩) (by show 0<_;decide) (by show 0<_;decide)
 have g3: ¬op=3:=by simpa [Hs] using g3
 rw[if_neg g3] at fin;refine az (fun g6=>?_) (fun g6=>?_)
 ·have g6:op=6:=by simpa [Hs] using g6
  subst g6;rw[if_pos rfl] at fin;have b1:=nK (m:=16) hy;have b2:=nK (m:=8) b1;have b3:=nK (m:=8) b2;have b4:=Nat.lt_of_le_of_lt (DI _) b3;have b5:=Nat.lt_of_le_of_lt (DI _) b4;have b6:=Nat.lt_of_le_of_lt (DI _) b5;refine Em hy (xa rfl ?_);refine sS b1 (na ?_);refine sS b2 (na ?_);refine Eo b3 (qC ?_);refine Eo b4 (qC ?_);refine Eo b5 (qC ?_);refine qY b6 (na ?_);refine c9 ⟨rfl,rfl,rfl,rfl,rfl,rfl,rfl,trivial⟩ ?_;refine c9 rfl ?_
  repeat' first|apply ww|apply wm;intro _|apply wb
  refine gB (e:=1) ?_;exact fin _ _ (Sep.own none 0 0 1 []) s0 rfl (fun _=>⟨oz.nil,oz.nil,oz.nil,adG _,adG _,adG _⟩) (by show 0<_;decide) (by show 0<_;decide)
 have g6: ¬op=6:=by simpa [Hs] using g6
 rw[if_neg g6] at fin;refine Qh hy fun b c=>?_;have FT:=wk (nx:=dG 16) (nv:=vA) (jF 1 y).toNat (dG 1 y);obtain⟨out,ho⟩:∃out,(many (dG 16) vA (jF 1 y).toNat (dG 1 y)).1=out:=⟨_,rfl⟩;obtain⟨z,hz⟩:∃z,(many (dG 16) vA (jF 1 y).toNat (dG 1 y)).2=z:=⟨_,rfl⟩;rw[ho,hz] at fin⊢;rw[ho] at FT;refine tt ?_;refine ny (b:=b) fun qM _=>?_;refine yd (r:=r2) (cs:=eu (Hs op) s0) (o:=4) (v:=.l b out.length c) (by rw[MI];decide) rfl ?_;exact fin _ _ (Sep.own b out.length c 2 (out.flatMap nm)) ⟨none,0,none,0,b,c⟩ rfl (fun _=>⟨oz.nil,oz.nil,oz.own (fun _=>rfl) rfl,adG _,adG _,qM⟩) (by show 0<_;decide) (by show 0<_;decide)
end
def Ib{n:Int}{i:Nat}(hi:i<8):Go.Sep.byteOf adx n i=Go.Sep.byteOf adx (n+18446744073709551616) i:=by
 unfold Go.Sep.byteOf shr;have h1:(8* (i:Int)).toNat=8* i:=by omega
 have h2:min (8* i) adx.bits=8* i:=by show min (8* i) 64=_;omega
 rw[h1,h2];have hp:(0:Int)<2^(8* i):=Int.pow_pos (by decide);rw[Int.fdiv_eq_ediv_of_nonneg _ (Int.le_of_lt hp),Int.fdiv_eq_ediv_of_nonneg _ (Int.le_of_lt hp)];have hq:(18446744073709551616:Int)=256* 2^(56-8* i)* 2^(8* i):=by
  have:(256:Int)* 2^(56-8* i)* 2^(8* i)=2^(8+(56-8* i)+8* i):=by
   rw[Int.pow_add,Int.pow_add];rfl
  rw[this,show 8+(56-8* i)+8* i=64 by omega];rfl
 rw[hq,Int.add_mul_ediv_right _ _ (by omega)]
 congr 2
 generalize n/2^(8* i)=a;generalize (2:Int)^(56-8* i)=c;simp only[IntKind.wrap,IntKind.bits,IntKind.signed];simp
def Kr{n:Int}(h:qZ n):kH (le .i64 8 n)=n:=by
 unfold qZ at h;by_cases h0:0≤n
 ·obtain⟨m,rfl⟩:=adL h0;unfold kH;rw[oe m 8 (by omega)];have h8:(256:Nat)^8=18446744073709551616:=rfl;rw[h8,aej (by omega),ah (by omega)]
 ·obtain⟨m,hm⟩:=adL (show 0≤n+18446744073709551616 by omega);have e:le .i64 8 n=le .i64 8 (m:Int):=by
   unfold le;apply aeR;intro i hi;rw[List.mem_range] at hi;rw[Ib hi,hm]
  rw[e];unfold kH;rw[oe m 8 (by omega)];have h8:(256:Nat)^8=18446744073709551616:=rfl;rw[h8,aej (by omega)];simp[IntKind.wrap,IntKind.bits,IntKind.signed];split<;>omega
def zR(n:Nat):∀w:Nat,kQ ((ae7 w).map fun i=>UInt8.ofNat (n/256^i%256))=n%256^w
 |0=>by simp[kQ,Nat.mod_one]
 |w+1=>by
  rw[List.range_succ,ad8,zS,zR n w,ad1,List.length_range,Nat.mod_pow_succ]
  congr 2
  have e:(UInt8.ofNat (n/256^w%256)).toNat=n/256^w%256:=UInt8.toNat_ofNat_of_lt' (Nat.mod_lt _ (by decide));show(UInt8.ofNat (n/256^w%256)).toNat+256* 0=_;rw[e];omega
def Ph{n:Nat}(h:n<aO):kQ (nb n)=n:=by
 unfold nb;rw[zR];exact aej (by unfold aO at h;exact h)
section
variable {r:List UInt8} {n:Int} {m:Nat}
def Fa(l:List UInt8)(k:Nat)(hl:l.length=k):dG k (l++r,false)=(r,false):=by
 unfold dG;rw[if_neg (by simp only[ad0,false_or,adD];omega),qo _ _ k hl]
def IY(l:List UInt8)(k:Nat)(hl:l.length=k):jF k (l++r,false)=kH l:=by
 unfold jF;rw[if_neg (by simp only[ad0,false_or,adD];omega),pk _ _ k hl]
def Wj(h:0≤n∧n≤255):jF 1 (le .i64 1 n++r,false)=n:=by
 obtain⟨k,rfl⟩:=adL h.1;rw[IY _ _ (aB _ _ _),kX (by rw[aB];omega),oe k 1 (by omega)];have:(256:Nat)^1=256:=rfl;rw[this,aej (by omega)]
def Vq(h:0≤n∧n≤65535):jF 2 (le .i64 2 n++r,false)=n:=by
 obtain⟨k,rfl⟩:=adL h.1;rw[IY _ _ (aB _ _ _),kX (by rw[aB];omega),oe k 2 (by omega)];have:(256:Nat)^2=65536:=rfl;rw[this,aej (by omega)]
def ZM(h:0≤n∧n≤4294967295):jF 4 (le .i64 4 n++r,false)=n:=by
 obtain⟨k,rfl⟩:=adL h.1;rw[IY _ _ (aB _ _ _),kX (by rw[aB];omega),oe k 4 (by omega)];have:(256:Nat)^4=4294967296:=rfl;rw[this,aej (by omega)]
def Vp(h:qZ n):jF 8 (le .i64 8 n++r,false)=n:=by
 rw[IY _ _ (aB _ _ _),Kr h]
def OM(h:m<aO):vA (nb m++r,false)=m:=by
 unfold vA Kq;rw[if_neg (by simp),if_neg (by show ¬(nb m++r).length<16;rw[adD,ra];omega)];show kQ ((nb m++r).take 16)=m;rw[pk _ _ 16 (ra m),Ph h]
def Wq:dG 1 (le .i64 1 n++r,false)=(r,false):=Fa _ _ (aB _ _ _)
def Vr:dG 2 (le .i64 2 n++r,false)=(r,false):=Fa _ _ (aB _ _ _)
def YQ:dG 4 (le .i64 4 n++r,false)=(r,false):=Fa _ _ (aB _ _ _)
def Tx:dG 8 (le .i64 8 n++r,false)=(r,false):=Fa _ _ (aB _ _ _)
def P7:dG 16 (nb m++r,false)=(r,false):=Fa _ _ (ra _)
def AI(a:aS):B0 (jv a++r,false)=(r,false):=by
 have e:jv a++r=nb a.id++(nb a.dp++(nb a.dq++(nb a.cp++(nb a.cq++(le .i64 4 a.aJ++(le .i64 2 a.code++(le .i64 2 a.flags++(le .i64 8 a.af++r)))))))):=by
  unfold jv;simp[adI]
 rw[e];unfold B0;simp only[uP,P7,YQ,Vr,Tx]
def Fq{a:aS}(ha:vy a)(hg:m9 a):DL (jv a++r,false)=a:=by
 unfold DL;rw[AI,if_neg (by simp)];have e:jv a++r=nb a.id++(nb a.dp++(nb a.dq++(nb a.cp++(nb a.cq++(le .i64 4 a.aJ++(le .i64 2 a.code++(le .i64 2 a.flags++(le .i64 8 a.af++r)))))))):=by
  unfold jv;simp[adI]
 rw[e];simp only[uP,P7,YQ,Vr,Tx];rw[OM ha.id,OM ha.dp,OM ha.dq,OM ha.cp,OM ha.cq,ZM hg.1,Vq hg.2.1,Vq hg.2.2,Vp ha.af]
def Fw(t:Move):nj t++r=nb t.id++(nb t.aH++(nb t.ar++(nb t.aC++(nb t.pending++(le .i64 4 t.timeout++(le .i64 4 t.aJ++(le .i64 2 t.code++(le .i64 2 t.flags++(le .i64 8 t.af++(le .i64 8 t.born++r)))))))))):=by
 unfold nj;simp[adI]
def wh(t:Move):BZ (nj t++r,false)=(r,false):=by
 rw[Fw];unfold BZ;simp only[uP,P7,YQ,Vr,Tx]
def AJ{t:Move}(ht:uY t)(hg:kN t):DK (nj t++r,false)=t:=by
 unfold DK;rw[wh,if_neg (by simp),Fw];simp only[uP,P7,YQ,Vr,Tx];rw[OM ht.id,OM ht.aH,OM ht.ar,OM ht.aC,OM ht.pending,ZM hg.1,ZM hg.2.1,Vq hg.2.2.1,Vq hg.2.2.2,Vp ht.af,Vp ht.born]
def AO{α:Type}{nx:RS→RS}{nv:RS→α}{g:α→List UInt8}:∀(l:List α),(∀x∈l,∀r,nx (g x++r,false)=(r,false)∧nv (g x++r,false)=x)→∀r,many nx nv l.length (l.flatMap g++r,false)=(l,(r,false))
 |[],_,r=>rfl
 |x::l,h,r=>by
  rw[adW,oP,aeo,adI,(h x (by simp) _).1,(h x (by simp) _).2,AO l (fun y hy=>h y (by simp[hy])) r]
  rfl
end
def canon(q:jG):jG:=if q.op=1 then{q0 with op:=1,ag:=q.ag} else if q.op=2 then{q0 with op:=2,aW:=q.aW} else{q0 with op:=3,now:=q.now}
def Cw{q:jG}(hw:iA q=true)(he:eX q=true)(hA:∀a∈q.ag,vy a)(hT:∀t∈q.aW,uY t):vX (cr q)=(canon q,([],false)):=by
 have T2:q.op=1∨q.op=2∨q.op=3:=of_decide_eq_true he;have hf:=nQ hw;unfold vX cr canon;dsimp only;rw[Wj (by omega),Wq];by_cases o1:q.op=1
 ·have zv:q.ag.length≤8∧∀a∈q.ag,m9 a:=by rcases hf with h|h|h|h|h<;>first|exact h.2|omega
  rw[if_pos o1,if_pos o1,if_pos o1,Wj (by omega),Wq,adB];have:=AO (nx:=B0) (nv:=DL) (g:=jv) q.ag (fun a ha r=>⟨AI a,Fq (hA a ha) (zv.2 a ha)⟩) [];rw[adV] at this;rw[this]
 by_cases o2:q.op=2
 ·have zv:q.aW.length≤8∧∀a∈q.aW,kN a:=by rcases hf with h|h|h|h|h<;>first|exact h.2|omega
  rw[if_neg o1,if_neg o1,if_neg o1,if_pos o2,if_pos o2,if_pos o2,Wj (by omega),Wq,adB];have:=AO (nx:=BZ) (nv:=DK) (g:=nj) q.aW (fun a ha r=>⟨wh a,AJ (hT a ha) (zv.2 a ha)⟩) [];rw[adV] at this;rw[this]
 ·have o3:q.op=3:=by omega
  have zv:0≤q.now∧q.now≤1099511627776:=by rcases hf with h|h|h|h|h<;>first|exact h.2|omega
  rw[if_neg o1,if_neg o1,if_neg o1,if_neg o2,if_neg o2,if_neg o2,if_pos o3,if_pos o3];have e8:le .i64 8 q.now=le .i64 8 q.now++[]:=(adV _).symm;rw[e8,Vp (by unfold qZ;omega),Tx]
def Bn(m:Model){q:jG}(he:eX q=true):aK m (canon q)=aK m q∧km (canon q)=km q:=by
 have T2:q.op=1∨q.op=2∨q.op=3:=of_decide_eq_true he;unfold canon;by_cases o1:q.op=1
 ·rw[if_pos o1];unfold aK km;simp[o1]
 by_cases o2:q.op=2
 ·rw[if_neg o1,if_pos o2];unfold aK km;simp[o2]
 ·have o3:q.op=3:=by omega
  rw[if_neg o1,if_neg o2];unfold aK km;simp[o3]
def Bo{q:jG}(hw:iA q=true)(he:eX q=true):iA (canon q)=true∧eX (canon q)=true:=by
 have T2:q.op=1∨q.op=2∨q.op=3:=of_decide_eq_true he;unfold iA lV mA at *;rw[(Bn ⟨[],[],0,0⟩ he).2];unfold eX canon;by_cases o1:q.op=1
 ·simp[o1] at hw⊢;exact hw
 by_cases o2:q.op=2
 ·simp[o2] at hw⊢;exact hw
 ·have o3:q.op=3:=by omega
  simp[o3] at hw⊢;exact hw
def E'{q:jG}(hw:iA q=true)(he:eX q=true)(hA:∀a∈q.ag,vy a)(hT:∀t∈q.aW,uY t):An (cr q)=true:=by
 unfold An;rw[Cw hw he hA hT,(Bo hw he).1];rfl
section
variable {W:World} {L R:LH} {K:VK} {X:WK} {p:Nat} {b:ax}
def Ld{q:Core}{f:Core→LH}[i:Lc (eY p) L q f](hl:q.vs.length<1000000)(h:T W (f {q with vs:=[]}) (K (.tuple ⟨[]⟩))):T W L (gZ (some ⟨p,0,none⟩) K):=by
 refine ng (p:=p) fun b1 c1 b2 c2 b3 c3 hp R2 g1 g2 Nt=>?_;unfold gZ gX
 repeat' first|apply ww|apply wm;intro _|apply wb
 refine ny (b:=b1) fun qM CV=>?_;refine Mm (b:=b1) (by rw[lu,CV];simp) (fun v hv=>?_) fun zs=>?_
 ·simp only[Builtin.zeroCells,Array.toList_map,aek] at hv;obtain⟨j,_,rfl⟩:=hv;have:(⟨[Value.nilFunc]⟩:Array Value)[j%(⟨[Value.nilFunc]⟩:Array Value).size]! =.nilFunc:=by
   have:j%(⟨[Value.nilFunc]⟩:Array Value).size=0:=Nat.mod_one j;rw[this];rfl
  rw[this];rfl
 repeat' first|apply ww|apply wm;intro _|apply wb
 refine u3 (i:=0) (by omega) ?_;refine xd (b:=b1) (i:=0) (by omega) ?_
 repeat' first|apply ww|apply wm;intro _|apply wb
 rw[Nat.zero_mul,ae0];exact Nt [] {q with vs:=[]} b1 c1 b2 c2 b3 c3 hp _ g1 g2 h
def EV{α:Type}{g:α→LV}{e l:Nat}(h:T W (oH g e l (p,[])::L) X):T W (Sep.pt l [.l none 0 0,.p (some (ad p 0))]::L) X:=fun w hw=>by
 have h2:=(hw.push (A:=own none 0 0 e []) (o5 e)).perm (ad2.swap _ _ _);exact h w (St.ow (none,0) (St.nH [_,_] L h2))
def N5(h:∀p la lk ti tn,T W (eY p ⟨la,lk,ti,tn,[],[],[],0,0⟩::oH ak 14 la (p,[])::oH aM 33 lk (p,[])::me ti (fun _=>none,0)::me tn (fun _=>none,0)::L) (K (.p (some ⟨p,0,none⟩)))):T W L (m8 K):=by
 unfold m8;refine SA fun ti=>?_;refine u1 ?_;refine SA fun tn=>?_;refine u1 ?_;refine c9 ⟨rfl,rfl,trivial⟩ ?_;refine qD fun r=>?_;unfold iL jU;refine u2 ?_;refine c9 ⟨rfl,trivial⟩ ?_;refine qD fun la=>?_;refine u1 ?_;refine c9 ⟨rfl,trivial⟩ ?_;refine qD fun lk=>?_;refine u1 ?_;refine yd (r:=r) (cs:=[.l none 0 0,.p none,.p none,.p (some ⟨ti,0,none⟩),.p (some ⟨tn,0,none⟩),.l none 0 0,.l none 0 0,.i 0,.i 0]) (o:=1) (v:=.p (some ⟨la,0,none⟩)) (by show 1<9;decide) rfl ?_;refine yd (r:=r) (cs:=[.l none 0 0,.p (some ⟨la,0,none⟩),.p none,.p (some ⟨ti,0,none⟩),.p (some ⟨tn,0,none⟩),.l none 0 0,.l none 0 0,.i 0,.i 0]) (o:=2) (v:=.p (some ⟨lk,0,none⟩)) (by show 2<9;decide) rfl ?_;refine EV (g:=aM) (e:=33) ?_;refine T.Hj (EV (g:=ak) (e:=14) ?_);refine gB (e:=4) (gB (e:=2) (gB (e:=1) ?_));have:=vp (W:=W) (p:=r) (q:=⟨la,lk,ti,tn,[],[],[],0,0⟩) (b1:=none) (c1:=0) (b2:=none) (c2:=0) (b3:=none) (c3:=0) (h:=[]) (X:=K (.p (some ⟨r,0,none⟩))) (fun j hj x y hx=>by simp at hx) (ad2.refl _) (h r la lk ti tn);refine T.perm this ?_;exact(adJ (l₁:=[_,_,_,_,_]) (l₂:=[_])|>.append_right (_::_::L)).trans (ad2.append_left [_,_,_,_,_,_] (ad2.swap _ _ _))
def CR{α:Type}{key:α→Nat}{l:List α}(hn:(l.map key).Nodup){i:Nat}{x:α}(hx:l[i]?=some x):(l.take i).find? (fun a=>key a=key x)=none:=by
 obtain⟨hi,rfl⟩:=adC.1 hx;rw[aeW];intro a ha hk;obtain⟨j,hj,rfl⟩:=List.getElem_of_mem ha;rw[adF] at hj;rw[List.getElem_take] at hk;have:=aeG.1 hn j i (by simpa using by omega) (by simpa using hi) (by omega);simp only[List.getElem_map] at this;exact this (by simpa using hk)
def BQ(l:List Kept)(j:Nat):da 0 (l.take j)=(da 0 l).take j:=by
 apply aeV;intro i;rw[jK,ae1,ae1,jK];split<;>rfl
def Vc(hg:Good b){sa sk:OA}{ca ck:Nat}[hh:Has R L](hA:oz W R ak 14 sa b.ag)(hK:oz W R aM 33 sk b.kept)
 (h:∀p,T W (bn p (b,[])::L) (K (.tuple ⟨[.p (some ⟨p,0,none⟩),.i 0]⟩))):T W L (b9 sa b.ag.length ca sk b.kept.length ck b.clock b.af K):=by
 have mC:=hg.mC;have many:=hg.many;have qz:=hg.af;have Xt:=hg.clock;unfold b9;refine N5 fun p la lk ti tn=>?_;refine u1 ?_;refine fx (by simp;omega) ?_;unfold b9.j3;rw[show decide (((b.kept.length:Nat):Int)>96)=false by simp;omega,cA];unfold b9.j4;rw[show decide (b.clock<0)=false by simp;omega,cA];unfold b9.j5;rw[show decide (b.clock>1099511627776)=false by simp;omega,cA];refine fx (by simp;omega) ?_;rw[show decide (b.af>1099511627776)=false by simp;omega];unfold b9.j1;rw[cA];intro w LC;refine⟨fun vv w=>∃(i:Nat)(vs:LV),i≤b.ag.length∧vs.length=i∧vv=[.p none,.i 0,.p (some ⟨p,0,none⟩),.l sa b.ag.length ca,.i (b.ag.length:Int),.i (i:Int)]∧
                                                                                                                                                                        St W w (eY p ⟨la,lk,ti,tn,vs,[],[],0,0⟩::oH ak 14 la (p,b.ag.take i)::oH aM 33 lk (p,[])::me ti (DQ (b.ag.take i))::me tn (fun _=>none,0)::L),
  fun vs _=>match vs with|[_,_,_,_,_,.int _ d]=>b.ag.length-d.toNat|_=>0,⟨0,[],adK _,rfl,rfl,LC⟩,?_⟩
 rintro p2 n3 p3 rA pL rz n4 n5 w2 ⟨i,vs,hi,hvs,e,gN⟩;cases e
 refine T.at ?_ gN;have e5:adx.wrap ((i:Int)+1)=((i+1:Nat):Int):=by rw[ah (by omega)];omega
 refine az (fun g1=>?_) (fun g1=>?_)
 ·have a8:i<b.ag.length:=by have:=of_decide_eq_true g1;omega
  have gx:=adA a8;generalize b.ag[i]=x at gx;have KQ:=CR (key:=fun x:aS=>x.id) hg.ids gx;have lK:(DQ (b.ag.take i)).1 x.id=none:=by show afd _ _=_;rw[nr (key:=fun x:aS=>x.id) KQ];rfl
  have y4:(b.ag.take i).length=i:=by rw[adF];omega
  have hsn:=wy (key:=fun x:aS=>x.id) KQ;have oQ:b.ag.take (i+1)=b.ag.take i++[x]:=by rw[adT,gx];rfl
  refine kV hA ⟨by omega,by omega⟩ rfl fun a ha=>?_;rw[adB];refine kT hA ha gx rfl ?_
  repeat' first|apply ww|apply wm;intro _|apply wb
  refine yO (t:=ti) (x:=DQ (b.ag.take i)) ?_;rw[lK];simp only[aeg,aes]
  repeat' first|apply ww|apply wm;intro _|apply wb
  refine OL (p:=p) (l:=la) (x:=x) (items:=b.ag.take i) (by rw[y4];omega) (by show vs.length<_;omega) fun r3 r4=>?_
  repeat' first|apply ww|apply wm;intro _|apply wb
  refine JT (t:=ti) (x:=DQ (b.ag.take i)) (by show(b.ag.take i).length≤1000;omega) lK ?_
  repeat' first|apply ww|apply wm;intro _|apply wb
  rw[e5];refine T.drop (T.drop (T.drop ?_));refine fun w3 h3=>⟨⟨i+1,vs++[wO r3 r4],a8,by simp;omega,rfl,?_⟩,by show b.ag.length-((i+1:Nat):Int).toNat<b.ag.length-(i:Int).toNat;omega⟩;rw[oQ];rw[show DQ (b.ag.take i++[x])=_ from hsn];exact h3
 ·have iM:i=b.ag.length:=by have:=of_decide_eq_false g1;omega
  subst iM;rw[adN];intro w3 WL;refine⟨fun vv w=>∃(j:Nat)(vs:LV),j≤b.kept.length∧vs.length≤1000+j∧vv=[.p none,.i 0,.p (some ⟨p,0,none⟩),.l sk b.kept.length ck,.i (b.kept.length:Int),.i (j:Int)]∧
              St W w (eY p ⟨la,lk,ti,tn,vs,da 0 (b.kept.take j),(b.kept.take j).filterMap dN,0,0⟩::oH ak 14 la (p,b.ag)::oH aM 33 lk (p,b.kept.take j)::me ti (DQ b.ag)::me tn (BL (b.kept.take j))::L),
   fun vs _=>match vs with|[_,_,_,_,_,.int _ d]=>b.kept.length-d.toNat|_=>0,⟨0,vs,adK _,by omega,rfl,WL⟩,?_⟩
  rintro p7 n8 p8 yV yg yU n9 ZO w5 ⟨j,tq,hj,Z8,e,Jo⟩;cases e
  refine T.at ?_ Jo;have e6:adx.wrap ((j:Int)+1)=((j+1:Nat):Int):=by rw[ah (by omega)];omega
  refine az (fun g1=>?_) (fun g1=>?_)
  ·have a8:j<b.kept.length:=by have:=of_decide_eq_true g1;omega
   have gx:=adA a8;have gk:=hg.LB _ (adZ a8);have FV:∀k∈b.kept.take j,k.move.af<(b.kept[j]'a8).move.af:=fun k hk=>by
    obtain⟨m,hm,rfl⟩:=List.getElem_of_mem hk;rw[adF] at hm;rw[List.getElem_take];exact aeG.1 hg.rising m j (by omega) a8 (by omega)
   generalize b.kept[j]=x at gx gk FV;have KQ:=CR (key:=fun x:Kept=>x.move.id) hg.names gx;have lK:(BL (b.kept.take j)).1 x.move.id=none:=by show afd _ _=_;rw[nr (key:=fun x:Kept=>x.move.id) KQ];rfl
   have y4:(b.kept.take j).length=j:=by rw[adF];omega
   have hsn:=wy (key:=fun x:Kept=>x.move.id) KQ;have oQ:b.kept.take (j+1)=b.kept.take j++[x]:=by rw[adT,gx];rfl
   have WV:oY (da 0 (b.kept.take j)):=by rw[BQ];exact List.Pairwise.sublist (List.take_sublist _ _) hg.tD
   refine kV hK ⟨by omega,by omega⟩ rfl fun a ha=>?_;rw[adB];refine kT hK ha gx rfl ?_
   repeat' first|apply ww|apply wm;intro _|apply wb
   rename_i r2;refine yO (t:=tn) (x:=BL (b.kept.take j)) ?_;rw[lK];simp only[aeg,aes]
   repeat' first|apply ww|apply wm;intro _|apply wb
   refine fx (by have:=gk.fate;simp;omega) ?_
   repeat' first|apply ww|apply wm;intro _|apply wb
   refine fx (by have:=gk.fate;simp;omega) ?_
   repeat' first|apply ww|apply wm;intro _|apply wb
   refine Ip (l:=lk) ?_;rw[y4]
   repeat' first|apply ww|apply wm;intro _|apply wb
   refine JD (p:=p) WV (by rw[jJ];omega) (fun y hy=>?_) ?_
   ·obtain⟨k,hk,e⟩:=vO hy;rw[e];exact FV k hk
   repeat' first|apply ww|apply wm;intro _|apply wb
   unfold b9.j2;rw[Bool.not_true,cA]
   repeat' first|apply ww|apply wm;intro _|apply wb
   refine OD (p:=p) (l:=lk) (x:=x) (items:=b.kept.take j) (by rw[y4];omega) (by show tq.length<_;omega) fun r3 r4=>?_;rw[y4]
   repeat' first|apply ww|apply wm;intro _|apply wb
   refine JT (t:=tn) (x:=BL (b.kept.take j)) (by show(b.kept.take j).length≤1000;omega) lK ?_
   repeat' first|apply ww|apply wm;intro _|apply wb
   refine NQ (k:=x) gk ?_
   repeat' first|apply ww|apply wm;intro _|apply wb
   rename_i r5;rw[e6];have B2:da 0 (b.kept.take (j+1))=da 0 (b.kept.take j)++[(x.move.af,(j:Int))]:=by rw[oQ,q9,y4,adE]
   have Xh:BL (b.kept.take (j+1))=(rZ (BL (b.kept.take j)).1 x.move.id (some (j:Int)),(BL (b.kept.take j)).2+1):=by rw[oQ];rw[show BL (b.kept.take j++[x])=_ from hsn,y4]
   cases hd:dN x with
   |none=>
    simp only[aeg]
    repeat' first|apply ww|apply wm;intro _|apply wb
    refine T.drop (T.drop (T.drop (T.drop ?_)));refine fun w3 h3=>⟨⟨j+1,tq++[qU r3 r4],a8,by simp;omega,rfl,?_⟩,by show b.kept.length-((j+1:Nat):Int).toNat<b.kept.length-(j:Int).toNat;omega⟩;have KR:(b.kept.take (j+1)).filterMap dN=(b.kept.take j).filterMap dN:=by rw[oQ,List.filterMap_append];simp[hd]
    rw[B2,Xh,KR,oQ];exact h3
   |some y=>
    have ey:HZ x=y:=by
     unfold dN at hd;split at hd
     ·cases hd;rfl
     ·cases hd
    simp only[ad9];rw[ey]
    repeat' first|apply ww|apply wm;intro _|apply wb
    simp only[ft,adE];refine Ee (p:=p) (e':=(b.kept.take j).filterMap dN++[y]) (by
     have:=List.length_filterMap_le dN (b.kept.take j)
     show((b.kept.take j).filterMap dN).length<_
     omega) (ad2.refl _) ?_
    repeat' first|apply ww|apply wm;intro _|apply wb
    refine T.drop (T.drop (T.drop (T.drop ?_)));refine fun w3 h3=>⟨⟨j+1,tq++[qU r3 r4],a8,by simp;omega,rfl,?_⟩,by show b.kept.length-((j+1:Nat):Int).toNat<b.kept.length-(j:Int).toNat;omega⟩;have KR:(b.kept.take (j+1)).filterMap dN=(b.kept.take j).filterMap dN++[y]:=by rw[oQ,List.filterMap_append];simp[hd]
    rw[B2,Xh,KR,oQ];exact h3
  ·have iM:j=b.kept.length:=by have:=of_decide_eq_false g1;omega
   subst iM;rw[adN]
   repeat' first|apply ww|apply wm;intro _|apply wb
   refine G9 (p:=p) ?_
   repeat' first|apply ww|apply wm;intro _|apply wb
   refine G8 (p:=p) ?_
   repeat' first|apply ww|apply wm;intro _|apply wb
   refine Ld (p:=p) (by show tq.length<_;omega) ?_
   repeat' first|apply ww|apply wm;intro _|apply wb
   have fin:=h p;intro w7 Z6;have h2:=Z6.push (A:=rq []) trivial;refine zF (p:=p) (la:=la) (lk:=lk) (ti:=ti) (tn:=tn) (vs:=[]) (bx:=[]) (c:=dz b) (hs:=[]) (R:=L) trivial (fun w hw=>fin w (St.and_intro hg hw)) w7 ?_;exact h2.perm (adJ (l₁:=[rq []]) (l₂:=[_,_,_,_,_])|>.append_right L)
end
def mE(k:Kept):List UInt8:=nj k.asked++nj k.move++le .i64 1 k.fate
def rJ(k:Kept):(mE k).length=217:=by unfold mE;rw[adD,adD,oO,oO,aB]
def uS(b:ax):List UInt8:=le .i64 1 1++le .i64 8 b.clock++le .i64 8 b.af++le .i64 2 (b.ag.length:Int)++le .i64 2 (b.kept.length:Int)
def CY(b:ax):(uS b).length=21:=by simp only[uS,adD,aB]
def bm(b:ax):List UInt8:=uS b++b.ag.flatMap jv++b.kept.flatMap mE
section
variable {W:World} {L R:LH} {K:VK} {X:WK} {p:Nat} {b:ax} {hs:List C} {f:ax×List C→LH}
def Ex[i:Lc (bn p) L (b,hs) f](h:T W L (K (.i b.clock))):T W L (fQ (some ⟨p,0,none⟩) K):=by
 have hL:f (b,hs)=L:=i.same;refine GP (p:=p) fun la lk ti tn vs bx R hg hc mF=>?_;have fin:=mF [] b hs vs bx _ hg hc (by rw[hL];exact h);unfold fQ
 repeat' first|apply ww|apply wm;intro _|apply wb
 exact fin
def JO[i:Lc (bn p) L (b,hs) f](h:T W L (K (.i b.af))):T W L (gV (some ⟨p,0,none⟩) K):=by
 have hL:f (b,hs)=L:=i.same;refine GP (p:=p) fun la lk ti tn vs bx R hg hc mF=>?_;have fin:=mF [] b hs vs bx _ hg hc (by rw[hL];exact h);unfold gV
 repeat' first|apply ww|apply wm;intro _|apply wb
 exact fin
def vx[i:Lc (bn p) L (b,hs) f](h:∀bb c,T W (own bb b.ag.length c 14 (b.ag.flatMap ak)::L) (K (.l bb b.ag.length c))):T W L (dR (some ⟨p,0,none⟩) K):=by
 have hL:f (b,hs)=L:=i.same;refine GP (p:=p) fun la lk ti tn vs bx R hg hc mF=>?_;have mC:=hg.mC;unfold dR
 repeat' first|apply ww|apply wm;intro _|apply wb
 refine Vk (l:=la) (by show b.ag.length<_;omega) fun bb c=>?_
 repeat' first|apply ww|apply wm;intro _|apply wb
 exact mF [_] b hs vs bx _ hg hc (by rw[hL];exact h bb c)
def Es[i:Lc (bn p) L (b,hs) f](h:∀bb c,T W (own bb b.kept.length c 33 (b.kept.flatMap aM)::L) (K (.l bb b.kept.length c))):T W L (fP (some ⟨p,0,none⟩) K):=by
 have hL:f (b,hs)=L:=i.same;refine GP (p:=p) fun la lk ti tn vs bx R hg hc mF=>?_;have many:=hg.many;unfold fP
 repeat' first|apply ww|apply wm;intro _|apply wb
 refine Ve (l:=lk) (by show b.kept.length<_;omega) fun bb c=>?_
 repeat' first|apply ww|apply wm;intro _|apply wb
 exact mF [_] b hs vs bx _ hg hc (by rw[hL];exact h bb c)
def Cn[i:Lc (bn p) L (b,hs) f](h:T W L (K (.string (bs (bm b))))):T W L (lJ (some ⟨p,0,none⟩) K):=by
 refine nd (p:=p) fun hg=>?_;have mC:=hg.mC;have many:=hg.many;unfold lJ;refine Mn ?_;refine qD fun r1=>?_;refine Mo ?_;refine pS (by simp) (yR ?_);refine Ex (p:=p) (na ?_);refine uy (by simp only[adD,ad6,aB];omega) (yR ?_);refine JO (p:=p) (na ?_);refine uy (by simp only[adD,ad6,aB];omega) (yR ?_);refine vx (p:=p) fun b1 c1=>?_;refine tt ?_;refine zG (by simp only[adD,ad6,aB];omega) (yR ?_);refine Es (p:=p) fun b2 c2=>?_;refine tt ?_;refine zG (by simp only[adD,ad6,aB];omega) (yR ?_);refine vx (p:=p) fun b3 c3=>?_;refine tt ?_;have e0:[]++le .i64 1 1++le .i64 8 b.clock++le .i64 8 b.af++le .i64 2 (b.ag.length:Int)++le .i64 2 (b.kept.length:Int)=uS b:=by unfold uS;simp
 rw[e0];intro w LC;refine⟨fun vv w=>∃i:Nat,i≤b.ag.length∧vv=[.string .empty,.p (some (ad r1 0)),.l b3 b.ag.length c3,.i (b.ag.length:Int),.i (i:Int)]∧
    St W w (own b3 b.ag.length c3 14 (b.ag.flatMap ak)::own b2 b.kept.length c2 33 (b.kept.flatMap aM)::own b1 b.ag.length c1 14 (b.ag.flatMap ak)::buf r1 (uS b++(b.ag.take i).flatMap jv)::L),
  fun vs _=>match vs with|[_,_,_,_,.int _ d]=>b.ag.length-d.toNat|_=>0,⟨0,adK _,rfl,by simpa using LC⟩,?_⟩
 rintro s1 a1 yV yg yU n3 n4 w2 ⟨i,hi,e,gN⟩;cases e
 refine T.at ?_ gN;have e5:adx.wrap ((i:Int)+1)=((i+1:Nat):Int):=by rw[ah (by omega)];omega
 have hlen:(uS b++(b.ag.take i).flatMap jv).length≤21+32* 96:=by
  rw[adD,CY,fb oX,adF];have:min i b.ag.length* 96≤32* 96:=aem _ (by omega);omega
 refine az (fun g1=>?_) (fun g1=>?_)
 ·have a8:i<b.ag.length:=by have:=of_decide_eq_true g1;omega
  have gx:=adA a8;have gm:=(hg.LW _ (adZ a8)).vl;generalize b.ag[i]=x at gx gm;refine bV (b:=b3) ⟨by omega,by omega⟩ fun rb hb=>?_;subst hb;rw[adB];refine dV (fun _=>rfl) gx ?_
  repeat' first|apply ww|apply wm;intro _|apply wb|with_reducible refine Od gm (by omega) ?_|fail
  rw[e5];refine T.drop fun w3 h3=>⟨⟨i+1,a8,rfl,?_⟩,by show b.ag.length-((i+1:Nat):Int).toNat<b.ag.length-(i:Int).toNat;omega⟩;rw[adT,gx,aex];simpa [adI] using h3
 ·have iM:i=b.ag.length:=by have:=of_decide_eq_false g1;omega
  subst iM;rw[adN] at hlen⊢;refine Es (p:=p) fun b5 c5=>?_;refine tt ?_;intro w4 Z7;refine⟨fun vv w=>∃j:Nat,j≤b.kept.length∧vv=[.string .empty,.p (some (ad r1 0)),.l b5 b.kept.length c5,.i (b.kept.length:Int),.i (j:Int)]∧
              St W w (own b5 b.kept.length c5 33 (b.kept.flatMap aM)::own b3 b.ag.length c3 14 (b.ag.flatMap ak)::own b2 b.kept.length c2 33 (b.kept.flatMap aM)::own b1 b.ag.length c1 14 (b.ag.flatMap ak)::buf r1 (uS b++b.ag.flatMap jv++(b.kept.take j).flatMap mE)::L),
   fun vs _=>match vs with|[_,_,_,_,.int _ d]=>b.kept.length-d.toNat|_=>0,⟨0,adK _,rfl,by simpa using Z7⟩,?_⟩
  rintro s2 a3 ZF Zy Wg n5 n6 w5 ⟨j,hj,e,Jo⟩;cases e
  refine T.at ?_ Jo;have e6:adx.wrap ((j:Int)+1)=((j+1:Nat):Int):=by rw[ah (by omega)];omega
  have tO:(uS b++b.ag.flatMap jv++(b.kept.take j).flatMap mE).length≤21+32* 96+96* 217:=by
   rw[adD,fb rJ,adF];have:min j b.kept.length* 217≤96* 217:=aem _ (by omega);omega
  refine az (fun g1=>?_) (fun g1=>?_)
  ·have a8:j<b.kept.length:=by have:=of_decide_eq_true g1;omega
   have gx:=adA a8;have gm:=hg.LB _ (adZ a8);generalize b.kept[j]=x at gx gm;refine bV (b:=b5) ⟨by omega,by omega⟩ fun rb hb=>?_;subst hb;rw[adB];refine dV (fun _=>rfl) gx ?_
   repeat' first|apply ww|apply wm;intro _|apply wb|with_reducible refine G' gm.Ij (by omega) ?_|fail
   refine G' gm.I9 (by rw[adD,oO];omega) (yR ?_)
   repeat' first|apply ww|apply wm;intro _|apply wb|with_reducible refine pS (by simp only[adD,oO] at tO⊢;omega) ?_|fail
   rw[e6];refine T.drop fun w3 h3=>⟨⟨j+1,a8,rfl,?_⟩,by show b.kept.length-((j+1:Nat):Int).toNat<b.kept.length-(j:Int).toNat;omega⟩;rw[adT,gx,aex];simpa [adI,mE] using h3
  ·have iM:j=b.kept.length:=by have:=of_decide_eq_false g1;omega
   subst iM;rw[adN];refine qc (p:=r1) (Pr ?_);exact T.dp h
end
section
variable {W:World} {L R:LH} {K:VK} {X:WK} {p:Nat} {b:ax}
def sh{b:ax}(hg:Good b):(bm b).length=21+b.ag.length* 96+b.kept.length* 217:=by
 unfold bm;rw[adD,adD,CY,fb oX,fb rJ]
def E1(hg:Good b)(h:∀p,T W (bn p (b,[])::L) (K (.tuple ⟨[.p (some ⟨p,0,none⟩),.i 0]⟩))):T W L (jB (bs (bm b)) K):=by
 have mC:=hg.mC;have many:=hg.many;have qz:=hg.af;have Xt:=hg.clock;have hlen:=sh hg;have sF:bm b=le .i64 1 1++(le .i64 8 b.clock++(le .i64 8 b.af++(le .i64 2 (b.ag.length:Int)++(le .i64 2 (b.kept.length:Int)++(b.ag.flatMap jv++b.kept.flatMap mE))))):=by
  unfold bm uS;simp only[adI]
 unfold jB;refine Ms fun r=>?_;refine u1 ?_;refine qY (by show(bm b).length<_;omega) (na ?_);rw[sF];rw[Wj (by omega),Wq];refine fx (by decide) ?_;have Qv:(le .i64 8 b.clock++(le .i64 8 b.af++(le .i64 2 (b.ag.length:Int)++(le .i64 2 (b.kept.length:Int)++(b.ag.flatMap jv++b.kept.flatMap mE))))).length<1099511627776:=by
  rw[sF,adD] at hlen;omega
 refine sS Qv (na ?_);rw[Vp (by unfold qZ;omega),Tx];rw[adD] at Qv;have OY:(le .i64 8 b.af++(le .i64 2 (b.ag.length:Int)++(le .i64 2 (b.kept.length:Int)++(b.ag.flatMap jv++b.kept.flatMap mE)))).length<1099511627776:=by omega
 refine sS OY (na ?_);rw[Vp (by unfold qZ;omega),Tx];rw[adD] at OY;have Y4:(le .i64 2 (b.ag.length:Int)++(le .i64 2 (b.kept.length:Int)++(b.ag.flatMap jv++b.kept.flatMap mE))).length<1099511627776:=by omega
 refine zH Y4 (na ?_);rw[Vq (by omega),Vr];rw[adD] at Y4;have hl5:(le .i64 2 (b.kept.length:Int)++(b.ag.flatMap jv++b.kept.flatMap mE)).length<1099511627776:=by omega
 refine zH hl5 (na ?_);rw[Vq (by omega),Vr];refine uz (r:=r) (qC ?_);rw[cA];refine Rr (r:=r) (na ?_);have AY:(b.ag.flatMap jv++b.kept.flatMap mE).length=b.ag.length* 96+b.kept.length* 217:=by
  rw[adD,fb oX,fb rJ]
 have e1:adx.wrap ((b.ag.length:Int)* 96)=(b.ag.length:Int)* 96:=ah (by omega);have e2:adx.wrap ((b.kept.length:Int)* 217)=(b.kept.length:Int)* 217:=ah (by omega);have e3:adx.wrap ((b.ag.length:Int)* 96+(b.kept.length:Int)* 217)=(b.ag.length:Int)* 96+(b.kept.length:Int)* 217:=ah (by omega);rw[e1,e2,e3];rw[if_neg (by simp),show((((b.ag.flatMap jv++b.kept.flatMap mE).length:Nat):Int)!=(b.ag.length:Int)* 96+(b.kept.length:Int)* 217)=false by rw[AY];simp];unfold jB.j1;rw[cA];refine gB (e:=14) ?_;intro w LC;refine⟨fun vv w=>∃(i:Nat)(bo:OA)(cc:Nat),i≤b.ag.length∧vv=[.p none,.i 0,.p (some ⟨r,0,none⟩),.i b.clock,.i b.af,.i (b.kept.length:Int),.l bo (b.ag.take i).length cc,.i (b.ag.length:Int),.i (i:Int)]∧
                                                                                                                                                                                                                                                                                                      St W w (own bo (b.ag.take i).length cc 14 ((b.ag.take i).flatMap ak)::rd r ((b.ag.drop i).flatMap jv++b.kept.flatMap mE,false)::L),
  fun vs _=>match vs with|[_,_,_,_,_,_,_,_,.int _ d]=>b.ag.length-d.toNat|_=>0,⟨0,none,0,adK _,rfl,LC⟩,?_⟩
 rintro p2 n6 p3 n7 n8 n9 bo Vm cc ZO Vu w2 ⟨i,b0,c0,hi,e,gN⟩;cases e
 refine T.at ?_ gN;have e5:adx.wrap ((i:Int)+1)=((i+1:Nat):Int):=by rw[ah (by omega)];omega
 have y4:(b.ag.take i).length=i:=by rw[adF];omega
 refine az (fun g1=>?_) (fun g1=>?_)
 ·have a8:i<b.ag.length:=by have:=of_decide_eq_true g1;omega
  have gm:=hg.LW _ (adZ a8);have gx:=adA a8;have Xp:b.ag.drop i=b.ag[i]::b.ag.drop (i+1):=aef a8;generalize b.ag[i]=x at gm gx Xp;have yt:(b.ag.drop i).flatMap jv++b.kept.flatMap mE=jv x++((b.ag.drop (i+1)).flatMap jv++b.kept.flatMap mE):=by rw[Xp,aeo,adI]
  have CV:((b.ag.drop i).flatMap jv++b.kept.flatMap mE).length<1099511627776:=by
   rw[adD,fb oX,fb rJ,adM];have:(b.ag.length-i)* 96≤32* 96:=aem _ (by omega);have:b.kept.length* 217≤96* 217:=aem _ (by omega);omega
  rw[yt] at CV⊢;refine Oe CV ?_;rw[AI,Fq gm.ok gm.vl]
  repeat' first|apply ww|apply wm;intro _|apply wb
  refine jm (b:=bo) (x:=x) rfl rfl rfl (by omega) (by omega) (gn _) fun b2 c2=>?_;rw[e5];have oQ:b.ag.take (i+1)=b.ag.take i++[x]:=by rw[adT,gx];rfl
  refine T.drop fun w3 h3=>⟨⟨i+1,b2,c2,a8,?_,?_⟩,by show b.ag.length-((i+1:Nat):Int).toNat<b.ag.length-(i:Int).toNat;omega⟩
  ·rw[oQ];simp
  ·rw[oQ];simpa using h3
 ·have iM:i=b.ag.length:=by have:=of_decide_eq_false g1;omega
  subst iM;rw[adN,List.drop_length,List.flatMap_nil,aed];refine gB (e:=33) ?_;intro w3 WL;refine⟨fun vv w=>∃(j:Nat)(bk:OA)(ck:Nat),j≤b.kept.length∧vv=[.p none,.i 0,.p (some ⟨r,0,none⟩),.i b.clock,.i b.af,.l bo b.ag.length cc,.l bk (b.kept.take j).length ck,.i (b.kept.length:Int),.i (j:Int)]∧
              St W w (own bk (b.kept.take j).length ck 33 ((b.kept.take j).flatMap aM)::own bo b.ag.length cc 14 (b.ag.flatMap ak)::rd r ((b.kept.drop j).flatMap mE,false)::L),
   fun vs _=>match vs with|[_,_,_,_,_,_,_,_,.int _ d]=>b.kept.length-d.toNat|_=>0,⟨0,none,0,adK _,rfl,WL⟩,?_⟩
  rintro p4 Vt p5 Vs n14 rA pL rz bk yg ck n15 uP w5 ⟨j,b1,c1,hj,e,Jo⟩;cases e
  refine T.at ?_ Jo;have e6:adx.wrap ((j:Int)+1)=((j+1:Nat):Int):=by rw[ah (by omega)];omega
  have adb:(b.kept.take j).length=j:=by rw[adF];omega
  refine az (fun g2=>?_) (fun g2=>?_)
  ·have a8:j<b.kept.length:=by have:=of_decide_eq_true g2;omega
   have gm:=hg.LB _ (adZ a8);have gx:=adA a8;have Xp:b.kept.drop j=b.kept[j]::b.kept.drop (j+1):=aef a8;generalize b.kept[j]=x at gm gx Xp;have yt:(b.kept.drop j).flatMap mE=nj x.asked++(nj x.move++(le .i64 1 x.fate++(b.kept.drop (j+1)).flatMap mE)):=by rw[Xp,aeo];simp[mE,adI]
   have CV:((b.kept.drop j).flatMap mE).length<1099511627776:=by
    rw[fb rJ,adM];have:(b.kept.length-j)* 217≤96* 217:=aem _ (by omega);omega
   rw[yt] at CV⊢;have W8:(nj x.move++(le .i64 1 x.fate++(b.kept.drop (j+1)).flatMap mE)).length<1099511627776:=by rw[adD] at CV;omega
   have aal:(le .i64 1 x.fate++(b.kept.drop (j+1)).flatMap mE).length<1099511627776:=by rw[adD] at W8;omega
   refine Ha CV ?_;rw[wh,AJ gm.asked gm.Ij]
   repeat' first|apply ww|apply wm;intro _|apply wb
   refine Ha W8 ?_;rw[wh,AJ gm.move gm.I9]
   repeat' first|apply ww|apply wm;intro _|apply wb
   refine qY aal (na ?_);rw[Wj (by have:=gm.fate;omega),Wq];refine c9 ⟨rfl,rfl,rfl,trivial⟩ ?_;refine c9 ⟨rfl,trivial⟩ ?_;refine qD fun r3=>?_;refine jm (b:=bk) (x:=x) (by show(ai x.asked++(ai x.move++[.i x.fate]))++[]=aM x;rw[adV];rfl) rfl rfl (by omega) (by omega) (j0 _) fun b2 c2=>?_;rw[e6];have oQ:b.kept.take (j+1)=b.kept.take j++[x]:=by rw[adT,gx];rfl
   refine T.drop fun w6 h6=>⟨⟨j+1,b2,c2,a8,?_,?_⟩,by show b.kept.length-((j+1:Nat):Int).toNat<b.kept.length-(j:Int).toNat;omega⟩
   ·rw[oQ];simp
   ·rw[oQ];simpa using h6
  ·have iM:j=b.kept.length:=by have:=of_decide_eq_false g2;omega
   subst iM;rw[adN,List.drop_length,List.flatMap_nil];refine Vc (R:=own bk b.kept.length ck 33 (b.kept.flatMap aM)::own bo b.ag.length cc 14 (b.ag.flatMap ak)::rd r ([],false)::L) hg ?_ (oz.own (fun _=>rfl) rfl) fun p=>?_
   ·have:=oz.own (W:=W) (L:=rd r ([],false)::L) (b:=bo) (n:=b.ag.length) (c:=cc) (e:=14) (g:=ak) (xs:=b.ag) (fun _=>rfl) rfl;exact this.mono
   repeat' first|apply ww|apply wm;intro _|apply wb
   refine fx (by decide) ?_;refine Ou (r:=r) (qC ?_)
   repeat' first|apply ww|apply wm;intro _|apply wb
   refine T.sub (h p) ?_;exact nZ
end
end Go.Up
namespace Go.Sep
open Go.Den Go.RowKit Go.Prog Go.bI
def mO{D:aA}{a to q a2:Int}{s:List UInt8}(h:jI D a to q=some (s,a2)):a<a2∧a2≤to∧0≤a∧to≤(D.safe.length:Int)∧s.length≤32768∧a2=a+(dX (12+s.length):Int):=by
 unfold jI at h;split at h
 ·cases h
 rename_i ha;split at h
 ·cases h
 rename_i m j d hv;split at h
 ·cases h
 rename_i hj;split at h
 ·cases h
 rename_i hc;split at h
 ·cases h
 rename_i t ht;obtain⟨l1,l2,l3,l4,l5⟩:=take_length ht;simp only[adU.injEq,Prod.mk.injEq] at h;obtain⟨h1,h2⟩:=h;subst h1;have hn: ¬32768<jF 4 (dG 8 (d.data.toList,false)):=fun hh=>hc (.inr hh);have h4:=DJ (dG 8 (d.data.toList,false));generalize jF 4 (dG 8 (d.data.toList,false))=n6 at *;have hp:=ox (12+n6).toNat;have e:(12+n6).toNat=12+(t.drop 12).length:=by rw[adM];omega
 rw[e] at h2 l3 hp;rw[←h2];have hl:(t.drop 12).length=t.length-12:=adM;exact⟨by omega,by omega,l2,l4,by omega,rfl⟩
def uN(D:aA)(to:Int):Nat→Int→Int→List (List UInt8)×Int×Int
 |0,a,q=>([],a,q)
 |f+1,a,q=>match jI D a to (q+1) with
  |none=>([],a,q)
  |some (s,a2)=>(s::(uN D to f a2 (q+1)).1,(uN D to f a2 (q+1)).2)
def jf(D:aA)(to a q:Int):List (List UInt8)×Int×Int:=uN D to (to-a).toNat a q
def xp{D:aA}{a to q:Int}(h:to≤a):jI D a to q=none:=by unfold jI;rw[if_pos h]
def we{D:aA}{to:Int}:∀(f f':Nat)(a q:Int),(to-a).toNat≤f→(to-a).toNat≤f'→uN D to f a q=uN D to f' a q
 |0,f',a,q,h1,h2=>by
  have hn:=xp (D:=D) (a:=a) (to:=to) (q:=q+1) (by omega);cases f' with
  |zero=>rfl
  |succ f'=>simp only[uN,hn]
 |f+1,0,a,q,h1,h2=>by
  have hn:=xp (D:=D) (a:=a) (to:=to) (q:=q+1) (by omega);simp only[uN,hn]
 |f+1,f'+1,a,q,h1,h2=>by
  simp only[uN];cases hn:jI D a to (q+1) with
  |none=>rfl
  |some y=>
   obtain⟨s,a2⟩:=y;have:=mO hn;dsimp only;rw[we f f' a2 (q+1) (by omega) (by omega)]
def AD{D:aA}{to a q:Int}(h:jI D a to (q+1)=none):jf D to a q=([],a,q):=by
 unfold jf;cases hf:(to-a).toNat with
 |zero=>rfl
 |succ f=>simp only[uN,h]
def AE{D:aA}{to a q a2:Int}{s:List UInt8}(h:jI D a to (q+1)=some (s,a2)):jf D to a q=(s::(jf D to a2 (q+1)).1,(jf D to a2 (q+1)).2):=by
 have hi:=mO h;unfold jf;obtain⟨f,hf⟩:∃f,(to-a).toNat=f+1:=⟨(to-a).toNat-1,by omega⟩;rw[hf];simp only[uN,h];rw[we f (to-a2).toNat a2 (q+1) (by omega) (by omega)]
section
variable {W w:World} {L:LH} {k d:Nat} {D:aA}
def BU(l:List UInt8):Value:=.string (bs l)
def Fm{lo hi:Int}{K:VK}(h:St W w L)(hk:L[k]?=some (fA d D))(hK:K (.bool (decide (0≤lo∧lo<hi∧hi≤(D.safe.length:Int)))) w):ka (some ⟨d,0,none⟩) lo hi K w:=by
 have no: ¬(0≤lo∧lo<hi∧hi≤(D.safe.length:Int))→K (.bool false) w:=fun hn=>by rw[decide_eq_false hn] at hK;exact hK
 unfold ka;refine dJ (fun h1=>?_) (fun h1=>no (by omega));refine dJ (fun h2=>?_) (fun h2=>no (by omega));refine kP h hk ?_;simp only[nz,ady,adz];have:decide (hi≤(D.safe.length:Int))=decide (0≤lo∧lo<hi∧hi≤(D.safe.length:Int)):=by rw[decide_eq_decide];omega
 rw[this];exact hK
def Lw{lo hi q:Int}{K:VK}(h:St W w L)(hk:L[k]?=some (fA d D))(ik:D.Ok)(hp:0≤lo∧lo<hi∧hi≤(D.safe.length:Int))(hq:0≤q∧q≤1152921504606846976)
 (hK:∀r b c w',(∃n:Nat,n≤4096∧(jf D hi lo q).1.length=n∧(jf D hi lo q).2.2=q+n∧lo≤(jf D hi lo q).2.1∧(jf D hi lo q).2.1≤hi)→St W w' (own b (jf D hi lo q).1.length c 1 ((jf D hi lo q).1.map BU)::pt r (ou d ⟨lo,hi,(jf D hi lo q).2.1,(jf D hi lo q).2.2,false⟩)::L)→
  K (.tuple ⟨[.p (some ⟨r,0,none⟩),.l b (jf D hi lo q).1.length c,.i 0]⟩) w'):gH (some ⟨d,0,none⟩) lo hi q K w:=by
 have rN:=ik.mC;unfold gH;simp only[nz,ady,adz];refine Fm h hk ?_;rw[decide_eq_true hp];simp only[nz,ady,adz];refine dJ (fun h1=>by omega) (fun _=>?_);have e0:decide (q>1152921504606846976)=false:=decide_eq_false (by omega);rw[e0];unfold gH.j1;simp only[nz,ady,adz];refine ic h fun r w h=>?_;have h0:=h.push (A:=own none 0 0 1 (([]:List (List UInt8)).map BU)) (o5 1);refine⟨fun us w'=>∃(acc:List (List UInt8))(a:Int)(b:OA)(n c:Nat),us=[.p none,.l none 0 0,.i 0,.p (some ⟨r,0,none⟩),.l b n c]∧acc.length=n∧lo+n≤a∧a≤hi∧
                                                                     jf D hi lo q=(acc++(jf D hi a (q+n)).1,(jf D hi a (q+n)).2)∧St W w' (own b n c 1 (acc.map BU)::pt r (ou d ⟨lo,hi,a,q+n,false⟩)::L),
  fun us _=>match us with|[_,_,_,_,.slice _ n _]=>5000-n|_=>0,⟨[],lo,none,0,0,rfl,rfl,by omega,by omega,by simp,?_⟩,?_⟩
 ·have:ou d ⟨lo,hi,lo,q+((0:Nat):Int),false⟩=[.p (some ⟨d,0,none⟩),.i lo,.i hi,.i lo,.i q,.bool false]:=by
   rw[show q+((0:Nat):Int)=q from by omega];rfl
  rw[this];exact h0
 rintro p2 MD Vm PB n4 a1 uF qg uE w2 ⟨acc,a,b,n,c,he,hn,ha,hah,ho,h⟩;cases he
 refine kA h fun w h=>?_;refine bR (k:=1) h rfl (v:=.i a) rfl ?_;simp only[nz,ady,adz];refine bR (k:=1) h rfl (v:=.i (q+qg)) rfl ?_;simp only[nz,ady,adz];have ew:adx.wrap (q+(qg:Int)+1)=q+(qg:Int)+1:=ah (by omega);rw[ew];refine Kv (k:=k+2) h (by rw[adR,adR];exact hk) ik (by omega) (by omega) fun w h=>?_;cases hx:jI D a hi (q+(qg:Int)+1) with
 |none=>
  unfold wi;simp only[nz,ady,adz];refine iV (k:=1) h rfl rfl ?_;rw[AD hx,adV] at ho;have:=hK r uF uE w;rw[ho] at this;dsimp only at this;rw[hn] at this;exact this ⟨qg,by omega,rfl,rfl,by omega,by omega⟩ h
 |some y=>
  obtain⟨s,a2⟩:=y;obtain⟨b1,b2,b3,b4,b5,b6⟩:=mO hx;unfold wi;simp only[nz,ady,adz];refine iV (k:=1) h rfl rfl ?_;refine⟨trivial,ic h fun r2 w h=>?_⟩;refine qb (k:=1) (ys:=[BU s]) h rfl (BB (k':=0) h rfl rfl fun j v hj=>by rw[adE];exact hj) (by simp) rfl (by omega) (by omega) (by simp[BU,Value.oneCell']) fun b' c' w h=>?_;simp only[nz,ady,adz] at h⊢;refine bR (k:=2) h rfl (v:=.i (q+qg)) rfl ?_;simp only[nz,ady,adz];refine mL (k:=2) h rfl (adH rfl) rfl fun w h=>?_;simp only[nz,ady,adz] at h;refine mL (k:=2) h rfl (adH rfl) rfl fun w h=>?_;simp only[nz,ady,adz] at h;rw[ew] at h;refine⟨⟨acc++[s],a2,b',qg+1,c',rfl,by rw[adD,hn];rfl,by omega,by omega,?_,?_⟩,by omega⟩
  ·rw[ho,AE hx,show q+(qg:Int)+1=q+((qg+1:Nat):Int) from by omega,adI];rfl
  ·rw[ad8];have:ou d ⟨lo,hi,a2,q+((qg+1:Nat):Int),false⟩=[.p (some ⟨d,0,none⟩),.i lo,.i hi,.i a2,.i (q+(qg:Int)+1),.bool false]:=by
    rw[show q+((qg+1:Nat):Int)=q+(qg:Int)+1 from by omega];rfl
   rw[this];exact h.drop
end
def Af(d:BA):Int:=jF 8 (d.data.toList,false)
def N2(l:List UInt8):(part (bs l) 0).data.toList=l.take 104:=by
 unfold part;rw[extract_toList,Nat.mul_zero,aeJ]
 rfl
def F4(seq:Int)(s:BA):bO seq s=le .i64 8 seq++(le .i64 4 s.size++s.data.toList):=by simp only[bO,adI]
def Hr(seq:Int)(s:BA):∃r,(part (bs (bO seq s)) 0).data.toList=le .i64 8 seq++(le .i64 4 s.size++r):=by
 rw[N2,F4];refine⟨s.data.toList.take 92,?_⟩;have h8:(le .i64 8 seq).length=8:=aB _ _ _;have h4:(le .i64 4 (s.size:Int)).length=4:=aB _ _ _;rw[List.take_append,List.take_append,h8,h4,adS (by rw[h8];omega),adS (l:=le .i64 4 (s.size:Int)) (by rw[h4];omega)]
def L7{m:Nat}(h:m<4294967296):kQ (le .i64 4 (m:Int))=m:=by
 rw[oe m 4 (by omega)];exact aej h
def Ks{n:Int}(h:0≤n∧n<9223372036854775808):kH (le .i64 8 n)=n:=by
 obtain⟨m,rfl⟩:=adL h.1;unfold kH;rw[oe m 8 (by omega)];have h8:(256:Nat)^8=18446744073709551616:=rfl;rw[h8,aej (by omega),ah (by omega)]
def qH{seq:Int}{s:BA}(hq:0≤seq∧seq<9223372036854775808)(hs:s.size≤32768):
 Af (part (bs (bO seq s)) 0)=seq∧(dG 4 (dG 8 ((part (bs (bO seq s)) 0).data.toList,false))).2=false∧jF 4 (dG 8 ((part (bs (bO seq s)) 0).data.toList,false))=(s.size:Int):=by
 obtain⟨r,hr⟩:=Hr seq s;unfold Af;rw[hr];have h8:(le .i64 8 seq).length=8:=aB _ _ _;have h4:(le .i64 4 (s.size:Int)).length=4:=aB _ _ _;have e1:dG 8 (le .i64 8 seq++(le .i64 4 s.size++r),false)=(le .i64 4 s.size++r,false):=by
  unfold dG;rw[if_neg (by simp only[ad0,false_or,adD,h8];omega),qo _ _ 8 h8]
 have e2:jF 8 (le .i64 8 seq++(le .i64 4 s.size++r),false)=seq:=by
  unfold jF;rw[if_neg (by simp only[ad0,false_or,adD,h8];omega),pk _ _ 8 h8,Ks hq]
 have e3:dG 4 (le .i64 4 (s.size:Int)++r,false)=(r,false):=by
  unfold dG;rw[if_neg (by simp only[ad0,false_or,adD,h4];omega),qo _ _ 4 h4]
 have e4:jF 4 (le .i64 4 (s.size:Int)++r,false)=(s.size:Int):=by
  unfold jF;rw[if_neg (by simp only[ad0,false_or,adD,h4];omega),pk _ _ 4 h4,kX (by rw[h4];omega),L7 (by omega)]
 rw[e1,e2,e3,e4];exact⟨rfl,rfl,rfl⟩
def oS(seq:Int)(s:BA):(bs (bO seq s)).size=12+s.size:=by rw[bF,uT]
def EU{D:aA}{a to n:Int}{s:BA}(hn:1≤n∧n≤1152921504606846976)(h0:0≤a)(OQ:a+(dX s.size:Int)≤to)(hlen:to≤(D.safe.length:Int))(rN:D.safe.length≤4096)
 (hr:∀i:Nat,i<dX s.size→(D.read (a+i)).1=leaf n i (part s i)):take D a to n s.size=some s.data.toList:=by
 have hb:s.size≤104* dX s.size:=by unfold dX;split<;>omega
 have OW:∀q:Nat,(part s q).size=min (104* (q+1)) s.size-104* q:=fun q=>by unfold part;rw[rB]
 have oE:s.size≤425984:=by omega
 unfold take;rw[if_neg (by rw[adB];omega),adB,wZ (s:=s) (dX s.size) 0 (fun q _ hq=>by
  have hg:Good n q (part s q):=⟨hn.1,hn.2,by omega,by omega,ko s q⟩
  rw[hr q (by omega),kr hg]
  exact⟨lY hg,by rw[OW];omega⟩)]
 congr 1
 rw[Nat.mul_zero,aeJ,adS (by rw[cN];exact hb)]
def yl{D:aA}{a to n q:Int}{s:BA}(hn:1≤n∧n≤1152921504606846976)(hq:0≤q∧q<9223372036854775808)(hs:s.size≤32768)(h0:0≤a)(OQ:a+(dX (12+s.size):Int)≤to)(hlen:to≤(D.safe.length:Int))(rN:D.safe.length≤4096)
 (hr:∀i:Nat,i<dX (12+s.size)→(D.read (a+i)).1=leaf n i (part (bs (bO q s)) i)):jI D a to q=some (s.data.toList,a+(dX (12+s.size):Int)):=by
 have wB:=oS q s;have hp:=ox (12+s.size);obtain⟨p1,p2,p3⟩:=qH hq hs;have h00:=hr 0 hp;rw[show a+((0:Nat):Int)=a from by omega] at h00;have hg:Good n ((0:Nat):Int) (part (bs (bO q s)) 0):=⟨hn.1,hn.2,by omega,by omega,ko _ 0⟩;have ht:=EU (D:=D) (a:=a) (to:=to) (s:=bs (bO q s)) hn h0 (by rw[wB];exact OQ) hlen rN (by rw[wB];exact hr);unfold jI;rw[if_neg (by omega),h00,kr hg,lY hg];dsimp only;unfold Af at p1;rw[if_neg (by rintro(hh|hh);exact hh rfl;exact hh p1),p2,p3,if_neg (by rintro(hh|hh);cases hh;omega)];rw[wB] at ht;have e1:((12+s.size:Nat):Int)=12+(s.size:Int):=by omega
 rw[e1] at ht;rw[ht];dsimp only;have e2:(12+(s.size:Int)).toNat=12+s.size:=by omega
 have e3:(bs (bO q s)).data.toList.drop 12=s.data.toList:=by
  show(bO q s).drop 12=_;unfold bO;exact qo _ _ 12 (by rw[adD,aB,aB])
 rw[e2,e3]
def yc{D D':aA}{a n:Int}{size:Nat}:∀(k i:Nat),(∀j:Nat,i≤j→j<i+k→(D'.read (a+j)).1=(D.read (a+j)).1)→kj D' a n size i k=kj D a n size i k
 |0,i,_=>rfl
 |k+1,i,h=>by
  rw[lX,lX,h i (adG _) (by omega),yc k (i+1) (fun j h1 h2=>h j (by omega) (by omega))]
def qK{D D':aA}{a to q a2:Int}{s:List UInt8}(h:jI D a to q=some (s,a2))(hlen:D'.safe.length=D.safe.length)(hr:∀j:Int,a≤j→j<a2→(D'.read j).1=(D.read j).1):jI D' a to q=some (s,a2):=by
 obtain⟨i1,i2,i3,i4,i5,i6⟩:=mO h;have h0:=hr a (by omega) (by omega);have ac0:=h;unfold jI at h⊢;rw[h0];split at h
 ·cases h
 rename_i ha;rw[if_neg ha];split at h
 ·cases h
 rename_i m j d hv;split at h
 ·cases h
 rename_i hj;rw[if_neg hj];split at h
 ·cases h
 rename_i hc;rw[if_neg hc];split at h
 ·cases h
 rename_i t ht;obtain⟨l1,l2,l3,l4,l5⟩:=take_length ht;have FK:take D' a to m (12+jF 4 (dG 8 (d.data.toList,false)))=some t:=by
  simp only[adU.injEq,Prod.mk.injEq] at h;rw[←ht];unfold take;rw[hlen,yc _ 0 (fun j h1 h2=>hr (a+j) (by omega) (by omega))]
 rw[FK];dsimp only;exact h
def xo{D:aA}{a to q:Int}(h:∀m d,jH (D.read a).1.data.toList=some (m,0,d)→Af d≠q):jI D a to q=none:=by
 unfold jI;split
 ·rfl
 split
 ·rfl
 rename_i m j d hv;by_cases hj:j=0
 ·subst hj;rw[if_pos (.inr (h m d hv))]
 ·rw[if_pos (.inl hj)]
def iJ(D:aA)(to:Int):Int→Int→List (List UInt8)→Int→Prop
 |a,_,[],e=>a=e
 |a,q,s::r,e=>∃a2,jI D a to (q+1)=some (s,a2)∧iJ D to a2 (q+1) r e
def Gl{D:aA}{to:Int}:∀(r:List (List UInt8)) {a q e:Int},iJ D to a q r e→a+r.length≤e
 |[],a,q,e,h=>by unfold iJ at h;simp;omega
 |s::r,a,q,e,⟨a2,h1,h2⟩=>by
  have:=mO h1;have:=Gl r h2;rw[adW];omega
def Bm{D:aA}{to:Int}:∀(r:List (List UInt8)) {a q e:Int},iJ D to a q r e→jI D e to (q+r.length+1)=none→jf D to a q=(r,e,q+r.length)
 |[],a,q,e,h,hn=>by
  unfold iJ at h;subst h;have e0:q+(([]:List (List UInt8)).length:Int)=q:=by simp
  rw[e0] at hn⊢;exact AD hn
 |s::r,a,q,e,⟨a2,h1,h2⟩,hn=>by
  have e1:q+((s::r).length:Int)=q+1+(r.length:Int):=by rw[adW];omega
  rw[e1] at hn⊢;rw[AE h1,Bm r h2 hn]
def qV{D D':aA}{to:Int}(hlen:D'.safe.length=D.safe.length):∀(r:List (List UInt8)) {a q e:Int},iJ D to a q r e→(∀j:Int,a≤j→j<e→(D'.read j).1=(D.read j).1)→iJ D' to a q r e
 |[],a,q,e,h,_=>h
 |s::r,a,q,e,⟨a2,h1,h2⟩,hr=>by
  have hi:=mO h1;have hl:=Gl r h2;exact⟨a2,qK h1 hlen (fun j h3 h4=>hr j h3 (by omega)),qV hlen r h2 (fun j h3 h4=>hr j (by omega) h4)⟩
def Bl{D:aA}{to:Int}:∀(r:List (List UInt8)) {a q e e2:Int} {s:List UInt8},iJ D to a q r e→jI D e to (q+r.length+1)=some (s,e2)→iJ D to a q (r++[s]) e2
 |[],a,q,e,e2,s,h,hn=>by
  unfold iJ at h;subst h;have e0:q+(([]:List (List UInt8)).length:Int)=q:=by simp
  rw[e0] at hn;exact⟨e2,hn,rfl⟩
 |x::r,a,q,e,e2,s,⟨a2,h1,h2⟩,hn=>by
  have e1:q+((x::r).length:Int)=q+1+(r.length:Int):=by rw[adW];omega
  rw[e1] at hn;exact⟨a2,h1,Bl r h2 hn⟩
def PJ.more(J:PJ)(s:BA):PJ:={J with at':=J.at'+(dX (12+s.size):Int),seq:=J.seq+1}
def Oa{n:Nat}{D:aA}{J:PJ}{number:Int}{s:BA}(hc:Calm n D)(bZ:n≤4096)(hJ:J.Ok D)(OR:J.fJ=false)(mP:1≤number∧number≤1152921504606846976)(B3:J.seq<1152921504606846976)(hr:room J s.size):
 ∃D',pJ D J number s=(D',J.more s,0)∧Calm n D'∧D'.later=[]∧(J.more s).Ok D'∧(∀i:Nat,i<dX (12+s.size)→(D'.read (J.at'+i)).1=leaf number i (part (bs (bO (J.seq+1) s)) i))∧
  (∀j:Int,0≤j→j<n→(j<J.at'∨J.at'+(dX (12+s.size):Int)≤j)→(D'.read j).1=(D.read j).1)∧jI D' J.at' J.hi (J.seq+1)=some (s.data.toList,J.at'+(dX (12+s.size):Int)):=by
 obtain⟨j1,j2,j3,j4,j5⟩:=hJ;obtain⟨r1,r2,r3⟩:=hr;rw[adB] at r3;have hlen:=hc.len;have wB:=oS (J.seq+1) s;obtain⟨a,ha⟩:=adL (show 0≤J.at' by omega);obtain⟨t,ht⟩:=adL (show 0≤J.hi by omega);obtain⟨p1,p2,p3,p4⟩:=Jb (n:=n) (a:=a) (t:=t) (number:=number) (s:=bs (bO (J.seq+1) s)) hc bZ mP (by rw[wB];omega) (by omega);have p5:=M9 (n:=n) (a:=a) (t:=t) (number:=number) (s:=bs (bO (J.seq+1) s)) hc bZ mP (by rw[wB];omega) (by omega);rw[wB] at p3 p4;rw[←ha,←ht] at p1 p2 p3 p4 p5;have tO:=p2.len;refine⟨(cR D J.at' J.hi number (bs (bO (J.seq+1) s))).1,?_,p2,p5,⟨j1,?_,?_,?_,?_⟩,p3,fun j h1 h2 h3=>?_,?_⟩
 ·unfold pJ;rw[if_neg (by rw[OR];exact ae4),if_neg (by omega),if_neg (by rintro(hh|hh);exact hh ⟨r1,r2,by rw[adB];exact r3⟩;omega)];unfold xQ;rw[if_neg (fun hh=>hh p1)]
  rfl
 ·show J.lo≤J.at'+_;omega
 ·show J.at'+_≤J.hi;omega
 ·show J.hi≤_;omega
 ·show 0≤J.seq+1∧J.seq+1≤_;omega
 ·obtain⟨m,rfl⟩:=adL h1;exact p4 m (by omega) (by omega)
 ·exact yl mP (by omega) (by omega) (by omega) (by omega) (by omega) (by omega) p3
def Fv{D:aA}{a to q:Int}(h:(D.read a).1=kv 128):jI D a to q=none:=
 xo (fun m d hv=>by rw[h,tF] at hv;cases hv)
def CJ{n:Nat}(h:n≤4096){j:Int}(h0:0≤j)(hj:j<n):((aA.new n).read j).1=kv 128:=by
 obtain⟨m,rfl⟩:=adL h0;exact tJ h (by omega)
section
variable {W w:World} {L:LH} {k d:Nat} {D:aA}
end
def uo{l:List UInt8}{k:Nat}(hk:k≤8)(hl:l.length=k):l=le .i64 k (kQ l:Int):=by
 refine EK _ _ (by rw[hl,aB]) ?_;have:=oZ l;rw[hl] at this;rw[oe (kQ l) k hk,aej this]
def xw{l:List UInt8}{n:Int}(hl:l.length=8)(hn:0≤n)(h:kH l=n):l=le .i64 8 n:=by
 have hv:=oZ l;have h8:(256:Nat)^8=18446744073709551616:=rfl;rw[hl,h8] at hv;have y3:(kQ l:Int)=n:=by
  unfold kH at h;simp[IntKind.wrap,IntKind.bits,IntKind.signed] at h;split at h<;>omega
 rw[←y3];exact uo (by decide) hl
def xj{l:List UInt8}{n j:Int}{d:BA}(h:jH l=some (n,j,d)):l=jR n j d∧Good n j d:=by
 unfold jH at h;split at h
 ·cases h
 rename_i h1;split at h
 ·cases h
 rename_i h2;split at h
 ·cases h
 rename_i h3;split at h
 ·cases h
 rename_i h4;split at h
 ·cases h
 rename_i h5;split at h
 ·cases h
 rename_i h6;have h1:=adO.1 h1;have h2:pG (l.take 120)=true:=by cases hh:pG (l.take 120) with
  |true=>rfl
  |false=>exact absurd hh h2
 have h4:=adO.1 h4;have h5:=adO.1 h5;have h6:=adO.1 h6;simp only[adU.injEq,Prod.mk.injEq] at h;obtain⟨rfl,rfl,rfl⟩:=h;refine⟨?_,h6⟩;obtain⟨g1,g2,g3,g4,g5⟩:=h6;have hM:sM l≤104:=by omega
 have l8:(l.drop 8).length=120:=by rw[adM];omega
 have l10:((l.drop 8).drop 2).length=118:=by rw[adM];omega
 have lr:(jY l).length=116:=by unfold jY;rw[adM];omega
 have p1:l.take 8=le .i64 8 (sN l):=xw (by rw[adF];omega) (by omega) rfl;have p2:(l.drop 8).take 2=le .i64 2 (sI l):=by
  have e:sI l=(kQ ((l.drop 8).take 2):Int):=kX (by rw[adF];omega);rw[e];exact uo (by decide) (by rw[adF];omega)
 have p3:((l.drop 8).drop 2).take 2=le .i64 2 (sM l:Int):=uo (by decide) (by rw[adF];omega);have hD:(sD l).length=sM l:=by unfold sD;rw[adF];omega
 have ZQ:((jY l).drop (sM l)).length=116-sM l:=by rw[adM,lr]
 have hZ:(sZ l).length=104-sM l:=by unfold sZ;rw[adF];omega
 have ZP:(((jY l).drop (sM l)).drop (104-sM l)).length=12:=by rw[adM,ZQ];omega
 have lrc:((((jY l).drop (sM l)).drop (104-sM l)).drop 4).length=8:=by rw[adM,ZP]
 have p6:(((jY l).drop (sM l)).drop (104-sM l)).drop 4=le .i64 8 (sN l):=by
  refine xw lrc (by omega) ?_;rw[←h4];unfold yh;rw[adS (by omega)]
 rw[hZ] at h5;have e1:l=l.take 8++((l.drop 8).take 2++(((l.drop 8).drop 2).take 2++(sD l++(sZ l++((((jY l).drop (sM l)).drop (104-sM l)).take 4++(((jY l).drop (sM l)).drop (104-sM l)).drop 4))))):=by
  unfold sD sZ;rw[ad5,ad5,ad5];unfold jY;rw[ad5,ad5,ad5]
 have oE:(bs (sD l)).size=sM l:=by rw[bF,hD]
 have aaS:pre (sN l) (sI l) (bs (sD l))=l.take 8++((l.drop 8).take 2++(((l.drop 8).drop 2).take 2++(sD l++sZ l))):=by
  unfold pre;rw[oE,p1,p2,p3,h5];simp only[adI]
  rfl
 have LF:(pre (sN l) (sI l) (bs (sD l))).length=116:=nI g5;have e2:l=pre (sN l) (sI l) (bs (sD l))++((((jY l).drop (sM l)).drop (104-sM l)).take 4++(((jY l).drop (sM l)).drop (104-sM l)).drop 4):=by
  rw[aaS];simp only[adI];exact e1
 have UK:l.take 116=pre (sN l) (sI l) (bs (sD l)):=by
  have:=congrArg (List.take 116) e2;rw[pk _ _ 116 LF] at this;exact this
 have e4:(l.take 120).drop 116=(((jY l).drop (sM l)).drop (104-sM l)).take 4:=by
  have aaN:l.drop 116=(((jY l).drop (sM l)).drop (104-sM l)).take 4++(((jY l).drop (sM l)).drop (104-sM l)).drop 4:=by
   have:=congrArg (List.drop 116) e2;rw[qo _ _ 116 LF] at this;exact this
  rw[List.drop_take,aaN];exact pk _ _ 4 (by rw[adF];omega)
 have aaC:ri (po 0 (pre (sN l) (sI l) (bs (sD l))))=(((jY l).drop (sM l)).drop (104-sM l)).take 4:=by
  unfold pG at h2;have D0:(l.take 120).length=120:=by rw[adF];omega
  rw[D0,show 120-4=116 from rfl,e4,ae9,show min 116 120=116 from rfl,UK] at h2;simpa using h2
 unfold jR;rw[aaC,adI];rw[p6] at e2;exact e2
def Ck{D:aA}{a n:Int}{size:Nat}:∀(k i:Nat) {t:List UInt8},kj D a n size i k=some t→size≤104* (i+k)→∀q,i≤q→q<i+k→
 ∃d,jH (D.read (a+q)).1.data.toList=some (n,(q:Int),d)∧d.data.toList=(t.drop (104* (q-i))).take 104
 |0,i,t,h,hs,q,h1,h2=>by omega
 |k+1,i,t,h,hs,q,h1,h2=>by
  rw[lX] at h;split at h
  ·cases h
  rename_i m j d hv;split at h
  ·rename_i hc;obtain⟨rfl,rfl,hd⟩:=hc;cases ht:kj D a m size (i+1) k with
   |none=>rw[ht] at h;cases h
   |some u=>
    rw[ht] at h;simp only[ael,adU.injEq] at h;subst h;have wC:d.data.toList.length=d.size:=rfl;by_cases hq:q=i
    ·subst hq;refine⟨d,hv,?_⟩;rw[aeY,Nat.mul_zero,aeJ];by_cases h3:104* (q+1)≤size
     ·exact(pk _ _ 104 (by omega)).symm
     ·have hu:u.length=0:=by
       by_cases hk:k=0
       ·subst hk;simp only[kj,adU.injEq] at ht;subst ht;rfl
       ·
        have hz:∀(n' i':Nat) {v:List UInt8},kj D a m size i' n'=some v→size≤104* i'→v.length=0:=by
         intro n'
         induction n' with
         |zero=>intro i' v h _;simp only[kj,adU.injEq] at h;subst h;rfl
         |succ n' ih=>
          intro i' v h hle;rw[lX] at h;split at h
          ·cases h
          ·split at h
           ·rename_i LQ;cases HB:kj D a m size (i'+1) n' with
            |none=>rw[HB] at h;cases h
            |some v2=>
             rw[HB] at h;simp only[ael,adU.injEq] at h;subst h;have:=ih (i'+1) HB (by omega);rw[adD,this,cN,LQ.2.2];omega
           ·cases h
        exact hz k (q+1) ht (by omega)
      rw[List.eq_nil_of_length_eq_zero hu,adV,adS (by omega)]
    ·obtain⟨d2,Qp,O5⟩:=Ck k (i+1) ht (by omega) q (by omega) (by omega);refine⟨d2,Qp,?_⟩;have hu:104* (i+1)≤size∨u.length=0:=by
      by_cases h3:104* (i+1)≤size
      ·exact .inl h3
      ·right
       have hz:∀(n' i':Nat) {v:List UInt8},kj D a m size i' n'=some v→size≤104* i'→v.length=0:=by
        intro n'
        induction n' with
        |zero=>intro i' v h _;simp only[kj,adU.injEq] at h;subst h;rfl
        |succ n' ih=>
         intro i' v h hle;rw[lX] at h;split at h
         ·cases h
         ·split at h
          ·rename_i LQ;cases HB:kj D a m size (i'+1) n' with
           |none=>rw[HB] at h;cases h
           |some v2=>
            rw[HB] at h;simp only[ael,adU.injEq] at h;subst h;have:=ih (i'+1) HB (by omega);rw[adD,this,cN,LQ.2.2];omega
          ·cases h
       exact hz k (i+1) ht (by omega)
     rw[O5];rcases hu with h3|h3
     ·have:(d.data.toList++u).drop (104* (q-i))=u.drop (104* (q-(i+1))):=by
       rw[show 104* (q-i)=104+104* (q-(i+1)) from by omega,←aeK,qo _ _ 104 (by omega)]
      rw[this]
     ·rw[List.eq_nil_of_length_eq_zero h3,adV];simp only[List.drop_nil,List.take_nil];rw[aeh (by omega)]
      rfl
  ·cases h
def CI{D:aA}{a to q a2:Int}{s:List UInt8}(hq:0≤q)(h:jI D a to q=some (s,a2)):
 ∃m d,1≤m∧m≤1152921504606846976∧jH (D.read a).1.data.toList=some (m,0,d)∧∀i:Nat,i<dX (12+s.length)→(D.read (a+i)).1=leaf m i (part (bs (bO q (bs s))) i):=by
 have hi:=mO h;unfold jI at h;split at h
 ·cases h
 rename_i ha;split at h
 ·cases h
 rename_i m j d hv;split at h
 ·cases h
 rename_i hj;split at h
 ·cases h
 rename_i hc;split at h
 ·cases h
 rename_i t ht;obtain⟨l1,l2,l3,l4,l5⟩:=take_length ht;simp only[adU.injEq,Prod.mk.injEq] at h;obtain⟨h1,h2⟩:=h;subst h1;have Xg:j=0:=by
  by_cases hh:j=0
  ·exact hh
  ·exact absurd (.inl hh) hj
 have Qr:jF 8 (d.data.toList,false)=q:=by
  by_cases hh:jF 8 (d.data.toList,false)=q
  ·exact hh
  ·exact absurd (.inr hh) hj
 subst Xg;have hn4:=DJ (dG 8 (d.data.toList,false));have hle: ¬32768<jF 4 (dG 8 (d.data.toList,false)):=fun hh=>hc (.inr hh);have acW:(dG 4 (dG 8 (d.data.toList,false))).2=false:=by
  cases hh:(dG 4 (dG 8 (d.data.toList,false))).2 with
  |false=>rfl
  |true=>exact absurd (.inl hh) hc
 obtain⟨_,vj⟩:=xj hv;have oQ:=ht;unfold take at oQ;split at oQ
 ·cases oQ
 have VJ:(12+jF 4 (dG 8 (d.data.toList,false))).toNat=t.length:=by omega
 rw[VJ] at oQ;have hb:t.length≤104* dX t.length:=by unfold dX;split<;>omega
 have KH:=Ck (dX t.length) 0 oQ (by omega);have Xq:=ox t.length;obtain⟨d0,hv0,VI⟩:=KH 0 (adG _) (by omega);rw[show a+((0:Nat):Int)=a from by omega,hv] at hv0;have aaA:d=d0:=by cases hv0;rfl
 subst aaA;rw[Nat.sub_zero,Nat.mul_zero,aeJ] at VI;have ads:12≤d.data.toList.length:=by
  rw[VI,adF];omega
 have x1:dG 8 (d.data.toList,false)=(d.data.toList.drop 8,false):=by unfold dG;rw[if_neg (by simp only[ad0,false_or];omega)]
 have x2:jF 8 (d.data.toList,false)=kH (d.data.toList.take 8):=by unfold jF;rw[if_neg (by simp only[ad0,false_or];omega)]
 have l8:(d.data.toList.drop 8).length=d.data.toList.length-8:=adM;have x3:jF 4 (d.data.toList.drop 8,false)=kH ((d.data.toList.drop 8).take 4):=by unfold jF;rw[if_neg (by simp only[ad0,false_or];omega)]
 rw[x2] at Qr;rw[x1,x3] at l1 hn4 VJ;have y1:d.data.toList.take 8=le .i64 8 q:=xw (by rw[adF];omega) hq Qr;have Y4:((d.data.toList.drop 8).take 4).length=4:=by rw[adF];omega
 rw[kX (by omega)] at l1;have y2:(d.data.toList.drop 8).take 4=le .i64 4 ((t.length-12:Nat):Int):=by
  have:=uo (by decide) Y4;rw[show(kQ ((d.data.toList.drop 8).take 4):Int)=((t.length-12:Nat):Int) from by omega] at this;exact this
 have z1:t.take 8=le .i64 8 q:=by
  rw[←y1,VI,ae9,show min 8 104=8 from rfl]
 have z2:(t.drop 8).take 4=le .i64 4 ((t.length-12:Nat):Int):=by
  rw[←y2,VI,List.drop_take,ae9,show min 4 (104-8)=4 from rfl]
 have KQ:bO q (bs (t.drop 12))=t:=by
  unfold bO;have oE:(bs (t.drop 12)).size=t.length-12:=by rw[bF,adM]
  rw[oE,←z1,←z2];show t.take 8++(t.drop 8).take 4++t.drop 12=t;have:t.drop 12=(t.drop 8).drop 4:=by rw[aeK]
  rw[this,adI,ad5,ad5]
 refine⟨m,d,vj.1,vj.2.1,hv,fun i hi2=>?_⟩;have aao:12+(t.drop 12).length=t.length:=by rw[adM];omega
 rw[aao] at hi2;obtain⟨di,hvi,Ez⟩:=KH i (adK _) (by omega);obtain⟨hx,LK⟩:=xj hvi;rw[KQ];have Jp:part (bs t) i=di:=by
  apply je;rw[Ez];unfold part;rw[extract_toList];show(t.drop (104* i)).take (104* (i+1) -104* i)=_;rw[Nat.sub_zero,show 104* (i+1) -104* i=104 from by omega]
 rw[Jp];apply je;rw[kr LK];exact hx
section
variable {W w:World} {L:LH}
end
def JY{D:aA}(h:D.sync.2=0):D.sync.1.later=[]:=by
 unfold aA.sync at h⊢;split at h
 ·simp at h
 ·rename_i hf;rw[if_neg hf]
def Ja{D:aA}{at' to number:Int}{s:BA}(h:(cR D at' to number s).2=0):(cR D at' to number s).1.later=[]:=by
 unfold cR at h⊢;split at h
 ·rename_i hh;exact absurd h hh
 ·rename_i hh;rw[if_neg hh];exact JY h
def Bh{D:aA}(h:D.later=[])(mask torn cut:Int)(j:Int):(D.ie mask torn cut).read j=D.read j:=by
 have e:D.ie mask torn cut=⟨D.safe,[],D.ops,0⟩:=by rw[nu,h];rfl
 rw[e];unfold aA.read aA.is aA.now;rw[h]
def CP{at' number:Int}{s:BA}(mP:1≤number∧number≤1152921504606846976)(vE:0≤at'):∀(n i:Nat) {D:aA},at'+i+n≤D.safe.length→i+n≤4096→(mm at' number s D i n).2=0∨(mm at' number s D i n).2=8
 |0,i,D,hr,hi=>.inl rfl
 |n+1,i,D,hr,hi=>by
  have hg:Good number i (part s i):=⟨mP.1,mP.2,by omega,by omega,ko s i⟩;have oE:=pY hg;have qA:D.is (at'+i):=⟨by omega,by omega⟩;have uK: ¬(¬D.is (at'+i)∨128<(leaf number i (part s i)).size):=by
   rintro(hh|hh)
   ·exact hh qA
   ·omega
  have pw:=(oI D (at'+i) (leaf number i (part s i))).1;have hw:D.write (at'+i) (leaf number i (part s i))=if D.qP then(D.tick,8) else({Go.bI.aA.tick D with later:=D.later++[(at'+i,aA.pad (leaf number i (part s i)))]},0):=by
   unfold aA.write;rw[if_neg uK]
  unfold mm;cases hf:D.qP with
  |true=>
   rw[hf,if_pos rfl] at hw;rw[hw,if_pos (by simp)];exact .inr rfl
  |false=>
   rw[hf,if_neg ae4] at hw;have h0:(D.write (at'+i) (leaf number i (part s i))).2=0:=by rw[hw]
   rw[if_neg (by rw[h0];exact fun hh=>hh rfl)];exact CP mP vE (s:=s) n (i+1) (D:=(D.write (at'+i) (leaf number i (part s i))).1) (by rw[pw];omega) (by omega)
def zu{n a t:Nat}{D:aA}{number:Int}{s:BA}(hlen:D.safe.length=n)(bZ:n≤4096)(mP:1≤number∧number≤1152921504606846976)(hl:a+dX s.size≤t)(TN:t≤n):(cR D a t number s).2=0∨(cR D a t number s).2=8:=by
 have Xq:=ox s.size;have e:lay D (a:Nat) ((t:Nat):Int) number s=mm (a:Nat) number s D 0 (dX s.size):=by
  unfold lay;rw[if_neg (by rw[hlen];omega),if_neg (by omega)]
 have hc:=CP (at':=((a:Nat):Int)) (number:=number) (s:=s) mP (by omega) (dX s.size) 0 (D:=D) (by rw[hlen];omega) (by omega);unfold cR;rw[e];split
 ·exact hc
 ·unfold aA.sync;split
  ·exact .inr rfl
  ·exact .inl rfl
def Cx{g:Nat}{X:BA}{m j:Int}{d:BA}(he:Ends g X)(hg:g<256)(h:jH X.data.toList=some (m,j,d)):m≤g:=by
 obtain⟨hx,vj⟩:=xj h;obtain⟨_,⟨a,ha,h8⟩,_⟩:=he;rw[hx,tL] at h8;have e1:=mj (n:=m) ⟨by have:=vj.1;omega,vj.2.1⟩;have e2:=mj (n:=(a:Int)) ⟨by omega,by omega⟩;rw[h8,e2] at e1;omega
def ym{D D':aA}{a to q:Int}(hlen:D'.safe.length=D.safe.length)(hr:∀j:Int,a≤j→j<to→(D'.read j).1=(D.read j).1):jI D' a to q=jI D a to q:=by
 cases h:jI D a to q with
 |some y=>
  obtain⟨s,a2⟩:=y;have:=mO h;exact qK h hlen (fun j h1 h2=>hr j h1 (by omega))
 |none=>
  cases h':jI D' a to q with
  |none=>rfl
  |some y=>
   obtain⟨s,a2⟩:=y;have:=mO h';have:=qK h' hlen.symm (fun j h1 h2=>(hr j h1 (by omega)).symm);rw[h] at this;cases this
structure JG(n:Nat)(D:aA)(J:PJ)(q0:Int)(mg:List (List UInt8))(g:Nat):Prop where
 ok:D.Ok
 GS:D.later=[]
 len:D.safe.length=n
 uH:J.Ok D
 chain:iJ D J.hi J.lo q0 mg J.at'
 seq:J.seq=q0+mg.length
 q0:0≤q0
 low:∀j:Int,J.lo≤j→j<J.hi→∀m d,jH (D.read j).1.data.toList=some (m,0,d)→Af d≤J.seq+1
 stop:jI D J.at' J.hi (J.seq+1)=none
 ends:∀j:Nat,j<n→Ends g (D.read (j:Int)).1
def JG.congr{n:Nat}{D D':aA}{J:PJ}{q0:Int}{mg:List (List UInt8)}{g:Nat}(h:JG n D J q0 mg g)(ik:D'.Ok)(xC:D'.later=[])(hlen:D'.safe.length=n)(hr:∀j:Int,0≤j→j<n→(D'.read j).1=(D.read j).1):JG n D' J q0 mg g:=by
 have hl:D'.safe.length=D.safe.length:=by rw[hlen,h.len]
 have j1:=h.uH.lo;have j2:=h.uH.EB;have j3:=h.uH.N9;have j4:=h.uH.hi;have j5:=h.len;refine⟨ik,xC,hlen,⟨j1,j2,j3,by rw[hl];exact j4,h.uH.seq⟩,qV hl _ h.chain (fun j a b=>hr j (by omega) (by omega)),h.seq,h.q0,fun j a b m d hv=>?_,?_,fun j hj=>?_⟩
 ·rw[hr j (by omega) (by omega)] at hv;exact h.low j a b m d hv
 ·rw[ym hl (fun j a b=>hr j (by omega) (by omega))];exact h.stop
 ·rw[hr j (by omega) (by omega)];exact h.ends j hj
def JG.opened{n:Nat}{D:aA}{J:PJ}{q0:Int}{mg:List (List UInt8)}{g:Nat}(h:JG n D J q0 mg g):jf D J.hi J.lo q0=(mg,J.at',J.seq):=by
 have:=h.stop;rw[h.seq] at this;rw[Bm mg h.chain this,h.seq]
def fly{n:Nat}{D:aA}{J:PJ}{q0:Int}{mg:List (List UInt8)}{g m:Nat}{s:BA}(h:JG n D J q0 mg g)(bZ:n≤4096)(hm:g<m)(Js:m<256)(hr:room J s.size)(HC:J.seq<1152921504606846976)(mask torn cut:Int):
 ((cR D J.at' J.hi m (bs (bO (J.seq+1) s))).2=0∨(cR D J.at' J.hi m (bs (bO (J.seq+1) s))).2=8)∧
 ((cR D J.at' J.hi m (bs (bO (J.seq+1) s))).2=0→∀i:Nat,i<dX (12+s.size)→(((cR D J.at' J.hi m (bs (bO (J.seq+1) s))).1.ie mask torn cut).read (J.at'+i)).1=leaf m i (part (bs (bO (J.seq+1) s)) i))∧
 ((∀i:Nat,i<dX (12+s.size)→(((cR D J.at' J.hi m (bs (bO (J.seq+1) s))).1.ie mask torn cut).read (J.at'+i)).1=leaf m i (part (bs (bO (J.seq+1) s)) i))→
   JG n ((cR D J.at' J.hi m (bs (bO (J.seq+1) s))).1.ie mask torn cut) (J.more s) q0 (mg++[s.data.toList]) m)∧
 ((¬∀i:Nat,i<dX (12+s.size)→(((cR D J.at' J.hi m (bs (bO (J.seq+1) s))).1.ie mask torn cut).read (J.at'+i)).1=leaf m i (part (bs (bO (J.seq+1) s)) i))→
   JG n ((cR D J.at' J.hi m (bs (bO (J.seq+1) s))).1.ie mask torn cut) J q0 mg m):=by
 obtain⟨j1,j2,j3,j4,j5⟩:=h.uH;obtain⟨r1,r2,r3⟩:=hr;rw[adB] at r3;have hlen:=h.len;have Xq:=ox (12+s.size);have wB:=oS (J.seq+1) s;obtain⟨a,ha⟩:=adL (show 0≤J.at' by omega);obtain⟨t,ht⟩:=adL (show 0≤J.hi by omega);have Sk:=zu (n:=n) (a:=a) (t:=t) (number:=m) (s:=bs (bO (J.seq+1) s)) hlen bZ (by omega) (by rw[wB];omega) (by omega);obtain⟨c1,c2,c3,c4⟩:=Fz (n:=n) (a:=a) (t:=t) (number:=m) (mask:=mask) (torn:=torn) (cut:=cut) (s:=bs (bO (J.seq+1) s)) h.ok h.GS hlen bZ (by omega) (by rw[wB];omega) (by omega);have Sd:((cR D (a:Int) (t:Int) m (bs (bO (J.seq+1) s))).1.ie mask torn cut).later=[]:=by rw[nu]
 rw[wB] at c1 c2;rw[ha,ht];generalize (cR D (a:Int) (t:Int) m (bs (bO (J.seq+1) s))).2=code at *;generalize (cR D (a:Int) (t:Int) m (bs (bO (J.seq+1) s))).1.ie mask torn cut=D2 at *;have VJ:dX (12+s.size)≤4096:=by omega
 have vj:∀i:Nat,i<4096→Good m (i:Int) (part (bs (bO (J.seq+1) s)) i):=fun i hi=>⟨by omega,by omega,by omega,by omega,ko _ i⟩;have sec:∀j:Nat,j<n→Ends m (D2.read (j:Int)).1∧((D2.read (j:Int)).1=(D.read (j:Int)).1∨(∃i,i<dX (12+s.size)∧j=a+i∧((D2.read (j:Int)).1=leaf m i (part (bs (bO (J.seq+1) s)) i)∨jH (D2.read (j:Int)).1.data.toList=none))):=fun j hj=>by
  rcases c1 j hj with hh|⟨i,h1,h2,h3⟩
  ·rw[hh];exact⟨(h.ends j hj).mono (by omega),.inl rfl⟩
  ·obtain⟨e1,e2⟩:=xr hm Js (vj i (by omega)) (h.ends j hj) h3;refine⟨e1,?_⟩;rcases e2 with e2|e2|e2
   ·exact .inl e2
   ·exact .inr ⟨i,h1,h2,.inl e2⟩
   ·exact .inr ⟨i,h1,h2,.inr e2⟩
 have out:∀j:Int,0≤j→j<n→(j<a∨a+(dX (12+s.size):Int)≤j)→(D2.read j).1=(D.read j).1:=fun j h1 h2 h3=>by
  obtain⟨k,rfl⟩:=adL h1;rcases c1 k (by omega) with hh|⟨i,h4,h5,_⟩
  ·exact hh
  ·omega
 have Qv:D2.safe.length=D.safe.length:=by rw[c4,hlen]
 have hpr:=qH (seq:=J.seq+1) (s:=s) ⟨by omega,by omega⟩ (by omega);have TD:∀j:Int,J.lo≤j→j<J.hi→∀x d,jH (D2.read j).1.data.toList=some (x,0,d)→Af d≤J.seq+1:=fun j h1 h2 x d hv=>by
  obtain⟨k,rfl⟩:=adL (show 0≤j by omega);rcases(sec k (by omega)).2 with hh|⟨i,hi,_,hh|hh⟩
  ·rw[hh] at hv;exact h.low _ h1 h2 x d hv
  ·rw[hh,kr (vj i (by omega)),lY (vj i (by omega))] at hv;simp only[adU.injEq,Prod.mk.injEq] at hv;obtain⟨_,Sg,hd⟩:=hv;have:i=0:=by omega
   subst this;rw[←hd,hpr.1];exact ae5 _
  ·rw[hh] at hv;cases hv
 have NZ:iJ D2 J.hi J.lo q0 mg J.at':=qV Qv _ h.chain (fun j h1 h2=>out j (by omega) (by omega) (by omega));have Nq:∀j:Nat,j<n→Ends m (D2.read (j:Int)).1:=fun j hj=>(sec j hj).1;refine⟨Sk,fun h0 i hi=>?_,fun hw=>?_,fun hnw=>?_⟩
 ·have:=c2 h0 i hi;rw[show(a:Int)+(i:Int)=((a+i:Nat):Int) from by omega];exact this
 ·have TO:=yl (D:=D2) (a:=J.at') (to:=J.hi) (n:=m) (q:=J.seq+1) (s:=s) (by omega) (by omega) (by omega) (by omega) (by omega) (by omega) (by omega) (by rw[ha];exact hw);refine⟨c3,Sd,c4,⟨j1,?_,?_,?_,?_⟩,?_,?_,h.q0,fun j h1 h2 x d hv=>?_,?_,Nq⟩
  ·show J.lo≤J.at'+_;omega
  ·show J.at'+_≤J.hi;omega
  ·show J.hi≤_;omega
  ·show 0≤J.seq+1∧J.seq+1≤_;omega
  ·show iJ D2 J.hi J.lo q0 _ (J.at'+_);refine Bl mg NZ ?_;rw[←h.seq];exact TO
  ·show J.seq+1=_;rw[h.seq,adD,adW,ad6];omega
  ·show Af d≤J.seq+1+1;have:=TD j h1 h2 x d hv;omega
  ·show jI D2 (J.at'+(dX (12+s.size):Int)) J.hi (J.seq+1+1)=none;by_cases aav:J.hi≤J.at'+(dX (12+s.size):Int)
   ·exact xp aav
   ·refine xo (fun x d hv=>?_);have:=TD _ (by omega) (by omega) x d hv;omega
 ·refine⟨c3,Sd,c4,⟨j1,j2,j3,by omega,j5⟩,NZ,h.seq,h.q0,TD,?_,Nq⟩;cases hx:jI D2 J.at' J.hi (J.seq+1) with
  |none=>rfl
  |some y=>
   exfalso;obtain⟨s2,a2⟩:=y;obtain⟨i1,i2,i3,i4,i5,i6⟩:=mO hx;obtain⟨x,d,x1,x2,hv,KH⟩:=CI (by omega) hx;have Nr:=ox (12+s2.length);have No:∀i:Nat,i<4096→Good x (i:Int) (part (bs (bO (J.seq+1) (bs s2))) i):=fun i hi=>⟨x1,x2,by omega,by omega,ko _ i⟩;have TY:=qH (seq:=J.seq+1) (s:=bs s2) ⟨by omega,by omega⟩ (by rw[bF];omega);have rd:∀i:Nat,i<dX (12+s2.length)→jH (D2.read ((a+i:Nat):Int)).1.data.toList=some (x,(i:Int),part (bs (bO (J.seq+1) (bs s2))) i):=fun i hi=>by
    have:=KH i hi;rw[ha,show(a:Int)+(i:Int)=((a+i:Nat):Int) from by omega] at this;rw[this,kr (No i (by omega)),lY (No i (by omega))]
   rcases(sec a (by omega)).2 with hh|⟨i,hi,XE,hh|hh⟩
   ·
    have r0:=rd 0 Nr;rw[aev,hh] at r0;have WJ:=Cx (h.ends a (by omega)) (by omega) r0;have all:∀j:Int,J.at'≤j→j<a2→(D.read j).1=(D2.read j).1:=fun j h1 h2=>by
     obtain⟨k,hk⟩:=adL (show 0≤j-a by omega);have hj:j=((a+k:Nat):Int):=by omega
     subst hj;rcases(sec (a+k) (by omega)).2 with e|⟨i,hi,XE,e|e⟩
     ·exact e.symm
     ·exfalso;have Nn:i=k:=by omega
      subst Nn;have r:=rd i (by omega);rw[e,kr (vj i (by omega)),lY (vj i (by omega))] at r;simp only[adU.injEq,Prod.mk.injEq] at r;have:=r.1;omega
     ·exfalso;have r:=rd k (by omega);rw[e] at r;cases r
    have:=qK hx Qv.symm all;rw[h.stop] at this;cases this
   ·
    have Sg:i=0:=by omega
    subst Sg;have r0:=rd 0 Nr;rw[aev,hh,kr (vj 0 (by omega)),lY (vj 0 (by omega))] at r0;simp only[adU.injEq,Prod.mk.injEq] at r0;obtain⟨hxm,_,hp0⟩:=r0;have oE:s2.length=s.size:=by
     have e1:=hpr.2.2;have e2:=TY.2.2;rw[hp0] at e1;rw[e1,bF] at e2;omega
    refine hnw fun i hi=>?_;rw[show(a:Int)+(i:Int)=((a+i:Nat):Int) from by omega];have r:=rd i (by rw[oE];exact hi);rcases(sec (a+i) (by omega)).2 with e|⟨i',qA,adv,e|e⟩
    ·exfalso;rw[e] at r;have:=Cx (h.ends (a+i) (by omega)) (by omega) r;omega
    ·have:i'=i:=by omega
     subst this;exact e
    ·rw[e] at r;cases r
   ·have Sg:i=0:=by omega
    subst Sg;have r0:=rd 0 Nr;rw[aev,hh] at r0;cases r0
section
variable {W w:World} {L:LH}
end
def rT(D:aA)(mask torn cut:Int):(D.ie mask torn cut).safe.length=D.safe.length:=by rw[nu];simp only[ju]
def JG.add{n:Nat}{D:aA}{J:PJ}{q0:Int}{mg:List (List UInt8)}{g m:Nat}{s:BA}(h:JG n D J q0 mg g)(OR:J.fJ=false)(bZ:n≤4096)(hm:g<m)(Js:m<256)(hr:room J s.size)(HC:J.seq<1152921504606846976):
 pJ D J m s=xQ J s (cR D J.at' J.hi m (bs (bO (J.seq+1) s)))∧(cR D J.at' J.hi m (bs (bO (J.seq+1) s))).1.Ok∧
 ((cR D J.at' J.hi m (bs (bO (J.seq+1) s))).2=0∧JG n (cR D J.at' J.hi m (bs (bO (J.seq+1) s))).1 (J.more s) q0 (mg++[s.data.toList]) m∨(cR D J.at' J.hi m (bs (bO (J.seq+1) s))).2=8):=by
 have VJ:dX (12+s.size)≤400:=by have:=hr.2.1;unfold dX;split<;>omega
 have ik:=Fy (at':=J.at') (to:=J.hi) (number:=m) (s:=bs (bO (J.seq+1) s)) h.ok (by rw[h.GS,oS,ad6];omega);refine⟨?_,ik,?_⟩
 ·unfold pJ;rw[if_neg (by rw[OR];exact ae4),if_neg (by omega),if_neg (by rintro(hh|hh);exact hh hr;omega)]
 ·obtain⟨f1,f2,f3,f4⟩:=fly h bZ hm Js hr HC 0 (-1) 0;rcases f1 with f1|f1
  ·refine .inl ⟨f1,?_⟩;have hl:=Ja f1;have hj:=f3 (f2 f1);refine hj.congr ik hl ?_ (fun j _ _=>?_)
   ·rw[←rT _ 0 (-1) 0];exact hj.len
   ·rw[Bh hl]
  ·exact .inr f1
def Vf{n:Nat}(h:n≤4096){lo hi:Int}(h0:0≤lo)(h1:lo<hi)(h2:hi≤n)(q0:Int)(hq:0≤q0∧q0≤1152921504606846976):JG n (aA.new n) ⟨lo,hi,lo,q0,false⟩ q0 [] 0:=by
 have hc:=wP h;refine⟨hc.ok,rfl,hc.len,⟨h0,ae5 _,by show lo≤hi;omega,by show hi≤_;rw[hc.len];exact h2,by show 0≤q0∧q0≤_;omega⟩,rfl,by show q0=q0+_;simp,hq.1,fun j a b m d hv=>?_,?_,fun j hj=>?_⟩
 ·dsimp only at a b;rw[CJ h (by omega) (by omega),tF] at hv;cases hv
 ·exact Fv (CJ h h0 (by show lo<(n:Int);omega))
 ·rw[tJ h hj];exact vn
section
variable {W w:World} {L:LH} {k:Nat}
end
section
variable {W w:World} {L:LH}
end
end Go.Sep
namespace Go.Sep
open Go.Den Go.RowKit
section
variable {H:Type} {enc:TypeId×Value→H} {P:Program} {w:World} {base:Nat} {spare:Nat→Bool} {held:Bool}
end
end Go.Sep
namespace Go.Sep
open Go.Den Go.RowKit Go.Prog Go.bI
def JG.mono{n:Nat}{D:aA}{J:PJ}{q0:Int}{mg:List (List UInt8)}{g g':Nat}(h:JG n D J q0 mg g)(hg:g≤g'):JG n D J q0 mg g':=
 ⟨h.ok,h.GS,h.len,h.uH,h.chain,h.seq,h.q0,h.low,h.stop,fun j hj=>(h.ends j hj).mono hg⟩
def JG.tR{n:Nat}{D:aA}{J:PJ}{q0:Int}{mg:List (List UInt8)}{g:Nat}(h:JG n D J q0 mg g)(hg:g<256):∃x:Nat,cV D n=x∧x≤g∧JG n D J q0 mg x:=by
 have h1:=sK D n;have h2:=ur (D:=D) hg n h.ends;obtain⟨x,hx⟩:=adL h1.1;refine⟨x,hx,by omega,⟨h.ok,h.GS,h.len,h.uH,h.chain,h.seq,h.q0,h.low,h.stop,fun j hj=>?_⟩⟩;obtain⟨e1,⟨a,ha,e2⟩,b,hb,e3⟩:=h.ends j hj;have hle:=Fs (D:=D) n j hj;have e4:xE (D.read (j:Int)).1=bs (le .i64 8 ((a:Nat):Int)):=je (by rw[F0,e2];rfl);have e5:wY (D.read (j:Int)).1=bs (le .i64 8 ((b:Nat):Int)):=je (by rw[ES e1,e3];rfl);rw[e4,e5,qJ (by omega),qJ (by omega)] at hle;exact⟨e1,⟨a,by omega,e2⟩,b,by omega,e3⟩
section
variable {W w:World} {L:LH}
end
section
variable {W w:World} {L:LH} {k:Nat}
end
def wj(a b:Option dU):Option dU:=
 match b with
 |none=>a
 |some hb=>match a with
  |none=>some hb
  |some ha=>if ha.aF<hb.aF then some hb else some ha
def pI(D:aA)(number:Int)(h:dU):aA×Int:=
 if kO h then(if(lay D (low h.aF) (low h.aF+1) number (bs (iH h))).2≠0 then lay D (low h.aF) (low h.aF+1) number (bs (iH h)) else(lay D (low h.aF) (low h.aF+1) number (bs (iH h))).1.sync) else(D,1)
section
variable {W w:World} {L:LH} {k d:Nat} {D:aA}
def Lh{number:Int}{h:dU}{K:VK}(hs:St W w L)(hk:L[k]?=some (fA d D))(ik:D.Ok)(hl:D.later.length+5000<1099511627776)
 (hK:∀w',St W w' (L.set k (fA d (pI D number h).1))→K (.i (pI D number h).2) w'):mY (some ⟨d,0,none⟩) number (aU h) K w:=by
 unfold mY;refine ic hs fun r w hs=>?_;refine iG (k:=0) (xs:=aU h) hs rfl rfl (fun j v hj=>by rw[adE];exact hj) ?_;refine Gq hs fun w hs=>?_;simp only[nz,ady,adz];unfold pI at hK;unfold zw;by_cases hg:kO h
 ·rw[if_pos hg] at hK⊢;dsimp only;refine qt (fun hh=>absurd rfl hh) (fun _=>?_);refine bR (k:=0) hs rfl rfl ?_;simp only[nz,ady,adz];refine bR (k:=0) hs rfl rfl ?_;simp only[nz,ady,adz];have FV:=re h.aF;have ew:adx.wrap (bG .i64 .and h.aF 1+1)=low h.aF+1:=by
   show adx.wrap (low h.aF+1)=_;rw[ah (by omega)]
  rw[ew];have e0:bG .i64 .and h.aF 1=low h.aF:=rfl;rw[e0];have oE:(bs (iH h)).size=32:=by rw[bF,mX]
  have HJ:dX (bs (iH h)).size=1:=by rw[oE];rfl
  have rj:(pt r (aU h)::L)[k+1]?=some (fA d D):=by rw[adR];exact hk
  refine BE (k:=k+1) hs rj ik (by omega) (by rw[oE];decide) fun w hs=>?_;rw[aeP] at hs;simp only[nz,ady,adz];have KO:=(DP (at':=low h.aF) (to:=low h.aF+1) (number:=number) (s:=bs (iH h)) ik (by rw[HJ];omega)).1;refine qt (fun ji=>?_) (fun h0=>?_)
  ·rw[if_pos ji] at hK;exact hK w hs.drop
  ·rw[if_neg (fun hh=>hh h0)] at hK;refine qy (k:=k+1) hs (by rw[adR];exact iF hk) KO fun w hs=>?_;rw[aeP,aeO] at hs;simp only[nz,ady,adz];exact hK w hs.drop
 ·rw[if_neg hg] at hK⊢;dsimp only;refine qt (fun _=>?_) (fun hh=>by simp at hh);refine hK w ?_;rw[kE hk];exact hs.drop
def B6(o:Option dU):dU:=o.getD zM
def vk(o:Option dU):mW o=.tuple ⟨[.agg ⟨aU (B6 o)⟩,.bool o.isSome]⟩:=by cases o<;>rfl
def GK{K:VK}(hs:St W w L)(hk:L[k]?=some (fA d D))(ik:D.Ok)(hK:∀w',St W w' L→K (mW (wj (vt D 0) (vt D 1))) w'):kL (some ⟨d,0,none⟩) K w:=by
 unfold kL;refine ic hs fun r1 w hs=>?_;refine JJ (i:=0) (k:=k+1) hs (by rw[adR];exact hk) ik fun w hs=>?_;rw[vk];simp only[nz,ady,adz];simp only[sV];refine⟨rfl,?_⟩;simp only[nz,ady,adz];refine ic hs fun r2 w hs=>?_;refine⟨rfl,iU (k:=0) hs rfl (adH rfl) (by simp[Value.oneCell',aU]) fun w hs=>?_⟩;rw[fZ (by simp[aU])] at hs;simp only[nz,ady,adz] at hs;refine JJ (i:=1) (k:=k+2) hs (by rw[adR,adR];exact hk) ik fun w hs=>?_;rw[vk];simp only[nz,ady,adz];simp only[sV];refine⟨rfl,?_⟩;simp only[nz,ady,adz];refine ic hs fun r3 w hs=>?_;refine⟨rfl,iU (k:=0) hs rfl (adH rfl) (by simp[Value.oneCell',aU]) fun w hs=>?_⟩;rw[fZ (by simp[aU])] at hs;simp only[nz,ady,adz] at hs;generalize vt D 0=a at *;generalize vt D 1=b at *;have tell:∀(i:Nat)(o:Option dU)(r:Nat)(f:Bool),(i=0∧r=r3∧B6 o=B6 b∨i=1∧r=r2∧B6 o=B6 a)→(f=o.isSome)→(∀w',St W w' L→K (mW o) w')→
                                                                                                              aj ⟨r,0,none⟩ 4 (fun cs=>bl (cs.length=4) (iN ⟨r1,0,none⟩ cs (aj ⟨r1,0,none⟩ 4 fun rm=>K (.tuple ⟨[.agg ⟨rm⟩,.bool f]⟩)))) w:=fun i o r f hi hf hK=>by
  have wA:(pt r3 (aU (B6 b))::pt r2 (aU (B6 a))::pt r1 [.i 0,.i 0,.i 0,.i 0]::L)[i]?=some (pt r (aU (B6 o))):=by
   rcases hi with⟨rfl,rfl,h⟩|⟨rfl,rfl,h⟩<;>rw[h]<;>rfl
  refine iG (xs:=aU (B6 o)) hs wA rfl (fun j v hj=>by rw[adE];exact hj) ?_;refine⟨rfl,?_⟩;refine iU (k:=2) hs rfl (adH rfl) (by simp[Value.oneCell',aU]) fun w hs=>?_;rw[fZ (by simp[aU])] at hs;simp only[nz,ady,adz] at hs;refine iG (k:=2) (xs:=aU (B6 o)) hs rfl rfl (fun j v hj=>by rw[adE];exact hj) ?_;have:=hK w hs.drop.drop.drop;rw[vk] at this;rw[hf];exact this
 cases b with
 |none=>
  exact tell 1 a r2 _ (.inr ⟨rfl,rfl,rfl⟩) rfl hK
 |some hb=>
  cases a with
  |none=>exact tell 0 (some hb) r3 true (.inl ⟨rfl,rfl,rfl⟩) rfl hK
  |some ha=>
   have e1:(some hb:Option dU).isSome=true:=rfl;have e2:(some ha:Option dU).isSome=true:=rfl;rw[e1,e2];simp only[nz,ady,adz];refine bR (k:=0) hs rfl (v:=.i hb.aF) rfl ?_;simp only[nz,ady,adz];refine bR (k:=1) hs rfl (v:=.i ha.aF) rfl ?_;simp only[nz,ady,adz];unfold wj at hK;dsimp only at hK;refine dJ (fun Ju=>?_) (fun hle=>?_)
   ·rw[if_pos Ju] at hK;exact tell 0 (some hb) r3 true (.inl ⟨rfl,rfl,rfl⟩) rfl hK
   ·rw[if_neg hle] at hK;exact tell 1 (some ha) r2 true (.inr ⟨rfl,rfl,rfl⟩) rfl hK
end
end Go.Sep
namespace Go.Up
open Go.Sep Go.Den Go.RowKit Go.Prog Go.Md Go.bI
section
variable {W:World} {L R:LH} {K:VK} {X:WK} {d r n:Nat} {D:aA} {J:PJ} {f:aA→LH} {g:PJ→LH} {s:BA}
abbrev jP(d r:Nat)(J:PJ):HP:=Sep.pt r (ou d J)
def Ls[i:Lc (fA d) L D f](h:T W L (K (.i (D.safe.length:Int)))):T W L (cu (some ⟨d,0,none⟩) K):=fun w hs=>by
 obtain⟨k,hk,e⟩:=i.at_;exact kP hs hk (h w hs)
def MS{n:Int}(h:∀d,T W (fA d (aA.new n)::L) (K (.p (some ⟨d,0,none⟩)))):T W L (kG n K):=fun w hs=>Oy hs fun d w' h'=>h d w' h'
def YL(nA:12≤n)(bZ:n≤4096)(h:T W L (K (.tuple ⟨[.agg ⟨de n⟩,.i 0]⟩))):T W L (nw n K):=fun w hs=>Rs hs nA bZ fun w' h'=>h w' h'
def Tg[i:Lc (fA d) L D f]{which number:Int}(ik:D.Ok)(nA:12≤n)(bZ:n≤4096)(hl:D.later.length+5000<1099511627776)(hs:s.size≤reachBytes)
 (h:T W (f (put D n which number s).1) (K (.i (put D n which number s).2))):T W L (jN (de n) (some ⟨d,0,none⟩) which number s K):=fun w hw=>by
 obtain⟨k,hk,e⟩:=i.at_;exact Ow hw hk ik nA bZ hl hs fun w' h'=>h w' (by rw[e];exact h')
def Th[i:Lc (fA d) L D f]{which number size:Int}(ik:D.Ok)(nA:12≤n)(bZ:n≤4096)(h:T W L (K (o0 (get D n which number size)))):T W L (jO (de n) (some ⟨d,0,none⟩) which number size K):=fun w hw=>by
 obtain⟨k,hk,e⟩:=i.at_;exact OE hw hk ik nA bZ fun w' h'=>h w' h'
def Ox[i:Lc (fA d) L D f](ik:D.Ok)(h:T W L (K (mW (wj (vt D 0) (vt D 1))))):T W L (kL (some ⟨d,0,none⟩) K):=fun w hw=>by
 obtain⟨k,hk,e⟩:=i.at_;exact GK hw hk ik fun w' h'=>h w' h'
def UT[i:Lc (fA d) L D f]{number:Int}{hd:dU}(ik:D.Ok)(hl:D.later.length+5000<1099511627776)(h:T W (f (pI D number hd).1) (K (.i (pI D number hd).2))):T W L (mY (some ⟨d,0,none⟩) number (aU hd) K):=fun w hw=>by
 obtain⟨k,hk,e⟩:=i.at_;exact Lh hw hk ik hl fun w' h'=>h w' (by rw[e];exact h')
def BG[i:Lc (fA d) L D f](ik:D.Ok)(h:T W L (K (.i (cV D D.safe.length)))):T W L (iD (some ⟨d,0,none⟩) K):=fun w hw=>by
 obtain⟨k,hk,e⟩:=i.at_;exact Cd hw hk ik fun w' h'=>h w' h'
def Nb[i:Lc (jP d r) L J g](h:T W L (K (.i J.seq))):T W L (eE (some ⟨r,0,none⟩) K):=fun w hw=>by
 obtain⟨k,hk,e⟩:=i.at_;exact Oj hw hk (h w hw)
def Lu[i:Lc (jP d r) L J g](h:T W (g {J with at':=J.lo}) (K (.tuple ⟨[]⟩))):T W L (dD (some ⟨r,0,none⟩) K):=fun w hw=>by
 obtain⟨k,hk,e⟩:=i.at_;exact El hw hk fun w' h'=>h w' (by rw[e];exact h')
def Qm[i:Lc (jP d r) L J g]{m:Int}(hJ:J.Ok D)(ik:D.Ok)(h:T W L (K (.bool (decide (room J m))))):T W L (dP (some ⟨r,0,none⟩) m K):=fun w hw=>by
 obtain⟨k,hk,e⟩:=i.at_;exact AS hw hk hJ ik fun w' h'=>h w' h'
def TF{number:Int}(hJ:J.Ok D)(ik:D.Ok)(hl:D.later.length<1000000)(hs:s.size≤reachBytes)
 (h:T W (jP d r (pJ D J number s).2.1::fA d (pJ D J number s).1::R) (K (.i (pJ D J number s).2.2))):T W (jP d r J::fA d D::R) (aR (some ⟨r,0,none⟩) number s K):=fun w hw=>
 KB (k:=0) (k2:=1) hw rfl rfl (by decide) hJ ik hl hs fun w' h'=>h w' h'
def Qn[i:Lc (fA d) L D f]{lo hi q:Int}(ik:D.Ok)(hp:0≤lo∧lo<hi∧hi≤(D.safe.length:Int))(hq:0≤q∧q≤1152921504606846976)
 (h:∀r b c,(∃n:Nat,n≤4096∧(jf D hi lo q).1.length=n∧(jf D hi lo q).2.2=q+n∧lo≤(jf D hi lo q).2.1∧(jf D hi lo q).2.1≤hi)→T W (own b (jf D hi lo q).1.length c 1 ((jf D hi lo q).1.map BU)::jP d r ⟨lo,hi,(jf D hi lo q).2.1,(jf D hi lo q).2.2,false⟩::L)
  (K (.tuple ⟨[.p (some ⟨r,0,none⟩),.l b (jf D hi lo q).1.length c,.i 0]⟩))):T W L (gH (some ⟨d,0,none⟩) lo hi q K):=fun w hw=>by
 obtain⟨k,hk,e⟩:=i.at_;exact Lw hw hk ik hp hq fun r b c w' he h'=>h r b c he w' h'
end
end Go.Up
namespace Go.Sep
open Go.Den Go.RowKit Go.Prog Go.bI
def Hx{D:aA}{at' to number:Int}{s:BA}(h:D.Ok)(hl:D.later.length+dX s.size<1099511627776):(cR D at' to number s).1.later.length≤D.later.length+dX s.size:=by
 have hL:(lay D at' to number s).1.later.length≤D.later.length+dX s.size:=by
  unfold lay;split
  ·exact Nat.le_add_right _ _
  ·split
   ·exact Nat.le_add_right _ _
   ·exact(wv _ 0 h hl).2.2
 unfold cR;split
 ·exact hL
 ·exact Nat.le_trans Dk.EY.2 hL
section
variable {W w:World} {L:LH}
end
end Go.Sep
namespace Go.Up
open Go.Sep Go.Den Go.RowKit Go.Prog Go.Md Go.bI
structure VS where
 D:aA
 J:PJ
 aF:Int
 fJ:Bool
def vC(d n pb pj:Nat)(aF:Int)(fJ:Bool):LV:=[.p (some ⟨d,0,none⟩)]++(de n++[.p (some ⟨pb,0,none⟩),.p (some ⟨pj,0,none⟩),.i aF,.bool fJ])
instance{h:dU}:Ln (aU h) 4:=⟨rfl⟩
instance{n:Nat}:Ln (de n) 5:=⟨rfl⟩
instance{h:dU}:Gt (aU h) 0 (.i h.aF):=⟨rfl⟩
instance{h:dU}:Gt (aU h) 1 (.i h.number):=⟨rfl⟩
instance{h:dU}:Gt (aU h) 2 (.i h.size):=⟨rfl⟩
instance{h:dU}:Gt (aU h) 3 (.i h.seq):=⟨rfl⟩
instance{n:Nat}:Gt (de n) 3 (.i (2+2* bN n:Nat)):=⟨rfl⟩
instance{n:Nat}:Gt (de n) 4 (.i n):=⟨rfl⟩
instance{d n pb pj:Nat}{aF:Int}{fJ:Bool}:Gt (vC d n pb pj aF fJ) 0 (.p (some ⟨d,0,none⟩)):=⟨rfl⟩
instance{d n pb pj:Nat}{aF:Int}{fJ:Bool}:Gt (vC d n pb pj aF fJ) 6 (.p (some ⟨pb,0,none⟩)):=⟨rfl⟩
instance{d n pb pj:Nat}{aF:Int}{fJ:Bool}:Gt (vC d n pb pj aF fJ) 7 (.p (some ⟨pj,0,none⟩)):=⟨rfl⟩
instance{d n pb pj:Nat}{aF:Int}{fJ:Bool}:Gt (vC d n pb pj aF fJ) 8 (.i aF):=⟨rfl⟩
instance{d n pb pj:Nat}{aF:Int}{fJ:Bool}:Gt (vC d n pb pj aF fJ) 9 (.bool fJ):=⟨rfl⟩
instance{d n pb pj:Nat}{aF:Int}{fJ:Bool}:Sub (vC d n pb pj aF fJ) 1 5 (de n):=⟨rfl,fun j v h=>by
 show([_]++(de n++_))[1+j]?=some v
 rw[aea (by simp),adY (by have:=(adC.1 h).1;simpa using this)]
 simpa using h⟩
instance{d n pb pj:Nat}{aF t2:Int}{fJ:Bool}:Wr (vC d n pb pj aF fJ) 8 [.i t2] (vC d n pb pj t2 fJ):=⟨rfl,by show 9≤10;decide,fun v h=>by simp at h;subst h;rfl⟩
instance{d n pb pj:Nat}{aF:Int}{fJ s2:Bool}:Wr (vC d n pb pj aF fJ) 9 [.bool s2] (vC d n pb pj aF s2):=⟨rfl,by show 10≤10;decide,fun v h=>by simp at h;subst h;rfl⟩
abbrev VL(v d n pb pj:Nat)(m:Model)(S:VS)(R:LH):LH:=Sep.pt v (vC d n pb pj S.aF S.fJ)::bn pb (bo m,[])::jP d pj S.J::fA d S.D::R
def ib(n:Nat)(m:Model)(S:VS):VS×Int:=
 if S.fJ=true then(S,9)
 else if ¬dX (bm (bo m)).length≤bN n then(S,3)
 else if(put S.D n (S.aF+1) (cV S.D S.D.safe.length+1) (bs (bm (bo m)))).2≠0 then(⟨(put S.D n (S.aF+1) (cV S.D S.D.safe.length+1) (bs (bm (bo m)))).1,S.J,S.aF,true⟩,(put S.D n (S.aF+1) (cV S.D S.D.safe.length+1) (bs (bm (bo m)))).2)
 else if(pI (put S.D n (S.aF+1) (cV S.D S.D.safe.length+1) (bs (bm (bo m)))).1 (cV S.D S.D.safe.length+2) ⟨S.aF+1,cV S.D S.D.safe.length+1,((bm (bo m)).length:Int),S.J.seq⟩).2≠0 then
  (⟨(pI (put S.D n (S.aF+1) (cV S.D S.D.safe.length+1) (bs (bm (bo m)))).1 (cV S.D S.D.safe.length+2) ⟨S.aF+1,cV S.D S.D.safe.length+1,((bm (bo m)).length:Int),S.J.seq⟩).1,S.J,S.aF,true⟩,(pI (put S.D n (S.aF+1) (cV S.D S.D.safe.length+1) (bs (bm (bo m)))).1 (cV S.D S.D.safe.length+2) ⟨S.aF+1,cV S.D S.D.safe.length+1,((bm (bo m)).length:Int),S.J.seq⟩).2)
 else(⟨(pI (put S.D n (S.aF+1) (cV S.D S.D.safe.length+1) (bs (bm (bo m)))).1 (cV S.D S.D.safe.length+2) ⟨S.aF+1,cV S.D S.D.safe.length+1,((bm (bo m)).length:Int),S.J.seq⟩).1,{S.J with at':=S.J.lo},S.aF+1,S.fJ⟩,0)
section
variable {W:World} {L R:LH} {K:VK} {X:WK} {v d n pb pj:Nat} {m:Model} {S:VS}
def Vg{k:Nat}(hk:k<1099511627776000)(h:T W L (K (.bool (decide (dX k≤bN n))))):T W L (jn (de n) k K):=fun w hs=>Lx hs hk fun w' h'=>h w' h'
def vf{D:aA}{which number:Int}{s:BA}:put D n which number s=cR D (cU n which) ((cU n which+bN n:Nat):Int) number s:=rfl
def JR{e:Int}{J2:PJ}{D2:aA}(ht:0≤S.aF∧S.aF<1152921504606846976)
 (h1:e≠0→T W (Sep.pt v (vC d n pb pj S.aF true)::bn pb (bo m,[])::jP d pj J2::fA d D2::R) (K (.i e)))
 (h0:e=0→T W (Sep.pt v (vC d n pb pj (S.aF+1) S.fJ)::bn pb (bo m,[])::jP d pj {J2 with at':=J2.lo}::fA d D2::R) (K (.i 0))):
 T W (Sep.pt v (vC d n pb pj S.aF S.fJ)::bn pb (bo m,[])::jP d pj J2::fA d D2::R) (dj.j1 K (some ⟨v,0,none⟩) e):=by
 unfold dj.j1;refine az (fun g1=>?_) (fun g1=>?_)
 ·have g1:e≠0:=by simpa using g1
  repeat' first|apply ww|apply wm;intro _|apply wb
  exact h1 g1
 ·have g1:e=0:=by simpa using g1
  have e5:adx.wrap (S.aF+1)=S.aF+1:=ah (by omega)
  repeat' first|apply ww|apply wm;intro _|apply wb
  rw[e5];refine Lu (d:=d) (r:=pj) ?_
  repeat' first|apply ww|apply wm;intro _|apply wb
  exact h0 g1
def Om(ik:S.D.Ok)(xC:S.D.later.length<1000000)(nA:12≤n)(bZ:n≤4096)(ht:0≤S.aF∧S.aF<1152921504606846976)
 (h:T W (VL v d n pb pj m (ib n m S).1 R) (K (.i (ib n m S).2))):T W (VL v d n pb pj m S R) (dj (some ⟨v,0,none⟩) K):=by
 unfold dj;refine nd (p:=pb) (b:=bo m) (hs:=[]) fun hg=>?_;have R6:=sh hg;have mC:=hg.mC;have many:=hg.many
 repeat' first|apply ww|apply wm;intro _|apply wb
 unfold ib at h;cases yu:S.fJ with
 |true=>
  rw[if_pos yu] at h;rw[jk];exact h
 |false=>
  rw[if_neg (by rw[yu];decide)] at h;rw[cA]
  repeat' first|apply ww|apply wm;intro _|apply wb|with_reducible refine Cn (p:=pb) ?_|fail
  rw[bF];refine Vg (by omega) (qC ?_);by_cases hf:dX (bm (bo m)).length≤bN n
  ·rw[if_neg (fun hh=>hh hf)] at h;rw[decide_eq_true hf,Bool.not_true,cA];obtain⟨G1,LK⟩:=sK S.D S.D.safe.length;have e1:adx.wrap (cV S.D S.D.safe.length+1)=cV S.D S.D.safe.length+1:=ah (by omega);have e2:adx.wrap (cV S.D S.D.safe.length+1+1)=cV S.D S.D.safe.length+2:=by rw[ah (by omega)];omega
   have e3:adx.wrap (S.aF+1)=S.aF+1:=ah (by omega)
   repeat' first|apply ww|apply wm;intro _|apply wb|with_reducible refine BG (d:=d) ik ?_|fail
   rw[e1,e2,e3];have gN:(bs (bm (bo m))).size≤reachBytes:=by rw[bF,R6];unfold reachBytes;omega
   refine Tg ik nA bZ (by omega) gN ?_;have WZ:(put S.D n (S.aF+1) (cV S.D S.D.safe.length+1) (bs (bm (bo m)))).1.Ok:=by
    rw[vf];exact Fy ik (by rw[bF];unfold bN at hf;omega)
   have Xm:(put S.D n (S.aF+1) (cV S.D S.D.safe.length+1) (bs (bm (bo m)))).1.later.length<1010000:=by
    rw[vf];have:=Hx (D:=S.D) (at':=(cU n (S.aF+1):Nat)) (to:=((cU n (S.aF+1)+bN n:Nat):Int)) (number:=cV S.D S.D.safe.length+1) (s:=bs (bm (bo m))) ik (by rw[bF];unfold bN at hf;omega);rw[bF] at this;unfold bN at hf;omega
   generalize put S.D n (S.aF+1) (cV S.D S.D.safe.length+1) (bs (bm (bo m)))=P1 at h WZ Xm⊢;generalize cV S.D S.D.safe.length=G at h⊢
   repeat' first|apply ww|apply wm;intro _|apply wb
   refine az (fun g1=>?_) (fun g1=>?_)
   ·have g1:P1.2=0:=by simpa using g1
    rw[if_neg (by omega)] at h
    repeat' first|apply ww|apply wm;intro _|apply wb|with_reducible refine Nb (d:=d) (r:=pj) ?_|fail
    rw[e3];show T W _ (mY (some ⟨d,0,none⟩) (G+2) (aU (⟨S.aF+1,G+1,((bm (bo m)).length:Int),S.J.seq⟩:dU)) _);refine UT WZ (by omega) ?_;generalize pI P1.1 (G+2) (⟨S.aF+1,G+1,((bm (bo m)).length:Int),S.J.seq⟩:dU)=P2 at h⊢
    repeat' first|apply ww|apply wm;intro _|apply wb
    refine JR (S:=S) ht (fun he=>?_) (fun he=>?_)
    ·rw[if_pos he] at h;exact h
    ·rw[if_neg (by omega)] at h;exact h
   ·have g1:P1.2≠0:=by simpa using g1
    rw[if_pos g1] at h;refine JR (S:=S) ht (fun he=>?_) (fun he=>absurd he g1);exact h
  ·rw[if_pos hf] at h;rw[decide_eq_false hf,Bool.not_false,jk];exact h
end
def ma(S:VS)(s:BA):VS×Int:=
 (⟨(pJ S.D S.J (cV S.D S.D.safe.length+1) s).1,(pJ S.D S.J (cV S.D S.D.safe.length+1) s).2.1,S.aF,S.fJ||(pJ S.D S.J (cV S.D S.D.safe.length+1) s).2.2==8⟩,(pJ S.D S.J (cV S.D S.D.safe.length+1) s).2.2)
def hO(n:Nat)(m:Model)(S:VS)(s:BA):VS×Int:=
 if room S.J s.size then ma S s else if(ib n m S).2≠0 then ib n m S else ma (ib n m S).1 s
def vz(n:Nat)(m:Model)(S:VS)(q:jG):VS×Model×Int×List Int:=
 if iA q=false then(S,m,1,[])
 else if S.fJ=true then(S,m,9,[])
 else if(hO n m S (bs (cr q))).2≠0 then((hO n m S (bs (cr q))).1,m,(hO n m S (bs (cr q))).2,[])
 else((hO n m S (bs (cr q))).1,(aK m q).2.2,(aK m q).1,(aK m q).2.1)
structure Lq(S:VS):Prop where
 ok:S.D.Ok
 mC:S.D.later.length<1000000
 uH:S.J.Ok S.D
 aF:0≤S.aF∧S.aF<1152921504606846976
section
variable {W:World} {L R:LH} {K:VK} {X:WK} {v d n pb pj:Nat} {m:Model} {S:VS} {s:BA} {q:jG} {sl:sf}
def T.eng{A B C D E F G:HP}(h:T W (B::C::A::D::E::R) X):T W (A::B::C::D::E::F::G::R) X:=
 T.perm (L:=B::C::A::D::E::F::G::R) (T.sub h (by exact nZ)) (adJ (l₁:=[A]) (l₂:=[B,C])|>.append_right _)
def OJ(hS:Lq S)(hs:s.size≤reachBytes)(h:T W (VL v d n pb pj m (ma S s).1 R) (K (.i (ma S s).2))):T W (VL v d n pb pj m S R) (eH.j1 K (some ⟨v,0,none⟩) s):=by
 unfold eH.j1;obtain⟨G1,LK⟩:=sK S.D S.D.safe.length;have e1:adx.wrap (cV S.D S.D.safe.length+1)=cV S.D S.D.safe.length+1:=ah (by omega)
 repeat' first|apply ww|apply wm;intro _|apply wb|with_reducible refine BG (d:=d) hS.ok ?_|fail
 rw[e1];refine T.perm (L:=jP d pj S.J::fA d S.D::Sep.pt v (vC d n pb pj S.aF S.fJ)::bn pb (bo m,[])::R) ?_ (adJ (l₁:=[_,_]) (l₂:=[_,_])|>.append_right R);refine TF hS.uH hS.ok hS.mC hs ?_;unfold ma at h;generalize pJ S.D S.J (cV S.D S.D.safe.length+1) s=A at h⊢;refine T.perm (L:=Sep.pt v (vC d n pb pj S.aF S.fJ)::bn pb (bo m,[])::jP d pj A.2.1::fA d A.1::R) ?_ (adJ (l₁:=[_,_]) (l₂:=[_,_])|>.append_right R);cases yu:S.fJ with
 |true=>
  rw[yu,Bool.true_or] at h
  repeat' first|apply ww|apply wm;intro _|apply wb
  exact h
 |false=>
  rw[yu,Bool.false_or] at h
  repeat' first|apply ww|apply wm;intro _|apply wb
  exact h
def YJ(hS:Lq S)(XF:Lq (ib n m S).1)(nA:12≤n)(bZ:n≤4096)(hs:s.size≤100000)(h:T W (VL v d n pb pj m (hO n m S s).1 R) (K (.i (hO n m S s).2))):T W (VL v d n pb pj m S R) (eH (some ⟨v,0,none⟩) s K):=by
 have hsr:s.size≤reachBytes:=by unfold reachBytes;omega
 unfold eH
 repeat' first|apply ww|apply wm;intro _|apply wb
 refine Qm (d:=d) (r:=pj) (D:=S.D) hS.uH hS.ok ?_;unfold hO at h;by_cases hr:room S.J s.size
 ·rw[if_pos hr] at h;rw[decide_eq_true hr]
  repeat' first|apply ww|apply wm;intro _|apply wb
  exact OJ hS hsr h
 ·rw[if_neg hr] at h;rw[decide_eq_false hr]
  repeat' first|apply ww|apply wm;intro _|apply wb
  refine Om hS.ok hS.mC nA bZ hS.aF ?_
  repeat' first|apply ww|apply wm;intro _|apply wb
  refine az (fun g1=>?_) (fun g1=>?_)
  ·have g1:(ib n m S).2≠0:=by simpa using g1
   rw[if_pos g1] at h;exact h
  ·have g1:(ib n m S).2=0:=by simpa using g1
   rw[if_neg (by omega)] at h;exact OJ XF hsr h
def E6(hw:iA q=true)(he:eX q=true):(cr q).length≤2000:=by
 have T2:q.op=1∨q.op=2∨q.op=3:=of_decide_eq_true he;have hf:=nQ hw;unfold cr;rw[adD,aB];split
 ·rw[adD,aB,fb oX];omega
 ·split
  ·rw[adD,aB,fb oO];omega
  ·split
   ·rw[aB];omega
   ·omega
def SU(G:pK W)(hg:Md.Ground m)(hS:Lq S)(XF:Lq (ib n m S).1)(nA:12≤n)(bZ:n≤4096)(hq:mu W R q sl)(hA:∀a∈q.ag,vy a)(hT:∀t∈q.aW,uY t)(y5:q.ag.length<1000000)(a8:q.aW.length<1000000)(he:eX q=true)
 (h:∀rb rc,Md.Ground (vz n m S q).2.1→T W (own rb (vz n m S q).2.2.2.length rc 1 ((vz n m S q).2.2.2.flatMap I1)::VL v d n pb pj (vz n m S q).2.1 (vz n m S q).1 R) (K (.agg ⟨oo (vz n m S q).2.2.1 rb (vz n m S q).2.2.2.length rc none 0 0 none 0 0⟩))):
 T W (VL v d n pb pj m S R) (fw (some ⟨v,0,none⟩) (eu q sl) K):=by
 unfold fw
 repeat' first|apply ww|apply wm;intro _|apply wb|with_reducible refine xK ?_|fail
 rw[he]
 repeat' first|apply ww|apply wm;intro _|apply wb
 refine L3 (R:=R) hq y5 a8 (fun hw=>?_) (fun hw=>?_)
 ·repeat' first|apply ww|apply wm;intro _|apply wb
  unfold vz at h;rw[if_neg (by rw[hw];decide)] at h;refine fx (by decide) ?_
  repeat' first|apply ww|apply wm;intro _|apply wb
  cases yu:S.fJ with
  |true=>
   rw[if_pos yu] at h
   repeat' first|apply ww|apply wm;intro _|apply wb
   refine gB (e:=1) ?_;refine T.sub (h none 0 hg) ?_
   repeat (first|exact adP.refl _|apply adP.cons_cons|apply adP.cons)
  |false=>
   rw[if_neg (by rw[yu];decide)] at h;rw[cA];have hrl:=E6 hw he;have Ur:q.op=2→∀t∈q.aW,YK t:=fun ho t ht=>⟨hT t ht,by
    have hf:=nQ hw
    have:∀a∈q.aW,kN a:=by rcases hf with h|h|h|h|h<;>first|exact h.2.2|omega
    exact this t ht⟩
   refine T.perm (L:=VL v d n pb pj m S (_::_::R)) ?_ (adJ (l₁:=[_,_]) (l₂:=[_,_,_,_])|>.append_right R);refine YJ hS XF nA bZ (by rw[bF];omega) ?_;generalize hO n m S (bs (cr q))=A at h⊢
   repeat' first|apply ww|apply wm;intro _|apply wb
   refine az (fun g1=>?_) (fun g1=>?_)
   ·have g1:A.2≠0:=by simpa using g1
    rw[if_pos g1] at h
    repeat' first|apply ww|apply wm;intro _|apply wb
    refine gB (e:=1) ?_;refine T.sub (h none 0 hg) ?_
    repeat (first|exact adP.refl _|apply adP.cons_cons|apply adP.cons)
   ·have g1:A.2=0:=by simpa using g1
    rw[if_neg (by omega)] at h
    repeat' first|apply ww|apply wm;intro _|apply wb
    refine T.Hj ?_;refine Gb G hg ⟨hq.ag.mono,hq.aW.mono,hq.ids.mono,hq.ca,hq.ct,hq.ci⟩ (fun _=>hA) Ur fun rb rc LK=>?_
    repeat' first|apply ww|apply wm;intro _|apply wb
    have fin:=h rb rc LK;exact T.eng fin
 ·repeat' first|apply ww|apply wm;intro _|apply wb
  unfold vz at h;rw[if_pos hw] at h;refine lh (by decide) ?_
  repeat' first|apply ww|apply wm;intro _|apply wb
  refine gB (e:=1) ?_;refine T.sub (h none 0 hg) ?_
  repeat (first|exact adP.refl _|apply adP.cons_cons|apply adP.cons)
end
section
variable {W:World} {L R:LH} {K:VK} {X:WK} {v d n pb pj:Nat} {m:Model} {S:VS} {s:BA} {q:jG} {sl:sf}
def T.ask{O1 O2 B V J D F G:HP}(h:T W (O1::O2::V::B::J::D::R) X):T W (O1::O2::B::V::J::D::F::G::R) X:=
 T.perm (L:=O1::O2::V::B::J::D::F::G::R) (T.sub h (by exact nZ)) (ad2.append_left [O1,O2] (ad2.swap _ _ _))
def T.in2{F G V B J D:HP}(h:T W (B::V::J::D::F::G::R) X):T W (F::G::V::B::J::D::R) X:=
 T.perm h ((adJ (l₁:=[F,G]) (l₂:=[V,B,J,D])|>.append_right R).trans (ad2.swap _ _ _))
def SW(hq:mu W R q sl)(he:eX q=false)
 (h:∀ab ac tb tc,T W (own ab (ask m q).2.1.length ac 14 ((ask m q).2.1.flatMap ak)::own tb (ask m q).2.2.length tc 16 ((ask m q).2.2.flatMap ai)::VL v d n pb pj m S R) (K (.agg ⟨oo (ask m q).1 none 0 0 ab (ask m q).2.1.length ac tb (ask m q).2.2.length tc⟩))):
 T W (VL v d n pb pj m S R) (fw (some ⟨v,0,none⟩) (eu q sl) K):=by
 unfold fw
 repeat' first|apply ww|apply wm;intro _|apply wb|with_reducible refine xK ?_|fail
 rw[he]
 repeat' first|apply ww|apply wm;intro _|apply wb
 refine T.in2 ?_;refine YH ⟨hq.ag.mono,hq.aW.mono,hq.ids.mono,hq.ca,hq.ct,hq.ci⟩ fun ab ac tb tc=>?_
 repeat' first|apply ww|apply wm;intro _|apply wb
 exact T.ask (h ab ac tb tc)
def SR(h:T W (VL v d n pb pj m S R) (K (.i S.J.seq))):T W (VL v d n pb pj m S R) (jA (some ⟨v,0,none⟩) K):=by
 unfold jA
 repeat' first|apply ww|apply wm;intro _|apply wb|with_reducible refine Nb (d:=d) (r:=pj) ?_|fail
 exact h
def EL(h:∀p,T W (bn p (bo m,[])::VL v d n pb pj m S R) (K (.p (some ⟨p,0,none⟩)))):T W (VL v d n pb pj m S R) (gR (some ⟨v,0,none⟩) K):=by
 refine nd (p:=pb) (b:=bo m) (hs:=[]) fun hg=>?_;unfold gR
 repeat' first|apply ww|apply wm;intro _|apply wb|with_reducible refine Cn (p:=pb) ?_|fail
 refine E1 hg fun p=>?_
 repeat' first|apply ww|apply wm;intro _|apply wb
 exact h p
end
def pE:Model:=⟨[],[],0,0⟩
def wD:Good (bo pE):=⟨List.nodup_nil,List.nodup_nil,(by show 0≤32;decide),(by show 0≤96;decide),fun a h=>(by cases h),fun a h=>(by cases h),List.Pairwise.nil,fun a h=>(by cases h),(by show(0:Int)≤0∧(0:Int)≤1099511627776;decide),rfl⟩
def ql:Md.Ground pE:=⟨fun a h=>(by cases h),List.nodup_nil,(by show 0≤32;decide),List.nodup_nil,fun a h=>(by cases h),fun a h=>(by cases h),(by show 0≤96;decide),fun a h=>(by cases h),fun a h=>(by cases h),fun a h=>(by cases h)⟩
def uR(h:dU):∀v∈aU h,v.oneCell'=true:=fun v hv=>by simp[aU] at hv;rcases hv with rfl|rfl|rfl|rfl<;>rfl
instance{x1 x2 x3 x4:Value}{h:dU}:Wr [x1,x2,x3,x4] 0 (aU h) (aU h):=⟨rfl,adG _,uR h⟩
instance{h:dU}:Sub (aU h) 0 4 (aU h):=⟨rfl,fun j v h=>by rw[adE];exact h⟩
def BY(n:Nat):∀v∈de n,v.oneCell'=true:=fun v hv=>by simp[de] at hv;rcases hv with rfl|rfl|rfl|rfl|rfl<;>rfl
instance{x1 x2 x3 x4 x5:Value}{n:Nat}:Wr [x1,x2,x3,x4,x5] 0 (de n) (de n):=⟨rfl,adG _,BY n⟩
instance{n:Nat}:Sub (de n) 0 5 (de n):=⟨rfl,fun j v h=>by rw[adE];exact h⟩
def Vh(D:aA)(n:Nat)(hd:dU)(mb:Model):Prop:=
 (wj (vt D 0) (vt D 1)=none∧hd=zM∧mb=pE)∨(wj (vt D 0) (vt D 1)=some hd∧get D n hd.aF hd.number hd.size=some (bm (bo mb)))
section
variable {W:World} {L R:LH} {K:VK} {X:WK} {v d n pb pj:Nat} {D:aA} {f:aA→LH} {mb:Model} {hd:dU}
def Re(h:∀p,T W (bn p (bo pE,[])::L) (K (.p (some ⟨p,0,none⟩)))):T W L (m8 K):=by
 refine N5 fun p la lk ti tn=>?_;intro w7 Z6;have h2:=Z6.push (A:=rq []) trivial;refine zF (p:=p) (la:=la) (lk:=lk) (ti:=ti) (tn:=tn) (vs:=[]) (bx:=[]) (c:=dz (bo pE)) (hs:=[]) (R:=L) trivial (fun w hw=>h p w (St.and_intro wD hw)) w7 ?_;exact h2.perm (adJ (l₁:=[rq []]) (l₂:=[_,_,_,_,_])|>.append_right L)
def Pm[i:Lc (fA d) L D f](ik:D.Ok)(nA:12≤n)(bZ:n≤4096)(hb:Vh D n hd mb)(hg:Good (bo mb))(h:∀pb,T W (bn pb (bo mb,[])::L) (K (.tuple ⟨[.p (some ⟨pb,0,none⟩),.agg ⟨aU hd⟩,.i 0]⟩))):
 T W L (nE (some ⟨d,0,none⟩) (de n) K):=by
 unfold nE
 repeat' first|apply ww|apply wm;intro _|apply wb
 refine Ox ik ?_;rcases hb with⟨h1,rfl,rfl⟩|⟨h1,h2⟩
 ·rw[h1];unfold mW
  repeat' first|apply ww|apply wm;intro _|apply wb
  refine Re fun p=>?_
  repeat' first|apply ww|apply wm;intro _|apply wb
  refine Mk (n:=4) (xs:=aU zM) ?_
  repeat' first|apply ww|apply wm;intro _|apply wb
  refine T.sub (h p) ?_;exact nZ
 ·rw[h1];unfold mW
  repeat' first|apply ww|apply wm;intro _|apply wb
  refine Th ik nA bZ ?_;rw[h2];unfold o0
  repeat' first|apply ww|apply wm;intro _|apply wb
  refine E1 hg fun p=>?_
  repeat' first|apply ww|apply wm;intro _|apply wb
  refine T.sub (h p) ?_;exact nZ
end
end Go.Up
