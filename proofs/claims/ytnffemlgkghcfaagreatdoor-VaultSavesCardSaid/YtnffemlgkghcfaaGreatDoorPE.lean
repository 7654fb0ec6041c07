/- Part of the proof: see the last text. -/
import Derived.Test.YtnffemlgkghcfaaGreatDoorPD
import Derived.Test.YtnffemlgkghcfaaGreatDoorPB
import Derived.Test.YtnffemlgkghcfaaGreatDoorPA
import Derived.RangeFuncRecord
import Derived.RangeFuncCalls
import Derived.OrdersIn
import Derived.TacticsIn
import Derived.RangeFuncOwn
import Derived.Test.YtnffemlgkghcfaaGreatDoorProg
set_option linter.all false
set_option maxRecDepth 100000
set_option synthInstance.maxSize 100000
open Array renaming replicate→ae0
open Bool renaming eq_iff_iff→aee,false_ne_true→ael,false_eq_true→aeh,and_eq_true→aeL,true_and→aeU,false_and→ae3
open Decidable renaming not_not→ad6
open Go.IntKind renaming i64→adP
open Int renaming tmod_eq_emod_of_nonneg→aeA,toNat_natCast→adT,eq_ofNat_of_zero_le→ad3,le_refl→afm
open List renaming getElem?_eq_getElem→adS,getElem?_eq_some_iff→adU,perm_append_comm→ad1,take_length→ad5,take_add_one→aeb,append_nil→aed,getElem_mem→aeg,map_append→aep,length_append→adV,length_cons→ad',length_nil→aen,Perm→aej,nil_append→aev,mem_of_getElem?→aek,mem_or_eq_of_mem_set→aeI,length_set→aeX,length_take→adX,append_assoc→ad0,length_drop→ad4,Sublist→ad7,length_map→aei,getElem?_append_right→aes,map_cons→aet,drop_eq_getElem_cons→aex,mem_cons_of_mem→aeW,drop_zero→ae1,mem_cons→ae',length_singleton→aff,take_zero→afh,mem_append→aew,mem_map→aeC,find?_eq_none→afc,set_set→ae6,getElem?_cons_succ→ad9,getElem?_append_left→aef,take_of_length_le→aea,take_append_drop→aem,getElem?_set→aeo,drop_of_length_le→aez,drop_drop→ae2,getElem?_drop→ae8,getElem?_of_mem→afa,take_take→afq,flatMap_cons→aeG,filter_cons_of_pos→aeR,filter_cons_of_neg→aeS,flatMap_append→aeP,map_congr_left→ae9,map_nil→afs,getElem?_map→aeF,getElem?_range→afk,range→afo,cons_append→ae5,getElem?_take→afi
open Nat renaming zero_le→ad2,zero_add→adW,le_refl→adY,min_eq_left→afj,mul_le_mul_right→aeE,pow_le_pow_right→aeJ,add_zero→aeN,sub_self→afe,add_mul→afg,mul_comm→afr,mod_eq_of_lt→aeB,eq_of_beq_eq_true→aer,beq→afd
open Option renaming map_some→aeD,some→aec
namespace Go.Up
open Go.Sep Go.Den Go.RowKit Go.Prog Go.Md Go.bC
def uI{f b:Int}(h0:0<=f)(h1:f<1000000)(hb:1<=b):adP.wrap (f.tdiv b)=f/b:=by
 rw[Int.tdiv_eq_ediv_of_nonneg h0];have h2:=Int.ediv_nonneg h0 (show 0<=b by omega);have h3:=Int.ediv_le_self b h0;exact aw (by omega)
def Ox{f b:Int}(h0:0<=f)(h1:f<1000000)(hb:1<=b):(((adP.wrap (f.tdiv b)).tmod (2:Int))==1)=decide (has f b):=by
 rw[uI h0 h1 hb,aeA (Int.ediv_nonneg h0 (by omega))];rw[aee,beq_iff_eq,decide_eq_true_eq];exact Iff.rfl
section
variable {W:World} {L R:LH} {K:VK} {X:WK} {a b:aP} {t u:Move}
def FE{f n:Int}(h0:0<=f/\f<1000000)(hn:1<=n)(h:T W L (K (.bool (decide (has f n))))):T W L (jh f n K):=by
 unfold jh;refine cN (by omega) ?_;refine cN (by decide) ?_;rw[Ox h0.1 h0.2 hn];exact h
def HK(ha:0<=a.flags/\a.flags<256)(hb:0<=b.flags/\b.flags<256)(h:T W L (K (.i (ru a b)))):T W L (dO (ak a) (ak b) K):=by
 unfold dO dO.j1;have e1:(adP.wrap (a.flags.tdiv 2)).tmod 4=a.flags/2%4:=by rw[uI ha.1 (by omega) (by decide),aeA (by omega)]
 have e2:(adP.wrap (b.flags.tdiv 2)).tmod 4=b.flags/2%4:=by rw[uI hb.1 (by omega) (by decide),aeA (by omega)]
 unfold ru at h;apply ws;intros;refine bE (λg1=>?_) (λg1=>?_)
 ·have g1:a.aG=b.aG:=by simpa using g1
  apply ws;intros;refine bE (λg2=>?_) (λg2=>?_)
  ·have g2:a.code=b.code:=by simpa using g2
   repeat' first|apply ws;intros|apply wb|with_reducible refine cN (by decide) ?_|fail
   refine bE (λg3=>?_) (λg3=>?_)
   ·rw[e1,e2] at g3;have g3:a.flags/2%4=b.flags/2%4:=by simpa using g3
    rw[if_pos ⟨g1,g2,g3⟩] at h;exact T.dp h
   ·rw[e1,e2] at g3;have g3: ¬a.flags/2%4=b.flags/2%4:=by simpa using g3
    rw[if_neg (λhh=>g3 hh.2.2)] at h;exact T.dp h
  ·have g2: ¬a.code=b.code:=by simpa using g2
   rw[if_neg (λhh=>g2 hh.2.1)] at h;exact T.dp h
 ·have g1: ¬a.aG=b.aG:=by simpa using g1
  rw[if_neg (λhh=>g1 hh.1)] at h;apply ws;intros;exact T.dp h
def hG{n:Int}(h0:0<=t.flags/\t.flags<1000000)(hn:1<=n)(h:T W L (K (.bool (decide (has t.flags n))))):T W L (aO (ai t) n K):=by
 unfold aO;apply ws;intros;refine cN (by omega) ?_;refine cN (by decide) ?_;rw[Ox h0.1 h0.2 hn];exact T.dp h
def rG(h0:0<=t.flags/\t.flags<1000000)(h:T W L (K (.bool (decide (gv t.flags))))):T W L (dI (ai t) K):=by
 unfold dI;apply ws;intros;refine hG h0 (by decide) ?_;apply ws;intros;by_cases h4:has t.flags 4
 ·rw[decide_eq_true (show gv t.flags from .inl h4)] at h;rw[decide_eq_true h4];apply ws;intros;exact T.dp h
 ·rw[decide_eq_false h4];apply ws;intros;refine hG h0 (by decide) ?_;apply ws;intros;have e:decide (gv t.flags)=decide (has t.flags 8):=by rw[decide_eq_decide];exact⟨λhh=>hh.resolve_left h4,.inr⟩
  rw[e] at h;exact T.dp h
end
def og(x:Int):IntKind.u64.wrap x=x%18446744073709551616:=by
 unfold IntKind.wrap;simp[IntKind.signed,IntKind.bits]
section
variable {W:World} {L R:LH} {K:VK} {X:WK} {a b:Nat}
def vB{r3:Nat}{n1 n2 n7:Int}{b1:Bool}(hb:b1=decide (¬a+b<aK))(h0: ¬b1=true->n7=(((a+b)/18446744073709551616:Nat):Int)/\IntKind.u64.wrap (n1+n2)=(((a+b)%18446744073709551616:Nat):Int))
 (h:T W L (K (.tuple ⟨[.agg ⟨nm (add a b)⟩,.bool (decide (a+b<aK))]⟩))):T W (Sep.pt r3 [.u 0,.u 0]::L) (bN.j1 K r3 n1 n2 n7 b1):=by
 unfold bN.j1;unfold add at h;cases b1 with
 |true=>
  have hb:=of_decide_eq_true hb.symm;rw[if_neg hb,decide_eq_false hb] at h;apply ws;intros;exact T.dp h
 |false=>
  have hb:=of_decide_eq_false hb.symm;have tY:a+b<aK:=by omega
  rw[if_pos tY,decide_eq_true tY] at h;obtain⟨e1,e2⟩:=h0 (by decide);rw[e1,e2];apply ws;intros;exact T.dp h
def pO(ha:a<aK)(hb:b<aK)(h:T W L (K (.tuple ⟨[.agg ⟨nm (add a b)⟩,.bool (decide (a+b<aK))]⟩))):T W L (bN (nm a) (nm b) K):=by
 unfold bN;unfold nm;unfold aK at ha hb;have e1:IntKind.u64.wrap (((a%18446744073709551616:Nat):Int)+((b%18446744073709551616:Nat):Int))=(((a+b)%18446744073709551616:Nat):Int):=by rw[og];omega
 apply ws;intros;refine dP (λg1=>?_) (λg1=>?_)
 ·rw[e1] at g1;refine dP (λg2=>?_) (λg2=>?_)
  ·rw[og] at g2;refine vB (a:=a) (b:=b) (decide_eq_true (by unfold aK;omega)).symm (λhh=>absurd rfl hh) ?_;exact T.dp h
  ·rw[og] at g2;refine vB (a:=a) (b:=b) ?_ (λhh=>⟨?_,e1⟩) ?_
   ·rw[aee,beq_iff_eq,decide_eq_true_eq,og,og];unfold aK;omega
   ·rw[beq_iff_eq,og,og] at hh;rw[og,og];omega
   ·exact T.dp h
 ·rw[e1] at g1;refine vB (a:=a) (b:=b) ?_ (λhh=>⟨?_,e1⟩) ?_
  ·rw[decide_eq_decide,og];unfold aK;omega
  ·rw[decide_eq_true_eq,og] at hh;rw[og];omega
  ·exact T.dp h
def wD(ha:a<aK)(hb:b<aK)(h:T W L (K (.agg ⟨nm (add a b)⟩))):T W L (fL (nm a) (nm b) K):=by
 unfold fL;apply ws;intros;refine pO ha hb ?_;apply ws;intros;exact T.dp h
end
def yq(I1:LV->World->Prop)(oR:LV->World->Nat)(w2:World)(a4 a5:Addr)(rA:OA)(pz ra:Nat)(n2 n3:Int):WK:=λw3=>
 I1 [.p (some a4),.p (some a5),.l rA pz ra,.i n2,.i (adP.wrap (n3+1))] w3/\oR [.p (some a4),.p (some a5),.l rA pz ra,.i n2,.i (adP.wrap (n3+1))] w3<oR [.p (some a4),.p (some a5),.l rA pz ra,.i n2,.i n3] w2
section
variable {W w2:World} {L R:LH} {K:VK} {r2 r3 r4:Nat} {a:aP} {k:Kept} {I1:LV->World->Prop} {oR:LV->World->Nat} {a4:Addr} {rA:OA} {pz ra:Nat} {n2 n3:Int}
def OG{b:Bool}(hf:0<=a.flags/\a.flags<1000000)(hb:b=decide (gH a.id k))
 (h:T W (Sep.pt r4 (ai k.move)::Sep.pt r3 (aJ k)::Sep.pt r2 (ak {a with flags:=if gH a.id k then a.flags%8+8 else a.flags})::L) (yq I1 oR w2 a4 (ad r2 0) rA pz ra n2 n3)):
 T W (Sep.pt r4 (ai k.move)::Sep.pt r3 (aJ k)::Sep.pt r2 (ak a)::L) (aa.T' K (ad r2 0) I1 a4 rA pz ra n2 n3 oR w2 b):=by
 unfold aa.T';have e1:adP.wrap (a.flags.tmod 8+8)=a.flags%8+8:=by rw[aeA hf.1];exact aw (by omega)
 cases b with
 |true=>
  rw[if_pos (of_decide_eq_true hb.symm)] at h
  repeat' first|apply ws;intros|apply wb|with_reducible refine cN (by decide) ?_|fail
  rw[e1];exact h
 |false=>
  rw[if_neg (of_decide_eq_false hb.symm)] at h;rw[ch];exact h
def OH{b:Bool}(hf:0<=a.flags/\a.flags<1000000)(hb:b=decide (has k.move.flags 64/\k.move.aF=a.id\/has k.move.flags 128/\k.move.ar=a.id))
 (h:T W (Sep.pt r4 (ai k.move)::Sep.pt r3 (aJ k)::Sep.pt r2 (ak {a with flags:=if gH a.id k then a.flags%8+8 else a.flags})::L) (yq I1 oR w2 a4 (ad r2 0) rA pz ra n2 n3)):
 T W (Sep.pt r4 (ai k.move)::Sep.pt r3 (aJ k)::Sep.pt r2 (ak a)::L) (aa.F4 K r3 (ad r2 0) I1 a4 rA pz ra n2 n3 oR w2 b):=by
 unfold aa.F4;cases b with
 |true=>
  have hc:=of_decide_eq_true hb.symm;apply ws;intros;refine bE (λg1=>?_) (λg1=>?_)
  ·have g1:k.fate=1:=by simpa using g1
   exact OG hf (decide_eq_true (show gH a.id k from⟨hc,.inl g1⟩)).symm h
  ·have g1: ¬k.fate=1:=by simpa using g1
   apply ws;intros;refine OG hf ?_ h;rw[aee,beq_iff_eq,decide_eq_true_eq];exact⟨λhh=>⟨hc,.inr hh⟩,λhh=>hh.2.resolve_left g1⟩
 |false=>
  have hc:=of_decide_eq_false hb.symm;rw[ch];exact OG hf (decide_eq_false (show ¬gH a.id k from λhh=>hc hh.1)).symm h
def S9{b:Bool}(hf:0<=a.flags/\a.flags<1000000)(hm:0<=k.move.flags/\k.move.flags<1000000)(hb:b=decide (has k.move.flags 64/\k.move.aF=a.id))
 (h:T W (Sep.pt r4 (ai k.move)::Sep.pt r3 (aJ k)::Sep.pt r2 (ak {a with flags:=if gH a.id k then a.flags%8+8 else a.flags})::L) (yq I1 oR w2 a4 (ad r2 0) rA pz ra n2 n3)):
 T W (Sep.pt r4 (ai k.move)::Sep.pt r3 (aJ k)::Sep.pt r2 (ak a)::L) (aa.V7 K r3 (ad r2 0) I1 a4 rA pz ra n2 n3 oR w2 r4 b):=by
 unfold aa.V7;cases b with
 |true=>
  have hc:=of_decide_eq_true hb.symm;rw[gW];exact OH hf (decide_eq_true (.inl hc)).symm h
 |false=>
  have hc:=of_decide_eq_false hb.symm;rw[ch];apply ws;intros;refine hG hm (by decide) ?_;apply ws;intros;by_cases g1:has k.move.flags 128
  ·rw[decide_eq_true g1];apply ws;intros;refine OH hf ?_ h;rw[decide_eq_decide];exact⟨λhh=>.inr ⟨g1,hh⟩,λhh=>(hh.resolve_left hc).2⟩
  ·rw[decide_eq_false g1];apply ws;intros;exact OH hf (decide_eq_false (λhh=>g1 (hh.resolve_left hc).1)).symm h
def ac2(hf:0<=a.flags/\a.flags<1000000)(hm:0<=k.move.flags/\k.move.flags<1000000)
 (h:T W (Sep.pt r4 (ai k.move)::Sep.pt r3 (aJ k)::Sep.pt r2 (ak {a with flags:=if gH a.id k then a.flags%8+8 else a.flags})::L) (yq I1 oR w2 a4 (ad r2 0) rA pz ra n2 n3)):
 T W (Sep.pt r4 (ai k.move)::Sep.pt r3 (aJ k)::Sep.pt r2 (ak a)::L) (aa.j9 K r4 (ad r2 0) r3 I1 a4 rA pz ra n2 n3 oR w2):=by
 unfold aa.j9;apply ws;intros;refine hG hm (by decide) ?_;apply ws;intros;by_cases g1:has k.move.flags 64
 ·rw[decide_eq_true g1];apply ws;intros;refine S9 hf hm ?_ h;rw[decide_eq_decide];exact⟨λhh=>⟨g1,hh⟩,λhh=>hh.2⟩
 ·rw[decide_eq_false g1];apply ws;intros;exact S9 hf hm (decide_eq_false (λhh=>g1 hh.1)).symm h
def ac3{b:Bool}(h1:a.cp<aK)(h2:k.move.aB<aK)(h:T W (Sep.pt r4 (ai k.move)::Sep.pt r3 (aJ k)::Sep.pt r2 (ak {a with cp:=if b=true then add a.cp k.move.aB else a.cp})::L) (aa.j9 K r4 (ad r2 0) r3 I1 a4 rA pz ra n2 n3 oR w2)):T W (Sep.pt r4 (ai k.move)::Sep.pt r3 (aJ k)::Sep.pt r2 (ak a)::L) (aa.j8 K (ad r2 0) r4 r3 I1 a4 rA pz ra n2 n3 oR w2 b):=by
 unfold aa.j8;cases b with
 |true=>
  rw[if_pos rfl] at h;apply ws;intros;refine wD h1 h2 ?_;apply ws;intros;exact h
 |false=>
  rw[if_neg ael] at h;rw[ch];exact h
def ac4(h1:a.cp<aK)(h2:k.move.aB<aK)(h:T W (Sep.pt r4 (ai k.move)::Sep.pt r3 (aJ k)::Sep.pt r2 (ak {a with cp:=if k.fate=1/\k.move.ar=a.id then add a.cp k.move.aB else a.cp})::L) (aa.j9 K r4 (ad r2 0) r3 I1 a4 rA pz ra n2 n3 oR w2)):T W (Sep.pt r4 (ai k.move)::Sep.pt r3 (aJ k)::Sep.pt r2 (ak a)::L) (aa.j7 K r3 r4 (ad r2 0) I1 a4 rA pz ra n2 n3 oR w2):=by
 unfold aa.j7;have fin:∀b:Bool,b=decide (k.fate=1/\k.move.ar=a.id)->T W (Sep.pt r4 (ai k.move)::Sep.pt r3 (aJ k)::Sep.pt r2 (ak a)::L) (aa.j8 K (ad r2 0) r4 r3 I1 a4 rA pz ra n2 n3 oR w2 b):=λb hb=>by
  refine ac3 h1 h2 ?_;have e:(if b=true then add a.cp k.move.aB else a.cp)=(if k.fate=1/\k.move.ar=a.id then add a.cp k.move.aB else a.cp):=by
   subst hb;by_cases hc:k.fate=1/\k.move.ar=a.id
   ·rw[if_pos (decide_eq_true hc),if_pos hc]
   ·rw[if_neg (by rw[decide_eq_false hc];exact ael),if_neg hc]
  rw[e];exact h
 apply ws;intros;refine bE (λg1=>?_) (λg1=>?_)
 ·have g1:k.fate=1:=by simpa using g1
  apply ws;intros;refine fin _ ?_;rw[decide_eq_decide];exact⟨λhh=>⟨g1,hh⟩,λhh=>hh.2⟩
 ·have g1: ¬k.fate=1:=by simpa using g1
  exact fin _ (decide_eq_false (λhh=>g1 hh.1)).symm
def ac5{b:Bool}(h1:a.dp<aK)(h2:k.move.aB<aK)(h:T W (Sep.pt r4 (ai k.move)::Sep.pt r3 (aJ k)::Sep.pt r2 (ak {a with dp:=if b=true then add a.dp k.move.aB else a.dp})::L) (aa.j7 K r3 r4 (ad r2 0) I1 a4 rA pz ra n2 n3 oR w2)):T W (Sep.pt r4 (ai k.move)::Sep.pt r3 (aJ k)::Sep.pt r2 (ak a)::L) (aa.j6 K (ad r2 0) r4 r3 I1 a4 rA pz ra n2 n3 oR w2 b):=by
 unfold aa.j6;cases b with
 |true=>
  rw[if_pos rfl] at h;apply ws;intros;refine wD h1 h2 ?_;apply ws;intros;exact h
 |false=>
  rw[if_neg ael] at h;rw[ch];exact h
def ac6(h1:a.dp<aK)(h2:k.move.aB<aK)(h:T W (Sep.pt r4 (ai k.move)::Sep.pt r3 (aJ k)::Sep.pt r2 (ak {a with dp:=if k.fate=1/\k.move.aF=a.id then add a.dp k.move.aB else a.dp})::L) (aa.j7 K r3 r4 (ad r2 0) I1 a4 rA pz ra n2 n3 oR w2)):T W (Sep.pt r4 (ai k.move)::Sep.pt r3 (aJ k)::Sep.pt r2 (ak a)::L) (aa.j5 K r3 r4 (ad r2 0) I1 a4 rA pz ra n2 n3 oR w2):=by
 unfold aa.j5;have fin:∀b:Bool,b=decide (k.fate=1/\k.move.aF=a.id)->T W (Sep.pt r4 (ai k.move)::Sep.pt r3 (aJ k)::Sep.pt r2 (ak a)::L) (aa.j6 K (ad r2 0) r4 r3 I1 a4 rA pz ra n2 n3 oR w2 b):=λb hb=>by
  refine ac5 h1 h2 ?_;have e:(if b=true then add a.dp k.move.aB else a.dp)=(if k.fate=1/\k.move.aF=a.id then add a.dp k.move.aB else a.dp):=by
   subst hb;by_cases hc:k.fate=1/\k.move.aF=a.id
   ·rw[if_pos (decide_eq_true hc),if_pos hc]
   ·rw[if_neg (by rw[decide_eq_false hc];exact ael),if_neg hc]
  rw[e];exact h
 apply ws;intros;refine bE (λg1=>?_) (λg1=>?_)
 ·have g1:k.fate=1:=by simpa using g1
  apply ws;intros;refine fin _ ?_;rw[decide_eq_decide];exact⟨λhh=>⟨g1,hh⟩,λhh=>hh.2⟩
 ·have g1: ¬k.fate=1:=by simpa using g1
  exact fin _ (decide_eq_false (λhh=>g1 hh.1)).symm
def ac7{b:Bool}(h1:a.cq<aK)(h2:k.move.aB<aK)(h:T W (Sep.pt r4 (ai k.move)::Sep.pt r3 (aJ k)::Sep.pt r2 (ak {a with cq:=if b=true then add a.cq k.move.aB else a.cq})::L) (aa.j5 K r3 r4 (ad r2 0) I1 a4 rA pz ra n2 n3 oR w2)):T W (Sep.pt r4 (ai k.move)::Sep.pt r3 (aJ k)::Sep.pt r2 (ak a)::L) (aa.j4 K (ad r2 0) r4 r3 I1 a4 rA pz ra n2 n3 oR w2 b):=by
 unfold aa.j4;cases b with
 |true=>
  rw[if_pos rfl] at h;apply ws;intros;refine wD h1 h2 ?_;apply ws;intros;exact h
 |false=>
  rw[if_neg ael] at h;rw[ch];exact h
def ac8{b1:Bool}(h1:a.cq<aK)(h2:k.move.aB<aK)(h:T W (Sep.pt r4 (ai k.move)::Sep.pt r3 (aJ k)::Sep.pt r2 (ak {a with cq:=if b1=true/\k.move.ar=a.id then add a.cq k.move.aB else a.cq})::L) (aa.j5 K r3 r4 (ad r2 0) I1 a4 rA pz ra n2 n3 oR w2)):T W (Sep.pt r4 (ai k.move)::Sep.pt r3 (aJ k)::Sep.pt r2 (ak a)::L) (aa.j3 K b1 r4 (ad r2 0) r3 I1 a4 rA pz ra n2 n3 oR w2):=by
 unfold aa.j3;have fin:∀b:Bool,b=decide (b1=true/\k.move.ar=a.id)->T W (Sep.pt r4 (ai k.move)::Sep.pt r3 (aJ k)::Sep.pt r2 (ak a)::L) (aa.j4 K (ad r2 0) r4 r3 I1 a4 rA pz ra n2 n3 oR w2 b):=λb hb=>by
  refine ac7 h1 h2 ?_;have e:(if b=true then add a.cq k.move.aB else a.cq)=(if b1=true/\k.move.ar=a.id then add a.cq k.move.aB else a.cq):=by
   subst hb;by_cases hc:b1=true/\k.move.ar=a.id
   ·rw[if_pos (decide_eq_true hc),if_pos hc]
   ·rw[if_neg (by rw[decide_eq_false hc];exact ael),if_neg hc]
  rw[e];exact h
 cases b1 with
 |true=>
  apply ws;intros;refine fin _ ?_;rw[decide_eq_decide];exact⟨λhh=>⟨rfl,hh⟩,λhh=>hh.2⟩
 |false=>
  rw[ch];exact fin _ (decide_eq_false (λhh=>ael hh.1)).symm
def ac9{b:Bool}{b1:Bool}(h1:a.dq<aK)(h2:k.move.aB<aK)(h:T W (Sep.pt r4 (ai k.move)::Sep.pt r3 (aJ k)::Sep.pt r2 (ak {a with dq:=if b=true then add a.dq k.move.aB else a.dq})::L) (aa.j3 K b1 r4 (ad r2 0) r3 I1 a4 rA pz ra n2 n3 oR w2)):T W (Sep.pt r4 (ai k.move)::Sep.pt r3 (aJ k)::Sep.pt r2 (ak a)::L) (aa.j2 K (ad r2 0) r4 b1 r3 I1 a4 rA pz ra n2 n3 oR w2 b):=by
 unfold aa.j2;cases b with
 |true=>
  rw[if_pos rfl] at h;apply ws;intros;refine wD h1 h2 ?_;apply ws;intros;exact h
 |false=>
  rw[if_neg ael] at h;rw[ch];exact h
def ac'{b1:Bool}(h1:a.dq<aK)(h2:k.move.aB<aK)(h:T W (Sep.pt r4 (ai k.move)::Sep.pt r3 (aJ k)::Sep.pt r2 (ak {a with dq:=if b1=true/\k.move.aF=a.id then add a.dq k.move.aB else a.dq})::L) (aa.j3 K b1 r4 (ad r2 0) r3 I1 a4 rA pz ra n2 n3 oR w2)):T W (Sep.pt r4 (ai k.move)::Sep.pt r3 (aJ k)::Sep.pt r2 (ak a)::L) (aa.j1 K r4 (ad r2 0) r3 I1 a4 rA pz ra n2 n3 oR w2 b1):=by
 unfold aa.j1;have fin:∀b:Bool,b=decide (b1=true/\k.move.aF=a.id)->T W (Sep.pt r4 (ai k.move)::Sep.pt r3 (aJ k)::Sep.pt r2 (ak a)::L) (aa.j2 K (ad r2 0) r4 b1 r3 I1 a4 rA pz ra n2 n3 oR w2 b):=λb hb=>by
  refine ac9 h1 h2 ?_;have e:(if b=true then add a.dq k.move.aB else a.dq)=(if b1=true/\k.move.aF=a.id then add a.dq k.move.aB else a.dq):=by
   subst hb;by_cases hc:b1=true/\k.move.aF=a.id
   ·rw[if_pos (decide_eq_true hc),if_pos hc]
   ·rw[if_neg (by rw[decide_eq_false hc];exact ael),if_neg hc]
  rw[e];exact h
 cases b1 with
 |true=>
  apply ws;intros;refine fin _ ?_;rw[decide_eq_decide];exact⟨λhh=>⟨rfl,hh⟩,λhh=>hh.2⟩
 |false=>
  rw[ch];exact fin _ (decide_eq_false (λhh=>ael hh.1)).symm
end
def G2(a:aP):Prop:=a.dp<aK/\a.dq<aK/\a.cp<aK/\a.cq<aK/\0<=a.flags/\a.flags<1000000
def Wu(k:Kept):Prop:=k.move.aB<aK/\0<=k.move.flags/\k.move.flags<1000000
def BR(a b:Nat):add a b<aK:=by
 unfold add;split
 ·assumption
 ·unfold aK;decide
def Qg{a:aP}{k:Kept}(h:G2 a):G2 (sw a k):=by
 obtain⟨h1,h2,h3,h4,h5,h6⟩:=h;refine⟨?_,?_,?_,?_,?_,?_⟩
 ·show(if _ then _ else _)<aK;split;exact BR _ _;exact h1
 ·show(if _ then _ else _)<aK;split;exact BR _ _;exact h2
 ·show(if _ then _ else _)<aK;split;exact BR _ _;exact h3
 ·show(if _ then _ else _)<aK;split;exact BR _ _;exact h4
 ·show 0<=(if gH a.id k then a.flags%8+8 else a.flags);split<;>omega
 ·show(if gH a.id k then a.flags%8+8 else a.flags)<1000000;split<;>omega
def Fv{a:aP}(l:List Kept)(h:G2 a):G2 (l.foldl sw a):=by
 induction l generalizing a with
 |nil=>exact h
 |cons k l ih=>exact ih (Qg h)
section
variable {W w2:World} {L R:LH} {K:VK} {r2 r3 r4 p:Nat} {a:aP} {k:Kept} {m:Model} {mb kb:OA} {mc kc:Nat} {I1:LV->World->Prop} {oR:LV->World->Nat} {a4:Addr} {rA:OA} {pz ra:Nat} {n2 n3:Int}
def Vw{b1:Bool}(ha:G2 a)(hk:Wu k)(hb:b1=decide (ie k))
 (h:T W (Sep.pt r4 (ai k.move)::Sep.pt r3 (aJ k)::Sep.pt r2 (ak (sw a k))::L) (yq I1 oR w2 a4 (ad r2 0) rA pz ra n2 n3)):
 T W (Sep.pt r4 (ai k.move)::Sep.pt r3 (aJ k)::Sep.pt r2 (ak a)::L) (aa.j1 K r4 (ad r2 0) r3 I1 a4 rA pz ra n2 n3 oR w2 b1):=by
 obtain⟨h1,h2,h3,h4,h5,h6⟩:=ha;obtain⟨k1,k2,k3⟩:=hk;have e:∀(P:Prop) [Decidable P](x y:Nat),(if b1=true/\P then x else y)=if ie k/\P then x else y:=λP _ x y=>by
  subst hb;by_cases hc:ie k
  ·by_cases hp:P
   ·rw[if_pos ⟨decide_eq_true hc,hp⟩,if_pos ⟨hc,hp⟩]
   ·rw[if_neg (λhh=>hp hh.2),if_neg (λhh=>hp hh.2)]
  ·rw[if_neg (λhh=>hc (of_decide_eq_true hh.1)),if_neg (λhh=>hc hh.1)]
 refine ac' h2 k1 ?_;refine ac8 h4 k1 ?_;refine ac6 h1 k1 ?_;refine ac4 h3 k1 ?_;refine ac2 (show 0<=a.flags/\a.flags<1000000 from⟨h5,h6⟩) ⟨k2,k3⟩ ?_;rw[e,e];exact h
def zL{i:Nat}(hn:m.kept.length<1000000)(hx:m.made[i]?=some a)(ha:G2 a)(hk:∀k∈m.kept,Wu k)
 (h:T W (ML p m mb mc kb kc R) (K (.agg ⟨ak (m.kept.foldl sw a)⟩))):T W (ML p m mb mc kb kc R) (aa (some ⟨p,0,none⟩) (i:Int) K):=by
 unfold aa;have K8:=(adU.1 hx).1;apply ws;intros;rename_i r1;refine bQ (b:=mb) ⟨by omega,by omega⟩ λrb hb=>?_;rw[adT];subst hb;refine dx eY hx ?_;apply ws;intros;rename_i r2;intro w ju;refine⟨λvv w=>∃j:Nat,j<=m.kept.length/\vv=[.p (some (ad r1 0)),.p (some (ad r2 0)),.l kb m.kept.length kc,.i (m.kept.length:Int),.i (j:Int)]/\St W w (Sep.pt r2 (ak ((m.kept.take j).foldl sw a))::Sep.pt r1 (ak zA)::ML p m (some ⟨rb,0,none⟩) mc kb kc R),
  λvs _=>match vs with|[_,_,_,_,.int _ d]=>m.kept.length-d.toNat|_=>0,⟨0,ad2 _,rfl,ju⟩,?_⟩
 rintro a4 a5 rA pz ra n2 n3 w2 ⟨j,hj,e,fh⟩;cases e
 refine T.at ?_ fh;have e5:=lY j;refine dP (λg1=>?_) (λg1=>?_)
 ·have aZ:j<m.kept.length:=by omega
  have gx:=adS aZ;have NP:=hk _ (aeg aZ);generalize m.kept[j]=x at gx NP;refine bQ (b:=kb) ⟨by omega,by omega⟩ λrk tY=>?_;rw[adT];subst tY;refine dx fA gx ?_;apply ws;intros;rename_i r3 r4;have aaS:=Fv (m.kept.take j) ha;have dZ:(m.kept.take (j+1)).foldl sw a=sw ((m.kept.take j).foldl sw a) x:=by rw[aeb,gx,List.foldl_append];rfl
  have fin:∀b1:Bool,b1=decide (ie x)->T W (Sep.pt r4 (ai x.move)::Sep.pt r3 (aJ x)::Sep.pt r2 (ak ((m.kept.take j).foldl sw a))::Sep.pt r1 (ak zA)::ML p m (some ⟨rb,0,none⟩) mc (some ⟨rk,0,none⟩) kc R)
   (aa.j1 K r4 (ad r2 0) r3 (λvv w=>∃j:Nat,j<=m.kept.length/\vv=[.p (some (ad r1 0)),.p (some (ad r2 0)),.l (some ⟨rk,0,none⟩) m.kept.length kc,.i (m.kept.length:Int),.i (j:Int)]/\St W w (Sep.pt r2 (ak ((m.kept.take j).foldl sw a))::Sep.pt r1 (ak zA)::ML p m (some ⟨rb,0,none⟩) mc (some ⟨rk,0,none⟩) kc R)) (ad r1 0) (some ⟨rk,0,none⟩) m.kept.length kc (m.kept.length:Int) (j:Int) (λvs _=>match vs with|[_,_,_,_,.int _ d]=>m.kept.length-d.toNat|_=>0) w2 b1):=λb1 Pz=>by
   refine Vw aaS NP Pz ?_;unfold yq;rw[e5];refine T.drop (T.drop λw3 h3=>⟨⟨j+1,aZ,rfl,by rw[dZ];exact h3⟩,by show m.kept.length-((j+1:Nat):Int).toNat<m.kept.length-(j:Int).toNat;omega⟩)
  refine hG ⟨NP.2.1,NP.2.2⟩ (by decide) ?_;apply ws;intros;by_cases g2:has x.move.flags 2
  ·rw[decide_eq_true g2];apply ws;intros;exact fin _ (decide_eq_false (λhh=>hh.1 g2)).symm
  ·rw[decide_eq_false g2];apply ws;intros;refine hG ⟨NP.2.1,NP.2.2⟩ (by decide) ?_;apply ws;intros;refine fin _ ?_;by_cases g3:has x.move.flags 8
   ·rw[decide_eq_true g3];exact(decide_eq_false (λhh=>hh.2 g3)).symm
   ·rw[decide_eq_false g3];exact(decide_eq_true (show ie x from⟨g2,g3⟩)).symm
 ·have gr:j=m.kept.length:=by omega
  subst gr;rw[ad5];apply ws;intros;exact T.dp h
def yI(hm:m.made.length<1000000)(hn:m.kept.length<1000000)(ha:∀a∈m.made,G2 a)(hk:∀k∈m.kept,Wu k)
 (h:∀ob oc,T W (ML p m mb mc kb kc (own ob m.made.length oc 14 ((m.made.map m.full).flatMap ak)::R)) (K (.l ob m.made.length oc))):T W (ML p m mb mc kb kc R) (dN (some ⟨p,0,none⟩) K):=by
 unfold dN;apply ws;intros;refine eW (e:=14) ?_;refine T.perm (L:=ML p m mb mc kb kc (own none 0 0 14 []::R)) ?_ (ad1 (l₁:=[own none 0 0 14 []]) (l₂:=[_,_,_])|>.append_right R);intro w ju;refine⟨λvv w=>∃(i:Nat)(ob:OA)(oc:Nat)(out:List aP),i<=m.made.length/\out=(m.made.take i).map m.full/\vv=[.l none 0 0,.l ob i oc,.i (m.made.length:Int),.i (i:Int)]/\St W w (ML p m mb mc kb kc (own ob i oc 14 (out.flatMap ak)::R)),
  λvs _=>match vs with|[_,_,_,.int _ d]=>m.made.length-d.toNat|_=>0,⟨0,none,0,[],ad2 _,rfl,rfl,ju⟩,?_⟩
 rintro uR qe uQ ob i oc n1 n2 w2 ⟨i0,ob0,oc0,out,hi,tu,e,fh⟩;cases e
 refine T.at ?_ fh;have e5:=lY i;refine dP (λg1=>?_) (λg1=>?_)
 ·have aZ:i<m.made.length:=by omega
  have gx:=adS aZ;have hax:=ha _ (aeg aZ);generalize m.made[i]=x at gx hax;refine zL hn gx hax hk ?_;apply ws;intros;refine gZ (g:=ak) (l:=out) (x:=m.full x) (aed _) rfl rfl (by omega) (by omega) (eV _) λb' c'=>?_;rw[e5];refine T.drop λw3 h3=>⟨⟨i+1,b',c',out++[m.full x],aZ,?_,rfl,h3⟩,by show m.made.length-((i+1:Nat):Int).toNat<m.made.length-(i:Int).toNat;omega⟩;rw[aeb,gx,aep,tu];rfl
 ·have gr:i=m.made.length:=by omega
  subst gr;rw[ad5] at tu;subst tu;exact h ob oc
end
instance V5{m:Model}{mb kb:OA}{mc kc:Nat}{c:Int}:Wr (zp m mb mc kb kc) 3 [.i c] (zp {m with ae:=c} mb mc kb kc):=⟨rfl,by show 4<=4;decide,λv h=>by simp at h;subst h;rfl⟩
instance Xc{m:Model}{mb kb b:OA}{mc kc n c:Nat}:Wr (zp m mb mc kb kc) 1 [.l b n c] [.l mb m.made.length mc,.l b n c,.i m.clock,.i m.ae]:=⟨rfl,by show 2<=4;decide,λv h=>by simp at h;subst h;rfl⟩
instance Xb{m:Model}{mb kb b:OA}{mc kc n c:Nat}:Wr (zp m mb mc kb kc) 0 [.l b n c] [.l b n c,.l kb m.kept.length kc,.i m.clock,.i m.ae]:=⟨rfl,by show 1<=4;decide,λv h=>by simp at h;subst h;rfl⟩
section
variable {W w2:World} {L R:LH} {K:VK} {p:Nat} {a:aP} {t u:Move} {m:Model} {mb kb:OA} {mc kc:Nat}
def DV{fate:Int}(hn:m.kept.length<1000000)(hs:0<=m.ae/\m.ae<1000000)
 (h:∀b c,T W (ML p (m.ka t u fate) mb mc b c R) (K (.tuple ⟨[]⟩))):T W (ML p m mb mc kb kc R) (dR (some ⟨p,0,none⟩) (ai t) (ai u) fate K):=by
 unfold dR;have e1:adP.wrap (m.ae+1)=m.ae+1:=aw (by omega);apply ws;intros;rw[e1];refine gZ (b:=kb) (g:=aJ) (l:=m.kept) (x:=⟨t,{u with ae:=m.ae+1,born:=m.clock},fate⟩) (aed _) rfl rfl (by show(m.kept.length+1)* 264<=_;omega) (by show m.kept.length+1<=_;omega) (jf _) λb' c'=>?_;apply ws;intros;have:=h b' c';unfold Model.ka ML zp at this;simp only[adV,ad',aen,adW] at this;refine T.sub this ?_;exact nh
end
section
variable {W:World} {L R:LH} {K:VK} {X:WK} {p r e:Nat} {A B:HP} {m:Model} {mb kb:OA} {mc kc:Nat}
def xE(e:Nat)(h:T W (own (some ⟨r,0,none⟩) 0 0 e []::L) X):T W (Sep.pt r []::L) X:=λw hs=>
 h w (St.xQ (k:=0) (L:=Sep.pt r []::L) (xs:=[]) (sp:=[]) (n:=0) (c:=0) (e:=e) (by simp) (by simp) (adY _) (by simp) hs)
def T.swap(h:T W (B::A::L) X):T W (A::B::L) X:=T.perm h (aej.swap _ _ _)
def T.MS{C:HP}(h:T W (A::C::B::L) X):T W (A::B::C::L) X:=T.perm h ((aej.swap _ _ _).cons _)
def DW(hm:m.made.length<1000000)(hn:m.kept.length<1000000)
 (h:∀p2 mb2 mc2 kb2 kc2,T W (ML p2 m mb2 mc2 kb2 kc2 (ML p m mb mc kb kc R)) (K (.p (some ⟨p2,0,none⟩)))):T W (ML p m mb mc kb kc R) (dS (some ⟨p,0,none⟩) K):=by
 unfold dS
 repeat' first|apply ws;intros|apply wb
 ·rename_i r1;refine xE 14 ?_;refine nC (l0:=([]:List aP)) (l1:=m.made) eY rfl (by omega) eV λb2 c2=>?_;rw[adW,aev];apply ws;intros;refine xE 33 ?_;refine nC (l0:=([]:List Kept)) (l1:=m.kept) fA rfl (by omega) jf λb3 c3=>?_;rw[adW,aev];apply ws;intros;exact T.MS (h _ _ _ _ _)
 ·rename_i r1 r4;refine T.swap ?_;refine xE 14 ?_;refine nC (l0:=([]:List aP)) (l1:=m.made) eY rfl (by omega) eV λb2 c2=>?_;rw[adW,aev];refine T.swap ?_;apply ws;intros;refine xE 33 ?_;refine nC (l0:=([]:List Kept)) (l1:=m.kept) fA rfl (by omega) jf λb3 c3=>?_;rw[adW,aev];apply ws;intros;exact T.MS (h _ _ _ _ _)
 ·rename_i r6 r7;refine xE 14 ?_;refine nC (l0:=([]:List aP)) (l1:=m.made) eY rfl (by omega) eV λb2 c2=>?_;rw[adW,aev];refine T.swap ?_;apply ws;intros;refine xE 33 ?_;refine nC (l0:=([]:List Kept)) (l1:=m.kept) fA rfl (by omega) jf λb3 c3=>?_;rw[adW,aev];apply ws;intros;exact T.MS (h _ _ _ _ _)
end
section
variable {W:World} {L R:LH} {K:VK} {X:WK} {p r e:Nat} {a:aP} {m:Model} {mb kb:OA} {mc kc:Nat}
def O0{ks:List Kept}(hl:ks.length=m.kept.length)(h:T W (ML p {m with kept:=ks} mb mc kb kc R) X):T W (Sep.pt p (zp m mb mc kb kc)::own mb m.made.length mc 14 (m.made.flatMap ak)::own kb m.kept.length kc 33 (ks.flatMap aJ)::R) X:=by
 unfold ML zp at h;rw[hl] at h;exact h
def Kw{RD i id:Nat}{x:Kept}(hm:m.made.length<1000000)(hn:m.kept.length<1000000)(gx:m.kept[RD]?=some x)(hi:Bg (λx:aP=>decide (x.id=id)) m.made=(i:Int))(hx:m.made[i]?=some a)(ha:G2 a)(hk:∀k∈m.kept,Wu k)
 (h:T W (ML p m mb mc kb kc R) (K (.bool (decide (8<=((m.kept.set RD {x with fate:=3}).foldl sw a).flags))))):T W (ML p m mb mc kb kc R) (dE (some ⟨p,0,none⟩) (nm id) (RD:Int) K):=by
 unfold dE;have XZ:=(adU.1 gx).1;have NP:Wu x:=hk x (aek gx);apply ws;intros;rename_i r1;refine T.perm (L:=ML p m mb mc kb kc (Sep.pt r1 (nm id)::R)) ?_ (ad1 (l₁:=[Sep.pt r1 (nm id)]) (l₂:=[_,_,_])|>.append_right R);refine DW hm hn λp2 mb2 mc2 kb2 kc2=>?_;apply ws;intros;refine bQ (b:=kb2) ⟨by omega,by omega⟩ λrb hb=>?_;rw[adT];subst hb;refine IX ?_;refine Aq (o:=RD) (x:=x) (y:={x with fate:=3}) fA gx rfl (by decide) rfl ?_;apply ws;intros;refine O0 (ks:=m.kept.set RD {x with fate:=3}) aeX ?_;refine sx (m:={m with kept:=m.kept.set RD {x with fate:=3}}) hm ?_;rw[hi];apply ws;intros;refine zL (m:={m with kept:=m.kept.set RD {x with fate:=3}}) (by rw[aeX];exact hn) hx ha (λk rl=>?_) ?_
 ·rcases aeI rl with hh|hh
  ·exact hk k hh
  ·subst hh;exact NP
 apply ws;intros;intro w hw;refine⟨_,rfl,?_⟩
 revert w hw
 show T W _ _;apply ws;intros;refine T.sub h ?_;exact nh
end
section
variable {W:World} {L R:LH} {K:VK} {X:WK} {t u:Move}
def KA(h:T W L (K (.agg ⟨nm (aK-1)⟩))):T W L (kn K):=by
 unfold kn;apply ws;intros;exact T.dp h
def AU(ht:0<=t.flags/\t.flags<1000000)(hu:0<=u.flags/\u.flags<1000000)(h:T W L (K (.i (qx t u)))):T W L (ia (ai t) (ai u) K):=by
 unfold ia;unfold qx at h
 repeat' first|apply ws;intros|apply wb|with_reducible refine cN (by decide) ?_|fail
 rw[uI ht.1 ht.2 (by decide)]
 repeat' first|apply ws;intros|apply wb|with_reducible refine cN (by decide) ?_|fail
 rw[uI hu.1 hu.2 (by decide)]
 repeat' first|apply ws;intros|apply wb|with_reducible refine MJ ?_|fail
 refine dP (λg1=>?_) (λg1=>?_)
 ·rw[if_pos g1] at h;exact T.dp h
 ·rw[if_neg g1] at h;exact T.dp h
end
def I'{m j:Nat}(hj:j<=64):shr .u64 (m:Int) (j:Int)=((m/2^j:Nat):Int):=by
 unfold shr;rw[adT,show min j IntKind.u64.bits=j from afj hj,Int.fdiv_eq_ediv_of_nonneg _ (by exact Int.le_of_lt (Int.pow_pos (by decide)))];rw[show((2:Int)^j)=((2^j:Nat):Int) by push_cast;rfl];exact(Int.natCast_ediv _ _).symm
def JZ(m:Nat):adP.wrap (((m:Nat):Int).tmod (2:Int))=((m%2:Nat):Int):=by
 rw[aeA (by omega)];rw[aw (by omega)];omega
section
variable {W:World} {L R:LH} {K:VK} {X:WK}
def qg{n j:Nat}(hn:n<aK)(hj:j<128)(h:T W L (K (.i ((n/2^j%2:Nat):Int)))):T W L (dB (nm n) (j:Int) K):=by
 unfold dB;unfold nm;apply ws;intros;refine dP (λg1=>?_) (λg1=>?_)
 ·obtain⟨i,rfl⟩:∃i:Nat,j=64+i:=⟨j-64,by omega⟩;have e1:adP.wrap (((64+i:Nat):Int) -64)=(i:Int):=by rw[aw (by omega)];omega
  have e2:IntKind.u64.wrap (i:Int)=(i:Int):=by rw[Go.Up.og];omega
  rw[e1,e2];apply ws;intros;refine cN (by omega) ?_;refine cN (by decide) ?_;rw[I' (by omega),JZ];have e3:n/2^(64+i)=n/18446744073709551616/2^i:=by rw[Nat.div_div_eq_div_mul,Nat.pow_add]
  rw[e3] at h;exact T.dp h
 ·have e2:IntKind.u64.wrap (j:Int)=(j:Int):=by rw[Go.Up.og];omega
  rw[e2];apply ws;intros;refine cN (by omega) ?_;refine cN (by decide) ?_;rw[I' (by omega),JZ];have e3:n%18446744073709551616/2^j%2=n/2^j%2:=by
   rw[show(18446744073709551616:Nat)=2^j* 2^(64-j) by rw[<-Nat.pow_add,show j+(64-j)=64 by omega],Nat.mod_mul_right_div_self];exact Nat.mod_mod_of_dvd _ ⟨2^(63-j),by rw[show 64-j=1+(63-j) by omega,Nat.pow_add]⟩
  rw[e3];exact T.dp h
end
def xg(a i:Nat):a/2^i/2=a/2^(i+1):=by rw[Nat.div_div_eq_div_mul,Nat.pow_succ]
def NC{a b i:Nat}(h:a/2^(i+1)=b/2^(i+1))(gU:a/2^i%2≠b/2^i%2):decide (((a/2^i%2:Nat):Int)<((b/2^i%2:Nat):Int))=decide (a<b):=by
 rw[<-xg,<-xg] at h;rw[decide_eq_decide]
 constructor
 ·intro hl;have:a/2^i<b/2^i:=by omega
  exact Nat.lt_of_not_le λhh=>absurd (Nat.div_le_div_right (c:=2^i) hh) (by omega)
 ·intro hl;have:=Nat.div_le_div_right (c:=2^i) (Nat.le_of_lt hl);omega
section
variable {W:World} {L R:LH} {K:VK} {X:WK}
def uy{a b:Nat}(ha:a<aK)(hb:b<aK)(h:T W L (K (.bool (decide (a<b))))):T W L (fj (nm a) (nm b) K):=by
 unfold fj;apply ws;intros;rename_i r1 r2;intro w ju;refine⟨λvv w=>∃j:Nat,j<=128/\a/2^j=b/2^j/\vv=[.p (some (ad r1 0)),.p (some (ad r2 0)),.bool false,.i ((j:Int) -1)]/\St W w (Sep.pt r2 (nm b)::Sep.pt r1 (nm a)::L),
  λvs _=>match vs with|[_,_,_,.int _ d]=>(d+1).toNat|_=>0,⟨128,adY _,by rw[Nat.div_eq_of_lt (show a<2^128 from ha),Nat.div_eq_of_lt (show b<2^128 from hb)],rfl,ju⟩,?_⟩
 rintro a1 a2 b1 n1 w2 ⟨j,hj,heq,e,fh⟩;cases e
 refine T.at ?_ fh;refine dP (λg1=>?_) (λg1=>?_)
 ·obtain⟨i,rfl⟩:∃i:Nat,j=i+1:=⟨j-1,by omega⟩;have e1:(((i+1:Nat):Int) -1)=(i:Int):=by omega
  have e2:adP.wrap ((i:Int) -1)=(i:Int) -1:=aw (by omega);rw[e1,e2];apply ws;intros;refine qg ha (by omega) ?_;apply ws;intros;refine qg hb (by omega) ?_;apply ws;intros;refine bE (λg2=>?_) (λg2=>?_)
  ·have g2:a/2^i%2≠b/2^i%2:=λhh=>by rw[hh] at g2;simp at g2
   apply ws;intros;refine qg ha (by omega) ?_;apply ws;intros;refine qg hb (by omega) ?_;apply ws;intros;rw[NC heq g2];exact T.dp h
  ·have g2:a/2^i%2=b/2^i%2:=by
    have: ¬((a/2^i%2:Nat):Int)≠((b/2^i%2:Nat):Int):=λhh=>by rw[bne_iff_ne.2 hh] at g2;cases g2
    omega
   exact λw3 h3=>⟨⟨i,by omega,by have h1:=xg a i;have h2:=xg b i;omega,rfl,h3⟩,by show((i:Int) -1+1).toNat<((i:Int)+1).toNat;omega⟩
 ·have hz:j=0:=by omega
  subst hz;rw[Nat.pow_zero,Nat.div_one,Nat.div_one] at heq;rw[decide_eq_false (by omega)] at h;exact T.dp h
end
section
variable {W:World} {L R:LH} {K:VK} {X:WK}
def AP{a b:Nat}(ha:a<aK)(hb:b<aK)(h:T W L (K (.agg ⟨nm (if a<b then a else b)⟩))):T W L (hU (nm a) (nm b) K):=by
 unfold hU;apply ws;intros;refine uy ha hb ?_;by_cases g1:a<b
 ·rw[if_pos g1] at h;rw[decide_eq_true g1];apply ws;intros;exact T.dp h
 ·rw[if_neg g1] at h;rw[decide_eq_false g1];apply ws;intros;exact T.dp h
end
section
variable {W:World} {L R:LH} {K:VK} {X:WK} {t:Move}
def Cf(ht:0<=t.flags/\t.flags<1000000)(h:T W L (K (.bool (decide (ft t.flags))))):T W L (aL (ai t) K):=by
 have he:ft t.flags↔ ¬(has t.flags 2/\has t.flags 4\/has t.flags 2/\has t.flags 8\/has t.flags 4/\has t.flags 8)/\ ¬((has t.flags 4\/has t.flags 8)/\16<=t.flags)/\(t.flags<64\/has t.flags 2):=Iff.rfl;obtain⟨b2,h2⟩:∃b,b=decide (has t.flags 2):=⟨_,rfl⟩;obtain⟨b4,h4⟩:∃b,b=decide (has t.flags 4):=⟨_,rfl⟩;obtain⟨b8,h8⟩:∃b,b=decide (has t.flags 8):=⟨_,rfl⟩;have H2:∀{L':LH} {K':VK},T W L' (K' (.bool b2))->T W L' (aO (ai t) 2 K'):=λhh=>hG ht (by decide) (by rw[<-h2];exact hh);have H4:∀{L':LH} {K':VK},T W L' (K' (.bool b4))->T W L' (aO (ai t) 4 K'):=λhh=>hG ht (by decide) (by rw[<-h4];exact hh);have H8:∀{L':LH} {K':VK},T W L' (K' (.bool b8))->T W L' (aO (ai t) 8 K'):=λhh=>hG ht (by decide) (by rw[<-h8];exact hh);have hE:∀{L':LH} {K':VK},T W L' (K' (.bool (b4||b8)))->T W L' (dI (ai t) K'):=λ{L'} {K'} hh=>rG ht (by
  have e:decide (gv t.flags)=(b4||b8):=by rw[h4,h8];exact Bool.decide_or (has t.flags 4) (has t.flags 8)
  rw[e];exact hh)
 unfold aL aL.j3 aL.j4 aL.j1 aL.j2;have h2:=h2.symm;have h4:=h4.symm;have h8:=h8.symm;cases b2<;>cases b4<;>cases b8<;>simp only[decide_eq_true_eq,decide_eq_false_iff_not] at h2 h4 h8<;>simp only[Bool.or_true,Bool.or_false,Bool.true_or,Bool.false_or] at hE
 all_goals
  repeat' first|apply ws;intros|apply wb|with_reducible first|refine H2 ?_|refine H4 ?_|refine H8 ?_|refine hE ?_|refine bE (λh1=>?_) (λh1=>?_)|fail
 all_goals
  refine T.fin (T.dp h) ?_
  congr 1
  clear H2 H4 H8 hE h
  (try simp only[decide_eq_true_eq,decide_eq_false_iff_not] at *)
  rw[aee,decide_eq_true_eq,he];simp only[h2,h4,h8,Bool.true_eq_false,aeh,eq_self,true_and,and_true,false_and,and_false,or_true,or_false,true_or,false_or,not_true_eq_false,not_false_eq_true,true_iff,false_iff]
  try omega
end
def Mh(d:Nat):LV:=[.i (d:Int)]
def z7(d:Nat):(Mh d).length=1:=rfl
def rm:List Nat->Nat
 |[]=>0
 |d::l=>d* 10^l.length+rm l
def qQ(l:List Nat):List UInt8:=l.map λd=>UInt8.ofNat (48+d)
def zZ:∀(l:List Nat),(∀d∈l,d<10)->rm l<10^l.length
 |[],_=>by show 0<1;decide
 |d::l,h=>by
  have ih:=zZ l (λx hx=>h x (aeW _ hx));have hd:=h d List.mem_cons_self;have:d* 10^l.length<=9* 10^l.length:=aeE _ (by omega);simp only[rm,ad',Nat.pow_succ];omega
def GB:∀(l m:List Nat),(∀d∈l,d<10)->(∀d∈m,d<10)->l.length=m.length->rm l=rm m->l=m
 |[],m,_,_,hl,_=>by cases m with|nil=>rfl|cons a b=>simp at hl
 |d::l,[],_,_,hl,_=>by simp at hl
 |d::l,e::m,h1,h2,hl,hv=>by
  have Pr:l.length=m.length:=by simpa using hl
  have a1:=zZ l (λx hx=>h1 x (aeW _ hx));have a2:=zZ m (λx hx=>h2 x (aeW _ hx));simp only[rm,Pr] at hv a1;have hp:0<10^m.length:=Nat.pow_pos (by decide);have hde:d=e:=by
   have e1:(d* 10^m.length+rm l)/10^m.length=d:=by rw[afr,Nat.mul_add_div hp,Nat.div_eq_of_lt a1,aeN]
   have e2:(e* 10^m.length+rm m)/10^m.length=e:=by rw[afr,Nat.mul_add_div hp,Nat.div_eq_of_lt a2,aeN]
   rw[<-e1,hv,e2]
  subst hde;rw[GB l m (λx hx=>h1 x (aeW _ hx)) (λx hx=>h2 x (aeW _ hx)) Pr (by omega)]
structure Cv(a j:Nat)(l:List Nat):Prop where
 val:rm l=a/2^j
 small:∀d∈l,d<10
 norm:l.length=1\/10^(l.length-1)<=rm l
 len:1<=l.length/\l.length<=129-j
def Cv.step{a j c:Nat}{l tl:List Nat}(h:Cv a (j+1) l)(hj:j<128)(hl:tl.length=l.length)(ht:∀d∈tl,d<10)(hc:c<=1)(he:2* rm l+a/2^j%2=c* 10^l.length+rm tl):
 (c=0->Cv a j tl)/\(0<c->Cv a j (c::tl)):=by
 have hv:=h.val;have h2:=xg a j;have hle:=h.len;have e:2* rm l+a/2^j%2=a/2^j:=by rw[hv,<-h2];omega
 refine⟨λh0=>?_,λh0=>?_⟩
 ·subst h0;rw[Nat.zero_mul,adW] at he;refine⟨by rw[<-he,e],ht,?_,by rw[hl];omega⟩;rw[hl];rcases h.norm with hn|hn
  ·exact .inl hn
  ·exact .inr (by omega)
 ·have h1:c=1:=by omega
  subst h1;refine⟨by simp only[rm,hl];omega,λd hd=>?_,.inr ?_,by simp only[ad',hl];omega⟩
  ·rcases ae'.1 hd with hd|hd
   ·omega
   ·exact ht d hd
  ·simp only[rm,ad',Nat.add_sub_cancel];omega
def Cv.first{a:Nat}(ha:a<aK):Cv a 128 [0]:=⟨by rw[Nat.div_eq_of_lt (show a<2^128 from ha)];rfl,λd hd=>by simp at hd;omega,.inl rfl,by simp⟩
def Lu:List Nat:=[3,4,0,2,8,2,3,6,6,9,2,0,9,3,8,4,6,3,4,6,3,3,7,4,6,0,7,4,3,1,7,6,8,2,1,1,4,5,5]
def Ds:∀(l m:List Nat),(∀d∈l,d<10)->(∀d∈m,d<10)->qQ l=qQ m->l=m
 |[],[],_,_,_=>rfl
 |[],e::m,_,_,h=>by simp[qQ] at h
 |d::l,[],_,_,h=>by simp[qQ] at h
 |d::l,e::m,h1,h2,h=>by
  simp only[qQ,aet,List.cons.injEq] at h;obtain⟨hd,ht⟩:=h;have b1:=h1 d List.mem_cons_self;have b2:=h2 e List.mem_cons_self;have:d=e:=by
   have:=congrArg UInt8.toNat hd;simp only[UInt8.toNat_ofNat'] at this;omega
  subst this;rw[Ds l m (λx hx=>h1 x (aeW _ hx)) (λx hx=>h2 x (aeW _ hx)) ht]
def Cv.last{a:Nat}{l:List Nat}(h:Cv a 0 l):(qQ l=qQ Lu↔a=aK-1):=by
 have hv:rm l=a:=by have:=h.val;rwa[Nat.pow_zero,Nat.div_one] at this
 have hmx:∀d∈Lu,d<10:=by decide
 have pa:rm Lu=aK-1:=by decide+kernel
 constructor
 ·intro he;have:=Ds l Lu h.small hmx he;rw[<-hv,this,pa]
 ·intro he;have hlen:l.length=39:=by
   have h1:=zZ l h.small;rw[hv,he] at h1;rcases h.norm with hn|hn
   ·rw[hn] at h1;exact absurd h1 (by decide)
   ·rw[hv,he] at hn;have a1:l.length-1<39:=Nat.lt_of_not_le λhh=>absurd (Nat.le_trans (aeJ (by decide) hh) hn) (by decide+kernel);have a2:38<l.length:=Nat.lt_of_not_le λhh=>absurd (Nat.lt_of_lt_of_le h1 (aeJ (by decide) hh)) (by decide+kernel);have:=h.len;omega
  rw[GB l Lu h.small hmx hlen (by rw[hv,he,pa])]
section
variable {W:World} {L R:LH} {K:VK} {X:WK}
def IY{r d:Nat}(h:T W (own (some ⟨r,0,none⟩) 1 1 1 ([d].flatMap Mh)::L) X):T W (Sep.pt r [.i (d:Int)]::L) X:=λw hs=>
 h w (St.xQ (k:=0) (L:=Sep.pt r [.i (d:Int)]::L) (xs:=[d].flatMap Mh) (sp:=[]) (n:=1) (c:=1) (e:=1) (by simp) (by simp[Mh]) (adY _) (by simp) hs)
def KE{a:Nat}(ha:a<aK)(h:∀s:BA,oX s (⟨#[51,52,48,50,56,50,51,54,54,57,50,48,57,51,56,52,54,51,52,54,51,51,55,52,54,48,55,52,51,49,55,54,56,50,49,49,52,53,53]⟩:BA)=decide (a=aK-1)->T W L (K (.string s))):T W L (gp (nm a) K):=by
 unfold gp;apply ws;intros;rename_i r1 r2;refine IY (d:=0) ?_;intro w ju;refine⟨λvv w=>∃(j:Nat)(l:List Nat)(b:OA)(c:Nat),j<=128/\Cv a j l/\vv=[.p (some (ad r1 0)),.string .empty,.l b l.length c,.i ((j:Int) -1)]/\St W w (own b l.length c 1 (l.flatMap Mh)::Sep.pt r1 (nm a)::L),
  λvs _=>match vs with|[_,_,_,.int _ d]=>(d+1).toNat|_=>0,⟨128,[0],_,_,adY _,Cv.first ha,rfl,ju⟩,?_⟩
 rintro a1 s1 M5 VR P7 n1 w2 ⟨j,l,b,c,hj,hd,e,fh⟩;cases e
 refine T.at ?_ fh;refine dP (λg1=>?_) (λg1=>?_)
 ·obtain⟨i,rfl⟩:∃i:Nat,j=i+1:=⟨j-1,by omega⟩;have e1:(((i+1:Nat):Int) -1)=(i:Int):=by omega
  have e2:adP.wrap ((i:Int) -1)=(i:Int) -1:=aw (by omega);have hlen:=hd.len;rw[e1];apply ws;intros;refine qg ha (by omega) ?_;apply ws;intros;rw[aw (show-9223372036854775808<=(l.length:Int) -1/\(l.length:Int) -1<=9223372036854775807 by omega)];have aaW:a/2^i%2<=1:=by omega
  intro w3 rB;refine⟨λvv w=>∃(k cc:Nat)(tl:List Nat),k<=l.length/\tl.length=l.length-k/\(∀d∈tl,d<10)/\cc<=1/\2* rm (l.drop k)+a/2^i%2=cc* 10^(l.length-k)+rm tl/\
   vv=[.p (some (ad r1 0)),.string .empty,.l M5 l.length P7,.i (i:Int),.i (cc:Int),.i ((k:Int) -1)]/\St W w (own M5 l.length P7 1 ((l.take k++tl).flatMap Mh)::Sep.pt r1 (nm a)::L),
   λvs _=>match vs with|[_,_,_,_,_,.int _ d]=>(d+1).toNat|_=>0,⟨l.length,a/2^i%2,[],adY _,by simp,(λd hd=>by cases hd),aaW,by rw[List.drop_length,afe];simp[rm],rfl,by rw[ad5,aed];exact rB⟩,?_⟩
  rintro a2 s2 uR qe uQ n3 n4 n5 w4 ⟨k,cc,tl,hk,zu,htd,NX,zt,e,uE⟩;cases e
  refine T.at ?_ uE;refine dP (λg2=>?_) (λg2=>?_)
  ·obtain⟨q,rfl⟩:∃q:Nat,k=q+1:=⟨k-1,by omega⟩;have e3:(((q+1:Nat):Int) -1)=(q:Int):=by omega
   rw[e3];have gx:=adS (show q<l.length by omega);have hdx:=hd.small _ (aeg (show q<l.length by omega));have Gj:l.drop q=l[q]::l.drop (q+1):=aex (by omega);have te:l.take (q+1)=l.take q++[l[q]]:=by rw[aeb,gx];rfl
   generalize l[q]=d at gx hdx Gj te;have hlq:(l.take q).length=q:=by rw[adX,afj (by omega)]
   have gy:(l.take (q+1)++tl)[q]?=some d:=by
    rw[te,ad0,aes (by omega),hlq,afe];rfl
   refine bQ (b:=M5) ⟨by omega,by omega⟩ λrb hb=>?_;rw[adT];subst hb;refine vo (g:=Mh) z7 gy rfl ?_;refine lG ?_;refine cN (by decide) ?_;refine bQ (b:=some ⟨rb,0,none⟩) ⟨by omega,by omega⟩ λPf hb=>?_;rw[adT];cases hb
   have w1:adP.wrap (2* (d:Int))=2* (d:Int):=aw (by omega);have w2':adP.wrap (2* (d:Int)+(cc:Int))=((2* d+cc:Nat):Int):=by rw[aw (by omega)];omega
   have w3':((2* d+cc:Nat):Int).tmod 10=(((2* d+cc)%10:Nat):Int):=by rw[aeA (by omega)];omega
   have w4':adP.wrap (((2* d+cc:Nat):Int).tdiv 10)=(((2* d+cc)/10:Nat):Int):=by rw[Int.tdiv_eq_ediv_of_nonneg (by omega),aw (by omega)];omega
   have w5':adP.wrap ((q:Int) -1)=(q:Int) -1:=aw (by omega);rw[w1,w2',w3',w4',w5'];refine Aq (o:=q) (j:=0) (x:=d) (y:=(2* d+cc)%10) (g:=Mh) z7 gy rfl (by decide) rfl ?_;refine cN (by decide) ?_;have K1:(l.take (q+1)++tl).set q ((2* d+cc)%10)=l.take q++((2* d+cc)%10::tl):=by
    rw[te,ad0,List.set_append_right _ _ (by omega),hlq,afe];rfl
   rw[K1];have wX:(l.drop (q+1)).length=l.length-(q+1):=ad4;intro w5 JI;refine⟨⟨q,(2* d+cc)/10,(2* d+cc)%10::tl,by omega,by simp only[ad'];omega,λx hx=>?_,by omega,?_,rfl,JI⟩,by show((q:Int) -1+1).toNat<((q:Int)+1).toNat;omega⟩
   ·rcases ae'.1 hx with hx|hx
    ·omega
    ·exact htd x hx
   ·rw[Gj];simp only[rm];rw[zu,wX,show l.length-q=(l.length-(q+1))+1 by omega,Nat.pow_succ];generalize 10^(l.length-(q+1))=P at zt⊢;have:2* (d* P)+cc* P=(2* d+cc)/10* (P* 10)+(2* d+cc)%10* P:=by
     have hh:2* d+cc=(2* d+cc)/10* 10+(2* d+cc)%10:=by omega
     calc 2* (d* P)+cc* P=(2* d+cc)* P:=by rw[afg,Nat.mul_assoc]
      _=((2* d+cc)/10* 10+(2* d+cc)%10)* P:=by rw[<-hh]
      _=_:=by rw[afg,Nat.mul_assoc,afr 10 P]
    omega
  ·have hz:k=0:=by omega
   subst hz;rw[ae1,Nat.sub_zero] at zt;rw[Nat.sub_zero] at zu;rw[afh,aev,e2];obtain⟨s0,s1⟩:=hd.step (by omega) zu htd NX zt;refine dP (λg3=>?_) (λg3=>?_)
   ·have g3:0<cc:=by omega
    refine cN ⟨rfl,trivial⟩ ?_;refine qD λr3=>?_;refine IY (d:=cc) ?_;rw[<-zu];refine nC (l0:=[cc]) (l1:=tl) z7 rfl (by omega) (λx v hv=>by simp[Mh] at hv;subst hv;rfl) λb2 c2=>?_;have hs:=s1 g3;refine T.sub (M:=own b2 (1+tl.length) c2 1 (([cc]++tl).flatMap Mh)::Sep.pt r1 (nm a)::L) ?_ (by repeat (first|exact ad7.refl _|apply ad7.cons_cons|apply ad7.cons));rw[show 1+tl.length=(cc::tl).length by simp only[ad'];omega];intro w6 QU;exact⟨⟨i,cc::tl,b2,c2,by omega,hs,rfl,QU⟩,by show((i:Int) -1+1).toNat<((i:Int)+1).toNat;omega⟩
   ·have hs:=s0 (by omega);rw[<-zu];intro w6 QU;exact⟨⟨i,tl,_,_,by omega,hs,rfl,QU⟩,by show((i:Int) -1+1).toNat<((i:Int)+1).toNat;omega⟩
 ·have hz:j=0:=by omega
  subst hz;have hlen:=hd.len;intro w3 rB;refine⟨λvv w=>∃k:Nat,k<=l.length/\vv=[.string .empty,.string (bs (qQ (l.take k))),.l M5 l.length P7,.i (l.length:Int),.i (k:Int)]/\St W w (own M5 l.length P7 1 (l.flatMap Mh)::Sep.pt r1 (nm a)::L),
   λvs _=>match vs with|[_,_,_,_,.int _ d]=>l.length-d.toNat|_=>0,⟨0,ad2 _,rfl,rB⟩,?_⟩
  rintro s3 s4 zm yE yF n7 n8 w9 ⟨k,hk,e,hs9⟩;cases e
  refine T.at ?_ hs9;refine dP (λg2=>?_) (λg2=>?_)
  ·have aZ:k<l.length:=by omega
   have gx:=adS aZ;have hdx:=hd.small _ (aeg aZ);have te:l.take (k+1)=l.take k++[l[k]]:=by rw[aeb,gx];rfl
   generalize l[k]=d at gx hdx te;refine bQ (b:=M5) ⟨by omega,by omega⟩ λrb hb=>?_;rw[adT];subst hb;refine vo (g:=Mh) z7 gx rfl ?_;refine lG ?_;refine cN ⟨rfl,trivial⟩ ?_;refine qD λr4=>?_;have e4:Value.int .u8 (IntKind.u8.wrap (adP.wrap (48+(d:Int))))=rz (UInt8.ofNat (48+d)):=by
    have:=uq (n:=((48+d:Nat):Int)) (by omega);rw[adT] at this;rw[this,aw (by omega)]
    congr 1
    have:((48+d:Nat):Int)=48+(d:Int):=by omega
    rw[this];unfold IntKind.wrap;simp[IntKind.signed,IntKind.bits];omega
   rw[e4];refine Sj (l:=[UInt8.ofNat (48+d)]) ?_;have e5:bs (qQ (l.take k))++bs [UInt8.ofNat (48+d)]=bs (qQ (l.take (k+1))):=by rw[LF,te];unfold qQ;rw[aep];rfl
   have e6:=lY k;refine cN ?_ ?_
   ·rw[bw,bw];unfold qQ;rw[aei,adX,aff];omega
   rw[e5,e6];refine T.drop λw5 JI=>⟨⟨k+1,aZ,rfl,JI⟩,by show l.length-((k+1:Nat):Int).toNat<l.length-(k:Int).toNat;omega⟩
  ·have gr:k=l.length:=by omega
   subst gr;rw[ad5];refine T.drop (T.drop (h _ ?_));rw[pN,decide_eq_decide,<-hd.last];exact yn (a:=qQ l) (b:=qQ Lu)
end
section
variable {W:World} {L R:LH} {K:VK} {X Y:WK} {a:aP} {t:Move} {r1 r2:Nat}
def MD{n:Nat}(hn:n<aK)(h:T W L (br (decide (n=aK-1)) X Y)):T W L (gp (nm n) (xS λs1=>br (oX s1 (⟨#[51,52,48,50,56,50,51,54,54,57,50,48,57,51,56,52,54,51,52,54,51,51,55,52,54,48,55,52,51,49,55,54,56,50,49,49,52,53,53]⟩:BA)) X Y)):=
 KE hn λs hs=>PT (by rw[hs];exact h)
def Oq(a:aP):Int:=if a.dp≠0\/a.dq≠0\/a.cp≠0\/a.cq≠0\/a.ae≠0 then 7 else if a.aG<=0\/4294967296<=a.aG then 8 else if a.code<=0\/65536<=a.code then 9 else 0
def Jm{b:Bool}(h:T W (Sep.pt r2 [.u 0,.u 0]::Sep.pt r1 (ak a)::L) (K (.i (if b=true then 6 else Oq a)))):T W (Sep.pt r2 [.u 0,.u 0]::Sep.pt r1 (ak a)::L) (aC.j2 K r1 r2 b):=by
 unfold aC.j2 aC.j5 aC.j6 aC.j3 aC.j4;cases b with
 |true=>
  apply ws;intros;exact h
 |false=>
  rw[if_neg (by decide)] at h
  repeat' first|apply ws;intros|apply wb|with_reducible refine bE (λh1=>?_) (λh1=>?_)|fail
  all_goals try simp only[bz] at *
  all_goals
   refine T.fin (T.dp h) ?_
   congr 1
   unfold Oq
   repeat' split
  all_goals omega
def HJ(ha:vf a)(h:T W L (K (.i (qE a)))):T W L (aC (ak a) K):=by
 unfold aC aC.j1;have e:qE a=if a.flags<0\/7<a.flags then 3 else if a.id=0 then 4 else if a.id=aK-1 then 5 else if has a.flags 2/\has a.flags 4 then 6 else Oq a:=rfl
 rw[e] at h;by_cases hr:0<=a.flags/\a.flags<=7
 ·rw[if_neg (by omega)] at h;have hf:0<=a.flags/\a.flags<1000000:=by omega
  have e1:decide (a.flags<0)=false:=decide_eq_false (by omega);have e2:decide (a.flags>7)=false:=decide_eq_false (by omega);apply ws;intros;rw[e1];apply ws;intros;rw[e2];apply ws;intros;refine dP (λh1=>?_) (λh1=>?_)
  ·rw[if_pos h1] at h;exact T.dp h
  rw[if_neg h1] at h;apply ws;intros;refine MD ha.id ?_;refine dP (λh1=>?_) (λh1=>?_)
  ·rw[if_pos h1] at h;exact T.dp h
  rw[if_neg h1] at h
  repeat' first|apply ws;intros|apply wb|with_reducible refine FE hf (by decide) ?_|fail
  refine dP (λh1=>?_) (λh1=>?_)
  ·repeat' first|apply ws;intros|apply wb|with_reducible refine FE hf (by decide) ?_|fail
   refine Jm ?_;refine T.fin (T.dp h) ?_
   congr 1
   by_cases h4:has a.flags 4
   ·rw[if_pos (decide_eq_true h4),if_pos ⟨h1,h4⟩]
   ·rw[if_neg (λhh=>h4 (of_decide_eq_true hh)),if_neg (λhh=>h4 hh.2)]
  ·refine Jm ?_;rw[if_neg (λhh=>h1 hh.1)] at h;exact T.dp h
 ·rw[if_pos (by omega)] at h;apply ws;intros;refine dP (λh1=>?_) (λh1=>?_)
  ·apply ws;intros;exact T.dp h
  ·have e2:decide (a.flags>7)=true:=decide_eq_true (by omega);apply ws;intros;rw[e2];apply ws;intros;exact T.dp h
def zM{n:Int}(h:T W (Sep.pt r2 [.u 0,.u 0]::Sep.pt r1 (ai t)::L) (K (.i (if t.aG<n\/4294967296<=t.aG then 8 else if t.code<n\/65536<=t.code then 9 else 0)))):T W (Sep.pt r2 [.u 0,.u 0]::Sep.pt r1 (ai t)::L) (au.j4 K r1 n):=by
 unfold au.j4 au.j5
 repeat' first|apply ws;intros|apply wb|with_reducible refine bE (λh1=>?_) (λh1=>?_)|fail
 all_goals try simp only[bz] at *
 all_goals
  refine T.fin (T.dp h) ?_
  congr 1
  repeat' split
 all_goals omega
def zN{b:Bool}(hf:0<=t.flags/\t.flags<1000000)(h:T W (Sep.pt r2 [.u 0,.u 0]::Sep.pt r1 (ai t)::L) (K (.i (if b=true then 17 else if gv t.flags then LC t else LB t)))):T W (Sep.pt r2 [.u 0,.u 0]::Sep.pt r1 (ai t)::L) (au.j3 K r1 r2 b):=by
 unfold au.j3;cases b with
 |true=>
  apply ws;intros;exact h
 |false=>
  rw[if_neg (by decide)] at h
  repeat' first|apply ws;intros|apply wb|with_reducible refine rG hf ?_|fail
  refine dP (λh1=>?_) (λh1=>?_)
  ·rw[if_pos h1] at h;apply ws;intros;unfold LC at h;refine dP (λh1=>?_) (λh1=>?_)
   ·rw[if_pos h1] at h;exact h
   ·rw[if_neg h1] at h;exact zM h
  ·rw[if_neg h1] at h;unfold LB at h;apply ws;intros;refine dP (λh1=>?_) (λh1=>?_)
   ·rw[if_pos (h1)] at h;exact h
   rw[if_neg (h1)] at h;apply ws;intros;refine dP (λh1=>?_) (λh1=>?_)
   ·rw[if_pos (h1)] at h;exact h
   rw[if_neg (h1)] at h;apply ws;intros;refine dP (λh1=>?_) (λh1=>?_)
   ·rw[if_pos (h1)] at h;exact h
   rw[if_neg (h1)] at h;apply ws;intros;by_cases h5:t.pending=0
   ·rw[if_neg (λhh=>hh h5)] at h;rw[decide_eq_true h5];apply ws;intros;refine dP (λh1=>?_) (λh1=>?_)
    ·repeat' first|apply ws;intros|apply wb|with_reducible refine hG hf (by decide) ?_|fail
     by_cases h6:has t.flags 16
     ·rw[decide_eq_true h6];rw[if_neg (λhh=>hh.2.1 h6)] at h;apply ws;intros;exact zM h
     ·rw[decide_eq_false h6]
      repeat' first|apply ws;intros|apply wb|with_reducible refine hG hf (by decide) ?_|fail
      by_cases h7:has t.flags 32
      ·rw[decide_eq_true h7];rw[if_neg (λhh=>hh.2.2 h7)] at h;apply ws;intros;exact zM h
      ·rw[decide_eq_false h7];rw[if_pos ⟨h1,h6,h7⟩] at h;apply ws;intros;exact h
    ·rw[if_neg (λhh=>h1 hh.1)] at h;exact zM h
   ·rw[if_pos h5] at h;rw[decide_eq_false h5];apply ws;intros;exact h
def vD(ht:uX t)(h:T W L (K (.i (kz t)))):T W L (au (ai t) K):=by
 unfold au au.j1;have e:kz t=if t.flags<0\/255<t.flags then 3 else if t.id=0 then 4 else if t.id=aK-1 then 5 else if ¬ft t.flags then 6
  else if t.ae≠0\/t.born≠0 then 7 else if t.timeout<0\/1073741824<t.timeout\/0<t.timeout/\ ¬has t.flags 2 then 17 else if gv t.flags then LC t else LB t:=rfl
 rw[e] at h;by_cases hr:0<=t.flags/\t.flags<=255
 ·rw[if_neg (by omega)] at h;have hf:0<=t.flags/\t.flags<1000000:=by omega
  have e1:decide (t.flags<0)=false:=decide_eq_false (by omega);have e2:decide (t.flags>255)=false:=decide_eq_false (by omega);apply ws;intros;rw[e1];apply ws;intros;rw[e2];apply ws;intros;refine dP (λh1=>?_) (λh1=>?_)
  ·rw[if_pos h1] at h;exact T.dp h
  rw[if_neg h1] at h;apply ws;intros;refine MD ht.id ?_;refine dP (λh1=>?_) (λh1=>?_)
  ·rw[if_pos h1] at h;exact T.dp h
  rw[if_neg h1] at h
  repeat' first|apply ws;intros|apply wb|with_reducible refine Cf hf ?_|fail
  by_cases h2:ft t.flags
  ·rw[if_neg (λhh=>hh h2)] at h;rw[decide_eq_true h2];apply ws;intros;unfold au.j2 au.j6;by_cases h3:t.ae≠0\/t.born≠0
   ·rw[if_pos h3] at h;refine bE (λh1=>?_) (λh1=>?_)
    ·apply ws;intros;exact T.dp h
    ·have h1:t.ae=0:=by simpa using h1
     have e3:(t.born !=0)=true:=by rw[bne_iff_ne];omega
     apply ws;intros;rw[e3];apply ws;intros;exact T.dp h
   ·rw[if_neg h3] at h;have e3:(t.ae !=0)=false:=by rw[bne_eq_false_iff_eq];omega
    have e4:(t.born !=0)=false:=by rw[bne_eq_false_iff_eq];omega
    rw[e3];apply ws;intros;rw[e4];apply ws;intros;refine dP (λh4=>?_) (λh4=>?_)
    ·rw[if_pos (.inl h4)] at h;apply ws;intros;refine zN hf ?_;exact T.dp h
    apply ws;intros;refine dP (λh5=>?_) (λh5=>?_)
    ·rw[if_pos (.inr (.inl h5))] at h;refine zN hf ?_;exact T.dp h
    apply ws;intros;refine dP (λh6=>?_) (λh6=>?_)
    ·repeat' first|apply ws;intros|apply wb|with_reducible refine hG hf (by decide) ?_|fail
     refine zN hf ?_;by_cases h7:has t.flags 2
     ·rw[decide_eq_true h7];rw[if_neg (by rintro(hh|hh|hh);exact h4 hh;exact h5 hh;exact hh.2 h7)] at h;exact T.dp h
     ·rw[decide_eq_false h7];rw[if_pos (.inr (.inr ⟨h6,h7⟩))] at h;exact T.dp h
    ·refine zN hf ?_;rw[if_neg (by rintro(hh|hh|hh);exact h4 hh;exact h5 hh;exact h6 hh.1)] at h;exact T.dp h
  ·rw[if_pos h2] at h;rw[decide_eq_false h2];apply ws;intros;exact T.dp h
 ·rw[if_pos (by omega)] at h;apply ws;intros;refine dP (λh1=>?_) (λh1=>?_)
  ·apply ws;intros;exact T.dp h
  ·have e2:decide (t.flags>255)=true:=decide_eq_true (by omega);apply ws;intros;rw[e2];apply ws;intros;exact T.dp h
end
def Ja{j:Nat}(hj:j<64):shl .u64 1 (j:Int)=((2^j:Nat):Int):=by
 unfold shl;have h1:2^j<2^64:=Nat.pow_lt_pow_right (by decide) hj;have h2:(2:Nat)^64=18446744073709551616:=by decide
 have h3:((2:Int)^j)=((2^j:Nat):Int):=by push_cast;rfl
 rw[adT,show min j IntKind.u64.bits=j from afj (Nat.le_of_lt hj),Go.Up.og,Int.one_mul,h3];generalize 2^j=P at h1;omega
def yN(a i:Nat):a%2^(i+1)=a%2^i+a/2^i%2* 2^i:=by
 rw[Nat.pow_succ,Nat.mod_mul,afr (2^i)]
section
variable {W:World} {L R:LH} {K:VK} {X Y:WK} {a:aP} {t:Move} {r1 r2:Nat}
def Nd{n j:Nat}(hn:n<2^j)(hj:j<128)(h:T W L (K (.agg ⟨nm (n+2^j)⟩))):T W L (kW (nm n) (j:Int) K):=by
 unfold kW;unfold nm;apply ws;intros;refine dP (λg1=>?_) (λg1=>?_)
 ·obtain⟨i,rfl⟩:∃i:Nat,j=64+i:=⟨j-64,by omega⟩;have e1:adP.wrap (((64+i:Nat):Int) -64)=(i:Int):=by rw[aw (by omega)];omega
  have e2:IntKind.u64.wrap (i:Int)=(i:Int):=by rw[Go.Up.og];omega
  rw[e1,e2,Ja (by omega)];apply ws;intros;refine cN (by omega) ?_;apply ws;intros;have hp:2^(64+i)=18446744073709551616* 2^i:=by rw[Nat.pow_add]
  have hq:2^i<=2^63:=aeJ (by decide) (by omega);have QV:(2:Nat)^63=9223372036854775808:=by decide
  have h1:n/18446744073709551616<2^i:=Nat.div_lt_of_lt_mul (by rw[<-hp];exact hn);have e3:IntKind.u64.wrap (((n/18446744073709551616:Nat):Int)+((2^i:Nat):Int))=(((n+2^(64+i))/18446744073709551616:Nat):Int):=by
   rw[Go.Up.og,hp,Nat.add_mul_div_left _ _ (by decide)];omega
  have e4:(n+2^(64+i))%18446744073709551616=n%18446744073709551616:=by rw[hp,Nat.add_mul_mod_self_left]
  unfold nm at h;rw[e4] at h;rw[e3];exact T.dp h
 ·have Gh:j<64:=by omega
  have e2:IntKind.u64.wrap (j:Int)=(j:Int):=by rw[Go.Up.og];omega
  rw[e2,Ja Gh];apply ws;intros;refine cN (by omega) ?_;apply ws;intros;have hq:2^j<=2^63:=aeJ (by decide) (by omega);have QV:(2:Nat)^63=9223372036854775808:=by decide
  have e3:IntKind.u64.wrap (((n%18446744073709551616:Nat):Int)+((2^j:Nat):Int))=(((n+2^j)%18446744073709551616:Nat):Int):=by
   rw[Go.Up.og];omega
  have e4:(n+2^j)/18446744073709551616=n/18446744073709551616:=by omega
  unfold nm at h;rw[e4] at h;rw[e3];exact T.dp h
def MU{a b i c out:Nat}(hv:out+b%2^i=a%2^i+c* 2^i)(c2 n2:Nat)(hn:(n2:Int)=((a/2^i%2:Nat):Int) -((b/2^i%2:Nat):Int) -(c:Int)+2* (c2:Int)):
 out+n2* 2^i+b%2^(i+1)=a%2^(i+1)+c2* 2^(i+1):=by
 rw[yN,yN,Nat.pow_succ];have hh:n2+b/2^i%2+c=a/2^i%2+2* c2:=by omega
 have:=congrArg (·* 2^i) hh;simp only[afg] at this;rw[show c2* (2^i* 2)=2* c2* 2^i by rw[afr (2^i) 2,<-Nat.mul_assoc,afr c2 2]];omega
def FG{a b:Nat}(ha:a<aK)(hb:b<aK)(h:T W L (K (.tuple ⟨[.agg ⟨nm (a-b)⟩,.bool (decide (b<=a))]⟩))):T W L (c8 (nm a) (nm b) K):=by
 unfold c8 c8.j1;apply ws;intros;refine uy ha hb ?_;apply ws;intros;by_cases aZ:a<b
 ·rw[show a-b=0 by omega,decide_eq_false (by omega)] at h;rw[decide_eq_true aZ];apply ws;intros;exact T.dp h
 ·rw[decide_eq_true (by omega)] at h;rw[decide_eq_false aZ];apply ws;intros;rename_i r1 r2 r3 r4;intro w ju;refine⟨λvv w=>∃i c out:Nat,i<=128/\c<=1/\out<2^i/\out+b%2^i=a%2^i+c* 2^i/\vv=[.p (some (ad r1 0)),.p (some (ad r2 0)),.p (some (ad r3 0)),.bool false,.p (some (ad r4 0)),.i (c:Int),.i (i:Int)]/\
     St W w (Sep.pt r4 (nm out)::Sep.pt r3 [.u 0,.u 0]::Sep.pt r2 (nm b)::Sep.pt r1 (nm a)::L),
   λvs _=>match vs with|[_,_,_,_,_,_,.int _ d]=>128-d.toNat|_=>0,⟨0,0,0,by omega,by omega,by decide,by rw[Nat.pow_zero];omega,rfl,ju⟩,?_⟩
  rintro a1 a2 a3 b2 a4 n1 n2 w2 ⟨i,c,out,hi,hc,tu,hv,e,fh⟩;cases e
  refine T.at ?_ fh;refine dP (λg1=>?_) (λg1=>?_)
  ·have rO:i<128:=by omega
   apply ws;intros;refine qg ha rO ?_;apply ws;intros;refine qg hb rO ?_;apply ws;intros;have PA:a/2^i%2<=1:=by omega
   have UL:b/2^i%2<=1:=by omega
   have e1:adP.wrap (adP.wrap (((a/2^i%2:Nat):Int) -((b/2^i%2:Nat):Int)) -(c:Int))=((a/2^i%2:Nat):Int) -((b/2^i%2:Nat):Int) -(c:Int):=by
    rw[aw (n:=((a/2^i%2:Nat):Int) -((b/2^i%2:Nat):Int)) (by omega),aw (by omega)]
   have e5:=lY i;rw[e1,e5];have hp:2^(i+1)=2* 2^i:=by rw[Nat.pow_succ,afr]
   have key:∀(c2 n2:Nat),c2<=1->n2<=1->(n2:Int)=((a/2^i%2:Nat):Int) -((b/2^i%2:Nat):Int) -(c:Int)+2* (c2:Int)->
    T W (Sep.pt r4 (nm out)::Sep.pt r3 [.u 0,.u 0]::Sep.pt r2 (nm b)::Sep.pt r1 (nm a)::L) (c8.j1 K (ad r4 0) (i:Int) (λvv w=>∃i c out:Nat,i<=128/\c<=1/\out<2^i/\out+b%2^i=a%2^i+c* 2^i/\vv=[.p (some (ad r1 0)),.p (some (ad r2 0)),.p (some (ad r3 0)),.bool false,.p (some (ad r4 0)),.i (c:Int),.i (i:Int)]/\
    St W w (Sep.pt r4 (nm out)::Sep.pt r3 [.u 0,.u 0]::Sep.pt r2 (nm b)::Sep.pt r1 (nm a)::L)) (ad r1 0) (ad r2 0) (ad r3 0) false (λvs _=>match vs with|[_,_,_,_,_,_,.int _ d]=>128-d.toNat|_=>0) (c:Int) w2 (c2:Int) (n2:Int)):=λc2 n2 Me Wa hn=>by
    unfold c8.j1;rw[e5];have pI:=MU hv c2 n2 hn;refine bE (λg2=>?_) (λg2=>?_)
    ·have g2:n2=1:=by have:(n2:Int)=1:=by simpa using g2
                      omega
     subst g2;rw[Nat.one_mul] at pI;apply ws;intros;refine Nd tu rO ?_;refine xC (by rfl) ?_;apply ws;intros;exact λw3 h3=>⟨⟨i+1,c2,out+2^i,rO,Me,by omega,pI,rfl,h3⟩,by show 128-((i+1:Nat):Int).toNat<128-(i:Int).toNat;omega⟩
    ·have g2:n2=0:=by have: ¬(n2:Int)=1:=by simpa using g2
                      omega
     subst g2;rw[Nat.zero_mul,aeN] at pI;exact λw3 h3=>⟨⟨i+1,c2,out,rO,Me,by omega,pI,rfl,h3⟩,by show 128-((i+1:Nat):Int).toNat<128-(i:Int).toNat;omega⟩
   unfold c8.j1 at key;rw[e5] at key;refine dP (λg2=>?_) (λg2=>?_)
   ·rw[aw (by omega)];obtain⟨n2,Wa⟩:=ad3 (show 0<=((a/2^i%2:Nat):Int) -((b/2^i%2:Nat):Int) -(c:Int)+2 by omega);rw[Wa];exact key 1 n2 (by omega) (by omega) (by omega)
   ·obtain⟨n2,Wa⟩:=ad3 (show 0<=((a/2^i%2:Nat):Int) -((b/2^i%2:Nat):Int) -(c:Int) by omega);rw[Wa];exact key 0 n2 (by omega) (by omega) (by omega)
  ·have gr:i=128:=by omega
   subst gr;rw[aeB (show a<2^128 from ha),aeB (show b<2^128 from hb)] at hv;have hh:out=a-b:=by
    have:c=0:=by
     rcases Nat.eq_zero_or_pos c with hz|hz
     ·exact hz
     ·have:c=1:=by omega
      subst this;omega
    subst this;omega
   rw[hh];apply ws;intros;exact T.dp h
def AT{r3 r4 r5:Nat}{x y z:Nat}(hx:x<aK)(hy:y<aK)(hz:z<aK)(h:T W L (K (.agg ⟨nm (x-(y+z))⟩))):T W (Sep.pt r5 (nm z)::Sep.pt r4 (nm y)::Sep.pt r3 (nm x)::Sep.pt r2 [.u 0,.u 0]::L) (bO.j1 K r4 r5 r3 r2):=by
 unfold bO.j1 bO.j2;apply ws;intros;refine pO hy hz ?_;unfold add;by_cases hs:y+z<aK
 ·rw[if_pos hs,decide_eq_true hs];apply ws;intros;refine FG hx hs ?_;apply ws;intros;exact T.dp h
 ·rw[if_neg hs,decide_eq_false hs];apply ws;intros;refine KA ?_;apply ws;intros;refine FG hx (by unfold aK;decide) ?_;apply ws;intros;rw[show x-(aK-1)=x-(y+z) by omega];exact T.dp h
def xO{p:Bool}(ha:a.dp<aK/\a.dq<aK/\a.cp<aK/\a.cq<aK)(h:T W L (K (.agg ⟨nm (gg a p)⟩))):T W L (bO (ak a) p K):=by
 obtain⟨h1,h2,h3,h4⟩:=ha;unfold bO;apply ws;intros;cases p with
 |true=>
  apply ws;intros;refine AT h4 h1 h2 ?_;exact T.dp h
 |false=>
  apply ws;intros;refine AT h2 h3 h4 ?_;exact T.dp h
end
def Ay(a:aP)(d:Bool):Nat:=if d then a.dp else a.cp
def Ax(a:aP)(d:Bool):Nat:=if d then a.dq else a.cq
def Jn(a:aP)(d:Bool)(x y:Nat):aP:=if d then{a with dp:=x,dq:=y} else{a with cp:=x,cq:=y}
def CH(d:Bool):Int:=if d then 2 else 4
def QD(a:aP)(d:Bool)(n:Nat)(p:Bool):more a d n p=
 if aK<=Ay a d+Ax a d+n then(a,32) else if has a.flags (CH d)/\gg a d<n then(a,if d then 33 else 34)
 else(Jn a d (if p then Ay a d+n else Ay a d) (if p then Ax a d else Ax a d+n),0):=by
 cases d<;>cases p<;>rfl
section
variable {W:World} {L R:LH} {K:VK} {X Y:WK} {a:aP} {t:Move} {r1 r2 r3 r4 r5:Nat}
def AQ{d:Bool}{x y n:Nat}(h:T W L (K (.tuple ⟨[.agg ⟨ak (Jn a d x y)⟩,.i 0]⟩))):T W (Sep.pt r5 (nm y)::Sep.pt r4 (nm x)::Sep.pt r3 (ak zA)::Sep.pt r2 (nm n)::Sep.pt r1 (ak a)::L) (aQ.j4 K d r4 r1 r5 r3):=by
 unfold aQ.j4;unfold Jn at h;cases d with
 |true=>
  apply ws;intros;exact T.dp h
 |false=>
  apply ws;intros;exact T.dp h
def AR{d p b:Bool}{x y n:Nat}(hx:x<aK)(hy:y<aK)(hn:n<aK)(hs:x+y+n<aK)
 (h:T W L (K (.tuple ⟨[.agg ⟨ak (if b=true then a else Jn a d (if p then x+n else x) (if p then y else y+n))⟩,.i (if b=true then(if d then 33 else 34) else 0)]⟩))):
 T W (Sep.pt r5 (nm y)::Sep.pt r4 (nm x)::Sep.pt r3 (ak zA)::Sep.pt r2 (nm n)::Sep.pt r1 (ak a)::L) (aQ.j3 K d r1 r3 p r4 r2 r5 b):=by
 unfold aQ.j3;cases b with
 |true=>
  rw[if_pos rfl,if_pos rfl] at h;cases d with
  |true=>
   apply ws;intros;exact T.dp h
  |false=>
   apply ws;intros;exact T.dp h
 |false=>
  rw[if_neg ael,if_neg ael] at h;cases p with
  |true=>
   have e:add x n=x+n:=if_pos (by omega);apply ws;intros;refine pO hx hn ?_;rw[e];apply ws;intros;exact AQ h
  |false=>
   have e:add y n=y+n:=if_pos (by omega);apply ws;intros;refine pO hy hn ?_;rw[e];apply ws;intros;exact AQ h
def AS{d p:Bool}{n:Nat}(ha:a.dp<aK/\a.dq<aK/\a.cp<aK/\a.cq<aK)(hn:n<aK)(hf:0<=a.flags/\a.flags<256)(h:T W L (K (.tuple ⟨[.agg ⟨ak (more a d n p).1⟩,.i (more a d n p).2]⟩))):
 T W (Sep.pt r5 (nm (Ax a d))::Sep.pt r4 (nm (Ay a d))::Sep.pt r3 (ak zA)::Sep.pt r2 (nm n)::Sep.pt r1 (ak a)::L) (aQ.j1 K r4 r5 r2 r1 r3 d p (CH d)):=by
 unfold aQ.j1 aQ.j2;have hx:Ay a d<aK:=by unfold Ay;split<;>omega
 have hy:Ax a d<aK:=by unfold Ax;split<;>omega
 have hand:bB .i64 .and a.flags (CH d)=0↔ ¬has a.flags (CH d):=by
  cases d
  ·exact GQ hf.1 hf.2
  ·exact GR hf.1 hf.2
 rw[QD] at h;generalize hX:Ay a d=x at *;generalize hY:Ax a d=y at *;apply ws;intros;refine pO hx hy ?_;apply ws;intros;refine pO (BR _ _) hn ?_;apply ws;intros;by_cases hs:x+y<aK
 ·rw[decide_eq_true hs];have e:add x y=x+y:=if_pos hs;rw[e];apply ws;intros;by_cases fh:x+y+n<aK
  ·rw[if_neg (by omega)] at h;rw[decide_eq_true fh];apply ws;intros;refine bE (λg1=>?_) (λg1=>?_)
   ·have g1:has a.flags (CH d):=Decidable.byContradiction λhh=>by rw[hand.2 hh] at g1;simp at g1
    apply ws;intros;refine xO ha ?_;apply ws;intros;refine uy ?_ hn ?_
    ·unfold gg;split<;>omega
    apply ws;intros;rename_i r6 r7;refine T.drop (T.drop (AR hx hy hn fh ?_));by_cases hl:gg a d<n
    ·rw[if_pos ⟨g1,hl⟩] at h;rw[if_pos (decide_eq_true hl),if_pos (decide_eq_true hl)];exact h
    ·rw[if_neg (λhh=>hl hh.2)] at h;rw[if_neg (λhh=>hl (of_decide_eq_true hh)),if_neg (λhh=>hl (of_decide_eq_true hh))];exact h
   ·have g1: ¬has a.flags (CH d):=hand.1 (by simpa using g1);rw[if_neg (λhh=>g1 hh.1)] at h;exact T.drop (T.drop (AR hx hy hn fh (by rw[if_neg ael,if_neg ael];exact h)))
  ·rw[if_pos (by omega)] at h;rw[decide_eq_false fh];apply ws;intros;exact T.dp h
 ·rw[if_pos (by omega)] at h;rw[decide_eq_false hs];apply ws;intros;exact T.dp h
def CU{d p:Bool}{n:Nat}(ha:a.dp<aK/\a.dq<aK/\a.cp<aK/\a.cq<aK)(hn:n<aK)(hf:0<=a.flags/\a.flags<256)(h:T W L (K (.tuple ⟨[.agg ⟨ak (more a d n p).1⟩,.i (more a d n p).2]⟩))):T W L (aQ (ak a) d (nm n) p K):=by
 unfold aQ;apply ws;intros;cases d with
 |true=>
  apply ws;intros;exact AS (d:=true) ha hn hf h
 |false=>
  apply ws;intros;exact AS (d:=false) ha hn hf h
end
structure KM(k:Kept):Prop where
 asked:uX k.asked
 move:uX k.move
 qw:0<=k.asked.flags/\k.asked.flags<256
 rI:0<=k.move.flags/\k.move.flags<256
 timeout:0<=k.move.timeout/\k.move.timeout<=1073741824
 born:0<=k.move.born/\k.move.born<=1099511627776
structure RM(m:Model):Prop where
 ground:Md.Ground m
 clock:0<=m.clock/\m.clock<=1099511627776
 ae:m.ae=m.made.length+m.kept.length
 made:∀a∈m.made,vf a
 kept:∀k∈m.kept,KM k
def RM.Jq{m:Model}(hg:Good (bo m))(qM:Md.Ground m):RM m:=by
 refine⟨qM,hg.clock,?_,λa ha=>?_,λk hk=>?_⟩
 ·have:=hg.ae;unfold bo at this;simpa using this
 ·have h1:=(hg.Mj (Md.full m.kept a) (List.mem_map_of_mem ha)).ok;obtain⟨z1,z2,z3,z4,z5,z6⟩:=qM.zero a ha;exact⟨h1.id,by rw[z1];decide,by rw[z2];decide,by rw[z3];decide,by rw[z4];decide,h1.aG,h1.code,⟨by omega,by omega⟩,h1.ae⟩
 ·have h1:=hg.L1 k hk;exact⟨h1.asked,h1.move,h1.qw,h1.rI,h1.timeout,h1.born⟩
def RM.VV{m:Model}(h:RM m):∀a∈m.made,G2 a:=λa ha=>by
 obtain⟨z1,z2,z3,z4,z5,z6⟩:=h.ground.zero a ha;have:(0:Nat)<aK:=by decide
 exact⟨by omega,by omega,by omega,by omega,by omega,by omega⟩
def RM.WS{m:Model}(h:RM m):∀k∈m.kept,Wu k:=λk hk=>by
 have h1:=h.kept k hk;exact⟨h1.move.aB,h1.rI.1,by have:=h1.rI.2;omega⟩
def RM.lH{m:Model}(h:RM m):m.made.length<=32:=h.ground.lH
def RM.many{m:Model}(h:RM m):m.kept.length<=96:=h.ground.some_
def Dy{a:aP}(h:qE a=0):0<=a.flags/\a.flags<=7:=by
 unfold qE at h;by_cases h1:a.flags<0\/7<a.flags
 ·rw[if_pos h1] at h;omega
 ·omega
def rY{t:Move}(h:kz t=0):(0<=t.flags/\t.flags<=255)/\0<=t.timeout/\t.timeout<=1073741824:=by
 unfold kz at h;by_cases h1:t.flags<0\/255<t.flags
 ·rw[if_pos h1] at h;omega
 rw[if_neg h1] at h;by_cases h2:t.id=0
 ·rw[if_pos h2] at h;omega
 rw[if_neg h2] at h;by_cases h3:t.id=aK-1
 ·rw[if_pos h3] at h;omega
 rw[if_neg h3] at h;by_cases h4: ¬ft t.flags
 ·rw[if_pos h4] at h;omega
 rw[if_neg h4] at h;by_cases h5:t.ae≠0\/t.born≠0
 ·rw[if_pos h5] at h;omega
 rw[if_neg h5] at h;by_cases h6:t.timeout<0\/1073741824<t.timeout\/0<t.timeout/\ ¬has t.flags 2
 ·rw[if_pos h6] at h;omega
 ·omega
def RF{m:Model}(hg:Md.Ground m)(a:aP):Md.Ground (m.make a).2:=((oO m).make hg).2.2
def RE{m:Model}(hg:Md.Ground m)(t:Move):Md.Ground (m.move t).2:=((oO m).move hg).2.2
def RG{m:Model}(hg:Md.Ground m)(t:Move):Md.Ground (m.lW t).2:=((oO m).lW hg).2.2
def RM.make{m:Model}{a:aP}(h:RM m)(ha:vf a):RM (m.make a).2:=by
 have qM:=RF h.ground a;have e:(m.make a).2=m\/(qE a=0/\(m.make a).2={m with ae:=m.ae+1,made:=m.made++[{a with ae:=m.ae+1,flags:=a.flags/2* 2}]}):=by
  unfold Model.make;by_cases h1:qE a≠0
  ·rw[if_pos h1];exact .inl rfl
  ·rw[if_neg h1];split
   ·exact .inl rfl
   ·by_cases h2:32<=m.made.length
    ·rw[if_pos h2];exact .inl rfl
    ·rw[if_neg h2];exact .inr ⟨by omega,rfl⟩
 rcases e with e|⟨hc,e⟩
 ·rw[e];exact h
 ·rw[e] at qM⊢;have hf:=Dy hc;have rP:=h.lH;have rN:=h.many;have pI:=h.ae;refine⟨qM,h.clock,?_,λx hx=>?_,h.kept⟩
  ·show m.ae+1=((m.made++[_]).length:Int)+(m.kept.length:Int);rw[adV,aff];omega
  ·rcases aew.1 hx with hx|hx
   ·exact h.made x hx
   ·cases(show x=_ by simpa using hx)
    exact⟨ha.id,ha.dp,ha.dq,ha.cp,ha.cq,ha.aG,ha.code,⟨by show _<=a.flags/2* 2;omega,by show a.flags/2* 2<=_;omega⟩,⟨by show _<=m.ae+1;omega,by show m.ae+1<=_;omega⟩⟩
def RM.ka{m:Model}{t u:Move}{fate:Int}(h:RM m)(qM:Md.Ground (m.ka t u fate))(hm:m.kept.length<96)(ht:uX t)(hu:uX u)(hf:0<=t.flags/\t.flags<256)(huf:u.flags=t.flags)(Zy:0<=u.timeout/\u.timeout<=1073741824):RM (m.ka t u fate):=by
 have pI:=h.ae;have rP:=h.lH;have XV:=h.clock;refine⟨qM,h.clock,?_,h.made,λk hk=>?_⟩
 ·show m.ae+1=(m.made.length:Int)+((m.kept++[_]).length:Int);rw[adV,aff];omega
 ·rcases aew.1 hk with hk|hk
  ·exact h.kept k hk
  ·cases(show k=_ by simpa using hk)
   exact⟨ht,⟨hu.id,hu.aF,hu.ar,hu.aB,hu.pending,hu.timeout,hu.aG,hu.code,hu.flags,⟨by show _<=m.ae+1;omega,by show m.ae+1<=_;omega⟩,⟨by show _<=m.clock;omega,by show m.clock<=_;omega⟩⟩,hf,by show 0<=u.flags/\u.flags<256;omega,Zy,h.clock⟩
def RM.cL{m:Model}(h:RM m)(i:Nat)(f:Int)(qM:Md.Ground (m.cL i f)):RM (m.cL i f):=by
 refine⟨qM,h.clock,?_,h.made,λk hk=>?_⟩
 ·show m.ae=(m.made.length:Int)+((m.kept.modify i _).length:Int);rw[List.length_modify];exact h.ae
 ·have hk:k∈m.kept.modify i λk=>{k with fate:=f}:=hk;by_cases hi:i<m.kept.length
  ·rw[modify_eq _ _ _ hi] at hk;rcases aeI hk with hh|hh
   ·exact h.kept k hh
   ·have:=h.kept _ (aeg hi);subst hh;exact⟨this.asked,this.move,this.qw,this.rI,this.timeout,this.born⟩
  ·have:m.kept.modify i (λk=>{k with fate:=f})=m.kept:=List.modify_eq_self (by omega);rw[this] at hk;exact h.kept k hk
def Cj{t:Move}{named:Option Kept}{d c:Option aP}{many:Nat}(h:(gM t named d c many).1=0):(gM t named d c many).2<aK:=by
 obtain⟨d',c',-,-,-,-,-,-,-,-,-,h1,-⟩:=tS h;omega
def RM.move{m:Model}{t:Move}(h:RM m)(ht:uX t):RM (m.move t).2:=by
 have qM:=RE h.ground t;unfold Model.move at qM⊢;dsimp only at qM⊢;by_cases h1:(gM t (m.named t.id) ((m.find t.aF).map m.full) ((m.find t.ar).map m.full) m.kept.length).1≠0
 ·rw[if_pos h1];exact h
 ·rw[if_neg h1] at qM⊢;have h1:=ad6.1 h1;have ham:=Cj h1;obtain⟨d',c',-,-,-,hc,-,-,-,-,rN,-⟩:=tS h1;obtain⟨z1,z2⟩:=rY hc;exact h.ka qM rN ht ⟨ht.id,ht.aF,ht.ar,ham,ht.pending,ht.timeout,ht.aG,ht.code,ht.flags,ht.ae,ht.born⟩ ⟨z1.1,by omega⟩ rfl z2
def RM.lW{m:Model}{t:Move}(h:RM m)(ht:uX t):RM (m.lW t).2:=by
 have qM:=RG h.ground t;unfold Model.lW at qM⊢;cases hn:m.name t.pending with
 |none=>exact h
 |some i=>
  rw[hn] at qM;dsimp only at qM⊢;cases hk:m.kept[i]? with
  |none=>exact h
  |some k=>
   rw[hk] at qM;dsimp only at qM⊢;by_cases h1:kK t (m.named t.id) (some k) (m.closed k.move.aF i) (m.closed k.move.ar i) m.kept.length≠0
   ·rw[if_pos h1];exact h
   ·rw[if_neg h1] at qM⊢;have h1:=ad6.1 h1;obtain⟨K8,Wc⟩:=adU.1 hk;have mg:=aek hk;have hf:=h.ground.tg k mg;obtain⟨-,hc,he,hw,Q5,-,rN⟩:=Bv h1 hf.1;obtain⟨z1,z2⟩:=rY hc;have JN:=h.kept k mg;have aaJ:m.kept[i].fate=1:=by rw[Wc];have:=hf.2.2.1 hw;omega
    have K1:=h.ground.cL K8 aaJ (f:=bU t) (by unfold bU;split<;>omega);refine(h.cL i (bU t) K1).ka qM (by show(m.kept.modify i _).length<96;rw[List.length_modify];exact rN) ht ?_ ⟨z1.1,by omega⟩ rfl z2;refine⟨ht.id,JN.move.aF,JN.move.ar,?_,ht.pending,ht.timeout,JN.move.aG,JN.move.code,ht.flags,ht.ae,ht.born⟩;show bM t k.move<aK;unfold bM;split
    ·exact JN.move.aB
    ·exact ht.aB
def RM.nW{m:Model}{t:Move}(h:RM m)(ht:uX t):RM (m.nW t).2:=by
 unfold Model.nW;split
 ·exact h.lW ht
 ·exact h.move ht
def RM.time{m:Model}(h:RM m)(now:Int)(h0:0<=now):RM (m.time now):=by
 refine⟨Fb h.ground now,?_,?_,h.made,λk hk=>?_⟩
 ·show 0<=(if m.clock<now/\now<=1099511627776 then now else m.clock)/\(if m.clock<now/\now<=1099511627776 then now else m.clock)<=1099511627776;have:=h.clock;split<;>omega
 ·show m.ae=(m.made.length:Int)+((m.kept.map _).length:Int);rw[aei];exact h.ae
 ·obtain⟨x,hx,rfl⟩:=aeC.1 hk;have:=h.kept x hx;have Uc:∀(p:Prop) [Decidable p],KM (if p then{x with fate:=4} else x):=λp _=>by
   by_cases hp:p
   ·rw[if_pos hp];exact⟨this.asked,this.move,this.qw,this.rI,this.timeout,this.born⟩
   ·rw[if_neg hp];exact this
  exact Uc _
def ni{α:Type}(P:α->Bool)(l:List α):(l.find? P=none/\l.findIdx? P=none/\Bg P l= -1)\/∃i x,l[i]?=some x/\P x=true/\l.find? P=some x/\l.findIdx? P=some i/\Bg P l=(i:Int):=by
 cases h:l.findIdx? P with
 |none=>
  left
  have h2:=List.findIdx?_eq_none_iff.1 h;refine⟨afc.2 λx hx=>by rw[h2 x hx];decide,rfl,?_⟩;unfold Bg;rw[h]
 |some i=>
  right
  obtain⟨hi,h1,h2⟩:=List.findIdx?_eq_some_iff_getElem.1 h;refine⟨i,l[i],adS hi,h1,?_,rfl,?_⟩
  ·rw[List.find?_eq_some_iff_getElem];exact⟨h1,i,hi,rfl,λj hj=>by simpa using h2 j hj⟩
  ·unfold Bg;rw[h]
section
variable {W:World} {L R:LH} {K:VK} {X:WK} {p:Nat} {m:Model} {mb kb:OA} {mc kc:Nat} {a:aP} {t:Move}
def T.LZ{A:HP}(h:T W (ML p m mb mc kb kc (A::R)) X):T W (A::ML p m mb mc kb kc R) X:=
 T.perm h (ad1 (l₁:=[A]) (l₂:=[_,_,_])|>.append_right R)
def T.in1{A:HP}(h:T W (A::ML p m mb mc kb kc R) X):T W (ML p m mb mc kb kc (A::R)) X:=
 T.perm h (ad1 (l₁:=[_,_,_]) (l₂:=[A])|>.append_right R)
def Qj(hm:RM m)(ha:vf a)(h:∀nu nt,T W (ML p (m.make a).2 nu nt kb kc R) (K (.i (m.make a).1))):T W (ML p m mb mc kb kc R) (gK (some ⟨p,0,none⟩) (ak a) K):=by
 unfold gK;have rP:=hm.lH;have rN:=hm.many;have pI:=hm.ae;apply ws;intros;rename_i r1;refine HJ ha ?_;apply ws;intros;unfold Model.make at h;refine bE (λg1=>?_) (λg1=>?_)
 ·have g1:qE a≠0:=by simpa using g1
  rw[if_pos g1] at h;have:=h mb mc;exact T.dp this
 have g1:qE a=0:=by simpa using g1
 rw[if_neg (λhh=>hh g1)] at h;have Ma:=Dy g1;apply ws;intros;refine T.LZ ?_;refine sx (by omega) ?_;apply ws;intros;unfold Model.find at h;rcases ni (λx:aP=>decide (x.id=a.id)) m.made with⟨f1,f2,f3⟩|⟨i,x,f1,f2,f3,f4,f5⟩
 ·rw[f1] at h;dsimp only at h;rw[f3];refine dV (by decide) ?_;apply ws;intros;refine dP (λg2=>?_) (λg2=>?_)
  ·rw[if_pos (by omega)] at h;refine T.in1 ?_;exact T.drop (h mb mc)
  ·rw[if_neg (by omega)] at h;have e1:adP.wrap (m.ae+1)=m.ae+1:=aw (by omega);have e2:adP.wrap (adP.wrap (a.flags.tdiv 2)* 2)=a.flags/2* 2:=by rw[uI Ma.1 (by omega) (by decide),aw (by omega)]
   apply ws;intros;rw[e1];refine cN (by decide) ?_;rw[e2];apply ws;intros;refine gZ (b:=mb) (g:=ak) (l:=m.made) (x:={a with ae:=m.ae+1,flags:=a.flags/2* 2}) (aed _) rfl rfl (by show(m.made.length+1)* 112<=_;omega) (by show m.made.length+1<=_;omega) (eV _) λb' c'=>?_;apply ws;intros;have:=h b' c';unfold ML zp at this;simp only[adV,ad',aen,adW] at this;refine T.sub this ?_;exact nh
 ·rw[f3] at h;dsimp only at h;rw[f5];have K8:=(adU.1 f1).1;have hz:=hm.ground.zero x (aek f1);refine kq (decide_eq_true (by omega)) ?_;apply ws;intros;refine bQ (b:=mb) ⟨by omega,by omega⟩ λrb hb=>?_;rw[adT];subst hb;refine dx eY f1 ?_;refine HK (by omega) (by omega) ?_;apply ws;intros;refine T.in1 ?_;exact T.drop (h _ mc)
end
def T4(m:Model)(t:Move)(d c:aP)(n:Nat):Int×Model:=
 if(more d true n (decide (has t.flags 2))).2≠0 then((more d true n (decide (has t.flags 2))).2,m)
 else if(more c false n (decide (has t.flags 2))).2≠0 then((more c false n (decide (has t.flags 2))).2,m)
 else(0,m.ka t {t with aB:=n} (waits t))
def V3(m:Model)(t:Move)(d c:aP)(n:Nat):Int×Model:=
 if has t.flags 32 then(if min n (gg c false)=0 then(34,m) else T4 m t d c (min n (gg c false))) else T4 m t d c n
def W8(m:Model)(t:Move)(d c:aP)(n:Nat):Int×Model:=
 if has t.flags 16 then(if min n (gg d true)=0 then(33,m) else V3 m t d c (min n (gg d true))) else V3 m t d c n
def W7{m:Model}{t:Move}{d c:aP}(h1:kz t=0)(h2: ¬gv t.flags)(h3:m.named t.id=none)(hd:(m.find t.aF).map m.full=some d)(hc:(m.find t.ar).map m.full=some c)
 (h4:d.aG=c.aG)(h5:d.aG=t.aG)(h6: ¬8<=d.flags)(h7: ¬8<=c.flags)(h8: ¬96<=m.kept.length):m.move t=W8 m t d c (if t.aB=0 then aK-1 else t.aB):=by
 unfold Model.move gM;rw[hd,hc,h3];dsimp only;rw[if_neg (show ¬kz t≠0 from λhh=>hh h1),if_neg h2,if_neg (show ¬d.aG≠c.aG from λhh=>hh h4),if_neg (show ¬d.aG≠t.aG from λhh=>hh h5),if_neg h6,if_neg h7,if_neg h8];have key:∀n:Nat,bI t d c=(n,0)->(let r:=(if(bI t d c).2≠0 then((bI t d c).2,0) else if(more d true (bI t d c).1 (decide (has t.flags 2))).2≠0 then((more d true (bI t d c).1 (decide (has t.flags 2))).2,0)
                         else if(more c false (bI t d c).1 (decide (has t.flags 2))).2≠0 then((more c false (bI t d c).1 (decide (has t.flags 2))).2,0) else(0,(bI t d c).1):Int×Nat)
                         if r.1≠0 then(r.1,m) else(0,m.ka t {t with aB:=r.2} (waits t)))=T4 m t d c n:=λn he=>by
  rw[he];dsimp only;rw[if_neg (show ¬((0:Int)≠0) from λhh=>hh rfl)];unfold T4;by_cases g1:(more d true n (decide (has t.flags 2))).2≠0
  ·rw[if_pos g1,if_pos g1,if_pos g1]
  ·rw[if_neg g1,if_neg g1];by_cases g2:(more c false n (decide (has t.flags 2))).2≠0
   ·rw[if_pos g2,if_pos g2,if_pos g2]
   ·rw[if_neg g2,if_neg g2]
    rfl
 have bad:∀r:Int,r≠0->bI t d c=(0,r)->(let r:=(if(bI t d c).2≠0 then((bI t d c).2,0) else if(more d true (bI t d c).1 (decide (has t.flags 2))).2≠0 then((more d true (bI t d c).1 (decide (has t.flags 2))).2,0)
  else if(more c false (bI t d c).1 (decide (has t.flags 2))).2≠0 then((more c false (bI t d c).1 (decide (has t.flags 2))).2,0) else(0,(bI t d c).1):Int×Nat)
  if r.1≠0 then(r.1,m) else(0,m.ka t {t with aB:=r.2} (waits t)))=(r,m):=λr hr he=>by
  rw[he];dsimp only;rw[if_pos hr,if_pos hr]
 unfold W8 V3;generalize hn:(if t.aB=0 then aK-1 else t.aB)=n;by_cases a1:has t.flags 16
 ·rw[if_pos a1];by_cases a2:min n (gg d true)=0
  ·rw[if_pos a2];refine bad 33 (by decide) ?_;unfold bI;rw[hn];simp only[if_pos a1,a1,a2,and_self,if_true]
  ·rw[if_neg a2];by_cases a3:has t.flags 32
   ·rw[if_pos a3];by_cases a4:min (min n (gg d true)) (gg c false)=0
    ·rw[if_pos a4];refine bad 34 (by decide) ?_;unfold bI;rw[hn];simp only[if_pos a1,if_pos a3,a1,a2,a3,a4,and_self,if_true,and_false,if_false]
    ·rw[if_neg a4];refine key _ ?_;unfold bI;rw[hn];simp only[if_pos a1,if_pos a3,a1,a2,a3,a4,and_self,if_true,and_false,if_false]
   ·rw[if_neg a3];refine key _ ?_;unfold bI;rw[hn];simp only[if_pos a1,if_neg a3,a1,a2,a3,and_self,if_true,and_false,false_and,if_false]
 ·rw[if_neg a1];by_cases a3:has t.flags 32
  ·rw[if_pos a3];by_cases a4:min n (gg c false)=0
   ·rw[if_pos a4];refine bad 34 (by decide) ?_;unfold bI;rw[hn];simp only[if_neg a1,if_pos a3,a1,a3,a4,and_self,if_true,and_false,false_and,if_false]
   ·rw[if_neg a4];refine key _ ?_;unfold bI;rw[hn];simp only[if_neg a1,if_pos a3,a1,a3,a4,and_self,if_true,and_false,false_and,if_false]
  ·rw[if_neg a3];refine key _ ?_;unfold bI;rw[hn];simp only[if_neg a1,if_neg a3,a1,a3,and_self,if_true,and_false,false_and,if_false]
section
variable {W:World} {L R:LH} {K:VK} {X:WK} {p:Nat} {m:Model} {mb kb:OA} {mc kc:Nat} {a d c:aP} {t:Move} {r1 r2 r3 r4 r5:Nat} {n:Nat}
def T.E7{L':LH}{A:HP}(h:T W (ML p m mb mc kb kc (A::L')) X):T W (A::ML p m mb mc kb kc L') X:=T.LZ h
def Fz(hm:m.kept.length<1000000)(hs:0<=m.ae/\m.ae<1000000)(hd:G2 d)(hc:G2 c)(Pv:d.flags<256)(Py:c.flags<256)(hf:0<=t.flags/\t.flags<1000000)(hn:n<aK)
 (h:∀gS gR,T W (ML p (T4 m t d c n).2 mb mc gS gR R) (K (.i (T4 m t d c n).1))):
 T W (ML p m mb mc kb kc (Sep.pt r5 (nm n)::Sep.pt r4 [.u 0,.u 0]::Sep.pt r3 (ak c)::Sep.pt r2 (ak d)::Sep.pt r1 (ai t)::R)) (aN.j3 K r1 r2 r5 r3 (some ⟨p,0,none⟩)):=by
 obtain⟨d1,d2,d3,d4,d5,d6⟩:=hd;obtain⟨c1,c2,c3,c4,c5,c6⟩:=hc;unfold aN.j3;unfold T4 at h;apply ws;intros;refine hG hf (by decide) ?_;apply ws;intros;refine CU ⟨d1,d2,d3,d4⟩ hn ⟨d5,Pv⟩ ?_;refine PU ?_;refine xC (by rfl) ?_;apply ws;intros;refine bE (λg1=>?_) (λg1=>?_)
 ·have g1:=bne_iff_ne.1 g1;rw[if_pos g1] at h;refine T.sub (h kb kc) ?_;exact nh
 have g1:(more d true n (decide (has t.flags 2))).2=0:=by simpa using g1
 rw[if_neg (λhh=>hh g1)] at h;apply ws;intros;refine CU ⟨c1,c2,c3,c4⟩ hn ⟨c5,Py⟩ ?_;refine PU ?_;refine xC (by rfl) ?_;apply ws;intros;refine bE (λg2=>?_) (λg2=>?_)
 ·have g2:=bne_iff_ne.1 g2;rw[if_pos g2] at h;refine T.sub (h kb kc) ?_;exact nh
 have g2:(more c false n (decide (has t.flags 2))).2=0:=by simpa using g2
 rw[if_neg (λhh=>hh g2)] at h;apply ws;intros;rename_i r6;refine T.E7 ?_;by_cases hw:has t.flags 2
 ·rw[decide_eq_true hw];rw[show waits t=1 from if_pos hw] at h;apply ws;intros;refine DV hm hs λb' c'=>?_;apply ws;intros;refine T.sub (h b' c') ?_;exact nh
 ·rw[decide_eq_false hw];rw[show waits t=0 from if_neg hw] at h;apply ws;intros;refine DV hm hs λb' c'=>?_;apply ws;intros;refine T.sub (h b' c') ?_;exact nh
def C5(a b:Nat):(if a<b then a else b)=min a b:=by split<;>omega
def Dg{a:aP}{b:Bool}(h:G2 a):gg a b<aK:=by
 obtain⟨h1,h2,h3,h4,_⟩:=h;unfold gg;split<;>omega
def FA(hm:m.kept.length<1000000)(hs:0<=m.ae/\m.ae<1000000)(hd:G2 d)(hc:G2 c)(Pv:d.flags<256)(Py:c.flags<256)(hf:0<=t.flags/\t.flags<1000000)(hn:n<aK)
 (h:∀gS gR,T W (ML p (V3 m t d c n).2 mb mc gS gR R) (K (.i (V3 m t d c n).1))):
 T W (ML p m mb mc kb kc (Sep.pt r5 (nm n)::Sep.pt r4 [.u 0,.u 0]::Sep.pt r3 (ak c)::Sep.pt r2 (ak d)::Sep.pt r1 (ai t)::R)) (aN.j2 K r1 r5 r3 r4 r2 (some ⟨p,0,none⟩)):=by
 have hl:=Dg (b:=false) hc;unfold aN.j2;unfold V3 at h;apply ws;intros;refine hG hf (by decide) ?_;by_cases hw:has t.flags 32
 ·rw[decide_eq_true hw];rw[if_pos hw] at h;apply ws;intros;refine xO ⟨hc.1,hc.2.1,hc.2.2.1,hc.2.2.2.1⟩ ?_;refine xC (by rfl) ?_;apply ws;intros;refine AP hn hl ?_;refine xC (by rfl) ?_;rw[C5];apply ws;intros;refine dP (λg1=>?_) (λg1=>?_)
  ·rw[if_pos g1] at h;refine T.sub (h kb kc) ?_;exact nh
  ·rw[if_neg g1] at h;exact Fz hm hs hd hc Pv Py hf (by omega) h
 ·rw[decide_eq_false hw];rw[if_neg hw] at h;apply ws;intros;exact Fz hm hs hd hc Pv Py hf hn h
def FB(hm:m.kept.length<1000000)(hs:0<=m.ae/\m.ae<1000000)(hd:G2 d)(hc:G2 c)(Pv:d.flags<256)(Py:c.flags<256)(hf:0<=t.flags/\t.flags<1000000)(hn:n<aK)
 (h:∀gS gR,T W (ML p (W8 m t d c n).2 mb mc gS gR R) (K (.i (W8 m t d c n).1))):
 T W (ML p m mb mc kb kc (Sep.pt r5 (nm n)::Sep.pt r4 [.u 0,.u 0]::Sep.pt r3 (ak c)::Sep.pt r2 (ak d)::Sep.pt r1 (ai t)::R)) (aN.j1 K r1 r5 r2 r4 r3 (some ⟨p,0,none⟩)):=by
 have hl:=Dg (b:=true) hd;unfold aN.j1;unfold W8 at h;apply ws;intros;refine hG hf (by decide) ?_;by_cases hw:has t.flags 16
 ·rw[decide_eq_true hw];rw[if_pos hw] at h;apply ws;intros;refine xO ⟨hd.1,hd.2.1,hd.2.2.1,hd.2.2.2.1⟩ ?_;refine xC (by rfl) ?_;apply ws;intros;refine AP hn hl ?_;refine xC (by rfl) ?_;rw[C5];apply ws;intros;refine dP (λg1=>?_) (λg1=>?_)
  ·rw[if_pos g1] at h;refine T.sub (h kb kc) ?_;exact nh
  ·rw[if_neg g1] at h;exact FA hm hs hd hc Pv Py hf (by omega) h
 ·rw[decide_eq_false hw];rw[if_neg hw] at h;apply ws;intros;exact FA hm hs hd hc Pv Py hf hn h
end
section
variable {W:World} {L R:LH} {K:VK} {X:WK} {p:Nat} {m:Model} {mb kb:OA} {mc kc:Nat} {a d c:aP} {t:Move} {r1 r2 r3 r4 r5:Nat} {n:Nat}
def MF{α:Type}{r n c e o j q:Nat}{l:List α}{x:α}{g:α->LV}{f:HP->LH}{ys:LV}{K:LV->WK}[i:oQ (some ⟨r,0,none⟩) n c L e (l.flatMap g) f](hf:∀x,(g x).length=e)(hx:l[o]?=some x)[s:Sub (g x) j q ys](h:T W L (K ys)):T W L (ah ⟨r,o* e+j,none⟩ q K):=λw hs=>by
 obtain⟨k,hk,_⟩:=i.at_;exact D7 hs hk s.is.1 (λu v hu=>by rw[Nat.add_assoc];exact nI hf l o x hx _ v (s.is.2 u v hu)) (h w hs)
def MG{α:Type}{r n c e o q:Nat}{l:List α}{x:α}{g:α->LV}{f:HP->LH}{ys:LV}{K:LV->WK}[i:oQ (some ⟨r,0,none⟩) n c L e (l.flatMap g) f](hf:∀x,(g x).length=e)(hx:l[o]?=some x)[s:Sub (g x) 0 q ys](h:T W L (K ys)):T W L (ah ⟨r,o* e,none⟩ q K):=MF (j:=0) hf hx h
def yY{m:Model}(h:RM m){a:aP}(ha:a∈m.made):G2 (m.full a)/\(m.full a).flags<256/\(m.full a).aG=a.aG:=by
 have h1:=Fv m.kept (h.VV a ha);refine⟨h1,?_,?_⟩
 ·rw[h.ground.full ha];obtain⟨z1,z2,z3,z4,z5,z6⟩:=h.ground.zero a ha;show(if S (qm a.id) m.kept=0 then a.flags else a.flags%8+8)<256;split<;>omega
 ·rw[h.ground.full ha];rfl
def Oy{m:Model}{t:Move}{r:Int}(hr:r≠0)(h:gM t (m.named t.id) ((m.find t.aF).map m.full) ((m.find t.ar).map m.full) m.kept.length=(r,0)):m.move t=(r,m):=by
 unfold Model.move;rw[h];dsimp only;rw[if_pos hr]
def Jj(hm:RM m)(ht:uX t)(h:∀gS gR,T W (ML p (m.move t).2 mb mc gS gR R) (K (.i (m.move t).1))):T W (ML p m mb mc kb kc R) (aN (some ⟨p,0,none⟩) (ai t) K):=by
 unfold aN;have rP:=hm.lH;have rN:=hm.many;have pI:=hm.ae;apply ws;intros;rename_i r1;refine vD ht ?_;apply ws;intros;have pa:∀r:Int,r≠0->gM t (m.named t.id) ((m.find t.aF).map m.full) ((m.find t.ar).map m.full) m.kept.length=(r,0)->∀gS gR,T W (ML p m mb mc gS gR R) (K (.i r)):=λr hr he gS gR=>by
  have:=h gS gR;rw[Oy hr he] at this;exact this
 unfold gM at pa;refine bE (λg1=>?_) (λg1=>?_)
 ·have g1:kz t≠0:=by simpa using g1
  rw[if_pos g1] at pa;have:=pa _ g1 rfl kb kc;exact T.dp this
 have g1:kz t=0:=by simpa using g1
 rw[if_neg (λhh=>hh g1)] at pa;obtain⟨Ma,Zy⟩:=rY g1;have hf:0<=t.flags/\t.flags<1000000:=by omega
 apply ws;intros;refine rG hf ?_;apply ws;intros;refine dP (λg2=>?_) (λg2=>?_)
 ·rw[if_pos g2] at pa;have:=pa _ (by decide) rfl kb kc;exact T.dp this
 rw[if_neg g2] at pa;apply ws;intros;refine T.LZ ?_;refine DU (by omega) ?_;apply ws;intros;have JK:m.named t.id=m.kept.find? λk=>decide (k.move.id=t.id):=rfl;rcases ni (λx:Kept=>decide (x.move.id=t.id)) m.kept with⟨f1,f2,f3⟩|⟨i,x,f1,f2,f3,f4,f5⟩
 rotate_left
 ·rw[JK,f3] at pa;dsimp only at pa;rw[f5];have K8:=(adU.1 f1).1;have hx:=hm.kept x (aek f1);refine kq (decide_eq_true (by omega)) ?_;apply ws;intros;refine bQ (b:=kb) ⟨by omega,by omega⟩ λrb hb=>?_;rw[adT];subst hb;refine MG fA f1 ?_;refine AU hf ⟨hx.qw.1,by have:=hx.qw.2;omega⟩ ?_;apply ws;intros;refine T.sub (pa _ (oD _ _) rfl (some ⟨rb,0,none⟩) kc) ?_;exact nh
 rw[JK,f1] at pa;dsimp only at pa;rw[f3];refine dV (by decide) ?_;apply ws;intros;refine sx (by omega) ?_;apply ws;intros;refine sx (by omega) ?_;apply ws;intros;have SM:m.find t.aF=m.made.find? λa=>decide (a.id=t.aF):=rfl;have SN:m.find t.ar=m.made.find? λa=>decide (a.id=t.ar):=rfl;rcases ni (λx:aP=>decide (x.id=t.aF)) m.made with⟨d1,d2,d3⟩|⟨i,d,d1,d2,d3,d4,d5⟩
 ·rw[SM,d1] at pa;rw[d3];refine kq (by decide) ?_;refine T.sub (pa 19 (by decide) rfl kb kc) ?_;exact nh
 rw[SM,d3] at pa;rw[d5];refine dV (decide_eq_false (by omega)) ?_;rcases ni (λx:aP=>decide (x.id=t.ar)) m.made with⟨c1,c2,c3⟩|⟨j,c,c1,c2,c3,c4,c5⟩
 ·rw[SN,c1] at pa;rw[c3];refine kq (by decide) ?_;refine T.sub (pa 20 (by decide) rfl kb kc) ?_;exact nh
 rw[SN,c3] at pa;rw[c5];refine dV (decide_eq_false (by omega)) ?_;dsimp only[aeD] at pa;have Eg:=aek d1;have Mc:=aek c1;obtain⟨hda,Pv,wX⟩:=yY hm Eg;obtain⟨hca,Py,lR⟩:=yY hm Mc;refine zL (by omega) d1 (hm.VV d Eg) hm.WS ?_;refine xC (by rfl) ?_;apply ws;intros;rename_i r2;refine T.E7 ?_;refine zL (by omega) c1 (hm.VV c Mc) hm.WS ?_;refine xC (by rfl) ?_;apply ws;intros;rename_i r3;refine T.E7 ?_;have ed:m.kept.foldl sw d=m.full d:=rfl;have ec:m.kept.foldl sw c=m.full c:=rfl;rw[ed,ec];refine bE (λg3=>?_) (λg3=>?_)
 ·have g3:=bne_iff_ne.1 g3;rw[if_pos g3] at pa;refine T.sub (pa _ (by decide) rfl kb kc) ?_;exact nh
 have g3:(m.full d).aG=(m.full c).aG:=by simpa using g3
 rw[if_neg (λhh=>hh g3)] at pa;apply ws;intros;refine bE (λg4=>?_) (λg4=>?_)
 ·have g4:=bne_iff_ne.1 g4;rw[if_pos g4] at pa;refine T.sub (pa _ (by decide) rfl kb kc) ?_;exact nh
 have g4:(m.full d).aG=t.aG:=by simpa using g4
 rw[if_neg (λhh=>hh g4)] at pa;apply ws;intros;refine dP (λg5=>?_) (λg5=>?_)
 ·rw[if_pos (show 8<=(m.full d).flags by omega)] at pa;refine T.sub (pa _ (by decide) rfl kb kc) ?_;exact nh
 rw[if_neg (show ¬8<=(m.full d).flags by omega)] at pa;apply ws;intros;refine dP (λg6=>?_) (λg6=>?_)
 ·rw[if_pos (show 8<=(m.full c).flags by omega)] at pa;refine T.sub (pa _ (by decide) rfl kb kc) ?_;exact nh
 rw[if_neg (show ¬8<=(m.full c).flags by omega)] at pa;apply ws;intros;refine dP (λg7=>?_) (λg7=>?_)
 ·rw[if_pos (show 96<=m.kept.length by omega)] at pa;refine T.sub (pa _ (by decide) rfl kb kc) ?_;exact nh
 have hmi:=W7 (m:=m) (t:=t) (d:=m.full d) (c:=m.full c) g1 g2 (by rw[JK,f1]) (by rw[SM,d3];rfl) (by rw[SN,c3];rfl) g3 g4 (by omega) (by omega) (by omega);rw[hmi] at h;apply ws;intros;rename_i r4 r5;refine dP (λg8=>?_) (λg8=>?_)
 ·rw[if_pos g8] at h;apply ws;intros;have ew:([.u 18446744073709551615,.u 18446744073709551615]:LV)=nm (aK-1):=by unfold nm aK;rfl
  rw[ew];refine T.perm (L:=ML p m mb mc kb kc (Sep.pt r5 (nm (aK-1))::Sep.pt r4 [.u 0,.u 0]::Sep.pt r3 (ak (m.full c))::Sep.pt r2 (ak (m.full d))::Sep.pt r1 (ai t)::R)) ?_ (ad1 (l₁:=[Sep.pt r5 (nm (aK-1)),Sep.pt r4 [.u 0,.u 0]]) (l₂:=[_,_,_])|>.append_right _);exact FB (by omega) (by omega) hda hca Pv Py hf (by unfold aK;decide) h
 ·rw[if_neg g8] at h;refine T.perm (L:=ML p m mb mc kb kc (Sep.pt r5 (nm t.aB)::Sep.pt r4 [.u 0,.u 0]::Sep.pt r3 (ak (m.full c))::Sep.pt r2 (ak (m.full d))::Sep.pt r1 (ai t)::R)) ?_ (ad1 (l₁:=[Sep.pt r5 (nm t.aB),Sep.pt r4 [.u 0,.u 0]]) (l₂:=[_,_,_])|>.append_right _);exact FB (by omega) (by omega) hda hca Pv Py hf ht.aB h
end
def N'(m:Model)(t:Move)(i:Nat)(k:Kept):Int×Model:=
 if iO t k.move then(26,m) else if has t.flags 4/\m.closed k.move.aF i=true then(30,m) else if has t.flags 4/\m.closed k.move.ar i=true then(31,m) else if 96<=m.kept.length then(35,m)
 else(0,(m.cL i (bU t)).ka t (jO t k.move) 0)
def Yg{m:Model}{t:Move}{i:Nat}{k:Kept}(h1:kz t=0)(h2:gv t.flags)(h3:m.named t.id=none)(hi:m.name t.pending=some i)(hk:m.kept[i]?=some k)
 (h4:has k.move.flags 2)(h5: ¬c7 t k.move)(h6: ¬1<k.fate):m.lW t=N' m t i k:=by
 unfold Model.lW kK;rw[hi];dsimp only;rw[hk,h3];dsimp only;rw[if_neg (show ¬kz t≠0 from λhh=>hh h1),if_neg (show ¬ ¬gv t.flags from λhh=>hh h2),if_neg (show ¬ ¬has k.move.flags 2 from λhh=>hh h4),if_neg h5,if_neg h6];unfold N';by_cases a1:iO t k.move
 ·rw[if_pos a1,if_pos a1];rfl
 rw[if_neg a1,if_neg a1];by_cases a2:has t.flags 4/\m.closed k.move.aF i=true
 ·rw[if_pos a2,if_pos a2];rfl
 rw[if_neg a2,if_neg a2];by_cases a3:has t.flags 4/\m.closed k.move.ar i=true
 ·rw[if_pos a3,if_pos a3];rfl
 rw[if_neg a3,if_neg a3];by_cases a4:96<=m.kept.length
 ·rw[if_pos a4,if_pos a4];rfl
 rw[if_neg a4,if_neg a4];rfl
def Fo{m:Model}{i:Nat}{x:Kept}(hx:m.kept[i]?=some x)(f:Int):m.cL i f={m with kept:=m.kept.set i {x with fate:=f}}:=by
 obtain⟨hi,he⟩:=adU.1 hx;unfold Model.cL;rw[modify_eq _ _ _ hi,he]
def Iu{m:Model}{i:Nat}{x:Kept}{id:Nat}{a:aP}(hx:m.kept[i]?=some x)(hf:m.find id=some a):m.closed id i=decide (8<=((m.kept.set i {x with fate:=3}).foldl sw a).flags):=by
 obtain⟨hi,he⟩:=adU.1 hx;unfold Model.closed;rw[hf];dsimp only;rw[modify_eq _ _ _ hi,he]
section
variable {W:World} {L R:LH} {K:VK} {X:WK} {p:Nat} {m:Model} {mb kb:OA} {mc kc:Nat} {a d c:aP} {t u:Move} {r1 r2 r3 r4 r5:Nat} {n i:Nat} {x:Kept}
def AL(hm:RM m)(hx:m.kept[i]?=some x){id:Nat}(Bm:id∈m.made.map (·.id))(h:T W (ML p m mb mc kb kc R) (K (.bool (m.closed id i)))):T W (ML p m mb mc kb kc R) (dE (some ⟨p,0,none⟩) (nm id) (i:Int) K):=by
 have rP:=hm.lH;have rN:=hm.many;rcases ni (λx:aP=>decide (x.id=id)) m.made with⟨f1,f2,f3⟩|⟨j,y,f1,f2,f3,f4,f5⟩
 ·obtain⟨a,ha,he⟩:=aeC.1 Bm;have:=afc.1 f1 a ha;rw[he] at this;exact absurd (decide_eq_true rfl) this
 ·rw[Iu hx (show m.find id=some y from f3)] at h;exact Kw (by omega) (by omega) hx f5 f1 (hm.VV y (aek f1)) hm.WS h
def Jk(hs:0<=m.ae/\m.ae<1000000)(hm:m.kept.length<1000000)(hn:n=bM t u)
 (h:∀gS gR,T W (ML p (m.ka t (jO t u) 0) mb mc gS gR R) (K (.i 0))):
 T W (ML p m mb mc kb kc (Sep.pt r4 (nm n)::Sep.pt r3 [.u 0,.u 0]::Sep.pt r2 (ai u)::Sep.pt r1 (ai t)::R)) (af.j6 K r1 r2 r4 (some ⟨p,0,none⟩)):=by
 unfold af.j6;subst hn;apply ws;intros;rename_i r5;refine T.E7 ?_;refine DV (u:=jO t u) hm hs λb' c'=>?_;apply ws;intros;refine T.sub (h b' c') ?_;exact nh
def Jl(hm:RM m)(hx:m.kept[i]?=some x)(Q5: ¬1<x.fate)
 (h:∀gS gR,T W (ML p (N' m t i x).2 mb mc gS gR R) (K (.i (N' m t i x).1)))(ht:t.aB<aK):
 T W (ML p m mb mc kb kc (Sep.pt r4 (nm (bM t x.move))::Sep.pt r3 [.u 0,.u 0]::Sep.pt r2 (ai x.move)::Sep.pt r1 (ai t)::R)) (af.j2 K (decide (has t.flags 4)) r2 r4 (some ⟨p,0,none⟩) (i:Int) r1):=by
 have rP:=hm.lH;have rN:=hm.many;have pI:=hm.ae;have mg:=aek hx;have K8:=(adU.1 hx).1;have Pm:=hm.ground.tJ x mg;have NP:=hm.kept x mg;have hea:bM t x.move<aK:=by unfold bM;split;exact NP.move.aB;exact ht
 have K1:∀f:Int,∀gS gR,T W (ML p (m.cL i f) mb mc gS gR (Sep.pt r4 (nm (bM t x.move))::Sep.pt r3 [.u 0,.u 0]::Sep.pt r2 (ai x.move)::Sep.pt r1 (ai t)::R)) (af.j6 K r1 r2 r4 (some ⟨p,0,none⟩))->
  T W (Sep.pt p (zp m mb mc gS gR)::own mb m.made.length mc 14 (m.made.flatMap ak)::own gS m.kept.length gR 33 ((m.kept.set i {x with fate:=f}).flatMap aJ)::(Sep.pt r4 (nm (bM t x.move))::Sep.pt r3 [.u 0,.u 0]::Sep.pt r2 (ai x.move)::Sep.pt r1 (ai t)::R)) (af.j6 K r1 r2 r4 (some ⟨p,0,none⟩)):=λf gS gR hh=>by
  rw[Fo hx] at hh;exact O0 aeX hh
 have j5:∀b:Bool,((has t.flags 4/\m.closed x.move.aF i=true)->False)-> ¬iO t x.move->b=decide (has t.flags 4/\m.closed x.move.ar i=true)->
  T W (ML p m mb mc kb kc (Sep.pt r4 (nm (bM t x.move))::Sep.pt r3 [.u 0,.u 0]::Sep.pt r2 (ai x.move)::Sep.pt r1 (ai t)::R)) (af.j5 K (some ⟨p,0,none⟩) (i:Int) (decide (has t.flags 4)) r1 r2 r4 b):=λb F' gU hb=>by
  unfold af.j5;unfold N' at h;rw[if_neg gU,if_neg F'] at h;cases b with
  |true=>
   rw[if_pos (of_decide_eq_true hb.symm)] at h;apply ws;intros;refine T.sub (h kb kc) ?_;exact nh
  |false=>
   rw[if_neg (of_decide_eq_false hb.symm)] at h;apply ws;intros;refine dP (λg1=>?_) (λg1=>?_)
   ·rw[if_pos (by omega)] at h;refine T.sub (h kb kc) ?_;exact nh
   rw[if_neg (by omega)] at h;apply ws;intros;refine bQ (b:=kb) ⟨by omega,by omega⟩ λrb tY=>?_;rw[adT];subst tY;refine IX ?_;refine Aq (o:=i) (x:=x) (y:={x with fate:=3}) fA hx rfl (by decide) rfl ?_;have SA:m.kept.length=(m.kept.set i {x with fate:=3}).length:=aeX.symm;by_cases h4:has t.flags 4
   ·rw[decide_eq_true h4];rw[show bU t=2 from if_pos h4] at h;apply ws;intros;refine bQ (b:=some ⟨rb,0,none⟩) ⟨by omega,by omega⟩ λPf tY=>?_;rw[adT];cases tY
    refine IX ?_;refine Aq (o:=i) (x:={x with fate:=3}) (y:={x with fate:=2}) fA (by rw[List.getElem?_set_self (by omega)]) rfl (by decide) rfl ?_;rw[ae6];refine K1 2 _ _ ?_;refine Jk (m:=m.cL i 2) (by show 0<=m.ae/\m.ae<1000000;omega) (by show(m.kept.modify i _).length<_;rw[List.length_modify];omega) rfl h
   ·rw[decide_eq_false h4];rw[show bU t=3 from if_neg h4] at h;apply ws;intros;refine K1 3 _ _ ?_;refine Jk (m:=m.cL i 3) (by show 0<=m.ae/\m.ae<1000000;omega) (by show(m.kept.modify i _).length<_;rw[List.length_modify];omega) rfl h
 have j4:∀b:Bool,¬iO t x.move->b=decide (has t.flags 4/\m.closed x.move.aF i=true)->
  T W (ML p m mb mc kb kc (Sep.pt r4 (nm (bM t x.move))::Sep.pt r3 [.u 0,.u 0]::Sep.pt r2 (ai x.move)::Sep.pt r1 (ai t)::R)) (af.j4 K (decide (has t.flags 4)) r2 (some ⟨p,0,none⟩) (i:Int) r1 r4 b):=λb gU hb=>by
  unfold af.j4;cases b with
  |true=>
   unfold N' at h;rw[if_neg gU,if_pos (of_decide_eq_true hb.symm)] at h;apply ws;intros;refine T.sub (h kb kc) ?_;exact nh
  |false=>
   have F':=of_decide_eq_false hb.symm;by_cases h4:has t.flags 4
   ·rw[decide_eq_true h4] at j5⊢;apply ws;intros;refine AL hm hx Pm.2.2 ?_;refine qC ?_;refine j5 _ F' gU ?_;cases lR:m.closed x.move.ar i
    ·exact(decide_eq_false (λhh=>absurd hh.2 (by decide))).symm
    ·exact(decide_eq_true ⟨h4,rfl⟩).symm
   ·rw[decide_eq_false h4] at j5⊢;apply ws;intros;exact j5 _ F' gU (decide_eq_false (λhh=>h4 hh.1)).symm
 have j3:∀b:Bool,b=decide (iO t x.move)->
  T W (ML p m mb mc kb kc (Sep.pt r4 (nm (bM t x.move))::Sep.pt r3 [.u 0,.u 0]::Sep.pt r2 (ai x.move)::Sep.pt r1 (ai t)::R)) (af.j3 K (decide (has t.flags 4)) r2 (some ⟨p,0,none⟩) (i:Int) r1 r4 b):=λb hb=>by
  unfold af.j3;cases b with
  |true=>
   unfold N' at h;rw[if_pos (of_decide_eq_true hb.symm)] at h;apply ws;intros;refine T.sub (h kb kc) ?_;exact nh
  |false=>
   have gU:=of_decide_eq_false hb.symm;by_cases h4:has t.flags 4
   ·rw[decide_eq_true h4] at j4⊢;apply ws;intros;refine AL hm hx Pm.2.1 ?_;refine qC ?_;refine j4 _ gU ?_;cases lR:m.closed x.move.aF i
    ·exact(decide_eq_false (λhh=>absurd hh.2 (by decide))).symm
    ·exact(decide_eq_true ⟨h4,rfl⟩).symm
   ·rw[decide_eq_false h4] at j4⊢;apply ws;intros;exact j4 _ gU (decide_eq_false (λhh=>h4 hh.1)).symm
 unfold af.j2 af.j7;by_cases h4:has t.flags 4
 ·rw[decide_eq_true h4] at j3⊢;apply ws;intros;refine uy NP.move.aB hea ?_;apply ws;intros;refine dP (λg1=>?_) (λg1=>?_)
  ·exact j3 _ (decide_eq_true (show iO t x.move from .inl ⟨h4,g1⟩)).symm
  ·apply ws;intros;refine j3 _ (decide_eq_false (λhh:iO t x.move=>?_)).symm;rcases hh with hh|hh
   ·exact g1 hh.2
   ·exact hh.1 h4
 ·rw[decide_eq_false h4] at j3⊢;apply ws;intros;refine j3 _ ?_;by_cases he:bM t x.move=x.move.aB
  ·rw[decide_eq_true he];refine(decide_eq_false (λhh:iO t x.move=>?_)).symm;rcases hh with hh|hh
   ·exact h4 hh.1
   ·exact hh.2 he
  ·rw[decide_eq_false he];exact(decide_eq_true (show iO t x.move from .inr ⟨h4,he⟩)).symm
end
section
variable {W:World} {L R:LH} {K:VK} {X:WK} {p:Nat} {m:Model} {mb kb:OA} {mc kc:Nat} {a d c:aP} {t u:Move} {r1 r2 r3 r4 r5:Nat} {n i:Nat} {x:Kept}
def RH{m:Model}{t:Move}{i:Nat}{k:Kept}{r:Int}(hi:m.name t.pending=some i)(hk:m.kept[i]?=some k)(hr:r≠0)(h:kK t (m.named t.id) (some k) (m.closed k.move.aF i) (m.closed k.move.ar i) m.kept.length=r):m.lW t=(r,m):=by
 unfold Model.lW;rw[hi];dsimp only;rw[hk];dsimp only;rw[h,if_pos hr]
def Ql{b:Bool}(hm:RM m)(hx:m.kept[i]?=some x)(htf:0<=t.flags/\t.flags<1000000)(ht:t.aB<aK)(hb:b=decide (c7 t x.move))
 (h1:c7 t x.move->∀gS gR,T W (ML p m mb mc gS gR R) (K (.i 25)))
 (h2: ¬c7 t x.move->1<x.fate->∀gS gR,T W (ML p m mb mc gS gR R) (K (.i (25+x.fate))))
 (h: ¬c7 t x.move-> ¬1<x.fate->∀gS gR,T W (ML p (N' m t i x).2 mb mc gS gR R) (K (.i (N' m t i x).1))):
 T W (ML p m mb mc kb kc (Sep.pt r3 [.u 0,.u 0]::Sep.pt r2 (ai x.move)::Sep.pt r1 (ai t)::R)) (af.j1 K (some ⟨p,0,none⟩) (i:Int) r1 r3 r2 b):=by
 have rN:=hm.many;have mg:=aek hx;have K8:=(adU.1 hx).1;have ZH:=hm.ground.tg x mg;unfold af.j1;cases b with
 |true=>
  apply ws;intros;refine T.sub (h1 (of_decide_eq_true hb.symm) kb kc) ?_;exact nh
 |false=>
  have hn:=of_decide_eq_false hb.symm;apply ws;intros;refine bQ (b:=kb) ⟨by omega,by omega⟩ λrb tY=>?_;rw[adT];subst tY;refine MI ?_;refine At (o:=i) (x:=x) fA hx rfl ?_;apply ws;intros;refine dP (λg1=>?_) (λg1=>?_)
  ·apply ws;intros;refine bQ (b:=some ⟨rb,0,none⟩) ⟨by omega,by omega⟩ λPf tY=>?_;rw[adT];cases tY
   refine MI ?_;refine At (o:=i) (x:=x) fA hx rfl ?_;apply ws;intros;rw[aw (by omega)];refine T.sub (h2 hn g1 (some ⟨rb,0,none⟩) kc) ?_;exact nh
  ·apply ws;intros;refine hG htf (by decide) ?_;apply ws;intros;rename_i r4;have fin:=h hn g1;refine dP (λg2=>?_) (λg2=>?_)
   ·apply ws;intros;refine T.E7 ?_;have e:bM t x.move=x.move.aB:=if_pos g2;rw[<-e];exact Jl hm hx g1 fin ht
   ·refine T.E7 ?_;have e:bM t x.move=t.aB:=if_neg g2;rw[<-e];exact Jl hm hx g1 fin ht
def Qk{b:Bool}(hm:RM m)(hx:m.kept[i]?=some x)(htf:0<=t.flags/\t.flags<1000000)(ht:t.aB<aK)(hb:b=decide (t.aF≠0/\t.aF≠x.move.aF))
 (h1:c7 t x.move->∀gS gR,T W (ML p m mb mc gS gR R) (K (.i 25)))
 (h2: ¬c7 t x.move->1<x.fate->∀gS gR,T W (ML p m mb mc gS gR R) (K (.i (25+x.fate))))
 (h: ¬c7 t x.move-> ¬1<x.fate->∀gS gR,T W (ML p (N' m t i x).2 mb mc gS gR R) (K (.i (N' m t i x).1))):
 T W (ML p m mb mc kb kc (Sep.pt r3 [.u 0,.u 0]::Sep.pt r2 (ai x.move)::Sep.pt r1 (ai t)::R)) (af.j8 K (some ⟨p,0,none⟩) (i:Int) r1 r3 r2 b):=by
 have j1:∀b:Bool,b=decide (c7 t x.move)->T W (ML p m mb mc kb kc (Sep.pt r3 [.u 0,.u 0]::Sep.pt r2 (ai x.move)::Sep.pt r1 (ai t)::R)) (af.j1 K (some ⟨p,0,none⟩) (i:Int) r1 r3 r2 b):=λb hb=>Ql hm hx htf ht hb h1 h2 h;have F4:∀b:Bool,b=decide ((t.aF≠0/\t.aF≠x.move.aF)\/(t.ar≠0/\t.ar≠x.move.ar)\/(t.aG≠0/\t.aG≠x.move.aG))->
  T W (ML p m mb mc kb kc (Sep.pt r3 [.u 0,.u 0]::Sep.pt r2 (ai x.move)::Sep.pt r1 (ai t)::R)) (af.F4 K (some ⟨p,0,none⟩) (i:Int) r1 r3 r2 b):=λb hb=>by
  unfold af.F4;cases b with
  |true=>
   have hc:=of_decide_eq_true hb.symm;refine j1 true (decide_eq_true ?_).symm;rcases hc with hc|hc|hc
   ·exact .inl hc
   ·exact .inr (.inl hc)
   ·exact .inr (.inr (.inl hc))
  |false=>
   have hc:=of_decide_eq_false hb.symm;apply ws;intros;refine bE (λg1=>?_) (λg1=>?_)
   ·have g1:=bne_iff_ne.1 g1;apply ws;intros;refine j1 _ ?_;rw[aee,bne_iff_ne,decide_eq_true_eq];refine⟨λhh=>.inr (.inr (.inr ⟨g1,hh⟩)),λhh=>?_⟩;rcases hh with hh|hh|hh|hh
    ·exact absurd (.inl hh) hc
    ·exact absurd (.inr (.inl hh)) hc
    ·exact absurd (.inr (.inr hh)) hc
    ·exact hh.2
   ·have g1:t.code=0:=by simpa using g1
    refine j1 false (decide_eq_false (λhh=>?_)).symm;rcases hh with hh|hh|hh|hh
    ·exact absurd (.inl hh) hc
    ·exact absurd (.inr (.inl hh)) hc
    ·exact absurd (.inr (.inr hh)) hc
    ·exact hh.1 g1
 have j9:∀b:Bool,b=decide ((t.aF≠0/\t.aF≠x.move.aF)\/(t.ar≠0/\t.ar≠x.move.ar))->
  T W (ML p m mb mc kb kc (Sep.pt r3 [.int .u64 0,.int .u64 0]::Sep.pt r2 (ai x.move)::Sep.pt r1 (ai t)::R)) (af.j9 K (some ⟨p,0,none⟩) (i:Int) r1 r3 r2 b):=λb hb=>by
  unfold af.j9;cases b with
  |true=>
   have hc:=of_decide_eq_true hb.symm;refine F4 true (decide_eq_true ?_).symm;rcases hc with hc|hc
   ·exact .inl hc
   ·exact .inr (.inl hc)
  |false=>
   have hc:=of_decide_eq_false hb.symm;apply ws;intros;refine bE (λg1=>?_) (λg1=>?_)
   ·have g1:=bne_iff_ne.1 g1;apply ws;intros;refine F4 _ ?_;rw[aee,bne_iff_ne,decide_eq_true_eq];refine⟨λhh=>.inr (.inr ⟨g1,hh⟩),λhh=>?_⟩;rcases hh with hh|hh|hh
    ·exact absurd (.inl hh) hc
    ·exact absurd (.inr hh) hc
    ·exact hh.2
   ·have g1:t.aG=0:=by simpa using g1
    refine F4 false (decide_eq_false (λhh=>?_)).symm;rcases hh with hh|hh|hh
    ·exact absurd (.inl hh) hc
    ·exact absurd (.inr hh) hc
    ·exact hh.1 g1
 unfold af.j8;cases b with
 |true=>exact j9 true (decide_eq_true (.inl (of_decide_eq_true hb.symm))).symm
 |false=>
  have hc:=of_decide_eq_false hb.symm;apply ws;intros;by_cases g1:t.ar=0
  ·rw[decide_eq_true g1];refine j9 false (decide_eq_false (λhh=>?_)).symm;rcases hh with hh|hh
   ·exact hc hh
   ·exact hh.1 g1
  ·rw[decide_eq_false g1];apply ws;intros;refine j9 _ ?_;by_cases g2:t.ar=x.move.ar
   ·rw[decide_eq_true g2];refine(decide_eq_false (λhh=>?_)).symm;rcases hh with hh|hh
    ·exact hc hh
    ·exact hh.2 g2
   ·rw[decide_eq_false g2];exact(decide_eq_true (.inr ⟨g1,g2⟩)).symm
def TU(hm:RM m)(ht:uX t)(h:∀gS gR,T W (ML p (m.lW t).2 mb mc gS gR R) (K (.i (m.lW t).1))):T W (ML p m mb mc kb kc R) (af (some ⟨p,0,none⟩) (ai t) K):=by
 unfold af;have rP:=hm.lH;have rN:=hm.many;have pI:=hm.ae;apply ws;intros;rename_i r1;refine vD ht ?_;apply ws;intros;have Gb:m.name t.pending=none->∀r:Int,kK t (m.named t.id) none false false m.kept.length=r->∀gS gR,T W (ML p m mb mc gS gR R) (K (.i r)):=λhn r he gS gR=>by
  have:=h gS gR;unfold Model.lW at this;rw[hn] at this;dsimp only at this;rw[he] at this;exact this
 have Ga:∀i k,m.name t.pending=some i->m.kept[i]?=some k->∀r:Int,r≠0->kK t (m.named t.id) (some k) (m.closed k.move.aF i) (m.closed k.move.ar i) m.kept.length=r->∀gS gR,T W (ML p m mb mc gS gR R) (K (.i r)):=λi k hi hk r hr he gS gR=>by
  have:=h gS gR;rw[RH hi hk hr he] at this;exact this
 have pa:∀r:Int,r≠0->(∀pd dC cC,kK t (m.named t.id) pd dC cC m.kept.length=r)->∀gS gR,T W (ML p m mb mc gS gR R) (K (.i r)):=λr hr he=>by
  rcases ni (λx:Kept=>decide (x.move.id=t.pending)) m.kept with⟨f1,f2,f3⟩|⟨i,x,f1,f2,f3,f4,f5⟩
  ·exact Gb f2 r (he _ _ _)
  ·exact Ga i x f4 f1 r hr (he _ _ _)
 unfold kK at pa Gb Ga;refine bE (λg1=>?_) (λg1=>?_)
 ·have g1:kz t≠0:=by simpa using g1
  have:=pa _ g1 (λ_ _ _=>if_pos g1) kb kc;exact T.dp this
 have g1:kz t=0:=by simpa using g1
 simp only[if_neg (show ¬kz t≠0 from λhh=>hh g1)] at pa Gb Ga;obtain⟨Ma,Zy⟩:=rY g1;have hf:0<=t.flags/\t.flags<1000000:=by omega
 apply ws;intros;refine rG hf ?_;apply ws;intros;by_cases g2:gv t.flags
 rotate_left
 ·rw[decide_eq_false g2];have:=pa 6 (by decide) (λ_ _ _=>if_pos g2) kb kc;apply ws;intros;exact T.dp this
 rw[decide_eq_true g2];simp only[if_neg (show ¬ ¬gv t.flags from λhh=>hh g2)] at pa Gb Ga;apply ws;intros;refine T.LZ ?_;refine DU (by omega) ?_;apply ws;intros;have JK:m.named t.id=m.kept.find? λk=>decide (k.move.id=t.id):=rfl;rcases ni (λx:Kept=>decide (x.move.id=t.id)) m.kept with⟨f1,f2,f3⟩|⟨i,x,f1,f2,f3,f4,f5⟩
 rotate_left
 ·rw[JK,f3] at pa;dsimp only at pa;rw[f5];have K8:=(adU.1 f1).1;have hx:=hm.kept x (aek f1);refine kq (decide_eq_true (by omega)) ?_;apply ws;intros;refine bQ (b:=kb) ⟨by omega,by omega⟩ λrb hb=>?_;rw[adT];subst hb;refine MG fA f1 ?_;refine AU hf ⟨hx.qw.1,by have:=hx.qw.2;omega⟩ ?_;apply ws;intros;refine T.sub (pa _ (oD _ _) (λ_ _ _=>rfl) (some ⟨rb,0,none⟩) kc) ?_;exact nh
 rw[JK,f1] at pa Gb;have Hd:m.named t.id=none:=by rw[JK,f1]
 rw[Hd] at Ga;dsimp only at pa Gb Ga;rw[f3];refine dV (by decide) ?_;apply ws;intros;refine DU (by omega) ?_;apply ws;intros;rcases ni (λx:Kept=>decide (x.move.id=t.pending)) m.kept with⟨d1,d2,d3⟩|⟨i,x,d1,d2,d3,d4,d5⟩
 ·rw[d3];refine kq (by decide) ?_;refine T.sub (Gb d2 23 rfl kb kc) ?_;exact nh
 have pa:=Ga i x d4 d1;clear Gb Ga;have K8:=(adU.1 d1).1;have mg:=aek d1;have hx:=hm.kept x mg;rw[d5];refine dV (decide_eq_false (by omega)) ?_;apply ws;intros;refine bQ (b:=kb) ⟨by omega,by omega⟩ λrb hb=>?_;rw[adT];subst hb;refine Ty ?_;refine MF fA d1 ?_;apply ws;intros;rename_i r2 r3;have hxf:0<=x.move.flags/\x.move.flags<1000000:=⟨hx.rI.1,by have:=hx.rI.2;omega⟩;refine hG hxf (by decide) ?_;apply ws;intros;by_cases g3:has x.move.flags 2
 rotate_left
 ·rw[if_pos g3] at pa;rw[decide_eq_false g3];apply ws;intros;refine T.sub (pa 24 (by decide) rfl (some ⟨rb,0,none⟩) kc) ?_;exact nh
 rw[if_neg (λhh=>hh g3)] at pa;rw[decide_eq_true g3];apply ws;intros;have fin:∀b:Bool,b=decide (t.aF≠0/\t.aF≠x.move.aF)->T W (Sep.pt r3 [.u 0,.u 0]::Sep.pt r2 (ai x.move)::ML p m mb mc (some ⟨rb,0,none⟩) kc (Sep.pt r1 (ai t)::R)) (af.j8 K (some ⟨p,0,none⟩) (i:Int) r1 r3 r2 b):=λb hb=>by
  refine T.perm (L:=ML p m mb mc (some ⟨rb,0,none⟩) kc (Sep.pt r3 [.u 0,.u 0]::Sep.pt r2 (ai x.move)::Sep.pt r1 (ai t)::R)) ?_ (ad1 (l₁:=[Sep.pt r3 [.u 0,.u 0],Sep.pt r2 (ai x.move)]) (l₂:=[_,_,_])|>.append_right _);refine Qk hm d1 hf ht.aB hb (λhn=>pa 25 (by decide) (if_pos hn)) (λhn Q5=>pa (25+x.fate) (by omega) (by rw[if_neg hn,if_pos Q5])) (λhn Q5 gS gR=>?_);have:=h gS gR;rw[Yg g1 g2 Hd d4 d1 g3 hn Q5] at this;exact this
 by_cases g4:t.aF=0
 ·rw[decide_eq_true g4];exact fin false (decide_eq_false (λhh=>hh.1 g4)).symm
 ·rw[decide_eq_false g4];apply ws;intros;refine fin _ ?_;by_cases g5:t.aF=x.move.aF
  ·rw[decide_eq_true g5];exact(decide_eq_false (λhh=>hh.2 g5)).symm
  ·rw[decide_eq_false g5];exact(decide_eq_true ⟨g4,g5⟩).symm
end
inductive It where
 |a(x:aP)
 |t(x:Move)
def vX:It->LV
 | .a x=>.bool true::(ak x++ai zT)
 | .t x=>.bool false::(ak zA++ai x)
def sh(m:Model):It->Int×Model
 | .a x=>m.make x
 | .t x=>m.nW x
def vF:It->Bool
 | .a x=>wQ x
 | .t x=>wP x
def IJ:It->Prop
 | .a x=>vf x
 | .t x=>uX x
def JE(x:It):(vX x).length=31:=by cases x<;>rfl
instance{x:aP}{t:Move}{b:Value}:Gt (b::(ak x++ai t)) 13 (.i x.flags):=⟨rfl⟩
instance{x:aP}{t:Move}{b:Value}:Gt (b::(ak x++ai t)) 28 (.i t.flags):=⟨rfl⟩
def JD(x:It):∀v∈vX x,v.oneCell'=true:=λv hv=>by
 cases x with
 |a x=>
  rcases ae'.1 hv with h|h
  ·subst h;rfl
  ·rcases aew.1 h with h|h
   ·exact eV _ v h
   ·exact lh _ v h
 |t x=>
  rcases ae'.1 hv with h|h
  ·subst h;rfl
  ·rcases aew.1 h with h|h
   ·exact eV _ v h
   ·exact lh _ v h
instance{x:aP}{t:Move}{b:Value}:Sub (b::(ak x++ai t)) 1 14 (ak x):=⟨rfl,λj v h=>by
 rw[Nat.add_comm 1 j,ad9,aef (adU.1 h).1];exact h⟩
instance{x:aP}{t:Move}{b:Value}:Sub (b::(ak x++ai t)) 15 16 (ai t):=⟨rfl,λj v h=>by
 have hl:(ak x).length=14:=rfl
 rw[show 15+j=14+j+1 by omega,ad9,aes (by omega),hl,Nat.add_sub_cancel_left];exact h⟩
def RM.sh{m:Model}{x:It}(h:RM m)(hx:IJ x):RM (sh m x).2:=by
 cases x with
 |a x=>exact h.make hx
 |t x=>exact h.nW hx
def E'(n:Int):(n.tmod 2!=0)=decide (n%2=1):=by
 rw[aee,bne_iff_ne,decide_eq_true_eq];rcases Int.le_total 0 n with h|h
 ·rw[aeA h];omega
 ·obtain⟨k,rfl⟩:∃k:Int,n= -k:=⟨-n,by omega⟩;rw[Int.neg_tmod,aeA (by omega)];omega
section
variable {W:World} {L R:LH} {K:VK} {X:WK} {p:Nat} {m:Model} {mb kb:OA} {mc kc:Nat} {x:It}
def FD(h:T W L (K (.bool (vF x)))):T W L (jn (vX x) K):=by
 unfold jn;cases x with
 |a x=>
  rw[show vX (It.a x)=.bool true::(ak x++ai zT) from rfl];apply ws;intros;refine cN (by decide) ?_;rw[E'];exact T.dp h
 |t x=>
  rw[show vX (It.t x)=.bool false::(ak zA++ai x) from rfl];apply ws;intros;refine cN (by decide) ?_;rw[E'];exact T.dp h
def Qo(hm:RM m)(hx:IJ x)(h:∀nu nt gS gR,T W (ML p (sh m x).2 nu nt gS gR R) (K (.i (sh m x).1))):T W (ML p m mb mc kb kc R) (fr (some ⟨p,0,none⟩) (vX x) K):=by
 unfold fr fr.j1;cases x with
 |a x=>
  rw[show vX (It.a x)=.bool true::(ak x++ai zT) from rfl];apply ws;intros;refine T.LZ ?_;refine Qj hm hx λnu nt=>?_;apply ws;intros;refine T.sub (h nu nt kb kc) ?_
  repeat (first|exact ad7.refl _|apply ad7.cons_cons|apply ad7.cons)
 |t x=>
  rw[show vX (It.t x)=.bool false::(ak zA++ai x) from rfl];apply ws;intros;refine vD hx ?_;rw[show sh m (It.t x)=m.nW x from rfl] at h;unfold Model.nW at h;apply ws;intros;refine bE (λg1=>?_) (λg1=>?_)
  ·have g1:kz x=0:=by simpa using g1
   obtain⟨Ma,Zy⟩:=rY g1;apply ws;intros;refine rG (by omega) ?_;apply ws;intros;by_cases g2:gv x.flags
   ·rw[decide_eq_true g2];rw[if_pos ⟨g1,g2⟩] at h;apply ws;intros;refine T.LZ ?_;refine TU hm hx λgS gR=>?_;apply ws;intros;refine T.sub (h mb mc gS gR) ?_;exact nh
   ·rw[decide_eq_false g2];rw[if_neg (λhh=>g2 hh.2)] at h;apply ws;intros;refine T.LZ ?_;refine Jj hm hx λgS gR=>?_;apply ws;intros;refine T.sub (h mb mc gS gR) ?_;exact nh
  ·have g1: ¬kz x=0:=by simpa using g1
   rw[if_neg (λhh=>g1 hh.1)] at h;apply ws;intros;refine T.LZ ?_;refine Jj hm hx λgS gR=>?_;apply ws;intros;refine T.sub (h mb mc gS gR) ?_;exact nh
def Ce{s:OA}{c:Nat}{l:List aP}[hh:Has R L](hr:nQ W R ak 14 s l)(hl:l.length<=1000000)
 (h:∀b c,T W (own b l.length c 31 ((l.map It.a).flatMap vX)::L) (K (.l b l.length c))):T W L (iv s l.length c K):=by
 unfold iv;refine eW (e:=31) ?_;intro w ju;refine⟨λvv w=>∃(i:Nat)(b:OA)(c2:Nat)(out:List It),i<=l.length/\out=(l.take i).map It.a/\vv=[.l none 0 0,.l b i c2,.l s l.length c,.i (l.length:Int),.i (i:Int)]/\St W w (own b i c2 31 (out.flatMap vX)::L),
  λvs _=>match vs with|[_,_,_,_,.int _ d]=>l.length-d.toNat|_=>0,⟨0,none,0,[],ad2 _,rfl,rfl,ju⟩,?_⟩
 rintro uR qe uQ b i c2 zm yE yF n1 n2 w2 ⟨i0,b0,c0,out,hi,tu,e,fh⟩;cases e
 refine T.at ?_ fh;have e5:=lY i;refine dP (λg1=>?_) (λg1=>?_)
 ·have aZ:i<l.length:=by omega
  have gx:=adS aZ;generalize l[i]=x at gx;refine jY hr ⟨by omega,by omega⟩ rfl λa ha=>?_;rw[adT];refine jX hr ha gx (eY x) ?_;apply ws;intros;refine gZ (g:=vX) (l:=out) (x:=It.a x) (by rw[aed];rfl) rfl rfl (by omega) (by omega) (JD _) λb' c'=>?_;rw[e5];refine T.drop (T.sub (M:=own b' (i+1) c' 31 ((out++[It.a x]).flatMap vX)::L) (λw3 h3=>⟨⟨i+1,b',c',out++[It.a x],aZ,?_,rfl,h3⟩,by show l.length-((i+1:Nat):Int).toNat<l.length-(i:Int).toNat;omega⟩) (by repeat (first|exact ad7.refl _|apply ad7.cons_cons|apply ad7.cons)));rw[aeb,gx,aep,tu];rfl
 ·have gr:i=l.length:=by omega
  subst gr;rw[ad5] at tu;subst tu;exact h _ _
def AO{s:OA}{c:Nat}{l:List Move}[hh:Has R L](hr:nQ W R ai 16 s l)(hl:l.length<=1000000)
 (h:∀b c,T W (own b l.length c 31 ((l.map It.t).flatMap vX)::L) (K (.l b l.length c))):T W L (gY s l.length c K):=by
 unfold gY;refine eW (e:=31) ?_;intro w ju;refine⟨λvv w=>∃(i:Nat)(b:OA)(c2:Nat)(out:List It),i<=l.length/\out=(l.take i).map It.t/\vv=[.l none 0 0,.l b i c2,.l s l.length c,.i (l.length:Int),.i (i:Int)]/\St W w (own b i c2 31 (out.flatMap vX)::L),
  λvs _=>match vs with|[_,_,_,_,.int _ d]=>l.length-d.toNat|_=>0,⟨0,none,0,[],ad2 _,rfl,rfl,ju⟩,?_⟩
 rintro uR qe uQ b i c2 zm yE yF n1 n2 w2 ⟨i0,b0,c0,out,hi,tu,e,fh⟩;cases e
 refine T.at ?_ fh;have e5:=lY i;refine dP (λg1=>?_) (λg1=>?_)
 ·have aZ:i<l.length:=by omega
  have gx:=adS aZ;generalize l[i]=x at gx;refine jY hr ⟨by omega,by omega⟩ rfl λa ha=>?_;rw[adT];refine jX hr ha gx (rJ x) ?_;apply ws;intros;refine gZ (g:=vX) (l:=out) (x:=It.t x) (by rw[aed,aed];rfl) rfl rfl (by omega) (by omega) (JD _) λb' c'=>?_;rw[e5];refine T.drop (T.sub (M:=own b' (i+1) c' 31 ((out++[It.t x]).flatMap vX)::L) (λw3 h3=>⟨⟨i+1,b',c',out++[It.t x],aZ,?_,rfl,h3⟩,by show l.length-((i+1:Nat):Int).toNat<l.length-(i:Int).toNat;omega⟩) (by repeat (first|exact ad7.refl _|apply ad7.cons_cons|apply ad7.cons)));rw[aeb,gx,aep,tu];rfl
 ·have gr:i=l.length:=by omega
  subst gr;rw[ad5] at tu;subst tu;exact h _ _
end
def Bk(p:Nat)(m:Model)(mb:OA)(mc:Nat)(kb:OA)(kc:Nat)(R:LH)(p2:Nat)(m':Model)(nu:OA)(nt:Nat)(gS:OA)(gR:Nat)(R':LH):Prop:=
 (R'=R/\p2=p/\m'=m/\nu=mb/\nt=mc/\gS=kb/\gR=kc)\/R'=ML p m mb mc kb kc R
def Nn{n:Nat}{o:Option (Nat×Int)}{q:Nat}(hq:q<n):(ij n o)[q]?=some (match o with|none=>0|some (i,c)=>if q=i then c else 1):=by
 unfold ij;cases o with
 |none=>simp[hq]
 |some e=>
  obtain⟨i,c⟩:=e;dsimp only;rw[aeo];by_cases h:i=q
  ·subst h;rw[if_pos rfl,if_pos (by simpa using hq),if_pos rfl]
  ·rw[if_neg h,if_neg (λhh=>h hh.symm)];simp[hq]
def IK(x:Int):∀v∈I1 x,v.oneCell'=true:=λv hv=>by simp[I1] at hv;subst hv;rfl
section
variable {W:World} {L R:LH} {K:VK} {X:WK} {p:Nat} {m:Model} {mb kb:OA} {mc kc:Nat} {x:It}
def OU(W:World)(R:LH)(p:Nat)(m:Model)(mb:OA)(mc:Nat)(kb:OA)(kc:Nat)(l:List It)(lb:OA)(lc:Nat)(vv:LV)(w:World):Prop:=
 ∃(at_ fuel:Nat)(m':Model)(done:List Int)(p2:Nat)(nu:OA)(nt:Nat)(gS:OA)(gR:Nat)(ob:OA)(oc:Nat)(R':LH),at_<=l.length/\done.length=at_/\l.length<=fuel+at_/\
  eO sh vF l.length m l=(done++(eO sh vF fuel m' (l.drop at_)).1,(eO sh vF fuel m' (l.drop at_)).2)/\RM m'/\Bk p m mb mc kb kc R p2 m' nu nt gS gR R'/\
  vv=[.p (some ⟨p2,0,none⟩),.l none 0 0,.p none,.l ob at_ oc,.i (at_:Int)]/\
  St W w (ML p2 m' nu nt gS gR (own ob at_ oc 1 (done.flatMap I1)::own lb l.length lc 31 (l.flatMap vX)::R'))
def Wt(n:Nat)(vs:LV)(_:World):Nat:=match vs with|[_,_,_,_,.int _ d]=>n-d.toNat|_=>0
def DT{w2:World}{l:List It}{lb:OA}{lc:Nat}{at_ fuel n:Nat}{m' mN:Model}{done:List Int}{p2 p6:Nat}{nu gS nb nk ob:OA}{nt gR nc Ns oc:Nat}{R':LH}{o:Option (Nat×Int)}{bad code:Int}
 (hl:l.length<=1000)(hn:0<n)(vK:at_+n<=l.length)(wX:done.length=at_)(L9:l.length<=fuel+(at_+n))(ho:(o=none/\bad<0)\/∃i,o=some (i,code)/\i<n/\bad=((at_+i:Nat):Int))(He:RM m')(SE:RM mN)
 (zX:Bk p m mb mc kb kc R p2 m' nu nt gS gR R')
 (ln:eO sh vF l.length m l=(done++ij n o++(eO sh vF fuel (if o=none then mN else m') (l.drop (at_+n))).1,(eO sh vF fuel (if o=none then mN else m') (l.drop (at_+n))).2)):
 T W (ML p6 mN nb nc nk Ns (ML p2 m' nu nt gS gR (own ob at_ oc 1 (done.flatMap I1)::own lb l.length lc 31 (l.flatMap vX)::R')))
   (aW.j3 K (OU W R p m mb mc kb kc l lb lc) (Wt l.length) (some ⟨p2,0,none⟩) none 0 0 none ob at_ oc (at_:Int) w2 (some ⟨p2,0,none⟩) none 0 0 none ob at_ oc (at_:Int) ((at_+n-1:Nat):Int) bad code (some ⟨p6,0,none⟩)):=by
 unfold aW.j3;intro w ju;refine⟨λvv w=>∃(q:Nat)(b:OA)(c:Nat),q<=n/\vv=[.p (some ⟨p2,0,none⟩),.l none 0 0,.p none,.l b (at_+q) c,.i (at_:Int),.i ((at_+n-1:Nat):Int),.i bad,.i code,.p (some ⟨p6,0,none⟩),.i ((at_+q:Nat):Int)]/\
  St W w (ML p6 mN nb nc nk Ns (ML p2 m' nu nt gS gR (own b (at_+q) c 1 ((done++(ij n o).take q).flatMap I1)::own lb l.length lc 31 (l.flatMap vX)::R'))),
  λvs _=>match vs with|[_,_,_,_,_,_,_,_,_,.int _ d]=>at_+n-d.toNat|_=>0,⟨0,ob,oc,ad2 _,rfl,by rw[afh,aed];exact ju⟩,?_⟩
 rintro p10 sb8 sn8 sc8 p11 b sn9 c T3 Sv L0 V2 p12 V1 w4 ⟨q,b0,c0,hq,e,uE⟩;cases e
 refine T.at ?_ uE;have e5:adP.wrap (((at_+q:Nat):Int)+1)=((at_+(q+1):Nat):Int):=by rw[aw (by omega)];omega
 refine dP (λg1=>?_) (λg1=>?_)
 ·have aZ:q<n:=by omega
  have wV:=Nn (o:=o) aZ;have oy:(ij n o).take (q+1)=(ij n o).take q++[match o with|none=>0|some (i,c)=>if q=i then c else 1]:=by rw[aeb,wV];rfl
  rcases ho with⟨rfl,hb⟩|⟨i,rfl,hi,rfl⟩
  ·refine kq (decide_eq_true hb) ?_;refine cN ⟨rfl,trivial⟩ ?_;refine qD λr1=>?_;refine gZ (g:=I1) (l:=done++(ij n _).take q) (x:=(0:Int)) rfl rfl rfl (by omega) (by omega) (IK _) λb' c'=>?_;rw[e5];refine T.drop λw5 h5=>⟨⟨q+1,b',c',aZ,rfl,by rw[oy,<-ad0];exact h5⟩,by show at_+n-((at_+(q+1):Nat):Int).toNat<at_+n-((at_+q:Nat):Int).toNat;omega⟩
  ·refine dV (decide_eq_false (by omega)) ?_;by_cases hqi:q=i
   ·subst hqi;refine kq (by simp) ?_;dsimp only at oy;rw[if_pos rfl] at oy;refine cN ⟨rfl,trivial⟩ ?_;refine qD λr1=>?_;refine gZ (g:=I1) (l:=done++(ij n _).take q) (x:=code) rfl rfl rfl (by omega) (by omega) (IK _) λb' c'=>?_;rw[e5];refine T.drop λw5 h5=>⟨⟨q+1,b',c',aZ,rfl,by rw[oy,<-ad0];exact h5⟩,by show at_+n-((at_+(q+1):Nat):Int).toNat<at_+n-((at_+q:Nat):Int).toNat;omega⟩
   ·refine dV (by simp;omega) ?_;dsimp only at oy;rw[if_neg hqi] at oy;refine cN ⟨rfl,trivial⟩ ?_;refine qD λr1=>?_;refine gZ (g:=I1) (l:=done++(ij n _).take q) (x:=(1:Int)) rfl rfl rfl (by omega) (by omega) (IK _) λb' c'=>?_;rw[e5];refine T.drop λw5 h5=>⟨⟨q+1,b',c',aZ,rfl,by rw[oy,<-ad0];exact h5⟩,by show at_+n-((at_+(q+1):Nat):Int).toNat<at_+n-((at_+q:Nat):Int).toNat;omega⟩
 ·have gr:q=n:=by omega
  subst gr;rw[aea (Nat.le_of_eq (jz q o))];have e6:adP.wrap (((at_+q-1:Nat):Int)+1)=((at_+q:Nat):Int):=by rw[aw (by omega)];omega
  rw[e6];rcases ho with⟨rfl,hb⟩|⟨i,rfl,hi,rfl⟩
  ·refine kq (decide_eq_true hb) ?_;rw[if_pos rfl] at ln;have fin:∀ZZ,Bk p m mb mc kb kc R p6 mN nb nc nk Ns ZZ->T W (ML p6 mN nb nc nk Ns (own b (at_+q) c 1 ((done++ij q none).flatMap I1)::own lb l.length lc 31 (l.flatMap vX)::ZZ))
                                       (λw8=>OU W R p m mb mc kb kc l lb lc [.p (some ⟨p6,0,none⟩),.l none 0 0,.p none,.l b (at_+q) c,.i ((at_+q:Nat):Int)] w8/\Wt l.length [.p (some ⟨p6,0,none⟩),.l none 0 0,.p none,.l b (at_+q) c,.i ((at_+q:Nat):Int)] w8<Wt l.length [.p (some ⟨p2,0,none⟩),.l none 0 0,.p none,.l ob at_ oc,.i (at_:Int)] w2):=λZZ aa3 w8 h8=>by
    refine⟨⟨at_+q,fuel,mN,done++ij q none,p6,nb,nc,nk,Ns,b,c,ZZ,vK,by rw[adV,jz];omega,L9,ln,SE,aa3,rfl,h8⟩,?_⟩;show l.length-((at_+q:Nat):Int).toNat<l.length-(at_:Int).toNat;omega
   rcases zX with⟨rfl,rfl,rfl,rfl,rfl,rfl,rfl⟩|rfl
   ·refine T.perm (fin _ (.inr rfl)) ?_;exact(ad1 (l₁:=[Sep.pt p2 (zp m' nu nt gS gR),own nu m'.made.length nt 14 (m'.made.flatMap ak),own gS m'.kept.length gR 33 (m'.kept.flatMap aJ)]) (l₂:=[_,_])|>.append_right R').append_left [_,_,_]
   ·refine T.sub (fin _ (.inr rfl)) ?_;exact nh
  ·refine dV (decide_eq_false (by omega)) ?_;rw[if_neg (by simp)] at ln;refine T.drop (T.drop (T.drop λw8 h8=>?_));refine⟨⟨at_+q,fuel,m',done++ij q (some (i,code)),p2,nu,nt,gS,gR,b,c,R',vK,by rw[adV,jz];omega,L9,ln,He,zX,rfl,h8⟩,?_⟩;show l.length-((at_+q:Nat):Int).toNat<l.length-(at_:Int).toNat;omega
def Ji{w2:World}{l:List It}{lb:OA}{lc:Nat}{at_ fuel n:Nat}{m':Model}{done:List Int}{p2:Nat}{nu gS ob:OA}{nt gR oc:Nat}{R':LH}{bad code:Int}
 (fJ:∀x∈l,IJ x)(hl:l.length<=1000)(hn:0<n)(vK:at_+n<=l.length)(wX:done.length=at_)(L9:l.length<=fuel+(at_+n))(He:RM m')
 (zX:Bk p m mb mc kb kc R p2 m' nu nt gS gR R')
 (Ei:bm vF (l.drop at_)=(n,decide (bad<0)))(uW:(bad= -1/\code=0)\/(bad=((at_+n-1:Nat):Int)/\code=2/\at_+n=l.length))
 (ln:eO sh vF l.length m l=(done++(eO sh vF (fuel+1) m' (l.drop at_)).1,(eO sh vF (fuel+1) m' (l.drop at_)).2)):
 T W (ML p2 m' nu nt gS gR (own ob at_ oc 1 (done.flatMap I1)::own lb l.length lc 31 (l.flatMap vX)::R'))
   (aW.j2 K (some ⟨p2,0,none⟩) none 0 0 none ob at_ oc (at_:Int) lb l.length (OU W R p m mb mc kb kc l lb lc) (Wt l.length) (some ⟨p2,0,none⟩) none 0 0 none ob at_ oc (at_:Int) w2 ((at_+n-1:Nat):Int) bad code):=by
 unfold aW.j2 aW.j4;have hmf:=He.lH;have hmm:=He.many;refine DW (by omega) (by omega) λp6 nb0 nc0 nk0 aal=>?_;apply ws;intros;have gU:l.drop at_≠[]:=λhh=>by have:=congrArg List.length hh;rw[ad4] at this;simp at this;omega
 have dZ:=xJ (f:=sh) (lk:=vF) (n:=fuel) (s:=m') gU;have Wg:(l.drop at_).drop n=l.drop (at_+n):=ae2;rw[Ei] at dZ;dsimp only at dZ;rw[Wg] at dZ;intro w ju;refine⟨λvv w=>∃(i:Nat)(bd cd:Int)(mN:Model)(nb:OA)(nc:Nat)(nk:OA)(Ns:Nat),i<=n/\RM mN/\
                                                                                                      ((bd<0/\bad<0/\fp sh m' ((l.drop at_).take i) 0=(none,mN))\/(∃q s,bd=((at_+q:Nat):Int)/\q<n/\bad<0/\fp sh m' ((l.drop at_).take n) 0=(some (q,cd),s))\/(bd=bad/\cd=code/\ ¬bad<0))/\
                                                                                                      vv=[.p (some ⟨p2,0,none⟩),.l none 0 0,.p none,.l ob at_ oc,.i (at_:Int),.i ((at_+n-1:Nat):Int),.i bd,.i cd,.p (some ⟨p6,0,none⟩),.i ((at_+i:Nat):Int)]/\
                                                                                                      St W w (ML p6 mN nb nc nk Ns (ML p2 m' nu nt gS gR (own ob at_ oc 1 (done.flatMap I1)::own lb l.length lc 31 (l.flatMap vX)::R'))),
  λvs _=>match vs with|[_,_,_,_,_,_,_,_,_,.int _ d]=>at_+n-d.toNat|_=>0,⟨0,bad,code,m',nb0,nc0,nk0,aal,ad2 _,He,?_,rfl,ju⟩,?_⟩
 ·by_cases hb:bad<0
  ·exact .inl ⟨hb,hb,rfl⟩
  ·exact .inr (.inr ⟨rfl,rfl,hb⟩)
 rintro p13 adu ado adr p14 ob1 DA oc1 uA n17 bd cd p15 n20 w11 ⟨i,bd0,cd0,mN,nb,nc,nk,Ns,hi,SE,pI,e,fh⟩;cases e
 refine T.at ?_ fh;have e5:adP.wrap (((at_+i:Nat):Int)+1)=((at_+(i+1):Nat):Int):=by rw[aw (by omega)];omega
 have leave:(i=n\/ ¬bd<0)->T W (ML p6 mN nb nc nk Ns (ML p2 m' nu nt gS gR (own ob at_ oc 1 (done.flatMap I1)::own lb l.length lc 31 (l.flatMap vX)::R')))
  (aW.j3 K (OU W R p m mb mc kb kc l lb lc) (Wt l.length) (some ⟨p2,0,none⟩) none 0 0 none ob at_ oc (at_:Int) w2 (some ⟨p2,0,none⟩) none 0 0 none ob at_ oc (at_:Int) ((at_+n-1:Nat):Int) bd cd (some ⟨p6,0,none⟩)):=λSF=>by
  rcases pI with⟨h1,h2,h3⟩|⟨q,s,h1,h2,h3,h4⟩|⟨h1,h2,h3⟩
  ·have Bm:i=n:=by rcases SF with hh|hh;exact hh;exact absurd h1 hh
   subst Bm;refine DT (fuel:=fuel) (o:=none) hl hn vK wX L9 (.inl ⟨rfl,h1⟩) He SE zX ?_;rw[if_neg (by rw[decide_eq_true h2];decide),h3] at dZ;dsimp only at dZ;rw[if_pos rfl,ln,dZ];simp
  ·refine DT (fuel:=fuel) (o:=some (q,cd)) hl hn vK wX L9 (.inr ⟨q,rfl,h2,h1⟩) He SE zX ?_;rw[if_neg (by rw[decide_eq_true h3];decide),h4] at dZ;dsimp only at dZ;rw[if_neg (by simp),ln,dZ];simp
  ·subst h1 h2;rcases uW with⟨hb,_⟩|⟨hb,hc,Lb⟩
   ·omega
   refine DT (fuel:=fuel) (o:=some (n-1,cd)) hl hn vK wX L9 (.inr ⟨n-1,rfl,by omega,by rw[hb];omega⟩) He SE zX ?_;rw[if_pos (by rw[decide_eq_false h3])] at dZ;rw[if_neg (by simp),ln,dZ,hc];rw[show l.drop (at_+n)=[] from aez (by omega),rF];simp
 by_cases SF:i=n\/ ¬bd<0
 ·have:=leave SF;refine dP (λg1=>?_) (λg1=>?_)
  ·have hb: ¬bd<0:=by rcases SF with hh|hh;omega;exact hh
   rw[decide_eq_false hb];exact this
  ·exact this
 ·have aZ:i<n:=Decidable.byContradiction λhh=>SF (.inl (by omega));have hb:bd<0:=Decidable.byContradiction λhh=>SF (.inr hh);have EU:bad<0/\fp sh m' ((l.drop at_).take i) 0=(none,mN):=by
   rcases pI with⟨h1,h2,h3⟩|⟨q,s,h1,h2,h3,h4⟩|⟨h1,h2,h3⟩
   ·exact⟨h2,h3⟩
   ·omega
   ·omega
  have gx:=adS (show at_+i<l.length by omega);have Ec:=fJ _ (aeg (show at_+i<l.length by omega));generalize l[at_+i]=x at gx Ec;have Yb:(l.drop at_)[i]?=some x:=by rw[ae8];exact gx
  have oy:(l.drop at_).take (i+1)=(l.drop at_).take i++[x]:=by rw[aeb,Yb];rfl
  have Xk:((l.drop at_).take i).length=i:=by rw[adX,ad4];omega
  refine kq (decide_eq_true (by omega)) ?_;rw[decide_eq_true hb];refine vr ?_;refine bQ (b:=lb) ⟨by omega,by omega⟩ λrb Uk=>?_;rw[adT];subst Uk;refine dx (g:=vX) JE gx ?_;refine Qo SE Ec λnb' nc' nk' W0=>?_;apply ws;intros;rw[e5];refine bE (λg2=>?_) (λg2=>?_)
  ·have g2:(sh mN x).1≠0:=by simpa using g2
   refine λw3 h3=>⟨⟨i+1,_,(sh mN x).1,_,nb',nc',nk',W0,aZ,SE.sh Ec,.inr (.inl ⟨i,mN,rfl,aZ,EU.1,?_⟩),rfl,h3⟩,by show at_+n-((at_+(i+1):Nat):Int).toNat<at_+n-((at_+i:Nat):Int).toNat;omega⟩;have qj:(l.drop at_).take n=(l.drop at_).take i++x::((l.drop at_).take n).drop (i+1):=by
    have e1:((l.drop at_).take n)[i]?=some x:=by rw[List.getElem?_take_of_lt aZ];exact Yb
    obtain⟨K8,Wc⟩:=adU.1 e1;have e2:=aem i ((l.drop at_).take n);rw[aex K8,Wc,afq,afj (by omega)] at e2;exact e2.symm
   rw[qj,oB _ _ _ _ _ EU.2,fp,if_pos g2,Xk,adW]
  ·have g2:(sh mN x).1=0:=by simpa using g2
   refine λw3 h3=>⟨⟨i+1,bd,_,_,nb',nc',nk',W0,aZ,SE.sh Ec,.inl ⟨hb,EU.1,?_⟩,rfl,h3⟩,by show at_+n-((at_+(i+1):Nat):Int).toNat<at_+n-((at_+i:Nat):Int).toNat;omega⟩;rw[oy,oB _ _ _ _ _ EU.2,fp,if_neg (by omega)]
   rfl
def Nc{l:List It}{lb:OA}{lc:Nat}(hm:RM m)(fJ:∀x∈l,IJ x)(hl:l.length<=1000)
 (h:∀p2 nu nt gS gR ob oc R',Bk p m mb mc kb kc R p2 (eO sh vF l.length m l).2 nu nt gS gR R'->RM (eO sh vF l.length m l).2->(eO sh vF l.length m l).1.length=l.length->
  T W (ML p2 (eO sh vF l.length m l).2 nu nt gS gR (own ob l.length oc 1 ((eO sh vF l.length m l).1.flatMap I1)::own lb l.length lc 31 (l.flatMap vX)::R')) (K (.tuple ⟨[.l ob l.length oc,.p (some ⟨p2,0,none⟩)]⟩))):
 T W (ML p m mb mc kb kc (own lb l.length lc 31 (l.flatMap vX)::R)) (aW (some ⟨p,0,none⟩) lb l.length lc K):=by
 unfold aW aW.j1;refine eW (e:=1) ?_;refine T.E7 ?_;intro w ju;refine⟨OU W R p m mb mc kb kc l lb lc,Wt l.length,⟨0,l.length,m,[],p,mb,mc,kb,kc,none,0,R,ad2 _,rfl,by omega,by simp,hm,.inl ⟨rfl,rfl,rfl,rfl,rfl,rfl,rfl⟩,rfl,ju⟩,?_⟩;rintro p2v uR qe uQ p3 ob at_ oc n1 w2 ⟨at0,fuel,m',done,p2,nu,nt,gS,gR,ob0,oc0,R',vK,wX,L9,ln,He,zX,e,fh⟩;cases e
 refine T.at ?_ fh;refine dP (λg1=>?_) (λg1=>?_)
 ·have aZ:at_<l.length:=by omega
  intro w3 rB;refine⟨λvv w=>∃e:Nat,at_<=e/\e<=l.length/\(∀j y,j<e-at_->(l.drop at_)[j]?=some y->vF y=true)/\vv=[.p (some ⟨p2,0,none⟩),.l none 0 0,.p none,.l ob at_ oc,.i (at_:Int),.i (e:Int)]/\
   St W w (ML p2 m' nu nt gS gR (own ob at_ oc 1 (done.flatMap I1)::own lb l.length lc 31 (l.flatMap vX)::R')),
   λvs _=>match vs with|[_,_,_,_,_,.int _ d]=>l.length-d.toNat|_=>0,⟨at_,adY _,vK,(λj y hj=>by omega),rfl,rB⟩,?_⟩
  rintro p16 adt adn adq p17 ads adm adp n22 n23 w15 ⟨en,adJ,adI,fG,e,JI⟩;cases e
  refine T.at ?_ JI;obtain⟨fuel,rfl⟩:∃k,fuel=k+1:=⟨fuel-1,by omega⟩;refine dP (λg2=>?_) (λg2=>?_)
  ·have rO:en<l.length:=by omega
   have gx:=adS rO;generalize l[en]=x at gx;have Yb:(l.drop at_)[en-at_]?=some x:=by rw[ae8,show at_+(en-at_)=en by omega];exact gx
   refine bQ (b:=lb) ⟨by omega,by omega⟩ λrb Uk=>?_;rw[adT];subst Uk;refine dx (g:=vX) JE gx ?_;refine FD ?_;refine qC ?_;cases hlk:vF x with
   |true=>
    refine vr ?_;have e5:=lY en;rw[e5];refine λw6 h6=>⟨⟨en+1,by omega,rO,λj y hj hy=>?_,rfl,h6⟩,by show l.length-((en+1:Nat):Int).toNat<l.length-(en:Int).toNat;omega⟩;by_cases hje:j=en-at_
    ·subst hje;rw[Yb] at hy;cases hy
     exact hlk
    ·exact fG j y (by omega) hy
   |false=>
    refine po ?_;refine dV (by simp;omega) ?_;have hc:=s6 (linked:=vF) fG Yb hlk;have:=Ji (W:=W) (R:=R) (K:=K) (p:=p) (m:=m) (mb:=mb) (mc:=mc) (kb:=kb) (kc:=kc) (w2:=w2) (lb:=some ⟨rb,0,none⟩) (lc:=lc) (n:=en-at_+1) (bad:= -1) (code:=0) (fuel:=fuel) (ob:=ob) (oc:=oc) (done:=done) fJ hl (by omega) (by omega) wX (by omega) He zX (by rw[hc];rfl) (.inl ⟨rfl,rfl⟩) ln;rw[show at_+(en-at_+1) -1=en by omega] at this;exact this
  ·have gr:en=l.length:=by omega
   subst gr;refine kq (by simp) ?_;have rQ:(l.drop at_).length=l.length-at_:=ad4;have hc:=qX (linked:=vF) (l:=l.drop at_) λx hx=>by
    obtain⟨j,hj⟩:=afa hx;exact fG j x (by have:=(adU.1 hj).1;omega) hj
   have:=Ji (W:=W) (R:=R) (K:=K) (p:=p) (m:=m) (mb:=mb) (mc:=mc) (kb:=kb) (kc:=kc) (w2:=w2) (lb:=lb) (lc:=lc) (n:=l.length-at_) (bad:=((l.length-1:Nat):Int)) (code:=2) (fuel:=fuel) (ob:=ob) (oc:=oc) (done:=done) fJ hl (by omega) (by omega) wX (by omega) He zX (by rw[hc,rQ];rw[decide_eq_false (by omega)]) (.inr ⟨by congr 1;omega,rfl,by omega⟩) ln;have e7:adP.wrap ((l.length:Int) -1)=((l.length-1:Nat):Int):=by rw[aw (by omega)];omega
   rw[show at_+(l.length-at_) -1=l.length-1 by omega] at this;rw[e7];exact this
 ·have gr:at_=l.length:=by omega
  subst gr;rw[List.drop_length,rF] at ln;simp only[aed] at ln;rw[ln] at h;exact h p2 nu nt gS gR ob oc R' zX He wX
end
def y9{α β:Type}(f:α->β)(lk:β->Bool):∀l:List α,bm lk (l.map f)=bm (λx=>lk (f x)) l
 |[]=>rfl
 |x::l=>by
  simp only[aet,bm];rw[y9 f lk l]
def Du{α β σ:Type}(f:α->β)(g:σ->β->Int×σ):∀(l:List α)(s:σ)(i:Nat),fp g s (l.map f) i=fp (λs x=>g s (f x)) s l i
 |[],s,i=>rfl
 |x::l,s,i=>by
  simp only[aet,fp];rw[Du f g l]
def AE{α β σ:Type}(f:α->β)(g:σ->β->Int×σ)(lk:β->Bool):∀(n:Nat)(s:σ)(l:List α),eO g lk n s (l.map f)=eO (λs x=>g s (f x)) (λx=>lk (f x)) n s l
 |0,s,l=>rfl
 |n+1,s,[]=>rfl
 |n+1,s,x::l=>by
  have e:=y9 f lk (x::l);rw[aet] at e;rw[aet];unfold eO;rw[e,<-aet,<-List.map_take,<-List.map_drop,Du];simp only[AE f g lk n]
section
variable {W:World} {L R:LH} {K:VK} {X:WK} {p:Nat} {m:Model} {mb kb:OA} {mc kc:Nat} {q:iw} {s:r9}
def Jf(m:Model)(l:List aP):eO sh vF l.length m (l.map It.a)=eO Model.make wQ l.length m l:=AE It.a sh vF _ m l
def Je(m:Model)(l:List Move):eO sh vF l.length m (l.map It.t)=eO Model.nW wP l.length m l:=AE It.t sh vF _ m l
def RM.aH{m:Model}{q:iw}(h:RM m)(h1:q.op=1->∀a∈q.ag,vf a)(h2:q.op=2->∀t∈q.aT,uX t):RM (aH m q).2.2:=by
 have run:∀(n:Nat)(l:List It)(m:Model),(∀x∈l,IJ x)->RM m->RM (eO Up.sh vF n m l).2:=by
  intro n
  induction n with
  |zero=>intro l m _ hm;exact hm
  |succ n ih=>
   intro l m fJ hm;cases l with
   |nil=>exact hm
   |cons x l=>
    have fG:∀(l:List It)(m:Model)(i:Nat),(∀x∈l,IJ x)->RM m->(fp Up.sh m l i).1=none->RM (fp Up.sh m l i).2:=by
     intro l
     induction l with
     |nil=>intro m i _ hm _;exact hm
     |cons y l Pg=>
      intro m i fJ hm hn;unfold fp at hn⊢;by_cases hc:(Up.sh m y).1≠0
      ·rw[if_pos hc] at hn;cases hn
      ·rw[if_neg hc] at hn⊢;exact Pg _ _ (λz hz=>fJ z (aeW _ hz)) (hm.sh (fJ y List.mem_cons_self)) hn
    rw[eO];by_cases hw:(bm vF (x::l)).2=false
    ·rw[if_pos hw];exact hm
    rw[if_neg hw];cases hd:fp Up.sh m ((x::l).take (bm vF (x::l)).1) 0 with
    |mk o s'=>
     have Gj:∀z∈(x::l).drop (bm vF (x::l)).1,IJ z:=λz hz=>fJ z (List.mem_of_mem_drop hz);cases o with
     |none=>
      have:=fG _ m 0 (λz hz=>fJ z (List.mem_of_mem_take hz)) hm (by rw[hd]);rw[hd] at this;exact ih _ _ Gj this
     |some e=>exact ih _ _ Gj hm
 unfold Up.aH;by_cases he:jt q=false
 ·rw[if_pos he];exact h
 rw[if_neg he];by_cases o1:q.op=1
 ·rw[if_pos o1,<-Jf];exact run _ _ _ (λx hx=>by obtain⟨a,ha,rfl⟩:=aeC.1 hx;exact h1 o1 a ha) h
 rw[if_neg o1];by_cases o2:q.op=2
 ·rw[if_pos o2,<-Je];exact run _ _ _ (λx hx=>by obtain⟨a,ha,rfl⟩:=aeC.1 hx;exact h2 o2 a ha) h
 rw[if_neg o2];refine h.time _ ?_;unfold jt at he;rw[if_neg o1,if_neg o2] at he;by_cases o3:q.op=3
 ·rw[if_pos o3] at he;have he:(decide (0<=q.now)&&decide (q.now<=1099511627776))=true:=by simpa using he
  simp only[aeL,decide_eq_true_eq] at he;exact he.1
 ·rw[if_neg o3] at he;exact absurd rfl he
def Qm(hm:RM m)(hq:lu W R q s)(zv:q.ag.length<1000000)(aZ:q.aT.length<1000000)(h1:q.op=1->∀a∈q.ag,vf a)(h2:q.op=2->∀t∈q.aT,uX t)
 (h:∀p2 nu nt gS gR ob oc R',Bk p m mb mc kb kc R p2 (aH m q).2.2 nu nt gS gR R'->RM (aH m q).2.2->
  T W (ML p2 (aH m q).2.2 nu nt gS gR (own ob (aH m q).2.1.length oc 1 ((aH m q).2.1.flatMap I1)::R')) (K (.tuple ⟨[.l ob (aH m q).2.1.length oc,.i (aH m q).1,.p (some ⟨p2,0,none⟩)]⟩))):
 T W (ML p m mb mc kb kc R) (eJ (some ⟨p,0,none⟩) (dF q s) K):=by
 unfold eJ eJ.j1;have hmf:=hm.lH;have hmm:=hm.many;have Lb:=hm.aH h1 h2;apply ws;intros;rename_i r1;refine CT ?_;by_cases he:jt q=false
 ·rw[he];apply ws;intros;have e:aH m q=(1,[],m):=by unfold aH;rw[if_pos he]
  rw[e] at h Lb;refine T.drop ?_;refine eW (e:=1) ?_;refine T.LZ ?_;exact h p mb mc kb kc none 0 R (.inl ⟨rfl,rfl,rfl,rfl,rfl,rfl,rfl⟩) hm
 have Mb:jt q=true:=by simpa using he
 rw[Mb];apply ws;intros;refine bE (λg1=>?_) (λg1=>?_)
 ·have g1:q.op=3:=by simpa using g1
  have e:aH m q=(0,[],m.time q.now):=by unfold aH;rw[if_neg he,if_neg (by omega),if_neg (by omega)]
  rw[e] at h Lb;refine T.LZ ?_;refine DW (by omega) (by omega) λp2 nb nc nk Ns=>?_;apply ws;intros;refine Qh (by omega) (λk hk=>?_) ?_
  ·have:=hm.kept k hk;have t1:=this.timeout;have t2:=this.born;exact aw (by omega)
  apply ws;intros;refine eW (e:=1) ?_;refine T.E7 ?_;refine T.sub (h p2 nb nc nk Ns none 0 _ (.inr rfl) Lb) ?_
  repeat (first|exact ad7.refl _|apply ad7.cons_cons|apply ad7.cons)
 ·have g1: ¬q.op=3:=by simpa using g1
  have adB:q.op=1\/q.op=2:=by
   unfold jt at Mb;by_cases o1:q.op=1
   ·exact .inl o1
   ·by_cases o2:q.op=2
    ·exact .inr o2
    ·rw[if_neg o1,if_neg o2,if_neg g1] at Mb;cases Mb
  apply ws;intros;refine Ce (R:=R) hq.ag (by omega) λb c=>?_;apply ws;intros;have hl8:q.op=1->q.ag.length<=8:=λo1=>by
   unfold jt at Mb;rw[if_pos o1] at Mb;simp only[aeL,decide_eq_true_eq] at Mb;exact Mb.2
  have aaE:q.op=2->q.aT.length<=8:=λo2=>by
   unfold jt at Mb;rw[if_neg (by omega),if_pos o2] at Mb;simp only[aeL,decide_eq_true_eq] at Mb;exact Mb.2
  refine bE (λg2=>?_) (λg2=>?_)
  ·have g2:q.op=2:=by simpa using g2
   have e:aH m q=(0,eO sh vF (q.aT.map It.t).length m (q.aT.map It.t)):=by unfold aH;rw[if_neg he,if_neg (by omega),if_pos g2,aei,Je]
   rw[e] at h Lb;apply ws;intros;refine AO (R:=R) hq.aT (by omega) λb2 c2=>?_;apply ws;intros;refine T.sub (M:=own b2 q.aT.length c2 31 ((q.aT.map It.t).flatMap vX)::ML p m mb mc kb kc R) ?_ (by repeat (first|exact ad7.refl _|apply ad7.cons_cons|apply ad7.cons));refine T.LZ ?_;have Pr:q.aT.length=(q.aT.map It.t).length:=(aei _).symm;rw[Pr];refine Nc hm (λx hx=>by obtain⟨t,ht,rfl⟩:=aeC.1 hx;exact h2 g2 t ht) (by rw[aei];have:=aaE g2;omega) λp2 nu nt gS gR ob oc R' zX Hb hlen=>?_;apply ws;intros;have hh:=h p2 nu nt gS gR ob oc R' zX Hb;dsimp only at hh;rw[hlen] at hh;refine T.sub hh ?_;exact nh
  ·have g2: ¬q.op=2:=by simpa using g2
   have o1:q.op=1:=by omega
   have e:aH m q=(0,eO sh vF (q.ag.map It.a).length m (q.ag.map It.a)):=by unfold aH;rw[if_neg he,if_pos o1,aei,Jf]
   rw[e] at h Lb;refine T.sub (M:=own b q.ag.length c 31 ((q.ag.map It.a).flatMap vX)::ML p m mb mc kb kc R) ?_ (by repeat (first|exact ad7.refl _|apply ad7.cons_cons|apply ad7.cons));refine T.LZ ?_;have Pr:q.ag.length=(q.ag.map It.a).length:=(aei _).symm;rw[Pr];refine Nc hm (λx hx=>by obtain⟨t,ht,rfl⟩:=aeC.1 hx;exact h1 o1 t ht) (by rw[aei];have:=hl8 o1;omega) λp2 nu nt gS gR ob oc R' zX Hb hlen=>?_;apply ws;intros;have hh:=h p2 nu nt gS gR ob oc R' zX Hb;dsimp only at hh;rw[hlen] at hh;refine T.sub hh ?_;exact nh
end
def wS(from_ to s:Int):Bool:=decide (from_<=s/\(to=0\/s<=to))
def FI{s:Int}:∀{l:List ki},(∀p∈l,s<=p.1)->pos s l=0
 |[],_=>rfl
 |p::l,h=>by unfold pos;rw[if_neg (by have:=h p List.mem_cons_self;omega)]
def uo{to:Int}(h0: ¬to=0){l:List ki}(h:∀p∈l,to<p.1):qB to l=0:=by
 unfold qB;rw[if_neg h0,FI λp hp=>by have:=h p hp;omega];cases l with
 |nil=>rfl
 |cons q l=>
  have:=h q List.mem_cons_self;show(if q.1=to then 0+1 else 0)=0;rw[if_neg (by omega)]
def Cx{to:Int}(h0: ¬to=0){p:ki}{l:List ki}(fG:∀q∈l,p.1<q.1):qB to (p::l)=if p.1<to+1 then qB to l+1 else 0:=by
 by_cases h1:p.1<to
 ·rw[if_pos (by omega)];unfold qB;rw[if_neg h0,if_neg h0,pos,if_pos h1,ad9];cases l[pos to l]? with
  |none=>rfl
  |some q=>
   dsimp only;split<;>rfl
 ·by_cases h2:p.1=to
  ·rw[if_pos (by omega),uo (l:=l) h0 λq hq=>by have:=fG q hq;omega];unfold qB;rw[if_neg h0,show pos to (p::l)=0 by rw[pos,if_neg h1]];show(if p.1=to then 0+1 else 0)=1;rw[if_pos h2]
  ·rw[if_neg (by omega)];exact uo h0 λq hq=>by
    rcases ae'.1 hq with hq|hq
    ·subst hq;omega
    ·have:=fG q hq;omega
def u0(from_ to:Int):∀(l:List ki),oF l->mA from_ to l=l.filter λp=>wS from_ to p.1
 |[],_=>by unfold mA;simp
 |p::l,hr=>by
  have Po:oF l:=(List.pairwise_cons.1 hr).2;have fG:∀q∈l,p.1<q.1:=(List.pairwise_cons.1 hr).1;have ih:=u0 from_ to l Po;unfold mA at ih⊢;by_cases h1:p.1<from_
  ·have e1:pos from_ (p::l)=pos from_ l+1:=by rw[pos,if_pos h1]
   have e2:wS from_ to p.1=false:=decide_eq_false (by omega);rw[e1,aeS (by rw[e2];decide),List.drop_succ_cons,<-ih];by_cases h2:to=0
   ·unfold qB;rw[if_pos h2,if_pos h2];simp only[ad',Nat.add_sub_add_right]
   ·rw[Cx h2 fG];by_cases h3:p.1<to+1
    ·rw[if_pos h3,Nat.add_sub_add_right]
    ·rw[if_neg h3,uo h2 λq hq=>by have:=fG q hq;omega];simp
  ·have e1:pos from_ (p::l)=0:=by rw[pos,if_neg h1]
   have e3:pos from_ l=0:=FI λq hq=>by have:=fG q hq;omega
   rw[e3,Nat.sub_zero,ae1] at ih;rw[e1,Nat.sub_zero,ae1];by_cases h2:to=0
   ·have e2:wS from_ to p.1=true:=decide_eq_true (by omega);unfold qB at ih⊢;rw[if_pos h2] at ih⊢;rw[aeR (p:=λp:ki=>wS from_ to p.1) (a:=p) (l:=l) e2,<-ih];simp
   ·rw[Cx h2 fG];by_cases h3:p.1<to+1
    ·have e2:wS from_ to p.1=true:=decide_eq_true (by omega);rw[if_pos h3,List.take_succ_cons,ih,aeR (p:=λp:ki=>wS from_ to p.1) (a:=p) (l:=l) e2]
    ·have e2:wS from_ to p.1=false:=decide_eq_false (by omega);rw[uo h2 λq hq=>by have:=fG q hq;omega,afh] at ih;rw[if_neg h3,afh,aeS (by rw[e2];decide),<-ih]
def td{b:ax}(P:Int->Bool):∀(l:List Kept)(i:Nat),(∀j,j<l.length->b.kept[i+j]?=l[j]?)->((cO i l).filter λp=>P p.1).map (sG b)=l.filter λk=>P k.move.ae
 |[],i,_=>rfl
 |k::l,i,h=>by
  have h0:=h 0 (by simp);rw[aeN] at h0;have hka:sG b (k.move.ae,(i:Int))=k:=by unfold sG;dsimp only;rw[adT,h0];rfl
  have ih:=td P l (i+1) λj hj=>by
   have:=h (j+1) (by simpa using hj);rw[ad9] at this;rw[<-this];congr 1;omega
  unfold cO;by_cases hp:P k.move.ae=true
  ·rw[aeR (by exact hp),aeR (by exact hp),aet,hka,ih]
  ·rw[aeS (by exact hp),aeS (by exact hp),ih]
def Vn{b:ax}(hg:Good b)(from_ to:Int)(sF:Bool):Vo b from_ to sF=(if sF then b.kept.reverse else b.kept).filter λk=>wS from_ to k.move.ae:=by
 have h:=u0 from_ to _ hg.tL;have h2:=td (b:=b) (wS from_ to) b.kept 0 λj hj=>by rw[adW]
 unfold Vo;rw[h];cases sF with
 |true=>
  rw[if_pos rfl,if_pos rfl,List.map_reverse,h2,List.filter_reverse]
 |false=>
  rw[if_neg ael,if_neg ael,h2]
def uf{α:Type}{key:α->Nat}:∀(l:List α)(id:Nat),(l.map key).Nodup->(l.filter λx=>decide (key x=id))=(l.find? λx=>decide (key x=id)).toList
 |[],id,_=>rfl
 |x::l,id,hn=>by
  rw[aet,List.nodup_cons] at hn;by_cases h:key x=id
  ·rw[aeR (p:=λx=>decide (key x=id)) (a:=x) (l:=l) (decide_eq_true h),List.find?_cons_of_pos (p:=λx=>decide (key x=id)) (a:=x) (decide_eq_true h)];have:l.filter (λx=>decide (key x=id))=[]:=by
    rw[List.filter_eq_nil_iff];intro y hy hh;exact hn.1 (by rw[h,<-of_decide_eq_true hh];exact List.mem_map_of_mem hy)
   rw[this];rfl
  ·rw[aeS (p:=λx=>decide (key x=id)) (a:=x) (l:=l) (by rw[decide_eq_false h];decide),List.find?_cons_of_neg (p:=λx=>decide (key x=id)) (a:=x) (by rw[decide_eq_false h];decide),uf l id hn.2]
def ql{α β:Type}(f:α->Option β):∀l:List α,l.filterMap f=l.flatMap λx=>(f x).toList
 |[]=>rfl
 |x::l=>by
  rw[aeG,<-ql f l,List.filterMap_cons];cases f x<;>rfl
def findAll{b:ax}(hg:Good b)(ids:List Nat):(ids.flatMap λid=>b.ag.filter λa=>decide (a.id=id))=ids.filterMap b.find:=by
 rw[ql]
 congr 1
 funext id
 exact uf (key:=λa:aP=>a.id) b.ag id hg.ids
def Nu{b:ax}(hg:Good b)(ids:List Nat):(ids.flatMap λid=>(b.kept.filter λk=>decide (k.move.id=id)).map (·.move))=ids.filterMap λid=>(b.named id).map (·.move):=by
 rw[ql]
 congr 1
 funext id
 rw[uf (key:=λk:Kept=>k.move.id) b.kept id hg.names];show _=((b.kept.find? _).map _).toList;cases b.kept.find? (λx=>decide (x.move.id=id))<;>rfl
def Np(b:ax)(q:iw):List Move:=((((if q.mJ then b.kept.reverse else b.kept).filter λk=>wS q.fP q.rR k.move.ae&&fits q k).take q.hI.toNat)).map (·.move)
def FL{b:ax}(hg:Good b)(q:iw):Np b q=WX b q:=by
 unfold Np WX;rw[Vn hg,List.filter_filter]
 congr 2
 apply List.filter_congr;intro k _;rw[Bool.and_comm]
section
variable {W:World} {L R:LH} {K:VK} {X:WK} {q:iw} {s:r9}
def Cd{ab:OA}{ac:Nat}{al:List aP}{f:HP->LH}[i:oQ ab al.length ac L 14 (al.flatMap ak) f][hh:Has R L]{s:OA}{c:Nat}{ids:List Nat}(hr:nQ W R nm 2 s ids)(hl:ids.length<=1000)(X5:al.length<=1000)
 (h:∀b' c' out,out=(ids.flatMap λid=>al.filter λa=>decide (a.id=id))->T W (own b' out.length c' 14 (out.flatMap ak)::L) (K (.l b' out.length c'))):T W L (iu ab al.length ac s ids.length c K):=by
 unfold iu;refine eW (e:=14) ?_;intro w ju;refine⟨λvv w=>∃(i:Nat)(bo:OA)(cc:Nat)(done:List aP),i<=ids.length/\done=((ids.take i).flatMap λid=>al.filter λa=>decide (a.id=id))/\done.length<=1000* i/\vv=[.l none 0 0,.l bo done.length cc,.l s ids.length c,.i (ids.length:Int),.i (i:Int)]/\
  St W w (own bo done.length cc 14 (done.flatMap ak)::L),
  λvs _=>match vs with|[_,_,_,_,.int _ d]=>ids.length-d.toNat|_=>0,⟨0,none,0,[],ad2 _,by simp,by simp,rfl,ju⟩,?_⟩
 rintro uR qe uQ bo pz cc zm yE yF n3 n4 w2 ⟨i,b0,c0,done,hi,ik,wX,e,fh⟩;cases e
 refine T.at ?_ fh;refine dP (λg1=>?_) (λg1=>?_)
 ·have aZ:i<ids.length:=by omega
  have gx:=adS aZ;generalize ids[i]=x at gx;have dZ:((ids.take (i+1)).flatMap λid=>al.filter λa=>decide (a.id=id))=done++al.filter λa=>decide (a.id=x):=by
   rw[aeb,gx,aeP,<-ik];simp
  refine jY hr ⟨by omega,by omega⟩ rfl λa ha=>?_;rw[adT];refine jX hr ha gx rfl ?_;apply ws;intros;rename_i r1;intro w3 rB;refine⟨λvv w=>∃(j:Nat)(bo:OA)(cc:Nat)(dn:List aP),j<=al.length/\dn=done++((al.take j).filter λa=>decide (a.id=x))/\dn.length<=1000* i+j/\vv=[.l none 0 0,.l bo dn.length cc,.p (some (ad r1 0)),.l s ids.length c,.i (ids.length:Int),.i (i:Int),.l ab al.length ac,.i (al.length:Int),.i (j:Int)]/\
                                                    St W w (Sep.pt r1 (nm x)::own bo dn.length cc 14 (dn.flatMap ak)::L),
   λvs _=>match vs with|[_,_,_,_,_,_,_,_,.int _ d]=>al.length-d.toNat|_=>0,⟨0,bo,cc,done,ad2 _,by simp,by omega,rfl,rB⟩,?_⟩
  rintro Zn WQ VT Y8 Zk Wn a2 sb8 sn8 sc8 n5 n6 sb9 sn9 sc9 n7 n8 w4 ⟨j,b1,c1,dn,hj,Q6,aaP,e,uE⟩;cases e
  refine T.at ?_ uE;have e5:=lY j;refine dP (λg2=>?_) (λg2=>?_)
  ·have rO:j<al.length:=by omega
   have gy:=adS rO;generalize al[j]=y at gy;refine bQ (b:=ab) ⟨by omega,by omega⟩ λrb hb=>?_;rw[adT];subst hb;refine dx eY gy ?_;apply ws;intros;rw[e5];refine bE (λg3=>?_) (λg3=>?_)
   ·have Ck:done++((al.take (j+1)).filter λa=>decide (a.id=x))=dn++[y]:=by
     rw[aeb,gy,List.filter_append,<-ad0,<-Q6]
     congr 1
     show[y].filter _=[y];rw[aeR (by exact g3)];rfl
    apply ws;intros;refine gZ (g:=ak) (l:=dn) (x:=y) (aed _) rfl rfl (by omega) (by omega) (eV _) λb2 c2=>?_;refine T.drop (T.drop λw5 h5=>⟨⟨j+1,b2,c2,dn++[y],rO,Ck.symm,by simp;omega,by simp,by simpa using h5⟩,by show al.length-((j+1:Nat):Int).toNat<al.length-(j:Int).toNat;omega⟩)
   ·have Ck:done++((al.take (j+1)).filter λa=>decide (a.id=x))=dn:=by
     rw[aeb,gy,List.filter_append,<-ad0,<-Q6];have:[y].filter (λa:aP=>decide (a.id=x))=[]:=by rw[aeS (by rw[g3];decide)];rfl
     show dn++[y].filter _=dn;rw[this,aed]
    refine T.drop λw5 h5=>⟨⟨j+1,Y8,Wn,dn,rO,Ck.symm,by omega,rfl,h5⟩,by show al.length-((j+1:Nat):Int).toNat<al.length-(j:Int).toNat;omega⟩
  ·have gr:j=al.length:=by omega
   subst gr;rw[ad5] at Q6;have e6:=lY i;rw[e6];refine T.drop λw5 h5=>⟨⟨i+1,Y8,Wn,dn,aZ,by rw[dZ,Q6],by omega,rfl,h5⟩,by show ids.length-((i+1:Nat):Int).toNat<ids.length-(i:Int).toNat;omega⟩
 ·have gr:i=ids.length:=by omega
  subst gr;rw[ad5] at ik;exact h bo cc done ik
def AN{ab:OA}{ac:Nat}{al:List Kept}{f:HP->LH}[i:oQ ab al.length ac L 33 (al.flatMap aJ) f][hh:Has R L]{s:OA}{c:Nat}{ids:List Nat}(hr:nQ W R nm 2 s ids)(hl:ids.length<=1000)(X5:al.length<=1000)
 (h:∀b' c' out,out=(ids.flatMap λid=>(al.filter λk=>decide (k.move.id=id)).map (·.move))->T W (own b' out.length c' 16 (out.flatMap ai)::L) (K (.l b' out.length c'))):T W L (gX ab al.length ac s ids.length c K):=by
 unfold gX;refine eW (e:=16) ?_;intro w ju;refine⟨λvv w=>∃(i:Nat)(bo:OA)(cc:Nat)(done:List Move),i<=ids.length/\done=((ids.take i).flatMap λid=>(al.filter λk=>decide (k.move.id=id)).map (·.move))/\done.length<=1000* i/\vv=[.l none 0 0,.l bo done.length cc,.l s ids.length c,.i (ids.length:Int),.i (i:Int)]/\
  St W w (own bo done.length cc 16 (done.flatMap ai)::L),
  λvs _=>match vs with|[_,_,_,_,.int _ d]=>ids.length-d.toNat|_=>0,⟨0,none,0,[],ad2 _,by simp,by simp,rfl,ju⟩,?_⟩
 rintro uR qe uQ bo pz cc zm yE yF n3 n4 w2 ⟨i,b0,c0,done,hi,ik,wX,e,fh⟩;cases e
 refine T.at ?_ fh;refine dP (λg1=>?_) (λg1=>?_)
 ·have aZ:i<ids.length:=by omega
  have gx:=adS aZ;generalize ids[i]=x at gx;have dZ:((ids.take (i+1)).flatMap λid=>(al.filter λk=>decide (k.move.id=id)).map (·.move))=done++(al.filter λk=>decide (k.move.id=x)).map (·.move):=by
   rw[aeb,gx,aeP,<-ik];simp
  refine jY hr ⟨by omega,by omega⟩ rfl λa ha=>?_;rw[adT];refine jX hr ha gx rfl ?_;apply ws;intros;rename_i r1;intro w3 rB;refine⟨λvv w=>∃(j:Nat)(bo:OA)(cc:Nat)(dn:List Move),j<=al.length/\dn=done++((al.take j).filter λk=>decide (k.move.id=x)).map (·.move)/\dn.length<=1000* i+j/\vv=[.l none 0 0,.l bo dn.length cc,.p (some (ad r1 0)),.l s ids.length c,.i (ids.length:Int),.i (i:Int),.l ab al.length ac,.i (al.length:Int),.i (j:Int)]/\
                                                    St W w (Sep.pt r1 (nm x)::own bo dn.length cc 16 (dn.flatMap ai)::L),
   λvs _=>match vs with|[_,_,_,_,_,_,_,_,.int _ d]=>al.length-d.toNat|_=>0,⟨0,bo,cc,done,ad2 _,by simp,by omega,rfl,rB⟩,?_⟩
  rintro Zn WQ VT Y8 Zk Wn a2 sb8 sn8 sc8 n5 n6 sb9 sn9 sc9 n7 n8 w4 ⟨j,b1,c1,dn,hj,Q6,aaP,e,uE⟩;cases e
  refine T.at ?_ uE;have e5:=lY j;refine dP (λg2=>?_) (λg2=>?_)
  ·have rO:j<al.length:=by omega
   have gy:=adS rO;generalize al[j]=y at gy;refine bQ (b:=ab) ⟨by omega,by omega⟩ λrb hb=>?_;rw[adT];subst hb;refine dx fA gy ?_;apply ws;intros;rw[e5];refine bE (λg3=>?_) (λg3=>?_)
   ·have Ck:done++((al.take (j+1)).filter λk=>decide (k.move.id=x)).map (·.move)=dn++[y.move]:=by
     rw[aeb,gy,List.filter_append,aep,<-ad0,<-Q6]
     congr 1
     show([y].filter _).map _=[y.move];rw[aeR (by exact g3)];rfl
    apply ws;intros;refine gZ (g:=ai) (l:=dn) (x:=y.move) (aed _) rfl rfl (by omega) (by omega) (lh _) λb2 c2=>?_;refine T.drop (T.drop λw5 h5=>⟨⟨j+1,b2,c2,dn++[y.move],rO,Ck.symm,by simp;omega,by simp,by simpa using h5⟩,by show al.length-((j+1:Nat):Int).toNat<al.length-(j:Int).toNat;omega⟩)
   ·have Ck:done++((al.take (j+1)).filter λk=>decide (k.move.id=x)).map (·.move)=dn:=by
     rw[aeb,gy,List.filter_append,aep,<-ad0,<-Q6];have:[y].filter (λk:Kept=>decide (k.move.id=x))=[]:=by rw[aeS (by rw[g3];decide)];rfl
     show dn++([y].filter _).map _=dn;rw[this];simp
    refine T.drop λw5 h5=>⟨⟨j+1,Y8,Wn,dn,rO,Ck.symm,by omega,rfl,h5⟩,by show al.length-((j+1:Nat):Int).toNat<al.length-(j:Int).toNat;omega⟩
  ·have gr:j=al.length:=by omega
   subst gr;rw[ad5] at Q6;have e6:=lY i;rw[e6];refine T.drop λw5 h5=>⟨⟨i+1,Y8,Wn,dn,aZ,by rw[dZ,Q6],by omega,rfl,h5⟩,by show ids.length-((i+1:Nat):Int).toNat<ids.length-(i:Int).toNat;omega⟩
 ·have gr:i=ids.length:=by omega
  subst gr;rw[ad5] at ik;exact h bo cc done ik
end
instance{t:Move}:Sub (ai t) 2 2 (nm t.aF):=⟨rfl,(uP (cs:=ai t) (o:=2) (n:=t.aF) rfl rfl).2⟩
instance{t:Move}:Sub (ai t) 4 2 (nm t.ar):=⟨rfl,(uP (cs:=ai t) (o:=4) (n:=t.ar) rfl rfl).2⟩
section
variable {W:World} {L R M:LH} {K:VK} {X:WK} {q:iw} {s:r9}
def Kr{I1:LV->World->Prop}{oR:LV->World->Nat}{r1 r2 cc:Nat}{bo:OA}{done:List Move}{x:Kept}{n3 n4:Int}{w2:World}{g:LV->LH}
 (hA:(done.length<q.hI.toNat/\(wS q.fP q.rR x.move.ae&&fits q x)=true)->∀b2 c2,T W (own b2 (done.length+1) c2 16 ((done++[x.move]).flatMap ai)::M) (λw3=>I1 [.p (some (ad r1 0)),.l none 0 0,.l b2 (done.length+1) c2,.i n3,.i (adP.wrap (n4+1))] w3/\
  oR [.p (some (ad r1 0)),.l none 0 0,.l b2 (done.length+1) c2,.i n3,.i (adP.wrap (n4+1))] w3<oR [.p (some (ad r1 0)),.l none 0 0,.l bo done.length cc,.i n3,.i n4] w2))
 (hN: ¬(done.length<q.hI.toNat/\(wS q.fP q.rR x.move.ae&&fits q x)=true)->T W (own bo done.length cc 16 (done.flatMap ai)::M) (λw3=>I1 [.p (some (ad r1 0)),.l none 0 0,.l bo done.length cc,.i n3,.i (adP.wrap (n4+1))] w3/\
  oR [.p (some (ad r1 0)),.l none 0 0,.l bo done.length cc,.i n3,.i (adP.wrap (n4+1))] w3<oR [.p (some (ad r1 0)),.l none 0 0,.l bo done.length cc,.i n3,.i n4] w2))
 [i1:Lc (Sep.pt r1) M (lV q) g](Ee:0<=q.hI/\q.hI<=16)(hd:done.length<=1000):
 T W (Sep.pt r2 (aJ x)::own bo done.length cc 16 (done.flatMap ai)::M) (aM.j1 K r2 (ad r1 0) I1 none 0 0 bo done.length cc n3 n4 oR w2):=by
 have j3:∀(r3:Nat)(yes:Bool),(yes=true↔done.length<q.hI.toNat/\(wS q.fP q.rR x.move.ae&&fits q x)=true)->T W (Sep.pt r3 (ai x.move)::Sep.pt r2 (aJ x)::own bo done.length cc 16 (done.flatMap ai)::M) (aM.j3 K r3 bo done.length cc I1 (ad r1 0) none 0 0 n3 n4 oR w2 yes):=λr3 yes hy=>by
  unfold aM.j3;cases yes with
  |true=>
   apply ws;intros;refine gZ (b:=bo) (g:=ai) (l:=done) (x:=x.move) (aed _) rfl rfl (by omega) (by omega) (lh _) λb2 c2=>?_;exact T.drop (T.drop (T.drop (hA (hy.1 rfl) b2 c2)))
  |false=>
   apply ws;intros;exact T.drop (T.drop (hN λhh=>by have:=hy.2 hh;cases this))
 have j4:∀(r3:Nat)(b2:Bool),b2=(q.rT&&decide (x.move.aF=q.th))->done.length<q.hI.toNat->wS q.fP q.rR x.move.ae=true->T W (Sep.pt r3 (ai x.move)::Sep.pt r2 (aJ x)::own bo done.length cc 16 (done.flatMap ai)::M) (aM.j4 K r3 bo done.length cc I1 (ad r1 0) none 0 0 n3 n4 oR w2 b2):=λr3 b2 hb hl hi=>by
  unfold aM.j4;have hf:fits q x=(b2||(q.pB&&decide (x.move.ar=q.th))):=by rw[hb];rfl
  cases b2 with
  |true=>
   apply ws;intros;refine j3 r3 true ⟨λ_=>⟨hl,by rw[hi,hf];rfl⟩,λ_=>rfl⟩
  |false=>
   rw[Bool.false_or] at hf;apply ws;intros;cases hc:q.pB with
   |true=>
    apply ws;intros;rw[hc,aeU] at hf;refine j3 r3 _ ⟨λh=>⟨hl,by rw[hi,hf,h];rfl⟩,λh=>by rw[hi,hf,aeU] at h;exact h.2⟩
   |false=>
    apply ws;intros;rw[hc,ae3] at hf;refine j3 r3 false ⟨λh=>(by cases h),λh=>by rw[hf,Bool.and_false] at h;cases h.2⟩
 have j2:∀(r3:Nat)(b2:Bool),(b2=true↔wS q.fP q.rR x.move.ae=false\/ ¬done.length<q.hI.toNat)->T W (Sep.pt r3 (ai x.move)::Sep.pt r2 (aJ x)::own bo done.length cc 16 (done.flatMap ai)::M) (aM.j2 K I1 (ad r1 0) none 0 0 bo done.length cc n3 n4 oR w2 r3 b2):=λr3 b2 hb=>by
  unfold aM.j2;cases b2 with
  |true=>
   apply ws;intros;refine T.drop (T.drop (hN λhh=>?_));rcases hb.1 rfl with h|h
   ·rw[h,ae3] at hh;cases hh.2
   ·exact h hh.1
  |false=>
   have hi:wS q.fP q.rR x.move.ae=true:=by
    cases h:wS q.fP q.rR x.move.ae with
    |true=>rfl
    |false=>have:=hb.2 (.inl h);cases this
   have hl:done.length<q.hI.toNat:=Decidable.byContradiction λh=>by have:=hb.2 (.inr h);cases this
   apply ws;intros;cases Pw:q.rT with
   |true=>
    apply ws;intros;refine j4 r3 _ ?_ hl hi;rw[Pw,aeU]
   |false=>
    apply ws;intros;refine j4 r3 _ ?_ hl hi;rw[Pw,ae3]
 unfold aM.j1 aM.j5;apply ws;intros;rename_i r3;refine dP (λg1=>?_) (λg1=>?_)
 ·refine j2 r3 true ⟨λ_=>.inl (decide_eq_false (by omega)),λ_=>rfl⟩
 ·apply ws;intros;refine bE (λg2=>?_) (λg2=>?_)
  ·have g2:=bne_iff_ne.1 g2;apply ws;intros;refine dP (λg3=>?_) (λg3=>?_)
   ·refine j2 r3 true ⟨λ_=>.inl (decide_eq_false (by omega)),λ_=>rfl⟩
   ·have hi:wS q.fP q.rR x.move.ae=true:=decide_eq_true (by omega);apply ws;intros;refine j2 r3 _ ⟨λh=>.inr (by have:=of_decide_eq_true h;omega),λh=>?_⟩;rcases h with h|h
    ·rw[hi] at h;cases h
    ·exact decide_eq_true (by omega)
  ·have g2:q.rR=0:=by simpa using g2
   have hi:wS q.fP q.rR x.move.ae=true:=decide_eq_true (by omega);apply ws;intros;refine j2 r3 _ ⟨λh=>.inr (by have:=of_decide_eq_true h;omega),λh=>?_⟩;rcases h with h|h
   ·rw[hi] at h;cases h
   ·exact decide_eq_true (by omega)
def Qn{ab:OA}{ac:Nat}{al:List Kept}{f:HP->LH}[ii:oQ ab al.length ac L 33 (al.flatMap aJ) f](X5:al.length<=1000)(Ee:0<=q.hI/\q.hI<=16)
 (h:∀b' c' out,out=((((if q.mJ then al.reverse else al).filter λk=>wS q.fP q.rR k.move.ae&&fits q k).take q.hI.toNat)).map (·.move)->T W (own b' out.length c' 16 (out.flatMap ai)::L) (K (.l b' out.length c'))):
 T W L (aM ab al.length ac (lV q) K):=by
 unfold aM;apply ws;intros;rename_i r1;obtain⟨l,hl⟩:∃l,l=if q.mJ then al.reverse else al:=⟨_,rfl⟩
 have Db:l.length=al.length:=by rw[hl];split<;>simp
 rw[<-hl] at h;refine eW (e:=16) ?_;intro w ju;refine⟨λvv w=>∃(i:Nat)(bo:OA)(cc:Nat)(done:List Move),i<=l.length/\done=(((l.take i).filter λk=>wS q.fP q.rR k.move.ae&&fits q k).take q.hI.toNat).map (·.move)/\done.length<=i/\vv=[.p (some (ad r1 0)),.l none 0 0,.l bo done.length cc,.i (al.length:Int),.i (i:Int)]/\
    St W w (own bo done.length cc 16 (done.flatMap ai)::Sep.pt r1 (lV q)::L),
  λvs _=>match vs with|[_,_,_,_,.int _ d]=>al.length-d.toNat|_=>0,⟨0,none,0,[],ad2 _,by simp,adY _,rfl,ju⟩,?_⟩
 rintro a1 uR qe uQ bo pz cc n3 n4 w2 ⟨i,b0,c0,done,hi,ik,wX,e,fh⟩;cases e
 refine T.at ?_ fh;have e5:=lY i;refine dP (λg1=>?_) (λg1=>?_)
 ·have aZ:i<l.length:=by omega
  have gx:=adS aZ;generalize l[i]=x at gx;have dZ:=yA (P:=λk=>wS q.fP q.rR k.move.ae&&fits q k) (n:=q.hI.toNat) gx;have rQ:done.length=(((l.take i).filter λk=>wS q.fP q.rR k.move.ae&&fits q k).take q.hI.toNat).length:=by rw[ik,aei]
  rw[<-rQ] at dZ;have tf:(((l.take (i+1)).filter λk=>wS q.fP q.rR k.move.ae&&fits q k).take q.hI.toNat).map (·.move)=if done.length<q.hI.toNat/\(wS q.fP q.rR x.move.ae&&fits q x)=true then done++[x.move] else done:=by
   rw[dZ];by_cases c1:done.length<q.hI.toNat
   ·rw[if_pos c1];by_cases c2:(wS q.fP q.rR x.move.ae&&fits q x)=true
    ·rw[if_pos c2,if_pos ⟨c1,c2⟩,aep,<-ik];rfl
    ·rw[if_neg c2,if_neg (λh=>c2 h.2),<-ik]
   ·rw[if_neg c1,if_neg (λh=>c1 h.1),<-ik]
  have UD:i<al.length:=by omega
  have gy:=adS UD;refine bQ (b:=ab) ⟨by omega,by omega⟩ λrb hb=>?_;subst hb;rw[adT];refine dx fA gy ?_;apply ws;intros;rename_i r2;have fin:T W (Sep.pt r2 (aJ x)::own bo done.length cc 16 (done.flatMap ai)::Sep.pt r1 (lV q)::L) (aM.j1 K r2 (ad r1 0) (λvv w=>∃(i:Nat)(bo:OA)(cc:Nat)(done:List Move),i<=l.length/\done=(((l.take i).filter λk=>wS q.fP q.rR k.move.ae&&fits q k).take q.hI.toNat).map (·.move)/\done.length<=i/\vv=[.p (some (ad r1 0)),.l none 0 0,.l bo done.length cc,.i (al.length:Int),.i (i:Int)]/\
   St W w (own bo done.length cc 16 (done.flatMap ai)::Sep.pt r1 (lV q)::L)) none 0 0 bo done.length cc (al.length:Int) (i:Int) (λvs _=>match vs with|[_,_,_,_,.int _ d]=>al.length-d.toNat|_=>0) w2):=by
   refine Kr (q:=q) (x:=x) (M:=Sep.pt r1 (lV q)::L) (λhy b2 c2=>?_) (λhy=>?_) Ee (by omega)
   ·rw[e5];rw[if_pos hy] at tf;exact λw3 h3=>⟨⟨i+1,b2,c2,done++[x.move],aZ,tf.symm,by simp;omega,by simp,by simpa using h3⟩,by show al.length-((i+1:Nat):Int).toNat<al.length-(i:Int).toNat;omega⟩
   ·rw[e5];rw[if_neg hy] at tf;exact λw3 h3=>⟨⟨i+1,bo,cc,done,aZ,tf.symm,by omega,rfl,h3⟩,by show al.length-((i+1:Nat):Int).toNat<al.length-(i:Int).toNat;omega⟩
  cases zv:q.mJ with
  |true=>
   rw[zv,if_pos rfl] at hl;apply ws;intros;have e7:adP.wrap (adP.wrap ((al.length:Int) -1) -(i:Int))=((al.length-1-i:Nat):Int):=by rw[aw (n:=(al.length:Int) -1) (by omega),aw (by omega)];omega
   rw[e7];refine bQ (b:=some ⟨rb,0,none⟩) ⟨by omega,by omega⟩ λPf hb=>?_;cases hb
   rw[adT];have gz:al[al.length-1-i]?=some x:=by rw[hl,List.getElem?_reverse UD] at gx;exact gx
   refine dx fA gz ?_;apply ws;intros;exact fin
  |false=>
   rw[zv,if_neg ael] at hl;subst hl;rw[gx] at gy;have V8:x=l[i]'UD:=by injection gy
   rw[<-V8];apply ws;intros;exact fin
 ·have gr:i=l.length:=by omega
  subst gr;rw[ad5] at ik;have:=h bo cc done ik;refine T.sub this ?_;exact nh
end
section
variable {W:World} {L R M:LH} {K:VK} {X:WK} {q:iw} {s:r9}
def BN(al:List aP)(kl:List Kept)(q:iw):Int×List aP×List Move:=
 if kN q=false then(1,[],[])
 else if q.op=4 then(0,(q.ids.flatMap λid=>al.filter λa=>decide (a.id=id)),[])
 else if q.op=5 then(0,[],q.ids.flatMap λid=>(kl.filter λk=>decide (k.move.id=id)).map (·.move))
 else(0,[],((((if q.mJ then kl.reverse else kl).filter λk=>wS q.fP q.rR k.move.ae&&fits q k).take q.hI.toNat)).map (·.move))
def RO{m:Model}(hg:Good (bo m))(q:iw):BN (bo m).ag (bo m).kept q=ask m q:=by
 unfold BN ask;rw[findAll hg,Nu hg,<-FL hg]
 rfl
def HI{ab kb:OA}{ac kc:Nat}{al:List aP}{kl:List Kept}{f g:HP->LH}[i1:oQ ab al.length ac L 14 (al.flatMap ak) f][i2:oQ kb kl.length kc L 33 (kl.flatMap aJ) g][hh:Has R L](hq:lu W R q s)
 (X5:al.length<=1000)(UA:kl.length<=1000)
 (h:∀b1 c1 b2 c2,T W (own b1 (BN al kl q).2.1.length c1 14 ((BN al kl q).2.1.flatMap ak)::own b2 (BN al kl q).2.2.length c2 16 ((BN al kl q).2.2.flatMap ai)::L)
  (K (.tuple ⟨[.l b1 (BN al kl q).2.1.length c1,.l b2 (BN al kl q).2.2.length c2,.i (BN al kl q).1]⟩))):
 T W L (jS ab al.length ac kb kl.length kc (dF q s) K):=by
 unfold jS;apply ws;intros;refine CS ?_;unfold BN at h;by_cases ge:kN q=false
 ·rw[if_pos ge] at h;rw[ge];apply ws;intros;refine T.drop ?_;refine eW (e:=16) ?_;refine eW (e:=14) ?_;exact h none 0 none 0
 rw[if_neg ge] at h;have Rc:kN q=true:=by simpa using ge
 rw[Rc];apply ws;intros;have K9:q.op=4\/q.op=5->q.ids.length<=16:=λho=>by
  unfold kN at Rc;rw[if_pos ho,aeL,decide_eq_true_eq,decide_eq_true_eq] at Rc;exact Rc.2
 refine bE (λg1=>?_) (λg1=>?_)
 ·have g1:q.op=4:=by simpa using g1
  rw[if_pos g1] at h;have:=K9 (.inl g1);apply ws;intros;refine Cd (R:=R) (al:=al) hq.ids (by omega) X5 λb' c' out ho=>?_;rw[<-ho] at h;apply ws;intros;refine eW (e:=16) ?_;refine T.swap ?_;refine T.sub (h b' c' none 0) ?_
  repeat (first|exact ad7.refl _|apply ad7.cons_cons|apply ad7.cons)
 ·have g1: ¬q.op=4:=by simpa using g1
  rw[if_neg g1] at h;apply ws;intros;refine bE (λg2=>?_) (λg2=>?_)
  ·have g2:q.op=5:=by simpa using g2
   rw[if_pos g2] at h;have:=K9 (.inr g2);apply ws;intros;refine AN (R:=R) (al:=kl) hq.ids (by omega) UA λb' c' out ho=>?_;rw[<-ho] at h;apply ws;intros;refine eW (e:=14) ?_;refine T.sub (h none 0 b' c') ?_
   repeat (first|exact ad7.refl _|apply ad7.cons_cons|apply ad7.cons)
  ·have g2: ¬q.op=5:=by simpa using g2
   rw[if_neg g2] at h;have Ee:0<=q.hI/\q.hI<=16:=by
    unfold kN at Rc;rw[if_neg (by omega)] at Rc;by_cases o6:q.op=6
    ·rw[if_pos o6,aeL,decide_eq_true_eq] at Rc;omega
    ·rw[if_neg o6] at Rc;cases Rc
   apply ws;intros;refine Qn (al:=kl) UA Ee λb' c' out ho=>?_;rw[<-ho] at h;apply ws;intros;refine eW (e:=14) ?_;refine T.sub (h none 0 b' c') ?_
   repeat (first|exact ad7.refl _|apply ad7.cons_cons|apply ad7.cons)
def uj{α:Type}[DecidableEq α]{l m:List α}{i:Nat}{x y:α}(hx:l[i]?=some x)(hy:m[i]?=some y)(h:l.take i=m.take i)(he:x=y):l.take (i+1)=m.take (i+1):=by
 rw[aeb,aeb,hx,hy,h,he]
def uk{α:Type}{l m:List α}{i:Nat}{x y:α}(hx:l[i]?=some x)(hy:m[i]?=some y)(he: ¬x=y): ¬l=m:=λh=>by
 rw[h,hy] at hx;injection hx with hx;exact he hx.symm
def Kz{ab kb:OA}{ac kc:Nat}{al kl:List Int}{f g:HP->LH}[i1:oQ ab al.length ac L 1 (al.flatMap I1) f][i2:oQ kb kl.length kc L 1 (kl.flatMap I1) g](X5:al.length<=100000)
 (h:T W L (K (.bool (decide (al=kl))))):T W L (km ab al.length ac kb kl.length kc K):=by
 unfold km;by_cases hlen:al.length=kl.length
 ·refine dV (by simp;omega) ?_;intro w ju;refine⟨λvv w=>∃i:Nat,i<=al.length/\al.take i=kl.take i/\vv=[.bool false,.i (al.length:Int),.i (i:Int)]/\St W w L,λvs _=>match vs with|[_,_,.int _ d]=>al.length-d.toNat|_=>0,⟨0,ad2 _,rfl,rfl,ju⟩,?_⟩;rintro b1 n1 n2 w2 ⟨i,hi,heq,e,fh⟩;cases e
  refine T.at ?_ fh;have e5:=lY i;refine dP (λg1=>?_) (λg1=>?_)
  ·have aZ:i<al.length:=by omega
   have gx:=adS aZ;have gy:=adS (show i<kl.length by omega);generalize al[i]=x at gx;generalize kl[i]=y at gy;refine vm ?_;refine bQ (b:=ab) ⟨by omega,by omega⟩ λrb hb=>?_;rw[adT];subst hb;refine vo (g:=I1) yx gx rfl ?_;refine lG ?_;refine bQ (b:=kb) ⟨by omega,by omega⟩ λPf hb=>?_;rw[adT];subst hb;refine vo (g:=I1) yx gy rfl ?_;refine lG ?_;refine bE (λg2=>?_) (λg2=>?_)
   ·have g2:=bne_iff_ne.1 g2;rw[decide_eq_false (uk gx gy g2)] at h;exact h
   ·have g2:x=y:=by simpa using g2
    rw[e5];exact λw3 h3=>⟨⟨i+1,aZ,uj gx gy heq g2,rfl,h3⟩,by show al.length-((i+1:Nat):Int).toNat<al.length-(i:Int).toNat;omega⟩
  ·have gr:i=al.length:=by omega
   subst gr;rw[ad5,hlen,ad5] at heq;rw[decide_eq_true heq] at h;exact h
 ·refine kq (by rw[bne_iff_ne];omega) ?_;rw[decide_eq_false (λhh=>hlen (by rw[hh]))] at h;exact h
def Ky{ab bb tb ub:OA}{ac bc tc uc:Nat}{a b:List aP}{t u:List Move}{f1 f2 f3 f4:HP->LH}[i1:oQ ab a.length ac L 14 (a.flatMap ak) f1][i2:oQ bb b.length bc L 14 (b.flatMap ak) f2]
 [i3:oQ tb t.length tc L 16 (t.flatMap ai) f3][i4:oQ ub u.length uc L 16 (u.flatMap ai) f4](ha:a.length<=100000)(ht:t.length<=100000)
 (h:T W L (K (.bool (decide (a=b/\t=u))))):T W L (eE ab a.length ac bb b.length bc tb t.length tc ub u.length uc K):=by
 unfold eE eE.j1;by_cases hlen:a.length=b.length
 ·refine dV (by simp;omega) ?_;by_cases tW:t.length=u.length
  ·refine dV (by simp;omega) ?_;intro w ju;refine⟨λvv w=>∃i:Nat,i<=a.length/\a.take i=b.take i/\vv=[.bool false,.i (a.length:Int),.i (i:Int)]/\St W w L,λvs _=>match vs with|[_,_,.int _ d]=>a.length-d.toNat|_=>0,⟨0,ad2 _,rfl,rfl,ju⟩,?_⟩;rintro b1 n1 n2 w2 ⟨i,hi,heq,e,fh⟩;cases e
   refine T.at ?_ fh;have e5:=lY i;refine dP (λg1=>?_) (λg1=>?_)
   ·have aZ:i<a.length:=by omega
    have gx:=adS aZ;have gy:=adS (show i<b.length by omega);generalize a[i]=x at gx;generalize b[i]=y at gy;refine vm ?_;refine bQ (b:=ab) ⟨by omega,by omega⟩ λrb hb=>?_;rw[adT];subst hb;refine dx eY gx ?_;refine bQ (b:=bb) ⟨by omega,by omega⟩ λPf hb=>?_;rw[adT];subst hb;refine dx eY gy ?_;refine Si ?_;by_cases g2:x=y
    ·rw[decide_eq_true g2,e5];refine xF ?_;exact λw3 h3=>⟨⟨i+1,aZ,uj gx gy heq g2,rfl,h3⟩,by show a.length-((i+1:Nat):Int).toNat<a.length-(i:Int).toNat;omega⟩
    ·rw[decide_eq_false g2];rw[decide_eq_false (λhh:a=b/\t=u=>uk gx gy g2 hh.1)] at h;exact h
   ·have gr:i=a.length:=by omega
    subst gr;rw[ad5,hlen,ad5] at heq;intro w3 rB;refine⟨λvv w=>∃i:Nat,i<=t.length/\t.take i=u.take i/\vv=[.bool false,.i (t.length:Int),.i (i:Int)]/\St W w L,λvs _=>match vs with|[_,_,.int _ d]=>t.length-d.toNat|_=>0,⟨0,ad2 _,rfl,rfl,rB⟩,?_⟩;rintro b1 n1 n2 w4 ⟨i,hi,H5,e,uE⟩;cases e
    refine T.at ?_ uE;have e5:=lY i;refine dP (λg1=>?_) (λg1=>?_)
    ·have aZ:i<t.length:=by omega
     have gx:=adS aZ;have gy:=adS (show i<u.length by omega);generalize t[i]=x at gx;generalize u[i]=y at gy;refine vm ?_;refine bQ (b:=tb) ⟨by omega,by omega⟩ λrb hb=>?_;rw[adT];subst hb;refine dx rJ gx ?_;refine bQ (b:=ub) ⟨by omega,by omega⟩ λPf hb=>?_;rw[adT];subst hb;refine dx rJ gy ?_;refine MJ ?_;by_cases g2:x=y
     ·rw[decide_eq_true g2,e5];refine xF ?_;exact λw3 h3=>⟨⟨i+1,aZ,uj gx gy H5 g2,rfl,h3⟩,by show t.length-((i+1:Nat):Int).toNat<t.length-(i:Int).toNat;omega⟩
     ·rw[decide_eq_false g2];rw[decide_eq_false (λhh:a=b/\t=u=>uk gx gy g2 hh.2)] at h;exact h
    ·have gr:i=t.length:=by omega
     subst gr;rw[ad5,tW,ad5] at H5;rw[decide_eq_true ⟨heq,H5⟩] at h;exact h
  ·refine kq (by rw[bne_iff_ne];omega) ?_;rw[decide_eq_false (λhh:a=b/\t=u=>tW (by rw[hh.2]))] at h;exact h
 ·refine kq (by rw[bne_iff_ne];omega) ?_;refine vr ?_;rw[decide_eq_false (λhh:a=b/\t=u=>hlen (by rw[hh.1]))] at h;exact h
end
section
variable {W:World} {L R M:LH} {K:VK} {X:WK} {q:iw} {s:r9} {p:Nat} {m:Model} {mb kb:OA} {mc kc:Nat}
def KB{r1:Nat}{ob kb ab xb:OA}{oc kc ac xc:Nat}{ol al:List aP}{kl xl:List Kept}{ck st Rz Sl:Int}{f0:LV->LH}{f1 f2 f3 f4:HP->LH}
 [i0:Lc (Sep.pt r1) L [.l ob ol.length oc,.l kb kl.length kc,.i ck,.i st] f0]
 [i1:oQ ob ol.length oc L 14 (ol.flatMap ak) f1][i2:oQ ab al.length ac L 14 (al.flatMap ak) f2][i3:oQ kb kl.length kc L 33 (kl.flatMap aJ) f3][i4:oQ xb xl.length xc L 33 (xl.flatMap aJ) f4](ha:ol.length<=100000)(hk:kl.length<=100000)
 (h:T W L (K (.bool (decide (ol=al/\kl=xl/\ck=Rz/\st=Sl))))):T W L (bu (some (ad r1 0)) ab al.length ac xb xl.length xc Rz Sl K):=by
 have bad: ¬(ol=al/\kl=xl/\ck=Rz/\st=Sl)->T W L (K (.bool false)):=λhh=>by rw[decide_eq_false hh] at h;exact h
 have j1:∀b:Bool,(b=true-> ¬(ol=al/\kl=xl/\ck=Rz/\st=Sl))->(b=false->ol.length=al.length/\kl.length=xl.length/\ck=Rz/\st=Sl)->T W L (bu.j1 K al.length (some (ad r1 0)) ab xl.length xb b):=λb Pz tY=>by
  unfold bu.j1;cases b with
  |true=>exact bad (Pz rfl)
  |false=>
   obtain⟨XF,QZ,XV,pI⟩:=tY rfl;refine po ?_;intro w ju;refine⟨λvv w=>∃i:Nat,i<=al.length/\ol.take i=al.take i/\vv=[.bool false,.i (al.length:Int),.i (i:Int)]/\St W w L,λvs _=>match vs with|[_,_,.int _ d]=>al.length-d.toNat|_=>0,⟨0,ad2 _,rfl,rfl,ju⟩,?_⟩;rintro b1 n1 n2 w2 ⟨i,hi,heq,e,fh⟩;cases e
   refine T.at ?_ fh;have e5:=lY i;refine dP (λg1=>?_) (λg1=>?_)
   ·have aZ:i<al.length:=by omega
    have gx:=adS (show i<ol.length by omega);have gy:=adS aZ;generalize ol[i]=x at gx;generalize al[i]=y at gy;refine vm ?_;refine zk ?_;refine jH (i:=i0) rfl ?_;refine tD ?_;refine bQ (b:=ob) ⟨by omega,by omega⟩ λrb hb=>?_;rw[adT];subst hb;refine dx eY gx ?_;refine bQ (b:=ab) ⟨by omega,by omega⟩ λPf hb=>?_;rw[adT];subst hb;refine dx eY gy ?_;refine Si ?_;by_cases g2:x=y
    ·rw[decide_eq_true g2,e5];refine xF ?_;exact λw3 h3=>⟨⟨i+1,aZ,uj gx gy heq g2,rfl,h3⟩,by show al.length-((i+1:Nat):Int).toNat<al.length-(i:Int).toNat;omega⟩
    ·rw[decide_eq_false g2];exact bad λhh=>uk gx gy g2 hh.1
   ·have gr:i=al.length:=by omega
    subst gr;rw[ad5,<-XF,ad5] at heq;intro w3 rB;refine⟨λvv w=>∃i:Nat,i<=xl.length/\kl.take i=xl.take i/\vv=[.bool false,.i (xl.length:Int),.i (i:Int)]/\St W w L,λvs _=>match vs with|[_,_,.int _ d]=>xl.length-d.toNat|_=>0,⟨0,ad2 _,rfl,rfl,rB⟩,?_⟩;rintro b1 n1 n2 w4 ⟨i,hi,H5,e,uE⟩;cases e
    refine T.at ?_ uE;have e5:=lY i;refine dP (λg1=>?_) (λg1=>?_)
    ·have aZ:i<xl.length:=by omega
     have gx:=adS (show i<kl.length by omega);have gy:=adS aZ;generalize kl[i]=x at gx;generalize xl[i]=y at gy;refine vm ?_;refine zk ?_;refine As ?_;refine jH (i:=i0) (o:=1) rfl ?_;refine tD ?_;refine bQ (b:=kb) ⟨by omega,by omega⟩ λrb hb=>?_;rw[adT];subst hb;refine dx fA gx ?_;refine bQ (b:=xb) ⟨by omega,by omega⟩ λPf hb=>?_;rw[adT];subst hb;refine dx fA gy ?_;refine WG ?_;by_cases g2:x=y
     ·rw[decide_eq_true g2,e5];refine xF ?_;exact λw3 h3=>⟨⟨i+1,aZ,uj gx gy H5 g2,rfl,h3⟩,by show xl.length-((i+1:Nat):Int).toNat<xl.length-(i:Int).toNat;omega⟩
     ·rw[decide_eq_false g2];exact bad λhh=>uk gx gy g2 hh.2.1
    ·have gr:i=xl.length:=by omega
     subst gr;rw[ad5,<-QZ,ad5] at H5;rw[decide_eq_true ⟨heq,H5,XV,pI⟩] at h;exact h
 unfold bu bu.j2 bu.j3;refine zk ?_;refine jH (i:=i0) rfl ?_;refine tD ?_;by_cases hlen:ol.length=al.length
 ·refine dV (by simp;omega) ?_;refine zk ?_;refine As ?_;refine jH (i:=i0) (o:=1) rfl ?_;refine tD ?_;by_cases tW:kl.length=xl.length
  ·refine dV (by simp;omega) ?_;refine zk ?_;refine As ?_;refine jH (i:=i0) (o:=2) rfl ?_;refine lG ?_;by_cases hc:ck=Rz
   ·refine dV (by simpa using hc) ?_;refine zk ?_;refine As ?_;refine jH (i:=i0) (o:=3) rfl ?_;refine lG ?_;refine j1 _ (λhb=>?_) (λhb=>⟨hlen,tW,hc,by simpa using hb⟩);have:=bne_iff_ne.1 hb;exact λhh=>this hh.2.2.2
   ·refine kq (by simpa using hc) ?_;exact j1 true (λ_ hh=>hc hh.2.2.1) (λhb=>by cases hb)
  ·refine kq (by rw[bne_iff_ne];omega) ?_;refine vr ?_;exact j1 true (λ_ hh=>tW (by rw[hh.2.1])) (λhb=>by cases hb)
 ·refine kq (by rw[bne_iff_ne];omega) ?_;refine vr ?_;refine vr ?_;exact j1 true (λ_ hh=>hlen (by rw[hh.1])) (λhb=>by cases hb)
def Qi{ab xb:OA}{ac xc:Nat}{al:List aP}{xl:List Kept}{Rz Sl:Int}{f2 f4:HP->LH}(hm:RM m)
 [i2:oQ ab al.length ac R 14 (al.flatMap ak) f2][i4:oQ xb xl.length xc R 33 (xl.flatMap aJ) f4]
 (h:T W (ML p m mb mc kb kc R) (K (.bool (decide (m.made.map m.full=al/\m.kept=xl/\m.clock=Rz/\m.ae=Sl))))):T W (ML p m mb mc kb kc R) (gJ (some ⟨p,0,none⟩) ab al.length ac xb xl.length xc Rz Sl K):=by
 unfold gJ;have hmf:=hm.lH;have hmm:=hm.many;apply ws;intros;refine yI (by omega) (by omega) hm.VV hm.WS λob oc=>?_;apply ws;intros;rename_i r1;have Pr:m.made.length=(m.made.map m.full).length:=(aei _).symm;rw[Pr];refine KB (ob:=ob) (ol:=m.made.map m.full) (kl:=m.kept) (by rw[aei];omega) (by omega) ?_;apply ws;intros;refine T.drop ?_;refine T.sub h ?_;exact nh
end
instance{x1 x2 x3 x4:Value}{e:Int}{rb ab tb:OA}{rn rc an ac tn tc:Nat}:Wr [x1,x2,x3,x4] 0 (oZ e rb rn rc ab an ac tb tn tc) (oZ e rb rn rc ab an ac tb tn tc):=⟨rfl,adY _,λv hv=>by simp[oZ] at hv;rcases hv with rfl|rfl|rfl|rfl<;>rfl⟩
section
variable {W:World} {L R M:LH} {K:VK} {X:WK} {q:iw} {s:r9} {p:Nat} {m:Model} {mb kb:OA} {mc kc:Nat}
def T.un2{A B:HP}(h:T W (ML p m mb mc kb kc (A::B::R)) X):T W (A::B::ML p m mb mc kb kc R) X:=
 T.perm h (ad1 (l₁:=[A,B]) (l₂:=[_,_,_])|>.append_right R)
def Tu{e:Int}{rb ab tb:OA}{rc ac tc:Nat}{res:List Int}{al:List aP}{tl:List Move}{f1 f2 f3:HP->LH}(hg:Good (bo m))(qM:Md.Ground m)
 [i1:oQ rb res.length rc R 1 (res.flatMap I1) f1][i2:oQ ab al.length ac R 14 (al.flatMap ak) f2][i3:oQ tb tl.length tc R 16 (tl.flatMap ai) f3](hlr:res.length<=10000)(zv:al.length<=10000)(aZ:tl.length<=10000)
 (hq:lu W R q s)(Um:q.ag.length<1000000)(ZA:q.aT.length<1000000)(hA:∀a∈q.ag,vf a)(hT:∀t∈q.aT,uX t)
 (Wl:dH q=false->T W (ML p m mb mc kb kc R) (K (.tuple ⟨[.bool (decide (e=(ask m q).1/\(al=(ask m q).2.1/\tl=(ask m q).2.2)/\res=[])),.p (some ⟨p,0,none⟩)]⟩)))
 (hB:dH q=true->fS q=false->T W (ML p m mb mc kb kc R) (K (.tuple ⟨[.bool (decide (e=1/\res=[])),.p (some ⟨p,0,none⟩)]⟩)))
 (hC:dH q=true->fS q=true->e=0->∀p2 nu nt gS gR R',Bk p m mb mc kb kc R p2 (aH m q).2.2 nu nt gS gR R'->RM (aH m q).2.2->T W (ML p2 (aH m q).2.2 nu nt gS gR R') (K (.tuple ⟨[.bool (decide ((aH m q).1=0/\res=(aH m q).2.1)),.p (some ⟨p2,0,none⟩)]⟩)))
 (hD:dH q=true->fS q=true->e≠0->T W (ML p m mb mc kb kc R) (K (.tuple ⟨[.bool (decide ((e=8\/e=9\/e=6\/e=3)/\res=[]/\al=[]/\tl=[])),.p (some ⟨p,0,none⟩)]⟩))):
 T W (ML p m mb mc kb kc R) (av (oZ e rb res.length rc ab al.length ac tb tl.length tc) (some ⟨p,0,none⟩) (dF q s) K):=by
 have hm:=RM.Jq hg qM;have hmf:=hm.lH;have hmm:=hm.many;have Xd:∀{α:Type}(l:List α),(((l.length:Nat):Int)==0)=decide (l=[]):=λl=>by
  rw[aee,beq_iff_eq,decide_eq_true_eq,<-List.length_eq_zero_iff];omega
 unfold av;apply ws;intros;refine FC ?_;cases he:dH q with
 |false=>
  have Wl:=Wl he;apply ws;intros;rename_i r1 r2;refine T.un2 ?_;refine yI (by omega) (by omega) hm.VV hm.WS λob oc=>?_;apply ws;intros;have Pr:m.made.length=(m.made.map m.full).length:=(aei _).symm;have aa1:(m.made.map m.full).length<=1000:=by rw[aei];omega
  rw[Pr];have aaY:BN (m.made.map m.full) m.kept q=ask m q:=by
   rw[<-RO hg];have:m.made.map m.full=(bo m).ag:=ae9 λa ha=>qM.full ha;rw[this];rfl
  refine HI (R:=R) (al:=m.made.map m.full) (kl:=m.kept) hq aa1 (by omega) λb1 c1 b2 c2=>?_;rw[aaY];refine Tw ?_;apply ws;intros;have j2:∀b:Bool,b=decide (e=(ask m q).1/\(al=(ask m q).2.1/\tl=(ask m q).2.2))->T W (own b1 (ask m q).2.1.length c1 14 ((ask m q).2.1.flatMap ak)::own b2 (ask m q).2.2.length c2 16 ((ask m q).2.2.flatMap ai)::ML p m mb mc kb kc (own ob (m.made.map m.full).length oc 14 ((m.made.map m.full).flatMap ak)::Sep.pt r2 (dF q s)::Sep.pt r1 (oZ e rb res.length rc ab al.length ac tb tl.length tc)::R)) (av.j2 K r1 (some ⟨p,0,none⟩) b):=λb hb=>by
   unfold av.j2 av.j1;cases b with
   |true=>
    have hb:=of_decide_eq_true hb.symm;apply ws;intros;rw[Xd];have e1:decide (res=[])=decide (e=(ask m q).1/\(al=(ask m q).2.1/\tl=(ask m q).2.2)/\res=[]):=by rw[decide_eq_decide];exact⟨λh=>⟨hb.1,hb.2,h⟩,λh=>h.2.2⟩
    rw[e1];refine T.sub Wl ?_;exact nh
   |false=>
    have hb:=of_decide_eq_false hb.symm;have e1:false=decide (e=(ask m q).1/\(al=(ask m q).2.1/\tl=(ask m q).2.2)/\res=[]):=(decide_eq_false (λh=>hb ⟨h.1,h.2.1⟩)).symm;apply ws;intros;rw[e1];refine T.sub Wl ?_;exact nh
  refine bE (λg1=>?_) (λg1=>?_)
  ·have g1:e=(ask m q).1:=by simpa using g1
   apply ws;intros;refine Ky (a:=al) (b:=(ask m q).2.1) (t:=tl) (u:=(ask m q).2.2) (by omega) (by omega) ?_;refine qC ?_;refine j2 _ ?_;rw[decide_eq_decide];exact⟨λh=>⟨g1,h⟩,λh=>h.2⟩
  ·have g1: ¬e=(ask m q).1:=by simpa using g1
   exact j2 false (decide_eq_false (λh=>g1 h.1)).symm
 |true=>
  have hB:=hB he;have hC:=hC he;have hD:=hD he;apply ws;intros;rename_i r1 r2;refine T.un2 ?_;refine Kx (R:=R) hq Um ZA ?_;cases hw:fS q with
  |false=>
   have hB:=hB hw;apply ws;intros;unfold av.j3;refine bE (λg1=>?_) (λg1=>?_)
   ·have g1:e=1:=by simpa using g1
    apply ws;intros;rw[Xd];have e1:decide (res=[])=decide (e=1/\res=[]):=by rw[decide_eq_decide];exact⟨λh=>⟨g1,h⟩,λh=>h.2⟩
    rw[e1];refine T.sub hB ?_;exact nh
   ·have g1: ¬e=1:=by simpa using g1
    have e1:false=decide (e=1/\res=[]):=(decide_eq_false (λh=>g1 h.1)).symm;rw[e1];refine T.sub hB ?_;exact nh
  |true=>
   have hC:=hC hw;have hD:=hD hw;apply ws;intros;refine Qm hm ⟨hq.ag.mono,hq.aT.mono,hq.ids.mono,hq.ca,hq.ct,hq.ci⟩ Um ZA (λ_=>hA) (λ_=>hT) λp2 nu nt gS gR ob oc R' zX Hb=>?_;refine Tw ?_;have hR2:∃g1 g2 g3,∃(_:oQ rb res.length rc R' 1 (res.flatMap I1) g1)(_:oQ ab al.length ac R' 14 (al.flatMap ak) g2)(_:oQ tb tl.length tc R' 16 (tl.flatMap ai) g3),∃g4,Lc (Sep.pt r1) R' (oZ e rb res.length rc ab al.length ac tb tl.length tc) g4:=by
    rcases zX with⟨rfl,-⟩|rfl
    ·exact⟨_,_,_,inferInstance,inferInstance,inferInstance,_,inferInstance⟩
    ·exact⟨_,_,_,inferInstance,inferInstance,inferInstance,_,inferInstance⟩
   obtain⟨g1,g2,g3,k1,k2,k3,g4,k4⟩:=hR2;have fC:e=0->T W (ML p2 (aH m q).2.2 nu nt gS gR R') (K (.tuple ⟨[.bool (decide ((aH m q).1=0/\res=(aH m q).2.1)),.p (some ⟨p2,0,none⟩)]⟩)):=λh0=>by
    rcases zX with⟨rfl,rfl,He,rfl,rfl,rfl,rfl⟩|rfl
    ·refine T.sub (hC h0 p2 nu nt gS gR R (.inl ⟨rfl,rfl,He,rfl,rfl,rfl,rfl⟩) Hb) ?_;exact nh
    ·refine T.sub (hC h0 p2 nu nt gS gR _ (.inr rfl) Hb) ?_;exact nh
   have fD:e≠0->∀b:Bool,b=decide ((e=8\/e=9\/e=6\/e=3)/\res=[]/\al=[]/\tl=[])->T W (ML p2 (aH m q).2.2 nu nt gS gR R') (K (.tuple ⟨[.bool b,.pointer (some ⟨p,0,none⟩)]⟩)):=λh0 b hb=>by
    rw[hb];have hD:=hD h0;rcases zX with⟨rfl,rfl,He,rfl,rfl,rfl,rfl⟩|rfl
    ·rw[He];refine T.sub hD ?_;exact nh
    ·refine T.sub hD ?_;refine ad7.trans ?_ (List.sublist_append_right [Sep.pt p2 (zp (aH m q).2.2 nu nt gS gR),own nu (aH m q).2.2.made.length nt 14 ((aH m q).2.2.made.flatMap ak),own gS (aH m q).2.2.kept.length gR 33 ((aH m q).2.2.kept.flatMap aJ)] _);exact nh
   apply ws;intros;unfold av.j4;have hj6:e≠0->∀b:Bool,b=decide (e=8\/e=9)->T W (ML p2 (aH m q).2.2 nu nt gS gR (own ob (aH m q).2.1.length oc 1 ((aH m q).2.1.flatMap I1)::R')) (av.j6 K r1 (some ⟨p,0,none⟩) b):=λh0 b hb=>by
    have fin:∀b:Bool,b=decide (e=8\/e=9\/e=6\/e=3)->T W (ML p2 (aH m q).2.2 nu nt gS gR (own ob (aH m q).2.1.length oc 1 ((aH m q).2.1.flatMap I1)::R')) (av.j5 K r1 (some ⟨p,0,none⟩) b):=λb hb=>by
     unfold av.j5;cases b with
     |true=>
      have hb:=of_decide_eq_true hb.symm;apply ws;intros;refine T.sub (fD h0 _ ?_) ?_
      ·rw[aw (n:=(res.length:Int)+(al.length:Int)) (by omega),aw (by omega),aee,beq_iff_eq,decide_eq_true_eq,<-List.length_eq_zero_iff,<-List.length_eq_zero_iff,<-List.length_eq_zero_iff]
       constructor
       ·intro h;exact⟨hb,by omega,by omega,by omega⟩
       ·intro h;omega
      ·exact nh
     |false=>
      have hb:=of_decide_eq_false hb.symm;apply ws;intros;refine T.sub (fD h0 _ (decide_eq_false (λh=>hb h.1)).symm) ?_;exact nh
    unfold av.j6;cases b with
    |true=>
     have hb:=of_decide_eq_true hb.symm;exact fin true (decide_eq_true (by omega)).symm
    |false=>
     have hb:=of_decide_eq_false hb.symm;apply ws;intros;refine bE (λg1=>?_) (λg1=>?_)
     ·have g1:e=6:=by simpa using g1
      exact fin true (decide_eq_true (by omega)).symm
     ·have g1: ¬e=6:=by simpa using g1
      apply ws;intros;refine fin _ ?_;rw[aee,beq_iff_eq,decide_eq_true_eq];omega
   refine bE (λg1=>?_) (λg1=>?_)
   ·have g1:e=0:=by simpa using g1
    refine bE (λg2=>?_) (λg2=>?_)
    ·have g2:(aH m q).1=0:=by simpa using g2
     apply ws;intros;refine Kz (al:=res) (kl:=(aH m q).2.1) (by omega) ?_;refine qC ?_;have e1:decide (res=(aH m q).2.1)=decide ((aH m q).1=0/\res=(aH m q).2.1):=by rw[decide_eq_decide];exact⟨λh=>⟨g2,h⟩,λh=>h.2⟩
     rw[e1];refine T.sub (fC g1) ?_;exact nh
    ·have g2: ¬(aH m q).1=0:=by simpa using g2
     have e1:false=decide ((aH m q).1=0/\res=(aH m q).2.1):=(decide_eq_false (λh=>g2 h.1)).symm;rw[e1];refine T.sub (fC g1) ?_;exact nh
   ·have g1: ¬e=0:=by simpa using g1
    apply ws;intros;refine bE (λg2=>?_) (λg2=>?_)
    ·have g2:e=8:=by simpa using g2
     exact hj6 g1 true (decide_eq_true (by omega)).symm
    ·have g2: ¬e=8:=by simpa using g2
     apply ws;intros;refine hj6 g1 _ ?_;rw[aee,beq_iff_eq,decide_eq_true_eq];omega
end
end Go.Up
namespace Go.Sep
open Go.Den Go.RowKit Go.Prog Go.bC
section
variable {W w:World} {L:LH}
end
def JW{D:ay}{number:Int}{h:dw}(hg:jU h):∃a:Nat,(a:Int)=low h.aD/\a<2/\px D number h=cA D a (a+1:Nat) number (bs (ga h)):=by
 have hl:=rh h.aD;refine⟨(low h.aD).toNat,by omega,by omega,?_⟩;unfold px cA;rw[if_pos hg];have e1:(((low h.aD).toNat:Nat):Int)=low h.aD:=by omega
 have e2:(((low h.aD).toNat+1:Nat):Int)=low h.aD+1:=by omega
 rw[e1,e2]
def BB(h:dw):dA (bs (ga h)).size=1:=by rw[bw,mu];rfl
def CV(h:dw):part (bs (ga h)) 0=bs (ga h):=by
 apply gN;unfold part;rw[extract_toList,Nat.mul_zero,ae1,aea];show(ga h).length<=_;rw[mu];decide
def GS{D:ay}{i:Nat}{n:Int}{h:dw}(hn:1<=n/\n<=1152921504606846976)(hg:jU h)(hi:(i:Int)=low h.aD)(hr:D.read (i:Int)=(leaf n 0 (bs (ga h)),0)):vT D i=some h:=by
 have vI:Good n 0 (bs (ga h)):=⟨hn.1,hn.2,by decide,by decide,by rw[bw,mu];decide⟩;unfold vT;rw[hr];dsimp only;rw[jA vI,kS vI];dsimp only;rw[if_neg (by simp),show(bs (ga h)).data.toList=ga h from rfl,Gi hg];dsimp only;rw[if_neg (λhh=>hh hi.symm)]
def BM{D:ay}{i:Nat}(hr:iG (D.read (i:Int)).1.data.toList=none):vT D i=none:=by
 unfold vT;rw[hr]
def FY{n:Int}(h:0<=n/\n<=1152921504606846977):low n=n.tmod 2:=by
 obtain⟨m,rfl⟩:=ad3 h.1;have e:m%2^64=m:=aeB (by omega);rw[Jv,BitVec.ofInt_natCast,BitVec.toNat_ofNat,e,aeA (by omega)];omega
def ux{D:ay}{i:Nat}(h:i<D.safe.length):(D.read (i:Int)).2=0:=by
 unfold ay.read;rw[if_pos ⟨by omega,by omega⟩]
section
variable {W w:World} {L:LH}
end
def sg(a:dw×dw)(h:dw):dw×dw:=if low h.aD=0 then(h,a.2) else(a.1,h)
def yo{D D':ay}{i:Nat}(h1:i<D.safe.length)(h2:i<D'.safe.length)(h:(D'.read (i:Int)).1=(D.read (i:Int)).1):vT D' i=vT D i:=by
 have e:D'.read (i:Int)=D.read (i:Int):=by
  have a:=ux h1;have b:=ux h2;exact Prod.ext h (by rw[a,b])
 unfold vT;rw[e]
def u4(h:dw):∀v∈aS h,v.oneCell'=true:=by simp[aS,Value.oneCell']
section
variable {W w:World} {L:LH} {k:Nat}
end
end Go.Sep
namespace Go.Up
open Go.Sep Go.Den Go.RowKit Go.Prog Go.Md Go.bC
def Ba{n:Nat}{D D':ay}{J:PJ}{q0:Int}{kZ:List (List UInt8)}{g g':Nat}(h:JG n D J q0 kZ g)(fJ:D'.Ok)(yd:D'.later=[])(hlen:D'.safe.length=n)
 (hr:∀j:Int,J.lo<=j->j<J.hi->(D'.read j).1=(D.read j).1)(he:∀j:Nat,j<n->Sep.Ends g' (D'.read (j:Int)).1):JG n D' J q0 kZ g':=by
 have hl:D'.safe.length=D.safe.length:=by rw[hlen,h.len]
 have j2:=h.uT.DA;have j3:=h.uT.Mi;refine⟨fJ,yd,hlen,⟨h.uT.lo,j2,j3,by rw[hl];exact h.uT.hi,h.uT.seq⟩,qW hl _ h.chain (λj a b=>hr j (by omega) (by omega)),h.seq,h.q0,λj a b m d hv=>?_,?_,he⟩
 ·rw[hr j a b] at hv;exact h.low j a b m d hv
 ·rw[yL hl (λj a b=>hr j (by omega) (by omega))];exact h.stop
def HW{n:Nat}{D:ay}{J:PJ}{q0:Int}{kZ:List (List UInt8)}{g:Nat}(h:JG n D J q0 kZ g):JG n D {J with at':=J.lo} J.seq [] g:=by
 have hq0:=h.q0;have Cl:=h.seq;have j2:=h.uT.DA;have j3:=h.uT.Mi;refine⟨h.ok,h.Ha,h.len,⟨h.uT.lo,afm _,by show J.lo<=J.hi;omega,h.uT.hi,h.uT.seq⟩,rfl,by show J.seq=J.seq+_;simp,h.uT.seq.1,h.low,?_,h.ends⟩;show iH D J.lo J.hi (J.seq+1)=none;cases Eb:kZ with
 |nil=>
  have Ei:=h.chain;rw[Eb] at Ei;unfold Sep.gh at Ei;rw[Ei];exact h.stop
 |cons s r=>
  have Ei:=h.chain;rw[Eb] at Ei;obtain⟨a2,h1,h2⟩:=Ei;obtain⟨m,d,x1,x2,hv,K2⟩:=C0 (by omega) h1;obtain⟨i1,i2,i3,i4,i5,i6⟩:=ma h1;have NV:=nL (12+s.length);have yR:=h.uT.seq;have vY:=h.uT.hi;have hlen:=h.ok.lH;have Un:=qH (seq:=q0+1) (s:=bs s) ⟨by omega,by
   have:(kZ.length:Int)>=1:=by rw[Eb,ad'];omega
   omega⟩ (by rw[bw];omega)
  refine xR (λm2 d2 QR=>?_);rw[hv] at QR;simp only[aec.injEq,Prod.mk.injEq] at QR;obtain⟨-,-,rfl⟩:=QR;have NS:Sep.Good m ((0:Nat):Int) (Sep.part (bs (bG (q0+1) (bs s))) 0):=⟨x1,x2,by omega,by omega,jy _ 0⟩;have r0:=K2 0 NV;rw[show J.lo+((0:Nat):Int)=J.lo from by omega] at r0;rw[r0,jA NS,kS NS] at hv;simp only[aec.injEq,Prod.mk.injEq] at hv;obtain⟨-,-,hd⟩:=hv;rw[<-hd,Un.1];rw[Eb,ad'] at Cl;omega
def Zi(L:ay×Int)(D':ay):Prop:=(∃mask torn cut,D'=L.1.fI mask torn cut)\/(L.2=0/\D'=L.1)
def Zt{n a t m g:Nat}{D D':ay}{s:BA}(fJ:D.Ok)(yd:D.later=[])(hlen:D.safe.length=n)(nj:∀j:Nat,j<n->Sep.Ends g (D.read (j:Int)).1)(bS:n<=4096)(hm:g<m)(JM:m<256)(hl:a+dA s.size<=t)(QT:t<=n)
 (hA:Zi (cA D (a:Int) (t:Int) (m:Int) s) D'):
 D'.Ok/\D'.later=[]/\D'.safe.length=n/\(∀j:Nat,j<n->Sep.Ends m (D'.read (j:Int)).1)/\(∀j:Nat,j<n->(j<a\/a+dA s.size<=j)->(D'.read (j:Int)).1=(D.read (j:Int)).1)/\
  ((cA D (a:Int) (t:Int) (m:Int) s).2=0->∀q:Nat,q<dA s.size->(D'.read ((a+q:Nat):Int)).1=leaf m q (Sep.part s q))/\
  (∀q:Nat,q<dA s.size->(D'.read ((a+q:Nat):Int)).1=(D.read ((a+q:Nat):Int)).1\/(D'.read ((a+q:Nat):Int)).1=leaf m q (Sep.part s q)\/iG (D'.read ((a+q:Nat):Int)).1.data.toList=none):=by
 have XS:=nL s.size;have key:∀mask torn cut:Int,∀X:ay,X=(cA D (a:Int) (t:Int) (m:Int) s).1.fI mask torn cut->X.Ok/\X.later=[]/\X.safe.length=n/\(∀j:Nat,j<n->Sep.Ends m (X.read (j:Int)).1)/\(∀j:Nat,j<n->(j<a\/a+dA s.size<=j)->(X.read (j:Int)).1=(D.read (j:Int)).1)/\
  ((cA D (a:Int) (t:Int) (m:Int) s).2=0->∀q:Nat,q<dA s.size->(X.read ((a+q:Nat):Int)).1=leaf m q (Sep.part s q))/\
  (∀q:Nat,q<dA s.size->(X.read ((a+q:Nat):Int)).1=(D.read ((a+q:Nat):Int)).1\/(X.read ((a+q:Nat):Int)).1=leaf m q (Sep.part s q)\/iG (X.read ((a+q:Nat):Int)).1.data.toList=none):=λmask torn cut X hX=>by
  obtain⟨c1,c2,c3,c4⟩:=FW (n:=n) (a:=a) (t:=t) (number:=(m:Int)) (mask:=mask) (torn:=torn) (cut:=cut) (s:=s) fJ yd hlen bS (by omega) hl QT;rw[<-hX] at c1 c2 c3 c4;have vI:∀i:Nat,i<4096->Sep.Good (m:Int) (i:Int) (Sep.part s i):=λi hi=>⟨by omega,by omega,by omega,by omega,jy _ i⟩;have XD:X.later=[]:=by rw[hX,mO]
  refine⟨c3,XD,c4,λj hj=>?_,λj hj tu=>?_,c2,λq hq=>?_⟩
  ·rcases c1 j hj with hh|⟨i,h1,h2,h3⟩
   ·rw[hh];exact(nj j hj).mono (by omega)
   ·exact(xV hm JM (vI i (by omega)) (nj j hj) h3).1
  ·rcases c1 j hj with hh|⟨i,h1,h2,h3⟩
   ·exact hh
   ·omega
  ·rcases c1 (a+q) (by omega) with hh|⟨i,h1,h2,h3⟩
   ·exact .inl hh
   ·have:i=q:=by omega
    subst this;exact(xV hm JM (vI i (by omega)) (nj (a+i) (by omega)) h3).2
 rcases hA with⟨mask,torn,cut,hX⟩|⟨h0,hX⟩
 ·exact key mask torn cut D' hX
 ·have hlz:=Jt h0;obtain⟨k1,k2,k3,k4,k5,k6,k7⟩:=key 0 (-1) 0 _ rfl;have Pn:∀j:Int,((cA D (a:Int) (t:Int) (m:Int) s).1.fI 0 (-1) 0).read j=D'.read j:=λj=>by rw[hX];exact By hlz 0 (-1) 0 j
  refine⟨by rw[hX];exact FV fJ (by rw[yd,aen];omega),by rw[hX];exact hlz,by rw[hX,<-rW _ 0 (-1) 0];exact k3,λj hj=>by rw[<-Pn];exact k4 j hj,λj hj ho=>by rw[<-Pn];exact k5 j hj ho,λh q hq=>by rw[<-Pn];exact k6 h q hq,λq hq=>by rw[<-Pn];exact k7 q hq⟩
def CG(n:Nat)(D:ay)(hd:dw)(mb:Model):Prop:=
 (hd=Ah/\mb=o0/\vT D 0=none/\vT D 1=none)\/
 (jU hd/\(∃(a:Nat)(k:Int),(a:Int)=low hd.aD/\1<=k/\k<=1152921504606846976/\(D.read (a:Int)).1=leaf k 0 (bs (ga hd))/\(∀p,vT D (1-a)=some p->p.aD<hd.aD))/\
  hd.size=((bl (bo mb)).length:Int)/\dA (bl (bo mb)).length<=bF n/\∀q:Nat,q<dA (bl (bo mb)).length->(D.read ((cD n hd.aD+q:Nat):Int)).1=leaf hd.number q (Sep.part (bs (bl (bo mb))) q))
def CG.base{n:Nat}{D:ay}{hd:dw}{mb:Model}(h:CG n D hd mb)(hlen:D.safe.length=n)(mB:12<=n)(bS:n<=4096):VM D n hd mb:=by
 rcases h with⟨h1,h2,h3,h4⟩|⟨hg,⟨a,k,ha,Pu,rl,hr,hp⟩,hs,hc,hq⟩
 ·left
  rw[h3,h4];exact⟨rfl,h1,h2⟩
 ·right
  have Gf:=rh hd.aD;have eA:vT D a=some hd:=GS (n:=k) ⟨Pu,rl⟩ hg ha (by
   have:=ux (D:=D) (i:=a) (by omega)
   rw[<-hr,<-this])
  constructor
  ·by_cases ha0:a=0
   ·subst ha0;rw[eA];cases hb:vT D 1 with
    |none=>rfl
    |some p=>
     have:=hp p hb;show(if hd.aD<p.aD then some p else some hd)=some hd;rw[if_neg (by omega)]
   ·have:a=1:=by omega
    subst this;rw[eA];cases hb:vT D 0 with
    |none=>rfl
    |some p=>
     have:=hp p hb;show(if p.aD<hd.aD then some hd else some p)=some hd;rw[if_pos this]
  ·have:=Rb (n:=n) (D:=D) (which:=hd.aD) (number:=hd.number) (s:=bs (bl (bo mb))) hlen mB bS ⟨hg.2.2.1,hg.2.2.2.1⟩ (by rw[bw];exact hc) (λq Xr=>by
    rw[show(((cD n hd.aD:Nat):Int)+(q:Int))=((cD n hd.aD+q:Nat):Int) from by omega]
    exact hq q Xr)
   rw[bw,<-hs] at this;exact this
def CG.ka{n:Nat}{D D':ay}{hd:dw}{mb:Model}(h:CG n D hd mb)(mB:12<=n)(hlen:D.safe.length=n)(XC:D'.safe.length=n)
 (h01:∀j:Nat,j<2->(D'.read (j:Int)).1=(D.read (j:Int)).1)(SA:∀j:Nat,cD n hd.aD<=j->j<cD n hd.aD+bF n->(D'.read (j:Int)).1=(D.read (j:Int)).1):CG n D' hd mb:=by
 have vK:∀i:Nat,i<2->vT D' i=vT D i:=λi hi=>yo (by omega) (by omega) (h01 i hi);rcases h with⟨h1,h2,h3,h4⟩|⟨hg,⟨a,k,ha,Pu,rl,hr,hp⟩,hs,hc,hq⟩
 ·exact .inl ⟨h1,h2,by rw[vK 0 (by decide)];exact h3,by rw[vK 1 (by decide)];exact h4⟩
 ·have Gf:=rh hd.aD;refine .inr ⟨hg,⟨a,k,ha,Pu,rl,by rw[h01 a (by omega)];exact hr,λp NN=>hp p (by rw[<-vK (1-a) (by omega)];exact NN)⟩,hs,hc,λq Xr=>?_⟩;rw[SA _ (by omega) (by omega)];exact hq q Xr
structure VG(n:Nat)(D:ay)(J:PJ)(hd:dw)(mb:Model)(qs:List iw)(g:Nat):Prop where
 jg:JG n D J hd.seq (qs.map bZ) g
 cg:CG n D hd mb
 lo:J.lo=((2+2* bF n:Nat):Int)
 hi:J.hi=(n:Int)
 dX:J.dX=false
 vL:Good (bo mb)
 ground:Md.Ground mb
 kZ:∀q∈qs,DD q
 HA:J.seq<=g
 aD:0<=hd.aD/\hd.aD<=g
def VG.mono{n:Nat}{D:ay}{J:PJ}{hd:dw}{mb:Model}{qs:List iw}{g g':Nat}(h:VG n D J hd mb qs g)(hg:g<=g'):VG n D J hd mb qs g':=
 ⟨h.jg.mono hg,h.cg,h.lo,h.hi,h.dX,h.vL,h.ground,h.kZ,by have:=h.HA;omega,by have:=h.aD;omega⟩
def ED{n:Nat}(mB:12<=n)(bS:n<=4096):VG n (ay.new n) ⟨((2+2* bF n:Nat):Int),n,((2+2* bF n:Nat):Int),0,false⟩ Ah o0 [] 0:=by
 have hb:2+2* bF n<n:=by unfold bF;omega
 have hz:∀i:Nat,i<n->iG ((ay.new n).read (i:Int)).1.data.toList=none:=λi hi=>by
  rw[tR bS hi];exact tN
 exact⟨VI bS (by omega) (by omega) (by omega) 0 (by omega),.inl ⟨rfl,rfl,BM (hz 0 (by omega)),BM (hz 1 (by omega))⟩,rfl,rfl,rfl,wY,qk,λq hq=>(by cases hq),afm _,⟨afm _,afm _⟩⟩
def VG.add{n:Nat}{D:ay}{J:PJ}{hd:dw}{mb:Model}{qs:List iw}{g:Nat}{q:iw}(h:VG n D J hd mb qs g)(mB:12<=n)(bS:n<=4096)(hq:DD q)(hr:room J (bs (bZ q)).size)(hg:g+1<256):
 py D J (cE D n+1) (bs (bZ q))=Sep.yp J (bs (bZ q)) (cA D J.at' J.hi (cE D n+1) (bs (bG (J.seq+1) (bs (bZ q)))))/\(cA D J.at' J.hi (cE D n+1) (bs (bG (J.seq+1) (bs (bZ q))))).1.Ok/\
 (((cA D J.at' J.hi (cE D n+1) (bs (bG (J.seq+1) (bs (bZ q))))).2=0/\VG n (cA D J.at' J.hi (cE D n+1) (bs (bG (J.seq+1) (bs (bZ q))))).1 (J.more (bs (bZ q))) hd mb (qs++[q]) (g+1))\/
  ((cA D J.at' J.hi (cE D n+1) (bs (bG (J.seq+1) (bs (bZ q))))).2=8/\∀mask torn cut,
    VG n ((cA D J.at' J.hi (cE D n+1) (bs (bG (J.seq+1) (bs (bZ q))))).1.fI mask torn cut) J hd mb qs (g+1)\/
    VG n ((cA D J.at' J.hi (cE D n+1) (bs (bG (J.seq+1) (bs (bZ q))))).1.fI mask torn cut) (J.more (bs (bZ q))) hd mb (qs++[q]) (g+1))):=by
 obtain⟨x,hx,Xg,SJ⟩:=h.jg.tZ (by omega);have hm:cE D n+1=((x+1:Nat):Int):=by omega
 rw[hm];have Cl:=h.HA;have Zx:=h.aD;have xx:=h.lo;have vY:=h.hi;obtain⟨a1,a2,a3⟩:=SJ.add (m:=x+1) (s:=bs (bZ q)) h.dX bS (by omega) (by omega) hr (by omega);have j2:=h.jg.uT.DA;obtain⟨a,ha⟩:=ad3 (show 0<=J.at' by omega);have wW:=oz (J.seq+1) (bs (bZ q));have r3:=hr.2.2;rw[adT] at r3;have XW:∀D',Zi (cA D J.at' J.hi ((x+1:Nat):Int) (bs (bG (J.seq+1) (bs (bZ q))))) D'->CG n D' hd mb:=λD' hA=>by
  rw[ha,vY] at hA;obtain⟨k1,k2,k3,k4,k5,-,-⟩:=Zt (n:=n) (a:=a) (t:=n) (m:=x+1) (g:=x) h.jg.ok h.jg.Ha h.jg.len SJ.ends bS (by omega) (by omega) (by rw[wW];omega) (adY _) hA;have Pp:=(lC mB hd.aD);have SA:cD n hd.aD+bF n<=2+2* bF n:=by unfold cD;split<;>omega
  exact h.cg.ka mB h.jg.len k3 (λj hj=>k5 j (by omega) (.inl (by omega))) (λj ZF Gh=>k5 j (by omega) (.inl (by omega)))
 have SB:∀r∈qs++[q],DD r:=λr hr=>by
  rcases aew.1 hr with hr|hr
  ·exact h.kZ r hr
  ·cases(show r=q by simpa using hr);exact hq
 have Ge:(qs++[q]).map bZ=qs.map bZ++[(bs (bZ q)).data.toList]:=by rw[aep];rfl
 refine⟨a1,a2,?_⟩;rcases a3 with⟨z,hj⟩|z
 ·left
  refine⟨z,⟨?_,XW _ (.inr ⟨z,rfl⟩),xx,vY,h.dX,h.vL,h.ground,SB,by show J.seq+1<=((g+1:Nat):Int);omega,by omega⟩⟩;rw[Ge];exact hj.mono (by omega)
 ·right
  refine⟨z,λmask torn cut=>?_⟩;obtain⟨f1,f2,f3,f4⟩:=fly SJ bS (show x<x+1 by omega) (by omega) hr (by omega) mask torn cut;have hc:=XW _ (.inl ⟨mask,torn,cut,rfl⟩);by_cases hw:∀i:Nat,i<dA (12+(bs (bZ q)).size)->(((cA D J.at' J.hi ((x+1:Nat):Int) (bs (bG (J.seq+1) (bs (bZ q))))).1.fI mask torn cut).read (J.at'+i)).1=leaf ((x+1:Nat):Int) i (Sep.part (bs (bG (J.seq+1) (bs (bZ q)))) i)
  ·right
   refine⟨?_,hc,xx,vY,h.dX,h.vL,h.ground,SB,by show J.seq+1<=((g+1:Nat):Int);omega,by omega⟩;rw[Ge];exact(f3 hw).mono (by omega)
  ·left
   exact⟨(f4 hw).mono (by omega),hc,xx,vY,h.dX,h.vL,h.ground,h.kZ,by omega,by omega⟩
def FX{t:Int}(h:0<=t/\t<1152921504606846976):low (t+1)=1-low t:=by
 rw[FY (by omega),FY (by omega),aeA (by omega),aeA (by omega)];omega
def VG.put{n:Nat}{D:ay}{J:PJ}{hd:dw}{mb m:Model}{qs:List iw}{g:Nat}(h:VG n D J hd mb qs g)(mB:12<=n)(bS:n<=4096)(hg:g+2<256)(zw:dA (bl (bo m)).length<=bF n):
 ((put D n (hd.aD+1) (cE D n+1) (bs (bl (bo m)))).2=0\/(put D n (hd.aD+1) (cE D n+1) (bs (bl (bo m)))).2=8)/\
 ∀D',Zi (put D n (hd.aD+1) (cE D n+1) (bs (bl (bo m)))) D'->VG n D' J hd mb qs (g+1)/\
  ((put D n (hd.aD+1) (cE D n+1) (bs (bl (bo m)))).2=0->∀q:Nat,q<dA (bl (bo m)).length->(D'.read ((cD n (hd.aD+1)+q:Nat):Int)).1=leaf (cE D n+1) q (Sep.part (bs (bl (bo m))) q)):=by
 obtain⟨x,hx,Xg,SJ⟩:=h.jg.tZ (by omega);have hm:cE D n+1=((x+1:Nat):Int):=by omega
 rw[hm,vE];have Bm:=lC mB (hd.aD+1);have Zx:=h.aD;have xx:=h.lo;have vY:=h.hi;have Cl:=h.HA;refine⟨zU (n:=n) (a:=cD n (hd.aD+1)) (t:=cD n (hd.aD+1)+bF n) (number:=((x+1:Nat):Int)) h.jg.len bS (by omega) (by rw[bw];omega) (by omega),λD' hA=>?_⟩;obtain⟨k1,k2,k3,k4,k5,k6,k7⟩:=Zt (n:=n) (a:=cD n (hd.aD+1)) (t:=cD n (hd.aD+1)+bF n) (m:=x+1) (g:=x) h.jg.ok h.jg.Ha h.jg.len SJ.ends bS (by omega) (by omega) (by rw[bw];omega) (by omega) hA;rw[bw] at k5 k6;have hap:=Hz (n:=n) hd.aD (hd.aD+1) (by rw[FX (by omega)];have:=rh hd.aD;omega);have SA:cD n (hd.aD+1)+bF n<=2+2* bF n:=by unfold cD;split<;>omega
 refine⟨⟨Ba h.jg k1 k2 k3 (λj ZF Gh=>?_) (λj hj=>(k4 j hj).mono (by omega)),h.cg.ka mB h.jg.len k3 (λj hj=>k5 j (by omega) (.inl (by omega))) (λj ZF Gh=>k5 j (by have:=(lC mB hd.aD).2.1;omega) (by omega)),xx,vY,h.dX,h.vL,h.ground,h.kZ,by omega,by omega⟩,k6⟩;obtain⟨k,rfl⟩:=ad3 (show 0<=j by omega);exact k5 k (by omega) (.inr (by omega))
def VG.Y5{n:Nat}{D:ay}{J:PJ}{hd:dw}{mb m:Model}{qs:List iw}{g:Nat}{number:Int}(h:VG n D J hd mb qs g)(mB:12<=n)(bS:n<=4096)(x:Nat)(hx:cE D n<=x)(Xg:x<=g)(hg:g+1<256)(me:1<=number/\number<=(g:Int))
 (zw:dA (bl (bo m)).length<=bF n)(hlen:(bl (bo m)).length<=425984)(lQ:Good (bo m))(sQ:Md.Ground m)
 (Xn:∀q:Nat,q<dA (bl (bo m)).length->(D.read ((cD n (hd.aD+1)+q:Nat):Int)).1=leaf number q (Sep.part (bs (bl (bo m))) q)):
 ((px D ((x+1:Nat):Int) ⟨hd.aD+1,number,((bl (bo m)).length:Int),J.seq⟩).2=0\/(px D ((x+1:Nat):Int) ⟨hd.aD+1,number,((bl (bo m)).length:Int),J.seq⟩).2=8)/\
 ∀D',Zi (px D ((x+1:Nat):Int) ⟨hd.aD+1,number,((bl (bo m)).length:Int),J.seq⟩) D'->
  (VG n D' {J with at':=J.lo} ⟨hd.aD+1,number,((bl (bo m)).length:Int),J.seq⟩ m [] (g+1)\/
   ((px D ((x+1:Nat):Int) ⟨hd.aD+1,number,((bl (bo m)).length:Int),J.seq⟩).2=8/\VG n D' J hd mb qs (g+1))):=by
 have nj:∀j:Nat,j<n->Sep.Ends x (D.read (j:Int)).1:=by
  obtain⟨y,hy,hyg,hjy⟩:=h.jg.tZ (by omega);intro j hj;exact(hjy.ends j hj).mono (by omega)
 have Zx:=h.aD;have Cl:=h.HA;have xx:=h.lo;have vY:=h.hi;have Q2:=h.jg.uT.seq;obtain⟨hH,Di⟩:∃hH:dw,hH=⟨hd.aD+1,number,((bl (bo m)).length:Int),J.seq⟩:=⟨_,rfl⟩;rw[<-Di];have ZN:hH.aD=hd.aD+1:=by rw[Di]
 have hHs:hH.seq=J.seq:=by rw[Di]
 have hHn:hH.number=number:=by rw[Di]
 have hHz:hH.size=((bl (bo m)).length:Int):=by rw[Di]
 have ZO:jU hH:=by rw[Di];unfold jU;dsimp only;omega
 obtain⟨b,hb,tY,e⟩:=JW (D:=D) (number:=((x+1:Nat):Int)) ZO;have H6:=BB hH;rw[e];refine⟨zU (n:=n) (a:=b) (t:=b+1) (number:=((x+1:Nat):Int)) h.jg.len bS (by omega) (by rw[H6];omega) (by omega),λD' hA=>?_⟩;obtain⟨k1,k2,k3,k4,k5,k6,k7⟩:=Zt (n:=n) (a:=b) (t:=b+1) (m:=x+1) (g:=x) h.jg.ok h.jg.Ha h.jg.len nj bS (by omega) (by omega) (by rw[H6];omega) (by omega) hA;rw[H6] at k5 k6 k7;have XZ:(b:Int)=1-low hd.aD:=by rw[hb,ZN];exact FX (by omega)
 have Gf:=rh hd.aD;have Bm:=lC mB (hd.aD+1);have adD:=lC mB hd.aD;have Pp:2<=2+2* bF n:=by omega
 have Ul:=k7 0 (by decide);rw[aeN,CV] at Ul;have jg1:∀g',g'>=x+1->JG n D' J hd.seq (qs.map bZ) g':=λg' Q3=>Ba h.jg k1 k2 k3 (λj ZF Gh=>by
  obtain⟨k,rfl⟩:=ad3 (show 0<=j by omega)
  exact k5 k (by omega) (.inr (by omega))) (λj hj=>(k4 j hj).mono Q3)
 have vH:∀j:Nat,j<n->j≠b->(D'.read (j:Int)).1=(D.read (j:Int)).1:=λj hj gU=>k5 j hj (by omega);have whole:(D'.read (b:Int)).1=leaf ((x+1:Nat):Int) 0 (bs (ga hH))->VG n D' {J with at':=J.lo} hH m [] (g+1):=λhw=>by
  have jr:=HW (jg1 (g+1) (by omega));refine⟨by rw[hHs];exact jr,.inr ⟨ZO,⟨b,((x+1:Nat):Int),hb,by omega,by omega,hw,λp hp=>?_⟩,hHz,zw,λq hq=>?_⟩,xx,vY,h.dX,lQ,sQ,λq hq=>(by cases hq),by show J.seq<=((g+1:Nat):Int);omega,by rw[ZN];omega⟩
  ·rw[ZN];have F9:vT D (1-b)=some p:=by rw[<-hp];exact(yo (by have:=h.jg.len;omega) (by omega) (vH (1-b) (by omega) (by omega))).symm
   rcases h.cg with⟨z1,z2,z3,z4⟩|⟨We,⟨a,k,ha,Pu,rl,hra,hpa⟩,-⟩
   ·by_cases UN:b=0
    ·subst UN;rw[z4] at F9;cases F9
    ·have:b=1:=by omega
     subst this;rw[z3] at F9;cases F9
   ·have PA:a=1-b:=by omega
    have eA:vT D a=some hd:=GS (n:=k) ⟨Pu,rl⟩ We ha (by
     have:=ux (D:=D) (i:=a) (by have:=h.jg.len;omega)
     rw[<-hra,<-this])
    rw[<-PA,eA] at F9;cases F9
    omega
  ·rw[ZN,hHn,vH _ (by omega) (by omega)];exact Xn q hq
 have WZ:vT D' b=none\/(D'.read (b:Int)).1=(D.read (b:Int)).1->VG n D' J hd mb qs (g+1):=λhn=>by
  refine⟨jg1 (g+1) (by omega),?_,xx,vY,h.dX,h.vL,h.ground,h.kZ,by omega,by omega⟩;rcases hn with hn|hn
  ·rcases h.cg with⟨z1,z2,z3,z4⟩|⟨We,⟨a,k,ha,Pu,rl,hra,hpa⟩,hs,hc,hq⟩
   ·have hc1:vT D' (1-b)=none:=by
     rw[yo (by have:=h.jg.len;omega) (by omega) (vH (1-b) (by omega) (by omega))];by_cases UN:b=0
     ·subst UN;exact z4
     ·have:b=1:=by omega
      subst this;exact z3
    refine .inl ⟨z1,z2,?_,?_⟩
    ·by_cases UN:b=0
     ·subst UN;exact hn
     ·have:b=1:=by omega
      subst this;exact hc1
    ·by_cases UN:b=0
     ·subst UN;exact hc1
     ·have:b=1:=by omega
      subst this;exact hn
   ·have PA:1-a=b:=by omega
    refine .inr ⟨We,⟨a,k,ha,Pu,rl,by rw[vH a (by omega) (by omega)];exact hra,λp hp=>by rw[PA,hn] at hp;cases hp⟩,hs,hc,λq Xr=>?_⟩;rw[vH _ (by omega) (by omega)];exact hq q Xr
  ·exact h.cg.ka mB h.jg.len k3 (λj hj=>by
    by_cases hjb:j=b
    ·subst hjb;exact hn
    ·exact vH j (by omega) hjb) (λj ZF Gh=>vH j (by omega) (by omega))
 by_cases hw:(D'.read (b:Int)).1=leaf ((x+1:Nat):Int) 0 (bs (ga hH))
 ·exact .inl (whole hw)
 ·right
  have hc8:(cA D (b:Int) ((b+1:Nat):Int) ((x+1:Nat):Int) (bs (ga hH))).2=8:=by
   rcases zU (n:=n) (a:=b) (t:=b+1) (number:=((x+1:Nat):Int)) (s:=bs (ga hH)) h.jg.len bS (by omega) (by rw[H6];omega) (by omega) with h0|h8
   ·have:=k6 h0 0 (by decide);rw[aeN,CV] at this;exact absurd this hw
   ·exact h8
  refine⟨hc8,?_⟩;rcases Ul with hh|hh|hh
  ·exact WZ (.inr hh)
  ·exact absurd hh hw
  ·exact WZ (.inl (BM hh))
def BW(n:Nat)(D:ay)(m:Model)(g:Nat):Prop:=∃J hd mb qs,VG n D J hd mb qs g/\uS mb qs=m
def BW.mono{n:Nat}{D:ay}{m:Model}{g g':Nat}(h:BW n D m g)(hg:g<=g'):BW n D m g':=by
 obtain⟨J,hd,mb,qs,h1,h2⟩:=h;exact⟨J,hd,mb,qs,h1.mono hg,h2⟩
structure VW(n:Nat)(S:VS)(m:Model)(g:Nat):Prop where
 dX:S.dX=false
 is:∃hd mb qs,VG n S.D S.J hd mb qs g/\uS mb qs=m/\S.aD=hd.aD
structure VX(n:Nat)(S:VS)(m mf:Model)(g:Nat):Prop where
 dX:S.dX=true
 ok:LO S
 len:S.D.safe.length=n
 seq:S.J.seq<=g
 fI:∀mask torn cut,BW n (S.D.fI mask torn cut) m g\/BW n (S.D.fI mask torn cut) mf g
def VW.mono{n:Nat}{S:VS}{m:Model}{g g':Nat}(h:VW n S m g)(hg:g<=g'):VW n S m g':=by
 obtain⟨h1,hd,mb,qs,h2,h3,h4⟩:=h;exact⟨h1,hd,mb,qs,h2.mono hg,h3,h4⟩
def VX.mono{n:Nat}{S:VS}{m mf:Model}{g g':Nat}(h:VX n S m mf g)(hg:g<=g'):VX n S m mf g':=
 ⟨h.dX,h.ok,h.len,by have:=h.seq;omega,λa b c=>(h.fI a b c).imp (λx=>x.mono hg) (λx=>x.mono hg)⟩
def VW.ok{n:Nat}{S:VS}{m:Model}{g:Nat}(h:VW n S m g)(hg:g<256):LO S:=by
 obtain⟨h1,hd,mb,qs,h2,h3,h4⟩:=h;have:=h2.aD;exact⟨h2.jg.ok,by rw[h2.jg.Ha];decide,h2.jg.uT,by omega⟩
def Al{n:Nat}{S:VS}{m:Model}{g:Nat}(h:VW n S m g)(mB:12<=n)(bS:n<=4096)(hg:g+2<256)(lQ:Good (bo m))(sQ:Md.Ground m):
 ((fk n m S).2=0/\VW n (fk n m S).1 m (g+2)/\(fk n m S).1.aD=S.aD+1/\(fk n m S).1.J.seq=S.J.seq/\(fk n m S).1.J.at'=S.J.lo/\(fk n m S).1.J.lo=S.J.lo/\(fk n m S).1.J.hi=S.J.hi)\/
 ((fk n m S).2=3/\(fk n m S).1=S)\/
 ((fk n m S).2=8/\VX n (fk n m S).1 m m (g+2)/\(fk n m S).1.aD=S.aD/\(fk n m S).1.J.seq=S.J.seq):=by
 have hgl:=sq lQ;have rP:=lQ.lH;have rN:=lQ.many;have hlen:(bl (bo m)).length<=425984:=by omega
 obtain⟨h1,hd,mb,qs,h2,h3,h4⟩:=h;have Zx:=h2.aD;have xx:=h2.lo;have vY:=h2.hi;have Cl:=h2.HA;have Pp:2+2* bF n<n:=by unfold bF;omega
 unfold fk;rw[if_neg (by rw[h1];decide),h4,h2.jg.len];by_cases zw:dA (bl (bo m)).length<=bF n
 rotate_left
 ·rw[if_pos zw]
  right;left
  exact⟨rfl,rfl⟩
 rw[if_neg (λhh=>hh zw)];obtain⟨p1,p2⟩:=h2.put (m:=m) mB bS hg zw;obtain⟨x,hx,Xg,SJ⟩:=h2.jg.tZ (by omega);have Bm:=lC mB (hd.aD+1);have lH:∀{a t:Nat} {k:Int} {s:BA} {D:ay},D.Ok->D.later=[]->dA s.size<900000->(cA D a t k s).1.later.length<1000000:=λ{a t k s D} ho hl hc=>by
  have:=HT (at':=(a:Int)) (to:=(t:Int)) (number:=k) (s:=s) ho (by rw[hl,aen];omega);rw[hl,aen] at this;omega
 have JP:dA (bs (bl (bo m))).size<900000:=by rw[bw];have:=Bm.2.1;omega
 by_cases z1:(put S.D n (hd.aD+1) (cE S.D n+1) (bs (bl (bo m)))).2=0
 rotate_left
 ·have z8:(put S.D n (hd.aD+1) (cE S.D n+1) (bs (bl (bo m)))).2=8:=by rcases p1 with p1|p1;exact absurd p1 z1;exact p1
  rw[if_pos z1]
  right;right
  have c0:=p2 _ (.inl ⟨0,0,0,rfl⟩);have L6:(put S.D n (hd.aD+1) (cE S.D n+1) (bs (bl (bo m)))).1.safe.length=n:=by rw[<-rW _ 0 0 0];exact c0.1.jg.len
  have Uu:(put S.D n (hd.aD+1) (cE S.D n+1) (bs (bl (bo m)))).1.Ok:=by rw[vE];exact FV h2.jg.ok (by rw[h2.jg.Ha,aen];omega)
  have sP:=h2.jg.uT;refine⟨z8,⟨rfl,⟨Uu,by rw[vE];exact lH h2.jg.ok h2.jg.Ha JP,⟨sP.lo,sP.DA,sP.Mi,by rw[L6];have:=sP.hi;rw[h2.jg.len] at this;exact this,sP.seq⟩,by show 0<=hd.aD/\hd.aD<_;omega⟩,L6,by show S.J.seq<=_;omega,λa b c=>?_⟩,rfl,rfl⟩
  left
  obtain⟨c1,c2⟩:=p2 _ (.inl ⟨a,b,c,rfl⟩);exact⟨S.J,hd,mb,qs,c1.mono (by omega),h3⟩
 ·rw[if_neg (λhh=>hh z1)];obtain⟨c1,c2⟩:=p2 _ (.inr ⟨z1,rfl⟩);have c2:=c2 z1;generalize hD1:(put S.D n (hd.aD+1) (cE S.D n+1) (bs (bl (bo m)))).1=D1 at c1 c2⊢;have Ef:cE D1 n<=((x+1:Nat):Int):=by
   have hA:Zi (put S.D n (hd.aD+1) (cE S.D n+1) (bs (bl (bo m)))) D1:=.inr ⟨z1,hD1.symm⟩;rw[vE,show cE S.D n+1=((x+1:Nat):Int) by omega] at hA;obtain⟨_,_,_,k4,_⟩:=Zt (n:=n) (a:=cD n (hd.aD+1)) (t:=cD n (hd.aD+1)+bF n) (m:=x+1) (g:=x) h2.jg.ok h2.jg.Ha h2.jg.len SJ.ends bS (by omega) (by omega) (by rw[bw];omega) (by omega) hA;exact uG (by omega) n k4
  have e2:cE S.D n+2=((x+1+1:Nat):Int):=by omega
  rw[e2];obtain⟨q1,q2⟩:=c1.Y5 (m:=m) (number:=cE S.D n+1) mB bS (x+1) Ef (by omega) (by omega) (by omega) zw hlen lQ sQ c2;have ZO:jU ⟨hd.aD+1,cE S.D n+1,((bl (bo m)).length:Int),S.J.seq⟩:=by have:=h2.jg.uT.seq;unfold jU;dsimp only;omega
  obtain⟨b,hb,tY,ec⟩:=JW (D:=D1) (number:=((x+1+1:Nat):Int)) ZO;by_cases z2:(px D1 ((x+1+1:Nat):Int) ⟨hd.aD+1,cE S.D n+1,((bl (bo m)).length:Int),S.J.seq⟩).2=0
  ·rw[if_neg (λhh=>hh z2)]
   left
   rcases q2 _ (.inr ⟨z2,rfl⟩) with hv|⟨h8,_⟩
   ·exact⟨rfl,⟨h1,_,m,[],hv.mono (by omega),rfl,rfl⟩,rfl,rfl,rfl,rfl,rfl⟩
   ·rw[z2] at h8;exact absurd h8 (by decide)
  ·have z8:(px D1 ((x+1+1:Nat):Int) ⟨hd.aD+1,cE S.D n+1,((bl (bo m)).length:Int),S.J.seq⟩).2=8:=by rcases q1 with q1|q1;exact absurd q1 z2;exact q1
   rw[if_pos z2]
   right;right
   have L6:(px D1 ((x+1+1:Nat):Int) ⟨hd.aD+1,cE S.D n+1,((bl (bo m)).length:Int),S.J.seq⟩).1.safe.length=n:=by
    rw[<-rW _ 0 0 0];rcases q2 _ (.inl ⟨0,0,0,rfl⟩) with hv|⟨_,hv⟩
    ·exact hv.jg.len
    ·exact hv.jg.len
   have Uu:(px D1 ((x+1+1:Nat):Int) ⟨hd.aD+1,cE S.D n+1,((bl (bo m)).length:Int),S.J.seq⟩).1.Ok:=by rw[ec];exact FV c1.jg.ok (by rw[c1.jg.Ha,aen,BB];omega)
   have sP:=h2.jg.uT;refine⟨z8,⟨rfl,⟨Uu,by rw[ec];exact lH c1.jg.ok c1.jg.Ha (by rw[BB];omega),⟨sP.lo,sP.DA,sP.Mi,by rw[L6];have:=sP.hi;rw[h2.jg.len] at this;exact this,sP.seq⟩,by show 0<=hd.aD/\hd.aD<_;omega⟩,L6,by show S.J.seq<=_;omega,λa b' c=>?_⟩,rfl,rfl⟩
   left
   rcases q2 _ (.inl ⟨a,b',c,rfl⟩) with hv|⟨_,hv⟩
   ·exact⟨_,_,m,[],hv.mono (by omega),rfl⟩
   ·exact⟨S.J,hd,mb,qs,hv.mono (by omega),h3⟩
def My{n:Nat}{S:VS}{m:Model}{g:Nat}{q:iw}(h:VW n S m g)(mB:12<=n)(bS:n<=4096)(hg:g+1<256)(hq:DD q):
 ((kX S (bs (bZ q))).2=0/\VW n (kX S (bs (bZ q))).1 (aH m q).2.2 (g+1)/\(kX S (bs (bZ q))).1.aD=S.aD/\(kX S (bs (bZ q))).1.J.seq=S.J.seq+1)\/
 ((kX S (bs (bZ q))).2=6/\(kX S (bs (bZ q))).1=S/\ ¬room S.J (bs (bZ q)).size)\/
 ((kX S (bs (bZ q))).2=8/\VX n (kX S (bs (bZ q))).1 m (aH m q).2.2 (g+1)/\(kX S (bs (bZ q))).1.aD=S.aD/\(kX S (bs (bZ q))).1.J.seq=S.J.seq):=by
 obtain⟨h1,hd,mb,qs,h2,h3,h4⟩:=h;have Zx:=h2.aD;have xx:=h2.lo;have vY:=h2.hi;have Cl:=h2.HA;have Wd:=(sS S.D n).1;obtain⟨x,hx,Xg,SJ⟩:=h2.jg.tZ (by omega);unfold kX;rw[h2.jg.len];by_cases hr:room S.J (bs (bZ q)).size
 ·obtain⟨a1,a2,a3⟩:=h2.add mB bS hq hr hg;have NJ:uS mb (qs++[q])=(aH m q).2.2:=by rw[CO,h3]
  rcases a3 with⟨z,hv⟩|⟨z,hv⟩
  ·have e:py S.D S.J (cE S.D n+1) (bs (bZ q))=((cA S.D S.J.at' S.J.hi (cE S.D n+1) (bs (bG (S.J.seq+1) (bs (bZ q))))).1,S.J.more (bs (bZ q)),0):=by
    rw[a1];unfold Sep.yp;rw[if_neg (λhh=>hh z)];rfl
   rw[e]
   left
   exact⟨rfl,⟨by show(S.dX||_)=false;rw[h1];rfl,hd,mb,qs++[q],hv,NJ,h4⟩,rfl,rfl⟩
  ·have e:py S.D S.J (cE S.D n+1) (bs (bZ q))=((cA S.D S.J.at' S.J.hi (cE S.D n+1) (bs (bG (S.J.seq+1) (bs (bZ q))))).1,{S.J with dX:=true},8):=by
    rw[a1];unfold Sep.yp;rw[if_pos (by rw[z];decide),z]
   rw[e]
   right;right
   have L6:(cA S.D S.J.at' S.J.hi (cE S.D n+1) (bs (bG (S.J.seq+1) (bs (bZ q))))).1.safe.length=n:=by
    rw[<-rW _ 0 0 0];rcases hv 0 0 0 with hh|hh
    ·exact hh.jg.len
    ·exact hh.jg.len
   have sP:=h2.jg.uT;have wW:=oz (S.J.seq+1) (bs (bZ q));have Wi:dA (12+(bs (bZ q)).size)<=4096:=by have:=hr.2.2;rw[adT] at this;have:=sP.lo;have:=sP.DA;omega
   have rP:=HT (at':=S.J.at') (to:=S.J.hi) (number:=cE S.D n+1) (s:=bs (bG (S.J.seq+1) (bs (bZ q)))) h2.jg.ok (by rw[h2.jg.Ha,aen,wW];omega);rw[h2.jg.Ha,aen,wW] at rP;refine⟨rfl,⟨by show(S.dX||_)=true;rw[h1];rfl,⟨a2,by show(cA S.D S.J.at' S.J.hi (cE S.D n+1) (bs (bG (S.J.seq+1) (bs (bZ q))))).1.later.length<1000000;omega,⟨sP.lo,sP.DA,sP.Mi,by rw[L6];have:=sP.hi;rw[h2.jg.len] at this;exact this,sP.seq⟩,by show 0<=S.aD/\S.aD<_;omega⟩,L6,by show S.J.seq<=_;omega,λa b c=>?_⟩,rfl,rfl⟩;rcases hv a b c with hh|hh
   ·exact .inl ⟨_,hd,mb,qs,hh,h3⟩
   ·exact .inr ⟨_,hd,mb,qs++[q],hh,NJ⟩
 ·have e:py S.D S.J (cE S.D n+1) (bs (bZ q))=(S.D,S.J,6):=by
   unfold py;rw[if_neg (by rw[h2.dX];decide),if_neg (by omega),if_pos (.inl hr)]
  rw[e]
  right;left
  refine⟨rfl,?_,hr⟩;have:(S.dX||(6:Int)==8)=S.dX:=by cases S.dX<;>rfl
  dsimp only;rw[this]
def Mv{n:Nat}{S:VS}{m:Model}{g:Nat}{q:iw}(h:VW n S m g)(mB:12<=n)(bS:n<=4096)(hg:g+3<256)(lQ:Good (bo m))(sQ:Md.Ground m)(hw:fS q=true)(he:dH q=true)(hA:∀a∈q.ag,vf a)(hT:∀t∈q.aT,uX t):
 ((uZ n m S q).2=((aH m q).2.2,(aH m q).1,(aH m q).2.1)/\VW n (uZ n m S q).1 (aH m q).2.2 (g+3)/\(uZ n m S q).1.J.seq=S.J.seq+1)\/
 (∃e,(e=3\/e=6)/\(uZ n m S q).2=(m,e,[])/\VW n (uZ n m S q).1 m (g+3)/\(uZ n m S q).1.J.seq=S.J.seq)\/
 ((uZ n m S q).2=(m,8,[])/\VX n (uZ n m S q).1 m (aH m q).2.2 (g+3)/\(uZ n m S q).1.J.seq=S.J.seq):=by
 have Eb:DD q:=⟨hw,he,hA,hT⟩;unfold uZ;rw[if_neg (by rw[hw];decide),if_neg (by rw[h.dX];decide)];have main:∀(S1:VS)(g1:Nat),VW n S1 m g1->g1+1<=g+3->S1.J.seq=S.J.seq->fE n m S (bs (bZ q))=kX S1 (bs (bZ q))->
                                          ((if(fE n m S (bs (bZ q))).2≠0 then((fE n m S (bs (bZ q))).1,m,(fE n m S (bs (bZ q))).2,[]) else((fE n m S (bs (bZ q))).1,(aH m q).2.2,(aH m q).1,(aH m q).2.1):VS×Model×Int×List Int)).2=((aH m q).2.2,(aH m q).1,(aH m q).2.1)/\VW n (if(fE n m S (bs (bZ q))).2≠0 then((fE n m S (bs (bZ q))).1,m,(fE n m S (bs (bZ q))).2,[]) else((fE n m S (bs (bZ q))).1,(aH m q).2.2,(aH m q).1,(aH m q).2.1):VS×Model×Int×List Int).1 (aH m q).2.2 (g+3)/\((if(fE n m S (bs (bZ q))).2≠0 then((fE n m S (bs (bZ q))).1,m,(fE n m S (bs (bZ q))).2,[]) else((fE n m S (bs (bZ q))).1,(aH m q).2.2,(aH m q).1,(aH m q).2.1):VS×Model×Int×List Int)).1.J.seq=S.J.seq+1\/
                                          (∃e,(e=3\/e=6)/\((if(fE n m S (bs (bZ q))).2≠0 then((fE n m S (bs (bZ q))).1,m,(fE n m S (bs (bZ q))).2,[]) else((fE n m S (bs (bZ q))).1,(aH m q).2.2,(aH m q).1,(aH m q).2.1):VS×Model×Int×List Int)).2=(m,e,[])/\VW n (if(fE n m S (bs (bZ q))).2≠0 then((fE n m S (bs (bZ q))).1,m,(fE n m S (bs (bZ q))).2,[]) else((fE n m S (bs (bZ q))).1,(aH m q).2.2,(aH m q).1,(aH m q).2.1):VS×Model×Int×List Int).1 m (g+3)/\((if(fE n m S (bs (bZ q))).2≠0 then((fE n m S (bs (bZ q))).1,m,(fE n m S (bs (bZ q))).2,[]) else((fE n m S (bs (bZ q))).1,(aH m q).2.2,(aH m q).1,(aH m q).2.1):VS×Model×Int×List Int)).1.J.seq=S.J.seq)\/
                                          (((if(fE n m S (bs (bZ q))).2≠0 then((fE n m S (bs (bZ q))).1,m,(fE n m S (bs (bZ q))).2,[]) else((fE n m S (bs (bZ q))).1,(aH m q).2.2,(aH m q).1,(aH m q).2.1):VS×Model×Int×List Int)).2=(m,8,[])/\VX n (if(fE n m S (bs (bZ q))).2≠0 then((fE n m S (bs (bZ q))).1,m,(fE n m S (bs (bZ q))).2,[]) else((fE n m S (bs (bZ q))).1,(aH m q).2.2,(aH m q).1,(aH m q).2.1):VS×Model×Int×List Int).1 m (aH m q).2.2 (g+3)/\((if(fE n m S (bs (bZ q))).2≠0 then((fE n m S (bs (bZ q))).1,m,(fE n m S (bs (bZ q))).2,[]) else((fE n m S (bs (bZ q))).1,(aH m q).2.2,(aH m q).1,(aH m q).2.1):VS×Model×Int×List Int)).1.J.seq=S.J.seq):=λS1 g1 Ue Hj ET Xj=>by
  rw[Xj];rcases My (q:=q) Ue mB bS (by omega) Eb with⟨z,a,b,c⟩|⟨z,a,b⟩|⟨z,a,b,c⟩
  ·left
   rw[if_neg (λhh=>hh z)];exact⟨rfl,a.mono Hj,by rw[<-ET];exact c⟩
  ·right;left
   rw[if_pos (by rw[z];decide),z,a];exact⟨6,.inr rfl,rfl,Ue.mono (by omega),ET⟩
  ·right;right
   rw[if_pos (by rw[z];decide),z];exact⟨rfl,a.mono Hj,by rw[<-ET];exact c⟩
 by_cases hr:room S.J (bs (bZ q)).size
 ·exact main S g h (by omega) rfl (by unfold fE;rw[if_pos hr])
 ·rcases Al h mB bS (by omega) lQ sQ with⟨z,a,b,c,_⟩|⟨z,a⟩|⟨z,a,b,c⟩
  ·exact main (fk n m S).1 (g+2) a (by omega) c (by unfold fE;rw[if_neg hr,if_neg (λhh=>hh z)])
  ·have Xj:fE n m S (bs (bZ q))=fk n m S:=by unfold fE;rw[if_neg hr,if_pos (by rw[z];decide)]
   rw[Xj,if_pos (by rw[z];decide)]
   right;left
   exact⟨3,.inl rfl,by rw[z],by rw[a];exact h.mono (by omega),by rw[a]⟩
  ·have Xj:fE n m S (bs (bZ q))=fk n m S:=by unfold fE;rw[if_neg hr,if_pos (by rw[z];decide)]
   rw[Xj,if_pos (by rw[z];decide)]
   right;right
   refine⟨by rw[z],⟨a.dX,a.ok,a.len,by show(fk n m S).1.J.seq<=_;have:=a.seq;omega,λx y w=>?_⟩,c⟩
   left
   rcases a.fI x y w with hh|hh
   ·exact hh.mono (by omega)
   ·exact hh.mono (by omega)
structure IG where
 kind:Int
 q:iw
 s:r9
 mask:Int
 torn:Int
 cut:Int
 n:Int
def vt(x:IG):LV:=.i x.kind::(dF x.q x.s++[.u x.mask,.i x.torn,.i x.cut,.i x.n])
def Fj(x:IG):(vt x).length=18:=rfl
instance{x:IG}:Ln (vt x) 18:=⟨rfl⟩
instance{x:IG}:Gt (vt x) 0 (.i x.kind):=⟨rfl⟩
instance{x:IG}:Gt (vt x) 2 (.l x.s.sa x.q.ag.length x.s.ca):=⟨rfl⟩
instance{x:IG}:Gt (vt x) 3 (.l x.s.st x.q.aT.length x.s.ct):=⟨rfl⟩
instance{x:IG}:Gt (vt x) 5 (.l x.s.si x.q.ids.length x.s.ci):=⟨rfl⟩
def MV(x:IG):∀v∈vt x,v.oneCell'=true:=λv hv=>by
 rcases ae'.1 hv with h|h
 ·subst h;rfl
 ·rcases aew.1 h with h|h
  ·exact tM _ _ v h
  ·simp at h;rcases h with rfl|rfl|rfl|rfl<;>rfl
section
variable {x1 x2 x3 x4 x5 x6 x7 x8 x9 zF zE zD zC Cw G7 G6 PG PF:Value} {x:IG}
instance:Wr [x1,x2,x3,x4,x5,x6,x7,x8,x9,zF,zE,zD,zC,Cw,G7,G6,PG,PF] 0 (vt x) (vt x):=⟨rfl,adY _,MV x⟩
instance:Sub (vt x) 1 13 (dF x.q x.s):=⟨rfl,λj v h=>by
 show(_::(dF x.q x.s++_))[1+j]?=some v
 rw[Nat.add_comm 1 j,ad9,aef (adU.1 h).1];exact h⟩
end
def St.nil{W w:World}{L:LH}(h:St W w L):St W w []:=by
 induction L with
 |nil=>exact h
 |cons A L ih=>exact ih h.drop
instance(priority:=low) Has.nil{L:LH}:Has [] L:=⟨λh=>St.nil h⟩
def xt(m m2:Model):Prop:=(bo m).ag=(bo m2).ag/\m.kept=m2.kept/\m.clock=m2.clock/\m.ae=m2.ae
instance(m m2:Model):Decidable (xt m m2):=by unfold xt;infer_instance
def xt.refl(m:Model):xt m m:=⟨rfl,rfl,rfl,rfl⟩
def I7:∀{l:List Nat} {x:Nat},x∈l->x<=l.sum
 |[],x,h=>by cases h
 |y::l,x,h=>by
  rw[List.sum_cons];rcases ae'.1 h with h|h
  ·subst h;omega
  ·have:=I7 h;omega
structure G1(W:World)(x:IG):Prop where
 req:lu W [] x.q x.s
 ag:∀a∈x.q.ag,vf a
 aT:∀t∈x.q.aT,uX t
 la:x.q.ag.length<=140737488355328
 lt:x.q.aT.length<=140737488355328
section
variable {W:World} {L R M:LH} {K:VK} {X:WK} {q:iw} {s:r9} {p v d n pb pj:Nat} {m m2:Model} {mb kb:OA} {mc kc:Nat} {S:VS} {D:ay} {J:PJ} {hd:dw} {qs:List iw} {g:Nat} {f:ay->LH}
def wi(G:pn W)(mB:12<=n)(bS:n<=4096)(hv:VG n D J hd m qs g)(hg:g<256)
 (h:∀v pb pj,Md.Ground (uS m qs)->T W (VL v d n pb pj (uS m qs) ⟨D,J,hd.aD,false⟩ R) (K (.tuple ⟨[.p (some ⟨v,0,none⟩),.i 0]⟩))):
 T W (dW d D::R) (eL (some ⟨d,0,none⟩) K):=by
 have ho:=hv.jg.opened;have xx:=hv.lo;have vY:=hv.hi;rw[xx,vY] at ho;have Cl:=hv.HA;have hq0:=hv.jg.q0;have Q2:=hv.jg.seq;refine PM G hv.jg.ok mB bS hv.jg.len (hv.cg.base hv.jg.len mB bS) hv.vL hv.ground ⟨hq0,by omega⟩ (qs:=qs) (by rw[ho]) hv.kZ λv pb pj qM=>?_;rw[ho];have e:(⟨((2+2* bF n:Nat):Int),(n:Int),J.at',J.seq,false⟩:PJ)=J:=by
  cases J with
  |mk lo hi at' seq dX=>
   have h1:=hv.dX;dsimp only at xx vY h1;subst xx vY h1
   rfl
 dsimp only;rw[e];exact h v pb pj qM
def P8(hm:RM m)(qM:Md.Ground m)(h:T W (VL v d n pb pj m2 S (ML p m mb mc kb kc R)) (K (.bool (decide (xt m m2))))):T W (VL v d n pb pj m2 S (ML p m mb mc kb kc R)) (cQ (some ⟨v,0,none⟩) (some ⟨p,0,none⟩) K):=by
 unfold cQ;refine E5 λp3=>?_;refine vk ?_;refine vV (p:=p3) λab ac=>?_;refine tD ?_;refine EM (p:=p3) λxb xc=>?_;refine tD ?_;refine ES (p:=p3) ?_;refine lG ?_;refine J8 (p:=p3) ?_;refine lG ?_;refine T.perm (L:=ML p m mb mc kb kc (own xb (bo m2).kept.length xc 33 ((bo m2).kept.flatMap aJ)::own ab (bo m2).ag.length ac 14 ((bo m2).ag.flatMap ak)::bh p3 (bo m2,[])::VL v d n pb pj m2 S R)) ?_ (ad1 (l₁:=[_,_,_,_,_,_,_]) (l₂:=[_,_,_])|>.append_right R);refine Qi hm ?_;refine qC ?_;have e:decide (m.made.map m.full=(bo m2).ag/\m.kept=(bo m2).kept/\m.clock=(bo m2).clock/\m.ae=(bo m2).ae)=decide (xt m m2):=by
  have e1:m.made.map m.full=(bo m).ag:=ae9 λa ha=>qM.full ha;rw[e1,decide_eq_decide];exact Iff.rfl
 rw[e];refine T.perm (L:=own xb (bo m2).kept.length xc 33 ((bo m2).kept.flatMap aJ)::own ab (bo m2).ag.length ac 14 ((bo m2).ag.flatMap ak)::bh p3 (bo m2,[])::VL v d n pb pj m2 S (ML p m mb mc kb kc R)) ?_ (ad1 (l₁:=[_,_,_]) (l₂:=[_,_,_,_,_,_,_])|>.append_right R);exact T.drop (T.drop (T.drop h))
def M6(hg:Good (bo m))(qM:Md.Ground m)(h:T W (VL v d n pb pj m2 S (ML p m mb mc kb kc R)) (K (.bool (decide (xt m m2))))):T W (VL v d n pb pj m2 S (ML p m mb mc kb kc R)) (cQ (some ⟨v,0,none⟩) (some ⟨p,0,none⟩) K):=
 P8 (RM.Jq hg qM) qM h
def Li{sb:OA}{sc:Nat}{l:List IG}(hr:nQ W [] vt 18 sb l)(hl:l.length<=maxLen)(Bm:∀x∈l,G1 W x)
 (h:∀b:Bool,(b=false->l.length<=60/\∀x∈l,x.q.ag.length+x.q.aT.length<=150/\x.q.ids.length<=100)->T W L (K (.bool b))):T W L (eQ sb l.length sc K):=by
 unfold maxLen at hl;unfold eQ;intro w ju;refine⟨λvv w=>∃(i:Nat)(n:Int),i<=l.length/\(∀x∈l.take i,x.q.ids.length<=100)/\(l.length<=60->n=(((l.take i).map λx=>x.q.ag.length+x.q.aT.length).sum:Nat))/\vv=[.bool false,.i n,.l sb l.length sc,.i (l.length:Int),.i (i:Int)]/\St W w L,
  λvs _=>match vs with|[_,_,_,_,.int _ d]=>l.length-d.toNat|_=>0,⟨0,0,ad2 _,(λx hx=>by cases hx),(λ_=>rfl),rfl,ju⟩,?_⟩
 rintro b1 n1 uR qe uQ n2 n3 w2 ⟨i,nn,hi,K9,Ug,e,fh⟩;cases e
 refine T.at ?_ fh;have hbound:∀j,j<=l.length->l.length<=60->((l.take j).map λx=>x.q.ag.length+x.q.aT.length).sum<=j* 281474976710656:=λj=>by
  induction j with
  |zero=>intro _ _;simp
  |succ j ih=>
   intro hj SW;have:=ih (by omega) SW;have gx:=adS (show j<l.length by omega);have hx:=Bm _ (aeg (show j<l.length by omega));rw[aeb,gx,aep,List.sum_append];have h1:=hx.la;have h2:=hx.lt;simp only[Option.toList_some,aet,afs,List.sum_cons,List.sum_nil];omega
 refine dP (λg1=>?_) (λg1=>?_)
 ·have aZ:i<l.length:=by omega
  have e5:=lY i;have gx:=adS aZ;have hx:=Bm _ (aeg aZ);have oy:l.take (i+1)=l.take i++[l[i]]:=by rw[aeb,gx];rfl
  generalize l[i]=x at gx hx oy;have zv:=hx.la;have rO:=hx.lt;refine jY hr ⟨by omega,by omega⟩ rfl λa ha=>?_;rw[adT];refine jX hr ha gx (Fj x) ?_;apply ws;intros;refine dP (λg2=>?_) (λg2=>?_)
  ·exact T.drop (h true (λhh=>by cases hh))
  ·rw[e5];refine T.drop λw3 h3=>⟨⟨i+1,_,aZ,λy hy=>?_,λSW=>?_,rfl,h3⟩,by show l.length-((i+1:Nat):Int).toNat<l.length-(i:Int).toNat;omega⟩
   ·rw[oy] at hy;rcases aew.1 hy with hy|hy
    ·exact K9 y hy
    ·cases(show y=x by simpa using hy);omega
   ·have hb:=hbound i (by omega) SW;rw[Ug SW,oy,aep,List.sum_append];simp only[aet,afs,List.sum_cons,List.sum_nil];rw[aw (n:=(x.q.ag.length:Int)+(x.q.aT.length:Int)) (by omega),aw (by omega)];omega
 ·have gr:i=l.length:=by omega
  subst gr;rw[ad5] at K9 Ug;refine dP (λg2=>?_) (λg2=>?_)
  ·exact h true (λhh=>by cases hh)
  ·have SW:l.length<=60:=by omega
   have hs:=Ug SW;refine h _ (λhh=>⟨SW,λx hx=>⟨?_,K9 x hx⟩⟩);have hh:=of_decide_eq_false hh;have:x.q.ag.length+x.q.aT.length<=(l.map λx=>x.q.ag.length+x.q.aT.length).sum:=I7 (List.mem_map_of_mem hx);omega
end
def vO(n:Nat)(m:Model)(S:VS)(q:iw):VS×Model×Int×List Int×List aP×List Move:=
 if dH q=true then((uZ n m S q).1,(uZ n m S q).2.1,(uZ n m S q).2.2.1,(uZ n m S q).2.2.2,[],[])
 else(S,m,(ask m q).1,[],(ask m q).2.1,(ask m q).2.2)
inductive Out(m:Model)(q:iw):Int->List Int->List aP->List Move->Model->Prop where
 |ask (h:dH q=false):Out m q (ask m q).1 [] (ask m q).2.1 (ask m q).2.2 m
 |bad (h:dH q=true) (h2:fS q=false):Out m q 1 [] [] [] m
 |done (h:dH q=true) (h2:fS q=true) (h3:(aH m q).1=0):Out m q 0 (aH m q).2.1 [] [] (aH m q).2.2
 |not (h:dH q=true) (h2:fS q=true) (e:Int) (h3:e=8\/e=9\/e=6\/e=3):Out m q e [] [] [] m
def y5{m:Model}{q:iw}(hw:fS q=true)(he:dH q=true):(aH m q).1=0:=by
 have h2:jt q=true:=by
  have Us:q.op=1\/q.op=2\/q.op=3:=of_decide_eq_true he;have ha:kN q=false:=by
   unfold kN;rw[if_neg (by omega),if_neg (by omega)]
  unfold fS at hw;rw[ha,Bool.or_false,aeL] at hw;exact hw.1
 unfold aH;rw[if_neg (by rw[h2];decide)];split
 ·rfl
 ·split<;>rfl
def RN{m:Model}{q:iw}(hg:Good (bo m))(hi:q.ids.length<=16\/kN q=false\/q.op=6):(ask m q).2.1.length<=10000/\(ask m q).2.2.length<=10000:=by
 unfold ask;split
 ·simp
 ·rename_i gU;have ZQ:q.op=4\/q.op=5->q.ids.length<=16:=λho=>by
   have zY:kN q=true:=by simpa using gU
   unfold kN at zY;rw[if_pos ho,aeL,decide_eq_true_eq,decide_eq_true_eq] at zY;exact zY.2
  split
  ·rename_i h4;have:=ZQ (.inl h4);have h2:=List.length_filterMap_le (bo m).find q.ids;dsimp only;exact⟨by omega,by simp⟩
  ·split
   ·rename_i h5;have:=ZQ (.inr h5);have h2:=List.length_filterMap_le (λid=>((bo m).named id).map (·.move)) q.ids;dsimp only;exact⟨by simp,by omega⟩
   ·rw[<-FL hg];dsimp only;refine⟨by simp,?_⟩;unfold Np;rw[aei,adX];have h3:((if q.mJ=true then(bo m).kept.reverse else(bo m).kept).filter λk=>wS q.fP q.rR k.move.ae&&fits q k).length<=(if q.mJ=true then(bo m).kept.reverse else(bo m).kept).length:=List.length_filter_le _ _;have h4:(if q.mJ=true then(bo m).kept.reverse else(bo m).kept).length=(bo m).kept.length:=by split<;>simp
    have:=hg.many;omega
def lu.any{W:World}{R:LH}{q:iw}{s:r9}(h:lu W [] q s):lu W R q s:=⟨h.ag.mono,h.aT.mono,h.ids.mono,h.ca,h.ct,h.ci⟩
section
variable {W:World} {L R M:LH} {K:VK} {X:WK} {q:iw} {s:r9} {p p2 v d n pb pj:Nat} {m m2 m3:Model} {mb kb nu gS:OA} {mc kc nt gR:Nat} {S S2:VS} {D:ay} {J:PJ} {g:Nat}
def Sd(G:pn W)(hg:Md.Ground m)(hS:LO S)(X7:LO (fk n m S).1)(mB:12<=n)(bS:n<=4096)(hq:lu W [] q s)(hA:∀a∈q.ag,vf a)(hT:∀t∈q.aT,uX t)(zv:q.ag.length<1000000)(aZ:q.aT.length<1000000)
 (h:∀rb rc ab ac tb tc,Md.Ground (vO n m S q).2.1->T W (own rb (vO n m S q).2.2.2.1.length rc 1 ((vO n m S q).2.2.2.1.flatMap I1)::own ab (vO n m S q).2.2.2.2.1.length ac 14 ((vO n m S q).2.2.2.2.1.flatMap ak)::own tb (vO n m S q).2.2.2.2.2.length tc 16 ((vO n m S q).2.2.2.2.2.flatMap ai)::VL v d n pb pj (vO n m S q).2.1 (vO n m S q).1 R)
  (K (.agg ⟨oZ (vO n m S q).2.2.1 rb (vO n m S q).2.2.2.1.length rc ab (vO n m S q).2.2.2.2.1.length ac tb (vO n m S q).2.2.2.2.2.length tc⟩))):
 T W (VL v d n pb pj m S R) (dJ (some ⟨v,0,none⟩) (dF q s) K):=by
 unfold vO at h;cases he:dH q with
 |true=>
  rw[if_pos he] at h;refine Tr G hg hS X7 mB bS hq.any hA hT zv aZ he λrb rc qM=>?_;refine eW (e:=14) ?_;refine eW (e:=16) ?_;refine T.perm (h rb rc none 0 none 0 qM) ?_;exact(ad1 (l₁:=[own none 0 0 16 [],own none 0 0 14 []]) (l₂:=[_])|>.append_right _).trans (aej.cons _ (aej.swap _ _ _))
 |false=>
  rw[if_neg (by rw[he];decide)] at h;refine Ts hq.any he λab ac tb tc=>?_;refine eW (e:=1) ?_;exact h none 0 ab ac tb tc hg
def PQ{e:Int}{rb ab tb:OA}{rc ac tc:Nat}{res:List Int}{al:List aP}{tl:List Move}(hg:Good (bo m))(qM:Md.Ground m)(ho:Out m q e res al tl m2)
 (hlr:res.length<=10000)(zv:al.length<=10000)(aZ:tl.length<=10000)
 (hq:lu W [] q s)(Um:q.ag.length<1000000)(ZA:q.aT.length<1000000)(hA:∀a∈q.ag,vf a)(hT:∀t∈q.aT,uX t)
 (h:∀p2 nu nt gS gR R',Bk p m mb mc kb kc (own rb res.length rc 1 (res.flatMap I1)::own ab al.length ac 14 (al.flatMap ak)::own tb tl.length tc 16 (tl.flatMap ai)::R) p2 m2 nu nt gS gR R'->T W (ML p2 m2 nu nt gS gR R') (K (.tuple ⟨[.bool true,.p (some ⟨p2,0,none⟩)]⟩))):
 T W (ML p m mb mc kb kc (own rb res.length rc 1 (res.flatMap I1)::own ab al.length ac 14 (al.flatMap ak)::own tb tl.length tc 16 (tl.flatMap ai)::R)) (av (oZ e rb res.length rc ab al.length ac tb tl.length tc) (some ⟨p,0,none⟩) (dF q s) K):=by
 refine Tu (i1:=⟨⟨0,rfl,λ_=>rfl⟩⟩) (i2:=⟨⟨1,rfl,λ_=>rfl⟩⟩) (i3:=⟨⟨2,rfl,λ_=>rfl⟩⟩) hg qM hlr zv aZ hq.any Um ZA hA hT (λh1=>?_) (λh1 h2=>?_) (λh1 h2 h3 p2 nu nt gS gR R' zX Hb=>?_) (λh1 h2 h3=>?_)
 ·cases ho with
  |ask hx=>
   rw[decide_eq_true ⟨rfl,⟨rfl,rfl⟩,rfl⟩];exact h p mb mc kb kc _ (.inl ⟨rfl,rfl,rfl,rfl,rfl,rfl,rfl⟩)
  |bad hx _=>rw[h1] at hx;cases hx
  |done hx _ _=>rw[h1] at hx;cases hx
  |not hx _ _ _=>rw[h1] at hx;cases hx
 ·cases ho with
  |ask hx=>rw[h1] at hx;cases hx
  |bad hx _=>
   rw[decide_eq_true ⟨rfl,rfl⟩];exact h p mb mc kb kc _ (.inl ⟨rfl,rfl,rfl,rfl,rfl,rfl,rfl⟩)
  |done hx hy _=>rw[h2] at hy;cases hy
  |not hx hy _ _=>rw[h2] at hy;cases hy
 ·cases ho with
  |ask hx=>rw[h1] at hx;cases hx
  |bad hx hy=>rw[h2] at hy;cases hy
  |done hx hy hz=>
   rw[decide_eq_true ⟨hz,rfl⟩];exact h p2 nu nt gS gR R' zX
  |not hx hy _ hz=>omega
 ·cases ho with
  |ask hx=>rw[h1] at hx;cases hx
  |bad hx hy=>rw[h2] at hy;cases hy
  |done hx hy hz=>exact absurd rfl h3
  |not hx hy _ hz=>
   rw[decide_eq_true ⟨hz,rfl,rfl,rfl⟩];exact h p mb mc kb kc _ (.inl ⟨rfl,rfl,rfl,rfl,rfl,rfl,rfl⟩)
def T.back{R0 R':LH}(hb:Bk p m mb mc kb kc R0 p2 m2 nu nt gS gR R')(h:T W (ML p2 m2 nu nt gS gR R0) X):T W (ML p2 m2 nu nt gS gR R') X:=by
 rcases hb with⟨rfl,-⟩|rfl
 ·exact h
 ·refine T.sub h ?_;exact nh
def Mr{n:Nat}{S:VS}{m:Model}{g:Nat}(h:VW n S m g)(mB:12<=n)(bS:n<=4096)(hg:g+2<256)(lQ:Good (bo m))(sQ:Md.Ground m):LO (fk n m S).1:=by
 rcases Al h mB bS hg lQ sQ with⟨_,a,_⟩|⟨_,a⟩|⟨_,a,_⟩
 ·exact a.ok (by omega)
 ·rw[a];exact h.ok (by omega)
 ·exact a.ok
def wM(n:Nat):VS:=⟨ay.new n,⟨((2+2* bF n:Nat):Int),n,((2+2* bF n:Nat):Int),0,false⟩,0,false⟩
def Vz{n:Nat}(mB:12<=n)(bS:n<=4096):Rm n 0 (wM n):=by
 have hb:2+2* bF n<=n:=by unfold bF;omega
 refine⟨xn bS,λj hj=>?_,rfl,rfl,afm _,by show((2+2* bF n:Nat):Int)<=(n:Int);omega,⟨afm _,by show(0:Int)<=1000000;decide⟩,rfl,rfl,⟨afm _,afm _⟩⟩;show Sep.Ends 0 ((ay.new n).read (j:Int)).1;rw[tR bS hj];exact vN
def Vx{n:Nat}(mB:12<=n)(bS:n<=4096):VW n (wM n) o0 0:=
 ⟨rfl,Ah,o0,[],ED mB bS,rfl,rfl⟩
def qT:iw:=⟨3,[],[],5,[],0,0,0,false,false,false,0⟩
def sT:r9:=⟨none,0,none,0,none,0⟩
def LN(G:pn W)(h:T W L (K (.bool true))):T W L (cB K):=by
 unfold cB;refine Nk λd=>?_;refine vk ?_;refine wi G (n:=20) (by decide) (by decide) (ED (by decide) (by decide)) (by decide) λv pb pj qM=>?_;refine PU ?_;refine vk ?_;refine lG ?_;refine dV (by decide) ?_;refine cN ⟨rfl,rfl,trivial⟩ ?_;have L2:=Vx (n:=20) (by decide) (by decide);have aau:=Vz (n:=20) (by decide) (by decide);have Xs:dH qT=true:=by decide
 have hqw:fS qT=true:=by decide
 have Lb:aH o0 qT=(0,[],o0.time 5):=rfl;have hlen:(bZ qT).length<=924:=CL hqw Xs;have Uk:(bZ qT).length=9:=by decide
 have Pp:bF 20=7:=by decide
 have yT:room (wM 20).J (bs (bZ qT)).size:=by
  rw[bw,Uk];show room ⟨((2+2* bF 20:Nat):Int),((20:Nat):Int),((2+2* bF 20:Nat):Int),0,false⟩ _;rw[Pp]
  decide
 show T W (VL v d 20 pb pj o0 (wM 20) L) (dJ (some ⟨v,0,none⟩) (dF qT sT) _);have aa2:fE 20 o0 (wM 20) (bs (bZ qT))=kX (wM 20) (bs (bZ qT)):=by
  unfold fE;rw[if_pos yT]
 obtain⟨a1,-⟩:=vh (s:=bs (bZ qT)) aau (by decide) (by decide) (by decide) yT;have EU:vO 20 o0 (wM 20) qT=((uZ 20 o0 (wM 20) qT).1,o0.time 5,0,[],[],[]):=by
  unfold vO uZ;rw[if_pos Xs,if_neg (by rw[hqw];decide),if_neg (by decide),aa2,if_neg (λhh=>hh a1),Lb]
 refine Sd (s:=sT) G qk (L2.ok (by decide)) (Mr L2 (by decide) (by decide) (by decide) wY qk) (by decide) (by decide) ⟨nQ.nil,nQ.nil,nQ.nil,adY _,adY _,adY _⟩ (λa ha=>by cases ha) (λt ht=>by cases ht) (by decide) (by decide) λrb rc ab ac tb tc UE=>?_;rcases Mv (q:=qT) L2 (by decide) (by decide) (by decide) wY qk hqw Xs (λa ha=>by cases ha) (λt ht=>by cases ht) with⟨b1,b2,b3⟩|⟨e,b0,b1,-⟩|⟨b1,-⟩
 rotate_left
 ·have:=congrArg (λx=>x.2.1) b1;have h2:=congrArg (λx=>x.2.2.1) EU;unfold vO at h2;rw[if_pos Xs] at h2;dsimp only at this h2;rw[this] at h2;omega
 ·have:=congrArg (λx=>x.2.1) b1;have h2:=congrArg (λx=>x.2.2.1) EU;unfold vO at h2;rw[if_pos Xs] at h2;dsimp only at this h2;rw[this] at h2;cases h2
 rw[EU];generalize (uZ 20 o0 (wM 20) qT).1=S2 at b2 b3⊢;rw[Lb] at b2;obtain⟨Pk,hd,mb,qs,hvg,NJ,htu⟩:=b2;dsimp only at NJ;refine xC (by rfl) ?_;apply ws;intros;rename_i r1;refine T.perm (L:=dW d S2.D::Sep.pt r1 (oZ 0 rb 0 rc ab 0 ac tb 0 tc)::own rb 0 rc 1 []::own ab 0 ac 14 []::own tb 0 tc 16 []::Sep.pt v (vC d 20 pb pj S2.aD S2.dX)::bh pb (bo (o0.time 5),[])::jP d pj S2.J::L) ?_ (ad1 (l₁:=[_,_,_,_,_,_,_]) (l₂:=[_])|>.append_right L);refine wi G (by decide) (by decide) hvg (by decide) λv2 pb2 pj2 adE=>?_;rw[NJ];apply ws;intros;unfold cB.j1;refine kq (by decide) ?_;refine E5 λp4=>?_;refine vk ?_;refine ES (p:=p4) ?_;refine lG ?_;refine kq (by decide) ?_;refine T.drop ?_;refine Ho ?_;refine lG ?_;have e1:(S2.J.seq==1)=true:=by rw[b3];rfl
 dsimp only;rw[e1];refine T.sub h ?_;exact nh
end
def wA{α σ:Type}(f:σ->α->Int×σ)(lk:α->Bool):∀(n:Nat)(s:σ)(l:List α),(eO f lk n s l).1.length<=l.length
 |0,s,l=>ad2 _
 |n+1,s,[]=>ad2 _
 |n+1,s,x::l=>by
  have hle:=sY (linked:=lk) (x::l);have hd:((x::l).drop (bm lk (x::l)).1).length=(x::l).length-(bm lk (x::l)).1:=ad4;rw[eO];by_cases hw:(bm lk (x::l)).2=false
  ·rw[if_pos hw];dsimp only;rw[jz];exact hle
  rw[if_neg hw];cases fp f s ((x::l).take (bm lk (x::l)).1) 0 with
  |mk o s'=>
   cases o with
   |none=>
    have:=wA f lk n s' ((x::l).drop (bm lk (x::l)).1);dsimp only;rw[adV,jz];omega
   |some e=>
    have:=wA f lk n s ((x::l).drop (bm lk (x::l)).1);dsimp only;rw[adV,jz];omega
def Ii(m:Model)(q:iw):(aH m q).2.1.length<=q.ag.length+q.aT.length:=by
 unfold aH;split
 ·exact ad2 _
 ·split
  ·have:=wA Model.make wQ q.ag.length m q.ag;dsimp only;omega
  ·split
   ·have:=wA Model.nW wP q.aT.length m q.aT;dsimp only;omega
   ·exact ad2 _
def Out.short{m m2:Model}{q:iw}{e:Int}{res:List Int}{al:List aP}{tl:List Move}(h:Out m q e res al tl m2)(hg:Good (bo m))(hl:q.ag.length+q.aT.length<=150)(hi:q.ids.length<=100):res.length<=10000/\al.length<=10000/\tl.length<=10000:=by
 cases h with
 |ask hx=>
  have:q.ids.length<=16\/kN q=false\/q.op=6:=by
   by_cases h1:kN q=false
   ·exact .inr (.inl h1)
   ·by_cases h6:q.op=6
    ·exact .inr (.inr h6)
    ·left
     have zY:kN q=true:=by simpa using h1
     unfold kN at zY;by_cases Mf:q.op=4\/q.op=5
     ·rw[if_pos Mf,aeL,decide_eq_true_eq,decide_eq_true_eq] at zY;exact zY.2
     ·rw[if_neg Mf,if_neg h6] at zY;cases zY
  obtain⟨h1,h2⟩:=RN hg this;exact⟨ad2 _,h1,h2⟩
 |bad _ _=>simp
 |done _ _ _=>
  have:=Ii m q;exact⟨by omega,ad2 _,ad2 _⟩
 |not _ _ _ _=>simp
def Vg{n k:Nat}{m:Model}{S:VS}{q:iw}(h:RI n k S)(hn:600<=n/\n<=4096)(hk:k<180)(hg:Good (bo m)):
 RI n (k+1) (vO n m S q).1/\Out m q (vO n m S q).2.2.1 (vO n m S q).2.2.2.1 (vO n m S q).2.2.2.2.1 (vO n m S q).2.2.2.2.2 (vO n m S q).2.1/\((vO n m S q).2.2.1=0\/(vO n m S q).2.2.1=1):=by
 unfold vO;cases he:dH q with
 |true=>
  rw[if_pos rfl];obtain⟨h1,h2,h3⟩:=Mw (m:=m) (q:=q) h hn hk hg he;cases hw:fS q with
  |false=>
   have e:=h2 hw;refine⟨h1,?_,?_⟩
   ·dsimp only;rw[e];exact .bad he hw
   ·dsimp only;rw[e];exact .inr rfl
  |true=>
   have e:=h3 hw;have ez:=y5 (m:=m) hw he;refine⟨h1,?_,?_⟩
   ·dsimp only;rw[e];dsimp only;rw[ez];exact .done he hw ez
   ·dsimp only;rw[e];exact .inl ez
 |false=>
  rw[if_neg (by decide)];refine⟨h.mono (by omega),.ask he,?_⟩;show(ask m q).1=0\/(ask m q).1=1;unfold ask;split
  ·exact .inr rfl
  ·split
   ·exact .inl rfl
   ·split<;>exact .inl rfl
section
variable {W:World} {L R M:LH} {K:VK} {X:WK} {q:iw} {s:r9} {p p2 v d n pb pj:Nat} {m m2 m3:Model} {mb kb nu gS:OA} {mc kc nt gR:Nat} {S S2:VS} {D:ay} {J:PJ} {g:Nat}
def T.re3{A:HP}(h:T W (VL v d n pb pj m S (A::R)) X):T W (A::VL v d n pb pj m S R) X:=
 T.perm h (ad1 (l₁:=[A]) (l₂:=[_,_,_,_])|>.append_right R)
end
def Vh{n k:Nat}{m:Model}{S:VS}{q:iw}(h:RI n k S)(hv:VW n S m (3* k))(hn:600<=n/\n<=4096)(hk:k<60)(hg:Good (bo m))(qM:Md.Ground m)(hA:∀a∈q.ag,vf a)(hT:∀t∈q.aT,uX t):
 VW n (vO n m S q).1 (vO n m S q).2.1 (3* (k+1)):=by
 unfold vO;cases he:dH q with
 |false=>
  rw[if_neg (by decide)];exact hv.mono (by omega)
 |true=>
  rw[if_pos rfl];dsimp only;cases hw:fS q with
  |false=>
   have e:uZ n m S q=(S,m,1,[]):=by unfold uZ;rw[if_pos hw]
   rw[e];exact hv.mono (by omega)
  |true=>
   obtain⟨-,-,h3⟩:=Mw (m:=m) (q:=q) h hn (by omega) hg he;have e:=congrArg (λx=>x.2.1) (h3 hw);dsimp only at e;rw[y5 hw he] at e;rcases Mv hv (by omega) hn.2 (by omega) hg qM hw he hA hT with⟨a,b,-⟩|⟨x,hx,a,-⟩|⟨a,-⟩
   ·rw[a];exact b.mono (by omega)
   ·rw[a] at e;dsimp only at e;omega
   ·rw[a] at e;dsimp only at e;omega
section
variable {W:World} {L R M:LH} {K:VK} {X:WK} {q:iw} {s:r9} {p p2 v d n pb pj:Nat} {m m2 m3:Model} {mb kb nu gS:OA} {mc kc nt gR:Nat} {S S2:VS} {D:ay} {J:PJ} {g:Nat}
def T.re4{M1 M2 M3 O1 O2 O3 V B J D C:HP}(h:T W (M1::M2::M3::O1::O2::O3::V::B::J::D::C::R) X):T W (O1::O2::O3::V::B::J::D::C::M1::M2::M3::R) X:=
 T.perm h (ad1 (l₁:=[O1,O2,O3,V,B,J,D,C]) (l₂:=[M1,M2,M3])|>.append_right R)
def T.re5{M1 M2 M3 O1 O2 O3 V B J D C:HP}(h:T W (V::B::J::D::M1::M2::M3::R) X):T W (M1::M2::M3::O1::O2::O3::V::B::J::D::C::R) X:=
 T.perm (L:=V::B::J::D::M1::M2::M3::O1::O2::O3::C::R) (T.sub h (by exact nh)) (ad1 (l₁:=[M1,M2,M3,O1,O2,O3]) (l₂:=[V,B,J,D])|>.append_right (C::R))
def Na(G:pn W)(mB:12<=n)(bS:n<=4096)(hv:VW n S m g)(hg:g<256)
 (h:∀v pb pj,T W (VL v d n pb pj m S R) (K (.tuple ⟨[.p (some ⟨v,0,none⟩),.i 0]⟩))):T W (VL v d n pb pj m S R) (eL (some ⟨d,0,none⟩) K):=by
 obtain⟨h1,hd,mb,qs,h2,h3,h4⟩:=hv;refine T.perm (L:=dW d S.D::Sep.pt v (vC d n pb pj S.aD S.dX)::bh pb (bo m,[])::jP d pj S.J::R) ?_ (ad1 (l₁:=[_,_,_]) (l₂:=[_])|>.append_right R);refine wi G mB bS h2 hg λv' pb' pj' _=>?_;have e:(⟨S.D,S.J,hd.aD,false⟩:VS)=S:=by
  cases S with
  |mk D J t k=>dsimp only at h1 h4;rw[h1,h4]
 rw[e,h3];exact T.sub (h v' pb' pj') (by exact nh)
def EC(G:pn W){sb:OA}{sc:Nat}{l:List IG}{ss times:Int}(hr:nQ W [] vt 18 sb l)(hl:l.length<=maxLen)(Bm:∀x∈l,G1 W x)(h:T W L (K (.bool true))):T W L (ao ss sb l.length sc times K):=by
 unfold ao;refine LN G ?_;refine qC ?_;refine xF ?_;refine Li hr hl Bm λb hb=>?_;refine qC ?_;have Zu:T W L (ao.j1 K ss sb l.length sc times true):=by
  unfold ao.j1;exact h
 have j5T:T W L (ao.j5 K ss sb l.length sc times true):=by
  unfold ao.j5;exact Zu
 have j4T:T W L (ao.j4 K ss sb l.length sc times true):=by
  unfold ao.j4;exact j5T
 cases b with
 |true=>exact j4T
 |false=>
 obtain⟨SW,aaw⟩:=hb rfl;refine po ?_;by_cases uU:ss<600
 ·rw[decide_eq_true uU];exact j4T
 rw[decide_eq_false uU];unfold ao.j4;refine po ?_;by_cases fh:ss>700
 ·rw[decide_eq_true fh];exact j5T
 rw[decide_eq_false fh];unfold ao.j5;refine po ?_;refine dP (λg1=>Zu) (λg1=>?_);by_cases V':times>5
 ·rw[decide_eq_true V'];exact Zu
 rw[decide_eq_false V'];clear Zu j4T j5T;obtain⟨n,hn⟩:=ad3 (show 0<=ss by omega);subst hn;have Pq:600<=n/\n<=4096:=by omega
 unfold ao.j1;refine po ?_;refine Nk λd=>?_;refine vk ?_;refine wi G (n:=n) (by omega) (by omega) (ED (by omega) (by omega)) (by decide) λv pb pj qM=>?_;have aav:RI n 0 (wM n):=VB Pq rfl rfl rfl rfl rfl;have aao:VW n (wM n) o0 0:=⟨rfl,_,_,_,ED (by omega) (by omega),rfl,rfl⟩;show T W (VL v d n pb pj o0 (wM n) L) _;apply ws;intros;rename_i r1;show T W (Sep.pt r1 (zp o0 none 0 none 0)::_) _;refine eW (e:=33) ?_;refine eW (e:=14) ?_;refine T.perm (L:=VL v d n pb pj o0 (wM n) (ML r1 o0 none 0 none 0 L)) ?_ ((ad1 (l₁:=[own none 0 0 14 [],own none 0 0 33 [],Sep.pt r1 (zp o0 none 0 none 0)]) (l₂:=[_,_,_,_])|>.append_right L).trans (((ad1 (l₁:=[own none 0 0 14 [],own none 0 0 33 []]) (l₂:=[Sep.pt r1 (zp o0 none 0 none 0)])|>.append_right L).append_left [_,_,_,_])));intro w ju;refine⟨λvv w=>∃(i:Nat)(m:Model)(S:VS)(p:Nat)(mb:OA)(mc:Nat)(kb:OA)(kc:Nat),i<=l.length/\RI n i S/\VW n S m (3* i)/\Md.Ground m/\vv=[.bool false,.p (some ⟨d,0,none⟩),.p (some ⟨v,0,none⟩),.p (some ⟨p,0,none⟩),.l sb l.length sc,.i (l.length:Int),.i (i:Int)]/\St W w (VL v d n pb pj m S (ML p m mb mc kb kc L)),
  λvs _=>match vs with|[_,_,_,_,_,_,.int _ k]=>l.length-k.toNat|_=>0,⟨0,o0,wM n,r1,none,0,none,0,ad2 _,aav,aao,qk,rfl,ju⟩,?_⟩
 rintro b3 p3 p4 p5 uR qe uQ n4 n5 w2 ⟨i,m,S,p,mb,mc,kb,kc,hi,V9,QQ,Ef,e,fh⟩;cases e
 refine T.at ?_ fh;refine mT (p:=pb) (b:=bo m) (hs:=[]) λlQ=>?_;refine dP (λg2=>?_) (λg2=>?_)
 ·have NO:i<l.length:=by omega
  have e5:=lY i;have gx:=adS NO;have hx:=Bm _ (aeg NO);have hp:=aaw _ (aeg NO);generalize l[i]=x at gx hx hp;refine jY (R:=[]) hr ⟨by omega,by omega⟩ rfl λa ha=>?_;rw[adT];refine jX (R:=[]) hr ha gx (Fj x) ?_;apply ws;intros;rename_i r2;rw[e5];refine bE (λg4=>?_) (λg4=>?_)
  ·apply ws;intros;refine T.re3 ?_;obtain⟨o1,o2,o3⟩:=Vg (m:=m) (q:=x.q) V9 Pq (by omega) lQ;have o4:=Vh (q:=x.q) V9 QQ Pq (by omega) lQ Ef hx.ag hx.aT;obtain⟨s1,s2,s3⟩:=o2.short lQ hp.1 hp.2;refine Sd G Ef (V9.ok Pq (by omega)) (V9.Zp Pq (by omega) lQ) (by omega) (by omega) hx.req hx.ag hx.aT (by omega) (by omega) λrb rc ab ac tb tc UE=>?_;generalize vO n m S x.q=Z at o1 o2 o3 o4 s1 s2 s3 UE⊢;refine xC (by rfl) ?_;refine Kh (n:=13) ?_;refine T.re4 ?_;refine PQ lQ Ef o2 s1 s2 s3 hx.req (by omega) (by omega) hx.ag hx.aT λp2 nu nt gS gR R' zX=>?_;refine T.back zX ?_;apply ws;intros;refine T.re5 ?_;exact λw5 h5=>⟨⟨i+1,Z.2.1,Z.1,p2,nu,nt,gS,gR,NO,o1,o4,UE,rfl,h5⟩,by show l.length-((i+1:Nat):Int).toNat<l.length-(i:Int).toNat;omega⟩
  ·exact T.drop λw5 h5=>⟨⟨i+1,m,S,p,mb,mc,kb,kc,NO,V9.mono (by omega),QQ.mono (by omega),Ef,rfl,h5⟩,by show l.length-((i+1:Nat):Int).toNat<l.length-(i:Int).toNat;omega⟩
 ·have gr:i=l.length:=by omega
  subst gr;refine IU ?_;refine lG ?_;refine Ho ?_;refine lG ?_;obtain⟨g,s0,Hb,We,ju,-⟩:=V9;have vK:=Hb.DA;have Hb:=Hb.mono (show g<=180 by omega);have QQ:=QQ.mono (show 3* l.length<=180 by omega);have QT:=Hb.aD;generalize hT0:S.aD=T0 at QT⊢;generalize hQ0:S.J.seq=Q0;intro w6 QU;refine⟨λvv w=>∃(k:Nat)(S:VS)(v pb pj:Nat),((k:Int)<=times\/k=0)/\Rm n (180+2* k) S/\VW n S m (180+2* k)/\S.aD=T0+k/\S.J.seq=Q0/\vv=[.bool false,.p (some ⟨d,0,none⟩),.p (some ⟨v,0,none⟩),.p (some ⟨p,0,none⟩),.i T0,.i Q0,.i ((k+1:Nat):Int)]/\St W w (VL v d n pb pj m S (ML p m mb mc kb kc L)),
   λvs _=>match vs with|[_,_,_,_,_,_,.int _ k]=>times.toNat+1-k.toNat|_=>0,⟨0,S,v,pb,pj,.inr rfl,Hb,QQ,by rw[hT0];omega,hQ0,rfl,QU⟩,?_⟩
  rintro b5 p7 p8 p9 n9 Zs T3 w7 ⟨k,S,v,pb,pj,hk,Hb,QQ,pI,ET,e,L4⟩;cases e
  refine T.at ?_ L4;have e6:=lY (k+1);have fJ:=Hb.ok Pq.2 (by omega);refine dP (λg3=>?_) (λg3=>?_)
  ·have aar:=tH lQ;obtain⟨v1,v2,v3,v4,v5,v6⟩:=vg (m:=m) Hb Pq.2 (by omega) (by omega) (yl Pq.1 aar) (by omega);have v7:VW n (fk n m S).1 m (180+2* (k+1)):=by
    rcases Al QQ (by omega) Pq.2 (by omega) lQ Ef with⟨_,b,_⟩|⟨a,_⟩|⟨a,_⟩
    ·exact b
    ·omega
    ·omega
   refine OQ fJ.ok fJ.lH (by omega) (by omega) fJ.aD ?_;rw[v1];refine lG ?_;refine dV (by decide) ?_;refine Na G (by omega) (by omega) v7 (by omega) λv' pb' pj'=>?_;apply ws;intros;refine dV (by decide) ?_;refine IU ?_;refine lG ?_;rw[v6,pI,aw (by omega)];have e7:(T0+(k:Int)+1!=T0+((k+1:Nat):Int))=false:=by rw[bne_eq_false_iff_eq];omega
   rw[e7];unfold ao.j2;refine po ?_;refine Ho ?_;refine lG ?_;rw[v5,ET,bne_self_eq_false];unfold ao.j3;refine po ?_;refine M6 lQ Ef ?_;rw[decide_eq_true (xt.refl m)];refine qC ?_;refine xF ?_;rw[e6];exact λw5 h5=>⟨⟨k+1,(fk n m S).1,v',pb',pj',.inl (by omega),v2,v7,by rw[v6,pI];omega,by rw[v5,ET],rfl,h5⟩,by show times.toNat+1-((k+1+1:Nat):Int).toNat<times.toNat+1-((k+1:Nat):Int).toNat;omega⟩
  ·refine M6 lQ Ef ?_;rw[decide_eq_true (xt.refl m)];refine qC ?_;refine T.sub h ?_;exact List.sublist_append_right [_,_,_,_,_,_,_] L
end
end Go.Up
namespace Go.Sep
open Go.Den Go.RowKit Go.ChangeShapes Go.WideShapes
inductive NK where
 |c(k:CK)
 |sl(ks:List CK)
def NK.is(W:World):NK->Value->Prop
 | .c k,v=>k.is v
 | .sl ks,v=>∃b n c xs,v=.slice b n c/\Ro W b n ks.length xs/\O9 ks n xs/\n<=reachBytes/\n<=c
def Mk(W:World)(ks:List NK)(cs:LV)(o:Nat):Prop:=∀j k,ks[j]?=some k->∃v,cs[o+j]?=some v/\k.is W v
def KQ(P:Program)(f:TypeId->Option (List NK)):Nat->List Field->Option (List NK)
 |_,[]=>some []
 |o,fd::r=>match f fd.type with
  |some a=>if fd.offset=o/\P.cellsOf fd.type=a.length then(KQ P f (o+a.length) r).map (a++·) else none
  |none=>none
def nk(P:Program):Nat->TypeId->Option (List NK)
 |0,_=>none
 |n+1,t=>match P.underlying t with
  |some (.int k)=>some [.c (.i k)]
  |some .bool=>some [.c .b]
  |some (.slice e)=>match flat P n e with
   |some ks=>if P.cellsOf e=ks.length/\0<P.bytesOf e then some [.sl ks] else none
   |none=>none
  |some (.struct fs)=>KQ P (nk P n) 0 fs.toList
  |_=>none
section
variable {H:Type} {enc:TypeId×Value->H} {P:Program} {w:World} {base:Nat} {spare:Nat->Bool} {held:Bool}
def CF{t e:TypeId}{N m:Nat}{cs:LV}{x:DataW H×List MemPlace}(Q:LV->Nat->Prop)(aaB:∀xs cs o,(∀j,j<N->xs[o+j]?=cs[j]?)->Q cs 0->Q xs o)
 (hQ:∀n' cs x,DataW.trod enc P w base spare held n' e cs=some x->(∀n∈x.1.weights P e,n<=reachBytes)->cs.length=N->Q cs 0)
 (ht:P.underlying t=some (.slice e))(hc:P.cellsOf e=N)(hm:DataW.trod enc P w base spare held m t cs=some x)(hw:∀n∈x.1.weights P t,n<=reachBytes):
 ∃b n c xs,cs=[.slice b n c]/\Ro w b n N xs/\(∀i,i<n->Q xs (i* N))/\n<=maxLen/\n<=c/\n* P.bytesOf e<=reachBytes:=by
 rcases Go.Deep.open_slice ht hm with⟨rfl,rfl⟩|⟨a,n,c,k,n',D,Pl,rfl,hb,hl,hmx,hk,rfl,yV⟩
 ·exact⟨none,0,0,[],rfl,⟨by simp,λ_=>rfl,λa h=>by cases h⟩,λi h=>by omega,by decide,adY _,by simp⟩
 ·have hlk:n<=k:=by rw[hk];split<;>omega
  simp only[DataW.weights,ht] at hw;have lR:∀i,i<n->∀j,j<N->∃v,w.cell? (a.add (i* N+j))=some v:=λi hi j hj=>by
   obtain⟨rq,h1,h2⟩:=yV i (by omega);obtain⟨_,h3,h4⟩:=World.cells?_some h1;rw[hc] at h3 h4;refine⟨rq[j],?_⟩;rw[<-add_add,h4 j hj];simp[h3,hj]
  have wV:∀j,j<n* N->∃v,w.cell? (a.add j)=some v:=λj hj=>by
   have F8:0<N:=by
    cases hks:N with
    |zero=>rw[hks] at hj;omega
    |succ x=>omega
   have h1:j/N<n:=by rw[Nat.div_lt_iff_lt_mul F8];exact hj
   have h2:j%N<N:=Nat.mod_lt _ F8;obtain⟨v,hv⟩:=lR _ h1 _ h2;refine⟨v,?_⟩;rw[<-hv];congr 2;have:=Nat.div_add_mod j N;rw[afr] at this;omega
  refine⟨some a,n,c,(afo (n* N)).map λj=>(w.cell? (a.add j)).getD (.bool false),rfl,⟨by simp,λh=>(by cases h),λa' ha' j v hv=>?_⟩,λi hi=>?_,by omega,hl,?_⟩
  ·cases ha'
   rw[aeF,Option.map_eq_some_iff] at hv;obtain⟨j',Hg,rfl⟩:=hv;obtain⟨aZ,rfl⟩:=adU.1 Hg;simp only[List.length_range] at aZ;simp only[List.getElem_range];obtain⟨v,hv⟩:=wV j aZ;rw[hv];rfl
  ·obtain⟨rq,h1,h2⟩:=yV i (by omega);obtain⟨_,h3,h4⟩:=World.cells?_some h1;rw[hc] at h3 h4;refine aaB _ rq _ (λj hj=>?_) (hQ n' rq (D i,Pl i) h2 (λx hx=>hw x (by
    simp only[ae',aew]
    refine .inr (.inl (tA ?_ x hx))
    exact aeC.2 ⟨i,List.mem_range.2 hi,rfl⟩)) h3)
   have aZ:i* N+j<n* N:=by
    have:(i+1)* N<=n* N:=aeE _ hi;rw[afg] at this;omega
   have hv:=h4 j hj;rw[aeF,afk aZ,aeD,<-add_add,hv];simp[h3,hj]
  ·have:=hw _ (List.mem_cons_self);simp only[aei,List.length_range] at this;exact Nat.le_trans (aeE _ (by omega)) this
def Typed.loc{ks:List CK}{xs cs:LV}{o:Nat}(h:∀j,j<ks.length->xs[o+j]?=cs[j]?)(ht:Typed ks cs 0):Typed ks xs o:=λj k hk=>by
 obtain⟨v,hv,hi⟩:=ht j k hk;exact⟨v,by rw[h j (adU.1 hk).1,<-hv,adW],hi⟩
def Mk.loc{W:World}{ks:List NK}{xs cs:LV}{o:Nat}(h:∀j,j<ks.length->xs[o+j]?=cs[j]?)(ht:Mk W ks cs 0):Mk W ks xs o:=λj k hk=>by
 obtain⟨v,hv,hi⟩:=ht j k hk;exact⟨v,by rw[h j (adU.1 hk).1,<-hv,adW],hi⟩
def A5{f:TypeId->Option (List NK)}{m:Nat}{cs:LV}
 (hf:∀t ks cs x,f t=some ks->DataW.trod enc P w base spare held m t cs=some x->(∀n∈x.1.weights P t,n<=reachBytes)->Mk w ks cs 0):
 ∀(fs:List Field)(o:Nat)(ks:List NK)(xs:List (DataW H×List MemPlace)),KQ P f o fs=some ks->
  (∀(i:Nat)(fd:Field),fs[i]?=some fd->DataW.trod enc P w base spare held m fd.type ((cs.drop fd.offset).take (P.cellsOf fd.type))=xs[i]?)->xs.length=fs.length->
  (∀n∈DataW.weightsEach P (fs.map (·.type)) (xs.map (·.1)),n<=reachBytes)->Mk w ks cs o
 |[],o,ks,xs,h,_,_,_=>by
  simp only[KQ,aec.injEq] at h;subst h;intro j k hj;simp at hj
 |fd::r,o,ks,[],h,hx,hl,hw=>by simp at hl
 |fd::r,o,ks,x::xs,h,hx,hl,hw=>by
  simp only[KQ] at h;cases ha:f fd.type with
  |none=>simp[ha] at h
  |some a=>
   simp only[ha] at h;split at h
   ·rename_i hc;cases hb:KQ P f (o+a.length) r with
    |none=>simp[hb] at h
    |some b=>
     simp only[hb,aeD,aec.injEq] at h;subst h;simp only[aet,DataW.weightsEach,aew] at hw;have h1:=hf fd.type a _ x ha (by have:=hx 0 fd rfl;simpa using this) (λn hn=>hw n (.inl hn));have h2:=A5 hf r (o+a.length) b xs hb (λi g hg=>by have:=hx (i+1) g (by simpa using hg);simpa using this) (by simpa using hl) (λn hn=>hw n (.inr hn));intro j k hj;by_cases UC:j<a.length
     ·rw[aef UC] at hj;obtain⟨v,hv,hk⟩:=h1 j k hj;refine⟨v,?_,hk⟩;rw[hc.1,hc.2,adW,List.getElem?_take_of_lt UC,ae8] at hv;exact hv
     ·rw[aes (by omega)] at hj;obtain⟨v,hv,hk⟩:=h2 (j-a.length) k hj;refine⟨v,?_,hk⟩;rw[show o+j=o+a.length+(j-a.length) from by omega];exact hv
   ·cases h
def FP:∀(f:Nat)(m:Nat)(t:TypeId)(ks:List NK)(cs:LV)(x:DataW H×List MemPlace),nk P f t=some ks->DataW.trod enc P w base spare held m t cs=some x->
 (∀n∈x.1.weights P t,n<=reachBytes)->Mk w ks cs 0
 |0,_,_,_,_,_,h,_,_=>by simp[nk] at h
 |f+1,m,t,ks,cs,x,h,hx,hw=>by
  have one:∀(a:NK) v,a.is w v->Mk w [a] [v] 0:=λa v ha j k hj=>by
   cases j with
   |zero=>simp at hj;subst hj;exact⟨_,rfl,ha⟩
   |succ j=>simp at hj
  unfold nk at h;split at h
  ·rename_i k ht;cases h
   obtain⟨n,rfl,rfl,hwf⟩:=DataW.trod_int ht hx;exact one _ _ ⟨n,rfl,hwf⟩
  ·rename_i ht;cases h
   obtain⟨n,rfl,rfl⟩:=DataW.trod_bool ht hx;exact one _ _ ⟨n,rfl⟩
  ·rename_i e ht;split at h
   ·rename_i ks' hk;split at h
    ·rename_i hc;cases h
     obtain⟨b,n,c,xs,rfl,h1,h2,h3,h4,h5⟩:=CF (Typed ks') (λ_ _ _ a b=>b.loc a) (λn' cs x h1 h2 _=>Br f n' e ks' cs x hk h1 h2) ht hc.1 hx hw;exact one _ _ ⟨b,n,c,xs,rfl,h1,h2,Nat.le_trans (Nat.le_mul_of_pos_right n hc.2) h5,h4⟩
    ·cases h
   ·cases h
  ·rename_i fs ht;obtain⟨xs,n,rfl,rfl,hl,hlen,hf⟩:=DataW.trod_struct ht hx;refine A5 (m:=n) (λt ks cs x h1 h2 h3=>FP f n t ks cs x h1 h2 h3) fs.toList 0 ks xs h (λi fd hi=>hf i fd (by simpa using hi)) (by simpa using hlen) (λn hn=>hw n ?_);simp only[DataW.weights,ht];exact hn
  ·cases h
def KJ{t e:TypeId}{f:Nat}{ks:List NK}{v:Value}{r:Reach}{b0:Nat}{d:DataW H}{ps:List MemPlace}(ht:P.underlying t=some (.slice e))(he:nk P f e=some ks)(hc:P.cellsOf e=ks.length)
 (zt:Value.okWide P w r b0 t v)(hd:DataW.Trod enc P w base spare held t v d ps)(hw:∀n∈d.weights P t,n<=reachBytes):
 ∃b n c xs,v=.slice b n c/\Ro w b n ks.length xs/\(∀i,i<n->Mk w ks xs (i* ks.length))/\n<=maxLen/\n<=c:=by
 obtain⟨b,n,c,rfl⟩:=okWide_slice ht zt;obtain⟨m,hm⟩:=hd;obtain⟨b',n',c',xs,h0,h1⟩:=CF (Mk w ks) (λ_ _ _ a b=>b.loc a) (λn' cs x h1 h2 _=>FP f n' e ks cs x he h1 h2) ht hc hm hw;simp[Value.cells] at h0;obtain⟨rfl,rfl,rfl⟩:=h0;exact⟨b,n,c,xs,rfl,h1.1,h1.2.1,h1.2.2.1,h1.2.2.2.1⟩
end
end Go.Sep
namespace Go.Up
open Go.Sep Go.Den Go.RowKit Go.Prog Go.Md Go.bC
abbrev kU:CK:=.i .u64
abbrev kI:CK:=.i .i64
def RT:List CK:=[kU,kU,kU,kU,kU,kU,kU,kU,kU,kU,kI,kI,kI,kI]
def QB:List CK:=[kU,kU,kU,kU,kU,kU,kU,kU,kU,kU,kI,kI,kI,kI,kI,kI]
def aak:List NK:=[.c kI,.sl RT,.sl QB,.c kI,.sl [kU,kU],.c kU,.c kU,.c kI,.c kI,.c .b,.c .b,.c .b,.c kI]
def Kl:List NK:=.c kI::(aak++[.c kU,.c kI,.c kI,.c kI])
def Y1{xs:LV}{o j:Nat}{u v:Value}(h0:xs[o+j]?=some u)(h1:xs[o+(j+1)]?=some v)(hu:kU.is u)(hv:kU.is v):∃n,n<aK/\xs[o+j]?=(nm n)[0]?/\xs[o+(j+1)]?=(nm n)[1]?:=by
 obtain⟨a,rfl,ha⟩:=hu;obtain⟨b,rfl,hb⟩:=hv;simp[Lit.wf,IntKind.min,IntKind.max,IntKind.signed,IntKind.bits] at ha hb;obtain⟨x,rfl⟩:=ad3 (show 0<=a by omega);obtain⟨y,rfl⟩:=ad3 (show 0<=b by omega);refine⟨x* 18446744073709551616+y,by unfold aK;omega,?_,?_⟩
 ·rw[h0];show _=some (Value.int .u64 (((x* 18446744073709551616+y)/18446744073709551616:Nat):Int));rw[show(x* 18446744073709551616+y)/18446744073709551616=x from by omega]
 ·rw[h1];show _=some (Value.int .u64 (((x* 18446744073709551616+y)%18446744073709551616:Nat):Int));rw[show(x* 18446744073709551616+y)%18446744073709551616=y from by omega]
def acT{v:Value}(hv:kI.is v):∃n,v=.i n/\q6 n:=by
 obtain⟨n,rfl,hn⟩:=hv;refine⟨n,rfl,?_⟩;simp[Lit.wf,IntKind.min,IntKind.max,IntKind.signed,IntKind.bits] at hn;unfold q6;omega
section
variable {xs:LV} {o j:Nat}
def Bo{ks:List CK}(h:Typed ks xs o)(a:ks[j]?=some kU)(b:ks[j+1]?=some kU):∃n,n<aK/\xs[o+j]?=(nm n)[0]?/\xs[o+(j+1)]?=(nm n)[1]?:=by
 obtain⟨u,hu,h1⟩:=h _ _ a;obtain⟨v,hv,h2⟩:=h _ _ b;exact Y1 hu hv h1 h2
def Cp{ks:List CK}(h:Typed ks xs o)(a:ks[j]?=some kI):∃n,xs[o+j]?=some (.i n)/\q6 n:=by
 obtain⟨v,hv,h1⟩:=h _ _ a;obtain⟨n,rfl,hn⟩:=acT h1;exact⟨n,hv,hn⟩
def aa8(h:Typed RT xs o):∃a,vf a/\∀j,j<RT.length->xs[o+j]?=(ak a)[j]?:=by
 obtain⟨n0,b0,p0,q0⟩:=Bo (j:=0) h rfl rfl;obtain⟨n1,b1,p1,q1⟩:=Bo (j:=2) h rfl rfl;obtain⟨n2,b2,p2,q2⟩:=Bo (j:=4) h rfl rfl;obtain⟨n3,b3,p3,q3⟩:=Bo (j:=6) h rfl rfl;obtain⟨n4,b4,p4,q4⟩:=Bo (j:=8) h rfl rfl;obtain⟨i0,r0,s0⟩:=Cp (j:=10) h rfl;obtain⟨i1,r1,s1⟩:=Cp (j:=11) h rfl;obtain⟨i2,r2,s2⟩:=Cp (j:=12) h rfl;obtain⟨i3,r3,s3⟩:=Cp (j:=13) h rfl;refine⟨⟨n0,n1,n2,n3,n4,i0,i1,i2,i3⟩,⟨b0,b1,b2,b3,b4,s0,s1,s2,s3⟩,λj hj=>?_⟩
 match j,hj with
 |0,_=>exact p0
 |1,_=>exact q0
 |2,_=>exact p1
 |3,_=>exact q1
 |4,_=>exact p2
 |5,_=>exact q2
 |6,_=>exact p3
 |7,_=>exact q3
 |8,_=>exact p4
 |9,_=>exact q4
 |10,_=>exact r0
 |11,_=>exact r1
 |12,_=>exact r2
 |13,_=>exact r3
 |j+14,h=>exact absurd h (by simp[RT])
def aa7(h:Typed QB xs o):∃a,uX a/\∀j,j<QB.length->xs[o+j]?=(ai a)[j]?:=by
 obtain⟨n0,b0,p0,q0⟩:=Bo (j:=0) h rfl rfl;obtain⟨n1,b1,p1,q1⟩:=Bo (j:=2) h rfl rfl;obtain⟨n2,b2,p2,q2⟩:=Bo (j:=4) h rfl rfl;obtain⟨n3,b3,p3,q3⟩:=Bo (j:=6) h rfl rfl;obtain⟨n4,b4,p4,q4⟩:=Bo (j:=8) h rfl rfl;obtain⟨i0,r0,s0⟩:=Cp (j:=10) h rfl;obtain⟨i1,r1,s1⟩:=Cp (j:=11) h rfl;obtain⟨i2,r2,s2⟩:=Cp (j:=12) h rfl;obtain⟨i3,r3,s3⟩:=Cp (j:=13) h rfl;obtain⟨i4,r4,s4⟩:=Cp (j:=14) h rfl;obtain⟨i5,r5,s5⟩:=Cp (j:=15) h rfl;refine⟨⟨n0,n1,n2,n3,n4,i0,i1,i2,i3,i4,i5⟩,⟨b0,b1,b2,b3,b4,s0,s1,s2,s3,s4,s5⟩,λj hj=>?_⟩
 match j,hj with
 |0,_=>exact p0
 |1,_=>exact q0
 |2,_=>exact p1
 |3,_=>exact q1
 |4,_=>exact p2
 |5,_=>exact q2
 |6,_=>exact p3
 |7,_=>exact q3
 |8,_=>exact p4
 |9,_=>exact q4
 |10,_=>exact r0
 |11,_=>exact r1
 |12,_=>exact r2
 |13,_=>exact r3
 |14,_=>exact r4
 |15,_=>exact r5
 |j+16,h=>exact absurd h (by simp[QB])
def gNm(h:Typed [kU,kU] xs o):∃n,n<aK/\∀j,j<2->xs[o+j]?=(nm n)[j]?:=by
 obtain⟨n,b,p,q⟩:=Bo (j:=0) h rfl rfl;refine⟨n,b,λj hj=>?_⟩
 match j,hj with
 |0,_=>exact p
 |1,_=>exact q
end
def Sr{α:Type}{W:World}{b:OA}{n e:Nat}{xs:LV}{g:α->LV}{l:List α}(hr:Ro W b n e xs)(hn:l.length=n)(hg:∀a,(g a).length=e)
 (hx:∀i a,l[i]?=some a->∀j,j<e->xs[i* e+j]?=(g a)[j]?):nQ W [] g e b l:=λw hw i x hi=>by
 have aZ:=(adU.1 hi).1;cases b with
 |none=>have:=hr.2.1 rfl;omega
 |some a=>
  refine⟨a,rfl,λj v hv=>?_⟩;have hj:j<e:=by rw[<-hg x];exact(adU.1 hv).1
  rw[add_add];exact hr.cell rfl hw (by rw[hx i x hi j hj];exact hv)
def Gq{α:Type}{g:α->LV}{e:Nat}(hg:∀a,(g a).length=e):∀{l:List α} {i:Nat} {a:α} {j:Nat},l[i]?=some a->j<e->(l.flatMap g)[i* e+j]?=(g a)[j]?
 |[],i,a,j,h,_=>by simp at h
 |x::l,0,a,j,h,hj=>by
  simp at h;subst h;rw[aeG,Nat.zero_mul,adW,aef (by rw[hg];exact hj)]
 |x::l,i+1,a,j,h,hj=>by
  rw[ad9] at h;rw[aeG,afg,Nat.one_mul,aes (by rw[hg];omega),hg,show i* e+e+j-e=i* e+j from by omega];exact Gq hg h hj
def DP{α:Type}{W:World}{b:OA}{n e:Nat}{xs:LV}{g:α->LV}{ks:List CK}(q:α->Prop)(hk:ks.length=e)(hr:Ro W b n e xs)(he:O9 ks n xs)(hg:∀a,(g a).length=e)
 (dec:∀o,Typed ks xs o->∃a,q a/\∀j,j<ks.length->xs[o+j]?=(g a)[j]?):∃l:List α,l.length=n/\nQ W [] g e b l/\∀a∈l,q a:=by
 subst hk;obtain⟨l,h1,h2,h3⟩:=Ij g q hg dec he hr.1;exact⟨l,h1,Sr hr h1 hg λi a hi j hj=>by rw[h2];exact Gq hg hi hj,h3⟩
def aa6{W:World}{xs:LV}{o:Nat}(h:Mk W Kl xs o):∃x:IG,G1 W x/\∀j,j<18->xs[o+j]?=(vt x)[j]?:=by
 have gi:∀j,Kl[j]?=some (.c kI)->∃n,xs[o+j]?=some (.i n):=λj hj=>by
  obtain⟨v,hv,n,rfl,-⟩:=h _ _ hj;exact⟨n,hv⟩
 have gb:∀j,Kl[j]?=some (.c .b)->∃n,xs[o+j]?=some (.bool n):=λj hj=>by
  obtain⟨v,hv,n,rfl⟩:=h _ _ hj;exact⟨n,hv⟩
 obtain⟨kind,h0⟩:=gi 0 rfl;obtain⟨op,h1⟩:=gi 1 rfl;obtain⟨now,h4⟩:=gi 4 rfl;obtain⟨v2,h2,b2,n2,c2,x2,rfl,r2,e2,m2,Wn⟩:=h 2 _ rfl;obtain⟨v3,h3,b3,n3,c3,x3,rfl,r3,e3,m3,cc3⟩:=h 3 _ rfl;obtain⟨v5,h5,b5,n5,c5,x5,rfl,r5,e5,m5,cc5⟩:=h 5 _ rfl;obtain⟨u6,h6,i6⟩:=h 6 _ rfl;obtain⟨u7,h7,i7⟩:=h 7 _ rfl;obtain⟨fa,ba,p6,p7⟩:=Y1 (j:=6) h6 h7 i6 i7;obtain⟨fP,h8⟩:=gi 8 rfl;obtain⟨rR,h9⟩:=gi 9 rfl;obtain⟨fd,UU⟩:=gb 10 rfl;obtain⟨fc,h11⟩:=gb 11 rfl;obtain⟨fl,mB⟩:=gb 12 rfl;obtain⟨fm,h13⟩:=gi 13 rfl;obtain⟨v14,h14,mask,rfl,-⟩:=h 14 _ rfl;obtain⟨torn,h15⟩:=gi 15 rfl;obtain⟨cut,ZQ⟩:=gi 16 rfl;obtain⟨n,h17⟩:=gi 17 rfl;obtain⟨la,a1,a2,a3⟩:=DP vf rfl r2 e2 (g:=ak) (λ_=>rfl) λo h=>aa8 h;obtain⟨lt,t1,t2,t3⟩:=DP uX rfl r3 e3 (g:=ai) (λ_=>rfl) λo h=>aa7 h;obtain⟨li,i1,i2,-⟩:=DP (λ_=>True) rfl r5 e5 (g:=nm) (λ_=>rfl) λo h=>by
  obtain⟨n,_,hn⟩:=gNm h;exact⟨n,trivial,hn⟩
 have hm:reachBytes<=140737488355328:=by decide
 refine⟨⟨kind,⟨op,la,lt,now,li,fa,fP,rR,fd,fc,fl,fm⟩,⟨b2,c2,b3,c3,b5,c5⟩,mask,torn,cut,n⟩,⟨⟨a2,t2,i2,?_,?_,?_⟩,a3,t3,?_,?_⟩,λj hj=>?_⟩
 ·show la.length<=c2;omega
 ·show lt.length<=c3;omega
 ·show li.length<=c5;omega
 ·show la.length<=_;omega
 ·show lt.length<=_;omega
 ·subst a1 t1 i1
  match j,hj with
  |0,_=>exact h0
  |1,_=>exact h1
  |2,_=>exact h2
  |3,_=>exact h3
  |4,_=>exact h4
  |5,_=>exact h5
  |6,_=>exact p6
  |7,_=>exact p7
  |8,_=>exact h8
  |9,_=>exact h9
  |10,_=>exact UU
  |11,_=>exact h11
  |12,_=>exact mB
  |13,_=>exact h13
  |14,_=>exact h14
  |15,_=>exact h15
  |16,_=>exact ZQ
  |17,_=>exact h17
  |j+18,h=>omega
def aab{W:World}{b:OA}{n:Nat}{xs:LV}(hr:Ro W b n 18 xs)(he:∀i,i<n->Mk W Kl xs (i* 18)):∃l:List IG,l.length=n/\nQ W [] vt 18 b l/\∀x∈l,G1 W x:=by
 have key:∀m,m<=n->∃l:List IG,l.length=m/\(∀i x,l[i]?=some x->∀j,j<18->xs[i* 18+j]?=(vt x)[j]?)/\∀x∈l,G1 W x:=by
  intro m
  induction m with
  |zero=>exact λ_=>⟨[],rfl,λi x h=>by simp at h,by simp⟩
  |succ m ih=>
   intro hm;obtain⟨l,h1,h2,h3⟩:=ih (by omega);obtain⟨x,hx,hc⟩:=aa6 (he m (by omega));refine⟨l++[x],by simp[h1],λi y hi=>?_,λy hy=>?_⟩
   ·by_cases aZ:i<l.length
    ·rw[aef aZ] at hi;exact h2 i y hi
    ·rw[aes (by omega)] at hi;have e:i=m:=by
      have:=(adU.1 hi).1;simp at this;omega
     subst e;rw[h1,afe] at hi;cases hi
     exact hc
   ·rcases aew.1 hy with h|h
    ·exact h3 y h
    ·simp at h;subst h;exact hx
 obtain⟨l,h1,h2,h3⟩:=key n (adY n);exact⟨l,h1,Sr hr h1 (λ_=>rfl) h2,h3⟩
end Go.Up
namespace Go.Den
inductive Kd
 |i(k:IntKind)|b|s|p|q|l|g|v
abbrev Fu:List Kd->Type
 |[]=>VK->WK
 | .i _::r=>Int->Fu r
 | .b::r=>Bool->Fu r
 | .s::r=>BA->Fu r
 | .p::r=>OA->Fu r
 | .q::r=>Addr->Fu r
 | .l::r=>OA->Nat->Nat->Fu r
 | .g::r=>LV->Fu r
 | .v::r=>Value->Fu r
abbrev Kd.n:Kd:=.i .i64
abbrev vi:Value:=.i 0
abbrev vu:Value:=.u 0
abbrev vp:Value:=.p none
abbrev vq:Value:=.p (some ⟨0,0,none⟩)
abbrev vl:Value:=.l none 0 0
abbrev vb:Value:=.bool false
def U:(k:List Kd)->Fu k->WP
 |[],F=>λa K=>match a with|[]=>F K|_=>no
 | .i t::r,F=>λa K=>match a with| .int t' n::a=>if t'=t then U r (F n) a K else no|_=>no
 | .b::r,F=>λa K=>match a with| .bool x::a=>U r (F x) a K|_=>no
 | .s::r,F=>λa K=>match a with| .string x::a=>U r (F x) a K|_=>no
 | .p::r,F=>λa K=>match a with| .pointer x::a=>U r (F x) a K|_=>no
 | .q::r,F=>λa K=>match a with| .pointer (some x)::a=>U r (F x) a K|_=>no
 | .l::r,F=>λa K=>match a with| .slice x n c::a=>U r (F x n c) a K|_=>no
 | .g::r,F=>λa K=>match a with| .agg ⟨x⟩::a=>U r (F x) a K|_=>no
 | .v::r,F=>λa K=>match a with|x::a=>U r (F x) a K|_=>no
def cur:(k:List Kd)->WP->Fu k
 |[],B=>B []
 | .i t::r,B=>λn=>cur r λa=>B (.int t n::a)
 | .b::r,B=>λx=>cur r λa=>B (.bool x::a)
 | .s::r,B=>λx=>cur r λa=>B (.string x::a)
 | .p::r,B=>λx=>cur r λa=>B (.p x::a)
 | .q::r,B=>λx=>cur r λa=>B (.p (some x)::a)
 | .l::r,B=>λx n c=>cur r λa=>B (.l x n c::a)
 | .g::r,B=>λx=>cur r λa=>B (.agg ⟨x⟩::a)
 | .v::r,B=>λx=>cur r λa=>B (x::a)
def xr:∀(k:List Kd)(B:WP) {a:LV} {K:VK} {w:World},U k (cur k B) a K w->a.length=k.length/\B a K w
 |[],B,a,K,w,h=>by
  unfold U at h;split at h
  ·exact⟨rfl,h⟩
  ·exact h.elim
 | .i t::r,B,a,K,w,h=>by
   unfold U at h;split at h
   ·split at h
    ·rename_i e;subst e;obtain⟨h1,h2⟩:=xr r _ h;exact⟨by rw[ad',h1];rfl,h2⟩
    ·exact h.elim
   ·exact h.elim
 | .b::r,B,a,K,w,h=>by
   unfold U at h;split at h
   ·obtain⟨h1,h2⟩:=xr r _ h;exact⟨by rw[ad',h1];rfl,h2⟩
   ·exact h.elim
 | .s::r,B,a,K,w,h=>by
   unfold U at h;split at h
   ·obtain⟨h1,h2⟩:=xr r _ h;exact⟨by rw[ad',h1];rfl,h2⟩
   ·exact h.elim
 | .p::r,B,a,K,w,h=>by
   unfold U at h;split at h
   ·obtain⟨h1,h2⟩:=xr r _ h;exact⟨by rw[ad',h1];rfl,h2⟩
   ·exact h.elim
 | .q::r,B,a,K,w,h=>by
   unfold U at h;split at h
   ·obtain⟨h1,h2⟩:=xr r _ h;exact⟨by rw[ad',h1];rfl,h2⟩
   ·exact h.elim
 | .l::r,B,a,K,w,h=>by
   unfold U at h;split at h
   ·obtain⟨h1,h2⟩:=xr r _ h;exact⟨by rw[ad',h1];rfl,h2⟩
   ·exact h.elim
 | .g::r,B,a,K,w,h=>by
   unfold U at h;split at h
   ·obtain⟨h1,h2⟩:=xr r _ h;exact⟨by rw[ad',h1];rfl,h2⟩
   ·exact h.elim
 | .v::r,B,a,K,w,h=>by
   unfold U at h;split at h
   ·obtain⟨h1,h2⟩:=xr r _ h;exact⟨by rw[ad',h1];rfl,h2⟩
   ·exact h.elim
def yt(FF:Fence):Prop:=FF=Fence.wide\/∃l,FF=Fence.wide.inRound l
def yt.fn{FF:Fence}(h:yt FF)(f:FuncId):FF.fn f:=by rcases h with rfl|⟨l,rfl⟩<;>exact trivial
def yt.depth{FF:Fence}(h:yt FF):FF.depth=none:=by rcases h with rfl|⟨l,rfl⟩<;>rfl
def yt.calls{FF:Fence}(h:yt FF){n:Nat}{P:Program}{f:FuncId}{args:Array Value}{w:World}{R:Ending->World->Prop}(hc:Calls P f args w R):CallsIn FF n P f args w R:=by
 rcases h with rfl|⟨l,rfl⟩
 ·exact callsIn_wide.2 hc
 ·exact CallsIn.inRound l (callsIn_wide.2 hc)
def S3(F:Fn)(ds:List Deferred)(e:Env)(a:Act):Prop:=S2 F e {a with defers:=[]}/\a.defers=ds
def QI(F:Fn)(ds:List Deferred)(Q:Exit->Env->WK):Exit->Act->World->Prop:=λex a w=>(∃e,S3 F ds e a/\Q ex e w)/\∀c,ex≠.panic c
def S3.get{F:Fn}{ds:List Deferred}{e:Env}{a:Act}(h:S3 F ds e a){t:Nat}{v:Value}(hl:lk e t=some v):a.tmps[t]?=some v:=h.1.1.get t v hl
def S3.eval{F:Fn}{ds:List Deferred}{e:Env}{a:Act}(h:S3 F ds e a){x:Operand}{v:Value}(hx:ev e x=some v):a.eval x=v:=h.1.1.eval hx
def S3.nil{F:Fn}{ds:List Deferred}{e:Env}{a:Act}(h:S3 F ds e a):S3 F ds [] a:=⟨⟨⟨h.1.1.size,rfl,λt v hl=>by simp[lk] at hl⟩,h.1.2⟩,h.2⟩
def S3.cons{F:Fn}{ds:List Deferred}{e:Env}{a:Act}{t:Nat}{v:Value}(hv:a.tmps[t]?=some v)(h:S3 F ds e a):S3 F ds ((t,v)::e) a:=
 ⟨⟨⟨h.1.1.size,rfl,λs u hl=>by
   rw[sC] at hl
   split at hl
   ·rename_i HX;subst HX;cases hl;exact hv
   ·exact h.1.1.get s u hl⟩,h.1.2⟩,h.2⟩
def S3.start{F:Fn}{a:Act}(hC:F.C=[])(hn:a.tmps.size=F.n):S3 F a.defers [] a:=
 ⟨⟨⟨hn,rfl,λt v hl=>by simp[lk] at hl⟩,⟨hn,rfl,λt v hl=>by rw[hC] at hl;simp[lk] at hl⟩⟩,rfl⟩
def Ni{F:Fn}{ds:List Deferred}{w:World}{e:Env}{a:Act}{d:Option Tmp}{v:Value}{K:Env->WK}(hs:S3 F ds e a)(h:pt F.n F.C e d v K w):∃e',S3 F ds e' (a.put d v)/\K e' w:=by
 obtain⟨e',h1,h2⟩:=qh (a:={a with defers:=[]}) hs.1 h;refine⟨e',⟨?_,?_⟩,h2⟩
 ·cases d<;>exact h1
 ·cases d<;>exact hs.2
def S3.put{F:Fn}{ds:List Deferred}{e:Env}{a:Act}{t:Tmp}{v:Value}(w:World)(hs:S3 F ds e a)(ht:(Nat.blt t F.n&&cover F.C t)=true):S3 F ds ((t,v)::e) (a.put (some t) v):=by
 obtain⟨e',h1,h2⟩:=Ni (d:=some t) (v:=v) (K:=λe' _=>e'=(t,v)::e) (w:=w) hs (by simp only[pt,ht,cond_true]);subst h2;exact h1
def N2{F:Fn}{ds:List Deferred}{w:World}{e:Env}{a:Act}{ops:Array Oper}{o:Oper}{run skip:Env->WK}{X:Prop}(hs:S3 F ds e a)(h:guarded ops o e run skip w)
 (hr:∀e',S3 F ds e' a->Region.wanted o (yielded ops a.tmps)=true->run e' w->X)
 (hk:∀e',S3 F ds e' a->Region.wanted o (yielded ops a.tmps)=false->skip e' w->X):X:=
 oM (a:={a with defers:=[]}) hs.1 h (λe' h1=>hr e' ⟨h1,hs.2⟩) (λe' h1=>hk e' ⟨h1,hs.2⟩)
def S3.zip{F:Fn}{ds:List Deferred}{e:Env}{a:Act}(hs:S3 F ds e a){l:List (Nat×Value)}{vs:LV}(h:rD e l=some vs):S3 F ds (wc l vs F.C) a:=⟨S2.zip (a:={a with defers:=[]}) hs.1 h,hs.2⟩
section
variable {F:Fn} {ds:List Deferred} {P:Program} {w:World} {e:Env} {a:Act} {ops:Array Oper} {FF:Fence} {n:Nat}
def To.Qz{o:Oper}{K:VK}(h:To P (execOp a.eval o) w K):∀c,o.op≠.defer c:=by
 intro c hc;have key:∀r,(execOp a.eval o).run P w=.ok r w->True:=λ_ _=>trivial;have hx:execOp a.eval o=(do pure (.defer (<-resolve a.eval c o.type))):=by simp only[execOp,hc]
 rw[hx] at h;unfold To at h;simp only[Sem.run_bind] at h;cases hr:(resolve a.eval c o.type).run P w with
 |ok d w1=>simp[hr,Result.andThen,Sem.run_pure] at h
 |halt x w1=>simp[hr,Result.andThen] at h
def Hm(hW:yt FF){o:Oper}{K:VK}{next:Act->World->Prop}{Q:Exit->Act->World->Prop}(h:To P (execOp a.eval o) w K)(hk:∀v w',K v w'->next (a.put o.dst v) w'):o.wpIn FF n P a w next Q:=by
 refine⟨λf _=>hW.fn f,?_⟩;rw[Oper.semAt_eq _ _ _ h.Qz];rcases h with⟨v,w',hr,h⟩|⟨w',hr,h⟩|⟨g,args,w',hr,h⟩
 ·rw[hr];exact hk _ _ h
 ·rw[hr];exact hk _ _ h
 ·rw[hr];refine⟨λhd=>(by rw[hW.depth] at hd;cases hd),?_⟩;refine CallsIn.mono (hW.calls h) λe Ww ⟨v,he,hv⟩=>?_;subst he;exact hk _ _ hv
def xH(hW:yt FF)(hF:Ok F){Q:Exit->Act->World->Prop}{K:Env->WK}{tail:List Nat}(hK:∀e a w,S3 F ds e a->K e w->wpOpsIn FF n F.P ops Q tail a w):
 ∀(l:List Nat)(os:List Oper)(e:Env)(a:Act)(w:World),l.length=os.length->(∀k i:Nat,l[k]?=some i->ops[i]?=os[k]?)->S3 F ds e a->tK F ops os K e w->wpOpsIn FF n F.P ops Q (l++tail) a w
 |[],[],e,a,w,_,_,hs,h=>hK e a w hs h
 |[],_::_,_,_,_,hl,_,_,_=>by simp at hl
 |_::_,[],_,_,_,hl,_,_,_=>by simp at hl
 |i::l,o::os,e,a,w,hl,hi,hs,h=>by
  have hio:ops[i]?=some o:=hi 0 i rfl;have rest:=λe a w=>xH hW hF hK l os e a w (by simpa using hl) (λ(k j:Nat)(hk:l[k]?=some j)=>hi (k+1) j (by simpa using hk));rw[ae5,wpOpsIn_cons];unfold wpOpIn;simp only[hio];refine N2 (F:=F) hs (u2 h) (λe' cU hw hr=>?_) (λe' cU hw hr=>?_)
  ·rw[if_pos hw];refine Hm (a:=a) hW (A0 (a:={a with defers:=[]}) hF.eqs hF.CC cU.1.1 hr) λv w' hv=>?_;obtain⟨Oe,tt,hk⟩:=Ni cU hv;exact rest _ _ _ tt hk
  ·rw[if_neg (by rw[hw];exact ael)];refine⟨λf _=>hW.fn f,?_⟩;obtain⟨Oe,tt,hk⟩:=Ni cU hr;exact rest _ _ _ tt hk
def CN(hW:yt FF)(hF:Ok F){id:Nat}{Q:Exit->Act->World->Prop}{K:Env->WK}(k:Nat)(hk:k<=ops.size)(hs:S3 F ds e a)
 (h:tK F ops (ops.toList.take k) K e w)(hK:∀e a w,S3 F ds e a->K e w->wpOpsIn FF n F.P ops Q (List.range' k (ops.size-k)) a w):(Code.region id ops false).wpIn FF n F.P Q a w:=by
 refine wpIn_region ?_;have e1:afo ops.size=List.range' 0 k++List.range' k (ops.size-k):=by
  rw[List.range_eq_range'];have:=List.range'_append_1 (s:=0) (m:=k) (n:=ops.size-k);rw[adW] at this;rw[this];congr 1;omega
 rw[e1];refine xH hW hF hK _ (ops.toList.take k) e a w (by simp;omega) (λj i hj=>?_) hs h;have Hg:j<k:=by have:=(adU.1 hj).1;simpa using this
 rw[List.getElem?_range'] at hj
 ·cases hj
  rw[afi,if_pos Hg];simp
 ·exact Hg
def PS(hW:yt FF)(hF:Ok F){Q:Exit->Act->World->Prop}{K:Env->WK}(k:Nat)(hk:k<=ops.size)(hs:S3 F ds e a)
 (h:tK F ops (ops.toList.drop k) K e w)(hK:∀e a w,S3 F ds e a->K e w->Q .normal a w):wpOpsIn FF n F.P ops Q (List.range' k (ops.size-k)) a w:=by
 have:=xH (FF:=FF) (n:=n) (Q:=Q) (tail:=[]) hW hF (λe a w hs hk=>hK e a w hs hk) (List.range' k (ops.size-k)) (ops.toList.drop k) e a w (by simp) (λj i hj=>?_) hs h
 ·simpa using this
 ·have Hg:j<ops.size-k:=by have:=(adU.1 hj).1;simpa using this
  rw[List.getElem?_range'] at hj
  ·cases hj
   rw[ae8];simp
  ·exact Hg
def drawn:Code->Bool
 | .region _ _ d=>d
 | .seq x y=>drawn x||drawn y
 | .cond _ x y=>drawn x||drawn y
 | .block _ c=>drawn c
 | .loop c=>drawn c
 |_=>false
def Vi(hW:yt FF)(hF:Ok F):∀(c:Code)(Q:Exit->Env->WK)(e:Env)(a:Act)(w:World),drawn c=false->S3 F ds e a->den F c Q e w->c.wpIn FF n F.P (QI F ds Q) a w:=by
 intro c
 induction c with
 |skip=>intro Q e a w _ hs h;exact wpIn_skip ⟨⟨e,hs,h⟩,by simp⟩
 |ret=>intro Q e a w _ hs h;exact wpIn_ret ⟨⟨e,hs,h⟩,by simp⟩
 |exit i=>intro Q e a w _ hs h;exact wpIn_exit ⟨⟨e,hs,h⟩,by simp⟩
 |seq x y ihx ihy=>
  intro Q e a w hd hs h;simp only[drawn,Bool.or_eq_false_iff] at hd;refine wpIn_seq (wpIn_mono (ihx _ e a w hd.1 hs h) ?_);rintro ex a' w' ⟨⟨e',cU,hq⟩,hp⟩;cases ex<;>simp only[Ko] at hq
  case normal=>exact ihy Q e' a' w' hd.2 cU hq
  all_goals exact⟨⟨e',cU,hq⟩,hp⟩
 |cond x c1 c2 Xf Pg=>
  intro Q e a w hd hs h;simp only[drawn,Bool.or_eq_false_iff] at hd;simp only[den] at h;cases hx:ev e x with
  |none=>simp only[hx,no] at h
  |some v=>
   cases v<;>simp only[hx,no] at h
   rename_i b;cases b with
   |true=>exact wpIn_cond_true (hs.eval hx) (Xf Q e a w hd.1 hs h)
   |false=>exact wpIn_cond_false (hs.eval hx) (Pg Q e a w hd.2 hs h)
 |block i c ih=>
  intro Q e a w hd hs h;refine wpIn_block (wpIn_mono (ih _ e a w hd hs h) ?_);rintro ex a' w' ⟨⟨e',cU,hq⟩,hp⟩;cases ex<;>simp only[IA] at hq
  case exit j=>
   simp only[Exit.inBlock];cases hb:afd j i with
   |true=>rw[if_pos (aer hb)];simp only[hb,cond_true] at hq;exact⟨⟨e',cU,hq⟩,by simp⟩
   |false=>
    have gU:j≠i:=λh=>by simp[h] at hb
    rw[if_neg gU];simp only[hb,cond_false] at hq;exact⟨⟨e',cU,hq⟩,by simp⟩
  all_goals exact⟨⟨e',cU,hq⟩,hp⟩
 |loop c ih=>
  intro Q e a w hd hs h;simp only[den] at h;cases hl:J5 F.Ez (key c) with
  |none=>simp only[hl,no] at h
  |some l=>
   simp only[hl] at h;cases hv:rD e l with
   |none=>simp only[hv,no] at h
   |some vs=>
    simp only[hv] at h;obtain⟨I,μ,h0,HZ⟩:=h;have NL:=(jZ hs.1.1 hv).2.1;refine wpIn_loop (λa w=>S3 F ds (wc l (l.map λp=>a.tmps.getD p.1 undef) F.C) a/\I (l.map λp=>a.tmps.getD p.1 undef) w/\∀f,BQ (l.map (·.2)) f->f (l.map λp=>a.tmps.getD p.1 undef))
     (λa w=>μ (l.map λp=>a.tmps.getD p.1 undef) w) ?_ ?_
    ·rw[<-NL];exact⟨hs.zip hv,h0,(jZ hs.1.1 hv).2.2⟩
    ·intro a1 w1 ⟨uU,hI1,fG⟩;have hr:=fG _ HZ w1 hI1;refine wpIn_mono (ih _ _ a1 w1 hd uU hr) ?_;rintro ex a' w' ⟨⟨e',cU,hq⟩,hp⟩;cases ex<;>simp only[Ko] at hq
     case normal=>
      simp only[NA] at hq;cases yQ:rD e' l with
      |none=>simp only[yQ,no] at hq
      |some B0=>
       simp only[yQ] at hq;have H0:=(jZ cU.1.1 yQ).2.1;simp only[Exit.then];rw[<-H0];exact⟨⟨cU.zip yQ,hq.1,(jZ cU.1.1 yQ).2.2⟩,hq.2⟩
     all_goals exact⟨⟨e',cU,hq⟩,hp⟩
 |region id ops draw=>
  intro Q e a w hd hs h;simp only[drawn] at hd;subst hd;simp only[den,cond_false] at h;refine CN hW hF ops.size (adY _) (K:=λe w=>Q .normal e w) hs (by rw[aea (by simp)];exact h) (λe a w hs hk=>?_);rw[afe];exact⟨⟨e,hs,hk⟩,by simp⟩
 |_=>intro Q e a w _ hs h;exact h.elim
def zO(hW:yt FF)(hF:Ok F){c:Code}{Q:Exit->Act->World->Prop}(hd:drawn c=false)(hs:S3 F ds e a)
 (h:den F c (λex e w=>∀a,S3 F ds e a->Q ex a w) e w):c.wpIn FF n F.P Q a w:=
 wpIn_mono (Vi hW hF c _ e a w hd hs h) (by rintro ex a' w' ⟨⟨e',cU,hq⟩,-⟩;exact hq a' cU)
def vx(hW:yt FF)(hF:Ok F){x y:Code}{Q:Exit->Act->World->Prop}(hd:drawn x=false)(hs:S3 F ds e a)
 (h:den F x (λex e w=>∀a,S3 F ds e a->Exit.then (y.wpIn FF n F.P Q) Q ex a w) e w):(x.seq y).wpIn FF n F.P Q a w:=
 wpIn_seq (zO hW hF hd hs h)
end
def Bq:Code->Code| .seq x _=>x|c=>c
def tr:Code->Code| .seq _ y=>y|c=>c
def Zv:Code->Code| .block _ c=>c| .loop c=>c|c=>c
def ac1:Code->Code| .rangeFunc _ _ a _=>a|c=>c
def acY:Code->Code| .rangeFunc _ _ _ b=>b|c=>c
def AX:Code->Array Oper| .region _ ops _=>ops|_=>#[]
end Go.Den
namespace Go.Den
open Go.RowKit Go.Sep
section
variable {FF:Fence} {n:Nat} {P:Program} {a:Act} {w:World} {Q:Exit->Act->World->Prop}
def xY{J:Nat->Prop}(h:∃k,J k):∃m,J m/\∀k,J k->m<=k:=by
 obtain⟨k,hk⟩:=h
 induction k using Nat.strongRecOn with
 |_ k ih=>
  by_cases hx:∃j,j<k/\J j
  ·obtain⟨j,hj,hJ⟩:=hx;exact ih j hj hJ
  ·refine⟨k,hk,λj hJ=>?_⟩;rcases Nat.lt_or_ge j k with h|h
   ·exact absurd ⟨j,h,hJ⟩ hx
   ·exact h
def E1{c:Code}(J:Nat->Act->World->Prop)(h0:∃k,J k a w)
 (hr:∀k a w,J k a w->c.wpIn FF n P (Exit.then (λa' w'=>∃j,j<k/\J j a' w') Q) a w):(Code.loop c).wpIn FF n P Q a w:=by
 classical
 let μ:Act->World->Nat:=λa w=>if h:∃k,J k a w then Classical.choose (xY h) else 0
 have hμ:∀{a w}(h:∃k,J k a w),J (μ a w) a w/\∀k,J k a w->μ a w<=k:=λ{a w} h=>by
  have e:μ a w=Classical.choose (xY h):=dif_pos h;rw[e];exact Classical.choose_spec (xY h)
 refine wpIn_loop (λa w=>∃k,J k a w) μ h0 λa w h=>?_;refine wpIn_mono (hr _ a w (hμ h).1) λex a' w' hq=>?_;cases ex<;>first|exact hq|skip
 obtain⟨j,hj,hJ⟩:=hq;exact⟨⟨j,hJ⟩,Nat.lt_of_le_of_lt ((hμ ⟨j,hJ⟩).2 j hJ) hj⟩
def Ca{o:Oper}{x:Operand}{xs:Array Operand}{ts:Array TypeId}{l:Nat}(ho:o.op=.call {callee:=.value x,args:=xs,argTypes:=ts})(hx:a.eval x=.func (.yield l) #[] #[]):
 (execOp a.eval o).run P w=(Instr.yield l (xs.map a.eval)).run P w:=by
 simp only[execOp,ho,resolve,Deferred.ofValue,hx,Sem.run_bind,Sem.run_pure,Result.andThen_ok,invoke,Array.empty_append]
def Nb(hW:FF=Fence.wide){g:Operand}{ps:Array Tmp}{assign body:Code}{gf:Nat}{lb:Array Value}(hg:a.eval g=.func (.func gf) #[] lb)
 {fg:Func}(h1:P.funcs[gf]?=some fg)(h2:(fg.name== "runtime.NumGoroutine")=false)(h3:fg.body.isNone=false)
 (h:∀fn,CallsIn FF (n-1) P gf (#[.func (.yield (w.heap.size+1)) #[] #[]]++lb) ((w.alloc (.deferred (some []))).alloc (.loop {state:=.ready,pending:=none,fn,tmps:=a.tmps,params:=ps,assign,body,defers:=w.heap.size}))
  (rangePost FF n P (w.heap.size+1) Q {a with defers:={target:=.collected w.heap.size,args:=#[]}::a.defers})):(Code.rangeFunc g ps assign body).wpIn FF n P Q a w:=by
 subst hW;refine wpIn_rangeFunc ?_;intro fn ZI;obtain⟨W1,hW1⟩:∃W1,(w.alloc (.deferred (some []))).alloc (.loop {state:=.ready,pending:=none,fn:=fn,tmps:=a.tmps,params:=ps,assign:=assign,body:=body,defers:=w.heap.size})=W1:=⟨_,rfl⟩;have h:=h fn;rw[hW1] at h;refine⟨w.heap.size+1,[{target:=.collected w.heap.size,args:=#[]}],W1,{target:=.fn (.func gf) lb,args:=#[.func (.yield (w.heap.size+1)) #[] #[]]},W1,gf,
  #[.func (.yield (w.heap.size+1)) #[] #[]]++lb,W1,?_,?_,?_,?_,?_,?_⟩
 ·rw[<-hW1];exact run_enterLoop_outer _ _ _ _ _
 ·simp only[resolve,hg];simp[go_sem]
 ·intro f' UG;exact trivial
 ·simp only[invoke];exact wy h1 h2 h3 _
 ·intro hd;cases hd
 ·simpa only[ae5,aev] using h
end
end Go.Den
namespace Go.Sep
open Go.Den Go.RowKit
def Mt{w:World}{b:Nat}{o:Obj}(hb:b<w.heap.size)(ho:∀c t fz,o≠.cells c t fz):view (w.putObj b o) b=some (.obj o):=by
 unfold view;rw[World.putObj_heap_same hb];cases o<;>first|rfl|exact absurd rfl (ho _ _ _)
def St.W2{W w:World}{L:LH}(h:St W w L)(o:Obj)(ho:∀c t fz,o≠.cells c t fz):St W (w.alloc o) (ob w.heap.size o::L):=by
 refine h.W3 o (x:=.obj o) ?_;unfold view;rw[World.alloc_heap_new];cases o<;>first|rfl|exact absurd rfl (ho _ _ _)
def St.put{W w:World}{L:LH}{k b:Nat}{o:Obj}(o':Obj)(h:St W w L)(hk:L[k]?=some (ob b o))(ho:∀c t fz,o'≠.cells c t fz):St W (w.putObj b o') (L.set k (ob b o')):=by
 obtain⟨h1,h2⟩:=h.obj hk;have aZ:b<w.heap.size:=(Array.getElem?_eq_some_iff.1 h1).1;refine h.Sf hk ⟨h.1.os,h.1.tape,h.1.output,by rw[World.putObj_size];exact h.1.size,λj hj=>?_⟩ (Mt aZ ho) λj hj _=>World.putObj_heap_other hj;rw[World.putObj_heap_other (by omega)];exact h.1.block j hj
end Go.Sep
namespace Go.Proofs.YtnffemlgkghcfaaGreatDoor
open Go.Den Go.Prog Go.RowKit
noncomputable def ZY:B2:=[(140,cn.u),(141,o9.u),(142,cf.u)]
noncomputable abbrev EP:Den.Fn:=⟨Tryz.prog,ZY,[],20,[],[]⟩
noncomputable def Wo:Code:=(Tryz.f82.body).getD .skip
noncomputable def q0:Code:=Bq Wo
noncomputable def q1:Code:=Bq (tr Wo)
noncomputable def q2:Code:=Bq (tr (tr Wo))
noncomputable def q3:Code:=Bq (Bq (tr (tr (tr Wo))))
noncomputable def rf:Code:=Zv (tr (Bq (tr (tr (tr Wo)))))
noncomputable def J4:Code:=ac1 rf
noncomputable def bd:Code:=acY rf
noncomputable def q7:Code:=Bq (tr (tr (tr (tr Wo))))
def Vm:Tryz.f82.body=some (.seq q0 (.seq q1 (.seq q2 (.seq (.seq q3 (.block 0 (.rangeFunc (.tmp 11) #[12] J4 bd))) (.seq q7 .ret))))):=by kernel_rfl
def Eu:drawn q0=false/\drawn q1=false/\drawn q2=false/\drawn q3=false/\drawn J4=false/\drawn bd=false/\drawn q7=false:=⟨by kernel_rfl,by kernel_rfl,by kernel_rfl,by kernel_rfl,by kernel_rfl,by kernel_rfl,by kernel_rfl⟩
def n82:Tryz.f82.ntmps=20/\Tryz.f82.results=#[.tmp 4]:=⟨by kernel_rfl,by kernel_rfl⟩
def d0(Q:Exit->Env->WK)(p:OA)(n:Int):den EP q0 Q [(1,.i n),(0,.pointer p)]=mk [.pointer p] (λr=>Q .normal [(4,.i 0),(2,.pointer (some (ad r 0))),(1,.i n),(0,.pointer p)]):=by kernel_rfl
def d1(Q:Exit->Env->WK)(r:Nat)(n:Int)(e:Env):den EP q1 Q ((4,.i 0)::(2,.pointer (some (ad r 0)))::(1,.i n)::e)=
 ld (ad r 0) (xP λp=>cn p n (x0 (Q .normal ((9,.tuple ⟨[]⟩)::(8,.i n)::(7,.pointer p)::(4,.i 0)::(2,.pointer (some (ad r 0)))::(1,.i n)::e)))):=by kernel_rfl
def d2(Q:Exit->Env->WK)(e:Env):den EP q2 Q e=mk [.i 0] (λr=>st (ad r 0) (.i 0) (Q .normal ((5,.pointer (some (ad r 0)))::e))):=by kernel_rfl
def d3(Q:Exit->Env->WK)(r5 r:Nat)(v9 v8 v7 v4:Value)(e:Env):den EP q3 Q ((5,.pointer (some (ad r5 0)))::(9,v9)::(8,v8)::(7,v7)::(4,v4)::(2,.pointer (some (ad r 0)))::e)=
 ld (ad r 0) (xP λp=>o9 p (λv=>Q .normal ((11,v)::(10,.pointer p)::(5,.pointer (some (ad r5 0)))::(9,v9)::(8,v8)::(7,v7)::(4,v4)::(2,.pointer (some (ad r 0)))::e))):=by kernel_rfl
def das(Q:Exit->Env->WK)(cs:LV)(e:Env):den EP J4 Q ((12,.agg ⟨cs⟩)::e)=mk [.u 0,.u 0,.u 0,.u 0,.u 0,.u 0,.u 0,.u 0,.u 0,.u 0,.i 0,.i 0,.i 0,.i 0,.i 0,.i 0] (λr=>a8 (cs.length=16) (gj (ad r 0) cs (Q .normal ((6,.pointer (some (ad r 0)))::(12,.agg ⟨cs⟩)::e)))):=by kernel_rfl
def dbd(Q:Exit->Env->WK)(r6 r5 r2:Nat)(cs:LV)(e:Env):den EP bd Q ((6,.pointer (some (ad r6 0)))::(12,.agg ⟨cs⟩)::(5,.pointer (some (ad r5 0)))::(2,.pointer (some (ad r2 0)))::e)=
 ld (ad r2 0) (xP λp=>ah (ad r6 0) 16 (λOi=>a8 True (cf p Oi [.u 0,.u 0] 4 (x0 (ld (ad r5 0) (xI .i64 λn=>st (ad r5 0) (.i (adP.wrap (n+1))) (Q .normal ((18,.i (adP.wrap (n+1)))::(17,.i n)::(16,.tuple ⟨[]⟩)::(15,.agg ⟨[.u 0,.u 0]⟩)::(14,.agg ⟨Oi⟩)::(13,.pointer p)::(6,.pointer (some (ad r6 0)))::(12,.agg ⟨cs⟩)::(5,.pointer (some (ad r5 0)))::(2,.pointer (some (ad r2 0)))::e)))))))):=by kernel_rfl
def d7(Q:Exit->Env->WK)(r5:Nat)(e:Env):den EP q7 Q ((5,.pointer (some (ad r5 0)))::e)=ld (ad r5 0) (xI .i64 λn=>Q .normal ((4,.i n)::(19,.i n)::(5,.pointer (some (ad r5 0)))::e)):=by kernel_rfl
noncomputable def Vy:B2:=[(194,cJ.u)]
noncomputable abbrev uY:Den.Fn:=⟨Tryz.prog,Vy,[],22,[],[]⟩
noncomputable def Y7:Code:=(Tryz.f193.body).getD .skip
noncomputable def s0:Code:=Bq Y7
noncomputable def lb:Code:=Zv (Zv (tr Y7))
noncomputable def s1:Code:=Bq lb
noncomputable def s3:Code:=Bq (Zv (Bq (tr lb)))
noncomputable def s4:Code:=tr (tr lb)
def RC:Tryz.f193.body=some (.seq s0 (.block 0 (.loop (.seq s1 (.seq (.block 1 (.seq (.region 3 (AX s3) false) (.cond (.tmp 20) .ret .skip))) s4))))):=by kernel_rfl
def Bw:drawn s0=false/\drawn s1=false/\drawn s4=false:=⟨by kernel_rfl,by kernel_rfl,by kernel_rfl⟩
def n193:Tryz.f193.ntmps=22/\Tryz.f193.results=#[]:=⟨by kernel_rfl,by kernel_rfl⟩
def ds0(Q:Exit->Env->WK)(y:Value)(r1:Nat):den uY s0 Q [(1,.pointer (some (ad r1 0))),(0,y)]=
 ld (ad r1 0) (xP λp=>cJ p (x2 λv1 v2=>(xA 33 λcs=>(xB λb=>mk [.u 0,.u 0,.u 0,.u 0,.u 0,.u 0,.u 0,.u 0,.u 0,.u 0,.i 0,.i 0,.i 0,.i 0,.i 0,.i 0,.u 0,.u 0,.u 0,.u 0,.u 0,.u 0,.u 0,.u 0,.u 0,.u 0,.i 0,.i 0,.i 0,.i 0,.i 0,.i 0,.i 0] (λr=>a8 (cs.length=33) (gj (ad r 0) cs (Q .normal ((4,.bool b)::(3,.pointer (some (ad r 0)))::(9,.bool b)::(8,.agg ⟨cs⟩)::(5,.tuple ⟨[.agg ⟨cs⟩,.bool b]⟩)::(7,.tuple ⟨[.agg ⟨cs⟩,.bool b]⟩)::(6,.pointer p)::[(1,.pointer (some (ad r1 0))),(0,y)]))))) v2) v1)):=by kernel_rfl
def ds1(Q:Exit->Env->WK)(b:Bool)(e:Env):den uY s1 Q ((4,.bool b)::e)=br b (Q .normal ((10,.bool b)::(4,.bool b)::e)) (Q (.exit 0) ((10,.bool b)::(4,.bool b)::e)):=by kernel_rfl
def ds3(K:Env->WK)(r3 r1:Nat)(y:Value)(v4:Value):tK uY (AX s3) ((AX s3).toList.take 3) K ((4,v4)::(3,.pointer (some (ad r3 0)))::(1,.pointer (some (ad r1 0)))::[(0,y)])=
 ah (ad r3 16) 16 (λcs=>K ((18,.agg ⟨cs⟩)::(17,.pointer (some (ad r3 16)))::(16,y)::(4,v4)::(3,.pointer (some (ad r3 0)))::(1,.pointer (some (ad r1 0)))::[(0,y)])):=by kernel_rfl
noncomputable def o3:Oper:=((AX s3)[3]?).getD ⟨none,.move (.tmp 0),0,"",#[],none⟩
def Io:(AX s3)[3]?=some o3/\o3.dst=some 19/\o3.op=.call {callee:=.value (.tmp 16),args:=#[.tmp 18],argTypes:=#[108]}/\o3.guard=none/\(AX s3).size=5:=⟨by kernel_rfl,by kernel_rfl,by kernel_rfl,by kernel_rfl,by kernel_rfl⟩
def acS(K:Env->WK)(b:Bool)(e:Env):tK uY (AX s3) ((AX s3).toList.drop 4) K ((19,.bool b)::e)=K ((20,.bool (!b))::(19,.bool b)::e):=by kernel_rfl
def ds4(Q:Exit->Env->WK)(r3 r1:Nat)(y:Value):den uY s4 Q ((3,.pointer (some (ad r3 0)))::(1,.pointer (some (ad r1 0)))::[(0,y)])=
 ah (ad r3 0) 33 (λZX=>mk [.u 0,.u 0,.u 0,.u 0,.u 0,.u 0,.u 0,.u 0,.u 0,.u 0,.i 0,.i 0,.i 0,.i 0,.i 0,.i 0,.u 0,.u 0,.u 0,.u 0,.u 0,.u 0,.u 0,.u 0,.u 0,.u 0,.i 0,.i 0,.i 0,.i 0,.i 0,.i 0,.i 0] (λr=>a8 (ZX.length=33) (gj (ad r 0) ZX (ld (ad r1 0) (xP λp=>cJ p (x2 λv1 v2=>(xA 33 λcs=>(xB λb=>a8 (cs.length=33) (gj (ad r 0) cs (Q .normal ((4,.bool b)::(15,.bool b)::(14,.agg ⟨cs⟩)::(11,.tuple ⟨[.agg ⟨cs⟩,.bool b]⟩)::(13,.tuple ⟨[.agg ⟨cs⟩,.bool b]⟩)::(12,.pointer p)::(3,.pointer (some (ad r 0)))::(21,.agg ⟨ZX⟩)::(3,.pointer (some (ad r3 0)))::(1,.pointer (some (ad r1 0)))::[(0,y)])))) v2) v1)))))):=by kernel_rfl
end Go.Proofs.YtnffemlgkghcfaaGreatDoor
namespace Go.Proofs.YtnffemlgkghcfaaGreatDoor
open Go.Sep Go.Den Go.RowKit Go.Prog Go.Md Go.bC Go.Up
section
variable {W:World} {L:LH} {a:Nat} {m0:Model}
def VC(m0:Model)(b:Up.ax)(hs:List C)(k:Nat):Prop:=∃m,lX b m/\Md.Ground m/\RZ m0 m/\yJ m0.clock m.kept=k/\hs.length+4* k<=150000
def UY:nR Tryz.prog []:=nR.nil
abbrev Mem(a l D r1 rn r0:Nat)(r:Loop)(n:Int)(b:Up.ax)(hs:List C)(L:LH):LH:=
 ob l (.loop r)::ob D (.deferred (some []))::Sep.pt r1 [.pointer (some (ad a 0))]::Sep.pt rn [.i n]::Sep.pt r0 [.pointer (some (ad a 0))]::bh a (b,hs)::L
def M9(hT:kh Tryz.prog ZY)(hm:Tryz.prog.follows .mixedOrders=true){fn:FuncId}{tmps:Array Value}{D l r0 r1 rn j k:Nat}{r:Loop}
 (hr:r={state:=.ready,pending:=none,fn:=fn,tmps:=tmps,params:=#[12],assign:=J4,body:=bd,defers:=D})(h20:tmps.size=20)
 (h5:tmps[5]?=some (.pointer (some (ad rn 0))))(h2:tmps[2]?=some (.pointer (some (ad r0 0)))){P3:HP}{n:Int}{b:Up.ax}{hs:List C}{x:Md.Kept}{w:World}
 (ju:St W w (P3::Mem a l D r1 rn r0 r n b hs L))(Bj:VC m0 b hs k)(hx:x∈b.kept)(ho:jq b.clock x){R:Ending->World->Prop}
 (hR:∀n' b' cU k' w',k'<k->VC m0 b' cU k'->St W w' (P3::Mem a l D r1 rn r0 r n' b' cU L)->R (.returned (.bool true)) w'):
 RoundIn Fence.wide j Tryz.prog l fn (tmps.setIfInBounds 12 (.agg ⟨ai x.move⟩)) J4 bd w R:=by
 refine roundIn_of_wpIn trivial ?_;have okF:Ok EP:=⟨hT,UY,hm⟩;have aZ:12<tmps.size:=by omega
 have s3:S3 EP [] [(12,.agg ⟨ai x.move⟩),(5,.pointer (some (ad rn 0))),(2,.pointer (some (ad r0 0)))] {tmps:=tmps.setIfInBounds 12 (.agg ⟨ai x.move⟩),defers:=[]}:=by
  refine S3.cons ?_ (S3.cons ?_ (S3.cons ?_ (S3.start rfl ?_)))
  ·show(tmps.setIfInBounds 12 _)[12]?=_;simp[aZ]
  ·show(tmps.setIfInBounds 12 _)[5]?=_;rw[Array.getElem?_setIfInBounds_ne (by decide)];exact h5
  ·show(tmps.setIfInBounds 12 _)[2]?=_;rw[Array.getElem?_setIfInBounds_ne (by decide)];exact h2
  ·show(tmps.setIfInBounds 12 _).size=20;simp[h20]
 refine zO (F:=EP) (.inr ⟨l,rfl⟩) okF Eu.2.2.2.2.1 s3 ?_;rw[das];obtain⟨m,Bh,hg,aaL,ZC,hlen⟩:=Bj;refine T.at ?_ ju;refine qD λr6=>?_;apply ws;intros;intro w1 uU a1 UR;have XF:=(uU.obj (k:=2) (b:=l) (o:=.loop r) rfl).1;refine⟨_,run_beginRound XF (by rw[hr]),?_⟩;have fh:=uU.put (k:=2) (b:=l) (o:=.loop r) (.loop {r with state:=.busy}) rfl (by simp);refine zO (F:=EP) (.inr ⟨l,rfl⟩) okF Eu.2.2.2.2.2.1 UR ?_;rw[dbd];refine T.at ?_ fh;show T W (Sep.pt r6 (ai x.move)::P3::Mem a l D r1 rn r0 {r with state:=.busy} n b hs L) _;obtain⟨JK,hwt,m',Ea,Q3,NT,adA⟩:=CY Bh hg aaL hx ho;obtain⟨⟨d,hd,-,-⟩,⟨c,hc,-,-⟩,gU⟩:=hwt;refine mT (p:=a) λlQ=>?_;have kg:=lQ.L1 x hx;apply ws;intros;show T W _ (cf (some ⟨a,0,none⟩) (ai x.move) (nm 0) 4 _);refine CM (p:=a) (k:=x) JK ho.1 kg.rI kg.move.aB (by decide) hd hc gU (.inr (.inr rfl)) (λh=>absurd h (by decide)) (λh=>absurd h (by decide)) (by omega) λcU Uc=>?_;apply ws;intros;intro w3 rB a3 Wj;subst hr;have Ps:=(rB.obj (k:=2) (b:=l) (o:=.loop {state:=.busy,pending:=none,fn:=fn,tmps:=tmps,params:=#[12],assign:=J4,body:=bd,defers:=D}) rfl).1;refine⟨_,_,run_endRound none Ps,?_⟩;have uE:=(rB.put (k:=2) (b:=l) (o:=.loop {state:=.busy,pending:=none,fn:=fn,tmps:=tmps,params:=#[12],assign:=J4,body:=bd,defers:=D}) (.loop {state:=.ready,pending:=none,fn:=fn,tmps:=tmps,params:=#[12],assign:=J4,body:=bd,defers:=D}) rfl (by simp)).drop;have:=Uc.len;exact hR _ _ _ _ _ (by omega) ⟨m',Ea,Q3,NT,rfl,by omega⟩ uE
abbrev yv(l:Nat):Value:=.func (.yield l) #[] #[]
abbrev Og(b:Bool)(r3 r1 l:Nat):Env:=(4,.bool b)::(3,.pointer (some (ad r3 0)))::(1,.pointer (some (ad r1 0)))::[(0,yv l)]
def Ve(hT:kh Tryz.prog ZY)(US:kh Tryz.prog Vy)(hm:Tryz.prog.follows .mixedOrders=true){fn:FuncId}{tmps:Array Value}{D l r0 r1 rn j:Nat}{r:Loop}
 (hr:r={state:=.ready,pending:=none,fn:=fn,tmps:=tmps,params:=#[12],assign:=J4,body:=bd,defers:=D})(h20:tmps.size=20)
 (h5:tmps[5]?=some (.pointer (some (ad rn 0))))(h2:tmps[2]?=some (.pointer (some (ad r0 0)))){n:Int}{b:Up.ax}{hs:List C}{k:Nat}{w:World}
 (ju:St W w (Mem a l D r1 rn r0 r n b hs L))(Bj:VC m0 b hs k){R:Ending->World->Prop}
 (hR:∀n' b' cU k' w',VC m0 b' cU k'->(∀x∈b'.kept,¬jq b'.clock x)->St W w' (Mem a l D r1 rn r0 r n' b' cU L)->R (.returned (.tuple #[])) w'):
 CallsIn Fence.wide j Tryz.prog 193 #[yv l,.pointer (some (ad r1 0))] w R:=by
 refine callsIn_of_wp Tryz.func193 RC trivial ?_ rfl;have okF:Ok uY:=⟨US,UY,hm⟩;have s0':S3 uY [] [(1,.pointer (some (ad r1 0))),(0,yv l)] {tmps:=#[yv l,.pointer (some (ad r1 0))]++ae0 (Tryz.f193.ntmps-2) undef,defers:=[]}:=by
  rw[n193.1];refine S3.cons ?_ (S3.cons ?_ (S3.start rfl ?_))
  ·show(#[yv l,.pointer (some (ad r1 0))]++ae0 20 undef)[1]?=_;simp
  ·show(#[yv l,.pointer (some (ad r1 0))]++ae0 20 undef)[0]?=_;simp
  ·show(#[yv l,.pointer (some (ad r1 0))]++ae0 20 undef).size=22;simp
 refine vx (F:=uY) (.inl rfl) okF Bw.1 s0' ?_;rw[ds0];have main:∀(bb:Bool)(x:Md.Kept)(r3:Nat)(n:Int)(b:Up.ax)(hs:List C)(k:Nat)(w:World)(a1:Act),S3 uY [] (Og bb r3 r1 l) a1->St W w (Sep.pt r3 (aJ x)::Mem a l D r1 rn r0 r n b hs L)->VC m0 b hs k->
                                                 (if bb then x∈b.kept/\jq b.clock x else ∀x∈b.kept,¬jq b.clock x)->
                                                 (Code.block 0 (.loop (.seq s1 (.seq (.block 1 (.seq (.region 3 (AX s3) false) (.cond (.tmp 20) .ret .skip))) s4)))).wpIn Fence.wide j Tryz.prog (bodyPost Tryz.prog Tryz.f193 R) a1 w:=by
  intro bb x r3 n b hs k w a1 UR pI Bj UL;refine wpIn_block (E1 (λk a1 w=>∃(bb:Bool)(x:Md.Kept)(r3:Nat)(n:Int)(b:Up.ax)(hs:List C),S3 uY [] (Og bb r3 r1 l) a1/\St W w (Sep.pt r3 (aJ x)::Mem a l D r1 rn r0 r n b hs L)/\VC m0 b hs k/\
   (if bb then x∈b.kept/\jq b.clock x else ∀x∈b.kept,¬jq b.clock x)) ⟨k,bb,x,r3,n,b,hs,UR,pI,Bj,UL⟩ ?_)
  rintro k a1 w ⟨bb,x,r3,n,b,hs,UR,pI,Bj,UL⟩;refine vx (F:=uY) (.inl rfl) okF Bw.2.1 UR ?_;rw[ds1];cases bb with
  |false=>
   rw[ch];intro a2 N1;show bodyPost Tryz.prog Tryz.f193 R .normal a2 w;refine⟨N1.2,_,results_none n193.2 _ _ _,?_⟩;exact hR _ _ _ _ _ Bj UL pI.drop
  |true=>
   rw[gW];obtain⟨hx,ho⟩:=UL;intro a2 N1;have N1:S3 uY [] (Og true r3 r1 l) a2:=S3.cons (N1.get rfl) (S3.cons (N1.get rfl) (S3.cons (N1.get rfl) (S3.cons (N1.get rfl) N1.nil)));show(Code.seq (.block 1 (.seq (.region 3 (AX s3) false) (.cond (.tmp 20) .ret .skip))) s4).wpIn Fence.wide j Tryz.prog _ a2 w;refine wpIn_seq (wpIn_block (wpIn_seq ?_));refine CN (F:=uY) (.inl rfl) okF 3 (by rw[Io.2.2.2.2];decide) N1 ?_ ?_ (K:=λe w'=>St W w' (Sep.pt r3 (aJ x)::Mem a l D r1 rn r0 r n b hs L)/\e=(18,.agg ⟨ai x.move⟩)::(17,.pointer (some (ad r3 16)))::(16,yv l)::Og true r3 r1 l)
   ·rw[ds3];refine T.at ?_ pI;apply ws;intros;exact λw' cU=>⟨cU,rfl⟩
   ·rintro e a3 w3 Wj ⟨Xl,rfl⟩;rw[Io.2.2.2.2];show wpOpsIn Fence.wide j Tryz.prog (AX s3) _ [3,4] a3 w3;rw[wpOpsIn_cons];unfold wpOpIn;simp only[Io.1];rw[if_pos (by simp[Region.wanted,Io.2.2.2.1])];refine⟨λf _=>trivial,?_⟩;have hl:=(Xl.obj (k:=1) (b:=l) (o:=.loop r) rfl).1;have ZU:a3.eval (.tmp 16)=yv l:=Wj.eval rfl;have ZT:a3.eval (.tmp 18)=.agg ⟨ai x.move⟩:=Wj.eval rfl;rw[show Fence.wide.round=none from rfl,Oper.semAt_none,Ca Io.2.2.1 ZU,run_yield hl (by rw[hr];simp),Oper.uponIn_round];refine⟨λh=>(by cases h),?_⟩;have e2:((r.params.zip (#[Operand.tmp 18].map a3.eval)).foldl (λtmps(t,a)=>tmps.setIfInBounds t a) r.tmps)=tmps.setIfInBounds 12 (.agg ⟨ai x.move⟩):=by
     rw[hr];simp[ZT]
    rw[e2,show r.fn=fn by rw[hr],show r.assign=J4 by rw[hr],show r.body=bd by rw[hr]];refine M9 (W:=W) (L:=L) (a:=a) (m0:=m0) hT hm hr h20 h5 h2 Xl Bj hx ho λn' b' cU k' w' ye JL aas=>?_;dsimp only;rw[Io.2.1];have PB:=S3.put (v:=.bool true) w' (t:=19) Wj rfl;refine PS (F:=uY) (.inl rfl) okF 4 (by rw[Io.2.2.2.2];decide) PB ?_ ?_ (K:=λe Ww=>Ww=w'/\e=(20,.bool false)::(19,.bool true)::(18,.agg ⟨ai x.move⟩)::(17,.pointer (some (ad r3 16)))::(16,yv l)::Og true r3 r1 l)
    ·rw[acS];exact⟨rfl,rfl⟩
    ·rintro e a5 w5 UQ ⟨rfl,rfl⟩;show(Code.cond (.tmp 20) .ret .skip).wpIn Fence.wide j Tryz.prog _ a5 w5;refine wpIn_cond_false (UQ.eval rfl) (wpIn_skip ?_);show s4.wpIn Fence.wide j Tryz.prog _ a5 w5;have ha6:S3 uY [] ((3,.pointer (some (ad r3 0)))::(1,.pointer (some (ad r1 0)))::[(0,yv l)]) a5:=S3.cons (UQ.get rfl) (S3.cons (UQ.get rfl) (S3.cons (UQ.get rfl) UQ.nil));refine zO (F:=uY) (.inl rfl) okF Bw.2.2 ha6 ?_;rw[ds4];refine T.at ?_ aas;apply ws;intros;rename_i r4;refine M8 (p:=a) (λy hy hoy=>?_) (λEd=>?_)
     ·apply ws;intros;intro w7 L4 a7 yX;refine⟨k',ye,true,y,r4,n',b',cU,S3.cons (yX.get rfl) (S3.cons (yX.get rfl) (S3.cons (yX.get rfl) (S3.cons (yX.get rfl) yX.nil))),?_,JL,⟨hy,hoy⟩⟩;exact(L4.perm (aej.swap _ _ _)).drop
     ·apply ws;intros;intro w7 L4 a7 yX;refine⟨k',ye,false,zK,r4,n',b',cU,S3.cons (yX.get rfl) (S3.cons (yX.get rfl) (S3.cons (yX.get rfl) (S3.cons (yX.get rfl) yX.nil))),?_,JL,Ed⟩;exact(L4.perm (aej.swap _ _ _)).drop
 refine T.at ?_ ju;apply ws;intros;refine M8 (p:=a) (λy hy hoy=>?_) (λEd=>?_)
 ·apply ws;intros;rename_i r4;intro w7 L4 a7 yX;exact main true y r4 n b hs k w7 a7 (S3.cons (yX.get rfl) (S3.cons (yX.get rfl) (S3.cons (yX.get rfl) (S3.cons (yX.get rfl) yX.nil)))) L4 Bj ⟨hy,hoy⟩
 ·apply ws;intros;rename_i r4;intro w7 L4 a7 yX;exact main false zK r4 n b hs k w7 a7 (S3.cons (yX.get rfl) (S3.cons (yX.get rfl) (S3.cons (yX.get rfl) (S3.cons (yX.get rfl) yX.nil)))) L4 Bj Ed
end
def eHT(hm:Tryz.prog.follows .mixedOrders=true)(eU:Entry Tryz.prog 140 cn.u)(eF:Entry Tryz.prog 141 o9.u)(eR:Entry Tryz.prog 142 cf.u)(eD:Entry Tryz.prog 194 cJ.u):Entry Tryz.prog 82 pS.u:=by
 have hT:kh Tryz.prog ZY:=⟨.inl eU,.inl eF,.inl eR,trivial⟩;have US:kh Tryz.prog Vy:=⟨.inl eD,trivial⟩;refine⟨⟨_,Tryz.func82,by kernel_rfl,by kernel_rfl⟩,λargs K w h=>?_⟩;unfold pS.u at h;split at h
 rotate_left
 ·exact h.elim
 rename_i p now;obtain⟨W,L,a,b,m,hs,rfl,pI,Bh,hg,hlen,hk⟩:=h;refine(callsIn_wide (n:=0)).1 (callsIn_of_wp_marks Tryz.func82 Vm trivial ?_ rfl);have okF:Ok EP:=⟨hT,UY,hm⟩;obtain⟨dr0,dr1,dr2,dr3,-,-,dr7⟩:=Eu;have s0':S3 EP [] [(1,.i now),(0,.pointer (some ⟨a,0,none⟩))] {tmps:=⟨[.pointer (some ⟨a,0,none⟩),.i now]⟩++ae0 (Tryz.f82.ntmps-2) undef,defers:=[]}:=by
  rw[n82.1];refine S3.cons ?_ (S3.cons ?_ (S3.start rfl ?_))
  ·show(#[Value.pointer (some ⟨a,0,none⟩),.i now]++ae0 18 undef)[1]?=_;simp
  ·show(#[Value.pointer (some ⟨a,0,none⟩),.i now]++ae0 18 undef)[0]?=_;simp
  ·show(#[Value.pointer (some ⟨a,0,none⟩),.i now]++ae0 18 undef).size=20;simp
 refine vx (F:=EP) (.inl rfl) okF dr0 s0' ?_;rw[d0];refine T.at ?_ pI;refine qD λr0=>?_;intro w1 uU a1 UR;refine vx (F:=EP) (.inl rfl) okF dr1 UR ?_;rw[d1];refine T.at ?_ uU;refine jH rfl (vk ?_);refine P9 (p:=a) (by omega) λXo hx1=>zj ?_;have XF:=hx1.len;intro w2 fh a2 N1;refine vx (F:=EP) (.inl rfl) okF dr2 N1 ?_;rw[d2];refine T.at ?_ fh;refine qD λrn=>?_;apply ws;intros;intro w3 rB a3 Wj;refine wpIn_seq (vx (F:=EP) (.inl rfl) okF dr3 Wj ?_);rw[d3];refine T.at ?_ rB;refine jH rfl (vk ?_);unfold o9;refine qD λr1=>?_;intro w4 uE a4 PB;have uE:St W w4 (Sep.pt r1 [.pointer (some (ad a 0))]::Sep.pt rn [.i 0]::Sep.pt r0 [.pointer (some (ad a 0))]::bh a (Go.Up.tick b now,Xo)::L):=uE;show(Code.block 0 (.rangeFunc (.tmp 11) #[12] J4 bd)).wpIn Fence.wide 0 Tryz.prog _ a4 w4;refine wpIn_block ?_;refine Nb rfl (g:=.tmp 11) (gf:=193) (PB.eval rfl) Tryz.func193 (by kernel_rfl) (by kernel_rfl) λfn=>?_;have ho1:=(uE.W2 (.deferred (some [])) (by simp)).W2 (.loop {state:=.ready,pending:=none,fn:=fn,tmps:=a4.tmps,params:=#[12],assign:=J4,body:=bd,defers:=w4.heap.size}) (by simp);rw[World.size_alloc] at ho1;have Bj:VC (qc m now) (Go.Up.tick b now) Xo (yJ (qc m now).clock (qc m now).kept):=⟨qc m now,LR Bh now,zf hg now,RZ.refl _,rfl,by
  have:yJ (qc m now).clock (qc m now).kept<=96:=Nat.le_trans (List.length_filter_le _ _) hg.some_
  omega⟩
 refine Ve (W:=W) (L:=L) (a:=a) (m0:=qc m now) (r0:=r0) (rn:=rn) (D:=w4.heap.size) (tmps:=a4.tmps) hT US hm rfl PB.1.1.size (PB.get rfl) (PB.get rfl) ho1 Bj λn' b' cU k' w5 JL Ed JI=>?_;have hl5:=(JI.obj (k:=0) (b:=w4.heap.size+1) rfl).1;refine⟨_,_,run_endLoop hl5 (by simp),?_⟩;show Exit.inBlock 0 _ .normal _ _;have QU:=JI.put (k:=0) (b:=w4.heap.size+1) (.loop {state:=.exhausted,pending:=none,fn:=fn,tmps:=a4.tmps,params:=#[12],assign:=J4,body:=bd,defers:=w4.heap.size}) rfl (by simp);have QU:St W _ (ob (w4.heap.size+1) (.loop {state:=.exhausted,pending:=none,fn:=fn,tmps:=a4.tmps,params:=#[12],assign:=J4,body:=bd,defers:=w4.heap.size})::ob w4.heap.size (.deferred (some []))::Sep.pt r1 [.pointer (some (ad a 0))]::Sep.pt rn [.i n']::Sep.pt r0 [.pointer (some (ad a 0))]::bh a (b',cU)::L):=QU;show(Code.seq q7 .ret).wpIn Fence.wide 0 Tryz.prog _ _ _;have UQ:S3 EP [{target:=.collected w4.heap.size,args:=#[]}] [(5,.pointer (some (ad rn 0)))] {a4 with defers:={target:=.collected w4.heap.size,args:=#[]}::a4.defers}:=by
  refine S3.cons (PB.get rfl) ⟨⟨⟨PB.1.1.size,rfl,λt v hl=>by simp[lk] at hl⟩,PB.1.2⟩,?_⟩;show _::a4.defers=_;rw[PB.2]
 refine vx (F:=EP) (.inl rfl) okF dr7 UQ ?_;rw[d7];refine T.at ?_ QU;refine jH (r:=rn) (o:=0) rfl (lG ?_);intro w7 L4 a7 yX;show Code.ret.wpIn Fence.wide 0 Tryz.prog _ a7 w7;refine wpIn_ret ?_;show LeavesInM _ _ _ _ _ _ a7.defers _ _;rw[yX.2];have hD:=(L4.obj (k:=1) (b:=w4.heap.size) rfl).1;have hs8:=L4.put (k:=1) (b:=w4.heap.size) (.deferred none) rfl (by simp);refine⟨by simp,.inl ⟨_,_,rfl,run_takeDeferred hD,?_⟩⟩;refine⟨_,results_tmp n82.2 _ _ _,_,rfl,?_⟩;have e4:a7.tmps.getD 4 undef=.i n':=by rw[Array.getD_eq_getD_getElem?,yX.get (t:=4) rfl];rfl
 rw[e4];obtain⟨m',Ea,Q3,NT,-,XC⟩:=JL;have:=CZ Ea NT Ed;rw[<-DF] at this;subst this;exact hk n' b' cU _ Ea Q3 (by omega) hs8.drop.drop.drop.drop.drop
end Go.Proofs.YtnffemlgkghcfaaGreatDoor
