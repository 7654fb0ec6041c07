/- Part of the proof: see the last text. -/
import Derived.Test.YtnffemlgkghcfaaGreatDoorPD
import Derived.Test.YtnffemlgkghcfaaGreatDoorPB
import Derived.Test.YtnffemlgkghcfaaGreatDoorPA
import Derived.RangeFuncRecord
import Derived.RangeFuncCalls
import Derived.OrdersIn
import Derived.TacticsIn
import Derived.RangeFuncOwn
import Derived.Test.YtnffemlgkghcfaaGreatDoorProg
set_option linter.all false
set_option maxRecDepth 100000
set_option synthInstance.maxSize 100000
open Array renaming replicate→aeY
open Bool renaming eq_iff_iff→aed,false_ne_true→aej,false_eq_true→aef,and_eq_true→aeJ,true_and→aeS,false_and→ae1
open Decidable renaming not_not→ad4
open Go.IntKind renaming i64→adN
open Int renaming tmod_eq_emod_of_nonneg→aey,toNat_natCast→adR,eq_ofNat_of_zero_le→ad1,le_refl→afq
open List renaming getElem?_eq_getElem→adQ,getElem?_eq_some_iff→adS,perm_append_comm→adY,take_length→ad3,take_add_one→ad',append_nil→aeb,getElem_mem→aee,map_append→aen,length_append→adT,length_cons→ad8,length_nil→ael,Perm→aeh,nil_append→aet,mem_of_getElem?→aei,mem_or_eq_of_mem_set→aeG,length_set→aeV,length_take→adV,append_assoc→adZ,length_drop→ad2,Sublist→ad5,length_map→aeg,getElem?_append_right→aeo,map_cons→aer,drop_eq_getElem_cons→aev,mem_cons_of_mem→aeU,drop_zero→aeZ,mem_cons→ae9,length_singleton→afd,take_zero→aff,mem_append→aeu,mem_map→aeA,find?_eq_none→afb,set_set→ae4,getElem?_cons_succ→ad7,getElem?_append_left→aec,take_of_length_le→ad9,take_append_drop→aek,getElem?_set→aem,drop_of_length_le→aex,drop_drop→ae0,getElem?_drop→ae6,getElem?_of_mem→ae',take_take→afn,flatMap_cons→aeE,filter_cons_of_pos→aeP,filter_cons_of_neg→aeQ,flatMap_append→aeN,map_congr_left→ae7,map_nil→afp,getElem?_map→aeD,getElem?_range→afi,range→afl,cons_append→ae3,getElem?_take→afg
open Nat renaming zero_le→ad0,zero_add→adU,le_refl→adW,min_eq_left→afh,mul_le_mul_right→aeC,pow_le_pow_right→aeH,add_zero→aeL,sub_self→ae8,add_mul→afe,mul_comm→afo,mod_eq_of_lt→aez,eq_of_beq_eq_true→aeq,beq→afc
open Option renaming map_some→aeB,some→aea
namespace Go.Up
open Go.Sep Go.Den Go.RowKit Go.Prog Go.Md Go.bu
def yp(I1:LV->World->Prop)(oT:LV->World->Nat)(w2:World)(a4 a5:Addr)(rj:OA)(pn qK:Nat)(n2 n3:Int):WK:=λw3=>
 I1 [.p (some a4),.p (some a5),.l rj pn qK,.i n2,.i (adN.wrap (n3+1))] w3/\oT [.p (some a4),.p (some a5),.l rj pn qK,.i n2,.i (adN.wrap (n3+1))] w3<oT [.p (some a4),.p (some a5),.l rj pn qK,.i n2,.i n3] w2
section
variable {W w2:World} {L R:LH} {K:VK} {r2 r3 r4:Nat} {a:aP} {k:Kept} {I1:LV->World->Prop} {oT:LV->World->Nat} {a4:Addr} {rj:OA} {pn qK:Nat} {n2 n3:Int}
def OM{b:Bool}(hf:0<=a.flags/\a.flags<1000000)(hb:b=decide (gF a.id k))
 (h:T W (Sep.pt r4 (ai k.move)::Sep.pt r3 (aI k)::Sep.pt r2 (ao {a with flags:=if gF a.id k then a.flags%8+8 else a.flags})::L) (yp I1 oT w2 a4 (ad r2 0) rj pn qK n2 n3)):
 T W (Sep.pt r4 (ai k.move)::Sep.pt r3 (aI k)::Sep.pt r2 (ao a)::L) (aa.Ua K (ad r2 0) I1 a4 rj pn qK n2 n3 oT w2 b):=by
 unfold aa.Ua;have e1:adN.wrap (a.flags.tmod 8+8)=a.flags%8+8:=by rw[aey hf.1];exact aw (by omega)
 cases b with
 |true=>
  rw[if_pos (of_decide_eq_true hb.symm)] at h
  repeat' first|apply ws;intros|apply wb|with_reducible refine cK (by decide) ?_|fail
  rw[e1];exact h
 |false=>
  rw[if_neg (of_decide_eq_false hb.symm)] at h;rw[cf];exact h
def ON{b:Bool}(hf:0<=a.flags/\a.flags<1000000)(hb:b=decide (has k.move.flags 64/\k.move.aE=a.id\/has k.move.flags 128/\k.move.ar=a.id))
 (h:T W (Sep.pt r4 (ai k.move)::Sep.pt r3 (aI k)::Sep.pt r2 (ao {a with flags:=if gF a.id k then a.flags%8+8 else a.flags})::L) (yp I1 oT w2 a4 (ad r2 0) rj pn qK n2 n3)):
 T W (Sep.pt r4 (ai k.move)::Sep.pt r3 (aI k)::Sep.pt r2 (ao a)::L) (aa.F6 K r3 (ad r2 0) I1 a4 rj pn qK n2 n3 oT w2 b):=by
 unfold aa.F6;cases b with
 |true=>
  have hc:=of_decide_eq_true hb.symm;apply ws;intros;refine bB (λg1=>?_) (λg1=>?_)
  ·have g1:k.fate=1:=by simpa using g1
   exact OM hf (decide_eq_true (show gF a.id k from⟨hc,.inl g1⟩)).symm h
  ·have g1: ¬k.fate=1:=by simpa using g1
   apply ws;intros;refine OM hf ?_ h;rw[aed,beq_iff_eq,decide_eq_true_eq];exact⟨λhh=>⟨hc,.inr hh⟩,λhh=>hh.2.resolve_left g1⟩
 |false=>
  have hc:=of_decide_eq_false hb.symm;rw[cf];exact OM hf (decide_eq_false (show ¬gF a.id k from λhh=>hc hh.1)).symm h
def S8{b:Bool}(hf:0<=a.flags/\a.flags<1000000)(hm:0<=k.move.flags/\k.move.flags<1000000)(hb:b=decide (has k.move.flags 64/\k.move.aE=a.id))
 (h:T W (Sep.pt r4 (ai k.move)::Sep.pt r3 (aI k)::Sep.pt r2 (ao {a with flags:=if gF a.id k then a.flags%8+8 else a.flags})::L) (yp I1 oT w2 a4 (ad r2 0) rj pn qK n2 n3)):
 T W (Sep.pt r4 (ai k.move)::Sep.pt r3 (aI k)::Sep.pt r2 (ao a)::L) (aa.V' K r3 (ad r2 0) I1 a4 rj pn qK n2 n3 oT w2 r4 b):=by
 unfold aa.V';cases b with
 |true=>
  have hc:=of_decide_eq_true hb.symm;rw[gU];exact ON hf (decide_eq_true (.inl hc)).symm h
 |false=>
  have hc:=of_decide_eq_false hb.symm;rw[cf];apply ws;intros;refine gZ hm (by decide) ?_;apply ws;intros;by_cases g1:has k.move.flags 128
  ·rw[decide_eq_true g1];apply ws;intros;refine ON hf ?_ h;rw[decide_eq_decide];exact⟨λhh=>.inr ⟨g1,hh⟩,λhh=>(hh.resolve_left hc).2⟩
  ·rw[decide_eq_false g1];apply ws;intros;exact ON hf (decide_eq_false (λhh=>g1 (hh.resolve_left hc).1)).symm h
def ac0(hf:0<=a.flags/\a.flags<1000000)(hm:0<=k.move.flags/\k.move.flags<1000000)
 (h:T W (Sep.pt r4 (ai k.move)::Sep.pt r3 (aI k)::Sep.pt r2 (ao {a with flags:=if gF a.id k then a.flags%8+8 else a.flags})::L) (yp I1 oT w2 a4 (ad r2 0) rj pn qK n2 n3)):
 T W (Sep.pt r4 (ai k.move)::Sep.pt r3 (aI k)::Sep.pt r2 (ao a)::L) (aa.j9 K r4 (ad r2 0) r3 I1 a4 rj pn qK n2 n3 oT w2):=by
 unfold aa.j9;apply ws;intros;refine gZ hm (by decide) ?_;apply ws;intros;by_cases g1:has k.move.flags 64
 ·rw[decide_eq_true g1];apply ws;intros;refine S8 hf hm ?_ h;rw[decide_eq_decide];exact⟨λhh=>⟨g1,hh⟩,λhh=>hh.2⟩
 ·rw[decide_eq_false g1];apply ws;intros;exact S8 hf hm (decide_eq_false (λhh=>g1 hh.1)).symm h
def ac1{b:Bool}(h1:a.cp<aK)(h2:k.move.aB<aK)(h:T W (Sep.pt r4 (ai k.move)::Sep.pt r3 (aI k)::Sep.pt r2 (ao {a with cp:=if b=true then add a.cp k.move.aB else a.cp})::L) (aa.j9 K r4 (ad r2 0) r3 I1 a4 rj pn qK n2 n3 oT w2)):T W (Sep.pt r4 (ai k.move)::Sep.pt r3 (aI k)::Sep.pt r2 (ao a)::L) (aa.j8 K (ad r2 0) r4 r3 I1 a4 rj pn qK n2 n3 oT w2 b):=by
 unfold aa.j8;cases b with
 |true=>
  rw[if_pos rfl] at h;apply ws;intros;refine wy h1 h2 ?_;apply ws;intros;exact h
 |false=>
  rw[if_neg aej] at h;rw[cf];exact h
def ac2(h1:a.cp<aK)(h2:k.move.aB<aK)(h:T W (Sep.pt r4 (ai k.move)::Sep.pt r3 (aI k)::Sep.pt r2 (ao {a with cp:=if k.fate=1/\k.move.ar=a.id then add a.cp k.move.aB else a.cp})::L) (aa.j9 K r4 (ad r2 0) r3 I1 a4 rj pn qK n2 n3 oT w2)):T W (Sep.pt r4 (ai k.move)::Sep.pt r3 (aI k)::Sep.pt r2 (ao a)::L) (aa.j7 K r3 r4 (ad r2 0) I1 a4 rj pn qK n2 n3 oT w2):=by
 unfold aa.j7;have fin:∀b:Bool,b=decide (k.fate=1/\k.move.ar=a.id)->T W (Sep.pt r4 (ai k.move)::Sep.pt r3 (aI k)::Sep.pt r2 (ao a)::L) (aa.j8 K (ad r2 0) r4 r3 I1 a4 rj pn qK n2 n3 oT w2 b):=λb hb=>by
  refine ac1 h1 h2 ?_;have e:(if b=true then add a.cp k.move.aB else a.cp)=(if k.fate=1/\k.move.ar=a.id then add a.cp k.move.aB else a.cp):=by
   subst hb;by_cases hc:k.fate=1/\k.move.ar=a.id
   ·rw[if_pos (decide_eq_true hc),if_pos hc]
   ·rw[if_neg (by rw[decide_eq_false hc];exact aej),if_neg hc]
  rw[e];exact h
 apply ws;intros;refine bB (λg1=>?_) (λg1=>?_)
 ·have g1:k.fate=1:=by simpa using g1
  apply ws;intros;refine fin _ ?_;rw[decide_eq_decide];exact⟨λhh=>⟨g1,hh⟩,λhh=>hh.2⟩
 ·have g1: ¬k.fate=1:=by simpa using g1
  exact fin _ (decide_eq_false (λhh=>g1 hh.1)).symm
def ac3{b:Bool}(h1:a.dp<aK)(h2:k.move.aB<aK)(h:T W (Sep.pt r4 (ai k.move)::Sep.pt r3 (aI k)::Sep.pt r2 (ao {a with dp:=if b=true then add a.dp k.move.aB else a.dp})::L) (aa.j7 K r3 r4 (ad r2 0) I1 a4 rj pn qK n2 n3 oT w2)):T W (Sep.pt r4 (ai k.move)::Sep.pt r3 (aI k)::Sep.pt r2 (ao a)::L) (aa.j6 K (ad r2 0) r4 r3 I1 a4 rj pn qK n2 n3 oT w2 b):=by
 unfold aa.j6;cases b with
 |true=>
  rw[if_pos rfl] at h;apply ws;intros;refine wy h1 h2 ?_;apply ws;intros;exact h
 |false=>
  rw[if_neg aej] at h;rw[cf];exact h
def ac4(h1:a.dp<aK)(h2:k.move.aB<aK)(h:T W (Sep.pt r4 (ai k.move)::Sep.pt r3 (aI k)::Sep.pt r2 (ao {a with dp:=if k.fate=1/\k.move.aE=a.id then add a.dp k.move.aB else a.dp})::L) (aa.j7 K r3 r4 (ad r2 0) I1 a4 rj pn qK n2 n3 oT w2)):T W (Sep.pt r4 (ai k.move)::Sep.pt r3 (aI k)::Sep.pt r2 (ao a)::L) (aa.j5 K r3 r4 (ad r2 0) I1 a4 rj pn qK n2 n3 oT w2):=by
 unfold aa.j5;have fin:∀b:Bool,b=decide (k.fate=1/\k.move.aE=a.id)->T W (Sep.pt r4 (ai k.move)::Sep.pt r3 (aI k)::Sep.pt r2 (ao a)::L) (aa.j6 K (ad r2 0) r4 r3 I1 a4 rj pn qK n2 n3 oT w2 b):=λb hb=>by
  refine ac3 h1 h2 ?_;have e:(if b=true then add a.dp k.move.aB else a.dp)=(if k.fate=1/\k.move.aE=a.id then add a.dp k.move.aB else a.dp):=by
   subst hb;by_cases hc:k.fate=1/\k.move.aE=a.id
   ·rw[if_pos (decide_eq_true hc),if_pos hc]
   ·rw[if_neg (by rw[decide_eq_false hc];exact aej),if_neg hc]
  rw[e];exact h
 apply ws;intros;refine bB (λg1=>?_) (λg1=>?_)
 ·have g1:k.fate=1:=by simpa using g1
  apply ws;intros;refine fin _ ?_;rw[decide_eq_decide];exact⟨λhh=>⟨g1,hh⟩,λhh=>hh.2⟩
 ·have g1: ¬k.fate=1:=by simpa using g1
  exact fin _ (decide_eq_false (λhh=>g1 hh.1)).symm
def ac5{b:Bool}(h1:a.cq<aK)(h2:k.move.aB<aK)(h:T W (Sep.pt r4 (ai k.move)::Sep.pt r3 (aI k)::Sep.pt r2 (ao {a with cq:=if b=true then add a.cq k.move.aB else a.cq})::L) (aa.j5 K r3 r4 (ad r2 0) I1 a4 rj pn qK n2 n3 oT w2)):T W (Sep.pt r4 (ai k.move)::Sep.pt r3 (aI k)::Sep.pt r2 (ao a)::L) (aa.j4 K (ad r2 0) r4 r3 I1 a4 rj pn qK n2 n3 oT w2 b):=by
 unfold aa.j4;cases b with
 |true=>
  rw[if_pos rfl] at h;apply ws;intros;refine wy h1 h2 ?_;apply ws;intros;exact h
 |false=>
  rw[if_neg aej] at h;rw[cf];exact h
def ac6{b1:Bool}(h1:a.cq<aK)(h2:k.move.aB<aK)(h:T W (Sep.pt r4 (ai k.move)::Sep.pt r3 (aI k)::Sep.pt r2 (ao {a with cq:=if b1=true/\k.move.ar=a.id then add a.cq k.move.aB else a.cq})::L) (aa.j5 K r3 r4 (ad r2 0) I1 a4 rj pn qK n2 n3 oT w2)):T W (Sep.pt r4 (ai k.move)::Sep.pt r3 (aI k)::Sep.pt r2 (ao a)::L) (aa.j3 K b1 r4 (ad r2 0) r3 I1 a4 rj pn qK n2 n3 oT w2):=by
 unfold aa.j3;have fin:∀b:Bool,b=decide (b1=true/\k.move.ar=a.id)->T W (Sep.pt r4 (ai k.move)::Sep.pt r3 (aI k)::Sep.pt r2 (ao a)::L) (aa.j4 K (ad r2 0) r4 r3 I1 a4 rj pn qK n2 n3 oT w2 b):=λb hb=>by
  refine ac5 h1 h2 ?_;have e:(if b=true then add a.cq k.move.aB else a.cq)=(if b1=true/\k.move.ar=a.id then add a.cq k.move.aB else a.cq):=by
   subst hb;by_cases hc:b1=true/\k.move.ar=a.id
   ·rw[if_pos (decide_eq_true hc),if_pos hc]
   ·rw[if_neg (by rw[decide_eq_false hc];exact aej),if_neg hc]
  rw[e];exact h
 cases b1 with
 |true=>
  apply ws;intros;refine fin _ ?_;rw[decide_eq_decide];exact⟨λhh=>⟨rfl,hh⟩,λhh=>hh.2⟩
 |false=>
  rw[cf];exact fin _ (decide_eq_false (λhh=>aej hh.1)).symm
def ac7{b:Bool}{b1:Bool}(h1:a.dq<aK)(h2:k.move.aB<aK)(h:T W (Sep.pt r4 (ai k.move)::Sep.pt r3 (aI k)::Sep.pt r2 (ao {a with dq:=if b=true then add a.dq k.move.aB else a.dq})::L) (aa.j3 K b1 r4 (ad r2 0) r3 I1 a4 rj pn qK n2 n3 oT w2)):T W (Sep.pt r4 (ai k.move)::Sep.pt r3 (aI k)::Sep.pt r2 (ao a)::L) (aa.j2 K (ad r2 0) r4 b1 r3 I1 a4 rj pn qK n2 n3 oT w2 b):=by
 unfold aa.j2;cases b with
 |true=>
  rw[if_pos rfl] at h;apply ws;intros;refine wy h1 h2 ?_;apply ws;intros;exact h
 |false=>
  rw[if_neg aej] at h;rw[cf];exact h
def ac8{b1:Bool}(h1:a.dq<aK)(h2:k.move.aB<aK)(h:T W (Sep.pt r4 (ai k.move)::Sep.pt r3 (aI k)::Sep.pt r2 (ao {a with dq:=if b1=true/\k.move.aE=a.id then add a.dq k.move.aB else a.dq})::L) (aa.j3 K b1 r4 (ad r2 0) r3 I1 a4 rj pn qK n2 n3 oT w2)):T W (Sep.pt r4 (ai k.move)::Sep.pt r3 (aI k)::Sep.pt r2 (ao a)::L) (aa.j1 K r4 (ad r2 0) r3 I1 a4 rj pn qK n2 n3 oT w2 b1):=by
 unfold aa.j1;have fin:∀b:Bool,b=decide (b1=true/\k.move.aE=a.id)->T W (Sep.pt r4 (ai k.move)::Sep.pt r3 (aI k)::Sep.pt r2 (ao a)::L) (aa.j2 K (ad r2 0) r4 b1 r3 I1 a4 rj pn qK n2 n3 oT w2 b):=λb hb=>by
  refine ac7 h1 h2 ?_;have e:(if b=true then add a.dq k.move.aB else a.dq)=(if b1=true/\k.move.aE=a.id then add a.dq k.move.aB else a.dq):=by
   subst hb;by_cases hc:b1=true/\k.move.aE=a.id
   ·rw[if_pos (decide_eq_true hc),if_pos hc]
   ·rw[if_neg (by rw[decide_eq_false hc];exact aej),if_neg hc]
  rw[e];exact h
 cases b1 with
 |true=>
  apply ws;intros;refine fin _ ?_;rw[decide_eq_decide];exact⟨λhh=>⟨rfl,hh⟩,λhh=>hh.2⟩
 |false=>
  rw[cf];exact fin _ (decide_eq_false (λhh=>aej hh.1)).symm
end
def G6(a:aP):Prop:=a.dp<aK/\a.dq<aK/\a.cp<aK/\a.cq<aK/\0<=a.flags/\a.flags<1000000
def Wq(k:Kept):Prop:=k.move.aB<aK/\0<=k.move.flags/\k.move.flags<1000000
def BT(a b:Nat):add a b<aK:=by
 unfold add;split
 ·assumption
 ·unfold aK;decide
def Qj{a:aP}{k:Kept}(h:G6 a):G6 (sy a k):=by
 obtain⟨h1,h2,h3,h4,h5,h6⟩:=h;refine⟨?_,?_,?_,?_,?_,?_⟩
 ·show(if _ then _ else _)<aK;split;exact BT _ _;exact h1
 ·show(if _ then _ else _)<aK;split;exact BT _ _;exact h2
 ·show(if _ then _ else _)<aK;split;exact BT _ _;exact h3
 ·show(if _ then _ else _)<aK;split;exact BT _ _;exact h4
 ·show 0<=(if gF a.id k then a.flags%8+8 else a.flags);split<;>omega
 ·show(if gF a.id k then a.flags%8+8 else a.flags)<1000000;split<;>omega
def Fy{a:aP}(l:List Kept)(h:G6 a):G6 (l.foldl sy a):=by
 induction l generalizing a with
 |nil=>exact h
 |cons k l ih=>exact ih (Qj h)
section
variable {W w2:World} {L R:LH} {K:VK} {r2 r3 r4 p:Nat} {a:aP} {k:Kept} {m:Model} {mb kb:OA} {mc kc:Nat} {I1:LV->World->Prop} {oT:LV->World->Nat} {a4:Addr} {rj:OA} {pn qK:Nat} {n2 n3:Int}
def Vx{b1:Bool}(ha:G6 a)(hk:Wq k)(hb:b1=decide (ig k))
 (h:T W (Sep.pt r4 (ai k.move)::Sep.pt r3 (aI k)::Sep.pt r2 (ao (sy a k))::L) (yp I1 oT w2 a4 (ad r2 0) rj pn qK n2 n3)):
 T W (Sep.pt r4 (ai k.move)::Sep.pt r3 (aI k)::Sep.pt r2 (ao a)::L) (aa.j1 K r4 (ad r2 0) r3 I1 a4 rj pn qK n2 n3 oT w2 b1):=by
 obtain⟨h1,h2,h3,h4,h5,h6⟩:=ha;obtain⟨k1,k2,k3⟩:=hk;have e:∀(P:Prop) [Decidable P](x y:Nat),(if b1=true/\P then x else y)=if ig k/\P then x else y:=λP _ x y=>by
  subst hb;by_cases hc:ig k
  ·by_cases hp:P
   ·rw[if_pos ⟨decide_eq_true hc,hp⟩,if_pos ⟨hc,hp⟩]
   ·rw[if_neg (λhh=>hp hh.2),if_neg (λhh=>hp hh.2)]
  ·rw[if_neg (λhh=>hc (of_decide_eq_true hh.1)),if_neg (λhh=>hc hh.1)]
 refine ac8 h2 k1 ?_;refine ac6 h4 k1 ?_;refine ac4 h1 k1 ?_;refine ac2 h3 k1 ?_;refine ac0 (show 0<=a.flags/\a.flags<1000000 from⟨h5,h6⟩) ⟨k2,k3⟩ ?_;rw[e,e];exact h
def zG{i:Nat}(hn:m.kept.length<1000000)(hx:m.made[i]?=some a)(ha:G6 a)(hk:∀k∈m.kept,Wq k)
 (h:T W (ML p m mb mc kb kc R) (K (.agg ⟨ao (m.kept.foldl sy a)⟩))):T W (ML p m mb mc kb kc R) (aa (some ⟨p,0,none⟩) (i:Int) K):=by
 unfold aa;have Le:=(adS.1 hx).1;apply ws;intros;rename_i r1;refine bR (b:=mb) ⟨by omega,by omega⟩ λrb hb=>?_;rw[adR];subst hb;refine dy eY hx ?_;apply ws;intros;rename_i r2;intro w jF;refine⟨λvv w=>∃j:Nat,j<=m.kept.length/\vv=[.p (some (ad r1 0)),.p (some (ad r2 0)),.l kb m.kept.length kc,.i (m.kept.length:Int),.i (j:Int)]/\St W w (Sep.pt r2 (ao ((m.kept.take j).foldl sy a))::Sep.pt r1 (ao zA)::ML p m (some ⟨rb,0,none⟩) mc kb kc R),
  λvs _=>match vs with|[_,_,_,_,.int _ d]=>m.kept.length-d.toNat|_=>0,⟨0,ad0 _,rfl,jF⟩,?_⟩
 rintro a4 a5 rj pn qK n2 n3 w2 ⟨j,hj,e,fj⟩;cases e
 refine T.at ?_ fj;have e5:=l9 j;refine dO (λg1=>?_) (λg1=>?_)
 ·have aZ:j<m.kept.length:=by omega
  have gx:=adQ aZ;have NU:=hk _ (aee aZ);generalize m.kept[j]=x at gx NU;refine bR (b:=kb) ⟨by omega,by omega⟩ λrk ue=>?_;rw[adR];subst ue;refine dy fB gx ?_;apply ws;intros;rename_i r3 r4;have aaS:=Fy (m.kept.take j) ha;have dZ:(m.kept.take (j+1)).foldl sy a=sy ((m.kept.take j).foldl sy a) x:=by rw[ad',gx,List.foldl_append];rfl
  have fin:∀b1:Bool,b1=decide (ig x)->T W (Sep.pt r4 (ai x.move)::Sep.pt r3 (aI x)::Sep.pt r2 (ao ((m.kept.take j).foldl sy a))::Sep.pt r1 (ao zA)::ML p m (some ⟨rb,0,none⟩) mc (some ⟨rk,0,none⟩) kc R)
   (aa.j1 K r4 (ad r2 0) r3 (λvv w=>∃j:Nat,j<=m.kept.length/\vv=[.p (some (ad r1 0)),.p (some (ad r2 0)),.l (some ⟨rk,0,none⟩) m.kept.length kc,.i (m.kept.length:Int),.i (j:Int)]/\St W w (Sep.pt r2 (ao ((m.kept.take j).foldl sy a))::Sep.pt r1 (ao zA)::ML p m (some ⟨rb,0,none⟩) mc (some ⟨rk,0,none⟩) kc R)) (ad r1 0) (some ⟨rk,0,none⟩) m.kept.length kc (m.kept.length:Int) (j:Int) (λvs _=>match vs with|[_,_,_,_,.int _ d]=>m.kept.length-d.toNat|_=>0) w2 b1):=λb1 PB=>by
   refine Vx aaS NU PB ?_;unfold yp;rw[e5];refine T.drop (T.drop λw3 h3=>⟨⟨j+1,aZ,rfl,by rw[dZ];exact h3⟩,by show m.kept.length-((j+1:Nat):Int).toNat<m.kept.length-(j:Int).toNat;omega⟩)
  refine gZ ⟨NU.2.1,NU.2.2⟩ (by decide) ?_;apply ws;intros;by_cases g2:has x.move.flags 2
  ·rw[decide_eq_true g2];apply ws;intros;exact fin _ (decide_eq_false (λhh=>hh.1 g2)).symm
  ·rw[decide_eq_false g2];apply ws;intros;refine gZ ⟨NU.2.1,NU.2.2⟩ (by decide) ?_;apply ws;intros;refine fin _ ?_;by_cases g3:has x.move.flags 8
   ·rw[decide_eq_true g3];exact(decide_eq_false (λhh=>hh.2 g3)).symm
   ·rw[decide_eq_false g3];exact(decide_eq_true (show ig x from⟨g2,g3⟩)).symm
 ·have gj:j=m.kept.length:=by omega
  subst gj;rw[ad3];apply ws;intros;exact T.dp h
def yG(hm:m.made.length<1000000)(hn:m.kept.length<1000000)(ha:∀a∈m.made,G6 a)(hk:∀k∈m.kept,Wq k)
 (h:∀ob oc,T W (ML p m mb mc kb kc (own ob m.made.length oc 14 ((m.made.map m.full).flatMap ao)::R)) (K (.l ob m.made.length oc))):T W (ML p m mb mc kb kc R) (dQ (some ⟨p,0,none⟩) K):=by
 unfold dQ;apply ws;intros;refine eW (e:=14) ?_;refine T.perm (L:=ML p m mb mc kb kc (own none 0 0 14 []::R)) ?_ (adY (l₁:=[own none 0 0 14 []]) (l₂:=[_,_,_])|>.append_right R);intro w jF;refine⟨λvv w=>∃(i:Nat)(ob:OA)(oc:Nat)(out:List aP),i<=m.made.length/\out=(m.made.take i).map m.full/\vv=[.l none 0 0,.l ob i oc,.i (m.made.length:Int),.i (i:Int)]/\St W w (ML p m mb mc kb kc (own ob i oc 14 (out.flatMap ao)::R)),
  λvs _=>match vs with|[_,_,_,.int _ d]=>m.made.length-d.toNat|_=>0,⟨0,none,0,[],ad0 _,rfl,rfl,jF⟩,?_⟩
 rintro sm qB sw ob i oc n1 n2 w2 ⟨i0,ob0,oc0,out,hi,tA,e,fj⟩;cases e
 refine T.at ?_ fj;have e5:=l9 i;refine dO (λg1=>?_) (λg1=>?_)
 ·have aZ:i<m.made.length:=by omega
  have gx:=adQ aZ;have hax:=ha _ (aee aZ);generalize m.made[i]=x at gx hax;refine zG hn gx hax hk ?_;apply ws;intros;refine gY (g:=ao) (l:=out) (x:=m.full x) (aeb _) rfl rfl (by omega) (by omega) (eV _) λb' c'=>?_;rw[e5];refine T.drop λw3 h3=>⟨⟨i+1,b',c',out++[m.full x],aZ,?_,rfl,h3⟩,by show m.made.length-((i+1:Nat):Int).toNat<m.made.length-(i:Int).toNat;omega⟩;rw[ad',gx,aen,tA];rfl
 ·have gj:i=m.made.length:=by omega
  subst gj;rw[ad3] at tA;subst tA;exact h ob oc
end
instance V8{m:Model}{mb kb:OA}{mc kc:Nat}{c:Int}:Wr (zo m mb mc kb kc) 3 [.i c] (zo {m with ae:=c} mb mc kb kc):=⟨rfl,by show 4<=4;decide,λv h=>by simp at h;subst h;rfl⟩
instance Xb{m:Model}{mb kb b:OA}{mc kc n c:Nat}:Wr (zo m mb mc kb kc) 1 [.l b n c] [.l mb m.made.length mc,.l b n c,.i m.clock,.i m.ae]:=⟨rfl,by show 2<=4;decide,λv h=>by simp at h;subst h;rfl⟩
instance Xa{m:Model}{mb kb b:OA}{mc kc n c:Nat}:Wr (zo m mb mc kb kc) 0 [.l b n c] [.l b n c,.l kb m.kept.length kc,.i m.clock,.i m.ae]:=⟨rfl,by show 1<=4;decide,λv h=>by simp at h;subst h;rfl⟩
section
variable {W w2:World} {L R:LH} {K:VK} {p:Nat} {a:aP} {t u:Move} {m:Model} {mb kb:OA} {mc kc:Nat}
def DY{fate:Int}(hn:m.kept.length<1000000)(hs:0<=m.ae/\m.ae<1000000)
 (h:∀b c,T W (ML p (m.jT t u fate) mb mc b c R) (K (.tuple ⟨[]⟩))):T W (ML p m mb mc kb kc R) (dT (some ⟨p,0,none⟩) (ai t) (ai u) fate K):=by
 unfold dT;have e1:adN.wrap (m.ae+1)=m.ae+1:=aw (by omega);apply ws;intros;rw[e1];refine gY (b:=kb) (g:=aI) (l:=m.kept) (x:=⟨t,{u with ae:=m.ae+1,born:=m.clock},fate⟩) (aeb _) rfl rfl (by show(m.kept.length+1)* 264<=_;omega) (by show m.kept.length+1<=_;omega) (ji _) λb' c'=>?_;apply ws;intros;have:=h b' c';unfold Model.jT ML zo at this;simp only[adT,ad8,ael,adU] at this;refine T.sub this ?_;exact mZ
end
section
variable {W:World} {L R:LH} {K:VK} {X:WK} {p r e:Nat} {A B:HP} {m:Model} {mb kb:OA} {mc kc:Nat}
def xw(e:Nat)(h:T W (own (some ⟨r,0,none⟩) 0 0 e []::L) X):T W (Sep.pt r []::L) X:=λw hs=>
 h w (St.xM (k:=0) (L:=Sep.pt r []::L) (xs:=[]) (sp:=[]) (n:=0) (c:=0) (e:=e) (by simp) (by simp) (adW _) (by simp) hs)
def T.swap(h:T W (B::A::L) X):T W (A::B::L) X:=T.perm h (aeh.swap _ _ _)
def T.MW{C:HP}(h:T W (A::C::B::L) X):T W (A::B::C::L) X:=T.perm h ((aeh.swap _ _ _).cons _)
def DZ(hm:m.made.length<1000000)(hn:m.kept.length<1000000)
 (h:∀p2 mb2 mc2 kb2 kc2,T W (ML p2 m mb2 mc2 kb2 kc2 (ML p m mb mc kb kc R)) (K (.p (some ⟨p2,0,none⟩)))):T W (ML p m mb mc kb kc R) (dU (some ⟨p,0,none⟩) K):=by
 unfold dU
 repeat' first|apply ws;intros|apply wb
 ·rename_i r1;refine xw 14 ?_;refine nF (l0:=([]:List aP)) (l1:=m.made) eY rfl (by omega) eV λb2 c2=>?_;rw[adU,aet];apply ws;intros;refine xw 33 ?_;refine nF (l0:=([]:List Kept)) (l1:=m.kept) fB rfl (by omega) ji λb3 c3=>?_;rw[adU,aet];apply ws;intros;exact T.MW (h _ _ _ _ _)
 ·rename_i r1 r4;refine T.swap ?_;refine xw 14 ?_;refine nF (l0:=([]:List aP)) (l1:=m.made) eY rfl (by omega) eV λb2 c2=>?_;rw[adU,aet];refine T.swap ?_;apply ws;intros;refine xw 33 ?_;refine nF (l0:=([]:List Kept)) (l1:=m.kept) fB rfl (by omega) ji λb3 c3=>?_;rw[adU,aet];apply ws;intros;exact T.MW (h _ _ _ _ _)
 ·rename_i r6 r7;refine xw 14 ?_;refine nF (l0:=([]:List aP)) (l1:=m.made) eY rfl (by omega) eV λb2 c2=>?_;rw[adU,aet];refine T.swap ?_;apply ws;intros;refine xw 33 ?_;refine nF (l0:=([]:List Kept)) (l1:=m.kept) fB rfl (by omega) ji λb3 c3=>?_;rw[adU,aet];apply ws;intros;exact T.MW (h _ _ _ _ _)
end
section
variable {W:World} {L R:LH} {K:VK} {X:WK} {p r e:Nat} {a:aP} {m:Model} {mb kb:OA} {mc kc:Nat}
def O8{ks:List Kept}(hl:ks.length=m.kept.length)(h:T W (ML p {m with kept:=ks} mb mc kb kc R) X):T W (Sep.pt p (zo m mb mc kb kc)::own mb m.made.length mc 14 (m.made.flatMap ao)::own kb m.kept.length kc 33 (ks.flatMap aI)::R) X:=by
 unfold ML zo at h;rw[hl] at h;exact h
def KB{RF i id:Nat}{x:Kept}(hm:m.made.length<1000000)(hn:m.kept.length<1000000)(gx:m.kept[RF]?=some x)(hi:Bh (λx:aP=>decide (x.id=id)) m.made=(i:Int))(hx:m.made[i]?=some a)(ha:G6 a)(hk:∀k∈m.kept,Wq k)
 (h:T W (ML p m mb mc kb kc R) (K (.bool (decide (8<=((m.kept.set RF {x with fate:=3}).foldl sy a).flags))))):T W (ML p m mb mc kb kc R) (dE (some ⟨p,0,none⟩) (nm id) (RF:Int) K):=by
 unfold dE;have X2:=(adS.1 gx).1;have NU:Wq x:=hk x (aei gx);apply ws;intros;rename_i r1;refine T.perm (L:=ML p m mb mc kb kc (Sep.pt r1 (nm id)::R)) ?_ (adY (l₁:=[Sep.pt r1 (nm id)]) (l₂:=[_,_,_])|>.append_right R);refine DZ hm hn λp2 mb2 mc2 kb2 kc2=>?_;apply ws;intros;refine bR (b:=kb2) ⟨by omega,by omega⟩ λrb hb=>?_;rw[adR];subst hb;refine I3 ?_;refine An (o:=RF) (x:=x) (y:={x with fate:=3}) fB gx rfl (by decide) rfl ?_;apply ws;intros;refine O8 (ks:=m.kept.set RF {x with fate:=3}) aeV ?_;refine sz (m:={m with kept:=m.kept.set RF {x with fate:=3}}) hm ?_;rw[hi];apply ws;intros;refine zG (m:={m with kept:=m.kept.set RF {x with fate:=3}}) (by rw[aeV];exact hn) hx ha (λk ru=>?_) ?_
 ·rcases aeG ru with hh|hh
  ·exact hk k hh
  ·subst hh;exact NU
 apply ws;intros;intro w hw;refine⟨_,rfl,?_⟩
 revert w hw
 show T W _ _;apply ws;intros;refine T.sub h ?_;exact mZ
end
section
variable {W:World} {L R:LH} {K:VK} {X:WK} {t u:Move}
def KE(h:T W L (K (.agg ⟨nm (aK-1)⟩))):T W L (kr K):=by
 unfold kr;apply ws;intros;exact T.dp h
def AR(ht:0<=t.flags/\t.flags<1000000)(hu:0<=u.flags/\u.flags<1000000)(h:T W L (K (.i (qy t u)))):T W L (ia (ai t) (ai u) K):=by
 unfold ia;unfold qy at h
 repeat' first|apply ws;intros|apply wb|with_reducible refine cK (by decide) ?_|fail
 rw[uM ht.1 ht.2 (by decide)]
 repeat' first|apply ws;intros|apply wb|with_reducible refine cK (by decide) ?_|fail
 rw[uM hu.1 hu.2 (by decide)]
 repeat' first|apply ws;intros|apply wb|with_reducible refine MO ?_|fail
 refine dO (λg1=>?_) (λg1=>?_)
 ·rw[if_pos g1] at h;exact T.dp h
 ·rw[if_neg g1] at h;exact T.dp h
end
def Je{m j:Nat}(hj:j<=64):shr .u64 (m:Int) (j:Int)=((m/2^j:Nat):Int):=by
 unfold shr;rw[adR,show min j IntKind.u64.bits=j from afh hj,Int.fdiv_eq_ediv_of_nonneg _ (by exact Int.le_of_lt (Int.pow_pos (by decide)))];rw[show((2:Int)^j)=((2^j:Nat):Int) by push_cast;rfl];exact(Int.natCast_ediv _ _).symm
def J4(m:Nat):adN.wrap (((m:Nat):Int).tmod (2:Int))=((m%2:Nat):Int):=by
 rw[aey (by omega)];rw[aw (by omega)];omega
section
variable {W:World} {L R:LH} {K:VK} {X:WK}
def qi{n j:Nat}(hn:n<aK)(hj:j<128)(h:T W L (K (.i ((n/2^j%2:Nat):Int)))):T W L (dB (nm n) (j:Int) K):=by
 unfold dB;unfold nm;apply ws;intros;refine dO (λg1=>?_) (λg1=>?_)
 ·obtain⟨i,rfl⟩:∃i:Nat,j=64+i:=⟨j-64,by omega⟩;have e1:adN.wrap (((64+i:Nat):Int) -64)=(i:Int):=by rw[aw (by omega)];omega
  have e2:IntKind.u64.wrap (i:Int)=(i:Int):=by rw[Go.Up.oo];omega
  rw[e1,e2];apply ws;intros;refine cK (by omega) ?_;refine cK (by decide) ?_;rw[Je (by omega),J4];have e3:n/2^(64+i)=n/18446744073709551616/2^i:=by rw[Nat.div_div_eq_div_mul,Nat.pow_add]
  rw[e3] at h;exact T.dp h
 ·have e2:IntKind.u64.wrap (j:Int)=(j:Int):=by rw[Go.Up.oo];omega
  rw[e2];apply ws;intros;refine cK (by omega) ?_;refine cK (by decide) ?_;rw[Je (by omega),J4];have e3:n%18446744073709551616/2^j%2=n/2^j%2:=by
   rw[show(18446744073709551616:Nat)=2^j* 2^(64-j) by rw[<-Nat.pow_add,show j+(64-j)=64 by omega],Nat.mod_mul_right_div_self];exact Nat.mod_mod_of_dvd _ ⟨2^(63-j),by rw[show 64-j=1+(63-j) by omega,Nat.pow_add]⟩
  rw[e3];exact T.dp h
end
def xd(a i:Nat):a/2^i/2=a/2^(i+1):=by rw[Nat.div_div_eq_div_mul,Nat.pow_succ]
def NH{a b i:Nat}(h:a/2^(i+1)=b/2^(i+1))(gS:a/2^i%2≠b/2^i%2):decide (((a/2^i%2:Nat):Int)<((b/2^i%2:Nat):Int))=decide (a<b):=by
 rw[<-xd,<-xd] at h;rw[decide_eq_decide]
 constructor
 ·intro hl;have:a/2^i<b/2^i:=by omega
  exact Nat.lt_of_not_le λhh=>absurd (Nat.div_le_div_right (c:=2^i) hh) (by omega)
 ·intro hl;have:=Nat.div_le_div_right (c:=2^i) (Nat.le_of_lt hl);omega
section
variable {W:World} {L R:LH} {K:VK} {X:WK}
def uD{a b:Nat}(ha:a<aK)(hb:b<aK)(h:T W L (K (.bool (decide (a<b))))):T W L (fk (nm a) (nm b) K):=by
 unfold fk;apply ws;intros;rename_i r1 r2;intro w jF;refine⟨λvv w=>∃j:Nat,j<=128/\a/2^j=b/2^j/\vv=[.p (some (ad r1 0)),.p (some (ad r2 0)),.bool false,.i ((j:Int) -1)]/\St W w (Sep.pt r2 (nm b)::Sep.pt r1 (nm a)::L),
  λvs _=>match vs with|[_,_,_,.int _ d]=>(d+1).toNat|_=>0,⟨128,adW _,by rw[Nat.div_eq_of_lt (show a<2^128 from ha),Nat.div_eq_of_lt (show b<2^128 from hb)],rfl,jF⟩,?_⟩
 rintro a1 a2 b1 n1 w2 ⟨j,hj,heq,e,fj⟩;cases e
 refine T.at ?_ fj;refine dO (λg1=>?_) (λg1=>?_)
 ·obtain⟨i,rfl⟩:∃i:Nat,j=i+1:=⟨j-1,by omega⟩;have e1:(((i+1:Nat):Int) -1)=(i:Int):=by omega
  have e2:adN.wrap ((i:Int) -1)=(i:Int) -1:=aw (by omega);rw[e1,e2];apply ws;intros;refine qi ha (by omega) ?_;apply ws;intros;refine qi hb (by omega) ?_;apply ws;intros;refine bB (λg2=>?_) (λg2=>?_)
  ·have g2:a/2^i%2≠b/2^i%2:=λhh=>by rw[hh] at g2;simp at g2
   apply ws;intros;refine qi ha (by omega) ?_;apply ws;intros;refine qi hb (by omega) ?_;apply ws;intros;rw[NH heq g2];exact T.dp h
  ·have g2:a/2^i%2=b/2^i%2:=by
    have: ¬((a/2^i%2:Nat):Int)≠((b/2^i%2:Nat):Int):=λhh=>by rw[bne_iff_ne.2 hh] at g2;cases g2
    omega
   exact λw3 h3=>⟨⟨i,by omega,by have h1:=xd a i;have h2:=xd b i;omega,rfl,h3⟩,by show((i:Int) -1+1).toNat<((i:Int)+1).toNat;omega⟩
 ·have hz:j=0:=by omega
  subst hz;rw[Nat.pow_zero,Nat.div_one,Nat.div_one] at heq;rw[decide_eq_false (by omega)] at h;exact T.dp h
end
section
variable {W:World} {L R:LH} {K:VK} {X:WK}
def AM{a b:Nat}(ha:a<aK)(hb:b<aK)(h:T W L (K (.agg ⟨nm (if a<b then a else b)⟩))):T W L (hU (nm a) (nm b) K):=by
 unfold hU;apply ws;intros;refine uD ha hb ?_;by_cases g1:a<b
 ·rw[if_pos g1] at h;rw[decide_eq_true g1];apply ws;intros;exact T.dp h
 ·rw[if_neg g1] at h;rw[decide_eq_false g1];apply ws;intros;exact T.dp h
end
section
variable {W:World} {L R:LH} {K:VK} {X:WK} {t:Move}
def Cf(ht:0<=t.flags/\t.flags<1000000)(h:T W L (K (.bool (decide (fw t.flags))))):T W L (aL (ai t) K):=by
 have he:fw t.flags↔ ¬(has t.flags 2/\has t.flags 4\/has t.flags 2/\has t.flags 8\/has t.flags 4/\has t.flags 8)/\ ¬((has t.flags 4\/has t.flags 8)/\16<=t.flags)/\(t.flags<64\/has t.flags 2):=Iff.rfl;obtain⟨b2,h2⟩:∃b,b=decide (has t.flags 2):=⟨_,rfl⟩;obtain⟨b4,h4⟩:∃b,b=decide (has t.flags 4):=⟨_,rfl⟩;obtain⟨b8,h8⟩:∃b,b=decide (has t.flags 8):=⟨_,rfl⟩;have H2:∀{L':LH} {K':VK},T W L' (K' (.bool b2))->T W L' (aO (ai t) 2 K'):=λhh=>gZ ht (by decide) (by rw[<-h2];exact hh);have H4:∀{L':LH} {K':VK},T W L' (K' (.bool b4))->T W L' (aO (ai t) 4 K'):=λhh=>gZ ht (by decide) (by rw[<-h4];exact hh);have H8:∀{L':LH} {K':VK},T W L' (K' (.bool b8))->T W L' (aO (ai t) 8 K'):=λhh=>gZ ht (by decide) (by rw[<-h8];exact hh);have hE:∀{L':LH} {K':VK},T W L' (K' (.bool (b4||b8)))->T W L' (dI (ai t) K'):=λ{L'} {K'} hh=>rL ht (by
  have e:decide (gr t.flags)=(b4||b8):=by rw[h4,h8];exact Bool.decide_or (has t.flags 4) (has t.flags 8)
  rw[e];exact hh)
 unfold aL aL.j3 aL.j4 aL.j1 aL.j2;have h2:=h2.symm;have h4:=h4.symm;have h8:=h8.symm;cases b2<;>cases b4<;>cases b8<;>simp only[decide_eq_true_eq,decide_eq_false_iff_not] at h2 h4 h8<;>simp only[Bool.or_true,Bool.or_false,Bool.true_or,Bool.false_or] at hE
 all_goals
  repeat' first|apply ws;intros|apply wb|with_reducible first|refine H2 ?_|refine H4 ?_|refine H8 ?_|refine hE ?_|refine bB (λh1=>?_) (λh1=>?_)|fail
 all_goals
  refine T.fin (T.dp h) ?_
  congr 1
  clear H2 H4 H8 hE h
  (try simp only[decide_eq_true_eq,decide_eq_false_iff_not] at *)
  rw[aed,decide_eq_true_eq,he];simp only[h2,h4,h8,Bool.true_eq_false,aef,eq_self,true_and,and_true,false_and,and_false,or_true,or_false,true_or,false_or,not_true_eq_false,not_false_eq_true,true_iff,false_iff]
  try omega
end
def Mn(d:Nat):LV:=[.i (d:Int)]
def zW(d:Nat):(Mn d).length=1:=rfl
def ry:List Nat->Nat
 |[]=>0
 |d::l=>d* 10^l.length+ry l
def qU(l:List Nat):List UInt8:=l.map λd=>UInt8.ofNat (48+d)
def zV:∀(l:List Nat),(∀d∈l,d<10)->ry l<10^l.length
 |[],_=>by show 0<1;decide
 |d::l,h=>by
  have ih:=zV l (λx hx=>h x (aeU _ hx));have hd:=h d List.mem_cons_self;have:d* 10^l.length<=9* 10^l.length:=aeC _ (by omega);simp only[ry,ad8,Nat.pow_succ];omega
def GF:∀(l m:List Nat),(∀d∈l,d<10)->(∀d∈m,d<10)->l.length=m.length->ry l=ry m->l=m
 |[],m,_,_,hl,_=>by cases m with|nil=>rfl|cons a b=>simp at hl
 |d::l,[],_,_,hl,_=>by simp at hl
 |d::l,e::m,h1,h2,hl,hv=>by
  have Pt:l.length=m.length:=by simpa using hl
  have a1:=zV l (λx hx=>h1 x (aeU _ hx));have a2:=zV m (λx hx=>h2 x (aeU _ hx));simp only[ry,Pt] at hv a1;have hp:0<10^m.length:=Nat.pow_pos (by decide);have hde:d=e:=by
   have e1:(d* 10^m.length+ry l)/10^m.length=d:=by rw[afo,Nat.mul_add_div hp,Nat.div_eq_of_lt a1,aeL]
   have e2:(e* 10^m.length+ry m)/10^m.length=e:=by rw[afo,Nat.mul_add_div hp,Nat.div_eq_of_lt a2,aeL]
   rw[<-e1,hv,e2]
  subst hde;rw[GF l m (λx hx=>h1 x (aeU _ hx)) (λx hx=>h2 x (aeU _ hx)) Pt (by omega)]
structure Cx(a j:Nat)(l:List Nat):Prop where
 val:ry l=a/2^j
 small:∀d∈l,d<10
 norm:l.length=1\/10^(l.length-1)<=ry l
 len:1<=l.length/\l.length<=129-j
def Cx.step{a j c:Nat}{l tl:List Nat}(h:Cx a (j+1) l)(hj:j<128)(hl:tl.length=l.length)(ht:∀d∈tl,d<10)(hc:c<=1)(he:2* ry l+a/2^j%2=c* 10^l.length+ry tl):
 (c=0->Cx a j tl)/\(0<c->Cx a j (c::tl)):=by
 have hv:=h.val;have h2:=xd a j;have hle:=h.len;have e:2* ry l+a/2^j%2=a/2^j:=by rw[hv,<-h2];omega
 refine⟨λh0=>?_,λh0=>?_⟩
 ·subst h0;rw[Nat.zero_mul,adU] at he;refine⟨by rw[<-he,e],ht,?_,by rw[hl];omega⟩;rw[hl];rcases h.norm with hn|hn
  ·exact .inl hn
  ·exact .inr (by omega)
 ·have h1:c=1:=by omega
  subst h1;refine⟨by simp only[ry,hl];omega,λd hd=>?_,.inr ?_,by simp only[ad8,hl];omega⟩
  ·rcases ae9.1 hd with hd|hd
   ·omega
   ·exact ht d hd
  ·simp only[ry,ad8,Nat.add_sub_cancel];omega
def Cx.first{a:Nat}(ha:a<aK):Cx a 128 [0]:=⟨by rw[Nat.div_eq_of_lt (show a<2^128 from ha)];rfl,λd hd=>by simp at hd;omega,.inl rfl,by simp⟩
def LA:List Nat:=[3,4,0,2,8,2,3,6,6,9,2,0,9,3,8,4,6,3,4,6,3,3,7,4,6,0,7,4,3,1,7,6,8,2,1,1,4,5,5]
def Dx:∀(l m:List Nat),(∀d∈l,d<10)->(∀d∈m,d<10)->qU l=qU m->l=m
 |[],[],_,_,_=>rfl
 |[],e::m,_,_,h=>by simp[qU] at h
 |d::l,[],_,_,h=>by simp[qU] at h
 |d::l,e::m,h1,h2,h=>by
  simp only[qU,aer,List.cons.injEq] at h;obtain⟨hd,ht⟩:=h;have b1:=h1 d List.mem_cons_self;have b2:=h2 e List.mem_cons_self;have:d=e:=by
   have:=congrArg UInt8.toNat hd;simp only[UInt8.toNat_ofNat'] at this;omega
  subst this;rw[Dx l m (λx hx=>h1 x (aeU _ hx)) (λx hx=>h2 x (aeU _ hx)) ht]
def Cx.last{a:Nat}{l:List Nat}(h:Cx a 0 l):(qU l=qU LA↔a=aK-1):=by
 have hv:ry l=a:=by have:=h.val;rwa[Nat.pow_zero,Nat.div_one] at this
 have hmx:∀d∈LA,d<10:=by decide
 have pa:ry LA=aK-1:=by decide+kernel
 constructor
 ·intro he;have:=Dx l LA h.small hmx he;rw[<-hv,this,pa]
 ·intro he;have hlen:l.length=39:=by
   have h1:=zV l h.small;rw[hv,he] at h1;rcases h.norm with hn|hn
   ·rw[hn] at h1;exact absurd h1 (by decide)
   ·rw[hv,he] at hn;have a1:l.length-1<39:=Nat.lt_of_not_le λhh=>absurd (Nat.le_trans (aeH (by decide) hh) hn) (by decide+kernel);have a2:38<l.length:=Nat.lt_of_not_le λhh=>absurd (Nat.lt_of_lt_of_le h1 (aeH (by decide) hh)) (by decide+kernel);have:=h.len;omega
  rw[GF l LA h.small hmx hlen (by rw[hv,he,pa])]
section
variable {W:World} {L R:LH} {K:VK} {X:WK}
def I4{r d:Nat}(h:T W (own (some ⟨r,0,none⟩) 1 1 1 ([d].flatMap Mn)::L) X):T W (Sep.pt r [.i (d:Int)]::L) X:=λw hs=>
 h w (St.xM (k:=0) (L:=Sep.pt r [.i (d:Int)]::L) (xs:=[d].flatMap Mn) (sp:=[]) (n:=1) (c:=1) (e:=1) (by simp) (by simp[Mn]) (adW _) (by simp) hs)
def KJ{a:Nat}(ha:a<aK)(h:∀s:BA,oZ s (⟨#[51,52,48,50,56,50,51,54,54,57,50,48,57,51,56,52,54,51,52,54,51,51,55,52,54,48,55,52,51,49,55,54,56,50,49,49,52,53,53]⟩:BA)=decide (a=aK-1)->T W L (K (.string s))):T W L (gh (nm a) K):=by
 unfold gh;apply ws;intros;rename_i r1 r2;refine I4 (d:=0) ?_;intro w jF;refine⟨λvv w=>∃(j:Nat)(l:List Nat)(b:OA)(c:Nat),j<=128/\Cx a j l/\vv=[.p (some (ad r1 0)),.string .empty,.l b l.length c,.i ((j:Int) -1)]/\St W w (own b l.length c 1 (l.flatMap Mn)::Sep.pt r1 (nm a)::L),
  λvs _=>match vs with|[_,_,_,.int _ d]=>(d+1).toNat|_=>0,⟨128,[0],_,_,adW _,Cx.first ha,rfl,jF⟩,?_⟩
 rintro a1 s1 M9 VR P9 n1 w2 ⟨j,l,b,c,hj,hd,e,fj⟩;cases e
 refine T.at ?_ fj;refine dO (λg1=>?_) (λg1=>?_)
 ·obtain⟨i,rfl⟩:∃i:Nat,j=i+1:=⟨j-1,by omega⟩;have e1:(((i+1:Nat):Int) -1)=(i:Int):=by omega
  have e2:adN.wrap ((i:Int) -1)=(i:Int) -1:=aw (by omega);have hlen:=hd.len;rw[e1];apply ws;intros;refine qi ha (by omega) ?_;apply ws;intros;rw[aw (show-9223372036854775808<=(l.length:Int) -1/\(l.length:Int) -1<=9223372036854775807 by omega)];have aaW:a/2^i%2<=1:=by omega
  intro w3 qF;refine⟨λvv w=>∃(k cc:Nat)(tl:List Nat),k<=l.length/\tl.length=l.length-k/\(∀d∈tl,d<10)/\cc<=1/\2* ry (l.drop k)+a/2^i%2=cc* 10^(l.length-k)+ry tl/\
   vv=[.p (some (ad r1 0)),.string .empty,.l M9 l.length P9,.i (i:Int),.i (cc:Int),.i ((k:Int) -1)]/\St W w (own M9 l.length P9 1 ((l.take k++tl).flatMap Mn)::Sep.pt r1 (nm a)::L),
   λvs _=>match vs with|[_,_,_,_,_,.int _ d]=>(d+1).toNat|_=>0,⟨l.length,a/2^i%2,[],adW _,by simp,(λd hd=>by cases hd),aaW,by rw[List.drop_length,ae8];simp[ry],rfl,by rw[ad3,aeb];exact qF⟩,?_⟩
  rintro a2 s2 sm qB sw n3 n4 n5 w4 ⟨k,cc,tl,hk,zq,htd,N3,xZ,e,tw⟩;cases e
  refine T.at ?_ tw;refine dO (λg2=>?_) (λg2=>?_)
  ·obtain⟨q,rfl⟩:∃q:Nat,k=q+1:=⟨k-1,by omega⟩;have e3:(((q+1:Nat):Int) -1)=(q:Int):=by omega
   rw[e3];have gx:=adQ (show q<l.length by omega);have hdx:=hd.small _ (aee (show q<l.length by omega));have Gl:l.drop q=l[q]::l.drop (q+1):=aev (by omega);have th:l.take (q+1)=l.take q++[l[q]]:=by rw[ad',gx];rfl
   generalize l[q]=d at gx hdx Gl th;have hlq:(l.take q).length=q:=by rw[adV,afh (by omega)]
   have gy:(l.take (q+1)++tl)[q]?=some d:=by
    rw[th,adZ,aeo (by omega),hlq,ae8];rfl
   refine bR (b:=M9) ⟨by omega,by omega⟩ λrb hb=>?_;rw[adR];subst hb;refine vk (g:=Mn) zW gy rfl ?_;refine lX ?_;refine cK (by decide) ?_;refine bR (b:=some ⟨rb,0,none⟩) ⟨by omega,by omega⟩ λPm hb=>?_;rw[adR];cases hb
   have w1:adN.wrap (2* (d:Int))=2* (d:Int):=aw (by omega);have w2':adN.wrap (2* (d:Int)+(cc:Int))=((2* d+cc:Nat):Int):=by rw[aw (by omega)];omega
   have w3':((2* d+cc:Nat):Int).tmod 10=(((2* d+cc)%10:Nat):Int):=by rw[aey (by omega)];omega
   have w4':adN.wrap (((2* d+cc:Nat):Int).tdiv 10)=(((2* d+cc)/10:Nat):Int):=by rw[Int.tdiv_eq_ediv_of_nonneg (by omega),aw (by omega)];omega
   have w5':adN.wrap ((q:Int) -1)=(q:Int) -1:=aw (by omega);rw[w1,w2',w3',w4',w5'];refine An (o:=q) (j:=0) (x:=d) (y:=(2* d+cc)%10) (g:=Mn) zW gy rfl (by decide) rfl ?_;refine cK (by decide) ?_;have K4:(l.take (q+1)++tl).set q ((2* d+cc)%10)=l.take q++((2* d+cc)%10::tl):=by
    rw[th,adZ,List.set_append_right _ _ (by omega),hlq,ae8];rfl
   rw[K4];have wU:(l.drop (q+1)).length=l.length-(q+1):=ad2;intro w5 JM;refine⟨⟨q,(2* d+cc)/10,(2* d+cc)%10::tl,by omega,by simp only[ad8];omega,λx hx=>?_,by omega,?_,rfl,JM⟩,by show((q:Int) -1+1).toNat<((q:Int)+1).toNat;omega⟩
   ·rcases ae9.1 hx with hx|hx
    ·omega
    ·exact htd x hx
   ·rw[Gl];simp only[ry];rw[zq,wU,show l.length-q=(l.length-(q+1))+1 by omega,Nat.pow_succ];generalize 10^(l.length-(q+1))=P at xZ⊢;have:2* (d* P)+cc* P=(2* d+cc)/10* (P* 10)+(2* d+cc)%10* P:=by
     have hh:2* d+cc=(2* d+cc)/10* 10+(2* d+cc)%10:=by omega
     calc 2* (d* P)+cc* P=(2* d+cc)* P:=by rw[afe,Nat.mul_assoc]
      _=((2* d+cc)/10* 10+(2* d+cc)%10)* P:=by rw[<-hh]
      _=_:=by rw[afe,Nat.mul_assoc,afo 10 P]
    omega
  ·have hz:k=0:=by omega
   subst hz;rw[aeZ,Nat.sub_zero] at xZ;rw[Nat.sub_zero] at zq;rw[aff,aet,e2];obtain⟨s0,s1⟩:=hd.step (by omega) zq htd N3 xZ;refine dO (λg3=>?_) (λg3=>?_)
   ·have g3:0<cc:=by omega
    refine cK ⟨rfl,trivial⟩ ?_;refine qE λr3=>?_;refine I4 (d:=cc) ?_;rw[<-zq];refine nF (l0:=[cc]) (l1:=tl) zW rfl (by omega) (λx v hv=>by simp[Mn] at hv;subst hv;rfl) λb2 c2=>?_;have hs:=s1 g3;refine T.sub (M:=own b2 (1+tl.length) c2 1 (([cc]++tl).flatMap Mn)::Sep.pt r1 (nm a)::L) ?_ (by repeat (first|exact ad5.refl _|apply ad5.cons_cons|apply ad5.cons));rw[show 1+tl.length=(cc::tl).length by simp only[ad8];omega];intro w6 QX;exact⟨⟨i,cc::tl,b2,c2,by omega,hs,rfl,QX⟩,by show((i:Int) -1+1).toNat<((i:Int)+1).toNat;omega⟩
   ·have hs:=s0 (by omega);rw[<-zq];intro w6 QX;exact⟨⟨i,tl,_,_,by omega,hs,rfl,QX⟩,by show((i:Int) -1+1).toNat<((i:Int)+1).toNat;omega⟩
 ·have hz:j=0:=by omega
  subst hz;have hlen:=hd.len;intro w3 qF;refine⟨λvv w=>∃k:Nat,k<=l.length/\vv=[.string .empty,.string (bs (qU (l.take k))),.l M9 l.length P9,.i (l.length:Int),.i (k:Int)]/\St W w (own M9 l.length P9 1 (l.flatMap Mn)::Sep.pt r1 (nm a)::L),
   λvs _=>match vs with|[_,_,_,_,.int _ d]=>l.length-d.toNat|_=>0,⟨0,ad0 _,rfl,qF⟩,?_⟩
  rintro s3 s4 yD xy xD n7 n8 w9 ⟨k,hk,e,hs9⟩;cases e
  refine T.at ?_ hs9;refine dO (λg2=>?_) (λg2=>?_)
  ·have aZ:k<l.length:=by omega
   have gx:=adQ aZ;have hdx:=hd.small _ (aee aZ);have th:l.take (k+1)=l.take k++[l[k]]:=by rw[ad',gx];rfl
   generalize l[k]=d at gx hdx th;refine bR (b:=M9) ⟨by omega,by omega⟩ λrb hb=>?_;rw[adR];subst hb;refine vk (g:=Mn) zW gx rfl ?_;refine lX ?_;refine cK ⟨rfl,trivial⟩ ?_;refine qE λr4=>?_;have e4:Value.int .u8 (IntKind.u8.wrap (adN.wrap (48+(d:Int))))=rF (UInt8.ofNat (48+d)):=by
    have:=uw (n:=((48+d:Nat):Int)) (by omega);rw[adR] at this;rw[this,aw (by omega)]
    congr 1
    have:((48+d:Nat):Int)=48+(d:Int):=by omega
    rw[this];unfold IntKind.wrap;simp[IntKind.signed,IntKind.bits];omega
   rw[e4];refine Sk (l:=[UInt8.ofNat (48+d)]) ?_;have e5:bs (qU (l.take k))++bs [UInt8.ofNat (48+d)]=bs (qU (l.take (k+1))):=by rw[LN,th];unfold qU;rw[aen];rfl
   have e6:=l9 k;refine cK ?_ ?_
   ·rw[bJ,bJ];unfold qU;rw[aeg,adV,afd];omega
   rw[e5,e6];refine T.drop λw5 JM=>⟨⟨k+1,aZ,rfl,JM⟩,by show l.length-((k+1:Nat):Int).toNat<l.length-(k:Int).toNat;omega⟩
  ·have gj:k=l.length:=by omega
   subst gj;rw[ad3];refine T.drop (T.drop (h _ ?_));rw[pO,decide_eq_decide,<-hd.last];exact ym (a:=qU l) (b:=qU LA)
end
section
variable {W:World} {L R:LH} {K:VK} {X Y:WK} {a:aP} {t:Move} {r1 r2:Nat}
def MH{n:Nat}(hn:n<aK)(h:T W L (br (decide (n=aK-1)) X Y)):T W L (gh (nm n) (xS λs1=>br (oZ s1 (⟨#[51,52,48,50,56,50,51,54,54,57,50,48,57,51,56,52,54,51,52,54,51,51,55,52,54,48,55,52,51,49,55,54,56,50,49,49,52,53,53]⟩:BA)) X Y)):=
 KJ hn λs hs=>PW (by rw[hs];exact h)
def Oy(a:aP):Int:=if a.dp≠0\/a.dq≠0\/a.cp≠0\/a.cq≠0\/a.ae≠0 then 7 else if a.aF<=0\/4294967296<=a.aF then 8 else if a.code<=0\/65536<=a.code then 9 else 0
def Jr{b:Bool}(h:T W (Sep.pt r2 [.u 0,.u 0]::Sep.pt r1 (ao a)::L) (K (.i (if b=true then 6 else Oy a)))):T W (Sep.pt r2 [.u 0,.u 0]::Sep.pt r1 (ao a)::L) (aC.j2 K r1 r2 b):=by
 unfold aC.j2 aC.j5 aC.j6 aC.j3 aC.j4;cases b with
 |true=>
  apply ws;intros;exact h
 |false=>
  rw[if_neg (by decide)] at h
  repeat' first|apply ws;intros|apply wb|with_reducible refine bB (λh1=>?_) (λh1=>?_)|fail
  all_goals try simp only[bz] at *
  all_goals
   refine T.fin (T.dp h) ?_
   congr 1
   unfold Oy
   repeat' split
  all_goals omega
def HL(ha:uu a)(h:T W L (K (.i (qG a)))):T W L (aC (ao a) K):=by
 unfold aC aC.j1;have e:qG a=if a.flags<0\/7<a.flags then 3 else if a.id=0 then 4 else if a.id=aK-1 then 5 else if has a.flags 2/\has a.flags 4 then 6 else Oy a:=rfl
 rw[e] at h;by_cases hr:0<=a.flags/\a.flags<=7
 ·rw[if_neg (by omega)] at h;have hf:0<=a.flags/\a.flags<1000000:=by omega
  have e1:decide (a.flags<0)=false:=decide_eq_false (by omega);have e2:decide (a.flags>7)=false:=decide_eq_false (by omega);apply ws;intros;rw[e1];apply ws;intros;rw[e2];apply ws;intros;refine dO (λh1=>?_) (λh1=>?_)
  ·rw[if_pos h1] at h;exact T.dp h
  rw[if_neg h1] at h;apply ws;intros;refine MH ha.id ?_;refine dO (λh1=>?_) (λh1=>?_)
  ·rw[if_pos h1] at h;exact T.dp h
  rw[if_neg h1] at h
  repeat' first|apply ws;intros|apply wb|with_reducible refine FH hf (by decide) ?_|fail
  refine dO (λh1=>?_) (λh1=>?_)
  ·repeat' first|apply ws;intros|apply wb|with_reducible refine FH hf (by decide) ?_|fail
   refine Jr ?_;refine T.fin (T.dp h) ?_
   congr 1
   by_cases h4:has a.flags 4
   ·rw[if_pos (decide_eq_true h4),if_pos ⟨h1,h4⟩]
   ·rw[if_neg (λhh=>h4 (of_decide_eq_true hh)),if_neg (λhh=>h4 hh.2)]
  ·refine Jr ?_;rw[if_neg (λhh=>h1 hh.1)] at h;exact T.dp h
 ·rw[if_pos (by omega)] at h;apply ws;intros;refine dO (λh1=>?_) (λh1=>?_)
  ·apply ws;intros;exact T.dp h
  ·have e2:decide (a.flags>7)=true:=decide_eq_true (by omega);apply ws;intros;rw[e2];apply ws;intros;exact T.dp h
def zH{n:Int}(h:T W (Sep.pt r2 [.u 0,.u 0]::Sep.pt r1 (ai t)::L) (K (.i (if t.aF<n\/4294967296<=t.aF then 8 else if t.code<n\/65536<=t.code then 9 else 0)))):T W (Sep.pt r2 [.u 0,.u 0]::Sep.pt r1 (ai t)::L) (au.j4 K r1 n):=by
 unfold au.j4 au.j5
 repeat' first|apply ws;intros|apply wb|with_reducible refine bB (λh1=>?_) (λh1=>?_)|fail
 all_goals try simp only[bz] at *
 all_goals
  refine T.fin (T.dp h) ?_
  congr 1
  repeat' split
 all_goals omega
def zJ{b:Bool}(hf:0<=t.flags/\t.flags<1000000)(h:T W (Sep.pt r2 [.u 0,.u 0]::Sep.pt r1 (ai t)::L) (K (.i (if b=true then 17 else if gr t.flags then LK t else LJ t)))):T W (Sep.pt r2 [.u 0,.u 0]::Sep.pt r1 (ai t)::L) (au.j3 K r1 r2 b):=by
 unfold au.j3;cases b with
 |true=>
  apply ws;intros;exact h
 |false=>
  rw[if_neg (by decide)] at h
  repeat' first|apply ws;intros|apply wb|with_reducible refine rL hf ?_|fail
  refine dO (λh1=>?_) (λh1=>?_)
  ·rw[if_pos h1] at h;apply ws;intros;unfold LK at h;refine dO (λh1=>?_) (λh1=>?_)
   ·rw[if_pos h1] at h;exact h
   ·rw[if_neg h1] at h;exact zH h
  ·rw[if_neg h1] at h;unfold LJ at h;apply ws;intros;refine dO (λh1=>?_) (λh1=>?_)
   ·rw[if_pos (h1)] at h;exact h
   rw[if_neg (h1)] at h;apply ws;intros;refine dO (λh1=>?_) (λh1=>?_)
   ·rw[if_pos (h1)] at h;exact h
   rw[if_neg (h1)] at h;apply ws;intros;refine dO (λh1=>?_) (λh1=>?_)
   ·rw[if_pos (h1)] at h;exact h
   rw[if_neg (h1)] at h;apply ws;intros;by_cases h5:t.pending=0
   ·rw[if_neg (λhh=>hh h5)] at h;rw[decide_eq_true h5];apply ws;intros;refine dO (λh1=>?_) (λh1=>?_)
    ·repeat' first|apply ws;intros|apply wb|with_reducible refine gZ hf (by decide) ?_|fail
     by_cases h6:has t.flags 16
     ·rw[decide_eq_true h6];rw[if_neg (λhh=>hh.2.1 h6)] at h;apply ws;intros;exact zH h
     ·rw[decide_eq_false h6]
      repeat' first|apply ws;intros|apply wb|with_reducible refine gZ hf (by decide) ?_|fail
      by_cases h7:has t.flags 32
      ·rw[decide_eq_true h7];rw[if_neg (λhh=>hh.2.2 h7)] at h;apply ws;intros;exact zH h
      ·rw[decide_eq_false h7];rw[if_pos ⟨h1,h6,h7⟩] at h;apply ws;intros;exact h
    ·rw[if_neg (λhh=>h1 hh.1)] at h;exact zH h
   ·rw[if_pos h5] at h;rw[decide_eq_false h5];apply ws;intros;exact h
def vz(ht:tB t)(h:T W L (K (.i (kC t)))):T W L (au (ai t) K):=by
 unfold au au.j1;have e:kC t=if t.flags<0\/255<t.flags then 3 else if t.id=0 then 4 else if t.id=aK-1 then 5 else if ¬fw t.flags then 6
  else if t.ae≠0\/t.born≠0 then 7 else if t.timeout<0\/1073741824<t.timeout\/0<t.timeout/\ ¬has t.flags 2 then 17 else if gr t.flags then LK t else LJ t:=rfl
 rw[e] at h;by_cases hr:0<=t.flags/\t.flags<=255
 ·rw[if_neg (by omega)] at h;have hf:0<=t.flags/\t.flags<1000000:=by omega
  have e1:decide (t.flags<0)=false:=decide_eq_false (by omega);have e2:decide (t.flags>255)=false:=decide_eq_false (by omega);apply ws;intros;rw[e1];apply ws;intros;rw[e2];apply ws;intros;refine dO (λh1=>?_) (λh1=>?_)
  ·rw[if_pos h1] at h;exact T.dp h
  rw[if_neg h1] at h;apply ws;intros;refine MH ht.id ?_;refine dO (λh1=>?_) (λh1=>?_)
  ·rw[if_pos h1] at h;exact T.dp h
  rw[if_neg h1] at h
  repeat' first|apply ws;intros|apply wb|with_reducible refine Cf hf ?_|fail
  by_cases h2:fw t.flags
  ·rw[if_neg (λhh=>hh h2)] at h;rw[decide_eq_true h2];apply ws;intros;unfold au.j2 au.j6;by_cases h3:t.ae≠0\/t.born≠0
   ·rw[if_pos h3] at h;refine bB (λh1=>?_) (λh1=>?_)
    ·apply ws;intros;exact T.dp h
    ·have h1:t.ae=0:=by simpa using h1
     have e3:(t.born !=0)=true:=by rw[bne_iff_ne];omega
     apply ws;intros;rw[e3];apply ws;intros;exact T.dp h
   ·rw[if_neg h3] at h;have e3:(t.ae !=0)=false:=by rw[bne_eq_false_iff_eq];omega
    have e4:(t.born !=0)=false:=by rw[bne_eq_false_iff_eq];omega
    rw[e3];apply ws;intros;rw[e4];apply ws;intros;refine dO (λh4=>?_) (λh4=>?_)
    ·rw[if_pos (.inl h4)] at h;apply ws;intros;refine zJ hf ?_;exact T.dp h
    apply ws;intros;refine dO (λh5=>?_) (λh5=>?_)
    ·rw[if_pos (.inr (.inl h5))] at h;refine zJ hf ?_;exact T.dp h
    apply ws;intros;refine dO (λh6=>?_) (λh6=>?_)
    ·repeat' first|apply ws;intros|apply wb|with_reducible refine gZ hf (by decide) ?_|fail
     refine zJ hf ?_;by_cases h7:has t.flags 2
     ·rw[decide_eq_true h7];rw[if_neg (by rintro(hh|hh|hh);exact h4 hh;exact h5 hh;exact hh.2 h7)] at h;exact T.dp h
     ·rw[decide_eq_false h7];rw[if_pos (.inr (.inr ⟨h6,h7⟩))] at h;exact T.dp h
    ·refine zJ hf ?_;rw[if_neg (by rintro(hh|hh|hh);exact h4 hh;exact h5 hh;exact h6 hh.1)] at h;exact T.dp h
  ·rw[if_pos h2] at h;rw[decide_eq_false h2];apply ws;intros;exact T.dp h
 ·rw[if_pos (by omega)] at h;apply ws;intros;refine dO (λh1=>?_) (λh1=>?_)
  ·apply ws;intros;exact T.dp h
  ·have e2:decide (t.flags>255)=true:=decide_eq_true (by omega);apply ws;intros;rw[e2];apply ws;intros;exact T.dp h
end
def Jf{j:Nat}(hj:j<64):shl .u64 1 (j:Int)=((2^j:Nat):Int):=by
 unfold shl;have h1:2^j<2^64:=Nat.pow_lt_pow_right (by decide) hj;have h2:(2:Nat)^64=18446744073709551616:=by decide
 have h3:((2:Int)^j)=((2^j:Nat):Int):=by push_cast;rfl
 rw[adR,show min j IntKind.u64.bits=j from afh (Nat.le_of_lt hj),Go.Up.oo,Int.one_mul,h3];generalize 2^j=P at h1;omega
def yM(a i:Nat):a%2^(i+1)=a%2^i+a/2^i%2* 2^i:=by
 rw[Nat.pow_succ,Nat.mod_mul,afo (2^i)]
section
variable {W:World} {L R:LH} {K:VK} {X Y:WK} {a:aP} {t:Move} {r1 r2:Nat}
def Nh{n j:Nat}(hn:n<2^j)(hj:j<128)(h:T W L (K (.agg ⟨nm (n+2^j)⟩))):T W L (lg (nm n) (j:Int) K):=by
 unfold lg;unfold nm;apply ws;intros;refine dO (λg1=>?_) (λg1=>?_)
 ·obtain⟨i,rfl⟩:∃i:Nat,j=64+i:=⟨j-64,by omega⟩;have e1:adN.wrap (((64+i:Nat):Int) -64)=(i:Int):=by rw[aw (by omega)];omega
  have e2:IntKind.u64.wrap (i:Int)=(i:Int):=by rw[Go.Up.oo];omega
  rw[e1,e2,Jf (by omega)];apply ws;intros;refine cK (by omega) ?_;apply ws;intros;have hp:2^(64+i)=18446744073709551616* 2^i:=by rw[Nat.pow_add]
  have hq:2^i<=2^63:=aeH (by decide) (by omega);have QY:(2:Nat)^63=9223372036854775808:=by decide
  have h1:n/18446744073709551616<2^i:=Nat.div_lt_of_lt_mul (by rw[<-hp];exact hn);have e3:IntKind.u64.wrap (((n/18446744073709551616:Nat):Int)+((2^i:Nat):Int))=(((n+2^(64+i))/18446744073709551616:Nat):Int):=by
   rw[Go.Up.oo,hp,Nat.add_mul_div_left _ _ (by decide)];omega
  have e4:(n+2^(64+i))%18446744073709551616=n%18446744073709551616:=by rw[hp,Nat.add_mul_mod_self_left]
  unfold nm at h;rw[e4] at h;rw[e3];exact T.dp h
 ·have Gi:j<64:=by omega
  have e2:IntKind.u64.wrap (j:Int)=(j:Int):=by rw[Go.Up.oo];omega
  rw[e2,Jf Gi];apply ws;intros;refine cK (by omega) ?_;apply ws;intros;have hq:2^j<=2^63:=aeH (by decide) (by omega);have QY:(2:Nat)^63=9223372036854775808:=by decide
  have e3:IntKind.u64.wrap (((n%18446744073709551616:Nat):Int)+((2^j:Nat):Int))=(((n+2^j)%18446744073709551616:Nat):Int):=by
   rw[Go.Up.oo];omega
  have e4:(n+2^j)/18446744073709551616=n/18446744073709551616:=by omega
  unfold nm at h;rw[e4] at h;rw[e3];exact T.dp h
def MY{a b i c out:Nat}(hv:out+b%2^i=a%2^i+c* 2^i)(c2 n2:Nat)(hn:(n2:Int)=((a/2^i%2:Nat):Int) -((b/2^i%2:Nat):Int) -(c:Int)+2* (c2:Int)):
 out+n2* 2^i+b%2^(i+1)=a%2^(i+1)+c2* 2^(i+1):=by
 rw[yM,yM,Nat.pow_succ];have hh:n2+b/2^i%2+c=a/2^i%2+2* c2:=by omega
 have:=congrArg (·* 2^i) hh;simp only[afe] at this;rw[show c2* (2^i* 2)=2* c2* 2^i by rw[afo (2^i) 2,<-Nat.mul_assoc,afo c2 2]];omega
def FI{a b:Nat}(ha:a<aK)(hb:b<aK)(h:T W L (K (.tuple ⟨[.agg ⟨nm (a-b)⟩,.bool (decide (b<=a))]⟩))):T W L (c7 (nm a) (nm b) K):=by
 unfold c7 c7.j1;apply ws;intros;refine uD ha hb ?_;apply ws;intros;by_cases aZ:a<b
 ·rw[show a-b=0 by omega,decide_eq_false (by omega)] at h;rw[decide_eq_true aZ];apply ws;intros;exact T.dp h
 ·rw[decide_eq_true (by omega)] at h;rw[decide_eq_false aZ];apply ws;intros;rename_i r1 r2 r3 r4;intro w jF;refine⟨λvv w=>∃i c out:Nat,i<=128/\c<=1/\out<2^i/\out+b%2^i=a%2^i+c* 2^i/\vv=[.p (some (ad r1 0)),.p (some (ad r2 0)),.p (some (ad r3 0)),.bool false,.p (some (ad r4 0)),.i (c:Int),.i (i:Int)]/\
     St W w (Sep.pt r4 (nm out)::Sep.pt r3 [.u 0,.u 0]::Sep.pt r2 (nm b)::Sep.pt r1 (nm a)::L),
   λvs _=>match vs with|[_,_,_,_,_,_,.int _ d]=>128-d.toNat|_=>0,⟨0,0,0,by omega,by omega,by decide,by rw[Nat.pow_zero];omega,rfl,jF⟩,?_⟩
  rintro a1 a2 a3 b2 a4 n1 n2 w2 ⟨i,c,out,hi,hc,tA,hv,e,fj⟩;cases e
  refine T.at ?_ fj;refine dO (λg1=>?_) (λg1=>?_)
  ·have rr:i<128:=by omega
   apply ws;intros;refine qi ha rr ?_;apply ws;intros;refine qi hb rr ?_;apply ws;intros;have PC:a/2^i%2<=1:=by omega
   have UL:b/2^i%2<=1:=by omega
   have e1:adN.wrap (adN.wrap (((a/2^i%2:Nat):Int) -((b/2^i%2:Nat):Int)) -(c:Int))=((a/2^i%2:Nat):Int) -((b/2^i%2:Nat):Int) -(c:Int):=by
    rw[aw (n:=((a/2^i%2:Nat):Int) -((b/2^i%2:Nat):Int)) (by omega),aw (by omega)]
   have e5:=l9 i;rw[e1,e5];have hp:2^(i+1)=2* 2^i:=by rw[Nat.pow_succ,afo]
   have key:∀(c2 n2:Nat),c2<=1->n2<=1->(n2:Int)=((a/2^i%2:Nat):Int) -((b/2^i%2:Nat):Int) -(c:Int)+2* (c2:Int)->
    T W (Sep.pt r4 (nm out)::Sep.pt r3 [.u 0,.u 0]::Sep.pt r2 (nm b)::Sep.pt r1 (nm a)::L) (c7.j1 K (ad r4 0) (i:Int) (λvv w=>∃i c out:Nat,i<=128/\c<=1/\out<2^i/\out+b%2^i=a%2^i+c* 2^i/\vv=[.p (some (ad r1 0)),.p (some (ad r2 0)),.p (some (ad r3 0)),.bool false,.p (some (ad r4 0)),.i (c:Int),.i (i:Int)]/\
    St W w (Sep.pt r4 (nm out)::Sep.pt r3 [.u 0,.u 0]::Sep.pt r2 (nm b)::Sep.pt r1 (nm a)::L)) (ad r1 0) (ad r2 0) (ad r3 0) false (λvs _=>match vs with|[_,_,_,_,_,_,.int _ d]=>128-d.toNat|_=>0) (c:Int) w2 (c2:Int) (n2:Int)):=λc2 n2 Mk Wc hn=>by
    unfold c7.j1;rw[e5];have rG:=MY hv c2 n2 hn;refine bB (λg2=>?_) (λg2=>?_)
    ·have g2:n2=1:=by have:(n2:Int)=1:=by simpa using g2
                      omega
     subst g2;rw[Nat.one_mul] at rG;apply ws;intros;refine Nh tA rr ?_;refine we (by rfl) ?_;apply ws;intros;exact λw3 h3=>⟨⟨i+1,c2,out+2^i,rr,Mk,by omega,rG,rfl,h3⟩,by show 128-((i+1:Nat):Int).toNat<128-(i:Int).toNat;omega⟩
    ·have g2:n2=0:=by have: ¬(n2:Int)=1:=by simpa using g2
                      omega
     subst g2;rw[Nat.zero_mul,aeL] at rG;exact λw3 h3=>⟨⟨i+1,c2,out,rr,Mk,by omega,rG,rfl,h3⟩,by show 128-((i+1:Nat):Int).toNat<128-(i:Int).toNat;omega⟩
   unfold c7.j1 at key;rw[e5] at key;refine dO (λg2=>?_) (λg2=>?_)
   ·rw[aw (by omega)];obtain⟨n2,Wc⟩:=ad1 (show 0<=((a/2^i%2:Nat):Int) -((b/2^i%2:Nat):Int) -(c:Int)+2 by omega);rw[Wc];exact key 1 n2 (by omega) (by omega) (by omega)
   ·obtain⟨n2,Wc⟩:=ad1 (show 0<=((a/2^i%2:Nat):Int) -((b/2^i%2:Nat):Int) -(c:Int) by omega);rw[Wc];exact key 0 n2 (by omega) (by omega) (by omega)
  ·have gj:i=128:=by omega
   subst gj;rw[aez (show a<2^128 from ha),aez (show b<2^128 from hb)] at hv;have hh:out=a-b:=by
    have:c=0:=by
     rcases Nat.eq_zero_or_pos c with hz|hz
     ·exact hz
     ·have:c=1:=by omega
      subst this;omega
    subst this;omega
   rw[hh];apply ws;intros;exact T.dp h
def AQ{r3 r4 r5:Nat}{x y z:Nat}(hx:x<aK)(hy:y<aK)(hz:z<aK)(h:T W L (K (.agg ⟨nm (x-(y+z))⟩))):T W (Sep.pt r5 (nm z)::Sep.pt r4 (nm y)::Sep.pt r3 (nm x)::Sep.pt r2 [.u 0,.u 0]::L) (bN.j1 K r4 r5 r3 r2):=by
 unfold bN.j1 bN.j2;apply ws;intros;refine pP hy hz ?_;unfold add;by_cases hs:y+z<aK
 ·rw[if_pos hs,decide_eq_true hs];apply ws;intros;refine FI hx hs ?_;apply ws;intros;exact T.dp h
 ·rw[if_neg hs,decide_eq_false hs];apply ws;intros;refine KE ?_;apply ws;intros;refine FI hx (by unfold aK;decide) ?_;apply ws;intros;rw[show x-(aK-1)=x-(y+z) by omega];exact T.dp h
def xJ{p:Bool}(ha:a.dp<aK/\a.dq<aK/\a.cp<aK/\a.cq<aK)(h:T W L (K (.agg ⟨nm (fY a p)⟩))):T W L (bN (ao a) p K):=by
 obtain⟨h1,h2,h3,h4⟩:=ha;unfold bN;apply ws;intros;cases p with
 |true=>
  apply ws;intros;refine AQ h4 h1 h2 ?_;exact T.dp h
 |false=>
  apply ws;intros;refine AQ h2 h3 h4 ?_;exact T.dp h
end
def Av(a:aP)(d:Bool):Nat:=if d then a.dp else a.cp
def Au(a:aP)(d:Bool):Nat:=if d then a.dq else a.cq
def Js(a:aP)(d:Bool)(x y:Nat):aP:=if d then{a with dp:=x,dq:=y} else{a with cp:=x,cq:=y}
def CJ(d:Bool):Int:=if d then 2 else 4
def QG(a:aP)(d:Bool)(n:Nat)(p:Bool):more a d n p=
 if aK<=Av a d+Au a d+n then(a,32) else if has a.flags (CJ d)/\fY a d<n then(a,if d then 33 else 34)
 else(Js a d (if p then Av a d+n else Av a d) (if p then Au a d else Au a d+n),0):=by
 cases d<;>cases p<;>rfl
section
variable {W:World} {L R:LH} {K:VK} {X Y:WK} {a:aP} {t:Move} {r1 r2 r3 r4 r5:Nat}
def AN{d:Bool}{x y n:Nat}(h:T W L (K (.tuple ⟨[.agg ⟨ao (Js a d x y)⟩,.i 0]⟩))):T W (Sep.pt r5 (nm y)::Sep.pt r4 (nm x)::Sep.pt r3 (ao zA)::Sep.pt r2 (nm n)::Sep.pt r1 (ao a)::L) (aR.j4 K d r4 r1 r5 r3):=by
 unfold aR.j4;unfold Js at h;cases d with
 |true=>
  apply ws;intros;exact T.dp h
 |false=>
  apply ws;intros;exact T.dp h
def AO{d p b:Bool}{x y n:Nat}(hx:x<aK)(hy:y<aK)(hn:n<aK)(hs:x+y+n<aK)
 (h:T W L (K (.tuple ⟨[.agg ⟨ao (if b=true then a else Js a d (if p then x+n else x) (if p then y else y+n))⟩,.i (if b=true then(if d then 33 else 34) else 0)]⟩))):
 T W (Sep.pt r5 (nm y)::Sep.pt r4 (nm x)::Sep.pt r3 (ao zA)::Sep.pt r2 (nm n)::Sep.pt r1 (ao a)::L) (aR.j3 K d r1 r3 p r4 r2 r5 b):=by
 unfold aR.j3;cases b with
 |true=>
  rw[if_pos rfl,if_pos rfl] at h;cases d with
  |true=>
   apply ws;intros;exact T.dp h
  |false=>
   apply ws;intros;exact T.dp h
 |false=>
  rw[if_neg aej,if_neg aej] at h;cases p with
  |true=>
   have e:add x n=x+n:=if_pos (by omega);apply ws;intros;refine pP hx hn ?_;rw[e];apply ws;intros;exact AN h
  |false=>
   have e:add y n=y+n:=if_pos (by omega);apply ws;intros;refine pP hy hn ?_;rw[e];apply ws;intros;exact AN h
def AP{d p:Bool}{n:Nat}(ha:a.dp<aK/\a.dq<aK/\a.cp<aK/\a.cq<aK)(hn:n<aK)(hf:0<=a.flags/\a.flags<256)(h:T W L (K (.tuple ⟨[.agg ⟨ao (more a d n p).1⟩,.i (more a d n p).2]⟩))):
 T W (Sep.pt r5 (nm (Au a d))::Sep.pt r4 (nm (Av a d))::Sep.pt r3 (ao zA)::Sep.pt r2 (nm n)::Sep.pt r1 (ao a)::L) (aR.j1 K r4 r5 r2 r1 r3 d p (CJ d)):=by
 unfold aR.j1 aR.j2;have hx:Av a d<aK:=by unfold Av;split<;>omega
 have hy:Au a d<aK:=by unfold Au;split<;>omega
 have hand:bA .i64 .and a.flags (CJ d)=0↔ ¬has a.flags (CJ d):=by
  cases d
  ·exact GU hf.1 hf.2
  ·exact GV hf.1 hf.2
 rw[QG] at h;generalize hX:Av a d=x at *;generalize hY:Au a d=y at *;apply ws;intros;refine pP hx hy ?_;apply ws;intros;refine pP (BT _ _) hn ?_;apply ws;intros;by_cases hs:x+y<aK
 ·rw[decide_eq_true hs];have e:add x y=x+y:=if_pos hs;rw[e];apply ws;intros;by_cases fj:x+y+n<aK
  ·rw[if_neg (by omega)] at h;rw[decide_eq_true fj];apply ws;intros;refine bB (λg1=>?_) (λg1=>?_)
   ·have g1:has a.flags (CJ d):=Decidable.byContradiction λhh=>by rw[hand.2 hh] at g1;simp at g1
    apply ws;intros;refine xJ ha ?_;apply ws;intros;refine uD ?_ hn ?_
    ·unfold fY;split<;>omega
    apply ws;intros;rename_i r6 r7;refine T.drop (T.drop (AO hx hy hn fj ?_));by_cases hl:fY a d<n
    ·rw[if_pos ⟨g1,hl⟩] at h;rw[if_pos (decide_eq_true hl),if_pos (decide_eq_true hl)];exact h
    ·rw[if_neg (λhh=>hl hh.2)] at h;rw[if_neg (λhh=>hl (of_decide_eq_true hh)),if_neg (λhh=>hl (of_decide_eq_true hh))];exact h
   ·have g1: ¬has a.flags (CJ d):=hand.1 (by simpa using g1);rw[if_neg (λhh=>g1 hh.1)] at h;exact T.drop (T.drop (AO hx hy hn fj (by rw[if_neg aej,if_neg aej];exact h)))
  ·rw[if_pos (by omega)] at h;rw[decide_eq_false fj];apply ws;intros;exact T.dp h
 ·rw[if_pos (by omega)] at h;rw[decide_eq_false hs];apply ws;intros;exact T.dp h
def CW{d p:Bool}{n:Nat}(ha:a.dp<aK/\a.dq<aK/\a.cp<aK/\a.cq<aK)(hn:n<aK)(hf:0<=a.flags/\a.flags<256)(h:T W L (K (.tuple ⟨[.agg ⟨ao (more a d n p).1⟩,.i (more a d n p).2]⟩))):T W L (aR (ao a) d (nm n) p K):=by
 unfold aR;apply ws;intros;cases d with
 |true=>
  apply ws;intros;exact AP (d:=true) ha hn hf h
 |false=>
  apply ws;intros;exact AP (d:=false) ha hn hf h
end
structure KM(k:Kept):Prop where
 asked:tB k.asked
 move:tB k.move
 qx:0<=k.asked.flags/\k.asked.flags<256
 rN:0<=k.move.flags/\k.move.flags<256
 timeout:0<=k.move.timeout/\k.move.timeout<=1073741824
 born:0<=k.move.born/\k.move.born<=1099511627776
structure RM(m:Model):Prop where
 ground:Md.Ground m
 clock:0<=m.clock/\m.clock<=1099511627776
 ae:m.ae=m.made.length+m.kept.length
 made:∀a∈m.made,uu a
 kept:∀k∈m.kept,KM k
def RM.Jv{m:Model}(hg:Good (bo m))(pI:Md.Ground m):RM m:=by
 refine⟨pI,hg.clock,?_,λa ha=>?_,λk hk=>?_⟩
 ·have:=hg.ae;unfold bo at this;simpa using this
 ·have h1:=(hg.Mo (Md.full m.kept a) (List.mem_map_of_mem ha)).ok;obtain⟨z1,z2,z3,z4,z5,z6⟩:=pI.zero a ha;exact⟨h1.id,by rw[z1];decide,by rw[z2];decide,by rw[z3];decide,by rw[z4];decide,h1.aF,h1.code,⟨by omega,by omega⟩,h1.ae⟩
 ·have h1:=hg.L5 k hk;exact⟨h1.asked,h1.move,h1.qx,h1.rN,h1.timeout,h1.born⟩
def RM.VY{m:Model}(h:RM m):∀a∈m.made,G6 a:=λa ha=>by
 obtain⟨z1,z2,z3,z4,z5,z6⟩:=h.ground.zero a ha;have:(0:Nat)<aK:=by decide
 exact⟨by omega,by omega,by omega,by omega,by omega,by omega⟩
def RM.WR{m:Model}(h:RM m):∀k∈m.kept,Wq k:=λk hk=>by
 have h1:=h.kept k hk;exact⟨h1.move.aB,h1.rN.1,by have:=h1.rN.2;omega⟩
def RM.lh{m:Model}(h:RM m):m.made.length<=32:=h.ground.lh
def RM.many{m:Model}(h:RM m):m.kept.length<=96:=h.ground.some_
def DC{a:aP}(h:qG a=0):0<=a.flags/\a.flags<=7:=by
 unfold qG at h;by_cases h1:a.flags<0\/7<a.flags
 ·rw[if_pos h1] at h;omega
 ·omega
def se{t:Move}(h:kC t=0):(0<=t.flags/\t.flags<=255)/\0<=t.timeout/\t.timeout<=1073741824:=by
 unfold kC at h;by_cases h1:t.flags<0\/255<t.flags
 ·rw[if_pos h1] at h;omega
 rw[if_neg h1] at h;by_cases h2:t.id=0
 ·rw[if_pos h2] at h;omega
 rw[if_neg h2] at h;by_cases h3:t.id=aK-1
 ·rw[if_pos h3] at h;omega
 rw[if_neg h3] at h;by_cases h4: ¬fw t.flags
 ·rw[if_pos h4] at h;omega
 rw[if_neg h4] at h;by_cases h5:t.ae≠0\/t.born≠0
 ·rw[if_pos h5] at h;omega
 rw[if_neg h5] at h;by_cases h6:t.timeout<0\/1073741824<t.timeout\/0<t.timeout/\ ¬has t.flags 2
 ·rw[if_pos h6] at h;omega
 ·omega
def RH{m:Model}(hg:Md.Ground m)(a:aP):Md.Ground (m.make a).2:=((oQ m).make hg).2.2
def RG{m:Model}(hg:Md.Ground m)(t:Move):Md.Ground (m.move t).2:=((oQ m).move hg).2.2
def RI{m:Model}(hg:Md.Ground m)(t:Move):Md.Ground (m.l6 t).2:=((oQ m).l6 hg).2.2
def RM.make{m:Model}{a:aP}(h:RM m)(ha:uu a):RM (m.make a).2:=by
 have pI:=RH h.ground a;have e:(m.make a).2=m\/(qG a=0/\(m.make a).2={m with ae:=m.ae+1,made:=m.made++[{a with ae:=m.ae+1,flags:=a.flags/2* 2}]}):=by
  unfold Model.make;by_cases h1:qG a≠0
  ·rw[if_pos h1];exact .inl rfl
  ·rw[if_neg h1];split
   ·exact .inl rfl
   ·by_cases h2:32<=m.made.length
    ·rw[if_pos h2];exact .inl rfl
    ·rw[if_neg h2];exact .inr ⟨by omega,rfl⟩
 rcases e with e|⟨hc,e⟩
 ·rw[e];exact h
 ·rw[e] at pI⊢;have hf:=DC hc;have rT:=h.lh;have rS:=h.many;have rG:=h.ae;refine⟨pI,h.clock,?_,λx hx=>?_,h.kept⟩
  ·show m.ae+1=((m.made++[_]).length:Int)+(m.kept.length:Int);rw[adT,afd];omega
  ·rcases aeu.1 hx with hx|hx
   ·exact h.made x hx
   ·cases(show x=_ by simpa using hx)
    exact⟨ha.id,ha.dp,ha.dq,ha.cp,ha.cq,ha.aF,ha.code,⟨by show _<=a.flags/2* 2;omega,by show a.flags/2* 2<=_;omega⟩,⟨by show _<=m.ae+1;omega,by show m.ae+1<=_;omega⟩⟩
def RM.jT{m:Model}{t u:Move}{fate:Int}(h:RM m)(pI:Md.Ground (m.jT t u fate))(hm:m.kept.length<96)(ht:tB t)(hu:tB u)(hf:0<=t.flags/\t.flags<256)(huf:u.flags=t.flags)(ZF:0<=u.timeout/\u.timeout<=1073741824):RM (m.jT t u fate):=by
 have rG:=h.ae;have rT:=h.lh;have XY:=h.clock;refine⟨pI,h.clock,?_,h.made,λk hk=>?_⟩
 ·show m.ae+1=(m.made.length:Int)+((m.kept++[_]).length:Int);rw[adT,afd];omega
 ·rcases aeu.1 hk with hk|hk
  ·exact h.kept k hk
  ·cases(show k=_ by simpa using hk)
   exact⟨ht,⟨hu.id,hu.aE,hu.ar,hu.aB,hu.pending,hu.timeout,hu.aF,hu.code,hu.flags,⟨by show _<=m.ae+1;omega,by show m.ae+1<=_;omega⟩,⟨by show _<=m.clock;omega,by show m.clock<=_;omega⟩⟩,hf,by show 0<=u.flags/\u.flags<256;omega,ZF,h.clock⟩
def RM.cI{m:Model}(h:RM m)(i:Nat)(f:Int)(pI:Md.Ground (m.cI i f)):RM (m.cI i f):=by
 refine⟨pI,h.clock,?_,h.made,λk hk=>?_⟩
 ·show m.ae=(m.made.length:Int)+((m.kept.modify i _).length:Int);rw[List.length_modify];exact h.ae
 ·have hk:k∈m.kept.modify i λk=>{k with fate:=f}:=hk;by_cases hi:i<m.kept.length
  ·rw[modify_eq _ _ _ hi] at hk;rcases aeG hk with hh|hh
   ·exact h.kept k hh
   ·have:=h.kept _ (aee hi);subst hh;exact⟨this.asked,this.move,this.qx,this.rN,this.timeout,this.born⟩
  ·have:m.kept.modify i (λk=>{k with fate:=f})=m.kept:=List.modify_eq_self (by omega);rw[this] at hk;exact h.kept k hk
def Cj{t:Move}{named:Option Kept}{d c:Option aP}{many:Nat}(h:(gL t named d c many).1=0):(gL t named d c many).2<aK:=by
 obtain⟨d',c',-,-,-,-,-,-,-,-,-,h1,-⟩:=tW h;omega
def RM.move{m:Model}{t:Move}(h:RM m)(ht:tB t):RM (m.move t).2:=by
 have pI:=RG h.ground t;unfold Model.move at pI⊢;dsimp only at pI⊢;by_cases h1:(gL t (m.named t.id) ((m.find t.aE).map m.full) ((m.find t.ar).map m.full) m.kept.length).1≠0
 ·rw[if_pos h1];exact h
 ·rw[if_neg h1] at pI⊢;have h1:=ad4.1 h1;have ham:=Cj h1;obtain⟨d',c',-,-,-,hc,-,-,-,-,rS,-⟩:=tW h1;obtain⟨z1,z2⟩:=se hc;exact h.jT pI rS ht ⟨ht.id,ht.aE,ht.ar,ham,ht.pending,ht.timeout,ht.aF,ht.code,ht.flags,ht.ae,ht.born⟩ ⟨z1.1,by omega⟩ rfl z2
def RM.l6{m:Model}{t:Move}(h:RM m)(ht:tB t):RM (m.l6 t).2:=by
 have pI:=RI h.ground t;unfold Model.l6 at pI⊢;cases hn:m.name t.pending with
 |none=>exact h
 |some i=>
  rw[hn] at pI;dsimp only at pI⊢;cases hk:m.kept[i]? with
  |none=>exact h
  |some k=>
   rw[hk] at pI;dsimp only at pI⊢;by_cases h1:kO t (m.named t.id) (some k) (m.closed k.move.aE i) (m.closed k.move.ar i) m.kept.length≠0
   ·rw[if_pos h1];exact h
   ·rw[if_neg h1] at pI⊢;have h1:=ad4.1 h1;obtain⟨Le,Wd⟩:=adS.1 hk;have ml:=aei hk;have hf:=h.ground.tp k ml;obtain⟨-,hc,he,hw,Q6,-,rS⟩:=Bw h1 hf.1;obtain⟨z1,z2⟩:=se hc;have JR:=h.kept k ml;have aaJ:m.kept[i].fate=1:=by rw[Wd];have:=hf.2.2.1 hw;omega
    have K4:=h.ground.cI Le aaJ (f:=bU t) (by unfold bU;split<;>omega);refine(h.cI i (bU t) K4).jT pI (by show(m.kept.modify i _).length<96;rw[List.length_modify];exact rS) ht ?_ ⟨z1.1,by omega⟩ rfl z2;refine⟨ht.id,JR.move.aE,JR.move.ar,?_,ht.pending,ht.timeout,JR.move.aF,JR.move.code,ht.flags,ht.ae,ht.born⟩;show bK t k.move<aK;unfold bK;split
    ·exact JR.move.aB
    ·exact ht.aB
def RM.nZ{m:Model}{t:Move}(h:RM m)(ht:tB t):RM (m.nZ t).2:=by
 unfold Model.nZ;split
 ·exact h.l6 ht
 ·exact h.move ht
def RM.time{m:Model}(h:RM m)(now:Int)(h0:0<=now):RM (m.time now):=by
 refine⟨Fe h.ground now,?_,?_,h.made,λk hk=>?_⟩
 ·show 0<=(if m.clock<now/\now<=1099511627776 then now else m.clock)/\(if m.clock<now/\now<=1099511627776 then now else m.clock)<=1099511627776;have:=h.clock;split<;>omega
 ·show m.ae=(m.made.length:Int)+((m.kept.map _).length:Int);rw[aeg];exact h.ae
 ·obtain⟨x,hx,rfl⟩:=aeA.1 hk;have:=h.kept x hx;have Ud:∀(p:Prop) [Decidable p],KM (if p then{x with fate:=4} else x):=λp _=>by
   by_cases hp:p
   ·rw[if_pos hp];exact⟨this.asked,this.move,this.qx,this.rN,this.timeout,this.born⟩
   ·rw[if_neg hp];exact this
  exact Ud _
def nr{α:Type}(P:α->Bool)(l:List α):(l.find? P=none/\l.findIdx? P=none/\Bh P l= -1)\/∃i x,l[i]?=some x/\P x=true/\l.find? P=some x/\l.findIdx? P=some i/\Bh P l=(i:Int):=by
 cases h:l.findIdx? P with
 |none=>
  left
  have h2:=List.findIdx?_eq_none_iff.1 h;refine⟨afb.2 λx hx=>by rw[h2 x hx];decide,rfl,?_⟩;unfold Bh;rw[h]
 |some i=>
  right
  obtain⟨hi,h1,h2⟩:=List.findIdx?_eq_some_iff_getElem.1 h;refine⟨i,l[i],adQ hi,h1,?_,rfl,?_⟩
  ·rw[List.find?_eq_some_iff_getElem];exact⟨h1,i,hi,rfl,λj hj=>by simpa using h2 j hj⟩
  ·unfold Bh;rw[h]
section
variable {W:World} {L R:LH} {K:VK} {X:WK} {p:Nat} {m:Model} {mb kb:OA} {mc kc:Nat} {a:aP} {t:Move}
def T.L3{A:HP}(h:T W (ML p m mb mc kb kc (A::R)) X):T W (A::ML p m mb mc kb kc R) X:=
 T.perm h (adY (l₁:=[A]) (l₂:=[_,_,_])|>.append_right R)
def T.in1{A:HP}(h:T W (A::ML p m mb mc kb kc R) X):T W (ML p m mb mc kb kc (A::R)) X:=
 T.perm h (adY (l₁:=[_,_,_]) (l₂:=[A])|>.append_right R)
def Qm(hm:RM m)(ha:uu a)(h:∀mT mS,T W (ML p (m.make a).2 mT mS kb kc R) (K (.i (m.make a).1))):T W (ML p m mb mc kb kc R) (gI (some ⟨p,0,none⟩) (ao a) K):=by
 unfold gI;have rT:=hm.lh;have rS:=hm.many;have rG:=hm.ae;apply ws;intros;rename_i r1;refine HL ha ?_;apply ws;intros;unfold Model.make at h;refine bB (λg1=>?_) (λg1=>?_)
 ·have g1:qG a≠0:=by simpa using g1
  rw[if_pos g1] at h;have:=h mb mc;exact T.dp this
 have g1:qG a=0:=by simpa using g1
 rw[if_neg (λhh=>hh g1)] at h;have Mh:=DC g1;apply ws;intros;refine T.L3 ?_;refine sz (by omega) ?_;apply ws;intros;unfold Model.find at h;rcases nr (λx:aP=>decide (x.id=a.id)) m.made with⟨f1,f2,f3⟩|⟨i,x,f1,f2,f3,f4,f5⟩
 ·rw[f1] at h;dsimp only at h;rw[f3];refine dX (by decide) ?_;apply ws;intros;refine dO (λg2=>?_) (λg2=>?_)
  ·rw[if_pos (by omega)] at h;refine T.in1 ?_;exact T.drop (h mb mc)
  ·rw[if_neg (by omega)] at h;have e1:adN.wrap (m.ae+1)=m.ae+1:=aw (by omega);have e2:adN.wrap (adN.wrap (a.flags.tdiv 2)* 2)=a.flags/2* 2:=by rw[uM Mh.1 (by omega) (by decide),aw (by omega)]
   apply ws;intros;rw[e1];refine cK (by decide) ?_;rw[e2];apply ws;intros;refine gY (b:=mb) (g:=ao) (l:=m.made) (x:={a with ae:=m.ae+1,flags:=a.flags/2* 2}) (aeb _) rfl rfl (by show(m.made.length+1)* 112<=_;omega) (by show m.made.length+1<=_;omega) (eV _) λb' c'=>?_;apply ws;intros;have:=h b' c';unfold ML zo at this;simp only[adT,ad8,ael,adU] at this;refine T.sub this ?_;exact mZ
 ·rw[f3] at h;dsimp only at h;rw[f5];have Le:=(adS.1 f1).1;have hz:=hm.ground.zero x (aei f1);refine ki (decide_eq_true (by omega)) ?_;apply ws;intros;refine bR (b:=mb) ⟨by omega,by omega⟩ λrb hb=>?_;rw[adR];subst hb;refine dy eY f1 ?_;refine HM (by omega) (by omega) ?_;apply ws;intros;refine T.in1 ?_;exact T.drop (h _ mc)
end
def T5(m:Model)(t:Move)(d c:aP)(n:Nat):Int×Model:=
 if(more d true n (decide (has t.flags 2))).2≠0 then((more d true n (decide (has t.flags 2))).2,m)
 else if(more c false n (decide (has t.flags 2))).2≠0 then((more c false n (decide (has t.flags 2))).2,m)
 else(0,m.jT t {t with aB:=n} (waits t))
def V6(m:Model)(t:Move)(d c:aP)(n:Nat):Int×Model:=
 if has t.flags 32 then(if min n (fY c false)=0 then(34,m) else T5 m t d c (min n (fY c false))) else T5 m t d c n
def W7(m:Model)(t:Move)(d c:aP)(n:Nat):Int×Model:=
 if has t.flags 16 then(if min n (fY d true)=0 then(33,m) else V6 m t d c (min n (fY d true))) else V6 m t d c n
def W6{m:Model}{t:Move}{d c:aP}(h1:kC t=0)(h2: ¬gr t.flags)(h3:m.named t.id=none)(hd:(m.find t.aE).map m.full=some d)(hc:(m.find t.ar).map m.full=some c)
 (h4:d.aF=c.aF)(h5:d.aF=t.aF)(h6: ¬8<=d.flags)(h7: ¬8<=c.flags)(h8: ¬96<=m.kept.length):m.move t=W7 m t d c (if t.aB=0 then aK-1 else t.aB):=by
 unfold Model.move gL;rw[hd,hc,h3];dsimp only;rw[if_neg (show ¬kC t≠0 from λhh=>hh h1),if_neg h2,if_neg (show ¬d.aF≠c.aF from λhh=>hh h4),if_neg (show ¬d.aF≠t.aF from λhh=>hh h5),if_neg h6,if_neg h7,if_neg h8];have key:∀n:Nat,bF t d c=(n,0)->(let r:=(if(bF t d c).2≠0 then((bF t d c).2,0) else if(more d true (bF t d c).1 (decide (has t.flags 2))).2≠0 then((more d true (bF t d c).1 (decide (has t.flags 2))).2,0)
                         else if(more c false (bF t d c).1 (decide (has t.flags 2))).2≠0 then((more c false (bF t d c).1 (decide (has t.flags 2))).2,0) else(0,(bF t d c).1):Int×Nat)
                         if r.1≠0 then(r.1,m) else(0,m.jT t {t with aB:=r.2} (waits t)))=T5 m t d c n:=λn he=>by
  rw[he];dsimp only;rw[if_neg (show ¬((0:Int)≠0) from λhh=>hh rfl)];unfold T5;by_cases g1:(more d true n (decide (has t.flags 2))).2≠0
  ·rw[if_pos g1,if_pos g1,if_pos g1]
  ·rw[if_neg g1,if_neg g1];by_cases g2:(more c false n (decide (has t.flags 2))).2≠0
   ·rw[if_pos g2,if_pos g2,if_pos g2]
   ·rw[if_neg g2,if_neg g2]
    rfl
 have bad:∀r:Int,r≠0->bF t d c=(0,r)->(let r:=(if(bF t d c).2≠0 then((bF t d c).2,0) else if(more d true (bF t d c).1 (decide (has t.flags 2))).2≠0 then((more d true (bF t d c).1 (decide (has t.flags 2))).2,0)
  else if(more c false (bF t d c).1 (decide (has t.flags 2))).2≠0 then((more c false (bF t d c).1 (decide (has t.flags 2))).2,0) else(0,(bF t d c).1):Int×Nat)
  if r.1≠0 then(r.1,m) else(0,m.jT t {t with aB:=r.2} (waits t)))=(r,m):=λr hr he=>by
  rw[he];dsimp only;rw[if_pos hr,if_pos hr]
 unfold W7 V6;generalize hn:(if t.aB=0 then aK-1 else t.aB)=n;by_cases a1:has t.flags 16
 ·rw[if_pos a1];by_cases a2:min n (fY d true)=0
  ·rw[if_pos a2];refine bad 33 (by decide) ?_;unfold bF;rw[hn];simp only[if_pos a1,a1,a2,and_self,if_true]
  ·rw[if_neg a2];by_cases a3:has t.flags 32
   ·rw[if_pos a3];by_cases a4:min (min n (fY d true)) (fY c false)=0
    ·rw[if_pos a4];refine bad 34 (by decide) ?_;unfold bF;rw[hn];simp only[if_pos a1,if_pos a3,a1,a2,a3,a4,and_self,if_true,and_false,if_false]
    ·rw[if_neg a4];refine key _ ?_;unfold bF;rw[hn];simp only[if_pos a1,if_pos a3,a1,a2,a3,a4,and_self,if_true,and_false,if_false]
   ·rw[if_neg a3];refine key _ ?_;unfold bF;rw[hn];simp only[if_pos a1,if_neg a3,a1,a2,a3,and_self,if_true,and_false,false_and,if_false]
 ·rw[if_neg a1];by_cases a3:has t.flags 32
  ·rw[if_pos a3];by_cases a4:min n (fY c false)=0
   ·rw[if_pos a4];refine bad 34 (by decide) ?_;unfold bF;rw[hn];simp only[if_neg a1,if_pos a3,a1,a3,a4,and_self,if_true,and_false,false_and,if_false]
   ·rw[if_neg a4];refine key _ ?_;unfold bF;rw[hn];simp only[if_neg a1,if_pos a3,a1,a3,a4,and_self,if_true,and_false,false_and,if_false]
  ·rw[if_neg a3];refine key _ ?_;unfold bF;rw[hn];simp only[if_neg a1,if_neg a3,a1,a3,and_self,if_true,and_false,false_and,if_false]
section
variable {W:World} {L R:LH} {K:VK} {X:WK} {p:Nat} {m:Model} {mb kb:OA} {mc kc:Nat} {a d c:aP} {t:Move} {r1 r2 r3 r4 r5:Nat} {n:Nat}
def T.E9{L':LH}{A:HP}(h:T W (ML p m mb mc kb kc (A::L')) X):T W (A::ML p m mb mc kb kc L') X:=T.L3 h
def FC(hm:m.kept.length<1000000)(hs:0<=m.ae/\m.ae<1000000)(hd:G6 d)(hc:G6 c)(Px:d.flags<256)(PA:c.flags<256)(hf:0<=t.flags/\t.flags<1000000)(hn:n<aK)
 (h:∀gK gJ,T W (ML p (T5 m t d c n).2 mb mc gK gJ R) (K (.i (T5 m t d c n).1))):
 T W (ML p m mb mc kb kc (Sep.pt r5 (nm n)::Sep.pt r4 [.u 0,.u 0]::Sep.pt r3 (ao c)::Sep.pt r2 (ao d)::Sep.pt r1 (ai t)::R)) (aN.j3 K r1 r2 r5 r3 (some ⟨p,0,none⟩)):=by
 obtain⟨d1,d2,d3,d4,d5,d6⟩:=hd;obtain⟨c1,c2,c3,c4,c5,c6⟩:=hc;unfold aN.j3;unfold T5 at h;apply ws;intros;refine gZ hf (by decide) ?_;apply ws;intros;refine CW ⟨d1,d2,d3,d4⟩ hn ⟨d5,Px⟩ ?_;refine PX ?_;refine we (by rfl) ?_;apply ws;intros;refine bB (λg1=>?_) (λg1=>?_)
 ·have g1:=bne_iff_ne.1 g1;rw[if_pos g1] at h;refine T.sub (h kb kc) ?_;exact mZ
 have g1:(more d true n (decide (has t.flags 2))).2=0:=by simpa using g1
 rw[if_neg (λhh=>hh g1)] at h;apply ws;intros;refine CW ⟨c1,c2,c3,c4⟩ hn ⟨c5,PA⟩ ?_;refine PX ?_;refine we (by rfl) ?_;apply ws;intros;refine bB (λg2=>?_) (λg2=>?_)
 ·have g2:=bne_iff_ne.1 g2;rw[if_pos g2] at h;refine T.sub (h kb kc) ?_;exact mZ
 have g2:(more c false n (decide (has t.flags 2))).2=0:=by simpa using g2
 rw[if_neg (λhh=>hh g2)] at h;apply ws;intros;rename_i r6;refine T.E9 ?_;by_cases hw:has t.flags 2
 ·rw[decide_eq_true hw];rw[show waits t=1 from if_pos hw] at h;apply ws;intros;refine DY hm hs λb' c'=>?_;apply ws;intros;refine T.sub (h b' c') ?_;exact mZ
 ·rw[decide_eq_false hw];rw[show waits t=0 from if_neg hw] at h;apply ws;intros;refine DY hm hs λb' c'=>?_;apply ws;intros;refine T.sub (h b' c') ?_;exact mZ
def C8(a b:Nat):(if a<b then a else b)=min a b:=by split<;>omega
def Dm{a:aP}{b:Bool}(h:G6 a):fY a b<aK:=by
 obtain⟨h1,h2,h3,h4,_⟩:=h;unfold fY;split<;>omega
def FD(hm:m.kept.length<1000000)(hs:0<=m.ae/\m.ae<1000000)(hd:G6 d)(hc:G6 c)(Px:d.flags<256)(PA:c.flags<256)(hf:0<=t.flags/\t.flags<1000000)(hn:n<aK)
 (h:∀gK gJ,T W (ML p (V6 m t d c n).2 mb mc gK gJ R) (K (.i (V6 m t d c n).1))):
 T W (ML p m mb mc kb kc (Sep.pt r5 (nm n)::Sep.pt r4 [.u 0,.u 0]::Sep.pt r3 (ao c)::Sep.pt r2 (ao d)::Sep.pt r1 (ai t)::R)) (aN.j2 K r1 r5 r3 r4 r2 (some ⟨p,0,none⟩)):=by
 have hl:=Dm (b:=false) hc;unfold aN.j2;unfold V6 at h;apply ws;intros;refine gZ hf (by decide) ?_;by_cases hw:has t.flags 32
 ·rw[decide_eq_true hw];rw[if_pos hw] at h;apply ws;intros;refine xJ ⟨hc.1,hc.2.1,hc.2.2.1,hc.2.2.2.1⟩ ?_;refine we (by rfl) ?_;apply ws;intros;refine AM hn hl ?_;refine we (by rfl) ?_;rw[C8];apply ws;intros;refine dO (λg1=>?_) (λg1=>?_)
  ·rw[if_pos g1] at h;refine T.sub (h kb kc) ?_;exact mZ
  ·rw[if_neg g1] at h;exact FC hm hs hd hc Px PA hf (by omega) h
 ·rw[decide_eq_false hw];rw[if_neg hw] at h;apply ws;intros;exact FC hm hs hd hc Px PA hf hn h
def FE(hm:m.kept.length<1000000)(hs:0<=m.ae/\m.ae<1000000)(hd:G6 d)(hc:G6 c)(Px:d.flags<256)(PA:c.flags<256)(hf:0<=t.flags/\t.flags<1000000)(hn:n<aK)
 (h:∀gK gJ,T W (ML p (W7 m t d c n).2 mb mc gK gJ R) (K (.i (W7 m t d c n).1))):
 T W (ML p m mb mc kb kc (Sep.pt r5 (nm n)::Sep.pt r4 [.u 0,.u 0]::Sep.pt r3 (ao c)::Sep.pt r2 (ao d)::Sep.pt r1 (ai t)::R)) (aN.j1 K r1 r5 r2 r4 r3 (some ⟨p,0,none⟩)):=by
 have hl:=Dm (b:=true) hd;unfold aN.j1;unfold W7 at h;apply ws;intros;refine gZ hf (by decide) ?_;by_cases hw:has t.flags 16
 ·rw[decide_eq_true hw];rw[if_pos hw] at h;apply ws;intros;refine xJ ⟨hd.1,hd.2.1,hd.2.2.1,hd.2.2.2.1⟩ ?_;refine we (by rfl) ?_;apply ws;intros;refine AM hn hl ?_;refine we (by rfl) ?_;rw[C8];apply ws;intros;refine dO (λg1=>?_) (λg1=>?_)
  ·rw[if_pos g1] at h;refine T.sub (h kb kc) ?_;exact mZ
  ·rw[if_neg g1] at h;exact FD hm hs hd hc Px PA hf (by omega) h
 ·rw[decide_eq_false hw];rw[if_neg hw] at h;apply ws;intros;exact FD hm hs hd hc Px PA hf hn h
end
section
variable {W:World} {L R:LH} {K:VK} {X:WK} {p:Nat} {m:Model} {mb kb:OA} {mc kc:Nat} {a d c:aP} {t:Move} {r1 r2 r3 r4 r5:Nat} {n:Nat}
def MJ{α:Type}{r n c e o j q:Nat}{l:List α}{x:α}{g:α->LV}{f:HP->LH}{ys:LV}{K:LV->WK}[i:oS (some ⟨r,0,none⟩) n c L e (l.flatMap g) f](hf:∀x,(g x).length=e)(hx:l[o]?=some x)[s:Sub (g x) j q ys](h:T W L (K ys)):T W L (ah ⟨r,o* e+j,none⟩ q K):=λw hs=>by
 obtain⟨k,hk,_⟩:=i.at_;exact Ea hs hk s.is.1 (λu v hu=>by rw[Nat.add_assoc];exact nL hf l o x hx _ v (s.is.2 u v hu)) (h w hs)
def MK{α:Type}{r n c e o q:Nat}{l:List α}{x:α}{g:α->LV}{f:HP->LH}{ys:LV}{K:LV->WK}[i:oS (some ⟨r,0,none⟩) n c L e (l.flatMap g) f](hf:∀x,(g x).length=e)(hx:l[o]?=some x)[s:Sub (g x) 0 q ys](h:T W L (K ys)):T W L (ah ⟨r,o* e,none⟩ q K):=MJ (j:=0) hf hx h
def yZ{m:Model}(h:RM m){a:aP}(ha:a∈m.made):G6 (m.full a)/\(m.full a).flags<256/\(m.full a).aF=a.aF:=by
 have h1:=Fy m.kept (h.VY a ha);refine⟨h1,?_,?_⟩
 ·rw[h.ground.full ha];obtain⟨z1,z2,z3,z4,z5,z6⟩:=h.ground.zero a ha;show(if S (qo a.id) m.kept=0 then a.flags else a.flags%8+8)<256;split<;>omega
 ·rw[h.ground.full ha];rfl
def OF{m:Model}{t:Move}{r:Int}(hr:r≠0)(h:gL t (m.named t.id) ((m.find t.aE).map m.full) ((m.find t.ar).map m.full) m.kept.length=(r,0)):m.move t=(r,m):=by
 unfold Model.move;rw[h];dsimp only;rw[if_pos hr]
def Jo(hm:RM m)(ht:tB t)(h:∀gK gJ,T W (ML p (m.move t).2 mb mc gK gJ R) (K (.i (m.move t).1))):T W (ML p m mb mc kb kc R) (aN (some ⟨p,0,none⟩) (ai t) K):=by
 unfold aN;have rT:=hm.lh;have rS:=hm.many;have rG:=hm.ae;apply ws;intros;rename_i r1;refine vz ht ?_;apply ws;intros;have pa:∀r:Int,r≠0->gL t (m.named t.id) ((m.find t.aE).map m.full) ((m.find t.ar).map m.full) m.kept.length=(r,0)->∀gK gJ,T W (ML p m mb mc gK gJ R) (K (.i r)):=λr hr he gK gJ=>by
  have:=h gK gJ;rw[OF hr he] at this;exact this
 unfold gL at pa;refine bB (λg1=>?_) (λg1=>?_)
 ·have g1:kC t≠0:=by simpa using g1
  rw[if_pos g1] at pa;have:=pa _ g1 rfl kb kc;exact T.dp this
 have g1:kC t=0:=by simpa using g1
 rw[if_neg (λhh=>hh g1)] at pa;obtain⟨Mh,ZF⟩:=se g1;have hf:0<=t.flags/\t.flags<1000000:=by omega
 apply ws;intros;refine rL hf ?_;apply ws;intros;refine dO (λg2=>?_) (λg2=>?_)
 ·rw[if_pos g2] at pa;have:=pa _ (by decide) rfl kb kc;exact T.dp this
 rw[if_neg g2] at pa;apply ws;intros;refine T.L3 ?_;refine DX (by omega) ?_;apply ws;intros;have JO:m.named t.id=m.kept.find? λk=>decide (k.move.id=t.id):=rfl;rcases nr (λx:Kept=>decide (x.move.id=t.id)) m.kept with⟨f1,f2,f3⟩|⟨i,x,f1,f2,f3,f4,f5⟩
 rotate_left
 ·rw[JO,f3] at pa;dsimp only at pa;rw[f5];have Le:=(adS.1 f1).1;have hx:=hm.kept x (aei f1);refine ki (decide_eq_true (by omega)) ?_;apply ws;intros;refine bR (b:=kb) ⟨by omega,by omega⟩ λrb hb=>?_;rw[adR];subst hb;refine MK fB f1 ?_;refine AR hf ⟨hx.qx.1,by have:=hx.qx.2;omega⟩ ?_;apply ws;intros;refine T.sub (pa _ (oF _ _) rfl (some ⟨rb,0,none⟩) kc) ?_;exact mZ
 rw[JO,f1] at pa;dsimp only at pa;rw[f3];refine dX (by decide) ?_;apply ws;intros;refine sz (by omega) ?_;apply ws;intros;refine sz (by omega) ?_;apply ws;intros;have SK:m.find t.aE=m.made.find? λa=>decide (a.id=t.aE):=rfl;have SM:m.find t.ar=m.made.find? λa=>decide (a.id=t.ar):=rfl;rcases nr (λx:aP=>decide (x.id=t.aE)) m.made with⟨d1,d2,d3⟩|⟨i,d,d1,d2,d3,d4,d5⟩
 ·rw[SK,d1] at pa;rw[d3];refine ki (by decide) ?_;refine T.sub (pa 19 (by decide) rfl kb kc) ?_;exact mZ
 rw[SK,d3] at pa;rw[d5];refine dX (decide_eq_false (by omega)) ?_;rcases nr (λx:aP=>decide (x.id=t.ar)) m.made with⟨c1,c2,c3⟩|⟨j,c,c1,c2,c3,c4,c5⟩
 ·rw[SM,c1] at pa;rw[c3];refine ki (by decide) ?_;refine T.sub (pa 20 (by decide) rfl kb kc) ?_;exact mZ
 rw[SM,c3] at pa;rw[c5];refine dX (decide_eq_false (by omega)) ?_;dsimp only[aeB] at pa;have Ei:=aei d1;have Mj:=aei c1;obtain⟨hda,Px,wU⟩:=yZ hm Ei;obtain⟨hca,PA,lY⟩:=yZ hm Mj;refine zG (by omega) d1 (hm.VY d Ei) hm.WR ?_;refine we (by rfl) ?_;apply ws;intros;rename_i r2;refine T.E9 ?_;refine zG (by omega) c1 (hm.VY c Mj) hm.WR ?_;refine we (by rfl) ?_;apply ws;intros;rename_i r3;refine T.E9 ?_;have ed:m.kept.foldl sy d=m.full d:=rfl;have ec:m.kept.foldl sy c=m.full c:=rfl;rw[ed,ec];refine bB (λg3=>?_) (λg3=>?_)
 ·have g3:=bne_iff_ne.1 g3;rw[if_pos g3] at pa;refine T.sub (pa _ (by decide) rfl kb kc) ?_;exact mZ
 have g3:(m.full d).aF=(m.full c).aF:=by simpa using g3
 rw[if_neg (λhh=>hh g3)] at pa;apply ws;intros;refine bB (λg4=>?_) (λg4=>?_)
 ·have g4:=bne_iff_ne.1 g4;rw[if_pos g4] at pa;refine T.sub (pa _ (by decide) rfl kb kc) ?_;exact mZ
 have g4:(m.full d).aF=t.aF:=by simpa using g4
 rw[if_neg (λhh=>hh g4)] at pa;apply ws;intros;refine dO (λg5=>?_) (λg5=>?_)
 ·rw[if_pos (show 8<=(m.full d).flags by omega)] at pa;refine T.sub (pa _ (by decide) rfl kb kc) ?_;exact mZ
 rw[if_neg (show ¬8<=(m.full d).flags by omega)] at pa;apply ws;intros;refine dO (λg6=>?_) (λg6=>?_)
 ·rw[if_pos (show 8<=(m.full c).flags by omega)] at pa;refine T.sub (pa _ (by decide) rfl kb kc) ?_;exact mZ
 rw[if_neg (show ¬8<=(m.full c).flags by omega)] at pa;apply ws;intros;refine dO (λg7=>?_) (λg7=>?_)
 ·rw[if_pos (show 96<=m.kept.length by omega)] at pa;refine T.sub (pa _ (by decide) rfl kb kc) ?_;exact mZ
 have hmi:=W6 (m:=m) (t:=t) (d:=m.full d) (c:=m.full c) g1 g2 (by rw[JO,f1]) (by rw[SK,d3];rfl) (by rw[SM,c3];rfl) g3 g4 (by omega) (by omega) (by omega);rw[hmi] at h;apply ws;intros;rename_i r4 r5;refine dO (λg8=>?_) (λg8=>?_)
 ·rw[if_pos g8] at h;apply ws;intros;have ew:([.u 18446744073709551615,.u 18446744073709551615]:LV)=nm (aK-1):=by unfold nm aK;rfl
  rw[ew];refine T.perm (L:=ML p m mb mc kb kc (Sep.pt r5 (nm (aK-1))::Sep.pt r4 [.u 0,.u 0]::Sep.pt r3 (ao (m.full c))::Sep.pt r2 (ao (m.full d))::Sep.pt r1 (ai t)::R)) ?_ (adY (l₁:=[Sep.pt r5 (nm (aK-1)),Sep.pt r4 [.u 0,.u 0]]) (l₂:=[_,_,_])|>.append_right _);exact FE (by omega) (by omega) hda hca Px PA hf (by unfold aK;decide) h
 ·rw[if_neg g8] at h;refine T.perm (L:=ML p m mb mc kb kc (Sep.pt r5 (nm t.aB)::Sep.pt r4 [.u 0,.u 0]::Sep.pt r3 (ao (m.full c))::Sep.pt r2 (ao (m.full d))::Sep.pt r1 (ai t)::R)) ?_ (adY (l₁:=[Sep.pt r5 (nm t.aB),Sep.pt r4 [.u 0,.u 0]]) (l₂:=[_,_,_])|>.append_right _);exact FE (by omega) (by omega) hda hca Px PA hf ht.aB h
end
def Of(m:Model)(t:Move)(i:Nat)(k:Kept):Int×Model:=
 if iP t k.move then(26,m) else if has t.flags 4/\m.closed k.move.aE i=true then(30,m) else if has t.flags 4/\m.closed k.move.ar i=true then(31,m) else if 96<=m.kept.length then(35,m)
 else(0,(m.cI i (bU t)).jT t (jV t k.move) 0)
def Yl{m:Model}{t:Move}{i:Nat}{k:Kept}(h1:kC t=0)(h2:gr t.flags)(h3:m.named t.id=none)(hi:m.name t.pending=some i)(hk:m.kept[i]?=some k)
 (h4:has k.move.flags 2)(h5: ¬cZ t k.move)(h6: ¬1<k.fate):m.l6 t=Of m t i k:=by
 unfold Model.l6 kO;rw[hi];dsimp only;rw[hk,h3];dsimp only;rw[if_neg (show ¬kC t≠0 from λhh=>hh h1),if_neg (show ¬ ¬gr t.flags from λhh=>hh h2),if_neg (show ¬ ¬has k.move.flags 2 from λhh=>hh h4),if_neg h5,if_neg h6];unfold Of;by_cases a1:iP t k.move
 ·rw[if_pos a1,if_pos a1];rfl
 rw[if_neg a1,if_neg a1];by_cases a2:has t.flags 4/\m.closed k.move.aE i=true
 ·rw[if_pos a2,if_pos a2];rfl
 rw[if_neg a2,if_neg a2];by_cases a3:has t.flags 4/\m.closed k.move.ar i=true
 ·rw[if_pos a3,if_pos a3];rfl
 rw[if_neg a3,if_neg a3];by_cases a4:96<=m.kept.length
 ·rw[if_pos a4,if_pos a4];rfl
 rw[if_neg a4,if_neg a4];rfl
def Fq{m:Model}{i:Nat}{x:Kept}(hx:m.kept[i]?=some x)(f:Int):m.cI i f={m with kept:=m.kept.set i {x with fate:=f}}:=by
 obtain⟨hi,he⟩:=adS.1 hx;unfold Model.cI;rw[modify_eq _ _ _ hi,he]
def Ix{m:Model}{i:Nat}{x:Kept}{id:Nat}{a:aP}(hx:m.kept[i]?=some x)(hf:m.find id=some a):m.closed id i=decide (8<=((m.kept.set i {x with fate:=3}).foldl sy a).flags):=by
 obtain⟨hi,he⟩:=adS.1 hx;unfold Model.closed;rw[hf];dsimp only;rw[modify_eq _ _ _ hi,he]
section
variable {W:World} {L R:LH} {K:VK} {X:WK} {p:Nat} {m:Model} {mb kb:OA} {mc kc:Nat} {a d c:aP} {t u:Move} {r1 r2 r3 r4 r5:Nat} {n i:Nat} {x:Kept}
def AI(hm:RM m)(hx:m.kept[i]?=some x){id:Nat}(Dg:id∈m.made.map (·.id))(h:T W (ML p m mb mc kb kc R) (K (.bool (m.closed id i)))):T W (ML p m mb mc kb kc R) (dE (some ⟨p,0,none⟩) (nm id) (i:Int) K):=by
 have rT:=hm.lh;have rS:=hm.many;rcases nr (λx:aP=>decide (x.id=id)) m.made with⟨f1,f2,f3⟩|⟨j,y,f1,f2,f3,f4,f5⟩
 ·obtain⟨a,ha,he⟩:=aeA.1 Dg;have:=afb.1 f1 a ha;rw[he] at this;exact absurd (decide_eq_true rfl) this
 ·rw[Ix hx (show m.find id=some y from f3)] at h;exact KB (by omega) (by omega) hx f5 f1 (hm.VY y (aei f1)) hm.WR h
def Jp(hs:0<=m.ae/\m.ae<1000000)(hm:m.kept.length<1000000)(hn:n=bK t u)
 (h:∀gK gJ,T W (ML p (m.jT t (jV t u) 0) mb mc gK gJ R) (K (.i 0))):
 T W (ML p m mb mc kb kc (Sep.pt r4 (nm n)::Sep.pt r3 [.u 0,.u 0]::Sep.pt r2 (ai u)::Sep.pt r1 (ai t)::R)) (af.j6 K r1 r2 r4 (some ⟨p,0,none⟩)):=by
 unfold af.j6;subst hn;apply ws;intros;rename_i r5;refine T.E9 ?_;refine DY (u:=jV t u) hm hs λb' c'=>?_;apply ws;intros;refine T.sub (h b' c') ?_;exact mZ
def Jq(hm:RM m)(hx:m.kept[i]?=some x)(Q6: ¬1<x.fate)
 (h:∀gK gJ,T W (ML p (Of m t i x).2 mb mc gK gJ R) (K (.i (Of m t i x).1)))(ht:t.aB<aK):
 T W (ML p m mb mc kb kc (Sep.pt r4 (nm (bK t x.move))::Sep.pt r3 [.u 0,.u 0]::Sep.pt r2 (ai x.move)::Sep.pt r1 (ai t)::R)) (af.j2 K (decide (has t.flags 4)) r2 r4 (some ⟨p,0,none⟩) (i:Int) r1):=by
 have rT:=hm.lh;have rS:=hm.many;have rG:=hm.ae;have ml:=aei hx;have Le:=(adS.1 hx).1;have Pq:=hm.ground.tO x ml;have NU:=hm.kept x ml;have hea:bK t x.move<aK:=by unfold bK;split;exact NU.move.aB;exact ht
 have K4:∀f:Int,∀gK gJ,T W (ML p (m.cI i f) mb mc gK gJ (Sep.pt r4 (nm (bK t x.move))::Sep.pt r3 [.u 0,.u 0]::Sep.pt r2 (ai x.move)::Sep.pt r1 (ai t)::R)) (af.j6 K r1 r2 r4 (some ⟨p,0,none⟩))->
  T W (Sep.pt p (zo m mb mc gK gJ)::own mb m.made.length mc 14 (m.made.flatMap ao)::own gK m.kept.length gJ 33 ((m.kept.set i {x with fate:=f}).flatMap aI)::(Sep.pt r4 (nm (bK t x.move))::Sep.pt r3 [.u 0,.u 0]::Sep.pt r2 (ai x.move)::Sep.pt r1 (ai t)::R)) (af.j6 K r1 r2 r4 (some ⟨p,0,none⟩)):=λf gK gJ hh=>by
  rw[Fq hx] at hh;exact O8 aeV hh
 have j5:∀b:Bool,((has t.flags 4/\m.closed x.move.aE i=true)->False)-> ¬iP t x.move->b=decide (has t.flags 4/\m.closed x.move.ar i=true)->
  T W (ML p m mb mc kb kc (Sep.pt r4 (nm (bK t x.move))::Sep.pt r3 [.u 0,.u 0]::Sep.pt r2 (ai x.move)::Sep.pt r1 (ai t)::R)) (af.j5 K (some ⟨p,0,none⟩) (i:Int) (decide (has t.flags 4)) r1 r2 r4 b):=λb Gb gS hb=>by
  unfold af.j5;unfold Of at h;rw[if_neg gS,if_neg Gb] at h;cases b with
  |true=>
   rw[if_pos (of_decide_eq_true hb.symm)] at h;apply ws;intros;refine T.sub (h kb kc) ?_;exact mZ
  |false=>
   rw[if_neg (of_decide_eq_false hb.symm)] at h;apply ws;intros;refine dO (λg1=>?_) (λg1=>?_)
   ·rw[if_pos (by omega)] at h;refine T.sub (h kb kc) ?_;exact mZ
   rw[if_neg (by omega)] at h;apply ws;intros;refine bR (b:=kb) ⟨by omega,by omega⟩ λrb ue=>?_;rw[adR];subst ue;refine I3 ?_;refine An (o:=i) (x:=x) (y:={x with fate:=3}) fB hx rfl (by decide) rfl ?_;have Sz:m.kept.length=(m.kept.set i {x with fate:=3}).length:=aeV.symm;by_cases h4:has t.flags 4
   ·rw[decide_eq_true h4];rw[show bU t=2 from if_pos h4] at h;apply ws;intros;refine bR (b:=some ⟨rb,0,none⟩) ⟨by omega,by omega⟩ λPm ue=>?_;rw[adR];cases ue
    refine I3 ?_;refine An (o:=i) (x:={x with fate:=3}) (y:={x with fate:=2}) fB (by rw[List.getElem?_set_self (by omega)]) rfl (by decide) rfl ?_;rw[ae4];refine K4 2 _ _ ?_;refine Jp (m:=m.cI i 2) (by show 0<=m.ae/\m.ae<1000000;omega) (by show(m.kept.modify i _).length<_;rw[List.length_modify];omega) rfl h
   ·rw[decide_eq_false h4];rw[show bU t=3 from if_neg h4] at h;apply ws;intros;refine K4 3 _ _ ?_;refine Jp (m:=m.cI i 3) (by show 0<=m.ae/\m.ae<1000000;omega) (by show(m.kept.modify i _).length<_;rw[List.length_modify];omega) rfl h
 have j4:∀b:Bool,¬iP t x.move->b=decide (has t.flags 4/\m.closed x.move.aE i=true)->
  T W (ML p m mb mc kb kc (Sep.pt r4 (nm (bK t x.move))::Sep.pt r3 [.u 0,.u 0]::Sep.pt r2 (ai x.move)::Sep.pt r1 (ai t)::R)) (af.j4 K (decide (has t.flags 4)) r2 (some ⟨p,0,none⟩) (i:Int) r1 r4 b):=λb gS hb=>by
  unfold af.j4;cases b with
  |true=>
   unfold Of at h;rw[if_neg gS,if_pos (of_decide_eq_true hb.symm)] at h;apply ws;intros;refine T.sub (h kb kc) ?_;exact mZ
  |false=>
   have Gb:=of_decide_eq_false hb.symm;by_cases h4:has t.flags 4
   ·rw[decide_eq_true h4] at j5⊢;apply ws;intros;refine AI hm hx Pq.2.2 ?_;refine pE ?_;refine j5 _ Gb gS ?_;cases lY:m.closed x.move.ar i
    ·exact(decide_eq_false (λhh=>absurd hh.2 (by decide))).symm
    ·exact(decide_eq_true ⟨h4,rfl⟩).symm
   ·rw[decide_eq_false h4] at j5⊢;apply ws;intros;exact j5 _ Gb gS (decide_eq_false (λhh=>h4 hh.1)).symm
 have j3:∀b:Bool,b=decide (iP t x.move)->
  T W (ML p m mb mc kb kc (Sep.pt r4 (nm (bK t x.move))::Sep.pt r3 [.u 0,.u 0]::Sep.pt r2 (ai x.move)::Sep.pt r1 (ai t)::R)) (af.j3 K (decide (has t.flags 4)) r2 (some ⟨p,0,none⟩) (i:Int) r1 r4 b):=λb hb=>by
  unfold af.j3;cases b with
  |true=>
   unfold Of at h;rw[if_pos (of_decide_eq_true hb.symm)] at h;apply ws;intros;refine T.sub (h kb kc) ?_;exact mZ
  |false=>
   have gS:=of_decide_eq_false hb.symm;by_cases h4:has t.flags 4
   ·rw[decide_eq_true h4] at j4⊢;apply ws;intros;refine AI hm hx Pq.2.1 ?_;refine pE ?_;refine j4 _ gS ?_;cases lY:m.closed x.move.aE i
    ·exact(decide_eq_false (λhh=>absurd hh.2 (by decide))).symm
    ·exact(decide_eq_true ⟨h4,rfl⟩).symm
   ·rw[decide_eq_false h4] at j4⊢;apply ws;intros;exact j4 _ gS (decide_eq_false (λhh=>h4 hh.1)).symm
 unfold af.j2 af.j7;by_cases h4:has t.flags 4
 ·rw[decide_eq_true h4] at j3⊢;apply ws;intros;refine uD NU.move.aB hea ?_;apply ws;intros;refine dO (λg1=>?_) (λg1=>?_)
  ·exact j3 _ (decide_eq_true (show iP t x.move from .inl ⟨h4,g1⟩)).symm
  ·apply ws;intros;refine j3 _ (decide_eq_false (λhh:iP t x.move=>?_)).symm;rcases hh with hh|hh
   ·exact g1 hh.2
   ·exact hh.1 h4
 ·rw[decide_eq_false h4] at j3⊢;apply ws;intros;refine j3 _ ?_;by_cases he:bK t x.move=x.move.aB
  ·rw[decide_eq_true he];refine(decide_eq_false (λhh:iP t x.move=>?_)).symm;rcases hh with hh|hh
   ·exact h4 hh.1
   ·exact hh.2 he
  ·rw[decide_eq_false he];exact(decide_eq_true (show iP t x.move from .inr ⟨h4,he⟩)).symm
end
section
variable {W:World} {L R:LH} {K:VK} {X:WK} {p:Nat} {m:Model} {mb kb:OA} {mc kc:Nat} {a d c:aP} {t u:Move} {r1 r2 r3 r4 r5:Nat} {n i:Nat} {x:Kept}
def RJ{m:Model}{t:Move}{i:Nat}{k:Kept}{r:Int}(hi:m.name t.pending=some i)(hk:m.kept[i]?=some k)(hr:r≠0)(h:kO t (m.named t.id) (some k) (m.closed k.move.aE i) (m.closed k.move.ar i) m.kept.length=r):m.l6 t=(r,m):=by
 unfold Model.l6;rw[hi];dsimp only;rw[hk];dsimp only;rw[h,if_pos hr]
def Qo{b:Bool}(hm:RM m)(hx:m.kept[i]?=some x)(htf:0<=t.flags/\t.flags<1000000)(ht:t.aB<aK)(hb:b=decide (cZ t x.move))
 (h1:cZ t x.move->∀gK gJ,T W (ML p m mb mc gK gJ R) (K (.i 25)))
 (h2: ¬cZ t x.move->1<x.fate->∀gK gJ,T W (ML p m mb mc gK gJ R) (K (.i (25+x.fate))))
 (h: ¬cZ t x.move-> ¬1<x.fate->∀gK gJ,T W (ML p (Of m t i x).2 mb mc gK gJ R) (K (.i (Of m t i x).1))):
 T W (ML p m mb mc kb kc (Sep.pt r3 [.u 0,.u 0]::Sep.pt r2 (ai x.move)::Sep.pt r1 (ai t)::R)) (af.j1 K (some ⟨p,0,none⟩) (i:Int) r1 r3 r2 b):=by
 have rS:=hm.many;have ml:=aei hx;have Le:=(adS.1 hx).1;have ZO:=hm.ground.tp x ml;unfold af.j1;cases b with
 |true=>
  apply ws;intros;refine T.sub (h1 (of_decide_eq_true hb.symm) kb kc) ?_;exact mZ
 |false=>
  have hn:=of_decide_eq_false hb.symm;apply ws;intros;refine bR (b:=kb) ⟨by omega,by omega⟩ λrb ue=>?_;rw[adR];subst ue;refine MN ?_;refine Aq (o:=i) (x:=x) fB hx rfl ?_;apply ws;intros;refine dO (λg1=>?_) (λg1=>?_)
  ·apply ws;intros;refine bR (b:=some ⟨rb,0,none⟩) ⟨by omega,by omega⟩ λPm ue=>?_;rw[adR];cases ue
   refine MN ?_;refine Aq (o:=i) (x:=x) fB hx rfl ?_;apply ws;intros;rw[aw (by omega)];refine T.sub (h2 hn g1 (some ⟨rb,0,none⟩) kc) ?_;exact mZ
  ·apply ws;intros;refine gZ htf (by decide) ?_;apply ws;intros;rename_i r4;have fin:=h hn g1;refine dO (λg2=>?_) (λg2=>?_)
   ·apply ws;intros;refine T.E9 ?_;have e:bK t x.move=x.move.aB:=if_pos g2;rw[<-e];exact Jq hm hx g1 fin ht
   ·refine T.E9 ?_;have e:bK t x.move=t.aB:=if_neg g2;rw[<-e];exact Jq hm hx g1 fin ht
def Qn{b:Bool}(hm:RM m)(hx:m.kept[i]?=some x)(htf:0<=t.flags/\t.flags<1000000)(ht:t.aB<aK)(hb:b=decide (t.aE≠0/\t.aE≠x.move.aE))
 (h1:cZ t x.move->∀gK gJ,T W (ML p m mb mc gK gJ R) (K (.i 25)))
 (h2: ¬cZ t x.move->1<x.fate->∀gK gJ,T W (ML p m mb mc gK gJ R) (K (.i (25+x.fate))))
 (h: ¬cZ t x.move-> ¬1<x.fate->∀gK gJ,T W (ML p (Of m t i x).2 mb mc gK gJ R) (K (.i (Of m t i x).1))):
 T W (ML p m mb mc kb kc (Sep.pt r3 [.u 0,.u 0]::Sep.pt r2 (ai x.move)::Sep.pt r1 (ai t)::R)) (af.j8 K (some ⟨p,0,none⟩) (i:Int) r1 r3 r2 b):=by
 have j1:∀b:Bool,b=decide (cZ t x.move)->T W (ML p m mb mc kb kc (Sep.pt r3 [.u 0,.u 0]::Sep.pt r2 (ai x.move)::Sep.pt r1 (ai t)::R)) (af.j1 K (some ⟨p,0,none⟩) (i:Int) r1 r3 r2 b):=λb hb=>Qo hm hx htf ht hb h1 h2 h;have F6:∀b:Bool,b=decide ((t.aE≠0/\t.aE≠x.move.aE)\/(t.ar≠0/\t.ar≠x.move.ar)\/(t.aF≠0/\t.aF≠x.move.aF))->
  T W (ML p m mb mc kb kc (Sep.pt r3 [.u 0,.u 0]::Sep.pt r2 (ai x.move)::Sep.pt r1 (ai t)::R)) (af.F6 K (some ⟨p,0,none⟩) (i:Int) r1 r3 r2 b):=λb hb=>by
  unfold af.F6;cases b with
  |true=>
   have hc:=of_decide_eq_true hb.symm;refine j1 true (decide_eq_true ?_).symm;rcases hc with hc|hc|hc
   ·exact .inl hc
   ·exact .inr (.inl hc)
   ·exact .inr (.inr (.inl hc))
  |false=>
   have hc:=of_decide_eq_false hb.symm;apply ws;intros;refine bB (λg1=>?_) (λg1=>?_)
   ·have g1:=bne_iff_ne.1 g1;apply ws;intros;refine j1 _ ?_;rw[aed,bne_iff_ne,decide_eq_true_eq];refine⟨λhh=>.inr (.inr (.inr ⟨g1,hh⟩)),λhh=>?_⟩;rcases hh with hh|hh|hh|hh
    ·exact absurd (.inl hh) hc
    ·exact absurd (.inr (.inl hh)) hc
    ·exact absurd (.inr (.inr hh)) hc
    ·exact hh.2
   ·have g1:t.code=0:=by simpa using g1
    refine j1 false (decide_eq_false (λhh=>?_)).symm;rcases hh with hh|hh|hh|hh
    ·exact absurd (.inl hh) hc
    ·exact absurd (.inr (.inl hh)) hc
    ·exact absurd (.inr (.inr hh)) hc
    ·exact hh.1 g1
 have j9:∀b:Bool,b=decide ((t.aE≠0/\t.aE≠x.move.aE)\/(t.ar≠0/\t.ar≠x.move.ar))->
  T W (ML p m mb mc kb kc (Sep.pt r3 [.int .u64 0,.int .u64 0]::Sep.pt r2 (ai x.move)::Sep.pt r1 (ai t)::R)) (af.j9 K (some ⟨p,0,none⟩) (i:Int) r1 r3 r2 b):=λb hb=>by
  unfold af.j9;cases b with
  |true=>
   have hc:=of_decide_eq_true hb.symm;refine F6 true (decide_eq_true ?_).symm;rcases hc with hc|hc
   ·exact .inl hc
   ·exact .inr (.inl hc)
  |false=>
   have hc:=of_decide_eq_false hb.symm;apply ws;intros;refine bB (λg1=>?_) (λg1=>?_)
   ·have g1:=bne_iff_ne.1 g1;apply ws;intros;refine F6 _ ?_;rw[aed,bne_iff_ne,decide_eq_true_eq];refine⟨λhh=>.inr (.inr ⟨g1,hh⟩),λhh=>?_⟩;rcases hh with hh|hh|hh
    ·exact absurd (.inl hh) hc
    ·exact absurd (.inr hh) hc
    ·exact hh.2
   ·have g1:t.aF=0:=by simpa using g1
    refine F6 false (decide_eq_false (λhh=>?_)).symm;rcases hh with hh|hh|hh
    ·exact absurd (.inl hh) hc
    ·exact absurd (.inr hh) hc
    ·exact hh.1 g1
 unfold af.j8;cases b with
 |true=>exact j9 true (decide_eq_true (.inl (of_decide_eq_true hb.symm))).symm
 |false=>
  have hc:=of_decide_eq_false hb.symm;apply ws;intros;by_cases g1:t.ar=0
  ·rw[decide_eq_true g1];refine j9 false (decide_eq_false (λhh=>?_)).symm;rcases hh with hh|hh
   ·exact hc hh
   ·exact hh.1 g1
  ·rw[decide_eq_false g1];apply ws;intros;refine j9 _ ?_;by_cases g2:t.ar=x.move.ar
   ·rw[decide_eq_true g2];refine(decide_eq_false (λhh=>?_)).symm;rcases hh with hh|hh
    ·exact hc hh
    ·exact hh.2 g2
   ·rw[decide_eq_false g2];exact(decide_eq_true (.inr ⟨g1,g2⟩)).symm
def TW(hm:RM m)(ht:tB t)(h:∀gK gJ,T W (ML p (m.l6 t).2 mb mc gK gJ R) (K (.i (m.l6 t).1))):T W (ML p m mb mc kb kc R) (af (some ⟨p,0,none⟩) (ai t) K):=by
 unfold af;have rT:=hm.lh;have rS:=hm.many;have rG:=hm.ae;apply ws;intros;rename_i r1;refine vz ht ?_;apply ws;intros;have Ge:m.name t.pending=none->∀r:Int,kO t (m.named t.id) none false false m.kept.length=r->∀gK gJ,T W (ML p m mb mc gK gJ R) (K (.i r)):=λhn r he gK gJ=>by
  have:=h gK gJ;unfold Model.l6 at this;rw[hn] at this;dsimp only at this;rw[he] at this;exact this
 have Gd:∀i k,m.name t.pending=some i->m.kept[i]?=some k->∀r:Int,r≠0->kO t (m.named t.id) (some k) (m.closed k.move.aE i) (m.closed k.move.ar i) m.kept.length=r->∀gK gJ,T W (ML p m mb mc gK gJ R) (K (.i r)):=λi k hi hk r hr he gK gJ=>by
  have:=h gK gJ;rw[RJ hi hk hr he] at this;exact this
 have pa:∀r:Int,r≠0->(∀pd dC cC,kO t (m.named t.id) pd dC cC m.kept.length=r)->∀gK gJ,T W (ML p m mb mc gK gJ R) (K (.i r)):=λr hr he=>by
  rcases nr (λx:Kept=>decide (x.move.id=t.pending)) m.kept with⟨f1,f2,f3⟩|⟨i,x,f1,f2,f3,f4,f5⟩
  ·exact Ge f2 r (he _ _ _)
  ·exact Gd i x f4 f1 r hr (he _ _ _)
 unfold kO at pa Ge Gd;refine bB (λg1=>?_) (λg1=>?_)
 ·have g1:kC t≠0:=by simpa using g1
  have:=pa _ g1 (λ_ _ _=>if_pos g1) kb kc;exact T.dp this
 have g1:kC t=0:=by simpa using g1
 simp only[if_neg (show ¬kC t≠0 from λhh=>hh g1)] at pa Ge Gd;obtain⟨Mh,ZF⟩:=se g1;have hf:0<=t.flags/\t.flags<1000000:=by omega
 apply ws;intros;refine rL hf ?_;apply ws;intros;by_cases g2:gr t.flags
 rotate_left
 ·rw[decide_eq_false g2];have:=pa 6 (by decide) (λ_ _ _=>if_pos g2) kb kc;apply ws;intros;exact T.dp this
 rw[decide_eq_true g2];simp only[if_neg (show ¬ ¬gr t.flags from λhh=>hh g2)] at pa Ge Gd;apply ws;intros;refine T.L3 ?_;refine DX (by omega) ?_;apply ws;intros;have JO:m.named t.id=m.kept.find? λk=>decide (k.move.id=t.id):=rfl;rcases nr (λx:Kept=>decide (x.move.id=t.id)) m.kept with⟨f1,f2,f3⟩|⟨i,x,f1,f2,f3,f4,f5⟩
 rotate_left
 ·rw[JO,f3] at pa;dsimp only at pa;rw[f5];have Le:=(adS.1 f1).1;have hx:=hm.kept x (aei f1);refine ki (decide_eq_true (by omega)) ?_;apply ws;intros;refine bR (b:=kb) ⟨by omega,by omega⟩ λrb hb=>?_;rw[adR];subst hb;refine MK fB f1 ?_;refine AR hf ⟨hx.qx.1,by have:=hx.qx.2;omega⟩ ?_;apply ws;intros;refine T.sub (pa _ (oF _ _) (λ_ _ _=>rfl) (some ⟨rb,0,none⟩) kc) ?_;exact mZ
 rw[JO,f1] at pa Ge;have Hf:m.named t.id=none:=by rw[JO,f1]
 rw[Hf] at Gd;dsimp only at pa Ge Gd;rw[f3];refine dX (by decide) ?_;apply ws;intros;refine DX (by omega) ?_;apply ws;intros;rcases nr (λx:Kept=>decide (x.move.id=t.pending)) m.kept with⟨d1,d2,d3⟩|⟨i,x,d1,d2,d3,d4,d5⟩
 ·rw[d3];refine ki (by decide) ?_;refine T.sub (Ge d2 23 rfl kb kc) ?_;exact mZ
 have pa:=Gd i x d4 d1;clear Ge Gd;have Le:=(adS.1 d1).1;have ml:=aei d1;have hx:=hm.kept x ml;rw[d5];refine dX (decide_eq_false (by omega)) ?_;apply ws;intros;refine bR (b:=kb) ⟨by omega,by omega⟩ λrb hb=>?_;rw[adR];subst hb;refine Tz ?_;refine MJ fB d1 ?_;apply ws;intros;rename_i r2 r3;have hxf:0<=x.move.flags/\x.move.flags<1000000:=⟨hx.rN.1,by have:=hx.rN.2;omega⟩;refine gZ hxf (by decide) ?_;apply ws;intros;by_cases g3:has x.move.flags 2
 rotate_left
 ·rw[if_pos g3] at pa;rw[decide_eq_false g3];apply ws;intros;refine T.sub (pa 24 (by decide) rfl (some ⟨rb,0,none⟩) kc) ?_;exact mZ
 rw[if_neg (λhh=>hh g3)] at pa;rw[decide_eq_true g3];apply ws;intros;have fin:∀b:Bool,b=decide (t.aE≠0/\t.aE≠x.move.aE)->T W (Sep.pt r3 [.u 0,.u 0]::Sep.pt r2 (ai x.move)::ML p m mb mc (some ⟨rb,0,none⟩) kc (Sep.pt r1 (ai t)::R)) (af.j8 K (some ⟨p,0,none⟩) (i:Int) r1 r3 r2 b):=λb hb=>by
  refine T.perm (L:=ML p m mb mc (some ⟨rb,0,none⟩) kc (Sep.pt r3 [.u 0,.u 0]::Sep.pt r2 (ai x.move)::Sep.pt r1 (ai t)::R)) ?_ (adY (l₁:=[Sep.pt r3 [.u 0,.u 0],Sep.pt r2 (ai x.move)]) (l₂:=[_,_,_])|>.append_right _);refine Qn hm d1 hf ht.aB hb (λhn=>pa 25 (by decide) (if_pos hn)) (λhn Q6=>pa (25+x.fate) (by omega) (by rw[if_neg hn,if_pos Q6])) (λhn Q6 gK gJ=>?_);have:=h gK gJ;rw[Yl g1 g2 Hf d4 d1 g3 hn Q6] at this;exact this
 by_cases g4:t.aE=0
 ·rw[decide_eq_true g4];exact fin false (decide_eq_false (λhh=>hh.1 g4)).symm
 ·rw[decide_eq_false g4];apply ws;intros;refine fin _ ?_;by_cases g5:t.aE=x.move.aE
  ·rw[decide_eq_true g5];exact(decide_eq_false (λhh=>hh.2 g5)).symm
  ·rw[decide_eq_false g5];exact(decide_eq_true ⟨g4,g5⟩).symm
end
inductive It where
 |a(x:aP)
 |t(x:Move)
def vT:It->LV
 | .a x=>.bool true::(ao x++ai zT)
 | .t x=>.bool false::(ao zA++ai x)
def sn(m:Model):It->Int×Model
 | .a x=>m.make x
 | .t x=>m.nZ x
def vB:It->Bool
 | .a x=>wL x
 | .t x=>wK x
def IP:It->Prop
 | .a x=>uu x
 | .t x=>tB x
def JJ(x:It):(vT x).length=31:=by cases x<;>rfl
instance{x:aP}{t:Move}{b:Value}:Gt (b::(ao x++ai t)) 13 (.i x.flags):=⟨rfl⟩
instance{x:aP}{t:Move}{b:Value}:Gt (b::(ao x++ai t)) 28 (.i t.flags):=⟨rfl⟩
def JI(x:It):∀v∈vT x,v.oneCell'=true:=λv hv=>by
 cases x with
 |a x=>
  rcases ae9.1 hv with h|h
  ·subst h;rfl
  ·rcases aeu.1 h with h|h
   ·exact eV _ v h
   ·exact lz _ v h
 |t x=>
  rcases ae9.1 hv with h|h
  ·subst h;rfl
  ·rcases aeu.1 h with h|h
   ·exact eV _ v h
   ·exact lz _ v h
instance{x:aP}{t:Move}{b:Value}:Sub (b::(ao x++ai t)) 1 14 (ao x):=⟨rfl,λj v h=>by
 rw[Nat.add_comm 1 j,ad7,aec (adS.1 h).1];exact h⟩
instance{x:aP}{t:Move}{b:Value}:Sub (b::(ao x++ai t)) 15 16 (ai t):=⟨rfl,λj v h=>by
 have hl:(ao x).length=14:=rfl
 rw[show 15+j=14+j+1 by omega,ad7,aeo (by omega),hl,Nat.add_sub_cancel_left];exact h⟩
def RM.sn{m:Model}{x:It}(h:RM m)(hx:IP x):RM (sn m x).2:=by
 cases x with
 |a x=>exact h.make hx
 |t x=>exact h.nZ hx
def Fb(n:Int):(n.tmod 2!=0)=decide (n%2=1):=by
 rw[aed,bne_iff_ne,decide_eq_true_eq];rcases Int.le_total 0 n with h|h
 ·rw[aey h];omega
 ·obtain⟨k,rfl⟩:∃k:Int,n= -k:=⟨-n,by omega⟩;rw[Int.neg_tmod,aey (by omega)];omega
section
variable {W:World} {L R:LH} {K:VK} {X:WK} {p:Nat} {m:Model} {mb kb:OA} {mc kc:Nat} {x:It}
def FG(h:T W L (K (.bool (vB x)))):T W L (jq (vT x) K):=by
 unfold jq;cases x with
 |a x=>
  rw[show vT (It.a x)=.bool true::(ao x++ai zT) from rfl];apply ws;intros;refine cK (by decide) ?_;rw[Fb];exact T.dp h
 |t x=>
  rw[show vT (It.t x)=.bool false::(ao zA++ai x) from rfl];apply ws;intros;refine cK (by decide) ?_;rw[Fb];exact T.dp h
def Qr(hm:RM m)(hx:IP x)(h:∀mT mS gK gJ,T W (ML p (sn m x).2 mT mS gK gJ R) (K (.i (sn m x).1))):T W (ML p m mb mc kb kc R) (fr (some ⟨p,0,none⟩) (vT x) K):=by
 unfold fr fr.j1;cases x with
 |a x=>
  rw[show vT (It.a x)=.bool true::(ao x++ai zT) from rfl];apply ws;intros;refine T.L3 ?_;refine Qm hm hx λmT mS=>?_;apply ws;intros;refine T.sub (h mT mS kb kc) ?_
  repeat (first|exact ad5.refl _|apply ad5.cons_cons|apply ad5.cons)
 |t x=>
  rw[show vT (It.t x)=.bool false::(ao zA++ai x) from rfl];apply ws;intros;refine vz hx ?_;rw[show sn m (It.t x)=m.nZ x from rfl] at h;unfold Model.nZ at h;apply ws;intros;refine bB (λg1=>?_) (λg1=>?_)
  ·have g1:kC x=0:=by simpa using g1
   obtain⟨Mh,ZF⟩:=se g1;apply ws;intros;refine rL (by omega) ?_;apply ws;intros;by_cases g2:gr x.flags
   ·rw[decide_eq_true g2];rw[if_pos ⟨g1,g2⟩] at h;apply ws;intros;refine T.L3 ?_;refine TW hm hx λgK gJ=>?_;apply ws;intros;refine T.sub (h mb mc gK gJ) ?_;exact mZ
   ·rw[decide_eq_false g2];rw[if_neg (λhh=>g2 hh.2)] at h;apply ws;intros;refine T.L3 ?_;refine Jo hm hx λgK gJ=>?_;apply ws;intros;refine T.sub (h mb mc gK gJ) ?_;exact mZ
  ·have g1: ¬kC x=0:=by simpa using g1
   rw[if_neg (λhh=>g1 hh.1)] at h;apply ws;intros;refine T.L3 ?_;refine Jo hm hx λgK gJ=>?_;apply ws;intros;refine T.sub (h mb mc gK gJ) ?_;exact mZ
def Ce{s:OA}{c:Nat}{l:List aP}[hh:Has R L](hr:nA W R ao 14 s l)(hl:l.length<=1000000)
 (h:∀b c,T W (own b l.length c 31 ((l.map It.a).flatMap vT)::L) (K (.l b l.length c))):T W L (ix s l.length c K):=by
 unfold ix;refine eW (e:=31) ?_;intro w jF;refine⟨λvv w=>∃(i:Nat)(b:OA)(c2:Nat)(out:List It),i<=l.length/\out=(l.take i).map It.a/\vv=[.l none 0 0,.l b i c2,.l s l.length c,.i (l.length:Int),.i (i:Int)]/\St W w (own b i c2 31 (out.flatMap vT)::L),
  λvs _=>match vs with|[_,_,_,_,.int _ d]=>l.length-d.toNat|_=>0,⟨0,none,0,[],ad0 _,rfl,rfl,jF⟩,?_⟩
 rintro sm qB sw b i c2 yD xy xD n1 n2 w2 ⟨i0,b0,c0,out,hi,tA,e,fj⟩;cases e
 refine T.at ?_ fj;have e5:=l9 i;refine dO (λg1=>?_) (λg1=>?_)
 ·have aZ:i<l.length:=by omega
  have gx:=adQ aZ;generalize l[i]=x at gx;refine jy hr ⟨by omega,by omega⟩ rfl λa ha=>?_;rw[adR];refine jx hr ha gx (eY x) ?_;apply ws;intros;refine gY (g:=vT) (l:=out) (x:=It.a x) (by rw[aeb];rfl) rfl rfl (by omega) (by omega) (JI _) λb' c'=>?_;rw[e5];refine T.drop (T.sub (M:=own b' (i+1) c' 31 ((out++[It.a x]).flatMap vT)::L) (λw3 h3=>⟨⟨i+1,b',c',out++[It.a x],aZ,?_,rfl,h3⟩,by show l.length-((i+1:Nat):Int).toNat<l.length-(i:Int).toNat;omega⟩) (by repeat (first|exact ad5.refl _|apply ad5.cons_cons|apply ad5.cons)));rw[ad',gx,aen,tA];rfl
 ·have gj:i=l.length:=by omega
  subst gj;rw[ad3] at tA;subst tA;exact h _ _
def AL{s:OA}{c:Nat}{l:List Move}[hh:Has R L](hr:nA W R ai 16 s l)(hl:l.length<=1000000)
 (h:∀b c,T W (own b l.length c 31 ((l.map It.t).flatMap vT)::L) (K (.l b l.length c))):T W L (gW s l.length c K):=by
 unfold gW;refine eW (e:=31) ?_;intro w jF;refine⟨λvv w=>∃(i:Nat)(b:OA)(c2:Nat)(out:List It),i<=l.length/\out=(l.take i).map It.t/\vv=[.l none 0 0,.l b i c2,.l s l.length c,.i (l.length:Int),.i (i:Int)]/\St W w (own b i c2 31 (out.flatMap vT)::L),
  λvs _=>match vs with|[_,_,_,_,.int _ d]=>l.length-d.toNat|_=>0,⟨0,none,0,[],ad0 _,rfl,rfl,jF⟩,?_⟩
 rintro sm qB sw b i c2 yD xy xD n1 n2 w2 ⟨i0,b0,c0,out,hi,tA,e,fj⟩;cases e
 refine T.at ?_ fj;have e5:=l9 i;refine dO (λg1=>?_) (λg1=>?_)
 ·have aZ:i<l.length:=by omega
  have gx:=adQ aZ;generalize l[i]=x at gx;refine jy hr ⟨by omega,by omega⟩ rfl λa ha=>?_;rw[adR];refine jx hr ha gx (rO x) ?_;apply ws;intros;refine gY (g:=vT) (l:=out) (x:=It.t x) (by rw[aeb,aeb];rfl) rfl rfl (by omega) (by omega) (JI _) λb' c'=>?_;rw[e5];refine T.drop (T.sub (M:=own b' (i+1) c' 31 ((out++[It.t x]).flatMap vT)::L) (λw3 h3=>⟨⟨i+1,b',c',out++[It.t x],aZ,?_,rfl,h3⟩,by show l.length-((i+1:Nat):Int).toNat<l.length-(i:Int).toNat;omega⟩) (by repeat (first|exact ad5.refl _|apply ad5.cons_cons|apply ad5.cons)));rw[ad',gx,aen,tA];rfl
 ·have gj:i=l.length:=by omega
  subst gj;rw[ad3] at tA;subst tA;exact h _ _
end
def Bk(p:Nat)(m:Model)(mb:OA)(mc:Nat)(kb:OA)(kc:Nat)(R:LH)(p2:Nat)(m':Model)(mT:OA)(mS:Nat)(gK:OA)(gJ:Nat)(R':LH):Prop:=
 (R'=R/\p2=p/\m'=m/\mT=mb/\mS=mc/\gK=kb/\gJ=kc)\/R'=ML p m mb mc kb kc R
def Nq{n:Nat}{o:Option (Nat×Int)}{q:Nat}(hq:q<n):(ik n o)[q]?=some (match o with|none=>0|some (i,c)=>if q=i then c else 1):=by
 unfold ik;cases o with
 |none=>simp[hq]
 |some e=>
  obtain⟨i,c⟩:=e;dsimp only;rw[aem];by_cases h:i=q
  ·subst h;rw[if_pos rfl,if_pos (by simpa using hq),if_pos rfl]
  ·rw[if_neg h,if_neg (λhh=>h hh.symm)];simp[hq]
def IQ(x:Int):∀v∈I1 x,v.oneCell'=true:=λv hv=>by simp[I1] at hv;subst hv;rfl
section
variable {W:World} {L R:LH} {K:VK} {X:WK} {p:Nat} {m:Model} {mb kb:OA} {mc kc:Nat} {x:It}
def OZ(W:World)(R:LH)(p:Nat)(m:Model)(mb:OA)(mc:Nat)(kb:OA)(kc:Nat)(l:List It)(lb:OA)(lc:Nat)(vv:LV)(w:World):Prop:=
 ∃(at_ fuel:Nat)(m':Model)(done:List Int)(p2:Nat)(mT:OA)(mS:Nat)(gK:OA)(gJ:Nat)(ob:OA)(oc:Nat)(R':LH),at_<=l.length/\done.length=at_/\l.length<=fuel+at_/\
  eL sn vB l.length m l=(done++(eL sn vB fuel m' (l.drop at_)).1,(eL sn vB fuel m' (l.drop at_)).2)/\RM m'/\Bk p m mb mc kb kc R p2 m' mT mS gK gJ R'/\
  vv=[.p (some ⟨p2,0,none⟩),.l none 0 0,.p none,.l ob at_ oc,.i (at_:Int)]/\
  St W w (ML p2 m' mT mS gK gJ (own ob at_ oc 1 (done.flatMap I1)::own lb l.length lc 31 (l.flatMap vT)::R'))
def Wo(n:Nat)(vs:LV)(_:World):Nat:=match vs with|[_,_,_,_,.int _ d]=>n-d.toNat|_=>0
def DW{w2:World}{l:List It}{lb:OA}{lc:Nat}{at_ fuel n:Nat}{m' mN:Model}{done:List Int}{p2 p6:Nat}{mT gK nb nk ob:OA}{mS gJ nc Nv oc:Nat}{R':LH}{o:Option (Nat×Int)}{bad code:Int}
 (hl:l.length<=1000)(hn:0<n)(ye:at_+n<=l.length)(wU:done.length=at_)(Mg:l.length<=fuel+(at_+n))(ho:(o=none/\bad<0)\/∃i,o=some (i,code)/\i<n/\bad=((at_+i:Nat):Int))(Hg:RM m')(SD:RM mN)
 (yd:Bk p m mb mc kb kc R p2 m' mT mS gK gJ R')
 (lC:eL sn vB l.length m l=(done++ik n o++(eL sn vB fuel (if o=none then mN else m') (l.drop (at_+n))).1,(eL sn vB fuel (if o=none then mN else m') (l.drop (at_+n))).2)):
 T W (ML p6 mN nb nc nk Nv (ML p2 m' mT mS gK gJ (own ob at_ oc 1 (done.flatMap I1)::own lb l.length lc 31 (l.flatMap vT)::R')))
   (aW.j3 K (OZ W R p m mb mc kb kc l lb lc) (Wo l.length) (some ⟨p2,0,none⟩) none 0 0 none ob at_ oc (at_:Int) w2 (some ⟨p2,0,none⟩) none 0 0 none ob at_ oc (at_:Int) ((at_+n-1:Nat):Int) bad code (some ⟨p6,0,none⟩)):=by
 unfold aW.j3;intro w jF;refine⟨λvv w=>∃(q:Nat)(b:OA)(c:Nat),q<=n/\vv=[.p (some ⟨p2,0,none⟩),.l none 0 0,.p none,.l b (at_+q) c,.i (at_:Int),.i ((at_+n-1:Nat):Int),.i bad,.i code,.p (some ⟨p6,0,none⟩),.i ((at_+q:Nat):Int)]/\
  St W w (ML p6 mN nb nc nk Nv (ML p2 m' mT mS gK gJ (own b (at_+q) c 1 ((done++(ik n o).take q).flatMap I1)::own lb l.length lc 31 (l.flatMap vT)::R'))),
  λvs _=>match vs with|[_,_,_,_,_,_,_,_,_,.int _ d]=>at_+n-d.toNat|_=>0,⟨0,ob,oc,ad0 _,rfl,by rw[aff,aeb];exact jF⟩,?_⟩
 rintro p10 sb8 sn8 sc8 p11 b sn9 c T4 Sv L4 V5 p12 V4 w4 ⟨q,b0,c0,hq,e,tw⟩;cases e
 refine T.at ?_ tw;have e5:adN.wrap (((at_+q:Nat):Int)+1)=((at_+(q+1):Nat):Int):=by rw[aw (by omega)];omega
 refine dO (λg1=>?_) (λg1=>?_)
 ·have aZ:q<n:=by omega
  have wR:=Nq (o:=o) aZ;have oz:(ik n o).take (q+1)=(ik n o).take q++[match o with|none=>0|some (i,c)=>if q=i then c else 1]:=by rw[ad',wR];rfl
  rcases ho with⟨rfl,hb⟩|⟨i,rfl,hi,rfl⟩
  ·refine ki (decide_eq_true hb) ?_;refine cK ⟨rfl,trivial⟩ ?_;refine qE λr1=>?_;refine gY (g:=I1) (l:=done++(ik n _).take q) (x:=(0:Int)) rfl rfl rfl (by omega) (by omega) (IQ _) λb' c'=>?_;rw[e5];refine T.drop λw5 h5=>⟨⟨q+1,b',c',aZ,rfl,by rw[oz,<-adZ];exact h5⟩,by show at_+n-((at_+(q+1):Nat):Int).toNat<at_+n-((at_+q:Nat):Int).toNat;omega⟩
  ·refine dX (decide_eq_false (by omega)) ?_;by_cases hqi:q=i
   ·subst hqi;refine ki (by simp) ?_;dsimp only at oz;rw[if_pos rfl] at oz;refine cK ⟨rfl,trivial⟩ ?_;refine qE λr1=>?_;refine gY (g:=I1) (l:=done++(ik n _).take q) (x:=code) rfl rfl rfl (by omega) (by omega) (IQ _) λb' c'=>?_;rw[e5];refine T.drop λw5 h5=>⟨⟨q+1,b',c',aZ,rfl,by rw[oz,<-adZ];exact h5⟩,by show at_+n-((at_+(q+1):Nat):Int).toNat<at_+n-((at_+q:Nat):Int).toNat;omega⟩
   ·refine dX (by simp;omega) ?_;dsimp only at oz;rw[if_neg hqi] at oz;refine cK ⟨rfl,trivial⟩ ?_;refine qE λr1=>?_;refine gY (g:=I1) (l:=done++(ik n _).take q) (x:=(1:Int)) rfl rfl rfl (by omega) (by omega) (IQ _) λb' c'=>?_;rw[e5];refine T.drop λw5 h5=>⟨⟨q+1,b',c',aZ,rfl,by rw[oz,<-adZ];exact h5⟩,by show at_+n-((at_+(q+1):Nat):Int).toNat<at_+n-((at_+q:Nat):Int).toNat;omega⟩
 ·have gj:q=n:=by omega
  subst gj;rw[ad9 (Nat.le_of_eq (jD q o))];have e6:adN.wrap (((at_+q-1:Nat):Int)+1)=((at_+q:Nat):Int):=by rw[aw (by omega)];omega
  rw[e6];rcases ho with⟨rfl,hb⟩|⟨i,rfl,hi,rfl⟩
  ·refine ki (decide_eq_true hb) ?_;rw[if_pos rfl] at lC;have fin:∀Z6,Bk p m mb mc kb kc R p6 mN nb nc nk Nv Z6->T W (ML p6 mN nb nc nk Nv (own b (at_+q) c 1 ((done++ik q none).flatMap I1)::own lb l.length lc 31 (l.flatMap vT)::Z6))
                                       (λw8=>OZ W R p m mb mc kb kc l lb lc [.p (some ⟨p6,0,none⟩),.l none 0 0,.p none,.l b (at_+q) c,.i ((at_+q:Nat):Int)] w8/\Wo l.length [.p (some ⟨p6,0,none⟩),.l none 0 0,.p none,.l b (at_+q) c,.i ((at_+q:Nat):Int)] w8<Wo l.length [.p (some ⟨p2,0,none⟩),.l none 0 0,.p none,.l ob at_ oc,.i (at_:Int)] w2):=λZ6 aa3 w8 h8=>by
    refine⟨⟨at_+q,fuel,mN,done++ik q none,p6,nb,nc,nk,Nv,b,c,Z6,ye,by rw[adT,jD];omega,Mg,lC,SD,aa3,rfl,h8⟩,?_⟩;show l.length-((at_+q:Nat):Int).toNat<l.length-(at_:Int).toNat;omega
   rcases yd with⟨rfl,rfl,rfl,rfl,rfl,rfl,rfl⟩|rfl
   ·refine T.perm (fin _ (.inr rfl)) ?_;exact(adY (l₁:=[Sep.pt p2 (zo m' mT mS gK gJ),own mT m'.made.length mS 14 (m'.made.flatMap ao),own gK m'.kept.length gJ 33 (m'.kept.flatMap aI)]) (l₂:=[_,_])|>.append_right R').append_left [_,_,_]
   ·refine T.sub (fin _ (.inr rfl)) ?_;exact mZ
  ·refine dX (decide_eq_false (by omega)) ?_;rw[if_neg (by simp)] at lC;refine T.drop (T.drop (T.drop λw8 h8=>?_));refine⟨⟨at_+q,fuel,m',done++ik q (some (i,code)),p2,mT,mS,gK,gJ,b,c,R',ye,by rw[adT,jD];omega,Mg,lC,Hg,yd,rfl,h8⟩,?_⟩;show l.length-((at_+q:Nat):Int).toNat<l.length-(at_:Int).toNat;omega
def Jn{w2:World}{l:List It}{lb:OA}{lc:Nat}{at_ fuel n:Nat}{m':Model}{done:List Int}{p2:Nat}{mT gK ob:OA}{mS gJ oc:Nat}{R':LH}{bad code:Int}
 (ft:∀x∈l,IP x)(hl:l.length<=1000)(hn:0<n)(ye:at_+n<=l.length)(wU:done.length=at_)(Mg:l.length<=fuel+(at_+n))(Hg:RM m')
 (yd:Bk p m mb mc kb kc R p2 m' mT mS gK gJ R')
 (Ek:bl vB (l.drop at_)=(n,decide (bad<0)))(uX:(bad= -1/\code=0)\/(bad=((at_+n-1:Nat):Int)/\code=2/\at_+n=l.length))
 (lC:eL sn vB l.length m l=(done++(eL sn vB (fuel+1) m' (l.drop at_)).1,(eL sn vB (fuel+1) m' (l.drop at_)).2)):
 T W (ML p2 m' mT mS gK gJ (own ob at_ oc 1 (done.flatMap I1)::own lb l.length lc 31 (l.flatMap vT)::R'))
   (aW.j2 K (some ⟨p2,0,none⟩) none 0 0 none ob at_ oc (at_:Int) lb l.length (OZ W R p m mb mc kb kc l lb lc) (Wo l.length) (some ⟨p2,0,none⟩) none 0 0 none ob at_ oc (at_:Int) w2 ((at_+n-1:Nat):Int) bad code):=by
 unfold aW.j2 aW.j4;have hmf:=Hg.lh;have hmm:=Hg.many;refine DZ (by omega) (by omega) λp6 nb0 nc0 nk0 aan=>?_;apply ws;intros;have gS:l.drop at_≠[]:=λhh=>by have:=congrArg List.length hh;rw[ad2] at this;simp at this;omega
 have dZ:=xE (f:=sn) (lk:=vB) (n:=fuel) (s:=m') gS;have Wf:(l.drop at_).drop n=l.drop (at_+n):=ae0;rw[Ek] at dZ;dsimp only at dZ;rw[Wf] at dZ;intro w jF;refine⟨λvv w=>∃(i:Nat)(bd cd:Int)(mN:Model)(nb:OA)(nc:Nat)(nk:OA)(Nv:Nat),i<=n/\RM mN/\
                                                                                                      ((bd<0/\bad<0/\fp sn m' ((l.drop at_).take i) 0=(none,mN))\/(∃q s,bd=((at_+q:Nat):Int)/\q<n/\bad<0/\fp sn m' ((l.drop at_).take n) 0=(some (q,cd),s))\/(bd=bad/\cd=code/\ ¬bad<0))/\
                                                                                                      vv=[.p (some ⟨p2,0,none⟩),.l none 0 0,.p none,.l ob at_ oc,.i (at_:Int),.i ((at_+n-1:Nat):Int),.i bd,.i cd,.p (some ⟨p6,0,none⟩),.i ((at_+i:Nat):Int)]/\
                                                                                                      St W w (ML p6 mN nb nc nk Nv (ML p2 m' mT mS gK gJ (own ob at_ oc 1 (done.flatMap I1)::own lb l.length lc 31 (l.flatMap vT)::R'))),
  λvs _=>match vs with|[_,_,_,_,_,_,_,_,_,.int _ d]=>at_+n-d.toNat|_=>0,⟨0,bad,code,m',nb0,nc0,nk0,aan,ad0 _,Hg,?_,rfl,jF⟩,?_⟩
 ·by_cases hb:bad<0
  ·exact .inl ⟨hb,hb,rfl⟩
  ·exact .inr (.inr ⟨rfl,rfl,hb⟩)
 rintro p13 ads adm adp p14 ob1 J8 oc1 uF n17 bd cd p15 n20 w11 ⟨i,bd0,cd0,mN,nb,nc,nk,Nv,hi,SD,rG,e,fj⟩;cases e
 refine T.at ?_ fj;have e5:adN.wrap (((at_+i:Nat):Int)+1)=((at_+(i+1):Nat):Int):=by rw[aw (by omega)];omega
 have leave:(i=n\/ ¬bd<0)->T W (ML p6 mN nb nc nk Nv (ML p2 m' mT mS gK gJ (own ob at_ oc 1 (done.flatMap I1)::own lb l.length lc 31 (l.flatMap vT)::R')))
  (aW.j3 K (OZ W R p m mb mc kb kc l lb lc) (Wo l.length) (some ⟨p2,0,none⟩) none 0 0 none ob at_ oc (at_:Int) w2 (some ⟨p2,0,none⟩) none 0 0 none ob at_ oc (at_:Int) ((at_+n-1:Nat):Int) bd cd (some ⟨p6,0,none⟩)):=λSE=>by
  rcases rG with⟨h1,h2,h3⟩|⟨q,s,h1,h2,h3,h4⟩|⟨h1,h2,h3⟩
  ·have Dg:i=n:=by rcases SE with hh|hh;exact hh;exact absurd h1 hh
   subst Dg;refine DW (fuel:=fuel) (o:=none) hl hn ye wU Mg (.inl ⟨rfl,h1⟩) Hg SD yd ?_;rw[if_neg (by rw[decide_eq_true h2];decide),h3] at dZ;dsimp only at dZ;rw[if_pos rfl,lC,dZ];simp
  ·refine DW (fuel:=fuel) (o:=some (q,cd)) hl hn ye wU Mg (.inr ⟨q,rfl,h2,h1⟩) Hg SD yd ?_;rw[if_neg (by rw[decide_eq_true h3];decide),h4] at dZ;dsimp only at dZ;rw[if_neg (by simp),lC,dZ];simp
  ·subst h1 h2;rcases uX with⟨hb,_⟩|⟨hb,hc,Lh⟩
   ·omega
   refine DW (fuel:=fuel) (o:=some (n-1,cd)) hl hn ye wU Mg (.inr ⟨n-1,rfl,by omega,by rw[hb];omega⟩) Hg SD yd ?_;rw[if_pos (by rw[decide_eq_false h3])] at dZ;rw[if_neg (by simp),lC,dZ,hc];rw[show l.drop (at_+n)=[] from aex (by omega),rK];simp
 by_cases SE:i=n\/ ¬bd<0
 ·have:=leave SE;refine dO (λg1=>?_) (λg1=>?_)
  ·have hb: ¬bd<0:=by rcases SE with hh|hh;omega;exact hh
   rw[decide_eq_false hb];exact this
  ·exact this
 ·have aZ:i<n:=Decidable.byContradiction λhh=>SE (.inl (by omega));have hb:bd<0:=Decidable.byContradiction λhh=>SE (.inr hh);have EV:bad<0/\fp sn m' ((l.drop at_).take i) 0=(none,mN):=by
   rcases rG with⟨h1,h2,h3⟩|⟨q,s,h1,h2,h3,h4⟩|⟨h1,h2,h3⟩
   ·exact⟨h2,h3⟩
   ·omega
   ·omega
  have gx:=adQ (show at_+i<l.length by omega);have Ef:=ft _ (aee (show at_+i<l.length by omega));generalize l[at_+i]=x at gx Ef;have Ye:(l.drop at_)[i]?=some x:=by rw[ae6];exact gx
  have oz:(l.drop at_).take (i+1)=(l.drop at_).take i++[x]:=by rw[ad',Ye];rfl
  have Xl:((l.drop at_).take i).length=i:=by rw[adV,ad2];omega
  refine ki (decide_eq_true (by omega)) ?_;rw[decide_eq_true hb];refine tL ?_;refine bR (b:=lb) ⟨by omega,by omega⟩ λrb Ul=>?_;rw[adR];subst Ul;refine dy (g:=vT) JJ gx ?_;refine Qr SD Ef λnb' nc' nk' WZ=>?_;apply ws;intros;rw[e5];refine bB (λg2=>?_) (λg2=>?_)
  ·have g2:(sn mN x).1≠0:=by simpa using g2
   refine λw3 h3=>⟨⟨i+1,_,(sn mN x).1,_,nb',nc',nk',WZ,aZ,SD.sn Ef,.inr (.inl ⟨i,mN,rfl,aZ,EV.1,?_⟩),rfl,h3⟩,by show at_+n-((at_+(i+1):Nat):Int).toNat<at_+n-((at_+i:Nat):Int).toNat;omega⟩;have ql:(l.drop at_).take n=(l.drop at_).take i++x::((l.drop at_).take n).drop (i+1):=by
    have e1:((l.drop at_).take n)[i]?=some x:=by rw[List.getElem?_take_of_lt aZ];exact Ye
    obtain⟨Le,Wd⟩:=adS.1 e1;have e2:=aek i ((l.drop at_).take n);rw[aev Le,Wd,afn,afh (by omega)] at e2;exact e2.symm
   rw[ql,oC _ _ _ _ _ EV.2,fp,if_pos g2,Xl,adU]
  ·have g2:(sn mN x).1=0:=by simpa using g2
   refine λw3 h3=>⟨⟨i+1,bd,_,_,nb',nc',nk',WZ,aZ,SD.sn Ef,.inl ⟨hb,EV.1,?_⟩,rfl,h3⟩,by show at_+n-((at_+(i+1):Nat):Int).toNat<at_+n-((at_+i:Nat):Int).toNat;omega⟩;rw[oz,oC _ _ _ _ _ EV.2,fp,if_neg (by omega)]
   rfl
def Ng{l:List It}{lb:OA}{lc:Nat}(hm:RM m)(ft:∀x∈l,IP x)(hl:l.length<=1000)
 (h:∀p2 mT mS gK gJ ob oc R',Bk p m mb mc kb kc R p2 (eL sn vB l.length m l).2 mT mS gK gJ R'->RM (eL sn vB l.length m l).2->(eL sn vB l.length m l).1.length=l.length->
  T W (ML p2 (eL sn vB l.length m l).2 mT mS gK gJ (own ob l.length oc 1 ((eL sn vB l.length m l).1.flatMap I1)::own lb l.length lc 31 (l.flatMap vT)::R')) (K (.tuple ⟨[.l ob l.length oc,.p (some ⟨p2,0,none⟩)]⟩))):
 T W (ML p m mb mc kb kc (own lb l.length lc 31 (l.flatMap vT)::R)) (aW (some ⟨p,0,none⟩) lb l.length lc K):=by
 unfold aW aW.j1;refine eW (e:=1) ?_;refine T.E9 ?_;intro w jF;refine⟨OZ W R p m mb mc kb kc l lb lc,Wo l.length,⟨0,l.length,m,[],p,mb,mc,kb,kc,none,0,R,ad0 _,rfl,by omega,by simp,hm,.inl ⟨rfl,rfl,rfl,rfl,rfl,rfl,rfl⟩,rfl,jF⟩,?_⟩;rintro p2v sm qB sw p3 ob at_ oc n1 w2 ⟨at0,fuel,m',done,p2,mT,mS,gK,gJ,ob0,oc0,R',ye,wU,Mg,lC,Hg,yd,e,fj⟩;cases e
 refine T.at ?_ fj;refine dO (λg1=>?_) (λg1=>?_)
 ·have aZ:at_<l.length:=by omega
  intro w3 qF;refine⟨λvv w=>∃e:Nat,at_<=e/\e<=l.length/\(∀j y,j<e-at_->(l.drop at_)[j]?=some y->vB y=true)/\vv=[.p (some ⟨p2,0,none⟩),.l none 0 0,.p none,.l ob at_ oc,.i (at_:Int),.i (e:Int)]/\
   St W w (ML p2 m' mT mS gK gJ (own ob at_ oc 1 (done.flatMap I1)::own lb l.length lc 31 (l.flatMap vT)::R')),
   λvs _=>match vs with|[_,_,_,_,_,.int _ d]=>l.length-d.toNat|_=>0,⟨at_,adW _,ye,(λj y hj=>by omega),rfl,qF⟩,?_⟩
  rintro p16 adr adl ado p17 adq adk adn n22 n23 w15 ⟨en,adH,adG,fH,e,JM⟩;cases e
  refine T.at ?_ JM;obtain⟨fuel,rfl⟩:∃k,fuel=k+1:=⟨fuel-1,by omega⟩;refine dO (λg2=>?_) (λg2=>?_)
  ·have rr:en<l.length:=by omega
   have gx:=adQ rr;generalize l[en]=x at gx;have Ye:(l.drop at_)[en-at_]?=some x:=by rw[ae6,show at_+(en-at_)=en by omega];exact gx
   refine bR (b:=lb) ⟨by omega,by omega⟩ λrb Ul=>?_;rw[adR];subst Ul;refine dy (g:=vT) JJ gx ?_;refine FG ?_;refine pE ?_;cases hlk:vB x with
   |true=>
    refine tL ?_;have e5:=l9 en;rw[e5];refine λw6 h6=>⟨⟨en+1,by omega,rr,λj y hj hy=>?_,rfl,h6⟩,by show l.length-((en+1:Nat):Int).toNat<l.length-(en:Int).toNat;omega⟩;by_cases hje:j=en-at_
    ·subst hje;rw[Ye] at hy;cases hy
     exact hlk
    ·exact fH j y (by omega) hy
   |false=>
    refine qf ?_;refine dX (by simp;omega) ?_;have hc:=s8 (linked:=vB) fH Ye hlk;have:=Jn (W:=W) (R:=R) (K:=K) (p:=p) (m:=m) (mb:=mb) (mc:=mc) (kb:=kb) (kc:=kc) (w2:=w2) (lb:=some ⟨rb,0,none⟩) (lc:=lc) (n:=en-at_+1) (bad:= -1) (code:=0) (fuel:=fuel) (ob:=ob) (oc:=oc) (done:=done) ft hl (by omega) (by omega) wU (by omega) Hg yd (by rw[hc];rfl) (.inl ⟨rfl,rfl⟩) lC;rw[show at_+(en-at_+1) -1=en by omega] at this;exact this
  ·have gj:en=l.length:=by omega
   subst gj;refine ki (by simp) ?_;have rU:(l.drop at_).length=l.length-at_:=ad2;have hc:=q8 (linked:=vB) (l:=l.drop at_) λx hx=>by
    obtain⟨j,hj⟩:=ae' hx;exact fH j x (by have:=(adS.1 hj).1;omega) hj
   have:=Jn (W:=W) (R:=R) (K:=K) (p:=p) (m:=m) (mb:=mb) (mc:=mc) (kb:=kb) (kc:=kc) (w2:=w2) (lb:=lb) (lc:=lc) (n:=l.length-at_) (bad:=((l.length-1:Nat):Int)) (code:=2) (fuel:=fuel) (ob:=ob) (oc:=oc) (done:=done) ft hl (by omega) (by omega) wU (by omega) Hg yd (by rw[hc,rU];rw[decide_eq_false (by omega)]) (.inr ⟨by congr 1;omega,rfl,by omega⟩) lC;have e7:adN.wrap ((l.length:Int) -1)=((l.length-1:Nat):Int):=by rw[aw (by omega)];omega
   rw[show at_+(l.length-at_) -1=l.length-1 by omega] at this;rw[e7];exact this
 ·have gj:at_=l.length:=by omega
  subst gj;rw[List.drop_length,rK] at lC;simp only[aeb] at lC;rw[lC] at h;exact h p2 mT mS gK gJ ob oc R' yd Hg wU
end
def y9{α β:Type}(f:α->β)(lk:β->Bool):∀l:List α,bl lk (l.map f)=bl (λx=>lk (f x)) l
 |[]=>rfl
 |x::l=>by
  simp only[aer,bl];rw[y9 f lk l]
def Dz{α β σ:Type}(f:α->β)(g:σ->β->Int×σ):∀(l:List α)(s:σ)(i:Nat),fp g s (l.map f) i=fp (λs x=>g s (f x)) s l i
 |[],s,i=>rfl
 |x::l,s,i=>by
  simp only[aer,fp];rw[Dz f g l]
def AA{α β σ:Type}(f:α->β)(g:σ->β->Int×σ)(lk:β->Bool):∀(n:Nat)(s:σ)(l:List α),eL g lk n s (l.map f)=eL (λs x=>g s (f x)) (λx=>lk (f x)) n s l
 |0,s,l=>rfl
 |n+1,s,[]=>rfl
 |n+1,s,x::l=>by
  have e:=y9 f lk (x::l);rw[aer] at e;rw[aer];unfold eL;rw[e,<-aer,<-List.map_take,<-List.map_drop,Dz];simp only[AA f g lk n]
section
variable {W:World} {L R:LH} {K:VK} {X:WK} {p:Nat} {m:Model} {mb kb:OA} {mc kc:Nat} {q:ic} {s:rC}
def Jk(m:Model)(l:List aP):eL sn vB l.length m (l.map It.a)=eL Model.make wL l.length m l:=AA It.a sn vB _ m l
def Jj(m:Model)(l:List Move):eL sn vB l.length m (l.map It.t)=eL Model.nZ wK l.length m l:=AA It.t sn vB _ m l
def RM.aJ{m:Model}{q:ic}(h:RM m)(h1:q.op=1->∀a∈q.ag,uu a)(h2:q.op=2->∀t∈q.aQ,tB t):RM (aJ m q).2.2:=by
 have run:∀(n:Nat)(l:List It)(m:Model),(∀x∈l,IP x)->RM m->RM (eL Up.sn vB n m l).2:=by
  intro n
  induction n with
  |zero=>intro l m _ hm;exact hm
  |succ n ih=>
   intro l m ft hm;cases l with
   |nil=>exact hm
   |cons x l=>
    have fH:∀(l:List It)(m:Model)(i:Nat),(∀x∈l,IP x)->RM m->(fp Up.sn m l i).1=none->RM (fp Up.sn m l i).2:=by
     intro l
     induction l with
     |nil=>intro m i _ hm _;exact hm
     |cons y l Pn=>
      intro m i ft hm hn;unfold fp at hn⊢;by_cases hc:(Up.sn m y).1≠0
      ·rw[if_pos hc] at hn;cases hn
      ·rw[if_neg hc] at hn⊢;exact Pn _ _ (λz hz=>ft z (aeU _ hz)) (hm.sn (ft y List.mem_cons_self)) hn
    rw[eL];by_cases hw:(bl vB (x::l)).2=false
    ·rw[if_pos hw];exact hm
    rw[if_neg hw];cases hd:fp Up.sn m ((x::l).take (bl vB (x::l)).1) 0 with
    |mk o s'=>
     have Gl:∀z∈(x::l).drop (bl vB (x::l)).1,IP z:=λz hz=>ft z (List.mem_of_mem_drop hz);cases o with
     |none=>
      have:=fH _ m 0 (λz hz=>ft z (List.mem_of_mem_take hz)) hm (by rw[hd]);rw[hd] at this;exact ih _ _ Gl this
     |some e=>exact ih _ _ Gl hm
 unfold Up.aJ;by_cases he:jv q=false
 ·rw[if_pos he];exact h
 rw[if_neg he];by_cases o1:q.op=1
 ·rw[if_pos o1,<-Jk];exact run _ _ _ (λx hx=>by obtain⟨a,ha,rfl⟩:=aeA.1 hx;exact h1 o1 a ha) h
 rw[if_neg o1];by_cases o2:q.op=2
 ·rw[if_pos o2,<-Jj];exact run _ _ _ (λx hx=>by obtain⟨a,ha,rfl⟩:=aeA.1 hx;exact h2 o2 a ha) h
 rw[if_neg o2];refine h.time _ ?_;unfold jv at he;rw[if_neg o1,if_neg o2] at he;by_cases o3:q.op=3
 ·rw[if_pos o3] at he;have he:(decide (0<=q.now)&&decide (q.now<=1099511627776))=true:=by simpa using he
  simp only[aeJ,decide_eq_true_eq] at he;exact he.1
 ·rw[if_neg o3] at he;exact absurd rfl he
def Qp(hm:RM m)(hq:kS W R q s)(yT:q.ag.length<1000000)(aZ:q.aQ.length<1000000)(h1:q.op=1->∀a∈q.ag,uu a)(h2:q.op=2->∀t∈q.aQ,tB t)
 (h:∀p2 mT mS gK gJ ob oc R',Bk p m mb mc kb kc R p2 (aJ m q).2.2 mT mS gK gJ R'->RM (aJ m q).2.2->
  T W (ML p2 (aJ m q).2.2 mT mS gK gJ (own ob (aJ m q).2.1.length oc 1 ((aJ m q).2.1.flatMap I1)::R')) (K (.tuple ⟨[.l ob (aJ m q).2.1.length oc,.i (aJ m q).1,.p (some ⟨p2,0,none⟩)]⟩))):
 T W (ML p m mb mc kb kc R) (eJ (some ⟨p,0,none⟩) (dF q s) K):=by
 unfold eJ eJ.j1;have hmf:=hm.lh;have hmm:=hm.many;have Lh:=hm.aJ h1 h2;apply ws;intros;rename_i r1;refine CV ?_;by_cases he:jv q=false
 ·rw[he];apply ws;intros;have e:aJ m q=(1,[],m):=by unfold aJ;rw[if_pos he]
  rw[e] at h Lh;refine T.drop ?_;refine eW (e:=1) ?_;refine T.L3 ?_;exact h p mb mc kb kc none 0 R (.inl ⟨rfl,rfl,rfl,rfl,rfl,rfl,rfl⟩) hm
 have Mi:jv q=true:=by simpa using he
 rw[Mi];apply ws;intros;refine bB (λg1=>?_) (λg1=>?_)
 ·have g1:q.op=3:=by simpa using g1
  have e:aJ m q=(0,[],m.time q.now):=by unfold aJ;rw[if_neg he,if_neg (by omega),if_neg (by omega)]
  rw[e] at h Lh;refine T.L3 ?_;refine DZ (by omega) (by omega) λp2 nb nc nk Nv=>?_;apply ws;intros;refine Qk (by omega) (λk hk=>?_) ?_
  ·have:=hm.kept k hk;have t1:=this.timeout;have t2:=this.born;exact aw (by omega)
  apply ws;intros;refine eW (e:=1) ?_;refine T.E9 ?_;refine T.sub (h p2 nb nc nk Nv none 0 _ (.inr rfl) Lh) ?_
  repeat (first|exact ad5.refl _|apply ad5.cons_cons|apply ad5.cons)
 ·have g1: ¬q.op=3:=by simpa using g1
  have adz:q.op=1\/q.op=2:=by
   unfold jv at Mi;by_cases o1:q.op=1
   ·exact .inl o1
   ·by_cases o2:q.op=2
    ·exact .inr o2
    ·rw[if_neg o1,if_neg o2,if_neg g1] at Mi;cases Mi
  apply ws;intros;refine Ce (R:=R) hq.ag (by omega) λb c=>?_;apply ws;intros;have hl8:q.op=1->q.ag.length<=8:=λo1=>by
   unfold jv at Mi;rw[if_pos o1] at Mi;simp only[aeJ,decide_eq_true_eq] at Mi;exact Mi.2
  have aaD:q.op=2->q.aQ.length<=8:=λo2=>by
   unfold jv at Mi;rw[if_neg (by omega),if_pos o2] at Mi;simp only[aeJ,decide_eq_true_eq] at Mi;exact Mi.2
  refine bB (λg2=>?_) (λg2=>?_)
  ·have g2:q.op=2:=by simpa using g2
   have e:aJ m q=(0,eL sn vB (q.aQ.map It.t).length m (q.aQ.map It.t)):=by unfold aJ;rw[if_neg he,if_neg (by omega),if_pos g2,aeg,Jj]
   rw[e] at h Lh;apply ws;intros;refine AL (R:=R) hq.aQ (by omega) λb2 c2=>?_;apply ws;intros;refine T.sub (M:=own b2 q.aQ.length c2 31 ((q.aQ.map It.t).flatMap vT)::ML p m mb mc kb kc R) ?_ (by repeat (first|exact ad5.refl _|apply ad5.cons_cons|apply ad5.cons));refine T.L3 ?_;have Pt:q.aQ.length=(q.aQ.map It.t).length:=(aeg _).symm;rw[Pt];refine Ng hm (λx hx=>by obtain⟨t,ht,rfl⟩:=aeA.1 hx;exact h2 g2 t ht) (by rw[aeg];have:=aaD g2;omega) λp2 mT mS gK gJ ob oc R' yd Uk hlen=>?_;apply ws;intros;have hh:=h p2 mT mS gK gJ ob oc R' yd Uk;dsimp only at hh;rw[hlen] at hh;refine T.sub hh ?_;exact mZ
  ·have g2: ¬q.op=2:=by simpa using g2
   have o1:q.op=1:=by omega
   have e:aJ m q=(0,eL sn vB (q.ag.map It.a).length m (q.ag.map It.a)):=by unfold aJ;rw[if_neg he,if_pos o1,aeg,Jk]
   rw[e] at h Lh;refine T.sub (M:=own b q.ag.length c 31 ((q.ag.map It.a).flatMap vT)::ML p m mb mc kb kc R) ?_ (by repeat (first|exact ad5.refl _|apply ad5.cons_cons|apply ad5.cons));refine T.L3 ?_;have Pt:q.ag.length=(q.ag.map It.a).length:=(aeg _).symm;rw[Pt];refine Ng hm (λx hx=>by obtain⟨t,ht,rfl⟩:=aeA.1 hx;exact h1 o1 t ht) (by rw[aeg];have:=hl8 o1;omega) λp2 mT mS gK gJ ob oc R' yd Uk hlen=>?_;apply ws;intros;have hh:=h p2 mT mS gK gJ ob oc R' yd Uk;dsimp only at hh;rw[hlen] at hh;refine T.sub hh ?_;exact mZ
end
def wN(from_ to s:Int):Bool:=decide (from_<=s/\(to=0\/s<=to))
def FK{s:Int}:∀{l:List km},(∀p∈l,s<=p.1)->pos s l=0
 |[],_=>rfl
 |p::l,h=>by unfold pos;rw[if_neg (by have:=h p List.mem_cons_self;omega)]
def uv{to:Int}(h0: ¬to=0){l:List km}(h:∀p∈l,to<p.1):qD to l=0:=by
 unfold qD;rw[if_neg h0,FK λp hp=>by have:=h p hp;omega];cases l with
 |nil=>rfl
 |cons q l=>
  have:=h q List.mem_cons_self;show(if q.1=to then 0+1 else 0)=0;rw[if_neg (by omega)]
def Cz{to:Int}(h0: ¬to=0){p:km}{l:List km}(fH:∀q∈l,p.1<q.1):qD to (p::l)=if p.1<to+1 then qD to l+1 else 0:=by
 by_cases h1:p.1<to
 ·rw[if_pos (by omega)];unfold qD;rw[if_neg h0,if_neg h0,pos,if_pos h1,ad7];cases l[pos to l]? with
  |none=>rfl
  |some q=>
   dsimp only;split<;>rfl
 ·by_cases h2:p.1=to
  ·rw[if_pos (by omega),uv (l:=l) h0 λq hq=>by have:=fH q hq;omega];unfold qD;rw[if_neg h0,show pos to (p::l)=0 by rw[pos,if_neg h1]];show(if p.1=to then 0+1 else 0)=1;rw[if_pos h2]
  ·rw[if_neg (by omega)];exact uv h0 λq hq=>by
    rcases ae9.1 hq with hq|hq
    ·subst hq;omega
    ·have:=fH q hq;omega
def u0(from_ to:Int):∀(l:List km),oH l->mE from_ to l=l.filter λp=>wN from_ to p.1
 |[],_=>by unfold mE;simp
 |p::l,hr=>by
  have NQ:oH l:=(List.pairwise_cons.1 hr).2;have fH:∀q∈l,p.1<q.1:=(List.pairwise_cons.1 hr).1;have ih:=u0 from_ to l NQ;unfold mE at ih⊢;by_cases h1:p.1<from_
  ·have e1:pos from_ (p::l)=pos from_ l+1:=by rw[pos,if_pos h1]
   have e2:wN from_ to p.1=false:=decide_eq_false (by omega);rw[e1,aeQ (by rw[e2];decide),List.drop_succ_cons,<-ih];by_cases h2:to=0
   ·unfold qD;rw[if_pos h2,if_pos h2];simp only[ad8,Nat.add_sub_add_right]
   ·rw[Cz h2 fH];by_cases h3:p.1<to+1
    ·rw[if_pos h3,Nat.add_sub_add_right]
    ·rw[if_neg h3,uv h2 λq hq=>by have:=fH q hq;omega];simp
  ·have e1:pos from_ (p::l)=0:=by rw[pos,if_neg h1]
   have e3:pos from_ l=0:=FK λq hq=>by have:=fH q hq;omega
   rw[e3,Nat.sub_zero,aeZ] at ih;rw[e1,Nat.sub_zero,aeZ];by_cases h2:to=0
   ·have e2:wN from_ to p.1=true:=decide_eq_true (by omega);unfold qD at ih⊢;rw[if_pos h2] at ih⊢;rw[aeP (p:=λp:km=>wN from_ to p.1) (a:=p) (l:=l) e2,<-ih];simp
   ·rw[Cz h2 fH];by_cases h3:p.1<to+1
    ·have e2:wN from_ to p.1=true:=decide_eq_true (by omega);rw[if_pos h3,List.take_succ_cons,ih,aeP (p:=λp:km=>wN from_ to p.1) (a:=p) (l:=l) e2]
    ·have e2:wN from_ to p.1=false:=decide_eq_false (by omega);rw[uv h2 λq hq=>by have:=fH q hq;omega,aff] at ih;rw[if_neg h3,aff,aeQ (by rw[e2];decide),<-ih]
def tf{b:ax}(P:Int->Bool):∀(l:List Kept)(i:Nat),(∀j,j<l.length->b.kept[i+j]?=l[j]?)->((cL i l).filter λp=>P p.1).map (sK b)=l.filter λk=>P k.move.ae
 |[],i,_=>rfl
 |k::l,i,h=>by
  have h0:=h 0 (by simp);rw[aeL] at h0;have hka:sK b (k.move.ae,(i:Int))=k:=by unfold sK;dsimp only;rw[adR,h0];rfl
  have ih:=tf P l (i+1) λj hj=>by
   have:=h (j+1) (by simpa using hj);rw[ad7] at this;rw[<-this];congr 1;omega
  unfold cL;by_cases hp:P k.move.ae=true
  ·rw[aeP (by exact hp),aeP (by exact hp),aer,hka,ih]
  ·rw[aeQ (by exact hp),aeQ (by exact hp),ih]
def Vn{b:ax}(hg:Good b)(from_ to:Int)(sJ:Bool):Vo b from_ to sJ=(if sJ then b.kept.reverse else b.kept).filter λk=>wN from_ to k.move.ae:=by
 have h:=u0 from_ to _ hg.tQ;have h2:=tf (b:=b) (wN from_ to) b.kept 0 λj hj=>by rw[adU]
 unfold Vo;rw[h];cases sJ with
 |true=>
  rw[if_pos rfl,if_pos rfl,List.map_reverse,h2,List.filter_reverse]
 |false=>
  rw[if_neg aej,if_neg aej,h2]
def ui{α:Type}{key:α->Nat}:∀(l:List α)(id:Nat),(l.map key).Nodup->(l.filter λx=>decide (key x=id))=(l.find? λx=>decide (key x=id)).toList
 |[],id,_=>rfl
 |x::l,id,hn=>by
  rw[aer,List.nodup_cons] at hn;by_cases h:key x=id
  ·rw[aeP (p:=λx=>decide (key x=id)) (a:=x) (l:=l) (decide_eq_true h),List.find?_cons_of_pos (p:=λx=>decide (key x=id)) (a:=x) (decide_eq_true h)];have:l.filter (λx=>decide (key x=id))=[]:=by
    rw[List.filter_eq_nil_iff];intro y hy hh;exact hn.1 (by rw[h,<-of_decide_eq_true hh];exact List.mem_map_of_mem hy)
   rw[this];rfl
  ·rw[aeQ (p:=λx=>decide (key x=id)) (a:=x) (l:=l) (by rw[decide_eq_false h];decide),List.find?_cons_of_neg (p:=λx=>decide (key x=id)) (a:=x) (by rw[decide_eq_false h];decide),ui l id hn.2]
def qn{α β:Type}(f:α->Option β):∀l:List α,l.filterMap f=l.flatMap λx=>(f x).toList
 |[]=>rfl
 |x::l=>by
  rw[aeE,<-qn f l,List.filterMap_cons];cases f x<;>rfl
def findAll{b:ax}(hg:Good b)(ids:List Nat):(ids.flatMap λid=>b.ag.filter λa=>decide (a.id=id))=ids.filterMap b.find:=by
 rw[qn]
 congr 1
 funext id
 exact ui (key:=λa:aP=>a.id) b.ag id hg.ids
def Nx{b:ax}(hg:Good b)(ids:List Nat):(ids.flatMap λid=>(b.kept.filter λk=>decide (k.move.id=id)).map (·.move))=ids.filterMap λid=>(b.named id).map (·.move):=by
 rw[qn]
 congr 1
 funext id
 rw[ui (key:=λk:Kept=>k.move.id) b.kept id hg.names];show _=((b.kept.find? _).map _).toList;cases b.kept.find? (λx=>decide (x.move.id=id))<;>rfl
def Ns(b:ax)(q:ic):List Move:=((((if q.mM then b.kept.reverse else b.kept).filter λk=>wN q.fE q.rv k.move.ae&&fits q k).take q.hI.toNat)).map (·.move)
def FN{b:ax}(hg:Good b)(q:ic):Ns b q=WW b q:=by
 unfold Ns WW;rw[Vn hg,List.filter_filter]
 congr 2
 apply List.filter_congr;intro k _;rw[Bool.and_comm]
section
variable {W:World} {L R:LH} {K:VK} {X:WK} {q:ic} {s:rC}
def Cd{ab:OA}{ac:Nat}{al:List aP}{f:HP->LH}[i:oS ab al.length ac L 14 (al.flatMap ao) f][hh:Has R L]{s:OA}{c:Nat}{ids:List Nat}(hr:nA W R nm 2 s ids)(hl:ids.length<=1000)(X8:al.length<=1000)
 (h:∀b' c' out,out=(ids.flatMap λid=>al.filter λa=>decide (a.id=id))->T W (own b' out.length c' 14 (out.flatMap ao)::L) (K (.l b' out.length c'))):T W L (iw ab al.length ac s ids.length c K):=by
 unfold iw;refine eW (e:=14) ?_;intro w jF;refine⟨λvv w=>∃(i:Nat)(bo:OA)(cc:Nat)(done:List aP),i<=ids.length/\done=((ids.take i).flatMap λid=>al.filter λa=>decide (a.id=id))/\done.length<=1000* i/\vv=[.l none 0 0,.l bo done.length cc,.l s ids.length c,.i (ids.length:Int),.i (i:Int)]/\
  St W w (own bo done.length cc 14 (done.flatMap ao)::L),
  λvs _=>match vs with|[_,_,_,_,.int _ d]=>ids.length-d.toNat|_=>0,⟨0,none,0,[],ad0 _,by simp,by simp,rfl,jF⟩,?_⟩
 rintro sm qB sw bo pn cc yD xy xD n3 n4 w2 ⟨i,b0,c0,done,hi,im,wU,e,fj⟩;cases e
 refine T.at ?_ fj;refine dO (λg1=>?_) (λg1=>?_)
 ·have aZ:i<ids.length:=by omega
  have gx:=adQ aZ;generalize ids[i]=x at gx;have dZ:((ids.take (i+1)).flatMap λid=>al.filter λa=>decide (a.id=id))=done++al.filter λa=>decide (a.id=x):=by
   rw[ad',gx,aeN,<-im];simp
  refine jy hr ⟨by omega,by omega⟩ rfl λa ha=>?_;rw[adR];refine jx hr ha gx rfl ?_;apply ws;intros;rename_i r1;intro w3 qF;refine⟨λvv w=>∃(j:Nat)(bo:OA)(cc:Nat)(dn:List aP),j<=al.length/\dn=done++((al.take j).filter λa=>decide (a.id=x))/\dn.length<=1000* i+j/\vv=[.l none 0 0,.l bo dn.length cc,.p (some (ad r1 0)),.l s ids.length c,.i (ids.length:Int),.i (i:Int),.l ab al.length ac,.i (al.length:Int),.i (j:Int)]/\
                                                    St W w (Sep.pt r1 (nm x)::own bo dn.length cc 14 (dn.flatMap ao)::L),
   λvs _=>match vs with|[_,_,_,_,_,_,_,_,.int _ d]=>al.length-d.toNat|_=>0,⟨0,bo,cc,done,ad0 _,by simp,by omega,rfl,qF⟩,?_⟩
  rintro Zt WO VT Zb Zq Vk a2 sb8 sn8 sc8 n5 n6 sb9 sn9 sc9 n7 n8 w4 ⟨j,b1,c1,dn,hj,Q7,aaP,e,tw⟩;cases e
  refine T.at ?_ tw;have e5:=l9 j;refine dO (λg2=>?_) (λg2=>?_)
  ·have rr:j<al.length:=by omega
   have gy:=adQ rr;generalize al[j]=y at gy;refine bR (b:=ab) ⟨by omega,by omega⟩ λrb hb=>?_;rw[adR];subst hb;refine dy eY gy ?_;apply ws;intros;rw[e5];refine bB (λg3=>?_) (λg3=>?_)
   ·have Ck:done++((al.take (j+1)).filter λa=>decide (a.id=x))=dn++[y]:=by
     rw[ad',gy,List.filter_append,<-adZ,<-Q7]
     congr 1
     show[y].filter _=[y];rw[aeP (by exact g3)];rfl
    apply ws;intros;refine gY (g:=ao) (l:=dn) (x:=y) (aeb _) rfl rfl (by omega) (by omega) (eV _) λb2 c2=>?_;refine T.drop (T.drop λw5 h5=>⟨⟨j+1,b2,c2,dn++[y],rr,Ck.symm,by simp;omega,by simp,by simpa using h5⟩,by show al.length-((j+1:Nat):Int).toNat<al.length-(j:Int).toNat;omega⟩)
   ·have Ck:done++((al.take (j+1)).filter λa=>decide (a.id=x))=dn:=by
     rw[ad',gy,List.filter_append,<-adZ,<-Q7];have:[y].filter (λa:aP=>decide (a.id=x))=[]:=by rw[aeQ (by rw[g3];decide)];rfl
     show dn++[y].filter _=dn;rw[this,aeb]
    refine T.drop λw5 h5=>⟨⟨j+1,Zb,Vk,dn,rr,Ck.symm,by omega,rfl,h5⟩,by show al.length-((j+1:Nat):Int).toNat<al.length-(j:Int).toNat;omega⟩
  ·have gj:j=al.length:=by omega
   subst gj;rw[ad3] at Q7;have e6:=l9 i;rw[e6];refine T.drop λw5 h5=>⟨⟨i+1,Zb,Vk,dn,aZ,by rw[dZ,Q7],by omega,rfl,h5⟩,by show ids.length-((i+1:Nat):Int).toNat<ids.length-(i:Int).toNat;omega⟩
 ·have gj:i=ids.length:=by omega
  subst gj;rw[ad3] at im;exact h bo cc done im
def AK{ab:OA}{ac:Nat}{al:List Kept}{f:HP->LH}[i:oS ab al.length ac L 33 (al.flatMap aI) f][hh:Has R L]{s:OA}{c:Nat}{ids:List Nat}(hr:nA W R nm 2 s ids)(hl:ids.length<=1000)(X8:al.length<=1000)
 (h:∀b' c' out,out=(ids.flatMap λid=>(al.filter λk=>decide (k.move.id=id)).map (·.move))->T W (own b' out.length c' 16 (out.flatMap ai)::L) (K (.l b' out.length c'))):T W L (gV ab al.length ac s ids.length c K):=by
 unfold gV;refine eW (e:=16) ?_;intro w jF;refine⟨λvv w=>∃(i:Nat)(bo:OA)(cc:Nat)(done:List Move),i<=ids.length/\done=((ids.take i).flatMap λid=>(al.filter λk=>decide (k.move.id=id)).map (·.move))/\done.length<=1000* i/\vv=[.l none 0 0,.l bo done.length cc,.l s ids.length c,.i (ids.length:Int),.i (i:Int)]/\
  St W w (own bo done.length cc 16 (done.flatMap ai)::L),
  λvs _=>match vs with|[_,_,_,_,.int _ d]=>ids.length-d.toNat|_=>0,⟨0,none,0,[],ad0 _,by simp,by simp,rfl,jF⟩,?_⟩
 rintro sm qB sw bo pn cc yD xy xD n3 n4 w2 ⟨i,b0,c0,done,hi,im,wU,e,fj⟩;cases e
 refine T.at ?_ fj;refine dO (λg1=>?_) (λg1=>?_)
 ·have aZ:i<ids.length:=by omega
  have gx:=adQ aZ;generalize ids[i]=x at gx;have dZ:((ids.take (i+1)).flatMap λid=>(al.filter λk=>decide (k.move.id=id)).map (·.move))=done++(al.filter λk=>decide (k.move.id=x)).map (·.move):=by
   rw[ad',gx,aeN,<-im];simp
  refine jy hr ⟨by omega,by omega⟩ rfl λa ha=>?_;rw[adR];refine jx hr ha gx rfl ?_;apply ws;intros;rename_i r1;intro w3 qF;refine⟨λvv w=>∃(j:Nat)(bo:OA)(cc:Nat)(dn:List Move),j<=al.length/\dn=done++((al.take j).filter λk=>decide (k.move.id=x)).map (·.move)/\dn.length<=1000* i+j/\vv=[.l none 0 0,.l bo dn.length cc,.p (some (ad r1 0)),.l s ids.length c,.i (ids.length:Int),.i (i:Int),.l ab al.length ac,.i (al.length:Int),.i (j:Int)]/\
                                                    St W w (Sep.pt r1 (nm x)::own bo dn.length cc 16 (dn.flatMap ai)::L),
   λvs _=>match vs with|[_,_,_,_,_,_,_,_,.int _ d]=>al.length-d.toNat|_=>0,⟨0,bo,cc,done,ad0 _,by simp,by omega,rfl,qF⟩,?_⟩
  rintro Zt WO VT Zb Zq Vk a2 sb8 sn8 sc8 n5 n6 sb9 sn9 sc9 n7 n8 w4 ⟨j,b1,c1,dn,hj,Q7,aaP,e,tw⟩;cases e
  refine T.at ?_ tw;have e5:=l9 j;refine dO (λg2=>?_) (λg2=>?_)
  ·have rr:j<al.length:=by omega
   have gy:=adQ rr;generalize al[j]=y at gy;refine bR (b:=ab) ⟨by omega,by omega⟩ λrb hb=>?_;rw[adR];subst hb;refine dy fB gy ?_;apply ws;intros;rw[e5];refine bB (λg3=>?_) (λg3=>?_)
   ·have Ck:done++((al.take (j+1)).filter λk=>decide (k.move.id=x)).map (·.move)=dn++[y.move]:=by
     rw[ad',gy,List.filter_append,aen,<-adZ,<-Q7]
     congr 1
     show([y].filter _).map _=[y.move];rw[aeP (by exact g3)];rfl
    apply ws;intros;refine gY (g:=ai) (l:=dn) (x:=y.move) (aeb _) rfl rfl (by omega) (by omega) (lz _) λb2 c2=>?_;refine T.drop (T.drop λw5 h5=>⟨⟨j+1,b2,c2,dn++[y.move],rr,Ck.symm,by simp;omega,by simp,by simpa using h5⟩,by show al.length-((j+1:Nat):Int).toNat<al.length-(j:Int).toNat;omega⟩)
   ·have Ck:done++((al.take (j+1)).filter λk=>decide (k.move.id=x)).map (·.move)=dn:=by
     rw[ad',gy,List.filter_append,aen,<-adZ,<-Q7];have:[y].filter (λk:Kept=>decide (k.move.id=x))=[]:=by rw[aeQ (by rw[g3];decide)];rfl
     show dn++([y].filter _).map _=dn;rw[this];simp
    refine T.drop λw5 h5=>⟨⟨j+1,Zb,Vk,dn,rr,Ck.symm,by omega,rfl,h5⟩,by show al.length-((j+1:Nat):Int).toNat<al.length-(j:Int).toNat;omega⟩
  ·have gj:j=al.length:=by omega
   subst gj;rw[ad3] at Q7;have e6:=l9 i;rw[e6];refine T.drop λw5 h5=>⟨⟨i+1,Zb,Vk,dn,aZ,by rw[dZ,Q7],by omega,rfl,h5⟩,by show ids.length-((i+1:Nat):Int).toNat<ids.length-(i:Int).toNat;omega⟩
 ·have gj:i=ids.length:=by omega
  subst gj;rw[ad3] at im;exact h bo cc done im
end
instance{t:Move}:Sub (ai t) 2 2 (nm t.aE):=⟨rfl,(uT (cs:=ai t) (o:=2) (n:=t.aE) rfl rfl).2⟩
instance{t:Move}:Sub (ai t) 4 2 (nm t.ar):=⟨rfl,(uT (cs:=ai t) (o:=4) (n:=t.ar) rfl rfl).2⟩
section
variable {W:World} {L R M:LH} {K:VK} {X:WK} {q:ic} {s:rC}
def Kv{I1:LV->World->Prop}{oT:LV->World->Nat}{r1 r2 cc:Nat}{bo:OA}{done:List Move}{x:Kept}{n3 n4:Int}{w2:World}{g:LV->LH}
 (hA:(done.length<q.hI.toNat/\(wN q.fE q.rv x.move.ae&&fits q x)=true)->∀b2 c2,T W (own b2 (done.length+1) c2 16 ((done++[x.move]).flatMap ai)::M) (λw3=>I1 [.p (some (ad r1 0)),.l none 0 0,.l b2 (done.length+1) c2,.i n3,.i (adN.wrap (n4+1))] w3/\
  oT [.p (some (ad r1 0)),.l none 0 0,.l b2 (done.length+1) c2,.i n3,.i (adN.wrap (n4+1))] w3<oT [.p (some (ad r1 0)),.l none 0 0,.l bo done.length cc,.i n3,.i n4] w2))
 (hN: ¬(done.length<q.hI.toNat/\(wN q.fE q.rv x.move.ae&&fits q x)=true)->T W (own bo done.length cc 16 (done.flatMap ai)::M) (λw3=>I1 [.p (some (ad r1 0)),.l none 0 0,.l bo done.length cc,.i n3,.i (adN.wrap (n4+1))] w3/\
  oT [.p (some (ad r1 0)),.l none 0 0,.l bo done.length cc,.i n3,.i (adN.wrap (n4+1))] w3<oT [.p (some (ad r1 0)),.l none 0 0,.l bo done.length cc,.i n3,.i n4] w2))
 [i1:Lc (Sep.pt r1) M (lZ q) g](Eh:0<=q.hI/\q.hI<=16)(hd:done.length<=1000):
 T W (Sep.pt r2 (aI x)::own bo done.length cc 16 (done.flatMap ai)::M) (aM.j1 K r2 (ad r1 0) I1 none 0 0 bo done.length cc n3 n4 oT w2):=by
 have j3:∀(r3:Nat)(yes:Bool),(yes=true↔done.length<q.hI.toNat/\(wN q.fE q.rv x.move.ae&&fits q x)=true)->T W (Sep.pt r3 (ai x.move)::Sep.pt r2 (aI x)::own bo done.length cc 16 (done.flatMap ai)::M) (aM.j3 K r3 bo done.length cc I1 (ad r1 0) none 0 0 n3 n4 oT w2 yes):=λr3 yes hy=>by
  unfold aM.j3;cases yes with
  |true=>
   apply ws;intros;refine gY (b:=bo) (g:=ai) (l:=done) (x:=x.move) (aeb _) rfl rfl (by omega) (by omega) (lz _) λb2 c2=>?_;exact T.drop (T.drop (T.drop (hA (hy.1 rfl) b2 c2)))
  |false=>
   apply ws;intros;exact T.drop (T.drop (hN λhh=>by have:=hy.2 hh;cases this))
 have j4:∀(r3:Nat)(b2:Bool),b2=(q.rW&&decide (x.move.aE=q.tq))->done.length<q.hI.toNat->wN q.fE q.rv x.move.ae=true->T W (Sep.pt r3 (ai x.move)::Sep.pt r2 (aI x)::own bo done.length cc 16 (done.flatMap ai)::M) (aM.j4 K r3 bo done.length cc I1 (ad r1 0) none 0 0 n3 n4 oT w2 b2):=λr3 b2 hb hl hi=>by
  unfold aM.j4;have hf:fits q x=(b2||(q.pz&&decide (x.move.ar=q.tq))):=by rw[hb];rfl
  cases b2 with
  |true=>
   apply ws;intros;refine j3 r3 true ⟨λ_=>⟨hl,by rw[hi,hf];rfl⟩,λ_=>rfl⟩
  |false=>
   rw[Bool.false_or] at hf;apply ws;intros;cases hc:q.pz with
   |true=>
    apply ws;intros;rw[hc,aeS] at hf;refine j3 r3 _ ⟨λh=>⟨hl,by rw[hi,hf,h];rfl⟩,λh=>by rw[hi,hf,aeS] at h;exact h.2⟩
   |false=>
    apply ws;intros;rw[hc,ae1] at hf;refine j3 r3 false ⟨λh=>(by cases h),λh=>by rw[hf,Bool.and_false] at h;cases h.2⟩
 have j2:∀(r3:Nat)(b2:Bool),(b2=true↔wN q.fE q.rv x.move.ae=false\/ ¬done.length<q.hI.toNat)->T W (Sep.pt r3 (ai x.move)::Sep.pt r2 (aI x)::own bo done.length cc 16 (done.flatMap ai)::M) (aM.j2 K I1 (ad r1 0) none 0 0 bo done.length cc n3 n4 oT w2 r3 b2):=λr3 b2 hb=>by
  unfold aM.j2;cases b2 with
  |true=>
   apply ws;intros;refine T.drop (T.drop (hN λhh=>?_));rcases hb.1 rfl with h|h
   ·rw[h,ae1] at hh;cases hh.2
   ·exact h hh.1
  |false=>
   have hi:wN q.fE q.rv x.move.ae=true:=by
    cases h:wN q.fE q.rv x.move.ae with
    |true=>rfl
    |false=>have:=hb.2 (.inl h);cases this
   have hl:done.length<q.hI.toNat:=Decidable.byContradiction λh=>by have:=hb.2 (.inr h);cases this
   apply ws;intros;cases Py:q.rW with
   |true=>
    apply ws;intros;refine j4 r3 _ ?_ hl hi;rw[Py,aeS]
   |false=>
    apply ws;intros;refine j4 r3 _ ?_ hl hi;rw[Py,ae1]
 unfold aM.j1 aM.j5;apply ws;intros;rename_i r3;refine dO (λg1=>?_) (λg1=>?_)
 ·refine j2 r3 true ⟨λ_=>.inl (decide_eq_false (by omega)),λ_=>rfl⟩
 ·apply ws;intros;refine bB (λg2=>?_) (λg2=>?_)
  ·have g2:=bne_iff_ne.1 g2;apply ws;intros;refine dO (λg3=>?_) (λg3=>?_)
   ·refine j2 r3 true ⟨λ_=>.inl (decide_eq_false (by omega)),λ_=>rfl⟩
   ·have hi:wN q.fE q.rv x.move.ae=true:=decide_eq_true (by omega);apply ws;intros;refine j2 r3 _ ⟨λh=>.inr (by have:=of_decide_eq_true h;omega),λh=>?_⟩;rcases h with h|h
    ·rw[hi] at h;cases h
    ·exact decide_eq_true (by omega)
  ·have g2:q.rv=0:=by simpa using g2
   have hi:wN q.fE q.rv x.move.ae=true:=decide_eq_true (by omega);apply ws;intros;refine j2 r3 _ ⟨λh=>.inr (by have:=of_decide_eq_true h;omega),λh=>?_⟩;rcases h with h|h
   ·rw[hi] at h;cases h
   ·exact decide_eq_true (by omega)
def Qq{ab:OA}{ac:Nat}{al:List Kept}{f:HP->LH}[ii:oS ab al.length ac L 33 (al.flatMap aI) f](X8:al.length<=1000)(Eh:0<=q.hI/\q.hI<=16)
 (h:∀b' c' out,out=((((if q.mM then al.reverse else al).filter λk=>wN q.fE q.rv k.move.ae&&fits q k).take q.hI.toNat)).map (·.move)->T W (own b' out.length c' 16 (out.flatMap ai)::L) (K (.l b' out.length c'))):
 T W L (aM ab al.length ac (lZ q) K):=by
 unfold aM;apply ws;intros;rename_i r1;obtain⟨l,hl⟩:∃l,l=if q.mM then al.reverse else al:=⟨_,rfl⟩
 have De:l.length=al.length:=by rw[hl];split<;>simp
 rw[<-hl] at h;refine eW (e:=16) ?_;intro w jF;refine⟨λvv w=>∃(i:Nat)(bo:OA)(cc:Nat)(done:List Move),i<=l.length/\done=(((l.take i).filter λk=>wN q.fE q.rv k.move.ae&&fits q k).take q.hI.toNat).map (·.move)/\done.length<=i/\vv=[.p (some (ad r1 0)),.l none 0 0,.l bo done.length cc,.i (al.length:Int),.i (i:Int)]/\
    St W w (own bo done.length cc 16 (done.flatMap ai)::Sep.pt r1 (lZ q)::L),
  λvs _=>match vs with|[_,_,_,_,.int _ d]=>al.length-d.toNat|_=>0,⟨0,none,0,[],ad0 _,by simp,adW _,rfl,jF⟩,?_⟩
 rintro a1 sm qB sw bo pn cc n3 n4 w2 ⟨i,b0,c0,done,hi,im,wU,e,fj⟩;cases e
 refine T.at ?_ fj;have e5:=l9 i;refine dO (λg1=>?_) (λg1=>?_)
 ·have aZ:i<l.length:=by omega
  have gx:=adQ aZ;generalize l[i]=x at gx;have dZ:=yz (P:=λk=>wN q.fE q.rv k.move.ae&&fits q k) (n:=q.hI.toNat) gx;have rU:done.length=(((l.take i).filter λk=>wN q.fE q.rv k.move.ae&&fits q k).take q.hI.toNat).length:=by rw[im,aeg]
  rw[<-rU] at dZ;have tj:(((l.take (i+1)).filter λk=>wN q.fE q.rv k.move.ae&&fits q k).take q.hI.toNat).map (·.move)=if done.length<q.hI.toNat/\(wN q.fE q.rv x.move.ae&&fits q x)=true then done++[x.move] else done:=by
   rw[dZ];by_cases c1:done.length<q.hI.toNat
   ·rw[if_pos c1];by_cases c2:(wN q.fE q.rv x.move.ae&&fits q x)=true
    ·rw[if_pos c2,if_pos ⟨c1,c2⟩,aen,<-im];rfl
    ·rw[if_neg c2,if_neg (λh=>c2 h.2),<-im]
   ·rw[if_neg c1,if_neg (λh=>c1 h.1),<-im]
  have UE:i<al.length:=by omega
  have gy:=adQ UE;refine bR (b:=ab) ⟨by omega,by omega⟩ λrb hb=>?_;subst hb;rw[adR];refine dy fB gy ?_;apply ws;intros;rename_i r2;have fin:T W (Sep.pt r2 (aI x)::own bo done.length cc 16 (done.flatMap ai)::Sep.pt r1 (lZ q)::L) (aM.j1 K r2 (ad r1 0) (λvv w=>∃(i:Nat)(bo:OA)(cc:Nat)(done:List Move),i<=l.length/\done=(((l.take i).filter λk=>wN q.fE q.rv k.move.ae&&fits q k).take q.hI.toNat).map (·.move)/\done.length<=i/\vv=[.p (some (ad r1 0)),.l none 0 0,.l bo done.length cc,.i (al.length:Int),.i (i:Int)]/\
   St W w (own bo done.length cc 16 (done.flatMap ai)::Sep.pt r1 (lZ q)::L)) none 0 0 bo done.length cc (al.length:Int) (i:Int) (λvs _=>match vs with|[_,_,_,_,.int _ d]=>al.length-d.toNat|_=>0) w2):=by
   refine Kv (q:=q) (x:=x) (M:=Sep.pt r1 (lZ q)::L) (λhy b2 c2=>?_) (λhy=>?_) Eh (by omega)
   ·rw[e5];rw[if_pos hy] at tj;exact λw3 h3=>⟨⟨i+1,b2,c2,done++[x.move],aZ,tj.symm,by simp;omega,by simp,by simpa using h3⟩,by show al.length-((i+1:Nat):Int).toNat<al.length-(i:Int).toNat;omega⟩
   ·rw[e5];rw[if_neg hy] at tj;exact λw3 h3=>⟨⟨i+1,bo,cc,done,aZ,tj.symm,by omega,rfl,h3⟩,by show al.length-((i+1:Nat):Int).toNat<al.length-(i:Int).toNat;omega⟩
  cases yT:q.mM with
  |true=>
   rw[yT,if_pos rfl] at hl;apply ws;intros;have e7:adN.wrap (adN.wrap ((al.length:Int) -1) -(i:Int))=((al.length-1-i:Nat):Int):=by rw[aw (n:=(al.length:Int) -1) (by omega),aw (by omega)];omega
   rw[e7];refine bR (b:=some ⟨rb,0,none⟩) ⟨by omega,by omega⟩ λPm hb=>?_;cases hb
   rw[adR];have gz:al[al.length-1-i]?=some x:=by rw[hl,List.getElem?_reverse UE] at gx;exact gx
   refine dy fB gz ?_;apply ws;intros;exact fin
  |false=>
   rw[yT,if_neg aej] at hl;subst hl;rw[gx] at gy;have Wa:x=l[i]'UE:=by injection gy
   rw[<-Wa];apply ws;intros;exact fin
 ·have gj:i=l.length:=by omega
  subst gj;rw[ad3] at im;have:=h bo cc done im;refine T.sub this ?_;exact mZ
end
section
variable {W:World} {L R M:LH} {K:VK} {X:WK} {q:ic} {s:rC}
def BP(al:List aP)(kl:List Kept)(q:ic):Int×List aP×List Move:=
 if kR q=false then(1,[],[])
 else if q.op=4 then(0,(q.ids.flatMap λid=>al.filter λa=>decide (a.id=id)),[])
 else if q.op=5 then(0,[],q.ids.flatMap λid=>(kl.filter λk=>decide (k.move.id=id)).map (·.move))
 else(0,[],((((if q.mM then kl.reverse else kl).filter λk=>wN q.fE q.rv k.move.ae&&fits q k).take q.hI.toNat)).map (·.move))
def RP{m:Model}(hg:Good (bo m))(q:ic):BP (bo m).ag (bo m).kept q=ask m q:=by
 unfold BP ask;rw[findAll hg,Nx hg,<-FN hg]
 rfl
def HK{ab kb:OA}{ac kc:Nat}{al:List aP}{kl:List Kept}{f g:HP->LH}[i1:oS ab al.length ac L 14 (al.flatMap ao) f][i2:oS kb kl.length kc L 33 (kl.flatMap aI) g][hh:Has R L](hq:kS W R q s)
 (X8:al.length<=1000)(UB:kl.length<=1000)
 (h:∀b1 c1 b2 c2,T W (own b1 (BP al kl q).2.1.length c1 14 ((BP al kl q).2.1.flatMap ao)::own b2 (BP al kl q).2.2.length c2 16 ((BP al kl q).2.2.flatMap ai)::L)
  (K (.tuple ⟨[.l b1 (BP al kl q).2.1.length c1,.l b2 (BP al kl q).2.2.length c2,.i (BP al kl q).1]⟩))):
 T W L (jY ab al.length ac kb kl.length kc (dF q s) K):=by
 unfold jY;apply ws;intros;refine CU ?_;unfold BP at h;by_cases ge:kR q=false
 ·rw[if_pos ge] at h;rw[ge];apply ws;intros;refine T.drop ?_;refine eW (e:=16) ?_;refine eW (e:=14) ?_;exact h none 0 none 0
 rw[if_neg ge] at h;have Re:kR q=true:=by simpa using ge
 rw[Re];apply ws;intros;have Lf:q.op=4\/q.op=5->q.ids.length<=16:=λho=>by
  unfold kR at Re;rw[if_pos ho,aeJ,decide_eq_true_eq,decide_eq_true_eq] at Re;exact Re.2
 refine bB (λg1=>?_) (λg1=>?_)
 ·have g1:q.op=4:=by simpa using g1
  rw[if_pos g1] at h;have:=Lf (.inl g1);apply ws;intros;refine Cd (R:=R) (al:=al) hq.ids (by omega) X8 λb' c' out ho=>?_;rw[<-ho] at h;apply ws;intros;refine eW (e:=16) ?_;refine T.swap ?_;refine T.sub (h b' c' none 0) ?_
  repeat (first|exact ad5.refl _|apply ad5.cons_cons|apply ad5.cons)
 ·have g1: ¬q.op=4:=by simpa using g1
  rw[if_neg g1] at h;apply ws;intros;refine bB (λg2=>?_) (λg2=>?_)
  ·have g2:q.op=5:=by simpa using g2
   rw[if_pos g2] at h;have:=Lf (.inr g2);apply ws;intros;refine AK (R:=R) (al:=kl) hq.ids (by omega) UB λb' c' out ho=>?_;rw[<-ho] at h;apply ws;intros;refine eW (e:=14) ?_;refine T.sub (h none 0 b' c') ?_
   repeat (first|exact ad5.refl _|apply ad5.cons_cons|apply ad5.cons)
  ·have g2: ¬q.op=5:=by simpa using g2
   rw[if_neg g2] at h;have Eh:0<=q.hI/\q.hI<=16:=by
    unfold kR at Re;rw[if_neg (by omega)] at Re;by_cases o6:q.op=6
    ·rw[if_pos o6,aeJ,decide_eq_true_eq] at Re;omega
    ·rw[if_neg o6] at Re;cases Re
   apply ws;intros;refine Qq (al:=kl) UB Eh λb' c' out ho=>?_;rw[<-ho] at h;apply ws;intros;refine eW (e:=14) ?_;refine T.sub (h none 0 b' c') ?_
   repeat (first|exact ad5.refl _|apply ad5.cons_cons|apply ad5.cons)
def uo{α:Type}[DecidableEq α]{l m:List α}{i:Nat}{x y:α}(hx:l[i]?=some x)(hy:m[i]?=some y)(h:l.take i=m.take i)(he:x=y):l.take (i+1)=m.take (i+1):=by
 rw[ad',ad',hx,hy,h,he]
def uq{α:Type}{l m:List α}{i:Nat}{x y:α}(hx:l[i]?=some x)(hy:m[i]?=some y)(he: ¬x=y): ¬l=m:=λh=>by
 rw[h,hy] at hx;injection hx with hx;exact he hx.symm
def KD{ab kb:OA}{ac kc:Nat}{al kl:List Int}{f g:HP->LH}[i1:oS ab al.length ac L 1 (al.flatMap I1) f][i2:oS kb kl.length kc L 1 (kl.flatMap I1) g](X8:al.length<=100000)
 (h:T W L (K (.bool (decide (al=kl))))):T W L (kq ab al.length ac kb kl.length kc K):=by
 unfold kq;by_cases hlen:al.length=kl.length
 ·refine dX (by simp;omega) ?_;intro w jF;refine⟨λvv w=>∃i:Nat,i<=al.length/\al.take i=kl.take i/\vv=[.bool false,.i (al.length:Int),.i (i:Int)]/\St W w L,λvs _=>match vs with|[_,_,.int _ d]=>al.length-d.toNat|_=>0,⟨0,ad0 _,rfl,rfl,jF⟩,?_⟩;rintro b1 n1 n2 w2 ⟨i,hi,heq,e,fj⟩;cases e
  refine T.at ?_ fj;have e5:=l9 i;refine dO (λg1=>?_) (λg1=>?_)
  ·have aZ:i<al.length:=by omega
   have gx:=adQ aZ;have gy:=adQ (show i<kl.length by omega);generalize al[i]=x at gx;generalize kl[i]=y at gy;refine vh ?_;refine bR (b:=ab) ⟨by omega,by omega⟩ λrb hb=>?_;rw[adR];subst hb;refine vk (g:=I1) yw gx rfl ?_;refine lX ?_;refine bR (b:=kb) ⟨by omega,by omega⟩ λPm hb=>?_;rw[adR];subst hb;refine vk (g:=I1) yw gy rfl ?_;refine lX ?_;refine bB (λg2=>?_) (λg2=>?_)
   ·have g2:=bne_iff_ne.1 g2;rw[decide_eq_false (uq gx gy g2)] at h;exact h
   ·have g2:x=y:=by simpa using g2
    rw[e5];exact λw3 h3=>⟨⟨i+1,aZ,uo gx gy heq g2,rfl,h3⟩,by show al.length-((i+1:Nat):Int).toNat<al.length-(i:Int).toNat;omega⟩
  ·have gj:i=al.length:=by omega
   subst gj;rw[ad3,hlen,ad3] at heq;rw[decide_eq_true heq] at h;exact h
 ·refine ki (by rw[bne_iff_ne];omega) ?_;rw[decide_eq_false (λhh=>hlen (by rw[hh]))] at h;exact h
def KC{ab bb tb ub:OA}{ac bc tc uc:Nat}{a b:List aP}{t u:List Move}{f1 f2 f3 f4:HP->LH}[i1:oS ab a.length ac L 14 (a.flatMap ao) f1][i2:oS bb b.length bc L 14 (b.flatMap ao) f2]
 [i3:oS tb t.length tc L 16 (t.flatMap ai) f3][i4:oS ub u.length uc L 16 (u.flatMap ai) f4](ha:a.length<=100000)(ht:t.length<=100000)
 (h:T W L (K (.bool (decide (a=b/\t=u))))):T W L (eE ab a.length ac bb b.length bc tb t.length tc ub u.length uc K):=by
 unfold eE eE.j1;by_cases hlen:a.length=b.length
 ·refine dX (by simp;omega) ?_;by_cases wQ:t.length=u.length
  ·refine dX (by simp;omega) ?_;intro w jF;refine⟨λvv w=>∃i:Nat,i<=a.length/\a.take i=b.take i/\vv=[.bool false,.i (a.length:Int),.i (i:Int)]/\St W w L,λvs _=>match vs with|[_,_,.int _ d]=>a.length-d.toNat|_=>0,⟨0,ad0 _,rfl,rfl,jF⟩,?_⟩;rintro b1 n1 n2 w2 ⟨i,hi,heq,e,fj⟩;cases e
   refine T.at ?_ fj;have e5:=l9 i;refine dO (λg1=>?_) (λg1=>?_)
   ·have aZ:i<a.length:=by omega
    have gx:=adQ aZ;have gy:=adQ (show i<b.length by omega);generalize a[i]=x at gx;generalize b[i]=y at gy;refine vh ?_;refine bR (b:=ab) ⟨by omega,by omega⟩ λrb hb=>?_;rw[adR];subst hb;refine dy eY gx ?_;refine bR (b:=bb) ⟨by omega,by omega⟩ λPm hb=>?_;rw[adR];subst hb;refine dy eY gy ?_;refine Sj ?_;by_cases g2:x=y
    ·rw[decide_eq_true g2,e5];refine xx ?_;exact λw3 h3=>⟨⟨i+1,aZ,uo gx gy heq g2,rfl,h3⟩,by show a.length-((i+1:Nat):Int).toNat<a.length-(i:Int).toNat;omega⟩
    ·rw[decide_eq_false g2];rw[decide_eq_false (λhh:a=b/\t=u=>uq gx gy g2 hh.1)] at h;exact h
   ·have gj:i=a.length:=by omega
    subst gj;rw[ad3,hlen,ad3] at heq;intro w3 qF;refine⟨λvv w=>∃i:Nat,i<=t.length/\t.take i=u.take i/\vv=[.bool false,.i (t.length:Int),.i (i:Int)]/\St W w L,λvs _=>match vs with|[_,_,.int _ d]=>t.length-d.toNat|_=>0,⟨0,ad0 _,rfl,rfl,qF⟩,?_⟩;rintro b1 n1 n2 w4 ⟨i,hi,H7,e,tw⟩;cases e
    refine T.at ?_ tw;have e5:=l9 i;refine dO (λg1=>?_) (λg1=>?_)
    ·have aZ:i<t.length:=by omega
     have gx:=adQ aZ;have gy:=adQ (show i<u.length by omega);generalize t[i]=x at gx;generalize u[i]=y at gy;refine vh ?_;refine bR (b:=tb) ⟨by omega,by omega⟩ λrb hb=>?_;rw[adR];subst hb;refine dy rO gx ?_;refine bR (b:=ub) ⟨by omega,by omega⟩ λPm hb=>?_;rw[adR];subst hb;refine dy rO gy ?_;refine MO ?_;by_cases g2:x=y
     ·rw[decide_eq_true g2,e5];refine xx ?_;exact λw3 h3=>⟨⟨i+1,aZ,uo gx gy H7 g2,rfl,h3⟩,by show t.length-((i+1:Nat):Int).toNat<t.length-(i:Int).toNat;omega⟩
     ·rw[decide_eq_false g2];rw[decide_eq_false (λhh:a=b/\t=u=>uq gx gy g2 hh.2)] at h;exact h
    ·have gj:i=t.length:=by omega
     subst gj;rw[ad3,wQ,ad3] at H7;rw[decide_eq_true ⟨heq,H7⟩] at h;exact h
  ·refine ki (by rw[bne_iff_ne];omega) ?_;rw[decide_eq_false (λhh:a=b/\t=u=>wQ (by rw[hh.2]))] at h;exact h
 ·refine ki (by rw[bne_iff_ne];omega) ?_;refine tL ?_;rw[decide_eq_false (λhh:a=b/\t=u=>hlen (by rw[hh.1]))] at h;exact h
end
section
variable {W:World} {L R M:LH} {K:VK} {X:WK} {q:ic} {s:rC} {p:Nat} {m:Model} {mb kb:OA} {mc kc:Nat}
def KF{r1:Nat}{ob kb ab xb:OA}{oc kc ac xc:Nat}{ol al:List aP}{kl xl:List Kept}{ck st RB Sm:Int}{f0:LV->LH}{f1 f2 f3 f4:HP->LH}
 [i0:Lc (Sep.pt r1) L [.l ob ol.length oc,.l kb kl.length kc,.i ck,.i st] f0]
 [i1:oS ob ol.length oc L 14 (ol.flatMap ao) f1][i2:oS ab al.length ac L 14 (al.flatMap ao) f2][i3:oS kb kl.length kc L 33 (kl.flatMap aI) f3][i4:oS xb xl.length xc L 33 (xl.flatMap aI) f4](ha:ol.length<=100000)(hk:kl.length<=100000)
 (h:T W L (K (.bool (decide (ol=al/\kl=xl/\ck=RB/\st=Sm))))):T W L (bt (some (ad r1 0)) ab al.length ac xb xl.length xc RB Sm K):=by
 have bad: ¬(ol=al/\kl=xl/\ck=RB/\st=Sm)->T W L (K (.bool false)):=λhh=>by rw[decide_eq_false hh] at h;exact h
 have j1:∀b:Bool,(b=true-> ¬(ol=al/\kl=xl/\ck=RB/\st=Sm))->(b=false->ol.length=al.length/\kl.length=xl.length/\ck=RB/\st=Sm)->T W L (bt.j1 K al.length (some (ad r1 0)) ab xl.length xb b):=λb PB ue=>by
  unfold bt.j1;cases b with
  |true=>exact bad (PB rfl)
  |false=>
   obtain⟨XH,NT,XY,rG⟩:=ue rfl;refine qf ?_;intro w jF;refine⟨λvv w=>∃i:Nat,i<=al.length/\ol.take i=al.take i/\vv=[.bool false,.i (al.length:Int),.i (i:Int)]/\St W w L,λvs _=>match vs with|[_,_,.int _ d]=>al.length-d.toNat|_=>0,⟨0,ad0 _,rfl,rfl,jF⟩,?_⟩;rintro b1 n1 n2 w2 ⟨i,hi,heq,e,fj⟩;cases e
   refine T.at ?_ fj;have e5:=l9 i;refine dO (λg1=>?_) (λg1=>?_)
   ·have aZ:i<al.length:=by omega
    have gx:=adQ (show i<ol.length by omega);have gy:=adQ aZ;generalize ol[i]=x at gx;generalize al[i]=y at gy;refine vh ?_;refine zk ?_;refine jM (i:=i0) rfl ?_;refine tI ?_;refine bR (b:=ob) ⟨by omega,by omega⟩ λrb hb=>?_;rw[adR];subst hb;refine dy eY gx ?_;refine bR (b:=ab) ⟨by omega,by omega⟩ λPm hb=>?_;rw[adR];subst hb;refine dy eY gy ?_;refine Sj ?_;by_cases g2:x=y
    ·rw[decide_eq_true g2,e5];refine xx ?_;exact λw3 h3=>⟨⟨i+1,aZ,uo gx gy heq g2,rfl,h3⟩,by show al.length-((i+1:Nat):Int).toNat<al.length-(i:Int).toNat;omega⟩
    ·rw[decide_eq_false g2];exact bad λhh=>uq gx gy g2 hh.1
   ·have gj:i=al.length:=by omega
    subst gj;rw[ad3,<-XH,ad3] at heq;intro w3 qF;refine⟨λvv w=>∃i:Nat,i<=xl.length/\kl.take i=xl.take i/\vv=[.bool false,.i (xl.length:Int),.i (i:Int)]/\St W w L,λvs _=>match vs with|[_,_,.int _ d]=>xl.length-d.toNat|_=>0,⟨0,ad0 _,rfl,rfl,qF⟩,?_⟩;rintro b1 n1 n2 w4 ⟨i,hi,H7,e,tw⟩;cases e
    refine T.at ?_ tw;have e5:=l9 i;refine dO (λg1=>?_) (λg1=>?_)
    ·have aZ:i<xl.length:=by omega
     have gx:=adQ (show i<kl.length by omega);have gy:=adQ aZ;generalize kl[i]=x at gx;generalize xl[i]=y at gy;refine vh ?_;refine zk ?_;refine Ap ?_;refine jM (i:=i0) (o:=1) rfl ?_;refine tI ?_;refine bR (b:=kb) ⟨by omega,by omega⟩ λrb hb=>?_;rw[adR];subst hb;refine dy fB gx ?_;refine bR (b:=xb) ⟨by omega,by omega⟩ λPm hb=>?_;rw[adR];subst hb;refine dy fB gy ?_;refine WE ?_;by_cases g2:x=y
     ·rw[decide_eq_true g2,e5];refine xx ?_;exact λw3 h3=>⟨⟨i+1,aZ,uo gx gy H7 g2,rfl,h3⟩,by show xl.length-((i+1:Nat):Int).toNat<xl.length-(i:Int).toNat;omega⟩
     ·rw[decide_eq_false g2];exact bad λhh=>uq gx gy g2 hh.2.1
    ·have gj:i=xl.length:=by omega
     subst gj;rw[ad3,<-NT,ad3] at H7;rw[decide_eq_true ⟨heq,H7,XY,rG⟩] at h;exact h
 unfold bt bt.j2 bt.j3;refine zk ?_;refine jM (i:=i0) rfl ?_;refine tI ?_;by_cases hlen:ol.length=al.length
 ·refine dX (by simp;omega) ?_;refine zk ?_;refine Ap ?_;refine jM (i:=i0) (o:=1) rfl ?_;refine tI ?_;by_cases wQ:kl.length=xl.length
  ·refine dX (by simp;omega) ?_;refine zk ?_;refine Ap ?_;refine jM (i:=i0) (o:=2) rfl ?_;refine lX ?_;by_cases hc:ck=RB
   ·refine dX (by simpa using hc) ?_;refine zk ?_;refine Ap ?_;refine jM (i:=i0) (o:=3) rfl ?_;refine lX ?_;refine j1 _ (λhb=>?_) (λhb=>⟨hlen,wQ,hc,by simpa using hb⟩);have:=bne_iff_ne.1 hb;exact λhh=>this hh.2.2.2
   ·refine ki (by simpa using hc) ?_;exact j1 true (λ_ hh=>hc hh.2.2.1) (λhb=>by cases hb)
  ·refine ki (by rw[bne_iff_ne];omega) ?_;refine tL ?_;exact j1 true (λ_ hh=>wQ (by rw[hh.2.1])) (λhb=>by cases hb)
 ·refine ki (by rw[bne_iff_ne];omega) ?_;refine tL ?_;refine tL ?_;exact j1 true (λ_ hh=>hlen (by rw[hh.1])) (λhb=>by cases hb)
def Ql{ab xb:OA}{ac xc:Nat}{al:List aP}{xl:List Kept}{RB Sm:Int}{f2 f4:HP->LH}(hm:RM m)
 [i2:oS ab al.length ac R 14 (al.flatMap ao) f2][i4:oS xb xl.length xc R 33 (xl.flatMap aI) f4]
 (h:T W (ML p m mb mc kb kc R) (K (.bool (decide (m.made.map m.full=al/\m.kept=xl/\m.clock=RB/\m.ae=Sm))))):T W (ML p m mb mc kb kc R) (gH (some ⟨p,0,none⟩) ab al.length ac xb xl.length xc RB Sm K):=by
 unfold gH;have hmf:=hm.lh;have hmm:=hm.many;apply ws;intros;refine yG (by omega) (by omega) hm.VY hm.WR λob oc=>?_;apply ws;intros;rename_i r1;have Pt:m.made.length=(m.made.map m.full).length:=(aeg _).symm;rw[Pt];refine KF (ob:=ob) (ol:=m.made.map m.full) (kl:=m.kept) (by rw[aeg];omega) (by omega) ?_;apply ws;intros;refine T.drop ?_;refine T.sub h ?_;exact mZ
end
instance{e:Int}{rb ab tb:OA}{rn rc an ac tn tc:Nat}:Sub (nW e rb rn rc ab an ac tb tn tc) 0 4 (nW e rb rn rc ab an ac tb tn tc):=⟨rfl,λj v h=>by rw[adU];exact h⟩
instance{x1 x2 x3 x4:Value}{e:Int}{rb ab tb:OA}{rn rc an ac tn tc:Nat}:Wr [x1,x2,x3,x4] 0 (nW e rb rn rc ab an ac tb tn tc) (nW e rb rn rc ab an ac tb tn tc):=⟨rfl,adW _,λv hv=>by simp[nW] at hv;rcases hv with rfl|rfl|rfl|rfl<;>rfl⟩
section
variable {W:World} {L R M:LH} {K:VK} {X:WK} {q:ic} {s:rC} {p:Nat} {m:Model} {mb kb:OA} {mc kc:Nat}
def T.un2{A B:HP}(h:T W (ML p m mb mc kb kc (A::B::R)) X):T W (A::B::ML p m mb mc kb kc R) X:=
 T.perm h (adY (l₁:=[A,B]) (l₂:=[_,_,_])|>.append_right R)
def Tv{e:Int}{rb ab tb:OA}{rc ac tc:Nat}{res:List Int}{al:List aP}{tl:List Move}{f1 f2 f3:HP->LH}(hg:Good (bo m))(pI:Md.Ground m)
 [i1:oS rb res.length rc R 1 (res.flatMap I1) f1][i2:oS ab al.length ac R 14 (al.flatMap ao) f2][i3:oS tb tl.length tc R 16 (tl.flatMap ai) f3](hlr:res.length<=10000)(yT:al.length<=10000)(aZ:tl.length<=10000)
 (hq:kS W R q s)(Un:q.ag.length<1000000)(ZH:q.aQ.length<1000000)(hA:∀a∈q.ag,uu a)(hT:∀t∈q.aQ,tB t)
 (Wj:db q=false->T W (ML p m mb mc kb kc R) (K (.tuple ⟨[.bool (decide (e=(ask m q).1/\(al=(ask m q).2.1/\tl=(ask m q).2.2)/\res=[])),.p (some ⟨p,0,none⟩)]⟩)))
 (hB:db q=true->gp q=false->T W (ML p m mb mc kb kc R) (K (.tuple ⟨[.bool (decide (e=1/\res=[])),.p (some ⟨p,0,none⟩)]⟩)))
 (hC:db q=true->gp q=true->e=0->∀p2 mT mS gK gJ R',Bk p m mb mc kb kc R p2 (aJ m q).2.2 mT mS gK gJ R'->RM (aJ m q).2.2->T W (ML p2 (aJ m q).2.2 mT mS gK gJ R') (K (.tuple ⟨[.bool (decide ((aJ m q).1=0/\res=(aJ m q).2.1)),.p (some ⟨p2,0,none⟩)]⟩)))
 (hD:db q=true->gp q=true->e≠0->T W (ML p m mb mc kb kc R) (K (.tuple ⟨[.bool (decide ((e=8\/e=9\/e=6\/e=3)/\res=[]/\al=[]/\tl=[])),.p (some ⟨p,0,none⟩)]⟩))):
 T W (ML p m mb mc kb kc R) (av (nW e rb res.length rc ab al.length ac tb tl.length tc) (some ⟨p,0,none⟩) (dF q s) K):=by
 have hm:=RM.Jv hg pI;have hmf:=hm.lh;have hmm:=hm.many;have Xc:∀{α:Type}(l:List α),(((l.length:Nat):Int)==0)=decide (l=[]):=λl=>by
  rw[aed,beq_iff_eq,decide_eq_true_eq,<-List.length_eq_zero_iff];omega
 unfold av;apply ws;intros;refine yH ?_;cases he:db q with
 |false=>
  have Wj:=Wj he;apply ws;intros;rename_i r1 r2;refine T.un2 ?_;refine yG (by omega) (by omega) hm.VY hm.WR λob oc=>?_;apply ws;intros;have Pt:m.made.length=(m.made.map m.full).length:=(aeg _).symm;have aa1:(m.made.map m.full).length<=1000:=by rw[aeg];omega
  rw[Pt];have aaY:BP (m.made.map m.full) m.kept q=ask m q:=by
   rw[<-RP hg];have:m.made.map m.full=(bo m).ag:=ae7 λa ha=>pI.full ha;rw[this];rfl
  refine HK (R:=R) (al:=m.made.map m.full) (kl:=m.kept) hq aa1 (by omega) λb1 c1 b2 c2=>?_;rw[aaY];refine Tx ?_;apply ws;intros;have j2:∀b:Bool,b=decide (e=(ask m q).1/\(al=(ask m q).2.1/\tl=(ask m q).2.2))->T W (own b1 (ask m q).2.1.length c1 14 ((ask m q).2.1.flatMap ao)::own b2 (ask m q).2.2.length c2 16 ((ask m q).2.2.flatMap ai)::ML p m mb mc kb kc (own ob (m.made.map m.full).length oc 14 ((m.made.map m.full).flatMap ao)::Sep.pt r2 (dF q s)::Sep.pt r1 (nW e rb res.length rc ab al.length ac tb tl.length tc)::R)) (av.j2 K r1 (some ⟨p,0,none⟩) b):=λb hb=>by
   unfold av.j2 av.j1;cases b with
   |true=>
    have hb:=of_decide_eq_true hb.symm;apply ws;intros;rw[Xc];have e1:decide (res=[])=decide (e=(ask m q).1/\(al=(ask m q).2.1/\tl=(ask m q).2.2)/\res=[]):=by rw[decide_eq_decide];exact⟨λh=>⟨hb.1,hb.2,h⟩,λh=>h.2.2⟩
    rw[e1];refine T.sub Wj ?_;exact mZ
   |false=>
    have hb:=of_decide_eq_false hb.symm;have e1:false=decide (e=(ask m q).1/\(al=(ask m q).2.1/\tl=(ask m q).2.2)/\res=[]):=(decide_eq_false (λh=>hb ⟨h.1,h.2.1⟩)).symm;apply ws;intros;rw[e1];refine T.sub Wj ?_;exact mZ
  refine bB (λg1=>?_) (λg1=>?_)
  ·have g1:e=(ask m q).1:=by simpa using g1
   apply ws;intros;refine KC (a:=al) (b:=(ask m q).2.1) (t:=tl) (u:=(ask m q).2.2) (by omega) (by omega) ?_;refine pE ?_;refine j2 _ ?_;rw[decide_eq_decide];exact⟨λh=>⟨g1,h⟩,λh=>h.2⟩
  ·have g1: ¬e=(ask m q).1:=by simpa using g1
   exact j2 false (decide_eq_false (λh=>g1 h.1)).symm
 |true=>
  have hB:=hB he;have hC:=hC he;have hD:=hD he;apply ws;intros;rename_i r1 r2;refine T.un2 ?_;refine CT (R:=R) hq Un ZH ?_;cases hw:gp q with
  |false=>
   have hB:=hB hw;apply ws;intros;unfold av.j3;refine bB (λg1=>?_) (λg1=>?_)
   ·have g1:e=1:=by simpa using g1
    apply ws;intros;rw[Xc];have e1:decide (res=[])=decide (e=1/\res=[]):=by rw[decide_eq_decide];exact⟨λh=>⟨g1,h⟩,λh=>h.2⟩
    rw[e1];refine T.sub hB ?_;exact mZ
   ·have g1: ¬e=1:=by simpa using g1
    have e1:false=decide (e=1/\res=[]):=(decide_eq_false (λh=>g1 h.1)).symm;rw[e1];refine T.sub hB ?_;exact mZ
  |true=>
   have hC:=hC hw;have hD:=hD hw;apply ws;intros;refine Qp hm ⟨hq.ag.mono,hq.aQ.mono,hq.ids.mono,hq.ca,hq.ct,hq.ci⟩ Un ZH (λ_=>hA) (λ_=>hT) λp2 mT mS gK gJ ob oc R' yd Uk=>?_;refine Tx ?_;have hR2:∃g1 g2 g3,∃(_:oS rb res.length rc R' 1 (res.flatMap I1) g1)(_:oS ab al.length ac R' 14 (al.flatMap ao) g2)(_:oS tb tl.length tc R' 16 (tl.flatMap ai) g3),∃g4,Lc (Sep.pt r1) R' (nW e rb res.length rc ab al.length ac tb tl.length tc) g4:=by
    rcases yd with⟨rfl,-⟩|rfl
    ·exact⟨_,_,_,inferInstance,inferInstance,inferInstance,_,inferInstance⟩
    ·exact⟨_,_,_,inferInstance,inferInstance,inferInstance,_,inferInstance⟩
   obtain⟨g1,g2,g3,k1,k2,k3,g4,k4⟩:=hR2;have fC:e=0->T W (ML p2 (aJ m q).2.2 mT mS gK gJ R') (K (.tuple ⟨[.bool (decide ((aJ m q).1=0/\res=(aJ m q).2.1)),.p (some ⟨p2,0,none⟩)]⟩)):=λh0=>by
    rcases yd with⟨rfl,rfl,Hg,rfl,rfl,rfl,rfl⟩|rfl
    ·refine T.sub (hC h0 p2 mT mS gK gJ R (.inl ⟨rfl,rfl,Hg,rfl,rfl,rfl,rfl⟩) Uk) ?_;exact mZ
    ·refine T.sub (hC h0 p2 mT mS gK gJ _ (.inr rfl) Uk) ?_;exact mZ
   have fD:e≠0->∀b:Bool,b=decide ((e=8\/e=9\/e=6\/e=3)/\res=[]/\al=[]/\tl=[])->T W (ML p2 (aJ m q).2.2 mT mS gK gJ R') (K (.tuple ⟨[.bool b,.pointer (some ⟨p,0,none⟩)]⟩)):=λh0 b hb=>by
    rw[hb];have hD:=hD h0;rcases yd with⟨rfl,rfl,Hg,rfl,rfl,rfl,rfl⟩|rfl
    ·rw[Hg];refine T.sub hD ?_;exact mZ
    ·refine T.sub hD ?_;refine ad5.trans ?_ (List.sublist_append_right [Sep.pt p2 (zo (aJ m q).2.2 mT mS gK gJ),own mT (aJ m q).2.2.made.length mS 14 ((aJ m q).2.2.made.flatMap ao),own gK (aJ m q).2.2.kept.length gJ 33 ((aJ m q).2.2.kept.flatMap aI)] _);exact mZ
   apply ws;intros;unfold av.j4;have hj6:e≠0->∀b:Bool,b=decide (e=8\/e=9)->T W (ML p2 (aJ m q).2.2 mT mS gK gJ (own ob (aJ m q).2.1.length oc 1 ((aJ m q).2.1.flatMap I1)::R')) (av.j6 K r1 (some ⟨p,0,none⟩) b):=λh0 b hb=>by
    have fin:∀b:Bool,b=decide (e=8\/e=9\/e=6\/e=3)->T W (ML p2 (aJ m q).2.2 mT mS gK gJ (own ob (aJ m q).2.1.length oc 1 ((aJ m q).2.1.flatMap I1)::R')) (av.j5 K r1 (some ⟨p,0,none⟩) b):=λb hb=>by
     unfold av.j5;cases b with
     |true=>
      have hb:=of_decide_eq_true hb.symm;apply ws;intros;refine T.sub (fD h0 _ ?_) ?_
      ·rw[aw (n:=(res.length:Int)+(al.length:Int)) (by omega),aw (by omega),aed,beq_iff_eq,decide_eq_true_eq,<-List.length_eq_zero_iff,<-List.length_eq_zero_iff,<-List.length_eq_zero_iff]
       constructor
       ·intro h;exact⟨hb,by omega,by omega,by omega⟩
       ·intro h;omega
      ·exact mZ
     |false=>
      have hb:=of_decide_eq_false hb.symm;apply ws;intros;refine T.sub (fD h0 _ (decide_eq_false (λh=>hb h.1)).symm) ?_;exact mZ
    unfold av.j6;cases b with
    |true=>
     have hb:=of_decide_eq_true hb.symm;exact fin true (decide_eq_true (by omega)).symm
    |false=>
     have hb:=of_decide_eq_false hb.symm;apply ws;intros;refine bB (λg1=>?_) (λg1=>?_)
     ·have g1:e=6:=by simpa using g1
      exact fin true (decide_eq_true (by omega)).symm
     ·have g1: ¬e=6:=by simpa using g1
      apply ws;intros;refine fin _ ?_;rw[aed,beq_iff_eq,decide_eq_true_eq];omega
   refine bB (λg1=>?_) (λg1=>?_)
   ·have g1:e=0:=by simpa using g1
    refine bB (λg2=>?_) (λg2=>?_)
    ·have g2:(aJ m q).1=0:=by simpa using g2
     apply ws;intros;refine KD (al:=res) (kl:=(aJ m q).2.1) (by omega) ?_;refine pE ?_;have e1:decide (res=(aJ m q).2.1)=decide ((aJ m q).1=0/\res=(aJ m q).2.1):=by rw[decide_eq_decide];exact⟨λh=>⟨g2,h⟩,λh=>h.2⟩
     rw[e1];refine T.sub (fC g1) ?_;exact mZ
    ·have g2: ¬(aJ m q).1=0:=by simpa using g2
     have e1:false=decide ((aJ m q).1=0/\res=(aJ m q).2.1):=(decide_eq_false (λh=>g2 h.1)).symm;rw[e1];refine T.sub (fC g1) ?_;exact mZ
   ·have g1: ¬e=0:=by simpa using g1
    apply ws;intros;refine bB (λg2=>?_) (λg2=>?_)
    ·have g2:e=8:=by simpa using g2
     exact hj6 g1 true (decide_eq_true (by omega)).symm
    ·have g2: ¬e=8:=by simpa using g2
     apply ws;intros;refine hj6 g1 _ ?_;rw[aed,beq_iff_eq,decide_eq_true_eq];omega
end
end Go.Up
namespace Go.Sep
open Go.Den Go.RowKit Go.Prog Go.bu
section
variable {W w:World} {L:LH}
end
def J0{D:ay}{number:Int}{h:dx}(hg:kH h):∃a:Nat,(a:Int)=low h.aH/\a<2/\r9 D number h=cQ D a (a+1:Nat) number (bs (hG h)):=by
 have hl:=sE h.aH;refine⟨(low h.aH).toNat,by omega,by omega,?_⟩;unfold r9 cQ;rw[if_pos hg];have e1:(((low h.aH).toNat:Nat):Int)=low h.aH:=by omega
 have e2:(((low h.aH).toNat+1:Nat):Int)=low h.aH+1:=by omega
 rw[e1,e2]
def BC(h:dx):dN (bs (hG h)).size=1:=by rw[bJ,mA];rfl
def CX(h:dx):part (bs (hG h)) 0=bs (hG h):=by
 apply gM;unfold part;rw[extract_toList,Nat.mul_zero,aeZ,ad9];show(hG h).length<=_;rw[mA];decide
def GW{D:ay}{i:Nat}{n:Int}{h:dx}(hn:1<=n/\n<=1152921504606846976)(hg:kH h)(hi:(i:Int)=low h.aH)(hr:D.read (i:Int)=(leaf n 0 (bs (hG h)),0)):vN D i=some h:=by
 have wS:Good n 0 (bs (hG h)):=⟨hn.1,hn.2,by decide,by decide,by rw[bJ,mA];decide⟩;unfold vN;rw[hr];dsimp only;rw[jE wS,kZ wS];dsimp only;rw[if_neg (by simp),show(bs (hG h)).data.toList=hG h from rfl,Gk hg];dsimp only;rw[if_neg (λhh=>hh hi.symm)]
def BO{D:ay}{i:Nat}(hr:iH (D.read (i:Int)).1.data.toList=none):vN D i=none:=by
 unfold vN;rw[hr]
def F0{n:Int}(h:0<=n/\n<=1152921504606846977):low n=n.tmod 2:=by
 obtain⟨m,rfl⟩:=ad1 h.1;have e:m%2^64=m:=aez (by omega);rw[Jz,BitVec.ofInt_natCast,BitVec.toNat_ofNat,e,aey (by omega)];omega
def uC{D:ay}{i:Nat}(h:i<D.safe.length):(D.read (i:Int)).2=0:=by
 unfold ay.read;rw[if_pos ⟨by omega,by omega⟩]
section
variable {W w:World} {L:LH}
end
def sj(a:dx×dx)(h:dx):dx×dx:=if low h.aH=0 then(h,a.2) else(a.1,h)
def yn{D D':ay}{i:Nat}(h1:i<D.safe.length)(h2:i<D'.safe.length)(h:(D'.read (i:Int)).1=(D.read (i:Int)).1):vN D' i=vN D i:=by
 have e:D'.read (i:Int)=D.read (i:Int):=by
  have a:=uC h1;have b:=uC h2;exact Prod.ext h (by rw[a,b])
 unfold vN;rw[e]
def u4(h:dx):∀v∈aU h,v.oneCell'=true:=by simp[aU,Value.oneCell']
section
variable {W w:World} {L:LH} {k:Nat}
end
end Go.Sep
namespace Go.Up
open Go.Sep Go.Den Go.RowKit Go.Prog Go.Md Go.bu
def Bb{n:Nat}{D D':ay}{J:PJ}{q0:Int}{kY:List (List UInt8)}{g g':Nat}(h:JG n D J q0 kY g)(ft:D'.Ok)(vF:D'.later=[])(hlen:D'.safe.length=n)
 (hr:∀j:Int,J.lo<=j->j<J.hi->(D'.read j).1=(D.read j).1)(he:∀j:Nat,j<n->Sep.Ends g' (D'.read (j:Int)).1):JG n D' J q0 kY g':=by
 have hl:D'.safe.length=D.safe.length:=by rw[hlen,h.len]
 have j2:=h.tg.J8;have j3:=h.tg.PF;refine⟨ft,vF,hlen,⟨h.tg.lo,j2,j3,by rw[hl];exact h.tg.hi,h.tg.seq⟩,q6 hl _ h.chain (λj a b=>hr j (by omega) (by omega)),h.seq,h.q0,λj a b m d hv=>?_,?_,he⟩
 ·rw[hr j a b] at hv;exact h.low j a b m d hv
 ·rw[yK hl (λj a b=>hr j (by omega) (by omega))];exact h.stop
def HY{n:Nat}{D:ay}{J:PJ}{q0:Int}{kY:List (List UInt8)}{g:Nat}(h:JG n D J q0 kY g):JG n D {J with at':=J.lo} J.seq [] g:=by
 have hq0:=h.q0;have Cl:=h.seq;have j2:=h.tg.J8;have j3:=h.tg.PF;refine⟨h.ok,h.F4,h.len,⟨h.tg.lo,afq _,by show J.lo<=J.hi;omega,h.tg.hi,h.tg.seq⟩,rfl,by show J.seq=J.seq+_;simp,h.tg.seq.1,h.low,?_,h.ends⟩;show iI D J.lo J.hi (J.seq+1)=none;cases Ee:kY with
 |nil=>
  have Ek:=h.chain;rw[Ee] at Ek;unfold Sep.fZ at Ek;rw[Ek];exact h.stop
 |cons s r=>
  have Ek:=h.chain;rw[Ee] at Ek;obtain⟨a2,h1,h2⟩:=Ek;obtain⟨m,d,x1,x2,hv,K5⟩:=C3 (by omega) h1;obtain⟨i1,i2,i3,i4,i5,i6⟩:=mh h1;have N1:=nO (12+s.length);have zt:=h.tg.seq;have yU:=h.tg.hi;have hlen:=h.ok.lh;have Uo:=qL (seq:=q0+1) (s:=bs s) ⟨by omega,by
   have:(kY.length:Int)>=1:=by rw[Ee,ad8];omega
   omega⟩ (by rw[bJ];omega)
  refine xN (λm2 d2 QW=>?_);rw[hv] at QW;simp only[aea.injEq,Prod.mk.injEq] at QW;obtain⟨-,-,rfl⟩:=QW;have NY:Sep.Good m ((0:Nat):Int) (Sep.part (bs (bE (q0+1) (bs s))) 0):=⟨x1,x2,by omega,by omega,jC _ 0⟩;have r0:=K5 0 N1;rw[show J.lo+((0:Nat):Int)=J.lo from by omega] at r0;rw[r0,jE NY,kZ NY] at hv;simp only[aea.injEq,Prod.mk.injEq] at hv;obtain⟨-,-,hd⟩:=hv;rw[<-hd,Uo.1];rw[Ee,ad8] at Cl;omega
def Zo(L:ay×Int)(D':ay):Prop:=(∃mask torn cut,D'=L.1.eP mask torn cut)\/(L.2=0/\D'=L.1)
def Zy{n a t m g:Nat}{D D':ay}{s:BA}(ft:D.Ok)(vF:D.later=[])(hlen:D.safe.length=n)(nt:∀j:Nat,j<n->Sep.Ends g (D.read (j:Int)).1)(bD:n<=4096)(hm:g<m)(JQ:m<256)(hl:a+dN s.size<=t)(Xk:t<=n)
 (hA:Zo (cQ D (a:Int) (t:Int) (m:Int) s) D'):
 D'.Ok/\D'.later=[]/\D'.safe.length=n/\(∀j:Nat,j<n->Sep.Ends m (D'.read (j:Int)).1)/\(∀j:Nat,j<n->(j<a\/a+dN s.size<=j)->(D'.read (j:Int)).1=(D.read (j:Int)).1)/\
  ((cQ D (a:Int) (t:Int) (m:Int) s).2=0->∀q:Nat,q<dN s.size->(D'.read ((a+q:Nat):Int)).1=leaf m q (Sep.part s q))/\
  (∀q:Nat,q<dN s.size->(D'.read ((a+q:Nat):Int)).1=(D.read ((a+q:Nat):Int)).1\/(D'.read ((a+q:Nat):Int)).1=leaf m q (Sep.part s q)\/iH (D'.read ((a+q:Nat):Int)).1.data.toList=none):=by
 have XV:=nO s.size;have key:∀mask torn cut:Int,∀X:ay,X=(cQ D (a:Int) (t:Int) (m:Int) s).1.eP mask torn cut->X.Ok/\X.later=[]/\X.safe.length=n/\(∀j:Nat,j<n->Sep.Ends m (X.read (j:Int)).1)/\(∀j:Nat,j<n->(j<a\/a+dN s.size<=j)->(X.read (j:Int)).1=(D.read (j:Int)).1)/\
  ((cQ D (a:Int) (t:Int) (m:Int) s).2=0->∀q:Nat,q<dN s.size->(X.read ((a+q:Nat):Int)).1=leaf m q (Sep.part s q))/\
  (∀q:Nat,q<dN s.size->(X.read ((a+q:Nat):Int)).1=(D.read ((a+q:Nat):Int)).1\/(X.read ((a+q:Nat):Int)).1=leaf m q (Sep.part s q)\/iH (X.read ((a+q:Nat):Int)).1.data.toList=none):=λmask torn cut X hX=>by
  obtain⟨c1,c2,c3,c4⟩:=FY (n:=n) (a:=a) (t:=t) (number:=(m:Int)) (mask:=mask) (torn:=torn) (cut:=cut) (s:=s) ft vF hlen bD (by omega) hl Xk;rw[<-hX] at c1 c2 c3 c4;have wS:∀i:Nat,i<4096->Sep.Good (m:Int) (i:Int) (Sep.part s i):=λi hi=>⟨by omega,by omega,by omega,by omega,jC _ i⟩;have XF:X.later=[]:=by rw[hX,lE]
  refine⟨c3,XF,c4,λj hj=>?_,λj hj tA=>?_,c2,λq hq=>?_⟩
  ·rcases c1 j hj with hh|⟨i,h1,h2,h3⟩
   ·rw[hh];exact(nt j hj).mono (by omega)
   ·exact(xQ hm JQ (wS i (by omega)) (nt j hj) h3).1
  ·rcases c1 j hj with hh|⟨i,h1,h2,h3⟩
   ·exact hh
   ·omega
  ·rcases c1 (a+q) (by omega) with hh|⟨i,h1,h2,h3⟩
   ·exact .inl hh
   ·have:i=q:=by omega
    subst this;exact(xQ hm JQ (wS i (by omega)) (nt (a+i) (by omega)) h3).2
 rcases hA with⟨mask,torn,cut,hX⟩|⟨h0,hX⟩
 ·exact key mask torn cut D' hX
 ·have hlz:=Jy h0;obtain⟨k1,k2,k3,k4,k5,k6,k7⟩:=key 0 (-1) 0 _ rfl;have Pr:∀j:Int,((cQ D (a:Int) (t:Int) (m:Int) s).1.eP 0 (-1) 0).read j=D'.read j:=λj=>by rw[hX];exact Bz hlz 0 (-1) 0 j
  refine⟨by rw[hX];exact FX ft (by rw[vF,ael];omega),by rw[hX];exact hlz,by rw[hX,<-rY _ 0 (-1) 0];exact k3,λj hj=>by rw[<-Pr];exact k4 j hj,λj hj ho=>by rw[<-Pr];exact k5 j hj ho,λh q hq=>by rw[<-Pr];exact k6 h q hq,λq hq=>by rw[<-Pr];exact k7 q hq⟩
def CG(n:Nat)(D:ay)(hd:dx)(mb:Model):Prop:=
 (hd=Ad/\mb=oy/\vN D 0=none/\vN D 1=none)\/
 (kH hd/\(∃(a:Nat)(k:Int),(a:Int)=low hd.aH/\1<=k/\k<=1152921504606846976/\(D.read (a:Int)).1=leaf k 0 (bs (hG hd))/\(∀p,vN D (1-a)=some p->p.aH<hd.aH))/\
  hd.size=((bO (bo mb)).length:Int)/\dN (bO (bo mb)).length<=bQ n/\∀q:Nat,q<dN (bO (bo mb)).length->(D.read ((cM n hd.aH+q:Nat):Int)).1=leaf hd.number q (Sep.part (bs (bO (bo mb))) q))
def CG.base{n:Nat}{D:ay}{hd:dx}{mb:Model}(h:CG n D hd mb)(hlen:D.safe.length=n)(jz:12<=n)(bD:n<=4096):VM D n hd mb:=by
 rcases h with⟨h1,h2,h3,h4⟩|⟨hg,⟨a,k,ha,Pw,ru,hr,hp⟩,hs,hc,hq⟩
 ·left
  rw[h3,h4];exact⟨rfl,h1,h2⟩
 ·right
  have Lb:=sE hd.aH;have eA:vN D a=some hd:=GW (n:=k) ⟨Pw,ru⟩ hg ha (by
   have:=uC (D:=D) (i:=a) (by omega)
   rw[<-hr,<-this])
  constructor
  ·by_cases ha0:a=0
   ·subst ha0;rw[eA];cases hb:vN D 1 with
    |none=>rfl
    |some p=>
     have:=hp p hb;show(if hd.aH<p.aH then some p else some hd)=some hd;rw[if_neg (by omega)]
   ·have:a=1:=by omega
    subst this;rw[eA];cases hb:vN D 0 with
    |none=>rfl
    |some p=>
     have:=hp p hb;show(if p.aH<hd.aH then some hd else some p)=some hd;rw[if_pos this]
  ·have:=Rd (n:=n) (D:=D) (which:=hd.aH) (number:=hd.number) (s:=bs (bO (bo mb))) hlen jz bD ⟨hg.2.2.1,hg.2.2.2.1⟩ (by rw[bJ];exact hc) (λq Xt=>by
    rw[show(((cM n hd.aH:Nat):Int)+(q:Int))=((cM n hd.aH+q:Nat):Int) from by omega]
    exact hq q Xt)
   rw[bJ,<-hs] at this;exact this
def CG.jT{n:Nat}{D D':ay}{hd:dx}{mb:Model}(h:CG n D hd mb)(jz:12<=n)(hlen:D.safe.length=n)(XE:D'.safe.length=n)
 (h01:∀j:Nat,j<2->(D'.read (j:Int)).1=(D.read (j:Int)).1)(Sz:∀j:Nat,cM n hd.aH<=j->j<cM n hd.aH+bQ n->(D'.read (j:Int)).1=(D.read (j:Int)).1):CG n D' hd mb:=by
 have ye:∀i:Nat,i<2->vN D' i=vN D i:=λi hi=>yn (by omega) (by omega) (h01 i hi);rcases h with⟨h1,h2,h3,h4⟩|⟨hg,⟨a,k,ha,Pw,ru,hr,hp⟩,hs,hc,hq⟩
 ·exact .inl ⟨h1,h2,by rw[ye 0 (by decide)];exact h3,by rw[ye 1 (by decide)];exact h4⟩
 ·have Lb:=sE hd.aH;refine .inr ⟨hg,⟨a,k,ha,Pw,ru,by rw[h01 a (by omega)];exact hr,λp NS=>hp p (by rw[<-ye (1-a) (by omega)];exact NS)⟩,hs,hc,λq Xt=>?_⟩;rw[Sz _ (by omega) (by omega)];exact hq q Xt
structure VG(n:Nat)(D:ay)(J:PJ)(hd:dx)(mb:Model)(qs:List ic)(g:Nat):Prop where
 jg:JG n D J hd.seq (qs.map ch) g
 cg:CG n D hd mb
 lo:J.lo=((2+2* bQ n:Nat):Int)
 hi:J.hi=(n:Int)
 dH:J.dH=false
 uY:Good (bo mb)
 ground:Md.Ground mb
 kY:∀q∈qs,DG q
 Fs:J.seq<=g
 aH:0<=hd.aH/\hd.aH<=g
def VG.mono{n:Nat}{D:ay}{J:PJ}{hd:dx}{mb:Model}{qs:List ic}{g g':Nat}(h:VG n D J hd mb qs g)(hg:g<=g'):VG n D J hd mb qs g':=
 ⟨h.jg.mono hg,h.cg,h.lo,h.hi,h.dH,h.uY,h.ground,h.kY,by have:=h.Fs;omega,by have:=h.aH;omega⟩
def EE{n:Nat}(jz:12<=n)(bD:n<=4096):VG n (ay.new n) ⟨((2+2* bQ n:Nat):Int),n,((2+2* bQ n:Nat):Int),0,false⟩ Ad oy [] 0:=by
 have hb:2+2* bQ n<n:=by unfold bQ;omega
 have hz:∀i:Nat,i<n->iH ((ay.new n).read (i:Int)).1.data.toList=none:=λi hi=>by
  rw[wH bD hi];exact tS
 exact⟨VI bD (by omega) (by omega) (by omega) 0 (by omega),.inl ⟨rfl,rfl,BO (hz 0 (by omega)),BO (hz 1 (by omega))⟩,rfl,rfl,rfl,wV,qm,λq hq=>(by cases hq),afq _,⟨afq _,afq _⟩⟩
def VG.add{n:Nat}{D:ay}{J:PJ}{hd:dx}{mb:Model}{qs:List ic}{g:Nat}{q:ic}(h:VG n D J hd mb qs g)(jz:12<=n)(bD:n<=4096)(hq:DG q)(hr:room J (bs (ch q)).size)(hg:g+1<256):
 pw D J (dv D n+1) (bs (ch q))=Sep.yo J (bs (ch q)) (cQ D J.at' J.hi (dv D n+1) (bs (bE (J.seq+1) (bs (ch q)))))/\(cQ D J.at' J.hi (dv D n+1) (bs (bE (J.seq+1) (bs (ch q))))).1.Ok/\
 (((cQ D J.at' J.hi (dv D n+1) (bs (bE (J.seq+1) (bs (ch q))))).2=0/\VG n (cQ D J.at' J.hi (dv D n+1) (bs (bE (J.seq+1) (bs (ch q))))).1 (J.more (bs (ch q))) hd mb (qs++[q]) (g+1))\/
  ((cQ D J.at' J.hi (dv D n+1) (bs (bE (J.seq+1) (bs (ch q))))).2=8/\∀mask torn cut,
    VG n ((cQ D J.at' J.hi (dv D n+1) (bs (bE (J.seq+1) (bs (ch q))))).1.eP mask torn cut) J hd mb qs (g+1)\/
    VG n ((cQ D J.at' J.hi (dv D n+1) (bs (bE (J.seq+1) (bs (ch q))))).1.eP mask torn cut) (J.more (bs (ch q))) hd mb (qs++[q]) (g+1))):=by
 obtain⟨x,hx,Xf,SI⟩:=h.jg.uf (by omega);have hm:dv D n+1=((x+1:Nat):Int):=by omega
 rw[hm];have Cl:=h.Fs;have ZE:=h.aH;have yS:=h.lo;have yU:=h.hi;obtain⟨a1,a2,a3⟩:=SI.add (m:=x+1) (s:=bs (ch q)) h.dH bD (by omega) (by omega) hr (by omega);have j2:=h.jg.tg.J8;obtain⟨a,ha⟩:=ad1 (show 0<=J.at' by omega);have wT:=oA (J.seq+1) (bs (ch q));have r3:=hr.2.2;rw[adR] at r3;have XZ:∀D',Zo (cQ D J.at' J.hi ((x+1:Nat):Int) (bs (bE (J.seq+1) (bs (ch q))))) D'->CG n D' hd mb:=λD' hA=>by
  rw[ha,yU] at hA;obtain⟨k1,k2,k3,k4,k5,-,-⟩:=Zy (n:=n) (a:=a) (t:=n) (m:=x+1) (g:=x) h.jg.ok h.jg.F4 h.jg.len SI.ends bD (by omega) (by omega) (by rw[wT];omega) (adW _) hA;have Ps:=(mr jz hd.aH);have Sz:cM n hd.aH+bQ n<=2+2* bQ n:=by unfold cM;split<;>omega
  exact h.cg.jT jz h.jg.len k3 (λj hj=>k5 j (by omega) (.inl (by omega))) (λj ZM Gi=>k5 j (by omega) (.inl (by omega)))
 have SA:∀r∈qs++[q],DG r:=λr hr=>by
  rcases aeu.1 hr with hr|hr
  ·exact h.kY r hr
  ·cases(show r=q by simpa using hr);exact hq
 have Gg:(qs++[q]).map ch=qs.map ch++[(bs (ch q)).data.toList]:=by rw[aen];rfl
 refine⟨a1,a2,?_⟩;rcases a3 with⟨z,hj⟩|z
 ·left
  refine⟨z,⟨?_,XZ _ (.inr ⟨z,rfl⟩),yS,yU,h.dH,h.uY,h.ground,SA,by show J.seq+1<=((g+1:Nat):Int);omega,by omega⟩⟩;rw[Gg];exact hj.mono (by omega)
 ·right
  refine⟨z,λmask torn cut=>?_⟩;obtain⟨f1,f2,f3,f4⟩:=fly SI bD (show x<x+1 by omega) (by omega) hr (by omega) mask torn cut;have hc:=XZ _ (.inl ⟨mask,torn,cut,rfl⟩);by_cases hw:∀i:Nat,i<dN (12+(bs (ch q)).size)->(((cQ D J.at' J.hi ((x+1:Nat):Int) (bs (bE (J.seq+1) (bs (ch q))))).1.eP mask torn cut).read (J.at'+i)).1=leaf ((x+1:Nat):Int) i (Sep.part (bs (bE (J.seq+1) (bs (ch q)))) i)
  ·right
   refine⟨?_,hc,yS,yU,h.dH,h.uY,h.ground,SA,by show J.seq+1<=((g+1:Nat):Int);omega,by omega⟩;rw[Gg];exact(f3 hw).mono (by omega)
  ·left
   exact⟨(f4 hw).mono (by omega),hc,yS,yU,h.dH,h.uY,h.ground,h.kY,by omega,by omega⟩
def FZ{t:Int}(h:0<=t/\t<1152921504606846976):low (t+1)=1-low t:=by
 rw[F0 (by omega),F0 (by omega),aey (by omega),aey (by omega)];omega
def VG.put{n:Nat}{D:ay}{J:PJ}{hd:dx}{mb m:Model}{qs:List ic}{g:Nat}(h:VG n D J hd mb qs g)(jz:12<=n)(bD:n<=4096)(hg:g+2<256)(Gj:dN (bO (bo m)).length<=bQ n):
 ((put D n (hd.aH+1) (dv D n+1) (bs (bO (bo m)))).2=0\/(put D n (hd.aH+1) (dv D n+1) (bs (bO (bo m)))).2=8)/\
 ∀D',Zo (put D n (hd.aH+1) (dv D n+1) (bs (bO (bo m)))) D'->VG n D' J hd mb qs (g+1)/\
  ((put D n (hd.aH+1) (dv D n+1) (bs (bO (bo m)))).2=0->∀q:Nat,q<dN (bO (bo m)).length->(D'.read ((cM n (hd.aH+1)+q:Nat):Int)).1=leaf (dv D n+1) q (Sep.part (bs (bO (bo m))) q)):=by
 obtain⟨x,hx,Xf,SI⟩:=h.jg.uf (by omega);have hm:dv D n+1=((x+1:Nat):Int):=by omega
 rw[hm,xK];have Dg:=mr jz (hd.aH+1);have ZE:=h.aH;have yS:=h.lo;have yU:=h.hi;have Cl:=h.Fs;refine⟨zQ (n:=n) (a:=cM n (hd.aH+1)) (t:=cM n (hd.aH+1)+bQ n) (number:=((x+1:Nat):Int)) h.jg.len bD (by omega) (by rw[bJ];omega) (by omega),λD' hA=>?_⟩;obtain⟨k1,k2,k3,k4,k5,k6,k7⟩:=Zy (n:=n) (a:=cM n (hd.aH+1)) (t:=cM n (hd.aH+1)+bQ n) (m:=x+1) (g:=x) h.jg.ok h.jg.F4 h.jg.len SI.ends bD (by omega) (by omega) (by rw[bJ];omega) (by omega) hA;rw[bJ] at k5 k6;have hap:=HB (n:=n) hd.aH (hd.aH+1) (by rw[FZ (by omega)];have:=sE hd.aH;omega);have Sz:cM n (hd.aH+1)+bQ n<=2+2* bQ n:=by unfold cM;split<;>omega
 refine⟨⟨Bb h.jg k1 k2 k3 (λj ZM Gi=>?_) (λj hj=>(k4 j hj).mono (by omega)),h.cg.jT jz h.jg.len k3 (λj hj=>k5 j (by omega) (.inl (by omega))) (λj ZM Gi=>k5 j (by have:=(mr jz hd.aH).2.1;omega) (by omega)),yS,yU,h.dH,h.uY,h.ground,h.kY,by omega,by omega⟩,k6⟩;obtain⟨k,rfl⟩:=ad1 (show 0<=j by omega);exact k5 k (by omega) (.inr (by omega))
def VG.Y9{n:Nat}{D:ay}{J:PJ}{hd:dx}{mb m:Model}{qs:List ic}{g:Nat}{number:Int}(h:VG n D J hd mb qs g)(jz:12<=n)(bD:n<=4096)(x:Nat)(hx:dv D n<=x)(Xf:x<=g)(hg:g+1<256)(mj:1<=number/\number<=(g:Int))
 (Gj:dN (bO (bo m)).length<=bQ n)(hlen:(bO (bo m)).length<=425984)(il:Good (bo m))(sU:Md.Ground m)
 (Xo:∀q:Nat,q<dN (bO (bo m)).length->(D.read ((cM n (hd.aH+1)+q:Nat):Int)).1=leaf number q (Sep.part (bs (bO (bo m))) q)):
 ((r9 D ((x+1:Nat):Int) ⟨hd.aH+1,number,((bO (bo m)).length:Int),J.seq⟩).2=0\/(r9 D ((x+1:Nat):Int) ⟨hd.aH+1,number,((bO (bo m)).length:Int),J.seq⟩).2=8)/\
 ∀D',Zo (r9 D ((x+1:Nat):Int) ⟨hd.aH+1,number,((bO (bo m)).length:Int),J.seq⟩) D'->
  (VG n D' {J with at':=J.lo} ⟨hd.aH+1,number,((bO (bo m)).length:Int),J.seq⟩ m [] (g+1)\/
   ((r9 D ((x+1:Nat):Int) ⟨hd.aH+1,number,((bO (bo m)).length:Int),J.seq⟩).2=8/\VG n D' J hd mb qs (g+1))):=by
 have nt:∀j:Nat,j<n->Sep.Ends x (D.read (j:Int)).1:=by
  obtain⟨y,hy,hyg,hjy⟩:=h.jg.uf (by omega);intro j hj;exact(hjy.ends j hj).mono (by omega)
 have ZE:=h.aH;have Cl:=h.Fs;have yS:=h.lo;have yU:=h.hi;have Q3:=h.jg.tg.seq;obtain⟨hH,Dp⟩:∃hH:dx,hH=⟨hd.aH+1,number,((bO (bo m)).length:Int),J.seq⟩:=⟨_,rfl⟩;rw[<-Dp];have ZU:hH.aH=hd.aH+1:=by rw[Dp]
 have hHs:hH.seq=J.seq:=by rw[Dp]
 have hHn:hH.number=number:=by rw[Dp]
 have hHz:hH.size=((bO (bo m)).length:Int):=by rw[Dp]
 have ZV:kH hH:=by rw[Dp];unfold kH;dsimp only;omega
 obtain⟨b,hb,ue,e⟩:=J0 (D:=D) (number:=((x+1:Nat):Int)) ZV;have H9:=BC hH;rw[e];refine⟨zQ (n:=n) (a:=b) (t:=b+1) (number:=((x+1:Nat):Int)) h.jg.len bD (by omega) (by rw[H9];omega) (by omega),λD' hA=>?_⟩;obtain⟨k1,k2,k3,k4,k5,k6,k7⟩:=Zy (n:=n) (a:=b) (t:=b+1) (m:=x+1) (g:=x) h.jg.ok h.jg.F4 h.jg.len nt bD (by omega) (by omega) (by rw[H9];omega) (by omega) hA;rw[H9] at k5 k6 k7;have X2:(b:Int)=1-low hd.aH:=by rw[hb,ZU];exact FZ (by omega)
 have Lb:=sE hd.aH;have Dg:=mr jz (hd.aH+1);have adB:=mr jz hd.aH;have Ps:2<=2+2* bQ n:=by omega
 have Um:=k7 0 (by decide);rw[aeL,CX] at Um;have jg1:∀g',g'>=x+1->JG n D' J hd.seq (qs.map ch) g':=λg' Q4=>Bb h.jg k1 k2 k3 (λj ZM Gi=>by
  obtain⟨k,rfl⟩:=ad1 (show 0<=j by omega)
  exact k5 k (by omega) (.inr (by omega))) (λj hj=>(k4 j hj).mono Q4)
 have vE:∀j:Nat,j<n->j≠b->(D'.read (j:Int)).1=(D.read (j:Int)).1:=λj hj gS=>k5 j hj (by omega);have whole:(D'.read (b:Int)).1=leaf ((x+1:Nat):Int) 0 (bs (hG hH))->VG n D' {J with at':=J.lo} hH m [] (g+1):=λhw=>by
  have jr:=HY (jg1 (g+1) (by omega));refine⟨by rw[hHs];exact jr,.inr ⟨ZV,⟨b,((x+1:Nat):Int),hb,by omega,by omega,hw,λp hp=>?_⟩,hHz,Gj,λq hq=>?_⟩,yS,yU,h.dH,il,sU,λq hq=>(by cases hq),by show J.seq<=((g+1:Nat):Int);omega,by rw[ZU];omega⟩
  ·rw[ZU];have Ga:vN D (1-b)=some p:=by rw[<-hp];exact(yn (by have:=h.jg.len;omega) (by omega) (vE (1-b) (by omega) (by omega))).symm
   rcases h.cg with⟨z1,z2,z3,z4⟩|⟨XP,⟨a,k,ha,Pw,ru,hra,hpa⟩,-⟩
   ·by_cases UN:b=0
    ·subst UN;rw[z4] at Ga;cases Ga
    ·have:b=1:=by omega
     subst this;rw[z3] at Ga;cases Ga
   ·have PC:a=1-b:=by omega
    have eA:vN D a=some hd:=GW (n:=k) ⟨Pw,ru⟩ XP ha (by
     have:=uC (D:=D) (i:=a) (by have:=h.jg.len;omega)
     rw[<-hra,<-this])
    rw[<-PC,eA] at Ga;cases Ga
    omega
  ·rw[ZU,hHn,vE _ (by omega) (by omega)];exact Xo q hq
 have WY:vN D' b=none\/(D'.read (b:Int)).1=(D.read (b:Int)).1->VG n D' J hd mb qs (g+1):=λhn=>by
  refine⟨jg1 (g+1) (by omega),?_,yS,yU,h.dH,h.uY,h.ground,h.kY,by omega,by omega⟩;rcases hn with hn|hn
  ·rcases h.cg with⟨z1,z2,z3,z4⟩|⟨XP,⟨a,k,ha,Pw,ru,hra,hpa⟩,hs,hc,hq⟩
   ·have hc1:vN D' (1-b)=none:=by
     rw[yn (by have:=h.jg.len;omega) (by omega) (vE (1-b) (by omega) (by omega))];by_cases UN:b=0
     ·subst UN;exact z4
     ·have:b=1:=by omega
      subst this;exact z3
    refine .inl ⟨z1,z2,?_,?_⟩
    ·by_cases UN:b=0
     ·subst UN;exact hn
     ·have:b=1:=by omega
      subst this;exact hc1
    ·by_cases UN:b=0
     ·subst UN;exact hc1
     ·have:b=1:=by omega
      subst this;exact hn
   ·have PC:1-a=b:=by omega
    refine .inr ⟨XP,⟨a,k,ha,Pw,ru,by rw[vE a (by omega) (by omega)];exact hra,λp hp=>by rw[PC,hn] at hp;cases hp⟩,hs,hc,λq Xt=>?_⟩;rw[vE _ (by omega) (by omega)];exact hq q Xt
  ·exact h.cg.jT jz h.jg.len k3 (λj hj=>by
    by_cases hjb:j=b
    ·subst hjb;exact hn
    ·exact vE j (by omega) hjb) (λj ZM Gi=>vE j (by omega) (by omega))
 by_cases hw:(D'.read (b:Int)).1=leaf ((x+1:Nat):Int) 0 (bs (hG hH))
 ·exact .inl (whole hw)
 ·right
  have hc8:(cQ D (b:Int) ((b+1:Nat):Int) ((x+1:Nat):Int) (bs (hG hH))).2=8:=by
   rcases zQ (n:=n) (a:=b) (t:=b+1) (number:=((x+1:Nat):Int)) (s:=bs (hG hH)) h.jg.len bD (by omega) (by rw[H9];omega) (by omega) with h0|h8
   ·have:=k6 h0 0 (by decide);rw[aeL,CX] at this;exact absurd this hw
   ·exact h8
  refine⟨hc8,?_⟩;rcases Um with hh|hh|hh
  ·exact WY (.inr hh)
  ·exact absurd hh hw
  ·exact WY (.inl (BO hh))
def vO(n:Nat)(D:ay)(m:Model)(g:Nat):Prop:=∃J hd mb qs,VG n D J hd mb qs g/\uU mb qs=m
def vO.mono{n:Nat}{D:ay}{m:Model}{g g':Nat}(h:vO n D m g)(hg:g<=g'):vO n D m g':=by
 obtain⟨J,hd,mb,qs,h1,h2⟩:=h;exact⟨J,hd,mb,qs,h1.mono hg,h2⟩
structure VW(n:Nat)(S:VS)(m:Model)(g:Nat):Prop where
 dH:S.dH=false
 is:∃hd mb qs,VG n S.D S.J hd mb qs g/\uU mb qs=m/\S.aH=hd.aH
structure VX(n:Nat)(S:VS)(m mf:Model)(g:Nat):Prop where
 dH:S.dH=true
 ok:Mp S
 len:S.D.safe.length=n
 seq:S.J.seq<=g
 eP:∀mask torn cut,vO n (S.D.eP mask torn cut) m g\/vO n (S.D.eP mask torn cut) mf g
def VW.mono{n:Nat}{S:VS}{m:Model}{g g':Nat}(h:VW n S m g)(hg:g<=g'):VW n S m g':=by
 obtain⟨h1,hd,mb,qs,h2,h3,h4⟩:=h;exact⟨h1,hd,mb,qs,h2.mono hg,h3,h4⟩
def VX.mono{n:Nat}{S:VS}{m mf:Model}{g g':Nat}(h:VX n S m mf g)(hg:g<=g'):VX n S m mf g':=
 ⟨h.dH,h.ok,h.len,by have:=h.seq;omega,λa b c=>(h.eP a b c).imp (λx=>x.mono hg) (λx=>x.mono hg)⟩
def VW.ok{n:Nat}{S:VS}{m:Model}{g:Nat}(h:VW n S m g)(hg:g<256):Mp S:=by
 obtain⟨h1,hd,mb,qs,h2,h3,h4⟩:=h;have:=h2.aH;exact⟨h2.jg.ok,by rw[h2.jg.F4];decide,h2.jg.tg,by omega⟩
def VG.same{n:Nat}{D D':ay}{J:PJ}{hd:dx}{mb:Model}{qs:List ic}{g:Nat}(h:VG n D J hd mb qs g)(jz:12<=n)(ft:D'.Ok)(vF:D'.later=[])(hl:D'.safe.length=n)(hr:∀j:Int,D'.read j=D.read j):VG n D' J hd mb qs g:=
 ⟨h.jg.congr ft vF hl (λj _ _=>by rw[hr]),h.cg.jT jz h.jg.len hl (λj _=>by rw[hr]) (λj _ _=>by rw[hr]),h.lo,h.hi,h.dH,h.uY,h.ground,h.kY,h.Fs,h.aH⟩
def VW.pB{n:Nat}{S:VS}{m:Model}{g:Nat}(h:VW n S m g)(jz:12<=n)(k:Int):VW n {S with D:=S.D.pB k} m g:=by
 obtain⟨h1,hd,mb,qs,h2,h3,h4⟩:=h;have ho:=h2.jg.ok;exact⟨h1,hd,mb,qs,h2.same jz ⟨ho.safe,ho.later,ho.lh,ho.less⟩ h2.jg.F4 h2.jg.len (λj=>rfl),h3,h4⟩
def VX.pB{n:Nat}{S:VS}{m mf:Model}{g:Nat}(h:VX n S m mf g)(k:Int):VX n {S with D:=S.D.pB k} m mf g:=by
 have ho:=h.ok;refine⟨h.dH,⟨⟨ho.ok.safe,ho.ok.later,ho.ok.lh,ho.ok.less⟩,ho.lh,⟨ho.tg.lo,ho.tg.J8,ho.tg.PF,ho.tg.hi,ho.tg.seq⟩,ho.aH⟩,h.len,h.seq,λa b c=>?_⟩;have e:(S.D.pB k).eP a b c=S.D.eP a b c:=by rw[lE,lE];rfl
 show vO n ((S.D.pB k).eP a b c) m g\/vO n ((S.D.pB k).eP a b c) mf g;rw[e];exact h.eP a b c
def Ah{n:Nat}{S:VS}{m:Model}{g:Nat}(h:VW n S m g)(jz:12<=n)(bD:n<=4096)(hg:g+2<256)(il:Good (bo m))(sU:Md.Ground m):
 ((gO n m S).2=0/\VW n (gO n m S).1 m (g+2)/\(gO n m S).1.aH=S.aH+1/\(gO n m S).1.J.seq=S.J.seq/\(gO n m S).1.J.at'=S.J.lo/\(gO n m S).1.J.lo=S.J.lo/\(gO n m S).1.J.hi=S.J.hi)\/
 ((gO n m S).2=3/\(gO n m S).1=S)\/
 ((gO n m S).2=8/\VX n (gO n m S).1 m m (g+2)/\(gO n m S).1.aH=S.aH/\(gO n m S).1.J.seq=S.J.seq):=by
 have hgl:=vn il;have rT:=il.lh;have rS:=il.many;have hlen:(bO (bo m)).length<=425984:=by omega
 obtain⟨h1,hd,mb,qs,h2,h3,h4⟩:=h;have ZE:=h2.aH;have yS:=h2.lo;have yU:=h2.hi;have Cl:=h2.Fs;have Ps:2+2* bQ n<n:=by unfold bQ;omega
 unfold gO;rw[if_neg (by rw[h1];decide),h4,h2.jg.len];by_cases Gj:dN (bO (bo m)).length<=bQ n
 rotate_left
 ·rw[if_pos Gj]
  right;left
  exact⟨rfl,rfl⟩
 rw[if_neg (λhh=>hh Gj)];obtain⟨p1,p2⟩:=h2.put (m:=m) jz bD hg Gj;obtain⟨x,hx,Xf,SI⟩:=h2.jg.uf (by omega);have Dg:=mr jz (hd.aH+1);have lh:∀{a t:Nat} {k:Int} {s:BA} {D:ay},D.Ok->D.later=[]->dN s.size<900000->(cQ D a t k s).1.later.length<1000000:=λ{a t k s D} ho hl hc=>by
  have:=HW (at':=(a:Int)) (to:=(t:Int)) (number:=k) (s:=s) ho (by rw[hl,ael];omega);rw[hl,ael] at this;omega
 have JT:dN (bs (bO (bo m))).size<900000:=by rw[bJ];have:=Dg.2.1;omega
 by_cases z1:(put S.D n (hd.aH+1) (dv S.D n+1) (bs (bO (bo m)))).2=0
 rotate_left
 ·have z8:(put S.D n (hd.aH+1) (dv S.D n+1) (bs (bO (bo m)))).2=8:=by rcases p1 with p1|p1;exact absurd p1 z1;exact p1
  rw[if_pos z1]
  right;right
  have c0:=p2 _ (.inl ⟨0,0,0,rfl⟩);have Mc:(put S.D n (hd.aH+1) (dv S.D n+1) (bs (bO (bo m)))).1.safe.length=n:=by rw[<-rY _ 0 0 0];exact c0.1.jg.len
  have Uv:(put S.D n (hd.aH+1) (dv S.D n+1) (bs (bO (bo m)))).1.Ok:=by rw[xK];exact FX h2.jg.ok (by rw[h2.jg.F4,ael];omega)
  have sS:=h2.jg.tg;refine⟨z8,⟨rfl,⟨Uv,by rw[xK];exact lh h2.jg.ok h2.jg.F4 JT,⟨sS.lo,sS.J8,sS.PF,by rw[Mc];have:=sS.hi;rw[h2.jg.len] at this;exact this,sS.seq⟩,by show 0<=hd.aH/\hd.aH<_;omega⟩,Mc,by show S.J.seq<=_;omega,λa b c=>?_⟩,rfl,rfl⟩
  left
  obtain⟨c1,c2⟩:=p2 _ (.inl ⟨a,b,c,rfl⟩);exact⟨S.J,hd,mb,qs,c1.mono (by omega),h3⟩
 ·rw[if_neg (λhh=>hh z1)];obtain⟨c1,c2⟩:=p2 _ (.inr ⟨z1,rfl⟩);have c2:=c2 z1;generalize hD1:(put S.D n (hd.aH+1) (dv S.D n+1) (bs (bO (bo m)))).1=D1 at c1 c2⊢;have vG:dv D1 n<=((x+1:Nat):Int):=by
   have hA:Zo (put S.D n (hd.aH+1) (dv S.D n+1) (bs (bO (bo m)))) D1:=.inr ⟨z1,hD1.symm⟩;rw[xK,show dv S.D n+1=((x+1:Nat):Int) by omega] at hA;obtain⟨_,_,_,k4,_⟩:=Zy (n:=n) (a:=cM n (hd.aH+1)) (t:=cM n (hd.aH+1)+bQ n) (m:=x+1) (g:=x) h2.jg.ok h2.jg.F4 h2.jg.len SI.ends bD (by omega) (by omega) (by rw[bJ];omega) (by omega) hA;exact yf (by omega) n k4
  have e2:dv S.D n+2=((x+1+1:Nat):Int):=by omega
  rw[e2];obtain⟨q1,q2⟩:=c1.Y9 (m:=m) (number:=dv S.D n+1) jz bD (x+1) vG (by omega) (by omega) (by omega) Gj hlen il sU c2;have ZV:kH ⟨hd.aH+1,dv S.D n+1,((bO (bo m)).length:Int),S.J.seq⟩:=by have:=h2.jg.tg.seq;unfold kH;dsimp only;omega
  obtain⟨b,hb,ue,ec⟩:=J0 (D:=D1) (number:=((x+1+1:Nat):Int)) ZV;by_cases z2:(r9 D1 ((x+1+1:Nat):Int) ⟨hd.aH+1,dv S.D n+1,((bO (bo m)).length:Int),S.J.seq⟩).2=0
  ·rw[if_neg (λhh=>hh z2)]
   left
   rcases q2 _ (.inr ⟨z2,rfl⟩) with hv|⟨h8,_⟩
   ·exact⟨rfl,⟨h1,_,m,[],hv.mono (by omega),rfl,rfl⟩,rfl,rfl,rfl,rfl,rfl⟩
   ·rw[z2] at h8;exact absurd h8 (by decide)
  ·have z8:(r9 D1 ((x+1+1:Nat):Int) ⟨hd.aH+1,dv S.D n+1,((bO (bo m)).length:Int),S.J.seq⟩).2=8:=by rcases q1 with q1|q1;exact absurd q1 z2;exact q1
   rw[if_pos z2]
   right;right
   have Mc:(r9 D1 ((x+1+1:Nat):Int) ⟨hd.aH+1,dv S.D n+1,((bO (bo m)).length:Int),S.J.seq⟩).1.safe.length=n:=by
    rw[<-rY _ 0 0 0];rcases q2 _ (.inl ⟨0,0,0,rfl⟩) with hv|⟨_,hv⟩
    ·exact hv.jg.len
    ·exact hv.jg.len
   have Uv:(r9 D1 ((x+1+1:Nat):Int) ⟨hd.aH+1,dv S.D n+1,((bO (bo m)).length:Int),S.J.seq⟩).1.Ok:=by rw[ec];exact FX c1.jg.ok (by rw[c1.jg.F4,ael,BC];omega)
   have sS:=h2.jg.tg;refine⟨z8,⟨rfl,⟨Uv,by rw[ec];exact lh c1.jg.ok c1.jg.F4 (by rw[BC];omega),⟨sS.lo,sS.J8,sS.PF,by rw[Mc];have:=sS.hi;rw[h2.jg.len] at this;exact this,sS.seq⟩,by show 0<=hd.aH/\hd.aH<_;omega⟩,Mc,by show S.J.seq<=_;omega,λa b' c=>?_⟩,rfl,rfl⟩
   left
   rcases q2 _ (.inl ⟨a,b',c,rfl⟩) with hv|⟨_,hv⟩
   ·exact⟨_,_,m,[],hv.mono (by omega),rfl⟩
   ·exact⟨S.J,hd,mb,qs,hv.mono (by omega),h3⟩
def MB{n:Nat}{S:VS}{m:Model}{g:Nat}{q:ic}(h:VW n S m g)(jz:12<=n)(bD:n<=4096)(hg:g+1<256)(hq:DG q):
 ((lj S (bs (ch q))).2=0/\VW n (lj S (bs (ch q))).1 (aJ m q).2.2 (g+1)/\(lj S (bs (ch q))).1.aH=S.aH/\(lj S (bs (ch q))).1.J.seq=S.J.seq+1)\/
 ((lj S (bs (ch q))).2=6/\(lj S (bs (ch q))).1=S/\ ¬room S.J (bs (ch q)).size)\/
 ((lj S (bs (ch q))).2=8/\VX n (lj S (bs (ch q))).1 m (aJ m q).2.2 (g+1)/\(lj S (bs (ch q))).1.aH=S.aH/\(lj S (bs (ch q))).1.J.seq=S.J.seq):=by
 obtain⟨h1,hd,mb,qs,h2,h3,h4⟩:=h;have ZE:=h2.aH;have yS:=h2.lo;have yU:=h2.hi;have Cl:=h2.Fs;have XO:=(uK S.D n).1;obtain⟨x,hx,Xf,SI⟩:=h2.jg.uf (by omega);unfold lj;rw[h2.jg.len];by_cases hr:room S.J (bs (ch q)).size
 ·obtain⟨a1,a2,a3⟩:=h2.add jz bD hq hr hg;have NO:uU mb (qs++[q])=(aJ m q).2.2:=by rw[CP,h3]
  rcases a3 with⟨z,hv⟩|⟨z,hv⟩
  ·have e:pw S.D S.J (dv S.D n+1) (bs (ch q))=((cQ S.D S.J.at' S.J.hi (dv S.D n+1) (bs (bE (S.J.seq+1) (bs (ch q))))).1,S.J.more (bs (ch q)),0):=by
    rw[a1];unfold Sep.yo;rw[if_neg (λhh=>hh z)];rfl
   rw[e]
   left
   exact⟨rfl,⟨by show(S.dH||_)=false;rw[h1];rfl,hd,mb,qs++[q],hv,NO,h4⟩,rfl,rfl⟩
  ·have e:pw S.D S.J (dv S.D n+1) (bs (ch q))=((cQ S.D S.J.at' S.J.hi (dv S.D n+1) (bs (bE (S.J.seq+1) (bs (ch q))))).1,{S.J with dH:=true},8):=by
    rw[a1];unfold Sep.yo;rw[if_pos (by rw[z];decide),z]
   rw[e]
   right;right
   have Mc:(cQ S.D S.J.at' S.J.hi (dv S.D n+1) (bs (bE (S.J.seq+1) (bs (ch q))))).1.safe.length=n:=by
    rw[<-rY _ 0 0 0];rcases hv 0 0 0 with hh|hh
    ·exact hh.jg.len
    ·exact hh.jg.len
   have sS:=h2.jg.tg;have wT:=oA (S.J.seq+1) (bs (ch q));have Wh:dN (12+(bs (ch q)).size)<=4096:=by have:=hr.2.2;rw[adR] at this;have:=sS.lo;have:=sS.J8;omega
   have rT:=HW (at':=S.J.at') (to:=S.J.hi) (number:=dv S.D n+1) (s:=bs (bE (S.J.seq+1) (bs (ch q)))) h2.jg.ok (by rw[h2.jg.F4,ael,wT];omega);rw[h2.jg.F4,ael,wT] at rT;refine⟨rfl,⟨by show(S.dH||_)=true;rw[h1];rfl,⟨a2,by show(cQ S.D S.J.at' S.J.hi (dv S.D n+1) (bs (bE (S.J.seq+1) (bs (ch q))))).1.later.length<1000000;omega,⟨sS.lo,sS.J8,sS.PF,by rw[Mc];have:=sS.hi;rw[h2.jg.len] at this;exact this,sS.seq⟩,by show 0<=S.aH/\S.aH<_;omega⟩,Mc,by show S.J.seq<=_;omega,λa b c=>?_⟩,rfl,rfl⟩;rcases hv a b c with hh|hh
   ·exact .inl ⟨_,hd,mb,qs,hh,h3⟩
   ·exact .inr ⟨_,hd,mb,qs++[q],hh,NO⟩
 ·have e:pw S.D S.J (dv S.D n+1) (bs (ch q))=(S.D,S.J,6):=by
   unfold pw;rw[if_neg (by rw[h2.dH];decide),if_neg (by omega),if_pos (.inl hr)]
  rw[e]
  right;left
  refine⟨rfl,?_,hr⟩;have:(S.dH||(6:Int)==8)=S.dH:=by cases S.dH<;>rfl
  dsimp only;rw[this]
def Mz{n:Nat}{S:VS}{m:Model}{g:Nat}{q:ic}(h:VW n S m g)(jz:12<=n)(bD:n<=4096)(hg:g+3<256)(il:Good (bo m))(sU:Md.Ground m)(hw:gp q=true)(he:db q=true)(hA:∀a∈q.ag,uu a)(hT:∀t∈q.aQ,tB t):
 ((vR n m S q).2=((aJ m q).2.2,(aJ m q).1,(aJ m q).2.1)/\VW n (vR n m S q).1 (aJ m q).2.2 (g+3)/\(vR n m S q).1.J.seq=S.J.seq+1)\/
 (∃e,(e=3\/e=6)/\(vR n m S q).2=(m,e,[])/\VW n (vR n m S q).1 m (g+3)/\(vR n m S q).1.J.seq=S.J.seq)\/
 ((vR n m S q).2=(m,8,[])/\VX n (vR n m S q).1 m (aJ m q).2.2 (g+3)/\(vR n m S q).1.J.seq=S.J.seq):=by
 have Ee:DG q:=⟨hw,he,hA,hT⟩;unfold vR;rw[if_neg (by rw[hw];decide),if_neg (by rw[h.dH];decide)];have main:∀(S1:VS)(g1:Nat),VW n S1 m g1->g1+1<=g+3->S1.J.seq=S.J.seq->gX n m S (bs (ch q))=lj S1 (bs (ch q))->
                                          ((if(gX n m S (bs (ch q))).2≠0 then((gX n m S (bs (ch q))).1,m,(gX n m S (bs (ch q))).2,[]) else((gX n m S (bs (ch q))).1,(aJ m q).2.2,(aJ m q).1,(aJ m q).2.1):VS×Model×Int×List Int)).2=((aJ m q).2.2,(aJ m q).1,(aJ m q).2.1)/\VW n (if(gX n m S (bs (ch q))).2≠0 then((gX n m S (bs (ch q))).1,m,(gX n m S (bs (ch q))).2,[]) else((gX n m S (bs (ch q))).1,(aJ m q).2.2,(aJ m q).1,(aJ m q).2.1):VS×Model×Int×List Int).1 (aJ m q).2.2 (g+3)/\((if(gX n m S (bs (ch q))).2≠0 then((gX n m S (bs (ch q))).1,m,(gX n m S (bs (ch q))).2,[]) else((gX n m S (bs (ch q))).1,(aJ m q).2.2,(aJ m q).1,(aJ m q).2.1):VS×Model×Int×List Int)).1.J.seq=S.J.seq+1\/
                                          (∃e,(e=3\/e=6)/\((if(gX n m S (bs (ch q))).2≠0 then((gX n m S (bs (ch q))).1,m,(gX n m S (bs (ch q))).2,[]) else((gX n m S (bs (ch q))).1,(aJ m q).2.2,(aJ m q).1,(aJ m q).2.1):VS×Model×Int×List Int)).2=(m,e,[])/\VW n (if(gX n m S (bs (ch q))).2≠0 then((gX n m S (bs (ch q))).1,m,(gX n m S (bs (ch q))).2,[]) else((gX n m S (bs (ch q))).1,(aJ m q).2.2,(aJ m q).1,(aJ m q).2.1):VS×Model×Int×List Int).1 m (g+3)/\((if(gX n m S (bs (ch q))).2≠0 then((gX n m S (bs (ch q))).1,m,(gX n m S (bs (ch q))).2,[]) else((gX n m S (bs (ch q))).1,(aJ m q).2.2,(aJ m q).1,(aJ m q).2.1):VS×Model×Int×List Int)).1.J.seq=S.J.seq)\/
                                          (((if(gX n m S (bs (ch q))).2≠0 then((gX n m S (bs (ch q))).1,m,(gX n m S (bs (ch q))).2,[]) else((gX n m S (bs (ch q))).1,(aJ m q).2.2,(aJ m q).1,(aJ m q).2.1):VS×Model×Int×List Int)).2=(m,8,[])/\VX n (if(gX n m S (bs (ch q))).2≠0 then((gX n m S (bs (ch q))).1,m,(gX n m S (bs (ch q))).2,[]) else((gX n m S (bs (ch q))).1,(aJ m q).2.2,(aJ m q).1,(aJ m q).2.1):VS×Model×Int×List Int).1 m (aJ m q).2.2 (g+3)/\((if(gX n m S (bs (ch q))).2≠0 then((gX n m S (bs (ch q))).1,m,(gX n m S (bs (ch q))).2,[]) else((gX n m S (bs (ch q))).1,(aJ m q).2.2,(aJ m q).1,(aJ m q).2.1):VS×Model×Int×List Int)).1.J.seq=S.J.seq):=λS1 g1 Ue Hl L9 Xj=>by
  rw[Xj];rcases MB (q:=q) Ue jz bD (by omega) Ee with⟨z,a,b,c⟩|⟨z,a,b⟩|⟨z,a,b,c⟩
  ·left
   rw[if_neg (λhh=>hh z)];exact⟨rfl,a.mono Hl,by rw[<-L9];exact c⟩
  ·right;left
   rw[if_pos (by rw[z];decide),z,a];exact⟨6,.inr rfl,rfl,Ue.mono (by omega),L9⟩
  ·right;right
   rw[if_pos (by rw[z];decide),z];exact⟨rfl,a.mono Hl,by rw[<-L9];exact c⟩
 by_cases hr:room S.J (bs (ch q)).size
 ·exact main S g h (by omega) rfl (by unfold gX;rw[if_pos hr])
 ·rcases Ah h jz bD (by omega) il sU with⟨z,a,b,c,_⟩|⟨z,a⟩|⟨z,a,b,c⟩
  ·exact main (gO n m S).1 (g+2) a (by omega) c (by unfold gX;rw[if_neg hr,if_neg (λhh=>hh z)])
  ·have Xj:gX n m S (bs (ch q))=gO n m S:=by unfold gX;rw[if_neg hr,if_pos (by rw[z];decide)]
   rw[Xj,if_pos (by rw[z];decide)]
   right;left
   exact⟨3,.inl rfl,by rw[z],by rw[a];exact h.mono (by omega),by rw[a]⟩
  ·have Xj:gX n m S (bs (ch q))=gO n m S:=by unfold gX;rw[if_neg hr,if_pos (by rw[z];decide)]
   rw[Xj,if_pos (by rw[z];decide)]
   right;right
   refine⟨by rw[z],⟨a.dH,a.ok,a.len,by show(gO n m S).1.J.seq<=_;have:=a.seq;omega,λx y w=>?_⟩,c⟩
   left
   rcases a.eP x y w with hh|hh
   ·exact hh.mono (by omega)
   ·exact hh.mono (by omega)
structure IJ where
 kind:Int
 q:ic
 s:rC
 mask:Int
 torn:Int
 cut:Int
 n:Int
def vm(x:IJ):LV:=.i x.kind::(dF x.q x.s++[.u x.mask,.i x.torn,.i x.cut,.i x.n])
def Fl(x:IJ):(vm x).length=18:=rfl
instance{x:IJ}:Ln (vm x) 18:=⟨rfl⟩
instance{x:IJ}:Gt (vm x) 0 (.i x.kind):=⟨rfl⟩
instance{x:IJ}:Gt (vm x) 2 (.l x.s.sa x.q.ag.length x.s.ca):=⟨rfl⟩
instance{x:IJ}:Gt (vm x) 3 (.l x.s.st x.q.aQ.length x.s.ct):=⟨rfl⟩
instance{x:IJ}:Gt (vm x) 5 (.l x.s.si x.q.ids.length x.s.ci):=⟨rfl⟩
def MZ(x:IJ):∀v∈vm x,v.oneCell'=true:=λv hv=>by
 rcases ae9.1 hv with h|h
 ·subst h;rfl
 ·rcases aeu.1 h with h|h
  ·exact tR _ _ v h
  ·simp at h;rcases h with rfl|rfl|rfl|rfl<;>rfl
section
variable {x1 x2 x3 x4 x5 x6 x7 x8 x9 zC zB zz zy Cy Ha G' PK PI:Value} {x:IJ}
instance:Wr [x1,x2,x3,x4,x5,x6,x7,x8,x9,zC,zB,zz,zy,Cy,Ha,G',PK,PI] 0 (vm x) (vm x):=⟨rfl,adW _,MZ x⟩
instance:Sub (vm x) 1 13 (dF x.q x.s):=⟨rfl,λj v h=>by
 show(_::(dF x.q x.s++_))[1+j]?=some v
 rw[Nat.add_comm 1 j,ad7,aec (adS.1 h).1];exact h⟩
end
def St.nil{W w:World}{L:LH}(h:St W w L):St W w []:=by
 induction L with
 |nil=>exact h
 |cons A L ih=>exact ih h.drop
instance(priority:=low) Has.nil{L:LH}:Has [] L:=⟨λh=>St.nil h⟩
def ze(m m2:Model):Prop:=(bo m).ag=(bo m2).ag/\m.kept=m2.kept/\m.clock=m2.clock/\m.ae=m2.ae
instance(m m2:Model):Decidable (ze m m2):=by unfold ze;infer_instance
def ze.refl(m:Model):ze m m:=⟨rfl,rfl,rfl,rfl⟩
def Jb:∀{l:List Nat} {x:Nat},x∈l->x<=l.sum
 |[],x,h=>by cases h
 |y::l,x,h=>by
  rw[List.sum_cons];rcases ae9.1 h with h|h
  ·subst h;omega
  ·have:=Jb h;omega
structure G5(W:World)(x:IJ):Prop where
 V0:kS W [] x.q x.s
 ag:∀a∈x.q.ag,uu a
 aQ:∀t∈x.q.aQ,tB t
 la:x.q.ag.length<=140737488355328
 lt:x.q.aQ.length<=140737488355328
section
variable {W:World} {L R M:LH} {K:VK} {X:WK} {q:ic} {s:rC} {p v d n pb pj:Nat} {m m2:Model} {mb kb:OA} {mc kc:Nat} {S:VS} {D:ay} {J:PJ} {hd:dx} {qs:List ic} {g:Nat} {f:ay->LH}
def Ak(G:px W)(jz:12<=n)(bD:n<=4096)(hv:VG n D J hd m qs g)(hg:g<256)
 (h:∀v pb pj,Md.Ground (uU m qs)->T W (VL v d n pb pj (uU m qs) ⟨D,J,hd.aH,false⟩ R) (K (.tuple ⟨[.p (some ⟨v,0,none⟩),.i 0]⟩))):
 T W (dL d D::R) (ff (some ⟨d,0,none⟩) K):=by
 have ho:=hv.jg.opened;have yS:=hv.lo;have yU:=hv.hi;rw[yS,yU] at ho;have Cl:=hv.Fs;have hq0:=hv.jg.q0;have Q3:=hv.jg.seq;refine PQ G hv.jg.ok jz bD hv.jg.len (hv.cg.base hv.jg.len jz bD) hv.uY hv.ground ⟨hq0,by omega⟩ (qs:=qs) (by rw[ho]) hv.kY λv pb pj pI=>?_;rw[ho];have e:(⟨((2+2* bQ n:Nat):Int),(n:Int),J.at',J.seq,false⟩:PJ)=J:=by
  cases J with
  |mk lo hi at' seq dH=>
   have h1:=hv.dH;dsimp only at yS yU h1;subst yS yU h1
   rfl
 dsimp only;rw[e];exact h v pb pj pI
def P'(hm:RM m)(pI:Md.Ground m)(h:T W (VL v d n pb pj m2 S (ML p m mb mc kb kc R)) (K (.bool (decide (ze m m2))))):T W (VL v d n pb pj m2 S (ML p m mb mc kb kc R)) (cN (some ⟨v,0,none⟩) (some ⟨p,0,none⟩) K):=by
 unfold cN;refine E7 λp3=>?_;refine vg ?_;refine vQ (p:=p3) λab ac=>?_;refine tI ?_;refine EN (p:=p3) λxb xc=>?_;refine tI ?_;refine ET (p:=p3) ?_;refine lX ?_;refine Kc (p:=p3) ?_;refine lX ?_;refine T.perm (L:=ML p m mb mc kb kc (own xb (bo m2).kept.length xc 33 ((bo m2).kept.flatMap aI)::own ab (bo m2).ag.length ac 14 ((bo m2).ag.flatMap ao)::bj p3 (bo m2,[])::VL v d n pb pj m2 S R)) ?_ (adY (l₁:=[_,_,_,_,_,_,_]) (l₂:=[_,_,_])|>.append_right R);refine Ql hm ?_;refine pE ?_;have e:decide (m.made.map m.full=(bo m2).ag/\m.kept=(bo m2).kept/\m.clock=(bo m2).clock/\m.ae=(bo m2).ae)=decide (ze m m2):=by
  have e1:m.made.map m.full=(bo m).ag:=ae7 λa ha=>pI.full ha;rw[e1,decide_eq_decide];exact Iff.rfl
 rw[e];refine T.perm (L:=own xb (bo m2).kept.length xc 33 ((bo m2).kept.flatMap aI)::own ab (bo m2).ag.length ac 14 ((bo m2).ag.flatMap ao)::bj p3 (bo m2,[])::VL v d n pb pj m2 S (ML p m mb mc kb kc R)) ?_ (adY (l₁:=[_,_,_]) (l₂:=[_,_,_,_,_,_,_])|>.append_right R);exact T.drop (T.drop (T.drop h))
def TK(hg:Good (bo m))(pI:Md.Ground m)(h:T W (VL v d n pb pj m2 S (ML p m mb mc kb kc R)) (K (.bool (decide (ze m m2))))):T W (VL v d n pb pj m2 S (ML p m mb mc kb kc R)) (cN (some ⟨v,0,none⟩) (some ⟨p,0,none⟩) K):=
 P' (RM.Jv hg pI) pI h
def Lo{sb:OA}{sc:Nat}{l:List IJ}(hr:nA W [] vm 18 sb l)(hl:l.length<=maxLen)(Dg:∀x∈l,G5 W x)
 (h:∀b:Bool,(b=false->l.length<=60/\∀x∈l,x.q.ag.length+x.q.aQ.length<=150/\x.q.ids.length<=100)->T W L (K (.bool b))):T W L (eQ sb l.length sc K):=by
 unfold maxLen at hl;unfold eQ;intro w jF;refine⟨λvv w=>∃(i:Nat)(n:Int),i<=l.length/\(∀x∈l.take i,x.q.ids.length<=100)/\(l.length<=60->n=(((l.take i).map λx=>x.q.ag.length+x.q.aQ.length).sum:Nat))/\vv=[.bool false,.i n,.l sb l.length sc,.i (l.length:Int),.i (i:Int)]/\St W w L,
  λvs _=>match vs with|[_,_,_,_,.int _ d]=>l.length-d.toNat|_=>0,⟨0,0,ad0 _,(λx hx=>by cases hx),(λ_=>rfl),rfl,jF⟩,?_⟩
 rintro b1 n1 sm qB sw n2 n3 w2 ⟨i,nn,hi,Lf,Ug,e,fj⟩;cases e
 refine T.at ?_ fj;have hbound:∀j,j<=l.length->l.length<=60->((l.take j).map λx=>x.q.ag.length+x.q.aQ.length).sum<=j* 281474976710656:=λj=>by
  induction j with
  |zero=>intro _ _;simp
  |succ j ih=>
   intro hj SU;have:=ih (by omega) SU;have gx:=adQ (show j<l.length by omega);have hx:=Dg _ (aee (show j<l.length by omega));rw[ad',gx,aen,List.sum_append];have h1:=hx.la;have h2:=hx.lt;simp only[Option.toList_some,aer,afp,List.sum_cons,List.sum_nil];omega
 refine dO (λg1=>?_) (λg1=>?_)
 ·have aZ:i<l.length:=by omega
  have e5:=l9 i;have gx:=adQ aZ;have hx:=Dg _ (aee aZ);have oz:l.take (i+1)=l.take i++[l[i]]:=by rw[ad',gx];rfl
  generalize l[i]=x at gx hx oz;have yT:=hx.la;have rr:=hx.lt;refine jy hr ⟨by omega,by omega⟩ rfl λa ha=>?_;rw[adR];refine jx hr ha gx (Fl x) ?_;apply ws;intros;refine dO (λg2=>?_) (λg2=>?_)
  ·exact T.drop (h true (λhh=>by cases hh))
  ·rw[e5];refine T.drop λw3 h3=>⟨⟨i+1,_,aZ,λy hy=>?_,λSU=>?_,rfl,h3⟩,by show l.length-((i+1:Nat):Int).toNat<l.length-(i:Int).toNat;omega⟩
   ·rw[oz] at hy;rcases aeu.1 hy with hy|hy
    ·exact Lf y hy
    ·cases(show y=x by simpa using hy);omega
   ·have hb:=hbound i (by omega) SU;rw[Ug SU,oz,aen,List.sum_append];simp only[aer,afp,List.sum_cons,List.sum_nil];rw[aw (n:=(x.q.ag.length:Int)+(x.q.aQ.length:Int)) (by omega),aw (by omega)];omega
 ·have gj:i=l.length:=by omega
  subst gj;rw[ad3] at Lf Ug;refine dO (λg2=>?_) (λg2=>?_)
  ·exact h true (λhh=>by cases hh)
  ·have SU:l.length<=60:=by omega
   have hs:=Ug SU;refine h _ (λhh=>⟨SU,λx hx=>⟨?_,Lf x hx⟩⟩);have hh:=of_decide_eq_false hh;have:x.q.ag.length+x.q.aQ.length<=(l.map λx=>x.q.ag.length+x.q.aQ.length).sum:=Jb (List.mem_map_of_mem hx);omega
end
def qV(n:Nat)(m:Model)(S:VS)(q:ic):VS×Model×Int×List Int×List aP×List Move:=
 if db q=true then((vR n m S q).1,(vR n m S q).2.1,(vR n m S q).2.2.1,(vR n m S q).2.2.2,[],[])
 else(S,m,(ask m q).1,[],(ask m q).2.1,(ask m q).2.2)
inductive Out(m:Model)(q:ic):Int->List Int->List aP->List Move->Model->Prop where
 |ask (h:db q=false):Out m q (ask m q).1 [] (ask m q).2.1 (ask m q).2.2 m
 |bad (h:db q=true) (h2:gp q=false):Out m q 1 [] [] [] m
 |done (h:db q=true) (h2:gp q=true) (h3:(aJ m q).1=0):Out m q 0 (aJ m q).2.1 [] [] (aJ m q).2.2
 |not (h:db q=true) (h2:gp q=true) (e:Int) (h3:e=8\/e=9\/e=6\/e=3):Out m q e [] [] [] m
def Gz{m:Model}{q:ic}(hw:gp q=true)(he:db q=true):(aJ m q).1=0:=by
 have h2:jv q=true:=by
  have Ut:q.op=1\/q.op=2\/q.op=3:=of_decide_eq_true he;have ha:kR q=false:=by
   unfold kR;rw[if_neg (by omega),if_neg (by omega)]
  unfold gp at hw;rw[ha,Bool.or_false,aeJ] at hw;exact hw.1
 unfold aJ;rw[if_neg (by rw[h2];decide)];split
 ·rfl
 ·split<;>rfl
def RO{m:Model}{q:ic}(hg:Good (bo m))(hi:q.ids.length<=16\/kR q=false\/q.op=6):(ask m q).2.1.length<=10000/\(ask m q).2.2.length<=10000:=by
 unfold ask;split
 ·simp
 ·rename_i gS;have ZX:q.op=4\/q.op=5->q.ids.length<=16:=λho=>by
   have zU:kR q=true:=by simpa using gS
   unfold kR at zU;rw[if_pos ho,aeJ,decide_eq_true_eq,decide_eq_true_eq] at zU;exact zU.2
  split
  ·rename_i h4;have:=ZX (.inl h4);have h2:=List.length_filterMap_le (bo m).find q.ids;dsimp only;exact⟨by omega,by simp⟩
  ·split
   ·rename_i h5;have:=ZX (.inr h5);have h2:=List.length_filterMap_le (λid=>((bo m).named id).map (·.move)) q.ids;dsimp only;exact⟨by simp,by omega⟩
   ·rw[<-FN hg];dsimp only;refine⟨by simp,?_⟩;unfold Ns;rw[aeg,adV];have h3:((if q.mM=true then(bo m).kept.reverse else(bo m).kept).filter λk=>wN q.fE q.rv k.move.ae&&fits q k).length<=(if q.mM=true then(bo m).kept.reverse else(bo m).kept).length:=List.length_filter_le _ _;have h4:(if q.mM=true then(bo m).kept.reverse else(bo m).kept).length=(bo m).kept.length:=by split<;>simp
    have:=hg.many;omega
def kS.any{W:World}{R:LH}{q:ic}{s:rC}(h:kS W [] q s):kS W R q s:=⟨h.ag.mono,h.aQ.mono,h.ids.mono,h.ca,h.ct,h.ci⟩
section
variable {W:World} {L R M:LH} {K:VK} {X:WK} {q:ic} {s:rC} {p p2 v d n pb pj:Nat} {m m2 m3:Model} {mb kb mT gK:OA} {mc kc mS gJ:Nat} {S S2:VS} {D:ay} {J:PJ} {g:Nat}
def MD(G:px W)(hg:Md.Ground m)(hS:Mp S)(X':Mp (gO n m S).1)(jz:12<=n)(bD:n<=4096)(hq:kS W [] q s)(hA:∀a∈q.ag,uu a)(hT:∀t∈q.aQ,tB t)(yT:q.ag.length<1000000)(aZ:q.aQ.length<1000000)
 (h:∀rb rc ab ac tb tc,Md.Ground (qV n m S q).2.1->T W (own rb (qV n m S q).2.2.2.1.length rc 1 ((qV n m S q).2.2.2.1.flatMap I1)::own ab (qV n m S q).2.2.2.2.1.length ac 14 ((qV n m S q).2.2.2.2.1.flatMap ao)::own tb (qV n m S q).2.2.2.2.2.length tc 16 ((qV n m S q).2.2.2.2.2.flatMap ai)::VL v d n pb pj (qV n m S q).2.1 (qV n m S q).1 R)
  (K (.agg ⟨nW (qV n m S q).2.2.1 rb (qV n m S q).2.2.2.1.length rc ab (qV n m S q).2.2.2.2.1.length ac tb (qV n m S q).2.2.2.2.2.length tc⟩))):
 T W (VL v d n pb pj m S R) (dJ (some ⟨v,0,none⟩) (dF q s) K):=by
 unfold qV at h;cases he:db q with
 |true=>
  rw[if_pos he] at h;refine Ts G hg hS X' jz bD hq.any hA hT yT aZ he λrb rc pI=>?_;refine eW (e:=14) ?_;refine eW (e:=16) ?_;refine T.perm (h rb rc none 0 none 0 pI) ?_;exact(adY (l₁:=[own none 0 0 16 [],own none 0 0 14 []]) (l₂:=[_])|>.append_right _).trans (aeh.cons _ (aeh.swap _ _ _))
 |false=>
  rw[if_neg (by rw[he];decide)] at h;refine Tt hq.any he λab ac tb tc=>?_;refine eW (e:=1) ?_;exact h none 0 ab ac tb tc hg
def I0{e:Int}{rb ab tb:OA}{rc ac tc:Nat}{res:List Int}{al:List aP}{tl:List Move}(hg:Good (bo m))(pI:Md.Ground m)(ho:Out m q e res al tl m2)
 (hlr:res.length<=10000)(yT:al.length<=10000)(aZ:tl.length<=10000)
 (hq:kS W [] q s)(Un:q.ag.length<1000000)(ZH:q.aQ.length<1000000)(hA:∀a∈q.ag,uu a)(hT:∀t∈q.aQ,tB t)
 (h:∀p2 mT mS gK gJ R',Bk p m mb mc kb kc (own rb res.length rc 1 (res.flatMap I1)::own ab al.length ac 14 (al.flatMap ao)::own tb tl.length tc 16 (tl.flatMap ai)::R) p2 m2 mT mS gK gJ R'->T W (ML p2 m2 mT mS gK gJ R') (K (.tuple ⟨[.bool true,.p (some ⟨p2,0,none⟩)]⟩))):
 T W (ML p m mb mc kb kc (own rb res.length rc 1 (res.flatMap I1)::own ab al.length ac 14 (al.flatMap ao)::own tb tl.length tc 16 (tl.flatMap ai)::R)) (av (nW e rb res.length rc ab al.length ac tb tl.length tc) (some ⟨p,0,none⟩) (dF q s) K):=by
 refine Tv (i1:=⟨⟨0,rfl,λ_=>rfl⟩⟩) (i2:=⟨⟨1,rfl,λ_=>rfl⟩⟩) (i3:=⟨⟨2,rfl,λ_=>rfl⟩⟩) hg pI hlr yT aZ hq.any Un ZH hA hT (λh1=>?_) (λh1 h2=>?_) (λh1 h2 h3 p2 mT mS gK gJ R' yd Uk=>?_) (λh1 h2 h3=>?_)
 ·cases ho with
  |ask hx=>
   rw[decide_eq_true ⟨rfl,⟨rfl,rfl⟩,rfl⟩];exact h p mb mc kb kc _ (.inl ⟨rfl,rfl,rfl,rfl,rfl,rfl,rfl⟩)
  |bad hx _=>rw[h1] at hx;cases hx
  |done hx _ _=>rw[h1] at hx;cases hx
  |not hx _ _ _=>rw[h1] at hx;cases hx
 ·cases ho with
  |ask hx=>rw[h1] at hx;cases hx
  |bad hx _=>
   rw[decide_eq_true ⟨rfl,rfl⟩];exact h p mb mc kb kc _ (.inl ⟨rfl,rfl,rfl,rfl,rfl,rfl,rfl⟩)
  |done hx hy _=>rw[h2] at hy;cases hy
  |not hx hy _ _=>rw[h2] at hy;cases hy
 ·cases ho with
  |ask hx=>rw[h1] at hx;cases hx
  |bad hx hy=>rw[h2] at hy;cases hy
  |done hx hy hz=>
   rw[decide_eq_true ⟨hz,rfl⟩];exact h p2 mT mS gK gJ R' yd
  |not hx hy _ hz=>omega
 ·cases ho with
  |ask hx=>rw[h1] at hx;cases hx
  |bad hx hy=>rw[h2] at hy;cases hy
  |done hx hy hz=>exact absurd rfl h3
  |not hx hy _ hz=>
   rw[decide_eq_true ⟨hz,rfl,rfl,rfl⟩];exact h p mb mc kb kc _ (.inl ⟨rfl,rfl,rfl,rfl,rfl,rfl,rfl⟩)
def T.back{R0 R':LH}(hb:Bk p m mb mc kb kc R0 p2 m2 mT mS gK gJ R')(h:T W (ML p2 m2 mT mS gK gJ R0) X):T W (ML p2 m2 mT mS gK gJ R') X:=by
 rcases hb with⟨rfl,-⟩|rfl
 ·exact h
 ·refine T.sub h ?_;exact mZ
def E4{n:Nat}{S:VS}{m:Model}{g:Nat}(h:VW n S m g)(jz:12<=n)(bD:n<=4096)(hg:g+2<256)(il:Good (bo m))(sU:Md.Ground m):Mp (gO n m S).1:=by
 rcases Ah h jz bD hg il sU with⟨_,a,_⟩|⟨_,a⟩|⟨_,a,_⟩
 ·exact a.ok (by omega)
 ·rw[a];exact h.ok (by omega)
 ·exact a.ok
def vA(n:Nat):VS:=⟨ay.new n,⟨((2+2* bQ n:Nat):Int),n,((2+2* bQ n:Nat):Int),0,false⟩,0,false⟩
def VA{n:Nat}(jz:12<=n)(bD:n<=4096):Rm n 0 (vA n):=by
 have hb:2+2* bQ n<=n:=by unfold bQ;omega
 refine⟨BH bD,λj hj=>?_,rfl,rfl,afq _,by show((2+2* bQ n:Nat):Int)<=(n:Int);omega,⟨afq _,by show(0:Int)<=1000000;decide⟩,rfl,rfl,⟨afq _,afq _⟩⟩;show Sep.Ends 0 ((ay.new n).read (j:Int)).1;rw[wH bD hj];exact Bv
def Vy{n:Nat}(jz:12<=n)(bD:n<=4096):VW n (vA n) oy 0:=
 ⟨rfl,Ad,oy,[],EE jz bD,rfl,rfl⟩
def qT:ic:=⟨3,[],[],5,[],0,0,0,false,false,false,0⟩
def sT:rC:=⟨none,0,none,0,none,0⟩
def LS(G:px W)(h:T W L (K (.bool true))):T W L (cA K):=by
 unfold cA;refine No λd=>?_;refine vg ?_;refine Ak G (n:=20) (by decide) (by decide) (EE (by decide) (by decide)) (by decide) λv pb pj pI=>?_;refine PX ?_;refine vg ?_;refine lX ?_;refine dX (by decide) ?_;refine cK ⟨rfl,rfl,trivial⟩ ?_;have L6:=Vy (n:=20) (by decide) (by decide);have aau:=VA (n:=20) (by decide) (by decide);have Xu:db qT=true:=by decide
 have hqw:gp qT=true:=by decide
 have Lh:aJ oy qT=(0,[],oy.time 5):=rfl;have hlen:(ch qT).length<=924:=KA hqw Xu;have Ul:(ch qT).length=9:=by decide
 have Ps:bQ 20=7:=by decide
 have yR:room (vA 20).J (bs (ch qT)).size:=by
  rw[bJ,Ul];show room ⟨((2+2* bQ 20:Nat):Int),((20:Nat):Int),((2+2* bQ 20:Nat):Int),0,false⟩ _;rw[Ps]
  decide
 show T W (VL v d 20 pb pj oy (vA 20) L) (dJ (some ⟨v,0,none⟩) (dF qT sT) _);have aa2:gX 20 oy (vA 20) (bs (ch qT))=lj (vA 20) (bs (ch qT)):=by
  unfold gX;rw[if_pos yR]
 obtain⟨a1,-⟩:=Hq (s:=bs (ch qT)) aau (by decide) (by decide) (by decide) yR;have EV:qV 20 oy (vA 20) qT=((vR 20 oy (vA 20) qT).1,oy.time 5,0,[],[],[]):=by
  unfold qV vR;rw[if_pos Xu,if_neg (by rw[hqw];decide),if_neg (by decide),aa2,if_neg (λhh=>hh a1),Lh]
 refine MD (s:=sT) G qm (L6.ok (by decide)) (E4 L6 (by decide) (by decide) (by decide) wV qm) (by decide) (by decide) ⟨nA.nil,nA.nil,nA.nil,adW _,adW _,adW _⟩ (λa ha=>by cases ha) (λt ht=>by cases ht) (by decide) (by decide) λrb rc ab ac tb tc NX=>?_;rcases Mz (q:=qT) L6 (by decide) (by decide) (by decide) wV qm hqw Xu (λa ha=>by cases ha) (λt ht=>by cases ht) with⟨b1,b2,b3⟩|⟨e,b0,b1,-⟩|⟨b1,-⟩
 rotate_left
 ·have:=congrArg (λx=>x.2.1) b1;have h2:=congrArg (λx=>x.2.2.1) EV;unfold qV at h2;rw[if_pos Xu] at h2;dsimp only at this h2;rw[this] at h2;omega
 ·have:=congrArg (λx=>x.2.1) b1;have h2:=congrArg (λx=>x.2.2.1) EV;unfold qV at h2;rw[if_pos Xu] at h2;dsimp only at this h2;rw[this] at h2;cases h2
 rw[EV];generalize (vR 20 oy (vA 20) qT).1=S2 at b2 b3⊢;rw[Lh] at b2;obtain⟨EU,hd,mb,qs,hvg,NO,htu⟩:=b2;dsimp only at NO;refine we (by rfl) ?_;apply ws;intros;rename_i r1;refine T.perm (L:=dL d S2.D::Sep.pt r1 (nW 0 rb 0 rc ab 0 ac tb 0 tc)::own rb 0 rc 1 []::own ab 0 ac 14 []::own tb 0 tc 16 []::Sep.pt v (vC d 20 pb pj S2.aH S2.dH)::bj pb (bo (oy.time 5),[])::jP d pj S2.J::L) ?_ (adY (l₁:=[_,_,_,_,_,_,_]) (l₂:=[_])|>.append_right L);refine Ak G (by decide) (by decide) hvg (by decide) λv2 pb2 pj2 adC=>?_;rw[NO];apply ws;intros;unfold cA.j1;refine ki (by decide) ?_;refine E7 λp4=>?_;refine vg ?_;refine ET (p:=p4) ?_;refine lX ?_;refine ki (by decide) ?_;refine T.drop ?_;refine Tq ?_;refine lX ?_;have e1:(S2.J.seq==1)=true:=by rw[b3];rfl
 dsimp only;rw[e1];refine T.sub h ?_;exact mZ
end
def wu{α σ:Type}(f:σ->α->Int×σ)(lk:α->Bool):∀(n:Nat)(s:σ)(l:List α),(eL f lk n s l).1.length<=l.length
 |0,s,l=>ad0 _
 |n+1,s,[]=>ad0 _
 |n+1,s,x::l=>by
  have hle:=s7 (linked:=lk) (x::l);have hd:((x::l).drop (bl lk (x::l)).1).length=(x::l).length-(bl lk (x::l)).1:=ad2;rw[eL];by_cases hw:(bl lk (x::l)).2=false
  ·rw[if_pos hw];dsimp only;rw[jD];exact hle
  rw[if_neg hw];cases fp f s ((x::l).take (bl lk (x::l)).1) 0 with
  |mk o s'=>
   cases o with
   |none=>
    have:=wu f lk n s' ((x::l).drop (bl lk (x::l)).1);dsimp only;rw[adT,jD];omega
   |some e=>
    have:=wu f lk n s ((x::l).drop (bl lk (x::l)).1);dsimp only;rw[adT,jD];omega
def Ik(m:Model)(q:ic):(aJ m q).2.1.length<=q.ag.length+q.aQ.length:=by
 unfold aJ;split
 ·exact ad0 _
 ·split
  ·have:=wu Model.make wL q.ag.length m q.ag;dsimp only;omega
  ·split
   ·have:=wu Model.nZ wK q.aQ.length m q.aQ;dsimp only;omega
   ·exact ad0 _
def Out.short{m m2:Model}{q:ic}{e:Int}{res:List Int}{al:List aP}{tl:List Move}(h:Out m q e res al tl m2)(hg:Good (bo m))(hl:q.ag.length+q.aQ.length<=150)(hi:q.ids.length<=100):res.length<=10000/\al.length<=10000/\tl.length<=10000:=by
 cases h with
 |ask hx=>
  have:q.ids.length<=16\/kR q=false\/q.op=6:=by
   by_cases h1:kR q=false
   ·exact .inr (.inl h1)
   ·by_cases h6:q.op=6
    ·exact .inr (.inr h6)
    ·left
     have zU:kR q=true:=by simpa using h1
     unfold kR at zU;by_cases Ml:q.op=4\/q.op=5
     ·rw[if_pos Ml,aeJ,decide_eq_true_eq,decide_eq_true_eq] at zU;exact zU.2
     ·rw[if_neg Ml,if_neg h6] at zU;cases zU
  obtain⟨h1,h2⟩:=RO hg this;exact⟨ad0 _,h1,h2⟩
 |bad _ _=>simp
 |done _ _ _=>
  have:=Ik m q;exact⟨by omega,ad0 _,ad0 _⟩
 |not _ _ _ _=>simp
section
variable {W:World} {L R M:LH} {K:VK} {X:WK} {q:ic} {s:rC} {p p2 v d n pb pj:Nat} {m m2 m3:Model} {mb kb mT gK:OA} {mc kc mS gJ:Nat} {S S2:VS} {D:ay} {J:PJ} {g:Nat}
def T.re1{M1 M2 M3 A1 A2 A3 A4 V B J D C:HP}(h:T W (V::B::J::D::M1::M2::M3::R) X):T W (M1::M2::M3::A1::A2::A3::A4::V::B::J::D::C::R) X:=
 T.perm (L:=V::B::J::D::M1::M2::M3::A1::A2::A3::A4::C::R) (T.sub h (by exact mZ)) (adY (l₁:=[M1,M2,M3,A1,A2,A3,A4]) (l₂:=[V,B,J,D])|>.append_right (C::R))
def T.re2{M1 M2 M3 O1 O2 O3 A V B J D C:HP}(h:T W (M1::M2::M3::O1::O2::O3::A::V::B::J::D::C::R) X):T W (A::O1::O2::O3::V::B::J::D::C::M1::M2::M3::R) X:=
 T.perm h ((adY (l₁:=[A,O1,O2,O3,V,B,J,D,C]) (l₂:=[M1,M2,M3])|>.append_right R).trans ((adY (l₁:=[A]) (l₂:=[O1,O2,O3])|>.append_right (V::B::J::D::C::R)).append_left [M1,M2,M3]))
def T.re3{A:HP}(h:T W (VL v d n pb pj m S (A::R)) X):T W (A::VL v d n pb pj m S R) X:=
 T.perm h (adY (l₁:=[A]) (l₂:=[_,_,_,_])|>.append_right R)
end
section
variable {W:World} {L R M:LH} {K:VK} {X:WK} {q:ic} {s:rC} {p p2 v d n pb pj:Nat} {m m2 m3:Model} {mb kb mT gK:OA} {mc kc mS gJ:Nat} {S S2:VS} {D:ay} {J:PJ} {g:Nat}
def T.re4{M1 M2 M3 O1 O2 O3 V B J D C:HP}(h:T W (M1::M2::M3::O1::O2::O3::V::B::J::D::C::R) X):T W (O1::O2::O3::V::B::J::D::C::M1::M2::M3::R) X:=
 T.perm h (adY (l₁:=[O1,O2,O3,V,B,J,D,C]) (l₂:=[M1,M2,M3])|>.append_right R)
def T.re5{M1 M2 M3 O1 O2 O3 V B J D C:HP}(h:T W (V::B::J::D::M1::M2::M3::R) X):T W (M1::M2::M3::O1::O2::O3::V::B::J::D::C::R) X:=
 T.perm (L:=V::B::J::D::M1::M2::M3::O1::O2::O3::C::R) (T.sub h (by exact mZ)) (adY (l₁:=[M1,M2,M3,O1,O2,O3]) (l₂:=[V,B,J,D])|>.append_right (C::R))
end
def Vt(m:Model)(q:ic):(ask m q).1=0\/(ask m q).1=1:=by
 unfold ask;split
 ·exact .inr rfl
 ·split
  ·exact .inl rfl
  ·split<;>exact .inl rfl
def VZ(n:Nat)(S:VS)(m:Model)(g:Nat):Prop:=VW n S m g\/∃mf,VX n S m mf g
section
variable {n g g':Nat} {S:VS} {m mf:Model} {q:ic}
def VZ.mono(h:VZ n S m g)(hg:g<=g'):VZ n S m g':=by
 rcases h with h|⟨mf,h⟩
 ·exact .inl (h.mono hg)
 ·exact .inr ⟨mf,h.mono hg⟩
def VX.save(h:VX n S m mf g){m2:Model}:gO n m2 S=(S,9):=by
 unfold gO;rw[if_pos h.dH]
def VZ.vok(h:VZ n S m g)(hg:g<256):Mp S:=by
 rcases h with h|⟨mf,h⟩
 ·exact h.ok hg
 ·exact h.ok
def VZ.Wv(h:VZ n S m g)(jz:12<=n)(bD:n<=4096)(hg:g+2<256)(il:Good (bo m))(pI:Md.Ground m):Mp (gO n m S).1:=by
 rcases h with h|⟨mf,h⟩
 ·exact E4 h jz bD hg il pI
 ·rw[h.save];exact h.ok
def Ir(h:VZ n S m g)(jz:12<=n)(bD:n<=4096)(hg:g+3<256)(il:Good (bo m))(pI:Md.Ground m)(hA:∀a∈q.ag,uu a)(hT:∀t∈q.aQ,tB t):
 Out m q (qV n m S q).2.2.1 (qV n m S q).2.2.2.1 (qV n m S q).2.2.2.2.1 (qV n m S q).2.2.2.2.2 (qV n m S q).2.1/\
 ((S.dH=false/\VW n (qV n m S q).1 (qV n m S q).2.1 (g+3)/\(qV n m S q).2.2.1≠8)\/
  (S.dH=false/\(qV n m S q).2.2.1=8/\db q=true/\gp q=true/\(qV n m S q).2.1=m/\VX n (qV n m S q).1 m (aJ m q).2.2 (g+3))\/
  (S.dH=true/\(qV n m S q).1=S/\(qV n m S q).2.1=m/\(qV n m S q).2.2.1≠8/\(db q=true->(qV n m S q).2.2.1≠0)/\(db q=true->gp q=true->(qV n m S q).2.2.1=9))):=by
 have EU:S.dH=false/\VW n S m g\/S.dH=true/\∃mf,VX n S m mf g:=by
  rcases h with h|⟨mf,h⟩
  ·exact .inl ⟨h.dH,h⟩
  ·exact .inr ⟨h.dH,mf,h⟩
 unfold qV;cases he:db q with
 |false=>
  rw[if_neg (by decide)];have ha:=Vt m q;refine⟨.ask he,?_⟩;rcases EU with⟨h1,h2⟩|⟨h1,h2⟩
  ·exact .inl ⟨h1,h2.mono (by omega),by show(ask m q).1≠8;omega⟩
  ·exact .inr (.inr ⟨h1,rfl,rfl,by show(ask m q).1≠8;omega,λhh=>(by cases hh),λhh=>(by cases hh)⟩)
 |true=>
  rw[if_pos rfl];dsimp only;cases hw:gp q with
  |false=>
   have e:vR n m S q=(S,m,1,[]):=by unfold vR;rw[if_pos hw]
   rw[e];refine⟨.bad he hw,?_⟩;rcases EU with⟨h1,h2⟩|⟨h1,h2⟩
   ·exact .inl ⟨h1,h2.mono (by omega),by show(1:Int)≠8;decide⟩
   ·exact .inr (.inr ⟨h1,rfl,rfl,by show(1:Int)≠8;decide,λ_=>by show(1:Int)≠0;decide,λ_ hh=>(by cases hh)⟩)
  |true=>
   rcases EU with⟨h1,h2⟩|⟨h1,h2⟩
   ·have ez:=Gz (m:=m) hw he;rcases Mz h2 jz bD hg il pI hw he hA hT with⟨a,b,-⟩|⟨x,hx,a,b,-⟩|⟨a,b,-⟩
    ·rw[a];dsimp only;rw[ez];exact⟨.done he hw ez,.inl ⟨h1,b,by decide⟩⟩
    ·rw[a];dsimp only;exact⟨.not he hw x (by omega),.inl ⟨h1,b,by omega⟩⟩
    ·rw[a];dsimp only;exact⟨.not he hw 8 (by omega),.inr (.inl ⟨h1,rfl,rfl,rfl,rfl,b⟩)⟩
   ·have e:vR n m S q=(S,m,9,[]):=by unfold vR;rw[if_neg (by rw[hw];decide),if_pos h1]
    rw[e];exact⟨.not he hw 9 (by omega),.inr (.inr ⟨h1,rfl,rfl,by show(9:Int)≠8;decide,λ_=>by show(9:Int)≠0;decide,λ_ _=>rfl⟩)⟩
def Vf(h:VZ n S m g)(jz:12<=n)(bD:n<=4096)(hg:g+3<256)(il:Good (bo m))(pI:Md.Ground m)(hA:∀a∈q.ag,uu a)(hT:∀t∈q.aQ,tB t):VZ n (qV n m S q).1 (qV n m S q).2.1 (g+3):=by
 rcases(Ir h jz bD hg il pI hA hT).2 with⟨_,a,_⟩|⟨_,_,_,_,a,b⟩|⟨_,a,b,_⟩
 ·exact .inl a
 ·rw[a];exact .inr ⟨_,b⟩
 ·rw[a,b];exact h.mono (by omega)
def Mw(h:VZ n S m g)(jz:12<=n)(bD:n<=4096)(hg:g+2<256)(il:Good (bo m))(pI:Md.Ground m):VZ n (gO n m S).1 m (g+2):=by
 rcases h with h|⟨mf,h⟩
 ·rcases Ah h jz bD hg il pI with⟨_,a,_⟩|⟨_,a⟩|⟨_,a,_⟩
  ·exact .inl a
  ·rw[a];exact .inl (h.mono (by omega))
  ·exact .inr ⟨_,a⟩
 ·rw[h.save];exact .inr ⟨mf,h.mono (by omega)⟩
def VZ.pB(h:VZ n S m g)(jz:12<=n)(k:Int):VZ n {S with D:=S.D.pB k} m g:=by
 rcases h with h|⟨mf,h⟩
 ·exact .inl (h.pB jz k)
 ·exact .inr ⟨mf,h.pB k⟩
end
structure Rq where
 q:ic
 s:rC
def VV(x:Rq):LV:=dF x.q x.s
def Qe(x:Rq):(VV x).length=13:=rfl
structure RX(W:World)(x:Rq):Prop where
 V0:kS W [] x.q x.s
 ag:∀a∈x.q.ag,uu a
 aQ:∀t∈x.q.aQ,tB t
 la:x.q.ag.length<=140737488355328
 lt:x.q.aQ.length<=140737488355328
 li:x.q.ids.length<=140737488355328
section
variable {W:World} {L R R0 R' M:LH} {K:VK} {X:WK} {q:ic} {s:rC} {p p2 v d n pb pj:Nat} {m m2 m3:Model} {mb kb mT gK:OA} {mc kc mS gJ:Nat} {S S2:VS} {D:ay} {J:PJ} {g:Nat} {f:ay->LH}
def Ta[i:Lc (dL d) L D f](h:T W L (K (.i D.ops))):T W L (iY (some ⟨d,0,none⟩) K):=λw hs=>by
 obtain⟨k,hk,e⟩:=i.at_;exact Cv hs hk (h w hs)
def T.Zd(hb:Bk p m mb mc kb kc R0 p2 m2 mT mS gK gJ R')(h:T W (ML p m mb mc kb kc R0) X):T W (ML p2 m2 mT mS gK gJ R') X:=by
 rcases hb with⟨rfl,rfl,rfl,rfl,rfl,rfl,rfl⟩|rfl
 ·exact h
 ·exact T.drop (T.drop (T.drop h))
def G3(G:px W){sb sm:OA}{sc sw:Nat}{l:List IJ}{l2:List Rq}{qJ k0:Int}(hr:nA W [] vm 18 sb l)(hl:l.length<=maxLen)(Dg:∀x∈l,G5 W x)
 (NQ:nA W [] VV 13 sm l2)(NT:l2.length<=maxLen)(aaH:∀x∈l2,RX W x)(h:T W L (K (.bool true))):T W L (ak qJ sb l.length sc k0 sm l2.length sw K):=by
 unfold maxLen at NT;unfold ak;refine LS G ?_;refine pE ?_;refine xx ?_;refine Lo hr hl Dg λb hb=>?_;refine pE ?_;have Zz:T W L (ak.j1 K qJ k0 sb l.length sc sm l2.length sw true):=by
  unfold ak.j1;exact h
 have j5T:T W L (ak.j5 K qJ k0 sb l.length sc sm l2.length sw true):=by
  unfold ak.j5;exact Zz
 have j4T:T W L (ak.j4 K qJ k0 sb l.length sc sm l2.length sw true):=by
  unfold ak.j4;exact j5T
 have j3T:T W L (ak.j3 K qJ k0 sb l.length sc sm l2.length sw true):=by
  unfold ak.j3;exact j4T
 cases b with
 |true=>exact j3T
 |false=>
 obtain⟨SU,aav⟩:=hb rfl;refine qf ?_;by_cases uV:qJ<12
 ·rw[decide_eq_true uV];exact j3T
 rw[decide_eq_false uV];unfold ak.j3;refine qf ?_;by_cases fj:qJ>700
 ·rw[decide_eq_true fj];exact j4T
 rw[decide_eq_false fj];unfold ak.j4;refine qf ?_;by_cases qF:(l2.length:Int)>20
 ·rw[decide_eq_true qF];exact j5T
 rw[decide_eq_false qF];unfold ak.j5;refine qf ?_;refine dO (λg1=>Zz) (λg1=>?_);by_cases tw:k0>1000
 ·rw[decide_eq_true tw];exact Zz
 rw[decide_eq_false tw];clear Zz j3T j4T j5T;obtain⟨n,hn⟩:=ad1 (show 0<=qJ by omega);subst hn;have jz:12<=n:=by omega
 have bD:n<=4096:=by omega
 unfold ak.j1;refine qf ?_;refine No λd=>?_;refine vg ?_;refine Ak G (n:=n) jz bD (EE jz bD) (by decide) λv pb pj pI=>?_;have QV:VZ n (vA n) oy 0:=.inl ⟨rfl,_,_,_,EE jz bD,rfl,rfl⟩;show T W (VL v d n pb pj oy (vA n) L) _;apply ws;intros;rename_i r1;refine Zn (d:=d) ?_;refine xu ?_;show T W (Sep.pt r1 (zo oy none 0 none 0)::VL v d n pb pj oy {vA n with D:=(vA n).D.pB k0} L) _;have QV:=QV.pB jz k0;generalize ({vA n with D:=(vA n).D.pB k0}:VS)=S0 at QV⊢;refine eW (e:=33) ?_;refine eW (e:=14) ?_;refine T.perm (L:=VL v d n pb pj oy S0 (ML r1 oy none 0 none 0 L)) ?_ ((adY (l₁:=[own none 0 0 14 [],own none 0 0 33 [],Sep.pt r1 (zo oy none 0 none 0)]) (l₂:=[_,_,_,_])|>.append_right L).trans (((adY (l₁:=[own none 0 0 14 [],own none 0 0 33 []]) (l₂:=[Sep.pt r1 (zo oy none 0 none 0)])|>.append_right L).append_left [_,_,_,_])));intro w jF;refine⟨λvv w=>∃(i:Nat)(m:Model)(S:VS)(p:Nat)(mb:OA)(mc:Nat)(kb:OA)(kc:Nat),i<=l.length/\VZ n S m (3* i)/\Md.Ground m/\vv=[.bool false,.p (some ⟨d,0,none⟩),.p (some ⟨v,0,none⟩),.p (some ⟨p,0,none⟩),.l sb l.length sc,.i (l.length:Int),.i (i:Int)]/\St W w (VL v d n pb pj m S (ML p m mb mc kb kc L)),
  λvs _=>match vs with|[_,_,_,_,_,_,.int _ k]=>l.length-k.toNat|_=>0,⟨0,oy,S0,r1,none,0,none,0,ad0 _,QV,qm,rfl,jF⟩,?_⟩
 rintro b3 p3 p4 p5 rj pn qK n4 n5 w2 ⟨i,m,S,p,mb,mc,kb,kc,hi,L8,vG,e,fj⟩;cases e
 refine T.at ?_ fj;refine mX (p:=pb) (b:=bo m) (hs:=[]) λil=>?_;refine dO (λg2=>?_) (λg2=>?_)
 ·have La:i<l.length:=by omega
  have e5:=l9 i;have gx:=adQ La;have hx:=Dg _ (aee La);have hp:=aav _ (aee La);generalize l[i]=x at gx hx hp;refine jy (R:=[]) hr ⟨by omega,by omega⟩ rfl λa ha=>?_;rw[adR];refine jx (R:=[]) hr ha gx (Fl x) ?_;apply ws;intros;rename_i r2;rw[e5];refine bB (λg4=>?_) (λg4=>?_)
  ·apply ws;intros;refine T.re3 ?_;have o2:=(Ir (q:=x.q) L8 jz bD (by omega) il vG hx.ag hx.aQ).1;have o4:=Vf (q:=x.q) L8 jz bD (by omega) il vG hx.ag hx.aQ;obtain⟨s1,s2,s3⟩:=o2.short il hp.1 hp.2;refine MD G vG (L8.vok (by omega)) (L8.Wv jz bD (by omega) il vG) jz bD hx.V0 hx.ag hx.aQ (by omega) (by omega) λrb rc ab ac tb tc NX=>?_;generalize qV n m S x.q=Z at o2 o4 s1 s2 s3 NX⊢;refine we (by rfl) ?_;refine Kl (n:=13) ?_;refine T.re4 ?_;refine I0 il vG o2 s1 s2 s3 hx.V0 (by omega) (by omega) hx.ag hx.aQ λp2 mT mS gK gJ R' yd=>?_;refine T.back yd ?_;apply ws;intros;refine T.re5 ?_;exact λw5 h5=>⟨⟨i+1,Z.2.1,Z.1,p2,mT,mS,gK,gJ,La,o4,NX,rfl,h5⟩,by show l.length-((i+1:Nat):Int).toNat<l.length-(i:Int).toNat;omega⟩
  ·refine bB (λg5=>?_) (λg5=>?_)
   ·refine T.re3 ?_;have ft:=L8.vok (by omega);refine IK ft.ok ft.lh jz bD ft.aH ?_;refine lX ?_;refine T.sub (M:=VL v d n pb pj m (gO n m S).1 (ML p m mb mc kb kc L)) ?_ (by exact mZ);exact λw5 h5=>⟨⟨i+1,m,(gO n m S).1,p,mb,mc,kb,kc,La,(Mw L8 jz bD (by omega) il vG).mono (by omega),vG,rfl,h5⟩,by show l.length-((i+1:Nat):Int).toNat<l.length-(i:Int).toNat;omega⟩
   ·exact T.drop λw5 h5=>⟨⟨i+1,m,S,p,mb,mc,kb,kc,La,L8.mono (by omega),vG,rfl,h5⟩,by show l.length-((i+1:Nat):Int).toNat<l.length-(i:Int).toNat;omega⟩
 ·have gj:i=l.length:=by omega
  subst gj;have fin:∀X,T W L X->T W (VL v d n pb pj m S (ML p m mb mc kb kc L)) X:=λX hX=>T.sub hX (List.sublist_append_right [_,_,_,_,_,_,_] L);refine PO ?_;refine pE ?_;rcases L8 with hw|⟨mf,ZB⟩
  ·rw[hw.dH];exact fin _ h
  have EU:=ZB.dH;rw[EU];refine xx ?_;refine Ta (d:=d) ?_;refine lX ?_;have L8:VZ n S m (3* l.length):=.inr ⟨mf,ZB⟩;intro w6 QX;refine⟨λvv w=>∃(k:Nat),k<=l2.length/\vv=[.bool false,.p (some ⟨d,0,none⟩),.p (some ⟨v,0,none⟩),.p (some ⟨p,0,none⟩),.i S.D.ops,.l sm l2.length sw,.i (l2.length:Int),.i (k:Int)]/\St W w (VL v d n pb pj m S (ML p m mb mc kb kc L)),
   λvs _=>match vs with|[_,_,_,_,_,_,_,.int _ k]=>l2.length-k.toNat|_=>0,⟨0,ad0 _,rfl,QX⟩,?_⟩
  rintro b6 p7 p8 p9 n9 yD xy xD Zx T4 w7 ⟨k,hk,e,Ma⟩;cases e
  refine T.at ?_ Ma;have e6:=l9 k;refine dO (λg3=>?_) (λg3=>?_)
  ·have aZ:k<l2.length:=by omega
   have gx:=adQ aZ;have hx:=aaH _ (aee aZ);generalize l2[k]=x at gx hx;have yT:=hx.la;have rr:=hx.lt;have hli:=hx.li;refine jy (R:=[]) NQ ⟨by omega,by omega⟩ rfl λa ha=>?_;rw[adR];refine jx (R:=[]) NQ ha gx (Qe x) ?_;unfold VV;apply ws;intros;rename_i r3;refine dO (λg4=>?_) (λg4=>?_)
   ·exact T.drop (fin _ h)
   rw[aw (n:=(x.q.ag.length:Int)+(x.q.aQ.length:Int)) (by omega),aw (by omega)] at g4;apply ws;intros;refine T.re3 ?_;obtain⟨o2,o3⟩:=Ir (q:=x.q) L8 jz bD (by omega) il vG hx.ag hx.aQ;obtain⟨q1,q2,q3,q4,q5⟩:(qV n m S x.q).1=S/\(qV n m S x.q).2.1=m/\(qV n m S x.q).2.2.1≠8/\(db x.q=true->(qV n m S x.q).2.2.1≠0)/\(db x.q=true->gp x.q=true->(qV n m S x.q).2.2.1=9):=by
    rcases o3 with⟨a,_⟩|⟨a,_⟩|⟨_,a⟩
    ·rw[EU] at a;cases a
    ·rw[EU] at a;cases a
    ·exact a
   obtain⟨s1,s2,s3⟩:=o2.short il (by omega) (by omega);refine MD G vG (L8.vok (by omega)) (L8.Wv jz bD (by omega) il vG) jz bD hx.V0 hx.ag hx.aQ (by omega) (by omega) λrb rc ab ac tb tc NX=>?_;generalize qV n m S x.q=Z at o2 q1 q2 q3 q4 q5 s1 s2 s3 NX⊢;refine we (by rfl) ?_;apply ws;intros;rename_i r4;refine T.re2 ?_;refine I0 il vG o2 s1 s2 s3 hx.V0 (by omega) (by omega) hx.ag hx.aQ λp2 mT mS gK gJ R' yd=>?_;rw[q2] at yd⊢;refine T.Zd yd ?_;rw[q1];apply ws;intros;refine yH ?_;refine pE ?_;cases he:db x.q with
   |false=>
    unfold ak.j2;apply ws;intros;rw[e6];exact T.re1 λw5 h5=>⟨⟨k+1,aZ,rfl,h5⟩,by show l2.length-((k+1:Nat):Int).toNat<l2.length-(k:Int).toNat;omega⟩
   |true=>
    apply ws;intros;refine CT (R:=[]) hx.V0 (by omega) (by omega) ?_;refine pE ?_;unfold ak.j2;cases hw:gp x.q with
    |false=>
     apply ws;intros;rw[e6];exact T.re1 λw5 h5=>⟨⟨k+1,aZ,rfl,h5⟩,by show l2.length-((k+1:Nat):Int).toNat<l2.length-(k:Int).toNat;omega⟩
    |true=>
     apply ws;intros;rw[q5 he hw];refine dX (by decide) ?_;rw[e6];exact T.re1 λw5 h5=>⟨⟨k+1,aZ,rfl,h5⟩,by show l2.length-((k+1:Nat):Int).toNat<l2.length-(k:Int).toNat;omega⟩
  ·have ft:=ZB.ok;refine IK ft.ok ft.lh jz bD ft.aH ?_;rw[ZB.save];refine lX ?_;refine ki (by rfl) ?_;refine Ta (d:=d) ?_;refine lX ?_;rw[beq_self_eq_true];refine tL ?_;refine TK il vG ?_;rw[decide_eq_true (ze.refl m)];refine pE ?_;exact fin _ h
end
end Go.Up
namespace Go.Sep
open Go.Den Go.RowKit Go.ChangeShapes Go.WideShapes
inductive NK where
 |c(k:CK)
 |sl(ks:List CK)
def NK.is(W:World):NK->Value->Prop
 | .c k,v=>k.is v
 | .sl ks,v=>∃b n c xs,v=.slice b n c/\Ro W b n ks.length xs/\Pd ks n xs/\n<=reachBytes/\n<=c
def IM(W:World)(ks:List NK)(cs:LV)(o:Nat):Prop:=∀j k,ks[j]?=some k->∃v,cs[o+j]?=some v/\k.is W v
def KT(P:Program)(f:TypeId->Option (List NK)):Nat->List Field->Option (List NK)
 |_,[]=>some []
 |o,fd::r=>match f fd.type with
  |some a=>if fd.offset=o/\P.cellsOf fd.type=a.length then(KT P f (o+a.length) r).map (a++·) else none
  |none=>none
def nk(P:Program):Nat->TypeId->Option (List NK)
 |0,_=>none
 |n+1,t=>match P.underlying t with
  |some (.int k)=>some [.c (.i k)]
  |some .bool=>some [.c .b]
  |some (.slice e)=>match flat P n e with
   |some ks=>if P.cellsOf e=ks.length/\0<P.bytesOf e then some [.sl ks] else none
   |none=>none
  |some (.struct fs)=>KT P (nk P n) 0 fs.toList
  |_=>none
section
variable {H:Type} {enc:TypeId×Value->H} {P:Program} {w:World} {base:Nat} {spare:Nat->Bool} {held:Bool}
def CI{t e:TypeId}{N m:Nat}{cs:LV}{x:DataW H×List MemPlace}(Q:LV->Nat->Prop)(aaA:∀xs cs o,(∀j,j<N->xs[o+j]?=cs[j]?)->Q cs 0->Q xs o)
 (hQ:∀n' cs x,DataW.trod enc P w base spare held n' e cs=some x->(∀n∈x.1.weights P e,n<=reachBytes)->cs.length=N->Q cs 0)
 (ht:P.underlying t=some (.slice e))(hc:P.cellsOf e=N)(hm:DataW.trod enc P w base spare held m t cs=some x)(hw:∀n∈x.1.weights P t,n<=reachBytes):
 ∃b n c xs,cs=[.slice b n c]/\Ro w b n N xs/\(∀i,i<n->Q xs (i* N))/\n<=maxLen/\n<=c/\n* P.bytesOf e<=reachBytes:=by
 rcases Go.Deep.open_slice ht hm with⟨rfl,rfl⟩|⟨a,n,c,k,n',D,Pl,rfl,hb,hl,hmx,hk,rfl,yW⟩
 ·exact⟨none,0,0,[],rfl,⟨by simp,λ_=>rfl,λa h=>by cases h⟩,λi h=>by omega,by decide,adW _,by simp⟩
 ·have hlk:n<=k:=by rw[hk];split<;>omega
  simp only[DataW.weights,ht] at hw;have lY:∀i,i<n->∀j,j<N->∃v,w.cell? (a.add (i* N+j))=some v:=λi hi j hj=>by
   obtain⟨rz,h1,h2⟩:=yW i (by omega);obtain⟨_,h3,h4⟩:=World.cells?_some h1;rw[hc] at h3 h4;refine⟨rz[j],?_⟩;rw[<-add_add,h4 j hj];simp[h3,hj]
  have wR:∀j,j<n* N->∃v,w.cell? (a.add j)=some v:=λj hj=>by
   have F':0<N:=by
    cases hks:N with
    |zero=>rw[hks] at hj;omega
    |succ x=>omega
   have h1:j/N<n:=by rw[Nat.div_lt_iff_lt_mul F'];exact hj
   have h2:j%N<N:=Nat.mod_lt _ F';obtain⟨v,hv⟩:=lY _ h1 _ h2;refine⟨v,?_⟩;rw[<-hv];congr 2;have:=Nat.div_add_mod j N;rw[afo] at this;omega
  refine⟨some a,n,c,(afl (n* N)).map λj=>(w.cell? (a.add j)).getD (.bool false),rfl,⟨by simp,λh=>(by cases h),λa' ha' j v hv=>?_⟩,λi hi=>?_,by omega,hl,?_⟩
  ·cases ha'
   rw[aeD,Option.map_eq_some_iff] at hv;obtain⟨j',Hi,rfl⟩:=hv;obtain⟨aZ,rfl⟩:=adS.1 Hi;simp only[List.length_range] at aZ;simp only[List.getElem_range];obtain⟨v,hv⟩:=wR j aZ;rw[hv];rfl
  ·obtain⟨rz,h1,h2⟩:=yW i (by omega);obtain⟨_,h3,h4⟩:=World.cells?_some h1;rw[hc] at h3 h4;refine aaA _ rz _ (λj hj=>?_) (hQ n' rz (D i,Pl i) h2 (λx hx=>hw x (by
    simp only[ae9,aeu]
    refine .inr (.inl (tF ?_ x hx))
    exact aeA.2 ⟨i,List.mem_range.2 hi,rfl⟩)) h3)
   have aZ:i* N+j<n* N:=by
    have:(i+1)* N<=n* N:=aeC _ hi;rw[afe] at this;omega
   have hv:=h4 j hj;rw[aeD,afi aZ,aeB,<-add_add,hv];simp[h3,hj]
  ·have:=hw _ (List.mem_cons_self);simp only[aeg,List.length_range] at this;exact Nat.le_trans (aeC _ (by omega)) this
def Typed.loc{ks:List CK}{xs cs:LV}{o:Nat}(h:∀j,j<ks.length->xs[o+j]?=cs[j]?)(ht:Typed ks cs 0):Typed ks xs o:=λj k hk=>by
 obtain⟨v,hv,hi⟩:=ht j k hk;exact⟨v,by rw[h j (adS.1 hk).1,<-hv,adU],hi⟩
def IM.loc{W:World}{ks:List NK}{xs cs:LV}{o:Nat}(h:∀j,j<ks.length->xs[o+j]?=cs[j]?)(ht:IM W ks cs 0):IM W ks xs o:=λj k hk=>by
 obtain⟨v,hv,hi⟩:=ht j k hk;exact⟨v,by rw[h j (adS.1 hk).1,<-hv,adU],hi⟩
def A6{f:TypeId->Option (List NK)}{m:Nat}{cs:LV}
 (hf:∀t ks cs x,f t=some ks->DataW.trod enc P w base spare held m t cs=some x->(∀n∈x.1.weights P t,n<=reachBytes)->IM w ks cs 0):
 ∀(fs:List Field)(o:Nat)(ks:List NK)(xs:List (DataW H×List MemPlace)),KT P f o fs=some ks->
  (∀(i:Nat)(fd:Field),fs[i]?=some fd->DataW.trod enc P w base spare held m fd.type ((cs.drop fd.offset).take (P.cellsOf fd.type))=xs[i]?)->xs.length=fs.length->
  (∀n∈DataW.weightsEach P (fs.map (·.type)) (xs.map (·.1)),n<=reachBytes)->IM w ks cs o
 |[],o,ks,xs,h,_,_,_=>by
  simp only[KT,aea.injEq] at h;subst h;intro j k hj;simp at hj
 |fd::r,o,ks,[],h,hx,hl,hw=>by simp at hl
 |fd::r,o,ks,x::xs,h,hx,hl,hw=>by
  simp only[KT] at h;cases ha:f fd.type with
  |none=>simp[ha] at h
  |some a=>
   simp only[ha] at h;split at h
   ·rename_i hc;cases hb:KT P f (o+a.length) r with
    |none=>simp[hb] at h
    |some b=>
     simp only[hb,aeB,aea.injEq] at h;subst h;simp only[aer,DataW.weightsEach,aeu] at hw;have h1:=hf fd.type a _ x ha (by have:=hx 0 fd rfl;simpa using this) (λn hn=>hw n (.inl hn));have h2:=A6 hf r (o+a.length) b xs hb (λi g hg=>by have:=hx (i+1) g (by simpa using hg);simpa using this) (by simpa using hl) (λn hn=>hw n (.inr hn));intro j k hj;by_cases UD:j<a.length
     ·rw[aec UD] at hj;obtain⟨v,hv,hk⟩:=h1 j k hj;refine⟨v,?_,hk⟩;rw[hc.1,hc.2,adU,List.getElem?_take_of_lt UD,ae6] at hv;exact hv
     ·rw[aeo (by omega)] at hj;obtain⟨v,hv,hk⟩:=h2 (j-a.length) k hj;refine⟨v,?_,hk⟩;rw[show o+j=o+a.length+(j-a.length) from by omega];exact hv
   ·cases h
def FT:∀(f:Nat)(m:Nat)(t:TypeId)(ks:List NK)(cs:LV)(x:DataW H×List MemPlace),nk P f t=some ks->DataW.trod enc P w base spare held m t cs=some x->
 (∀n∈x.1.weights P t,n<=reachBytes)->IM w ks cs 0
 |0,_,_,_,_,_,h,_,_=>by simp[nk] at h
 |f+1,m,t,ks,cs,x,h,hx,hw=>by
  have one:∀(a:NK) v,a.is w v->IM w [a] [v] 0:=λa v ha j k hj=>by
   cases j with
   |zero=>simp at hj;subst hj;exact⟨_,rfl,ha⟩
   |succ j=>simp at hj
  unfold nk at h;split at h
  ·rename_i k ht;cases h
   obtain⟨n,rfl,rfl,hwf⟩:=DataW.trod_int ht hx;exact one _ _ ⟨n,rfl,hwf⟩
  ·rename_i ht;cases h
   obtain⟨n,rfl,rfl⟩:=DataW.trod_bool ht hx;exact one _ _ ⟨n,rfl⟩
  ·rename_i e ht;split at h
   ·rename_i ks' hk;split at h
    ·rename_i hc;cases h
     obtain⟨b,n,c,xs,rfl,h1,h2,h3,h4,h5⟩:=CI (Typed ks') (λ_ _ _ a b=>b.loc a) (λn' cs x h1 h2 _=>Br f n' e ks' cs x hk h1 h2) ht hc.1 hx hw;exact one _ _ ⟨b,n,c,xs,rfl,h1,h2,Nat.le_trans (Nat.le_mul_of_pos_right n hc.2) h5,h4⟩
    ·cases h
   ·cases h
  ·rename_i fs ht;obtain⟨xs,n,rfl,rfl,hl,hlen,hf⟩:=DataW.trod_struct ht hx;refine A6 (m:=n) (λt ks cs x h1 h2 h3=>FT f n t ks cs x h1 h2 h3) fs.toList 0 ks xs h (λi fd hi=>hf i fd (by simpa using hi)) (by simpa using hlen) (λn hn=>hw n ?_);simp only[DataW.weights,ht];exact hn
  ·cases h
def C2{t e:TypeId}{f:Nat}{ks:List NK}{v:Value}{r:Reach}{b0:Nat}{d:DataW H}{ps:List MemPlace}(ht:P.underlying t=some (.slice e))(he:nk P f e=some ks)(hc:P.cellsOf e=ks.length)
 (xZ:Value.okWide P w r b0 t v)(hd:DataW.Trod enc P w base spare held t v d ps)(hw:∀n∈d.weights P t,n<=reachBytes):
 ∃b n c xs,v=.slice b n c/\Ro w b n ks.length xs/\(∀i,i<n->IM w ks xs (i* ks.length))/\n<=maxLen/\n<=c:=by
 obtain⟨b,n,c,rfl⟩:=okWide_slice ht xZ;obtain⟨m,hm⟩:=hd;obtain⟨b',n',c',xs,h0,h1⟩:=CI (IM w ks) (λ_ _ _ a b=>b.loc a) (λn' cs x h1 h2 _=>FT f n' e ks cs x he h1 h2) ht hc hm hw;simp[Value.cells] at h0;obtain⟨rfl,rfl,rfl⟩:=h0;exact⟨b,n,c,xs,rfl,h1.1,h1.2.1,h1.2.2.1,h1.2.2.2.1⟩
end
end Go.Sep
namespace Go.Up
open Go.Sep Go.Den Go.RowKit Go.Prog Go.Md Go.bu
abbrev kU:CK:=.i .u64
abbrev kI:CK:=.i .i64
def RU:List CK:=[kU,kU,kU,kU,kU,kU,kU,kU,kU,kU,kI,kI,kI,kI]
def QE:List CK:=[kU,kU,kU,kU,kU,kU,kU,kU,kU,kU,kI,kI,kI,kI,kI,kI]
def HI:List NK:=[.c kI,.sl RU,.sl QE,.c kI,.sl [kU,kU],.c kU,.c kU,.c kI,.c kI,.c .b,.c .b,.c .b,.c kI]
def Kp:List NK:=.c kI::(HI++[.c kU,.c kI,.c kI,.c kI])
def Vh{xs:LV}{o j:Nat}{u v:Value}(h0:xs[o+j]?=some u)(h1:xs[o+(j+1)]?=some v)(hu:kU.is u)(hv:kU.is v):∃n,n<aK/\xs[o+j]?=(nm n)[0]?/\xs[o+(j+1)]?=(nm n)[1]?:=by
 obtain⟨a,rfl,ha⟩:=hu;obtain⟨b,rfl,hb⟩:=hv;simp[Lit.wf,IntKind.min,IntKind.max,IntKind.signed,IntKind.bits] at ha hb;obtain⟨x,rfl⟩:=ad1 (show 0<=a by omega);obtain⟨y,rfl⟩:=ad1 (show 0<=b by omega);refine⟨x* 18446744073709551616+y,by unfold aK;omega,?_,?_⟩
 ·rw[h0];show _=some (Value.int .u64 (((x* 18446744073709551616+y)/18446744073709551616:Nat):Int));rw[show(x* 18446744073709551616+y)/18446744073709551616=x from by omega]
 ·rw[h1];show _=some (Value.int .u64 (((x* 18446744073709551616+y)%18446744073709551616:Nat):Int));rw[show(x* 18446744073709551616+y)%18446744073709551616=y from by omega]
def acR{v:Value}(hv:kI.is v):∃n,v=.i n/\re n:=by
 obtain⟨n,rfl,hn⟩:=hv;refine⟨n,rfl,?_⟩;simp[Lit.wf,IntKind.min,IntKind.max,IntKind.signed,IntKind.bits] at hn;unfold re;omega
section
variable {xs:LV} {o j:Nat}
def Bo{ks:List CK}(h:Typed ks xs o)(a:ks[j]?=some kU)(b:ks[j+1]?=some kU):∃n,n<aK/\xs[o+j]?=(nm n)[0]?/\xs[o+(j+1)]?=(nm n)[1]?:=by
 obtain⟨u,hu,h1⟩:=h _ _ a;obtain⟨v,hv,h2⟩:=h _ _ b;exact Vh hu hv h1 h2
def Cp{ks:List CK}(h:Typed ks xs o)(a:ks[j]?=some kI):∃n,xs[o+j]?=some (.i n)/\re n:=by
 obtain⟨v,hv,h1⟩:=h _ _ a;obtain⟨n,rfl,hn⟩:=acR h1;exact⟨n,hv,hn⟩
def Yg(h:Typed RU xs o):∃a,uu a/\∀j,j<RU.length->xs[o+j]?=(ao a)[j]?:=by
 obtain⟨n0,b0,p0,q0⟩:=Bo (j:=0) h rfl rfl;obtain⟨n1,b1,p1,q1⟩:=Bo (j:=2) h rfl rfl;obtain⟨n2,b2,p2,q2⟩:=Bo (j:=4) h rfl rfl;obtain⟨n3,b3,p3,q3⟩:=Bo (j:=6) h rfl rfl;obtain⟨n4,b4,p4,q4⟩:=Bo (j:=8) h rfl rfl;obtain⟨i0,r0,s0⟩:=Cp (j:=10) h rfl;obtain⟨i1,r1,s1⟩:=Cp (j:=11) h rfl;obtain⟨i2,r2,s2⟩:=Cp (j:=12) h rfl;obtain⟨i3,r3,s3⟩:=Cp (j:=13) h rfl;refine⟨⟨n0,n1,n2,n3,n4,i0,i1,i2,i3⟩,⟨b0,b1,b2,b3,b4,s0,s1,s2,s3⟩,λj hj=>?_⟩
 match j,hj with
 |0,_=>exact p0
 |1,_=>exact q0
 |2,_=>exact p1
 |3,_=>exact q1
 |4,_=>exact p2
 |5,_=>exact q2
 |6,_=>exact p3
 |7,_=>exact q3
 |8,_=>exact p4
 |9,_=>exact q4
 |10,_=>exact r0
 |11,_=>exact r1
 |12,_=>exact r2
 |13,_=>exact r3
 |j+14,h=>exact absurd h (by simp[RU])
def Yf(h:Typed QE xs o):∃a,tB a/\∀j,j<QE.length->xs[o+j]?=(ai a)[j]?:=by
 obtain⟨n0,b0,p0,q0⟩:=Bo (j:=0) h rfl rfl;obtain⟨n1,b1,p1,q1⟩:=Bo (j:=2) h rfl rfl;obtain⟨n2,b2,p2,q2⟩:=Bo (j:=4) h rfl rfl;obtain⟨n3,b3,p3,q3⟩:=Bo (j:=6) h rfl rfl;obtain⟨n4,b4,p4,q4⟩:=Bo (j:=8) h rfl rfl;obtain⟨i0,r0,s0⟩:=Cp (j:=10) h rfl;obtain⟨i1,r1,s1⟩:=Cp (j:=11) h rfl;obtain⟨i2,r2,s2⟩:=Cp (j:=12) h rfl;obtain⟨i3,r3,s3⟩:=Cp (j:=13) h rfl;obtain⟨i4,r4,s4⟩:=Cp (j:=14) h rfl;obtain⟨i5,r5,s5⟩:=Cp (j:=15) h rfl;refine⟨⟨n0,n1,n2,n3,n4,i0,i1,i2,i3,i4,i5⟩,⟨b0,b1,b2,b3,b4,s0,s1,s2,s3,s4,s5⟩,λj hj=>?_⟩
 match j,hj with
 |0,_=>exact p0
 |1,_=>exact q0
 |2,_=>exact p1
 |3,_=>exact q1
 |4,_=>exact p2
 |5,_=>exact q2
 |6,_=>exact p3
 |7,_=>exact q3
 |8,_=>exact p4
 |9,_=>exact q4
 |10,_=>exact r0
 |11,_=>exact r1
 |12,_=>exact r2
 |13,_=>exact r3
 |14,_=>exact r4
 |15,_=>exact r5
 |j+16,h=>exact absurd h (by simp[QE])
def gNm(h:Typed [kU,kU] xs o):∃n,n<aK/\∀j,j<2->xs[o+j]?=(nm n)[j]?:=by
 obtain⟨n,b,p,q⟩:=Bo (j:=0) h rfl rfl;refine⟨n,b,λj hj=>?_⟩
 match j,hj with
 |0,_=>exact p
 |1,_=>exact q
end
def Nc{α:Type}{W:World}{b:OA}{n e:Nat}{xs:LV}{g:α->LV}{l:List α}(hr:Ro W b n e xs)(hn:l.length=n)(hg:∀a,(g a).length=e)
 (hx:∀i a,l[i]?=some a->∀j,j<e->xs[i* e+j]?=(g a)[j]?):nA W [] g e b l:=λw hw i x hi=>by
 have aZ:=(adS.1 hi).1;cases b with
 |none=>have:=hr.2.1 rfl;omega
 |some a=>
  refine⟨a,rfl,λj v hv=>?_⟩;have hj:j<e:=by rw[<-hg x];exact(adS.1 hv).1
  rw[add_add];exact hr.cell rfl hw (by rw[hx i x hi j hj];exact hv)
def Gs{α:Type}{g:α->LV}{e:Nat}(hg:∀a,(g a).length=e):∀{l:List α} {i:Nat} {a:α} {j:Nat},l[i]?=some a->j<e->(l.flatMap g)[i* e+j]?=(g a)[j]?
 |[],i,a,j,h,_=>by simp at h
 |x::l,0,a,j,h,hj=>by
  simp at h;subst h;rw[aeE,Nat.zero_mul,adU,aec (by rw[hg];exact hj)]
 |x::l,i+1,a,j,h,hj=>by
  rw[ad7] at h;rw[aeE,afe,Nat.one_mul,aeo (by rw[hg];omega),hg,show i* e+e+j-e=i* e+j from by omega];exact Gs hg h hj
def uz{α:Type}{W:World}{b:OA}{n e:Nat}{xs:LV}{g:α->LV}{ks:List CK}(q:α->Prop)(hk:ks.length=e)(hr:Ro W b n e xs)(he:Pd ks n xs)(hg:∀a,(g a).length=e)
 (dec:∀o,Typed ks xs o->∃a,q a/\∀j,j<ks.length->xs[o+j]?=(g a)[j]?):∃l:List α,l.length=n/\nA W [] g e b l/\∀a∈l,q a:=by
 subst hk;obtain⟨l,h1,h2,h3⟩:=Il g q hg dec he hr.1;exact⟨l,h1,Nc hr h1 hg λi a hi j hj=>by rw[h2];exact Gs hg hi hj,h3⟩
def aa6{W:World}{xs:LV}{o:Nat}(h:IM W Kp xs o):∃x:IJ,G5 W x/\∀j,j<18->xs[o+j]?=(vm x)[j]?:=by
 have gi:∀j,Kp[j]?=some (.c kI)->∃n,xs[o+j]?=some (.i n):=λj hj=>by
  obtain⟨v,hv,n,rfl,-⟩:=h _ _ hj;exact⟨n,hv⟩
 have gb:∀j,Kp[j]?=some (.c .b)->∃n,xs[o+j]?=some (.bool n):=λj hj=>by
  obtain⟨v,hv,n,rfl⟩:=h _ _ hj;exact⟨n,hv⟩
 obtain⟨kind,h0⟩:=gi 0 rfl;obtain⟨op,h1⟩:=gi 1 rfl;obtain⟨now,h4⟩:=gi 4 rfl;obtain⟨v2,h2,b2,n2,c2,x2,rfl,r2,e2,m2,Vk⟩:=h 2 _ rfl;obtain⟨v3,h3,b3,n3,c3,x3,rfl,r3,e3,m3,cc3⟩:=h 3 _ rfl;obtain⟨v5,h5,b5,n5,c5,x5,rfl,r5,e5,m5,cc5⟩:=h 5 _ rfl;obtain⟨u6,h6,i6⟩:=h 6 _ rfl;obtain⟨u7,h7,i7⟩:=h 7 _ rfl;obtain⟨fa,ba,p6,p7⟩:=Vh (j:=6) h6 h7 i6 i7;obtain⟨fE,h8⟩:=gi 8 rfl;obtain⟨rv,h9⟩:=gi 9 rfl;obtain⟨fd,Rc⟩:=gb 10 rfl;obtain⟨fc,h11⟩:=gb 11 rfl;obtain⟨fl,jz⟩:=gb 12 rfl;obtain⟨fm,h13⟩:=gi 13 rfl;obtain⟨v14,h14,mask,rfl,-⟩:=h 14 _ rfl;obtain⟨torn,h15⟩:=gi 15 rfl;obtain⟨cut,ZX⟩:=gi 16 rfl;obtain⟨n,h17⟩:=gi 17 rfl;obtain⟨la,a1,a2,a3⟩:=uz uu rfl r2 e2 (g:=ao) (λ_=>rfl) λo h=>Yg h;obtain⟨lt,t1,t2,t3⟩:=uz tB rfl r3 e3 (g:=ai) (λ_=>rfl) λo h=>Yf h;obtain⟨li,i1,i2,-⟩:=uz (λ_=>True) rfl r5 e5 (g:=nm) (λ_=>rfl) λo h=>by
  obtain⟨n,_,hn⟩:=gNm h;exact⟨n,trivial,hn⟩
 have hm:reachBytes<=140737488355328:=by decide
 refine⟨⟨kind,⟨op,la,lt,now,li,fa,fE,rv,fd,fc,fl,fm⟩,⟨b2,c2,b3,c3,b5,c5⟩,mask,torn,cut,n⟩,⟨⟨a2,t2,i2,?_,?_,?_⟩,a3,t3,?_,?_⟩,λj hj=>?_⟩
 ·show la.length<=c2;omega
 ·show lt.length<=c3;omega
 ·show li.length<=c5;omega
 ·show la.length<=_;omega
 ·show lt.length<=_;omega
 ·subst a1 t1 i1
  match j,hj with
  |0,_=>exact h0
  |1,_=>exact h1
  |2,_=>exact h2
  |3,_=>exact h3
  |4,_=>exact h4
  |5,_=>exact h5
  |6,_=>exact p6
  |7,_=>exact p7
  |8,_=>exact h8
  |9,_=>exact h9
  |10,_=>exact Rc
  |11,_=>exact h11
  |12,_=>exact jz
  |13,_=>exact h13
  |14,_=>exact h14
  |15,_=>exact h15
  |16,_=>exact ZX
  |17,_=>exact h17
  |j+18,h=>omega
def aae{W:World}{b:OA}{n:Nat}{xs:LV}(hr:Ro W b n 18 xs)(he:∀i,i<n->IM W Kp xs (i* 18)):∃l:List IJ,l.length=n/\nA W [] vm 18 b l/\∀x∈l,G5 W x:=by
 have key:∀m,m<=n->∃l:List IJ,l.length=m/\(∀i x,l[i]?=some x->∀j,j<18->xs[i* 18+j]?=(vm x)[j]?)/\∀x∈l,G5 W x:=by
  intro m
  induction m with
  |zero=>exact λ_=>⟨[],rfl,λi x h=>by simp at h,by simp⟩
  |succ m ih=>
   intro hm;obtain⟨l,h1,h2,h3⟩:=ih (by omega);obtain⟨x,hx,hc⟩:=aa6 (he m (by omega));refine⟨l++[x],by simp[h1],λi y hi=>?_,λy hy=>?_⟩
   ·by_cases aZ:i<l.length
    ·rw[aec aZ] at hi;exact h2 i y hi
    ·rw[aeo (by omega)] at hi;have e:i=m:=by
      have:=(adS.1 hi).1;simp at this;omega
     subst e;rw[h1,ae8] at hi;cases hi
     exact hc
   ·rcases aeu.1 hy with h|h
    ·exact h3 y h
    ·simp at h;subst h;exact hx
 obtain⟨l,h1,h2,h3⟩:=key n (adW n);exact⟨l,h1,Nc hr h1 (λ_=>rfl) h2,h3⟩
def gRq{W:World}{xs:LV}{o:Nat}(h:IM W HI xs o):∃x:Rq,RX W x/\∀j,j<13->xs[o+j]?=(VV x)[j]?:=by
 have gi:∀j,HI[j]?=some (.c kI)->∃n,xs[o+j]?=some (.i n):=λj hj=>by
  obtain⟨v,hv,n,rfl,-⟩:=h _ _ hj;exact⟨n,hv⟩
 have gb:∀j,HI[j]?=some (.c .b)->∃n,xs[o+j]?=some (.bool n):=λj hj=>by
  obtain⟨v,hv,n,rfl⟩:=h _ _ hj;exact⟨n,hv⟩
 obtain⟨op,h1⟩:=gi 0 rfl;obtain⟨now,h4⟩:=gi 3 rfl;obtain⟨v2,h2,b2,n2,c2,x2,rfl,r2,e2,m2,Vk⟩:=h 1 _ rfl;obtain⟨v3,h3,b3,n3,c3,x3,rfl,r3,e3,m3,cc3⟩:=h 2 _ rfl;obtain⟨v5,h5,b5,n5,c5,x5,rfl,r5,e5,m5,cc5⟩:=h 4 _ rfl;obtain⟨u6,h6,i6⟩:=h 5 _ rfl;obtain⟨u7,h7,i7⟩:=h 6 _ rfl;obtain⟨fa,ba,p6,p7⟩:=Vh (j:=5) h6 h7 i6 i7;obtain⟨fE,h8⟩:=gi 7 rfl;obtain⟨rv,h9⟩:=gi 8 rfl;obtain⟨fd,Rc⟩:=gb 9 rfl;obtain⟨fc,h11⟩:=gb 10 rfl;obtain⟨fl,jz⟩:=gb 11 rfl;obtain⟨fm,h13⟩:=gi 12 rfl;obtain⟨la,a1,a2,a3⟩:=uz uu rfl r2 e2 (g:=ao) (λ_=>rfl) λo h=>Yg h;obtain⟨lt,t1,t2,t3⟩:=uz tB rfl r3 e3 (g:=ai) (λ_=>rfl) λo h=>Yf h;obtain⟨li,i1,i2,-⟩:=uz (λ_=>True) rfl r5 e5 (g:=nm) (λ_=>rfl) λo h=>by
  obtain⟨n,_,hn⟩:=gNm h;exact⟨n,trivial,hn⟩
 have hm:reachBytes<=140737488355328:=by decide
 refine⟨⟨⟨op,la,lt,now,li,fa,fE,rv,fd,fc,fl,fm⟩,⟨b2,c2,b3,c3,b5,c5⟩⟩,⟨⟨a2,t2,i2,?_,?_,?_⟩,a3,t3,?_,?_,?_⟩,λj hj=>?_⟩
 ·show la.length<=c2;omega
 ·show lt.length<=c3;omega
 ·show li.length<=c5;omega
 ·show la.length<=_;omega
 ·show lt.length<=_;omega
 ·show li.length<=_;omega
 ·subst a1 t1 i1
  match j,hj with
  |0,_=>exact h1
  |1,_=>exact h2
  |2,_=>exact h3
  |3,_=>exact h4
  |4,_=>exact h5
  |5,_=>exact p6
  |6,_=>exact p7
  |7,_=>exact h8
  |8,_=>exact h9
  |9,_=>exact Rc
  |10,_=>exact h11
  |11,_=>exact jz
  |12,_=>exact h13
  |j+13,h=>omega
def rqs{W:World}{b:OA}{n:Nat}{xs:LV}(hr:Ro W b n 13 xs)(he:∀i,i<n->IM W HI xs (i* 13)):∃l:List Rq,l.length=n/\nA W [] VV 13 b l/\∀x∈l,RX W x:=by
 have key:∀m,m<=n->∃l:List Rq,l.length=m/\(∀i x,l[i]?=some x->∀j,j<13->xs[i* 13+j]?=(VV x)[j]?)/\∀x∈l,RX W x:=by
  intro m
  induction m with
  |zero=>exact λ_=>⟨[],rfl,λi x h=>by simp at h,by simp⟩
  |succ m ih=>
   intro hm;obtain⟨l,h1,h2,h3⟩:=ih (by omega);obtain⟨x,hx,hc⟩:=gRq (he m (by omega));refine⟨l++[x],by simp[h1],λi y hi=>?_,λy hy=>?_⟩
   ·by_cases aZ:i<l.length
    ·rw[aec aZ] at hi;exact h2 i y hi
    ·rw[aeo (by omega)] at hi;have e:i=m:=by
      have:=(adS.1 hi).1;simp at this;omega
     subst e;rw[h1,ae8] at hi;cases hi
     exact hc
   ·rcases aeu.1 hy with h|h
    ·exact h3 y h
    ·simp at h;subst h;exact hx
 obtain⟨l,h1,h2,h3⟩:=key n (adW n);exact⟨l,h1,Nc hr h1 (λ_=>rfl) h2,h3⟩
end Go.Up
namespace Go.Den
inductive Kd
 |i(k:IntKind)|b|s|p|q|l|g|v
abbrev Fu:List Kd->Type
 |[]=>VK->WK
 | .i _::r=>Int->Fu r
 | .b::r=>Bool->Fu r
 | .s::r=>BA->Fu r
 | .p::r=>OA->Fu r
 | .q::r=>Addr->Fu r
 | .l::r=>OA->Nat->Nat->Fu r
 | .g::r=>LV->Fu r
 | .v::r=>Value->Fu r
abbrev Kd.n:Kd:=.i .i64
abbrev vi:Value:=.i 0
abbrev vu:Value:=.u 0
abbrev vp:Value:=.p none
abbrev vq:Value:=.p (some ⟨0,0,none⟩)
abbrev vl:Value:=.l none 0 0
abbrev vb:Value:=.bool false
def U:(k:List Kd)->Fu k->WP
 |[],F=>λa K=>match a with|[]=>F K|_=>no
 | .i t::r,F=>λa K=>match a with| .int t' n::a=>if t'=t then U r (F n) a K else no|_=>no
 | .b::r,F=>λa K=>match a with| .bool x::a=>U r (F x) a K|_=>no
 | .s::r,F=>λa K=>match a with| .string x::a=>U r (F x) a K|_=>no
 | .p::r,F=>λa K=>match a with| .pointer x::a=>U r (F x) a K|_=>no
 | .q::r,F=>λa K=>match a with| .pointer (some x)::a=>U r (F x) a K|_=>no
 | .l::r,F=>λa K=>match a with| .slice x n c::a=>U r (F x n c) a K|_=>no
 | .g::r,F=>λa K=>match a with| .agg ⟨x⟩::a=>U r (F x) a K|_=>no
 | .v::r,F=>λa K=>match a with|x::a=>U r (F x) a K|_=>no
def cur:(k:List Kd)->WP->Fu k
 |[],B=>B []
 | .i t::r,B=>λn=>cur r λa=>B (.int t n::a)
 | .b::r,B=>λx=>cur r λa=>B (.bool x::a)
 | .s::r,B=>λx=>cur r λa=>B (.string x::a)
 | .p::r,B=>λx=>cur r λa=>B (.p x::a)
 | .q::r,B=>λx=>cur r λa=>B (.p (some x)::a)
 | .l::r,B=>λx n c=>cur r λa=>B (.l x n c::a)
 | .g::r,B=>λx=>cur r λa=>B (.agg ⟨x⟩::a)
 | .v::r,B=>λx=>cur r λa=>B (x::a)
def xn:∀(k:List Kd)(B:WP) {a:LV} {K:VK} {w:World},U k (cur k B) a K w->a.length=k.length/\B a K w
 |[],B,a,K,w,h=>by
  unfold U at h;split at h
  ·exact⟨rfl,h⟩
  ·exact h.elim
 | .i t::r,B,a,K,w,h=>by
   unfold U at h;split at h
   ·split at h
    ·rename_i e;subst e;obtain⟨h1,h2⟩:=xn r _ h;exact⟨by rw[ad8,h1];rfl,h2⟩
    ·exact h.elim
   ·exact h.elim
 | .b::r,B,a,K,w,h=>by
   unfold U at h;split at h
   ·obtain⟨h1,h2⟩:=xn r _ h;exact⟨by rw[ad8,h1];rfl,h2⟩
   ·exact h.elim
 | .s::r,B,a,K,w,h=>by
   unfold U at h;split at h
   ·obtain⟨h1,h2⟩:=xn r _ h;exact⟨by rw[ad8,h1];rfl,h2⟩
   ·exact h.elim
 | .p::r,B,a,K,w,h=>by
   unfold U at h;split at h
   ·obtain⟨h1,h2⟩:=xn r _ h;exact⟨by rw[ad8,h1];rfl,h2⟩
   ·exact h.elim
 | .q::r,B,a,K,w,h=>by
   unfold U at h;split at h
   ·obtain⟨h1,h2⟩:=xn r _ h;exact⟨by rw[ad8,h1];rfl,h2⟩
   ·exact h.elim
 | .l::r,B,a,K,w,h=>by
   unfold U at h;split at h
   ·obtain⟨h1,h2⟩:=xn r _ h;exact⟨by rw[ad8,h1];rfl,h2⟩
   ·exact h.elim
 | .g::r,B,a,K,w,h=>by
   unfold U at h;split at h
   ·obtain⟨h1,h2⟩:=xn r _ h;exact⟨by rw[ad8,h1];rfl,h2⟩
   ·exact h.elim
 | .v::r,B,a,K,w,h=>by
   unfold U at h;split at h
   ·obtain⟨h1,h2⟩:=xn r _ h;exact⟨by rw[ad8,h1];rfl,h2⟩
   ·exact h.elim
def yr(FF:Fence):Prop:=FF=Fence.wide\/∃l,FF=Fence.wide.inRound l
def yr.fn{FF:Fence}(h:yr FF)(f:FuncId):FF.fn f:=by rcases h with rfl|⟨l,rfl⟩<;>exact trivial
def yr.depth{FF:Fence}(h:yr FF):FF.depth=none:=by rcases h with rfl|⟨l,rfl⟩<;>rfl
def yr.calls{FF:Fence}(h:yr FF){n:Nat}{P:Program}{f:FuncId}{args:Array Value}{w:World}{R:Ending->World->Prop}(hc:Calls P f args w R):CallsIn FF n P f args w R:=by
 rcases h with rfl|⟨l,rfl⟩
 ·exact callsIn_wide.2 hc
 ·exact CallsIn.inRound l (callsIn_wide.2 hc)
def S3(F:Fn)(ds:List Deferred)(e:Env)(a:Act):Prop:=S2 F e {a with defers:=[]}/\a.defers=ds
def QI(F:Fn)(ds:List Deferred)(Q:Exit->Env->WK):Exit->Act->World->Prop:=λex a w=>(∃e,S3 F ds e a/\Q ex e w)/\∀c,ex≠.panic c
def S3.get{F:Fn}{ds:List Deferred}{e:Env}{a:Act}(h:S3 F ds e a){t:Nat}{v:Value}(hl:lk e t=some v):a.tmps[t]?=some v:=h.1.1.get t v hl
def S3.eval{F:Fn}{ds:List Deferred}{e:Env}{a:Act}(h:S3 F ds e a){x:Operand}{v:Value}(hx:ev e x=some v):a.eval x=v:=h.1.1.eval hx
def S3.nil{F:Fn}{ds:List Deferred}{e:Env}{a:Act}(h:S3 F ds e a):S3 F ds [] a:=⟨⟨⟨h.1.1.size,rfl,λt v hl=>by simp[lk] at hl⟩,h.1.2⟩,h.2⟩
def S3.cons{F:Fn}{ds:List Deferred}{e:Env}{a:Act}{t:Nat}{v:Value}(hv:a.tmps[t]?=some v)(h:S3 F ds e a):S3 F ds ((t,v)::e) a:=
 ⟨⟨⟨h.1.1.size,rfl,λs u hl=>by
   rw[sG] at hl
   split at hl
   ·rename_i HZ;subst HZ;cases hl;exact hv
   ·exact h.1.1.get s u hl⟩,h.1.2⟩,h.2⟩
def S3.start{F:Fn}{a:Act}(hC:F.C=[])(hn:a.tmps.size=F.n):S3 F a.defers [] a:=
 ⟨⟨⟨hn,rfl,λt v hl=>by simp[lk] at hl⟩,⟨hn,rfl,λt v hl=>by rw[hC] at hl;simp[lk] at hl⟩⟩,rfl⟩
def Nl{F:Fn}{ds:List Deferred}{w:World}{e:Env}{a:Act}{d:Option Tmp}{v:Value}{K:Env->WK}(hs:S3 F ds e a)(h:pt F.n F.C e d v K w):∃e',S3 F ds e' (a.put d v)/\K e' w:=by
 obtain⟨e',h1,h2⟩:=qj (a:={a with defers:=[]}) hs.1 h;refine⟨e',⟨?_,?_⟩,h2⟩
 ·cases d<;>exact h1
 ·cases d<;>exact hs.2
def S3.put{F:Fn}{ds:List Deferred}{e:Env}{a:Act}{t:Tmp}{v:Value}(w:World)(hs:S3 F ds e a)(ht:(Nat.blt t F.n&&cover F.C t)=true):S3 F ds ((t,v)::e) (a.put (some t) v):=by
 obtain⟨e',h1,h2⟩:=Nl (d:=some t) (v:=v) (K:=λe' _=>e'=(t,v)::e) (w:=w) hs (by simp only[pt,ht,cond_true]);subst h2;exact h1
def N8{F:Fn}{ds:List Deferred}{w:World}{e:Env}{a:Act}{ops:Array Oper}{o:Oper}{run skip:Env->WK}{X:Prop}(hs:S3 F ds e a)(h:guarded ops o e run skip w)
 (hr:∀e',S3 F ds e' a->Region.wanted o (yielded ops a.tmps)=true->run e' w->X)
 (hk:∀e',S3 F ds e' a->Region.wanted o (yielded ops a.tmps)=false->skip e' w->X):X:=
 oO (a:={a with defers:=[]}) hs.1 h (λe' h1=>hr e' ⟨h1,hs.2⟩) (λe' h1=>hk e' ⟨h1,hs.2⟩)
def S3.zip{F:Fn}{ds:List Deferred}{e:Env}{a:Act}(hs:S3 F ds e a){l:List (Nat×Value)}{vs:LV}(h:rI e l=some vs):S3 F ds (vW l vs F.C) a:=⟨S2.zip (a:={a with defers:=[]}) hs.1 h,hs.2⟩
section
variable {F:Fn} {ds:List Deferred} {P:Program} {w:World} {e:Env} {a:Act} {ops:Array Oper} {FF:Fence} {n:Nat}
def To.QC{o:Oper}{K:VK}(h:To P (execOp a.eval o) w K):∀c,o.op≠.defer c:=by
 intro c hc;have key:∀r,(execOp a.eval o).run P w=.ok r w->True:=λ_ _=>trivial;have hx:execOp a.eval o=(do pure (.defer (<-resolve a.eval c o.type))):=by simp only[execOp,hc]
 rw[hx] at h;unfold To at h;simp only[Sem.run_bind] at h;cases hr:(resolve a.eval c o.type).run P w with
 |ok d w1=>simp[hr,Result.andThen,Sem.run_pure] at h
 |halt x w1=>simp[hr,Result.andThen] at h
def Ho(hW:yr FF){o:Oper}{K:VK}{next:Act->World->Prop}{Q:Exit->Act->World->Prop}(h:To P (execOp a.eval o) w K)(hk:∀v w',K v w'->next (a.put o.dst v) w'):o.wpIn FF n P a w next Q:=by
 refine⟨λf _=>hW.fn f,?_⟩;rw[Oper.semAt_eq _ _ _ h.QC];rcases h with⟨v,w',hr,h⟩|⟨w',hr,h⟩|⟨g,args,w',hr,h⟩
 ·rw[hr];exact hk _ _ h
 ·rw[hr];exact hk _ _ h
 ·rw[hr];refine⟨λhd=>(by rw[hW.depth] at hd;cases hd),?_⟩;refine CallsIn.mono (hW.calls h) λe Wu ⟨v,he,hv⟩=>?_;subst he;exact hk _ _ hv
def xC(hW:yr FF)(hF:Ok F){Q:Exit->Act->World->Prop}{K:Env->WK}{tail:List Nat}(hK:∀e a w,S3 F ds e a->K e w->wpOpsIn FF n F.P ops Q tail a w):
 ∀(l:List Nat)(os:List Oper)(e:Env)(a:Act)(w:World),l.length=os.length->(∀k i:Nat,l[k]?=some i->ops[i]?=os[k]?)->S3 F ds e a->tP F ops os K e w->wpOpsIn FF n F.P ops Q (l++tail) a w
 |[],[],e,a,w,_,_,hs,h=>hK e a w hs h
 |[],_::_,_,_,_,hl,_,_,_=>by simp at hl
 |_::_,[],_,_,_,hl,_,_,_=>by simp at hl
 |i::l,o::os,e,a,w,hl,hi,hs,h=>by
  have hio:ops[i]?=some o:=hi 0 i rfl;have rest:=λe a w=>xC hW hF hK l os e a w (by simpa using hl) (λ(k j:Nat)(hk:l[k]?=some j)=>hi (k+1) j (by simpa using hk));rw[ae3,wpOpsIn_cons];unfold wpOpIn;simp only[hio];refine N8 (F:=F) hs (u2 h) (λe' cT hw hr=>?_) (λe' cT hw hr=>?_)
  ·rw[if_pos hw];refine Ho (a:=a) hW (AX (a:={a with defers:=[]}) hF.eqs hF.CE cT.1.1 hr) λv w' hv=>?_;obtain⟨Ol,tz,hk⟩:=Nl cT hv;exact rest _ _ _ tz hk
  ·rw[if_neg (by rw[hw];exact aej)];refine⟨λf _=>hW.fn f,?_⟩;obtain⟨Ol,tz,hk⟩:=Nl cT hr;exact rest _ _ _ tz hk
def CO(hW:yr FF)(hF:Ok F){id:Nat}{Q:Exit->Act->World->Prop}{K:Env->WK}(k:Nat)(hk:k<=ops.size)(hs:S3 F ds e a)
 (h:tP F ops (ops.toList.take k) K e w)(hK:∀e a w,S3 F ds e a->K e w->wpOpsIn FF n F.P ops Q (List.range' k (ops.size-k)) a w):(Code.region id ops false).wpIn FF n F.P Q a w:=by
 refine wpIn_region ?_;have e1:afl ops.size=List.range' 0 k++List.range' k (ops.size-k):=by
  rw[List.range_eq_range'];have:=List.range'_append_1 (s:=0) (m:=k) (n:=ops.size-k);rw[adU] at this;rw[this];congr 1;omega
 rw[e1];refine xC hW hF hK _ (ops.toList.take k) e a w (by simp;omega) (λj i hj=>?_) hs h;have Hi:j<k:=by have:=(adS.1 hj).1;simpa using this
 rw[List.getElem?_range'] at hj
 ·cases hj
  rw[afg,if_pos Hi];simp
 ·exact Hi
def PU(hW:yr FF)(hF:Ok F){Q:Exit->Act->World->Prop}{K:Env->WK}(k:Nat)(hk:k<=ops.size)(hs:S3 F ds e a)
 (h:tP F ops (ops.toList.drop k) K e w)(hK:∀e a w,S3 F ds e a->K e w->Q .normal a w):wpOpsIn FF n F.P ops Q (List.range' k (ops.size-k)) a w:=by
 have:=xC (FF:=FF) (n:=n) (Q:=Q) (tail:=[]) hW hF (λe a w hs hk=>hK e a w hs hk) (List.range' k (ops.size-k)) (ops.toList.drop k) e a w (by simp) (λj i hj=>?_) hs h
 ·simpa using this
 ·have Hi:j<ops.size-k:=by have:=(adS.1 hj).1;simpa using this
  rw[List.getElem?_range'] at hj
  ·cases hj
   rw[ae6];simp
  ·exact Hi
def drawn:Code->Bool
 | .region _ _ d=>d
 | .seq x y=>drawn x||drawn y
 | .cond _ x y=>drawn x||drawn y
 | .block _ c=>drawn c
 | .loop c=>drawn c
 |_=>false
def Vg(hW:yr FF)(hF:Ok F):∀(c:Code)(Q:Exit->Env->WK)(e:Env)(a:Act)(w:World),drawn c=false->S3 F ds e a->den F c Q e w->c.wpIn FF n F.P (QI F ds Q) a w:=by
 intro c
 induction c with
 |skip=>intro Q e a w _ hs h;exact wpIn_skip ⟨⟨e,hs,h⟩,by simp⟩
 |ret=>intro Q e a w _ hs h;exact wpIn_ret ⟨⟨e,hs,h⟩,by simp⟩
 |exit i=>intro Q e a w _ hs h;exact wpIn_exit ⟨⟨e,hs,h⟩,by simp⟩
 |seq x y ihx ihy=>
  intro Q e a w hd hs h;simp only[drawn,Bool.or_eq_false_iff] at hd;refine wpIn_seq (wpIn_mono (ihx _ e a w hd.1 hs h) ?_);rintro ex a' w' ⟨⟨e',cT,hq⟩,hp⟩;cases ex<;>simp only[Ks] at hq
  case normal=>exact ihy Q e' a' w' hd.2 cT hq
  all_goals exact⟨⟨e',cT,hq⟩,hp⟩
 |cond x c1 c2 Xe Pn=>
  intro Q e a w hd hs h;simp only[drawn,Bool.or_eq_false_iff] at hd;simp only[den] at h;cases hx:ev e x with
  |none=>simp only[hx,no] at h
  |some v=>
   cases v<;>simp only[hx,no] at h
   rename_i b;cases b with
   |true=>exact wpIn_cond_true (hs.eval hx) (Xe Q e a w hd.1 hs h)
   |false=>exact wpIn_cond_false (hs.eval hx) (Pn Q e a w hd.2 hs h)
 |block i c ih=>
  intro Q e a w hd hs h;refine wpIn_block (wpIn_mono (ih _ e a w hd hs h) ?_);rintro ex a' w' ⟨⟨e',cT,hq⟩,hp⟩;cases ex<;>simp only[ID] at hq
  case exit j=>
   simp only[Exit.inBlock];cases hb:afc j i with
   |true=>rw[if_pos (aeq hb)];simp only[hb,cond_true] at hq;exact⟨⟨e',cT,hq⟩,by simp⟩
   |false=>
    have gS:j≠i:=λh=>by simp[h] at hb
    rw[if_neg gS];simp only[hb,cond_false] at hq;exact⟨⟨e',cT,hq⟩,by simp⟩
  all_goals exact⟨⟨e',cT,hq⟩,hp⟩
 |loop c ih=>
  intro Q e a w hd hs h;simp only[den] at h;cases hl:J' F.EB (key c) with
  |none=>simp only[hl,no] at h
  |some l=>
   simp only[hl] at h;cases hv:rI e l with
   |none=>simp only[hv,no] at h
   |some vs=>
    simp only[hv] at h;obtain⟨I,μ,h0,H3⟩:=h;have NP:=(kd hs.1.1 hv).2.1;refine wpIn_loop (λa w=>S3 F ds (vW l (l.map λp=>a.tmps.getD p.1 undef) F.C) a/\I (l.map λp=>a.tmps.getD p.1 undef) w/\∀f,BS (l.map (·.2)) f->f (l.map λp=>a.tmps.getD p.1 undef))
     (λa w=>μ (l.map λp=>a.tmps.getD p.1 undef) w) ?_ ?_
    ·rw[<-NP];exact⟨hs.zip hv,h0,(kd hs.1.1 hv).2.2⟩
    ·intro a1 w1 ⟨uV,hI1,fH⟩;have hr:=fH _ H3 w1 hI1;refine wpIn_mono (ih _ _ a1 w1 hd uV hr) ?_;rintro ex a' w' ⟨⟨e',cT,hq⟩,hp⟩;cases ex<;>simp only[Ks] at hq
     case normal=>
      simp only[NG] at hq;cases yP:rI e' l with
      |none=>simp only[yP,no] at hq
      |some B1=>
       simp only[yP] at hq;have H5:=(kd cT.1.1 yP).2.1;simp only[Exit.then];rw[<-H5];exact⟨⟨cT.zip yP,hq.1,(kd cT.1.1 yP).2.2⟩,hq.2⟩
     all_goals exact⟨⟨e',cT,hq⟩,hp⟩
 |region id ops draw=>
  intro Q e a w hd hs h;simp only[drawn] at hd;subst hd;simp only[den,cond_false] at h;refine CO hW hF ops.size (adW _) (K:=λe w=>Q .normal e w) hs (by rw[ad9 (by simp)];exact h) (λe a w hs hk=>?_);rw[ae8];exact⟨⟨e,hs,hk⟩,by simp⟩
 |_=>intro Q e a w _ hs h;exact h.elim
def zL(hW:yr FF)(hF:Ok F){c:Code}{Q:Exit->Act->World->Prop}(hd:drawn c=false)(hs:S3 F ds e a)
 (h:den F c (λex e w=>∀a,S3 F ds e a->Q ex a w) e w):c.wpIn FF n F.P Q a w:=
 wpIn_mono (Vg hW hF c _ e a w hd hs h) (by rintro ex a' w' ⟨⟨e',cT,hq⟩,-⟩;exact hq a' cT)
def vr(hW:yr FF)(hF:Ok F){x y:Code}{Q:Exit->Act->World->Prop}(hd:drawn x=false)(hs:S3 F ds e a)
 (h:den F x (λex e w=>∀a,S3 F ds e a->Exit.then (y.wpIn FF n F.P Q) Q ex a w) e w):(x.seq y).wpIn FF n F.P Q a w:=
 wpIn_seq (zL hW hF hd hs h)
end
def Bq:Code->Code| .seq x _=>x|c=>c
def tv:Code->Code| .seq _ y=>y|c=>c
def ZA:Code->Code| .block _ c=>c| .loop c=>c|c=>c
def acZ:Code->Code| .rangeFunc _ _ a _=>a|c=>c
def acW:Code->Code| .rangeFunc _ _ _ b=>b|c=>c
def AU:Code->Array Oper| .region _ ops _=>ops|_=>#[]
end Go.Den
namespace Go.Den
open Go.RowKit Go.Sep
section
variable {FF:Fence} {n:Nat} {P:Program} {a:Act} {w:World} {Q:Exit->Act->World->Prop}
def xV{J:Nat->Prop}(h:∃k,J k):∃m,J m/\∀k,J k->m<=k:=by
 obtain⟨k,hk⟩:=h
 induction k using Nat.strongRecOn with
 |_ k ih=>
  by_cases hx:∃j,j<k/\J j
  ·obtain⟨j,hj,hJ⟩:=hx;exact ih j hj hJ
  ·refine⟨k,hk,λj hJ=>?_⟩;rcases Nat.lt_or_ge j k with h|h
   ·exact absurd ⟨j,h,hJ⟩ hx
   ·exact h
def E2{c:Code}(J:Nat->Act->World->Prop)(h0:∃k,J k a w)
 (hr:∀k a w,J k a w->c.wpIn FF n P (Exit.then (λa' w'=>∃j,j<k/\J j a' w') Q) a w):(Code.loop c).wpIn FF n P Q a w:=by
 classical
 let μ:Act->World->Nat:=λa w=>if h:∃k,J k a w then Classical.choose (xV h) else 0
 have hμ:∀{a w}(h:∃k,J k a w),J (μ a w) a w/\∀k,J k a w->μ a w<=k:=λ{a w} h=>by
  have e:μ a w=Classical.choose (xV h):=dif_pos h;rw[e];exact Classical.choose_spec (xV h)
 refine wpIn_loop (λa w=>∃k,J k a w) μ h0 λa w h=>?_;refine wpIn_mono (hr _ a w (hμ h).1) λex a' w' hq=>?_;cases ex<;>first|exact hq|skip
 obtain⟨j,hj,hJ⟩:=hq;exact⟨⟨j,hJ⟩,Nat.lt_of_le_of_lt ((hμ ⟨j,hJ⟩).2 j hJ) hj⟩
def Ca{o:Oper}{x:Operand}{xs:Array Operand}{ts:Array TypeId}{l:Nat}(ho:o.op=.call {callee:=.value x,args:=xs,argTypes:=ts})(hx:a.eval x=.func (.yield l) #[] #[]):
 (execOp a.eval o).run P w=(Instr.yield l (xs.map a.eval)).run P w:=by
 simp only[execOp,ho,resolve,Deferred.ofValue,hx,Sem.run_bind,Sem.run_pure,Result.andThen_ok,invoke,Array.empty_append]
def Nf(hW:FF=Fence.wide){g:Operand}{ps:Array Tmp}{assign body:Code}{gf:Nat}{lb:Array Value}(hg:a.eval g=.func (.func gf) #[] lb)
 {fg:Func}(h1:P.funcs[gf]?=some fg)(h2:(fg.name== "runtime.NumGoroutine")=false)(h3:fg.body.isNone=false)
 (h:∀fn,CallsIn FF (n-1) P gf (#[.func (.yield (w.heap.size+1)) #[] #[]]++lb) ((w.alloc (.deferred (some []))).alloc (.loop {state:=.ready,pending:=none,fn,tmps:=a.tmps,params:=ps,assign,body,defers:=w.heap.size}))
  (rangePost FF n P (w.heap.size+1) Q {a with defers:={target:=.collected w.heap.size,args:=#[]}::a.defers})):(Code.rangeFunc g ps assign body).wpIn FF n P Q a w:=by
 subst hW;refine wpIn_rangeFunc ?_;intro fn ZP;obtain⟨W1,hW1⟩:∃W1,(w.alloc (.deferred (some []))).alloc (.loop {state:=.ready,pending:=none,fn:=fn,tmps:=a.tmps,params:=ps,assign:=assign,body:=body,defers:=w.heap.size})=W1:=⟨_,rfl⟩;have h:=h fn;rw[hW1] at h;refine⟨w.heap.size+1,[{target:=.collected w.heap.size,args:=#[]}],W1,{target:=.fn (.func gf) lb,args:=#[.func (.yield (w.heap.size+1)) #[] #[]]},W1,gf,
  #[.func (.yield (w.heap.size+1)) #[] #[]]++lb,W1,?_,?_,?_,?_,?_,?_⟩
 ·rw[<-hW1];exact run_enterLoop_outer _ _ _ _ _
 ·simp only[resolve,hg];simp[go_sem]
 ·intro f' UG;exact trivial
 ·simp only[invoke];exact wo h1 h2 h3 _
 ·intro hd;cases hd
 ·simpa only[ae3,aet] using h
end
end Go.Den
namespace Go.Sep
open Go.Den Go.RowKit
def Mx{w:World}{b:Nat}{o:Obj}(hb:b<w.heap.size)(ho:∀c t fz,o≠.cells c t fz):view (w.putObj b o) b=some (.obj o):=by
 unfold view;rw[World.putObj_heap_same hb];cases o<;>first|rfl|exact absurd rfl (ho _ _ _)
def St.W0{W w:World}{L:LH}(h:St W w L)(o:Obj)(ho:∀c t fz,o≠.cells c t fz):St W (w.alloc o) (ob w.heap.size o::L):=by
 refine h.W2 o (x:=.obj o) ?_;unfold view;rw[World.alloc_heap_new];cases o<;>first|rfl|exact absurd rfl (ho _ _ _)
def St.put{W w:World}{L:LH}{k b:Nat}{o:Obj}(o':Obj)(h:St W w L)(hk:L[k]?=some (ob b o))(ho:∀c t fz,o'≠.cells c t fz):St W (w.putObj b o') (L.set k (ob b o')):=by
 obtain⟨h1,h2⟩:=h.obj hk;have aZ:b<w.heap.size:=(Array.getElem?_eq_some_iff.1 h1).1;refine h.Sg hk ⟨h.1.os,h.1.tape,h.1.output,by rw[World.putObj_size];exact h.1.size,λj hj=>?_⟩ (Mx aZ ho) λj hj _=>World.putObj_heap_other hj;rw[World.putObj_heap_other (by omega)];exact h.1.block j hj
end Go.Sep
namespace Go.Proofs.YtnffemlgkghcfaaGreatDoor
open Go.Den Go.Prog Go.RowKit
noncomputable def Z5:B3:=[(140,cn.u),(141,o9.u),(142,cb.u)]
noncomputable abbrev ER:Den.Fn:=⟨Tryz.prog,Z5,[],20,[],[]⟩
noncomputable def Wm:Code:=(Tryz.f82.body).getD .skip
noncomputable def q0:Code:=Bq Wm
noncomputable def q1:Code:=Bq (tv Wm)
noncomputable def q2:Code:=Bq (tv (tv Wm))
noncomputable def q3:Code:=Bq (Bq (tv (tv (tv Wm))))
noncomputable def rf:Code:=ZA (tv (Bq (tv (tv (tv Wm)))))
noncomputable def J9:Code:=acZ rf
noncomputable def bd:Code:=acW rf
noncomputable def q7:Code:=Bq (tv (tv (tv (tv Wm))))
def Vm:Tryz.f82.body=some (.seq q0 (.seq q1 (.seq q2 (.seq (.seq q3 (.block 0 (.rangeFunc (.tmp 11) #[12] J9 bd))) (.seq q7 .ret))))):=by kernel_rfl
def Ew:drawn q0=false/\drawn q1=false/\drawn q2=false/\drawn q3=false/\drawn J9=false/\drawn bd=false/\drawn q7=false:=⟨by kernel_rfl,by kernel_rfl,by kernel_rfl,by kernel_rfl,by kernel_rfl,by kernel_rfl,by kernel_rfl⟩
def n82:Tryz.f82.ntmps=20/\Tryz.f82.results=#[.tmp 4]:=⟨by kernel_rfl,by kernel_rfl⟩
def d0(Q:Exit->Env->WK)(p:OA)(n:Int):den ER q0 Q [(1,.i n),(0,.pointer p)]=mk [.pointer p] (λr=>Q .normal [(4,.i 0),(2,.pointer (some (ad r 0))),(1,.i n),(0,.pointer p)]):=by kernel_rfl
def d1(Q:Exit->Env->WK)(r:Nat)(n:Int)(e:Env):den ER q1 Q ((4,.i 0)::(2,.pointer (some (ad r 0)))::(1,.i n)::e)=
 ld (ad r 0) (xP λp=>cn p n (x0 (Q .normal ((9,.tuple ⟨[]⟩)::(8,.i n)::(7,.pointer p)::(4,.i 0)::(2,.pointer (some (ad r 0)))::(1,.i n)::e)))):=by kernel_rfl
def d2(Q:Exit->Env->WK)(e:Env):den ER q2 Q e=mk [.i 0] (λr=>st (ad r 0) (.i 0) (Q .normal ((5,.pointer (some (ad r 0)))::e))):=by kernel_rfl
def d3(Q:Exit->Env->WK)(r5 r:Nat)(v9 v8 v7 v4:Value)(e:Env):den ER q3 Q ((5,.pointer (some (ad r5 0)))::(9,v9)::(8,v8)::(7,v7)::(4,v4)::(2,.pointer (some (ad r 0)))::e)=
 ld (ad r 0) (xP λp=>o9 p (λv=>Q .normal ((11,v)::(10,.pointer p)::(5,.pointer (some (ad r5 0)))::(9,v9)::(8,v8)::(7,v7)::(4,v4)::(2,.pointer (some (ad r 0)))::e))):=by kernel_rfl
def das(Q:Exit->Env->WK)(cs:LV)(e:Env):den ER J9 Q ((12,.agg ⟨cs⟩)::e)=mk [.u 0,.u 0,.u 0,.u 0,.u 0,.u 0,.u 0,.u 0,.u 0,.u 0,.i 0,.i 0,.i 0,.i 0,.i 0,.i 0] (λr=>a8 (cs.length=16) (ga (ad r 0) cs (Q .normal ((6,.pointer (some (ad r 0)))::(12,.agg ⟨cs⟩)::e)))):=by kernel_rfl
def dbd(Q:Exit->Env->WK)(r6 r5 r2:Nat)(cs:LV)(e:Env):den ER bd Q ((6,.pointer (some (ad r6 0)))::(12,.agg ⟨cs⟩)::(5,.pointer (some (ad r5 0)))::(2,.pointer (some (ad r2 0)))::e)=
 ld (ad r2 0) (xP λp=>ah (ad r6 0) 16 (λOq=>a8 True (cb p Oq [.u 0,.u 0] 4 (x0 (ld (ad r5 0) (xI .i64 λn=>st (ad r5 0) (.i (adN.wrap (n+1))) (Q .normal ((18,.i (adN.wrap (n+1)))::(17,.i n)::(16,.tuple ⟨[]⟩)::(15,.agg ⟨[.u 0,.u 0]⟩)::(14,.agg ⟨Oq⟩)::(13,.pointer p)::(6,.pointer (some (ad r6 0)))::(12,.agg ⟨cs⟩)::(5,.pointer (some (ad r5 0)))::(2,.pointer (some (ad r2 0)))::e)))))))):=by kernel_rfl
def d7(Q:Exit->Env->WK)(r5:Nat)(e:Env):den ER q7 Q ((5,.pointer (some (ad r5 0)))::e)=ld (ad r5 0) (xI .i64 λn=>Q .normal ((4,.i n)::(19,.i n)::(5,.pointer (some (ad r5 0)))::e)):=by kernel_rfl
noncomputable def Vz:B3:=[(194,cG.u)]
noncomputable abbrev uZ:Den.Fn:=⟨Tryz.prog,Vz,[],22,[],[]⟩
noncomputable def Za:Code:=(Tryz.f193.body).getD .skip
noncomputable def s0:Code:=Bq Za
noncomputable def lb:Code:=ZA (ZA (tv Za))
noncomputable def s1:Code:=Bq lb
noncomputable def s3:Code:=Bq (ZA (Bq (tv lb)))
noncomputable def s4:Code:=tv (tv lb)
def RE:Tryz.f193.body=some (.seq s0 (.block 0 (.loop (.seq s1 (.seq (.block 1 (.seq (.region 3 (AU s3) false) (.cond (.tmp 20) .ret .skip))) s4))))):=by kernel_rfl
def Bx:drawn s0=false/\drawn s1=false/\drawn s4=false:=⟨by kernel_rfl,by kernel_rfl,by kernel_rfl⟩
def n193:Tryz.f193.ntmps=22/\Tryz.f193.results=#[]:=⟨by kernel_rfl,by kernel_rfl⟩
def ds0(Q:Exit->Env->WK)(y:Value)(r1:Nat):den uZ s0 Q [(1,.pointer (some (ad r1 0))),(0,y)]=
 ld (ad r1 0) (xP λp=>cG p (x2 λv1 v2=>(xA 33 λcs=>(xB λb=>mk [.u 0,.u 0,.u 0,.u 0,.u 0,.u 0,.u 0,.u 0,.u 0,.u 0,.i 0,.i 0,.i 0,.i 0,.i 0,.i 0,.u 0,.u 0,.u 0,.u 0,.u 0,.u 0,.u 0,.u 0,.u 0,.u 0,.i 0,.i 0,.i 0,.i 0,.i 0,.i 0,.i 0] (λr=>a8 (cs.length=33) (ga (ad r 0) cs (Q .normal ((4,.bool b)::(3,.pointer (some (ad r 0)))::(9,.bool b)::(8,.agg ⟨cs⟩)::(5,.tuple ⟨[.agg ⟨cs⟩,.bool b]⟩)::(7,.tuple ⟨[.agg ⟨cs⟩,.bool b]⟩)::(6,.pointer p)::[(1,.pointer (some (ad r1 0))),(0,y)]))))) v2) v1)):=by kernel_rfl
def ds1(Q:Exit->Env->WK)(b:Bool)(e:Env):den uZ s1 Q ((4,.bool b)::e)=br b (Q .normal ((10,.bool b)::(4,.bool b)::e)) (Q (.exit 0) ((10,.bool b)::(4,.bool b)::e)):=by kernel_rfl
def ds3(K:Env->WK)(r3 r1:Nat)(y:Value)(v4:Value):tP uZ (AU s3) ((AU s3).toList.take 3) K ((4,v4)::(3,.pointer (some (ad r3 0)))::(1,.pointer (some (ad r1 0)))::[(0,y)])=
 ah (ad r3 16) 16 (λcs=>K ((18,.agg ⟨cs⟩)::(17,.pointer (some (ad r3 16)))::(16,y)::(4,v4)::(3,.pointer (some (ad r3 0)))::(1,.pointer (some (ad r1 0)))::[(0,y)])):=by kernel_rfl
noncomputable def o3:Oper:=((AU s3)[3]?).getD ⟨none,.move (.tmp 0),0,"",#[],none⟩
def Iq:(AU s3)[3]?=some o3/\o3.dst=some 19/\o3.op=.call {callee:=.value (.tmp 16),args:=#[.tmp 18],argTypes:=#[108]}/\o3.guard=none/\(AU s3).size=5:=⟨by kernel_rfl,by kernel_rfl,by kernel_rfl,by kernel_rfl,by kernel_rfl⟩
def acQ(K:Env->WK)(b:Bool)(e:Env):tP uZ (AU s3) ((AU s3).toList.drop 4) K ((19,.bool b)::e)=K ((20,.bool (!b))::(19,.bool b)::e):=by kernel_rfl
def ds4(Q:Exit->Env->WK)(r3 r1:Nat)(y:Value):den uZ s4 Q ((3,.pointer (some (ad r3 0)))::(1,.pointer (some (ad r1 0)))::[(0,y)])=
 ah (ad r3 0) 33 (λZ4=>mk [.u 0,.u 0,.u 0,.u 0,.u 0,.u 0,.u 0,.u 0,.u 0,.u 0,.i 0,.i 0,.i 0,.i 0,.i 0,.i 0,.u 0,.u 0,.u 0,.u 0,.u 0,.u 0,.u 0,.u 0,.u 0,.u 0,.i 0,.i 0,.i 0,.i 0,.i 0,.i 0,.i 0] (λr=>a8 (Z4.length=33) (ga (ad r 0) Z4 (ld (ad r1 0) (xP λp=>cG p (x2 λv1 v2=>(xA 33 λcs=>(xB λb=>a8 (cs.length=33) (ga (ad r 0) cs (Q .normal ((4,.bool b)::(15,.bool b)::(14,.agg ⟨cs⟩)::(11,.tuple ⟨[.agg ⟨cs⟩,.bool b]⟩)::(13,.tuple ⟨[.agg ⟨cs⟩,.bool b]⟩)::(12,.pointer p)::(3,.pointer (some (ad r 0)))::(21,.agg ⟨Z4⟩)::(3,.pointer (some (ad r3 0)))::(1,.pointer (some (ad r1 0)))::[(0,y)])))) v2) v1)))))):=by kernel_rfl
end Go.Proofs.YtnffemlgkghcfaaGreatDoor
namespace Go.Proofs.YtnffemlgkghcfaaGreatDoor
open Go.Sep Go.Den Go.RowKit Go.Prog Go.Md Go.bu Go.Up
section
variable {W:World} {L:LH} {a:Nat} {m0:Model}
def VC(m0:Model)(b:Up.ax)(hs:List C)(k:Nat):Prop:=∃m,l7 b m/\Md.Ground m/\R3 m0 m/\yI m0.clock m.kept=k/\hs.length+4* k<=150000
def UX:nT Tryz.prog []:=nT.nil
abbrev Mem(a l D r1 rn r0:Nat)(r:Loop)(n:Int)(b:Up.ax)(hs:List C)(L:LH):LH:=
 ob l (.loop r)::ob D (.deferred (some []))::Sep.pt r1 [.pointer (some (ad a 0))]::Sep.pt rn [.i n]::Sep.pt r0 [.pointer (some (ad a 0))]::bj a (b,hs)::L
def Nb(hT:kk Tryz.prog Z5)(hm:Tryz.prog.follows .mixedOrders=true){fn:FuncId}{tmps:Array Value}{D l r0 r1 rn j k:Nat}{r:Loop}
 (hr:r={state:=.ready,pending:=none,fn:=fn,tmps:=tmps,params:=#[12],assign:=J9,body:=bd,defers:=D})(h20:tmps.size=20)
 (h5:tmps[5]?=some (.pointer (some (ad rn 0))))(h2:tmps[2]?=some (.pointer (some (ad r0 0)))){P3:HP}{n:Int}{b:Up.ax}{hs:List C}{x:Md.Kept}{w:World}
 (jF:St W w (P3::Mem a l D r1 rn r0 r n b hs L))(Bl:VC m0 b hs k)(hx:x∈b.kept)(ho:ju b.clock x){R:Ending->World->Prop}
 (hR:∀n' b' cT k' w',k'<k->VC m0 b' cT k'->St W w' (P3::Mem a l D r1 rn r0 r n' b' cT L)->R (.returned (.bool true)) w'):
 RoundIn Fence.wide j Tryz.prog l fn (tmps.setIfInBounds 12 (.agg ⟨ai x.move⟩)) J9 bd w R:=by
 refine roundIn_of_wpIn trivial ?_;have okF:Ok ER:=⟨hT,UX,hm⟩;have aZ:12<tmps.size:=by omega
 have s3:S3 ER [] [(12,.agg ⟨ai x.move⟩),(5,.pointer (some (ad rn 0))),(2,.pointer (some (ad r0 0)))] {tmps:=tmps.setIfInBounds 12 (.agg ⟨ai x.move⟩),defers:=[]}:=by
  refine S3.cons ?_ (S3.cons ?_ (S3.cons ?_ (S3.start rfl ?_)))
  ·show(tmps.setIfInBounds 12 _)[12]?=_;simp[aZ]
  ·show(tmps.setIfInBounds 12 _)[5]?=_;rw[Array.getElem?_setIfInBounds_ne (by decide)];exact h5
  ·show(tmps.setIfInBounds 12 _)[2]?=_;rw[Array.getElem?_setIfInBounds_ne (by decide)];exact h2
  ·show(tmps.setIfInBounds 12 _).size=20;simp[h20]
 refine zL (F:=ER) (.inr ⟨l,rfl⟩) okF Ew.2.2.2.2.1 s3 ?_;rw[das];obtain⟨m,Bi,hg,aaL,ZJ,hlen⟩:=Bl;refine T.at ?_ jF;refine qE λr6=>?_;apply ws;intros;intro w1 uV a1 UR;have XH:=(uV.obj (k:=2) (b:=l) (o:=.loop r) rfl).1;refine⟨_,run_beginRound XH (by rw[hr]),?_⟩;have fj:=uV.put (k:=2) (b:=l) (o:=.loop r) (.loop {r with state:=.busy}) rfl (by simp);refine zL (F:=ER) (.inr ⟨l,rfl⟩) okF Ew.2.2.2.2.2.1 UR ?_;rw[dbd];refine T.at ?_ fj;show T W (Sep.pt r6 (ai x.move)::P3::Mem a l D r1 rn r0 {r with state:=.busy} n b hs L) _;obtain⟨JO,ZC,m',Ed,Q4,NZ,ady⟩:=C0 Bi hg aaL hx ho;obtain⟨⟨d,hd,-,-⟩,⟨c,hc,-,-⟩,gS⟩:=ZC;refine mX (p:=a) λil=>?_;have kg:=il.L5 x hx;apply ws;intros;show T W _ (cb (some ⟨a,0,none⟩) (ai x.move) (nm 0) 4 _);refine CN (p:=a) (k:=x) JO ho.1 kg.rN kg.move.aB (by decide) hd hc gS (.inr (.inr rfl)) (λh=>absurd h (by decide)) (λh=>absurd h (by decide)) (by omega) λcT Ud=>?_;apply ws;intros;intro w3 qF a3 Wi;subst hr;have Pu:=(qF.obj (k:=2) (b:=l) (o:=.loop {state:=.busy,pending:=none,fn:=fn,tmps:=tmps,params:=#[12],assign:=J9,body:=bd,defers:=D}) rfl).1;refine⟨_,_,run_endRound none Pu,?_⟩;have tw:=(qF.put (k:=2) (b:=l) (o:=.loop {state:=.busy,pending:=none,fn:=fn,tmps:=tmps,params:=#[12],assign:=J9,body:=bd,defers:=D}) (.loop {state:=.ready,pending:=none,fn:=fn,tmps:=tmps,params:=#[12],assign:=J9,body:=bd,defers:=D}) rfl (by simp)).drop;have:=Ud.len;exact hR _ _ _ _ _ (by omega) ⟨m',Ed,Q4,NZ,rfl,by omega⟩ tw
abbrev yv(l:Nat):Value:=.func (.yield l) #[] #[]
abbrev On(b:Bool)(r3 r1 l:Nat):Env:=(4,.bool b)::(3,.pointer (some (ad r3 0)))::(1,.pointer (some (ad r1 0)))::[(0,yv l)]
def Vd(hT:kk Tryz.prog Z5)(US:kk Tryz.prog Vz)(hm:Tryz.prog.follows .mixedOrders=true){fn:FuncId}{tmps:Array Value}{D l r0 r1 rn j:Nat}{r:Loop}
 (hr:r={state:=.ready,pending:=none,fn:=fn,tmps:=tmps,params:=#[12],assign:=J9,body:=bd,defers:=D})(h20:tmps.size=20)
 (h5:tmps[5]?=some (.pointer (some (ad rn 0))))(h2:tmps[2]?=some (.pointer (some (ad r0 0)))){n:Int}{b:Up.ax}{hs:List C}{k:Nat}{w:World}
 (jF:St W w (Mem a l D r1 rn r0 r n b hs L))(Bl:VC m0 b hs k){R:Ending->World->Prop}
 (hR:∀n' b' cT k' w',VC m0 b' cT k'->(∀x∈b'.kept,¬ju b'.clock x)->St W w' (Mem a l D r1 rn r0 r n' b' cT L)->R (.returned (.tuple #[])) w'):
 CallsIn Fence.wide j Tryz.prog 193 #[yv l,.pointer (some (ad r1 0))] w R:=by
 refine callsIn_of_wp Tryz.func193 RE trivial ?_ rfl;have okF:Ok uZ:=⟨US,UX,hm⟩;have s0':S3 uZ [] [(1,.pointer (some (ad r1 0))),(0,yv l)] {tmps:=#[yv l,.pointer (some (ad r1 0))]++aeY (Tryz.f193.ntmps-2) undef,defers:=[]}:=by
  rw[n193.1];refine S3.cons ?_ (S3.cons ?_ (S3.start rfl ?_))
  ·show(#[yv l,.pointer (some (ad r1 0))]++aeY 20 undef)[1]?=_;simp
  ·show(#[yv l,.pointer (some (ad r1 0))]++aeY 20 undef)[0]?=_;simp
  ·show(#[yv l,.pointer (some (ad r1 0))]++aeY 20 undef).size=22;simp
 refine vr (F:=uZ) (.inl rfl) okF Bx.1 s0' ?_;rw[ds0];have main:∀(bb:Bool)(x:Md.Kept)(r3:Nat)(n:Int)(b:Up.ax)(hs:List C)(k:Nat)(w:World)(a1:Act),S3 uZ [] (On bb r3 r1 l) a1->St W w (Sep.pt r3 (aI x)::Mem a l D r1 rn r0 r n b hs L)->VC m0 b hs k->
                                                 (if bb then x∈b.kept/\ju b.clock x else ∀x∈b.kept,¬ju b.clock x)->
                                                 (Code.block 0 (.loop (.seq s1 (.seq (.block 1 (.seq (.region 3 (AU s3) false) (.cond (.tmp 20) .ret .skip))) s4)))).wpIn Fence.wide j Tryz.prog (bodyPost Tryz.prog Tryz.f193 R) a1 w:=by
  intro bb x r3 n b hs k w a1 UR rG Bl UL;refine wpIn_block (E2 (λk a1 w=>∃(bb:Bool)(x:Md.Kept)(r3:Nat)(n:Int)(b:Up.ax)(hs:List C),S3 uZ [] (On bb r3 r1 l) a1/\St W w (Sep.pt r3 (aI x)::Mem a l D r1 rn r0 r n b hs L)/\VC m0 b hs k/\
   (if bb then x∈b.kept/\ju b.clock x else ∀x∈b.kept,¬ju b.clock x)) ⟨k,bb,x,r3,n,b,hs,UR,rG,Bl,UL⟩ ?_)
  rintro k a1 w ⟨bb,x,r3,n,b,hs,UR,rG,Bl,UL⟩;refine vr (F:=uZ) (.inl rfl) okF Bx.2.1 UR ?_;rw[ds1];cases bb with
  |false=>
   rw[cf];intro a2 N7;show bodyPost Tryz.prog Tryz.f193 R .normal a2 w;refine⟨N7.2,_,results_none n193.2 _ _ _,?_⟩;exact hR _ _ _ _ _ Bl UL rG.drop
  |true=>
   rw[gU];obtain⟨hx,ho⟩:=UL;intro a2 N7;have N7:S3 uZ [] (On true r3 r1 l) a2:=S3.cons (N7.get rfl) (S3.cons (N7.get rfl) (S3.cons (N7.get rfl) (S3.cons (N7.get rfl) N7.nil)));show(Code.seq (.block 1 (.seq (.region 3 (AU s3) false) (.cond (.tmp 20) .ret .skip))) s4).wpIn Fence.wide j Tryz.prog _ a2 w;refine wpIn_seq (wpIn_block (wpIn_seq ?_));refine CO (F:=uZ) (.inl rfl) okF 3 (by rw[Iq.2.2.2.2];decide) N7 ?_ ?_ (K:=λe w'=>St W w' (Sep.pt r3 (aI x)::Mem a l D r1 rn r0 r n b hs L)/\e=(18,.agg ⟨ai x.move⟩)::(17,.pointer (some (ad r3 16)))::(16,yv l)::On true r3 r1 l)
   ·rw[ds3];refine T.at ?_ rG;apply ws;intros;exact λw' cT=>⟨cT,rfl⟩
   ·rintro e a3 w3 Wi ⟨Xm,rfl⟩;rw[Iq.2.2.2.2];show wpOpsIn Fence.wide j Tryz.prog (AU s3) _ [3,4] a3 w3;rw[wpOpsIn_cons];unfold wpOpIn;simp only[Iq.1];rw[if_pos (by simp[Region.wanted,Iq.2.2.2.1])];refine⟨λf _=>trivial,?_⟩;have hl:=(Xm.obj (k:=1) (b:=l) (o:=.loop r) rfl).1;have Z1:a3.eval (.tmp 16)=yv l:=Wi.eval rfl;have Z0:a3.eval (.tmp 18)=.agg ⟨ai x.move⟩:=Wi.eval rfl;rw[show Fence.wide.round=none from rfl,Oper.semAt_none,Ca Iq.2.2.1 Z1,run_yield hl (by rw[hr];simp),Oper.uponIn_round];refine⟨λh=>(by cases h),?_⟩;have e2:((r.params.zip (#[Operand.tmp 18].map a3.eval)).foldl (λtmps(t,a)=>tmps.setIfInBounds t a) r.tmps)=tmps.setIfInBounds 12 (.agg ⟨ai x.move⟩):=by
     rw[hr];simp[Z0]
    rw[e2,show r.fn=fn by rw[hr],show r.assign=J9 by rw[hr],show r.body=bd by rw[hr]];refine Nb (W:=W) (L:=L) (a:=a) (m0:=m0) hT hm hr h20 h5 h2 Xm Bl hx ho λn' b' cT k' w' yb JP aas=>?_;dsimp only;rw[Iq.2.1];have PD:=S3.put (v:=.bool true) w' (t:=19) Wi rfl;refine PU (F:=uZ) (.inl rfl) okF 4 (by rw[Iq.2.2.2.2];decide) PD ?_ ?_ (K:=λe Wu=>Wu=w'/\e=(20,.bool false)::(19,.bool true)::(18,.agg ⟨ai x.move⟩)::(17,.pointer (some (ad r3 16)))::(16,yv l)::On true r3 r1 l)
    ·rw[acQ];exact⟨rfl,rfl⟩
    ·rintro e a5 w5 UQ ⟨rfl,rfl⟩;show(Code.cond (.tmp 20) .ret .skip).wpIn Fence.wide j Tryz.prog _ a5 w5;refine wpIn_cond_false (UQ.eval rfl) (wpIn_skip ?_);show s4.wpIn Fence.wide j Tryz.prog _ a5 w5;have ha6:S3 uZ [] ((3,.pointer (some (ad r3 0)))::(1,.pointer (some (ad r1 0)))::[(0,yv l)]) a5:=S3.cons (UQ.get rfl) (S3.cons (UQ.get rfl) (S3.cons (UQ.get rfl) UQ.nil));refine zL (F:=uZ) (.inl rfl) okF Bx.2.2 ha6 ?_;rw[ds4];refine T.at ?_ aas;apply ws;intros;rename_i r4;refine Na (p:=a) (λy hy hoy=>?_) (λEg=>?_)
     ·apply ws;intros;intro w7 Ma a7 yY;refine⟨k',yb,true,y,r4,n',b',cT,S3.cons (yY.get rfl) (S3.cons (yY.get rfl) (S3.cons (yY.get rfl) (S3.cons (yY.get rfl) yY.nil))),?_,JP,⟨hy,hoy⟩⟩;exact(Ma.perm (aeh.swap _ _ _)).drop
     ·apply ws;intros;intro w7 Ma a7 yY;refine⟨k',yb,false,zK,r4,n',b',cT,S3.cons (yY.get rfl) (S3.cons (yY.get rfl) (S3.cons (yY.get rfl) (S3.cons (yY.get rfl) yY.nil))),?_,JP,Eg⟩;exact(Ma.perm (aeh.swap _ _ _)).drop
 refine T.at ?_ jF;apply ws;intros;refine Na (p:=a) (λy hy hoy=>?_) (λEg=>?_)
 ·apply ws;intros;rename_i r4;intro w7 Ma a7 yY;exact main true y r4 n b hs k w7 a7 (S3.cons (yY.get rfl) (S3.cons (yY.get rfl) (S3.cons (yY.get rfl) (S3.cons (yY.get rfl) yY.nil)))) Ma Bl ⟨hy,hoy⟩
 ·apply ws;intros;rename_i r4;intro w7 Ma a7 yY;exact main false zK r4 n b hs k w7 a7 (S3.cons (yY.get rfl) (S3.cons (yY.get rfl) (S3.cons (yY.get rfl) (S3.cons (yY.get rfl) yY.nil)))) Ma Bl Eg
end
end Go.Proofs.YtnffemlgkghcfaaGreatDoor
