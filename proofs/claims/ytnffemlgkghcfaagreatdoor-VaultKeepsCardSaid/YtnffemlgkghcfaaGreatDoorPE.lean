/- Part of the proof: see the last text. -/
import Derived.Test.YtnffemlgkghcfaaGreatDoorPD
import Derived.Test.YtnffemlgkghcfaaGreatDoorPB
import Derived.Test.YtnffemlgkghcfaaGreatDoorPA
import Derived.RangeFuncRecord
import Derived.RangeFuncCalls
import Derived.OrdersIn
import Derived.TacticsIn
import Derived.RangeFuncOwn
import Derived.Test.YtnffemlgkghcfaaGreatDoorProg
set_option linter.all false
set_option maxRecDepth 100000
set_option synthInstance.maxSize 100000
open Bool renaming eq_iff_iff→aek,false_ne_true→aeq,false_eq_true→aeo,and_eq_true→aeR,true_and→ae0,false_and→ae9
open Decidable renaming not_not→aea
open Go.IntKind renaming i64→adU
open Int renaming tmod_eq_emod_of_nonneg→aeG,toNat_natCast→adY,eq_ofNat_of_zero_le→ad8,le_refl→afy
open List renaming getElem?_eq_getElem→adX,getElem?_eq_some_iff→adZ,perm_append_comm→ad7,take_length→ad',take_add_one→aeg,append_nil→aei,getElem_mem→aej,map_append→aeu,length_append→ad0,length_cons→aee,length_nil→aes,Perm→aem,nil_append→aeA,mem_of_getElem?→aep,mem_or_eq_of_mem_set→aeC,length_set→ae2,length_take→ad2,append_assoc→ad5,length_drop→ad9,Sublist→aeb,length_map→aen,getElem?_append_right→aey,map_cons→aez,drop_eq_getElem_cons→aeD,mem_cons_of_mem→ae1,drop_zero→ae5,mem_cons→afe,length_singleton→afk,take_zero→afm,mem_append→aeB,mem_map→aeI,find?_eq_none→afh,set_set→afb,getElem?_cons_succ→aed,getElem?_append_left→ael,take_of_length_le→aef,take_append_drop→aer,getElem?_set→aet,drop_of_length_le→aeF,drop_drop→ae8,getElem?_drop→afd,getElem?_of_mem→aff,take_take→afu,flatMap_cons→aeN,filter_cons_of_pos→aeX,filter_cons_of_neg→aeY,flatMap_append→aeV,map_congr_left→ae6,map_nil→afw,map_map→afx,getElem?_map→aeJ,getElem?_range→afq,range→aft,cons_append→afa,getElem?_take→afo
open Nat renaming zero_le→ad6,zero_add→ad1,le_refl→ad4,min_eq_left→afp,mul_le_mul_right→aeL,pow_le_pow_right→aeP,add_zero→aeT,sub_self→afj,add_mul→afl,mul_comm→afv,mod_eq_of_lt→aeH,eq_of_beq_eq_true→aex,beq→afi
open Option renaming map_some→aeK,some→aeh
namespace Go.Up
open Go.Sep Go.Den Go.RowKit Go.Prog Go.Md Go.bA
def yw(I1:LV->World->Prop)(mH:LV->World->Nat)(w2:World)(a4 a5:Addr)(rJ:OA)(pL rr:Nat)(n2 n3:Int):WK:=λw3=>
 I1 [.p (some a4),.p (some a5),.l rJ pL rr,.i n2,.i (adU.wrap (n3+1))] w3/\mH [.p (some a4),.p (some a5),.l rJ pL rr,.i n2,.i (adU.wrap (n3+1))] w3<mH [.p (some a4),.p (some a5),.l rJ pL rr,.i n2,.i n3] w2
section
variable {W w2:World} {L R:LH} {K:VK} {r2 r3 r4:Nat} {a:aO} {k:Kept} {I1:LV->World->Prop} {mH:LV->World->Nat} {a4:Addr} {rJ:OA} {pL rr:Nat} {n2 n3:Int}
def OV{b:Bool}(hf:0<=a.flags/\a.flags<1000000)(hb:b=decide (gI a.id k))
 (h:T W (Sep.pt r4 (aj k.move)::Sep.pt r3 (aI k)::Sep.pt r2 (ak {a with flags:=if gI a.id k then a.flags%8+8 else a.flags})::L) (yw I1 mH w2 a4 (ad r2 0) rJ pL rr n2 n3)):
 T W (Sep.pt r4 (aj k.move)::Sep.pt r3 (aI k)::Sep.pt r2 (ak a)::L) (aa.Uk K (ad r2 0) I1 a4 rJ pL rr n2 n3 mH w2 b):=by
 unfold aa.Uk;have e1:adU.wrap (a.flags.tmod 8+8)=a.flags%8+8:=by rw[aeG hf.1];exact ar (by omega)
 cases b with
 |true=>
  rw[if_pos (of_decide_eq_true hb.symm)] at h
  repeat' first|apply ws;intros|apply wb|with_reducible refine cL (by decide) ?_|fail
  rw[e1];exact h
 |false=>
  rw[if_neg (of_decide_eq_false hb.symm)] at h;rw[cf];exact h
def OW{b:Bool}(hf:0<=a.flags/\a.flags<1000000)(hb:b=decide (has k.move.flags 64/\k.move.aD=a.id\/has k.move.flags 128/\k.move.aq=a.id))
 (h:T W (Sep.pt r4 (aj k.move)::Sep.pt r3 (aI k)::Sep.pt r2 (ak {a with flags:=if gI a.id k then a.flags%8+8 else a.flags})::L) (yw I1 mH w2 a4 (ad r2 0) rJ pL rr n2 n3)):
 T W (Sep.pt r4 (aj k.move)::Sep.pt r3 (aI k)::Sep.pt r2 (ak a)::L) (aa.Gs K r3 (ad r2 0) I1 a4 rJ pL rr n2 n3 mH w2 b):=by
 unfold aa.Gs;cases b with
 |true=>
  have hc:=of_decide_eq_true hb.symm;apply ws;intros;refine bw (λg1=>?_) (λg1=>?_)
  ·have g1:k.fate=1:=by simpa using g1
   exact OV hf (decide_eq_true (show gI a.id k from⟨hc,.inl g1⟩)).symm h
  ·have g1: ¬k.fate=1:=by simpa using g1
   apply ws;intros;refine OV hf ?_ h;rw[aek,beq_iff_eq,decide_eq_true_eq];exact⟨λhh=>⟨hc,.inr hh⟩,λhh=>hh.2.resolve_left g1⟩
 |false=>
  have hc:=of_decide_eq_false hb.symm;rw[cf];exact OV hf (decide_eq_false (show ¬gI a.id k from λhh=>hc hh.1)).symm h
def Tl{b:Bool}(hf:0<=a.flags/\a.flags<1000000)(hm:0<=k.move.flags/\k.move.flags<1000000)(hb:b=decide (has k.move.flags 64/\k.move.aD=a.id))
 (h:T W (Sep.pt r4 (aj k.move)::Sep.pt r3 (aI k)::Sep.pt r2 (ak {a with flags:=if gI a.id k then a.flags%8+8 else a.flags})::L) (yw I1 mH w2 a4 (ad r2 0) rJ pL rr n2 n3)):
 T W (Sep.pt r4 (aj k.move)::Sep.pt r3 (aI k)::Sep.pt r2 (ak a)::L) (aa.Wn K r3 (ad r2 0) I1 a4 rJ pL rr n2 n3 mH w2 r4 b):=by
 unfold aa.Wn;cases b with
 |true=>
  have hc:=of_decide_eq_true hb.symm;rw[gW];exact OW hf (decide_eq_true (.inl hc)).symm h
 |false=>
  have hc:=of_decide_eq_false hb.symm;rw[cf];apply ws;intros;refine hO hm (by decide) ?_;apply ws;intros;by_cases g1:has k.move.flags 128
  ·rw[decide_eq_true g1];apply ws;intros;refine OW hf ?_ h;rw[decide_eq_decide];exact⟨λhh=>.inr ⟨g1,hh⟩,λhh=>(hh.resolve_left hc).2⟩
  ·rw[decide_eq_false g1];apply ws;intros;exact OW hf (decide_eq_false (λhh=>g1 (hh.resolve_left hc).1)).symm h
def ac7(hf:0<=a.flags/\a.flags<1000000)(hm:0<=k.move.flags/\k.move.flags<1000000)
 (h:T W (Sep.pt r4 (aj k.move)::Sep.pt r3 (aI k)::Sep.pt r2 (ak {a with flags:=if gI a.id k then a.flags%8+8 else a.flags})::L) (yw I1 mH w2 a4 (ad r2 0) rJ pL rr n2 n3)):
 T W (Sep.pt r4 (aj k.move)::Sep.pt r3 (aI k)::Sep.pt r2 (ak a)::L) (aa.j9 K r4 (ad r2 0) r3 I1 a4 rJ pL rr n2 n3 mH w2):=by
 unfold aa.j9;apply ws;intros;refine hO hm (by decide) ?_;apply ws;intros;by_cases g1:has k.move.flags 64
 ·rw[decide_eq_true g1];apply ws;intros;refine Tl hf hm ?_ h;rw[decide_eq_decide];exact⟨λhh=>⟨g1,hh⟩,λhh=>hh.2⟩
 ·rw[decide_eq_false g1];apply ws;intros;exact Tl hf hm (decide_eq_false (λhh=>g1 hh.1)).symm h
def ac8{b:Bool}(h1:a.cp<aJ)(h2:k.move.aA<aJ)(h:T W (Sep.pt r4 (aj k.move)::Sep.pt r3 (aI k)::Sep.pt r2 (ak {a with cp:=if b=true then add a.cp k.move.aA else a.cp})::L) (aa.j9 K r4 (ad r2 0) r3 I1 a4 rJ pL rr n2 n3 mH w2)):T W (Sep.pt r4 (aj k.move)::Sep.pt r3 (aI k)::Sep.pt r2 (ak a)::L) (aa.j8 K (ad r2 0) r4 r3 I1 a4 rJ pL rr n2 n3 mH w2 b):=by
 unfold aa.j8;cases b with
 |true=>
  rw[if_pos rfl] at h;apply ws;intros;refine wH h1 h2 ?_;apply ws;intros;exact h
 |false=>
  rw[if_neg aeq] at h;rw[cf];exact h
def ac9(h1:a.cp<aJ)(h2:k.move.aA<aJ)(h:T W (Sep.pt r4 (aj k.move)::Sep.pt r3 (aI k)::Sep.pt r2 (ak {a with cp:=if k.fate=1/\k.move.aq=a.id then add a.cp k.move.aA else a.cp})::L) (aa.j9 K r4 (ad r2 0) r3 I1 a4 rJ pL rr n2 n3 mH w2)):T W (Sep.pt r4 (aj k.move)::Sep.pt r3 (aI k)::Sep.pt r2 (ak a)::L) (aa.j7 K r3 r4 (ad r2 0) I1 a4 rJ pL rr n2 n3 mH w2):=by
 unfold aa.j7;have fin:∀b:Bool,b=decide (k.fate=1/\k.move.aq=a.id)->T W (Sep.pt r4 (aj k.move)::Sep.pt r3 (aI k)::Sep.pt r2 (ak a)::L) (aa.j8 K (ad r2 0) r4 r3 I1 a4 rJ pL rr n2 n3 mH w2 b):=λb hb=>by
  refine ac8 h1 h2 ?_;have e:(if b=true then add a.cp k.move.aA else a.cp)=(if k.fate=1/\k.move.aq=a.id then add a.cp k.move.aA else a.cp):=by
   subst hb;by_cases hc:k.fate=1/\k.move.aq=a.id
   ·rw[if_pos (decide_eq_true hc),if_pos hc]
   ·rw[if_neg (by rw[decide_eq_false hc];exact aeq),if_neg hc]
  rw[e];exact h
 apply ws;intros;refine bw (λg1=>?_) (λg1=>?_)
 ·have g1:k.fate=1:=by simpa using g1
  apply ws;intros;refine fin _ ?_;rw[decide_eq_decide];exact⟨λhh=>⟨g1,hh⟩,λhh=>hh.2⟩
 ·have g1: ¬k.fate=1:=by simpa using g1
  exact fin _ (decide_eq_false (λhh=>g1 hh.1)).symm
def ac'{b:Bool}(h1:a.dp<aJ)(h2:k.move.aA<aJ)(h:T W (Sep.pt r4 (aj k.move)::Sep.pt r3 (aI k)::Sep.pt r2 (ak {a with dp:=if b=true then add a.dp k.move.aA else a.dp})::L) (aa.j7 K r3 r4 (ad r2 0) I1 a4 rJ pL rr n2 n3 mH w2)):T W (Sep.pt r4 (aj k.move)::Sep.pt r3 (aI k)::Sep.pt r2 (ak a)::L) (aa.j6 K (ad r2 0) r4 r3 I1 a4 rJ pL rr n2 n3 mH w2 b):=by
 unfold aa.j6;cases b with
 |true=>
  rw[if_pos rfl] at h;apply ws;intros;refine wH h1 h2 ?_;apply ws;intros;exact h
 |false=>
  rw[if_neg aeq] at h;rw[cf];exact h
def ada(h1:a.dp<aJ)(h2:k.move.aA<aJ)(h:T W (Sep.pt r4 (aj k.move)::Sep.pt r3 (aI k)::Sep.pt r2 (ak {a with dp:=if k.fate=1/\k.move.aD=a.id then add a.dp k.move.aA else a.dp})::L) (aa.j7 K r3 r4 (ad r2 0) I1 a4 rJ pL rr n2 n3 mH w2)):T W (Sep.pt r4 (aj k.move)::Sep.pt r3 (aI k)::Sep.pt r2 (ak a)::L) (aa.j5 K r3 r4 (ad r2 0) I1 a4 rJ pL rr n2 n3 mH w2):=by
 unfold aa.j5;have fin:∀b:Bool,b=decide (k.fate=1/\k.move.aD=a.id)->T W (Sep.pt r4 (aj k.move)::Sep.pt r3 (aI k)::Sep.pt r2 (ak a)::L) (aa.j6 K (ad r2 0) r4 r3 I1 a4 rJ pL rr n2 n3 mH w2 b):=λb hb=>by
  refine ac' h1 h2 ?_;have e:(if b=true then add a.dp k.move.aA else a.dp)=(if k.fate=1/\k.move.aD=a.id then add a.dp k.move.aA else a.dp):=by
   subst hb;by_cases hc:k.fate=1/\k.move.aD=a.id
   ·rw[if_pos (decide_eq_true hc),if_pos hc]
   ·rw[if_neg (by rw[decide_eq_false hc];exact aeq),if_neg hc]
  rw[e];exact h
 apply ws;intros;refine bw (λg1=>?_) (λg1=>?_)
 ·have g1:k.fate=1:=by simpa using g1
  apply ws;intros;refine fin _ ?_;rw[decide_eq_decide];exact⟨λhh=>⟨g1,hh⟩,λhh=>hh.2⟩
 ·have g1: ¬k.fate=1:=by simpa using g1
  exact fin _ (decide_eq_false (λhh=>g1 hh.1)).symm
def adb{b:Bool}(h1:a.cq<aJ)(h2:k.move.aA<aJ)(h:T W (Sep.pt r4 (aj k.move)::Sep.pt r3 (aI k)::Sep.pt r2 (ak {a with cq:=if b=true then add a.cq k.move.aA else a.cq})::L) (aa.j5 K r3 r4 (ad r2 0) I1 a4 rJ pL rr n2 n3 mH w2)):T W (Sep.pt r4 (aj k.move)::Sep.pt r3 (aI k)::Sep.pt r2 (ak a)::L) (aa.j4 K (ad r2 0) r4 r3 I1 a4 rJ pL rr n2 n3 mH w2 b):=by
 unfold aa.j4;cases b with
 |true=>
  rw[if_pos rfl] at h;apply ws;intros;refine wH h1 h2 ?_;apply ws;intros;exact h
 |false=>
  rw[if_neg aeq] at h;rw[cf];exact h
def ade{b1:Bool}(h1:a.cq<aJ)(h2:k.move.aA<aJ)(h:T W (Sep.pt r4 (aj k.move)::Sep.pt r3 (aI k)::Sep.pt r2 (ak {a with cq:=if b1=true/\k.move.aq=a.id then add a.cq k.move.aA else a.cq})::L) (aa.j5 K r3 r4 (ad r2 0) I1 a4 rJ pL rr n2 n3 mH w2)):T W (Sep.pt r4 (aj k.move)::Sep.pt r3 (aI k)::Sep.pt r2 (ak a)::L) (aa.j3 K b1 r4 (ad r2 0) r3 I1 a4 rJ pL rr n2 n3 mH w2):=by
 unfold aa.j3;have fin:∀b:Bool,b=decide (b1=true/\k.move.aq=a.id)->T W (Sep.pt r4 (aj k.move)::Sep.pt r3 (aI k)::Sep.pt r2 (ak a)::L) (aa.j4 K (ad r2 0) r4 r3 I1 a4 rJ pL rr n2 n3 mH w2 b):=λb hb=>by
  refine adb h1 h2 ?_;have e:(if b=true then add a.cq k.move.aA else a.cq)=(if b1=true/\k.move.aq=a.id then add a.cq k.move.aA else a.cq):=by
   subst hb;by_cases hc:b1=true/\k.move.aq=a.id
   ·rw[if_pos (decide_eq_true hc),if_pos hc]
   ·rw[if_neg (by rw[decide_eq_false hc];exact aeq),if_neg hc]
  rw[e];exact h
 cases b1 with
 |true=>
  apply ws;intros;refine fin _ ?_;rw[decide_eq_decide];exact⟨λhh=>⟨rfl,hh⟩,λhh=>hh.2⟩
 |false=>
  rw[cf];exact fin _ (decide_eq_false (λhh=>aeq hh.1)).symm
def adf{b:Bool}{b1:Bool}(h1:a.dq<aJ)(h2:k.move.aA<aJ)(h:T W (Sep.pt r4 (aj k.move)::Sep.pt r3 (aI k)::Sep.pt r2 (ak {a with dq:=if b=true then add a.dq k.move.aA else a.dq})::L) (aa.j3 K b1 r4 (ad r2 0) r3 I1 a4 rJ pL rr n2 n3 mH w2)):T W (Sep.pt r4 (aj k.move)::Sep.pt r3 (aI k)::Sep.pt r2 (ak a)::L) (aa.j2 K (ad r2 0) r4 b1 r3 I1 a4 rJ pL rr n2 n3 mH w2 b):=by
 unfold aa.j2;cases b with
 |true=>
  rw[if_pos rfl] at h;apply ws;intros;refine wH h1 h2 ?_;apply ws;intros;exact h
 |false=>
  rw[if_neg aeq] at h;rw[cf];exact h
def adg{b1:Bool}(h1:a.dq<aJ)(h2:k.move.aA<aJ)(h:T W (Sep.pt r4 (aj k.move)::Sep.pt r3 (aI k)::Sep.pt r2 (ak {a with dq:=if b1=true/\k.move.aD=a.id then add a.dq k.move.aA else a.dq})::L) (aa.j3 K b1 r4 (ad r2 0) r3 I1 a4 rJ pL rr n2 n3 mH w2)):T W (Sep.pt r4 (aj k.move)::Sep.pt r3 (aI k)::Sep.pt r2 (ak a)::L) (aa.j1 K r4 (ad r2 0) r3 I1 a4 rJ pL rr n2 n3 mH w2 b1):=by
 unfold aa.j1;have fin:∀b:Bool,b=decide (b1=true/\k.move.aD=a.id)->T W (Sep.pt r4 (aj k.move)::Sep.pt r3 (aI k)::Sep.pt r2 (ak a)::L) (aa.j2 K (ad r2 0) r4 b1 r3 I1 a4 rJ pL rr n2 n3 mH w2 b):=λb hb=>by
  refine adf h1 h2 ?_;have e:(if b=true then add a.dq k.move.aA else a.dq)=(if b1=true/\k.move.aD=a.id then add a.dq k.move.aA else a.dq):=by
   subst hb;by_cases hc:b1=true/\k.move.aD=a.id
   ·rw[if_pos (decide_eq_true hc),if_pos hc]
   ·rw[if_neg (by rw[decide_eq_false hc];exact aeq),if_neg hc]
  rw[e];exact h
 cases b1 with
 |true=>
  apply ws;intros;refine fin _ ?_;rw[decide_eq_decide];exact⟨λhh=>⟨rfl,hh⟩,λhh=>hh.2⟩
 |false=>
  rw[cf];exact fin _ (decide_eq_false (λhh=>aeq hh.1)).symm
end
def Hn(a:aO):Prop:=a.dp<aJ/\a.dq<aJ/\a.cp<aJ/\a.cq<aJ/\0<=a.flags/\a.flags<1000000
def WH(k:Kept):Prop:=k.move.aA<aJ/\0<=k.move.flags/\k.move.flags<1000000
def BZ(a b:Nat):add a b<aJ:=by
 unfold add;split
 ·assumption
 ·unfold aJ;decide
def Qq{a:aO}{k:Kept}(h:Hn a):Hn (sC a k):=by
 obtain⟨h1,h2,h3,h4,h5,h6⟩:=h;refine⟨?_,?_,?_,?_,?_,?_⟩
 ·show(if _ then _ else _)<aJ;split;exact BZ _ _;exact h1
 ·show(if _ then _ else _)<aJ;split;exact BZ _ _;exact h2
 ·show(if _ then _ else _)<aJ;split;exact BZ _ _;exact h3
 ·show(if _ then _ else _)<aJ;split;exact BZ _ _;exact h4
 ·show 0<=(if gI a.id k then a.flags%8+8 else a.flags);split<;>omega
 ·show(if gI a.id k then a.flags%8+8 else a.flags)<1000000;split<;>omega
def FW{a:aO}(l:List Kept)(h:Hn a):Hn (l.foldl sC a):=by
 induction l generalizing a with
 |nil=>exact h
 |cons k l ih=>exact ih (Qq h)
section
variable {W w2:World} {L R:LH} {K:VK} {r2 r3 r4 p:Nat} {a:aO} {k:Kept} {m:Model} {mb kb:OA} {mc kc:Nat} {I1:LV->World->Prop} {mH:LV->World->Nat} {a4:Addr} {rJ:OA} {pL rr:Nat} {n2 n3:Int}
def VN{b1:Bool}(ha:Hn a)(hk:WH k)(hb:b1=decide (ik k))
 (h:T W (Sep.pt r4 (aj k.move)::Sep.pt r3 (aI k)::Sep.pt r2 (ak (sC a k))::L) (yw I1 mH w2 a4 (ad r2 0) rJ pL rr n2 n3)):
 T W (Sep.pt r4 (aj k.move)::Sep.pt r3 (aI k)::Sep.pt r2 (ak a)::L) (aa.j1 K r4 (ad r2 0) r3 I1 a4 rJ pL rr n2 n3 mH w2 b1):=by
 obtain⟨h1,h2,h3,h4,h5,h6⟩:=ha;obtain⟨k1,k2,k3⟩:=hk;have e:∀(P:Prop) [Decidable P](x y:Nat),(if b1=true/\P then x else y)=if ik k/\P then x else y:=λP _ x y=>by
  subst hb;by_cases hc:ik k
  ·by_cases hp:P
   ·rw[if_pos ⟨decide_eq_true hc,hp⟩,if_pos ⟨hc,hp⟩]
   ·rw[if_neg (λhh=>hp hh.2),if_neg (λhh=>hp hh.2)]
  ·rw[if_neg (λhh=>hc (of_decide_eq_true hh.1)),if_neg (λhh=>hc hh.1)]
 refine adg h2 k1 ?_;refine ade h4 k1 ?_;refine ada h1 k1 ?_;refine ac9 h3 k1 ?_;refine ac7 (show 0<=a.flags/\a.flags<1000000 from⟨h5,h6⟩) ⟨k2,k3⟩ ?_;rw[e,e];exact h
def zQ{i:Nat}(hn:m.kept.length<1000000)(hx:m.made[i]?=some a)(ha:Hn a)(hk:∀k∈m.kept,WH k)
 (h:T W (ML p m mb mc kb kc R) (K (.agg ⟨ak (m.kept.foldl sC a)⟩))):T W (ML p m mb mc kb kc R) (aa (some ⟨p,0,none⟩) (i:Int) K):=by
 unfold aa;have Lt:=(adZ.1 hx).1;apply ws;intros;rename_i r1;refine bR (b:=mb) ⟨by omega,by omega⟩ λrb hb=>?_;rw[adY];subst hb;refine dA ff hx ?_;apply ws;intros;rename_i r2;intro w jG;refine⟨λvv w=>∃j:Nat,j<=m.kept.length/\vv=[.p (some (ad r1 0)),.p (some (ad r2 0)),.l kb m.kept.length kc,.i (m.kept.length:Int),.i (j:Int)]/\St W w (Sep.pt r2 (ak ((m.kept.take j).foldl sC a))::Sep.pt r1 (ak zA)::ML p m (some ⟨rb,0,none⟩) mc kb kc R),
  λvs _=>match vs with|[_,_,_,_,.int _ d]=>m.kept.length-d.toNat|_=>0,⟨0,ad6 _,rfl,jG⟩,?_⟩
 rintro a4 a5 rJ pL rr n2 n3 w2 ⟨j,hj,e,fo⟩;cases e
 refine T.at ?_ fo;have e5:=mh j;refine dX (λg1=>?_) (λg1=>?_)
 ·have aZ:j<m.kept.length:=by omega
  have gx:=adX aZ;have N4:=hk _ (aej aZ);generalize m.kept[j]=x at gx N4;refine bR (b:=kb) ⟨by omega,by omega⟩ λrk ui=>?_;rw[adY];subst ui;refine dA fF gx ?_;apply ws;intros;rename_i r3 r4;have aaX:=FW (m.kept.take j) ha;have dJ:(m.kept.take (j+1)).foldl sC a=sC ((m.kept.take j).foldl sC a) x:=by rw[aeg,gx,List.foldl_append];rfl
  have fin:∀b1:Bool,b1=decide (ik x)->T W (Sep.pt r4 (aj x.move)::Sep.pt r3 (aI x)::Sep.pt r2 (ak ((m.kept.take j).foldl sC a))::Sep.pt r1 (ak zA)::ML p m (some ⟨rb,0,none⟩) mc (some ⟨rk,0,none⟩) kc R)
   (aa.j1 K r4 (ad r2 0) r3 (λvv w=>∃j:Nat,j<=m.kept.length/\vv=[.p (some (ad r1 0)),.p (some (ad r2 0)),.l (some ⟨rk,0,none⟩) m.kept.length kc,.i (m.kept.length:Int),.i (j:Int)]/\St W w (Sep.pt r2 (ak ((m.kept.take j).foldl sC a))::Sep.pt r1 (ak zA)::ML p m (some ⟨rb,0,none⟩) mc (some ⟨rk,0,none⟩) kc R)) (ad r1 0) (some ⟨rk,0,none⟩) m.kept.length kc (m.kept.length:Int) (j:Int) (λvs _=>match vs with|[_,_,_,_,.int _ d]=>m.kept.length-d.toNat|_=>0) w2 b1):=λb1 PN=>by
   refine VN aaX N4 PN ?_;unfold yw;rw[e5];refine T.drop (T.drop λw3 h3=>⟨⟨j+1,aZ,rfl,by rw[dJ];exact h3⟩,by show m.kept.length-((j+1:Nat):Int).toNat<m.kept.length-(j:Int).toNat;omega⟩)
  refine hO ⟨N4.2.1,N4.2.2⟩ (by decide) ?_;apply ws;intros;by_cases g2:has x.move.flags 2
  ·rw[decide_eq_true g2];apply ws;intros;exact fin _ (decide_eq_false (λhh=>hh.1 g2)).symm
  ·rw[decide_eq_false g2];apply ws;intros;refine hO ⟨N4.2.1,N4.2.2⟩ (by decide) ?_;apply ws;intros;refine fin _ ?_;by_cases g3:has x.move.flags 8
   ·rw[decide_eq_true g3];exact(decide_eq_false (λhh=>hh.2 g3)).symm
   ·rw[decide_eq_false g3];exact(decide_eq_true (show ik x from⟨g2,g3⟩)).symm
 ·have gF:j=m.kept.length:=by omega
  subst gF;rw[ad'];apply ws;intros;exact T.dp h
def yN(hm:m.made.length<1000000)(hn:m.kept.length<1000000)(ha:∀a∈m.made,Hn a)(hk:∀k∈m.kept,WH k)
 (h:∀ob oc,T W (ML p m mb mc kb kc (own ob m.made.length oc 14 ((m.made.map m.full).flatMap ak)::R)) (K (.l ob m.made.length oc))):T W (ML p m mb mc kb kc R) (dS (some ⟨p,0,none⟩) K):=by
 unfold dS;apply ws;intros;refine eY (e:=14) ?_;refine T.perm (L:=ML p m mb mc kb kc (own none 0 0 14 []::R)) ?_ (ad7 (l₁:=[own none 0 0 14 []]) (l₂:=[_,_,_])|>.append_right R);intro w jG;refine⟨λvv w=>∃(i:Nat)(ob:OA)(oc:Nat)(out:List aO),i<=m.made.length/\out=(m.made.take i).map m.full/\vv=[.l none 0 0,.l ob i oc,.i (m.made.length:Int),.i (i:Int)]/\St W w (ML p m mb mc kb kc (own ob i oc 14 (out.flatMap ak)::R)),
  λvs _=>match vs with|[_,_,_,.int _ d]=>m.made.length-d.toNat|_=>0,⟨0,none,0,[],ad6 _,rfl,rfl,jG⟩,?_⟩
 rintro uG pY uF ob i oc n1 n2 w2 ⟨i0,ob0,oc0,out,hi,tF,e,fo⟩;cases e
 refine T.at ?_ fo;have e5:=mh i;refine dX (λg1=>?_) (λg1=>?_)
 ·have aZ:i<m.made.length:=by omega
  have gx:=adX aZ;have hax:=ha _ (aej aZ);generalize m.made[i]=x at gx hax;refine zQ hn gx hax hk ?_;apply ws;intros;refine hG (g:=ak) (l:=out) (x:=m.full x) (aei _) rfl rfl (by omega) (by omega) (eX _) λb' c'=>?_;rw[e5];refine T.drop λw3 h3=>⟨⟨i+1,b',c',out++[m.full x],aZ,?_,rfl,h3⟩,by show m.made.length-((i+1:Nat):Int).toNat<m.made.length-(i:Int).toNat;omega⟩;rw[aeg,gx,aeu,tF];rfl
 ·have gF:i=m.made.length:=by omega
  subst gF;rw[ad'] at tF;subst tF;exact h ob oc
end
instance Wl{m:Model}{mb kb:OA}{mc kc:Nat}{c:Int}:Wr (Be m mb mc kb kc) 3 [.i c] (Be {m with ae:=c} mb mc kb kc):=⟨rfl,by show 4<=4;decide,λv h=>by simp at h;subst h;rfl⟩
instance Xo{m:Model}{mb kb b:OA}{mc kc n c:Nat}:Wr (Be m mb mc kb kc) 1 [.l b n c] [.l mb m.made.length mc,.l b n c,.i m.clock,.i m.ae]:=⟨rfl,by show 2<=4;decide,λv h=>by simp at h;subst h;rfl⟩
instance Xn{m:Model}{mb kb b:OA}{mc kc n c:Nat}:Wr (Be m mb mc kb kc) 0 [.l b n c] [.l b n c,.l kb m.kept.length kc,.i m.clock,.i m.ae]:=⟨rfl,by show 1<=4;decide,λv h=>by simp at h;subst h;rfl⟩
section
variable {W w2:World} {L R:LH} {K:VK} {p:Nat} {a:aO} {t u:Move} {m:Model} {mb kb:OA} {mc kc:Nat}
def Eh{fate:Int}(hn:m.kept.length<1000000)(hs:0<=m.ae/\m.ae<1000000)
 (h:∀b c,T W (ML p (m.jA t u fate) mb mc b c R) (K (.tuple ⟨[]⟩))):T W (ML p m mb mc kb kc R) (dV (some ⟨p,0,none⟩) (aj t) (aj u) fate K):=by
 unfold dV;have e1:adU.wrap (m.ae+1)=m.ae+1:=ar (by omega);apply ws;intros;rw[e1];refine hG (b:=kb) (g:=aI) (l:=m.kept) (x:=⟨t,{u with ae:=m.ae+1,born:=m.clock},fate⟩) (aei _) rfl rfl (by show(m.kept.length+1)* 264<=_;omega) (by show m.kept.length+1<=_;omega) (jl _) λb' c'=>?_;apply ws;intros;have:=h b' c';unfold Model.jA ML Be at this;simp only[ad0,aee,aes,ad1] at this;refine T.sub this ?_;exact lW
end
section
variable {W:World} {L R:LH} {K:VK} {X:WK} {p r e:Nat} {A B:HP} {m:Model} {mb kb:OA} {mc kc:Nat}
def xH(e:Nat)(h:T W (own (some ⟨r,0,none⟩) 0 0 e []::L) X):T W (Sep.pt r []::L) X:=λw hs=>
 h w (St.xW (k:=0) (L:=Sep.pt r []::L) (xs:=[]) (sp:=[]) (n:=0) (c:=0) (e:=e) (by simp) (by simp) (ad4 _) (by simp) hs)
def T.swap(h:T W (B::A::L) X):T W (A::B::L) X:=T.perm h (aem.swap _ _ _)
def T.Nb{C:HP}(h:T W (A::C::B::L) X):T W (A::B::C::L) X:=T.perm h ((aem.swap _ _ _).cons _)
def Ej(hm:m.made.length<1000000)(hn:m.kept.length<1000000)
 (h:∀p2 mb2 mc2 kb2 kc2,T W (ML p2 m mb2 mc2 kb2 kc2 (ML p m mb mc kb kc R)) (K (.p (some ⟨p2,0,none⟩)))):T W (ML p m mb mc kb kc R) (dW (some ⟨p,0,none⟩) K):=by
 unfold dW
 repeat' first|apply ws;intros|apply wb
 ·rename_i r1;refine xH 14 ?_;refine nL (l0:=([]:List aO)) (l1:=m.made) ff rfl (by omega) eX λb2 c2=>?_;rw[ad1,aeA];apply ws;intros;refine xH 33 ?_;refine nL (l0:=([]:List Kept)) (l1:=m.kept) fF rfl (by omega) jl λb3 c3=>?_;rw[ad1,aeA];apply ws;intros;exact T.Nb (h _ _ _ _ _)
 ·rename_i r1 r4;refine T.swap ?_;refine xH 14 ?_;refine nL (l0:=([]:List aO)) (l1:=m.made) ff rfl (by omega) eX λb2 c2=>?_;rw[ad1,aeA];refine T.swap ?_;apply ws;intros;refine xH 33 ?_;refine nL (l0:=([]:List Kept)) (l1:=m.kept) fF rfl (by omega) jl λb3 c3=>?_;rw[ad1,aeA];apply ws;intros;exact T.Nb (h _ _ _ _ _)
 ·rename_i r6 r7;refine xH 14 ?_;refine nL (l0:=([]:List aO)) (l1:=m.made) ff rfl (by omega) eX λb2 c2=>?_;rw[ad1,aeA];refine T.swap ?_;apply ws;intros;refine xH 33 ?_;refine nL (l0:=([]:List Kept)) (l1:=m.kept) fF rfl (by omega) jl λb3 c3=>?_;rw[ad1,aeA];apply ws;intros;exact T.Nb (h _ _ _ _ _)
end
section
variable {W:World} {L R:LH} {K:VK} {X:WK} {p r e:Nat} {a:aO} {m:Model} {mb kb:OA} {mc kc:Nat}
def Ph{ks:List Kept}(hl:ks.length=m.kept.length)(h:T W (ML p {m with kept:=ks} mb mc kb kc R) X):T W (Sep.pt p (Be m mb mc kb kc)::own mb m.made.length mc 14 (m.made.flatMap ak)::own kb m.kept.length kc 33 (ks.flatMap aI)::R) X:=by
 unfold ML Be at h;rw[hl] at h;exact h
def KQ{RN i id:Nat}{x:Kept}(hm:m.made.length<1000000)(hn:m.kept.length<1000000)(gx:m.kept[RN]?=some x)(hi:Bp (λx:aO=>decide (x.id=id)) m.made=(i:Int))(hx:m.made[i]?=some a)(ha:Hn a)(hk:∀k∈m.kept,WH k)
 (h:T W (ML p m mb mc kb kc R) (K (.bool (decide (8<=((m.kept.set RN {x with fate:=3}).foldl sC a).flags))))):T W (ML p m mb mc kb kc R) (dG (some ⟨p,0,none⟩) (nm id) (RN:Int) K):=by
 unfold dG;have Yh:=(adZ.1 gx).1;have N4:WH x:=hk x (aep gx);apply ws;intros;rename_i r1;refine T.perm (L:=ML p m mb mc kb kc (Sep.pt r1 (nm id)::R)) ?_ (ad7 (l₁:=[Sep.pt r1 (nm id)]) (l₂:=[_,_,_])|>.append_right R);refine Ej hm hn λp2 mb2 mc2 kb2 kc2=>?_;apply ws;intros;refine bR (b:=kb2) ⟨by omega,by omega⟩ λrb hb=>?_;rw[adY];subst hb;refine Jd ?_;refine Aw (o:=RN) (x:=x) (y:={x with fate:=3}) fF gx rfl (by decide) rfl ?_;apply ws;intros;refine Ph (ks:=m.kept.set RN {x with fate:=3}) ae2 ?_;refine sE (m:={m with kept:=m.kept.set RN {x with fate:=3}}) hm ?_;rw[hi];apply ws;intros;refine zQ (m:={m with kept:=m.kept.set RN {x with fate:=3}}) (by rw[ae2];exact hn) hx ha (λk rz=>?_) ?_
 ·rcases aeC rz with hh|hh
  ·exact hk k hh
  ·subst hh;exact N4
 apply ws;intros;intro w hw;refine⟨_,rfl,?_⟩
 revert w hw
 show T W _ _;apply ws;intros;refine T.sub h ?_;exact lW
end
section
variable {W:World} {L R:LH} {K:VK} {X:WK} {t u:Move}
def KU(h:T W L (K (.agg ⟨nm (aJ-1)⟩))):T W L (kx K):=by
 unfold kx;apply ws;intros;exact T.dp h
def A1(ht:0<=t.flags/\t.flags<1000000)(hu:0<=u.flags/\u.flags<1000000)(h:T W L (K (.i (qG t u)))):T W L (ic (aj t) (aj u) K):=by
 unfold ic;unfold qG at h
 repeat' first|apply ws;intros|apply wb|with_reducible refine cL (by decide) ?_|fail
 rw[uT ht.1 ht.2 (by decide)]
 repeat' first|apply ws;intros|apply wb|with_reducible refine cL (by decide) ?_|fail
 rw[uT hu.1 hu.2 (by decide)]
 repeat' first|apply ws;intros|apply wb|with_reducible refine M4 ?_|fail
 refine dX (λg1=>?_) (λg1=>?_)
 ·rw[if_pos g1] at h;exact T.dp h
 ·rw[if_neg g1] at h;exact T.dp h
end
def Jq{m j:Nat}(hj:j<=64):shr .u64 (m:Int) (j:Int)=((m/2^j:Nat):Int):=by
 unfold shr;rw[adY,show min j IntKind.u64.bits=j from afp hj,Int.fdiv_eq_ediv_of_nonneg _ (by exact Int.le_of_lt (Int.pow_pos (by decide)))];rw[show((2:Int)^j)=((2^j:Nat):Int) by push_cast;rfl];exact(Int.natCast_ediv _ _).symm
def Kh(m:Nat):adU.wrap (((m:Nat):Int).tmod (2:Int))=((m%2:Nat):Int):=by
 rw[aeG (by omega)];rw[ar (by omega)];omega
section
variable {W:World} {L R:LH} {K:VK} {X:WK}
def qt{n j:Nat}(hn:n<aJ)(hj:j<128)(h:T W L (K (.i ((n/2^j%2:Nat):Int)))):T W L (dE (nm n) (j:Int) K):=by
 unfold dE;unfold nm;apply ws;intros;refine dX (λg1=>?_) (λg1=>?_)
 ·obtain⟨i,rfl⟩:∃i:Nat,j=64+i:=⟨j-64,by omega⟩;have e1:adU.wrap (((64+i:Nat):Int) -64)=(i:Int):=by rw[ar (by omega)];omega
  have e2:IntKind.u64.wrap (i:Int)=(i:Int):=by rw[Go.Up.oC];omega
  rw[e1,e2];apply ws;intros;refine cL (by omega) ?_;refine cL (by decide) ?_;rw[Jq (by omega),Kh];have e3:n/2^(64+i)=n/18446744073709551616/2^i:=by rw[Nat.div_div_eq_div_mul,Nat.pow_add]
  rw[e3] at h;exact T.dp h
 ·have e2:IntKind.u64.wrap (j:Int)=(j:Int):=by rw[Go.Up.oC];omega
  rw[e2];apply ws;intros;refine cL (by omega) ?_;refine cL (by decide) ?_;rw[Jq (by omega),Kh];have e3:n%18446744073709551616/2^j%2=n/2^j%2:=by
   rw[show(18446744073709551616:Nat)=2^j* 2^(64-j) by rw[<-Nat.pow_add,show j+(64-j)=64 by omega],Nat.mod_mul_right_div_self];exact Nat.mod_mod_of_dvd _ ⟨2^(63-j),by rw[show 64-j=1+(63-j) by omega,Nat.pow_add]⟩
  rw[e3];exact T.dp h
end
def xn(a i:Nat):a/2^i/2=a/2^(i+1):=by rw[Nat.div_div_eq_div_mul,Nat.pow_succ]
def NU{a b i:Nat}(h:a/2^(i+1)=b/2^(i+1))(gU:a/2^i%2≠b/2^i%2):decide (((a/2^i%2:Nat):Int)<((b/2^i%2:Nat):Int))=decide (a<b):=by
 rw[<-xn,<-xn] at h;rw[decide_eq_decide]
 constructor
 ·intro hl;have:a/2^i<b/2^i:=by omega
  exact Nat.lt_of_not_le λhh=>absurd (Nat.div_le_div_right (c:=2^i) hh) (by omega)
 ·intro hl;have:=Nat.div_le_div_right (c:=2^i) (Nat.le_of_lt hl);omega
section
variable {W:World} {L R:LH} {K:VK} {X:WK}
def uK{a b:Nat}(ha:a<aJ)(hb:b<aJ)(h:T W L (K (.bool (decide (a<b))))):T W L (fp (nm a) (nm b) K):=by
 unfold fp;apply ws;intros;rename_i r1 r2;intro w jG;refine⟨λvv w=>∃j:Nat,j<=128/\a/2^j=b/2^j/\vv=[.p (some (ad r1 0)),.p (some (ad r2 0)),.bool false,.i ((j:Int) -1)]/\St W w (Sep.pt r2 (nm b)::Sep.pt r1 (nm a)::L),
  λvs _=>match vs with|[_,_,_,.int _ d]=>(d+1).toNat|_=>0,⟨128,ad4 _,by rw[Nat.div_eq_of_lt (show a<2^128 from ha),Nat.div_eq_of_lt (show b<2^128 from hb)],rfl,jG⟩,?_⟩
 rintro a1 a2 b1 n1 w2 ⟨j,hj,heq,e,fo⟩;cases e
 refine T.at ?_ fo;refine dX (λg1=>?_) (λg1=>?_)
 ·obtain⟨i,rfl⟩:∃i:Nat,j=i+1:=⟨j-1,by omega⟩;have e1:(((i+1:Nat):Int) -1)=(i:Int):=by omega
  have e2:adU.wrap ((i:Int) -1)=(i:Int) -1:=ar (by omega);rw[e1,e2];apply ws;intros;refine qt ha (by omega) ?_;apply ws;intros;refine qt hb (by omega) ?_;apply ws;intros;refine bw (λg2=>?_) (λg2=>?_)
  ·have g2:a/2^i%2≠b/2^i%2:=λhh=>by rw[hh] at g2;simp at g2
   apply ws;intros;refine qt ha (by omega) ?_;apply ws;intros;refine qt hb (by omega) ?_;apply ws;intros;rw[NU heq g2];exact T.dp h
  ·have g2:a/2^i%2=b/2^i%2:=by
    have: ¬((a/2^i%2:Nat):Int)≠((b/2^i%2:Nat):Int):=λhh=>by rw[bne_iff_ne.2 hh] at g2;cases g2
    omega
   exact λw3 h3=>⟨⟨i,by omega,by have h1:=xn a i;have h2:=xn b i;omega,rfl,h3⟩,by show((i:Int) -1+1).toNat<((i:Int)+1).toNat;omega⟩
 ·have hz:j=0:=by omega
  subst hz;rw[Nat.pow_zero,Nat.div_one,Nat.div_one] at heq;rw[decide_eq_false (by omega)] at h;exact T.dp h
end
section
variable {W:World} {L R:LH} {K:VK} {X:WK}
def AW{a b:Nat}(ha:a<aJ)(hb:b<aJ)(h:T W L (K (.agg ⟨nm (if a<b then a else b)⟩))):T W L (ib (nm a) (nm b) K):=by
 unfold ib;apply ws;intros;refine uK ha hb ?_;by_cases g1:a<b
 ·rw[if_pos g1] at h;rw[decide_eq_true g1];apply ws;intros;exact T.dp h
 ·rw[if_neg g1] at h;rw[decide_eq_false g1];apply ws;intros;exact T.dp h
end
section
variable {W:World} {L R:LH} {K:VK} {X:WK} {t:Move}
def Cm(ht:0<=t.flags/\t.flags<1000000)(h:T W L (K (.bool (decide (fx t.flags))))):T W L (aK (aj t) K):=by
 have he:fx t.flags↔ ¬(has t.flags 2/\has t.flags 4\/has t.flags 2/\has t.flags 8\/has t.flags 4/\has t.flags 8)/\ ¬((has t.flags 4\/has t.flags 8)/\16<=t.flags)/\(t.flags<64\/has t.flags 2):=Iff.rfl;obtain⟨b2,h2⟩:∃b,b=decide (has t.flags 2):=⟨_,rfl⟩;obtain⟨b4,h4⟩:∃b,b=decide (has t.flags 4):=⟨_,rfl⟩;obtain⟨b8,h8⟩:∃b,b=decide (has t.flags 8):=⟨_,rfl⟩;have H2:∀{L':LH} {K':VK},T W L' (K' (.bool b2))->T W L' (aN (aj t) 2 K'):=λhh=>hO ht (by decide) (by rw[<-h2];exact hh);have H4:∀{L':LH} {K':VK},T W L' (K' (.bool b4))->T W L' (aN (aj t) 4 K'):=λhh=>hO ht (by decide) (by rw[<-h4];exact hh);have H8:∀{L':LH} {K':VK},T W L' (K' (.bool b8))->T W L' (aN (aj t) 8 K'):=λhh=>hO ht (by decide) (by rw[<-h8];exact hh);have hE:∀{L':LH} {K':VK},T W L' (K' (.bool (b4||b8)))->T W L' (dL (aj t) K'):=λ{L'} {K'} hh=>rO ht (by
  have e:decide (gw t.flags)=(b4||b8):=by rw[h4,h8];exact Bool.decide_or (has t.flags 4) (has t.flags 8)
  rw[e];exact hh)
 unfold aK aK.j3 aK.j4 aK.j1 aK.j2;have h2:=h2.symm;have h4:=h4.symm;have h8:=h8.symm;cases b2<;>cases b4<;>cases b8<;>simp only[decide_eq_true_eq,decide_eq_false_iff_not] at h2 h4 h8<;>simp only[Bool.or_true,Bool.or_false,Bool.true_or,Bool.false_or] at hE
 all_goals
  repeat' first|apply ws;intros|apply wb|with_reducible first|refine H2 ?_|refine H4 ?_|refine H8 ?_|refine hE ?_|refine bw (λh1=>?_) (λh1=>?_)|fail
 all_goals
  refine T.fin (T.dp h) ?_
  congr 1
  clear H2 H4 H8 hE h
  (try simp only[decide_eq_true_eq,decide_eq_false_iff_not] at *)
  rw[aek,decide_eq_true_eq,he];simp only[h2,h4,h8,Bool.true_eq_false,aeo,eq_self,true_and,and_true,false_and,and_false,or_true,or_false,true_or,false_or,not_true_eq_false,not_false_eq_true,true_iff,false_iff]
  try omega
end
def MA(d:Nat):LV:=[.i (d:Int)]
def Ae(d:Nat):(MA d).length=1:=rfl
def rA:List Nat->Nat
 |[]=>0
 |d::l=>d* 10^l.length+rA l
def qZ(l:List Nat):List UInt8:=l.map λd=>UInt8.ofNat (48+d)
def Ad:∀(l:List Nat),(∀d∈l,d<10)->rA l<10^l.length
 |[],_=>by show 0<1;decide
 |d::l,h=>by
  have ih:=Ad l (λx hx=>h x (ae1 _ hx));have hd:=h d List.mem_cons_self;have:d* 10^l.length<=9* 10^l.length:=aeL _ (by omega);simp only[rA,aee,Nat.pow_succ];omega
def G0:∀(l m:List Nat),(∀d∈l,d<10)->(∀d∈m,d<10)->l.length=m.length->rA l=rA m->l=m
 |[],m,_,_,hl,_=>by cases m with|nil=>rfl|cons a b=>simp at hl
 |d::l,[],_,_,hl,_=>by simp at hl
 |d::l,e::m,h1,h2,hl,hv=>by
  have PD:l.length=m.length:=by simpa using hl
  have a1:=Ad l (λx hx=>h1 x (ae1 _ hx));have a2:=Ad m (λx hx=>h2 x (ae1 _ hx));simp only[rA,PD] at hv a1;have hp:0<10^m.length:=Nat.pow_pos (by decide);have hde:d=e:=by
   have e1:(d* 10^m.length+rA l)/10^m.length=d:=by rw[afv,Nat.mul_add_div hp,Nat.div_eq_of_lt a1,aeT]
   have e2:(e* 10^m.length+rA m)/10^m.length=e:=by rw[afv,Nat.mul_add_div hp,Nat.div_eq_of_lt a2,aeT]
   rw[<-e1,hv,e2]
  subst hde;rw[G0 l m (λx hx=>h1 x (ae1 _ hx)) (λx hx=>h2 x (ae1 _ hx)) PD (by omega)]
structure CE(a j:Nat)(l:List Nat):Prop where
 val:rA l=a/2^j
 small:∀d∈l,d<10
 norm:l.length=1\/10^(l.length-1)<=rA l
 len:1<=l.length/\l.length<=129-j
def CE.step{a j c:Nat}{l tl:List Nat}(h:CE a (j+1) l)(hj:j<128)(hl:tl.length=l.length)(ht:∀d∈tl,d<10)(hc:c<=1)(he:2* rA l+a/2^j%2=c* 10^l.length+rA tl):
 (c=0->CE a j tl)/\(0<c->CE a j (c::tl)):=by
 have hv:=h.val;have h2:=xn a j;have hle:=h.len;have e:2* rA l+a/2^j%2=a/2^j:=by rw[hv,<-h2];omega
 refine⟨λh0=>?_,λh0=>?_⟩
 ·subst h0;rw[Nat.zero_mul,ad1] at he;refine⟨by rw[<-he,e],ht,?_,by rw[hl];omega⟩;rw[hl];rcases h.norm with hn|hn
  ·exact .inl hn
  ·exact .inr (by omega)
 ·have h1:c=1:=by omega
  subst h1;refine⟨by simp only[rA,hl];omega,λd hd=>?_,.inr ?_,by simp only[aee,hl];omega⟩
  ·rcases afe.1 hd with hd|hd
   ·omega
   ·exact ht d hd
  ·simp only[rA,aee,Nat.add_sub_cancel];omega
def CE.first{a:Nat}(ha:a<aJ):CE a 128 [0]:=⟨by rw[Nat.div_eq_of_lt (show a<2^128 from ha)];rfl,λd hd=>by simp at hd;omega,.inl rfl,by simp⟩
def LU:List Nat:=[3,4,0,2,8,2,3,6,6,9,2,0,9,3,8,4,6,3,4,6,3,3,7,4,6,0,7,4,3,1,7,6,8,2,1,1,4,5,5]
def DJ:∀(l m:List Nat),(∀d∈l,d<10)->(∀d∈m,d<10)->qZ l=qZ m->l=m
 |[],[],_,_,_=>rfl
 |[],e::m,_,_,h=>by simp[qZ] at h
 |d::l,[],_,_,h=>by simp[qZ] at h
 |d::l,e::m,h1,h2,h=>by
  simp only[qZ,aez,List.cons.injEq] at h;obtain⟨hd,ht⟩:=h;have b1:=h1 d List.mem_cons_self;have b2:=h2 e List.mem_cons_self;have:d=e:=by
   have:=congrArg UInt8.toNat hd;simp only[UInt8.toNat_ofNat'] at this;omega
  subst this;rw[DJ l m (λx hx=>h1 x (ae1 _ hx)) (λx hx=>h2 x (ae1 _ hx)) ht]
def CE.last{a:Nat}{l:List Nat}(h:CE a 0 l):(qZ l=qZ LU↔a=aJ-1):=by
 have hv:rA l=a:=by have:=h.val;rwa[Nat.pow_zero,Nat.div_one] at this
 have hmx:∀d∈LU,d<10:=by decide
 have pw:rA LU=aJ-1:=by decide+kernel
 constructor
 ·intro he;have:=DJ l LU h.small hmx he;rw[<-hv,this,pw]
 ·intro he;have hlen:l.length=39:=by
   have h1:=Ad l h.small;rw[hv,he] at h1;rcases h.norm with hn|hn
   ·rw[hn] at h1;exact absurd h1 (by decide)
   ·rw[hv,he] at hn;have a1:l.length-1<39:=Nat.lt_of_not_le λhh=>absurd (Nat.le_trans (aeP (by decide) hh) hn) (by decide+kernel);have a2:38<l.length:=Nat.lt_of_not_le λhh=>absurd (Nat.lt_of_lt_of_le h1 (aeP (by decide) hh)) (by decide+kernel);have:=h.len;omega
  rw[G0 l LU h.small hmx hlen (by rw[hv,he,pw])]
section
variable {W:World} {L R:LH} {K:VK} {X:WK}
def Je{r d:Nat}(h:T W (own (some ⟨r,0,none⟩) 1 1 1 ([d].flatMap MA)::L) X):T W (Sep.pt r [.i (d:Int)]::L) X:=λw hs=>
 h w (St.xW (k:=0) (L:=Sep.pt r [.i (d:Int)]::L) (xs:=[d].flatMap MA) (sp:=[]) (n:=1) (c:=1) (e:=1) (by simp) (by simp[MA]) (ad4 _) (by simp) hs)
def KY{a:Nat}(ha:a<aJ)(h:∀s:BA,pk s (⟨#[51,52,48,50,56,50,51,54,54,57,50,48,57,51,56,52,54,51,52,54,51,51,55,52,54,48,55,52,51,49,55,54,56,50,49,49,52,53,53]⟩:BA)=decide (a=aJ-1)->T W L (K (.string s))):T W L (gu (nm a) K):=by
 unfold gu;apply ws;intros;rename_i r1 r2;refine Je (d:=0) ?_;intro w jG;refine⟨λvv w=>∃(j:Nat)(l:List Nat)(b:OA)(c:Nat),j<=128/\CE a j l/\vv=[.p (some (ad r1 0)),.string .empty,.l b l.length c,.i ((j:Int) -1)]/\St W w (own b l.length c 1 (l.flatMap MA)::Sep.pt r1 (nm a)::L),
  λvs _=>match vs with|[_,_,_,.int _ d]=>(d+1).toNat|_=>0,⟨128,[0],_,_,ad4 _,CE.first ha,rfl,jG⟩,?_⟩
 rintro a1 s1 Nl V8 Qh n1 w2 ⟨j,l,b,c,hj,hd,e,fo⟩;cases e
 refine T.at ?_ fo;refine dX (λg1=>?_) (λg1=>?_)
 ·obtain⟨i,rfl⟩:∃i:Nat,j=i+1:=⟨j-1,by omega⟩;have e1:(((i+1:Nat):Int) -1)=(i:Int):=by omega
  have e2:adU.wrap ((i:Int) -1)=(i:Int) -1:=ar (by omega);have hlen:=hd.len;rw[e1];apply ws;intros;refine qt ha (by omega) ?_;apply ws;intros;rw[ar (show-9223372036854775808<=(l.length:Int) -1/\(l.length:Int) -1<=9223372036854775807 by omega)];have aa1:a/2^i%2<=1:=by omega
  intro w3 qU;refine⟨λvv w=>∃(k cc:Nat)(tl:List Nat),k<=l.length/\tl.length=l.length-k/\(∀d∈tl,d<10)/\cc<=1/\2* rA (l.drop k)+a/2^i%2=cc* 10^(l.length-k)+rA tl/\
   vv=[.p (some (ad r1 0)),.string .empty,.l Nl l.length Qh,.i (i:Int),.i (cc:Int),.i ((k:Int) -1)]/\St W w (own Nl l.length Qh 1 ((l.take k++tl).flatMap MA)::Sep.pt r1 (nm a)::L),
   λvs _=>match vs with|[_,_,_,_,_,.int _ d]=>(d+1).toNat|_=>0,⟨l.length,a/2^i%2,[],ad4 _,by simp,(λd hd=>by cases hd),aa1,by rw[List.drop_length,afj];simp[rA],rfl,by rw[ad',aei];exact qU⟩,?_⟩
  rintro a2 s2 uG pY uF n3 n4 n5 w4 ⟨k,cc,tl,hk,zx,htd,Ob,Bq,e,tG⟩;cases e
  refine T.at ?_ tG;refine dX (λg2=>?_) (λg2=>?_)
  ·obtain⟨q,rfl⟩:∃q:Nat,k=q+1:=⟨k-1,by omega⟩;have e3:(((q+1:Nat):Int) -1)=(q:Int):=by omega
   rw[e3];have gx:=adX (show q<l.length by omega);have hdx:=hd.small _ (aej (show q<l.length by omega));have GI:l.drop q=l[q]::l.drop (q+1):=aeD (by omega);have tt:l.take (q+1)=l.take q++[l[q]]:=by rw[aeg,gx];rfl
   generalize l[q]=d at gx hdx GI tt;have hlq:(l.take q).length=q:=by rw[ad2,afp (by omega)]
   have gy:(l.take (q+1)++tl)[q]?=some d:=by
    rw[tt,ad5,aey (by omega),hlq,afj];rfl
   refine bR (b:=Nl) ⟨by omega,by omega⟩ λrb hb=>?_;rw[adY];subst hb;refine vx (g:=MA) Ae gy rfl ?_;refine lA ?_;refine cL (by decide) ?_;refine bR (b:=some ⟨rb,0,none⟩) ⟨by omega,by omega⟩ λPw hb=>?_;rw[adY];cases hb
   have w1:adU.wrap (2* (d:Int))=2* (d:Int):=ar (by omega);have w2':adU.wrap (2* (d:Int)+(cc:Int))=((2* d+cc:Nat):Int):=by rw[ar (by omega)];omega
   have w3':((2* d+cc:Nat):Int).tmod 10=(((2* d+cc)%10:Nat):Int):=by rw[aeG (by omega)];omega
   have w4':adU.wrap (((2* d+cc:Nat):Int).tdiv 10)=(((2* d+cc)/10:Nat):Int):=by rw[Int.tdiv_eq_ediv_of_nonneg (by omega),ar (by omega)];omega
   have w5':adU.wrap ((q:Int) -1)=(q:Int) -1:=ar (by omega);rw[w1,w2',w3',w4',w5'];refine Aw (o:=q) (j:=0) (x:=d) (y:=(2* d+cc)%10) (g:=MA) Ae gy rfl (by decide) rfl ?_;refine cL (by decide) ?_;have Lk:(l.take (q+1)++tl).set q ((2* d+cc)%10)=l.take q++((2* d+cc)%10::tl):=by
    rw[tt,ad5,List.set_append_right _ _ (by omega),hlq,afj];rfl
   rw[Lk];have xg:(l.drop (q+1)).length=l.length-(q+1):=ad9;intro w5 JY;refine⟨⟨q,(2* d+cc)/10,(2* d+cc)%10::tl,by omega,by simp only[aee];omega,λx hx=>?_,by omega,?_,rfl,JY⟩,by show((q:Int) -1+1).toNat<((q:Int)+1).toNat;omega⟩
   ·rcases afe.1 hx with hx|hx
    ·omega
    ·exact htd x hx
   ·rw[GI];simp only[rA];rw[zx,xg,show l.length-q=(l.length-(q+1))+1 by omega,Nat.pow_succ];generalize 10^(l.length-(q+1))=P at Bq⊢;have:2* (d* P)+cc* P=(2* d+cc)/10* (P* 10)+(2* d+cc)%10* P:=by
     have hh:2* d+cc=(2* d+cc)/10* 10+(2* d+cc)%10:=by omega
     calc 2* (d* P)+cc* P=(2* d+cc)* P:=by rw[afl,Nat.mul_assoc]
      _=((2* d+cc)/10* 10+(2* d+cc)%10)* P:=by rw[<-hh]
      _=_:=by rw[afl,Nat.mul_assoc,afv 10 P]
    omega
  ·have hz:k=0:=by omega
   subst hz;rw[ae5,Nat.sub_zero] at Bq;rw[Nat.sub_zero] at zx;rw[afm,aeA,e2];obtain⟨s0,s1⟩:=hd.step (by omega) zx htd Ob Bq;refine dX (λg3=>?_) (λg3=>?_)
   ·have g3:0<cc:=by omega
    refine cL ⟨rfl,trivial⟩ ?_;refine qL λr3=>?_;refine Je (d:=cc) ?_;rw[<-zx];refine nL (l0:=[cc]) (l1:=tl) Ae rfl (by omega) (λx v hv=>by simp[MA] at hv;subst hv;rfl) λb2 c2=>?_;have hs:=s1 g3;refine T.sub (M:=own b2 (1+tl.length) c2 1 (([cc]++tl).flatMap MA)::Sep.pt r1 (nm a)::L) ?_ (by repeat (first|exact aeb.refl _|apply aeb.cons_cons|apply aeb.cons));rw[show 1+tl.length=(cc::tl).length by simp only[aee];omega];intro w6 Uu;exact⟨⟨i,cc::tl,b2,c2,by omega,hs,rfl,Uu⟩,by show((i:Int) -1+1).toNat<((i:Int)+1).toNat;omega⟩
   ·have hs:=s0 (by omega);rw[<-zx];intro w6 Uu;exact⟨⟨i,tl,_,_,by omega,hs,rfl,Uu⟩,by show((i:Int) -1+1).toNat<((i:Int)+1).toNat;omega⟩
 ·have hz:j=0:=by omega
  subst hz;have hlen:=hd.len;intro w3 qU;refine⟨λvv w=>∃k:Nat,k<=l.length/\vv=[.string .empty,.string (bs (qZ (l.take k))),.l Nl l.length Qh,.i (l.length:Int),.i (k:Int)]/\St W w (own Nl l.length Qh 1 (l.flatMap MA)::Sep.pt r1 (nm a)::L),
   λvs _=>match vs with|[_,_,_,_,.int _ d]=>l.length-d.toNat|_=>0,⟨0,ad6 _,rfl,qU⟩,?_⟩
  rintro s3 s4 zt yJ yK n7 n8 w9 ⟨k,hk,e,hs9⟩;cases e
  refine T.at ?_ hs9;refine dX (λg2=>?_) (λg2=>?_)
  ·have aZ:k<l.length:=by omega
   have gx:=adX aZ;have hdx:=hd.small _ (aej aZ);have tt:l.take (k+1)=l.take k++[l[k]]:=by rw[aeg,gx];rfl
   generalize l[k]=d at gx hdx tt;refine bR (b:=Nl) ⟨by omega,by omega⟩ λrb hb=>?_;rw[adY];subst hb;refine vx (g:=MA) Ae gx rfl ?_;refine lA ?_;refine cL ⟨rfl,trivial⟩ ?_;refine qL λr4=>?_;have e4:Value.int .u8 (IntKind.u8.wrap (adU.wrap (48+(d:Int))))=rI (UInt8.ofNat (48+d)):=by
    have:=uC (n:=((48+d:Nat):Int)) (by omega);rw[adY] at this;rw[this,ar (by omega)]
    congr 1
    have:((48+d:Nat):Int)=48+(d:Int):=by omega
    rw[this];unfold IntKind.wrap;simp[IntKind.signed,IntKind.bits];omega
   rw[e4];refine Sv (l:=[UInt8.ofNat (48+d)]) ?_;have e5:bs (qZ (l.take k))++bs [UInt8.ofNat (48+d)]=bs (qZ (l.take (k+1))):=by rw[L4,tt];unfold qZ;rw[aeu];rfl
   have e6:=mh k;refine cL ?_ ?_
   ·rw[bI,bI];unfold qZ;rw[aen,ad2,afk];omega
   rw[e5,e6];refine T.drop λw5 JY=>⟨⟨k+1,aZ,rfl,JY⟩,by show l.length-((k+1:Nat):Int).toNat<l.length-(k:Int).toNat;omega⟩
  ·have gF:k=l.length:=by omega
   subst gF;rw[ad'];refine T.drop (T.drop (h _ ?_));rw[pX,decide_eq_decide,<-hd.last];exact yr (a:=qZ l) (b:=qZ LU)
end
section
variable {W:World} {L R:LH} {K:VK} {X Y:WK} {a:aO} {t:Move} {r1 r2:Nat}
def MU{n:Nat}(hn:n<aJ)(h:T W L (br (decide (n=aJ-1)) X Y)):T W L (gu (nm n) (xS λs1=>br (pk s1 (⟨#[51,52,48,50,56,50,51,54,54,57,50,48,57,51,56,52,54,51,52,54,51,51,55,52,54,48,55,52,51,49,55,54,56,50,49,49,52,53,53]⟩:BA)) X Y)):=
 KY hn λs hs=>P9 (by rw[hs];exact h)
def OI(a:aO):Int:=if a.dp≠0\/a.dq≠0\/a.cp≠0\/a.cq≠0\/a.ae≠0 then 7 else if a.aG<=0\/4294967296<=a.aG then 8 else if a.code<=0\/65536<=a.code then 9 else 0
def JE{b:Bool}(h:T W (Sep.pt r2 [.u 0,.u 0]::Sep.pt r1 (ak a)::L) (K (.i (if b=true then 6 else OI a)))):T W (Sep.pt r2 [.u 0,.u 0]::Sep.pt r1 (ak a)::L) (aB.j2 K r1 r2 b):=by
 unfold aB.j2 aB.j5 aB.j6 aB.j3 aB.j4;cases b with
 |true=>
  apply ws;intros;exact h
 |false=>
  rw[if_neg (by decide)] at h
  repeat' first|apply ws;intros|apply wb|with_reducible refine bw (λh1=>?_) (λh1=>?_)|fail
  all_goals try simp only[bz] at *
  all_goals
   refine T.fin (T.dp h) ?_
   congr 1
   unfold OI
   repeat' split
  all_goals omega
def H7(ha:vn a)(h:T W L (K (.i (qM a)))):T W L (aB (ak a) K):=by
 unfold aB aB.j1;have e:qM a=if a.flags<0\/7<a.flags then 3 else if a.id=0 then 4 else if a.id=aJ-1 then 5 else if has a.flags 2/\has a.flags 4 then 6 else OI a:=rfl
 rw[e] at h;by_cases hr:0<=a.flags/\a.flags<=7
 ·rw[if_neg (by omega)] at h;have hf:0<=a.flags/\a.flags<1000000:=by omega
  have e1:decide (a.flags<0)=false:=decide_eq_false (by omega);have e2:decide (a.flags>7)=false:=decide_eq_false (by omega);apply ws;intros;rw[e1];apply ws;intros;rw[e2];apply ws;intros;refine dX (λh1=>?_) (λh1=>?_)
  ·rw[if_pos h1] at h;exact T.dp h
  rw[if_neg h1] at h;apply ws;intros;refine MU ha.id ?_;refine dX (λh1=>?_) (λh1=>?_)
  ·rw[if_pos h1] at h;exact T.dp h
  rw[if_neg h1] at h
  repeat' first|apply ws;intros|apply wb|with_reducible refine F4 hf (by decide) ?_|fail
  refine dX (λh1=>?_) (λh1=>?_)
  ·repeat' first|apply ws;intros|apply wb|with_reducible refine F4 hf (by decide) ?_|fail
   refine JE ?_;refine T.fin (T.dp h) ?_
   congr 1
   by_cases h4:has a.flags 4
   ·rw[if_pos (decide_eq_true h4),if_pos ⟨h1,h4⟩]
   ·rw[if_neg (λhh=>h4 (of_decide_eq_true hh)),if_neg (λhh=>h4 hh.2)]
  ·refine JE ?_;rw[if_neg (λhh=>h1 hh.1)] at h;exact T.dp h
 ·rw[if_pos (by omega)] at h;apply ws;intros;refine dX (λh1=>?_) (λh1=>?_)
  ·apply ws;intros;exact T.dp h
  ·have e2:decide (a.flags>7)=true:=decide_eq_true (by omega);apply ws;intros;rw[e2];apply ws;intros;exact T.dp h
def zR{n:Int}(h:T W (Sep.pt r2 [.u 0,.u 0]::Sep.pt r1 (aj t)::L) (K (.i (if t.aG<n\/4294967296<=t.aG then 8 else if t.code<n\/65536<=t.code then 9 else 0)))):T W (Sep.pt r2 [.u 0,.u 0]::Sep.pt r1 (aj t)::L) (au.j4 K r1 n):=by
 unfold au.j4 au.j5
 repeat' first|apply ws;intros|apply wb|with_reducible refine bw (λh1=>?_) (λh1=>?_)|fail
 all_goals try simp only[bz] at *
 all_goals
  refine T.fin (T.dp h) ?_
  congr 1
  repeat' split
 all_goals omega
def zS{b:Bool}(hf:0<=t.flags/\t.flags<1000000)(h:T W (Sep.pt r2 [.u 0,.u 0]::Sep.pt r1 (aj t)::L) (K (.i (if b=true then 17 else if gw t.flags then L2 t else L1 t)))):T W (Sep.pt r2 [.u 0,.u 0]::Sep.pt r1 (aj t)::L) (au.j3 K r1 r2 b):=by
 unfold au.j3;cases b with
 |true=>
  apply ws;intros;exact h
 |false=>
  rw[if_neg (by decide)] at h
  repeat' first|apply ws;intros|apply wb|with_reducible refine rO hf ?_|fail
  refine dX (λh1=>?_) (λh1=>?_)
  ·rw[if_pos h1] at h;apply ws;intros;unfold L2 at h;refine dX (λh1=>?_) (λh1=>?_)
   ·rw[if_pos h1] at h;exact h
   ·rw[if_neg h1] at h;exact zR h
  ·rw[if_neg h1] at h;unfold L1 at h;apply ws;intros;refine dX (λh1=>?_) (λh1=>?_)
   ·rw[if_pos (h1)] at h;exact h
   rw[if_neg (h1)] at h;apply ws;intros;refine dX (λh1=>?_) (λh1=>?_)
   ·rw[if_pos (h1)] at h;exact h
   rw[if_neg (h1)] at h;apply ws;intros;refine dX (λh1=>?_) (λh1=>?_)
   ·rw[if_pos (h1)] at h;exact h
   rw[if_neg (h1)] at h;apply ws;intros;by_cases h5:t.pending=0
   ·rw[if_neg (λhh=>hh h5)] at h;rw[decide_eq_true h5];apply ws;intros;refine dX (λh1=>?_) (λh1=>?_)
    ·repeat' first|apply ws;intros|apply wb|with_reducible refine hO hf (by decide) ?_|fail
     by_cases h6:has t.flags 16
     ·rw[decide_eq_true h6];rw[if_neg (λhh=>hh.2.1 h6)] at h;apply ws;intros;exact zR h
     ·rw[decide_eq_false h6]
      repeat' first|apply ws;intros|apply wb|with_reducible refine hO hf (by decide) ?_|fail
      by_cases h7:has t.flags 32
      ·rw[decide_eq_true h7];rw[if_neg (λhh=>hh.2.2 h7)] at h;apply ws;intros;exact zR h
      ·rw[decide_eq_false h7];rw[if_pos ⟨h1,h6,h7⟩] at h;apply ws;intros;exact h
    ·rw[if_neg (λhh=>h1 hh.1)] at h;exact zR h
   ·rw[if_pos h5] at h;rw[decide_eq_false h5];apply ws;intros;exact h
def vH(ht:u3 t)(h:T W L (K (.i (kF t)))):T W L (au (aj t) K):=by
 unfold au au.j1;have e:kF t=if t.flags<0\/255<t.flags then 3 else if t.id=0 then 4 else if t.id=aJ-1 then 5 else if ¬fx t.flags then 6
  else if t.ae≠0\/t.born≠0 then 7 else if t.timeout<0\/1073741824<t.timeout\/0<t.timeout/\ ¬has t.flags 2 then 17 else if gw t.flags then L2 t else L1 t:=rfl
 rw[e] at h;by_cases hr:0<=t.flags/\t.flags<=255
 ·rw[if_neg (by omega)] at h;have hf:0<=t.flags/\t.flags<1000000:=by omega
  have e1:decide (t.flags<0)=false:=decide_eq_false (by omega);have e2:decide (t.flags>255)=false:=decide_eq_false (by omega);apply ws;intros;rw[e1];apply ws;intros;rw[e2];apply ws;intros;refine dX (λh1=>?_) (λh1=>?_)
  ·rw[if_pos h1] at h;exact T.dp h
  rw[if_neg h1] at h;apply ws;intros;refine MU ht.id ?_;refine dX (λh1=>?_) (λh1=>?_)
  ·rw[if_pos h1] at h;exact T.dp h
  rw[if_neg h1] at h
  repeat' first|apply ws;intros|apply wb|with_reducible refine Cm hf ?_|fail
  by_cases h2:fx t.flags
  ·rw[if_neg (λhh=>hh h2)] at h;rw[decide_eq_true h2];apply ws;intros;unfold au.j2 au.j6;by_cases h3:t.ae≠0\/t.born≠0
   ·rw[if_pos h3] at h;refine bw (λh1=>?_) (λh1=>?_)
    ·apply ws;intros;exact T.dp h
    ·have h1:t.ae=0:=by simpa using h1
     have e3:(t.born !=0)=true:=by rw[bne_iff_ne];omega
     apply ws;intros;rw[e3];apply ws;intros;exact T.dp h
   ·rw[if_neg h3] at h;have e3:(t.ae !=0)=false:=by rw[bne_eq_false_iff_eq];omega
    have e4:(t.born !=0)=false:=by rw[bne_eq_false_iff_eq];omega
    rw[e3];apply ws;intros;rw[e4];apply ws;intros;refine dX (λh4=>?_) (λh4=>?_)
    ·rw[if_pos (.inl h4)] at h;apply ws;intros;refine zS hf ?_;exact T.dp h
    apply ws;intros;refine dX (λh5=>?_) (λh5=>?_)
    ·rw[if_pos (.inr (.inl h5))] at h;refine zS hf ?_;exact T.dp h
    apply ws;intros;refine dX (λh6=>?_) (λh6=>?_)
    ·repeat' first|apply ws;intros|apply wb|with_reducible refine hO hf (by decide) ?_|fail
     refine zS hf ?_;by_cases h7:has t.flags 2
     ·rw[decide_eq_true h7];rw[if_neg (by rintro(hh|hh|hh);exact h4 hh;exact h5 hh;exact hh.2 h7)] at h;exact T.dp h
     ·rw[decide_eq_false h7];rw[if_pos (.inr (.inr ⟨h6,h7⟩))] at h;exact T.dp h
    ·refine zS hf ?_;rw[if_neg (by rintro(hh|hh|hh);exact h4 hh;exact h5 hh;exact h6 hh.1)] at h;exact T.dp h
  ·rw[if_pos h2] at h;rw[decide_eq_false h2];apply ws;intros;exact T.dp h
 ·rw[if_pos (by omega)] at h;apply ws;intros;refine dX (λh1=>?_) (λh1=>?_)
  ·apply ws;intros;exact T.dp h
  ·have e2:decide (t.flags>255)=true:=decide_eq_true (by omega);apply ws;intros;rw[e2];apply ws;intros;exact T.dp h
end
def Jr{j:Nat}(hj:j<64):shl .u64 1 (j:Int)=((2^j:Nat):Int):=by
 unfold shl;have h1:2^j<2^64:=Nat.pow_lt_pow_right (by decide) hj;have h2:(2:Nat)^64=18446744073709551616:=by decide
 have h3:((2:Int)^j)=((2^j:Nat):Int):=by push_cast;rfl
 rw[adY,show min j IntKind.u64.bits=j from afp (Nat.le_of_lt hj),Go.Up.oC,Int.one_mul,h3];generalize 2^j=P at h1;omega
def yS(a i:Nat):a%2^(i+1)=a%2^i+a/2^i%2* 2^i:=by
 rw[Nat.pow_succ,Nat.mod_mul,afv (2^i)]
section
variable {W:World} {L R:LH} {K:VK} {X Y:WK} {a:aO} {t:Move} {r1 r2:Nat}
def Nu{n j:Nat}(hn:n<2^j)(hj:j<128)(h:T W L (K (.agg ⟨nm (n+2^j)⟩))):T W L (lq (nm n) (j:Int) K):=by
 unfold lq;unfold nm;apply ws;intros;refine dX (λg1=>?_) (λg1=>?_)
 ·obtain⟨i,rfl⟩:∃i:Nat,j=64+i:=⟨j-64,by omega⟩;have e1:adU.wrap (((64+i:Nat):Int) -64)=(i:Int):=by rw[ar (by omega)];omega
  have e2:IntKind.u64.wrap (i:Int)=(i:Int):=by rw[Go.Up.oC];omega
  rw[e1,e2,Jr (by omega)];apply ws;intros;refine cL (by omega) ?_;apply ws;intros;have hp:2^(64+i)=18446744073709551616* 2^i:=by rw[Nat.pow_add]
  have hq:2^i<=2^63:=aeP (by decide) (by omega);have Q3:(2:Nat)^63=9223372036854775808:=by decide
  have h1:n/18446744073709551616<2^i:=Nat.div_lt_of_lt_mul (by rw[<-hp];exact hn);have e3:IntKind.u64.wrap (((n/18446744073709551616:Nat):Int)+((2^i:Nat):Int))=(((n+2^(64+i))/18446744073709551616:Nat):Int):=by
   rw[Go.Up.oC,hp,Nat.add_mul_div_left _ _ (by decide)];omega
  have e4:(n+2^(64+i))%18446744073709551616=n%18446744073709551616:=by rw[hp,Nat.add_mul_mod_self_left]
  unfold nm at h;rw[e4] at h;rw[e3];exact T.dp h
 ·have EC:j<64:=by omega
  have e2:IntKind.u64.wrap (j:Int)=(j:Int):=by rw[Go.Up.oC];omega
  rw[e2,Jr EC];apply ws;intros;refine cL (by omega) ?_;apply ws;intros;have hq:2^j<=2^63:=aeP (by decide) (by omega);have Q3:(2:Nat)^63=9223372036854775808:=by decide
  have e3:IntKind.u64.wrap (((n%18446744073709551616:Nat):Int)+((2^j:Nat):Int))=(((n+2^j)%18446744073709551616:Nat):Int):=by
   rw[Go.Up.oC];omega
  have e4:(n+2^j)/18446744073709551616=n/18446744073709551616:=by omega
  unfold nm at h;rw[e4] at h;rw[e3];exact T.dp h
def Nd{a b i c out:Nat}(hv:out+b%2^i=a%2^i+c* 2^i)(c2 n2:Nat)(hn:(n2:Int)=((a/2^i%2:Nat):Int) -((b/2^i%2:Nat):Int) -(c:Int)+2* (c2:Int)):
 out+n2* 2^i+b%2^(i+1)=a%2^(i+1)+c2* 2^(i+1):=by
 rw[yS,yS,Nat.pow_succ];have hh:n2+b/2^i%2+c=a/2^i%2+2* c2:=by omega
 have:=congrArg (·* 2^i) hh;simp only[afl] at this;rw[show c2* (2^i* 2)=2* c2* 2^i by rw[afv (2^i) 2,<-Nat.mul_assoc,afv c2 2]];omega
def F5{a b:Nat}(ha:a<aJ)(hb:b<aJ)(h:T W L (K (.tuple ⟨[.agg ⟨nm (a-b)⟩,.bool (decide (b<=a))]⟩))):T W L (c9 (nm a) (nm b) K):=by
 unfold c9 c9.j1;apply ws;intros;refine uK ha hb ?_;apply ws;intros;by_cases aZ:a<b
 ·rw[show a-b=0 by omega,decide_eq_false (by omega)] at h;rw[decide_eq_true aZ];apply ws;intros;exact T.dp h
 ·rw[decide_eq_true (by omega)] at h;rw[decide_eq_false aZ];apply ws;intros;rename_i r1 r2 r3 r4;intro w jG;refine⟨λvv w=>∃i c out:Nat,i<=128/\c<=1/\out<2^i/\out+b%2^i=a%2^i+c* 2^i/\vv=[.p (some (ad r1 0)),.p (some (ad r2 0)),.p (some (ad r3 0)),.bool false,.p (some (ad r4 0)),.i (c:Int),.i (i:Int)]/\
     St W w (Sep.pt r4 (nm out)::Sep.pt r3 [.u 0,.u 0]::Sep.pt r2 (nm b)::Sep.pt r1 (nm a)::L),
   λvs _=>match vs with|[_,_,_,_,_,_,.int _ d]=>128-d.toNat|_=>0,⟨0,0,0,by omega,by omega,by decide,by rw[Nat.pow_zero];omega,rfl,jG⟩,?_⟩
  rintro a1 a2 a3 b2 a4 n1 n2 w2 ⟨i,c,out,hi,hc,tF,hv,e,fo⟩;cases e
  refine T.at ?_ fo;refine dX (λg1=>?_) (λg1=>?_)
  ·have rW:i<128:=by omega
   apply ws;intros;refine qt ha rW ?_;apply ws;intros;refine qt hb rW ?_;apply ws;intros;have PO:a/2^i%2<=1:=by omega
   have U0:b/2^i%2<=1:=by omega
   have e1:adU.wrap (adU.wrap (((a/2^i%2:Nat):Int) -((b/2^i%2:Nat):Int)) -(c:Int))=((a/2^i%2:Nat):Int) -((b/2^i%2:Nat):Int) -(c:Int):=by
    rw[ar (n:=((a/2^i%2:Nat):Int) -((b/2^i%2:Nat):Int)) (by omega),ar (by omega)]
   have e5:=mh i;rw[e1,e5];have hp:2^(i+1)=2* 2^i:=by rw[Nat.pow_succ,afv]
   have key:∀(c2 n2:Nat),c2<=1->n2<=1->(n2:Int)=((a/2^i%2:Nat):Int) -((b/2^i%2:Nat):Int) -(c:Int)+2* (c2:Int)->
    T W (Sep.pt r4 (nm out)::Sep.pt r3 [.u 0,.u 0]::Sep.pt r2 (nm b)::Sep.pt r1 (nm a)::L) (c9.j1 K (ad r4 0) (i:Int) (λvv w=>∃i c out:Nat,i<=128/\c<=1/\out<2^i/\out+b%2^i=a%2^i+c* 2^i/\vv=[.p (some (ad r1 0)),.p (some (ad r2 0)),.p (some (ad r3 0)),.bool false,.p (some (ad r4 0)),.i (c:Int),.i (i:Int)]/\
    St W w (Sep.pt r4 (nm out)::Sep.pt r3 [.u 0,.u 0]::Sep.pt r2 (nm b)::Sep.pt r1 (nm a)::L)) (ad r1 0) (ad r2 0) (ad r3 0) false (λvs _=>match vs with|[_,_,_,_,_,_,.int _ d]=>128-d.toNat|_=>0) (c:Int) w2 (c2:Int) (n2:Int)):=λc2 n2 Mx Wq hn=>by
    unfold c9.j1;rw[e5];have rK:=Nd hv c2 n2 hn;refine bw (λg2=>?_) (λg2=>?_)
    ·have g2:n2=1:=by have:(n2:Int)=1:=by simpa using g2
                      omega
     subst g2;rw[Nat.one_mul] at rK;apply ws;intros;refine Nu tF rW ?_;refine xF (by rfl) ?_;apply ws;intros;exact λw3 h3=>⟨⟨i+1,c2,out+2^i,rW,Mx,by omega,rK,rfl,h3⟩,by show 128-((i+1:Nat):Int).toNat<128-(i:Int).toNat;omega⟩
    ·have g2:n2=0:=by have: ¬(n2:Int)=1:=by simpa using g2
                      omega
     subst g2;rw[Nat.zero_mul,aeT] at rK;exact λw3 h3=>⟨⟨i+1,c2,out,rW,Mx,by omega,rK,rfl,h3⟩,by show 128-((i+1:Nat):Int).toNat<128-(i:Int).toNat;omega⟩
   unfold c9.j1 at key;rw[e5] at key;refine dX (λg2=>?_) (λg2=>?_)
   ·rw[ar (by omega)];obtain⟨n2,Wq⟩:=ad8 (show 0<=((a/2^i%2:Nat):Int) -((b/2^i%2:Nat):Int) -(c:Int)+2 by omega);rw[Wq];exact key 1 n2 (by omega) (by omega) (by omega)
   ·obtain⟨n2,Wq⟩:=ad8 (show 0<=((a/2^i%2:Nat):Int) -((b/2^i%2:Nat):Int) -(c:Int) by omega);rw[Wq];exact key 0 n2 (by omega) (by omega) (by omega)
  ·have gF:i=128:=by omega
   subst gF;rw[aeH (show a<2^128 from ha),aeH (show b<2^128 from hb)] at hv;have hh:out=a-b:=by
    have:c=0:=by
     rcases Nat.eq_zero_or_pos c with hz|hz
     ·exact hz
     ·have:c=1:=by omega
      subst this;omega
    subst this;omega
   rw[hh];apply ws;intros;exact T.dp h
def A0{r3 r4 r5:Nat}{x y z:Nat}(hx:x<aJ)(hy:y<aJ)(hz:z<aJ)(h:T W L (K (.agg ⟨nm (x-(y+z))⟩))):T W (Sep.pt r5 (nm z)::Sep.pt r4 (nm y)::Sep.pt r3 (nm x)::Sep.pt r2 [.u 0,.u 0]::L) (bM.j1 K r4 r5 r3 r2):=by
 unfold bM.j1 bM.j2;apply ws;intros;refine pZ hy hz ?_;unfold add;by_cases hs:y+z<aJ
 ·rw[if_pos hs,decide_eq_true hs];apply ws;intros;refine F5 hx hs ?_;apply ws;intros;exact T.dp h
 ·rw[if_neg hs,decide_eq_false hs];apply ws;intros;refine KU ?_;apply ws;intros;refine F5 hx (by unfold aJ;decide) ?_;apply ws;intros;rw[show x-(aJ-1)=x-(y+z) by omega];exact T.dp h
def xU{p:Bool}(ha:a.dp<aJ/\a.dq<aJ/\a.cp<aJ/\a.cq<aJ)(h:T W L (K (.agg ⟨nm (gj a p)⟩))):T W L (bM (ak a) p K):=by
 obtain⟨h1,h2,h3,h4⟩:=ha;unfold bM;apply ws;intros;cases p with
 |true=>
  apply ws;intros;refine A0 h4 h1 h2 ?_;exact T.dp h
 |false=>
  apply ws;intros;refine A0 h2 h3 h4 ?_;exact T.dp h
end
def AH(a:aO)(d:Bool):Nat:=if d then a.dp else a.cp
def AF(a:aO)(d:Bool):Nat:=if d then a.dq else a.cq
def JF(a:aO)(d:Bool)(x y:Nat):aO:=if d then{a with dp:=x,dq:=y} else{a with cp:=x,cq:=y}
def CR(d:Bool):Int:=if d then 2 else 4
def QO(a:aO)(d:Bool)(n:Nat)(p:Bool):more a d n p=
 if aJ<=AH a d+AF a d+n then(a,32) else if has a.flags (CR d)/\gj a d<n then(a,if d then 33 else 34)
 else(JF a d (if p then AH a d+n else AH a d) (if p then AF a d else AF a d+n),0):=by
 cases d<;>cases p<;>rfl
section
variable {W:World} {L R:LH} {K:VK} {X Y:WK} {a:aO} {t:Move} {r1 r2 r3 r4 r5:Nat}
def AX{d:Bool}{x y n:Nat}(h:T W L (K (.tuple ⟨[.agg ⟨ak (JF a d x y)⟩,.i 0]⟩))):T W (Sep.pt r5 (nm y)::Sep.pt r4 (nm x)::Sep.pt r3 (ak zA)::Sep.pt r2 (nm n)::Sep.pt r1 (ak a)::L) (aP.j4 K d r4 r1 r5 r3):=by
 unfold aP.j4;unfold JF at h;cases d with
 |true=>
  apply ws;intros;exact T.dp h
 |false=>
  apply ws;intros;exact T.dp h
def AY{d p b:Bool}{x y n:Nat}(hx:x<aJ)(hy:y<aJ)(hn:n<aJ)(hs:x+y+n<aJ)
 (h:T W L (K (.tuple ⟨[.agg ⟨ak (if b=true then a else JF a d (if p then x+n else x) (if p then y else y+n))⟩,.i (if b=true then(if d then 33 else 34) else 0)]⟩))):
 T W (Sep.pt r5 (nm y)::Sep.pt r4 (nm x)::Sep.pt r3 (ak zA)::Sep.pt r2 (nm n)::Sep.pt r1 (ak a)::L) (aP.j3 K d r1 r3 p r4 r2 r5 b):=by
 unfold aP.j3;cases b with
 |true=>
  rw[if_pos rfl,if_pos rfl] at h;cases d with
  |true=>
   apply ws;intros;exact T.dp h
  |false=>
   apply ws;intros;exact T.dp h
 |false=>
  rw[if_neg aeq,if_neg aeq] at h;cases p with
  |true=>
   have e:add x n=x+n:=if_pos (by omega);apply ws;intros;refine pZ hx hn ?_;rw[e];apply ws;intros;exact AX h
  |false=>
   have e:add y n=y+n:=if_pos (by omega);apply ws;intros;refine pZ hy hn ?_;rw[e];apply ws;intros;exact AX h
def AZ{d p:Bool}{n:Nat}(ha:a.dp<aJ/\a.dq<aJ/\a.cp<aJ/\a.cq<aJ)(hn:n<aJ)(hf:0<=a.flags/\a.flags<256)(h:T W L (K (.tuple ⟨[.agg ⟨ak (more a d n p).1⟩,.i (more a d n p).2]⟩))):
 T W (Sep.pt r5 (nm (AF a d))::Sep.pt r4 (nm (AH a d))::Sep.pt r3 (ak zA)::Sep.pt r2 (nm n)::Sep.pt r1 (ak a)::L) (aP.j1 K r4 r5 r2 r1 r3 d p (CR d)):=by
 unfold aP.j1 aP.j2;have hx:AH a d<aJ:=by unfold AH;split<;>omega
 have hy:AF a d<aJ:=by unfold AF;split<;>omega
 have hand:bC .i64 .and a.flags (CR d)=0↔ ¬has a.flags (CR d):=by
  cases d
  ·exact Hc hf.1 hf.2
  ·exact Hd hf.1 hf.2
 rw[QO] at h;generalize hX:AH a d=x at *;generalize hY:AF a d=y at *;apply ws;intros;refine pZ hx hy ?_;apply ws;intros;refine pZ (BZ _ _) hn ?_;apply ws;intros;by_cases hs:x+y<aJ
 ·rw[decide_eq_true hs];have e:add x y=x+y:=if_pos hs;rw[e];apply ws;intros;by_cases fo:x+y+n<aJ
  ·rw[if_neg (by omega)] at h;rw[decide_eq_true fo];apply ws;intros;refine bw (λg1=>?_) (λg1=>?_)
   ·have g1:has a.flags (CR d):=Decidable.byContradiction λhh=>by rw[hand.2 hh] at g1;simp at g1
    apply ws;intros;refine xU ha ?_;apply ws;intros;refine uK ?_ hn ?_
    ·unfold gj;split<;>omega
    apply ws;intros;rename_i r6 r7;refine T.drop (T.drop (AY hx hy hn fo ?_));by_cases hl:gj a d<n
    ·rw[if_pos ⟨g1,hl⟩] at h;rw[if_pos (decide_eq_true hl),if_pos (decide_eq_true hl)];exact h
    ·rw[if_neg (λhh=>hl hh.2)] at h;rw[if_neg (λhh=>hl (of_decide_eq_true hh)),if_neg (λhh=>hl (of_decide_eq_true hh))];exact h
   ·have g1: ¬has a.flags (CR d):=hand.1 (by simpa using g1);rw[if_neg (λhh=>g1 hh.1)] at h;exact T.drop (T.drop (AY hx hy hn fo (by rw[if_neg aeq,if_neg aeq];exact h)))
  ·rw[if_pos (by omega)] at h;rw[decide_eq_false fo];apply ws;intros;exact T.dp h
 ·rw[if_pos (by omega)] at h;rw[decide_eq_false hs];apply ws;intros;exact T.dp h
def C9{d p:Bool}{n:Nat}(ha:a.dp<aJ/\a.dq<aJ/\a.cp<aJ/\a.cq<aJ)(hn:n<aJ)(hf:0<=a.flags/\a.flags<256)(h:T W L (K (.tuple ⟨[.agg ⟨ak (more a d n p).1⟩,.i (more a d n p).2]⟩))):T W L (aP (ak a) d (nm n) p K):=by
 unfold aP;apply ws;intros;cases d with
 |true=>
  apply ws;intros;exact AZ (d:=true) ha hn hf h
 |false=>
  apply ws;intros;exact AZ (d:=false) ha hn hf h
end
structure KM(k:Kept):Prop where
 asked:u3 k.asked
 move:u3 k.move
 qF:0<=k.asked.flags/\k.asked.flags<256
 rQ:0<=k.move.flags/\k.move.flags<256
 timeout:0<=k.move.timeout/\k.move.timeout<=1073741824
 born:0<=k.move.born/\k.move.born<=1099511627776
structure RM(m:Model):Prop where
 ground:Md.Ground m
 clock:0<=m.clock/\m.clock<=1099511627776
 ae:m.ae=m.made.length+m.kept.length
 made:∀a∈m.made,vn a
 kept:∀k∈m.kept,KM k
def RM.sG{m:Model}(hg:Good (bo m))(pT:Md.Ground m):RM m:=by
 refine⟨pT,hg.clock,?_,λa ha=>?_,λk hk=>?_⟩
 ·have:=hg.ae;unfold bo at this;simpa using this
 ·have h1:=(hg.MB (Md.full m.kept a) (List.mem_map_of_mem ha)).ok;obtain⟨z1,z2,z3,z4,z5,z6⟩:=pT.zero a ha;exact⟨h1.id,by rw[z1];decide,by rw[z2];decide,by rw[z3];decide,by rw[z4];decide,h1.aG,h1.code,⟨by omega,by omega⟩,h1.ae⟩
 ·have h1:=hg.Ml k hk;exact⟨h1.asked,h1.move,h1.qF,h1.rQ,h1.timeout,h1.born⟩
def RM.Wa{m:Model}(h:RM m):∀a∈m.made,Hn a:=λa ha=>by
 obtain⟨z1,z2,z3,z4,z5,z6⟩:=h.ground.zero a ha;have:(0:Nat)<aJ:=by decide
 exact⟨by omega,by omega,by omega,by omega,by omega,by omega⟩
def RM.W5{m:Model}(h:RM m):∀k∈m.kept,WH k:=λk hk=>by
 have h1:=h.kept k hk;exact⟨h1.move.aA,h1.rQ.1,by have:=h1.rQ.2;omega⟩
def RM.lu{m:Model}(h:RM m):m.made.length<=32:=h.ground.lu
def RM.many{m:Model}(h:RM m):m.kept.length<=96:=h.ground.some_
def DP{a:aO}(h:qM a=0):0<=a.flags/\a.flags<=7:=by
 unfold qM at h;by_cases h1:a.flags<0\/7<a.flags
 ·rw[if_pos h1] at h;omega
 ·omega
def sj{t:Move}(h:kF t=0):(0<=t.flags/\t.flags<=255)/\0<=t.timeout/\t.timeout<=1073741824:=by
 unfold kF at h;by_cases h1:t.flags<0\/255<t.flags
 ·rw[if_pos h1] at h;omega
 rw[if_neg h1] at h;by_cases h2:t.id=0
 ·rw[if_pos h2] at h;omega
 rw[if_neg h2] at h;by_cases h3:t.id=aJ-1
 ·rw[if_pos h3] at h;omega
 rw[if_neg h3] at h;by_cases h4: ¬fx t.flags
 ·rw[if_pos h4] at h;omega
 rw[if_neg h4] at h;by_cases h5:t.ae≠0\/t.born≠0
 ·rw[if_pos h5] at h;omega
 rw[if_neg h5] at h;by_cases h6:t.timeout<0\/1073741824<t.timeout\/0<t.timeout/\ ¬has t.flags 2
 ·rw[if_pos h6] at h;omega
 ·omega
def RP{m:Model}(hg:Md.Ground m)(a:aO):Md.Ground (m.make a).2:=((o5 m).make hg).2.2
def RO{m:Model}(hg:Md.Ground m)(t:Move):Md.Ground (m.move t).2:=((o5 m).move hg).2.2
def RQ{m:Model}(hg:Md.Ground m)(t:Move):Md.Ground (m.me t).2:=((o5 m).me hg).2.2
def RM.make{m:Model}{a:aO}(h:RM m)(ha:vn a):RM (m.make a).2:=by
 have pT:=RP h.ground a;have e:(m.make a).2=m\/(qM a=0/\(m.make a).2={m with ae:=m.ae+1,made:=m.made++[{a with ae:=m.ae+1,flags:=a.flags/2* 2}]}):=by
  unfold Model.make;by_cases h1:qM a≠0
  ·rw[if_pos h1];exact .inl rfl
  ·rw[if_neg h1];split
   ·exact .inl rfl
   ·by_cases h2:32<=m.made.length
    ·rw[if_pos h2];exact .inl rfl
    ·rw[if_neg h2];exact .inr ⟨by omega,rfl⟩
 rcases e with e|⟨hc,e⟩
 ·rw[e];exact h
 ·rw[e] at pT⊢;have hf:=DP hc;have rX:=h.lu;have rV:=h.many;have rK:=h.ae;refine⟨pT,h.clock,?_,λx hx=>?_,h.kept⟩
  ·show m.ae+1=((m.made++[_]).length:Int)+(m.kept.length:Int);rw[ad0,afk];omega
  ·rcases aeB.1 hx with hx|hx
   ·exact h.made x hx
   ·cases(show x=_ by simpa using hx)
    exact⟨ha.id,ha.dp,ha.dq,ha.cp,ha.cq,ha.aG,ha.code,⟨by show _<=a.flags/2* 2;omega,by show a.flags/2* 2<=_;omega⟩,⟨by show _<=m.ae+1;omega,by show m.ae+1<=_;omega⟩⟩
def RM.jA{m:Model}{t u:Move}{fate:Int}(h:RM m)(pT:Md.Ground (m.jA t u fate))(hm:m.kept.length<96)(ht:u3 t)(hu:u3 u)(hf:0<=t.flags/\t.flags<256)(huf:u.flags=t.flags)(ZT:0<=u.timeout/\u.timeout<=1073741824):RM (m.jA t u fate):=by
 have rK:=h.ae;have rX:=h.lu;have Yd:=h.clock;refine⟨pT,h.clock,?_,h.made,λk hk=>?_⟩
 ·show m.ae+1=(m.made.length:Int)+((m.kept++[_]).length:Int);rw[ad0,afk];omega
 ·rcases aeB.1 hk with hk|hk
  ·exact h.kept k hk
  ·cases(show k=_ by simpa using hk)
   exact⟨ht,⟨hu.id,hu.aD,hu.aq,hu.aA,hu.pending,hu.timeout,hu.aG,hu.code,hu.flags,⟨by show _<=m.ae+1;omega,by show m.ae+1<=_;omega⟩,⟨by show _<=m.clock;omega,by show m.clock<=_;omega⟩⟩,hf,by show 0<=u.flags/\u.flags<256;omega,ZT,h.clock⟩
def RM.cJ{m:Model}(h:RM m)(i:Nat)(f:Int)(pT:Md.Ground (m.cJ i f)):RM (m.cJ i f):=by
 refine⟨pT,h.clock,?_,h.made,λk hk=>?_⟩
 ·show m.ae=(m.made.length:Int)+((m.kept.modify i _).length:Int);rw[List.length_modify];exact h.ae
 ·have hk:k∈m.kept.modify i λk=>{k with fate:=f}:=hk;by_cases hi:i<m.kept.length
  ·rw[modify_eq _ _ _ hi] at hk;rcases aeC hk with hh|hh
   ·exact h.kept k hh
   ·have:=h.kept _ (aej hi);subst hh;exact⟨this.asked,this.move,this.qF,this.rQ,this.timeout,this.born⟩
  ·have:m.kept.modify i (λk=>{k with fate:=f})=m.kept:=List.modify_eq_self (by omega);rw[this] at hk;exact h.kept k hk
def Cq{t:Move}{named:Option Kept}{d c:Option aO}{many:Nat}(h:(gN t named d c many).1=0):(gN t named d c many).2<aJ:=by
 obtain⟨d',c',-,-,-,-,-,-,-,-,-,h1,-⟩:=ue h;omega
def RM.move{m:Model}{t:Move}(h:RM m)(ht:u3 t):RM (m.move t).2:=by
 have pT:=RO h.ground t;unfold Model.move at pT⊢;dsimp only at pT⊢;by_cases h1:(gN t (m.named t.id) ((m.find t.aD).map m.full) ((m.find t.aq).map m.full) m.kept.length).1≠0
 ·rw[if_pos h1];exact h
 ·rw[if_neg h1] at pT⊢;have h1:=aea.1 h1;have ham:=Cq h1;obtain⟨d',c',-,-,-,hc,-,-,-,-,rV,-⟩:=ue h1;obtain⟨z1,z2⟩:=sj hc;exact h.jA pT rV ht ⟨ht.id,ht.aD,ht.aq,ham,ht.pending,ht.timeout,ht.aG,ht.code,ht.flags,ht.ae,ht.born⟩ ⟨z1.1,by omega⟩ rfl z2
def RM.me{m:Model}{t:Move}(h:RM m)(ht:u3 t):RM (m.me t).2:=by
 have pT:=RQ h.ground t;unfold Model.me at pT⊢;cases hn:m.name t.pending with
 |none=>exact h
 |some i=>
  rw[hn] at pT;dsimp only at pT⊢;cases hk:m.kept[i]? with
  |none=>exact h
  |some k=>
   rw[hk] at pT;dsimp only at pT⊢;by_cases h1:kT t (m.named t.id) (some k) (m.closed k.move.aD i) (m.closed k.move.aq i) m.kept.length≠0
   ·rw[if_pos h1];exact h
   ·rw[if_neg h1] at pT⊢;have h1:=aea.1 h1;obtain⟨Lt,Wt⟩:=adZ.1 hk;have mu:=aep hk;have hf:=h.ground.tv k mu;obtain⟨-,hc,he,hw,Rd,-,rV⟩:=BF h1 hf.1;obtain⟨z1,z2⟩:=sj hc;have J4:=h.kept k mu;have aaO:m.kept[i].fate=1:=by rw[Wt];have:=hf.2.2.1 hw;omega
    have Lk:=h.ground.cJ Lt aaO (f:=bU t) (by unfold bU;split<;>omega);refine(h.cJ i (bU t) Lk).jA pT (by show(m.kept.modify i _).length<96;rw[List.length_modify];exact rV) ht ?_ ⟨z1.1,by omega⟩ rfl z2;refine⟨ht.id,J4.move.aD,J4.move.aq,?_,ht.pending,ht.timeout,J4.move.aG,J4.move.code,ht.flags,ht.ae,ht.born⟩;show bJ t k.move<aJ;unfold bJ;split
    ·exact J4.move.aA
    ·exact ht.aA
def RM.ov{m:Model}{t:Move}(h:RM m)(ht:u3 t):RM (m.ov t).2:=by
 unfold Model.ov;split
 ·exact h.me ht
 ·exact h.move ht
def RM.time{m:Model}(h:RM m)(now:Int)(h0:0<=now):RM (m.time now):=by
 refine⟨yE h.ground now,?_,?_,h.made,λk hk=>?_⟩
 ·show 0<=(if m.clock<now/\now<=1099511627776 then now else m.clock)/\(if m.clock<now/\now<=1099511627776 then now else m.clock)<=1099511627776;have:=h.clock;split<;>omega
 ·show m.ae=(m.made.length:Int)+((m.kept.map _).length:Int);rw[aen];exact h.ae
 ·obtain⟨x,hx,rfl⟩:=aeI.1 hk;have:=h.kept x hx;have Un:∀(p:Prop) [Decidable p],KM (if p then{x with fate:=4} else x):=λp _=>by
   by_cases hp:p
   ·rw[if_pos hp];exact⟨this.asked,this.move,this.qF,this.rQ,this.timeout,this.born⟩
   ·rw[if_neg hp];exact this
  exact Un _
def nC{α:Type}(P:α->Bool)(l:List α):(l.find? P=none/\l.findIdx? P=none/\Bp P l= -1)\/∃i x,l[i]?=some x/\P x=true/\l.find? P=some x/\l.findIdx? P=some i/\Bp P l=(i:Int):=by
 cases h:l.findIdx? P with
 |none=>
  left
  have h2:=List.findIdx?_eq_none_iff.1 h;refine⟨afh.2 λx hx=>by rw[h2 x hx];decide,rfl,?_⟩;unfold Bp;rw[h]
 |some i=>
  right
  obtain⟨hi,h1,h2⟩:=List.findIdx?_eq_some_iff_getElem.1 h;refine⟨i,l[i],adX hi,h1,?_,rfl,?_⟩
  ·rw[List.find?_eq_some_iff_getElem];exact⟨h1,i,hi,rfl,λj hj=>by simpa using h2 j hj⟩
  ·unfold Bp;rw[h]
section
variable {W:World} {L R:LH} {K:VK} {X:WK} {p:Nat} {m:Model} {mb kb:OA} {mc kc:Nat} {a:aO} {t:Move}
def T.Mj{A:HP}(h:T W (ML p m mb mc kb kc (A::R)) X):T W (A::ML p m mb mc kb kc R) X:=
 T.perm h (ad7 (l₁:=[A]) (l₂:=[_,_,_])|>.append_right R)
def T.in1{A:HP}(h:T W (A::ML p m mb mc kb kc R) X):T W (ML p m mb mc kb kc (A::R)) X:=
 T.perm h (ad7 (l₁:=[_,_,_]) (l₂:=[A])|>.append_right R)
def Qt(hm:RM m)(ha:vn a)(h:∀mb' mc',T W (ML p (m.make a).2 mb' mc' kb kc R) (K (.i (m.make a).1))):T W (ML p m mb mc kb kc R) (gL (some ⟨p,0,none⟩) (ak a) K):=by
 unfold gL;have rX:=hm.lu;have rV:=hm.many;have rK:=hm.ae;apply ws;intros;rename_i r1;refine H7 ha ?_;apply ws;intros;unfold Model.make at h;refine bw (λg1=>?_) (λg1=>?_)
 ·have g1:qM a≠0:=by simpa using g1
  rw[if_pos g1] at h;have:=h mb mc;exact T.dp this
 have g1:qM a=0:=by simpa using g1
 rw[if_neg (λhh=>hh g1)] at h;have z':=DP g1;apply ws;intros;refine T.Mj ?_;refine sE (by omega) ?_;apply ws;intros;unfold Model.find at h;rcases nC (λx:aO=>decide (x.id=a.id)) m.made with⟨f1,f2,f3⟩|⟨i,x,f1,f2,f3,f4,f5⟩
 ·rw[f1] at h;dsimp only at h;rw[f3];refine dO (by decide) ?_;apply ws;intros;refine dX (λg2=>?_) (λg2=>?_)
  ·rw[if_pos (by omega)] at h;refine T.in1 ?_;exact T.drop (h mb mc)
  ·rw[if_neg (by omega)] at h;have e1:adU.wrap (m.ae+1)=m.ae+1:=ar (by omega);have e2:adU.wrap (adU.wrap (a.flags.tdiv 2)* 2)=a.flags/2* 2:=by rw[uT z'.1 (by omega) (by decide),ar (by omega)]
   apply ws;intros;rw[e1];refine cL (by decide) ?_;rw[e2];apply ws;intros;refine hG (b:=mb) (g:=ak) (l:=m.made) (x:={a with ae:=m.ae+1,flags:=a.flags/2* 2}) (aei _) rfl rfl (by show(m.made.length+1)* 112<=_;omega) (by show m.made.length+1<=_;omega) (eX _) λb' c'=>?_;apply ws;intros;have:=h b' c';unfold ML Be at this;simp only[ad0,aee,aes,ad1] at this;refine T.sub this ?_;exact lW
 ·rw[f3] at h;dsimp only at h;rw[f5];have Lt:=(adZ.1 f1).1;have hz:=hm.ground.zero x (aep f1);refine jN (decide_eq_true (by omega)) ?_;apply ws;intros;refine bR (b:=mb) ⟨by omega,by omega⟩ λrb hb=>?_;rw[adY];subst hb;refine dA ff f1 ?_;refine H9 (by omega) (by omega) ?_;apply ws;intros;refine T.in1 ?_;exact T.drop (h _ mc)
end
def Ue(m:Model)(t:Move)(d c:aO)(n:Nat):Int×Model:=
 if(more d true n (decide (has t.flags 2))).2≠0 then((more d true n (decide (has t.flags 2))).2,m)
 else if(more c false n (decide (has t.flags 2))).2≠0 then((more c false n (decide (has t.flags 2))).2,m)
 else(0,m.jA t {t with aA:=n} (waits t))
def Wi(m:Model)(t:Move)(d c:aO)(n:Nat):Int×Model:=
 if has t.flags 32 then(if min n (gj c false)=0 then(34,m) else Ue m t d c (min n (gj c false))) else Ue m t d c n
def Xk(m:Model)(t:Move)(d c:aO)(n:Nat):Int×Model:=
 if has t.flags 16 then(if min n (gj d true)=0 then(33,m) else Wi m t d c (min n (gj d true))) else Wi m t d c n
def Xj{m:Model}{t:Move}{d c:aO}(h1:kF t=0)(h2: ¬gw t.flags)(h3:m.named t.id=none)(hd:(m.find t.aD).map m.full=some d)(hc:(m.find t.aq).map m.full=some c)
 (h4:d.aG=c.aG)(h5:d.aG=t.aG)(h6: ¬8<=d.flags)(h7: ¬8<=c.flags)(h8: ¬96<=m.kept.length):m.move t=Xk m t d c (if t.aA=0 then aJ-1 else t.aA):=by
 unfold Model.move gN;rw[hd,hc,h3];dsimp only;rw[if_neg (show ¬kF t≠0 from λhh=>hh h1),if_neg h2,if_neg (show ¬d.aG≠c.aG from λhh=>hh h4),if_neg (show ¬d.aG≠t.aG from λhh=>hh h5),if_neg h6,if_neg h7,if_neg h8];have key:∀n:Nat,bF t d c=(n,0)->(let r:=(if(bF t d c).2≠0 then((bF t d c).2,0) else if(more d true (bF t d c).1 (decide (has t.flags 2))).2≠0 then((more d true (bF t d c).1 (decide (has t.flags 2))).2,0)
                         else if(more c false (bF t d c).1 (decide (has t.flags 2))).2≠0 then((more c false (bF t d c).1 (decide (has t.flags 2))).2,0) else(0,(bF t d c).1):Int×Nat)
                         if r.1≠0 then(r.1,m) else(0,m.jA t {t with aA:=r.2} (waits t)))=Ue m t d c n:=λn he=>by
  rw[he];dsimp only;rw[if_neg (show ¬((0:Int)≠0) from λhh=>hh rfl)];unfold Ue;by_cases g1:(more d true n (decide (has t.flags 2))).2≠0
  ·rw[if_pos g1,if_pos g1,if_pos g1]
  ·rw[if_neg g1,if_neg g1];by_cases g2:(more c false n (decide (has t.flags 2))).2≠0
   ·rw[if_pos g2,if_pos g2,if_pos g2]
   ·rw[if_neg g2,if_neg g2]
    rfl
 have bad:∀r:Int,r≠0->bF t d c=(0,r)->(let r:=(if(bF t d c).2≠0 then((bF t d c).2,0) else if(more d true (bF t d c).1 (decide (has t.flags 2))).2≠0 then((more d true (bF t d c).1 (decide (has t.flags 2))).2,0)
  else if(more c false (bF t d c).1 (decide (has t.flags 2))).2≠0 then((more c false (bF t d c).1 (decide (has t.flags 2))).2,0) else(0,(bF t d c).1):Int×Nat)
  if r.1≠0 then(r.1,m) else(0,m.jA t {t with aA:=r.2} (waits t)))=(r,m):=λr hr he=>by
  rw[he];dsimp only;rw[if_pos hr,if_pos hr]
 unfold Xk Wi;generalize hn:(if t.aA=0 then aJ-1 else t.aA)=n;by_cases a1:has t.flags 16
 ·rw[if_pos a1];by_cases a2:min n (gj d true)=0
  ·rw[if_pos a2];refine bad 33 (by decide) ?_;unfold bF;rw[hn];simp only[if_pos a1,a1,a2,and_self,if_true]
  ·rw[if_neg a2];by_cases a3:has t.flags 32
   ·rw[if_pos a3];by_cases a4:min (min n (gj d true)) (gj c false)=0
    ·rw[if_pos a4];refine bad 34 (by decide) ?_;unfold bF;rw[hn];simp only[if_pos a1,if_pos a3,a1,a2,a3,a4,and_self,if_true,and_false,if_false]
    ·rw[if_neg a4];refine key _ ?_;unfold bF;rw[hn];simp only[if_pos a1,if_pos a3,a1,a2,a3,a4,and_self,if_true,and_false,if_false]
   ·rw[if_neg a3];refine key _ ?_;unfold bF;rw[hn];simp only[if_pos a1,if_neg a3,a1,a2,a3,and_self,if_true,and_false,false_and,if_false]
 ·rw[if_neg a1];by_cases a3:has t.flags 32
  ·rw[if_pos a3];by_cases a4:min n (gj c false)=0
   ·rw[if_pos a4];refine bad 34 (by decide) ?_;unfold bF;rw[hn];simp only[if_neg a1,if_pos a3,a1,a3,a4,and_self,if_true,and_false,false_and,if_false]
   ·rw[if_neg a4];refine key _ ?_;unfold bF;rw[hn];simp only[if_neg a1,if_pos a3,a1,a3,a4,and_self,if_true,and_false,false_and,if_false]
  ·rw[if_neg a3];refine key _ ?_;unfold bF;rw[hn];simp only[if_neg a1,if_neg a3,a1,a3,and_self,if_true,and_false,false_and,if_false]
section
variable {W:World} {L R:LH} {K:VK} {X:WK} {p:Nat} {m:Model} {mb kb:OA} {mc kc:Nat} {a d c:aO} {t:Move} {r1 r2 r3 r4 r5:Nat} {n:Nat}
def T.Fy{L':LH}{A:HP}(h:T W (ML p m mb mc kb kc (A::L')) X):T W (A::ML p m mb mc kb kc L') X:=T.Mj h
def F0(hm:m.kept.length<1000000)(hs:0<=m.ae/\m.ae<1000000)(hd:Hn d)(hc:Hn c)(PH:d.flags<256)(PM:c.flags<256)(hf:0<=t.flags/\t.flags<1000000)(hn:n<aJ)
 (h:∀kb' kc',T W (ML p (Ue m t d c n).2 mb mc kb' kc' R) (K (.i (Ue m t d c n).1))):
 T W (ML p m mb mc kb kc (Sep.pt r5 (nm n)::Sep.pt r4 [.u 0,.u 0]::Sep.pt r3 (ak c)::Sep.pt r2 (ak d)::Sep.pt r1 (aj t)::R)) (aM.j3 K r1 r2 r5 r3 (some ⟨p,0,none⟩)):=by
 obtain⟨d1,d2,d3,d4,d5,d6⟩:=hd;obtain⟨c1,c2,c3,c4,c5,c6⟩:=hc;unfold aM.j3;unfold Ue at h;apply ws;intros;refine hO hf (by decide) ?_;apply ws;intros;refine C9 ⟨d1,d2,d3,d4⟩ hn ⟨d5,PH⟩ ?_;refine P' ?_;refine xF (by rfl) ?_;apply ws;intros;refine bw (λg1=>?_) (λg1=>?_)
 ·have g1:=bne_iff_ne.1 g1;rw[if_pos g1] at h;refine T.sub (h kb kc) ?_;exact lW
 have g1:(more d true n (decide (has t.flags 2))).2=0:=by simpa using g1
 rw[if_neg (λhh=>hh g1)] at h;apply ws;intros;refine C9 ⟨c1,c2,c3,c4⟩ hn ⟨c5,PM⟩ ?_;refine P' ?_;refine xF (by rfl) ?_;apply ws;intros;refine bw (λg2=>?_) (λg2=>?_)
 ·have g2:=bne_iff_ne.1 g2;rw[if_pos g2] at h;refine T.sub (h kb kc) ?_;exact lW
 have g2:(more c false n (decide (has t.flags 2))).2=0:=by simpa using g2
 rw[if_neg (λhh=>hh g2)] at h;apply ws;intros;rename_i r6;refine T.Fy ?_;by_cases hw:has t.flags 2
 ·rw[decide_eq_true hw];rw[show waits t=1 from if_pos hw] at h;apply ws;intros;refine Eh hm hs λb' c'=>?_;apply ws;intros;refine T.sub (h b' c') ?_;exact lW
 ·rw[decide_eq_false hw];rw[show waits t=0 from if_neg hw] at h;apply ws;intros;refine Eh hm hs λb' c'=>?_;apply ws;intros;refine T.sub (h b' c') ?_;exact lW
def Dl(a b:Nat):(if a<b then a else b)=min a b:=by split<;>omega
def Dz{a:aO}{b:Bool}(h:Hn a):gj a b<aJ:=by
 obtain⟨h1,h2,h3,h4,_⟩:=h;unfold gj;split<;>omega
def F1(hm:m.kept.length<1000000)(hs:0<=m.ae/\m.ae<1000000)(hd:Hn d)(hc:Hn c)(PH:d.flags<256)(PM:c.flags<256)(hf:0<=t.flags/\t.flags<1000000)(hn:n<aJ)
 (h:∀kb' kc',T W (ML p (Wi m t d c n).2 mb mc kb' kc' R) (K (.i (Wi m t d c n).1))):
 T W (ML p m mb mc kb kc (Sep.pt r5 (nm n)::Sep.pt r4 [.u 0,.u 0]::Sep.pt r3 (ak c)::Sep.pt r2 (ak d)::Sep.pt r1 (aj t)::R)) (aM.j2 K r1 r5 r3 r4 r2 (some ⟨p,0,none⟩)):=by
 have hl:=Dz (b:=false) hc;unfold aM.j2;unfold Wi at h;apply ws;intros;refine hO hf (by decide) ?_;by_cases hw:has t.flags 32
 ·rw[decide_eq_true hw];rw[if_pos hw] at h;apply ws;intros;refine xU ⟨hc.1,hc.2.1,hc.2.2.1,hc.2.2.2.1⟩ ?_;refine xF (by rfl) ?_;apply ws;intros;refine AW hn hl ?_;refine xF (by rfl) ?_;rw[Dl];apply ws;intros;refine dX (λg1=>?_) (λg1=>?_)
  ·rw[if_pos g1] at h;refine T.sub (h kb kc) ?_;exact lW
  ·rw[if_neg g1] at h;exact F0 hm hs hd hc PH PM hf (by omega) h
 ·rw[decide_eq_false hw];rw[if_neg hw] at h;apply ws;intros;exact F0 hm hs hd hc PH PM hf hn h
def F2(hm:m.kept.length<1000000)(hs:0<=m.ae/\m.ae<1000000)(hd:Hn d)(hc:Hn c)(PH:d.flags<256)(PM:c.flags<256)(hf:0<=t.flags/\t.flags<1000000)(hn:n<aJ)
 (h:∀kb' kc',T W (ML p (Xk m t d c n).2 mb mc kb' kc' R) (K (.i (Xk m t d c n).1))):
 T W (ML p m mb mc kb kc (Sep.pt r5 (nm n)::Sep.pt r4 [.u 0,.u 0]::Sep.pt r3 (ak c)::Sep.pt r2 (ak d)::Sep.pt r1 (aj t)::R)) (aM.j1 K r1 r5 r2 r4 r3 (some ⟨p,0,none⟩)):=by
 have hl:=Dz (b:=true) hd;unfold aM.j1;unfold Xk at h;apply ws;intros;refine hO hf (by decide) ?_;by_cases hw:has t.flags 16
 ·rw[decide_eq_true hw];rw[if_pos hw] at h;apply ws;intros;refine xU ⟨hd.1,hd.2.1,hd.2.2.1,hd.2.2.2.1⟩ ?_;refine xF (by rfl) ?_;apply ws;intros;refine AW hn hl ?_;refine xF (by rfl) ?_;rw[Dl];apply ws;intros;refine dX (λg1=>?_) (λg1=>?_)
  ·rw[if_pos g1] at h;refine T.sub (h kb kc) ?_;exact lW
  ·rw[if_neg g1] at h;exact F1 hm hs hd hc PH PM hf (by omega) h
 ·rw[decide_eq_false hw];rw[if_neg hw] at h;apply ws;intros;exact F1 hm hs hd hc PH PM hf hn h
end
section
variable {W:World} {L R:LH} {K:VK} {X:WK} {p:Nat} {m:Model} {mb kb:OA} {mc kc:Nat} {a d c:aO} {t:Move} {r1 r2 r3 r4 r5:Nat} {n:Nat}
def MW{α:Type}{r n c e o j q:Nat}{l:List α}{x:α}{g:α->LV}{f:HP->LH}{ys:LV}{K:LV->WK}[i:o8 (some ⟨r,0,none⟩) n c L e (l.flatMap g) f](hf:∀x,(g x).length=e)(hx:l[o]?=some x)[s:Sub (g x) j q ys](h:T W L (K ys)):T W L (ai ⟨r,o* e+j,none⟩ q K):=λw hs=>by
 obtain⟨k,hk,_⟩:=i.at_;exact z7 hs hk s.is.1 (λu v hu=>by rw[Nat.add_assoc];exact nU hf l o x hx _ v (s.is.2 u v hu)) (h w hs)
def MX{α:Type}{r n c e o q:Nat}{l:List α}{x:α}{g:α->LV}{f:HP->LH}{ys:LV}{K:LV->WK}[i:o8 (some ⟨r,0,none⟩) n c L e (l.flatMap g) f](hf:∀x,(g x).length=e)(hx:l[o]?=some x)[s:Sub (g x) 0 q ys](h:T W L (K ys)):T W L (ai ⟨r,o* e,none⟩ q K):=MW (j:=0) hf hx h
def y8{m:Model}(h:RM m){a:aO}(ha:a∈m.made):Hn (m.full a)/\(m.full a).flags<256/\(m.full a).aG=a.aG:=by
 have h1:=FW m.kept (h.Wa a ha);refine⟨h1,?_,?_⟩
 ·rw[h.ground.full ha];obtain⟨z1,z2,z3,z4,z5,z6⟩:=h.ground.zero a ha;show(if S (qy a.id) m.kept=0 then a.flags else a.flags%8+8)<256;split<;>omega
 ·rw[h.ground.full ha];rfl
def OO{m:Model}{t:Move}{r:Int}(hr:r≠0)(h:gN t (m.named t.id) ((m.find t.aD).map m.full) ((m.find t.aq).map m.full) m.kept.length=(r,0)):m.move t=(r,m):=by
 unfold Model.move;rw[h];dsimp only;rw[if_pos hr]
def JB(hm:RM m)(ht:u3 t)(h:∀kb' kc',T W (ML p (m.move t).2 mb mc kb' kc' R) (K (.i (m.move t).1))):T W (ML p m mb mc kb kc R) (aM (some ⟨p,0,none⟩) (aj t) K):=by
 unfold aM;have rX:=hm.lu;have rV:=hm.many;have rK:=hm.ae;apply ws;intros;rename_i r1;refine vH ht ?_;apply ws;intros;have pw:∀r:Int,r≠0->gN t (m.named t.id) ((m.find t.aD).map m.full) ((m.find t.aq).map m.full) m.kept.length=(r,0)->∀kb' kc',T W (ML p m mb mc kb' kc' R) (K (.i r)):=λr hr he kb' kc'=>by
  have:=h kb' kc';rw[OO hr he] at this;exact this
 unfold gN at pw;refine bw (λg1=>?_) (λg1=>?_)
 ·have g1:kF t≠0:=by simpa using g1
  rw[if_pos g1] at pw;have:=pw _ g1 rfl kb kc;exact T.dp this
 have g1:kF t=0:=by simpa using g1
 rw[if_neg (λhh=>hh g1)] at pw;obtain⟨z',ZT⟩:=sj g1;have hf:0<=t.flags/\t.flags<1000000:=by omega
 apply ws;intros;refine rO hf ?_;apply ws;intros;refine dX (λg2=>?_) (λg2=>?_)
 ·rw[if_pos g2] at pw;have:=pw _ (by decide) rfl kb kc;exact T.dp this
 rw[if_neg g2] at pw;apply ws;intros;refine T.Mj ?_;refine Eg (by omega) ?_;apply ws;intros;have J0:m.named t.id=m.kept.find? λk=>decide (k.move.id=t.id):=rfl;rcases nC (λx:Kept=>decide (x.move.id=t.id)) m.kept with⟨f1,f2,f3⟩|⟨i,x,f1,f2,f3,f4,f5⟩
 rotate_left
 ·rw[J0,f3] at pw;dsimp only at pw;rw[f5];have Lt:=(adZ.1 f1).1;have hx:=hm.kept x (aep f1);refine jN (decide_eq_true (by omega)) ?_;apply ws;intros;refine bR (b:=kb) ⟨by omega,by omega⟩ λrb hb=>?_;rw[adY];subst hb;refine MX fF f1 ?_;refine A1 hf ⟨hx.qF.1,by have:=hx.qF.2;omega⟩ ?_;apply ws;intros;refine T.sub (pw _ (oR _ _) rfl (some ⟨rb,0,none⟩) kc) ?_;exact lW
 rw[J0,f1] at pw;dsimp only at pw;rw[f3];refine dO (by decide) ?_;apply ws;intros;refine sE (by omega) ?_;apply ws;intros;refine sE (by omega) ?_;apply ws;intros;have Lx:m.find t.aD=m.made.find? λa=>decide (a.id=t.aD):=rfl;have S5:m.find t.aq=m.made.find? λa=>decide (a.id=t.aq):=rfl;rcases nC (λx:aO=>decide (x.id=t.aD)) m.made with⟨d1,d2,d3⟩|⟨i,d,d1,d2,d3,d4,d5⟩
 ·rw[Lx,d1] at pw;rw[d3];refine jN (by decide) ?_;refine T.sub (pw 19 (by decide) rfl kb kc) ?_;exact lW
 rw[Lx,d3] at pw;rw[d5];refine dO (decide_eq_false (by omega)) ?_;rcases nC (λx:aO=>decide (x.id=t.aq)) m.made with⟨c1,c2,c3⟩|⟨j,c,c1,c2,c3,c4,c5⟩
 ·rw[S5,c1] at pw;rw[c3];refine jN (by decide) ?_;refine T.sub (pw 20 (by decide) rfl kb kc) ?_;exact lW
 rw[S5,c3] at pw;rw[c5];refine dO (decide_eq_false (by omega)) ?_;dsimp only[aeK] at pw;have ED:=aep d1;have Mw:=aep c1;obtain⟨hda,PH,xg⟩:=y8 hm ED;obtain⟨hca,PM,l9⟩:=y8 hm Mw;refine zQ (by omega) d1 (hm.Wa d ED) hm.W5 ?_;refine xF (by rfl) ?_;apply ws;intros;rename_i r2;refine T.Fy ?_;refine zQ (by omega) c1 (hm.Wa c Mw) hm.W5 ?_;refine xF (by rfl) ?_;apply ws;intros;rename_i r3;refine T.Fy ?_;have ed:m.kept.foldl sC d=m.full d:=rfl;have ec:m.kept.foldl sC c=m.full c:=rfl;rw[ed,ec];refine bw (λg3=>?_) (λg3=>?_)
 ·have g3:=bne_iff_ne.1 g3;rw[if_pos g3] at pw;refine T.sub (pw _ (by decide) rfl kb kc) ?_;exact lW
 have g3:(m.full d).aG=(m.full c).aG:=by simpa using g3
 rw[if_neg (λhh=>hh g3)] at pw;apply ws;intros;refine bw (λg4=>?_) (λg4=>?_)
 ·have g4:=bne_iff_ne.1 g4;rw[if_pos g4] at pw;refine T.sub (pw _ (by decide) rfl kb kc) ?_;exact lW
 have g4:(m.full d).aG=t.aG:=by simpa using g4
 rw[if_neg (λhh=>hh g4)] at pw;apply ws;intros;refine dX (λg5=>?_) (λg5=>?_)
 ·rw[if_pos (show 8<=(m.full d).flags by omega)] at pw;refine T.sub (pw _ (by decide) rfl kb kc) ?_;exact lW
 rw[if_neg (show ¬8<=(m.full d).flags by omega)] at pw;apply ws;intros;refine dX (λg6=>?_) (λg6=>?_)
 ·rw[if_pos (show 8<=(m.full c).flags by omega)] at pw;refine T.sub (pw _ (by decide) rfl kb kc) ?_;exact lW
 rw[if_neg (show ¬8<=(m.full c).flags by omega)] at pw;apply ws;intros;refine dX (λg7=>?_) (λg7=>?_)
 ·rw[if_pos (show 96<=m.kept.length by omega)] at pw;refine T.sub (pw _ (by decide) rfl kb kc) ?_;exact lW
 have hmi:=Xj (m:=m) (t:=t) (d:=m.full d) (c:=m.full c) g1 g2 (by rw[J0,f1]) (by rw[Lx,d3];rfl) (by rw[S5,c3];rfl) g3 g4 (by omega) (by omega) (by omega);rw[hmi] at h;apply ws;intros;rename_i r4 r5;refine dX (λg8=>?_) (λg8=>?_)
 ·rw[if_pos g8] at h;apply ws;intros;have ew:([.u 18446744073709551615,.u 18446744073709551615]:LV)=nm (aJ-1):=by unfold nm aJ;rfl
  rw[ew];refine T.perm (L:=ML p m mb mc kb kc (Sep.pt r5 (nm (aJ-1))::Sep.pt r4 [.u 0,.u 0]::Sep.pt r3 (ak (m.full c))::Sep.pt r2 (ak (m.full d))::Sep.pt r1 (aj t)::R)) ?_ (ad7 (l₁:=[Sep.pt r5 (nm (aJ-1)),Sep.pt r4 [.u 0,.u 0]]) (l₂:=[_,_,_])|>.append_right _);exact F2 (by omega) (by omega) hda hca PH PM hf (by unfold aJ;decide) h
 ·rw[if_neg g8] at h;refine T.perm (L:=ML p m mb mc kb kc (Sep.pt r5 (nm t.aA)::Sep.pt r4 [.u 0,.u 0]::Sep.pt r3 (ak (m.full c))::Sep.pt r2 (ak (m.full d))::Sep.pt r1 (aj t)::R)) ?_ (ad7 (l₁:=[Sep.pt r5 (nm t.aA),Sep.pt r4 [.u 0,.u 0]]) (l₂:=[_,_,_])|>.append_right _);exact F2 (by omega) (by omega) hda hca PH PM hf ht.aA h
end
def Oq(m:Model)(t:Move)(i:Nat)(k:Kept):Int×Model:=
 if iS t k.move then(26,m) else if has t.flags 4/\m.closed k.move.aD i=true then(30,m) else if has t.flags 4/\m.closed k.move.aq i=true then(31,m) else if 96<=m.kept.length then(35,m)
 else(0,(m.cJ i (bU t)).jA t (jV t k.move) 0)
def YA{m:Model}{t:Move}{i:Nat}{k:Kept}(h1:kF t=0)(h2:gw t.flags)(h3:m.named t.id=none)(hi:m.name t.pending=some i)(hk:m.kept[i]?=some k)
 (h4:has k.move.flags 2)(h5: ¬c8 t k.move)(h6: ¬1<k.fate):m.me t=Oq m t i k:=by
 unfold Model.me kT;rw[hi];dsimp only;rw[hk,h3];dsimp only;rw[if_neg (show ¬kF t≠0 from λhh=>hh h1),if_neg (show ¬ ¬gw t.flags from λhh=>hh h2),if_neg (show ¬ ¬has k.move.flags 2 from λhh=>hh h4),if_neg h5,if_neg h6];unfold Oq;by_cases a1:iS t k.move
 ·rw[if_pos a1,if_pos a1];rfl
 rw[if_neg a1,if_neg a1];by_cases a2:has t.flags 4/\m.closed k.move.aD i=true
 ·rw[if_pos a2,if_pos a2];rfl
 rw[if_neg a2,if_neg a2];by_cases a3:has t.flags 4/\m.closed k.move.aq i=true
 ·rw[if_pos a3,if_pos a3];rfl
 rw[if_neg a3,if_neg a3];by_cases a4:96<=m.kept.length
 ·rw[if_pos a4,if_pos a4];rfl
 rw[if_neg a4,if_neg a4];rfl
def FP{m:Model}{i:Nat}{x:Kept}(hx:m.kept[i]?=some x)(f:Int):m.cJ i f={m with kept:=m.kept.set i {x with fate:=f}}:=by
 obtain⟨hi,he⟩:=adZ.1 hx;unfold Model.cJ;rw[modify_eq _ _ _ hi,he]
def IM{m:Model}{i:Nat}{x:Kept}{id:Nat}{a:aO}(hx:m.kept[i]?=some x)(hf:m.find id=some a):m.closed id i=decide (8<=((m.kept.set i {x with fate:=3}).foldl sC a).flags):=by
 obtain⟨hi,he⟩:=adZ.1 hx;unfold Model.closed;rw[hf];dsimp only;rw[modify_eq _ _ _ hi,he]
section
variable {W:World} {L R:LH} {K:VK} {X:WK} {p:Nat} {m:Model} {mb kb:OA} {mc kc:Nat} {a d c:aO} {t u:Move} {r1 r2 r3 r4 r5:Nat} {n i:Nat} {x:Kept}
def AS(hm:RM m)(hx:m.kept[i]?=some x){id:Nat}(Dv:id∈m.made.map (·.id))(h:T W (ML p m mb mc kb kc R) (K (.bool (m.closed id i)))):T W (ML p m mb mc kb kc R) (dG (some ⟨p,0,none⟩) (nm id) (i:Int) K):=by
 have rX:=hm.lu;have rV:=hm.many;rcases nC (λx:aO=>decide (x.id=id)) m.made with⟨f1,f2,f3⟩|⟨j,y,f1,f2,f3,f4,f5⟩
 ·obtain⟨a,ha,he⟩:=aeI.1 Dv;have:=afh.1 f1 a ha;rw[he] at this;exact absurd (decide_eq_true rfl) this
 ·rw[IM hx (show m.find id=some y from f3)] at h;exact KQ (by omega) (by omega) hx f5 f1 (hm.Wa y (aep f1)) hm.W5 h
def JC(hs:0<=m.ae/\m.ae<1000000)(hm:m.kept.length<1000000)(hn:n=bJ t u)
 (h:∀kb' kc',T W (ML p (m.jA t (jV t u) 0) mb mc kb' kc' R) (K (.i 0))):
 T W (ML p m mb mc kb kc (Sep.pt r4 (nm n)::Sep.pt r3 [.u 0,.u 0]::Sep.pt r2 (aj u)::Sep.pt r1 (aj t)::R)) (af.j6 K r1 r2 r4 (some ⟨p,0,none⟩)):=by
 unfold af.j6;subst hn;apply ws;intros;rename_i r5;refine T.Fy ?_;refine Eh (u:=jV t u) hm hs λb' c'=>?_;apply ws;intros;refine T.sub (h b' c') ?_;exact lW
def JD(hm:RM m)(hx:m.kept[i]?=some x)(Rd: ¬1<x.fate)
 (h:∀kb' kc',T W (ML p (Oq m t i x).2 mb mc kb' kc' R) (K (.i (Oq m t i x).1)))(ht:t.aA<aJ):
 T W (ML p m mb mc kb kc (Sep.pt r4 (nm (bJ t x.move))::Sep.pt r3 [.u 0,.u 0]::Sep.pt r2 (aj x.move)::Sep.pt r1 (aj t)::R)) (af.j2 K (decide (has t.flags 4)) r2 r4 (some ⟨p,0,none⟩) (i:Int) r1):=by
 have rX:=hm.lu;have rV:=hm.many;have rK:=hm.ae;have mu:=aep hx;have Lt:=(adZ.1 hx).1;have PA:=hm.ground.tS x mu;have N4:=hm.kept x mu;have hea:bJ t x.move<aJ:=by unfold bJ;split;exact N4.move.aA;exact ht
 have Lk:∀f:Int,∀kb' kc',T W (ML p (m.cJ i f) mb mc kb' kc' (Sep.pt r4 (nm (bJ t x.move))::Sep.pt r3 [.u 0,.u 0]::Sep.pt r2 (aj x.move)::Sep.pt r1 (aj t)::R)) (af.j6 K r1 r2 r4 (some ⟨p,0,none⟩))->
  T W (Sep.pt p (Be m mb mc kb' kc')::own mb m.made.length mc 14 (m.made.flatMap ak)::own kb' m.kept.length kc' 33 ((m.kept.set i {x with fate:=f}).flatMap aI)::(Sep.pt r4 (nm (bJ t x.move))::Sep.pt r3 [.u 0,.u 0]::Sep.pt r2 (aj x.move)::Sep.pt r1 (aj t)::R)) (af.j6 K r1 r2 r4 (some ⟨p,0,none⟩)):=λf kb' kc' hh=>by
  rw[FP hx] at hh;exact Ph ae2 hh
 have j5:∀b:Bool,((has t.flags 4/\m.closed x.move.aD i=true)->False)-> ¬iS t x.move->b=decide (has t.flags 4/\m.closed x.move.aq i=true)->
  T W (ML p m mb mc kb kc (Sep.pt r4 (nm (bJ t x.move))::Sep.pt r3 [.u 0,.u 0]::Sep.pt r2 (aj x.move)::Sep.pt r1 (aj t)::R)) (af.j5 K (some ⟨p,0,none⟩) (i:Int) (decide (has t.flags 4)) r1 r2 r4 b):=λb Gy gU hb=>by
  unfold af.j5;unfold Oq at h;rw[if_neg gU,if_neg Gy] at h;cases b with
  |true=>
   rw[if_pos (of_decide_eq_true hb.symm)] at h;apply ws;intros;refine T.sub (h kb kc) ?_;exact lW
  |false=>
   rw[if_neg (of_decide_eq_false hb.symm)] at h;apply ws;intros;refine dX (λg1=>?_) (λg1=>?_)
   ·rw[if_pos (by omega)] at h;refine T.sub (h kb kc) ?_;exact lW
   rw[if_neg (by omega)] at h;apply ws;intros;refine bR (b:=kb) ⟨by omega,by omega⟩ λrb ui=>?_;rw[adY];subst ui;refine Jd ?_;refine Aw (o:=i) (x:=x) (y:={x with fate:=3}) fF hx rfl (by decide) rfl ?_;have SN:m.kept.length=(m.kept.set i {x with fate:=3}).length:=ae2.symm;by_cases h4:has t.flags 4
   ·rw[decide_eq_true h4];rw[show bU t=2 from if_pos h4] at h;apply ws;intros;refine bR (b:=some ⟨rb,0,none⟩) ⟨by omega,by omega⟩ λPw ui=>?_;rw[adY];cases ui
    refine Jd ?_;refine Aw (o:=i) (x:={x with fate:=3}) (y:={x with fate:=2}) fF (by rw[List.getElem?_set_self (by omega)]) rfl (by decide) rfl ?_;rw[afb];refine Lk 2 _ _ ?_;refine JC (m:=m.cJ i 2) (by show 0<=m.ae/\m.ae<1000000;omega) (by show(m.kept.modify i _).length<_;rw[List.length_modify];omega) rfl h
   ·rw[decide_eq_false h4];rw[show bU t=3 from if_neg h4] at h;apply ws;intros;refine Lk 3 _ _ ?_;refine JC (m:=m.cJ i 3) (by show 0<=m.ae/\m.ae<1000000;omega) (by show(m.kept.modify i _).length<_;rw[List.length_modify];omega) rfl h
 have j4:∀b:Bool,¬iS t x.move->b=decide (has t.flags 4/\m.closed x.move.aD i=true)->
  T W (ML p m mb mc kb kc (Sep.pt r4 (nm (bJ t x.move))::Sep.pt r3 [.u 0,.u 0]::Sep.pt r2 (aj x.move)::Sep.pt r1 (aj t)::R)) (af.j4 K (decide (has t.flags 4)) r2 (some ⟨p,0,none⟩) (i:Int) r1 r4 b):=λb gU hb=>by
  unfold af.j4;cases b with
  |true=>
   unfold Oq at h;rw[if_neg gU,if_pos (of_decide_eq_true hb.symm)] at h;apply ws;intros;refine T.sub (h kb kc) ?_;exact lW
  |false=>
   have Gy:=of_decide_eq_false hb.symm;by_cases h4:has t.flags 4
   ·rw[decide_eq_true h4] at j5⊢;apply ws;intros;refine AS hm hx PA.2.2 ?_;refine nK ?_;refine j5 _ Gy gU ?_;cases l9:m.closed x.move.aq i
    ·exact(decide_eq_false (λhh=>absurd hh.2 (by decide))).symm
    ·exact(decide_eq_true ⟨h4,rfl⟩).symm
   ·rw[decide_eq_false h4] at j5⊢;apply ws;intros;exact j5 _ Gy gU (decide_eq_false (λhh=>h4 hh.1)).symm
 have j3:∀b:Bool,b=decide (iS t x.move)->
  T W (ML p m mb mc kb kc (Sep.pt r4 (nm (bJ t x.move))::Sep.pt r3 [.u 0,.u 0]::Sep.pt r2 (aj x.move)::Sep.pt r1 (aj t)::R)) (af.j3 K (decide (has t.flags 4)) r2 (some ⟨p,0,none⟩) (i:Int) r1 r4 b):=λb hb=>by
  unfold af.j3;cases b with
  |true=>
   unfold Oq at h;rw[if_pos (of_decide_eq_true hb.symm)] at h;apply ws;intros;refine T.sub (h kb kc) ?_;exact lW
  |false=>
   have gU:=of_decide_eq_false hb.symm;by_cases h4:has t.flags 4
   ·rw[decide_eq_true h4] at j4⊢;apply ws;intros;refine AS hm hx PA.2.1 ?_;refine nK ?_;refine j4 _ gU ?_;cases l9:m.closed x.move.aD i
    ·exact(decide_eq_false (λhh=>absurd hh.2 (by decide))).symm
    ·exact(decide_eq_true ⟨h4,rfl⟩).symm
   ·rw[decide_eq_false h4] at j4⊢;apply ws;intros;exact j4 _ gU (decide_eq_false (λhh=>h4 hh.1)).symm
 unfold af.j2 af.j7;by_cases h4:has t.flags 4
 ·rw[decide_eq_true h4] at j3⊢;apply ws;intros;refine uK N4.move.aA hea ?_;apply ws;intros;refine dX (λg1=>?_) (λg1=>?_)
  ·exact j3 _ (decide_eq_true (show iS t x.move from .inl ⟨h4,g1⟩)).symm
  ·apply ws;intros;refine j3 _ (decide_eq_false (λhh:iS t x.move=>?_)).symm;rcases hh with hh|hh
   ·exact g1 hh.2
   ·exact hh.1 h4
 ·rw[decide_eq_false h4] at j3⊢;apply ws;intros;refine j3 _ ?_;by_cases he:bJ t x.move=x.move.aA
  ·rw[decide_eq_true he];refine(decide_eq_false (λhh:iS t x.move=>?_)).symm;rcases hh with hh|hh
   ·exact h4 hh.1
   ·exact hh.2 he
  ·rw[decide_eq_false he];exact(decide_eq_true (show iS t x.move from .inr ⟨h4,he⟩)).symm
end
section
variable {W:World} {L R:LH} {K:VK} {X:WK} {p:Nat} {m:Model} {mb kb:OA} {mc kc:Nat} {a d c:aO} {t u:Move} {r1 r2 r3 r4 r5:Nat} {n i:Nat} {x:Kept}
def RR{m:Model}{t:Move}{i:Nat}{k:Kept}{r:Int}(hi:m.name t.pending=some i)(hk:m.kept[i]?=some k)(hr:r≠0)(h:kT t (m.named t.id) (some k) (m.closed k.move.aD i) (m.closed k.move.aq i) m.kept.length=r):m.me t=(r,m):=by
 unfold Model.me;rw[hi];dsimp only;rw[hk];dsimp only;rw[h,if_pos hr]
def Qv{b:Bool}(hm:RM m)(hx:m.kept[i]?=some x)(htf:0<=t.flags/\t.flags<1000000)(ht:t.aA<aJ)(hb:b=decide (c8 t x.move))
 (h1:c8 t x.move->∀kb' kc',T W (ML p m mb mc kb' kc' R) (K (.i 25)))
 (h2: ¬c8 t x.move->1<x.fate->∀kb' kc',T W (ML p m mb mc kb' kc' R) (K (.i (25+x.fate))))
 (h: ¬c8 t x.move-> ¬1<x.fate->∀kb' kc',T W (ML p (Oq m t i x).2 mb mc kb' kc' R) (K (.i (Oq m t i x).1))):
 T W (ML p m mb mc kb kc (Sep.pt r3 [.u 0,.u 0]::Sep.pt r2 (aj x.move)::Sep.pt r1 (aj t)::R)) (af.j1 K (some ⟨p,0,none⟩) (i:Int) r1 r3 r2 b):=by
 have rV:=hm.many;have mu:=aep hx;have Lt:=(adZ.1 hx).1;have Z3:=hm.ground.tv x mu;unfold af.j1;cases b with
 |true=>
  apply ws;intros;refine T.sub (h1 (of_decide_eq_true hb.symm) kb kc) ?_;exact lW
 |false=>
  have hn:=of_decide_eq_false hb.symm;apply ws;intros;refine bR (b:=kb) ⟨by omega,by omega⟩ λrb ui=>?_;rw[adY];subst ui;refine MZ ?_;refine Az (o:=i) (x:=x) fF hx rfl ?_;apply ws;intros;refine dX (λg1=>?_) (λg1=>?_)
  ·apply ws;intros;refine bR (b:=some ⟨rb,0,none⟩) ⟨by omega,by omega⟩ λPw ui=>?_;rw[adY];cases ui
   refine MZ ?_;refine Az (o:=i) (x:=x) fF hx rfl ?_;apply ws;intros;rw[ar (by omega)];refine T.sub (h2 hn g1 (some ⟨rb,0,none⟩) kc) ?_;exact lW
  ·apply ws;intros;refine hO htf (by decide) ?_;apply ws;intros;rename_i r4;have fin:=h hn g1;refine dX (λg2=>?_) (λg2=>?_)
   ·apply ws;intros;refine T.Fy ?_;have e:bJ t x.move=x.move.aA:=if_pos g2;rw[<-e];exact JD hm hx g1 fin ht
   ·refine T.Fy ?_;have e:bJ t x.move=t.aA:=if_neg g2;rw[<-e];exact JD hm hx g1 fin ht
def Qu{b:Bool}(hm:RM m)(hx:m.kept[i]?=some x)(htf:0<=t.flags/\t.flags<1000000)(ht:t.aA<aJ)(hb:b=decide (t.aD≠0/\t.aD≠x.move.aD))
 (h1:c8 t x.move->∀kb' kc',T W (ML p m mb mc kb' kc' R) (K (.i 25)))
 (h2: ¬c8 t x.move->1<x.fate->∀kb' kc',T W (ML p m mb mc kb' kc' R) (K (.i (25+x.fate))))
 (h: ¬c8 t x.move-> ¬1<x.fate->∀kb' kc',T W (ML p (Oq m t i x).2 mb mc kb' kc' R) (K (.i (Oq m t i x).1))):
 T W (ML p m mb mc kb kc (Sep.pt r3 [.u 0,.u 0]::Sep.pt r2 (aj x.move)::Sep.pt r1 (aj t)::R)) (af.j8 K (some ⟨p,0,none⟩) (i:Int) r1 r3 r2 b):=by
 have j1:∀b:Bool,b=decide (c8 t x.move)->T W (ML p m mb mc kb kc (Sep.pt r3 [.u 0,.u 0]::Sep.pt r2 (aj x.move)::Sep.pt r1 (aj t)::R)) (af.j1 K (some ⟨p,0,none⟩) (i:Int) r1 r3 r2 b):=λb hb=>Qv hm hx htf ht hb h1 h2 h;have Gs:∀b:Bool,b=decide ((t.aD≠0/\t.aD≠x.move.aD)\/(t.aq≠0/\t.aq≠x.move.aq)\/(t.aG≠0/\t.aG≠x.move.aG))->
  T W (ML p m mb mc kb kc (Sep.pt r3 [.u 0,.u 0]::Sep.pt r2 (aj x.move)::Sep.pt r1 (aj t)::R)) (af.Gs K (some ⟨p,0,none⟩) (i:Int) r1 r3 r2 b):=λb hb=>by
  unfold af.Gs;cases b with
  |true=>
   have hc:=of_decide_eq_true hb.symm;refine j1 true (decide_eq_true ?_).symm;rcases hc with hc|hc|hc
   ·exact .inl hc
   ·exact .inr (.inl hc)
   ·exact .inr (.inr (.inl hc))
  |false=>
   have hc:=of_decide_eq_false hb.symm;apply ws;intros;refine bw (λg1=>?_) (λg1=>?_)
   ·have g1:=bne_iff_ne.1 g1;apply ws;intros;refine j1 _ ?_;rw[aek,bne_iff_ne,decide_eq_true_eq];refine⟨λhh=>.inr (.inr (.inr ⟨g1,hh⟩)),λhh=>?_⟩;rcases hh with hh|hh|hh|hh
    ·exact absurd (.inl hh) hc
    ·exact absurd (.inr (.inl hh)) hc
    ·exact absurd (.inr (.inr hh)) hc
    ·exact hh.2
   ·have g1:t.code=0:=by simpa using g1
    refine j1 false (decide_eq_false (λhh=>?_)).symm;rcases hh with hh|hh|hh|hh
    ·exact absurd (.inl hh) hc
    ·exact absurd (.inr (.inl hh)) hc
    ·exact absurd (.inr (.inr hh)) hc
    ·exact hh.1 g1
 have j9:∀b:Bool,b=decide ((t.aD≠0/\t.aD≠x.move.aD)\/(t.aq≠0/\t.aq≠x.move.aq))->
  T W (ML p m mb mc kb kc (Sep.pt r3 [.int .u64 0,.int .u64 0]::Sep.pt r2 (aj x.move)::Sep.pt r1 (aj t)::R)) (af.j9 K (some ⟨p,0,none⟩) (i:Int) r1 r3 r2 b):=λb hb=>by
  unfold af.j9;cases b with
  |true=>
   have hc:=of_decide_eq_true hb.symm;refine Gs true (decide_eq_true ?_).symm;rcases hc with hc|hc
   ·exact .inl hc
   ·exact .inr (.inl hc)
  |false=>
   have hc:=of_decide_eq_false hb.symm;apply ws;intros;refine bw (λg1=>?_) (λg1=>?_)
   ·have g1:=bne_iff_ne.1 g1;apply ws;intros;refine Gs _ ?_;rw[aek,bne_iff_ne,decide_eq_true_eq];refine⟨λhh=>.inr (.inr ⟨g1,hh⟩),λhh=>?_⟩;rcases hh with hh|hh|hh
    ·exact absurd (.inl hh) hc
    ·exact absurd (.inr hh) hc
    ·exact hh.2
   ·have g1:t.aG=0:=by simpa using g1
    refine Gs false (decide_eq_false (λhh=>?_)).symm;rcases hh with hh|hh|hh
    ·exact absurd (.inl hh) hc
    ·exact absurd (.inr hh) hc
    ·exact hh.1 g1
 unfold af.j8;cases b with
 |true=>exact j9 true (decide_eq_true (.inl (of_decide_eq_true hb.symm))).symm
 |false=>
  have hc:=of_decide_eq_false hb.symm;apply ws;intros;by_cases g1:t.aq=0
  ·rw[decide_eq_true g1];refine j9 false (decide_eq_false (λhh=>?_)).symm;rcases hh with hh|hh
   ·exact hc hh
   ·exact hh.1 g1
  ·rw[decide_eq_false g1];apply ws;intros;refine j9 _ ?_;by_cases g2:t.aq=x.move.aq
   ·rw[decide_eq_true g2];refine(decide_eq_false (λhh=>?_)).symm;rcases hh with hh|hh
    ·exact hc hh
    ·exact hh.2 g2
   ·rw[decide_eq_false g2];exact(decide_eq_true (.inr ⟨g1,g2⟩)).symm
def T7(hm:RM m)(ht:u3 t)(h:∀kb' kc',T W (ML p (m.me t).2 mb mc kb' kc' R) (K (.i (m.me t).1))):T W (ML p m mb mc kb kc R) (af (some ⟨p,0,none⟩) (aj t) K):=by
 unfold af;have rX:=hm.lu;have rV:=hm.many;have rK:=hm.ae;apply ws;intros;rename_i r1;refine vH ht ?_;apply ws;intros;have GA:m.name t.pending=none->∀r:Int,kT t (m.named t.id) none false false m.kept.length=r->∀kb' kc',T W (ML p m mb mc kb' kc' R) (K (.i r)):=λhn r he kb' kc'=>by
  have:=h kb' kc';unfold Model.me at this;rw[hn] at this;dsimp only at this;rw[he] at this;exact this
 have Gz:∀i k,m.name t.pending=some i->m.kept[i]?=some k->∀r:Int,r≠0->kT t (m.named t.id) (some k) (m.closed k.move.aD i) (m.closed k.move.aq i) m.kept.length=r->∀kb' kc',T W (ML p m mb mc kb' kc' R) (K (.i r)):=λi k hi hk r hr he kb' kc'=>by
  have:=h kb' kc';rw[RR hi hk hr he] at this;exact this
 have pw:∀r:Int,r≠0->(∀pd dC cC,kT t (m.named t.id) pd dC cC m.kept.length=r)->∀kb' kc',T W (ML p m mb mc kb' kc' R) (K (.i r)):=λr hr he=>by
  rcases nC (λx:Kept=>decide (x.move.id=t.pending)) m.kept with⟨f1,f2,f3⟩|⟨i,x,f1,f2,f3,f4,f5⟩
  ·exact GA f2 r (he _ _ _)
  ·exact Gz i x f4 f1 r hr (he _ _ _)
 unfold kT at pw GA Gz;refine bw (λg1=>?_) (λg1=>?_)
 ·have g1:kF t≠0:=by simpa using g1
  have:=pw _ g1 (λ_ _ _=>if_pos g1) kb kc;exact T.dp this
 have g1:kF t=0:=by simpa using g1
 simp only[if_neg (show ¬kF t≠0 from λhh=>hh g1)] at pw GA Gz;obtain⟨z',ZT⟩:=sj g1;have hf:0<=t.flags/\t.flags<1000000:=by omega
 apply ws;intros;refine rO hf ?_;apply ws;intros;by_cases g2:gw t.flags
 rotate_left
 ·rw[decide_eq_false g2];have:=pw 6 (by decide) (λ_ _ _=>if_pos g2) kb kc;apply ws;intros;exact T.dp this
 rw[decide_eq_true g2];simp only[if_neg (show ¬ ¬gw t.flags from λhh=>hh g2)] at pw GA Gz;apply ws;intros;refine T.Mj ?_;refine Eg (by omega) ?_;apply ws;intros;have J0:m.named t.id=m.kept.find? λk=>decide (k.move.id=t.id):=rfl;rcases nC (λx:Kept=>decide (x.move.id=t.id)) m.kept with⟨f1,f2,f3⟩|⟨i,x,f1,f2,f3,f4,f5⟩
 rotate_left
 ·rw[J0,f3] at pw;dsimp only at pw;rw[f5];have Lt:=(adZ.1 f1).1;have hx:=hm.kept x (aep f1);refine jN (decide_eq_true (by omega)) ?_;apply ws;intros;refine bR (b:=kb) ⟨by omega,by omega⟩ λrb hb=>?_;rw[adY];subst hb;refine MX fF f1 ?_;refine A1 hf ⟨hx.qF.1,by have:=hx.qF.2;omega⟩ ?_;apply ws;intros;refine T.sub (pw _ (oR _ _) (λ_ _ _=>rfl) (some ⟨rb,0,none⟩) kc) ?_;exact lW
 rw[J0,f1] at pw GA;have Hy:m.named t.id=none:=by rw[J0,f1]
 rw[Hy] at Gz;dsimp only at pw GA Gz;rw[f3];refine dO (by decide) ?_;apply ws;intros;refine Eg (by omega) ?_;apply ws;intros;rcases nC (λx:Kept=>decide (x.move.id=t.pending)) m.kept with⟨d1,d2,d3⟩|⟨i,x,d1,d2,d3,d4,d5⟩
 ·rw[d3];refine jN (by decide) ?_;refine T.sub (GA d2 23 rfl kb kc) ?_;exact lW
 have pw:=Gz i x d4 d1;clear GA Gz;have Lt:=(adZ.1 d1).1;have mu:=aep d1;have hx:=hm.kept x mu;rw[d5];refine dO (decide_eq_false (by omega)) ?_;apply ws;intros;refine bR (b:=kb) ⟨by omega,by omega⟩ λrb hb=>?_;rw[adY];subst hb;refine TM ?_;refine MW fF d1 ?_;apply ws;intros;rename_i r2 r3;have hxf:0<=x.move.flags/\x.move.flags<1000000:=⟨hx.rQ.1,by have:=hx.rQ.2;omega⟩;refine hO hxf (by decide) ?_;apply ws;intros;by_cases g3:has x.move.flags 2
 rotate_left
 ·rw[if_pos g3] at pw;rw[decide_eq_false g3];apply ws;intros;refine T.sub (pw 24 (by decide) rfl (some ⟨rb,0,none⟩) kc) ?_;exact lW
 rw[if_neg (λhh=>hh g3)] at pw;rw[decide_eq_true g3];apply ws;intros;have fin:∀b:Bool,b=decide (t.aD≠0/\t.aD≠x.move.aD)->T W (Sep.pt r3 [.u 0,.u 0]::Sep.pt r2 (aj x.move)::ML p m mb mc (some ⟨rb,0,none⟩) kc (Sep.pt r1 (aj t)::R)) (af.j8 K (some ⟨p,0,none⟩) (i:Int) r1 r3 r2 b):=λb hb=>by
  refine T.perm (L:=ML p m mb mc (some ⟨rb,0,none⟩) kc (Sep.pt r3 [.u 0,.u 0]::Sep.pt r2 (aj x.move)::Sep.pt r1 (aj t)::R)) ?_ (ad7 (l₁:=[Sep.pt r3 [.u 0,.u 0],Sep.pt r2 (aj x.move)]) (l₂:=[_,_,_])|>.append_right _);refine Qu hm d1 hf ht.aA hb (λhn=>pw 25 (by decide) (if_pos hn)) (λhn Rd=>pw (25+x.fate) (by omega) (by rw[if_neg hn,if_pos Rd])) (λhn Rd kb' kc'=>?_);have:=h kb' kc';rw[YA g1 g2 Hy d4 d1 g3 hn Rd] at this;exact this
 by_cases g4:t.aD=0
 ·rw[decide_eq_true g4];exact fin false (decide_eq_false (λhh=>hh.1 g4)).symm
 ·rw[decide_eq_false g4];apply ws;intros;refine fin _ ?_;by_cases g5:t.aD=x.move.aD
  ·rw[decide_eq_true g5];exact(decide_eq_false (λhh=>hh.2 g5)).symm
  ·rw[decide_eq_false g5];exact(decide_eq_true ⟨g4,g5⟩).symm
end
inductive It where
 |a(x:aO)
 |t(x:Move)
def vZ:It->LV
 | .a x=>.bool true::(ak x++aj zT)
 | .t x=>.bool false::(ak zA++aj x)
def ss(m:Model):It->Int×Model
 | .a x=>m.make x
 | .t x=>m.ov x
def vI:It->Bool
 | .a x=>wU x
 | .t x=>wT x
def I3:It->Prop
 | .a x=>vn x
 | .t x=>u3 x
def JV(x:It):(vZ x).length=31:=by cases x<;>rfl
instance{x:aO}{t:Move}{b:Value}:Gt (b::(ak x++aj t)) 13 (.i x.flags):=⟨rfl⟩
instance{x:aO}{t:Move}{b:Value}:Gt (b::(ak x++aj t)) 28 (.i t.flags):=⟨rfl⟩
def JU(x:It):∀v∈vZ x,v.oneCell'=true:=λv hv=>by
 cases x with
 |a x=>
  rcases afe.1 hv with h|h
  ·subst h;rfl
  ·rcases aeB.1 h with h|h
   ·exact eX _ v h
   ·exact lF _ v h
 |t x=>
  rcases afe.1 hv with h|h
  ·subst h;rfl
  ·rcases aeB.1 h with h|h
   ·exact eX _ v h
   ·exact lF _ v h
instance{x:aO}{t:Move}{b:Value}:Sub (b::(ak x++aj t)) 1 14 (ak x):=⟨rfl,λj v h=>by
 rw[Nat.add_comm 1 j,aed,ael (adZ.1 h).1];exact h⟩
instance{x:aO}{t:Move}{b:Value}:Sub (b::(ak x++aj t)) 15 16 (aj t):=⟨rfl,λj v h=>by
 have hl:(ak x).length=14:=rfl
 rw[show 15+j=14+j+1 by omega,aed,aey (by omega),hl,Nat.add_sub_cancel_left];exact h⟩
def RM.ss{m:Model}{x:It}(h:RM m)(hx:I3 x):RM (ss m x).2:=by
 cases x with
 |a x=>exact h.make hx
 |t x=>exact h.ov hx
def FB(n:Int):(n.tmod 2!=0)=decide (n%2=1):=by
 rw[aek,bne_iff_ne,decide_eq_true_eq];rcases Int.le_total 0 n with h|h
 ·rw[aeG h];omega
 ·obtain⟨k,rfl⟩:∃k:Int,n= -k:=⟨-n,by omega⟩;rw[Int.neg_tmod,aeG (by omega)];omega
section
variable {W:World} {L R:LH} {K:VK} {X:WK} {p:Nat} {m:Model} {mb kb:OA} {mc kc:Nat} {x:It}
def F3(h:T W L (K (.bool (vI x)))):T W L (jv (vZ x) K):=by
 unfold jv;cases x with
 |a x=>
  rw[show vZ (It.a x)=.bool true::(ak x++aj zT) from rfl];apply ws;intros;refine cL (by decide) ?_;rw[FB];exact T.dp h
 |t x=>
  rw[show vZ (It.t x)=.bool false::(ak zA++aj x) from rfl];apply ws;intros;refine cL (by decide) ?_;rw[FB];exact T.dp h
def Qx(hm:RM m)(hx:I3 x)(h:∀mb' mc' kb' kc',T W (ML p (ss m x).2 mb' mc' kb' kc' R) (K (.i (ss m x).1))):T W (ML p m mb mc kb kc R) (fw (some ⟨p,0,none⟩) (vZ x) K):=by
 unfold fw fw.j1;cases x with
 |a x=>
  rw[show vZ (It.a x)=.bool true::(ak x++aj zT) from rfl];apply ws;intros;refine T.Mj ?_;refine Qt hm hx λmb' mc'=>?_;apply ws;intros;refine T.sub (h mb' mc' kb kc) ?_
  repeat (first|exact aeb.refl _|apply aeb.cons_cons|apply aeb.cons)
 |t x=>
  rw[show vZ (It.t x)=.bool false::(ak zA++aj x) from rfl];apply ws;intros;refine vH hx ?_;rw[show ss m (It.t x)=m.ov x from rfl] at h;unfold Model.ov at h;apply ws;intros;refine bw (λg1=>?_) (λg1=>?_)
  ·have g1:kF x=0:=by simpa using g1
   obtain⟨z',ZT⟩:=sj g1;apply ws;intros;refine rO (by omega) ?_;apply ws;intros;by_cases g2:gw x.flags
   ·rw[decide_eq_true g2];rw[if_pos ⟨g1,g2⟩] at h;apply ws;intros;refine T.Mj ?_;refine T7 hm hx λkb' kc'=>?_;apply ws;intros;refine T.sub (h mb mc kb' kc') ?_;exact lW
   ·rw[decide_eq_false g2];rw[if_neg (λhh=>g2 hh.2)] at h;apply ws;intros;refine T.Mj ?_;refine JB hm hx λkb' kc'=>?_;apply ws;intros;refine T.sub (h mb mc kb' kc') ?_;exact lW
  ·have g1: ¬kF x=0:=by simpa using g1
   rw[if_neg (λhh=>g1 hh.1)] at h;apply ws;intros;refine T.Mj ?_;refine JB hm hx λkb' kc'=>?_;apply ws;intros;refine T.sub (h mb mc kb' kc') ?_;exact lW
def Cl{s:OA}{c:Nat}{l:List aO}[hh:Has R L](hr:oe W R ak 14 s l)(hl:l.length<=1000000)
 (h:∀b c,T W (own b l.length c 31 ((l.map It.a).flatMap vZ)::L) (K (.l b l.length c))):T W L (iy s l.length c K):=by
 unfold iy;refine eY (e:=31) ?_;intro w jG;refine⟨λvv w=>∃(i:Nat)(b:OA)(c2:Nat)(out:List It),i<=l.length/\out=(l.take i).map It.a/\vv=[.l none 0 0,.l b i c2,.l s l.length c,.i (l.length:Int),.i (i:Int)]/\St W w (own b i c2 31 (out.flatMap vZ)::L),
  λvs _=>match vs with|[_,_,_,_,.int _ d]=>l.length-d.toNat|_=>0,⟨0,none,0,[],ad6 _,rfl,rfl,jG⟩,?_⟩
 rintro uG pY uF b i c2 zt yJ yK n1 n2 w2 ⟨i0,b0,c0,out,hi,tF,e,fo⟩;cases e
 refine T.at ?_ fo;have e5:=mh i;refine dX (λg1=>?_) (λg1=>?_)
 ·have aZ:i<l.length:=by omega
  have gx:=adX aZ;generalize l[i]=x at gx;refine kf hr ⟨by omega,by omega⟩ rfl λa ha=>?_;rw[adY];refine ke hr ha gx (ff x) ?_;apply ws;intros;refine hG (g:=vZ) (l:=out) (x:=It.a x) (by rw[aei];rfl) rfl rfl (by omega) (by omega) (JU _) λb' c'=>?_;rw[e5];refine T.drop (T.sub (M:=own b' (i+1) c' 31 ((out++[It.a x]).flatMap vZ)::L) (λw3 h3=>⟨⟨i+1,b',c',out++[It.a x],aZ,?_,rfl,h3⟩,by show l.length-((i+1:Nat):Int).toNat<l.length-(i:Int).toNat;omega⟩) (by repeat (first|exact aeb.refl _|apply aeb.cons_cons|apply aeb.cons)));rw[aeg,gx,aeu,tF];rfl
 ·have gF:i=l.length:=by omega
  subst gF;rw[ad'] at tF;subst tF;exact h _ _
def AV{s:OA}{c:Nat}{l:List Move}[hh:Has R L](hr:oe W R aj 16 s l)(hl:l.length<=1000000)
 (h:∀b c,T W (own b l.length c 31 ((l.map It.t).flatMap vZ)::L) (K (.l b l.length c))):T W L (gY s l.length c K):=by
 unfold gY;refine eY (e:=31) ?_;intro w jG;refine⟨λvv w=>∃(i:Nat)(b:OA)(c2:Nat)(out:List It),i<=l.length/\out=(l.take i).map It.t/\vv=[.l none 0 0,.l b i c2,.l s l.length c,.i (l.length:Int),.i (i:Int)]/\St W w (own b i c2 31 (out.flatMap vZ)::L),
  λvs _=>match vs with|[_,_,_,_,.int _ d]=>l.length-d.toNat|_=>0,⟨0,none,0,[],ad6 _,rfl,rfl,jG⟩,?_⟩
 rintro uG pY uF b i c2 zt yJ yK n1 n2 w2 ⟨i0,b0,c0,out,hi,tF,e,fo⟩;cases e
 refine T.at ?_ fo;have e5:=mh i;refine dX (λg1=>?_) (λg1=>?_)
 ·have aZ:i<l.length:=by omega
  have gx:=adX aZ;generalize l[i]=x at gx;refine kf hr ⟨by omega,by omega⟩ rfl λa ha=>?_;rw[adY];refine ke hr ha gx (rR x) ?_;apply ws;intros;refine hG (g:=vZ) (l:=out) (x:=It.t x) (by rw[aei,aei];rfl) rfl rfl (by omega) (by omega) (JU _) λb' c'=>?_;rw[e5];refine T.drop (T.sub (M:=own b' (i+1) c' 31 ((out++[It.t x]).flatMap vZ)::L) (λw3 h3=>⟨⟨i+1,b',c',out++[It.t x],aZ,?_,rfl,h3⟩,by show l.length-((i+1:Nat):Int).toNat<l.length-(i:Int).toNat;omega⟩) (by repeat (first|exact aeb.refl _|apply aeb.cons_cons|apply aeb.cons)));rw[aeg,gx,aeu,tF];rfl
 ·have gF:i=l.length:=by omega
  subst gF;rw[ad'] at tF;subst tF;exact h _ _
end
def Bk(p:Nat)(m:Model)(mb:OA)(mc:Nat)(kb:OA)(kc:Nat)(R:LH)(p2:Nat)(m':Model)(mb':OA)(mc':Nat)(kb':OA)(kc':Nat)(R':LH):Prop:=
 (R'=R/\p2=p/\m'=m/\mb'=mb/\mc'=mc/\kb'=kb/\kc'=kc)\/R'=ML p m mb mc kb kc R
def ND{n:Nat}{o:Option (Nat×Int)}{q:Nat}(hq:q<n):(im n o)[q]?=some (match o with|none=>0|some (i,c)=>if q=i then c else 1):=by
 unfold im;cases o with
 |none=>simp[hq]
 |some e=>
  obtain⟨i,c⟩:=e;dsimp only;rw[aet];by_cases h:i=q
  ·subst h;rw[if_pos rfl,if_pos (by simpa using hq),if_pos rfl]
  ·rw[if_neg h,if_neg (λhh=>h hh.symm)];simp[hq]
def I4(x:Int):∀v∈I1 x,v.oneCell'=true:=λv hv=>by simp[I1] at hv;subst hv;rfl
section
variable {W:World} {L R:LH} {K:VK} {X:WK} {p:Nat} {m:Model} {mb kb:OA} {mc kc:Nat} {x:It}
def Pb(W:World)(R:LH)(p:Nat)(m:Model)(mb:OA)(mc:Nat)(kb:OA)(kc:Nat)(l:List It)(lb:OA)(lc:Nat)(vv:LV)(w:World):Prop:=
 ∃(at_ fuel:Nat)(m':Model)(done:List Int)(p2:Nat)(mb':OA)(mc':Nat)(kb':OA)(kc':Nat)(ob:OA)(oc:Nat)(R':LH),at_<=l.length/\done.length=at_/\l.length<=fuel+at_/\
  eQ ss vI l.length m l=(done++(eQ ss vI fuel m' (l.drop at_)).1,(eQ ss vI fuel m' (l.drop at_)).2)/\RM m'/\Bk p m mb mc kb kc R p2 m' mb' mc' kb' kc' R'/\
  vv=[.p (some ⟨p2,0,none⟩),.l none 0 0,.p none,.l ob at_ oc,.i (at_:Int)]/\
  St W w (ML p2 m' mb' mc' kb' kc' (own ob at_ oc 1 (done.flatMap I1)::own lb l.length lc 31 (l.flatMap vZ)::R'))
def WG(n:Nat)(vs:LV)(_:World):Nat:=match vs with|[_,_,_,_,.int _ d]=>n-d.toNat|_=>0
def Ef{w2:World}{l:List It}{lb:OA}{lc:Nat}{at_ fuel n:Nat}{m' mN:Model}{done:List Int}{p2 p6:Nat}{mb' kb' nb nk ob:OA}{mc' kc' nc NL oc:Nat}{R':LH}{o:Option (Nat×Int)}{bad code:Int}
 (hl:l.length<=1000)(hn:0<n)(yj:at_+n<=l.length)(xg:done.length=at_)(Mu:l.length<=fuel+(at_+n))(ho:(o=none/\bad<0)\/∃i,o=some (i,code)/\i<n/\bad=((at_+i:Nat):Int))(GD:RM m')(SS:RM mN)
 (y5:Bk p m mb mc kb kc R p2 m' mb' mc' kb' kc' R')
 (lH:eQ ss vI l.length m l=(done++im n o++(eQ ss vI fuel (if o=none then mN else m') (l.drop (at_+n))).1,(eQ ss vI fuel (if o=none then mN else m') (l.drop (at_+n))).2)):
 T W (ML p6 mN nb nc nk NL (ML p2 m' mb' mc' kb' kc' (own ob at_ oc 1 (done.flatMap I1)::own lb l.length lc 31 (l.flatMap vZ)::R')))
   (aW.j3 K (Pb W R p m mb mc kb kc l lb lc) (WG l.length) (some ⟨p2,0,none⟩) none 0 0 none ob at_ oc (at_:Int) w2 (some ⟨p2,0,none⟩) none 0 0 none ob at_ oc (at_:Int) ((at_+n-1:Nat):Int) bad code (some ⟨p6,0,none⟩)):=by
 unfold aW.j3;intro w jG;refine⟨λvv w=>∃(q:Nat)(b:OA)(c:Nat),q<=n/\vv=[.p (some ⟨p2,0,none⟩),.l none 0 0,.p none,.l b (at_+q) c,.i (at_:Int),.i ((at_+n-1:Nat):Int),.i bad,.i code,.p (some ⟨p6,0,none⟩),.i ((at_+q:Nat):Int)]/\
  St W w (ML p6 mN nb nc nk NL (ML p2 m' mb' mc' kb' kc' (own b (at_+q) c 1 ((done++(im n o).take q).flatMap I1)::own lb l.length lc 31 (l.flatMap vZ)::R'))),
  λvs _=>match vs with|[_,_,_,_,_,_,_,_,_,.int _ d]=>at_+n-d.toNat|_=>0,⟨0,ob,oc,ad6 _,rfl,by rw[afm,aei];exact jG⟩,?_⟩
 rintro p10 sb8 sn8 sc8 p11 b sn9 c Wh SH Mk Wg p12 Wf w4 ⟨q,b0,c0,hq,e,tG⟩;cases e
 refine T.at ?_ tG;have e5:adU.wrap (((at_+q:Nat):Int)+1)=((at_+(q+1):Nat):Int):=by rw[ar (by omega)];omega
 refine dX (λg1=>?_) (λg1=>?_)
 ·have aZ:q<n:=by omega
  have xd:=ND (o:=o) aZ;have oJ:(im n o).take (q+1)=(im n o).take q++[match o with|none=>0|some (i,c)=>if q=i then c else 1]:=by rw[aeg,xd];rfl
  rcases ho with⟨rfl,hb⟩|⟨i,rfl,hi,rfl⟩
  ·refine jN (decide_eq_true hb) ?_;refine cL ⟨rfl,trivial⟩ ?_;refine qL λr1=>?_;refine hG (g:=I1) (l:=done++(im n _).take q) (x:=(0:Int)) rfl rfl rfl (by omega) (by omega) (I4 _) λb' c'=>?_;rw[e5];refine T.drop λw5 h5=>⟨⟨q+1,b',c',aZ,rfl,by rw[oJ,<-ad5];exact h5⟩,by show at_+n-((at_+(q+1):Nat):Int).toNat<at_+n-((at_+q:Nat):Int).toNat;omega⟩
  ·refine dO (decide_eq_false (by omega)) ?_;by_cases hqi:q=i
   ·subst hqi;refine jN (by simp) ?_;dsimp only at oJ;rw[if_pos rfl] at oJ;refine cL ⟨rfl,trivial⟩ ?_;refine qL λr1=>?_;refine hG (g:=I1) (l:=done++(im n _).take q) (x:=code) rfl rfl rfl (by omega) (by omega) (I4 _) λb' c'=>?_;rw[e5];refine T.drop λw5 h5=>⟨⟨q+1,b',c',aZ,rfl,by rw[oJ,<-ad5];exact h5⟩,by show at_+n-((at_+(q+1):Nat):Int).toNat<at_+n-((at_+q:Nat):Int).toNat;omega⟩
   ·refine dO (by simp;omega) ?_;dsimp only at oJ;rw[if_neg hqi] at oJ;refine cL ⟨rfl,trivial⟩ ?_;refine qL λr1=>?_;refine hG (g:=I1) (l:=done++(im n _).take q) (x:=(1:Int)) rfl rfl rfl (by omega) (by omega) (I4 _) λb' c'=>?_;rw[e5];refine T.drop λw5 h5=>⟨⟨q+1,b',c',aZ,rfl,by rw[oJ,<-ad5];exact h5⟩,by show at_+n-((at_+(q+1):Nat):Int).toNat<at_+n-((at_+q:Nat):Int).toNat;omega⟩
 ·have gF:q=n:=by omega
  subst gF;rw[aef (Nat.le_of_eq (jE q o))];have e6:adU.wrap (((at_+q-1:Nat):Int)+1)=((at_+q:Nat):Int):=by rw[ar (by omega)];omega
  rw[e6];rcases ho with⟨rfl,hb⟩|⟨i,rfl,hi,rfl⟩
  ·refine jN (decide_eq_true hb) ?_;rw[if_pos rfl] at lH;have fin:∀R'',Bk p m mb mc kb kc R p6 mN nb nc nk NL R''->T W (ML p6 mN nb nc nk NL (own b (at_+q) c 1 ((done++im q none).flatMap I1)::own lb l.length lc 31 (l.flatMap vZ)::R''))
                                       (λw8=>Pb W R p m mb mc kb kc l lb lc [.p (some ⟨p6,0,none⟩),.l none 0 0,.p none,.l b (at_+q) c,.i ((at_+q:Nat):Int)] w8/\WG l.length [.p (some ⟨p6,0,none⟩),.l none 0 0,.p none,.l b (at_+q) c,.i ((at_+q:Nat):Int)] w8<WG l.length [.p (some ⟨p2,0,none⟩),.l none 0 0,.p none,.l ob at_ oc,.i (at_:Int)] w2):=λR'' aa8 w8 h8=>by
    refine⟨⟨at_+q,fuel,mN,done++im q none,p6,nb,nc,nk,NL,b,c,R'',yj,by rw[ad0,jE];omega,Mu,lH,SS,aa8,rfl,h8⟩,?_⟩;show l.length-((at_+q:Nat):Int).toNat<l.length-(at_:Int).toNat;omega
   rcases y5 with⟨rfl,rfl,rfl,rfl,rfl,rfl,rfl⟩|rfl
   ·refine T.perm (fin _ (.inr rfl)) ?_;exact(ad7 (l₁:=[Sep.pt p2 (Be m' mb' mc' kb' kc'),own mb' m'.made.length mc' 14 (m'.made.flatMap ak),own kb' m'.kept.length kc' 33 (m'.kept.flatMap aI)]) (l₂:=[_,_])|>.append_right R').append_left [_,_,_]
   ·refine T.sub (fin _ (.inr rfl)) ?_;exact lW
  ·refine dO (decide_eq_false (by omega)) ?_;rw[if_neg (by simp)] at lH;refine T.drop (T.drop (T.drop λw8 h8=>?_));refine⟨⟨at_+q,fuel,m',done++im q (some (i,code)),p2,mb',mc',kb',kc',b,c,R',yj,by rw[ad0,jE];omega,Mu,lH,GD,y5,rfl,h8⟩,?_⟩;show l.length-((at_+q:Nat):Int).toNat<l.length-(at_:Int).toNat;omega
def JA{w2:World}{l:List It}{lb:OA}{lc:Nat}{at_ fuel n:Nat}{m':Model}{done:List Int}{p2:Nat}{mb' kb' ob:OA}{mc' kc' oc:Nat}{R':LH}{bad code:Int}
 (eO:∀x∈l,I3 x)(hl:l.length<=1000)(hn:0<n)(yj:at_+n<=l.length)(xg:done.length=at_)(Mu:l.length<=fuel+(at_+n))(GD:RM m')
 (y5:Bk p m mb mc kb kc R p2 m' mb' mc' kb' kc' R')
 (EF:bl vI (l.drop at_)=(n,decide (bad<0)))(u2:(bad= -1/\code=0)\/(bad=((at_+n-1:Nat):Int)/\code=2/\at_+n=l.length))
 (lH:eQ ss vI l.length m l=(done++(eQ ss vI (fuel+1) m' (l.drop at_)).1,(eQ ss vI (fuel+1) m' (l.drop at_)).2)):
 T W (ML p2 m' mb' mc' kb' kc' (own ob at_ oc 1 (done.flatMap I1)::own lb l.length lc 31 (l.flatMap vZ)::R'))
   (aW.j2 K (some ⟨p2,0,none⟩) none 0 0 none ob at_ oc (at_:Int) lb l.length (Pb W R p m mb mc kb kc l lb lc) (WG l.length) (some ⟨p2,0,none⟩) none 0 0 none ob at_ oc (at_:Int) w2 ((at_+n-1:Nat):Int) bad code):=by
 unfold aW.j2 aW.j4;have hmf:=GD.lu;have hmm:=GD.many;refine Ej (by omega) (by omega) λp6 nb0 nc0 nk0 aaq=>?_;apply ws;intros;have gU:l.drop at_≠[]:=λhh=>by have:=congrArg List.length hh;rw[ad9] at this;simp at this;omega
 have dJ:=xN (f:=ss) (lk:=vI) (n:=fuel) (s:=m') gU;have Ww:(l.drop at_).drop n=l.drop (at_+n):=ae8;rw[EF] at dJ;dsimp only at dJ;rw[Ww] at dJ;intro w jG;refine⟨λvv w=>∃(i:Nat)(bd cd:Int)(mN:Model)(nb:OA)(nc:Nat)(nk:OA)(NL:Nat),i<=n/\RM mN/\
                                                                                                      ((bd<0/\bad<0/\fr ss m' ((l.drop at_).take i) 0=(none,mN))\/(∃q s,bd=((at_+q:Nat):Int)/\q<n/\bad<0/\fr ss m' ((l.drop at_).take n) 0=(some (q,cd),s))\/(bd=bad/\cd=code/\ ¬bad<0))/\
                                                                                                      vv=[.p (some ⟨p2,0,none⟩),.l none 0 0,.p none,.l ob at_ oc,.i (at_:Int),.i ((at_+n-1:Nat):Int),.i bd,.i cd,.p (some ⟨p6,0,none⟩),.i ((at_+i:Nat):Int)]/\
                                                                                                      St W w (ML p6 mN nb nc nk NL (ML p2 m' mb' mc' kb' kc' (own ob at_ oc 1 (done.flatMap I1)::own lb l.length lc 31 (l.flatMap vZ)::R'))),
  λvs _=>match vs with|[_,_,_,_,_,_,_,_,_,.int _ d]=>at_+n-d.toNat|_=>0,⟨0,bad,code,m',nb0,nc0,nk0,aaq,ad6 _,GD,?_,rfl,jG⟩,?_⟩
 ·by_cases hb:bad<0
  ·exact .inl ⟨hb,hb,rfl⟩
  ·exact .inr (.inr ⟨rfl,rfl,hb⟩)
 rintro p13 adz adt adw p14 ob1 Kl oc1 uM n17 bd cd p15 n20 w11 ⟨i,bd0,cd0,mN,nb,nc,nk,NL,hi,SS,rK,e,fo⟩;cases e
 refine T.at ?_ fo;have e5:adU.wrap (((at_+i:Nat):Int)+1)=((at_+(i+1):Nat):Int):=by rw[ar (by omega)];omega
 have leave:(i=n\/ ¬bd<0)->T W (ML p6 mN nb nc nk NL (ML p2 m' mb' mc' kb' kc' (own ob at_ oc 1 (done.flatMap I1)::own lb l.length lc 31 (l.flatMap vZ)::R')))
  (aW.j3 K (Pb W R p m mb mc kb kc l lb lc) (WG l.length) (some ⟨p2,0,none⟩) none 0 0 none ob at_ oc (at_:Int) w2 (some ⟨p2,0,none⟩) none 0 0 none ob at_ oc (at_:Int) ((at_+n-1:Nat):Int) bd cd (some ⟨p6,0,none⟩)):=λSU=>by
  rcases rK with⟨h1,h2,h3⟩|⟨q,s,h1,h2,h3,h4⟩|⟨h1,h2,h3⟩
  ·have Dv:i=n:=by rcases SU with hh|hh;exact hh;exact absurd h1 hh
   subst Dv;refine Ef (fuel:=fuel) (o:=none) hl hn yj xg Mu (.inl ⟨rfl,h1⟩) GD SS y5 ?_;rw[if_neg (by rw[decide_eq_true h2];decide),h3] at dJ;dsimp only at dJ;rw[if_pos rfl,lH,dJ];simp
  ·refine Ef (fuel:=fuel) (o:=some (q,cd)) hl hn yj xg Mu (.inr ⟨q,rfl,h2,h1⟩) GD SS y5 ?_;rw[if_neg (by rw[decide_eq_true h3];decide),h4] at dJ;dsimp only at dJ;rw[if_neg (by simp),lH,dJ];simp
  ·subst h1 h2;rcases u2 with⟨hb,_⟩|⟨hb,hc,Ly⟩
   ·omega
   refine Ef (fuel:=fuel) (o:=some (n-1,cd)) hl hn yj xg Mu (.inr ⟨n-1,rfl,by omega,by rw[hb];omega⟩) GD SS y5 ?_;rw[if_pos (by rw[decide_eq_false h3])] at dJ;rw[if_neg (by simp),lH,dJ,hc];rw[show l.drop (at_+n)=[] from aeF (by omega),rN];simp
 by_cases SU:i=n\/ ¬bd<0
 ·have:=leave SU;refine dX (λg1=>?_) (λg1=>?_)
  ·have hb: ¬bd<0:=by rcases SU with hh|hh;omega;exact hh
   rw[decide_eq_false hb];exact this
  ·exact this
 ·have aZ:i<n:=Decidable.byContradiction λhh=>SU (.inl (by omega));have hb:bd<0:=Decidable.byContradiction λhh=>SU (.inr hh);have Ff:bad<0/\fr ss m' ((l.drop at_).take i) 0=(none,mN):=by
   rcases rK with⟨h1,h2,h3⟩|⟨q,s,h1,h2,h3,h4⟩|⟨h1,h2,h3⟩
   ·exact⟨h2,h3⟩
   ·omega
   ·omega
  have gx:=adX (show at_+i<l.length by omega);have Ez:=eO _ (aej (show at_+i<l.length by omega));generalize l[at_+i]=x at gx Ez;have Yv:(l.drop at_)[i]?=some x:=by rw[afd];exact gx
  have oJ:(l.drop at_).take (i+1)=(l.drop at_).take i++[x]:=by rw[aeg,Yv];rfl
  have Xy:((l.drop at_).take i).length=i:=by rw[ad2,ad9];omega
  refine jN (decide_eq_true (by omega)) ?_;rw[decide_eq_true hb];refine vy ?_;refine bR (b:=lb) ⟨by omega,by omega⟩ λrb Ux=>?_;rw[adY];subst Ux;refine dA (g:=vZ) JV gx ?_;refine Qx SS Ez λnb' nc' nk' Xd=>?_;apply ws;intros;rw[e5];refine bw (λg2=>?_) (λg2=>?_)
  ·have g2:(ss mN x).1≠0:=by simpa using g2
   refine λw3 h3=>⟨⟨i+1,_,(ss mN x).1,_,nb',nc',nk',Xd,aZ,SS.ss Ez,.inr (.inl ⟨i,mN,rfl,aZ,Ff.1,?_⟩),rfl,h3⟩,by show at_+n-((at_+(i+1):Nat):Int).toNat<at_+n-((at_+i:Nat):Int).toNat;omega⟩;have qw:(l.drop at_).take n=(l.drop at_).take i++x::((l.drop at_).take n).drop (i+1):=by
    have e1:((l.drop at_).take n)[i]?=some x:=by rw[List.getElem?_take_of_lt aZ];exact Yv
    obtain⟨Lt,Wt⟩:=adZ.1 e1;have e2:=aer i ((l.drop at_).take n);rw[aeD Lt,Wt,afu,afp (by omega)] at e2;exact e2.symm
   rw[qw,oN _ _ _ _ _ Ff.2,fr,if_pos g2,Xy,ad1]
  ·have g2:(ss mN x).1=0:=by simpa using g2
   refine λw3 h3=>⟨⟨i+1,bd,_,_,nb',nc',nk',Xd,aZ,SS.ss Ez,.inl ⟨hb,Ff.1,?_⟩,rfl,h3⟩,by show at_+n-((at_+(i+1):Nat):Int).toNat<at_+n-((at_+i:Nat):Int).toNat;omega⟩;rw[oJ,oN _ _ _ _ _ Ff.2,fr,if_neg (by omega)]
   rfl
def Nt{l:List It}{lb:OA}{lc:Nat}(hm:RM m)(eO:∀x∈l,I3 x)(hl:l.length<=1000)
 (h:∀p2 mb' mc' kb' kc' ob oc R',Bk p m mb mc kb kc R p2 (eQ ss vI l.length m l).2 mb' mc' kb' kc' R'->RM (eQ ss vI l.length m l).2->(eQ ss vI l.length m l).1.length=l.length->
  T W (ML p2 (eQ ss vI l.length m l).2 mb' mc' kb' kc' (own ob l.length oc 1 ((eQ ss vI l.length m l).1.flatMap I1)::own lb l.length lc 31 (l.flatMap vZ)::R')) (K (.tuple ⟨[.l ob l.length oc,.p (some ⟨p2,0,none⟩)]⟩))):
 T W (ML p m mb mc kb kc (own lb l.length lc 31 (l.flatMap vZ)::R)) (aW (some ⟨p,0,none⟩) lb l.length lc K):=by
 unfold aW aW.j1;refine eY (e:=1) ?_;refine T.Fy ?_;intro w jG;refine⟨Pb W R p m mb mc kb kc l lb lc,WG l.length,⟨0,l.length,m,[],p,mb,mc,kb,kc,none,0,R,ad6 _,rfl,by omega,by simp,hm,.inl ⟨rfl,rfl,rfl,rfl,rfl,rfl,rfl⟩,rfl,jG⟩,?_⟩;rintro p2v uG pY uF p3 ob at_ oc n1 w2 ⟨at0,fuel,m',done,p2,mb',mc',kb',kc',ob0,oc0,R',yj,xg,Mu,lH,GD,y5,e,fo⟩;cases e
 refine T.at ?_ fo;refine dX (λg1=>?_) (λg1=>?_)
 ·have aZ:at_<l.length:=by omega
  intro w3 qU;refine⟨λvv w=>∃e:Nat,at_<=e/\e<=l.length/\(∀j y,j<e-at_->(l.drop at_)[j]?=some y->vI y=true)/\vv=[.p (some ⟨p2,0,none⟩),.l none 0 0,.p none,.l ob at_ oc,.i (at_:Int),.i (e:Int)]/\
   St W w (ML p2 m' mb' mc' kb' kc' (own ob at_ oc 1 (done.flatMap I1)::own lb l.length lc 31 (l.flatMap vZ)::R')),
   λvs _=>match vs with|[_,_,_,_,_,.int _ d]=>l.length-d.toNat|_=>0,⟨at_,ad4 _,yj,(λj y hj=>by omega),rfl,qU⟩,?_⟩
  rintro p16 ady ads adv p17 adx adr adu n22 n23 w15 ⟨en,adO,adN,fJ,e,JY⟩;cases e
  refine T.at ?_ JY;obtain⟨fuel,rfl⟩:∃k,fuel=k+1:=⟨fuel-1,by omega⟩;refine dX (λg2=>?_) (λg2=>?_)
  ·have rW:en<l.length:=by omega
   have gx:=adX rW;generalize l[en]=x at gx;have Yv:(l.drop at_)[en-at_]?=some x:=by rw[afd,show at_+(en-at_)=en by omega];exact gx
   refine bR (b:=lb) ⟨by omega,by omega⟩ λrb Ux=>?_;rw[adY];subst Ux;refine dA (g:=vZ) JV gx ?_;refine F3 ?_;refine nK ?_;cases hlk:vI x with
   |true=>
    refine vy ?_;have e5:=mh en;rw[e5];refine λw6 h6=>⟨⟨en+1,by omega,rW,λj y hj hy=>?_,rfl,h6⟩,by show l.length-((en+1:Nat):Int).toNat<l.length-(en:Int).toNat;omega⟩;by_cases hje:j=en-at_
    ·subst hje;rw[Yv] at hy;cases hy
     exact hlk
    ·exact fJ j y (by omega) hy
   |false=>
    refine mL ?_;refine dO (by simp;omega) ?_;have hc:=tf (linked:=vI) fJ Yv hlk;have:=JA (W:=W) (R:=R) (K:=K) (p:=p) (m:=m) (mb:=mb) (mc:=mc) (kb:=kb) (kc:=kc) (w2:=w2) (lb:=some ⟨rb,0,none⟩) (lc:=lc) (n:=en-at_+1) (bad:= -1) (code:=0) (fuel:=fuel) (ob:=ob) (oc:=oc) (done:=done) eO hl (by omega) (by omega) xg (by omega) GD y5 (by rw[hc];rfl) (.inl ⟨rfl,rfl⟩) lH;rw[show at_+(en-at_+1) -1=en by omega] at this;exact this
  ·have gF:en=l.length:=by omega
   subst gF;refine jN (by simp) ?_;have rY:(l.drop at_).length=l.length-at_:=ad9;have hc:=rh (linked:=vI) (l:=l.drop at_) λx hx=>by
    obtain⟨j,hj⟩:=aff hx;exact fJ j x (by have:=(adZ.1 hj).1;omega) hj
   have:=JA (W:=W) (R:=R) (K:=K) (p:=p) (m:=m) (mb:=mb) (mc:=mc) (kb:=kb) (kc:=kc) (w2:=w2) (lb:=lb) (lc:=lc) (n:=l.length-at_) (bad:=((l.length-1:Nat):Int)) (code:=2) (fuel:=fuel) (ob:=ob) (oc:=oc) (done:=done) eO hl (by omega) (by omega) xg (by omega) GD y5 (by rw[hc,rY];rw[decide_eq_false (by omega)]) (.inr ⟨by congr 1;omega,rfl,by omega⟩) lH;have e7:adU.wrap ((l.length:Int) -1)=((l.length-1:Nat):Int):=by rw[ar (by omega)];omega
   rw[show at_+(l.length-at_) -1=l.length-1 by omega] at this;rw[e7];exact this
 ·have gF:at_=l.length:=by omega
  subst gF;rw[List.drop_length,rN] at lH;simp only[aei] at lH;rw[lH] at h;exact h p2 mb' mc' kb' kc' ob oc R' y5 GD xg
end
def zh{α β:Type}(f:α->β)(lk:β->Bool):∀l:List α,bl lk (l.map f)=bl (λx=>lk (f x)) l
 |[]=>rfl
 |x::l=>by
  simp only[aez,bl];rw[zh f lk l]
def DL{α β σ:Type}(f:α->β)(g:σ->β->Int×σ):∀(l:List α)(s:σ)(i:Nat),fr g s (l.map f) i=fr (λs x=>g s (f x)) s l i
 |[],s,i=>rfl
 |x::l,s,i=>by
  simp only[aez,fr];rw[DL f g l]
def AM{α β σ:Type}(f:α->β)(g:σ->β->Int×σ)(lk:β->Bool):∀(n:Nat)(s:σ)(l:List α),eQ g lk n s (l.map f)=eQ (λs x=>g s (f x)) (λx=>lk (f x)) n s l
 |0,s,l=>rfl
 |n+1,s,[]=>rfl
 |n+1,s,x::l=>by
  have e:=zh f lk (x::l);rw[aez] at e;rw[aez];unfold eQ;rw[e,<-aez,<-List.map_take,<-List.map_drop,DL];simp only[AM f g lk n]
section
variable {W:World} {L R:LH} {K:VK} {X:WK} {p:Nat} {m:Model} {mb kb:OA} {mc kc:Nat} {q:ig} {s:rE}
def Jx(m:Model)(l:List aO):eQ ss vI l.length m (l.map It.a)=eQ Model.make wU l.length m l:=AM It.a ss vI _ m l
def Jw(m:Model)(l:List Move):eQ ss vI l.length m (l.map It.t)=eQ Model.ov wT l.length m l:=AM It.t ss vI _ m l
def RM.aE{m:Model}{q:ig}(h:RM m)(h1:q.op=1->∀a∈q.ah,vn a)(h2:q.op=2->∀t∈q.aT,u3 t):RM (aE m q).2.2:=by
 have run:∀(n:Nat)(l:List It)(m:Model),(∀x∈l,I3 x)->RM m->RM (eQ Up.ss vI n m l).2:=by
  intro n
  induction n with
  |zero=>intro l m _ hm;exact hm
  |succ n ih=>
   intro l m eO hm;cases l with
   |nil=>exact hm
   |cons x l=>
    have fJ:∀(l:List It)(m:Model)(i:Nat),(∀x∈l,I3 x)->RM m->(fr Up.ss m l i).1=none->RM (fr Up.ss m l i).2:=by
     intro l
     induction l with
     |nil=>intro m i _ hm _;exact hm
     |cons y l Px=>
      intro m i eO hm hn;unfold fr at hn⊢;by_cases hc:(Up.ss m y).1≠0
      ·rw[if_pos hc] at hn;cases hn
      ·rw[if_neg hc] at hn⊢;exact Px _ _ (λz hz=>eO z (ae1 _ hz)) (hm.ss (eO y List.mem_cons_self)) hn
    rw[eQ];by_cases hw:(bl vI (x::l)).2=false
    ·rw[if_pos hw];exact hm
    rw[if_neg hw];cases hd:fr Up.ss m ((x::l).take (bl vI (x::l)).1) 0 with
    |mk o s'=>
     have GI:∀z∈(x::l).drop (bl vI (x::l)).1,I3 z:=λz hz=>eO z (List.mem_of_mem_drop hz);cases o with
     |none=>
      have:=fJ _ m 0 (λz hz=>eO z (List.mem_of_mem_take hz)) hm (by rw[hd]);rw[hd] at this;exact ih _ _ GI this
     |some e=>exact ih _ _ GI hm
 unfold Up.aE;by_cases he:jz q=false
 ·rw[if_pos he];exact h
 rw[if_neg he];by_cases o1:q.op=1
 ·rw[if_pos o1,<-Jx];exact run _ _ _ (λx hx=>by obtain⟨a,ha,rfl⟩:=aeI.1 hx;exact h1 o1 a ha) h
 rw[if_neg o1];by_cases o2:q.op=2
 ·rw[if_pos o2,<-Jw];exact run _ _ _ (λx hx=>by obtain⟨a,ha,rfl⟩:=aeI.1 hx;exact h2 o2 a ha) h
 rw[if_neg o2];refine h.time _ ?_;unfold jz at he;rw[if_neg o1,if_neg o2] at he;by_cases o3:q.op=3
 ·rw[if_pos o3] at he;have he:(decide (0<=q.now)&&decide (q.now<=1099511627776))=true:=by simpa using he
  simp only[aeR,decide_eq_true_eq] at he;exact he.1
 ·rw[if_neg o3] at he;exact absurd rfl he
def Ei(hm:RM m)(hq:lK W R q s)(zz:q.ah.length<1000000)(aZ:q.aT.length<1000000)(h1:q.op=1->∀a∈q.ah,vn a)(h2:q.op=2->∀t∈q.aT,u3 t)
 (h:∀p2 mb' mc' kb' kc' ob oc R',Bk p m mb mc kb kc R p2 (aE m q).2.2 mb' mc' kb' kc' R'->RM (aE m q).2.2->
  T W (ML p2 (aE m q).2.2 mb' mc' kb' kc' (own ob (aE m q).2.1.length oc 1 ((aE m q).2.1.flatMap I1)::R')) (K (.tuple ⟨[.l ob (aE m q).2.1.length oc,.i (aE m q).1,.p (some ⟨p2,0,none⟩)]⟩))):
 T W (ML p m mb mc kb kc R) (eK (some ⟨p,0,none⟩) (dH q s) K):=by
 unfold eK eK.j1;have hmf:=hm.lu;have hmm:=hm.many;have Ly:=hm.aE h1 h2;apply ws;intros;rename_i r1;refine C8 ?_;by_cases he:jz q=false
 ·rw[he];apply ws;intros;have e:aE m q=(1,[],m):=by unfold aE;rw[if_pos he]
  rw[e] at h Ly;refine T.drop ?_;refine eY (e:=1) ?_;refine T.Mj ?_;exact h p mb mc kb kc none 0 R (.inl ⟨rfl,rfl,rfl,rfl,rfl,rfl,rfl⟩) hm
 have Mv:jz q=true:=by simpa using he
 rw[Mv];apply ws;intros;refine bw (λg1=>?_) (λg1=>?_)
 ·have g1:q.op=3:=by simpa using g1
  have e:aE m q=(0,[],m.time q.now):=by unfold aE;rw[if_neg he,if_neg (by omega),if_neg (by omega)]
  rw[e] at h Ly;refine T.Mj ?_;refine Ej (by omega) (by omega) λp2 nb nc nk NL=>?_;apply ws;intros;refine Qr (by omega) (λk hk=>?_) ?_
  ·have:=hm.kept k hk;have t1:=this.timeout;have t2:=this.born;exact ar (by omega)
  apply ws;intros;refine eY (e:=1) ?_;refine T.Fy ?_;refine T.sub (h p2 nb nc nk NL none 0 _ (.inr rfl) Ly) ?_
  repeat (first|exact aeb.refl _|apply aeb.cons_cons|apply aeb.cons)
 ·have g1: ¬q.op=3:=by simpa using g1
  have adG:q.op=1\/q.op=2:=by
   unfold jz at Mv;by_cases o1:q.op=1
   ·exact .inl o1
   ·by_cases o2:q.op=2
    ·exact .inr o2
    ·rw[if_neg o1,if_neg o2,if_neg g1] at Mv;cases Mv
  apply ws;intros;refine Cl (R:=R) hq.ah (by omega) λb c=>?_;apply ws;intros;have hl8:q.op=1->q.ah.length<=8:=λo1=>by
   unfold jz at Mv;rw[if_pos o1] at Mv;simp only[aeR,decide_eq_true_eq] at Mv;exact Mv.2
  have aaI:q.op=2->q.aT.length<=8:=λo2=>by
   unfold jz at Mv;rw[if_neg (by omega),if_pos o2] at Mv;simp only[aeR,decide_eq_true_eq] at Mv;exact Mv.2
  refine bw (λg2=>?_) (λg2=>?_)
  ·have g2:q.op=2:=by simpa using g2
   have e:aE m q=(0,eQ ss vI (q.aT.map It.t).length m (q.aT.map It.t)):=by unfold aE;rw[if_neg he,if_neg (by omega),if_pos g2,aen,Jw]
   rw[e] at h Ly;apply ws;intros;refine AV (R:=R) hq.aT (by omega) λb2 c2=>?_;apply ws;intros;refine T.sub (M:=own b2 q.aT.length c2 31 ((q.aT.map It.t).flatMap vZ)::ML p m mb mc kb kc R) ?_ (by repeat (first|exact aeb.refl _|apply aeb.cons_cons|apply aeb.cons));refine T.Mj ?_;have PD:q.aT.length=(q.aT.map It.t).length:=(aen _).symm;rw[PD];refine Nt hm (λx hx=>by obtain⟨t,ht,rfl⟩:=aeI.1 hx;exact h2 g2 t ht) (by rw[aen];have:=aaI g2;omega) λp2 mb' mc' kb' kc' ob oc R' y5 Mp hlen=>?_;apply ws;intros;have hh:=h p2 mb' mc' kb' kc' ob oc R' y5 Mp;dsimp only at hh;rw[hlen] at hh;refine T.sub hh ?_;exact lW
  ·have g2: ¬q.op=2:=by simpa using g2
   have o1:q.op=1:=by omega
   have e:aE m q=(0,eQ ss vI (q.ah.map It.a).length m (q.ah.map It.a)):=by unfold aE;rw[if_neg he,if_pos o1,aen,Jx]
   rw[e] at h Ly;refine T.sub (M:=own b q.ah.length c 31 ((q.ah.map It.a).flatMap vZ)::ML p m mb mc kb kc R) ?_ (by repeat (first|exact aeb.refl _|apply aeb.cons_cons|apply aeb.cons));refine T.Mj ?_;have PD:q.ah.length=(q.ah.map It.a).length:=(aen _).symm;rw[PD];refine Nt hm (λx hx=>by obtain⟨t,ht,rfl⟩:=aeI.1 hx;exact h1 o1 t ht) (by rw[aen];have:=hl8 o1;omega) λp2 mb' mc' kb' kc' ob oc R' y5 Mp hlen=>?_;apply ws;intros;have hh:=h p2 mb' mc' kb' kc' ob oc R' y5 Mp;dsimp only at hh;rw[hlen] at hh;refine T.sub hh ?_;exact lW
end
def wW(from_ to s:Int):Bool:=decide (from_<=s/\(to=0\/s<=to))
def F7{s:Int}:∀{l:List kq},(∀p∈l,s<=p.1)->pos s l=0
 |[],_=>rfl
 |p::l,h=>by unfold pos;rw[if_neg (by have:=h p List.mem_cons_self;omega)]
def uB{to:Int}(h0: ¬to=0){l:List kq}(h:∀p∈l,to<p.1):qK to l=0:=by
 unfold qK;rw[if_neg h0,F7 λp hp=>by have:=h p hp;omega];cases l with
 |nil=>rfl
 |cons q l=>
  have:=h q List.mem_cons_self;show(if q.1=to then 0+1 else 0)=0;rw[if_neg (by omega)]
def CH{to:Int}(h0: ¬to=0){p:kq}{l:List kq}(fJ:∀q∈l,p.1<q.1):qK to (p::l)=if p.1<to+1 then qK to l+1 else 0:=by
 by_cases h1:p.1<to
 ·rw[if_pos (by omega)];unfold qK;rw[if_neg h0,if_neg h0,pos,if_pos h1,aed];cases l[pos to l]? with
  |none=>rfl
  |some q=>
   dsimp only;split<;>rfl
 ·by_cases h2:p.1=to
  ·rw[if_pos (by omega),uB (l:=l) h0 λq hq=>by have:=fJ q hq;omega];unfold qK;rw[if_neg h0,show pos to (p::l)=0 by rw[pos,if_neg h1]];show(if p.1=to then 0+1 else 0)=1;rw[if_pos h2]
  ·rw[if_neg (by omega)];exact uB h0 λq hq=>by
    rcases afe.1 hq with hq|hq
    ·subst hq;omega
    ·have:=fJ q hq;omega
def u5(from_ to:Int):∀(l:List kq),oT l->mM from_ to l=l.filter λp=>wW from_ to p.1
 |[],_=>by unfold mM;simp
 |p::l,hr=>by
  have SP:oT l:=(List.pairwise_cons.1 hr).2;have fJ:∀q∈l,p.1<q.1:=(List.pairwise_cons.1 hr).1;have ih:=u5 from_ to l SP;unfold mM at ih⊢;by_cases h1:p.1<from_
  ·have e1:pos from_ (p::l)=pos from_ l+1:=by rw[pos,if_pos h1]
   have e2:wW from_ to p.1=false:=decide_eq_false (by omega);rw[e1,aeY (by rw[e2];decide),List.drop_succ_cons,<-ih];by_cases h2:to=0
   ·unfold qK;rw[if_pos h2,if_pos h2];simp only[aee,Nat.add_sub_add_right]
   ·rw[CH h2 fJ];by_cases h3:p.1<to+1
    ·rw[if_pos h3,Nat.add_sub_add_right]
    ·rw[if_neg h3,uB h2 λq hq=>by have:=fJ q hq;omega];simp
  ·have e1:pos from_ (p::l)=0:=by rw[pos,if_neg h1]
   have e3:pos from_ l=0:=F7 λq hq=>by have:=fJ q hq;omega
   rw[e3,Nat.sub_zero,ae5] at ih;rw[e1,Nat.sub_zero,ae5];by_cases h2:to=0
   ·have e2:wW from_ to p.1=true:=decide_eq_true (by omega);unfold qK at ih⊢;rw[if_pos h2] at ih⊢;rw[aeX (p:=λp:kq=>wW from_ to p.1) (a:=p) (l:=l) e2,<-ih];simp
   ·rw[CH h2 fJ];by_cases h3:p.1<to+1
    ·have e2:wW from_ to p.1=true:=decide_eq_true (by omega);rw[if_pos h3,List.take_succ_cons,ih,aeX (p:=λp:kq=>wW from_ to p.1) (a:=p) (l:=l) e2]
    ·have e2:wW from_ to p.1=false:=decide_eq_false (by omega);rw[uB h2 λq hq=>by have:=fJ q hq;omega,afm] at ih;rw[if_neg h3,afm,aeY (by rw[e2];decide),<-ih]
def tq{b:ax}(P:Int->Bool):∀(l:List Kept)(i:Nat),(∀j,j<l.length->b.kept[i+j]?=l[j]?)->((cM i l).filter λp=>P p.1).map (sR b)=l.filter λk=>P k.move.ae
 |[],i,_=>rfl
 |k::l,i,h=>by
  have h0:=h 0 (by simp);rw[aeT] at h0;have hka:sR b (k.move.ae,(i:Int))=k:=by unfold sR;dsimp only;rw[adY,h0];rfl
  have ih:=tq P l (i+1) λj hj=>by
   have:=h (j+1) (by simpa using hj);rw[aed] at this;rw[<-this];congr 1;omega
  unfold cM;by_cases hp:P k.move.ae=true
  ·rw[aeX (by exact hp),aeX (by exact hp),aez,hka,ih]
  ·rw[aeY (by exact hp),aeY (by exact hp),ih]
def VA{b:ax}(hg:Good b)(from_ to:Int)(sQ:Bool):VB b from_ to sQ=(if sQ then b.kept.reverse else b.kept).filter λk=>wW from_ to k.move.ae:=by
 have h:=u5 from_ to _ hg.tU;have h2:=tq (b:=b) (wW from_ to) b.kept 0 λj hj=>by rw[ad1]
 unfold VB;rw[h];cases sQ with
 |true=>
  rw[if_pos rfl,if_pos rfl,List.map_reverse,h2,List.filter_reverse]
 |false=>
  rw[if_neg aeq,if_neg aeq,h2]
def ur{α:Type}{key:α->Nat}:∀(l:List α)(id:Nat),(l.map key).Nodup->(l.filter λx=>decide (key x=id))=(l.find? λx=>decide (key x=id)).toList
 |[],id,_=>rfl
 |x::l,id,hn=>by
  rw[aez,List.nodup_cons] at hn;by_cases h:key x=id
  ·rw[aeX (p:=λx=>decide (key x=id)) (a:=x) (l:=l) (decide_eq_true h),List.find?_cons_of_pos (p:=λx=>decide (key x=id)) (a:=x) (decide_eq_true h)];have:l.filter (λx=>decide (key x=id))=[]:=by
    rw[List.filter_eq_nil_iff];intro y hy hh;exact hn.1 (by rw[h,<-of_decide_eq_true hh];exact List.mem_map_of_mem hy)
   rw[this];rfl
  ·rw[aeY (p:=λx=>decide (key x=id)) (a:=x) (l:=l) (by rw[decide_eq_false h];decide),List.find?_cons_of_neg (p:=λx=>decide (key x=id)) (a:=x) (by rw[decide_eq_false h];decide),ur l id hn.2]
def qx{α β:Type}(f:α->Option β):∀l:List α,l.filterMap f=l.flatMap λx=>(f x).toList
 |[]=>rfl
 |x::l=>by
  rw[aeN,<-qx f l,List.filterMap_cons];cases f x<;>rfl
def findAll{b:ax}(hg:Good b)(ids:List Nat):(ids.flatMap λid=>b.ah.filter λa=>decide (a.id=id))=ids.filterMap b.find:=by
 rw[qx]
 congr 1
 funext id
 exact ur (key:=λa:aO=>a.id) b.ah id hg.ids
def NN{b:ax}(hg:Good b)(ids:List Nat):(ids.flatMap λid=>(b.kept.filter λk=>decide (k.move.id=id)).map (·.move))=ids.filterMap λid=>(b.named id).map (·.move):=by
 rw[qx]
 congr 1
 funext id
 rw[ur (key:=λk:Kept=>k.move.id) b.kept id hg.names];show _=((b.kept.find? _).map _).toList;cases b.kept.find? (λx=>decide (x.move.id=id))<;>rfl
def NH(b:ax)(q:ig):List Move:=((((if q.mV then b.kept.reverse else b.kept).filter λk=>wW q.fQ q.rZ k.move.ae&&fits q k).take q.ia.toNat)).map (·.move)
def F'{b:ax}(hg:Good b)(q:ig):NH b q=Xa b q:=by
 unfold NH Xa;rw[VA hg,List.filter_filter]
 congr 2
 apply List.filter_congr;intro k _;rw[Bool.and_comm]
section
variable {W:World} {L R:LH} {K:VK} {X:WK} {q:ig} {s:rE}
def Ck{ab:OA}{ac:Nat}{al:List aO}{f:HP->LH}[i:o8 ab al.length ac L 14 (al.flatMap ak) f][hh:Has R L]{s:OA}{c:Nat}{ids:List Nat}(hr:oe W R nm 2 s ids)(hl:ids.length<=1000)(Yn:al.length<=1000)
 (h:∀b' c' out,out=(ids.flatMap λid=>al.filter λa=>decide (a.id=id))->T W (own b' out.length c' 14 (out.flatMap ak)::L) (K (.l b' out.length c'))):T W L (ix ab al.length ac s ids.length c K):=by
 unfold ix;refine eY (e:=14) ?_;intro w jG;refine⟨λvv w=>∃(i:Nat)(bo:OA)(cc:Nat)(done:List aO),i<=ids.length/\done=((ids.take i).flatMap λid=>al.filter λa=>decide (a.id=id))/\done.length<=1000* i/\vv=[.l none 0 0,.l bo done.length cc,.l s ids.length c,.i (ids.length:Int),.i (i:Int)]/\
  St W w (own bo done.length cc 14 (done.flatMap ak)::L),
  λvs _=>match vs with|[_,_,_,_,.int _ d]=>ids.length-d.toNat|_=>0,⟨0,none,0,[],ad6 _,by simp,by simp,rfl,jG⟩,?_⟩
 rintro uG pY uF bo pL cc zt yJ yK n3 n4 w2 ⟨i,b0,c0,done,hi,iq,xg,e,fo⟩;cases e
 refine T.at ?_ fo;refine dX (λg1=>?_) (λg1=>?_)
 ·have aZ:i<ids.length:=by omega
  have gx:=adX aZ;generalize ids[i]=x at gx;have dJ:((ids.take (i+1)).flatMap λid=>al.filter λa=>decide (a.id=id))=done++al.filter λa=>decide (a.id=x):=by
   rw[aeg,gx,aeV,<-iq];simp
  refine kf hr ⟨by omega,by omega⟩ rfl λa ha=>?_;rw[adY];refine ke hr ha gx rfl ?_;apply ws;intros;rename_i r1;intro w3 qU;refine⟨λvv w=>∃(j:Nat)(bo:OA)(cc:Nat)(dn:List aO),j<=al.length/\dn=done++((al.take j).filter λa=>decide (a.id=x))/\dn.length<=1000* i+j/\vv=[.l none 0 0,.l bo dn.length cc,.p (some (ad r1 0)),.l s ids.length c,.i (ids.length:Int),.i (i:Int),.l ab al.length ac,.i (al.length:Int),.i (j:Int)]/\
                                                    St W w (Sep.pt r1 (nm x)::own bo dn.length cc 14 (dn.flatMap ak)::L),
   λvs _=>match vs with|[_,_,_,_,_,_,_,_,.int _ d]=>al.length-d.toNat|_=>0,⟨0,bo,cc,done,ad6 _,by simp,by omega,rfl,qU⟩,?_⟩
  rintro ZI W3 V9 Zr ZF WC a2 sb8 sn8 sc8 n5 n6 sb9 sn9 sc9 n7 n8 w4 ⟨j,b1,c1,dn,hj,Re,aaU,e,tG⟩;cases e
  refine T.at ?_ tG;have e5:=mh j;refine dX (λg2=>?_) (λg2=>?_)
  ·have rW:j<al.length:=by omega
   have gy:=adX rW;generalize al[j]=y at gy;refine bR (b:=ab) ⟨by omega,by omega⟩ λrb hb=>?_;rw[adY];subst hb;refine dA ff gy ?_;apply ws;intros;rw[e5];refine bw (λg3=>?_) (λg3=>?_)
   ·have Cr:done++((al.take (j+1)).filter λa=>decide (a.id=x))=dn++[y]:=by
     rw[aeg,gy,List.filter_append,<-ad5,<-Re]
     congr 1
     show[y].filter _=[y];rw[aeX (by exact g3)];rfl
    apply ws;intros;refine hG (g:=ak) (l:=dn) (x:=y) (aei _) rfl rfl (by omega) (by omega) (eX _) λb2 c2=>?_;refine T.drop (T.drop λw5 h5=>⟨⟨j+1,b2,c2,dn++[y],rW,Cr.symm,by simp;omega,by simp,by simpa using h5⟩,by show al.length-((j+1:Nat):Int).toNat<al.length-(j:Int).toNat;omega⟩)
   ·have Cr:done++((al.take (j+1)).filter λa=>decide (a.id=x))=dn:=by
     rw[aeg,gy,List.filter_append,<-ad5,<-Re];have:[y].filter (λa:aO=>decide (a.id=x))=[]:=by rw[aeY (by rw[g3];decide)];rfl
     show dn++[y].filter _=dn;rw[this,aei]
    refine T.drop λw5 h5=>⟨⟨j+1,Zr,WC,dn,rW,Cr.symm,by omega,rfl,h5⟩,by show al.length-((j+1:Nat):Int).toNat<al.length-(j:Int).toNat;omega⟩
  ·have gF:j=al.length:=by omega
   subst gF;rw[ad'] at Re;have e6:=mh i;rw[e6];refine T.drop λw5 h5=>⟨⟨i+1,Zr,WC,dn,aZ,by rw[dJ,Re],by omega,rfl,h5⟩,by show ids.length-((i+1:Nat):Int).toNat<ids.length-(i:Int).toNat;omega⟩
 ·have gF:i=ids.length:=by omega
  subst gF;rw[ad'] at iq;exact h bo cc done iq
def AU{ab:OA}{ac:Nat}{al:List Kept}{f:HP->LH}[i:o8 ab al.length ac L 33 (al.flatMap aI) f][hh:Has R L]{s:OA}{c:Nat}{ids:List Nat}(hr:oe W R nm 2 s ids)(hl:ids.length<=1000)(Yn:al.length<=1000)
 (h:∀b' c' out,out=(ids.flatMap λid=>(al.filter λk=>decide (k.move.id=id)).map (·.move))->T W (own b' out.length c' 16 (out.flatMap aj)::L) (K (.l b' out.length c'))):T W L (gX ab al.length ac s ids.length c K):=by
 unfold gX;refine eY (e:=16) ?_;intro w jG;refine⟨λvv w=>∃(i:Nat)(bo:OA)(cc:Nat)(done:List Move),i<=ids.length/\done=((ids.take i).flatMap λid=>(al.filter λk=>decide (k.move.id=id)).map (·.move))/\done.length<=1000* i/\vv=[.l none 0 0,.l bo done.length cc,.l s ids.length c,.i (ids.length:Int),.i (i:Int)]/\
  St W w (own bo done.length cc 16 (done.flatMap aj)::L),
  λvs _=>match vs with|[_,_,_,_,.int _ d]=>ids.length-d.toNat|_=>0,⟨0,none,0,[],ad6 _,by simp,by simp,rfl,jG⟩,?_⟩
 rintro uG pY uF bo pL cc zt yJ yK n3 n4 w2 ⟨i,b0,c0,done,hi,iq,xg,e,fo⟩;cases e
 refine T.at ?_ fo;refine dX (λg1=>?_) (λg1=>?_)
 ·have aZ:i<ids.length:=by omega
  have gx:=adX aZ;generalize ids[i]=x at gx;have dJ:((ids.take (i+1)).flatMap λid=>(al.filter λk=>decide (k.move.id=id)).map (·.move))=done++(al.filter λk=>decide (k.move.id=x)).map (·.move):=by
   rw[aeg,gx,aeV,<-iq];simp
  refine kf hr ⟨by omega,by omega⟩ rfl λa ha=>?_;rw[adY];refine ke hr ha gx rfl ?_;apply ws;intros;rename_i r1;intro w3 qU;refine⟨λvv w=>∃(j:Nat)(bo:OA)(cc:Nat)(dn:List Move),j<=al.length/\dn=done++((al.take j).filter λk=>decide (k.move.id=x)).map (·.move)/\dn.length<=1000* i+j/\vv=[.l none 0 0,.l bo dn.length cc,.p (some (ad r1 0)),.l s ids.length c,.i (ids.length:Int),.i (i:Int),.l ab al.length ac,.i (al.length:Int),.i (j:Int)]/\
                                                    St W w (Sep.pt r1 (nm x)::own bo dn.length cc 16 (dn.flatMap aj)::L),
   λvs _=>match vs with|[_,_,_,_,_,_,_,_,.int _ d]=>al.length-d.toNat|_=>0,⟨0,bo,cc,done,ad6 _,by simp,by omega,rfl,qU⟩,?_⟩
  rintro ZI W3 V9 Zr ZF WC a2 sb8 sn8 sc8 n5 n6 sb9 sn9 sc9 n7 n8 w4 ⟨j,b1,c1,dn,hj,Re,aaU,e,tG⟩;cases e
  refine T.at ?_ tG;have e5:=mh j;refine dX (λg2=>?_) (λg2=>?_)
  ·have rW:j<al.length:=by omega
   have gy:=adX rW;generalize al[j]=y at gy;refine bR (b:=ab) ⟨by omega,by omega⟩ λrb hb=>?_;rw[adY];subst hb;refine dA fF gy ?_;apply ws;intros;rw[e5];refine bw (λg3=>?_) (λg3=>?_)
   ·have Cr:done++((al.take (j+1)).filter λk=>decide (k.move.id=x)).map (·.move)=dn++[y.move]:=by
     rw[aeg,gy,List.filter_append,aeu,<-ad5,<-Re]
     congr 1
     show([y].filter _).map _=[y.move];rw[aeX (by exact g3)];rfl
    apply ws;intros;refine hG (g:=aj) (l:=dn) (x:=y.move) (aei _) rfl rfl (by omega) (by omega) (lF _) λb2 c2=>?_;refine T.drop (T.drop λw5 h5=>⟨⟨j+1,b2,c2,dn++[y.move],rW,Cr.symm,by simp;omega,by simp,by simpa using h5⟩,by show al.length-((j+1:Nat):Int).toNat<al.length-(j:Int).toNat;omega⟩)
   ·have Cr:done++((al.take (j+1)).filter λk=>decide (k.move.id=x)).map (·.move)=dn:=by
     rw[aeg,gy,List.filter_append,aeu,<-ad5,<-Re];have:[y].filter (λk:Kept=>decide (k.move.id=x))=[]:=by rw[aeY (by rw[g3];decide)];rfl
     show dn++([y].filter _).map _=dn;rw[this];simp
    refine T.drop λw5 h5=>⟨⟨j+1,Zr,WC,dn,rW,Cr.symm,by omega,rfl,h5⟩,by show al.length-((j+1:Nat):Int).toNat<al.length-(j:Int).toNat;omega⟩
  ·have gF:j=al.length:=by omega
   subst gF;rw[ad'] at Re;have e6:=mh i;rw[e6];refine T.drop λw5 h5=>⟨⟨i+1,Zr,WC,dn,aZ,by rw[dJ,Re],by omega,rfl,h5⟩,by show ids.length-((i+1:Nat):Int).toNat<ids.length-(i:Int).toNat;omega⟩
 ·have gF:i=ids.length:=by omega
  subst gF;rw[ad'] at iq;exact h bo cc done iq
end
instance{t:Move}:Sub (aj t) 2 2 (nm t.aD):=⟨rfl,(uZ (cs:=aj t) (o:=2) (n:=t.aD) rfl rfl).2⟩
instance{t:Move}:Sub (aj t) 4 2 (nm t.aq):=⟨rfl,(uZ (cs:=aj t) (o:=4) (n:=t.aq) rfl rfl).2⟩
section
variable {W:World} {L R M:LH} {K:VK} {X:WK} {q:ig} {s:rE}
def KJ{I1:LV->World->Prop}{mH:LV->World->Nat}{r1 r2 cc:Nat}{bo:OA}{done:List Move}{x:Kept}{n3 n4:Int}{w2:World}{g:LV->LH}
 (hA:(done.length<q.ia.toNat/\(wW q.fQ q.rZ x.move.ae&&fits q x)=true)->∀b2 c2,T W (own b2 (done.length+1) c2 16 ((done++[x.move]).flatMap aj)::M) (λw3=>I1 [.p (some (ad r1 0)),.l none 0 0,.l b2 (done.length+1) c2,.i n3,.i (adU.wrap (n4+1))] w3/\
  mH [.p (some (ad r1 0)),.l none 0 0,.l b2 (done.length+1) c2,.i n3,.i (adU.wrap (n4+1))] w3<mH [.p (some (ad r1 0)),.l none 0 0,.l bo done.length cc,.i n3,.i n4] w2))
 (hN: ¬(done.length<q.ia.toNat/\(wW q.fQ q.rZ x.move.ae&&fits q x)=true)->T W (own bo done.length cc 16 (done.flatMap aj)::M) (λw3=>I1 [.p (some (ad r1 0)),.l none 0 0,.l bo done.length cc,.i n3,.i (adU.wrap (n4+1))] w3/\
  mH [.p (some (ad r1 0)),.l none 0 0,.l bo done.length cc,.i n3,.i (adU.wrap (n4+1))] w3<mH [.p (some (ad r1 0)),.l none 0 0,.l bo done.length cc,.i n3,.i n4] w2))
 [i1:Lc (Sep.pt r1) M (ma q) g](EB:0<=q.ia/\q.ia<=16)(hd:done.length<=1000):
 T W (Sep.pt r2 (aI x)::own bo done.length cc 16 (done.flatMap aj)::M) (aL.j1 K r2 (ad r1 0) I1 none 0 0 bo done.length cc n3 n4 mH w2):=by
 have j3:∀(r3:Nat)(yes:Bool),(yes=true↔done.length<q.ia.toNat/\(wW q.fQ q.rZ x.move.ae&&fits q x)=true)->T W (Sep.pt r3 (aj x.move)::Sep.pt r2 (aI x)::own bo done.length cc 16 (done.flatMap aj)::M) (aL.j3 K r3 bo done.length cc I1 (ad r1 0) none 0 0 n3 n4 mH w2 yes):=λr3 yes hy=>by
  unfold aL.j3;cases yes with
  |true=>
   apply ws;intros;refine hG (b:=bo) (g:=aj) (l:=done) (x:=x.move) (aei _) rfl rfl (by omega) (by omega) (lF _) λb2 c2=>?_;exact T.drop (T.drop (T.drop (hA (hy.1 rfl) b2 c2)))
  |false=>
   apply ws;intros;exact T.drop (T.drop (hN λhh=>by have:=hy.2 hh;cases this))
 have j4:∀(r3:Nat)(b2:Bool),b2=(q.se&&decide (x.move.aD=q.tw))->done.length<q.ia.toNat->wW q.fQ q.rZ x.move.ae=true->T W (Sep.pt r3 (aj x.move)::Sep.pt r2 (aI x)::own bo done.length cc 16 (done.flatMap aj)::M) (aL.j4 K r3 bo done.length cc I1 (ad r1 0) none 0 0 n3 n4 mH w2 b2):=λr3 b2 hb hl hi=>by
  unfold aL.j4;have hf:fits q x=(b2||(q.pN&&decide (x.move.aq=q.tw))):=by rw[hb];rfl
  cases b2 with
  |true=>
   apply ws;intros;refine j3 r3 true ⟨λ_=>⟨hl,by rw[hi,hf];rfl⟩,λ_=>rfl⟩
  |false=>
   rw[Bool.false_or] at hf;apply ws;intros;cases hc:q.pN with
   |true=>
    apply ws;intros;rw[hc,ae0] at hf;refine j3 r3 _ ⟨λh=>⟨hl,by rw[hi,hf,h];rfl⟩,λh=>by rw[hi,hf,ae0] at h;exact h.2⟩
   |false=>
    apply ws;intros;rw[hc,ae9] at hf;refine j3 r3 false ⟨λh=>(by cases h),λh=>by rw[hf,Bool.and_false] at h;cases h.2⟩
 have j2:∀(r3:Nat)(b2:Bool),(b2=true↔wW q.fQ q.rZ x.move.ae=false\/ ¬done.length<q.ia.toNat)->T W (Sep.pt r3 (aj x.move)::Sep.pt r2 (aI x)::own bo done.length cc 16 (done.flatMap aj)::M) (aL.j2 K I1 (ad r1 0) none 0 0 bo done.length cc n3 n4 mH w2 r3 b2):=λr3 b2 hb=>by
  unfold aL.j2;cases b2 with
  |true=>
   apply ws;intros;refine T.drop (T.drop (hN λhh=>?_));rcases hb.1 rfl with h|h
   ·rw[h,ae9] at hh;cases hh.2
   ·exact h hh.1
  |false=>
   have hi:wW q.fQ q.rZ x.move.ae=true:=by
    cases h:wW q.fQ q.rZ x.move.ae with
    |true=>rfl
    |false=>have:=hb.2 (.inl h);cases this
   have hl:done.length<q.ia.toNat:=Decidable.byContradiction λh=>by have:=hb.2 (.inr h);cases this
   apply ws;intros;cases PI:q.se with
   |true=>
    apply ws;intros;refine j4 r3 _ ?_ hl hi;rw[PI,ae0]
   |false=>
    apply ws;intros;refine j4 r3 _ ?_ hl hi;rw[PI,ae9]
 unfold aL.j1 aL.j5;apply ws;intros;rename_i r3;refine dX (λg1=>?_) (λg1=>?_)
 ·refine j2 r3 true ⟨λ_=>.inl (decide_eq_false (by omega)),λ_=>rfl⟩
 ·apply ws;intros;refine bw (λg2=>?_) (λg2=>?_)
  ·have g2:=bne_iff_ne.1 g2;apply ws;intros;refine dX (λg3=>?_) (λg3=>?_)
   ·refine j2 r3 true ⟨λ_=>.inl (decide_eq_false (by omega)),λ_=>rfl⟩
   ·have hi:wW q.fQ q.rZ x.move.ae=true:=decide_eq_true (by omega);apply ws;intros;refine j2 r3 _ ⟨λh=>.inr (by have:=of_decide_eq_true h;omega),λh=>?_⟩;rcases h with h|h
    ·rw[hi] at h;cases h
    ·exact decide_eq_true (by omega)
  ·have g2:q.rZ=0:=by simpa using g2
   have hi:wW q.fQ q.rZ x.move.ae=true:=decide_eq_true (by omega);apply ws;intros;refine j2 r3 _ ⟨λh=>.inr (by have:=of_decide_eq_true h;omega),λh=>?_⟩;rcases h with h|h
   ·rw[hi] at h;cases h
   ·exact decide_eq_true (by omega)
def Qw{ab:OA}{ac:Nat}{al:List Kept}{f:HP->LH}[ii:o8 ab al.length ac L 33 (al.flatMap aI) f](Yn:al.length<=1000)(EB:0<=q.ia/\q.ia<=16)
 (h:∀b' c' out,out=((((if q.mV then al.reverse else al).filter λk=>wW q.fQ q.rZ k.move.ae&&fits q k).take q.ia.toNat)).map (·.move)->T W (own b' out.length c' 16 (out.flatMap aj)::L) (K (.l b' out.length c'))):
 T W L (aL ab al.length ac (ma q) K):=by
 unfold aL;apply ws;intros;rename_i r1;obtain⟨l,hl⟩:∃l,l=if q.mV then al.reverse else al:=⟨_,rfl⟩
 have Dt:l.length=al.length:=by rw[hl];split<;>simp
 rw[<-hl] at h;refine eY (e:=16) ?_;intro w jG;refine⟨λvv w=>∃(i:Nat)(bo:OA)(cc:Nat)(done:List Move),i<=l.length/\done=(((l.take i).filter λk=>wW q.fQ q.rZ k.move.ae&&fits q k).take q.ia.toNat).map (·.move)/\done.length<=i/\vv=[.p (some (ad r1 0)),.l none 0 0,.l bo done.length cc,.i (al.length:Int),.i (i:Int)]/\
    St W w (own bo done.length cc 16 (done.flatMap aj)::Sep.pt r1 (ma q)::L),
  λvs _=>match vs with|[_,_,_,_,.int _ d]=>al.length-d.toNat|_=>0,⟨0,none,0,[],ad6 _,by simp,ad4 _,rfl,jG⟩,?_⟩
 rintro a1 uG pY uF bo pL cc n3 n4 w2 ⟨i,b0,c0,done,hi,iq,xg,e,fo⟩;cases e
 refine T.at ?_ fo;have e5:=mh i;refine dX (λg1=>?_) (λg1=>?_)
 ·have aZ:i<l.length:=by omega
  have gx:=adX aZ;generalize l[i]=x at gx;have dJ:=yF (P:=λk=>wW q.fQ q.rZ k.move.ae&&fits q k) (n:=q.ia.toNat) gx;have rY:done.length=(((l.take i).filter λk=>wW q.fQ q.rZ k.move.ae&&fits q k).take q.ia.toNat).length:=by rw[iq,aen]
  rw[<-rY] at dJ;have tu:(((l.take (i+1)).filter λk=>wW q.fQ q.rZ k.move.ae&&fits q k).take q.ia.toNat).map (·.move)=if done.length<q.ia.toNat/\(wW q.fQ q.rZ x.move.ae&&fits q x)=true then done++[x.move] else done:=by
   rw[dJ];by_cases c1:done.length<q.ia.toNat
   ·rw[if_pos c1];by_cases c2:(wW q.fQ q.rZ x.move.ae&&fits q x)=true
    ·rw[if_pos c2,if_pos ⟨c1,c2⟩,aeu,<-iq];rfl
    ·rw[if_neg c2,if_neg (λh=>c2 h.2),<-iq]
   ·rw[if_neg c1,if_neg (λh=>c1 h.1),<-iq]
  have UO:i<al.length:=by omega
  have gy:=adX UO;refine bR (b:=ab) ⟨by omega,by omega⟩ λrb hb=>?_;subst hb;rw[adY];refine dA fF gy ?_;apply ws;intros;rename_i r2;have fin:T W (Sep.pt r2 (aI x)::own bo done.length cc 16 (done.flatMap aj)::Sep.pt r1 (ma q)::L) (aL.j1 K r2 (ad r1 0) (λvv w=>∃(i:Nat)(bo:OA)(cc:Nat)(done:List Move),i<=l.length/\done=(((l.take i).filter λk=>wW q.fQ q.rZ k.move.ae&&fits q k).take q.ia.toNat).map (·.move)/\done.length<=i/\vv=[.p (some (ad r1 0)),.l none 0 0,.l bo done.length cc,.i (al.length:Int),.i (i:Int)]/\
   St W w (own bo done.length cc 16 (done.flatMap aj)::Sep.pt r1 (ma q)::L)) none 0 0 bo done.length cc (al.length:Int) (i:Int) (λvs _=>match vs with|[_,_,_,_,.int _ d]=>al.length-d.toNat|_=>0) w2):=by
   refine KJ (q:=q) (x:=x) (M:=Sep.pt r1 (ma q)::L) (λhy b2 c2=>?_) (λhy=>?_) EB (by omega)
   ·rw[e5];rw[if_pos hy] at tu;exact λw3 h3=>⟨⟨i+1,b2,c2,done++[x.move],aZ,tu.symm,by simp;omega,by simp,by simpa using h3⟩,by show al.length-((i+1:Nat):Int).toNat<al.length-(i:Int).toNat;omega⟩
   ·rw[e5];rw[if_neg hy] at tu;exact λw3 h3=>⟨⟨i+1,bo,cc,done,aZ,tu.symm,by omega,rfl,h3⟩,by show al.length-((i+1:Nat):Int).toNat<al.length-(i:Int).toNat;omega⟩
  cases zz:q.mV with
  |true=>
   rw[zz,if_pos rfl] at hl;apply ws;intros;have e7:adU.wrap (adU.wrap ((al.length:Int) -1) -(i:Int))=((al.length-1-i:Nat):Int):=by rw[ar (n:=(al.length:Int) -1) (by omega),ar (by omega)];omega
   rw[e7];refine bR (b:=some ⟨rb,0,none⟩) ⟨by omega,by omega⟩ λPw hb=>?_;cases hb
   rw[adY];have gz:al[al.length-1-i]?=some x:=by rw[hl,List.getElem?_reverse UO] at gx;exact gx
   refine dA fF gz ?_;apply ws;intros;exact fin
  |false=>
   rw[zz,if_neg aeq] at hl;subst hl;rw[gx] at gy;have Wo:x=l[i]'UO:=by injection gy
   rw[<-Wo];apply ws;intros;exact fin
 ·have gF:i=l.length:=by omega
  subst gF;rw[ad'] at iq;have:=h bo cc done iq;refine T.sub this ?_;exact lW
end
section
variable {W:World} {L R M:LH} {K:VK} {X:WK} {q:ig} {s:rE}
def BV(al:List aO)(kl:List Kept)(q:ig):Int×List aO×List Move:=
 if kX q=false then(1,[],[])
 else if q.op=4 then(0,(q.ids.flatMap λid=>al.filter λa=>decide (a.id=id)),[])
 else if q.op=5 then(0,[],q.ids.flatMap λid=>(kl.filter λk=>decide (k.move.id=id)).map (·.move))
 else(0,[],((((if q.mV then kl.reverse else kl).filter λk=>wW q.fQ q.rZ k.move.ae&&fits q k).take q.ia.toNat)).map (·.move))
def RX{m:Model}(hg:Good (bo m))(q:ig):BV (bo m).ah (bo m).kept q=ask m q:=by
 unfold BV ask;rw[findAll hg,NN hg,<-F' hg]
 rfl
def H6{ab kb:OA}{ac kc:Nat}{al:List aO}{kl:List Kept}{f g:HP->LH}[i1:o8 ab al.length ac L 14 (al.flatMap ak) f][i2:o8 kb kl.length kc L 33 (kl.flatMap aI) g][hh:Has R L](hq:lK W R q s)
 (Yn:al.length<=1000)(UM:kl.length<=1000)
 (h:∀b1 c1 b2 c2,T W (own b1 (BV al kl q).2.1.length c1 14 ((BV al kl q).2.1.flatMap ak)::own b2 (BV al kl q).2.2.length c2 16 ((BV al kl q).2.2.flatMap aj)::L)
  (K (.tuple ⟨[.l b1 (BV al kl q).2.1.length c1,.l b2 (BV al kl q).2.2.length c2,.i (BV al kl q).1]⟩))):
 T W L (jZ ab al.length ac kb kl.length kc (dH q s) K):=by
 unfold jZ;apply ws;intros;refine C0 ?_;unfold BV at h;by_cases ge:kX q=false
 ·rw[if_pos ge] at h;rw[ge];apply ws;intros;refine T.drop ?_;refine eY (e:=16) ?_;refine eY (e:=14) ?_;exact h none 0 none 0
 rw[if_neg ge] at h;have Rl:kX q=true:=by simpa using ge
 rw[Rl];apply ws;intros;have Lu:q.op=4\/q.op=5->q.ids.length<=16:=λho=>by
  unfold kX at Rl;rw[if_pos ho,aeR,decide_eq_true_eq,decide_eq_true_eq] at Rl;exact Rl.2
 refine bw (λg1=>?_) (λg1=>?_)
 ·have g1:q.op=4:=by simpa using g1
  rw[if_pos g1] at h;have:=Lu (.inl g1);apply ws;intros;refine Ck (R:=R) (al:=al) hq.ids (by omega) Yn λb' c' out ho=>?_;rw[<-ho] at h;apply ws;intros;refine eY (e:=16) ?_;refine T.swap ?_;refine T.sub (h b' c' none 0) ?_
  repeat (first|exact aeb.refl _|apply aeb.cons_cons|apply aeb.cons)
 ·have g1: ¬q.op=4:=by simpa using g1
  rw[if_neg g1] at h;apply ws;intros;refine bw (λg2=>?_) (λg2=>?_)
  ·have g2:q.op=5:=by simpa using g2
   rw[if_pos g2] at h;have:=Lu (.inr g2);apply ws;intros;refine AU (R:=R) (al:=kl) hq.ids (by omega) UM λb' c' out ho=>?_;rw[<-ho] at h;apply ws;intros;refine eY (e:=14) ?_;refine T.sub (h none 0 b' c') ?_
   repeat (first|exact aeb.refl _|apply aeb.cons_cons|apply aeb.cons)
  ·have g2: ¬q.op=5:=by simpa using g2
   rw[if_neg g2] at h;have EB:0<=q.ia/\q.ia<=16:=by
    unfold kX at Rl;rw[if_neg (by omega)] at Rl;by_cases o6:q.op=6
    ·rw[if_pos o6,aeR,decide_eq_true_eq] at Rl;omega
    ·rw[if_neg o6] at Rl;cases Rl
   apply ws;intros;refine Qw (al:=kl) UM EB λb' c' out ho=>?_;rw[<-ho] at h;apply ws;intros;refine eY (e:=14) ?_;refine T.sub (h none 0 b' c') ?_
   repeat (first|exact aeb.refl _|apply aeb.cons_cons|apply aeb.cons)
def ux{α:Type}[DecidableEq α]{l m:List α}{i:Nat}{x y:α}(hx:l[i]?=some x)(hy:m[i]?=some y)(h:l.take i=m.take i)(he:x=y):l.take (i+1)=m.take (i+1):=by
 rw[aeg,aeg,hx,hy,h,he]
def uy{α:Type}{l m:List α}{i:Nat}{x y:α}(hx:l[i]?=some x)(hy:m[i]?=some y)(he: ¬x=y): ¬l=m:=λh=>by
 rw[h,hy] at hx;injection hx with hx;exact he hx.symm
def KT{ab kb:OA}{ac kc:Nat}{al kl:List Int}{f g:HP->LH}[i1:o8 ab al.length ac L 1 (al.flatMap I1) f][i2:o8 kb kl.length kc L 1 (kl.flatMap I1) g](Yn:al.length<=100000)
 (h:T W L (K (.bool (decide (al=kl))))):T W L (kv ab al.length ac kb kl.length kc K):=by
 unfold kv;by_cases hlen:al.length=kl.length
 ·refine dO (by simp;omega) ?_;intro w jG;refine⟨λvv w=>∃i:Nat,i<=al.length/\al.take i=kl.take i/\vv=[.bool false,.i (al.length:Int),.i (i:Int)]/\St W w L,λvs _=>match vs with|[_,_,.int _ d]=>al.length-d.toNat|_=>0,⟨0,ad6 _,rfl,rfl,jG⟩,?_⟩;rintro b1 n1 n2 w2 ⟨i,hi,heq,e,fo⟩;cases e
  refine T.at ?_ fo;have e5:=mh i;refine dX (λg1=>?_) (λg1=>?_)
  ·have aZ:i<al.length:=by omega
   have gx:=adX aZ;have gy:=adX (show i<kl.length by omega);generalize al[i]=x at gx;generalize kl[i]=y at gy;refine vt ?_;refine bR (b:=ab) ⟨by omega,by omega⟩ λrb hb=>?_;rw[adY];subst hb;refine vx (g:=I1) yB gx rfl ?_;refine lA ?_;refine bR (b:=kb) ⟨by omega,by omega⟩ λPw hb=>?_;rw[adY];subst hb;refine vx (g:=I1) yB gy rfl ?_;refine lA ?_;refine bw (λg2=>?_) (λg2=>?_)
   ·have g2:=bne_iff_ne.1 g2;rw[decide_eq_false (uy gx gy g2)] at h;exact h
   ·have g2:x=y:=by simpa using g2
    rw[e5];exact λw3 h3=>⟨⟨i+1,aZ,ux gx gy heq g2,rfl,h3⟩,by show al.length-((i+1:Nat):Int).toNat<al.length-(i:Int).toNat;omega⟩
  ·have gF:i=al.length:=by omega
   subst gF;rw[ad',hlen,ad'] at heq;rw[decide_eq_true heq] at h;exact h
 ·refine jN (by rw[bne_iff_ne];omega) ?_;rw[decide_eq_false (λhh=>hlen (by rw[hh]))] at h;exact h
def KS{ab bb tb ub:OA}{ac bc tc uc:Nat}{a b:List aO}{t u:List Move}{f1 f2 f3 f4:HP->LH}[i1:o8 ab a.length ac L 14 (a.flatMap ak) f1][i2:o8 bb b.length bc L 14 (b.flatMap ak) f2]
 [i3:o8 tb t.length tc L 16 (t.flatMap aj) f3][i4:o8 ub u.length uc L 16 (u.flatMap aj) f4](ha:a.length<=100000)(ht:t.length<=100000)
 (h:T W L (K (.bool (decide (a=b/\t=u))))):T W L (eG ab a.length ac bb b.length bc tb t.length tc ub u.length uc K):=by
 unfold eG eG.j1;by_cases hlen:a.length=b.length
 ·refine dO (by simp;omega) ?_;by_cases xa:t.length=u.length
  ·refine dO (by simp;omega) ?_;intro w jG;refine⟨λvv w=>∃i:Nat,i<=a.length/\a.take i=b.take i/\vv=[.bool false,.i (a.length:Int),.i (i:Int)]/\St W w L,λvs _=>match vs with|[_,_,.int _ d]=>a.length-d.toNat|_=>0,⟨0,ad6 _,rfl,rfl,jG⟩,?_⟩;rintro b1 n1 n2 w2 ⟨i,hi,heq,e,fo⟩;cases e
   refine T.at ?_ fo;have e5:=mh i;refine dX (λg1=>?_) (λg1=>?_)
   ·have aZ:i<a.length:=by omega
    have gx:=adX aZ;have gy:=adX (show i<b.length by omega);generalize a[i]=x at gx;generalize b[i]=y at gy;refine vt ?_;refine bR (b:=ab) ⟨by omega,by omega⟩ λrb hb=>?_;rw[adY];subst hb;refine dA ff gx ?_;refine bR (b:=bb) ⟨by omega,by omega⟩ λPw hb=>?_;rw[adY];subst hb;refine dA ff gy ?_;refine Su ?_;by_cases g2:x=y
    ·rw[decide_eq_true g2,e5];refine AB ?_;exact λw3 h3=>⟨⟨i+1,aZ,ux gx gy heq g2,rfl,h3⟩,by show a.length-((i+1:Nat):Int).toNat<a.length-(i:Int).toNat;omega⟩
    ·rw[decide_eq_false g2];rw[decide_eq_false (λhh:a=b/\t=u=>uy gx gy g2 hh.1)] at h;exact h
   ·have gF:i=a.length:=by omega
    subst gF;rw[ad',hlen,ad'] at heq;intro w3 qU;refine⟨λvv w=>∃i:Nat,i<=t.length/\t.take i=u.take i/\vv=[.bool false,.i (t.length:Int),.i (i:Int)]/\St W w L,λvs _=>match vs with|[_,_,.int _ d]=>t.length-d.toNat|_=>0,⟨0,ad6 _,rfl,rfl,qU⟩,?_⟩;rintro b1 n1 n2 w4 ⟨i,hi,Ir,e,tG⟩;cases e
    refine T.at ?_ tG;have e5:=mh i;refine dX (λg1=>?_) (λg1=>?_)
    ·have aZ:i<t.length:=by omega
     have gx:=adX aZ;have gy:=adX (show i<u.length by omega);generalize t[i]=x at gx;generalize u[i]=y at gy;refine vt ?_;refine bR (b:=tb) ⟨by omega,by omega⟩ λrb hb=>?_;rw[adY];subst hb;refine dA rR gx ?_;refine bR (b:=ub) ⟨by omega,by omega⟩ λPw hb=>?_;rw[adY];subst hb;refine dA rR gy ?_;refine M4 ?_;by_cases g2:x=y
     ·rw[decide_eq_true g2,e5];refine AB ?_;exact λw3 h3=>⟨⟨i+1,aZ,ux gx gy Ir g2,rfl,h3⟩,by show t.length-((i+1:Nat):Int).toNat<t.length-(i:Int).toNat;omega⟩
     ·rw[decide_eq_false g2];rw[decide_eq_false (λhh:a=b/\t=u=>uy gx gy g2 hh.2)] at h;exact h
    ·have gF:i=t.length:=by omega
     subst gF;rw[ad',xa,ad'] at Ir;rw[decide_eq_true ⟨heq,Ir⟩] at h;exact h
  ·refine jN (by rw[bne_iff_ne];omega) ?_;rw[decide_eq_false (λhh:a=b/\t=u=>xa (by rw[hh.2]))] at h;exact h
 ·refine jN (by rw[bne_iff_ne];omega) ?_;refine vy ?_;rw[decide_eq_false (λhh:a=b/\t=u=>hlen (by rw[hh.1]))] at h;exact h
end
section
variable {W:World} {L R M:LH} {K:VK} {X:WK} {q:ig} {s:rE} {p:Nat} {m:Model} {mb kb:OA} {mc kc:Nat}
def KV{r1:Nat}{ob kb ab xb:OA}{oc kc ac xc:Nat}{ol al:List aO}{kl xl:List Kept}{ck st RI Sx:Int}{f0:LV->LH}{f1 f2 f3 f4:HP->LH}
 [i0:Lc (Sep.pt r1) L [.l ob ol.length oc,.l kb kl.length kc,.i ck,.i st] f0]
 [i1:o8 ob ol.length oc L 14 (ol.flatMap ak) f1][i2:o8 ab al.length ac L 14 (al.flatMap ak) f2][i3:o8 kb kl.length kc L 33 (kl.flatMap aI) f3][i4:o8 xb xl.length xc L 33 (xl.flatMap aI) f4](ha:ol.length<=100000)(hk:kl.length<=100000)
 (h:T W L (K (.bool (decide (ol=al/\kl=xl/\ck=RI/\st=Sx))))):T W L (bu (some (ad r1 0)) ab al.length ac xb xl.length xc RI Sx K):=by
 have bad: ¬(ol=al/\kl=xl/\ck=RI/\st=Sx)->T W L (K (.bool false)):=λhh=>by rw[decide_eq_false hh] at h;exact h
 have j1:∀b:Bool,(b=true-> ¬(ol=al/\kl=xl/\ck=RI/\st=Sx))->(b=false->ol.length=al.length/\kl.length=xl.length/\ck=RI/\st=Sx)->T W L (bu.j1 K al.length (some (ad r1 0)) ab xl.length xb b):=λb PN ui=>by
  unfold bu.j1;cases b with
  |true=>exact bad (PN rfl)
  |false=>
   obtain⟨XX,Q9,Yd,rK⟩:=ui rfl;refine mL ?_;intro w jG;refine⟨λvv w=>∃i:Nat,i<=al.length/\ol.take i=al.take i/\vv=[.bool false,.i (al.length:Int),.i (i:Int)]/\St W w L,λvs _=>match vs with|[_,_,.int _ d]=>al.length-d.toNat|_=>0,⟨0,ad6 _,rfl,rfl,jG⟩,?_⟩;rintro b1 n1 n2 w2 ⟨i,hi,heq,e,fo⟩;cases e
   refine T.at ?_ fo;have e5:=mh i;refine dX (λg1=>?_) (λg1=>?_)
   ·have aZ:i<al.length:=by omega
    have gx:=adX (show i<ol.length by omega);have gy:=adX aZ;generalize ol[i]=x at gx;generalize al[i]=y at gy;refine vt ?_;refine zp ?_;refine jM (i:=i0) rfl ?_;refine tN ?_;refine bR (b:=ob) ⟨by omega,by omega⟩ λrb hb=>?_;rw[adY];subst hb;refine dA ff gx ?_;refine bR (b:=ab) ⟨by omega,by omega⟩ λPw hb=>?_;rw[adY];subst hb;refine dA ff gy ?_;refine Su ?_;by_cases g2:x=y
    ·rw[decide_eq_true g2,e5];refine AB ?_;exact λw3 h3=>⟨⟨i+1,aZ,ux gx gy heq g2,rfl,h3⟩,by show al.length-((i+1:Nat):Int).toNat<al.length-(i:Int).toNat;omega⟩
    ·rw[decide_eq_false g2];exact bad λhh=>uy gx gy g2 hh.1
   ·have gF:i=al.length:=by omega
    subst gF;rw[ad',<-XX,ad'] at heq;intro w3 qU;refine⟨λvv w=>∃i:Nat,i<=xl.length/\kl.take i=xl.take i/\vv=[.bool false,.i (xl.length:Int),.i (i:Int)]/\St W w L,λvs _=>match vs with|[_,_,.int _ d]=>xl.length-d.toNat|_=>0,⟨0,ad6 _,rfl,rfl,qU⟩,?_⟩;rintro b1 n1 n2 w4 ⟨i,hi,Ir,e,tG⟩;cases e
    refine T.at ?_ tG;have e5:=mh i;refine dX (λg1=>?_) (λg1=>?_)
    ·have aZ:i<xl.length:=by omega
     have gx:=adX (show i<kl.length by omega);have gy:=adX aZ;generalize kl[i]=x at gx;generalize xl[i]=y at gy;refine vt ?_;refine zp ?_;refine Ay ?_;refine jM (i:=i0) (o:=1) rfl ?_;refine tN ?_;refine bR (b:=kb) ⟨by omega,by omega⟩ λrb hb=>?_;rw[adY];subst hb;refine dA fF gx ?_;refine bR (b:=xb) ⟨by omega,by omega⟩ λPw hb=>?_;rw[adY];subst hb;refine dA fF gy ?_;refine WU ?_;by_cases g2:x=y
     ·rw[decide_eq_true g2,e5];refine AB ?_;exact λw3 h3=>⟨⟨i+1,aZ,ux gx gy Ir g2,rfl,h3⟩,by show xl.length-((i+1:Nat):Int).toNat<xl.length-(i:Int).toNat;omega⟩
     ·rw[decide_eq_false g2];exact bad λhh=>uy gx gy g2 hh.2.1
    ·have gF:i=xl.length:=by omega
     subst gF;rw[ad',<-Q9,ad'] at Ir;rw[decide_eq_true ⟨heq,Ir,Yd,rK⟩] at h;exact h
 unfold bu bu.j2 bu.j3;refine zp ?_;refine jM (i:=i0) rfl ?_;refine tN ?_;by_cases hlen:ol.length=al.length
 ·refine dO (by simp;omega) ?_;refine zp ?_;refine Ay ?_;refine jM (i:=i0) (o:=1) rfl ?_;refine tN ?_;by_cases xa:kl.length=xl.length
  ·refine dO (by simp;omega) ?_;refine zp ?_;refine Ay ?_;refine jM (i:=i0) (o:=2) rfl ?_;refine lA ?_;by_cases hc:ck=RI
   ·refine dO (by simpa using hc) ?_;refine zp ?_;refine Ay ?_;refine jM (i:=i0) (o:=3) rfl ?_;refine lA ?_;refine j1 _ (λhb=>?_) (λhb=>⟨hlen,xa,hc,by simpa using hb⟩);have:=bne_iff_ne.1 hb;exact λhh=>this hh.2.2.2
   ·refine jN (by simpa using hc) ?_;exact j1 true (λ_ hh=>hc hh.2.2.1) (λhb=>by cases hb)
  ·refine jN (by rw[bne_iff_ne];omega) ?_;refine vy ?_;exact j1 true (λ_ hh=>xa (by rw[hh.2.1])) (λhb=>by cases hb)
 ·refine jN (by rw[bne_iff_ne];omega) ?_;refine vy ?_;refine vy ?_;exact j1 true (λ_ hh=>hlen (by rw[hh.1])) (λhb=>by cases hb)
def Qs{ab xb:OA}{ac xc:Nat}{al:List aO}{xl:List Kept}{RI Sx:Int}{f2 f4:HP->LH}(hm:RM m)
 [i2:o8 ab al.length ac R 14 (al.flatMap ak) f2][i4:o8 xb xl.length xc R 33 (xl.flatMap aI) f4]
 (h:T W (ML p m mb mc kb kc R) (K (.bool (decide (m.made.map m.full=al/\m.kept=xl/\m.clock=RI/\m.ae=Sx))))):T W (ML p m mb mc kb kc R) (gK (some ⟨p,0,none⟩) ab al.length ac xb xl.length xc RI Sx K):=by
 unfold gK;have hmf:=hm.lu;have hmm:=hm.many;apply ws;intros;refine yN (by omega) (by omega) hm.Wa hm.W5 λob oc=>?_;apply ws;intros;rename_i r1;have PD:m.made.length=(m.made.map m.full).length:=(aen _).symm;rw[PD];refine KV (ob:=ob) (ol:=m.made.map m.full) (kl:=m.kept) (by rw[aen];omega) (by omega) ?_;apply ws;intros;refine T.drop ?_;refine T.sub h ?_;exact lW
end
instance{e:Int}{rb ab tb:OA}{rn rc an ac tn tc:Nat}:Sub (nM e rb rn rc ab an ac tb tn tc) 0 4 (nM e rb rn rc ab an ac tb tn tc):=⟨rfl,λj v h=>by rw[ad1];exact h⟩
instance{x1 x2 x3 x4:Value}{e:Int}{rb ab tb:OA}{rn rc an ac tn tc:Nat}:Wr [x1,x2,x3,x4] 0 (nM e rb rn rc ab an ac tb tn tc) (nM e rb rn rc ab an ac tb tn tc):=⟨rfl,ad4 _,λv hv=>by simp[nM] at hv;rcases hv with rfl|rfl|rfl|rfl<;>rfl⟩
section
variable {W:World} {L R M:LH} {K:VK} {X:WK} {q:ig} {s:rE} {p:Nat} {m:Model} {mb kb:OA} {mc kc:Nat}
def T.un2{A B:HP}(h:T W (ML p m mb mc kb kc (A::B::R)) X):T W (A::B::ML p m mb mc kb kc R) X:=
 T.perm h (ad7 (l₁:=[A,B]) (l₂:=[_,_,_])|>.append_right R)
def TH{e:Int}{rb ab tb:OA}{rc ac tc:Nat}{res:List Int}{al:List aO}{tl:List Move}{f1 f2 f3:HP->LH}(hg:Good (bo m))(pT:Md.Ground m)
 [i1:o8 rb res.length rc R 1 (res.flatMap I1) f1][i2:o8 ab al.length ac R 14 (al.flatMap ak) f2][i3:o8 tb tl.length tc R 16 (tl.flatMap aj) f3](hlr:res.length<=10000)(zz:al.length<=10000)(aZ:tl.length<=10000)
 (hq:lK W R q s)(Uz:q.ah.length<1000000)(ZV:q.aT.length<1000000)(hA:∀a∈q.ah,vn a)(hT:∀t∈q.aT,u3 t)
 (WA:cz q=false->T W (ML p m mb mc kb kc R) (K (.tuple ⟨[.bool (decide (e=(ask m q).1/\(al=(ask m q).2.1/\tl=(ask m q).2.2)/\res=[])),.p (some ⟨p,0,none⟩)]⟩)))
 (hB:cz q=true->gQ q=false->T W (ML p m mb mc kb kc R) (K (.tuple ⟨[.bool (decide (e=1/\res=[])),.p (some ⟨p,0,none⟩)]⟩)))
 (hC:cz q=true->gQ q=true->e=0->∀p2 mb' mc' kb' kc' R',Bk p m mb mc kb kc R p2 (aE m q).2.2 mb' mc' kb' kc' R'->RM (aE m q).2.2->T W (ML p2 (aE m q).2.2 mb' mc' kb' kc' R') (K (.tuple ⟨[.bool (decide ((aE m q).1=0/\res=(aE m q).2.1)),.p (some ⟨p2,0,none⟩)]⟩)))
 (hD:cz q=true->gQ q=true->e≠0->T W (ML p m mb mc kb kc R) (K (.tuple ⟨[.bool (decide ((e=8\/e=9\/e=6\/e=3)/\res=[]/\al=[]/\tl=[])),.p (some ⟨p,0,none⟩)]⟩))):
 T W (ML p m mb mc kb kc R) (av (nM e rb res.length rc ab al.length ac tb tl.length tc) (some ⟨p,0,none⟩) (dH q s) K):=by
 have hm:=RM.sG hg pT;have hmf:=hm.lu;have hmm:=hm.many;have Xp:∀{α:Type}(l:List α),(((l.length:Nat):Int)==0)=decide (l=[]):=λl=>by
  rw[aek,beq_iff_eq,decide_eq_true_eq,<-List.length_eq_zero_iff];omega
 unfold av;apply ws;intros;refine tY ?_;cases he:cz q with
 |false=>
  have WA:=WA he;apply ws;intros;rename_i r1 r2;refine T.un2 ?_;refine yN (by omega) (by omega) hm.Wa hm.W5 λob oc=>?_;apply ws;intros;have PD:m.made.length=(m.made.map m.full).length:=(aen _).symm;have aa6:(m.made.map m.full).length<=1000:=by rw[aen];omega
  rw[PD];have aa3:BV (m.made.map m.full) m.kept q=ask m q:=by
   rw[<-RX hg];have:m.made.map m.full=(bo m).ah:=ae6 λa ha=>pT.full ha;rw[this];rfl
  refine H6 (R:=R) (al:=m.made.map m.full) (kl:=m.kept) hq aa6 (by omega) λb1 c1 b2 c2=>?_;rw[aa3];refine TK ?_;apply ws;intros;have j2:∀b:Bool,b=decide (e=(ask m q).1/\(al=(ask m q).2.1/\tl=(ask m q).2.2))->T W (own b1 (ask m q).2.1.length c1 14 ((ask m q).2.1.flatMap ak)::own b2 (ask m q).2.2.length c2 16 ((ask m q).2.2.flatMap aj)::ML p m mb mc kb kc (own ob (m.made.map m.full).length oc 14 ((m.made.map m.full).flatMap ak)::Sep.pt r2 (dH q s)::Sep.pt r1 (nM e rb res.length rc ab al.length ac tb tl.length tc)::R)) (av.j2 K r1 (some ⟨p,0,none⟩) b):=λb hb=>by
   unfold av.j2 av.j1;cases b with
   |true=>
    have hb:=of_decide_eq_true hb.symm;apply ws;intros;rw[Xp];have e1:decide (res=[])=decide (e=(ask m q).1/\(al=(ask m q).2.1/\tl=(ask m q).2.2)/\res=[]):=by rw[decide_eq_decide];exact⟨λh=>⟨hb.1,hb.2,h⟩,λh=>h.2.2⟩
    rw[e1];refine T.sub WA ?_;exact lW
   |false=>
    have hb:=of_decide_eq_false hb.symm;have e1:false=decide (e=(ask m q).1/\(al=(ask m q).2.1/\tl=(ask m q).2.2)/\res=[]):=(decide_eq_false (λh=>hb ⟨h.1,h.2.1⟩)).symm;apply ws;intros;rw[e1];refine T.sub WA ?_;exact lW
  refine bw (λg1=>?_) (λg1=>?_)
  ·have g1:e=(ask m q).1:=by simpa using g1
   apply ws;intros;refine KS (a:=al) (b:=(ask m q).2.1) (t:=tl) (u:=(ask m q).2.2) (by omega) (by omega) ?_;refine nK ?_;refine j2 _ ?_;rw[decide_eq_decide];exact⟨λh=>⟨g1,h⟩,λh=>h.2⟩
  ·have g1: ¬e=(ask m q).1:=by simpa using g1
   exact j2 false (decide_eq_false (λh=>g1 h.1)).symm
 |true=>
  have hB:=hB he;have hC:=hC he;have hD:=hD he;apply ws;intros;rename_i r1 r2;refine T.un2 ?_;refine KR (R:=R) hq Uz ZV ?_;cases hw:gQ q with
  |false=>
   have hB:=hB hw;apply ws;intros;unfold av.j3;refine bw (λg1=>?_) (λg1=>?_)
   ·have g1:e=1:=by simpa using g1
    apply ws;intros;rw[Xp];have e1:decide (res=[])=decide (e=1/\res=[]):=by rw[decide_eq_decide];exact⟨λh=>⟨g1,h⟩,λh=>h.2⟩
    rw[e1];refine T.sub hB ?_;exact lW
   ·have g1: ¬e=1:=by simpa using g1
    have e1:false=decide (e=1/\res=[]):=(decide_eq_false (λh=>g1 h.1)).symm;rw[e1];refine T.sub hB ?_;exact lW
  |true=>
   have hC:=hC hw;have hD:=hD hw;apply ws;intros;refine Ei hm ⟨hq.ah.mono,hq.aT.mono,hq.ids.mono,hq.ca,hq.ct,hq.ci⟩ Uz ZV (λ_=>hA) (λ_=>hT) λp2 mb' mc' kb' kc' ob oc R' y5 Mp=>?_;refine TK ?_;have hR2:∃g1 g2 g3,∃(_:o8 rb res.length rc R' 1 (res.flatMap I1) g1)(_:o8 ab al.length ac R' 14 (al.flatMap ak) g2)(_:o8 tb tl.length tc R' 16 (tl.flatMap aj) g3),∃g4,Lc (Sep.pt r1) R' (nM e rb res.length rc ab al.length ac tb tl.length tc) g4:=by
    rcases y5 with⟨rfl,-⟩|rfl
    ·exact⟨_,_,_,inferInstance,inferInstance,inferInstance,_,inferInstance⟩
    ·exact⟨_,_,_,inferInstance,inferInstance,inferInstance,_,inferInstance⟩
   obtain⟨g1,g2,g3,k1,k2,k3,g4,k4⟩:=hR2;have fC:e=0->T W (ML p2 (aE m q).2.2 mb' mc' kb' kc' R') (K (.tuple ⟨[.bool (decide ((aE m q).1=0/\res=(aE m q).2.1)),.p (some ⟨p2,0,none⟩)]⟩)):=λh0=>by
    rcases y5 with⟨rfl,rfl,GD,rfl,rfl,rfl,rfl⟩|rfl
    ·refine T.sub (hC h0 p2 mb' mc' kb' kc' R (.inl ⟨rfl,rfl,GD,rfl,rfl,rfl,rfl⟩) Mp) ?_;exact lW
    ·refine T.sub (hC h0 p2 mb' mc' kb' kc' _ (.inr rfl) Mp) ?_;exact lW
   have fD:e≠0->∀b:Bool,b=decide ((e=8\/e=9\/e=6\/e=3)/\res=[]/\al=[]/\tl=[])->T W (ML p2 (aE m q).2.2 mb' mc' kb' kc' R') (K (.tuple ⟨[.bool b,.pointer (some ⟨p,0,none⟩)]⟩)):=λh0 b hb=>by
    rw[hb];have hD:=hD h0;rcases y5 with⟨rfl,rfl,GD,rfl,rfl,rfl,rfl⟩|rfl
    ·rw[GD];refine T.sub hD ?_;exact lW
    ·refine T.sub hD ?_;refine aeb.trans ?_ (List.sublist_append_right [Sep.pt p2 (Be (aE m q).2.2 mb' mc' kb' kc'),own mb' (aE m q).2.2.made.length mc' 14 ((aE m q).2.2.made.flatMap ak),own kb' (aE m q).2.2.kept.length kc' 33 ((aE m q).2.2.kept.flatMap aI)] _);exact lW
   apply ws;intros;unfold av.j4;have hj6:e≠0->∀b:Bool,b=decide (e=8\/e=9)->T W (ML p2 (aE m q).2.2 mb' mc' kb' kc' (own ob (aE m q).2.1.length oc 1 ((aE m q).2.1.flatMap I1)::R')) (av.j6 K r1 (some ⟨p,0,none⟩) b):=λh0 b hb=>by
    have fin:∀b:Bool,b=decide (e=8\/e=9\/e=6\/e=3)->T W (ML p2 (aE m q).2.2 mb' mc' kb' kc' (own ob (aE m q).2.1.length oc 1 ((aE m q).2.1.flatMap I1)::R')) (av.j5 K r1 (some ⟨p,0,none⟩) b):=λb hb=>by
     unfold av.j5;cases b with
     |true=>
      have hb:=of_decide_eq_true hb.symm;apply ws;intros;refine T.sub (fD h0 _ ?_) ?_
      ·rw[ar (n:=(res.length:Int)+(al.length:Int)) (by omega),ar (by omega),aek,beq_iff_eq,decide_eq_true_eq,<-List.length_eq_zero_iff,<-List.length_eq_zero_iff,<-List.length_eq_zero_iff]
       constructor
       ·intro h;exact⟨hb,by omega,by omega,by omega⟩
       ·intro h;omega
      ·exact lW
     |false=>
      have hb:=of_decide_eq_false hb.symm;apply ws;intros;refine T.sub (fD h0 _ (decide_eq_false (λh=>hb h.1)).symm) ?_;exact lW
    unfold av.j6;cases b with
    |true=>
     have hb:=of_decide_eq_true hb.symm;exact fin true (decide_eq_true (by omega)).symm
    |false=>
     have hb:=of_decide_eq_false hb.symm;apply ws;intros;refine bw (λg1=>?_) (λg1=>?_)
     ·have g1:e=6:=by simpa using g1
      exact fin true (decide_eq_true (by omega)).symm
     ·have g1: ¬e=6:=by simpa using g1
      apply ws;intros;refine fin _ ?_;rw[aek,beq_iff_eq,decide_eq_true_eq];omega
   refine bw (λg1=>?_) (λg1=>?_)
   ·have g1:e=0:=by simpa using g1
    refine bw (λg2=>?_) (λg2=>?_)
    ·have g2:(aE m q).1=0:=by simpa using g2
     apply ws;intros;refine KT (al:=res) (kl:=(aE m q).2.1) (by omega) ?_;refine nK ?_;have e1:decide (res=(aE m q).2.1)=decide ((aE m q).1=0/\res=(aE m q).2.1):=by rw[decide_eq_decide];exact⟨λh=>⟨g2,h⟩,λh=>h.2⟩
     rw[e1];refine T.sub (fC g1) ?_;exact lW
    ·have g2: ¬(aE m q).1=0:=by simpa using g2
     have e1:false=decide ((aE m q).1=0/\res=(aE m q).2.1):=(decide_eq_false (λh=>g2 h.1)).symm;rw[e1];refine T.sub (fC g1) ?_;exact lW
   ·have g1: ¬e=0:=by simpa using g1
    apply ws;intros;refine bw (λg2=>?_) (λg2=>?_)
    ·have g2:e=8:=by simpa using g2
     exact hj6 g1 true (decide_eq_true (by omega)).symm
    ·have g2: ¬e=8:=by simpa using g2
     apply ws;intros;refine hj6 g1 _ ?_;rw[aek,beq_iff_eq,decide_eq_true_eq];omega
end
end Go.Up
namespace Go.Sep
open Go.Den Go.RowKit Go.Prog Go.bA
section
variable {W w:World} {L:LH}
end
def Ke{D:aw}{number:Int}{h:dj}(hg:kL h):∃a:Nat,(a:Int)=low h.aF/\a<2/\sh D number h=cS D a (a+1:Nat) number (bs (hU h)):=by
 have hl:=sK h.aF;refine⟨(low h.aF).toNat,by omega,by omega,?_⟩;unfold sh cS;rw[if_pos hg];have e1:(((low h.aF).toNat:Nat):Int)=low h.aF:=by omega
 have e2:(((low h.aF).toNat+1:Nat):Int)=low h.aF+1:=by omega
 rw[e1,e2]
def BJ(h:dj):dQ (bs (hU h)).size=1:=by rw[bI,mG];rfl
def C'(h:dj):part (bs (hU h)) 0=bs (hU h):=by
 apply gO;unfold part;rw[extract_toList,Nat.mul_zero,ae5,aef];show(hU h).length<=_;rw[mG];decide
def He{D:aw}{i:Nat}{n:Int}{h:dj}(hn:1<=n/\n<=1152921504606846976)(hg:kL h)(hi:(i:Int)=low h.aF)(hr:D.read (i:Int)=(leaf n 0 (bs (hU h)),0)):vU D i=some h:=by
 have xe:Good n 0 (bs (hU h)):=⟨hn.1,hn.2,by decide,by decide,by rw[bI,mG];decide⟩;unfold vU;rw[hr];dsimp only;rw[jF xe,lg xe];dsimp only;rw[if_neg (by simp),show(bs (hU h)).data.toList=hU h from rfl,GH hg];dsimp only;rw[if_neg (λhh=>hh hi.symm)]
def BU{D:aw}{i:Nat}(hr:iJ (D.read (i:Int)).1.data.toList=none):vU D i=none:=by
 unfold vU;rw[hr]
def Gl{n:Int}(h:0<=n/\n<=1152921504606846977):low n=n.tmod 2:=by
 obtain⟨m,rfl⟩:=ad8 h.1;have e:m%2^64=m:=aeH (by omega);rw[JM,BitVec.ofInt_natCast,BitVec.toNat_ofNat,e,aeG (by omega)];omega
def uJ{D:aw}{i:Nat}(h:i<D.safe.length):(D.read (i:Int)).2=0:=by
 unfold aw.read;rw[if_pos ⟨by omega,by omega⟩]
section
variable {W w:World} {L:LH}
end
def sr(a:dj×dj)(h:dj):dj×dj:=if low h.aF=0 then(h,a.2) else(a.1,h)
def yt{D D':aw}{i:Nat}(h1:i<D.safe.length)(h2:i<D'.safe.length)(h:(D'.read (i:Int)).1=(D.read (i:Int)).1):vU D' i=vU D i:=by
 have e:D'.read (i:Int)=D.read (i:Int):=by
  have a:=uJ h1;have b:=uJ h2;exact Prod.ext h (by rw[a,b])
 unfold vU;rw[e]
def vd(h:dj):∀v∈aS h,v.oneCell'=true:=by simp[aS,Value.oneCell']
section
variable {W w:World} {L:LH} {k:Nat}
end
end Go.Sep
namespace Go.Up
open Go.Sep Go.Den Go.RowKit Go.Prog Go.Md Go.bA
def Bi{n:Nat}{D D':aw}{J:PJ}{q0:Int}{kM:List (List UInt8)}{g g':Nat}(h:JG n D J q0 kM g)(eO:D'.Ok)(vM:D'.later=[])(hlen:D'.safe.length=n)
 (hr:∀j:Int,J.lo<=j->j<J.hi->(D'.read j).1=(D.read j).1)(he:∀j:Nat,j<n->Sep.Ends g' (D'.read (j:Int)).1):JG n D' J q0 kM g':=by
 have hl:D'.safe.length=D.safe.length:=by rw[hlen,h.len]
 have j2:=h.tr.Kl;have j3:=h.tr.PS;refine⟨eO,vM,hlen,⟨h.tr.lo,j2,j3,by rw[hl];exact h.tr.hi,h.tr.seq⟩,re hl _ h.chain (λj a b=>hr j (by omega) (by omega)),h.seq,h.q0,λj a b m d hv=>?_,?_,he⟩
 ·rw[hr j a b] at hv;exact h.low j a b m d hv
 ·rw[yQ hl (λj a b=>hr j (by omega) (by omega))];exact h.stop
def Ik{n:Nat}{D:aw}{J:PJ}{q0:Int}{kM:List (List UInt8)}{g:Nat}(h:JG n D J q0 kM g):JG n D {J with at':=J.lo} J.seq [] g:=by
 have hq0:=h.q0;have Cs:=h.seq;have j2:=h.tr.Kl;have j3:=h.tr.PS;refine⟨h.ok,h.Et,h.len,⟨h.tr.lo,afy _,by show J.lo<=J.hi;omega,h.tr.hi,h.tr.seq⟩,rfl,by show J.seq=J.seq+_;simp,h.tr.seq.1,h.low,?_,h.ends⟩;show iK D J.lo J.hi (J.seq+1)=none;cases Ew:kM with
 |nil=>
  have EF:=h.chain;rw[Ew] at EF;unfold Sep.gn at EF;rw[EF];exact h.stop
 |cons s r=>
  have EF:=h.chain;rw[Ew] at EF;obtain⟨a2,h1,h2⟩:=EF;obtain⟨m,d,x1,x2,hv,Ll⟩:=De (by omega) h1;obtain⟨i1,i2,i3,i4,i5,i6⟩:=mq h1;have N':=nX (12+s.length);have zy:=h.tr.seq;have yZ:=h.tr.hi;have hlen:=h.ok.lu;have UA:=qP (seq:=q0+1) (s:=bs s) ⟨by omega,by
   have:(kM.length:Int)>=1:=by rw[Ew,aee];omega
   omega⟩ (by rw[bI];omega)
  refine xX (λm2 d2 Q2=>?_);rw[hv] at Q2;simp only[aeh.injEq,Prod.mk.injEq] at Q2;obtain⟨-,-,rfl⟩:=Q2;have N7:Sep.Good m ((0:Nat):Int) (Sep.part (bs (bE (q0+1) (bs s))) 0):=⟨x1,x2,by omega,by omega,jD _ 0⟩;have r0:=Ll 0 N';rw[show J.lo+((0:Nat):Int)=J.lo from by omega] at r0;rw[r0,jF N7,lg N7] at hv;simp only[aeh.injEq,Prod.mk.injEq] at hv;obtain⟨-,-,hd⟩:=hv;rw[<-hd,UA.1];rw[Ew,aee] at Cs;omega
def ZD(L:aw×Int)(D':aw):Prop:=(∃mask torn cut,D'=L.1.db mask torn cut)\/(L.2=0/\D'=L.1)
def ZN{n a t m g:Nat}{D D':aw}{s:BA}(eO:D.Ok)(vM:D.later=[])(hlen:D.safe.length=n)(nD:∀j:Nat,j<n->Sep.Ends g (D.read (j:Int)).1)(bN:n<=4096)(hm:g<m)(J3:m<256)(hl:a+dQ s.size<=t)(Xx:t<=n)
 (hA:ZD (cS D (a:Int) (t:Int) (m:Int) s) D'):
 D'.Ok/\D'.later=[]/\D'.safe.length=n/\(∀j:Nat,j<n->Sep.Ends m (D'.read (j:Int)).1)/\(∀j:Nat,j<n->(j<a\/a+dQ s.size<=j)->(D'.read (j:Int)).1=(D.read (j:Int)).1)/\
  ((cS D (a:Int) (t:Int) (m:Int) s).2=0->∀q:Nat,q<dQ s.size->(D'.read ((a+q:Nat):Int)).1=leaf m q (Sep.part s q))/\
  (∀q:Nat,q<dQ s.size->(D'.read ((a+q:Nat):Int)).1=(D.read ((a+q:Nat):Int)).1\/(D'.read ((a+q:Nat):Int)).1=leaf m q (Sep.part s q)\/iJ (D'.read ((a+q:Nat):Int)).1.data.toList=none):=by
 have Ya:=nX s.size;have key:∀mask torn cut:Int,∀X:aw,X=(cS D (a:Int) (t:Int) (m:Int) s).1.db mask torn cut->X.Ok/\X.later=[]/\X.safe.length=n/\(∀j:Nat,j<n->Sep.Ends m (X.read (j:Int)).1)/\(∀j:Nat,j<n->(j<a\/a+dQ s.size<=j)->(X.read (j:Int)).1=(D.read (j:Int)).1)/\
  ((cS D (a:Int) (t:Int) (m:Int) s).2=0->∀q:Nat,q<dQ s.size->(X.read ((a+q:Nat):Int)).1=leaf m q (Sep.part s q))/\
  (∀q:Nat,q<dQ s.size->(X.read ((a+q:Nat):Int)).1=(D.read ((a+q:Nat):Int)).1\/(X.read ((a+q:Nat):Int)).1=leaf m q (Sep.part s q)\/iJ (X.read ((a+q:Nat):Int)).1.data.toList=none):=λmask torn cut X hX=>by
  obtain⟨c1,c2,c3,c4⟩:=Gj (n:=n) (a:=a) (t:=t) (number:=(m:Int)) (mask:=mask) (torn:=torn) (cut:=cut) (s:=s) eO vM hlen bN (by omega) hl Xx;rw[<-hX] at c1 c2 c3 c4;have xe:∀i:Nat,i<4096->Sep.Good (m:Int) (i:Int) (Sep.part s i):=λi hi=>⟨by omega,by omega,by omega,by omega,jD _ i⟩;have XV:X.later=[]:=by rw[hX,kE]
  refine⟨c3,XV,c4,λj hj=>?_,λj hj tF=>?_,c2,λq hq=>?_⟩
  ·rcases c1 j hj with hh|⟨i,h1,h2,h3⟩
   ·rw[hh];exact(nD j hj).mono (by omega)
   ·exact(ya hm J3 (xe i (by omega)) (nD j hj) h3).1
  ·rcases c1 j hj with hh|⟨i,h1,h2,h3⟩
   ·exact hh
   ·omega
  ·rcases c1 (a+q) (by omega) with hh|⟨i,h1,h2,h3⟩
   ·exact .inl hh
   ·have:i=q:=by omega
    subst this;exact(ya hm J3 (xe i (by omega)) (nD (a+i) (by omega)) h3).2
 rcases hA with⟨mask,torn,cut,hX⟩|⟨h0,hX⟩
 ·exact key mask torn cut D' hX
 ·have hlz:=JL h0;obtain⟨k1,k2,k3,k4,k5,k6,k7⟩:=key 0 (-1) 0 _ rfl;have PC:∀j:Int,((cS D (a:Int) (t:Int) (m:Int) s).1.db 0 (-1) 0).read j=D'.read j:=λj=>by rw[hX];exact vQ hlz 0 (-1) 0 j
  refine⟨by rw[hX];exact Gi eO (by rw[vM,aes];omega),by rw[hX];exact hlz,by rw[hX,<-qf _ 0 (-1) 0];exact k3,λj hj=>by rw[<-PC];exact k4 j hj,λj hj ho=>by rw[<-PC];exact k5 j hj ho,λh q hq=>by rw[<-PC];exact k6 h q hq,λq hq=>by rw[<-PC];exact k7 q hq⟩
def CG(n:Nat)(D:aw)(hd:dj)(mb:Model):Prop:=
 (hd=An/\mb=pG/\vU D 0=none/\vU D 1=none)\/
 (kL hd/\(∃(a:Nat)(k:Int),(a:Int)=low hd.aF/\1<=k/\k<=1152921504606846976/\(D.read (a:Int)).1=leaf k 0 (bs (hU hd))/\(∀p,vU D (1-a)=some p->p.aF<hd.aF))/\
  hd.size=((bO (bo mb)).length:Int)/\dQ (bO (bo mb)).length<=bQ n/\∀q:Nat,q<dQ (bO (bo mb)).length->(D.read ((cN n hd.aF+q:Nat):Int)).1=leaf hd.number q (Sep.part (bs (bO (bo mb))) q))
def CG.base{n:Nat}{D:aw}{hd:dj}{mb:Model}(h:CG n D hd mb)(hlen:D.safe.length=n)(km:12<=n)(bN:n<=4096):V3 D n hd mb:=by
 rcases h with⟨h1,h2,h3,h4⟩|⟨hg,⟨a,k,ha,PG,rz,hr,hp⟩,hs,hc,hq⟩
 ·left
  rw[h3,h4];exact⟨rfl,h1,h2⟩
 ·right
  have Lr:=sK hd.aF;have eA:vU D a=some hd:=He (n:=k) ⟨PG,rz⟩ hg ha (by
   have:=uJ (D:=D) (i:=a) (by omega)
   rw[<-hr,<-this])
  constructor
  ·by_cases ha0:a=0
   ·subst ha0;rw[eA];cases hb:vU D 1 with
    |none=>rfl
    |some p=>
     have:=hp p hb;show(if hd.aF<p.aF then some p else some hd)=some hd;rw[if_neg (by omega)]
   ·have:a=1:=by omega
    subst this;rw[eA];cases hb:vU D 0 with
    |none=>rfl
    |some p=>
     have:=hp p hb;show(if p.aF<hd.aF then some hd else some p)=some hd;rw[if_pos this]
  ·have:=Rk (n:=n) (D:=D) (which:=hd.aF) (number:=hd.number) (s:=bs (bO (bo mb))) hlen km bN ⟨hg.2.2.1,hg.2.2.2.1⟩ (by rw[bI];exact hc) (λq XH=>by
    rw[show(((cN n hd.aF:Nat):Int)+(q:Int))=((cN n hd.aF+q:Nat):Int) from by omega]
    exact hq q XH)
   rw[bI,<-hs] at this;exact this
def CG.jA{n:Nat}{D D':aw}{hd:dj}{mb:Model}(h:CG n D hd mb)(km:12<=n)(hlen:D.safe.length=n)(XU:D'.safe.length=n)
 (h01:∀j:Nat,j<2->(D'.read (j:Int)).1=(D.read (j:Int)).1)(SN:∀j:Nat,cN n hd.aF<=j->j<cN n hd.aF+bQ n->(D'.read (j:Int)).1=(D.read (j:Int)).1):CG n D' hd mb:=by
 have yj:∀i:Nat,i<2->vU D' i=vU D i:=λi hi=>yt (by omega) (by omega) (h01 i hi);rcases h with⟨h1,h2,h3,h4⟩|⟨hg,⟨a,k,ha,PG,rz,hr,hp⟩,hs,hc,hq⟩
 ·exact .inl ⟨h1,h2,by rw[yj 0 (by decide)];exact h3,by rw[yj 1 (by decide)];exact h4⟩
 ·have Lr:=sK hd.aF;refine .inr ⟨hg,⟨a,k,ha,PG,rz,by rw[h01 a (by omega)];exact hr,λp N3=>hp p (by rw[<-yj (1-a) (by omega)];exact N3)⟩,hs,hc,λq XH=>?_⟩;rw[SN _ (by omega) (by omega)];exact hq q XH
structure VG(n:Nat)(D:aw)(J:PJ)(hd:dj)(mb:Model)(qs:List ig)(g:Nat):Prop where
 jg:JG n D J hd.seq (qs.map ch) g
 cg:CG n D hd mb
 lo:J.lo=((2+2* bQ n:Nat):Int)
 hi:J.hi=(n:Int)
 cR:J.cR=false
 um:Good (bo mb)
 ground:Md.Ground mb
 kM:∀q∈qs,DV q
 D8:J.seq<=g
 aF:0<=hd.aF/\hd.aF<=g
def VG.mono{n:Nat}{D:aw}{J:PJ}{hd:dj}{mb:Model}{qs:List ig}{g g':Nat}(h:VG n D J hd mb qs g)(hg:g<=g'):VG n D J hd mb qs g':=
 ⟨h.jg.mono hg,h.cg,h.lo,h.hi,h.cR,h.um,h.ground,h.kM,by have:=h.D8;omega,by have:=h.aF;omega⟩
def E0{n:Nat}(km:12<=n)(bN:n<=4096):VG n (aw.new n) ⟨((2+2* bQ n:Nat):Int),n,((2+2* bQ n:Nat):Int),0,false⟩ An pG [] 0:=by
 have hb:2+2* bQ n<n:=by unfold bQ;omega
 have hz:∀i:Nat,i<n->iJ ((aw.new n).read (i:Int)).1.data.toList=none:=λi hi=>by
  rw[wQ bN hi];exact tW
 exact⟨V1 bN (by omega) (by omega) (by omega) 0 (by omega),.inl ⟨rfl,rfl,BU (hz 0 (by omega)),BU (hz 1 (by omega))⟩,rfl,rfl,rfl,uk,np,λq hq=>(by cases hq),afy _,⟨afy _,afy _⟩⟩
def VG.add{n:Nat}{D:aw}{J:PJ}{hd:dj}{mb:Model}{qs:List ig}{g:Nat}{q:ig}(h:VG n D J hd mb qs g)(km:12<=n)(bN:n<=4096)(hq:DV q)(hr:room J (bs (ch q)).size)(hg:g+1<256):
 pK D J (dy D n+1) (bs (ch q))=Sep.yu J (bs (ch q)) (cS D J.at' J.hi (dy D n+1) (bs (bE (J.seq+1) (bs (ch q)))))/\(cS D J.at' J.hi (dy D n+1) (bs (bE (J.seq+1) (bs (ch q))))).1.Ok/\
 (((cS D J.at' J.hi (dy D n+1) (bs (bE (J.seq+1) (bs (ch q))))).2=0/\VG n (cS D J.at' J.hi (dy D n+1) (bs (bE (J.seq+1) (bs (ch q))))).1 (J.more (bs (ch q))) hd mb (qs++[q]) (g+1))\/
  ((cS D J.at' J.hi (dy D n+1) (bs (bE (J.seq+1) (bs (ch q))))).2=8/\∀mask torn cut,
    VG n ((cS D J.at' J.hi (dy D n+1) (bs (bE (J.seq+1) (bs (ch q))))).1.db mask torn cut) J hd mb qs (g+1)\/
    VG n ((cS D J.at' J.hi (dy D n+1) (bs (bE (J.seq+1) (bs (ch q))))).1.db mask torn cut) (J.more (bs (ch q))) hd mb (qs++[q]) (g+1))):=by
 obtain⟨x,hx,Xs,SZ⟩:=h.jg.uj (by omega);have hm:dy D n+1=((x+1:Nat):Int):=by omega
 rw[hm];have Cs:=h.D8;have ZS:=h.aF;have yY:=h.lo;have yZ:=h.hi;obtain⟨a1,a2,a3⟩:=SZ.add (m:=x+1) (s:=bs (ch q)) h.cR bN (by omega) (by omega) hr (by omega);have j2:=h.jg.tr.Kl;obtain⟨a,ha⟩:=ad8 (show 0<=J.at' by omega);have xf:=oL (J.seq+1) (bs (ch q));have r3:=hr.2.2;rw[adY] at r3;have Ye:∀D',ZD (cS D J.at' J.hi ((x+1:Nat):Int) (bs (bE (J.seq+1) (bs (ch q))))) D'->CG n D' hd mb:=λD' hA=>by
  rw[ha,yZ] at hA;obtain⟨k1,k2,k3,k4,k5,-,-⟩:=ZN (n:=n) (a:=a) (t:=n) (m:=x+1) (g:=x) h.jg.ok h.jg.Et h.jg.len SZ.ends bN (by omega) (by omega) (by rw[xf];omega) (ad4 _) hA;have Lo:=(mB km hd.aF);have SN:cN n hd.aF+bQ n<=2+2* bQ n:=by unfold cN;split<;>omega
  exact h.cg.jA km h.jg.len k3 (λj hj=>k5 j (by omega) (.inl (by omega))) (λj Z1 EC=>k5 j (by omega) (.inl (by omega)))
 have SO:∀r∈qs++[q],DV r:=λr hr=>by
  rcases aeB.1 hr with hr|hr
  ·exact h.kM r hr
  ·cases(show r=q by simpa using hr);exact hq
 have GC:(qs++[q]).map ch=qs.map ch++[(bs (ch q)).data.toList]:=by rw[aeu];rfl
 refine⟨a1,a2,?_⟩;rcases a3 with⟨z,hj⟩|z
 ·left
  refine⟨z,⟨?_,Ye _ (.inr ⟨z,rfl⟩),yY,yZ,h.cR,h.um,h.ground,SO,by show J.seq+1<=((g+1:Nat):Int);omega,by omega⟩⟩;rw[GC];exact hj.mono (by omega)
 ·right
  refine⟨z,λmask torn cut=>?_⟩;obtain⟨f1,f2,f3,f4⟩:=fly SZ bN (show x<x+1 by omega) (by omega) hr (by omega) mask torn cut;have hc:=Ye _ (.inl ⟨mask,torn,cut,rfl⟩);by_cases hw:∀i:Nat,i<dQ (12+(bs (ch q)).size)->(((cS D J.at' J.hi ((x+1:Nat):Int) (bs (bE (J.seq+1) (bs (ch q))))).1.db mask torn cut).read (J.at'+i)).1=leaf ((x+1:Nat):Int) i (Sep.part (bs (bE (J.seq+1) (bs (ch q)))) i)
  ·right
   refine⟨?_,hc,yY,yZ,h.cR,h.um,h.ground,SO,by show J.seq+1<=((g+1:Nat):Int);omega,by omega⟩;rw[GC];exact(f3 hw).mono (by omega)
  ·left
   exact⟨(f4 hw).mono (by omega),hc,yY,yZ,h.cR,h.um,h.ground,h.kM,by omega,by omega⟩
def Gk{t:Int}(h:0<=t/\t<1152921504606846976):low (t+1)=1-low t:=by
 rw[Gl (by omega),Gl (by omega),aeG (by omega),aeG (by omega)];omega
def VG.put{n:Nat}{D:aw}{J:PJ}{hd:dj}{mb m:Model}{qs:List ig}{g:Nat}(h:VG n D J hd mb qs g)(km:12<=n)(bN:n<=4096)(hg:g+2<256)(GG:dQ (bO (bo m)).length<=bQ n):
 ((put D n (hd.aF+1) (dy D n+1) (bs (bO (bo m)))).2=0\/(put D n (hd.aF+1) (dy D n+1) (bs (bO (bo m)))).2=8)/\
 ∀D',ZD (put D n (hd.aF+1) (dy D n+1) (bs (bO (bo m)))) D'->VG n D' J hd mb qs (g+1)/\
  ((put D n (hd.aF+1) (dy D n+1) (bs (bO (bo m)))).2=0->∀q:Nat,q<dQ (bO (bo m)).length->(D'.read ((cN n (hd.aF+1)+q:Nat):Int)).1=leaf (dy D n+1) q (Sep.part (bs (bO (bo m))) q)):=by
 obtain⟨x,hx,Xs,SZ⟩:=h.jg.uj (by omega);have hm:dy D n+1=((x+1:Nat):Int):=by omega
 rw[hm,xV];have Dv:=mB km (hd.aF+1);have ZS:=h.aF;have yY:=h.lo;have yZ:=h.hi;have Cs:=h.D8;refine⟨zZ (n:=n) (a:=cN n (hd.aF+1)) (t:=cN n (hd.aF+1)+bQ n) (number:=((x+1:Nat):Int)) h.jg.len bN (by omega) (by rw[bI];omega) (by omega),λD' hA=>?_⟩;obtain⟨k1,k2,k3,k4,k5,k6,k7⟩:=ZN (n:=n) (a:=cN n (hd.aF+1)) (t:=cN n (hd.aF+1)+bQ n) (m:=x+1) (g:=x) h.jg.ok h.jg.Et h.jg.len SZ.ends bN (by omega) (by omega) (by rw[bI];omega) (by omega) hA;rw[bI] at k5 k6;have hap:=HW (n:=n) hd.aF (hd.aF+1) (by rw[Gk (by omega)];have:=sK hd.aF;omega);have SN:cN n (hd.aF+1)+bQ n<=2+2* bQ n:=by unfold cN;split<;>omega
 refine⟨⟨Bi h.jg k1 k2 k3 (λj Z1 EC=>?_) (λj hj=>(k4 j hj).mono (by omega)),h.cg.jA km h.jg.len k3 (λj hj=>k5 j (by omega) (.inl (by omega))) (λj Z1 EC=>k5 j (by have:=(mB km hd.aF).2.1;omega) (by omega)),yY,yZ,h.cR,h.um,h.ground,h.kM,by omega,by omega⟩,k6⟩;obtain⟨k,rfl⟩:=ad8 (show 0<=j by omega);exact k5 k (by omega) (.inr (by omega))
def VG.Zo{n:Nat}{D:aw}{J:PJ}{hd:dj}{mb m:Model}{qs:List ig}{g:Nat}{number:Int}(h:VG n D J hd mb qs g)(km:12<=n)(bN:n<=4096)(x:Nat)(hx:dy D n<=x)(Xs:x<=g)(hg:g+1<256)(mr:1<=number/\number<=(g:Int))
 (GG:dQ (bO (bo m)).length<=bQ n)(hlen:(bO (bo m)).length<=425984)(fU:Good (bo m))(sY:Md.Ground m)
 (XC:∀q:Nat,q<dQ (bO (bo m)).length->(D.read ((cN n (hd.aF+1)+q:Nat):Int)).1=leaf number q (Sep.part (bs (bO (bo m))) q)):
 ((sh D ((x+1:Nat):Int) ⟨hd.aF+1,number,((bO (bo m)).length:Int),J.seq⟩).2=0\/(sh D ((x+1:Nat):Int) ⟨hd.aF+1,number,((bO (bo m)).length:Int),J.seq⟩).2=8)/\
 ∀D',ZD (sh D ((x+1:Nat):Int) ⟨hd.aF+1,number,((bO (bo m)).length:Int),J.seq⟩) D'->
  (VG n D' {J with at':=J.lo} ⟨hd.aF+1,number,((bO (bo m)).length:Int),J.seq⟩ m [] (g+1)\/
   ((sh D ((x+1:Nat):Int) ⟨hd.aF+1,number,((bO (bo m)).length:Int),J.seq⟩).2=8/\VG n D' J hd mb qs (g+1))):=by
 have nD:∀j:Nat,j<n->Sep.Ends x (D.read (j:Int)).1:=by
  obtain⟨y,hy,hyg,hjy⟩:=h.jg.uj (by omega);intro j hj;exact(hjy.ends j hj).mono (by omega)
 have ZS:=h.aF;have Cs:=h.D8;have yY:=h.lo;have yZ:=h.hi;have Ra:=h.jg.tr.seq;obtain⟨hH,DB⟩:∃hH:dj,hH=⟨hd.aF+1,number,((bO (bo m)).length:Int),J.seq⟩:=⟨_,rfl⟩;rw[<-DB];have Z9:hH.aF=hd.aF+1:=by rw[DB]
 have hHs:hH.seq=J.seq:=by rw[DB]
 have hHn:hH.number=number:=by rw[DB]
 have hHz:hH.size=((bO (bo m)).length:Int):=by rw[DB]
 have Z':kL hH:=by rw[DB];unfold kL;dsimp only;omega
 obtain⟨b,hb,ui,e⟩:=Ke (D:=D) (number:=((x+1:Nat):Int)) Z';have Iu:=BJ hH;rw[e];refine⟨zZ (n:=n) (a:=b) (t:=b+1) (number:=((x+1:Nat):Int)) h.jg.len bN (by omega) (by rw[Iu];omega) (by omega),λD' hA=>?_⟩;obtain⟨k1,k2,k3,k4,k5,k6,k7⟩:=ZN (n:=n) (a:=b) (t:=b+1) (m:=x+1) (g:=x) h.jg.ok h.jg.Et h.jg.len nD bN (by omega) (by omega) (by rw[Iu];omega) (by omega) hA;rw[Iu] at k5 k6 k7;have Yh:(b:Int)=1-low hd.aF:=by rw[hb,Z9];exact Gk (by omega)
 have Lr:=sK hd.aF;have Dv:=mB km (hd.aF+1);have adI:=mB km hd.aF;have Lo:2<=2+2* bQ n:=by omega
 have Uy:=k7 0 (by decide);rw[aeT,C'] at Uy;have jg1:∀g',g'>=x+1->JG n D' J hd.seq (qs.map ch) g':=λg' Rb=>Bi h.jg k1 k2 k3 (λj Z1 EC=>by
  obtain⟨k,rfl⟩:=ad8 (show 0<=j by omega)
  exact k5 k (by omega) (.inr (by omega))) (λj hj=>(k4 j hj).mono Rb)
 have vL:∀j:Nat,j<n->j≠b->(D'.read (j:Int)).1=(D.read (j:Int)).1:=λj hj gU=>k5 j hj (by omega);have whole:(D'.read (b:Int)).1=leaf ((x+1:Nat):Int) 0 (bs (hU hH))->VG n D' {J with at':=J.lo} hH m [] (g+1):=λhw=>by
  have jr:=Ik (jg1 (g+1) (by omega));refine⟨by rw[hHs];exact jr,.inr ⟨Z',⟨b,((x+1:Nat):Int),hb,by omega,by omega,hw,λp hp=>?_⟩,hHz,GG,λq hq=>?_⟩,yY,yZ,h.cR,fU,sY,λq hq=>(by cases hq),by show J.seq<=((g+1:Nat):Int);omega,by rw[Z9];omega⟩
  ·rw[Z9];have Ey:vU D (1-b)=some p:=by rw[<-hp];exact(yt (by have:=h.jg.len;omega) (by omega) (vL (1-b) (by omega) (by omega))).symm
   rcases h.cg with⟨z1,z2,z3,z4⟩|⟨X5,⟨a,k,ha,PG,rz,hra,UC⟩,-⟩
   ·by_cases U2:b=0
    ·subst U2;rw[z4] at Ey;cases Ey
    ·have:b=1:=by omega
     subst this;rw[z3] at Ey;cases Ey
   ·have PO:a=1-b:=by omega
    have eA:vU D a=some hd:=He (n:=k) ⟨PG,rz⟩ X5 ha (by
     have:=uJ (D:=D) (i:=a) (by have:=h.jg.len;omega)
     rw[<-hra,<-this])
    rw[<-PO,eA] at Ey;cases Ey
    omega
  ·rw[Z9,hHn,vL _ (by omega) (by omega)];exact XC q hq
 have Xc:vU D' b=none\/(D'.read (b:Int)).1=(D.read (b:Int)).1->VG n D' J hd mb qs (g+1):=λhn=>by
  refine⟨jg1 (g+1) (by omega),?_,yY,yZ,h.cR,h.um,h.ground,h.kM,by omega,by omega⟩;rcases hn with hn|hn
  ·rcases h.cg with⟨z1,z2,z3,z4⟩|⟨X5,⟨a,k,ha,PG,rz,hra,UC⟩,hs,hc,hq⟩
   ·have hc1:vU D' (1-b)=none:=by
     rw[yt (by have:=h.jg.len;omega) (by omega) (vL (1-b) (by omega) (by omega))];by_cases U2:b=0
     ·subst U2;exact z4
     ·have:b=1:=by omega
      subst this;exact z3
    refine .inl ⟨z1,z2,?_,?_⟩
    ·by_cases U2:b=0
     ·subst U2;exact hn
     ·have:b=1:=by omega
      subst this;exact hc1
    ·by_cases U2:b=0
     ·subst U2;exact hc1
     ·have:b=1:=by omega
      subst this;exact hn
   ·have PO:1-a=b:=by omega
    refine .inr ⟨X5,⟨a,k,ha,PG,rz,by rw[vL a (by omega) (by omega)];exact hra,λp hp=>by rw[PO,hn] at hp;cases hp⟩,hs,hc,λq XH=>?_⟩;rw[vL _ (by omega) (by omega)];exact hq q XH
  ·exact h.cg.jA km h.jg.len k3 (λj hj=>by
    by_cases hjb:j=b
    ·subst hjb;exact hn
    ·exact vL j (by omega) hjb) (λj Z1 EC=>vL j (by omega) (by omega))
 by_cases hw:(D'.read (b:Int)).1=leaf ((x+1:Nat):Int) 0 (bs (hU hH))
 ·exact .inl (whole hw)
 ·right
  have hc8:(cS D (b:Int) ((b+1:Nat):Int) ((x+1:Nat):Int) (bs (hU hH))).2=8:=by
   rcases zZ (n:=n) (a:=b) (t:=b+1) (number:=((x+1:Nat):Int)) (s:=bs (hU hH)) h.jg.len bN (by omega) (by rw[Iu];omega) (by omega) with h0|h8
   ·have:=k6 h0 0 (by decide);rw[aeT,C'] at this;exact absurd this hw
   ·exact h8
  refine⟨hc8,?_⟩;rcases Uy with hh|hh|hh
  ·exact Xc (.inr hh)
  ·exact absurd hh hw
  ·exact Xc (.inl (BU hh))
def rH(n:Nat)(D:aw)(m:Model)(g:Nat):Prop:=∃J hd mb qs,VG n D J hd mb qs g/\u0 mb qs=m
def rH.mono{n:Nat}{D:aw}{m:Model}{g g':Nat}(h:rH n D m g)(hg:g<=g'):rH n D m g':=by
 obtain⟨J,hd,mb,qs,h1,h2⟩:=h;exact⟨J,hd,mb,qs,h1.mono hg,h2⟩
structure VW(n:Nat)(S:VS)(m:Model)(g:Nat):Prop where
 cR:S.cR=false
 is:∃hd mb qs,VG n S.D S.J hd mb qs g/\u0 mb qs=m/\S.aF=hd.aF
structure VX(n:Nat)(S:VS)(m mf:Model)(g:Nat):Prop where
 cR:S.cR=true
 ok:MC S
 len:S.D.safe.length=n
 seq:S.J.seq<=g
 db:∀mask torn cut,rH n (S.D.db mask torn cut) m g\/rH n (S.D.db mask torn cut) mf g
def VW.mono{n:Nat}{S:VS}{m:Model}{g g':Nat}(h:VW n S m g)(hg:g<=g'):VW n S m g':=by
 obtain⟨h1,hd,mb,qs,h2,h3,h4⟩:=h;exact⟨h1,hd,mb,qs,h2.mono hg,h3,h4⟩
def VX.mono{n:Nat}{S:VS}{m mf:Model}{g g':Nat}(h:VX n S m mf g)(hg:g<=g'):VX n S m mf g':=
 ⟨h.cR,h.ok,h.len,by have:=h.seq;omega,λa b c=>(h.db a b c).imp (λx=>x.mono hg) (λx=>x.mono hg)⟩
def VW.ok{n:Nat}{S:VS}{m:Model}{g:Nat}(h:VW n S m g)(hg:g<256):MC S:=by
 obtain⟨h1,hd,mb,qs,h2,h3,h4⟩:=h;have:=h2.aF;exact⟨h2.jg.ok,by rw[h2.jg.Et];decide,h2.jg.tr,by omega⟩
def VG.db{n:Nat}{D:aw}{J:PJ}{hd:dj}{mb:Model}{qs:List ig}{g:Nat}(h:VG n D J hd mb qs g)(km:12<=n)(mask torn cut:Int):VG n (D.db mask torn cut) J hd mb qs g:=by
 have hr:=λj=>vQ h.jg.Et mask torn cut j;have e:D.db mask torn cut=⟨D.safe,[],D.ops,0⟩:=by rw[kE,h.jg.Et];rfl
 have eO:(D.db mask torn cut).Ok:=xo h.jg.ok mask torn cut;have hl:(D.db mask torn cut).safe.length=n:=by rw[qf];exact h.jg.len
 exact⟨h.jg.congr eO (by rw[e]) hl (λj _ _=>by rw[hr]),h.cg.jA km h.jg.len hl (λj _=>by rw[hr]) (λj _ _=>by rw[hr]),h.lo,h.hi,h.cR,h.um,h.ground,h.kM,h.D8,h.aF⟩
def VW.db{n:Nat}{S:VS}{m:Model}{g:Nat}(h:VW n S m g)(km:12<=n)(mask torn cut:Int):rH n (S.D.db mask torn cut) m g:=by
 obtain⟨h1,hd,mb,qs,h2,h3,h4⟩:=h;exact⟨S.J,hd,mb,qs,h2.db km mask torn cut,h3⟩
def VG.same{n:Nat}{D D':aw}{J:PJ}{hd:dj}{mb:Model}{qs:List ig}{g:Nat}(h:VG n D J hd mb qs g)(km:12<=n)(eO:D'.Ok)(vM:D'.later=[])(hl:D'.safe.length=n)(hr:∀j:Int,D'.read j=D.read j):VG n D' J hd mb qs g:=
 ⟨h.jg.congr eO vM hl (λj _ _=>by rw[hr]),h.cg.jA km h.jg.len hl (λj _=>by rw[hr]) (λj _ _=>by rw[hr]),h.lo,h.hi,h.cR,h.um,h.ground,h.kM,h.D8,h.aF⟩
def VW.tA{n:Nat}{S:VS}{m:Model}{g:Nat}(h:VW n S m g)(km:12<=n)(k:Int):VW n {S with D:=S.D.tA k} m g:=by
 obtain⟨h1,hd,mb,qs,h2,h3,h4⟩:=h;have ho:=h2.jg.ok;exact⟨h1,hd,mb,qs,h2.same km ⟨ho.safe,ho.later,ho.lu,ho.less⟩ h2.jg.Et h2.jg.len (λj=>rfl),h3,h4⟩
def VX.tA{n:Nat}{S:VS}{m mf:Model}{g:Nat}(h:VX n S m mf g)(k:Int):VX n {S with D:=S.D.tA k} m mf g:=by
 have ho:=h.ok;refine⟨h.cR,⟨⟨ho.ok.safe,ho.ok.later,ho.ok.lu,ho.ok.less⟩,ho.lu,⟨ho.tr.lo,ho.tr.Kl,ho.tr.PS,ho.tr.hi,ho.tr.seq⟩,ho.aF⟩,h.len,h.seq,λa b c=>?_⟩;have e:(S.D.tA k).db a b c=S.D.db a b c:=by rw[kE,kE];rfl
 show rH n ((S.D.tA k).db a b c) m g\/rH n ((S.D.tA k).db a b c) mf g;rw[e];exact h.db a b c
def Ar{n:Nat}{S:VS}{m:Model}{g:Nat}(h:VW n S m g)(km:12<=n)(bN:n<=4096)(hg:g+2<256)(fU:Good (bo m))(sY:Md.Ground m):
 ((iI n m S).2=0/\VW n (iI n m S).1 m (g+2)/\(iI n m S).1.aF=S.aF+1/\(iI n m S).1.J.seq=S.J.seq/\(iI n m S).1.J.at'=S.J.lo/\(iI n m S).1.J.lo=S.J.lo/\(iI n m S).1.J.hi=S.J.hi)\/
 ((iI n m S).2=3/\(iI n m S).1=S)\/
 ((iI n m S).2=8/\VX n (iI n m S).1 m m (g+2)/\(iI n m S).1.aF=S.aF/\(iI n m S).1.J.seq=S.J.seq):=by
 have hgl:=vz fU;have rX:=fU.lu;have rV:=fU.many;have hlen:(bO (bo m)).length<=425984:=by omega
 obtain⟨h1,hd,mb,qs,h2,h3,h4⟩:=h;have ZS:=h2.aF;have yY:=h2.lo;have yZ:=h2.hi;have Cs:=h2.D8;have Lo:2+2* bQ n<n:=by unfold bQ;omega
 unfold iI;rw[if_neg (by rw[h1];decide),h4,h2.jg.len];by_cases GG:dQ (bO (bo m)).length<=bQ n
 rotate_left
 ·rw[if_pos GG]
  right;left
  exact⟨rfl,rfl⟩
 rw[if_neg (λhh=>hh GG)];obtain⟨p1,p2⟩:=h2.put (m:=m) km bN hg GG;obtain⟨x,hx,Xs,SZ⟩:=h2.jg.uj (by omega);have Dv:=mB km (hd.aF+1);have lu:∀{a t:Nat} {k:Int} {s:BA} {D:aw},D.Ok->D.later=[]->dQ s.size<900000->(cS D a t k s).1.later.length<1000000:=λ{a t k s D} ho hl hc=>by
  have:=Ii (at':=(a:Int)) (to:=(t:Int)) (number:=k) (s:=s) ho (by rw[hl,aes];omega);rw[hl,aes] at this;omega
 have J7:dQ (bs (bO (bo m))).size<900000:=by rw[bI];have:=Dv.2.1;omega
 by_cases z1:(put S.D n (hd.aF+1) (dy S.D n+1) (bs (bO (bo m)))).2=0
 rotate_left
 ·have z8:(put S.D n (hd.aF+1) (dy S.D n+1) (bs (bO (bo m)))).2=8:=by rcases p1 with p1|p1;exact absurd p1 z1;exact p1
  rw[if_pos z1]
  right;right
  have c0:=p2 _ (.inl ⟨0,0,0,rfl⟩);have Mr:(put S.D n (hd.aF+1) (dy S.D n+1) (bs (bO (bo m)))).1.safe.length=n:=by rw[<-qf _ 0 0 0];exact c0.1.jg.len
  have UG:(put S.D n (hd.aF+1) (dy S.D n+1) (bs (bO (bo m)))).1.Ok:=by rw[xV];exact Gi h2.jg.ok (by rw[h2.jg.Et,aes];omega)
  have sX:=h2.jg.tr;refine⟨z8,⟨rfl,⟨UG,by rw[xV];exact lu h2.jg.ok h2.jg.Et J7,⟨sX.lo,sX.Kl,sX.PS,by rw[Mr];have:=sX.hi;rw[h2.jg.len] at this;exact this,sX.seq⟩,by show 0<=hd.aF/\hd.aF<_;omega⟩,Mr,by show S.J.seq<=_;omega,λa b c=>?_⟩,rfl,rfl⟩
  left
  obtain⟨c1,c2⟩:=p2 _ (.inl ⟨a,b,c,rfl⟩);exact⟨S.J,hd,mb,qs,c1.mono (by omega),h3⟩
 ·rw[if_neg (λhh=>hh z1)];obtain⟨c1,c2⟩:=p2 _ (.inr ⟨z1,rfl⟩);have c2:=c2 z1;generalize hD1:(put S.D n (hd.aF+1) (dy S.D n+1) (bs (bO (bo m)))).1=D1 at c1 c2⊢;have oK:dy D1 n<=((x+1:Nat):Int):=by
   have hA:ZD (put S.D n (hd.aF+1) (dy S.D n+1) (bs (bO (bo m)))) D1:=.inr ⟨z1,hD1.symm⟩;rw[xV,show dy S.D n+1=((x+1:Nat):Int) by omega] at hA;obtain⟨_,_,_,k4,_⟩:=ZN (n:=n) (a:=cN n (hd.aF+1)) (t:=cN n (hd.aF+1)+bQ n) (m:=x+1) (g:=x) h2.jg.ok h2.jg.Et h2.jg.len SZ.ends bN (by omega) (by omega) (by rw[bI];omega) (by omega) hA;exact yl (by omega) n k4
  have e2:dy S.D n+2=((x+1+1:Nat):Int):=by omega
  rw[e2];obtain⟨q1,q2⟩:=c1.Zo (m:=m) (number:=dy S.D n+1) km bN (x+1) oK (by omega) (by omega) (by omega) GG hlen fU sY c2;have Z':kL ⟨hd.aF+1,dy S.D n+1,((bO (bo m)).length:Int),S.J.seq⟩:=by have:=h2.jg.tr.seq;unfold kL;dsimp only;omega
  obtain⟨b,hb,ui,ec⟩:=Ke (D:=D1) (number:=((x+1+1:Nat):Int)) Z';by_cases z2:(sh D1 ((x+1+1:Nat):Int) ⟨hd.aF+1,dy S.D n+1,((bO (bo m)).length:Int),S.J.seq⟩).2=0
  ·rw[if_neg (λhh=>hh z2)]
   left
   rcases q2 _ (.inr ⟨z2,rfl⟩) with hv|⟨h8,_⟩
   ·exact⟨rfl,⟨h1,_,m,[],hv.mono (by omega),rfl,rfl⟩,rfl,rfl,rfl,rfl,rfl⟩
   ·rw[z2] at h8;exact absurd h8 (by decide)
  ·have z8:(sh D1 ((x+1+1:Nat):Int) ⟨hd.aF+1,dy S.D n+1,((bO (bo m)).length:Int),S.J.seq⟩).2=8:=by rcases q1 with q1|q1;exact absurd q1 z2;exact q1
   rw[if_pos z2]
   right;right
   have Mr:(sh D1 ((x+1+1:Nat):Int) ⟨hd.aF+1,dy S.D n+1,((bO (bo m)).length:Int),S.J.seq⟩).1.safe.length=n:=by
    rw[<-qf _ 0 0 0];rcases q2 _ (.inl ⟨0,0,0,rfl⟩) with hv|⟨_,hv⟩
    ·exact hv.jg.len
    ·exact hv.jg.len
   have UG:(sh D1 ((x+1+1:Nat):Int) ⟨hd.aF+1,dy S.D n+1,((bO (bo m)).length:Int),S.J.seq⟩).1.Ok:=by rw[ec];exact Gi c1.jg.ok (by rw[c1.jg.Et,aes,BJ];omega)
   have sX:=h2.jg.tr;refine⟨z8,⟨rfl,⟨UG,by rw[ec];exact lu c1.jg.ok c1.jg.Et (by rw[BJ];omega),⟨sX.lo,sX.Kl,sX.PS,by rw[Mr];have:=sX.hi;rw[h2.jg.len] at this;exact this,sX.seq⟩,by show 0<=hd.aF/\hd.aF<_;omega⟩,Mr,by show S.J.seq<=_;omega,λa b' c=>?_⟩,rfl,rfl⟩
   left
   rcases q2 _ (.inl ⟨a,b',c,rfl⟩) with hv|⟨_,hv⟩
   ·exact⟨_,_,m,[],hv.mono (by omega),rfl⟩
   ·exact⟨S.J,hd,mb,qs,hv.mono (by omega),h3⟩
def MP{n:Nat}{S:VS}{m:Model}{g:Nat}{q:ig}(h:VW n S m g)(km:12<=n)(bN:n<=4096)(hg:g+1<256)(hq:DV q):
 ((lv S (bs (ch q))).2=0/\VW n (lv S (bs (ch q))).1 (aE m q).2.2 (g+1)/\(lv S (bs (ch q))).1.aF=S.aF/\(lv S (bs (ch q))).1.J.seq=S.J.seq+1)\/
 ((lv S (bs (ch q))).2=6/\(lv S (bs (ch q))).1=S/\ ¬room S.J (bs (ch q)).size)\/
 ((lv S (bs (ch q))).2=8/\VX n (lv S (bs (ch q))).1 m (aE m q).2.2 (g+1)/\(lv S (bs (ch q))).1.aF=S.aF/\(lv S (bs (ch q))).1.J.seq=S.J.seq):=by
 obtain⟨h1,hd,mb,qs,h2,h3,h4⟩:=h;have ZS:=h2.aF;have yY:=h2.lo;have yZ:=h2.hi;have Cs:=h2.D8;have X4:=(uR S.D n).1;obtain⟨x,hx,Xs,SZ⟩:=h2.jg.uj (by omega);unfold lv;rw[h2.jg.len];by_cases hr:room S.J (bs (ch q)).size
 ·obtain⟨a1,a2,a3⟩:=h2.add km bN hq hr hg;have N0:u0 mb (qs++[q])=(aE m q).2.2:=by rw[CW,h3]
  rcases a3 with⟨z,hv⟩|⟨z,hv⟩
  ·have e:pK S.D S.J (dy S.D n+1) (bs (ch q))=((cS S.D S.J.at' S.J.hi (dy S.D n+1) (bs (bE (S.J.seq+1) (bs (ch q))))).1,S.J.more (bs (ch q)),0):=by
    rw[a1];unfold Sep.yu;rw[if_neg (λhh=>hh z)];rfl
   rw[e]
   left
   exact⟨rfl,⟨by show(S.cR||_)=false;rw[h1];rfl,hd,mb,qs++[q],hv,N0,h4⟩,rfl,rfl⟩
  ·have e:pK S.D S.J (dy S.D n+1) (bs (ch q))=((cS S.D S.J.at' S.J.hi (dy S.D n+1) (bs (bE (S.J.seq+1) (bs (ch q))))).1,{S.J with cR:=true},8):=by
    rw[a1];unfold Sep.yu;rw[if_pos (by rw[z];decide),z]
   rw[e]
   right;right
   have Mr:(cS S.D S.J.at' S.J.hi (dy S.D n+1) (bs (bE (S.J.seq+1) (bs (ch q))))).1.safe.length=n:=by
    rw[<-qf _ 0 0 0];rcases hv 0 0 0 with hh|hh
    ·exact hh.jg.len
    ·exact hh.jg.len
   have sX:=h2.jg.tr;have xf:=oL (S.J.seq+1) (bs (ch q));have Wy:dQ (12+(bs (ch q)).size)<=4096:=by have:=hr.2.2;rw[adY] at this;have:=sX.lo;have:=sX.Kl;omega
   have rX:=Ii (at':=S.J.at') (to:=S.J.hi) (number:=dy S.D n+1) (s:=bs (bE (S.J.seq+1) (bs (ch q)))) h2.jg.ok (by rw[h2.jg.Et,aes,xf];omega);rw[h2.jg.Et,aes,xf] at rX;refine⟨rfl,⟨by show(S.cR||_)=true;rw[h1];rfl,⟨a2,by show(cS S.D S.J.at' S.J.hi (dy S.D n+1) (bs (bE (S.J.seq+1) (bs (ch q))))).1.later.length<1000000;omega,⟨sX.lo,sX.Kl,sX.PS,by rw[Mr];have:=sX.hi;rw[h2.jg.len] at this;exact this,sX.seq⟩,by show 0<=S.aF/\S.aF<_;omega⟩,Mr,by show S.J.seq<=_;omega,λa b c=>?_⟩,rfl,rfl⟩;rcases hv a b c with hh|hh
   ·exact .inl ⟨_,hd,mb,qs,hh,h3⟩
   ·exact .inr ⟨_,hd,mb,qs++[q],hh,N0⟩
 ·have e:pK S.D S.J (dy S.D n+1) (bs (ch q))=(S.D,S.J,6):=by
   unfold pK;rw[if_neg (by rw[h2.cR];decide),if_neg (by omega),if_pos (.inl hr)]
  rw[e]
  right;left
  refine⟨rfl,?_,hr⟩;have:(S.cR||(6:Int)==8)=S.cR:=by cases S.cR<;>rfl
  dsimp only;rw[this]
def MN{n:Nat}{S:VS}{m:Model}{g:Nat}{q:ig}(h:VW n S m g)(km:12<=n)(bN:n<=4096)(hg:g+3<256)(fU:Good (bo m))(sY:Md.Ground m)(hw:gQ q=true)(he:cz q=true)(hA:∀a∈q.ah,vn a)(hT:∀t∈q.aT,u3 t):
 ((vX n m S q).2=((aE m q).2.2,(aE m q).1,(aE m q).2.1)/\VW n (vX n m S q).1 (aE m q).2.2 (g+3)/\(vX n m S q).1.J.seq=S.J.seq+1)\/
 (∃e,(e=3\/e=6)/\(vX n m S q).2=(m,e,[])/\VW n (vX n m S q).1 m (g+3)/\(vX n m S q).1.J.seq=S.J.seq)\/
 ((vX n m S q).2=(m,8,[])/\VX n (vX n m S q).1 m (aE m q).2.2 (g+3)/\(vX n m S q).1.J.seq=S.J.seq):=by
 have Ew:DV q:=⟨hw,he,hA,hT⟩;unfold vX;rw[if_neg (by rw[hw];decide),if_neg (by rw[h.cR];decide)];have main:∀(S1:VS)(g1:Nat),VW n S1 m g1->g1+1<=g+3->S1.J.seq=S.J.seq->gZ n m S (bs (ch q))=lv S1 (bs (ch q))->
                                          ((if(gZ n m S (bs (ch q))).2≠0 then((gZ n m S (bs (ch q))).1,m,(gZ n m S (bs (ch q))).2,[]) else((gZ n m S (bs (ch q))).1,(aE m q).2.2,(aE m q).1,(aE m q).2.1):VS×Model×Int×List Int)).2=((aE m q).2.2,(aE m q).1,(aE m q).2.1)/\VW n (if(gZ n m S (bs (ch q))).2≠0 then((gZ n m S (bs (ch q))).1,m,(gZ n m S (bs (ch q))).2,[]) else((gZ n m S (bs (ch q))).1,(aE m q).2.2,(aE m q).1,(aE m q).2.1):VS×Model×Int×List Int).1 (aE m q).2.2 (g+3)/\((if(gZ n m S (bs (ch q))).2≠0 then((gZ n m S (bs (ch q))).1,m,(gZ n m S (bs (ch q))).2,[]) else((gZ n m S (bs (ch q))).1,(aE m q).2.2,(aE m q).1,(aE m q).2.1):VS×Model×Int×List Int)).1.J.seq=S.J.seq+1\/
                                          (∃e,(e=3\/e=6)/\((if(gZ n m S (bs (ch q))).2≠0 then((gZ n m S (bs (ch q))).1,m,(gZ n m S (bs (ch q))).2,[]) else((gZ n m S (bs (ch q))).1,(aE m q).2.2,(aE m q).1,(aE m q).2.1):VS×Model×Int×List Int)).2=(m,e,[])/\VW n (if(gZ n m S (bs (ch q))).2≠0 then((gZ n m S (bs (ch q))).1,m,(gZ n m S (bs (ch q))).2,[]) else((gZ n m S (bs (ch q))).1,(aE m q).2.2,(aE m q).1,(aE m q).2.1):VS×Model×Int×List Int).1 m (g+3)/\((if(gZ n m S (bs (ch q))).2≠0 then((gZ n m S (bs (ch q))).1,m,(gZ n m S (bs (ch q))).2,[]) else((gZ n m S (bs (ch q))).1,(aE m q).2.2,(aE m q).1,(aE m q).2.1):VS×Model×Int×List Int)).1.J.seq=S.J.seq)\/
                                          (((if(gZ n m S (bs (ch q))).2≠0 then((gZ n m S (bs (ch q))).1,m,(gZ n m S (bs (ch q))).2,[]) else((gZ n m S (bs (ch q))).1,(aE m q).2.2,(aE m q).1,(aE m q).2.1):VS×Model×Int×List Int)).2=(m,8,[])/\VX n (if(gZ n m S (bs (ch q))).2≠0 then((gZ n m S (bs (ch q))).1,m,(gZ n m S (bs (ch q))).2,[]) else((gZ n m S (bs (ch q))).1,(aE m q).2.2,(aE m q).1,(aE m q).2.1):VS×Model×Int×List Int).1 m (aE m q).2.2 (g+3)/\((if(gZ n m S (bs (ch q))).2≠0 then((gZ n m S (bs (ch q))).1,m,(gZ n m S (bs (ch q))).2,[]) else((gZ n m S (bs (ch q))).1,(aE m q).2.2,(aE m q).1,(aE m q).2.1):VS×Model×Int×List Int)).1.J.seq=S.J.seq):=λS1 g1 Uo HE Mo Xw=>by
  rw[Xw];rcases MP (q:=q) Uo km bN (by omega) Ew with⟨z,a,b,c⟩|⟨z,a,b⟩|⟨z,a,b,c⟩
  ·left
   rw[if_neg (λhh=>hh z)];exact⟨rfl,a.mono HE,by rw[<-Mo];exact c⟩
  ·right;left
   rw[if_pos (by rw[z];decide),z,a];exact⟨6,.inr rfl,rfl,Uo.mono (by omega),Mo⟩
  ·right;right
   rw[if_pos (by rw[z];decide),z];exact⟨rfl,a.mono HE,by rw[<-Mo];exact c⟩
 by_cases hr:room S.J (bs (ch q)).size
 ·exact main S g h (by omega) rfl (by unfold gZ;rw[if_pos hr])
 ·rcases Ar h km bN (by omega) fU sY with⟨z,a,b,c,_⟩|⟨z,a⟩|⟨z,a,b,c⟩
  ·exact main (iI n m S).1 (g+2) a (by omega) c (by unfold gZ;rw[if_neg hr,if_neg (λhh=>hh z)])
  ·have Xw:gZ n m S (bs (ch q))=iI n m S:=by unfold gZ;rw[if_neg hr,if_pos (by rw[z];decide)]
   rw[Xw,if_pos (by rw[z];decide)]
   right;left
   exact⟨3,.inl rfl,by rw[z],by rw[a];exact h.mono (by omega),by rw[a]⟩
  ·have Xw:gZ n m S (bs (ch q))=iI n m S:=by unfold gZ;rw[if_neg hr,if_pos (by rw[z];decide)]
   rw[Xw,if_pos (by rw[z];decide)]
   right;right
   refine⟨by rw[z],⟨a.cR,a.ok,a.len,by show(iI n m S).1.J.seq<=_;have:=a.seq;omega,λx y w=>?_⟩,c⟩
   left
   rcases a.db x y w with hh|hh
   ·exact hh.mono (by omega)
   ·exact hh.mono (by omega)
structure DT where
 kind:Int
 q:ig
 s:rE
 mask:Int
 torn:Int
 cut:Int
 n:Int
def jb(x:DT):LV:=.i x.kind::(dH x.q x.s++[.u x.mask,.i x.torn,.i x.cut,.i x.n])
def FK(x:DT):(jb x).length=18:=rfl
instance{x:DT}:Ln (jb x) 18:=⟨rfl⟩
instance{x:DT}:Gt (jb x) 0 (.i x.kind):=⟨rfl⟩
instance{x:DT}:Gt (jb x) 2 (.l x.s.sa x.q.ah.length x.s.ca):=⟨rfl⟩
instance{x:DT}:Gt (jb x) 3 (.l x.s.st x.q.aT.length x.s.ct):=⟨rfl⟩
instance{x:DT}:Gt (jb x) 5 (.l x.s.si x.q.ids.length x.s.ci):=⟨rfl⟩
instance{x:DT}:Gt (jb x) 14 (.u x.mask):=⟨rfl⟩
instance{x:DT}:Gt (jb x) 15 (.i x.torn):=⟨rfl⟩
instance{x:DT}:Gt (jb x) 16 (.i x.cut):=⟨rfl⟩
instance{x:DT}:Gt (jb x) 17 (.i x.n):=⟨rfl⟩
def Nf(x:DT):∀v∈jb x,v.oneCell'=true:=λv hv=>by
 rcases afe.1 hv with h|h
 ·subst h;rfl
 ·rcases aeB.1 h with h|h
  ·exact tV _ _ v h
  ·simp at h;rcases h with rfl|rfl|rfl|rfl<;>rfl
section
variable {x1 x2 x3 x4 x5 x6 x7 x8 x9 zL zJ zH zG CF Hs Hr PX PW:Value} {x:DT}
instance:Wr [x1,x2,x3,x4,x5,x6,x7,x8,x9,zL,zJ,zH,zG,CF,Hs,Hr,PX,PW] 0 (jb x) (jb x):=⟨rfl,ad4 _,Nf x⟩
instance:Sub (jb x) 1 13 (dH x.q x.s):=⟨rfl,λj v h=>by
 show(_::(dH x.q x.s++_))[1+j]?=some v
 rw[Nat.add_comm 1 j,aed,ael (adZ.1 h).1];exact h⟩
end
def St.nil{W w:World}{L:LH}(h:St W w L):St W w []:=by
 induction L with
 |nil=>exact h
 |cons A L ih=>exact ih h.drop
instance(priority:=low) Has.nil{L:LH}:Has [] L:=⟨λh=>St.nil h⟩
def sn(m m2:Model):Prop:=(bo m).ah=(bo m2).ah/\m.kept=m2.kept/\m.clock=m2.clock/\m.ae=m2.ae
instance(m m2:Model):Decidable (sn m m2):=by unfold sn;infer_instance
def sn.refl(m:Model):sn m m:=⟨rfl,rfl,rfl,rfl⟩
def Jm:∀{l:List Nat} {x:Nat},x∈l->x<=l.sum
 |[],x,h=>by cases h
 |y::l,x,h=>by
  rw[List.sum_cons];rcases afe.1 h with h|h
  ·subst h;omega
  ·have:=Jm h;omega
structure Hm(W:World)(x:DT):Prop where
 ZK:lK W [] x.q x.s
 ah:∀a∈x.q.ah,vn a
 aT:∀t∈x.q.aT,u3 t
 la:x.q.ah.length<=140737488355328
 lt:x.q.aT.length<=140737488355328
section
variable {W:World} {L R M:LH} {K:VK} {X:WK} {q:ig} {s:rE} {p v d n pb pj:Nat} {m m2:Model} {mb kb:OA} {mc kc:Nat} {S:VS} {D:aw} {J:PJ} {hd:dj} {qs:List ig} {g:Nat} {f:aw->LH}
def wm(G:pE W)(km:12<=n)(bN:n<=4096)(hv:VG n D J hd m qs g)(hg:g<256)
 (h:∀v pb pj,Md.Ground (u0 m qs)->T W (VL v d n pb pj (u0 m qs) ⟨D,J,hd.aF,false⟩ R) (K (.tuple ⟨[.p (some ⟨v,0,none⟩),.i 0]⟩))):
 T W (dK d D::R) (eP (some ⟨d,0,none⟩) K):=by
 have ho:=hv.jg.opened;have yY:=hv.lo;have yZ:=hv.hi;rw[yY,yZ] at ho;have Cs:=hv.D8;have hq0:=hv.jg.q0;have Ra:=hv.jg.seq;refine P0 G hv.jg.ok km bN hv.jg.len (hv.cg.base hv.jg.len km bN) hv.um hv.ground ⟨hq0,by omega⟩ (qs:=qs) (by rw[ho]) hv.kM λv pb pj pT=>?_;rw[ho];have e:(⟨((2+2* bQ n:Nat):Int),(n:Int),J.at',J.seq,false⟩:PJ)=J:=by
  cases J with
  |mk lo hi at' seq cR=>
   have h1:=hv.cR;dsimp only at yY yZ h1;subst yY yZ h1
   rfl
 dsimp only;rw[e];exact h v pb pj pT
def Se[i:Lc (dK d) L D f]{mask torn cut:Int}(eO:D.Ok)(hl:D.later.length<1099511627776)(h:T W (f (D.db mask torn cut)) (K (.tuple ⟨[]⟩))):T W L (jk (some ⟨d,0,none⟩) mask torn cut K):=λw hs=>by
 obtain⟨k,hk,e⟩:=i.at_;exact zF hs hk eO λw' h'=>h w' (by rw[e];exact h')
def Js(hm:RM m)(pT:Md.Ground m)(h:T W (VL v d n pb pj m2 S (ML p m mb mc kb kc R)) (K (.bool (decide (sn m m2))))):T W (VL v d n pb pj m2 S (ML p m mb mc kb kc R)) (cO (some ⟨v,0,none⟩) (some ⟨p,0,none⟩) K):=by
 unfold cO;refine Fv λp3=>?_;refine vr ?_;refine vW (p:=p3) λab ac=>?_;refine tN ?_;refine E9 (p:=p3) λxb xc=>?_;refine tN ?_;refine Fe (p:=p3) ?_;refine lA ?_;refine Kq (p:=p3) ?_;refine lA ?_;refine T.perm (L:=ML p m mb mc kb kc (own xb (bo m2).kept.length xc 33 ((bo m2).kept.flatMap aI)::own ab (bo m2).ah.length ac 14 ((bo m2).ah.flatMap ak)::bj p3 (bo m2,[])::VL v d n pb pj m2 S R)) ?_ (ad7 (l₁:=[_,_,_,_,_,_,_]) (l₂:=[_,_,_])|>.append_right R);refine Qs hm ?_;refine nK ?_;have e:decide (m.made.map m.full=(bo m2).ah/\m.kept=(bo m2).kept/\m.clock=(bo m2).clock/\m.ae=(bo m2).ae)=decide (sn m m2):=by
  have e1:m.made.map m.full=(bo m).ah:=ae6 λa ha=>pT.full ha;rw[e1,decide_eq_decide];exact Iff.rfl
 rw[e];refine T.perm (L:=own xb (bo m2).kept.length xc 33 ((bo m2).kept.flatMap aI)::own ab (bo m2).ah.length ac 14 ((bo m2).ah.flatMap ak)::bj p3 (bo m2,[])::VL v d n pb pj m2 S (ML p m mb mc kb kc R)) ?_ (ad7 (l₁:=[_,_,_]) (l₂:=[_,_,_,_,_,_,_])|>.append_right R);exact T.drop (T.drop (T.drop h))
def Nn(hg:Good (bo m))(pT:Md.Ground m)(h:T W (VL v d n pb pj m2 S (ML p m mb mc kb kc R)) (K (.bool (decide (sn m m2))))):T W (VL v d n pb pj m2 S (ML p m mb mc kb kc R)) (cO (some ⟨v,0,none⟩) (some ⟨p,0,none⟩) K):=
 Js (RM.sG hg pT) pT h
def LF{sb:OA}{sc:Nat}{l:List DT}(hr:oe W [] jb 18 sb l)(hl:l.length<=maxLen)(Dv:∀x∈l,Hm W x)
 (h:∀b:Bool,(b=false->l.length<=60/\∀x∈l,x.q.ah.length+x.q.aT.length<=150/\x.q.ids.length<=100)->T W L (K (.bool b))):T W L (eV sb l.length sc K):=by
 unfold maxLen at hl;unfold eV;intro w jG;refine⟨λvv w=>∃(i:Nat)(n:Int),i<=l.length/\(∀x∈l.take i,x.q.ids.length<=100)/\(l.length<=60->n=(((l.take i).map λx=>x.q.ah.length+x.q.aT.length).sum:Nat))/\vv=[.bool false,.i n,.l sb l.length sc,.i (l.length:Int),.i (i:Int)]/\St W w L,
  λvs _=>match vs with|[_,_,_,_,.int _ d]=>l.length-d.toNat|_=>0,⟨0,0,ad6 _,(λx hx=>by cases hx),(λ_=>rfl),rfl,jG⟩,?_⟩
 rintro b1 n1 uG pY uF n2 n3 w2 ⟨i,nn,hi,Lu,Ur,e,fo⟩;cases e
 refine T.at ?_ fo;have hbound:∀j,j<=l.length->l.length<=60->((l.take j).map λx=>x.q.ah.length+x.q.aT.length).sum<=j* 281474976710656:=λj=>by
  induction j with
  |zero=>intro _ _;simp
  |succ j ih=>
   intro hj Tc;have:=ih (by omega) Tc;have gx:=adX (show j<l.length by omega);have hx:=Dv _ (aej (show j<l.length by omega));rw[aeg,gx,aeu,List.sum_append];have h1:=hx.la;have h2:=hx.lt;simp only[Option.toList_some,aez,afw,List.sum_cons,List.sum_nil];omega
 refine dX (λg1=>?_) (λg1=>?_)
 ·have aZ:i<l.length:=by omega
  have e5:=mh i;have gx:=adX aZ;have hx:=Dv _ (aej aZ);have oJ:l.take (i+1)=l.take i++[l[i]]:=by rw[aeg,gx];rfl
  generalize l[i]=x at gx hx oJ;have zz:=hx.la;have rW:=hx.lt;refine kf hr ⟨by omega,by omega⟩ rfl λa ha=>?_;rw[adY];refine ke hr ha gx (FK x) ?_;apply ws;intros;refine dX (λg2=>?_) (λg2=>?_)
  ·exact T.drop (h true (λhh=>by cases hh))
  ·rw[e5];refine T.drop λw3 h3=>⟨⟨i+1,_,aZ,λy hy=>?_,λTc=>?_,rfl,h3⟩,by show l.length-((i+1:Nat):Int).toNat<l.length-(i:Int).toNat;omega⟩
   ·rw[oJ] at hy;rcases aeB.1 hy with hy|hy
    ·exact Lu y hy
    ·cases(show y=x by simpa using hy);omega
   ·have hb:=hbound i (by omega) Tc;rw[Ur Tc,oJ,aeu,List.sum_append];simp only[aez,afw,List.sum_cons,List.sum_nil];rw[ar (n:=(x.q.ah.length:Int)+(x.q.aT.length:Int)) (by omega),ar (by omega)];omega
 ·have gF:i=l.length:=by omega
  subst gF;rw[ad'] at Lu Ur;refine dX (λg2=>?_) (λg2=>?_)
  ·exact h true (λhh=>by cases hh)
  ·have Tc:l.length<=60:=by omega
   have hs:=Ur Tc;refine h _ (λhh=>⟨Tc,λx hx=>⟨?_,Lu x hx⟩⟩);have hh:=of_decide_eq_false hh;have:x.q.ah.length+x.q.aT.length<=(l.map λx=>x.q.ah.length+x.q.aT.length).sum:=Jm (List.mem_map_of_mem hx);omega
end
def tH(n:Nat)(m:Model)(S:VS)(q:ig):VS×Model×Int×List Int×List aO×List Move:=
 if cz q=true then((vX n m S q).1,(vX n m S q).2.1,(vX n m S q).2.2.1,(vX n m S q).2.2.2,[],[])
 else(S,m,(ask m q).1,[],(ask m q).2.1,(ask m q).2.2)
inductive Out(m:Model)(q:ig):Int->List Int->List aO->List Move->Model->Prop where
 |ask (h:cz q=false):Out m q (ask m q).1 [] (ask m q).2.1 (ask m q).2.2 m
 |bad (h:cz q=true) (h2:gQ q=false):Out m q 1 [] [] [] m
 |done (h:cz q=true) (h2:gQ q=true) (h3:(aE m q).1=0):Out m q 0 (aE m q).2.1 [] [] (aE m q).2.2
 |not (h:cz q=true) (h2:gQ q=true) (e:Int) (h3:e=8\/e=9\/e=6\/e=3):Out m q e [] [] [] m
def GV{m:Model}{q:ig}(hw:gQ q=true)(he:cz q=true):(aE m q).1=0:=by
 have h2:jz q=true:=by
  have UE:q.op=1\/q.op=2\/q.op=3:=of_decide_eq_true he;have ha:kX q=false:=by
   unfold kX;rw[if_neg (by omega),if_neg (by omega)]
  unfold gQ at hw;rw[ha,Bool.or_false,aeR] at hw;exact hw.1
 unfold aE;rw[if_neg (by rw[h2];decide)];split
 ·rfl
 ·split<;>rfl
def RW{m:Model}{q:ig}(hg:Good (bo m))(hi:q.ids.length<=16\/kX q=false\/q.op=6):(ask m q).2.1.length<=10000/\(ask m q).2.2.length<=10000:=by
 unfold ask;split
 ·simp
 ·rename_i gU;have h16:q.op=4\/q.op=5->q.ids.length<=16:=λho=>by
   have Ac:kX q=true:=by simpa using gU
   unfold kX at Ac;rw[if_pos ho,aeR,decide_eq_true_eq,decide_eq_true_eq] at Ac;exact Ac.2
  split
  ·rename_i h4;have:=h16 (.inl h4);have h2:=List.length_filterMap_le (bo m).find q.ids;dsimp only;exact⟨by omega,by simp⟩
  ·split
   ·rename_i h5;have:=h16 (.inr h5);have h2:=List.length_filterMap_le (λid=>((bo m).named id).map (·.move)) q.ids;dsimp only;exact⟨by simp,by omega⟩
   ·rw[<-F' hg];dsimp only;refine⟨by simp,?_⟩;unfold NH;rw[aen,ad2];have h3:((if q.mV=true then(bo m).kept.reverse else(bo m).kept).filter λk=>wW q.fQ q.rZ k.move.ae&&fits q k).length<=(if q.mV=true then(bo m).kept.reverse else(bo m).kept).length:=List.length_filter_le _ _;have h4:(if q.mV=true then(bo m).kept.reverse else(bo m).kept).length=(bo m).kept.length:=by split<;>simp
    have:=hg.many;omega
def lK.any{W:World}{R:LH}{q:ig}{s:rE}(h:lK W [] q s):lK W R q s:=⟨h.ah.mono,h.aT.mono,h.ids.mono,h.ca,h.ct,h.ci⟩
section
variable {W:World} {L R M:LH} {K:VK} {X:WK} {q:ig} {s:rE} {p p2 v d n pb pj:Nat} {m m2 m3:Model} {mb kb mb' kb':OA} {mc kc mc' kc':Nat} {S S2:VS} {D:aw} {J:PJ} {g:Nat}
def So(G:pE W)(hg:Md.Ground m)(hS:MC S)(Yp:MC (iI n m S).1)(km:12<=n)(bN:n<=4096)(hq:lK W [] q s)(hA:∀a∈q.ah,vn a)(hT:∀t∈q.aT,u3 t)(zz:q.ah.length<1000000)(aZ:q.aT.length<1000000)
 (h:∀rb rc ab ac tb tc,Md.Ground (tH n m S q).2.1->T W (own rb (tH n m S q).2.2.2.1.length rc 1 ((tH n m S q).2.2.2.1.flatMap I1)::own ab (tH n m S q).2.2.2.2.1.length ac 14 ((tH n m S q).2.2.2.2.1.flatMap ak)::own tb (tH n m S q).2.2.2.2.2.length tc 16 ((tH n m S q).2.2.2.2.2.flatMap aj)::VL v d n pb pj (tH n m S q).2.1 (tH n m S q).1 R)
  (K (.agg ⟨nM (tH n m S q).2.2.1 rb (tH n m S q).2.2.2.1.length rc ab (tH n m S q).2.2.2.2.1.length ac tb (tH n m S q).2.2.2.2.2.length tc⟩))):
 T W (VL v d n pb pj m S R) (dM (some ⟨v,0,none⟩) (dH q s) K):=by
 unfold tH at h;cases he:cz q with
 |true=>
  rw[if_pos he] at h;refine TE G hg hS Yp km bN hq.any hA hT zz aZ he λrb rc pT=>?_;refine eY (e:=14) ?_;refine eY (e:=16) ?_;refine T.perm (h rb rc none 0 none 0 pT) ?_;exact(ad7 (l₁:=[own none 0 0 16 [],own none 0 0 14 []]) (l₂:=[_])|>.append_right _).trans (aem.cons _ (aem.swap _ _ _))
 |false=>
  rw[if_neg (by rw[he];decide)] at h;refine TF hq.any he λab ac tb tc=>?_;refine eY (e:=1) ?_;exact h none 0 ab ac tb tc hg
def P6{e:Int}{rb ab tb:OA}{rc ac tc:Nat}{res:List Int}{al:List aO}{tl:List Move}(hg:Good (bo m))(pT:Md.Ground m)(ho:Out m q e res al tl m2)
 (hlr:res.length<=10000)(zz:al.length<=10000)(aZ:tl.length<=10000)
 (hq:lK W [] q s)(Uz:q.ah.length<1000000)(ZV:q.aT.length<1000000)(hA:∀a∈q.ah,vn a)(hT:∀t∈q.aT,u3 t)
 (h:∀p2 mb' mc' kb' kc' R',Bk p m mb mc kb kc (own rb res.length rc 1 (res.flatMap I1)::own ab al.length ac 14 (al.flatMap ak)::own tb tl.length tc 16 (tl.flatMap aj)::R) p2 m2 mb' mc' kb' kc' R'->T W (ML p2 m2 mb' mc' kb' kc' R') (K (.tuple ⟨[.bool true,.p (some ⟨p2,0,none⟩)]⟩))):
 T W (ML p m mb mc kb kc (own rb res.length rc 1 (res.flatMap I1)::own ab al.length ac 14 (al.flatMap ak)::own tb tl.length tc 16 (tl.flatMap aj)::R)) (av (nM e rb res.length rc ab al.length ac tb tl.length tc) (some ⟨p,0,none⟩) (dH q s) K):=by
 refine TH (i1:=⟨⟨0,rfl,λ_=>rfl⟩⟩) (i2:=⟨⟨1,rfl,λ_=>rfl⟩⟩) (i3:=⟨⟨2,rfl,λ_=>rfl⟩⟩) hg pT hlr zz aZ hq.any Uz ZV hA hT (λh1=>?_) (λh1 h2=>?_) (λh1 h2 h3 p2 mb' mc' kb' kc' R' y5 Mp=>?_) (λh1 h2 h3=>?_)
 ·cases ho with
  |ask hx=>
   rw[decide_eq_true ⟨rfl,⟨rfl,rfl⟩,rfl⟩];exact h p mb mc kb kc _ (.inl ⟨rfl,rfl,rfl,rfl,rfl,rfl,rfl⟩)
  |bad hx _=>rw[h1] at hx;cases hx
  |done hx _ _=>rw[h1] at hx;cases hx
  |not hx _ _ _=>rw[h1] at hx;cases hx
 ·cases ho with
  |ask hx=>rw[h1] at hx;cases hx
  |bad hx _=>
   rw[decide_eq_true ⟨rfl,rfl⟩];exact h p mb mc kb kc _ (.inl ⟨rfl,rfl,rfl,rfl,rfl,rfl,rfl⟩)
  |done hx hy _=>rw[h2] at hy;cases hy
  |not hx hy _ _=>rw[h2] at hy;cases hy
 ·cases ho with
  |ask hx=>rw[h1] at hx;cases hx
  |bad hx hy=>rw[h2] at hy;cases hy
  |done hx hy hz=>
   rw[decide_eq_true ⟨hz,rfl⟩];exact h p2 mb' mc' kb' kc' R' y5
  |not hx hy _ hz=>omega
 ·cases ho with
  |ask hx=>rw[h1] at hx;cases hx
  |bad hx hy=>rw[h2] at hy;cases hy
  |done hx hy hz=>exact absurd rfl h3
  |not hx hy _ hz=>
   rw[decide_eq_true ⟨hz,rfl,rfl,rfl⟩];exact h p mb mc kb kc _ (.inl ⟨rfl,rfl,rfl,rfl,rfl,rfl,rfl⟩)
def Fq{n:Nat}{S:VS}{m:Model}{g:Nat}(h:VW n S m g)(km:12<=n)(bN:n<=4096)(hg:g+2<256)(fU:Good (bo m))(sY:Md.Ground m):MC (iI n m S).1:=by
 rcases Ar h km bN hg fU sY with⟨_,a,_⟩|⟨_,a⟩|⟨_,a,_⟩
 ·exact a.ok (by omega)
 ·rw[a];exact h.ok (by omega)
 ·exact a.ok
def xZ(n:Nat):VS:=⟨aw.new n,⟨((2+2* bQ n:Nat):Int),n,((2+2* bQ n:Nat):Int),0,false⟩,0,false⟩
def VQ{n:Nat}(km:12<=n)(bN:n<=4096):Rm n 0 (xZ n):=by
 have hb:2+2* bQ n<=n:=by unfold bQ;omega
 refine⟨BO bN,λj hj=>?_,rfl,rfl,afy _,by show((2+2* bQ n:Nat):Int)<=(n:Int);omega,⟨afy _,by show(0:Int)<=1000000;decide⟩,rfl,rfl,⟨afy _,afy _⟩⟩;show Sep.Ends 0 ((aw.new n).read (j:Int)).1;rw[wQ bN hj];exact BE
def VO{n:Nat}(km:12<=n)(bN:n<=4096):VW n (xZ n) pG 0:=
 ⟨rfl,An,pG,[],E0 km bN,rfl,rfl⟩
def qT:ig:=⟨3,[],[],5,[],0,0,0,false,false,false,0⟩
def sT:rE:=⟨none,0,none,0,none,0⟩
def L9(G:pE W)(h:T W L (K (.bool true))):T W L (cB K):=by
 unfold cB;refine NA λd=>?_;refine vr ?_;refine wm G (n:=20) (by decide) (by decide) (E0 (by decide) (by decide)) (by decide) λv pb pj pT=>?_;refine P' ?_;refine vr ?_;refine lA ?_;refine dO (by decide) ?_;refine cL ⟨rfl,rfl,trivial⟩ ?_;have Mm:=VO (n:=20) (by decide) (by decide);have aay:=VQ (n:=20) (by decide) (by decide);have XI:cz qT=true:=by decide
 have hqw:gQ qT=true:=by decide
 have Ly:aE pG qT=(0,[],pG.time 5):=rfl;have hlen:(ch qT).length<=924:=KP hqw XI;have Ux:(ch qT).length=9:=by decide
 have Lo:bQ 20=7:=by decide
 have yX:room (xZ 20).J (bs (ch qT)).size:=by
  rw[bI,Ux];show room ⟨((2+2* bQ 20:Nat):Int),((20:Nat):Int),((2+2* bQ 20:Nat):Int),0,false⟩ _;rw[Lo]
  decide
 show T W (VL v d 20 pb pj pG (xZ 20) L) (dM (some ⟨v,0,none⟩) (dH qT sT) _);have aa7:gZ 20 pG (xZ 20) (bs (ch qT))=lv (xZ 20) (bs (ch qT)):=by
  unfold gZ;rw[if_pos yX]
 obtain⟨a1,-⟩:=HJ (s:=bs (ch qT)) aay (by decide) (by decide) (by decide) yX;have Ff:tH 20 pG (xZ 20) qT=((vX 20 pG (xZ 20) qT).1,pG.time 5,0,[],[],[]):=by
  unfold tH vX;rw[if_pos XI,if_neg (by rw[hqw];decide),if_neg (by decide),aa7,if_neg (λhh=>hh a1),Ly]
 refine So (s:=sT) G np (Mm.ok (by decide)) (Fq Mm (by decide) (by decide) (by decide) uk np) (by decide) (by decide) ⟨oe.nil,oe.nil,oe.nil,ad4 _,ad4 _,ad4 _⟩ (λa ha=>by cases ha) (λt ht=>by cases ht) (by decide) (by decide) λrb rc ab ac tb tc UP=>?_;rcases MN (q:=qT) Mm (by decide) (by decide) (by decide) uk np hqw XI (λa ha=>by cases ha) (λt ht=>by cases ht) with⟨b1,b2,b3⟩|⟨e,b0,b1,-⟩|⟨b1,-⟩
 rotate_left
 ·have:=congrArg (λx=>x.2.1) b1;have h2:=congrArg (λx=>x.2.2.1) Ff;unfold tH at h2;rw[if_pos XI] at h2;dsimp only at this h2;rw[this] at h2;omega
 ·have:=congrArg (λx=>x.2.1) b1;have h2:=congrArg (λx=>x.2.2.1) Ff;unfold tH at h2;rw[if_pos XI] at h2;dsimp only at this h2;rw[this] at h2;cases h2
 rw[Ff];generalize (vX 20 pG (xZ 20) qT).1=S2 at b2 b3⊢;rw[Ly] at b2;obtain⟨Hw,hd,mb,qs,hvg,N0,htu⟩:=b2;dsimp only at N0;refine xF (by rfl) ?_;apply ws;intros;rename_i r1;refine T.perm (L:=dK d S2.D::Sep.pt r1 (nM 0 rb 0 rc ab 0 ac tb 0 tc)::own rb 0 rc 1 []::own ab 0 ac 14 []::own tb 0 tc 16 []::Sep.pt v (vC d 20 pb pj S2.aF S2.cR)::bj pb (bo (pG.time 5),[])::jP d pj S2.J::L) ?_ (ad7 (l₁:=[_,_,_,_,_,_,_]) (l₂:=[_])|>.append_right L);refine wm G (by decide) (by decide) hvg (by decide) λv2 pb2 pj2 adJ=>?_;rw[N0];apply ws;intros;unfold cB.j1;refine jN (by decide) ?_;refine Fv λp4=>?_;refine vr ?_;refine Fe (p:=p4) ?_;refine lA ?_;refine jN (by decide) ?_;refine T.drop ?_;refine TC ?_;refine lA ?_;have e1:(S2.J.seq==1)=true:=by rw[b3];rfl
 dsimp only;rw[e1];refine T.sub h ?_;exact lW
end
def wE{α σ:Type}(f:σ->α->Int×σ)(lk:α->Bool):∀(n:Nat)(s:σ)(l:List α),(eQ f lk n s l).1.length<=l.length
 |0,s,l=>ad6 _
 |n+1,s,[]=>ad6 _
 |n+1,s,x::l=>by
  have hle:=te (linked:=lk) (x::l);have hd:((x::l).drop (bl lk (x::l)).1).length=(x::l).length-(bl lk (x::l)).1:=ad9;rw[eQ];by_cases hw:(bl lk (x::l)).2=false
  ·rw[if_pos hw];dsimp only;rw[jE];exact hle
  rw[if_neg hw];cases fr f s ((x::l).take (bl lk (x::l)).1) 0 with
  |mk o s'=>
   cases o with
   |none=>
    have:=wE f lk n s' ((x::l).drop (bl lk (x::l)).1);dsimp only;rw[ad0,jE];omega
   |some e=>
    have:=wE f lk n s ((x::l).drop (bl lk (x::l)).1);dsimp only;rw[ad0,jE];omega
def ID(m:Model)(q:ig):(aE m q).2.1.length<=q.ah.length+q.aT.length:=by
 unfold aE;split
 ·exact ad6 _
 ·split
  ·have:=wE Model.make wU q.ah.length m q.ah;dsimp only;omega
  ·split
   ·have:=wE Model.ov wT q.aT.length m q.aT;dsimp only;omega
   ·exact ad6 _
def Out.short{m m2:Model}{q:ig}{e:Int}{res:List Int}{al:List aO}{tl:List Move}(h:Out m q e res al tl m2)(hg:Good (bo m))(hl:q.ah.length+q.aT.length<=150)(hi:q.ids.length<=100):res.length<=10000/\al.length<=10000/\tl.length<=10000:=by
 cases h with
 |ask hx=>
  have:q.ids.length<=16\/kX q=false\/q.op=6:=by
   by_cases h1:kX q=false
   ·exact .inr (.inl h1)
   ·by_cases h6:q.op=6
    ·exact .inr (.inr h6)
    ·left
     have Ac:kX q=true:=by simpa using h1
     unfold kX at Ac;by_cases My:q.op=4\/q.op=5
     ·rw[if_pos My,aeR,decide_eq_true_eq,decide_eq_true_eq] at Ac;exact Ac.2
     ·rw[if_neg My,if_neg h6] at Ac;cases Ac
  obtain⟨h1,h2⟩:=RW hg this;exact⟨ad6 _,h1,h2⟩
 |bad _ _=>simp
 |done _ _ _=>
  have:=ID m q;exact⟨by omega,ad6 _,ad6 _⟩
 |not _ _ _ _=>simp
section
variable {W:World} {L R M:LH} {K:VK} {X:WK} {q:ig} {s:rE} {p p2 v d n pb pj:Nat} {m m2 m3:Model} {mb kb mb' kb':OA} {mc kc mc' kc':Nat} {S S2:VS} {D:aw} {J:PJ} {g:Nat}
end
section
variable {W:World} {L R M:LH} {K:VK} {X:WK} {q:ig} {s:rE} {p p2 v d n pb pj:Nat} {m m2 m3:Model} {mb kb mb' kb':OA} {mc kc mc' kc':Nat} {S S2:VS} {D:aw} {J:PJ} {g:Nat}
end
def VH(m:Model)(q:ig):(ask m q).1=0\/(ask m q).1=1:=by
 unfold ask;split
 ·exact .inr rfl
 ·split
  ·exact .inl rfl
  ·split<;>exact .inl rfl
def VZ(n:Nat)(S:VS)(m:Model)(g:Nat):Prop:=VW n S m g\/∃mf,VX n S m mf g
section
variable {n g g':Nat} {S:VS} {m mf:Model} {q:ig}
def VX.save(h:VX n S m mf g){m2:Model}:iI n m2 S=(S,9):=by
 unfold iI;rw[if_pos h.cR]
def VZ.vok(h:VZ n S m g)(hg:g<256):MC S:=by
 rcases h with h|⟨mf,h⟩
 ·exact h.ok hg
 ·exact h.ok
def VZ.aad(h:VZ n S m g)(km:12<=n)(bN:n<=4096)(hg:g+2<256)(fU:Good (bo m))(pT:Md.Ground m):MC (iI n m S).1:=by
 rcases h with h|⟨mf,h⟩
 ·exact Fq h km bN hg fU pT
 ·rw[h.save];exact h.ok
def Vu(h:VZ n S m g)(km:12<=n)(bN:n<=4096)(hg:g+3<256)(fU:Good (bo m))(pT:Md.Ground m)(hA:∀a∈q.ah,vn a)(hT:∀t∈q.aT,u3 t):
 Out m q (tH n m S q).2.2.1 (tH n m S q).2.2.2.1 (tH n m S q).2.2.2.2.1 (tH n m S q).2.2.2.2.2 (tH n m S q).2.1/\
 ((S.cR=false/\VW n (tH n m S q).1 (tH n m S q).2.1 (g+3)/\(tH n m S q).2.2.1≠8)\/
  (S.cR=false/\(tH n m S q).2.2.1=8/\cz q=true/\gQ q=true/\(tH n m S q).2.1=m/\VX n (tH n m S q).1 m (aE m q).2.2 (g+3))\/
  (S.cR=true/\(tH n m S q).1=S/\(tH n m S q).2.1=m/\(tH n m S q).2.2.1≠8/\(cz q=true->(tH n m S q).2.2.1≠0)/\(cz q=true->gQ q=true->(tH n m S q).2.2.1=9))):=by
 have Hw:S.cR=false/\VW n S m g\/S.cR=true/\∃mf,VX n S m mf g:=by
  rcases h with h|⟨mf,h⟩
  ·exact .inl ⟨h.cR,h⟩
  ·exact .inr ⟨h.cR,mf,h⟩
 unfold tH;cases he:cz q with
 |false=>
  rw[if_neg (by decide)];have ha:=VH m q;refine⟨.ask he,?_⟩;rcases Hw with⟨h1,h2⟩|⟨h1,h2⟩
  ·exact .inl ⟨h1,h2.mono (by omega),by show(ask m q).1≠8;omega⟩
  ·exact .inr (.inr ⟨h1,rfl,rfl,by show(ask m q).1≠8;omega,λhh=>(by cases hh),λhh=>(by cases hh)⟩)
 |true=>
  rw[if_pos rfl];dsimp only;cases hw:gQ q with
  |false=>
   have e:vX n m S q=(S,m,1,[]):=by unfold vX;rw[if_pos hw]
   rw[e];refine⟨.bad he hw,?_⟩;rcases Hw with⟨h1,h2⟩|⟨h1,h2⟩
   ·exact .inl ⟨h1,h2.mono (by omega),by show(1:Int)≠8;decide⟩
   ·exact .inr (.inr ⟨h1,rfl,rfl,by show(1:Int)≠8;decide,λ_=>by show(1:Int)≠0;decide,λ_ hh=>(by cases hh)⟩)
  |true=>
   rcases Hw with⟨h1,h2⟩|⟨h1,h2⟩
   ·have ez:=GV (m:=m) hw he;rcases MN h2 km bN hg fU pT hw he hA hT with⟨a,b,-⟩|⟨x,hx,a,b,-⟩|⟨a,b,-⟩
    ·rw[a];dsimp only;rw[ez];exact⟨.done he hw ez,.inl ⟨h1,b,by decide⟩⟩
    ·rw[a];dsimp only;exact⟨.not he hw x (by omega),.inl ⟨h1,b,by omega⟩⟩
    ·rw[a];dsimp only;exact⟨.not he hw 8 (by omega),.inr (.inl ⟨h1,rfl,rfl,rfl,rfl,b⟩)⟩
   ·have e:vX n m S q=(S,m,9,[]):=by unfold vX;rw[if_neg (by rw[hw];decide),if_pos h1]
    rw[e];exact⟨.not he hw 9 (by omega),.inr (.inr ⟨h1,rfl,rfl,by show(9:Int)≠8;decide,λ_=>by show(9:Int)≠0;decide,λ_ _=>rfl⟩)⟩
end
section
variable {W:World} {L R R0 R' M:LH} {K:VK} {X:WK} {q:ig} {s:rE} {p p2 v d n pb pj:Nat} {m m2 m3:Model} {mb kb mb' kb':OA} {mc kc mc' kc':Nat} {S S2:VS} {D:aw} {J:PJ} {g:Nat} {f:aw->LH}
end
def DX(a:aO):aO:={a with dp:=0,dq:=0,cp:=0,cq:=0,flags:=a.flags%8}
def Fx{l:List Kept}{a:aO}(h:a.dp=0/\a.dq=0/\a.cp=0/\a.cq=0/\0<=a.flags/\a.flags<8):DX (Md.full l a)=a:=by
 obtain⟨h1,h2,h3,h4,h5,h6⟩:=h;cases a
 simp only[DX,Md.full] at *;subst h1 h2 h3 h4
 congr 1
 split<;>omega
def sn.model{m m2:Model}(h:sn m m2)(g:Md.Ground m)(g2:Md.Ground m2):m=m2:=by
 obtain⟨h1,h2,h3,h4⟩:=h;have e:∀m:Model,Md.Ground m->(bo m).ah.map DX=m.made:=λm g=>by
  show(m.made.map (Md.full m.kept)).map DX=m.made;rw[afx]
  conv=>rhs;rw[<-List.map_id m.made]
  exact ae6 λa ha=>Fx (g.zero a ha)
 have h5:=e m g;rw[h1,e m2 g2] at h5;cases m
 cases m2
 dsimp only at h2 h3 h4 h5;subst h2 h3 h4 h5
 rfl
def KI(n:Nat)(S:VS)(m mf:Model)(g:Nat):Prop:=(VW n S m g/\mf=m)\/VX n S m mf g
section
variable {W:World} {L R R0 R' M:LH} {K:VK} {X:WK} {q:ig} {s:rE} {p p2 v d n pb pj:Nat} {m m2 m3 mf:Model} {mb kb mb' kb':OA} {mc kc mc' kc':Nat} {S S2:VS} {D:aw} {J:PJ} {g:Nat} {f:aw->LH}
def Fl(p:Nat)(m:Model)(pf:Nat)(mf:Model)(L R':LH):Prop:=(pf=p/\mf=m/\R'=L)\/∃fb fc gb gc,R'=ML pf mf fb fc gb gc L
def Fl.drop{pf:Nat}(h:Fl p m pf mf L R')(hx:T W L X):T W R' X:=by
 rcases h with⟨_,_,rfl⟩|⟨fb,fc,gb,gc,rfl⟩
 ·exact hx
 ·exact T.drop (T.drop (T.drop hx))
def T.re6{M1 M2 M3 O1 O2 O3 A V B J D:HP}(h:T W (M1::M2::M3::O1::O2::O3::A::V::B::J::D::R) X):T W (A::O1::O2::O3::V::B::J::D::M1::M2::M3::R) X:=
 T.perm h ((ad7 (l₁:=[A,O1,O2,O3,V,B,J,D]) (l₂:=[M1,M2,M3])|>.append_right R).trans ((ad7 (l₁:=[A]) (l₂:=[O1,O2,O3])|>.append_right (V::B::J::D::R)).append_left [M1,M2,M3]))
def T.re7{A C1 C2 C3 C4 C5 C6 C7:HP}(h:T W (C1::C2::C3::C4::C5::C6::C7::A::R) X):T W (A::C1::C2::C3::C4::C5::C6::C7::R) X:=
 T.perm h (ad7 (l₁:=[A]) (l₂:=[C1,C2,C3,C4,C5,C6,C7])|>.append_right R)
def NV{x:DT}{I1:LI}{mH:LM}{r2 pf:Nat}{p3 p4 p5 p6 sb:OA}{ln sc:Nat}{n3 n4:Int}{w2:World}(fU:Good (bo m))(pT:Md.Ground m)
 (h1: ¬((x.kind=0/\cz x.q=true/\S.cR=false)\/x.kind=2)->T W (VL v d n pb pj m S (ML p m mb mc kb kc (Sep.pt r2 (jb x)::R))) (ct I1 mH [.bool false,.p p3,.p (some (ad v 0)),.p (some (ad p 0)),.p (some (ad pf 0)),.l sb ln sc,.i n3,.i (adU.wrap (n4+1))] [.bool false,.p p3,.p p4,.p p5,.p p6,.l sb ln sc,.i n3,.i n4] w2))
 (h2:((x.kind=0/\cz x.q=true/\S.cR=false)\/x.kind=2)->T W (VL v d n pb pj m S (ML p m mb mc kb kc (Sep.pt r2 (jb x)::R))) (ct I1 mH [.bool false,.p p3,.p (some (ad v 0)),.p (some (ad p 0)),.p (some (ad p 0)),.l sb ln sc,.i n3,.i (adU.wrap (n4+1))] [.bool false,.p p3,.p p4,.p p5,.p p6,.l sb ln sc,.i n3,.i n4] w2)):
 T W (VL v d n pb pj m S (ML p m mb mc kb kc (Sep.pt r2 (jb x)::R))) (ag.j2 K r2 I1 false p3 sb ln sc n3 n4 mH p4 p5 p6 w2 (some (ad v 0)) (some (ad p 0)) (some (ad pf 0))):=by
 unfold ag.j2;refine Nn fU pT ?_;rw[decide_eq_true (sn.refl m)];apply ws;intros;have j4:∀b:Bool,(b=true↔(x.kind=0/\cz x.q=true/\S.cR=false))->T W (VL v d n pb pj m S (ML p m mb mc kb kc (Sep.pt r2 (jb x)::R))) (ag.j4 K I1 false p3 (some (ad v 0)) (some (ad p 0)) sb ln sc n3 n4 mH p4 p5 p6 w2 r2 (some (ad pf 0)) b):=λb hb=>by
  unfold ag.j4;cases b with
  |true=>exact h2 (.inl (hb.1 rfl))
  |false=>
   apply ws;intros;refine bw (λg1=>?_) (λg1=>?_)
   ·exact h2 (.inr (by simpa using g1))
   ·have g1: ¬x.kind=2:=by simpa using g1
    exact h1 λhh=>hh.elim (λa=>by have:=hb.2 a;cases this) g1
 have j3:∀b:Bool,(b=true↔(x.kind=0/\cz x.q=true))->T W (VL v d n pb pj m S (ML p m mb mc kb kc (Sep.pt r2 (jb x)::R))) (ag.j3 K (some (ad v 0)) I1 false p3 (some (ad p 0)) sb ln sc n3 n4 mH p4 p5 p6 w2 r2 (some (ad pf 0)) b):=λb hb=>by
  unfold ag.j3;cases b with
  |true=>
   apply ws;intros;refine sz ?_;refine nK ?_;refine j4 _ ⟨λhh=>⟨(hb.1 rfl).1,(hb.1 rfl).2,by simpa using hh⟩,λhh=>by rw[hh.2.2];rfl⟩
  |false=>
   apply ws;intros;exact j4 false ⟨λhh=>(by cases hh),λhh=>by have:=hb.2 ⟨hh.1,hh.2.1⟩;cases this⟩
 refine bw (λg1=>?_) (λg1=>?_)
 ·have g1:x.kind=0:=by simpa using g1
  apply ws;intros;refine tY ?_;refine nK ?_;exact j3 _ ⟨λhh=>⟨g1,hh⟩,λhh=>hh.2⟩
 ·have g1: ¬x.kind=0:=by simpa using g1
  exact j3 false ⟨λhh=>(by cases hh),λhh=>absurd hh.1 g1⟩
def QB(G:pE W)(km:12<=n)(bN:n<=4096)(hv:rH n D m g)(hg:g<256)
 (h:∀v pb pj S,VW n S m g->Md.Ground m->T W (VL v d n pb pj m S R) (K (.tuple ⟨[.p (some ⟨v,0,none⟩),.i 0]⟩))):T W (dK d D::R) (eP (some ⟨d,0,none⟩) K):=by
 obtain⟨J,hd,mb,qs,h2,rfl⟩:=hv;exact wm G km bN h2 hg λv pb pj pT=>h v pb pj _ ⟨rfl,hd,mb,qs,h2,rfl,rfl⟩ pT
class Ex(L:LH)(i:Nat)(x:outParam HP)(L':outParam (LH)):Prop where
 is:L.Perm (x::L')
instance{L:LH}{x:HP}:Ex (x::L) 0 x L:=⟨.refl _⟩
instance{L L':LH}{x y:HP}{i:Nat}[h:Ex L i x L']:Ex (y::L) (i+1) x (y::L'):=⟨(h.is.cons y).trans (.swap ..)⟩
class Pl(L:LH)(is:List Nat)(M:outParam (LH)):Prop where
 is:L.Perm M
instance{L:LH}:Pl L [] L:=⟨.refl _⟩
instance{L L' M:LH}{i:Nat}{is:List Nat}{x:HP}[h:Ex L i x L'][g:Pl L' is M]:Pl L (i::is) (x::M):=⟨h.is.trans (g.is.cons x)⟩
def T.pl(is:List Nat)[h:Pl L is M](g:T W M X):T W L X:=T.perm g h.is
def Gq{O1 O2 O3 A V B J D C:HP}{R2:LH}{pf:Nat}(hb:Bk p m mb mc kb kc (O1::O2::O3::A::V::B::J::D::C::R') p2 m2 mb' mc' kb' kc' R2)(z':Fl p m pf mf L R')
 (h:∀R3,Fl p2 m2 pf mf L R3->T W (V::B::J::D::ML p2 m2 mb' mc' kb' kc' (A::C::R3)) X):T W (ML p2 m2 mb' mc' kb' kc' R2) X:=by
 rcases hb with⟨rfl,rfl,rfl,rfl,rfl,rfl,rfl⟩|rfl
 ·refine T.pl [7,7,7,7,0,0,0,3,3] (T.sub (h R' z') ?_);exact lW
 ·rcases z' with⟨rfl,rfl,rfl⟩|⟨fb,fc,gb,gc,rfl⟩
  ·refine T.pl [10,10,10,10,0,0,0,6,6] ?_;refine T.sub (h _ (.inr ⟨mb,mc,kb,kc,rfl⟩)) ?_;exact lW
  ·refine T.pl [10,10,10,10,0,0,0,6,6] (T.sub (h _ (.inr ⟨fb,fc,gb,gc,rfl⟩)) ?_);exact lW
def Out.same{e:Int}{res:List Int}{al:List aO}{tl:List Move}(h:Out m q e res al tl m2)(he:cz q=false):m2=m:=by
 cases h with
 |ask _=>rfl
 |bad _ _=>rfl
 |done h _ _=>rw[he] at h;cases h
 |not _ _ _ _=>rfl
set_option maxHeartbeats 1000000 in
def EZ(G:pE W){sb:OA}{sc:Nat}{l:List DT}{zP:Int}(hr:oe W [] jb 18 sb l)(hl:l.length<=maxLen)(Dv:∀x∈l,Hm W x)(h:T W L (K (.bool true))):T W L (ag zP sb l.length sc K):=by
 unfold ag;refine L9 G ?_;refine nK ?_;refine AB ?_;refine LF hr hl Dv λb hb=>?_;refine nK ?_;have ZO:T W L (ag.j1 K zP sb l.length sc true):=by
  unfold ag.j1;exact h
 cases b with
 |true=>exact ZO
 |false=>
 obtain⟨Tc,aaA⟩:=hb rfl;refine mL ?_;refine dX (λg1=>ZO) (λg1=>?_);by_cases fo:zP>700
 ·rw[decide_eq_true fo];exact ZO
 rw[decide_eq_false fo];clear ZO;obtain⟨n,hn⟩:=ad8 (show 0<=zP by omega);subst hn;have km:12<=n:=by omega
 have bN:n<=4096:=by omega
 unfold ag.j1;refine mL ?_;refine NA λd=>?_;refine vr ?_;refine wm G (n:=n) km bN (E0 km bN) (by decide) λv pb pj pT=>?_;have aat:VW n (xZ n) pG 0:=⟨rfl,_,_,_,E0 km bN,rfl,rfl⟩;show T W (VL v d n pb pj pG (xZ n) L) _;apply ws;intros;refine dO (by decide) ?_;apply ws;intros;rename_i r1;show T W (Sep.pt r1 (Be pG none 0 none 0)::_) _;refine eY (e:=33) ?_;refine eY (e:=14) ?_;refine T.pl (M:=VL v d n pb pj pG (xZ n) (ML r1 pG none 0 none 0 L)) [3,3,3,3,2,0,0] ?_;obtain⟨I1,hI⟩:∃I1:LI,I1=λvv w=>∃(i:Nat)(m mf:Model)(S:VS)(v pb pj p:Nat)(mb:OA)(mc:Nat)(kb:OA)(kc:Nat)(pf:Nat)(R':LH),i<=l.length/\KI n S m mf (3* i)/\Md.Ground m/\(Md.Ground mf/\RM mf)/\Fl p m pf mf L R'/\
  vv=[.bool false,.p (some (ad d 0)),.p (some (ad v 0)),.p (some (ad p 0)),.p (some (ad pf 0)),.l sb l.length sc,.i (l.length:Int),.i (i:Int)]/\St W w (VL v d n pb pj m S (ML p m mb mc kb kc R')):=⟨_,rfl⟩
 obtain⟨mH,ZQ⟩:∃mH:LM,mH=λvs _=>match vs with|[_,_,_,_,_,_,_,.int _ k]=>l.length-k.toNat|_=>0:=⟨_,rfl⟩
 intro w jG;refine⟨I1,mH,by rw[hI];exact⟨0,pG,pG,xZ n,v,pb,pj,r1,none,0,none,0,r1,L,ad6 _,.inl ⟨aat,rfl⟩,np,⟨np,RM.sG uk np⟩,.inl ⟨rfl,rfl,rfl⟩,rfl,jG⟩,?_⟩;intro b3 p3 p4 p5 p6 uG pY uF n3 n4 w2 hI2;rw[hI] at hI2;obtain⟨i,m,mf,S,v,pb,pj,p,mb,mc,kb,kc,pf,R',hi,J5,oK,Cu,z',e,fo⟩:=hI2;cases e
 refine T.at ?_ fo;refine mn (p:=pb) (b:=bo m) (hs:=[]) λfU=>?_;refine dX (λg2=>?_) (λg2=>?_)
 rotate_left
 ·refine T.sub (M:=R') (z'.drop h) ?_;exact List.sublist_append_right [_,_,_,_,_,_,_] R'
 have Q8:i<l.length:=by omega
 have e5:=mh i;have gx:=adX Q8;have hx:=Dv _ (aej Q8);have hp:=aaA _ (aej Q8);generalize l[i]=x at gx hx hp;refine kf (R:=[]) hr ⟨by omega,by omega⟩ rfl λa ha=>?_;rw[adY];refine ke (R:=[]) hr ha gx (FK x) ?_;apply ws;intros;rename_i r2;refine T.re7 ?_;have fin:∀{S':VS} {m' mf':Model} {v' pb' pj' p':Nat} {mb':OA} {mc':Nat} {kb':OA} {kc' SE:Nat} {R3:LH},KI n S' m' mf' (3* (i+1))->Md.Ground m'->(Md.Ground mf'/\RM mf')->Fl p' m' SE mf' L R3->T W (VL v' d n pb' pj' m' S' (ML p' m' mb' mc' kb' kc' (Sep.pt r2 (jb x)::R3)))
                                                                                                                                                                      (ct I1 mH [.bool false,.p (some (ad d 0)),.p (some (ad v' 0)),.p (some (ad p' 0)),.p (some (ad SE 0)),.l sb l.length sc,.i (l.length:Int),.i (adU.wrap ((i:Int)+1))] [.bool false,.p (some (ad d 0)),.p (some (ad v 0)),.p (some (ad p 0)),.p (some (ad pf 0)),.l sb l.length sc,.i (l.length:Int),.i (i:Int)] w2):=by
  intro S' m' mf' v' pb' pj' p' mb' mc' kb' kc' SE R3 a1 a2 a3 a4;rw[e5];refine T.sub (M:=VL v' d n pb' pj' m' S' (ML p' m' mb' mc' kb' kc' R3)) (λw5 h5=>⟨?_,?_⟩) (by exact lW)
  ·rw[hI];exact⟨i+1,m',mf',S',v',pb',pj',p',mb',mc',kb',kc',SE,R3,Q8,a1,a2,a3,a4,rfl,h5⟩
  ·rw[ZQ];show l.length-((i+1:Nat):Int).toNat<l.length-(i:Int).toNat;omega
 have main:∀{S':VS} {m' mf':Model} {v' pb' pj' p':Nat} {mb':OA} {mc':Nat} {kb':OA} {kc' SE:Nat} {R3:LH},Good (bo m')->Md.Ground m'->(Md.Ground mf'/\RM mf')->Fl p' m' SE mf' L R3->
  ((VW n S' m' (3* i+3)/\(mf'=m'\/(x.kind=0/\cz x.q=true)\/x.kind=2))\/(VX n S' m' mf' (3* i+3)/\x.kind≠2))->T W (VL v' d n pb' pj' m' S' (ML p' m' mb' mc' kb' kc' (Sep.pt r2 (jb x)::R3)))
  (ag.j2 K r2 I1 false (some (ad d 0)) sb l.length sc (l.length:Int) (i:Int) mH (some (ad v 0)) (some (ad p 0)) (some (ad pf 0)) w2 (some (ad v' 0)) (some (ad p' 0)) (some (ad SE 0))):=by
  intro S' m' mf' v' pb' pj' p' mb' mc' kb' kc' SE R3 a0 a2 a3 a4 a1;refine NV a0 a2 (λhn=>?_) (λhn=>?_)
  ·refine fin ?_ a2 a3 a4;rcases a1 with⟨b1,b2⟩|⟨b1,b2⟩
   ·refine .inl ⟨b1,?_⟩;rcases b2 with b2|b2|b2
    ·exact b2
    ·exact absurd (.inl ⟨b2.1,b2.2,b1.cR⟩) hn
    ·exact absurd (.inr b2) hn
   ·exact .inr b1
  ·refine T.sub (M:=VL v' d n pb' pj' m' S' (ML p' m' mb' mc' kb' kc' (Sep.pt r2 (jb x)::L))) (fin (mf':=m') ?_ a2 ⟨a2,RM.sG a0 a2⟩ (.inl ⟨rfl,rfl,rfl⟩)) ?_
   ·rcases a1 with⟨b1,b2⟩|⟨b1,b2⟩
    ·exact .inl ⟨b1,rfl⟩
    ·rcases hn with hn|hn
     ·have:=b1.cR;rw[hn.2.2] at this;cases this
     ·exact absurd hn b2
   ·rcases a4 with⟨_,_,rfl⟩|⟨fb,fc,gb,gc,rfl⟩
    ·exact lW
    ·exact lW
 have hvz:VZ n S m (3* i):=by
  rcases J5 with⟨a,_⟩|a
  ·exact .inl a
  ·exact .inr ⟨_,a⟩
 have eO:=hvz.vok (by omega);refine bw (λg4=>?_) (λg4=>?_)
 ·have k0:x.kind=0:=by simpa using g4
  apply ws;intros;have Mp:=RM.sG fU oK;obtain⟨o2,o3⟩:=Vu (q:=x.q) hvz km bN (by omega) fU oK hx.ah hx.aT;obtain⟨s1,s2,s3⟩:=o2.short fU hp.1 hp.2;refine So G oK eO (hvz.aad km bN (by omega) fU oK) km bN hx.ZK hx.ah hx.aT (by omega) (by omega) λrb rc ab ac tb tc UP=>?_;generalize tH n m S x.q=Z at o2 o3 s1 s2 s3 UP⊢;refine xF (by rfl) ?_;apply ws;intros;rename_i r3;refine T.re6 ?_;refine P6 fU oK o2 s1 s2 s3 hx.ZK (by omega) (by omega) hx.ah hx.aT λp2 mb' mc' kb' kc' R2 y5=>?_;apply ws;intros;rcases o3 with⟨c1,c2,c3⟩|⟨c1,c2,c3,c4,c5,c6⟩|⟨c1,c2,c3,c4,c5,c6⟩
  ·refine Gq y5 z' λR3 Wv=>?_;refine mn (p:=pb) (b:=bo Z.2.1) (hs:=[]) λUQ=>?_;refine sz ?_;refine nK ?_;rw[c2.cR];unfold ag.j5;apply ws;intros;have e8:(Z.2.2.1==8)=false:=by simpa using c3
   rw[e8];refine mL ?_;refine T.sub (M:=VL v d n pb pj Z.2.1 Z.1 (ML p2 Z.2.1 mb' mc' kb' kc' (Sep.pt r2 (jb x)::R3))) (main UQ UP Cu Wv (.inl ⟨c2,?_⟩)) (by exact lW);cases he:cz x.q with
   |true=>exact .inr (.inl ⟨k0,rfl⟩)
   |false=>
    left
    rw[o2.same he];rcases J5 with⟨_,a⟩|a
    ·exact a
    ·have:=a.cR;rw[c1] at this;cases this
  ·have Lx:∀{X:WK} {M:LH},T W (M++L) X->T W (M++R') X:=λ{X M} hX=>by
    rcases z' with⟨_,_,rfl⟩|⟨fb,fc,gb,gc,rfl⟩
    ·exact hX
    ·refine T.sub hX ?_;exact(List.sublist_append_right [_,_,_] L).append_left M
   rcases y5 with⟨rfl,rfl,GD,rfl,rfl,rfl,rfl⟩|rfl
   ·refine T.pl [7,7,7,7] ?_;refine sz ?_;refine nK ?_;rw[c6.cR];apply ws;intros;rw[c2];refine dO (by rfl) ?_;unfold ag.j5;apply ws;intros;refine jN (by rfl) ?_;apply ws;intros;rw[c5];refine T.pl [4,4,4] ?_;refine Ei Mp hx.ZK.any (by omega) (by omega) (λ_=>hx.ah) (λ_=>hx.aT) λp3 nb nc lb lc ob oc R4 UY Uw=>?_;apply ws;intros;rcases UY with⟨rfl,rfl,XR,rfl,rfl,rfl,rfl⟩|rfl
    ·rw[XR] at c6⊢;refine T.pl [4,4,4,4,0,0,0,5] ?_;refine T.sub (M:=VL v d n pb pj m Z.1 (ML p3 m nb nc lb lc (Sep.pt r2 (jb x)::R'))) ?_ (by exact lW);refine Lx (M:=VL v d n pb pj m Z.1 (ML p3 m nb nc lb lc [Sep.pt r2 (jb x)])) ?_;show T W (VL v d n pb pj m Z.1 (ML p3 m nb nc lb lc (Sep.pt r2 (jb x)::L))) _;exact main (mf':=m) fU oK ⟨oK,Mp⟩ (.inl ⟨rfl,rfl,rfl⟩) (.inr ⟨c6,by omega⟩)
    ·refine T.pl [7,7,7,7,4,4,4,8] ?_;refine T.sub (M:=VL v d n pb pj m Z.1 (ML p2 m mb' mc' kb' kc' (Sep.pt r2 (jb x)::ML p3 (aE m x.q).2.2 nb nc lb lc R'))) ?_ (by exact lW);refine Lx (M:=VL v d n pb pj m Z.1 (ML p2 m mb' mc' kb' kc' (Sep.pt r2 (jb x)::ML p3 (aE m x.q).2.2 nb nc lb lc []))) ?_;show T W (VL v d n pb pj m Z.1 (ML p2 m mb' mc' kb' kc' (Sep.pt r2 (jb x)::ML p3 (aE m x.q).2.2 nb nc lb lc L))) _;exact main fU oK ⟨vj oK x.q,Uw⟩ (.inr ⟨nb,nc,lb,lc,rfl⟩) (.inr ⟨c6,by omega⟩)
   ·refine T.pl [10,10,10,10] ?_;refine sz ?_;refine nK ?_;rw[c6.cR];apply ws;intros;rw[c2];refine dO (by rfl) ?_;unfold ag.j5;apply ws;intros;refine jN (by rfl) ?_;apply ws;intros;rw[c5];refine T.pl [7,7,7] ?_;refine Ei Mp hx.ZK.any (by omega) (by omega) (λ_=>hx.ah) (λ_=>hx.aT) λp3 nb nc lb lc ob oc R4 UY Uw=>?_;apply ws;intros;rcases UY with⟨rfl,rfl,XR,rfl,rfl,rfl,rfl⟩|rfl
    ·rw[XR] at c6⊢;refine T.pl [4,4,4,4,4,4,4,8] ?_;refine T.sub (M:=VL v d n pb pj m Z.1 (ML p2 m mb' mc' kb' kc' (Sep.pt r2 (jb x)::ML p3 m nb nc lb lc R'))) ?_ (by exact lW);refine Lx (M:=VL v d n pb pj m Z.1 (ML p2 m mb' mc' kb' kc' (Sep.pt r2 (jb x)::ML p3 m nb nc lb lc []))) ?_;show T W (VL v d n pb pj m Z.1 (ML p2 m mb' mc' kb' kc' (Sep.pt r2 (jb x)::ML p3 m nb nc lb lc L))) _;exact main fU oK ⟨oK,Mp⟩ (.inr ⟨nb,nc,lb,lc,rfl⟩) (.inr ⟨c6,by omega⟩)
    ·refine T.pl [7,7,7,7,7,7,7,11] ?_;refine T.sub (M:=VL v d n pb pj m Z.1 (ML p2 m mb' mc' kb' kc' (Sep.pt r2 (jb x)::ML p3 (aE m x.q).2.2 nb nc lb lc R'))) ?_ (by exact lW);refine Lx (M:=VL v d n pb pj m Z.1 (ML p2 m mb' mc' kb' kc' (Sep.pt r2 (jb x)::ML p3 (aE m x.q).2.2 nb nc lb lc []))) ?_;show T W (VL v d n pb pj m Z.1 (ML p2 m mb' mc' kb' kc' (Sep.pt r2 (jb x)::ML p3 (aE m x.q).2.2 nb nc lb lc L))) _;exact main fU oK ⟨vj oK x.q,Uw⟩ (.inr ⟨nb,nc,lb,lc,rfl⟩) (.inr ⟨c6,by omega⟩)
  ·refine Gq y5 z' λR3 Wv=>?_;rw[c3] at Wv⊢;rw[c2];have hvx:VX n S m mf (3* i):=by
    rcases J5 with⟨a,_⟩|a
    ·have:=a.cR;rw[c1] at this;cases this
    ·exact a
   refine sz ?_;refine nK ?_;rw[c1];have j5:T W (VL v d n pb pj m S (ML p2 m mb' mc' kb' kc' (Sep.pt r3 (nM Z.2.2.1 rb Z.2.2.2.1.length rc ab Z.2.2.2.2.1.length ac tb Z.2.2.2.2.2.length tc)::Sep.pt r2 (jb x)::R3))) (ag.j5 K r3 r2 (some (ad p 0)) I1 false (some (ad d 0)) sb l.length sc (l.length:Int) (i:Int) mH (some (ad v 0)) (some (ad pf 0)) w2 (some (ad p2 0)) false):=by
    unfold ag.j5;apply ws;intros;have e8:(Z.2.2.1==8)=false:=by simpa using c4
    rw[e8];refine mL ?_;exact T.sub (M:=VL v d n pb pj m S (ML p2 m mb' mc' kb' kc' (Sep.pt r2 (jb x)::R3))) (main fU oK Cu Wv (.inr ⟨hvx.mono (by omega),by omega⟩)) (by exact lW)
   apply ws;intros;refine bw (λg9=>?_) (λg9=>?_)
   ·have g9:Z.2.2.1=0:=by simpa using g9
    apply ws;intros;refine tY ?_;refine nK ?_;cases he:cz x.q with
    |true=>exact absurd g9 (c5 he)
    |false=>exact j5
   ·exact j5
 have k0:x.kind≠0:=by simpa using g4
 refine bw (λg5=>?_) (λg5=>?_)
 ·have k1:x.kind=1:=by simpa using g5
  refine wk ?_;refine lA ?_;refine sz ?_;refine nK ?_;refine O8 eO.ok eO.lu km bN eO.aF ?_;refine lA ?_;have Rp:∀{S':VS} {e:Int} {b:Bool},S'.cR=(e==8||b)->(e=0\/e=9\/e=3\/e=8)->(e=8->b=false)->(e=9->b=true)->((VW n S' m (3* i+3)/\(mf=m\/(x.kind=0/\cz x.q=true)\/x.kind=2))\/(VX n S' m mf (3* i+3)/\x.kind≠2))->
   T W (VL v d n pb pj m S' (ML p m mb mc kb kc (Sep.pt r2 (jb x)::R'))) (ag.j6 K (some (ad v 0)) e b r2 I1 false (some (ad d 0)) sb l.length sc (l.length:Int) (i:Int) mH (some (ad p 0)) (some (ad pf 0)) w2 false):=by
   intro S' e b Hw he h8 h9 hv;have j7:T W (VL v d n pb pj m S' (ML p m mb mc kb kc (Sep.pt r2 (jb x)::R'))) (ag.j7 K (some (ad v 0)) e b r2 I1 false (some (ad d 0)) sb l.length sc (l.length:Int) (i:Int) mH (some (ad p 0)) (some (ad pf 0)) w2 false):=by
    unfold ag.j7;refine mL ?_;refine sz ?_;refine nK ?_;rw[Hw];have mm:=main (v':=v) (pb':=pb) (pj':=pj) (mb':=mb) (mc':=mc) (kb':=kb) (kc':=kc) fU oK Cu z' hv;by_cases e8:e=8
    ·rw[h8 e8,e8];exact mm
    ·have e9:(e==8)=false:=by simpa using e8
     rw[e9];cases b
     ·exact mm
     ·exact mm
   unfold ag.j6;refine mL ?_;rcases he with rfl|rfl|rfl|rfl
   ·exact j7
   ·exact j7
   ·exact j7
   ·exact j7
  rcases J5 with⟨a,b⟩|a
  ·rw[a.cR];rcases Ar a km bN (by omega) fU oK with⟨e0,c,c2,_⟩|⟨e0,c⟩|⟨e0,c,c2,_⟩
   ·rw[e0];refine mL ?_;refine wk ?_;refine lA ?_;have:(S.aF+1==S.aF+1)=true:=beq_self_eq_true _;rw[c2,ar (by have:=eO.aF;omega),this];exact Rp (by rw[c.cR];rfl) (.inl rfl) (λ_=>rfl) (λhh=>by cases hh) (.inl ⟨c.mono (by omega),.inl b⟩)
   ·rw[e0,c];refine mL ?_;refine wk ?_;refine lA ?_;have:(S.aF==adU.wrap (S.aF+1))=false:=by rw[ar (by have:=eO.aF;omega),beq_eq_false_iff_ne];omega
    rw[this];exact Rp (by rw[a.cR];rfl) (.inr (.inr (.inl rfl))) (λ_=>rfl) (λhh=>by cases hh) (.inl ⟨a.mono (by omega),.inl b⟩)
   ·rw[e0];refine mL ?_;refine wk ?_;refine lA ?_;have:(S.aF==adU.wrap (S.aF+1))=false:=by rw[ar (by have:=eO.aF;omega),beq_eq_false_iff_ne];omega
    rw[c2,this];subst b;exact Rp (by rw[c.cR];rfl) (.inr (.inr (.inr rfl))) (λ_=>rfl) (λhh=>by cases hh) (.inr ⟨c.mono (by omega),by omega⟩)
  ·rw[a.save,a.cR];refine mL ?_;refine wk ?_;refine lA ?_;have:(S.aF==adU.wrap (S.aF+1))=false:=by rw[ar (by have:=eO.aF;omega),beq_eq_false_iff_ne];omega
   rw[this];exact Rp (by rw[a.cR];rfl) (.inr (.inl rfl)) (λhh=>by cases hh) (λ_=>rfl) (.inr ⟨a.mono (by omega),by omega⟩)
 refine bw (λg6=>?_) (λg6=>?_)
 ·have k2:x.kind=2:=by simpa using g6
  apply ws;intros;refine Se (d:=d) eO.ok (by have:=eO.lu;omega) ?_;refine wu ?_;have hold:∃m0,(m0=m\/m0=mf)/\rH n (S.D.db x.mask x.torn x.cut) m0 (3* i):=by
   rcases J5 with⟨a,_⟩|a
   ·exact⟨m,.inl rfl,a.db km _ _ _⟩
   ·rcases a.db x.mask x.torn x.cut with b|b
    ·exact⟨m,.inl rfl,b⟩
    ·exact⟨mf,.inr rfl,b⟩
  obtain⟨m0,ZZ,hold⟩:=hold;refine T.pl [3] ?_;refine QB G km bN hold (by omega) λv' pb' pj' S' hw aaN=>?_;apply ws;intros;refine dO (by decide) ?_;refine mn (p:=pb') (b:=bo m0) (hs:=[]) λUR=>?_;have hw:=hw.mono (show 3* i<=3* i+3 by omega);rcases z' with⟨rfl,rfl,rfl⟩|⟨fb,fc,gb,gc,rfl⟩
  ·have ZZ:m0=mf:=by rcases ZZ with h|h<;>exact h
   subst ZZ;refine T.sub (M:=VL v' d n pb' pj' m0 S' (ML pf m0 mb mc kb kc (Sep.pt r2 (jb x)::R'))) ?_ (by exact lW);refine Nn fU oK ?_;rw[decide_eq_true (sn.refl m0)];apply ws;intros;exact main fU oK ⟨oK,RM.sG fU oK⟩ (.inl ⟨rfl,rfl,rfl⟩) (.inl ⟨hw,.inr (.inr k2)⟩)
  ·refine T.pl [0,0,0,0,7,7,7,3,3,3,3] ?_;refine T.sub (M:=VL v' d n pb' pj' m0 S' (ML pf mf fb fc gb gc (ML p m mb mc kb kc (Sep.pt r2 (jb x)::L)))) ?_ (by exact lW);refine Js Cu.2 Cu.1 ?_;by_cases XB:sn mf m0
   ·rw[decide_eq_true XB];have e0:=XB.model Cu.1 aaN;subst e0;apply ws;intros;refine T.sub (M:=VL v' d n pb' pj' mf S' (ML pf mf fb fc gb gc (Sep.pt r2 (jb x)::L))) ?_ (by exact lW);exact main UR Cu.1 Cu (.inl ⟨rfl,rfl,rfl⟩) (.inl ⟨hw,.inr (.inr k2)⟩)
   ·rw[decide_eq_false XB];have e0:m0=m:=by
     rcases ZZ with h|h
     ·exact h
     ·rw[h] at XB;exact absurd (sn.refl mf) XB
    subst e0;apply ws;intros;refine T.sub (M:=VL v' d n pb' pj' m0 S' (ML p m0 mb mc kb kc (Sep.pt r2 (jb x)::L))) ?_ (by exact lW);exact main fU oK ⟨oK,RM.sG fU oK⟩ (.inl ⟨rfl,rfl,rfl⟩) (.inl ⟨hw,.inr (.inr k2)⟩)
 have k2:x.kind≠2:=by simpa using g6
 have same:∀{S':VS},((VW n S m (3* i)->VW n S' m (3* i))/\(VX n S m mf (3* i)->VX n S' m mf (3* i)))->((VW n S' m (3* i+3)/\(mf=m\/(x.kind=0/\cz x.q=true)\/x.kind=2))\/(VX n S' m mf (3* i+3)/\x.kind≠2)):=λhh=>by
  rcases J5 with⟨a,b⟩|a
  ·exact .inl ⟨(hh.1 a).mono (by omega),.inl b⟩
  ·exact .inr ⟨(hh.2 a).mono (by omega),k2⟩
 refine bw (λg7=>?_) (λg7=>?_)
 ·apply ws;intros;refine ZC (d:=d) ?_;refine wu ?_;exact main (S':={S with D:=S.D.tA x.n}) fU oK Cu z' (same ⟨λa=>a.tA km _,λa=>a.tA _⟩)
 ·exact main fU oK Cu z' (same ⟨id,id⟩)
end
end Go.Up
namespace Go.Sep
open Go.Den Go.RowKit Go.ChangeShapes Go.WideShapes
inductive NK where
 |c(k:CK)
 |sl(ks:List CK)
def NK.is(W:World):NK->Value->Prop
 | .c k,v=>k.is v
 | .sl ks,v=>∃b n c xs,v=.slice b n c/\Ro W b n ks.length xs/\Pp ks n xs/\n<=reachBytes/\n<=c
def MD(W:World)(ks:List NK)(cs:LV)(o:Nat):Prop:=∀j k,ks[j]?=some k->∃v,cs[o+j]?=some v/\k.is W v
def K8(P:Program)(f:TypeId->Option (List NK)):Nat->List Field->Option (List NK)
 |_,[]=>some []
 |o,fd::r=>match f fd.type with
  |some a=>if fd.offset=o/\P.cellsOf fd.type=a.length then(K8 P f (o+a.length) r).map (a++·) else none
  |none=>none
def nk(P:Program):Nat->TypeId->Option (List NK)
 |0,_=>none
 |n+1,t=>match P.underlying t with
  |some (.int k)=>some [.c (.i k)]
  |some .bool=>some [.c .b]
  |some (.slice e)=>match flat P n e with
   |some ks=>if P.cellsOf e=ks.length/\0<P.bytesOf e then some [.sl ks] else none
   |none=>none
  |some (.struct fs)=>K8 P (nk P n) 0 fs.toList
  |_=>none
section
variable {H:Type} {enc:TypeId×Value->H} {P:Program} {w:World} {base:Nat} {spare:Nat->Bool} {held:Bool}
def CQ{t e:TypeId}{N m:Nat}{cs:LV}{x:DataW H×List MemPlace}(Q:LV->Nat->Prop)(aaF:∀xs cs o,(∀j,j<N->xs[o+j]?=cs[j]?)->Q cs 0->Q xs o)
 (hQ:∀n' cs x,DataW.trod enc P w base spare held n' e cs=some x->(∀n∈x.1.weights P e,n<=reachBytes)->cs.length=N->Q cs 0)
 (ht:P.underlying t=some (.slice e))(hc:P.cellsOf e=N)(hm:DataW.trod enc P w base spare held m t cs=some x)(hw:∀n∈x.1.weights P t,n<=reachBytes):
 ∃b n c xs,cs=[.slice b n c]/\Ro w b n N xs/\(∀i,i<n->Q xs (i* N))/\n<=maxLen/\n<=c/\n* P.bytesOf e<=reachBytes:=by
 rcases Go.Deep.open_slice ht hm with⟨rfl,rfl⟩|⟨a,n,c,k,n',D,Pl,rfl,hb,hl,hmx,hk,rfl,y4⟩
 ·exact⟨none,0,0,[],rfl,⟨by simp,λ_=>rfl,λa h=>by cases h⟩,λi h=>by omega,by decide,ad4 _,by simp⟩
 ·have hlk:n<=k:=by rw[hk];split<;>omega
  simp only[DataW.weights,ht] at hw;have l9:∀i,i<n->∀j,j<N->∃v,w.cell? (a.add (i* N+j))=some v:=λi hi j hj=>by
   obtain⟨rB,h1,h2⟩:=y4 i (by omega);obtain⟨_,h3,h4⟩:=World.cells?_some h1;rw[hc] at h3 h4;refine⟨rB[j],?_⟩;rw[<-add_add,h4 j hj];simp[h3,hj]
  have xd:∀j,j<n* N->∃v,w.cell? (a.add j)=some v:=λj hj=>by
   have Gx:0<N:=by
    cases hks:N with
    |zero=>rw[hks] at hj;omega
    |succ x=>omega
   have h1:j/N<n:=by rw[Nat.div_lt_iff_lt_mul Gx];exact hj
   have h2:j%N<N:=Nat.mod_lt _ Gx;obtain⟨v,hv⟩:=l9 _ h1 _ h2;refine⟨v,?_⟩;rw[<-hv];congr 2;have:=Nat.div_add_mod j N;rw[afv] at this;omega
  refine⟨some a,n,c,(aft (n* N)).map λj=>(w.cell? (a.add j)).getD (.bool false),rfl,⟨by simp,λh=>(by cases h),λa' ha' j v hv=>?_⟩,λi hi=>?_,by omega,hl,?_⟩
  ·cases ha'
   rw[aeJ,Option.map_eq_some_iff] at hv;obtain⟨j',HA,rfl⟩:=hv;obtain⟨aZ,rfl⟩:=adZ.1 HA;simp only[List.length_range] at aZ;simp only[List.getElem_range];obtain⟨v,hv⟩:=xd j aZ;rw[hv];rfl
  ·obtain⟨rB,h1,h2⟩:=y4 i (by omega);obtain⟨_,h3,h4⟩:=World.cells?_some h1;rw[hc] at h3 h4;refine aaF _ rB _ (λj hj=>?_) (hQ n' rB (D i,Pl i) h2 (λx hx=>hw x (by
    simp only[afe,aeB]
    refine .inr (.inl (tL ?_ x hx))
    exact aeI.2 ⟨i,List.mem_range.2 hi,rfl⟩)) h3)
   have aZ:i* N+j<n* N:=by
    have:(i+1)* N<=n* N:=aeL _ hi;rw[afl] at this;omega
   have hv:=h4 j hj;rw[aeJ,afq aZ,aeK,<-add_add,hv];simp[h3,hj]
  ·have:=hw _ (List.mem_cons_self);simp only[aen,List.length_range] at this;exact Nat.le_trans (aeL _ (by omega)) this
def Typed.loc{ks:List CK}{xs cs:LV}{o:Nat}(h:∀j,j<ks.length->xs[o+j]?=cs[j]?)(ht:Typed ks cs 0):Typed ks xs o:=λj k hk=>by
 obtain⟨v,hv,hi⟩:=ht j k hk;exact⟨v,by rw[h j (adZ.1 hk).1,<-hv,ad1],hi⟩
def MD.loc{W:World}{ks:List NK}{xs cs:LV}{o:Nat}(h:∀j,j<ks.length->xs[o+j]?=cs[j]?)(ht:MD W ks cs 0):MD W ks xs o:=λj k hk=>by
 obtain⟨v,hv,hi⟩:=ht j k hk;exact⟨v,by rw[h j (adZ.1 hk).1,<-hv,ad1],hi⟩
def Bc{f:TypeId->Option (List NK)}{m:Nat}{cs:LV}
 (hf:∀t ks cs x,f t=some ks->DataW.trod enc P w base spare held m t cs=some x->(∀n∈x.1.weights P t,n<=reachBytes)->MD w ks cs 0):
 ∀(fs:List Field)(o:Nat)(ks:List NK)(xs:List (DataW H×List MemPlace)),K8 P f o fs=some ks->
  (∀(i:Nat)(fd:Field),fs[i]?=some fd->DataW.trod enc P w base spare held m fd.type ((cs.drop fd.offset).take (P.cellsOf fd.type))=xs[i]?)->xs.length=fs.length->
  (∀n∈DataW.weightsEach P (fs.map (·.type)) (xs.map (·.1)),n<=reachBytes)->MD w ks cs o
 |[],o,ks,xs,h,_,_,_=>by
  simp only[K8,aeh.injEq] at h;subst h;intro j k hj;simp at hj
 |fd::r,o,ks,[],h,hx,hl,hw=>by simp at hl
 |fd::r,o,ks,x::xs,h,hx,hl,hw=>by
  simp only[K8] at h;cases ha:f fd.type with
  |none=>simp[ha] at h
  |some a=>
   simp only[ha] at h;split at h
   ·rename_i hc;cases hb:K8 P f (o+a.length) r with
    |none=>simp[hb] at h
    |some b=>
     simp only[hb,aeK,aeh.injEq] at h;subst h;simp only[aez,DataW.weightsEach,aeB] at hw;have h1:=hf fd.type a _ x ha (by have:=hx 0 fd rfl;simpa using this) (λn hn=>hw n (.inl hn));have h2:=Bc hf r (o+a.length) b xs hb (λi g hg=>by have:=hx (i+1) g (by simpa using hg);simpa using this) (by simpa using hl) (λn hn=>hw n (.inr hn));intro j k hj;by_cases UN:j<a.length
     ·rw[ael UN] at hj;obtain⟨v,hv,hk⟩:=h1 j k hj;refine⟨v,?_,hk⟩;rw[hc.1,hc.2,ad1,List.getElem?_take_of_lt UN,afd] at hv;exact hv
     ·rw[aey (by omega)] at hj;obtain⟨v,hv,hk⟩:=h2 (j-a.length) k hj;refine⟨v,?_,hk⟩;rw[show o+j=o+a.length+(j-a.length) from by omega];exact hv
   ·cases h
def Ge:∀(f:Nat)(m:Nat)(t:TypeId)(ks:List NK)(cs:LV)(x:DataW H×List MemPlace),nk P f t=some ks->DataW.trod enc P w base spare held m t cs=some x->
 (∀n∈x.1.weights P t,n<=reachBytes)->MD w ks cs 0
 |0,_,_,_,_,_,h,_,_=>by simp[nk] at h
 |f+1,m,t,ks,cs,x,h,hx,hw=>by
  have one:∀(a:NK) v,a.is w v->MD w [a] [v] 0:=λa v ha j k hj=>by
   cases j with
   |zero=>simp at hj;subst hj;exact⟨_,rfl,ha⟩
   |succ j=>simp at hj
  unfold nk at h;split at h
  ·rename_i k ht;cases h
   obtain⟨n,rfl,rfl,hwf⟩:=DataW.trod_int ht hx;exact one _ _ ⟨n,rfl,hwf⟩
  ·rename_i ht;cases h
   obtain⟨n,rfl,rfl⟩:=DataW.trod_bool ht hx;exact one _ _ ⟨n,rfl⟩
  ·rename_i e ht;split at h
   ·rename_i ks' hk;split at h
    ·rename_i hc;cases h
     obtain⟨b,n,c,xs,rfl,h1,h2,h3,h4,h5⟩:=CQ (Typed ks') (λ_ _ _ a b=>b.loc a) (λn' cs x h1 h2 _=>Bz f n' e ks' cs x hk h1 h2) ht hc.1 hx hw;exact one _ _ ⟨b,n,c,xs,rfl,h1,h2,Nat.le_trans (Nat.le_mul_of_pos_right n hc.2) h5,h4⟩
    ·cases h
   ·cases h
  ·rename_i fs ht;obtain⟨xs,n,rfl,rfl,hl,hlen,hf⟩:=DataW.trod_struct ht hx;refine Bc (m:=n) (λt ks cs x h1 h2 h3=>Ge f n t ks cs x h1 h2 h3) fs.toList 0 ks xs h (λi fd hi=>hf i fd (by simpa using hi)) (by simpa using hlen) (λn hn=>hw n ?_);simp only[DataW.weights,ht];exact hn
  ·cases h
def K2{t e:TypeId}{f:Nat}{ks:List NK}{v:Value}{r:Reach}{b0:Nat}{d:DataW H}{ps:List MemPlace}(ht:P.underlying t=some (.slice e))(he:nk P f e=some ks)(hc:P.cellsOf e=ks.length)
 (Bq:Value.okWide P w r b0 t v)(hd:DataW.Trod enc P w base spare held t v d ps)(hw:∀n∈d.weights P t,n<=reachBytes):
 ∃b n c xs,v=.slice b n c/\Ro w b n ks.length xs/\(∀i,i<n->MD w ks xs (i* ks.length))/\n<=maxLen/\n<=c:=by
 obtain⟨b,n,c,rfl⟩:=okWide_slice ht Bq;obtain⟨m,hm⟩:=hd;obtain⟨b',n',c',xs,h0,h1⟩:=CQ (MD w ks) (λ_ _ _ a b=>b.loc a) (λn' cs x h1 h2 _=>Ge f n' e ks cs x he h1 h2) ht hc hm hw;simp[Value.cells] at h0;obtain⟨rfl,rfl,rfl⟩:=h0;exact⟨b,n,c,xs,rfl,h1.1,h1.2.1,h1.2.2.1,h1.2.2.2.1⟩
end
end Go.Sep
namespace Go.Up
open Go.Sep Go.Den Go.RowKit Go.Prog Go.Md Go.bA
abbrev kU:CK:=.i .u64
abbrev kI:CK:=.i .i64
def R5:List CK:=[kU,kU,kU,kU,kU,kU,kU,kU,kU,kU,kI,kI,kI,kI]
def QM:List CK:=[kU,kU,kU,kU,kU,kU,kU,kU,kU,kU,kI,kI,kI,kI,kI,kI]
def aap:List NK:=[.c kI,.sl R5,.sl QM,.c kI,.sl [kU,kU],.c kU,.c kU,.c kI,.c kI,.c .b,.c .b,.c .b,.c kI]
def KB:List NK:=.c kI::(aap++[.c kU,.c kI,.c kI,.c kI])
def Zk{xs:LV}{o j:Nat}{u v:Value}(h0:xs[o+j]?=some u)(h1:xs[o+(j+1)]?=some v)(hu:kU.is u)(hv:kU.is v):∃n,n<aJ/\xs[o+j]?=(nm n)[0]?/\xs[o+(j+1)]?=(nm n)[1]?:=by
 obtain⟨a,rfl,ha⟩:=hu;obtain⟨b,rfl,hb⟩:=hv;simp[Lit.wf,IntKind.min,IntKind.max,IntKind.signed,IntKind.bits] at ha hb;obtain⟨x,rfl⟩:=ad8 (show 0<=a by omega);obtain⟨y,rfl⟩:=ad8 (show 0<=b by omega);refine⟨x* 18446744073709551616+y,by unfold aJ;omega,?_,?_⟩
 ·rw[h0];show _=some (Value.int .u64 (((x* 18446744073709551616+y)/18446744073709551616:Nat):Int));rw[show(x* 18446744073709551616+y)/18446744073709551616=x from by omega]
 ·rw[h1];show _=some (Value.int .u64 (((x* 18446744073709551616+y)%18446744073709551616:Nat):Int));rw[show(x* 18446744073709551616+y)%18446744073709551616=y from by omega]
def acY{v:Value}(hv:kI.is v):∃n,v=.i n/\rl n:=by
 obtain⟨n,rfl,hn⟩:=hv;refine⟨n,rfl,?_⟩;simp[Lit.wf,IntKind.min,IntKind.max,IntKind.signed,IntKind.bits] at hn;unfold rl;omega
section
variable {xs:LV} {o j:Nat}
def Bw{ks:List CK}(h:Typed ks xs o)(a:ks[j]?=some kU)(b:ks[j+1]?=some kU):∃n,n<aJ/\xs[o+j]?=(nm n)[0]?/\xs[o+(j+1)]?=(nm n)[1]?:=by
 obtain⟨u,hu,h1⟩:=h _ _ a;obtain⟨v,hv,h2⟩:=h _ _ b;exact Zk hu hv h1 h2
def Cx{ks:List CK}(h:Typed ks xs o)(a:ks[j]?=some kI):∃n,xs[o+j]?=some (.i n)/\rl n:=by
 obtain⟨v,hv,h1⟩:=h _ _ a;obtain⟨n,rfl,hn⟩:=acY h1;exact⟨n,hv,hn⟩
def abc(h:Typed R5 xs o):∃a,vn a/\∀j,j<R5.length->xs[o+j]?=(ak a)[j]?:=by
 obtain⟨n0,b0,p0,q0⟩:=Bw (j:=0) h rfl rfl;obtain⟨n1,b1,p1,q1⟩:=Bw (j:=2) h rfl rfl;obtain⟨n2,b2,p2,q2⟩:=Bw (j:=4) h rfl rfl;obtain⟨n3,b3,p3,q3⟩:=Bw (j:=6) h rfl rfl;obtain⟨n4,b4,p4,q4⟩:=Bw (j:=8) h rfl rfl;obtain⟨i0,r0,s0⟩:=Cx (j:=10) h rfl;obtain⟨i1,r1,s1⟩:=Cx (j:=11) h rfl;obtain⟨i2,r2,s2⟩:=Cx (j:=12) h rfl;obtain⟨i3,r3,s3⟩:=Cx (j:=13) h rfl;refine⟨⟨n0,n1,n2,n3,n4,i0,i1,i2,i3⟩,⟨b0,b1,b2,b3,b4,s0,s1,s2,s3⟩,λj hj=>?_⟩
 match j,hj with
 |0,_=>exact p0
 |1,_=>exact q0
 |2,_=>exact p1
 |3,_=>exact q1
 |4,_=>exact p2
 |5,_=>exact q2
 |6,_=>exact p3
 |7,_=>exact q3
 |8,_=>exact p4
 |9,_=>exact q4
 |10,_=>exact r0
 |11,_=>exact r1
 |12,_=>exact r2
 |13,_=>exact r3
 |j+14,h=>exact absurd h (by simp[R5])
def abb(h:Typed QM xs o):∃a,u3 a/\∀j,j<QM.length->xs[o+j]?=(aj a)[j]?:=by
 obtain⟨n0,b0,p0,q0⟩:=Bw (j:=0) h rfl rfl;obtain⟨n1,b1,p1,q1⟩:=Bw (j:=2) h rfl rfl;obtain⟨n2,b2,p2,q2⟩:=Bw (j:=4) h rfl rfl;obtain⟨n3,b3,p3,q3⟩:=Bw (j:=6) h rfl rfl;obtain⟨n4,b4,p4,q4⟩:=Bw (j:=8) h rfl rfl;obtain⟨i0,r0,s0⟩:=Cx (j:=10) h rfl;obtain⟨i1,r1,s1⟩:=Cx (j:=11) h rfl;obtain⟨i2,r2,s2⟩:=Cx (j:=12) h rfl;obtain⟨i3,r3,s3⟩:=Cx (j:=13) h rfl;obtain⟨i4,r4,s4⟩:=Cx (j:=14) h rfl;obtain⟨i5,r5,s5⟩:=Cx (j:=15) h rfl;refine⟨⟨n0,n1,n2,n3,n4,i0,i1,i2,i3,i4,i5⟩,⟨b0,b1,b2,b3,b4,s0,s1,s2,s3,s4,s5⟩,λj hj=>?_⟩
 match j,hj with
 |0,_=>exact p0
 |1,_=>exact q0
 |2,_=>exact p1
 |3,_=>exact q1
 |4,_=>exact p2
 |5,_=>exact q2
 |6,_=>exact p3
 |7,_=>exact q3
 |8,_=>exact p4
 |9,_=>exact q4
 |10,_=>exact r0
 |11,_=>exact r1
 |12,_=>exact r2
 |13,_=>exact r3
 |14,_=>exact r4
 |15,_=>exact r5
 |j+16,h=>exact absurd h (by simp[QM])
def gNm(h:Typed [kU,kU] xs o):∃n,n<aJ/\∀j,j<2->xs[o+j]?=(nm n)[j]?:=by
 obtain⟨n,b,p,q⟩:=Bw (j:=0) h rfl rfl;refine⟨n,b,λj hj=>?_⟩
 match j,hj with
 |0,_=>exact p
 |1,_=>exact q
end
def SD{α:Type}{W:World}{b:OA}{n e:Nat}{xs:LV}{g:α->LV}{l:List α}(hr:Ro W b n e xs)(hn:l.length=n)(hg:∀a,(g a).length=e)
 (hx:∀i a,l[i]?=some a->∀j,j<e->xs[i* e+j]?=(g a)[j]?):oe W [] g e b l:=λw hw i x hi=>by
 have aZ:=(adZ.1 hi).1;cases b with
 |none=>have:=hr.2.1 rfl;omega
 |some a=>
  refine⟨a,rfl,λj v hv=>?_⟩;have hj:j<e:=by rw[<-hg x];exact(adZ.1 hv).1
  rw[add_add];exact hr.cell rfl hw (by rw[hx i x hi j hj];exact hv)
def GO{α:Type}{g:α->LV}{e:Nat}(hg:∀a,(g a).length=e):∀{l:List α} {i:Nat} {a:α} {j:Nat},l[i]?=some a->j<e->(l.flatMap g)[i* e+j]?=(g a)[j]?
 |[],i,a,j,h,_=>by simp at h
 |x::l,0,a,j,h,hj=>by
  simp at h;subst h;rw[aeN,Nat.zero_mul,ad1,ael (by rw[hg];exact hj)]
 |x::l,i+1,a,j,h,hj=>by
  rw[aed] at h;rw[aeN,afl,Nat.one_mul,aey (by rw[hg];omega),hg,show i* e+e+j-e=i* e+j from by omega];exact GO hg h hj
def Eb{α:Type}{W:World}{b:OA}{n e:Nat}{xs:LV}{g:α->LV}{ks:List CK}(q:α->Prop)(hk:ks.length=e)(hr:Ro W b n e xs)(he:Pp ks n xs)(hg:∀a,(g a).length=e)
 (dec:∀o,Typed ks xs o->∃a,q a/\∀j,j<ks.length->xs[o+j]?=(g a)[j]?):∃l:List α,l.length=n/\oe W [] g e b l/\∀a∈l,q a:=by
 subst hk;obtain⟨l,h1,h2,h3⟩:=IE g q hg dec he hr.1;exact⟨l,h1,SD hr h1 hg λi a hi j hj=>by rw[h2];exact GO hg hi hj,h3⟩
def aba{W:World}{xs:LV}{o:Nat}(h:MD W KB xs o):∃x:DT,Hm W x/\∀j,j<18->xs[o+j]?=(jb x)[j]?:=by
 have gi:∀j,KB[j]?=some (.c kI)->∃n,xs[o+j]?=some (.i n):=λj hj=>by
  obtain⟨v,hv,n,rfl,-⟩:=h _ _ hj;exact⟨n,hv⟩
 have gb:∀j,KB[j]?=some (.c .b)->∃n,xs[o+j]?=some (.bool n):=λj hj=>by
  obtain⟨v,hv,n,rfl⟩:=h _ _ hj;exact⟨n,hv⟩
 obtain⟨kind,h0⟩:=gi 0 rfl;obtain⟨op,h1⟩:=gi 1 rfl;obtain⟨now,h4⟩:=gi 4 rfl;obtain⟨v2,h2,b2,n2,c2,x2,rfl,r2,e2,m2,WC⟩:=h 2 _ rfl;obtain⟨v3,h3,b3,n3,c3,x3,rfl,r3,e3,m3,cc3⟩:=h 3 _ rfl;obtain⟨v5,h5,b5,n5,c5,x5,rfl,r5,e5,m5,cc5⟩:=h 5 _ rfl;obtain⟨u6,h6,i6⟩:=h 6 _ rfl;obtain⟨u7,h7,i7⟩:=h 7 _ rfl;obtain⟨fa,ba,p6,p7⟩:=Zk (j:=6) h6 h7 i6 i7;obtain⟨fQ,h8⟩:=gi 8 rfl;obtain⟨rZ,h9⟩:=gi 9 rfl;obtain⟨fd,U9⟩:=gb 10 rfl;obtain⟨fc,h11⟩:=gb 11 rfl;obtain⟨fl,km⟩:=gb 12 rfl;obtain⟨fm,h13⟩:=gi 13 rfl;obtain⟨v14,h14,mask,rfl,-⟩:=h 14 _ rfl;obtain⟨torn,h15⟩:=gi 15 rfl;obtain⟨cut,h16⟩:=gi 16 rfl;obtain⟨n,h17⟩:=gi 17 rfl;obtain⟨la,a1,a2,a3⟩:=Eb vn rfl r2 e2 (g:=ak) (λ_=>rfl) λo h=>abc h;obtain⟨lt,t1,t2,t3⟩:=Eb u3 rfl r3 e3 (g:=aj) (λ_=>rfl) λo h=>abb h;obtain⟨li,i1,i2,-⟩:=Eb (λ_=>True) rfl r5 e5 (g:=nm) (λ_=>rfl) λo h=>by
  obtain⟨n,_,hn⟩:=gNm h;exact⟨n,trivial,hn⟩
 have hm:reachBytes<=140737488355328:=by decide
 refine⟨⟨kind,⟨op,la,lt,now,li,fa,fQ,rZ,fd,fc,fl,fm⟩,⟨b2,c2,b3,c3,b5,c5⟩,mask,torn,cut,n⟩,⟨⟨a2,t2,i2,?_,?_,?_⟩,a3,t3,?_,?_⟩,λj hj=>?_⟩
 ·show la.length<=c2;omega
 ·show lt.length<=c3;omega
 ·show li.length<=c5;omega
 ·show la.length<=_;omega
 ·show lt.length<=_;omega
 ·subst a1 t1 i1
  match j,hj with
  |0,_=>exact h0
  |1,_=>exact h1
  |2,_=>exact h2
  |3,_=>exact h3
  |4,_=>exact h4
  |5,_=>exact h5
  |6,_=>exact p6
  |7,_=>exact p7
  |8,_=>exact h8
  |9,_=>exact h9
  |10,_=>exact U9
  |11,_=>exact h11
  |12,_=>exact km
  |13,_=>exact h13
  |14,_=>exact h14
  |15,_=>exact h15
  |16,_=>exact h16
  |17,_=>exact h17
  |j+18,h=>omega
def aag{W:World}{b:OA}{n:Nat}{xs:LV}(hr:Ro W b n 18 xs)(he:∀i,i<n->MD W KB xs (i* 18)):∃l:List DT,l.length=n/\oe W [] jb 18 b l/\∀x∈l,Hm W x:=by
 have key:∀m,m<=n->∃l:List DT,l.length=m/\(∀i x,l[i]?=some x->∀j,j<18->xs[i* 18+j]?=(jb x)[j]?)/\∀x∈l,Hm W x:=by
  intro m
  induction m with
  |zero=>exact λ_=>⟨[],rfl,λi x h=>by simp at h,by simp⟩
  |succ m ih=>
   intro hm;obtain⟨l,h1,h2,h3⟩:=ih (by omega);obtain⟨x,hx,hc⟩:=aba (he m (by omega));refine⟨l++[x],by simp[h1],λi y hi=>?_,λy hy=>?_⟩
   ·by_cases aZ:i<l.length
    ·rw[ael aZ] at hi;exact h2 i y hi
    ·rw[aey (by omega)] at hi;have e:i=m:=by
      have:=(adZ.1 hi).1;simp at this;omega
     subst e;rw[h1,afj] at hi;cases hi
     exact hc
   ·rcases aeB.1 hy with h|h
    ·exact h3 y h
    ·simp at h;subst h;exact hx
 obtain⟨l,h1,h2,h3⟩:=key n (ad4 n);exact⟨l,h1,SD hr h1 (λ_=>rfl) h2,h3⟩
end Go.Up
namespace Go.Den
inductive Kd
 |i(k:IntKind)|b|s|p|q|l|g|v
abbrev Fu:List Kd->Type
 |[]=>VK->WK
 | .i _::r=>Int->Fu r
 | .b::r=>Bool->Fu r
 | .s::r=>BA->Fu r
 | .p::r=>OA->Fu r
 | .q::r=>Addr->Fu r
 | .l::r=>OA->Nat->Nat->Fu r
 | .g::r=>LV->Fu r
 | .v::r=>Value->Fu r
abbrev Kd.n:Kd:=.i .i64
abbrev vi:Value:=.i 0
abbrev vu:Value:=.u 0
abbrev vp:Value:=.p none
abbrev vq:Value:=.p (some ⟨0,0,none⟩)
abbrev vl:Value:=.l none 0 0
abbrev vb:Value:=.bool false
def U:(k:List Kd)->Fu k->WP
 |[],F=>λa K=>match a with|[]=>F K|_=>no
 | .i t::r,F=>λa K=>match a with| .int t' n::a=>if t'=t then U r (F n) a K else no|_=>no
 | .b::r,F=>λa K=>match a with| .bool x::a=>U r (F x) a K|_=>no
 | .s::r,F=>λa K=>match a with| .string x::a=>U r (F x) a K|_=>no
 | .p::r,F=>λa K=>match a with| .pointer x::a=>U r (F x) a K|_=>no
 | .q::r,F=>λa K=>match a with| .pointer (some x)::a=>U r (F x) a K|_=>no
 | .l::r,F=>λa K=>match a with| .slice x n c::a=>U r (F x n c) a K|_=>no
 | .g::r,F=>λa K=>match a with| .agg ⟨x⟩::a=>U r (F x) a K|_=>no
 | .v::r,F=>λa K=>match a with|x::a=>U r (F x) a K|_=>no
def cur:(k:List Kd)->WP->Fu k
 |[],B=>B []
 | .i t::r,B=>λn=>cur r λa=>B (.int t n::a)
 | .b::r,B=>λx=>cur r λa=>B (.bool x::a)
 | .s::r,B=>λx=>cur r λa=>B (.string x::a)
 | .p::r,B=>λx=>cur r λa=>B (.p x::a)
 | .q::r,B=>λx=>cur r λa=>B (.p (some x)::a)
 | .l::r,B=>λx n c=>cur r λa=>B (.l x n c::a)
 | .g::r,B=>λx=>cur r λa=>B (.agg ⟨x⟩::a)
 | .v::r,B=>λx=>cur r λa=>B (x::a)
def xx:∀(k:List Kd)(B:WP) {a:LV} {K:VK} {w:World},U k (cur k B) a K w->a.length=k.length/\B a K w
 |[],B,a,K,w,h=>by
  unfold U at h;split at h
  ·exact⟨rfl,h⟩
  ·exact h.elim
 | .i t::r,B,a,K,w,h=>by
   unfold U at h;split at h
   ·split at h
    ·rename_i e;subst e;obtain⟨h1,h2⟩:=xx r _ h;exact⟨by rw[aee,h1];rfl,h2⟩
    ·exact h.elim
   ·exact h.elim
 | .b::r,B,a,K,w,h=>by
   unfold U at h;split at h
   ·obtain⟨h1,h2⟩:=xx r _ h;exact⟨by rw[aee,h1];rfl,h2⟩
   ·exact h.elim
 | .s::r,B,a,K,w,h=>by
   unfold U at h;split at h
   ·obtain⟨h1,h2⟩:=xx r _ h;exact⟨by rw[aee,h1];rfl,h2⟩
   ·exact h.elim
 | .p::r,B,a,K,w,h=>by
   unfold U at h;split at h
   ·obtain⟨h1,h2⟩:=xx r _ h;exact⟨by rw[aee,h1];rfl,h2⟩
   ·exact h.elim
 | .q::r,B,a,K,w,h=>by
   unfold U at h;split at h
   ·obtain⟨h1,h2⟩:=xx r _ h;exact⟨by rw[aee,h1];rfl,h2⟩
   ·exact h.elim
 | .l::r,B,a,K,w,h=>by
   unfold U at h;split at h
   ·obtain⟨h1,h2⟩:=xx r _ h;exact⟨by rw[aee,h1];rfl,h2⟩
   ·exact h.elim
 | .g::r,B,a,K,w,h=>by
   unfold U at h;split at h
   ·obtain⟨h1,h2⟩:=xx r _ h;exact⟨by rw[aee,h1];rfl,h2⟩
   ·exact h.elim
 | .v::r,B,a,K,w,h=>by
   unfold U at h;split at h
   ·obtain⟨h1,h2⟩:=xx r _ h;exact⟨by rw[aee,h1];rfl,h2⟩
   ·exact h.elim
def yy(FF:Fence):Prop:=FF=Fence.wide\/∃l,FF=Fence.wide.inRound l
def yy.fn{FF:Fence}(h:yy FF)(f:FuncId):FF.fn f:=by rcases h with rfl|⟨l,rfl⟩<;>exact trivial
def yy.depth{FF:Fence}(h:yy FF):FF.depth=none:=by rcases h with rfl|⟨l,rfl⟩<;>rfl
def yy.calls{FF:Fence}(h:yy FF){n:Nat}{P:Program}{f:FuncId}{args:Array Value}{w:World}{R:Ending->World->Prop}(hc:Calls P f args w R):CallsIn FF n P f args w R:=by
 rcases h with rfl|⟨l,rfl⟩
 ·exact callsIn_wide.2 hc
 ·exact CallsIn.inRound l (callsIn_wide.2 hc)
def S3(F:Fn)(ds:List Deferred)(e:Env)(a:Act):Prop:=S2 F e {a with defers:=[]}/\a.defers=ds
def QI(F:Fn)(ds:List Deferred)(Q:Exit->Env->WK):Exit->Act->World->Prop:=λex a w=>(∃e,S3 F ds e a/\Q ex e w)/\∀c,ex≠.panic c
def S3.get{F:Fn}{ds:List Deferred}{e:Env}{a:Act}(h:S3 F ds e a){t:Nat}{v:Value}(hl:lk e t=some v):a.tmps[t]?=some v:=h.1.1.get t v hl
def S3.eval{F:Fn}{ds:List Deferred}{e:Env}{a:Act}(h:S3 F ds e a){x:Operand}{v:Value}(hx:ev e x=some v):a.eval x=v:=h.1.1.eval hx
def S3.nil{F:Fn}{ds:List Deferred}{e:Env}{a:Act}(h:S3 F ds e a):S3 F ds [] a:=⟨⟨⟨h.1.1.size,rfl,λt v hl=>by simp[lk] at hl⟩,h.1.2⟩,h.2⟩
def S3.cons{F:Fn}{ds:List Deferred}{e:Env}{a:Act}{t:Nat}{v:Value}(hv:a.tmps[t]?=some v)(h:S3 F ds e a):S3 F ds ((t,v)::e) a:=
 ⟨⟨⟨h.1.1.size,rfl,λs u hl=>by
   rw[sO] at hl
   split at hl
   ·rename_i Il;subst Il;cases hl;exact hv
   ·exact h.1.1.get s u hl⟩,h.1.2⟩,h.2⟩
def S3.start{F:Fn}{a:Act}(hC:F.C=[])(hn:a.tmps.size=F.n):S3 F a.defers [] a:=
 ⟨⟨⟨hn,rfl,λt v hl=>by simp[lk] at hl⟩,⟨hn,rfl,λt v hl=>by rw[hC] at hl;simp[lk] at hl⟩⟩,rfl⟩
def Ny{F:Fn}{ds:List Deferred}{w:World}{e:Env}{a:Act}{d:Option Tmp}{v:Value}{K:Env->WK}(hs:S3 F ds e a)(h:pt F.n F.C e d v K w):∃e',S3 F ds e' (a.put d v)/\K e' w:=by
 obtain⟨e',h1,h2⟩:=qu (a:={a with defers:=[]}) hs.1 h;refine⟨e',⟨?_,?_⟩,h2⟩
 ·cases d<;>exact h1
 ·cases d<;>exact hs.2
def S3.put{F:Fn}{ds:List Deferred}{e:Env}{a:Act}{t:Tmp}{v:Value}(w:World)(hs:S3 F ds e a)(ht:(Nat.blt t F.n&&cover F.C t)=true):S3 F ds ((t,v)::e) (a.put (some t) v):=by
 obtain⟨e',h1,h2⟩:=Ny (d:=some t) (v:=v) (K:=λe' _=>e'=(t,v)::e) (w:=w) hs (by simp only[pt,ht,cond_true]);subst h2;exact h1
def Og{F:Fn}{ds:List Deferred}{w:World}{e:Env}{a:Act}{ops:Array Oper}{o:Oper}{run skip:Env->WK}{X:Prop}(hs:S3 F ds e a)(h:guarded ops o e run skip w)
 (hr:∀e',S3 F ds e' a->Region.wanted o (yielded ops a.tmps)=true->run e' w->X)
 (hk:∀e',S3 F ds e' a->Region.wanted o (yielded ops a.tmps)=false->skip e' w->X):X:=
 oZ (a:={a with defers:=[]}) hs.1 h (λe' h1=>hr e' ⟨h1,hs.2⟩) (λe' h1=>hk e' ⟨h1,hs.2⟩)
def S3.zip{F:Fn}{ds:List Deferred}{e:Env}{a:Act}(hs:S3 F ds e a){l:List (Nat×Value)}{vs:LV}(h:rL e l=some vs):S3 F ds (wg l vs F.C) a:=⟨S2.zip (a:={a with defers:=[]}) hs.1 h,hs.2⟩
section
variable {F:Fn} {ds:List Deferred} {P:Program} {w:World} {e:Env} {a:Act} {ops:Array Oper} {FF:Fence} {n:Nat}
def To.QK{o:Oper}{K:VK}(h:To P (execOp a.eval o) w K):∀c,o.op≠.defer c:=by
 intro c hc;have key:∀r,(execOp a.eval o).run P w=.ok r w->True:=λ_ _=>trivial;have hx:execOp a.eval o=(do pure (.defer (<-resolve a.eval c o.type))):=by simp only[execOp,hc]
 rw[hx] at h;unfold To at h;simp only[Sem.run_bind] at h;cases hr:(resolve a.eval c o.type).run P w with
 |ok d w1=>simp[hr,Result.andThen,Sem.run_pure] at h
 |halt x w1=>simp[hr,Result.andThen] at h
def HH(hW:yy FF){o:Oper}{K:VK}{next:Act->World->Prop}{Q:Exit->Act->World->Prop}(h:To P (execOp a.eval o) w K)(hk:∀v w',K v w'->next (a.put o.dst v) w'):o.wpIn FF n P a w next Q:=by
 refine⟨λf _=>hW.fn f,?_⟩;rw[Oper.semAt_eq _ _ _ h.QK];rcases h with⟨v,w',hr,h⟩|⟨w',hr,h⟩|⟨g,args,w',hr,h⟩
 ·rw[hr];exact hk _ _ h
 ·rw[hr];exact hk _ _ h
 ·rw[hr];refine⟨λhd=>(by rw[hW.depth] at hd;cases hd),?_⟩;refine CallsIn.mono (hW.calls h) λe WJ ⟨v,he,hv⟩=>?_;subst he;exact hk _ _ hv
def xM(hW:yy FF)(hF:Ok F){Q:Exit->Act->World->Prop}{K:Env->WK}{tail:List Nat}(hK:∀e a w,S3 F ds e a->K e w->wpOpsIn FF n F.P ops Q tail a w):
 ∀(l:List Nat)(os:List Oper)(e:Env)(a:Act)(w:World),l.length=os.length->(∀k i:Nat,l[k]?=some i->ops[i]?=os[k]?)->S3 F ds e a->tT F ops os K e w->wpOpsIn FF n F.P ops Q (l++tail) a w
 |[],[],e,a,w,_,_,hs,h=>hK e a w hs h
 |[],_::_,_,_,_,hl,_,_,_=>by simp at hl
 |_::_,[],_,_,_,hl,_,_,_=>by simp at hl
 |i::l,o::os,e,a,w,hl,hi,hs,h=>by
  have hio:ops[i]?=some o:=hi 0 i rfl;have rest:=λe a w=>xM hW hF hK l os e a w (by simpa using hl) (λ(k j:Nat)(hk:l[k]?=some j)=>hi (k+1) j (by simpa using hk));rw[afa,wpOpsIn_cons];unfold wpOpIn;simp only[hio];refine Og (F:=F) hs (va h) (λe' cV hw hr=>?_) (λe' cV hw hr=>?_)
  ·rw[if_pos hw];refine HH (a:=a) hW (A7 (a:={a with defers:=[]}) hF.eqs hF.CN cV.1.1 hr) λv w' hv=>?_;obtain⟨Ox,tE,hk⟩:=Ny cV hv;exact rest _ _ _ tE hk
  ·rw[if_neg (by rw[hw];exact aeq)];refine⟨λf _=>hW.fn f,?_⟩;obtain⟨Ox,tE,hk⟩:=Ny cV hr;exact rest _ _ _ tE hk
def CV(hW:yy FF)(hF:Ok F){id:Nat}{Q:Exit->Act->World->Prop}{K:Env->WK}(k:Nat)(hk:k<=ops.size)(hs:S3 F ds e a)
 (h:tT F ops (ops.toList.take k) K e w)(hK:∀e a w,S3 F ds e a->K e w->wpOpsIn FF n F.P ops Q (List.range' k (ops.size-k)) a w):(Code.region id ops false).wpIn FF n F.P Q a w:=by
 refine wpIn_region ?_;have e1:aft ops.size=List.range' 0 k++List.range' k (ops.size-k):=by
  rw[List.range_eq_range'];have:=List.range'_append_1 (s:=0) (m:=k) (n:=ops.size-k);rw[ad1] at this;rw[this];congr 1;omega
 rw[e1];refine xM hW hF hK _ (ops.toList.take k) e a w (by simp;omega) (λj i hj=>?_) hs h;have HA:j<k:=by have:=(adZ.1 hj).1;simpa using this
 rw[List.getElem?_range'] at hj
 ·cases hj
  rw[afo,if_pos HA];simp
 ·exact HA
def P8(hW:yy FF)(hF:Ok F){Q:Exit->Act->World->Prop}{K:Env->WK}(k:Nat)(hk:k<=ops.size)(hs:S3 F ds e a)
 (h:tT F ops (ops.toList.drop k) K e w)(hK:∀e a w,S3 F ds e a->K e w->Q .normal a w):wpOpsIn FF n F.P ops Q (List.range' k (ops.size-k)) a w:=by
 have:=xM (FF:=FF) (n:=n) (Q:=Q) (tail:=[]) hW hF (λe a w hs hk=>hK e a w hs hk) (List.range' k (ops.size-k)) (ops.toList.drop k) e a w (by simp) (λj i hj=>?_) hs h
 ·simpa using this
 ·have HA:j<ops.size-k:=by have:=(adZ.1 hj).1;simpa using this
  rw[List.getElem?_range'] at hj
  ·cases hj
   rw[afd];simp
  ·exact HA
def drawn:Code->Bool
 | .region _ _ d=>d
 | .seq x y=>drawn x||drawn y
 | .cond _ x y=>drawn x||drawn y
 | .block _ c=>drawn c
 | .loop c=>drawn c
 |_=>false
def Vv(hW:yy FF)(hF:Ok F):∀(c:Code)(Q:Exit->Env->WK)(e:Env)(a:Act)(w:World),drawn c=false->S3 F ds e a->den F c Q e w->c.wpIn FF n F.P (QI F ds Q) a w:=by
 intro c
 induction c with
 |skip=>intro Q e a w _ hs h;exact wpIn_skip ⟨⟨e,hs,h⟩,by simp⟩
 |ret=>intro Q e a w _ hs h;exact wpIn_ret ⟨⟨e,hs,h⟩,by simp⟩
 |exit i=>intro Q e a w _ hs h;exact wpIn_exit ⟨⟨e,hs,h⟩,by simp⟩
 |seq x y ihx ihy=>
  intro Q e a w hd hs h;simp only[drawn,Bool.or_eq_false_iff] at hd;refine wpIn_seq (wpIn_mono (ihx _ e a w hd.1 hs h) ?_);rintro ex a' w' ⟨⟨e',cV,hq⟩,hp⟩;cases ex<;>simp only[KE] at hq
  case normal=>exact ihy Q e' a' w' hd.2 cV hq
  all_goals exact⟨⟨e',cV,hq⟩,hp⟩
 |cond x c1 c2 Xr Px=>
  intro Q e a w hd hs h;simp only[drawn,Bool.or_eq_false_iff] at hd;simp only[den] at h;cases hx:ev e x with
  |none=>simp only[hx,no] at h
  |some v=>
   cases v<;>simp only[hx,no] at h
   rename_i b;cases b with
   |true=>exact wpIn_cond_true (hs.eval hx) (Xr Q e a w hd.1 hs h)
   |false=>exact wpIn_cond_false (hs.eval hx) (Px Q e a w hd.2 hs h)
 |block i c ih=>
  intro Q e a w hd hs h;refine wpIn_block (wpIn_mono (ih _ e a w hd hs h) ?_);rintro ex a' w' ⟨⟨e',cV,hq⟩,hp⟩;cases ex<;>simp only[IU] at hq
  case exit j=>
   simp only[Exit.inBlock];cases hb:afi j i with
   |true=>rw[if_pos (aex hb)];simp only[hb,cond_true] at hq;exact⟨⟨e',cV,hq⟩,by simp⟩
   |false=>
    have gU:j≠i:=λh=>by simp[h] at hb
    rw[if_neg gU];simp only[hb,cond_false] at hq;exact⟨⟨e',cV,hq⟩,by simp⟩
  all_goals exact⟨⟨e',cV,hq⟩,hp⟩
 |loop c ih=>
  intro Q e a w hd hs h;simp only[den] at h;cases hl:Kn F.EW (key c) with
  |none=>simp only[hl,no] at h
  |some l=>
   simp only[hl] at h;cases hv:rL e l with
   |none=>simp only[hv,no] at h
   |some vs=>
    simp only[hv] at h;obtain⟨I,μ,h0,Io⟩:=h;have N1:=(kh hs.1.1 hv).2.1;refine wpIn_loop (λa w=>S3 F ds (wg l (l.map λp=>a.tmps.getD p.1 undef) F.C) a/\I (l.map λp=>a.tmps.getD p.1 undef) w/\∀f,BY (l.map (·.2)) f->f (l.map λp=>a.tmps.getD p.1 undef))
     (λa w=>μ (l.map λp=>a.tmps.getD p.1 undef) w) ?_ ?_
    ·rw[<-N1];exact⟨hs.zip hv,h0,(kh hs.1.1 hv).2.2⟩
    ·intro a1 w1 ⟨wa,hI1,fJ⟩;have hr:=fJ _ Io w1 hI1;refine wpIn_mono (ih _ _ a1 w1 hd wa hr) ?_;rintro ex a' w' ⟨⟨e',cV,hq⟩,hp⟩;cases ex<;>simp only[KE] at hq
     case normal=>
      simp only[NT] at hq;cases yV:rL e' l with
      |none=>simp only[yV,no] at hq
      |some B7=>
       simp only[yV] at hq;have Ip:=(kh cV.1.1 yV).2.1;simp only[Exit.then];rw[<-Ip];exact⟨⟨cV.zip yV,hq.1,(kh cV.1.1 yV).2.2⟩,hq.2⟩
     all_goals exact⟨⟨e',cV,hq⟩,hp⟩
 |region id ops draw=>
  intro Q e a w hd hs h;simp only[drawn] at hd;subst hd;simp only[den,cond_false] at h;refine CV hW hF ops.size (ad4 _) (K:=λe w=>Q .normal e w) hs (by rw[aef (by simp)];exact h) (λe a w hs hk=>?_);rw[afj];exact⟨⟨e,hs,hk⟩,by simp⟩
 |_=>intro Q e a w _ hs h;exact h.elim
def zU(hW:yy FF)(hF:Ok F){c:Code}{Q:Exit->Act->World->Prop}(hd:drawn c=false)(hs:S3 F ds e a)
 (h:den F c (λex e w=>∀a,S3 F ds e a->Q ex a w) e w):c.wpIn FF n F.P Q a w:=
 wpIn_mono (Vv hW hF c _ e a w hd hs h) (by rintro ex a' w' ⟨⟨e',cV,hq⟩,-⟩;exact hq a' cV)
def vB(hW:yy FF)(hF:Ok F){x y:Code}{Q:Exit->Act->World->Prop}(hd:drawn x=false)(hs:S3 F ds e a)
 (h:den F x (λex e w=>∀a,S3 F ds e a->Exit.then (y.wpIn FF n F.P Q) Q ex a w) e w):(x.seq y).wpIn FF n F.P Q a w:=
 wpIn_seq (zU hW hF hd hs h)
end
def By:Code->Code| .seq x _=>x|c=>c
def tD:Code->Code| .seq _ y=>y|c=>c
def ZP:Code->Code| .block _ c=>c| .loop c=>c|c=>c
def ac6:Code->Code| .rangeFunc _ _ a _=>a|c=>c
def ac3:Code->Code| .rangeFunc _ _ _ b=>b|c=>c
def A4:Code->Array Oper| .region _ ops _=>ops|_=>#[]
end Go.Den
namespace Go.Den
open Go.RowKit Go.Sep
section
variable {FF:Fence} {n:Nat} {P:Program} {a:Act} {w:World} {Q:Exit->Act->World->Prop}
def yd{J:Nat->Prop}(h:∃k,J k):∃m,J m/\∀k,J k->m<=k:=by
 obtain⟨k,hk⟩:=h
 induction k using Nat.strongRecOn with
 |_ k ih=>
  by_cases hx:∃j,j<k/\J j
  ·obtain⟨j,hj,hJ⟩:=hx;exact ih j hj hJ
  ·refine⟨k,hk,λj hJ=>?_⟩;rcases Nat.lt_or_ge j k with h|h
   ·exact absurd ⟨j,h,hJ⟩ hx
   ·exact h
def Fo{c:Code}(J:Nat->Act->World->Prop)(h0:∃k,J k a w)
 (hr:∀k a w,J k a w->c.wpIn FF n P (Exit.then (λa' w'=>∃j,j<k/\J j a' w') Q) a w):(Code.loop c).wpIn FF n P Q a w:=by
 classical
 let μ:Act->World->Nat:=λa w=>if h:∃k,J k a w then Classical.choose (yd h) else 0
 have ZQ:∀{a w}(h:∃k,J k a w),J (μ a w) a w/\∀k,J k a w->μ a w<=k:=λ{a w} h=>by
  have e:μ a w=Classical.choose (yd h):=dif_pos h;rw[e];exact Classical.choose_spec (yd h)
 refine wpIn_loop (λa w=>∃k,J k a w) μ h0 λa w h=>?_;refine wpIn_mono (hr _ a w (ZQ h).1) λex a' w' hq=>?_;cases ex<;>first|exact hq|skip
 obtain⟨j,hj,hJ⟩:=hq;exact⟨⟨j,hJ⟩,Nat.lt_of_le_of_lt ((ZQ ⟨j,hJ⟩).2 j hJ) hj⟩
def Ch{o:Oper}{x:Operand}{xs:Array Operand}{ts:Array TypeId}{l:Nat}(ho:o.op=.call {callee:=.value x,args:=xs,argTypes:=ts})(hx:a.eval x=.func (.yield l) #[] #[]):
 (execOp a.eval o).run P w=(Instr.yield l (xs.map a.eval)).run P w:=by
 simp only[execOp,ho,resolve,Deferred.ofValue,hx,Sem.run_bind,Sem.run_pure,Result.andThen_ok,invoke,Array.empty_append]
def Ns(hW:FF=Fence.wide){g:Operand}{ps:Array Tmp}{assign body:Code}{gf:Nat}{lb:Array Value}(hg:a.eval g=.func (.func gf) #[] lb)
 {fg:Func}(h1:P.funcs[gf]?=some fg)(h2:(fg.name== "runtime.NumGoroutine")=false)(h3:fg.body.isNone=false)
 (h:∀fn,CallsIn FF (n-1) P gf (#[.func (.yield (w.heap.size+1)) #[] #[]]++lb) ((w.alloc (.deferred (some []))).alloc (.loop {state:=.ready,pending:=none,fn,tmps:=a.tmps,params:=ps,assign,body,defers:=w.heap.size}))
  (rangePost FF n P (w.heap.size+1) Q {a with defers:={target:=.collected w.heap.size,args:=#[]}::a.defers})):(Code.rangeFunc g ps assign body).wpIn FF n P Q a w:=by
 subst hW;refine wpIn_rangeFunc ?_;intro fn Z4;obtain⟨W1,hW1⟩:∃W1,(w.alloc (.deferred (some []))).alloc (.loop {state:=.ready,pending:=none,fn:=fn,tmps:=a.tmps,params:=ps,assign:=assign,body:=body,defers:=w.heap.size})=W1:=⟨_,rfl⟩;have h:=h fn;rw[hW1] at h;refine⟨w.heap.size+1,[{target:=.collected w.heap.size,args:=#[]}],W1,{target:=.fn (.func gf) lb,args:=#[.func (.yield (w.heap.size+1)) #[] #[]]},W1,gf,
  #[.func (.yield (w.heap.size+1)) #[] #[]]++lb,W1,?_,?_,?_,?_,?_,?_⟩
 ·rw[<-hW1];exact run_enterLoop_outer _ _ _ _ _
 ·simp only[resolve,hg];simp[go_sem]
 ·intro f' UT;exact trivial
 ·simp only[invoke];exact wC h1 h2 h3 _
 ·intro hd;cases hd
 ·simpa only[afa,aeA] using h
end
end Go.Den
namespace Go.Sep
open Go.Den Go.RowKit
def MK{w:World}{b:Nat}{o:Obj}(hb:b<w.heap.size)(ho:∀c t fz,o≠.cells c t fz):view (w.putObj b o) b=some (.obj o):=by
 unfold view;rw[World.putObj_heap_same hb];cases o<;>first|rfl|exact absurd rfl (ho _ _ _)
def St.Xe{W w:World}{L:LH}(h:St W w L)(o:Obj)(ho:∀c t fz,o≠.cells c t fz):St W (w.alloc o) (ob w.heap.size o::L):=by
 refine h.Xf o (x:=.obj o) ?_;unfold view;rw[World.alloc_heap_new];cases o<;>first|rfl|exact absurd rfl (ho _ _ _)
def St.put{W w:World}{L:LH}{k b:Nat}{o:Obj}(o':Obj)(h:St W w L)(hk:L[k]?=some (ob b o))(ho:∀c t fz,o'≠.cells c t fz):St W (w.putObj b o') (L.set k (ob b o')):=by
 obtain⟨h1,h2⟩:=h.obj hk;have aZ:b<w.heap.size:=(Array.getElem?_eq_some_iff.1 h1).1;refine h.Sq hk ⟨h.1.os,h.1.tape,h.1.output,by rw[World.putObj_size];exact h.1.size,λj hj=>?_⟩ (MK aZ ho) λj hj _=>World.putObj_heap_other hj;rw[World.putObj_heap_other (by omega)];exact h.1.block j hj
end Go.Sep
namespace Go.Proofs.YtnffemlgkghcfaaGreatDoor
open Go.Den Go.Prog Go.RowKit
noncomputable def T82:B9:=[(140,cn.u),(141,pv.u),(142,cb.u)]
noncomputable abbrev Fb:Den.Fn:=⟨Tryz.prog,T82,[],20,[],[]⟩
noncomputable def WD:Code:=(Tryz.f82.body).getD .skip
noncomputable def q0:Code:=By WD
noncomputable def q1:Code:=By (tD WD)
noncomputable def q2:Code:=By (tD (tD WD))
noncomputable def q3:Code:=By (By (tD (tD (tD WD))))
noncomputable def rf:Code:=ZP (tD (By (tD (tD (tD WD)))))
noncomputable def Km:Code:=ac6 rf
noncomputable def bd:Code:=ac3 rf
noncomputable def q7:Code:=By (tD (tD (tD (tD WD))))
def Vz:Tryz.f82.body=some (.seq q0 (.seq q1 (.seq q2 (.seq (.seq q3 (.block 0 (.rangeFunc (.tmp 11) #[12] Km bd))) (.seq q7 .ret))))):=by kernel_rfl
def ER:drawn q0=false/\drawn q1=false/\drawn q2=false/\drawn q3=false/\drawn Km=false/\drawn bd=false/\drawn q7=false:=⟨by kernel_rfl,by kernel_rfl,by kernel_rfl,by kernel_rfl,by kernel_rfl,by kernel_rfl,by kernel_rfl⟩
def n82:Tryz.f82.ntmps=20/\Tryz.f82.results=#[.tmp 4]:=⟨by kernel_rfl,by kernel_rfl⟩
def d0(Q:Exit->Env->WK)(p:OA)(n:Int):den Fb q0 Q [(1,.i n),(0,.pointer p)]=mk [.pointer p] (λr=>Q .normal [(4,.i 0),(2,.pointer (some (ad r 0))),(1,.i n),(0,.pointer p)]):=by kernel_rfl
def d1(Q:Exit->Env->WK)(r:Nat)(n:Int)(e:Env):den Fb q1 Q ((4,.i 0)::(2,.pointer (some (ad r 0)))::(1,.i n)::e)=
 ld (ad r 0) (xP λp=>cn p n (x0 (Q .normal ((9,.tuple ⟨[]⟩)::(8,.i n)::(7,.pointer p)::(4,.i 0)::(2,.pointer (some (ad r 0)))::(1,.i n)::e)))):=by kernel_rfl
def d2(Q:Exit->Env->WK)(e:Env):den Fb q2 Q e=mk [.i 0] (λr=>st (ad r 0) (.i 0) (Q .normal ((5,.pointer (some (ad r 0)))::e))):=by kernel_rfl
def d3(Q:Exit->Env->WK)(r5 r:Nat)(v9 v8 v7 v4:Value)(e:Env):den Fb q3 Q ((5,.pointer (some (ad r5 0)))::(9,v9)::(8,v8)::(7,v7)::(4,v4)::(2,.pointer (some (ad r 0)))::e)=
 ld (ad r 0) (xP λp=>pv p (λv=>Q .normal ((11,v)::(10,.pointer p)::(5,.pointer (some (ad r5 0)))::(9,v9)::(8,v8)::(7,v7)::(4,v4)::(2,.pointer (some (ad r 0)))::e))):=by kernel_rfl
def das(Q:Exit->Env->WK)(cs:LV)(e:Env):den Fb Km Q ((12,.agg ⟨cs⟩)::e)=mk [.u 0,.u 0,.u 0,.u 0,.u 0,.u 0,.u 0,.u 0,.u 0,.u 0,.i 0,.i 0,.i 0,.i 0,.i 0,.i 0] (λr=>a8 (cs.length=16) (gp (ad r 0) cs (Q .normal ((6,.pointer (some (ad r 0)))::(12,.agg ⟨cs⟩)::e)))):=by kernel_rfl
def dbd(Q:Exit->Env->WK)(r6 r5 r2:Nat)(cs:LV)(e:Env):den Fb bd Q ((6,.pointer (some (ad r6 0)))::(12,.agg ⟨cs⟩)::(5,.pointer (some (ad r5 0)))::(2,.pointer (some (ad r2 0)))::e)=
 ld (ad r2 0) (xP λp=>ai (ad r6 0) 16 (λOC=>a8 True (cb p OC [.u 0,.u 0] 4 (x0 (ld (ad r5 0) (xI .i64 λn=>st (ad r5 0) (.i (adU.wrap (n+1))) (Q .normal ((18,.i (adU.wrap (n+1)))::(17,.i n)::(16,.tuple ⟨[]⟩)::(15,.agg ⟨[.u 0,.u 0]⟩)::(14,.agg ⟨OC⟩)::(13,.pointer p)::(6,.pointer (some (ad r6 0)))::(12,.agg ⟨cs⟩)::(5,.pointer (some (ad r5 0)))::(2,.pointer (some (ad r2 0)))::e)))))))):=by kernel_rfl
def d7(Q:Exit->Env->WK)(r5:Nat)(e:Env):den Fb q7 Q ((5,.pointer (some (ad r5 0)))::e)=ld (ad r5 0) (xI .i64 λn=>Q .normal ((4,.i n)::(19,.i n)::(5,.pointer (some (ad r5 0)))::e)):=by kernel_rfl
noncomputable def VP:B9:=[(194,cH.u)]
noncomputable abbrev u4:Den.Fn:=⟨Tryz.prog,VP,[],22,[],[]⟩
noncomputable def Zq:Code:=(Tryz.f193.body).getD .skip
noncomputable def s0:Code:=By Zq
noncomputable def lb:Code:=ZP (ZP (tD Zq))
noncomputable def s1:Code:=By lb
noncomputable def s3:Code:=By (ZP (By (tD lb)))
noncomputable def s4:Code:=tD (tD lb)
def RL:Tryz.f193.body=some (.seq s0 (.block 0 (.loop (.seq s1 (.seq (.block 1 (.seq (.region 3 (A4 s3) false) (.cond (.tmp 20) .ret .skip))) s4))))):=by kernel_rfl
def BG:drawn s0=false/\drawn s1=false/\drawn s4=false:=⟨by kernel_rfl,by kernel_rfl,by kernel_rfl⟩
def n193:Tryz.f193.ntmps=22/\Tryz.f193.results=#[]:=⟨by kernel_rfl,by kernel_rfl⟩
def ds0(Q:Exit->Env->WK)(y:Value)(r1:Nat):den u4 s0 Q [(1,.pointer (some (ad r1 0))),(0,y)]=
 ld (ad r1 0) (xP λp=>cH p (x2 λv1 v2=>(xA 33 λcs=>(xB λb=>mk [.u 0,.u 0,.u 0,.u 0,.u 0,.u 0,.u 0,.u 0,.u 0,.u 0,.i 0,.i 0,.i 0,.i 0,.i 0,.i 0,.u 0,.u 0,.u 0,.u 0,.u 0,.u 0,.u 0,.u 0,.u 0,.u 0,.i 0,.i 0,.i 0,.i 0,.i 0,.i 0,.i 0] (λr=>a8 (cs.length=33) (gp (ad r 0) cs (Q .normal ((4,.bool b)::(3,.pointer (some (ad r 0)))::(9,.bool b)::(8,.agg ⟨cs⟩)::(5,.tuple ⟨[.agg ⟨cs⟩,.bool b]⟩)::(7,.tuple ⟨[.agg ⟨cs⟩,.bool b]⟩)::(6,.pointer p)::[(1,.pointer (some (ad r1 0))),(0,y)]))))) v2) v1)):=by kernel_rfl
def ds1(Q:Exit->Env->WK)(b:Bool)(e:Env):den u4 s1 Q ((4,.bool b)::e)=br b (Q .normal ((10,.bool b)::(4,.bool b)::e)) (Q (.exit 0) ((10,.bool b)::(4,.bool b)::e)):=by kernel_rfl
def ds3(K:Env->WK)(r3 r1:Nat)(y:Value)(v4:Value):tT u4 (A4 s3) ((A4 s3).toList.take 3) K ((4,v4)::(3,.pointer (some (ad r3 0)))::(1,.pointer (some (ad r1 0)))::[(0,y)])=
 ai (ad r3 16) 16 (λcs=>K ((18,.agg ⟨cs⟩)::(17,.pointer (some (ad r3 16)))::(16,y)::(4,v4)::(3,.pointer (some (ad r3 0)))::(1,.pointer (some (ad r1 0)))::[(0,y)])):=by kernel_rfl
noncomputable def o3:Oper:=((A4 s3)[3]?).getD ⟨none,.move (.tmp 0),0,"",#[],none⟩
def II:(A4 s3)[3]?=some o3/\o3.dst=some 19/\o3.op=.call {callee:=.value (.tmp 16),args:=#[.tmp 18],argTypes:=#[108]}/\o3.guard=none/\(A4 s3).size=5:=⟨by kernel_rfl,by kernel_rfl,by kernel_rfl,by kernel_rfl,by kernel_rfl⟩
def acX(K:Env->WK)(b:Bool)(e:Env):tT u4 (A4 s3) ((A4 s3).toList.drop 4) K ((19,.bool b)::e)=K ((20,.bool (!b))::(19,.bool b)::e):=by kernel_rfl
def ds4(Q:Exit->Env->WK)(r3 r1:Nat)(y:Value):den u4 s4 Q ((3,.pointer (some (ad r3 0)))::(1,.pointer (some (ad r1 0)))::[(0,y)])=
 ai (ad r3 0) 33 (λcs0=>mk [.u 0,.u 0,.u 0,.u 0,.u 0,.u 0,.u 0,.u 0,.u 0,.u 0,.i 0,.i 0,.i 0,.i 0,.i 0,.i 0,.u 0,.u 0,.u 0,.u 0,.u 0,.u 0,.u 0,.u 0,.u 0,.u 0,.i 0,.i 0,.i 0,.i 0,.i 0,.i 0,.i 0] (λr=>a8 (cs0.length=33) (gp (ad r 0) cs0 (ld (ad r1 0) (xP λp=>cH p (x2 λv1 v2=>(xA 33 λcs=>(xB λb=>a8 (cs.length=33) (gp (ad r 0) cs (Q .normal ((4,.bool b)::(15,.bool b)::(14,.agg ⟨cs⟩)::(11,.tuple ⟨[.agg ⟨cs⟩,.bool b]⟩)::(13,.tuple ⟨[.agg ⟨cs⟩,.bool b]⟩)::(12,.pointer p)::(3,.pointer (some (ad r 0)))::(21,.agg ⟨cs0⟩)::(3,.pointer (some (ad r3 0)))::(1,.pointer (some (ad r1 0)))::[(0,y)])))) v2) v1)))))):=by kernel_rfl
end Go.Proofs.YtnffemlgkghcfaaGreatDoor
