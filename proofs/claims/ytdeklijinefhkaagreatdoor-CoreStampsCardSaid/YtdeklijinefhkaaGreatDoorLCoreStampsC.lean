/- Part of the proof: see the last text. -/
import Derived.Test.YtdeklijinefhkaaGreatDoorLCoreStampsA
import Derived.Test.YtdeklijinefhkaaGreatDoorLCoreStampsB
import Derived.Test.YtdeklijinefhkaaGreatDoorPH
import Derived.Test.YtdeklijinefhkaaGreatDoorRows
import Derived.WalkKit
import Derived.ProofKit
import Derived.OpenShut
import Derived.ShutString
import Derived.ChangeOld
import Derived.Below
import Derived.SizedLaws
import Derived.Test.YtdeklijinefhkaaGreatDoorCards
import Derived.Test.YtdeklijinefhkaaGreatDoorTie
import Derived.LaidMore
import Derived.Lay
import Derived.SevenTiedAt
import Derived.Stop.Joined
set_option linter.all false
set_option maxRecDepth 100000
set_option synthInstance.maxSize 100000
open List renaming getElem?_eq_some_iff→ar,getElem?_append_left→ch,all_eq_true→pW
open Option renaming some→bA
namespace Go.Proofs.YtdeklijinefhkaaGreatDoor.vK
open Go.ChangeShapes Go.WideShapes Go.ChangeAt Go.RowKit Go.Den Go.Sep Go.Prog Go.Up
open Go.ChangeMaps (open_string shut_string)
theorem lifted(os:Os)(started:os.Started)(H:Type)(enc:TypeId×Value->H):
 ReturnsInHanded {} Tryz.checked os 7 .any (λw args=>(Rows.coreStampsSpec.pre enc Tryz.prog Tryz.f7 Rows.coreStampsRow.domain false w args/\laidMetH Tryz.prog Rows.coreStampsRow.laid w)/\sizedMet enc Tryz.prog Tryz.f7 (OpenSpec.ofChange Rows.coreStampsSpec) false w args)
  (Rows.coreStampsSpec.post enc Tryz.prog Tryz.f7 false true false false):=by
 refine returnsInHanded_of_change_and (C:=Tryz.checked) (X:=λw _=>laidMetH Tryz.prog Rows.coreStampsRow.laid w) (λ_ _ _ hh h=>h.of_heap hh) Ui started (by kernel_rfl) Tryz.func7
  (ChangeSpec.witness_shaped (enc:=enc) (C:=Tryz.checked) (os:=os) (X:=λw _=>laidMetH Tryz.prog Rows.coreStampsRow.laid w) false (World.laidAll Tryz.prog os Rows.coreStampsRow.laid) #[.slice none 0 0] 8 (World.laidAll_os _ _ _)
   (pS os _) (by kernel_rfl) (by kernel_rfl) (by kernel_rfl)
   (by rw[MakeChecks.laidMetH_plain _ _ _ (by kernel_rfl)];exact laidMet_laidAll _ (pL1 os) (pL2 os))) ?_
 intro W base args ds gs before Cf hW Ys J8 Ch _;have qc:(DataW.weightsEach Tryz.prog (Tryz.f7.params.toList++Rows.coreStampsSpec.plain.varTypes Tryz.prog) (ds++gs)).all (·<=reachBytes)=true:=J8;have sJ:∀(j:Nat) t v,Tryz.f7.params[j]?=some t->args[j]?=some v->Value.okWide Tryz.prog W .any base t v:=Cf;have Yx:=hW;obtain⟨p,q,Yz,hV,rfl,hfz,HM⟩:=hW;have hA:DataW.TrodAll enc Tryz.prog W 0 (λ_=>true) true Tryz.f7.params.toList args.toList ds p:=Yz;have Yy:=hA;rw[Tryz.params7] at hA sJ qc;obtain⟨v0,vs0,d0,ds0,p0,q0,yS,rfl,rfl,h0,r0⟩:=trodAll_cons hA;obtain⟨rfl,rfl,rfl⟩:=trodAll_nil r0;obtain rfl:args=#[v0]:=by cases args;simp_all
 obtain⟨rfl,rfl⟩:=trodVars_none hV;have Qm:∀(j:Nat) t d,([73]:List TypeId)[j]?=some t->([d0]:List _)[j]?=some d->∀n∈d.weights Tryz.prog t,n<=reachBytes:=λj t d ht hd n hn=>by
  have:=pW.1 qc n (DataW.weights_mem_each (j:=j) (t:=t) (d:=d) ?_ ?_ n hn)
  ·simpa using this
  ·have cn:=(ar.1 ht).1;rw[ch (by simpa using cn)];exact ht
  ·have cn:=(ar.1 hd).1;rw[ch (by simpa using cn)];exact hd
 obtain⟨a0,n0,c0,x0,rfl,Xv,YM,by0,XX⟩:=rR (f:=5) (ks:=[.i .i64,.s,.i .u64,.i .i64,.i .i64,.i .i64]) Tryz.underlying73 (by kernel_rfl) (by kernel_rfl) (sJ 0 73 v0 rfl rfl) h0 (Qm 0 73 d0 rfl rfl);refine(e7.2 _ _ W (HX (W:=W) (Vb Ch) Xv YM XX:U [.l] bq _ (λv w'=>v=.bool true/\Below W.heap.size W w') W)).mono λe W' ⟨v,he,hv,QN⟩=>?_;subst he hv;exact⟨_,rfl,_,_,_,[],_,[],Yx,trodAll_mk1 (shut_bool Tryz.underlying4 _),Go.Sep.Below.trodAll Go.Proofs.YtdeklijinefhkaaGreatDoor.p2 QN (by kernel_rfl) Yy,rfl,QN.frame _,λh=>by cases h⟩
theorem over:Rows.coreStampsRow.holds Tryz.pinned (OpenSpec.ofChange Rows.coreStampsSpec):=
 OpenClaim.holds_of_wide 7 Tryz.f7 rfl rfl rfl rfl rfl rfl rfl ⟨rfl,rfl,rfl,rfl,rfl⟩ rfl rfl rfl rfl rfl (by kernel_rfl) Tryz.func7 closed
  (of_decide_eq_true (by kernel_rfl)) (by unfold Func.isWrapper;first|(rw[if_pos (by decide+kernel)];kernel_rfl)|(rw[if_neg (by decide+kernel)];exact⟨rfl,rfl⟩))
  (λos started H enc _=>lifted os started H enc)
theorem plain(f:FuncId)(fn:Func)(hf:Tryz.pinned.checked.prog.funcNamed Rows.coreStampsRow.func=some f)(S5:Tryz.pinned.checked.prog.funcs[f]?=some fn):
 false=Tryz.pinned.checked.prog.looks []/\∀(j:Nat) t,fn.params[j]?=some t->Tryz.pinned.checked.prog.wantsStandIn t=false:=by
 obtain rfl:f=7:=bA.inj ((show Tryz.prog.funcNamed Rows.coreStampsRow.func=some 7 by kernel_rfl).symm.trans hf)|>.symm;obtain rfl:fn=Tryz.f7:=(bA.inj (Tryz.func7.symm.trans S5)).symm;refine⟨LS,λj t ht=>?_⟩;rw[Tryz.params7] at ht;have hm:t∈[73]:=by simpa using Array.mem_of_getElem? ht
 have fI:([73].all λu=> !Tryz.prog.wantsStandIn u)=true:=by kernel_rfl
 exact(show Tryz.prog.wantsStandIn t=false by simpa using pW.1 fI t hm)
theorem Cy:OpenClaim.wfByText (OpenSpec.ofChange Rows.coreStampsSpec) Rows.coreStampsRow=true:=by kernel_rfl
theorem Cx:Tryz.pinned.checked.prog.mainIs=some (Rows.coreStampsCard.stood.harness.fst,Rows.coreStampsCard.stood.harness.snd.toList):=LR
theorem Cw:false=Rows.coreStampsRow.goesBy Tryz.pinned.checked.prog:=by kernel_rfl
theorem Ks:Rows.CoreStampsCardSaid:=
 Claim7.holds_tied_plain_at .later [] _ _ _ _ over (λ_ h=>by cases h) Cy (λ_ h=>by cases h) coreStamps_row_tie rfl ⟨rfl,rfl⟩ Cx rfl plain Cw
end Go.Proofs.YtdeklijinefhkaaGreatDoor.vK
namespace Go.Proofs.YtdeklijinefhkaaGreatDoor
theorem Sq:Rows.CoreStampsSaid:=vK.over
theorem coreStamps_card:Rows.CoreStampsCardSaid:=vK.Ks
end Go.Proofs.YtdeklijinefhkaaGreatDoor
