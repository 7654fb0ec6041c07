/- Part of the proof: see the last text. -/
import Derived.Test.YtibneekkkdnmgaaGreatDoorLCoreChainsA
import Derived.Test.YtibneekkkdnmgaaGreatDoorLCoreChainsB
import Derived.Test.YtibneekkkdnmgaaGreatDoorPH
import Derived.Test.YtibneekkkdnmgaaGreatDoorRows
import Derived.WalkKit
import Derived.ProofKit
import Derived.OpenShut
import Derived.ShutString
import Derived.ChangeOld
import Derived.Below
import Derived.SizedLaws
import Derived.Test.YtibneekkkdnmgaaGreatDoorCards
import Derived.Test.YtibneekkkdnmgaaGreatDoorTie
import Derived.LaidMore
import Derived.Lay
import Derived.SevenTiedAt
import Derived.Stop.Joined
set_option linter.all false
set_option maxRecDepth 100000
set_option synthInstance.maxSize 100000
open List renaming getElem?_eq_some_iff→av,getElem?_append_left→cO
open Option renaming some→bE
namespace Go.Proofs.YtibneekkkdnmgaaGreatDoor.uU
open Go.ChangeShapes Go.WideShapes Go.ChangeAt Go.RowKit Go.Den Go.Sep Go.Prog Go.Up
open Go.ChangeMaps (open_string shut_string)
theorem lifted(os:Os)(started:os.Started)(H:Type)(enc:TypeId×Value->H):
 ReturnsInHanded {} Tryz.checked os 10 .any (λw args=>(Rows.coreChainsSpec.pre enc Tryz.prog Tryz.f10 Rows.coreChainsRow.domain false w args/\laidMetH Tryz.prog Rows.coreChainsRow.laid w)/\sizedMet enc Tryz.prog Tryz.f10 (OpenSpec.ofChange Rows.coreChainsSpec) false w args)
  (Rows.coreChainsSpec.post enc Tryz.prog Tryz.f10 false true false false):=by
 refine returnsInHanded_of_change_and (C:=Tryz.checked) (X:=λw _=>laidMetH Tryz.prog Rows.coreChainsRow.laid w) (λ_ _ _ hh h=>h.of_heap hh) acL started (by kernel_rfl) Tryz.func10
  (ChangeSpec.witness_shaped (enc:=enc) (C:=Tryz.checked) (os:=os) (X:=λw _=>laidMetH Tryz.prog Rows.coreChainsRow.laid w) false (World.laidAll Tryz.prog os Rows.coreChainsRow.laid) #[.slice none 0 0] 8 (World.laidAll_os _ _ _)
   (pS os _) (by kernel_rfl) (by kernel_rfl) (by kernel_rfl)
   (by rw[MakeChecks.laidMetH_plain _ _ _ (by kernel_rfl)];exact laidMet_laidAll _ (pL1 os) (pL2 os))) ?_
 intro W base args ds gs before TZ hW afA aa2 T7 _;have qX:(DataW.weightsEach Tryz.prog (Tryz.f10.params.toList++Rows.coreChainsSpec.plain.varTypes Tryz.prog) (ds++gs)).all (·<=reachBytes)=true:=aa2;have Aw:∀(j:Nat) t v,Tryz.f10.params[j]?=some t->args[j]?=some v->Value.okWide Tryz.prog W .any base t v:=TZ;have hW':=hW;obtain⟨p,q,hA0,hV,rfl,hfz,Kb⟩:=hW;have hA:DataW.TrodAll enc Tryz.prog W 0 (λ_=>true) true Tryz.f10.params.toList args.toList ds p:=hA0;have hA1:=hA;rw[Tryz.params10] at hA Aw qX;obtain⟨v0,vs0,d0,ds0,p0,q0,BK,rfl,rfl,h0,r0⟩:=trodAll_cons hA;obtain⟨rfl,rfl,rfl⟩:=trodAll_nil r0;obtain rfl:args=#[v0]:=by cases args;simp_all
 obtain⟨rfl,rfl⟩:=trodVars_none hV;have hwt:∀(j:Nat) t d,([22]:List TypeId)[j]?=some t->([d0]:List _)[j]?=some d->∀n∈d.weights Tryz.prog t,n<=reachBytes:=λj t d ht hd n hn=>by
  have:=List.all_eq_true.1 qX n (DataW.weights_mem_each (j:=j) (t:=t) (d:=d) ?_ ?_ n hn)
  ·simpa using this
  ·have cj:=(av.1 ht).1;rw[cO (by simpa using cj)];exact ht
  ·have cj:=(av.1 hd).1;rw[cO (by simpa using cj)];exact hd
 obtain⟨a0,n0,c0,x0,rfl,ro0,el0,by0,mx0⟩:=As (f:=5) (ks:=[.i .i64,.s,.i .u64,.i .i64,.i .i64,.i .i64]) Tryz.underlying22 (by kernel_rfl) (by kernel_rfl) (Aw 0 22 v0 rfl rfl) h0 (hwt 0 22 d0 rfl rfl);refine(e10.2 _ _ W (G7 (W:=W) (adK T7) ro0 el0 mx0:U [.l] aK _ (λv w'=>v=.bool true/\Below W.heap.size W w') W)).mono λe W' ⟨v,he,hv,bel⟩=>?_;subst he hv;exact⟨_,rfl,_,_,_,[],_,[],hW',trodAll_mk1 (shut_bool Tryz.underlying4 _),Go.Sep.Below.trodAll Go.Proofs.YtibneekkkdnmgaaGreatDoor.p2 bel (by kernel_rfl) hA1,rfl,bel.frame _,λh=>by cases h⟩
theorem over:Rows.coreChainsRow.holds Tryz.pinned (OpenSpec.ofChange Rows.coreChainsSpec):=
 OpenClaim.holds_of_wide 10 Tryz.f10 rfl rfl rfl rfl rfl rfl rfl ⟨rfl,rfl,rfl,rfl,rfl⟩ rfl rfl rfl rfl rfl (by kernel_rfl) Tryz.func10 closed
  (of_decide_eq_true (by kernel_rfl)) (by unfold Func.isWrapper;first|(rw[if_pos (by decide+kernel)];kernel_rfl)|(rw[if_neg (by decide+kernel)];exact⟨rfl,rfl⟩))
  (λos started H enc _=>lifted os started H enc)
theorem plain(f:FuncId)(fn:Func)(hf:Tryz.pinned.checked.prog.funcNamed Rows.coreChainsRow.func=some f)(hfn:Tryz.pinned.checked.prog.funcs[f]?=some fn):
 false=Tryz.pinned.checked.prog.looks []/\∀(j:Nat) t,fn.params[j]?=some t->Tryz.pinned.checked.prog.wantsStandIn t=false:=by
 obtain rfl:f=10:=bE.inj ((show Tryz.prog.funcNamed Rows.coreChainsRow.func=some 10 by kernel_rfl).symm.trans hf)|>.symm;obtain rfl:fn=Tryz.f10:=(bE.inj (Tryz.func10.symm.trans hfn)).symm;refine⟨Zh,λj t ht=>?_⟩;rw[Tryz.params10] at ht;have hm:t∈[22]:=by simpa using Array.mem_of_getElem? ht
 have fx:([22].all λu=> !Tryz.prog.wantsStandIn u)=true:=by kernel_rfl
 exact(show Tryz.prog.wantsStandIn t=false by simpa using List.all_eq_true.1 fx t hm)
theorem US:OpenClaim.wfByText (OpenSpec.ofChange Rows.coreChainsSpec) Rows.coreChainsRow=true:=by kernel_rfl
theorem UR:Tryz.pinned.checked.prog.mainIs=some (Rows.coreChainsCard.stood.harness.fst,Rows.coreChainsCard.stood.harness.snd.toList):=Zg
theorem UQ:false=Rows.coreChainsRow.goesBy Tryz.pinned.checked.prog:=by kernel_rfl
theorem abL:Rows.CoreChainsCardSaid:=
 Claim7.holds_tied_plain_at .later [] _ _ _ _ over (λ_ h=>by cases h) US (λ_ h=>by cases h) coreChains_row_tie rfl ⟨rfl,rfl⟩ UR rfl plain UQ
end Go.Proofs.YtibneekkkdnmgaaGreatDoor.uU
namespace Go.Proofs.YtibneekkkdnmgaaGreatDoor
theorem RP:Rows.CoreChainsSaid:=uU.over
theorem coreChains_card:Rows.CoreChainsCardSaid:=uU.abL
end Go.Proofs.YtibneekkkdnmgaaGreatDoor
