/- Part of the proof: see the last text. -/
import Derived.Test.YtibneekkkdnmgaaGreatDoorLCoreAgainA
import Derived.Test.YtibneekkkdnmgaaGreatDoorLCoreAgainB
import Derived.Test.YtibneekkkdnmgaaGreatDoorPH
import Derived.Test.YtibneekkkdnmgaaGreatDoorRows
import Derived.WalkKit
import Derived.ProofKit
import Derived.OpenShut
import Derived.ShutString
import Derived.ChangeOld
import Derived.Below
import Derived.SizedLaws
import Derived.Test.YtibneekkkdnmgaaGreatDoorCards
import Derived.Test.YtibneekkkdnmgaaGreatDoorTie
import Derived.LaidMore
import Derived.Lay
import Derived.SevenTiedAt
import Derived.Stop.Joined
set_option linter.all false
set_option maxRecDepth 100000
set_option synthInstance.maxSize 100000
open List renaming getElem?_eq_some_iff→av,getElem?_append_left→cO
open Option renaming some→bE
namespace Go.Proofs.YtibneekkkdnmgaaGreatDoor.wK
open Go.ChangeShapes Go.WideShapes Go.ChangeAt Go.RowKit Go.Den Go.Sep Go.Prog Go.Up
open Go.ChangeMaps (open_string shut_string)
theorem lifted(os:Os)(started:os.Started)(H:Type)(enc:TypeId×Value->H):
 ReturnsInHanded {} Tryz.checked os 11 .any (λw args=>(Rows.coreAgainSpec.pre enc Tryz.prog Tryz.f11 Rows.coreAgainRow.domain false w args/\laidMetH Tryz.prog Rows.coreAgainRow.laid w)/\sizedMet enc Tryz.prog Tryz.f11 (OpenSpec.ofChange Rows.coreAgainSpec) false w args)
  (Rows.coreAgainSpec.post enc Tryz.prog Tryz.f11 false true false false):=by
 refine returnsInHanded_of_change_and (C:=Tryz.checked) (X:=λw _=>laidMetH Tryz.prog Rows.coreAgainRow.laid w) (λ_ _ _ hh h=>h.of_heap hh) acL started (by kernel_rfl) Tryz.func11
  (ChangeSpec.witness_shaped (enc:=enc) (C:=Tryz.checked) (os:=os) (X:=λw _=>laidMetH Tryz.prog Rows.coreAgainRow.laid w) false (World.laidAll Tryz.prog os Rows.coreAgainRow.laid) #[.slice none 0 0,.string ByteArray.empty,.slice none 0 0] 8 (World.laidAll_os _ _ _)
   (pS os _) (by kernel_rfl) (by kernel_rfl) (by kernel_rfl)
   (by rw[MakeChecks.laidMetH_plain _ _ _ (by kernel_rfl)];exact laidMet_laidAll _ (pL1 os) (pL2 os))) ?_
 intro W base args ds gs before TZ hW afA aa2 T7 _;have qX:(DataW.weightsEach Tryz.prog (Tryz.f11.params.toList++Rows.coreAgainSpec.plain.varTypes Tryz.prog) (ds++gs)).all (·<=reachBytes)=true:=aa2;have Aw:∀(j:Nat) t v,Tryz.f11.params[j]?=some t->args[j]?=some v->Value.okWide Tryz.prog W .any base t v:=TZ;have hW':=hW;obtain⟨p,q,hA0,hV,rfl,hfz,Kb⟩:=hW;have hA:DataW.TrodAll enc Tryz.prog W 0 (λ_=>true) true Tryz.f11.params.toList args.toList ds p:=hA0;have hA1:=hA;rw[Tryz.params11] at hA Aw qX;obtain⟨v0,vs0,d0,ds0,p0,q0,BK,rfl,rfl,h0,r0⟩:=trodAll_cons hA;obtain⟨v1,vs1,d1,ds1,p1,q1,rfl,rfl,rfl,h1,r1⟩:=trodAll_cons r0;obtain⟨v2,yz,d2,ds2,p2,q2,rfl,rfl,rfl,h2,r2⟩:=trodAll_cons r1;obtain⟨rfl,rfl,rfl⟩:=trodAll_nil r2;obtain rfl:args=#[v0,v1,v2]:=by cases args;simp_all
 obtain⟨rfl,rfl⟩:=trodVars_none hV;have hwt:∀(j:Nat) t d,([22,9,22]:List TypeId)[j]?=some t->([d0,d1,d2]:List _)[j]?=some d->∀n∈d.weights Tryz.prog t,n<=reachBytes:=λj t d ht hd n hn=>by
  have:=List.all_eq_true.1 qX n (DataW.weights_mem_each (j:=j) (t:=t) (d:=d) ?_ ?_ n hn)
  ·simpa using this
  ·have cj:=(av.1 ht).1;rw[cO (by simpa using cj)];exact ht
  ·have cj:=(av.1 hd).1;rw[cO (by simpa using cj)];exact hd
 obtain⟨a0,n0,c0,x0,rfl,ro0,el0,by0,mx0⟩:=As (f:=5) (ks:=[.i .i64,.s,.i .u64,.i .i64,.i .i64,.i .i64]) Tryz.underlying22 (by kernel_rfl) (by kernel_rfl) (Aw 0 22 v0 rfl rfl) h0 (hwt 0 22 d0 rfl rfl);obtain⟨a1,rfl,rfl,_,y1⟩:=open_string Tryz.underlying9 (Aw 1 9 v1 rfl rfl) h1;have w1:a1.size<=reachBytes:=by have z:=hwt 1 9 _ rfl rfl a1.data.toList.length (by simp[DataW.weights]);simpa using z
 obtain⟨a2,n2,c2,x2,rfl,ro2,el2,by2,mx2⟩:=As (f:=5) (ks:=[.i .i64,.s,.i .u64,.i .i64,.i .i64,.i .i64]) Tryz.underlying22 (by kernel_rfl) (by kernel_rfl) (Aw 2 22 v2 rfl rfl) h2 (hwt 2 22 d2 rfl rfl);refine(e11.2 _ _ W (JO (W:=W) (adK T7) ro0 el0 mx0 w1 ro2 el2 mx2:U [.l,.s,.l] bg _ (λv w'=>v=.bool true/\Below W.heap.size W w') W)).mono λe W' ⟨v,he,hv,bel⟩=>?_;subst he hv;exact⟨_,rfl,_,_,_,[],_,[],hW',trodAll_mk1 (shut_bool Tryz.underlying4 _),Go.Sep.Below.trodAll Go.Proofs.YtibneekkkdnmgaaGreatDoor.p2 bel (by kernel_rfl) hA1,rfl,bel.frame _,λh=>by cases h⟩
theorem over:Rows.coreAgainRow.holds Tryz.pinned (OpenSpec.ofChange Rows.coreAgainSpec):=
 OpenClaim.holds_of_wide 11 Tryz.f11 rfl rfl rfl rfl rfl rfl rfl ⟨rfl,rfl,rfl,rfl,rfl⟩ rfl rfl rfl rfl rfl (by kernel_rfl) Tryz.func11 closed
  (of_decide_eq_true (by kernel_rfl)) (by unfold Func.isWrapper;first|(rw[if_pos (by decide+kernel)];kernel_rfl)|(rw[if_neg (by decide+kernel)];exact⟨rfl,rfl⟩))
  (λos started H enc _=>lifted os started H enc)
theorem plain(f:FuncId)(fn:Func)(hf:Tryz.pinned.checked.prog.funcNamed Rows.coreAgainRow.func=some f)(hfn:Tryz.pinned.checked.prog.funcs[f]?=some fn):
 false=Tryz.pinned.checked.prog.looks []/\∀(j:Nat) t,fn.params[j]?=some t->Tryz.pinned.checked.prog.wantsStandIn t=false:=by
 obtain rfl:f=11:=bE.inj ((show Tryz.prog.funcNamed Rows.coreAgainRow.func=some 11 by kernel_rfl).symm.trans hf)|>.symm;obtain rfl:fn=Tryz.f11:=(bE.inj (Tryz.func11.symm.trans hfn)).symm;refine⟨Zh,λj t ht=>?_⟩;rw[Tryz.params11] at ht;have hm:t∈[22,9,22]:=by simpa using Array.mem_of_getElem? ht
 have fx:([22,9,22].all λu=> !Tryz.prog.wantsStandIn u)=true:=by kernel_rfl
 exact(show Tryz.prog.wantsStandIn t=false by simpa using List.all_eq_true.1 fx t hm)
theorem US:OpenClaim.wfByText (OpenSpec.ofChange Rows.coreAgainSpec) Rows.coreAgainRow=true:=by kernel_rfl
theorem UR:Tryz.pinned.checked.prog.mainIs=some (Rows.coreAgainCard.stood.harness.fst,Rows.coreAgainCard.stood.harness.snd.toList):=Zg
theorem UQ:false=Rows.coreAgainRow.goesBy Tryz.pinned.checked.prog:=by kernel_rfl
theorem abL:Rows.CoreAgainCardSaid:=
 Claim7.holds_tied_plain_at .later [] _ _ _ _ over (λ_ h=>by cases h) US (λ_ h=>by cases h) coreAgain_row_tie rfl ⟨rfl,rfl⟩ UR rfl plain UQ
end Go.Proofs.YtibneekkkdnmgaaGreatDoor.wK
namespace Go.Proofs.YtibneekkkdnmgaaGreatDoor
theorem Sr:Rows.CoreAgainSaid:=wK.over
theorem coreAgain_card:Rows.CoreAgainCardSaid:=wK.abL
end Go.Proofs.YtibneekkkdnmgaaGreatDoor
