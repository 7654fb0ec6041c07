/- Part of the proof: see the last text. -/
import Derived.Test.YtibneekkkdnmgaaGreatDoorPF
import Derived.Test.YtibneekkkdnmgaaGreatDoorPH
import Derived.Test.YtibneekkkdnmgaaGreatDoorPI
import Derived.Test.YtibneekkkdnmgaaGreatDoorRows
import Derived.WalkKit
import Derived.ProofKit
import Derived.OpenShut
import Derived.ShutString
import Derived.ChangeOld
import Derived.Below
import Derived.SizedLaws
import Derived.Test.YtibneekkkdnmgaaGreatDoorCards
import Derived.Test.YtibneekkkdnmgaaGreatDoorTie
import Derived.LaidMore
import Derived.Lay
import Derived.SevenTiedAt
import Derived.Stop.Joined
namespace Go.Sep
open Go.RowKit Go.ChangeShapes Go.WideShapes
theorem Below.trodAll {H : Type} {enc : TypeId × Value → H} {P : Program} (hl : laidOutB P = true) {W W' : World} (hb : Below W.heap.size W W') :
    ∀ {ts : List TypeId} {vs : List Value} {ds : List (DataW H)} {ps : List MemPlace}, ts.all (fun t => P.readableRec t && decide (t < P.types.size)) = true →
    DataW.TrodAll enc P W 0 (fun _ => true) true ts vs ds ps → DataW.TrodAll enc P W' 0 (fun b => decide (b < W.heap.size)) true ts vs ds ps
  | [], vs, ds, ps, _, h => by
    cases vs <;> cases ds <;> simp [DataW.TrodAll] at h ⊢
    exact h
  | t :: ts, vs, ds, ps, hr, h => by
    simp only [List.all_cons, Bool.and_eq_true, decide_eq_true_eq] at hr
    have hlt := DataW.TrodAll.lt h
    obtain ⟨v, vs', d, ds', p, q, rfl, rfl, rfl, h1, h2⟩ := trodAll_cons h
    exact ⟨p, q, Go.RowKit.Below.trod hl hr.1.1 hr.1.2 h1 hb (fun x hx => hlt x (by simp [hx])), Below.trodAll hl hb hr.2 h2, rfl⟩
end Go.Sep
set_option linter.all false
set_option maxRecDepth 100000
set_option synthInstance.maxSize 100000
open List renaming getElem?_eq_some_iff→aw,getElem?_append_left→dB
open Option renaming some→bE
namespace Go.Proofs.YtibneekkkdnmgaaGreatDoor.yG
open Go.ChangeShapes Go.WideShapes Go.ChangeAt Go.RowKit Go.Den Go.Sep Go.Prog Go.Up
open Go.ChangeMaps (open_string shut_string)
theorem lifted(os:Os)(started:os.Started)(H:Type)(enc:TypeId×Value->H):
 ReturnsInHanded {} Tryz.checked os 5 .any (λw args=>(Rows.coreSumsSpec.pre enc Tryz.prog Tryz.f5 Rows.coreSumsRow.domain false w args/\laidMetH Tryz.prog Rows.coreSumsRow.laid w)/\sizedMet enc Tryz.prog Tryz.f5 (OpenSpec.ofChange Rows.coreSumsSpec) false w args)
  (Rows.coreSumsSpec.post enc Tryz.prog Tryz.f5 false true false false):=by
 refine returnsInHanded_of_change_and (C:=Tryz.checked) (X:=λw _=>laidMetH Tryz.prog Rows.coreSumsRow.laid w) (λ_ _ _ hh h=>h.of_heap hh) adP started (by kernel_rfl) Tryz.func5
  (ChangeSpec.witness_shaped (enc:=enc) (C:=Tryz.checked) (os:=os) (X:=λw _=>laidMetH Tryz.prog Rows.coreSumsRow.laid w) false (World.laidAll Tryz.prog os Rows.coreSumsRow.laid) #[.slice none 0 0] 8 (World.laidAll_os _ _ _)
   (pS os _) (by kernel_rfl) (by kernel_rfl) (by kernel_rfl)
   (by rw[MakeChecks.laidMetH_plain _ _ _ (by kernel_rfl)];exact laidMet_laidAll _ (pL1 os) (pL2 os))) ?_
 intro W base args ds gs before abT hW ahw adV aca _;have se:(DataW.weightsEach Tryz.prog (Tryz.f5.params.toList++Rows.coreSumsSpec.plain.varTypes Tryz.prog) (ds++gs)).all (·<=reachBytes)=true:=adV;have Gn:∀(j:Nat) t v,Tryz.f5.params[j]?=some t->args[j]?=some v->Value.okWide Tryz.prog W .any base t v:=abT;have hW':=hW;obtain⟨p,q,hA0,hV,rfl,hfz,KD⟩:=hW;have hA:DataW.TrodAll enc Tryz.prog W 0 (λ_=>true) true Tryz.f5.params.toList args.toList ds p:=hA0;have hA1:=hA;rw[Tryz.params5] at hA Gn se;obtain⟨v0,vs0,d0,ds0,p0,q0,CE,rfl,rfl,h0,r0⟩:=trodAll_cons hA;obtain⟨rfl,rfl,rfl⟩:=trodAll_nil r0;obtain rfl:args=#[v0]:=by cases args;simp_all
 obtain⟨rfl,rfl⟩:=trodVars_none hV;have hwt:∀(j:Nat) t d,([22]:List TypeId)[j]?=some t->([d0]:List _)[j]?=some d->∀n∈d.weights Tryz.prog t,n<=reachBytes:=λj t d ht hd n hn=>by
  have:=List.all_eq_true.1 se n (DataW.weights_mem_each (j:=j) (t:=t) (d:=d) ?_ ?_ n hn)
  ·simpa using this
  ·have cf:=(aw.1 ht).1;rw[dB (by simpa using cf)];exact ht
  ·have cf:=(aw.1 hd).1;rw[dB (by simpa using cf)];exact hd
 obtain⟨a0,n0,c0,x0,rfl,ro0,el0,by0,mx0⟩:=MB (f:=5) (ks:=[.i .i64,.s,.i .u64,.i .i64,.i .i64,.i .i64]) Tryz.underlying22 (by kernel_rfl) (by kernel_rfl) (Gn 0 22 v0 rfl rfl) h0 (hwt 0 22 d0 rfl rfl);refine(e5.2 _ _ W (Lb (W:=W) (aex aca) ro0 el0 mx0:U [.l] ko _ (λv w'=>v=.bool true/\Below W.heap.size W w') W)).mono λe W' ⟨v,he,hv,bel⟩=>?_;subst he hv;exact⟨_,rfl,_,_,_,[],_,[],hW',trodAll_mk1 (shut_bool Tryz.underlying4 _),Go.Sep.Below.trodAll Go.Proofs.YtibneekkkdnmgaaGreatDoor.p2 bel (by kernel_rfl) hA1,rfl,bel.frame _,λh=>by cases h⟩
theorem over:Rows.coreSumsRow.holds Tryz.pinned (OpenSpec.ofChange Rows.coreSumsSpec):=
 OpenClaim.holds_of_wide 5 Tryz.f5 rfl rfl rfl rfl rfl rfl rfl ⟨rfl,rfl,rfl,rfl,rfl⟩ rfl rfl rfl rfl rfl (by kernel_rfl) Tryz.func5 closed
  (of_decide_eq_true (by kernel_rfl)) (by unfold Func.isWrapper;first|(rw[if_pos (by decide+kernel)];kernel_rfl)|(rw[if_neg (by decide+kernel)];exact⟨rfl,rfl⟩))
  (λos started H enc _=>lifted os started H enc)
theorem plain(f:FuncId)(fn:Func)(hf:Tryz.pinned.checked.prog.funcNamed Rows.coreSumsRow.func=some f)(hfn:Tryz.pinned.checked.prog.funcs[f]?=some fn):
 false=Tryz.pinned.checked.prog.looks []/\∀(j:Nat) t,fn.params[j]?=some t->Tryz.pinned.checked.prog.wantsStandIn t=false:=by
 obtain rfl:f=5:=bE.inj ((show Tryz.prog.funcNamed Rows.coreSumsRow.func=some 5 by kernel_rfl).symm.trans hf)|>.symm;obtain rfl:fn=Tryz.f5:=(bE.inj (Tryz.func5.symm.trans hfn)).symm;refine⟨abD,λj t ht=>?_⟩;rw[Tryz.params5] at ht;have hm:t∈[22]:=by simpa using Array.mem_of_getElem? ht
 have gh:([22].all λu=> !Tryz.prog.wantsStandIn u)=true:=by kernel_rfl
 exact(show Tryz.prog.wantsStandIn t=false by simpa using List.all_eq_true.1 gh t hm)
theorem adv:OpenClaim.wfByText (OpenSpec.ofChange Rows.coreSumsSpec) Rows.coreSumsRow=true:=by kernel_rfl
theorem adu:Tryz.pinned.checked.prog.mainIs=some (Rows.coreSumsCard.stood.harness.fst,Rows.coreSumsCard.stood.harness.snd.toList):=abC
theorem adt:false=Rows.coreSumsRow.goesBy Tryz.pinned.checked.prog:=by kernel_rfl
theorem agJ:Rows.CoreSumsCardSaid:=
 Claim7.holds_tied_plain_at .later [] _ _ _ _ over (λ_ h=>by cases h) adv (λ_ h=>by cases h) coreSums_row_tie rfl ⟨rfl,rfl⟩ adu rfl plain adt
end Go.Proofs.YtibneekkkdnmgaaGreatDoor.yG
namespace Go.Proofs.YtibneekkkdnmgaaGreatDoor
theorem TE:Rows.CoreSumsSaid:=yG.over
theorem coreSums_card:Rows.CoreSumsCardSaid:=yG.agJ
end Go.Proofs.YtibneekkkdnmgaaGreatDoor
