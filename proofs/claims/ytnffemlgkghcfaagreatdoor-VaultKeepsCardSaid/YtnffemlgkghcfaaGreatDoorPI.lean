/- Part of the proof: see the last text. -/
import Derived.Test.YtnffemlgkghcfaaGreatDoorPF
import Derived.Test.YtnffemlgkghcfaaGreatDoorPH
import Derived.Test.YtnffemlgkghcfaaGreatDoorRows
import Derived.WalkKit
import Derived.ProofKit
import Derived.OpenShut
import Derived.ShutString
import Derived.ChangeOld
import Derived.Below
import Derived.SizedLaws
import Derived.Test.YtnffemlgkghcfaaGreatDoorCards
import Derived.Test.YtnffemlgkghcfaaGreatDoorTie
import Derived.LaidMore
import Derived.Lay
import Derived.SevenTiedAt
import Derived.Stop.Joined
set_option linter.all false
set_option maxRecDepth 100000
set_option synthInstance.maxSize 100000
open List renaming getElem?_eq_some_iff→adZ,getElem?_append_left→ael
open Option renaming some→aeh
namespace Go.Proofs.YtnffemlgkghcfaaGreatDoor.oA
open Go.ChangeShapes Go.WideShapes Go.ChangeAt Go.RowKit Go.Den Go.Sep Go.Prog Go.Up
open Go.ChangeMaps (open_string shut_string)
theorem own:ownKnob Tryz.prog.godebug=none:=by kernel_rfl
theorem laidOut:laidOutB Tryz.prog=true:=by kernel_rfl
theorem lifted(os:Os)(started:os.Started)(H:Type)(enc:TypeId×Value->H):
 ReturnsInHanded {} Tryz.checked os 6 .any (λw args=>(Rows.vaultKeepsSpec.pre enc Tryz.prog Tryz.f6 Rows.vaultKeepsRow.domain false w args/\laidMetH Tryz.prog Rows.vaultKeepsRow.laid w)/\sizedMet enc Tryz.prog Tryz.f6 (OpenSpec.ofChange Rows.vaultKeepsSpec) false w args)
  (Rows.vaultKeepsSpec.post enc Tryz.prog Tryz.f6 false true false false):=by
 refine returnsInHanded_of_change_and (C:=Tryz.checked) (X:=λw _=>laidMetH Tryz.prog Rows.vaultKeepsRow.laid w) (λ_ _ _ hh h=>h.of_heap hh) own started (by kernel_rfl) Tryz.func6
  (ChangeSpec.witness_shaped (enc:=enc) (C:=Tryz.checked) (os:=os) (X:=λw _=>laidMetH Tryz.prog Rows.vaultKeepsRow.laid w) false (World.laidAll Tryz.prog os Rows.vaultKeepsRow.laid) #[.i 0,.slice none 0 0] 8 (World.laidAll_os _ _ _)
   (World.shaped_of_ZipB (by kernel_rfl) (by kernel_rfl)) (by kernel_rfl) (by kernel_rfl) (by kernel_rfl)
   (by rw[MakeChecks.laidMetH_plain _ _ _ (by kernel_rfl)];exact laidMet_laidAll _ (by kernel_rfl) (by kernel_rfl))) ?_
 intro W base args ds gs before Xv hW adQ aav XW _;have ou:(DataW.weightsEach Tryz.prog (Tryz.f6.params.toList++Rows.vaultKeepsSpec.plain.varTypes Tryz.prog) (ds++gs)).all (·<=reachBytes)=true:=aav;have Bq:∀(j:Nat) t v,Tryz.f6.params[j]?=some t->args[j]?=some v->Value.okWide Tryz.prog W .any base t v:=Xv;have hW':=hW;obtain⟨p,q,hA0,hV,rfl,Z2,Gy⟩:=hW;have hA:DataW.TrodAll enc Tryz.prog W 0 (λ_=>true) true Tryz.f6.params.toList args.toList ds p:=hA0;have WA:=hA;rw[Tryz.params6] at hA Bq ou;obtain⟨v0,vs0,d0,ds0,p0,q0,y6,rfl,rfl,h0,r0⟩:=trodAll_cons hA;obtain⟨v1,vs1,d1,ds1,p1,q1,rfl,rfl,rfl,h1,r1⟩:=trodAll_cons r0;obtain⟨rfl,rfl,rfl⟩:=trodAll_nil r1;obtain rfl:args=#[v0,v1]:=by cases args;simp_all
 obtain⟨rfl,rfl⟩:=trodVars_none hV;have hwt:∀(j:Nat) t d,([3,22]:List TypeId)[j]?=some t->([d0,d1]:List _)[j]?=some d->∀n∈d.weights Tryz.prog t,n<=reachBytes:=λj t d ht hd n hn=>by
  have:=List.all_eq_true.1 ou n (DataW.weights_mem_each (j:=j) (t:=t) (d:=d) ?_ ?_ n hn)
  ·simpa using this
  ·have aZ:=(adZ.1 ht).1;rw[ael (by simpa using aZ)];exact ht
  ·have aZ:=(adZ.1 hd).1;rw[ael (by simpa using aZ)];exact hd
 obtain⟨a0,rfl,_,_,w0⟩:=open_int Tryz.underlying3 (Bq 0 3 v0 rfl rfl) h0;obtain⟨a1,n1,c1,x1,rfl,ro1,el1,mx1,cp1⟩:=K2 (f:=6) (ks:=KB) Tryz.underlying22 (by kernel_rfl) (by kernel_rfl) (Bq 1 22 v1 rfl rfl) h1 (hwt 1 22 d1 rfl rfl);refine(e6.2 _ _ W (Cb (W:=W) (aa' XW) ro1 el1 mx1:U [.n,.l] ag _ (λv w'=>v=.bool true/\Below W.heap.size W w') W)).mono λe W' ⟨v,he,hv,bel⟩=>?_;subst he hv;exact⟨_,rfl,_,_,_,[],_,[],hW',trodAll_mk1 (shut_bool Tryz.underlying4 _),Go.Sep.Below.trodAll laidOut bel (by kernel_rfl) WA,rfl,bel.frame _,λh=>by cases h⟩
theorem over:Rows.vaultKeepsRow.holds Tryz.pinned (OpenSpec.ofChange Rows.vaultKeepsSpec):=
 OpenClaim.holds_of_wide 6 Tryz.f6 rfl rfl rfl rfl rfl rfl rfl ⟨rfl,rfl,rfl,rfl,rfl⟩ rfl rfl rfl rfl rfl (by kernel_rfl) Tryz.func6 closed
  (of_decide_eq_true (by kernel_rfl)) (by unfold Func.isWrapper;first|(rw[if_pos (by decide+kernel)];kernel_rfl)|(rw[if_neg (by decide+kernel)];exact⟨rfl,rfl⟩))
  (λos started H enc _=>lifted os started H enc)
theorem plain(f:FuncId)(fn:Func)(hf:Tryz.pinned.checked.prog.funcNamed Rows.vaultKeepsRow.func=some f)(Z4:Tryz.pinned.checked.prog.funcs[f]?=some fn):
 false=Tryz.pinned.checked.prog.looks []/\∀(j:Nat) t,fn.params[j]?=some t->Tryz.pinned.checked.prog.wantsStandIn t=false:=by
 obtain rfl:f=6:=aeh.inj ((show Tryz.prog.funcNamed Rows.vaultKeepsRow.func=some 6 by kernel_rfl).symm.trans hf)|>.symm;obtain rfl:fn=Tryz.f6:=(aeh.inj (Tryz.func6.symm.trans Z4)).symm;refine⟨by kernel_rfl,λj t ht=>?_⟩;rw[Tryz.params6] at ht;have hm:t∈[3,22]:=by simpa using Array.mem_of_getElem? ht
 have fJ:([3,22].all λu=> !Tryz.prog.wantsStandIn u)=true:=by kernel_rfl
 exact(show Tryz.prog.wantsStandIn t=false by simpa using List.all_eq_true.1 fJ t hm)
theorem ac1:Rows.VaultKeepsCardSaid:=
 Claim7.holds_tied_plain_at .later [] _ _ _ _ over (λ_ h=>by cases h) (by kernel_rfl) (λ_ h=>by cases h) vaultKeeps_row_tie rfl ⟨rfl,rfl⟩ (by kernel_rfl) rfl plain (by kernel_rfl)
end Go.Proofs.YtnffemlgkghcfaaGreatDoor.oA
namespace Go.Proofs.YtnffemlgkghcfaaGreatDoor
theorem vaultKeeps_card:Rows.VaultKeepsCardSaid:=oA.ac1
end Go.Proofs.YtnffemlgkghcfaaGreatDoor
