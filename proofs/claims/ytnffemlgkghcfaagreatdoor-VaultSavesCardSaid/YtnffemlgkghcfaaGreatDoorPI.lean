/- Part of the proof: see the last text. -/
import Derived.Test.YtnffemlgkghcfaaGreatDoorPF
import Derived.Test.YtnffemlgkghcfaaGreatDoorPH
import Derived.Test.YtnffemlgkghcfaaGreatDoorRows
import Derived.WalkKit
import Derived.ProofKit
import Derived.OpenShut
import Derived.ShutString
import Derived.ChangeOld
import Derived.Below
import Derived.SizedLaws
import Derived.Test.YtnffemlgkghcfaaGreatDoorCards
import Derived.Test.YtnffemlgkghcfaaGreatDoorTie
import Derived.LaidMore
import Derived.Lay
import Derived.SevenTiedAt
import Derived.Stop.Joined
set_option linter.all false
set_option maxRecDepth 100000
set_option synthInstance.maxSize 100000
open List renaming getElem?_eq_some_iff→adU,getElem?_append_left→aef
open Option renaming some→aec
namespace Go.Proofs.YtnffemlgkghcfaaGreatDoor.od
open Go.ChangeShapes Go.WideShapes Go.ChangeAt Go.RowKit Go.Den Go.Sep Go.Prog Go.Up
open Go.ChangeMaps (open_string shut_string)
theorem own:ownKnob Tryz.prog.godebug=none:=by kernel_rfl
theorem laidOut:laidOutB Tryz.prog=true:=by kernel_rfl
theorem lifted(os:Os)(started:os.Started)(H:Type)(enc:TypeId×Value->H):
 ReturnsInHanded {} Tryz.checked os 4 .any (λw args=>(Rows.vaultSavesSpec.pre enc Tryz.prog Tryz.f4 Rows.vaultSavesRow.domain false w args/\laidMetH Tryz.prog Rows.vaultSavesRow.laid w)/\sizedMet enc Tryz.prog Tryz.f4 (OpenSpec.ofChange Rows.vaultSavesSpec) false w args)
  (Rows.vaultSavesSpec.post enc Tryz.prog Tryz.f4 false true false false):=by
 refine returnsInHanded_of_change_and (C:=Tryz.checked) (X:=λw _=>laidMetH Tryz.prog Rows.vaultSavesRow.laid w) (λ_ _ _ hh h=>h.of_heap hh) own started (by kernel_rfl) Tryz.func4
  (ChangeSpec.witness_shaped (enc:=enc) (C:=Tryz.checked) (os:=os) (X:=λw _=>laidMetH Tryz.prog Rows.vaultSavesRow.laid w) false (World.laidAll Tryz.prog os Rows.vaultSavesRow.laid) #[.i 0,.slice none 0 0,.i 0] 8 (World.laidAll_os _ _ _)
   (World.shaped_of_ZipB (by kernel_rfl) (by kernel_rfl)) (by kernel_rfl) (by kernel_rfl) (by kernel_rfl)
   (by rw[MakeChecks.laidMetH_plain _ _ _ (by kernel_rfl)];exact laidMet_laidAll _ (by kernel_rfl) (by kernel_rfl))) ?_
 intro W base args ds gs before Xi hW adL aaq XE _;have nV:(DataW.weightsEach Tryz.prog (Tryz.f4.params.toList++Rows.vaultSavesSpec.plain.varTypes Tryz.prog) (ds++gs)).all (·<=reachBytes)=true:=aaq;have zt:∀(j:Nat) t v,Tryz.f4.params[j]?=some t->args[j]?=some v->Value.okWide Tryz.prog W .any base t v:=Xi;have hW':=hW;obtain⟨p,q,hA0,hV,rfl,ZG,F'⟩:=hW;have hA:DataW.TrodAll enc Tryz.prog W 0 (λ_=>true) true Tryz.f4.params.toList args.toList ds p:=hA0;have Wl:=hA;rw[Tryz.params4] at hA zt nV;obtain⟨v0,vs0,d0,ds0,p0,q0,yW,rfl,rfl,h0,r0⟩:=trodAll_cons hA;obtain⟨v1,vs1,d1,ds1,p1,q1,rfl,rfl,rfl,h1,r1⟩:=trodAll_cons r0;obtain⟨v2,tB,d2,ds2,p2,q2,rfl,rfl,rfl,h2,r2⟩:=trodAll_cons r1;obtain⟨rfl,rfl,rfl⟩:=trodAll_nil r2;obtain rfl:args=#[v0,v1,v2]:=by cases args;simp_all
 obtain⟨rfl,rfl⟩:=trodVars_none hV;have hwt:∀(j:Nat) t d,([3,22,3]:List TypeId)[j]?=some t->([d0,d1,d2]:List _)[j]?=some d->∀n∈d.weights Tryz.prog t,n<=reachBytes:=λj t d ht hd n hn=>by
  have:=List.all_eq_true.1 nV n (DataW.weights_mem_each (j:=j) (t:=t) (d:=d) ?_ ?_ n hn)
  ·simpa using this
  ·have aZ:=(adU.1 ht).1;rw[aef (by simpa using aZ)];exact ht
  ·have aZ:=(adU.1 hd).1;rw[aef (by simpa using aZ)];exact hd
 obtain⟨a0,rfl,_,_,w0⟩:=open_int Tryz.underlying3 (zt 0 3 v0 rfl rfl) h0;obtain⟨a1,n1,c1,x1,rfl,ro1,el1,mx1,cp1⟩:=KJ (f:=6) (ks:=Kl) Tryz.underlying22 (by kernel_rfl) (by kernel_rfl) (zt 1 22 v1 rfl rfl) h1 (hwt 1 22 d1 rfl rfl);obtain⟨a2,rfl,_,_,w2⟩:=open_int Tryz.underlying3 (zt 2 3 v2 rfl rfl) h2;refine(e4.2 _ _ W (B4 (W:=W) (aa5 XE) ro1 el1 mx1:U [.n,.l,.n] ao _ (λv w'=>v=.bool true/\Below W.heap.size W w') W)).mono λe W' ⟨v,he,hv,bel⟩=>?_;subst he hv;exact⟨_,rfl,_,_,_,[],_,[],hW',trodAll_mk1 (shut_bool Tryz.underlying4 _),Go.Sep.Below.trodAll laidOut bel (by kernel_rfl) Wl,rfl,bel.frame _,λh=>by cases h⟩
theorem over:Rows.vaultSavesRow.holds Tryz.pinned (OpenSpec.ofChange Rows.vaultSavesSpec):=
 OpenClaim.holds_of_wide 4 Tryz.f4 rfl rfl rfl rfl rfl rfl rfl ⟨rfl,rfl,rfl,rfl,rfl⟩ rfl rfl rfl rfl rfl (by kernel_rfl) Tryz.func4 closed
  (of_decide_eq_true (by kernel_rfl)) (by unfold Func.isWrapper;first|(rw[if_pos (by decide+kernel)];kernel_rfl)|(rw[if_neg (by decide+kernel)];exact⟨rfl,rfl⟩))
  (λos started H enc _=>lifted os started H enc)
theorem plain(f:FuncId)(fn:Func)(hf:Tryz.pinned.checked.prog.funcNamed Rows.vaultSavesRow.func=some f)(ZI:Tryz.pinned.checked.prog.funcs[f]?=some fn):
 false=Tryz.pinned.checked.prog.looks []/\∀(j:Nat) t,fn.params[j]?=some t->Tryz.pinned.checked.prog.wantsStandIn t=false:=by
 obtain rfl:f=4:=aec.inj ((show Tryz.prog.funcNamed Rows.vaultSavesRow.func=some 4 by kernel_rfl).symm.trans hf)|>.symm;obtain rfl:fn=Tryz.f4:=(aec.inj (Tryz.func4.symm.trans ZI)).symm;refine⟨by kernel_rfl,λj t ht=>?_⟩;rw[Tryz.params4] at ht;have hm:t∈[3,22,3]:=by simpa using Array.mem_of_getElem? ht
 have fG:([3,22,3].all λu=> !Tryz.prog.wantsStandIn u)=true:=by kernel_rfl
 exact(show Tryz.prog.wantsStandIn t=false by simpa using List.all_eq_true.1 fG t hm)
theorem acW:Rows.VaultSavesCardSaid:=
 Claim7.holds_tied_plain_at .later [] _ _ _ _ over (λ_ h=>by cases h) (by kernel_rfl) (λ_ h=>by cases h) vaultSaves_row_tie rfl ⟨rfl,rfl⟩ (by kernel_rfl) rfl plain (by kernel_rfl)
end Go.Proofs.YtnffemlgkghcfaaGreatDoor.od
namespace Go.Proofs.YtnffemlgkghcfaaGreatDoor
theorem vaultSaves_card:Rows.VaultSavesCardSaid:=od.acW
end Go.Proofs.YtnffemlgkghcfaaGreatDoor
