/- Part of the proof: see the last text. -/
import Derived.Test.YtnffemlgkghcfaaGreatDoorPF
import Derived.Test.YtnffemlgkghcfaaGreatDoorPH
import Derived.Test.YtnffemlgkghcfaaGreatDoorRows
import Derived.WalkKit
import Derived.ProofKit
import Derived.OpenShut
import Derived.ShutString
import Derived.ChangeOld
import Derived.Below
import Derived.SizedLaws
import Derived.Test.YtnffemlgkghcfaaGreatDoorCards
import Derived.Test.YtnffemlgkghcfaaGreatDoorTie
import Derived.LaidMore
import Derived.Lay
import Derived.SevenTiedAt
import Derived.Stop.Joined
set_option linter.all false
set_option maxRecDepth 100000
set_option synthInstance.maxSize 100000
open List renaming getElem?_eq_some_iff→adS,getElem?_append_left→aec
open Option renaming some→aea
namespace Go.Proofs.YtnffemlgkghcfaaGreatDoor.pN
open Go.ChangeShapes Go.WideShapes Go.ChangeAt Go.RowKit Go.Den Go.Sep Go.Prog Go.Up
open Go.ChangeMaps (open_string shut_string)
theorem own:ownKnob Tryz.prog.godebug=none:=by kernel_rfl
theorem laidOut:laidOutB Tryz.prog=true:=by kernel_rfl
theorem lifted(os:Os)(started:os.Started)(H:Type)(enc:TypeId×Value->H):
 ReturnsInHanded {} Tryz.checked os 5 .any (λw args=>(Rows.vaultSickSpec.pre enc Tryz.prog Tryz.f5 Rows.vaultSickRow.domain false w args/\laidMetH Tryz.prog Rows.vaultSickRow.laid w)/\sizedMet enc Tryz.prog Tryz.f5 (OpenSpec.ofChange Rows.vaultSickSpec) false w args)
  (Rows.vaultSickSpec.post enc Tryz.prog Tryz.f5 false true false false):=by
 refine returnsInHanded_of_change_and (C:=Tryz.checked) (X:=λw _=>laidMetH Tryz.prog Rows.vaultSickRow.laid w) (λ_ _ _ hh h=>h.of_heap hh) own started (by kernel_rfl) Tryz.func5
  (ChangeSpec.witness_shaped (enc:=enc) (C:=Tryz.checked) (os:=os) (X:=λw _=>laidMetH Tryz.prog Rows.vaultSickRow.laid w) false (World.laidAll Tryz.prog os Rows.vaultSickRow.laid) #[.i 0,.slice none 0 0,.i 0,.slice none 0 0] 8 (World.laidAll_os _ _ _)
   (World.shaped_of_ZipB (by kernel_rfl) (by kernel_rfl)) (by kernel_rfl) (by kernel_rfl) (by kernel_rfl)
   (by rw[MakeChecks.laidMetH_plain _ _ _ (by kernel_rfl)];exact laidMet_laidAll _ (by kernel_rfl) (by kernel_rfl))) ?_
 intro W base args ds gs before Xi hW adJ aar XG _;have nY:(DataW.weightsEach Tryz.prog (Tryz.f5.params.toList++Rows.vaultSickSpec.plain.varTypes Tryz.prog) (ds++gs)).all (·<=reachBytes)=true:=aar;have xZ:∀(j:Nat) t v,Tryz.f5.params[j]?=some t->args[j]?=some v->Value.okWide Tryz.prog W .any base t v:=Xi;have hW':=hW;obtain⟨p,q,hA0,hV,rfl,ZN,Gb⟩:=hW;have hA:DataW.TrodAll enc Tryz.prog W 0 (λ_=>true) true Tryz.f5.params.toList args.toList ds p:=hA0;have Wj:=hA;rw[Tryz.params5] at hA xZ nY;obtain⟨v0,vs0,d0,ds0,p0,q0,yX,rfl,rfl,h0,r0⟩:=trodAll_cons hA;obtain⟨v1,vs1,d1,ds1,p1,q1,rfl,rfl,rfl,h1,r1⟩:=trodAll_cons r0;obtain⟨v2,tG,d2,ds2,p2,q2,rfl,rfl,rfl,h2,r2⟩:=trodAll_cons r1;obtain⟨v3,vs3,d3,ds3,p3,q3,rfl,rfl,rfl,h3,r3⟩:=trodAll_cons r2;obtain⟨rfl,rfl,rfl⟩:=trodAll_nil r3;obtain rfl:args=#[v0,v1,v2,v3]:=by cases args;simp_all
 obtain⟨rfl,rfl⟩:=trodVars_none hV;have ZC:∀(j:Nat) t d,([3,22,3,57]:List TypeId)[j]?=some t->([d0,d1,d2,d3]:List _)[j]?=some d->∀n∈d.weights Tryz.prog t,n<=reachBytes:=λj t d ht hd n hn=>by
  have:=List.all_eq_true.1 nY n (DataW.weights_mem_each (j:=j) (t:=t) (d:=d) ?_ ?_ n hn)
  ·simpa using this
  ·have aZ:=(adS.1 ht).1;rw[aec (by simpa using aZ)];exact ht
  ·have aZ:=(adS.1 hd).1;rw[aec (by simpa using aZ)];exact hd
 obtain⟨a0,rfl,_,_,w0⟩:=open_int Tryz.underlying3 (xZ 0 3 v0 rfl rfl) h0;obtain⟨a1,n1,c1,x1,rfl,ro1,el1,mx1,cp1⟩:=C2 (f:=6) (ks:=Kp) Tryz.underlying22 (by kernel_rfl) (by kernel_rfl) (xZ 1 22 v1 rfl rfl) h1 (ZC 1 22 d1 rfl rfl);obtain⟨a2,rfl,_,_,w2⟩:=open_int Tryz.underlying3 (xZ 2 3 v2 rfl rfl) h2;obtain⟨a3,n3,c3,x3,rfl,ro3,el3,mx3,cp3⟩:=C2 (f:=6) (ks:=HI) Tryz.underlying57 (by kernel_rfl) (by kernel_rfl) (xZ 3 57 v3 rfl rfl) h3 (ZC 3 57 d3 rfl rfl);refine(e5.2 _ _ W (DI (W:=W) (aa5 XG) ro1 el1 mx1 ro3 el3 mx3:U [.n,.l,.n,.l] ak _ (λv w'=>v=.bool true/\Below W.heap.size W w') W)).mono λe W' ⟨v,he,hv,bel⟩=>?_;subst he hv;exact⟨_,rfl,_,_,_,[],_,[],hW',trodAll_mk1 (shut_bool Tryz.underlying4 _),Go.Sep.Below.trodAll laidOut bel (by kernel_rfl) Wj,rfl,bel.frame _,λh=>by cases h⟩
theorem over:Rows.vaultSickRow.holds Tryz.pinned (OpenSpec.ofChange Rows.vaultSickSpec):=
 OpenClaim.holds_of_wide 5 Tryz.f5 rfl rfl rfl rfl rfl rfl rfl ⟨rfl,rfl,rfl,rfl,rfl⟩ rfl rfl rfl rfl rfl (by kernel_rfl) Tryz.func5 closed
  (of_decide_eq_true (by kernel_rfl)) (by unfold Func.isWrapper;first|(rw[if_pos (by decide+kernel)];kernel_rfl)|(rw[if_neg (by decide+kernel)];exact⟨rfl,rfl⟩))
  (λos started H enc _=>lifted os started H enc)
theorem plain(f:FuncId)(fn:Func)(hf:Tryz.pinned.checked.prog.funcNamed Rows.vaultSickRow.func=some f)(ZP:Tryz.pinned.checked.prog.funcs[f]?=some fn):
 false=Tryz.pinned.checked.prog.looks []/\∀(j:Nat) t,fn.params[j]?=some t->Tryz.pinned.checked.prog.wantsStandIn t=false:=by
 obtain rfl:f=5:=aea.inj ((show Tryz.prog.funcNamed Rows.vaultSickRow.func=some 5 by kernel_rfl).symm.trans hf)|>.symm;obtain rfl:fn=Tryz.f5:=(aea.inj (Tryz.func5.symm.trans ZP)).symm;refine⟨by kernel_rfl,λj t ht=>?_⟩;rw[Tryz.params5] at ht;have hm:t∈[3,22,3,57]:=by simpa using Array.mem_of_getElem? ht
 have fH:([3,22,3,57].all λu=> !Tryz.prog.wantsStandIn u)=true:=by kernel_rfl
 exact(show Tryz.prog.wantsStandIn t=false by simpa using List.all_eq_true.1 fH t hm)
theorem acU:Rows.VaultSickCardSaid:=
 Claim7.holds_tied_plain_at .later [] _ _ _ _ over (λ_ h=>by cases h) (by kernel_rfl) (λ_ h=>by cases h) vaultSick_row_tie rfl ⟨rfl,rfl⟩ (by kernel_rfl) rfl plain (by kernel_rfl)
end Go.Proofs.YtnffemlgkghcfaaGreatDoor.pN
namespace Go.Proofs.YtnffemlgkghcfaaGreatDoor
theorem vaultSick_card:Rows.VaultSickCardSaid:=pN.acU
end Go.Proofs.YtnffemlgkghcfaaGreatDoor
