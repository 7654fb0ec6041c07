/- Part of the proof: see the last text. -/
import Derived.Test.YtnffemlgkghcfaaGreatDoorPF
import Derived.Test.YtnffemlgkghcfaaGreatDoorPH
import Derived.Test.YtnffemlgkghcfaaGreatDoorRows
import Derived.WalkKit
import Derived.ProofKit
import Derived.OpenShut
import Derived.ShutString
import Derived.ChangeOld
import Derived.Below
import Derived.SizedLaws
import Derived.Test.YtnffemlgkghcfaaGreatDoorCards
import Derived.Test.YtnffemlgkghcfaaGreatDoorTie
import Derived.LaidMore
import Derived.Lay
import Derived.SevenTiedAt
import Derived.Stop.Joined
set_option linter.all false
set_option maxRecDepth 100000
set_option synthInstance.maxSize 100000
open List renaming getElem?_eq_some_iff→adC,getElem?_append_left→adY
open Option renaming some→adU
namespace Go.Proofs.YtnffemlgkghcfaaGreatDoor.pT
open Go.ChangeShapes Go.WideShapes Go.ChangeAt Go.RowKit Go.Den Go.Sep Go.Prog Go.Up
open Go.ChangeMaps (open_string shut_string)
theorem own:ownKnob Tryz.prog.godebug=none:=by kernel_rfl
theorem laidOut:laidOutB Tryz.prog=true:=by kernel_rfl
theorem lifted(os:Os)(started:os.Started)(H:Type)(enc:TypeId×Value→H):
 ReturnsInHanded {} Tryz.checked os 3 .any (fun w args=>(Rows.vaultRoomSpec.pre enc Tryz.prog Tryz.f3 Rows.vaultRoomRow.domain false w args∧laidMetH Tryz.prog Rows.vaultRoomRow.laid w)∧sizedMet enc Tryz.prog Tryz.f3 (OpenSpec.ofChange Rows.vaultRoomSpec) false w args)
  (Rows.vaultRoomSpec.post enc Tryz.prog Tryz.f3 false true false false):=by
 refine returnsInHanded_of_change_and (C:=Tryz.checked) (X:=fun w _=>laidMetH Tryz.prog Rows.vaultRoomRow.laid w) (fun _ _ _ hh h=>h.of_heap hh) own started (by kernel_rfl) Tryz.func3
  (ChangeSpec.witness_shaped (enc:=enc) (C:=Tryz.checked) (os:=os) (X:=fun w _=>laidMetH Tryz.prog Rows.vaultRoomRow.laid w) false (World.laidAll Tryz.prog os Rows.vaultRoomRow.laid) #[.i 0,.slice none 0 0,.i 0] 8 (World.laidAll_os _ _ _)
   (World.shaped_of_ZipB (by kernel_rfl) (by kernel_rfl)) (by kernel_rfl) (by kernel_rfl) (by kernel_rfl)
   (by rw[MakeChecks.laidMetH_plain _ _ _ (by kernel_rfl)];exact laidMet_laidAll _ (by kernel_rfl) (by kernel_rfl))) ?_
 intro W base args ds gs before WM hW adt aaa Xb _;have oE:(DataW.weightsEach Tryz.prog (Tryz.f3.params.toList++Rows.vaultRoomSpec.plain.varTypes Tryz.prog) (ds++gs)).all (·≤reachBytes)=true:=aaa;have y3:∀(j:Nat) t v,Tryz.f3.params[j]?=some t→args[j]?=some v→Value.okWide Tryz.prog W .any base t v:=WM;have hW':=hW;obtain⟨p,q,hA0,hV,rfl,Y6,FO⟩:=hW;have hA:DataW.TrodAll enc Tryz.prog W 0 (fun _=>true) true Tryz.f3.params.toList args.toList ds p:=hA0;have VN:=hA;rw[Tryz.params3] at hA y3 oE;obtain⟨v0,vs0,d0,ds0,p0,q0,yz,rfl,rfl,h0,r0⟩:=trodAll_cons hA;obtain⟨v1,vs1,d1,ds1,p1,q1,rfl,rfl,rfl,h1,r1⟩:=trodAll_cons r0;obtain⟨v2,tq,d2,ds2,p2,q2,rfl,rfl,rfl,h2,r2⟩:=trodAll_cons r1;obtain⟨rfl,rfl,rfl⟩:=trodAll_nil r2;obtain rfl:args=#[v0,v1,v2]:=by cases args;simp_all
 obtain⟨rfl,rfl⟩:=trodVars_none hV;have Z4:∀(j:Nat) t d,([3,22,3]:List TypeId)[j]?=some t→([d0,d1,d2]:List _)[j]?=some d→∀n∈d.weights Tryz.prog t,n≤reachBytes:=fun j t d ht hd n hn=>by
  have:=List.all_eq_true.1 oE n (DataW.weights_mem_each (j:=j) (t:=t) (d:=d) ?_ ?_ n hn)
  ·simpa using this
  ·have a8:=(adC.1 ht).1;rw[adY (by simpa using a8)];exact ht
  ·have a8:=(adC.1 hd).1;rw[adY (by simpa using a8)];exact hd
 obtain⟨a0,rfl,_,_,w0⟩:=open_int Tryz.underlying3 (y3 0 3 v0 rfl rfl) h0;obtain⟨a1,n1,c1,x1,rfl,ro1,el1,mx1,cp1⟩:=Ko (f:=6) (ks:=J1) Tryz.underlying22 (by kernel_rfl) (by kernel_rfl) (y3 1 22 v1 rfl rfl) h1 (Z4 1 22 d1 rfl rfl);obtain⟨a2,rfl,_,_,w2⟩:=open_int Tryz.underlying3 (y3 2 3 v2 rfl rfl) h2;refine(e3.2 _ _ W (Dn (W:=W) (aaO Xb) ro1 el1 mx1:av.u _ (fun v w'=>v=.bool true∧Below W.heap.size W w') W)).mono fun e W' ⟨v,he,hv,bel⟩=>?_;subst he hv;exact⟨_,rfl,_,_,_,[],_,[],hW',trodAll_mk1 (shut_bool Tryz.underlying4 _),Go.Sep.Below.trodAll laidOut bel (by kernel_rfl) VN,rfl,bel.frame _,fun h=>by cases h⟩
theorem over:Rows.vaultRoomRow.holds Tryz.pinned (OpenSpec.ofChange Rows.vaultRoomSpec):=
 OpenClaim.holds_of_wide 3 Tryz.f3 rfl rfl rfl rfl rfl rfl rfl ⟨rfl,rfl,rfl,rfl,rfl⟩ rfl rfl rfl rfl rfl (by kernel_rfl) Tryz.func3 closed
  (of_decide_eq_true (by kernel_rfl)) (by unfold Func.isWrapper;first|(rw[if_pos (by decide+kernel)];kernel_rfl)|(rw[if_neg (by decide+kernel)];exact⟨rfl,rfl⟩))
  (fun os started H enc _=>lifted os started H enc)
theorem plain(f:FuncId)(fn:Func)(hf:Tryz.pinned.checked.prog.funcNamed Rows.vaultRoomRow.func=some f)(Y8:Tryz.pinned.checked.prog.funcs[f]?=some fn):
 false=Tryz.pinned.checked.prog.looks []∧∀(j:Nat) t,fn.params[j]?=some t→Tryz.pinned.checked.prog.wantsStandIn t=false:=by
 obtain rfl:f=3:=adU.inj ((show Tryz.prog.funcNamed Rows.vaultRoomRow.func=some 3 by kernel_rfl).symm.trans hf)|>.symm;obtain rfl:fn=Tryz.f3:=(adU.inj (Tryz.func3.symm.trans Y8)).symm;refine⟨by kernel_rfl,fun j t ht=>?_⟩;rw[Tryz.params3] at ht;have hm:t∈[3,22,3]:=by simpa using Array.mem_of_getElem? ht
 have hU:([3,22,3].all fun u=> !Tryz.prog.wantsStandIn u)=true:=by kernel_rfl
 exact(show Tryz.prog.wantsStandIn t=false by simpa using List.all_eq_true.1 hU t hm)
theorem acE:Rows.VaultRoomCardSaid:=
 Claim7.holds_tied_plain_at .later [] _ _ _ _ over (fun _ h=>by cases h) (by kernel_rfl) (fun _ h=>by cases h) vaultRoom_row_tie rfl ⟨rfl,rfl⟩ (by kernel_rfl) rfl plain (by kernel_rfl)
end Go.Proofs.YtnffemlgkghcfaaGreatDoor.pT
namespace Go.Proofs.YtnffemlgkghcfaaGreatDoor
theorem vaultRoom_card:Rows.VaultRoomCardSaid:=pT.acE
end Go.Proofs.YtnffemlgkghcfaaGreatDoor
