/- Part of the proof: see the last text. -/
import Derived.Test.YtfijieggfhnpeaaGreatDoorLStockOpensA
import Derived.Test.YtfijieggfhnpeaaGreatDoorLStockOpensB
import Derived.Test.YtfijieggfhnpeaaGreatDoorPG
import Derived.Test.YtfijieggfhnpeaaGreatDoorRows
import Derived.WalkKit
import Derived.ProofKit
import Derived.OpenShut
import Derived.ShutString
import Derived.ChangeOld
import Derived.Below
import Derived.SizedLaws
import Derived.Test.YtfijieggfhnpeaaGreatDoorCards
import Derived.Test.YtfijieggfhnpeaaGreatDoorTie
import Derived.LaidMore
import Derived.Lay
import Derived.SevenTiedAt
import Derived.Stop.Joined
set_option linter.all false
set_option maxRecDepth 100000
set_option synthInstance.maxSize 100000
open ByteArray renaming empty→xG
open List renaming getElem?_eq_some_iff→ar,getElem?_append_left→bM,all_eq_true→kh
open Option renaming some→bj
namespace Go.Proofs.YtfijieggfhnpeaaGreatDoor.rD
open Go.ChangeShapes Go.WideShapes Go.ChangeAt Go.RowKit Go.Den Go.Sep Go.Prog Go.Up
open Go.ChangeMaps (open_string shut_string)
theorem lifted(os:Os)(started:os.Started)(H:Type)(enc:TypeId×Value->H):
 ReturnsInHanded {} Tryz.checked os 4 .any (λw args=>(Rows.stockOpensSpec.pre enc Tryz.prog Tryz.f4 Rows.stockOpensRow.domain false w args/\laidMetH Tryz.prog Rows.stockOpensRow.laid w)/\sizedMet enc Tryz.prog Tryz.f4 (OpenSpec.ofChange Rows.stockOpensSpec) false w args)
  (Rows.stockOpensSpec.post enc Tryz.prog Tryz.f4 false true false false):=by
 refine returnsInHanded_of_change_and (C:=Tryz.checked) (X:=λw _=>laidMetH Tryz.prog Rows.stockOpensRow.laid w) (λ_ _ _ hh h=>h.of_heap hh) V9 started (by kernel_rfl) Tryz.func4
  (ChangeSpec.witness_shaped (enc:=enc) (C:=Tryz.checked) (os:=os) (X:=λw _=>laidMetH Tryz.prog Rows.stockOpensRow.laid w) false (World.laidAll Tryz.prog os Rows.stockOpensRow.laid) #[.string xG,.string xG,.string xG] 8 (World.laidAll_os _ _ _)
   (pS os _) (by kernel_rfl) (by kernel_rfl) (by kernel_rfl)
   (by rw[MakeChecks.laidMetH_plain _ _ _ (by kernel_rfl)];exact laidMet_laidAll _ (pL1 os) (pL2 os))) ?_
 intro W base args ds gs before GD hW Z0 Pb GK _;have oI:(DataW.weightsEach Tryz.prog (Tryz.f4.params.toList++Rows.stockOpensSpec.plain.varTypes Tryz.prog) (ds++gs)).all (·<=reachBytes)=true:=Pb;have uW:∀(j:Nat) t v,Tryz.f4.params[j]?=some t->args[j]?=some v->Value.okWide Tryz.prog W .any base t v:=GD;have Z7:=hW;obtain⟨p,q,hA0,hV,rfl,Yr,Nl⟩:=hW;have hA:DataW.TrodAll enc Tryz.prog W 0 (λ_=>true) true Tryz.f4.params.toList args.toList ds p:=hA0;have hA1:=hA;rw[Tryz.params4] at hA uW oI;obtain⟨v0,vs0,d0,ds0,p0,q0,wU,rfl,rfl,h0,r0⟩:=trodAll_cons hA;obtain⟨v1,vs1,d1,ds1,p1,q1,rfl,rfl,rfl,h1,r1⟩:=trodAll_cons r0;obtain⟨v2,u1,d2,ds2,p2,q2,rfl,rfl,rfl,h2,r2⟩:=trodAll_cons r1;obtain⟨rfl,rfl,rfl⟩:=trodAll_nil r2;obtain rfl:args=#[v0,v1,v2]:=by cases args;simp_all
 obtain⟨rfl,rfl⟩:=trodVars_none hV;have Ni:∀(j:Nat) t d,([9,9,9]:List TypeId)[j]?=some t->([d0,d1,d2]:List _)[j]?=some d->∀n∈d.weights Tryz.prog t,n<=reachBytes:=λj t d ht hd n hn=>by
  have:=kh.1 oI n (DataW.weights_mem_each (j:=j) (t:=t) (d:=d) ?_ ?_ n hn)
  ·simpa using this
  ·have bW:=(ar.1 ht).1;rw[bM (by simpa using bW)];exact ht
  ·have bW:=(ar.1 hd).1;rw[bM (by simpa using bW)];exact hd
 obtain⟨a0,rfl,rfl,_,y0⟩:=open_string Tryz.underlying9 (uW 0 9 v0 rfl rfl) h0;have w0:a0.size<=reachBytes:=by have z:=Ni 0 9 _ rfl rfl a0.data.toList.length (by simp[DataW.weights]);simpa using z
 obtain⟨a1,rfl,rfl,_,y1⟩:=open_string Tryz.underlying9 (uW 1 9 v1 rfl rfl) h1;have w1:a1.size<=reachBytes:=by have z:=Ni 1 9 _ rfl rfl a1.data.toList.length (by simp[DataW.weights]);simpa using z
 obtain⟨a2,rfl,rfl,_,y2⟩:=open_string Tryz.underlying9 (uW 2 9 v2 rfl rfl) h2;have w2:a2.size<=reachBytes:=by have z:=Ni 2 9 _ rfl rfl a2.data.toList.length (by simp[DataW.weights]);simpa using z
 refine(e4.2 _ _ W (CY (W:=W) (Xd GK) w0 w1 w2:U [.s,.s,.s] aN _ (λv w'=>v=.bool true/\Below W.heap.size W w') W)).mono λe W' ⟨v,he,hv,U9⟩=>?_;subst he hv;exact⟨_,rfl,_,_,_,[],_,[],Z7,trodAll_mk1 (shut_bool Tryz.underlying4 _),Go.Sep.Below.trodAll Go.Proofs.YtfijieggfhnpeaaGreatDoor.p2 U9 (by kernel_rfl) hA1,rfl,U9.frame _,λh=>by cases h⟩
theorem over:Rows.stockOpensRow.holds Tryz.pinned (OpenSpec.ofChange Rows.stockOpensSpec):=
 OpenClaim.holds_of_wide 4 Tryz.f4 rfl rfl rfl rfl rfl rfl rfl ⟨rfl,rfl,rfl,rfl,rfl⟩ rfl rfl rfl rfl rfl (by kernel_rfl) Tryz.func4 closed
  (of_decide_eq_true (by kernel_rfl)) (by unfold Func.isWrapper;first|(rw[if_pos (by decide+kernel)];kernel_rfl)|(rw[if_neg (by decide+kernel)];exact⟨rfl,rfl⟩))
  (λos started H enc _=>lifted os started H enc)
theorem plain(f:FuncId)(fn:Func)(hf:Tryz.pinned.checked.prog.funcNamed Rows.stockOpensRow.func=some f)(T':Tryz.pinned.checked.prog.funcs[f]?=some fn):
 false=Tryz.pinned.checked.prog.looks []/\∀(j:Nat) t,fn.params[j]?=some t->Tryz.pinned.checked.prog.wantsStandIn t=false:=by
 obtain rfl:f=4:=bj.inj ((show Tryz.prog.funcNamed Rows.stockOpensRow.func=some 4 by kernel_rfl).symm.trans hf)|>.symm;obtain rfl:fn=Tryz.f4:=(bj.inj (Tryz.func4.symm.trans T')).symm;refine⟨OJ,λj t ht=>?_⟩;rw[Tryz.params4] at ht;have hm:t∈[9,9,9]:=by simpa using Array.mem_of_getElem? ht
 have gV:([9,9,9].all λu=> !Tryz.prog.wantsStandIn u)=true:=by kernel_rfl
 exact(show Tryz.prog.wantsStandIn t=false by simpa using kh.1 gV t hm)
theorem Hd:OpenClaim.wfByText (OpenSpec.ofChange Rows.stockOpensSpec) Rows.stockOpensRow=true:=by kernel_rfl
theorem Hc:Tryz.pinned.checked.prog.mainIs=some (Rows.stockOpensCard.stood.harness.fst,Rows.stockOpensCard.stood.harness.snd.toList):=OI
theorem Hb:false=Rows.stockOpensRow.goesBy Tryz.pinned.checked.prog:=by kernel_rfl
theorem PY:Rows.StockOpensCardSaid:=
 Claim7.holds_tied_plain_at .later [] _ _ _ _ over (λ_ h=>by cases h) Hd (λ_ h=>by cases h) stockOpens_row_tie rfl ⟨rfl,rfl⟩ Hc rfl plain Hb
end Go.Proofs.YtfijieggfhnpeaaGreatDoor.rD
namespace Go.Proofs.YtfijieggfhnpeaaGreatDoor
theorem K6:Rows.StockOpensSaid:=rD.over
theorem stockOpens_card:Rows.StockOpensCardSaid:=rD.PY
end Go.Proofs.YtfijieggfhnpeaaGreatDoor
