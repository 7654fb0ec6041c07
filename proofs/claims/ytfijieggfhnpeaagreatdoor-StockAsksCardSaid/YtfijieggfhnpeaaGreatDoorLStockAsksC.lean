/- Part of the proof: see the last text. -/
import Derived.Test.YtfijieggfhnpeaaGreatDoorLStockAsksA
import Derived.Test.YtfijieggfhnpeaaGreatDoorLStockAsksB
import Derived.Test.YtfijieggfhnpeaaGreatDoorPG
import Derived.Test.YtfijieggfhnpeaaGreatDoorRows
import Derived.WalkKit
import Derived.ProofKit
import Derived.OpenShut
import Derived.ShutString
import Derived.ChangeOld
import Derived.Below
import Derived.SizedLaws
import Derived.Test.YtfijieggfhnpeaaGreatDoorCards
import Derived.Test.YtfijieggfhnpeaaGreatDoorTie
import Derived.LaidMore
import Derived.Lay
import Derived.SevenTiedAt
import Derived.Stop.Joined
set_option linter.all false
set_option maxRecDepth 100000
set_option synthInstance.maxSize 100000
open ByteArray renaming empty→xG
open List renaming getElem?_eq_some_iff→ar,getElem?_append_left→bM,all_eq_true→kh
open Option renaming some→bj
namespace Go.Proofs.YtfijieggfhnpeaaGreatDoor.th
open Go.ChangeShapes Go.WideShapes Go.ChangeAt Go.RowKit Go.Den Go.Sep Go.Prog Go.Up
open Go.ChangeMaps (open_string shut_string)
theorem lifted(os:Os)(started:os.Started)(H:Type)(enc:TypeId×Value->H):
 ReturnsInHanded {} Tryz.checked os 5 .any (λw args=>(Rows.stockAsksSpec.pre enc Tryz.prog Tryz.f5 Rows.stockAsksRow.domain false w args/\laidMetH Tryz.prog Rows.stockAsksRow.laid w)/\sizedMet enc Tryz.prog Tryz.f5 (OpenSpec.ofChange Rows.stockAsksSpec) false w args)
  (Rows.stockAsksSpec.post enc Tryz.prog Tryz.f5 false true false false):=by
 refine returnsInHanded_of_change_and (C:=Tryz.checked) (X:=λw _=>laidMetH Tryz.prog Rows.stockAsksRow.laid w) (λ_ _ _ hh h=>h.of_heap hh) V9 started (by kernel_rfl) Tryz.func5
  (ChangeSpec.witness_shaped (enc:=enc) (C:=Tryz.checked) (os:=os) (X:=λw _=>laidMetH Tryz.prog Rows.stockAsksRow.laid w) false (World.laidAll Tryz.prog os Rows.stockAsksRow.laid) #[.string xG,.string xG,.agg #[.u 0,.u 0],.agg #[.u 0,.u 0],.i 0] 8 (World.laidAll_os _ _ _)
   (pS os _) (by kernel_rfl) (by kernel_rfl) (by kernel_rfl)
   (by rw[MakeChecks.laidMetH_plain _ _ _ (by kernel_rfl)];exact laidMet_laidAll _ (pL1 os) (pL2 os))) ?_
 intro W base args ds gs before GD hW Z0 Pb GK _;have oI:(DataW.weightsEach Tryz.prog (Tryz.f5.params.toList++Rows.stockAsksSpec.plain.varTypes Tryz.prog) (ds++gs)).all (·<=reachBytes)=true:=Pb;have uW:∀(j:Nat) t v,Tryz.f5.params[j]?=some t->args[j]?=some v->Value.okWide Tryz.prog W .any base t v:=GD;have Z7:=hW;obtain⟨p,q,hA0,hV,rfl,Yr,Nl⟩:=hW;have hA:DataW.TrodAll enc Tryz.prog W 0 (λ_=>true) true Tryz.f5.params.toList args.toList ds p:=hA0;have hA1:=hA;rw[Tryz.params5] at hA uW oI;obtain⟨v0,vs0,d0,ds0,p0,q0,wU,rfl,rfl,h0,r0⟩:=trodAll_cons hA;obtain⟨v1,vs1,d1,ds1,p1,q1,rfl,rfl,rfl,h1,r1⟩:=trodAll_cons r0;obtain⟨v2,u1,d2,ds2,p2,q2,rfl,rfl,rfl,h2,r2⟩:=trodAll_cons r1;obtain⟨v3,vs3,d3,ds3,p3,q3,rfl,rfl,rfl,h3,r3⟩:=trodAll_cons r2;obtain⟨v4,vs4,d4,ds4,p4,q4,rfl,rfl,rfl,h4,r4⟩:=trodAll_cons r3;obtain⟨rfl,rfl,rfl⟩:=trodAll_nil r4;obtain rfl:args=#[v0,v1,v2,v3,v4]:=by cases args;simp_all
 obtain⟨rfl,rfl⟩:=trodVars_none hV;have Ni:∀(j:Nat) t d,([9,9,31,31,3]:List TypeId)[j]?=some t->([d0,d1,d2,d3,d4]:List _)[j]?=some d->∀n∈d.weights Tryz.prog t,n<=reachBytes:=λj t d ht hd n hn=>by
  have:=kh.1 oI n (DataW.weights_mem_each (j:=j) (t:=t) (d:=d) ?_ ?_ n hn)
  ·simpa using this
  ·have bW:=(ar.1 ht).1;rw[bM (by simpa using bW)];exact ht
  ·have bW:=(ar.1 hd).1;rw[bM (by simpa using bW)];exact hd
 obtain⟨a0,rfl,rfl,_,y0⟩:=open_string Tryz.underlying9 (uW 0 9 v0 rfl rfl) h0;have w0:a0.size<=reachBytes:=by have z:=Ni 0 9 _ rfl rfl a0.data.toList.length (by simp[DataW.weights]);simpa using z
 obtain⟨a1,rfl,rfl,_,y1⟩:=open_string Tryz.underlying9 (uW 1 9 v1 rfl rfl) h1;have w1:a1.size<=reachBytes:=by have z:=Ni 1 9 _ rfl rfl a1.data.toList.length (by simp[DataW.weights]);simpa using z
 obtain⟨a2,rfl,l2,ty2⟩:=DF (f:=5) (ks:=[.i .u64,.i .u64]) Tryz.underlying31 (by kernel_rfl) (by kernel_rfl) (uW 2 31 v2 rfl rfl) h2 (Ni 2 31 d2 rfl rfl);obtain⟨a3,rfl,l3,ty3⟩:=DF (f:=5) (ks:=[.i .u64,.i .u64]) Tryz.underlying31 (by kernel_rfl) (by kernel_rfl) (uW 3 31 v3 rfl rfl) h3 (Ni 3 31 d3 rfl rfl);obtain⟨a4,rfl,_,_,w4⟩:=open_int Tryz.underlying3 (uW 4 3 v4 rfl rfl) h4;refine(e5.2 _ _ W (Ev (W:=W) (Xd GK) w0 w1 l2 ty2 l3 ty3:U [.s,.s,.g,.g,.n] aa _ (λv w'=>v=.bool true/\Below W.heap.size W w') W)).mono λe W' ⟨v,he,hv,U9⟩=>?_;subst he hv;exact⟨_,rfl,_,_,_,[],_,[],Z7,trodAll_mk1 (shut_bool Tryz.underlying4 _),Go.Sep.Below.trodAll Go.Proofs.YtfijieggfhnpeaaGreatDoor.p2 U9 (by kernel_rfl) hA1,rfl,U9.frame _,λh=>by cases h⟩
theorem over:Rows.stockAsksRow.holds Tryz.pinned (OpenSpec.ofChange Rows.stockAsksSpec):=
 OpenClaim.holds_of_wide 5 Tryz.f5 rfl rfl rfl rfl rfl rfl rfl ⟨rfl,rfl,rfl,rfl,rfl⟩ rfl rfl rfl rfl rfl (by kernel_rfl) Tryz.func5 closed
  (of_decide_eq_true (by kernel_rfl)) (by unfold Func.isWrapper;first|(rw[if_pos (by decide+kernel)];kernel_rfl)|(rw[if_neg (by decide+kernel)];exact⟨rfl,rfl⟩))
  (λos started H enc _=>lifted os started H enc)
theorem plain(f:FuncId)(fn:Func)(hf:Tryz.pinned.checked.prog.funcNamed Rows.stockAsksRow.func=some f)(T':Tryz.pinned.checked.prog.funcs[f]?=some fn):
 false=Tryz.pinned.checked.prog.looks []/\∀(j:Nat) t,fn.params[j]?=some t->Tryz.pinned.checked.prog.wantsStandIn t=false:=by
 obtain rfl:f=5:=bj.inj ((show Tryz.prog.funcNamed Rows.stockAsksRow.func=some 5 by kernel_rfl).symm.trans hf)|>.symm;obtain rfl:fn=Tryz.f5:=(bj.inj (Tryz.func5.symm.trans T')).symm;refine⟨OJ,λj t ht=>?_⟩;rw[Tryz.params5] at ht;have hm:t∈[9,9,31,31,3]:=by simpa using Array.mem_of_getElem? ht
 have gV:([9,9,31,31,3].all λu=> !Tryz.prog.wantsStandIn u)=true:=by kernel_rfl
 exact(show Tryz.prog.wantsStandIn t=false by simpa using kh.1 gV t hm)
theorem Hd:OpenClaim.wfByText (OpenSpec.ofChange Rows.stockAsksSpec) Rows.stockAsksRow=true:=by kernel_rfl
theorem Hc:Tryz.pinned.checked.prog.mainIs=some (Rows.stockAsksCard.stood.harness.fst,Rows.stockAsksCard.stood.harness.snd.toList):=OI
theorem Hb:false=Rows.stockAsksRow.goesBy Tryz.pinned.checked.prog:=by kernel_rfl
theorem PY:Rows.StockAsksCardSaid:=
 Claim7.holds_tied_plain_at .later [] _ _ _ _ over (λ_ h=>by cases h) Hd (λ_ h=>by cases h) stockAsks_row_tie rfl ⟨rfl,rfl⟩ Hc rfl plain Hb
end Go.Proofs.YtfijieggfhnpeaaGreatDoor.th
namespace Go.Proofs.YtfijieggfhnpeaaGreatDoor
theorem MV:Rows.StockAsksSaid:=th.over
theorem stockAsks_card:Rows.StockAsksCardSaid:=th.PY
end Go.Proofs.YtfijieggfhnpeaaGreatDoor
