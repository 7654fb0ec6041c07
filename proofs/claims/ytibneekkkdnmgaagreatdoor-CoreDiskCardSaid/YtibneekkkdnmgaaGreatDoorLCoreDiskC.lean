/- Part of the proof: see the last text. -/
import Derived.Test.YtibneekkkdnmgaaGreatDoorLCoreDiskA
import Derived.Test.YtibneekkkdnmgaaGreatDoorLCoreDiskB
import Derived.Test.YtibneekkkdnmgaaGreatDoorPH
import Derived.Test.YtibneekkkdnmgaaGreatDoorRows
import Derived.WalkKit
import Derived.ProofKit
import Derived.OpenShut
import Derived.ShutString
import Derived.ChangeOld
import Derived.Below
import Derived.SizedLaws
import Derived.Test.YtibneekkkdnmgaaGreatDoorCards
import Derived.Test.YtibneekkkdnmgaaGreatDoorTie
import Derived.LaidMore
import Derived.Lay
import Derived.SevenTiedAt
import Derived.Stop.Joined
namespace Go.Sep
open Go.RowKit Go.ChangeShapes Go.WideShapes
theorem Below.trodAll {H : Type} {enc : TypeId × Value → H} {P : Program} (hl : laidOutB P = true) {W W' : World} (hb : Below W.heap.size W W') :
    ∀ {ts : List TypeId} {vs : List Value} {ds : List (DataW H)} {ps : List MemPlace}, ts.all (fun t => P.readableRec t && decide (t < P.types.size)) = true →
    DataW.TrodAll enc P W 0 (fun _ => true) true ts vs ds ps → DataW.TrodAll enc P W' 0 (fun b => decide (b < W.heap.size)) true ts vs ds ps
  | [], vs, ds, ps, _, h => by
    cases vs <;> cases ds <;> simp [DataW.TrodAll] at h ⊢
    exact h
  | t :: ts, vs, ds, ps, hr, h => by
    simp only [List.all_cons, Bool.and_eq_true, decide_eq_true_eq] at hr
    have hlt := DataW.TrodAll.lt h
    obtain ⟨v, vs', d, ds', p, q, rfl, rfl, rfl, h1, h2⟩ := trodAll_cons h
    exact ⟨p, q, Go.RowKit.Below.trod hl hr.1.1 hr.1.2 h1 hb (fun x hx => hlt x (by simp [hx])), Below.trodAll hl hb hr.2 h2, rfl⟩
end Go.Sep
set_option linter.all false
set_option maxRecDepth 100000
set_option synthInstance.maxSize 100000
open Array renaming mem_of_getElem?→xU
open List renaming getElem?_eq_some_iff→ao,getElem?_append_left→bh,all_eq_true→ir
open Option renaming some→aY
namespace Go.Proofs.YtibneekkkdnmgaaGreatDoor.zZ
open Go.ChangeShapes Go.WideShapes Go.ChangeAt Go.RowKit Go.Den Go.Sep Go.Prog Go.Up
open Go.ChangeMaps (open_string shut_string)
theorem lifted(os:Os)(started:os.Started)(H:Type)(enc:TypeId×Value->H):
 ReturnsInHanded {} Tryz.checked os 12 .any (λw args=>(Rows.coreDiskSpec.pre enc Tryz.prog Tryz.f12 Rows.coreDiskRow.domain false w args/\laidMetH Tryz.prog Rows.coreDiskRow.laid w)/\sizedMet enc Tryz.prog Tryz.f12 (OpenSpec.ofChange Rows.coreDiskSpec) false w args)
  (Rows.coreDiskSpec.post enc Tryz.prog Tryz.f12 false true false false):=by
 refine returnsInHanded_of_change_and (C:=Tryz.checked) (X:=λw _=>laidMetH Tryz.prog Rows.coreDiskRow.laid w) (λ_ _ _ hh h=>h.of_heap hh) Mb started (by kernel_rfl) Tryz.func12
  (ChangeSpec.witness_shaped (enc:=enc) (C:=Tryz.checked) (os:=os) (X:=λw _=>laidMetH Tryz.prog Rows.coreDiskRow.laid w) false (World.laidAll Tryz.prog os Rows.coreDiskRow.laid) #[.slice none 0 0,.i 0,.slice none 0 0,.u 0,.i 0,.i 0] 8 (World.laidAll_os _ _ _)
   (pS os _) (by kernel_rfl) (by kernel_rfl) (by kernel_rfl)
   (by rw[MakeChecks.laidMetH_plain _ _ _ (by kernel_rfl)];exact laidMet_laidAll _ (pL1 os) (pL2 os))) ?_
 intro W base args ds gs before vt hW O8 Bm vx _;have pE:(DataW.weightsEach Tryz.prog (Tryz.f12.params.toList++Rows.coreDiskSpec.plain.varTypes Tryz.prog) (ds++gs)).all (·<=reachBytes)=true:=Bm;have qi:∀(j:Nat) t v,Tryz.f12.params[j]?=some t->args[j]?=some v->Value.okWide Tryz.prog W .any base t v:=vt;have Pb:=hW;obtain⟨p,q,Pd,hV,rfl,VC,E9⟩:=hW;have hA:DataW.TrodAll enc Tryz.prog W 0 (λ_=>true) true Tryz.f12.params.toList args.toList ds p:=Pd;have Pc:=hA;rw[Tryz.params12] at hA qi pE;obtain⟨v0,vs0,d0,Zh,p0,q0,vy,rfl,rfl,h0,r0⟩:=trodAll_cons hA;obtain⟨v1,vs1,d1,ds1,p1,q1,rfl,rfl,rfl,h1,r1⟩:=trodAll_cons r0;obtain⟨v2,zo,d2,ds2,p2,q2,rfl,rfl,rfl,h2,r2⟩:=trodAll_cons r1;obtain⟨v3,vs3,d3,ds3,p3,q3,rfl,rfl,rfl,h3,r3⟩:=trodAll_cons r2;obtain⟨v4,vs4,d4,ds4,p4,q4,rfl,rfl,rfl,h4,r4⟩:=trodAll_cons r3;obtain⟨v5,vs5,d5,ds5,p5,q5,rfl,rfl,rfl,h5,r5⟩:=trodAll_cons r4;obtain⟨rfl,rfl,rfl⟩:=trodAll_nil r5;obtain rfl:args=#[v0,v1,v2,v3,v4,v5]:=by cases args;simp_all
 obtain⟨rfl,rfl⟩:=trodVars_none hV;have Lf:∀(j:Nat) t d,([22,3,83,27,3,3]:List TypeId)[j]?=some t->([d0,d1,d2,d3,d4,d5]:List _)[j]?=some d->∀n∈d.weights Tryz.prog t,n<=reachBytes:=λj t d ht hd n hn=>by
  have:=ir.1 pE n (DataW.weights_mem_each (j:=j) (t:=t) (d:=d) ?_ ?_ n hn)
  ·simpa using this
  ·have bX:=(ao.1 ht).1;rw[bh (by simpa using bX)];exact ht
  ·have bX:=(ao.1 hd).1;rw[bh (by simpa using bX)];exact hd
 obtain⟨a0,n0,c0,x0,rfl,Oy,Po,by0,OO⟩:=pr (f:=5) (ks:=[.i .i64,.s,.i .u64,.i .i64,.i .i64,.i .i64]) Tryz.underlying22 (by kernel_rfl) (by kernel_rfl) (qi 0 22 v0 rfl rfl) h0 (Lf 0 22 d0 rfl rfl);obtain⟨a1,rfl,_,_,w1⟩:=open_int Tryz.underlying3 (qi 1 3 v1 rfl rfl) h1;obtain⟨a2,n2,c2,x2,rfl,ro2,el2,by2,mx2⟩:=pr (f:=5) (ks:=[.s]) Tryz.underlying83 (by kernel_rfl) (by kernel_rfl) (qi 2 83 v2 rfl rfl) h2 (Lf 2 83 d2 rfl rfl);obtain⟨a3,rfl,_,_,w3⟩:=open_int Tryz.underlying27 (qi 3 27 v3 rfl rfl) h3;obtain⟨a4,rfl,_,_,w4⟩:=open_int Tryz.underlying3 (qi 4 3 v4 rfl rfl) h4;obtain⟨a5,rfl,_,_,w5⟩:=open_int Tryz.underlying3 (qi 5 3 v5 rfl rfl) h5;refine(e12.2 _ _ W (Nf (W:=W) (MS vx) Oy Po OO ro2 el2 mx2:U [.l,.n,.l,.i .u64,.n,.n] cb _ (λv w'=>v=.bool true/\Below W.heap.size W w') W)).mono λe W' ⟨v,he,hv,Hd⟩=>?_;subst he hv;exact⟨_,rfl,_,_,_,[],_,[],Pb,trodAll_mk1 (shut_bool Tryz.underlying4 _),Go.Sep.Below.trodAll Go.Proofs.YtibneekkkdnmgaaGreatDoor.p2 Hd (by kernel_rfl) Pc,rfl,Hd.frame _,λh=>by cases h⟩
theorem over:Rows.coreDiskRow.holds Tryz.pinned (OpenSpec.ofChange Rows.coreDiskSpec):=
 OpenClaim.holds_of_wide 12 Tryz.f12 rfl rfl rfl rfl rfl rfl rfl ⟨rfl,rfl,rfl,rfl,rfl⟩ rfl rfl rfl rfl rfl (by kernel_rfl) Tryz.func12 closed
  (of_decide_eq_true (by kernel_rfl)) (by unfold Func.isWrapper;first|(rw[if_pos (by decide+kernel)];kernel_rfl)|(rw[if_neg (by decide+kernel)];exact⟨rfl,rfl⟩))
  (λos started H enc _=>lifted os started H enc)
theorem plain(f:FuncId)(fn:Func)(hf:Tryz.pinned.checked.prog.funcNamed Rows.coreDiskRow.func=some f)(Lh:Tryz.pinned.checked.prog.funcs[f]?=some fn):
 false=Tryz.pinned.checked.prog.looks []/\∀(j:Nat) t,fn.params[j]?=some t->Tryz.pinned.checked.prog.wantsStandIn t=false:=by
 obtain rfl:f=12:=aY.inj ((show Tryz.prog.funcNamed Rows.coreDiskRow.func=some 12 by kernel_rfl).symm.trans hf)|>.symm;obtain rfl:fn=Tryz.f12:=(aY.inj (Tryz.func12.symm.trans Lh)).symm;refine⟨DV,λj t ht=>?_⟩;rw[Tryz.params12] at ht;have hm:t∈[22,3,83,27,3,3]:=by simpa using xU ht
 have fG:([22,3,83,27,3,3].all λu=> !Tryz.prog.wantsStandIn u)=true:=by kernel_rfl
 exact(show Tryz.prog.wantsStandIn t=false by simpa using ir.1 fG t hm)
theorem vM:OpenClaim.wfByText (OpenSpec.ofChange Rows.coreDiskSpec) Rows.coreDiskRow=true:=by kernel_rfl
theorem vL:Tryz.pinned.checked.prog.mainIs=some (Rows.coreDiskCard.stood.harness.fst,Rows.coreDiskCard.stood.harness.snd.toList):=DU
theorem vK:false=Rows.coreDiskRow.goesBy Tryz.pinned.checked.prog:=by kernel_rfl
theorem By:Rows.CoreDiskCardSaid:=
 Claim7.holds_tied_plain_at .later [] _ _ _ _ over (λ_ h=>by cases h) vM (λ_ h=>by cases h) coreDisk_row_tie rfl ⟨rfl,rfl⟩ vL rfl plain vK
end Go.Proofs.YtibneekkkdnmgaaGreatDoor.zZ
namespace Go.Proofs.YtibneekkkdnmgaaGreatDoor
theorem Wj:Rows.CoreDiskSaid:=zZ.over
theorem coreDisk_card:Rows.CoreDiskCardSaid:=zZ.By
end Go.Proofs.YtibneekkkdnmgaaGreatDoor
