/- Part of the proof: see the last text. -/
import Derived.Test.YtibneekkkdnmgaaGreatDoorPE
import Derived.Test.YtibneekkkdnmgaaGreatDoorPD
import Derived.Test.YtibneekkkdnmgaaGreatDoorPB
import Derived.Laws.Externs
import Derived.Test.YtibneekkkdnmgaaGreatDoorProg
import Derived.Shelf.Strings.Builder2
import Derived.Shelf.Strings.Repeat
import Derived.Test.YtibneekkkdnmgaaGreatDoorRows
import Derived.ChangeSame
import Derived.MakeChecks
import Derived.LaidMore
set_option linter.all false
set_option maxRecDepth 100000
set_option synthInstance.maxSize 100000
open Array renaming replicate→jH
open Int renaming eq_ofNat_of_zero_le→bw
open List renaming Perm→bX,map_cons→dA,map_nil→uk
open Nat renaming le_trans→zy,le_of_ble_eq_true→aI
open Option renaming some→bE
namespace Go.Proofs.YtibneekkkdnmgaaGreatDoor
open Go.Sep Go.Den Go.RowKit Go.Prog Go.Md Go.cH Go.Up
section
variable {W:World} {L:LH} {a:Nat} {m0:aA}
def Mid(m0:aA)(b:Up.bh)(hs:List C)(k:Nat):Prop:=∃m,pJ b m/\Md.bS m/\YC m0 m/\Da m0.clock m.ax=k/\hs.length+4* k<=150000
def abo:sg Tryz.prog []:=sg.nil
abbrev Mem(a l D r1 rn r0:Nat)(r:Loop)(n:Int)(b:Up.bh)(hs:List C)(L:LH):LH:=
 ob l (.loop r)::ob D (.deferred (some []))::Sep.pt r1 [.pointer (some (ad a 0))]::Sep.pt rn [.i n]::Sep.pt r0 [.pointer (some (ad a 0))]::cR a (b,hs)::L
def Tl(hT:oo Tryz.prog T82)(hm:Tryz.prog.follows .mixedOrders=true){fn:FuncId}{tmps:Array Value}{D l r0 r1 rn j k:Nat}{r:Loop}
 (hr:r={state:=.ready,pending:=none,fn:=fn,tmps:=tmps,params:=#[12],assign:=Qp,body:=bd,defers:=D})(h20:tmps.size=20)
 (h5:tmps[5]?=some (.pointer (some (ad rn 0))))(h2:tmps[2]?=some (.pointer (some (ad r0 0)))){P3:HP}{n:Int}{b:Up.bh}{hs:List C}{x:Md.cr}{w:World}
 (jo:St W w (P3::Mem a l D r1 rn r0 r n b hs L))(FP:Mid m0 b hs k)(hx:x∈b.ax)(ho:nr b.clock x){R:Ending->World->Prop}
 (hR:∀n' b' fC k' w',k'<k->Mid m0 b' fC k'->St W w' (P3::Mem a l D r1 rn r0 r n' b' fC L)->R (.returned (.bool true)) w'):
 RoundIn Fence.wide j Tryz.prog l fn (tmps.setIfInBounds 12 (.agg ⟨aM x.move⟩)) Qp bd w R:=by
 apply roundIn_of_wpIn trivial;have okF:Ok J8:=⟨hT,abo,hm⟩;have cj:12<tmps.size:=by omega
 have s3:S3 J8 [] [(12,.agg ⟨aM x.move⟩),(5,.pointer (some (ad rn 0))),(2,.pointer (some (ad r0 0)))] {tmps:=tmps.setIfInBounds 12 (.agg ⟨aM x.move⟩),defers:=[]}:=by
  refine S3.cons ?_ (S3.cons ?_ (S3.cons ?_ (S3.start rfl ?_)))
  ·show(tmps.setIfInBounds 12 _)[12]?=_;simp[cj]
  ·show(tmps.setIfInBounds 12 _)[5]?=_;rw[Array.getElem?_setIfInBounds_ne (by decide)];exact h5
  ·show(tmps.setIfInBounds 12 _)[2]?=_;rw[Array.getElem?_setIfInBounds_ne (by decide)];exact h2
  ·show(tmps.setIfInBounds 12 _).size=20;simp[h20]
 apply DZ (F:=J8) (.inr ⟨l,rfl⟩) okF JI.2.2.2.2.1 s3;rw[das];obtain⟨m,FN,hg,afs,hov,hlen⟩:=FP;refine T.at ?_ jo;refine tN λr6=>?_;apply ws;intro w1 AS a1 ha1;have hl1:=(AS.obj (k:=2) (b:=l) (o:=.loop r) rfl).1;refine⟨_,run_beginRound hl1 (by rw[hr]),?_⟩;have gI:=AS.put (k:=2) (b:=l) (o:=.loop r) (.loop {r with state:=.busy}) rfl (by simp);apply DZ (F:=J8) (.inr ⟨l,rfl⟩) okF JI.2.2.2.2.2.1 ha1;rw[dbd];refine T.at ?_ gI;show T W (Sep.pt r6 (aM x.move)::P3::Mem a l D r1 rn r0 {r with state:=.busy} n b hs L) _;obtain⟨P4,hwt,m',Jj,XF,Ub,ais⟩:=HI FN hg afs hx ho;obtain⟨⟨d,hd,-,-⟩,⟨c,hc,-,-⟩,jW⟩:=hwt;refine qD (p:=a) λim=>?_;have kg:=im.Sh x hx;apply ws;show T W _ (dW (some ⟨a,0,none⟩) (aM x.move) (nm 0) 4 _);refine Hs (p:=a) (k:=x) P4 ho.1 kg.wq kg.move.aT (by decide) hd hc jW (.inr (.inr rfl)) (λh=>aQ h (by decide)) (λh=>aQ h (by decide)) (by omega) λfC hx'=>?_;apply ws;intro w3 vY a3 ZK;subst hr;have VR:=(vY.obj (k:=2) (b:=l) (o:=.loop {state:=.busy,pending:=none,fn:=fn,tmps:=tmps,params:=#[12],assign:=Qp,body:=bd,defers:=D}) rfl).1;refine⟨_,_,run_endRound none VR,?_⟩;have yt:=(vY.put (k:=2) (b:=l) (o:=.loop {state:=.busy,pending:=none,fn:=fn,tmps:=tmps,params:=#[12],assign:=Qp,body:=bd,defers:=D}) (.loop {state:=.ready,pending:=none,fn:=fn,tmps:=tmps,params:=#[12],assign:=Qp,body:=bd,defers:=D}) rfl (by simp)).drop;have:=hx'.len;exact hR _ _ _ _ _ (by omega) ⟨m',Jj,XF,Ub,rfl,by omega⟩ yt
abbrev yv(l:Nat):Value:=.func (.yield l) #[] #[]
abbrev UC(b:Bool)(r3 r1 l:Nat):Env:=(4,.bool b)::(3,.pointer (some (ad r3 0)))::(1,.pointer (some (ad r1 0)))::[(0,yv l)]
def abH(hT:oo Tryz.prog T82)(V4:oo Tryz.prog abX)(hm:Tryz.prog.follows .mixedOrders=true){fn:FuncId}{tmps:Array Value}{D l r0 r1 rn j:Nat}{r:Loop}
 (hr:r={state:=.ready,pending:=none,fn:=fn,tmps:=tmps,params:=#[12],assign:=Qp,body:=bd,defers:=D})(h20:tmps.size=20)
 (h5:tmps[5]?=some (.pointer (some (ad rn 0))))(h2:tmps[2]?=some (.pointer (some (ad r0 0)))){n:Int}{b:Up.bh}{hs:List C}{k:Nat}{w:World}
 (jo:St W w (Mem a l D r1 rn r0 r n b hs L))(FP:Mid m0 b hs k){R:Ending->World->Prop}
 (hR:∀n' b' fC k' w',Mid m0 b' fC k'->(∀x∈b'.ax,¬nr b'.clock x)->St W w' (Mem a l D r1 rn r0 r n' b' fC L)->R (.returned (.tuple #[])) w'):
 CallsIn Fence.wide j Tryz.prog 229 #[yv l,.pointer (some (ad r1 0))] w R:=by
 refine callsIn_of_wp Tryz.func229 Yk trivial ?_ rfl;have okF:Ok zH:=⟨V4,abo,hm⟩;have s0':S3 zH [] [(1,.pointer (some (ad r1 0))),(0,yv l)] {tmps:=#[yv l,.pointer (some (ad r1 0))]++jH (Tryz.f229.ntmps-2) undef,defers:=[]}:=by
  rw[n193.1];refine S3.cons ?_ (S3.cons ?_ (S3.start rfl ?_))
  ·show(#[yv l,.pointer (some (ad r1 0))]++jH 20 undef)[1]?=_;simp
  ·show(#[yv l,.pointer (some (ad r1 0))]++jH 20 undef)[0]?=_;simp
  ·show(#[yv l,.pointer (some (ad r1 0))]++jH 20 undef).size=22;simp
 apply Ag (F:=zH) (.inl rfl) okF F5.1 s0';rw[ds0];have main:∀(bb:Bool)(x:Md.cr)(r3:Nat)(n:Int)(b:Up.bh)(hs:List C)(k:Nat)(w:World)(a1:Act),S3 zH [] (UC bb r3 r1 l) a1->St W w (Sep.pt r3 (bM x)::Mem a l D r1 rn r0 r n b hs L)->Mid m0 b hs k->
                                             (if bb then x∈b.ax/\nr b.clock x else ∀x∈b.ax,¬nr b.clock x)->
                                             (Code.block 0 (.loop (.seq s1 (.seq (.block 1 (.seq (.region 3 (Ft s3) false) (.cond (.tmp 20) .ret .skip))) s4)))).wpIn Fence.wide j Tryz.prog (bodyPost Tryz.prog Tryz.f229 R) a1 w:=by
  intro bb x r3 n b hs k w a1 ha1 u7 FP hbb;refine wpIn_block (Ki (λk a1 w=>∃(bb:Bool)(x:Md.cr)(r3:Nat)(n:Int)(b:Up.bh)(hs:List C),S3 zH [] (UC bb r3 r1 l) a1/\St W w (Sep.pt r3 (bM x)::Mem a l D r1 rn r0 r n b hs L)/\Mid m0 b hs k/\
   (if bb then x∈b.ax/\nr b.clock x else ∀x∈b.ax,¬nr b.clock x)) ⟨k,bb,x,r3,n,b,hs,ha1,u7,FP,hbb⟩ ?_)
  rintro k a1 w ⟨bb,x,r3,n,b,hs,ha1,u7,FP,hbb⟩;apply Ag (F:=zH) (.inl rfl) okF F5.2.1 ha1;rw[ds1];cases bb with
  |false=>
   rw[dX];intro a2 Uk;show bodyPost Tryz.prog Tryz.f229 R .normal a2 w;refine⟨Uk.2,_,results_none n193.2 _ _ _,?_⟩;exact hR _ _ _ _ _ FP hbb u7.drop
  |true=>
   rw[kZ];obtain⟨hx,ho⟩:=hbb;intro a2 Uk;have Uk:S3 zH [] (UC true r3 r1 l) a2:=S3.cons (Uk.get rfl) (S3.cons (Uk.get rfl) (S3.cons (Uk.get rfl) (S3.cons (Uk.get rfl) Uk.nil)));show(Code.seq (.block 1 (.seq (.region 3 (Ft s3) false) (.cond (.tmp 20) .ret .skip))) s4).wpIn Fence.wide j Tryz.prog _ a2 w;refine wpIn_seq (wpIn_block (wpIn_seq ?_));refine Ht (F:=zH) (.inl rfl) okF 3 (by rw[Oi.2.2.2.2];decide) Uk ?_ ?_ (K:=λe w'=>St W w' (Sep.pt r3 (bM x)::Mem a l D r1 rn r0 r n b hs L)/\e=(18,.agg ⟨aM x.move⟩)::(17,.pointer (some (ad r3 16)))::(16,yv l)::UC true r3 r1 l)
   ·rw[ds3];refine T.at ?_ u7;apply ws;exact λw' fC=>⟨fC,rfl⟩
   ·rintro e a3 w3 ZK ⟨ac2,rfl⟩;rw[Oi.2.2.2.2];show wpOpsIn Fence.wide j Tryz.prog (Ft s3) _ [3,4] a3 w3;rw[wpOpsIn_cons];unfold wpOpIn;simp only[Oi.1];rw[ai (by simp[Region.wanted,Oi.2.2.2.1])];refine⟨λf _=>trivial,?_⟩;have hl:=(ac2.obj (k:=1) (b:=l) (o:=.loop r) rfl).1;have e16:a3.eval (.tmp 16)=yv l:=ZK.eval rfl;have e18:a3.eval (.tmp 18)=.agg ⟨aM x.move⟩:=ZK.eval rfl;rw[show Fence.wide.round=none from rfl,Oper.semAt_none,GQ Oi.2.2.1 e16,run_yield hl (by rw[hr];simp),Oper.uponIn_round];refine⟨λh=>(by cases h),?_⟩;have e2:((r.params.zip (#[Operand.tmp 18].map a3.eval)).foldl (λtmps(t,a)=>tmps.setIfInBounds t a) r.tmps)=tmps.setIfInBounds 12 (.agg ⟨aM x.move⟩):=by
     rw[hr];simp[e18]
    rw[e2,show r.fn=fn by rw[hr],show r.assign=Qp by rw[hr],show r.body=bd by rw[hr]];refine Tl (W:=W) (L:=L) (a:=a) (m0:=m0) hT hm hr h20 h5 h2 ac2 FP hx ho λn' b' fC k' w' AU P5 ae'=>?_;dsimp only;rw[Oi.2.1];have V3:=S3.put (v:=.bool true) w' (t:=19) ZK rfl;refine Wh (F:=zH) (.inl rfl) okF 4 (by rw[Oi.2.2.2.2];decide) V3 ?_ ?_ (K:=λe w''=>w''=w'/\e=(20,.bool false)::(19,.bool true)::(18,.agg ⟨aM x.move⟩)::(17,.pointer (some (ad r3 16)))::(16,yv l)::UC true r3 r1 l)
    ·rw[ahV];exact⟨rfl,rfl⟩
    ·rintro e a5 w5 ha5 ⟨rfl,rfl⟩;show(Code.cond (.tmp 20) .ret .skip).wpIn Fence.wide j Tryz.prog _ a5 w5;refine wpIn_cond_false (ha5.eval rfl) (wpIn_skip ?_);show s4.wpIn Fence.wide j Tryz.prog _ a5 w5;have ha6:S3 zH [] ((3,.pointer (some (ad r3 0)))::(1,.pointer (some (ad r1 0)))::[(0,yv l)]) a5:=S3.cons (ha5.get rfl) (S3.cons (ha5.get rfl) (S3.cons (ha5.get rfl) ha5.nil));apply DZ (F:=zH) (.inl rfl) okF F5.2.2 ha6;rw[ds4];refine T.at ?_ ae';apply ws;intros;rename_i r4;refine Tk (p:=a) (λy hy hoy=>?_) (λJm=>?_)
     ·apply ws;intro w7 VN a7 Dm;refine⟨k',AU,true,y,r4,n',b',fC,S3.cons (Dm.get rfl) (S3.cons (Dm.get rfl) (S3.cons (Dm.get rfl) (S3.cons (Dm.get rfl) Dm.nil))),?_,P5,⟨hy,hoy⟩⟩;exact(VN.perm (bX.swap _ _ _)).drop
     ·apply ws;intro w7 VN a7 Dm;refine⟨k',AU,false,zK,r4,n',b',fC,S3.cons (Dm.get rfl) (S3.cons (Dm.get rfl) (S3.cons (Dm.get rfl) (S3.cons (Dm.get rfl) Dm.nil))),?_,P5,Jm⟩;exact(VN.perm (bX.swap _ _ _)).drop
 refine T.at ?_ jo;apply ws;refine Tk (p:=a) (λy hy hoy=>?_) (λJm=>?_)
 ·apply ws;intros;rename_i r4;intro w7 VN a7 Dm;exact main true y r4 n b hs k w7 a7 (S3.cons (Dm.get rfl) (S3.cons (Dm.get rfl) (S3.cons (Dm.get rfl) (S3.cons (Dm.get rfl) Dm.nil)))) VN FP ⟨hy,hoy⟩
 ·apply ws;intros;rename_i r4;intro w7 VN a7 Dm;exact main false zK r4 n b hs k w7 a7 (S3.cons (Dm.get rfl) (S3.cons (Dm.get rfl) (S3.cons (Dm.get rfl) (S3.cons (Dm.get rfl) Dm.nil)))) VN FP Jm
end
def eHT(hm:Tryz.prog.follows .mixedOrders=true)(eU:aG Tryz.prog 182 eg.u)(eF:aG Tryz.prog 183 tB.u)(eR:aG Tryz.prog 184 dW.u)(eD:aG Tryz.prog 230 fq.u):aG Tryz.prog 134 uw.u:=by
 have hT:oo Tryz.prog T82:=⟨.inl eU,.inl eF,.inl eR,trivial⟩;have V4:oo Tryz.prog abX:=⟨.inl eD,trivial⟩;refine⟨⟨_,Tryz.func134,by kernel_rfl,by kernel_rfl⟩,λargs K w h=>?_⟩;unfold uw.u at h;split at h
 rotate_left
 ·exact h.elim
 rename_i p now;obtain⟨W,L,a,b,m,hs,rfl,u7,FN,hg,hlen,hk⟩:=h;refine(callsIn_wide (n:=0)).1 (callsIn_of_wp_marks Tryz.func134 abN trivial ?_ rfl);have okF:Ok J8:=⟨hT,abo,hm⟩;obtain⟨dr0,dr1,dr2,dr3,-,-,dr7⟩:=JI;have s0':S3 J8 [] [(1,.i now),(0,.pointer (some ⟨a,0,none⟩))] {tmps:=⟨[.pointer (some ⟨a,0,none⟩),.i now]⟩++jH (Tryz.f134.ntmps-2) undef,defers:=[]}:=by
  rw[n82.1];refine S3.cons ?_ (S3.cons ?_ (S3.start rfl ?_))
  ·show(#[Value.pointer (some ⟨a,0,none⟩),.i now]++jH 18 undef)[1]?=_;simp
  ·show(#[Value.pointer (some ⟨a,0,none⟩),.i now]++jH 18 undef)[0]?=_;simp
  ·show(#[Value.pointer (some ⟨a,0,none⟩),.i now]++jH 18 undef).size=20;simp
 apply Ag (F:=J8) (.inl rfl) okF dr0 s0';rw[d0];refine T.at ?_ u7;refine tN λr0=>?_;intro w1 AS a1 ha1;apply Ag (F:=J8) (.inl rfl) okF dr1 ha1;rw[d1];refine T.at ?_ AS;refine nF rfl (yj ?_);refine WB (p:=a) (by omega) λac6 hx1=>B9 ?_;have hl1:=hx1.len;intro w2 gI a2 Uk;apply Ag (F:=J8) (.inl rfl) okF dr2 Uk;rw[d2];refine T.at ?_ gI;refine tN λrn=>?_;apply ws;intro w3 vY a3 ZK;refine wpIn_seq (Ag (F:=J8) (.inl rfl) okF dr3 ZK ?_);rw[d3];refine T.at ?_ vY;refine nF rfl (yj ?_);unfold tB;refine tN λr1=>?_;intro w4 yt a4 V3;have yt:St W w4 (Sep.pt r1 [.pointer (some (ad a 0))]::Sep.pt rn [.i 0]::Sep.pt r0 [.pointer (some (ad a 0))]::cR a (Go.Up.tick b now,ac6)::L):=yt;show(Code.block 0 (.rangeFunc (.tmp 11) #[12] Qp bd)).wpIn Fence.wide 0 Tryz.prog _ a4 w4;apply wpIn_block;refine Tq rfl (g:=.tmp 11) (gf:=229) (V3.eval rfl) Tryz.func229 (by kernel_rfl) (by kernel_rfl) λfn=>?_;have ho1:=(yt.acS (.deferred (some [])) (by simp)).acS (.loop {state:=.ready,pending:=none,fn:=fn,tmps:=a4.tmps,params:=#[12],assign:=Qp,body:=bd,defers:=w4.heap.size}) (by simp);rw[World.size_alloc] at ho1;have FP:Mid (uI m now) (Go.Up.tick b now) ac6 (Da (uI m now).clock (uI m now).ax):=⟨uI m now,R9 FN now,DA hg now,YC.refl _,rfl,by
  have:Da (uI m now).clock (uI m now).ax<=96:=zy (List.length_filter_le _ _) hg.some_
  omega⟩
 refine abH (W:=W) (L:=L) (a:=a) (m0:=uI m now) (r0:=r0) (rn:=rn) (D:=w4.heap.size) (tmps:=a4.tmps) hT V4 hm rfl V3.1.1.size (V3.get rfl) (V3.get rfl) ho1 FP λn' b' fC k' w5 P5 Jm P0=>?_;have hl5:=(P0.obj (k:=0) (b:=w4.heap.size+1) rfl).1;refine⟨_,_,run_endLoop hl5 (by simp),?_⟩;show Exit.inBlock 0 _ .normal _ _;have hs6:=P0.put (k:=0) (b:=w4.heap.size+1) (.loop {state:=.exhausted,pending:=none,fn:=fn,tmps:=a4.tmps,params:=#[12],assign:=Qp,body:=bd,defers:=w4.heap.size}) rfl (by simp);have hs6:St W _ (ob (w4.heap.size+1) (.loop {state:=.exhausted,pending:=none,fn:=fn,tmps:=a4.tmps,params:=#[12],assign:=Qp,body:=bd,defers:=w4.heap.size})::ob w4.heap.size (.deferred (some []))::Sep.pt r1 [.pointer (some (ad a 0))]::Sep.pt rn [.i n']::Sep.pt r0 [.pointer (some (ad a 0))]::cR a (b',fC)::L):=hs6;show(Code.seq q7 .ret).wpIn Fence.wide 0 Tryz.prog _ _ _;have ha5:S3 J8 [{target:=.collected w4.heap.size,args:=#[]}] [(5,.pointer (some (ad rn 0)))] {a4 with defers:={target:=.collected w4.heap.size,args:=#[]}::a4.defers}:=by
  refine S3.cons (V3.get rfl) ⟨⟨⟨V3.1.1.size,rfl,λt v hl=>by simp[lk] at hl⟩,V3.1.2⟩,?_⟩;show _::a4.defers=_;rw[V3.2]
 apply Ag (F:=J8) (.inl rfl) okF dr7 ha5;rw[d7];refine T.at ?_ hs6;refine nF (r:=rn) (o:=0) rfl (mg ?_);intro w7 VN a7 Dm;show Code.ret.wpIn Fence.wide 0 Tryz.prog _ a7 w7;apply wpIn_ret;show LeavesInM _ _ _ _ _ _ a7.defers _ _;rw[Dm.2];have hD:=(VN.obj (k:=1) (b:=w4.heap.size) rfl).1;have hs8:=VN.put (k:=1) (b:=w4.heap.size) (.deferred none) rfl (by simp);refine⟨by simp,.inl ⟨_,_,rfl,run_takeDeferred hD,?_⟩⟩;refine⟨_,results_tmp n82.2 _ _ _,_,rfl,?_⟩;have e4:a7.tmps.getD 4 undef=.i n':=by rw[Array.getD_eq_getD_getElem?,Dm.get (t:=4) rfl];rfl
 rw[e4];obtain⟨m',Jj,XF,Ub,-,adm⟩:=P5;have:=HJ Jj Ub Jm;rw[<-IH] at this;subst this;exact hk n' b' fC _ Jj XF (by omega) hs8.drop.drop.drop.drop.drop
end Go.Proofs.YtibneekkkdnmgaaGreatDoor
namespace Go.Proofs.YtibneekkkdnmgaaGreatDoor
open Go.Den Go.Prog
noncomputable abbrev P:Program:=Tryz.prog
def mixed:P.follows .mixedOrders=true:=by kernel_rfl
def eqs:Vw:=[(45,[.u 0,.u 0]),(47,eK),(52,iD),(54,cI)]
def adO:sg P eqs:=sg.cons (by kernel_rfl) (by kernel_rfl) Tryz.underlying45 (sg.cons (by kernel_rfl) (by kernel_rfl) Tryz.underlying47 (sg.cons (by kernel_rfl) (by kernel_rfl) Tryz.underlying52 (sg.cons (by kernel_rfl) (by kernel_rfl) Tryz.underlying54 sg.nil)))
def t0:oo P []:=trivial
def tk{T:GH}{g:Nat}{p:WP}(e:aG P g p)(h:oo P T):oo P ((g,p)::T):=⟨.inl e,h⟩
def tx{T:GH}{g:Nat}{p:WP}(e:YB P g p)(h:oo P T):oo P ((g,p)::T):=⟨.inr e,h⟩
section
variable {g1 g2 g3 g4 g5 g6 g7 g8:Nat} {p1 p2 p3 p4 p5 p6 p7 p8:WP}
def t1(a:aG P g1 p1):oo P [(g1,p1)]:=tk a t0
def t2(a:aG P g1 p1)(b:aG P g2 p2):oo P [(g1,p1),(g2,p2)]:=tk a (t1 b)
def t3(a:aG P g1 p1)(b:aG P g2 p2)(c:aG P g3 p3):oo P [(g1,p1),(g2,p2),(g3,p3)]:=tk a (t2 b c)
def t4(a:aG P g1 p1)(b:aG P g2 p2)(c:aG P g3 p3)(d:aG P g4 p4):oo P [(g1,p1),(g2,p2),(g3,p3),(g4,p4)]:=tk a (t3 b c d)
def t5(a:aG P g1 p1)(b:aG P g2 p2)(c:aG P g3 p3)(d:aG P g4 p4)(e:aG P g5 p5):oo P [(g1,p1),(g2,p2),(g3,p3),(g4,p4),(g5,p5)]:=tk a (t4 b c d e)
def t6(a:aG P g1 p1)(b:aG P g2 p2)(c:aG P g3 p3)(d:aG P g4 p4)(e:aG P g5 p5)(f:aG P g6 p6):oo P [(g1,p1),(g2,p2),(g3,p3),(g4,p4),(g5,p5),(g6,p6)]:=tk a (t5 b c d e f)
end
def fi{n k:Nat}{f g:WK}{w:World}(h:f w)(e:f=g:=by kernel_rfl)(l:Nat.ble n k=true:=by rfl):n<=k/\g w:=⟨aI l,e▸h⟩
def em{T:GH}{g:Nat}{fn:Func}{p:WP}(m:List Nat)(JR:List (Nat×List (Nat×Value)))(hT:oo P T)(hf:P.funcs[g]?=some fn)
 (hp:∀args K w,p args K w->args.length<=fn.ntmps/\body P T eqs fn.ntmps m JR fn.results.toList (fn.body.getD .skip) args K w)(hs:fn.body.isSome=true:=by rfl)(hn:(fn.name== "runtime.NumGoroutine")=false:=by decide):aG P g p:=
 Ut m JR hT adO mixed hf (by obtain⟨c,hc⟩:=Option.isSome_iff_exists.1 hs;rw[hc];rfl) hn hp
def en{T:GH}{g:Nat}{fn:Func}{p:WP}(JR:List (Nat×List (Nat×Value)))(hT:oo P T)(hf:P.funcs[g]?=some fn)
 (hp:∀args K w,p args K w->args.length<=fn.ntmps/\body P T eqs fn.ntmps [] JR fn.results.toList (fn.body.getD .skip) args K w)(hs:fn.body.isSome=true:=by rfl)(hn:(fn.name== "runtime.NumGoroutine")=false:=by decide):aG P g p:=em [] JR hT hf hp hs hn
def e0{T:GH}{g:Nat}{fn:Func}{p:WP}(hT:oo P T)(hf:P.funcs[g]?=some fn)
 (hp:∀args K w,p args K w->args.length<=fn.ntmps/\body P T eqs fn.ntmps [] [] fn.results.toList (fn.body.getD .skip) args K w)(hs:fn.body.isSome=true:=by rfl)(hn:(fn.name== "runtime.NumGoroutine")=false:=by decide):aG P g p:=em [] [] hT hf hp hs hn
def uc{k:List Kd}{F:Fu k}{T:GH}{g:Nat}{fn:Func}(m:List Nat)(JR:List (Nat×List (Nat×Value)))(hT:oo P T)(hf:P.funcs[g]?=some fn)
 (e:F=cur k (body P T eqs fn.ntmps m JR fn.results.toList (fn.body.getD .skip)):=by kernel_rfl)(l:Nat.ble k.length fn.ntmps=true:=by rfl)(hs:fn.body.isSome=true:=by rfl)(hn:(fn.name== "runtime.NumGoroutine")=false:=by decide):aG P g (U k F):=
 em m JR hT hf (λa K w h=>by subst e;obtain⟨h1,h2⟩:=BY k _ h;exact⟨by rw[h1];exact aI l,h2⟩) hs hn
def ub{k:List Kd}{F:Fu k}{T:GH}{g:Nat}{fn:Func}(JR:List (Nat×List (Nat×Value)))(hT:oo P T)(hf:P.funcs[g]?=some fn)
 (e:F=cur k (body P T eqs fn.ntmps [] JR fn.results.toList (fn.body.getD .skip)):=by kernel_rfl)(l:Nat.ble k.length fn.ntmps=true:=by rfl)(hs:fn.body.isSome=true:=by rfl)(hn:(fn.name== "runtime.NumGoroutine")=false:=by decide):aG P g (U k F):=uc [] JR hT hf e l hs hn
def ua{k:List Kd}{F:Fu k}{T:GH}{g:Nat}{fn:Func}(hT:oo P T)(hf:P.funcs[g]?=some fn)
 (e:F=cur k (body P T eqs fn.ntmps [] [] fn.results.toList (fn.body.getD .skip)):=by kernel_rfl)(l:Nat.ble k.length fn.ntmps=true:=by rfl)(hs:fn.body.isSome=true:=by rfl)(hn:(fn.name== "runtime.NumGoroutine")=false:=by decide):aG P g (U k F):=uc [] [] hT hf e l hs hn
def agk:YB P 280 rl.u:=λargs K w h=>by
 unfold rl.u at h;split at h
 ·rename_i x y c;obtain⟨⟨⟨hx,hy⟩,h0,h1⟩,hk⟩:=h;exact⟨_,_,by rw[run_callFunc_extern Tryz.func280 (by kernel_rfl) (by kernel_rfl) (by kernel_rfl) (e:=add64Entry) (by kernel_rfl),run_add64 x y c hx hy h0 h1];rfl,hk⟩
 ·exact h.elim
def acy:Array Value->Sem Value:=λargs=>do
 let(x,y,b)<-Extern.MathBitsCarry.three "Sub64" args
 pure (Extern.MathBitsCarry.pair ((x+Extern.MathBitsCarry.m64-y-b)%Extern.MathBitsCarry.m64) (if x<y+b then 1 else 0))
def WG(x y b:Nat)(hb:b<=1)(w:World):(acy #[.u x,.u y,.u b]).run P w=
 .ok (.tuple #[.u (((x+18446744073709551616-y-b)%18446744073709551616:Nat):Int),.u ((if x<y+b then 1 else 0:Nat):Int)]) w:=by
 have:b=0\/b=1:=by omega
 rcases this with rfl|rfl<;>rfl
def agl:YB P 279 rj.u:=λargs K w h=>by
 unfold rj.u at h;split at h
 ·rename_i x y c;obtain⟨⟨⟨hx,hy,hy2⟩,h0,h1⟩,hk⟩:=h;obtain⟨x,rfl⟩:=bw hx;obtain⟨y,rfl⟩:=bw hy;obtain⟨c,rfl⟩:=bw h0;refine⟨_,_,by rw[run_callFunc_extern Tryz.func279 (by kernel_rfl) (by kernel_rfl) (by kernel_rfl) (e:=acy) (by kernel_rfl),WG x y c (by omega)];rfl,?_⟩;have a1:(((x+18446744073709551616-y-c)%18446744073709551616:Nat):Int)=((x:Int) -y-c)%18446744073709551616:=by omega
  have a2:((if x<y+c then 1 else 0:Nat):Int)=if(x:Int)<y+c then 1 else 0:=by split<;>split<;>omega
  rw[a1,a2];exact hk
 ·exact h.elim
end Go.Proofs.YtibneekkkdnmgaaGreatDoor
namespace Go.Proofs
open Go.Shelf
def Tryz.Df:Go.Shelf.Ren:=⟨λ|169=>201|n=>n,λ|70=>283|9=>9|0=>0|72=>285|37=>163|127=>331|3=>3|5=>5|n=>n,λ|n=>n⟩
theorem Tryz.Xl:Go.Proofs.Lays.n169 Tryz.prog Tryz.Df:={
 mixed:=by kernel_rfl
 f169:=Tryz.func201.trans (congrArg some (by kernel_rfl))
 t0:=Tryz.underlying0
 a0:=Tryz.isAgg0
 z0:=Tryz.sizeOf0
 v0:=Tryz.zeroValue0
 t3:=Tryz.underlying3
 a3:=Tryz.isAgg3
 z3:=Tryz.sizeOf3
 v3:=Tryz.zeroValue3
 t9:=Tryz.underlying9
 a9:=Tryz.isAgg9
 z9:=Tryz.sizeOf9
 v9:=Tryz.zeroValue9
 t37:=Tryz.underlying163
 a37:=Tryz.isAgg163
 z37:=Tryz.sizeOf163
 v37:=Tryz.zeroValue163
 t70:=Tryz.underlying283
 a70:=Tryz.isAgg283
 z70:=Tryz.sizeOf283
 v70:=Tryz.zeroValue283
 t72:=Tryz.underlying285
 a72:=Tryz.isAgg285
 z72:=Tryz.sizeOf285
 v72:=Tryz.zeroValue285
 t127:=Tryz.underlying331
 a127:=Tryz.isAgg331
 z127:=Tryz.sizeOf331
 v127:=Tryz.zeroValue331}
theorem Tryz.B3:Builder.Extra Tryz.prog Tryz.Df:={
 sizeBuilder:=by kernel_rfl
 liesBuilder:=by kernel_rfl
 t5:=Tryz.underlying5
 a5:=Tryz.isAgg5
 z5:=Tryz.sizeOf5
 v5:=Tryz.zeroValue5
 infoByte:=by kernel_rfl
 cellsByte:=by kernel_rfl
 sizeByte:=by kernel_rfl
 neB5:=by decide}
open Go.RowKit in
theorem Tryz.Builder_String_any(B b:Nat)(l:List UInt8)(w:World)(h:Lib.IsBuilder 285 5 B b (Lib.byteCells l) w)(hBw:B<=w.heap.size):
 Calls Tryz.prog 201 #[.pointer (some ⟨b,0,none⟩)] w λe w'=>e=.returned (.string ⟨l.toArray⟩)/\Below B w w':=Any.Builder_String_any Tryz.Xl Tryz.B3 B b l w h hBw
def Tryz.yS:Go.Shelf.Ren:=⟨λ|105=>148|212=>196|99=>197|165=>198|166=>199|170=>200|169=>201|263=>241|264=>242|206=>243|240=>244|241=>245|276=>292|277=>293|n=>n,λ|9=>9|3=>3|4=>4|20=>20|0=>0|46=>229|109=>280|5=>5|72=>285|76=>288|51=>322|146=>327|53=>27|148=>329|70=>283|37=>163|75=>287|127=>331|164=>361|80=>171|n=>n,λ|n=>n⟩
theorem Tryz.PM:Go.Proofs.Lays.n105 Tryz.prog Tryz.yS:={
 mixed:=by kernel_rfl
 f99:=Tryz.func197.trans (congrArg some (by kernel_rfl))
 f105:=Tryz.func148.trans (congrArg some (by kernel_rfl))
 f165:=Tryz.func198.trans (congrArg some (by kernel_rfl))
 f166:=Tryz.func199.trans (congrArg some (by kernel_rfl))
 f169:=Tryz.func201.trans (congrArg some (by kernel_rfl))
 f170:=Tryz.func200.trans (congrArg some (by kernel_rfl))
 f206:=Tryz.func243.trans (congrArg some (by kernel_rfl))
 f212:=Tryz.func196.trans (congrArg some (by kernel_rfl))
 f240:=Tryz.func244.trans (congrArg some (by kernel_rfl))
 f241:=Tryz.func245.trans (congrArg some (by kernel_rfl))
 f263:=Tryz.func241.trans (congrArg some (by kernel_rfl))
 f264:=Tryz.func242.trans (congrArg some (by kernel_rfl))
 f276:=Tryz.func292.trans (congrArg some (by kernel_rfl))
 f277:=Tryz.func293.trans (congrArg some (by kernel_rfl))
 t0:=Tryz.underlying0
 a0:=Tryz.isAgg0
 z0:=Tryz.sizeOf0
 v0:=Tryz.zeroValue0
 t3:=Tryz.underlying3
 a3:=Tryz.isAgg3
 z3:=Tryz.sizeOf3
 v3:=Tryz.zeroValue3
 t4:=Tryz.underlying4
 a4:=Tryz.isAgg4
 z4:=Tryz.sizeOf4
 v4:=Tryz.zeroValue4
 t5:=Tryz.underlying5
 a5:=Tryz.isAgg5
 z5:=Tryz.sizeOf5
 v5:=Tryz.zeroValue5
 t9:=Tryz.underlying9
 a9:=Tryz.isAgg9
 z9:=Tryz.sizeOf9
 v9:=Tryz.zeroValue9
 t20:=Tryz.underlying20
 a20:=Tryz.isAgg20
 z20:=Tryz.sizeOf20
 v20:=Tryz.zeroValue20
 t37:=Tryz.underlying163
 a37:=Tryz.isAgg163
 z37:=Tryz.sizeOf163
 v37:=Tryz.zeroValue163
 t46:=Tryz.underlying229
 a46:=Tryz.isAgg229
 z46:=Tryz.sizeOf229
 v46:=Tryz.zeroValue229
 t51:=Tryz.underlying322
 a51:=Tryz.isAgg322
 z51:=Tryz.sizeOf322
 v51:=Tryz.zeroValue322
 t53:=Tryz.underlying27
 a53:=Tryz.isAgg27
 z53:=Tryz.sizeOf27
 v53:=Tryz.zeroValue27
 t70:=Tryz.underlying283
 a70:=Tryz.isAgg283
 z70:=Tryz.sizeOf283
 v70:=Tryz.zeroValue283
 t72:=Tryz.underlying285
 a72:=Tryz.isAgg285
 z72:=Tryz.sizeOf285
 v72:=Tryz.zeroValue285
 t75:=Tryz.underlying287
 a75:=Tryz.isAgg287
 z75:=Tryz.sizeOf287
 v75:=Tryz.zeroValue287
 t76:=Tryz.underlying288
 a76:=Tryz.isAgg288
 z76:=Tryz.sizeOf288
 v76:=Tryz.zeroValue288
 t109:=Tryz.underlying280
 a109:=Tryz.isAgg280
 z109:=Tryz.sizeOf280
 v109:=Tryz.zeroValue280
 t127:=Tryz.underlying331
 a127:=Tryz.isAgg331
 z127:=Tryz.sizeOf331
 v127:=Tryz.zeroValue331
 t146:=Tryz.underlying327
 a146:=Tryz.isAgg327
 z146:=Tryz.sizeOf327
 v146:=Tryz.zeroValue327
 t148:=Tryz.underlying329
 a148:=Tryz.isAgg329
 z148:=Tryz.sizeOf329
 v148:=Tryz.zeroValue329
 t164:=Tryz.underlying361
 a164:=Tryz.isAgg361
 z164:=Tryz.sizeOf361
 v164:=Tryz.zeroValue361}
theorem Tryz.vJ:Builder.Extra Tryz.prog Tryz.yS:={
 sizeBuilder:=by kernel_rfl
 liesBuilder:=by kernel_rfl
 t5:=Tryz.underlying5
 a5:=Tryz.isAgg5
 z5:=Tryz.sizeOf5
 v5:=Tryz.zeroValue5
 infoByte:=by kernel_rfl
 cellsByte:=by kernel_rfl
 sizeByte:=by kernel_rfl
 neB5:=by decide}
open Go.RowKit Go.Lib in
theorem Tryz.strings_Repeat(s:ByteArray)(c:Nat)(w:World)(hc:c<=9223372036854775807)(hlen:s.size* c<=140737488355328):
 Calls Tryz.prog 148 #[.string s,.int .i64 c] w λe w'=>e=.returned (.string ⟨(Lib.repeatL s.data.toList c).toArray⟩)/\Below w.heap.size w w':=Any.strings_Repeat Tryz.PM Tryz.vJ s c w hc hlen
open Go.RowKit Go.Lib in
theorem Tryz.Xm:Go.Proofs.Lays.n166 Tryz.prog Tryz.yS:={Tryz.PM with}
open Go.RowKit in
theorem Tryz.Builder_WriteString(B b:Nat)(bs:List Value)(s:ByteArray)(w:World)(h:Lib.IsBuilder 285 5 B b bs w)(hlen:bs.length+s.size<=140737488355328)(hBw:B<=w.heap.size):
 Calls Tryz.prog 199 #[.pointer (some ⟨b,0,none⟩),.string s] w λe w'=>e=.returned (.tuple #[.int .i64 s.size,.nilIface])/\(Lib.BuilderAt 285 5 B b (.pointer (some ⟨b,0,none⟩)) (bs++Lib.strCells s) w'/\Below B w w'):=Any.Builder_WriteString Tryz.Xm Tryz.vJ B b bs s w h hlen hBw
end Go.Proofs
namespace Go.Proofs.YtibneekkkdnmgaaGreatDoor
open Go.Den Go.Prog
def Pp(l:List UInt8):∀n,E8 l n=Go.Lib.repeatL l n
 |0=>rfl
 |n+1=>by simp[E8,Go.Lib.repeatL,Pp l n]
def aes:aG P 148 strings_Repeat.u:=⟨⟨_,Tryz.func148,rfl,rfl⟩,λargs K w h=>by
 unfold strings_Repeat.u at h
 split at h
 ·rename_i s n
  obtain⟨⟨h0,h1,h2⟩,hk⟩:=h
  obtain⟨m,rfl⟩:=bw h0
  refine(Go.Proofs.Tryz.strings_Repeat s m w (by omega) (by simpa using h1)).mono λe w' ⟨he,hb⟩=>⟨_,he,?_⟩
  rw[<-Pp];exact hk w' hb
 ·exact h.elim⟩
def ag4:aG P 199 iG.u:=⟨⟨_,Tryz.func199,rfl,rfl⟩,λargs K w h=>by
 unfold iG.u at h
 split at h
 ·rename_i p s
  obtain⟨B,b,l,rfl,hb,hl,hB,hk⟩:=h
  refine(Go.Proofs.Tryz.Builder_WriteString B b (Go.Lib.byteCells l) s w hb (by simpa [Go.Lib.byteCells] using hl) hB).mono λe w' ⟨he,hbb,hbl⟩=>⟨_,he,hk w' (.inr ?_) hbl⟩
  have e:Go.Lib.byteCells (l++s.data.toList)=Go.Lib.byteCells l++Go.Lib.strCells s:=by simp[Go.Lib.byteCells,Go.Lib.strCells]
  rw[e];exact hbb
 ·exact h.elim⟩
def ag3:aG P 201 ke.u:=⟨⟨_,Tryz.func201,rfl,rfl⟩,λargs K w h=>by
 unfold ke.u at h
 split at h
 ·obtain⟨B,b,l,rfl,hb,hB,hk⟩:=h
  exact(Go.Proofs.Tryz.Builder_String_any B b l w hb hB).mono λe w' ⟨he,hbl⟩=>⟨_,he,hk w' hbl⟩
 ·exact h.elim⟩
def e60:aG P 60 (U [.s] oB):=ua t0 Tryz.func60
def abG:aG P 108 (U [.p,.n] fo):=ua t0 Tryz.func108
def Of:aG P 61 aL.u:=en [(3,[(4,vi),(5,vi),(13,vl),(14,vi),(15,vi)])] (t1 abG) Tryz.func61 λa K w h=>by unfold aL.u at h;split at h;exact fi h;exact h.elim
def ahN:aG P 110 (U [.s] rE):=ub [(5,[(2,vq),(3,vb),(4,vq),(10,vi)])] t0 Tryz.func110
def e66:aG P 66 cV.u:=e0 (t2 abG ahN) Tryz.func66 λa K w h=>by unfold cV.u at h;split at h;exact fi h;exact h.elim
def L6:aG P 109 cF.u:=e0 t0 Tryz.func109 λa K w h=>by unfold cF.u at h;split at h;exact fi h;exact h.elim
def e63:aG P 63 nR.u:=e0 (t3 Of e66 L6) Tryz.func63 λa K w h=>by unfold nR.u at h;split at h;exact fi h;exact h.elim
def e65:aG P 65 mP.u:=e0 (t3 Of e66 L6) Tryz.func65 λa K w h=>by unfold mP.u at h;split at h;exact fi h;exact h.elim
def e69:aG P 69 (U [.p] ky):=ua t0 Tryz.func69
def ahJ:aG P 121 (U [.p] qn):=ua t0 Tryz.func121
def ag7:aG P 191 (U [] wo):=ua t0 Tryz.func191
def ag6:aG P 192 (U [.p] qC):=ua t0 Tryz.func192
def ag5:aG P 193 (U [.p] sz):=ua t0 Tryz.func193
def aet:aG P 144 (U [] uC):=ua (t3 ag7 ag6 ag5) Tryz.func144
def agB:aG P 251 (U [.g] uf):=ua t0 Tryz.func251
def X4:aG P 205 (U [.p,.g] dm):=ub [(5,[(3,vq),(4,vi),(5,vb),(6,vu),(7,vi),(8,vu)])] (t1 agB) Tryz.func205
def Og:aG P 161 (U [.p,.g] ir):=ua (t1 X4) Tryz.func161
def agX:aG P 206 (U [.p] qu):=ub [(2,[(2,vl),(3,vi)]),(6,[(30,vl),(31,vi),(32,vi)])] (t1 X4) Tryz.func206
def abz:aG P 162 (U [.p,.g,.n] dV):=ua (t2 X4 agX) Tryz.func162
def JH:aG P 207 (U [.p,.v] iz):=ua t0 Tryz.func207
def agW:aG P 208 cE.u:=e0 t0 Tryz.func208 λa K w h=>by unfold cE.u at h;split at h;exact fi h;exact h.elim
def aen:aG P 163 (U [.p,.g] jb):=ua (t1 JH) Tryz.func163
def agz:aG P 253 fL.u:=e0 t0 Tryz.func253 λa K w h=>by unfold fL.u at h;split at h;exact fi h;exact h.elim
def agA:aG P 252 (U [.n,.v] vg):=ub [(2,[(4,vi),(5,vi),(6,vi)])] (t1 agz) Tryz.func252
def abv:aG P 209 (U [.p,.n] l9):=ua (t1 agA) Tryz.func209
def aem:aG P 164 (U [.p,.n,.n] jx):=ua (t1 abv) Tryz.func164
def X5:aG P 165 (U [.p] gu):=ua t0 Tryz.func165
def agV:aG P 210 cZ.u:=e0 t0 Tryz.func210 λa K w h=>by unfold cZ.u at h;split at h;exact fi h;exact h.elim
def ael:aG P 166 (U [.p,.g] ka):=ua (t1 JH) Tryz.func166
def aby:aG P 167 (U [.g] uB):=ua t0 Tryz.func167
def ad6:aG P 254 (U [.g,.g] rL):=ua t0 Tryz.func254
def aee:aG P 211 (U [.p,.n] jv):=uc [1] [(0,[(1,vi)])] (t1 ad6) Tryz.func211
def abx:aG P 168 (U [.p,.g] l7):=ua (t1 aee) Tryz.func168
def aek:aG P 169 (U [.p] mS):=ua t0 Tryz.func169
def ahI:aG P 122 (U [.l,.l,.n,.n] eG):=ub [(5,[(8,vp),(9,vi),(10,vp),(46,vl),(47,vi),(48,vi)]),(13,[(8,vp),(9,vi),(10,vp),(77,vl),(78,vi),(79,vi)])] (tk aet (tk Og (tk abz (tk aen (tk aem (tk X5 (tk ael (tk aby (tk abx (tk aek t0)))))))))) Tryz.func122
def e85:aG P 85 (U [.s] pa):=ub [(10,[(2,vp),(3,vi),(4,vp),(5,vi),(6,vi),(8,vi),(9,vl),(38,vi),(39,vi)]),(15,[(2,vp),(3,vi),(4,vp),(5,vi),(6,vi),(9,vl),(10,vl),(47,vi),(48,vi)])] (tk e60 (tk Of (tk e63 (tk e65 (tk e69 (tk L6 (tk ahJ (tk ahI t0)))))))) Tryz.func85
def e48:aG P 48 (U [.p] kE):=ua t0 Tryz.func48
def e21:aG P 21 (U [.p] hG):=ua (t1 e48) Tryz.func21
def e49:aG P 49 (U [.p] mu):=ua t0 Tryz.func49
def e22:aG P 22 (U [.p] fh):=ua (t1 e49) Tryz.func22
def e26:aG P 26 (U [.p] ji):=ua t0 Tryz.func26
def e30:aG P 30 (U [.p] kr):=ua t0 Tryz.func30
def Sp:aG P 90 (U [.p,.n,.n] bu):=ub [(1,[(9,vi),(10,vi)])] t0 Tryz.func90
def e93:aG P 93 (U [.p] dG):=ua t0 Tryz.func93
def abF:aG P 113 (U [.g] jt):=ua t0 Tryz.func113
def ahj:aG P 174 (U [.g] wV):=ub [(3,[(1,vq),(2,.s .empty),(3,vq),(5,vi)])] t0 Tryz.func174
def X7:aG P 129 (U [.p,.g] lZ):=ua (t1 ahj) Tryz.func129
def aex:aG P 123 (U [.p,.g] rZ):=ub [(4,[(3,vq),(20,.agg #[]),(21,vi)])] (t3 Sp abF X7) Tryz.func123
def abE:aG P 114 (U [.g] fX):=ua t0 Tryz.func114
def aew:aG P 124 (U [.p,.g] qI):=ub [(4,[(3,vq),(20,.agg #[]),(21,vi)])] (t3 Sp abE X7) Tryz.func124
def e86:aG P 86 (U [.p] tr):=ub [(8,[(2,.s .empty),(3,vq),(31,vl),(32,vi),(33,vi)]),(13,[(2,.s .empty),(3,vq),(42,vl),(43,vi),(44,vi)])] (tk e21 (tk e22 (tk e26 (tk e30 (tk Sp (tk e93 (tk aex (tk aew t0)))))))) Tryz.func86
def e47:aG P 47 (U [.p] pO):=ua (t2 e85 e86) Tryz.func47
def e20:aG P 20 (U [.p] ff):=ua (t1 e47) Tryz.func20
def e62:aG P 62 (U [.p,.v] kK):=ub [(3,[(4,vl),(5,vl),(7,vi),(8,vi)])] (t3 e63 Of L6) Tryz.func62
def e64:aG P 64 (U [.p,.v] jZ):=ub [(3,[(4,vl),(5,vl),(7,vi),(8,vi)])] (t3 Of L6 e65) Tryz.func64
def e67:aG P 67 (U [.p] mJ):=ua (t1 Of) Tryz.func67
def e68:aG P 68 (U [.p,.v] pN):=ub [(3,[(4,vl),(5,vl),(7,vi),(8,vi)])] (t3 Of e66 L6) Tryz.func68
def aeA:aG P 111 (U [.g] tG):=ua t0 Tryz.func111
def aez:aG P 112 (U [.g] iv):=ua t0 Tryz.func112
def e70:aG P 70 (U [.g] pC):=ub [(6,[(2,vb),(20,vl),(21,vi),(22,vi)]),(13,[(2,vb),(33,vl),(34,vi),(35,vi)])] (t4 aeA aez abF abE) Tryz.func70
def e33:aG P 33 (U [.s] jI):=ua (tk e60 (tk Of (tk e62 (tk e64 (tk e66 (tk e67 (tk e68 (tk e69 (tk e70 t0))))))))) Tryz.func33
def e73:aG P 73 (U [.g] pB):=ub [(2,[(1,vq),(2,vb),(10,vl),(11,vi),(12,vi)]),(8,[(1,vq),(2,vb),(24,vl),(25,vi),(26,vi)]),(14,[(1,vq),(2,vb),(35,vl),(36,vi),(37,vi)])] (t2 abF abE) Tryz.func73
def e91:aG P 91 (U [.p,.l] lg):=ub [(2,[(12,vl),(13,vi),(14,vi)])] (t2 Sp aex) Tryz.func91
def e92:aG P 92 (U [.p,.l] kJ):=ub [(2,[(12,vl),(13,vi),(14,vi)])] (t2 Sp aew) Tryz.func92
def e54:aG P 54 (U [.g] kO):=ub [(7,[(1,vq),(2,.s .empty),(3,vq),(26,vl),(27,vi),(28,vi)])] (t5 e73 Sp e91 e92 e93) Tryz.func54
def e94:aG P 94 (U [.g] qS):=ua t0 Tryz.func94
def ad5:aG P 255 (U [.p] gh):=ua t0 Tryz.func255
def aed:aG P 212 (U [.p,.n] dQ):=ua (t1 ad5) Tryz.func212
def RH:aG P 170 (U [.p,.g] dR):=ua (t2 Og aed) Tryz.func170
def ahH:aG P 125 (U [.p,.l] uj):=ub [(3,[(4,vl),(5,vl),(10,vl),(11,vi),(12,vi)])] (t1 RH) Tryz.func125
def abu:aG P 213 (U [.p,.n] dO):=ua (t1 X5) Tryz.func213
def RG:aG P 171 (U [.p,.g] iB):=ua (t2 Og abu) Tryz.func171
def ahG:aG P 126 (U [.p,.l] te):=ub [(3,[(4,vl),(5,vl),(10,vl),(11,vi),(12,vi)])] (t1 RG) Tryz.func126
def agU:aG P 214 (U [.p,.n,.n,.b] gp):=ub [(9,[(8,vl),(9,vi),(10,vi),(11,vl)]),(14,[(8,vl),(11,vl),(12,vi),(13,vi)])] (t1 abv) Tryz.func214
def ahl:aG P 172 (U [.p,.n,.n,.b] ow):=ub [(5,[(8,vl),(9,vl),(22,vl),(23,vi),(24,vi)])] (t2 abu agU) Tryz.func172
def ahF:aG P 127 (U [.p,.g] ny):=ub [(3,[(3,vq),(4,vl),(5,vl),(17,vl),(18,vi),(19,vi)])] (t1 ahl) Tryz.func127
def e95:aG P 95 (U [.p,.g] JQ):=ua (t4 aez ahH ahG ahF) Tryz.func95
def ahk:aG P 173 (U [.p,.b] qm):=ua (t1 Sp) Tryz.func173
def ahE:aG P 128 (U [.p,.g] o8):=ub [(5,[(3,vq),(30,.agg #[]),(31,vi)])] (t3 Sp X7 ahk) Tryz.func128
def e96:aG P 96 (U [.g] wU):=ub [(8,[(2,.s .empty),(3,vi),(4,vq),(28,vl),(29,vi),(30,vi)])] (tk e70 (tk Sp (tk e91 (tk e92 (tk e93 (tk ahE (tk X7 t0))))))) Tryz.func96
def RI:aG P 136 (U [.n] mF):=ua t0 Tryz.func136
def e99:aG P 99 (U [.g,.n] qa):=ua (t1 RI) Tryz.func99
def e76:aG P 76 (U [.p] fE):=ua t0 Tryz.func76
def aei:aG P 185 (U [.p,.n] pv):=ua t0 Tryz.func185
def X6:aG P 137 (U [.p,.n] kk):=ub [(6,[(4,.s .empty),(5,vi),(6,vi)])] (t1 aei) Tryz.func137
def ahy:aG P 138 (U [.s] xd):=ub [(3,[(2,vq),(3,vq),(14,.agg #[]),(15,vi)])] (t2 e60 Of) Tryz.func138
def aeB:aG P 100 (U [.p] oC):=ub [(3,[(2,vi),(3,vi),(9,vi),(10,vi)])] (t3 e76 X6 ahy) Tryz.func100
def aec:aG P 215 (U [.p,.s] lY):=ua t0 Tryz.func215
def ad9:aG P 235 (U [.g] uJ):=ua t0 Tryz.func235
def ad8:aG P 236 (U [.i .u32] rX):=ua t0 Tryz.func236
def ad7:aG P 237 (U [.i .u32,.s] uW):=ub [(3,[(4,.int .u32 0),(5,.int .u32 0),(10,vi),(11,vi)]),(7,[(4,.int .u32 0),(5,.int .u32 0),(6,vi),(10,vi),(11,vi),(12,vb),(13,vi),(14,.int .u32 0),(15,.s .empty),(16,vi),(17,.int .u8 0),(18,.int .u32 0),(19,.int .u32 0),(20,vi)])] t0 Tryz.func237
def ag':aG P 186 (U [.g] ru):=ua (tk Sp (tk e93 (tk aes (tk aec (tk ad9 (tk ad8 (tk ad7 t0))))))) Tryz.func186
def aey:aG P 115 (U [] qM):=ua (t1 aes) Tryz.func115
def aeh:aG P 188 (U [.p] mU):=ua t0 Tryz.func188
def ag9:aG P 187 (U [.p,.n,.s] fp):=ua (t3 aey aei aeh) Tryz.func187
def abC:aG P 139 (U [.p,.n,.n,.n,.s] lJ):=uc [4] [(6,[(4,.s .empty),(10,vi),(11,vi)])] (t4 e76 RI ag' ag9) Tryz.func139
def aeu:aG P 140 (U [.g,.n] pe):=ua t0 Tryz.func140
def abB:aG P 141 (U [.p] lM):=ub [(6,[(2,vi),(14,vl),(15,vi),(16,vi)])] (t1 aeh) Tryz.func141
def ahU:aG P 101 (U [.g,.p,.n,.n,.s] qK):=ua (t3 abC aeu abB) Tryz.func101
def aeg:aG P 189 (U [.g] uT):=ua t0 Tryz.func189
def ahx:aG P 142 (U [.g] vy):=ub [(5,[(2,.s .empty),(3,vi),(4,vq),(20,.agg #[]),(21,vi)])] (t3 Sp e93 aeg) Tryz.func142
def ahT:aG P 102 (U [.p,.n,.g] uy):=ua (t3 abC abB ahx) Tryz.func102
def ahS:aG P 103 (U [.p] ml):=ua t0 Tryz.func103
def ahR:aG P 104 (U [.p] jL):=ua t0 Tryz.func104
def e56:aG P 56 (U [.p] iy):=ua (tk e86 (tk e99 (tk aeB (tk ahU (tk ahT (tk ahS (tk ahR t0))))))) Tryz.func56
def aev:aG P 130 (U [.p,.n] jK):=ua (t1 RI) Tryz.func130
def ahi:aG P 175 (U [.n,.s] s7):=ua (t3 Sp e93 aec) Tryz.func175
def ahD:aG P 131 (U [.p,.n,.s] cy):=ua (t5 aev RI abC abB ahi) Tryz.func131
def e97:aG P 97 (U [.p,.s] jA):=ua (t4 e56 aeB aev ahD) Tryz.func97
def ahg:aG P 177 gU.u:=e0 t0 Tryz.func177 λa K w h=>by unfold gU.u at h;split at h;exact fi h;exact h.elim
def agT:aG P 216 (U [.l,.v] mC):=ub [(2,[(4,vi),(5,vb),(8,vl),(9,vi),(10,vi)])] (t1 ahg) Tryz.func216
def X3:aG P 217 jF.u:=en [(1,[(8,vi),(9,vi)])] t0 Tryz.func217 λa K w h=>by unfold jF.u at h;split at h;exact fi h;exact h.elim
def L5:aG P 258 (U [.g] iM):=ua t0 Tryz.func258
def agy:aG P 259 (U [.g] me):=ua (t1 L5) Tryz.func259
def agR:aG P 219 (U [.g] qg):=ua (t2 L5 agy) Tryz.func219
def agQ:aG P 220 (U [.g,.g] qh):=ua t0 Tryz.func220
def af6:aG P 308 dZ.u:=e0 t0 Tryz.func308 λa K w h=>by unfold dZ.u at h;split at h;exact fi h;exact h.elim
def ad2:aG P 260 (U [.p] oP):=ua (t1 JH) Tryz.func260
def ad1:aG P 262 (U [.p,.g] oF):=ua (t1 X4) Tryz.func262
def agx:aG P 261 eo.u:=e0 (t1 ad1) Tryz.func261 λa K w h=>by unfold eo.u at h;split at h;exact fi h;exact h.elim
def agP:aG P 221 (U [.p,.g] mO):=ua (t6 Og abz aen JH ad5 ad2) Tryz.func221
def ahf:aG P 178 ma.u:=e0 (t4 RH agR agQ agP) Tryz.func178 λa K w h=>by unfold ma.u at h;split at h;exact fi h;exact h.elim
def af8:aG P 306 (U [.p] sT):=ua t0 Tryz.func306
def ad4:aG P 256 fH.u:=e0 (t1 af8) Tryz.func256 λa K w h=>by unfold fH.u at h;split at h;exact fi h;exact h.elim
def agK:aG P 228 ef.u:=e0 t0 Tryz.func228 λa K w h=>by unfold ef.u at h;split at h;exact fi h;exact h.elim
def agi:aG P 283 fj.u:=e0 (t1 abx) Tryz.func283 λa K w h=>by unfold fj.u at h;split at h;exact fi h;exact h.elim
def af3:aG P 314 (U [.p,.n] jB):=ua (t1 abv) Tryz.func314
def af4:aG P 313 eE.u:=e0 (t2 ad1 af3) Tryz.func313 λa K w h=>by unfold eE.u at h;split at h;exact fi h;exact h.elim
def afR:aG P 330 (U [.p,.n] fG):=uc [1] [(0,[(1,vi)]),(2,[(1,vi),(4,vi),(5,vi)])] (t1 ad6) Tryz.func330
def afX:aG P 320 (U [.p,.n] qt):=ua (t2 aee afR) Tryz.func320
def adX:aG P 282 (U [.p,.n] mK):=ub [(4,[(4,vb),(12,vl),(13,vi),(14,vi)])] (t1 afX) Tryz.func282
def af2:aG P 315 eu.u:=e0 (t1 adX) Tryz.func315 λa K w h=>by unfold eu.u at h;split at h;exact fi h;exact h.elim
def afY:aG P 319 cD.u:=e0 t0 Tryz.func319 λa K w h=>by unfold cD.u at h;split at h;exact fi h;exact h.elim
def afW:aG P 321 cY.u:=e0 t0 Tryz.func321 λa K w h=>by unfold cY.u at h;split at h;exact fi h;exact h.elim
def af7:aG P 307 (U [.p,.n] sU):=ub [(1,[])] (tk agi (tk af4 (tk af2 (tk agx (tk agK (tk af6 (tk agW (tk afY (tk agV (tk afW t0)))))))))) Tryz.func307
def ad3:aG P 257 fI.u:=e0 (t1 af7) Tryz.func257 λa K w h=>by unfold fI.u at h;split at h;exact fi h;exact h.elim
def agS:aG P 218 (U [.p,.l,.l,.v] nd):=ub [(2,[(8,vi),(14,vl),(15,vi),(16,vi)])] (t4 ad3 ad4 ahf X3) Tryz.func218
def ahh:aG P 176 (U [.p,.l,.v,.v] pH):=ub [(3,[(8,vl),(9,vl),(10,vi)])] (t3 agT X3 agS) Tryz.func176
def ahC:aG P 132 (U [.p,.l] rW):=ua (t1 ahh) Tryz.func132
def ahd:aG P 180 gw.u:=e0 t0 Tryz.func180 λa K w h=>by unfold gw.u at h;split at h;exact fi h;exact h.elim
def agO:aG P 222 (U [.l,.v] lQ):=ub [(2,[(4,vi),(5,vb),(8,vl),(9,vi),(10,vi)])] (t1 ahd) Tryz.func222
def X2:aG P 225 (U [.g] sx):=ua t0 Tryz.func225
def X1:aG P 264 (U [.g] mo):=ua t0 Tryz.func264
def agw:aG P 263 (U [.g] kV):=ub [(3,[(1,vq),(2,vb),(3,vi),(6,.agg #[]),(7,vi)])] (t2 X2 X1) Tryz.func263
def agv:aG P 265 (U [.g] oV):=ua (t1 L5) Tryz.func265
def adR:aG P 309 (U [.g] qJ):=ua t0 Tryz.func309
def agu:aG P 266 (U [.g] kx):=ua (t2 L5 adR) Tryz.func266
def aeb:aG P 224 (U [.g] fy):=ua (t6 X2 L5 agw X1 agv agu) Tryz.func224
def agj:aG P 281 (U [.p,.n,.g] kD):=ua (t2 JH aed) Tryz.func281
def ad':aG P 233 (U [.p,.g] kR):=ua (t3 Og RH agj) Tryz.func233
def ad0:aG P 267 (U [.g,.g] uH):=ua t0 Tryz.func267
def agt:aG P 268 (U [.p,.g] zi):=ua (t1 RH) Tryz.func268
def adZ:aG P 269 (U [.p] oQ):=ua (t1 X5) Tryz.func269
def afZ:aG P 318 (U [.g,.g] tY):=ua t0 Tryz.func318
def Ux:aG P 278 (U [.g,.g] rr):=ua (t1 afZ) Tryz.func278
def af5:aG P 310 (U [.g,.g] yx):=ua (t1 Ux) Tryz.func310
def aea:aG P 231 (U [.g,.g] pY):=ua (tk Ux (tx agl t0)) Tryz.func231
def Uz:aG P 232 (U [.g,.g] pZ):=ua (tx agk t0) Tryz.func232
def afS:aG P 329 (U [.g,.g] jh):=ua (t1 Uz) Tryz.func329
def abq:aG P 311 (U [.g,.b] dH):=ua (t2 aea afS) Tryz.func311
def ags:aG P 270 (U [.g,.g] gv):=ua (t4 L5 adR af5 abq) Tryz.func270
def adQ:aG P 312 (U [.l] yw):=ub [(3,[(2,vq),(3,vb),(4,vq),(8,vl),(9,vi),(10,vi)])] (t1 Uz) Tryz.func312
def agr:aG P 271 (U [.g,.g,.b] nN):=ua (t4 Uz Ux abq adQ) Tryz.func271
def agq:aG P 272 (U [.g,.g,.b] mD):=ua (t4 Uz Ux abq adQ) Tryz.func272
def adY:aG P 273 (U [.p,.g,.g,.b] iC):=ua (tk Og (tk abz (tk aem (tk X5 (tk ael (tk aby (tk abx (tk JH (tk ad2 t0))))))))) Tryz.func273
def agM:aG P 226 (U [.p,.g] pQ):=ua (tk RG (tk aeb (tk X2 (tk ad' (tk X1 (tk ad0 (tk agt (tk adZ (tk ags (tk agr (tk agq (tk adY t0)))))))))))) Tryz.func226
def agh:aG P 284 (U [.p,.n,.g] mr):=ua (t2 JH abu) Tryz.func284
def agI:aG P 234 (U [.p,.g,.n] dc):=ua (t6 Og aby RG JH adX agh) Tryz.func234
def aej:aG P 184 dW.u:=e0 (t5 RH aea Uz ad' agI) Tryz.func184 λa K w h=>by unfold dW.u at h;split at h;exact fi h;exact h.elim
def af1:aG P 316 (U [.g,.g] gF):=ua (t1 L5) Tryz.func316
def agp:aG P 274 (U [.p,.g] zm):=ua (t3 RG X1 af1) Tryz.func274
def ago:aG P 275 (U [.g,.g] oY):=ua (t2 L5 Ux) Tryz.func275
def agn:aG P 276 (U [.p,.g] nK):=ua (t1 RH) Tryz.func276
def agL:aG P 227 (U [.p,.g] rS):=ua (tk RG (tk aej (tk ad0 (tk adZ (tk adY (tk agp (tk ago (tk agn t0)))))))) Tryz.func227
def ahc:aG P 181 ov.u:=e0 (t4 aeb X2 agM agL) Tryz.func181 λa K w h=>by unfold ov.u at h;split at h;exact fi h;exact h.elim
def agN:aG P 223 (U [.p,.l,.l,.v] mB):=ub [(2,[(8,vi),(14,vl),(15,vi),(16,vi)])] (t4 ad3 ad4 X3 ahc) Tryz.func223
def ahe:aG P 179 (U [.p,.l,.v,.v] pn):=ub [(3,[(8,vl),(9,vl),(10,vi)])] (t3 X3 agO agN) Tryz.func179
def ahB:aG P 133 (U [.p,.l] qZ):=ua (t1 ahe) Tryz.func133
def ahb:aG P 182 eg.u:=e0 (t1 JH) Tryz.func182 λa K w h=>by unfold eg.u at h;split at h;exact fi h;exact h.elim
def af0:aG P 317 (U [.p] tO):=ua t0 Tryz.func317
def agm:aG P 277 (U [.p] nJ):=ua (t1 af0) Tryz.func277
def agJ:aG P 230 fq.u:=e0 (t2 RG agm) Tryz.func230 λa K w h=>by unfold fq.u at h;split at h;exact fi h;exact h.elim
def aha:aG P 183 tB.u:=e0 t0 Tryz.func183 λa K w h=>by unfold tB.u at h;split at h;exact fi h;exact h.elim
def ahz:aG P 135 (U [.p] lV):=ua (t1 aek) Tryz.func135
def ahA:aG P 134 uw.u:=eHT mixed ahb aha aej agJ
def e98:aG P 98 (U [.p,.g] wI):=ua (t5 aeA ahC ahB ahA ahz) Tryz.func98
def e55:aG P 55 (U [.p,.g] mQ):=ua (t5 e94 e95 e96 e97 e98) Tryz.func55
def e27:aG P 27 (U [.p,.s] gS):=ua (t3 e33 e54 e55) Tryz.func27
def ahQ:aG P 105 (U [.n] ud):=ua t0 Tryz.func105
def agG:aG P 239 (U [.s] ui):=ua (t2 ad8 ad7) Tryz.func239
def agf:aG P 285 (U [.s,.i .u8] nG):=uc [0] [(1,[(0,.s .empty),(4,.s .empty)])] t0 Tryz.func285
def age:aG P 286 (U [.s,.i .u8] na):=uc [0] [(1,[(0,.s .empty),(4,.s .empty)])] t0 Tryz.func286
def agF:aG P 240 (U [.s,.s] ik):=ua (t2 agf age) Tryz.func240
def abw:aG P 195 (U [.s] l6):=ua (t6 e60 Of abG ad9 agG agF) Tryz.func195
def agH:aG P 238 (U [.s] xJ):=ua (t4 e60 Of e69 aeg) Tryz.func238
def ag8:aG P 190 (U [.p,.n] pA):=ua (t3 X6 abw agH) Tryz.func190
def ahw:aG P 143 (U [.p] rU):=ua (t1 ag8) Tryz.func143
def aef:aG P 194 (U [.p,.n,.n,.n,.n] jc):=ub [(5,[(10,.s .empty),(11,vb),(12,vq),(48,vi),(49,vi)])] (t6 e76 RI X6 abw ag4 ag3) Tryz.func194
def ahv:aG P 145 (U [.g,.p,.n,.n,.n] qL):=ua (t2 aeu aef) Tryz.func145
def ahP:aG P 106 (U [.p,.g] wX):=ua (t4 e85 ahw aet ahv) Tryz.func106
def ahu:aG P 146 (U [.p,.n,.n] rP):=ua (t1 e76) Tryz.func146
def aht:aG P 147 (U [.p,.n,.n,.n] fV):=ua (tk e60 (tk Of (tk L6 (tk RI (tk X6 (tk aef (tk abw t0))))))) Tryz.func147
def ahO:aG P 107 (U [.p,.n,.n,.n] kW):=ub [(7,[(8,vp),(9,vl),(10,vi),(11,vq),(12,vl)])] (t2 ahu aht) Tryz.func107
def e58:aG P 58 (U [.p] mR):=ub [(14,[(2,vp),(3,vi),(6,vp),(10,vq),(59,vl),(60,vi),(61,vi)])] (tk e33 (tk e76 (tk e94 (tk e98 (tk ahQ (tk ahP (tk ahO t0))))))) Tryz.func58
def e75:aG P 75 (U [.n] tv):=ub [(3,[(2,vp),(3,vq),(8,vi),(9,vi)])] (t1 aey) Tryz.func75
def e41:aG P 41 (U [.n] qp):=ua (t3 e58 e75 e76) Tryz.func41
def e78:aG P 78 (U [.n,.n] bK):=ub [(5,[(4,.s .empty),(5,vi),(6,vu),(7,.s .empty),(8,vi)])] t0 Tryz.func78
def X8:aG P 117 (U [.g,.n] fS):=ua t0 Tryz.func117
def e81:aG P 81 (U [.g] dg):=ub [(3,[(1,vq),(2,.s .empty),(3,.s .empty),(4,vi)]),(7,[(1,vq),(2,.s .empty),(3,.s .empty),(4,vi),(5,vi),(6,vi)])] (t1 X8) Tryz.func81
def e79:aG P 79 (U [.g] lz):=ua (t2 e78 e81) Tryz.func79
def e80:aG P 80 (U [.g] lu):=ua (t2 e78 e81) Tryz.func80
def aer:aG P 149 (U [.g] da):=ua t0 Tryz.func149
def aeq:aG P 150 (U [.g] bW):=ua t0 Tryz.func150
def abD:aG P 116 (U [.n,.l,.l,.l] cB):=ub [(4,[(8,vb),(36,vl),(37,vi),(38,vi)]),(10,[(8,vb),(49,vl),(50,vi),(51,vi)]),(16,[(8,vb),(59,vl),(60,vi),(61,vi)])] (t2 aer aeq) Tryz.func116
def e77:aG P 77 (U [.n,.l,.l,.l] hO):=ub [(5,[(8,.s .empty),(9,.s .empty),(28,vl),(29,vi),(30,vi)]),(11,[(8,.s .empty),(9,.s .empty),(44,vl),(45,vi),(46,vi)]),(17,[(8,.s .empty),(9,.s .empty),(60,vl),(61,vi),(62,vi)])] (t4 e78 e79 e80 abD) Tryz.func77
def e42:aG P 42 (U [.n] iV):=ua (t1 e77) Tryz.func42
def e82:aG P 82 (U [.b] ox):=ua t0 Tryz.func82
def e43:aG P 43 (U [.g] ln):=ub [(5,[(2,.s .empty),(3,.s .empty),(23,vl),(24,vi),(25,vi)]),(12,[(2,.s .empty),(3,.s .empty),(43,vl),(44,vi),(45,vi)]),(19,[(2,.s .empty),(3,.s .empty),(63,vl),(64,vi),(65,vi)])] (t5 e78 e79 e80 e81 e82) Tryz.func43
def e14:aG P 14 (U [] il):=ua (t6 e20 e26 e27 e41 e42 e43) Tryz.func14
def e15:aG P 15 (U [.l] kS):=ub [(3,[(2,vb),(3,vi),(6,vl),(7,vi),(8,vi)])] t0 Tryz.func15
def e16:aG P 16 (U [] mX):=ua (t1 e41) Tryz.func16
def e31:aG P 31 (U [.p,.l,.l,.n,.n] cQ):=ub [(4,[(10,vb),(48,vi),(49,vi)]),(10,[(10,vb),(66,vi),(67,vi)])] t0 Tryz.func31
def e52:aG P 52 (U [.g,.n] bV):=ua t0 Tryz.func52
def e88:aG P 88 (U [.g,.g] dx):=ua t0 Tryz.func88
def e53:aG P 53 (U [.g,.g] jG):=ua (t1 e88) Tryz.func53
def e25:aG P 25 (U [.p,.n] ar):=ub [(3,[(4,vq),(5,vq),(21,vl),(22,vi),(23,vi)])] (t2 e52 e53) Tryz.func25
def e84:aG P 84 (U [.p] ia):=ub [(3,[(2,vl),(3,vl),(9,vi),(10,vi)])] (t1 e25) Tryz.func84
def e45:aG P 45 (U [.p,.l,.l,.n,.n] kH):=ua (t2 e31 e84) Tryz.func45
def e18:aG P 18 (U [.p,.p] ng):=ua (t6 e20 e21 e22 e26 e30 e45) Tryz.func18
def e46:aG P 46 (U [.p] ql):=ua t0 Tryz.func46
def e19:aG P 19 (U [.p] gR):=ua (t1 e46) Tryz.func19
def e28:aG P 28 (U [.p] qo):=ua (t1 e56) Tryz.func28
def e57:aG P 57 (U [.p,.i .u64,.n,.n] mV):=uc [3] [(3,[(3,vi),(18,vl),(19,vi),(20,vi)])] t0 Tryz.func57
def e29:aG P 29 (U [.p,.i .u64,.n,.n] nH):=ua (t2 e57 e58) Tryz.func29
def e74:aG P 74 (U [.p,.n] oG):=ua t0 Tryz.func74
def e37:aG P 37 (U [.p,.n] qW):=ua (t1 e74) Tryz.func37
def e40:aG P 40 (U [.g] kN):=ua t0 Tryz.func40
def aep:aG P 151 (U [.g] dS):=ua t0 Tryz.func151
def aeo:aG P 152 (U [.g] bm):=ua t0 Tryz.func152
def ahM:aG P 118 (U [.g] gP):=ub [(4,[(1,vq),(2,vb),(16,vl),(17,vi),(18,vi)]),(10,[(1,vq),(2,vb),(32,vl),(33,vi),(34,vi)])] (t4 aer aeq aep aeo) Tryz.func118
def abA:aG P 153 (U [.p] ig):=ua t0 Tryz.func153
def ag0:aG P 202 (U [.p] cM):=ub [(1,[(7,vl),(8,vi),(9,vi)])] t0 Tryz.func202
def ahs:aG P 154 (U [.p,.n] kG):=ua (t1 ag0) Tryz.func154
def ahr:aG P 155 (U [.l] lX):=ub [(3,[(2,vl),(3,vl),(6,vl),(7,vi),(8,vi)])] t0 Tryz.func155
def ahq:aG P 156 (U [.l] k9):=ub [(3,[(2,vl),(3,vl),(6,vl),(7,vi),(8,vi)])] t0 Tryz.func156
def agZ:aG P 203 (U [.g] nh):=ua t0 Tryz.func203
def adW:aG P 297 (U [.g] kv):=ub [(3,[(1,vq),(2,.s .empty),(3,vl),(4,vi)]),(7,[(1,vq),(2,.s .empty),(3,vl),(4,vi),(5,vi),(6,vi)]),(16,[(2,.s .empty),(8,.s .empty),(46,vl),(47,vi),(48,vi)])] (t1 X8) Tryz.func297
def afV:aG P 326 (U [.n,.n] mY):=ua t0 Tryz.func326
def agd:aG P 294 (U [.g] bA):=ua (t2 adW afV) Tryz.func294
def abr:aG P 295 (U [.p,.g] fr):=ub [(2,[(3,vq),(4,vi),(10,vl),(11,vi),(12,vi)])] t0 Tryz.func295
def agc:aG P 296 (U [.g,.g] ib):=ua t0 Tryz.func296
def agE:aG P 246 (U [.p,.g] kI):=ua (t3 agd abr agc) Tryz.func246
def Uy:aG P 248 (U [.g] gQ):=ua (t1 e52) Tryz.func248
def agb:aG P 298 (U [.g] bP):=ua (t2 e52 Uy) Tryz.func298
def abt:aG P 247 (U [.g] aY):=ua (t4 e52 Uy adW agb) Tryz.func247
def e89:aG P 89 (U [.g,.g] jd):=ub [(2,[(2,vq),(3,vq),(4,vb),(5,vi)])] (t1 X8) Tryz.func89
def adV:aG P 299 (U [.p,.g] ic):=ub [(2,[(3,vq),(4,vi),(10,vl),(11,vi),(12,vi)])] t0 Tryz.func299
def adU:aG P 300 (U [.g,.g] lv):=ua t0 Tryz.func300
def aga:aG P 301 (U [.p,.g,.n] gJ):=ua (t3 e25 abA abr) Tryz.func301
def adT:aG P 302 (U [.p,.g,.g,.n] ie):=ua t0 Tryz.func302
def agD:aG P 249 (U [.p,.g] az):=ua (tk e52 (tk e89 (tk abt (tk Uy (tk adV (tk adU (tk aga (tk adT t0)))))))) Tryz.func249
def af':aG P 303 (U [.g,.g] lq):=ua (t1 e89) Tryz.func303
def afU:aG P 327 (U [] oy):=ua t0 Tryz.func327
def afQ:aG P 334 (U [.g,.n] pq):=ua t0 Tryz.func334
def afT:aG P 328 (U [.g,.g] fR):=ub [(6,[(2,vq),(3,vq),(4,vq),(5,vb),(6,vq),(7,vi),(8,vi)])] (t3 e89 X8 afQ) Tryz.func328
def adS:aG P 304 (U [.g,.b] dy):=ua (t3 e88 afU afT) Tryz.func304
def af9:aG P 305 (U [.g,.b,.g,.b] ch):=ua (t3 e88 e89 adS) Tryz.func305
def agC:aG P 250 (U [.p,.g] bU):=ua (tk e25 (tk e52 (tk abt (tk Uy (tk abr (tk adV (tk adU (tk adT (tk af' (tk adS (tk af9 t0))))))))))) Tryz.func250
def agY:aG P 204 (U [.p,.g] jk):=ua (t5 agE abt Uy agD agC) Tryz.func204
def ahp:aG P 157 (U [.p,.l] cz):=uc [0] [(3,[(0,vp),(4,vl),(5,vp),(6,vl),(7,vi)]),(5,[(0,vp),(4,vl),(5,vp),(6,vl),(7,vi),(8,vi)]),(15,[(0,vp),(4,vl),(5,vp),(6,vl),(7,vi),(8,vi),(9,vi),(10,vi),(11,vp),(12,vi)]),(21,[(0,vp),(4,vl),(5,vp),(6,vl),(7,vi),(8,vi),(9,vi),(10,vi),(11,vp),(13,vi)])] (t3 abA agZ agY) Tryz.func157
def ahL:aG P 119 (U [.p,.g] jj):=ua (t6 aep abA ahs ahr ahq ahp) Tryz.func119
def aho:aG P 158 (U [.l,.l] lW):=ub [(3,[(4,vl),(5,vl),(10,vl),(11,vi),(12,vi)]),(6,[(4,vl),(5,vl),(7,vq),(10,vl),(11,vi),(12,vi),(16,vl),(17,vi),(18,vi)])] t0 Tryz.func158
def ahn:aG P 159 (U [.l,.l] k8):=ub [(3,[(4,vl),(5,vl),(10,vl),(11,vi),(12,vi)]),(6,[(4,vl),(5,vl),(7,vq),(10,vl),(11,vi),(12,vi),(16,vl),(17,vi),(18,vi)])] t0 Tryz.func159
def ahm:aG P 160 (U [.l,.g] bR):=ub [(3,[(3,vq),(4,vl),(5,vl),(10,vi),(11,vi)])] t0 Tryz.func160
def ahK:aG P 120 (U [.l,.l,.g] nP):=ua (t4 aeo aho ahn ahm) Tryz.func120
def e83:aG P 83 (U [.p,.g] nO):=ua (t6 e40 e77 e84 ahM ahL ahK) Tryz.func83
def e44:aG P 44 (U [.p,.s] po):=ua (t4 e33 e40 e42 e83) Tryz.func44
def e17:aG P 17 (U [.p,.g] aN):=ua (tk e18 (tk e19 (tk e27 (tk e28 (tk e29 (tk e37 (tk e42 (tk e44 t0)))))))) Tryz.func17
def e72:aG P 72 lh.u:=e0 (t1 Of) Tryz.func72 λa K w h=>by unfold lh.u at h;split at h;exact fi h;exact h.elim
def e71:aG P 71 (U [.p,.v] nE):=ub [(3,[(4,vl),(5,vl),(7,vi),(8,vi)])] (t3 Of L6 e72) Tryz.func71
def e34:aG P 34 (U [.s] iQ):=ua (tk e60 (tk Of (tk e62 (tk e64 (tk e69 (tk e71 (tk e73 t0))))))) Tryz.func34
def e35:aG P 35 (U [.l] gX):=ub [(3,[(2,vi),(3,vi),(6,vl),(7,vi),(8,vi)])] t0 Tryz.func35
end Go.Proofs.YtibneekkkdnmgaaGreatDoor
namespace Go.Proofs.YtibneekkkdnmgaaGreatDoor
open Go.ChangeShapes Go.WideShapes Go.ChangeAt Go.RowKit Go.Den Go.Sep Go.Prog Go.Up
def adj(b j:Nat):(ad b 0).add j=⟨b,j,none⟩:=by
 unfold Addr.add;split
 ·rename_i h;rw[h]
 ·simp
def adK{W:World}(h:laidMetH Tryz.prog Rows.coreServesRow.laid W):qi W:=by
 rw[MakeChecks.laidMetH_plain _ _ _ (by kernel_rfl)] at h;obtain⟨ps,⟨g0,t0,cs0,f0,p0,q0,-,-,-,-,⟨g,t,cs,fuel,p,q,hg,ht,hv,hd,⟨g2,t2,JM,aim,p2,q2,GG,N1,NZ,VY,-,-⟩,-⟩,-⟩,-,-⟩:=h;obtain rfl:=bE.inj ((show Tryz.prog.globalNamed "bondstore/wide.Most"=some 0 by kernel_rfl).symm.trans hg);obtain rfl:=bE.inj ((show(Tryz.prog.globals[0]?).map (·.type)=some 45 by kernel_rfl).symm.trans ht);obtain rfl:=bE.inj ((show Tryz.prog.globalNamed "bondstore/hold.told"=some 1 by kernel_rfl).symm.trans GG);obtain rfl:=bE.inj ((show(Tryz.prog.globals[1]?).map (·.type)=some 374 by kernel_rfl).symm.trans N1);have c38:Tryz.prog.cellsOf 27=1:=by kernel_rfl
 have c3:Tryz.prog.cellsOf 81=1:=by kernel_rfl
 have c40:Tryz.prog.cellsOf 45=2:=by kernel_rfl
 have ahW:Tryz.prog.cellsOf 374=5:=by kernel_rfl
 refine⟨?_,?_⟩
 ·obtain⟨y0,y1,n,ex,hl,k0,k1⟩:=trod_struct2 Tryz.underlying45 hd;rw[c40] at hl;obtain⟨l⟩:=cs
  match l,hl with
  |[a,b],_=>
   have e3:=(DataW.agg.inj (Prod.mk.inj ex).1);simp only[List.cons.injEq,and_true] at e3;rw[c38] at k0 k1;obtain⟨z0,a0,b0,_⟩:=DataW.trod_int Tryz.underlying27 k0;obtain⟨z1,a1,b1,_⟩:=DataW.trod_int Tryz.underlying27 k1;have hc:∀i,W.cell? ⟨0,i,none⟩=[a,b][i]?:=λi=>by rw[World.var?_cell hg hv i];simp
   simp at a0 a1;subst b0 b1 a0 a1;simp only[DataW.lit.injEq,Lit.int.injEq,true_and] at e3;obtain⟨rfl,rfl⟩:=e3;intro j v hj;rw[adj,hc];exact hj
 ·obtain⟨xs,m,_,ex,hlen,hl,hel⟩:=DataW.trod_array Tryz.underlying374 VY;rw[ahW] at hlen;obtain⟨l⟩:=JM
  match l,hlen with
  |[a,b,c,d,e],_=>
   match xs,hl with
   |[x0,x1,x2,x3,x4],_=>
    have e3:=(DataW.agg.inj (Prod.mk.inj ex).1);simp only[dA,uk,List.cons.injEq,and_true] at e3;have k0:=hel 0 (by omega);have k1:=hel 1 (by omega);have k2:=hel 2 (by omega);have k3:=hel 3 (by omega);have k4:=hel 4 (by omega);rw[c3] at k0 k1 k2 k3 k4;obtain⟨z0,a0,b0,_⟩:=DataW.trod_int Tryz.underlying81 k0;obtain⟨z1,a1,b1,_⟩:=DataW.trod_int Tryz.underlying81 k1;obtain⟨z2,a2,b2,_⟩:=DataW.trod_int Tryz.underlying81 k2;obtain⟨z3,a3,b3,_⟩:=DataW.trod_int Tryz.underlying81 k3;obtain⟨z4,a4,b4,_⟩:=DataW.trod_int Tryz.underlying81 k4;have hc:∀i,W.cell? ⟨1,i,none⟩=[a,b,c,d,e][i]?:=λi=>by rw[World.var?_cell GG NZ i];simp
    simp at a0 a1 a2 a3 a4;subst b0 b1 b2 b3 b4 a0 a1 a2 a3 a4;simp only[DataW.lit.injEq,Lit.int.injEq,true_and] at e3;obtain⟨rfl,rfl,rfl,rfl,rfl⟩:=e3;intro j v hj;rw[adj,hc];exact hj
end Go.Proofs.YtibneekkkdnmgaaGreatDoor
