/- Part of the proof: see the last text. -/
import Derived.Test.YtnffemlgkghcfaaGreatDoorPE
import Derived.Test.YtnffemlgkghcfaaGreatDoorPD
import Derived.Test.YtnffemlgkghcfaaGreatDoorPB
import Derived.Laws.Externs
import Derived.Test.YtnffemlgkghcfaaGreatDoorProg
import Derived.Shelf.Strings.Builder2
import Derived.Shelf.Strings.Repeat
import Derived.Test.YtnffemlgkghcfaaGreatDoorRows
import Derived.ChangeSame
import Derived.MakeChecks
import Derived.LaidMore
set_option linter.all false
set_option maxRecDepth 100000
set_option synthInstance.maxSize 100000
open Array renaming replicate→ae7
open Int renaming eq_ofNat_of_zero_le→ad8
open List renaming Perm→aem,map_cons→aez,map_nil→afw
open Nat renaming le_of_ble_eq_true→ad3
open Option renaming some→aeh
namespace Go.Proofs.YtnffemlgkghcfaaGreatDoor
open Go.Sep Go.Den Go.RowKit Go.Prog Go.Md Go.bA Go.Up
section
variable {W:World} {L:LH} {a:Nat} {m0:Model}
def VT(m0:Model)(b:Up.ax)(hs:List C)(k:Nat):Prop:=∃m,mg b m/\Md.Ground m/\Sb m0 m/\yO m0.clock m.kept=k/\hs.length+4* k<=150000
def Vb:og Tryz.prog []:=og.nil
abbrev Mem(a l D r1 rn r0:Nat)(r:Loop)(n:Int)(b:Up.ax)(hs:List C)(L:LH):LH:=
 ob l (.loop r)::ob D (.deferred (some []))::Sep.pt r1 [.pointer (some (ad a 0))]::Sep.pt rn [.i n]::Sep.pt r0 [.pointer (some (ad a 0))]::bj a (b,hs)::L
def Nq(hT:ko Tryz.prog T82)(hm:Tryz.prog.follows .mixedOrders=true){fn:FuncId}{tmps:Array Value}{D l r0 r1 rn j k:Nat}{r:Loop}
 (hr:r={state:=.ready,pending:=none,fn:=fn,tmps:=tmps,params:=#[12],assign:=Km,body:=bd,defers:=D})(h20:tmps.size=20)
 (h5:tmps[5]?=some (.pointer (some (ad rn 0))))(h2:tmps[2]?=some (.pointer (some (ad r0 0)))){P3:HP}{n:Int}{b:Up.ax}{hs:List C}{x:Md.Kept}{w:World}
 (jG:St W w (P3::Mem a l D r1 rn r0 r n b hs L))(Bt:VT m0 b hs k)(hx:x∈b.kept)(ho:jy b.clock x){R:Ending->World->Prop}
 (hR:∀n' b' cV k' w',k'<k->VT m0 b' cV k'->St W w' (P3::Mem a l D r1 rn r0 r n' b' cV L)->R (.returned (.bool true)) w'):
 RoundIn Fence.wide j Tryz.prog l fn (tmps.setIfInBounds 12 (.agg ⟨aj x.move⟩)) Km bd w R:=by
 refine roundIn_of_wpIn trivial ?_;have okF:Ok Fb:=⟨hT,Vb,hm⟩;have aZ:12<tmps.size:=by omega
 have s3:S3 Fb [] [(12,.agg ⟨aj x.move⟩),(5,.pointer (some (ad rn 0))),(2,.pointer (some (ad r0 0)))] {tmps:=tmps.setIfInBounds 12 (.agg ⟨aj x.move⟩),defers:=[]}:=by
  refine S3.cons ?_ (S3.cons ?_ (S3.cons ?_ (S3.start rfl ?_)))
  ·show(tmps.setIfInBounds 12 _)[12]?=_;simp[aZ]
  ·show(tmps.setIfInBounds 12 _)[5]?=_;rw[Array.getElem?_setIfInBounds_ne (by decide)];exact h5
  ·show(tmps.setIfInBounds 12 _)[2]?=_;rw[Array.getElem?_setIfInBounds_ne (by decide)];exact h2
  ·show(tmps.setIfInBounds 12 _).size=20;simp[h20]
 refine zU (F:=Fb) (.inr ⟨l,rfl⟩) okF ER.2.2.2.2.1 s3 ?_;rw[das];obtain⟨m,Br,hg,aaQ,ZX,hlen⟩:=Bt;refine T.at ?_ jG;refine qL λr6=>?_;apply ws;intros;intro w1 wa a1 U6;have XX:=(wa.obj (k:=2) (b:=l) (o:=.loop r) rfl).1;refine⟨_,run_beginRound XX (by rw[hr]),?_⟩;have fo:=wa.put (k:=2) (b:=l) (o:=.loop r) (.loop {r with state:=.busy}) rfl (by simp);refine zU (F:=Fb) (.inr ⟨l,rfl⟩) okF ER.2.2.2.2.2.1 U6 ?_;rw[dbd];refine T.at ?_ fo;show T W (Sep.pt r6 (aj x.move)::P3::Mem a l D r1 rn r0 {r with state:=.busy} n b hs L) _;obtain⟨J0,hwt,m',Ev,Rb,N8,adF⟩:=Dc Br hg aaQ hx ho;obtain⟨⟨d,hd,-,-⟩,⟨c,hc,-,-⟩,gU⟩:=hwt;refine mn (p:=a) λfU=>?_;have kg:=fU.Ml x hx;apply ws;intros;show T W _ (cb (some ⟨a,0,none⟩) (aj x.move) (nm 0) 4 _);refine CU (p:=a) (k:=x) J0 ho.1 kg.rQ kg.move.aA (by decide) hd hc gU (.inr (.inr rfl)) (λh=>absurd h (by decide)) (λh=>absurd h (by decide)) (by omega) λcV Un=>?_;apply ws;intros;intro w3 qU a3 Wz;subst hr;have PE:=(qU.obj (k:=2) (b:=l) (o:=.loop {state:=.busy,pending:=none,fn:=fn,tmps:=tmps,params:=#[12],assign:=Km,body:=bd,defers:=D}) rfl).1;refine⟨_,_,run_endRound none PE,?_⟩;have tG:=(qU.put (k:=2) (b:=l) (o:=.loop {state:=.busy,pending:=none,fn:=fn,tmps:=tmps,params:=#[12],assign:=Km,body:=bd,defers:=D}) (.loop {state:=.ready,pending:=none,fn:=fn,tmps:=tmps,params:=#[12],assign:=Km,body:=bd,defers:=D}) rfl (by simp)).drop;have:=Un.len;exact hR _ _ _ _ _ (by omega) ⟨m',Ev,Rb,N8,rfl,by omega⟩ tG
abbrev yv(l:Nat):Value:=.func (.yield l) #[] #[]
abbrev Oz(b:Bool)(r3 r1 l:Nat):Env:=(4,.bool b)::(3,.pointer (some (ad r3 0)))::(1,.pointer (some (ad r1 0)))::[(0,yv l)]
def Vs(hT:ko Tryz.prog T82)(U7:ko Tryz.prog VP)(hm:Tryz.prog.follows .mixedOrders=true){fn:FuncId}{tmps:Array Value}{D l r0 r1 rn j:Nat}{r:Loop}
 (hr:r={state:=.ready,pending:=none,fn:=fn,tmps:=tmps,params:=#[12],assign:=Km,body:=bd,defers:=D})(h20:tmps.size=20)
 (h5:tmps[5]?=some (.pointer (some (ad rn 0))))(h2:tmps[2]?=some (.pointer (some (ad r0 0)))){n:Int}{b:Up.ax}{hs:List C}{k:Nat}{w:World}
 (jG:St W w (Mem a l D r1 rn r0 r n b hs L))(Bt:VT m0 b hs k){R:Ending->World->Prop}
 (hR:∀n' b' cV k' w',VT m0 b' cV k'->(∀x∈b'.kept,¬jy b'.clock x)->St W w' (Mem a l D r1 rn r0 r n' b' cV L)->R (.returned (.tuple #[])) w'):
 CallsIn Fence.wide j Tryz.prog 193 #[yv l,.pointer (some (ad r1 0))] w R:=by
 refine callsIn_of_wp Tryz.func193 RL trivial ?_ rfl;have okF:Ok u4:=⟨U7,Vb,hm⟩;have s0':S3 u4 [] [(1,.pointer (some (ad r1 0))),(0,yv l)] {tmps:=#[yv l,.pointer (some (ad r1 0))]++ae7 (Tryz.f193.ntmps-2) undef,defers:=[]}:=by
  rw[n193.1];refine S3.cons ?_ (S3.cons ?_ (S3.start rfl ?_))
  ·show(#[yv l,.pointer (some (ad r1 0))]++ae7 20 undef)[1]?=_;simp
  ·show(#[yv l,.pointer (some (ad r1 0))]++ae7 20 undef)[0]?=_;simp
  ·show(#[yv l,.pointer (some (ad r1 0))]++ae7 20 undef).size=22;simp
 refine vB (F:=u4) (.inl rfl) okF BG.1 s0' ?_;rw[ds0];have main:∀(bb:Bool)(x:Md.Kept)(r3:Nat)(n:Int)(b:Up.ax)(hs:List C)(k:Nat)(w:World)(a1:Act),S3 u4 [] (Oz bb r3 r1 l) a1->St W w (Sep.pt r3 (aI x)::Mem a l D r1 rn r0 r n b hs L)->VT m0 b hs k->
                                                 (if bb then x∈b.kept/\jy b.clock x else ∀x∈b.kept,¬jy b.clock x)->
                                                 (Code.block 0 (.loop (.seq s1 (.seq (.block 1 (.seq (.region 3 (A4 s3) false) (.cond (.tmp 20) .ret .skip))) s4)))).wpIn Fence.wide j Tryz.prog (bodyPost Tryz.prog Tryz.f193 R) a1 w:=by
  intro bb x r3 n b hs k w a1 U6 rK Bt U0;refine wpIn_block (Fo (λk a1 w=>∃(bb:Bool)(x:Md.Kept)(r3:Nat)(n:Int)(b:Up.ax)(hs:List C),S3 u4 [] (Oz bb r3 r1 l) a1/\St W w (Sep.pt r3 (aI x)::Mem a l D r1 rn r0 r n b hs L)/\VT m0 b hs k/\
   (if bb then x∈b.kept/\jy b.clock x else ∀x∈b.kept,¬jy b.clock x)) ⟨k,bb,x,r3,n,b,hs,U6,rK,Bt,U0⟩ ?_)
  rintro k a1 w ⟨bb,x,r3,n,b,hs,U6,rK,Bt,U0⟩;refine vB (F:=u4) (.inl rfl) okF BG.2.1 U6 ?_;rw[ds1];cases bb with
  |false=>
   rw[cf];intro a2 Of;show bodyPost Tryz.prog Tryz.f193 R .normal a2 w;refine⟨Of.2,_,results_none n193.2 _ _ _,?_⟩;exact hR _ _ _ _ _ Bt U0 rK.drop
  |true=>
   rw[gW];obtain⟨hx,ho⟩:=U0;intro a2 Of;have Of:S3 u4 [] (Oz true r3 r1 l) a2:=S3.cons (Of.get rfl) (S3.cons (Of.get rfl) (S3.cons (Of.get rfl) (S3.cons (Of.get rfl) Of.nil)));show(Code.seq (.block 1 (.seq (.region 3 (A4 s3) false) (.cond (.tmp 20) .ret .skip))) s4).wpIn Fence.wide j Tryz.prog _ a2 w;refine wpIn_seq (wpIn_block (wpIn_seq ?_));refine CV (F:=u4) (.inl rfl) okF 3 (by rw[II.2.2.2.2];decide) Of ?_ ?_ (K:=λe w'=>St W w' (Sep.pt r3 (aI x)::Mem a l D r1 rn r0 r n b hs L)/\e=(18,.agg ⟨aj x.move⟩)::(17,.pointer (some (ad r3 16)))::(16,yv l)::Oz true r3 r1 l)
   ·rw[ds3];refine T.at ?_ rK;apply ws;intros;exact λw' cV=>⟨cV,rfl⟩
   ·rintro e a3 w3 Wz ⟨Xz,rfl⟩;rw[II.2.2.2.2];show wpOpsIn Fence.wide j Tryz.prog (A4 s3) _ [3,4] a3 w3;rw[wpOpsIn_cons];unfold wpOpIn;simp only[II.1];rw[if_pos (by simp[Region.wanted,II.2.2.2.1])];refine⟨λf _=>trivial,?_⟩;have hl:=(Xz.obj (k:=1) (b:=l) (o:=.loop r) rfl).1;have e16:a3.eval (.tmp 16)=yv l:=Wz.eval rfl;have e18:a3.eval (.tmp 18)=.agg ⟨aj x.move⟩:=Wz.eval rfl;rw[show Fence.wide.round=none from rfl,Oper.semAt_none,Ch II.2.2.1 e16,run_yield hl (by rw[hr];simp),Oper.uponIn_round];refine⟨λh=>(by cases h),?_⟩;have e2:((r.params.zip (#[Operand.tmp 18].map a3.eval)).foldl (λtmps(t,a)=>tmps.setIfInBounds t a) r.tmps)=tmps.setIfInBounds 12 (.agg ⟨aj x.move⟩):=by
     rw[hr];simp[e18]
    rw[e2,show r.fn=fn by rw[hr],show r.assign=Km by rw[hr],show r.body=bd by rw[hr]];refine Nq (W:=W) (L:=L) (a:=a) (m0:=m0) hT hm hr h20 h5 h2 Xz Bt hx ho λn' b' cV k' w' yh J1 aaw=>?_;dsimp only;rw[II.2.1];have PQ:=S3.put (v:=.bool true) w' (t:=19) Wz rfl;refine P8 (F:=u4) (.inl rfl) okF 4 (by rw[II.2.2.2.2];decide) PQ ?_ ?_ (K:=λe WJ=>WJ=w'/\e=(20,.bool false)::(19,.bool true)::(18,.agg ⟨aj x.move⟩)::(17,.pointer (some (ad r3 16)))::(16,yv l)::Oz true r3 r1 l)
    ·rw[acX];exact⟨rfl,rfl⟩
    ·rintro e a5 w5 U5 ⟨rfl,rfl⟩;show(Code.cond (.tmp 20) .ret .skip).wpIn Fence.wide j Tryz.prog _ a5 w5;refine wpIn_cond_false (U5.eval rfl) (wpIn_skip ?_);show s4.wpIn Fence.wide j Tryz.prog _ a5 w5;have ha6:S3 u4 [] ((3,.pointer (some (ad r3 0)))::(1,.pointer (some (ad r1 0)))::[(0,yv l)]) a5:=S3.cons (U5.get rfl) (S3.cons (U5.get rfl) (S3.cons (U5.get rfl) U5.nil));refine zU (F:=u4) (.inl rfl) okF BG.2.2 ha6 ?_;rw[ds4];refine T.at ?_ aaw;apply ws;intros;rename_i r4;refine Np (p:=a) (λy hy hoy=>?_) (λEA=>?_)
     ·apply ws;intros;intro w7 PB a7 y7;refine⟨k',yh,true,y,r4,n',b',cV,S3.cons (y7.get rfl) (S3.cons (y7.get rfl) (S3.cons (y7.get rfl) (S3.cons (y7.get rfl) y7.nil))),?_,J1,⟨hy,hoy⟩⟩;exact(PB.perm (aem.swap _ _ _)).drop
     ·apply ws;intros;intro w7 PB a7 y7;refine⟨k',yh,false,zK,r4,n',b',cV,S3.cons (y7.get rfl) (S3.cons (y7.get rfl) (S3.cons (y7.get rfl) (S3.cons (y7.get rfl) y7.nil))),?_,J1,EA⟩;exact(PB.perm (aem.swap _ _ _)).drop
 refine T.at ?_ jG;apply ws;intros;refine Np (p:=a) (λy hy hoy=>?_) (λEA=>?_)
 ·apply ws;intros;rename_i r4;intro w7 PB a7 y7;exact main true y r4 n b hs k w7 a7 (S3.cons (y7.get rfl) (S3.cons (y7.get rfl) (S3.cons (y7.get rfl) (S3.cons (y7.get rfl) y7.nil)))) PB Bt ⟨hy,hoy⟩
 ·apply ws;intros;rename_i r4;intro w7 PB a7 y7;exact main false zK r4 n b hs k w7 a7 (S3.cons (y7.get rfl) (S3.cons (y7.get rfl) (S3.cons (y7.get rfl) (S3.cons (y7.get rfl) y7.nil)))) PB Bt EA
end
def eHT(hm:Tryz.prog.follows .mixedOrders=true)(eU:Entry Tryz.prog 140 cn.u)(eF:Entry Tryz.prog 141 pv.u)(eR:Entry Tryz.prog 142 cb.u)(eD:Entry Tryz.prog 194 cH.u):Entry Tryz.prog 82 qd.u:=by
 have hT:ko Tryz.prog T82:=⟨.inl eU,.inl eF,.inl eR,trivial⟩;have U7:ko Tryz.prog VP:=⟨.inl eD,trivial⟩;refine⟨⟨_,Tryz.func82,by kernel_rfl,by kernel_rfl⟩,λargs K w h=>?_⟩;unfold qd.u at h;split at h
 rotate_left
 ·exact h.elim
 rename_i p now;obtain⟨W,L,a,b,m,hs,rfl,rK,Br,hg,hlen,hk⟩:=h;refine(callsIn_wide (n:=0)).1 (callsIn_of_wp_marks Tryz.func82 Vz trivial ?_ rfl);have okF:Ok Fb:=⟨hT,Vb,hm⟩;obtain⟨dr0,dr1,dr2,dr3,-,-,dr7⟩:=ER;have s0':S3 Fb [] [(1,.i now),(0,.pointer (some ⟨a,0,none⟩))] {tmps:=⟨[.pointer (some ⟨a,0,none⟩),.i now]⟩++ae7 (Tryz.f82.ntmps-2) undef,defers:=[]}:=by
  rw[n82.1];refine S3.cons ?_ (S3.cons ?_ (S3.start rfl ?_))
  ·show(#[Value.pointer (some ⟨a,0,none⟩),.i now]++ae7 18 undef)[1]?=_;simp
  ·show(#[Value.pointer (some ⟨a,0,none⟩),.i now]++ae7 18 undef)[0]?=_;simp
  ·show(#[Value.pointer (some ⟨a,0,none⟩),.i now]++ae7 18 undef).size=20;simp
 refine vB (F:=Fb) (.inl rfl) okF dr0 s0' ?_;rw[d0];refine T.at ?_ rK;refine qL λr0=>?_;intro w1 wa a1 U6;refine vB (F:=Fb) (.inl rfl) okF dr1 U6 ?_;rw[d1];refine T.at ?_ wa;refine jM rfl (vr ?_);refine Qi (p:=a) (by omega) λXD hx1=>wu ?_;have XX:=hx1.len;intro w2 fo a2 Of;refine vB (F:=Fb) (.inl rfl) okF dr2 Of ?_;rw[d2];refine T.at ?_ fo;refine qL λrn=>?_;apply ws;intros;intro w3 qU a3 Wz;refine wpIn_seq (vB (F:=Fb) (.inl rfl) okF dr3 Wz ?_);rw[d3];refine T.at ?_ qU;refine jM rfl (vr ?_);unfold pv;refine qL λr1=>?_;intro w4 tG a4 PQ;have tG:St W w4 (Sep.pt r1 [.pointer (some (ad a 0))]::Sep.pt rn [.i 0]::Sep.pt r0 [.pointer (some (ad a 0))]::bj a (Go.Up.tick b now,XD)::L):=tG;show(Code.block 0 (.rangeFunc (.tmp 11) #[12] Km bd)).wpIn Fence.wide 0 Tryz.prog _ a4 w4;refine wpIn_block ?_;refine Ns rfl (g:=.tmp 11) (gf:=193) (PQ.eval rfl) Tryz.func193 (by kernel_rfl) (by kernel_rfl) λfn=>?_;have ho1:=(tG.Xe (.deferred (some [])) (by simp)).Xe (.loop {state:=.ready,pending:=none,fn:=fn,tmps:=a4.tmps,params:=#[12],assign:=Km,body:=bd,defers:=w4.heap.size}) (by simp);rw[World.size_alloc] at ho1;have Bt:VT (qo m now) (Go.Up.tick b now) XD (yO (qo m now).clock (qo m now).kept):=⟨qo m now,Mc Br now,zl hg now,Sb.refl _,rfl,by
  have:yO (qo m now).clock (qo m now).kept<=96:=Nat.le_trans (List.length_filter_le _ _) hg.some_
  omega⟩
 refine Vs (W:=W) (L:=L) (a:=a) (m0:=qo m now) (r0:=r0) (rn:=rn) (D:=w4.heap.size) (tmps:=a4.tmps) hT U7 hm rfl PQ.1.1.size (PQ.get rfl) (PQ.get rfl) ho1 Bt λn' b' cV k' w5 J1 EA JY=>?_;have hl5:=(JY.obj (k:=0) (b:=w4.heap.size+1) rfl).1;refine⟨_,_,run_endLoop hl5 (by simp),?_⟩;show Exit.inBlock 0 _ .normal _ _;have Uu:=JY.put (k:=0) (b:=w4.heap.size+1) (.loop {state:=.exhausted,pending:=none,fn:=fn,tmps:=a4.tmps,params:=#[12],assign:=Km,body:=bd,defers:=w4.heap.size}) rfl (by simp);have Uu:St W _ (ob (w4.heap.size+1) (.loop {state:=.exhausted,pending:=none,fn:=fn,tmps:=a4.tmps,params:=#[12],assign:=Km,body:=bd,defers:=w4.heap.size})::ob w4.heap.size (.deferred (some []))::Sep.pt r1 [.pointer (some (ad a 0))]::Sep.pt rn [.i n']::Sep.pt r0 [.pointer (some (ad a 0))]::bj a (b',cV)::L):=Uu;show(Code.seq q7 .ret).wpIn Fence.wide 0 Tryz.prog _ _ _;have U5:S3 Fb [{target:=.collected w4.heap.size,args:=#[]}] [(5,.pointer (some (ad rn 0)))] {a4 with defers:={target:=.collected w4.heap.size,args:=#[]}::a4.defers}:=by
  refine S3.cons (PQ.get rfl) ⟨⟨⟨PQ.1.1.size,rfl,λt v hl=>by simp[lk] at hl⟩,PQ.1.2⟩,?_⟩;show _::a4.defers=_;rw[PQ.2]
 refine vB (F:=Fb) (.inl rfl) okF dr7 U5 ?_;rw[d7];refine T.at ?_ Uu;refine jM (r:=rn) (o:=0) rfl (lA ?_);intro w7 PB a7 y7;show Code.ret.wpIn Fence.wide 0 Tryz.prog _ a7 w7;refine wpIn_ret ?_;show LeavesInM _ _ _ _ _ _ a7.defers _ _;rw[y7.2];have hD:=(PB.obj (k:=1) (b:=w4.heap.size) rfl).1;have hs8:=PB.put (k:=1) (b:=w4.heap.size) (.deferred none) rfl (by simp);refine⟨by simp,.inl ⟨_,_,rfl,run_takeDeferred hD,?_⟩⟩;refine⟨_,results_tmp n82.2 _ _ _,_,rfl,?_⟩;have e4:a7.tmps.getD 4 undef=.i n':=by rw[Array.getD_eq_getD_getElem?,y7.get (t:=4) rfl];rfl
 rw[e4];obtain⟨m',Ev,Rb,N8,-,XU⟩:=J1;have:=Dd Ev N8 EA;rw[<-DY] at this;subst this;exact hk n' b' cV _ Ev Rb (by omega) hs8.drop.drop.drop.drop.drop
end Go.Proofs.YtnffemlgkghcfaaGreatDoor
namespace Go.Proofs.YtnffemlgkghcfaaGreatDoor
open Go.Den Go.Prog
noncomputable abbrev P:Program:=Tryz.prog
def mixed:P.follows .mixedOrders=true:=by kernel_rfl
def eqs:Po:=[(40,[.u 0,.u 0]),(105,cK),(108,fj),(182,bg)]
def Yz:og P eqs:=og.cons (by kernel_rfl) (by kernel_rfl) Tryz.underlying40 (og.cons (by kernel_rfl) (by kernel_rfl) Tryz.underlying105 (og.cons (by kernel_rfl) (by kernel_rfl) Tryz.underlying108 (og.cons (by kernel_rfl) (by kernel_rfl) Tryz.underlying182 og.nil)))
def t0:ko P []:=trivial
def tk{T:B9}{g:Nat}{p:WP}(e:Entry P g p)(h:ko P T):ko P ((g,p)::T):=⟨.inl e,h⟩
def tx{T:B9}{g:Nat}{p:WP}(e:Sa P g p)(h:ko P T):ko P ((g,p)::T):=⟨.inr e,h⟩
section
variable {g1 g2 g3 g4 g5 g6 g7 g8:Nat} {p1 p2 p3 p4 p5 p6 p7 p8:WP}
def t1(a:Entry P g1 p1):ko P [(g1,p1)]:=tk a t0
def t2(a:Entry P g1 p1)(b:Entry P g2 p2):ko P [(g1,p1),(g2,p2)]:=tk a (t1 b)
def t3(a:Entry P g1 p1)(b:Entry P g2 p2)(c:Entry P g3 p3):ko P [(g1,p1),(g2,p2),(g3,p3)]:=tk a (t2 b c)
def t4(a:Entry P g1 p1)(b:Entry P g2 p2)(c:Entry P g3 p3)(d:Entry P g4 p4):ko P [(g1,p1),(g2,p2),(g3,p3),(g4,p4)]:=tk a (t3 b c d)
def t5(a:Entry P g1 p1)(b:Entry P g2 p2)(c:Entry P g3 p3)(d:Entry P g4 p4)(e:Entry P g5 p5):ko P [(g1,p1),(g2,p2),(g3,p3),(g4,p4),(g5,p5)]:=tk a (t4 b c d e)
def t6(a:Entry P g1 p1)(b:Entry P g2 p2)(c:Entry P g3 p3)(d:Entry P g4 p4)(e:Entry P g5 p5)(f:Entry P g6 p6):ko P [(g1,p1),(g2,p2),(g3,p3),(g4,p4),(g5,p5),(g6,p6)]:=tk a (t5 b c d e f)
end
def fi{n k:Nat}{f g:WK}{w:World}(h:f w)(e:f=g:=by kernel_rfl)(l:Nat.ble n k=true:=by rfl):n<=k/\g w:=⟨ad3 l,e▸h⟩
def em{T:B9}{g:Nat}{fn:Func}{p:WP}(m:List Nat)(EW:List (Nat×List (Nat×Value)))(hT:ko P T)(hf:P.funcs[g]?=some fn)
 (hp:∀args K w,p args K w->args.length<=fn.ntmps/\body P T eqs fn.ntmps m EW fn.results.toList (fn.body.getD .skip) args K w)(hs:fn.body.isSome=true:=by rfl)(hn:(fn.name== "runtime.NumGoroutine")=false:=by decide):Entry P g p:=
 Om m EW hT Yz mixed hf (by obtain⟨c,hc⟩:=Option.isSome_iff_exists.1 hs;rw[hc];rfl) hn hp
def en{T:B9}{g:Nat}{fn:Func}{p:WP}(EW:List (Nat×List (Nat×Value)))(hT:ko P T)(hf:P.funcs[g]?=some fn)
 (hp:∀args K w,p args K w->args.length<=fn.ntmps/\body P T eqs fn.ntmps [] EW fn.results.toList (fn.body.getD .skip) args K w)(hs:fn.body.isSome=true:=by rfl)(hn:(fn.name== "runtime.NumGoroutine")=false:=by decide):Entry P g p:=em [] EW hT hf hp hs hn
def e0{T:B9}{g:Nat}{fn:Func}{p:WP}(hT:ko P T)(hf:P.funcs[g]?=some fn)
 (hp:∀args K w,p args K w->args.length<=fn.ntmps/\body P T eqs fn.ntmps [] [] fn.results.toList (fn.body.getD .skip) args K w)(hs:fn.body.isSome=true:=by rfl)(hn:(fn.name== "runtime.NumGoroutine")=false:=by decide):Entry P g p:=em [] [] hT hf hp hs hn
def uc{k:List Kd}{F:Fu k}{T:B9}{g:Nat}{fn:Func}(m:List Nat)(EW:List (Nat×List (Nat×Value)))(hT:ko P T)(hf:P.funcs[g]?=some fn)
 (e:F=cur k (body P T eqs fn.ntmps m EW fn.results.toList (fn.body.getD .skip)):=by kernel_rfl)(l:Nat.ble k.length fn.ntmps=true:=by rfl)(hs:fn.body.isSome=true:=by rfl)(hn:(fn.name== "runtime.NumGoroutine")=false:=by decide):Entry P g (U k F):=
 em m EW hT hf (λa K w h=>by subst e;obtain⟨h1,h2⟩:=xx k _ h;exact⟨by rw[h1];exact ad3 l,h2⟩) hs hn
def ub{k:List Kd}{F:Fu k}{T:B9}{g:Nat}{fn:Func}(EW:List (Nat×List (Nat×Value)))(hT:ko P T)(hf:P.funcs[g]?=some fn)
 (e:F=cur k (body P T eqs fn.ntmps [] EW fn.results.toList (fn.body.getD .skip)):=by kernel_rfl)(l:Nat.ble k.length fn.ntmps=true:=by rfl)(hs:fn.body.isSome=true:=by rfl)(hn:(fn.name== "runtime.NumGoroutine")=false:=by decide):Entry P g (U k F):=uc [] EW hT hf e l hs hn
def ua{k:List Kd}{F:Fu k}{T:B9}{g:Nat}{fn:Func}(hT:ko P T)(hf:P.funcs[g]?=some fn)
 (e:F=cur k (body P T eqs fn.ntmps [] [] fn.results.toList (fn.body.getD .skip)):=by kernel_rfl)(l:Nat.ble k.length fn.ntmps=true:=by rfl)(hs:fn.body.isSome=true:=by rfl)(hn:(fn.name== "runtime.NumGoroutine")=false:=by decide):Entry P g (U k F):=uc [] [] hT hf e l hs hn
def abH:Sa P 259 nt.u:=λargs K w h=>by
 unfold nt.u at h;split at h
 ·rename_i x y c;obtain⟨⟨⟨hx,hy⟩,h0,h1⟩,hk⟩:=h;exact⟨_,_,by rw[run_callFunc_extern Tryz.func259 (by kernel_rfl) (by kernel_rfl) (by kernel_rfl) (e:=add64Entry) (by kernel_rfl),run_add64 x y c hx hy h0 h1];rfl,hk⟩
 ·exact h.elim
def W0:Array Value->Sem Value:=λargs=>do
 let(x,y,b)<-Extern.MathBitsCarry.three "Sub64" args
 pure (Extern.MathBitsCarry.pair ((x+Extern.MathBitsCarry.m64-y-b)%Extern.MathBitsCarry.m64) (if x<y+b then 1 else 0))
def Ql(x y b:Nat)(hb:b<=1)(w:World):(W0 #[.u x,.u y,.u b]).run P w=
 .ok (.tuple #[.u (((x+18446744073709551616-y-b)%18446744073709551616:Nat):Int),.u ((if x<y+b then 1 else 0:Nat):Int)]) w:=by
 have:b=0\/b=1:=by omega
 rcases this with rfl|rfl<;>rfl
def abI:Sa P 258 nr.u:=λargs K w h=>by
 unfold nr.u at h;split at h
 ·rename_i x y c;obtain⟨⟨⟨hx,hy,hy2⟩,h0,h1⟩,hk⟩:=h;obtain⟨x,rfl⟩:=ad8 hx;obtain⟨y,rfl⟩:=ad8 hy;obtain⟨c,rfl⟩:=ad8 h0;refine⟨_,_,by rw[run_callFunc_extern Tryz.func258 (by kernel_rfl) (by kernel_rfl) (by kernel_rfl) (e:=W0) (by kernel_rfl),Ql x y c (by omega)];rfl,?_⟩;have a1:(((x+18446744073709551616-y-c)%18446744073709551616:Nat):Int)=((x:Int) -y-c)%18446744073709551616:=by omega
  have a2:((if x<y+c then 1 else 0:Nat):Int)=if(x:Int)<y+c then 1 else 0:=by split<;>split<;>omega
  rw[a1,a2];exact hk
 ·exact h.elim
end Go.Proofs.YtnffemlgkghcfaaGreatDoor
namespace Go.Proofs
open Go.Shelf
def Tryz.yT:Go.Shelf.Ren:=⟨λ|169=>123|n=>n,λ|70=>200|9=>9|0=>0|72=>202|37=>161|127=>267|3=>3|5=>5|n=>n,λ|n=>n⟩
theorem Tryz.QX:Go.Proofs.Lays.n169 Tryz.prog Tryz.yT:={
 mixed:=by kernel_rfl
 f169:=Tryz.func123.trans (congrArg some (by kernel_rfl))
 t0:=Tryz.underlying0
 a0:=Tryz.isAgg0
 z0:=Tryz.sizeOf0
 v0:=Tryz.zeroValue0
 t3:=Tryz.underlying3
 a3:=Tryz.isAgg3
 z3:=Tryz.sizeOf3
 v3:=Tryz.zeroValue3
 t9:=Tryz.underlying9
 a9:=Tryz.isAgg9
 z9:=Tryz.sizeOf9
 v9:=Tryz.zeroValue9
 t37:=Tryz.underlying161
 a37:=Tryz.isAgg161
 z37:=Tryz.sizeOf161
 v37:=Tryz.zeroValue161
 t70:=Tryz.underlying200
 a70:=Tryz.isAgg200
 z70:=Tryz.sizeOf200
 v70:=Tryz.zeroValue200
 t72:=Tryz.underlying202
 a72:=Tryz.isAgg202
 z72:=Tryz.sizeOf202
 v72:=Tryz.zeroValue202
 t127:=Tryz.underlying267
 a127:=Tryz.isAgg267
 z127:=Tryz.sizeOf267
 v127:=Tryz.zeroValue267}
theorem Tryz.xC:Builder.Extra Tryz.prog Tryz.yT:={
 sizeBuilder:=by kernel_rfl
 liesBuilder:=by kernel_rfl
 t5:=Tryz.underlying5
 a5:=Tryz.isAgg5
 z5:=Tryz.sizeOf5
 v5:=Tryz.zeroValue5
 infoByte:=by kernel_rfl
 cellsByte:=by kernel_rfl
 sizeByte:=by kernel_rfl
 neB5:=by decide}
open Go.RowKit in
theorem Tryz.Builder_String_any(B b:Nat)(l:List UInt8)(w:World)(h:Lib.IsBuilder 202 5 B b (Lib.byteCells l) w)(hBw:B<=w.heap.size):
 Calls Tryz.prog 123 #[.pointer (some ⟨b,0,none⟩)] w λe w'=>e=.returned (.string ⟨l.toArray⟩)/\Below B w w':=Any.Builder_String_any Tryz.QX Tryz.xC B b l w h hBw
def Tryz.ug:Go.Shelf.Ren:=⟨λ|105=>62|212=>118|99=>119|165=>120|166=>121|170=>122|169=>123|263=>170|264=>171|206=>172|240=>173|241=>174|276=>225|277=>226|n=>n,λ|9=>9|3=>3|4=>4|20=>20|0=>0|46=>196|109=>197|5=>5|72=>202|76=>205|51=>262|146=>263|53=>38|148=>265|70=>200|37=>161|75=>204|127=>267|164=>309|80=>72|n=>n,λ|n=>n⟩
theorem Tryz.JO:Go.Proofs.Lays.n105 Tryz.prog Tryz.ug:={
 mixed:=by kernel_rfl
 f99:=Tryz.func119.trans (congrArg some (by kernel_rfl))
 f105:=Tryz.func62.trans (congrArg some (by kernel_rfl))
 f165:=Tryz.func120.trans (congrArg some (by kernel_rfl))
 f166:=Tryz.func121.trans (congrArg some (by kernel_rfl))
 f169:=Tryz.func123.trans (congrArg some (by kernel_rfl))
 f170:=Tryz.func122.trans (congrArg some (by kernel_rfl))
 f206:=Tryz.func172.trans (congrArg some (by kernel_rfl))
 f212:=Tryz.func118.trans (congrArg some (by kernel_rfl))
 f240:=Tryz.func173.trans (congrArg some (by kernel_rfl))
 f241:=Tryz.func174.trans (congrArg some (by kernel_rfl))
 f263:=Tryz.func170.trans (congrArg some (by kernel_rfl))
 f264:=Tryz.func171.trans (congrArg some (by kernel_rfl))
 f276:=Tryz.func225.trans (congrArg some (by kernel_rfl))
 f277:=Tryz.func226.trans (congrArg some (by kernel_rfl))
 t0:=Tryz.underlying0
 a0:=Tryz.isAgg0
 z0:=Tryz.sizeOf0
 v0:=Tryz.zeroValue0
 t3:=Tryz.underlying3
 a3:=Tryz.isAgg3
 z3:=Tryz.sizeOf3
 v3:=Tryz.zeroValue3
 t4:=Tryz.underlying4
 a4:=Tryz.isAgg4
 z4:=Tryz.sizeOf4
 v4:=Tryz.zeroValue4
 t5:=Tryz.underlying5
 a5:=Tryz.isAgg5
 z5:=Tryz.sizeOf5
 v5:=Tryz.zeroValue5
 t9:=Tryz.underlying9
 a9:=Tryz.isAgg9
 z9:=Tryz.sizeOf9
 v9:=Tryz.zeroValue9
 t20:=Tryz.underlying20
 a20:=Tryz.isAgg20
 z20:=Tryz.sizeOf20
 v20:=Tryz.zeroValue20
 t37:=Tryz.underlying161
 a37:=Tryz.isAgg161
 z37:=Tryz.sizeOf161
 v37:=Tryz.zeroValue161
 t46:=Tryz.underlying196
 a46:=Tryz.isAgg196
 z46:=Tryz.sizeOf196
 v46:=Tryz.zeroValue196
 t51:=Tryz.underlying262
 a51:=Tryz.isAgg262
 z51:=Tryz.sizeOf262
 v51:=Tryz.zeroValue262
 t53:=Tryz.underlying38
 a53:=Tryz.isAgg38
 z53:=Tryz.sizeOf38
 v53:=Tryz.zeroValue38
 t70:=Tryz.underlying200
 a70:=Tryz.isAgg200
 z70:=Tryz.sizeOf200
 v70:=Tryz.zeroValue200
 t72:=Tryz.underlying202
 a72:=Tryz.isAgg202
 z72:=Tryz.sizeOf202
 v72:=Tryz.zeroValue202
 t75:=Tryz.underlying204
 a75:=Tryz.isAgg204
 z75:=Tryz.sizeOf204
 v75:=Tryz.zeroValue204
 t76:=Tryz.underlying205
 a76:=Tryz.isAgg205
 z76:=Tryz.sizeOf205
 v76:=Tryz.zeroValue205
 t109:=Tryz.underlying197
 a109:=Tryz.isAgg197
 z109:=Tryz.sizeOf197
 v109:=Tryz.zeroValue197
 t127:=Tryz.underlying267
 a127:=Tryz.isAgg267
 z127:=Tryz.sizeOf267
 v127:=Tryz.zeroValue267
 t146:=Tryz.underlying263
 a146:=Tryz.isAgg263
 z146:=Tryz.sizeOf263
 v146:=Tryz.zeroValue263
 t148:=Tryz.underlying265
 a148:=Tryz.isAgg265
 z148:=Tryz.sizeOf265
 v148:=Tryz.zeroValue265
 t164:=Tryz.underlying309
 a164:=Tryz.isAgg309
 z164:=Tryz.sizeOf309
 v164:=Tryz.zeroValue309}
theorem Tryz.rm:Builder.Extra Tryz.prog Tryz.ug:={
 sizeBuilder:=by kernel_rfl
 liesBuilder:=by kernel_rfl
 t5:=Tryz.underlying5
 a5:=Tryz.isAgg5
 z5:=Tryz.sizeOf5
 v5:=Tryz.zeroValue5
 infoByte:=by kernel_rfl
 cellsByte:=by kernel_rfl
 sizeByte:=by kernel_rfl
 neB5:=by decide}
open Go.RowKit Go.Lib in
theorem Tryz.strings_Repeat(s:ByteArray)(c:Nat)(w:World)(hc:c<=9223372036854775807)(hlen:s.size* c<=140737488355328):
 Calls Tryz.prog 62 #[.string s,.int .i64 c] w λe w'=>e=.returned (.string ⟨(Lib.repeatL s.data.toList c).toArray⟩)/\Below w.heap.size w w':=Any.strings_Repeat Tryz.JO Tryz.rm s c w hc hlen
open Go.RowKit Go.Lib in
theorem Tryz.QY:Go.Proofs.Lays.n166 Tryz.prog Tryz.ug:={Tryz.JO with}
open Go.RowKit in
theorem Tryz.Builder_WriteString(B b:Nat)(bs:List Value)(s:ByteArray)(w:World)(h:Lib.IsBuilder 202 5 B b bs w)(hlen:bs.length+s.size<=140737488355328)(hBw:B<=w.heap.size):
 Calls Tryz.prog 121 #[.pointer (some ⟨b,0,none⟩),.string s] w λe w'=>e=.returned (.tuple #[.int .i64 s.size,.nilIface])/\(Lib.BuilderAt 202 5 B b (.pointer (some ⟨b,0,none⟩)) (bs++Lib.strCells s) w'/\Below B w w'):=Any.Builder_WriteString Tryz.QY Tryz.rm B b bs s w h hlen hBw
end Go.Proofs
namespace Go.Proofs.YtnffemlgkghcfaaGreatDoor
open Go.Den Go.Prog
def Jy(l:List UInt8):∀n,AP l n=Go.Lib.repeatL l n
 |0=>rfl
 |n+1=>by simp[AP,Go.Lib.repeatL,Jy l n]
def e62:Entry P 62 strings_Repeat.u:=⟨⟨_,Tryz.func62,rfl,rfl⟩,λargs K w h=>by
 unfold strings_Repeat.u at h
 split at h
 ·rename_i s n
  obtain⟨⟨h0,h1,h2⟩,hk⟩:=h
  obtain⟨m,rfl⟩:=ad8 h0
  refine(Go.Proofs.Tryz.strings_Repeat s m w (by omega) (by simpa using h1)).mono λe w' ⟨he,hb⟩=>⟨_,he,?_⟩
  rw[<-Jy];exact hk w' hb
 ·exact h.elim⟩
def acN:Entry P 121 eJ.u:=⟨⟨_,Tryz.func121,rfl,rfl⟩,λargs K w h=>by
 unfold eJ.u at h
 split at h
 ·rename_i p s
  obtain⟨B,b,l,rfl,hb,hl,hB,hk⟩:=h
  refine(Go.Proofs.Tryz.Builder_WriteString B b (Go.Lib.byteCells l) s w hb (by simpa [Go.Lib.byteCells] using hl) hB).mono λe w' ⟨he,U0,Yh⟩=>⟨_,he,hk w' (.inr ?_) Yh⟩
  have e:Go.Lib.byteCells (l++s.data.toList)=Go.Lib.byteCells l++Go.Lib.strCells s:=by simp[Go.Lib.byteCells,Go.Lib.strCells]
  rw[e];exact U0
 ·exact h.elim⟩
def acM:Entry P 123 fW.u:=⟨⟨_,Tryz.func123,rfl,rfl⟩,λargs K w h=>by
 unfold fW.u at h
 split at h
 ·obtain⟨B,b,l,rfl,hb,hB,hk⟩:=h
  exact(Go.Proofs.Tryz.Builder_String_any B b l w hb hB).mono λe w' ⟨he,Yh⟩=>⟨_,he,hk w' Yh⟩
 ·exact h.elim⟩
def e26:Entry P 26 (U [] mS):=ua (t1 e62) Tryz.func26
def e9:Entry P 9 (U [.n] jS):=ub [(3,[(2,vp),(3,vq),(8,vi),(9,vi)])] (t1 e26) Tryz.func9
def e27:Entry P 27 (U [.n] pQ):=ua t0 Tryz.func27
def YD:Entry P 28 (U [.p] dw):=ua t0 Tryz.func28
def WB:Entry P 68 (U [.s] lO):=ua t0 Tryz.func68
def Vn:Entry P 130 (U [.p,.n] cF):=ua t0 Tryz.func130
def Mz:Entry P 69 ao.u:=en [(3,[(4,vi),(5,vi),(13,vl),(14,vi),(15,vi)])] (t1 Vn) Tryz.func69 λa K w h=>by unfold ao.u at h;split at h;exact fi h;exact h.elim
def acH:Entry P 131 (U [.s] nH):=ub [(5,[(2,vq),(3,vb),(4,vq),(10,vi)])] t0 Tryz.func131
def e74:Entry P 74 bm.u:=e0 (t2 Vn acH) Tryz.func74 λa K w h=>by unfold bm.u at h;split at h;exact fi h;exact h.elim
def IG:Entry P 115 bt.u:=e0 t0 Tryz.func115 λa K w h=>by unfold bt.u at h;split at h;exact fi h;exact h.elim
def e71:Entry P 71 kK.u:=e0 (t3 Mz e74 IG) Tryz.func71 λa K w h=>by unfold kK.u at h;split at h;exact fi h;exact h.elim
def e73:Entry P 73 jJ.u:=e0 (t3 Mz e74 IG) Tryz.func73 λa K w h=>by unfold jJ.u at h;split at h;exact fi h;exact h.elim
def e77:Entry P 77 (U [.p] iB):=ua t0 Tryz.func77
def Vp:Entry P 116 (U [.p] mA):=ua t0 Tryz.func116
def acK:Entry P 125 (U [] rP):=ua t0 Tryz.func125
def acJ:Entry P 126 (U [.p] mJ):=ua t0 Tryz.func126
def acI:Entry P 127 (U [.p] oB):=ua t0 Tryz.func127
def e64:Entry P 64 (U [] qi):=ua (t3 acK acJ acI) Tryz.func64
def Y':Entry P 143 (U [.p] jh):=ua t0 Tryz.func143
def abA:Entry P 268 (U [.g] pS):=ua t0 Tryz.func268
def Rw:Entry P 219 (U [.p,.g] bG):=ub [(5,[(3,vq),(4,vi),(5,vb),(6,vu),(7,vi),(8,vu)])] (t1 abA) Tryz.func219
def IF:Entry P 162 (U [.p,.g] ef):=ua (t1 Rw) Tryz.func162
def ab0:Entry P 220 (U [.p] mD):=ub [(2,[(2,vl),(3,vi)]),(6,[(30,vl),(31,vi),(32,vi)])] (t1 Rw) Tryz.func220
def Vl:Entry P 163 (U [.p,.g,.n] bZ):=ua (t2 Rw ab0) Tryz.func163
def EP:Entry P 191 (U [.p,.v] eu):=ua t0 Tryz.func191
def abZ:Entry P 221 aY.u:=e0 t0 Tryz.func221 λa K w h=>by unfold aY.u at h;split at h;exact fi h;exact h.elim
def Y6:Entry P 164 (U [.p,.g] fh):=ua (t1 EP) Tryz.func164
def aby:Entry P 270 cZ.u:=e0 t0 Tryz.func270 λa K w h=>by unfold cZ.u at h;split at h;exact fi h;exact h.elim
def abz:Entry P 269 (U [.n,.v] qO):=ub [(2,[(4,vi),(5,vi),(6,vi)])] (t1 aby) Tryz.func269
def Vf:Entry P 222 (U [.p,.n] iE):=ua (t1 abz) Tryz.func222
def Y5:Entry P 165 (U [.p,.n,.n] fB):=ua (t1 Vf) Tryz.func165
def RA:Entry P 166 (U [.p] dv):=ua t0 Tryz.func166
def abY:Entry P 223 bq.u:=e0 t0 Tryz.func223 λa K w h=>by unfold bq.u at h;split at h;exact fi h;exact h.elim
def Y4:Entry P 167 (U [.p,.g] fV):=ua (t1 EP) Tryz.func167
def Vk:Entry P 168 (U [.g] qh):=ua t0 Tryz.func168
def YF:Entry P 271 (U [.g,.g] nN):=ua t0 Tryz.func271
def YP:Entry P 224 (U [.p,.n] fA):=uc [1] [(0,[(1,vi)])] (t1 YF) Tryz.func224
def Vj:Entry P 169 (U [.p,.g] iD):=ua (t1 YP) Tryz.func169
def acO:Entry P 117 (U [.l,.l,.n,.n] cx):=ub [(5,[(8,vp),(9,vi),(10,vp),(46,vl),(47,vi),(48,vi)]),(13,[(8,vp),(9,vi),(10,vp),(77,vl),(78,vi),(79,vi)])] (tk e64 (tk Y' (tk IF (tk Vl (tk Y6 (tk Y5 (tk RA (tk Y4 (tk Vk (tk Vj t0)))))))))) Tryz.func117
def e61:Entry P 61 (U [.s] k8):=ub [(10,[(2,vp),(3,vi),(4,vp),(5,vi),(6,vi),(8,vi),(9,vl),(38,vi),(39,vi)]),(15,[(2,vp),(3,vi),(4,vp),(5,vi),(6,vi),(9,vl),(10,vl),(47,vi),(48,vi)])] (tk WB (tk Mz (tk e71 (tk e73 (tk e77 (tk IG (tk Vp (tk acO t0)))))))) Tryz.func61
def Y9:Entry P 152 (U [.p,.n] lC):=ua t0 Tryz.func152
def RB:Entry P 106 (U [.p,.n] ga):=ub [(6,[(4,.string .empty),(5,vi),(6,vi)])] (t1 Y9) Tryz.func106
def YX:Entry P 204 (U [.i .u32] nZ):=ua t0 Tryz.func204
def YW:Entry P 205 (U [.i .u32,.s] qC):=ub [(3,[(4,.int .u32 0),(5,.int .u32 0),(10,vi),(11,vi)]),(7,[(4,.int .u32 0),(5,.int .u32 0),(6,vi),(10,vi),(11,vi),(12,vb),(13,vi),(14,.int .u32 0),(15,.string .empty),(16,vi),(17,.int .u8 0),(18,.int .u32 0),(19,.int .u32 0),(20,vi)])] t0 Tryz.func205
def acm:Entry P 176 (U [.s] pU):=ua (t2 YX YW) Tryz.func176
def abX:Entry P 227 (U [.s,.i .u8] jO):=uc [0] [(1,[(0,.string .empty),(4,.string .empty)])] t0 Tryz.func227
def abW:Entry P 228 (U [.s,.i .u8] jt):=uc [0] [(1,[(0,.string .empty),(4,.string .empty)])] t0 Tryz.func228
def ack:Entry P 177 (U [.s,.s] dY):=ua (t2 abX abW) Tryz.func177
def Y3:Entry P 178 (U [.g] qp):=ua t0 Tryz.func178
def Vo:Entry P 129 (U [.s] iC):=ua (t6 WB Mz Vn acm ack Y3) Tryz.func129
def Y7:Entry P 156 (U [.g] qA):=ua t0 Tryz.func156
def acn:Entry P 175 (U [.s] s8):=ua (t4 WB Mz e77 Y7) Tryz.func175
def acL:Entry P 124 (U [.p,.n] lJ):=ua (t3 RB Vo acn) Tryz.func124
def e63:Entry P 63 (U [.p] nW):=ua (t1 acL) Tryz.func63
def Zg:Entry P 109 (U [.g,.n] k9):=ua t0 Tryz.func109
def LR:Entry P 105 (U [.n] iW):=ua t0 Tryz.func105
def Ze:Entry P 128 (U [.p,.n,.n,.n,.n] fk):=ub [(5,[(10,.string .empty),(11,vb),(12,vq),(48,vi),(49,vi)])] (t6 YD LR RB acN acM Vo) Tryz.func128
def e65:Entry P 65 (U [.g,.p,.n,.n,.n] mR):=ua (t2 Zg Ze) Tryz.func65
def e29:Entry P 29 (U [.p,.g] sy):=ua (t4 e61 e63 e64 e65) Tryz.func29
def e66:Entry P 66 (U [.p,.n,.n] nQ):=ua (t1 YD) Tryz.func66
def e67:Entry P 67 (U [.p,.n,.n,.n] da):=ua (tk WB (tk Mz (tk LR (tk RB (tk IG (tk Ze (tk Vo t0))))))) Tryz.func67
def e30:Entry P 30 (U [.p,.n,.n,.n] gT):=ub [(7,[(8,vp),(9,vl),(10,vi),(11,vq),(12,vl)])] (t2 e66 e67) Tryz.func30
def e70:Entry P 70 (U [.p,.v] jq):=ub [(3,[(4,vl),(5,vl),(7,vi),(8,vi)])] (t3 e71 Mz IG) Tryz.func70
def e72:Entry P 72 (U [.p,.v] iM):=ub [(3,[(4,vl),(5,vl),(7,vi),(8,vi)])] (t3 Mz IG e73) Tryz.func72
def e75:Entry P 75 (U [.p] ja):=ua (t1 Mz) Tryz.func75
def e76:Entry P 76 (U [.p,.v] lZ):=ub [(3,[(4,vl),(5,vl),(7,vi),(8,vi)])] (t3 Mz e74 IG) Tryz.func76
def e79:Entry P 79 (U [.g] pA):=ua t0 Tryz.func79
def e84:Entry P 84 (U [.g] eo):=ua t0 Tryz.func84
def Zd:Entry P 132 (U [.g] fS):=ua t0 Tryz.func132
def Zc:Entry P 133 (U [.g] dk):=ua t0 Tryz.func133
def e78:Entry P 78 (U [.g] lN):=ub [(6,[(2,vb),(20,vl),(21,vi),(22,vi)]),(13,[(2,vb),(33,vl),(34,vi),(35,vi)])] (t4 e79 e84 Zd Zc) Tryz.func78
def e31:Entry P 31 (U [.s] iZ):=ua (tk WB (tk Mz (tk e70 (tk e72 (tk e74 (tk e75 (tk e76 (tk e77 (tk e78 t0))))))))) Tryz.func31
def e32:Entry P 32 (U [.g] mX):=ua t0 Tryz.func32
def acF:Entry P 135 dN.u:=e0 t0 Tryz.func135 λa K w h=>by unfold dN.u at h;split at h;exact fi h;exact h.elim
def acj:Entry P 179 (U [.l,.v] iU):=ub [(2,[(4,vi),(5,vb),(8,vl),(9,vi),(10,vi)])] (t1 acF) Tryz.func179
def Rz:Entry P 180 fK.u:=en [(1,[(8,vi),(9,vi)])] t0 Tryz.func180 λa K w h=>by unfold fK.u at h;split at h;exact fi h;exact h.elim
def YM:Entry P 238 (U [.p] dg):=ua t0 Tryz.func238
def YZ:Entry P 199 (U [.p,.n] bV):=ua (t1 YM) Tryz.func199
def LQ:Entry P 144 (U [.p,.g] bX):=ua (t2 IF YZ) Tryz.func144
def GZ:Entry P 236 (U [.g] eL):=ua t0 Tryz.func236
def abV:Entry P 237 (U [.g] iG):=ua (t1 GZ) Tryz.func237
def ach:Entry P 182 (U [.g] mw):=ua (t2 GZ abV) Tryz.func182
def acg:Entry P 183 (U [.g,.g] my):=ua t0 Tryz.func183
def abv:Entry P 278 cj.u:=e0 t0 Tryz.func278 λa K w h=>by unfold cj.u at h;split at h;exact fi h;exact h.elim
def YL:Entry P 239 (U [.p] kH):=ua (t1 EP) Tryz.func239
def YK:Entry P 241 (U [.p,.g] kA):=ua (t1 Rw) Tryz.func241
def abU:Entry P 240 cr.u:=e0 (t1 YK) Tryz.func240 λa K w h=>by unfold cr.u at h;split at h;exact fi h;exact h.elim
def acf:Entry P 184 (U [.p,.g] jf):=ua (t6 IF Vl Y6 EP YM YL) Tryz.func184
def acE:Entry P 136 iF.u:=e0 (t4 LQ ach acg acf) Tryz.func136 λa K w h=>by unfold iF.u at h;split at h;exact fi h;exact h.elim
def abx:Entry P 276 (U [.p] oV):=ua t0 Tryz.func276
def YO:Entry P 234 cX.u:=e0 (t1 abx) Tryz.func234 λa K w h=>by unfold cX.u at h;split at h;exact fi h;exact h.elim
def ab':Entry P 192 cm.u:=e0 t0 Tryz.func192 λa K w h=>by unfold cm.u at h;split at h;exact fi h;exact h.elim
def abF:Entry P 262 cE.u:=e0 (t1 Vj) Tryz.func262 λa K w h=>by unfold cE.u at h;split at h;exact fi h;exact h.elim
def abr:Entry P 284 (U [.p,.n] fI):=ua (t1 Vf) Tryz.func284
def abt:Entry P 283 cw.u:=e0 (t2 YK abr) Tryz.func283 λa K w h=>by unfold cw.u at h;split at h;exact fi h;exact h.elim
def abh:Entry P 297 (U [.p,.n] cW):=uc [1] [(0,[(1,vi)]),(2,[(1,vi),(4,vi),(5,vi)])] (t1 YF) Tryz.func297
def abl:Entry P 290 (U [.p,.n] mC):=ua (t2 YP abh) Tryz.func290
def YG:Entry P 261 (U [.p,.n] jc):=ub [(4,[(4,vb),(12,vl),(13,vi),(14,vi)])] (t1 abl) Tryz.func261
def abq:Entry P 285 cu.u:=e0 (t1 YG) Tryz.func285 λa K w h=>by unfold cu.u at h;split at h;exact fi h;exact h.elim
def abm:Entry P 289 aX.u:=e0 t0 Tryz.func289 λa K w h=>by unfold aX.u at h;split at h;exact fi h;exact h.elim
def abk:Entry P 291 bp.u:=e0 t0 Tryz.func291 λa K w h=>by unfold bp.u at h;split at h;exact fi h;exact h.elim
def abw:Entry P 277 (U [.p,.n] oW):=ub [(1,[])] (tk abF (tk abt (tk abq (tk abU (tk ab' (tk abv (tk abZ (tk abm (tk abY (tk abk t0)))))))))) Tryz.func277
def YN:Entry P 235 cY.u:=e0 (t1 abw) Tryz.func235 λa K w h=>by unfold cY.u at h;split at h;exact fi h;exact h.elim
def aci:Entry P 181 (U [.p,.l,.l,.v] ju):=ub [(2,[(8,vi),(14,vl),(15,vi),(16,vi)])] (t4 YN YO acE Rz) Tryz.func181
def acG:Entry P 134 (U [.p,.l,.v,.v] lX):=ub [(3,[(8,vl),(9,vl),(10,vi)])] (t3 acj Rz aci) Tryz.func134
def e80:Entry P 80 (U [.p,.l] nY):=ua (t1 acG) Tryz.func80
def acC:Entry P 138 dz.u:=e0 t0 Tryz.func138 λa K w h=>by unfold dz.u at h;split at h;exact fi h;exact h.elim
def ace:Entry P 185 (U [.l,.v] ir):=ub [(2,[(4,vi),(5,vb),(8,vl),(9,vi),(10,vi)])] (t1 acC) Tryz.func185
def Ry:Entry P 188 (U [.g] oy):=ua t0 Tryz.func188
def Rv:Entry P 243 (U [.g] iL):=ua t0 Tryz.func243
def abT:Entry P 242 (U [.g] gS):=ub [(3,[(1,vq),(2,vb),(3,vi),(6,.agg #[]),(7,vi)])] (t2 Ry Rv) Tryz.func242
def abS:Entry P 244 (U [.g] kO):=ua (t1 GZ) Tryz.func244
def YE:Entry P 279 (U [.g] mP):=ua t0 Tryz.func279
def abR:Entry P 245 (U [.g] gv):=ua (t2 GZ YE) Tryz.func245
def Y2:Entry P 187 (U [.g] cT):=ua (t6 Ry GZ abT Rv abS abR) Tryz.func187
def Vi:Entry P 200 (U [.p,.n] bT):=ua (t1 RA) Tryz.func200
def LP:Entry P 145 (U [.p,.g] eB):=ua (t2 IF Vi) Tryz.func145
def abG:Entry P 260 (U [.p,.n,.g] gG):=ua (t2 EP YZ) Tryz.func260
def Y0:Entry P 197 (U [.p,.g] gP):=ua (t3 LQ IF abG) Tryz.func197
def YJ:Entry P 246 (U [.g,.g] qn):=ua t0 Tryz.func246
def abQ:Entry P 247 (U [.p,.g] uN):=ua (t1 LQ) Tryz.func247
def YI:Entry P 248 (U [.p] kJ):=ua (t1 RA) Tryz.func248
def abn:Entry P 288 (U [.g,.g] pP):=ua t0 Tryz.func288
def Ou:Entry P 257 (U [.g,.g] ny):=ua (t1 abn) Tryz.func257
def abu:Entry P 280 (U [.g,.g] tK):=ua (t1 Ou) Tryz.func280
def Y1:Entry P 195 (U [.g,.g] mj):=ua (tk Ou (tx abI t0)) Tryz.func195
def Ov:Entry P 196 (U [.g,.g] ml):=ua (tx abH t0) Tryz.func196
def abi:Entry P 296 (U [.g,.g] ft):=ua (t1 Ov) Tryz.func296
def Vd:Entry P 281 (U [.g,.b] bS):=ua (t2 Y1 abi) Tryz.func281
def abP:Entry P 249 (U [.g,.g] dx):=ua (t4 GZ YE abu Vd) Tryz.func249
def YC:Entry P 282 (U [.l] tJ):=ub [(3,[(2,vq),(3,vb),(4,vq),(8,vl),(9,vi),(10,vi)])] (t1 Ov) Tryz.func282
def abO:Entry P 250 (U [.g,.g,.b] jY):=ua (t4 Ov Ou Vd YC) Tryz.func250
def abN:Entry P 251 (U [.g,.g,.b] iV):=ua (t4 Ov Ou Vd YC) Tryz.func251
def YH:Entry P 252 (U [.p,.g,.g,.b] eE):=ua (tk IF (tk Vl (tk Y5 (tk RA (tk Y4 (tk Vk (tk Vj (tk EP (tk YL t0))))))))) Tryz.func252
def acb:Entry P 189 (U [.p,.g] l6):=ua (tk LP (tk Y2 (tk Ry (tk Y0 (tk Rv (tk YJ (tk abQ (tk YI (tk abP (tk abO (tk abN (tk YH t0)))))))))))) Tryz.func189
def abE:Entry P 263 (U [.p,.n,.g] iN):=ua (t2 EP Vi) Tryz.func263
def ab8:Entry P 198 (U [.p,.g,.n] bB):=ua (t6 LP IF Vk EP YG abE) Tryz.func198
def Za:Entry P 142 cb.u:=e0 (t5 LQ Y1 Ov Y0 ab8) Tryz.func142 λa K w h=>by unfold cb.u at h;split at h;exact fi h;exact h.elim
def abp:Entry P 286 (U [.g,.g] dB):=ua (t1 GZ) Tryz.func286
def abM:Entry P 253 (U [.p,.g] uQ):=ua (t3 LP Rv abp) Tryz.func253
def abL:Entry P 254 (U [.g,.g] kQ):=ua (t2 GZ Ou) Tryz.func254
def abK:Entry P 255 (U [.p,.g] jU):=ua (t1 LQ) Tryz.func255
def aca:Entry P 190 (U [.p,.g] nT):=ua (tk Za (tk LP (tk YJ (tk YI (tk YH (tk abM (tk abL (tk abK t0)))))))) Tryz.func190
def acB:Entry P 139 kr.u:=e0 (t4 Y2 Ry acb aca) Tryz.func139 λa K w h=>by unfold kr.u at h;split at h;exact fi h;exact h.elim
def acd:Entry P 186 (U [.p,.l,.l,.v] iT):=ub [(2,[(8,vi),(14,vl),(15,vi),(16,vi)])] (t4 YN YO Rz acB) Tryz.func186
def acD:Entry P 137 (U [.p,.l,.v,.v] lj):=ub [(3,[(8,vl),(9,vl),(10,vi)])] (t3 Rz ace acd) Tryz.func137
def e81:Entry P 81 (U [.p,.l] m9):=ua (t1 acD) Tryz.func81
def acA:Entry P 140 cn.u:=e0 (t1 EP) Tryz.func140 λa K w h=>by unfold cn.u at h;split at h;exact fi h;exact h.elim
def abo:Entry P 287 (U [.p] pF):=ua t0 Tryz.func287
def abJ:Entry P 256 (U [.p] jR):=ua (t1 abo) Tryz.func256
def ab9:Entry P 194 cH.u:=e0 (t2 LP abJ) Tryz.func194 λa K w h=>by unfold cH.u at h;split at h;exact fi h;exact h.elim
def acz:Entry P 141 pv.u:=e0 t0 Tryz.func141 λa K w h=>by unfold pv.u at h;split at h;exact fi h;exact h.elim
def e83:Entry P 83 (U [.p] iw):=ua (t1 Y') Tryz.func83
def e82:Entry P 82 qd.u:=eHT mixed acA acz Za ab9
def e33:Entry P 33 (U [.p,.g] sf):=ua (t5 e79 e80 e81 e82 e83) Tryz.func33
def Zj:Entry P 10 (U [.p] eP):=ub [(14,[(2,vp),(3,vi),(6,vp),(10,vq),(59,vl),(60,vi),(61,vi)])] (tk e27 (tk YD (tk e29 (tk e30 (tk e31 (tk e32 (tk e33 t0))))))) Tryz.func10
def e85:Entry P 85 (U [.p,.l] pV):=ub [(3,[(4,vl),(5,vl),(10,vl),(11,vi),(12,vi)])] (t1 LQ) Tryz.func85
def e86:Entry P 86 (U [.p,.l] o7):=ub [(3,[(4,vl),(5,vl),(10,vl),(11,vi),(12,vi)])] (t1 LP) Tryz.func86
def ab7:Entry P 201 (U [.p,.n,.n,.b] dm):=ub [(9,[(8,vl),(9,vi),(10,vi),(11,vl)]),(14,[(8,vl),(11,vl),(12,vi),(13,vi)])] (t1 Vf) Tryz.func201
def acy:Entry P 146 (U [.p,.n,.n,.b] ku):=ub [(5,[(8,vl),(9,vl),(22,vl),(23,vi),(24,vi)])] (t2 Vi ab7) Tryz.func146
def e87:Entry P 87 (U [.p,.g] jB):=ub [(3,[(3,vq),(4,vl),(5,vl),(17,vl),(18,vi),(19,vi)])] (t1 acy) Tryz.func87
def e34:Entry P 34 (U [.p,.g] EV):=ua (t4 e84 e85 e86 e87) Tryz.func34
def Ot:Entry P 88 (U [.p,.n,.n] aC):=ub [(1,[(9,vi),(10,vi)])] t0 Tryz.func88
def acw:Entry P 148 (U [.g] sw):=ub [(3,[(1,vq),(2,.string .empty),(3,vq),(5,vi)])] t0 Tryz.func148
def e92:Entry P 92 (U [.p,.g] iA):=ua (t1 acw) Tryz.func92
def Zi:Entry P 103 (U [.p,.g] oa):=ub [(4,[(3,vq),(20,.agg #[]),(21,vi)])] (t3 Ot e92 Zd) Tryz.func103
def e89:Entry P 89 (U [.p,.l] jK):=ub [(2,[(12,vl),(13,vi),(14,vi)])] (t2 Ot Zi) Tryz.func89
def Zh:Entry P 104 (U [.p,.g] mO):=ub [(4,[(3,vq),(20,.agg #[]),(21,vi)])] (t3 Ot e92 Zc) Tryz.func104
def e90:Entry P 90 (U [.p,.l] jo):=ub [(2,[(12,vl),(13,vi),(14,vi)])] (t2 Ot Zh) Tryz.func90
def acx:Entry P 147 (U [.p,.b] mz):=ua (t1 Ot) Tryz.func147
def e91:Entry P 91 (U [.p,.g] kY):=ub [(5,[(3,vq),(30,.agg #[]),(31,vi)])] (t3 Ot e92 acx) Tryz.func91
def YB:Entry P 93 (U [.p] bW):=ua t0 Tryz.func93
def e35:Entry P 35 (U [.g] su):=ub [(8,[(2,.string .empty),(3,vi),(4,vq),(28,vl),(29,vi),(30,vi)])] (tk e78 (tk Ot (tk e89 (tk e90 (tk e91 (tk e92 (tk YB t0))))))) Tryz.func35
def e25:Entry P 25 (U [.p] iv):=ua t0 Tryz.func25
def acV:Entry P 101 (U [.p] gH):=ua t0 Tryz.func101
def e42:Entry P 42 (U [.p] fR):=ua (t1 acV) Tryz.func42
def acU:Entry P 102 (U [.p] iO):=ua t0 Tryz.func102
def e43:Entry P 43 (U [.p] iu):=ua (t1 acU) Tryz.func43
def e44:Entry P 44 (U [.p] jX):=ua t0 Tryz.func44
def e45:Entry P 45 (U [.p] pn):=ub [(8,[(2,.string .empty),(3,vq),(31,vl),(32,vi),(33,vi)]),(13,[(2,.string .empty),(3,vq),(42,vl),(43,vi),(44,vi)])] (tk e25 (tk e42 (tk e43 (tk e44 (tk Ot (tk YB (tk Zi (tk Zh t0)))))))) Tryz.func45
def e46:Entry P 46 (U [.g,.n] mo):=ua (t1 LR) Tryz.func46
def acT:Entry P 107 (U [.s] sA):=ub [(3,[(2,vq),(3,vq),(14,.agg #[]),(15,vi)])] (t2 WB Mz) Tryz.func107
def e47:Entry P 47 (U [.p] kz):=ub [(3,[(2,vi),(3,vi),(9,vi),(10,vi)])] (t3 YD RB acT) Tryz.func47
def YY:Entry P 202 (U [.p,.s] iz):=ua t0 Tryz.func202
def acs:Entry P 153 (U [.g] nB):=ua (tk e62 (tk Ot (tk YB (tk Y3 (tk YY (tk YX (tk YW t0))))))) Tryz.func153
def Y8:Entry P 155 (U [.p] jj):=ua t0 Tryz.func155
def acr:Entry P 154 (U [.p,.n,.s] cG):=ua (t3 e26 Y9 Y8) Tryz.func154
def Vr:Entry P 108 (U [.p,.n,.n,.n,.s] ij):=uc [4] [(6,[(4,.string .empty),(10,vi),(11,vi)])] (t4 YD LR acs acr) Tryz.func108
def Vq:Entry P 110 (U [.p] il):=ub [(6,[(2,vi),(14,vl),(15,vi),(16,vi)])] (t1 Y8) Tryz.func110
def e48:Entry P 48 (U [.g,.p,.n,.n,.s] mQ):=ua (t3 Vr Zg Vq) Tryz.func48
def acS:Entry P 111 (U [.g] q8):=ub [(5,[(2,.string .empty),(3,vi),(4,vq),(20,.agg #[]),(21,vi)])] (t3 Ot YB Y7) Tryz.func111
def e49:Entry P 49 (U [.p,.n,.g] qe):=ua (t3 Vr Vq acS) Tryz.func49
def e50:Entry P 50 (U [.p] gr):=ua t0 Tryz.func50
def e51:Entry P 51 (U [.p] fO):=ua t0 Tryz.func51
def Zb:Entry P 14 (U [.p] cD):=ua (tk e45 (tk e46 (tk e47 (tk e48 (tk e49 (tk e50 (tk e51 t0))))))) Tryz.func14
def e94:Entry P 94 (U [.p,.n] fN):=ua (t1 LR) Tryz.func94
def acv:Entry P 149 (U [.n,.s] oY):=ua (t3 Ot YB YY) Tryz.func149
def e95:Entry P 95 (U [.p,.n,.s] aV):=ua (t5 e94 LR Vr Vq acv) Tryz.func95
def e36:Entry P 36 (U [.p,.s] fH):=ua (t4 Zb e47 e94 e95) Tryz.func36
def Zf:Entry P 11 (U [.p,.g] dM):=ua (t5 e32 e33 e34 e35 e36) Tryz.func11
def e16:Entry P 16 (U [.p] jC):=ua (t1 e50) Tryz.func16
def e24:Entry P 24 (U [.p] jL):=ua (t2 e45 e61) Tryz.func24
def e7:Entry P 7 (U [] cB):=ua (t6 e9 Zj Zf e16 e24 e25) Tryz.func7
def e8:Entry P 8 (U [.l] eV):=ub [(3,[(2,vb),(3,vi),(6,vl),(7,vi),(8,vi)])] t0 Tryz.func8
def e20:Entry P 20 (U [.g] eH):=ua t0 Tryz.func20
def e52:Entry P 52 (U [.g] bY):=ua t0 Tryz.func52
def e53:Entry P 53 (U [.g] az):=ua t0 Tryz.func53
def e54:Entry P 54 (U [.g] bD):=ua t0 Tryz.func54
def e55:Entry P 55 (U [.g] aQ):=ua t0 Tryz.func55
def e21:Entry P 21 (U [.g] de):=ub [(4,[(1,vq),(2,vb),(16,vl),(17,vi),(18,vi)]),(10,[(1,vq),(2,vb),(32,vl),(33,vi),(34,vi)])] (t4 e52 e53 e54 e55) Tryz.func21
def e56:Entry P 56 (U [.p] dW):=ua t0 Tryz.func56
def acR:Entry P 112 (U [.p] bh):=ub [(1,[(7,vl),(8,vi),(9,vi)])] t0 Tryz.func112
def e57:Entry P 57 (U [.p,.n] gJ):=ua (t1 acR) Tryz.func57
def e58:Entry P 58 (U [.l] iy):=ub [(3,[(2,vl),(3,vl),(6,vl),(7,vi),(8,vi)])] t0 Tryz.func58
def e59:Entry P 59 (U [.l] gY):=ub [(3,[(2,vl),(3,vl),(6,vl),(7,vi),(8,vi)])] t0 Tryz.func59
def acQ:Entry P 113 (U [.g] jv):=ua t0 Tryz.func113
def Ve:Entry P 265 (U [.g,.n] dE):=ua t0 Tryz.func265
def YV:Entry P 209 (U [.g] gu):=ub [(3,[(1,vq),(2,.string .empty),(3,vl),(4,vi)]),(7,[(1,vq),(2,.string .empty),(3,vl),(4,vi),(5,vi),(6,vi)]),(16,[(2,.string .empty),(8,.string .empty),(46,vl),(47,vi),(48,vi)])] (t1 Ve) Tryz.func209
def abD:Entry P 264 (U [.n,.n] jm):=ua t0 Tryz.func264
def ab6:Entry P 206 (U [.g] aB):=ua (t2 YV abD) Tryz.func206
def Vg:Entry P 207 (U [.p,.g] cI):=ub [(2,[(3,vq),(4,vi),(10,vl),(11,vi),(12,vi)])] t0 Tryz.func207
def ab5:Entry P 208 (U [.g,.g] dT):=ua t0 Tryz.func208
def acq:Entry P 157 (U [.p,.g] gL):=ua (t3 ab6 Vg ab5) Tryz.func157
def LO:Entry P 150 (U [.g,.n] aN):=ua t0 Tryz.func150
def Ow:Entry P 159 (U [.g] dL):=ua (t1 LO) Tryz.func159
def ab4:Entry P 210 (U [.g] aK):=ua (t2 LO Ow) Tryz.func210
def Vm:Entry P 158 (U [.g] au):=ua (t4 LO Ow YV ab4) Tryz.func158
def YU:Entry P 211 (U [.p,.g] dU):=ub [(2,[(3,vq),(4,vi),(10,vl),(11,vi),(12,vi)])] t0 Tryz.func211
def YT:Entry P 212 (U [.g,.g] ic):=ua t0 Tryz.func212
def Rx:Entry P 213 (U [.g,.g] fp):=ub [(2,[(2,vq),(3,vq),(4,vb),(5,vi)])] (t1 Ve) Tryz.func213
def Vh:Entry P 203 (U [.g,.g] bK):=ua t0 Tryz.func203
def acu:Entry P 151 (U [.g,.g] fL):=ua (t1 Vh) Tryz.func151
def e99:Entry P 99 (U [.p,.n] aa):=ub [(3,[(4,vq),(5,vq),(21,vl),(22,vi),(23,vi)])] (t2 LO acu) Tryz.func99
def ab3:Entry P 214 (U [.p,.g,.n] dG):=ua (t3 e56 e99 Vg) Tryz.func214
def YR:Entry P 215 (U [.p,.g,.g,.n] dV):=ua t0 Tryz.func215
def acp:Entry P 160 (U [.p,.g] af):=ua (tk LO (tk Vm (tk Ow (tk YU (tk YT (tk Rx (tk ab3 (tk YR t0)))))))) Tryz.func160
def ab2:Entry P 216 (U [.g,.g] ib):=ua (t1 Rx) Tryz.func216
def abC:Entry P 266 (U [] kx):=ua t0 Tryz.func266
def abj:Entry P 292 (U [.g,.n] lq):=ua t0 Tryz.func292
def abB:Entry P 267 (U [.g,.g] c9):=ub [(6,[(2,vq),(3,vq),(4,vq),(5,vb),(6,vq),(7,vi),(8,vi)])] (t3 Rx Ve abj) Tryz.func267
def YQ:Entry P 217 (U [.g,.b] bM):=ua (t3 Vh abC abB) Tryz.func217
def ab1:Entry P 218 (U [.g,.b,.g,.b] aP):=ua (t3 Vh Rx YQ) Tryz.func218
def aco:Entry P 161 (U [.p,.g] aM):=ua (tk e99 (tk LO (tk Vm (tk Ow (tk Vg (tk YU (tk YT (tk YR (tk ab2 (tk YQ (tk ab1 t0))))))))))) Tryz.func161
def acP:Entry P 114 (U [.p,.g] fw):=ua (t5 acq Vm Ow acp aco) Tryz.func114
def e60:Entry P 60 (U [.p,.l] aW):=uc [0] [(3,[(0,vp),(4,vl),(5,vp),(6,vl),(7,vi)]),(5,[(0,vp),(4,vl),(5,vp),(6,vl),(7,vi),(8,vi)]),(15,[(0,vp),(4,vl),(5,vp),(6,vl),(7,vi),(8,vi),(9,vi),(10,vi),(11,vp),(12,vi)]),(21,[(0,vp),(4,vl),(5,vp),(6,vl),(7,vi),(8,vi),(9,vi),(10,vi),(11,vp),(13,vi)])] (t3 e56 acQ acP) Tryz.func60
def e22:Entry P 22 (U [.p,.g] eK):=ua (t6 e52 e56 e57 e58 e59 e60) Tryz.func22
def e96:Entry P 96 (U [.l,.l] ix):=ub [(3,[(4,vl),(5,vl),(10,vl),(11,vi),(12,vi)]),(6,[(4,vl),(5,vl),(7,vq),(10,vl),(11,vi),(12,vi),(16,vl),(17,vi),(18,vi)])] t0 Tryz.func96
def e97:Entry P 97 (U [.l,.l] gX):=ub [(3,[(4,vl),(5,vl),(10,vl),(11,vi),(12,vi)]),(6,[(4,vl),(5,vl),(7,vq),(10,vl),(11,vi),(12,vi),(16,vl),(17,vi),(18,vi)])] t0 Tryz.func97
def e98:Entry P 98 (U [.l,.g] aL):=ub [(3,[(3,vq),(4,vl),(5,vl),(10,vi),(11,vi)])] t0 Tryz.func98
def e37:Entry P 37 (U [.l,.l,.g] jZ):=ua (t4 e53 e96 e97 e98) Tryz.func37
def e38:Entry P 38 (U [.p] dS):=ub [(3,[(2,vl),(3,vl),(9,vi),(10,vi)])] (t1 e99) Tryz.func38
def e39:Entry P 39 (U [.l,.l,.l,.l] eG):=ub [(4,[(8,vb),(24,vi),(25,vi)]),(10,[(8,vb),(39,vi),(40,vi)])] t0 Tryz.func39
def e40:Entry P 40 (U [.l,.l] kv):=ub [(4,[(4,vb),(12,vi),(13,vi)])] t0 Tryz.func40
def e12:Entry P 12 (U [.g,.p,.g] av):=ua (tk e20 (tk e21 (tk e22 (tk e37 (tk e38 (tk e39 (tk e40 t0))))))) Tryz.func12
def acW:Entry P 100 (U [.p,.l,.l,.n,.n] bu):=ub [(4,[(10,vb),(48,vi),(49,vi)]),(10,[(10,vb),(66,vi),(67,vi)])] t0 Tryz.func100
def e41:Entry P 41 (U [.p,.l,.l,.n,.n] gK):=ua (t2 e38 acW) Tryz.func41
def e13:Entry P 13 (U [.p,.p] cO):=ua (t6 e24 e25 e41 e42 e43 e44) Tryz.func13
def e3:Entry P 3 (U [.n,.l,.n] bP):=ub [(9,[(6,vb),(8,vp),(10,vp),(45,vi),(46,vi)]),(11,[(6,vb),(8,vp),(10,vp),(45,vi),(46,vi),(48,vl),(49,vi),(50,vi)])] (tk e7 (tk e8 (tk e9 (tk Zj (tk Zf (tk e12 (tk e13 (tk Zb t0)))))))) Tryz.func3
def e15:Entry P 15 (U [.p] gM):=ua t0 Tryz.func15
def e4:Entry P 4 (U [.n,.l,.n] aR):=ub [(9,[(6,vb),(7,vp),(8,vp),(10,vp),(47,vl),(48,vi),(49,vi)]),(16,[(6,vb),(7,vp),(8,vp),(10,vp),(13,vi),(14,vi),(15,vi)])] (tk e7 (tk e8 (tk e9 (tk Zj (tk Zf (tk e12 (tk e13 (tk Zb (tk e15 (tk e16 t0)))))))))) Tryz.func4
def e17:Entry P 17 (U [.p,.n] jd):=ua t0 Tryz.func17
def e18:Entry P 18 (U [.p] fM):=ua t0 Tryz.func18
def e19:Entry P 19 (U [.p] oG):=ua t0 Tryz.func19
def e5:Entry P 5 (U [.n,.l,.n,.l] aU):=ub [(10,[(8,vb),(9,vp),(10,vp),(12,vp),(58,vl),(59,vi),(60,vi)]),(22,[(8,vb),(9,vp),(10,vp),(12,vp),(15,vi),(89,vl),(90,vi),(91,vi)])] (tk e7 (tk e8 (tk e9 (tk Zj (tk Zf (tk e12 (tk e13 (tk Zb (tk e17 (tk e18 (tk e19 (tk e20 (tk e21 t0))))))))))))) Tryz.func5
def e23:Entry P 23 (U [.p,.i .u64,.n,.n] jk):=uc [3] [(3,[(3,vi),(18,vl),(19,vi),(20,vi)])] t0 Tryz.func23
def e6:Entry P 6 (U [.n,.l] ag):=ub [(12,[(4,vb),(5,vp),(6,vp),(8,vp),(9,vp),(44,vl),(45,vi),(46,vi)])] (tk e7 (tk e8 (tk e9 (tk Zj (tk Zf (tk e12 (tk e13 (tk Zb (tk e15 (tk e17 (tk e18 (tk e20 (tk e22 (tk e23 t0)))))))))))))) Tryz.func6
end Go.Proofs.YtnffemlgkghcfaaGreatDoor
namespace Go.Proofs.YtnffemlgkghcfaaGreatDoor
open Go.ChangeShapes Go.WideShapes Go.ChangeAt Go.RowKit Go.Den Go.Sep Go.Prog Go.Up
def adj(b j:Nat):(ad b 0).add j=⟨b,j,none⟩:=by
 unfold Addr.add;split
 ·rename_i h;rw[h]
 ·simp
def aa'{W:World}(h:laidMetH Tryz.prog Rows.vaultKeepsRow.laid W):pE W:=by
 rw[MakeChecks.laidMetH_plain _ _ _ (by kernel_rfl)] at h;obtain⟨ps,⟨g0,t0,cs0,f0,p0,q0,-,-,-,-,⟨g,t,cs,fuel,p,q,hg,ht,hv,hd,⟨g2,t2,OC,adq,p2,q2,Mt,Im,Q2,PI,-,-⟩,-⟩,-⟩,-,-⟩:=h;obtain rfl:=aeh.inj ((show Tryz.prog.globalNamed "bondstore/wide.Most"=some 0 by kernel_rfl).symm.trans hg);obtain rfl:=aeh.inj ((show(Tryz.prog.globals[0]?).map (·.type)=some 40 by kernel_rfl).symm.trans ht);obtain rfl:=aeh.inj ((show Tryz.prog.globalNamed "bondstore/hold.told"=some 2 by kernel_rfl).symm.trans Mt);obtain rfl:=aeh.inj ((show(Tryz.prog.globals[2]?).map (·.type)=some 348 by kernel_rfl).symm.trans Im);have c38:Tryz.prog.cellsOf 38=1:=by kernel_rfl
 have c3:Tryz.prog.cellsOf 176=1:=by kernel_rfl
 have c40:Tryz.prog.cellsOf 40=2:=by kernel_rfl
 have ac2:Tryz.prog.cellsOf 348=5:=by kernel_rfl
 refine⟨?_,?_⟩
 ·obtain⟨y0,y1,n,ex,hl,k0,k1⟩:=trod_struct2 Tryz.underlying40 hd;rw[c40] at hl;obtain⟨l⟩:=cs
  match l,hl with
  |[a,b],_=>
   have e3:=(DataW.agg.inj (Prod.mk.inj ex).1);simp only[List.cons.injEq,and_true] at e3;rw[c38] at k0 k1;obtain⟨z0,a0,b0,_⟩:=DataW.trod_int Tryz.underlying38 k0;obtain⟨z1,a1,b1,_⟩:=DataW.trod_int Tryz.underlying38 k1;have hc:∀i,W.cell? ⟨0,i,none⟩=[a,b][i]?:=λi=>by rw[World.var?_cell hg hv i];simp
   simp at a0 a1;subst b0 b1 a0 a1;simp only[DataW.lit.injEq,Lit.int.injEq,true_and] at e3;obtain⟨rfl,rfl⟩:=e3;intro j v hj;rw[adj,hc];exact hj
 ·obtain⟨xs,m,_,ex,hlen,hl,X8⟩:=DataW.trod_array Tryz.underlying348 PI;rw[ac2] at hlen;obtain⟨l⟩:=OC
  match l,hlen with
  |[a,b,c,d,e],_=>
   match xs,hl with
   |[x0,x1,x2,x3,x4],_=>
    have e3:=(DataW.agg.inj (Prod.mk.inj ex).1);simp only[aez,afw,List.cons.injEq,and_true] at e3;have k0:=X8 0 (by omega);have k1:=X8 1 (by omega);have k2:=X8 2 (by omega);have k3:=X8 3 (by omega);have k4:=X8 4 (by omega);rw[c3] at k0 k1 k2 k3 k4;obtain⟨z0,a0,b0,_⟩:=DataW.trod_int Tryz.underlying176 k0;obtain⟨z1,a1,b1,_⟩:=DataW.trod_int Tryz.underlying176 k1;obtain⟨z2,a2,b2,_⟩:=DataW.trod_int Tryz.underlying176 k2;obtain⟨z3,a3,b3,_⟩:=DataW.trod_int Tryz.underlying176 k3;obtain⟨z4,a4,b4,_⟩:=DataW.trod_int Tryz.underlying176 k4;have hc:∀i,W.cell? ⟨2,i,none⟩=[a,b,c,d,e][i]?:=λi=>by rw[World.var?_cell Mt Q2 i];simp
    simp at a0 a1 a2 a3 a4;subst b0 b1 b2 b3 b4 a0 a1 a2 a3 a4;simp only[DataW.lit.injEq,Lit.int.injEq,true_and] at e3;obtain⟨rfl,rfl,rfl,rfl,rfl⟩:=e3;intro j v hj;rw[adj,hc];exact hj
end Go.Proofs.YtnffemlgkghcfaaGreatDoor
namespace Go.Proofs.YtnffemlgkghcfaaGreatDoor
open Go.Sep Go.Den Go.RowKit Go.Prog Go.Up
def Cb{W:World}{a0:Int}{b1:OA}{n1 c1:Nat}{xs1:LV}(G:pE W)(hr1:Ro W b1 n1 18 xs1)(he1:∀i,i<n1->MD W KB xs1 (i* 18))(UK:n1<=maxLen):
 U [.n,.l] ag [.i a0,.l b1 n1 c1] (λv w'=>v=.bool true/\Below W.heap.size W w') W:=by
 obtain⟨l1,rfl,h1,k1⟩:=aag hr1 he1;exact EZ (K:=λv w'=>v=.bool true/\Below W.heap.size W w') (W:=W) (L:=[]) G h1 UK k1 (λw hs=>⟨rfl,hs.1⟩) W (St.start W)
end Go.Proofs.YtnffemlgkghcfaaGreatDoor
