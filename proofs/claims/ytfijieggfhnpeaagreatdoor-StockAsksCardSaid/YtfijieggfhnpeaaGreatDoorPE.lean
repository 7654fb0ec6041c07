/- Part of the proof: see the last text. -/
import Derived.Test.YtfijieggfhnpeaaGreatDoorPC
import Derived.Test.YtfijieggfhnpeaaGreatDoorPD
import Derived.Test.YtfijieggfhnpeaaGreatDoorProg
import Derived.Test.YtfijieggfhnpeaaGreatDoorPB
import Derived.Laws.Externs
import Derived.Shelf.Strings.Builder2
import Derived.Shelf.Strings.Repeat
import Derived.Test.YtfijieggfhnpeaaGreatDoorRows
import Derived.ChangeSame
import Derived.MakeChecks
import Derived.LaidMore
set_option linter.all false
set_option maxRecDepth 100000
set_option synthInstance.maxSize 100000
open Array renaming replicate→gw
open Go.IntKind renaming i64→ag
open Int renaming eq_ofNat_of_zero_le→bD
open List renaming Perm→bA,map_cons→fq
open Nat renaming le_of_ble_eq_true→aH
open Option renaming some→bj
namespace Go.Proofs.YtfijieggfhnpeaaGreatDoor
open Go.Den Go.Prog Go.RowKit
noncomputable def T82:CQ:=[(139,c9.u),(140,qx.u),(141,cZ.u)]
noncomputable abbrev Fv:Den.Fn:=⟨Tryz.prog,T82,[],20,[],[]⟩
noncomputable def Yy:Code:=(Tryz.f94.body).getD .skip
noncomputable def q0:Code:=Ch Yy
noncomputable def q1:Code:=Ch (uS Yy)
noncomputable def q2:Code:=Ch (uS (uS Yy))
noncomputable def q3:Code:=Ch (Ch (uS (uS (uS Yy))))
noncomputable def rf:Code:=inC (uS (Ch (uS (uS (uS Yy)))))
noncomputable def KN:Code:=afL rf
noncomputable def bd:Code:=afH rf
noncomputable def q7:Code:=Ch (uS (uS (uS (uS Yy))))
def XF:Tryz.f94.body=some (.seq q0 (.seq q1 (.seq q2 (.seq (.seq q3 (.block 0 (.rangeFunc (.tmp 11) #[12] KN bd))) (.seq q7 .ret))))):=by kernel_rfl
def E2:drawn q0=false/\drawn q1=false/\drawn q2=false/\drawn q3=false/\drawn KN=false/\drawn bd=false/\drawn q7=false:=⟨by kernel_rfl,by kernel_rfl,by kernel_rfl,by kernel_rfl,by kernel_rfl,by kernel_rfl,by kernel_rfl⟩
def n82:Tryz.f94.ntmps=20/\Tryz.f94.results=#[.tmp 4]:=⟨by kernel_rfl,by kernel_rfl⟩
def d0(Q:Exit->Env->WK)(p:OA)(n:Int):den Fv q0 Q [(1,.i n),(0,.pointer p)]=mk [.pointer p] (λr=>Q .normal [(4,.i 0),(2,.pointer (some (ad r 0))),(1,.i n),(0,.pointer p)]):=by kernel_rfl
def d1(Q:Exit->Env->WK)(r:Nat)(n:Int)(e:Env):den Fv q1 Q ((4,.i 0)::(2,.pointer (some (ad r 0)))::(1,.i n)::e)=
 ld (ad r 0) (xP λp=>c9 p n (x0 (Q .normal ((9,.tuple ⟨[]⟩)::(8,.i n)::(7,.pointer p)::(4,.i 0)::(2,.pointer (some (ad r 0)))::(1,.i n)::e)))):=by kernel_rfl
def d2(Q:Exit->Env->WK)(e:Env):den Fv q2 Q e=mk [.i 0] (λr=>st (ad r 0) (.i 0) (Q .normal ((5,.pointer (some (ad r 0)))::e))):=by kernel_rfl
def d3(Q:Exit->Env->WK)(r5 r:Nat)(v9 v8 v7 v4:Value)(e:Env):den Fv q3 Q ((5,.pointer (some (ad r5 0)))::(9,v9)::(8,v8)::(7,v7)::(4,v4)::(2,.pointer (some (ad r 0)))::e)=
 ld (ad r 0) (xP λp=>qx p (λv=>Q .normal ((11,v)::(10,.pointer p)::(5,.pointer (some (ad r5 0)))::(9,v9)::(8,v8)::(7,v7)::(4,v4)::(2,.pointer (some (ad r 0)))::e))):=by kernel_rfl
def das(Q:Exit->Env->WK)(cs:LV)(e:Env):den Fv KN Q ((12,.agg ⟨cs⟩)::e)=mk [.u 0,.u 0,.u 0,.u 0,.u 0,.u 0,.u 0,.u 0,.u 0,.u 0,.i 0,.i 0,.i 0,.i 0,.i 0,.i 0] (λr=>aY (cs.length=16) (fH (ad r 0) cs (Q .normal ((6,.pointer (some (ad r 0)))::(12,.agg ⟨cs⟩)::e)))):=by kernel_rfl
def dbd(Q:Exit->Env->WK)(r6 r5 r2:Nat)(cs:LV)(e:Env):den Fv bd Q ((6,.pointer (some (ad r6 0)))::(12,.agg ⟨cs⟩)::(5,.pointer (some (ad r5 0)))::(2,.pointer (some (ad r2 0)))::e)=
 ld (ad r2 0) (xP λp=>aD (ad r6 0) 16 (λuE=>aY True (cZ p uE [.u 0,.u 0] 4 (x0 (ld (ad r5 0) (xI .i64 λn=>st (ad r5 0) (.i (ag.wrap (n+1))) (Q .normal ((18,.i (ag.wrap (n+1)))::(17,.i n)::(16,.tuple ⟨[]⟩)::(15,.agg ⟨[.u 0,.u 0]⟩)::(14,.agg ⟨uE⟩)::(13,.pointer p)::(6,.pointer (some (ad r6 0)))::(12,.agg ⟨cs⟩)::(5,.pointer (some (ad r5 0)))::(2,.pointer (some (ad r2 0)))::e)))))))):=by kernel_rfl
def d7(Q:Exit->Env->WK)(r5:Nat)(e:Env):den Fv q7 Q ((5,.pointer (some (ad r5 0)))::e)=ld (ad r5 0) (xI .i64 λn=>Q .normal ((4,.i n)::(19,.i n)::(5,.pointer (some (ad r5 0)))::e)):=by kernel_rfl
noncomputable def XX:CQ:=[(188,dB.u)]
noncomputable abbrev wJ:Den.Fn:=⟨Tryz.prog,XX,[],22,[],[]⟩
noncomputable def abY:Code:=(Tryz.f187.body).getD .skip
noncomputable def s0:Code:=Ch abY
noncomputable def lb:Code:=inC (inC (uS abY))
noncomputable def s1:Code:=Ch lb
noncomputable def s3:Code:=Ch (inC (Ch (uS lb)))
noncomputable def s4:Code:=uS (uS lb)
def SU:Tryz.f187.body=some (.seq s0 (.block 0 (.loop (.seq s1 (.seq (.block 1 (.seq (.region 3 (BS s3) false) (.cond (.tmp 20) .ret .skip))) s4))))):=by kernel_rfl
def Cm:drawn s0=false/\drawn s1=false/\drawn s4=false:=⟨by kernel_rfl,by kernel_rfl,by kernel_rfl⟩
def n193:Tryz.f187.ntmps=22/\Tryz.f187.results=#[]:=⟨by kernel_rfl,by kernel_rfl⟩
def ds0(Q:Exit->Env->WK)(y:Value)(r1:Nat):den wJ s0 Q [(1,.pointer (some (ad r1 0))),(0,y)]=
 ld (ad r1 0) (xP λp=>dB p (x2 λv1 v2=>(xA 33 λcs=>(xB λb=>mk [.u 0,.u 0,.u 0,.u 0,.u 0,.u 0,.u 0,.u 0,.u 0,.u 0,.i 0,.i 0,.i 0,.i 0,.i 0,.i 0,.u 0,.u 0,.u 0,.u 0,.u 0,.u 0,.u 0,.u 0,.u 0,.u 0,.i 0,.i 0,.i 0,.i 0,.i 0,.i 0,.i 0] (λr=>aY (cs.length=33) (fH (ad r 0) cs (Q .normal ((4,.bool b)::(3,.pointer (some (ad r 0)))::(9,.bool b)::(8,.agg ⟨cs⟩)::(5,.tuple ⟨[.agg ⟨cs⟩,.bool b]⟩)::(7,.tuple ⟨[.agg ⟨cs⟩,.bool b]⟩)::(6,.pointer p)::[(1,.pointer (some (ad r1 0))),(0,y)]))))) v2) v1)):=by kernel_rfl
def ds1(Q:Exit->Env->WK)(b:Bool)(e:Env):den wJ s1 Q ((4,.bool b)::e)=br b (Q .normal ((10,.bool b)::(4,.bool b)::e)) (Q (.exit 0) ((10,.bool b)::(4,.bool b)::e)):=by kernel_rfl
def ds3(K:Env->WK)(r3 r1:Nat)(y:Value)(v4:Value):vm wJ (BS s3) ((BS s3).toList.take 3) K ((4,v4)::(3,.pointer (some (ad r3 0)))::(1,.pointer (some (ad r1 0)))::[(0,y)])=
 aD (ad r3 16) 16 (λcs=>K ((18,.agg ⟨cs⟩)::(17,.pointer (some (ad r3 16)))::(16,y)::(4,v4)::(3,.pointer (some (ad r3 0)))::(1,.pointer (some (ad r1 0)))::[(0,y)])):=by kernel_rfl
noncomputable def o3:Oper:=((BS s3)[3]?).getD ⟨none,.move (.tmp 0),0,"",#[],none⟩
def I5:(BS s3)[3]?=some o3/\o3.dst=some 19/\o3.op=.call {callee:=.value (.tmp 16),args:=#[.tmp 18],argTypes:=#[60]}/\o3.guard=none/\(BS s3).size=5:=⟨by kernel_rfl,by kernel_rfl,by kernel_rfl,by kernel_rfl,by kernel_rfl⟩
def afj(K:Env->WK)(b:Bool)(e:Env):vm wJ (BS s3) ((BS s3).toList.drop 4) K ((19,.bool b)::e)=K ((20,.bool (!b))::(19,.bool b)::e):=by kernel_rfl
def ds4(Q:Exit->Env->WK)(r3 r1:Nat)(y:Value):den wJ s4 Q ((3,.pointer (some (ad r3 0)))::(1,.pointer (some (ad r1 0)))::[(0,y)])=
 aD (ad r3 0) 33 (λcs0=>mk [.u 0,.u 0,.u 0,.u 0,.u 0,.u 0,.u 0,.u 0,.u 0,.u 0,.i 0,.i 0,.i 0,.i 0,.i 0,.i 0,.u 0,.u 0,.u 0,.u 0,.u 0,.u 0,.u 0,.u 0,.u 0,.u 0,.i 0,.i 0,.i 0,.i 0,.i 0,.i 0,.i 0] (λr=>aY (cs0.length=33) (fH (ad r 0) cs0 (ld (ad r1 0) (xP λp=>dB p (x2 λv1 v2=>(xA 33 λcs=>(xB λb=>aY (cs.length=33) (fH (ad r 0) cs (Q .normal ((4,.bool b)::(15,.bool b)::(14,.agg ⟨cs⟩)::(11,.tuple ⟨[.agg ⟨cs⟩,.bool b]⟩)::(13,.tuple ⟨[.agg ⟨cs⟩,.bool b]⟩)::(12,.pointer p)::(3,.pointer (some (ad r 0)))::(21,.agg ⟨cs0⟩)::(3,.pointer (some (ad r3 0)))::(1,.pointer (some (ad r1 0)))::[(0,y)])))) v2) v1)))))):=by kernel_rfl
end Go.Proofs.YtfijieggfhnpeaaGreatDoor
namespace Go.Proofs.YtfijieggfhnpeaaGreatDoor
open Go.Sep Go.Den Go.RowKit Go.Prog Go.Md Go.bE Go.Up
section
variable {W:World} {L:LH} {a:Nat} {m0:aK}
def X2(m0:aK)(b:Up.aO)(hs:List C)(k:Nat):Prop:=∃m,mC b m/\Md.cR m/\X' m0 m/\BR m0.clock m.ax=k/\hs.length+4* k<=150000
def Xe:pH Tryz.prog []:=pH.nil
abbrev Mem(a l D r1 rn r0:Nat)(r:Loop)(n:Int)(b:Up.aO)(hs:List C)(L:LH):LH:=
 ob l (.loop r)::ob D (.deferred (some []))::Sep.pt r1 [.pointer (some (ad a 0))]::Sep.pt rn [.i n]::Sep.pt r0 [.pointer (some (ad a 0))]::bX a (b,hs)::L
def Ou(hT:kN Tryz.prog T82)(hm:Tryz.prog.follows .mixedOrders=true){fn:FuncId}{tmps:Array Value}{D l r0 r1 rn j k:Nat}{r:Loop}
 (hr:r={state:=.ready,pending:=none,fn:=fn,tmps:=tmps,params:=#[12],assign:=KN,body:=bd,defers:=D})(h20:tmps.size=20)
 (h5:tmps[5]?=some (.pointer (some (ad rn 0))))(h2:tmps[2]?=some (.pointer (some (ad r0 0)))){P3:HP}{n:Int}{b:Up.aO}{hs:List C}{x:Md.bS}{w:World}
 (l7:St W w (P3::Mem a l D r1 rn r0 r n b hs L))(Cb:X2 m0 b hs k)(hx:x∈b.ax)(ho:lE b.clock x){R:Ending->World->Prop}
 (hR:∀n' b' dM k' w',k'<k->X2 m0 b' dM k'->St W w' (P3::Mem a l D r1 rn r0 r n' b' dM L)->R (.returned (.bool true)) w'):
 RoundIn Fence.wide j Tryz.prog l fn (tmps.setIfInBounds 12 (.agg ⟨aX x.move⟩)) KN bd w R:=by
 refine roundIn_of_wpIn trivial ?_;have okF:Ok Fv:=⟨hT,Xe,hm⟩;have bW:12<tmps.size:=by omega
 have s3:S3 Fv [] [(12,.agg ⟨aX x.move⟩),(5,.pointer (some (ad rn 0))),(2,.pointer (some (ad r0 0)))] {tmps:=tmps.setIfInBounds 12 (.agg ⟨aX x.move⟩),defers:=[]}:=by
  refine S3.cons ?_ (S3.cons ?_ (S3.cons ?_ (S3.start rfl ?_)))
  ·show(tmps.setIfInBounds 12 _)[12]?=_;simp[bW]
  ·show(tmps.setIfInBounds 12 _)[5]?=_;rw[Array.getElem?_setIfInBounds_ne (by decide)];exact h5
  ·show(tmps.setIfInBounds 12 _)[2]?=_;rw[Array.getElem?_setIfInBounds_ne (by decide)];exact h2
  ·show(tmps.setIfInBounds 12 _).size=20;simp[h20]
 refine AV (F:=Fv) (.inr ⟨l,rfl⟩) okF E2.2.2.2.2.1 s3 ?_;rw[das];obtain⟨m,su,hg,adx,hov,hlen⟩:=Cb;refine T.at ?_ l7;refine jy λr6=>?_;apply ws;intros;intro w1 xC a1 W8;have hl1:=(xC.obj (k:=2) (b:=l) (o:=.loop r) rfl).1;refine⟨_,run_beginRound hl1 (by rw[hr]),?_⟩;have gJ:=xC.put (k:=2) (b:=l) (o:=.loop r) (.loop {r with state:=.busy}) rfl (by simp);refine AV (F:=Fv) (.inr ⟨l,rfl⟩) okF E2.2.2.2.2.2.1 W8 ?_;rw[dbd];refine T.at ?_ gJ;show T W (Sep.pt r6 (aX x.move)::P3::Mem a l D r1 rn r0 {r with state:=.busy} n b hs L) _;obtain⟨Yn,Ni,m',ES,ZQ,Pk,agv⟩:=Lz su hg adx hx ho;obtain⟨⟨d,hd,-,-⟩,⟨c,hc,-,-⟩,hZ⟩:=Ni;refine nG (p:=a) λm9=>?_;have kg:=m9.O8 x hx;apply ws;intros;show T W _ (cZ (some ⟨a,0,none⟩) (aX x.move) (nm 0) 4 _);refine Dy (p:=a) (k:=x) Yn ho.1 kg.Gs kg.move.aZ (by decide) hd hc hZ (.inr (.inr rfl)) (λh=>aR h (by decide)) (λh=>aR h (by decide)) (by omega) λdM hx'=>?_;apply ws;intros;intro w3 y8 a3 Yv;subst hr;have QN:=(y8.obj (k:=2) (b:=l) (o:=.loop {state:=.busy,pending:=none,fn:=fn,tmps:=tmps,params:=#[12],assign:=KN,body:=bd,defers:=D}) rfl).1;refine⟨_,_,run_endRound none QN,?_⟩;have A3:=(y8.put (k:=2) (b:=l) (o:=.loop {state:=.busy,pending:=none,fn:=fn,tmps:=tmps,params:=#[12],assign:=KN,body:=bd,defers:=D}) (.loop {state:=.ready,pending:=none,fn:=fn,tmps:=tmps,params:=#[12],assign:=KN,body:=bd,defers:=D}) rfl (by simp)).drop;have:=hx'.len;exact hR _ _ _ _ _ (by omega) ⟨m',ES,ZQ,Pk,rfl,by omega⟩ A3
abbrev yv(l:Nat):Value:=.func (.yield l) #[] #[]
abbrev PF(b:Bool)(r3 r1 l:Nat):Env:=(4,.bool b)::(3,.pointer (some (ad r3 0)))::(1,.pointer (some (ad r1 0)))::[(0,yv l)]
def Xt(hT:kN Tryz.prog T82)(W9:kN Tryz.prog XX)(hm:Tryz.prog.follows .mixedOrders=true){fn:FuncId}{tmps:Array Value}{D l r0 r1 rn j:Nat}{r:Loop}
 (hr:r={state:=.ready,pending:=none,fn:=fn,tmps:=tmps,params:=#[12],assign:=KN,body:=bd,defers:=D})(h20:tmps.size=20)
 (h5:tmps[5]?=some (.pointer (some (ad rn 0))))(h2:tmps[2]?=some (.pointer (some (ad r0 0)))){n:Int}{b:Up.aO}{hs:List C}{k:Nat}{w:World}
 (l7:St W w (Mem a l D r1 rn r0 r n b hs L))(Cb:X2 m0 b hs k){R:Ending->World->Prop}
 (hR:∀n' b' dM k' w',X2 m0 b' dM k'->(∀x∈b'.ax,¬lE b'.clock x)->St W w' (Mem a l D r1 rn r0 r n' b' dM L)->R (.returned (.tuple #[])) w'):
 CallsIn Fence.wide j Tryz.prog 187 #[yv l,.pointer (some (ad r1 0))] w R:=by
 refine callsIn_of_wp Tryz.func187 SU trivial ?_ rfl;have okF:Ok wJ:=⟨W9,Xe,hm⟩;have s0':S3 wJ [] [(1,.pointer (some (ad r1 0))),(0,yv l)] {tmps:=#[yv l,.pointer (some (ad r1 0))]++gw (Tryz.f187.ntmps-2) undef,defers:=[]}:=by
  rw[n193.1];refine S3.cons ?_ (S3.cons ?_ (S3.start rfl ?_))
  ·show(#[yv l,.pointer (some (ad r1 0))]++gw 20 undef)[1]?=_;simp
  ·show(#[yv l,.pointer (some (ad r1 0))]++gw 20 undef)[0]?=_;simp
  ·show(#[yv l,.pointer (some (ad r1 0))]++gw 20 undef).size=22;simp
 refine w9 (F:=wJ) (.inl rfl) okF Cm.1 s0' ?_;rw[ds0];have main:∀(bb:Bool)(x:Md.bS)(r3:Nat)(n:Int)(b:Up.aO)(hs:List C)(k:Nat)(w:World)(a1:Act),S3 wJ [] (PF bb r3 r1 l) a1->St W w (Sep.pt r3 (bU x)::Mem a l D r1 rn r0 r n b hs L)->X2 m0 b hs k->
                                                 (if bb then x∈b.ax/\lE b.clock x else ∀x∈b.ax,¬lE b.clock x)->
                                                 (Code.block 0 (.loop (.seq s1 (.seq (.block 1 (.seq (.region 3 (BS s3) false) (.cond (.tmp 20) .ret .skip))) s4)))).wpIn Fence.wide j Tryz.prog (bodyPost Tryz.prog Tryz.f187 R) a1 w:=by
  intro bb x r3 n b hs k w a1 W8 uy Cb Yt;refine wpIn_block (FG (λk a1 w=>∃(bb:Bool)(x:Md.bS)(r3:Nat)(n:Int)(b:Up.aO)(hs:List C),S3 wJ [] (PF bb r3 r1 l) a1/\St W w (Sep.pt r3 (bU x)::Mem a l D r1 rn r0 r n b hs L)/\X2 m0 b hs k/\
   (if bb then x∈b.ax/\lE b.clock x else ∀x∈b.ax,¬lE b.clock x)) ⟨k,bb,x,r3,n,b,hs,W8,uy,Cb,Yt⟩ ?_)
  rintro k a1 w ⟨bb,x,r3,n,b,hs,W8,uy,Cb,Yt⟩;refine w9 (F:=wJ) (.inl rfl) okF Cm.2.1 W8 ?_;rw[ds1];cases bb with
  |false=>
   rw[fo];intro a2 Pr;show bodyPost Tryz.prog Tryz.f187 R .normal a2 w;refine⟨Pr.2,_,results_none n193.2 _ _ _,?_⟩;exact hR _ _ _ _ _ Cb Yt uy.drop
  |true=>
   rw[jm];obtain⟨hx,ho⟩:=Yt;intro a2 Pr;have Pr:S3 wJ [] (PF true r3 r1 l) a2:=S3.cons (Pr.get rfl) (S3.cons (Pr.get rfl) (S3.cons (Pr.get rfl) (S3.cons (Pr.get rfl) Pr.nil)));show(Code.seq (.block 1 (.seq (.region 3 (BS s3) false) (.cond (.tmp 20) .ret .skip))) s4).wpIn Fence.wide j Tryz.prog _ a2 w;refine wpIn_seq (wpIn_block (wpIn_seq ?_));refine Dz (F:=wJ) (.inl rfl) okF 3 (by rw[I5.2.2.2.2];decide) Pr ?_ ?_ (K:=λe w'=>St W w' (Sep.pt r3 (bU x)::Mem a l D r1 rn r0 r n b hs L)/\e=(18,.agg ⟨aX x.move⟩)::(17,.pointer (some (ad r3 16)))::(16,yv l)::PF true r3 r1 l)
   ·rw[ds3];refine T.at ?_ uy;apply ws;intros;exact λw' dM=>⟨dM,rfl⟩
   ·rintro e a3 w3 Yv ⟨Zn,rfl⟩;rw[I5.2.2.2.2];show wpOpsIn Fence.wide j Tryz.prog (BS s3) _ [3,4] a3 w3;rw[wpOpsIn_cons];unfold wpOpIn;simp only[I5.1];rw[aj (by simp[Region.wanted,I5.2.2.2.1])];refine⟨λf _=>trivial,?_⟩;have hl:=(Zn.obj (k:=1) (b:=l) (o:=.loop r) rfl).1;have e16:a3.eval (.tmp 16)=yv l:=Yv.eval rfl;have e18:a3.eval (.tmp 18)=.agg ⟨aX x.move⟩:=Yv.eval rfl;rw[show Fence.wide.round=none from rfl,Oper.semAt_none,C1 I5.2.2.1 e16,run_yield hl (by rw[hr];simp),Oper.uponIn_round];refine⟨λh=>(by cases h),?_⟩;have e2:((r.params.zip (#[Operand.tmp 18].map a3.eval)).foldl (λtmps(t,a)=>tmps.setIfInBounds t a) r.tmps)=tmps.setIfInBounds 12 (.agg ⟨aX x.move⟩):=by
     rw[hr];simp[e18]
    rw[e2,show r.fn=fn by rw[hr],show r.assign=KN by rw[hr],show r.body=bd by rw[hr]];refine Ou (W:=W) (L:=L) (a:=a) (m0:=m0) hT hm hr h20 h5 h2 Zn Cb hx ho λn' b' dM k' w' Aj Kq adi=>?_;dsimp only;rw[I5.2.1];have QV:=S3.put (v:=.bool true) w' (t:=19) Yv rfl;refine Q5 (F:=wJ) (.inl rfl) okF 4 (by rw[I5.2.2.2.2];decide) QV ?_ ?_ (K:=λe YF=>YF=w'/\e=(20,.bool false)::(19,.bool true)::(18,.agg ⟨aX x.move⟩)::(17,.pointer (some (ad r3 16)))::(16,yv l)::PF true r3 r1 l)
    ·rw[afj];exact⟨rfl,rfl⟩
    ·rintro e a5 w5 W7 ⟨rfl,rfl⟩;show(Code.cond (.tmp 20) .ret .skip).wpIn Fence.wide j Tryz.prog _ a5 w5;refine wpIn_cond_false (W7.eval rfl) (wpIn_skip ?_);show s4.wpIn Fence.wide j Tryz.prog _ a5 w5;have ha6:S3 wJ [] ((3,.pointer (some (ad r3 0)))::(1,.pointer (some (ad r1 0)))::[(0,yv l)]) a5:=S3.cons (W7.get rfl) (S3.cons (W7.get rfl) (S3.cons (W7.get rfl) W7.nil));refine AV (F:=wJ) (.inl rfl) okF Cm.2.2 ha6 ?_;rw[ds4];refine T.at ?_ adi;apply ws;intros;rename_i r4;refine Ot (p:=a) (λy hy hoy=>?_) (λET=>?_)
     ·apply ws;intros;intro w7 QK a7 Al;refine⟨k',Aj,true,y,r4,n',b',dM,S3.cons (Al.get rfl) (S3.cons (Al.get rfl) (S3.cons (Al.get rfl) (S3.cons (Al.get rfl) Al.nil))),?_,Kq,⟨hy,hoy⟩⟩;exact(QK.perm (bA.swap _ _ _)).drop
     ·apply ws;intros;intro w7 QK a7 Al;refine⟨k',Aj,false,zK,r4,n',b',dM,S3.cons (Al.get rfl) (S3.cons (Al.get rfl) (S3.cons (Al.get rfl) (S3.cons (Al.get rfl) Al.nil))),?_,Kq,ET⟩;exact(QK.perm (bA.swap _ _ _)).drop
 refine T.at ?_ l7;apply ws;intros;refine Ot (p:=a) (λy hy hoy=>?_) (λET=>?_)
 ·apply ws;intros;rename_i r4;intro w7 QK a7 Al;exact main true y r4 n b hs k w7 a7 (S3.cons (Al.get rfl) (S3.cons (Al.get rfl) (S3.cons (Al.get rfl) (S3.cons (Al.get rfl) Al.nil)))) QK Cb ⟨hy,hoy⟩
 ·apply ws;intros;rename_i r4;intro w7 QK a7 Al;exact main false zK r4 n b hs k w7 a7 (S3.cons (Al.get rfl) (S3.cons (Al.get rfl) (S3.cons (Al.get rfl) (S3.cons (Al.get rfl) Al.nil)))) QK Cb ET
end
def eHT(hm:Tryz.prog.follows .mixedOrders=true)(eU:aE Tryz.prog 139 c9.u)(eF:aE Tryz.prog 140 qx.u)(eR:aE Tryz.prog 141 cZ.u)(eD:aE Tryz.prog 188 dB.u):aE Tryz.prog 94 ri.u:=by
 have hT:kN Tryz.prog T82:=⟨.inl eU,.inl eF,.inl eR,trivial⟩;have W9:kN Tryz.prog XX:=⟨.inl eD,trivial⟩;refine⟨⟨_,Tryz.func94,by kernel_rfl,by kernel_rfl⟩,λargs K w h=>?_⟩;unfold ri.u at h;split at h
 rotate_left
 ·exact h.elim
 rename_i p now;obtain⟨W,L,a,b,m,hs,rfl,uy,su,hg,hlen,hk⟩:=h;refine(callsIn_wide (n:=0)).1 (callsIn_of_wp_marks Tryz.func94 XF trivial ?_ rfl);have okF:Ok Fv:=⟨hT,Xe,hm⟩;obtain⟨dr0,dr1,dr2,dr3,-,-,dr7⟩:=E2;have s0':S3 Fv [] [(1,.i now),(0,.pointer (some ⟨a,0,none⟩))] {tmps:=⟨[.pointer (some ⟨a,0,none⟩),.i now]⟩++gw (Tryz.f94.ntmps-2) undef,defers:=[]}:=by
  rw[n82.1];refine S3.cons ?_ (S3.cons ?_ (S3.start rfl ?_))
  ·show(#[Value.pointer (some ⟨a,0,none⟩),.i now]++gw 18 undef)[1]?=_;simp
  ·show(#[Value.pointer (some ⟨a,0,none⟩),.i now]++gw 18 undef)[0]?=_;simp
  ·show(#[Value.pointer (some ⟨a,0,none⟩),.i now]++gw 18 undef).size=20;simp
 refine w9 (F:=Fv) (.inl rfl) okF dr0 s0' ?_;rw[d0];refine T.at ?_ uy;refine jy λr0=>?_;intro w1 xC a1 W8;refine w9 (F:=Fv) (.inl rfl) okF dr1 W8 ?_;rw[d1];refine T.at ?_ xC;refine ma rfl (vd ?_);refine Rh (p:=a) (by omega) λZq T0=>za ?_;have hl1:=T0.len;intro w2 gJ a2 Pr;refine w9 (F:=Fv) (.inl rfl) okF dr2 Pr ?_;rw[d2];refine T.at ?_ gJ;refine jy λrn=>?_;apply ws;intros;intro w3 y8 a3 Yv;refine wpIn_seq (w9 (F:=Fv) (.inl rfl) okF dr3 Yv ?_);rw[d3];refine T.at ?_ y8;refine ma rfl (vd ?_);unfold qx;refine jy λr1=>?_;intro w4 A3 a4 QV;have A3:St W w4 (Sep.pt r1 [.pointer (some (ad a 0))]::Sep.pt rn [.i 0]::Sep.pt r0 [.pointer (some (ad a 0))]::bX a (Go.Up.tick b now,Zq)::L):=A3;show(Code.block 0 (.rangeFunc (.tmp 11) #[12] KN bd)).wpIn Fence.wide 0 Tryz.prog _ a4 w4;refine wpIn_block ?_;refine OB rfl (g:=.tmp 11) (gf:=187) (QV.eval rfl) Tryz.func187 (by kernel_rfl) (by kernel_rfl) λfn=>?_;have ho1:=(A3.Y6 (.deferred (some [])) (by simp)).Y6 (.loop {state:=.ready,pending:=none,fn:=fn,tmps:=a4.tmps,params:=#[12],assign:=KN,body:=bd,defers:=w4.heap.size}) (by simp);rw[World.size_alloc] at ho1;have Cb:X2 (te m now) (Go.Up.tick b now) Zq (BR (te m now).clock (te m now).ax):=⟨te m now,MO su now,Hw hg now,X'.refl _,rfl,by
  have:BR (te m now).clock (te m now).ax<=96:=Nat.le_trans (List.length_filter_le _ _) hg.some_
  omega⟩
 refine Xt (W:=W) (L:=L) (a:=a) (m0:=te m now) (r0:=r0) (rn:=rn) (D:=w4.heap.size) (tmps:=a4.tmps) hT W9 hm rfl QV.1.1.size (QV.get rfl) (QV.get rfl) ho1 Cb λn' b' dM k' w5 Kq ET T2=>?_;have hl5:=(T2.obj (k:=0) (b:=w4.heap.size+1) rfl).1;refine⟨_,_,run_endLoop hl5 (by simp),?_⟩;show Exit.inBlock 0 _ .normal _ _;have hs6:=T2.put (k:=0) (b:=w4.heap.size+1) (.loop {state:=.exhausted,pending:=none,fn:=fn,tmps:=a4.tmps,params:=#[12],assign:=KN,body:=bd,defers:=w4.heap.size}) rfl (by simp);have hs6:St W _ (ob (w4.heap.size+1) (.loop {state:=.exhausted,pending:=none,fn:=fn,tmps:=a4.tmps,params:=#[12],assign:=KN,body:=bd,defers:=w4.heap.size})::ob w4.heap.size (.deferred (some []))::Sep.pt r1 [.pointer (some (ad a 0))]::Sep.pt rn [.i n']::Sep.pt r0 [.pointer (some (ad a 0))]::bX a (b',dM)::L):=hs6;show(Code.seq q7 .ret).wpIn Fence.wide 0 Tryz.prog _ _ _;have W7:S3 Fv [{target:=.collected w4.heap.size,args:=#[]}] [(5,.pointer (some (ad rn 0)))] {a4 with defers:={target:=.collected w4.heap.size,args:=#[]}::a4.defers}:=by
  refine S3.cons (QV.get rfl) ⟨⟨⟨QV.1.1.size,rfl,λt v hl=>by simp[lk] at hl⟩,QV.1.2⟩,?_⟩;show _::a4.defers=_;rw[QV.2]
 refine w9 (F:=Fv) (.inl rfl) okF dr7 W7 ?_;rw[d7];refine T.at ?_ hs6;refine ma (r:=rn) (o:=0) rfl (oU ?_);intro w7 QK a7 Al;show Code.ret.wpIn Fence.wide 0 Tryz.prog _ a7 w7;refine wpIn_ret ?_;show LeavesInM _ _ _ _ _ _ a7.defers _ _;rw[Al.2];have hD:=(QK.obj (k:=1) (b:=w4.heap.size) rfl).1;have hs8:=QK.put (k:=1) (b:=w4.heap.size) (.deferred none) rfl (by simp);refine⟨by simp,.inl ⟨_,_,rfl,run_takeDeferred hD,?_⟩⟩;refine⟨_,results_tmp n82.2 _ _ _,_,rfl,?_⟩;have e4:a7.tmps.getD 4 undef=.i n':=by rw[Array.getD_eq_getD_getElem?,Al.get (t:=4) rfl];rfl
 rw[e4];obtain⟨m',ES,ZQ,Pk,-,afT⟩:=Kq;have:=LA ES Pk ET;rw[<-Q3] at this;subst this;exact hk n' b' dM _ ES ZQ (by omega) hs8.drop.drop.drop.drop.drop
end Go.Proofs.YtfijieggfhnpeaaGreatDoor
namespace Go.Proofs.YtfijieggfhnpeaaGreatDoor
open Go.Den Go.Prog
noncomputable abbrev P:Program:=Tryz.prog
def mixed:P.follows .mixedOrders=true:=by kernel_rfl
def eqs:Qw:=[(31,[.u 0,.u 0]),(33,wK),(60,bZ)]
def aad:pH P eqs:=pH.cons (by kernel_rfl) (by kernel_rfl) Tryz.underlying31 (pH.cons (by kernel_rfl) (by kernel_rfl) Tryz.underlying33 (pH.cons (by kernel_rfl) (by kernel_rfl) Tryz.underlying60 pH.nil))
def t0:kN P []:=trivial
def tk{T:CQ}{g:Nat}{p:WP}(e:aE P g p)(h:kN P T):kN P ((g,p)::T):=⟨.inl e,h⟩
def tx{T:CQ}{g:Nat}{p:WP}(e:Tj P g p)(h:kN P T):kN P ((g,p)::T):=⟨.inr e,h⟩
section
variable {g1 g2 g3 g4 g5 g6 g7 g8:Nat} {p1 p2 p3 p4 p5 p6 p7 p8:WP}
def t1(a:aE P g1 p1):kN P [(g1,p1)]:=tk a t0
def t2(a:aE P g1 p1)(b:aE P g2 p2):kN P [(g1,p1),(g2,p2)]:=tk a (t1 b)
def t3(a:aE P g1 p1)(b:aE P g2 p2)(c:aE P g3 p3):kN P [(g1,p1),(g2,p2),(g3,p3)]:=tk a (t2 b c)
def t4(a:aE P g1 p1)(b:aE P g2 p2)(c:aE P g3 p3)(d:aE P g4 p4):kN P [(g1,p1),(g2,p2),(g3,p3),(g4,p4)]:=tk a (t3 b c d)
def t5(a:aE P g1 p1)(b:aE P g2 p2)(c:aE P g3 p3)(d:aE P g4 p4)(e:aE P g5 p5):kN P [(g1,p1),(g2,p2),(g3,p3),(g4,p4),(g5,p5)]:=tk a (t4 b c d e)
def t6(a:aE P g1 p1)(b:aE P g2 p2)(c:aE P g3 p3)(d:aE P g4 p4)(e:aE P g5 p5)(f:aE P g6 p6):kN P [(g1,p1),(g2,p2),(g3,p3),(g4,p4),(g5,p5),(g6,p6)]:=tk a (t5 b c d e f)
end
def fi{n k:Nat}{f g:WK}{w:World}(h:f w)(e:f=g:=by kernel_rfl)(l:Nat.ble n k=true:=by rfl):n<=k/\g w:=⟨aH l,e▸h⟩
def em{T:CQ}{g:Nat}{fn:Func}{p:WP}(m:List Nat)(E':List (Nat×List (Nat×Value)))(hT:kN P T)(hf:P.funcs[g]?=some fn)
 (hp:∀args K w,p args K w->args.length<=fn.ntmps/\body P T eqs fn.ntmps m E' fn.results.toList (fn.body.getD .skip) args K w)(hs:fn.body.isSome=true:=by rfl)(hn:(fn.name== "runtime.NumGoroutine")=false:=by decide):aE P g p:=
 PA m E' hT aad mixed hf (by obtain⟨c,hc⟩:=Option.isSome_iff_exists.1 hs;rw[hc];rfl) hn hp
def en{T:CQ}{g:Nat}{fn:Func}{p:WP}(E':List (Nat×List (Nat×Value)))(hT:kN P T)(hf:P.funcs[g]?=some fn)
 (hp:∀args K w,p args K w->args.length<=fn.ntmps/\body P T eqs fn.ntmps [] E' fn.results.toList (fn.body.getD .skip) args K w)(hs:fn.body.isSome=true:=by rfl)(hn:(fn.name== "runtime.NumGoroutine")=false:=by decide):aE P g p:=em [] E' hT hf hp hs hn
def e0{T:CQ}{g:Nat}{fn:Func}{p:WP}(hT:kN P T)(hf:P.funcs[g]?=some fn)
 (hp:∀args K w,p args K w->args.length<=fn.ntmps/\body P T eqs fn.ntmps [] [] fn.results.toList (fn.body.getD .skip) args K w)(hs:fn.body.isSome=true:=by rfl)(hn:(fn.name== "runtime.NumGoroutine")=false:=by decide):aE P g p:=em [] [] hT hf hp hs hn
def uc{k:List Kd}{F:Fu k}{T:CQ}{g:Nat}{fn:Func}(m:List Nat)(E':List (Nat×List (Nat×Value)))(hT:kN P T)(hf:P.funcs[g]?=some fn)
 (e:F=cur k (body P T eqs fn.ntmps m E' fn.results.toList (fn.body.getD .skip)):=by kernel_rfl)(l:Nat.ble k.length fn.ntmps=true:=by rfl)(hs:fn.body.isSome=true:=by rfl)(hn:(fn.name== "runtime.NumGoroutine")=false:=by decide):aE P g (U k F):=
 em m E' hT hf (λa K w h=>by subst e;obtain⟨h1,h2⟩:=yY k _ h;exact⟨by rw[h1];exact aH l,h2⟩) hs hn
def ub{k:List Kd}{F:Fu k}{T:CQ}{g:Nat}{fn:Func}(E':List (Nat×List (Nat×Value)))(hT:kN P T)(hf:P.funcs[g]?=some fn)
 (e:F=cur k (body P T eqs fn.ntmps [] E' fn.results.toList (fn.body.getD .skip)):=by kernel_rfl)(l:Nat.ble k.length fn.ntmps=true:=by rfl)(hs:fn.body.isSome=true:=by rfl)(hn:(fn.name== "runtime.NumGoroutine")=false:=by decide):aE P g (U k F):=uc [] E' hT hf e l hs hn
def ua{k:List Kd}{F:Fu k}{T:CQ}{g:Nat}{fn:Func}(hT:kN P T)(hf:P.funcs[g]?=some fn)
 (e:F=cur k (body P T eqs fn.ntmps [] [] fn.results.toList (fn.body.getD .skip)):=by kernel_rfl)(l:Nat.ble k.length fn.ntmps=true:=by rfl)(hs:fn.body.isSome=true:=by rfl)(hn:(fn.name== "runtime.NumGoroutine")=false:=by decide):aE P g (U k F):=uc [] [] hT hf e l hs hn
def e78:Tj P 78 ov.u:=λargs K w h=>by
 unfold ov.u at h;split at h
 ·rename_i x y c;obtain⟨⟨⟨hx,hy⟩,h0,h1⟩,hk⟩:=h;exact⟨_,_,by rw[run_callFunc_extern Tryz.func78 (by kernel_rfl) (by kernel_rfl) (by kernel_rfl) (e:=add64Entry) (by kernel_rfl),run_add64 x y c hx hy h0 h1];rfl,hk⟩
 ·exact h.elim
def YU:Array Value->Sem Value:=λargs=>do
 let(x,y,b)<-Extern.MathBitsCarry.three "Sub64" args
 pure (Extern.MathBitsCarry.pair ((x+Extern.MathBitsCarry.m64-y-b)%Extern.MathBitsCarry.m64) (if x<y+b then 1 else 0))
def Rk(x y b:Nat)(hb:b<=1)(w:World):(YU #[.u x,.u y,.u b]).run P w=
 .ok (.tuple #[.u (((x+18446744073709551616-y-b)%18446744073709551616:Nat):Int),.u ((if x<y+b then 1 else 0:Nat):Int)]) w:=by
 have:b=0\/b=1:=by omega
 rcases this with rfl|rfl<;>rfl
def e50:Tj P 50 ou.u:=λargs K w h=>by
 unfold ou.u at h;split at h
 ·rename_i x y c;obtain⟨⟨⟨hx,hy,hy2⟩,h0,h1⟩,hk⟩:=h;obtain⟨x,rfl⟩:=bD hx;obtain⟨y,rfl⟩:=bD hy;obtain⟨c,rfl⟩:=bD h0;refine⟨_,_,by rw[run_callFunc_extern Tryz.func50 (by kernel_rfl) (by kernel_rfl) (by kernel_rfl) (e:=YU) (by kernel_rfl),Rk x y c (by omega)];rfl,?_⟩;have a1:(((x+18446744073709551616-y-c)%18446744073709551616:Nat):Int)=((x:Int) -y-c)%18446744073709551616:=by omega
  have a2:((if x<y+c then 1 else 0:Nat):Int)=if(x:Int)<y+c then 1 else 0:=by split<;>split<;>omega
  rw[a1,a2];exact hk
 ·exact h.elim
end Go.Proofs.YtfijieggfhnpeaaGreatDoor
namespace Go.Proofs
open Go.Shelf
def Tryz.Ag:Go.Shelf.Ren:=⟨λ|169=>122|n=>n,λ|70=>224|9=>9|0=>0|72=>226|37=>192|127=>274|3=>3|5=>5|n=>n,λ|n=>n⟩
theorem Tryz.RU:Go.Proofs.Lays.n169 Tryz.prog Tryz.Ag:={
 mixed:=by kernel_rfl
 f169:=Tryz.func122.trans (congrArg some (by kernel_rfl))
 t0:=Tryz.underlying0
 a0:=Tryz.isAgg0
 z0:=Tryz.sizeOf0
 v0:=Tryz.zeroValue0
 t3:=Tryz.underlying3
 a3:=Tryz.isAgg3
 z3:=Tryz.sizeOf3
 v3:=Tryz.zeroValue3
 t9:=Tryz.underlying9
 a9:=Tryz.isAgg9
 z9:=Tryz.sizeOf9
 v9:=Tryz.zeroValue9
 t37:=Tryz.underlying192
 a37:=Tryz.isAgg192
 z37:=Tryz.sizeOf192
 v37:=Tryz.zeroValue192
 t70:=Tryz.underlying224
 a70:=Tryz.isAgg224
 z70:=Tryz.sizeOf224
 v70:=Tryz.zeroValue224
 t72:=Tryz.underlying226
 a72:=Tryz.isAgg226
 z72:=Tryz.sizeOf226
 v72:=Tryz.zeroValue226
 t127:=Tryz.underlying274
 a127:=Tryz.isAgg274
 z127:=Tryz.sizeOf274
 v127:=Tryz.zeroValue274}
theorem Tryz.y5:Builder.Extra Tryz.prog Tryz.Ag:={
 sizeBuilder:=by kernel_rfl
 liesBuilder:=by kernel_rfl
 t5:=Tryz.underlying5
 a5:=Tryz.isAgg5
 z5:=Tryz.sizeOf5
 v5:=Tryz.zeroValue5
 infoByte:=by kernel_rfl
 cellsByte:=by kernel_rfl
 sizeByte:=by kernel_rfl
 neB5:=by decide}
open Go.RowKit in
theorem Tryz.Builder_String_any(B b:Nat)(l:List UInt8)(w:World)(h:Lib.IsBuilder 226 5 B b (Lib.byteCells l) w)(hBw:B<=w.heap.size):
 Calls Tryz.prog 122 #[.pointer (some ⟨b,0,none⟩)] w λe w'=>e=.returned (.string ⟨l.toArray⟩)/\Below B w w':=Any.Builder_String_any Tryz.RU Tryz.y5 B b l w h hBw
def Tryz.vE:Go.Shelf.Ren:=⟨λ|105=>81|212=>117|99=>118|165=>119|166=>120|170=>121|169=>122|263=>162|264=>163|206=>164|240=>165|241=>166|276=>210|277=>211|n=>n,λ|9=>9|3=>3|4=>4|20=>20|0=>0|46=>220|109=>221|5=>5|72=>226|76=>229|51=>270|146=>271|53=>29|148=>124|70=>224|37=>192|75=>228|127=>274|164=>314|80=>130|n=>n,λ|n=>n⟩
theorem Tryz.Kh:Go.Proofs.Lays.n105 Tryz.prog Tryz.vE:={
 mixed:=by kernel_rfl
 f99:=Tryz.func118.trans (congrArg some (by kernel_rfl))
 f105:=Tryz.func81.trans (congrArg some (by kernel_rfl))
 f165:=Tryz.func119.trans (congrArg some (by kernel_rfl))
 f166:=Tryz.func120.trans (congrArg some (by kernel_rfl))
 f169:=Tryz.func122.trans (congrArg some (by kernel_rfl))
 f170:=Tryz.func121.trans (congrArg some (by kernel_rfl))
 f206:=Tryz.func164.trans (congrArg some (by kernel_rfl))
 f212:=Tryz.func117.trans (congrArg some (by kernel_rfl))
 f240:=Tryz.func165.trans (congrArg some (by kernel_rfl))
 f241:=Tryz.func166.trans (congrArg some (by kernel_rfl))
 f263:=Tryz.func162.trans (congrArg some (by kernel_rfl))
 f264:=Tryz.func163.trans (congrArg some (by kernel_rfl))
 f276:=Tryz.func210.trans (congrArg some (by kernel_rfl))
 f277:=Tryz.func211.trans (congrArg some (by kernel_rfl))
 t0:=Tryz.underlying0
 a0:=Tryz.isAgg0
 z0:=Tryz.sizeOf0
 v0:=Tryz.zeroValue0
 t3:=Tryz.underlying3
 a3:=Tryz.isAgg3
 z3:=Tryz.sizeOf3
 v3:=Tryz.zeroValue3
 t4:=Tryz.underlying4
 a4:=Tryz.isAgg4
 z4:=Tryz.sizeOf4
 v4:=Tryz.zeroValue4
 t5:=Tryz.underlying5
 a5:=Tryz.isAgg5
 z5:=Tryz.sizeOf5
 v5:=Tryz.zeroValue5
 t9:=Tryz.underlying9
 a9:=Tryz.isAgg9
 z9:=Tryz.sizeOf9
 v9:=Tryz.zeroValue9
 t20:=Tryz.underlying20
 a20:=Tryz.isAgg20
 z20:=Tryz.sizeOf20
 v20:=Tryz.zeroValue20
 t37:=Tryz.underlying192
 a37:=Tryz.isAgg192
 z37:=Tryz.sizeOf192
 v37:=Tryz.zeroValue192
 t46:=Tryz.underlying220
 a46:=Tryz.isAgg220
 z46:=Tryz.sizeOf220
 v46:=Tryz.zeroValue220
 t51:=Tryz.underlying270
 a51:=Tryz.isAgg270
 z51:=Tryz.sizeOf270
 v51:=Tryz.zeroValue270
 t53:=Tryz.underlying29
 a53:=Tryz.isAgg29
 z53:=Tryz.sizeOf29
 v53:=Tryz.zeroValue29
 t70:=Tryz.underlying224
 a70:=Tryz.isAgg224
 z70:=Tryz.sizeOf224
 v70:=Tryz.zeroValue224
 t72:=Tryz.underlying226
 a72:=Tryz.isAgg226
 z72:=Tryz.sizeOf226
 v72:=Tryz.zeroValue226
 t75:=Tryz.underlying228
 a75:=Tryz.isAgg228
 z75:=Tryz.sizeOf228
 v75:=Tryz.zeroValue228
 t76:=Tryz.underlying229
 a76:=Tryz.isAgg229
 z76:=Tryz.sizeOf229
 v76:=Tryz.zeroValue229
 t109:=Tryz.underlying221
 a109:=Tryz.isAgg221
 z109:=Tryz.sizeOf221
 v109:=Tryz.zeroValue221
 t127:=Tryz.underlying274
 a127:=Tryz.isAgg274
 z127:=Tryz.sizeOf274
 v127:=Tryz.zeroValue274
 t146:=Tryz.underlying271
 a146:=Tryz.isAgg271
 z146:=Tryz.sizeOf271
 v146:=Tryz.zeroValue271
 t148:=Tryz.underlying124
 a148:=Tryz.isAgg124
 z148:=Tryz.sizeOf124
 v148:=Tryz.zeroValue124
 t164:=Tryz.underlying314
 a164:=Tryz.isAgg314
 z164:=Tryz.sizeOf314
 v164:=Tryz.zeroValue314}
theorem Tryz.sG:Builder.Extra Tryz.prog Tryz.vE:={
 sizeBuilder:=by kernel_rfl
 liesBuilder:=by kernel_rfl
 t5:=Tryz.underlying5
 a5:=Tryz.isAgg5
 z5:=Tryz.sizeOf5
 v5:=Tryz.zeroValue5
 infoByte:=by kernel_rfl
 cellsByte:=by kernel_rfl
 sizeByte:=by kernel_rfl
 neB5:=by decide}
open Go.RowKit Go.Lib in
theorem Tryz.strings_Repeat(s:ByteArray)(c:Nat)(w:World)(hc:c<=9223372036854775807)(hlen:s.size* c<=140737488355328):
 Calls Tryz.prog 81 #[.string s,.int .i64 c] w λe w'=>e=.returned (.string ⟨(Lib.repeatL s.data.toList c).toArray⟩)/\Below w.heap.size w w':=Any.strings_Repeat Tryz.Kh Tryz.sG s c w hc hlen
open Go.RowKit Go.Lib in
theorem Tryz.RV:Go.Proofs.Lays.n166 Tryz.prog Tryz.vE:={Tryz.Kh with}
open Go.RowKit in
theorem Tryz.Builder_WriteString(B b:Nat)(bs:List Value)(s:ByteArray)(w:World)(h:Lib.IsBuilder 226 5 B b bs w)(hlen:bs.length+s.size<=140737488355328)(hBw:B<=w.heap.size):
 Calls Tryz.prog 120 #[.pointer (some ⟨b,0,none⟩),.string s] w λe w'=>e=.returned (.tuple #[.int .i64 s.size,.nilIface])/\(Lib.BuilderAt 226 5 B b (.pointer (some ⟨b,0,none⟩)) (bs++Lib.strCells s) w'/\Below B w w'):=Any.Builder_WriteString Tryz.RV Tryz.sG B b bs s w h hlen hBw
end Go.Proofs
namespace Go.Proofs.YtfijieggfhnpeaaGreatDoor
open Go.Den Go.Prog
def J1(l:List UInt8):∀n,BK l n=Go.Lib.repeatL l n
 |0=>rfl
 |n+1=>by simp[BK,Go.Lib.repeatL,J1 l n]
def e81:aE P 81 strings_Repeat.u:=⟨⟨_,Tryz.func81,rfl,rfl⟩,λargs K w h=>by
 unfold strings_Repeat.u at h
 split at h
 ·rename_i s n
  obtain⟨⟨h0,h1,h2⟩,hk⟩:=h
  obtain⟨m,rfl⟩:=bD h0
  refine(Go.Proofs.Tryz.strings_Repeat s m w (by omega) (by simpa using h1)).mono λe w' ⟨he,hb⟩=>⟨_,he,?_⟩
  rw[<-J1];exact hk w' hb
 ·exact h.elim⟩
def afa:aE P 120 fy.u:=⟨⟨_,Tryz.func120,rfl,rfl⟩,λargs K w h=>by
 unfold fy.u at h
 split at h
 ·rename_i p s
  obtain⟨B,b,l,rfl,hb,hl,hB,hk⟩:=h
  refine(Go.Proofs.Tryz.Builder_WriteString B b (Go.Lib.byteCells l) s w hb (by simpa [Go.Lib.byteCells] using hl) hB).mono λe w' ⟨he,Yt,hbl⟩=>⟨_,he,hk w' (.inr ?_) hbl⟩
  have e:Go.Lib.byteCells (l++s.data.toList)=Go.Lib.byteCells l++Go.Lib.strCells s:=by simp[Go.Lib.byteCells,Go.Lib.strCells]
  rw[e];exact Yt
 ·exact h.elim⟩
def ae':aE P 122 gP.u:=⟨⟨_,Tryz.func122,rfl,rfl⟩,λargs K w h=>by
 unfold gP.u at h
 split at h
 ·obtain⟨B,b,l,rfl,hb,hB,hk⟩:=h
  exact(Go.Proofs.Tryz.Builder_String_any B b l w hb hB).mono λe w' ⟨he,hbl⟩=>⟨_,he,hk w' hbl⟩
 ·exact h.elim⟩
end Go.Proofs.YtfijieggfhnpeaaGreatDoor
namespace Go.Prog
open Go.Den
def qe(pA:LV)(s1 s2:BA)(uE:LV)(n1:Int)(K:VK):WK:=
mk pA λr1=>
mk uE λr2=>
mk bR λr3=>
jh s1 s2 (x2 λv1 v2=>(xA 6 λsR=>
(xI .i64 λn2=>
mk wK λr4=>
aT 6 (ad r4 0) sR (
br (n2 !=0) (
aY True (
aY (13=13) (fH (ad r3 0) bR (
aD (ad r3 0) 13 λqL=>
K (.tuple ⟨[.agg ⟨qL⟩,.i n2]⟩))))) (
aD (ad r1 0) 2 λs7=>
aY ((0:Int)<=2/\(2:Int)<3) (
aD ((ad r4 0).add ((2:Int).toNat* 2)) 2 λsY=>
aY ((0:Int)<=1/\(1:Int)<3) (
aD ((ad r4 0).add ((1:Int).toNat* 2)) 2 λA6=>
aD (ad r2 0) 2 λCn=>
aY (s7.length=2/\(sY.length=2/\(A6.length=2/\(Cn.length=2/\(1=1/\(1=1/\(1=1/\(1=1/\True)))))))) (
tg (s7++(sY++(A6++(Cn++([.u 0,.u 0,.i n1,.i 7,.i 1,.i 2,.i 0,.i 0]:LV))))) (x2 λv3 v4=>(xA 13 λI6=>
(xI .i64 λn3=>
aT 13 (ad r3 0) I6 (
aD (ad r3 0) 13 λxp=>
K (.tuple ⟨[.agg ⟨xp⟩,.i n3]⟩))) v4) v3))))))) v2) v1)
def vX(s1 s2:BA)(K:VK):WK:=
mk bR λr1=>
jh s1 s2 (x2 λv1 v2=>(xA 6 λpA=>
(xI .i64 λn1=>
mk wK λr2=>
aT 6 (ad r2 0) pA (
br (n1 !=0) (
aY True (
aY (13=13) (fH (ad r1 0) bR (
aD (ad r1 0) 13 λuE=>
K (.tuple ⟨[.agg ⟨uE⟩,.i n1]⟩))))) (
aY ((0:Int)<=1/\(1:Int)<3) (
aD ((ad r2 0).add ((1:Int).toNat* 2)) 2 λsR=>
aY ((0:Int)<=2/\(2:Int)<3) (
aD ((ad r2 0).add ((2:Int).toNat* 2)) 2 λqL=>
aY (sR.length=2/\(qL.length=2/\True)) (mk (sR++(qL++[])) λr3=>
aY (1=1/\(1=1/\True)) (
aY (13=13) (fH (ad r1 0) [.i 4,.l none 0 0,.l none 0 0,.i 0,.l (ai r3) 2 2,.u 0,.u 0,.i 0,.i 0,.b false,.b false,.b false,.i 0] (
aD (ad r1 0) 13 λs7=>
K (.tuple ⟨[.agg ⟨s7⟩,.i 0]⟩)))))))))) v2) v1)
def xJ(n1:Int)(K:VK):WK:=
mk [.u 0,.u 0] λr1=>
aY (1=1/\True) (
aY (2=2) (fH (ad r1 0) [.u 0,.u n1] (
aD (ad r1 0) 2 λpA=>
K (.agg ⟨pA⟩))))
def fj.j1(K:VK)(r3 r1 r4 r2 r6 r5:Nat)(b2:Bool):WK:=
br b2 (
aY True (
aY (13=13) (fH (ad r3 0) bR (
aD (ad r3 0) 13 λI6=>
K (.tuple ⟨[.agg ⟨I6⟩,.i 1]⟩))))) (
aD (ad r1 0) 2 λxp=>
aY ((0:Int)<=0/\(0:Int)<3) (
aD ((ad r4 0).add ((0:Int).toNat* 2)) 2 λCo=>
aY ((0:Int)<=1/\(1:Int)<3) (
aD ((ad r4 0).add ((1:Int).toNat* 2)) 2 λE5=>
aD (ad r2 0) 2 λE4=>
aY (xp.length=2/\(Co.length=2/\(E5.length=2/\(E4.length=2/\(1=1/\(1=1/\(1=1/\True))))))) (
mk bZ λr7=>
aY ((xp++(Co++(E5++(E4++([.u 0,.u 0,.i 0,.i 7,.i 1,.i 1,.i 0,.i 0]:LV))))).length=16) (fH (ad r7 0) (xp++(Co++(E5++(E4++([.u 0,.u 0,.i 0,.i 7,.i 1,.i 1,.i 0,.i 0]:LV))))) (
aD (ad r6 0) 2 λpe=>
aY ((0:Int)<=1/\(1:Int)<3) (
aD ((ad r5 0).add ((1:Int).toNat* 2)) 2 λnc=>
aY ((0:Int)<=0/\(0:Int)<3) (
aD ((ad r5 0).add ((0:Int).toNat* 2)) 2 λk9=>
aD (ad r2 0) 2 λyR=>
aY (pe.length=2/\(nc.length=2/\(k9.length=2/\(yR.length=2/\(1=1/\(1=1/\True)))))) (
mk bZ λr8=>
aY ((pe++(nc++(k9++(yR++([.u 0,.u 0,.i 0,.i 7,.i 1,.i 0,.i 0,.i 0]:LV))))).length=16) (fH (ad r8 0) (pe++(nc++(k9++(yR++([.u 0,.u 0,.i 0,.i 7,.i 1,.i 0,.i 0,.i 0]:LV))))) (
aD (ad r7 0) 16 λxo=>
aD (ad r8 0) 16 λG6=>
aY (xo.length=16/\(G6.length=16/\True)) (mk (xo++(G6++[])) λr9=>
aY (1=1/\(1=1/\True)) (
aY (13=13) (fH (ad r3 0) [.i 2,.l none 0 0,.l (ai r9) 2 2,.i 0,.l none 0 0,.u 0,.u 0,.i 0,.i 0,.b false,.b false,.b false,.i 0] (
aD (ad r3 0) 13 λMA=>
K (.tuple ⟨[.agg ⟨MA⟩,.i 0]⟩))))))))))))))))
def fj.j2(K:VK)(r3 r1 r4 r2 wi r5:Nat)(b4:Bool):WK:=
br b4 (
aY True (
aY (13=13) (fH (ad r3 0) bR (
aD (ad r3 0) 13 λSJ=>
K (.tuple ⟨[.agg ⟨SJ⟩,.i 1]⟩))))) (
aD (ad r1 0) 2 λMz=>
aY ((0:Int)<=0/\(0:Int)<3) (
aD ((ad r4 0).add ((0:Int).toNat* 2)) 2 λPN=>
aY ((0:Int)<=1/\(1:Int)<3) (
aD ((ad r4 0).add ((1:Int).toNat* 2)) 2 λMy=>
aD (ad r2 0) 2 λMx=>
aY (Mz.length=2/\(PN.length=2/\(My.length=2/\(Mx.length=2/\(1=1/\(1=1/\(1=1/\True))))))) (
mk bZ λIp=>
aY ((Mz++(PN++(My++(Mx++([.u 0,.u 0,.i 0,.i 7,.i 1,.i 1,.i 0,.i 0]:LV))))).length=16) (fH (ad Ip 0) (Mz++(PN++(My++(Mx++([.u 0,.u 0,.i 0,.i 7,.i 1,.i 1,.i 0,.i 0]:LV))))) (
aD (ad wi 0) 2 λMw=>
aY ((0:Int)<=1/\(1:Int)<3) (
aD ((ad r5 0).add ((1:Int).toNat* 2)) 2 λMv=>
aY ((0:Int)<=0/\(0:Int)<3) (
aD ((ad r5 0).add ((0:Int).toNat* 2)) 2 λPM=>
aD (ad r2 0) 2 λPK=>
aY (Mw.length=2/\(Mv.length=2/\(PM.length=2/\(PK.length=2/\(1=1/\(1=1/\True)))))) (
mk bZ λIo=>
aY ((Mw++(Mv++(PM++(PK++([.u 0,.u 0,.i 0,.i 7,.i 1,.i 0,.i 0,.i 0]:LV))))).length=16) (fH (ad Io 0) (Mw++(Mv++(PM++(PK++([.u 0,.u 0,.i 0,.i 7,.i 1,.i 0,.i 0,.i 0]:LV))))) (
aD (ad Ip 0) 16 λSI=>
aD (ad Io 0) 16 λSH=>
aY (SI.length=16/\(SH.length=16/\True)) (mk (SI++(SH++[])) λJ5=>
aY (1=1/\(1=1/\True)) (
aY (13=13) (fH (ad r3 0) [.i 2,.l none 0 0,.l (ai J5) 2 2,.i 0,.l none 0 0,.u 0,.u 0,.i 0,.i 0,.b false,.b false,.b false,.i 0] (
aD (ad r3 0) 13 λXw=>
K (.tuple ⟨[.agg ⟨Xw⟩,.i 0]⟩))))))))))))))))
def fj.j3(K:VK)(r3 r1 r4 r2 EF r5:Nat)(b6:Bool):WK:=
br b6 (
aY True (
aY (13=13) (fH (ad r3 0) bR (
aD (ad r3 0) 13 λSE=>
K (.tuple ⟨[.agg ⟨SE⟩,.i 1]⟩))))) (
aD (ad r1 0) 2 λMu=>
aY ((0:Int)<=0/\(0:Int)<3) (
aD ((ad r4 0).add ((0:Int).toNat* 2)) 2 λPI=>
aY ((0:Int)<=1/\(1:Int)<3) (
aD ((ad r4 0).add ((1:Int).toNat* 2)) 2 λMt=>
aD (ad r2 0) 2 λMs=>
aY (Mu.length=2/\(PI.length=2/\(Mt.length=2/\(Ms.length=2/\(1=1/\(1=1/\(1=1/\True))))))) (
mk bZ λxy=>
aY ((Mu++(PI++(Mt++(Ms++([.u 0,.u 0,.i 0,.i 7,.i 1,.i 1,.i 0,.i 0]:LV))))).length=16) (fH (ad xy 0) (Mu++(PI++(Mt++(Ms++([.u 0,.u 0,.i 0,.i 7,.i 1,.i 1,.i 0,.i 0]:LV))))) (
aD (ad EF 0) 2 λMr=>
aY ((0:Int)<=1/\(1:Int)<3) (
aD ((ad r5 0).add ((1:Int).toNat* 2)) 2 λMq=>
aY ((0:Int)<=0/\(0:Int)<3) (
aD ((ad r5 0).add ((0:Int).toNat* 2)) 2 λPH=>
aD (ad r2 0) 2 λPG=>
aY (Mr.length=2/\(Mq.length=2/\(PH.length=2/\(PG.length=2/\(1=1/\(1=1/\True)))))) (
mk bZ λwh=>
aY ((Mr++(Mq++(PH++(PG++([.u 0,.u 0,.i 0,.i 7,.i 1,.i 0,.i 0,.i 0]:LV))))).length=16) (fH (ad wh 0) (Mr++(Mq++(PH++(PG++([.u 0,.u 0,.i 0,.i 7,.i 1,.i 0,.i 0,.i 0]:LV))))) (
aD (ad xy 0) 16 λSD=>
aD (ad wh 0) 16 λSC=>
aY (SD.length=16/\(SC.length=16/\True)) (mk (SD++(SC++[])) λJ4=>
aY (1=1/\(1=1/\True)) (
aY (13=13) (fH (ad r3 0) [.i 2,.l none 0 0,.l (ai J4) 2 2,.i 0,.l none 0 0,.u 0,.u 0,.i 0,.i 0,.b false,.b false,.b false,.i 0] (
aD (ad r3 0) 13 λG5=>
K (.tuple ⟨[.agg ⟨G5⟩,.i 0]⟩))))))))))))))))
def fj(pA:LV)(s1 s2 s3:BA)(uE:LV)(K:VK):WK:=
mk pA λr1=>
mk uE λr2=>
mk bR λr3=>
jh s1 s2 (x2 λv1 v2=>(xA 6 λsR=>
(xI .i64 λn1=>
mk wK λr4=>
aT 6 (ad r4 0) sR (
br (n1 !=0) (
aY True (
aY (13=13) (fH (ad r3 0) bR (
aD (ad r3 0) 13 λqL=>
K (.tuple ⟨[.agg ⟨qL⟩,.i n1]⟩))))) (
jh s1 s3 (x2 λv3 v4=>(xA 6 λs7=>
(xI .i64 λn2=>
mk wK λr5=>
aT 6 (ad r5 0) s7 (
tick (
aD (ad r1 0) 2 λsY=>
both (
xJ 1 (xA 2 λA6=>
kp (ad r1 0) sY (
both (
kk sY A6 (x2 λv5 v6=>(xA 2 λCn=>
(xB λb1=>
mk [.u 0,.u 0] λr6=>
aT 2 (ad r6 0) Cn (
br (n2 !=0) (
fj.j1 K r3 r1 r4 r2 r6 r5 true) (
br (!b1) (
fj.j1 K r3 r1 r4 r2 r6 r5 true) (
fj.j1 K r3 r1 r4 r2 r6 r5 (me s2 s3))))) v6) v5)) (
mk [.u 0,.u 0] λwi=>
kp (ad r1 0) sY (
kk sY A6 (x2 λv7 v8=>(xA 2 λSK=>
(xB λb3=>
aT 2 (ad wi 0) SK (
br (n2 !=0) (
fj.j2 K r3 r1 r4 r2 wi r5 true) (
br (!b3) (
fj.j2 K r3 r1 r4 r2 wi r5 true) (
fj.j2 K r3 r1 r4 r2 wi r5 (me s2 s3))))) v8) v7)))))) (
mk [.u 0,.u 0] λEF=>
kp (ad r1 0) sY (
xJ 1 (xA 2 λSG=>
kp (ad r1 0) sY (
kk sY SG (x2 λv9 v10=>(xA 2 λSF=>
(xB λb5=>
aT 2 (ad EF 0) SF (
br (n2 !=0) (
fj.j3 K r3 r1 r4 r2 EF r5 true) (
br (!b5) (
fj.j3 K r3 r1 r4 r2 EF r5 true) (
fj.j3 K r3 r1 r4 r2 EF r5 (me s2 s3))))) v10) v9)))))))) v4) v3)))) v2) v1)
end Go.Prog
namespace Go.Proofs.YtfijieggfhnpeaaGreatDoor
open Go.Den Go.Prog
def e51:aE P 51 (U [] nP):=ua (t1 e81) Tryz.func51
def e27:aE P 27 (U [.n] qt):=ub [(3,[(2,vp),(3,vq),(8,vi),(9,vi)])] (t1 e51) Tryz.func27
def Yx:aE P 29 (U [.p] dL):=ua t0 Tryz.func29
def e52:aE P 52 (U [.n] qU):=ua t0 Tryz.func52
def Xg:aE P 61 (U [.s] kY):=ua t0 Tryz.func61
def Xs:aE P 108 (U [.p,.n] dy):=ua t0 Tryz.func108
def IZ:aE P 62 aF.u:=en [(3,[(4,vi),(5,vi),(13,vl),(14,vi),(15,vi)])] (t1 Xs) Tryz.func62 λa K w h=>by unfold aF.u at h;split at h;exact fi h;exact h.elim
def e97:aE P 97 (U [.s] mS):=ub [(5,[(2,vq),(3,vb),(4,vq),(10,vi)])] t0 Tryz.func97
def e87:aE P 87 bY.u:=e0 (t2 e97 Xs) Tryz.func87 λa K w h=>by unfold bY.u at h;split at h;exact fi h;exact h.elim
def Uh:aE P 98 bK.u:=e0 t0 Tryz.func98 λa K w h=>by unfold bK.u at h;split at h;exact fi h;exact h.elim
def e66:aE P 66 kE.u:=e0 (t3 IZ e87 Uh) Tryz.func66 λa K w h=>by unfold kE.u at h;split at h;exact fi h;exact h.elim
def e68:aE P 68 jD.u:=e0 (t3 IZ e87 Uh) Tryz.func68 λa K w h=>by unfold jD.u at h;split at h;exact fi h;exact h.elim
def e69:aE P 69 (U [.p] gZ):=ua t0 Tryz.func69
def e99:aE P 99 (U [.p] np):=ua t0 Tryz.func99
def ae8:aE P 124 (U [] tr):=ua t0 Tryz.func124
def ae7:aE P 125 (U [.p] nF):=ua t0 Tryz.func125
def ae6:aE P 126 (U [.p] pJ):=ua t0 Tryz.func126
def e83:aE P 83 (U [] rm):=ua (t3 ae8 ae7 ae6) Tryz.func83
def aaI:aE P 142 (U [.p] jG):=ua t0 Tryz.func142
def ad4:aE P 250 (U [.g] qX):=ua t0 Tryz.func250
def Ss:aE P 191 (U [.p,.g] cz):=ub [(5,[(3,vq),(4,vi),(5,vb),(6,vu),(7,vi),(8,vu)])] (t1 ad4) Tryz.func191
def I0:aE P 144 (U [.p,.g] fk):=ua (t1 Ss) Tryz.func144
def aeB:aE P 192 (U [.p] nt):=ub [(2,[(2,vl),(3,vi)]),(6,[(30,vl),(31,vi),(32,vi)])] (t1 Ss) Tryz.func192
def Xo:aE P 145 (U [.p,.g,.n] cX):=ua (t2 Ss aeB) Tryz.func145
def E1:aE P 185 (U [.p,.v] fr):=ua t0 Tryz.func185
def aeA:aE P 193 bJ.u:=e0 t0 Tryz.func193 λa K w h=>by unfold bJ.u at h;split at h;exact fi h;exact h.elim
def aaH:aE P 146 (U [.p,.g] fP):=ua (t1 E1) Tryz.func146
def ad2:aE P 252 dS.u:=e0 t0 Tryz.func252 λa K w h=>by unfold dS.u at h;split at h;exact fi h;exact h.elim
def ad3:aE P 251 (U [.n,.v] sq):=ub [(2,[(4,vi),(5,vi),(6,vi)])] (t1 ad2) Tryz.func251
def Xl:aE P 194 (U [.p,.n] iS):=ua (t1 ad3) Tryz.func194
def aaG:aE P 147 (U [.p,.n,.n] gg):=ua (t1 Xl) Tryz.func147
def Sx:aE P 148 (U [.p] eB):=ua t0 Tryz.func148
def aez:aE P 195 cf.u:=e0 t0 Tryz.func195 λa K w h=>by unfold cf.u at h;split at h;exact fi h;exact h.elim
def aaF:aE P 149 (U [.p,.g] gN):=ua (t1 E1) Tryz.func149
def Xn:aE P 150 (U [.g] rl):=ua t0 Tryz.func150
def aaj:aE P 253 (U [.g,.g] oZ):=ua t0 Tryz.func253
def aax:aE P 196 (U [.p,.n] gb):=uc [1] [(0,[(1,vi)])] (t1 aaj) Tryz.func196
def Xm:aE P 151 (U [.p,.g] iR):=ua (t1 aax) Tryz.func151
def afi:aE P 100 (U [.l,.l,.n,.n] de):=ub [(5,[(8,vp),(9,vi),(10,vp),(46,vl),(47,vi),(48,vi)]),(13,[(8,vp),(9,vi),(10,vp),(77,vl),(78,vi),(79,vi)])] (tk e83 (tk aaI (tk I0 (tk Xo (tk aaH (tk aaG (tk Sx (tk aaF (tk Xn (tk Xm t0)))))))))) Tryz.func100
def e59:aE P 59 (U [.s] lQ):=ub [(10,[(2,vp),(3,vi),(4,vp),(5,vi),(6,vi),(8,vi),(9,vl),(38,vi),(39,vi)]),(15,[(2,vp),(3,vi),(4,vp),(5,vi),(6,vi),(9,vl),(10,vl),(47,vi),(48,vi)])] (tk Xg (tk IZ (tk e66 (tk e68 (tk e69 (tk Uh (tk e99 (tk afi t0)))))))) Tryz.func59
def aaC:aE P 168 (U [.p,.n] mh):=ua t0 Tryz.func168
def Sy:aE P 129 (U [.p,.n] gS):=ub [(6,[(4,.s .empty),(5,vi),(6,vi)])] (t1 aaC) Tryz.func129
def aav:aE P 213 (U [.i .u32] pk):=ua t0 Tryz.func213
def aau:aE P 214 (U [.i .u32,.s] rT):=ub [(3,[(4,.int .u32 0),(5,.int .u32 0),(10,vi),(11,vi)]),(7,[(4,.int .u32 0),(5,.int .u32 0),(6,vi),(10,vi),(11,vi),(12,vb),(13,vi),(14,.int .u32 0),(15,.s .empty),(16,vi),(17,.int .u8 0),(18,.int .u32 0),(19,.int .u32 0),(20,vi)])] t0 Tryz.func214
def aeO:aE P 169 (U [.s] q6):=ua (t2 aav aau) Tryz.func169
def aeo:aE P 215 (U [.s,.i .u8] kn):=uc [0] [(1,[(0,.s .empty),(4,.s .empty)])] t0 Tryz.func215
def aen:aE P 216 (U [.s,.i .u8] jS):=uc [0] [(1,[(0,.s .empty),(4,.s .empty)])] t0 Tryz.func216
def aem:aE P 217 (U [.s] ko):=ub [(2,[(2,vq),(3,vb),(4,vi)])] t0 Tryz.func217
def aag:aE P 261 (U [.p,.i .u8] fQ):=ua t0 Tryz.func261
def ael:aE P 218 (U [.s,.p] jU):=uc [0] [(1,[(0,.s .empty),(4,.s .empty)])] (t1 aag) Tryz.func218
def aek:aE P 219 (U [.s,.p] jf):=uc [0] [(1,[(0,.s .empty),(4,.s .empty)])] (t1 aag) Tryz.func219
def aaB:aE P 170 (U [.s,.s] cI):=ua (t5 aeo aen aem ael aek) Tryz.func170
def aaA:aE P 171 (U [.g] rE):=ua t0 Tryz.func171
def Xp:aE P 130 (U [.s] iP):=ua (t6 Xg IZ Xs aeO aaB aaA) Tryz.func130
def aaw:aE P 212 (U [.g] rQ):=ua t0 Tryz.func212
def aeP:aE P 167 (U [.s] uF):=ua (t4 Xg IZ e69 aaw) Tryz.func167
def ae9:aE P 123 (U [.p,.n] ml):=ua (t3 Sy Xp aeP) Tryz.func123
def e82:aE P 82 (U [.p] pg):=ua (t1 ae9) Tryz.func82
def Mm:aE P 131 (U [.n] jt):=ua t0 Tryz.func131
def aaM:aE P 127 (U [.p,.n,.n,.n,.n] fU):=ub [(5,[(10,.s .empty),(11,vb),(12,vq),(48,vi),(49,vi)])] (t6 Yx afa ae' Sy Xp Mm) Tryz.func127
def aaL:aE P 128 (U [.g,.n] lR):=ua t0 Tryz.func128
def e84:aE P 84 (U [.g,.p,.n,.n,.n] nO):=ua (t2 aaM aaL) Tryz.func84
def e53:aE P 53 (U [.p,.g] tU):=ua (t4 e59 e82 e83 e84) Tryz.func53
def e85:aE P 85 (U [.p,.n,.n] o8):=ua (t1 Yx) Tryz.func85
def e86:aE P 86 (U [.p,.n,.n,.n] dU):=ua (tk Xg (tk IZ (tk Uh (tk aaM (tk Sy (tk Xp (tk Mm t0))))))) Tryz.func86
def e54:aE P 54 (U [.p,.n,.n,.n] iy):=ub [(7,[(8,vp),(9,vl),(10,vi),(11,vq),(12,vl)])] (t2 e85 e86) Tryz.func54
def e65:aE P 65 (U [.p,.v] im):=ub [(3,[(4,vl),(5,vl),(7,vi),(8,vi)])] (t3 e66 IZ Uh) Tryz.func65
def e67:aE P 67 (U [.p,.v] gM):=ub [(3,[(4,vl),(5,vl),(7,vi),(8,vi)])] (t3 IZ Uh e68) Tryz.func67
def e88:aE P 88 (U [.p] jx):=ua (t1 IZ) Tryz.func88
def e89:aE P 89 (U [.p,.v] mF):=ub [(3,[(4,vl),(5,vl),(7,vi),(8,vi)])] (t3 IZ e87 Uh) Tryz.func89
def e91:aE P 91 (U [.g] qB):=ua t0 Tryz.func91
def Xr:aE P 109 (U [.g] fZ):=ua t0 Tryz.func109
def Xq:aE P 110 (U [.g] dW):=ua t0 Tryz.func110
def aaK:aE P 132 (U [.g] fp):=ua t0 Tryz.func132
def e90:aE P 90 (U [.g] mn):=ub [(6,[(2,vb),(20,vl),(21,vi),(22,vi)]),(13,[(2,vb),(33,vl),(34,vi),(35,vi)])] (t4 e91 Xr Xq aaK) Tryz.func90
def e55:aE P 55 (U [.s] iG):=ua (tk Xg (tk IZ (tk e65 (tk e67 (tk e69 (tk e87 (tk e88 (tk e89 (tk e90 t0))))))))) Tryz.func55
def e56:aE P 56 (U [.g] nU):=ua t0 Tryz.func56
def ae4:aE P 134 eY.u:=e0 t0 Tryz.func134 λa K w h=>by unfold eY.u at h;split at h;exact fi h;exact h.elim
def aeN:aE P 172 (U [.l,.v] jl):=ub [(2,[(4,vi),(5,vb),(8,vl),(9,vi),(10,vi)])] (t1 ae4) Tryz.func172
def Sv:aE P 173 gv.u:=en [(1,[(8,vi),(9,vi)])] t0 Tryz.func173 λa K w h=>by unfold gv.u at h;split at h;exact fi h;exact h.elim
def G2:aE P 224 (U [.g] fF):=ua t0 Tryz.func224
def aej:aE P 225 (U [.g] iU):=ua (t1 G2) Tryz.func225
def aeL:aE P 175 (U [.g] nd):=ua (t2 G2 aej) Tryz.func175
def aaq:aE P 227 (U [.p] ef):=ua t0 Tryz.func227
def aar:aE P 226 (U [.p,.n] cM):=ua (t1 aaq) Tryz.func226
def Ml:aE P 176 (U [.p,.g] cT):=ua (t2 I0 aar) Tryz.func176
def aeK:aE P 177 (U [.g,.g] ng):=ua t0 Tryz.func177
def adV:aE P 267 c7.u:=e0 t0 Tryz.func267 λa K w h=>by unfold c7.u at h;split at h;exact fi h;exact h.elim
def aap:aE P 228 (U [.p] lh):=ua (t1 E1) Tryz.func228
def aao:aE P 230 (U [.p,.g] k6):=ua (t1 Ss) Tryz.func230
def aei:aE P 229 da.u:=e0 (t1 aao) Tryz.func229 λa K w h=>by unfold da.u at h;split at h;exact fi h;exact h.elim
def aeJ:aE P 178 (U [.p,.g] jB):=ua (t6 I0 Xo aaH E1 aaq aap) Tryz.func178
def ae3:aE P 135 iT.u:=e0 (t4 aeL Ml aeK aeJ) Tryz.func135 λa K w h=>by unfold iT.u at h;split at h;exact fi h;exact h.elim
def adX:aE P 265 (U [.p] qb):=ua t0 Tryz.func265
def aat:aE P 222 dP.u:=e0 (t1 adX) Tryz.func222 λa K w h=>by unfold dP.u at h;split at h;exact fi h;exact h.elim
def aeE:aE P 186 c8.u:=e0 t0 Tryz.func186 λa K w h=>by unfold c8.u at h;split at h;exact fi h;exact h.elim
def ad6:aE P 248 dx.u:=e0 (t1 Xm) Tryz.func248 λa K w h=>by unfold dx.u at h;split at h;exact fi h;exact h.elim
def adS:aE P 273 (U [.p,.n] gn):=ua (t1 Xl) Tryz.func273
def adT:aE P 272 dc.u:=e0 (t2 aao adS) Tryz.func272 λa K w h=>by unfold dc.u at h;split at h;exact fi h;exact h.elim
def adK:aE P 284 (U [.p,.n] dO):=uc [1] [(0,[(1,vi)]),(2,[(1,vi),(4,vi),(5,vi)])] (t1 aaj) Tryz.func284
def adN:aE P 278 (U [.p,.n] nr):=ua (t2 aax adK) Tryz.func278
def aak:aE P 247 (U [.p,.n] jz):=ub [(4,[(4,vb),(12,vl),(13,vi),(14,vi)])] (t1 adN) Tryz.func247
def adR:aE P 274 db.u:=e0 (t1 aak) Tryz.func274 λa K w h=>by unfold db.u at h;split at h;exact fi h;exact h.elim
def adO:aE P 277 bI.u:=e0 t0 Tryz.func277 λa K w h=>by unfold bI.u at h;split at h;exact fi h;exact h.elim
def adM:aE P 279 cb.u:=e0 t0 Tryz.func279 λa K w h=>by unfold cb.u at h;split at h;exact fi h;exact h.elim
def adW:aE P 266 (U [.p,.n] qc):=ub [(1,[])] (tk ad6 (tk adT (tk adR (tk aei (tk aeE (tk adV (tk aeA (tk adO (tk aez (tk adM t0)))))))))) Tryz.func266
def aas:aE P 223 dQ.u:=e0 (t1 adW) Tryz.func223 λa K w h=>by unfold dQ.u at h;split at h;exact fi h;exact h.elim
def aeM:aE P 174 (U [.p,.l,.l,.v] jV):=ub [(2,[(8,vi),(14,vl),(15,vi),(16,vi)])] (t4 aas aat ae3 Sv) Tryz.func174
def ae5:aE P 133 (U [.p,.l,.v,.v] mA):=ub [(3,[(8,vl),(9,vl),(10,vi)])] (t3 aeN Sv aeM) Tryz.func133
def e92:aE P 92 (U [.p,.l] ph):=ua (t1 ae5) Tryz.func92
def ae1:aE P 137 eG.u:=e0 t0 Tryz.func137 λa K w h=>by unfold eG.u at h;split at h;exact fi h;exact h.elim
def aeI:aE P 179 (U [.l,.v] iJ):=ub [(2,[(4,vi),(5,vb),(8,vl),(9,vi),(10,vi)])] (t1 ae1) Tryz.func179
def Su:aE P 182 (U [.g] pI):=ua t0 Tryz.func182
def Sr:aE P 232 (U [.g] jb):=ua t0 Tryz.func232
def aeh:aE P 231 (U [.g] ix):=ub [(3,[(1,vq),(2,vb),(3,vi),(6,.agg #[]),(7,vi)])] (t2 Su Sr) Tryz.func231
def aeg:aE P 233 (U [.g] lC):=ua (t1 G2) Tryz.func233
def aaf:aE P 268 (U [.g] nL):=ua t0 Tryz.func268
def aef:aE P 234 (U [.g] gY):=ua (t2 G2 aaf) Tryz.func234
def aaz:aE P 181 (U [.g] dI):=ua (t6 Su G2 aeh Sr aeg aef) Tryz.func181
def ad7:aE P 246 (U [.p,.n,.g] ij):=ua (t2 E1 aar) Tryz.func246
def aay:aE P 189 (U [.p,.g] iv):=ua (t3 I0 Ml ad7) Tryz.func189
def Xi:aE P 254 (U [.p,.n] cK):=ua (t1 Sx) Tryz.func254
def Mk:aE P 198 (U [.p,.g] fw):=ua (t2 I0 Xi) Tryz.func198
def aan:aE P 235 (U [.g,.g] rz):=ua t0 Tryz.func235
def aee:aE P 236 (U [.p,.g] wk):=ua (t1 Ml) Tryz.func236
def aam:aE P 237 (U [.p] lj):=ua (t1 Sx) Tryz.func237
def e80:aE P 80 (U [.g,.g] qT):=ua t0 Tryz.func80
def e49:aE P 49 (U [.g,.g] oD):=ua (t1 e80) Tryz.func49
def adU:aE P 269 (U [.g,.g] u6):=ua (t1 e49) Tryz.func269
def e26:aE P 26 (U [.g,.g] kX):=ua (tk e49 (tx e50 t0)) Tryz.func26
def Yw:aE P 38 (U [.g,.g] kk):=ua (tx e78 t0) Tryz.func38
def adL:aE P 283 (U [.g,.g] fW):=ua (t1 Yw) Tryz.func283
def Xh:aE P 270 (U [.g,.b] cG):=ua (t2 e26 adL) Tryz.func270
def aed:aE P 238 (U [.g,.g] eE):=ua (t4 G2 aaf adU Xh) Tryz.func238
def aae:aE P 271 (U [.l] u5):=ub [(3,[(2,vq),(3,vb),(4,vq),(8,vl),(9,vi),(10,vi)])] (t1 Yw) Tryz.func271
def aec:aE P 239 (U [.g,.g,.b] kB):=ua (t4 Yw e49 Xh aae) Tryz.func239
def aeb:aE P 240 (U [.g,.g,.b] jn):=ua (t4 Yw e49 Xh aae) Tryz.func240
def aal:aE P 241 (U [.p,.g,.g,.b] fx):=ua (tk I0 (tk Xo (tk aaG (tk Sx (tk aaF (tk Xn (tk Xm (tk E1 (tk aap t0))))))))) Tryz.func241
def aeG:aE P 183 (U [.p,.g] mI):=ua (tk aaz (tk Su (tk aay (tk Mk (tk Sr (tk aan (tk aee (tk aam (tk aed (tk aec (tk aeb (tk aal t0)))))))))))) Tryz.func183
def ad5:aE P 249 (U [.p,.n,.g] jc):=ua (t2 E1 Xi) Tryz.func249
def aeC:aE P 190 (U [.p,.g,.n] cr):=ua (t6 I0 Xn E1 Mk aak ad5) Tryz.func190
def aaJ:aE P 141 cZ.u:=e0 (t5 e26 Yw Ml aay aeC) Tryz.func141 λa K w h=>by unfold cZ.u at h;split at h;exact fi h;exact h.elim
def adQ:aE P 275 (U [.g,.g] eJ):=ua (t1 G2) Tryz.func275
def aea:aE P 242 (U [.p,.g] wq):=ua (t3 Mk Sr adQ) Tryz.func242
def ad':aE P 243 (U [.g,.g] lG):=ua (t2 e49 G2) Tryz.func243
def ad9:aE P 244 (U [.p,.g] kx):=ua (t1 Ml) Tryz.func244
def aeF:aE P 184 (U [.p,.g] pa):=ua (tk aaJ (tk Mk (tk aan (tk aam (tk aal (tk aea (tk ad' (tk ad9 t0)))))))) Tryz.func184
def ae0:aE P 138 kS.u:=e0 (t4 aaz Su aeG aeF) Tryz.func138 λa K w h=>by unfold kS.u at h;split at h;exact fi h;exact h.elim
def aeH:aE P 180 (U [.p,.l,.l,.v] jk):=ub [(2,[(8,vi),(14,vl),(15,vi),(16,vi)])] (t4 aas aat Sv ae0) Tryz.func180
def ae2:aE P 136 (U [.p,.l,.v,.v] lY):=ub [(3,[(8,vl),(9,vl),(10,vi)])] (t3 Sv aeI aeH) Tryz.func136
def e93:aE P 93 (U [.p,.l] nZ):=ua (t1 ae2) Tryz.func93
def aeZ:aE P 139 c9.u:=e0 (t1 E1) Tryz.func139 λa K w h=>by unfold c9.u at h;split at h;exact fi h;exact h.elim
def adP:aE P 276 (U [.p] qH):=ua t0 Tryz.func276
def ad8:aE P 245 (U [.p] ku):=ua (t1 adP) Tryz.func245
def aeD:aE P 188 dB.u:=e0 (t2 Mk ad8) Tryz.func188 λa K w h=>by unfold dB.u at h;split at h;exact fi h;exact h.elim
def aeY:aE P 140 qx.u:=e0 t0 Tryz.func140 λa K w h=>by unfold qx.u at h;split at h;exact fi h;exact h.elim
def e95:aE P 95 (U [.p] iK):=ua (t1 aaI) Tryz.func95
def e94:aE P 94 ri.u:=eHT mixed aeZ aeY aaJ aeD
def e57:aE P 57 (U [.p,.g] tG):=ua (t5 e91 e92 e93 e94 e95) Tryz.func57
def e28:aE P 28 (U [.p] lO):=ub [(14,[(2,vp),(3,vi),(6,vp),(10,vq),(59,vl),(60,vi),(61,vi)])] (tk Yx (tk e52 (tk e53 (tk e54 (tk e55 (tk e56 (tk e57 t0))))))) Tryz.func28
def e10:aE P 10 (U [.n] nq):=ua (t3 e27 e28 Yx) Tryz.func10
def aeX:aE P 143 (U [.s,.n] rG):=ua (t1 aaB) Tryz.func143
def e96:aE P 96 (U [.g] mX):=ua (t1 aeX) Tryz.func96
def e58:aE P 58 (U [.g] xV):=ua (t2 e96 e97) Tryz.func58
def e30:aE P 30 (U [.s,.s] jh):=ub [(3,[(4,vq),(5,vi),(6,vq),(10,vi)])] (t1 e58) Tryz.func30
def e11:aE P 11 (U [.s,.s] iO):=ub [(6,[(4,vq),(5,vi),(8,vq),(23,.agg #[]),(24,vi)])] (t1 e30) Tryz.func11
def e14:aE P 14 (U [.g] gX):=ub [(2,[(1,vq),(2,vb),(6,vl),(7,vi),(8,vi)])] t0 Tryz.func14
def e64:aE P 64 iC.u:=e0 (t1 IZ) Tryz.func64 λa K w h=>by unfold iC.u at h;split at h;exact fi h;exact h.elim
def e63:aE P 63 (U [.p,.v] kj):=ub [(3,[(4,vl),(5,vl),(7,vi),(8,vi)])] (t3 IZ Uh e64) Tryz.func63
def e70:aE P 70 (U [.g] mm):=ub [(2,[(1,vq),(2,vb),(10,vl),(11,vi),(12,vi)]),(8,[(1,vq),(2,vb),(24,vl),(25,vi),(26,vi)]),(14,[(1,vq),(2,vb),(35,vl),(36,vi),(37,vi)])] (t2 Xr Xq) Tryz.func70
def e33:aE P 33 (U [.s] mR):=ua (tk Xg (tk IZ (tk e63 (tk e65 (tk e67 (tk e69 (tk e70 t0))))))) Tryz.func33
def AM:aE P 101 (U [.p,.n,.n] aQ):=ub [(1,[(9,vi),(10,vi)])] t0 Tryz.func101
def Mn:aE P 107 (U [.p] cF):=ua t0 Tryz.func107
def aey:aE P 197 (U [.g] tS):=ub [(3,[(1,vq),(2,.s .empty),(3,vq),(5,vi)])] t0 Tryz.func197
def Sw:aE P 153 (U [.p,.g] iN):=ua (t1 aey) Tryz.func153
def aaQ:aE P 105 (U [.p,.g] pn):=ub [(4,[(3,vq),(20,.agg #[]),(21,vi)])] (t3 AM Xr Sw) Tryz.func105
def aaO:aE P 111 (U [.p,.l] iB):=ub [(2,[(12,vl),(13,vi),(14,vi)])] (t2 AM aaQ) Tryz.func111
def aaP:aE P 106 (U [.p,.g] nK):=ub [(4,[(3,vq),(20,.agg #[]),(21,vi)])] (t3 AM Xq Sw) Tryz.func106
def aaN:aE P 112 (U [.p,.l] il):=ub [(2,[(12,vl),(13,vi),(14,vi)])] (t2 AM aaP) Tryz.func112
def e71:aE P 71 (U [.g] ir):=ub [(7,[(1,vq),(2,.s .empty),(3,vq),(26,vl),(27,vi),(28,vi)])] (t5 e70 AM Mn aaO aaN) Tryz.func71
def aeV:aE P 154 (U [.p,.l] q8):=ub [(3,[(4,vl),(5,vl),(10,vl),(11,vi),(12,vi)])] (t1 Ml) Tryz.func154
def aeU:aE P 155 (U [.p,.l] qn):=ub [(3,[(4,vl),(5,vl),(10,vl),(11,vi),(12,vi)])] (t1 Mk) Tryz.func155
def ad1:aE P 255 (U [.p,.n,.n,.b] eu):=ub [(9,[(8,vl),(9,vi),(10,vi),(11,vl)]),(14,[(8,vl),(11,vl),(12,vi),(13,vi)])] (t1 Xl) Tryz.func255
def aex:aE P 199 (U [.p,.n,.n,.b] kT):=ub [(5,[(8,vl),(9,vl),(22,vl),(23,vi),(24,vi)])] (t2 Xi ad1) Tryz.func199
def aeT:aE P 156 (U [.p,.g] ke):=ub [(3,[(3,vq),(4,vl),(5,vl),(17,vl),(18,vi),(19,vi)])] (t1 aex) Tryz.func156
def afe:aE P 113 (U [.p,.g] E8):=ua (t4 aaK aeV aeU aeT) Tryz.func113
def aew:aE P 200 (U [.p,.b] nj):=ua (t1 AM) Tryz.func200
def aeS:aE P 157 (U [.p,.g] lN):=ub [(5,[(3,vq),(30,.agg #[]),(31,vi)])] (t3 AM Sw aew) Tryz.func157
def afd:aE P 114 (U [.g] tR):=ub [(8,[(2,.s .empty),(3,vi),(4,vq),(28,vl),(29,vi),(30,vi)])] (tk e90 (tk AM (tk Mn (tk aaO (tk aaN (tk Sw (tk aeS t0))))))) Tryz.func114
def aaE:aE P 158 (U [.p,.n] gA):=ua (t1 Mm) Tryz.func158
def e32:aE P 32 (U [.p] ik):=ua t0 Tryz.func32
def e13:aE P 13 (U [.p] fJ):=ua (t1 e32) Tryz.func13
def afh:aE P 102 (U [.p] mM):=ua t0 Tryz.func102
def afg:aE P 103 (U [.p] mL):=ua t0 Tryz.func103
def aeW:aE P 152 (U [.p] jd):=ua t0 Tryz.func152
def aff:aE P 104 (U [.p] kA):=ua (t1 aeW) Tryz.func104
def e60:aE P 60 (U [.p] qp):=ub [(8,[(2,.s .empty),(3,vq),(31,vl),(32,vi),(33,vi)]),(13,[(2,.s .empty),(3,vq),(42,vl),(43,vi),(44,vi)])] (tk e13 (tk AM (tk afh (tk afg (tk aff (tk aaQ (tk aaP (tk Mn t0)))))))) Tryz.func60
def aep:aE P 209 (U [.s] ud):=ub [(3,[(2,vq),(3,vq),(14,.agg #[]),(15,vi)])] (t2 Xg IZ) Tryz.func209
def aaD:aE P 161 (U [.p] kZ):=ub [(3,[(2,vi),(3,vi),(9,vi),(10,vi)])] (t3 Yx Sy aep) Tryz.func161
def aev:aE P 201 (U [.g,.n] mW):=ua (t1 Mm) Tryz.func201
def aai:aE P 259 (U [.p,.s] iM):=ua t0 Tryz.func259
def adZ:aE P 257 (U [.g] oE):=ua (tk e81 (tk AM (tk Mn (tk aaA (tk aav (tk aau (tk aai t0))))))) Tryz.func257
def aah:aE P 260 (U [.p] jK):=ua t0 Tryz.func260
def adY:aE P 258 (U [.p,.n,.s] dA):=ua (t3 e51 aaC aah) Tryz.func258
def Xk:aE P 206 (U [.p,.n,.n,.n,.s] iH):=uc [4] [(6,[(4,.s .empty),(10,vi),(11,vi)])] (t4 Yx Mm adZ adY) Tryz.func206
def Xj:aE P 208 (U [.p] iI):=ub [(6,[(2,vi),(14,vl),(15,vi),(16,vi)])] (t1 aah) Tryz.func208
def aeu:aE P 202 (U [.g,.p,.n,.n,.s] nN):=ua (t3 aaL Xk Xj) Tryz.func202
def ad0:aE P 256 (U [.g] sB):=ub [(5,[(2,.s .empty),(3,vi),(4,vq),(20,.agg #[]),(21,vi)])] (t3 AM Mn aaw) Tryz.func256
def aet:aE P 203 (U [.p,.n,.g] rj):=ua (t3 Xk Xj ad0) Tryz.func203
def aes:aE P 204 (U [.p] iY):=ua t0 Tryz.func204
def aer:aE P 205 (U [.p] gB):=ua t0 Tryz.func205
def aeR:aE P 159 (U [.p] fL):=ua (tk e60 (tk aaD (tk aev (tk aeu (tk aet (tk aes (tk aer t0))))))) Tryz.func159
def aeq:aE P 207 (U [.n,.s] qk):=ua (t3 AM Mn aai) Tryz.func207
def aeQ:aE P 160 (U [.p,.n,.s] bu):=ua (t5 Mm aaE Xk aeq Xj) Tryz.func160
def afc:aE P 115 (U [.p,.s] gl):=ua (t4 aaE aeR aeQ aaD) Tryz.func115
def e72:aE P 72 (U [.p,.g] jE):=ua (t5 e56 e57 afe afd afc) Tryz.func72
def e34:aE P 34 (U [.p,.s] oV):=ua (t3 e55 e71 e72) Tryz.func34
def e73:aE P 73 (U [.n,.n] bl):=ub [(5,[(4,.s .empty),(5,vi),(6,vu),(7,.s .empty),(8,vi)])] t0 Tryz.func73
def afb:aE P 116 (U [.g,.n] lZ):=ua t0 Tryz.func116
def e76:aE P 76 (U [.g] cw):=ub [(3,[(1,vq),(2,.s .empty),(3,.s .empty),(4,vi)]),(7,[(1,vq),(2,.s .empty),(3,.s .empty),(4,vi),(5,vi),(6,vi)])] (t1 afb) Tryz.func76
def e74:aE P 74 (U [.g] kD):=ua (t2 e73 e76) Tryz.func74
def e75:aE P 75 (U [.g] kC):=ua (t2 e73 e76) Tryz.func75
def e77:aE P 77 (U [.b] kV):=ua t0 Tryz.func77
def e35:aE P 35 (U [.g] fh):=ub [(5,[(2,.s .empty),(3,.s .empty),(23,vl),(24,vi),(25,vi)]),(12,[(2,.s .empty),(3,.s .empty),(43,vl),(44,vi),(45,vi)]),(19,[(2,.s .empty),(3,.s .empty),(63,vl),(64,vi),(65,vi)])] (t5 e73 e74 e75 e76 e77) Tryz.func35
def e15:aE P 15 (U [.p,.g,.n] fK):=ua (t3 e33 e34 e35) Tryz.func15
def e37:aE P 37 (U [.g] tg):=ua t0 Tryz.func37
def e17:aE P 17 (U [.g,.s,.s,.g] mo):=ua (t2 e30 e37) Tryz.func17
def e24:aE P 24 (U [.n] jN):=ua t0 Tryz.func24
def e8:aE P 8 (U [] gF):=ua (t6 e10 e11 e14 e15 e17 e24) Tryz.func8
def e9:aE P 9 (U [.g] jI):=ua (t1 e26) Tryz.func9
def e31:aE P 31 (U [.p] mG):=ua (t2 e59 e60) Tryz.func31
def e12:aE P 12 (U [.p] kq):=ua (t1 e31) Tryz.func12
def e36:aE P 36 (U [.s,.n] bO):=ub [(4,[(4,vb),(5,vi)])] t0 Tryz.func36
def e16:aE P 16 (U [.s,.s,.n] dE):=ua (t1 e36) Tryz.func16
def e18:aE P 18 (U [.g,.s,.s,.g,.n] qe):=ua (t2 e30 e37) Tryz.func18
def e19:aE P 19 (U [.s,.s] vX):=ua (t1 e30) Tryz.func19
def e39:aE P 39 (U [.i .u64] xJ):=ua t0 Tryz.func39
def e20:aE P 20 (U [.g,.s,.s,.s,.g] fj):=ua (t3 e30 Yw e39) Tryz.func20
end Go.Proofs.YtfijieggfhnpeaaGreatDoor
namespace Go.Proofs.YtfijieggfhnpeaaGreatDoor
open Go.ChangeShapes Go.WideShapes Go.ChangeAt Go.RowKit Go.Den Go.Sep Go.Prog Go.Up
def adj(b j:Nat):(ad b 0).add j=⟨b,j,none⟩:=by
 unfold Addr.add;split
 ·rename_i h;rw[h]
 ·simp
def Xd{W:World}(h:laidMetH Tryz.prog Rows.stockReadsRow.laid W):nX W:=by
 rw[MakeChecks.laidMetH_plain _ _ _ (by kernel_rfl)] at h;obtain⟨ps,⟨g0,t0,cs0,f0,p0,q0,-,-,-,-,⟨g,t,cs,fuel,p,q,hg,ht,hv,hd,⟨g2,t2,uE,afW,p2,q2,QQ,Nk,hv2,ZW,-,-⟩,-⟩,-⟩,-,-⟩:=h;obtain rfl:=bj.inj ((show Tryz.prog.globalNamed "bondstore/wide.Most"=some 0 by kernel_rfl).symm.trans hg);obtain rfl:=bj.inj ((show(Tryz.prog.globals[0]?).map (·.type)=some 31 by kernel_rfl).symm.trans ht);obtain rfl:=bj.inj ((show Tryz.prog.globalNamed "bondstore/hold.told"=some 2 by kernel_rfl).symm.trans QQ);obtain rfl:=bj.inj ((show(Tryz.prog.globals[2]?).map (·.type)=some 362 by kernel_rfl).symm.trans Nk);have c38:Tryz.prog.cellsOf 29=1:=by kernel_rfl
 have c3:Tryz.prog.cellsOf 105=1:=by kernel_rfl
 have c40:Tryz.prog.cellsOf 31=2:=by kernel_rfl
 have afG:Tryz.prog.cellsOf 362=5:=by kernel_rfl
 refine⟨?_,?_⟩
 ·obtain⟨y0,y1,n,ex,hl,k0,k1⟩:=trod_struct2 Tryz.underlying31 hd;rw[c40] at hl;obtain⟨l⟩:=cs
  match l,hl with
  |[a,b],_=>
   have e3:=(DataW.agg.inj (Prod.mk.inj ex).1);simp only[List.cons.injEq,and_true] at e3;rw[c38] at k0 k1;obtain⟨z0,a0,b0,_⟩:=DataW.trod_int Tryz.underlying29 k0;obtain⟨z1,a1,b1,_⟩:=DataW.trod_int Tryz.underlying29 k1;have hc:∀i,W.cell? ⟨0,i,none⟩=[a,b][i]?:=λi=>by rw[World.var?_cell hg hv i];simp
   simp at a0 a1;subst b0 b1 a0 a1;simp only[DataW.lit.injEq,Lit.int.injEq,true_and] at e3;obtain⟨rfl,rfl⟩:=e3;intro j v hj;rw[adj,hc];exact hj
 ·obtain⟨xs,m,_,ex,hlen,hl,ZT⟩:=DataW.trod_array Tryz.underlying362 ZW;rw[afG] at hlen;obtain⟨l⟩:=uE
  match l,hlen with
  |[a,b,c,d,e],_=>
   match xs,hl with
   |[x0,x1,x2,x3,x4],_=>
    have e3:=(DataW.agg.inj (Prod.mk.inj ex).1);simp only[fq,List.map_nil,List.cons.injEq,and_true] at e3;have k0:=ZT 0 (by omega);have k1:=ZT 1 (by omega);have k2:=ZT 2 (by omega);have k3:=ZT 3 (by omega);have k4:=ZT 4 (by omega);rw[c3] at k0 k1 k2 k3 k4;obtain⟨z0,a0,b0,_⟩:=DataW.trod_int Tryz.underlying105 k0;obtain⟨z1,a1,b1,_⟩:=DataW.trod_int Tryz.underlying105 k1;obtain⟨z2,a2,b2,_⟩:=DataW.trod_int Tryz.underlying105 k2;obtain⟨z3,a3,b3,_⟩:=DataW.trod_int Tryz.underlying105 k3;obtain⟨z4,a4,b4,_⟩:=DataW.trod_int Tryz.underlying105 k4;have hc:∀i,W.cell? ⟨2,i,none⟩=[a,b,c,d,e][i]?:=λi=>by rw[World.var?_cell QQ hv2 i];simp
    simp at a0 a1 a2 a3 a4;subst b0 b1 b2 b3 b4 a0 a1 a2 a3 a4;simp only[DataW.lit.injEq,Lit.int.injEq,true_and] at e3;obtain⟨rfl,rfl,rfl,rfl,rfl⟩:=e3;intro j v hj;rw[adj,hc];exact hj
end Go.Proofs.YtfijieggfhnpeaaGreatDoor
