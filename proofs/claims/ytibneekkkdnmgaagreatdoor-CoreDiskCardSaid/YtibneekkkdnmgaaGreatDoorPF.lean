/- Part of the proof: see the last text. -/
import Derived.Test.YtibneekkkdnmgaaGreatDoorPE
import Derived.Test.YtibneekkkdnmgaaGreatDoorPA
import Derived.RangeFuncOwn
import Derived.Test.YtibneekkkdnmgaaGreatDoorPD
import Derived.Test.YtibneekkkdnmgaaGreatDoorProg
import Derived.Test.YtibneekkkdnmgaaGreatDoorPB
import Derived.Laws.Externs
import Derived.Shelf.Strings.Builder2
import Derived.Shelf.Strings.Repeat
import Derived.Test.YtibneekkkdnmgaaGreatDoorRows
import Derived.ChangeSame
import Derived.MakeChecks
import Derived.LaidMore
set_option linter.all false
set_option maxRecDepth 100000
set_option synthInstance.maxSize 100000
open Array renaming replicate→jX
open Go.IntKind renaming i64→aa
open Int renaming eq_ofNat_of_zero_le→bt
open List renaming nil_append→cw,cons_append→lV,Perm→bZ,map_cons→cW,map_nil→uS
open Nat renaming lt_of_le_of_lt→HG,le_trans→AD,le_of_ble_eq_true→aK
open Option renaming some→aY
namespace Go.Den
open Go.RowKit Go.Sep
section
variable {FF:Fence} {n:Nat} {P:Program} {a:Act} {w:World} {Q:Exit->Act->World->Prop}
def Dh{J:Nat->Prop}(h:∃k,J k):∃m,J m/\∀k,J k->m<=k:=by
 obtain⟨k,hk⟩:=h
 induction k using Nat.strongRecOn with
 |_ k ih=>
  by_cases hx:∃j,j<k/\J j
  ·obtain⟨j,hj,hJ⟩:=hx;exact ih j hj hJ
  ·refine⟨k,hk,λj hJ=>?_⟩;rcases Nat.lt_or_ge j k with h|h
   ·exact aQ ⟨j,h,hJ⟩ hx
   ·exact h
def Ll{c:Code}(J:Nat->Act->World->Prop)(h0:∃k,J k a w)
 (hr:∀k a w,J k a w->c.wpIn FF n P (Exit.then (λa' w'=>∃j,j<k/\J j a' w') Q) a w):(Code.loop c).wpIn FF n P Q a w:=by
 classical
 let μ:Act->World->Nat:=λa w=>if h:∃k,J k a w then Classical.choose (Dh h) else 0
 have hμ:∀{a w}(h:∃k,J k a w),J (μ a w) a w/\∀k,J k a w->μ a w<=k:=λ{a w} h=>by
  have e:μ a w=Classical.choose (Dh h):=dif_pos h;rw[e];exact Classical.choose_spec (Dh h)
 refine wpIn_loop (λa w=>∃k,J k a w) μ h0 λa w h=>?_;refine wpIn_mono (hr _ a w (hμ h).1) λex a' w' hq=>?_;cases ex<;>first|exact hq|skip
 obtain⟨j,hj,hJ⟩:=hq;exact⟨⟨j,hJ⟩,HG ((hμ ⟨j,hJ⟩).2 j hJ) hj⟩
def HV{o:Oper}{x:Operand}{xs:Array Operand}{ts:Array TypeId}{l:Nat}(ho:o.op=.call {callee:=.value x,args:=xs,argTypes:=ts})(hx:a.eval x=.func (.yield l) #[] #[]):
 (execOp a.eval o).run P w=(Instr.yield l (xs.map a.eval)).run P w:=by
 simp only[execOp,ho,resolve,Deferred.ofValue,hx,Sem.run_bind,Sem.run_pure,Result.andThen_ok,invoke,Array.empty_append]
def UM(hW:FF=Fence.wide){g:Operand}{ps:Array Tmp}{assign body:Code}{gf:Nat}{lb:Array Value}(hg:a.eval g=.func (.func gf) #[] lb)
 {fg:Func}(h1:P.funcs[gf]?=some fg)(h2:(fg.name== "runtime.NumGoroutine")=false)(h3:fg.body.isNone=false)
 (h:∀fn,CallsIn FF (n-1) P gf (#[.func (.yield (w.heap.size+1)) #[] #[]]++lb) ((w.alloc (.deferred (some []))).alloc (.loop {state:=.ready,pending:=none,fn,tmps:=a.tmps,params:=ps,assign,body,defers:=w.heap.size}))
  (rangePost FF n P (w.heap.size+1) Q {a with defers:={target:=.collected w.heap.size,args:=#[]}::a.defers})):(Code.rangeFunc g ps assign body).wpIn FF n P Q a w:=by
 subst hW;refine wpIn_rangeFunc ?_;intro fn Lh;obtain⟨W1,hW1⟩:∃W1,(w.alloc (.deferred (some []))).alloc (.loop {state:=.ready,pending:=none,fn:=fn,tmps:=a.tmps,params:=ps,assign:=assign,body:=body,defers:=w.heap.size})=W1:=⟨_,rfl⟩;have h:=h fn;rw[hW1] at h;refine⟨w.heap.size+1,[{target:=.collected w.heap.size,args:=#[]}],W1,{target:=.fn (.func gf) lb,args:=#[.func (.yield (w.heap.size+1)) #[] #[]]},W1,gf,
  #[.func (.yield (w.heap.size+1)) #[] #[]]++lb,W1,?_,?_,?_,?_,?_,?_⟩
 ·rw[<-hW1];exact run_enterLoop_outer _ _ _ _ _
 ·simp only[resolve,hg];simp[go_sem]
 ·intro f' hf';exact trivial
 ·simp only[invoke];exact B3 h1 h2 h3 _
 ·intro hd;cases hd
 ·simpa only[lV,cw] using h
end
end Go.Den
namespace Go.Sep
open Go.Den Go.RowKit
def T'{w:World}{b:Nat}{o:Obj}(hb:b<w.heap.size)(ho:∀c t fz,o≠.cells c t fz):view (w.putObj b o) b=some (.obj o):=by
 unfold view;rw[World.putObj_heap_same hb];cases o<;>first|rfl|exact aQ rfl (ho _ _ _)
def St.adi{W w:World}{L:LH}(h:St W w L)(o:Obj)(ho:∀c t fz,o≠.cells c t fz):St W (w.alloc o) (ob w.heap.size o::L):=by
 refine h.adk o (x:=.obj o) ?_;unfold view;rw[World.alloc_heap_new];cases o<;>first|rfl|exact aQ rfl (ho _ _ _)
def St.put{W w:World}{L:LH}{k b:Nat}{o:Obj}(o':Obj)(h:St W w L)(hk:L[k]?=some (ob b o))(ho:∀c t fz,o'≠.cells c t fz):St W (w.putObj b o') (L.set k (ob b o')):=by
 obtain⟨h1,h2⟩:=h.obj hk;have bX:b<w.heap.size:=(Array.getElem?_eq_some_iff.1 h1).1;refine h.Z1 hk ⟨h.1.os,h.1.tape,h.1.output,by rw[World.putObj_size];exact h.1.size,λj hj=>?_⟩ (T' bX ho) λj hj _=>World.putObj_heap_other hj;rw[World.putObj_heap_other (by omega)];exact h.1.block j hj
end Go.Sep
namespace Go.Proofs.YtibneekkkdnmgaaGreatDoor
open Go.Den Go.Prog Go.RowKit
noncomputable def T82:HF:=[(182,eQ.u),(183,tW.u),(184,eH.u)]
noncomputable abbrev K8:Den.Fn:=⟨Tryz.prog,T82,[],20,[],[]⟩
noncomputable def c82:Code:=(Tryz.f134.body).getD .skip
noncomputable def q0:Code:=GS c82
noncomputable def q1:Code:=GS (y8 c82)
noncomputable def q2:Code:=GS (y8 (y8 c82))
noncomputable def q3:Code:=GS (GS (y8 (y8 (y8 c82))))
noncomputable def rf:Code:=inC (y8 (GS (y8 (y8 (y8 c82)))))
noncomputable def RD:Code:=ah' rf
noncomputable def bd:Code:=ah6 rf
noncomputable def q7:Code:=GS (y8 (y8 (y8 (y8 c82))))
def aco:Tryz.f134.body=some (.seq q0 (.seq q1 (.seq q2 (.seq (.seq q3 (.block 0 (.rangeFunc (.tmp 11) #[12] RD bd))) (.seq q7 .ret))))):=by kernel_rfl
def KE:drawn q0=false/\drawn q1=false/\drawn q2=false/\drawn q3=false/\drawn RD=false/\drawn bd=false/\drawn q7=false:=⟨by kernel_rfl,by kernel_rfl,by kernel_rfl,by kernel_rfl,by kernel_rfl,by kernel_rfl,by kernel_rfl⟩
def n82:Tryz.f134.ntmps=20/\Tryz.f134.results=#[.tmp 4]:=⟨by kernel_rfl,by kernel_rfl⟩
def d0(Q:Exit->Env->WK)(p:OA)(n:Int):den K8 q0 Q [(1,.i n),(0,.pointer p)]=mk [.pointer p] (λr=>Q .normal [(4,.i 0),(2,.pointer (some (ad r 0))),(1,.i n),(0,.pointer p)]):=by kernel_rfl
def d1(Q:Exit->Env->WK)(r:Nat)(n:Int)(e:Env):den K8 q1 Q ((4,.i 0)::(2,.pointer (some (ad r 0)))::(1,.i n)::e)=
 ld (ad r 0) (xP λp=>eQ p n (x0 (Q .normal ((9,.tuple ⟨[]⟩)::(8,.i n)::(7,.pointer p)::(4,.i 0)::(2,.pointer (some (ad r 0)))::(1,.i n)::e)))):=by kernel_rfl
def d2(Q:Exit->Env->WK)(e:Env):den K8 q2 Q e=mk [.i 0] (λr=>st (ad r 0) (.i 0) (Q .normal ((5,.pointer (some (ad r 0)))::e))):=by kernel_rfl
def d3(Q:Exit->Env->WK)(r5 r:Nat)(v9 v8 v7 v4:Value)(e:Env):den K8 q3 Q ((5,.pointer (some (ad r5 0)))::(9,v9)::(8,v8)::(7,v7)::(4,v4)::(2,.pointer (some (ad r 0)))::e)=
 ld (ad r 0) (xP λp=>tW p (λv=>Q .normal ((11,v)::(10,.pointer p)::(5,.pointer (some (ad r5 0)))::(9,v9)::(8,v8)::(7,v7)::(4,v4)::(2,.pointer (some (ad r 0)))::e))):=by kernel_rfl
def das(Q:Exit->Env->WK)(cs:LV)(e:Env):den K8 RD Q ((12,.agg ⟨cs⟩)::e)=mk [.u 0,.u 0,.u 0,.u 0,.u 0,.u 0,.u 0,.u 0,.u 0,.u 0,.i 0,.i 0,.i 0,.i 0,.i 0,.i 0] (λr=>cu (cs.length=16) (kj (ad r 0) cs (Q .normal ((6,.pointer (some (ad r 0)))::(12,.agg ⟨cs⟩)::e)))):=by kernel_rfl
def dbd(Q:Exit->Env->WK)(r6 r5 r2:Nat)(cs:LV)(e:Env):den K8 bd Q ((6,.pointer (some (ad r6 0)))::(12,.agg ⟨cs⟩)::(5,.pointer (some (ad r5 0)))::(2,.pointer (some (ad r2 0)))::e)=
 ld (ad r2 0) (xP λp=>aJ (ad r6 0) 16 (λzU=>cu True (eH p zU [.u 0,.u 0] 4 (x0 (ld (ad r5 0) (xI .i64 λn=>st (ad r5 0) (.i (aa.wrap (n+1))) (Q .normal ((18,.i (aa.wrap (n+1)))::(17,.i n)::(16,.tuple ⟨[]⟩)::(15,.agg ⟨[.u 0,.u 0]⟩)::(14,.agg ⟨zU⟩)::(13,.pointer p)::(6,.pointer (some (ad r6 0)))::(12,.agg ⟨cs⟩)::(5,.pointer (some (ad r5 0)))::(2,.pointer (some (ad r2 0)))::e)))))))):=by kernel_rfl
def d7(Q:Exit->Env->WK)(r5:Nat)(e:Env):den K8 q7 Q ((5,.pointer (some (ad r5 0)))::e)=ld (ad r5 0) (xI .i64 λn=>Q .normal ((4,.i n)::(19,.i n)::(5,.pointer (some (ad r5 0)))::e)):=by kernel_rfl
noncomputable def acz:HF:=[(230,fD.u)]
noncomputable abbrev AJ:Den.Fn:=⟨Tryz.prog,acz,[],22,[],[]⟩
noncomputable def aeX:Code:=(Tryz.f229.body).getD .skip
noncomputable def s0:Code:=GS aeX
noncomputable def lb:Code:=inC (inC (y8 aeX))
noncomputable def s1:Code:=GS lb
noncomputable def s3:Code:=GS (inC (GS (y8 lb)))
noncomputable def s4:Code:=y8 (y8 lb)
def Zs:Tryz.f229.body=some (.seq s0 (.block 0 (.loop (.seq s1 (.seq (.block 1 (.seq (.region 3 (Gq s3) false) (.cond (.tmp 20) .ret .skip))) s4))))):=by kernel_rfl
def G0:drawn s0=false/\drawn s1=false/\drawn s4=false:=⟨by kernel_rfl,by kernel_rfl,by kernel_rfl⟩
def n193:Tryz.f229.ntmps=22/\Tryz.f229.results=#[]:=⟨by kernel_rfl,by kernel_rfl⟩
def Zh(Q:Exit->Env->WK)(y:Value)(r1:Nat):den AJ s0 Q [(1,.pointer (some (ad r1 0))),(0,y)]=
 ld (ad r1 0) (xP λp=>fD p (x2 λv1 v2=>(xA 33 λcs=>(xB λb=>mk [.u 0,.u 0,.u 0,.u 0,.u 0,.u 0,.u 0,.u 0,.u 0,.u 0,.i 0,.i 0,.i 0,.i 0,.i 0,.i 0,.u 0,.u 0,.u 0,.u 0,.u 0,.u 0,.u 0,.u 0,.u 0,.u 0,.i 0,.i 0,.i 0,.i 0,.i 0,.i 0,.i 0] (λr=>cu (cs.length=33) (kj (ad r 0) cs (Q .normal ((4,.bool b)::(3,.pointer (some (ad r 0)))::(9,.bool b)::(8,.agg ⟨cs⟩)::(5,.tuple ⟨[.agg ⟨cs⟩,.bool b]⟩)::(7,.tuple ⟨[.agg ⟨cs⟩,.bool b]⟩)::(6,.pointer p)::[(1,.pointer (some (ad r1 0))),(0,y)]))))) v2) v1)):=by kernel_rfl
def ds1(Q:Exit->Env->WK)(b:Bool)(e:Env):den AJ s1 Q ((4,.bool b)::e)=br b (Q .normal ((10,.bool b)::(4,.bool b)::e)) (Q (.exit 0) ((10,.bool b)::(4,.bool b)::e)):=by kernel_rfl
def ds3(K:Env->WK)(r3 r1:Nat)(y:Value)(v4:Value):zx AJ (Gq s3) ((Gq s3).toList.take 3) K ((4,v4)::(3,.pointer (some (ad r3 0)))::(1,.pointer (some (ad r1 0)))::[(0,y)])=
 aJ (ad r3 16) 16 (λcs=>K ((18,.agg ⟨cs⟩)::(17,.pointer (some (ad r3 16)))::(16,y)::(4,v4)::(3,.pointer (some (ad r3 0)))::(1,.pointer (some (ad r1 0)))::[(0,y)])):=by kernel_rfl
noncomputable def o3:Oper:=((Gq s3)[3]?).getD ⟨none,.move (.tmp 0),0,"",#[],none⟩
def Ps:(Gq s3)[3]?=some o3/\o3.dst=some 19/\o3.op=.call {callee:=.value (.tmp 16),args:=#[.tmp 18],argTypes:=#[52]}/\o3.guard=none/\(Gq s3).size=5:=⟨by kernel_rfl,by kernel_rfl,by kernel_rfl,by kernel_rfl,by kernel_rfl⟩
def ah2(K:Env->WK)(b:Bool)(e:Env):zx AJ (Gq s3) ((Gq s3).toList.drop 4) K ((19,.bool b)::e)=K ((20,.bool (!b))::(19,.bool b)::e):=by kernel_rfl
def ds4(Q:Exit->Env->WK)(r3 r1:Nat)(y:Value):den AJ s4 Q ((3,.pointer (some (ad r3 0)))::(1,.pointer (some (ad r1 0)))::[(0,y)])=
 aJ (ad r3 0) 33 (λcs0=>mk [.u 0,.u 0,.u 0,.u 0,.u 0,.u 0,.u 0,.u 0,.u 0,.u 0,.i 0,.i 0,.i 0,.i 0,.i 0,.i 0,.u 0,.u 0,.u 0,.u 0,.u 0,.u 0,.u 0,.u 0,.u 0,.u 0,.i 0,.i 0,.i 0,.i 0,.i 0,.i 0,.i 0] (λr=>cu (cs0.length=33) (kj (ad r 0) cs0 (ld (ad r1 0) (xP λp=>fD p (x2 λv1 v2=>(xA 33 λcs=>(xB λb=>cu (cs.length=33) (kj (ad r 0) cs (Q .normal ((4,.bool b)::(15,.bool b)::(14,.agg ⟨cs⟩)::(11,.tuple ⟨[.agg ⟨cs⟩,.bool b]⟩)::(13,.tuple ⟨[.agg ⟨cs⟩,.bool b]⟩)::(12,.pointer p)::(3,.pointer (some (ad r 0)))::(21,.agg ⟨cs0⟩)::(3,.pointer (some (ad r3 0)))::(1,.pointer (some (ad r1 0)))::[(0,y)])))) v2) v1)))))):=by kernel_rfl
end Go.Proofs.YtibneekkkdnmgaaGreatDoor
namespace Go.Proofs.YtibneekkkdnmgaaGreatDoor
open Go.Sep Go.Den Go.RowKit Go.Prog Go.Md Go.cF Go.Up
section
variable {W:World} {L:LH} {a:Nat} {m0:aA}
def Mid(m0:aA)(b:Up.aZ)(hs:List C)(k:Nat):Prop:=∃m,pC b m/\Md.bK m/\ZL m0 m/\DW m0.clock m.ax=k/\hs.length+4* k<=150000
def abY:sF Tryz.prog []:=sF.nil
abbrev Mem(a l D r1 rn r0:Nat)(r:Loop)(n:Int)(b:Up.aZ)(hs:List C)(L:LH):LH:=
 ob l (.loop r)::ob D (.deferred (some []))::Sep.pt r1 [.pointer (some (ad a 0))]::Sep.pt rn [.i n]::Sep.pt r0 [.pointer (some (ad a 0))]::cL a (b,hs)::L
def UI(hT:oA Tryz.prog T82)(hm:Tryz.prog.follows .mixedOrders=true){fn:FuncId}{tmps:Array Value}{D l r0 r1 rn j k:Nat}{r:Loop}
 (hr:r={state:=.ready,pending:=none,fn:=fn,tmps:=tmps,params:=#[12],assign:=RD,body:=bd,defers:=D})(h20:tmps.size=20)
 (h5:tmps[5]?=some (.pointer (some (ad rn 0))))(h2:tmps[2]?=some (.pointer (some (ad r0 0)))){P3:HP}{n:Int}{b:Up.aZ}{hs:List C}{x:Md.ch}{w:World}
 (jO:St W w (P3::Mem a l D r1 rn r0 r n b hs L))(GN:Mid m0 b hs k)(hx:x∈b.ax)(ho:kJ b.clock x){R:Ending->World->Prop}
 (hR:∀n' b' fM k' w',k'<k->Mid m0 b' fM k'->St W w' (P3::Mem a l D r1 rn r0 r n' b' fM L)->R (.returned (.bool true)) w'):
 RoundIn Fence.wide j Tryz.prog l fn (tmps.setIfInBounds 12 (.agg ⟨aM x.move⟩)) RD bd w R:=by
 refine roundIn_of_wpIn trivial ?_;have okF:Ok K8:=⟨hT,abY,hm⟩;have bX:12<tmps.size:=by omega
 have s3:S3 K8 [] [(12,.agg ⟨aM x.move⟩),(5,.pointer (some (ad rn 0))),(2,.pointer (some (ad r0 0)))] {tmps:=tmps.setIfInBounds 12 (.agg ⟨aM x.move⟩),defers:=[]}:=by
  refine S3.cons ?_ (S3.cons ?_ (S3.cons ?_ (S3.start rfl ?_)))
  ·show(tmps.setIfInBounds 12 _)[12]?=_;simp[bX]
  ·show(tmps.setIfInBounds 12 _)[5]?=_;rw[Array.getElem?_setIfInBounds_ne (by decide)];exact h5
  ·show(tmps.setIfInBounds 12 _)[2]?=_;rw[Array.getElem?_setIfInBounds_ne (by decide)];exact h2
  ·show(tmps.setIfInBounds 12 _).size=20;simp[h20]
 refine EY (F:=K8) (.inr ⟨l,rfl⟩) okF KE.2.2.2.2.1 s3 ?_;rw[das];obtain⟨m,GL,hg,afE,YL,hlen⟩:=GN;refine T.at ?_ jO;refine uH λr6=>?_;apply ws;intros;intro w1 BL a1 ha1;have hl1:=(BL.obj (k:=2) (b:=l) (o:=.loop r) rfl).1;refine⟨_,run_beginRound hl1 (by rw[hr]),?_⟩;have hO:=BL.put (k:=2) (b:=l) (o:=.loop r) (.loop {r with state:=.busy}) rfl (by simp);refine EY (F:=K8) (.inr ⟨l,rfl⟩) okF KE.2.2.2.2.2.1 ha1 ?_;rw[dbd];refine T.at ?_ hO;show T W (Sep.pt r6 (aM x.move)::P3::Mem a l D r1 rn r0 {r with state:=.busy} n b hs L) _;obtain⟨Rb,Lf,m',Kn,YT,VD,aiK⟩:=I4 GL hg afE hx ho;obtain⟨⟨d,hd,-,-⟩,⟨c,hc,-,-⟩,kN⟩:=Lf;refine qP (p:=a) λeJ=>?_;have kg:=eJ.TJ x hx;apply ws;intros;show T W _ (eH (some ⟨a,0,none⟩) (aM x.move) (nm 0) 4 _);refine IJ (p:=a) (k:=x) Rb ho.1 kg.xq kg.move.aU (by decide) hd hc kN (.inr (.inr rfl)) (λh=>aQ h (by decide)) (λh=>aQ h (by decide)) (by omega) λfM hx'=>?_;apply ws;intros;intro w3 xf a3 ha3;subst hr;have Xp:=(xf.obj (k:=2) (b:=l) (o:=.loop {state:=.busy,pending:=none,fn:=fn,tmps:=tmps,params:=#[12],assign:=RD,body:=bd,defers:=D}) rfl).1;refine⟨_,_,run_endRound none Xp,?_⟩;have zi:=(xf.put (k:=2) (b:=l) (o:=.loop {state:=.busy,pending:=none,fn:=fn,tmps:=tmps,params:=#[12],assign:=RD,body:=bd,defers:=D}) (.loop {state:=.ready,pending:=none,fn:=fn,tmps:=tmps,params:=#[12],assign:=RD,body:=bd,defers:=D}) rfl (by simp)).drop;have:=hx'.len;exact hR _ _ _ _ _ (by omega) ⟨m',Kn,YT,VD,rfl,by omega⟩ zi
abbrev yv(l:Nat):Value:=.func (.yield l) #[] #[]
abbrev V'(b:Bool)(r3 r1 l:Nat):Env:=(4,.bool b)::(3,.pointer (some (ad r3 0)))::(1,.pointer (some (ad r1 0)))::[(0,yv l)]
def acg(hT:oA Tryz.prog T82)(Xw:oA Tryz.prog acz)(hm:Tryz.prog.follows .mixedOrders=true){fn:FuncId}{tmps:Array Value}{D l r0 r1 rn j:Nat}{r:Loop}
 (hr:r={state:=.ready,pending:=none,fn:=fn,tmps:=tmps,params:=#[12],assign:=RD,body:=bd,defers:=D})(h20:tmps.size=20)
 (h5:tmps[5]?=some (.pointer (some (ad rn 0))))(h2:tmps[2]?=some (.pointer (some (ad r0 0)))){n:Int}{b:Up.aZ}{hs:List C}{k:Nat}{w:World}
 (jO:St W w (Mem a l D r1 rn r0 r n b hs L))(GN:Mid m0 b hs k){R:Ending->World->Prop}
 (hR:∀n' b' fM k' w',Mid m0 b' fM k'->(∀x∈b'.ax,¬kJ b'.clock x)->St W w' (Mem a l D r1 rn r0 r n' b' fM L)->R (.returned (.tuple #[])) w'):
 CallsIn Fence.wide j Tryz.prog 229 #[yv l,.pointer (some (ad r1 0))] w R:=by
 refine callsIn_of_wp Tryz.func229 Zs trivial ?_ rfl;have okF:Ok AJ:=⟨Xw,abY,hm⟩;have s0':S3 AJ [] [(1,.pointer (some (ad r1 0))),(0,yv l)] {tmps:=#[yv l,.pointer (some (ad r1 0))]++jX (Tryz.f229.ntmps-2) undef,defers:=[]}:=by
  rw[n193.1];refine S3.cons ?_ (S3.cons ?_ (S3.start rfl ?_))
  ·show(#[yv l,.pointer (some (ad r1 0))]++jX 20 undef)[1]?=_;simp
  ·show(#[yv l,.pointer (some (ad r1 0))]++jX 20 undef)[0]?=_;simp
  ·show(#[yv l,.pointer (some (ad r1 0))]++jX 20 undef).size=22;simp
 refine A6 (F:=AJ) (.inl rfl) okF G0.1 s0' ?_;rw[Zh];have main:∀(bb:Bool)(x:Md.ch)(r3:Nat)(n:Int)(b:Up.aZ)(hs:List C)(k:Nat)(w:World)(a1:Act),S3 AJ [] (V' bb r3 r1 l) a1->St W w (Sep.pt r3 (bF x)::Mem a l D r1 rn r0 r n b hs L)->Mid m0 b hs k->
                                                 (if bb then x∈b.ax/\kJ b.clock x else ∀x∈b.ax,¬kJ b.clock x)->
                                                 (Code.block 0 (.loop (.seq s1 (.seq (.block 1 (.seq (.region 3 (Gq s3) false) (.cond (.tmp 20) .ret .skip))) s4)))).wpIn Fence.wide j Tryz.prog (bodyPost Tryz.prog Tryz.f229 R) a1 w:=by
  intro bb x r3 n b hs k w a1 ha1 uZ GN TR;refine wpIn_block (Ll (λk a1 w=>∃(bb:Bool)(x:Md.ch)(r3:Nat)(n:Int)(b:Up.aZ)(hs:List C),S3 AJ [] (V' bb r3 r1 l) a1/\St W w (Sep.pt r3 (bF x)::Mem a l D r1 rn r0 r n b hs L)/\Mid m0 b hs k/\
   (if bb then x∈b.ax/\kJ b.clock x else ∀x∈b.ax,¬kJ b.clock x)) ⟨k,bb,x,r3,n,b,hs,ha1,uZ,GN,TR⟩ ?_)
  rintro k a1 w ⟨bb,x,r3,n,b,hs,ha1,uZ,GN,TR⟩;refine A6 (F:=AJ) (.inl rfl) okF G0.2.1 ha1 ?_;rw[ds1];cases bb with
  |false=>
   rw[eK];intro a2 VP;show bodyPost Tryz.prog Tryz.f229 R .normal a2 w;refine⟨VP.2,_,results_none n193.2 _ _ _,?_⟩;exact hR _ _ _ _ _ GN TR uZ.drop
  |true=>
   rw[lz];obtain⟨hx,ho⟩:=TR;intro a2 VP;have VP:S3 AJ [] (V' true r3 r1 l) a2:=S3.cons (VP.get rfl) (S3.cons (VP.get rfl) (S3.cons (VP.get rfl) (S3.cons (VP.get rfl) VP.nil)));show(Code.seq (.block 1 (.seq (.region 3 (Gq s3) false) (.cond (.tmp 20) .ret .skip))) s4).wpIn Fence.wide j Tryz.prog _ a2 w;refine wpIn_seq (wpIn_block (wpIn_seq ?_));refine IK (F:=AJ) (.inl rfl) okF 3 (by rw[Ps.2.2.2.2];decide) VP ?_ ?_ (K:=λe w'=>St W w' (Sep.pt r3 (bF x)::Mem a l D r1 rn r0 r n b hs L)/\e=(18,.agg ⟨aM x.move⟩)::(17,.pointer (some (ad r3 16)))::(16,yv l)::V' true r3 r1 l)
   ·rw[ds3];refine T.at ?_ uZ;apply ws;intros;exact λw' fM=>⟨fM,rfl⟩
   ·rintro e a3 w3 ha3 ⟨ads,rfl⟩;rw[Ps.2.2.2.2];show wpOpsIn Fence.wide j Tryz.prog (Gq s3) _ [3,4] a3 w3;rw[wpOpsIn_cons];unfold wpOpIn;simp only[Ps.1];rw[ai (by simp[Region.wanted,Ps.2.2.2.1])];refine⟨λf _=>trivial,?_⟩;have hl:=(ads.obj (k:=1) (b:=l) (o:=.loop r) rfl).1;have Xy:a3.eval (.tmp 16)=yv l:=ha3.eval rfl;have e18:a3.eval (.tmp 18)=.agg ⟨aM x.move⟩:=ha3.eval rfl;rw[show Fence.wide.round=none from rfl,Oper.semAt_none,HV Ps.2.2.1 Xy,run_yield hl (by rw[hr];simp),Oper.uponIn_round];refine⟨λh=>(by cases h),?_⟩;have e2:((r.params.zip (#[Operand.tmp 18].map a3.eval)).foldl (λtmps(t,a)=>tmps.setIfInBounds t a) r.tmps)=tmps.setIfInBounds 12 (.agg ⟨aM x.move⟩):=by
     rw[hr];simp[e18]
    rw[e2,show r.fn=fn by rw[hr],show r.assign=RD by rw[hr],show r.body=bd by rw[hr]];refine UI (W:=W) (L:=L) (a:=a) (m0:=m0) hT hm hr h20 h5 h2 ads GN hx ho λn' b' fM k' w' BM Rc afj=>?_;dsimp only;rw[Ps.2.1];have Xv:=S3.put (v:=.bool true) w' (t:=19) ha3 rfl;refine XN (F:=AJ) (.inl rfl) okF 4 (by rw[Ps.2.2.2.2];decide) Xv ?_ ?_ (K:=λe w''=>w''=w'/\e=(20,.bool false)::(19,.bool true)::(18,.agg ⟨aM x.move⟩)::(17,.pointer (some (ad r3 16)))::(16,yv l)::V' true r3 r1 l)
    ·rw[ah2];exact⟨rfl,rfl⟩
    ·rintro e a5 w5 ha5 ⟨rfl,rfl⟩;show(Code.cond (.tmp 20) .ret .skip).wpIn Fence.wide j Tryz.prog _ a5 w5;refine wpIn_cond_false (ha5.eval rfl) (wpIn_skip ?_);show s4.wpIn Fence.wide j Tryz.prog _ a5 w5;have ha6:S3 AJ [] ((3,.pointer (some (ad r3 0)))::(1,.pointer (some (ad r1 0)))::[(0,yv l)]) a5:=S3.cons (ha5.get rfl) (S3.cons (ha5.get rfl) (S3.cons (ha5.get rfl) ha5.nil));refine EY (F:=AJ) (.inl rfl) okF G0.2.2 ha6 ?_;rw[ds4];refine T.at ?_ afj;apply ws;intros;rename_i r4;refine UG (p:=a) (λy hy hoy=>?_) (λHC=>?_)
     ·apply ws;intros;intro w7 Xn a7 Eg;refine⟨k',BM,true,y,r4,n',b',fM,S3.cons (Eg.get rfl) (S3.cons (Eg.get rfl) (S3.cons (Eg.get rfl) (S3.cons (Eg.get rfl) Eg.nil))),?_,Rc,⟨hy,hoy⟩⟩;exact(Xn.perm (bZ.swap _ _ _)).drop
     ·apply ws;intros;intro w7 Xn a7 Eg;refine⟨k',BM,false,zK,r4,n',b',fM,S3.cons (Eg.get rfl) (S3.cons (Eg.get rfl) (S3.cons (Eg.get rfl) (S3.cons (Eg.get rfl) Eg.nil))),?_,Rc,HC⟩;exact(Xn.perm (bZ.swap _ _ _)).drop
 refine T.at ?_ jO;apply ws;intros;refine UG (p:=a) (λy hy hoy=>?_) (λHC=>?_)
 ·apply ws;intros;rename_i r4;intro w7 Xn a7 Eg;exact main true y r4 n b hs k w7 a7 (S3.cons (Eg.get rfl) (S3.cons (Eg.get rfl) (S3.cons (Eg.get rfl) (S3.cons (Eg.get rfl) Eg.nil)))) Xn GN ⟨hy,hoy⟩
 ·apply ws;intros;rename_i r4;intro w7 Xn a7 Eg;exact main false zK r4 n b hs k w7 a7 (S3.cons (Eg.get rfl) (S3.cons (Eg.get rfl) (S3.cons (Eg.get rfl) (S3.cons (Eg.get rfl) Eg.nil)))) Xn GN HC
end
def eHT(hm:Tryz.prog.follows .mixedOrders=true)(eU:aF Tryz.prog 182 eQ.u)(eF:aF Tryz.prog 183 tW.u)(eR:aF Tryz.prog 184 eH.u)(eD:aF Tryz.prog 230 fD.u):aF Tryz.prog 134 u0.u:=by
 have hT:oA Tryz.prog T82:=⟨.inl eU,.inl eF,.inl eR,trivial⟩;have Xw:oA Tryz.prog acz:=⟨.inl eD,trivial⟩;refine⟨⟨_,Tryz.func134,by kernel_rfl,by kernel_rfl⟩,λargs K w h=>?_⟩;unfold u0.u at h;split at h
 rotate_left
 ·exact h.elim
 rename_i p now;obtain⟨W,L,a,b,m,hs,rfl,uZ,GL,hg,hlen,hk⟩:=h;refine(callsIn_wide (n:=0)).1 (callsIn_of_wp_marks Tryz.func134 aco trivial ?_ rfl);have okF:Ok K8:=⟨hT,abY,hm⟩;obtain⟨dr0,dr1,dr2,dr3,-,-,dr7⟩:=KE;have s0':S3 K8 [] [(1,.i now),(0,.pointer (some ⟨a,0,none⟩))] {tmps:=⟨[.pointer (some ⟨a,0,none⟩),.i now]⟩++jX (Tryz.f134.ntmps-2) undef,defers:=[]}:=by
  rw[n82.1];refine S3.cons ?_ (S3.cons ?_ (S3.start rfl ?_))
  ·show(#[Value.pointer (some ⟨a,0,none⟩),.i now]++jX 18 undef)[1]?=_;simp
  ·show(#[Value.pointer (some ⟨a,0,none⟩),.i now]++jX 18 undef)[0]?=_;simp
  ·show(#[Value.pointer (some ⟨a,0,none⟩),.i now]++jX 18 undef).size=20;simp
 refine A6 (F:=K8) (.inl rfl) okF dr0 s0' ?_;rw[d0];refine T.at ?_ uZ;refine uH λr0=>?_;intro w1 BL a1 ha1;refine A6 (F:=K8) (.inl rfl) okF dr1 ha1 ?_;rw[d1];refine T.at ?_ BL;refine nR rfl (vf ?_);refine XV (p:=a) (by omega) λadv hx1=>BV ?_;have hl1:=hx1.len;intro w2 hO a2 VP;refine A6 (F:=K8) (.inl rfl) okF dr2 VP ?_;rw[d2];refine T.at ?_ hO;refine uH λrn=>?_;apply ws;intros;intro w3 xf a3 ha3;refine wpIn_seq (A6 (F:=K8) (.inl rfl) okF dr3 ha3 ?_);rw[d3];refine T.at ?_ xf;refine nR rfl (vf ?_);unfold tW;refine uH λr1=>?_;intro w4 zi a4 Xv;have zi:St W w4 (Sep.pt r1 [.pointer (some (ad a 0))]::Sep.pt rn [.i 0]::Sep.pt r0 [.pointer (some (ad a 0))]::cL a (Go.Up.tick b now,adv)::L):=zi;show(Code.block 0 (.rangeFunc (.tmp 11) #[12] RD bd)).wpIn Fence.wide 0 Tryz.prog _ a4 w4;refine wpIn_block ?_;refine UM rfl (g:=.tmp 11) (gf:=229) (Xv.eval rfl) Tryz.func229 (by kernel_rfl) (by kernel_rfl) λfn=>?_;have ho1:=(zi.adi (.deferred (some [])) (by simp)).adi (.loop {state:=.ready,pending:=none,fn:=fn,tmps:=a4.tmps,params:=#[12],assign:=RD,body:=bd,defers:=w4.heap.size}) (by simp);rw[World.size_alloc] at ho1;have GN:Mid (ve m now) (Go.Up.tick b now) adv (DW (ve m now).clock (ve m now).ax):=⟨ve m now,Ty GL now,Et hg now,ZL.refl _,rfl,by
  have:DW (ve m now).clock (ve m now).ax<=96:=AD (List.length_filter_le _ _) hg.some_
  omega⟩
 refine acg (W:=W) (L:=L) (a:=a) (m0:=ve m now) (r0:=r0) (rn:=rn) (D:=w4.heap.size) (tmps:=a4.tmps) hT Xw hm rfl Xv.1.1.size (Xv.get rfl) (Xv.get rfl) ho1 GN λn' b' fM k' w5 Rc HC Q'=>?_;have hl5:=(Q'.obj (k:=0) (b:=w4.heap.size+1) rfl).1;refine⟨_,_,run_endLoop hl5 (by simp),?_⟩;show Exit.inBlock 0 _ .normal _ _;have hs6:=Q'.put (k:=0) (b:=w4.heap.size+1) (.loop {state:=.exhausted,pending:=none,fn:=fn,tmps:=a4.tmps,params:=#[12],assign:=RD,body:=bd,defers:=w4.heap.size}) rfl (by simp);have hs6:St W _ (ob (w4.heap.size+1) (.loop {state:=.exhausted,pending:=none,fn:=fn,tmps:=a4.tmps,params:=#[12],assign:=RD,body:=bd,defers:=w4.heap.size})::ob w4.heap.size (.deferred (some []))::Sep.pt r1 [.pointer (some (ad a 0))]::Sep.pt rn [.i n']::Sep.pt r0 [.pointer (some (ad a 0))]::cL a (b',fM)::L):=hs6;show(Code.seq q7 .ret).wpIn Fence.wide 0 Tryz.prog _ _ _;have ha5:S3 K8 [{target:=.collected w4.heap.size,args:=#[]}] [(5,.pointer (some (ad rn 0)))] {a4 with defers:={target:=.collected w4.heap.size,args:=#[]}::a4.defers}:=by
  refine S3.cons (Xv.get rfl) ⟨⟨⟨Xv.1.1.size,rfl,λt v hl=>by simp[lk] at hl⟩,Xv.1.2⟩,?_⟩;show _::a4.defers=_;rw[Xv.2]
 refine A6 (F:=K8) (.inl rfl) okF dr7 ha5 ?_;rw[d7];refine T.at ?_ hs6;refine nR (r:=rn) (o:=0) rfl (nQ ?_);intro w7 Xn a7 Eg;show Code.ret.wpIn Fence.wide 0 Tryz.prog _ a7 w7;refine wpIn_ret ?_;show LeavesInM _ _ _ _ _ _ a7.defers _ _;rw[Eg.2];have hD:=(Xn.obj (k:=1) (b:=w4.heap.size) rfl).1;have hs8:=Xn.put (k:=1) (b:=w4.heap.size) (.deferred none) rfl (by simp);refine⟨by simp,.inl ⟨_,_,rfl,run_takeDeferred hD,?_⟩⟩;refine⟨_,results_tmp n82.2 _ _ _,_,rfl,?_⟩;have e4:a7.tmps.getD 4 undef=.i n':=by rw[Array.getD_eq_getD_getElem?,Eg.get (t:=4) rfl];rfl
 rw[e4];obtain⟨m',Kn,YT,VD,-,adI⟩:=Rc;have:=I5 Kn VD HC;rw[<-JS] at this;subst this;exact hk n' b' fM _ Kn YT (by omega) hs8.drop.drop.drop.drop.drop
end Go.Proofs.YtibneekkkdnmgaaGreatDoor
namespace Go.Proofs.YtibneekkkdnmgaaGreatDoor
open Go.Den Go.Prog
noncomputable abbrev P:Program:=Tryz.prog
def mixed:P.follows .mixedOrders=true:=by kernel_rfl
def eqs:Xc:=[(45,[.u 0,.u 0]),(47,dV),(52,iA),(54,cG)]
def ad6:sF P eqs:=sF.cons (by kernel_rfl) (by kernel_rfl) Tryz.underlying45 (sF.cons (by kernel_rfl) (by kernel_rfl) Tryz.underlying47 (sF.cons (by kernel_rfl) (by kernel_rfl) Tryz.underlying52 (sF.cons (by kernel_rfl) (by kernel_rfl) Tryz.underlying54 sF.nil)))
def t0:oA P []:=trivial
def tk{T:HF}{g:Nat}{p:WP}(e:aF P g p)(h:oA P T):oA P ((g,p)::T):=⟨.inl e,h⟩
def tx{T:HF}{g:Nat}{p:WP}(e:ZK P g p)(h:oA P T):oA P ((g,p)::T):=⟨.inr e,h⟩
section
variable {g1 g2 g3 g4 g5 g6 g7 g8:Nat} {p1 p2 p3 p4 p5 p6 p7 p8:WP}
def t1(a:aF P g1 p1):oA P [(g1,p1)]:=tk a t0
def t2(a:aF P g1 p1)(b:aF P g2 p2):oA P [(g1,p1),(g2,p2)]:=tk a (t1 b)
def t3(a:aF P g1 p1)(b:aF P g2 p2)(c:aF P g3 p3):oA P [(g1,p1),(g2,p2),(g3,p3)]:=tk a (t2 b c)
def t4(a:aF P g1 p1)(b:aF P g2 p2)(c:aF P g3 p3)(d:aF P g4 p4):oA P [(g1,p1),(g2,p2),(g3,p3),(g4,p4)]:=tk a (t3 b c d)
def t5(a:aF P g1 p1)(b:aF P g2 p2)(c:aF P g3 p3)(d:aF P g4 p4)(e:aF P g5 p5):oA P [(g1,p1),(g2,p2),(g3,p3),(g4,p4),(g5,p5)]:=tk a (t4 b c d e)
def t6(a:aF P g1 p1)(b:aF P g2 p2)(c:aF P g3 p3)(d:aF P g4 p4)(e:aF P g5 p5)(f:aF P g6 p6):oA P [(g1,p1),(g2,p2),(g3,p3),(g4,p4),(g5,p5),(g6,p6)]:=tk a (t5 b c d e f)
end
def fi{n k:Nat}{f g:WK}{w:World}(h:f w)(e:f=g:=by kernel_rfl)(l:Nat.ble n k=true:=by rfl):n<=k/\g w:=⟨aK l,e▸h⟩
def em{T:HF}{g:Nat}{fn:Func}{p:WP}(m:List Nat)(KR:List (Nat×List (Nat×Value)))(hT:oA P T)(hf:P.funcs[g]?=some fn)
 (hp:∀args K w,p args K w->args.length<=fn.ntmps/\body P T eqs fn.ntmps m KR fn.results.toList (fn.body.getD .skip) args K w)(hs:fn.body.isSome=true:=by rfl)(hn:(fn.name== "runtime.NumGoroutine")=false:=by decide):aF P g p:=
 V0 m KR hT ad6 mixed hf (by obtain⟨c,hc⟩:=Option.isSome_iff_exists.1 hs;rw[hc];rfl) hn hp
def en{T:HF}{g:Nat}{fn:Func}{p:WP}(KR:List (Nat×List (Nat×Value)))(hT:oA P T)(hf:P.funcs[g]?=some fn)
 (hp:∀args K w,p args K w->args.length<=fn.ntmps/\body P T eqs fn.ntmps [] KR fn.results.toList (fn.body.getD .skip) args K w)(hs:fn.body.isSome=true:=by rfl)(hn:(fn.name== "runtime.NumGoroutine")=false:=by decide):aF P g p:=em [] KR hT hf hp hs hn
def e0{T:HF}{g:Nat}{fn:Func}{p:WP}(hT:oA P T)(hf:P.funcs[g]?=some fn)
 (hp:∀args K w,p args K w->args.length<=fn.ntmps/\body P T eqs fn.ntmps [] [] fn.results.toList (fn.body.getD .skip) args K w)(hs:fn.body.isSome=true:=by rfl)(hn:(fn.name== "runtime.NumGoroutine")=false:=by decide):aF P g p:=em [] [] hT hf hp hs hn
def uc{k:List Kd}{F:Fu k}{T:HF}{g:Nat}{fn:Func}(m:List Nat)(KR:List (Nat×List (Nat×Value)))(hT:oA P T)(hf:P.funcs[g]?=some fn)
 (e:F=cur k (body P T eqs fn.ntmps m KR fn.results.toList (fn.body.getD .skip)):=by kernel_rfl)(l:Nat.ble k.length fn.ntmps=true:=by rfl)(hs:fn.body.isSome=true:=by rfl)(hn:(fn.name== "runtime.NumGoroutine")=false:=by decide):aF P g (U k F):=
 em m KR hT hf (λa K w h=>by subst e;obtain⟨h1,h2⟩:=CI k _ h;exact⟨by rw[h1];exact aK l,h2⟩) hs hn
def ub{k:List Kd}{F:Fu k}{T:HF}{g:Nat}{fn:Func}(KR:List (Nat×List (Nat×Value)))(hT:oA P T)(hf:P.funcs[g]?=some fn)
 (e:F=cur k (body P T eqs fn.ntmps [] KR fn.results.toList (fn.body.getD .skip)):=by kernel_rfl)(l:Nat.ble k.length fn.ntmps=true:=by rfl)(hs:fn.body.isSome=true:=by rfl)(hn:(fn.name== "runtime.NumGoroutine")=false:=by decide):aF P g (U k F):=uc [] KR hT hf e l hs hn
def ua{k:List Kd}{F:Fu k}{T:HF}{g:Nat}{fn:Func}(hT:oA P T)(hf:P.funcs[g]?=some fn)
 (e:F=cur k (body P T eqs fn.ntmps [] [] fn.results.toList (fn.body.getD .skip)):=by kernel_rfl)(l:Nat.ble k.length fn.ntmps=true:=by rfl)(hs:fn.body.isSome=true:=by rfl)(hn:(fn.name== "runtime.NumGoroutine")=false:=by decide):aF P g (U k F):=uc [] [] hT hf e l hs hn
def agu:ZK P 280 rL.u:=λargs K w h=>by
 unfold rL.u at h;split at h
 ·rename_i x y c;obtain⟨⟨⟨hx,hy⟩,h0,h1⟩,hk⟩:=h;exact⟨_,_,by rw[run_callFunc_extern Tryz.func280 (by kernel_rfl) (by kernel_rfl) (by kernel_rfl) (e:=add64Entry) (by kernel_rfl),run_add64 x y c hx hy h0 h1];rfl,hk⟩
 ·exact h.elim
def ac6:Array Value->Sem Value:=λargs=>do
 let(x,y,b)<-Extern.MathBitsCarry.three "Sub64" args
 pure (Extern.MathBitsCarry.pair ((x+Extern.MathBitsCarry.m64-y-b)%Extern.MathBitsCarry.m64) (if x<y+b then 1 else 0))
def XY(x y b:Nat)(hb:b<=1)(w:World):(ac6 #[.u x,.u y,.u b]).run P w=
 .ok (.tuple #[.u (((x+18446744073709551616-y-b)%18446744073709551616:Nat):Int),.u ((if x<y+b then 1 else 0:Nat):Int)]) w:=by
 have:b=0\/b=1:=by omega
 rcases this with rfl|rfl<;>rfl
def agv:ZK P 279 rK.u:=λargs K w h=>by
 unfold rK.u at h;split at h
 ·rename_i x y c;obtain⟨⟨⟨hx,hy,hy2⟩,h0,h1⟩,hk⟩:=h;obtain⟨x,rfl⟩:=bt hx;obtain⟨y,rfl⟩:=bt hy;obtain⟨c,rfl⟩:=bt h0;refine⟨_,_,by rw[run_callFunc_extern Tryz.func279 (by kernel_rfl) (by kernel_rfl) (by kernel_rfl) (e:=ac6) (by kernel_rfl),XY x y c (by omega)];rfl,?_⟩;have a1:(((x+18446744073709551616-y-c)%18446744073709551616:Nat):Int)=((x:Int) -y-c)%18446744073709551616:=by omega
  have a2:((if x<y+c then 1 else 0:Nat):Int)=if(x:Int)<y+c then 1 else 0:=by split<;>split<;>omega
  rw[a1,a2];exact hk
 ·exact h.elim
end Go.Proofs.YtibneekkkdnmgaaGreatDoor
namespace Go.Proofs
open Go.Shelf
def Tryz.D5:Go.Shelf.Ren:=⟨λ|169=>201|n=>n,λ|70=>283|9=>9|0=>0|72=>285|37=>163|127=>331|3=>3|5=>5|n=>n,λ|n=>n⟩
theorem Tryz.Yz:Go.Proofs.Lays.n169 Tryz.prog Tryz.D5:={
 mixed:=by kernel_rfl
 f169:=Tryz.func201.trans (congrArg some (by kernel_rfl))
 t0:=Tryz.underlying0
 a0:=Tryz.isAgg0
 z0:=Tryz.sizeOf0
 v0:=Tryz.zeroValue0
 t3:=Tryz.underlying3
 a3:=Tryz.isAgg3
 z3:=Tryz.sizeOf3
 v3:=Tryz.zeroValue3
 t9:=Tryz.underlying9
 a9:=Tryz.isAgg9
 z9:=Tryz.sizeOf9
 v9:=Tryz.zeroValue9
 t37:=Tryz.underlying163
 a37:=Tryz.isAgg163
 z37:=Tryz.sizeOf163
 v37:=Tryz.zeroValue163
 t70:=Tryz.underlying283
 a70:=Tryz.isAgg283
 z70:=Tryz.sizeOf283
 v70:=Tryz.zeroValue283
 t72:=Tryz.underlying285
 a72:=Tryz.isAgg285
 z72:=Tryz.sizeOf285
 v72:=Tryz.zeroValue285
 t127:=Tryz.underlying331
 a127:=Tryz.isAgg331
 z127:=Tryz.sizeOf331
 v127:=Tryz.zeroValue331}
theorem Tryz.CM:Builder.Extra Tryz.prog Tryz.D5:={
 sizeBuilder:=by kernel_rfl
 liesBuilder:=by kernel_rfl
 t5:=Tryz.underlying5
 a5:=Tryz.isAgg5
 z5:=Tryz.sizeOf5
 v5:=Tryz.zeroValue5
 infoByte:=by kernel_rfl
 cellsByte:=by kernel_rfl
 sizeByte:=by kernel_rfl
 neB5:=by decide}
open Go.RowKit in
theorem Tryz.Builder_String_any(B b:Nat)(l:List UInt8)(w:World)(h:Lib.IsBuilder 285 5 B b (Lib.byteCells l) w)(hBw:B<=w.heap.size):
 Calls Tryz.prog 201 #[.pointer (some ⟨b,0,none⟩)] w λe w'=>e=.returned (.string ⟨l.toArray⟩)/\Below B w w':=Any.Builder_String_any Tryz.Yz Tryz.CM B b l w h hBw
def Tryz.zM:Go.Shelf.Ren:=⟨λ|105=>148|212=>196|99=>197|165=>198|166=>199|170=>200|169=>201|263=>241|264=>242|206=>243|240=>244|241=>245|276=>292|277=>293|n=>n,λ|9=>9|3=>3|4=>4|20=>20|0=>0|46=>229|109=>280|5=>5|72=>285|76=>288|51=>322|146=>327|53=>27|148=>329|70=>283|37=>163|75=>287|127=>331|164=>361|80=>171|n=>n,λ|n=>n⟩
theorem Tryz.QZ:Go.Proofs.Lays.n105 Tryz.prog Tryz.zM:={
 mixed:=by kernel_rfl
 f99:=Tryz.func197.trans (congrArg some (by kernel_rfl))
 f105:=Tryz.func148.trans (congrArg some (by kernel_rfl))
 f165:=Tryz.func198.trans (congrArg some (by kernel_rfl))
 f166:=Tryz.func199.trans (congrArg some (by kernel_rfl))
 f169:=Tryz.func201.trans (congrArg some (by kernel_rfl))
 f170:=Tryz.func200.trans (congrArg some (by kernel_rfl))
 f206:=Tryz.func243.trans (congrArg some (by kernel_rfl))
 f212:=Tryz.func196.trans (congrArg some (by kernel_rfl))
 f240:=Tryz.func244.trans (congrArg some (by kernel_rfl))
 f241:=Tryz.func245.trans (congrArg some (by kernel_rfl))
 f263:=Tryz.func241.trans (congrArg some (by kernel_rfl))
 f264:=Tryz.func242.trans (congrArg some (by kernel_rfl))
 f276:=Tryz.func292.trans (congrArg some (by kernel_rfl))
 f277:=Tryz.func293.trans (congrArg some (by kernel_rfl))
 t0:=Tryz.underlying0
 a0:=Tryz.isAgg0
 z0:=Tryz.sizeOf0
 v0:=Tryz.zeroValue0
 t3:=Tryz.underlying3
 a3:=Tryz.isAgg3
 z3:=Tryz.sizeOf3
 v3:=Tryz.zeroValue3
 t4:=Tryz.underlying4
 a4:=Tryz.isAgg4
 z4:=Tryz.sizeOf4
 v4:=Tryz.zeroValue4
 t5:=Tryz.underlying5
 a5:=Tryz.isAgg5
 z5:=Tryz.sizeOf5
 v5:=Tryz.zeroValue5
 t9:=Tryz.underlying9
 a9:=Tryz.isAgg9
 z9:=Tryz.sizeOf9
 v9:=Tryz.zeroValue9
 t20:=Tryz.underlying20
 a20:=Tryz.isAgg20
 z20:=Tryz.sizeOf20
 v20:=Tryz.zeroValue20
 t37:=Tryz.underlying163
 a37:=Tryz.isAgg163
 z37:=Tryz.sizeOf163
 v37:=Tryz.zeroValue163
 t46:=Tryz.underlying229
 a46:=Tryz.isAgg229
 z46:=Tryz.sizeOf229
 v46:=Tryz.zeroValue229
 t51:=Tryz.underlying322
 a51:=Tryz.isAgg322
 z51:=Tryz.sizeOf322
 v51:=Tryz.zeroValue322
 t53:=Tryz.underlying27
 a53:=Tryz.isAgg27
 z53:=Tryz.sizeOf27
 v53:=Tryz.zeroValue27
 t70:=Tryz.underlying283
 a70:=Tryz.isAgg283
 z70:=Tryz.sizeOf283
 v70:=Tryz.zeroValue283
 t72:=Tryz.underlying285
 a72:=Tryz.isAgg285
 z72:=Tryz.sizeOf285
 v72:=Tryz.zeroValue285
 t75:=Tryz.underlying287
 a75:=Tryz.isAgg287
 z75:=Tryz.sizeOf287
 v75:=Tryz.zeroValue287
 t76:=Tryz.underlying288
 a76:=Tryz.isAgg288
 z76:=Tryz.sizeOf288
 v76:=Tryz.zeroValue288
 t109:=Tryz.underlying280
 a109:=Tryz.isAgg280
 z109:=Tryz.sizeOf280
 v109:=Tryz.zeroValue280
 t127:=Tryz.underlying331
 a127:=Tryz.isAgg331
 z127:=Tryz.sizeOf331
 v127:=Tryz.zeroValue331
 t146:=Tryz.underlying327
 a146:=Tryz.isAgg327
 z146:=Tryz.sizeOf327
 v146:=Tryz.zeroValue327
 t148:=Tryz.underlying329
 a148:=Tryz.isAgg329
 z148:=Tryz.sizeOf329
 v148:=Tryz.zeroValue329
 t164:=Tryz.underlying361
 a164:=Tryz.isAgg361
 z164:=Tryz.sizeOf361
 v164:=Tryz.zeroValue361}
theorem Tryz.wM:Builder.Extra Tryz.prog Tryz.zM:={
 sizeBuilder:=by kernel_rfl
 liesBuilder:=by kernel_rfl
 t5:=Tryz.underlying5
 a5:=Tryz.isAgg5
 z5:=Tryz.sizeOf5
 v5:=Tryz.zeroValue5
 infoByte:=by kernel_rfl
 cellsByte:=by kernel_rfl
 sizeByte:=by kernel_rfl
 neB5:=by decide}
open Go.RowKit Go.Lib in
theorem Tryz.strings_Repeat(s:ByteArray)(c:Nat)(w:World)(hc:c<=9223372036854775807)(hlen:s.size* c<=140737488355328):
 Calls Tryz.prog 148 #[.string s,.int .i64 c] w λe w'=>e=.returned (.string ⟨(Lib.repeatL s.data.toList c).toArray⟩)/\Below w.heap.size w w':=Any.strings_Repeat Tryz.QZ Tryz.wM s c w hc hlen
open Go.RowKit Go.Lib in
theorem Tryz.YA:Go.Proofs.Lays.n166 Tryz.prog Tryz.zM:={Tryz.QZ with}
open Go.RowKit in
theorem Tryz.Builder_WriteString(B b:Nat)(bs:List Value)(s:ByteArray)(w:World)(h:Lib.IsBuilder 285 5 B b bs w)(hlen:bs.length+s.size<=140737488355328)(hBw:B<=w.heap.size):
 Calls Tryz.prog 199 #[.pointer (some ⟨b,0,none⟩),.string s] w λe w'=>e=.returned (.tuple #[.int .i64 s.size,.nilIface])/\(Lib.BuilderAt 285 5 B b (.pointer (some ⟨b,0,none⟩)) (bs++Lib.strCells s) w'/\Below B w w'):=Any.Builder_WriteString Tryz.YA Tryz.wM B b bs s w h hlen hBw
end Go.Proofs
namespace Go.Proofs.YtibneekkkdnmgaaGreatDoor
open Go.Den Go.Prog
def QF(l:List UInt8):∀n,F7 l n=Go.Lib.repeatL l n
 |0=>rfl
 |n+1=>by simp[F7,Go.Lib.repeatL,QF l n]
def aeK:aF P 148 strings_Repeat.u:=⟨⟨_,Tryz.func148,rfl,rfl⟩,λargs K w h=>by
 unfold strings_Repeat.u at h
 split at h
 ·rename_i s n
  obtain⟨⟨h0,h1,h2⟩,hk⟩:=h
  obtain⟨m,rfl⟩:=bt h0
  refine(Go.Proofs.Tryz.strings_Repeat s m w (by omega) (by simpa using h1)).mono λe w' ⟨he,hb⟩=>⟨_,he,?_⟩
  rw[<-QF];exact hk w' hb
 ·exact h.elim⟩
def ahb:aF P 199 iP.u:=⟨⟨_,Tryz.func199,rfl,rfl⟩,λargs K w h=>by
 unfold iP.u at h
 split at h
 ·rename_i p s
  obtain⟨B,b,l,rfl,hb,hl,hB,hk⟩:=h
  refine(Go.Proofs.Tryz.Builder_WriteString B b (Go.Lib.byteCells l) s w hb (by simpa [Go.Lib.byteCells] using hl) hB).mono λe w' ⟨he,TR,hbl⟩=>⟨_,he,hk w' (.inr ?_) hbl⟩
  have e:Go.Lib.byteCells (l++s.data.toList)=Go.Lib.byteCells l++Go.Lib.strCells s:=by simp[Go.Lib.byteCells,Go.Lib.strCells]
  rw[e];exact TR
 ·exact h.elim⟩
def aha:aF P 201 km.u:=⟨⟨_,Tryz.func201,rfl,rfl⟩,λargs K w h=>by
 unfold km.u at h
 split at h
 ·obtain⟨B,b,l,rfl,hb,hB,hk⟩:=h
  exact(Go.Proofs.Tryz.Builder_String_any B b l w hb hB).mono λe w' ⟨he,hbl⟩=>⟨_,he,hk w' hbl⟩
 ·exact h.elim⟩
def e60:aF P 60 (U [.s] pQ):=ua t0 Tryz.func60
def acf:aF P 108 (U [.p,.n] fB):=ua t0 Tryz.func108
def TV:aF P 61 aN.u:=en [(3,[(4,vi),(5,vi),(13,vl),(14,vi),(15,vi)])] (t1 acf) Tryz.func61 λa K w h=>by unfold aN.u at h;split at h;exact fi h;exact h.elim
def ahV:aF P 110 (U [.s] rW):=ub [(5,[(2,vq),(3,vb),(4,vq),(10,vi)])] t0 Tryz.func110
def e66:aF P 66 cZ.u:=e0 (t2 acf ahV) Tryz.func66 λa K w h=>by unfold cZ.u at h;split at h;exact fi h;exact h.elim
def Pq:aF P 109 df.u:=e0 t0 Tryz.func109 λa K w h=>by unfold df.u at h;split at h;exact fi h;exact h.elim
def e63:aF P 63 oS.u:=e0 (t3 TV e66 Pq) Tryz.func63 λa K w h=>by unfold oS.u at h;split at h;exact fi h;exact h.elim
def e65:aF P 65 nO.u:=e0 (t3 TV e66 Pq) Tryz.func65 λa K w h=>by unfold nO.u at h;split at h;exact fi h;exact h.elim
def e69:aF P 69 (U [.p] ml):=ua t0 Tryz.func69
def ahR:aF P 121 (U [.p] qC):=ua t0 Tryz.func121
def ahe:aF P 191 (U [] xp):=ua t0 Tryz.func191
def ahd:aF P 192 (U [.p] qO):=ua t0 Tryz.func192
def ahc:aF P 193 (U [.p] sW):=ua t0 Tryz.func193
def aeL:aF P 144 (U [] u5):=ua (t3 ahe ahd ahc) Tryz.func144
def agL:aF P 251 (U [.g] uM):=ua t0 Tryz.func251
def Zc:aF P 205 (U [.p,.g] dz):=ub [(5,[(3,vq),(4,vi),(5,vb),(6,vu),(7,vi),(8,vu)])] (t1 agL) Tryz.func205
def Pp:aF P 161 (U [.p,.g] iD):=ua (t1 Zc) Tryz.func161
def ag7:aF P 206 (U [.p] qG):=ub [(2,[(2,vl),(3,vi)]),(6,[(30,vl),(31,vi),(32,vi)])] (t1 Zc) Tryz.func206
def ab8:aF P 162 (U [.p,.g,.n] eu):=ua (t2 Zc ag7) Tryz.func162
def KD:aF P 207 (U [.p,.v] iL):=ua t0 Tryz.func207
def ag6:aF P 208 cI.u:=e0 t0 Tryz.func208 λa K w h=>by unfold cI.u at h;split at h;exact fi h;exact h.elim
def aeF:aF P 163 (U [.p,.g] jj):=ua (t1 KD) Tryz.func163
def agJ:aF P 253 fX.u:=e0 t0 Tryz.func253 λa K w h=>by unfold fX.u at h;split at h;exact fi h;exact h.elim
def agK:aF P 252 (U [.n,.v] we):=ub [(2,[(4,vi),(5,vi),(6,vi)])] (t1 agJ) Tryz.func252
def ab4:aF P 209 (U [.p,.n] mo):=ua (t1 agK) Tryz.func209
def aeE:aF P 164 (U [.p,.n,.n] jG):=ua (t1 ab4) Tryz.func164
def Zd:aF P 165 (U [.p] gH):=ua t0 Tryz.func165
def ag5:aF P 210 de.u:=e0 t0 Tryz.func210 λa K w h=>by unfold de.u at h;split at h;exact fi h;exact h.elim
def aeD:aF P 166 (U [.p,.g] kk):=ua (t1 KD) Tryz.func166
def ab7:aF P 167 (U [.g] u4):=ua t0 Tryz.func167
def aen:aF P 254 (U [.g,.g] sj):=ua t0 Tryz.func254
def aew:aF P 211 (U [.p,.n] jF):=uc [1] [(0,[(1,vi)])] (t1 aen) Tryz.func211
def ab6:aF P 168 (U [.p,.g] mn):=ua (t1 aew) Tryz.func168
def aeC:aF P 169 (U [.p] na):=ua t0 Tryz.func169
def ahQ:aF P 122 (U [.l,.l,.n,.n] eX):=ub [(5,[(8,vp),(9,vi),(10,vp),(46,vl),(47,vi),(48,vi)]),(13,[(8,vp),(9,vi),(10,vp),(77,vl),(78,vi),(79,vi)])] (tk aeL (tk Pp (tk ab8 (tk aeF (tk aeE (tk Zd (tk aeD (tk ab7 (tk ab6 (tk aeC t0)))))))))) Tryz.func122
def e85:aF P 85 (U [.s] pk):=ub [(10,[(2,vp),(3,vi),(4,vp),(5,vi),(6,vi),(8,vi),(9,vl),(38,vi),(39,vi)]),(15,[(2,vp),(3,vi),(4,vp),(5,vi),(6,vi),(9,vl),(10,vl),(47,vi),(48,vi)])] (tk e60 (tk TV (tk e63 (tk e65 (tk e69 (tk Pq (tk ahR (tk ahQ t0)))))))) Tryz.func85
def e48:aF P 48 (U [.p] kP):=ua t0 Tryz.func48
def e21:aF P 21 (U [.p] fk):=ua (t1 e48) Tryz.func21
def e49:aF P 49 (U [.p] mE):=ua t0 Tryz.func49
def e22:aF P 22 (U [.p] fZ):=ua (t1 e49) Tryz.func22
def e26:aF P 26 (U [.p] iS):=ua t0 Tryz.func26
def e30:aF P 30 (U [.p] ie):=ua t0 Tryz.func30
def TU:aF P 90 (U [.p,.n,.n] bq):=ub [(1,[(9,vi),(10,vi)])] t0 Tryz.func90
def e93:aF P 93 (U [.p] dK):=ua t0 Tryz.func93
def ace:aF P 113 (U [.g] jB):=ua t0 Tryz.func113
def ahr:aF P 174 (U [.g] ya):=ub [(3,[(1,vq),(2,.s .empty),(3,vq),(5,vi)])] t0 Tryz.func174
def Zf:aF P 129 (U [.p,.g] mj):=ua (t1 ahr) Tryz.func129
def aeP:aF P 123 (U [.p,.g] sA):=ub [(4,[(3,vq),(20,.agg #[]),(21,vi)])] (t3 TU ace Zf) Tryz.func123
def acd:aF P 114 (U [.g] gv):=ua t0 Tryz.func114
def aeO:aF P 124 (U [.p,.g] qV):=ub [(4,[(3,vq),(20,.agg #[]),(21,vi)])] (t3 TU acd Zf) Tryz.func124
def e86:aF P 86 (U [.p] tQ):=ub [(8,[(2,.s .empty),(3,vq),(31,vl),(32,vi),(33,vi)]),(13,[(2,.s .empty),(3,vq),(42,vl),(43,vi),(44,vi)])] (tk e21 (tk e22 (tk e26 (tk e30 (tk TU (tk e93 (tk aeP (tk aeO t0)))))))) Tryz.func86
def e47:aF P 47 (U [.p] qc):=ua (t2 e85 e86) Tryz.func47
def e20:aF P 20 (U [.p] dW):=ua (t1 e47) Tryz.func20
def e62:aF P 62 (U [.p,.v] nr):=ub [(3,[(4,vl),(5,vl),(7,vi),(8,vi)])] (t3 e63 TV Pq) Tryz.func62
def e64:aF P 64 (U [.p,.v] mC):=ub [(3,[(4,vl),(5,vl),(7,vi),(8,vi)])] (t3 TV Pq e65) Tryz.func64
def e67:aF P 67 (U [.p] mT):=ua (t1 TV) Tryz.func67
def e68:aF P 68 (U [.p,.v] qb):=ub [(3,[(4,vl),(5,vl),(7,vi),(8,vi)])] (t3 TV e66 Pq) Tryz.func68
def aeS:aF P 111 (U [.g] ue):=ua t0 Tryz.func111
def aeR:aF P 112 (U [.g] iG):=ua t0 Tryz.func112
def e70:aF P 70 (U [.g] pP):=ub [(6,[(2,vb),(20,vl),(21,vi),(22,vi)]),(13,[(2,vb),(33,vl),(34,vi),(35,vi)])] (t4 aeS aeR ace acd) Tryz.func70
def e33:aF P 33 (U [.s] kF):=ua (tk e60 (tk TV (tk e62 (tk e64 (tk e66 (tk e67 (tk e68 (tk e69 (tk e70 t0))))))))) Tryz.func33
def e73:aF P 73 (U [.g] qz):=ub [(2,[(1,vq),(2,vb),(10,vl),(11,vi),(12,vi)]),(8,[(1,vq),(2,vb),(24,vl),(25,vi),(26,vi)]),(14,[(1,vq),(2,vb),(35,vl),(36,vi),(37,vi)])] (t2 ace acd) Tryz.func73
def e91:aF P 91 (U [.p,.l] lD):=ub [(2,[(12,vl),(13,vi),(14,vi)])] (t2 TU aeP) Tryz.func91
def e92:aF P 92 (U [.p,.l] kU):=ub [(2,[(12,vl),(13,vi),(14,vi)])] (t2 TU aeO) Tryz.func92
def e54:aF P 54 (U [.g] kW):=ub [(7,[(1,vq),(2,.s .empty),(3,vq),(26,vl),(27,vi),(28,vi)])] (t5 e73 TU e91 e92 e93) Tryz.func54
def e94:aF P 94 (U [.g] ri):=ua t0 Tryz.func94
def aem:aF P 255 (U [.p] gw):=ua t0 Tryz.func255
def aev:aF P 212 (U [.p,.n] dU):=ua (t1 aem) Tryz.func212
def Tf:aF P 170 (U [.p,.g] dY):=ua (t2 Pp aev) Tryz.func170
def ahP:aF P 125 (U [.p,.l] uQ):=ub [(3,[(4,vl),(5,vl),(10,vl),(11,vi),(12,vi)])] (t1 Tf) Tryz.func125
def ab3:aF P 213 (U [.p,.n] dS):=ua (t1 Zd) Tryz.func213
def Te:aF P 171 (U [.p,.g] iN):=ua (t2 Pp ab3) Tryz.func171
def ahO:aF P 126 (U [.p,.l] tJ):=ub [(3,[(4,vl),(5,vl),(10,vl),(11,vi),(12,vi)])] (t1 Te) Tryz.func126
def ag4:aF P 214 (U [.p,.n,.n,.b] gG):=ub [(9,[(8,vl),(9,vi),(10,vi),(11,vl)]),(14,[(8,vl),(11,vl),(12,vi),(13,vi)])] (t1 ab4) Tryz.func214
def aht:aF P 172 (U [.p,.n,.n,.b] oE):=ub [(5,[(8,vl),(9,vl),(22,vl),(23,vi),(24,vi)])] (t2 ab3 ag4) Tryz.func172
def ahN:aF P 127 (U [.p,.g] nH):=ub [(3,[(3,vq),(4,vl),(5,vl),(17,vl),(18,vi),(19,vi)])] (t1 aht) Tryz.func127
def e95:aF P 95 (U [.p,.g] KQ):=ua (t4 aeR ahP ahO ahN) Tryz.func95
def ahs:aF P 173 (U [.p,.b] qB):=ua (t1 TU) Tryz.func173
def ahM:aF P 128 (U [.p,.g] pe):=ub [(5,[(3,vq),(30,.agg #[]),(31,vi)])] (t3 TU Zf ahs) Tryz.func128
def e96:aF P 96 (U [.g] xZ):=ub [(8,[(2,.s .empty),(3,vi),(4,vq),(28,vl),(29,vi),(30,vi)])] (tk e70 (tk TU (tk e91 (tk e92 (tk e93 (tk ahM (tk Zf t0))))))) Tryz.func96
def Tg:aF P 136 (U [.n] mQ):=ua t0 Tryz.func136
def e99:aF P 99 (U [.g,.n] qn):=ua (t1 Tg) Tryz.func99
def e76:aF P 76 (U [.p] fO):=ua t0 Tryz.func76
def aeA:aF P 185 (U [.p,.n] pH):=ua t0 Tryz.func185
def Ze:aF P 137 (U [.p,.n] kv):=ub [(6,[(4,.s .empty),(5,vi),(6,vi)])] (t1 aeA) Tryz.func137
def ahG:aF P 138 (U [.s] yf):=ub [(3,[(2,vq),(3,vq),(14,.agg #[]),(15,vi)])] (t2 e60 TV) Tryz.func138
def aeU:aF P 100 (U [.p] oJ):=ub [(3,[(2,vi),(3,vi),(9,vi),(10,vi)])] (t3 e76 Ze ahG) Tryz.func100
def aeu:aF P 215 (U [.p,.s] mh):=ua t0 Tryz.func215
def aeq:aF P 235 (U [.g] vj):=ua t0 Tryz.func235
def aep:aF P 236 (U [.i .u32] sz):=ua t0 Tryz.func236
def aeo:aF P 237 (U [.i .u32,.s] vJ):=ub [(3,[(4,.int .u32 0),(5,.int .u32 0),(10,vi),(11,vi)]),(7,[(4,.int .u32 0),(5,.int .u32 0),(6,vi),(10,vi),(11,vi),(12,vb),(13,vi),(14,.int .u32 0),(15,.s .empty),(16,vi),(17,.int .u8 0),(18,.int .u32 0),(19,.int .u32 0),(20,vi)])] t0 Tryz.func237
def ahh:aF P 186 (U [.g] rP):=ua (tk TU (tk e93 (tk aeK (tk aeu (tk aeq (tk aep (tk aeo t0))))))) Tryz.func186
def aeQ:aF P 115 (U [] qZ):=ua (t1 aeK) Tryz.func115
def aez:aF P 188 (U [.p] ng):=ua t0 Tryz.func188
def ahg:aF P 187 (U [.p,.n,.s] fC):=ua (t3 aeQ aeA aez) Tryz.func187
def aca:aF P 139 (U [.p,.n,.n,.n,.s] lW):=uc [4] [(6,[(4,.s .empty),(10,vi),(11,vi)])] (t4 e76 Tg ahh ahg) Tryz.func139
def aeM:aF P 140 (U [.g,.n] po):=ua t0 Tryz.func140
def ab':aF P 141 (U [.p] lX):=ub [(6,[(2,vi),(14,vl),(15,vi),(16,vi)])] (t1 aez) Tryz.func141
def ah1:aF P 101 (U [.g,.p,.n,.n,.s] qX):=ua (t3 aca aeM ab') Tryz.func101
def aey:aF P 189 (U [.g] vE):=ua t0 Tryz.func189
def ahF:aF P 142 (U [.g] wD):=ub [(5,[(2,.s .empty),(3,vi),(4,vq),(20,.agg #[]),(21,vi)])] (t3 TU e93 aey) Tryz.func142
def ah0:aF P 102 (U [.p,.n,.g] u2):=ua (t3 aca ab' ahF) Tryz.func102
def aeT:aF P 103 (U [.p] kG):=ua t0 Tryz.func103
def ahZ:aF P 104 (U [.p] jZ):=ua t0 Tryz.func104
def e56:aF P 56 (U [.p] iK):=ua (tk e86 (tk e99 (tk aeU (tk ah1 (tk ah0 (tk aeT (tk ahZ t0))))))) Tryz.func56
def aeN:aF P 130 (U [.p,.n] jY):=ua (t1 Tg) Tryz.func130
def ahq:aF P 175 (U [.n,.s] tF):=ua (t3 TU e93 aeu) Tryz.func175
def ahL:aF P 131 (U [.p,.n,.s] cx):=ua (t5 aeN Tg aca ab' ahq) Tryz.func131
def e97:aF P 97 (U [.p,.s] jJ):=ua (t4 e56 aeU aeN ahL) Tryz.func97
def aho:aF P 177 ib.u:=e0 t0 Tryz.func177 λa K w h=>by unfold ib.u at h;split at h;exact fi h;exact h.elim
def ag3:aF P 216 (U [.l,.v] mL):=ub [(2,[(4,vi),(5,vb),(8,vl),(9,vi),(10,vi)])] (t1 aho) Tryz.func216
def Zb:aF P 217 jV.u:=en [(1,[(8,vi),(9,vi)])] t0 Tryz.func217 λa K w h=>by unfold jV.u at h;split at h;exact fi h;exact h.elim
def M8:aF P 258 (U [.g] iX):=ua t0 Tryz.func258
def agI:aF P 259 (U [.g] mu):=ua (t1 M8) Tryz.func259
def ag1:aF P 219 (U [.g] qu):=ua (t2 M8 agI) Tryz.func219
def ag0:aF P 220 (U [.g,.g] qv):=ua t0 Tryz.func220
def agf:aF P 308 eO.u:=e0 t0 Tryz.func308 λa K w h=>by unfold eO.u at h;split at h;exact fi h;exact h.elim
def aej:aF P 260 (U [.p] oQ):=ua (t1 KD) Tryz.func260
def aei:aF P 262 (U [.p,.g] oK):=ua (t1 Zc) Tryz.func262
def agH:aF P 261 eS.u:=e0 (t1 aei) Tryz.func261 λa K w h=>by unfold eS.u at h;split at h;exact fi h;exact h.elim
def agZ:aF P 221 (U [.p,.g] mX):=ua (t6 Pp ab8 aeF KD aem aej) Tryz.func221
def ahn:aF P 178 mr.u:=e0 (t4 Tf ag1 ag0 agZ) Tryz.func178 λa K w h=>by unfold mr.u at h;split at h;exact fi h;exact h.elim
def agi:aF P 306 (U [.p] tz):=ua t0 Tryz.func306
def ael:aF P 256 fS.u:=e0 (t1 agi) Tryz.func256 λa K w h=>by unfold fS.u at h;split at h;exact fi h;exact h.elim
def agU:aF P 228 eP.u:=e0 t0 Tryz.func228 λa K w h=>by unfold eP.u at h;split at h;exact fi h;exact h.elim
def ags:aF P 283 fx.u:=e0 (t1 ab6) Tryz.func283 λa K w h=>by unfold fx.u at h;split at h;exact fi h;exact h.elim
def agc:aF P 314 (U [.p,.n] jL):=ua (t1 ab4) Tryz.func314
def agd:aF P 313 eW.u:=e0 (t2 aei agc) Tryz.func313 λa K w h=>by unfold eW.u at h;split at h;exact fi h;exact h.elim
def af1:aF P 330 (U [.p,.n] fR):=uc [1] [(0,[(1,vi)]),(2,[(1,vi),(4,vi),(5,vi)])] (t1 aen) Tryz.func330
def af7:aF P 320 (U [.p,.n] qF):=ua (t2 aew af1) Tryz.func320
def aee:aF P 282 (U [.p,.n] mV):=ub [(4,[(4,vb),(12,vl),(13,vi),(14,vi)])] (t1 af7) Tryz.func282
def agb:aF P 315 eV.u:=e0 (t1 aee) Tryz.func315 λa K w h=>by unfold eV.u at h;split at h;exact fi h;exact h.elim
def af8:aF P 319 cH.u:=e0 t0 Tryz.func319 λa K w h=>by unfold cH.u at h;split at h;exact fi h;exact h.elim
def af6:aF P 321 dc.u:=e0 t0 Tryz.func321 λa K w h=>by unfold dc.u at h;split at h;exact fi h;exact h.elim
def agh:aF P 307 (U [.p,.n] tA):=ub [(1,[])] (tk ags (tk agd (tk agb (tk agH (tk agU (tk agf (tk ag6 (tk af8 (tk ag5 (tk af6 t0)))))))))) Tryz.func307
def aek:aF P 257 fU.u:=e0 (t1 agh) Tryz.func257 λa K w h=>by unfold fU.u at h;split at h;exact fi h;exact h.elim
def ag2:aF P 218 (U [.p,.l,.l,.v] nu):=ub [(2,[(8,vi),(14,vl),(15,vi),(16,vi)])] (t4 aek ael ahn Zb) Tryz.func218
def ahp:aF P 176 (U [.p,.l,.v,.v] pW):=ub [(3,[(8,vl),(9,vl),(10,vi)])] (t3 ag3 Zb ag2) Tryz.func176
def ahK:aF P 132 (U [.p,.l] sy):=ua (t1 ahp) Tryz.func132
def ahl:aF P 180 gK.u:=e0 t0 Tryz.func180 λa K w h=>by unfold gK.u at h;split at h;exact fi h;exact h.elim
def agY:aF P 222 (U [.l,.v] l6):=ub [(2,[(4,vi),(5,vb),(8,vl),(9,vi),(10,vi)])] (t1 ahl) Tryz.func222
def Za:aF P 225 (U [.g] sU):=ua t0 Tryz.func225
def Y':aF P 264 (U [.g] mB):=ua t0 Tryz.func264
def agG:aF P 263 (U [.g] ln):=ub [(3,[(1,vq),(2,vb),(3,vi),(6,.agg #[]),(7,vi)])] (t2 Za Y') Tryz.func263
def agF:aF P 265 (U [.g] oX):=ua (t1 M8) Tryz.func265
def ad9:aF P 309 (U [.g] qW):=ua t0 Tryz.func309
def agE:aF P 266 (U [.g] kI):=ua (t2 M8 ad9) Tryz.func266
def aet:aF P 224 (U [.g] fK):=ua (t6 Za M8 agG Y' agF agE) Tryz.func224
def agt:aF P 281 (U [.p,.n,.g] kO):=ua (t2 KD aev) Tryz.func281
def aer:aF P 233 (U [.p,.g] k8):=ua (t3 Pp Tf agt) Tryz.func233
def aeh:aF P 267 (U [.g,.g] vd):=ua t0 Tryz.func267
def agD:aF P 268 (U [.p,.g] Ak):=ua (t1 Tf) Tryz.func268
def aeg:aF P 269 (U [.p] oR):=ua (t1 Zd) Tryz.func269
def af9:aF P 318 (U [.g,.g] uG):=ua t0 Tryz.func318
def V5:aF P 278 (U [.g,.g] rO):=ua (t1 af9) Tryz.func278
def age:aF P 310 (U [.g,.g] zl):=ua (t1 V5) Tryz.func310
def aes:aF P 231 (U [.g,.g] ql):=ua (tk V5 (tx agv t0)) Tryz.func231
def V7:aF P 232 (U [.g,.g] qm):=ua (tx agu t0) Tryz.func232
def af2:aF P 329 (U [.g,.g] ju):=ua (t1 V7) Tryz.func329
def ab0:aF P 311 (U [.g,.b] dM):=ua (t2 aes af2) Tryz.func311
def agC:aF P 270 (U [.g,.g] gI):=ua (t4 M8 ad9 age ab0) Tryz.func270
def ad8:aF P 312 (U [.l] zk):=ub [(3,[(2,vq),(3,vb),(4,vq),(8,vl),(9,vi),(10,vi)])] (t1 V7) Tryz.func312
def agB:aF P 271 (U [.g,.g,.b] nY):=ua (t4 V7 V5 ab0 ad8) Tryz.func271
def agA:aF P 272 (U [.g,.g,.b] mM):=ua (t4 V7 V5 ab0 ad8) Tryz.func272
def aef:aF P 273 (U [.p,.g,.g,.b] iO):=ua (tk Pp (tk ab8 (tk aeE (tk Zd (tk aeD (tk ab7 (tk ab6 (tk KD (tk aej t0))))))))) Tryz.func273
def agW:aF P 226 (U [.p,.g] qd):=ua (tk Te (tk aet (tk Za (tk aer (tk Y' (tk aeh (tk agD (tk aeg (tk agC (tk agB (tk agA (tk aef t0)))))))))))) Tryz.func226
def agr:aF P 284 (U [.p,.n,.g] mD):=ua (t2 KD ab3) Tryz.func284
def agS:aF P 234 (U [.p,.g,.n] dk):=ua (t6 Pp ab7 Te KD aee agr) Tryz.func234
def aeB:aF P 184 eH.u:=e0 (t5 Tf aes V7 aer agS) Tryz.func184 λa K w h=>by unfold eH.u at h;split at h;exact fi h;exact h.elim
def aga:aF P 316 (U [.g,.g] gO):=ua (t1 M8) Tryz.func316
def agz:aF P 274 (U [.p,.g] Ap):=ua (t3 Te Y' aga) Tryz.func274
def agy:aF P 275 (U [.g,.g] o5):=ua (t2 M8 V5) Tryz.func275
def agx:aF P 276 (U [.p,.g] nV):=ua (t1 Tf) Tryz.func276
def agV:aF P 227 (U [.p,.g] su):=ua (tk Te (tk aeB (tk aeh (tk aeg (tk aef (tk agz (tk agy (tk agx t0)))))))) Tryz.func227
def ahk:aF P 181 oD.u:=e0 (t4 aet Za agW agV) Tryz.func181 λa K w h=>by unfold oD.u at h;split at h;exact fi h;exact h.elim
def agX:aF P 223 (U [.p,.l,.l,.v] mK):=ub [(2,[(8,vi),(14,vl),(15,vi),(16,vi)])] (t4 aek ael Zb ahk) Tryz.func223
def ahm:aF P 179 (U [.p,.l,.v,.v] pz):=ub [(3,[(8,vl),(9,vl),(10,vi)])] (t3 Zb agY agX) Tryz.func179
def ahJ:aF P 133 (U [.p,.l] rB):=ua (t1 ahm) Tryz.func133
def ahj:aF P 182 eQ.u:=e0 (t1 KD) Tryz.func182 λa K w h=>by unfold eQ.u at h;split at h;exact fi h;exact h.elim
def af':aF P 317 (U [.p] uo):=ua t0 Tryz.func317
def agw:aF P 277 (U [.p] nU):=ua (t1 af') Tryz.func277
def agT:aF P 230 fD.u:=e0 (t2 Te agw) Tryz.func230 λa K w h=>by unfold fD.u at h;split at h;exact fi h;exact h.elim
def ahi:aF P 183 tW.u:=e0 t0 Tryz.func183 λa K w h=>by unfold tW.u at h;split at h;exact fi h;exact h.elim
def ahH:aF P 135 (U [.p] l9):=ua (t1 aeC) Tryz.func135
def ahI:aF P 134 u0.u:=eHT mixed ahj ahi aeB agT
def e98:aF P 98 (U [.p,.g] xF):=ua (t5 aeS ahK ahJ ahI ahH) Tryz.func98
def e55:aF P 55 (U [.p,.g] m8):=ua (t5 e94 e95 e96 e97 e98) Tryz.func55
def e27:aF P 27 (U [.p,.s] kn):=ua (t3 e33 e54 e55) Tryz.func27
def ahY:aF P 105 (U [.n] uJ):=ua t0 Tryz.func105
def agQ:aF P 239 (U [.s] uP):=ua (t2 aep aeo) Tryz.func239
def agq:aF P 285 (U [.s,.i .u8] nS):=uc [0] [(1,[(0,.s .empty),(4,.s .empty)])] t0 Tryz.func285
def agp:aF P 286 (U [.s,.i .u8] nt):=uc [0] [(1,[(0,.s .empty),(4,.s .empty)])] t0 Tryz.func286
def agP:aF P 240 (U [.s,.s] ix):=ua (t2 agq agp) Tryz.func240
def ab5:aF P 195 (U [.s] mm):=ua (t6 e60 TV acf aeq agQ agP) Tryz.func195
def agR:aF P 238 (U [.s] yH):=ua (t4 e60 TV e69 aey) Tryz.func238
def ahf:aF P 190 (U [.p,.n] pN):=ua (t3 Ze ab5 agR) Tryz.func190
def ahE:aF P 143 (U [.p] sw):=ua (t1 ahf) Tryz.func143
def aex:aF P 194 (U [.p,.n,.n,.n,.n] jl):=ub [(5,[(10,.s .empty),(11,vb),(12,vq),(48,vi),(49,vi)])] (t6 e76 Tg Ze ab5 ahb aha) Tryz.func194
def ahD:aF P 145 (U [.g,.p,.n,.n,.n] qY):=ua (t2 aeM aex) Tryz.func145
def ahX:aF P 106 (U [.p,.g] yc):=ua (t4 e85 ahE aeL ahD) Tryz.func106
def ahC:aF P 146 (U [.p,.n,.n] sq):=ua (t1 e76) Tryz.func146
def ahB:aF P 147 (U [.p,.n,.n,.n] gu):=ua (tk e60 (tk TV (tk Pq (tk Tg (tk Ze (tk aex (tk ab5 t0))))))) Tryz.func147
def ahW:aF P 107 (U [.p,.n,.n,.n] lq):=ub [(7,[(8,vp),(9,vl),(10,vi),(11,vq),(12,vl)])] (t2 ahC ahB) Tryz.func107
def e58:aF P 58 (U [.p] m9):=ub [(14,[(2,vp),(3,vi),(6,vp),(10,vq),(59,vl),(60,vi),(61,vi)])] (tk e33 (tk e76 (tk e94 (tk e98 (tk ahY (tk ahX (tk ahW t0))))))) Tryz.func58
def e75:aF P 75 (U [.n] tS):=ub [(3,[(2,vp),(3,vq),(8,vi),(9,vi)])] (t1 aeQ) Tryz.func75
def e41:aF P 41 (U [.n] qD):=ua (t3 e58 e75 e76) Tryz.func41
def e78:aF P 78 (U [.n,.n] bN):=ub [(5,[(4,.s .empty),(5,vi),(6,vu),(7,.s .empty),(8,vi)])] t0 Tryz.func78
def Zg:aF P 117 (U [.g,.n] gr):=ua t0 Tryz.func117
def e81:aF P 81 (U [.g] dw):=ub [(3,[(1,vq),(2,.s .empty),(3,.s .empty),(4,vi)]),(7,[(1,vq),(2,.s .empty),(3,.s .empty),(4,vi),(5,vi),(6,vi)])] (t1 Zg) Tryz.func81
def e79:aF P 79 (U [.g] lM):=ua (t2 e78 e81) Tryz.func79
def e80:aF P 80 (U [.g] lJ):=ua (t2 e78 e81) Tryz.func80
def aeJ:aF P 149 (U [.g] dg):=ua t0 Tryz.func149
def aeI:aF P 150 (U [.g] bY):=ua t0 Tryz.func150
def acb:aF P 116 (U [.n,.l,.l,.l] cD):=ub [(4,[(8,vb),(36,vl),(37,vi),(38,vi)]),(10,[(8,vb),(49,vl),(50,vi),(51,vi)]),(16,[(8,vb),(59,vl),(60,vi),(61,vi)])] (t2 aeJ aeI) Tryz.func116
def e77:aF P 77 (U [.n,.l,.l,.l] ik):=ub [(5,[(8,.s .empty),(9,.s .empty),(28,vl),(29,vi),(30,vi)]),(11,[(8,.s .empty),(9,.s .empty),(44,vl),(45,vi),(46,vi)]),(17,[(8,.s .empty),(9,.s .empty),(60,vl),(61,vi),(62,vi)])] (t4 e78 e79 e80 acb) Tryz.func77
def e42:aF P 42 (U [.n] jb):=ua (t1 e77) Tryz.func42
def e82:aF P 82 (U [.b] oF):=ua t0 Tryz.func82
def e43:aF P 43 (U [.g] lG):=ub [(5,[(2,.s .empty),(3,.s .empty),(23,vl),(24,vi),(25,vi)]),(12,[(2,.s .empty),(3,.s .empty),(43,vl),(44,vi),(45,vi)]),(19,[(2,.s .empty),(3,.s .empty),(63,vl),(64,vi),(65,vi)])] (t5 e78 e79 e80 e81 e82) Tryz.func43
def e14:aF P 14 (U [] dN):=ua (t6 e20 e26 e27 e41 e42 e43) Tryz.func14
def e15:aF P 15 (U [.l] gn):=ub [(3,[(2,vb),(3,vi),(6,vl),(7,vi),(8,vi)])] t0 Tryz.func15
def Xy:aF P 16 (U [] fE):=ua (t1 e41) Tryz.func16
def e31:aF P 31 (U [.p,.l,.l,.n,.n] cT):=ub [(4,[(10,vb),(48,vi),(49,vi)]),(10,[(10,vb),(66,vi),(67,vi)])] t0 Tryz.func31
def e52:aF P 52 (U [.g,.n] bW):=ua t0 Tryz.func52
def e88:aF P 88 (U [.g,.g] cU):=ua t0 Tryz.func88
def e53:aF P 53 (U [.g,.g] jW):=ua (t1 e88) Tryz.func53
def e25:aF P 25 (U [.p,.n] au):=ub [(3,[(4,vq),(5,vq),(21,vl),(22,vi),(23,vi)])] (t2 e52 e53) Tryz.func25
def e84:aF P 84 (U [.p] il):=ub [(3,[(2,vl),(3,vl),(9,vi),(10,vi)])] (t1 e25) Tryz.func84
def e45:aF P 45 (U [.p,.l,.l,.n,.n] kS):=ua (t2 e31 e84) Tryz.func45
def e18:aF P 18 (U [.p,.p] dT):=ua (t6 e20 e21 e22 e26 e30 e45) Tryz.func18
def e46:aF P 46 (U [.p] qA):=ua t0 Tryz.func46
def e19:aF P 19 (U [.p] fQ):=ua (t1 e46) Tryz.func19
def e28:aF P 28 (U [.p] mU):=ua (t1 e56) Tryz.func28
def e57:aF P 57 (U [.p,.i .u64,.n,.n] nh):=uc [3] [(3,[(3,vi),(18,vl),(19,vi),(20,vi)])] t0 Tryz.func57
def e29:aF P 29 (U [.p,.i .u64,.n,.n] iQ):=ua (t2 e57 e58) Tryz.func29
def e74:aF P 74 (U [.p,.n] oL):=ua t0 Tryz.func74
def e37:aF P 37 (U [.p,.n] nL):=ua (t1 e74) Tryz.func37
def e40:aF P 40 (U [.g] jA):=ua t0 Tryz.func40
def aeH:aF P 151 (U [.g] dZ):=ua t0 Tryz.func151
def aeG:aF P 152 (U [.g] bl):=ua t0 Tryz.func152
def ahU:aF P 118 (U [.g] gY):=ub [(4,[(1,vq),(2,vb),(16,vl),(17,vi),(18,vi)]),(10,[(1,vq),(2,vb),(32,vl),(33,vi),(34,vi)])] (t4 aeJ aeI aeH aeG) Tryz.func118
def ab9:aF P 153 (U [.p] iw):=ua t0 Tryz.func153
def ag':aF P 202 (U [.p] cR):=ub [(1,[(7,vl),(8,vi),(9,vi)])] t0 Tryz.func202
def ahA:aF P 154 (U [.p,.n] kR):=ua (t1 ag') Tryz.func154
def ahz:aF P 155 (U [.l] me):=ub [(3,[(2,vl),(3,vl),(6,vl),(7,vi),(8,vi)])] t0 Tryz.func155
def ahy:aF P 156 (U [.l] lC):=ub [(3,[(2,vl),(3,vl),(6,vl),(7,vi),(8,vi)])] t0 Tryz.func156
def ag9:aF P 203 (U [.g] ny):=ua t0 Tryz.func203
def aed:aF P 297 (U [.g] kH):=ub [(3,[(1,vq),(2,.s .empty),(3,vl),(4,vi)]),(7,[(1,vq),(2,.s .empty),(3,vl),(4,vi),(5,vi),(6,vi)]),(16,[(2,.s .empty),(8,.s .empty),(46,vl),(47,vi),(48,vi)])] (t1 Zg) Tryz.func297
def af5:aF P 326 (U [.n,.n] nj):=ua t0 Tryz.func326
def ago:aF P 294 (U [.g] bB):=ua (t2 aed af5) Tryz.func294
def ab1:aF P 295 (U [.p,.g] fF):=ub [(2,[(3,vq),(4,vi),(10,vl),(11,vi),(12,vi)])] t0 Tryz.func295
def agn:aF P 296 (U [.g,.g] im):=ua t0 Tryz.func296
def agO:aF P 246 (U [.p,.g] kT):=ua (t3 ago ab1 agn) Tryz.func246
def V6:aF P 248 (U [.g] gZ):=ua (t1 e52) Tryz.func248
def agm:aF P 298 (U [.g] bQ):=ua (t2 e52 V6) Tryz.func298
def ab2:aF P 247 (U [.g] aV):=ua (t4 e52 V6 aed agm) Tryz.func247
def e89:aF P 89 (U [.g,.g] hG):=ub [(2,[(2,vq),(3,vq),(4,vb),(5,vi)])] (t1 Zg) Tryz.func89
def aec:aF P 299 (U [.p,.g] iu):=ub [(2,[(3,vq),(4,vi),(10,vl),(11,vi),(12,vi)])] t0 Tryz.func299
def aeb:aF P 300 (U [.g,.g] lK):=ua t0 Tryz.func300
def agl:aF P 301 (U [.p,.g,.n] gR):=ua (t3 e25 ab9 ab1) Tryz.func301
def aea:aF P 302 (U [.p,.g,.g,.n] iv):=ua t0 Tryz.func302
def agN:aF P 249 (U [.p,.g] az):=ua (tk e52 (tk e89 (tk ab2 (tk V6 (tk aec (tk aeb (tk agl (tk aea t0)))))))) Tryz.func249
def agk:aF P 303 (U [.g,.g] lH):=ua (t1 e89) Tryz.func303
def af4:aF P 327 (U [] oH):=ua t0 Tryz.func327
def af0:aF P 334 (U [.g,.n] pB):=ua t0 Tryz.func334
def af3:aF P 328 (U [.g,.g] gp):=ub [(6,[(2,vq),(3,vq),(4,vq),(5,vb),(6,vq),(7,vi),(8,vi)])] (t3 e89 Zg af0) Tryz.func328
def ad':aF P 304 (U [.g,.b] dD):=ua (t3 e88 af4 af3) Tryz.func304
def agj:aF P 305 (U [.g,.b,.g,.b] cm):=ua (t3 e88 e89 ad') Tryz.func305
def agM:aF P 250 (U [.p,.g] bV):=ua (tk e25 (tk e52 (tk ab2 (tk V6 (tk ab1 (tk aec (tk aeb (tk aea (tk agk (tk ad' (tk agj t0))))))))))) Tryz.func250
def ag8:aF P 204 (U [.p,.g] jx):=ua (t5 agO ab2 V6 agN agM) Tryz.func204
def ahx:aF P 157 (U [.p,.l] cB):=uc [0] [(3,[(0,vp),(4,vl),(5,vp),(6,vl),(7,vi)]),(5,[(0,vp),(4,vl),(5,vp),(6,vl),(7,vi),(8,vi)]),(15,[(0,vp),(4,vl),(5,vp),(6,vl),(7,vi),(8,vi),(9,vi),(10,vi),(11,vp),(12,vi)]),(21,[(0,vp),(4,vl),(5,vp),(6,vl),(7,vi),(8,vi),(9,vi),(10,vi),(11,vp),(13,vi)])] (t3 ab9 ag9 ag8) Tryz.func157
def ahT:aF P 119 (U [.p,.g] jv):=ua (t6 aeH ab9 ahA ahz ahy ahx) Tryz.func119
def ahw:aF P 158 (U [.l,.l] ma):=ub [(3,[(4,vl),(5,vl),(10,vl),(11,vi),(12,vi)]),(6,[(4,vl),(5,vl),(7,vq),(10,vl),(11,vi),(12,vi),(16,vl),(17,vi),(18,vi)])] t0 Tryz.func158
def ahv:aF P 159 (U [.l,.l] lA):=ub [(3,[(4,vl),(5,vl),(10,vl),(11,vi),(12,vi)]),(6,[(4,vl),(5,vl),(7,vq),(10,vl),(11,vi),(12,vi),(16,vl),(17,vi),(18,vi)])] t0 Tryz.func159
def ahu:aF P 160 (U [.l,.g] bR):=ub [(3,[(3,vq),(4,vl),(5,vl),(10,vi),(11,vi)])] t0 Tryz.func160
def ahS:aF P 120 (U [.l,.l,.g] oa):=ua (t4 aeG ahw ahv ahu) Tryz.func120
def e83:aF P 83 (U [.p,.g] nZ):=ua (t6 e40 e77 e84 ahU ahT ahS) Tryz.func83
def e44:aF P 44 (U [.p,.s] pA):=ua (t4 e33 e40 e42 e83) Tryz.func44
def e17:aF P 17 (U [.p,.g] aG):=ua (tk e18 (tk e19 (tk e27 (tk e28 (tk e29 (tk e37 (tk e42 (tk e44 t0)))))))) Tryz.func17
def e59:aF P 59 (U [.p] ru):=ua (t1 aeT) Tryz.func59
def e32:aF P 32 (U [.p] jK):=ua (t1 e59) Tryz.func32
def e38:aF P 38 (U [.p] iM):=ua t0 Tryz.func38
def e39:aF P 39 (U [.p] ia):=ua t0 Tryz.func39
end Go.Proofs.YtibneekkkdnmgaaGreatDoor
namespace Go.Proofs.YtibneekkkdnmgaaGreatDoor
open Go.ChangeShapes Go.WideShapes Go.ChangeAt Go.RowKit Go.Den Go.Sep Go.Prog Go.Up
def adj(b j:Nat):(ad b 0).add j=⟨b,j,none⟩:=by
 unfold Addr.add;split
 ·rename_i h;rw[h]
 ·simp
def MS{W:World}(h:laidMetH Tryz.prog Rows.coreServesRow.laid W):mY W:=by
 rw[MakeChecks.laidMetH_plain _ _ _ (by kernel_rfl)] at h;obtain⟨ps,⟨g0,t0,cs0,f0,p0,q0,-,-,-,-,⟨g,t,cs,fuel,p,q,hg,ht,hv,hd,⟨g2,t2,zU,aiu,p2,q2,xX,OY,Vq,Rg,-,-⟩,-⟩,-⟩,-,-⟩:=h;obtain rfl:=aY.inj ((show Tryz.prog.globalNamed "bondstore/wide.Most"=some 0 by kernel_rfl).symm.trans hg);obtain rfl:=aY.inj ((show(Tryz.prog.globals[0]?).map (·.type)=some 45 by kernel_rfl).symm.trans ht);obtain rfl:=aY.inj ((show Tryz.prog.globalNamed "bondstore/hold.told"=some 1 by kernel_rfl).symm.trans xX);obtain rfl:=aY.inj ((show(Tryz.prog.globals[1]?).map (·.type)=some 374 by kernel_rfl).symm.trans OY);have c38:Tryz.prog.cellsOf 27=1:=by kernel_rfl
 have c3:Tryz.prog.cellsOf 81=1:=by kernel_rfl
 have c40:Tryz.prog.cellsOf 45=2:=by kernel_rfl
 have ah5:Tryz.prog.cellsOf 374=5:=by kernel_rfl
 refine⟨?_,?_⟩
 ·obtain⟨y0,y1,n,ex,hl,k0,k1⟩:=trod_struct2 Tryz.underlying45 hd;rw[c40] at hl;obtain⟨l⟩:=cs
  match l,hl with
  |[a,b],_=>
   have e3:=(DataW.agg.inj (Prod.mk.inj ex).1);simp only[List.cons.injEq,and_true] at e3;rw[c38] at k0 k1;obtain⟨z0,a0,b0,_⟩:=DataW.trod_int Tryz.underlying27 k0;obtain⟨z1,a1,b1,_⟩:=DataW.trod_int Tryz.underlying27 k1;have hc:∀i,W.cell? ⟨0,i,none⟩=[a,b][i]?:=λi=>by rw[World.var?_cell hg hv i];simp
   simp at a0 a1;subst b0 b1 a0 a1;simp only[DataW.lit.injEq,Lit.int.injEq,true_and] at e3;obtain⟨rfl,rfl⟩:=e3;intro j v hj;rw[adj,hc];exact hj
 ·obtain⟨xs,m,_,ex,hlen,hl,hel⟩:=DataW.trod_array Tryz.underlying374 Rg;rw[ah5] at hlen;obtain⟨l⟩:=zU
  match l,hlen with
  |[a,b,c,d,e],_=>
   match xs,hl with
   |[x0,x1,x2,x3,x4],_=>
    have e3:=(DataW.agg.inj (Prod.mk.inj ex).1);simp only[cW,uS,List.cons.injEq,and_true] at e3;have k0:=hel 0 (by omega);have k1:=hel 1 (by omega);have k2:=hel 2 (by omega);have k3:=hel 3 (by omega);have k4:=hel 4 (by omega);rw[c3] at k0 k1 k2 k3 k4;obtain⟨z0,a0,b0,_⟩:=DataW.trod_int Tryz.underlying81 k0;obtain⟨z1,a1,b1,_⟩:=DataW.trod_int Tryz.underlying81 k1;obtain⟨z2,a2,b2,_⟩:=DataW.trod_int Tryz.underlying81 k2;obtain⟨z3,a3,b3,_⟩:=DataW.trod_int Tryz.underlying81 k3;obtain⟨z4,a4,b4,_⟩:=DataW.trod_int Tryz.underlying81 k4;have hc:∀i,W.cell? ⟨1,i,none⟩=[a,b,c,d,e][i]?:=λi=>by rw[World.var?_cell xX Vq i];simp
    simp at a0 a1 a2 a3 a4;subst b0 b1 b2 b3 b4 a0 a1 a2 a3 a4;simp only[DataW.lit.injEq,Lit.int.injEq,true_and] at e3;obtain⟨rfl,rfl,rfl,rfl,rfl⟩:=e3;intro j v hj;rw[adj,hc];exact hj
end Go.Proofs.YtibneekkkdnmgaaGreatDoor
